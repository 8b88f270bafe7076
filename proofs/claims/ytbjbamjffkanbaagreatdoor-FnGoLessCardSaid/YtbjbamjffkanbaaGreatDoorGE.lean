/-
  Words and walks for the laws of pedlar's seat: what each function of the program computes, and that it does; no conditions beyond those that each statement names.
-/
import Derived.Test.YtbjbamjffkanbaaGreatDoorGD
import Derived.Test.YtbjbamjffkanbaaGreatDoorGB
import Derived.WalkKit
import Derived.LaidEql
import Derived.Stop.Asserts
import Derived.RowKitTokens
import Derived.ProofKit
import Derived.OpenShut
import Derived.ChangeOld
import Derived.Below
import Derived.LaidMore
import Derived.Lay
import Derived.SevenTiedAt
import Derived.Stop.Joined
import Derived.Stop.LaidErr
set_option linter.unusedVariables false
set_option linter.unusedSimpArgs false
set_option linter.unnecessarySimpa false
set_option linter.unusedSectionVars false
namespace Go.Proofs.YtbjbamjffkanbaaGreatDoor
open Go Go.RowKit
set_option maxRecDepth 20000
theorem JA(s:BL):iO s 20<=20:=by
 have key:∀ (l:BL) (n:Int),n<=20->l.foldl (jq 20) n<=20:=fun l=>by
  induction l with
  | nil=>exact fun n h=>h
  | cons c l ih=>exact fun n _=>ih _ (by unfold jq;omega)
 unfold iO
 split
 exact key s 0 Z9
 omega
def nA(gs:List k9):Prop:= ∀ y,y∈gs->y.wa<=20
theorem nA.set{gs:List k9}{f:k9->k9}(h:nA gs)(hf:∀ z,gs.getLast? =some z->(f z).wa<=20):nA (cX gs f):=by
 by_cases hn:gs=[]
 subst hn;simp[cX,nA]
 obtain⟨⟨l,z⟩,rfl⟩:=jU hn
 rw[dW]
 intro y hy
 rcases Y1.1 hy with hy | hy
 exact h y (by simp[hy])
 rw[YZ.1 hy];exact hf z Z8
theorem Iv{gs:List k9}{w d:BL}{b:Bool}(h:nA gs):nA (fm gs w d b).1:=by
 have hl:∀ z,gs.getLast? =some z->z.wa<=20:=fun z hz=>h z (List.mem_of_getLast? hz)
 unfold fm
 split
 split
 intro y hy
 rcases Y1.1 hy with hy | hy
 exact h y hy
 rw[YZ.1 hy];simp
 exact h.set fun z hz=>hl z hz
 split
 exact h
 split
 exact h.set fun z hz=>hl z hz
 split
 exact h.set fun z hz=>by have:=JA d;simp only;omega
 exact h
theorem DQ(t:BL):nA (cq t):=by
 have:∀ (l:List BL) (x:List k9×Bool),nA x.1->nA (l.foldl cI x).1:=by
  intro l
  induction l with
  | nil=>exact fun x h=>h
  | cons a l ih=>exact fun x h=>ih _ (Iv h)
 exact this _ _ (by intro y hy;simp at hy)
theorem HP(n:BL):∀ (gs:List k9) {x:(List s6×Nat)×Bool},x.1.2<=20->nA gs->(gs.foldl (cm n) x).1.2<=20
 | [],x,h,_=>h
 | g::gs,x,h,h2=>by
   refine HP n gs ?_ (fun y hy=>h2 y (by simp[hy]))
   unfold cm
   split
   have:=h2 g Z8;simp only;omega
   exact h
theorem AW{gs:List k9}(n:BL)(h:nA gs):(fc gs n).wa<=20:=by
 have key:∀ q,(OD gs q).1.wa<=20:=fun q=>HP q gs Z8 h
 unfold fc
 split <;> exact key _
theorem jS(k:Int)(t n:BL):(bD k t n).wa<=20:=by
 unfold bD
 split
 exact AW n (DQ t)
 split
 simp
 exact AW n (fun y hy=>by simp at hy)
def Oa(ru:List s6)(x:u7):Bool:=az x.ad&&aD ru (pathOf x.ad)
def Nr(y:j9)(s:BL):Bool:=az s&&aD y.gr.ru (pathOf s)
def Nc(y:j9)(x:u7):Bool:=Nr y x.ad
def K3(y:j9)(l:List u7):Int:=if (l.findIdx fun x=>!(Nr y x.ad))<l.length then ((l.findIdx fun x=>!(Nr y x.ad):Nat):Int) else -1
def bK(w:List Pg)(n d:BL):k9:=⟨[n],(bD (af w (ag d) 2).1 (af w (ag d) 2).2 n).ru,(bD (af w (ag d) 2).1 (af w (ag d) 2).2 n).wa⟩
def o5(w:List Pg)(y:j9)(a7:Int):j9:=de y a7 (af w (ag y.na) y.tr).1 y.tr
def NW(w:List Pg)(n:BL)(y:j9)(a7:Int):j9:=
 if (af w (ag y.na) y.tr).1=3/\y.tr+1<3 then { o5 w y a7 with tr:=y.tr+1 }
 else { o5 w y a7 with kn:=true,gr:=bK w n y.na,re:=max (o5 w y a7).re (a7+((bK w n y.na).wa:Int)),td:=y.td.filter (Oa (bK w n y.na).ru) }
def C3(w:List Pg)(y:j9)(a7:Int):j9:=de { y with td:=y.td.drop 1 } a7 (af w (y.td.getD 0 l3).ad (y.td.getD 0 l3).tr).1 (y.td.getD 0 l3).tr
def Qi(w:List Pg)(t:j8)(i:Nat):j8:=
 { t with hs:=t.hs.set i (NW w t.na (t.hs.getD i e9) t.a7),lk:=t.lk++[⟨t.a7,ag (t.hs.getD i e9).na,(af w (ag (t.hs.getD i e9).na) (t.hs.getD i e9).tr).1⟩] }
def MJ(w:List Pg)(t:j8)(i:Nat):j8:=
 let y:=t.hs.getD i e9
 let it:=y.td.getD 0 l3
 let g:=af w it.ad it.tr
 let t1:j8:={ t with hs:=t.hs.set i (C3 w y t.a7),lk:=t.lk++[⟨t.a7,it.ad,g.1⟩] }
 if g.1=3/\it.tr+1<3 then { t1 with hs:=t.hs.set i { C3 w y t.a7 with td:=y.td.drop 1++[⟨it.ad,it.tr+1⟩] } }
 else if az it.ad=true then (EM it.ad g.1 g.2).foldl ak t1 else t1
theorem mN(l:List BL):∀ t:j8,(l.foldl ak t).na=t.na/\(l.foldl ak t).a7=t.a7/\(l.foldl ak t).lk=t.lk:=by
 induction l with
 | nil=>exact fun t=>⟨rfl,rfl,rfl⟩
 | cons a l ih=>exact fun t=>ih (ak t a)
structure HS (m:Nat) (y:j9):Prop where
 n:y.na.length<=1000
 r:y.gr.ru.length<=1000
 rp:∀ i,(y.gr.ru.getD i ⟨false,[]⟩).path.length<=1000
 w:y.gr.wa<=1000
 t:y.td.length+60<=1000+m
 ta:∀ x,x∈y.td->x.ad.length<=1000/\m5 x.ad/\0<=x.tr/\x.tr<=1000
 k:0<=y.tr/\y.tr<=1000
theorem HS.mono{m k:Nat}{y:j9}(h:HS m y)(hm:m<=k):HS k y:=⟨h.n,h.r,h.rp,h.w,by have:=h.t;omega,h.ta,h.k⟩
structure TS (t:j8):Prop where
 s:t.se.length<=60
 h:t.hs.length+60<=1000+t.se.length
 sa:∀ x,x∈t.se->x.length<=1000/\m5 x
 ha:∀ y,y∈t.hs->HS t.se.length y
theorem IE{t:j8}{s:BL}(h:TS t)(hn:t.na.length<=1000)(hs:s.length<=1000)(hc:m5 s)(hd:(ab s).length<=1000):TS (ak t s):=by
 have e1:(ak t s).se=ct t.se s:=rfl
 have e2:(ak t s).hs=aQ t.na t.hs t.se s:=rfl
 by_cases hr:dq t.se s
 have e3:ct t.se s=t.se++[s]:=if_pos hr
 have e4:aQ t.na t.hs t.se s=(ax t.hs (ab s) t.na).set (r7 t.hs (ab s)) (ba ((ax t.hs (ab s) t.na).getD (r7 t.hs (ab s)) e9) s):=if_pos hr
 have hl:(ax t.hs (ab s) t.na).length<=t.hs.length+1:=tn _ _ _
 have hin:∀ y,y∈ax t.hs (ab s) t.na->HS t.se.length y:=fun y hy=>by
  unfold ax at hy
  split at hy
  exact h.ha y hy
  rcases Y1.1 hy with hy | hy
  exact h.ha y hy
  rw[YZ.1 hy]
  exact⟨hd,by simp[bM],by simp[bM],by simp[bM],by show 0+60<=1000+t.se.length;omega,by simp[bM],by simp[bM]⟩
 have h2:=hr.2.1
 refine⟨by rw[e1,e3];simp;omega,?_,fun x hx=>?_,fun y hy=>?_⟩
 rw[e1,e2,e3,e4,List.length_set];have:=h.h;simp;omega
 rw[e1,e3]at hx
 rcases Y1.1 hx with hx | hx
 exact h.sa x hx
 rw[YZ.1 hx];exact⟨hs,hc⟩
 rw[e1,e3]
 rw[e2,e4]at hy
 have hm:(t.se++[s]).length=t.se.length+1:=Z8
 rw[hm]
 rcases bQ hy with e | hy
 have hm:(ax t.hs (ab s) t.na).getD (r7 t.hs (ab s)) e9∈ax t.hs (ab s) t.na:=by
  rw[YQ,YX (cK ..)];exact List.getElem_mem _
 have A4:=hin _ hm
 rw[e]
 unfold ba
 split
 exact A4.mono Z9
 refine⟨A4.n,A4.r,A4.rp,A4.w,?_,fun x hx=>?_,A4.k⟩
 show (_++[_]).length+60<=_
 have:=A4.t
 rw[YT,Zj];omega
 rcases Y1.1 hx with hx | hx
 exact A4.ta x hx
 rw[YZ.1 hx];exact⟨hs,hc,Z8,Z8⟩
 exact(hin y hy).mono Z9
 have e3:ct t.se s=t.se:=if_neg hr
 have e4:aQ t.na t.hs t.se s=t.hs:=if_neg hr
 exact⟨by rw[e1,e3];exact h.s,by rw[e1,e2,e3,e4];exact h.h,by rw[e1,e3];exact h.sa,by rw[e1,e2,e3,e4];exact h.ha⟩
theorem sD:∀ (l:List BL) {t:j8},TS t->t.na.length<=1000->(∀ s,s∈l->s.length<=1000/\m5 s/\(ab s).length<=1000)->TS (l.foldl ak t)
 | [],t,h,_,_=>h
 | a::l,t,h,hn,hl=>by
   have:=hl a Z8
   exact sD l (IE h hn this.1 this.2.1 this.2.2) hn (fun s hs=>hl s (by simp[hs]))
def gy(y:j9)(l:List u7):List u7:=l.filter (Nc y)++List.replicate (l.length-(l.filter (Nc y)).length) l3
theorem JS{y:j9}{s:BL}:(!((ar s).isSome)||!(aD y.gr.ru (if aG (oA (ar s))=true then bj (oA (ar s)) else [])))=!(Nr y s):=by
 unfold Nr
 rw[gP]
 by_cases h:az s=true
 have e:ar s=aw s:=if_pos h
 have hs:(aw s).isSome=true:=by have:=h;unfold az at this;rw[YS]at this;exact this.1
 rw[h,e,if_pos (gU hs)];rfl
 rw[Bool.not_eq_true]at h
 rw[h];rfl
section
variable {y:j9} {l u:List u7} {i w:Nat}
theorem CO{p:u7->Bool}(hi:i<l.length)(e:p (l.getD i l3)=true)(h:∀ j,j<i->p (l.getD j l3)=false):l.findIdx p=i:=by
 rw[List.findIdx_eq hi]
 simp only[YQ,YX hi]at e
 refine⟨by simpa using e,fun j hj=>?_⟩
 have:=h j hj
 simp only[YQ,YX (show j<l.length by omega)]at this
 simpa using this
theorem JN(hi:i<l.length)(e:Nr y (l.getD i l3).ad=false)(h:∀ j,j<i->Nr y (l.getD j l3).ad=true):K3 y l=i:=by
 unfold K3
 rw[CO (p:=fun x=>!(Nr y x.ad)) hi (by simp only[e];rfl) (fun j hj=>by simp only[h j hj];rfl),if_pos hi]
theorem Js{p:u7->Bool}(h:∀ j,j<l.length->p (l.getD j l3)=false):l.findIdx p=l.length:=by
 rw[List.findIdx_eq_length]
 intro x hx
 obtain⟨j,hj,rfl⟩:=Zk.1 hx
 have:=h j hj
 simp only[YQ,YX hj]at this
 simpa using this
theorem Lg(h:∀ j,j<l.length->Nr y (l.getD j l3).ad=true):K3 y l= -1:=by
 unfold K3
 rw[Js (p:=fun x=>!(Nr y x.ad)) (fun j hj=>by simp only[h j hj];rfl),if_neg Z9]
theorem yd(y:j9)(l:List u7): -1<=K3 y l/\K3 y l<=l.length/\(K3 y l≠ -1->0<=K3 y l/\K3 y l<l.length):=by
 unfold K3;split <;> omega
theorem rz(h:u.drop i=l.drop i):u.getD i l3=l.getD i l3:=by
 have:=Zq (fun r=>r[0]?) h
 simp only[List.getElem?_drop,Nat.add_zero]at this
 rw[YQ,YQ,this]
theorem DN(h:K3 y l= -1):l.filter (Nc y)=l:=by
 unfold K3 at h
 split at h
 omega
 rename_i hn
 have he:(l.findIdx fun x=>!(Nr y x.ad))=l.length:=by
  have:(l.findIdx fun x=>!(Nr y x.ad))<=l.length:=List.findIdx_le_length
  omega
 rw[List.findIdx_eq_length]at he
 rw[List.filter_eq_self]
 intro x hx
 simpa[Nc] using he x hx
theorem ME(h: ¬ K3 y l= -1):(K3 y l).toNat<(K3 y l).toNat+1/\(K3 y l).toNat+1<=l.length/\l.length=l.length/\l.take (K3 y l).toNat=(l.take ((K3 y l).toNat+1)).filter (Nc y)/\l.drop ((K3 y l).toNat+1)=l.drop ((K3 y l).toNat+1):=by
 obtain⟨b1,b2⟩:=(yd y l).2.2 h
 have hk:(K3 y l).toNat=l.findIdx fun x=>!(Nr y x.ad):=by
  unfold K3 at b1 b2 ⊢
  split
  exact Int.toNat_natCast _
  rename_i hn
  rw[if_neg hn]at b1;omega
 have hlt:(K3 y l).toNat<l.length:=Z9
 refine⟨Z9,Z9,rfl,?_,rfl⟩
 rw[List.take_succ_eq_append_getElem hlt,List.filter_append]
 have e1:(l.take (K3 y l).toNat).filter (Nc y)=l.take (K3 y l).toNat:=by
  rw[List.filter_eq_self]
  intro x hx
  obtain⟨j,hj,rfl⟩:=Zk.1 hx
  rw[List.length_take]at hj
  rw[List.getElem_take]
  have:=List.not_of_lt_findIdx (p:=fun x=>!(Nr y x.ad)) (xs:=l) (i:=j) Z9
  simpa[Nc] using this
 have e2:Nc y l[(K3 y l).toNat]=false:=by
  have:=List.findIdx_getElem (p:=fun x=>!(Nr y x.ad)) (xs:=l) (w:=by rw[<- hk];exact hlt)
  simp only[<- hk]at this
  simpa[Nc] using this
 rw[e1]
 simp[e2]
theorem Lw(hi:i<l.length)(h1:w<i)(h3:u.length=l.length)(h4:u.take w=(l.take i).filter (Nc y))(h5:u.drop i=l.drop i)(hk:Nr y (u.getD i l3).ad=true):
 w+1<i+1/\i+1<=l.length/\(u.set w (⟨(u.getD i l3).ad,(u.getD i l3).tr⟩:u7)).length=l.length/\(u.set w (⟨(u.getD i l3).ad,(u.getD i l3).tr⟩:u7)).take (w+1)=(l.take (i+1)).filter (Nc y)/\
  (u.set w (⟨(u.getD i l3).ad,(u.getD i l3).tr⟩:u7)).drop (i+1)=l.drop (i+1):=by
 have e:=rz h5
 have hw:w<u.length:=Z9
 refine⟨Z9,Z9,by simpa using h3,?_,?_⟩
 rw[List.take_succ_eq_append_getElem (by simpa using hw),List.getElem_set_self,List.take_set_of_le (Zg _),h4,List.take_succ_eq_append_getElem hi,List.filter_append]
 have e2:(⟨(u.getD i l3).ad,(u.getD i l3).tr⟩:u7)=l[i]:=by
  show u.getD i l3=l[i]
  rw[e,YQ,YX hi];rfl
 have e3:Nc y l[i]=true:=by rw[<- e2];exact hk
 rw[e2]
 simp[e3]
 rw[List.drop_set_of_lt Z9]
 have:=Zq (List.drop 1) h5
 simpa[List.drop_drop] using this
theorem JY(hi:i<l.length)(h1:w<i)(h3:u.length=l.length)(h4:u.take w=(l.take i).filter (Nc y))(h5:u.drop i=l.drop i)(hk:Nr y (u.getD i l3).ad=false):
 w<i+1/\i+1<=l.length/\u.length=l.length/\u.take w=(l.take (i+1)).filter (Nc y)/\u.drop (i+1)=l.drop (i+1):=by
 refine⟨Z9,Z9,h3,?_,?_⟩
 rw[h4,List.take_succ_eq_append_getElem hi,List.filter_append]
 have e3:Nc y l[i]=false:=by
  have:=rz h5
  rw[YQ (l:=l),YX hi]at this
  show Nr y l[i].ad=false
  rw[<- hk,this];rfl
 simp[e3]
 have:=Zq (List.drop 1) h5
 simpa[List.drop_drop] using this
theorem JR(hi:l.length<=i)(h1:w<i)(h2:i<=l.length)(h3:u.length=l.length)(h4:u.take w=(l.take i).filter (Nc y)):w=(l.filter (Nc y)).length:=by
 have:=Zq List.length h4
 rw[List.length_take,Y3 hi]at this
 omega
theorem Ks(h:K3 y l= -1):gy y l=l:=by unfold gy;rw[DN h];simp
theorem JW(hi:l.length<=i)(h1:w<i)(h2:i<=l.length)(h3:u.length=l.length)(h4:u.take w=(l.take i).filter (Nc y)):gy y l=u.take w++List.replicate (l.length-w) l3:=by
 unfold gy
 rw[<- JR hi h1 h2 h3 h4,h4,Y3 hi]
theorem Lq(h3:u.length=l.length):(u.map ai).take w++List.replicate (l.length-w) (.agg [sV [],iN 0]:V)++(u.map ai).drop (w+(l.length-w))=(u.take w++List.replicate (l.length-w) l3).map ai:=by
 rw[Zc Z0,List.append_nil,Zf,List.map_take,List.map_replicate];rfl
theorem LB:((l.map ai).drop 1).take (l.length-1)++(l.map ai).drop (l.length-1)=(l.drop 1++l.drop (l.length-1)).map ai:=by
 rw[Zf,List.map_drop,List.map_drop,Y3 Z8]
theorem KU(h:0<l.length):((l.drop 1++l.drop (l.length-1)).map ai).take (l.length-1)++List.replicate 1 (.agg [sV [],iN 0]:V)++((l.drop 1++l.drop (l.length-1)).map ai).drop (l.length-1+1)=(l.drop 1++[l3]).map ai:=by
 rw[show ((l.drop 1++l.drop (l.length-1)).map ai).drop (l.length-1+1)=[] from Zc Z0,List.append_nil,<- List.map_take,List.take_append_of_le_length Z8,Y3 Z8,Zf];rfl
end
def sh(n:BL)(a7:Int)(zs:List j9)(se:List BL)(ls:List l7)(gt:Nat)(g:Nat)(o:Nat)(c:Nat)(ix:Nat)(y:j9)(ga:Nat)(oa:Nat)(ca:Nat)(l:List u7)(gb:Nat)(s:BL)(v:Int):o6 Tryz.prog:=.mk 143 [.agg [sV s,iV v],.ptr (.key 1002) [] gb 0] [(1002,(gb,.ptr (.key 1000) [2,ix] g (o+ix*8))),(1000,(gt,bw n a7 zs ix y.na y.re y.kn y.gr.na y.gr.ru y.gr.wa y.tr l ga oa ca g o c se ls))] ((ix<zs.length)/\(s.length<=1000)/\(m5 s)/\(y.gr.ru.length<=1000)/\(∀ i,(y.gr.ru.getD i ⟨false,[]⟩).path.length<=1000)) (bV (!(Nr y s))) [(1002,(gb,.ptr (.key 1000) [2,ix] g (o+ix*8))),(1000,(gt,bw n a7 zs ix y.na y.re y.kn y.gr.na y.gr.ru y.gr.wa y.tr l ga oa ca g o c se ls))] (by
 rintro⟨hi,hs,hc,hr,Uv⟩
 refine av (N:=25) (rs:=[.tmp 3]) Tryz.func143
  (.bx (fun g2=>.q 1<|.r 2 [.a8]<|.c (cv s) []<|.q 3<|.al dg (fun g4=>.st none<|.q 1<|.dx 13 [0,1,2,3,4,5,6,7,8,9,10,11,12] [(3,⟨false,[],some [1002],[15],[]⟩),(7,⟨false,[],some [1000],[19],[]⟩),(8,⟨false,[],some [4],[20],[]⟩)] []<|.q 1<|.q 1<|.q 1<|.r 1 [.a8]<|.q 1<|.q 1<|.q 1<|.r 1 [eL y.gr.ru]<|.r 1 [.a8]<|.cg (iW (oA (ar s)))<|.cg (im y.gr.ru (if aG (oA (ar s))=true then bj (oA (ar s)) else []))<|.q 1<|.q 1<|.q 1<|.nil)))
  ((fun v1:Bool=>(fun v2:V=>(∀ g2:Nat,Z g2 0/\(cv s).sm/\((s.length<=1000000)/\(m5 s))/\∀ g4:Nat,Z g4 0/\Gd v1 (Z gb 0)/\Gd v1 (v1=true)/\Gd v1 True/\Gd v1 (v1=true)/\Gd v1 (v1=true)/\Gd v1 (v1=true)/\Gd v1 (V.at gt 0 v2 [2,ix,3,1]=some (g,(o+ix*8+3+1),eL y.gr.ru))/\Gd v1 (Z g4 0)/\Gd v1 (v1=true)/\Gd v1 (((cP (oA (ar s))))/\(iW (oA (ar s))).sm)/\Gd v1 (v1=true)/\Gd v1 (v1=true)/\Gd v1 (((y.gr.ru.length<=1000000)/\(∀ i,(y.gr.ru.getD i ⟨false,[]⟩).path.length<=1000000)/\((if aG (oA (ar s))=true then bj (oA (ar s)) else []).length<=1000000))/\(im y.gr.ru (if aG (oA (ar s))=true then bj (oA (ar s)) else [])).sm)/\Gd v1 (v1=true)/\Pk (!((ar s).isSome)) true v1/\Q (bV ((!((ar s).isSome))||(!(aD y.gr.ru (if aG (oA (ar s))=true then bj (oA (ar s)) else []))))) (bV (!(Nr y s)))/\Er gb (.ptr (.key 1000) [2,ix] g (o+ix*8))/\Er gt v2)) (bw n a7 zs ix y.na y.re y.kn y.gr.na y.gr.ru y.gr.wa y.tr l ga oa ca g o c se ls)) ((!((ar s).isSome))==false)) ?_
 intro g2
 refine⟨rfl,rfl,⟨Z9,hc⟩,?_⟩
 intro g4
 refine⟨rfl,fun hG=>rfl,fun h=>h,fun hG=>trivial,fun h=>h,fun h=>h,fun h=>h,fun hG=>(aS (f:=2) rfl).trans (aI (aK Z9) rfl),fun hG=>rfl,fun h=>h,fun hG=>⟨by(try simp only[nb]at hG);exact qJ _,rfl⟩,fun h=>h,fun h=>h,fun hG=>⟨⟨by(try simp only[nb]at hG);omega,fun i=>by have:=Uv i;omega,by(try simp only[nb]at hG);have:=(qJ s).path;split <;> simp <;> omega⟩,rfl⟩,fun h=>h,⟨fun _=>rfl,fun h=>by rw[h] <;> rfl⟩,?_⟩
 refine⟨?_,rfl,rfl⟩
 unfold Q
 rw[JS])
def Eg(n:BL)(a7:Int)(zs:List j9)(se:List BL)(ls:List l7)(gt:Nat)(g:Nat)(o:Nat)(c:Nat)(ix:Nat)(y:j9)(ga:Nat)(oa:Nat)(ca:Nat)(l:List u7)(gb:Nat):o6 Tryz.prog:=.mk 174 [.hd (.key 1000) [2,ix,5] 2 ga oa 0 ((l.map ai).length) ca,.lit (.func (.func 143) #[] #[.pointer (some ⟨gb,0,none⟩)])] [(1002,(gb,.ptr (.key 1000) [2,ix] g (o+ix*8))),(1000,(gt,bw n a7 zs ix y.na y.re y.kn y.gr.na y.gr.ru y.gr.wa y.tr l ga oa ca g o c se ls))] ((ix<zs.length)/\(l.length<=1000)/\(∀ x,x∈l->x.ad.length<=1000/\m5 x.ad)/\(y.gr.ru.length<=1000)/\(∀ i,(y.gr.ru.getD i ⟨false,[]⟩).path.length<=1000)) (iV (K3 y l)) [(1002,(gb,.ptr (.key 1000) [2,ix] g (o+ix*8))),(1000,(gt,bw n a7 zs ix y.na y.re y.kn y.gr.na y.gr.ru y.gr.wa y.tr l ga oa ca g o c se ls))] (by
 rintro⟨hi,hl,hx,hr,Uv⟩
 refine av (N:=19) (rs:=[.tmp 4]) Tryz.func174
  (.q 1<|.q 3<|.loop (Nat) (fun (i:Nat)=>⟨[(0,.hd (.key 1000) [2,ix,5] 2 ga oa 0 ((l.map ai).length) ca),(1,.lit (.func (.func 143) #[] #[.pointer (some ⟨gb,0,none⟩)])),(7,iN l.length),(8,iN i)],[(1002,(gb,.ptr (.key 1000) [2,ix] g (o+ix*8))),(1000,(gt,bw n a7 zs ix y.na y.re y.kn y.gr.na y.gr.ru y.gr.wa y.tr l ga oa ca g o c se ls))]⟩) (fun (i:Nat)=>i<=l.length/\∀ j,j<i->Nr y (l.getD j l3).ad=true) (fun (i:Nat)=>l.length-i) (fun (i:Nat)=>.q 1<|.br (.q 2<|.r 5 [.agg [sV ((l.getD i l3).ad),iV ((l.getD i l3).tr)]]<|.c (sh n a7 zs se ls gt g o c ix y ga oa ca l gb ((l.getD i l3).ad) ((l.getD i l3).tr)) [(1002,1002),(1000,1000)]<|.br (.q 2<|.nil) (.q 2<|.nil)) (.q 1<|.nil)))
  ((fun v1:V=>(fun v2:V=>(fun v3:V=>((∃ j6:Nat,(j6<=l.length/\∀ j,j<j6->Nr y (l.getD j l3).ad=true)/\E (.hd (.key 1000) [2,ix,5] 2 ga oa 0 ((l.map ai).length) ca)/\E v3/\Q (iN ((l.map ai).length)) (iN l.length)/\Q (iN 0) (iN j6)/\Er gb v2/\Er gt v1/\True)/\∀ i:Nat,(i<=l.length/\∀ j,j<i->Nr y (l.getD j l3).ad=true)->Br (r9 (i:Int) (l.length:Int)) (In (i:Int) ((l.map ai).length)/\(V.at gt 0 v1 [2,ix,5,0+i]=some (ga,(oa+(0+i)*2),.agg [sV ((l.getD i l3).ad),iV ((l.getD i l3).tr)]))/\(sh n a7 zs se ls gt g o c ix y ga oa ca l gb ((l.getD i l3).ad) ((l.getD i l3).tr)).sm/\Er gb v2/\Er gt v1/\((ix<zs.length)/\(((l.getD i l3).ad).length<=1000)/\(m5 ((l.getD i l3).ad))/\(y.gr.ru.length<=1000)/\(∀ i,(y.gr.ru.getD i ⟨false,[]⟩).path.length<=1000))/\Br (!(Nr y ((l.getD i l3).ad))) (Q (iN i) (iV (K3 y l))/\Er gb v2/\Er gt v1) (m8 ((i:Int)+1)/\∃ b7:Nat,(b7<=l.length/\∀ j,j<b7->Nr y (l.getD j l3).ad=true)/\(l.length-b7<l.length-i)/\E (.hd (.key 1000) [2,ix,5] 2 ga oa 0 ((l.map ai).length) ca)/\E v3/\E (iN l.length)/\Q (iN (i+1)) (iN b7)/\Er gb v2/\Er gt v1/\True)) (Q (iV (-1)) (iV (K3 y l))/\Er gb v2/\Er gt v1))) (.lit (.func (.func 143) #[] #[.pointer (some ⟨gb,0,none⟩)]))) (.ptr (.key 1000) [2,ix] g (o+ix*8))) (bw n a7 zs ix y.na y.re y.kn y.gr.na y.gr.ru y.gr.wa y.tr l ga oa ca g o c se ls)) ?_
 refine⟨⟨0,?_,rfl,rfl,Z4,rfl,rfl,rfl,trivial⟩,?_⟩
 simp
 rintro i ⟨h1,h2⟩
 refine bI (fun j7=>?_) fun j7=>?_
 have N0:=hx _ (ay (d:=l3) (show i<l.length by omega))
 refine⟨Z2,(aS (f:=2) rfl).trans (aI (aK Z9) ((aS (f:=5) rfl).trans (aI (by rw[Y0];exact aj (d:=l3) Z9) rfl))),rfl,rfl,rfl,⟨hi,N0.1,N0.2,hr,Uv⟩,?_⟩
 refine bI (fun l6=>?_) fun l6=>?_
 refine⟨?_,rfl,rfl⟩
 unfold Q
 rw[JN (i:=i) Z9 (by simpa using l6) h2]
 refine⟨Z9,?_⟩
 refine⟨i+1,?_,?_,rfl,rfl,rfl,rfl,rfl,rfl,trivial⟩
 exact⟨Z9,bS h2 (by simpa using l6)⟩
 exact Z1
 refine⟨?_,rfl,rfl⟩
 unfold Q
 rw[Lg (fun j hj=>h2 j Z9)])
abbrev rh(n:BL)(a7:Int)(zs:List j9)(se:List BL)(ls:List l7)(gt:Nat)(g:Nat)(o:Nat)(c:Nat)(ix:Nat)(y:j9)(ga:Nat)(oa:Nat)(ca:Nat)(l:List u7)(gb:Nat):V:=.hd (.key 1000) [2,ix,5] 2 ga oa 0 ((l.filter (Nc y)).length) ca
abbrev jW(n:BL)(a7:Int)(zs:List j9)(se:List BL)(ls:List l7)(gt:Nat)(g:Nat)(o:Nat)(c:Nat)(ix:Nat)(y:j9)(ga:Nat)(oa:Nat)(ca:Nat)(l:List u7)(gb:Nat)(w:Nat)(i:Nat)(u:List u7):Prop:=w<i/\i<=l.length/\u.length=l.length/\u.take w=(l.take i).filter (Nc y)/\u.drop i=l.drop i
def DM(n:BL)(a7:Int)(zs:List j9)(se:List BL)(ls:List l7)(gt:Nat)(g:Nat)(o:Nat)(c:Nat)(ix:Nat)(y:j9)(ga:Nat)(oa:Nat)(ca:Nat)(l:List u7)(gb:Nat):o6 Tryz.prog:=.mk 142 [.hd (.key 1000) [2,ix,5] 2 ga oa 0 ((l.map ai).length) ca,.lit (.func (.func 143) #[] #[.pointer (some ⟨gb,0,none⟩)])] [(1002,(gb,.ptr (.key 1000) [2,ix] g (o+ix*8))),(1000,(gt,bw n a7 zs ix y.na y.re y.kn y.gr.na y.gr.ru y.gr.wa y.tr l ga oa ca g o c se ls))] ((ix<zs.length)/\(l.length<=1000)/\(∀ x,x∈l->x.ad.length<=1000/\m5 x.ad)/\(y.gr.ru.length<=1000)/\(∀ i,(y.gr.ru.getD i ⟨false,[]⟩).path.length<=1000)) (rh n a7 zs se ls gt g o c ix y ga oa ca l gb) [(1002,(gb,.ptr (.key 1000) [2,ix] g (o+ix*8))),(1000,(gt,bw n a7 zs ix y.na y.re y.kn y.gr.na y.gr.ru y.gr.wa y.tr (gy y l) ga oa ca g o c se ls))] (by
 rintro⟨hi,hl,hx,hr,Uv⟩
 refine av (N:=42) (rs:=[.tmp 4]) Tryz.func142
  (.q 1<|.q 2<|.c (Eg n a7 zs se ls gt g o c ix y ga oa ca l gb) [(1002,1002),(1000,1000)]<|.q 1<|.q 2<|.br (.q 2<|.nil) (.q 3<|.loop (Nat×Nat×(List u7)) (fun (w,i,u)=>⟨[(0,.hd (.key 1000) [2,ix,5] 2 ga oa 0 ((l.map ai).length) ca),(1,.lit (.func (.func 143) #[] #[.pointer (some ⟨gb,0,none⟩)])),(5,iN w),(6,iN i)],[(1002,(gb,.ptr (.key 1000) [2,ix] g (o+ix*8))),(1000,(gt,bw n a7 zs ix y.na y.re y.kn y.gr.na y.gr.ru y.gr.wa y.tr u ga oa ca g o c se ls))]⟩) (fun (w,i,u)=>jW n a7 zs se ls gt g o c ix y ga oa ca l gb w i u) (fun (w,i,u)=>l.length-i) (fun (w,i,u)=>.q 4<|.br (.r 4 [.agg [sV ((u.getD i l3).ad),iV ((u.getD i l3).tr)]]<|.al tc (fun g7=>.st none<|.r 2 [.a8]<|.c (sh n a7 zs se ls gt g o c ix y ga oa ca u gb ((u.getD i l3).ad) ((u.getD i l3).tr)) [(1002,1002),(1000,1000)]<|.q 1<|.br (.r 4 [.a8]<|.st (some (.agg [sV ((u.getD w l3).ad),iV ((u.getD w l3).tr)]))<|.h (.B0 1000 (bw n a7 zs ix y.na y.re y.kn y.gr.na y.gr.ru y.gr.wa y.tr (u.set w (⟨(u.getD i l3).ad,(u.getD i l3).tr⟩:u7)) ga oa ca g o c se ls))<|.q 3<|.q 3<|.nil) (.q 3<|.nil))) (.q 3<|.cu (YL 1000 [2,ix,5] w (l.length-w) 2 (u.map ai) ga oa ca g (o+(ix)*8+7) tc) (fun _=>.h (.B0 1000 (bw n a7 zs ix y.na y.re y.kn y.gr.na y.gr.ru y.gr.wa y.tr (u.take w++List.replicate (l.length-w) l3) ga oa ca g o c se ls))<|.q 4<|.nil)))))
  ((fun v1:V=>(fun v2:V=>(fun v3:V=>(fun v4:V=>((Eg n a7 zs se ls gt g o c ix y ga oa ca l gb).sm/\Er gb v1/\Er gt v2/\((ix<zs.length)/\(l.length<=1000)/\(∀ x,x∈l->x.ad.length<=1000/\m5 x.ad)/\(y.gr.ru.length<=1000)/\(∀ i,(y.gr.ru.getD i ⟨false,[]⟩).path.length<=1000))/\Br (o9 (K3 y l) (-1)) (Q (.hd (.key 1000) [2,ix,5] 2 ga oa 0 ((l.map ai).length) ca) (rh n a7 zs se ls gt g o c ix y ga oa ca l gb)/\Er gb v1/\Qr gt v2 gt v4) (m8 ((K3 y l)+1)/\(∃ x:Nat×Nat×(List u7),match x with | (UY,j6,H6)=>(jW n a7 zs se ls gt g o c ix y ga oa ca l gb UY j6 H6)/\E (.hd (.key 1000) [2,ix,5] 2 ga oa 0 ((l.map ai).length) ca)/\E v3/\Q (iV (K3 y l)) (iN UY)/\Q (iV ((K3 y l)+1)) (iN j6)/\Er gb v1/\Qr gt v2 gt (bw n a7 zs ix y.na y.re y.kn y.gr.na y.gr.ru y.gr.wa y.tr H6 ga oa ca g o c se ls)/\True)/\∀ x:Nat×Nat×(List u7),match x with | (w,i,u)=>(jW n a7 zs se ls gt g o c ix y ga oa ca l gb w i u)->(fun v5:V=>Br (r9 (i:Int) (((l.map ai).length:Nat):Int)) (In (i:Int) ((l.map ai).length)/\(V.at gt 0 v5 [2,ix,5,0+i]=some (ga,(oa+(0+i)*2),.agg [sV ((u.getD i l3).ad),iV ((u.getD i l3).tr)]))/\∀ g7:Nat,Z g7 0/\Z g7 0/\(sh n a7 zs se ls gt g o c ix y ga oa ca u gb ((u.getD i l3).ad) ((u.getD i l3).tr)).sm/\Er gb v1/\Er gt v5/\((ix<zs.length)/\(((u.getD i l3).ad).length<=1000)/\(m5 ((u.getD i l3).ad))/\(y.gr.ru.length<=1000)/\(∀ i,(y.gr.ru.getD i ⟨false,[]⟩).path.length<=1000))/\Br (!(!(Nr y ((u.getD i l3).ad)))) (Z g7 0/\In (w:Int) ((l.map ai).length)/\(V.at gt 0 v5 [2,ix,5,0+w]=some (ga,(oa+(0+w)*2),.agg [sV ((u.getD w l3).ad),iV ((u.getD w l3).tr)]))/\(V.set v5 [2,ix,5,0+w] (.agg [sV ((u.getD i l3).ad),iV ((u.getD i l3).tr)])=bw n a7 zs ix y.na y.re y.kn y.gr.na y.gr.ru y.gr.wa y.tr (u.set w (⟨(u.getD i l3).ad,(u.getD i l3).tr⟩:u7)) ga oa ca g o c se ls)/\m8 ((w:Int)+1)/\m8 ((i:Int)+1)/\∃ x:Nat×Nat×(List u7),match x with | (PB,b7,B9)=>(jW n a7 zs se ls gt g o c ix y ga oa ca l gb PB b7 B9)/\(l.length-b7<l.length-i)/\E (.hd (.key 1000) [2,ix,5] 2 ga oa 0 ((l.map ai).length) ca)/\E v3/\Q (iN (w+1)) (iN PB)/\Q (iN (i+1)) (iN b7)/\Er gb v1/\Qr gt (bw n a7 zs ix y.na y.re y.kn y.gr.na y.gr.ru y.gr.wa y.tr (u.set w (⟨(u.getD i l3).ad,(u.getD i l3).tr⟩:u7)) ga oa ca g o c se ls) gt (bw n a7 zs ix y.na y.re y.kn y.gr.na y.gr.ru y.gr.wa y.tr B9 ga oa ca g o c se ls)/\True) (m8 ((i:Int)+1)/\∃ x:Nat×Nat×(List u7),match x with | (PB,b7,B9)=>(jW n a7 zs se ls gt g o c ix y ga oa ca l gb PB b7 B9)/\(l.length-b7<l.length-i)/\E (.hd (.key 1000) [2,ix,5] 2 ga oa 0 ((l.map ai).length) ca)/\E v3/\Q (iN w) (iN PB)/\Q (iN (i+1)) (iN b7)/\Er gb v1/\Qr gt v5 gt (bw n a7 zs ix y.na y.re y.kn y.gr.na y.gr.ru y.gr.wa y.tr B9 ga oa ca g o c se ls)/\True)) (((0:Int)<=(w:Int)/\(w:Int)<=((l.map ai).length:Int)/\((l.map ai).length:Int)<=((l.map ai).length)/\2=2)/\((((63:Nat),(.key 1000:l8),([2,ix,5]:List Nat),2,ga,oa,(0+w),(((l.map ai).length)-w))=((63:Nat),(.key 1000:l8),([2,ix,5]:List Nat),2,ga,oa,w,(l.length-w)))/\(V.at gt 0 v5 [2,ix,5]=some (g,o+(ix)*8+7,.own 2 (u.map ai) ga oa ca))/\(w+(l.length-w)<=(u.map ai).length)/\(V.aE (u.map ai)=false)/\(aJ 2 (u.map ai))/\((.agg [sV [],iN 0]:V).n=2))/\∀ _:Unit,(V.set v5 [2,ix,5] (.own 2 ((u.map ai).take w++List.replicate (l.length-w) (.agg [sV [],iN 0]:V)++(u.map ai).drop (w+(l.length-w))) ga oa ca)=bw n a7 zs ix y.na y.re y.kn y.gr.na y.gr.ru y.gr.wa y.tr (u.take w++List.replicate (l.length-w) l3) ga oa ca g o c se ls)/\((0:Int)<=(0:Int)/\(0:Int)<=(w:Int)/\(w:Int)<=((l.map ai).length)/\2=2)/\Q (.hd (.key 1000) [2,ix,5] 2 ga oa (0+((0:Int).toNat)) (w-((0:Int).toNat)) (ca-((0:Int).toNat))) (rh n a7 zs se ls gt g o c ix y ga oa ca l gb)/\Er gb v1/\Qr gt (bw n a7 zs ix y.na y.re y.kn y.gr.na y.gr.ru y.gr.wa y.tr (u.take w++List.replicate (l.length-w) l3) ga oa ca g o c se ls) gt v4)) (bw n a7 zs ix y.na y.re y.kn y.gr.na y.gr.ru y.gr.wa y.tr u ga oa ca g o c se ls)))) (bw n a7 zs ix y.na y.re y.kn y.gr.na y.gr.ru y.gr.wa y.tr (gy y l) ga oa ca g o c se ls)) (.lit (.func (.func 143) #[] #[.pointer (some ⟨gb,0,none⟩)]))) (bw n a7 zs ix y.na y.re y.kn y.gr.na y.gr.ru y.gr.wa y.tr l ga oa ca g o c se ls)) (.ptr (.key 1000) [2,ix] g (o+ix*8))) ?_
 refine⟨rfl,rfl,rfl,⟨hi,hl,hx,hr,Uv⟩,?_⟩
 refine bI (fun j7=>?_) fun j7=>?_
 refine⟨?_,rfl,by rw[Ks j7]⟩
 unfold Q rh
 rw[DN j7,Y2]
 refine⟨by have:=yd y l;omega,?_⟩
 refine⟨⟨((K3 y l).toNat,(K3 y l).toNat+1,l),?_,rfl,rfl,by refine Zq iV ?_;have:=yd y l;omega,by refine Zq iV ?_;have:=yd y l;omega,rfl,rfl,trivial⟩,?_⟩
 unfold jW
 exact ME j7
 rintro⟨w,i,u⟩ ⟨h1,h2,h3,h4,h5⟩
 refine bI (fun l6=>?_) fun l6=>?_
 have N0:=hx _ (ay (d:=l3) (show i<l.length by omega))
 have hu:u.getD i l3=l.getD i l3:=rz h5
 refine⟨Z2,(aS (f:=2) rfl).trans (aI (aK Z9) ((aS (f:=5) rfl).trans (aI (by rw[Y0];exact aj (d:=l3) Z9) rfl))),?_⟩
 intro g7
 refine⟨rfl,rfl,rfl,rfl,rfl,⟨hi,by rw[hu];exact N0.1,by rw[hu];exact N0.2,hr,Uv⟩,?_⟩
 refine bI (fun n6=>?_) fun n6=>?_
 refine⟨rfl,Z2,(aS (f:=2) rfl).trans (aI (aK Z9) ((aS (f:=5) rfl).trans (aI (by rw[Y0];exact aj (d:=l3) Z9) rfl))),dR (Iq (aK Z9) (MC (aV (x:=.agg [sV ((u.getD w l3).ad),iV ((u.getD w l3).tr)]) (by rw[Y0];exact aj (d:=l3) Z9) (by rw[Y0];exact(List.map_set (f:=ai) (l:=u) (i:=w) (a:=(⟨(u.getD i l3).ad,(u.getD i l3).tr⟩:u7))).symm))) (dc Z9)),Z9,Z9,?_⟩
 refine⟨(w+1,i+1,u.set w (⟨(u.getD i l3).ad,(u.getD i l3).tr⟩:u7)),?_,?_,rfl,rfl,rfl,rfl,rfl,rfl,trivial⟩
 unfold jW
 first | exact Lw (by simpa using l6) h1 h3 h4 h5 (by simpa using n6) | exact JY (by simpa using l6) h1 h3 h4 h5 (by simpa using n6)
 exact Z1
 refine⟨Z9,?_⟩
 refine⟨(w,i+1,u),?_,?_,rfl,rfl,rfl,rfl,rfl,rfl,trivial⟩
 unfold jW
 first | exact Lw (by simpa using l6) h1 h3 h4 h5 (by simpa using n6) | exact JY (by simpa using l6) h1 h3 h4 h5 (by simpa using n6)
 exact Z1
 refine⟨⟨Z9,by simp only[Y2];omega,Z9,rfl⟩,⟨Z8,(aS (f:=2) rfl).trans (aI (aK Z9) rfl),by simp only[Y2];omega,cN (f:=ai) (fun _=>rfl) _,ee (f:=ai) (fun _=>rfl) _,rfl⟩,?_⟩
 intro _
 refine⟨(Zq (fun r:V=>V.set (.agg [sV n,iV a7,.own 8 ((zs.take ix).map aB++(.agg [sV y.na,iV y.re,bV y.kn,.agg [.sl false (y.gr.na.map sV),.sl false (y.gr.ru.map au),iN y.gr.wa],iV y.tr,.own 2 (u.map ai) ga oa ca]:V)::(zs.drop (ix+1)).map aB) g o c,.ow 1 (se.map sV),.ow 3 (ls.map aO)]) [2,ix,5] r) (Zq (V.own 2 · ga oa ca) (Lq h3))).trans (dR (aV (aK Z9) (dc Z9))),⟨Z9,Z9,by simp only[Y2];omega,rfl⟩,?_⟩
 refine⟨?_,rfl,by rw[JW (by simpa using l6) h1 h2 h3 h4]⟩
 unfold Q rh
 rw[JR (by simpa using l6) h1 h2 h3 h4];rfl)
def Dx(n:BL)(a7:Int)(zs:List j9)(se:List BL)(ls:List l7)(gt:Nat)(g:Nat)(o:Nat)(c:Nat)(ix:Nat)(y:j9)(ga:Nat)(oa:Nat)(ca:Nat)(l:List u7):o6 Tryz.prog:=.mk 144 [.hd (.key 1000) [2,ix,5] 2 ga oa 0 ((l.map ai).length) ca,iV 0,iV 1] [(1000,(gt,bw n a7 zs ix y.na y.re y.kn y.gr.na y.gr.ru y.gr.wa y.tr l ga oa ca g o c se ls))] ((ix<zs.length)/\(0<l.length/\l.length<=1000)) (.hd (.key 1000) [2,ix,5] 2 ga oa 0 (l.length-1) ca) [(1000,(gt,bw n a7 zs ix y.na y.re y.kn y.gr.na y.gr.ru y.gr.wa y.tr (l.drop 1++[l3]) ga oa ca g o c se ls))] (by
 rintro⟨hi,hl⟩
 refine av (N:=33) (rs:=[.tmp 6]) Tryz.func144
  (.q 1<|.q 5<|.cu (sdC ((l.map ai).length) (0:Int) (1:Int) (((l.map ai).length:Nat):Int)) (fun _=>.q 3<|.br (.nil) (.q 3<|.dx 6 [0,1,2,3,4,5] [] []<|.q 1<|.q 1<|.q 1<|.q 1<|.q 1<|.q 1<|.cu (saC 1000 [2,ix,5] 1 (l.length-1) 2 (l.map ai) ga oa ca g (o+(ix)*8+7)) (fun _=>.h (.B0 1000 (bw n a7 zs ix y.na y.re y.kn y.gr.na y.gr.ru y.gr.wa y.tr (l.drop 1++l.drop (l.length-1)) ga oa ca g o c se ls))<|.q 1<|.q 4<|.cu (sbC 1000 [2,ix,5] 2 ((l.drop 1++l.drop (l.length-1)).map ai) ga oa ca (l.length-1) g (o+(ix)*8+7) (l.length-1) ((l.map ai).length)) (fun _=>.cu (YL 1000 [2,ix,5] (l.length-1) 1 2 ((l.drop 1++l.drop (l.length-1)).map ai) ga oa ca g (o+(ix)*8+7) tc) (fun _=>.h (.B0 1000 (bw n a7 zs ix y.na y.re y.kn y.gr.na y.gr.ru y.gr.wa y.tr (l.drop 1++[l3]) ga oa ca g o c se ls))<|.q 2<|.nil))))))
  ((fun v1:V=>(fun v2:V=>(fun v3:Int=>((((iV 0):V)=.lit (.int .i64 (0:Int))/\((iV 1):V)=.lit (.int .i64 (1:Int))/\((iN ((l.map ai).length)):V)=.lit (.int .i64 v3)/\((l.map ai).length)=((l.map ai).length)/\(0:Int)<=(0:Int)/\(0:Int)<=(1:Int)/\(1:Int)<=v3/\v3<=((l.map ai).length))/\∀ _:Unit,Br (o9 0 1) (False) (((0:Int)<=(0:Int)/\(0:Int)<=(0:Int)/\(0:Int)<=((l.map ai).length)/\2=2)/\((0:Int)<=(1:Int)/\(1:Int)<=((l.map ai).length:Int)/\((l.map ai).length:Int)<=((l.map ai).length)/\2=2)/\((((.key 1000:l8),([2,ix,5]:List Nat),2,ga,oa,(0+(Int.toNat 1)),(((l.map ai).length)-(Int.toNat 1)))=((.key 1000:l8),([2,ix,5]:List Nat),2,ga,oa,1,(l.length-1)))/\((.hd (.key 1000) [2,ix,5] 2 ga oa (0+((0:Int).toNat)) ((Int.toNat 0)-((0:Int).toNat)) (ca-((0:Int).toNat)):V)=.hd (.key 1000) [2,ix,5] 2 ga oa 0 0 ca)/\(V.at gt 0 v2 [2,ix,5]=some (g,o+(ix)*8+7,.own 2 (l.map ai) ga oa ca))/\((2:Nat)=2)/\(0<(l.map ai).length)/\(1+(l.length-1)<=(l.map ai).length)/\(V.aE (l.map ai)=false)/\(aJ 2 (l.map ai))/\(ca-(Int.toNat 1))=(ca-(Int.toNat 1)))/\∀ _:Unit,(V.set v2 [2,ix,5] (.own 2 (((l.map ai).drop 1).take (l.length-1)++(l.map ai).drop (l.length-1)) ga oa ca)=bw n a7 zs ix y.na y.re y.kn y.gr.na y.gr.ru y.gr.wa y.tr (l.drop 1++l.drop (l.length-1)) ga oa ca g o c se ls)/\(((.hd (.key 1000) [2,ix,5] 2 ga oa 0 (l.length-1) ca):V)=.hd (.key 1000) [2,ix,5] 2 ga oa 0 (l.length-1) ca/\(V.at gt 0 v1 [2,ix,5]=some (g,o+(ix)*8+7,.own 2 ((l.drop 1++l.drop (l.length-1)).map ai) ga oa ca))/\((iN (l.length-1)):V)=.lit (.int .i64 (((l.length-1):Nat):Int))/\((iN ((l.map ai).length)):V)=.lit (.int .i64 ((((l.map ai).length):Nat):Int))/\((2:Nat)=2)/\(l.length-1)<=((l.map ai).length)/\((l.map ai).length)<=((l.drop 1++l.drop (l.length-1)).map ai).length)/\∀ _:Unit,((((63:Nat),(.key 1000:l8),([2,ix,5]:List Nat),2,ga,oa,(l.length-1),(((l.map ai).length)-(l.length-1)))=((63:Nat),(.key 1000:l8),([2,ix,5]:List Nat),2,ga,oa,(l.length-1),1))/\(V.at gt 0 v1 [2,ix,5]=some (g,o+(ix)*8+7,.own 2 ((l.drop 1++l.drop (l.length-1)).map ai) ga oa ca))/\((l.length-1)+1<=((l.drop 1++l.drop (l.length-1)).map ai).length)/\(V.aE ((l.drop 1++l.drop (l.length-1)).map ai)=false)/\(aJ 2 ((l.drop 1++l.drop (l.length-1)).map ai))/\((.agg [sV [],iN 0]:V).n=2))/\∀ _:Unit,(V.set v1 [2,ix,5] (.own 2 (((l.drop 1++l.drop (l.length-1)).map ai).take (l.length-1)++List.replicate 1 (.agg [sV [],iN 0]:V)++((l.drop 1++l.drop (l.length-1)).map ai).drop ((l.length-1)+1)) ga oa ca)=bw n a7 zs ix y.na y.re y.kn y.gr.na y.gr.ru y.gr.wa y.tr (l.drop 1++[l3]) ga oa ca g o c se ls)/\Q (.hd (.key 1000) [2,ix,5] 2 ga oa 0 (l.length-1) ca) (.hd (.key 1000) [2,ix,5] 2 ga oa 0 (l.length-1) ca)/\Er gt (bw n a7 zs ix y.na y.re y.kn y.gr.na y.gr.ru y.gr.wa y.tr (l.drop 1++[l3]) ga oa ca g o c se ls)))) (((l.map ai).length:Nat):Int)) (bw n a7 zs ix y.na y.re y.kn y.gr.na y.gr.ru y.gr.wa y.tr l ga oa ca g o c se ls)) (bw n a7 zs ix y.na y.re y.kn y.gr.na y.gr.ru y.gr.wa y.tr (l.drop 1++l.drop (l.length-1)) ga oa ca g o c se ls)) ?_
 refine⟨⟨rfl,rfl,rfl,rfl,Z9,Z9,by(try simp only[Y2]);omega,by(try simp only[Y2]);omega⟩,?_⟩
 intro _
 refine bI (fun j7=>?_) fun j7=>?_
 exact absurd j7 Z6
 refine⟨⟨Z9,Z9,Z9,rfl⟩,⟨Z9,by simp only[Y2];omega,Z9,rfl⟩,⟨Z8,rfl,(aS (f:=2) rfl).trans (aI (aK Z9) rfl),rfl,Z0,Z0,cN (f:=ai) (fun _=>rfl) _,ee (f:=ai) (fun _=>rfl) _,rfl⟩,?_⟩
 intro _
 refine⟨(Zq (fun r:V=>V.set (.agg [sV n,iV a7,.own 8 ((zs.take ix).map aB++(.agg [sV y.na,iV y.re,bV y.kn,.agg [.sl false (y.gr.na.map sV),.sl false (y.gr.ru.map au),iN y.gr.wa],iV y.tr,.own 2 (l.map ai) ga oa ca]:V)::(zs.drop (ix+1)).map aB) g o c,.ow 1 (se.map sV),.ow 3 (ls.map aO)]) [2,ix,5] r) (Zq (V.own 2 · ga oa ca) (LB))).trans (dR (aV (aK Z9) (dc Z9))),⟨rfl,(aS (f:=2) rfl).trans (aI (aK Z9) rfl),rfl,Z8,rfl,Z8,by simp <;> omega⟩,?_⟩
 intro _
 refine⟨⟨Z0,(aS (f:=2) rfl).trans (aI (aK Z9) rfl),Z0,cN (f:=ai) (fun _=>rfl) _,ee (f:=ai) (fun _=>rfl) _,rfl⟩,?_⟩
 intro _
 refine⟨(Zq (fun r:V=>V.set (.agg [sV n,iV a7,.own 8 ((zs.take ix).map aB++(.agg [sV y.na,iV y.re,bV y.kn,.agg [.sl false (y.gr.na.map sV),.sl false (y.gr.ru.map au),iN y.gr.wa],iV y.tr,.own 2 ((l.drop 1++l.drop (l.length-1)).map ai) ga oa ca]:V)::(zs.drop (ix+1)).map aB) g o c,.ow 1 (se.map sV),.ow 3 (ls.map aO)]) [2,ix,5] r) (Zq (V.own 2 · ga oa ca) (KU Z9))).trans (dR (aV (aK Z9) (dc Z9))),?_⟩
 refine⟨?_,rfl⟩
 unfold Q
 rfl)
section
variable {P:Program} {N:Nat} {A A' B:AS}
theorem Jt{o:Oper}{K K':AS->Prop}(h:E2 P N o A K)(hK:∀ B,K B->∃ B',D0 B B'/\K' B'):E2 P N o A K':=
 fun Pb Kb a w F Q hs=>Oper.wp_mono (fun a' w' ⟨B,Pb',D3,F',hk,y9,h1⟩=>by
  obtain⟨B',e,G7⟩:=hK B hk
  exact⟨B',Pb',D3,F',G7,y9.eqv e,h1⟩) (h Pb Kb a w F Q hs)
def vA(A:AS)(ρ:l8->l8)(H:List (Nat×(Nat×V)))(q gq:Nat)(vq:V):List (Nat×Nat)->Prop
 | []=>True
 | (k,q')::r=>(match lk k H with
    | some (g,v)=>(match q'==q with
      | true=>(g,v.On ρ)=(gq,vq)
      | false=>(match lk q' A.h with
        | some (g2,v2)=>(g,v.On ρ)=(g2,v2)
        | none=>False))
    | none=>False)/\vA A ρ H q gq vq r
theorem xE{ρ:l8->l8}{H:List (Nat×(Nat×V))}{q gq:Nat}{vq:V}:∀ {ks:List (Nat×Nat)} {k q':Nat},vA A ρ H q gq vq ks->(k,q')∈ks->(lk k H).map (fun gv=>(gv.1,gv.2.On ρ))=if q'=q then some (gq,vq) else lk q' A.h
 | [],_,_,_,h=>by simp at h
 | (k0,q0)::ks,k,q',h,hm=>by
   rcases List.mem_cons.1 hm with e | hm
   cases e
   have h1:=h.1
   split at h1
   rename_i g v hk
   rw[hk]
   split at h1
   rename_i e
   rw[if_pos (by simpa using e)]
   simp only[Option.map_some,YR]
   exact h1
   rename_i e
   rw[if_neg (by simpa using e)]
   split at h1
   rename_i g2 v2 e2
   rw[e2]
   simp only[Option.map_some,YR]
   exact h1
   exact h1.elim
   exact h1.elim
   exact xE h.2 hm
theorem Gp{H:List (Nat×(Nat×V))}{q gq:Nat}{vq:V}{ks:List (Nat×Nat)}(h1:Nb (ks.map (·.1))=true)(hn:Nb (ks.map (·.2))=true)(h:vA A (ke ks) H q gq vq ks)(hq:q∈ks.map (·.2))(k:Nat):
 lk k (A.back ks H).h=if k=q then some (gq,vq) else lk k A.h:=by
 by_cases hk:k∈ks.map (·.2)
 obtain⟨⟨k0,q0⟩,hm,rfl⟩:=List.mem_map.1 hk
 have hs:lk q0 (Om ks)=some k0:=(pn h1 hn).1 (od h1 hm)
 have:=xE h hm
 simp only[AS.back]
 rw[ld,oP hn,hs]
 simp only[Option.bind_some]
 rw[this]
 split
 rename_i v e;rw[<- e]
 rename_i e
 split at e
 cases e
 rename_i hne
 rw[ij,hs,if_neg hne,e];rfl
 rw[Ba hn hk,if_neg (by rintro rfl;exact hk hq)]
def XL(c:o6 P)(ks:List (Nat×Nat))(q gq:Nat)(vq:V):Eu P where
 X:=Unit
 pre N o A Sl Hl:=match o.op,o.dst with
  | .call ⟨.value fx,xs,_⟩,some d=>match A.ev fx,A.tk xs.toList with
    | .lit (.func (.func f) first x6),(vs,_)=>match f==c.f&&Nat.blt d N&&Nb (ks.map (·.1))&&Nb (ks.map (·.2))&&c.args.length==(first.toList.map cV++vs++x6.toList.map cV).length&&(eX A xs.toList).isEmpty&&Sl.contains d&&Hl.contains q&&(ks.map (·.2)).contains q with
      | true=>No (first.toList.map cV++vs++x6.toList.map cV) c.args=c.args/\mU A ks c.H (c.pre/\vA A (ke ks) c.H' q gq vq ks)
      | false=>False
    | _,_=>False
  | _,_=>False
 U o _ _ B:=⟨(B.put o.dst (c.res.On (ke ks))).t,(q,(gq,vq))::B.h⟩
 U0:=by
  rintro N ⟨dst,op,ty,pos,after,D2⟩ A Sl Hl hp fs
  simp only at hp
  split at hp
  rename_i fx xs K5 d
  split at hp
  rename_i f first x6 vs A2 e1 e2
  split at hp
  rename_i e3
  simp only[YS,Zm,Zo]at e3
  have hd:d∈Sl:=e3.1.1.2
  have hq:q∈Hl:=e3.1.2
  refine⟨fun g B t ht=>?_,fun g B k hk=>?_,fun g B B' hB=>?_,fun g B q2 v' hq2 _=>?_,fun g B k gv hk=>?_⟩
  show (B.put (some d) _).get t=_
  rw[AS.aA,if_neg (fun c=>ht (by rw[c];exact hd))]
  simp only[lk]
  rw[if_neg (fun c=>hk (by rw[c];exact hq))]
  refine⟨fun t=>?_,fun k=>?_⟩
  show (B.put (some d) _).get t=(B'.put (some d) _).get t
  rw[AS.aA,AS.aA,hB.1 t]
  simp only[lk,hB.2 k]
  refine⟨fun t=>?_,fun k=>rfl⟩
  show ((B.put (some q2) v').put (some d) _).get t=((B.put (some d) _).put (some q2) v').get t
  rw[AS.aA,AS.aA,AS.aA,AS.aA]
  by_cases c:t=d
  subst c;rw[if_pos rfl,if_neg (fun c=>hq2 (by rw[<- c];exact hd)),if_pos rfl]
  rw[if_neg c,if_neg c]
  refine⟨fun _=>rfl,fun k2=>?_⟩
  simp only[lk]
  by_cases c:k2=q
  subst c;rw[if_pos rfl,if_neg (fun c=>hk (by rw[<- c];exact hq)),if_pos rfl]
  rw[if_neg c,if_neg c]
  exact hp.elim
  exact hp.elim
  exact hp.elim
 ok:=by
  rintro N ⟨dst,op,ty,pos,after,D2⟩ A A' Sl Hl hg hp hA hR
  simp only at hg
  subst hg
  simp only at hp
  split at hp
  rename_i fx xs K5 d
  split at hp
  rename_i f first x6 vs A2 e1 e2
  split at hp
  rename_i e3
  simp only[YS,Zm,Zo,Zp,List.isEmpty_iff]at e3
  obtain⟨⟨⟨⟨⟨⟨⟨⟨rfl,R9⟩,k1⟩,k2⟩,hlen⟩,I6⟩,hd⟩,hq⟩,hqk⟩:=e3
  obtain⟨hargs,hrj⟩:=hp
  obtain⟨PL,Rg,VN⟩:=ji hrj
  have T5:A'.ev fx=A.ev fx:=bu fun t ht=>hA t (by subst ht;simp[Op.operands,Call.operands])
  obtain⟨t1,t2⟩:=tz xs.toList (A:=A) (A':=A') fun t ht=>hA t (by simp only[Op.operands,Call.operands];simp;right;simpa using ht)
  have SV:=tY xs.toList (A:=A')
  rw[t2,I6]at SV
  have UL:(A.tk xs.toList).1=vs:=by rw[e2]
  refine Jt (nR (A:=A') (K:=fun B=>B=((A'.tk xs.toList).2.back ks c.H').put (some d) (c.res.On (ke ks))) ks rfl (by rw[T5];exact e1) (bG R9) k1 k2 (c.ok Rg) (by rw[t1,UL];exact hargs) (by rw[t1,UL];exact hlen)
   (ma (fun k _=>(SV.2 k).trans (hR k)) PL) ?_) ?_
  rintro r H0 ⟨rfl,rfl⟩;rfl
  rintro B rfl
  refine⟨_,⟨fun t=>?_,fun k=>?_⟩,(),rfl⟩
  show (AS.put _ (some d) _).get t=(A'.put (some d) _).get t
  rw[AS.aA,AS.aA]
  split
  rfl
  exact SV.1 t
  show lk k ((A'.tk xs.toList).2.back ks c.H').h=lk k ((q,(gq,vq))::A'.h)
  rw[pS (B:=A) (fun k=>(SV.2 k).trans (hR k)),Gp k1 k2 VN hqk]
  simp only[lk,hR k]
  exact hp.elim
  exact hp.elim
  exact hp.elim
end
abbrev sE(p0:BL)(p1:Int)(p2:List j9)(p3:Nat)(p4:BL)(p5:Int)(p6:V)(p7:List s6)(p8:Nat)(p9:Int)(Qg:List u7)(QW:Nat)(QV:Nat)(QU:Nat)(QT:List BL)(QS:List l7):V:=.agg [sV p0,iV p1,.own 8 ((p2.take p3).map aB++(.agg [sV p4,iV p5,bV true,.agg [ p6,.sl false (p7.map au),iN p8],iV p9,.ow 2 (Qg.map ai)]:V)::(p2.drop (p3+1)).map aB) QW QV QU,.ow 1 (QT.map sV),.ow 3 (QS.map aO)]
abbrev Co(p0:BL)(p1:Int)(p2:List j9)(p3:Nat)(p4:BL)(p5:Int)(p6:List BL)(p7:List s6)(p8:Nat)(p9:Int)(Qg:List u7)(QW:Nat)(QV:Nat)(QU:Nat)(QT:List BL)(QS:List l7):V:=.agg [sV p0,iV p1,.own 8 ((p2.take p3).map aB++(.agg [sV p4,iV p5,bV true,.agg [.sl false (p6.map sV),.sl false (p7.map au),iN p8],iV p9,.ow 2 (Qg.map ai)]:V)::(p2.drop (p3+1)).map aB) QW QV QU,.ow 1 (QT.map sV),.ow 3 (QS.map aO)]
theorem DF{y:j9}{l:List u7}:((gy y l).map ai).take (l.filter (Nc y)).length=(l.filter (Nc y)).map ai:=by
 unfold gy;rw[<- List.map_take,List.take_left'];rfl
theorem FE{y:j9}{l:List u7}:(gy y l).length=l.length:=by
 have:=List.length_filter_le (Nc y) l
 unfold gy;simp;omega
theorem Ew{α:Type}{l:List α}{f:α->V}{a:α}{i:Nat}(h:i<l.length):(l.set i a).map f=(l.take i).map f++f a::(l.drop (i+1)).map f:=(lF (f:=f) (x:=a) h).symm
theorem LG{w:List Pg}{n:BL}{y:j9}{a7:Int}(h:(af w (ag y.na) y.tr).1=3/\y.tr+1<3):NW w n y a7={ o5 w y a7 with tr:=y.tr+1 }:=if_pos h
theorem LR{w:List Pg}{n:BL}{y:j9}{a7:Int}(h:(af w (ag y.na) y.tr).1=3->3<=y.tr+1):NW w n y a7={ o5 w y a7 with kn:=true,gr:=bK w n y.na,re:=max (o5 w y a7).re (a7+((bK w n y.na).wa:Int)),td:=y.td.filter (Oa (bK w n y.na).ru) }:=if_neg fun c=>by have:=h c.1;omega
def zZ(n:BL)(a7:Int)(zs:List j9)(se:List BL)(ls:List l7)(gt:Nat)(g:Nat)(o:Nat)(c:Nat)(gw:Nat)(ix:Nat)(w:List Pg):o6 Tryz.prog:=.mk 112 [.ptr (.key 1001) [] gw 0,.ptr (.key 1000) [2,ix] g (o+ix*8)] [(1001,(gw,.agg [.mp (w.map E9),.ptr (.key 1000) [] gt 0])),(1000,(gt,bL n a7 zs g o c se ls))] ((ix<zs.length)/\(ls.length<=1000)/\(0<=a7/\a7<=100000)/\(HS 60 (zs.getD ix e9))/\(∀ i,m9 (w.getD i m4))) (.tup []) [(1001,(gw,.agg [.mp (w.map E9),.ptr (.key 1000) [] gt 0])),(1000,(gt,bL n a7 (zs.set ix (NW w n (zs.getD ix e9) a7)) g o c se (ls++[(⟨a7,ag (zs.getD ix e9).na,(af w (ag (zs.getD ix e9).na) (zs.getD ix e9).tr).1⟩:l7)])))] (by
 rintro⟨hi,hl,hn,hy,hz⟩
 generalize XB:zs.getD ix e9=y
 refine av (N:=89) (rs:=[]) Tryz.func112
  ((fun y1:k9=>(fun y2:Int=>(fun y3:Int×BL=>(.bx (fun g3=>.r 5 [.a8]<|.dx 16 [0,1,2,3,4,5,6,7,8,9,10,11,12,13,14,15] [(1,⟨false,[],some [3],[13],[]⟩),(2,⟨false,[],some [3],[14],[]⟩),(5,⟨false,[],some [1000],[17],[]⟩),(7,⟨false,[],some [3],[19],[]⟩),(10,⟨false,[],some [1000],[22],[]⟩),(11,⟨true,[],some [1000,1001],[23],[1000,1001]⟩)] []<|.q 1<|.r 1 [.a8]<|.r 1 [.a8]<|.q 1<|.q 1<|.r 1 [sV (y.na)]<|.c (ff (y.na)) []<|.r 1 [.a8]<|.q 1<|.q 1<|.r 1 [iV (y.tr)]<|.c (yM n a7 zs se ls gt g o c gw ix w (ag (y.na)) (y.tr) y) [(1001,1001),(1000,1000)]<|.q 1<|.q 1<|.q 1<|.q 1<|.q 1<|.h (.B0 1000 (da n a7 zs ix (y.na) ((o5 w y a7).re) (y.kn) (y.gr.na) (y.gr.ru) (y.gr.wa) (y.tr) (y.td) g o c se (ls++[(⟨a7,(ag (y.na)),y3.1⟩:l7)])))<|.r 10 [.a8,iV (y.tr)]<|.br (.r 7 [.a8,iV (y.tr)]<|.st (some (iV (y.tr)))<|.h (.B0 1000 (da n a7 zs ix (y.na) ((o5 w y a7).re) (y.kn) (y.gr.na) (y.gr.ru) (y.gr.wa) ((y.tr)+1) (y.td) g o c se (ls++[(⟨a7,(ag (y.na)),y3.1⟩:l7)])))<|.h (.B0 1000 (bL n a7 (zs.set ix ({ o5 w y a7 with tr:=y.tr+1 }:j9)) g o c se (ls++[(⟨a7,(ag (y.na)),y3.1⟩:l7)])))<|.nil) (.r 3 [.a8]<|.st (some (bV (y.kn)))<|.h (.B0 1000 (Co n a7 zs ix (y.na) ((o5 w y a7).re) (y.gr.na) (y.gr.ru) (y.gr.wa) (y.tr) (y.td) g o c se (ls++[(⟨a7,(ag (y.na)),y3.1⟩:l7)])))<|.dx 14 [0,1,2,3,4,5,6,7,8,9,10,11,12,13] [(0,⟨false,[],some [3],[46],[]⟩),(4,⟨false,[],some [1001],[50],[]⟩),(5,⟨false,[],some [3],[51],[]⟩),(8,⟨false,[],some [1000],[54],[]⟩),(12,⟨false,[],some [1000],[58],[]⟩)] []<|.r 1 [.a8]<|.q 1<|.q 1<|.q 1<|.r 1 [.a8]<|.r 1 [.a8]<|.q 1<|.q 1<|.r 1 [sV (y.na)]<|.q 1<|.q 1<|.q 1<|.r 1 [.a8]<|.c (oc w (y.na) n) []<|.q 2<|.st (some (eS (y.gr.na) (y.gr.ru) (y.gr.wa)))<|.h (.B0 1000 (sE n a7 zs ix (y.na) ((o5 w y a7).re) (.sl false ([n].map sV)) (y1.ru) (y1.wa) (y.tr) (y.td) g o c se (ls++[(⟨a7,(ag (y.na)),y3.1⟩:l7)])))<|.dx 16 [0,1,2,3,4,5,6,7,8,9,10,11,12,13,14,15] [(0,⟨false,[],some [3],[62],[]⟩),(1,⟨false,[],some [3],[63],[]⟩),(4,⟨false,[],some [1000],[66],[]⟩),(8,⟨false,[],some [1000],[70],[]⟩),(9,⟨false,[],some [3],[71],[]⟩),(13,⟨false,[],some [1000],[75],[]⟩)] []<|.r 1 [.a8]<|.r 1 [.a8]<|.q 1<|.q 1<|.r 1 [iV ((o5 w y a7).re)]<|.q 1<|.q 1<|.q 1<|.r 1 [.a8]<|.r 1 [.a8]<|.q 1<|.q 1<|.q 1<|.r 1 [iN (y1.wa)]<|.q 1<|.mm<|.q 2<|.st (some (iV ((o5 w y a7).re)))<|.h (.B0 1000 (sE n a7 zs ix (y.na) (max ((o5 w y a7).re) (a7+y2)) (.sl false ([n].map sV)) (y1.ru) (y1.wa) (y.tr) (y.td) g o c se (ls++[(⟨a7,(ag (y.na)),y3.1⟩:l7)])))<|.QA (.key 1000) [2,ix,5] g (o+(ix)*8+7) 2 ((y.td).map ai) (fun ga oa ca=>.h (.B0 1000 (.agg [sV n,iV a7,.own 8 ((zs.take ix).map aB++(.agg [sV (y.na),iV (max ((o5 w y a7).re) (a7+y2)),bV true,jz (.sl false ([n].map sV)) (y1.ru) (y1.wa),iV (y.tr),.own 2 ((y.td).map ai) ga oa ca]:V)::(zs.drop (ix+1)).map aB) g o c,.ow 1 (se.map sV),.ow 3 ((ls++[(⟨a7,(ag (y.na)),y3.1⟩:l7)]).map aO)]))<|.dx 7 [0,1,2,3,4,5,6] [(0,⟨false,[],some [3],[80],[]⟩),(1,⟨false,[],some [3],[81],[]⟩),(4,⟨false,[],some [1000],[84],[]⟩),(5,⟨true,[],none,[85],[]⟩),(6,⟨true,[],none,[86],[1000]⟩)] []<|.r 1 [.a8]<|.r 1 [.a8]<|.q 1<|.q 1<|.r 1 [.own 2 ((y.td).map ai) ga oa ca]<|.eu mfE (fun _=>.eu (XL (DM n a7 zs se (ls++[(⟨a7,(ag (y.na)),y3.1⟩:l7)]) gt g o c ix (⟨y.na,max ((o5 w y a7).re) (a7+y2),true,⟨[n],y1.ru,y1.wa⟩,y.tr,[]⟩:j9) ga oa ca (y.td) g3) [(1002,3),(1000,1000)] 1000 gt (bw n a7 zs ix ((⟨y.na,max ((o5 w y a7).re) (a7+y2),true,⟨[n],y1.ru,y1.wa⟩,y.tr,[]⟩:j9).na) ((⟨y.na,max ((o5 w y a7).re) (a7+y2),true,⟨[n],y1.ru,y1.wa⟩,y.tr,[]⟩:j9).re) ((⟨y.na,max ((o5 w y a7).re) (a7+y2),true,⟨[n],y1.ru,y1.wa⟩,y.tr,[]⟩:j9).kn) ((⟨y.na,max ((o5 w y a7).re) (a7+y2),true,⟨[n],y1.ru,y1.wa⟩,y.tr,[]⟩:j9).gr.na) ((⟨y.na,max ((o5 w y a7).re) (a7+y2),true,⟨[n],y1.ru,y1.wa⟩,y.tr,[]⟩:j9).gr.ru) ((⟨y.na,max ((o5 w y a7).re) (a7+y2),true,⟨[n],y1.ru,y1.wa⟩,y.tr,[]⟩:j9).gr.wa) ((⟨y.na,max ((o5 w y a7).re) (a7+y2),true,⟨[n],y1.ru,y1.wa⟩,y.tr,[]⟩:j9).tr) (gy (⟨y.na,max ((o5 w y a7).re) (a7+y2),true,⟨[n],y1.ru,y1.wa⟩,y.tr,[]⟩:j9) (y.td)) ga oa ca g o c se (ls++[(⟨a7,(ag (y.na)),y3.1⟩:l7)]))) (fun _=>.q 2<|.cu (X0 1000 [2,ix,5] (((y.td).filter (Nc (⟨y.na,max ((o5 w y a7).re) (a7+y2),true,⟨[n],y1.ru,y1.wa⟩,y.tr,[]⟩:j9))).length) 2 ((gy (⟨y.na,max ((o5 w y a7).re) (a7+y2),true,⟨[n],y1.ru,y1.wa⟩,y.tr,[]⟩:j9) (y.td)).map ai) ga oa ca g (o+(ix)*8+7)) (fun _=>.h (.B0 1000 (bw n a7 zs ix ((⟨y.na,max ((o5 w y a7).re) (a7+y2),true,⟨[n],y1.ru,y1.wa⟩,y.tr,[]⟩:j9).na) ((⟨y.na,max ((o5 w y a7).re) (a7+y2),true,⟨[n],y1.ru,y1.wa⟩,y.tr,[]⟩:j9).re) ((⟨y.na,max ((o5 w y a7).re) (a7+y2),true,⟨[n],y1.ru,y1.wa⟩,y.tr,[]⟩:j9).kn) ((⟨y.na,max ((o5 w y a7).re) (a7+y2),true,⟨[n],y1.ru,y1.wa⟩,y.tr,[]⟩:j9).gr.na) ((⟨y.na,max ((o5 w y a7).re) (a7+y2),true,⟨[n],y1.ru,y1.wa⟩,y.tr,[]⟩:j9).gr.ru) ((⟨y.na,max ((o5 w y a7).re) (a7+y2),true,⟨[n],y1.ru,y1.wa⟩,y.tr,[]⟩:j9).gr.wa) ((⟨y.na,max ((o5 w y a7).re) (a7+y2),true,⟨[n],y1.ru,y1.wa⟩,y.tr,[]⟩:j9).tr) (y.td.filter (Oa (bK w n y.na).ru)) ga oa ca g o c se (ls++[(⟨a7,(ag (y.na)),y3.1⟩:l7)])))<|.h (.PV (.key 1000) [2,ix,5] g (o+(ix)*8+7) (.own 2 ((y.td.filter (Oa (bK w n y.na).ru)).map ai) ga oa ca) (.ow 2 ((y.td.filter (Oa (bK w n y.na).ru)).map ai)))<|.h (.B0 1000 (da n a7 zs ix ((⟨y.na,max ((o5 w y a7).re) (a7+y2),true,⟨[n],y1.ru,y1.wa⟩,y.tr,[]⟩:j9).na) ((⟨y.na,max ((o5 w y a7).re) (a7+y2),true,⟨[n],y1.ru,y1.wa⟩,y.tr,[]⟩:j9).re) ((⟨y.na,max ((o5 w y a7).re) (a7+y2),true,⟨[n],y1.ru,y1.wa⟩,y.tr,[]⟩:j9).kn) ((⟨y.na,max ((o5 w y a7).re) (a7+y2),true,⟨[n],y1.ru,y1.wa⟩,y.tr,[]⟩:j9).gr.na) ((⟨y.na,max ((o5 w y a7).re) (a7+y2),true,⟨[n],y1.ru,y1.wa⟩,y.tr,[]⟩:j9).gr.ru) ((⟨y.na,max ((o5 w y a7).re) (a7+y2),true,⟨[n],y1.ru,y1.wa⟩,y.tr,[]⟩:j9).gr.wa) ((⟨y.na,max ((o5 w y a7).re) (a7+y2),true,⟨[n],y1.ru,y1.wa⟩,y.tr,[]⟩:j9).tr) (y.td.filter (Oa (bK w n y.na).ru)) g o c se (ls++[(⟨a7,(ag (y.na)),y3.1⟩:l7)])))<|.h (.B0 1000 (bL n a7 (zs.set ix ({ o5 w y a7 with kn:=true,gr:=(bK w n y.na),re:=max (o5 w y a7).re (a7+((bK w n y.na).wa:Int)),td:=y.td.filter (Oa (bK w n y.na).ru) }:j9)) g o c se (ls++[(⟨a7,(ag (y.na)),y3.1⟩:l7)])))<|.nil)))))):Sc Tryz.prog)) (af w (ag (y.na)) (y.tr))) ((y1.wa:Nat):Int)) (bD (af w (ag (y.na)) 2).1 (af w (ag (y.na)) 2).2 n))
  ((fun v6:BL=>(fun v1:k9=>(fun v2:Int=>(fun v3:Int×BL=>(fun v4:V=>(fun v12:V=>(fun v5:V=>(fun v7:V=>(fun v8:V=>(fun v9:k9=>(fun v10:V=>(fun v11:V=>(fun H5:Bool=>(fun M':V=>(∀ g3:Nat,True/\Z gw 1/\Z g3 0/\Z g3 0/\True/\(V.at gt 0 M' [2,ix,0]=some (g,(o+ix*8+0),sV (y.na)))/\(ff (y.na)).sm/\(((y.na).length<=4000000000000000000))/\Z g3 0/\True/\(V.at gt 0 M' [2,ix,4]=some (g,(o+ix*8+6),iV (y.tr)))/\(([.ptr (.key 1001) [] gw 0,.ptr (.key 1000) [2,ix] g (o+ix*8),sV v6,iV (y.tr)]:List V)=[.ptr (.key 1001) [] gw 0,.ptr (.key 1000) [2,ix] g (o+ix*8),sV v6,iV (y.tr)])/\Er gw v11/\Er gt M'/\((ix<zs.length)/\(ls.length<=1000)/\(0<=(y.tr)/\(y.tr)<=1000)/\(0<=a7/\a7<=100000)/\(y=y)/\(y.gr.wa<=1000))/\((bL n a7 (zs.set ix (de y a7 v3.1 (y.tr))) g o c se (ls++[(⟨a7,v6,v3.1⟩:l7)]):V)=da n a7 zs ix (y.na) ((o5 w y a7).re) (y.kn) (y.gr.na) (y.gr.ru) (y.gr.wa) (y.tr) (y.td) g o c se (ls++[(⟨a7,v6,v3.1⟩:l7)]))/\Gd (H5==true) (Z g3 0)/\Gd (H5==true) True/\Gd (H5==true) (V.at gt 0 v4 [2,ix,4]=some (g,(o+ix*8+6),iV (y.tr)))/\Gd (H5==true) (m8 ((y.tr)+1))/\Pk H5 (H5==true) true/\Br (H5&&(r9 ((y.tr)+1) 3)) (Z g3 0/\True/\(V.at gt 0 v4 [2,ix,4]=some (g,(o+ix*8+6),iV (y.tr)))/\m8 ((y.tr)+1)/\True/\(V.at gt 0 v4 [2,ix,4]=some (g,(o+ix*8+6),iV (y.tr)))/\(V.set v4 [2,ix,4] (iV ((y.tr)+1))=da n a7 zs ix (y.na) ((o5 w y a7).re) (y.kn) (y.gr.na) (y.gr.ru) (y.gr.wa) ((y.tr)+1) (y.td) g o c se (ls++[(⟨a7,v6,v3.1⟩:l7)]))/\((da n a7 zs ix (y.na) ((o5 w y a7).re) (y.kn) (y.gr.na) (y.gr.ru) (y.gr.wa) ((y.tr)+1) (y.td) g o c se (ls++[(⟨a7,v6,v3.1⟩:l7)]):V)=bL n a7 (zs.set ix ({ o5 w y a7 with tr:=y.tr+1 }:j9)) g o c se (ls++[(⟨a7,v6,v3.1⟩:l7)]))/\Q (.tup []) (.tup [])/\Er gw v11/\Qr gt (bL n a7 (zs.set ix ({ o5 w y a7 with tr:=y.tr+1 }:j9)) g o c se (ls++[(⟨a7,v6,v3.1⟩:l7)])) gt v10) (Z g3 0/\True/\(V.at gt 0 v4 [2,ix,2]=some (g,(o+ix*8+2),bV (y.kn)))/\(V.set v4 [2,ix,2] (bV true)=Co n a7 zs ix (y.na) ((o5 w y a7).re) (y.gr.na) (y.gr.ru) (y.gr.wa) (y.tr) (y.td) g o c se (ls++[(⟨a7,v6,v3.1⟩:l7)]))/\Z g3 0/\True/\Z gw 0/\Z g3 0/\True/\(V.at gt 0 v7 [2,ix,0]=some (g,(o+ix*8+0),sV (y.na)))/\True/\Z gt 0/\(oc w (y.na) n).sm/\(((y.na).length<=1000)/\((af w v6 2).2.length<=1000000))/\True/\(V.at gt 0 v7 [2,ix,3]=some (g,(o+ix*8+3),eS (y.gr.na) (y.gr.ru) (y.gr.wa)))/\(V.set v7 [2,ix,3] (jz v12 (v1.ru) (v1.wa))=sE n a7 zs ix (y.na) ((o5 w y a7).re) v12 (v1.ru) (v1.wa) (y.tr) (y.td) g o c se (ls++[(⟨a7,v6,v3.1⟩:l7)]))/\Z g3 0/\Z g3 0/\True/\(V.at gt 0 v5 [2,ix,1]=some (g,(o+ix*8+1),iV ((o5 w y a7).re)))/\True/\Z gt 1/\Z g3 0/\True/\(V.at gt 0 v5 [2,ix,3,2]=some (g,(o+ix*8+3+2),iN (v1.wa)))/\m8 (a7+v2)/\(IntKind.i64=IntKind.i64)/\True/\(V.at gt 0 v5 [2,ix,1]=some (g,(o+ix*8+1),iV ((o5 w y a7).re)))/\(V.set v5 [2,ix,1] (iV (max ((o5 w y a7).re) (a7+v2)))=sE n a7 zs ix (y.na) (max ((o5 w y a7).re) (a7+v2)) v12 (v1.ru) (v1.wa) (y.tr) (y.td) g o c se (ls++[(⟨a7,v6,v3.1⟩:l7)]))/\(V.at gt 0 v8 [2,ix,5]=some (g,o+(ix)*8+7,.ow 2 ((y.td).map ai)))/\∀ ga oa ca:Nat,(fun NS:V=>(V.set v8 [2,ix,5] (.own 2 ((y.td).map ai) ga oa ca)=.agg [sV n,iV a7,.own 8 ((zs.take ix).map aB++NS::(zs.drop (ix+1)).map aB) g o c,.ow 1 (se.map sV),.ow 3 ((ls++[(⟨a7,v6,v3.1⟩:l7)]).map aO)])/\Z g3 0/\Z g3 0/\True/\(V.at gt 0 (.agg [sV n,iV a7,.own 8 ((zs.take ix).map aB++NS::(zs.drop (ix+1)).map aB) g o c,.ow 1 (se.map sV),.ow 3 ((ls++[(⟨a7,v6,v3.1⟩:l7)]).map aO)]) [2,ix,5]=some (g,(o+ix*8+7),.own 2 ((y.td).map ai) ga oa ca))/\((Value.func (.func 143) #[] #[.pointer (some ⟨g3,0,none⟩)]).oneCell'=true)/\∀ _:Unit,((DM n a7 zs se (ls++[(⟨a7,v6,v3.1⟩:l7)]) gt g o c ix (⟨y.na,max ((o5 w y a7).re) (a7+v2),true,⟨[n],v1.ru,v1.wa⟩,y.tr,[]⟩:j9) ga oa ca (y.td) g3).sm/\Er g3 (.ptr (.key 1000) [2,ix] g (o+ix*8))/\Er gt (bw n a7 zs ix ((⟨y.na,max ((o5 w y a7).re) (a7+v2),true,⟨[n],v1.ru,v1.wa⟩,y.tr,[]⟩:j9).na) ((⟨y.na,max ((o5 w y a7).re) (a7+v2),true,⟨[n],v1.ru,v1.wa⟩,y.tr,[]⟩:j9).re) ((⟨y.na,max ((o5 w y a7).re) (a7+v2),true,⟨[n],v1.ru,v1.wa⟩,y.tr,[]⟩:j9).kn) ((⟨y.na,max ((o5 w y a7).re) (a7+v2),true,⟨[n],v1.ru,v1.wa⟩,y.tr,[]⟩:j9).gr.na) ((⟨y.na,max ((o5 w y a7).re) (a7+v2),true,⟨[n],v1.ru,v1.wa⟩,y.tr,[]⟩:j9).gr.ru) ((⟨y.na,max ((o5 w y a7).re) (a7+v2),true,⟨[n],v1.ru,v1.wa⟩,y.tr,[]⟩:j9).gr.wa) ((⟨y.na,max ((o5 w y a7).re) (a7+v2),true,⟨[n],v1.ru,v1.wa⟩,y.tr,[]⟩:j9).tr) (y.td) ga oa ca g o c se (ls++[(⟨a7,v6,v3.1⟩:l7)]))/\(((ix<zs.length)/\((y.td).length<=1000)/\(∀ x,x∈(y.td)->x.ad.length<=1000/\m5 x.ad)/\((⟨y.na,max ((o5 w y a7).re) (a7+v2),true,⟨[n],v1.ru,v1.wa⟩,y.tr,[]⟩:j9).gr.ru.length<=1000)/\(∀ i,((⟨y.na,max ((o5 w y a7).re) (a7+v2),true,⟨[n],v1.ru,v1.wa⟩,y.tr,[]⟩:j9).gr.ru.getD i ⟨false,[]⟩).path.length<=1000))/\(((g3,.ptr (.key 1000) [2,ix] g (o+ix*8)):Nat×V)=(g3,.ptr (.key 1000) [2,ix] g (o+ix*8)))/\(((gt,bw n a7 zs ix ((⟨y.na,max ((o5 w y a7).re) (a7+v2),true,⟨[n],v1.ru,v1.wa⟩,y.tr,[]⟩:j9).na) ((⟨y.na,max ((o5 w y a7).re) (a7+v2),true,⟨[n],v1.ru,v1.wa⟩,y.tr,[]⟩:j9).re) ((⟨y.na,max ((o5 w y a7).re) (a7+v2),true,⟨[n],v1.ru,v1.wa⟩,y.tr,[]⟩:j9).kn) ((⟨y.na,max ((o5 w y a7).re) (a7+v2),true,⟨[n],v1.ru,v1.wa⟩,y.tr,[]⟩:j9).gr.na) ((⟨y.na,max ((o5 w y a7).re) (a7+v2),true,⟨[n],v1.ru,v1.wa⟩,y.tr,[]⟩:j9).gr.ru) ((⟨y.na,max ((o5 w y a7).re) (a7+v2),true,⟨[n],v1.ru,v1.wa⟩,y.tr,[]⟩:j9).gr.wa) ((⟨y.na,max ((o5 w y a7).re) (a7+v2),true,⟨[n],v1.ru,v1.wa⟩,y.tr,[]⟩:j9).tr) (gy (⟨y.na,max ((o5 w y a7).re) (a7+v2),true,⟨[n],v1.ru,v1.wa⟩,y.tr,[]⟩:j9) (y.td)) ga oa ca g o c se (ls++[(⟨a7,v6,v3.1⟩:l7)])):Nat×V)=(gt,bw n a7 zs ix ((⟨y.na,max ((o5 w y a7).re) (a7+v2),true,⟨[n],v1.ru,v1.wa⟩,y.tr,[]⟩:j9).na) ((⟨y.na,max ((o5 w y a7).re) (a7+v2),true,⟨[n],v1.ru,v1.wa⟩,y.tr,[]⟩:j9).re) ((⟨y.na,max ((o5 w y a7).re) (a7+v2),true,⟨[n],v1.ru,v1.wa⟩,y.tr,[]⟩:j9).kn) ((⟨y.na,max ((o5 w y a7).re) (a7+v2),true,⟨[n],v1.ru,v1.wa⟩,y.tr,[]⟩:j9).gr.na) ((⟨y.na,max ((o5 w y a7).re) (a7+v2),true,⟨[n],v1.ru,v1.wa⟩,y.tr,[]⟩:j9).gr.ru) ((⟨y.na,max ((o5 w y a7).re) (a7+v2),true,⟨[n],v1.ru,v1.wa⟩,y.tr,[]⟩:j9).gr.wa) ((⟨y.na,max ((o5 w y a7).re) (a7+v2),true,⟨[n],v1.ru,v1.wa⟩,y.tr,[]⟩:j9).tr) (gy (⟨y.na,max ((o5 w y a7).re) (a7+v2),true,⟨[n],v1.ru,v1.wa⟩,y.tr,[]⟩:j9) (y.td)) ga oa ca g o c se (ls++[(⟨a7,v6,v3.1⟩:l7)])))/\True))/\∀ _:Unit,True/\((((.key 1000:l8),([2,ix,5]:List Nat),2,ga,oa,(0:Nat),(((y.td).filter (Nc (⟨y.na,max ((o5 w y a7).re) (a7+v2),true,⟨[n],v1.ru,v1.wa⟩,y.tr,[]⟩:j9))).length),ca)=((.key 1000:l8),([2,ix,5]:List Nat),2,ga,oa,(0:Nat),(((y.td).filter (Nc (⟨y.na,max ((o5 w y a7).re) (a7+v2),true,⟨[n],v1.ru,v1.wa⟩,y.tr,[]⟩:j9))).length),ca))/\((.ptr (.key 1000) [2,ix,5] g (o+ix*8+7):V)=.ptr (.key 1000) [2,ix,5] g (o+(ix)*8+7))/\(V.at gt 0 (bw n a7 zs ix ((⟨y.na,max ((o5 w y a7).re) (a7+v2),true,⟨[n],v1.ru,v1.wa⟩,y.tr,[]⟩:j9).na) ((⟨y.na,max ((o5 w y a7).re) (a7+v2),true,⟨[n],v1.ru,v1.wa⟩,y.tr,[]⟩:j9).re) ((⟨y.na,max ((o5 w y a7).re) (a7+v2),true,⟨[n],v1.ru,v1.wa⟩,y.tr,[]⟩:j9).kn) ((⟨y.na,max ((o5 w y a7).re) (a7+v2),true,⟨[n],v1.ru,v1.wa⟩,y.tr,[]⟩:j9).gr.na) ((⟨y.na,max ((o5 w y a7).re) (a7+v2),true,⟨[n],v1.ru,v1.wa⟩,y.tr,[]⟩:j9).gr.ru) ((⟨y.na,max ((o5 w y a7).re) (a7+v2),true,⟨[n],v1.ru,v1.wa⟩,y.tr,[]⟩:j9).gr.wa) ((⟨y.na,max ((o5 w y a7).re) (a7+v2),true,⟨[n],v1.ru,v1.wa⟩,y.tr,[]⟩:j9).tr) (gy (⟨y.na,max ((o5 w y a7).re) (a7+v2),true,⟨[n],v1.ru,v1.wa⟩,y.tr,[]⟩:j9) (y.td)) ga oa ca g o c se (ls++[(⟨a7,v6,v3.1⟩:l7)])) [2,ix,5]=some (g,o+(ix)*8+7,.own 2 ((gy (⟨y.na,max ((o5 w y a7).re) (a7+v2),true,⟨[n],v1.ru,v1.wa⟩,y.tr,[]⟩:j9) (y.td)).map ai) ga oa ca))/\((1:Nat)=1)/\((((y.td).filter (Nc (⟨y.na,max ((o5 w y a7).re) (a7+v2),true,⟨[n],v1.ru,v1.wa⟩,y.tr,[]⟩:j9))).length)<=((gy (⟨y.na,max ((o5 w y a7).re) (a7+v2),true,⟨[n],v1.ru,v1.wa⟩,y.tr,[]⟩:j9) (y.td)).map ai).length)/\(V.aE ((gy (⟨y.na,max ((o5 w y a7).re) (a7+v2),true,⟨[n],v1.ru,v1.wa⟩,y.tr,[]⟩:j9) (y.td)).map ai)=false))/\∀ _:Unit,(V.set (bw n a7 zs ix ((⟨y.na,max ((o5 w y a7).re) (a7+v2),true,⟨[n],v1.ru,v1.wa⟩,y.tr,[]⟩:j9).na) ((⟨y.na,max ((o5 w y a7).re) (a7+v2),true,⟨[n],v1.ru,v1.wa⟩,y.tr,[]⟩:j9).re) ((⟨y.na,max ((o5 w y a7).re) (a7+v2),true,⟨[n],v1.ru,v1.wa⟩,y.tr,[]⟩:j9).kn) ((⟨y.na,max ((o5 w y a7).re) (a7+v2),true,⟨[n],v1.ru,v1.wa⟩,y.tr,[]⟩:j9).gr.na) ((⟨y.na,max ((o5 w y a7).re) (a7+v2),true,⟨[n],v1.ru,v1.wa⟩,y.tr,[]⟩:j9).gr.ru) ((⟨y.na,max ((o5 w y a7).re) (a7+v2),true,⟨[n],v1.ru,v1.wa⟩,y.tr,[]⟩:j9).gr.wa) ((⟨y.na,max ((o5 w y a7).re) (a7+v2),true,⟨[n],v1.ru,v1.wa⟩,y.tr,[]⟩:j9).tr) (gy (⟨y.na,max ((o5 w y a7).re) (a7+v2),true,⟨[n],v1.ru,v1.wa⟩,y.tr,[]⟩:j9) (y.td)) ga oa ca g o c se (ls++[(⟨a7,v6,v3.1⟩:l7)])) [2,ix,5] (.own 2 (((gy (⟨y.na,max ((o5 w y a7).re) (a7+v2),true,⟨[n],v1.ru,v1.wa⟩,y.tr,[]⟩:j9) (y.td)).map ai).take (((y.td).filter (Nc (⟨y.na,max ((o5 w y a7).re) (a7+v2),true,⟨[n],v1.ru,v1.wa⟩,y.tr,[]⟩:j9))).length)) ga oa ca)=bw n a7 zs ix ((⟨y.na,max ((o5 w y a7).re) (a7+v2),true,⟨[n],v1.ru,v1.wa⟩,y.tr,[]⟩:j9).na) ((⟨y.na,max ((o5 w y a7).re) (a7+v2),true,⟨[n],v1.ru,v1.wa⟩,y.tr,[]⟩:j9).re) ((⟨y.na,max ((o5 w y a7).re) (a7+v2),true,⟨[n],v1.ru,v1.wa⟩,y.tr,[]⟩:j9).kn) ((⟨y.na,max ((o5 w y a7).re) (a7+v2),true,⟨[n],v1.ru,v1.wa⟩,y.tr,[]⟩:j9).gr.na) ((⟨y.na,max ((o5 w y a7).re) (a7+v2),true,⟨[n],v1.ru,v1.wa⟩,y.tr,[]⟩:j9).gr.ru) ((⟨y.na,max ((o5 w y a7).re) (a7+v2),true,⟨[n],v1.ru,v1.wa⟩,y.tr,[]⟩:j9).gr.wa) ((⟨y.na,max ((o5 w y a7).re) (a7+v2),true,⟨[n],v1.ru,v1.wa⟩,y.tr,[]⟩:j9).tr) (y.td.filter (Oa v9.ru)) ga oa ca g o c se (ls++[(⟨a7,v6,v3.1⟩:l7)]))/\(V.at gt 0 (bw n a7 zs ix ((⟨y.na,max ((o5 w y a7).re) (a7+v2),true,⟨[n],v1.ru,v1.wa⟩,y.tr,[]⟩:j9).na) ((⟨y.na,max ((o5 w y a7).re) (a7+v2),true,⟨[n],v1.ru,v1.wa⟩,y.tr,[]⟩:j9).re) ((⟨y.na,max ((o5 w y a7).re) (a7+v2),true,⟨[n],v1.ru,v1.wa⟩,y.tr,[]⟩:j9).kn) ((⟨y.na,max ((o5 w y a7).re) (a7+v2),true,⟨[n],v1.ru,v1.wa⟩,y.tr,[]⟩:j9).gr.na) ((⟨y.na,max ((o5 w y a7).re) (a7+v2),true,⟨[n],v1.ru,v1.wa⟩,y.tr,[]⟩:j9).gr.ru) ((⟨y.na,max ((o5 w y a7).re) (a7+v2),true,⟨[n],v1.ru,v1.wa⟩,y.tr,[]⟩:j9).gr.wa) ((⟨y.na,max ((o5 w y a7).re) (a7+v2),true,⟨[n],v1.ru,v1.wa⟩,y.tr,[]⟩:j9).tr) (y.td.filter (Oa v9.ru)) ga oa ca g o c se (ls++[(⟨a7,v6,v3.1⟩:l7)])) [2,ix,5]=some (g,o+(ix)*8+7,.own 2 ((y.td.filter (Oa v9.ru)).map ai) ga oa ca))/\(V.set (bw n a7 zs ix ((⟨y.na,max ((o5 w y a7).re) (a7+v2),true,⟨[n],v1.ru,v1.wa⟩,y.tr,[]⟩:j9).na) ((⟨y.na,max ((o5 w y a7).re) (a7+v2),true,⟨[n],v1.ru,v1.wa⟩,y.tr,[]⟩:j9).re) ((⟨y.na,max ((o5 w y a7).re) (a7+v2),true,⟨[n],v1.ru,v1.wa⟩,y.tr,[]⟩:j9).kn) ((⟨y.na,max ((o5 w y a7).re) (a7+v2),true,⟨[n],v1.ru,v1.wa⟩,y.tr,[]⟩:j9).gr.na) ((⟨y.na,max ((o5 w y a7).re) (a7+v2),true,⟨[n],v1.ru,v1.wa⟩,y.tr,[]⟩:j9).gr.ru) ((⟨y.na,max ((o5 w y a7).re) (a7+v2),true,⟨[n],v1.ru,v1.wa⟩,y.tr,[]⟩:j9).gr.wa) ((⟨y.na,max ((o5 w y a7).re) (a7+v2),true,⟨[n],v1.ru,v1.wa⟩,y.tr,[]⟩:j9).tr) (y.td.filter (Oa v9.ru)) ga oa ca g o c se (ls++[(⟨a7,v6,v3.1⟩:l7)])) [2,ix,5] (.ow 2 ((y.td.filter (Oa v9.ru)).map ai))=da n a7 zs ix ((⟨y.na,max ((o5 w y a7).re) (a7+v2),true,⟨[n],v1.ru,v1.wa⟩,y.tr,[]⟩:j9).na) ((⟨y.na,max ((o5 w y a7).re) (a7+v2),true,⟨[n],v1.ru,v1.wa⟩,y.tr,[]⟩:j9).re) ((⟨y.na,max ((o5 w y a7).re) (a7+v2),true,⟨[n],v1.ru,v1.wa⟩,y.tr,[]⟩:j9).kn) ((⟨y.na,max ((o5 w y a7).re) (a7+v2),true,⟨[n],v1.ru,v1.wa⟩,y.tr,[]⟩:j9).gr.na) ((⟨y.na,max ((o5 w y a7).re) (a7+v2),true,⟨[n],v1.ru,v1.wa⟩,y.tr,[]⟩:j9).gr.ru) ((⟨y.na,max ((o5 w y a7).re) (a7+v2),true,⟨[n],v1.ru,v1.wa⟩,y.tr,[]⟩:j9).gr.wa) ((⟨y.na,max ((o5 w y a7).re) (a7+v2),true,⟨[n],v1.ru,v1.wa⟩,y.tr,[]⟩:j9).tr) (y.td.filter (Oa v9.ru)) g o c se (ls++[(⟨a7,v6,v3.1⟩:l7)]))/\((da n a7 zs ix ((⟨y.na,max ((o5 w y a7).re) (a7+v2),true,⟨[n],v1.ru,v1.wa⟩,y.tr,[]⟩:j9).na) ((⟨y.na,max ((o5 w y a7).re) (a7+v2),true,⟨[n],v1.ru,v1.wa⟩,y.tr,[]⟩:j9).re) ((⟨y.na,max ((o5 w y a7).re) (a7+v2),true,⟨[n],v1.ru,v1.wa⟩,y.tr,[]⟩:j9).kn) ((⟨y.na,max ((o5 w y a7).re) (a7+v2),true,⟨[n],v1.ru,v1.wa⟩,y.tr,[]⟩:j9).gr.na) ((⟨y.na,max ((o5 w y a7).re) (a7+v2),true,⟨[n],v1.ru,v1.wa⟩,y.tr,[]⟩:j9).gr.ru) ((⟨y.na,max ((o5 w y a7).re) (a7+v2),true,⟨[n],v1.ru,v1.wa⟩,y.tr,[]⟩:j9).gr.wa) ((⟨y.na,max ((o5 w y a7).re) (a7+v2),true,⟨[n],v1.ru,v1.wa⟩,y.tr,[]⟩:j9).tr) (y.td.filter (Oa v9.ru)) g o c se (ls++[(⟨a7,v6,v3.1⟩:l7)]):V)=bL n a7 (zs.set ix ({ o5 w y a7 with kn:=true,gr:=v9,re:=max (o5 w y a7).re (a7+(v9.wa:Int)),td:=y.td.filter (Oa v9.ru) }:j9)) g o c se (ls++[(⟨a7,v6,v3.1⟩:l7)]))/\Q (.tup []) (.tup [])/\Er gw v11/\Qr gt (bL n a7 (zs.set ix ({ o5 w y a7 with kn:=true,gr:=v9,re:=max (o5 w y a7).re (a7+(v9.wa:Int)),td:=y.td.filter (Oa v9.ru) }:j9)) g o c se (ls++[(⟨a7,v6,v3.1⟩:l7)])) gt v10) (.agg [sV (y.na),iV (max ((o5 w y a7).re) (a7+v2)),bV true,jz v12 (v1.ru) (v1.wa),iV (y.tr),.own 2 ((y.td).map ai) ga oa ca]:V)))) (bL n a7 zs g o c se ls)) (o9 (v3.1) 3)) (.agg [.mp (w.map E9),.ptr (.key 1000) [] gt 0])) (bL n a7 (zs.set ix (NW w n y a7)) g o c se (ls++[(⟨a7,ag y.na,(af w (ag y.na) y.tr).1⟩:l7)]))) (bK w n y.na)) (sE n a7 zs ix (y.na) (max ((o5 w y a7).re) (a7+v2)) v12 (v1.ru) (v1.wa) (y.tr) (y.td) g o c se (ls++[(⟨a7,v6,v3.1⟩:l7)]))) (Co n a7 zs ix (y.na) ((o5 w y a7).re) (y.gr.na) (y.gr.ru) (y.gr.wa) (y.tr) (y.td) g o c se (ls++[(⟨a7,v6,v3.1⟩:l7)]))) (sE n a7 zs ix (y.na) ((o5 w y a7).re) v12 (v1.ru) (v1.wa) (y.tr) (y.td) g o c se (ls++[(⟨a7,v6,v3.1⟩:l7)]))) (.sl false ([n].map sV))) (da n a7 zs ix (y.na) ((o5 w y a7).re) (y.kn) (y.gr.na) (y.gr.ru) (y.gr.wa) (y.tr) (y.td) g o c se (ls++[(⟨a7,v6,v3.1⟩:l7)]))) (af w v6 (y.tr))) ((v1.wa:Nat):Int)) (bD (af w v6 2).1 (af w v6 2).2 n)) (ag (y.na))) ?_
 subst XB
 intro g3
 refine⟨trivial,rfl,rfl,rfl,trivial,(aS (f:=2) rfl).trans (aI (aj (d:=e9) Z9) rfl),rfl,by have:=hy.n;omega,rfl,trivial,(aS (f:=2) rfl).trans (aI (aj (d:=e9) Z9) rfl),by first | rfl | (exfalso;omega) | (simp only[Y0]) | (simp;omega),rfl,rfl,⟨hi,hl,by have:=hy.k;omega,hn,rfl,hy.w⟩,Oe (Zq (V.own 8 · g o c) (Ew (f:=aB) (a:=o5 w (zs.getD ix e9) a7) hi)),fun hG=>rfl,fun hG=>trivial,fun hG=>(aS (f:=2) rfl).trans (aI (aK Z9) rfl),fun hG=>by(try simp only[nb]at hG);have:=hy.k;omega,⟨fun h=>by rw[h] <;> rfl,fun _=>rfl⟩,?_⟩
 refine bI (fun j7=>?_) fun j7=>?_
 refine⟨rfl,trivial,(aS (f:=2) rfl).trans (aI (aK Z9) rfl),by have:=hy.k;omega,trivial,(aS (f:=2) rfl).trans (aI (aK Z9) rfl),dR (aV (aK Z9) (dc Z9)),Oe (Zq (V.own 8 · g o c) (lF (f:=aB) (x:=({ o5 w (zs.getD ix e9) a7 with tr:=(zs.getD ix e9).tr+1 }:j9)) Z9)),?_⟩
 refine⟨?_,rfl,by rw[LG j7]⟩
 unfold Q
 rfl
 refine⟨rfl,trivial,(aS (f:=2) rfl).trans (aI (aK Z9) rfl),dR (aV (aK Z9) (dc Z9)),rfl,trivial,rfl,rfl,trivial,(aS (f:=2) rfl).trans (aI (aK Z9) rfl),trivial,rfl,rfl,⟨by have:=hy.n;omega,by have:=ub (w:=w) (a:=ag (zs.getD ix e9).na) (k:=2) (m:=300) (fun i=>⟨(hz i).t,by have:=(hz i).l;omega⟩);omega⟩,trivial,(aS (f:=2) rfl).trans (aI (aK Z9) rfl),dR (aV (aK Z9) (dc Z9)),rfl,rfl,trivial,(aS (f:=2) rfl).trans (aI (aK Z9) rfl),trivial,rfl,rfl,trivial,(aS (f:=2) rfl).trans (aI (aK Z9) rfl),by have:=jS (af w (ag (zs.getD ix e9).na) 2).1 (af w (ag (zs.getD ix e9).na) 2).2 n;omega,rfl,trivial,(aS (f:=2) rfl).trans (aI (aK Z9) rfl),dR (aV (aK Z9) (dc Z9)),(aS (f:=2) rfl).trans (aI (aK Z9) rfl),?_⟩
 intro ga oa ca
 refine⟨dR (aV (aK Z9) (dc Z9)),rfl,rfl,trivial,(aS (f:=2) rfl).trans (aI (aK Z9) rfl),rfl,?_⟩
 intro _
 refine⟨⟨rfl,rfl,rfl,⟨⟨hi,by have:=hy.t;omega,fun x hx=>⟨(hy.ta x hx).1,(hy.ta x hx).2.1⟩,Nat.le_trans (px _ _ _).1 Z9,fun i=>tZ (p:=fun r:s6=>r.path.length<=1000) (fun r hr=>by have:=(px (af w (ag (zs.getD ix e9).na) 2).1 (af w (ag (zs.getD ix e9).na) 2).2 n).2 r hr;omega) Z8 i⟩,rfl,rfl,trivial⟩⟩,?_⟩
 intro _
 refine⟨trivial,⟨rfl,rfl,(aS (f:=2) rfl).trans (aI (aK Z9) rfl),rfl,by rw[Y2,FE];exact List.length_filter_le ..,cN (f:=ai) (fun _=>rfl) _⟩,?_⟩
 intro _
 refine⟨(Zq (fun r:V=>V.set (.agg [sV n,iV a7,.own 8 ((zs.take ix).map aB++(.agg [sV ((⟨(zs.getD ix e9).na,max ((o5 w (zs.getD ix e9) a7).re) (a7+(((bD (af w (ag ((zs.getD ix e9).na)) 2).1 (af w (ag ((zs.getD ix e9).na)) 2).2 n).wa:Nat):Int)),true,⟨[n],(bD (af w (ag ((zs.getD ix e9).na)) 2).1 (af w (ag ((zs.getD ix e9).na)) 2).2 n).ru,(bD (af w (ag ((zs.getD ix e9).na)) 2).1 (af w (ag ((zs.getD ix e9).na)) 2).2 n).wa⟩,(zs.getD ix e9).tr,[]⟩:j9).na),iV ((⟨(zs.getD ix e9).na,max ((o5 w (zs.getD ix e9) a7).re) (a7+(((bD (af w (ag ((zs.getD ix e9).na)) 2).1 (af w (ag ((zs.getD ix e9).na)) 2).2 n).wa:Nat):Int)),true,⟨[n],(bD (af w (ag ((zs.getD ix e9).na)) 2).1 (af w (ag ((zs.getD ix e9).na)) 2).2 n).ru,(bD (af w (ag ((zs.getD ix e9).na)) 2).1 (af w (ag ((zs.getD ix e9).na)) 2).2 n).wa⟩,(zs.getD ix e9).tr,[]⟩:j9).re),bV ((⟨(zs.getD ix e9).na,max ((o5 w (zs.getD ix e9) a7).re) (a7+(((bD (af w (ag ((zs.getD ix e9).na)) 2).1 (af w (ag ((zs.getD ix e9).na)) 2).2 n).wa:Nat):Int)),true,⟨[n],(bD (af w (ag ((zs.getD ix e9).na)) 2).1 (af w (ag ((zs.getD ix e9).na)) 2).2 n).ru,(bD (af w (ag ((zs.getD ix e9).na)) 2).1 (af w (ag ((zs.getD ix e9).na)) 2).2 n).wa⟩,(zs.getD ix e9).tr,[]⟩:j9).kn),.agg [.sl false (((⟨(zs.getD ix e9).na,max ((o5 w (zs.getD ix e9) a7).re) (a7+(((bD (af w (ag ((zs.getD ix e9).na)) 2).1 (af w (ag ((zs.getD ix e9).na)) 2).2 n).wa:Nat):Int)),true,⟨[n],(bD (af w (ag ((zs.getD ix e9).na)) 2).1 (af w (ag ((zs.getD ix e9).na)) 2).2 n).ru,(bD (af w (ag ((zs.getD ix e9).na)) 2).1 (af w (ag ((zs.getD ix e9).na)) 2).2 n).wa⟩,(zs.getD ix e9).tr,[]⟩:j9).gr.na).map sV),.sl false (((⟨(zs.getD ix e9).na,max ((o5 w (zs.getD ix e9) a7).re) (a7+(((bD (af w (ag ((zs.getD ix e9).na)) 2).1 (af w (ag ((zs.getD ix e9).na)) 2).2 n).wa:Nat):Int)),true,⟨[n],(bD (af w (ag ((zs.getD ix e9).na)) 2).1 (af w (ag ((zs.getD ix e9).na)) 2).2 n).ru,(bD (af w (ag ((zs.getD ix e9).na)) 2).1 (af w (ag ((zs.getD ix e9).na)) 2).2 n).wa⟩,(zs.getD ix e9).tr,[]⟩:j9).gr.ru).map au),iN ((⟨(zs.getD ix e9).na,max ((o5 w (zs.getD ix e9) a7).re) (a7+(((bD (af w (ag ((zs.getD ix e9).na)) 2).1 (af w (ag ((zs.getD ix e9).na)) 2).2 n).wa:Nat):Int)),true,⟨[n],(bD (af w (ag ((zs.getD ix e9).na)) 2).1 (af w (ag ((zs.getD ix e9).na)) 2).2 n).ru,(bD (af w (ag ((zs.getD ix e9).na)) 2).1 (af w (ag ((zs.getD ix e9).na)) 2).2 n).wa⟩,(zs.getD ix e9).tr,[]⟩:j9).gr.wa)],iV ((⟨(zs.getD ix e9).na,max ((o5 w (zs.getD ix e9) a7).re) (a7+(((bD (af w (ag ((zs.getD ix e9).na)) 2).1 (af w (ag ((zs.getD ix e9).na)) 2).2 n).wa:Nat):Int)),true,⟨[n],(bD (af w (ag ((zs.getD ix e9).na)) 2).1 (af w (ag ((zs.getD ix e9).na)) 2).2 n).ru,(bD (af w (ag ((zs.getD ix e9).na)) 2).1 (af w (ag ((zs.getD ix e9).na)) 2).2 n).wa⟩,(zs.getD ix e9).tr,[]⟩:j9).tr),.own 2 ((gy (⟨(zs.getD ix e9).na,max ((o5 w (zs.getD ix e9) a7).re) (a7+(((bD (af w (ag ((zs.getD ix e9).na)) 2).1 (af w (ag ((zs.getD ix e9).na)) 2).2 n).wa:Nat):Int)),true,⟨[n],(bD (af w (ag ((zs.getD ix e9).na)) 2).1 (af w (ag ((zs.getD ix e9).na)) 2).2 n).ru,(bD (af w (ag ((zs.getD ix e9).na)) 2).1 (af w (ag ((zs.getD ix e9).na)) 2).2 n).wa⟩,(zs.getD ix e9).tr,[]⟩:j9) ((zs.getD ix e9).td)).map ai) ga oa ca]:V)::(zs.drop (ix+1)).map aB) g o c,.ow 1 (se.map sV),.ow 3 ((ls++[(⟨a7,(ag ((zs.getD ix e9).na)),(af w (ag ((zs.getD ix e9).na)) ((zs.getD ix e9).tr)).1⟩:l7)]).map aO)]) [2,ix,5] r) (Zq (V.own 2 · ga oa ca) (DF.trans rfl))).trans (dR (aV (aK Z9) (dc Z9))),(aS (f:=2) rfl).trans (aI (aK Z9) rfl),dR (aV (aK Z9) (dc Z9)),Oe (Zq (V.own 8 · g o c) (lF (f:=aB) (x:=({ o5 w (zs.getD ix e9) a7 with kn:=true,gr:=(bK w n (zs.getD ix e9).na),re:=max (o5 w (zs.getD ix e9) a7).re (a7+((bK w n (zs.getD ix e9).na).wa:Int)),td:=(zs.getD ix e9).td.filter (Oa (bK w n (zs.getD ix e9).na).ru) }:j9)) Z9)),?_⟩
 refine⟨?_,rfl,by rw[LR j7]⟩
 unfold Q
 rfl)
theorem FH{α:Type}{l:List α}{i:Nat}{a d:α}(h:i<l.length):(l.set i a).getD i d=a:=by
 rw[YQ,List.getElem?_set_self h];rfl
theorem Io{α:Type}{l:List α}{f:α->V}{a b:α}{i:Nat}(hi:i<l.length):((l.set i a).set i b).map f=(l.take i).map f++f b::(l.drop (i+1)).map f:=by
 rw[List.set_set];exact Ew hi
theorem MH{l:List u7}(h:0<l.length):((l.drop 1++[l3]).map ai).take (l.length-1)=(l.drop 1).map ai:=by
 rw[<- List.map_take,List.take_left' Z8]
theorem JU{w:List Pg}{a:BL}{k:Int}(hz:∀ i,m9 (w.getD i m4)):(af w a k).2.length<=4611686018427387904:=by
 have:=ub (w:=w) (a:=a) (k:=k) (m:=300) (fun i=>⟨(hz i).t,by have:=(hz i).l;omega⟩);omega
theorem FP{w:List Pg}{a:BL}{k:Int}(hz:∀ i,m9 (w.getD i m4)):m5 (af w a k).2:=by
 unfold af
 split
 exact aZ
 rename_i h1
 obtain⟨i,hi⟩:=sy w a (by simpa using h1)
 rw[hi]
 split
 exact aZ
 split
 exact(hz i).ta
 exact(hz i).la
theorem Gf{w:List Pg}{a:BL}{k:Int}(hw:an w=true)(hz:∀ i,m9 (w.getD i m4))(h:(af w a k).1=2):az (af w a k).2=true/\m5 (af w a k).2:=by
 unfold af at h ⊢
 split at h
 cases h
 rename_i h1
 rw[if_neg h1]
 split at h
 cases h
 rename_i h2
 rw[if_neg h2]
 split at h
 cases h
 rename_i h3
 rw[if_neg h3]
 obtain⟨i,hi⟩:=sy w a (by simpa using h1)
 simp only
 rw[hi]at h3 ⊢
 have hl:i<w.length:=by
  rcases Nat.lt_or_ge i w.length with c | c
  exact c
  exact absurd (by rw[YQ,List.getElem?_eq_none c];rfl) h3
 unfold an at hw
 simp only[YS,Zo]at hw
 have hp:=(hw.1 i hl).1
 unfold dS at hp
 simp only[YS,Bool.or_eq_true,Zp]at hp
 rcases hp.2 with c | c
 exact absurd c h3
 exact⟨c.2,(hz i).la⟩
theorem Lb{s:BL}(h:az s=true):s.length<=1000:=by
 unfold az at h
 rw[YS]at h
 have:=GG h.1;omega
theorem qK{w:List Pg}{a:BL}{k:Int}{b:r8}(hw:an w=true)(hz:∀ i,m9 (w.getD i m4)):∀ m,m∈(if (af w a k).1=1 then bC b (af w a k).2 else if (af w a k).1=2 then [(af w a k).2] else [])->m.length<=1000/\m5 m/\(ab m).length<=1000:=by
 intro m hm
 have key:az m=true/\m5 m:=by
  split at hm
  exact Dn m hm
  split at hm
  rename_i h2
  rw[YZ.1 hm]
  exact Gf hw hz h2
  simp at hm
 exact⟨Lb key.1,key.2,(kF m).1⟩
theorem Eb{k:Int}{b:r8}{t:BL}:(if k=1 then bC b t else if k=2 then [t] else []).length<=300:=by
 split
 exact(BH b t).1
 split <;> simp
theorem LU{n:BL}{a7:Int}{zs:List j9}{se:List BL}{ls0 ls:List l7}{ix:Nat}{w:List Pg}(hi:ix<zs.length)(hy:HS 60 (zs.getD ix e9))(ht:TS ⟨n,a7,zs,se,ls0⟩):TS ⟨n,a7,zs.set ix (C3 w (zs.getD ix e9) a7),se,ls⟩:=by
 refine⟨ht.s,by rw[List.length_set];exact ht.h,ht.sa,fun y h=>?_⟩
 rcases bQ h with e | h
 have q:HS se.length (zs.getD ix e9):=ht.ha _ (ay (d:=e9) hi)
 rw[e]
 refine⟨q.n,q.r,q.rp,q.w,?_,fun x hx=>?_,q.k⟩
 show ((zs.getD ix e9).td.drop 1).length+60<=1000+se.length
 have:=q.t
 rw[List.length_drop];omega
 exact q.ta x (List.mem_of_mem_drop hx)
 exact ht.ha y h
section
variable {w:List Pg} {n:BL} {a7:Int} {zs:List j9} {se:List BL} {ls:List l7} {ix:Nat}
theorem Mq(h:(af w ((zs.getD ix e9).td.getD 0 l3).ad ((zs.getD ix e9).td.getD 0 l3).tr).1=3/\((zs.getD ix e9).td.getD 0 l3).tr+1<3):MJ w ⟨n,a7,zs,se,ls⟩ ix=⟨n,a7,zs.set ix { C3 w (zs.getD ix e9) a7 with td:=(zs.getD ix e9).td.drop 1++[⟨((zs.getD ix e9).td.getD 0 l3).ad,((zs.getD ix e9).td.getD 0 l3).tr+1⟩] },se,ls++[⟨a7,((zs.getD ix e9).td.getD 0 l3).ad,(af w ((zs.getD ix e9).td.getD 0 l3).ad ((zs.getD ix e9).td.getD 0 l3).tr).1⟩]⟩:=if_pos h
theorem Mk(h:(af w ((zs.getD ix e9).td.getD 0 l3).ad ((zs.getD ix e9).td.getD 0 l3).tr).1=3->3<=((zs.getD ix e9).td.getD 0 l3).tr+1)(h2:(ar ((zs.getD ix e9).td.getD 0 l3).ad).isSome=false):MJ w ⟨n,a7,zs,se,ls⟩ ix=⟨n,a7,zs.set ix (C3 w (zs.getD ix e9) a7),se,ls++[⟨a7,((zs.getD ix e9).td.getD 0 l3).ad,(af w ((zs.getD ix e9).td.getD 0 l3).ad ((zs.getD ix e9).td.getD 0 l3).tr).1⟩]⟩:=by
 unfold MJ
 simp only
 rw[if_neg (fun c=>by have:=h c.1;omega),if_neg (by rw[<- gP,h2];decide)]
theorem Mz(h:(af w ((zs.getD ix e9).td.getD 0 l3).ad ((zs.getD ix e9).td.getD 0 l3).tr).1=3->3<=((zs.getD ix e9).td.getD 0 l3).tr+1)(h2:(ar ((zs.getD ix e9).td.getD 0 l3).ad).isSome=true):MJ w ⟨n,a7,zs,se,ls⟩ ix=(if (af w ((zs.getD ix e9).td.getD 0 l3).ad ((zs.getD ix e9).td.getD 0 l3).tr).1=1 then bC (oA (ar ((zs.getD ix e9).td.getD 0 l3).ad)) (af w ((zs.getD ix e9).td.getD 0 l3).ad ((zs.getD ix e9).td.getD 0 l3).tr).2 else if (af w ((zs.getD ix e9).td.getD 0 l3).ad ((zs.getD ix e9).td.getD 0 l3).tr).1=2 then [(af w ((zs.getD ix e9).td.getD 0 l3).ad ((zs.getD ix e9).td.getD 0 l3).tr).2] else []).foldl ak ⟨n,a7,zs.set ix (C3 w (zs.getD ix e9) a7),se,ls++[⟨a7,((zs.getD ix e9).td.getD 0 l3).ad,(af w ((zs.getD ix e9).td.getD 0 l3).ad ((zs.getD ix e9).td.getD 0 l3).tr).1⟩]⟩:=by
 rw[gP]at h2
 have e:ar ((zs.getD ix e9).td.getD 0 l3).ad=aw ((zs.getD ix e9).td.getD 0 l3).ad:=if_pos h2
 unfold MJ
 simp only
 rw[if_neg (fun c=>by have:=h c.1;omega),if_pos h2,e];rfl
end
def Ae(n:BL)(a7:Int)(zs:List j9)(se:List BL)(ls:List l7)(gt:Nat)(g:Nat)(o:Nat)(c:Nat)(gw:Nat)(ix:Nat)(w:List Pg):o6 Tryz.prog:=.mk 113 [.ptr (.key 1001) [] gw 0,.ptr (.key 1000) [2,ix] g (o+ix*8)] [(1001,(gw,.agg [.mp (w.map E9),.ptr (.key 1000) [] gt 0])),(1000,(gt,bL n a7 zs g o c se ls))] ((ix<zs.length)/\(ls.length<=1000)/\(0<=a7/\a7<=100000)/\(HS 60 (zs.getD ix e9))/\(an w=true)/\(∀ i,m9 (w.getD i m4))/\(0<(zs.getD ix e9).td.length)/\(TS ⟨n,a7,zs,se,ls⟩)/\(n.length<=1000)) (.tup []) [(1001,(gw,.agg [.mp (w.map E9),.ptr (.key 1000) [] gt 0])),(1000,(gt,bz n a7 ((MJ w (⟨n,a7,zs,se,ls⟩:j8) ix).hs) ((MJ w (⟨n,a7,zs,se,ls⟩:j8) ix).se) ((MJ w (⟨n,a7,zs,se,ls⟩:j8) ix).lk)))] (by
 rintro⟨hi,hl,hn,hy,hw,hz,hne,ht,hnn⟩
 have hit:=hy.ta _ (ay (d:=l3) hne)
 have hyt:=hy.t
 generalize XC:(zs.getD ix e9).td.getD 0 l3=x0
 generalize XB:zs.getD ix e9=y
 refine av (N:=81) (rs:=[]) Tryz.func113
  ((fun y1:u7=>(fun y2:Int×BL=>(.h (.B0 1000 (da n a7 zs ix (y.na) (y.re) (y.kn) (y.gr.na) (y.gr.ru) (y.gr.wa) (y.tr) (y.td) g o c se ls))<|.QA (.key 1000) [2,ix,5] g (o+(ix)*8+7) 2 ((y.td).map ai) (fun ga oa ca=>.h (.B0 1000 (bw n a7 zs ix (y.na) (y.re) (y.kn) (y.gr.na) (y.gr.ru) (y.gr.wa) (y.tr) (y.td) ga oa ca g o c se ls))<|.r 6 [.own 2 ((y.td).map ai) ga oa ca,.agg [sV (y1.ad),iV (y1.tr)]]<|.al tc (fun g4=>.st none<|.r 5 [.own 2 ((y.td).map ai) ga oa ca]<|.c (Dx n a7 zs se ls gt g o c ix y ga oa ca (y.td)) [(1000,1000)]<|.q 2<|.cu (X0 1000 [2,ix,5] ((y.td).length-1) 2 (((y.td).drop 1++[l3]).map ai) ga oa ca g (o+(ix)*8+7)) (fun _=>.h (.B0 1000 (bw n a7 zs ix (y.na) (y.re) (y.kn) (y.gr.na) (y.gr.ru) (y.gr.wa) (y.tr) (y.td.drop 1) ga oa ca g o c se ls))<|.h (.PV (.key 1000) [2,ix,5] g (o+(ix)*8+7) (.own 2 ((y.td.drop 1).map ai) ga oa ca) (.ow 2 ((y.td.drop 1).map ai)))<|.h (.B0 1000 (da n a7 zs ix (y.na) (y.re) (y.kn) (y.gr.na) (y.gr.ru) (y.gr.wa) (y.tr) (y.td.drop 1) g o c se ls))<|.h (.B0 1000 (bL n a7 (zs.set ix ({ y with td:=y.td.drop 1 }:j9)) g o c se ls))<|.r 6 [.a8,.a8]<|.c (yM n a7 (zs.set ix ({ y with td:=y.td.drop 1 }:j9)) se ls gt g o c gw ix w (y1.ad) (y1.tr) ({ y with td:=y.td.drop 1 }:j9)) [(1001,1001),(1000,1000)]<|.q 5<|.h (.B0 1000 (da n a7 zs ix (y.na) ((C3 w y a7).re) (y.kn) (y.gr.na) (y.gr.ru) (y.gr.wa) (y.tr) (y.td.drop 1) g o c se (ls++[(⟨a7,(y1.ad),(af w (y1.ad) (y1.tr)).1⟩:l7)])))<|.r 8 [.a8]<|.br (.r 4 [.a8]<|.st none<|.QA (.key 1000) [2,ix,5] g (o+(ix)*8+7) 2 ((y.td.drop 1).map ai) (fun QG Qz QK=>.h (.B0 1000 (bw n a7 zs ix (y.na) ((C3 w y a7).re) (y.kn) (y.gr.na) (y.gr.ru) (y.gr.wa) (y.tr) (y.td.drop 1) QG Qz QK g o c se (ls++[(⟨a7,(y1.ad),(af w (y1.ad) (y1.tr)).1⟩:l7)])))<|.dx 8 [0,1,2,3,4,5,6,7] [(4,⟨false,[],some [1000],[51],[]⟩),(5,⟨false,[],some [4],[52],[]⟩),(7,⟨true,[],none,[54],[1000]⟩)] []<|.q 1<|.q 1<|.q 1<|.q 1<|.r 1 [.own 2 ((y.td.drop 1).map ai) QG Qz QK]<|.r 1 [.a8]<|.bs<|.eu (Wt 1000 [2,ix,5] ((y.td.drop 1).map ai) ([.agg [sV (y1.ad),iV ((y1.tr)+1)]]:List V) g (o+(ix)*8+7) 2 QG Qz QK) (fun L8=>.h (.B0 1000 (mA n a7 zs ix (y.na) ((C3 w y a7).re) (y.kn) (y.gr.na) (y.gr.ru) (y.gr.wa) (y.tr) g o c se (ls++[(⟨a7,(y1.ad),(af w (y1.ad) (y1.tr)).1⟩:l7)])))<|.h (.o4 54 (.own 2 (((y.td.drop 1)++[(⟨y1.ad,(y1.tr)+1⟩:u7)]).map ai) L8.1 L8.2.1 L8.2.2))<|.q 2<|.st (some (.a8))<|.h (.B0 1000 (bw n a7 zs ix (y.na) ((C3 w y a7).re) (y.kn) (y.gr.na) (y.gr.ru) (y.gr.wa) (y.tr) ((y.td.drop 1)++[(⟨y1.ad,(y1.tr)+1⟩:u7)]) L8.1 L8.2.1 L8.2.2 g o c se (ls++[(⟨a7,(y1.ad),(af w (y1.ad) (y1.tr)).1⟩:l7)])))<|.h (.PV (.key 1000) [2,ix,5] g (o+(ix)*8+7) (.own 2 (((y.td.drop 1)++[(⟨y1.ad,(y1.tr)+1⟩:u7)]).map ai) L8.1 L8.2.1 L8.2.2) (.ow 2 (((y.td.drop 1)++[(⟨y1.ad,(y1.tr)+1⟩:u7)]).map ai)))<|.h (.B0 1000 (da n a7 zs ix (y.na) ((C3 w y a7).re) (y.kn) (y.gr.na) (y.gr.ru) (y.gr.wa) (y.tr) ((y.td.drop 1)++[(⟨y1.ad,(y1.tr)+1⟩:u7)]) g o c se (ls++[(⟨a7,(y1.ad),(af w (y1.ad) (y1.tr)).1⟩:l7)])))<|.h (.B0 1000 (bL n a7 (zs.set ix ({ (C3 w y a7) with td:=y.td.drop 1++[(⟨x0.ad,x0.tr+1⟩:u7)] }:j9)) g o c se (ls++[(⟨a7,(y1.ad),(af w (y1.ad) (y1.tr)).1⟩:l7)])))<|.nil))) (.r 2 [.a8]<|.c (cv (y1.ad)) []<|.q 3<|.al dg (fun g7=>.st none<|.q 1<|.h (.B0 1000 (bL n a7 (zs.set ix (C3 w y a7)) g o c se (ls++[(⟨a7,(y1.ad),(af w (y1.ad) (y1.tr)).1⟩:l7)])))<|.q 2<|.br (.nil) (.r 3 [.a8]<|.c (BK (oA (ar (y1.ad))) ((af w (y1.ad) (y1.tr)).1) ((af w (y1.ad) (y1.tr)).2)) []<|.q 2<|.loop (Nat×(List j9)×(List BL)) (fun (i,zz,ss)=>⟨[(0,.ptr (.key 1001) [] gw 0),(68,ao (if y2.1=1 then bC (oA (ar x0.ad)) y2.2 else if y2.1=2 then [y2.2] else [])),(69,iN (((if y2.1=1 then bC (oA (ar x0.ad)) y2.2 else if y2.1=2 then [y2.2] else [])).length)),(70,iN i)],[(1001,(gw,.agg [.mp (w.map E9),.ptr (.key 1000) [] gt 0])),(1000,(gt,bz n a7 zz ss (ls++[(⟨a7,x0.ad,y2.1⟩:l7)])))]⟩) (fun (i,zz,ss)=>i<=((if y2.1=1 then bC (oA (ar x0.ad)) y2.2 else if y2.1=2 then [y2.2] else [])).length/\zz=((((if y2.1=1 then bC (oA (ar x0.ad)) y2.2 else if y2.1=2 then [y2.2] else [])).take i).foldl ak (⟨n,a7,zs.set ix (C3 w y a7),se,ls++[(⟨a7,x0.ad,y2.1⟩:l7)]⟩:j8)).hs/\ss=((((if y2.1=1 then bC (oA (ar x0.ad)) y2.2 else if y2.1=2 then [y2.2] else [])).take i).foldl ak (⟨n,a7,zs.set ix (C3 w y a7),se,ls++[(⟨a7,x0.ad,y2.1⟩:l7)]⟩:j8)).se) (fun (i,zz,ss)=>((if y2.1=1 then bC (oA (ar x0.ad)) y2.2 else if y2.1=2 then [y2.2] else [])).length-i) (fun (i,zz,ss)=>.q 1<|.br (.r 3 [sV ((if y2.1=1 then bC (oA (ar x0.ad)) y2.2 else if y2.1=2 then [y2.2] else []).getD i [])]<|.r 5 [.a8]<|.c (vj n a7 zz ss (ls++[(⟨a7,x0.ad,y2.1⟩:l7)]) gt ((if y2.1=1 then bC (oA (ar x0.ad)) y2.2 else if y2.1=2 then [y2.2] else []).getD i [])) [(1000,1000)]<|.q 2<|.nil) (.nil)))))))):Sc Tryz.prog)) (af w x0.ad x0.tr)) ((y.td).getD 0 l3))
  ((fun v1:Int×BL=>(fun v2:V=>(fun v3:r8=>(fun v4:V=>(fun v5:V=>(((bL n a7 zs g o c se ls:V)=da n a7 zs ix (y.na) (y.re) (y.kn) (y.gr.na) (y.gr.ru) (y.gr.wa) (y.tr) (y.td) g o c se ls)/\(V.at gt 0 (da n a7 zs ix (y.na) (y.re) (y.kn) (y.gr.na) (y.gr.ru) (y.gr.wa) (y.tr) (y.td) g o c se ls) [2,ix,5]=some (g,o+(ix)*8+7,.ow 2 ((y.td).map ai)))/\∀ ga oa ca:Nat,(V.set (da n a7 zs ix (y.na) (y.re) (y.kn) (y.gr.na) (y.gr.ru) (y.gr.wa) (y.tr) (y.td) g o c se ls) [2,ix,5] (.own 2 ((y.td).map ai) ga oa ca)=bw n a7 zs ix (y.na) (y.re) (y.kn) (y.gr.na) (y.gr.ru) (y.gr.wa) (y.tr) (y.td) ga oa ca g o c se ls)/\True/\(V.at gt 0 (bw n a7 zs ix (y.na) (y.re) (y.kn) (y.gr.na) (y.gr.ru) (y.gr.wa) (y.tr) (y.td) ga oa ca g o c se ls) [2,ix,5]=some (g,(o+ix*8+7),.own 2 ((y.td).map ai) ga oa ca))/\In 0 (((y.td).map ai).length)/\(V.at gt 0 (bw n a7 zs ix (y.na) (y.re) (y.kn) (y.gr.na) (y.gr.ru) (y.gr.wa) (y.tr) (y.td) ga oa ca g o c se ls) [2,ix,5,0+0]=some (ga,(oa+(0+0)*2),.agg [sV (((y.td).getD 0 l3).ad),iV (((y.td).getD 0 l3).tr)]))/\∀ g4:Nat,Z g4 0/\True/\(V.at gt 0 (bw n a7 zs ix (y.na) (y.re) (y.kn) (y.gr.na) (y.gr.ru) (y.gr.wa) (y.tr) (y.td) ga oa ca g o c se ls) [2,ix,5]=some (g,(o+ix*8+7),.own 2 ((y.td).map ai) ga oa ca))/\(Dx n a7 zs se ls gt g o c ix y ga oa ca (y.td)).sm/\Er gt (bw n a7 zs ix (y.na) (y.re) (y.kn) (y.gr.na) (y.gr.ru) (y.gr.wa) (y.tr) (y.td) ga oa ca g o c se ls)/\((ix<zs.length)/\(0<(y.td).length/\(y.td).length<=1000))/\True/\((((.key 1000:l8),([2,ix,5]:List Nat),2,ga,oa,(0:Nat),((y.td).length-1),ca)=((.key 1000:l8),([2,ix,5]:List Nat),2,ga,oa,(0:Nat),((y.td).length-1),ca))/\((.ptr (.key 1000) [2,ix,5] g (o+ix*8+7):V)=.ptr (.key 1000) [2,ix,5] g (o+(ix)*8+7))/\(V.at gt 0 (bw n a7 zs ix (y.na) (y.re) (y.kn) (y.gr.na) (y.gr.ru) (y.gr.wa) (y.tr) ((y.td).drop 1++[l3]) ga oa ca g o c se ls) [2,ix,5]=some (g,o+(ix)*8+7,.own 2 (((y.td).drop 1++[l3]).map ai) ga oa ca))/\((1:Nat)=1)/\(((y.td).length-1)<=(((y.td).drop 1++[l3]).map ai).length)/\(V.aE (((y.td).drop 1++[l3]).map ai)=false))/\∀ _:Unit,(V.set (bw n a7 zs ix (y.na) (y.re) (y.kn) (y.gr.na) (y.gr.ru) (y.gr.wa) (y.tr) ((y.td).drop 1++[l3]) ga oa ca g o c se ls) [2,ix,5] (.own 2 ((((y.td).drop 1++[l3]).map ai).take ((y.td).length-1)) ga oa ca)=bw n a7 zs ix (y.na) (y.re) (y.kn) (y.gr.na) (y.gr.ru) (y.gr.wa) (y.tr) (y.td.drop 1) ga oa ca g o c se ls)/\(V.at gt 0 (bw n a7 zs ix (y.na) (y.re) (y.kn) (y.gr.na) (y.gr.ru) (y.gr.wa) (y.tr) (y.td.drop 1) ga oa ca g o c se ls) [2,ix,5]=some (g,o+(ix)*8+7,.own 2 ((y.td.drop 1).map ai) ga oa ca))/\(V.set (bw n a7 zs ix (y.na) (y.re) (y.kn) (y.gr.na) (y.gr.ru) (y.gr.wa) (y.tr) (y.td.drop 1) ga oa ca g o c se ls) [2,ix,5] (.ow 2 ((y.td.drop 1).map ai))=da n a7 zs ix (y.na) (y.re) (y.kn) (y.gr.na) (y.gr.ru) (y.gr.wa) (y.tr) (y.td.drop 1) g o c se ls)/\((da n a7 zs ix (y.na) (y.re) (y.kn) (y.gr.na) (y.gr.ru) (y.gr.wa) (y.tr) (y.td.drop 1) g o c se ls:V)=bL n a7 (zs.set ix ({ y with td:=y.td.drop 1 }:j9)) g o c se ls)/\Z g4 0/\Z g4 1/\(([.ptr (.key 1001) [] gw 0,.ptr (.key 1000) [2,ix] g (o+ix*8),sV (((y.td).getD 0 l3).ad),iV (((y.td).getD 0 l3).tr)]:List V)=[.ptr (.key 1001) [] gw 0,.ptr (.key 1000) [2,ix] g (o+ix*8),sV (((y.td).getD 0 l3).ad),iV (((y.td).getD 0 l3).tr)])/\Er gw v4/\Er gt (bL n a7 (zs.set ix ({ y with td:=y.td.drop 1 }:j9)) g o c se ls)/\((ix<(zs.set ix ({ y with td:=y.td.drop 1 }:j9)).length)/\(ls.length<=1000)/\(0<=(((y.td).getD 0 l3).tr)/\(((y.td).getD 0 l3).tr)<=1000)/\(0<=a7/\a7<=100000)/\((zs.set ix ({ y with td:=y.td.drop 1 }:j9)).getD ix e9=({ y with td:=y.td.drop 1 }:j9))/\(({ y with td:=y.td.drop 1 }:j9).gr.wa<=1000))/\((bL n a7 ((zs.set ix ({ y with td:=y.td.drop 1 }:j9)).set ix (de ({ y with td:=y.td.drop 1 }:j9) a7 (af w (((y.td).getD 0 l3).ad) (((y.td).getD 0 l3).tr)).1 (((y.td).getD 0 l3).tr))) g o c se (ls++[(⟨a7,(((y.td).getD 0 l3).ad),(af w (((y.td).getD 0 l3).ad) (((y.td).getD 0 l3).tr)).1⟩:l7)]):V)=da n a7 zs ix (y.na) ((C3 w y a7).re) (y.kn) (y.gr.na) (y.gr.ru) (y.gr.wa) (y.tr) (y.td.drop 1) g o c se (ls++[(⟨a7,(((y.td).getD 0 l3).ad),(af w (((y.td).getD 0 l3).ad) (((y.td).getD 0 l3).tr)).1⟩:l7)]))/\Gd ((o9 ((af w (((y.td).getD 0 l3).ad) (((y.td).getD 0 l3).tr)).1) 3)==true) (Z g4 1)/\Gd ((o9 ((af w (((y.td).getD 0 l3).ad) (((y.td).getD 0 l3).tr)).1) 3)==true) (m8 ((((y.td).getD 0 l3).tr)+1))/\Pk (o9 ((af w (((y.td).getD 0 l3).ad) (((y.td).getD 0 l3).tr)).1) 3) ((o9 ((af w (((y.td).getD 0 l3).ad) (((y.td).getD 0 l3).tr)).1) 3)==true) true/\Br ((o9 ((af w (((y.td).getD 0 l3).ad) (((y.td).getD 0 l3).tr)).1) 3)&&(r9 ((((y.td).getD 0 l3).tr)+1) 3)) (Z g4 1/\m8 ((((y.td).getD 0 l3).tr)+1)/\Z g4 1/\(V.at gt 0 (da n a7 zs ix (y.na) ((C3 w y a7).re) (y.kn) (y.gr.na) (y.gr.ru) (y.gr.wa) (y.tr) (y.td.drop 1) g o c se (ls++[(⟨a7,(((y.td).getD 0 l3).ad),(af w (((y.td).getD 0 l3).ad) (((y.td).getD 0 l3).tr)).1⟩:l7)])) [2,ix,5]=some (g,o+(ix)*8+7,.ow 2 ((y.td.drop 1).map ai)))/\∀ QG Qz QK:Nat,(fun v6:u7=>(fun v8:Int×BL=>(fun v7:V=>(fun v9:List V=>(fun v10:V=>(V.set (da n a7 zs ix (y.na) ((C3 w y a7).re) (y.kn) (y.gr.na) (y.gr.ru) (y.gr.wa) (y.tr) (y.td.drop 1) g o c se (ls++[(⟨a7,(v6.ad),v8.1⟩:l7)])) [2,ix,5] (.own 2 ((y.td.drop 1).map ai) QG Qz QK)=bw n a7 zs ix (y.na) ((C3 w y a7).re) (y.kn) (y.gr.na) (y.gr.ru) (y.gr.wa) (y.tr) (y.td.drop 1) QG Qz QK g o c se (ls++[(⟨a7,(v6.ad),v8.1⟩:l7)]))/\True/\(V.at gt 0 v7 [2,ix,5]=some (g,(o+ix*8+7),.own 2 ((y.td.drop 1).map ai) QG Qz QK))/\Z g4 0/\(v9=v9/\((.hd (.key 1000) [2,ix,5] 2 QG Qz 0 (((y.td.drop 1).map ai).length) QK:V)=.hd (.key 1000) [2,ix,5] 2 QG Qz 0 (((y.td.drop 1).map ai).length) QK)/\(V.at gt 0 v7 [2,ix,5]=some (g,o+(ix)*8+7,.own 2 ((y.td.drop 1).map ai) QG Qz QK))/\((2:Nat)=2)/\(V.aE v9=false)/\(aJ 2 v9)/\((((y.td.drop 1).map ai).length+v9.length)*24<=140737488355328))/\∀ L8:Nat×Nat×Nat,(fun v11:V=>(V.set v7 [2,ix,5] (.a8)=mA n a7 zs ix (y.na) ((C3 w y a7).re) (y.kn) (y.gr.na) (y.gr.ru) (y.gr.wa) (y.tr) g o c se (ls++[(⟨a7,(v6.ad),v8.1⟩:l7)]))/\((.own 2 (((y.td.drop 1).map ai)++v9) L8.1 L8.2.1 L8.2.2:V)=.own 2 (((y.td.drop 1)++[(⟨v6.ad,(v6.tr)+1⟩:u7)]).map ai) L8.1 L8.2.1 L8.2.2)/\True/\(V.at gt 0 v10 [2,ix,5]=some (g,(o+ix*8+7),.a8))/\(V.set v10 [2,ix,5] (.own 2 (((y.td.drop 1)++[(⟨v6.ad,(v6.tr)+1⟩:u7)]).map ai) L8.1 L8.2.1 L8.2.2)=bw n a7 zs ix (y.na) ((C3 w y a7).re) (y.kn) (y.gr.na) (y.gr.ru) (y.gr.wa) (y.tr) ((y.td.drop 1)++[(⟨v6.ad,(v6.tr)+1⟩:u7)]) L8.1 L8.2.1 L8.2.2 g o c se (ls++[(⟨a7,(v6.ad),v8.1⟩:l7)]))/\(V.at gt 0 v11 [2,ix,5]=some (g,o+(ix)*8+7,.own 2 (((y.td.drop 1)++[(⟨v6.ad,(v6.tr)+1⟩:u7)]).map ai) L8.1 L8.2.1 L8.2.2))/\(V.set v11 [2,ix,5] (.ow 2 (((y.td.drop 1)++[(⟨v6.ad,(v6.tr)+1⟩:u7)]).map ai))=da n a7 zs ix (y.na) ((C3 w y a7).re) (y.kn) (y.gr.na) (y.gr.ru) (y.gr.wa) (y.tr) ((y.td.drop 1)++[(⟨v6.ad,(v6.tr)+1⟩:u7)]) g o c se (ls++[(⟨a7,(v6.ad),v8.1⟩:l7)]))/\((da n a7 zs ix (y.na) ((C3 w y a7).re) (y.kn) (y.gr.na) (y.gr.ru) (y.gr.wa) (y.tr) ((y.td.drop 1)++[(⟨v6.ad,(v6.tr)+1⟩:u7)]) g o c se (ls++[(⟨a7,(v6.ad),v8.1⟩:l7)]):V)=bL n a7 (zs.set ix ({ (C3 w y a7) with td:=y.td.drop 1++[(⟨x0.ad,x0.tr+1⟩:u7)] }:j9)) g o c se (ls++[(⟨a7,(v6.ad),v8.1⟩:l7)]))/\Q (.tup []) (.tup [])/\Er gw v4/\Qr gt (bz n a7 (zs.set ix ({ (C3 w y a7) with td:=y.td.drop 1++[(⟨x0.ad,x0.tr+1⟩:u7)] }:j9)) se (ls++[(⟨a7,(v6.ad),v8.1⟩:l7)])) gt v2) (bw n a7 zs ix (y.na) ((C3 w y a7).re) (y.kn) (y.gr.na) (y.gr.ru) (y.gr.wa) (y.tr) ((y.td.drop 1)++[(⟨v6.ad,(v6.tr)+1⟩:u7)]) L8.1 L8.2.1 L8.2.2 g o c se (ls++[(⟨a7,(v6.ad),v8.1⟩:l7)]))) (mA n a7 zs ix (y.na) ((C3 w y a7).re) (y.kn) (y.gr.na) (y.gr.ru) (y.gr.wa) (y.tr) g o c se (ls++[(⟨a7,(v6.ad),v8.1⟩:l7)]))) ([.agg [sV (v6.ad),iV ((v6.tr)+1)]]:List V)) (bw n a7 zs ix (y.na) ((C3 w y a7).re) (y.kn) (y.gr.na) (y.gr.ru) (y.gr.wa) (y.tr) (y.td.drop 1) QG Qz QK g o c se (ls++[(⟨a7,(v6.ad),v8.1⟩:l7)]))) (af w (v6.ad) (v6.tr))) ((y.td).getD 0 l3)) (Z g4 0/\(cv (((y.td).getD 0 l3).ad)).sm/\(((((y.td).getD 0 l3).ad).length<=1000000)/\(m5 (((y.td).getD 0 l3).ad)))/\∀ g7:Nat,Z g7 0/\((da n a7 zs ix (y.na) ((C3 w y a7).re) (y.kn) (y.gr.na) (y.gr.ru) (y.gr.wa) (y.tr) (y.td.drop 1) g o c se (ls++[(⟨a7,(((y.td).getD 0 l3).ad),(af w (((y.td).getD 0 l3).ad) (((y.td).getD 0 l3).tr)).1⟩:l7)]):V)=bL n a7 (zs.set ix (C3 w y a7)) g o c se (ls++[(⟨a7,(((y.td).getD 0 l3).ad),(af w (((y.td).getD 0 l3).ad) (((y.td).getD 0 l3).tr)).1⟩:l7)]))/\Br (!((ar (((y.td).getD 0 l3).ad)).isSome)) (Q (.tup []) (.tup [])/\Er gw v4/\Qr gt (bz n a7 (zs.set ix (C3 w y a7)) se (ls++[(⟨a7,(((y.td).getD 0 l3).ad),(af w (((y.td).getD 0 l3).ad) (((y.td).getD 0 l3).tr)).1⟩:l7)])) gt v2) (Z g7 0/\(BK (oA (ar (((y.td).getD 0 l3).ad))) ((af w (((y.td).getD 0 l3).ad) (((y.td).getD 0 l3).tr)).1) ((af w (((y.td).getD 0 l3).ad) (((y.td).getD 0 l3).tr)).2)).sm/\((cP (oA (ar (((y.td).getD 0 l3).ad))))/\(((af w (((y.td).getD 0 l3).ad) (((y.td).getD 0 l3).tr)).2).length<=4611686018427387904)/\(m5 ((af w (((y.td).getD 0 l3).ad) (((y.td).getD 0 l3).tr)).2)))/\(∃ x:Nat×(List j9)×(List BL),match x with | (j6,NP,NV)=>(fun v12:Int×BL=>(j6<=((if v1.1=1 then bC v3 v1.2 else if v1.1=2 then [v1.2] else [])).length/\NP=((((if v1.1=1 then bC v3 v1.2 else if v1.1=2 then [v1.2] else [])).take j6).foldl ak (⟨n,a7,zs.set ix (C3 w y a7),se,ls++[(⟨a7,x0.ad,v1.1⟩:l7)]⟩:j8)).hs/\NV=((((if v1.1=1 then bC v3 v1.2 else if v1.1=2 then [v1.2] else [])).take j6).foldl ak (⟨n,a7,zs.set ix (C3 w y a7),se,ls++[(⟨a7,x0.ad,v1.1⟩:l7)]⟩:j8)).se)/\E (.ptr (.key 1001) [] gw 0)/\Q (ao (if (v12.1)=1 then bC (oA (ar (((y.td).getD 0 l3).ad))) (v12.2) else if (v12.1)=2 then [(v12.2)] else [])) v5/\Q (iN (((if (v12.1)=1 then bC (oA (ar (((y.td).getD 0 l3).ad))) (v12.2) else if (v12.1)=2 then [(v12.2)] else []).map sV).length)) (iN (((if v1.1=1 then bC v3 v1.2 else if v1.1=2 then [v1.2] else [])).length))/\Q (iN 0) (iN j6)/\Er gw v4/\Qr gt (bz n a7 (zs.set ix (C3 w y a7)) se (ls++[(⟨a7,(((y.td).getD 0 l3).ad),v12.1⟩:l7)])) gt (bz n a7 NP NV (ls++[(⟨a7,x0.ad,v1.1⟩:l7)]))/\True) (af w (((y.td).getD 0 l3).ad) (((y.td).getD 0 l3).tr)))/\∀ x:Nat×(List j9)×(List BL),match x with | (i,zz,ss)=>(i<=((if v1.1=1 then bC v3 v1.2 else if v1.1=2 then [v1.2] else [])).length/\zz=((((if v1.1=1 then bC v3 v1.2 else if v1.1=2 then [v1.2] else [])).take i).foldl ak (⟨n,a7,zs.set ix (C3 w y a7),se,ls++[(⟨a7,x0.ad,v1.1⟩:l7)]⟩:j8)).hs/\ss=((((if v1.1=1 then bC v3 v1.2 else if v1.1=2 then [v1.2] else [])).take i).foldl ak (⟨n,a7,zs.set ix (C3 w y a7),se,ls++[(⟨a7,x0.ad,v1.1⟩:l7)]⟩:j8)).se)->(fun H5:V=>Br (r9 (i:Int) ((((if v1.1=1 then bC v3 v1.2 else if v1.1=2 then [v1.2] else [])).length:Nat):Int)) (Ex (i:Int) ((if v1.1=1 then bC v3 v1.2 else if v1.1=2 then [v1.2] else []).map sV) (sV ((if v1.1=1 then bC v3 v1.2 else if v1.1=2 then [v1.2] else []).getD i []))/\True/\True/\Z gw 1/\(vj n a7 zz ss (ls++[(⟨a7,x0.ad,v1.1⟩:l7)]) gt ((if v1.1=1 then bC v3 v1.2 else if v1.1=2 then [v1.2] else []).getD i [])).sm/\Er gt H5/\((zz.length<=1000)/\(ss.length<=1000)/\(((if v1.1=1 then bC v3 v1.2 else if v1.1=2 then [v1.2] else []).getD i []).length<=1000000)/\(m5 ((if v1.1=1 then bC v3 v1.2 else if v1.1=2 then [v1.2] else []).getD i []))/\(∀ y,y∈zz->y.td.length<=1000/\y.gr.ru.length<=1000/\∀ i,(y.gr.ru.getD i ⟨false,[]⟩).path.length<=1000))/\m8 ((i:Int)+1)/\∃ x:Nat×(List j9)×(List BL),match x with | (b7,NO,NU)=>(b7<=((if v1.1=1 then bC v3 v1.2 else if v1.1=2 then [v1.2] else [])).length/\NO=((((if v1.1=1 then bC v3 v1.2 else if v1.1=2 then [v1.2] else [])).take b7).foldl ak (⟨n,a7,zs.set ix (C3 w y a7),se,ls++[(⟨a7,x0.ad,v1.1⟩:l7)]⟩:j8)).hs/\NU=((((if v1.1=1 then bC v3 v1.2 else if v1.1=2 then [v1.2] else [])).take b7).foldl ak (⟨n,a7,zs.set ix (C3 w y a7),se,ls++[(⟨a7,x0.ad,v1.1⟩:l7)]⟩:j8)).se)/\(((if v1.1=1 then bC v3 v1.2 else if v1.1=2 then [v1.2] else [])).length-b7<((if v1.1=1 then bC v3 v1.2 else if v1.1=2 then [v1.2] else [])).length-i)/\E (.ptr (.key 1001) [] gw 0)/\E v5/\E (iN (((if v1.1=1 then bC v3 v1.2 else if v1.1=2 then [v1.2] else [])).length))/\Q (iN (i+1)) (iN b7)/\Er gw v4/\Qr gt (bz n a7 (aQ n zz ss ((if v1.1=1 then bC v3 v1.2 else if v1.1=2 then [v1.2] else []).getD i [])) (ct ss ((if v1.1=1 then bC v3 v1.2 else if v1.1=2 then [v1.2] else []).getD i [])) (ls++[(⟨a7,x0.ad,v1.1⟩:l7)])) gt (bz n a7 NO NU (ls++[(⟨a7,x0.ad,v1.1⟩:l7)]))/\True) (Q (.tup []) (.tup [])/\Er gw v4/\Qr gt H5 gt v2)) (bz n a7 zz ss (ls++[(⟨a7,x0.ad,v1.1⟩:l7)])))))) (ao (if v1.1=1 then bC v3 v1.2 else if v1.1=2 then [v1.2] else []))) (.agg [.mp (w.map E9),.ptr (.key 1000) [] gt 0])) (oA (ar x0.ad))) (bz n a7 ((MJ w (⟨n,a7,zs,se,ls⟩:j8) ix).hs) ((MJ w (⟨n,a7,zs,se,ls⟩:j8) ix).se) ((MJ w (⟨n,a7,zs,se,ls⟩:j8) ix).lk))) (af w x0.ad x0.tr)) ?_
 subst XB
 subst XC
 refine⟨Oe (Zq (V.own 8 · g o c) (rL (d:=e9) Z9)),(aS (f:=2) rfl).trans (aI (aK Z9) rfl),?_⟩
 intro ga oa ca
 refine⟨dR (aV (aK Z9) (dc Z9)),trivial,(aS (f:=2) rfl).trans (aI (aK Z9) rfl),Z2,(aS (f:=2) rfl).trans (aI (aK Z9) ((aS (f:=5) rfl).trans (aI (by rw[Y0];exact aj (d:=l3) Z9) rfl))),?_⟩
 intro g4
 refine⟨rfl,trivial,(aS (f:=2) rfl).trans (aI (aK Z9) rfl),rfl,rfl,⟨hi,by have:=hy.t;omega⟩,trivial,⟨rfl,rfl,(aS (f:=2) rfl).trans (aI (aK Z9) rfl),rfl,Z8,cN (f:=ai) (fun _=>rfl) _⟩,?_⟩
 intro _
 refine⟨(Zq (fun r:V=>V.set (.agg [sV n,iV a7,.own 8 ((zs.take ix).map aB++(.agg [sV ((zs.getD ix e9).na),iV ((zs.getD ix e9).re),bV ((zs.getD ix e9).kn),.agg [.sl false (((zs.getD ix e9).gr.na).map sV),.sl false (((zs.getD ix e9).gr.ru).map au),iN ((zs.getD ix e9).gr.wa)],iV ((zs.getD ix e9).tr),.own 2 ((((zs.getD ix e9).td).drop 1++[l3]).map ai) ga oa ca]:V)::(zs.drop (ix+1)).map aB) g o c,.ow 1 (se.map sV),.ow 3 (ls.map aO)]) [2,ix,5] r) (Zq (V.own 2 · ga oa ca) (MH Z9))).trans (dR (aV (aK Z9) (dc Z9))),(aS (f:=2) rfl).trans (aI (aK Z9) rfl),dR (aV (aK Z9) (dc Z9)),Oe (Zq (V.own 8 · g o c) (lF (f:=aB) (x:=({ (zs.getD ix e9) with td:=(zs.getD ix e9).td.drop 1 }:j9)) Z9)),rfl,rfl,by first | rfl | (exfalso;omega) | (simp only[Y0]) | (simp;omega),rfl,rfl,⟨by rw[List.length_set];exact hi,hl,by have:=hy.ta _ (ay (d:=l3) hne);omega,hn,FH hi,hy.w⟩,Oe (Zq (V.own 8 · g o c) (Io hi)),fun hG=>rfl,fun hG=>by(try simp only[nb]at hG);omega,⟨fun h=>by rw[h] <;> rfl,fun _=>rfl⟩,?_⟩
 refine bI (fun j7=>?_) fun j7=>?_
 refine⟨rfl,Z9,rfl,(aS (f:=2) rfl).trans (aI (aK Z9) rfl),?_⟩
 intro QG Qz QK
 refine⟨dR (aV (aK Z9) (dc Z9)),trivial,(aS (f:=2) rfl).trans (aI (aK Z9) rfl),rfl,⟨rfl,rfl,(aS (f:=2) rfl).trans (aI (aK Z9) rfl),rfl,rfl,by simp[aJ,V.n,V.ns],by(try simp only[YT,Y2,YV,YY,List.length_drop]);omega⟩,?_⟩
 intro L8
 refine⟨dR (aV (aK Z9) (dc Z9)),Zq (V.own 2 · L8.1 L8.2.1 L8.2.2) Z8,trivial,(aS (f:=2) rfl).trans (aI (aK Z9) rfl),dR (aV (aK Z9) (dc Z9)),(aS (f:=2) rfl).trans (aI (aK Z9) rfl),dR (aV (aK Z9) (dc Z9)),Oe (Zq (V.own 8 · g o c) (lF (f:=aB) (x:=({ (C3 w (zs.getD ix e9) a7) with td:=(zs.getD ix e9).td.drop 1++[(⟨((zs.getD ix e9).td.getD 0 l3).ad,((zs.getD ix e9).td.getD 0 l3).tr+1⟩:u7)] }:j9)) Z9)),?_⟩
 refine⟨?_,rfl,by rw[Mq j7]⟩
 unfold Q
 rfl
 refine⟨rfl,rfl,⟨by have:=hy.ta _ (ay (d:=l3) hne);omega,(hy.ta _ (ay (d:=l3) hne)).2.1⟩,?_⟩
 intro g7
 refine⟨rfl,Oe (Zq (V.own 8 · g o c) (lF (f:=aB) (x:=(C3 w (zs.getD ix e9) a7)) Z9)),?_⟩
 refine bI (fun l6=>?_) fun l6=>?_
 refine⟨?_,rfl,by rw[Mk j7 (by simpa using l6)]⟩
 unfold Q
 rfl
 refine⟨rfl,rfl,⟨by exact qJ _,JU hz,FP hz⟩,?_⟩
 refine⟨⟨(0,zs.set ix (C3 w (zs.getD ix e9) a7),se),?_,rfl,Z4,Z4,rfl,rfl,Z4,trivial⟩,?_⟩
 exact⟨Z8,rfl,rfl⟩
 rintro⟨i,zz,ss⟩ ⟨h1,h2,h3⟩
 have Xm:=Eb (k:=(af w ((zs.getD ix e9).td.getD 0 l3).ad ((zs.getD ix e9).td.getD 0 l3).tr).1) (b:=oA (ar ((zs.getD ix e9).td.getD 0 l3).ad)) (t:=(af w ((zs.getD ix e9).td.getD 0 l3).ad ((zs.getD ix e9).td.getD 0 l3).tr).2)
 have Vh:=sD (((if (af w ((zs.getD ix e9).td.getD 0 l3).ad ((zs.getD ix e9).td.getD 0 l3).tr).1=1 then bC (oA (ar ((zs.getD ix e9).td.getD 0 l3).ad)) (af w ((zs.getD ix e9).td.getD 0 l3).ad ((zs.getD ix e9).td.getD 0 l3).tr).2 else if (af w ((zs.getD ix e9).td.getD 0 l3).ad ((zs.getD ix e9).td.getD 0 l3).tr).1=2 then [(af w ((zs.getD ix e9).td.getD 0 l3).ad ((zs.getD ix e9).td.getD 0 l3).tr).2] else [])).take i) (LU (w:=w) (ls:=ls++[(⟨a7,((zs.getD ix e9).td.getD 0 l3).ad,(af w ((zs.getD ix e9).td.getD 0 l3).ad ((zs.getD ix e9).td.getD 0 l3).tr).1⟩:l7)]) hi hy ht) hnn (fun s hs=>qK hw hz s (List.mem_of_mem_take hs))
 have hx:=mN (((if (af w ((zs.getD ix e9).td.getD 0 l3).ad ((zs.getD ix e9).td.getD 0 l3).tr).1=1 then bC (oA (ar ((zs.getD ix e9).td.getD 0 l3).ad)) (af w ((zs.getD ix e9).td.getD 0 l3).ad ((zs.getD ix e9).td.getD 0 l3).tr).2 else if (af w ((zs.getD ix e9).td.getD 0 l3).ad ((zs.getD ix e9).td.getD 0 l3).tr).1=2 then [(af w ((zs.getD ix e9).td.getD 0 l3).ad ((zs.getD ix e9).td.getD 0 l3).tr).2] else [])).take i) (⟨n,a7,zs.set ix (C3 w (zs.getD ix e9) a7),se,ls++[(⟨a7,((zs.getD ix e9).td.getD 0 l3).ad,(af w ((zs.getD ix e9).td.getD 0 l3).ad ((zs.getD ix e9).td.getD 0 l3).tr).1⟩:l7)]⟩:j8)
 refine bI (fun n6=>?_) fun n6=>?_
 have N0:=qK (b:=oA (ar ((zs.getD ix e9).td.getD 0 l3).ad)) hw hz _ (ng (l:=(if (af w ((zs.getD ix e9).td.getD 0 l3).ad ((zs.getD ix e9).td.getD 0 l3).tr).1=1 then bC (oA (ar ((zs.getD ix e9).td.getD 0 l3).ad)) (af w ((zs.getD ix e9).td.getD 0 l3).ad ((zs.getD ix e9).td.getD 0 l3).tr).2 else if (af w ((zs.getD ix e9).td.getD 0 l3).ad ((zs.getD ix e9).td.getD 0 l3).tr).1=2 then [(af w ((zs.getD ix e9).td.getD 0 l3).ad ((zs.getD ix e9).td.getD 0 l3).tr).2] else [])) (i:=i) Z9)
 refine⟨⟨Z9,aj (d:=[]) Z9⟩,trivial,trivial,rfl,rfl,rfl,⟨by rw[h2];have:=Vh.h;have:=Vh.s;omega,by rw[h3];have:=Vh.s;omega,by have:=N0.1;omega,N0.2.1,fun y hy=>by rw[h2]at hy;have q:=Vh.ha y hy;have:=Vh.s;exact⟨by have:=q.t;omega,q.r,q.rp⟩⟩,Z9,?_⟩
 refine⟨(i+1,aQ n zz ss ((if (af w ((zs.getD ix e9).td.getD 0 l3).ad ((zs.getD ix e9).td.getD 0 l3).tr).1=1 then bC (oA (ar ((zs.getD ix e9).td.getD 0 l3).ad)) (af w ((zs.getD ix e9).td.getD 0 l3).ad ((zs.getD ix e9).td.getD 0 l3).tr).2 else if (af w ((zs.getD ix e9).td.getD 0 l3).ad ((zs.getD ix e9).td.getD 0 l3).tr).1=2 then [(af w ((zs.getD ix e9).td.getD 0 l3).ad ((zs.getD ix e9).td.getD 0 l3).tr).2] else []).getD i []),ct ss ((if (af w ((zs.getD ix e9).td.getD 0 l3).ad ((zs.getD ix e9).td.getD 0 l3).tr).1=1 then bC (oA (ar ((zs.getD ix e9).td.getD 0 l3).ad)) (af w ((zs.getD ix e9).td.getD 0 l3).ad ((zs.getD ix e9).td.getD 0 l3).tr).2 else if (af w ((zs.getD ix e9).td.getD 0 l3).ad ((zs.getD ix e9).td.getD 0 l3).tr).1=2 then [(af w ((zs.getD ix e9).td.getD 0 l3).ad ((zs.getD ix e9).td.getD 0 l3).tr).2] else []).getD i [])),?_,?_,rfl,rfl,rfl,rfl,rfl,rfl,trivial⟩
 rw[foldl_succ (d:=[]) Z9,h2,h3]
 have hq:=mN (((if (af w ((zs.getD ix e9).td.getD 0 l3).ad ((zs.getD ix e9).td.getD 0 l3).tr).1=1 then bC (oA (ar ((zs.getD ix e9).td.getD 0 l3).ad)) (af w ((zs.getD ix e9).td.getD 0 l3).ad ((zs.getD ix e9).td.getD 0 l3).tr).2 else if (af w ((zs.getD ix e9).td.getD 0 l3).ad ((zs.getD ix e9).td.getD 0 l3).tr).1=2 then [(af w ((zs.getD ix e9).td.getD 0 l3).ad ((zs.getD ix e9).td.getD 0 l3).tr).2] else [])).take i) (⟨n,a7,zs.set ix (C3 w (zs.getD ix e9) a7),se,ls++[(⟨a7,((zs.getD ix e9).td.getD 0 l3).ad,(af w ((zs.getD ix e9).td.getD 0 l3).ad ((zs.getD ix e9).td.getD 0 l3).tr).1⟩:l7)]⟩:j8)
 exact⟨Z9,by show _=aQ ((((if (af w ((zs.getD ix e9).td.getD 0 l3).ad ((zs.getD ix e9).td.getD 0 l3).tr).1=1 then bC (oA (ar ((zs.getD ix e9).td.getD 0 l3).ad)) (af w ((zs.getD ix e9).td.getD 0 l3).ad ((zs.getD ix e9).td.getD 0 l3).tr).2 else if (af w ((zs.getD ix e9).td.getD 0 l3).ad ((zs.getD ix e9).td.getD 0 l3).tr).1=2 then [(af w ((zs.getD ix e9).td.getD 0 l3).ad ((zs.getD ix e9).td.getD 0 l3).tr).2] else [])).take i).foldl ak (⟨n,a7,zs.set ix (C3 w (zs.getD ix e9) a7),se,ls++[(⟨a7,((zs.getD ix e9).td.getD 0 l3).ad,(af w ((zs.getD ix e9).td.getD 0 l3).ad ((zs.getD ix e9).td.getD 0 l3).tr).1⟩:l7)]⟩:j8)).na ((((if (af w ((zs.getD ix e9).td.getD 0 l3).ad ((zs.getD ix e9).td.getD 0 l3).tr).1=1 then bC (oA (ar ((zs.getD ix e9).td.getD 0 l3).ad)) (af w ((zs.getD ix e9).td.getD 0 l3).ad ((zs.getD ix e9).td.getD 0 l3).tr).2 else if (af w ((zs.getD ix e9).td.getD 0 l3).ad ((zs.getD ix e9).td.getD 0 l3).tr).1=2 then [(af w ((zs.getD ix e9).td.getD 0 l3).ad ((zs.getD ix e9).td.getD 0 l3).tr).2] else [])).take i).foldl ak (⟨n,a7,zs.set ix (C3 w (zs.getD ix e9) a7),se,ls++[(⟨a7,((zs.getD ix e9).td.getD 0 l3).ad,(af w ((zs.getD ix e9).td.getD 0 l3).ad ((zs.getD ix e9).td.getD 0 l3).tr).1⟩:l7)]⟩:j8)).hs ((((if (af w ((zs.getD ix e9).td.getD 0 l3).ad ((zs.getD ix e9).td.getD 0 l3).tr).1=1 then bC (oA (ar ((zs.getD ix e9).td.getD 0 l3).ad)) (af w ((zs.getD ix e9).td.getD 0 l3).ad ((zs.getD ix e9).td.getD 0 l3).tr).2 else if (af w ((zs.getD ix e9).td.getD 0 l3).ad ((zs.getD ix e9).td.getD 0 l3).tr).1=2 then [(af w ((zs.getD ix e9).td.getD 0 l3).ad ((zs.getD ix e9).td.getD 0 l3).tr).2] else [])).take i).foldl ak (⟨n,a7,zs.set ix (C3 w (zs.getD ix e9) a7),se,ls++[(⟨a7,((zs.getD ix e9).td.getD 0 l3).ad,(af w ((zs.getD ix e9).td.getD 0 l3).ad ((zs.getD ix e9).td.getD 0 l3).tr).1⟩:l7)]⟩:j8)).se _;rw[hq.1],rfl⟩
 exact Z1
 refine⟨?_,rfl,by rw[Mz j7 (by simpa using l6),h2,h3,Y3 Z9,(mN _ _).2.2]⟩
 unfold Q
 rfl)
section
open Go.RowKit Go.Extern.Stop Go.Stop Go.Extern
theorem GA(v:Value)(w:World):(Extern.ReflectliteType.typeOf #[.iface 252 v]).run Tryz.prog w=.ok (.iface 187 (.agg #[.pointer (some ⟨4,252,none⟩)])) w:=Z7
theorem zh(w:World):((Extern.ReflectliteType.method fun t=>do Rtype.noPackHeld "Comparable" t;(fun a=>Value.bool a.comparable) <$> typeInfo t) #[.agg #[.pointer (some ⟨4,252,none⟩)]]).run Tryz.prog w=.ok (.bool true) w:=Z7
theorem FY(v:Value)(w:World):(Go.method 386 187 v "Comparable").run Tryz.prog w=.ok (226,v) w:=Z7
theorem Li:(Tryz.prog.info? 252).map (·.comparable)=some true:=Z7
theorem Lj:(Tryz.prog.info? 275).map (·.size)=some 1:=Z7
theorem Cz(a:Addr)(w:World):
 Calls Tryz.prog 75 #[.iface 252 (.pointer (some a)),.iface 252 (.pointer (some a))] w fun e w'=>e=.returned (.bool true)/\w'=w:=by
 obtain⟨i,hi,hcmp⟩:=Option.map_eq_some_iff.1 Li
 obtain⟨j,hj,hjs⟩:=Option.map_eq_some_iff.1 Lj
 have h8:= @run_callFunc_extern Tryz.prog 110 _ Extern.ReflectliteType.typeOf Tryz.func110 Z7 Z7 Z7 Z7
 have h32:= @run_callFunc_extern Tryz.prog 226 _ (Extern.ReflectliteType.method fun t=>do Rtype.noPackHeld "Comparable" t;pure (.bool (<- typeInfo t).comparable)) Tryz.func226 Z7 Z7 Z7 Z7
 have tT:=GA
 have cT:=zh
 have mR:=FY
 have heq:=run_eql_iface_ptr_same (P:=Tryz.prog) w a Tryz.underlying116 Tryz.underlying252 hi hcmp hj
 go_enter Tryz.func75,Tryz.ntmps75
 go_wp2
 refine wp_loop_rounds 1 ?_
 rw[rounds_succ]
 go_wp2
 go_ret
 exact⟨rfl,rfl⟩
theorem Ea(b:Addr)(w:World):
 Calls Tryz.prog 75 #[.nilIface,.iface 252 (.pointer (some b))] w fun e w'=>e=.returned (.bool false)/\w'=w:=by
 have hn:=run_eql_iface_nil_left (P:=Tryz.prog) w 252 (.pointer (some b)) Tryz.underlying116
 go_enter Tryz.func75,Tryz.ntmps75
 go_wp2
 go_ret
 exact⟨rfl,rfl⟩
theorem GL(a:Addr):PC Tryz.prog 75 [.lit (.iface 252 (.pointer (some a))),.lit (.iface 252 (.pointer (some a)))] (fun r=>r=bV true):=by
 refine⟨dY Tryz.func75 Z7 Z7,fun w Pb cargs hP hargs=>?_⟩
 obtain⟨x,xs,F1,F2,rfl,hF,h1,h2⟩:=hargs
 obtain⟨y,ys,F3,F4,rfl,hF2,h3,h4⟩:=h2
 obtain⟨rfl,_⟩:=h4
 have e1:x=.iface 252 (.pointer (some a)):=by have:=h1.2.1;simpa using this
 have e2:y=.iface 252 (.pointer (some a)):=by have:=h3.2.1;simpa using this
 subst e1;subst e2
 refine(Cz a w).mono ?_
 rintro e w' ⟨rfl,rfl⟩
 exact⟨_,_,[],Pb,rfl,rfl,dk rfl,Ze,Z8,fun _ h=>h,fun _ h=>.inl h,Below.refl _ _⟩
theorem Gy(a:Addr):PF Tryz.prog 75 [.lit (.iface 252 (.pointer (some a))),.lit (.iface 252 (.pointer (some a)))] [] (fun r h=>r=bV true/\h=[]):=hX rfl rfl (GL a)
theorem EU(a:Addr):PC Tryz.prog 75 [.lit .nilIface,.lit (.iface 252 (.pointer (some a)))] (fun r=>r=bV false):=by
 refine⟨dY Tryz.func75 Z7 Z7,fun w Pb cargs hP hargs=>?_⟩
 obtain⟨x,xs,F1,F2,rfl,hF,h1,h2⟩:=hargs
 obtain⟨y,ys,F3,F4,rfl,hF2,h3,h4⟩:=h2
 obtain⟨rfl,_⟩:=h4
 have e1:x=.nilIface:=by have:=h1.2.1;simpa using this
 have e2:y=.iface 252 (.pointer (some a)):=by have:=h3.2.1;simpa using this
 subst e1;subst e2
 refine(Ea a w).mono ?_
 rintro e w' ⟨rfl,rfl⟩
 exact⟨_,_,[],Pb,rfl,rfl,dk rfl,Ze,Z8,fun _ h=>h,fun _ h=>.inl h,Below.refl _ _⟩
theorem ET(a:Addr):PF Tryz.prog 75 [.lit .nilIface,.lit (.iface 252 (.pointer (some a)))] [] (fun r h=>r=bV false/\h=[]):=hX rfl rfl (EU a)
end
section
variable {P:Program}
def baC(v:V):Cu P where
 X:=Unit
 pre N o A:=match o.op,o.dst with
  | .build T b9,some d=>match Nat.blt d N,ja ((b9.toList.map (·.2)).map A.ev) with
    | true,some l=> ∃ y,v.val? =some y/\∀ w,(Instr.build T ((b9.toList.map (·.1)).zip l).toArray).run P w=.ok y w
    | _,_=>False
  | _,_=>False
 post _ o A:=A.put o.dst v
 ok:=by
  rintro N ⟨dst,op,ty,pos,after,D2⟩ A K-hp hK
  replace hK:=hK ()
  simp only at hp hK
  split at hp
  rename_i T b9 d
  split at hp
  rename_i l e1 e2
  obtain⟨y,hv,hr⟩:=hp
  refine fO rfl (bG e1) hK fun Pb Kb a w F hs=>⟨y,?_,uC hv⟩
  have h1:=mw hs _ e2
  have key:∀ q:List (Nat×Operand),q.map (fun p=>(p.1,a.eval p.2))=(q.map (·.1)).zip ((q.map (·.2)).map a.eval):=fun q=>by
   induction q with
   | nil=>rfl
   | cons p q ih=>simp only[Zi,List.zip_cons_cons,ih]
  have h2:(b9.map fun p=>(p.1,a.eval p.2))=((b9.toList.map (·.1)).zip l).toArray:=by
   rw[<- h1,<- key];apply Array.ext';simp
  have h3:=hr w
  rw[<- h2]at h3
  simp only[execOp,Y4,h3,YW,Y5]
  exact hp.elim
  exact hp.elim
def bmC:Cu P where
 X:=Nat
 pre N o A:=match o.op,o.dst with
  | .box _ x,some d=>Nat.blt d N=true/\(A.ev x).isVal=true
  | _,_=>False
 post g o A:=match o.op,o.dst with
  | .box _ x,some d=>⟨((A.drop x).put (some d) (.ptr (.key d) [] g 0)).t,(d,(g,A.ev x))::(A.drop x).h⟩
  | _,_=>A
 ok:=by
  rintro N ⟨dst,op,ty,pos,after,D2⟩ A K-hp hK
  simp only at hp hK
  split at hp
  rename_i T x d
  obtain⟨e1,hv⟩:=hp
  intro Pb Kb a w F Q hs
  obtain⟨Fx,F',hr,y9,hnd,u0,hfr,_⟩:=hs.take x
  have hR:=za hr hv
  have h1:=y9.nT (.cells (a.eval x).cells T)
  have h2:=h1.put (d:=d) (v:=.ptr (.key d) [] w.heap.size 0) (x:=.pointer (some ⟨w.heap.size,0,none⟩)) (F':=[]) (bG e1) ⟨rfl,rfl⟩ Z8 Z8 Z8
  have hA:At (w.alloc (.cells (a.eval x).cells T)) Pb (A.ev x) w.heap.size 0 Fx:=
   ⟨(a.eval x).cells.toList,(a.eval x).cells,⟨T,(0,0),fS w _,fun i _ h=>by omega⟩,fX (A.ev x) hR (fun g hg=>alloc_old w _ g (hs.bound g (hs.sub g hg))) (fun g hg=>alloc_old w _ g (hfr g hg).2) (fun _ h=>h) (fun g hg c=>(hfr g hg).1 (hs.sub g c)),fun j u hu=>by simpa using hu⟩
  have h3:=h2.Bu (k:=d) hA (List.nodup_cons.2 ⟨fun c=>by have:=(hfr _ c).2;omega,hnd⟩) (fun r y hy c=>by
   simp only[cf]at c
   rcases List.mem_cons.1 hy with rfl | hy
   split at c
   simp at c
   have:=(y9.free r _ c).2;omega
   split at c
   simp at c
   exact u0 r y hy c) (fun y hy=>by
   rcases List.mem_cons.1 hy with rfl | hy
   exact⟨fun c=>by have:=hs.bound _ c;omega,by rw[dz];omega⟩
   exact⟨(hfr y hy).1,by rw[dz];have:=(hfr y hy).2;omega⟩)
  have A3:(execOp a.eval ⟨some d,.box T x,ty,pos,after,D2⟩).run P w=.ok (.value (.pointer (some ⟨w.heap.size,0,none⟩))) (w.alloc (.cells (a.eval x).cells T)):=by
   simp[execOp,Instr.box,newVar,jn]
  unfold Oper.wp
  rw[A3,Oper.upon_value]
  exact⟨_,Pb,Kb,_,hK w.heap.size,h3,fun _ h=>h,fun _ h=>h,fun _ h=>.inl h,x7.alloc hs.bound _⟩
  exact hp.elim
end
def G0(t:j8):Bool:=(fv t).isSome&&decide (t.lk.length<400)
def B5(w:List Pg)(t:j8):j8:=if (t.hs.getD (m7 t) e9).kn=true then MJ w { t with a7:=s8 t } (m7 t) else Qi w { t with a7:=s8 t } (m7 t)
structure Nl (t:j8):Prop where
 t0:TS t
 n:t.na.length<=1000
 l:t.lk.length<=400
 w:0<=t.a7/\t.a7<=5000
theorem zL(w:List Pg)(t:j8)(i:Nat):(MJ w t i).na=t.na/\(MJ w t i).a7=t.a7:=by
 unfold MJ
 simp only
 split
 exact⟨rfl,rfl⟩
 split
 have:=mN (EM ((t.hs.getD i e9).td.getD 0 l3).ad (af w ((t.hs.getD i e9).td.getD 0 l3).ad ((t.hs.getD i e9).td.getD 0 l3).tr).1 (af w ((t.hs.getD i e9).td.getD 0 l3).ad ((t.hs.getD i e9).td.getD 0 l3).tr).2) { t with hs:=t.hs.set i (C3 w (t.hs.getD i e9) t.a7),lk:=t.lk++[⟨t.a7,((t.hs.getD i e9).td.getD 0 l3).ad,(af w ((t.hs.getD i e9).td.getD 0 l3).ad ((t.hs.getD i e9).td.getD 0 l3).tr).1⟩] }
 exact⟨this.1,this.2.1⟩
 exact⟨rfl,rfl⟩
theorem La(t:j8):∀ i,i<=t.hs.length->(C8 t i=(-1,0))\/∃ j:Nat,(C8 t i).1=(j:Int)/\j<i/\(t.hs.getD j e9).td≠[]/\t.a7<=(C8 t i).2
 | 0,_=>.inl rfl
 | i+1,hi=>by
   rw[nh Z9]
   unfold nH
   split
   rename_i c
   exact .inr ⟨i,rfl,Z9,c.1,by simp only;omega⟩
   rcases La t i Z9 with h | ⟨j,h1,h2,h3,h4⟩
   exact .inl h
   exact .inr ⟨j,h1,Z9,h3,h4⟩
theorem jh{t:j8}(h:G0 t=true):m7 t<t.hs.length/\(t.hs.getD (m7 t) e9).td≠[]/\t.a7<=s8 t/\s8 t<=5000:=by
 unfold G0 at h
 rw[YS]at h
 have h1:=h.1
 unfold m7 s8
 unfold fv at h1 ⊢
 split at h1
 cases h1
 rename_i c
 rw[if_neg c]
 rcases La t _ (Zg _) with e | ⟨j,e1,e2,e3,e4⟩
 rw[e]at c;exact absurd (.inl Z6) c
 simp only[Option.map_some,Option.getD_some,e1,Int.toNat_natCast]
 exact⟨e2,e3,e4,Z9⟩
theorem LA{t:j8}(h:(fv t).isSome=false\/(400:Int)<=(t.lk.length:Int)): ¬ G0 t=true:=fun c=>by
 unfold G0 at c
 rw[YS,Zo]at c
 rcases h with h | h
 rw[h]at c;exact absurd c.1 Z6
 omega
theorem Mh{t:j8}(h:(fv t).isSome=true/\(t.lk.length:Int)<400): ¬ G0 t=false:=fun c=>by
 unfold G0 at c
 rw[h.1,decide_eq_true Z9]at c;cases c
theorem LL{t:j8}(h:Nl t){i:Nat}(hi:i<t.hs.length):HS 60 (t.hs.getD i e9):=(h.t0.ha _ (ay (d:=e9) hi)).mono h.t0.s
theorem MG{w:List Pg}{n:BL}{a7:Int}{zs:List j9}{se:List BL}{ls:List l7}(h:(zs.getD (m7 ⟨n,a7,zs,se,ls⟩) e9).kn=true):B5 w ⟨n,a7,zs,se,ls⟩=MJ w ⟨n,s8 ⟨n,a7,zs,se,ls⟩,zs,se,ls⟩ (m7 ⟨n,a7,zs,se,ls⟩):=if_pos h
theorem Mt{w:List Pg}{n:BL}{a7:Int}{zs:List j9}{se:List BL}{ls:List l7}(h:(zs.getD (m7 ⟨n,a7,zs,se,ls⟩) e9).kn=false):B5 w ⟨n,a7,zs,se,ls⟩=Qi w ⟨n,s8 ⟨n,a7,zs,se,ls⟩,zs,se,ls⟩ (m7 ⟨n,a7,zs,se,ls⟩):=if_neg (by rw[h];decide)
def Bl(ea:Addr):o6 Tryz.prog:={ f:=75,args:=[.lit (.iface 252 (.pointer (some ea))),.lit (.iface 252 (.pointer (some ea)))],H:=[],pre:=True,res:=bV true,H':=[],ok:=fun _=>Gy ea }
def yO(ea:Addr):o6 Tryz.prog:={ f:=75,args:=[.lit .nilIface,.lit (.iface 252 (.pointer (some ea)))],H:=[],pre:=True,res:=bV false,H':=[],ok:=fun _=>ET ea }
def EL(n:BL)(a7:Int)(zs:List j9)(se:List BL)(ls:List l7)(gt:Nat)(gw:Nat)(ea:Addr)(w:List Pg):o6 Tryz.prog:=.mk 76 [.ptr (.key 1001) [] gw 0] [(1001,(gw,.agg [.mp (w.map E9),.ptr (.key 1000) [] gt 0])),(1000,(gt,bz n a7 zs se ls)),(9000,(0,.lit (.iface 252 (.pointer (some ea)))))] ((an w=true)/\(∀ i,m9 (w.getD i m4))/\(Nl (⟨n,a7,zs,se,ls⟩:j8))/\(G0 (⟨n,a7,zs,se,ls⟩:j8)=true)) (.lit .nilIface) [(1001,(gw,.agg [.mp (w.map E9),.ptr (.key 1000) [] gt 0])),(1000,(gt,bz n ((B5 w (⟨n,a7,zs,se,ls⟩:j8)).a7) ((B5 w (⟨n,a7,zs,se,ls⟩:j8)).hs) ((B5 w (⟨n,a7,zs,se,ls⟩:j8)).se) ((B5 w (⟨n,a7,zs,se,ls⟩:j8)).lk))),(9000,(0,.lit (.iface 252 (.pointer (some ea)))))] (by
 rintro⟨hw,hz,ht,hg⟩
 have Vd:=jh hg
 have Vc:=LL ht Vd.1
 simp only at Vd Vc
 refine av (N:=52) (rs:=[.tmp 2]) Tryz.func76
  (.q 1<|.r 5 [.a8]<|.q 1<|.c (vu n a7 zs se ls gt) [(1000,1000)]<|.q 7<|.oR (.key 1000) [4] (fun gl QX cl=>.r 10 [.a8]<|.br (.nil) (.q 4<|.st none<|.oR (.key 1000) [2] (fun g o c=>.r 7 [.a8]<|.cu (baC (.agg [.lit (.func (.func 112) #[] #[]),.lit (.func (.func 113) #[] #[])])) (fun _=>.al LS (fun g8=>.st none<|.q 1<|.r 4 [bV ((zs.getD (m7 (⟨n,a7,zs,se,ls⟩:j8)) e9).kn)]<|.br (.q 1<|.r 5 [.a8]<|.c (Ae n (s8 (⟨n,a7,zs,se,ls⟩:j8)) zs se ls gt g o c gw (m7 (⟨n,a7,zs,se,ls⟩:j8)) w) [(1001,1001),(1000,1000)]<|.q 1<|.nil) (.r 5 [.a8]<|.c (zZ n (s8 (⟨n,a7,zs,se,ls⟩:j8)) zs se ls gt g o c gw (m7 (⟨n,a7,zs,se,ls⟩:j8)) w) [(1001,1001),(1000,1000)]<|.q 1<|.nil)))))))
  ((fun v1:j9=>(fun v2:Bool=>(True/\Z gw 1/\(vu n a7 zs se ls gt).sm/\Er gt (bz n a7 zs se ls)/\((zs.length<=1000))/\∀ gl QX cl:Nat,Gd (v2==false) True/\Gd (v2==false) (Z gt 4)/\Pk v2 true (v2==false)/\Br (v2||(z6 (((ls.map aO).length:Nat):Int) 400)) (False) (True/\Z gt 1/\∀ g o c:Nat,(fun v3:List V=>(fun v4:V=>True/\Z gt 2/\In (((m7 (⟨n,a7,zs,se,ls⟩:j8)):Nat):Int) ((zs.map aB).length)/\(∃ y,(.agg [.lit (.func (.func 112) #[] #[]),.lit (.func (.func 113) #[] #[])]:V).val? =some y/\∀ w,(Instr.build 158 ([(0,.func (.func 112) #[] #[]),(1,.func (.func 113) #[] #[])]:List (Nat×Value)).toArray).run Tryz.prog w=.ok y w)/\∀ _:Unit,(fun v5:j8=>(fun v6:V=> ∀ g8:Nat,Z g8 0/\True/\(V.at gt 0 (.agg [sV n,iV (s8 (⟨n,a7,zs,se,ls⟩:j8)),.own 8 (zs.map aB) g o c,.ow 1 (se.map sV),.own 3 (ls.map aO) gl QX cl]) [2,0+(m7 (⟨n,a7,zs,se,ls⟩:j8)),2]=some (g,(o+(0+(m7 (⟨n,a7,zs,se,ls⟩:j8)))*8+2),bV (v1.kn)))/\Br (v1.kn) (((0:Int)<=1/\(1:Int)<2)/\Z g8 1/\(v3=[.ptr (.key 1001) [] gw 0,.ptr (.key 1000) [2,(m7 (⟨n,a7,zs,se,ls⟩:j8))] g (o+(m7 (⟨n,a7,zs,se,ls⟩:j8))*8)])/\Er gw v6/\Er gt v4/\(((m7 (⟨n,a7,zs,se,ls⟩:j8))<zs.length)/\(ls.length<=1000)/\(0<=(s8 (⟨n,a7,zs,se,ls⟩:j8))/\(s8 (⟨n,a7,zs,se,ls⟩:j8))<=100000)/\(HS 60 v1)/\(an w=true)/\(∀ i,m9 (w.getD i m4))/\(0<v1.td.length)/\(TS ⟨n,(s8 (⟨n,a7,zs,se,ls⟩:j8)),zs,se,ls⟩)/\(n.length<=1000))/\Q (.lit .nilIface) (.lit .nilIface)/\Er gw v6/\Qr gt (bz n (s8 (⟨n,a7,zs,se,ls⟩:j8)) ((MJ w (⟨n,(s8 (⟨n,a7,zs,se,ls⟩:j8)),zs,se,ls⟩:j8) (m7 (⟨n,a7,zs,se,ls⟩:j8))).hs) ((MJ w (⟨n,(s8 (⟨n,a7,zs,se,ls⟩:j8)),zs,se,ls⟩:j8) (m7 (⟨n,a7,zs,se,ls⟩:j8))).se) ((MJ w (⟨n,(s8 (⟨n,a7,zs,se,ls⟩:j8)),zs,se,ls⟩:j8) (m7 (⟨n,a7,zs,se,ls⟩:j8))).lk)) gt (bz n (v5.a7) (v5.hs) (v5.se) (v5.lk))/\Er 0 (.lit (.iface 252 (.pointer (some ea))))) (((0:Int)<=0/\(0:Int)<2)/\Z g8 0/\(v3=[.ptr (.key 1001) [] gw 0,.ptr (.key 1000) [2,(m7 (⟨n,a7,zs,se,ls⟩:j8))] g (o+(m7 (⟨n,a7,zs,se,ls⟩:j8))*8)])/\Er gw v6/\Er gt v4/\(((m7 (⟨n,a7,zs,se,ls⟩:j8))<zs.length)/\(ls.length<=1000)/\(0<=(s8 (⟨n,a7,zs,se,ls⟩:j8))/\(s8 (⟨n,a7,zs,se,ls⟩:j8))<=100000)/\(HS 60 v1)/\(∀ i,m9 (w.getD i m4)))/\Q (.lit .nilIface) (.lit .nilIface)/\Er gw v6/\Qr gt (bz n (s8 (⟨n,a7,zs,se,ls⟩:j8)) (zs.set (m7 (⟨n,a7,zs,se,ls⟩:j8)) (NW w n v1 (s8 (⟨n,a7,zs,se,ls⟩:j8)))) se (ls++[(⟨(s8 (⟨n,a7,zs,se,ls⟩:j8)),ag v1.na,(af w (ag v1.na) v1.tr).1⟩:l7)])) gt (bz n (v5.a7) (v5.hs) (v5.se) (v5.lk))/\Er 0 (.lit (.iface 252 (.pointer (some ea)))))) (.agg [.mp (w.map E9),.ptr (.key 1000) [] gt 0])) (B5 w (⟨n,a7,zs,se,ls⟩:j8))) (bL n (s8 (⟨n,a7,zs,se,ls⟩:j8)) zs g o c se ls)) ([.ptr (.key 1001) [] gw 0,.ptr (.key 1000) [2,(m7 (⟨n,a7,zs,se,ls⟩:j8))] g (o+(0+(m7 (⟨n,a7,zs,se,ls⟩:j8)))*8)]:List V)))) (!((fv (⟨n,a7,zs,se,ls⟩:j8)).isSome))) (zs.getD (m7 (⟨n,a7,zs,se,ls⟩:j8)) e9)) ?_
 refine⟨trivial,rfl,rfl,rfl,by have:=ht.t0.h;have:=ht.t0.s;simp only at *;omega,?_⟩
 intro gl QX cl
 refine⟨fun hG=>trivial,fun hG=>rfl,⟨fun _=>rfl,fun h=>by rw[h] <;> rfl⟩,?_⟩
 refine bI (fun j7=>?_) fun j7=>?_
 · all_goals exact absurd hg (LA j7)
 refine⟨trivial,rfl,?_⟩
 intro g o c
 refine⟨trivial,rfl,Z2,⟨_,rfl,fun _=>by kernel_rfl⟩,?_⟩
 intro _
 intro g8
 refine⟨rfl,trivial,(aS (f:=2) rfl).trans (aI (by rw[Y0];exact aj (d:=e9) Z9) rfl),?_⟩
 refine bI (fun l6=>?_) fun l6=>?_
 refine⟨Z9,rfl,by first | rfl | (exfalso;omega) | (simp only[Y0]) | (simp;omega),rfl,rfl,⟨Vd.1,by have:=ht.l;simp only at *;omega,by have:=ht.w;simp only at *;omega,Vc,hw,hz,List.length_pos_iff.2 Vd.2.1,⟨ht.t0.s,ht.t0.h,ht.t0.sa,ht.t0.ha⟩,ht.n⟩,?_⟩
 refine⟨?_,rfl,by rw[MG l6,(zL w _ _).2],rfl⟩
 unfold Q
 rfl
 refine⟨Z9,rfl,by first | rfl | (exfalso;omega) | (simp only[Y0]) | (simp;omega),rfl,rfl,⟨Vd.1,by have:=ht.l;simp only at *;omega,by have:=ht.w;simp only at *;omega,Vc,hz⟩,?_⟩
 refine⟨?_,rfl,by rw[Mt l6];rfl,rfl⟩
 unfold Q
 rfl)
def Bg(n:BL)(a7:Int)(zs:List j9)(se:List BL)(ls:List l7)(gt:Nat)(gw:Nat)(ea:Addr)(w:List Pg):o6 Tryz.prog:=.mk 76 [.ptr (.key 1001) [] gw 0] [(1001,(gw,.agg [.mp (w.map E9),.ptr (.key 1000) [] gt 0])),(1000,(gt,bz n a7 zs se ls)),(9000,(0,.lit (.iface 252 (.pointer (some ea)))))] ((an w=true)/\(∀ i,m9 (w.getD i m4))/\(Nl (⟨n,a7,zs,se,ls⟩:j8))/\(G0 (⟨n,a7,zs,se,ls⟩:j8)=false)) (.lit (.iface 252 (.pointer (some ea)))) [(1001,(gw,.agg [.mp (w.map E9),.ptr (.key 1000) [] gt 0])),(1000,(gt,bz n a7 zs se ls)),(9000,(0,.lit (.iface 252 (.pointer (some ea)))))] (by
 rintro⟨hw,hz,ht,hg⟩
 refine av (N:=52) (rs:=[.tmp 2]) Tryz.func76
  (.q 1<|.r 5 [.a8]<|.q 1<|.c (vu n a7 zs se ls gt) [(1000,1000)]<|.q 7<|.oR (.key 1000) [4] (fun gl QX cl=>.r 10 [.a8]<|.br (.r 2 [.a8]<|.nil) (.nil)))
  ((fun v1:Bool=>(fun v2:V=>(True/\Z gw 1/\(vu n a7 zs se ls gt).sm/\Er gt (bz n a7 zs se ls)/\((zs.length<=1000))/\∀ gl QX cl:Nat,Gd (v1==false) True/\Gd (v1==false) (Z gt 4)/\Pk v1 true (v1==false)/\Br (v1||(z6 (((ls.map aO).length:Nat):Int) 400)) (Z 0 0/\Q v2 v2/\Er gw (.agg [.mp (w.map E9),.ptr (.key 1000) [] gt 0])/\Er gt (bz n a7 zs se ls)/\Er 0 v2) (False))) (.lit (.iface 252 (.pointer (some ea))))) (!((fv (⟨n,a7,zs,se,ls⟩:j8)).isSome))) ?_
 refine⟨trivial,rfl,rfl,rfl,by have:=ht.t0.h;have:=ht.t0.s;simp only at *;omega,?_⟩
 intro gl QX cl
 refine⟨fun hG=>trivial,fun hG=>rfl,⟨fun _=>rfl,fun h=>by rw[h] <;> rfl⟩,?_⟩
 refine bI (fun j7=>?_) fun j7=>?_
 refine⟨rfl,?_⟩
 refine⟨?_,rfl,rfl,rfl⟩
 unfold Q
 rfl
 · all_goals exact absurd hg (Mh j7))
def B4(w:List Pg):Nat->j8->j8
 | 0,t=>t
 | n+1,t=>if G0 t=true then B4 w n (B5 w t) else t
def L2(w:List Pg):Nat->j8->Nat
 | 0,_=>0
 | n+1,t=>if G0 t=true then L2 w n (B5 w t)+1 else 0
theorem lb{w:List Pg}{t:j8}(hw:an w=true)(hz:∀ i,m9 (w.getD i m4))(h:Nl t)(hg:G0 t=true):Nl (B5 w t):=by
 have hx:=jh hg
 have Vc:=h.t0.ha _ (ay (d:=e9) hx.1)
 have hl:t.lk.length<400:=by
  unfold G0 at hg
  rw[YS,Zo]at hg
  exact hg.2
 have V8:=h.t0
 have Oc:∀ y:j9,HS t.se.length y->∀ ls,TS ⟨t.na,s8 t,t.hs.set (m7 t) y,t.se,ls⟩:=fun y hy ls=>by
  refine⟨V8.s,by rw[List.length_set];exact V8.h,V8.sa,fun z hz=>?_⟩
  rcases bQ hz with e | hz
  rw[e];exact hy
  exact V8.ha z hz
 obtain⟨q1,q2,q3,q4,q5,q6,q7⟩:=Vc
 unfold B5
 split
 ·
  have I0:=List.length_pos_iff.2 hx.2.1
  have hit:=q6 _ (ay (d:=l3) I0)
  have hF:HS t.se.length (C3 w (t.hs.getD (m7 t) e9) (s8 t)):=by
   refine⟨q1,q2,q3,q4,?_,fun x hx=>q6 x (List.mem_of_mem_drop hx),q7⟩
   show ((t.hs.getD (m7 t) e9).td.drop 1).length+60<=_
   rw[List.length_drop];omega
  have e:=zL w { t with a7:=s8 t } (m7 t)
  refine⟨?_,by rw[e.1];exact h.n,?_,by rw[e.2];have:=h.w;exact⟨by simp only;omega,hx.2.2.2⟩⟩
  unfold MJ
  simp only
  split
  rename_i hc
  refine Oc { C3 w (t.hs.getD (m7 t) e9) (s8 t) with td:=(t.hs.getD (m7 t) e9).td.drop 1++[⟨((t.hs.getD (m7 t) e9).td.getD 0 l3).ad,((t.hs.getD (m7 t) e9).td.getD 0 l3).tr+1⟩] } ⟨q1,q2,q3,q4,?_,fun x hx=>?_,q7⟩ _
  show (_++[_]).length+60<=_
  rw[YT,List.length_drop,Zj];omega
  rcases Y1.1 hx with hx | hx
  exact q6 x (List.mem_of_mem_drop hx)
  rw[YZ.1 hx];exact⟨hit.1,hit.2.1,by simp only;omega,by simp only;omega⟩
  split
  rename_i ha
  have ei:ar ((t.hs.getD (m7 t) e9).td.getD 0 l3).ad=aw ((t.hs.getD (m7 t) e9).td.getD 0 l3).ad:=if_pos ha
  exact sD _ (Oc _ hF _) h.n (fun s hs=>qK (b:=oA (aw ((t.hs.getD (m7 t) e9).td.getD 0 l3).ad)) hw hz s hs)
  exact Oc _ hF _
  unfold MJ
  simp only
  split
  simp;omega
  split
  rw[(mN _ _).2.2];simp;omega
  simp;omega
 refine⟨Oc _ ?_ _,h.n,by simp[Qi];omega,by have:=h.w;exact⟨by show 0<=s8 t;omega,hx.2.2.2⟩⟩
 show HS t.se.length (NW w t.na (t.hs.getD (m7 t) e9) (s8 t))
 unfold NW
 split
 rename_i hc
 exact⟨q1,q2,q3,q4,q5,q6,⟨by simp only;omega,by simp only;omega⟩⟩
 have s1:=px (af w (ag (t.hs.getD (m7 t) e9).na) 2).1 (af w (ag (t.hs.getD (m7 t) e9).na) 2).2 t.na
 have s2:=jS (af w (ag (t.hs.getD (m7 t) e9).na) 2).1 (af w (ag (t.hs.getD (m7 t) e9).na) 2).2 t.na
 refine⟨q1,Nat.le_trans s1.1 Z9,fun i=>tZ (p:=fun r:s6=>r.path.length<=1000) (fun r hr=>by have:=s1.2 r hr;omega) Z8 i,Nat.le_trans s2 Z9,?_,fun x hx=>q6 x (List.mem_filter.1 hx).1,q7⟩
 show ((t.hs.getD (m7 t) e9).td.filter _).length+60<=_
 have:=List.length_filter_le (Oa (bK w t.na (t.hs.getD (m7 t) e9).na).ru) (t.hs.getD (m7 t) e9).td
 omega
theorem zD(w:List Pg)(t:j8):(B5 w t).na=t.na:=by
 unfold B5
 split
 exact(zL w _ _).1
 rfl
theorem Ju{w:List Pg} {n:BL} {no:Int} {zz:List j9} {ss:List BL} {ll:List l7} {m:Int} {i:Nat} {t0:j8} (hw:an w=true) (hz:∀ i,m9 (w.getD i m4)) (hg:G0 ⟨n,no,zz,ss,ll⟩=true) (hi:(i:Int)<m) (h2:Nl ⟨n,no,zz,ss,ll⟩)
 (h3:B4 w m.toNat t0=B4 w (m.toNat-i) ⟨n,no,zz,ss,ll⟩) (h4:L2 w m.toNat t0=i+L2 w (m.toNat-i) ⟨n,no,zz,ss,ll⟩):
 ((i+1:Nat):Int)<=m/\Nl ⟨n,(B5 w ⟨n,no,zz,ss,ll⟩).a7,(B5 w ⟨n,no,zz,ss,ll⟩).hs,(B5 w ⟨n,no,zz,ss,ll⟩).se,(B5 w ⟨n,no,zz,ss,ll⟩).lk⟩/\
   B4 w m.toNat t0=B4 w (m.toNat-(i+1)) ⟨n,(B5 w ⟨n,no,zz,ss,ll⟩).a7,(B5 w ⟨n,no,zz,ss,ll⟩).hs,(B5 w ⟨n,no,zz,ss,ll⟩).se,(B5 w ⟨n,no,zz,ss,ll⟩).lk⟩/\
   L2 w m.toNat t0=i+1+L2 w (m.toNat-(i+1)) ⟨n,(B5 w ⟨n,no,zz,ss,ll⟩).a7,(B5 w ⟨n,no,zz,ss,ll⟩).hs,(B5 w ⟨n,no,zz,ss,ll⟩).se,(B5 w ⟨n,no,zz,ss,ll⟩).lk⟩:=by
 have e:(⟨n,(B5 w ⟨n,no,zz,ss,ll⟩).a7,(B5 w ⟨n,no,zz,ss,ll⟩).hs,(B5 w ⟨n,no,zz,ss,ll⟩).se,(B5 w ⟨n,no,zz,ss,ll⟩).lk⟩:j8)=B5 w ⟨n,no,zz,ss,ll⟩:=by
  have:=zD w ⟨n,no,zz,ss,ll⟩
  generalize B5 w ⟨n,no,zz,ss,ll⟩=q at this ⊢
  cases q;simp only at this;rw[this]
 rw[e]
 have ek:m.toNat-i=(m.toNat-(i+1))+1:=Z9
 rw[ek]at h3 h4
 simp only[B4,L2,hg,if_true]at h3 h4
 exact⟨Z9,lb hw hz h2 hg,h3,Z9⟩
theorem yA{w:List Pg}{m i:Nat}{t t0:j8}(hi:m-i=0)(h3:B4 w m t0=B4 w (m-i) t)(h4:L2 w m t0=i+L2 w (m-i) t):B4 w m t0=t/\L2 w m t0=i:=by
 rw[hi]at h3 h4;exact⟨h3,h4⟩
theorem HQ{w:List Pg}{m i:Nat}{t t0:j8}(hg:G0 t=false)(h3:B4 w m t0=B4 w (m-i) t)(h4:L2 w m t0=i+L2 w (m-i) t):B4 w m t0=t/\L2 w m t0=i:=by
 cases hk:m-i with
 | zero=>exact yA hk h3 h4
 | succ k=>
   rw[hk]at h3 h4
   simp only[B4,L2,hg,Bool.false_eq_true,if_false]at h3 h4
   exact⟨h3,h4⟩
def sq(n:BL)(a7:Int)(zs:List j9)(se:List BL)(ls:List l7)(gt:Nat)(gw:Nat)(ea:Addr)(w:List Pg)(m:Int):o6 Tryz.prog:=.mk 42 [.ptr (.key 1001) [] gw 0,iV m] [(1001,(gw,.agg [.mp (w.map E9),.ptr (.key 1000) [] gt 0])),(1000,(gt,bz n a7 zs se ls)),(9000,(0,.lit (.iface 252 (.pointer (some ea)))))] ((an w=true)/\(∀ i,m9 (w.getD i m4))/\(Nl (⟨n,a7,zs,se,ls⟩:j8))/\(0<=m/\m<=1000)) (iN (L2 w m.toNat (⟨n,a7,zs,se,ls⟩:j8))) [(1001,(gw,.agg [.mp (w.map E9),.ptr (.key 1000) [] gt 0])),(1000,(gt,bz n ((B4 w m.toNat (⟨n,a7,zs,se,ls⟩:j8)).a7) ((B4 w m.toNat (⟨n,a7,zs,se,ls⟩:j8)).hs) ((B4 w m.toNat (⟨n,a7,zs,se,ls⟩:j8)).se) ((B4 w m.toNat (⟨n,a7,zs,se,ls⟩:j8)).lk))),(9000,(0,.lit (.iface 252 (.pointer (some ea)))))] (by
 rintro⟨hw,hz,ht,hm⟩
 refine av (N:=17) (rs:=[.tmp 4]) Tryz.func42
  (.q 1<|.q 2<|.loop (Nat×Int×(List j9)×(List BL)×(List l7)) (fun (i,no,zz,ss,ll)=>⟨[(0,.ptr (.key 1001) [] gw 0),(1,iV m),(6,iV m),(7,iN i)],[(1001,(gw,.agg [.mp (w.map E9),.ptr (.key 1000) [] gt 0])),(1000,(gt,bz n no zz ss ll)),(9000,(0,.lit (.iface 252 (.pointer (some ea)))))]⟩) (fun (i,no,zz,ss,ll)=>(i:Int)<=m/\Nl (⟨n,no,zz,ss,ll⟩:j8)/\B4 w m.toNat (⟨n,a7,zs,se,ls⟩:j8)=B4 w (m.toNat-i) (⟨n,no,zz,ss,ll⟩:j8)/\L2 w m.toNat (⟨n,a7,zs,se,ls⟩:j8)=i+L2 w (m.toNat-i) (⟨n,no,zz,ss,ll⟩:j8)) (fun (i,no,zz,ss,ll)=>m.toNat-i) (fun (i,no,zz,ss,ll)=>.q 1<|.br (.sp (G0 (⟨n,no,zz,ss,ll⟩:j8)) (.q 2<|.dx 3 [0,2,1] [(2,⟨false,[],some [9000],[12],[]⟩),(1,⟨true,[],none,[11],[1000]⟩)] []<|.q 1<|.r 1 [.a8]<|.eu (XL (EL n no zz ss ll gt gw ea w) [(1001,1001),(1000,1000),(9000,9000)] 1000 gt (bz n ((B5 w (⟨n,no,zz,ss,ll⟩:j8)).a7) ((B5 w (⟨n,no,zz,ss,ll⟩:j8)).hs) ((B5 w (⟨n,no,zz,ss,ll⟩:j8)).se) ((B5 w (⟨n,no,zz,ss,ll⟩:j8)).lk))) (fun _=>.c (yO ea) []<|.br (.nil) (.q 2<|.nil))) (.q 2<|.dx 3 [0,2,1] [(2,⟨false,[],some [9000],[12],[]⟩),(1,⟨true,[],none,[11],[1000]⟩)] []<|.q 1<|.r 1 [.a8]<|.eu (XL (Bg n no zz ss ll gt gw ea w) [(1001,1001),(1000,1000),(9000,9000)] 1000 gt (bz n no zz ss ll)) (fun _=>.c (Bl ea) []<|.br (.q 2<|.nil) (.nil)))) (.q 2<|.nil)))
  ((fun v1:j8=>(fun v2:V=>(fun v3:V=>((∃ x:Nat×Int×(List j9)×(List BL)×(List l7),match x with | (j6,P0,NP,NV,P2)=>((j6:Int)<=m/\Nl (⟨n,P0,NP,NV,P2⟩:j8)/\B4 w m.toNat (⟨n,a7,zs,se,ls⟩:j8)=B4 w (m.toNat-j6) (⟨n,P0,NP,NV,P2⟩:j8)/\L2 w m.toNat (⟨n,a7,zs,se,ls⟩:j8)=j6+L2 w (m.toNat-j6) (⟨n,P0,NP,NV,P2⟩:j8))/\E (.ptr (.key 1001) [] gw 0)/\E (iV m)/\E (iV m)/\Q (iN 0) (iN j6)/\Er gw v2/\Qr gt (bz n a7 zs se ls) gt (bz n P0 NP NV P2)/\Er 0 v3/\True)/\∀ x:Nat×Int×(List j9)×(List BL)×(List l7),match x with | (i,no,zz,ss,ll)=>((i:Int)<=m/\Nl (⟨n,no,zz,ss,ll⟩:j8)/\B4 w m.toNat (⟨n,a7,zs,se,ls⟩:j8)=B4 w (m.toNat-i) (⟨n,no,zz,ss,ll⟩:j8)/\L2 w m.toNat (⟨n,a7,zs,se,ls⟩:j8)=i+L2 w (m.toNat-i) (⟨n,no,zz,ss,ll⟩:j8))->(fun v4:j8=>(fun v5:V=>Br (r9 (i:Int) m) (((G0 (⟨n,no,zz,ss,ll⟩:j8))=true->Z 0 0/\((EL n no zz ss ll gt gw ea w).sm/\Er gw v2/\Er gt v5/\Er 0 v3/\(((an w=true)/\(∀ i,m9 (w.getD i m4))/\(Nl (⟨n,no,zz,ss,ll⟩:j8))/\(G0 (⟨n,no,zz,ss,ll⟩:j8)=true))/\(((gw,.agg [.mp (w.map E9),.ptr (.key 1000) [] gt 0]):Nat×V)=(gw,.agg [.mp (w.map E9),.ptr (.key 1000) [] gt 0]))/\(((gt,bz n (v4.a7) (v4.hs) (v4.se) (v4.lk)):Nat×V)=(gt,bz n (v4.a7) (v4.hs) (v4.se) (v4.lk)))/\(((0,.lit (.iface 252 (.pointer (some ea)))):Nat×V)=(0,.lit (.iface 252 (.pointer (some ea)))))/\True))/\∀ _:Unit,(yO ea).sm/\(True)/\Br false (False) (m8 ((i:Int)+1)/\∃ x:Nat×Int×(List j9)×(List BL)×(List l7),match x with | (b7,PZ,NO,NU,P1)=>((b7:Int)<=m/\Nl (⟨n,PZ,NO,NU,P1⟩:j8)/\B4 w m.toNat (⟨n,a7,zs,se,ls⟩:j8)=B4 w (m.toNat-b7) (⟨n,PZ,NO,NU,P1⟩:j8)/\L2 w m.toNat (⟨n,a7,zs,se,ls⟩:j8)=b7+L2 w (m.toNat-b7) (⟨n,PZ,NO,NU,P1⟩:j8))/\(m.toNat-b7<m.toNat-i)/\E (.ptr (.key 1001) [] gw 0)/\E (iV m)/\E (iV m)/\Q (iN (i+1)) (iN b7)/\Er gw v2/\Qr gt (bz n (v4.a7) (v4.hs) (v4.se) (v4.lk)) gt (bz n PZ NO NU P1)/\Er 0 v3/\True))/\((G0 (⟨n,no,zz,ss,ll⟩:j8))=false->Z 0 0/\((Bg n no zz ss ll gt gw ea w).sm/\Er gw v2/\Er gt v5/\Er 0 v3/\(((an w=true)/\(∀ i,m9 (w.getD i m4))/\(Nl (⟨n,no,zz,ss,ll⟩:j8))/\(G0 (⟨n,no,zz,ss,ll⟩:j8)=false))/\(((gw,.agg [.mp (w.map E9),.ptr (.key 1000) [] gt 0]):Nat×V)=(gw,.agg [.mp (w.map E9),.ptr (.key 1000) [] gt 0]))/\(((gt,bz n no zz ss ll):Nat×V)=(gt,bz n no zz ss ll))/\(((0,.lit (.iface 252 (.pointer (some ea)))):Nat×V)=(0,.lit (.iface 252 (.pointer (some ea)))))/\True))/\∀ _:Unit,(Bl ea).sm/\(True)/\Br true (Q (iN i) (iN (L2 w m.toNat (⟨n,a7,zs,se,ls⟩:j8)))/\Er gw v2/\Qr gt v5 gt (bz n (v1.a7) (v1.hs) (v1.se) (v1.lk))/\Er 0 v3) (False))) (Q (iV m) (iN (L2 w m.toNat (⟨n,a7,zs,se,ls⟩:j8)))/\Er gw v2/\Qr gt v5 gt (bz n (v1.a7) (v1.hs) (v1.se) (v1.lk))/\Er 0 v3)) (bz n no zz ss ll)) (B5 w (⟨n,no,zz,ss,ll⟩:j8)))) (.lit (.iface 252 (.pointer (some ea))))) (.agg [.mp (w.map E9),.ptr (.key 1000) [] gt 0])) (B4 w m.toNat (⟨n,a7,zs,se,ls⟩:j8))) ?_
 refine⟨⟨(0,a7,zs,se,ls),?_,rfl,rfl,rfl,rfl,rfl,rfl,rfl,trivial⟩,?_⟩
 exact⟨Z9,ht,rfl,Z8⟩
 rintro⟨i,no,zz,ss,ll⟩ ⟨h1,h2,h3,h4⟩
 refine bI (fun j7=>?_) fun j7=>?_
 · refine⟨fun Nv=>?_,fun Nv=>?_⟩
   · have Re:=Nv
     try simp only[nb]at Re
     refine⟨rfl,⟨rfl,rfl,rfl,rfl,⟨⟨hw,hz,h2,Nv⟩,rfl,rfl,rfl,trivial⟩⟩,?_⟩
     intro _
     refine⟨rfl,trivial,?_⟩
     refine bI (fun l6=>?_) fun l6=>?_
     · all_goals (first | exact absurd l6 Z6 | simp_all)
     refine⟨Z9,?_⟩
     refine⟨(i+1,(B5 w (⟨n,no,zz,ss,ll⟩:j8)).a7,(B5 w (⟨n,no,zz,ss,ll⟩:j8)).hs,(B5 w (⟨n,no,zz,ss,ll⟩:j8)).se,(B5 w (⟨n,no,zz,ss,ll⟩:j8)).lk),?_,?_,rfl,rfl,rfl,rfl,rfl,rfl,rfl,trivial⟩
     exact Ju hw hz Nv Z9 h2 h3 h4
     exact Z1
   · have Re:=Nv
     try simp only[nb]at Re
     refine⟨rfl,⟨rfl,rfl,rfl,rfl,⟨⟨hw,hz,h2,Nv⟩,rfl,rfl,rfl,trivial⟩⟩,?_⟩
     intro _
     refine⟨rfl,trivial,?_⟩
     refine bI (fun n6=>?_) fun n6=>?_
     refine⟨?_,rfl,by rw[(HQ Nv h3 h4).1],rfl⟩
     unfold Q
     rw[(HQ Nv h3 h4).2]
     · all_goals (first | exact absurd n6 Z6 | simp_all)
 refine⟨?_,rfl,by rw[(yA Z9 h3 h4).1],rfl⟩
 unfold Q
 rw[(yA Z9 h3 h4).2]
 refine Zq iV ?_;omega)
def bp(w:List Pg)(t:j8)(m:Int):Option j8:=if A7 m 0 400=true/\(an w&&aC t)=true then some (B4 w m.toNat t) else none
theorem nu{t:j8}(ht:w8 t)(hh:t.hs.length<=900)(hk:aC t=true):Nl t:=by
 unfold aC at hk
 simp only[YS,Y6,Zo]at hk
 obtain⟨⟨⟨⟨⟨k1,k2⟩,k3⟩,k4⟩,k5⟩,k6⟩:=hk
 have ks:t.se.length<=60:=by
  unfold cY at k3
  simp only[YS,Zo]at k3
  exact k3.1.1
 have kl:t.lk.length<=400:=by
  unfold cH at k4
  simp only[YS,Zo]at k4
  exact k4.1
 refine⟨⟨ks,Z9,ht.sa,fun y hy=>?_⟩,ht.n,kl,of_decide_eq_true k2⟩
 have hz:=ht.ha y hy
 obtain⟨a1,a2⟩:=k5 y hy
 unfold dj at a1
 unfold cU at a2
 simp only[YS,Y6,Zo]at a1 a2
 obtain⟨⟨⟨⟨b1,b2⟩,b3⟩,b4⟩,b5⟩:=a1
 obtain⟨⟨c1,c2⟩,c3⟩:=a2
 have b3:=of_decide_eq_true b3
 refine⟨hz.n,hz.r,hz.rp,?_,Z9,fun x hx=>?_,Z9⟩
 split at b5
 simp only[YS,Zo]at b5
 have:=of_decide_eq_true b5.2
 omega
 rw[Zo]at b5
 rw[b5.2];omega
 have d1:=hz.ta x hx
 have d2:=of_decide_eq_true (c2 x hx).2
 exact⟨d1.1,d1.2,Z9,Z9⟩
theorem DP(w:List Pg):∀ (k:Nat) (t:j8),(B4 w k t).na=t.na
 | 0,_=>rfl
 | k+1,t=>by
   unfold B4
   split
   rw[DP w k,zD]
   rfl
theorem Mo{m:Int}(h:A7 m 0 400=true):0<=m/\m<=400:=of_decide_eq_true h
theorem KA{w:List Pg}{t:j8}{m:Int}(h:A7 m 0 400=false):bp w t m=none:=if_neg fun c=>by rw[h]at c;exact absurd c.1 Z6
theorem ve{w:List Pg}{t:j8}{m:Int}(h:A7 m 0 400=true)(h1:an w=true)(h2:aC t=true):bp w t m=some (B4 w m.toNat t):=if_pos ⟨h,by rw[h1,h2];rfl⟩
theorem JJ{w:List Pg}{t:j8}{m:Int}(h:(an w&&aC t)=false):bp w t m=none:=if_neg fun c=>by rw[h]at c;exact absurd c.2 Z6
abbrev iP(w:List Pg)(t:j8)(m:Int)(ea:Addr):V:=.tup [bz ((oT (bp w t m)).na) ((oT (bp w t m)).a7) ((oT (bp w t m)).hs) ((oT (bp w t m)).se) ((oT (bp w t m)).lk),bV ((bp w t m).isSome)]
def nW(w:List Pg)(t:j8)(m:Int)(ea:Addr):o6 Tryz.prog:=.mk 15 [bZ w,bB t.na t.a7 t.hs t.se t.lk,iV m] [(9000,(0,.lit (.iface 252 (.pointer (some ea)))))] ((w.length<=30)/\(∀ i,m9 (w.getD i m4))/\(w8 t)/\(t.hs.length<=900)) (iP w t m ea) [(9000,(0,.lit (.iface 252 (.pointer (some ea)))))] (by
 rintro⟨hw,hz,ht,hh⟩
 refine av (N:=32) (rs:=[.cell 6 30,.tmp 7]) Tryz.func15
  (.bx (fun g4=>.al eR (fun g6=>.q 1<|.q 1<|.c (dv (0:Int) m (400:Int)) []<|.q 1<|.br (.bd eR<|.st none<|.q 1<|.h (.y7 (.key 6) [2] 8)<|.h (.y7 (.key 6) [3] 1)<|.h (.y7 (.key 6) [4] 3)<|.nil) (.r 2 [.a8]<|.sp (an w&&aC t) (.cx (lB w t) [(1001,17),(1000,3017)] (fun (J7:Nat×Nat)=>.q 5<|.q 2<|.br (.nil) (.q 2<|.c (sq t.na t.a7 t.hs t.se t.lk J7.2 J7.1 ea w m) [(1001,17),(1000,3017),(9000,9000)]<|.r 5 [.a8]<|.mv<|.st none<|.q 1<|.nil))) (.c (kj w t) []<|.q 5<|.q 2<|.br (.bd eR<|.st none<|.q 1<|.h (.y7 (.key 6) [2] 8)<|.h (.y7 (.key 6) [3] 1)<|.h (.y7 (.key 6) [4] 3)<|.nil) (.nil))))))
  ((fun v1:j8=>(fun v2:V=>(fun v3:V=>(∀ g4:Nat,∀ g6:Nat,(dv (0:Int) m (400:Int)).sm/\(True)/\Br (!(A7 m (0:Int) (400:Int))) (Z g6 0/\(g6=g6)/\Q v3 (iP w t m ea)/\Er 0 v2) (Z g4 0/\((an w&&aC t)=true->(lB w t).sm/\((w.length<=30)/\(∀ i,m9 (w.getD i m4))/\(w8 t)/\(an w=true)/\(aC t=true))/\∀ J7:Nat×Nat,(True)->Br (!true) (False) ((sq t.na t.a7 t.hs t.se t.lk J7.2 J7.1 ea w m).sm/\Er J7.1 (.agg [.mp (w.map E9),.ptr (.key 1000) [] J7.2 0])/\Er J7.2 (bz t.na t.a7 t.hs t.se t.lk)/\Er 0 v2/\((an w=true)/\(∀ i,m9 (w.getD i m4))/\(Nl (⟨t.na,t.a7,t.hs,t.se,t.lk⟩:j8))/\(0<=m/\m<=1000))/\True/\Z J7.1 1/\True/\Z J7.2 0/\Z g6 0/\(g6=g6)/\Q (.tup [bz t.na (v1.a7) (v1.hs) (v1.se) (v1.lk),bV true]) (iP w t m ea)/\Er 0 v2))/\((an w&&aC t)=false->(kj w t).sm/\((w.length<=30)/\(∀ i,m9 (w.getD i m4))/\(w8 t)/\((an w&&aC t)=false))/\Br (!false) (Z g6 0/\(g6=g6)/\Q v3 (iP w t m ea)/\Er 0 v2) (False))))) (.tup [.agg [sV [],iN 0,.ow 8 ([].map aB),.ow 1 ([].map sV),.ow 3 ([].map aO)],bV false])) (.lit (.iface 252 (.pointer (some ea))))) (B4 w m.toNat (⟨t.na,t.a7,t.hs,t.se,t.lk⟩:j8))) ?_
 intro g4
 intro g6
 refine⟨rfl,trivial,?_⟩
 refine bI (fun j7=>?_) fun j7=>?_
 refine⟨rfl,?_⟩
 refine⟨rfl,?_,rfl⟩
 unfold Q iP
 rw[KA j7];rfl
 · refine⟨rfl,?_⟩
   refine⟨fun O5=>?_,fun O5=>?_⟩
   · have M1:=O5
     try simp only[nb]at M1
     refine⟨rfl,⟨hw,hz,ht,M1.1,M1.2⟩,?_⟩
     intro J7 P5
     refine bI (fun l6=>?_) fun l6=>?_
     · all_goals (first | exact absurd l6 Z6 | simp_all)
     refine⟨rfl,rfl,rfl,rfl,⟨M1.1,hz,nu ht hh M1.2,by have:=Mo j7;omega⟩,trivial,rfl,trivial,rfl,rfl,?_⟩
     refine⟨rfl,?_,rfl⟩
     unfold Q iP
     rw[ve (by simpa using j7) M1.1 M1.2]
     exact Zq (fun s:BL=>V.tup [V.agg [sV s,iV (B4 w m.toNat t).a7,V.ow 8 ((B4 w m.toNat t).hs.map aB),V.ow 1 ((B4 w m.toNat t).se.map sV),V.ow 3 ((B4 w m.toNat t).lk.map aO)],bV true]) (DP w m.toNat t).symm
   · have M1:=O5
     try simp only[nb]at M1
     refine⟨rfl,⟨hw,hz,ht,O5⟩,?_⟩
     refine bI (fun n6=>?_) fun n6=>?_
     refine⟨rfl,?_⟩
     refine⟨rfl,?_,rfl⟩
     unfold Q iP
     rw[JJ O5];rfl
     · all_goals (first | exact absurd n6 Z6 | simp_all))
theorem iS:∀ l:List j9,V.B8 (l.map aB)=l.map bR
 | []=>rfl
 | y::l=>by
   simp only[Zi,V.B8,iS l]
   rw[show (aB y).er=bR y from by
    show V.agg (V.B8 [sV y.na,iV y.re,bV y.kn,bO y.gr,iV y.tr,.ow 2 (y.td.map ai)])=_
    simp only[V.B8,V.er]
    rw[aM (f:=ai) (fun _=>rfl)]]
theorem rB{n:BL}{c9:List BL}(hl:c9.length<=400):(oT (aH n c9)).hs.length<=900:=by
 unfold aH
 split
 have:=(kU n c9 (lV n)).hl
 show (c9.foldl ak (aU n)).hs.length<=900
 omega
 simp[oT]
theorem rM{n:BL}{c9:List BL}(hn:n.length<=1000)(hl:c9.length<=400)(ha:∀ x,x∈c9->x.length<=1000/\m5 x):w8 (oT (aH n c9)):=by
 unfold aH
 split
 have h1:=kU n c9 (lV n)
 have h2:TS (c9.foldl ak (aU n)):=sD c9 ⟨by simp[aU],by simp[aU],by simp[aU],by simp[aU]⟩ hn (fun s hs=>⟨(ha s hs).1,(ha s hs).2,(kF s).1⟩)
 show w8 (c9.foldl ak (aU n))
 refine⟨by rw[h1.na];exact hn,by have:=h2.h;have:=h2.s;omega,by have:=h2.s;omega,by rw[h1.lk];simp,h2.sa,by rw[h1.lk];simp,fun y hy=>?_⟩
 have q:=h2.ha y hy
 have e:=(h1.hs y hy).2.1
 have:=h2.s
 exact⟨q.n,q.r,q.rp,by rw[e];simp,by have:=q.t;omega,fun x hx=>⟨(q.ta x hx).1,(q.ta x hx).2.1⟩⟩
 exact⟨by simp[oT],by simp[oT],by simp[oT],by simp[oT],by simp[oT],by simp[oT],by simp[oT]⟩
abbrev uc(w:List Pg)(n:BL)(c9:List BL)(m:Int)(ea:Addr):V:=.tup [bz ((oT (bp w (oT (aH n c9)) m)).na) ((oT (bp w (oT (aH n c9)) m)).a7) ((oT (bp w (oT (aH n c9)) m)).hs) ((oT (bp w (oT (aH n c9)) m)).se) ((oT (bp w (oT (aH n c9)) m)).lk),bV ((aH n c9).isSome&&(bp w (oT (aH n c9)) m).isSome)]
def kX(w:List Pg)(n:BL)(c9:List BL)(m:Int)(ea:Addr):o6 Tryz.prog:=.mk 10 [bZ w,sV n,ao c9,iV m] [(9000,(0,.lit (.iface 252 (.pointer (some ea)))))] ((w.length<=30)/\(∀ i,m9 (w.getD i m4))/\(n.length<=1000)/\(c9.length<=400)/\(∀ x,x∈c9->x.length<=1000/\m5 x)) (uc w n c9 m ea) [(9000,(0,.lit (.iface 252 (.pointer (some ea)))))] (by
 rintro⟨hw,hz,hn,hl,ha⟩
 refine av (N:=32) (rs:=[.cell 8 30,.tmp 9]) Tryz.func10
  (.al eR (fun g8=>.q 1<|.q 2<|.c (nP n c9) []<|.mv<|.mv<|.q 1<|.al eR (fun g10=>.st none<|.q 1<|.q 1<|.mv<|.h (.fz 22)<|.h (.o4 22 (bB ((oT (aH n c9)).na) ((oT (aH n c9)).a7) ((oT (aH n c9)).hs) ((oT (aH n c9)).se) ((oT (aH n c9)).lk)))<|.q 1<|.c (nW w (oT (aH n c9)) m ea) [(9000,9000)]<|.mv<|.mv<|.q 1<|.al eR (fun g12=>.st none<|.q 1<|.mv<|.q 4<|.st none<|.q 1<|.nil))))
  ((fun v1:j8=>(fun v2:j8=>(∀ g8:Nat,(nP n c9).sm/\((n.length<=1000)/\(c9.length<=1000)/\(∀ x,x∈c9->x.length<=1000/\m5 x))/\∀ g10:Nat,Z g10 0/\Z g10 0/\((.agg [sV (v1.na),iV (v1.a7),.sl false (V.B8 ((v1.hs).map aB)),.sl false (V.B8 ((v1.se).map sV)),.sl false (V.B8 ((v1.lk).map aO))]:V)=bB (v1.na) (v1.a7) (v1.hs) (v1.se) (v1.lk))/\(nW w v1 m ea).sm/\Er 0 (.lit (.iface 252 (.pointer (some ea))))/\((w.length<=30)/\(∀ i,m9 (w.getD i m4))/\(w8 v1)/\(v1.hs.length<=900))/\∀ g12:Nat,Z g12 0/\Z g12 0/\Pk ((aH n c9).isSome) (((aH n c9).isSome)==true) true/\Z g8 0/\(g8=g8)/\Q (.tup [bz (v2.na) (v2.a7) (v2.hs) (v2.se) (v2.lk),bV (((aH n c9).isSome)&&((bp w v1 m).isSome))]) (uc w n c9 m ea)/\Er 0 (.lit (.iface 252 (.pointer (some ea)))))) (oT (bp w v1 m))) (oT (aH n c9))) ?_
 intro g8
 refine⟨rfl,⟨hn,Z9,ha⟩,?_⟩
 intro g10
 refine⟨rfl,rfl,by rw[iS,aM (f:=sV) (fun _=>rfl),aM (f:=aO) (fun _=>rfl)],rfl,rfl,⟨hw,hz,rM hn hl ha,rB hl⟩,?_⟩
 intro g12
 refine⟨rfl,rfl,⟨fun h=>by rw[h] <;> rfl,fun _=>rfl⟩,rfl,?_⟩
 refine⟨rfl,?_,rfl⟩
 unfold Q uc
 rfl)
def gV(zs:List j9)(d:BL):Int:=if r7 zs d<zs.length then ((r7 zs d:Nat):Int) else -1
theorem IJ{zs:List j9}{d:BL}{i:Nat}(hi:i<zs.length)(e:(zs.getD i e9).na=d)(h:∀ j,j<i->((zs.getD j e9).na==d)=false):gV zs d=i:=by
 unfold gV;rw[uw hi e h,if_pos hi]
theorem Jo{zs:List j9}{d:BL}(h:∀ j,j<zs.length->((zs.getD j e9).na==d)=false):gV zs d= -1:=by
 unfold gV;rw[vg h,if_neg Z9]
def uo(n:BL)(a7:Int)(zs:List j9)(se:List BL)(ls:List l7)(gt:Nat)(g:Nat)(o:Nat)(c:Nat)(d:BL):o6 Tryz.prog:=.mk 98 [.agg [sV n,iV a7,.hd (.key 1000) [2] 8 g o 0 ((zs.map aB).length) c,.a8,.a8],sV d] [(1000,(gt,bL n a7 zs g o c se ls))] (zs.length<=1000) (iV (gV zs d)) [(1000,(gt,bL n a7 zs g o c se ls))] (by
 intro hl
 refine av (N:=22) (rs:=[.tmp 4]) Tryz.func98
  (.bx (fun g2=>.q 1<|.q 1<|.loop (Nat) (fun (i:Nat)=>⟨[(1,sV d),(2,.ptr (.key 2) [] g2 0),(5,iN i)],[(2,(g2,.agg [sV n,iV a7,.hd (.key 1000) [2] 8 g o 0 ((zs.map aB).length) c,.a8,.a8])),(1000,(gt,bL n a7 zs g o c se ls))]⟩) (fun (i:Nat)=>i<=zs.length/\∀ j,j<i->((zs.getD j e9).na==d)=false) (fun (i:Nat)=>zs.length-i) (fun (i:Nat)=>.r 5 [.a8]<|.br (.r 8 [.a8,sV ((zs.getD i e9).na)]<|.br (.q 2<|.nil) (.q 3<|.nil)) (.q 1<|.nil))))
  ((fun v1:V=>(fun v2:V=>(∀ g2:Nat,(∃ j6:Nat,(j6<=zs.length/\∀ j,j<j6->((zs.getD j e9).na==d)=false)/\E (sV d)/\E (.ptr (.key 2) [] g2 0)/\Q (iN 0) (iN j6)/\Er g2 v2/\Er gt v1/\True)/\∀ i:Nat,(i<=zs.length/\∀ j,j<i->((zs.getD j e9).na==d)=false)->Z g2 2/\Br (r9 (i:Int) (((zs.map aB).length:Nat):Int)) (Z g2 2/\In (i:Int) ((zs.map aB).length)/\(V.at gt 0 v1 [2,0+i,0]=some (g,(o+(0+i)*8+0),sV ((zs.getD i e9).na)))/\Br (((zs.getD i e9).na)==d) (Q (iN i) (iV (gV zs d))/\Er gt v1) (m8 ((i:Int)+1)/\∃ b7:Nat,(b7<=zs.length/\∀ j,j<b7->((zs.getD j e9).na==d)=false)/\(zs.length-b7<zs.length-i)/\E (sV d)/\E (.ptr (.key 2) [] g2 0)/\Q (iN (i+1)) (iN b7)/\Er g2 v2/\Er gt v1/\True)) (Q (iV (-1)) (iV (gV zs d))/\Er gt v1))) (.agg [sV n,iV a7,.hd (.key 1000) [2] 8 g o 0 ((zs.map aB).length) c,.a8,.a8])) (bL n a7 zs g o c se ls)) ?_
 intro g2
 refine⟨⟨0,?_,rfl,rfl,rfl,rfl,rfl,trivial⟩,?_⟩
 simp
 rintro i ⟨h1,h2⟩
 refine⟨rfl,?_⟩
 refine bI (fun j7=>?_) fun j7=>?_
 refine⟨rfl,Z2,(aS (f:=2) rfl).trans (aI (by rw[Y0];exact aj (d:=e9) Z9) rfl),?_⟩
 refine bI (fun l6=>?_) fun l6=>?_
 refine⟨?_,rfl⟩
 unfold Q
 rw[IJ Z9 l6 h2]
 refine⟨Z9,?_⟩
 refine⟨i+1,?_,?_,rfl,rfl,rfl,rfl,rfl,trivial⟩
 exact⟨Z9,bS h2 (by simpa using l6)⟩
 exact Z1
 refine⟨?_,rfl⟩
 unfold Q
 rw[Jo (fun j hj=>h2 j Z9)])
abbrev Mv(p0:BL)(p1:Int)(p2:Bool)(p3:List BL)(p4:List s6)(p5:Nat)(p6:Int)(p7:List u7)(p8:Nat)(p9:Nat)(Qg:Nat):V:=.agg [sV p0,iV p1,bV p2,.agg [.sl false (p3.map sV),.sl false (p4.map au),iN p5],iV p6,.own 2 (p7.map ai) p8 p9 Qg]
theorem xW{zs:List j9}{d:BL}(h:0<=gV zs d):r7 zs d<zs.length:=by
 unfold gV at h
 split at h
 assumption
 omega
theorem LP{se:List BL}{a:BL}(h:(aw a).isSome=false\/60<=(se.length:Int)): ¬ dq se a:=fun c=>by
 rcases h with e | e
 have:=c.1;unfold az at this;rw[e]at this;cases this
 have:=c.2.1;omega
theorem Kp{se:List BL}{a:BL}{i:Nat}(h:∀ j,j<i->((se.getD j [])==a)=false)(hi:se.length<=i):a ∉ se:=fun hm=>by
 obtain⟨j,hj,e⟩:=Zk.1 hm
 have:=h j Z9
 rw[YQ,YX hj]at this
 simp[e]at this
theorem Ly{zs:List j9}{n a:BL}{se:List BL}(hr:dq se a)(h:((ax zs (ab a) n).getD (r7 zs (ab a)) e9).kn=false):aQ n zs se a=(ax zs (ab a) n).set (r7 zs (ab a)) { (ax zs (ab a) n).getD (r7 zs (ab a)) e9 with td:=((ax zs (ab a) n).getD (r7 zs (ab a)) e9).td++[⟨a,0⟩] }:=by
 unfold aQ
 rw[if_pos hr]
 unfold ba
 rw[if_neg (fun c=>by rw[h]at c;cases c.1)]
theorem lh3{zs:List j9}{n a:BL}{se:List BL}(hr:dq se a)(h:gV zs (oA (aw a)).c5<0):aQ n zs se a=(zs++[(bM (oA (aw a)).c5 n)]).set zs.length { (zs++[(bM (oA (aw a)).c5 n)]).getD zs.length e9 with td:=((zs++[(bM (oA (aw a)).c5 n)]).getD zs.length e9).td++[⟨a,0⟩] }:=by
 have e1:ax zs (ab a) n=zs++[bM (oA (aw a)).c5 n]:=by
  unfold ax gV at *
  split at h
  omega
  rw[if_neg (by assumption)];rfl
 have e2:r7 zs (ab a)=zs.length:=by
  have:=List.findIdx_le_length (p:=fun h:j9=>h.na==(oA (aw a)).c5) (xs:=zs)
  unfold gV at h
  split at h
  omega
  rename_i c;show r7 zs (oA (aw a)).c5=_;unfold r7 at *;omega
 rw[Ly hr (by rw[e1,e2];simp[bM]),e1,e2]
theorem lh4{zs:List j9}{n a:BL}{se:List BL}(hr:dq se a)(h:0<=gV zs (oA (aw a)).c5)(hk:(zs.getD (r7 zs (oA (aw a)).c5) e9).kn=false):aQ n zs se a=zs.set (r7 zs (oA (aw a)).c5) { zs.getD (r7 zs (oA (aw a)).c5) e9 with td:=(zs.getD (r7 zs (oA (aw a)).c5) e9).td++[⟨a,0⟩] }:=by
 have hl:r7 zs (ab a)<zs.length:=xW h
 have e1:ax zs (ab a) n=zs:=by unfold ax;rw[if_pos hl]
 rw[Ly hr (by rw[e1];exact hk),e1]
 rfl
theorem CB{zs:List j9}{d:BL}(h:0<=gV zs d):iV (gV zs d)=iV ((r7 zs d:Nat):Int):=by
 unfold gV at h ⊢
 split at h
 rename_i c;rw[if_pos c]
 omega
abbrev iT(n:BL)(a7:Int)(zs:List j9)(se:List BL)(ls:List l7)(a:BL):V:=bz n a7 (aQ n zs se a) (ct se a) ls
def xk(n:BL)(a7:Int)(zs:List j9)(se:List BL)(ls:List l7)(a:BL):o6 Tryz.prog:=.mk 60 [bz n a7 zs se ls,sV a] [] ((zs.length<=1000)/\(se.length<=1000)/\(a.length<=1000)/\(az a=true)/\(∀ y,y∈zs->y.td.length<=1000/\y.kn=false)) (iT n a7 zs se ls a) [] (by
 rintro⟨hl,N5,ha,hk,hg⟩
 refine av (N:=83) (rs:=[.cell 4 30]) Tryz.func60
  (.cu bmC (fun g2=>.al eR (fun g4=>.oR (.key 2) [3] (fun gs os cs=>.oR (.key 2) [2] (fun g o c=>.q 1<|.loop (Nat) (fun (i:Nat)=>⟨[(1,sV a),(2,.ptr (.key 2) [] g2 0),(4,.ptr (.key 4) [] g4 0),(5,iN i)],[(2,(g2,.agg [sV n,iV a7,.own 8 (zs.map aB) g o c,.own 1 (se.map sV) gs os cs,.ow 3 (ls.map aO)])),(4,(g4,.agg [sV [],iN 0,.sl true [],.sl true [],.sl true []]))]⟩) (fun (i:Nat)=>i<=se.length/\∀ j,j<i->((se.getD j [])==a)=false) (fun (i:Nat)=>se.length-i) (fun (i:Nat)=>.r 5 [.a8]<|.br (.r 7 [.a8,sV (se.getD i [])]<|.br (.mv<|.st none<|.nil) (.q 3<|.nil)) (.q 1<|.c (mh a) []<|.q 3<|.al dg (fun g6=>.st none<|.q 1<|.r 8 [.a8]<|.br (.mv<|.st none<|.nil) (.r 3 [.a8]<|.bs<|.ap (fun UH Uk UM=>.h (.o4 42 (.own 1 ((se++[a]).map sV) UH Uk UM))<|.q 1<|.st none<|.r 3 [.a8,.a8]<|.c (uo n a7 zs (se++[a]) ls g2 g o c ((oA (aw a)).c5)) [(1000,2)]<|.q 1<|.q 2<|.join ((List j9×Nat)×Nat×Nat×Nat) (fun x=>⟨[(1,sV a),(2,.ptr (.key 2) [] g2 0),(4,.ptr (.key 4) [] g4 0),(8,iN x.1.2)],[(2,(g2,bL n a7 x.1.1 x.2.1 x.2.2.1 x.2.2.2 (se++[a]) ls)),(4,(g4,.agg [sV [],iN 0,.sl true [],.sl true [],.sl true []]))]⟩) (fun x=>x.1.2<x.1.1.length/\(x.1.1.getD x.1.2 e9).td.length<=1000/\aQ n zs se a=x.1.1.set x.1.2 { x.1.1.getD x.1.2 e9 with td:=(x.1.1.getD x.1.2 e9).td++[⟨a,0⟩] }) (.r 6 [.a8,.a8,.a8]<|.bs<|.bs<|.bd jt<|.bd GS<|.bs<|.ap (fun NA Nq Oi=>.h (.o4 61 (.own 8 (zs.map aB++[(.agg [sV ((oA (aw a)).c5),iN 0,bV false,.agg [.sl true [sV n],.sl true [],iN 0],iN 0,.sl true []]:V)]) NA Nq Oi))<|.h (.PX (.slot 61) [zs.length,5] NA (Nq+(zs.length)*8+7) 2)<|.h (.o4 61 (.own 8 (zs.map aB++[(.agg [sV ((oA (aw a)).c5),iN 0,bV false,.agg [.sl true [sV n],.sl true [],iN 0],iN 0,.own 2 ([].map ai) 0 0 0]:V)]) NA Nq Oi))<|.h (.PV (.slot 61) [zs.length] NA (Nq+(zs.length)*8) (.agg [sV ((oA (aw a)).c5),iN 0,bV false,.agg [.sl true [sV n],.sl true [],iN 0],iN 0,.own 2 ([].map ai) 0 0 0]) (.agg [sV ((oA (aw a)).c5),iV 0,bV false,.agg [.sl false ([n].map sV),.sl false ([].map au),iN 0],iV 0,.ow 2 ([].map ai)]))<|.h (.o4 61 (.own 8 (zs.map aB++[(.agg [sV ((oA (aw a)).c5),iV 0,bV false,.agg [.sl false ([n].map sV),.sl false ([].map au),iN 0],iV 0,.ow 2 ([].map ai)]:V)]) NA Nq Oi))<|.h (.o4 61 (.own 8 ((zs++[(bM (oA (aw a)).c5 n)]).map aB) NA Nq Oi))<|.q 1<|.st none<|.r 4 [.a8]<|.h (.o4 66 (iN zs.length))<|.q 1<|.nil)) (.h (.o4 47 (iN (r7 zs (oA (aw a)).c5)))<|.h (.o4 8 (iN (r7 zs (oA (aw a)).c5)))<|.h (.o4 48 (iN (r7 zs (oA (aw a)).c5)))<|.nil) (fun x=>.ex (j9) (fun y=>(x.1.1.getD x.1.2 e9)=y) (fun (y:j9)=>.h (.B0 2 (da n a7 x.1.1 x.1.2 y.na y.re y.kn y.gr.na y.gr.ru y.gr.wa y.tr y.td x.2.1 x.2.2.1 x.2.2.2 (se++[a]) ls))<|.QA (.key 2) [2,x.1.2,5] x.2.1 (x.2.2.1+(x.1.2)*8+7) 2 (y.td.map ai) (fun ga Qh ca=>.h (.B0 2 (bw n a7 x.1.1 x.1.2 y.na y.re y.kn y.gr.na y.gr.ru y.gr.wa y.tr y.td ga Qh ca x.2.1 x.2.2.1 x.2.2.2 (se++[a]) ls))<|.dx 13 [0,1,2,3,4,5,6,7,8,9,10,11,12] [(1,⟨false,[],some [1000202],[68],[]⟩),(4,⟨false,[],some [2],[71],[]⟩),(8,⟨false,[],some [2],[75],[]⟩),(12,⟨true,[],none,[79],[2,1000202]⟩)] []<|.q 1<|.r 1 [.a8]<|.q 1<|.q 1<|.r 1 [.a8]<|.q 1<|.q 1<|.q 1<|.r 1 [.own 2 (y.td.map ai) ga Qh ca]<|.q 1<|.bd tc<|.bs<|.eu (Wt 2 [2,0+x.1.2,5] (y.td.map ai) ([.agg [sV a,iN 0]]:List V) x.2.1 (x.2.2.1+(0+x.1.2)*8+7) 2 ga Qh ca) (fun L7=>.h (.B0 2 (mA n a7 x.1.1 x.1.2 y.na y.re y.kn y.gr.na y.gr.ru y.gr.wa y.tr x.2.1 x.2.2.1 x.2.2.2 (se++[a]) ls))<|.h (.o4 79 (.own 2 ((y.td++[(⟨a,0⟩:u7)]).map ai) L7.1 L7.2.1 L7.2.2))<|.q 2<|.st (some (.a8))<|.h (.B0 2 (bw n a7 x.1.1 x.1.2 y.na y.re y.kn y.gr.na y.gr.ru y.gr.wa y.tr (y.td++[(⟨a,0⟩:u7)]) L7.1 L7.2.1 L7.2.2 x.2.1 x.2.2.1 x.2.2.2 (se++[a]) ls))<|.h (.PV (.key 2) [2,x.1.2,5] x.2.1 (x.2.2.1+(x.1.2)*8+7) (.own 2 ((y.td++[(⟨a,0⟩:u7)]).map ai) L7.1 L7.2.1 L7.2.2) (.ow 2 ((y.td++[(⟨a,0⟩:u7)]).map ai)))<|.h (.B0 2 (da n a7 x.1.1 x.1.2 y.na y.re y.kn y.gr.na y.gr.ru y.gr.wa y.tr (y.td++[(⟨a,0⟩:u7)]) x.2.1 x.2.2.1 x.2.2.2 (se++[a]) ls))<|.h (.B0 2 (bL n a7 (x.1.1.set x.1.2 ({ y with td:=y.td++[⟨a,0⟩] }:j9)) x.2.1 x.2.2.1 x.2.2.2 (se++[a]) ls))<|.mv<|.st none<|.nil))))))))))))))
  ((fun v4:r8=>(fun v1:List V=>(fun v2:V=>(fun v3:V=>(fun v5:V=>(fun v6:List V=>(fun v7:V=>(fun v8:Int=>(fun v9:Bool=>(fun v10:V=>(((true=true)/\((bz n a7 zs se ls):V).isVal=true)/\∀ g2:Nat,(fun v11:V=> ∀ g4:Nat,(fun v12:V=> ∀ gs os cs:Nat,∀ g o c:Nat,(fun H5:V=>(∃ j6:Nat,(j6<=se.length/\∀ j,j<j6->((se.getD j [])==a)=false)/\E (sV a)/\E v11/\E v12/\Q (iN 0) (iN j6)/\Er g2 H5/\Er g4 v5/\True)/\∀ i:Nat,(i<=se.length/\∀ j,j<i->((se.getD j [])==a)=false)->Z g2 3/\Br (r9 (i:Int) (((se.map sV).length:Nat):Int)) (Z g2 3/\In (i:Int) ((se.map sV).length)/\(V.at g2 0 H5 [3,0+i]=some (gs,(os+(0+i)*1),sV (se.getD i [])))/\Br ((se.getD i [])==a) (Z g2 0/\Z g4 0/\(g4=g4)/\Q (bz n a7 zs se ls) (iT n a7 zs se ls a)) (m8 ((i:Int)+1)/\∃ b7:Nat,(b7<=se.length/\∀ j,j<b7->((se.getD j [])==a)=false)/\(se.length-b7<se.length-i)/\E (sV a)/\E v11/\E v12/\Q (iN (i+1)) (iN b7)/\Er g2 H5/\Er g4 v5/\True)) ((mh a).sm/\((a.length<=4611686018427387904))/\∀ g6:Nat,Z g6 0/\Gd (v9==false) (Z g2 3)/\Pk v9 true (v9==false)/\Br (v9||(z6 (((se.map sV).length:Nat):Int) 60)) (Z g2 0/\Z g4 0/\(g4=g4)/\Q (bz n a7 zs se ls) (iT n a7 zs se ls a)) (Z g2 3/\((1,1,gs,os,cs,(se.map sV).length)=(1,1,gs,os,cs,(se.map sV).length))/\(True)/\(V.aE ([sV a]:List V)=false)/\(aJ 1 ([sV a]:List V))/\(((se.map sV).length+([sV a]:List V).length)*16<=140737488355328)/\∀ UH Uk UM:Nat,((.own 1 ((se.map sV)++([sV a]:List V)) UH Uk UM:V)=.own 1 ((se++[a]).map sV) UH Uk UM)/\Z g2 3/\Z g2 0/\Z g6 0/\(uo n a7 zs (se++[a]) ls g2 g o c (v4.c5)).sm/\Er g2 (bL n a7 zs g o c (se++[a]) ls)/\((zs.length<=1000))/\((r9 (gV zs (v4.c5)) 0)=true->Z g2 2/\Z g6 0/\Z g2 0/\((8,8,g,o,c,(zs.map aB).length)=(8,8,g,o,c,(zs.map aB).length))/\(True)/\(V.aE v1=false)/\(aJ 8 v1)/\(((zs.map aB).length+v1.length)*120<=140737488355328)/\∀ NA Nq Oi:Nat,((.own 8 ((zs.map aB)++v1) NA Nq Oi:V)=.own 8 (zs.map aB++[v3]) NA Nq Oi)/\(V.at NA Nq (.own 8 (zs.map aB++[v3]) NA Nq Oi) [zs.length,5]=some (NA,Nq+(zs.length)*8+7,.sl true []))/\(V.set (.own 8 (zs.map aB++[v3]) NA Nq Oi) [zs.length,5] (.own 2 ([].map ai) 0 0 0)=.own 8 (zs.map aB++[v2]) NA Nq Oi)/\(V.at NA Nq (.own 8 (zs.map aB++[v2]) NA Nq Oi) [zs.length]=some (NA,Nq+(zs.length)*8,.agg [sV (v4.c5),iN 0,bV false,.agg [.sl true [sV n],.sl true [],iN 0],iN 0,.own 2 ([].map ai) 0 0 0]))/\(V.set (.own 8 (zs.map aB++[v2]) NA Nq Oi) [zs.length] (.agg [sV (v4.c5),iV 0,bV false,.agg [.sl false ([n].map sV),.sl false ([].map au),iN 0],iV 0,.ow 2 ([].map ai)])=.own 8 (zs.map aB++[v7]) NA Nq Oi)/\((.own 8 (zs.map aB++[v7]) NA Nq Oi:V)=.own 8 ((zs++[(bM v4.c5 n)]).map aB) NA Nq Oi)/\Z g2 2/\Z g2 2/\m8 (v8-1)/\Q (iV (v8-1)) (iN zs.length)/\∃ x:(List j9×Nat)×Nat×Nat×Nat,(x.1.2<x.1.1.length/\(x.1.1.getD x.1.2 e9).td.length<=1000/\aQ n zs se a=x.1.1.set x.1.2 { x.1.1.getD x.1.2 e9 with td:=(x.1.1.getD x.1.2 e9).td++[⟨a,0⟩] })/\E (sV a)/\E v11/\E v12/\Q (iN zs.length) (iN x.1.2)/\Qr g2 (bL n a7 (zs++[(bM v4.c5 n)]) NA Nq Oi (se++[a]) ls) g2 (bL n a7 x.1.1 x.2.1 x.2.2.1 x.2.2.2 (se++[a]) ls)/\Er g4 v5/\True)/\((r9 (gV zs (v4.c5)) 0)=false->(v10=iN (r7 zs v4.c5))/\(v10=iN (r7 zs v4.c5))/\(v10=iN (r7 zs v4.c5))/\∃ x:(List j9×Nat)×Nat×Nat×Nat,(x.1.2<x.1.1.length/\(x.1.1.getD x.1.2 e9).td.length<=1000/\aQ n zs se a=x.1.1.set x.1.2 { x.1.1.getD x.1.2 e9 with td:=(x.1.1.getD x.1.2 e9).td++[⟨a,0⟩] })/\E (sV a)/\E v11/\E v12/\Q (iN (r7 zs v4.c5)) (iN x.1.2)/\Qr g2 (bL n a7 zs g o c (se++[a]) ls) g2 (bL n a7 x.1.1 x.2.1 x.2.2.1 x.2.2.2 (se++[a]) ls)/\Er g4 v5/\True)/\(∀ x:(List j9×Nat)×Nat×Nat×Nat,(x.1.2<x.1.1.length/\(x.1.1.getD x.1.2 e9).td.length<=1000/\aQ n zs se a=x.1.1.set x.1.2 { x.1.1.getD x.1.2 e9 with td:=(x.1.1.getD x.1.2 e9).td++[⟨a,0⟩] })->(∃ y:j9,(x.1.1.getD x.1.2 e9)=y)/\∀ y:j9,((x.1.1.getD x.1.2 e9)=y)->(fun M':V=>(fun NS:V=>((bL n a7 x.1.1 x.2.1 x.2.2.1 x.2.2.2 (se++[a]) ls:V)=da n a7 x.1.1 x.1.2 y.na y.re y.kn y.gr.na y.gr.ru y.gr.wa y.tr y.td x.2.1 x.2.2.1 x.2.2.2 (se++[a]) ls)/\(V.at g2 0 M' [2,x.1.2,5]=some (x.2.1,x.2.2.1+(x.1.2)*8+7,.ow 2 (y.td.map ai)))/\∀ ga Qh ca:Nat,(fun N9:V=>(fun Py:V=>(V.set M' [2,x.1.2,5] (.own 2 (y.td.map ai) ga Qh ca)=bw n a7 x.1.1 x.1.2 y.na y.re y.kn y.gr.na y.gr.ru y.gr.wa y.tr y.td ga Qh ca x.2.1 x.2.2.1 x.2.2.2 (se++[a]) ls)/\Z g2 2/\Z g2 2/\In (x.1.2:Int) (((x.1.1.take x.1.2).map aB++Py::(x.1.1.drop (x.1.2+1)).map aB).length)/\(V.at g2 0 N9 [2,0+x.1.2,5]=some (x.2.1,(x.2.2.1+(0+x.1.2)*8+7),.own 2 (y.td.map ai) ga Qh ca))/\(v6=v6/\((.hd (.key 2) [2,0+x.1.2,5] 2 ga Qh 0 ((y.td.map ai).length) ca:V)=.hd (.key 2) [2,0+x.1.2,5] 2 ga Qh 0 ((y.td.map ai).length) ca)/\(V.at g2 0 N9 [2,0+x.1.2,5]=some (x.2.1,x.2.2.1+(0+x.1.2)*8+7,.own 2 (y.td.map ai) ga Qh ca))/\((2:Nat)=2)/\(V.aE v6=false)/\(aJ 2 v6)/\(((y.td.map ai).length+v6.length)*24<=140737488355328))/\∀ L7:Nat×Nat×Nat,(fun OR:V=>(V.set N9 [2,0+x.1.2,5] (.a8)=mA n a7 x.1.1 x.1.2 y.na y.re y.kn y.gr.na y.gr.ru y.gr.wa y.tr x.2.1 x.2.2.1 x.2.2.2 (se++[a]) ls)/\((.own 2 ((y.td.map ai)++v6) L7.1 L7.2.1 L7.2.2:V)=.own 2 ((y.td++[(⟨a,0⟩:u7)]).map ai) L7.1 L7.2.1 L7.2.2)/\In (x.1.2:Int) (((x.1.1.take x.1.2).map aB++Py::(x.1.1.drop (x.1.2+1)).map aB).length)/\(V.at g2 0 NS [2,0+x.1.2,5]=some (x.2.1,(x.2.2.1+(0+x.1.2)*8+7),.a8))/\(V.set NS [2,0+x.1.2,5] (.own 2 ((y.td++[(⟨a,0⟩:u7)]).map ai) L7.1 L7.2.1 L7.2.2)=bw n a7 x.1.1 x.1.2 y.na y.re y.kn y.gr.na y.gr.ru y.gr.wa y.tr (y.td++[(⟨a,0⟩:u7)]) L7.1 L7.2.1 L7.2.2 x.2.1 x.2.2.1 x.2.2.2 (se++[a]) ls)/\(V.at g2 0 OR [2,x.1.2,5]=some (x.2.1,x.2.2.1+(x.1.2)*8+7,.own 2 ((y.td++[(⟨a,0⟩:u7)]).map ai) L7.1 L7.2.1 L7.2.2))/\(V.set OR [2,x.1.2,5] (.ow 2 ((y.td++[(⟨a,0⟩:u7)]).map ai))=da n a7 x.1.1 x.1.2 y.na y.re y.kn y.gr.na y.gr.ru y.gr.wa y.tr (y.td++[(⟨a,0⟩:u7)]) x.2.1 x.2.2.1 x.2.2.2 (se++[a]) ls)/\((da n a7 x.1.1 x.1.2 y.na y.re y.kn y.gr.na y.gr.ru y.gr.wa y.tr (y.td++[(⟨a,0⟩:u7)]) x.2.1 x.2.2.1 x.2.2.2 (se++[a]) ls:V)=bL n a7 (x.1.1.set x.1.2 ({ y with td:=y.td++[⟨a,0⟩] }:j9)) x.2.1 x.2.2.1 x.2.2.2 (se++[a]) ls)/\Z g2 0/\Z g4 0/\(g4=g4)/\Q (bz n a7 (x.1.1.set x.1.2 ({ y with td:=y.td++[⟨a,0⟩] }:j9)) (se++[a]) ls) (iT n a7 zs se ls a)) (bw n a7 x.1.1 x.1.2 y.na y.re y.kn y.gr.na y.gr.ru y.gr.wa y.tr (y.td++[(⟨a,0⟩:u7)]) L7.1 L7.2.1 L7.2.2 x.2.1 x.2.2.1 x.2.2.2 (se++[a]) ls)) (Mv y.na y.re y.kn y.gr.na y.gr.ru y.gr.wa y.tr y.td ga Qh ca:V)) (bw n a7 x.1.1 x.1.2 y.na y.re y.kn y.gr.na y.gr.ru y.gr.wa y.tr y.td ga Qh ca x.2.1 x.2.2.1 x.2.2.2 (se++[a]) ls)) (mA n a7 x.1.1 x.1.2 y.na y.re y.kn y.gr.na y.gr.ru y.gr.wa y.tr x.2.1 x.2.2.1 x.2.2.2 (se++[a]) ls)) (da n a7 x.1.1 x.1.2 y.na y.re y.kn y.gr.na y.gr.ru y.gr.wa y.tr y.td x.2.1 x.2.2.1 x.2.2.2 (se++[a]) ls))))) (.agg [sV n,iV a7,.own 8 (zs.map aB) g o c,.own 1 (se.map sV) gs os cs,.ow 3 (ls.map aO)])) (.ptr (.key 4) [] g4 0)) (.ptr (.key 2) [] g2 0))) (iV (gV zs (v4.c5)):V)) (!((aw a).isSome))) ((((zs++[(bM v4.c5 n)]).map aB).length:Nat):Int)) (.agg [sV (v4.c5),iV 0,bV false,.agg [.sl false ([n].map sV),.sl false ([].map au),iN 0],iV 0,.ow 2 ([].map ai)]:V)) ([.agg [sV a,iN 0]]:List V)) (.agg [sV [],iN 0,.sl true [],.sl true [],.sl true []])) (.agg [sV (v4.c5),iN 0,bV false,.agg [.sl true [sV n],.sl true [],iN 0],iN 0,.sl true []]:V)) (.agg [sV (v4.c5),iN 0,bV false,.agg [.sl true [sV n],.sl true [],iN 0],iN 0,.own 2 ([].map ai) 0 0 0]:V)) ([.agg [sV (v4.c5),iN 0,bV false,.agg [.sl true [sV n],.sl true [],iN 0],iN 0,.sl true []]]:List V)) (oA (aw a))) ?_
 refine⟨⟨rfl,rfl⟩,?_⟩
 intro g2
 intro g4
 intro gs os cs
 intro g o c
 refine⟨⟨0,?_,rfl,rfl,rfl,rfl,rfl,rfl,trivial⟩,?_⟩
 simp
 rintro i ⟨h1,h2⟩
 refine⟨rfl,?_⟩
 refine bI (fun j7=>?_) fun j7=>?_
 refine⟨rfl,Z2,(aS (f:=3) rfl).trans (aI (by rw[Y0];exact aj (d:=[]) Z9) rfl),?_⟩
 refine bI (fun l6=>?_) fun l6=>?_
 refine⟨rfl,rfl,?_⟩
 refine⟨rfl,?_⟩
 unfold Q iT
 have hr: ¬ dq se a:=fun c=>c.2.2 (by rw[<- l6];exact ay Z9)
 rw[oI hr,oM hr]
 refine⟨Z9,?_⟩
 refine⟨i+1,?_,?_,rfl,rfl,rfl,rfl,rfl,rfl,trivial⟩
 exact⟨Z9,bS h2 (by simpa using l6)⟩
 exact Z1
 refine⟨rfl,Z9,?_⟩
 intro g6
 refine⟨rfl,fun hG=>rfl,⟨fun _=>rfl,fun h=>by rw[h] <;> rfl⟩,?_⟩
 refine bI (fun n6=>?_) fun n6=>?_
 refine⟨rfl,rfl,?_⟩
 refine⟨rfl,?_⟩
 unfold Q iT
 have hr: ¬ dq se a:=LP n6
 rw[oI hr,oM hr]
 refine⟨rfl,rfl,trivial,rfl,by simp[aJ,V.n,V.ns],by(try simp only[YT,Y2,YV,YY]);(try have:=Wi);omega,?_⟩
 intro UH Uk UM
 refine⟨Zq (V.own 1 · UH Uk UM) Z8,rfl,?_⟩
 have hr:dq se a:=⟨hk,by have:=n6.2;omega,Kp h2 Z9⟩
 refine⟨rfl,rfl,rfl,rfl,hl,?_⟩
 refine⟨fun w6=>?_,fun w6=>?_,fun x hx=>?_⟩
 try simp only[nb]at w6
 refine⟨rfl,rfl,rfl,rfl,trivial,rfl,by simp[aJ,V.n,V.ns],by(try simp only[YT,Y2,YV,YY]);(try have:=Wi);omega,?_⟩
 intro NA Nq Oi
 refine⟨Zq (V.own 8 · NA Nq Oi) (rfl),aI (aX) rfl,aV (aX) (dw),gz aX,nD (aX) (dw),Zq (V.own 8 · NA Nq Oi) (by rw[Zf (f:=aB)];rfl),rfl,?_⟩
 have Yp:(zs++[(bM (oA (aw a)).c5 n)]).length=zs.length+1:=Z8
 refine⟨rfl,Z2,by unfold Q;refine Zq iV ?_;simp,?_⟩
 exact⟨((zs++[(bM (oA (aw a)).c5 n)],zs.length),NA,Nq,Oi),⟨Z8,by simp[bM],lh3 hr w6⟩,rfl,rfl,rfl,Z4,Z4,rfl,trivial⟩
 try simp only[nb]at w6
 refine⟨(CB w6),(CB w6),(CB w6),?_⟩
 exact⟨((zs,(r7 zs (oA (aw a)).c5)),g,o,c),⟨xW w6,(hg _ (ay (d:=e9) (xW w6))).1,lh4 hr w6 (hg _ (ay (d:=e9) (xW w6))).2⟩,rfl,rfl,rfl,Z4,Z4,rfl,trivial⟩
 have hlt:=hx.1
 have Wi:=hx.2.1
 refine⟨⟨_,rfl⟩,?_⟩
 intro y hy
 rw[hy]at Wi
 refine⟨Oe (Zq (V.own 8 · x.2.1 x.2.2.1 x.2.2.2) (splitN hy Z9)),(aS (f:=2) rfl).trans (aI (aK Z9) rfl),?_⟩
 intro ga Qh ca
 refine⟨dR (aV (aK Z9) (dc Z9)),rfl,rfl,by(try simp only[Y2]at *);try simp only[YT,YV,Y2,List.length_take,List.length_drop,YY]at *;omega,(aS (f:=2) rfl).trans (aI (by rw[Y0];exact aK Z9) rfl),⟨rfl,rfl,(aS (f:=2) rfl).trans (aI (by rw[Y0];exact aK Z9) rfl),rfl,rfl,by simp[aJ,V.n,V.ns],by(try simp only[YT,Y2,YV,YY]);(try have:=Wi);omega⟩,?_⟩
 intro L7
 refine⟨dR (aV (by rw[Y0];exact aK Z9) (by rw[Y0];exact dc Z9)),Zq (V.own 2 · L7.1 L7.2.1 L7.2.2) Z8,by(try simp only[Y2]at *);try simp only[YT,YV,Y2,List.length_take,List.length_drop,YY]at *;omega,(aS (f:=2) rfl).trans (aI (by rw[Y0];exact aK Z9) rfl),dR (aV (by rw[Y0];exact aK Z9) (by rw[Y0];exact dc Z9)),(aS (f:=2) rfl).trans (aI (aK Z9) rfl),dR (aV (aK Z9) (dc Z9)),Oe (Zq (V.own 8 · x.2.1 x.2.2.1 x.2.2.2) (lF (f:=aB) (x:=({ y with td:=y.td++[⟨a,0⟩] }:j9)) Z9)),rfl,rfl,?_⟩
 refine⟨rfl,?_⟩
 unfold Q iT
 rw[wy hr,hx.2.2,hy])
theorem zx{t:j8}{s:BL}(h:az s=false):ak t s=t:=by
 have hr: ¬ dq t.se s:=fun c=>by have:=c.1;rw[h]at this;cases this
 unfold ak
 rw[oI hr,oM hr]
abbrev kq(n:BL)(c9:List BL):V:=.tup [bz ((oT (aH n c9)).na) ((oT (aH n c9)).a7) ((oT (aH n c9)).hs) ((oT (aH n c9)).se) ((oT (aH n c9)).lk),bV ((aH n c9).isSome)]
def ue(n:BL)(c9:List BL):o6 Tryz.prog:=.mk 32 [sV n,ao c9] [] ((n.length<=1000)/\(c9.length<=1000)/\(∀ x,x∈c9->x.length<=1000/\m5 x)) (kq n c9) [] (by
 rintro⟨hn,hl,ha⟩
 refine av (N:=40) (rs:=[.cell 4 30,.tmp 5]) Tryz.func32
  (.al eR (fun g4=>.q 1<|.q 1<|.c (qa n) []<|.q 6<|.br (.bd eR<|.st none<|.q 1<|.h (.y7 (.key 4) [2] 8)<|.h (.y7 (.key 4) [3] 1)<|.h (.y7 (.key 4) [4] 3)<|.nil) (.q 1<|.bs<|.bs<|.bs<|.bd eR<|.al eR (fun g6=>.st none<|.h (.y7 (.key 6) [2] 8)<|.h (.y7 (.key 6) [3] 1)<|.h (.y7 (.key 6) [4] 3)<|.q 1<|.loop (Nat×(List j9)×(List BL)) (fun (i,zs,se)=>⟨[(1,ao c9),(4,.ptr (.key 4) [] g4 0),(6,.ptr (.key 6) [] g6 0),(7,iN i)],[(4,(g4,.agg [sV [],iN 0,.sl true [],.sl true [],.sl true []])),(6,(g6,lE n zs se (.ow 3 ([].map aO))))]⟩) (fun (i,zs,se)=>i<=c9.length/\zs=((c9.take i).foldl ak (aU n)).hs/\se=((c9.take i).foldl ak (aU n)).se) (fun (i,zs,se)=>c9.length-i) (fun (i,zs,se)=>.q 4<|.br (.r 4 [sV (c9.getD i [])]<|.c (jT (c9.getD i [])) []<|.br (.dx 5 [1,2,3,4,0] [(4,⟨false,[],some [],[37],[]⟩),(0,⟨true,[],none,[33],[6]⟩)] []<|.q 1<|.q 1<|.r 1 [sV (c9.getD i [])]<|.q 1<|.ux none (fun _ _ _=>.c (xk n (0:Int) zs se ([]:List l7) (c9.getD i [])) []<|.st none<|.q 3<|.nil)) (.q 3<|.nil)) (.mv<|.st none<|.q 1<|.nil))))))
  ((fun v1:V=>(fun v2:V=>(∀ g4:Nat,(qa n).sm/\((n.length<=4611686018427387904))/\Pk (!(bn n)) true ((!(bn n))==false)/\Br ((!(bn n))||(s9 (((c9.map sV).length:Nat):Int) 12)) (Z g4 0/\(g4=g4)/\Q (.tup [.agg [sV [],iN 0,.ow 8 ([].map aB),.ow 1 ([].map sV),.ow 3 ([].map aO)],bV false]) (kq n c9)) (∀ g6:Nat,Z g6 0/\(∃ x:Nat×(List j9)×(List BL),match x with | (j6,OG,OU)=>(j6<=c9.length/\OG=((c9.take j6).foldl ak (aU n)).hs/\OU=((c9.take j6).foldl ak (aU n)).se)/\E (ao c9)/\E (.ptr (.key 4) [] g4 0)/\E (.ptr (.key 6) [] g6 0)/\Q (iN 0) (iN j6)/\Er g4 v1/\Qr g6 (.agg [sV n,iN 0,.ow 8 ([].map aB),.ow 1 ([].map sV),.ow 3 ([].map aO)]) g6 (lE n OG OU v2)/\True)/\∀ x:Nat×(List j9)×(List BL),match x with | (i,zs,se)=>(i<=c9.length/\zs=((c9.take i).foldl ak (aU n)).hs/\se=((c9.take i).foldl ak (aU n)).se)->Br (r9 (i:Int) (((c9.map sV).length:Nat):Int)) (Ex (i:Int) (c9.map sV) (sV (c9.getD i []))/\True/\(jT (c9.getD i [])).sm/\(((c9.getD i []).length<=4611686018427387904))/\Br (az (c9.getD i [])) (Ex (i:Int) (c9.map sV) (sV (c9.getD i []))/\True/\(((g6:Nat),(0:Nat))=(g6,0))/\∀ _ _ _:Nat,(xk n (0:Int) zs se ([]:List l7) (c9.getD i [])).sm/\((zs.length<=1000)/\(se.length<=1000)/\((c9.getD i []).length<=1000)/\(az (c9.getD i [])=true)/\(∀ y,y∈zs->y.td.length<=1000/\y.kn=false))/\Z g6 0/\m8 ((i:Int)+1)/\∃ x:Nat×(List j9)×(List BL),match x with | (b7,Nn,Np)=>(b7<=c9.length/\Nn=((c9.take b7).foldl ak (aU n)).hs/\Np=((c9.take b7).foldl ak (aU n)).se)/\(c9.length-b7<c9.length-i)/\E (ao c9)/\E (.ptr (.key 4) [] g4 0)/\E (.ptr (.key 6) [] g6 0)/\Q (iN (i+1)) (iN b7)/\Er g4 v1/\Qr g6 (bz n (0:Int) (aQ n zs se (c9.getD i [])) (ct se (c9.getD i [])) ([]:List l7)) g6 (lE n Nn Np v2)/\True) (m8 ((i:Int)+1)/\∃ x:Nat×(List j9)×(List BL),match x with | (b7,Nn,Np)=>(b7<=c9.length/\Nn=((c9.take b7).foldl ak (aU n)).hs/\Np=((c9.take b7).foldl ak (aU n)).se)/\(c9.length-b7<c9.length-i)/\E (ao c9)/\E (.ptr (.key 4) [] g4 0)/\E (.ptr (.key 6) [] g6 0)/\Q (iN (i+1)) (iN b7)/\Er g4 v1/\Qr g6 (lE n zs se v2) g6 (lE n Nn Np v2)/\True)) (Z g6 0/\Z g4 0/\(g4=g4)/\Q (.tup [lE n zs se v2,bV true]) (kq n c9))))) (.ow 3 ([].map aO))) (.agg [sV [],iN 0,.sl true [],.sl true [],.sl true []])) ?_
 intro g4
 refine⟨rfl,Z9,⟨fun _=>rfl,fun h=>by rw[h] <;> rfl⟩,?_⟩
 refine bI (fun j7=>?_) fun j7=>?_
 refine⟨rfl,?_⟩
 refine⟨rfl,?_⟩
 unfold Q kq
 rw[DK j7];rfl
 intro g6
 refine⟨rfl,?_⟩
 refine⟨⟨(0,[],[]),?_,rfl,rfl,rfl,rfl,rfl,Z4,trivial⟩,?_⟩
 exact⟨Z8,rfl,rfl⟩
 rintro⟨i,zs,se⟩ ⟨h1,h2,h3⟩
 have MS:=kU n (c9.take i) (lV n)
 rw[List.length_take]at MS
 refine bI (fun l6=>?_) fun l6=>?_
 have hm:=ha _ (ng (show i<c9.length by omega))
 refine⟨⟨Z9,aj (d:=[]) Z9⟩,trivial,rfl,Z5,?_⟩
 refine bI (fun n6=>?_) fun n6=>?_
 refine⟨⟨Z9,aj (d:=[]) Z9⟩,trivial,rfl,?_⟩
 intro _ _ _
 refine⟨rfl,⟨by rw[h2];have:=MS.hl;omega,by rw[h3];have:=MS.sl;omega,hm.1,n6,fun y hy=>by rw[h2]at hy;obtain⟨a1,a2,a3,_⟩:=MS.hs y hy;exact⟨Z9,a1⟩⟩,rfl,Z9,?_⟩
 refine⟨(i+1,(aQ n zs se (c9.getD i [])),(ct se (c9.getD i []))),?_,?_,rfl,rfl,rfl,rfl,rfl,Z4,trivial⟩
 rw[foldl_succ (d:=[]) Z9]
 first
 | (rw[h2,h3];exact⟨Z9,by show _=aQ ((c9.take i).foldl ak (aU n)).na ((c9.take i).foldl ak (aU n)).hs ((c9.take i).foldl ak (aU n)).se _;rw[MS.na],rfl⟩)
 | (rw[zx n6];exact⟨Z9,h2,h3⟩)
 exact Z1
 refine⟨Z9,?_⟩
 refine⟨(i+1,zs,se),?_,?_,rfl,rfl,rfl,rfl,rfl,rfl,trivial⟩
 rw[foldl_succ (d:=[]) Z9]
 first
 | (rw[h2,h3];exact⟨Z9,by show _=aQ ((c9.take i).foldl ak (aU n)).na ((c9.take i).foldl ak (aU n)).hs ((c9.take i).foldl ak (aU n)).se _;rw[MS.na],rfl⟩)
 | (rw[zx n6];exact⟨Z9,h2,h3⟩)
 exact Z1
 refine⟨rfl,rfl,?_⟩
 refine⟨rfl,?_⟩
 unfold Q kq
 rw[Y3 Z9]at h2 h3 MS
 rw[De j7,h2,h3]
 refine Zq (fun r:V=>V.tup [r,bV true]) ?_
 show V.agg _=xQ (c9.foldl ak (aU n))
 rw[xQ,MS.na,MS.a7,MS.lk])
def gN:BL:=[47,110,111,116,105,99,101]
theorem nZ{d:BL}(h:cM d=true):aw (ag d)=some ⟨d,[[110,111,116,105,99,101]],false,[]⟩:=by
 have hl:d.length<=5:=by
  unfold cM A7 at h
  rw[YS]at h
  have:=of_decide_eq_true h.2
  omega
 have e:aG ⟨d,[[110,111,116,105,99,101]],false,[]⟩=true:=by
  unfold aG
  simp only[h,YS,Zo]
  refine⟨⟨⟨⟨⟨trivial,Z8⟩,Z6⟩,Z6⟩,Z6⟩,?_⟩
  simp[cJ,bj,ck];omega
 have:=ry e
 rw[<- this]
 congr 1
theorem Hf{d:BL}(h:cM d=true):az (ag d)=true:=wC (by rw[nZ h];rfl) (by rw[nZ h];rfl)
theorem pI{d:BL}(h:cM d=true):ab (ag d)=d:=by unfold ab;rw[nZ h];rfl
theorem Di{d:BL}(h:cM d=true):pathOf (ag d)=gN:=by unfold pathOf;rw[nZ h];rfl
theorem fo{s:BL}(h:az s=true):(aw s).isSome=true:=by unfold az at h;rw[YS]at h;exact h.1
theorem xl{s:BL}(h:az s=true):cM (ab s)=true:=(eV (gU (fo h))).1
def cls(L:List l7)(d:BL):List Int:=(L.filter fun l=>ab l.ad==d).map (·.ti)
def Qv(L:List l7)(a:BL):List l7:=L.filter fun l=>l.ad==a
structure QL (w:List Pg) (L:List l7) (l:l7):Prop where
 once:pathOf l.ad≠gN->(∀ q,q∈L->q.ad=l.ad->q.ki=3)/\(Qv L l.ad).length<3
 door:(∀ q,q∈L->ab q.ad≠ab l.ad)->pathOf l.ad=gN
 fail:∀ q,q∈L->ab q.ad=ab l.ad->q.ki=3->q.ti+3<=l.ti
 kind:∃ m,l.ki=(af w l.ad m).1
 rd:az l.ad=true
 tm:0<=l.ti/\l.ti<=5000
def CA(w:List Pg)(L:List l7):Prop:= ∀ k,k<L.length->QL w (L.take k) (L.getD k l4)
theorem CA.snoc{w:List Pg}{L:List l7}{l:l7}(h:CA w L)(q:QL w L l):CA w (L++[l]):=fun k hk=>by
 rw[YT,Zj]at hk
 rcases Nat.lt_or_ge k L.length with c | c
 have:=h k c
 rw[List.take_append_of_le_length Z9,YQ,Zd c,<- YQ]
 exact this
 have e:k=L.length:=Z9
 subst e
 rw[List.take_left,YQ,Y8 (Zg _)]
 simpa using q
structure HI (L:List l7) (se:List BL) (y:j9):Prop where
 hn:cM y.na=true
 it:∀ x,x∈y.td->az x.ad=true/\ab x.ad=y.na/\x.ad∈se/\0<=x.tr/\x.tr<=2/\(pathOf x.ad≠gN->(∀ q,q∈L->q.ad=x.ad->q.ki=3)/\((Qv L x.ad).length:Int)=x.tr)
 nd:(y.td.map (·.ad)).Nodup
 gl:y.gr.na.length<=1
 un:y.kn=false->0<=y.tr/\y.tr<=2/\y.gr.wa=0/\y.gr.ru=[]/\((cls L y.na).length:Int)=y.tr
 kn:y.kn=true->cls L y.na≠[]
 re:∀ q,q∈L->ab q.ad=y.na->q.ti+1<=y.re/\(q.ki=3->q.ti+3<=y.re)/\q.ti+(y.gr.wa:Int)<=y.re
 wt:∀ k,k+1<(cls L y.na).length->(cls L y.na).getD k 0+1<=(cls L y.na).getD (k+1) 0/\(3<=k->(cls L y.na).getD k 0+(y.gr.wa:Int)<=(cls L y.na).getD (k+1) 0)
def Ns(l:List u7):Int:=(l.map fun x=>3-x.tr).sum
def hp(y:j9):Int:=(if y.kn=true then 0 else 3-y.tr)+Ns y.td
structure GI (w:List Pg) (n:BL) (t:j8):Prop where
 na:t.na=n
 al:CA w t.lk
 se:∀ s,s∈t.se->az s=true
 sn:t.se.Nodup/\t.se.length<=60
 nd:(t.hs.map (·.na)).Nodup
 hi:∀ y,y∈t.hs->HI t.lk t.se y
 lh:∀ q,q∈t.lk->(∃ y,y∈t.hs/\y.na=ab q.ad)/\(pathOf q.ad=gN\/q.ad∈t.se)
 po:(t.lk.length:Int)+(t.hs.map hp).sum<=3*((t.se.length:Int)+t.hs.length)
 hl:t.hs.length<=t.se.length
 no:0<=t.a7
theorem zQ{l:List u7}(h:∀ x,x∈l->x.tr<=2):0<=Ns l:=by
 induction l with
 | nil=>simp[Ns]
 | cons a l ih=>
   have h1:=ih fun x hx=>h x (List.mem_cons_of_mem _ hx)
   have h2:=h a Z8
   simp only[Ns,Zi,List.sum_cons]at h1 ⊢
   omega
theorem BV{l:List u7}(p:u7->Bool)(h:∀ x,x∈l->x.tr<=2):Ns (l.filter p)<=Ns l:=by
 induction l with
 | nil=>simp[Ns]
 | cons a l ih=>
   have h1:=ih fun x hx=>h x (List.mem_cons_of_mem _ hx)
   have h2:=h a Z8
   rw[List.filter_cons]
   split
   simp only[Ns,Zi,List.sum_cons]at h1 ⊢;omega
   simp only[Ns,Zi,List.sum_cons]at h1 ⊢;omega
theorem Bm(l r:List u7):Ns (l++r)=Ns l+Ns r:=by
 unfold Ns
 rw[Zf,List.sum_append]
theorem xh{l:List u7}(h:l≠[]):Ns l=(3-(l.getD 0 l3).tr)+Ns (l.drop 1):=by
 cases l with
 | nil=>exact absurd rfl h
 | cons a l=>simp[Ns]
theorem vT{f:j9->Int}{a:j9}:∀ {l:List j9} {i:Nat},i<l.length->((l.set i a).map f).sum=(l.map f).sum-f (l.getD i e9)+f a
 | [],i,h=>by simp at h
 | b::l,0,h=>by simp;omega
 | b::l,i+1,h=>by
   have:=vT (f:=f) (a:=a) (l:=l) (i:=i) (by simpa using h)
   simp only[List.set_cons_succ,Zi,List.sum_cons,List.getD_cons_succ,this];omega
theorem vt{f:j9->Int}:∀ {l:List j9},(∀ y,y∈l->0<=f y)->0<=(l.map f).sum
 | [],_=>by simp
 | a::l,h=>by
   have h1:=vt (f:=f) (l:=l) fun y hy=>h y (List.mem_cons_of_mem _ hy)
   have h2:=h a Z8
   simp only[Zi,List.sum_cons];omega
theorem iU{l:List j9}{i:Nat}{a y:j9}(hn:(l.map (·.na)).Nodup)(hi:i<l.length)(h:y∈l.set i a):y=a\/(y∈l/\y.na≠(l.getD i e9).na):=by
 obtain⟨j,hj,e⟩:=Zk.1 h
 rw[List.getElem_set]at e
 split at e
 exact .inl e.symm
 rename_i hne
 rw[List.length_set]at hj
 refine .inr ⟨by rw[<- e];exact List.getElem_mem _,fun c=>hne ?_⟩
 rw[YQ,YX hi]at c
 have:=(List.getElem_inj (h₀:=by simpa using hi) (h₁:=by simpa using hj) hn).1
 exact this (by rw[List.getElem_map,List.getElem_map,e];exact c.symm)
theorem jo{l:List j9}{i:Nat}{a:j9}(hi:i<l.length)(h:a.na=(l.getD i e9).na):(l.set i a).map (·.na)=l.map (·.na):=by
 rw[List.map_set,h]
 apply List.ext_getElem Z8
 intro j h1 h2
 rw[List.getElem_set]
 split
 rename_i e;subst e;rw[List.getElem_map,YQ,YX hi];rfl
 rfl
theorem dy{L:List l7}{l:l7}{d:BL}:cls (L++[l]) d=cls L d++(if ab l.ad=d then [l.ti] else []):=by
 unfold cls
 rw[List.filter_append,Zf,List.filter_cons]
 by_cases h:ab l.ad=d
 rw[if_pos (by simpa using h),if_pos h];rfl
 rw[if_neg (by simpa using h),if_neg h];rfl
theorem nB{L:List l7}{l:l7}{a:BL}:Qv (L++[l]) a=Qv L a++(if l.ad=a then [l] else []):=by
 unfold Qv
 rw[List.filter_append,List.filter_cons]
 by_cases h:l.ad=a
 rw[if_pos (by simpa using h),if_pos h];rfl
 rw[if_neg (by simpa using h),if_neg h];rfl
theorem pk{L:List l7}{d:BL}{x:Int}(h:x∈cls L d):∃ q,q∈L/\ab q.ad=d/\q.ti=x:=by
 unfold cls at h
 obtain⟨q,h1,h2⟩:=List.mem_map.1 h
 obtain⟨h3,h4⟩:=List.mem_filter.1 h1
 exact⟨q,h3,by simpa using h4,h2⟩
theorem HI.other{L:List l7}{se:List BL}{y:j9}{l:l7}(h:HI L se y)(hne:y.na≠ab l.ad):HI (L++[l]) se y:=by
 have ec:cls (L++[l]) y.na=cls L y.na:=by rw[dy,if_neg (Ne.symm hne),List.append_nil]
 refine⟨h.hn,fun x hx=>?_,h.nd,h.gl,fun hk=>by rw[ec];exact h.un hk,fun hk=>by rw[ec];exact h.kn hk,fun q hq he=>?_,by rw[ec];exact h.wt⟩
 obtain⟨a1,a2,a3,a4,a5,a6⟩:=h.it x hx
 have hx:l.ad≠x.ad:=fun c=>hne (by rw[c,a2])
 refine⟨a1,a2,a3,a4,a5,fun hp=>⟨fun q hq he=>?_,?_⟩⟩
 rcases Y1.1 hq with hq | hq
 exact(a6 hp).1 q hq he
 rw[YZ.1 hq]at he;exact absurd he hx
 rw[nB,if_neg hx,List.append_nil];exact(a6 hp).2
 rcases Y1.1 hq with hq | hq
 exact h.re q hq he
 rw[YZ.1 hq]at he;exact absurd he.symm hne
theorem HI.more{L:List l7}{se XY:List BL}{y:j9}(h:HI L se y)(hs:∀ s,s∈se->s∈XY):HI L XY y:=
 ⟨h.hn,fun x hx=>by obtain⟨a1,a2,a3,a4⟩:=h.it x hx;exact⟨a1,a2,hs _ a3,a4⟩,h.nd,h.gl,h.un,h.kn,h.re,h.wt⟩
theorem HI.core{L:List l7} {se:List BL} {y y':j9} {l:l7} (h:HI L se y) (hl:ab l.ad=y.na) (Ny:y'.na=y.na) (hr:y.re<=l.ti) (r1:l.ti+1<=y'.re) (r3:l.ki=3->l.ti+3<=y'.re)
 (rw_:l.ti+(y'.gr.wa:Int)<=y'.re) (hw:y.kn=true->y'.gr.wa=y.gr.wa):
 (∀ q,q∈L++[l]->ab q.ad=y'.na->q.ti+1<=y'.re/\(q.ki=3->q.ti+3<=y'.re)/\q.ti+(y'.gr.wa:Int)<=y'.re)/\
 (∀ k,k+1<(cls (L++[l]) y'.na).length->(cls (L++[l]) y'.na).getD k 0+1<=(cls (L++[l]) y'.na).getD (k+1) 0/\(3<=k->(cls (L++[l]) y'.na).getD k 0+(y'.gr.wa:Int)<=(cls (L++[l]) y'.na).getD (k+1) 0)):=by
 constructor
 intro q hq he
 rcases Y1.1 hq with hq | hq
 have:=h.re q hq (by rw[he,Ny])
 exact⟨Z9,fun hk=>by have:=this.2.1 hk;omega,Z9⟩
 rw[YZ.1 hq]
 exact⟨r1,r3,rw_⟩
 intro k hk
 have ec:cls (L++[l]) y'.na=cls L y.na++[l.ti]:=by rw[dy,if_pos (by rw[hl,Ny]),Ny]
 rw[ec]at hk ⊢
 rw[YT,Zj]at hk
 have Oh:y.kn=false->(cls L y.na).length<=2:=fun hk=>by have:=h.un hk;omega
 have e1:∀ j,j<(cls L y.na).length->(cls L y.na++[l.ti]).getD j 0=(cls L y.na).getD j 0:=fun j hj=>by
  rw[YQ,Zd hj,<- YQ]
 rcases Nat.lt_or_ge (k+1) (cls L y.na).length with c | c
 rw[e1 k Z9,e1 _ c]
 have:=h.wt k c
 refine⟨this.1,fun h3=>?_⟩
 cases hk:y.kn with
 | false=>have:=Oh hk;omega
 | true=>rw[hw hk];exact this.2 h3
 have ek:k+1=(cls L y.na).length:=Z9
 have e2:(cls L y.na++[l.ti]).getD (k+1) 0=l.ti:=by
  rw[YQ,Y8 Z9,ek,Nat.sub_self];rfl
 rw[e2,e1 k Z9]
 have hm:(cls L y.na).getD k 0∈cls L y.na:=by
  rw[YQ,YX Z9];exact List.getElem_mem _
 obtain⟨q,q1,q2,q3⟩:=pk hm
 have:=h.re q q1 q2
 rw[<- q3]
 refine⟨Z9,fun h3=>?_⟩
 cases hk:y.kn with
 | false=>have:=Oh hk;omega
 | true=>rw[hw hk];omega
section
variable {w:List Pg} {n:BL}
theorem kY(hs:List j9)(d n:BL):((ax hs d n).getD (r7 hs d) e9).na=d:=by
 unfold ax
 split
 rename_i h
 rw[YQ,YX h]
 unfold r7 at h ⊢
 have:=List.findIdx_getElem (w:=h)
 simpa using this
 rename_i h
 have e:r7 hs d=hs.length:=by
  have:r7 hs d<=hs.length:=List.findIdx_le_length
  omega
 rw[e,YQ,Y8 (Zg _),Nat.sub_self]
 rfl
theorem Ir{hs:List j9}{d n:BL}(h:(hs.map (·.na)).Nodup):((ax hs d n).map (·.na)).Nodup:=by
 unfold ax
 split
 exact h
 rename_i hc
 rw[Zf,List.nodup_append]
 refine⟨h,Z8,fun a ha b hb e=>hc ?_⟩
 subst e
 have hb:a=d:=by simpa[bM] using hb
 subst hb
 obtain⟨y,hy,e⟩:=List.mem_map.1 ha
 exact List.findIdx_lt_length_of_exists ⟨y,hy,by simpa using e⟩
theorem Fz(y:j9)(s:BL):hp (ba y s)<=hp y+3:=by
 unfold ba
 split
 omega
 unfold hp
 simp only[Bm]
 have:Ns [⟨s,0⟩]=3:=by simp[Ns]
 omega
theorem fE(y:j9)(s:BL):(ba y s).na=y.na:=by unfold ba;split <;> rfl
theorem GI.cS{t:j8}{s:BL}(h:GI w n t):GI w n (ak t s):=by
 by_cases hr:dq t.se s
 case neg=>
  have e3:ct t.se s=t.se:=if_neg hr
  have e4:aQ t.na t.hs t.se s=t.hs:=if_neg hr
  have:ak t s=t:=by unfold ak;rw[e3,e4]
  rw[this];exact h
 have e3:(ak t s).se=t.se++[s]:=if_pos hr
 have e4:(ak t s).hs=(ax t.hs (ab s) t.na).set (r7 t.hs (ab s)) (ba ((ax t.hs (ab s) t.na).getD (r7 t.hs (ab s)) e9) s):=if_pos hr
 have hlt:=cK t.hs (ab s) t.na
 have Ny:=kY t.hs (ab s) t.na
 have hnd:=Ir (d:=ab s) (n:=t.na) h.nd
 have hno:∀ q,q∈t.lk->pathOf s≠gN->q.ad≠s:=fun q hq hp c=>by
  rcases (h.lh q hq).2 with e | e
  rw[c]at e;exact hp e
  rw[c]at e;exact hr.2.2 e
 have hin:∀ y,y∈ax t.hs (ab s) t.na->HI t.lk t.se y:=fun y hy=>by
  unfold ax at hy
  split at hy
  exact h.hi y hy
  rename_i hc
  rcases Y1.1 hy with hy | hy
  exact h.hi y hy
  rw[YZ.1 hy]
  have hz:∀ q,q∈t.lk->ab q.ad≠ab s:=fun q hq c=>by
   obtain⟨z,z1,z2⟩:=(h.lh q hq).1
   exact hc (List.findIdx_lt_length_of_exists ⟨z,z1,by simp[z2,c]⟩)
  have ec:cls t.lk (ab s)=[]:=by
   unfold cls
   rw[List.filter_eq_nil_iff.2 (fun q hq=>by simpa using hz q hq)];rfl
  refine⟨xl hr.1,fun x hx=>by simp[bM]at hx,by simp[bM],by simp[bM],fun _=>⟨by simp[bM],by simp[bM],rfl,rfl,?_⟩,fun c=>by simp[bM]at c,fun q hq c=>absurd c (hz q hq),fun k hk=>?_⟩
  show ((cls t.lk (ab s)).length:Int)=0
  rw[ec];rfl
  exfalso
  have hk:k+1<(cls t.lk (ab s)).length:=hk
  rw[ec]at hk;simp at hk
 have Ob:∀ q,q∈t.se->q∈t.se++[s]:=fun q hq=>List.mem_append_left _ hq
 have A4:=hin _ (ay (d:=e9) hlt)
 generalize hy:(ax t.hs (ab s) t.na).getD (r7 t.hs (ab s)) e9=y at *
 have hH:HI t.lk (t.se++[s]) (ba y s):=by
  unfold ba
  split
  exact A4.more Ob
  have RY:=A4.more Ob
  refine⟨RY.hn,fun x hx=>?_,?_,RY.gl,RY.un,RY.kn,RY.re,RY.wt⟩
  rcases Y1.1 hx with hx | hx
  exact RY.it x hx
  rw[YZ.1 hx]
  refine⟨hr.1,Ny.symm,Z8,Z8,Z8,fun hp=>⟨fun q hq c=>absurd c (hno q hq hp),?_⟩⟩
  show ((Qv t.lk s).length:Int)=0
  unfold Qv
  rw[List.filter_eq_nil_iff.2 (fun q hq=>by simpa using hno q hq hp)];rfl
  show ((y.td++[(⟨s,0⟩:u7)]).map (·.ad)).Nodup
  rw[Zf,List.nodup_append]
  refine⟨A4.nd,Z8,fun a ha b hb e=>?_⟩
  subst e
  have hb:a=s:=by simpa using hb
  subst hb
  obtain⟨x,hx,e⟩:=List.mem_map.1 ha
  exact hr.2.2 (by rw[<- e];exact(A4.it x hx).2.2.1)
 have N5:((ax t.hs (ab s) t.na).map hp).sum<=(t.hs.map hp).sum+3*(((ax t.hs (ab s) t.na).length:Int)-t.hs.length)/\(ax t.hs (ab s) t.na).length<=t.hs.length+1:=by
  unfold ax
  split
  omega
  simp only[Zf,Zi,List.map_nil,List.sum_append,List.sum_cons,List.sum_nil,YT,Zj]
  have:hp (bM (ab s) t.na)=3:=by simp[hp,bM,Ns]
  omega
 refine⟨h.na,h.al,fun q hq=>?_,⟨?_,?_⟩,?_,fun z hz=>?_,fun q hq=>?_,?_,?_,h.no⟩
 rw[e3]at hq
 rcases Y1.1 hq with hq | hq
 exact h.se q hq
 rw[YZ.1 hq];exact hr.1
 rw[e3,List.nodup_append]
 refine⟨h.sn.1,Z8,fun a ha b hb e=>?_⟩
 subst e
 have hb:a=s:=by simpa using hb
 subst hb
 exact hr.2.2 ha
 rw[e3,YT,Zj];have:=hr.2.1;omega
 rw[e4,jo hlt (by rw[fE,hy])]
 exact hnd
 rw[e4]at hz
 rw[e3]
 rcases iU hnd hlt hz with e | ⟨e,_⟩
 rw[e];exact hH
 exact(hin z e).more Ob
 obtain⟨⟨z,z1,z2⟩,z3⟩:=h.lh q hq
 refine⟨?_,by rw[e3];exact z3.imp_right (Ob _)⟩
 rw[e4]
 have hz:z∈ax t.hs (ab s) t.na:=by
  unfold ax
  split
  exact z1
  exact List.mem_append_left _ z1
 by_cases c:z.na=y.na
 exact⟨ba y s,List.mem_set hlt _,by rw[fE,<- c];exact z2⟩
 obtain⟨j,hj,e⟩:=Zk.1 hz
 refine⟨z,?_,z2⟩
 have hne:r7 t.hs (ab s)≠j:=by
  rintro rfl
  rw[YQ,YX hj]at hy
  exact c (by rw[<- e,<- hy];rfl)
 refine Zk.2 ⟨j,by simpa using hj,?_⟩
 rw[List.getElem_set,if_neg hne];exact e
 rw[e3,e4,vT hlt,hy,List.length_set,YT,Zj]
 have:=Fz y s
 have:=h.po
 show (t.lk.length:Int)+_<=_
 omega
 rw[e3,e4,List.length_set,YT,Zj]
 have:=h.hl
 omega
theorem GI.bT{l:List BL}:∀ {t:j8},GI w n t->GI w n (l.foldl ak t):=by
 induction l with
 | nil=>exact fun h=>h
 | cons a l ih=>exact fun h=>ih h.cS
theorem GI.zero:GI w n (aU n):=⟨rfl,fun k hk=>by simp[aU]at hk,fun s hs=>by simp[aU]at hs,by simp[aU],by simp[aU],fun y hy=>by simp[aU]at hy,fun q hq=>by simp[aU]at hq,by simp[aU],by simp[aU],by simp[aU]⟩
theorem GI.call{t:j8} {i:Nat} {y':j9} {l:l7} {a7:Int} (h:GI w n t) (hi:i<t.hs.length) (hl:ab l.ad=(t.hs.getD i e9).na) (q:QL w t.lk l) (Ny:y'.na=(t.hs.getD i e9).na) (hH:HI (t.lk++[l]) t.se y')
 (ho:pathOf l.ad=gN\/l.ad∈t.se) (hp1:hp y'+1<=hp (t.hs.getD i e9)) (Xd:0<=a7):GI w n ⟨t.na,a7,t.hs.set i y',t.se,t.lk++[l]⟩:=by
 refine⟨h.na,h.al.snoc q,h.se,h.sn,?_,fun z hz=>?_,fun z hz=>?_,?_,by simpa using h.hl,Xd⟩
 show ((t.hs.set i y').map (·.na)).Nodup
 rw[jo hi Ny];exact h.nd
 rcases iU h.nd hi hz with e | ⟨e,e2⟩
 rw[e];exact hH
 exact(h.hi z e).other (by rw[hl];exact e2)
 show (∃ y,y∈t.hs.set i y'/\y.na=ab z.ad)/\_
 have key:∀ d,(∃ y,y∈t.hs/\y.na=d)->∃ y,y∈t.hs.set i y'/\y.na=d:=fun d ⟨y,y1,y2⟩=>by
  have:d∈(t.hs.set i y').map (·.na):=by
   rw[jo hi Ny];exact List.mem_map.2 ⟨y,y1,y2⟩
  obtain⟨y,y1,y2⟩:=List.mem_map.1 this
  exact⟨y,y1,y2⟩
 rcases Y1.1 hz with hz | hz
 exact⟨key _ (h.lh z hz).1,(h.lh z hz).2⟩
 rw[YZ.1 hz]
 exact⟨key _ ⟨_,ay (d:=e9) hi,hl.symm⟩,ho⟩
 show ((t.lk++[l]).length:Int)+((t.hs.set i y').map hp).sum<=3*((t.se.length:Int)+(t.hs.set i y').length)
 rw[vT hi,List.length_set,YT,Zj]
 have:=h.po
 omega
theorem FU{k:Int}(h:0<=k/\k<=2):2<=cW (k+1):=by
 unfold cW
 split
 omega
 split
 omega
 split <;> omega
theorem tv{y:j9}{a7 k m:Int}(hm:0<=m/\m<=2):a7+1<=(de y a7 k m).re/\(k=3->a7+3<=(de y a7 k m).re)/\a7+(y.gr.wa:Int)<=(de y a7 k m).re:=by
 have:=FU hm
 unfold de
 simp only
 split
 exact⟨Z9,fun _=>by omega,Z9⟩
 rename_i c;exact⟨Z9,fun h=>absurd h c,Z9⟩
theorem KO{t:j8}{i:Nat}(h:GI w n t)(hi:i<t.hs.length)(hk:(t.hs.getD i e9).kn=false)(hr:(t.hs.getD i e9).re<=t.a7)(MS:0<=t.a7/\t.a7<=5000):GI w n (Qi w t i):=by
 have hy:=h.hi _ (ay (d:=e9) hi)
 unfold Qi
 generalize A4:t.hs.getD i e9=y at *
 have T6:=pI hy.hn
 have Wl:=Di hy.hn
 obtain⟨u1,u2,u3,u4,u5⟩:=hy.un hk
 have Pz:=tv (y:=y) (a7:=t.a7) (k:=(af w (ag y.na) y.tr).1) (m:=y.tr) ⟨u1,u2⟩
 have hq:QL w t.lk ⟨t.a7,ag y.na,(af w (ag y.na) y.tr).1⟩:=by
  refine⟨fun c=>absurd Wl c,fun _=>Wl,fun q hq he h3=>?_,⟨_,rfl⟩,Hf hy.hn,MS⟩
  have:=(hy.re q hq (by rw[he];exact T6)).2.1 h3
  show q.ti+3<=t.a7
  omega
 have hit:∀ x,x∈y.td->pathOf x.ad≠gN->ag y.na≠x.ad:=fun x _ hp c=>hp (by rw[<- c];exact Wl)
 have Ub:∀ x,x∈y.td->az x.ad=true/\ab x.ad=y.na/\x.ad∈t.se/\0<=x.tr/\x.tr<=2/\(pathOf x.ad≠gN->(∀ q,q∈t.lk++[⟨t.a7,ag y.na,(af w (ag y.na) y.tr).1⟩]->q.ad=x.ad->q.ki=3)/\((Qv (t.lk++[⟨t.a7,ag y.na,(af w (ag y.na) y.tr).1⟩]) x.ad).length:Int)=x.tr):=fun x hx=>by
  obtain⟨a1,a2,a3,a4,a5,a6⟩:=hy.it x hx
  refine⟨a1,a2,a3,a4,a5,fun hp=>⟨fun q hq he=>?_,?_⟩⟩
  rcases Y1.1 hq with hq | hq
  exact(a6 hp).1 q hq he
  rw[YZ.1 hq]at he;exact absurd he (hit x hx hp)
  rw[nB,if_neg (hit x hx hp),List.append_nil];exact(a6 hp).2
 have hcl:cls (t.lk++[⟨t.a7,ag y.na,(af w (ag y.na) y.tr).1⟩]) y.na=cls t.lk y.na++[t.a7]:=by rw[dy,if_pos T6]
 refine h.call hi (by rw[A4];exact T6) hq ?_ ?_ (.inl Wl) ?_ MS.1
 rw[A4];unfold NW;split <;> rfl
 unfold NW
 split
 rename_i hc
 obtain⟨k1,k2⟩:=hy.core (y':={ o5 w y t.a7 with tr:=y.tr+1 }) (l:=⟨t.a7,ag y.na,(af w (ag y.na) y.tr).1⟩) T6 rfl hr Pz.1 Pz.2.1 Pz.2.2 (fun c=>by rw[hk]at c;cases c)
 refine⟨hy.hn,Ub,hy.nd,hy.gl,fun _=>⟨by show 0<=y.tr+1;omega,by show y.tr+1<=2;omega,u3,u4,?_⟩,fun c=>?_,k1,k2⟩
 show ((cls _ y.na).length:Int)=y.tr+1
 rw[hcl,YT,Zj];omega
 have c:y.kn=true:=c
 rw[hk]at c;cases c
 have Yl:(o5 w y t.a7).re=(de y t.a7 (af w (ag y.na) y.tr).1 y.tr).re:=rfl
 obtain⟨k1,k2⟩:=hy.core (y':={ o5 w y t.a7 with kn:=true,gr:=bK w t.na y.na,re:=max (o5 w y t.a7).re (t.a7+((bK w t.na y.na).wa:Int)),td:=y.td.filter (Oa (bK w t.na y.na).ru) }) (l:=⟨t.a7,ag y.na,(af w (ag y.na) y.tr).1⟩) T6 rfl hr
  (by show t.a7+1<=max (o5 w y t.a7).re (t.a7+((bK w t.na y.na).wa:Int));rw[Yl];have:=Pz.1;omega)
  (fun h3=>by show t.a7+3<=max (o5 w y t.a7).re (t.a7+((bK w t.na y.na).wa:Int));rw[Yl];have:=Pz.2.1 h3;omega)
  (by show t.a7+((bK w t.na y.na).wa:Int)<=max (o5 w y t.a7).re (t.a7+((bK w t.na y.na).wa:Int));omega) (fun c=>by rw[hk]at c;cases c)
 refine⟨hy.hn,fun x hx=>Ub x (List.mem_filter.1 hx).1,List.Nodup.sublist (List.filter_sublist.map _) hy.nd,Zg 1,(fun c=>by cases c),fun _=>?_,k1,k2⟩
 show cls _ y.na≠[]
 rw[hcl];simp
 rw[A4]
 unfold NW
 split
 show (if y.kn=true then 0 else 3-(y.tr+1))+Ns y.td+1<=hp y
 unfold hp
 rw[hk]
 simp only[Bool.false_eq_true,if_false];omega
 show (if true=true then 0 else _)+Ns (y.td.filter _)+1<=hp y
 have:=BV (Oa (bK w t.na y.na).ru) (l:=y.td) fun x hx=>(hy.it x hx).2.2.2.2.1
 unfold hp
 rw[hk]
 simp only[Bool.false_eq_true,if_false,if_true];omega
theorem Kx{t:j8}{i:Nat}(h:GI w n t)(hi:i<t.hs.length)(hk:(t.hs.getD i e9).kn=true)(hne:(t.hs.getD i e9).td≠[])(hr:(t.hs.getD i e9).re<=t.a7)(MS:0<=t.a7/\t.a7<=5000):GI w n (MJ w t i):=by
 have hy:=h.hi _ (ay (d:=e9) hi)
 unfold MJ
 simp only
 generalize A4:t.hs.getD i e9=y at *
 have I0:=List.length_pos_iff.2 hne
 have hit:=hy.it _ (ay (d:=l3) I0)
 have W7:=xh hne
 have Ow:(y.td.getD 0 l3).ad ∉ (y.td.drop 1).map (·.ad)/\((y.td.drop 1).map (·.ad)).Nodup:=by
  have:=hy.nd
  cases SW:y.td with
  | nil=>exact absurd SW hne
  | cons a r=>rw[SW]at this;simpa using List.nodup_cons.1 this
 generalize SR:y.td.getD 0 l3=x0 at *
 obtain⟨a1,a2,a3,a4,a5,a6⟩:=hit
 have Pz:=tv (y:={ y with td:=y.td.drop 1 }) (a7:=t.a7) (k:=(af w x0.ad x0.tr).1) (m:=x0.tr) ⟨a4,a5⟩
 have hq:QL w t.lk ⟨t.a7,x0.ad,(af w x0.ad x0.tr).1⟩:=by
  refine⟨fun c=>⟨(a6 c).1,by have:=(a6 c).2;show (Qv t.lk x0.ad).length<3;omega⟩,fun hc=>?_,fun q hq he h3=>?_,⟨_,rfl⟩,a1,MS⟩
  exfalso
  have:=hy.kn hk
  obtain⟨z,hz⟩:=List.exists_mem_of_ne_nil _ this
  obtain⟨q,q1,q2,_⟩:=pk hz
  exact hc q q1 (by rw[q2];exact a2.symm)
  have:=(hy.re q hq (by rw[he];exact a2)).2.1 h3
  show q.ti+3<=t.a7
  omega
 have hcl:cls (t.lk++[⟨t.a7,x0.ad,(af w x0.ad x0.tr).1⟩]) y.na=cls t.lk y.na++[t.a7]:=by rw[dy,if_pos a2]
 have Ub:∀ x,x∈y.td.drop 1->az x.ad=true/\ab x.ad=y.na/\x.ad∈t.se/\0<=x.tr/\x.tr<=2/\(pathOf x.ad≠gN->(∀ q,q∈t.lk++[⟨t.a7,x0.ad,(af w x0.ad x0.tr).1⟩]->q.ad=x.ad->q.ki=3)/\((Qv (t.lk++[⟨t.a7,x0.ad,(af w x0.ad x0.tr).1⟩]) x.ad).length:Int)=x.tr):=fun x hx=>by
  have Q3:x0.ad≠x.ad:=fun c=>Ow.1 (by rw[c];exact List.mem_map.2 ⟨x,hx,rfl⟩)
  obtain⟨b1,b2,b3,b4,b5,b6⟩:=hy.it x (List.mem_of_mem_drop hx)
  refine⟨b1,b2,b3,b4,b5,fun hp=>⟨fun q hq he=>?_,?_⟩⟩
  rcases Y1.1 hq with hq | hq
  exact(b6 hp).1 q hq he
  rw[YZ.1 hq]at he;exact absurd he Q3
  rw[nB,if_neg Q3,List.append_nil];exact(b6 hp).2
 have Oh:∀ {P:Prop},(y.kn=false->P):=fun c=>by rw[hk]at c;cases c
 have QD:cls (t.lk++[⟨t.a7,x0.ad,(af w x0.ad x0.tr).1⟩]) y.na≠[]:=by rw[hcl];simp
 have c1:GI w n ⟨t.na,t.a7,t.hs.set i (C3 w y t.a7),t.se,t.lk++[⟨t.a7,x0.ad,(af w x0.ad x0.tr).1⟩]⟩:=by
  have VG:C3 w y t.a7=de { y with td:=y.td.drop 1 } t.a7 (af w x0.ad x0.tr).1 x0.tr:=by unfold C3;rw[SR]
  rw[VG]
  obtain⟨k1,k2⟩:=hy.core (y':=de { y with td:=y.td.drop 1 } t.a7 (af w x0.ad x0.tr).1 x0.tr) (l:=⟨t.a7,x0.ad,(af w x0.ad x0.tr).1⟩) a2 rfl hr Pz.1 Pz.2.1 Pz.2.2 (fun _=>rfl)
  refine h.call hi (by rw[A4];exact a2) hq (by rw[A4];rfl) ⟨hy.hn,Ub,Ow.2,hy.gl,Oh,fun _=>QD,k1,k2⟩ (.inr a3) ?_ MS.1
  rw[A4]
  show (if y.kn=true then 0 else 3-y.tr)+Ns (y.td.drop 1)+1<=hp y
  unfold hp
  omega
 split
 rename_i hc
 have VG:({ C3 w y t.a7 with td:=y.td.drop 1++[⟨x0.ad,x0.tr+1⟩] }:j9)={ de { y with td:=y.td.drop 1 } t.a7 (af w x0.ad x0.tr).1 x0.tr with td:=y.td.drop 1++[⟨x0.ad,x0.tr+1⟩] }:=by unfold C3;rw[SR]
 rw[VG]
 obtain⟨k1,k2⟩:=hy.core (y':={ de { y with td:=y.td.drop 1 } t.a7 (af w x0.ad x0.tr).1 x0.tr with td:=y.td.drop 1++[⟨x0.ad,x0.tr+1⟩] }) (l:=⟨t.a7,x0.ad,(af w x0.ad x0.tr).1⟩) a2 rfl hr Pz.1 Pz.2.1 Pz.2.2 (fun _=>rfl)
 refine h.call hi (by rw[A4];exact a2) hq (by rw[A4];rfl) ⟨hy.hn,fun x hx=>?_,?_,hy.gl,Oh,fun _=>QD,k1,k2⟩ (.inr a3) ?_ MS.1
 rcases Y1.1 hx with hx | hx
 exact Ub x hx
 rw[YZ.1 hx]
 refine⟨a1,a2,a3,by show 0<=x0.tr+1;omega,by show x0.tr+1<=2;omega,fun hp=>⟨fun q hq he=>?_,?_⟩⟩
 rcases Y1.1 hq with hq | hq
 exact(a6 hp).1 q hq he
 rw[YZ.1 hq];exact hc.1
 show ((Qv _ x0.ad).length:Int)=x0.tr+1
 rw[nB,if_pos rfl,YT,Zj]
 have:=(a6 hp).2
 omega
 show ((y.td.drop 1++[(⟨x0.ad,x0.tr+1⟩:u7)]).map (·.ad)).Nodup
 rw[Zf,List.nodup_append]
 refine⟨Ow.2,Z8,fun a ha b hb e=>?_⟩
 subst e
 have hb:a=x0.ad:=by simpa using hb
 subst hb
 exact Ow.1 ha
 rw[A4]
 show (if y.kn=true then 0 else 3-y.tr)+Ns (y.td.drop 1++[⟨x0.ad,x0.tr+1⟩])+1<=hp y
 have:Ns [⟨x0.ad,x0.tr+1⟩]=3-(x0.tr+1):=by simp[Ns]
 unfold hp
 rw[Bm]
 omega
 exact c1.bT
theorem CH(t:j8):∀ i,i<=t.hs.length->(C8 t i=(-1,0))\/∃ j:Nat,(C8 t i).1=(j:Int)/\(C8 t i).2=max (t.hs.getD j e9).re t.a7
 | 0,_=>.inl rfl
 | i+1,hi=>by
   rw[nh Z9]
   unfold nH
   split
   exact .inr ⟨i,rfl,rfl⟩
   exact CH t i Z9
theorem yh{t:j8}(h:G0 t=true):s8 t=max (t.hs.getD (m7 t) e9).re t.a7:=by
 unfold G0 at h
 rw[YS]at h
 have h1:=h.1
 unfold m7 s8
 unfold fv at h1 ⊢
 split at h1
 cases h1
 rename_i c
 rw[if_neg c]
 rcases CH t _ (Zg _) with e | ⟨j,e1,e2⟩
 rw[e]at c;exact absurd (.inl Z6) c
 simp only[Option.map_some,Option.getD_some,e1,e2,Int.toNat_natCast]
theorem Cl{t:j8}(h:G0 t=true):(t.hs.getD (m7 t) e9).re<=s8 t:=by have:=yh h;omega
theorem GI.at_{t:j8}{a7:Int}(h:GI w n t)(hn:0<=a7):GI w n { t with a7:=a7 }:=⟨h.na,h.al,h.se,h.sn,h.nd,h.hi,h.lh,h.po,h.hl,hn⟩
theorem lU{t:j8}(h:GI w n t)(hg:G0 t=true):GI w n (B5 w t):=by
 have hx:=jh hg
 have hr:=Cl hg
 have hno:=h.no
 have hw:0<=s8 t/\s8 t<=5000:=⟨Z9,hx.2.2.2⟩
 unfold B5
 split
 rename_i hk
 exact Kx (h.at_ hw.1) hx.1 hk hx.2.1 hr hw
 rename_i hk
 exact KO (h.at_ hw.1) hx.1 (by simpa using hk) hr hw
theorem zX:∀ (k:Nat) {t:j8},GI w n t->GI w n (B4 w k t)
 | 0,_,h=>h
 | k+1,t,h=>by
   unfold B4
   split
   rename_i hg;exact zX k (lU h hg)
   exact h
theorem kA{c9:List BL}{t:j8}(h:aH n c9=some t):GI w n t:=by
 unfold aH at h
 split at h
 cases h;exact GI.zero.bT
 cases h
theorem iA{c9:List BL}{t:j8}(h:aH n c9=some t):aC t=true:=by
 have hg:=kA (w:=[]) h
 unfold aH at h
 split at h
 case isFalse=>cases h
 rename_i hc
 have hn:=kU n c9 (lV n)
 rw[Option.some.inj h]at hn
 have hI:∀ {a b c:Int},a<=b->b<=c->A7 b a c=true:=fun h1 h2=>decide_eq_true ⟨h1,h2⟩
 unfold aC
 simp only[YS,Y6,Zo]
 refine⟨⟨⟨⟨⟨by rw[hn.na];exact hc.1,by rw[hn.a7];decide⟩,?_⟩,by rw[hn.lk];rfl⟩,fun y hy=>⟨?_,?_⟩⟩,hg.nd⟩
 unfold cY
 simp only[YS,Y6,Zo]
 exact⟨⟨hg.sn.2,hg.sn.1⟩,hg.se⟩
 obtain⟨b1,b2,_,b4,b5⟩:=hn.hs y hy
 unfold dj
 rw[b1,b2,b4,b5,hn.na]
 simp only[YS,Bool.false_eq_true,if_false,Zo]
 exact⟨⟨⟨⟨(hg.hi y hy).hn,Z6⟩,Z6⟩,Z8⟩,Z8⟩
 have hI:=hg.hi y hy
 unfold cU
 simp only[YS,Y6,Zo]
 refine⟨⟨?_,fun x hx=>?_⟩,hI.nd⟩
 have:=jN (u:=t.se) hI.nd fun a ha=>by
  obtain⟨x,hx,e⟩:=List.mem_map.1 ha
  rw[<- e];exact(hI.it x hx).2.2.1
 simpa using this
 obtain⟨a1,a2,a3,a4,a5,_⟩:=hI.it x hx
 exact⟨⟨⟨a1,by simpa using a2⟩,by simpa using a3⟩,decide_eq_true ⟨a4,a5⟩⟩
end
def fq(w:List Pg)(n:BL)(c9:List BL):o6 Tryz.prog:=.mk 11 [bZ w,sV n,ao c9] [] ((w.length<=30)/\(∀ i,m9 (w.getD i m4))/\(n.length<=1000)/\(c9.length<=400)/\(∀ x,x∈c9->x.length<=1000/\m5 x)) (bV ((aH n c9).isSome&&an w)) [] (by
 rintro⟨hw,hz,hn,hl,ha⟩
 refine av (N:=20) (rs:=[.tmp 6]) Tryz.func11
  (.q 1<|.q 2<|.c (ue n c9) []<|.mv<|.mv<|.q 1<|.al eR (fun g7=>.st none<|.q 1<|.q 3<|.cg (xp w)<|.q 2<|.nil))
  ((ue n c9).sm/\((n.length<=1000)/\(c9.length<=1000)/\(∀ x,x∈c9->x.length<=1000/\m5 x))/\∀ g7:Nat,Z g7 0/\Gd (((aH n c9).isSome)==true) (((w.length<=1000)/\(∀ i,(w.getD i m4).addr.length<=1000000/\(w.getD i m4).lead.length<=1000000))/\(xp w).sm)/\Pk ((aH n c9).isSome) (((aH n c9).isSome)==true) true/\Q (bV (((aH n c9).isSome)&&(an w))) (bV ((aH n c9).isSome&&an w))) ?_
 refine⟨rfl,⟨hn,Z9,ha⟩,?_⟩
 intro g7
 refine⟨rfl,fun hG=>⟨⟨by(try simp only[nb]at hG);omega,fun i=>⟨by have:=(hz i).a;omega,by have:=(hz i).l;omega⟩⟩,rfl⟩,⟨fun h=>by rw[h] <;> rfl,fun _=>rfl⟩,?_⟩
 unfold Q
 rfl)
section
open Go Go.ChangeShapes Go.RowKit
theorem mS{H:Type} {enc:TypeId×Value->H} {P:Program} {t e:TypeId} (ht:P.underlying t=some (.slice e)) (he:P.underlying e=some (.int .u8)) (hc:P.cellsOf e=1) {W:World} {a0:Option Addr} {len cap:Nat} {d0:DataW H} {p:List MemPlace}
 (h0:DataW.Trod enc P W 0 (fun _=>true) true t (.slice a0 len cap) d0 p):∃ b:BL,b.length=len/\len<=9223372036854775807/\RVs W (· < W.heap.size) [.sl false (b.map n0)] [.slice a0 len cap] []:=by
 have mk:∀ (b:BL),b.length=len->len<=cap->(b=[]\/∃ g o,a0=some ⟨g,o,none⟩/\g<W.heap.size/\∀ j u,(b.map fun c=>Value.int .u8 c.toNat)[j]? =some u->W.cell? ⟨g,o+j,none⟩=some u)->RVs W (· < W.heap.size) [.sl false (b.map n0)] [.slice a0 len cap] []:=by
  intro b hb hl hx
  refine⟨_,[],[],[],rfl,rfl,?_,rfl,rfl⟩
  refine⟨rfl,a0,cap,by rw[Y2,hb],by rw[Y2,hb];exact hl,(fun h=>by cases h),?_⟩
  rcases hx with rfl | ⟨g,o,rfl,hg,s3⟩
  exact .inl rfl
  refine .inr ⟨g,o,1,b.map (fun c=>Value.int .u8 c.toNat),rfl,hg,Z9,?_,?_,s3⟩
  intro x hx
  obtain⟨c,_,rfl⟩:=List.mem_map.1 hx
  rfl
  clear s3 hb
  induction b with
  | nil=>exact⟨rfl,rfl⟩
  | cons c r ih=>exact⟨[.int .u8 c.toNat],r.map (fun c=>Value.int .u8 c.toNat),[],[],rfl,rfl,⟨rfl,rfl,rfl⟩,ih⟩
 obtain⟨fuel,hf⟩:=h0
 rcases open_ints ht he hc hf with ⟨hcs,hx⟩ | ⟨a,len',cap',zs,hcs,_,hl,hm,hz,hx,s3,hwz⟩
 simp[Value.cells]at hcs
 obtain⟨rfl,rfl,rfl⟩:=hcs
 exact⟨[],rfl,Z9,mk [] rfl (Zg _) (.inl rfl)⟩
 simp[Value.cells]at hcs
 obtain⟨rfl,rfl,rfl⟩:=hcs
 simp only[if_true]at hz
 have R6:maxLen=9223372036854775807:=rfl
 have hb:((zs.take len).map fun z=>UInt8.ofNat z.toNat).length=len:=Z0
 refine⟨(zs.take len).map fun z=>UInt8.ofNat z.toNat,hb,Z9,mk _ hb hl ?_⟩
 by_cases h0:len=0
 left;exact Y9 Z9
 right
 obtain⟨g,o,s⟩:=a
 have PA:=s3 0 Z9
 obtain rfl:s=none:=by simpa[Addr.add] using World.cell?_spot PA
 refine⟨g,o,rfl,by have:=World.block_lt_of_cell? _ _ PA;simpa[Addr.add] using this,fun j u hu=>?_⟩
 rw[List.getElem?_map,List.getElem?_map,List.getElem?_take]at hu
 split at hu
 rename_i hj
 have Wg:j<zs.length:=Z9
 rw[YX Wg]at hu
 simp only[Option.map_some,YR]at hu
 have hw:=hwz zs[j] (List.getElem_mem Wg)
 have Xy:0<=zs[j]/\zs[j]<256:=by
  have h1:IntKind.u8.min=0:=rfl
  have h2:IntKind.u8.max=255:=rfl
  simp only[Lit.wf,YS,Zo]at hw
  omega
 have Yw:=s3 j Wg
 have ea:(⟨g,o,none⟩:Addr).add j=⟨g,o+j,none⟩:=by unfold Addr.add;by_cases h0:j=0 <;> simp[h0]
 rw[ea]at Yw
 rw[Yw,<- hu]
 simp only[YQ,YX Wg,Option.getD_some,YR,Value.int.injEq,true_and]
 rw[UInt8.toNat_ofNat_of_lt' (by show zs[j].toNat<256;omega)]
 omega
 simp at hu
theorem qk{P:Program}{n:String}{d:DataW Unit}{r:List (String×DataW Unit)}{W:World}{g:Nat}{x:Value}(h:laidMet P ((n,d)::r) W)(hg:P.globalNamed n=some g)(hv:W.var? P n=some #[x]):∃ t,W.heap[g]? =some (.cells #[x] t (0,0)):=by
 obtain⟨ps,⟨g0,t0,YK,f0,p0,q0,VF,_,hv0,_,_,e0⟩,_,Vn⟩:=h
 obtain rfl:=Option.some.inj (hg.symm.trans VF)
 obtain rfl:=Option.some.inj (hv.symm.trans hv0)
 subst e0
 obtain⟨c,t,hc⟩:=(Vn g 0 (by simp[MemPlace.row])).1
 refine⟨t,?_⟩
 unfold World.var? at hv
 rw[hg,Option.bind_some,hc]at hv
 rw[hc]
 simpa using hv
theorem xw{w:World}{Pb Pb':Nat->Prop}:∀ {b:BL} {cs:List Value},RL w Pb (b.map n0) cs []->RL w Pb' (b.map n0) cs []/\∀ c r,b=c::r->∃ k,cs[0]? =some (.int .u8 k)
 | [],cs,h=>⟨h,fun c r e=>by cases e⟩
 | c::b,cs,h=>by
   obtain⟨c1,c2,F1,F2,rfl,e,h1,h2⟩:=h
   obtain⟨rfl,rfl⟩:=List.append_eq_nil_iff.1 e.symm
   obtain⟨k1,k2,_⟩:=h1
   subst k2
   exact⟨⟨_,c2,[],[],rfl,rfl,⟨k1,rfl,rfl⟩,(xw h2).1⟩,fun c r e=>⟨_,rfl⟩⟩
theorem u8_in{W:World}{b:BL}{v x:Value}{t:TypeId}(hv:RVs W (· < W.heap.size) [.sl false (b.map n0)] [v] [])(h0:W.heap[0]? =some (.cells #[x] t (0,0)))(hx:∀ k,x≠.int .u8 k):
 R W (fun g=>g<W.heap.size/\g≠0) (.sl false (b.map n0)) [v] []:=by
 obtain⟨x,xs,Fa,Fb,e1,e2,k1,k2⟩:=(uv _).1 hv
 simp only[List.cons.injEq]at e1
 obtain⟨rfl,rfl⟩:=e1
 have e3:Fa=[]:=(List.append_eq_nil_iff.1 e2.symm).1
 subst e3
 have k1:R W (· < W.heap.size) (.sl false (b.map n0)) [v] []:=k1
 obtain⟨_,A,c,hA,hl,hf,Nd⟩:=k1
 refine⟨rfl,A,c,hA,hl,hf,?_⟩
 rcases Nd with Nd | ⟨bl,o,sz,flat,q1,q2,q3,q4,q5,q6⟩
 exact .inl Nd
 obtain⟨r1,r2⟩:=xw (Pb':=fun g=>g<W.heap.size/\g≠0) q5
 cases VM:b with
 | nil=>exact .inl rfl
 | cons c0 b0=>
   obtain⟨k,hk⟩:=r2 c0 b0 VM
   refine .inr ⟨bl,o,sz,flat,q1,⟨q2,?_⟩,q3,by rw[<- VM];exact q4,by rw[<- VM];exact r1,q6⟩
   rintro rfl
   have:=q6 0 _ hk
   rw[Nat.add_zero]at this
   simp only[World.cell?,h0]at this
   cases o with
   | zero=>
     exact hx k (by simpa using this)
   | succ o=>simp at this
theorem HH{P:Program} {f:FuncId} {T:TypeId} {vs:List V} {ea:Addr} {W:World} {t:TypeId}
 (h:PF P f vs [(9000,(0,.lit (.iface T (.pointer (some ea)))))] (fun r h=>r=bV true/\h=[(9000,(0,.lit (.iface T (.pointer (some ea)))))])) {xs:List Value} (hl:xs.length=vs.length)
 (hv:∀ (i:Nat) (w:V) (x:Value),vs[i]? =some w->xs[i]? =some x->RV W (fun g=>g<W.heap.size/\g≠0) w x []) (h0:W.heap[0]? =some (.cells #[.iface T (.pointer (some ea))] t (0,0))):
 Calls P f xs.toArray W fun e W'=>e=.returned (.bool true)/\Below W.heap.size W W':=by
 have e9:0<W.heap.size:=(Zl.1 h0).1
 let F:l8->List Nat:=fun r=>match r with
  | .key k=>if k=9000 then [0] else []
  | .slot _=>[]
 have hi:Wu W (fun g=>g<W.heap.size/\g≠0) (fun g=>g<W.heap.size/\g≠0) vs xs [(9000,(0,.lit (.iface T (.pointer (some ea)))))] F:=by
  have hF:∀ r g,g∈F r->r=.key 9000/\g=0:=fun r g hg=>by
   cases r with
   | slot i=>simp[F]at hg
   | key k=>
     simp only[F]at hg
     split at hg
     rename_i e;exact⟨by rw[e],by simpa using hg⟩
     simp at hg
  refine⟨hl,fun i w x hx hy=>hv i w x hx hy,fun k g w hk=>?_,fun i hi=>rfl,fun r r' hne g h1 h2=>?_,fun r=>?_,fun r g hg=>?_,fun _ h=>h,fun _ h=>h.1⟩
  simp only[lk]at hk
  split at hk
  rename_i e
  subst e
  simp only[YR,YU]at hk
  obtain⟨rfl,rfl⟩:=hk
  refine⟨[],by simp[F],[.iface T (.pointer (some ea))],#[.iface T (.pointer (some ea))],⟨t,(0,0),h0,fun i _ h=>by omega⟩,⟨rfl,rfl,rfl⟩,fun j u hu=>?_⟩
  cases j with
  | zero=>simpa using hu
  | succ j=>simp at hu
  cases hk
  exact hne ((hF r g h1).1.trans (hF r' g h2).1.symm)
  cases r with
  | slot i=>exact Ze
  | key k=>simp only[F];split <;> simp
  obtain⟨_,rfl⟩:=hF r g hg
  exact⟨fun c=>c.2 rfl,e9⟩
 refine(h.2 W _ _ xs F hi).mono ?_
 rintro e W' ⟨r,x,H',Pb',D3,F',rfl,⟨rfl,rfl⟩,hf⟩
 have H4:=hf.val
 obtain⟨_,e1,_⟩:=H4
 simp only[List.cons.injEq,and_true]at e1
 refine⟨by rw[e1],hf.eM.os,hf.eM.tape,hf.eM.output,hf.eM.size,fun k hk=>?_⟩
 by_cases Qm:k=0
 subst Qm
 obtain⟨c',k1,k2⟩:=hf.eM.shape 0 _ _ _ h0
 obtain⟨F1,_,cs,cells,⟨e',Wr,k3,_⟩,⟨_,k4,_⟩,k5⟩:=hf.root 9000 0 (.lit (.iface T (.pointer (some ea)))) rfl
 subst k4
 rw[k1]at k3
 simp only[YR,Obj.cells.injEq]at k3
 obtain⟨rfl,_,_⟩:=k3
 have k6:=k5 0 _ rfl
 rw[h0,k1]
 congr 1
 congr 1
 apply Array.ext
 simpa using k2
 intro i h1 h2
 have hi:i=0:=by simp at h2;exact h2
 subst hi
 have:c'[0]? =some (Value.iface T (.pointer (some ea))):=by simpa using k6
 rw[Array.getElem?_eq_getElem h1]at this
 simpa using this
 exact hf.eM.block k ⟨hk,Qm⟩
theorem Cq{P:Program} {f:FuncId} {T:TypeId}
 (h:∀ (b:BL) (ea:Addr),b.length<=9223372036854775807->PF P f [.sl false (b.map n0)] [(9000,(0,.lit (.iface T (.pointer (some ea)))))] (fun r h=>r=bV true/\h=[(9000,(0,.lit (.iface T (.pointer (some ea)))))]))
 {W:World} {v:Value} {b:BL} {ea:Addr} {t:TypeId} (hb:b.length<=9223372036854775807) (hv:RVs W (· < W.heap.size) [.sl false (b.map n0)] [v] []) (h0:W.heap[0]? =some (.cells #[.iface T (.pointer (some ea))] t (0,0))):
 Calls P f #[v] W fun e W'=>e=.returned (.bool true)/\Below W.heap.size W W':=
 HH (h b ea hb) (xs:=[v]) rfl (fun i w x hx hy=>by
  cases i with
  | succ i=>simp at hx
  | zero=>
    simp only[List.getElem?_cons_zero,YR]at hx hy
    subst hx hy
    exact u8_in hv h0 fun k e=>by cases e) h0
theorem sW{P:Program} {f:FuncId} {T:TypeId}
 (h:∀ (b c:BL) (ea:Addr),b.length<=9223372036854775807->c.length<=9223372036854775807->PF P f [.sl false (b.map n0),.sl false (c.map n0)] [(9000,(0,.lit (.iface T (.pointer (some ea)))))] (fun r h=>r=bV true/\h=[(9000,(0,.lit (.iface T (.pointer (some ea)))))]))
 {W:World} {v u:Value} {b c:BL} {ea:Addr} {t:TypeId} (hb:b.length<=9223372036854775807) (hc:c.length<=9223372036854775807) (hv:RVs W (· < W.heap.size) [.sl false (b.map n0)] [v] []) (hu:RVs W (· < W.heap.size) [.sl false (c.map n0)] [u] []) (h0:W.heap[0]? =some (.cells #[.iface T (.pointer (some ea))] t (0,0))):
 Calls P f #[v,u] W fun e W'=>e=.returned (.bool true)/\Below W.heap.size W W':=
 HH (h b c ea hb hc) (xs:=[v,u]) rfl (fun i w x hx hy=>by
  match i with
  | i+2=>simp at hx
  | 0=>
    simp only[List.getElem?_cons_zero,YR]at hx hy
    subst hx hy
    exact u8_in hv h0 fun k e=>by cases e
  | 1=>
    simp only[List.getElem?_cons_succ,List.getElem?_cons_zero,YR]at hx hy
    subst hx hy
    exact u8_in hu h0 fun k e=>by cases e) h0
end
end Go.Proofs.YtbjbamjffkanbaaGreatDoor