/-
  Words and walks for the laws of pedlar's seat: what each function of the program computes, and that it does; no conditions beyond those that each statement names.
-/
import Derived.Test.YtelggdgnblpjdaaGreatDoorGD
import Derived.Test.YtelggdgnblpjdaaGreatDoorGB
import Derived.WalkKit
import Derived.LaidEql
import Derived.Stop.Asserts
import Derived.RowKitTokens
import Derived.ProofKit
import Derived.OpenShut
import Derived.ChangeOld
import Derived.Below
import Derived.LaidMore
import Derived.Lay
import Derived.SevenTiedAt
import Derived.Stop.Joined
import Derived.Stop.LaidErr
set_option linter.unusedVariables false
set_option linter.unusedSimpArgs false
set_option linter.unnecessarySimpa false
set_option linter.unusedSectionVars false
namespace Go.Proofs.YtelggdgnblpjdaaGreatDoor
open Go Go.RowKit
set_option maxRecDepth 20000
abbrev ny(p0:BL)(p1:Int)(p2:List k9)(p3:Nat)(p4:BL)(p5:Int)(p6:Bool)(p7:List BL)(p8:List r7)(p9:Nat)(RU:Int)(SE:List w5)(SD:Nat)(SC:Nat)(SB:Nat)(SA:List BL)(Xj:List l5)(YO:Nat)(YN:Nat)(YM:Nat):V:=.agg [sV p0,iV p1,.own 8 ((p2.take p3).map aL++(.agg [sV p4,iV p5,bV p6,.agg [.sl false (p7.map sV),.sl false (p8.map aD),iN p9],iV RU,.ow 2 (SE.map ar)]:V)::(p2.drop (p3+1)).map aL) SD SC SB,.ow 1 (SA.map sV),.own 3 (Xj.map bf) YO YN YM]
theorem HV(k:Int):0<=cY k/\cY k<=8:=by unfold cY;split <;> (try split) <;> (try split) <;> omega
theorem KN{y:k9}{a7 k m:Int}(h:k=3):cJ y a7 k m={ y with re:=a7+max (y.gr.wa:Int) 1+cY (m+1) }:=by unfold cJ;rw[if_pos h]
theorem JX{y:k9}{a7 k m:Int}(h: ¬ k=3):cJ y a7 k m={ y with re:=a7+max (y.gr.wa:Int) 1 }:=by unfold cJ;rw[if_neg h,Int.add_zero]
def nD(w:List Pg)(t:j6):I2 Tryz.prog:=.mk (Nat×Nat) 33 [cC w,bF t.na t.a7 t.hs t.se t.lk] [] ((w.length<=30)/\(∀ i,m4 (w.getD i l9))/\(r5 t)/\(ai w=true)/\(ax t=true)) (fun x=>True) (fun x=>.tup [.ptr (.key 1001) [] x.1 0,bV true]) (fun x=>[(1001,(x.1,.agg [.mp (w.map F8),.ptr (.key 1000) [] x.2 0])),(1000,(x.2,bP t.na t.a7 t.hs t.se t.lk))]) (by
 rintro⟨hw,hz,ht,hk,L5⟩
 refine fY (N:=26) (rs:=[.tmp 4,.tmp 5]) (X:=Nat×Nat) (post:=fun x=>True) (E:=fun x=>.tup [.ptr (.key 1001) [] x.1 0,bV true]) (H':=fun x=>[(1001,(x.1,.agg [.mp (w.map F8),.ptr (.key 1000) [] x.2 0])),(1000,(x.2,.agg [sV t.na,iV t.a7,.ow 8 (t.hs.map aL),.ow 1 (t.se.map sV),.ow 3 (t.lk.map bf)]))]) Tryz.func33 Zac rfl rfl rfl Zac [(1001,(0,.b9)),(1000,(0,.b9))] (by intro _ k hk;simp only[lk]at hk ⊢;repeat (split at hk <;> simp_all))
  (.bx (fun g3=>.q 2<|.q 1<|.c (jd w) []<|.q 5<|.r 4 [.b9]<|.cg (dp t)<|.q 2<|.br (.nil) (.r 1 [.b9]<|.c (xh t) []<|.al fo (fun g8=>.st none<|.q 1<|.bd NS<|.bx (fun RQ=>.q 2<|.h (.rk 25 1001)<|.h (.rk 8 1000)<|.nil)))))
  (∀ g3:Nat,(jd w).sm/\((w.length<=30)/\(∀ i,m4 (w.getD i l9))/\(ai w=true))/\Gd ((!true)==false) (Z g3 0)/\Gd ((!true)==false) (((r5 t))/\(dp t).sm)/\Pk (!true) true ((!true)==false)/\Br ((!true)||(!(ax t))) (False) (Z g3 0/\(xh t).sm/\((r5 t))/\∀ g8:Nat,Z g8 0/\∀ RQ:Nat,∃ x:Nat×Nat,(True)/\Q (.tup [.ptr (.key 1001) [] RQ 0,bV true]) (.tup [.ptr (.key 1001) [] x.1 0,bV true])/\Qr RQ (.agg [.mp (w.map F8),.ptr (.key 1000) [] g8 0]) x.1 (.agg [.mp (w.map F8),.ptr (.key 1000) [] x.2 0])/\Qr g8 (bP t.na t.a7 t.hs t.se t.lk) x.2 (bP t.na t.a7 t.hs t.se t.lk)))
  Zac ?_
 intro g3
 refine⟨rfl,⟨hw,hz,hk⟩,fun hG=>rfl,fun hG=>⟨ht,rfl⟩,⟨fun _=>rfl,fun h=>by rw[h] <;> rfl⟩,?_⟩
 refine bI (fun l3=>?_) fun l3=>?_
 · all_goals simp_all
 · refine⟨rfl,rfl,ht,?_⟩
   intro g8
   refine⟨rfl,?_⟩
   intro RQ
   refine⟨(RQ,g8),?_,?_,?_⟩
   · try dsimp only
     all_goals trivial
   first | rfl | simp_all
   first | rfl | exact⟨rfl,rfl⟩ | simp_all)
def ma(w:List Pg)(t:j6):o6 Tryz.prog:=.mk 33 [cC w,bF t.na t.a7 t.hs t.se t.lk] [] ((w.length<=30)/\(∀ i,m4 (w.getD i l9))/\(r5 t)/\((ai w&&ax t)=false)) (.tup [.b9,bV false]) [] (by
 rintro⟨hw,hz,ht,hk⟩
 refine aB (N:=26) (rs:=[.tmp 4,.tmp 5]) Tryz.func33
  (.bx (fun g3=>.q 2<|.q 1<|.sp (ai w) (.c (jd w) []<|.q 5<|.r 4 [.b9]<|.cg (dp t)<|.q 2<|.br (.q 2<|.nil) (.nil)) (.c (kH w) []<|.q 5<|.r 4 [.b9]<|.cg (dp t)<|.q 2<|.br (.q 2<|.nil) (.nil))))
  ((fun v1:V=>(∀ g3:Nat,((ai w)=true->(jd w).sm/\((w.length<=30)/\(∀ i,m4 (w.getD i l9))/\(ai w=true))/\Gd ((!true)==false) (Z g3 0)/\Gd ((!true)==false) (((r5 t))/\(dp t).sm)/\Pk (!true) true ((!true)==false)/\Br ((!true)||(!(ax t))) (Q v1 v1) (False))/\((ai w)=false->(kH w).sm/\((w.length<=30)/\(∀ i,m4 (w.getD i l9))/\(ai w=false))/\Gd ((!false)==false) (Z g3 0)/\Gd ((!false)==false) (((r5 t))/\(dp t).sm)/\Pk (!false) true ((!false)==false)/\Br ((!false)||(!(ax t))) (Q v1 v1) (False)))) (.tup [.b9,bV false])) ?_
 intro g3
 refine⟨fun B7=>?_,fun B7=>?_⟩
 · have N6:=B7
   try simp only[nb]at N6
   refine⟨rfl,⟨hw,hz,B7⟩,fun hG=>rfl,fun hG=>⟨ht,rfl⟩,⟨fun _=>rfl,fun h=>by rw[h] <;> rfl⟩,?_⟩
   refine bI (fun l3=>?_) fun l3=>?_
   unfold Q
   rfl
   · all_goals simp_all
 · have N6:=B7
   try simp only[nb]at N6
   refine⟨rfl,⟨hw,hz,B7⟩,fun hG=>rfl,fun hG=>⟨ht,rfl⟩,⟨fun _=>rfl,fun h=>by rw[h] <;> rfl⟩,?_⟩
   refine bI (fun l6=>?_) fun l6=>?_
   unfold Q
   rfl
   · all_goals simp_all)
def AH(n:BL)(a7:Int)(zs:List k9)(se:List BL)(ls:List l5)(gt:Nat)(g:Nat)(o:Nat)(c:Nat)(gw:Nat)(ix:Nat)(w:List Pg)(a:BL)(k:Int)(y:k9):o6 Tryz.prog:=.mk 121 [.ptr (.key 1001) [] gw 0,.ptr (.key 1000) [2,ix] g (o+ix*8),sV a,iV k] [(1001,(gw,.agg [.mp (w.map F8),.ptr (.key 1000) [] gt 0])),(1000,(gt,ck n a7 zs g o c se ls))] ((ix<zs.length)/\(ls.length<=1000)/\(0<=k/\k<=1000)/\(0<=a7/\a7<=100000)/\(zs.getD ix c5=y)/\(y.gr.wa<=1000)) (.tup [iV ((ae w a k).1),sV ((ae w a k).2)]) [(1001,(gw,.agg [.mp (w.map F8),.ptr (.key 1000) [] gt 0])),(1000,(gt,ck n a7 (zs.set ix (cJ y a7 (ae w a k).1 k)) g o c se (ls++[(⟨a7,a,(ae w a k).1⟩:l5)])))] (by
 rintro⟨hi,hl,hk,hn,hyy,hy⟩
 refine aB (N:=71) (rs:=[.tmp 8,.tmp 9]) Tryz.func121
  (.oR (.key 1000) [4] (fun gl SF cl=>.q 2<|.r 5 [.b9]<|.r 6 [.b9]<|.c (zH w a k) []<|.q 5<|.dx 14 [0,1,2,3,4,5,6,7,8,9,10,11,12,13] [(4,⟨false,[],some [1000],[31],[]⟩),(8,⟨false,[],some [1000],[35],[]⟩),(13,⟨true,[],none,[40],[1000]⟩)] []<|.q 1<|.q 1<|.q 1<|.q 1<|.r 1 [.b9]<|.q 1<|.q 1<|.q 1<|.r 1 [.b9]<|.q 1<|.q 1<|.bd yf<|.bs<|.ux none (fun F6 E9 H7=>.h (.n8 40 (.own 3 ((ls++[(⟨a7,a,(ae w a k).1⟩:l5)]).map bf) F6 E9 H7))<|.q 2<|.st none<|.h (.C7 1000 (ny n a7 zs ix (y.na) (y.re) (y.kn) (y.gr.na) (y.gr.ru) (y.gr.wa) (y.tr) (y.td) g o c se (ls++[(⟨a7,a,(ae w a k).1⟩:l5)]) F6 E9 H7))<|.dx 12 [0,1,2,3,4,5,6,7,8,9,10,11] [(4,⟨false,[],some [1000],[47],[]⟩),(9,⟨false,[],some [1000],[52],[]⟩)] []<|.q 1<|.q 1<|.q 1<|.q 1<|.r 1 [.b9]<|.q 1<|.q 1<|.q 1<|.q 1<|.r 1 [iN (y.gr.wa)]<|.mm<|.q 1<|.q 2<|.st (some (iV (y.re)))<|.h (.C7 1000 (ny n a7 zs ix (y.na) (a7+(max ((y.gr.wa:Nat):Int) 1)) (y.kn) (y.gr.na) (y.gr.ru) (y.gr.wa) (y.tr) (y.td) g o c se (ls++[(⟨a7,a,(ae w a k).1⟩:l5)]) F6 E9 H7))<|.q 2<|.br (.dx 7 [0,1,2,3,4,5,6] [(3,⟨false,[],some [1000],[62],[]⟩)] []<|.q 1<|.q 1<|.q 1<|.r 1 [iV (a7+(max ((y.gr.wa:Nat):Int) 1))]<|.q 1<|.q 1<|.c (ET (k+1)) []<|.q 3<|.st (some (iV (a7+(max ((y.gr.wa:Nat):Int) 1))))<|.h (.C7 1000 (ny n a7 zs ix (y.na) ((a7+(max ((y.gr.wa:Nat):Int) 1))+(cY (k+1))) (y.kn) (y.gr.na) (y.gr.ru) (y.gr.wa) (y.tr) (y.td) g o c se (ls++[(⟨a7,a,(ae w a k).1⟩:l5)]) F6 E9 H7))<|.q 4<|.h (.C7 1000 (.agg [sV n,iV a7,.own 8 ((zs.set ix ({ y with re:=(a7+(max ((y.gr.wa:Nat):Int) 1))+(cY (k+1)) }:k9)).map aL) g o c,.ow 1 (se.map sV),.own 3 ((ls++[(⟨a7,a,(ae w a k).1⟩:l5)]).map bf) F6 E9 H7]))<|.nil) (.q 4<|.h (.C7 1000 (.agg [sV n,iV a7,.own 8 ((zs.set ix ({ y with re:=a7+(max ((y.gr.wa:Nat):Int) 1) }:k9)).map aL) g o c,.ow 1 (se.map sV),.own 3 ((ls++[(⟨a7,a,(ae w a k).1⟩:l5)]).map bf) F6 E9 H7]))<|.nil))))
  ((fun v1:Int=>(fun v2:List V=>(fun v3:V=>(fun v4:V=>(fun v5:V=>(∀ gl SF cl:Nat,True/\Z gw 1/\True/\Z gw 0/\(zH w a k).sm/\((0<=k)/\(k<=1000))/\True/\Z gt 4/\True/\Z gt 1/\(((3,3,gl,SF,cl,(ls.map bf).length)=(3,3,gl,SF,cl,(ls.map bf).length))/\(V.aK v2=false)/\(aM 3 v2)/\(((ls.map bf).length+v2.length)*32<=140737488355328))/\∀ F6 E9 H7:Nat,(fun v6:V=>(fun v7:V=>((.own 3 ((ls.map bf)++v2) F6 E9 H7:V)=.own 3 ((ls++[(⟨a7,a,(ae w a k).1⟩:l5)]).map bf) F6 E9 H7)/\True/\Z gt 4/\((.agg [sV n,iV a7,.own 8 (zs.map aL) g o c,.ow 1 (se.map sV),.own 3 ((ls++[(⟨a7,a,(ae w a k).1⟩:l5)]).map bf) F6 E9 H7]:V)=ny n a7 zs ix (y.na) (y.re) (y.kn) (y.gr.na) (y.gr.ru) (y.gr.wa) (y.tr) (y.td) g o c se (ls++[(⟨a7,a,(ae w a k).1⟩:l5)]) F6 E9 H7)/\True/\Z gt 1/\True/\(V.at gt 0 v7 [2,ix,3,2]=some (g,(o+ix*8+3+2),iN (y.gr.wa)))/\(IntKind.i64=IntKind.i64)/\m8 (a7+(max v1 1))/\True/\(V.at gt 0 v7 [2,ix,1]=some (g,(o+ix*8+1),iV (y.re)))/\(V.set v7 [2,ix,1] (iV (a7+(max v1 1)))=ny n a7 zs ix (y.na) (a7+(max v1 1)) (y.kn) (y.gr.na) (y.gr.ru) (y.gr.wa) (y.tr) (y.td) g o c se (ls++[(⟨a7,a,(ae w a k).1⟩:l5)]) F6 E9 H7)/\Br (r6 ((ae w a k).1) 3) (True/\(V.at gt 0 v6 [2,ix,1]=some (g,(o+ix*8+1),iV (a7+(max v1 1))))/\m8 (k+1)/\(ET (k+1)).sm/\(True)/\m8 ((a7+(max v1 1))+(cY (k+1)))/\True/\(V.at gt 0 v6 [2,ix,1]=some (g,(o+ix*8+1),iV (a7+(max v1 1))))/\(V.set v6 [2,ix,1] (iV ((a7+(max v1 1))+(cY (k+1))))=ny n a7 zs ix (y.na) ((a7+(max v1 1))+(cY (k+1))) (y.kn) (y.gr.na) (y.gr.ru) (y.gr.wa) (y.tr) (y.td) g o c se (ls++[(⟨a7,a,(ae w a k).1⟩:l5)]) F6 E9 H7)/\((ny n a7 zs ix (y.na) ((a7+(max v1 1))+(cY (k+1))) (y.kn) (y.gr.na) (y.gr.ru) (y.gr.wa) (y.tr) (y.td) g o c se (ls++[(⟨a7,a,(ae w a k).1⟩:l5)]) F6 E9 H7:V)=.agg [sV n,iV a7,.own 8 ((zs.set ix ({ y with re:=(a7+(max v1 1))+(cY (k+1)) }:k9)).map aL) g o c,.ow 1 (se.map sV),.own 3 ((ls++[(⟨a7,a,(ae w a k).1⟩:l5)]).map bf) F6 E9 H7])/\Q v3 v3/\Er gw v5/\Qr gt (ck n a7 (zs.set ix ({ y with re:=(a7+(max v1 1))+(cY (k+1)) }:k9)) g o c se (ls++[(⟨a7,a,(ae w a k).1⟩:l5)])) gt v4) (((ny n a7 zs ix (y.na) (a7+(max v1 1)) (y.kn) (y.gr.na) (y.gr.ru) (y.gr.wa) (y.tr) (y.td) g o c se (ls++[(⟨a7,a,(ae w a k).1⟩:l5)]) F6 E9 H7:V)=.agg [sV n,iV a7,.own 8 ((zs.set ix ({ y with re:=a7+(max v1 1) }:k9)).map aL) g o c,.ow 1 (se.map sV),.own 3 ((ls++[(⟨a7,a,(ae w a k).1⟩:l5)]).map bf) F6 E9 H7])/\Q v3 v3/\Er gw v5/\Qr gt (ck n a7 (zs.set ix ({ y with re:=a7+(max v1 1) }:k9)) g o c se (ls++[(⟨a7,a,(ae w a k).1⟩:l5)])) gt v4)) (ny n a7 zs ix (y.na) (y.re) (y.kn) (y.gr.na) (y.gr.ru) (y.gr.wa) (y.tr) (y.td) g o c se (ls++[(⟨a7,a,(ae w a k).1⟩:l5)]) F6 E9 H7)) (ny n a7 zs ix (y.na) (a7+(max v1 1)) (y.kn) (y.gr.na) (y.gr.ru) (y.gr.wa) (y.tr) (y.td) g o c se (ls++[(⟨a7,a,(ae w a k).1⟩:l5)]) F6 E9 H7))) (.agg [.mp (w.map F8),.ptr (.key 1000) [] gt 0])) (ck n a7 (zs.set ix (cJ y a7 (ae w a k).1 k)) g o c se (ls++[(⟨a7,a,(ae w a k).1⟩:l5)]))) (.tup [iV ((ae w a k).1),sV ((ae w a k).2)])) ([.agg [iV a7,sV a,iV ((ae w a k).1)]]:List V)) ((y.gr.wa:Nat):Int)) ?_
 subst hyy
 intro gl SF cl
 refine⟨trivial,rfl,trivial,rfl,rfl,⟨hk.1,hk.2⟩,trivial,rfl,trivial,rfl,⟨rfl,rfl,by simp[aM,V.n,V.ns],Zaj⟩,?_⟩
 intro F6 E9 H7
 refine⟨Zbk (V.own 3 · F6 E9 H7) Zab,trivial,rfl,P2 (Zbk (V.own 8 · g o c) (tC (d:=c5) Zaa)),trivial,rfl,trivial,(bj (f:=2) rfl).trans (aS (aU Zaa) rfl),rfl,Zaa,trivial,(bj (f:=2) rfl).trans (aS (aU Zaa) rfl),eP (bn (aU Zaa) (dC Zaa)),?_⟩
 refine bI (fun l3=>?_) fun l3=>?_
 refine⟨trivial,(bj (f:=2) rfl).trans (aS (aU Zaa) rfl),Zaa,rfl,trivial,by have:=HV (k+1);omega,trivial,(bj (f:=2) rfl).trans (aS (aU Zaa) rfl),eP (bn (aU Zaa) (dC Zaa)),P2 (Zbk (V.own 8 · g o c) (nK (f:=aL) (x:=({ (zs.getD ix c5) with re:=(a7+(max (((zs.getD ix c5).gr.wa:Nat):Int) 1))+(cY (k+1)) }:k9)) Zaa)),?_⟩
 refine⟨?_,rfl,by rw[KN l3]⟩
 unfold Q
 rfl
 refine⟨P2 (Zbk (V.own 8 · g o c) (nK (f:=aL) (x:=({ (zs.getD ix c5) with re:=a7+(max (((zs.getD ix c5).gr.wa:Nat):Int) 1) }:k9)) Zaa)),?_⟩
 refine⟨?_,rfl,by rw[JX l3]⟩
 unfold Q
 rfl)
section
variable {P:Program} {w w':World} {Pb Kb:Nat->Prop} {N:Nat} {A:AS} {a:Act} {F:m0->List Nat}
theorem set_set:∀ (p:List Nat) (v x y:V),(v.set p x).set p y=v.set p y
 | [],_,_,_=>rfl
 | j::p,v,x,y=>by
   cases v with
   | agg vs=>
     simp only[V.set]
     cases h:vs[j]? with
     | none=>simp only[h]
     | some u=>
       have hj:=(Za1.1 h).1
       simp only[List.getElem?_set_self hj,List.set_set,set_set p u x y]
   | own sz xs g o c=>
     simp only[V.set]
     cases h:xs[j]? with
     | none=>simp only[h]
     | some u=>
       have hj:=(Za1.1 h).1
       simp only[List.getElem?_set_self hj,List.set_set,set_set p u x y]
   | _=>rfl
theorem vW:∀ (p:List Nat) {v u x:V} {g o g' o':Nat},V.at g o v p=some (g',o',u)->V.at g o (v.set p x) p=some (g',o',x)
 | [],v,u,x,g,o,g',o',h=>by
   simp only[V.at,Zal,Zao]at h ⊢
   exact⟨h.1,h.2.1,rfl⟩
 | j::p,v,u,x,g,o,g',o',h=>by
   simp only[V.at]at h
   split at h
   rename_i vs
   split at h
   rename_i y hy
   have hj:=(Za1.1 hy).1
   simp only[V.set,hy,V.at,List.getElem?_set_self hj]
   rw[List.take_set_of_le (Zba _)]
   exact vW p h
   simp at h
   rename_i sz xs g1 o1 c1
   split at h
   rename_i y hy
   have hj:=(Za1.1 hy).1
   simp only[V.set,hy,V.at,List.getElem?_set_self hj]
   exact vW p h
   simp at h
   simp at h
theorem oY:∀ (xs ys:List V) {cs:List Value},RL w Pb (xs++ys) cs []->RL w Pb xs (cs.take (V.ns xs)) []/\RL w Pb ys (cs.drop (V.ns xs)) []
 | [],ys,cs,h=>⟨⟨by simp[V.ns],rfl⟩,by simpa[V.ns] using h⟩
 | x::xs,ys,cs,h=>by
   obtain⟨c1,c2,F1,F2,rfl,hF,h1,h2⟩:=h
   obtain⟨rfl,rfl⟩:=List.append_eq_nil_iff.1 hF.symm
   obtain⟨k1,k2⟩:=oY xs ys h2
   have hl:=fk x h1
   have e:V.ns (x::xs)=c1.length+V.ns xs:=by simp only[V.ns];omega
   rw[e,List.take_length_add_append,List.drop_length_add_append]
   exact⟨⟨c1,_,[],[],rfl,rfl,h1,k1⟩,k2⟩
theorem C6.same{g o:Nat}{cs:List Value}{cells:Array Value}(hb:Blk w g cells)(h:∀ j u,cs[j]? =some u->cells[o+j]? =some u):C6 w w g o cs where
 os:=rfl
 tape:=rfl
 output:=rfl
 size:=rfl
 O5:=fun _ _=>rfl
 shape:=Shp.refl _
 PW:=fun o4 M4=>by
  obtain⟨e,fr,h1,h2⟩:=hb
  obtain⟨e',YA,Tw,Yw⟩:=M4
  rw[h1]at Tw
  simp only[Zal,Obj.cells.injEq]at Tw
  obtain⟨rfl,_,_⟩:=Tw
  exact⟨cells,⟨e',YA,by rw[h1];simp_all,Yw⟩,rfl,fun _ _=>rfl,h⟩
theorem s9.BZ(hs:s9 N Pb Kb A a w F) {k g1 o1 sz g o c lo:Nat} {p:List Nat} {xs xs':List V} {new:List Value} (B0:A.at (.key k) p=some (g1,o1,.own sz xs g o c)) (hc:0<c) (K4:V.aK xs=false)
 (hlo:lo+new.length<=xs.length*sz) (hlen:xs'.length=xs.length) (hN:aM sz xs') (h1:∀ v,v∈new->v.oneCell'=true)
 (Qn:∀ flat,RL w Pb xs flat []->RL w Pb xs' (flat.take lo++new++flat.drop (lo+new.length)) []):
 ∃ w' F',(storeCells ⟨g,o+lo,none⟩ new 0).run P w=.ok () w'/\s9 N Pb Kb (A.setAt (.key k) p (.own sz xs' g o c)) a w' F'/\A4 Kb w w':=by
 obtain⟨Fr,Fu,Pf,⟨cs,cells,hb,Of,s8⟩,hnd,x6,hfr⟩:=hs.split B0
 rcases Of with ⟨h0,_⟩ | ⟨Tw,hsz,hle,hcs,ZG,Wd,flat,F',Qs,WO,hr,l6,VS,Td⟩
 omega
 have hF0:=ia xs K4 hr
 subst hF0
 subst WO
 have hfl:flat.length=xs.length*sz:=by rw[kq _ hr,qE _ ZG]
 have TX:xs.length*sz<=c*sz:=Nat.mul_le_mul_right _ hle
 obtain⟨w',B6,A7⟩:=iT (P:=P) (g:=g) (o:=o+lo) new 0 w Qs l6 Zaa h1
 rw[Nat.add_zero]at A7
 have hg:=hfr g Zab
 have M7:s9 N Pb Kb (A.setAt (.key k) p .b9) a w' (cM F (.key k) Fr):=Pf.O5 (fun r=>x6 r g Zab) hg.1 A7.O5 A7.size
 have Yi:∀ x,Pb x->w'.heap[x]? =w.heap[x]? :=fun x hx=>A7.O5 x (by rintro rfl;exact Wd hx)
 obtain⟨o4,M4,hsize,Pt,S0⟩:=A7.PW Qs l6
 have hnl:=Qn flat hr
 have hR:R w' Pb (.own sz xs' g o c) cs [g]:=by
  refine .inr ⟨Tw,hsz,Zaa,by rw[hlen];exact hcs,hN,Wd,_,[],o4,rfl,fg xs' hnl Yi Zab (fun _ h=>h) Zab,M4,Zaa,fun j u hu=>?_⟩
  by_cases j1:j<lo
  rw[List.append_assoc,Za7 Zaj,List.getElem?_take_of_lt j1]at hu
  rw[Pt _ (.inl Zaa)]
  exact Td j u hu
  by_cases j2:j<lo+new.length
  rw[List.append_assoc,Za2 Zaj,Za7 Zaj]at hu
  have:=S0 _ _ hu
  have e:(flat.take lo).length=lo:=by rw[List.length_take];omega
  rw[e,show o+lo+(j-lo)=o+j from Zaa]at this
  exact this
  have e:(flat.take lo++new).length=lo+new.length:=by rw[Zan,List.length_take];omega
  rw[Za2 Zaa,e,List.getElem?_drop,show lo+new.length+(j-(lo+new.length))=j from Zaa]at hu
  rw[Pt _ (.inr Zaa)]
  exact Td j u hu
 have TY:(A.setAt (.key k) p .b9).at (.key k) p=some (g1,o1,.b9):=by
  simp only[AS.at]at B0
  split at B0
  rename_i g0 t hk
  simp only[AS.setAt,hk,AS.at,lk,if_true]
  exact vW p B0
  simp at B0
 have Ts:g1≠g:=by
  have hh:=TY
  simp only[AS.at]at hh
  split at hh
  rename_i g0 t hk
  obtain⟨OP,e,hA⟩:=Pf.root k g0 t hk
  have hin:g1∈cM F (.key k) Fr (.key k):=by
   rw[e]
   rcases js p hA hh with ⟨h,_⟩ | h
   rw[h];simp
   simp[h]
  rintro rfl
  exact x6 (.key k) g1 Zab hin
  simp at hh
 have Y9:C6 w' w' g1 o1 cs:=by
  obtain⟨e,fr,XU,hf⟩:=hb
  exact C6.same (cells:=cells) ⟨e,fr,(A7.O5 g1 Ts).trans XU,hf⟩ s8
 obtain⟨F3,Ot,_⟩:=M7.store TY hR (by rfl) hnd (fun r x hx=>x6 r x hx) (fun x hx=>by rw[A7.size];exact hfr x hx) Y9
 refine⟨w',F3,B6,Ot.eqv ⟨fun i=>?_,fun q=>?_⟩,⟨A7.os,A7.tape,A7.output,by rw[A7.size];omega,fun x hx=>A7.O5 x (by rintro rfl;exact hg.1 hx),A7.shape⟩⟩
 simp only[AS.at]at B0
 split at B0
 rename_i g0 t hk
 simp only[AS.setAt,hk,lk,if_true];rfl
 simp at B0
 simp only[AS.at]at B0
 split at B0
 rename_i g0 t hk
 simp only[AS.setAt,hk,lk,if_true,set_set]
 split <;> rfl
 simp at B0
theorem Kw{zc:Array Value}(h:0<zc.size)(n:Nat):(Builtin.zeroCells zc (n+1)).toList=zc.toList++(Builtin.zeroCells zc n).toList:=by
 apply List.ext_getElem
 simp[Builtin.zeroCells,Nat.add_mul];omega
 intro i h1 h2
 by_cases hi:i<zc.size
 rw[List.getElem_append_left (by simpa using hi)]
 simp[Builtin.zeroCells,Nat.mod_eq_of_lt hi,hi]
 rw[List.getElem_append_right (by simpa using hi)]
 simp only[Builtin.zeroCells,Array.getElem_toList,Array.getElem_map,Array.getElem_range,Array.length_toList]
 rw[Nat.mod_eq_sub_mod Zaa]
theorem DD{v:V}{zc:Array Value}(h:0<zc.size)(hr:R w Pb v zc.toList []):∀ n,RL w Pb (List.replicate n v) (Builtin.zeroCells zc n).toList []
 | 0=>⟨by simp[Builtin.zeroCells],rfl⟩
 | n+1=>by
   rw[Kw h,List.replicate_succ]
   exact⟨_,_,[],[],rfl,rfl,hr,DD h hr n⟩
theorem FB{zc:Array Value}(n:Nat):(Builtin.zeroCells zc n).toList.length=n*zc.size:=by simp[Builtin.zeroCells]
theorem Li{v:V}{zc:Array Value}(h:0<zc.size)(hr:R w Pb v zc.toList [])(n:Nat):∀ x,x∈(Builtin.zeroCells zc n).toList->x.oneCell'=true:=tf _ (DD h hr n)
theorem wD:∀ (xs:List V) (k:Nat),V.aK xs=false->V.aK (xs.take k)=false
 | xs,0,h=>by simp[V.aK]
 | [],k+1,h=>by simpa using h
 | v::vs,k+1,h=>by
   simp only[V.aK,Bool.or_eq_false_iff]at h
   simp only[List.take_succ_cons,V.aK,Bool.or_eq_false_iff]
   exact⟨h.1,wD vs k h.2⟩
def clC(k:Nat)(p:List Nat)(lo n sz:Nat)(xs:List V)(g q c g1 o1:Nat)(z:ZT P):Cu P where
 X:=Unit
 pre _ o A:=match o.op,o.dst with
  | .call ⟨.builtin .clear,⟨[x]⟩,⟨[T]⟩⟩,none=>match tD P T,A.ev x with
    | some (.sl e),.hd r p' L2 g' o' Ox n' _=>((e,r,p',L2,g',o',Ox,n')=(z.T,m0.key k,p,sz,g,q,lo,n))/\A.at (.key k) p=some (g1,o1,.own sz xs g q c)/\lo+n<=xs.length/\V.aK xs=false/\aM sz xs/\z.v.n=sz
    | _,_=>False
  | _,_=>False
 post _ _ A:=A.setAt (.key k) p (.own sz (xs.take lo++List.replicate n z.v++xs.drop (lo+n)) g q c)
 ok:=by
  rintro N ⟨dst,op,ty,pos,after,D5⟩ A K-hp hK
  replace hK:=hK ()
  simp only at hp
  split at hp
  rename_i x T
  split at hp
  rename_i e r p' L2 g' o' Ox n' c' e1 e2
  obtain⟨h1,B0,hlo,K4,hN,Xl⟩:=hp
  simp only[Zao]at h1
  obtain⟨rfl,rfl,rfl,rfl,rfl,rfl,rfl,rfl⟩:=h1
  intro Pb Kb a w F Q hs
  obtain⟨_,hx⟩:=eE hs x
  rw[e2]at hx
  obtain⟨_,hle,B,hv,hB⟩:=hx
  have hv:a.eval x=.slice B n' c':=(List.cons.inj hv).1
  have hu:=jU e1
  unfold Oper.wp
  by_cases hn:n'=0
  subst hn
  have B6:(execOp a.eval ⟨none,.call ⟨.builtin .clear,⟨[x]⟩,⟨[T]⟩⟩,ty,pos,after,D5⟩).run P w=.ok (.value (.tuple #[])) w:=by
   cases B <;> simp[execOp,resolve,Deferred.ofValue,invoke,builtin,Builtin.clear_,hv,aQ hu]
  rw[B6,Oper.upon_value]
  obtain⟨cu,Fu,q1,q2⟩:=hs.uH B0
  have:=q2 _ rfl q1
  have t2:s9 N Pb Kb (A.setAt (.key k) p' (.own L2 (xs.take Ox++List.replicate 0 z.v++xs.drop (Ox+0)) g' o' c)) a w F:=by simpa using this
  exact⟨_,Pb,Kb,F,hK,t2,fun _ h=>h,fun _ h=>h,fun _ h=>.inl h,A4.refl _ _⟩
  obtain rfl:=hB Zaa
  obtain⟨inf,zv,z1,z2,z3⟩:=z.ok
  have WA:R w Pb z.v zv.cells.toList []:=tF z.v z3
  have Xm:zv.cells.size=z.v.n:=by have:=fk _ WA;simpa using this
  obtain⟨Fr,Fu,_,⟨cs,cells,_,Of,_⟩,_⟩:=hs.split B0
  have hc:0<c/\0<z.v.n:=by
   rcases Of with ⟨_,rfl,_⟩ | ⟨h,h2,_⟩
   simp at hlo;omega
   exact⟨h,by rw[Xl];exact h2⟩
  have c5:0<zv.cells.size:=by rw[Xm];exact hc.2
  have SZ:n'*zv.cells.size=n'*L2:=by rw[Xm,Xl]
  have ZA:Ox*L2+n'*L2<=xs.length*L2:=by rw[<- Nat.add_mul];exact Nat.mul_le_mul_right _ hlo
  obtain⟨w',F',B6,B4,hk⟩:=hs.BZ (P:=P) (lo:=Ox*L2) (xs':=xs.take Ox++List.replicate n' z.v++xs.drop (Ox+n')) (new:=(Builtin.zeroCells zv.cells n').toList) B0 hc.1 K4 (by rw[FB,SZ];exact ZA)
   Zaj (fun v hv=>by
    rcases Zav.1 hv with h | h
    rcases Zav.1 h with h | h
    exact hN v (List.mem_of_mem_take h)
    rw[(List.mem_replicate.1 h).2,Xl]
    exact hN v (List.mem_of_mem_drop h)) (Li c5 WA n') (fun flat hf=>by
    have k1:=(oY (xs.take Ox) (xs.drop Ox) (cs:=flat) (by rw[List.take_append_drop];exact hf)).1
    have k2:=(oY (xs.take (Ox+n')) (xs.drop (Ox+n')) (cs:=flat) (by rw[List.take_append_drop];exact hf)).2
    rw[eT xs Ox hN Zaa]at k1
    rw[eT xs _ hN hlo,Nat.add_mul]at k2
    rw[FB,SZ]
    exact ke _ _ (ke _ _ k1 (DD c5 WA n')) k2)
  have QX:(execOp a.eval ⟨none,.call ⟨.builtin .clear,⟨[x]⟩,⟨[T]⟩⟩,ty,pos,after,D5⟩).run P w=.ok (.value (.tuple #[])) w':=by
   have hcl:(Builtin.clear_ #[T] ty #[a.eval x]).run P w=.ok (.tuple #[]) w':=by
    rw[hv]
    unfold Builtin.clear_
    simp only[List.getElem?_toArray,List.getElem?_cons_zero,Zay,aQ hu,Zaq]
    obtain⟨m,rfl⟩:∃ m,n'=m+1:=⟨n'-1,Zaa⟩
    simp only[Zay,zeroValue,typeInfo,Zaq]
    simp[z1,z2,B6]
   simp[execOp,resolve,Deferred.ofValue,invoke,builtin,hcl]
  rw[QX,Oper.upon_value]
  exact⟨_,Pb,Kb,F',hK,B4,fun _ h=>h,fun _ h=>h,fun _ h=>.inl h,hk⟩
  exact hp.elim
  exact hp.elim
def saC(k:Nat)(p:List Nat)(lo n sz:Nat)(xs:List V)(g q c g1 o1:Nat):Cu P where
 X:=Unit
 pre N o A:=match o.op,o.dst with
  | .call ⟨.builtin .append,⟨[s,x]⟩,⟨[T,T2]⟩⟩,some d=>match o.type==T&&Nat.blt d N,pb P T T2 with
    | true,some t=>match A.ev x with
      | .hd r p' L2 g' q' Ox n' c'=>((r,p',L2,g',q',Ox,n')=(m0.key k,p,sz,g,q,lo,n))/\A.ev s=.hd (.key k) p sz g q 0 0 c/\A.at (.key k) p=some (g1,o1,.own sz xs g q c)/\sz=t.sz/\0<xs.length/\lo+n<=xs.length/\V.aK xs=false/\aM sz xs/\c'=c'
      | _=>False
    | _,_=>False
  | _,_=>False
 post _ o A:=(A.setAt (.key k) p (.own sz ((xs.drop lo).take n++xs.drop n) g q c)).put o.dst (.hd (.key k) p sz g q 0 n c)
 ok:=by
  rintro N ⟨dst,op,ty,pos,after,D5⟩ A K-hp hK
  replace hK:=hK ()
  simp only at hp
  split at hp
  rename_i s x T T2 d
  split at hp
  rename_i t e1 e2
  split at hp
  rename_i r p' L2 g' q' Ox n' c' e3
  obtain⟨h1,es,B0,hsz,h0,hlo,K4,hN,_⟩:=hp
  simp only[Zao]at h1
  obtain⟨rfl,rfl,rfl,rfl,rfl,rfl,rfl⟩:=h1
  simp only[Zam,Zbj]at e1
  obtain⟨e,e',q1,q2,q3,q4,q5,q6⟩:=kj e2
  subst hsz
  intro Pb Kb a w F Q hs
  obtain⟨_,hx⟩:=eE hs s
  rw[es]at hx
  obtain⟨_,hle,B,hv,hB⟩:=hx
  have hv:a.eval s=.slice B 0 c:=(List.cons.inj hv).1
  have hrd:Qg A x=some (((t.sz=t.sz/\g'=g'/\q'=q')/\Ox+n'<=xs.length/\V.aK xs=false/\aM t.sz xs),(xs.drop Ox).take n'):=by
   unfold Qg
   rw[e3]
   show (match A.at (.key k) p' with | some (_,_,u)=>mf Ox n' t.sz g' q' u | none=>none)=_
   rw[B0]
   rfl
  have Tf:aM t.sz ((xs.drop Ox).take n'):=fun v hv=>hN v (List.mem_of_mem_drop (List.mem_of_mem_take hv))
  have V0:V.aK ((xs.drop Ox).take n')=false:=wD _ _ (rZ _ _ K4)
  obtain⟨B2,c2,D2,E',M0,Q4,hl2⟩:=oZ (P:=P) hs hrd ⟨⟨rfl,rfl,rfl⟩,hlo,K4,hN⟩ Tf V0
  have hyl:((xs.drop Ox).take n').length=n':=Zaj
  rw[hyl]at hl2 E' Q4
  obtain⟨Fr,Fu,_,⟨cs,cells,_,Of,_⟩,_⟩:=hs.split B0
  have hc:0<c/\xs.length<=c:=by
   rcases Of with ⟨_,rfl,_⟩ | ⟨h,_,h2,_⟩
   simp at h0
   exact⟨h,h2⟩
  obtain rfl:=hB hc.1
  have ZA:n'*t.sz<=xs.length*t.sz:=Nat.mul_le_mul_right _ Zaa
  obtain⟨w',F',B6,B4,hk⟩:=hs.BZ (P:=P) (lo:=0) (xs':=(xs.drop Ox).take n'++xs.drop n') (new:=D2) B0 hc.1 K4 (by rw[hl2];omega)
   Zaj (fun v hv=>by
    rcases Zav.1 hv with h | h
    exact Tf v h
    exact hN v (List.mem_of_mem_drop h)) (tf _ M0) (fun flat hf=>by
    have k2:=(oY (xs.take n') (xs.drop n') (cs:=flat) (by rw[List.take_append_drop];exact hf)).2
    rw[eT xs _ hN Zaa]at k2
    rw[hl2,List.take_zero,List.nil_append,Zau]
    exact ke _ _ M0 k2)
  have QX:(execOp a.eval ⟨some d,.call ⟨.builtin .append,⟨[s,x]⟩,⟨[T,T2]⟩⟩,ty,pos,after,D5⟩).run P w=.ok (.value (.slice (some ⟨g',q'+0*t.sz,none⟩) n' c)) w':=by
   have Sf:(Builtin.append_ #[T,T2] ty #[a.eval s,a.eval x]).run P w=.ok (.slice (some ⟨g',q'+0*t.sz,none⟩) n' c) w':=by
    have Q0:(Builtin.lenOf (a.eval x)).run P w=.ok n' w:=by rw[E'];rfl
    rw[hv]
    unfold Builtin.append_
    simp only[List.getElem?_toArray,List.getElem?_cons_zero,List.getElem?_cons_succ,Zay,aQ (jU q1),Zaq]
    simp only[dq q3,Zaq]
    simp only[aQ (jU q2),Zaq,Zaz]
    rw[if_neg (show ¬ (false=true) by decide)]
    rw[Zay,Q0]
    simp only[Zaq]
    rw[if_pos Zaa]
    simp only[Zay,Bool.not_false,if_true,Q4 w (fun _=>rfl),Zaq]
    simp only[eO,Nat.zero_mul,Nat.add_zero]at B6 ⊢
    rw[B6]
    simp
   have e:((⟨[s,x]⟩:Array Operand).map a.eval)= #[a.eval s,a.eval x]:=Zab
   simp only[execOp,resolve,invoke,builtin,Zay,Zaz,Zaq,e,Sf]
  obtain⟨F2,M7⟩:=B4.rX (d:=some d) (v:=.hd (.key k) p' t.sz g' q' 0 n' c) (x:=.slice (some ⟨g',q'+0*t.sz,none⟩) n' c) (bW e1.2) ⟨rfl,Zaa,_,rfl,fun _=>rfl⟩
  unfold Oper.wp
  rw[QX,Oper.upon_value]
  exact⟨_,Pb,Kb,F2,hK,M7,fun _ h=>h,fun _ h=>h,fun _ h=>.inl h,hk⟩
  exact hp.elim
  exact hp.elim
  exact hp.elim
def Z2(k:Nat)(p:List Nat)(n sz:Nat)(xs:List V)(g q c g1 o1:Nat):Cu P where
 X:=Unit
 pre _ o A:=match o.op,o.dst with
  | .store T x y,none=>match ti P T,A.ev y with
    | some i,.hd r p' L2 g' q' Ox n' c'=>((r,p',L2,g',q',Ox,n',c')=(m0.key k,p,sz,g,q,0,n,c))/\A.ev x=.ptr (.key k) p g1 o1/\A.at (.key k) p=some (g1,o1,.own sz xs g q c)/\i.sz=1/\n<=xs.length/\V.aK xs=false
    | _,_=>False
  | _,_=>False
 post _ _ A:=A.setAt (.key k) p (.own sz (xs.take n) g q c)
 ok:=by
  rintro N ⟨dst,op,ty,pos,after,D5⟩ A K-hp hK
  replace hK:=hK ()
  simp only at hp
  split at hp
  rename_i T x y
  split at hp
  rename_i i r p' L2 g' q' Ox n' c' e1 e2
  obtain⟨h1,ex,B0,hi,hn,K4⟩:=hp
  simp only[Zao]at h1
  obtain⟨rfl,rfl,rfl,rfl,rfl,rfl,rfl,rfl⟩:=h1
  intro Pb Kb a w F Q hs
  obtain⟨_,hx⟩:=eE hs y
  rw[e2]at hx
  obtain⟨_,hle,B,hv,hB⟩:=hx
  have hv:a.eval y=.slice B n' c':=(List.cons.inj hv).1
  obtain⟨_,UX⟩:=eE hs x
  rw[ex]at UX
  have hp:a.eval x=.pointer (some ⟨g1,o1,none⟩):=by have:=UX.2;simpa using this
  obtain⟨Fr,Fu,Pf,⟨cs,cells,hb,Of,s8⟩,hnd,x6,hfr⟩:=hs.split B0
  have hR:R w Pb (.own L2 (xs.take n') g' q' c') [a.eval y] Fu:=by
   rw[hv]
   rcases Of with ⟨rfl,rfl,rfl,A0,_⟩ | ⟨Tw,hsz,hlx,hcs,ZG,Wd,flat,F',Qs,WO,hr,l6,VS,Td⟩
   have:n'=0:=by simpa using hn
   subst this
   exact .inl ⟨rfl,rfl,rfl,B,rfl⟩
   have hF0:=ia xs K4 hr
   subst hF0
   obtain rfl:=hB Tw
   have hl:(xs.take n').length=n':=by rw[List.length_take];omega
   refine .inr ⟨Tw,hsz,Zaa,by rw[hl,Nat.zero_mul,Nat.add_zero],fun v hv=>ZG v (List.mem_of_mem_take hv),Wd,flat.take (V.ns (xs.take n')),[],Qs,WO,?_,l6,VS,fun j u hu=>Td j u ?_⟩
   exact(oY (xs.take n') (xs.drop n') (cs:=flat) (by rw[List.take_append_drop];exact hr)).1
   rw[List.getElem?_take]at hu
   split at hu
   exact hu
   simp at hu
  have TY:(A.setAt (.key k) p' .b9).at (.key k) p'=some (g1,o1,.b9):=by
   simp only[AS.at]at B0
   split at B0
   rename_i g0 t hk
   simp only[AS.setAt,hk,AS.at,lk,if_true]
   exact vW p' B0
   simp at B0
  have hcs:cs.length=1:=fk _ Of
  obtain⟨w',B6,A7⟩:=iT (P:=P) (g:=g1) (o:=o1) [a.eval y] 0 w cells hb (by
   have:cs[0]? =some (cs[0]'Zaa):=Zar Zaa
   have:=(Zbf.1 (s8 0 _ this)).1
   simp only[Zap,Zas];omega) (fun v h=>by rw[Zat.1 h,hv];rfl)
  rw[Nat.add_zero]at A7
  have QX:(execOp a.eval ⟨none,.store T x y,ty,pos,after,D5⟩).run P w=.ok .skip w':=by
   have Pj:(a.eval y).cells= #[a.eval y]:=by rw[hv];rfl
   have hsz:(a.eval y).cells.size=i.sz:=by rw[Pj,hi];rfl
   have Xy:(storeCells ⟨g1,o1,none⟩ (a.eval y).cells.toList 0).run P w=.ok () w':=by rw[Pj];exact B6
   simp only[execOp,Instr.storeAt,hp,Instr.sureAddr,Zay,Zaz,Zaq,storeVar,dq e1,hsz,ne_eq,not_true_eq_false,if_false,Xy]
  obtain⟨F2,M7,hg⟩:=Pf.store TY hR (by rfl) hnd x6 hfr A7
  have Ot:s9 N Pb Kb (A.setAt (.key k) p' (.own L2 (xs.take n') g' q' c')) a w' F2:=by
   simp only[AS.at]at B0
   split at B0
   rename_i g0 t hk
   refine M7.eqv ⟨fun i=>?_,fun q=>?_⟩
   simp only[AS.setAt,hk,lk,if_true];rfl
   simp only[AS.setAt,hk,lk,if_true,set_set]
   split <;> rfl
   simp at B0
  unfold Oper.wp
  rw[QX,Oper.upon_skip]
  exact⟨_,Pb,Kb,F2,hK,Ot,fun _ h=>h,fun _ h=>h,fun _ h=>.inl h,⟨A7.os,A7.tape,A7.output,by rw[A7.size];omega,fun x hx=>A7.O5 x (fun c=>hg (c ▸ hx)),A7.shape⟩⟩
  exact hp.elim
  exact hp.elim
end
theorem JG{xs ys:List V}{j sz g o c:Nat}{x x' v:V}{p:List Nat}(h:xs[j]? =some x)(hx:V.set x p v=x')(e:xs.set j x'=ys):V.set (.own sz xs g o c) (j::p) v=.own sz ys g o c:=by simp only[V.set,h,hx,e]
section
variable {P:Program}
def sdC(n:Nat)(l h m:Int):Cu P where
 X:=Unit
 pre N o A:=match o.op,o.dst with
  | .slice T x (some lo) (some hi) (some mx),some d=>match tD P T,Nat.blt d N with
    | some (.sl e),true=>match ti P e,A.ev x with
      | some _,.hd _ _ _ _ _ _ n' _=>A.ev lo=.lit (.int .i64 l)/\A.ev hi=.lit (.int .i64 h)/\A.ev mx=.lit (.int .i64 m)/\n'=n/\0<=l/\l<=h/\h<=m/\m<=n
      | _,_=>False
    | _,_=>False
  | _,_=>False
 post _ o A:=A.put o.dst .b9
 ok:=by
  rintro N ⟨dst,op,ty,pos,after,D5⟩ A K-hp hK
  replace hK:=hK ()
  simp only at hp hK
  split at hp
  rename_i T x lo hi mx d
  split at hp
  rename_i e e1 e2
  split at hp
  rename_i t r p sz g q Ox n' c e3 e4
  obtain⟨h1,h2,h3,rfl,k1,k2,k3,k4⟩:=hp
  refine hX (v:=.b9) rfl (bW e2) hK fun Pb Kb a w F hs=>?_
  obtain⟨_,hx⟩:=eE hs x
  rw[e4]at hx
  obtain⟨_,hle,B,hv,hB⟩:=hx
  have hv:a.eval x=.slice B n' c:=(List.cons.inj hv).1
  have b1:=cF hs h1
  have b2:=cF hs h2
  have b3:=cF hs h3
  refine⟨.slice (if m.toNat=l.toNat then B else B.map (·.add (l.toNat*t.sz))) (h.toNat-l.toNat) (m.toNat-l.toNat),?_,rfl⟩
  have q1:(Instr.sliceBounds true n' c (some (.int .i64 l)) (some (.int .i64 h)) (some (.int .i64 m))).run P w=.ok (l.toNat,h.toNat,m.toNat) w:=by
   simp only[Instr.sliceBounds,Instr.sliceBound,asIntOf,Zay,Zaz,Zaq]
   rw[if_pos Zaa]
   simp only[Zaz,Zaq]
   rw[if_pos Zaa]
   simp only[Zaz,Zaq]
   rw[if_pos Zaa]
   simp only[Zaz,Zaq]
  simp only[execOp,Option.map_some,Instr.sliceAt,Instr.slice,Zay,aQ (jU e1),Zaq,hv,b1,b2,b3,q1,dq e3,Zaz]
  exact hp.elim
  exact hp.elim
  exact hp.elim
def sbC(k:Nat)(p:List Nat)(sz:Nat)(xs:List V)(g q c n g1 o1:Nat)(l h:Nat):Cu P where
 X:=Unit
 pre N o A:=match o.op,o.dst with
  | .slice T x (some lo) (some hi) none,some d=>match tD P T,Nat.blt d N with
    | some (.sl e),true=>match ti P e with
      | some t=>A.ev x=.hd (.key k) p sz g q 0 n c/\A.at (.key k) p=some (g1,o1,.own sz xs g q c)/\A.ev lo=.lit (.int .i64 (l:Int))/\A.ev hi=.lit (.int .i64 (h:Int))/\sz=t.sz/\l<=h/\h<=xs.length
      | none=>False
    | _,_=>False
  | _,_=>False
 post _ o A:=A.put o.dst (.hd (.key k) p sz g q l (h-l) (c-l))
 ok:=by
  rintro N ⟨dst,op,ty,pos,after,D5⟩ A K-hp hK
  replace hK:=hK ()
  simp only at hp hK
  split at hp
  rename_i T x lo hi d
  split at hp
  rename_i e e1 e2
  split at hp
  rename_i t e3
  obtain⟨ex,B0,h1,h2,hsz,k1,k2⟩:=hp
  subst hsz
  refine hX (v:=.hd (.key k) p t.sz g q l (h-l) (c-l)) rfl (bW e2) hK fun Pb Kb a w F hs=>?_
  obtain⟨_,hx⟩:=eE hs x
  rw[ex]at hx
  obtain⟨_,hle,B,hv,hB⟩:=hx
  have hv:a.eval x=.slice B n c:=(List.cons.inj hv).1
  have b1:=cF hs h1
  have b2:=cF hs h2
  obtain⟨_,cs,cells,_,Of,_⟩:=kF hs B0
  have hc:xs.length<=c:=by
   rcases Of with ⟨_,rfl,_⟩ | ⟨_,_,h,_⟩
   simp
   exact h
  refine⟨.slice (if c=l then B else B.map (·.add (l*t.sz))) (h-l) (c-l),?_,rfl,Zaa,_,rfl,fun h0=>?_⟩
  have q1:(Instr.sliceBounds true n c (some (.int .i64 (l:Int))) (some (.int .i64 (h:Int))) none).run P w=.ok (l,h,c) w:=by
   simp only[Instr.sliceBounds,Instr.sliceBound,asIntOf,Zay,Zaz,Zaq]
   rw[if_pos Zaa]
   simp only[Zaz,Zaq]
   rw[if_pos Zaa]
   simp only[Zaz,Zaq,Int.toNat_natCast]
  simp only[execOp,Option.map_some,Option.map_none,Instr.sliceAt,Instr.slice,Zay,aQ (jU e1),Zaq,hv,b1,b2,q1,dq e3,Zaz]
  rw[if_neg Zaa,hB Zaa]
  simp[eO]
  exact hp.elim
  exact hp.elim
  exact hp.elim
def mfE:Eu P where
 X:=Unit
 pre N o A Sl _:=match o.op,o.dst with
  | .makeFunc fn first A3,some d=>match Nat.blt d N&&Sl.contains d,lb (first.toList.map A.ev),lb (A3.toList.map A.ev) with
    | true,some l1,some l2=>(Value.func fn l1.toArray l2.toArray).oneCell'=true
    | _,_,_=>False
  | _,_=>False
 U o A _ B:=match o.op,o.dst with
   | .makeFunc fn first A3,some d=>match lb (first.toList.map A.ev),lb (A3.toList.map A.ev) with
     | some l1,some l2=>B.put (some d) (.lit (.func fn l1.toArray l2.toArray))
     | _,_=>B
   | _,_=>B
 Xe:=by
  rintro N ⟨dst,op,ty,pos,after,D5⟩ A Sl Hl hp fs
  simp only at hp
  split at hp
  rename_i fn first A3 d
  split at hp
  rename_i l1 l2 e1 e2 e3
  simp only[Zam,Zbg,Zbi]at e1
  simp only[e2,e3]
  exact Cc (v:=fun _:Unit=>.lit (.func fn l1.toArray l2.toArray)) e1.2 fs
  exact hp.elim
  exact hp.elim
 ok:=by
  rintro N ⟨dst,op,ty,pos,after,D5⟩ A A' Sl Hl hg hp hA hR
  simp only at hp
  split at hp
  rename_i fn first A3 d
  split at hp
  rename_i l1 l2 e1 e2 e3
  simp only[Zam]at e1
  have q1:first.toList.map A'.ev=first.toList.map A.ev:=List.map_congr_left fun x hx=>bN fun t ht=>hA t (by subst ht;simp[Op.operands];left;simpa using hx)
  have q2:A3.toList.map A'.ev=A3.toList.map A.ev:=List.map_congr_left fun x hx=>bN fun t ht=>hA t (by subst ht;simp[Op.operands];right;simpa using hx)
  refine(UH (P:=P)).ok hg ?_ fun _=>⟨(),?_⟩
  simp only[UH,q1,q2,e1.1,e2,e3];exact hp
  simp only[UH,q1,q2,e2,e3]
  exact hp.elim
  exact hp.elim
end
theorem KH(s:BL):kg s 20<=20:=by
 have key:∀ (l:BL) (n:Int),n<=20->l.foldl (kS 20) n<=20:=fun l=>by
  induction l with
  | nil=>exact fun n h=>h
  | cons c l ih=>exact fun n _=>ih _ (by unfold kS;omega)
 unfold kg
 split
 exact key s 0 Zaa
 omega
def pj(gs:List l4):Prop:= ∀ y,y∈gs->y.wa<=20
theorem pj.set{gs:List l4}{f:l4->l4}(h:pj gs)(hf:∀ z,gs.getLast? =some z->(f z).wa<=20):pj (cS gs f):=by
 by_cases hn:gs=[]
 subst hn;simp[cS,pj]
 obtain⟨⟨l,z⟩,rfl⟩:=jL hn
 rw[dv]
 intro y hy
 rcases Zav.1 hy with hy | hy
 exact h y (by simp[hy])
 rw[Zat.1 hy];exact hf z Zab
theorem KG{gs:List l4}{w d:BL}{b:Bool}(h:pj gs):pj (ey gs w d b).1:=by
 have hl:∀ z,gs.getLast? =some z->z.wa<=20:=fun z hz=>h z (List.mem_of_getLast? hz)
 unfold ey
 split
 split
 intro y hy
 rcases Zav.1 hy with hy | hy
 exact h y hy
 rw[Zat.1 hy];simp
 exact h.set fun z hz=>hl z hz
 split
 exact h
 split
 exact h.set fun z hz=>hl z hz
 split
 exact h.set fun z hz=>by have:=KH d;simp only;omega
 exact h
theorem EY(t:BL):pj (ct t):=by
 have:∀ (l:List BL) (x:List l4×Bool),pj x.1->pj (l.foldl cf x).1:=by
  intro l
  induction l with
  | nil=>exact fun x h=>h
  | cons a l ih=>exact fun x h=>ih _ (KG h)
 exact this _ _ (by intro y hy;simp at hy)
theorem Jr(n:BL):∀ (gs:List l4) {x:(List r7×Nat)×Bool},x.1.2<=20->pj gs->(gs.foldl (bR n) x).1.2<=20
 | [],x,h,_=>h
 | g::gs,x,h,h2=>by
   refine Jr n gs ?_ (fun y hy=>h2 y (by simp[hy]))
   unfold bR
   split
   have:=h2 g Zab;simp only;omega
   exact h
theorem CE{gs:List l4}(n:BL)(h:pj gs):(eU gs n).wa<=20:=by
 have key:∀ q,(Pv gs q).1.wa<=20:=fun q=>Jr q gs Zab h
 unfold eU
 split <;> exact key _
theorem hY(k:Int)(t n:BL):(bC k t n).wa<=20:=by
 unfold bC
 split
 exact CE n (EY t)
 split
 simp
 exact CE n (fun y hy=>by simp at hy)
def Oq(ru:List r7)(x:w5):Bool:=aA x.ad&&av ru (pathOf x.ad)
def Pa(y:k9)(s:BL):Bool:=aA s&&av y.gr.ru (pathOf s)
def OV(y:k9)(x:w5):Bool:=Pa y x.ad
def M8(y:k9)(l:List w5):Int:=if (l.findIdx fun x=>!(Pa y x.ad))<l.length then ((l.findIdx fun x=>!(Pa y x.ad):Nat):Int) else -1
def ba(w:List Pg)(n d:BL):l4:=⟨[n],(bC (ae w (ag d) 2).1 (ae w (ag d) 2).2 n).ru,(bC (ae w (ag d) 2).1 (ae w (ag d) 2).2 n).wa⟩
def n9(w:List Pg)(y:k9)(a7:Int):k9:=cJ y a7 (ae w (ag y.na) y.tr).1 y.tr
def G'(w:List Pg)(n:BL)(y:k9)(a7:Int):k9:=
 if (ae w (ag y.na) y.tr).1=3/\y.tr+1<3 then { n9 w y a7 with tr:=y.tr+1 }
 else { n9 w y a7 with kn:=true,gr:=ba w n y.na,re:=max (n9 w y a7).re (a7+((ba w n y.na).wa:Int)),td:=y.td.filter (Oq (ba w n y.na).ru) }
def A6(w:List Pg)(y:k9)(a7:Int):k9:=cJ { y with td:=y.td.drop 1 } a7 (ae w (y.td.getD 0 j9).ad (y.td.getD 0 j9).tr).1 (y.td.getD 0 j9).tr
def OT(w:List Pg)(t:j6)(i:Nat):j6:=
 { t with hs:=t.hs.set i (G' w t.na (t.hs.getD i c5) t.a7),lk:=t.lk++[⟨t.a7,ag (t.hs.getD i c5).na,(ae w (ag (t.hs.getD i c5).na) (t.hs.getD i c5).tr).1⟩] }
def I5(w:List Pg)(t:j6)(i:Nat):j6:=
 let y:=t.hs.getD i c5
 let it:=y.td.getD 0 j9
 let g:=ae w it.ad it.tr
 let t1:j6:={ t with hs:=t.hs.set i (A6 w y t.a7),lk:=t.lk++[⟨t.a7,it.ad,g.1⟩] }
 if g.1=3/\it.tr+1<3 then { t1 with hs:=t.hs.set i { A6 w y t.a7 with td:=y.td.drop 1++[⟨it.ad,it.tr+1⟩] } }
 else if aA it.ad=true then (qA it.ad g.1 g.2).foldl ah t1 else t1
theorem qS(l:List BL):∀ t:j6,(l.foldl ah t).na=t.na/\(l.foldl ah t).a7=t.a7/\(l.foldl ah t).lk=t.lk:=by
 induction l with
 | nil=>exact fun t=>⟨rfl,rfl,rfl⟩
 | cons a l ih=>exact fun t=>ih (ah t a)
structure HS (m:Nat) (y:k9):Prop where
 n:y.na.length<=1000
 r:y.gr.ru.length<=1000
 rp:∀ i,(y.gr.ru.getD i ⟨false,[]⟩).path.length<=1000
 w:y.gr.wa<=1000
 t:y.td.length+60<=1000+m
 ta:∀ x,x∈y.td->x.ad.length<=1000/\l8 x.ad/\0<=x.tr/\x.tr<=1000
 k:0<=y.tr/\y.tr<=1000
theorem HS.mono{m k:Nat}{y:k9}(h:HS m y)(hm:m<=k):HS k y:=⟨h.n,h.r,h.rp,h.w,by have:=h.t;omega,h.ta,h.k⟩
structure TS (t:j6):Prop where
 s:t.se.length<=60
 h:t.hs.length+60<=1000+t.se.length
 sa:∀ x,x∈t.se->x.length<=1000/\l8 x
 ha:∀ y,y∈t.hs->HS t.se.length y
theorem JW{t:j6}{s:BL}(h:TS t)(hn:t.na.length<=1000)(hs:s.length<=1000)(hc:l8 s)(hd:(ab s).length<=1000):TS (ah t s):=by
 have e1:(ah t s).se=bT t.se s:=rfl
 have e2:(ah t s).hs=aN t.na t.hs t.se s:=rfl
 by_cases hr:de t.se s
 have e3:bT t.se s=t.se++[s]:=if_pos hr
 have e4:aN t.na t.hs t.se s=(au t.hs (ab s) t.na).set (o8 t.hs (ab s)) (aX ((au t.hs (ab s) t.na).getD (o8 t.hs (ab s)) c5) s):=if_pos hr
 have hl:(au t.hs (ab s) t.na).length<=t.hs.length+1:=vk _ _ _
 have hin:∀ y,y∈au t.hs (ab s) t.na->HS t.se.length y:=fun y hy=>by
  unfold au at hy
  split at hy
  exact h.ha y hy
  rcases Zav.1 hy with hy | hy
  exact h.ha y hy
  rw[Zat.1 hy]
  exact⟨hd,by simp[bq],by simp[bq],by simp[bq],by show 0+60<=1000+t.se.length;omega,by simp[bq],by simp[bq]⟩
 have h2:=hr.2.1
 refine⟨by rw[e1,e3];simp;omega,?_,fun x hx=>?_,fun y hy=>?_⟩
 rw[e1,e2,e3,e4,List.length_set];have:=h.h;simp;omega
 rw[e1,e3]at hx
 rcases Zav.1 hx with hx | hx
 exact h.sa x hx
 rw[Zat.1 hx];exact⟨hs,hc⟩
 rw[e1,e3]
 rw[e2,e4]at hy
 have hm:(t.se++[s]).length=t.se.length+1:=Zab
 rw[hm]
 rcases bg hy with e | hy
 have hm:(au t.hs (ab s) t.na).getD (o8 t.hs (ab s)) c5∈au t.hs (ab s) t.na:=by
  rw[Zak,Zar (bL ..)];exact List.getElem_mem _
 have u0:=hin _ hm
 rw[e]
 unfold aX
 split
 exact u0.mono Zaa
 refine⟨u0.n,u0.r,u0.rp,u0.w,?_,fun x hx=>?_,u0.k⟩
 show (_++[_]).length+60<=_
 have:=u0.t
 rw[Zan,Zbd];omega
 rcases Zav.1 hx with hx | hx
 exact u0.ta x hx
 rw[Zat.1 hx];exact⟨hs,hc,Zab,Zab⟩
 exact(hin y hy).mono Zaa
 have e3:bT t.se s=t.se:=if_neg hr
 have e4:aN t.na t.hs t.se s=t.hs:=if_neg hr
 exact⟨by rw[e1,e3];exact h.s,by rw[e1,e2,e3,e4];exact h.h,by rw[e1,e3];exact h.sa,by rw[e1,e2,e3,e4];exact h.ha⟩
theorem uD:∀ (l:List BL) {t:j6},TS t->t.na.length<=1000->(∀ s,s∈l->s.length<=1000/\l8 s/\(ab s).length<=1000)->TS (l.foldl ah t)
 | [],t,h,_,_=>h
 | a::l,t,h,hn,hl=>by
   have:=hl a Zab
   exact uD l (JW h hn this.1 this.2.1 this.2.2) hn (fun s hs=>hl s (by simp[hs]))
def iH(y:k9)(l:List w5):List w5:=l.filter (OV y)++List.replicate (l.length-(l.filter (OV y)).length) j9
theorem MC{y:k9}{s:BL}:(!((ak s).isSome)||!(av y.gr.ru (if aO (oA (ak s))=true then bz (oA (ak s)) else [])))=!(Pa y s):=by
 unfold Pa
 rw[fC]
 by_cases h:aA s=true
 have e:ak s=aC s:=if_pos h
 have hs:(aC s).isSome=true:=by have:=h;unfold aA at this;rw[Zam]at this;exact this.1
 rw[h,e,if_pos (gX hs)];rfl
 rw[Bool.not_eq_true]at h
 rw[h];rfl
section
variable {y:k9} {l u:List w5} {i w:Nat}
theorem DK{p:w5->Bool}(hi:i<l.length)(e:p (l.getD i j9)=true)(h:∀ j,j<i->p (l.getD j j9)=false):l.findIdx p=i:=by
 rw[List.findIdx_eq hi]
 simp only[Zak,Zar hi]at e
 refine⟨by simpa using e,fun j hj=>?_⟩
 have:=h j hj
 simp only[Zak,Zar (show j<l.length by omega)]at this
 simpa using this
theorem Mw(hi:i<l.length)(e:Pa y (l.getD i j9).ad=false)(h:∀ j,j<i->Pa y (l.getD j j9).ad=true):M8 y l=i:=by
 unfold M8
 rw[DK (p:=fun x=>!(Pa y x.ad)) hi (by simp only[e];rfl) (fun j hj=>by simp only[h j hj];rfl),if_pos hi]
theorem JM{p:w5->Bool}(h:∀ j,j<l.length->p (l.getD j j9)=false):l.findIdx p=l.length:=by
 rw[List.findIdx_eq_length]
 intro x hx
 obtain⟨j,hj,rfl⟩:=Zbe.1 hx
 have:=h j hj
 simp only[Zak,Zar hj]at this
 simpa using this
theorem LY(h:∀ j,j<l.length->Pa y (l.getD j j9).ad=true):M8 y l= -1:=by
 unfold M8
 rw[JM (p:=fun x=>!(Pa y x.ad)) (fun j hj=>by simp only[h j hj];rfl),if_neg Zaa]
theorem zA(y:k9)(l:List w5): -1<=M8 y l/\M8 y l<=l.length/\(M8 y l≠ -1->0<=M8 y l/\M8 y l<l.length):=by
 unfold M8;split <;> omega
theorem tv(h:u.drop i=l.drop i):u.getD i j9=l.getD i j9:=by
 have:=Zbk (fun r=>r[0]?) h
 simp only[List.getElem?_drop,Nat.add_zero]at this
 rw[Zak,Zak,this]
theorem FN(h:M8 y l= -1):l.filter (OV y)=l:=by
 unfold M8 at h
 split at h
 omega
 rename_i hn
 have he:(l.findIdx fun x=>!(Pa y x.ad))=l.length:=by
  have:(l.findIdx fun x=>!(Pa y x.ad))<=l.length:=List.findIdx_le_length
  omega
 rw[List.findIdx_eq_length]at he
 rw[List.filter_eq_self]
 intro x hx
 simpa[OV] using he x hx
theorem NP(h: ¬ M8 y l= -1):(M8 y l).toNat<(M8 y l).toNat+1/\(M8 y l).toNat+1<=l.length/\l.length=l.length/\l.take (M8 y l).toNat=(l.take ((M8 y l).toNat+1)).filter (OV y)/\l.drop ((M8 y l).toNat+1)=l.drop ((M8 y l).toNat+1):=by
 obtain⟨b1,b2⟩:=(zA y l).2.2 h
 have hk:(M8 y l).toNat=l.findIdx fun x=>!(Pa y x.ad):=by
  unfold M8 at b1 b2 ⊢
  split
  exact Int.toNat_natCast _
  rename_i hn
  rw[if_neg hn]at b1;omega
 have hlt:(M8 y l).toNat<l.length:=Zaa
 refine⟨Zaa,Zaa,rfl,?_,rfl⟩
 rw[List.take_succ_eq_append_getElem hlt,List.filter_append]
 have e1:(l.take (M8 y l).toNat).filter (OV y)=l.take (M8 y l).toNat:=by
  rw[List.filter_eq_self]
  intro x hx
  obtain⟨j,hj,rfl⟩:=Zbe.1 hx
  rw[List.length_take]at hj
  rw[List.getElem_take]
  have:=List.not_of_lt_findIdx (p:=fun x=>!(Pa y x.ad)) (xs:=l) (i:=j) Zaa
  simpa[OV] using this
 have e2:OV y l[(M8 y l).toNat]=false:=by
  have:=List.findIdx_getElem (p:=fun x=>!(Pa y x.ad)) (xs:=l) (w:=by rw[<- hk];exact hlt)
  simp only[<- hk]at this
  simpa[OV] using this
 rw[e1]
 simp[e2]
theorem LG(hi:i<l.length)(h1:w<i)(h3:u.length=l.length)(h4:u.take w=(l.take i).filter (OV y))(h5:u.drop i=l.drop i)(hk:Pa y (u.getD i j9).ad=true):
 w+1<i+1/\i+1<=l.length/\(u.set w (⟨(u.getD i j9).ad,(u.getD i j9).tr⟩:w5)).length=l.length/\(u.set w (⟨(u.getD i j9).ad,(u.getD i j9).tr⟩:w5)).take (w+1)=(l.take (i+1)).filter (OV y)/\
  (u.set w (⟨(u.getD i j9).ad,(u.getD i j9).tr⟩:w5)).drop (i+1)=l.drop (i+1):=by
 have e:=tv h5
 have hw:w<u.length:=Zaa
 refine⟨Zaa,Zaa,by simpa using h3,?_,?_⟩
 rw[List.take_succ_eq_append_getElem (by simpa using hw),List.getElem_set_self,List.take_set_of_le (Zba _),h4,List.take_succ_eq_append_getElem hi,List.filter_append]
 have e2:(⟨(u.getD i j9).ad,(u.getD i j9).tr⟩:w5)=l[i]:=by
  show u.getD i j9=l[i]
  rw[e,Zak,Zar hi];rfl
 have e3:OV y l[i]=true:=by rw[<- e2];exact hk
 rw[e2]
 simp[e3]
 rw[List.drop_set_of_lt Zaa]
 have:=Zbk (List.drop 1) h5
 simpa[List.drop_drop] using this
theorem Ml(hi:i<l.length)(h1:w<i)(h3:u.length=l.length)(h4:u.take w=(l.take i).filter (OV y))(h5:u.drop i=l.drop i)(hk:Pa y (u.getD i j9).ad=false):
 w<i+1/\i+1<=l.length/\u.length=l.length/\u.take w=(l.take (i+1)).filter (OV y)/\u.drop (i+1)=l.drop (i+1):=by
 refine⟨Zaa,Zaa,h3,?_,?_⟩
 rw[h4,List.take_succ_eq_append_getElem hi,List.filter_append]
 have e3:OV y l[i]=false:=by
  have:=tv h5
  rw[Zak (l:=l),Zar hi]at this
  show Pa y l[i].ad=false
  rw[<- hk,this];rfl
 simp[e3]
 have:=Zbk (List.drop 1) h5
 simpa[List.drop_drop] using this
theorem Lq(hi:l.length<=i)(h1:w<i)(h2:i<=l.length)(h3:u.length=l.length)(h4:u.take w=(l.take i).filter (OV y)):w=(l.filter (OV y)).length:=by
 have:=Zbk List.length h4
 rw[List.length_take,Zax hi]at this
 omega
theorem MR(h:M8 y l= -1):iH y l=l:=by unfold iH;rw[FN h];simp
theorem LS(hi:l.length<=i)(h1:w<i)(h2:i<=l.length)(h3:u.length=l.length)(h4:u.take w=(l.take i).filter (OV y)):iH y l=u.take w++List.replicate (l.length-w) j9:=by
 unfold iH
 rw[<- Lq hi h1 h2 h3 h4,h4,Zax hi]
theorem MI(h3:u.length=l.length):(u.map ar).take w++List.replicate (l.length-w) (.agg [sV [],iN 0]:V)++(u.map ar).drop (w+(l.length-w))=(u.take w++List.replicate (l.length-w) j9).map ar:=by
 rw[Za6 Zaj,List.append_nil,Za9,List.map_take,List.map_replicate];rfl
theorem MW:((l.map ar).drop 1).take (l.length-1)++(l.map ar).drop (l.length-1)=(l.drop 1++l.drop (l.length-1)).map ar:=by
 rw[Za9,List.map_drop,List.map_drop,Zax Zab]
theorem Le(h:0<l.length):((l.drop 1++l.drop (l.length-1)).map ar).take (l.length-1)++List.replicate 1 (.agg [sV [],iN 0]:V)++((l.drop 1++l.drop (l.length-1)).map ar).drop (l.length-1+1)=(l.drop 1++[j9]).map ar:=by
 rw[show ((l.drop 1++l.drop (l.length-1)).map ar).drop (l.length-1+1)=[] from Za6 Zaj,List.append_nil,<- List.map_take,List.take_append_of_le_length Zab,Zax Zab,Za9];rfl
end
def uG(n:BL)(a7:Int)(zs:List k9)(se:List BL)(ls:List l5)(gt:Nat)(g:Nat)(o:Nat)(c:Nat)(ix:Nat)(y:k9)(ga:Nat)(oa:Nat)(ca:Nat)(l:List w5)(gb:Nat)(s:BL)(v:Int):o6 Tryz.prog:=.mk 123 [.agg [sV s,iV v],.ptr (.key 1002) [] gb 0] [(1002,(gb,.ptr (.key 1000) [2,ix] g (o+ix*8))),(1000,(gt,bQ n a7 zs ix y.na y.re y.kn y.gr.na y.gr.ru y.gr.wa y.tr l ga oa ca g o c se ls))] ((ix<zs.length)/\(s.length<=1000)/\(l8 s)/\(y.gr.ru.length<=1000)/\(∀ i,(y.gr.ru.getD i ⟨false,[]⟩).path.length<=1000)) (bV (!(Pa y s))) [(1002,(gb,.ptr (.key 1000) [2,ix] g (o+ix*8))),(1000,(gt,bQ n a7 zs ix y.na y.re y.kn y.gr.na y.gr.ru y.gr.wa y.tr l ga oa ca g o c se ls))] (by
 rintro⟨hi,hs,hc,hr,WB⟩
 refine aB (N:=25) (rs:=[.tmp 3]) Tryz.func123
  (.bx (fun g2=>.q 1<|.r 2 [.b9]<|.c (bS s) []<|.q 3<|.al dw (fun g4=>.st none<|.q 1<|.dx 13 [0,1,2,3,4,5,6,7,8,9,10,11,12] [(3,⟨false,[],some [1002],[15],[]⟩),(7,⟨false,[],some [1000],[19],[]⟩),(8,⟨false,[],some [4],[20],[]⟩)] []<|.q 1<|.q 1<|.q 1<|.r 1 [.b9]<|.q 1<|.q 1<|.q 1<|.r 1 [dQ y.gr.ru]<|.r 1 [.b9]<|.cg (kX (oA (ak s)))<|.cg (jN y.gr.ru (if aO (oA (ak s))=true then bz (oA (ak s)) else []))<|.q 1<|.q 1<|.q 1<|.nil)))
  ((fun v1:Bool=>(fun v2:V=>(∀ g2:Nat,Z g2 0/\(bS s).sm/\((s.length<=1000000)/\(l8 s))/\∀ g4:Nat,Z g4 0/\Gd v1 (Z gb 0)/\Gd v1 (v1=true)/\Gd v1 True/\Gd v1 (v1=true)/\Gd v1 (v1=true)/\Gd v1 (v1=true)/\Gd v1 (V.at gt 0 v2 [2,ix,3,1]=some (g,(o+ix*8+3+1),dQ y.gr.ru))/\Gd v1 (Z g4 0)/\Gd v1 (v1=true)/\Gd v1 (((dm (oA (ak s))))/\(kX (oA (ak s))).sm)/\Gd v1 (v1=true)/\Gd v1 (v1=true)/\Gd v1 (((y.gr.ru.length<=1000000)/\(∀ i,(y.gr.ru.getD i ⟨false,[]⟩).path.length<=1000000)/\((if aO (oA (ak s))=true then bz (oA (ak s)) else []).length<=1000000))/\(jN y.gr.ru (if aO (oA (ak s))=true then bz (oA (ak s)) else [])).sm)/\Gd v1 (v1=true)/\Pk (!((ak s).isSome)) true v1/\Q (bV ((!((ak s).isSome))||(!(av y.gr.ru (if aO (oA (ak s))=true then bz (oA (ak s)) else []))))) (bV (!(Pa y s)))/\Er gb (.ptr (.key 1000) [2,ix] g (o+ix*8))/\Er gt v2)) (bQ n a7 zs ix y.na y.re y.kn y.gr.na y.gr.ru y.gr.wa y.tr l ga oa ca g o c se ls)) ((!((ak s).isSome))==false)) ?_
 intro g2
 refine⟨rfl,rfl,⟨Zaa,hc⟩,?_⟩
 intro g4
 refine⟨rfl,fun hG=>rfl,fun h=>h,fun hG=>trivial,fun h=>h,fun h=>h,fun h=>h,fun hG=>(bj (f:=2) rfl).trans (aS (aU Zaa) rfl),fun hG=>rfl,fun h=>h,fun hG=>⟨by(try simp only[nb]at hG);exact pB _,rfl⟩,fun h=>h,fun h=>h,fun hG=>⟨⟨by(try simp only[nb]at hG);omega,fun i=>by have:=WB i;omega,by(try simp only[nb]at hG);have:=(pB s).path;split <;> simp <;> omega⟩,rfl⟩,fun h=>h,⟨fun _=>rfl,fun h=>by rw[h] <;> rfl⟩,?_⟩
 refine⟨?_,rfl,rfl⟩
 unfold Q
 rw[MC])
def GB(n:BL)(a7:Int)(zs:List k9)(se:List BL)(ls:List l5)(gt:Nat)(g:Nat)(o:Nat)(c:Nat)(ix:Nat)(y:k9)(ga:Nat)(oa:Nat)(ca:Nat)(l:List w5)(gb:Nat):o6 Tryz.prog:=.mk 149 [.hd (.key 1000) [2,ix,5] 2 ga oa 0 ((l.map ar).length) ca,.lit (.func (.func 123) #[] #[.pointer (some ⟨gb,0,none⟩)])] [(1002,(gb,.ptr (.key 1000) [2,ix] g (o+ix*8))),(1000,(gt,bQ n a7 zs ix y.na y.re y.kn y.gr.na y.gr.ru y.gr.wa y.tr l ga oa ca g o c se ls))] ((ix<zs.length)/\(l.length<=1000)/\(∀ x,x∈l->x.ad.length<=1000/\l8 x.ad)/\(y.gr.ru.length<=1000)/\(∀ i,(y.gr.ru.getD i ⟨false,[]⟩).path.length<=1000)) (iV (M8 y l)) [(1002,(gb,.ptr (.key 1000) [2,ix] g (o+ix*8))),(1000,(gt,bQ n a7 zs ix y.na y.re y.kn y.gr.na y.gr.ru y.gr.wa y.tr l ga oa ca g o c se ls))] (by
 rintro⟨hi,hl,hx,hr,WB⟩
 refine aB (N:=19) (rs:=[.tmp 4]) Tryz.func149
  (.q 1<|.q 3<|.loop (Nat) (fun (i:Nat)=>⟨[(0,.hd (.key 1000) [2,ix,5] 2 ga oa 0 ((l.map ar).length) ca),(1,.lit (.func (.func 123) #[] #[.pointer (some ⟨gb,0,none⟩)])),(7,iN l.length),(8,iN i)],[(1002,(gb,.ptr (.key 1000) [2,ix] g (o+ix*8))),(1000,(gt,bQ n a7 zs ix y.na y.re y.kn y.gr.na y.gr.ru y.gr.wa y.tr l ga oa ca g o c se ls))]⟩) (fun (i:Nat)=>i<=l.length/\∀ j,j<i->Pa y (l.getD j j9).ad=true) (fun (i:Nat)=>l.length-i) (fun (i:Nat)=>.q 1<|.br (.q 2<|.r 5 [.agg [sV ((l.getD i j9).ad),iV ((l.getD i j9).tr)]]<|.c (uG n a7 zs se ls gt g o c ix y ga oa ca l gb ((l.getD i j9).ad) ((l.getD i j9).tr)) [(1002,1002),(1000,1000)]<|.br (.q 2<|.nil) (.q 2<|.nil)) (.q 1<|.nil)))
  ((fun v1:V=>(fun v2:V=>(fun v3:V=>((∃ j7:Nat,(j7<=l.length/\∀ j,j<j7->Pa y (l.getD j j9).ad=true)/\E (.hd (.key 1000) [2,ix,5] 2 ga oa 0 ((l.map ar).length) ca)/\E v3/\Q (iN ((l.map ar).length)) (iN l.length)/\Q (iN 0) (iN j7)/\Er gb v2/\Er gt v1/\True)/\∀ i:Nat,(i<=l.length/\∀ j,j<i->Pa y (l.getD j j9).ad=true)->Br (r8 (i:Int) (l.length:Int)) (In (i:Int) ((l.map ar).length)/\(V.at gt 0 v1 [2,ix,5,0+i]=some (ga,(oa+(0+i)*2),.agg [sV ((l.getD i j9).ad),iV ((l.getD i j9).tr)]))/\(uG n a7 zs se ls gt g o c ix y ga oa ca l gb ((l.getD i j9).ad) ((l.getD i j9).tr)).sm/\Er gb v2/\Er gt v1/\((ix<zs.length)/\(((l.getD i j9).ad).length<=1000)/\(l8 ((l.getD i j9).ad))/\(y.gr.ru.length<=1000)/\(∀ i,(y.gr.ru.getD i ⟨false,[]⟩).path.length<=1000))/\Br (!(Pa y ((l.getD i j9).ad))) (Q (iN i) (iV (M8 y l))/\Er gb v2/\Er gt v1) (m8 ((i:Int)+1)/\∃ c9:Nat,(c9<=l.length/\∀ j,j<c9->Pa y (l.getD j j9).ad=true)/\(l.length-c9<l.length-i)/\E (.hd (.key 1000) [2,ix,5] 2 ga oa 0 ((l.map ar).length) ca)/\E v3/\E (iN l.length)/\Q (iN (i+1)) (iN c9)/\Er gb v2/\Er gt v1/\True)) (Q (iV (-1)) (iV (M8 y l))/\Er gb v2/\Er gt v1))) (.lit (.func (.func 123) #[] #[.pointer (some ⟨gb,0,none⟩)]))) (.ptr (.key 1000) [2,ix] g (o+ix*8))) (bQ n a7 zs ix y.na y.re y.kn y.gr.na y.gr.ru y.gr.wa y.tr l ga oa ca g o c se ls)) ?_
 refine⟨⟨0,?_,rfl,rfl,Zaf,rfl,rfl,rfl,trivial⟩,?_⟩
 simp
 rintro i ⟨h1,h2⟩
 refine bI (fun l3=>?_) fun l3=>?_
 have PM:=hx _ (aj (d:=j9) (show i<l.length by omega))
 refine⟨Zah,(bj (f:=2) rfl).trans (aS (aU Zaa) ((bj (f:=5) rfl).trans (aS (by rw[Zau];exact aq (d:=j9) Zaa) rfl))),rfl,rfl,rfl,⟨hi,PM.1,PM.2,hr,WB⟩,?_⟩
 refine bI (fun l6=>?_) fun l6=>?_
 refine⟨?_,rfl,rfl⟩
 unfold Q
 rw[Mw (i:=i) Zaa (by simpa using l6) h2]
 refine⟨Zaa,?_⟩
 refine⟨i+1,?_,?_,rfl,rfl,rfl,rfl,rfl,rfl,trivial⟩
 exact⟨Zaa,bJ h2 (by simpa using l6)⟩
 exact Zai
 refine⟨?_,rfl,rfl⟩
 unfold Q
 rw[LY (fun j hj=>h2 j Zaa)])
abbrev tI(n:BL)(a7:Int)(zs:List k9)(se:List BL)(ls:List l5)(gt:Nat)(g:Nat)(o:Nat)(c:Nat)(ix:Nat)(y:k9)(ga:Nat)(oa:Nat)(ca:Nat)(l:List w5)(gb:Nat):V:=.hd (.key 1000) [2,ix,5] 2 ga oa 0 ((l.filter (OV y)).length) ca
abbrev lO(n:BL)(a7:Int)(zs:List k9)(se:List BL)(ls:List l5)(gt:Nat)(g:Nat)(o:Nat)(c:Nat)(ix:Nat)(y:k9)(ga:Nat)(oa:Nat)(ca:Nat)(l:List w5)(gb:Nat)(w:Nat)(i:Nat)(u:List w5):Prop:=w<i/\i<=l.length/\u.length=l.length/\u.take w=(l.take i).filter (OV y)/\u.drop i=l.drop i
def EV(n:BL)(a7:Int)(zs:List k9)(se:List BL)(ls:List l5)(gt:Nat)(g:Nat)(o:Nat)(c:Nat)(ix:Nat)(y:k9)(ga:Nat)(oa:Nat)(ca:Nat)(l:List w5)(gb:Nat):o6 Tryz.prog:=.mk 122 [.hd (.key 1000) [2,ix,5] 2 ga oa 0 ((l.map ar).length) ca,.lit (.func (.func 123) #[] #[.pointer (some ⟨gb,0,none⟩)])] [(1002,(gb,.ptr (.key 1000) [2,ix] g (o+ix*8))),(1000,(gt,bQ n a7 zs ix y.na y.re y.kn y.gr.na y.gr.ru y.gr.wa y.tr l ga oa ca g o c se ls))] ((ix<zs.length)/\(l.length<=1000)/\(∀ x,x∈l->x.ad.length<=1000/\l8 x.ad)/\(y.gr.ru.length<=1000)/\(∀ i,(y.gr.ru.getD i ⟨false,[]⟩).path.length<=1000)) (tI n a7 zs se ls gt g o c ix y ga oa ca l gb) [(1002,(gb,.ptr (.key 1000) [2,ix] g (o+ix*8))),(1000,(gt,bQ n a7 zs ix y.na y.re y.kn y.gr.na y.gr.ru y.gr.wa y.tr (iH y l) ga oa ca g o c se ls))] (by
 rintro⟨hi,hl,hx,hr,WB⟩
 refine aB (N:=42) (rs:=[.tmp 4]) Tryz.func122
  (.q 1<|.q 2<|.c (GB n a7 zs se ls gt g o c ix y ga oa ca l gb) [(1002,1002),(1000,1000)]<|.q 1<|.q 2<|.br (.q 2<|.nil) (.q 3<|.loop (Nat×Nat×(List w5)) (fun (w,i,u)=>⟨[(0,.hd (.key 1000) [2,ix,5] 2 ga oa 0 ((l.map ar).length) ca),(1,.lit (.func (.func 123) #[] #[.pointer (some ⟨gb,0,none⟩)])),(5,iN w),(6,iN i)],[(1002,(gb,.ptr (.key 1000) [2,ix] g (o+ix*8))),(1000,(gt,bQ n a7 zs ix y.na y.re y.kn y.gr.na y.gr.ru y.gr.wa y.tr u ga oa ca g o c se ls))]⟩) (fun (w,i,u)=>lO n a7 zs se ls gt g o c ix y ga oa ca l gb w i u) (fun (w,i,u)=>l.length-i) (fun (w,i,u)=>.q 4<|.br (.r 4 [.agg [sV ((u.getD i j9).ad),iV ((u.getD i j9).tr)]]<|.al rB (fun g7=>.st none<|.r 2 [.b9]<|.c (uG n a7 zs se ls gt g o c ix y ga oa ca u gb ((u.getD i j9).ad) ((u.getD i j9).tr)) [(1002,1002),(1000,1000)]<|.q 1<|.br (.r 4 [.b9]<|.st (some (.agg [sV ((u.getD w j9).ad),iV ((u.getD w j9).tr)]))<|.h (.C7 1000 (bQ n a7 zs ix y.na y.re y.kn y.gr.na y.gr.ru y.gr.wa y.tr (u.set w (⟨(u.getD i j9).ad,(u.getD i j9).tr⟩:w5)) ga oa ca g o c se ls))<|.q 3<|.q 3<|.nil) (.q 3<|.nil))) (.q 3<|.cu (clC 1000 [2,ix,5] w (l.length-w) 2 (u.map ar) ga oa ca g (o+(ix)*8+7) rB) (fun _=>.h (.C7 1000 (bQ n a7 zs ix y.na y.re y.kn y.gr.na y.gr.ru y.gr.wa y.tr (u.take w++List.replicate (l.length-w) j9) ga oa ca g o c se ls))<|.q 4<|.nil)))))
  ((fun v1:V=>(fun v2:V=>(fun v3:V=>(fun v4:V=>((GB n a7 zs se ls gt g o c ix y ga oa ca l gb).sm/\Er gb v1/\Er gt v2/\((ix<zs.length)/\(l.length<=1000)/\(∀ x,x∈l->x.ad.length<=1000/\l8 x.ad)/\(y.gr.ru.length<=1000)/\(∀ i,(y.gr.ru.getD i ⟨false,[]⟩).path.length<=1000))/\Br (r6 (M8 y l) (-1)) (Q (.hd (.key 1000) [2,ix,5] 2 ga oa 0 ((l.map ar).length) ca) (tI n a7 zs se ls gt g o c ix y ga oa ca l gb)/\Er gb v1/\Qr gt v2 gt v4) (m8 ((M8 y l)+1)/\(∃ x:Nat×Nat×(List w5),match x with | (Xc,j7,J7)=>(lO n a7 zs se ls gt g o c ix y ga oa ca l gb Xc j7 J7)/\E (.hd (.key 1000) [2,ix,5] 2 ga oa 0 ((l.map ar).length) ca)/\E v3/\Q (iV (M8 y l)) (iN Xc)/\Q (iV ((M8 y l)+1)) (iN j7)/\Er gb v1/\Qr gt v2 gt (bQ n a7 zs ix y.na y.re y.kn y.gr.na y.gr.ru y.gr.wa y.tr J7 ga oa ca g o c se ls)/\True)/\∀ x:Nat×Nat×(List w5),match x with | (w,i,u)=>(lO n a7 zs se ls gt g o c ix y ga oa ca l gb w i u)->(fun v5:V=>Br (r8 (i:Int) (((l.map ar).length:Nat):Int)) (In (i:Int) ((l.map ar).length)/\(V.at gt 0 v5 [2,ix,5,0+i]=some (ga,(oa+(0+i)*2),.agg [sV ((u.getD i j9).ad),iV ((u.getD i j9).tr)]))/\∀ g7:Nat,Z g7 0/\Z g7 0/\(uG n a7 zs se ls gt g o c ix y ga oa ca u gb ((u.getD i j9).ad) ((u.getD i j9).tr)).sm/\Er gb v1/\Er gt v5/\((ix<zs.length)/\(((u.getD i j9).ad).length<=1000)/\(l8 ((u.getD i j9).ad))/\(y.gr.ru.length<=1000)/\(∀ i,(y.gr.ru.getD i ⟨false,[]⟩).path.length<=1000))/\Br (!(!(Pa y ((u.getD i j9).ad)))) (Z g7 0/\In (w:Int) ((l.map ar).length)/\(V.at gt 0 v5 [2,ix,5,0+w]=some (ga,(oa+(0+w)*2),.agg [sV ((u.getD w j9).ad),iV ((u.getD w j9).tr)]))/\(V.set v5 [2,ix,5,0+w] (.agg [sV ((u.getD i j9).ad),iV ((u.getD i j9).tr)])=bQ n a7 zs ix y.na y.re y.kn y.gr.na y.gr.ru y.gr.wa y.tr (u.set w (⟨(u.getD i j9).ad,(u.getD i j9).tr⟩:w5)) ga oa ca g o c se ls)/\m8 ((w:Int)+1)/\m8 ((i:Int)+1)/\∃ x:Nat×Nat×(List w5),match x with | (Rk,c9,D0)=>(lO n a7 zs se ls gt g o c ix y ga oa ca l gb Rk c9 D0)/\(l.length-c9<l.length-i)/\E (.hd (.key 1000) [2,ix,5] 2 ga oa 0 ((l.map ar).length) ca)/\E v3/\Q (iN (w+1)) (iN Rk)/\Q (iN (i+1)) (iN c9)/\Er gb v1/\Qr gt (bQ n a7 zs ix y.na y.re y.kn y.gr.na y.gr.ru y.gr.wa y.tr (u.set w (⟨(u.getD i j9).ad,(u.getD i j9).tr⟩:w5)) ga oa ca g o c se ls) gt (bQ n a7 zs ix y.na y.re y.kn y.gr.na y.gr.ru y.gr.wa y.tr D0 ga oa ca g o c se ls)/\True) (m8 ((i:Int)+1)/\∃ x:Nat×Nat×(List w5),match x with | (Rk,c9,D0)=>(lO n a7 zs se ls gt g o c ix y ga oa ca l gb Rk c9 D0)/\(l.length-c9<l.length-i)/\E (.hd (.key 1000) [2,ix,5] 2 ga oa 0 ((l.map ar).length) ca)/\E v3/\Q (iN w) (iN Rk)/\Q (iN (i+1)) (iN c9)/\Er gb v1/\Qr gt v5 gt (bQ n a7 zs ix y.na y.re y.kn y.gr.na y.gr.ru y.gr.wa y.tr D0 ga oa ca g o c se ls)/\True)) (((0:Int)<=(w:Int)/\(w:Int)<=((l.map ar).length:Int)/\((l.map ar).length:Int)<=((l.map ar).length)/\2=2)/\((((115:Nat),(.key 1000:m0),([2,ix,5]:List Nat),2,ga,oa,(0+w),(((l.map ar).length)-w))=((115:Nat),(.key 1000:m0),([2,ix,5]:List Nat),2,ga,oa,w,(l.length-w)))/\(V.at gt 0 v5 [2,ix,5]=some (g,o+(ix)*8+7,.own 2 (u.map ar) ga oa ca))/\(w+(l.length-w)<=(u.map ar).length)/\(V.aK (u.map ar)=false)/\(aM 2 (u.map ar))/\((.agg [sV [],iN 0]:V).n=2))/\∀ _:Unit,(V.set v5 [2,ix,5] (.own 2 ((u.map ar).take w++List.replicate (l.length-w) (.agg [sV [],iN 0]:V)++(u.map ar).drop (w+(l.length-w))) ga oa ca)=bQ n a7 zs ix y.na y.re y.kn y.gr.na y.gr.ru y.gr.wa y.tr (u.take w++List.replicate (l.length-w) j9) ga oa ca g o c se ls)/\((0:Int)<=(0:Int)/\(0:Int)<=(w:Int)/\(w:Int)<=((l.map ar).length)/\2=2)/\Q (.hd (.key 1000) [2,ix,5] 2 ga oa (0+((0:Int).toNat)) (w-((0:Int).toNat)) (ca-((0:Int).toNat))) (tI n a7 zs se ls gt g o c ix y ga oa ca l gb)/\Er gb v1/\Qr gt (bQ n a7 zs ix y.na y.re y.kn y.gr.na y.gr.ru y.gr.wa y.tr (u.take w++List.replicate (l.length-w) j9) ga oa ca g o c se ls) gt v4)) (bQ n a7 zs ix y.na y.re y.kn y.gr.na y.gr.ru y.gr.wa y.tr u ga oa ca g o c se ls)))) (bQ n a7 zs ix y.na y.re y.kn y.gr.na y.gr.ru y.gr.wa y.tr (iH y l) ga oa ca g o c se ls)) (.lit (.func (.func 123) #[] #[.pointer (some ⟨gb,0,none⟩)]))) (bQ n a7 zs ix y.na y.re y.kn y.gr.na y.gr.ru y.gr.wa y.tr l ga oa ca g o c se ls)) (.ptr (.key 1000) [2,ix] g (o+ix*8))) ?_
 refine⟨rfl,rfl,rfl,⟨hi,hl,hx,hr,WB⟩,?_⟩
 refine bI (fun l3=>?_) fun l3=>?_
 refine⟨?_,rfl,by rw[MR l3]⟩
 unfold Q tI
 rw[FN l3,Zaw]
 refine⟨by have:=zA y l;omega,?_⟩
 refine⟨⟨((M8 y l).toNat,(M8 y l).toNat+1,l),?_,rfl,rfl,by refine Zbk iV ?_;have:=zA y l;omega,by refine Zbk iV ?_;have:=zA y l;omega,rfl,rfl,trivial⟩,?_⟩
 unfold lO
 exact NP l3
 rintro⟨w,i,u⟩ ⟨h1,h2,h3,h4,h5⟩
 refine bI (fun l6=>?_) fun l6=>?_
 have PM:=hx _ (aj (d:=j9) (show i<l.length by omega))
 have hu:u.getD i j9=l.getD i j9:=tv h5
 refine⟨Zah,(bj (f:=2) rfl).trans (aS (aU Zaa) ((bj (f:=5) rfl).trans (aS (by rw[Zau];exact aq (d:=j9) Zaa) rfl))),?_⟩
 intro g7
 refine⟨rfl,rfl,rfl,rfl,rfl,⟨hi,by rw[hu];exact PM.1,by rw[hu];exact PM.2,hr,WB⟩,?_⟩
 refine bI (fun n0=>?_) fun n0=>?_
 refine⟨rfl,Zah,(bj (f:=2) rfl).trans (aS (aU Zaa) ((bj (f:=5) rfl).trans (aS (by rw[Zau];exact aq (d:=j9) Zaa) rfl))),eP (JG (aU Zaa) (NL (bn (x:=.agg [sV ((u.getD w j9).ad),iV ((u.getD w j9).tr)]) (by rw[Zau];exact aq (d:=j9) Zaa) (by rw[Zau];exact(List.map_set (f:=ar) (l:=u) (i:=w) (a:=(⟨(u.getD i j9).ad,(u.getD i j9).tr⟩:w5))).symm))) (dC Zaa)),Zaa,Zaa,?_⟩
 refine⟨(w+1,i+1,u.set w (⟨(u.getD i j9).ad,(u.getD i j9).tr⟩:w5)),?_,?_,rfl,rfl,rfl,rfl,rfl,rfl,trivial⟩
 unfold lO
 first | exact LG (by simpa using l6) h1 h3 h4 h5 (by simpa using n0) | exact Ml (by simpa using l6) h1 h3 h4 h5 (by simpa using n0)
 exact Zai
 refine⟨Zaa,?_⟩
 refine⟨(w,i+1,u),?_,?_,rfl,rfl,rfl,rfl,rfl,rfl,trivial⟩
 unfold lO
 first | exact LG (by simpa using l6) h1 h3 h4 h5 (by simpa using n0) | exact Ml (by simpa using l6) h1 h3 h4 h5 (by simpa using n0)
 exact Zai
 refine⟨⟨Zaa,by simp only[Zaw];omega,Zaa,rfl⟩,⟨Zab,(bj (f:=2) rfl).trans (aS (aU Zaa) rfl),by simp only[Zaw];omega,cP (f:=ar) (fun _=>rfl) _,dY (f:=ar) (fun _=>rfl) _,rfl⟩,?_⟩
 intro _
 refine⟨(Zbk (fun r:V=>V.set (.agg [sV n,iV a7,.own 8 ((zs.take ix).map aL++(.agg [sV y.na,iV y.re,bV y.kn,.agg [.sl false (y.gr.na.map sV),.sl false (y.gr.ru.map aD),iN y.gr.wa],iV y.tr,.own 2 (u.map ar) ga oa ca]:V)::(zs.drop (ix+1)).map aL) g o c,.ow 1 (se.map sV),.ow 3 (ls.map bf)]) [2,ix,5] r) (Zbk (V.own 2 · ga oa ca) (MI h3))).trans (eP (bn (aU Zaa) (dC Zaa))),⟨Zaa,Zaa,by simp only[Zaw];omega,rfl⟩,?_⟩
 refine⟨?_,rfl,by rw[LS (by simpa using l6) h1 h2 h3 h4]⟩
 unfold Q tI
 rw[Lq (by simpa using l6) h1 h2 h3 h4];rfl)
def ER(n:BL)(a7:Int)(zs:List k9)(se:List BL)(ls:List l5)(gt:Nat)(g:Nat)(o:Nat)(c:Nat)(ix:Nat)(y:k9)(ga:Nat)(oa:Nat)(ca:Nat)(l:List w5):o6 Tryz.prog:=.mk 124 [.hd (.key 1000) [2,ix,5] 2 ga oa 0 ((l.map ar).length) ca,iV 0,iV 1] [(1000,(gt,bQ n a7 zs ix y.na y.re y.kn y.gr.na y.gr.ru y.gr.wa y.tr l ga oa ca g o c se ls))] ((ix<zs.length)/\(0<l.length/\l.length<=1000)) (.hd (.key 1000) [2,ix,5] 2 ga oa 0 (l.length-1) ca) [(1000,(gt,bQ n a7 zs ix y.na y.re y.kn y.gr.na y.gr.ru y.gr.wa y.tr (l.drop 1++[j9]) ga oa ca g o c se ls))] (by
 rintro⟨hi,hl⟩
 refine aB (N:=33) (rs:=[.tmp 6]) Tryz.func124
  (.q 1<|.q 5<|.cu (sdC ((l.map ar).length) (0:Int) (1:Int) (((l.map ar).length:Nat):Int)) (fun _=>.q 3<|.br (.nil) (.q 3<|.dx 6 [0,1,2,3,4,5] [] []<|.q 1<|.q 1<|.q 1<|.q 1<|.q 1<|.q 1<|.cu (saC 1000 [2,ix,5] 1 (l.length-1) 2 (l.map ar) ga oa ca g (o+(ix)*8+7)) (fun _=>.h (.C7 1000 (bQ n a7 zs ix y.na y.re y.kn y.gr.na y.gr.ru y.gr.wa y.tr (l.drop 1++l.drop (l.length-1)) ga oa ca g o c se ls))<|.q 1<|.q 4<|.cu (sbC 1000 [2,ix,5] 2 ((l.drop 1++l.drop (l.length-1)).map ar) ga oa ca (l.length-1) g (o+(ix)*8+7) (l.length-1) ((l.map ar).length)) (fun _=>.cu (clC 1000 [2,ix,5] (l.length-1) 1 2 ((l.drop 1++l.drop (l.length-1)).map ar) ga oa ca g (o+(ix)*8+7) rB) (fun _=>.h (.C7 1000 (bQ n a7 zs ix y.na y.re y.kn y.gr.na y.gr.ru y.gr.wa y.tr (l.drop 1++[j9]) ga oa ca g o c se ls))<|.q 2<|.nil))))))
  ((fun v1:V=>(fun v2:V=>(fun v3:Int=>((((iV 0):V)=.lit (.int .i64 (0:Int))/\((iV 1):V)=.lit (.int .i64 (1:Int))/\((iN ((l.map ar).length)):V)=.lit (.int .i64 v3)/\((l.map ar).length)=((l.map ar).length)/\(0:Int)<=(0:Int)/\(0:Int)<=(1:Int)/\(1:Int)<=v3/\v3<=((l.map ar).length))/\∀ _:Unit,Br (r6 0 1) (False) (((0:Int)<=(0:Int)/\(0:Int)<=(0:Int)/\(0:Int)<=((l.map ar).length)/\2=2)/\((0:Int)<=(1:Int)/\(1:Int)<=((l.map ar).length:Int)/\((l.map ar).length:Int)<=((l.map ar).length)/\2=2)/\((((.key 1000:m0),([2,ix,5]:List Nat),2,ga,oa,(0+(Int.toNat 1)),(((l.map ar).length)-(Int.toNat 1)))=((.key 1000:m0),([2,ix,5]:List Nat),2,ga,oa,1,(l.length-1)))/\((.hd (.key 1000) [2,ix,5] 2 ga oa (0+((0:Int).toNat)) ((Int.toNat 0)-((0:Int).toNat)) (ca-((0:Int).toNat)):V)=.hd (.key 1000) [2,ix,5] 2 ga oa 0 0 ca)/\(V.at gt 0 v2 [2,ix,5]=some (g,o+(ix)*8+7,.own 2 (l.map ar) ga oa ca))/\((2:Nat)=2)/\(0<(l.map ar).length)/\(1+(l.length-1)<=(l.map ar).length)/\(V.aK (l.map ar)=false)/\(aM 2 (l.map ar))/\(ca-(Int.toNat 1))=(ca-(Int.toNat 1)))/\∀ _:Unit,(V.set v2 [2,ix,5] (.own 2 (((l.map ar).drop 1).take (l.length-1)++(l.map ar).drop (l.length-1)) ga oa ca)=bQ n a7 zs ix y.na y.re y.kn y.gr.na y.gr.ru y.gr.wa y.tr (l.drop 1++l.drop (l.length-1)) ga oa ca g o c se ls)/\(((.hd (.key 1000) [2,ix,5] 2 ga oa 0 (l.length-1) ca):V)=.hd (.key 1000) [2,ix,5] 2 ga oa 0 (l.length-1) ca/\(V.at gt 0 v1 [2,ix,5]=some (g,o+(ix)*8+7,.own 2 ((l.drop 1++l.drop (l.length-1)).map ar) ga oa ca))/\((iN (l.length-1)):V)=.lit (.int .i64 (((l.length-1):Nat):Int))/\((iN ((l.map ar).length)):V)=.lit (.int .i64 ((((l.map ar).length):Nat):Int))/\((2:Nat)=2)/\(l.length-1)<=((l.map ar).length)/\((l.map ar).length)<=((l.drop 1++l.drop (l.length-1)).map ar).length)/\∀ _:Unit,((((115:Nat),(.key 1000:m0),([2,ix,5]:List Nat),2,ga,oa,(l.length-1),(((l.map ar).length)-(l.length-1)))=((115:Nat),(.key 1000:m0),([2,ix,5]:List Nat),2,ga,oa,(l.length-1),1))/\(V.at gt 0 v1 [2,ix,5]=some (g,o+(ix)*8+7,.own 2 ((l.drop 1++l.drop (l.length-1)).map ar) ga oa ca))/\((l.length-1)+1<=((l.drop 1++l.drop (l.length-1)).map ar).length)/\(V.aK ((l.drop 1++l.drop (l.length-1)).map ar)=false)/\(aM 2 ((l.drop 1++l.drop (l.length-1)).map ar))/\((.agg [sV [],iN 0]:V).n=2))/\∀ _:Unit,(V.set v1 [2,ix,5] (.own 2 (((l.drop 1++l.drop (l.length-1)).map ar).take (l.length-1)++List.replicate 1 (.agg [sV [],iN 0]:V)++((l.drop 1++l.drop (l.length-1)).map ar).drop ((l.length-1)+1)) ga oa ca)=bQ n a7 zs ix y.na y.re y.kn y.gr.na y.gr.ru y.gr.wa y.tr (l.drop 1++[j9]) ga oa ca g o c se ls)/\Q (.hd (.key 1000) [2,ix,5] 2 ga oa 0 (l.length-1) ca) (.hd (.key 1000) [2,ix,5] 2 ga oa 0 (l.length-1) ca)/\Er gt (bQ n a7 zs ix y.na y.re y.kn y.gr.na y.gr.ru y.gr.wa y.tr (l.drop 1++[j9]) ga oa ca g o c se ls)))) (((l.map ar).length:Nat):Int)) (bQ n a7 zs ix y.na y.re y.kn y.gr.na y.gr.ru y.gr.wa y.tr l ga oa ca g o c se ls)) (bQ n a7 zs ix y.na y.re y.kn y.gr.na y.gr.ru y.gr.wa y.tr (l.drop 1++l.drop (l.length-1)) ga oa ca g o c se ls)) ?_
 refine⟨⟨rfl,rfl,rfl,rfl,Zaa,Zaa,by(try simp only[Zaw]);omega,by(try simp only[Zaw]);omega⟩,?_⟩
 intro _
 refine bI (fun l3=>?_) fun l3=>?_
 exact absurd l3 Zad
 refine⟨⟨Zaa,Zaa,Zaa,rfl⟩,⟨Zaa,by simp only[Zaw];omega,Zaa,rfl⟩,⟨Zab,rfl,(bj (f:=2) rfl).trans (aS (aU Zaa) rfl),rfl,Zaj,Zaj,cP (f:=ar) (fun _=>rfl) _,dY (f:=ar) (fun _=>rfl) _,rfl⟩,?_⟩
 intro _
 refine⟨(Zbk (fun r:V=>V.set (.agg [sV n,iV a7,.own 8 ((zs.take ix).map aL++(.agg [sV y.na,iV y.re,bV y.kn,.agg [.sl false (y.gr.na.map sV),.sl false (y.gr.ru.map aD),iN y.gr.wa],iV y.tr,.own 2 (l.map ar) ga oa ca]:V)::(zs.drop (ix+1)).map aL) g o c,.ow 1 (se.map sV),.ow 3 (ls.map bf)]) [2,ix,5] r) (Zbk (V.own 2 · ga oa ca) (MW))).trans (eP (bn (aU Zaa) (dC Zaa))),⟨rfl,(bj (f:=2) rfl).trans (aS (aU Zaa) rfl),rfl,Zab,rfl,Zab,by simp <;> omega⟩,?_⟩
 intro _
 refine⟨⟨Zaj,(bj (f:=2) rfl).trans (aS (aU Zaa) rfl),Zaj,cP (f:=ar) (fun _=>rfl) _,dY (f:=ar) (fun _=>rfl) _,rfl⟩,?_⟩
 intro _
 refine⟨(Zbk (fun r:V=>V.set (.agg [sV n,iV a7,.own 8 ((zs.take ix).map aL++(.agg [sV y.na,iV y.re,bV y.kn,.agg [.sl false (y.gr.na.map sV),.sl false (y.gr.ru.map aD),iN y.gr.wa],iV y.tr,.own 2 ((l.drop 1++l.drop (l.length-1)).map ar) ga oa ca]:V)::(zs.drop (ix+1)).map aL) g o c,.ow 1 (se.map sV),.ow 3 (ls.map bf)]) [2,ix,5] r) (Zbk (V.own 2 · ga oa ca) (Le Zaa))).trans (eP (bn (aU Zaa) (dC Zaa))),?_⟩
 refine⟨?_,rfl⟩
 unfold Q
 rfl)
section
variable {P:Program} {N:Nat} {A A' B:AS}
theorem Jz{o:Oper}{K K':AS->Prop}(h:F9 P N o A K)(hK:∀ B,K B->∃ B',D' B B'/\K' B'):F9 P N o A K':=
 fun Pb Kb a w F Q hs=>Oper.wp_mono (fun a' w' ⟨B,Pb',E2,F',hk,B4,h1⟩=>by
  obtain⟨B',e,C3⟩:=hK B hk
  exact⟨B',Pb',E2,F',C3,B4.eqv e,h1⟩) (h Pb Kb a w F Q hs)
def wA(A:AS)(ρ:m0->m0)(H:List (Nat×(Nat×V)))(q gq:Nat)(vq:V):List (Nat×Nat)->Prop
 | []=>True
 | (k,q')::r=>(match lk k H with
    | some (g,v)=>(match q'==q with
      | true=>(g,v.Qf ρ)=(gq,vq)
      | false=>(match lk q' A.h with
        | some (g2,v2)=>(g,v.Qf ρ)=(g2,v2)
        | none=>False))
    | none=>False)/\wA A ρ H q gq vq r
theorem yI{ρ:m0->m0}{H:List (Nat×(Nat×V))}{q gq:Nat}{vq:V}:∀ {ks:List (Nat×Nat)} {k q':Nat},wA A ρ H q gq vq ks->(k,q')∈ks->(lk k H).map (fun gv=>(gv.1,gv.2.Qf ρ))=if q'=q then some (gq,vq) else lk q' A.h
 | [],_,_,_,h=>by simp at h
 | (k0,q0)::ks,k,q',h,hm=>by
   rcases List.mem_cons.1 hm with e | hm
   cases e
   have h1:=h.1
   split at h1
   rename_i g v hk
   rw[hk]
   split at h1
   rename_i e
   rw[if_pos (by simpa using e)]
   simp only[Option.map_some,Zal]
   exact h1
   rename_i e
   rw[if_neg (by simpa using e)]
   split at h1
   rename_i g2 v2 e2
   rw[e2]
   simp only[Option.map_some,Zal]
   exact h1
   exact h1.elim
   exact h1.elim
   exact yI h.2 hm
theorem IT{H:List (Nat×(Nat×V))}{q gq:Nat}{vq:V}{ks:List (Nat×Nat)}(h1:OU (ks.map (·.1))=true)(hn:OU (ks.map (·.2))=true)(h:wA A (mw ks) H q gq vq ks)(hq:q∈ks.map (·.2))(k:Nat):
 lk k (A.back ks H).h=if k=q then some (gq,vq) else lk k A.h:=by
 by_cases hk:k∈ks.map (·.2)
 obtain⟨⟨k0,q0⟩,hm,rfl⟩:=List.mem_map.1 hk
 have hs:lk q0 (Qd ks)=some k0:=(qM h1 hn).1 (pT h1 hm)
 have:=yI h hm
 simp only[AS.back]
 rw[mW,qF hn,hs]
 simp only[Option.bind_some]
 rw[this]
 split
 rename_i v e;rw[<- e]
 rename_i e
 split at e
 cases e
 rename_i hne
 rw[jJ,hs,if_neg hne,e];rfl
 rw[CA hn hk,if_neg (by rintro rfl;exact hk hq)]
def ZN(c:o6 P)(ks:List (Nat×Nat))(q gq:Nat)(vq:V):Eu P where
 X:=Unit
 pre N o A Sl Hl:=match o.op,o.dst with
  | .call ⟨.value fx,xs,_⟩,some d=>match A.ev fx,A.tk xs.toList with
    | .lit (.func (.func f) first A3),(vs,_)=>match f==c.f&&Nat.blt d N&&OU (ks.map (·.1))&&OU (ks.map (·.2))&&c.args.length==(first.toList.map cV++vs++A3.toList.map cV).length&&(fS A xs.toList).isEmpty&&Sl.contains d&&Hl.contains q&&(ks.map (·.2)).contains q with
      | true=>O7 (first.toList.map cV++vs++A3.toList.map cV) c.args=c.args/\pg A ks c.H (c.pre/\wA A (mw ks) c.H' q gq vq ks)
      | false=>False
    | _,_=>False
  | _,_=>False
 U o _ _ B:=⟨(B.put o.dst (c.res.Qf (mw ks))).t,(q,(gq,vq))::B.h⟩
 Xe:=by
  rintro N ⟨dst,op,ty,pos,after,D5⟩ A Sl Hl hp fs
  simp only at hp
  split at hp
  rename_i fx xs N2 d
  split at hp
  rename_i f first A3 vs A2 e1 e2
  split at hp
  rename_i e3
  simp only[Zam,Zbg,Zbi]at e3
  have hd:d∈Sl:=e3.1.1.2
  have hq:q∈Hl:=e3.1.2
  refine⟨fun g B t ht=>?_,fun g B k hk=>?_,fun g B B' hB=>?_,fun g B q2 v' hq2 _=>?_,fun g B k gv hk=>?_⟩
  show (B.put (some d) _).get t=_
  rw[AS.aJ,if_neg (fun c=>ht (by rw[c];exact hd))]
  simp only[lk]
  rw[if_neg (fun c=>hk (by rw[c];exact hq))]
  refine⟨fun t=>?_,fun k=>?_⟩
  show (B.put (some d) _).get t=(B'.put (some d) _).get t
  rw[AS.aJ,AS.aJ,hB.1 t]
  simp only[lk,hB.2 k]
  refine⟨fun t=>?_,fun k=>rfl⟩
  show ((B.put (some q2) v').put (some d) _).get t=((B.put (some d) _).put (some q2) v').get t
  rw[AS.aJ,AS.aJ,AS.aJ,AS.aJ]
  by_cases c:t=d
  subst c;rw[if_pos rfl,if_neg (fun c=>hq2 (by rw[<- c];exact hd)),if_pos rfl]
  rw[if_neg c,if_neg c]
  refine⟨fun _=>rfl,fun k2=>?_⟩
  simp only[lk]
  by_cases c:k2=q
  subst c;rw[if_pos rfl,if_neg (fun c=>hk (by rw[<- c];exact hq)),if_pos rfl]
  rw[if_neg c,if_neg c]
  exact hp.elim
  exact hp.elim
  exact hp.elim
 ok:=by
  rintro N ⟨dst,op,ty,pos,after,D5⟩ A A' Sl Hl hg hp hA hR
  simp only at hg
  subst hg
  simp only at hp
  split at hp
  rename_i fx xs N2 d
  split at hp
  rename_i f first A3 vs A2 e1 e2
  split at hp
  rename_i e3
  simp only[Zam,Zbg,Zbi,Zbj,List.isEmpty_iff]at e3
  obtain⟨⟨⟨⟨⟨⟨⟨⟨rfl,TW⟩,k1⟩,k2⟩,hlen⟩,K4⟩,hd⟩,hq⟩,hqk⟩:=e3
  obtain⟨hargs,hrj⟩:=hp
  obtain⟨Rr,SY,XV⟩:=kO hrj
  have Wa:A'.ev fx=A.ev fx:=bN fun t ht=>hA t (by subst ht;simp[Op.operands,Call.operands])
  obtain⟨t1,t2⟩:=vm xs.toList (A:=A) (A':=A') fun t ht=>hA t (by simp only[Op.operands,Call.operands];simp;right;simpa using ht)
  have US:=vo xs.toList (A:=A')
  rw[t2,K4]at US
  have WW:(A.tk xs.toList).1=vs:=by rw[e2]
  refine Jz (pU (A:=A') (K:=fun B=>B=((A'.tk xs.toList).2.back ks c.H').put (some d) (c.res.Qf (mw ks))) ks rfl (by rw[Wa];exact e1) (bW TW) k1 k2 (c.ok SY) (by rw[t1,WW];exact hargs) (by rw[t1,WW];exact hlen)
   (ob (fun k _=>(US.2 k).trans (hR k)) Rr) ?_) ?_
  rintro r H0 ⟨rfl,rfl⟩;rfl
  rintro B rfl
  refine⟨_,⟨fun t=>?_,fun k=>?_⟩,(),rfl⟩
  show (AS.put _ (some d) _).get t=(A'.put (some d) _).get t
  rw[AS.aJ,AS.aJ]
  split
  rfl
  exact US.1 t
  show lk k ((A'.tk xs.toList).2.back ks c.H').h=lk k ((q,(gq,vq))::A'.h)
  rw[rf (B:=A) (fun k=>(US.2 k).trans (hR k)),IT k1 k2 XV hqk]
  simp only[lk,hR k]
  exact hp.elim
  exact hp.elim
  exact hp.elim
end
abbrev uE(p0:BL)(p1:Int)(p2:List k9)(p3:Nat)(p4:BL)(p5:Int)(p6:V)(p7:List r7)(p8:Nat)(p9:Int)(RU:List w5)(SE:Nat)(SD:Nat)(SC:Nat)(SB:List BL)(SA:List l5):V:=.agg [sV p0,iV p1,.own 8 ((p2.take p3).map aL++(.agg [sV p4,iV p5,bV true,.agg [ p6,.sl false (p7.map aD),iN p8],iV p9,.ow 2 (RU.map ar)]:V)::(p2.drop (p3+1)).map aL) SE SD SC,.ow 1 (SB.map sV),.ow 3 (SA.map bf)]
abbrev DG(p0:BL)(p1:Int)(p2:List k9)(p3:Nat)(p4:BL)(p5:Int)(p6:List BL)(p7:List r7)(p8:Nat)(p9:Int)(RU:List w5)(SE:Nat)(SD:Nat)(SC:Nat)(SB:List BL)(SA:List l5):V:=.agg [sV p0,iV p1,.own 8 ((p2.take p3).map aL++(.agg [sV p4,iV p5,bV true,.agg [.sl false (p6.map sV),.sl false (p7.map aD),iN p8],iV p9,.ow 2 (RU.map ar)]:V)::(p2.drop (p3+1)).map aL) SE SD SC,.ow 1 (SB.map sV),.ow 3 (SA.map bf)]
theorem GH{y:k9}{l:List w5}:((iH y l).map ar).take (l.filter (OV y)).length=(l.filter (OV y)).map ar:=by
 unfold iH;rw[<- List.map_take,List.take_left'];rfl
theorem Hd{y:k9}{l:List w5}:(iH y l).length=l.length:=by
 have:=List.length_filter_le (OV y) l
 unfold iH;simp;omega
theorem EW{α:Type}{l:List α}{f:α->V}{a:α}{i:Nat}(h:i<l.length):(l.set i a).map f=(l.take i).map f++f a::(l.drop (i+1)).map f:=(nK (f:=f) (x:=a) h).symm
theorem No{w:List Pg}{n:BL}{y:k9}{a7:Int}(h:(ae w (ag y.na) y.tr).1=3/\y.tr+1<3):G' w n y a7={ n9 w y a7 with tr:=y.tr+1 }:=if_pos h
theorem Nw{w:List Pg}{n:BL}{y:k9}{a7:Int}(h:(ae w (ag y.na) y.tr).1=3->3<=y.tr+1):G' w n y a7={ n9 w y a7 with kn:=true,gr:=ba w n y.na,re:=max (n9 w y a7).re (a7+((ba w n y.na).wa:Int)),td:=y.td.filter (Oq (ba w n y.na).ru) }:=if_neg fun c=>by have:=h c.1;omega
def zR(n:BL)(a7:Int)(zs:List k9)(se:List BL)(ls:List l5)(gt:Nat)(g:Nat)(o:Nat)(c:Nat)(gw:Nat)(ix:Nat)(w:List Pg):o6 Tryz.prog:=.mk 99 [.ptr (.key 1001) [] gw 0,.ptr (.key 1000) [2,ix] g (o+ix*8)] [(1001,(gw,.agg [.mp (w.map F8),.ptr (.key 1000) [] gt 0])),(1000,(gt,ck n a7 zs g o c se ls))] ((ix<zs.length)/\(ls.length<=1000)/\(0<=a7/\a7<=100000)/\(HS 60 (zs.getD ix c5))/\(∀ i,m4 (w.getD i l9))) (.tup []) [(1001,(gw,.agg [.mp (w.map F8),.ptr (.key 1000) [] gt 0])),(1000,(gt,ck n a7 (zs.set ix (G' w n (zs.getD ix c5) a7)) g o c se (ls++[(⟨a7,ag (zs.getD ix c5).na,(ae w (ag (zs.getD ix c5).na) (zs.getD ix c5).tr).1⟩:l5)])))] (by
 rintro⟨hi,hl,hn,hy,hz⟩
 generalize ZD:zs.getD ix c5=y
 refine aB (N:=89) (rs:=[]) Tryz.func99
  ((fun y1:l4=>(fun y2:Int=>(fun y3:Int×BL=>(.bx (fun g3=>.r 5 [.b9]<|.dx 16 [0,1,2,3,4,5,6,7,8,9,10,11,12,13,14,15] [(1,⟨false,[],some [3],[13],[]⟩),(2,⟨false,[],some [3],[14],[]⟩),(5,⟨false,[],some [1000],[17],[]⟩),(7,⟨false,[],some [3],[19],[]⟩),(10,⟨false,[],some [1000],[22],[]⟩),(11,⟨true,[],some [1000,1001],[23],[1000,1001]⟩)] []<|.q 1<|.r 1 [.b9]<|.r 1 [.b9]<|.q 1<|.q 1<|.r 1 [sV (y.na)]<|.c (dP (y.na)) []<|.r 1 [.b9]<|.q 1<|.q 1<|.r 1 [iV (y.tr)]<|.c (AH n a7 zs se ls gt g o c gw ix w (ag (y.na)) (y.tr) y) [(1001,1001),(1000,1000)]<|.q 1<|.q 1<|.q 1<|.q 1<|.q 1<|.h (.C7 1000 (dA n a7 zs ix (y.na) ((n9 w y a7).re) (y.kn) (y.gr.na) (y.gr.ru) (y.gr.wa) (y.tr) (y.td) g o c se (ls++[(⟨a7,(ag (y.na)),y3.1⟩:l5)])))<|.r 10 [.b9,iV (y.tr)]<|.br (.r 7 [.b9,iV (y.tr)]<|.st (some (iV (y.tr)))<|.h (.C7 1000 (dA n a7 zs ix (y.na) ((n9 w y a7).re) (y.kn) (y.gr.na) (y.gr.ru) (y.gr.wa) ((y.tr)+1) (y.td) g o c se (ls++[(⟨a7,(ag (y.na)),y3.1⟩:l5)])))<|.h (.C7 1000 (ck n a7 (zs.set ix ({ n9 w y a7 with tr:=y.tr+1 }:k9)) g o c se (ls++[(⟨a7,(ag (y.na)),y3.1⟩:l5)])))<|.nil) (.r 3 [.b9]<|.st (some (bV (y.kn)))<|.h (.C7 1000 (DG n a7 zs ix (y.na) ((n9 w y a7).re) (y.gr.na) (y.gr.ru) (y.gr.wa) (y.tr) (y.td) g o c se (ls++[(⟨a7,(ag (y.na)),y3.1⟩:l5)])))<|.dx 14 [0,1,2,3,4,5,6,7,8,9,10,11,12,13] [(0,⟨false,[],some [3],[46],[]⟩),(4,⟨false,[],some [1001],[50],[]⟩),(5,⟨false,[],some [3],[51],[]⟩),(8,⟨false,[],some [1000],[54],[]⟩),(12,⟨false,[],some [1000],[58],[]⟩)] []<|.r 1 [.b9]<|.q 1<|.q 1<|.q 1<|.r 1 [.b9]<|.r 1 [.b9]<|.q 1<|.q 1<|.r 1 [sV (y.na)]<|.q 1<|.q 1<|.q 1<|.r 1 [.b9]<|.c (pQ w (y.na) n) []<|.q 2<|.st (some (fa (y.gr.na) (y.gr.ru) (y.gr.wa)))<|.h (.C7 1000 (uE n a7 zs ix (y.na) ((n9 w y a7).re) (.sl false ([n].map sV)) (y1.ru) (y1.wa) (y.tr) (y.td) g o c se (ls++[(⟨a7,(ag (y.na)),y3.1⟩:l5)])))<|.dx 16 [0,1,2,3,4,5,6,7,8,9,10,11,12,13,14,15] [(0,⟨false,[],some [3],[62],[]⟩),(1,⟨false,[],some [3],[63],[]⟩),(4,⟨false,[],some [1000],[66],[]⟩),(8,⟨false,[],some [1000],[70],[]⟩),(9,⟨false,[],some [3],[71],[]⟩),(13,⟨false,[],some [1000],[75],[]⟩)] []<|.r 1 [.b9]<|.r 1 [.b9]<|.q 1<|.q 1<|.r 1 [iV ((n9 w y a7).re)]<|.q 1<|.q 1<|.q 1<|.r 1 [.b9]<|.r 1 [.b9]<|.q 1<|.q 1<|.q 1<|.r 1 [iN (y1.wa)]<|.q 1<|.mm<|.q 2<|.st (some (iV ((n9 w y a7).re)))<|.h (.C7 1000 (uE n a7 zs ix (y.na) (max ((n9 w y a7).re) (a7+y2)) (.sl false ([n].map sV)) (y1.ru) (y1.wa) (y.tr) (y.td) g o c se (ls++[(⟨a7,(ag (y.na)),y3.1⟩:l5)])))<|.Sa (.key 1000) [2,ix,5] g (o+(ix)*8+7) 2 ((y.td).map ar) (fun ga oa ca=>.h (.C7 1000 (.agg [sV n,iV a7,.own 8 ((zs.take ix).map aL++(.agg [sV (y.na),iV (max ((n9 w y a7).re) (a7+y2)),bV true,lx (.sl false ([n].map sV)) (y1.ru) (y1.wa),iV (y.tr),.own 2 ((y.td).map ar) ga oa ca]:V)::(zs.drop (ix+1)).map aL) g o c,.ow 1 (se.map sV),.ow 3 ((ls++[(⟨a7,(ag (y.na)),y3.1⟩:l5)]).map bf)]))<|.dx 7 [0,1,2,3,4,5,6] [(0,⟨false,[],some [3],[80],[]⟩),(1,⟨false,[],some [3],[81],[]⟩),(4,⟨false,[],some [1000],[84],[]⟩),(5,⟨true,[],none,[85],[]⟩),(6,⟨true,[],none,[86],[1000]⟩)] []<|.r 1 [.b9]<|.r 1 [.b9]<|.q 1<|.q 1<|.r 1 [.own 2 ((y.td).map ar) ga oa ca]<|.eu mfE (fun _=>.eu (ZN (EV n a7 zs se (ls++[(⟨a7,(ag (y.na)),y3.1⟩:l5)]) gt g o c ix (⟨y.na,max ((n9 w y a7).re) (a7+y2),true,⟨[n],y1.ru,y1.wa⟩,y.tr,[]⟩:k9) ga oa ca (y.td) g3) [(1002,3),(1000,1000)] 1000 gt (bQ n a7 zs ix ((⟨y.na,max ((n9 w y a7).re) (a7+y2),true,⟨[n],y1.ru,y1.wa⟩,y.tr,[]⟩:k9).na) ((⟨y.na,max ((n9 w y a7).re) (a7+y2),true,⟨[n],y1.ru,y1.wa⟩,y.tr,[]⟩:k9).re) ((⟨y.na,max ((n9 w y a7).re) (a7+y2),true,⟨[n],y1.ru,y1.wa⟩,y.tr,[]⟩:k9).kn) ((⟨y.na,max ((n9 w y a7).re) (a7+y2),true,⟨[n],y1.ru,y1.wa⟩,y.tr,[]⟩:k9).gr.na) ((⟨y.na,max ((n9 w y a7).re) (a7+y2),true,⟨[n],y1.ru,y1.wa⟩,y.tr,[]⟩:k9).gr.ru) ((⟨y.na,max ((n9 w y a7).re) (a7+y2),true,⟨[n],y1.ru,y1.wa⟩,y.tr,[]⟩:k9).gr.wa) ((⟨y.na,max ((n9 w y a7).re) (a7+y2),true,⟨[n],y1.ru,y1.wa⟩,y.tr,[]⟩:k9).tr) (iH (⟨y.na,max ((n9 w y a7).re) (a7+y2),true,⟨[n],y1.ru,y1.wa⟩,y.tr,[]⟩:k9) (y.td)) ga oa ca g o c se (ls++[(⟨a7,(ag (y.na)),y3.1⟩:l5)]))) (fun _=>.q 2<|.cu (Z2 1000 [2,ix,5] (((y.td).filter (OV (⟨y.na,max ((n9 w y a7).re) (a7+y2),true,⟨[n],y1.ru,y1.wa⟩,y.tr,[]⟩:k9))).length) 2 ((iH (⟨y.na,max ((n9 w y a7).re) (a7+y2),true,⟨[n],y1.ru,y1.wa⟩,y.tr,[]⟩:k9) (y.td)).map ar) ga oa ca g (o+(ix)*8+7)) (fun _=>.h (.C7 1000 (bQ n a7 zs ix ((⟨y.na,max ((n9 w y a7).re) (a7+y2),true,⟨[n],y1.ru,y1.wa⟩,y.tr,[]⟩:k9).na) ((⟨y.na,max ((n9 w y a7).re) (a7+y2),true,⟨[n],y1.ru,y1.wa⟩,y.tr,[]⟩:k9).re) ((⟨y.na,max ((n9 w y a7).re) (a7+y2),true,⟨[n],y1.ru,y1.wa⟩,y.tr,[]⟩:k9).kn) ((⟨y.na,max ((n9 w y a7).re) (a7+y2),true,⟨[n],y1.ru,y1.wa⟩,y.tr,[]⟩:k9).gr.na) ((⟨y.na,max ((n9 w y a7).re) (a7+y2),true,⟨[n],y1.ru,y1.wa⟩,y.tr,[]⟩:k9).gr.ru) ((⟨y.na,max ((n9 w y a7).re) (a7+y2),true,⟨[n],y1.ru,y1.wa⟩,y.tr,[]⟩:k9).gr.wa) ((⟨y.na,max ((n9 w y a7).re) (a7+y2),true,⟨[n],y1.ru,y1.wa⟩,y.tr,[]⟩:k9).tr) (y.td.filter (Oq (ba w n y.na).ru)) ga oa ca g o c se (ls++[(⟨a7,(ag (y.na)),y3.1⟩:l5)])))<|.h (.Rz (.key 1000) [2,ix,5] g (o+(ix)*8+7) (.own 2 ((y.td.filter (Oq (ba w n y.na).ru)).map ar) ga oa ca) (.ow 2 ((y.td.filter (Oq (ba w n y.na).ru)).map ar)))<|.h (.C7 1000 (dA n a7 zs ix ((⟨y.na,max ((n9 w y a7).re) (a7+y2),true,⟨[n],y1.ru,y1.wa⟩,y.tr,[]⟩:k9).na) ((⟨y.na,max ((n9 w y a7).re) (a7+y2),true,⟨[n],y1.ru,y1.wa⟩,y.tr,[]⟩:k9).re) ((⟨y.na,max ((n9 w y a7).re) (a7+y2),true,⟨[n],y1.ru,y1.wa⟩,y.tr,[]⟩:k9).kn) ((⟨y.na,max ((n9 w y a7).re) (a7+y2),true,⟨[n],y1.ru,y1.wa⟩,y.tr,[]⟩:k9).gr.na) ((⟨y.na,max ((n9 w y a7).re) (a7+y2),true,⟨[n],y1.ru,y1.wa⟩,y.tr,[]⟩:k9).gr.ru) ((⟨y.na,max ((n9 w y a7).re) (a7+y2),true,⟨[n],y1.ru,y1.wa⟩,y.tr,[]⟩:k9).gr.wa) ((⟨y.na,max ((n9 w y a7).re) (a7+y2),true,⟨[n],y1.ru,y1.wa⟩,y.tr,[]⟩:k9).tr) (y.td.filter (Oq (ba w n y.na).ru)) g o c se (ls++[(⟨a7,(ag (y.na)),y3.1⟩:l5)])))<|.h (.C7 1000 (ck n a7 (zs.set ix ({ n9 w y a7 with kn:=true,gr:=(ba w n y.na),re:=max (n9 w y a7).re (a7+((ba w n y.na).wa:Int)),td:=y.td.filter (Oq (ba w n y.na).ru) }:k9)) g o c se (ls++[(⟨a7,(ag (y.na)),y3.1⟩:l5)])))<|.nil)))))):Sc Tryz.prog)) (ae w (ag (y.na)) (y.tr))) ((y1.wa:Nat):Int)) (bC (ae w (ag (y.na)) 2).1 (ae w (ag (y.na)) 2).2 n))
  ((fun v6:BL=>(fun v1:l4=>(fun v2:Int=>(fun v3:Int×BL=>(fun v4:V=>(fun v12:V=>(fun v5:V=>(fun v7:V=>(fun v8:V=>(fun v9:l4=>(fun v10:V=>(fun v11:V=>(fun E4:Bool=>(fun H6:V=>(∀ g3:Nat,True/\Z gw 1/\Z g3 0/\Z g3 0/\True/\(V.at gt 0 H6 [2,ix,0]=some (g,(o+ix*8+0),sV (y.na)))/\(dP (y.na)).sm/\(((y.na).length<=4000000000000000000))/\Z g3 0/\True/\(V.at gt 0 H6 [2,ix,4]=some (g,(o+ix*8+6),iV (y.tr)))/\(([.ptr (.key 1001) [] gw 0,.ptr (.key 1000) [2,ix] g (o+ix*8),sV v6,iV (y.tr)]:List V)=[.ptr (.key 1001) [] gw 0,.ptr (.key 1000) [2,ix] g (o+ix*8),sV v6,iV (y.tr)])/\Er gw v11/\Er gt H6/\((ix<zs.length)/\(ls.length<=1000)/\(0<=(y.tr)/\(y.tr)<=1000)/\(0<=a7/\a7<=100000)/\(y=y)/\(y.gr.wa<=1000))/\((ck n a7 (zs.set ix (cJ y a7 v3.1 (y.tr))) g o c se (ls++[(⟨a7,v6,v3.1⟩:l5)]):V)=dA n a7 zs ix (y.na) ((n9 w y a7).re) (y.kn) (y.gr.na) (y.gr.ru) (y.gr.wa) (y.tr) (y.td) g o c se (ls++[(⟨a7,v6,v3.1⟩:l5)]))/\Gd (E4==true) (Z g3 0)/\Gd (E4==true) True/\Gd (E4==true) (V.at gt 0 v4 [2,ix,4]=some (g,(o+ix*8+6),iV (y.tr)))/\Gd (E4==true) (m8 ((y.tr)+1))/\Pk E4 (E4==true) true/\Br (E4&&(r8 ((y.tr)+1) 3)) (Z g3 0/\True/\(V.at gt 0 v4 [2,ix,4]=some (g,(o+ix*8+6),iV (y.tr)))/\m8 ((y.tr)+1)/\True/\(V.at gt 0 v4 [2,ix,4]=some (g,(o+ix*8+6),iV (y.tr)))/\(V.set v4 [2,ix,4] (iV ((y.tr)+1))=dA n a7 zs ix (y.na) ((n9 w y a7).re) (y.kn) (y.gr.na) (y.gr.ru) (y.gr.wa) ((y.tr)+1) (y.td) g o c se (ls++[(⟨a7,v6,v3.1⟩:l5)]))/\((dA n a7 zs ix (y.na) ((n9 w y a7).re) (y.kn) (y.gr.na) (y.gr.ru) (y.gr.wa) ((y.tr)+1) (y.td) g o c se (ls++[(⟨a7,v6,v3.1⟩:l5)]):V)=ck n a7 (zs.set ix ({ n9 w y a7 with tr:=y.tr+1 }:k9)) g o c se (ls++[(⟨a7,v6,v3.1⟩:l5)]))/\Q (.tup []) (.tup [])/\Er gw v11/\Qr gt (ck n a7 (zs.set ix ({ n9 w y a7 with tr:=y.tr+1 }:k9)) g o c se (ls++[(⟨a7,v6,v3.1⟩:l5)])) gt v10) (Z g3 0/\True/\(V.at gt 0 v4 [2,ix,2]=some (g,(o+ix*8+2),bV (y.kn)))/\(V.set v4 [2,ix,2] (bV true)=DG n a7 zs ix (y.na) ((n9 w y a7).re) (y.gr.na) (y.gr.ru) (y.gr.wa) (y.tr) (y.td) g o c se (ls++[(⟨a7,v6,v3.1⟩:l5)]))/\Z g3 0/\True/\Z gw 0/\Z g3 0/\True/\(V.at gt 0 v7 [2,ix,0]=some (g,(o+ix*8+0),sV (y.na)))/\True/\Z gt 0/\(pQ w (y.na) n).sm/\(((y.na).length<=1000)/\((ae w v6 2).2.length<=1000000))/\True/\(V.at gt 0 v7 [2,ix,3]=some (g,(o+ix*8+3),fa (y.gr.na) (y.gr.ru) (y.gr.wa)))/\(V.set v7 [2,ix,3] (lx v12 (v1.ru) (v1.wa))=uE n a7 zs ix (y.na) ((n9 w y a7).re) v12 (v1.ru) (v1.wa) (y.tr) (y.td) g o c se (ls++[(⟨a7,v6,v3.1⟩:l5)]))/\Z g3 0/\Z g3 0/\True/\(V.at gt 0 v5 [2,ix,1]=some (g,(o+ix*8+1),iV ((n9 w y a7).re)))/\True/\Z gt 1/\Z g3 0/\True/\(V.at gt 0 v5 [2,ix,3,2]=some (g,(o+ix*8+3+2),iN (v1.wa)))/\m8 (a7+v2)/\(IntKind.i64=IntKind.i64)/\True/\(V.at gt 0 v5 [2,ix,1]=some (g,(o+ix*8+1),iV ((n9 w y a7).re)))/\(V.set v5 [2,ix,1] (iV (max ((n9 w y a7).re) (a7+v2)))=uE n a7 zs ix (y.na) (max ((n9 w y a7).re) (a7+v2)) v12 (v1.ru) (v1.wa) (y.tr) (y.td) g o c se (ls++[(⟨a7,v6,v3.1⟩:l5)]))/\(V.at gt 0 v8 [2,ix,5]=some (g,o+(ix)*8+7,.ow 2 ((y.td).map ar)))/\∀ ga oa ca:Nat,(fun J4:V=>(V.set v8 [2,ix,5] (.own 2 ((y.td).map ar) ga oa ca)=.agg [sV n,iV a7,.own 8 ((zs.take ix).map aL++J4::(zs.drop (ix+1)).map aL) g o c,.ow 1 (se.map sV),.ow 3 ((ls++[(⟨a7,v6,v3.1⟩:l5)]).map bf)])/\Z g3 0/\Z g3 0/\True/\(V.at gt 0 (.agg [sV n,iV a7,.own 8 ((zs.take ix).map aL++J4::(zs.drop (ix+1)).map aL) g o c,.ow 1 (se.map sV),.ow 3 ((ls++[(⟨a7,v6,v3.1⟩:l5)]).map bf)]) [2,ix,5]=some (g,(o+ix*8+7),.own 2 ((y.td).map ar) ga oa ca))/\((Value.func (.func 123) #[] #[.pointer (some ⟨g3,0,none⟩)]).oneCell'=true)/\∀ _:Unit,((EV n a7 zs se (ls++[(⟨a7,v6,v3.1⟩:l5)]) gt g o c ix (⟨y.na,max ((n9 w y a7).re) (a7+v2),true,⟨[n],v1.ru,v1.wa⟩,y.tr,[]⟩:k9) ga oa ca (y.td) g3).sm/\Er g3 (.ptr (.key 1000) [2,ix] g (o+ix*8))/\Er gt (bQ n a7 zs ix ((⟨y.na,max ((n9 w y a7).re) (a7+v2),true,⟨[n],v1.ru,v1.wa⟩,y.tr,[]⟩:k9).na) ((⟨y.na,max ((n9 w y a7).re) (a7+v2),true,⟨[n],v1.ru,v1.wa⟩,y.tr,[]⟩:k9).re) ((⟨y.na,max ((n9 w y a7).re) (a7+v2),true,⟨[n],v1.ru,v1.wa⟩,y.tr,[]⟩:k9).kn) ((⟨y.na,max ((n9 w y a7).re) (a7+v2),true,⟨[n],v1.ru,v1.wa⟩,y.tr,[]⟩:k9).gr.na) ((⟨y.na,max ((n9 w y a7).re) (a7+v2),true,⟨[n],v1.ru,v1.wa⟩,y.tr,[]⟩:k9).gr.ru) ((⟨y.na,max ((n9 w y a7).re) (a7+v2),true,⟨[n],v1.ru,v1.wa⟩,y.tr,[]⟩:k9).gr.wa) ((⟨y.na,max ((n9 w y a7).re) (a7+v2),true,⟨[n],v1.ru,v1.wa⟩,y.tr,[]⟩:k9).tr) (y.td) ga oa ca g o c se (ls++[(⟨a7,v6,v3.1⟩:l5)]))/\(((ix<zs.length)/\((y.td).length<=1000)/\(∀ x,x∈(y.td)->x.ad.length<=1000/\l8 x.ad)/\((⟨y.na,max ((n9 w y a7).re) (a7+v2),true,⟨[n],v1.ru,v1.wa⟩,y.tr,[]⟩:k9).gr.ru.length<=1000)/\(∀ i,((⟨y.na,max ((n9 w y a7).re) (a7+v2),true,⟨[n],v1.ru,v1.wa⟩,y.tr,[]⟩:k9).gr.ru.getD i ⟨false,[]⟩).path.length<=1000))/\(((g3,.ptr (.key 1000) [2,ix] g (o+ix*8)):Nat×V)=(g3,.ptr (.key 1000) [2,ix] g (o+ix*8)))/\(((gt,bQ n a7 zs ix ((⟨y.na,max ((n9 w y a7).re) (a7+v2),true,⟨[n],v1.ru,v1.wa⟩,y.tr,[]⟩:k9).na) ((⟨y.na,max ((n9 w y a7).re) (a7+v2),true,⟨[n],v1.ru,v1.wa⟩,y.tr,[]⟩:k9).re) ((⟨y.na,max ((n9 w y a7).re) (a7+v2),true,⟨[n],v1.ru,v1.wa⟩,y.tr,[]⟩:k9).kn) ((⟨y.na,max ((n9 w y a7).re) (a7+v2),true,⟨[n],v1.ru,v1.wa⟩,y.tr,[]⟩:k9).gr.na) ((⟨y.na,max ((n9 w y a7).re) (a7+v2),true,⟨[n],v1.ru,v1.wa⟩,y.tr,[]⟩:k9).gr.ru) ((⟨y.na,max ((n9 w y a7).re) (a7+v2),true,⟨[n],v1.ru,v1.wa⟩,y.tr,[]⟩:k9).gr.wa) ((⟨y.na,max ((n9 w y a7).re) (a7+v2),true,⟨[n],v1.ru,v1.wa⟩,y.tr,[]⟩:k9).tr) (iH (⟨y.na,max ((n9 w y a7).re) (a7+v2),true,⟨[n],v1.ru,v1.wa⟩,y.tr,[]⟩:k9) (y.td)) ga oa ca g o c se (ls++[(⟨a7,v6,v3.1⟩:l5)])):Nat×V)=(gt,bQ n a7 zs ix ((⟨y.na,max ((n9 w y a7).re) (a7+v2),true,⟨[n],v1.ru,v1.wa⟩,y.tr,[]⟩:k9).na) ((⟨y.na,max ((n9 w y a7).re) (a7+v2),true,⟨[n],v1.ru,v1.wa⟩,y.tr,[]⟩:k9).re) ((⟨y.na,max ((n9 w y a7).re) (a7+v2),true,⟨[n],v1.ru,v1.wa⟩,y.tr,[]⟩:k9).kn) ((⟨y.na,max ((n9 w y a7).re) (a7+v2),true,⟨[n],v1.ru,v1.wa⟩,y.tr,[]⟩:k9).gr.na) ((⟨y.na,max ((n9 w y a7).re) (a7+v2),true,⟨[n],v1.ru,v1.wa⟩,y.tr,[]⟩:k9).gr.ru) ((⟨y.na,max ((n9 w y a7).re) (a7+v2),true,⟨[n],v1.ru,v1.wa⟩,y.tr,[]⟩:k9).gr.wa) ((⟨y.na,max ((n9 w y a7).re) (a7+v2),true,⟨[n],v1.ru,v1.wa⟩,y.tr,[]⟩:k9).tr) (iH (⟨y.na,max ((n9 w y a7).re) (a7+v2),true,⟨[n],v1.ru,v1.wa⟩,y.tr,[]⟩:k9) (y.td)) ga oa ca g o c se (ls++[(⟨a7,v6,v3.1⟩:l5)])))/\True))/\∀ _:Unit,True/\((((.key 1000:m0),([2,ix,5]:List Nat),2,ga,oa,(0:Nat),(((y.td).filter (OV (⟨y.na,max ((n9 w y a7).re) (a7+v2),true,⟨[n],v1.ru,v1.wa⟩,y.tr,[]⟩:k9))).length),ca)=((.key 1000:m0),([2,ix,5]:List Nat),2,ga,oa,(0:Nat),(((y.td).filter (OV (⟨y.na,max ((n9 w y a7).re) (a7+v2),true,⟨[n],v1.ru,v1.wa⟩,y.tr,[]⟩:k9))).length),ca))/\((.ptr (.key 1000) [2,ix,5] g (o+ix*8+7):V)=.ptr (.key 1000) [2,ix,5] g (o+(ix)*8+7))/\(V.at gt 0 (bQ n a7 zs ix ((⟨y.na,max ((n9 w y a7).re) (a7+v2),true,⟨[n],v1.ru,v1.wa⟩,y.tr,[]⟩:k9).na) ((⟨y.na,max ((n9 w y a7).re) (a7+v2),true,⟨[n],v1.ru,v1.wa⟩,y.tr,[]⟩:k9).re) ((⟨y.na,max ((n9 w y a7).re) (a7+v2),true,⟨[n],v1.ru,v1.wa⟩,y.tr,[]⟩:k9).kn) ((⟨y.na,max ((n9 w y a7).re) (a7+v2),true,⟨[n],v1.ru,v1.wa⟩,y.tr,[]⟩:k9).gr.na) ((⟨y.na,max ((n9 w y a7).re) (a7+v2),true,⟨[n],v1.ru,v1.wa⟩,y.tr,[]⟩:k9).gr.ru) ((⟨y.na,max ((n9 w y a7).re) (a7+v2),true,⟨[n],v1.ru,v1.wa⟩,y.tr,[]⟩:k9).gr.wa) ((⟨y.na,max ((n9 w y a7).re) (a7+v2),true,⟨[n],v1.ru,v1.wa⟩,y.tr,[]⟩:k9).tr) (iH (⟨y.na,max ((n9 w y a7).re) (a7+v2),true,⟨[n],v1.ru,v1.wa⟩,y.tr,[]⟩:k9) (y.td)) ga oa ca g o c se (ls++[(⟨a7,v6,v3.1⟩:l5)])) [2,ix,5]=some (g,o+(ix)*8+7,.own 2 ((iH (⟨y.na,max ((n9 w y a7).re) (a7+v2),true,⟨[n],v1.ru,v1.wa⟩,y.tr,[]⟩:k9) (y.td)).map ar) ga oa ca))/\((1:Nat)=1)/\((((y.td).filter (OV (⟨y.na,max ((n9 w y a7).re) (a7+v2),true,⟨[n],v1.ru,v1.wa⟩,y.tr,[]⟩:k9))).length)<=((iH (⟨y.na,max ((n9 w y a7).re) (a7+v2),true,⟨[n],v1.ru,v1.wa⟩,y.tr,[]⟩:k9) (y.td)).map ar).length)/\(V.aK ((iH (⟨y.na,max ((n9 w y a7).re) (a7+v2),true,⟨[n],v1.ru,v1.wa⟩,y.tr,[]⟩:k9) (y.td)).map ar)=false))/\∀ _:Unit,(V.set (bQ n a7 zs ix ((⟨y.na,max ((n9 w y a7).re) (a7+v2),true,⟨[n],v1.ru,v1.wa⟩,y.tr,[]⟩:k9).na) ((⟨y.na,max ((n9 w y a7).re) (a7+v2),true,⟨[n],v1.ru,v1.wa⟩,y.tr,[]⟩:k9).re) ((⟨y.na,max ((n9 w y a7).re) (a7+v2),true,⟨[n],v1.ru,v1.wa⟩,y.tr,[]⟩:k9).kn) ((⟨y.na,max ((n9 w y a7).re) (a7+v2),true,⟨[n],v1.ru,v1.wa⟩,y.tr,[]⟩:k9).gr.na) ((⟨y.na,max ((n9 w y a7).re) (a7+v2),true,⟨[n],v1.ru,v1.wa⟩,y.tr,[]⟩:k9).gr.ru) ((⟨y.na,max ((n9 w y a7).re) (a7+v2),true,⟨[n],v1.ru,v1.wa⟩,y.tr,[]⟩:k9).gr.wa) ((⟨y.na,max ((n9 w y a7).re) (a7+v2),true,⟨[n],v1.ru,v1.wa⟩,y.tr,[]⟩:k9).tr) (iH (⟨y.na,max ((n9 w y a7).re) (a7+v2),true,⟨[n],v1.ru,v1.wa⟩,y.tr,[]⟩:k9) (y.td)) ga oa ca g o c se (ls++[(⟨a7,v6,v3.1⟩:l5)])) [2,ix,5] (.own 2 (((iH (⟨y.na,max ((n9 w y a7).re) (a7+v2),true,⟨[n],v1.ru,v1.wa⟩,y.tr,[]⟩:k9) (y.td)).map ar).take (((y.td).filter (OV (⟨y.na,max ((n9 w y a7).re) (a7+v2),true,⟨[n],v1.ru,v1.wa⟩,y.tr,[]⟩:k9))).length)) ga oa ca)=bQ n a7 zs ix ((⟨y.na,max ((n9 w y a7).re) (a7+v2),true,⟨[n],v1.ru,v1.wa⟩,y.tr,[]⟩:k9).na) ((⟨y.na,max ((n9 w y a7).re) (a7+v2),true,⟨[n],v1.ru,v1.wa⟩,y.tr,[]⟩:k9).re) ((⟨y.na,max ((n9 w y a7).re) (a7+v2),true,⟨[n],v1.ru,v1.wa⟩,y.tr,[]⟩:k9).kn) ((⟨y.na,max ((n9 w y a7).re) (a7+v2),true,⟨[n],v1.ru,v1.wa⟩,y.tr,[]⟩:k9).gr.na) ((⟨y.na,max ((n9 w y a7).re) (a7+v2),true,⟨[n],v1.ru,v1.wa⟩,y.tr,[]⟩:k9).gr.ru) ((⟨y.na,max ((n9 w y a7).re) (a7+v2),true,⟨[n],v1.ru,v1.wa⟩,y.tr,[]⟩:k9).gr.wa) ((⟨y.na,max ((n9 w y a7).re) (a7+v2),true,⟨[n],v1.ru,v1.wa⟩,y.tr,[]⟩:k9).tr) (y.td.filter (Oq v9.ru)) ga oa ca g o c se (ls++[(⟨a7,v6,v3.1⟩:l5)]))/\(V.at gt 0 (bQ n a7 zs ix ((⟨y.na,max ((n9 w y a7).re) (a7+v2),true,⟨[n],v1.ru,v1.wa⟩,y.tr,[]⟩:k9).na) ((⟨y.na,max ((n9 w y a7).re) (a7+v2),true,⟨[n],v1.ru,v1.wa⟩,y.tr,[]⟩:k9).re) ((⟨y.na,max ((n9 w y a7).re) (a7+v2),true,⟨[n],v1.ru,v1.wa⟩,y.tr,[]⟩:k9).kn) ((⟨y.na,max ((n9 w y a7).re) (a7+v2),true,⟨[n],v1.ru,v1.wa⟩,y.tr,[]⟩:k9).gr.na) ((⟨y.na,max ((n9 w y a7).re) (a7+v2),true,⟨[n],v1.ru,v1.wa⟩,y.tr,[]⟩:k9).gr.ru) ((⟨y.na,max ((n9 w y a7).re) (a7+v2),true,⟨[n],v1.ru,v1.wa⟩,y.tr,[]⟩:k9).gr.wa) ((⟨y.na,max ((n9 w y a7).re) (a7+v2),true,⟨[n],v1.ru,v1.wa⟩,y.tr,[]⟩:k9).tr) (y.td.filter (Oq v9.ru)) ga oa ca g o c se (ls++[(⟨a7,v6,v3.1⟩:l5)])) [2,ix,5]=some (g,o+(ix)*8+7,.own 2 ((y.td.filter (Oq v9.ru)).map ar) ga oa ca))/\(V.set (bQ n a7 zs ix ((⟨y.na,max ((n9 w y a7).re) (a7+v2),true,⟨[n],v1.ru,v1.wa⟩,y.tr,[]⟩:k9).na) ((⟨y.na,max ((n9 w y a7).re) (a7+v2),true,⟨[n],v1.ru,v1.wa⟩,y.tr,[]⟩:k9).re) ((⟨y.na,max ((n9 w y a7).re) (a7+v2),true,⟨[n],v1.ru,v1.wa⟩,y.tr,[]⟩:k9).kn) ((⟨y.na,max ((n9 w y a7).re) (a7+v2),true,⟨[n],v1.ru,v1.wa⟩,y.tr,[]⟩:k9).gr.na) ((⟨y.na,max ((n9 w y a7).re) (a7+v2),true,⟨[n],v1.ru,v1.wa⟩,y.tr,[]⟩:k9).gr.ru) ((⟨y.na,max ((n9 w y a7).re) (a7+v2),true,⟨[n],v1.ru,v1.wa⟩,y.tr,[]⟩:k9).gr.wa) ((⟨y.na,max ((n9 w y a7).re) (a7+v2),true,⟨[n],v1.ru,v1.wa⟩,y.tr,[]⟩:k9).tr) (y.td.filter (Oq v9.ru)) ga oa ca g o c se (ls++[(⟨a7,v6,v3.1⟩:l5)])) [2,ix,5] (.ow 2 ((y.td.filter (Oq v9.ru)).map ar))=dA n a7 zs ix ((⟨y.na,max ((n9 w y a7).re) (a7+v2),true,⟨[n],v1.ru,v1.wa⟩,y.tr,[]⟩:k9).na) ((⟨y.na,max ((n9 w y a7).re) (a7+v2),true,⟨[n],v1.ru,v1.wa⟩,y.tr,[]⟩:k9).re) ((⟨y.na,max ((n9 w y a7).re) (a7+v2),true,⟨[n],v1.ru,v1.wa⟩,y.tr,[]⟩:k9).kn) ((⟨y.na,max ((n9 w y a7).re) (a7+v2),true,⟨[n],v1.ru,v1.wa⟩,y.tr,[]⟩:k9).gr.na) ((⟨y.na,max ((n9 w y a7).re) (a7+v2),true,⟨[n],v1.ru,v1.wa⟩,y.tr,[]⟩:k9).gr.ru) ((⟨y.na,max ((n9 w y a7).re) (a7+v2),true,⟨[n],v1.ru,v1.wa⟩,y.tr,[]⟩:k9).gr.wa) ((⟨y.na,max ((n9 w y a7).re) (a7+v2),true,⟨[n],v1.ru,v1.wa⟩,y.tr,[]⟩:k9).tr) (y.td.filter (Oq v9.ru)) g o c se (ls++[(⟨a7,v6,v3.1⟩:l5)]))/\((dA n a7 zs ix ((⟨y.na,max ((n9 w y a7).re) (a7+v2),true,⟨[n],v1.ru,v1.wa⟩,y.tr,[]⟩:k9).na) ((⟨y.na,max ((n9 w y a7).re) (a7+v2),true,⟨[n],v1.ru,v1.wa⟩,y.tr,[]⟩:k9).re) ((⟨y.na,max ((n9 w y a7).re) (a7+v2),true,⟨[n],v1.ru,v1.wa⟩,y.tr,[]⟩:k9).kn) ((⟨y.na,max ((n9 w y a7).re) (a7+v2),true,⟨[n],v1.ru,v1.wa⟩,y.tr,[]⟩:k9).gr.na) ((⟨y.na,max ((n9 w y a7).re) (a7+v2),true,⟨[n],v1.ru,v1.wa⟩,y.tr,[]⟩:k9).gr.ru) ((⟨y.na,max ((n9 w y a7).re) (a7+v2),true,⟨[n],v1.ru,v1.wa⟩,y.tr,[]⟩:k9).gr.wa) ((⟨y.na,max ((n9 w y a7).re) (a7+v2),true,⟨[n],v1.ru,v1.wa⟩,y.tr,[]⟩:k9).tr) (y.td.filter (Oq v9.ru)) g o c se (ls++[(⟨a7,v6,v3.1⟩:l5)]):V)=ck n a7 (zs.set ix ({ n9 w y a7 with kn:=true,gr:=v9,re:=max (n9 w y a7).re (a7+(v9.wa:Int)),td:=y.td.filter (Oq v9.ru) }:k9)) g o c se (ls++[(⟨a7,v6,v3.1⟩:l5)]))/\Q (.tup []) (.tup [])/\Er gw v11/\Qr gt (ck n a7 (zs.set ix ({ n9 w y a7 with kn:=true,gr:=v9,re:=max (n9 w y a7).re (a7+(v9.wa:Int)),td:=y.td.filter (Oq v9.ru) }:k9)) g o c se (ls++[(⟨a7,v6,v3.1⟩:l5)])) gt v10) (.agg [sV (y.na),iV (max ((n9 w y a7).re) (a7+v2)),bV true,lx v12 (v1.ru) (v1.wa),iV (y.tr),.own 2 ((y.td).map ar) ga oa ca]:V)))) (ck n a7 zs g o c se ls)) (r6 (v3.1) 3)) (.agg [.mp (w.map F8),.ptr (.key 1000) [] gt 0])) (ck n a7 (zs.set ix (G' w n y a7)) g o c se (ls++[(⟨a7,ag y.na,(ae w (ag y.na) y.tr).1⟩:l5)]))) (ba w n y.na)) (uE n a7 zs ix (y.na) (max ((n9 w y a7).re) (a7+v2)) v12 (v1.ru) (v1.wa) (y.tr) (y.td) g o c se (ls++[(⟨a7,v6,v3.1⟩:l5)]))) (DG n a7 zs ix (y.na) ((n9 w y a7).re) (y.gr.na) (y.gr.ru) (y.gr.wa) (y.tr) (y.td) g o c se (ls++[(⟨a7,v6,v3.1⟩:l5)]))) (uE n a7 zs ix (y.na) ((n9 w y a7).re) v12 (v1.ru) (v1.wa) (y.tr) (y.td) g o c se (ls++[(⟨a7,v6,v3.1⟩:l5)]))) (.sl false ([n].map sV))) (dA n a7 zs ix (y.na) ((n9 w y a7).re) (y.kn) (y.gr.na) (y.gr.ru) (y.gr.wa) (y.tr) (y.td) g o c se (ls++[(⟨a7,v6,v3.1⟩:l5)]))) (ae w v6 (y.tr))) ((v1.wa:Nat):Int)) (bC (ae w v6 2).1 (ae w v6 2).2 n)) (ag (y.na))) ?_
 subst ZD
 intro g3
 refine⟨trivial,rfl,rfl,rfl,trivial,(bj (f:=2) rfl).trans (aS (aq (d:=c5) Zaa) rfl),rfl,by have:=hy.n;omega,rfl,trivial,(bj (f:=2) rfl).trans (aS (aq (d:=c5) Zaa) rfl),by first | rfl | (exfalso;omega) | (simp only[Zau]) | (simp;omega),rfl,rfl,⟨hi,hl,by have:=hy.k;omega,hn,rfl,hy.w⟩,P2 (Zbk (V.own 8 · g o c) (EW (f:=aL) (a:=n9 w (zs.getD ix c5) a7) hi)),fun hG=>rfl,fun hG=>trivial,fun hG=>(bj (f:=2) rfl).trans (aS (aU Zaa) rfl),fun hG=>by(try simp only[nb]at hG);have:=hy.k;omega,⟨fun h=>by rw[h] <;> rfl,fun _=>rfl⟩,?_⟩
 refine bI (fun l3=>?_) fun l3=>?_
 refine⟨rfl,trivial,(bj (f:=2) rfl).trans (aS (aU Zaa) rfl),by have:=hy.k;omega,trivial,(bj (f:=2) rfl).trans (aS (aU Zaa) rfl),eP (bn (aU Zaa) (dC Zaa)),P2 (Zbk (V.own 8 · g o c) (nK (f:=aL) (x:=({ n9 w (zs.getD ix c5) a7 with tr:=(zs.getD ix c5).tr+1 }:k9)) Zaa)),?_⟩
 refine⟨?_,rfl,by rw[No l3]⟩
 unfold Q
 rfl
 refine⟨rfl,trivial,(bj (f:=2) rfl).trans (aS (aU Zaa) rfl),eP (bn (aU Zaa) (dC Zaa)),rfl,trivial,rfl,rfl,trivial,(bj (f:=2) rfl).trans (aS (aU Zaa) rfl),trivial,rfl,rfl,⟨by have:=hy.n;omega,by have:=mL (w:=w) (a:=ag (zs.getD ix c5).na) (k:=2) (m:=300) (fun i=>⟨(hz i).t,by have:=(hz i).l;omega⟩);omega⟩,trivial,(bj (f:=2) rfl).trans (aS (aU Zaa) rfl),eP (bn (aU Zaa) (dC Zaa)),rfl,rfl,trivial,(bj (f:=2) rfl).trans (aS (aU Zaa) rfl),trivial,rfl,rfl,trivial,(bj (f:=2) rfl).trans (aS (aU Zaa) rfl),by have:=hY (ae w (ag (zs.getD ix c5).na) 2).1 (ae w (ag (zs.getD ix c5).na) 2).2 n;omega,rfl,trivial,(bj (f:=2) rfl).trans (aS (aU Zaa) rfl),eP (bn (aU Zaa) (dC Zaa)),(bj (f:=2) rfl).trans (aS (aU Zaa) rfl),?_⟩
 intro ga oa ca
 refine⟨eP (bn (aU Zaa) (dC Zaa)),rfl,rfl,trivial,(bj (f:=2) rfl).trans (aS (aU Zaa) rfl),rfl,?_⟩
 intro _
 refine⟨⟨rfl,rfl,rfl,⟨⟨hi,by have:=hy.t;omega,fun x hx=>⟨(hy.ta x hx).1,(hy.ta x hx).2.1⟩,Nat.le_trans (qN _ _ _).1 Zaa,fun i=>sC (p:=fun r:r7=>r.path.length<=1000) (fun r hr=>by have:=(qN (ae w (ag (zs.getD ix c5).na) 2).1 (ae w (ag (zs.getD ix c5).na) 2).2 n).2 r hr;omega) Zab i⟩,rfl,rfl,trivial⟩⟩,?_⟩
 intro _
 refine⟨trivial,⟨rfl,rfl,(bj (f:=2) rfl).trans (aS (aU Zaa) rfl),rfl,by rw[Zaw,Hd];exact List.length_filter_le ..,cP (f:=ar) (fun _=>rfl) _⟩,?_⟩
 intro _
 refine⟨(Zbk (fun r:V=>V.set (.agg [sV n,iV a7,.own 8 ((zs.take ix).map aL++(.agg [sV ((⟨(zs.getD ix c5).na,max ((n9 w (zs.getD ix c5) a7).re) (a7+(((bC (ae w (ag ((zs.getD ix c5).na)) 2).1 (ae w (ag ((zs.getD ix c5).na)) 2).2 n).wa:Nat):Int)),true,⟨[n],(bC (ae w (ag ((zs.getD ix c5).na)) 2).1 (ae w (ag ((zs.getD ix c5).na)) 2).2 n).ru,(bC (ae w (ag ((zs.getD ix c5).na)) 2).1 (ae w (ag ((zs.getD ix c5).na)) 2).2 n).wa⟩,(zs.getD ix c5).tr,[]⟩:k9).na),iV ((⟨(zs.getD ix c5).na,max ((n9 w (zs.getD ix c5) a7).re) (a7+(((bC (ae w (ag ((zs.getD ix c5).na)) 2).1 (ae w (ag ((zs.getD ix c5).na)) 2).2 n).wa:Nat):Int)),true,⟨[n],(bC (ae w (ag ((zs.getD ix c5).na)) 2).1 (ae w (ag ((zs.getD ix c5).na)) 2).2 n).ru,(bC (ae w (ag ((zs.getD ix c5).na)) 2).1 (ae w (ag ((zs.getD ix c5).na)) 2).2 n).wa⟩,(zs.getD ix c5).tr,[]⟩:k9).re),bV ((⟨(zs.getD ix c5).na,max ((n9 w (zs.getD ix c5) a7).re) (a7+(((bC (ae w (ag ((zs.getD ix c5).na)) 2).1 (ae w (ag ((zs.getD ix c5).na)) 2).2 n).wa:Nat):Int)),true,⟨[n],(bC (ae w (ag ((zs.getD ix c5).na)) 2).1 (ae w (ag ((zs.getD ix c5).na)) 2).2 n).ru,(bC (ae w (ag ((zs.getD ix c5).na)) 2).1 (ae w (ag ((zs.getD ix c5).na)) 2).2 n).wa⟩,(zs.getD ix c5).tr,[]⟩:k9).kn),.agg [.sl false (((⟨(zs.getD ix c5).na,max ((n9 w (zs.getD ix c5) a7).re) (a7+(((bC (ae w (ag ((zs.getD ix c5).na)) 2).1 (ae w (ag ((zs.getD ix c5).na)) 2).2 n).wa:Nat):Int)),true,⟨[n],(bC (ae w (ag ((zs.getD ix c5).na)) 2).1 (ae w (ag ((zs.getD ix c5).na)) 2).2 n).ru,(bC (ae w (ag ((zs.getD ix c5).na)) 2).1 (ae w (ag ((zs.getD ix c5).na)) 2).2 n).wa⟩,(zs.getD ix c5).tr,[]⟩:k9).gr.na).map sV),.sl false (((⟨(zs.getD ix c5).na,max ((n9 w (zs.getD ix c5) a7).re) (a7+(((bC (ae w (ag ((zs.getD ix c5).na)) 2).1 (ae w (ag ((zs.getD ix c5).na)) 2).2 n).wa:Nat):Int)),true,⟨[n],(bC (ae w (ag ((zs.getD ix c5).na)) 2).1 (ae w (ag ((zs.getD ix c5).na)) 2).2 n).ru,(bC (ae w (ag ((zs.getD ix c5).na)) 2).1 (ae w (ag ((zs.getD ix c5).na)) 2).2 n).wa⟩,(zs.getD ix c5).tr,[]⟩:k9).gr.ru).map aD),iN ((⟨(zs.getD ix c5).na,max ((n9 w (zs.getD ix c5) a7).re) (a7+(((bC (ae w (ag ((zs.getD ix c5).na)) 2).1 (ae w (ag ((zs.getD ix c5).na)) 2).2 n).wa:Nat):Int)),true,⟨[n],(bC (ae w (ag ((zs.getD ix c5).na)) 2).1 (ae w (ag ((zs.getD ix c5).na)) 2).2 n).ru,(bC (ae w (ag ((zs.getD ix c5).na)) 2).1 (ae w (ag ((zs.getD ix c5).na)) 2).2 n).wa⟩,(zs.getD ix c5).tr,[]⟩:k9).gr.wa)],iV ((⟨(zs.getD ix c5).na,max ((n9 w (zs.getD ix c5) a7).re) (a7+(((bC (ae w (ag ((zs.getD ix c5).na)) 2).1 (ae w (ag ((zs.getD ix c5).na)) 2).2 n).wa:Nat):Int)),true,⟨[n],(bC (ae w (ag ((zs.getD ix c5).na)) 2).1 (ae w (ag ((zs.getD ix c5).na)) 2).2 n).ru,(bC (ae w (ag ((zs.getD ix c5).na)) 2).1 (ae w (ag ((zs.getD ix c5).na)) 2).2 n).wa⟩,(zs.getD ix c5).tr,[]⟩:k9).tr),.own 2 ((iH (⟨(zs.getD ix c5).na,max ((n9 w (zs.getD ix c5) a7).re) (a7+(((bC (ae w (ag ((zs.getD ix c5).na)) 2).1 (ae w (ag ((zs.getD ix c5).na)) 2).2 n).wa:Nat):Int)),true,⟨[n],(bC (ae w (ag ((zs.getD ix c5).na)) 2).1 (ae w (ag ((zs.getD ix c5).na)) 2).2 n).ru,(bC (ae w (ag ((zs.getD ix c5).na)) 2).1 (ae w (ag ((zs.getD ix c5).na)) 2).2 n).wa⟩,(zs.getD ix c5).tr,[]⟩:k9) ((zs.getD ix c5).td)).map ar) ga oa ca]:V)::(zs.drop (ix+1)).map aL) g o c,.ow 1 (se.map sV),.ow 3 ((ls++[(⟨a7,(ag ((zs.getD ix c5).na)),(ae w (ag ((zs.getD ix c5).na)) ((zs.getD ix c5).tr)).1⟩:l5)]).map bf)]) [2,ix,5] r) (Zbk (V.own 2 · ga oa ca) (GH.trans rfl))).trans (eP (bn (aU Zaa) (dC Zaa))),(bj (f:=2) rfl).trans (aS (aU Zaa) rfl),eP (bn (aU Zaa) (dC Zaa)),P2 (Zbk (V.own 8 · g o c) (nK (f:=aL) (x:=({ n9 w (zs.getD ix c5) a7 with kn:=true,gr:=(ba w n (zs.getD ix c5).na),re:=max (n9 w (zs.getD ix c5) a7).re (a7+((ba w n (zs.getD ix c5).na).wa:Int)),td:=(zs.getD ix c5).td.filter (Oq (ba w n (zs.getD ix c5).na).ru) }:k9)) Zaa)),?_⟩
 refine⟨?_,rfl,by rw[Nw l3]⟩
 unfold Q
 rfl)
theorem Hi{α:Type}{l:List α}{i:Nat}{a d:α}(h:i<l.length):(l.set i a).getD i d=a:=by
 rw[Zak,List.getElem?_set_self h];rfl
theorem JH{α:Type}{l:List α}{f:α->V}{a b:α}{i:Nat}(hi:i<l.length):((l.set i a).set i b).map f=(l.take i).map f++f b::(l.drop (i+1)).map f:=by
 rw[List.set_set];exact EW hi
theorem NJ{l:List w5}(h:0<l.length):((l.drop 1++[j9]).map ar).take (l.length-1)=(l.drop 1).map ar:=by
 rw[<- List.map_take,List.take_left' Zab]
theorem Mk{w:List Pg}{a:BL}{k:Int}(hz:∀ i,m4 (w.getD i l9)):(ae w a k).2.length<=4611686018427387904:=by
 have:=mL (w:=w) (a:=a) (k:=k) (m:=300) (fun i=>⟨(hz i).t,by have:=(hz i).l;omega⟩);omega
theorem IS{w:List Pg}{a:BL}{k:Int}(hz:∀ i,m4 (w.getD i l9)):l8 (ae w a k).2:=by
 unfold ae
 split
 exact bp
 rename_i h1
 obtain⟨i,hi⟩:=oM w a (by simpa using h1)
 rw[hi]
 split
 exact bp
 split
 exact(hz i).ta
 exact(hz i).la
theorem HU{w:List Pg}{a:BL}{k:Int}(hw:ai w=true)(hz:∀ i,m4 (w.getD i l9))(h:(ae w a k).1=2):aA (ae w a k).2=true/\l8 (ae w a k).2:=by
 unfold ae at h ⊢
 split at h
 cases h
 rename_i h1
 rw[if_neg h1]
 split at h
 cases h
 rename_i h2
 rw[if_neg h2]
 split at h
 cases h
 rename_i h3
 rw[if_neg h3]
 obtain⟨i,hi⟩:=oM w a (by simpa using h1)
 simp only
 rw[hi]at h3 ⊢
 have hl:i<w.length:=by
  rcases Nat.lt_or_ge i w.length with c | c
  exact c
  exact absurd (by rw[Zak,List.getElem?_eq_none c];rfl) h3
 unfold ai at hw
 simp only[Zam,Zbi]at hw
 have hp:=(hw.1 i hl).1
 unfold eI at hp
 simp only[Zam,Bool.or_eq_true,Zbj]at hp
 rcases hp.2 with c | c
 exact absurd c h3
 exact⟨c.2,(hz i).la⟩
theorem LP{s:BL}(h:aA s=true):s.length<=1000:=by
 unfold aA at h
 rw[Zam]at h
 have:=Ik h.1;omega
theorem sN{w:List Pg}{a:BL}{k:Int}{b:s4}(hw:ai w=true)(hz:∀ i,m4 (w.getD i l9)):∀ m,m∈(if (ae w a k).1=1 then bO b (ae w a k).2 else if (ae w a k).1=2 then [(ae w a k).2] else [])->m.length<=1000/\l8 m/\(ab m).length<=1000:=by
 intro m hm
 have key:aA m=true/\l8 m:=by
  split at hm
  exact yx m hm
  split at hm
  rename_i h2
  rw[Zat.1 hm]
  exact HU hw hz h2
  simp at hm
 exact⟨LP key.1,key.2,(lr m).1⟩
theorem FT{k:Int}{b:s4}{t:BL}:(if k=1 then bO b t else if k=2 then [t] else []).length<=300:=by
 split
 exact(xY b t).1
 split <;> simp
theorem MZ{n:BL}{a7:Int}{zs:List k9}{se:List BL}{ls0 ls:List l5}{ix:Nat}{w:List Pg}(hi:ix<zs.length)(hy:HS 60 (zs.getD ix c5))(ht:TS ⟨n,a7,zs,se,ls0⟩):TS ⟨n,a7,zs.set ix (A6 w (zs.getD ix c5) a7),se,ls⟩:=by
 refine⟨ht.s,by rw[List.length_set];exact ht.h,ht.sa,fun y h=>?_⟩
 rcases bg h with e | h
 have q:HS se.length (zs.getD ix c5):=ht.ha _ (aj (d:=c5) hi)
 rw[e]
 refine⟨q.n,q.r,q.rp,q.w,?_,fun x hx=>?_,q.k⟩
 show ((zs.getD ix c5).td.drop 1).length+60<=1000+se.length
 have:=q.t
 rw[List.length_drop];omega
 exact q.ta x (List.mem_of_mem_drop hx)
 exact ht.ha y h
section
variable {w:List Pg} {n:BL} {a7:Int} {zs:List k9} {se:List BL} {ls:List l5} {ix:Nat}
theorem NR(h:(ae w ((zs.getD ix c5).td.getD 0 j9).ad ((zs.getD ix c5).td.getD 0 j9).tr).1=3/\((zs.getD ix c5).td.getD 0 j9).tr+1<3):I5 w ⟨n,a7,zs,se,ls⟩ ix=⟨n,a7,zs.set ix { A6 w (zs.getD ix c5) a7 with td:=(zs.getD ix c5).td.drop 1++[⟨((zs.getD ix c5).td.getD 0 j9).ad,((zs.getD ix c5).td.getD 0 j9).tr+1⟩] },se,ls++[⟨a7,((zs.getD ix c5).td.getD 0 j9).ad,(ae w ((zs.getD ix c5).td.getD 0 j9).ad ((zs.getD ix c5).td.getD 0 j9).tr).1⟩]⟩:=if_pos h
theorem NB(h:(ae w ((zs.getD ix c5).td.getD 0 j9).ad ((zs.getD ix c5).td.getD 0 j9).tr).1=3->3<=((zs.getD ix c5).td.getD 0 j9).tr+1)(h2:(ak ((zs.getD ix c5).td.getD 0 j9).ad).isSome=false):I5 w ⟨n,a7,zs,se,ls⟩ ix=⟨n,a7,zs.set ix (A6 w (zs.getD ix c5) a7),se,ls++[⟨a7,((zs.getD ix c5).td.getD 0 j9).ad,(ae w ((zs.getD ix c5).td.getD 0 j9).ad ((zs.getD ix c5).td.getD 0 j9).tr).1⟩]⟩:=by
 unfold I5
 simp only
 rw[if_neg (fun c=>by have:=h c.1;omega),if_neg (by rw[<- fC,h2];decide)]
theorem Ny(h:(ae w ((zs.getD ix c5).td.getD 0 j9).ad ((zs.getD ix c5).td.getD 0 j9).tr).1=3->3<=((zs.getD ix c5).td.getD 0 j9).tr+1)(h2:(ak ((zs.getD ix c5).td.getD 0 j9).ad).isSome=true):I5 w ⟨n,a7,zs,se,ls⟩ ix=(if (ae w ((zs.getD ix c5).td.getD 0 j9).ad ((zs.getD ix c5).td.getD 0 j9).tr).1=1 then bO (oA (ak ((zs.getD ix c5).td.getD 0 j9).ad)) (ae w ((zs.getD ix c5).td.getD 0 j9).ad ((zs.getD ix c5).td.getD 0 j9).tr).2 else if (ae w ((zs.getD ix c5).td.getD 0 j9).ad ((zs.getD ix c5).td.getD 0 j9).tr).1=2 then [(ae w ((zs.getD ix c5).td.getD 0 j9).ad ((zs.getD ix c5).td.getD 0 j9).tr).2] else []).foldl ah ⟨n,a7,zs.set ix (A6 w (zs.getD ix c5) a7),se,ls++[⟨a7,((zs.getD ix c5).td.getD 0 j9).ad,(ae w ((zs.getD ix c5).td.getD 0 j9).ad ((zs.getD ix c5).td.getD 0 j9).tr).1⟩]⟩:=by
 rw[fC]at h2
 have e:ak ((zs.getD ix c5).td.getD 0 j9).ad=aC ((zs.getD ix c5).td.getD 0 j9).ad:=if_pos h2
 unfold I5
 simp only
 rw[if_neg (fun c=>by have:=h c.1;omega),if_pos h2,e];rfl
end
def BR(n:BL)(a7:Int)(zs:List k9)(se:List BL)(ls:List l5)(gt:Nat)(g:Nat)(o:Nat)(c:Nat)(gw:Nat)(ix:Nat)(w:List Pg):o6 Tryz.prog:=.mk 100 [.ptr (.key 1001) [] gw 0,.ptr (.key 1000) [2,ix] g (o+ix*8)] [(1001,(gw,.agg [.mp (w.map F8),.ptr (.key 1000) [] gt 0])),(1000,(gt,ck n a7 zs g o c se ls))] ((ix<zs.length)/\(ls.length<=1000)/\(0<=a7/\a7<=100000)/\(HS 60 (zs.getD ix c5))/\(ai w=true)/\(∀ i,m4 (w.getD i l9))/\(0<(zs.getD ix c5).td.length)/\(TS ⟨n,a7,zs,se,ls⟩)/\(n.length<=1000)) (.tup []) [(1001,(gw,.agg [.mp (w.map F8),.ptr (.key 1000) [] gt 0])),(1000,(gt,bP n a7 ((I5 w (⟨n,a7,zs,se,ls⟩:j6) ix).hs) ((I5 w (⟨n,a7,zs,se,ls⟩:j6) ix).se) ((I5 w (⟨n,a7,zs,se,ls⟩:j6) ix).lk)))] (by
 rintro⟨hi,hl,hn,hy,hw,hz,hne,ht,hnn⟩
 have hit:=hy.ta _ (aj (d:=j9) hne)
 have hyt:=hy.t
 generalize ZE:(zs.getD ix c5).td.getD 0 j9=x0
 generalize ZD:zs.getD ix c5=y
 refine aB (N:=81) (rs:=[]) Tryz.func100
  ((fun y1:w5=>(fun y2:Int×BL=>(.h (.C7 1000 (dA n a7 zs ix (y.na) (y.re) (y.kn) (y.gr.na) (y.gr.ru) (y.gr.wa) (y.tr) (y.td) g o c se ls))<|.Sa (.key 1000) [2,ix,5] g (o+(ix)*8+7) 2 ((y.td).map ar) (fun ga oa ca=>.h (.C7 1000 (bQ n a7 zs ix (y.na) (y.re) (y.kn) (y.gr.na) (y.gr.ru) (y.gr.wa) (y.tr) (y.td) ga oa ca g o c se ls))<|.r 6 [.own 2 ((y.td).map ar) ga oa ca,.agg [sV (y1.ad),iV (y1.tr)]]<|.al rB (fun g4=>.st none<|.r 5 [.own 2 ((y.td).map ar) ga oa ca]<|.c (ER n a7 zs se ls gt g o c ix y ga oa ca (y.td)) [(1000,1000)]<|.q 2<|.cu (Z2 1000 [2,ix,5] ((y.td).length-1) 2 (((y.td).drop 1++[j9]).map ar) ga oa ca g (o+(ix)*8+7)) (fun _=>.h (.C7 1000 (bQ n a7 zs ix (y.na) (y.re) (y.kn) (y.gr.na) (y.gr.ru) (y.gr.wa) (y.tr) (y.td.drop 1) ga oa ca g o c se ls))<|.h (.Rz (.key 1000) [2,ix,5] g (o+(ix)*8+7) (.own 2 ((y.td.drop 1).map ar) ga oa ca) (.ow 2 ((y.td.drop 1).map ar)))<|.h (.C7 1000 (dA n a7 zs ix (y.na) (y.re) (y.kn) (y.gr.na) (y.gr.ru) (y.gr.wa) (y.tr) (y.td.drop 1) g o c se ls))<|.h (.C7 1000 (ck n a7 (zs.set ix ({ y with td:=y.td.drop 1 }:k9)) g o c se ls))<|.r 6 [.b9,.b9]<|.c (AH n a7 (zs.set ix ({ y with td:=y.td.drop 1 }:k9)) se ls gt g o c gw ix w (y1.ad) (y1.tr) ({ y with td:=y.td.drop 1 }:k9)) [(1001,1001),(1000,1000)]<|.q 5<|.h (.C7 1000 (dA n a7 zs ix (y.na) ((A6 w y a7).re) (y.kn) (y.gr.na) (y.gr.ru) (y.gr.wa) (y.tr) (y.td.drop 1) g o c se (ls++[(⟨a7,(y1.ad),(ae w (y1.ad) (y1.tr)).1⟩:l5)])))<|.r 8 [.b9]<|.br (.r 4 [.b9]<|.st none<|.Sa (.key 1000) [2,ix,5] g (o+(ix)*8+7) 2 ((y.td.drop 1).map ar) (fun Sh R' Sn=>.h (.C7 1000 (bQ n a7 zs ix (y.na) ((A6 w y a7).re) (y.kn) (y.gr.na) (y.gr.ru) (y.gr.wa) (y.tr) (y.td.drop 1) Sh R' Sn g o c se (ls++[(⟨a7,(y1.ad),(ae w (y1.ad) (y1.tr)).1⟩:l5)])))<|.dx 8 [0,1,2,3,4,5,6,7] [(4,⟨false,[],some [1000],[51],[]⟩),(5,⟨false,[],some [4],[52],[]⟩),(7,⟨true,[],none,[54],[1000]⟩)] []<|.q 1<|.q 1<|.q 1<|.q 1<|.r 1 [.own 2 ((y.td.drop 1).map ar) Sh R' Sn]<|.r 1 [.b9]<|.bs<|.eu (YD 1000 [2,ix,5] ((y.td.drop 1).map ar) ([.agg [sV (y1.ad),iV ((y1.tr)+1)]]:List V) g (o+(ix)*8+7) 2 Sh R' Sn) (fun Ol=>.h (.C7 1000 (od n a7 zs ix (y.na) ((A6 w y a7).re) (y.kn) (y.gr.na) (y.gr.ru) (y.gr.wa) (y.tr) g o c se (ls++[(⟨a7,(y1.ad),(ae w (y1.ad) (y1.tr)).1⟩:l5)])))<|.h (.n8 54 (.own 2 (((y.td.drop 1)++[(⟨y1.ad,(y1.tr)+1⟩:w5)]).map ar) Ol.1 Ol.2.1 Ol.2.2))<|.q 2<|.st (some (.b9))<|.h (.C7 1000 (bQ n a7 zs ix (y.na) ((A6 w y a7).re) (y.kn) (y.gr.na) (y.gr.ru) (y.gr.wa) (y.tr) ((y.td.drop 1)++[(⟨y1.ad,(y1.tr)+1⟩:w5)]) Ol.1 Ol.2.1 Ol.2.2 g o c se (ls++[(⟨a7,(y1.ad),(ae w (y1.ad) (y1.tr)).1⟩:l5)])))<|.h (.Rz (.key 1000) [2,ix,5] g (o+(ix)*8+7) (.own 2 (((y.td.drop 1)++[(⟨y1.ad,(y1.tr)+1⟩:w5)]).map ar) Ol.1 Ol.2.1 Ol.2.2) (.ow 2 (((y.td.drop 1)++[(⟨y1.ad,(y1.tr)+1⟩:w5)]).map ar)))<|.h (.C7 1000 (dA n a7 zs ix (y.na) ((A6 w y a7).re) (y.kn) (y.gr.na) (y.gr.ru) (y.gr.wa) (y.tr) ((y.td.drop 1)++[(⟨y1.ad,(y1.tr)+1⟩:w5)]) g o c se (ls++[(⟨a7,(y1.ad),(ae w (y1.ad) (y1.tr)).1⟩:l5)])))<|.h (.C7 1000 (ck n a7 (zs.set ix ({ (A6 w y a7) with td:=y.td.drop 1++[(⟨x0.ad,x0.tr+1⟩:w5)] }:k9)) g o c se (ls++[(⟨a7,(y1.ad),(ae w (y1.ad) (y1.tr)).1⟩:l5)])))<|.nil))) (.r 2 [.b9]<|.c (bS (y1.ad)) []<|.q 3<|.al dw (fun g7=>.st none<|.q 1<|.h (.C7 1000 (ck n a7 (zs.set ix (A6 w y a7)) g o c se (ls++[(⟨a7,(y1.ad),(ae w (y1.ad) (y1.tr)).1⟩:l5)])))<|.q 2<|.br (.nil) (.r 3 [.b9]<|.c (uw (oA (ak (y1.ad))) ((ae w (y1.ad) (y1.tr)).1) ((ae w (y1.ad) (y1.tr)).2)) []<|.q 2<|.loop (Nat×(List k9)×(List BL)) (fun (i,zz,ss)=>⟨[(0,.ptr (.key 1001) [] gw 0),(68,ao (if y2.1=1 then bO (oA (ak x0.ad)) y2.2 else if y2.1=2 then [y2.2] else [])),(69,iN (((if y2.1=1 then bO (oA (ak x0.ad)) y2.2 else if y2.1=2 then [y2.2] else [])).length)),(70,iN i)],[(1001,(gw,.agg [.mp (w.map F8),.ptr (.key 1000) [] gt 0])),(1000,(gt,bP n a7 zz ss (ls++[(⟨a7,x0.ad,y2.1⟩:l5)])))]⟩) (fun (i,zz,ss)=>i<=((if y2.1=1 then bO (oA (ak x0.ad)) y2.2 else if y2.1=2 then [y2.2] else [])).length/\zz=((((if y2.1=1 then bO (oA (ak x0.ad)) y2.2 else if y2.1=2 then [y2.2] else [])).take i).foldl ah (⟨n,a7,zs.set ix (A6 w y a7),se,ls++[(⟨a7,x0.ad,y2.1⟩:l5)]⟩:j6)).hs/\ss=((((if y2.1=1 then bO (oA (ak x0.ad)) y2.2 else if y2.1=2 then [y2.2] else [])).take i).foldl ah (⟨n,a7,zs.set ix (A6 w y a7),se,ls++[(⟨a7,x0.ad,y2.1⟩:l5)]⟩:j6)).se) (fun (i,zz,ss)=>((if y2.1=1 then bO (oA (ak x0.ad)) y2.2 else if y2.1=2 then [y2.2] else [])).length-i) (fun (i,zz,ss)=>.q 1<|.br (.r 3 [sV ((if y2.1=1 then bO (oA (ak x0.ad)) y2.2 else if y2.1=2 then [y2.2] else []).getD i [])]<|.r 5 [.b9]<|.c (wy n a7 zz ss (ls++[(⟨a7,x0.ad,y2.1⟩:l5)]) gt ((if y2.1=1 then bO (oA (ak x0.ad)) y2.2 else if y2.1=2 then [y2.2] else []).getD i [])) [(1000,1000)]<|.q 2<|.nil) (.nil)))))))):Sc Tryz.prog)) (ae w x0.ad x0.tr)) ((y.td).getD 0 j9))
  ((fun v1:Int×BL=>(fun v2:V=>(fun v3:s4=>(fun v4:V=>(fun v5:V=>(((ck n a7 zs g o c se ls:V)=dA n a7 zs ix (y.na) (y.re) (y.kn) (y.gr.na) (y.gr.ru) (y.gr.wa) (y.tr) (y.td) g o c se ls)/\(V.at gt 0 (dA n a7 zs ix (y.na) (y.re) (y.kn) (y.gr.na) (y.gr.ru) (y.gr.wa) (y.tr) (y.td) g o c se ls) [2,ix,5]=some (g,o+(ix)*8+7,.ow 2 ((y.td).map ar)))/\∀ ga oa ca:Nat,(V.set (dA n a7 zs ix (y.na) (y.re) (y.kn) (y.gr.na) (y.gr.ru) (y.gr.wa) (y.tr) (y.td) g o c se ls) [2,ix,5] (.own 2 ((y.td).map ar) ga oa ca)=bQ n a7 zs ix (y.na) (y.re) (y.kn) (y.gr.na) (y.gr.ru) (y.gr.wa) (y.tr) (y.td) ga oa ca g o c se ls)/\True/\(V.at gt 0 (bQ n a7 zs ix (y.na) (y.re) (y.kn) (y.gr.na) (y.gr.ru) (y.gr.wa) (y.tr) (y.td) ga oa ca g o c se ls) [2,ix,5]=some (g,(o+ix*8+7),.own 2 ((y.td).map ar) ga oa ca))/\In 0 (((y.td).map ar).length)/\(V.at gt 0 (bQ n a7 zs ix (y.na) (y.re) (y.kn) (y.gr.na) (y.gr.ru) (y.gr.wa) (y.tr) (y.td) ga oa ca g o c se ls) [2,ix,5,0+0]=some (ga,(oa+(0+0)*2),.agg [sV (((y.td).getD 0 j9).ad),iV (((y.td).getD 0 j9).tr)]))/\∀ g4:Nat,Z g4 0/\True/\(V.at gt 0 (bQ n a7 zs ix (y.na) (y.re) (y.kn) (y.gr.na) (y.gr.ru) (y.gr.wa) (y.tr) (y.td) ga oa ca g o c se ls) [2,ix,5]=some (g,(o+ix*8+7),.own 2 ((y.td).map ar) ga oa ca))/\(ER n a7 zs se ls gt g o c ix y ga oa ca (y.td)).sm/\Er gt (bQ n a7 zs ix (y.na) (y.re) (y.kn) (y.gr.na) (y.gr.ru) (y.gr.wa) (y.tr) (y.td) ga oa ca g o c se ls)/\((ix<zs.length)/\(0<(y.td).length/\(y.td).length<=1000))/\True/\((((.key 1000:m0),([2,ix,5]:List Nat),2,ga,oa,(0:Nat),((y.td).length-1),ca)=((.key 1000:m0),([2,ix,5]:List Nat),2,ga,oa,(0:Nat),((y.td).length-1),ca))/\((.ptr (.key 1000) [2,ix,5] g (o+ix*8+7):V)=.ptr (.key 1000) [2,ix,5] g (o+(ix)*8+7))/\(V.at gt 0 (bQ n a7 zs ix (y.na) (y.re) (y.kn) (y.gr.na) (y.gr.ru) (y.gr.wa) (y.tr) ((y.td).drop 1++[j9]) ga oa ca g o c se ls) [2,ix,5]=some (g,o+(ix)*8+7,.own 2 (((y.td).drop 1++[j9]).map ar) ga oa ca))/\((1:Nat)=1)/\(((y.td).length-1)<=(((y.td).drop 1++[j9]).map ar).length)/\(V.aK (((y.td).drop 1++[j9]).map ar)=false))/\∀ _:Unit,(V.set (bQ n a7 zs ix (y.na) (y.re) (y.kn) (y.gr.na) (y.gr.ru) (y.gr.wa) (y.tr) ((y.td).drop 1++[j9]) ga oa ca g o c se ls) [2,ix,5] (.own 2 ((((y.td).drop 1++[j9]).map ar).take ((y.td).length-1)) ga oa ca)=bQ n a7 zs ix (y.na) (y.re) (y.kn) (y.gr.na) (y.gr.ru) (y.gr.wa) (y.tr) (y.td.drop 1) ga oa ca g o c se ls)/\(V.at gt 0 (bQ n a7 zs ix (y.na) (y.re) (y.kn) (y.gr.na) (y.gr.ru) (y.gr.wa) (y.tr) (y.td.drop 1) ga oa ca g o c se ls) [2,ix,5]=some (g,o+(ix)*8+7,.own 2 ((y.td.drop 1).map ar) ga oa ca))/\(V.set (bQ n a7 zs ix (y.na) (y.re) (y.kn) (y.gr.na) (y.gr.ru) (y.gr.wa) (y.tr) (y.td.drop 1) ga oa ca g o c se ls) [2,ix,5] (.ow 2 ((y.td.drop 1).map ar))=dA n a7 zs ix (y.na) (y.re) (y.kn) (y.gr.na) (y.gr.ru) (y.gr.wa) (y.tr) (y.td.drop 1) g o c se ls)/\((dA n a7 zs ix (y.na) (y.re) (y.kn) (y.gr.na) (y.gr.ru) (y.gr.wa) (y.tr) (y.td.drop 1) g o c se ls:V)=ck n a7 (zs.set ix ({ y with td:=y.td.drop 1 }:k9)) g o c se ls)/\Z g4 0/\Z g4 1/\(([.ptr (.key 1001) [] gw 0,.ptr (.key 1000) [2,ix] g (o+ix*8),sV (((y.td).getD 0 j9).ad),iV (((y.td).getD 0 j9).tr)]:List V)=[.ptr (.key 1001) [] gw 0,.ptr (.key 1000) [2,ix] g (o+ix*8),sV (((y.td).getD 0 j9).ad),iV (((y.td).getD 0 j9).tr)])/\Er gw v4/\Er gt (ck n a7 (zs.set ix ({ y with td:=y.td.drop 1 }:k9)) g o c se ls)/\((ix<(zs.set ix ({ y with td:=y.td.drop 1 }:k9)).length)/\(ls.length<=1000)/\(0<=(((y.td).getD 0 j9).tr)/\(((y.td).getD 0 j9).tr)<=1000)/\(0<=a7/\a7<=100000)/\((zs.set ix ({ y with td:=y.td.drop 1 }:k9)).getD ix c5=({ y with td:=y.td.drop 1 }:k9))/\(({ y with td:=y.td.drop 1 }:k9).gr.wa<=1000))/\((ck n a7 ((zs.set ix ({ y with td:=y.td.drop 1 }:k9)).set ix (cJ ({ y with td:=y.td.drop 1 }:k9) a7 (ae w (((y.td).getD 0 j9).ad) (((y.td).getD 0 j9).tr)).1 (((y.td).getD 0 j9).tr))) g o c se (ls++[(⟨a7,(((y.td).getD 0 j9).ad),(ae w (((y.td).getD 0 j9).ad) (((y.td).getD 0 j9).tr)).1⟩:l5)]):V)=dA n a7 zs ix (y.na) ((A6 w y a7).re) (y.kn) (y.gr.na) (y.gr.ru) (y.gr.wa) (y.tr) (y.td.drop 1) g o c se (ls++[(⟨a7,(((y.td).getD 0 j9).ad),(ae w (((y.td).getD 0 j9).ad) (((y.td).getD 0 j9).tr)).1⟩:l5)]))/\Gd ((r6 ((ae w (((y.td).getD 0 j9).ad) (((y.td).getD 0 j9).tr)).1) 3)==true) (Z g4 1)/\Gd ((r6 ((ae w (((y.td).getD 0 j9).ad) (((y.td).getD 0 j9).tr)).1) 3)==true) (m8 ((((y.td).getD 0 j9).tr)+1))/\Pk (r6 ((ae w (((y.td).getD 0 j9).ad) (((y.td).getD 0 j9).tr)).1) 3) ((r6 ((ae w (((y.td).getD 0 j9).ad) (((y.td).getD 0 j9).tr)).1) 3)==true) true/\Br ((r6 ((ae w (((y.td).getD 0 j9).ad) (((y.td).getD 0 j9).tr)).1) 3)&&(r8 ((((y.td).getD 0 j9).tr)+1) 3)) (Z g4 1/\m8 ((((y.td).getD 0 j9).tr)+1)/\Z g4 1/\(V.at gt 0 (dA n a7 zs ix (y.na) ((A6 w y a7).re) (y.kn) (y.gr.na) (y.gr.ru) (y.gr.wa) (y.tr) (y.td.drop 1) g o c se (ls++[(⟨a7,(((y.td).getD 0 j9).ad),(ae w (((y.td).getD 0 j9).ad) (((y.td).getD 0 j9).tr)).1⟩:l5)])) [2,ix,5]=some (g,o+(ix)*8+7,.ow 2 ((y.td.drop 1).map ar)))/\∀ Sh R' Sn:Nat,(fun v6:w5=>(fun v8:Int×BL=>(fun v7:V=>(fun v9:List V=>(fun v10:V=>(V.set (dA n a7 zs ix (y.na) ((A6 w y a7).re) (y.kn) (y.gr.na) (y.gr.ru) (y.gr.wa) (y.tr) (y.td.drop 1) g o c se (ls++[(⟨a7,(v6.ad),v8.1⟩:l5)])) [2,ix,5] (.own 2 ((y.td.drop 1).map ar) Sh R' Sn)=bQ n a7 zs ix (y.na) ((A6 w y a7).re) (y.kn) (y.gr.na) (y.gr.ru) (y.gr.wa) (y.tr) (y.td.drop 1) Sh R' Sn g o c se (ls++[(⟨a7,(v6.ad),v8.1⟩:l5)]))/\True/\(V.at gt 0 v7 [2,ix,5]=some (g,(o+ix*8+7),.own 2 ((y.td.drop 1).map ar) Sh R' Sn))/\Z g4 0/\(v9=v9/\((.hd (.key 1000) [2,ix,5] 2 Sh R' 0 (((y.td.drop 1).map ar).length) Sn:V)=.hd (.key 1000) [2,ix,5] 2 Sh R' 0 (((y.td.drop 1).map ar).length) Sn)/\(V.at gt 0 v7 [2,ix,5]=some (g,o+(ix)*8+7,.own 2 ((y.td.drop 1).map ar) Sh R' Sn))/\((2:Nat)=2)/\(V.aK v9=false)/\(aM 2 v9)/\((((y.td.drop 1).map ar).length+v9.length)*24<=140737488355328))/\∀ Ol:Nat×Nat×Nat,(fun v11:V=>(V.set v7 [2,ix,5] (.b9)=od n a7 zs ix (y.na) ((A6 w y a7).re) (y.kn) (y.gr.na) (y.gr.ru) (y.gr.wa) (y.tr) g o c se (ls++[(⟨a7,(v6.ad),v8.1⟩:l5)]))/\((.own 2 (((y.td.drop 1).map ar)++v9) Ol.1 Ol.2.1 Ol.2.2:V)=.own 2 (((y.td.drop 1)++[(⟨v6.ad,(v6.tr)+1⟩:w5)]).map ar) Ol.1 Ol.2.1 Ol.2.2)/\True/\(V.at gt 0 v10 [2,ix,5]=some (g,(o+ix*8+7),.b9))/\(V.set v10 [2,ix,5] (.own 2 (((y.td.drop 1)++[(⟨v6.ad,(v6.tr)+1⟩:w5)]).map ar) Ol.1 Ol.2.1 Ol.2.2)=bQ n a7 zs ix (y.na) ((A6 w y a7).re) (y.kn) (y.gr.na) (y.gr.ru) (y.gr.wa) (y.tr) ((y.td.drop 1)++[(⟨v6.ad,(v6.tr)+1⟩:w5)]) Ol.1 Ol.2.1 Ol.2.2 g o c se (ls++[(⟨a7,(v6.ad),v8.1⟩:l5)]))/\(V.at gt 0 v11 [2,ix,5]=some (g,o+(ix)*8+7,.own 2 (((y.td.drop 1)++[(⟨v6.ad,(v6.tr)+1⟩:w5)]).map ar) Ol.1 Ol.2.1 Ol.2.2))/\(V.set v11 [2,ix,5] (.ow 2 (((y.td.drop 1)++[(⟨v6.ad,(v6.tr)+1⟩:w5)]).map ar))=dA n a7 zs ix (y.na) ((A6 w y a7).re) (y.kn) (y.gr.na) (y.gr.ru) (y.gr.wa) (y.tr) ((y.td.drop 1)++[(⟨v6.ad,(v6.tr)+1⟩:w5)]) g o c se (ls++[(⟨a7,(v6.ad),v8.1⟩:l5)]))/\((dA n a7 zs ix (y.na) ((A6 w y a7).re) (y.kn) (y.gr.na) (y.gr.ru) (y.gr.wa) (y.tr) ((y.td.drop 1)++[(⟨v6.ad,(v6.tr)+1⟩:w5)]) g o c se (ls++[(⟨a7,(v6.ad),v8.1⟩:l5)]):V)=ck n a7 (zs.set ix ({ (A6 w y a7) with td:=y.td.drop 1++[(⟨x0.ad,x0.tr+1⟩:w5)] }:k9)) g o c se (ls++[(⟨a7,(v6.ad),v8.1⟩:l5)]))/\Q (.tup []) (.tup [])/\Er gw v4/\Qr gt (bP n a7 (zs.set ix ({ (A6 w y a7) with td:=y.td.drop 1++[(⟨x0.ad,x0.tr+1⟩:w5)] }:k9)) se (ls++[(⟨a7,(v6.ad),v8.1⟩:l5)])) gt v2) (bQ n a7 zs ix (y.na) ((A6 w y a7).re) (y.kn) (y.gr.na) (y.gr.ru) (y.gr.wa) (y.tr) ((y.td.drop 1)++[(⟨v6.ad,(v6.tr)+1⟩:w5)]) Ol.1 Ol.2.1 Ol.2.2 g o c se (ls++[(⟨a7,(v6.ad),v8.1⟩:l5)]))) (od n a7 zs ix (y.na) ((A6 w y a7).re) (y.kn) (y.gr.na) (y.gr.ru) (y.gr.wa) (y.tr) g o c se (ls++[(⟨a7,(v6.ad),v8.1⟩:l5)]))) ([.agg [sV (v6.ad),iV ((v6.tr)+1)]]:List V)) (bQ n a7 zs ix (y.na) ((A6 w y a7).re) (y.kn) (y.gr.na) (y.gr.ru) (y.gr.wa) (y.tr) (y.td.drop 1) Sh R' Sn g o c se (ls++[(⟨a7,(v6.ad),v8.1⟩:l5)]))) (ae w (v6.ad) (v6.tr))) ((y.td).getD 0 j9)) (Z g4 0/\(bS (((y.td).getD 0 j9).ad)).sm/\(((((y.td).getD 0 j9).ad).length<=1000000)/\(l8 (((y.td).getD 0 j9).ad)))/\∀ g7:Nat,Z g7 0/\((dA n a7 zs ix (y.na) ((A6 w y a7).re) (y.kn) (y.gr.na) (y.gr.ru) (y.gr.wa) (y.tr) (y.td.drop 1) g o c se (ls++[(⟨a7,(((y.td).getD 0 j9).ad),(ae w (((y.td).getD 0 j9).ad) (((y.td).getD 0 j9).tr)).1⟩:l5)]):V)=ck n a7 (zs.set ix (A6 w y a7)) g o c se (ls++[(⟨a7,(((y.td).getD 0 j9).ad),(ae w (((y.td).getD 0 j9).ad) (((y.td).getD 0 j9).tr)).1⟩:l5)]))/\Br (!((ak (((y.td).getD 0 j9).ad)).isSome)) (Q (.tup []) (.tup [])/\Er gw v4/\Qr gt (bP n a7 (zs.set ix (A6 w y a7)) se (ls++[(⟨a7,(((y.td).getD 0 j9).ad),(ae w (((y.td).getD 0 j9).ad) (((y.td).getD 0 j9).tr)).1⟩:l5)])) gt v2) (Z g7 0/\(uw (oA (ak (((y.td).getD 0 j9).ad))) ((ae w (((y.td).getD 0 j9).ad) (((y.td).getD 0 j9).tr)).1) ((ae w (((y.td).getD 0 j9).ad) (((y.td).getD 0 j9).tr)).2)).sm/\((dm (oA (ak (((y.td).getD 0 j9).ad))))/\(((ae w (((y.td).getD 0 j9).ad) (((y.td).getD 0 j9).tr)).2).length<=4611686018427387904)/\(l8 ((ae w (((y.td).getD 0 j9).ad) (((y.td).getD 0 j9).tr)).2)))/\(∃ x:Nat×(List k9)×(List BL),match x with | (j7,PB,PH)=>(fun v12:Int×BL=>(j7<=((if v1.1=1 then bO v3 v1.2 else if v1.1=2 then [v1.2] else [])).length/\PB=((((if v1.1=1 then bO v3 v1.2 else if v1.1=2 then [v1.2] else [])).take j7).foldl ah (⟨n,a7,zs.set ix (A6 w y a7),se,ls++[(⟨a7,x0.ad,v1.1⟩:l5)]⟩:j6)).hs/\PH=((((if v1.1=1 then bO v3 v1.2 else if v1.1=2 then [v1.2] else [])).take j7).foldl ah (⟨n,a7,zs.set ix (A6 w y a7),se,ls++[(⟨a7,x0.ad,v1.1⟩:l5)]⟩:j6)).se)/\E (.ptr (.key 1001) [] gw 0)/\Q (ao (if (v12.1)=1 then bO (oA (ak (((y.td).getD 0 j9).ad))) (v12.2) else if (v12.1)=2 then [(v12.2)] else [])) v5/\Q (iN (((if (v12.1)=1 then bO (oA (ak (((y.td).getD 0 j9).ad))) (v12.2) else if (v12.1)=2 then [(v12.2)] else []).map sV).length)) (iN (((if v1.1=1 then bO v3 v1.2 else if v1.1=2 then [v1.2] else [])).length))/\Q (iN 0) (iN j7)/\Er gw v4/\Qr gt (bP n a7 (zs.set ix (A6 w y a7)) se (ls++[(⟨a7,(((y.td).getD 0 j9).ad),v12.1⟩:l5)])) gt (bP n a7 PB PH (ls++[(⟨a7,x0.ad,v1.1⟩:l5)]))/\True) (ae w (((y.td).getD 0 j9).ad) (((y.td).getD 0 j9).tr)))/\∀ x:Nat×(List k9)×(List BL),match x with | (i,zz,ss)=>(i<=((if v1.1=1 then bO v3 v1.2 else if v1.1=2 then [v1.2] else [])).length/\zz=((((if v1.1=1 then bO v3 v1.2 else if v1.1=2 then [v1.2] else [])).take i).foldl ah (⟨n,a7,zs.set ix (A6 w y a7),se,ls++[(⟨a7,x0.ad,v1.1⟩:l5)]⟩:j6)).hs/\ss=((((if v1.1=1 then bO v3 v1.2 else if v1.1=2 then [v1.2] else [])).take i).foldl ah (⟨n,a7,zs.set ix (A6 w y a7),se,ls++[(⟨a7,x0.ad,v1.1⟩:l5)]⟩:j6)).se)->(fun E4:V=>Br (r8 (i:Int) ((((if v1.1=1 then bO v3 v1.2 else if v1.1=2 then [v1.2] else [])).length:Nat):Int)) (Ex (i:Int) ((if v1.1=1 then bO v3 v1.2 else if v1.1=2 then [v1.2] else []).map sV) (sV ((if v1.1=1 then bO v3 v1.2 else if v1.1=2 then [v1.2] else []).getD i []))/\True/\True/\Z gw 1/\(wy n a7 zz ss (ls++[(⟨a7,x0.ad,v1.1⟩:l5)]) gt ((if v1.1=1 then bO v3 v1.2 else if v1.1=2 then [v1.2] else []).getD i [])).sm/\Er gt E4/\((zz.length<=1000)/\(ss.length<=1000)/\(((if v1.1=1 then bO v3 v1.2 else if v1.1=2 then [v1.2] else []).getD i []).length<=1000000)/\(l8 ((if v1.1=1 then bO v3 v1.2 else if v1.1=2 then [v1.2] else []).getD i []))/\(∀ y,y∈zz->y.td.length<=1000/\y.gr.ru.length<=1000/\∀ i,(y.gr.ru.getD i ⟨false,[]⟩).path.length<=1000))/\m8 ((i:Int)+1)/\∃ x:Nat×(List k9)×(List BL),match x with | (c9,PA,PG)=>(c9<=((if v1.1=1 then bO v3 v1.2 else if v1.1=2 then [v1.2] else [])).length/\PA=((((if v1.1=1 then bO v3 v1.2 else if v1.1=2 then [v1.2] else [])).take c9).foldl ah (⟨n,a7,zs.set ix (A6 w y a7),se,ls++[(⟨a7,x0.ad,v1.1⟩:l5)]⟩:j6)).hs/\PG=((((if v1.1=1 then bO v3 v1.2 else if v1.1=2 then [v1.2] else [])).take c9).foldl ah (⟨n,a7,zs.set ix (A6 w y a7),se,ls++[(⟨a7,x0.ad,v1.1⟩:l5)]⟩:j6)).se)/\(((if v1.1=1 then bO v3 v1.2 else if v1.1=2 then [v1.2] else [])).length-c9<((if v1.1=1 then bO v3 v1.2 else if v1.1=2 then [v1.2] else [])).length-i)/\E (.ptr (.key 1001) [] gw 0)/\E v5/\E (iN (((if v1.1=1 then bO v3 v1.2 else if v1.1=2 then [v1.2] else [])).length))/\Q (iN (i+1)) (iN c9)/\Er gw v4/\Qr gt (bP n a7 (aN n zz ss ((if v1.1=1 then bO v3 v1.2 else if v1.1=2 then [v1.2] else []).getD i [])) (bT ss ((if v1.1=1 then bO v3 v1.2 else if v1.1=2 then [v1.2] else []).getD i [])) (ls++[(⟨a7,x0.ad,v1.1⟩:l5)])) gt (bP n a7 PA PG (ls++[(⟨a7,x0.ad,v1.1⟩:l5)]))/\True) (Q (.tup []) (.tup [])/\Er gw v4/\Qr gt E4 gt v2)) (bP n a7 zz ss (ls++[(⟨a7,x0.ad,v1.1⟩:l5)])))))) (ao (if v1.1=1 then bO v3 v1.2 else if v1.1=2 then [v1.2] else []))) (.agg [.mp (w.map F8),.ptr (.key 1000) [] gt 0])) (oA (ak x0.ad))) (bP n a7 ((I5 w (⟨n,a7,zs,se,ls⟩:j6) ix).hs) ((I5 w (⟨n,a7,zs,se,ls⟩:j6) ix).se) ((I5 w (⟨n,a7,zs,se,ls⟩:j6) ix).lk))) (ae w x0.ad x0.tr)) ?_
 subst ZD
 subst ZE
 refine⟨P2 (Zbk (V.own 8 · g o c) (tC (d:=c5) Zaa)),(bj (f:=2) rfl).trans (aS (aU Zaa) rfl),?_⟩
 intro ga oa ca
 refine⟨eP (bn (aU Zaa) (dC Zaa)),trivial,(bj (f:=2) rfl).trans (aS (aU Zaa) rfl),Zah,(bj (f:=2) rfl).trans (aS (aU Zaa) ((bj (f:=5) rfl).trans (aS (by rw[Zau];exact aq (d:=j9) Zaa) rfl))),?_⟩
 intro g4
 refine⟨rfl,trivial,(bj (f:=2) rfl).trans (aS (aU Zaa) rfl),rfl,rfl,⟨hi,by have:=hy.t;omega⟩,trivial,⟨rfl,rfl,(bj (f:=2) rfl).trans (aS (aU Zaa) rfl),rfl,Zab,cP (f:=ar) (fun _=>rfl) _⟩,?_⟩
 intro _
 refine⟨(Zbk (fun r:V=>V.set (.agg [sV n,iV a7,.own 8 ((zs.take ix).map aL++(.agg [sV ((zs.getD ix c5).na),iV ((zs.getD ix c5).re),bV ((zs.getD ix c5).kn),.agg [.sl false (((zs.getD ix c5).gr.na).map sV),.sl false (((zs.getD ix c5).gr.ru).map aD),iN ((zs.getD ix c5).gr.wa)],iV ((zs.getD ix c5).tr),.own 2 ((((zs.getD ix c5).td).drop 1++[j9]).map ar) ga oa ca]:V)::(zs.drop (ix+1)).map aL) g o c,.ow 1 (se.map sV),.ow 3 (ls.map bf)]) [2,ix,5] r) (Zbk (V.own 2 · ga oa ca) (NJ Zaa))).trans (eP (bn (aU Zaa) (dC Zaa))),(bj (f:=2) rfl).trans (aS (aU Zaa) rfl),eP (bn (aU Zaa) (dC Zaa)),P2 (Zbk (V.own 8 · g o c) (nK (f:=aL) (x:=({ (zs.getD ix c5) with td:=(zs.getD ix c5).td.drop 1 }:k9)) Zaa)),rfl,rfl,by first | rfl | (exfalso;omega) | (simp only[Zau]) | (simp;omega),rfl,rfl,⟨by rw[List.length_set];exact hi,hl,by have:=hy.ta _ (aj (d:=j9) hne);omega,hn,Hi hi,hy.w⟩,P2 (Zbk (V.own 8 · g o c) (JH hi)),fun hG=>rfl,fun hG=>by(try simp only[nb]at hG);omega,⟨fun h=>by rw[h] <;> rfl,fun _=>rfl⟩,?_⟩
 refine bI (fun l3=>?_) fun l3=>?_
 refine⟨rfl,Zaa,rfl,(bj (f:=2) rfl).trans (aS (aU Zaa) rfl),?_⟩
 intro Sh R' Sn
 refine⟨eP (bn (aU Zaa) (dC Zaa)),trivial,(bj (f:=2) rfl).trans (aS (aU Zaa) rfl),rfl,⟨rfl,rfl,(bj (f:=2) rfl).trans (aS (aU Zaa) rfl),rfl,rfl,by simp[aM,V.n,V.ns],by(try simp only[Zan,Zaw,Zap,Zas,List.length_drop]);omega⟩,?_⟩
 intro Ol
 refine⟨eP (bn (aU Zaa) (dC Zaa)),Zbk (V.own 2 · Ol.1 Ol.2.1 Ol.2.2) Zab,trivial,(bj (f:=2) rfl).trans (aS (aU Zaa) rfl),eP (bn (aU Zaa) (dC Zaa)),(bj (f:=2) rfl).trans (aS (aU Zaa) rfl),eP (bn (aU Zaa) (dC Zaa)),P2 (Zbk (V.own 8 · g o c) (nK (f:=aL) (x:=({ (A6 w (zs.getD ix c5) a7) with td:=(zs.getD ix c5).td.drop 1++[(⟨((zs.getD ix c5).td.getD 0 j9).ad,((zs.getD ix c5).td.getD 0 j9).tr+1⟩:w5)] }:k9)) Zaa)),?_⟩
 refine⟨?_,rfl,by rw[NR l3]⟩
 unfold Q
 rfl
 refine⟨rfl,rfl,⟨by have:=hy.ta _ (aj (d:=j9) hne);omega,(hy.ta _ (aj (d:=j9) hne)).2.1⟩,?_⟩
 intro g7
 refine⟨rfl,P2 (Zbk (V.own 8 · g o c) (nK (f:=aL) (x:=(A6 w (zs.getD ix c5) a7)) Zaa)),?_⟩
 refine bI (fun l6=>?_) fun l6=>?_
 refine⟨?_,rfl,by rw[NB l3 (by simpa using l6)]⟩
 unfold Q
 rfl
 refine⟨rfl,rfl,⟨by exact pB _,Mk hz,IS hz⟩,?_⟩
 refine⟨⟨(0,zs.set ix (A6 w (zs.getD ix c5) a7),se),?_,rfl,Zaf,Zaf,rfl,rfl,Zaf,trivial⟩,?_⟩
 exact⟨Zab,rfl,rfl⟩
 rintro⟨i,zz,ss⟩ ⟨h1,h2,h3⟩
 have hll:=FT (k:=(ae w ((zs.getD ix c5).td.getD 0 j9).ad ((zs.getD ix c5).td.getD 0 j9).tr).1) (b:=oA (ak ((zs.getD ix c5).td.getD 0 j9).ad)) (t:=(ae w ((zs.getD ix c5).td.getD 0 j9).ad ((zs.getD ix c5).td.getD 0 j9).tr).2)
 have Xt:=uD (((if (ae w ((zs.getD ix c5).td.getD 0 j9).ad ((zs.getD ix c5).td.getD 0 j9).tr).1=1 then bO (oA (ak ((zs.getD ix c5).td.getD 0 j9).ad)) (ae w ((zs.getD ix c5).td.getD 0 j9).ad ((zs.getD ix c5).td.getD 0 j9).tr).2 else if (ae w ((zs.getD ix c5).td.getD 0 j9).ad ((zs.getD ix c5).td.getD 0 j9).tr).1=2 then [(ae w ((zs.getD ix c5).td.getD 0 j9).ad ((zs.getD ix c5).td.getD 0 j9).tr).2] else [])).take i) (MZ (w:=w) (ls:=ls++[(⟨a7,((zs.getD ix c5).td.getD 0 j9).ad,(ae w ((zs.getD ix c5).td.getD 0 j9).ad ((zs.getD ix c5).td.getD 0 j9).tr).1⟩:l5)]) hi hy ht) hnn (fun s hs=>sN hw hz s (List.mem_of_mem_take hs))
 have hx:=qS (((if (ae w ((zs.getD ix c5).td.getD 0 j9).ad ((zs.getD ix c5).td.getD 0 j9).tr).1=1 then bO (oA (ak ((zs.getD ix c5).td.getD 0 j9).ad)) (ae w ((zs.getD ix c5).td.getD 0 j9).ad ((zs.getD ix c5).td.getD 0 j9).tr).2 else if (ae w ((zs.getD ix c5).td.getD 0 j9).ad ((zs.getD ix c5).td.getD 0 j9).tr).1=2 then [(ae w ((zs.getD ix c5).td.getD 0 j9).ad ((zs.getD ix c5).td.getD 0 j9).tr).2] else [])).take i) (⟨n,a7,zs.set ix (A6 w (zs.getD ix c5) a7),se,ls++[(⟨a7,((zs.getD ix c5).td.getD 0 j9).ad,(ae w ((zs.getD ix c5).td.getD 0 j9).ad ((zs.getD ix c5).td.getD 0 j9).tr).1⟩:l5)]⟩:j6)
 refine bI (fun n0=>?_) fun n0=>?_
 have PM:=sN (b:=oA (ak ((zs.getD ix c5).td.getD 0 j9).ad)) hw hz _ (nh (l:=(if (ae w ((zs.getD ix c5).td.getD 0 j9).ad ((zs.getD ix c5).td.getD 0 j9).tr).1=1 then bO (oA (ak ((zs.getD ix c5).td.getD 0 j9).ad)) (ae w ((zs.getD ix c5).td.getD 0 j9).ad ((zs.getD ix c5).td.getD 0 j9).tr).2 else if (ae w ((zs.getD ix c5).td.getD 0 j9).ad ((zs.getD ix c5).td.getD 0 j9).tr).1=2 then [(ae w ((zs.getD ix c5).td.getD 0 j9).ad ((zs.getD ix c5).td.getD 0 j9).tr).2] else [])) (i:=i) Zaa)
 refine⟨⟨Zaa,aq (d:=[]) Zaa⟩,trivial,trivial,rfl,rfl,rfl,⟨by rw[h2];have:=Xt.h;have:=Xt.s;omega,by rw[h3];have:=Xt.s;omega,by have:=PM.1;omega,PM.2.1,fun y hy=>by rw[h2]at hy;have q:=Xt.ha y hy;have:=Xt.s;exact⟨by have:=q.t;omega,q.r,q.rp⟩⟩,Zaa,?_⟩
 refine⟨(i+1,aN n zz ss ((if (ae w ((zs.getD ix c5).td.getD 0 j9).ad ((zs.getD ix c5).td.getD 0 j9).tr).1=1 then bO (oA (ak ((zs.getD ix c5).td.getD 0 j9).ad)) (ae w ((zs.getD ix c5).td.getD 0 j9).ad ((zs.getD ix c5).td.getD 0 j9).tr).2 else if (ae w ((zs.getD ix c5).td.getD 0 j9).ad ((zs.getD ix c5).td.getD 0 j9).tr).1=2 then [(ae w ((zs.getD ix c5).td.getD 0 j9).ad ((zs.getD ix c5).td.getD 0 j9).tr).2] else []).getD i []),bT ss ((if (ae w ((zs.getD ix c5).td.getD 0 j9).ad ((zs.getD ix c5).td.getD 0 j9).tr).1=1 then bO (oA (ak ((zs.getD ix c5).td.getD 0 j9).ad)) (ae w ((zs.getD ix c5).td.getD 0 j9).ad ((zs.getD ix c5).td.getD 0 j9).tr).2 else if (ae w ((zs.getD ix c5).td.getD 0 j9).ad ((zs.getD ix c5).td.getD 0 j9).tr).1=2 then [(ae w ((zs.getD ix c5).td.getD 0 j9).ad ((zs.getD ix c5).td.getD 0 j9).tr).2] else []).getD i [])),?_,?_,rfl,rfl,rfl,rfl,rfl,rfl,trivial⟩
 rw[foldl_succ (d:=[]) Zaa,h2,h3]
 have hq:=qS (((if (ae w ((zs.getD ix c5).td.getD 0 j9).ad ((zs.getD ix c5).td.getD 0 j9).tr).1=1 then bO (oA (ak ((zs.getD ix c5).td.getD 0 j9).ad)) (ae w ((zs.getD ix c5).td.getD 0 j9).ad ((zs.getD ix c5).td.getD 0 j9).tr).2 else if (ae w ((zs.getD ix c5).td.getD 0 j9).ad ((zs.getD ix c5).td.getD 0 j9).tr).1=2 then [(ae w ((zs.getD ix c5).td.getD 0 j9).ad ((zs.getD ix c5).td.getD 0 j9).tr).2] else [])).take i) (⟨n,a7,zs.set ix (A6 w (zs.getD ix c5) a7),se,ls++[(⟨a7,((zs.getD ix c5).td.getD 0 j9).ad,(ae w ((zs.getD ix c5).td.getD 0 j9).ad ((zs.getD ix c5).td.getD 0 j9).tr).1⟩:l5)]⟩:j6)
 exact⟨Zaa,by show _=aN ((((if (ae w ((zs.getD ix c5).td.getD 0 j9).ad ((zs.getD ix c5).td.getD 0 j9).tr).1=1 then bO (oA (ak ((zs.getD ix c5).td.getD 0 j9).ad)) (ae w ((zs.getD ix c5).td.getD 0 j9).ad ((zs.getD ix c5).td.getD 0 j9).tr).2 else if (ae w ((zs.getD ix c5).td.getD 0 j9).ad ((zs.getD ix c5).td.getD 0 j9).tr).1=2 then [(ae w ((zs.getD ix c5).td.getD 0 j9).ad ((zs.getD ix c5).td.getD 0 j9).tr).2] else [])).take i).foldl ah (⟨n,a7,zs.set ix (A6 w (zs.getD ix c5) a7),se,ls++[(⟨a7,((zs.getD ix c5).td.getD 0 j9).ad,(ae w ((zs.getD ix c5).td.getD 0 j9).ad ((zs.getD ix c5).td.getD 0 j9).tr).1⟩:l5)]⟩:j6)).na ((((if (ae w ((zs.getD ix c5).td.getD 0 j9).ad ((zs.getD ix c5).td.getD 0 j9).tr).1=1 then bO (oA (ak ((zs.getD ix c5).td.getD 0 j9).ad)) (ae w ((zs.getD ix c5).td.getD 0 j9).ad ((zs.getD ix c5).td.getD 0 j9).tr).2 else if (ae w ((zs.getD ix c5).td.getD 0 j9).ad ((zs.getD ix c5).td.getD 0 j9).tr).1=2 then [(ae w ((zs.getD ix c5).td.getD 0 j9).ad ((zs.getD ix c5).td.getD 0 j9).tr).2] else [])).take i).foldl ah (⟨n,a7,zs.set ix (A6 w (zs.getD ix c5) a7),se,ls++[(⟨a7,((zs.getD ix c5).td.getD 0 j9).ad,(ae w ((zs.getD ix c5).td.getD 0 j9).ad ((zs.getD ix c5).td.getD 0 j9).tr).1⟩:l5)]⟩:j6)).hs ((((if (ae w ((zs.getD ix c5).td.getD 0 j9).ad ((zs.getD ix c5).td.getD 0 j9).tr).1=1 then bO (oA (ak ((zs.getD ix c5).td.getD 0 j9).ad)) (ae w ((zs.getD ix c5).td.getD 0 j9).ad ((zs.getD ix c5).td.getD 0 j9).tr).2 else if (ae w ((zs.getD ix c5).td.getD 0 j9).ad ((zs.getD ix c5).td.getD 0 j9).tr).1=2 then [(ae w ((zs.getD ix c5).td.getD 0 j9).ad ((zs.getD ix c5).td.getD 0 j9).tr).2] else [])).take i).foldl ah (⟨n,a7,zs.set ix (A6 w (zs.getD ix c5) a7),se,ls++[(⟨a7,((zs.getD ix c5).td.getD 0 j9).ad,(ae w ((zs.getD ix c5).td.getD 0 j9).ad ((zs.getD ix c5).td.getD 0 j9).tr).1⟩:l5)]⟩:j6)).se _;rw[hq.1],rfl⟩
 exact Zai
 refine⟨?_,rfl,by rw[Ny l3 (by simpa using l6),h2,h3,Zax Zaa,(qS _ _).2.2]⟩
 unfold Q
 rfl)
section
open Go.RowKit Go.Extern.Stop Go.Stop Go.Extern
theorem IL(v:Value)(w:World):(Extern.ReflectliteType.typeOf #[.iface 251 v]).run Tryz.prog w=.ok (.iface 161 (.agg #[.pointer (some ⟨4,251,none⟩)])) w:=Zac
theorem AI(w:World):((Extern.ReflectliteType.method fun t=>do Rtype.noPackHeld "Comparable" t;(fun a=>Value.bool a.comparable) <$> typeInfo t) #[.agg #[.pointer (some ⟨4,251,none⟩)]]).run Tryz.prog w=.ok (.bool true) w:=Zac
theorem Hp(v:Value)(w:World):(Go.method 385 161 v "Comparable").run Tryz.prog w=.ok (225,v) w:=Zac
theorem Lt:(Tryz.prog.info? 251).map (·.comparable)=some true:=Zac
theorem Ld:(Tryz.prog.info? 274).map (·.size)=some 1:=Zac
theorem Ec(a:Addr)(w:World):
 Calls Tryz.prog 66 #[.iface 251 (.pointer (some a)),.iface 251 (.pointer (some a))] w fun e w'=>e=.returned (.bool true)/\w'=w:=by
 obtain⟨i,hi,hcmp⟩:=Option.map_eq_some_iff.1 Lt
 obtain⟨j,hj,hjs⟩:=Option.map_eq_some_iff.1 Ld
 have h8:= @run_callFunc_extern Tryz.prog 96 _ Extern.ReflectliteType.typeOf Tryz.func96 Zac Zac Zac Zac
 have h32:= @run_callFunc_extern Tryz.prog 225 _ (Extern.ReflectliteType.method fun t=>do Rtype.noPackHeld "Comparable" t;pure (.bool (<- typeInfo t).comparable)) Tryz.func225 Zac Zac Zac Zac
 have tT:=IL
 have cT:=AI
 have mR:=Hp
 have heq:=run_eql_iface_ptr_same (P:=Tryz.prog) w a Tryz.underlying111 Tryz.underlying251 hi hcmp hj
 go_enter Tryz.func66,Tryz.ntmps66
 go_wp2
 refine wp_loop_rounds 1 ?_
 rw[rounds_succ]
 go_wp2
 go_ret
 exact⟨rfl,rfl⟩
theorem Gj(b:Addr)(w:World):
 Calls Tryz.prog 66 #[.nilIface,.iface 251 (.pointer (some b))] w fun e w'=>e=.returned (.bool false)/\w'=w:=by
 have hn:=run_eql_iface_nil_left (P:=Tryz.prog) w 251 (.pointer (some b)) Tryz.underlying111
 go_enter Tryz.func66,Tryz.ntmps66
 go_wp2
 go_ret
 exact⟨rfl,rfl⟩
theorem HD(a:Addr):PC Tryz.prog 66 [.lit (.iface 251 (.pointer (some a))),.lit (.iface 251 (.pointer (some a)))] (fun r=>r=bV true):=by
 refine⟨eV Tryz.func66 Zac Zac,fun w Pb cargs hP hargs=>?_⟩
 obtain⟨x,xs,F1,F2,rfl,hF,h1,h2⟩:=hargs
 obtain⟨y,ys,F3,F4,rfl,hF2,h3,h4⟩:=h2
 obtain⟨rfl,_⟩:=h4
 have e1:x=.iface 251 (.pointer (some a)):=by have:=h1.2.1;simpa using this
 have e2:y=.iface 251 (.pointer (some a)):=by have:=h3.2.1;simpa using this
 subst e1;subst e2
 refine(Ec a w).mono ?_
 rintro e w' ⟨rfl,rfl⟩
 exact⟨_,_,[],Pb,rfl,rfl,dH rfl,Za8,Zab,fun _ h=>h,fun _ h=>.inl h,Below.refl _ _⟩
theorem Ij(a:Addr):PF Tryz.prog 66 [.lit (.iface 251 (.pointer (some a))),.lit (.iface 251 (.pointer (some a)))] [] (fun r h=>r=bV true/\h=[]):=jz rfl rfl (HD a)
theorem FG(a:Addr):PC Tryz.prog 66 [.lit .nilIface,.lit (.iface 251 (.pointer (some a)))] (fun r=>r=bV false):=by
 refine⟨eV Tryz.func66 Zac Zac,fun w Pb cargs hP hargs=>?_⟩
 obtain⟨x,xs,F1,F2,rfl,hF,h1,h2⟩:=hargs
 obtain⟨y,ys,F3,F4,rfl,hF2,h3,h4⟩:=h2
 obtain⟨rfl,_⟩:=h4
 have e1:x=.nilIface:=by have:=h1.2.1;simpa using this
 have e2:y=.iface 251 (.pointer (some a)):=by have:=h3.2.1;simpa using this
 subst e1;subst e2
 refine(Gj a w).mono ?_
 rintro e w' ⟨rfl,rfl⟩
 exact⟨_,_,[],Pb,rfl,rfl,dH rfl,Za8,Zab,fun _ h=>h,fun _ h=>.inl h,Below.refl _ _⟩
theorem Fm(a:Addr):PF Tryz.prog 66 [.lit .nilIface,.lit (.iface 251 (.pointer (some a)))] [] (fun r h=>r=bV false/\h=[]):=jz rfl rfl (FG a)
end
section
variable {P:Program}
def baC(v:V):Cu P where
 X:=Unit
 pre N o A:=match o.op,o.dst with
  | .build T e9,some d=>match Nat.blt d N,lb ((e9.toList.map (·.2)).map A.ev) with
    | true,some l=> ∃ y,v.val? =some y/\∀ w,(Instr.build T ((e9.toList.map (·.1)).zip l).toArray).run P w=.ok y w
    | _,_=>False
  | _,_=>False
 post _ o A:=A.put o.dst v
 ok:=by
  rintro N ⟨dst,op,ty,pos,after,D5⟩ A K-hp hK
  replace hK:=hK ()
  simp only at hp hK
  split at hp
  rename_i T e9 d
  split at hp
  rename_i l e1 e2
  obtain⟨y,hv,hr⟩:=hp
  refine hX rfl (bW e1) hK fun Pb Kb a w F hs=>⟨y,?_,vX hv⟩
  have h1:=oF hs _ e2
  have key:∀ q:List (Nat×Operand),q.map (fun p=>(p.1,a.eval p.2))=(q.map (·.1)).zip ((q.map (·.2)).map a.eval):=fun q=>by
   induction q with
   | nil=>rfl
   | cons p q ih=>simp only[Zbc,List.zip_cons_cons,ih]
  have h2:(e9.map fun p=>(p.1,a.eval p.2))=((e9.toList.map (·.1)).zip l).toArray:=by
   rw[<- h1,<- key];apply Array.ext';simp
  have h3:=hr w
  rw[<- h2]at h3
  simp only[execOp,Zay,h3,Zaq,Zaz]
  exact hp.elim
  exact hp.elim
def bmC:Cu P where
 X:=Nat
 pre N o A:=match o.op,o.dst with
  | .box _ x,some d=>Nat.blt d N=true/\(A.ev x).isVal=true
  | _,_=>False
 post g o A:=match o.op,o.dst with
  | .box _ x,some d=>⟨((A.drop x).put (some d) (.ptr (.key d) [] g 0)).t,(d,(g,A.ev x))::(A.drop x).h⟩
  | _,_=>A
 ok:=by
  rintro N ⟨dst,op,ty,pos,after,D5⟩ A K-hp hK
  simp only at hp hK
  split at hp
  rename_i T x d
  obtain⟨e1,hv⟩:=hp
  intro Pb Kb a w F Q hs
  obtain⟨Fx,F',hr,B4,hnd,x6,hfr,_⟩:=hs.take x
  have hR:=Ag hr hv
  have h1:=B4.pK (.cells (a.eval x).cells T)
  have h2:=h1.put (d:=d) (v:=.ptr (.key d) [] w.heap.size 0) (x:=.pointer (some ⟨w.heap.size,0,none⟩)) (F':=[]) (bW e1) ⟨rfl,rfl⟩ Zab Zab Zab
  have hA:At (w.alloc (.cells (a.eval x).cells T)) Pb (A.ev x) w.heap.size 0 Fx:=
   ⟨(a.eval x).cells.toList,(a.eval x).cells,⟨T,(0,0),ij w _,fun i _ h=>by omega⟩,iu (A.ev x) hR (fun g hg=>alloc_old w _ g (hs.bound g (hs.sub g hg))) (fun g hg=>alloc_old w _ g (hfr g hg).2) (fun _ h=>h) (fun g hg c=>(hfr g hg).1 (hs.sub g c)),fun j u hu=>by simpa using hu⟩
  have h3:=h2.Cy (k:=d) hA (List.nodup_cons.2 ⟨fun c=>by have:=(hfr _ c).2;omega,hnd⟩) (fun r y hy c=>by
   simp only[cM]at c
   rcases List.mem_cons.1 hy with rfl | hy
   split at c
   simp at c
   have:=(B4.free r _ c).2;omega
   split at c
   simp at c
   exact x6 r y hy c) (fun y hy=>by
   rcases List.mem_cons.1 hy with rfl | hy
   exact⟨fun c=>by have:=hs.bound _ c;omega,by rw[ef];omega⟩
   exact⟨(hfr y hy).1,by rw[ef];have:=(hfr y hy).2;omega⟩)
  have B6:(execOp a.eval ⟨some d,.box T x,ty,pos,after,D5⟩).run P w=.ok (.value (.pointer (some ⟨w.heap.size,0,none⟩))) (w.alloc (.cells (a.eval x).cells T)):=by
   simp[execOp,Instr.box,newVar,kG]
  unfold Oper.wp
  rw[B6,Oper.upon_value]
  exact⟨_,Pb,Kb,_,hK w.heap.size,h3,fun _ h=>h,fun _ h=>h,fun _ h=>.inl h,A4.alloc hs.bound _⟩
  exact hp.elim
end
def D1(t:j6):Bool:=(jo t).isSome&&decide (t.lk.length<400)
def y8(w:List Pg)(t:j6):j6:=if (t.hs.getD (j8 t) c5).kn=true then I5 w { t with a7:=n6 t } (j8 t) else OT w { t with a7:=n6 t } (j8 t)
structure M5 (t:j6):Prop where
 t0:TS t
 n:t.na.length<=1000
 l:t.lk.length<=400
 w:0<=t.a7/\t.a7<=5000
theorem Be(w:List Pg)(t:j6)(i:Nat):(I5 w t i).na=t.na/\(I5 w t i).a7=t.a7:=by
 unfold I5
 simp only
 split
 exact⟨rfl,rfl⟩
 split
 have:=qS (qA ((t.hs.getD i c5).td.getD 0 j9).ad (ae w ((t.hs.getD i c5).td.getD 0 j9).ad ((t.hs.getD i c5).td.getD 0 j9).tr).1 (ae w ((t.hs.getD i c5).td.getD 0 j9).ad ((t.hs.getD i c5).td.getD 0 j9).tr).2) { t with hs:=t.hs.set i (A6 w (t.hs.getD i c5) t.a7),lk:=t.lk++[⟨t.a7,((t.hs.getD i c5).td.getD 0 j9).ad,(ae w ((t.hs.getD i c5).td.getD 0 j9).ad ((t.hs.getD i c5).td.getD 0 j9).tr).1⟩] }
 exact⟨this.1,this.2.1⟩
 exact⟨rfl,rfl⟩
theorem Lh(t:j6):∀ i,i<=t.hs.length->(J8 t i=(-1,0))\/∃ j:Nat,(J8 t i).1=(j:Int)/\j<i/\(t.hs.getD j c5).td≠[]/\t.a7<=(J8 t i).2
 | 0,_=>.inl rfl
 | i+1,hi=>by
   rw[lJ Zaa]
   unfold mq
   split
   rename_i c
   exact .inr ⟨i,rfl,Zaa,c.1,by simp only;omega⟩
   rcases Lh t i Zaa with h | ⟨j,h1,h2,h3,h4⟩
   exact .inl h
   exact .inr ⟨j,h1,Zaa,h3,h4⟩
theorem eR{t:j6}(h:D1 t=true):j8 t<t.hs.length/\(t.hs.getD (j8 t) c5).td≠[]/\t.a7<=n6 t/\n6 t<=5000:=by
 unfold D1 at h
 rw[Zam]at h
 have h1:=h.1
 unfold j8 n6
 unfold jo at h1 ⊢
 split at h1
 cases h1
 rename_i c
 rw[if_neg c]
 rcases Lh t _ (Zba _) with e | ⟨j,e1,e2,e3,e4⟩
 rw[e]at c;exact absurd (.inl Zad) c
 simp only[Option.map_some,Option.getD_some,e1,Int.toNat_natCast]
 exact⟨e2,e3,e4,Zaa⟩
theorem Nc{t:j6}(h:(jo t).isSome=false\/(400:Int)<=(t.lk.length:Int)): ¬ D1 t=true:=fun c=>by
 unfold D1 at c
 rw[Zam,Zbi]at c
 rcases h with h | h
 rw[h]at c;exact absurd c.1 Zad
 omega
theorem MU{t:j6}(h:(jo t).isSome=true/\(t.lk.length:Int)<400): ¬ D1 t=false:=fun c=>by
 unfold D1 at c
 rw[h.1,decide_eq_true Zaa]at c;cases c
theorem Nd{t:j6}(h:M5 t){i:Nat}(hi:i<t.hs.length):HS 60 (t.hs.getD i c5):=(h.t0.ha _ (aj (d:=c5) hi)).mono h.t0.s
theorem NH{w:List Pg}{n:BL}{a7:Int}{zs:List k9}{se:List BL}{ls:List l5}(h:(zs.getD (j8 ⟨n,a7,zs,se,ls⟩) c5).kn=true):y8 w ⟨n,a7,zs,se,ls⟩=I5 w ⟨n,n6 ⟨n,a7,zs,se,ls⟩,zs,se,ls⟩ (j8 ⟨n,a7,zs,se,ls⟩):=if_pos h
theorem NK{w:List Pg}{n:BL}{a7:Int}{zs:List k9}{se:List BL}{ls:List l5}(h:(zs.getD (j8 ⟨n,a7,zs,se,ls⟩) c5).kn=false):y8 w ⟨n,a7,zs,se,ls⟩=OT w ⟨n,n6 ⟨n,a7,zs,se,ls⟩,zs,se,ls⟩ (j8 ⟨n,a7,zs,se,ls⟩):=if_neg (by rw[h];decide)
def De(ea:Addr):o6 Tryz.prog:={ f:=66,args:=[.lit (.iface 251 (.pointer (some ea))),.lit (.iface 251 (.pointer (some ea)))],H:=[],pre:=True,res:=bV true,H':=[],ok:=fun _=>Ij ea }
def AK(ea:Addr):o6 Tryz.prog:={ f:=66,args:=[.lit .nilIface,.lit (.iface 251 (.pointer (some ea)))],H:=[],pre:=True,res:=bV false,H':=[],ok:=fun _=>Fm ea }
def FP(n:BL)(a7:Int)(zs:List k9)(se:List BL)(ls:List l5)(gt:Nat)(gw:Nat)(ea:Addr)(w:List Pg):o6 Tryz.prog:=.mk 67 [.ptr (.key 1001) [] gw 0] [(1001,(gw,.agg [.mp (w.map F8),.ptr (.key 1000) [] gt 0])),(1000,(gt,bP n a7 zs se ls)),(9000,(0,.lit (.iface 251 (.pointer (some ea)))))] ((ai w=true)/\(∀ i,m4 (w.getD i l9))/\(M5 (⟨n,a7,zs,se,ls⟩:j6))/\(D1 (⟨n,a7,zs,se,ls⟩:j6)=true)) (.lit .nilIface) [(1001,(gw,.agg [.mp (w.map F8),.ptr (.key 1000) [] gt 0])),(1000,(gt,bP n ((y8 w (⟨n,a7,zs,se,ls⟩:j6)).a7) ((y8 w (⟨n,a7,zs,se,ls⟩:j6)).hs) ((y8 w (⟨n,a7,zs,se,ls⟩:j6)).se) ((y8 w (⟨n,a7,zs,se,ls⟩:j6)).lk))),(9000,(0,.lit (.iface 251 (.pointer (some ea)))))] (by
 rintro⟨hw,hz,ht,hg⟩
 have Xp:=eR hg
 have Xo:=Nd ht Xp.1
 simp only at Xp Xo
 refine aB (N:=52) (rs:=[.tmp 2]) Tryz.func67
  (.q 1<|.r 5 [.b9]<|.q 1<|.c (xq n a7 zs se ls gt) [(1000,1000)]<|.q 7<|.oR (.key 1000) [4] (fun gl SF cl=>.r 10 [.b9]<|.br (.nil) (.q 4<|.st none<|.oR (.key 1000) [2] (fun g o c=>.r 7 [.b9]<|.cu (baC (.agg [.lit (.func (.func 99) #[] #[]),.lit (.func (.func 100) #[] #[])])) (fun _=>.al Nt (fun g8=>.st none<|.q 1<|.r 4 [bV ((zs.getD (j8 (⟨n,a7,zs,se,ls⟩:j6)) c5).kn)]<|.br (.q 1<|.r 5 [.b9]<|.c (BR n (n6 (⟨n,a7,zs,se,ls⟩:j6)) zs se ls gt g o c gw (j8 (⟨n,a7,zs,se,ls⟩:j6)) w) [(1001,1001),(1000,1000)]<|.q 1<|.nil) (.r 5 [.b9]<|.c (zR n (n6 (⟨n,a7,zs,se,ls⟩:j6)) zs se ls gt g o c gw (j8 (⟨n,a7,zs,se,ls⟩:j6)) w) [(1001,1001),(1000,1000)]<|.q 1<|.nil)))))))
  ((fun v1:k9=>(fun v2:Bool=>(True/\Z gw 1/\(xq n a7 zs se ls gt).sm/\Er gt (bP n a7 zs se ls)/\((zs.length<=1000))/\∀ gl SF cl:Nat,Gd (v2==false) True/\Gd (v2==false) (Z gt 4)/\Pk v2 true (v2==false)/\Br (v2||(A8 (((ls.map bf).length:Nat):Int) 400)) (False) (True/\Z gt 1/\∀ g o c:Nat,(fun v3:List V=>(fun v4:V=>True/\Z gt 2/\In (((j8 (⟨n,a7,zs,se,ls⟩:j6)):Nat):Int) ((zs.map aL).length)/\(∃ y,(.agg [.lit (.func (.func 99) #[] #[]),.lit (.func (.func 100) #[] #[])]:V).val? =some y/\∀ w,(Instr.build 149 ([(0,.func (.func 99) #[] #[]),(1,.func (.func 100) #[] #[])]:List (Nat×Value)).toArray).run Tryz.prog w=.ok y w)/\∀ _:Unit,(fun v5:j6=>(fun v6:V=> ∀ g8:Nat,Z g8 0/\True/\(V.at gt 0 (.agg [sV n,iV (n6 (⟨n,a7,zs,se,ls⟩:j6)),.own 8 (zs.map aL) g o c,.ow 1 (se.map sV),.own 3 (ls.map bf) gl SF cl]) [2,0+(j8 (⟨n,a7,zs,se,ls⟩:j6)),2]=some (g,(o+(0+(j8 (⟨n,a7,zs,se,ls⟩:j6)))*8+2),bV (v1.kn)))/\Br (v1.kn) (((0:Int)<=1/\(1:Int)<2)/\Z g8 1/\(v3=[.ptr (.key 1001) [] gw 0,.ptr (.key 1000) [2,(j8 (⟨n,a7,zs,se,ls⟩:j6))] g (o+(j8 (⟨n,a7,zs,se,ls⟩:j6))*8)])/\Er gw v6/\Er gt v4/\(((j8 (⟨n,a7,zs,se,ls⟩:j6))<zs.length)/\(ls.length<=1000)/\(0<=(n6 (⟨n,a7,zs,se,ls⟩:j6))/\(n6 (⟨n,a7,zs,se,ls⟩:j6))<=100000)/\(HS 60 v1)/\(ai w=true)/\(∀ i,m4 (w.getD i l9))/\(0<v1.td.length)/\(TS ⟨n,(n6 (⟨n,a7,zs,se,ls⟩:j6)),zs,se,ls⟩)/\(n.length<=1000))/\Q (.lit .nilIface) (.lit .nilIface)/\Er gw v6/\Qr gt (bP n (n6 (⟨n,a7,zs,se,ls⟩:j6)) ((I5 w (⟨n,(n6 (⟨n,a7,zs,se,ls⟩:j6)),zs,se,ls⟩:j6) (j8 (⟨n,a7,zs,se,ls⟩:j6))).hs) ((I5 w (⟨n,(n6 (⟨n,a7,zs,se,ls⟩:j6)),zs,se,ls⟩:j6) (j8 (⟨n,a7,zs,se,ls⟩:j6))).se) ((I5 w (⟨n,(n6 (⟨n,a7,zs,se,ls⟩:j6)),zs,se,ls⟩:j6) (j8 (⟨n,a7,zs,se,ls⟩:j6))).lk)) gt (bP n (v5.a7) (v5.hs) (v5.se) (v5.lk))/\Er 0 (.lit (.iface 251 (.pointer (some ea))))) (((0:Int)<=0/\(0:Int)<2)/\Z g8 0/\(v3=[.ptr (.key 1001) [] gw 0,.ptr (.key 1000) [2,(j8 (⟨n,a7,zs,se,ls⟩:j6))] g (o+(j8 (⟨n,a7,zs,se,ls⟩:j6))*8)])/\Er gw v6/\Er gt v4/\(((j8 (⟨n,a7,zs,se,ls⟩:j6))<zs.length)/\(ls.length<=1000)/\(0<=(n6 (⟨n,a7,zs,se,ls⟩:j6))/\(n6 (⟨n,a7,zs,se,ls⟩:j6))<=100000)/\(HS 60 v1)/\(∀ i,m4 (w.getD i l9)))/\Q (.lit .nilIface) (.lit .nilIface)/\Er gw v6/\Qr gt (bP n (n6 (⟨n,a7,zs,se,ls⟩:j6)) (zs.set (j8 (⟨n,a7,zs,se,ls⟩:j6)) (G' w n v1 (n6 (⟨n,a7,zs,se,ls⟩:j6)))) se (ls++[(⟨(n6 (⟨n,a7,zs,se,ls⟩:j6)),ag v1.na,(ae w (ag v1.na) v1.tr).1⟩:l5)])) gt (bP n (v5.a7) (v5.hs) (v5.se) (v5.lk))/\Er 0 (.lit (.iface 251 (.pointer (some ea)))))) (.agg [.mp (w.map F8),.ptr (.key 1000) [] gt 0])) (y8 w (⟨n,a7,zs,se,ls⟩:j6))) (ck n (n6 (⟨n,a7,zs,se,ls⟩:j6)) zs g o c se ls)) ([.ptr (.key 1001) [] gw 0,.ptr (.key 1000) [2,(j8 (⟨n,a7,zs,se,ls⟩:j6))] g (o+(0+(j8 (⟨n,a7,zs,se,ls⟩:j6)))*8)]:List V)))) (!((jo (⟨n,a7,zs,se,ls⟩:j6)).isSome))) (zs.getD (j8 (⟨n,a7,zs,se,ls⟩:j6)) c5)) ?_
 refine⟨trivial,rfl,rfl,rfl,by have:=ht.t0.h;have:=ht.t0.s;simp only at *;omega,?_⟩
 intro gl SF cl
 refine⟨fun hG=>trivial,fun hG=>rfl,⟨fun _=>rfl,fun h=>by rw[h] <;> rfl⟩,?_⟩
 refine bI (fun l3=>?_) fun l3=>?_
 · all_goals exact absurd hg (Nc l3)
 refine⟨trivial,rfl,?_⟩
 intro g o c
 refine⟨trivial,rfl,Zah,⟨_,rfl,fun _=>by kernel_rfl⟩,?_⟩
 intro _
 intro g8
 refine⟨rfl,trivial,(bj (f:=2) rfl).trans (aS (by rw[Zau];exact aq (d:=c5) Zaa) rfl),?_⟩
 refine bI (fun l6=>?_) fun l6=>?_
 refine⟨Zaa,rfl,by first | rfl | (exfalso;omega) | (simp only[Zau]) | (simp;omega),rfl,rfl,⟨Xp.1,by have:=ht.l;simp only at *;omega,by have:=ht.w;simp only at *;omega,Xo,hw,hz,List.length_pos_iff.2 Xp.2.1,⟨ht.t0.s,ht.t0.h,ht.t0.sa,ht.t0.ha⟩,ht.n⟩,?_⟩
 refine⟨?_,rfl,by rw[NH l6,(Be w _ _).2],rfl⟩
 unfold Q
 rfl
 refine⟨Zaa,rfl,by first | rfl | (exfalso;omega) | (simp only[Zau]) | (simp;omega),rfl,rfl,⟨Xp.1,by have:=ht.l;simp only at *;omega,by have:=ht.w;simp only at *;omega,Xo,hz⟩,?_⟩
 refine⟨?_,rfl,by rw[NK l6];rfl,rfl⟩
 unfold Q
 rfl)
def CN(n:BL)(a7:Int)(zs:List k9)(se:List BL)(ls:List l5)(gt:Nat)(gw:Nat)(ea:Addr)(w:List Pg):o6 Tryz.prog:=.mk 67 [.ptr (.key 1001) [] gw 0] [(1001,(gw,.agg [.mp (w.map F8),.ptr (.key 1000) [] gt 0])),(1000,(gt,bP n a7 zs se ls)),(9000,(0,.lit (.iface 251 (.pointer (some ea)))))] ((ai w=true)/\(∀ i,m4 (w.getD i l9))/\(M5 (⟨n,a7,zs,se,ls⟩:j6))/\(D1 (⟨n,a7,zs,se,ls⟩:j6)=false)) (.lit (.iface 251 (.pointer (some ea)))) [(1001,(gw,.agg [.mp (w.map F8),.ptr (.key 1000) [] gt 0])),(1000,(gt,bP n a7 zs se ls)),(9000,(0,.lit (.iface 251 (.pointer (some ea)))))] (by
 rintro⟨hw,hz,ht,hg⟩
 refine aB (N:=52) (rs:=[.tmp 2]) Tryz.func67
  (.q 1<|.r 5 [.b9]<|.q 1<|.c (xq n a7 zs se ls gt) [(1000,1000)]<|.q 7<|.oR (.key 1000) [4] (fun gl SF cl=>.r 10 [.b9]<|.br (.r 2 [.b9]<|.nil) (.nil)))
  ((fun v1:Bool=>(fun v2:V=>(True/\Z gw 1/\(xq n a7 zs se ls gt).sm/\Er gt (bP n a7 zs se ls)/\((zs.length<=1000))/\∀ gl SF cl:Nat,Gd (v1==false) True/\Gd (v1==false) (Z gt 4)/\Pk v1 true (v1==false)/\Br (v1||(A8 (((ls.map bf).length:Nat):Int) 400)) (Z 0 0/\Q v2 v2/\Er gw (.agg [.mp (w.map F8),.ptr (.key 1000) [] gt 0])/\Er gt (bP n a7 zs se ls)/\Er 0 v2) (False))) (.lit (.iface 251 (.pointer (some ea))))) (!((jo (⟨n,a7,zs,se,ls⟩:j6)).isSome))) ?_
 refine⟨trivial,rfl,rfl,rfl,by have:=ht.t0.h;have:=ht.t0.s;simp only at *;omega,?_⟩
 intro gl SF cl
 refine⟨fun hG=>trivial,fun hG=>rfl,⟨fun _=>rfl,fun h=>by rw[h] <;> rfl⟩,?_⟩
 refine bI (fun l3=>?_) fun l3=>?_
 refine⟨rfl,?_⟩
 refine⟨?_,rfl,rfl,rfl⟩
 unfold Q
 rfl
 · all_goals exact absurd hg (MU l3))
def z6(w:List Pg):Nat->j6->j6
 | 0,t=>t
 | n+1,t=>if D1 t=true then z6 w n (y8 w t) else t
def Oe(w:List Pg):Nat->j6->Nat
 | 0,_=>0
 | n+1,t=>if D1 t=true then Oe w n (y8 w t)+1 else 0
theorem gV{w:List Pg}{t:j6}(hw:ai w=true)(hz:∀ i,m4 (w.getD i l9))(h:M5 t)(hg:D1 t=true):M5 (y8 w t):=by
 have hx:=eR hg
 have Xo:=h.t0.ha _ (aj (d:=c5) hx.1)
 have hl:t.lk.length<400:=by
  unfold D1 at hg
  rw[Zam,Zbi]at hg
  exact hg.2
 have Ye:=h.t0
 have PZ:∀ y:k9,HS t.se.length y->∀ ls,TS ⟨t.na,n6 t,t.hs.set (j8 t) y,t.se,ls⟩:=fun y hy ls=>by
  refine⟨Ye.s,by rw[List.length_set];exact Ye.h,Ye.sa,fun z hz=>?_⟩
  rcases bg hz with e | hz
  rw[e];exact hy
  exact Ye.ha z hz
 obtain⟨q1,q2,q3,q4,q5,q6,q7⟩:=Xo
 unfold y8
 split
 ·
  have G3:=List.length_pos_iff.2 hx.2.1
  have hit:=q6 _ (aj (d:=j9) G3)
  have hF:HS t.se.length (A6 w (t.hs.getD (j8 t) c5) (n6 t)):=by
   refine⟨q1,q2,q3,q4,?_,fun x hx=>q6 x (List.mem_of_mem_drop hx),q7⟩
   show ((t.hs.getD (j8 t) c5).td.drop 1).length+60<=_
   rw[List.length_drop];omega
  have e:=Be w { t with a7:=n6 t } (j8 t)
  refine⟨?_,by rw[e.1];exact h.n,?_,by rw[e.2];have:=h.w;exact⟨by simp only;omega,hx.2.2.2⟩⟩
  unfold I5
  simp only
  split
  rename_i hc
  refine PZ { A6 w (t.hs.getD (j8 t) c5) (n6 t) with td:=(t.hs.getD (j8 t) c5).td.drop 1++[⟨((t.hs.getD (j8 t) c5).td.getD 0 j9).ad,((t.hs.getD (j8 t) c5).td.getD 0 j9).tr+1⟩] } ⟨q1,q2,q3,q4,?_,fun x hx=>?_,q7⟩ _
  show (_++[_]).length+60<=_
  rw[Zan,List.length_drop,Zbd];omega
  rcases Zav.1 hx with hx | hx
  exact q6 x (List.mem_of_mem_drop hx)
  rw[Zat.1 hx];exact⟨hit.1,hit.2.1,by simp only;omega,by simp only;omega⟩
  split
  rename_i ha
  have ei:ak ((t.hs.getD (j8 t) c5).td.getD 0 j9).ad=aC ((t.hs.getD (j8 t) c5).td.getD 0 j9).ad:=if_pos ha
  exact uD _ (PZ _ hF _) h.n (fun s hs=>sN (b:=oA (aC ((t.hs.getD (j8 t) c5).td.getD 0 j9).ad)) hw hz s hs)
  exact PZ _ hF _
  unfold I5
  simp only
  split
  simp;omega
  split
  rw[(qS _ _).2.2];simp;omega
  simp;omega
 refine⟨PZ _ ?_ _,h.n,by simp[OT];omega,by have:=h.w;exact⟨by show 0<=n6 t;omega,hx.2.2.2⟩⟩
 show HS t.se.length (G' w t.na (t.hs.getD (j8 t) c5) (n6 t))
 unfold G'
 split
 rename_i hc
 exact⟨q1,q2,q3,q4,q5,q6,⟨by simp only;omega,by simp only;omega⟩⟩
 have s1:=qN (ae w (ag (t.hs.getD (j8 t) c5).na) 2).1 (ae w (ag (t.hs.getD (j8 t) c5).na) 2).2 t.na
 have s2:=hY (ae w (ag (t.hs.getD (j8 t) c5).na) 2).1 (ae w (ag (t.hs.getD (j8 t) c5).na) 2).2 t.na
 refine⟨q1,Nat.le_trans s1.1 Zaa,fun i=>sC (p:=fun r:r7=>r.path.length<=1000) (fun r hr=>by have:=s1.2 r hr;omega) Zab i,Nat.le_trans s2 Zaa,?_,fun x hx=>q6 x (List.mem_filter.1 hx).1,q7⟩
 show ((t.hs.getD (j8 t) c5).td.filter _).length+60<=_
 have:=List.length_filter_le (Oq (ba w t.na (t.hs.getD (j8 t) c5).na).ru) (t.hs.getD (j8 t) c5).td
 omega
theorem AV(w:List Pg)(t:j6):(y8 w t).na=t.na:=by
 unfold y8
 split
 exact(Be w _ _).1
 rfl
theorem Kz{w:List Pg} {n:BL} {no:Int} {zz:List k9} {ss:List BL} {ll:List l5} {m:Int} {i:Nat} {t0:j6} (hw:ai w=true) (hz:∀ i,m4 (w.getD i l9)) (hg:D1 ⟨n,no,zz,ss,ll⟩=true) (hi:(i:Int)<m) (h2:M5 ⟨n,no,zz,ss,ll⟩)
 (h3:z6 w m.toNat t0=z6 w (m.toNat-i) ⟨n,no,zz,ss,ll⟩) (h4:Oe w m.toNat t0=i+Oe w (m.toNat-i) ⟨n,no,zz,ss,ll⟩):
 ((i+1:Nat):Int)<=m/\M5 ⟨n,(y8 w ⟨n,no,zz,ss,ll⟩).a7,(y8 w ⟨n,no,zz,ss,ll⟩).hs,(y8 w ⟨n,no,zz,ss,ll⟩).se,(y8 w ⟨n,no,zz,ss,ll⟩).lk⟩/\
   z6 w m.toNat t0=z6 w (m.toNat-(i+1)) ⟨n,(y8 w ⟨n,no,zz,ss,ll⟩).a7,(y8 w ⟨n,no,zz,ss,ll⟩).hs,(y8 w ⟨n,no,zz,ss,ll⟩).se,(y8 w ⟨n,no,zz,ss,ll⟩).lk⟩/\
   Oe w m.toNat t0=i+1+Oe w (m.toNat-(i+1)) ⟨n,(y8 w ⟨n,no,zz,ss,ll⟩).a7,(y8 w ⟨n,no,zz,ss,ll⟩).hs,(y8 w ⟨n,no,zz,ss,ll⟩).se,(y8 w ⟨n,no,zz,ss,ll⟩).lk⟩:=by
 have e:(⟨n,(y8 w ⟨n,no,zz,ss,ll⟩).a7,(y8 w ⟨n,no,zz,ss,ll⟩).hs,(y8 w ⟨n,no,zz,ss,ll⟩).se,(y8 w ⟨n,no,zz,ss,ll⟩).lk⟩:j6)=y8 w ⟨n,no,zz,ss,ll⟩:=by
  have:=AV w ⟨n,no,zz,ss,ll⟩
  generalize y8 w ⟨n,no,zz,ss,ll⟩=q at this ⊢
  cases q;simp only at this;rw[this]
 rw[e]
 have ek:m.toNat-i=(m.toNat-(i+1))+1:=Zaa
 rw[ek]at h3 h4
 simp only[z6,Oe,hg,if_true]at h3 h4
 exact⟨Zaa,gV hw hz h2 hg,h3,Zaa⟩
theorem Ai{w:List Pg}{m i:Nat}{t t0:j6}(hi:m-i=0)(h3:z6 w m t0=z6 w (m-i) t)(h4:Oe w m t0=i+Oe w (m-i) t):z6 w m t0=t/\Oe w m t0=i:=by
 rw[hi]at h3 h4;exact⟨h3,h4⟩
theorem Jc{w:List Pg}{m i:Nat}{t t0:j6}(hg:D1 t=false)(h3:z6 w m t0=z6 w (m-i) t)(h4:Oe w m t0=i+Oe w (m-i) t):z6 w m t0=t/\Oe w m t0=i:=by
 cases hk:m-i with
 | zero=>exact Ai hk h3 h4
 | succ k=>
   rw[hk]at h3 h4
   simp only[z6,Oe,hg,Bool.false_eq_true,if_false]at h3 h4
   exact⟨h3,h4⟩
def uk(n:BL)(a7:Int)(zs:List k9)(se:List BL)(ls:List l5)(gt:Nat)(gw:Nat)(ea:Addr)(w:List Pg)(m:Int):o6 Tryz.prog:=.mk 34 [.ptr (.key 1001) [] gw 0,iV m] [(1001,(gw,.agg [.mp (w.map F8),.ptr (.key 1000) [] gt 0])),(1000,(gt,bP n a7 zs se ls)),(9000,(0,.lit (.iface 251 (.pointer (some ea)))))] ((ai w=true)/\(∀ i,m4 (w.getD i l9))/\(M5 (⟨n,a7,zs,se,ls⟩:j6))/\(0<=m/\m<=1000)) (iN (Oe w m.toNat (⟨n,a7,zs,se,ls⟩:j6))) [(1001,(gw,.agg [.mp (w.map F8),.ptr (.key 1000) [] gt 0])),(1000,(gt,bP n ((z6 w m.toNat (⟨n,a7,zs,se,ls⟩:j6)).a7) ((z6 w m.toNat (⟨n,a7,zs,se,ls⟩:j6)).hs) ((z6 w m.toNat (⟨n,a7,zs,se,ls⟩:j6)).se) ((z6 w m.toNat (⟨n,a7,zs,se,ls⟩:j6)).lk))),(9000,(0,.lit (.iface 251 (.pointer (some ea)))))] (by
 rintro⟨hw,hz,ht,hm⟩
 refine aB (N:=17) (rs:=[.tmp 4]) Tryz.func34
  (.q 1<|.q 2<|.loop (Nat×Int×(List k9)×(List BL)×(List l5)) (fun (i,no,zz,ss,ll)=>⟨[(0,.ptr (.key 1001) [] gw 0),(1,iV m),(6,iV m),(7,iN i)],[(1001,(gw,.agg [.mp (w.map F8),.ptr (.key 1000) [] gt 0])),(1000,(gt,bP n no zz ss ll)),(9000,(0,.lit (.iface 251 (.pointer (some ea)))))]⟩) (fun (i,no,zz,ss,ll)=>(i:Int)<=m/\M5 (⟨n,no,zz,ss,ll⟩:j6)/\z6 w m.toNat (⟨n,a7,zs,se,ls⟩:j6)=z6 w (m.toNat-i) (⟨n,no,zz,ss,ll⟩:j6)/\Oe w m.toNat (⟨n,a7,zs,se,ls⟩:j6)=i+Oe w (m.toNat-i) (⟨n,no,zz,ss,ll⟩:j6)) (fun (i,no,zz,ss,ll)=>m.toNat-i) (fun (i,no,zz,ss,ll)=>.q 1<|.br (.sp (D1 (⟨n,no,zz,ss,ll⟩:j6)) (.q 2<|.dx 3 [0,2,1] [(2,⟨false,[],some [9000],[12],[]⟩),(1,⟨true,[],none,[11],[1000]⟩)] []<|.q 1<|.r 1 [.b9]<|.eu (ZN (FP n no zz ss ll gt gw ea w) [(1001,1001),(1000,1000),(9000,9000)] 1000 gt (bP n ((y8 w (⟨n,no,zz,ss,ll⟩:j6)).a7) ((y8 w (⟨n,no,zz,ss,ll⟩:j6)).hs) ((y8 w (⟨n,no,zz,ss,ll⟩:j6)).se) ((y8 w (⟨n,no,zz,ss,ll⟩:j6)).lk))) (fun _=>.c (AK ea) []<|.br (.nil) (.q 2<|.nil))) (.q 2<|.dx 3 [0,2,1] [(2,⟨false,[],some [9000],[12],[]⟩),(1,⟨true,[],none,[11],[1000]⟩)] []<|.q 1<|.r 1 [.b9]<|.eu (ZN (CN n no zz ss ll gt gw ea w) [(1001,1001),(1000,1000),(9000,9000)] 1000 gt (bP n no zz ss ll)) (fun _=>.c (De ea) []<|.br (.q 2<|.nil) (.nil)))) (.q 2<|.nil)))
  ((fun v1:j6=>(fun v2:V=>(fun v3:V=>((∃ x:Nat×Int×(List k9)×(List BL)×(List l5),match x with | (j7,RD,PB,PH,RF)=>((j7:Int)<=m/\M5 (⟨n,RD,PB,PH,RF⟩:j6)/\z6 w m.toNat (⟨n,a7,zs,se,ls⟩:j6)=z6 w (m.toNat-j7) (⟨n,RD,PB,PH,RF⟩:j6)/\Oe w m.toNat (⟨n,a7,zs,se,ls⟩:j6)=j7+Oe w (m.toNat-j7) (⟨n,RD,PB,PH,RF⟩:j6))/\E (.ptr (.key 1001) [] gw 0)/\E (iV m)/\E (iV m)/\Q (iN 0) (iN j7)/\Er gw v2/\Qr gt (bP n a7 zs se ls) gt (bP n RD PB PH RF)/\Er 0 v3/\True)/\∀ x:Nat×Int×(List k9)×(List BL)×(List l5),match x with | (i,no,zz,ss,ll)=>((i:Int)<=m/\M5 (⟨n,no,zz,ss,ll⟩:j6)/\z6 w m.toNat (⟨n,a7,zs,se,ls⟩:j6)=z6 w (m.toNat-i) (⟨n,no,zz,ss,ll⟩:j6)/\Oe w m.toNat (⟨n,a7,zs,se,ls⟩:j6)=i+Oe w (m.toNat-i) (⟨n,no,zz,ss,ll⟩:j6))->(fun v4:j6=>(fun v5:V=>Br (r8 (i:Int) m) (((D1 (⟨n,no,zz,ss,ll⟩:j6))=true->Z 0 0/\((FP n no zz ss ll gt gw ea w).sm/\Er gw v2/\Er gt v5/\Er 0 v3/\(((ai w=true)/\(∀ i,m4 (w.getD i l9))/\(M5 (⟨n,no,zz,ss,ll⟩:j6))/\(D1 (⟨n,no,zz,ss,ll⟩:j6)=true))/\(((gw,.agg [.mp (w.map F8),.ptr (.key 1000) [] gt 0]):Nat×V)=(gw,.agg [.mp (w.map F8),.ptr (.key 1000) [] gt 0]))/\(((gt,bP n (v4.a7) (v4.hs) (v4.se) (v4.lk)):Nat×V)=(gt,bP n (v4.a7) (v4.hs) (v4.se) (v4.lk)))/\(((0,.lit (.iface 251 (.pointer (some ea)))):Nat×V)=(0,.lit (.iface 251 (.pointer (some ea)))))/\True))/\∀ _:Unit,(AK ea).sm/\(True)/\Br false (False) (m8 ((i:Int)+1)/\∃ x:Nat×Int×(List k9)×(List BL)×(List l5),match x with | (c9,RC,PA,PG,RE)=>((c9:Int)<=m/\M5 (⟨n,RC,PA,PG,RE⟩:j6)/\z6 w m.toNat (⟨n,a7,zs,se,ls⟩:j6)=z6 w (m.toNat-c9) (⟨n,RC,PA,PG,RE⟩:j6)/\Oe w m.toNat (⟨n,a7,zs,se,ls⟩:j6)=c9+Oe w (m.toNat-c9) (⟨n,RC,PA,PG,RE⟩:j6))/\(m.toNat-c9<m.toNat-i)/\E (.ptr (.key 1001) [] gw 0)/\E (iV m)/\E (iV m)/\Q (iN (i+1)) (iN c9)/\Er gw v2/\Qr gt (bP n (v4.a7) (v4.hs) (v4.se) (v4.lk)) gt (bP n RC PA PG RE)/\Er 0 v3/\True))/\((D1 (⟨n,no,zz,ss,ll⟩:j6))=false->Z 0 0/\((CN n no zz ss ll gt gw ea w).sm/\Er gw v2/\Er gt v5/\Er 0 v3/\(((ai w=true)/\(∀ i,m4 (w.getD i l9))/\(M5 (⟨n,no,zz,ss,ll⟩:j6))/\(D1 (⟨n,no,zz,ss,ll⟩:j6)=false))/\(((gw,.agg [.mp (w.map F8),.ptr (.key 1000) [] gt 0]):Nat×V)=(gw,.agg [.mp (w.map F8),.ptr (.key 1000) [] gt 0]))/\(((gt,bP n no zz ss ll):Nat×V)=(gt,bP n no zz ss ll))/\(((0,.lit (.iface 251 (.pointer (some ea)))):Nat×V)=(0,.lit (.iface 251 (.pointer (some ea)))))/\True))/\∀ _:Unit,(De ea).sm/\(True)/\Br true (Q (iN i) (iN (Oe w m.toNat (⟨n,a7,zs,se,ls⟩:j6)))/\Er gw v2/\Qr gt v5 gt (bP n (v1.a7) (v1.hs) (v1.se) (v1.lk))/\Er 0 v3) (False))) (Q (iV m) (iN (Oe w m.toNat (⟨n,a7,zs,se,ls⟩:j6)))/\Er gw v2/\Qr gt v5 gt (bP n (v1.a7) (v1.hs) (v1.se) (v1.lk))/\Er 0 v3)) (bP n no zz ss ll)) (y8 w (⟨n,no,zz,ss,ll⟩:j6)))) (.lit (.iface 251 (.pointer (some ea))))) (.agg [.mp (w.map F8),.ptr (.key 1000) [] gt 0])) (z6 w m.toNat (⟨n,a7,zs,se,ls⟩:j6))) ?_
 refine⟨⟨(0,a7,zs,se,ls),?_,rfl,rfl,rfl,rfl,rfl,rfl,rfl,trivial⟩,?_⟩
 exact⟨Zaa,ht,rfl,Zab⟩
 rintro⟨i,no,zz,ss,ll⟩ ⟨h1,h2,h3,h4⟩
 refine bI (fun l3=>?_) fun l3=>?_
 · refine⟨fun Pe=>?_,fun Pe=>?_⟩
   · have SW:=Pe
     try simp only[nb]at SW
     refine⟨rfl,⟨rfl,rfl,rfl,rfl,⟨⟨hw,hz,h2,Pe⟩,rfl,rfl,rfl,trivial⟩⟩,?_⟩
     intro _
     refine⟨rfl,trivial,?_⟩
     refine bI (fun l6=>?_) fun l6=>?_
     · all_goals (first | exact absurd l6 Zad | simp_all)
     refine⟨Zaa,?_⟩
     refine⟨(i+1,(y8 w (⟨n,no,zz,ss,ll⟩:j6)).a7,(y8 w (⟨n,no,zz,ss,ll⟩:j6)).hs,(y8 w (⟨n,no,zz,ss,ll⟩:j6)).se,(y8 w (⟨n,no,zz,ss,ll⟩:j6)).lk),?_,?_,rfl,rfl,rfl,rfl,rfl,rfl,rfl,trivial⟩
     exact Kz hw hz Pe Zaa h2 h3 h4
     exact Zai
   · have SW:=Pe
     try simp only[nb]at SW
     refine⟨rfl,⟨rfl,rfl,rfl,rfl,⟨⟨hw,hz,h2,Pe⟩,rfl,rfl,rfl,trivial⟩⟩,?_⟩
     intro _
     refine⟨rfl,trivial,?_⟩
     refine bI (fun n0=>?_) fun n0=>?_
     refine⟨?_,rfl,by rw[(Jc Pe h3 h4).1],rfl⟩
     unfold Q
     rw[(Jc Pe h3 h4).2]
     · all_goals (first | exact absurd n0 Zad | simp_all)
 refine⟨?_,rfl,by rw[(Ai Zaa h3 h4).1],rfl⟩
 unfold Q
 rw[(Ai Zaa h3 h4).2]
 refine Zbk iV ?_;omega)
def aR(w:List Pg)(t:j6)(m:Int):Option j6:=if x4 m 0 400=true/\(ai w&&ax t)=true then some (z6 w m.toNat t) else none
theorem jC{t:j6}(ht:r5 t)(hh:t.hs.length<=900)(hk:ax t=true):M5 t:=by
 unfold ax at hk
 simp only[Zam,Za0,Zbi]at hk
 obtain⟨⟨⟨⟨⟨k1,k2⟩,k3⟩,k4⟩,k5⟩,k6⟩:=hk
 have ks:t.se.length<=60:=by
  unfold dk at k3
  simp only[Zam,Zbi]at k3
  exact k3.1.1
 have kl:t.lk.length<=400:=by
  unfold cH at k4
  simp only[Zam,Zbi]at k4
  exact k4.1
 refine⟨⟨ks,Zaa,ht.sa,fun y hy=>?_⟩,ht.n,kl,of_decide_eq_true k2⟩
 have hz:=ht.ha y hy
 obtain⟨a1,a2⟩:=k5 y hy
 unfold dr at a1
 unfold dg at a2
 simp only[Zam,Za0,Zbi]at a1 a2
 obtain⟨⟨⟨⟨b1,b2⟩,b3⟩,b4⟩,b5⟩:=a1
 obtain⟨⟨c1,c2⟩,c3⟩:=a2
 have b3:=of_decide_eq_true b3
 refine⟨hz.n,hz.r,hz.rp,?_,Zaa,fun x hx=>?_,Zaa⟩
 split at b5
 simp only[Zam,Zbi]at b5
 have:=of_decide_eq_true b5.2
 omega
 rw[Zbi]at b5
 rw[b5.2];omega
 have d1:=hz.ta x hx
 have d2:=of_decide_eq_true (c2 x hx).2
 exact⟨d1.1,d1.2,Zaa,Zaa⟩
theorem FY(w:List Pg):∀ (k:Nat) (t:j6),(z6 w k t).na=t.na
 | 0,_=>rfl
 | k+1,t=>by
   unfold z6
   split
   rw[FY w k,AV]
   rfl
theorem NG{m:Int}(h:x4 m 0 400=true):0<=m/\m<=400:=of_decide_eq_true h
theorem Ls{w:List Pg}{t:j6}{m:Int}(h:x4 m 0 400=false):aR w t m=none:=if_neg fun c=>by rw[h]at c;exact absurd c.1 Zad
theorem pf{w:List Pg}{t:j6}{m:Int}(h:x4 m 0 400=true)(h1:ai w=true)(h2:ax t=true):aR w t m=some (z6 w m.toNat t):=if_pos ⟨h,by rw[h1,h2];rfl⟩
theorem LN{w:List Pg}{t:j6}{m:Int}(h:(ai w&&ax t)=false):aR w t m=none:=if_neg fun c=>by rw[h]at c;exact absurd c.2 Zad
abbrev ka(w:List Pg)(t:j6)(m:Int)(ea:Addr):V:=.tup [bP ((oT (aR w t m)).na) ((oT (aR w t m)).a7) ((oT (aR w t m)).hs) ((oT (aR w t m)).se) ((oT (aR w t m)).lk),bV ((aR w t m).isSome)]
def pJ(w:List Pg)(t:j6)(m:Int)(ea:Addr):o6 Tryz.prog:=.mk 16 [cC w,bF t.na t.a7 t.hs t.se t.lk,iV m] [(9000,(0,.lit (.iface 251 (.pointer (some ea)))))] ((w.length<=30)/\(∀ i,m4 (w.getD i l9))/\(r5 t)/\(t.hs.length<=900)) (ka w t m ea) [(9000,(0,.lit (.iface 251 (.pointer (some ea)))))] (by
 rintro⟨hw,hz,ht,hh⟩
 refine aB (N:=32) (rs:=[.cell 6 30,.tmp 7]) Tryz.func16
  (.bx (fun g4=>.al fo (fun g6=>.q 1<|.q 1<|.c (dU (0:Int) m (400:Int)) []<|.q 1<|.br (.bd fo<|.st none<|.q 1<|.h (.B3 (.key 6) [2] 8)<|.h (.B3 (.key 6) [3] 1)<|.h (.B3 (.key 6) [4] 3)<|.nil) (.r 2 [.b9]<|.sp (ai w&&ax t) (.cx (nD w t) [(1001,17),(1000,3017)] (fun (L9:Nat×Nat)=>.q 5<|.q 2<|.br (.nil) (.q 2<|.c (uk t.na t.a7 t.hs t.se t.lk L9.2 L9.1 ea w m) [(1001,17),(1000,3017),(9000,9000)]<|.r 5 [.b9]<|.mv<|.st none<|.q 1<|.nil))) (.c (ma w t) []<|.q 5<|.q 2<|.br (.bd fo<|.st none<|.q 1<|.h (.B3 (.key 6) [2] 8)<|.h (.B3 (.key 6) [3] 1)<|.h (.B3 (.key 6) [4] 3)<|.nil) (.nil))))))
  ((fun v1:j6=>(fun v2:V=>(fun v3:V=>(∀ g4:Nat,∀ g6:Nat,(dU (0:Int) m (400:Int)).sm/\(True)/\Br (!(x4 m (0:Int) (400:Int))) (Z g6 0/\(g6=g6)/\Q v3 (ka w t m ea)/\Er 0 v2) (Z g4 0/\((ai w&&ax t)=true->(nD w t).sm/\((w.length<=30)/\(∀ i,m4 (w.getD i l9))/\(r5 t)/\(ai w=true)/\(ax t=true))/\∀ L9:Nat×Nat,(True)->Br (!true) (False) ((uk t.na t.a7 t.hs t.se t.lk L9.2 L9.1 ea w m).sm/\Er L9.1 (.agg [.mp (w.map F8),.ptr (.key 1000) [] L9.2 0])/\Er L9.2 (bP t.na t.a7 t.hs t.se t.lk)/\Er 0 v2/\((ai w=true)/\(∀ i,m4 (w.getD i l9))/\(M5 (⟨t.na,t.a7,t.hs,t.se,t.lk⟩:j6))/\(0<=m/\m<=1000))/\True/\Z L9.1 1/\True/\Z L9.2 0/\Z g6 0/\(g6=g6)/\Q (.tup [bP t.na (v1.a7) (v1.hs) (v1.se) (v1.lk),bV true]) (ka w t m ea)/\Er 0 v2))/\((ai w&&ax t)=false->(ma w t).sm/\((w.length<=30)/\(∀ i,m4 (w.getD i l9))/\(r5 t)/\((ai w&&ax t)=false))/\Br (!false) (Z g6 0/\(g6=g6)/\Q v3 (ka w t m ea)/\Er 0 v2) (False))))) (.tup [.agg [sV [],iN 0,.ow 8 ([].map aL),.ow 1 ([].map sV),.ow 3 ([].map bf)],bV false])) (.lit (.iface 251 (.pointer (some ea))))) (z6 w m.toNat (⟨t.na,t.a7,t.hs,t.se,t.lk⟩:j6))) ?_
 intro g4
 intro g6
 refine⟨rfl,trivial,?_⟩
 refine bI (fun l3=>?_) fun l3=>?_
 refine⟨rfl,?_⟩
 refine⟨rfl,?_,rfl⟩
 unfold Q ka
 rw[Ls l3];rfl
 · refine⟨rfl,?_⟩
   refine⟨fun QU=>?_,fun QU=>?_⟩
   · have OH:=QU
     try simp only[nb]at OH
     refine⟨rfl,⟨hw,hz,ht,OH.1,OH.2⟩,?_⟩
     intro L9 RH
     refine bI (fun l6=>?_) fun l6=>?_
     · all_goals (first | exact absurd l6 Zad | simp_all)
     refine⟨rfl,rfl,rfl,rfl,⟨OH.1,hz,jC ht hh OH.2,by have:=NG l3;omega⟩,trivial,rfl,trivial,rfl,rfl,?_⟩
     refine⟨rfl,?_,rfl⟩
     unfold Q ka
     rw[pf (by simpa using l3) OH.1 OH.2]
     exact Zbk (fun s:BL=>V.tup [V.agg [sV s,iV (z6 w m.toNat t).a7,V.ow 8 ((z6 w m.toNat t).hs.map aL),V.ow 1 ((z6 w m.toNat t).se.map sV),V.ow 3 ((z6 w m.toNat t).lk.map bf)],bV true]) (FY w m.toNat t).symm
   · have OH:=QU
     try simp only[nb]at OH
     refine⟨rfl,⟨hw,hz,ht,QU⟩,?_⟩
     refine bI (fun n0=>?_) fun n0=>?_
     refine⟨rfl,?_⟩
     refine⟨rfl,?_,rfl⟩
     unfold Q ka
     rw[LN QU];rfl
     · all_goals (first | exact absurd n0 Zad | simp_all))
theorem jy:∀ l:List k9,V.C8 (l.map aL)=l.map bw
 | []=>rfl
 | y::l=>by
   simp only[Zbc,V.C8,jy l]
   rw[show (aL y).er=bw y from by
    show V.agg (V.C8 [sV y.na,iV y.re,bV y.kn,cq y.gr,iV y.tr,.ow 2 (y.td.map ar)])=_
    simp only[V.C8,V.er]
    rw[aT (f:=ar) (fun _=>rfl)]]
theorem oW{n:BL}{seeds:List BL}(hl:seeds.length<=400):(oT (aw n seeds)).hs.length<=900:=by
 unfold aw
 split
 have:=(lE n seeds (lQ n)).hl
 show (seeds.foldl ah (aG n)).hs.length<=900
 omega
 simp[oT]
theorem px{n:BL}{seeds:List BL}(hn:n.length<=1000)(hl:seeds.length<=400)(ha:∀ x,x∈seeds->x.length<=1000/\l8 x):r5 (oT (aw n seeds)):=by
 unfold aw
 split
 have h1:=lE n seeds (lQ n)
 have h2:TS (seeds.foldl ah (aG n)):=uD seeds ⟨by simp[aG],by simp[aG],by simp[aG],by simp[aG]⟩ hn (fun s hs=>⟨(ha s hs).1,(ha s hs).2,(lr s).1⟩)
 show r5 (seeds.foldl ah (aG n))
 refine⟨by rw[h1.na];exact hn,by have:=h2.h;have:=h2.s;omega,by have:=h2.s;omega,by rw[h1.lk];simp,h2.sa,by rw[h1.lk];simp,fun y hy=>?_⟩
 have q:=h2.ha y hy
 have e:=(h1.hs y hy).2.1
 have:=h2.s
 exact⟨q.n,q.r,q.rp,by rw[e];simp,by have:=q.t;omega,fun x hx=>⟨(q.ta x hx).1,(q.ta x hx).2.1⟩⟩
 exact⟨by simp[oT],by simp[oT],by simp[oT],by simp[oT],by simp[oT],by simp[oT],by simp[oT]⟩
abbrev vK(w:List Pg)(n:BL)(seeds:List BL)(m:Int)(ea:Addr):V:=.tup [bP ((oT (aR w (oT (aw n seeds)) m)).na) ((oT (aR w (oT (aw n seeds)) m)).a7) ((oT (aR w (oT (aw n seeds)) m)).hs) ((oT (aR w (oT (aw n seeds)) m)).se) ((oT (aR w (oT (aw n seeds)) m)).lk),bV ((aw n seeds).isSome&&(aR w (oT (aw n seeds)) m).isSome)]
def gB(w:List Pg)(n:BL)(seeds:List BL)(m:Int)(ea:Addr):o6 Tryz.prog:=.mk 9 [cC w,sV n,ao seeds,iV m] [(9000,(0,.lit (.iface 251 (.pointer (some ea)))))] ((w.length<=30)/\(∀ i,m4 (w.getD i l9))/\(n.length<=1000)/\(seeds.length<=400)/\(∀ x,x∈seeds->x.length<=1000/\l8 x)) (vK w n seeds m ea) [(9000,(0,.lit (.iface 251 (.pointer (some ea)))))] (by
 rintro⟨hw,hz,hn,hl,ha⟩
 refine aB (N:=32) (rs:=[.cell 8 30,.tmp 9]) Tryz.func9
  (.al fo (fun g8=>.q 1<|.q 2<|.c (yy n seeds) []<|.mv<|.mv<|.q 1<|.al fo (fun g10=>.st none<|.q 1<|.q 1<|.mv<|.h (.fz 22)<|.h (.n8 22 (bF ((oT (aw n seeds)).na) ((oT (aw n seeds)).a7) ((oT (aw n seeds)).hs) ((oT (aw n seeds)).se) ((oT (aw n seeds)).lk)))<|.q 1<|.c (pJ w (oT (aw n seeds)) m ea) [(9000,9000)]<|.mv<|.mv<|.q 1<|.al fo (fun g12=>.st none<|.q 1<|.mv<|.q 4<|.st none<|.q 1<|.nil))))
  ((fun v1:j6=>(fun v2:j6=>(∀ g8:Nat,(yy n seeds).sm/\((n.length<=1000)/\(seeds.length<=1000)/\(∀ x,x∈seeds->x.length<=1000/\l8 x))/\∀ g10:Nat,Z g10 0/\Z g10 0/\((.agg [sV (v1.na),iV (v1.a7),.sl false (V.C8 ((v1.hs).map aL)),.sl false (V.C8 ((v1.se).map sV)),.sl false (V.C8 ((v1.lk).map bf))]:V)=bF (v1.na) (v1.a7) (v1.hs) (v1.se) (v1.lk))/\(pJ w v1 m ea).sm/\Er 0 (.lit (.iface 251 (.pointer (some ea))))/\((w.length<=30)/\(∀ i,m4 (w.getD i l9))/\(r5 v1)/\(v1.hs.length<=900))/\∀ g12:Nat,Z g12 0/\Z g12 0/\Pk ((aw n seeds).isSome) (((aw n seeds).isSome)==true) true/\Z g8 0/\(g8=g8)/\Q (.tup [bP (v2.na) (v2.a7) (v2.hs) (v2.se) (v2.lk),bV (((aw n seeds).isSome)&&((aR w v1 m).isSome))]) (vK w n seeds m ea)/\Er 0 (.lit (.iface 251 (.pointer (some ea)))))) (oT (aR w v1 m))) (oT (aw n seeds))) ?_
 intro g8
 refine⟨rfl,⟨hn,Zaa,ha⟩,?_⟩
 intro g10
 refine⟨rfl,rfl,by rw[jy,aT (f:=sV) (fun _=>rfl),aT (f:=bf) (fun _=>rfl)],rfl,rfl,⟨hw,hz,px hn hl ha,oW hl⟩,?_⟩
 intro g12
 refine⟨rfl,rfl,⟨fun h=>by rw[h] <;> rfl,fun _=>rfl⟩,rfl,?_⟩
 refine⟨rfl,?_,rfl⟩
 unfold Q vK
 rfl)
def jk(zs:List k9)(d:BL):Int:=if o8 zs d<zs.length then ((o8 zs d:Nat):Int) else -1
theorem KV{zs:List k9}{d:BL}{i:Nat}(hi:i<zs.length)(e:(zs.getD i c5).na=d)(h:∀ j,j<i->((zs.getD j c5).na==d)=false):jk zs d=i:=by
 unfold jk;rw[wo hi e h,if_pos hi]
theorem KL{zs:List k9}{d:BL}(h:∀ j,j<zs.length->((zs.getD j c5).na==d)=false):jk zs d= -1:=by
 unfold jk;rw[vR h,if_neg Zaa]
def wq(n:BL)(a7:Int)(zs:List k9)(se:List BL)(ls:List l5)(gt:Nat)(g:Nat)(o:Nat)(c:Nat)(d:BL):o6 Tryz.prog:=.mk 82 [.agg [sV n,iV a7,.hd (.key 1000) [2] 8 g o 0 ((zs.map aL).length) c,.b9,.b9],sV d] [(1000,(gt,ck n a7 zs g o c se ls))] (zs.length<=1000) (iV (jk zs d)) [(1000,(gt,ck n a7 zs g o c se ls))] (by
 intro hl
 refine aB (N:=22) (rs:=[.tmp 4]) Tryz.func82
  (.bx (fun g2=>.q 1<|.q 1<|.loop (Nat) (fun (i:Nat)=>⟨[(1,sV d),(2,.ptr (.key 2) [] g2 0),(5,iN i)],[(2,(g2,.agg [sV n,iV a7,.hd (.key 1000) [2] 8 g o 0 ((zs.map aL).length) c,.b9,.b9])),(1000,(gt,ck n a7 zs g o c se ls))]⟩) (fun (i:Nat)=>i<=zs.length/\∀ j,j<i->((zs.getD j c5).na==d)=false) (fun (i:Nat)=>zs.length-i) (fun (i:Nat)=>.r 5 [.b9]<|.br (.r 8 [.b9,sV ((zs.getD i c5).na)]<|.br (.q 2<|.nil) (.q 3<|.nil)) (.q 1<|.nil))))
  ((fun v1:V=>(fun v2:V=>(∀ g2:Nat,(∃ j7:Nat,(j7<=zs.length/\∀ j,j<j7->((zs.getD j c5).na==d)=false)/\E (sV d)/\E (.ptr (.key 2) [] g2 0)/\Q (iN 0) (iN j7)/\Er g2 v2/\Er gt v1/\True)/\∀ i:Nat,(i<=zs.length/\∀ j,j<i->((zs.getD j c5).na==d)=false)->Z g2 2/\Br (r8 (i:Int) (((zs.map aL).length:Nat):Int)) (Z g2 2/\In (i:Int) ((zs.map aL).length)/\(V.at gt 0 v1 [2,0+i,0]=some (g,(o+(0+i)*8+0),sV ((zs.getD i c5).na)))/\Br (((zs.getD i c5).na)==d) (Q (iN i) (iV (jk zs d))/\Er gt v1) (m8 ((i:Int)+1)/\∃ c9:Nat,(c9<=zs.length/\∀ j,j<c9->((zs.getD j c5).na==d)=false)/\(zs.length-c9<zs.length-i)/\E (sV d)/\E (.ptr (.key 2) [] g2 0)/\Q (iN (i+1)) (iN c9)/\Er g2 v2/\Er gt v1/\True)) (Q (iV (-1)) (iV (jk zs d))/\Er gt v1))) (.agg [sV n,iV a7,.hd (.key 1000) [2] 8 g o 0 ((zs.map aL).length) c,.b9,.b9])) (ck n a7 zs g o c se ls)) ?_
 intro g2
 refine⟨⟨0,?_,rfl,rfl,rfl,rfl,rfl,trivial⟩,?_⟩
 simp
 rintro i ⟨h1,h2⟩
 refine⟨rfl,?_⟩
 refine bI (fun l3=>?_) fun l3=>?_
 refine⟨rfl,Zah,(bj (f:=2) rfl).trans (aS (by rw[Zau];exact aq (d:=c5) Zaa) rfl),?_⟩
 refine bI (fun l6=>?_) fun l6=>?_
 refine⟨?_,rfl⟩
 unfold Q
 rw[KV Zaa l6 h2]
 refine⟨Zaa,?_⟩
 refine⟨i+1,?_,?_,rfl,rfl,rfl,rfl,rfl,trivial⟩
 exact⟨Zaa,bJ h2 (by simpa using l6)⟩
 exact Zai
 refine⟨?_,rfl⟩
 unfold Q
 rw[KL (fun j hj=>h2 j Zaa)])
abbrev NT(p0:BL)(p1:Int)(p2:Bool)(p3:List BL)(p4:List r7)(p5:Nat)(p6:Int)(p7:List w5)(p8:Nat)(p9:Nat)(RU:Nat):V:=.agg [sV p0,iV p1,bV p2,.agg [.sl false (p3.map sV),.sl false (p4.map aD),iN p5],iV p6,.own 2 (p7.map ar) p8 p9 RU]
theorem zK{zs:List k9}{d:BL}(h:0<=jk zs d):o8 zs d<zs.length:=by
 unfold jk at h
 split at h
 assumption
 omega
theorem Nu{se:List BL}{a:BL}(h:(aC a).isSome=false\/60<=(se.length:Int)): ¬ de se a:=fun c=>by
 rcases h with e | e
 have:=c.1;unfold aA at this;rw[e]at this;cases this
 have:=c.2.1;omega
theorem Ll{se:List BL}{a:BL}{i:Nat}(h:∀ j,j<i->((se.getD j [])==a)=false)(hi:se.length<=i):a ∉ se:=fun hm=>by
 obtain⟨j,hj,e⟩:=Zbe.1 hm
 have:=h j Zaa
 rw[Zak,Zar hj]at this
 simp[e]at this
theorem Lu{zs:List k9}{n a:BL}{se:List BL}(hr:de se a)(h:((au zs (ab a) n).getD (o8 zs (ab a)) c5).kn=false):aN n zs se a=(au zs (ab a) n).set (o8 zs (ab a)) { (au zs (ab a) n).getD (o8 zs (ab a)) c5 with td:=((au zs (ab a) n).getD (o8 zs (ab a)) c5).td++[⟨a,0⟩] }:=by
 unfold aN
 rw[if_pos hr]
 unfold aX
 rw[if_neg (fun c=>by rw[h]at c;cases c.1)]
theorem lh3{zs:List k9}{n a:BL}{se:List BL}(hr:de se a)(h:jk zs (oA (aC a)).b7<0):aN n zs se a=(zs++[(bq (oA (aC a)).b7 n)]).set zs.length { (zs++[(bq (oA (aC a)).b7 n)]).getD zs.length c5 with td:=((zs++[(bq (oA (aC a)).b7 n)]).getD zs.length c5).td++[⟨a,0⟩] }:=by
 have e1:au zs (ab a) n=zs++[bq (oA (aC a)).b7 n]:=by
  unfold au jk at *
  split at h
  omega
  rw[if_neg (by assumption)];rfl
 have e2:o8 zs (ab a)=zs.length:=by
  have:=List.findIdx_le_length (p:=fun h:k9=>h.na==(oA (aC a)).b7) (xs:=zs)
  unfold jk at h
  split at h
  omega
  rename_i c;show o8 zs (oA (aC a)).b7=_;unfold o8 at *;omega
 rw[Lu hr (by rw[e1,e2];simp[bq]),e1,e2]
theorem lh4{zs:List k9}{n a:BL}{se:List BL}(hr:de se a)(h:0<=jk zs (oA (aC a)).b7)(hk:(zs.getD (o8 zs (oA (aC a)).b7) c5).kn=false):aN n zs se a=zs.set (o8 zs (oA (aC a)).b7) { zs.getD (o8 zs (oA (aC a)).b7) c5 with td:=(zs.getD (o8 zs (oA (aC a)).b7) c5).td++[⟨a,0⟩] }:=by
 have hl:o8 zs (ab a)<zs.length:=zK h
 have e1:au zs (ab a) n=zs:=by unfold au;rw[if_pos hl]
 rw[Lu hr (by rw[e1];exact hk),e1]
 rfl
theorem Dn{zs:List k9}{d:BL}(h:0<=jk zs d):iV (jk zs d)=iV ((o8 zs d:Nat):Int):=by
 unfold jk at h ⊢
 split at h
 rename_i c;rw[if_pos c]
 omega
abbrev kb(n:BL)(a7:Int)(zs:List k9)(se:List BL)(ls:List l5)(a:BL):V:=bP n a7 (aN n zs se a) (bT se a) ls
def yZ(n:BL)(a7:Int)(zs:List k9)(se:List BL)(ls:List l5)(a:BL):o6 Tryz.prog:=.mk 50 [bP n a7 zs se ls,sV a] [] ((zs.length<=1000)/\(se.length<=1000)/\(a.length<=1000)/\(aA a=true)/\(∀ y,y∈zs->y.td.length<=1000/\y.kn=false)) (kb n a7 zs se ls a) [] (by
 rintro⟨hl,OX,ha,hk,hg⟩
 refine aB (N:=83) (rs:=[.cell 4 30]) Tryz.func50
  (.cu bmC (fun g2=>.al fo (fun g4=>.oR (.key 2) [3] (fun gs os cs=>.oR (.key 2) [2] (fun g o c=>.q 1<|.loop (Nat) (fun (i:Nat)=>⟨[(1,sV a),(2,.ptr (.key 2) [] g2 0),(4,.ptr (.key 4) [] g4 0),(5,iN i)],[(2,(g2,.agg [sV n,iV a7,.own 8 (zs.map aL) g o c,.own 1 (se.map sV) gs os cs,.ow 3 (ls.map bf)])),(4,(g4,.agg [sV [],iN 0,.sl true [],.sl true [],.sl true []]))]⟩) (fun (i:Nat)=>i<=se.length/\∀ j,j<i->((se.getD j [])==a)=false) (fun (i:Nat)=>se.length-i) (fun (i:Nat)=>.r 5 [.b9]<|.br (.r 7 [.b9,sV (se.getD i [])]<|.br (.mv<|.st none<|.nil) (.q 3<|.nil)) (.q 1<|.c (oH a) []<|.q 3<|.al dw (fun g6=>.st none<|.q 1<|.r 8 [.b9]<|.br (.mv<|.st none<|.nil) (.r 3 [.b9]<|.bs<|.ap (fun WS Wn WX=>.h (.n8 42 (.own 1 ((se++[a]).map sV) WS Wn WX))<|.q 1<|.st none<|.r 3 [.b9,.b9]<|.c (wq n a7 zs (se++[a]) ls g2 g o c ((oA (aC a)).b7)) [(1000,2)]<|.q 1<|.q 2<|.join ((List k9×Nat)×Nat×Nat×Nat) (fun x=>⟨[(1,sV a),(2,.ptr (.key 2) [] g2 0),(4,.ptr (.key 4) [] g4 0),(8,iN x.1.2)],[(2,(g2,ck n a7 x.1.1 x.2.1 x.2.2.1 x.2.2.2 (se++[a]) ls)),(4,(g4,.agg [sV [],iN 0,.sl true [],.sl true [],.sl true []]))]⟩) (fun x=>x.1.2<x.1.1.length/\(x.1.1.getD x.1.2 c5).td.length<=1000/\aN n zs se a=x.1.1.set x.1.2 { x.1.1.getD x.1.2 c5 with td:=(x.1.1.getD x.1.2 c5).td++[⟨a,0⟩] }) (.r 6 [.b9,.b9,.b9]<|.bs<|.bs<|.bd lp<|.bd AY<|.bs<|.ap (fun Pl O' P9=>.h (.n8 61 (.own 8 (zs.map aL++[(.agg [sV ((oA (aC a)).b7),iN 0,bV false,.agg [.sl true [sV n],.sl true [],iN 0],iN 0,.sl true []]:V)]) Pl O' P9))<|.h (.RA (.slot 61) [zs.length,5] Pl (O'+(zs.length)*8+7) 2)<|.h (.n8 61 (.own 8 (zs.map aL++[(.agg [sV ((oA (aC a)).b7),iN 0,bV false,.agg [.sl true [sV n],.sl true [],iN 0],iN 0,.own 2 ([].map ar) 0 0 0]:V)]) Pl O' P9))<|.h (.Rz (.slot 61) [zs.length] Pl (O'+(zs.length)*8) (.agg [sV ((oA (aC a)).b7),iN 0,bV false,.agg [.sl true [sV n],.sl true [],iN 0],iN 0,.own 2 ([].map ar) 0 0 0]) (.agg [sV ((oA (aC a)).b7),iV 0,bV false,.agg [.sl false ([n].map sV),.sl false ([].map aD),iN 0],iV 0,.ow 2 ([].map ar)]))<|.h (.n8 61 (.own 8 (zs.map aL++[(.agg [sV ((oA (aC a)).b7),iV 0,bV false,.agg [.sl false ([n].map sV),.sl false ([].map aD),iN 0],iV 0,.ow 2 ([].map ar)]:V)]) Pl O' P9))<|.h (.n8 61 (.own 8 ((zs++[(bq (oA (aC a)).b7 n)]).map aL) Pl O' P9))<|.q 1<|.st none<|.r 4 [.b9]<|.h (.n8 66 (iN zs.length))<|.q 1<|.nil)) (.h (.n8 47 (iN (o8 zs (oA (aC a)).b7)))<|.h (.n8 8 (iN (o8 zs (oA (aC a)).b7)))<|.h (.n8 48 (iN (o8 zs (oA (aC a)).b7)))<|.nil) (fun x=>.ex (k9) (fun y=>(x.1.1.getD x.1.2 c5)=y) (fun (y:k9)=>.h (.C7 2 (dA n a7 x.1.1 x.1.2 y.na y.re y.kn y.gr.na y.gr.ru y.gr.wa y.tr y.td x.2.1 x.2.2.1 x.2.2.2 (se++[a]) ls))<|.Sa (.key 2) [2,x.1.2,5] x.2.1 (x.2.2.1+(x.1.2)*8+7) 2 (y.td.map ar) (fun ga RW ca=>.h (.C7 2 (bQ n a7 x.1.1 x.1.2 y.na y.re y.kn y.gr.na y.gr.ru y.gr.wa y.tr y.td ga RW ca x.2.1 x.2.2.1 x.2.2.2 (se++[a]) ls))<|.dx 13 [0,1,2,3,4,5,6,7,8,9,10,11,12] [(1,⟨false,[],some [1000202],[68],[]⟩),(4,⟨false,[],some [2],[71],[]⟩),(8,⟨false,[],some [2],[75],[]⟩),(12,⟨true,[],none,[79],[2,1000202]⟩)] []<|.q 1<|.r 1 [.b9]<|.q 1<|.q 1<|.r 1 [.b9]<|.q 1<|.q 1<|.q 1<|.r 1 [.own 2 (y.td.map ar) ga RW ca]<|.q 1<|.bd rB<|.bs<|.eu (YD 2 [2,0+x.1.2,5] (y.td.map ar) ([.agg [sV a,iN 0]]:List V) x.2.1 (x.2.2.1+(0+x.1.2)*8+7) 2 ga RW ca) (fun Ok=>.h (.C7 2 (od n a7 x.1.1 x.1.2 y.na y.re y.kn y.gr.na y.gr.ru y.gr.wa y.tr x.2.1 x.2.2.1 x.2.2.2 (se++[a]) ls))<|.h (.n8 79 (.own 2 ((y.td++[(⟨a,0⟩:w5)]).map ar) Ok.1 Ok.2.1 Ok.2.2))<|.q 2<|.st (some (.b9))<|.h (.C7 2 (bQ n a7 x.1.1 x.1.2 y.na y.re y.kn y.gr.na y.gr.ru y.gr.wa y.tr (y.td++[(⟨a,0⟩:w5)]) Ok.1 Ok.2.1 Ok.2.2 x.2.1 x.2.2.1 x.2.2.2 (se++[a]) ls))<|.h (.Rz (.key 2) [2,x.1.2,5] x.2.1 (x.2.2.1+(x.1.2)*8+7) (.own 2 ((y.td++[(⟨a,0⟩:w5)]).map ar) Ok.1 Ok.2.1 Ok.2.2) (.ow 2 ((y.td++[(⟨a,0⟩:w5)]).map ar)))<|.h (.C7 2 (dA n a7 x.1.1 x.1.2 y.na y.re y.kn y.gr.na y.gr.ru y.gr.wa y.tr (y.td++[(⟨a,0⟩:w5)]) x.2.1 x.2.2.1 x.2.2.2 (se++[a]) ls))<|.h (.C7 2 (ck n a7 (x.1.1.set x.1.2 ({ y with td:=y.td++[⟨a,0⟩] }:k9)) x.2.1 x.2.2.1 x.2.2.2 (se++[a]) ls))<|.mv<|.st none<|.nil))))))))))))))
  ((fun v4:s4=>(fun v1:List V=>(fun v2:V=>(fun v3:V=>(fun v5:V=>(fun v6:List V=>(fun v7:V=>(fun v8:Int=>(fun v9:Bool=>(fun v10:V=>(((true=true)/\((bP n a7 zs se ls):V).isVal=true)/\∀ g2:Nat,(fun v11:V=> ∀ g4:Nat,(fun v12:V=> ∀ gs os cs:Nat,∀ g o c:Nat,(fun E4:V=>(∃ j7:Nat,(j7<=se.length/\∀ j,j<j7->((se.getD j [])==a)=false)/\E (sV a)/\E v11/\E v12/\Q (iN 0) (iN j7)/\Er g2 E4/\Er g4 v5/\True)/\∀ i:Nat,(i<=se.length/\∀ j,j<i->((se.getD j [])==a)=false)->Z g2 3/\Br (r8 (i:Int) (((se.map sV).length:Nat):Int)) (Z g2 3/\In (i:Int) ((se.map sV).length)/\(V.at g2 0 E4 [3,0+i]=some (gs,(os+(0+i)*1),sV (se.getD i [])))/\Br ((se.getD i [])==a) (Z g2 0/\Z g4 0/\(g4=g4)/\Q (bP n a7 zs se ls) (kb n a7 zs se ls a)) (m8 ((i:Int)+1)/\∃ c9:Nat,(c9<=se.length/\∀ j,j<c9->((se.getD j [])==a)=false)/\(se.length-c9<se.length-i)/\E (sV a)/\E v11/\E v12/\Q (iN (i+1)) (iN c9)/\Er g2 E4/\Er g4 v5/\True)) ((oH a).sm/\((a.length<=4611686018427387904))/\∀ g6:Nat,Z g6 0/\Gd (v9==false) (Z g2 3)/\Pk v9 true (v9==false)/\Br (v9||(A8 (((se.map sV).length:Nat):Int) 60)) (Z g2 0/\Z g4 0/\(g4=g4)/\Q (bP n a7 zs se ls) (kb n a7 zs se ls a)) (Z g2 3/\((1,1,gs,os,cs,(se.map sV).length)=(1,1,gs,os,cs,(se.map sV).length))/\(True)/\(V.aK ([sV a]:List V)=false)/\(aM 1 ([sV a]:List V))/\(((se.map sV).length+([sV a]:List V).length)*16<=140737488355328)/\∀ WS Wn WX:Nat,((.own 1 ((se.map sV)++([sV a]:List V)) WS Wn WX:V)=.own 1 ((se++[a]).map sV) WS Wn WX)/\Z g2 3/\Z g2 0/\Z g6 0/\(wq n a7 zs (se++[a]) ls g2 g o c (v4.b7)).sm/\Er g2 (ck n a7 zs g o c (se++[a]) ls)/\((zs.length<=1000))/\((r8 (jk zs (v4.b7)) 0)=true->Z g2 2/\Z g6 0/\Z g2 0/\((8,8,g,o,c,(zs.map aL).length)=(8,8,g,o,c,(zs.map aL).length))/\(True)/\(V.aK v1=false)/\(aM 8 v1)/\(((zs.map aL).length+v1.length)*120<=140737488355328)/\∀ Pl O' P9:Nat,((.own 8 ((zs.map aL)++v1) Pl O' P9:V)=.own 8 (zs.map aL++[v3]) Pl O' P9)/\(V.at Pl O' (.own 8 (zs.map aL++[v3]) Pl O' P9) [zs.length,5]=some (Pl,O'+(zs.length)*8+7,.sl true []))/\(V.set (.own 8 (zs.map aL++[v3]) Pl O' P9) [zs.length,5] (.own 2 ([].map ar) 0 0 0)=.own 8 (zs.map aL++[v2]) Pl O' P9)/\(V.at Pl O' (.own 8 (zs.map aL++[v2]) Pl O' P9) [zs.length]=some (Pl,O'+(zs.length)*8,.agg [sV (v4.b7),iN 0,bV false,.agg [.sl true [sV n],.sl true [],iN 0],iN 0,.own 2 ([].map ar) 0 0 0]))/\(V.set (.own 8 (zs.map aL++[v2]) Pl O' P9) [zs.length] (.agg [sV (v4.b7),iV 0,bV false,.agg [.sl false ([n].map sV),.sl false ([].map aD),iN 0],iV 0,.ow 2 ([].map ar)])=.own 8 (zs.map aL++[v7]) Pl O' P9)/\((.own 8 (zs.map aL++[v7]) Pl O' P9:V)=.own 8 ((zs++[(bq v4.b7 n)]).map aL) Pl O' P9)/\Z g2 2/\Z g2 2/\m8 (v8-1)/\Q (iV (v8-1)) (iN zs.length)/\∃ x:(List k9×Nat)×Nat×Nat×Nat,(x.1.2<x.1.1.length/\(x.1.1.getD x.1.2 c5).td.length<=1000/\aN n zs se a=x.1.1.set x.1.2 { x.1.1.getD x.1.2 c5 with td:=(x.1.1.getD x.1.2 c5).td++[⟨a,0⟩] })/\E (sV a)/\E v11/\E v12/\Q (iN zs.length) (iN x.1.2)/\Qr g2 (ck n a7 (zs++[(bq v4.b7 n)]) Pl O' P9 (se++[a]) ls) g2 (ck n a7 x.1.1 x.2.1 x.2.2.1 x.2.2.2 (se++[a]) ls)/\Er g4 v5/\True)/\((r8 (jk zs (v4.b7)) 0)=false->(v10=iN (o8 zs v4.b7))/\(v10=iN (o8 zs v4.b7))/\(v10=iN (o8 zs v4.b7))/\∃ x:(List k9×Nat)×Nat×Nat×Nat,(x.1.2<x.1.1.length/\(x.1.1.getD x.1.2 c5).td.length<=1000/\aN n zs se a=x.1.1.set x.1.2 { x.1.1.getD x.1.2 c5 with td:=(x.1.1.getD x.1.2 c5).td++[⟨a,0⟩] })/\E (sV a)/\E v11/\E v12/\Q (iN (o8 zs v4.b7)) (iN x.1.2)/\Qr g2 (ck n a7 zs g o c (se++[a]) ls) g2 (ck n a7 x.1.1 x.2.1 x.2.2.1 x.2.2.2 (se++[a]) ls)/\Er g4 v5/\True)/\(∀ x:(List k9×Nat)×Nat×Nat×Nat,(x.1.2<x.1.1.length/\(x.1.1.getD x.1.2 c5).td.length<=1000/\aN n zs se a=x.1.1.set x.1.2 { x.1.1.getD x.1.2 c5 with td:=(x.1.1.getD x.1.2 c5).td++[⟨a,0⟩] })->(∃ y:k9,(x.1.1.getD x.1.2 c5)=y)/\∀ y:k9,((x.1.1.getD x.1.2 c5)=y)->(fun H6:V=>(fun J4:V=>((ck n a7 x.1.1 x.2.1 x.2.2.1 x.2.2.2 (se++[a]) ls:V)=dA n a7 x.1.1 x.1.2 y.na y.re y.kn y.gr.na y.gr.ru y.gr.wa y.tr y.td x.2.1 x.2.2.1 x.2.2.2 (se++[a]) ls)/\(V.at g2 0 H6 [2,x.1.2,5]=some (x.2.1,x.2.2.1+(x.1.2)*8+7,.ow 2 (y.td.map ar)))/\∀ ga RW ca:Nat,(fun Ob:V=>(fun OR:V=>(V.set H6 [2,x.1.2,5] (.own 2 (y.td.map ar) ga RW ca)=bQ n a7 x.1.1 x.1.2 y.na y.re y.kn y.gr.na y.gr.ru y.gr.wa y.tr y.td ga RW ca x.2.1 x.2.2.1 x.2.2.2 (se++[a]) ls)/\Z g2 2/\Z g2 2/\In (x.1.2:Int) (((x.1.1.take x.1.2).map aL++OR::(x.1.1.drop (x.1.2+1)).map aL).length)/\(V.at g2 0 Ob [2,0+x.1.2,5]=some (x.2.1,(x.2.2.1+(0+x.1.2)*8+7),.own 2 (y.td.map ar) ga RW ca))/\(v6=v6/\((.hd (.key 2) [2,0+x.1.2,5] 2 ga RW 0 ((y.td.map ar).length) ca:V)=.hd (.key 2) [2,0+x.1.2,5] 2 ga RW 0 ((y.td.map ar).length) ca)/\(V.at g2 0 Ob [2,0+x.1.2,5]=some (x.2.1,x.2.2.1+(0+x.1.2)*8+7,.own 2 (y.td.map ar) ga RW ca))/\((2:Nat)=2)/\(V.aK v6=false)/\(aM 2 v6)/\(((y.td.map ar).length+v6.length)*24<=140737488355328))/\∀ Ok:Nat×Nat×Nat,(fun On:V=>(V.set Ob [2,0+x.1.2,5] (.b9)=od n a7 x.1.1 x.1.2 y.na y.re y.kn y.gr.na y.gr.ru y.gr.wa y.tr x.2.1 x.2.2.1 x.2.2.2 (se++[a]) ls)/\((.own 2 ((y.td.map ar)++v6) Ok.1 Ok.2.1 Ok.2.2:V)=.own 2 ((y.td++[(⟨a,0⟩:w5)]).map ar) Ok.1 Ok.2.1 Ok.2.2)/\In (x.1.2:Int) (((x.1.1.take x.1.2).map aL++OR::(x.1.1.drop (x.1.2+1)).map aL).length)/\(V.at g2 0 J4 [2,0+x.1.2,5]=some (x.2.1,(x.2.2.1+(0+x.1.2)*8+7),.b9))/\(V.set J4 [2,0+x.1.2,5] (.own 2 ((y.td++[(⟨a,0⟩:w5)]).map ar) Ok.1 Ok.2.1 Ok.2.2)=bQ n a7 x.1.1 x.1.2 y.na y.re y.kn y.gr.na y.gr.ru y.gr.wa y.tr (y.td++[(⟨a,0⟩:w5)]) Ok.1 Ok.2.1 Ok.2.2 x.2.1 x.2.2.1 x.2.2.2 (se++[a]) ls)/\(V.at g2 0 On [2,x.1.2,5]=some (x.2.1,x.2.2.1+(x.1.2)*8+7,.own 2 ((y.td++[(⟨a,0⟩:w5)]).map ar) Ok.1 Ok.2.1 Ok.2.2))/\(V.set On [2,x.1.2,5] (.ow 2 ((y.td++[(⟨a,0⟩:w5)]).map ar))=dA n a7 x.1.1 x.1.2 y.na y.re y.kn y.gr.na y.gr.ru y.gr.wa y.tr (y.td++[(⟨a,0⟩:w5)]) x.2.1 x.2.2.1 x.2.2.2 (se++[a]) ls)/\((dA n a7 x.1.1 x.1.2 y.na y.re y.kn y.gr.na y.gr.ru y.gr.wa y.tr (y.td++[(⟨a,0⟩:w5)]) x.2.1 x.2.2.1 x.2.2.2 (se++[a]) ls:V)=ck n a7 (x.1.1.set x.1.2 ({ y with td:=y.td++[⟨a,0⟩] }:k9)) x.2.1 x.2.2.1 x.2.2.2 (se++[a]) ls)/\Z g2 0/\Z g4 0/\(g4=g4)/\Q (bP n a7 (x.1.1.set x.1.2 ({ y with td:=y.td++[⟨a,0⟩] }:k9)) (se++[a]) ls) (kb n a7 zs se ls a)) (bQ n a7 x.1.1 x.1.2 y.na y.re y.kn y.gr.na y.gr.ru y.gr.wa y.tr (y.td++[(⟨a,0⟩:w5)]) Ok.1 Ok.2.1 Ok.2.2 x.2.1 x.2.2.1 x.2.2.2 (se++[a]) ls)) (NT y.na y.re y.kn y.gr.na y.gr.ru y.gr.wa y.tr y.td ga RW ca:V)) (bQ n a7 x.1.1 x.1.2 y.na y.re y.kn y.gr.na y.gr.ru y.gr.wa y.tr y.td ga RW ca x.2.1 x.2.2.1 x.2.2.2 (se++[a]) ls)) (od n a7 x.1.1 x.1.2 y.na y.re y.kn y.gr.na y.gr.ru y.gr.wa y.tr x.2.1 x.2.2.1 x.2.2.2 (se++[a]) ls)) (dA n a7 x.1.1 x.1.2 y.na y.re y.kn y.gr.na y.gr.ru y.gr.wa y.tr y.td x.2.1 x.2.2.1 x.2.2.2 (se++[a]) ls))))) (.agg [sV n,iV a7,.own 8 (zs.map aL) g o c,.own 1 (se.map sV) gs os cs,.ow 3 (ls.map bf)])) (.ptr (.key 4) [] g4 0)) (.ptr (.key 2) [] g2 0))) (iV (jk zs (v4.b7)):V)) (!((aC a).isSome))) ((((zs++[(bq v4.b7 n)]).map aL).length:Nat):Int)) (.agg [sV (v4.b7),iV 0,bV false,.agg [.sl false ([n].map sV),.sl false ([].map aD),iN 0],iV 0,.ow 2 ([].map ar)]:V)) ([.agg [sV a,iN 0]]:List V)) (.agg [sV [],iN 0,.sl true [],.sl true [],.sl true []])) (.agg [sV (v4.b7),iN 0,bV false,.agg [.sl true [sV n],.sl true [],iN 0],iN 0,.sl true []]:V)) (.agg [sV (v4.b7),iN 0,bV false,.agg [.sl true [sV n],.sl true [],iN 0],iN 0,.own 2 ([].map ar) 0 0 0]:V)) ([.agg [sV (v4.b7),iN 0,bV false,.agg [.sl true [sV n],.sl true [],iN 0],iN 0,.sl true []]]:List V)) (oA (aC a))) ?_
 refine⟨⟨rfl,rfl⟩,?_⟩
 intro g2
 intro g4
 intro gs os cs
 intro g o c
 refine⟨⟨0,?_,rfl,rfl,rfl,rfl,rfl,rfl,trivial⟩,?_⟩
 simp
 rintro i ⟨h1,h2⟩
 refine⟨rfl,?_⟩
 refine bI (fun l3=>?_) fun l3=>?_
 refine⟨rfl,Zah,(bj (f:=3) rfl).trans (aS (by rw[Zau];exact aq (d:=[]) Zaa) rfl),?_⟩
 refine bI (fun l6=>?_) fun l6=>?_
 refine⟨rfl,rfl,?_⟩
 refine⟨rfl,?_⟩
 unfold Q kb
 have hr: ¬ de se a:=fun c=>c.2.2 (by rw[<- l6];exact aj Zaa)
 rw[qU hr,qq hr]
 refine⟨Zaa,?_⟩
 refine⟨i+1,?_,?_,rfl,rfl,rfl,rfl,rfl,rfl,trivial⟩
 exact⟨Zaa,bJ h2 (by simpa using l6)⟩
 exact Zai
 refine⟨rfl,Zaa,?_⟩
 intro g6
 refine⟨rfl,fun hG=>rfl,⟨fun _=>rfl,fun h=>by rw[h] <;> rfl⟩,?_⟩
 refine bI (fun n0=>?_) fun n0=>?_
 refine⟨rfl,rfl,?_⟩
 refine⟨rfl,?_⟩
 unfold Q kb
 have hr: ¬ de se a:=Nu n0
 rw[qU hr,qq hr]
 refine⟨rfl,rfl,trivial,rfl,by simp[aM,V.n,V.ns],by(try simp only[Zan,Zaw,Zap,Zas]);(try have:=Yn);omega,?_⟩
 intro WS Wn WX
 refine⟨Zbk (V.own 1 · WS Wn WX) Zab,rfl,?_⟩
 have hr:de se a:=⟨hk,by have:=n0.2;omega,Ll h2 Zaa⟩
 refine⟨rfl,rfl,rfl,rfl,hl,?_⟩
 refine⟨fun x7=>?_,fun x7=>?_,fun x hx=>?_⟩
 try simp only[nb]at x7
 refine⟨rfl,rfl,rfl,rfl,trivial,rfl,by simp[aM,V.n,V.ns],by(try simp only[Zan,Zaw,Zap,Zas]);(try have:=Yn);omega,?_⟩
 intro Pl O' P9
 refine⟨Zbk (V.own 8 · Pl O' P9) (rfl),aS (bu) rfl,bn (bu) (dV),ig bu,pw (bu) (dV),Zbk (V.own 8 · Pl O' P9) (by rw[Za9 (f:=aL)];rfl),rfl,?_⟩
 have hlz:(zs++[(bq (oA (aC a)).b7 n)]).length=zs.length+1:=Zab
 refine⟨rfl,Zah,by unfold Q;refine Zbk iV ?_;simp,?_⟩
 exact⟨((zs++[(bq (oA (aC a)).b7 n)],zs.length),Pl,O',P9),⟨Zab,by simp[bq],lh3 hr x7⟩,rfl,rfl,rfl,Zaf,Zaf,rfl,trivial⟩
 try simp only[nb]at x7
 refine⟨(Dn x7),(Dn x7),(Dn x7),?_⟩
 exact⟨((zs,(o8 zs (oA (aC a)).b7)),g,o,c),⟨zK x7,(hg _ (aj (d:=c5) (zK x7))).1,lh4 hr x7 (hg _ (aj (d:=c5) (zK x7))).2⟩,rfl,rfl,rfl,Zaf,Zaf,rfl,trivial⟩
 have hlt:=hx.1
 have Yn:=hx.2.1
 refine⟨⟨_,rfl⟩,?_⟩
 intro y hy
 rw[hy]at Yn
 refine⟨P2 (Zbk (V.own 8 · x.2.1 x.2.2.1 x.2.2.2) (splitN hy Zaa)),(bj (f:=2) rfl).trans (aS (aU Zaa) rfl),?_⟩
 intro ga RW ca
 refine⟨eP (bn (aU Zaa) (dC Zaa)),rfl,rfl,by(try simp only[Zaw]at *);try simp only[Zan,Zap,Zaw,List.length_take,List.length_drop,Zas]at *;omega,(bj (f:=2) rfl).trans (aS (by rw[Zau];exact aU Zaa) rfl),⟨rfl,rfl,(bj (f:=2) rfl).trans (aS (by rw[Zau];exact aU Zaa) rfl),rfl,rfl,by simp[aM,V.n,V.ns],by(try simp only[Zan,Zaw,Zap,Zas]);(try have:=Yn);omega⟩,?_⟩
 intro Ok
 refine⟨eP (bn (by rw[Zau];exact aU Zaa) (by rw[Zau];exact dC Zaa)),Zbk (V.own 2 · Ok.1 Ok.2.1 Ok.2.2) Zab,by(try simp only[Zaw]at *);try simp only[Zan,Zap,Zaw,List.length_take,List.length_drop,Zas]at *;omega,(bj (f:=2) rfl).trans (aS (by rw[Zau];exact aU Zaa) rfl),eP (bn (by rw[Zau];exact aU Zaa) (by rw[Zau];exact dC Zaa)),(bj (f:=2) rfl).trans (aS (aU Zaa) rfl),eP (bn (aU Zaa) (dC Zaa)),P2 (Zbk (V.own 8 · x.2.1 x.2.2.1 x.2.2.2) (nK (f:=aL) (x:=({ y with td:=y.td++[⟨a,0⟩] }:k9)) Zaa)),rfl,rfl,?_⟩
 refine⟨rfl,?_⟩
 unfold Q kb
 rw[yb hr,hx.2.2,hy])
theorem zU{t:j6}{s:BL}(h:aA s=false):ah t s=t:=by
 have hr: ¬ de t.se s:=fun c=>by have:=c.1;rw[h]at this;cases this
 unfold ah
 rw[qU hr,qq hr]
abbrev mh(n:BL)(seeds:List BL):V:=.tup [bP ((oT (aw n seeds)).na) ((oT (aw n seeds)).a7) ((oT (aw n seeds)).hs) ((oT (aw n seeds)).se) ((oT (aw n seeds)).lk),bV ((aw n seeds).isSome)]
def wb(n:BL)(seeds:List BL):o6 Tryz.prog:=.mk 25 [sV n,ao seeds] [] ((n.length<=1000)/\(seeds.length<=1000)/\(∀ x,x∈seeds->x.length<=1000/\l8 x)) (mh n seeds) [] (by
 rintro⟨hn,hl,ha⟩
 refine aB (N:=40) (rs:=[.cell 4 30,.tmp 5]) Tryz.func25
  (.al fo (fun g4=>.q 1<|.q 1<|.c (rW n) []<|.q 6<|.br (.bd fo<|.st none<|.q 1<|.h (.B3 (.key 4) [2] 8)<|.h (.B3 (.key 4) [3] 1)<|.h (.B3 (.key 4) [4] 3)<|.nil) (.q 1<|.bs<|.bs<|.bs<|.bd fo<|.al fo (fun g6=>.st none<|.h (.B3 (.key 6) [2] 8)<|.h (.B3 (.key 6) [3] 1)<|.h (.B3 (.key 6) [4] 3)<|.q 1<|.loop (Nat×(List k9)×(List BL)) (fun (i,zs,se)=>⟨[(1,ao seeds),(4,.ptr (.key 4) [] g4 0),(6,.ptr (.key 6) [] g6 0),(7,iN i)],[(4,(g4,.agg [sV [],iN 0,.sl true [],.sl true [],.sl true []])),(6,(g6,nF n zs se (.ow 3 ([].map bf))))]⟩) (fun (i,zs,se)=>i<=seeds.length/\zs=((seeds.take i).foldl ah (aG n)).hs/\se=((seeds.take i).foldl ah (aG n)).se) (fun (i,zs,se)=>seeds.length-i) (fun (i,zs,se)=>.q 4<|.br (.r 4 [sV (seeds.getD i [])]<|.c (lU (seeds.getD i [])) []<|.br (.dx 5 [1,2,3,4,0] [(4,⟨false,[],some [],[37],[]⟩),(0,⟨true,[],none,[33],[6]⟩)] []<|.q 1<|.q 1<|.r 1 [sV (seeds.getD i [])]<|.q 1<|.ux none (fun _ _ _=>.c (yZ n (0:Int) zs se ([]:List l5) (seeds.getD i [])) []<|.st none<|.q 3<|.nil)) (.q 3<|.nil)) (.mv<|.st none<|.q 1<|.nil))))))
  ((fun v1:V=>(fun v2:V=>(∀ g4:Nat,(rW n).sm/\((n.length<=4611686018427387904))/\Pk (!(aZ n)) true ((!(aZ n))==false)/\Br ((!(aZ n))||(w3 (((seeds.map sV).length:Nat):Int) 12)) (Z g4 0/\(g4=g4)/\Q (.tup [.agg [sV [],iN 0,.ow 8 ([].map aL),.ow 1 ([].map sV),.ow 3 ([].map bf)],bV false]) (mh n seeds)) (∀ g6:Nat,Z g6 0/\(∃ x:Nat×(List k9)×(List BL),match x with | (j7,QB,QK)=>(j7<=seeds.length/\QB=((seeds.take j7).foldl ah (aG n)).hs/\QK=((seeds.take j7).foldl ah (aG n)).se)/\E (ao seeds)/\E (.ptr (.key 4) [] g4 0)/\E (.ptr (.key 6) [] g6 0)/\Q (iN 0) (iN j7)/\Er g4 v1/\Qr g6 (.agg [sV n,iN 0,.ow 8 ([].map aL),.ow 1 ([].map sV),.ow 3 ([].map bf)]) g6 (nF n QB QK v2)/\True)/\∀ x:Nat×(List k9)×(List BL),match x with | (i,zs,se)=>(i<=seeds.length/\zs=((seeds.take i).foldl ah (aG n)).hs/\se=((seeds.take i).foldl ah (aG n)).se)->Br (r8 (i:Int) (((seeds.map sV).length:Nat):Int)) (Ex (i:Int) (seeds.map sV) (sV (seeds.getD i []))/\True/\(lU (seeds.getD i [])).sm/\(((seeds.getD i []).length<=4611686018427387904))/\Br (aA (seeds.getD i [])) (Ex (i:Int) (seeds.map sV) (sV (seeds.getD i []))/\True/\(((g6:Nat),(0:Nat))=(g6,0))/\∀ _ _ _:Nat,(yZ n (0:Int) zs se ([]:List l5) (seeds.getD i [])).sm/\((zs.length<=1000)/\(se.length<=1000)/\((seeds.getD i []).length<=1000)/\(aA (seeds.getD i [])=true)/\(∀ y,y∈zs->y.td.length<=1000/\y.kn=false))/\Z g6 0/\m8 ((i:Int)+1)/\∃ x:Nat×(List k9)×(List BL),match x with | (c9,O6,O9)=>(c9<=seeds.length/\O6=((seeds.take c9).foldl ah (aG n)).hs/\O9=((seeds.take c9).foldl ah (aG n)).se)/\(seeds.length-c9<seeds.length-i)/\E (ao seeds)/\E (.ptr (.key 4) [] g4 0)/\E (.ptr (.key 6) [] g6 0)/\Q (iN (i+1)) (iN c9)/\Er g4 v1/\Qr g6 (bP n (0:Int) (aN n zs se (seeds.getD i [])) (bT se (seeds.getD i [])) ([]:List l5)) g6 (nF n O6 O9 v2)/\True) (m8 ((i:Int)+1)/\∃ x:Nat×(List k9)×(List BL),match x with | (c9,O6,O9)=>(c9<=seeds.length/\O6=((seeds.take c9).foldl ah (aG n)).hs/\O9=((seeds.take c9).foldl ah (aG n)).se)/\(seeds.length-c9<seeds.length-i)/\E (ao seeds)/\E (.ptr (.key 4) [] g4 0)/\E (.ptr (.key 6) [] g6 0)/\Q (iN (i+1)) (iN c9)/\Er g4 v1/\Qr g6 (nF n zs se v2) g6 (nF n O6 O9 v2)/\True)) (Z g6 0/\Z g4 0/\(g4=g4)/\Q (.tup [nF n zs se v2,bV true]) (mh n seeds))))) (.ow 3 ([].map bf))) (.agg [sV [],iN 0,.sl true [],.sl true [],.sl true []])) ?_
 intro g4
 refine⟨rfl,Zaa,⟨fun _=>rfl,fun h=>by rw[h] <;> rfl⟩,?_⟩
 refine bI (fun l3=>?_) fun l3=>?_
 refine⟨rfl,?_⟩
 refine⟨rfl,?_⟩
 unfold Q mh
 rw[EL l3];rfl
 intro g6
 refine⟨rfl,?_⟩
 refine⟨⟨(0,[],[]),?_,rfl,rfl,rfl,rfl,rfl,Zaf,trivial⟩,?_⟩
 exact⟨Zab,rfl,rfl⟩
 rintro⟨i,zs,se⟩ ⟨h1,h2,h3⟩
 have I7:=lE n (seeds.take i) (lQ n)
 rw[List.length_take]at I7
 refine bI (fun l6=>?_) fun l6=>?_
 have hm:=ha _ (nh (show i<seeds.length by omega))
 refine⟨⟨Zaa,aq (d:=[]) Zaa⟩,trivial,rfl,Zae,?_⟩
 refine bI (fun n0=>?_) fun n0=>?_
 refine⟨⟨Zaa,aq (d:=[]) Zaa⟩,trivial,rfl,?_⟩
 intro _ _ _
 refine⟨rfl,⟨by rw[h2];have:=I7.hl;omega,by rw[h3];have:=I7.sl;omega,hm.1,n0,fun y hy=>by rw[h2]at hy;obtain⟨a1,a2,a3,_⟩:=I7.hs y hy;exact⟨Zaa,a1⟩⟩,rfl,Zaa,?_⟩
 refine⟨(i+1,(aN n zs se (seeds.getD i [])),(bT se (seeds.getD i []))),?_,?_,rfl,rfl,rfl,rfl,rfl,Zaf,trivial⟩
 rw[foldl_succ (d:=[]) Zaa]
 first
 | (rw[h2,h3];exact⟨Zaa,by show _=aN ((seeds.take i).foldl ah (aG n)).na ((seeds.take i).foldl ah (aG n)).hs ((seeds.take i).foldl ah (aG n)).se _;rw[I7.na],rfl⟩)
 | (rw[zU n0];exact⟨Zaa,h2,h3⟩)
 exact Zai
 refine⟨Zaa,?_⟩
 refine⟨(i+1,zs,se),?_,?_,rfl,rfl,rfl,rfl,rfl,rfl,trivial⟩
 rw[foldl_succ (d:=[]) Zaa]
 first
 | (rw[h2,h3];exact⟨Zaa,by show _=aN ((seeds.take i).foldl ah (aG n)).na ((seeds.take i).foldl ah (aG n)).hs ((seeds.take i).foldl ah (aG n)).se _;rw[I7.na],rfl⟩)
 | (rw[zU n0];exact⟨Zaa,h2,h3⟩)
 exact Zai
 refine⟨rfl,rfl,?_⟩
 refine⟨rfl,?_⟩
 unfold Q mh
 rw[Zax Zaa]at h2 h3 I7
 rw[FA l3,h2,h3]
 refine Zbk (fun r:V=>V.tup [r,bV true]) ?_
 show V.agg _=zE (seeds.foldl ah (aG n))
 rw[zE,I7.na,I7.a7,I7.lk])
def fX:BL:=[47,110,111,116,105,99,101]
theorem pO{d:BL}(h:cW d=true):aC (ag d)=some ⟨d,[[110,111,116,105,99,101]],false,[]⟩:=by
 have hl:d.length<=5:=by
  unfold cW x4 at h
  rw[Zam]at h
  have:=of_decide_eq_true h.2
  omega
 have e:aO ⟨d,[[110,111,116,105,99,101]],false,[]⟩=true:=by
  unfold aO
  simp only[h,Zam,Zbi]
  refine⟨⟨⟨⟨⟨trivial,Zab⟩,Zad⟩,Zad⟩,Zad⟩,?_⟩
  simp[cX,bz,cI];omega
 have:=tA e
 rw[<- this]
 congr 1
theorem Hv{d:BL}(h:cW d=true):aA (ag d)=true:=xJ (by rw[pO h];rfl) (by rw[pO h];rfl)
theorem eF{d:BL}(h:cW d=true):ab (ag d)=d:=by unfold ab;rw[pO h];rfl
theorem Ff{d:BL}(h:cW d=true):pathOf (ag d)=fX:=by unfold pathOf;rw[pO h];rfl
theorem dK{s:BL}(h:aA s=true):(aC s).isSome=true:=by unfold aA at h;rw[Zam]at h;exact h.1
theorem nT{s:BL}(h:aA s=true):cW (ab s)=true:=(eY (gX (dK h))).1
def cls(L:List l5)(d:BL):List Int:=(L.filter fun l=>ab l.ad==d).map (·.ti)
def Qt(L:List l5)(a:BL):List l5:=L.filter fun l=>l.ad==a
structure QL (w:List Pg) (L:List l5) (l:l5):Prop where
 once:pathOf l.ad≠fX->(∀ q,q∈L->q.ad=l.ad->q.ki=3)/\(Qt L l.ad).length<3
 door:(∀ q,q∈L->ab q.ad≠ab l.ad)->pathOf l.ad=fX
 fail:∀ q,q∈L->ab q.ad=ab l.ad->q.ki=3->q.ti+3<=l.ti
 kind:∃ m,l.ki=(ae w l.ad m).1
 rd:aA l.ad=true
 tm:0<=l.ti/\l.ti<=5000
def DV(w:List Pg)(L:List l5):Prop:= ∀ k,k<L.length->QL w (L.take k) (L.getD k h9)
theorem DV.snoc{w:List Pg}{L:List l5}{l:l5}(h:DV w L)(q:QL w L l):DV w (L++[l]):=fun k hk=>by
 rw[Zan,Zbd]at hk
 rcases Nat.lt_or_ge k L.length with c | c
 have:=h k c
 rw[List.take_append_of_le_length Zaa,Zak,Za7 c,<- Zak]
 exact this
 have e:k=L.length:=Zaa
 subst e
 rw[List.take_left,Zak,Za2 (Zba _)]
 simpa using q
structure HI (L:List l5) (se:List BL) (y:k9):Prop where
 hn:cW y.na=true
 it:∀ x,x∈y.td->aA x.ad=true/\ab x.ad=y.na/\x.ad∈se/\0<=x.tr/\x.tr<=2/\(pathOf x.ad≠fX->(∀ q,q∈L->q.ad=x.ad->q.ki=3)/\((Qt L x.ad).length:Int)=x.tr)
 nd:(y.td.map (·.ad)).Nodup
 gl:y.gr.na.length<=1
 un:y.kn=false->0<=y.tr/\y.tr<=2/\y.gr.wa=0/\y.gr.ru=[]/\((cls L y.na).length:Int)=y.tr
 kn:y.kn=true->cls L y.na≠[]
 re:∀ q,q∈L->ab q.ad=y.na->q.ti+1<=y.re/\(q.ki=3->q.ti+3<=y.re)/\q.ti+(y.gr.wa:Int)<=y.re
 wt:∀ k,k+1<(cls L y.na).length->(cls L y.na).getD k 0+1<=(cls L y.na).getD (k+1) 0/\(3<=k->(cls L y.na).getD k 0+(y.gr.wa:Int)<=(cls L y.na).getD (k+1) 0)
def OF(l:List w5):Int:=(l.map fun x=>3-x.tr).sum
def hp(y:k9):Int:=(if y.kn=true then 0 else 3-y.tr)+OF y.td
structure GI (w:List Pg) (n:BL) (t:j6):Prop where
 na:t.na=n
 al:DV w t.lk
 se:∀ s,s∈t.se->aA s=true
 sn:t.se.Nodup/\t.se.length<=60
 nd:(t.hs.map (·.na)).Nodup
 hi:∀ y,y∈t.hs->HI t.lk t.se y
 lh:∀ q,q∈t.lk->(∃ y,y∈t.hs/\y.na=ab q.ad)/\(pathOf q.ad=fX\/q.ad∈t.se)
 po:(t.lk.length:Int)+(t.hs.map hp).sum<=3*((t.se.length:Int)+t.hs.length)
 hl:t.hs.length<=t.se.length
 no:0<=t.a7
theorem tU{l:List w5}(h:∀ x,x∈l->x.tr<=2):0<=OF l:=by
 induction l with
 | nil=>simp[OF]
 | cons a l ih=>
   have h1:=ih fun x hx=>h x (List.mem_cons_of_mem _ hx)
   have h2:=h a Zab
   simp only[OF,Zbc,List.sum_cons]at h1 ⊢
   omega
theorem DJ{l:List w5}(p:w5->Bool)(h:∀ x,x∈l->x.tr<=2):OF (l.filter p)<=OF l:=by
 induction l with
 | nil=>simp[OF]
 | cons a l ih=>
   have h1:=ih fun x hx=>h x (List.mem_cons_of_mem _ hx)
   have h2:=h a Zab
   rw[List.filter_cons]
   split
   simp only[OF,Zbc,List.sum_cons]at h1 ⊢;omega
   simp only[OF,Zbc,List.sum_cons]at h1 ⊢;omega
theorem Cf(l r:List w5):OF (l++r)=OF l+OF r:=by
 unfold OF
 rw[Za9,List.sum_append]
theorem nS{l:List w5}(h:l≠[]):OF l=(3-(l.getD 0 j9).tr)+OF (l.drop 1):=by
 cases l with
 | nil=>exact absurd rfl h
 | cons a l=>simp[OF]
theorem xS{f:k9->Int}{a:k9}:∀ {l:List k9} {i:Nat},i<l.length->((l.set i a).map f).sum=(l.map f).sum-f (l.getD i c5)+f a
 | [],i,h=>by simp at h
 | b::l,0,h=>by simp;omega
 | b::l,i+1,h=>by
   have:=xS (f:=f) (a:=a) (l:=l) (i:=i) (by simpa using h)
   simp only[List.set_cons_succ,Zbc,List.sum_cons,List.getD_cons_succ,this];omega
theorem qw{f:k9->Int}:∀ {l:List k9},(∀ y,y∈l->0<=f y)->0<=(l.map f).sum
 | [],_=>by simp
 | a::l,h=>by
   have h1:=qw (f:=f) (l:=l) fun y hy=>h y (List.mem_cons_of_mem _ hy)
   have h2:=h a Zab
   simp only[Zbc,List.sum_cons];omega
theorem gG{l:List k9}{i:Nat}{a y:k9}(hn:(l.map (·.na)).Nodup)(hi:i<l.length)(h:y∈l.set i a):y=a\/(y∈l/\y.na≠(l.getD i c5).na):=by
 obtain⟨j,hj,e⟩:=Zbe.1 h
 rw[List.getElem_set]at e
 split at e
 exact .inl e.symm
 rename_i hne
 rw[List.length_set]at hj
 refine .inr ⟨by rw[<- e];exact List.getElem_mem _,fun c=>hne ?_⟩
 rw[Zak,Zar hi]at c
 have:=(List.getElem_inj (h₀:=by simpa using hi) (h₁:=by simpa using hj) hn).1
 exact this (by rw[List.getElem_map,List.getElem_map,e];exact c.symm)
theorem iz{l:List k9}{i:Nat}{a:k9}(hi:i<l.length)(h:a.na=(l.getD i c5).na):(l.set i a).map (·.na)=l.map (·.na):=by
 rw[List.map_set,h]
 apply List.ext_getElem Zab
 intro j h1 h2
 rw[List.getElem_set]
 split
 rename_i e;subst e;rw[List.getElem_map,Zak,Zar hi];rfl
 rfl
theorem bH{L:List l5}{l:l5}{d:BL}:cls (L++[l]) d=cls L d++(if ab l.ad=d then [l.ti] else []):=by
 unfold cls
 rw[List.filter_append,Za9,List.filter_cons]
 by_cases h:ab l.ad=d
 rw[if_pos (by simpa using h),if_pos h];rfl
 rw[if_neg (by simpa using h),if_neg h];rfl
theorem kC{L:List l5}{l:l5}{a:BL}:Qt (L++[l]) a=Qt L a++(if l.ad=a then [l] else []):=by
 unfold Qt
 rw[List.filter_append,List.filter_cons]
 by_cases h:l.ad=a
 rw[if_pos (by simpa using h),if_pos h];rfl
 rw[if_neg (by simpa using h),if_neg h];rfl
theorem oK{L:List l5}{d:BL}{x:Int}(h:x∈cls L d):∃ q,q∈L/\ab q.ad=d/\q.ti=x:=by
 unfold cls at h
 obtain⟨q,h1,h2⟩:=List.mem_map.1 h
 obtain⟨h3,h4⟩:=List.mem_filter.1 h1
 exact⟨q,h3,by simpa using h4,h2⟩
theorem HI.other{L:List l5}{se:List BL}{y:k9}{l:l5}(h:HI L se y)(hne:y.na≠ab l.ad):HI (L++[l]) se y:=by
 have ec:cls (L++[l]) y.na=cls L y.na:=by rw[bH,if_neg (Ne.symm hne),List.append_nil]
 refine⟨h.hn,fun x hx=>?_,h.nd,h.gl,fun hk=>by rw[ec];exact h.un hk,fun hk=>by rw[ec];exact h.kn hk,fun q hq he=>?_,by rw[ec];exact h.wt⟩
 obtain⟨a1,a2,a3,a4,a5,a6⟩:=h.it x hx
 have hx:l.ad≠x.ad:=fun c=>hne (by rw[c,a2])
 refine⟨a1,a2,a3,a4,a5,fun hp=>⟨fun q hq he=>?_,?_⟩⟩
 rcases Zav.1 hq with hq | hq
 exact(a6 hp).1 q hq he
 rw[Zat.1 hq]at he;exact absurd he hx
 rw[kC,if_neg hx,List.append_nil];exact(a6 hp).2
 rcases Zav.1 hq with hq | hq
 exact h.re q hq he
 rw[Zat.1 hq]at he;exact absurd he.symm hne
theorem HI.more{L:List l5}{se Z0:List BL}{y:k9}(h:HI L se y)(hs:∀ s,s∈se->s∈Z0):HI L Z0 y:=
 ⟨h.hn,fun x hx=>by obtain⟨a1,a2,a3,a4⟩:=h.it x hx;exact⟨a1,a2,hs _ a3,a4⟩,h.nd,h.gl,h.un,h.kn,h.re,h.wt⟩
theorem HI.core{L:List l5} {se:List BL} {y y':k9} {l:l5} (h:HI L se y) (hl:ab l.ad=y.na) (L4:y'.na=y.na) (hr:y.re<=l.ti) (r1:l.ti+1<=y'.re) (r3:l.ki=3->l.ti+3<=y'.re)
 (rw_:l.ti+(y'.gr.wa:Int)<=y'.re) (hw:y.kn=true->y'.gr.wa=y.gr.wa):
 (∀ q,q∈L++[l]->ab q.ad=y'.na->q.ti+1<=y'.re/\(q.ki=3->q.ti+3<=y'.re)/\q.ti+(y'.gr.wa:Int)<=y'.re)/\
 (∀ k,k+1<(cls (L++[l]) y'.na).length->(cls (L++[l]) y'.na).getD k 0+1<=(cls (L++[l]) y'.na).getD (k+1) 0/\(3<=k->(cls (L++[l]) y'.na).getD k 0+(y'.gr.wa:Int)<=(cls (L++[l]) y'.na).getD (k+1) 0)):=by
 constructor
 intro q hq he
 rcases Zav.1 hq with hq | hq
 have:=h.re q hq (by rw[he,L4])
 exact⟨Zaa,fun hk=>by have:=this.2.1 hk;omega,Zaa⟩
 rw[Zat.1 hq]
 exact⟨r1,r3,rw_⟩
 intro k hk
 have ec:cls (L++[l]) y'.na=cls L y.na++[l.ti]:=by rw[bH,if_pos (by rw[hl,L4]),L4]
 rw[ec]at hk ⊢
 rw[Zan,Zbd]at hk
 have I1:y.kn=false->(cls L y.na).length<=2:=fun hk=>by have:=h.un hk;omega
 have e1:∀ j,j<(cls L y.na).length->(cls L y.na++[l.ti]).getD j 0=(cls L y.na).getD j 0:=fun j hj=>by
  rw[Zak,Za7 hj,<- Zak]
 rcases Nat.lt_or_ge (k+1) (cls L y.na).length with c | c
 rw[e1 k Zaa,e1 _ c]
 have:=h.wt k c
 refine⟨this.1,fun h3=>?_⟩
 cases hk:y.kn with
 | false=>have:=I1 hk;omega
 | true=>rw[hw hk];exact this.2 h3
 have ek:k+1=(cls L y.na).length:=Zaa
 have e2:(cls L y.na++[l.ti]).getD (k+1) 0=l.ti:=by
  rw[Zak,Za2 Zaa,ek,Nat.sub_self];rfl
 rw[e2,e1 k Zaa]
 have hm:(cls L y.na).getD k 0∈cls L y.na:=by
  rw[Zak,Zar Zaa];exact List.getElem_mem _
 obtain⟨q,q1,q2,q3⟩:=oK hm
 have:=h.re q q1 q2
 rw[<- q3]
 refine⟨Zaa,fun h3=>?_⟩
 cases hk:y.kn with
 | false=>have:=I1 hk;omega
 | true=>rw[hw hk];omega
section
variable {w:List Pg} {n:BL}
theorem iS(hs:List k9)(d n:BL):((au hs d n).getD (o8 hs d) c5).na=d:=by
 unfold au
 split
 rename_i h
 rw[Zak,Zar h]
 unfold o8 at h ⊢
 have:=List.findIdx_getElem (w:=h)
 simpa using this
 rename_i h
 have e:o8 hs d=hs.length:=by
  have:o8 hs d<=hs.length:=List.findIdx_le_length
  omega
 rw[e,Zak,Za2 (Zba _),Nat.sub_self]
 rfl
theorem Km{hs:List k9}{d n:BL}(h:(hs.map (·.na)).Nodup):((au hs d n).map (·.na)).Nodup:=by
 unfold au
 split
 exact h
 rename_i hc
 rw[Za9,List.nodup_append]
 refine⟨h,Zab,fun a ha b hb e=>hc ?_⟩
 subst e
 have hb:a=d:=by simpa[bq] using hb
 subst hb
 obtain⟨y,hy,e⟩:=List.mem_map.1 ha
 exact List.findIdx_lt_length_of_exists ⟨y,hy,by simpa using e⟩
theorem Ha(y:k9)(s:BL):hp (aX y s)<=hp y+3:=by
 unfold aX
 split
 omega
 unfold hp
 simp only[Cf]
 have:OF [⟨s,0⟩]=3:=by simp[OF]
 omega
theorem eB(y:k9)(s:BL):(aX y s).na=y.na:=by unfold aX;split <;> rfl
theorem GI.bX{t:j6}{s:BL}(h:GI w n t):GI w n (ah t s):=by
 by_cases hr:de t.se s
 case neg=>
  have e3:bT t.se s=t.se:=if_neg hr
  have e4:aN t.na t.hs t.se s=t.hs:=if_neg hr
  have:ah t s=t:=by unfold ah;rw[e3,e4]
  rw[this];exact h
 have e3:(ah t s).se=t.se++[s]:=if_pos hr
 have e4:(ah t s).hs=(au t.hs (ab s) t.na).set (o8 t.hs (ab s)) (aX ((au t.hs (ab s) t.na).getD (o8 t.hs (ab s)) c5) s):=if_pos hr
 have hlt:=bL t.hs (ab s) t.na
 have L4:=iS t.hs (ab s) t.na
 have hnd:=Km (d:=ab s) (n:=t.na) h.nd
 have hno:∀ q,q∈t.lk->pathOf s≠fX->q.ad≠s:=fun q hq hp c=>by
  rcases (h.lh q hq).2 with e | e
  rw[c]at e;exact hp e
  rw[c]at e;exact hr.2.2 e
 have hin:∀ y,y∈au t.hs (ab s) t.na->HI t.lk t.se y:=fun y hy=>by
  unfold au at hy
  split at hy
  exact h.hi y hy
  rename_i hc
  rcases Zav.1 hy with hy | hy
  exact h.hi y hy
  rw[Zat.1 hy]
  have hz:∀ q,q∈t.lk->ab q.ad≠ab s:=fun q hq c=>by
   obtain⟨z,z1,z2⟩:=(h.lh q hq).1
   exact hc (List.findIdx_lt_length_of_exists ⟨z,z1,by simp[z2,c]⟩)
  have ec:cls t.lk (ab s)=[]:=by
   unfold cls
   rw[List.filter_eq_nil_iff.2 (fun q hq=>by simpa using hz q hq)];rfl
  refine⟨nT hr.1,fun x hx=>by simp[bq]at hx,by simp[bq],by simp[bq],fun _=>⟨by simp[bq],by simp[bq],rfl,rfl,?_⟩,fun c=>by simp[bq]at c,fun q hq c=>absurd c (hz q hq),fun k hk=>?_⟩
  show ((cls t.lk (ab s)).length:Int)=0
  rw[ec];rfl
  exfalso
  have hk:k+1<(cls t.lk (ab s)).length:=hk
  rw[ec]at hk;simp at hk
 have PY:∀ q,q∈t.se->q∈t.se++[s]:=fun q hq=>List.mem_append_left _ hq
 have u0:=hin _ (aj (d:=c5) hlt)
 generalize hy:(au t.hs (ab s) t.na).getD (o8 t.hs (ab s)) c5=y at *
 have hH:HI t.lk (t.se++[s]) (aX y s):=by
  unfold aX
  split
  exact u0.more PY
  have TH:=u0.more PY
  refine⟨TH.hn,fun x hx=>?_,?_,TH.gl,TH.un,TH.kn,TH.re,TH.wt⟩
  rcases Zav.1 hx with hx | hx
  exact TH.it x hx
  rw[Zat.1 hx]
  refine⟨hr.1,L4.symm,Zab,Zab,Zab,fun hp=>⟨fun q hq c=>absurd c (hno q hq hp),?_⟩⟩
  show ((Qt t.lk s).length:Int)=0
  unfold Qt
  rw[List.filter_eq_nil_iff.2 (fun q hq=>by simpa using hno q hq hp)];rfl
  show ((y.td++[(⟨s,0⟩:w5)]).map (·.ad)).Nodup
  rw[Za9,List.nodup_append]
  refine⟨u0.nd,Zab,fun a ha b hb e=>?_⟩
  subst e
  have hb:a=s:=by simpa using hb
  subst hb
  obtain⟨x,hx,e⟩:=List.mem_map.1 ha
  exact hr.2.2 (by rw[<- e];exact(u0.it x hx).2.2.1)
 have OX:((au t.hs (ab s) t.na).map hp).sum<=(t.hs.map hp).sum+3*(((au t.hs (ab s) t.na).length:Int)-t.hs.length)/\(au t.hs (ab s) t.na).length<=t.hs.length+1:=by
  unfold au
  split
  omega
  simp only[Za9,Zbc,List.map_nil,List.sum_append,List.sum_cons,List.sum_nil,Zan,Zbd]
  have:hp (bq (ab s) t.na)=3:=by simp[hp,bq,OF]
  omega
 refine⟨h.na,h.al,fun q hq=>?_,⟨?_,?_⟩,?_,fun z hz=>?_,fun q hq=>?_,?_,?_,h.no⟩
 rw[e3]at hq
 rcases Zav.1 hq with hq | hq
 exact h.se q hq
 rw[Zat.1 hq];exact hr.1
 rw[e3,List.nodup_append]
 refine⟨h.sn.1,Zab,fun a ha b hb e=>?_⟩
 subst e
 have hb:a=s:=by simpa using hb
 subst hb
 exact hr.2.2 ha
 rw[e3,Zan,Zbd];have:=hr.2.1;omega
 rw[e4,iz hlt (by rw[eB,hy])]
 exact hnd
 rw[e4]at hz
 rw[e3]
 rcases gG hnd hlt hz with e | ⟨e,_⟩
 rw[e];exact hH
 exact(hin z e).more PY
 obtain⟨⟨z,z1,z2⟩,z3⟩:=h.lh q hq
 refine⟨?_,by rw[e3];exact z3.imp_right (PY _)⟩
 rw[e4]
 have hz:z∈au t.hs (ab s) t.na:=by
  unfold au
  split
  exact z1
  exact List.mem_append_left _ z1
 by_cases c:z.na=y.na
 exact⟨aX y s,List.mem_set hlt _,by rw[eB,<- c];exact z2⟩
 obtain⟨j,hj,e⟩:=Zbe.1 hz
 refine⟨z,?_,z2⟩
 have hne:o8 t.hs (ab s)≠j:=by
  rintro rfl
  rw[Zak,Zar hj]at hy
  exact c (by rw[<- e,<- hy];rfl)
 refine Zbe.2 ⟨j,by simpa using hj,?_⟩
 rw[List.getElem_set,if_neg hne];exact e
 rw[e3,e4,xS hlt,hy,List.length_set,Zan,Zbd]
 have:=Ha y s
 have:=h.po
 show (t.lk.length:Int)+_<=_
 omega
 rw[e3,e4,List.length_set,Zan,Zbd]
 have:=h.hl
 omega
theorem GI.aW{l:List BL}:∀ {t:j6},GI w n t->GI w n (l.foldl ah t):=by
 induction l with
 | nil=>exact fun h=>h
 | cons a l ih=>exact fun h=>ih h.bX
theorem GI.zero:GI w n (aG n):=⟨rfl,fun k hk=>by simp[aG]at hk,fun s hs=>by simp[aG]at hs,by simp[aG],by simp[aG],fun y hy=>by simp[aG]at hy,fun q hq=>by simp[aG]at hq,by simp[aG],by simp[aG],by simp[aG]⟩
theorem GI.call{t:j6} {i:Nat} {y':k9} {l:l5} {a7:Int} (h:GI w n t) (hi:i<t.hs.length) (hl:ab l.ad=(t.hs.getD i c5).na) (q:QL w t.lk l) (L4:y'.na=(t.hs.getD i c5).na) (hH:HI (t.lk++[l]) t.se y')
 (ho:pathOf l.ad=fX\/l.ad∈t.se) (hp1:hp y'+1<=hp (t.hs.getD i c5)) (Ze:0<=a7):GI w n ⟨t.na,a7,t.hs.set i y',t.se,t.lk++[l]⟩:=by
 refine⟨h.na,h.al.snoc q,h.se,h.sn,?_,fun z hz=>?_,fun z hz=>?_,?_,by simpa using h.hl,Ze⟩
 show ((t.hs.set i y').map (·.na)).Nodup
 rw[iz hi L4];exact h.nd
 rcases gG h.nd hi hz with e | ⟨e,e2⟩
 rw[e];exact hH
 exact(h.hi z e).other (by rw[hl];exact e2)
 show (∃ y,y∈t.hs.set i y'/\y.na=ab z.ad)/\_
 have key:∀ d,(∃ y,y∈t.hs/\y.na=d)->∃ y,y∈t.hs.set i y'/\y.na=d:=fun d ⟨y,y1,y2⟩=>by
  have:d∈(t.hs.set i y').map (·.na):=by
   rw[iz hi L4];exact List.mem_map.2 ⟨y,y1,y2⟩
  obtain⟨y,y1,y2⟩:=List.mem_map.1 this
  exact⟨y,y1,y2⟩
 rcases Zav.1 hz with hz | hz
 exact⟨key _ (h.lh z hz).1,(h.lh z hz).2⟩
 rw[Zat.1 hz]
 exact⟨key _ ⟨_,aj (d:=c5) hi,hl.symm⟩,ho⟩
 show ((t.lk++[l]).length:Int)+((t.hs.set i y').map hp).sum<=3*((t.se.length:Int)+(t.hs.set i y').length)
 rw[xS hi,List.length_set,Zan,Zbd]
 have:=h.po
 omega
theorem Hh{k:Int}(h:0<=k/\k<=2):2<=cY (k+1):=by
 unfold cY
 split
 omega
 split
 omega
 split <;> omega
theorem np{y:k9}{a7 k m:Int}(hm:0<=m/\m<=2):a7+1<=(cJ y a7 k m).re/\(k=3->a7+3<=(cJ y a7 k m).re)/\a7+(y.gr.wa:Int)<=(cJ y a7 k m).re:=by
 have:=Hh hm
 unfold cJ
 simp only
 split
 exact⟨Zaa,fun _=>by omega,Zaa⟩
 rename_i c;exact⟨Zaa,fun h=>absurd h c,Zaa⟩
theorem LR{t:j6}{i:Nat}(h:GI w n t)(hi:i<t.hs.length)(hk:(t.hs.getD i c5).kn=false)(hr:(t.hs.getD i c5).re<=t.a7)(I7:0<=t.a7/\t.a7<=5000):GI w n (OT w t i):=by
 have hy:=h.hi _ (aj (d:=c5) hi)
 unfold OT
 generalize u0:t.hs.getD i c5=y at *
 have R0:=eF hy.hn
 have Yr:=Ff hy.hn
 obtain⟨u1,u2,u3,u4,u5⟩:=hy.un hk
 have OY:=np (y:=y) (a7:=t.a7) (k:=(ae w (ag y.na) y.tr).1) (m:=y.tr) ⟨u1,u2⟩
 have hq:QL w t.lk ⟨t.a7,ag y.na,(ae w (ag y.na) y.tr).1⟩:=by
  refine⟨fun c=>absurd Yr c,fun _=>Yr,fun q hq he h3=>?_,⟨_,rfl⟩,Hv hy.hn,I7⟩
  have:=(hy.re q hq (by rw[he];exact R0)).2.1 h3
  show q.ti+3<=t.a7
  omega
 have hit:∀ x,x∈y.td->pathOf x.ad≠fX->ag y.na≠x.ad:=fun x _ hp c=>hp (by rw[<- c];exact Yr)
 have R1:∀ x,x∈y.td->aA x.ad=true/\ab x.ad=y.na/\x.ad∈t.se/\0<=x.tr/\x.tr<=2/\(pathOf x.ad≠fX->(∀ q,q∈t.lk++[⟨t.a7,ag y.na,(ae w (ag y.na) y.tr).1⟩]->q.ad=x.ad->q.ki=3)/\((Qt (t.lk++[⟨t.a7,ag y.na,(ae w (ag y.na) y.tr).1⟩]) x.ad).length:Int)=x.tr):=fun x hx=>by
  obtain⟨a1,a2,a3,a4,a5,a6⟩:=hy.it x hx
  refine⟨a1,a2,a3,a4,a5,fun hp=>⟨fun q hq he=>?_,?_⟩⟩
  rcases Zav.1 hq with hq | hq
  exact(a6 hp).1 q hq he
  rw[Zat.1 hq]at he;exact absurd he (hit x hx hp)
  rw[kC,if_neg (hit x hx hp),List.append_nil];exact(a6 hp).2
 have hcl:cls (t.lk++[⟨t.a7,ag y.na,(ae w (ag y.na) y.tr).1⟩]) y.na=cls t.lk y.na++[t.a7]:=by rw[bH,if_pos R0]
 refine h.call hi (by rw[u0];exact R0) hq ?_ ?_ (.inl Yr) ?_ I7.1
 rw[u0];unfold G';split <;> rfl
 unfold G'
 split
 rename_i hc
 obtain⟨k1,k2⟩:=hy.core (y':={ n9 w y t.a7 with tr:=y.tr+1 }) (l:=⟨t.a7,ag y.na,(ae w (ag y.na) y.tr).1⟩) R0 rfl hr OY.1 OY.2.1 OY.2.2 (fun c=>by rw[hk]at c;cases c)
 refine⟨hy.hn,R1,hy.nd,hy.gl,fun _=>⟨by show 0<=y.tr+1;omega,by show y.tr+1<=2;omega,u3,u4,?_⟩,fun c=>?_,k1,k2⟩
 show ((cls _ y.na).length:Int)=y.tr+1
 rw[hcl,Zan,Zbd];omega
 have c:y.kn=true:=c
 rw[hk]at c;cases c
 have hre:(n9 w y t.a7).re=(cJ y t.a7 (ae w (ag y.na) y.tr).1 y.tr).re:=rfl
 obtain⟨k1,k2⟩:=hy.core (y':={ n9 w y t.a7 with kn:=true,gr:=ba w t.na y.na,re:=max (n9 w y t.a7).re (t.a7+((ba w t.na y.na).wa:Int)),td:=y.td.filter (Oq (ba w t.na y.na).ru) }) (l:=⟨t.a7,ag y.na,(ae w (ag y.na) y.tr).1⟩) R0 rfl hr
  (by show t.a7+1<=max (n9 w y t.a7).re (t.a7+((ba w t.na y.na).wa:Int));rw[hre];have:=OY.1;omega)
  (fun h3=>by show t.a7+3<=max (n9 w y t.a7).re (t.a7+((ba w t.na y.na).wa:Int));rw[hre];have:=OY.2.1 h3;omega)
  (by show t.a7+((ba w t.na y.na).wa:Int)<=max (n9 w y t.a7).re (t.a7+((ba w t.na y.na).wa:Int));omega) (fun c=>by rw[hk]at c;cases c)
 refine⟨hy.hn,fun x hx=>R1 x (List.mem_filter.1 hx).1,List.Nodup.sublist (List.filter_sublist.map _) hy.nd,Zba 1,(fun c=>by cases c),fun _=>?_,k1,k2⟩
 show cls _ y.na≠[]
 rw[hcl];simp
 rw[u0]
 unfold G'
 split
 show (if y.kn=true then 0 else 3-(y.tr+1))+OF y.td+1<=hp y
 unfold hp
 rw[hk]
 simp only[Bool.false_eq_true,if_false];omega
 show (if true=true then 0 else _)+OF (y.td.filter _)+1<=hp y
 have:=DJ (Oq (ba w t.na y.na).ru) (l:=y.td) fun x hx=>(hy.it x hx).2.2.2.2.1
 unfold hp
 rw[hk]
 simp only[Bool.false_eq_true,if_false,if_true];omega
theorem ML{t:j6}{i:Nat}(h:GI w n t)(hi:i<t.hs.length)(hk:(t.hs.getD i c5).kn=true)(hne:(t.hs.getD i c5).td≠[])(hr:(t.hs.getD i c5).re<=t.a7)(I7:0<=t.a7/\t.a7<=5000):GI w n (I5 w t i):=by
 have hy:=h.hi _ (aj (d:=c5) hi)
 unfold I5
 simp only
 generalize u0:t.hs.getD i c5=y at *
 have G3:=List.length_pos_iff.2 hne
 have hit:=hy.it _ (aj (d:=j9) G3)
 have Qy:=nS hne
 have M3:(y.td.getD 0 j9).ad ∉ (y.td.drop 1).map (·.ad)/\((y.td.drop 1).map (·.ad)).Nodup:=by
  have:=hy.nd
  cases PX:y.td with
  | nil=>exact absurd PX hne
  | cons a r=>rw[PX]at this;simpa using List.nodup_cons.1 this
 generalize P6:y.td.getD 0 j9=x0 at *
 obtain⟨a1,a2,a3,a4,a5,a6⟩:=hit
 have OY:=np (y:={ y with td:=y.td.drop 1 }) (a7:=t.a7) (k:=(ae w x0.ad x0.tr).1) (m:=x0.tr) ⟨a4,a5⟩
 have hq:QL w t.lk ⟨t.a7,x0.ad,(ae w x0.ad x0.tr).1⟩:=by
  refine⟨fun c=>⟨(a6 c).1,by have:=(a6 c).2;show (Qt t.lk x0.ad).length<3;omega⟩,fun hc=>?_,fun q hq he h3=>?_,⟨_,rfl⟩,a1,I7⟩
  exfalso
  have:=hy.kn hk
  obtain⟨z,hz⟩:=List.exists_mem_of_ne_nil _ this
  obtain⟨q,q1,q2,_⟩:=oK hz
  exact hc q q1 (by rw[q2];exact a2.symm)
  have:=(hy.re q hq (by rw[he];exact a2)).2.1 h3
  show q.ti+3<=t.a7
  omega
 have hcl:cls (t.lk++[⟨t.a7,x0.ad,(ae w x0.ad x0.tr).1⟩]) y.na=cls t.lk y.na++[t.a7]:=by rw[bH,if_pos a2]
 have R1:∀ x,x∈y.td.drop 1->aA x.ad=true/\ab x.ad=y.na/\x.ad∈t.se/\0<=x.tr/\x.tr<=2/\(pathOf x.ad≠fX->(∀ q,q∈t.lk++[⟨t.a7,x0.ad,(ae w x0.ad x0.tr).1⟩]->q.ad=x.ad->q.ki=3)/\((Qt (t.lk++[⟨t.a7,x0.ad,(ae w x0.ad x0.tr).1⟩]) x.ad).length:Int)=x.tr):=fun x hx=>by
  have OG:x0.ad≠x.ad:=fun c=>M3.1 (by rw[c];exact List.mem_map.2 ⟨x,hx,rfl⟩)
  obtain⟨b1,b2,b3,b4,b5,b6⟩:=hy.it x (List.mem_of_mem_drop hx)
  refine⟨b1,b2,b3,b4,b5,fun hp=>⟨fun q hq he=>?_,?_⟩⟩
  rcases Zav.1 hq with hq | hq
  exact(b6 hp).1 q hq he
  rw[Zat.1 hq]at he;exact absurd he OG
  rw[kC,if_neg OG,List.append_nil];exact(b6 hp).2
 have I1:∀ {P:Prop},(y.kn=false->P):=fun c=>by rw[hk]at c;cases c
 have Oc:cls (t.lk++[⟨t.a7,x0.ad,(ae w x0.ad x0.tr).1⟩]) y.na≠[]:=by rw[hcl];simp
 have c1:GI w n ⟨t.na,t.a7,t.hs.set i (A6 w y t.a7),t.se,t.lk++[⟨t.a7,x0.ad,(ae w x0.ad x0.tr).1⟩]⟩:=by
  have S4:A6 w y t.a7=cJ { y with td:=y.td.drop 1 } t.a7 (ae w x0.ad x0.tr).1 x0.tr:=by unfold A6;rw[P6]
  rw[S4]
  obtain⟨k1,k2⟩:=hy.core (y':=cJ { y with td:=y.td.drop 1 } t.a7 (ae w x0.ad x0.tr).1 x0.tr) (l:=⟨t.a7,x0.ad,(ae w x0.ad x0.tr).1⟩) a2 rfl hr OY.1 OY.2.1 OY.2.2 (fun _=>rfl)
  refine h.call hi (by rw[u0];exact a2) hq (by rw[u0];rfl) ⟨hy.hn,R1,M3.2,hy.gl,I1,fun _=>Oc,k1,k2⟩ (.inr a3) ?_ I7.1
  rw[u0]
  show (if y.kn=true then 0 else 3-y.tr)+OF (y.td.drop 1)+1<=hp y
  unfold hp
  omega
 split
 rename_i hc
 have S4:({ A6 w y t.a7 with td:=y.td.drop 1++[⟨x0.ad,x0.tr+1⟩] }:k9)={ cJ { y with td:=y.td.drop 1 } t.a7 (ae w x0.ad x0.tr).1 x0.tr with td:=y.td.drop 1++[⟨x0.ad,x0.tr+1⟩] }:=by unfold A6;rw[P6]
 rw[S4]
 obtain⟨k1,k2⟩:=hy.core (y':={ cJ { y with td:=y.td.drop 1 } t.a7 (ae w x0.ad x0.tr).1 x0.tr with td:=y.td.drop 1++[⟨x0.ad,x0.tr+1⟩] }) (l:=⟨t.a7,x0.ad,(ae w x0.ad x0.tr).1⟩) a2 rfl hr OY.1 OY.2.1 OY.2.2 (fun _=>rfl)
 refine h.call hi (by rw[u0];exact a2) hq (by rw[u0];rfl) ⟨hy.hn,fun x hx=>?_,?_,hy.gl,I1,fun _=>Oc,k1,k2⟩ (.inr a3) ?_ I7.1
 rcases Zav.1 hx with hx | hx
 exact R1 x hx
 rw[Zat.1 hx]
 refine⟨a1,a2,a3,by show 0<=x0.tr+1;omega,by show x0.tr+1<=2;omega,fun hp=>⟨fun q hq he=>?_,?_⟩⟩
 rcases Zav.1 hq with hq | hq
 exact(a6 hp).1 q hq he
 rw[Zat.1 hq];exact hc.1
 show ((Qt _ x0.ad).length:Int)=x0.tr+1
 rw[kC,if_pos rfl,Zan,Zbd]
 have:=(a6 hp).2
 omega
 show ((y.td.drop 1++[(⟨x0.ad,x0.tr+1⟩:w5)]).map (·.ad)).Nodup
 rw[Za9,List.nodup_append]
 refine⟨M3.2,Zab,fun a ha b hb e=>?_⟩
 subst e
 have hb:a=x0.ad:=by simpa using hb
 subst hb
 exact M3.1 ha
 rw[u0]
 show (if y.kn=true then 0 else 3-y.tr)+OF (y.td.drop 1++[⟨x0.ad,x0.tr+1⟩])+1<=hp y
 have:OF [⟨x0.ad,x0.tr+1⟩]=3-(x0.tr+1):=by simp[OF]
 unfold hp
 rw[Cf]
 omega
 exact c1.aW
theorem DO(t:j6):∀ i,i<=t.hs.length->(J8 t i=(-1,0))\/∃ j:Nat,(J8 t i).1=(j:Int)/\(J8 t i).2=max (t.hs.getD j c5).re t.a7
 | 0,_=>.inl rfl
 | i+1,hi=>by
   rw[lJ Zaa]
   unfold mq
   split
   exact .inr ⟨i,rfl,rfl⟩
   exact DO t i Zaa
theorem uy{t:j6}(h:D1 t=true):n6 t=max (t.hs.getD (j8 t) c5).re t.a7:=by
 unfold D1 at h
 rw[Zam]at h
 have h1:=h.1
 unfold j8 n6
 unfold jo at h1 ⊢
 split at h1
 cases h1
 rename_i c
 rw[if_neg c]
 rcases DO t _ (Zba _) with e | ⟨j,e1,e2⟩
 rw[e]at c;exact absurd (.inl Zad) c
 simp only[Option.map_some,Option.getD_some,e1,e2,Int.toNat_natCast]
theorem xc{t:j6}(h:D1 t=true):(t.hs.getD (j8 t) c5).re<=n6 t:=by have:=uy h;omega
theorem GI.at_{t:j6}{a7:Int}(h:GI w n t)(hn:0<=a7):GI w n { t with a7:=a7 }:=⟨h.na,h.al,h.se,h.sn,h.nd,h.hi,h.lh,h.po,h.hl,hn⟩
theorem eN{t:j6}(h:GI w n t)(hg:D1 t=true):GI w n (y8 w t):=by
 have hx:=eR hg
 have hr:=xc hg
 have hno:=h.no
 have hw:0<=n6 t/\n6 t<=5000:=⟨Zaa,hx.2.2.2⟩
 unfold y8
 split
 rename_i hk
 exact ML (h.at_ hw.1) hx.1 hk hx.2.1 hr hw
 rename_i hk
 exact LR (h.at_ hw.1) hx.1 (by simpa using hk) hr hw
theorem qH:∀ (k:Nat) {t:j6},GI w n t->GI w n (z6 w k t)
 | 0,_,h=>h
 | k+1,t,h=>by
   unfold z6
   split
   rename_i hg;exact qH k (eN h hg)
   exact h
theorem eA{seeds:List BL}{t:j6}(h:aw n seeds=some t):GI w n t:=by
 unfold aw at h
 split at h
 cases h;exact GI.zero.aW
 cases h
theorem fc{seeds:List BL}{t:j6}(h:aw n seeds=some t):ax t=true:=by
 have hg:=eA (w:=[]) h
 unfold aw at h
 split at h
 case isFalse=>cases h
 rename_i hc
 have hn:=lE n seeds (lQ n)
 rw[Option.some.inj h]at hn
 have hI:∀ {a b c:Int},a<=b->b<=c->x4 b a c=true:=fun h1 h2=>decide_eq_true ⟨h1,h2⟩
 unfold ax
 simp only[Zam,Za0,Zbi]
 refine⟨⟨⟨⟨⟨by rw[hn.na];exact hc.1,by rw[hn.a7];decide⟩,?_⟩,by rw[hn.lk];rfl⟩,fun y hy=>⟨?_,?_⟩⟩,hg.nd⟩
 unfold dk
 simp only[Zam,Za0,Zbi]
 exact⟨⟨hg.sn.2,hg.sn.1⟩,hg.se⟩
 obtain⟨b1,b2,_,b4,b5⟩:=hn.hs y hy
 unfold dr
 rw[b1,b2,b4,b5,hn.na]
 simp only[Zam,Bool.false_eq_true,if_false,Zbi]
 exact⟨⟨⟨⟨(hg.hi y hy).hn,Zad⟩,Zad⟩,Zab⟩,Zab⟩
 have hI:=hg.hi y hy
 unfold dg
 simp only[Zam,Za0,Zbi]
 refine⟨⟨?_,fun x hx=>?_⟩,hI.nd⟩
 have:=je (u:=t.se) hI.nd fun a ha=>by
  obtain⟨x,hx,e⟩:=List.mem_map.1 ha
  rw[<- e];exact(hI.it x hx).2.2.1
 simpa using this
 obtain⟨a1,a2,a3,a4,a5,_⟩:=hI.it x hx
 exact⟨⟨⟨a1,by simpa using a2⟩,by simpa using a3⟩,decide_eq_true ⟨a4,a5⟩⟩
end
def dE(w:List Pg)(n:BL)(seeds:List BL):o6 Tryz.prog:=.mk 10 [cC w,sV n,ao seeds] [] ((w.length<=30)/\(∀ i,m4 (w.getD i l9))/\(n.length<=1000)/\(seeds.length<=400)/\(∀ x,x∈seeds->x.length<=1000/\l8 x)) (bV ((aw n seeds).isSome&&ai w)) [] (by
 rintro⟨hw,hz,hn,hl,ha⟩
 refine aB (N:=20) (rs:=[.tmp 6]) Tryz.func10
  (.q 1<|.q 2<|.c (wb n seeds) []<|.mv<|.mv<|.q 1<|.al fo (fun g7=>.st none<|.q 1<|.q 3<|.cg (ze w)<|.q 2<|.nil))
  ((wb n seeds).sm/\((n.length<=1000)/\(seeds.length<=1000)/\(∀ x,x∈seeds->x.length<=1000/\l8 x))/\∀ g7:Nat,Z g7 0/\Gd (((aw n seeds).isSome)==true) (((w.length<=1000)/\(∀ i,(w.getD i l9).addr.length<=1000000/\(w.getD i l9).lead.length<=1000000))/\(ze w).sm)/\Pk ((aw n seeds).isSome) (((aw n seeds).isSome)==true) true/\Q (bV (((aw n seeds).isSome)&&(ai w))) (bV ((aw n seeds).isSome&&ai w))) ?_
 refine⟨rfl,⟨hn,Zaa,ha⟩,?_⟩
 intro g7
 refine⟨rfl,fun hG=>⟨⟨by(try simp only[nb]at hG);omega,fun i=>⟨by have:=(hz i).a;omega,by have:=(hz i).l;omega⟩⟩,rfl⟩,⟨fun h=>by rw[h] <;> rfl,fun _=>rfl⟩,?_⟩
 unfold Q
 rfl)
section
open Go Go.ChangeShapes Go.RowKit
theorem nk{H:Type} {enc:TypeId×Value->H} {P:Program} {t e:TypeId} (ht:P.underlying t=some (.slice e)) (he:P.underlying e=some (.int .u8)) (hc:P.cellsOf e=1) {W:World} {a0:Option Addr} {len cap:Nat} {d0:DataW H} {p:List MemPlace}
 (h0:DataW.Trod enc P W 0 (fun _=>true) true t (.slice a0 len cap) d0 p):∃ b:BL,b.length=len/\len<=9223372036854775807/\RVs W (· < W.heap.size) [.sl false (b.map n7)] [.slice a0 len cap] []:=by
 have mk:∀ (b:BL),b.length=len->len<=cap->(b=[]\/∃ g o,a0=some ⟨g,o,none⟩/\g<W.heap.size/\∀ j u,(b.map fun c=>Value.int .u8 c.toNat)[j]? =some u->W.cell? ⟨g,o+j,none⟩=some u)->RVs W (· < W.heap.size) [.sl false (b.map n7)] [.slice a0 len cap] []:=by
  intro b hb hl hx
  refine⟨_,[],[],[],rfl,rfl,?_,rfl,rfl⟩
  refine⟨rfl,a0,cap,by rw[Zaw,hb],by rw[Zaw,hb];exact hl,(fun h=>by cases h),?_⟩
  rcases hx with rfl | ⟨g,o,rfl,hg,s8⟩
  exact .inl rfl
  refine .inr ⟨g,o,1,b.map (fun c=>Value.int .u8 c.toNat),rfl,hg,Zaa,?_,?_,s8⟩
  intro x hx
  obtain⟨c,_,rfl⟩:=List.mem_map.1 hx
  rfl
  clear s8 hb
  induction b with
  | nil=>exact⟨rfl,rfl⟩
  | cons c r ih=>exact⟨[.int .u8 c.toNat],r.map (fun c=>Value.int .u8 c.toNat),[],[],rfl,rfl,⟨rfl,rfl,rfl⟩,ih⟩
 obtain⟨fuel,hf⟩:=h0
 rcases open_ints ht he hc hf with ⟨hcs,hx⟩ | ⟨a,len',cap',zs,hcs,_,hl,hm,hz,hx,s8,hwz⟩
 simp[Value.cells]at hcs
 obtain⟨rfl,rfl,rfl⟩:=hcs
 exact⟨[],rfl,Zaa,mk [] rfl (Zba _) (.inl rfl)⟩
 simp[Value.cells]at hcs
 obtain⟨rfl,rfl,rfl⟩:=hcs
 simp only[if_true]at hz
 have TT:maxLen=9223372036854775807:=rfl
 have hb:((zs.take len).map fun z=>UInt8.ofNat z.toNat).length=len:=Zaj
 refine⟨(zs.take len).map fun z=>UInt8.ofNat z.toNat,hb,Zaa,mk _ hb hl ?_⟩
 by_cases h0:len=0
 left;exact Za3 Zaa
 right
 obtain⟨g,o,s⟩:=a
 have Rj:=s8 0 Zaa
 obtain rfl:s=none:=by simpa[Addr.add] using World.cell?_spot Rj
 refine⟨g,o,rfl,by have:=World.block_lt_of_cell? _ _ Rj;simpa[Addr.add] using this,fun j u hu=>?_⟩
 rw[List.getElem?_map,List.getElem?_map,List.getElem?_take]at hu
 split at hu
 rename_i hj
 have Yk:j<zs.length:=Zaa
 rw[Zar Yk]at hu
 simp only[Option.map_some,Zal]at hu
 have hw:=hwz zs[j] (List.getElem_mem Yk)
 have ZA:0<=zs[j]/\zs[j]<256:=by
  have h1:IntKind.u8.min=0:=rfl
  have h2:IntKind.u8.max=255:=rfl
  simp only[Lit.wf,Zam,Zbi]at hw
  omega
 have hcj:=s8 j Yk
 have ea:(⟨g,o,none⟩:Addr).add j=⟨g,o+j,none⟩:=by unfold Addr.add;by_cases h0:j=0 <;> simp[h0]
 rw[ea]at hcj
 rw[hcj,<- hu]
 simp only[Zak,Zar Yk,Option.getD_some,Zal,Value.int.injEq,true_and]
 rw[UInt8.toNat_ofNat_of_lt' (by show zs[j].toNat<256;omega)]
 omega
 simp at hu
theorem mg{P:Program}{n:String}{d:DataW Unit}{r:List (String×DataW Unit)}{W:World}{g:Nat}{x:Value}(h:laidMet P ((n,d)::r) W)(hg:P.globalNamed n=some g)(hv:W.var? P n=some #[x]):∃ t,W.heap[g]? =some (.cells #[x] t (0,0)):=by
 obtain⟨ps,⟨g0,t0,cs0,f0,p0,q0,S3,_,hv0,_,_,e0⟩,_,Xz⟩:=h
 obtain rfl:=Option.some.inj (hg.symm.trans S3)
 obtain rfl:=Option.some.inj (hv.symm.trans hv0)
 subst e0
 obtain⟨c,t,hc⟩:=(Xz g 0 (by simp[MemPlace.row])).1
 refine⟨t,?_⟩
 unfold World.var? at hv
 rw[hg,Option.bind_some,hc]at hv
 rw[hc]
 simpa using hv
theorem yC{w:World}{Pb Pb':Nat->Prop}:∀ {b:BL} {cs:List Value},RL w Pb (b.map n7) cs []->RL w Pb' (b.map n7) cs []/\∀ c r,b=c::r->∃ k,cs[0]? =some (.int .u8 k)
 | [],cs,h=>⟨h,fun c r e=>by cases e⟩
 | c::b,cs,h=>by
   obtain⟨c1,c2,F1,F2,rfl,e,h1,h2⟩:=h
   obtain⟨rfl,rfl⟩:=List.append_eq_nil_iff.1 e.symm
   obtain⟨k1,k2,_⟩:=h1
   subst k2
   exact⟨⟨_,c2,[],[],rfl,rfl,⟨k1,rfl,rfl⟩,(yC h2).1⟩,fun c r e=>⟨_,rfl⟩⟩
theorem u8_in{W:World}{b:BL}{v x:Value}{t:TypeId}(hv:RVs W (· < W.heap.size) [.sl false (b.map n7)] [v] [])(h0:W.heap[0]? =some (.cells #[x] t (0,0)))(hx:∀ k,x≠.int .u8 k):
 R W (fun g=>g<W.heap.size/\g≠0) (.sl false (b.map n7)) [v] []:=by
 obtain⟨x,xs,Fa,Fb,e1,e2,k1,k2⟩:=(wR _).1 hv
 simp only[List.cons.injEq]at e1
 obtain⟨rfl,rfl⟩:=e1
 have e3:Fa=[]:=(List.append_eq_nil_iff.1 e2.symm).1
 subst e3
 have k1:R W (· < W.heap.size) (.sl false (b.map n7)) [v] []:=k1
 obtain⟨_,A,c,hA,hl,hf,OW⟩:=k1
 refine⟨rfl,A,c,hA,hl,hf,?_⟩
 rcases OW with OW | ⟨bl,o,sz,flat,q1,q2,q3,q4,q5,q6⟩
 exact .inl OW
 obtain⟨r1,r2⟩:=yC (Pb':=fun g=>g<W.heap.size/\g≠0) q5
 cases XU:b with
 | nil=>exact .inl rfl
 | cons c0 b0=>
   obtain⟨k,hk⟩:=r2 c0 b0 XU
   refine .inr ⟨bl,o,sz,flat,q1,⟨q2,?_⟩,q3,by rw[<- XU];exact q4,by rw[<- XU];exact r1,q6⟩
   rintro rfl
   have:=q6 0 _ hk
   rw[Nat.add_zero]at this
   simp only[World.cell?,h0]at this
   cases o with
   | zero=>
     exact hx k (by simpa using this)
   | succ o=>simp at this
theorem Jo{P:Program} {f:FuncId} {T:TypeId} {vs:List V} {ea:Addr} {W:World} {t:TypeId}
 (h:PF P f vs [(9000,(0,.lit (.iface T (.pointer (some ea)))))] (fun r h=>r=bV true/\h=[(9000,(0,.lit (.iface T (.pointer (some ea)))))])) {xs:List Value} (hl:xs.length=vs.length)
 (hv:∀ (i:Nat) (w:V) (x:Value),vs[i]? =some w->xs[i]? =some x->RV W (fun g=>g<W.heap.size/\g≠0) w x []) (h0:W.heap[0]? =some (.cells #[.iface T (.pointer (some ea))] t (0,0))):
 Calls P f xs.toArray W fun e W'=>e=.returned (.bool true)/\Below W.heap.size W W':=by
 have c5:0<W.heap.size:=(Zbf.1 h0).1
 let F:m0->List Nat:=fun r=>match r with
  | .key k=>if k=9000 then [0] else []
  | .slot _=>[]
 have hi:YE W (fun g=>g<W.heap.size/\g≠0) (fun g=>g<W.heap.size/\g≠0) vs xs [(9000,(0,.lit (.iface T (.pointer (some ea)))))] F:=by
  have hF:∀ r g,g∈F r->r=.key 9000/\g=0:=fun r g hg=>by
   cases r with
   | slot i=>simp[F]at hg
   | key k=>
     simp only[F]at hg
     split at hg
     rename_i e;exact⟨by rw[e],by simpa using hg⟩
     simp at hg
  refine⟨hl,fun i w x hx hy=>hv i w x hx hy,fun k g w hk=>?_,fun i hi=>rfl,fun r r' hne g h1 h2=>?_,fun r=>?_,fun r g hg=>?_,fun _ h=>h,fun _ h=>h.1⟩
  simp only[lk]at hk
  split at hk
  rename_i e
  subst e
  simp only[Zal,Zao]at hk
  obtain⟨rfl,rfl⟩:=hk
  refine⟨[],by simp[F],[.iface T (.pointer (some ea))],#[.iface T (.pointer (some ea))],⟨t,(0,0),h0,fun i _ h=>by omega⟩,⟨rfl,rfl,rfl⟩,fun j u hu=>?_⟩
  cases j with
  | zero=>simpa using hu
  | succ j=>simp at hu
  cases hk
  exact hne ((hF r g h1).1.trans (hF r' g h2).1.symm)
  cases r with
  | slot i=>exact Za8
  | key k=>simp only[F];split <;> simp
  obtain⟨_,rfl⟩:=hF r g hg
  exact⟨fun c=>c.2 rfl,c5⟩
 refine(h.2 W _ _ xs F hi).mono ?_
 rintro e W' ⟨r,x,H',Pb',E2,F',rfl,⟨rfl,rfl⟩,hf⟩
 have G9:=hf.val
 obtain⟨_,e1,_⟩:=G9
 simp only[List.cons.injEq,and_true]at e1
 refine⟨by rw[e1],hf.fF.os,hf.fF.tape,hf.fF.output,hf.fF.size,fun k hk=>?_⟩
 by_cases RZ:k=0
 subst RZ
 obtain⟨c',k1,k2⟩:=hf.fF.shape 0 _ _ _ h0
 obtain⟨F1,_,cs,cells,⟨e',YA,k3,_⟩,⟨_,k4,_⟩,k5⟩:=hf.root 9000 0 (.lit (.iface T (.pointer (some ea)))) rfl
 subst k4
 rw[k1]at k3
 simp only[Zal,Obj.cells.injEq]at k3
 obtain⟨rfl,_,_⟩:=k3
 have k6:=k5 0 _ rfl
 rw[h0,k1]
 congr 1
 congr 1
 apply Array.ext
 simpa using k2
 intro i h1 h2
 have hi:i=0:=by simp at h2;exact h2
 subst hi
 have:c'[0]? =some (Value.iface T (.pointer (some ea))):=by simpa using k6
 rw[Array.getElem?_eq_getElem h1]at this
 simpa using this
 exact hf.fF.block k ⟨hk,RZ⟩
theorem oh{P:Program} {f:FuncId} {T:TypeId}
 (h:∀ (b:BL) (ea:Addr),b.length<=9223372036854775807->PF P f [.sl false (b.map n7)] [(9000,(0,.lit (.iface T (.pointer (some ea)))))] (fun r h=>r=bV true/\h=[(9000,(0,.lit (.iface T (.pointer (some ea)))))]))
 {W:World} {v:Value} {b:BL} {ea:Addr} {t:TypeId} (hb:b.length<=9223372036854775807) (hv:RVs W (· < W.heap.size) [.sl false (b.map n7)] [v] []) (h0:W.heap[0]? =some (.cells #[.iface T (.pointer (some ea))] t (0,0))):
 Calls P f #[v] W fun e W'=>e=.returned (.bool true)/\Below W.heap.size W W':=
 Jo (h b ea hb) (xs:=[v]) rfl (fun i w x hx hy=>by
  cases i with
  | succ i=>simp at hx
  | zero=>
    simp only[List.getElem?_cons_zero,Zal]at hx hy
    subst hx hy
    exact u8_in hv h0 fun k e=>by cases e) h0
theorem BQ{P:Program} {f:FuncId} {T:TypeId}
 (h:∀ (b c:BL) (ea:Addr),b.length<=9223372036854775807->c.length<=9223372036854775807->PF P f [.sl false (b.map n7),.sl false (c.map n7)] [(9000,(0,.lit (.iface T (.pointer (some ea)))))] (fun r h=>r=bV true/\h=[(9000,(0,.lit (.iface T (.pointer (some ea)))))]))
 {W:World} {v u:Value} {b c:BL} {ea:Addr} {t:TypeId} (hb:b.length<=9223372036854775807) (hc:c.length<=9223372036854775807) (hv:RVs W (· < W.heap.size) [.sl false (b.map n7)] [v] []) (hu:RVs W (· < W.heap.size) [.sl false (c.map n7)] [u] []) (h0:W.heap[0]? =some (.cells #[.iface T (.pointer (some ea))] t (0,0))):
 Calls P f #[v,u] W fun e W'=>e=.returned (.bool true)/\Below W.heap.size W W':=
 Jo (h b c ea hb hc) (xs:=[v,u]) rfl (fun i w x hx hy=>by
  match i with
  | i+2=>simp at hx
  | 0=>
    simp only[List.getElem?_cons_zero,Zal]at hx hy
    subst hx hy
    exact u8_in hv h0 fun k e=>by cases e
  | 1=>
    simp only[List.getElem?_cons_succ,List.getElem?_cons_zero,Zal]at hx hy
    subst hx hy
    exact u8_in hu h0 fun k e=>by cases e) h0
end
end Go.Proofs.YtelggdgnblpjdaaGreatDoor