/-
  Words and walks for the laws of pedlar's seat: what each function of the program computes, and that it does; no conditions beyond those that each statement names.
-/
import Derived.Test.YtngholilfbdfkabGreatDoorGC
import Derived.Test.YtngholilfbdfkabGreatDoorGB
set_option linter.unusedVariables false
set_option linter.unusedSimpArgs false
set_option linter.unnecessarySimpa false
set_option linter.unusedSectionVars false
namespace Go.Proofs.YtngholilfbdfkabGreatDoor
open Go Go.RowKit
set_option maxRecDepth 20000
abbrev fe(p0:V):V:=.agg [ p0,bV true]
abbrev ff(p0:List l7)(p1:Bool):V:=.agg [.ow 3 (p0.map az),bV p1]
theorem HD(gs:List l7)(b:Bool)(g:Nat)(n:BL)(hg:gs.length<=1000)(hn:∀ y,y∈gs->y.na.length<=1000/\y.ru.length<=6):PF Tryz.prog 211 [kp 1000 g,.lit (.iface 248 (.agg #[.string (Str n)]))] [(1000,(g,ff gs b))] (fun r h=>r=(.tup [])/\h=[(1000,(g,ff ((lO gs b n).1) ((lO gs b n).2)))]):=by
 refine aq Tryz.func211
  (.oR (.key 1000) [0] (fun gr fr cr=>.q 1<|.cu (YS (.agg [sV n])) (fun _=>.q 3<|.al my (fun g4=>.st none<|.q 1<|.q 2<|.gt<|.q 1<|.gt<|.q 1<|.gt<|.q 1<|.gt<|.o6<|.gt<|.q 1<|.gt<|.q 1<|.gt<|.r 5 [.b9]<|.gt<|.q 2<|.br (.C6 11 [(4,n6 [1000] [34]),(6,n6 [4] [36]),(7,⟨true,[],none,[37],[]⟩),(10,⟨true,[],none,[40],[1000]⟩)]<|.l8 4<|.o6<|.q 1<|.o6<|.eu boE (fun PR=>.bd fB<|.bs<|.ux none (fun H5 H3 K1=>.h (.m8 40 (.own 3 (gs.map az++[(.agg [.hd (.slot 37) [] 1 PR 0 0 (([n].map sV).length) 1,.sl true [],iN 0]:V)]) H5 H3 K1))<|.q 2<|.h (.Rk (.slot 40) [gs.length,0] H5 (H3+(gs.length)*3+0) 37)<|.h (.m8 40 (.own 3 (gs.map az++[(.agg [.own 1 ([n].map sV) PR 0 1,.sl true [],iN 0]:V)]) H5 H3 K1))<|.h (.SB (.slot 40) [gs.length,1] H5 (H3+(gs.length)*3+1) 2)<|.h (.m8 40 (.own 3 (gs.map az++[(.agg [.own 1 ([n].map sV) PR 0 1,.own 2 ([].map au) 0 0 0,iN 0]:V)]) H5 H3 K1))<|.h (.Pw (.slot 40) [gs.length,0] H5 (H3+(gs.length)*3+0) (.own 1 ([n].map sV) PR 0 1) (.ow 1 ([n].map sV)))<|.h (.m8 40 (.own 3 (gs.map az++[(.agg [.ow 1 ([n].map sV),.own 2 ([].map au) 0 0 0,iN 0]:V)]) H5 H3 K1))<|.h (.Pw (.slot 40) [gs.length,1] H5 (H3+(gs.length)*3+1) (.own 2 ([].map au) 0 0 0) (.ow 2 ([].map au)))<|.h (.m8 40 (.own 3 (gs.map az++[(.agg [.ow 1 ([n].map sV),.ow 2 ([].map au),iN 0]:V)]) H5 H3 K1))<|.h (.m8 40 (.own 3 ((gs++[(⟨[n],[],0⟩:l7)]).map az) H5 H3 K1))<|.st none<|.q 3<|.st none<|.nil))) (.r 6 [.b9]<|.br (.nil) (.ex (List l7×l7) (fun z=>gs=z.1++[z.2]) (fun (z:List l7×l7)=>(fun y1:V->V=>(.h (.s8 1000 (y1 (ft z.2:V)))<|.C6 10 [(3,n6 [1000] [55]),(7,n6 [1000] [59])]<|.l8 3<|.o6<|.l8 3<|.o6<|.l8 2<|.h (.m8 61 (iN z.1.length))<|.q 2<|.q 1<|.cu (YS (.agg [sV n])) (fun _=>.q 2<|.br (.al my (fun g7=>.st none<|.QV (.key 1000) [0,0+z.1.length,0] gr (fr+(0+z.1.length)*3+0) 1 (z.2.na.map sV) (fun gA oA cA=>.h (.s8 1000 (y1 (oh z.2.na gA oA cA z.2.ru z.2.wa:V)))<|.C6 9 [(4,n6 [1000] [71]),(6,n6 [7] [73]),(8,⟨true,[],none,[75],[1000]⟩)]<|.l8 4<|.r 1 [.own 1 (z.2.na.map sV) gA oA cA]<|.q 1<|.o6<|.bs<|.eu (X0 1000 [0,0+z.1.length,0] (z.2.na.map sV) ([sV n]:List V) gr (fr+(0+z.1.length)*3+0) 1 gA oA cA) (fun Ps=>.h (.s8 1000 (y1 (.agg [.b9,.ow 2 (z.2.ru.map au),iN z.2.wa]:V)))<|.h (.m8 75 (.own 1 ((z.2.na++[n]).map sV) Ps.1 Ps.2.1 Ps.2.2))<|.q 2<|.st (some (.b9))<|.h (.s8 1000 (y1 (oh (z.2.na++[n]) Ps.1 Ps.2.1 Ps.2.2 z.2.ru z.2.wa:V)))<|.h (.Pw (.key 1000) [0,0+z.1.length,0] gr (fr+(0+z.1.length)*3+0) (.own 1 ((z.2.na++[n]).map sV) Ps.1 Ps.2.1 Ps.2.2) (.ow 1 ((z.2.na++[n]).map sV)))<|.h (.s8 1000 (y1 (ik (z.2.na++[n]) z.2.ru z.2.wa:V)))<|.h (.s8 1000 (.agg [.own 3 ((z.1++[(⟨z.2.na++[n],z.2.ru,z.2.wa⟩:l7)]).map az) gr fr cr,bV b]))<|.nil)))) (.nil)):Sc Tryz.prog)) (fun r:V=>(.agg [.own 3 (z.1.map az++[r]) gr fr cr,bV b])))))))))
  ((fun (v6 v4 v3:V) (v5:List V) (v2:Nat) (v1:Bool)=>(∀ gr fr cr:Nat,((∃ td,Tryz.prog.underlying 248=some td/\∀ i,td≠.interface i)/\((248:Nat)=248)/\((.agg #[.string (Str n)]:Value)=.agg #[.string (Str n)]))/\∀ _:Unit,∀ g4:Nat,Z g4 0/\(true=true)/\(true=true)/\True/\(true=true)/\(true=true)/\Z g 0/\(true=true)/\(true=true)/\(true=true)/\Gd (v1==false) True/\Gd (v1==false) (Z g 1)/\(true=true)/\Pk v1 true (v1==false)/\Pk true true true/\Br (true&&(v1||b)) (True/\Z g 0/\Z g4 0/\True/\∀ PR:Nat,(fun (v10 v9 v8:V) (v7:List V)=>(((3,3,gr,fr,cr,(gs.map az).length)=(3,3,gr,fr,cr,(gs.map az).length))/\(V.ax v7=false)/\(aS 3 v7)/\(((gs.map az).length+v7.length)*56<=140737488355328))/\∀ H5 H3 K1:Nat,(fun v11:V->V=>((.own 3 ((gs.map az)++v7) H5 H3 K1:V)=.own 3 (gs.map az++[v9]) H5 H3 K1)/\True/\(V.at H5 H3 (v11 v9) [gs.length,0]=some (H5,H3+(gs.length)*3+0,.hd (.slot 37) [] 1 PR 0 0 v2 1))/\(V.set (v11 v9) [gs.length,0] (.own 1 ([n].map sV) PR 0 1)=.own 3 (gs.map az++[v10]) H5 H3 K1)/\(V.at H5 H3 (v11 v10) [gs.length,1]=some (H5,H3+(gs.length)*3+1,.sl true []))/\(V.set (v11 v10) [gs.length,1] (.own 2 ([].map au) 0 0 0)=.own 3 (gs.map az++[v8]) H5 H3 K1)/\(V.at H5 H3 (v11 v8) [gs.length,0]=some (H5,H3+(gs.length)*3+0,.own 1 ([n].map sV) PR 0 1))/\(V.set (v11 v8) [gs.length,0] (.ow 1 ([n].map sV))=.own 3 (gs.map az++[v3]) H5 H3 K1)/\(V.at H5 H3 (v11 v3) [gs.length,1]=some (H5,H3+(gs.length)*3+1,.own 2 ([].map au) 0 0 0))/\(V.set (v11 v3) [gs.length,1] (.ow 2 ([].map au))=.own 3 (gs.map az++[v6]) H5 H3 K1)/\((.own 3 (gs.map az++[v6]) H5 H3 K1:V)=.own 3 ((gs++[(⟨[n],[],0⟩:l7)]).map az) H5 H3 K1)/\Z g 0/\True/\Z g 1/\Q (.tup []) (.tup [])/\Qr g (.agg [.ow 3 ((gs++[(⟨[n],[],0⟩:l7)]).map az),bV false]) g v4) (fun r:V=>(.own 3 (gs.map az++[r]) H5 H3 K1))) (.agg [.own 1 ([n].map sV) PR 0 1,.sl true [],iN 0]:V) (.agg [.hd (.slot 37) [] 1 PR 0 0 v2 1,.sl true [],iN 0]:V) (.agg [.own 1 ([n].map sV) PR 0 1,.own 2 ([].map au) 0 0 0,iN 0]:V) ([.agg [.hd (.slot 37) [] 1 PR 0 0 v2 1,.sl true [],iN 0]]:List V)) (True/\Z g 0/\Br v1 (Q (.tup []) (.tup [])/\Qr g (ff gs b) g v4) ((∃ z:List l7×l7,gs=z.1++[z.2])/\∀ z:List l7×l7,(gs=z.1++[z.2])->(fun (D0 z6:List V) (D2 w6:V) (v12:V->V)=>((.agg [.own 3 (gs.map az) gr fr cr,bV b]:V)=(v12 D2))/\True/\Z g 0/\True/\Z g 0/\m5 ((((z.1.map az++[D2]).length:Nat):Int)-1)/\Q (iV ((((z.1.map az++[D2]).length:Nat):Int)-1)) (iN z.1.length)/\In (z.1.length:Int) ((z.1.map az++[D2]).length)/\((∃ td,Tryz.prog.underlying 248=some td/\∀ i,td≠.interface i)/\((248:Nat)=248)/\((.agg #[.string (Str n)]:Value)=.agg #[.string (Str n)]))/\∀ _:Unit,Br true (∀ g7:Nat,Z g7 0/\(V.at g 0 (v12 D2) [0,0+z.1.length,0]=some (gr,fr+(0+z.1.length)*3+0,.ow 1 z6))/\∀ gA oA cA:Nat,(fun E5:V=>(V.set (v12 D2) [0,0+z.1.length,0] (.own 1 z6 gA oA cA)=(v12 E5))/\True/\(V.at g 0 (v12 E5) [0,0+z.1.length,0]=some (gr,(fr+(0+z.1.length)*3+0),.own 1 z6 gA oA cA))/\Z g7 0/\(v5=v5/\((.hd (.key 1000) [0,0+z.1.length,0] 1 gA oA 0 (z6.length) cA:V)=.hd (.key 1000) [0,0+z.1.length,0] 1 gA oA 0 (z6.length) cA)/\(V.at g 0 (v12 E5) [0,0+z.1.length,0]=some (gr,fr+(0+z.1.length)*3+0,.own 1 z6 gA oA cA))/\((1:Nat)=1)/\(V.ax v5=false)/\(aS 1 v5)/\((z6.length+v5.length)*16<=140737488355328))/\∀ Ps:Nat×Nat×Nat,(fun F6:V=>(V.set (v12 E5) [0,0+z.1.length,0] (.b9)=(v12 w6))/\((.own 1 (z6++v5) Ps.1 Ps.2.1 Ps.2.2:V)=.own 1 D0 Ps.1 Ps.2.1 Ps.2.2)/\True/\(V.at g 0 (v12 w6) [0,0+z.1.length,0]=some (gr,(fr+(0+z.1.length)*3+0),.b9))/\(V.set (v12 w6) [0,0+z.1.length,0] (.own 1 D0 Ps.1 Ps.2.1 Ps.2.2)=(v12 F6))/\(V.at g 0 (v12 F6) [0,0+z.1.length,0]=some (gr,fr+(0+z.1.length)*3+0,.own 1 D0 Ps.1 Ps.2.1 Ps.2.2))/\(V.set (v12 F6) [0,0+z.1.length,0] (.ow 1 D0)=(v12 (ik (z.2.na++[n]) z.2.ru z.2.wa:V)))/\((.agg [.own 3 (z.1.map az++[(ik (z.2.na++[n]) z.2.ru z.2.wa:V)]) gr fr cr,bV b]:V)=.agg [.own 3 ((z.1++[(⟨z.2.na++[n],z.2.ru,z.2.wa⟩:l7)]).map az) gr fr cr,bV b])/\Q (.tup []) (.tup [])/\Qr g (ff (z.1++[(⟨z.2.na++[n],z.2.ru,z.2.wa⟩:l7)]) b) g v4) (oh (z.2.na++[n]) Ps.1 Ps.2.1 Ps.2.2 z.2.ru z.2.wa:V)) (oh z.2.na gA oA cA z.2.ru z.2.wa:V)) (False)) ((z.2.na++[n]).map sV) (z.2.na.map sV) (ft z.2:V) (.agg [.b9,.ow 2 (z.2.ru.map au),iN z.2.wa]:V) (fun r:V=>(.agg [.own 3 (z.1.map az++[r]) gr fr cr,bV b])))))) (.agg [.ow 1 ([n].map sV),.ow 2 ([].map au),iN 0]:V) (ff ((lO gs b n).1) ((lO gs b n).2)) (.agg [.ow 1 ([n].map sV),.own 2 ([].map au) 0 0 0,iN 0]:V) ([sV n]:List V) (([n].map sV).length) (o4 (((gs.map az).length:Nat):Int) 0)) ?_
 intro gr fr cr;refine⟨⟨⟨_,Tryz.underlying248,Zdq⟩,ak⟩,fun _=>fun g4=>za (fW (bI (fun j7=>?_) fun j7=>?_))⟩;refine cF fun PR=>⟨ak,fun H5 H3 K1=>⟨Zbm (V.own 3 · H5 H3 K1) (rfl),trivial,Zdc,Zdd,Zdc,Zdd,Zdc,Zdd,Zdc,Zdd,Zbm (V.own 3 · H5 H3 K1) (by rw[Zbb (f:=az)];rfl),aX ⟨?_,by rw[show lO gs b n=(gs++[⟨[n],[],0⟩],false) from if_pos (j7.imp (fun h=>Za5 Zbq) id)]⟩⟩⟩;rfl
 · refine aQ (bI (fun l3=>?_) fun l3=>?_)
   · all_goals (simp_all)
   · refine⟨jY (gZ Zac),fun z hz=>?_⟩;have Sb:=hn z.2 (by rw[hz];simp);have Wx:gs.length=z.1.length+1:=by rw[hz];simp
     refine⟨Zdr,ej ⟨Zds,ag ⟨⟨⟨_,Tryz.underlying248,Zdq⟩,ak⟩,?_⟩⟩⟩;intro _;refine bI (fun m7=>?_) fun m7=>?_;intro g7;refine⟨rfl,Zdt,fun gA oA cA=>⟨Zdu,trivial,Zdt,rfl,⟨rfl,rfl,Zdt,ak⟩,fun Ps=>⟨Zdu,Zbm (V.own 1 · Ps.1 Ps.2.1 Ps.2.2) Zad,trivial,Zdt,Zdu,Zdt,Zdu,Zdv,⟨?_,by rw[show lO gs b n=(z.1++[⟨z.2.na++[n],z.2.ru,z.2.wa⟩],b) from by rw[lO,if_neg (by rintro (h | h) <;> simp_all),hz,eJ]]⟩⟩⟩⟩;rfl
     · all_goals (first | exact absurd m7 Zaf | simp_all)
theorem Hq(gs:List l7)(b:Bool)(g:Nat)(l:Bool)(p:BL)(hg:gs.length<=1000)(hn:∀ y,y∈gs->y.na.length<=1000/\y.ru.length<=6):PF Tryz.prog 211 [kp 1000 g,.lit (.iface 250 (.agg #[.bool l,.string (Str p)]))] [(1000,(g,ff gs b))] (fun r h=>r=(.tup [])/\h=[(1000,(g,ff ((jo gs b l p).1) ((jo gs b l p).2)))]):=by
 refine aq Tryz.func211
  (.oR (.key 1000) [0] (fun gr fr cr=>.q 1<|.cu (X9 my) (fun _=>.q 3<|.al my (fun g4=>.st none<|.q 1<|.q 2<|.gf (.b9)<|.gf (.b9)<|.gf (.b9)<|.gf (.b9)<|.gf (.b9)<|.gf (bV false)<|.gf (bV false)<|.gf (.b9)<|.gf (.b9)<|.gf (.b9)<|.gf (bV false)<|.gf (bV false)<|.q 1<|.br (.nil) (.r 6 [.b9]<|.br (.nil) (.ex (List l7×l7) (fun z=>gs=z.1++[z.2]) (fun (z:List l7×l7)=>(fun (y3 y2:List V) (y1:V->V)=>(.h (.s8 1000 (.agg [.own 3 (z.1.map az++[(ft z.2:V)]) gr fr cr,bV b]))<|.C6 10 [(3,n6 [1000] [55]),(7,n6 [1000] [59])]<|.l8 3<|.o6<|.l8 3<|.o6<|.l8 2<|.h (.m8 61 (iN z.1.length))<|.q 2<|.q 1<|.cu (X9 my) (fun _=>.q 2<|.br (.nil) (.cu (YS (.agg [eD l p])) (fun _=>.q 2<|.br (.al CP (fun g8=>.st none<|.q 3<|.st none<|.QV (.key 1000) [0,0+z.1.length,1] gr (fr+(0+z.1.length)*3+1) 2 y3 (fun gA oA cA=>.h (.s8 1000 (y1 (mo z.2.na z.2.ru gA oA cA z.2.wa:V)))<|.r 6 [.own 2 y3 gA oA cA]<|.br (.C6 9 [(4,n6 [1000] [94]),(6,n6 [8] [96]),(8,⟨true,[],none,[98],[1000]⟩)]<|.l8 4<|.r 1 [.own 2 y3 gA oA cA]<|.q 1<|.o6<|.bs<|.eu (X0 1000 [0,0+z.1.length,1] y3 ([eD l p]:List V) gr (fr+(0+z.1.length)*3+1) 2 gA oA cA) (fun Pr=>.h (.s8 1000 (y1 (.agg [.ow 1 (z.2.na.map sV),.b9,iN z.2.wa]:V)))<|.h (.m8 98 (.own 2 y2 Pr.1 Pr.2.1 Pr.2.2))<|.q 2<|.st (some (.b9))<|.h (.s8 1000 (fe (.own 3 (z.1.map az++[(mo z.2.na (z.2.ru++[(⟨l,p⟩:r7)]) Pr.1 Pr.2.1 Pr.2.2 z.2.wa:V)]) gr fr cr)))<|.h (.Pw (.key 1000) [0,0+z.1.length,1] gr (fr+(0+z.1.length)*3+1) (.own 2 y2 Pr.1 Pr.2.1 Pr.2.2) (.ow 2 y2))<|.h (.s8 1000 (y1 (ik z.2.na (z.2.ru++[(⟨l,p⟩:r7)]) z.2.wa:V)))<|.h (.s8 1000 (.agg [.own 3 ((z.1++[(⟨z.2.na,z.2.ru++[⟨l,p⟩],z.2.wa⟩:l7)]).map az) gr fr cr,bV true]))<|.nil)) (.h (.Pw (.key 1000) [0,0+z.1.length,1] gr (fr+(0+z.1.length)*3+1) (.own 2 y3 gA oA cA) (.ow 2 y3))<|.h (.s8 1000 (y1 (ft z.2:V)))<|.h (.s8 1000 (.agg [.own 3 ((z.1++[z.2]).map az) gr fr cr,bV true]))<|.nil)))) (.nil)))):Sc Tryz.prog)) (z.2.ru.map au) ((z.2.ru++[(⟨l,p⟩:r7)]).map au) (fun r:V=>(fe (.own 3 (z.1.map az++[r]) gr fr cr))))))))))
  ((fun (v3:V) (v2:List V) (v1:r7)=>(∀ gr fr cr:Nat,((∃ td,Tryz.prog.underlying 248=some td/\∀ i,td≠.interface i)/\((250:Nat)≠248)/\(∃ y,(.agg [sV []]:V).val? =some y/\∀ w,(zeroValue 248).run Tryz.prog w=.ok y w))/\∀ _:Unit,∀ g4:Nat,Z g4 0/\(false=false)/\(false=false)/\(false=false)/\(false=false)/\(false=false)/\(false=false)/\(false=false)/\(false=false)/\(false=false)/\(false=false)/\(false=false)/\(false=false)/\Pk false false true/\Br (false&&false) (False) (True/\Z g 0/\Br (o4 (((gs.map az).length:Nat):Int) 0) (Q (.tup []) (.tup [])/\Qr g (ff gs b) g v3) ((∃ z:List l7×l7,gs=z.1++[z.2])/\∀ z:List l7×l7,(gs=z.1++[z.2])->(fun (v9 v8 v5:List V) (v7 v6:V) (v4:V->V)=>((.agg [.own 3 (gs.map az) gr fr cr,bV b]:V)=.agg [.own 3 (z.1.map az++[v6]) gr fr cr,bV b])/\True/\Z g 0/\True/\Z g 0/\m5 ((((z.1.map az++[v6]).length:Nat):Int)-1)/\Q (iV ((((z.1.map az++[v6]).length:Nat):Int)-1)) (iN z.1.length)/\In (z.1.length:Int) ((z.1.map az++[v6]).length)/\((∃ td,Tryz.prog.underlying 248=some td/\∀ i,td≠.interface i)/\((250:Nat)≠248)/\(∃ y,(.agg [sV []]:V).val? =some y/\∀ w,(zeroValue 248).run Tryz.prog w=.ok y w))/\∀ _:Unit,Br false (False) (((∃ td,Tryz.prog.underlying 250=some td/\∀ i,td≠.interface i)/\((250:Nat)=250)/\((.agg #[.bool l,.string (Str p)]:Value)=.agg #[.bool l,.string (Str p)]))/\∀ _:Unit,Br true (∀ g8:Nat,Z g8 0/\True/\Z g 1/\(V.at g 0 (fe (v4 v6)) [0,0+z.1.length,1]=some (gr,fr+(0+z.1.length)*3+1,.ow 2 v5))/\∀ gA oA cA:Nat,(fun v10:V=>(fun (v12 v11:Prop)=>(V.set (fe (v4 v6)) [0,0+z.1.length,1] (.own 2 v5 gA oA cA)=fe (v4 (mo z.2.na z.2.ru gA oA cA z.2.wa:V)))/\True/\v11/\Br (r6 ((v5.length:Nat):Int) 6) (True/\v11/\Z g8 0/\(v2=v2/\((.hd (.key 1000) [0,0+z.1.length,1] 2 gA oA 0 (v5.length) cA:V)=.hd (.key 1000) [0,0+z.1.length,1] 2 gA oA 0 (v5.length) cA)/\v12/\((2:Nat)=2)/\(V.ax v2=false)/\(aS 2 v2)/\((v5.length+v2.length)*24<=140737488355328))/\∀ Pr:Nat×Nat×Nat,(fun w6:V=>(V.set v10 [0,0+z.1.length,1] (.b9)=fe (v4 v7))/\((.own 2 (v5++v2) Pr.1 Pr.2.1 Pr.2.2:V)=.own 2 v8 Pr.1 Pr.2.1 Pr.2.2)/\True/\(V.at g 0 (fe (v4 v7)) [0,0+z.1.length,1]=some (gr,(fr+(0+z.1.length)*3+1),.b9))/\(V.set (fe (v4 v7)) [0,0+z.1.length,1] (.own 2 v8 Pr.1 Pr.2.1 Pr.2.2)=fe w6)/\(V.at g 0 (fe w6) [0,0+z.1.length,1]=some (gr,fr+(0+z.1.length)*3+1,.own 2 v8 Pr.1 Pr.2.1 Pr.2.2))/\(V.set (fe w6) [0,0+z.1.length,1] (.ow 2 v8)=fe (v4 (ik z.2.na (z.2.ru++[v1]) z.2.wa:V)))/\((fe (v4 (ik z.2.na (z.2.ru++[v1]) z.2.wa:V)):V)=.agg [.own 3 v9 gr fr cr,bV true])/\Q (.tup []) (.tup [])/\Qr g (.agg [.ow 3 v9,bV true]) g v3) (.own 3 (z.1.map az++[(mo z.2.na (z.2.ru++[v1]) Pr.1 Pr.2.1 Pr.2.2 z.2.wa:V)]) gr fr cr)) (v12/\(V.set v10 [0,0+z.1.length,1] (.ow 2 v5)=fe (v4 v6))/\((fe (v4 v6):V)=.agg [.own 3 ((z.1++[z.2]).map az) gr fr cr,bV true])/\Q (.tup []) (.tup [])/\Qr g (.agg [.ow 3 ((z.1++[z.2]).map az),bV true]) g v3)) (V.at g 0 v10 [0,0+z.1.length,1]=some (gr,fr+(0+z.1.length)*3+1,.own 2 v5 gA oA cA)) (V.at g 0 v10 [0,0+z.1.length,1]=some (gr,(fr+(0+z.1.length)*3+1),.own 2 v5 gA oA cA))) (fe (v4 (mo z.2.na z.2.ru gA oA cA z.2.wa:V)))) (False))) ((z.1++[(⟨z.2.na,z.2.ru++[⟨l,p⟩],z.2.wa⟩:l7)]).map az) ((z.2.ru++[v1]).map au) (z.2.ru.map au) (.agg [.ow 1 (z.2.na.map sV),.b9,iN z.2.wa]:V) (ft z.2:V) (fun r:V=>(.own 3 (z.1.map az++[r]) gr fr cr)))))) (ff ((jo gs b l p).1) ((jo gs b l p).2)) ([eD l p]:List V) (⟨l,p⟩:r7)) ?_
 intro gr fr cr;refine⟨⟨⟨_,Tryz.underlying248,Zdq⟩,Zaf,_,rfl,Tryz.zeroValue248⟩,fun _=>fun g4=>lu (fW (bI (fun j7=>?_) fun j7=>?_))⟩
 · all_goals (first | exact absurd j7 Zaf | simp_all)
 · refine aQ (bI (fun l3=>?_) fun l3=>?_);refine⟨?_,by rw[show jo gs b l p=(gs,b) from if_pos (Za5 Zac)]⟩;rfl
   · refine⟨jY (gZ Zac),fun z hz=>?_⟩;have Sb:=hn z.2 (by rw[hz];simp);have Wx:gs.length=z.1.length+1:=by rw[hz];simp
     refine⟨Zdr,ej ⟨Zds,ag ⟨⟨⟨_,Tryz.underlying248,Zdq⟩,Zaf,_,rfl,Tryz.zeroValue248⟩,?_⟩⟩⟩;intro _;refine bI (fun m7=>?_) fun m7=>?_
     · all_goals (first | exact absurd m7 Zaf | simp_all)
     · refine⟨⟨⟨_,Tryz.underlying250,Zdq⟩,ak⟩,fun _=>bI (fun x2=>?_) fun x2=>?_⟩;intro g8;refine aX ⟨Zdt,fun gA oA cA=>⟨Zdu,trivial,Zdt,bI (fun D8=>?_) fun D8=>?_⟩⟩;refine⟨trivial,Zdt,rfl,⟨rfl,rfl,Zdt,ak⟩,fun Pr=>⟨Zdu,Zbm (V.own 2 · Pr.1 Pr.2.1 Pr.2.2) Zad,trivial,Zdt,Zdu,Zdt,Zdu,Zdv,⟨?_,by rw[show jo gs b l p=(z.1++[⟨z.2.na,z.2.ru++[⟨l,p⟩],z.2.wa⟩],true) from by rw[jo,if_neg (by rintro h;simp_all),if_pos (by rw[hz,ia];omega),hz,eJ]]⟩⟩⟩;rfl;refine⟨Zdt,Zdu,Zdv,⟨?_,by rw[show jo gs b l p=(z.1++[z.2],true) from by rw[jo,if_neg (by rintro h;simp_all),if_neg (by rw[hz,ia];omega),hz]]⟩⟩;rfl
       · all_goals (first | exact absurd x2 Zaf | simp_all)
theorem FZ(gs:List l7)(b:Bool)(g v:Nat)(hg:gs.length<=1000)(hn:∀ y,y∈gs->y.na.length<=1000/\y.ru.length<=6):PF Tryz.prog 211 [kp 1000 g,.lit (.iface 252 (.agg #[.int .i64 (v:Int)]))] [(1000,(g,ff gs b))] (fun r h=>r=(.tup [])/\h=[(1000,(g,ff ((lQ gs b v).1) ((lQ gs b v).2)))]):=by
 refine aq Tryz.func211
  (.oR (.key 1000) [0] (fun gr fr cr=>.q 1<|.cu (X9 my) (fun _=>.q 3<|.al my (fun g4=>.st none<|.q 1<|.q 2<|.gf (.b9)<|.gf (.b9)<|.gf (.b9)<|.gf (.b9)<|.gf (.b9)<|.gf (bV false)<|.gf (bV false)<|.gf (.b9)<|.gf (.b9)<|.gf (.b9)<|.gf (bV false)<|.gf (bV false)<|.q 1<|.br (.nil) (.r 6 [.b9]<|.br (.nil) (.ex (List l7×l7) (fun z=>gs=z.1++[z.2]) (fun (z:List l7×l7)=>.h (.s8 1000 (.agg [.own 3 (z.1.map az++[(ft z.2:V)]) gr fr cr,bV b]))<|.C6 10 [(3,n6 [1000] [55]),(7,n6 [1000] [59])]<|.l8 3<|.o6<|.l8 3<|.o6<|.l8 2<|.h (.m8 61 (iN z.1.length))<|.q 2<|.q 1<|.cu (X9 my) (fun _=>.q 2<|.br (.nil) (.cu (X9 CP) (fun _=>.q 2<|.br (.nil) (.cu (YS (.agg [iN v])) (fun _=>.q 2<|.br (.al IU (fun g9=>.st none<|.q 3<|.st none<|.r 5 [.b9]<|.st (some (iN z.2.wa))<|.h (.s8 1000 (fe (.own 3 (z.1.map az++[(ik z.2.na z.2.ru v:V)]) gr fr cr)))<|.h (.s8 1000 (.agg [.own 3 ((z.1++[(⟨z.2.na,z.2.ru,v⟩:l7)]).map az) gr fr cr,bV true]))<|.nil)) (.nil)))))))))))))
  ((fun v1:V=>(∀ gr fr cr:Nat,((∃ td,Tryz.prog.underlying 248=some td/\∀ i,td≠.interface i)/\((252:Nat)≠248)/\(∃ y,(.agg [sV []]:V).val? =some y/\∀ w,(zeroValue 248).run Tryz.prog w=.ok y w))/\∀ _:Unit,∀ g4:Nat,Z g4 0/\(false=false)/\(false=false)/\(false=false)/\(false=false)/\(false=false)/\(false=false)/\(false=false)/\(false=false)/\(false=false)/\(false=false)/\(false=false)/\(false=false)/\Pk false false true/\Br (false&&false) (False) (True/\Z g 0/\Br (o4 (((gs.map az).length:Nat):Int) 0) (Q (.tup []) (.tup [])/\Qr g (ff gs b) g v1) ((∃ z:List l7×l7,gs=z.1++[z.2])/\∀ z:List l7×l7,(gs=z.1++[z.2])->(fun (v4:List V) (v3 v2:V)=>((.agg [.own 3 (gs.map az) gr fr cr,bV b]:V)=.agg [.own 3 (z.1.map az++[v2]) gr fr cr,bV b])/\True/\Z g 0/\True/\Z g 0/\m5 ((((z.1.map az++[v2]).length:Nat):Int)-1)/\Q (iV ((((z.1.map az++[v2]).length:Nat):Int)-1)) (iN z.1.length)/\In (z.1.length:Int) ((z.1.map az++[v2]).length)/\((∃ td,Tryz.prog.underlying 248=some td/\∀ i,td≠.interface i)/\((252:Nat)≠248)/\(∃ y,(.agg [sV []]:V).val? =some y/\∀ w,(zeroValue 248).run Tryz.prog w=.ok y w))/\∀ _:Unit,Br false (False) (((∃ td,Tryz.prog.underlying 250=some td/\∀ i,td≠.interface i)/\((252:Nat)≠250)/\(∃ y,(.agg [.agg [bV false,sV []]]:V).val? =some y/\∀ w,(zeroValue 250).run Tryz.prog w=.ok y w))/\∀ _:Unit,Br false (False) (((∃ td,Tryz.prog.underlying 252=some td/\∀ i,td≠.interface i)/\((252:Nat)=252)/\((.agg #[.int .i64 (v:Int)]:Value)=.agg #[.int .i64 (v:Int)]))/\∀ _:Unit,Br true (∀ g9:Nat,Z g9 0/\True/\Z g 1/\Z g9 0/\True/\(V.at g 0 (fe (.own 3 (z.1.map az++[v2]) gr fr cr)) [0,0+z.1.length,2]=some (gr,(fr+(0+z.1.length)*3+2),iN z.2.wa))/\(V.set (fe (.own 3 (z.1.map az++[v2]) gr fr cr)) [0,0+z.1.length,2] (iN v)=fe v3)/\((fe v3:V)=.agg [.own 3 v4 gr fr cr,bV true])/\Q (.tup []) (.tup [])/\Qr g (.agg [.ow 3 v4,bV true]) g v1) (Q (.tup []) (.tup [])/\Qr g (.agg [.ow 3 (z.1.map az++[v2]),bV b]) g v1)))) ((z.1++[(⟨z.2.na,z.2.ru,v⟩:l7)]).map az) (.own 3 (z.1.map az++[(ik z.2.na z.2.ru v:V)]) gr fr cr) (ft z.2:V))))) (ff ((lQ gs b v).1) ((lQ gs b v).2))) ?_
 intro gr fr cr;refine⟨⟨⟨_,Tryz.underlying248,Zdq⟩,Zaf,_,rfl,Tryz.zeroValue248⟩,fun _=>fun g4=>lu (fW (bI (fun j7=>?_) fun j7=>?_))⟩
 · all_goals (first | exact absurd j7 Zaf | simp_all)
 · refine aQ (bI (fun l3=>?_) fun l3=>?_);refine⟨?_,by rw[show lQ gs b v=(gs,b) from if_pos (Za5 Zac)]⟩;rfl
   · refine⟨jY (gZ Zac),fun z hz=>?_⟩;have Sb:=hn z.2 (by rw[hz];simp);have Wx:gs.length=z.1.length+1:=by rw[hz];simp
     refine⟨Zdr,ej ⟨Zds,ag ⟨⟨⟨_,Tryz.underlying248,Zdq⟩,Zaf,_,rfl,Tryz.zeroValue248⟩,?_⟩⟩⟩;intro _;refine bI (fun m7=>?_) fun m7=>?_
     · all_goals (first | exact absurd m7 Zaf | simp_all)
     · refine⟨⟨⟨_,Tryz.underlying250,Zdq⟩,Zaf,_,rfl,Tryz.zeroValue250⟩,fun _=>bI (fun x2=>?_) fun x2=>?_⟩
       · all_goals (first | exact absurd x2 Zaf | simp_all)
       · refine⟨⟨⟨_,Tryz.underlying252,Zdq⟩,ak⟩,fun _=>bI (fun D8=>?_) fun D8=>?_⟩;intro g9;refine ej ⟨Zdt,Zdu,Zdv,⟨?_,by rw[show lQ gs b v=(z.1++[⟨z.2.na,z.2.ru,v⟩],true) from by rw[lQ,if_neg (by rintro h;simp_all),hz,eJ]]⟩⟩;rfl
         · all_goals (first | exact absurd D8 Zaf | simp_all)
def DL(c:UInt8):Bool:=decide (48<=c.toNat/\c.toNat<=57)
theorem BB(s:BL):s.all (fun c=>decide (48<=c.toNat/\c.toNat<=57))=s.all DL:=rfl
abbrev iJ(s:BL)(i:Nat)(q:Int):Prop:=i<=s.length/\q=((s.take i).foldl (gQ 20) 0)/\(0<=q/\q<=20)/\∀ j,j<i->DL (s.getD j 0)=true
def vC(s:BL):av:=.mk 225 [sV s] [] (s.length<=1000000) (iV (ez s 20)) [] (by
 intro hs
 refine aq Tryz.func225
  (.l8 3<|.loop (Nat×Int) (fun (i,q)=>⟨[(0,sV s),(3,iV q),(4,iN i)],[]⟩) (fun (i,q)=>iJ s i q) (fun (i,q)=>s.length-i) (fun (i,q)=>.q 4<|.br (.q 10<|.br (.q 1<|.nil) (.q 8<|.mm<|.q 1<|.q 3<|.nil)) (.q 2<|.nil)))
  ((∃ x:Nat×Int,match x with | (j6,w8)=>(iJ s j6 w8)/\E (sV s)/\Q (iN 0) (iV w8)/\Q (iN 0) (iN j6)/\True)/\∀ x:Nat×Int,match x with | (i,q)=>(iJ s i q)->(fun v1:Int=>Br (r6 (i:Int) (s.length:Int)) (Ix (i:Int) s/\Gd ((r6 v1 48)==false) (Ix (i:Int) s)/\Pk (r6 v1 48) true ((r6 v1 48)==false)/\Br ((r6 v1 48)||(s7 v1 57)) (Q (iN 0) (iV (ez s 20))) (m5 (q*10)/\Ix (i:Int) s/\Rv (v1-48)/\m5 (v1-48)/\m5 ((q*10)+(v1-48))/\(IntKind.i64=IntKind.i64)/\m5 ((i:Int)+1)/\∃ x:Nat×Int,match x with | (b7,m9)=>(iJ s b7 m9)/\(s.length-b7<s.length-i)/\E (sV s)/\Q (iV (min ((q*10)+(v1-48)) 20)) (iV m9)/\Q (iN (i+1)) (iN b7)/\True)) (Q (iV q) (iV (ez s 20)))) (((s.getD i 0).toNat:Nat):Int)) ?_
 refine⟨⟨(0,0),?_,rfl,Zah,ak⟩,?_⟩;unfold iJ;simp;rintro⟨i,q⟩ ⟨h1,h2,h3,h4⟩;have hci:=(s.getD i 0).toNat_lt;refine bI (fun j7=>?_) fun j7=>?_;refine aX (bI (fun l3=>?_) fun l3=>?_);rw[show ez s 20=0 from if_neg (by rw[BB,all_false (i:=i) (d:=0) Zac (by unfold DL;rw[decide_eq_false_iff_not];omega)];decide)];rfl;refine aQ ⟨Zcd,Zcd,Zcd,aQ ⟨(i+1,min ((q*10)+((((s.getD i 0).toNat:Nat):Int)-48)) 20),?_,?_,ak⟩⟩;unfold iJ;refine⟨Zac,?_,ag (bm h4 (by unfold DL;rw[Zbk];omega))⟩;rw[foldl_succ (d:=0) Zac,<- h2,gQ];exact Zak;rw[show ez s 20=s.foldl (gQ 20) 0 from if_pos (by rw[BB];exact all_true (d:=0) (fun j hj=>h4 j Zac)),h2,Zaz Zac])
abbrev fG(t:BL):V:=.tup [.lit (Dm (fD (ab 32 t).1 (ab 32 t).2.1)),bV (im (ab 32 t).1 (ab 32 t).2.1)]
def vM(t:BL):av:=.mk 210 [sV t] [] (t.length<=1000000) (fG t) [] (by
 intro ht;have PE:=kW 32 t
 refine aq Tryz.func210
  (.q 2<|.q 1<|.c (nW t 32) []<|.q 7<|.q 1<|.q 2<|.br (.q 1<|.bd my<|.cu ZE (fun _=>.q 1<|.c (qB ((ab 32 t).2.1)) []<|.q 2<|.nil)) (.q 2<|.join (Bool) (fun c=>⟨[(0,sV t),(2,.lit .nilIface),(3,bV false),(8,sV t),(9,.tup [sV ((ab 32 t).1),sV ((ab 32 t).2.1),bV ((ab 32 t).2.2)]),(7,.tup [sV ((ab 32 t).1),sV ((ab 32 t).2.1),bV ((ab 32 t).2.2)]),(10,sV ((ab 32 t).1)),(11,sV ((ab 32 t).2.1)),(12,bV ((ab 32 t).2.2)),(4,sV ((ab 32 t).1)),(5,sV ((ab 32 t).2.1)),(6,bV ((ab 32 t).2.2)),(13,sV ((ab 32 t).1)),(15,bV (((ab 32 t).1)==([99,97,108,108,101,114]:BL))),(14,bV (((ab 32 t).1)==([99,97,108,108,101,114]:BL))),(22,bV (((ab 32 t).1)==([108,101,116]:BL))),(21,bV c)],[]⟩) (fun c=>c=decide ((ab 32 t).1=[108,101,116]\/(ab 32 t).1=[98,97,114])) (.nil) (.q 2<|.nil) (fun c=>.br (.q 3<|.bd pR<|.bd CP<|.cu ZE (fun _=>.q 1<|.c (kj ((ab 32 t).2.1)) []<|.q 2<|.nil)) (.q 2<|.br (.q 1<|.c (vC ((ab 32 t).2.1)) []<|.bd IU<|.cu ZE (fun _=>.q 2<|.nil)) (.q 2<|.nil)))))
  ((fun (v5 v4 v1:V) (v3 v2:BL)=>((nW t 32).sm/\((t.length<=1000000))/\Br (((ab 32 t).1)==v3) (((∃ td,Tryz.prog.underlying 248=some td/\∀ i,td≠.interface i)/\(Value.iface 248 (.agg #[.string (Str ((ab 32 t).2.1))])).oneCell'=true)/\∀ _:Unit,(qB ((ab 32 t).2.1)).sm/\((((ab 32 t).2.1).length<=4611686018427387904))/\Q (.tup [.lit (.iface 248 (.agg #[.string (Str ((ab 32 t).2.1))])),bV ((((ab 32 t).2.1)==[42])||cC ((ab 32 t).2.1))]) (fG t)) (((((ab 32 t).1)==v2)=true->∃ c:Bool,(c=decide ((ab 32 t).1=[108,101,116]\/(ab 32 t).1=[98,97,114]))/\E (sV t)/\E (.lit .nilIface)/\E (bV false)/\E (sV t)/\E v1/\E v1/\E v4/\E v5/\E (bV ((ab 32 t).2.2))/\E v4/\E v5/\E (bV ((ab 32 t).2.2))/\E v4/\E (bV (((ab 32 t).1)==v3))/\E (bV (((ab 32 t).1)==v3))/\E (bV (((ab 32 t).1)==v2))/\Q (bV (((ab 32 t).1)==v2)) (bV c)/\True)/\((((ab 32 t).1)==v2)=false->∃ c:Bool,(c=decide ((ab 32 t).1=[108,101,116]\/(ab 32 t).1=[98,97,114]))/\E (sV t)/\E (.lit .nilIface)/\E (bV false)/\E (sV t)/\E v1/\E v1/\E v4/\E v5/\E (bV ((ab 32 t).2.2))/\E v4/\E v5/\E (bV ((ab 32 t).2.2))/\E v4/\E (bV (((ab 32 t).1)==v3))/\E (bV (((ab 32 t).1)==v3))/\E (bV (((ab 32 t).1)==v2))/\Q (bV (((ab 32 t).1)==([98,97,114]:BL))) (bV c)/\True)/\(∀ c:Bool,(c=decide ((ab 32 t).1=[108,101,116]\/(ab 32 t).1=[98,97,114]))->Br c (((∃ td,Tryz.prog.underlying 250=some td/\∀ i,td≠.interface i)/\(Value.iface 250 (.agg #[.bool (((ab 32 t).1)==v2),.string (Str ((ab 32 t).2.1))])).oneCell'=true)/\∀ _:Unit,(kj ((ab 32 t).2.1)).sm/\((((ab 32 t).2.1).length<=4611686018427387904))/\Q (.tup [.lit (.iface 250 (.agg #[.bool (((ab 32 t).1)==v2),.string (Str ((ab 32 t).2.1))])),bV (dQ ((ab 32 t).2.1))]) (fG t)) (Br (((ab 32 t).1)==([119,97,105,116]:BL)) ((vC ((ab 32 t).2.1)).sm/\((((ab 32 t).2.1).length<=1000000))/\((∃ td,Tryz.prog.underlying 252=some td/\∀ i,td≠.interface i)/\(Value.iface 252 (.agg #[.int .i64 (ez ((ab 32 t).2.1) 20)])).oneCell'=true)/\∀ _:Unit,Q (.tup [.lit (.iface 252 (.agg #[.int .i64 (ez ((ab 32 t).2.1) 20)])),bV true]) (fG t)) (Q (.tup [.lit .nilIface,bV false]) (fG t))))))) (sV ((ab 32 t).2.1)) (sV ((ab 32 t).1)) (.tup [sV ((ab 32 t).1),sV ((ab 32 t).2.1),bV ((ab 32 t).2.2)]) ([99,97,108,108,101,114]:BL) ([108,101,116]:BL)) ?_
 refine aQ (bI (fun j7=>?_) fun j7=>?_);refine⟨⟨⟨_,Tryz.underlying248,Zdq⟩,rfl⟩,fun _=>aQ ?_⟩;unfold Q fG;rw[show fD (ab 32 t).1 (ab 32 t).2.1=.caller (ab 32 t).2.1 from if_pos j7,show im (ab 32 t).1 (ab 32 t).2.1=_ from if_pos j7];rfl
 · refine⟨fun l3=>?_,fun l3=>?_,fun c hc=>?_⟩
   · try simp only[nb]at l3
     exact⟨((ab 32 t).1)==([108,101,116]:BL),Zdm,rfl,rfl,rfl,rfl,rfl,rfl,rfl,rfl,rfl,rfl,rfl,rfl,rfl,rfl,rfl,rfl,rfl,trivial⟩
   · try simp only[nb]at l3
     exact⟨((ab 32 t).1)==([98,97,114]:BL),Zdm,rfl,rfl,rfl,rfl,rfl,rfl,rfl,rfl,rfl,rfl,rfl,rfl,rfl,rfl,rfl,rfl,rfl,trivial⟩
   refine bI (fun m7=>?_) fun m7=>?_;refine⟨⟨⟨_,Tryz.underlying250,Zdq⟩,rfl⟩,fun _=>aQ ?_⟩;unfold Q fG;have h2:(ab 32 t).1=[108,101,116]\/(ab 32 t).1=[98,97,114]:=by grind
   rw[show fD (ab 32 t).1 (ab 32 t).2.1=.Se ((ab 32 t).1==[108,101,116]) (ab 32 t).2.1 from by rw[fD,if_neg j7,if_pos h2],show im (ab 32 t).1 (ab 32 t).2.1=bc (ab 32 t).2.1 from by rw[im,if_neg j7,if_pos h2],ph];rfl;refine bI (fun x2=>?_) fun x2=>?_;refine⟨rfl,Zac,⟨⟨_,Tryz.underlying252,Zdq⟩,rfl⟩,fun _=>?_⟩;unfold Q fG;have h2: ¬ ((ab 32 t).1=[108,101,116]\/(ab 32 t).1=[98,97,114]):=by grind
   rw[show fD (ab 32 t).1 (ab 32 t).2.1=.wait (ez (ab 32 t).2.1 20).toNat from by rw[fD,if_neg j7,if_neg h2,if_pos x2],show im (ab 32 t).1 (ab 32 t).2.1=true from by rw[im,if_neg j7,if_neg h2,if_pos x2]];show V.tup [.lit (.iface 252 (.agg #[.int .i64 (ez (ab 32 t).2.1 20)])),_]=V.tup [.lit (.iface 252 (.agg #[.int .i64 (((ez (ab 32 t).2.1 20).toNat:Nat):Int)])),_];rw[Int.toNat_of_nonneg (BC Zac)];unfold Q fG;have h2: ¬ ((ab 32 t).1=[108,101,116]\/(ab 32 t).1=[98,97,114]):=by grind
   rw[show fD (ab 32 t).1 (ab 32 t).2.1=.none from by rw[fD,if_neg j7,if_neg h2,if_neg x2],show im (ab 32 t).1 (ab 32 t).2.1=false from by rw[im,if_neg j7,if_neg h2,if_neg x2]];rfl)
theorem JC{w r:BL}(h:im w r=true):fD w r≠.none:=by
 unfold im at h;unfold fD;split at h;rename_i h1;rw[if_pos h1];intro c;cases c;rename_i h1;rw[if_neg h1];split at h;rename_i h2;rw[if_pos h2];intro c;cases c;rename_i h2;rw[if_neg h2];split at h;rename_i h3;rw[if_pos h3];intro c;cases c;cases h
theorem GG(gs:List l7)(b:Bool)(g:Nat)(l:Ln)(hg:gs.length<=1000)(hn:∀ y,y∈gs->y.na.length<=1000/\y.ru.length<=6)(hl:l≠.none):
 PF Tryz.prog 211 [.ptr (.key 1000) [] g 0,.lit (Dm l)] [(1000,(g,.agg [.ow 3 (gs.map az),bV b]))] (fun r h=>r=.tup []/\h=[(1000,(g,.agg [.ow 3 ((gI gs b l).1.map az),bV (gI gs b l).2]))]):=by
 cases l with
 | none=>exact absurd rfl hl
 | caller n=>exact HD gs b g n hg hn
 | Se q p=>exact Hq gs b g q p hg hn
 | wait v=>exact FZ gs b g v hg hn
def Bx(gs:List l7)(b:Bool)(g:Nat)(l:Ln):av:={ f:=211,args:=[kp 1000 g,.lit (Dm l)],H:=[(1000,(g,ff gs b))],pre:=(gs.length<=1000)/\(∀ y,y∈gs->y.na.length<=1000/\y.ru.length<=6)/\(l≠.none),res:=.tup [],H':=[(1000,(g,.agg [.ow 3 ((gI gs b l).1.map az),bV (gI gs b l).2]))],ok:=fun h=>GG gs b g l h.1 h.2.1 h.2.2 }
theorem HE{n:Nat}{gs:List l7}{b:Bool}(h:L2 n gs)(l:BL):L2 (n+1) (mA (gs,b) l).1:=by
 unfold mA;split;have hl:∀ z,gs.getLast? =some z->z.na.length<=n/\z.ru.length<=6:=fun z hz=>h.each z (List.mem_of_getLast? hz);cases fD (ab 32 l).1 (ab 32 l).2.1 with
 | none=>exact h.mono Zac
 | caller q=>
   simp only[gI,lO];split;refine⟨by have:=h.len;simp;omega,fun y hy=>?_⟩;rcases Zax.1 hy with hy | hy;have:=h.each y hy;exact⟨Zac,this.2⟩;rw[Zav.1 hy];simp;exact h.set fun z hz=>⟨by have:=hl z hz;simp;omega,(hl z hz).2⟩
 | Se q p=>
   simp only[gI,jo];split;exact h.mono Zac;split;rename_i h6;refine h.set fun z hz=>⟨Zb7,?_⟩;unfold iA at h6;rw[hz]at h6;simp only at h6;simp only[Zap,Zar,Zau];omega;exact h.mono Zac
 | wait v=>
   simp only[gI,lQ];split;exact h.mono Zac;exact h.set fun z hz=>⟨Zb7,(hl z hz).2⟩
 exact h.mono Zac
abbrev eG(t:BL)(i:Nat)(gs:List l7)(b:Bool):Prop:=i<=(ae 10 t).length/\i<=40/\L2 i gs/\((ae 10 t).take i).foldl mA ([],false)=(gs,b)
def qD(t:BL):av:=.mk 185 [sV t] [] (t.length<=1000000) (.ow 3 ((bH t).map az)) [] (by
 intro ht
 refine aq Tryz.func185
  (.q 1<|.al NG (fun g3=>.q 1<|.c (qj t 10) []<|.q 2<|.h (.B8 (.key 3) [0] 3)<|.loop (Nat×(List l7)×Bool) (fun (i,gs,b)=>⟨[(0,sV t),(3,kp 3 g3),(9,.sl true ((ae 10 t).map sV)),(10,iN ((ae 10 t).length)),(11,iN i)],[(3,(g3,ff gs b))]⟩) (fun (i,gs,b)=>eG t i gs b) (fun (i,gs,b)=>(ae 10 t).length-i) (fun (i,gs,b)=>.q 1<|.br (.r 5 [sV ((ae 10 t).getD i [])]<|.q 2<|.br (.q 1<|.mv<|.q 1<|.nil) (.q 1<|.c (vM ((ae 10 t).getD i [])) []<|.q 5<|.q 1<|.br (.q 1<|.c (Bx gs b g3 (fD (ab 32 ((ae 10 t).getD i [])).1 (ab 32 ((ae 10 t).getD i [])).2.1)) [(1000,3)]<|.q 2<|.nil) (.q 2<|.nil))) (.q 1<|.mv<|.q 1<|.nil))))
  ((fun v1:List V=>(∀ g3:Nat,(qj t 10).sm/\((t.length<=1000000))/\(∃ x:Nat×(List l7)×Bool,match x with | (j6,R2,H6)=>(eG t j6 R2 H6)/\E (sV t)/\E (kp 3 g3)/\E (.sl true v1)/\Q (iN (v1.length)) (iN ((ae 10 t).length))/\Q (iN 0) (iN j6)/\Qr g3 (.agg [.ow 3 ([].map az),bV false]) g3 (ff R2 H6)/\True)/\∀ x:Nat×(List l7)×Bool,match x with | (i,gs,b)=>(eG t i gs b)->Br (r6 (i:Int) (((ae 10 t).length:Nat):Int)) (Ex (i:Int) v1 (sV ((ae 10 t).getD i []))/\True/\Br (o4 (i:Int) 40) (Z g3 0/\Q (.ow 3 (gs.map az)) (.ow 3 ((bH t).map az))) ((vM ((ae 10 t).getD i [])).sm/\((((ae 10 t).getD i []).length<=1000000))/\Br (im (ab 32 ((ae 10 t).getD i [])).1 (ab 32 ((ae 10 t).getD i [])).2.1) ((Bx gs b g3 (fD (ab 32 ((ae 10 t).getD i [])).1 (ab 32 ((ae 10 t).getD i [])).2.1)).sm/\Er g3 (ff gs b)/\((gs.length<=1000)/\(∀ y,y∈gs->y.na.length<=1000/\y.ru.length<=6)/\((fD (ab 32 ((ae 10 t).getD i [])).1 (ab 32 ((ae 10 t).getD i [])).2.1)≠.none))/\m5 ((i:Int)+1)/\∃ x:Nat×(List l7)×Bool,match x with | (b7,P8,x5)=>(eG t b7 P8 x5)/\((ae 10 t).length-b7<(ae 10 t).length-i)/\E (sV t)/\E (kp 3 g3)/\E (.sl true v1)/\E (iN ((ae 10 t).length))/\Q (iN (i+1)) (iN b7)/\Qr g3 (ff ((gI gs b (fD (ab 32 ((ae 10 t).getD i [])).1 (ab 32 ((ae 10 t).getD i [])).2.1)).1) ((gI gs b (fD (ab 32 ((ae 10 t).getD i [])).1 (ab 32 ((ae 10 t).getD i [])).2.1)).2)) g3 (ff P8 x5)/\True) (m5 ((i:Int)+1)/\∃ x:Nat×(List l7)×Bool,match x with | (b7,P8,x5)=>(eG t b7 P8 x5)/\((ae 10 t).length-b7<(ae 10 t).length-i)/\E (sV t)/\E (kp 3 g3)/\E (.sl true v1)/\E (iN ((ae 10 t).length))/\Q (iN (i+1)) (iN b7)/\Qr g3 (ff gs b) g3 (ff P8 x5)/\True))) (Z g3 0/\Q (.ow 3 (gs.map az)) (.ow 3 ((bH t).map az))))) ((ae 10 t).map sV)) ?_
 intro g3;refine aQ ⟨⟨(0,[],false),?_,rfl,rfl,rfl,Zah,ak⟩,?_⟩;unfold eG;exact⟨Zac,Zac,⟨Zad,Zad⟩,rfl⟩;rintro⟨i,gs,b⟩ ⟨h1,h2,h3,h4⟩;refine bI (fun j7=>?_) fun j7=>?_;refine⟨Zcg,ag (bI (fun l3=>?_) fun l3=>?_)⟩;refine⟨rfl,?_⟩;rw[show bH t=gs from by rw[<- xB,Av h1 h2 (fun _=>by omega),h4]];refine⟨rfl,by have:=gY 10 t i;omega,bI (fun m7=>?_) fun m7=>?_⟩;refine⟨rfl,rfl,⟨by have:=h3.len;omega,fun y hy=>by have:=h3.each y hy;omega,JC m7⟩,ag ⟨(i+1,(gI gs b (fD (ab 32 ((ae 10 t).getD i [])).1 (ab 32 ((ae 10 t).getD i [])).2.1)).1,(gI gs b (fD (ab 32 ((ae 10 t).getD i [])).1 (ab 32 ((ae 10 t).getD i [])).2.1)).2),?_,?_,ak⟩⟩;unfold eG;have B4:mA (gs,b) ((ae 10 t).getD i [])=gI gs b (fD (ab 32 ((ae 10 t).getD i [])).1 (ab 32 ((ae 10 t).getD i [])).2.1):=if_pos m7;refine aQ ⟨?_,?_⟩;rw[<- B4];exact HE h3 _;rw[foldl_succ (d:=[]) Zac,h4,B4];exact Zak;refine ag ⟨(i+1,gs,b),?_,?_,ak⟩;unfold eG;have B4:mA (gs,b) ((ae 10 t).getD i [])=(gs,b):=if_neg (by rw[m7];decide);refine aQ ⟨h3.mono Zac,?_⟩;rw[foldl_succ (d:=[]) Zac,h4,B4];exact Zak;refine⟨rfl,?_⟩;rw[show bH t=gs from by rw[<- xB,Av h1 h2 (fun h=>by omega),h4]])
theorem HP{gs:List l7}{a:BL}{i:Nat}(h:i<gs.length):(gs.map fun y=>y.na.contains a).getD i false=(gs.getD i ⟨[],[],0⟩).na.contains a:=by
 rw[Zam,Zam,List.getElem?_map,Zat h];rfl
def yo(y:l7)(a:BL)(u:Nat):av:=.mk 208 [cM y,kp 1000 u] [(1000,(u,sV a))] (y.na.length<=1000000) (bV (y.na.contains a)) [(1000,(u,sV a))] (by
 intro hy
 refine aq Tryz.func208
  (.bx (fun g2=>.q 1<|.r 3 [.b9,.b9]<|.c (sF y.na a) []<|.q 1<|.nil))
  (∀ g2:Nat,Z g2 0/\Z u 0/\(sF y.na a).sm/\((y.na.length<=1000000))/\Q (bV (y.na.contains a)) (bV (y.na.contains a))/\Er u (sV a)) ?_
 intro g2;refine cF ⟨?_,rfl⟩;rfl)
def Cn(gs:List l7)(a:BL)(u:Nat):av:=.mk 223 [bj gs,.lit (.func (.func 208) #[] #[.pointer (some ⟨u,0,none⟩)])] [(1000,(u,sV a))] ((gs.length<=1000000)/\(∀ i,(gs.getD i ⟨[],[],0⟩).na.length<=1000000)) (iV (eL (gs.map fun y=>y.na.contains a) true)) [(1000,(u,sV a))] (by
 rintro⟨hg,hn⟩
 refine aq Tryz.func223
  (.q 1<|.q 3<|.loop Nat (fun i=>⟨[(0,bj gs),(1,.lit (.func (.func 208) #[] #[.pointer (some ⟨u,0,none⟩)])),(6,bj gs),(7,iN gs.length),(8,iN i)],[(1000,(u,sV a))]⟩) (fun i=>i<=gs.length/\∀ j,j<i->((gs.getD j ⟨[],[],0⟩).na.contains a)=false) (fun i=>gs.length-i) (fun i=>.q 1<|.br (.q 2<|.r 5 [cM (gs.getD i (⟨[],[],0⟩:l7))]<|.c (yo (gs.getD i (⟨[],[],0⟩:l7)) a u) [(1000,1000)]<|.br (.q 2<|.nil) (.q 2<|.nil)) (.q 1<|.nil)))
  ((fun (v3:l7) (v2:V) (v1:Nat->Prop)=>((∃ j6:Nat,(v1 j6)/\E (bj gs)/\E v2/\E (bj gs)/\Q (iN ((gs.map bY).length)) (iN gs.length)/\Q (iN 0) (iN j6)/\Er u (sV a)/\True)/\∀ i:Nat,(v1 i)->Br (r6 (i:Int) (gs.length:Int)) (Ex (i:Int) (gs.map bY) (cM (gs.getD i v3))/\True/\(yo (gs.getD i v3) a u).sm/\Er u (sV a)/\(((gs.getD i v3).na.length<=1000000))/\Br ((gs.getD i v3).na.contains a) (Q (iN i) (iV (eL (gs.map fun y=>y.na.contains a) true))/\Er u (sV a)) (m5 ((i:Int)+1)/\∃ b7:Nat,(v1 b7)/\(gs.length-b7<gs.length-i)/\E (bj gs)/\E v2/\E (bj gs)/\E (iN gs.length)/\Q (iN (i+1)) (iN b7)/\Er u (sV a)/\True)) (Q (iV (-1)) (iV (eL (gs.map fun y=>y.na.contains a) true))/\Er u (sV a)))) (⟨[],[],0⟩:l7) (.lit (.func (.func 208) #[] #[.pointer (some ⟨u,0,none⟩)])) (fun j6:Nat=>j6<=gs.length/\∀ j,j<j6->((gs.getD j ⟨[],[],0⟩).na.contains a)=false)) ?_
 refine⟨⟨0,?_,rfl,rfl,rfl,Zah,ak⟩,?_⟩;simp;rintro i ⟨h1,h2⟩;have hni:=hn i;refine bI (fun j7=>?_) fun j7=>?_;refine⟨Zc3,aX ⟨hn i,bI (fun l3=>?_) fun l3=>?_⟩⟩;refine⟨?_,rfl⟩;rw[pX (i:=i) (by rw[Zay];omega) (by rw[HP Zac];exact l3) (fun j hj=>by rw[HP Zac];rw[h2 j hj];decide)];refine ag ⟨i+1,?_,?_,ak⟩;exact⟨Zac,bm h2 l3⟩;exact Zak;refine⟨?_,rfl⟩;rw[oG (fun j hj=>by rw[Zay]at hj;rw[HP hj];rw[h2 j Zac];decide)])
def Cj(gs:List l7)(a:BL)(u:Nat):av:=.mk 209 [bj gs,.lit (.func (.func 208) #[] #[.pointer (some ⟨u,0,none⟩)])] [(1000,(u,sV a))] ((gs.length<=1000000)/\(∀ i,(gs.getD i ⟨[],[],0⟩).na.length<=1000000)) (bV (gs.any fun y=>y.na.contains a)) [(1000,(u,sV a))] (by
 rintro⟨hg,hn⟩
 refine aq Tryz.func209
  (.q 1<|.q 2<|.c (Cn gs a u) [(1000,1000)]<|.q 2<|.nil)
  ((Cn gs a u).sm/\Er u (sV a)/\((gs.length<=1000000)/\(∀ i,(gs.getD i ⟨[],[],0⟩).na.length<=1000000))/\Q (bV (A9 (eL (gs.map fun y=>y.na.contains a) true) 0)) (bV (gs.any fun y=>y.na.contains a))/\Er u (sV a)) ?_
 refine aX ⟨?_,rfl⟩;unfold Q;refine Zbm bV ?_;show decide (eL (gs.map fun y=>y.na.contains a) true>=0)=_;rw[show decide (eL (gs.map fun y=>y.na.contains a) true>=0)=(gs.map fun y=>y.na.contains a).contains true from pI _ _];rw[Za6];simp)
def yA(a:BL):fY:=.mk Nat 207 [sV a] [] True (fun x=>True) (fun x=>.lit (.func (.func 208) #[] #[.pointer (some ⟨x,0,none⟩)])) (fun x=>[(1000,(x,sV a))]) (by
 intro _
 refine uH (N:=4) (rs:=[.tmp 2]) (X:=Nat) (post:=fun x=>True) (E:=fun x=>.lit (.func (.func 208) #[] #[.pointer (some ⟨x,0,none⟩)])) (H':=fun x=>[(1000,(x,sV a))]) Tryz.func207 Zae rfl rfl rfl Zae [(1000,(0,.b9))] (by intro _ k hk;simpa[lk] using hk)
  (.bx (fun g1=>.q 1<|.cu UQ (fun _=>.q 1<|.h (.rk 1 1000)<|.nil)))
  (∀ g1:Nat,((Value.func (.func 208) #[] #[.pointer (some ⟨g1,0,none⟩)]).oneCell'=true)/\∀ _:Unit,∃ x:Nat,(True)/\Q (.lit (.func (.func 208) #[] #[.pointer (some ⟨g1,0,none⟩)])) (.lit (.func (.func 208) #[] #[.pointer (some ⟨x,0,none⟩)]))/\Qr g1 (sV a) x (sV a))
  Zae ?_
 intro g1;refine⟨rfl,fun _=>⟨g1,?_,?_,?_⟩⟩
 · try dsimp only
   all_goals trivial
 exact Zaa;first | rfl | exact⟨rfl,rfl⟩ | simp_all)
abbrev ny(gs:List l7)(n:BL):V:=fj (.sl false ([n].map sV)) ((eE gs n).ru) ((eE gs n).wa)
def kI(gs:List l7)(n:BL):av:=.mk 184 [bj gs,sV n] [] ((gs.length<=1000)/\(∀ i,(gs.getD i ⟨[],[],0⟩).ru.length<=100)/\(∀ i,(gs.getD i ⟨[],[],0⟩).na.length<=1000000)) (ny gs n) [] (by
 rintro⟨hg,hr,ha⟩
 refine aq Tryz.func184
  (.al fB (fun g4=>.q 1<|.q 2<|.q 3<|.cx (yA n) [(1000,14)] (fun (m0:Nat)=>.c (Cj gs n m0) [(1000,14)]<|.q 1<|.join BL (fun d=>⟨[(0,bj gs),(1,sV n),(4,kp 4 g4),(5,.lit (.func (.func 207) #[] #[])),(10,sV n),(11,bj gs),(12,.lit (.func (.func 207) #[] #[])),(13,sV n),(14,.lit (.func (.func 208) #[] #[.pointer (some ⟨m0,0,none⟩)])),(15,bV (gs.any fun y=>y.na.contains n)),(16,bV (!(gs.any fun y=>y.na.contains n))),(6,sV d)],[(4,(g4,.agg [.sl true [],.sl true [],iN 0])),(14,(m0,sV n))]⟩) (fun d=>d=ku gs n) (.q 1<|.nil) (.nil) (fun d=>.q 1<|.bs<|.bd fB<|.al fB (fun g7=>.st none<|.q 3<|.h (.B8 (.key 7) [1] 2)<|.loop (Nat×(List r7)×Nat×Nat×Nat×Nat) (fun (i,e,q,u,f,k)=>⟨[(4,kp 4 g4),(5,.lit (.func (.func 207) #[] #[])),(6,sV d),(7,kp 7 g7),(20,bj gs),(21,iN gs.length),(22,iN i)],[(4,(g4,.agg [.sl true [],.sl true [],iN 0])),(7,(g7,fI (.sl true [sV n]) e u f k q))]⟩) (fun (i,e,q,u,f,k)=>i<=gs.length/\((gs.take i).foldl (dD d) (([],0),false)).1=(e,q)/\e.length<=100*i) (fun (i,e,q,u,f,k)=>gs.length-i) (fun (i,e,q,u,f,k)=>.q 1<|.br (.r 2 [cM (gs.getD i (⟨[],[],0⟩:l7))]<|.al fB (fun g9=>.st none<|.dx 4 [0,1,3,2] [(3,n6 [9] [29]),(2,⟨true,[],some [28],[28],[28]⟩)] []<|.l8 2<|.o6<|.cx (yA d) [(1000,28)] (fun (Tj:Nat)=>.c (yo (gs.getD i (⟨[],[],0⟩:l7)) d Tj) [(1000,28)]<|.br (.r 4 [.b9,.b9]<|.ap (fun QO QJ QR=>.h (.m8 35 (.own 2 ((e++((gs.getD i (⟨[],[],0⟩:l7)).ru)).map au) QO QJ QR))<|.q 1<|.st none<|.r 4 [.b9,.b9]<|.mm<|.q 1<|.st none<|.h (.s8 7 (fI (.sl true [sV n]) (e++((gs.getD i (⟨[],[],0⟩:l7)).ru)) QO QJ QR (max q (gs.getD i ⟨[],[],0⟩).wa)))<|.q 2<|.nil)) (.q 2<|.nil)))) (.mv<|.h (.fz 44)<|.h (.m8 44 (fj (.sl true [sV n]) e q))<|.st none<|.nil)))))))
  ((fun (v5 v3 v2:V) (v4:Bool) (v1:l7)=>(∀ g4:Nat,(fun v6:V=>(yA n).sm/\(True)/\∀ m0:Nat,(True)->(fun v7:V=>(Cj gs n m0).sm/\Er m0 (sV n)/\((gs.length<=1000000)/\(∀ i,(gs.getD i ⟨[],[],0⟩).na.length<=1000000))/\(v4=true->∃ d:BL,(d=ku gs n)/\E (bj gs)/\E (sV n)/\E v6/\E v2/\E (sV n)/\E (bj gs)/\E v2/\E (sV n)/\E v7/\E (bV (gs.any fun y=>y.na.contains n))/\E (bV v4)/\Q (sV ([42]:BL)) (sV d)/\Er g4 v3/\Er m0 (sV n)/\True)/\(v4=false->∃ d:BL,(d=ku gs n)/\E (bj gs)/\E (sV n)/\E v6/\E v2/\E (sV n)/\E (bj gs)/\E v2/\E (sV n)/\E v7/\E (bV (gs.any fun y=>y.na.contains n))/\E (bV v4)/\Q (sV n) (sV d)/\Er g4 v3/\Er m0 (sV n)/\True)/\(∀ d:BL,(d=ku gs n)->(fun v8:Nat->((List r7))->Nat->Nat->Nat->Nat->Prop=> ∀ g7:Nat,Z g7 0/\(∃ x:Nat×(List r7)×Nat×Nat×Nat×Nat,match x with | (j6,D6,w8,H9,z8,n7)=>(v8 j6 D6 w8 H9 z8 n7)/\E v6/\E v2/\E (sV d)/\E (kp 7 g7)/\E (bj gs)/\Q (iN ((gs.map bY).length)) (iN gs.length)/\Q (iN 0) (iN j6)/\Er g4 v3/\Qr g7 (.agg [.sl true [sV n],.own 2 ([].map au) 0 0 0,iN 0]) g7 (fI v5 D6 H9 z8 n7 w8)/\True)/\∀ x:Nat×(List r7)×Nat×Nat×Nat×Nat,match x with | (i,e,q,u,f,k)=>(v8 i e q u f k)->(fun v9:List V=>Br (r6 (i:Int) (gs.length:Int)) (Ex (i:Int) (gs.map bY) (cM (gs.getD i v1))/\True/\∀ g9:Nat,Z g9 0/\Z g9 0/\(yA d).sm/\(True)/\∀ Tj:Nat,(True)->(yo (gs.getD i v1) d Tj).sm/\Er Tj (sV d)/\(((gs.getD i v1).na.length<=1000000))/\Br ((gs.getD i v1).na.contains d) (Z g7 1/\Z g9 1/\((2,2,u,f,k,(e.map au).length)=(2,2,u,f,k,(e.map au).length))/\(True)/\(V.ax v9=false)/\(aS 2 v9)/\(((e.map au).length+v9.length)*24<=140737488355328)/\∀ QO QJ QR:Nat,((.own 2 ((e.map au)++v9) QO QJ QR:V)=.own 2 ((e++((gs.getD i v1).ru)).map au) QO QJ QR)/\Z g7 1/\Z g7 2/\Z g9 2/\(IntKind.i64=IntKind.i64)/\Z g7 2/\((.agg [.sl true [sV n],.own 2 ((e++((gs.getD i v1).ru)).map au) QO QJ QR,iV (max (q:Int) (((gs.getD i v1).wa:Nat):Int))]:V)=fI v5 (e++((gs.getD i v1).ru)) QO QJ QR (max q (gs.getD i ⟨[],[],0⟩).wa))/\m5 ((i:Int)+1)/\∃ x:Nat×(List r7)×Nat×Nat×Nat×Nat,match x with | (b7,x7,m9,C7,n9,k₂)=>(v8 b7 x7 m9 C7 n9 k₂)/\(gs.length-b7<gs.length-i)/\E v6/\E v2/\E (sV d)/\E (kp 7 g7)/\E (bj gs)/\E (iN gs.length)/\Q (iN (i+1)) (iN b7)/\Er g4 v3/\Qr g7 (fI v5 (e++((gs.getD i v1).ru)) QO QJ QR (max q (gs.getD i ⟨[],[],0⟩).wa)) g7 (fI v5 x7 C7 n9 k₂ m9)/\True) (m5 ((i:Int)+1)/\∃ x:Nat×(List r7)×Nat×Nat×Nat×Nat,match x with | (b7,x7,m9,C7,n9,k₂)=>(v8 b7 x7 m9 C7 n9 k₂)/\(gs.length-b7<gs.length-i)/\E v6/\E v2/\E (sV d)/\E (kp 7 g7)/\E (bj gs)/\E (iN gs.length)/\Q (iN (i+1)) (iN b7)/\Er g4 v3/\Qr g7 (fI v5 e u f k q) g7 (fI v5 x7 C7 n9 k₂ m9)/\True)) (Z g7 0/\((.agg [.sl true [sV n],.sl false (V.E4 (e.map au)),iN q]:V)=fj v5 e q)/\Z g4 0/\(g4=g4)/\Q (fj (.sl false [sV n]) e q) (ny gs n))) (((gs.getD i v1).ru).map au)) (fun (j6:Nat) (D6:(List r7)) (w8:Nat) (H9:Nat) (z8:Nat) (n7:Nat)=>j6<=gs.length/\((gs.take j6).foldl (dD d) (([],0),false)).1=(D6,w8)/\D6.length<=100*j6))) (.lit (.func (.func 208) #[] #[.pointer (some ⟨m0,0,none⟩)]))) (kp 4 g4))) (.sl true [sV n]) (.agg [.sl true [],.sl true [],iN 0]) (.lit (.func (.func 207) #[] #[])) (!(gs.any fun y=>y.na.contains n)) (⟨[],[],0⟩:l7)) ?_
 intro g4;refine aQ fun m0 QY=>⟨rfl,rfl,ag (ha),⟨fun j7=>?_,fun j7=>?_,fun d hd=>?_⟩⟩;try simp only[nb]at j7
 exact⟨([42]:BL),by unfold ku;rw[j7];rfl,rfl,rfl,rfl,rfl,rfl,rfl,rfl,rfl,rfl,rfl,rfl,rfl,rfl,rfl,trivial⟩;try simp only[nb]at j7
 exact⟨n,by unfold ku;rw[j7];rfl,rfl,rfl,rfl,rfl,rfl,rfl,rfl,rfl,rfl,rfl,rfl,rfl,rfl,rfl,trivial⟩;intro g7;refine⟨rfl,⟨⟨(0,[],0,0,0,0),?_,ej ⟨Zah,ak⟩⟩,?_⟩⟩;simp;rintro⟨i,e,q,u,f,k⟩ ⟨h1,h2,h3⟩;have hai:=ha i;refine bI (fun l3=>?_) fun l3=>?_;refine⟨Zc3,ag fun g9=>cF fun Tj hx9_2=>⟨rfl,rfl,ha i,bI (fun m7=>?_) fun m7=>?_⟩⟩;refine cF ⟨Zdi,Zdj,by(try simp only[Zay,Zar,Zau]);have:=hr i;omega,fun QO QJ QR=>⟨Zbm (V.own 2 · QO QJ QR) ((Zbb ..).symm),ej ⟨Zbm (fun z:Int=>(.agg [.sl true [sV n],.own 2 ((e++((gs.getD i (⟨[],[],0⟩:l7)).ru)).map au) QO QJ QR,iV z]:V)) Zac,ag ⟨(i+1,e++((gs.getD i (⟨[],[],0⟩:l7)).ru),max q (gs.getD i ⟨[],[],0⟩).wa,QO,QJ,QR),?_,?_,ak⟩⟩⟩⟩;have:=hr i;refine⟨Zac,?_,by simp only[Zap];omega⟩;rw[foldl_succ (d:=⟨[],[],0⟩) Zac,zY,if_pos m7,h2];exact Zak;refine ag ⟨(i+1,e,q,u,f,k),?_,?_,ak⟩;refine⟨Zac,?_,ak⟩;rw[foldl_succ (d:=⟨[],[],0⟩) Zac,zY,if_neg (by rw[m7];decide),h2];exact Zak;refine⟨rfl,by simp only[aV (f:=au) (fun _=>rfl)],rfl,⟨rfl,?_⟩⟩;unfold Q ny;rw[Zaz Zac]at h2;have hfa:=CN gs n;rw[hfa.1,hfa.2,<- hd,h2];rfl)
abbrev iS(w:List Pg)(d n:BL):V:=fj (.sl false ([n].map sV)) ((cL (ah w (aI d) 2).1 (ah w (aI d) 2).2 n).ru) ((cL (ah w (aI d) 2).1 (ah w (aI d) 2).2 n).wa)
def xw(w:List Pg)(d n:BL):av:=.mk 147 [.mp (w.map I4),sV d,sV n] [] ((d.length<=1000)/\((ah w (aI d) 2).2.length<=1000000)) (iS w d n) [] (by
 rintro⟨hd,ht⟩
 refine aq Tryz.func147
  (.al fB (fun g6=>.q 2<|.c (kM d) []<|.c (sS w (aI d)) []<|.q 5<|.q 1<|.q 2<|.br (.q 1<|.c (qD ((ah w (aI d) 2).2)) []<|.h (.fz 20)<|.h (.m8 20 (bj (bH ((ah w (aI d) 2).2))))<|.q 1<|.c (kI (bH ((ah w (aI d) 2).2)) n) []<|.st none<|.nil) (.q 2<|.br (.q 1<|.bs<|.bd pR<|.bs<|.bd fB<|.st none<|.nil) (.q 1<|.c (kI ([]:List l7) n) []<|.st none<|.nil))))
  ((fun (v2:List l7) (v1:Int×BL)=>(∀ g6:Nat,(kM d).sm/\((d.length<=4000000000000000000))/\(sS w (aI d)).sm/\(True)/\Br (o4 (v1.1) 1) ((qD (v1.2)).sm/\(((v1.2).length<=1000000))/\((.sl false (V.E4 ((bH (v1.2)).map az)):V)=bj (bH (v1.2)))/\(kI (bH (v1.2)) n).sm/\(((bH (v1.2)).length<=1000)/\(∀ i,((bH (v1.2)).getD i ⟨[],[],0⟩).ru.length<=100)/\(∀ i,((bH (v1.2)).getD i ⟨[],[],0⟩).na.length<=1000000))/\Z g6 0/\(g6=g6)/\Q (fj (.sl false ([n].map sV)) ((eE (bH (v1.2)) n).ru) ((eE (bH (v1.2)) n).wa)) (iS w d n)) (Br (o4 (v1.1) 3) (Z g6 0/\(g6=g6)/\Q (.agg [.sl false [sV n],.sl false [.agg [bV false,sV ([47]:BL)]],iN 0]) (iS w d n)) ((kI v2 n).sm/\((v2.length<=1000)/\(∀ i,(v2.getD i ⟨[],[],0⟩).ru.length<=100)/\(∀ i,(v2.getD i ⟨[],[],0⟩).na.length<=1000000))/\Z g6 0/\(g6=g6)/\Q (fj (.sl false ([n].map sV)) ((eE v2 n).ru) ((eE v2 n).wa)) (iS w d n))))) ([]:List l7) (ah w (aI d) 2)) ?_
 intro g6;refine cF (bI (fun j7=>?_) fun j7=>?_);refine⟨rfl,ht,Zbm (V.sl false) (tE _),rfl,⟨by have:=(ji (ah w (aI d) 2).2).len;omega,fun i=>((ji (ah w (aI d) 2).2).ru i).1,fun i=>by have:=((ji (ah w (aI d) 2).2).ru i).2;omega⟩,rfl,⟨rfl,?_⟩⟩;unfold Q iS;rw[show cL (ah w (aI d) 2).1 (ah w (aI d) 2).2 n=eE (bH (ah w (aI d) 2).2) n from by rw[cL,if_pos j7]];refine bI (fun l3=>?_) fun l3=>?_;refine⟨rfl,⟨rfl,?_⟩⟩;unfold Q iS;rw[show cL (ah w (aI d) 2).1 (ah w (aI d) 2).2 n=_ from by rw[cL,if_neg j7,if_pos l3]];rfl;refine⟨rfl,⟨Zad,Zad,Zad⟩,rfl,⟨rfl,?_⟩⟩;unfold Q iS;rw[show cL (ah w (aI d) 2).1 (ah w (aI d) 2).2 n=_ from by rw[cL,if_neg j7,if_neg l3]])
def dC(t:BL)(x:List BL×Bool×Nat)(i:Nat):List BL×Bool×Nat:=
 if 0<x.2.2/\t.getD i 0=62 then (x.1++[(t.take i).drop (x.2.2-1)],x.2.1,0)
 else if 0<x.2.2 then x
 else if x.2.1=true then (x.1,!(t.getD i 0==41),0)
 else if t.getD i 0=40 then (x.1,true,0)
 else if t.getD i 0=60 then (x.1,false,i+2) else x
def bP(t:BL):Nat->List BL×Bool×Nat
 | 0=>([],false,0)
 | i+1=>dC t (bP t i) i
def ao(t:BL):List BL:=if t.length<=300 then (bP t t.length).1 else []
structure MkB (t:BL) (i:Nat) (x:List BL×Bool×Nat):Prop where
 len:x.1.length<=i
 each:∀ m,m∈x.1->m.length<=t.length/\∀ c,c∈m->c∈t
 pos:x.2.2<=i+1
 one:0<x.2.2->x.2.1=false
theorem Je{t:BL}{i:Nat}{x:List BL×Bool×Nat}(h:MkB t i x):MkB t (i+1) (dC t x i):=by
 obtain⟨h1,h2,h3,h4⟩:=h;unfold dC;split;rename_i hc;refine⟨Zal,fun m hm=>?_,Zad,fun hc=>by simp at hc⟩;rcases Zax.1 hm with hm | hm;exact h2 m hm;rw[Zav.1 hm];exact⟨Zal,fun c hc=>List.mem_of_mem_take (List.mem_of_mem_drop hc)⟩;split;exact⟨Zac,h2,Zac,h4⟩;split;exact⟨Zal,h2,Zad,fun hc=>by simp at hc⟩;split;exact⟨Zal,h2,Zad,fun hc=>by simp at hc⟩;split;exact⟨Zal,h2,Zad,fun _=>rfl⟩;exact⟨Zac,h2,Zac,h4⟩
theorem rS(t:BL):∀ i,MkB t i (bP t i)
 | 0=>⟨by simp[bP],by simp[bP],by simp[bP],by simp[bP]⟩
 | i+1=>Je (rS t i)
theorem kX(t:BL):(ao t).length<=300/\∀ m,m∈ao t->m.length<=300/\∀ c,c∈m->c∈t:=by
 unfold ao;split;rename_i h;have hb:=rS t t.length;exact⟨by have:=hb.len;omega,fun m hm=>⟨by have:=(hb.each m hm).1;omega,(hb.each m hm).2⟩⟩;exact⟨Zad,fun m hm=>by simp at hm⟩
def ct(s:BL):UInt8:=s.getD 0 0
def eY(m:BL):Bool:=!(ct m==33)&&!(ct m==64)
def aN(t:BL):List BL:=(ao t).filter eY
def bf(t:BL):Option BL:=((ao t).find? fun m=>ct m==64).map (·.drop 1)
theorem pK(t:BL):(aN t).length<=300/\∀ m,m∈aN t->m.length<=300/\∀ c,c∈m->c∈t:=by
 have h:=kX t;exact⟨by have:=List.length_filter_le eY (ao t);unfold aN;omega,fun m hm=>h.2 m (List.mem_filter.1 hm).1⟩
theorem Ci{t r:BL}(h:bf t=some r):r.length<=300/\∀ c,c∈r->c∈t:=by
 unfold bf at h;cases e:(ao t).find? fun m=>ct m==64 with
 | none=>rw[e]at h;cases h
 | some m=>
   rw[e]at h;obtain rfl:=Option.some.inj h;have:=(kX t).2 m (List.mem_of_find?_eq_some e);exact⟨Zal,fun c hc=>this.2 c (List.mem_of_mem_drop hc)⟩
theorem wR{α:Type}{p:α->Bool}{d:α}:∀ {l:List α} {i:Nat},i<l.length->p (l.getD i d)=true->(∀ j,j<i->p (l.getD j d)=false)->l.find? p=some (l.getD i d)
 | [],_,h,_,_=>by simp at h
 | x::r,0,_,h,_=>by simp at h;simp[h]
 | x::r,i+1,hl,h,hn=>by
   have h0:=hn 0 Zac;simp at h0;rw[List.find?_cons_of_neg (by simpa using h0)];have:=wR (l:=r) (i:=i) (d:=d) (by simpa using hl) Zbq (fun j hj=>by have:=hn (j+1) Zac;simpa using this);simpa using this
theorem AZ{α:Type}{p:α->Bool}{d:α}{l:List α}(h:∀ j,j<l.length->p (l.getD j d)=false):l.find? p=none:=by
 rw[List.find?_eq_none];intro x hx;obtain⟨j,hj,rfl⟩:=Zbg.1 hx;have:=h j hj;rw[Zam,Zat hj]at this;simpa using this
def H4(a:w4)(ref:BL):Option w4:=
 if aF a=false\/60<ref.length then none
 else if 2<=(ab 35 ref).1.length/\(ab 35 ref).1.take 2=[47,47] then dN ((ab 35 ref).1.drop 2)
 else if (ab 35 ref).1=[] then some a
 else if ct (ab 35 ref).1=47 then cq a.j8 [] (ab 35 ref).1
 else if ct (ab 35 ref).1=63 then cq a.j8 a.c9 (ab 35 ref).1
 else cq a.j8 (a.c9.take (a.c9.length-1)) (ab 35 ref).1
def kB(l:List BL)(s:BL):List BL:=if l.contains s=true then l else l++[s]
def fq(a:w4)(t:BL):w4:=match bf t with
 | some r=>(H4 a r).getD a
 | none=>a
def dJ(b:w4)(o:List BL)(m:BL):List BL:=if (H4 b m).isSome=true then kB o (bw (oA (H4 b m))) else o
def bz(a:w4)(t:BL):List BL:=if aF a=true then (aN t).foldl (dJ (fq a t)) [] else []
def bU(a:BL)(k:Int)(t:BL):List BL:=if k=1 then bz (oA (aO a)) t else if k=2 then [t] else []
theorem FK{s:BL}(h:(dN s).isSome=true):aF (oA (dN s))=true:=oM h
theorem CI{a:w4}{r:BL}(h:(H4 a r).isSome=true):aF (oA (H4 a r))=true:=by
 unfold H4 at h ⊢;split;rename_i hc;rw[if_pos hc]at h;cases h;rename_i hc;rw[if_neg hc]at h;split;rename_i h2;rw[if_pos h2]at h;exact FK h;rename_i h2;rw[if_neg h2]at h;split;cases e:aF a with
 | true=>exact e
 | false=>exact absurd (.inl e) hc
 rename_i h3;rw[if_neg h3]at h;split;rename_i h4;rw[if_pos h4]at h;exact oM h;rename_i h4;rw[if_neg h4]at h;split;rename_i h5;rw[if_pos h5]at h;exact oM h;rename_i h5;rw[if_neg h5]at h;exact oM h
theorem HM(a:w4)(r:BL):cI (oA (H4 a r)):=by
 cases e:(H4 a r).isSome with
 | true=>exact nS (CI e)
 | false=>
   rw[Option.isSome_eq_false_iff]at e;rw[Option.isNone_iff_eq_none.1 e];exact qH
theorem zl{a:w4}{t:BL}(h:aF a=true):aF (fq a t)=true:=by
 unfold fq;split;rename_i r _;cases e:H4 a r with
 | none=>exact h
 | some x=>have:=CI (a:=a) (r:=r) (by rw[e];rfl);rw[e]at this;exact this
 exact h
theorem cI.sz{a:w4}(h:cI a):dg a:=⟨by have:=h.1;omega,by have:=h.2.1;omega,by have:=h.2.2.1;omega,fun i=>by have:=h.2.2.2 i;omega⟩
theorem Hi{a:w4}:(bw a).length<=60:=by
 unfold bw;split;rename_i h;unfold aF at h;simp only[Zao,Zbk]at h;exact h.2;simp
theorem Ce{l:List BL}{s:BL}:(kB l s).length<=l.length+1:=by
 unfold kB;split <;> simp
theorem Ch{l:List BL}{s x:BL}:x∈kB l s↔x∈l\/x=s:=by
 unfold kB;split;rename_i h;have h:s∈l:=Zbq
 exact⟨.inl,fun hx=>hx.elim id fun e=>e ▸ h⟩;simp
theorem Bv{b:w4}:∀ (ls:List BL) {o:List BL},(ls.foldl (dJ b) o).length<=o.length+ls.length/\((∀ m,m∈o->m.length<=60)->∀ m,m∈ls.foldl (dJ b) o->m.length<=60)
 | [],o=>⟨Zad,fun h=>h⟩
 | l::ls,o=>by
   have ih:=Bv (b:=b) ls (o:=dJ b o l);have h1:(dJ b o l).length<=o.length+1:=by unfold dJ;split;exact Ce;omega
   refine⟨by simp only[List.foldl_cons,Zar];omega,fun h=>ih.2 fun m hm=>?_⟩;unfold dJ at hm;split at hm;rcases Ch.1 hm with hm | rfl;exact h m hm;exact Hi;exact h m hm
theorem JY(a:w4)(t:BL):(bz a t).length<=300/\∀ m,m∈bz a t->m.length<=60:=by
 unfold bz;split;have h:=Bv (b:=fq a t) (aN t) (o:=[]);exact⟨by have:=(pK t).1;simp at h;omega,h.2 Zad⟩;exact⟨Zad,Zad⟩
theorem nV{α:Type}[DecidableEq α]:∀ {l u:List α},l.Nodup->(∀ x,x∈l->x∈u)->l.length<=u.length
 | [],_,_,_=>by simp
 | x::r,u,hn,hs=>by
   have hx:=hs x Zad;have VW:=List.nodup_cons.1 hn;have h:=nV (l:=r) (u:=u.erase x) VW.2 (fun y hy=>(List.mem_erase_of_ne (by rintro rfl;exact VW.1 hy)).2 (hs y (by simp[hy])));rw[List.length_erase_of_mem hx]at h;have:=List.length_pos_of_mem hx;simp only[Zar];omega
section
variable {N:Nat} {A A' B:AS} {P:Program}
theorem JV{X:Type}{v:V}{k:Nat}{Sl Hl:List Nat}(hk:k∈Hl)(fs:List Nat):S9 (fun (_:X) B=>AS.setAt B (.key k) [] v) fs Sl Hl where
 g:=fun _ B t _=>bD
 h:=fun _ B q hq=>pG (fun c=>hq (by rw[c];exact hk))
 c:=fun _ B B' hB=>⟨fun q=>by rw[bD,bD];exact hB.1 q,fun k=>fM hB.2⟩
 p:=fun _ B q v' _ _=>⟨fun q2=>by rw[bD,AS.aB,AS.aB,bD],fun k=>fM fun _=>rfl⟩
 q:=fun _ B q gv hq=>mw (fun c=>hq (by rw[c];exact hk))
def Zw(k:Nat):Eu P where
 X:=Unit
 pre N o A _ Hl:=match o.op,o.dst with
  | .store T x (.tmp y),none=>match ti P T,A.ev x,lk k A.h with
    | some i,.ptr (.key q) [] g o',some (g0,u)=>match q==k&&!(A.get y).df&&(A.get y).isVal&&(A.get y).n==u.n&&(A.get y).n==i.sz&&Hl.contains k&&o'==0 with
      | true=>g0=g
      | false=>False
    | _,_,_=>False
  | _,_=>False
 U o A _ B:=match o.op with
   | .store _ _ (.tmp y)=>B.setAt (.key k) [] (A.get y)
   | _=>B
 Wr:=by
  rintro N ⟨dst,op,ty,pos,after,D4⟩ A Sl Hl hp fs;simp only at hp;split at hp;split at hp;split at hp;rename_i e1;simp only[Zao,Zbi,Zbk]at e1;exact JV e1.1.2 fs;exact hp.elim;exact hp.elim;exact hp.elim
 ok:=by
  rintro N ⟨dst,op,ty,pos,after,D4⟩ A A' Sl Hl-hp hA hR;simp only at hp;split at hp;rename_i T x y;split at hp;rename_i i q g o' g0 u e1 e2 e3;split at hp;rename_i e4;subst hp;simp only[Zao,Zbl,Bool.not_eq_true',Zbi,Zbk]at e4;obtain⟨⟨⟨⟨⟨⟨rfl,hw⟩,hv⟩,hn⟩,hz⟩,_⟩,rfl⟩:=e4;have hy:A'.get y=A.get y:=hA y (by simp[Op.operands]);have hd:A'.drop (.tmp y)=A':=by simp[AS.drop,hy,hw]
  refine qM (r:=.key q) (p:=[]) (g:=g0) (g':=0) (old:=u) rfl rfl e1 (by rw[<- e2];exact bp fun t ht=>hA t Zb2) (by rw[hd];simp only[AS.at,hR,e3];rfl) ?_ ?_ ?_ ?_;show (A'.get y).isVal=true;rw[hy];exact hv;show (A'.get y).n=u.n;rw[hy];exact hn;show (A'.get y).n=i.sz;rw[hy];exact hz;rw[hd];exact⟨(),by show A'.setAt (.key q) [] (A'.get y)=_;rw[hy]⟩;exact hp.elim;exact hp.elim;exact hp.elim
end
theorem LA{l:List BL}{y:BL}{i:Nat}(h:i<l.length)(e:l.getD i []=y):l.contains y=true:=by
 rw[Zam,Zat h]at e;simp only[Option.getD_some]at e;simp only[List.contains_iff_mem];exact e ▸ List.getElem_mem h
theorem Mp{l:List BL}{y:BL}(h:∀ j,j<l.length->l.getD j []≠y):l.contains y=false:=by
 rw[Bool.eq_false_iff];simp only[ne_eq,List.contains_iff_mem];intro hm;obtain⟨j,hj,e⟩:=Zbg.1 hm;have:=h j hj;rw[Zam,Zat hj]at this;exact this e
theorem c8{c k:UInt8}(h:((c.toNat:Nat):Int)=((k.toNat:Nat):Int)):c=k:=UInt8.toNat_inj.1 Zac
theorem Tg{c k:UInt8}(h: ¬ ((c.toNat:Nat):Int)=((k.toNat:Nat):Int)): ¬ c=k:=fun e=>h (by rw[e])
theorem b8{c k:UInt8}:(c==k)=(((c.toNat:Nat):Int)==((k.toNat:Nat):Int)):=by
 rw[Za6,Zbl,Zbl,<- UInt8.toNat_inj];omega
theorem KJ{t:BL}{o:List BL}{r:Bool}{q i:Nat}(h:0<q)(e:t.getD i 0=62):dC t (o,r,q) i=(o++[(t.take i).drop (q-1)],r,0):=if_pos ⟨h,e⟩
theorem Lz{t:BL}{o:List BL}{r:Bool}{q i:Nat}(h:0<q)(e: ¬ t.getD i 0=62):dC t (o,r,q) i=(o,r,q):=by
 unfold dC;rw[if_neg (fun c=>e c.2),if_pos h]
theorem La{t:BL}{o:List BL}{r:Bool}{i:Nat}(h:r=true):dC t (o,r,0) i=(o,!(t.getD i 0==41),0):=by
 unfold dC;rw[if_neg (fun c=>absurd c.1 Zad),if_neg Zad,if_pos h]
theorem LV{t:BL}{o:List BL}{r:Bool}{i:Nat}(h:r=false)(e:t.getD i 0=40):dC t (o,r,0) i=(o,true,0):=by
 unfold dC;rw[if_neg (fun c=>absurd c.1 Zad),if_neg Zad,if_neg (by rw[h];exact Bool.false_ne_true),if_pos e]
theorem KD{t:BL}{o:List BL}{r:Bool}{i:Nat}(h:r=false)(e: ¬ t.getD i 0=40)(e2:t.getD i 0=60):dC t (o,r,0) i=(o,false,i+2):=by
 unfold dC;rw[if_neg (fun c=>absurd c.1 Zad),if_neg Zad,if_neg (by rw[h];exact Bool.false_ne_true),if_neg e,if_pos e2]
theorem KK{t:BL}{o:List BL}{r:Bool}{i:Nat}(h:r=false)(e: ¬ t.getD i 0=40)(e2: ¬ t.getD i 0=60):dC t (o,r,0) i=(o,r,0):=by
 unfold dC;rw[if_neg (fun c=>absurd c.1 Zad),if_neg Zad,if_neg (by rw[h];exact Bool.false_ne_true),if_neg e,if_neg e2]
theorem head_eq{m:BL}(h:(((ct m).toNat:Nat):Int)=64):(ct m==64)=true:=by
 rw[Zbl,<- UInt8.toNat_inj];show (ct m).toNat=64;omega
theorem head_ne{m:BL}(h: ¬ (((ct m).toNat:Nat):Int)=64):(ct m==64)=false:=by
 rw[beq_eq_false_iff_ne];intro e;rw[e]at h;exact h rfl
theorem uw{m:BL}:eY m=true↔¬ (((ct m).toNat:Nat):Int)=33/\¬ (((ct m).toNat:Nat):Int)=64:=by
 unfold eY;simp only[Zao,Bool.not_eq_true',beq_eq_false_iff_ne,ne_eq,<- UInt8.toNat_inj];show (¬ (ct m).toNat=33/\¬ (ct m).toNat=64)↔_;omega
theorem LX{m:BL}(h: ¬ (((ct m).toNat:Nat):Int)=33/\¬ (((ct m).toNat:Nat):Int)=64):eY m=true:=uw.2 h
theorem Mm{m:BL}(h: ¬ (((ct m).toNat:Nat):Int)=33->(((ct m).toNat:Nat):Int)=64):eY m=false:=by
 rw[Bool.eq_false_iff];exact fun c=>(uw.1 c).2 (h (uw.1 c).1)
theorem Ho{m:BL}(h:(((ct m).toNat:Nat):Int)=64):1<=m.length:=by
 cases m with
 | nil=>exact absurd h Zaf
 | cons a r=>simp
theorem Af(t:BL):((bf t).getD []).length<=300:=by
 cases h:bf t with
 | none=>simp
 | some r=>exact(Ci h).1
theorem EC{t:BL}{i:Nat}{o:List BL}{r:Bool}{q:Nat}(h1:i<=t.length)(h2:t.length<=300\/i=0)(h3:bP t i=(o,r,q))(hb:(i:Int)<(t.length:Int)->300<(t.length:Int)):ao t=o:=by
 unfold ao;split;obtain rfl:i=t.length:=Zac;rw[h3];obtain rfl:i=0:=Zac;exact Zbm Prod.fst h3
theorem BQ{l:List BL}{k m:Nat}(h:∀ i,(l.getD i []).length<=m):∀ i,((l.take k).getD i []).length<=m:=fun i=>by
 have:=h i;rw[Zam]at this ⊢;rw[List.getElem?_take];split;exact this;simp
theorem oF{a:w4}{ref:BL}(h:aF a=true/\(ref.length:Int)<=60):H4 a ref=if 2<=(ab 35 ref).1.length/\(ab 35 ref).1.take 2=[47,47] then dN ((ab 35 ref).1.drop 2)
 else if (ab 35 ref).1=[] then some a
 else if ct (ab 35 ref).1=47 then cq a.j8 [] (ab 35 ref).1
 else if ct (ab 35 ref).1=63 then cq a.j8 a.c9 (ab 35 ref).1
 else cq a.j8 (a.c9.take (a.c9.length-1)) (ab 35 ref).1:=by
 unfold H4;rw[if_neg (by rintro (c | c);rw[h.1]at c;cases c;omega)]
theorem Ou{s:BL}(h:2<=(s.length:Int)/\(s.take 2).drop (0:Int).toNat=[47,47]):2<=s.length/\s.take 2=[47,47]:=⟨Zac,by simpa using h.2⟩
theorem CU{s:BL}(h:2<=(s.length:Int)->¬ (s.take 2).drop (0:Int).toNat=[47,47]): ¬ (2<=s.length/\s.take 2=[47,47]):=fun c=>h Zac (by simpa using c.2)
theorem yw{s:BL}{k:UInt8}(h:(((s.getD 0 0).toNat:Nat):Int)=((k.toNat:Nat):Int)):ct s=k:=UInt8.toNat_inj.1 (by unfold ct;omega)
theorem sC{s:BL}{k:UInt8}(h: ¬ (((s.getD 0 0).toNat:Nat):Int)=((k.toNat:Nat):Int)): ¬ ct s=k:=fun c=>h (by rw[<- c];rfl)
theorem mH{a:w4}{t:BL}(h:(bf t).isSome=true)(h2:(H4 a ((bf t).getD [])).isSome=true):oA (H4 a ((bf t).getD []))=fq a t:=by
 unfold fq;cases e:bf t with
 | none=>rw[e]at h;cases h
 | some r=>
   rw[e]at h2;simp only[Option.getD_some]at h2 ⊢;cases e2:H4 a r with
   | none=>rw[e2]at h2;cases h2
   | some x=>rfl
theorem mN{a:w4}{t:BL}(h:(bf t).isSome=true)(h2:(H4 a ((bf t).getD [])).isSome=false):a=fq a t:=by
 unfold fq;cases e:bf t with
 | none=>rfl
 | some r=>
   rw[e]at h2;simp only[Option.getD_some]at h2 ⊢;cases e2:H4 a r with
   | none=>rfl
   | some x=>rw[e2]at h2;cases h2
theorem mQ{a:w4}{t:BL}(h:(bf t).isSome=false):a=fq a t:=by
 unfold fq;cases e:bf t with
 | none=>rfl
 | some r=>rw[e]at h;cases h
def BF(l:List BL)(y:BL):av:=.mk 178 [.ow 1 (l.map sV),sV y] [] (l.length<=1000000) (.ow 1 ((kB l y).map sV)) [] (by
 intro hl
 refine aq Tryz.func178
  (.ot 0 (fun g0 o0 c0=>.l8 2<|.loop Nat (fun i=>⟨[(0,.own 1 (l.map sV) g0 o0 c0),(1,sV y),(5,iN i)],[]⟩) (fun i=>i<=l.length/\∀ j,j<i->(l.getD j []==y)=false) (fun i=>l.length-i) (fun i=>.q 4<|.br (.r 6 [sV (l.getD i [])]<|.br (.mv<|.q 1<|.nil) (.q 3<|.nil)) (.q 2<|.bs<|.ap (fun g22 Sh Sw=>.h (.m8 22 (.own 1 ((l++[y]).map sV) g22 Sh Sw))<|.q 1<|.nil)))))
  ((fun v1:Nat->Prop=>(∀ g0 o0 c0:Nat,(fun v2:V=>(∃ j6:Nat,(v1 j6)/\E v2/\E (sV y)/\Q (iN 0) (iN j6)/\True)/\∀ i:Nat,(v1 i)->Br (r6 (i:Int) (((l.map sV).length:Nat):Int)) (In (i:Int) ((l.map sV).length)/\(V.at g0 o0 v2 [0+i]=some (g0,(o0+(0+i)*1),sV (l.getD i [])))/\Br ((l.getD i [])==y) (Q (.ow 1 (l.map sV)) (.ow 1 ((kB l y).map sV))) (m5 ((i:Int)+1)/\∃ b7:Nat,(v1 b7)/\(l.length-b7<l.length-i)/\E v2/\E (sV y)/\Q (iN (i+1)) (iN b7)/\True)) (((1,1,g0,o0,c0,(l.map sV).length)=(1,1,g0,o0,c0,(l.map sV).length))/\(True)/\(V.ax ([sV y]:List V)=false)/\(aS 1 ([sV y]:List V))/\(((l.map sV).length+([sV y]:List V).length)*16<=140737488355328)/\∀ g22 Sh Sw:Nat,((.own 1 ((l.map sV)++([sV y]:List V)) g22 Sh Sw:V)=.own 1 ((l++[y]).map sV) g22 Sh Sw)/\Q (.ow 1 ((l++[y]).map sV)) (.ow 1 ((kB l y).map sV)))) (.own 1 (l.map sV) g0 o0 c0))) (fun j6:Nat=>j6<=l.length/\∀ j,j<j6->(l.getD j []==y)=false)) ?_
 intro g0 o0 c0;refine⟨⟨0,?_,ak⟩,?_⟩;simp;rintro i ⟨h1,h2⟩;refine bI (fun j7=>?_) fun j7=>?_;refine ag ⟨gO (by rw[Zaw];exact af (d:=[]) Zac),bI (fun l3=>?_) fun l3=>?_⟩;rw[show kB l y=l from if_pos (LA (i:=i) Zac l3)];refine ag ⟨i+1,?_,?_,ak⟩;exact⟨Zac,Zdw⟩;exact Zak;refine cF ⟨Zal,fun g22 Sh Sw=>⟨Zbm (V.own 1 · g22 Sh Sw) Zad,?_⟩⟩;rw[show kB l y=l++[y] from if_neg (by rw[Mp (fun j hj=>by have:=h2 j Zac;simpa using this)];decide)])
def oc(t:BL):av:=.mk 202 [sV t] [] (t.length<=4611686018427387904) (ar (ao t)) [] (by
 intro ht
 refine aq Tryz.func202
  (.q 1<|.bs<|.l8 4<|.h (.I7 3 1)<|.loop (Nat×(List BL)×Bool×Nat×Nat×Nat×Nat) (fun (i,o,r,q,g,f,k)=>⟨[(0,sV t),(3,.own 1 (o.map sV) g f k),(4,bV r),(5,iV ((q:Int)-1)),(6,iN i)],[]⟩) (fun (i,o,r,q,g,f,k)=>i<=t.length/\(t.length<=300\/i=0)/\bP t i=(o,r,q)) (fun (i,o,r,q,g,f,k)=>t.length-i) (fun (i,o,r,q,g,f,k)=>.q 9<|.br (.q 9<|.br (.q 4<|.h (.m8 5 (iN (q-1)))<|.h (.m8 20 (iN (q-1)))<|.h (.m8 30 (iN (q-1)))<|.q 1<|.bs<|.ap (fun Ss Sg Sv=>.h (.m8 34 (.own 1 ((o++[(t.take i).drop (q-1)]).map sV) Ss Sg Sv))<|.l8 2<|.q 3<|.nil)) (.q 3<|.br (.q 3<|.nil) (.q 2<|.br (.q 5<|.q 3<|.nil) (.q 5<|.br (.q 1<|.q 3<|.nil) (.q 5<|.br (.q 3<|.q 3<|.nil) (.q 3<|.nil)))))) (.h (.fz 3)<|.h (.m8 3 (ar o))<|.q 2<|.nil)))
  ((∃ x:Nat×(List BL)×Bool×Nat×Nat×Nat×Nat,match x with | (j6,s4,Py,w8,x9,z8,n7)=>(j6<=t.length/\(t.length<=300\/j6=0)/\bP t j6=(s4,Py,w8))/\E (sV t)/\Q (.own 1 ([].map sV) 0 0 0) (.own 1 (s4.map sV) x9 z8 n7)/\Q (bV false) (bV Py)/\Q (iV (-1)) (iV ((w8:Int)-1))/\Q (iN 0) (iN j6)/\True)/\∀ x:Nat×(List BL)×Bool×Nat×Nat×Nat×Nat,match x with | (i,o,r,q,g,f,k)=>(i<=t.length/\(t.length<=300\/i=0)/\bP t i=(o,r,q))->(fun (v5 v4:Bool) (v3:V) (v2:Int) (v1:List V)=>Pk v5 (v5==true) true/\Br (v5&&(E2 (t.length:Int) 300)) (Gd (v4==true) (Ix (i:Int) t)/\Pk v4 (v4==true) true/\Br (v4&&(o4 v2 62)) (((iV ((q:Int)-1):V)=iN (q-1))/\((iV ((q:Int)-1):V)=iN (q-1))/\((iV ((q:Int)-1):V)=iN (q-1))/\Sx ((q-1:Nat):Int) (i:Int) t/\((1,1,g,f,k,(o.map sV).length)=(1,1,g,f,k,(o.map sV).length))/\(True)/\(V.ax v1=false)/\(aS 1 v1)/\(((o.map sV).length+v1.length)*16<=140737488355328)/\∀ Ss Sg Sv:Nat,((.own 1 ((o.map sV)++v1) Ss Sg Sv:V)=.own 1 ((o++[(t.take i).drop (q-1)]).map sV) Ss Sg Sv)/\m5 ((i:Int)+1)/\∃ x:Nat×(List BL)×Bool×Nat×Nat×Nat×Nat,match x with | (b7,l6,D3,m9,o9,n9,k₂)=>(b7<=t.length/\(t.length<=300\/b7=0)/\bP t b7=(l6,D3,m9))/\(t.length-b7<t.length-i)/\E (sV t)/\Q (.own 1 ((o++[(t.take i).drop (q-1)]).map sV) Ss Sg Sv) (.own 1 (l6.map sV) o9 n9 k₂)/\Q (bV r) (bV D3)/\Q (iV (-1)) (iV ((m9:Int)-1))/\Q (iN (i+1)) (iN b7)/\True) (Br v4 (m5 ((i:Int)+1)/\∃ x:Nat×(List BL)×Bool×Nat×Nat×Nat×Nat,match x with | (b7,l6,D3,m9,o9,n9,k₂)=>(b7<=t.length/\(t.length<=300\/b7=0)/\bP t b7=(l6,D3,m9))/\(t.length-b7<t.length-i)/\E (sV t)/\Q v3 (.own 1 (l6.map sV) o9 n9 k₂)/\Q (bV r) (bV D3)/\Q (iV ((q:Int)-1)) (iV ((m9:Int)-1))/\Q (iN (i+1)) (iN b7)/\True) (Br r (Ix (i:Int) t/\m5 ((i:Int)+1)/\∃ x:Nat×(List BL)×Bool×Nat×Nat×Nat×Nat,match x with | (b7,l6,D3,m9,o9,n9,k₂)=>(b7<=t.length/\(t.length<=300\/b7=0)/\bP t b7=(l6,D3,m9))/\(t.length-b7<t.length-i)/\E (sV t)/\Q v3 (.own 1 (l6.map sV) o9 n9 k₂)/\Q (bV (D1 v2 41)) (bV D3)/\Q (iV ((q:Int)-1)) (iV ((m9:Int)-1))/\Q (iN (i+1)) (iN b7)/\True) (Ix (i:Int) t/\Br (o4 v2 40) (m5 ((i:Int)+1)/\∃ x:Nat×(List BL)×Bool×Nat×Nat×Nat×Nat,match x with | (b7,l6,D3,m9,o9,n9,k₂)=>(b7<=t.length/\(t.length<=300\/b7=0)/\bP t b7=(l6,D3,m9))/\(t.length-b7<t.length-i)/\E (sV t)/\Q v3 (.own 1 (l6.map sV) o9 n9 k₂)/\Q (bV true) (bV D3)/\Q (iV ((q:Int)-1)) (iV ((m9:Int)-1))/\Q (iN (i+1)) (iN b7)/\True) (Ix (i:Int) t/\Br (o4 v2 60) (m5 ((i:Int)+1)/\m5 ((i:Int)+1)/\∃ x:Nat×(List BL)×Bool×Nat×Nat×Nat×Nat,match x with | (b7,l6,D3,m9,o9,n9,k₂)=>(b7<=t.length/\(t.length<=300\/b7=0)/\bP t b7=(l6,D3,m9))/\(t.length-b7<t.length-i)/\E (sV t)/\Q v3 (.own 1 (l6.map sV) o9 n9 k₂)/\Q (bV r) (bV D3)/\Q (iN (i+1)) (iV ((m9:Int)-1))/\Q (iN (i+1)) (iN b7)/\True) (m5 ((i:Int)+1)/\∃ x:Nat×(List BL)×Bool×Nat×Nat×Nat×Nat,match x with | (b7,l6,D3,m9,o9,n9,k₂)=>(b7<=t.length/\(t.length<=300\/b7=0)/\bP t b7=(l6,D3,m9))/\(t.length-b7<t.length-i)/\E (sV t)/\Q v3 (.own 1 (l6.map sV) o9 n9 k₂)/\Q (bV r) (bV D3)/\Q (iV ((q:Int)-1)) (iV ((m9:Int)-1))/\Q (iN (i+1)) (iN b7)/\True)))))) (((.sl false (V.E4 (o.map sV)):V)=ar o)/\Q (ar o) (ar (ao t)))) (r6 (i:Int) (t.length:Int)) (A9 ((q:Int)-1) 0) (.own 1 (o.map sV) g f k) (((t.getD i 0).toNat:Nat):Int) ([sV ((t.take i).drop (q-1))]:List V)) ?_
 refine⟨⟨(0,[],false,0,0,0,0),?_,rfl,rfl,rfl,Zah,ak⟩,?_⟩;exact⟨Zac,.inr rfl,rfl⟩;rintro⟨i,o,r,q,g,f,k⟩ ⟨h1,h2,h3⟩;have U0:=rS t i;rw[h3]at U0;have UC:=U0.len;have Y5:=U0.pos;have Y4:=U0.one;simp only at UC Y5 Y4;refine ag (bI (fun j7=>?_) fun j7=>?_);refine aQ (bI (fun l3=>?_) fun l3=>?_);refine⟨(Zbm iV Zac),(Zbm iV Zac),(Zbm iV Zac),ej ⟨Zal,fun Ss Sg Sv=>⟨Zbm (V.own 1 · Ss Sg Sv) Zad,ag ⟨(i+1,o++[(t.take i).drop (q-1)],r,0,Ss,Sg,Sv),?_,?_,rfl,rfl,rfl,Zdx,ak⟩⟩⟩⟩;refine⟨Zac,.inl Zac,?_⟩;rw[show bP t (i+1)=dC t (bP t i) i from rfl,h3,KJ Zac (c8 (k:=62) l3.2)];exact Zak;refine bI (fun m7=>?_) fun m7=>?_;refine ag ⟨(i+1,o,r,q,g,f,k),?_,?_,rfl,rfl,rfl,Zdx,ak⟩;refine⟨Zac,.inl Zac,?_⟩;rw[show bP t (i+1)=dC t (bP t i) i from rfl,h3,Lz Zac (Tg (k:=62) (l3 m7))];exact Zak;refine bI (fun x2=>?_) fun x2=>?_;refine aQ ⟨(i+1,o,D1 (((t.getD i 0).toNat:Nat):Int) 41,q,g,f,k),?_,?_,rfl,rfl,rfl,Zdx,ak⟩;refine⟨Zac,.inl Zac,?_⟩;obtain rfl:q=0:=Zac;rw[show bP t (i+1)=dC t (bP t i) i from rfl,h3,La x2,b8];rfl;exact Zak;refine ag (bI (fun D8=>?_) fun D8=>?_);refine ag ⟨(i+1,o,true,q,g,f,k),?_,?_,rfl,rfl,rfl,Zdx,ak⟩;refine⟨Zac,.inl Zac,?_⟩;obtain rfl:q=0:=Zac;rw[show bP t (i+1)=dC t (bP t i) i from rfl,h3,LV x2 (c8 (k:=40) D8)];exact Zak;refine ag (bI (fun Po=>?_) fun Po=>?_);refine aQ ⟨(i+1,o,r,i+2,g,f,k),?_,?_,rfl,rfl,rfl,Zdx,ak⟩;refine⟨Zac,.inl Zac,?_⟩;obtain rfl:q=0:=Zac;rw[show bP t (i+1)=dC t (bP t i) i from rfl,h3,KD x2 (Tg (k:=40) D8) (c8 (k:=60) Po),x2];exact Zak;refine ag ⟨(i+1,o,r,q,g,f,k),?_,?_,rfl,rfl,rfl,Zdx,ak⟩;refine⟨Zac,.inl Zac,?_⟩;obtain rfl:q=0:=Zac;rw[show bP t (i+1)=dC t (bP t i) i from rfl,h3,KK x2 (Tg (k:=40) D8) (Tg (k:=60) Po)];exact Zak;refine⟨Zcf,?_⟩;rw[show ao t=o from EC h1 h2 h3 j7])
def lx(s:BL):av:=.mk 203 [sV s] [] (s.length<=4611686018427387904) (uN ((ct s).toNat)) [] (by
 intro hs
 refine aq Tryz.func203
  (.q 1<|.q 2<|.br (.q 1<|.nil) (.q 3<|.nil))
  (Br (s==[]) (Q (uN 0) (uN ((ct s).toNat))) (Ix 0 s/\Q (uN ((s.getD 0 0).toNat)) (uN ((ct s).toNat)))) ?_
 refine bI (fun j7=>?_) fun j7=>?_;unfold Q;simp_all[ct];refine⟨by have:=List.length_pos_iff.2 j7;omega,?_⟩;rfl)
abbrev iC(t:BL)(i:Nat):Prop:=i<=(ao t).length/\∀ j,j<i->(ct ((ao t).getD j [])==64)=false
def uF(t:BL):av:=.mk 175 [sV t] [] (t.length<=4611686018427387904) (.tup [sV ((bf t).getD []),bV ((bf t).isSome)]) [] (by
 intro ht;obtain⟨UC,TX⟩:=kX t
 refine aq Tryz.func175
  (.q 2<|.q 1<|.c (oc t) []<|.l8 2<|.loop Nat (fun i=>⟨[(4,ar (ao t)),(5,iN i)],[]⟩) (fun i=>iC t i) (fun i=>(ao t).length-i) (fun i=>.q 4<|.br (.r 4 [sV ((ao t).getD i [])]<|.c (lx ((ao t).getD i [])) []<|.q 1<|.br (.r 7 [sV ((ao t).getD i [])]<|.nil) (.q 3<|.nil)) (.q 2<|.nil)))
  ((fun v1:V=>((oc t).sm/\((t.length<=4611686018427387904))/\(∃ j6:Nat,(iC t j6)/\E (ar (ao t))/\Q (iN 0) (iN j6)/\True)/\∀ i:Nat,(iC t i)->Br (r6 (i:Int) ((((ao t).map sV).length:Nat):Int)) (Ex (i:Int) ((ao t).map sV) (sV ((ao t).getD i []))/\True/\(lx ((ao t).getD i [])).sm/\((((ao t).getD i []).length<=4611686018427387904))/\Br (o4 (((ct ((ao t).getD i [])).toNat:Nat):Int) 64) (Ex (i:Int) ((ao t).map sV) (sV ((ao t).getD i []))/\True/\Sx (1:Int) (((ao t).getD i []).length:Int) ((ao t).getD i [])/\Q (.tup [sV ((((ao t).getD i []).take ((ao t).getD i []).length).drop 1),bV true]) v1) (m5 ((i:Int)+1)/\∃ b7:Nat,(iC t b7)/\((ao t).length-b7<(ao t).length-i)/\E (ar (ao t))/\Q (iN (i+1)) (iN b7)/\True)) (Q (.tup [sV [],bV false]) v1))) (.tup [sV ((bf t).getD []),bV ((bf t).isSome)])) ?_
 refine aQ ⟨⟨0,?_,ak⟩,?_⟩;unfold iC;simp;rintro i ⟨h1,h2⟩;have L':=ij (n:=300) (fun m hm=>(TX m hm).1) i;refine bI (fun j7=>?_) fun j7=>?_;refine⟨Zcg,aX (bI (fun l3=>?_) fun l3=>?_)⟩;refine⟨Zcg,trivial,by have:=Ho l3;omega,?_⟩;rw[show bf t=some (((ao t).getD i []).drop 1) from by rw[bf,wR (i:=i) (d:=[]) Zac (head_eq l3) h2];rfl,List.take_length];rfl;refine ag ⟨i+1,?_,?_,ak⟩;unfold iC;exact⟨Zac,bm h2 (head_ne l3)⟩;exact Zak;rw[show bf t=none from by rw[bf,AZ (d:=[]) (fun j hj=>h2 j Zac)];rfl];rfl)
def tq(t:BL):av:=.mk 177 [sV t] [] (t.length<=4611686018427387904) (ar (aN t)) [] (by
 intro ht;obtain⟨UC,TX⟩:=kX t
 refine aq Tryz.func177
  (.l8 2<|.c (oc t) []<|.q 1<|.bs<|.l8 2<|.h (.I7 4 1)<|.loop (Nat×(List BL)×Nat×Nat×Nat) (fun (i,o,g,f,k)=>⟨[(3,ar (ao t)),(4,.own 1 (o.map sV) g f k),(5,iN i)],[]⟩) (fun (i,o,g,f,k)=>i<=(ao t).length/\o=((ao t).take i).filter eY/\o.length<=i) (fun (i,o,g,f,k)=>(ao t).length-i) (fun (i,o,g,f,k)=>.q 4<|.br (.r 4 [sV ((ao t).getD i [])]<|.c (lx ((ao t).getD i [])) []<|.r 6 [sV ((ao t).getD i [])]<|.cg (lx ((ao t).getD i []))<|.q 2<|.br (.r 5 [sV ((ao t).getD i [])]<|.bs<|.ap (fun QO QJ QR=>.h (.m8 35 (.own 1 ((o++[((ao t).getD i [])]).map sV) QO QJ QR))<|.q 1<|.q 3<|.nil)) (.q 3<|.nil)) (.h (.fz 4)<|.h (.m8 4 (ar o))<|.q 2<|.nil)))
  ((fun v1:List V=>((oc t).sm/\((t.length<=4611686018427387904))/\(∃ x:Nat×(List BL)×Nat×Nat×Nat,match x with | (j6,s4,x9,z8,n7)=>(j6<=(ao t).length/\s4=((ao t).take j6).filter eY/\s4.length<=j6)/\E (ar (ao t))/\Q (.own 1 ([].map sV) 0 0 0) (.own 1 (s4.map sV) x9 z8 n7)/\Q (iN 0) (iN j6)/\True)/\∀ x:Nat×(List BL)×Nat×Nat×Nat,match x with | (i,o,g,f,k)=>(i<=(ao t).length/\o=((ao t).take i).filter eY/\o.length<=i)->(fun (v4:V) (v3:List V) (v2:Int)=>Br (r6 (i:Int) ((v1.length:Nat):Int)) (Ex (i:Int) v1 v4/\True/\(lx ((ao t).getD i [])).sm/\((((ao t).getD i []).length<=4611686018427387904))/\Gd ((D1 v2 33)==true) (Ex (i:Int) v1 v4)/\Gd ((D1 v2 33)==true) True/\Gd ((D1 v2 33)==true) (((((ao t).getD i []).length<=4611686018427387904))/\(lx ((ao t).getD i [])).sm)/\Pk (D1 v2 33) ((D1 v2 33)==true) true/\Br ((D1 v2 33)&&(D1 v2 64)) (Ex (i:Int) v1 v4/\True/\((1,1,g,f,k,(o.map sV).length)=(1,1,g,f,k,(o.map sV).length))/\(True)/\(V.ax v3=false)/\(aS 1 v3)/\(((o.map sV).length+v3.length)*16<=140737488355328)/\∀ QO QJ QR:Nat,((.own 1 ((o.map sV)++v3) QO QJ QR:V)=.own 1 ((o++[((ao t).getD i [])]).map sV) QO QJ QR)/\m5 ((i:Int)+1)/\∃ x:Nat×(List BL)×Nat×Nat×Nat,match x with | (b7,l6,o9,n9,k₂)=>(b7<=(ao t).length/\l6=((ao t).take b7).filter eY/\l6.length<=b7)/\((ao t).length-b7<(ao t).length-i)/\E (ar (ao t))/\Q (.own 1 ((o++[((ao t).getD i [])]).map sV) QO QJ QR) (.own 1 (l6.map sV) o9 n9 k₂)/\Q (iN (i+1)) (iN b7)/\True) (m5 ((i:Int)+1)/\∃ x:Nat×(List BL)×Nat×Nat×Nat,match x with | (b7,l6,o9,n9,k₂)=>(b7<=(ao t).length/\l6=((ao t).take b7).filter eY/\l6.length<=b7)/\((ao t).length-b7<(ao t).length-i)/\E (ar (ao t))/\Q (.own 1 (o.map sV) g f k) (.own 1 (l6.map sV) o9 n9 k₂)/\Q (iN (i+1)) (iN b7)/\True)) (((.sl false (V.E4 (o.map sV)):V)=ar o)/\Q (ar o) (ar (aN t)))) (sV ((ao t).getD i [])) ([sV ((ao t).getD i [])]:List V) (((ct ((ao t).getD i [])).toNat:Nat):Int))) ((ao t).map sV)) ?_
 refine aQ ⟨⟨(0,[],0,0,0),?_,ak⟩,?_⟩;simp;rintro⟨i,o,g,f,k⟩ ⟨h1,h2,h3⟩;have L':=ij (n:=300) (fun m hm=>(TX m hm).1) i;refine bI (fun j7=>?_) fun j7=>?_;refine⟨Zcg,aX ⟨fun hG=>ag (af (d:=[]) Zac),ag ⟨fun hG=>⟨Zcr,rfl⟩,ag (bI (fun l3=>?_) fun l3=>?_)⟩⟩⟩;refine⟨Zcg,ej ⟨Zal,fun QO QJ QR=>⟨Zbm (V.own 1 · QO QJ QR) Zad,ag ⟨(i+1,o++[((ao t).getD i [])],QO,QJ,QR),?_,?_,ak⟩⟩⟩⟩;refine⟨Zac,?_,Zal⟩;rw[aW (d:=[]) Zac,List.filter_append,<- h2,List.filter_cons_of_pos (LX l3)];rfl;exact Zak;refine ag ⟨(i+1,o,g,f,k),?_,?_,ak⟩;refine⟨Zac,?_,ak⟩;rw[aW (d:=[]) Zac,List.filter_append,<- h2,List.filter_cons_of_neg (by rw[Mm l3];decide)];simp;exact Zak;refine⟨Zcf,?_⟩;rw[h2,Zaz Zac];rfl)
abbrev Aa(a:w4):V:=.agg [sV a.j8,ar (a.c9.take (a.c9.length-1)),bV false,sV []]
def FR(a:w4):av:=.mk 204 [aC a] [] (cI a) (Aa a) [] (by
 intro ha;have Zg:=ha.2.2.1
 refine aq Tryz.func204
  (.bx (fun g1=>.al cO (fun g2=>.C6 12 [(1,n6 [1] [4]),(4,n6 [1] [7]),(6,n6 [1] [9]),(11,⟨true,[],none,[14],[]⟩)]<|.q 1<|.o6<|.bs<|.q 1<|.o6<|.q 1<|.o6<|.l8 2<|.mm<|.q 1<|.h (.m8 13 (ar (a.c9.take (a.c9.length-1))))<|.ux none (fun g14 Xq XZ=>.h (.m8 14 (.own 1 ((a.c9.take (a.c9.length-1)).map sV) g14 Xq XZ))<|.h (.fz 14)<|.h (.m8 14 (ar (a.c9.take (a.c9.length-1))))<|.bd cO<|.st none<|.nil))))
  ((fun (v2:Int) (v1:List V)=>(∀ g1:Nat,∀ g2:Nat,Z g1 0/\Z g1 1/\Z g1 1/\m5 (v2-1)/\(IntKind.i64=IntKind.i64)/\((0:Int)<=(0:Int)/\(0:Int)<=(max (v2-1) 0)/\(max (v2-1) 0)<=(a.c9.map sV).length/\∀ x∈(a.c9.map sV),x.n=1)/\Q (.sl false (((a.c9.map sV).take (Int.toNat (max (v2-1) 0))).drop ((0:Int).toNat))) (ar (a.c9.take (a.c9.length-1)))/\((True)/\(V.ax v1=false)/\(aS 1 v1)/\((([]:List V).length+v1.length)*16<=140737488355328))/\∀ g14 Xq XZ:Nat,((.own 1 (([]:List V)++v1) g14 Xq XZ:V)=.own 1 v1 g14 Xq XZ)/\((.sl false (V.E4 v1):V)=ar (a.c9.take (a.c9.length-1)))/\Z g2 0/\(g2=g2)/\Q (.agg [sV a.j8,ar (a.c9.take (a.c9.length-1)),bV false,sV []]) (Aa a))) (((a.c9.map sV).length:Nat):Int) ((a.c9.take (a.c9.length-1)).map sV)) ?_
 intro g1;intro g2;refine ej ⟨⟨Zch,Zch,Zch,all_map (fun _=>rfl)⟩,Zdy,⟨trivial,(bQ (f:=sV) (fun _=>rfl) _),(cQ (f:=sV) (fun _=>rfl) _),Zal⟩,?_⟩;intro g14 Xq XZ;refine⟨Zbm (V.own 1 · g14 Xq XZ) (List.nil_append _),Zcf,rfl,⟨rfl,?_⟩⟩;unfold Q Aa;rfl)
abbrev dT(a:w4)(ref:BL):V:=.tup [aC (oA (H4 a ref)),bV ((H4 a ref).isSome)]
def mf(a:w4)(ref:BL):av:=.mk 176 [aC a,sV ref] [] ((cI a)/\(ref.length<=1000000)) (dT a ref) [] (by
 rintro⟨ha,hr⟩;have PE:=kW 35 ref;have hp:=ha.2.2.1
 refine aq Tryz.func176
  (.bx (fun g2=>.al cO (fun g4=>.l8 2<|.c (iE ref (35:UInt8)) []<|.q 7<|.o6<|.c (jk a) []<|.q 7<|.br (.bd cO<|.st none<|.q 1<|.nil) (.q 9<|.br (.q 2<|.c (nM ((((ab (35:UInt8) ref).1).take ((ab (35:UInt8) ref).1).length).drop 2)) []<|.q 2<|.st none<|.q 1<|.nil) (.q 3<|.br (.bs<|.r 2 [.b9]<|.ap (fun N9 N7 PT=>.h (.m8 45 (.own 1 (a.c9.map sV) N9 N7 PT))<|.h (.fz 45)<|.h (.m8 45 (ar a.c9))<|.q 1<|.st none<|.o6<|.st none<|.q 1<|.nil)) (.q 4<|.br (.r 2 [.b9]<|.bd cO<|.q 1<|.c (iK (⟨a.j8,[],false,[]⟩:w4) ((ab (35:UInt8) ref).1)) []<|.q 2<|.st none<|.q 1<|.nil) (.q 4<|.br (.r 4 [.b9,.b9]<|.bd cO<|.q 1<|.c (iK (⟨a.j8,a.c9,false,[]⟩:w4) ((ab (35:UInt8) ref).1)) []<|.q 2<|.st none<|.q 1<|.nil) (.o6<|.c (FR a) []<|.q 1<|.c (iK (⟨a.j8,a.c9.take (a.c9.length-1),false,[]⟩:w4) ((ab (35:UInt8) ref).1)) []<|.q 2<|.st none<|.q 1<|.nil))))))))
  ((fun (v6:Int) (v5:List V) (v4:Bool) (v3 v2 v1:w4)=>(∀ g2:Nat,∀ g4:Nat,(iE ref (35:UInt8)).sm/\((ref.length<=4611686018427387904))/\Z g2 0/\(jk a).sm/\((dg a))/\Pk (!(aF a)) true ((!(aF a))==false)/\Br ((!(aF a))||(s7 (ref.length:Int) 60)) (Z g4 0/\(g4=g4)/\Q (.tup [fT (.sl false []),bV false]) (dT a ref)) (Gd (v4==true) (Sx (0:Int) (2:Int) ((ab (35:UInt8) ref).1))/\Pk v4 (v4==true) true/\Br (v4&&(((((ab (35:UInt8) ref).1).take 2).drop ((0:Int).toNat))==([47,47]:BL))) (Sx (2:Int) (((ab (35:UInt8) ref).1).length:Int) ((ab (35:UInt8) ref).1)/\(nM ((((ab (35:UInt8) ref).1).take ((ab (35:UInt8) ref).1).length).drop 2)).sm/\((((((ab (35:UInt8) ref).1).take ((ab (35:UInt8) ref).1).length).drop 2).length<=1000))/\Z g4 0/\(g4=g4)/\Q (.tup [aC (oA (dN ((((ab (35:UInt8) ref).1).take ((ab (35:UInt8) ref).1).length).drop 2))),bV ((dN ((((ab (35:UInt8) ref).1).take ((ab (35:UInt8) ref).1).length).drop 2)).isSome)]) (dT a ref)) (Br (((ab (35:UInt8) ref).1)==[]) (Z g2 1/\(True)/\(True)/\(V.ax v5=false)/\(aS 1 v5)/\((([]:List V).length+v5.length)*16<=140737488355328)/\∀ N9 N7 PT:Nat,((.own 1 (([]:List V)++v5) N9 N7 PT:V)=.own 1 v5 N9 N7 PT)/\((.sl false (V.E4 v5):V)=ar a.c9)/\Z g2 1/\Z g2 0/\Z g4 0/\(g4=g4)/\Q (.tup [aC a,bV true]) (dT a ref)) (Ix 0 ((ab (35:UInt8) ref).1)/\Br (o4 v6 47) (Z g2 0/\(iK v3 ((ab (35:UInt8) ref).1)).sm/\((dg v3)/\(((ab (35:UInt8) ref).1).length<=1000)/\(v3.c9.length<=1000))/\Z g4 0/\(g4=g4)/\Q (.tup [aC (oA (cq v3.j8 v3.c9 ((ab (35:UInt8) ref).1))),bV ((cq v3.j8 v3.c9 ((ab (35:UInt8) ref).1)).isSome)]) (dT a ref)) (Ix 0 ((ab (35:UInt8) ref).1)/\Br (o4 v6 63) (Z g2 0/\Z g2 1/\(iK v2 ((ab (35:UInt8) ref).1)).sm/\((dg v2)/\(((ab (35:UInt8) ref).1).length<=1000)/\(v2.c9.length<=1000))/\Z g4 0/\(g4=g4)/\Q (.tup [aC (oA (cq v2.j8 v2.c9 ((ab (35:UInt8) ref).1))),bV ((cq v2.j8 v2.c9 ((ab (35:UInt8) ref).1)).isSome)]) (dT a ref)) (Z g2 0/\(FR a).sm/\((cI a))/\(iK v1 ((ab (35:UInt8) ref).1)).sm/\((dg v1)/\(((ab (35:UInt8) ref).1).length<=1000)/\(v1.c9.length<=1000))/\Z g4 0/\(g4=g4)/\Q (.tup [aC (oA (cq v1.j8 v1.c9 ((ab (35:UInt8) ref).1))),bV ((cq v1.j8 v1.c9 ((ab (35:UInt8) ref).1)).isSome)]) (dT a ref)))))))) (((((ab (35:UInt8) ref).1).getD 0 0).toNat:Nat):Int) (a.c9.map sV) (A9 ((((ab (35:UInt8) ref).1).length:Nat):Int) 2) (⟨a.j8,[],false,[]⟩:w4) (⟨a.j8,a.c9,false,[]⟩:w4) (⟨a.j8,a.c9.take (a.c9.length-1),false,[]⟩:w4)) ?_
 intro g2;intro g4;refine cF ⟨ha.sz,ag (bI (fun j7=>?_) fun j7=>?_)⟩;refine⟨rfl,⟨rfl,?_⟩⟩;unfold Q dT;rw[show H4 a ref=none from if_pos (j7.imp id fun h=>by omega)];rfl;refine aQ (bI (fun l3=>?_) fun l3=>?_);refine⟨Zac,rfl,Zcp,rfl,⟨rfl,?_⟩⟩;unfold Q dT;rw[oF j7,if_pos (Ou l3)];simp;refine bI (fun m7=>?_) fun m7=>?_;refine aX ⟨Zcm,Zcn,Zal,fun N9 N7 PT=>⟨Zbm (V.own 1 · N9 N7 PT) (List.nil_append _),Zcf,aX ⟨rfl,?_⟩⟩⟩;unfold Q dT;rw[oF j7,if_neg (CU l3),if_pos Zdb];rfl;refine⟨Zdz,bI (fun x2=>?_) fun x2=>?_⟩;refine⟨rfl,rfl,⟨⟨by have:=ha.1;simp only;omega,Zad,Zad,Zad⟩,ag Zad⟩,rfl,⟨rfl,?_⟩⟩;unfold Q dT;rw[oF j7,if_neg (CU l3),if_neg Zdb,if_pos (yw (k:=47) x2)];refine⟨Zdz,bI (fun D8=>?_) fun D8=>?_⟩;refine⟨rfl,rfl,rfl,⟨⟨ha.sz.1,Zad,ha.sz.2.2.1,ha.sz.2.2.2⟩,ag (by show a.c9.length<=1000;omega)⟩,rfl,⟨rfl,?_⟩⟩;unfold Q dT;rw[oF j7,if_neg (CU l3),if_neg Zdb,if_neg (sC (k:=47) x2),if_pos (yw (k:=63) D8)];refine⟨rfl,rfl,ha,rfl,⟨⟨ha.sz.1,Zad,Zd0,BQ ha.sz.2.2.2⟩,ag Zd0⟩,rfl,⟨rfl,?_⟩⟩;unfold Q dT;rw[oF j7,if_neg (CU l3),if_neg Zdb,if_neg (sC (k:=47) x2),if_neg (sC (k:=63) D8)])
def sT(a:w4)(t:BL):av:=.mk 140 [aC a,sV t] [] ((cI a)/\(t.length<=4611686018427387904)) (ar (bz a t)) [] (by
 rintro⟨ha,ht⟩;obtain⟨UC,TX⟩:=pK t
 refine aq Tryz.func140
  (.bx (fun g2=>.q 1<|.bs<|.q 1<|.o6<|.c (jk a) []<|.q 1<|.br (.q 2<|.nil) (.q 1<|.c (uF t) []<|.q 5<|.q 1<|.join (w4) (fun b=>⟨[(0,aC a),(1,sV t),(2,kp 2 g2),(4,.sl true []),(14,.sl true []),(5,.sl true []),(15,aC a),(16,bV (aF a)),(17,bV (!(aF a))),(20,sV t),(21,.tup [sV ((bf t).getD []),bV ((bf t).isSome)]),(19,.tup [sV ((bf t).getD []),bV ((bf t).isSome)]),(22,sV ((bf t).getD [])),(23,bV ((bf t).isSome)),(6,sV ((bf t).getD [])),(7,bV ((bf t).isSome)),(24,bV ((bf t).isSome))],[(2,(g2,aC b))]⟩) (fun b=>b=(fq a t)) (.r 2 [.b9]<|.c (mf a ((bf t).getD [])) []<|.q 3<|.al cO (fun g8=>.st none<|.l8 2<|.br (.o6<|.st none<|.nil) (.nil))) (.nil) (fun b=>.q 1<|.c (tq t) []<|.l8 2<|.h (.I7 5 1)<|.loop (Nat×(List BL)) (fun (i,o)=>⟨[(2,kp 2 g2),(5,.ow 1 (o.map sV)),(10,ar (aN t)),(11,iN i)],[(2,(g2,aC b))]⟩) (fun (i,o)=>i<=(aN t).length/\o=((aN t).take i).foldl (dJ b) []/\o.length<=i) (fun (i,o)=>(aN t).length-i) (fun (i,o)=>.q 4<|.br (.dx 11 [0,1,2,3,4,5,6,7,8,9,10] [(0,n6 [2] [42]),(4,n6 [] [46]),(10,⟨true,[],none,[],[12]⟩)] [(9,cO)]<|.o6<|.l8 2<|.r 1 [sV ((aN t).getD i [])]<|.q 1<|.c (mf b ((aN t).getD i [])) []<|.l8 3<|.ua (fun g12=>.eu (Zw 12) (fun _=>.l8 2<|.br (.mv<|.o6<|.c (gy (oA (H4 b ((aN t).getD i [])))) []<|.c (BF o (bw (oA (H4 b ((aN t).getD i []))))) []<|.q 1<|.q 3<|.nil) (.q 3<|.nil)))) (.h (.fz 5)<|.h (.m8 5 (ar o))<|.q 2<|.nil))))))
  ((fun (v2 v1:V)=>(∀ g2:Nat,(fun v3:V=>Z g2 0/\(jk a).sm/\((dg a))/\Br (!(aF a)) (Q (.sl false []) (ar (bz a t))) ((uF t).sm/\((t.length<=4611686018427387904))/\(((bf t).isSome)=true->Z g2 0/\(mf a ((bf t).getD [])).sm/\((cI a)/\(((bf t).getD []).length<=1000000))/\∀ g8:Nat,Z g8 0/\Br ((H4 a ((bf t).getD [])).isSome) (Z g8 0/\Z g2 0/\∃ b:w4,(b=(fq a t))/\E (aC a)/\E (sV t)/\E v3/\E (.sl true [])/\E (.sl true [])/\E (.sl true [])/\E (aC a)/\E (bV (aF a))/\E (bV (!(aF a)))/\E (sV t)/\E v1/\E v1/\E v2/\E (bV ((bf t).isSome))/\E v2/\E (bV ((bf t).isSome))/\E (bV ((bf t).isSome))/\Qr g2 (aC (oA (H4 a ((bf t).getD [])))) g2 (aC b)/\True) (∃ b:w4,(b=(fq a t))/\E (aC a)/\E (sV t)/\E v3/\E (.sl true [])/\E (.sl true [])/\E (.sl true [])/\E (aC a)/\E (bV (aF a))/\E (bV (!(aF a)))/\E (sV t)/\E v1/\E v1/\E v2/\E (bV ((bf t).isSome))/\E v2/\E (bV ((bf t).isSome))/\E (bV ((bf t).isSome))/\Qr g2 (aC a) g2 (aC b)/\True))/\(((bf t).isSome)=false->∃ b:w4,(b=(fq a t))/\E (aC a)/\E (sV t)/\E v3/\E (.sl true [])/\E (.sl true [])/\E (.sl true [])/\E (aC a)/\E (bV (aF a))/\E (bV (!(aF a)))/\E (sV t)/\E v1/\E v1/\E v2/\E (bV ((bf t).isSome))/\E v2/\E (bV ((bf t).isSome))/\E (bV ((bf t).isSome))/\Qr g2 (aC a) g2 (aC b)/\True)/\(∀ b:w4,(b=(fq a t))->(tq t).sm/\((t.length<=4611686018427387904))/\(∃ x:Nat×(List BL),match x with | (j6,s4)=>(j6<=(aN t).length/\s4=((aN t).take j6).foldl (dJ b) []/\s4.length<=j6)/\E v3/\Q (.ow 1 ([].map sV)) (.ow 1 (s4.map sV))/\E (ar (aN t))/\Q (iN 0) (iN j6)/\Er g2 (aC b)/\True)/\∀ x:Nat×(List BL),match x with | (i,o)=>(i<=(aN t).length/\o=((aN t).take i).foldl (dJ b) []/\o.length<=i)->(fun v4:w4=>Br (r6 (i:Int) ((((aN t).map sV).length:Nat):Int)) (Z g2 0/\Ex (i:Int) ((aN t).map sV) (sV ((aN t).getD i []))/\True/\(mf b ((aN t).getD i [])).sm/\((cI b)/\(((aN t).getD i []).length<=1000000))/\∀ g12:Nat,((g12:Nat)=g12)/\∀ _:Unit,Br ((H4 b ((aN t).getD i [])).isSome) (Z g12 0/\(gy v4).sm/\((dg v4))/\(BF o (bw v4)).sm/\((o.length<=1000000))/\m5 ((i:Int)+1)/\∃ x:Nat×(List BL),match x with | (b7,l6)=>(b7<=(aN t).length/\l6=((aN t).take b7).foldl (dJ b) []/\l6.length<=b7)/\((aN t).length-b7<(aN t).length-i)/\E v3/\Q (.ow 1 ((kB o (bw v4)).map sV)) (.ow 1 (l6.map sV))/\E (ar (aN t))/\Q (iN (i+1)) (iN b7)/\Er g2 (aC b)/\True) (m5 ((i:Int)+1)/\∃ x:Nat×(List BL),match x with | (b7,l6)=>(b7<=(aN t).length/\l6=((aN t).take b7).foldl (dJ b) []/\l6.length<=b7)/\((aN t).length-b7<(aN t).length-i)/\E v3/\Q (.ow 1 (o.map sV)) (.ow 1 (l6.map sV))/\E (ar (aN t))/\Q (iN (i+1)) (iN b7)/\Er g2 (aC b)/\True)) (((.sl false (V.E4 (o.map sV)):V)=ar o)/\Q (ar o) (ar (bz a t)))) (oA (H4 b ((aN t).getD i [])))))) (kp 2 g2))) (sV ((bf t).getD [])) (.tup [sV ((bf t).getD []),bV ((bf t).isSome)])) ?_
 intro g2;refine⟨rfl,rfl,ha.sz,bI (fun j7=>?_) fun j7=>?_⟩;rw[show bz a t=[] from if_neg Zck];rfl;refine aQ ⟨fun l3=>?_,fun l3=>?_,fun b hb=>?_⟩;try simp only[nb]at l3
 refine⟨rfl,rfl,⟨ha,by have:=Af t;omega⟩,fun g8=>⟨rfl,bI (fun m7=>?_) fun m7=>?_⟩⟩;refine aQ ⟨(⟨(oA (H4 a ((bf t).getD []))).j8,(oA (H4 a ((bf t).getD []))).c9,(oA (H4 a ((bf t).getD []))).asks,(oA (H4 a ((bf t).getD []))).ask⟩:w4),Zd1,ag (fW (fW ⟨Zah,ak⟩))⟩;exact⟨(⟨a.j8,a.c9,a.asks,a.ask⟩:w4),Zd1,rfl,rfl,rfl,rfl,rfl,rfl,rfl,rfl,rfl,rfl,rfl,rfl,rfl,rfl,rfl,rfl,rfl,Zah,trivial⟩;try simp only[nb]at l3
 exact⟨(⟨a.j8,a.c9,a.asks,a.ask⟩:w4),Zd1,rfl,rfl,rfl,rfl,rfl,rfl,rfl,rfl,rfl,rfl,rfl,rfl,rfl,rfl,rfl,rfl,rfl,Zah,trivial⟩;refine aQ ⟨⟨(0,[]),?_,ak⟩,?_⟩;simp;rintro⟨i,o⟩ ⟨h1,h2,h3⟩;have L':=ij (n:=300) (fun m hm=>(TX m hm).1) i;have hbs:cI b:=nS (by rw[hb];exact zl Zda);refine bI (fun x2=>?_) fun x2=>?_;refine⟨rfl,Zcg,trivial,rfl,⟨hbs,ak⟩,fun g12=>⟨rfl,fun _=>bI (fun D8=>?_) fun D8=>?_⟩⟩;refine⟨rfl,rfl,(HM _ _).sz,aX ⟨(i+1,kB o (bw (oA (H4 b ((aN t).getD i []))))),?_,?_,ak⟩⟩;refine⟨Zac,?_,?_⟩;rw[foldl_succ (d:=[]) Zac,<- h2];exact(if_pos D8).symm;have:=Ce (l:=o) (s:=bw (oA (H4 b ((aN t).getD i []))));omega;exact Zak;refine ag ⟨(i+1,o),?_,?_,ak⟩;refine⟨Zac,?_,ak⟩;rw[foldl_succ (d:=[]) Zac,<- h2];exact(if_neg (by rw[D8];decide)).symm;exact Zak;refine⟨Zcf,?_⟩;rw[show bz a t=_ from if_pos Zda,<- hb,h2,Zaz Zac])
def xK(d:BL)(k:Int)(t:BL):av:=.mk 99 [sV d,iV k,sV t] [] ((d.length<=4611686018427387904)/\(t.length<=4611686018427387904)) (ar (bU d k t)) [] (by
 rintro⟨hd,ht⟩
 refine aq Tryz.func99
  (.l8 2<|.q 2<|.br (.q 1<|.c (fk d) []<|.q 3<|.al cO (fun g7=>.st none<|.q 1<|.r 2 [.b9]<|.c (sT (oA (aO d)) t) []<|.q 1<|.nil)) (.q 2<|.br (.q 1<|.bs<|.q 1<|.nil) (.bs<|.q 1<|.nil)))
  (Br (o4 k 1) ((fk d).sm/\((d.length<=4611686018427387904))/\∀ g7:Nat,Z g7 0/\Z g7 0/\(sT (oA (aO d)) t).sm/\((cI (oA (aO d)))/\(t.length<=4611686018427387904))/\Q (ar (bz (oA (aO d)) t)) (ar (bU d k t))) (Br (o4 k 2) (Q (.sl false [sV t]) (ar (bU d k t))) (Q (.sl false []) (ar (bU d k t))))) ?_
 refine bI (fun j7=>?_) fun j7=>?_;refine aQ fun g7=>⟨rfl,rfl,rfl,⟨by first | assumption | exact lT _ | exact HM _ _,ak⟩,?_⟩;rw[show bU d k t=bz (oA (aO d)) t from if_pos j7];refine bI (fun l3=>?_) fun l3=>?_;rw[show bU d k t=[t] from by rw[bU,if_neg j7,if_pos l3]];rfl;rw[show bU d k t=[] from by rw[bU,if_neg j7,if_neg l3]];rfl)
def Qy(r:Bool)(q:Nat):Int:=if 0<q then 1 else if r=true then 2 else 0
theorem HL(r:Bool)(q:Nat):Qy r q=0\/Qy r q=1\/Qy r q=2:=by
 unfold Qy;split;exact .inr (.inl rfl);split;exact .inr (.inr rfl);exact .inl rfl
theorem KT{r:Bool}{q:Nat}(h:Qy r q=1):0<q/\True:=by
 unfold Qy at h;split at h;rename_i hc;exact⟨hc,trivial⟩;split at h <;> omega
theorem OM{r:Bool}{q:Nat}(h:Qy r q=2):q=0/\r=true:=by
 unfold Qy at h;split at h;omega;rename_i h1;split at h;rename_i h2;exact⟨Zac,h2⟩;omega
theorem OD{r:Bool}{q:Nat}(h:Qy r q=0):q=0/\r=false:=by
 unfold Qy at h;split at h;omega;rename_i h1;split at h;omega;rename_i h2;exact⟨Zac,Zb6⟩
theorem KZ{t:BL}{o:List BL}{r:Bool}{q i b:Nat}(hq:0<q)(hb:b+1=q):dC t (o,r,q) i=(if t.getD i 0=62 then o++[(t.take i).drop b] else o,r,if t.getD i 0=62 then 0 else q):=by
 by_cases h:t.getD i 0=62;rw[KJ hq h,if_pos h,if_pos h,show q-1=b from Zac];rw[Lz hq h,if_neg h,if_neg h]
theorem MB{t:BL}{o:List BL}{i:Nat}:dC t (o,false,0) i=(o,t.getD i 0==40,if t.getD i 0=60 then i+2 else 0):=by
 by_cases h:t.getD i 0=40;rw[LV rfl h,if_neg (by rw[h];decide),h];rfl;by_cases h2:t.getD i 0=60;rw[KD rfl h h2,if_pos h2,h2];rfl;rw[KK rfl h h2,if_neg h2,show (t.getD i 0==40)=false from by simpa using h]
theorem Gf{c:UInt8}{r:Bool}{q:Nat}(hr:r=false)(hq:0<q):(if c=62 then (0:Int) else 1)=Qy r (if c=62 then 0 else q):=by
 subst hr;unfold Qy;by_cases h:c=62;simp[h];simp[h,hq]
theorem Gi{c:UInt8}:(if c=41 then (0:Int) else 2)=Qy (!(c==41)) 0:=by
 unfold Qy;by_cases h:c=41;simp[h];simp[h]
theorem GL{c:UInt8}{i:Nat}:(if c=60 then (1:Int) else if c=40 then 2 else 0)=Qy (c==40) (if c=60 then i+2 else 0):=by
 unfold Qy;by_cases h:c=60;simp[h];by_cases h2:c=40;simp[h2];simp[h,h2]
def Cl(i:Nat)(c:UInt8)(u v:Nat)(s:Int)(b:Nat):av:=.mk 123 [iN i,uN c.toNat,kp 1000 u,kp 1001 v] [(1000,(u,iV s)),(1001,(v,iN b))] (i<=1000) (.tup []) [(1000,(u,iV (if c=60 then 1 else if c=40 then 2 else s))),(1001,(v,iN (if c=60 then i+1 else b)))] (by
 intro hi
 refine aq Tryz.func123
  (.q 1<|.q 2<|.br (.q 2<|.st none<|.st none<|.nil) (.q 2<|.br (.st none<|.nil) (.nil)))
  (Br (o4 (c.toNat:Int) 60) (m5 ((i:Int)+1)/\Z u 0/\Z v 0/\Q (.tup []) (.tup [])/\Qr u (iN 1) u (iV (if c=60 then 1 else if c=40 then 2 else s))/\Qr v (iN (i+1)) v (iN (if c=60 then i+1 else b))) (Br (o4 (c.toNat:Int) 40) (Z u 0/\Q (.tup []) (.tup [])/\Qr u (iN 2) u (iV (if c=60 then 1 else if c=40 then 2 else s))/\Qr v (iN b) v (iN (if c=60 then i+1 else b))) (Q (.tup []) (.tup [])/\Qr u (iV s) u (iV (if c=60 then 1 else if c=40 then 2 else s))/\Qr v (iN b) v (iN (if c=60 then i+1 else b))))) ?_
 refine bI (fun j7=>?_) fun j7=>?_;refine aX ⟨?_,by rw[if_pos (c8 (k:=60) j7)] <;> rfl,by rw[if_pos (c8 (k:=60) j7)] <;> rfl⟩;rfl;refine bI (fun l3=>?_) fun l3=>?_;refine⟨rfl,⟨?_,by rw[if_neg (Tg (k:=60) j7),if_pos (c8 (k:=40) l3)] <;> rfl,by rw[if_neg (Tg (k:=60) j7)] <;> rfl⟩⟩;rfl;refine⟨?_,by rw[if_neg (Tg (k:=60) j7),if_neg (Tg (k:=40) l3)] <;> rfl,by rw[if_neg (Tg (k:=60) j7)] <;> rfl⟩;rfl)
def DP(i:Nat)(c:UInt8)(u v p q:Nat)(o:List BL)(t:BL)(b:Nat)(s:Int):av:=.mk 124 [iN i,uN c.toNat,kp 1000 u,kp 1001 v,kp 1002 p,kp 1003 q] [(1000,(u,.ow 1 (o.map sV))),(1001,(v,sV t)),(1002,(p,iN b)),(1003,(q,iV s))] ((b<=i)/\(i<=t.length)/\(o.length<=1000)) (.tup []) [(1000,(u,.ow 1 ((if c=62 then o++[(t.take i).drop b] else o).map sV))),(1001,(v,sV t)),(1002,(p,iN b)),(1003,(q,iV (if c=62 then 0 else s)))] (by
 rintro⟨hb,hi,ho⟩
 refine aq Tryz.func124
  (.q 2<|.br (.oR (.key 1000) [] (fun gA oA cA=>.C6 7 [(0,n6 [1000] [10]),(1,n6 [1001] [11]),(2,n6 [1002] [12]),(6,⟨true,[],none,[16],[1000]⟩)]<|.o6<|.o6<|.o6<|.l8 2<|.bs<|.ux none (fun g16 Xp XY=>.h (.m8 16 (.own 1 ((o++[(t.take i).drop b]).map sV) g16 Xp XY))<|.st none<|.st none<|.nil))) (.nil))
  ((fun (v2:V) (v1:List V)=>(Br (o4 (c.toNat:Int) 62) (∀ gA oA cA:Nat,Z u 0/\Z v 0/\Z p 0/\Sx (b:Int) (i:Int) t/\(((1,1,gA,oA,cA,(o.map sV).length)=(1,1,gA,oA,cA,(o.map sV).length))/\(V.ax v1=false)/\(aS 1 v1)/\(((o.map sV).length+v1.length)*16<=140737488355328))/\∀ g16 Xp XY:Nat,((.own 1 ((o.map sV)++v1) g16 Xp XY:V)=.own 1 ((o++[(t.take i).drop b]).map sV) g16 Xp XY)/\Z u 0/\Z q 0/\Q (.tup []) (.tup [])/\Qr u (.ow 1 ((o++[(t.take i).drop b]).map sV)) u v2/\Er v (sV t)/\Er p (iN b)/\Qr q (iN 0) q (iV (if c=62 then 0 else s))) (Q (.tup []) (.tup [])/\Qr u (.ow 1 (o.map sV)) u v2/\Er v (sV t)/\Er p (iN b)/\Qr q (iV s) q (iV (if c=62 then 0 else s))))) (.ow 1 ((if c=62 then o++[(t.take i).drop b] else o).map sV)) ([sV ((t.take i).drop b)]:List V)) ?_
 refine bI (fun j7=>?_) fun j7=>?_;intro gA oA cA;refine cF ⟨aX Zal,fun g16 Xp XY=>⟨Zbm (V.own 1 · g16 Xp XY) Zad,aQ ⟨?_,by rw[if_pos (c8 (k:=62) j7)] <;> rfl,aQ (by rw[if_pos (c8 (k:=62) j7)] <;> rfl)⟩⟩⟩;rfl;refine⟨?_,by rw[if_neg (Tg (k:=62) j7)] <;> rfl,aQ (by rw[if_neg (Tg (k:=62) j7)] <;> rfl)⟩;rfl)
def FW(i:Nat)(c:UInt8)(u:Nat)(s:Int):av:=.mk 125 [iN i,uN c.toNat,kp 1000 u] [(1000,(u,iV s))] True (.tup []) [(1000,(u,iV (if c=41 then 0 else s)))] (by
 intro _
 refine aq Tryz.func125
  (.q 2<|.br (.st none<|.nil) (.nil))
  (Br (o4 (c.toNat:Int) 41) (Z u 0/\Q (.tup []) (.tup [])/\Qr u (iN 0) u (iV (if c=41 then 0 else s))) (Q (.tup []) (.tup [])/\Qr u (iV s) u (iV (if c=41 then 0 else s)))) ?_
 refine bI (fun j7=>?_) fun j7=>?_;refine⟨rfl,⟨?_,by rw[if_pos (c8 (k:=41) j7)] <;> rfl⟩⟩;rfl;refine⟨?_,by rw[if_neg (Tg (k:=41) j7)] <;> rfl⟩;rfl)
def kC(t:BL):av:=.mk 82 [sV t] [] (t.length<=4611686018427387904) (ar (ao t)) [] (by
 intro ht
 refine aq Tryz.func82
  (.bx (fun g1=>.q 1<|.r 3 [.b9]<|.br (.q 1<|.nil) (.al OL (fun g3=>.al zt3 (fun g4=>.al zt3 (fun g5=>.st none<|.st none<|.al MT (fun g6=>.cu UQ (fun _=>.q 1<|.st none<|.cu UQ (fun _=>.q 1<|.st none<|.cu UQ (fun _=>.q 1<|.st none<|.q 1<|.h (.B8 (.key 3) [] 1)<|.loop (Nat×(List BL)×Bool×Nat×Int×Nat) (fun (i,o,r,q,s,b)=>⟨[(1,kp 1 g1),(3,kp 3 g3),(4,kp 4 g4),(5,kp 5 g5),(6,kp 6 g6),(7,iN i)],[(1,(g1,sV t)),(3,(g3,.ow 1 (o.map sV))),(4,(g4,iV s)),(5,(g5,iN b)),(6,(g6,.agg [.lit (.func (.func 123) #[] #[.pointer (some ⟨g4,0,none⟩),.pointer (some ⟨g5,0,none⟩)]),.lit (.func (.func 124) #[] #[.pointer (some ⟨g3,0,none⟩),.pointer (some ⟨g1,0,none⟩),.pointer (some ⟨g5,0,none⟩),.pointer (some ⟨g4,0,none⟩)]),.lit (.func (.func 125) #[] #[.pointer (some ⟨g4,0,none⟩)])]))]⟩) (fun (i,o,r,q,s,b)=>i<=t.length/\bP t i=(o,r,q)/\s=Qy r q/\(0<q->b+1=q)) (fun (i,o,r,q,s,b)=>t.length-i) (fun (i,o,r,q,s,b)=>.r 2 [.b9]<|.sp (o4 s 1) (.h (.s8 4 (iV 1))<|.l8 2<|.br (.C6 7 [(0,n6 [4] [23]),(2,n6 [6] [25]),(4,n6 [1] [27])]<|.o6<|.q 1<|.o6<|.q 1<|.o6<|.l8 2<|.c (DP i (t.getD i 0) g3 g1 g5 g4 o t b (1:Int)) [(1000,3),(1001,1),(1002,5),(1003,4)]<|.q 3<|.nil) (.oR (.key 3) [] (fun gE oE cE=>.mv<|.h (.fz 31)<|.h (.m8 31 (ar o))<|.q 1<|.nil))) (.q 1<|.sp (o4 s 2) (.h (.s8 4 (iV 2))<|.q 1<|.br (.C6 7 [(0,n6 [4] [23]),(2,n6 [6] [25]),(4,n6 [1] [27])]<|.o6<|.q 1<|.o6<|.q 1<|.o6<|.l8 2<|.c (FW i (t.getD i 0) g4 (2:Int)) [(1000,4)]<|.q 3<|.nil) (.oR (.key 3) [] (fun gE oE cE=>.mv<|.h (.fz 31)<|.h (.m8 31 (ar o))<|.q 1<|.nil))) (.h (.s8 4 (iV 0))<|.q 1<|.br (.C6 7 [(0,n6 [4] [23]),(2,n6 [6] [25]),(4,n6 [1] [27])]<|.o6<|.q 1<|.o6<|.q 1<|.o6<|.l8 2<|.c (Cl i (t.getD i 0) g4 g5 (0:Int) b) [(1000,4),(1001,5)]<|.q 3<|.nil) (.oR (.key 3) [] (fun gE oE cE=>.mv<|.h (.fz 31)<|.h (.m8 31 (ar o))<|.q 1<|.nil)))))))))))))))
  (∀ g1:Nat,(fun v1:V=>Z g1 0/\Br (s7 (t.length:Int) 300) (Q (.sl false []) (ar (ao t))) (∀ g3:Nat,(fun v2:V=> ∀ g4:Nat,(fun v3:V=> ∀ g5:Nat,(fun (v5 v4:V)=>Z g4 0/\Z g5 0/\∀ g6:Nat,(fun v6:V=>((Value.func (.func 123) #[] #[.pointer (some ⟨g4,0,none⟩),.pointer (some ⟨g5,0,none⟩)]).oneCell'=true)/\∀ _:Unit,((0:Int)<=0/\(0:Int)<3)/\Z g6 0/\((Value.func (.func 124) #[] #[.pointer (some ⟨g3,0,none⟩),.pointer (some ⟨g1,0,none⟩),.pointer (some ⟨g5,0,none⟩),.pointer (some ⟨g4,0,none⟩)]).oneCell'=true)/\∀ _:Unit,((0:Int)<=1/\(1:Int)<3)/\Z g6 1/\((Value.func (.func 125) #[] #[.pointer (some ⟨g4,0,none⟩)]).oneCell'=true)/\∀ _:Unit,((0:Int)<=2/\(2:Int)<3)/\Z g6 2/\(∃ x:Nat×(List BL)×Bool×Nat×Int×Nat,match x with | (j6,s4,Py,w8,Tm,H6)=>(j6<=t.length/\bP t j6=(s4,Py,w8)/\Tm=Qy Py w8/\(0<w8->H6+1=w8))/\E v1/\E v2/\E v3/\E v5/\E v6/\Q (iN 0) (iN j6)/\Er g1 (sV t)/\Qr g3 (.ow 1 ([].map sV)) g3 (.ow 1 (s4.map sV))/\Qr g4 (iN 0) g4 (iV Tm)/\Qr g5 (iN 0) g5 (iN H6)/\Er g6 v4/\True)/\∀ x:Nat×(List BL)×Bool×Nat×Int×Nat,match x with | (i,o,r,q,s,b)=>(i<=t.length/\bP t i=(o,r,q)/\s=Qy r q/\(0<q->b+1=q))->(fun (v8:Bool) (v7:V)=>Z g1 0/\((o4 s 1)=true->((iV s:V)=iV 1)/\Br v8 (Z g4 0/\((0:Int)<=1/\(1:Int)<3)/\Z g6 1/\Z g1 0/\Ix (i:Int) t/\(DP i (t.getD i 0) g3 g1 g5 g4 o t b (1:Int)).sm/\Er g3 (.ow 1 (o.map sV))/\Er g1 (sV t)/\Er g5 (iN b)/\Er g4 (iV (1:Int))/\((b<=i)/\(i<=t.length)/\(o.length<=1000))/\m5 ((i:Int)+1)/\∃ x:Nat×(List BL)×Bool×Nat×Int×Nat,match x with | (b7,l6,D3,m9,Px,x5)=>(b7<=t.length/\bP t b7=(l6,D3,m9)/\Px=Qy D3 m9/\(0<m9->x5+1=m9))/\(t.length-b7<t.length-i)/\E v1/\E v2/\E v3/\E v5/\E v6/\Q (iN (i+1)) (iN b7)/\Er g1 (sV t)/\Qr g3 (.ow 1 ((if (t.getD i 0)=62 then o++[(t.take i).drop b] else o).map sV)) g3 (.ow 1 (l6.map sV))/\Qr g4 (iV (if (t.getD i 0)=62 then 0 else (1:Int))) g4 (iV Px)/\Qr g5 (iN b) g5 (iN x5)/\Er g6 v4/\True) (∀ gE oE cE:Nat,Z g3 0/\(v7=ar o)/\Q (ar o) (ar (ao t))))/\((o4 s 1)=false->((o4 s 2)=true->((iV s:V)=iV 2)/\Br v8 (Z g4 0/\((0:Int)<=2/\(2:Int)<3)/\Z g6 2/\Z g1 0/\Ix (i:Int) t/\(FW i (t.getD i 0) g4 (2:Int)).sm/\Er g4 (iV (2:Int))/\(True)/\m5 ((i:Int)+1)/\∃ x:Nat×(List BL)×Bool×Nat×Int×Nat,match x with | (b7,l6,D3,m9,Px,x5)=>(b7<=t.length/\bP t b7=(l6,D3,m9)/\Px=Qy D3 m9/\(0<m9->x5+1=m9))/\(t.length-b7<t.length-i)/\E v1/\E v2/\E v3/\E v5/\E v6/\Q (iN (i+1)) (iN b7)/\Er g1 (sV t)/\Qr g3 (.ow 1 (o.map sV)) g3 (.ow 1 (l6.map sV))/\Qr g4 (iV (if (t.getD i 0)=41 then 0 else (2:Int))) g4 (iV Px)/\Qr g5 (iN b) g5 (iN x5)/\Er g6 v4/\True) (∀ gE oE cE:Nat,Z g3 0/\(v7=ar o)/\Q (ar o) (ar (ao t))))/\((o4 s 2)=false->((iV s:V)=iV 0)/\Br v8 (Z g4 0/\((0:Int)<=0/\(0:Int)<3)/\Z g6 0/\Z g1 0/\Ix (i:Int) t/\(Cl i (t.getD i 0) g4 g5 (0:Int) b).sm/\Er g4 (iV (0:Int))/\Er g5 (iN b)/\((i<=1000))/\m5 ((i:Int)+1)/\∃ x:Nat×(List BL)×Bool×Nat×Int×Nat,match x with | (b7,l6,D3,m9,Px,x5)=>(b7<=t.length/\bP t b7=(l6,D3,m9)/\Px=Qy D3 m9/\(0<m9->x5+1=m9))/\(t.length-b7<t.length-i)/\E v1/\E v2/\E v3/\E v5/\E v6/\Q (iN (i+1)) (iN b7)/\Er g1 (sV t)/\Qr g3 (.ow 1 (o.map sV)) g3 (.ow 1 (l6.map sV))/\Qr g4 (iV (if (t.getD i 0)=60 then 1 else if (t.getD i 0)=40 then 2 else (0:Int))) g4 (iV Px)/\Qr g5 (iN (if (t.getD i 0)=60 then i+1 else b)) g5 (iN x5)/\Er g6 v4/\True) (∀ gE oE cE:Nat,Z g3 0/\(v7=ar o)/\Q (ar o) (ar (ao t)))))) (r6 (i:Int) (t.length:Int)) (.sl false (V.E4 (o.map sV)):V)) (kp 6 g6)) (kp 5 g5) (.agg [.lit (.func (.func 123) #[] #[.pointer (some ⟨g4,0,none⟩),.pointer (some ⟨g5,0,none⟩)]),.lit (.func (.func 124) #[] #[.pointer (some ⟨g3,0,none⟩),.pointer (some ⟨g1,0,none⟩),.pointer (some ⟨g5,0,none⟩),.pointer (some ⟨g4,0,none⟩)]),.lit (.func (.func 125) #[] #[.pointer (some ⟨g4,0,none⟩)])])) (kp 4 g4)) (kp 3 g3))) (kp 1 g1)) ?_
 intro g1;refine⟨rfl,bI (fun j7=>?_) fun j7=>?_⟩;rw[show ao t=[] from if_neg Zac];rfl;intro g3;intro g4;intro g5;refine aQ fun g6=>⟨rfl,fun _=>aX fun _=>aX fun _=>aQ ⟨⟨(0,[],false,0,0,0),?_,fW ⟨Zah,ak⟩⟩,?_⟩⟩;exact⟨Zac,rfl,rfl,fun h=>absurd h Zaf⟩;rintro⟨i,o,r,q,s,b⟩ ⟨h1,h2,h3,h4⟩;have U0:=rS t i;rw[h2]at U0;have UC:=U0.len;have Y5:=U0.pos;have Y4:=U0.one;simp only at UC Y5 Y4;have B4:=HL r q;refine⟨rfl,⟨fun Sk=>?_,fun Sk=>?_⟩⟩;have Sp:=Sk;try simp only[nb]at Sp
 refine⟨Zbm iV Zac,bI (fun l3=>?_) fun l3=>?_⟩;refine aQ (fW ⟨⟨by have ZI:=KT (h3.symm.trans Zac);have Sb:=h4 ZI.1;omega,ak⟩,ag ⟨(i+1,if (t.getD i 0)=62 then o++[(t.take i).drop b] else o,r,if (t.getD i 0)=62 then 0 else q,if (t.getD i 0)=62 then 0 else (1:Int),b),?_,?_,ak⟩⟩);obtain⟨WK,UX⟩:=KT (h3.symm.trans Zac);exact⟨Zac,by rw[show bP t (i+1)=dC t (bP t i) i from rfl,h2,KZ WK (h4 WK)],(Gf (Y4 WK) WK),fun hq=>by split at hq;omega;rw[if_neg (by assumption)];exact h4 WK⟩;exact Zak;intro gE oE cE;refine⟨rfl,Zcf,?_⟩;rw[show ao t=o from by rw[show ao t=(bP t t.length).1 from if_pos Zac,show t.length=i from Zac,h2]];have Sp:=Sk;try simp only[nb]at Sp
 refine⟨fun Sj=>?_,fun Sj=>?_⟩;have So:=Sj;try simp only[nb]at So
 refine⟨Zbm iV Zac,bI (fun m7=>?_) fun m7=>?_⟩;refine ag (fW ⟨(i+1,o,!((t.getD i 0)==41),0,if (t.getD i 0)=41 then 0 else (2:Int),b),?_,?_,ak⟩);obtain⟨rfl,rfl⟩:=OM (h3.symm.trans Zac);exact⟨Zac,by rw[show bP t (i+1)=dC t (bP t i) i from rfl,h2,La rfl],Gi,fun hq=>absurd hq Zac⟩;exact Zak;intro gE oE cE;refine⟨rfl,Zcf,?_⟩;rw[show ao t=o from by rw[show ao t=(bP t t.length).1 from if_pos Zac,show t.length=i from Zac,h2]];have So:=Sj;try simp only[nb]at So
 refine⟨Zbm iV Zac,bI (fun x2=>?_) fun x2=>?_⟩;refine aQ (fW ⟨(i+1,o,(t.getD i 0)==40,if (t.getD i 0)=60 then i+2 else 0,if (t.getD i 0)=60 then 1 else if (t.getD i 0)=40 then 2 else (0:Int),if (t.getD i 0)=60 then i+1 else b),?_,?_,ak⟩);obtain⟨rfl,rfl⟩:=OD (h3.symm.trans Zac);exact⟨Zac,by rw[show bP t (i+1)=dC t (bP t i) i from rfl,h2,MB],GL,fun hq=>by split at hq;rw[if_pos (by assumption),if_pos (by assumption)];omega⟩;exact Zak;intro gE oE cE;refine⟨rfl,Zcf,?_⟩;rw[show ao t=o from by rw[show ao t=(bP t t.length).1 from if_pos Zac,show t.length=i from Zac,h2]])
def Wt(c:UInt8):Bool:=ew c||(c==37||kK.contains c)
theorem nz(b:UInt8):(eQ b).all Wt=true:=by
 unfold eQ;split;rename_i h;simp[Wt,h];unfold fi;have h1:b.toNat / 16<16:=by have:=b.toNat_lt;omega
 have h2:b.toNat % 16<16:=Zac;have hf:∀ k,k<16->Wt (kK.getD k 0)=true:=Zaf;simp only[List.all_cons,List.all_nil,Bool.and_true,Zao];exact⟨Zaf,hf _ h1,hf _ h2⟩
theorem tL:∀ (s:BL) {x:BL},cN s=some x->x.all Wt=true
 | [],x,h=>by simp[cN]at h;subst h;rfl
 | [c],x,h=>by
   simp only[cN]at h;split at h;simp at h;simp only[Zan]at h;subst h;exact nz c
 | [c,d],x,h=>by
   simp only[cN]at h;split at h;simp at h;simp only[Zan]at h;subst h;rw[List.all_append,nz,nz];rfl
 | c::a::b::r,x,h=>by
   simp only[cN]at h;split at h;split at h;simp only[Option.map_eq_some_iff]at h;obtain⟨y,hy,rfl⟩:=h;rw[List.all_append,nz,tL r hy];rfl;simp at h;simp only[Option.map_eq_some_iff]at h;obtain⟨y,hy,rfl⟩:=h;rw[List.all_append,nz,tL (a::b::r) hy];rfl
theorem nA{s:BL}(h:fh s=true):s.all Wt=true/\eR s=s/\fy s=true:=by
 unfold fh at h;simp only[Zao,Zbl]at h;refine⟨?_,h.2,h.1⟩;have h1:=h.1;have h2:=h.2;unfold bZ at h1 h2;split at h1;rename_i hl;rw[if_pos hl]at h2;cases e:cN s with
 | none=>rw[e]at h1;cases h1
 | some x=>rw[e]at h2;rw[<- h2];exact tL s e
 cases h1
theorem Lh:∀ c:UInt8,Wt c=true->c.toNat<128/\c≠47/\c≠63/\c≠35:=by
 intro c h;unfold Wt ew at h;simp only[Bool.or_eq_true,Zbk,Zbl]at h;have e:∀ k:UInt8,c=k↔c.toNat=k.toNat:=fun k=>UInt8.toNat_inj.symm;have hf:kK.contains c=true->(48<=c.toNat/\c.toNat<=57)\/(65<=c.toNat/\c.toNat<=70):=by
  intro hc;simp only[kK,List.contains_cons,List.contains_nil,Bool.or_eq_true,Zbl,e,Bool.or_false]at hc;simp only[show (48:UInt8).toNat=48 from rfl,show (49:UInt8).toNat=49 from rfl,show (50:UInt8).toNat=50 from rfl,show (51:UInt8).toNat=51 from rfl,show (52:UInt8).toNat=52 from rfl,show (53:UInt8).toNat=53 from rfl,show (54:UInt8).toNat=54 from rfl,show (55:UInt8).toNat=55 from rfl,show (56:UInt8).toNat=56 from rfl,show (57:UInt8).toNat=57 from rfl,show (65:UInt8).toNat=65 from rfl,show (66:UInt8).toNat=66 from rfl,show (67:UInt8).toNat=67 from rfl,show (68:UInt8).toNat=68 from rfl,show (69:UInt8).toNat=69 from rfl,show (70:UInt8).toNat=70 from rfl]at hc;omega
 have h37:c=37->c.toNat=37:=fun h=>by rw[h];rfl
 have hb:(97<=c.toNat/\c.toNat<=122)\/(48<=c.toNat/\c.toNat<=57)\/c.toNat=46\/c.toNat=45\/c.toNat=37\/(65<=c.toNat/\c.toNat<=70):=by
  rcases h with h | h | h;omega;have:=h37 h;omega;have:=hf h;omega
 refine⟨Zac,?_,?_,?_⟩ <;> (intro hc;have:=(e _).1 hc;simp only[show (47:UInt8).toNat=47 from rfl,show (63:UInt8).toNat=63 from rfl,show (35:UInt8).toNat=35 from rfl]at this;omega)
theorem tZ{c:UInt8}:∀ {s:BL},(∀ x,x∈s->x≠c)->ab c s=(s,[],false)
 | [],_=>rfl
 | x::r,h=>by
   simp only[ab,if_neg (h x Zad),tZ (s:=r) (fun y hy=>h y (by simp[hy]))]
theorem yQ{c:UInt8}{r:BL}:∀ {s:BL},(∀ x,x∈s->x≠c)->ab c (s++c::r)=(s,r,true)
 | [],_=>by simp[ab]
 | x::s,h=>by
   rw[List.cons_append];simp only[ab,if_neg (h x Zad),yQ (s:=s) (r:=r) (fun y hy=>h y (by simp[hy]))]
theorem vT{c:UInt8}:∀ {s:BL},(∀ x,x∈s->x≠c)->ae c s=[s]
 | [],_=>rfl
 | x::r,h=>by
   simp only[ae,if_neg (h x Zad),vT (s:=r) (fun y hy=>h y (by simp[hy]))];rfl
theorem pv{c:UInt8}{r:BL}:∀ {s:BL},(∀ x,x∈s->x≠c)->ae c (s++c::r)=s::ae c r
 | [],_=>by simp[ae]
 | x::s,h=>by
   rw[List.cons_append];simp only[ae,if_neg (h x Zad),pv (s:=s) (r:=r) (fun y hy=>h y (by simp[hy]))];rfl
theorem uU:∀ {ps:List BL},ps≠[]->(∀ p,p∈ps->∀ x,x∈p->x≠47)->ae 47 (cJ ps)=ps
 | [],h,_=>absurd rfl h
 | [p],_,h=>vT (h p Zad)
 | p::q::r,_,h=>by
   show ae 47 (p++[47]++cJ (q::r))=_;rw[List.append_assoc];show ae 47 (p++47::cJ (q::r))=_;rw[pv (h p Zad),uU Zad fun y hy=>h y (by simp[hy])]
theorem tt:∀ (ps:List BL) {o:List BL},(∀ p,p∈ps->fE p=true)->ps.foldl de o=o++ps
 | [],o,_=>by simp
 | p::ps,o,h=>by
   have hp:=h p Zad;unfold fE at hp;simp only[Zao,Bool.not_eq_true',beq_eq_false_iff_ne]at hp;have e:de o p=o++[p]:=by
    unfold de;rw[if_neg (by rintro (c | c);exact hp.1.1.2 c;exact hp.1.2 c),if_neg hp.2]
   rw[List.foldl_cons,e,tt ps fun q hq=>h q (by simp[hq])];simp
theorem iq{a:w4}(h:aF a=true):cZ a.j8=true/\a.c9.length<=5/\fh a.ask=true/\(a.asks=true\/a.ask=[])/\(∀ p,p∈a.c9->fE p=true)/\(da a).length<=60:=by
 unfold aF at h;simp only[Zao,Zbk,Bool.or_eq_true,Zbl,Za2]at h;exact⟨h.1.1.1.1.1,h.1.1.1.1.2,h.1.1.1.2,h.1.1.2,h.1.2,h.2⟩
theorem kf{p:BL}(h:fE p=true):fh p=true:=by
 unfold fE at h;simp only[Zao]at h;exact h.1.1.1
theorem yh{s:BL}(h:cZ s=true):∀ c,c∈s->97<=c.toNat/\c.toNat<=122:=by
 unfold cZ fS at h;simp only[Zao]at h;intro c hc;have:=Za2.1 h.1 c hc;unfold kE at this;simpa using this
theorem sJ{p:BL}(h:fh p=true):∀ c,c∈p->c.toNat<128/\c≠47/\c≠63/\c≠35:=fun c hc=>Lh c (Za2.1 (nA h).1 c hc)
theorem AX{ps:List BL}{k:UInt8}(hk:k≠47):(∀ p,p∈ps->∀ x,x∈p->x≠k)->∀ x,x∈cJ ps->x≠k:=by
 induction ps with
 | nil=>intro _ x hx;simp[cJ]at hx
 | cons p ps ih=>
   intro h x hx;cases ps with
   | nil=>exact h p Zad x hx
   | cons q r=>
     simp only[cJ,Zax]at hx;rcases hx with (hx | hx) | hx;exact h p Zad x hx;rw[Zav.1 hx];exact fun c=>hk c.symm;exact ih (fun y hy=>h y (by simp[hy])) x hx
theorem Hw{a:w4}(h:aF a=true):cq a.j8 [] (bJ a)=some a:=by
 obtain⟨h1,h2,h3,h4,h5,h6⟩:=iq h;have hj:∀ x,x∈([47]++cJ a.c9:BL)->x≠63:=by
  intro x hx;rcases Zax.1 hx with hx | hx;rw[Zav.1 hx];decide;exact AX Zaf (fun p hp x hx=>(sJ (kf (h5 p hp)) x hx).2.2.1) x hx
 have PE:ab 63 (bJ a)=([47]++cJ a.c9,a.ask,a.asks):=by
  unfold bJ;cases e:a.asks with
  | true=>
    rw[if_pos rfl];exact yQ hj
  | false=>
    rw[if_neg Zaf,List.append_nil,tZ hj];rcases h4 with c | c;rw[e]at c;cases c;rw[c]
 have hs:ae 47 ([47]++cJ a.c9)=[]::(if a.c9=[] then [[]] else a.c9):=by
  show ae 47 ([]++47::cJ a.c9)=_;rw[pv Zad];split;rename_i e;rw[e];rfl;rename_i e;rw[uU e fun p hp x hx=>(sJ (kf (h5 p hp)) x hx).2.1]
 have Yx:∀ p,p∈ae 47 ([47]++cJ a.c9)->p=[]\/p∈a.c9:=by
  intro p hp;rw[hs]at hp;rcases List.mem_cons.1 hp with hp | hp;exact .inl hp;split at hp;exact .inl (Zav.1 hp);exact .inr hp
 have Yt:eR []=[]/\fy []=true:=Zaf;have L0:(ae 47 (ab 63 (bJ a)).1).all fy=true:=by
  rw[PE];rw[Za2];intro p hp;rcases Yx p hp with rfl | hp;exact Yt.2;exact(nA (kf (h5 p hp))).2.2
 have hmap:(ae 47 (ab 63 (bJ a)).1).map eR=ae 47 ([47]++cJ a.c9):=by
  rw[PE];have:∀ p,p∈ae 47 ([47]++cJ a.c9)->eR p=p:=fun p hp=>by
   rcases Yx p hp with rfl | hp;exact Yt.1;exact(nA (kf (h5 p hp))).2.1
  exact(List.map_congr_left this).trans (List.map_id _)
 have hcl:cd ([]++ae 47 ([47]++cJ a.c9))=a.c9:=by
  rw[List.nil_append,hs];unfold cd;rw[List.foldl_cons];have e0:de [] []=[]:=rfl;rw[e0];split;rename_i e;rw[e];rfl;rw[tt _ h5];rfl
 have ha:(⟨a.j8,a.c9,a.asks,a.ask⟩:w4)=a:=rfl;unfold cq;rw[L0,hmap,PE,(nA h3).2.2,(nA h3).2.1,hcl];exact(if_pos rfl).trans (if_pos h)
theorem Ea{p:UInt8->Bool}{s r:BL}(h:∀ c,c∈s->p c=true)(hr:∀ c r',r=c::r'->p c=false):(s++r).takeWhile p=s/\(s++r).dropWhile p=r:=by
 induction s with
 | nil=>
   cases r with
   | nil=>exact⟨rfl,rfl⟩
   | cons c r'=>have:=hr c r' rfl;simp[this]
 | cons c s ih=>
   obtain⟨q1,q2⟩:=ih fun d hd=>h d (by simp[hd]);have:=h c Zad;simp[this,q1,q2]
theorem Fm{s:BL}(h:∀ c,c∈s->97<=c.toNat/\c.toNat<=122):bK s=s:=by
 unfold bK;have:∀ c,c∈s->dW c=c:=fun c hc=>by unfold dW;rw[if_neg (by have:=h c hc;omega)]
 exact(List.map_congr_left this).trans (List.map_id _)
theorem Dk{a:w4}(h:aF a=true):dN (a.j8++bJ a)=some a:=by
 obtain⟨h1,_⟩:=iq h;have hl:=yh h1;obtain⟨q1,q2⟩:=Ea (p:=jG) (s:=a.j8) (r:=bJ a) (fun c hc=>by have:=hl c hc;unfold jG;rw[Zbk];omega) (fun c r' e=>by
  have:c=47:=by unfold bJ at e;simp at e;exact e.1.symm
  rw[this];decide)
 unfold dN;rw[q1,q2,Fm hl,Hw h]
theorem vK{a:w4}(h:aF a=true):∀ c,c∈da a->c.toNat<128/\c≠35:=by
 obtain⟨h1,h2,h3,h4,h5,h6⟩:=iq h;intro c hc;unfold da bJ at hc;simp only[Zax]at hc;have h47:∀ c:UInt8,c=47->c.toNat<128/\c≠35:=fun c e=>by rw[e];decide
 rcases hc with (hc | hc) | ((hc | hc) | hc);refine h47 c ?_;simpa using hc;have:=yh h1 c hc;exact⟨Zac,fun e=>by rw[e]at this;exact absurd this Zaf⟩;refine h47 c ?_;simpa using hc;exact⟨by
  have:o8 (cJ a.c9):=qZ fun x hx d hd=>(sJ (kf (h5 x hx)) d hd).1;exact this c hc,AX Zaf (fun p hp x hx=>(sJ (kf (h5 p hp)) x hx).2.2.2) c hc⟩
 split at hc;rcases Zax.1 hc with hc | hc;rw[Zav.1 hc];decide;exact⟨(sJ h3 c hc).1,(sJ h3 c hc).2.2.2⟩;simp at hc
theorem rm{a:w4}(h:aF a=true):aO (da a)=some a:=by
 have hc:=tZ (c:=35) (s:=da a) fun x hx=>(vK h x hx).2;unfold aO;rw[hc];rw[if_pos ⟨(iq h).2.2.2.2.2,by unfold da;simp,by unfold da;simp⟩];show dN ((da a).drop 2)=_;rw[show (da a).drop 2=a.j8++bJ a from by unfold da;simp,Dk h]
theorem CH{a:w4}(h:aF a=true):ay (da a)=true:=xc (by rw[rm h];rfl) (by rw[rm h];rfl)
theorem zC(a:w4):o8 (bw a):=by
 unfold bw;split;rename_i h;exact fun c hc=>(vK h c hc).1;exact bu
theorem FG{m:BL}{b:UInt8}(hb:b≠0):(!(m==[])&&o4 (((m.getD 0 0).toNat:Nat):Int) ((b.toNat:Nat):Int))=(ct m==b):=by
 unfold ct o4;rw[b8];cases m with
 | nil=>
   show false=_;symm;rw[beq_eq_false_iff_ne];intro c;exact hb (UInt8.toNat_inj.1 (by have:((0:UInt8).toNat:Int)=(b.toNat:Int):=c;omega))
 | cons x r=>rfl
theorem Ej{m:BL}(h:ct m=64):1<=m.length:=by
 cases m with
 | nil=>exact absurd h Zaf
 | cons a r=>simp
theorem EL{m:BL}:eY m=true↔¬ ct m=33/\¬ ct m=64:=by
 unfold eY;simp
theorem NJ{s:BL}(h:fm s [47,47]=true):2<=s.length/\s.take 2=[47,47]:=sr.1 h
theorem yD{s:BL}(h:fm s [47,47]=false): ¬ (2<=s.length/\s.take 2=[47,47]):=fun c=>by rw[(sr (s:=s) (p:=[47,47])).2 c]at h;cases h
theorem Gq{t:BL}(h:o8 t):o8 ((bf t).getD []):=by
 cases e:bf t with
 | none=>exact bu
 | some r=>exact fun c hc=>h c ((Ci e).2 c hc)
theorem GF{t:BL}(h:o8 t)(i:Nat):o8 ((aN t).getD i []):=by
 rw[Zam];cases e:(aN t)[i]? with
 | none=>exact bu
 | some x=>exact fun c hc=>h c (((pK t).2 x (Za7 e)).2 c hc)
theorem Ky{b:w4}{o:List BL}{m:BL}(h:(H4 b m).isSome=true)(h2: ¬ bw (oA (H4 b m))∈o):dJ b o m=o++[bw (oA (H4 b m))]:=by
 unfold dJ kB;rw[if_pos h,if_neg Zb6]
theorem Lv{b:w4}{o:List BL}{m:BL}(h:(H4 b m).isSome=true)(h2:bw (oA (H4 b m))∈o):dJ b o m=o:=by
 unfold dJ kB;rw[if_pos h,if_pos Zb6]
theorem qS(d:BL):cI (oA (aU d)):=by
 unfold aU;split;exact lT d;exact qH
def lj(m:BL)(b:UInt8):av:=.mk 83 [sV m,uN b.toNat] [] (b≠0) (bV (ct m==b)) [] (by
 intro hb
 refine aq Tryz.func83
  (.q 1<|.q 9<|.nil)
  (Gd ((!(m==[]))==true) (Ix 0 m)/\Pk (!(m==[])) ((!(m==[]))==true) true/\Q (bV ((!(m==[]))&&(o4 (((m.getD 0 0).toNat:Nat):Int) (b.toNat:Int)))) (bV (ct m==b))) ?_
 refine⟨fun hG=>by(try simp only[nb]at hG);have:=List.length_pos_iff.2 (by simpa using hG);omega,ag ?_⟩;unfold Q;refine Zbm bV ?_;exact FG hb)
abbrev gV(t:BL)(i:Nat):Prop:=i<=(ao t).length/\∀ j,j<i->(ct ((ao t).getD j [])==64)=false
def sW(t:BL):av:=.mk 48 [sV t] [] (t.length<=4611686018427387904) (.tup [sV ((bf t).getD []),bV ((bf t).isSome)]) [] (by
 intro ht;obtain⟨UC,TX⟩:=kX t
 refine aq Tryz.func48
  (.q 2<|.q 1<|.c (kC t) []<|.q 2<|.loop Nat (fun i=>⟨[(7,ar (ao t)),(8,iN ((ao t).length)),(9,iN i)],[]⟩) (fun i=>gV t i) (fun i=>(ao t).length-i) (fun i=>.q 1<|.br (.r 3 [sV ((ao t).getD i [])]<|.q 1<|.c (lj ((ao t).getD i []) (64:UInt8)) []<|.br (.q 4<|.nil) (.q 2<|.nil)) (.q 2<|.nil)))
  ((fun v1:V=>((kC t).sm/\((t.length<=4611686018427387904))/\(∃ j6:Nat,(gV t j6)/\E (ar (ao t))/\Q (iN (((ao t).map sV).length)) (iN ((ao t).length))/\Q (iN 0) (iN j6)/\True)/\∀ i:Nat,(gV t i)->Br (r6 (i:Int) (((ao t).length:Nat):Int)) (Ex (i:Int) ((ao t).map sV) (sV ((ao t).getD i []))/\True/\(lj ((ao t).getD i []) (64:UInt8)).sm/\(((64:UInt8)≠0))/\Br (ct ((ao t).getD i [])==(64:UInt8)) (Sx (1:Int) (((ao t).getD i []).length:Int) ((ao t).getD i [])/\Q (.tup [sV ((((ao t).getD i []).take ((ao t).getD i []).length).drop 1),bV true]) v1) (m5 ((i:Int)+1)/\∃ b7:Nat,(gV t b7)/\((ao t).length-b7<(ao t).length-i)/\E (ar (ao t))/\E (iN ((ao t).length))/\Q (iN (i+1)) (iN b7)/\True)) (Q (.tup [sV [],bV false]) v1))) (.tup [sV ((bf t).getD []),bV ((bf t).isSome)])) ?_
 refine aQ ⟨⟨0,?_,rfl,Zah,ak⟩,?_⟩;unfold gV;simp;rintro i ⟨h1,h2⟩;refine bI (fun j7=>?_) fun j7=>?_;refine⟨Zcg,trivial,rfl,Zaf,bI (fun l3=>?_) fun l3=>?_⟩;refine⟨by have:=Ej (m:=(ao t).getD i []) Zci;omega,?_⟩;rw[show bf t=some (((ao t).getD i []).drop 1) from by rw[bf,wR (i:=i) (d:=[]) Zac Zci h2];rfl,List.take_length];rfl;refine ag ⟨i+1,?_,?_,ak⟩;unfold gV;exact⟨Zac,Zdw⟩;exact Zak;rw[show bf t=none from by rw[bf,AZ (d:=[]) (fun j hj=>h2 j Zac)];rfl];rfl)
def rh(t:BL):av:=.mk 50 [sV t] [] (t.length<=4611686018427387904) (ar (aN t)) [] (by
 intro ht;obtain⟨UC,TX⟩:=kX t
 refine aq Tryz.func50
  (.l8 3<|.c (kC t) []<|.q 2<|.h (.I7 3 1)<|.loop (Nat×(List BL)×Nat×Nat×Nat) (fun (i,o,g,f,k)=>⟨[(3,.own 1 (o.map sV) g f k),(7,ar (ao t)),(8,iN ((ao t).length)),(9,iN i)],[]⟩) (fun (i,o,g,f,k)=>i<=(ao t).length/\o=((ao t).take i).filter eY/\o.length<=i) (fun (i,o,g,f,k)=>(ao t).length-i) (fun (i,o,g,f,k)=>.q 1<|.br (.r 3 [sV ((ao t).getD i [])]<|.q 1<|.c (lj ((ao t).getD i []) (33:UInt8)) []<|.q 3<|.cg (lj ((ao t).getD i []) (64:UInt8))<|.q 2<|.br (.q 2<|.bs<|.ap (fun g24 Qj Qm=>.h (.m8 24 (.own 1 ((o++[((ao t).getD i [])]).map sV) g24 Qj Qm))<|.q 1<|.q 2<|.nil)) (.q 2<|.nil)) (.h (.fz 3)<|.h (.m8 3 (ar o))<|.q 2<|.nil)))
  ((kC t).sm/\((t.length<=4611686018427387904))/\(∃ x:Nat×(List BL)×Nat×Nat×Nat,match x with | (j6,s4,x9,z8,n7)=>(j6<=(ao t).length/\s4=((ao t).take j6).filter eY/\s4.length<=j6)/\Q (.own 1 ([].map sV) 0 0 0) (.own 1 (s4.map sV) x9 z8 n7)/\E (ar (ao t))/\Q (iN (((ao t).map sV).length)) (iN ((ao t).length))/\Q (iN 0) (iN j6)/\True)/\∀ x:Nat×(List BL)×Nat×Nat×Nat,match x with | (i,o,g,f,k)=>(i<=(ao t).length/\o=((ao t).take i).filter eY/\o.length<=i)->(fun (v2:List V) (v1:Bool)=>Br (r6 (i:Int) (((ao t).length:Nat):Int)) (Ex (i:Int) ((ao t).map sV) (sV ((ao t).getD i []))/\True/\(lj ((ao t).getD i []) (33:UInt8)).sm/\(((33:UInt8)≠0))/\Gd (v1==true) ((((64:UInt8)≠0))/\(lj ((ao t).getD i []) (64:UInt8)).sm)/\Pk v1 (v1==true) true/\Br (v1&&(!(ct ((ao t).getD i [])==(64:UInt8)))) (((1,1,g,f,k,(o.map sV).length)=(1,1,g,f,k,(o.map sV).length))/\(True)/\(V.ax v2=false)/\(aS 1 v2)/\(((o.map sV).length+v2.length)*16<=140737488355328)/\∀ g24 Qj Qm:Nat,((.own 1 ((o.map sV)++v2) g24 Qj Qm:V)=.own 1 ((o++[((ao t).getD i [])]).map sV) g24 Qj Qm)/\m5 ((i:Int)+1)/\∃ x:Nat×(List BL)×Nat×Nat×Nat,match x with | (b7,l6,o9,n9,k₂)=>(b7<=(ao t).length/\l6=((ao t).take b7).filter eY/\l6.length<=b7)/\((ao t).length-b7<(ao t).length-i)/\Q (.own 1 ((o++[((ao t).getD i [])]).map sV) g24 Qj Qm) (.own 1 (l6.map sV) o9 n9 k₂)/\E (ar (ao t))/\E (iN ((ao t).length))/\Q (iN (i+1)) (iN b7)/\True) (m5 ((i:Int)+1)/\∃ x:Nat×(List BL)×Nat×Nat×Nat,match x with | (b7,l6,o9,n9,k₂)=>(b7<=(ao t).length/\l6=((ao t).take b7).filter eY/\l6.length<=b7)/\((ao t).length-b7<(ao t).length-i)/\Q (.own 1 (o.map sV) g f k) (.own 1 (l6.map sV) o9 n9 k₂)/\E (ar (ao t))/\E (iN ((ao t).length))/\Q (iN (i+1)) (iN b7)/\True)) (((.sl false (V.E4 (o.map sV)):V)=ar o)/\Q (ar o) (ar (aN t)))) ([sV ((ao t).getD i [])]:List V) (!(ct ((ao t).getD i [])==(33:UInt8)))) ?_
 refine aQ ⟨⟨(0,[],0,0,0),?_,rfl,rfl,Zah,ak⟩,?_⟩;simp;rintro⟨i,o,g,f,k⟩ ⟨h1,h2,h3⟩;refine bI (fun j7=>?_) fun j7=>?_;refine⟨Zcg,trivial,rfl,Zaf,fun hG=>⟨by(try simp only[nb]at hG);decide,rfl⟩,ag (bI (fun l3=>?_) fun l3=>?_)⟩;refine cF ⟨Zal,fun g24 Qj Qm=>⟨Zbm (V.own 1 · g24 Qj Qm) Zad,ag ⟨(i+1,o++[((ao t).getD i [])],g24,Qj,Qm),?_,?_,ak⟩⟩⟩;refine⟨Zac,?_,Zal⟩;rw[aW (d:=[]) Zac,List.filter_append,<- h2,List.filter_cons_of_pos (EL.2 Zci)];rfl;exact Zak;refine ag ⟨(i+1,o,g,f,k),?_,?_,ak⟩;refine⟨Zac,?_,ak⟩;rw[aW (d:=[]) Zac,List.filter_append,<- h2,List.filter_cons_of_neg (fun c=>absurd (EL.1 c) Zci)];simp;exact Zak;refine⟨Zcf,?_⟩;rw[h2,Zaz Zac];rfl)
def sR(a:w4):av:=.mk 51 [aC a] [] (cI a) (sV (bw a)) [] (by
 intro ha
 refine aq Tryz.func51
  (.bx (fun g1=>.q 1<|.o6<|.c (fN a) []<|.q 1<|.br (.q 1<|.nil) (.o6<|.c (iG a) []<|.q 1<|.nil)))
  (∀ g1:Nat,Z g1 0/\(fN a).sm/\((cI a))/\Br (!(aF a)) (Q (sV []) (sV (bw a))) (Z g1 0/\(iG a).sm/\((cI a))/\Q (sV (da a)) (sV (bw a)))) ?_
 intro g1;refine⟨rfl,rfl,ha,bI (fun j7=>?_) fun j7=>?_⟩;rw[show bw a=[] from if_neg Zck];refine⟨rfl,rfl,ha,?_⟩;rw[show bw a=da a from if_pos Zda])
def qN(s p:BL):av:=.mk 84 [sV s,sV p] [] ((s.length<=4611686018427387904)/\(p.length<=4611686018427387904)) (bV (fm s p)) [] (by
 rintro⟨hs,hp⟩
 refine aq Tryz.func84
  (.q 1<|.q 2<|.c (lJ s p) []<|.q 1<|.nil)
  ((lJ s p).sm/\((s.length<=4611686018427387904)/\(p.length<=4611686018427387904))/\Q (bV (fm s p)) (bV (fm s p))) ?_
 refine aQ ?_;rfl)
abbrev dI(a:w4)(ref:BL):V:=.tup [aC (oA (H4 a ref)),bV ((H4 a ref).isSome)]
def lI(a:w4)(ref:BL):av:=.mk 49 [aC a,sV ref] [] ((cI a)/\(a.c9.length<=100)/\(ref.length<=1000000)/\(o8 ref)) (dI a ref) [] (by
 rintro⟨ha,hp,hr,hc⟩;have PE:=kW 35 ref
 refine aq Tryz.func49
  (.bx (fun g2=>.al cO (fun g4=>.q 1<|.r 5 [.b9]<|.cg (fN a)<|.q 2<|.br (.bd cO<|.st none<|.q 1<|.nil) (.q 1<|.c (nW ref 35) []<|.q 7<|.q 1<|.c (qN ((ab 35 ref).1) ([47,47]:BL)) []<|.q 1<|.br (.q 1<|.c (lP ((ab 35 ref).1)) []<|.q 2<|.st none<|.q 1<|.nil) (.q 3<|.br (.r 2 [.b9]<|.c (ke a.c9) []<|.ot 36 (fun N' N8 QE=>.h (.fz 36)<|.h (.m8 36 (ar a.c9))<|.q 1<|.st none<|.o6<|.st none<|.q 1<|.nil)) (.q 4<|.br (.r 3 [.b9]<|.c (fJ a.j8 ([]:List BL) ((ab 35 ref).1)) []<|.q 2<|.st none<|.q 1<|.nil) (.q 4<|.br (.r 5 [.b9,.b9]<|.c (fJ a.j8 a.c9 ((ab 35 ref).1)) []<|.q 2<|.st none<|.q 1<|.nil) (.C6 14 [(1,n6 [2] [62]),(3,n6 [2] [64]),(5,n6 [2] [66])]<|.q 1<|.o6<|.q 1<|.o6<|.q 1<|.o6<|.l8 2<|.mm<|.q 1<|.h (.m8 70 (ar (a.c9.take (a.c9.length-1))))<|.q 1<|.c (fJ a.j8 (a.c9.take (a.c9.length-1)) ((ab 35 ref).1)) []<|.l8 2<|.st none<|.q 1<|.nil))))))))
  ((fun (v3 v1:Int) (v2:Bool)=>(∀ g2:Nat,∀ g4:Nat,Gd (v2==false) (Z g2 0)/\Gd (v2==false) (((cI a))/\(fN a).sm)/\Pk v2 true (v2==false)/\Br (v2||(!(aF a))) (Z g4 0/\(g4=g4)/\Q (.tup [fT (.sl false []),bV false]) (dI a ref)) ((nW ref 35).sm/\((ref.length<=1000000))/\(qN ((ab 35 ref).1) ([47,47]:BL)).sm/\((((ab 35 ref).1).length<=4611686018427387904)/\(([47,47]:BL).length<=4611686018427387904))/\Br (fm ((ab 35 ref).1) ([47,47]:BL)) ((lP ((ab 35 ref).1)).sm/\((((ab 35 ref).1).length<=300)/\(o8 ((ab 35 ref).1)))/\Z g4 0/\(g4=g4)/\Q (.tup [aC (oA (eB ((ab 35 ref).1))),bV ((eB ((ab 35 ref).1)).isSome)]) (dI a ref)) (Br (((ab 35 ref).1)==[]) (Z g2 1/\(ke a.c9).sm/\((a.c9.length<=1000000))/\∀ N' N8 QE:Nat,((.sl false (V.E4 (a.c9.map sV)):V)=ar a.c9)/\Z g2 1/\Z g2 0/\Z g4 0/\(g4=g4)/\Q (.tup [aC a,bV true]) (dI a ref)) (Ix 0 ((ab 35 ref).1)/\Br (o4 v3 47) (Z g2 0/\(fJ a.j8 ([]:List BL) ((ab 35 ref).1)).sm/\((a.j8.length<=1000)/\(∀ i,(([]:List BL).getD i []).length<=1000)/\(([]:List BL).length<=100)/\(((ab 35 ref).1).length<=300))/\Z g4 0/\(g4=g4)/\Q (.tup [aC (oA (cq a.j8 ([]:List BL) ((ab 35 ref).1))),bV ((cq a.j8 ([]:List BL) ((ab 35 ref).1)).isSome)]) (dI a ref)) (Ix 0 ((ab 35 ref).1)/\Br (o4 v3 63) (Z g2 0/\Z g2 1/\(fJ a.j8 a.c9 ((ab 35 ref).1)).sm/\((a.j8.length<=1000)/\(∀ i,(a.c9.getD i []).length<=1000)/\(a.c9.length<=100)/\(((ab 35 ref).1).length<=300))/\Z g4 0/\(g4=g4)/\Q (.tup [aC (oA (cq a.j8 a.c9 ((ab 35 ref).1))),bV ((cq a.j8 a.c9 ((ab 35 ref).1)).isSome)]) (dI a ref)) (Z g2 0/\Z g2 1/\Z g2 1/\m5 (v1-1)/\(IntKind.i64=IntKind.i64)/\((0:Int)<=(0:Int)/\(0:Int)<=(max (v1-1) 0)/\(max (v1-1) 0)<=(a.c9.map sV).length/\∀ x∈(a.c9.map sV),x.n=1)/\Q (.sl false (((a.c9.map sV).take (Int.toNat (max (v1-1) 0))).drop ((0:Int).toNat))) (ar (a.c9.take (a.c9.length-1)))/\(fJ a.j8 (a.c9.take (a.c9.length-1)) ((ab 35 ref).1)).sm/\((a.j8.length<=1000)/\(∀ i,((a.c9.take (a.c9.length-1)).getD i []).length<=1000)/\((a.c9.take (a.c9.length-1)).length<=100)/\(((ab 35 ref).1).length<=300))/\Z g4 0/\(g4=g4)/\Q (.tup [aC (oA (cq a.j8 (a.c9.take (a.c9.length-1)) ((ab 35 ref).1))),bV ((cq a.j8 (a.c9.take (a.c9.length-1)) ((ab 35 ref).1)).isSome)]) (dI a ref)))))))) (((((ab 35 ref).1).getD 0 0).toNat:Nat):Int) (((a.c9.map sV).length:Nat):Int) (s7 (ref.length:Int) 60)) ?_
 intro g2;intro g4;refine ag ⟨fun hG=>⟨ha,rfl⟩,ag (bI (fun j7=>?_) fun j7=>?_)⟩;refine⟨rfl,⟨rfl,?_⟩⟩;unfold Q dI;rw[show H4 a ref=none from if_pos (j7.symm.imp id fun h=>by omega)];rfl;refine aX ⟨ag Zad,bI (fun l3=>?_) fun l3=>?_⟩;refine⟨rfl,ag (hc.cut 35),rfl,⟨rfl,?_⟩⟩;unfold Q dI;rw[oF ⟨j7.2,j7.1⟩,if_pos (NJ l3),show eB (ab 35 ref).1=dN ((ab 35 ref).1.drop 2) from if_pos l3];refine bI (fun m7=>?_) fun m7=>?_;refine aX fun N' N8 QE=>⟨Zcf,aX ⟨rfl,?_⟩⟩;unfold Q dI;rw[oF ⟨j7.2,j7.1⟩,if_neg (yD l3),if_pos Zdb];rfl;refine⟨Zdz,bI (fun x2=>?_) fun x2=>?_⟩;refine⟨rfl,rfl,⟨ha.1,Zad,Zad,ak⟩,rfl,⟨rfl,?_⟩⟩;unfold Q dI;rw[oF ⟨j7.2,j7.1⟩,if_neg (yD l3),if_neg Zdb,if_pos (yw (k:=47) x2)];refine⟨Zdz,bI (fun D8=>?_) fun D8=>?_⟩;refine⟨rfl,rfl,rfl,⟨ha.1,ha.2.2.2,hp,ak⟩,rfl,⟨rfl,?_⟩⟩;unfold Q dI;rw[oF ⟨j7.2,j7.1⟩,if_neg (yD l3),if_neg Zdb,if_neg (sC (k:=47) x2),if_pos (yw (k:=63) D8)];refine ej ⟨⟨Zch,Zch,Zch,all_map (fun _=>rfl)⟩,Zdy,rfl,⟨ha.1,BQ ha.2.2.2,Zd0,ak⟩,rfl,?_⟩;refine⟨rfl,?_⟩;unfold Q dI;rw[oF ⟨j7.2,j7.1⟩,if_neg (yD l3),if_neg Zdb,if_neg (sC (k:=47) x2),if_neg (sC (k:=63) D8)])
def qX(a:w4)(t:BL):av:=.mk 20 [aC a,sV t] [] ((cI a)/\(t.length<=4611686018427387904)/\(o8 t)) (ar (bz a t)) [] (by
 rintro⟨ha,ht,hc⟩;obtain⟨UC,TX⟩:=pK t
 refine aq Tryz.func20
  (.bx (fun g2=>.q 1<|.o6<|.c (fN a) []<|.q 1<|.br (.q 1<|.nil) (.o6<|.al cO (fun g5=>.st none<|.q 1<|.c (sW t) []<|.q 5<|.q 1<|.join (w4) (fun b=>⟨[(1,sV t),(5,kp 5 g5)],[(5,(g5,aC b))]⟩) (fun b=>b=(fq a t)) (.r 2 [.b9]<|.c (lI a ((bf t).getD [])) []<|.q 3<|.al cO (fun g8=>.st none<|.l8 2<|.br (.o6<|.st none<|.nil) (.nil))) (.nil) (fun b=>.l8 2<|.c (rh t) []<|.q 2<|.h (.I7 10 1)<|.loop (Nat×(List BL)×Nat×Nat×Nat) (fun (i,o,g,f,k)=>⟨[(5,kp 5 g5),(10,.own 1 (o.map sV) g f k),(35,ar (aN t)),(36,iN ((aN t).length)),(37,iN i)],[(5,(g5,aC b))]⟩) (fun (i,o,g,f,k)=>i<=(aN t).length/\o=((aN t).take i).foldl (dJ b) []/\o.length<=i) (fun (i,o,g,f,k)=>(aN t).length-i) (fun (i,o,g,f,k)=>.q 1<|.br (.r 3 [sV ((aN t).getD i [])]<|.r 2 [.b9]<|.c (lI b ((aN t).getD i [])) []<|.q 3<|.al cO (fun g13=>.st none<|.q 1<|.q 2<|.br (.q 2<|.nil) (.o6<|.c (sR (oA (H4 b ((aN t).getD i [])))) []<|.q 1<|.q 2<|.cl (sF o (bw (oA (H4 b ((aN t).getD i [])))))<|.q 1<|.br (.q 2<|.bs<|.ap (fun V4 Vr Wd=>.h (.m8 58 (.own 1 ((o++[bw (oA (H4 b ((aN t).getD i [])))]).map sV) V4 Vr Wd))<|.q 1<|.q 2<|.nil)) (.q 2<|.nil)))) (.h (.fz 10)<|.h (.m8 10 (ar o))<|.q 2<|.nil)))))))
  ((fun v1:Nat=>(∀ g2:Nat,Z g2 0/\(fN a).sm/\((cI a))/\Br (!(aF a)) (Q (.sl false []) (ar (bz a t))) (Z g2 0/\∀ g5:Nat,(fun v2:V=>Z g5 0/\(sW t).sm/\((t.length<=4611686018427387904))/\(((bf t).isSome)=true->Z g2 0/\(lI a ((bf t).getD [])).sm/\((cI a)/\(a.c9.length<=100)/\(((bf t).getD []).length<=1000000)/\(o8 ((bf t).getD [])))/\∀ g8:Nat,Z g8 0/\Br ((H4 a ((bf t).getD [])).isSome) (Z g8 0/\Z g5 0/\∃ b:w4,(b=(fq a t))/\E (sV t)/\E v2/\Qr g5 (aC (oA (H4 a ((bf t).getD [])))) g5 (aC b)/\True) (∃ b:w4,(b=(fq a t))/\E (sV t)/\E v2/\Qr g5 (aC a) g5 (aC b)/\True))/\(((bf t).isSome)=false->∃ b:w4,(b=(fq a t))/\E (sV t)/\E v2/\Qr g5 (aC a) g5 (aC b)/\True)/\(∀ b:w4,(b=(fq a t))->(rh t).sm/\((t.length<=4611686018427387904))/\(∃ x:Nat×(List BL)×Nat×Nat×Nat,match x with | (j6,s4,x9,z8,n7)=>(j6<=(aN t).length/\s4=((aN t).take j6).foldl (dJ b) []/\s4.length<=j6)/\E v2/\Q (.own 1 ([].map sV) 0 0 0) (.own 1 (s4.map sV) x9 z8 n7)/\E (ar (aN t))/\Q (iN (((aN t).map sV).length)) (iN v1)/\Q (iN 0) (iN j6)/\Er g5 (aC b)/\True)/\∀ x:Nat×(List BL)×Nat×Nat×Nat,match x with | (i,o,g,f,k)=>(i<=(aN t).length/\o=((aN t).take i).foldl (dJ b) []/\o.length<=i)->(fun v3:w4=>(fun v4:List V=>Br (r6 (i:Int) (((aN t).length:Nat):Int)) (Ex (i:Int) ((aN t).map sV) (sV ((aN t).getD i []))/\True/\Z g5 0/\(lI b ((aN t).getD i [])).sm/\((cI b)/\(b.c9.length<=100)/\(((aN t).getD i []).length<=1000000)/\(o8 ((aN t).getD i [])))/\∀ g13:Nat,Z g13 0/\Br (!((H4 b ((aN t).getD i [])).isSome)) (m5 ((i:Int)+1)/\∃ x:Nat×(List BL)×Nat×Nat×Nat,match x with | (b7,l6,o9,n9,k₂)=>(b7<=(aN t).length/\l6=((aN t).take b7).foldl (dJ b) []/\l6.length<=b7)/\((aN t).length-b7<(aN t).length-i)/\E v2/\Q (.own 1 (o.map sV) g f k) (.own 1 (l6.map sV) o9 n9 k₂)/\E (ar (aN t))/\E (iN v1)/\Q (iN (i+1)) (iN b7)/\Er g5 (aC b)/\True) (Z g13 0/\(sR v3).sm/\((cI v3))/\(((1=1/\g=g/\f=f)/\0+((o.map sV).length)<=(o.map sV).length/\V.ax (o.map sV)=false/\aS 1 (o.map sV))/\True)/\(([.sl false (((o.map sV).drop 0).take ((o.map sV).length)),sV (bw v3)]:List V)=[ar o,sV (bw v3)])/\((o.length<=1000000))/\Br (!(o.contains (bw v3))) (((1,1,g,f,k,(o.map sV).length)=(1,1,g,f,k,(o.map sV).length))/\(True)/\(V.ax v4=false)/\(aS 1 v4)/\(((o.map sV).length+v4.length)*16<=140737488355328)/\∀ V4 Vr Wd:Nat,((.own 1 ((o.map sV)++v4) V4 Vr Wd:V)=.own 1 ((o++[bw v3]).map sV) V4 Vr Wd)/\m5 ((i:Int)+1)/\∃ x:Nat×(List BL)×Nat×Nat×Nat,match x with | (b7,l6,o9,n9,k₂)=>(b7<=(aN t).length/\l6=((aN t).take b7).foldl (dJ b) []/\l6.length<=b7)/\((aN t).length-b7<(aN t).length-i)/\E v2/\Q (.own 1 ((o++[bw v3]).map sV) V4 Vr Wd) (.own 1 (l6.map sV) o9 n9 k₂)/\E (ar (aN t))/\E (iN v1)/\Q (iN (i+1)) (iN b7)/\Er g5 (aC b)/\True) (m5 ((i:Int)+1)/\∃ x:Nat×(List BL)×Nat×Nat×Nat,match x with | (b7,l6,o9,n9,k₂)=>(b7<=(aN t).length/\l6=((aN t).take b7).foldl (dJ b) []/\l6.length<=b7)/\((aN t).length-b7<(aN t).length-i)/\E v2/\Q (.own 1 (o.map sV) g f k) (.own 1 (l6.map sV) o9 n9 k₂)/\E (ar (aN t))/\E (iN v1)/\Q (iN (i+1)) (iN b7)/\Er g5 (aC b)/\True))) (((.sl false (V.E4 (o.map sV)):V)=ar o)/\Q (ar o) (ar (bz a t)))) ([sV (bw v3)]:List V)) (oA (H4 b ((aN t).getD i []))))) (kp 5 g5)))) ((aN t).length)) ?_
 intro g2;refine⟨rfl,rfl,ha,bI (fun j7=>?_) fun j7=>?_⟩;rw[show bz a t=[] from if_neg Zck];rfl;refine⟨rfl,fun g5=>aX ⟨fun l3=>?_,fun l3=>?_,fun b hb=>?_⟩⟩;try simp only[nb]at l3
 refine⟨rfl,rfl,⟨ha,by have:=(iq Zda).2.1;omega,by have:=Af t;omega,Gq hc⟩,fun g8=>⟨rfl,bI (fun m7=>?_) fun m7=>?_⟩⟩;refine aQ ⟨(⟨(oA (H4 a ((bf t).getD []))).j8,(oA (H4 a ((bf t).getD []))).c9,(oA (H4 a ((bf t).getD []))).asks,(oA (H4 a ((bf t).getD []))).ask⟩:w4),Zd1,rfl,rfl,Zah,ak⟩;exact⟨(⟨a.j8,a.c9,a.asks,a.ask⟩:w4),Zd1,rfl,rfl,Zah,trivial⟩;try simp only[nb]at l3
 exact⟨(⟨a.j8,a.c9,a.asks,a.ask⟩:w4),Zd1,rfl,rfl,Zah,trivial⟩;refine aQ ⟨⟨(0,[],0,0,0),?_,rfl,rfl,rfl,Zah,ak⟩,?_⟩;simp;rintro⟨i,o,g,f,k⟩ ⟨h1,h2,h3⟩;have L':=ij (n:=300) (fun m hm=>(TX m hm).1) i;have hbo:aF b=true:=by rw[hb];exact zl Zda
 have hbs:cI b:=nS hbo;have hbp:b.c9.length<=100:=by have:=(iq hbo).2.1;omega
 have hla:o8 ((aN t).getD i []):=GF hc i;refine bI (fun x2=>?_) fun x2=>?_;refine⟨Zcg,aX ⟨⟨hbs,hbp,ag (hla)⟩,fun g13=>⟨rfl,bI (fun D8=>?_) fun D8=>?_⟩⟩⟩;refine ag ⟨(i+1,o,g,f,k),?_,?_,ak⟩;refine⟨Zac,?_,ak⟩;rw[foldl_succ (d:=[]) Zac,<- h2];exact(if_neg (by simpa using D8)).symm;exact Zak;refine⟨rfl,rfl,HM _ _,⟨⟨ak,Zad,bQ (f:=sV) (fun _=>rfl) _,cQ (f:=sV) (fun _=>rfl) _⟩,ak⟩,by simp[Zaz],ag (bI (fun Po=>?_) fun Po=>?_)⟩;refine cF ⟨Zal,fun V4 Vr Wd=>⟨Zbm (V.own 1 · V4 Vr Wd) Zad,ag ⟨(i+1,o++[bw (oA (H4 b ((aN t).getD i [])))],V4,Vr,Wd),?_,?_,ak⟩⟩⟩;refine⟨Zac,?_,Zal⟩;rw[foldl_succ (d:=[]) Zac,<- h2];exact(Ky (by simpa using D8) (by simpa using Po)).symm;exact Zak;refine ag ⟨(i+1,o,g,f,k),?_,?_,ak⟩;refine⟨Zac,?_,ak⟩;rw[foldl_succ (d:=[]) Zac,<- h2];exact(Lv (by simpa using D8) (by simpa using Po)).symm;exact Zak;refine⟨Zcf,?_⟩;rw[show bz a t=_ from if_pos Zda,<- hb,h2,Zaz Zac])
abbrev ld(a:w4)(k:Int)(t:BL):V:=ar (if k=1 then bz a t else if k=2 then [t] else [])
def Cy(a:w4)(k:Int)(t:BL):av:=.mk 153 [aC a,iV k,sV t] [] ((cI a)/\(t.length<=4611686018427387904)/\(o8 t)) (ld a k t) [] (by
 rintro⟨ha,ht,hc⟩
 refine aq Tryz.func153
  (.bx (fun g3=>.l8 2<|.q 2<|.br (.r 2 [.b9]<|.c (qX a t) []<|.q 1<|.nil) (.q 2<|.br (.q 1<|.bs<|.q 1<|.nil) (.q 1<|.nil))))
  (∀ g3:Nat,Br (o4 k 1) (Z g3 0/\(qX a t).sm/\((cI a)/\(t.length<=4611686018427387904)/\(o8 t))/\Q (ar (bz a t)) (ld a k t)) (Br (o4 k 2) (Q (.sl false [sV t]) (ld a k t)) (Q (.sl false []) (ld a k t)))) ?_
 intro g3;refine bI (fun j7=>?_) fun j7=>?_;refine aX ?_;unfold Q ld;rw[if_pos j7];refine bI (fun l3=>?_) fun l3=>?_;unfold Q ld;rw[if_neg j7,if_pos l3];rfl;unfold Q ld;rw[if_neg j7,if_neg l3];rfl)
theorem zF(k:BL)(y:Value)(a:BL):∀ es:List (BL×Value),cD (fp es k y) a=if a=k then some y else cD es a
 | []=>by
   unfold fp cD;by_cases h:a=k;rw[if_pos h.symm,if_pos h];rw[if_neg (fun c=>h c.symm),if_neg h];rfl
 | p::r=>by
   unfold fp;by_cases h:p.1=k;rw[if_pos h];show (if k=a then some y else cD r a)=if a=k then some y else if p.1=a then some p.2 else cD r a;by_cases h2:a=k;rw[if_pos h2.symm,if_pos h2];rw[if_neg (fun c=>h2 c.symm),if_neg h2,if_neg (fun c=>h2 (c.symm.trans h))];rw[if_neg h];show (if p.1=a then some p.2 else cD (fp r k y) a)=if a=k then some y else if p.1=a then some p.2 else cD r a;rw[zF k y a r];by_cases h2:p.1=a;rw[if_pos h2,if_neg (fun c=>h (h2.trans c)),if_pos h2];rw[if_neg h2,if_neg h2]
def hS(x:List BL×List (BL×Value))(a:BL):List BL×List (BL×Value):=(x.1++[a],fp x.2 a (.int .i64 (((x.1.count a:Nat):Int)+1)))
def hE(H:List BL):List (BL×Value):=(H.foldl hS ([],[])).2
theorem Hj:∀ (H:List BL) {x:List BL×List (BL×Value)},(H.foldl hS x).1=x.1++H
 | [],x=>by simp
 | a::H,x=>by rw[List.foldl_cons,Hj H];simp[hS]
theorem Cg(H:List BL)(a:BL):fp (hE H) a (.int .i64 (((H.count a:Nat):Int)+1))=hE (H++[a]):=by
 unfold hE;rw[List.foldl_append,List.foldl_cons,List.foldl_nil];show _=fp _ a (.int .i64 ((((H.foldl hS ([],[])).1.count a:Nat):Int)+1));rw[Hj,List.nil_append]
theorem Bt:∀ (H:List BL) {x:List BL×List (BL×Value)},(∀ a,cD x.2 a=if a∈x.1 then some (.int .i64 ((x.1.count a:Nat):Int)) else none)->
 ∀ a,cD (H.foldl hS x).2 a=if a∈(H.foldl hS x).1 then some (.int .i64 (((H.foldl hS x).1.count a:Nat):Int)) else none
 | [],_,h=>h
 | b::H,x,h=>Bt H fun a=>by
   show cD (fp x.2 b _) a=if a∈x.1++[b] then some (.int .i64 (((x.1++[b]).count a:Nat):Int)) else none;rw[zF,h a];by_cases e:a=b;subst e;rw[if_pos rfl,if_pos Zad,List.count_append];simp;rw[if_neg e,List.count_append];by_cases e2:a∈x.1;rw[if_pos e2,if_pos (by simp[e2])];simp[List.count_cons,Ne.symm e];rw[if_neg e2,if_neg (by simp[e,e2])]
theorem Bf(H:List BL)(a:BL):cD (hE H) a=if a∈H then some (.int .i64 ((H.count a:Nat):Int)) else none:=by
 have:=Bt H (x:=([],[])) (by simp[cD]) a;rw[Hj,List.nil_append]at this;exact this
theorem BM{b:w4}:∀ (ls:List BL) {o:List BL},(∀ m,m∈o->ay m=true/\o8 m)->∀ m,m∈ls.foldl (dJ b) o->ay m=true/\o8 m
 | [],_,h=>h
 | l::ls,o,h=>by
   refine BM ls fun m hm=>?_;unfold dJ at hm;split at hm;rename_i hs;rcases Ch.1 hm with hm | rfl;exact h m hm;have hk:=CI hs;exact⟨by rw[show bw (oA (H4 b l))=da (oA (H4 b l)) from if_pos hk];exact CH hk,zC _⟩;exact h m hm
theorem xX{a:w4}{t:BL}:∀ m,m∈bz a t->ay m=true/\o8 m:=by
 unfold bz;split;exact BM _ Zad;simp
section
variable {P:Program}
def lkO(t0:Nat)(es:List (BL×Value))(k:BL)(v:V):Cu P where
 X:=Unit
 pre N o A:=match o.op,o.dst with
  | .lookup T x kx false,some d=>match tD P T,Nat.blt d N with
    | some (.map kt et),true=>match tD P kt,A.ev x,A.get t0 with
      | some .str,.lit (.map (some g)),.om Ru g'=>(g'=g/\Ru=es)/\A.ev kx=sV k/\((∃ y,cD es k=some y/\v.val? =some y)\/(cD es k=none/\∃ y,v.val? =some y/\∀ w,(zeroValue et).run P w=.ok y w))
      | _,_,_=>False
    | _,_=>False
  | _,_=>False
 post _ o A:=match o.dst with
  | some d=>A.put (some d) v
  | none=>A
 ok:=by
  rintro N ⟨dst,op,ty,pos,after,D4⟩ A K-hp hK;replace hK:=hK ();simp only at hp hK;split at hp;rename_i T x kx d;split at hp;rename_i kt et e1 e2;split at hp;rename_i g Ru g' e3 e4 e5;obtain⟨⟨rfl,rfl⟩,hk,hy⟩:=hp;obtain⟨td,hu,hd⟩:=cP e1;have hu:P.underlying T=some (.map kt et):=by
   cases td <;> simp_all[dH]
  obtain⟨UP,QB,Tc⟩:=cP e3;have QB:P.underlying kt=some .string:=by
   cases UP <;> simp_all[dH]
  have PQ:∃ y,v.val? =some y:=by
   rcases hy with ⟨y,_,h⟩ | ⟨_,y,h,_⟩ <;> exact⟨y,h⟩
  obtain⟨y,hv⟩:=PQ;refine gu rfl (bF e2) hK fun Pb Kb a w F hs=>⟨y,?_,vU hv⟩;have hk:=bX hs hk;have hm:=bX hs e4;have h0:=hs.slot t0;rw[e5]at h0;have h0:R w Pb (.om Ru g') [a.tmps.getD t0 undef] (F (.slot t0)):=h0;obtain⟨hF,hc,hnP,en,cl,hb,UF,hnd,hcl⟩:=h0;obtain⟨f1,f2⟩:=kL k Ru en.toList 0 UF;have VZ:∀ e,(Instr.checkKey e 10000 kt (.string (Str k))).run P w=.ok () w:=fun e=>ni QB;rcases hy with ⟨y',h1,h2⟩ | ⟨h1,y',h2,Xu⟩;rw[hv]at h2;obtain rfl:=Option.some.inj h2;obtain⟨j,j1,_⟩:=f2 _ h1;rw[show (⟨k.toArray⟩:ByteArray)=Str k from rfl]at j1;simp[execOp,hm,hk,Instr.lookup,run_underlying hu,MapKept.run_getObj_map hb,VZ,MapKept.run_findKey QB j1,Result.andThen];rw[hv]at h2;obtain rfl:=Option.some.inj h2;have j1:=f1 h1;rw[show (⟨k.toArray⟩:ByteArray)=Str k from rfl]at j1;simp[execOp,hm,hk,Instr.lookup,run_underlying hu,MapKept.run_getObj_map hb,VZ,MapKept.run_findKey QB j1,Result.andThen,Xu];exact hp.elim;exact hp.elim;exact hp.elim
end
theorem Lk(H:List BL)(a:BL):(∃ y,cD (hE H) a=some y/\(iN (H.count a):V).val? =some y)\/(cD (hE H) a=none/\∃ y,(iN (H.count a):V).val? =some y/\∀ w,(zeroValue 3).run Tryz.prog w=.ok y w):=by
 have h:=Bf H a;by_cases e:a∈H;rw[if_pos e]at h;exact .inl ⟨_,h,rfl⟩;rw[if_neg e]at h;refine .inr ⟨h,.int .i64 0,by rw[List.count_eq_zero.2 e];rfl,fun w=>by kernel_rfl⟩
theorem Jz{l m:List BL}(h:l.length=m.length)(e:∀ j,j<l.length->l.getD j []=m.getD j []):l=m:=by
 apply List.ext_getElem h;intro j h1 h2;have:=e j h1;rw[Zam,Zam,Zat h1,Zat h2]at this;exact this
abbrev iH(b:BL)(p g:Nat)(w:List Pg)(m:Nat)(e:List BL)(q u f k:Nat):Prop:=e.length+m<=3/\(∀ y,y∈e->y.length<=30/\o8 y)/\p<=q/\q+10*m<=p+40
def wc(b:BL)(p g:Nat)(w:List Pg):fY:=.mk (List BL×Nat) 90 [kp 1000 g,ba w] [(1000,(g,ai b p))] ((b.length<=2000)/\(p<=700000)/\(w.length<=30)/\(∀ y,y∈w->r8 y)) (fun x=>x.1.length<=4/\(∀ y,y∈x.1->y.length<=30/\o8 y)/\p<=x.2/\x.2<=p+60) (fun x=>ar x.1) (fun x=>[(1000,(g,ai b x.2))]) (by
 rintro⟨hb,hp,hw,hy⟩
 refine fU Tryz.func90
  (.q 1<|.bs<|.l8 2<|.cx (aY b p g 3) [(1000,1000)] (fun (w5:Nat)=>.q 2<|.h (.I7 5 1)<|.loop (Nat×(List BL)×Nat×Nat×Nat×Nat) (fun (m,e,q,u,f,k)=>⟨[(0,kp 1000 g),(1,ba w),(5,.own 1 (e.map sV) u f k),(6,iN m)],[(1000,(g,ai b q))]⟩) (fun (m,e,q,u,f,k)=>iH b p g w m e q u f k) (fun (m,e,q,u,f,k)=>m) (fun (m,e,q,u,f,k)=>.q 2<|.br (.q 3<|.cx (uD b q g w) [(1000,1000)] (fun (PN:BL×Nat)=>.bs<|.ap (fun g20 RH R9=>.h (.m8 20 (.own 1 ((e++[PN.1]).map sV) g20 RH R9))<|.q 1<|.q 2<|.h (.m8 14 (iN (m-1)))<|.q 1<|.nil))) (.q 1<|.cx (aY b q g 12) [(1000,1000)] (fun (E':Nat)=>.q 1<|.br (.q 1<|.bs<|.ap (fun XQ Xo XX=>.h (.m8 26 (.own 1 ((e++[([120]:BL)]).map sV) XQ Xo XX))<|.q 1<|.h (.fz 4)<|.h (.m8 4 (ar (e++[([120]:BL)])))<|.nil)) (.h (.fz 5)<|.h (.m8 5 (ar e))<|.q 2<|.nil))))))
  ((fun v1:BL=>((aY b p g 3).sm/\Er g (ai b p)/\((b.length<=2000)/\(p<=1000000)/\(3<=1000000))/\∀ w5:Nat,(3=0/\w5=0\/w5<3)->m5 (1+(w5:Int))/\(∃ x:Nat×(List BL)×Nat×Nat×Nat×Nat,match x with | (M8,D6,w8,H9,z8,n7)=>(iH b p g w M8 D6 w8 H9 z8 n7)/\E (kp 1000 g)/\E (ba w)/\Q (.own 1 ([].map sV) 0 0 0) (.own 1 (D6.map sV) H9 z8 n7)/\Q (iN (1+w5)) (iN M8)/\Qr g (ai b (p+1)) g (ai b w8)/\True)/\∀ x:Nat×(List BL)×Nat×Nat×Nat×Nat,match x with | (m,e,q,u,f,k)=>(iH b p g w m e q u f k)->Br (s7 (m:Int) 0) ((uD b q g w).sm/\Er g (ai b q)/\((b.length<=2000)/\(q<=800000)/\(w.length<=30)/\(∀ y,y∈w->r8 y))/\∀ PN:BL×Nat,(PN.1.length<=30/\q<=PN.2/\PN.2<=q+8/\o8 PN.1)->(fun v2:List V=>((1,1,u,f,k,(e.map sV).length)=(1,1,u,f,k,(e.map sV).length))/\(True)/\(V.ax v2=false)/\(aS 1 v2)/\(((e.map sV).length+v2.length)*16<=140737488355328)/\∀ g20 RH R9:Nat,((.own 1 ((e.map sV)++v2) g20 RH R9:V)=.own 1 ((e++[PN.1]).map sV) g20 RH R9)/\m5 ((m:Int)-1)/\Q (iV ((m:Int)-1)) (iN (m-1))/\∃ x:Nat×(List BL)×Nat×Nat×Nat×Nat,match x with | (m₂,x7,m9,C7,n9,k₂)=>(iH b p g w m₂ x7 m9 C7 n9 k₂)/\(m₂<m)/\E (kp 1000 g)/\E (ba w)/\Q (.own 1 ((e++[PN.1]).map sV) g20 RH R9) (.own 1 (x7.map sV) C7 n9 k₂)/\Q (iN (m-1)) (iN m₂)/\Qr g (ai b PN.2) g (ai b m9)/\True) ([sV PN.1]:List V)) ((aY b q g 12).sm/\Er g (ai b q)/\((b.length<=2000)/\(q<=1000000)/\(12<=1000000))/\∀ E':Nat,(12=0/\E'=0\/E'<12)->Br (o4 (E':Int) 0) (((1,1,u,f,k,(e.map sV).length)=(1,1,u,f,k,(e.map sV).length))/\(True)/\(V.ax ([sV v1]:List V)=false)/\(aS 1 ([sV v1]:List V))/\(((e.map sV).length+([sV v1]:List V).length)*16<=140737488355328)/\∀ XQ Xo XX:Nat,((.own 1 ((e.map sV)++([sV v1]:List V)) XQ Xo XX:V)=.own 1 ((e++[v1]).map sV) XQ Xo XX)/\((.sl false (V.E4 ((e++[v1]).map sV)):V)=ar (e++[v1]))/\∃ x:List BL×Nat,(x.1.length<=4/\(∀ y,y∈x.1->y.length<=30/\o8 y)/\p<=x.2/\x.2<=p+60)/\Q (ar (e++[v1])) (ar x.1)/\Qr g (ai b (q+1)) g (ai b x.2)) (((.sl false (V.E4 (e.map sV)):V)=ar e)/\∃ x:List BL×Nat,(x.1.length<=4/\(∀ y,y∈x.1->y.length<=30/\o8 y)/\p<=x.2/\x.2<=p+60)/\Q (ar e) (ar x.1)/\Qr g (ai b (q+1)) g (ai b x.2))))) ([120]:BL)) ?_
 refine aX fun w5 QZ=>ag ⟨⟨(1+w5,[],p+1,0,0,0),?_,ak⟩,?_⟩;unfold iH;exact⟨Zal,Zad,Zac,Zac⟩;rintro⟨m,e,q,u,f,k⟩ ⟨h1,h2,h3,h4⟩;refine bI (fun j7=>?_) fun j7=>?_;refine⟨rfl,rfl,aX (hy),fun PN VL=>cF ⟨Zal,fun g20 RH R9=>⟨Zbm (V.own 1 · g20 RH R9) Zad,Zac,Zct,⟨(m-1,e++[PN.1],PN.2,g20,RH,R9),?_,?_,ak⟩⟩⟩⟩;unfold iH;exact⟨Zal,jt h2 ⟨VL.1,VL.2.2.2⟩,Zac,Zac⟩;exact Zak;refine aX fun E' TB=>bI (fun l3=>?_) fun l3=>?_;refine cF ⟨Zal,fun XQ Xo XX=>⟨Zbm (V.own 1 · XQ Xo XX) Zad,Zcf,⟨(e++[([120]:BL)],q+1),?_,?_,?_⟩⟩⟩;try dsimp only
 exact⟨Zal,jt h2 ⟨Zad,bS rfl⟩,Zac,Zac⟩;exact Zaa;exact Zab;refine⟨Zcf,⟨(e,q+1),?_,?_,?_⟩⟩;try dsimp only
 exact⟨Zac,h2,Zac,Zac⟩;exact Zaa;first | rfl | exact⟨rfl,rfl⟩ | simp_all)
def jW(l m:List BL):av:=.mk 12 [ar l,ar m] [] ((l.length<=1000000)/\(m.length<=1000000)) (bV (l==m)) [] (by
 rintro⟨hl,hm⟩
 refine aq Tryz.func12
  (.q 1<|.q 5<|.br (.q 1<|.nil) (.q 1<|.loop Nat (fun i=>⟨[(0,ar l),(1,ar m),(5,iN i)],[]⟩) (fun i=>i<=l.length/\∀ j,j<i->l.getD j []=m.getD j []) (fun i=>l.length-i) (fun i=>.q 4<|.br (.C6 9 [(3,n6 [] [20]),(7,n6 [] [24])]<|.l8 2<|.r 1 [sV (l.getD i [])]<|.l8 3<|.r 1 [sV (m.getD i [])]<|.l8 2<|.br (.q 1<|.nil) (.q 3<|.nil)) (.q 1<|.nil))))
  ((fun v1:Nat->Prop=>(Br (D1 (((l.map sV).length:Nat):Int) (((m.map sV).length:Nat):Int)) (Q (bV false) (bV (l==m))) ((∃ j6:Nat,(v1 j6)/\E (ar l)/\E (ar m)/\Q (iN 0) (iN j6)/\True)/\∀ i:Nat,(v1 i)->Br (r6 (i:Int) (((l.map sV).length:Nat):Int)) (Ex (i:Int) (l.map sV) (sV (l.getD i []))/\True/\Ex (i:Int) (m.map sV) (sV (m.getD i []))/\True/\Br (!((l.getD i [])==(m.getD i []))) (Q (bV false) (bV (l==m))) (m5 ((i:Int)+1)/\∃ b7:Nat,(v1 b7)/\(l.length-b7<l.length-i)/\E (ar l)/\E (ar m)/\Q (iN (i+1)) (iN b7)/\True)) (Q (bV true) (bV (l==m)))))) (fun j6:Nat=>j6<=l.length/\∀ j,j<j6->l.getD j []=m.getD j [])) ?_
 refine bI (fun j7=>?_) fun j7=>?_;unfold Q;refine Zbm bV ?_;symm;rw[beq_eq_false_iff_ne];rintro rfl;simp_all;refine⟨⟨0,?_,ak⟩,?_⟩;simp;rintro i ⟨h1,h2⟩;refine bI (fun l3=>?_) fun l3=>?_;refine⟨Zcg,trivial,Zcg,ag (bI (fun m7=>?_) fun m7=>?_)⟩;unfold Q;refine Zbm bV ?_;symm;rw[beq_eq_false_iff_ne];rintro rfl;simp_all;refine ag ⟨i+1,?_,?_,ak⟩;exact⟨Zac,Zdl⟩;exact Zak;unfold Q;refine Zbm bV ?_;symm;rw[Zbl];exact Jz Zac (fun j hj=>h2 j Zac))
structure s6 where
 ad:BL
 tr:Int
structure l4 where
 na:BL
 re:Int
 kn:Bool
 gr:l7
 tr:Int
 td:List s6
structure r4 where
 ti:Int
 ad:BL
 ki:Int
structure l5 where
 na:BL
 b6:Int
 hs:List l4
 se:List BL
 lk:List r4
def e9:l4:=⟨[],0,false,⟨[],[],0⟩,0,[]⟩
def j9:s6:=⟨[],0⟩
def x8:r4:=⟨0,[],0⟩
def dO(d n:BL):l4:=⟨d,0,false,⟨[n],[],0⟩,0,[]⟩
def C8(hs:List l4)(d:BL):Nat:=hs.findIdx fun h=>h.na==d
def bA(hs:List l4)(d n:BL):List l4:=if C8 hs d<hs.length then hs else hs++[dO d n]
def pathOf(s:BL):BL:=bJ (oA (aO s))
def aG(s:BL):BL:=(oA (aO s)).j8
def fu(h:l4)(s:BL):l4:=if h.kn=true/\bT h.gr.ru (pathOf s)=false then h else { h with td:=h.td++[⟨s,0⟩] }
def eA(se:List BL)(s:BL):Prop:=ay s=true/\se.length<60/\s ∉ se
instance (se:List BL) (s:BL):Decidable (eA se s):=by unfold eA;infer_instance
def bg(se:List BL)(s:BL):List BL:=if eA se s then se++[s] else se
def bO(n:BL)(hs:List l4)(se:List BL)(s:BL):List l4:=
 if eA se s then (bA hs (aG s) n).set (C8 hs (aG s)) (fu ((bA hs (aG s) n).getD (C8 hs (aG s)) e9) s) else hs
def aL(t:l5)(s:BL):l5:={ t with se:=bg t.se s,hs:=bO t.na t.hs t.se s }
theorem kr(hs:List l4)(d n:BL):C8 hs d<(bA hs d n).length:=by
 unfold bA;split;assumption;rename_i h;have:C8 hs d<=hs.length:=List.findIdx_le_length;simp only[Zap,Zar,Zau];omega
theorem uy(hs:List l4)(d n:BL):(bA hs d n).length<=hs.length+1:=by
 unfold bA;split <;> simp
def oT(o:Option l5):l5:=o.getD ⟨[],0,[],[],[]⟩
def dB(n:BL):l5:=⟨n,0,[],[],[]⟩
def eV(n:BL)(m6:List BL):Option l5:=if cC n=true/\m6.length<=12 then some (m6.foldl aL (dB n)) else none
structure Uv (n:BL) (k:Nat) (t:l5):Prop where
 na:t.na=n
 b6:t.b6=0
 lk:t.lk=[]
 hl:t.hs.length<=k
 sl:t.se.length<=k
 hs:∀ y,y∈t.hs->y.kn=false/\y.gr=⟨[n],[],0⟩/\y.td.length<=k/\y.re=0/\y.tr=0
theorem gi{α:Type}{l:List α}{i:Nat}{a y:α}(h:y∈l.set i a):y=a\/y∈l:=by
 rcases List.mem_or_eq_of_mem_set h with h | h;exact .inr h;exact .inl h
theorem HR{n s:BL}{k:Nat}{t:l5}(h:Uv n k t):Uv n (k+1) (aL t s):=by
 have hin:∀ d y,y∈bA t.hs d t.na->y.kn=false/\y.gr=⟨[n],[],0⟩/\y.td.length<=k/\y.re=0/\y.tr=0:=fun d y hy=>by
  unfold bA at hy;split at hy;exact h.hs y hy;rcases Zax.1 hy with hy | hy;exact h.hs y hy;rw[Zav.1 hy,h.na];simp[dO]
 refine⟨h.na,h.b6,h.lk,?_,?_,fun y hy=>?_⟩;show (bO t.na t.hs t.se s).length<=k+1;unfold bO;split;have:=uy t.hs (aG s) t.na;have:=h.hl;rw[List.length_set];omega;have:=h.hl;omega;show (bg t.se s).length<=k+1;unfold bg;have:=h.sl;split;simp;omega;omega;have hy:y∈bO t.na t.hs t.se s:=hy;unfold bO at hy;split at hy;rcases gi hy with e | hy;have hm:(bA t.hs (aG s) t.na).getD (C8 t.hs (aG s)) e9∈bA t.hs (aG s) t.na:=by
  rw[Zam,Zat (kr ..)];exact List.getElem_mem _
 obtain⟨a1,a2,a3,a4,a5⟩:=hin _ _ hm;rw[e];unfold fu;rw[if_neg (fun c=>by rw[a1]at c;cases c.1)];exact⟨a1,a2,Zc1,a4,a5⟩;obtain⟨a1,a2,a3,a4,a5⟩:=hin _ _ hy;exact⟨a1,a2,Zac,a4,a5⟩;obtain⟨a1,a2,a3,a4,a5⟩:=h.hs y hy;exact⟨a1,a2,Zac,a4,a5⟩
theorem pU(n:BL):∀ (l:List BL) {k:Nat} {t:l5},Uv n k t->Uv n (k+l.length) (l.foldl aL t)
 | [],k,t,h=>h
 | a::r,k,t,h=>by
   have:=pU n r (HR (s:=a) h);rw[show k+(a::r).length=k+1+r.length from Zal];exact this
theorem rq(n:BL):Uv n 0 (dB n):=⟨rfl,rfl,rfl,by simp[dB],by simp[dB],fun y hy=>by simp[dB]at hy⟩
def cn(k:Int):Int:=if k=1 then 2 else if k=2 then 4 else if k=3 then 8 else 0
def lW(b6:Int)(x:Int×Int)(p:Nat×l4):Int×Int:=
 if p.2.td≠[]/\(x.1<0\/max p.2.re b6<x.2) then (p.1,max p.2.re b6) else x
def y9(t:l5)(i:Nat):Int×Int:=((t.hs.zipIdx.take i).map fun p=>(p.2,p.1)).foldl (lW t.b6) (-1,0)
def gB(t:l5):Option (Nat×Int):=
 if (y9 t t.hs.length).1<0\/5000<(y9 t t.hs.length).2 then none else some ((y9 t t.hs.length).1.toNat,(y9 t t.hs.length).2)
def fv(h:l4)(b6 k n:Int):l4:={ h with re:=b6+max (h.gr.wa:Int) 1+(if k=3 then cn (n+1) else 0) }
def vW(s:BL)(k:Int)(x:BL):List BL:=if k=1 then bz (oA (aO s)) x else if k=2 then [x] else []
def bW(h:l4)(se:List BL):Bool:=
 decide (h.td.length<=se.length)&&(h.td.all fun it=>ay it.ad&&(aG it.ad==h.na)&&se.contains it.ad&&A5 it.tr 0 2)&&decide (h.td.map (·.ad)).Nodup
def cU(h:l4)(n:BL):Bool:=
 cZ h.na&&A5 h.re 0 5100&&A5 h.tr 0 2&&(h.gr.na==[n])&&
  (if h.kn=true then decide (h.gr.ru.length<=40)&&(h.gr.ru.all fun r=>bc r.path)&&A5 h.gr.wa 0 20 else decide (h.gr.ru=[]/\h.gr.wa=0))
def dz(lk:List r4)(b6:Int):Bool:=
 decide (lk.length<=400)&&((List.range lk.length).all fun i=>decide ((if i=0 then 0 else (lk.getD (i-1) x8).ti)<=(lk.getD i x8).ti)&&decide ((lk.getD i x8).ti<=b6)&&A5 (lk.getD i x8).ki 0 3&&ay (lk.getD i x8).ad)
def dL(se:List BL):Bool:=decide (se.length<=60)&&decide se.Nodup&&se.all ay
def aE(t:l5):Bool:=cC t.na&&A5 t.b6 0 5000&&dL t.se&&dz t.lk t.b6&&(t.hs.all fun h=>cU h t.na&&bW h t.se)&&decide (t.hs.map (·.na)).Nodup
structure N6 (h:l4):Prop where
 n:h.na.length<=1000
 r:h.gr.ru.length<=1000
 rp:∀ i,(h.gr.ru.getD i ⟨false,[]⟩).path.length<=1000
 g:h.gr.na.length<=1000
 t:h.td.length<=1000
 ta:∀ x,x∈h.td->x.ad.length<=1000/\o8 x.ad
structure x3 (t:l5):Prop where
 n:t.na.length<=1000
 h:t.hs.length<=1000
 s:t.se.length<=1000
 l:t.lk.length<=1000
 sa:∀ x,x∈t.se->x.length<=1000/\o8 x
 la:∀ x,x∈t.lk->x.ad.length<=1000/\o8 x.ad
 ha:∀ x,x∈t.hs->N6 x
abbrev aj(x:s6):V:=.agg [sV x.ad,iV x.tr]
abbrev aP(x:r4):V:=.agg [iV x.ti,sV x.ad,iV x.ki]
abbrev an(h:l4):V:=.agg [sV h.na,iV h.re,bV h.kn,bY h.gr,iV h.tr,.ow 2 (h.td.map aj)]
abbrev cy(h:l4):V:=.agg [sV h.na,iV h.re,bV h.kn,bY h.gr,iV h.tr,.sl false (h.td.map aj)]
abbrev IK(t:l5):V:=.agg [sV t.na,iV t.b6,.ow 8 (t.hs.map an),.ow 1 (t.se.map sV),.ow 3 (t.lk.map aP)]
abbrev fw(p0:List r4):V:=.sl false (p0.map aP)
abbrev iv(p0:List s6):V:=.sl false (p0.map aj)
abbrev mz(p0:List l4):V:=.sl false (p0.map cy)
abbrev cv(p0:BL)(p1:Int):V:=.agg [sV p0,iV p1]
abbrev fH(p0:Int)(p1:BL)(p2:Int):V:=.agg [iV p0,sV p1,iV p2]
abbrev Nr(p0:BL)(p1:Int)(p2:List l4)(p3:List BL)(p4:List r4):V:=.agg [sV p0,iV p1,.sl false (p2.map cy),.sl false (p3.map sV),.sl false (p4.map aP)]
abbrev NT(p0:BL)(p1:Int)(p2:Bool)(p3:List BL)(p4:List r7)(p5:Nat)(p6:Int)(p7:List s6):V:=.agg [sV p0,iV p1,bV p2,.agg [.sl false (p3.map sV),.sl false (p4.map au),iN p5],iV p6,.sl false (p7.map aj)]
abbrev aD(y0:l5):V:=Nr y0.na y0.b6 y0.hs y0.se y0.lk
abbrev bn(y0:l4)(p7:List s6):V:=NT y0.na y0.re y0.kn y0.gr.na y0.gr.ru y0.gr.wa y0.tr p7
theorem Mj(H:List BL)(a:BL):(hE (H++[a])).length=(hE H).length+(if a∈H then 0 else 1):=by
 rw[<- Cg,xa,Bf];by_cases h:a∈H;rw[if_pos h,if_pos h,if_neg Zad];rfl;rw[if_neg h,if_neg h,if_pos rfl]
theorem Hu(H:List BL):(hE H).length=H.length↔H.Nodup:=by
 have key:∀ n,∀ H:List BL,H.length=n->(hE H).length<=H.length/\((hE H).length=H.length↔H.Nodup):=by
  intro n;induction n with
  | zero=>
    intro H h;obtain rfl:=Za5 h;exact⟨Zbc _,by simp[hE]⟩
  | succ n ih=>
    intro H h;obtain⟨L,a,rfl⟩:∃ L a,H=L++[a]:=⟨H.dropLast,H.getLast (by intro c;rw[c]at h;cases h),(List.dropLast_concat_getLast _).symm⟩;simp only[Zap,Zar,Zau]at h;obtain⟨h1,h2⟩:=ih L Zac;rw[Mj];simp only[Zap,Zar,Zau];rw[List.nodup_append];by_cases c:a∈L;rw[if_pos c];exact⟨Zac,Zac,fun hn=>absurd rfl (hn.2.2 a c a Zad)⟩;rw[if_neg c];refine⟨Zac,fun e=>⟨h2.1 Zac,Zad,fun x hx y hy=>?_⟩,fun hn=>by have:=h2.2 hn.1;omega⟩;rintro rfl;exact c (by simpa using(Zav.1 hy) ▸ hx)
 exact(key _ H rfl).2
theorem qv{α:Type}{p:α->Bool}{d:α}{l:List α}(h:∀ j,j<l.length->p (l.getD j d)=true):l.all p=true:=by
 rw[Za2];intro x hx;obtain⟨j,hj,rfl⟩:=Zbg.1 hx;have:=h j hj
 rwa [Zam,Zat hj]at this
theorem uT{α:Type}{p:α->Bool}{d:α}{l:List α}{i:Nat}(hi:i<l.length)(h:p (l.getD i d)=false):l.all p=false:=by
 rw[Zam,Zat hi]at h;rw[Bool.eq_false_iff];intro c;rw[Za2]at c;have:=c _ (List.getElem_mem hi);simp only[Option.getD_some]at h;rw[h]at this;cases this
theorem ly{l:List BL}{i:Nat}(h:i<l.length):l.getD i []∈l:=by
 rw[Zam,Zat h];exact List.getElem_mem h
theorem aM{α:Type}{l:List α}{d:α}{i:Nat}(h:i<l.length):l.getD i d∈l:=by
 rw[Zam,Zat h];exact List.getElem_mem h
theorem Ev{l:List BL}(h:60<(l.length:Int)\/¬ l.Nodup):dL l=false:=by
 unfold dL;rcases h with h | h;rw[decide_eq_false Zac];rfl;rw[decide_eq_false h];simp
theorem DO{l:List BL}{i:Nat}(hi:i<l.length)(h:ay (l.getD i [])=false):dL l=false:=by
 unfold dL;rw[uT hi h];simp
theorem Ax{l:List BL}(h:(l.length:Int)<=60/\l.Nodup)(h2:∀ j,j<l.length->ay (l.getD j [])=true):dL l=true:=by
 unfold dL;rw[qv h2,decide_eq_true h.2,decide_eq_true Zac];rfl
def mY(lk:List r4)(b6:Int)(i:Nat):Bool:=decide ((if i=0 then 0 else (lk.getD (i-1) x8).ti)<=(lk.getD i x8).ti)&&decide ((lk.getD i x8).ti<=b6)&&A5 (lk.getD i x8).ki 0 3&&ay (lk.getD i x8).ad
theorem Du{lk:List r4}{b6:Int}(h:400<(lk.length:Int)):dz lk b6=false:=by
 unfold dz;rw[decide_eq_false Zac];rfl
theorem uQ{lk:List r4}{b6:Int}{i:Nat}(hi:i<lk.length)(h:mY lk b6 i=false):dz lk b6=false:=by
 unfold dz;rw[Bool.and_eq_false_iff];right;rw[Bool.eq_false_iff];intro c;rw[Za2]at c;have:=c i (List.mem_range.2 hi);unfold mY at h;rw[h]at this;cases this
theorem xt{lk:List r4}{b6:Int}(h:(lk.length:Int)<=400)(h2:∀ j,j<lk.length->mY lk b6 j=true):dz lk b6=true:=by
 unfold dz;rw[decide_eq_true Zac,Bool.true_and,Za2];exact fun i hi=>h2 i (List.mem_range.1 hi)
theorem LG{lk:List r4}{b6 la:Int}{i:Nat}(h2:la=if i=0 then 0 else (lk.getD (i-1) x8).ti)(h3:A5 (lk.getD i x8).ti la b6=true/\A5 (lk.getD i x8).ki 0 3=true)(h4:ay (lk.getD i x8).ad=true):mY lk b6 i=true:=by
 unfold mY;rw[<- h2,h3.2,h4];have:=h3.1;unfold A5 at this;rw[Zbk]at this;rw[decide_eq_true this.1,decide_eq_true this.2];rfl
theorem Jp{lk:List r4}{b6 la:Int}{i:Nat}(h2:la=if i=0 then 0 else (lk.getD (i-1) x8).ti)(h3:A5 (lk.getD i x8).ti la b6=false\/A5 (lk.getD i x8).ki 0 3=false):mY lk b6 i=false:=by
 unfold mY;rw[<- h2];rcases h3 with h | h;unfold A5 at h;rw[Bool.decide_and]at h;rw[h];rfl;rw[h];simp
theorem Ks{lk:List r4}{b6:Int}{i:Nat}(h:ay (lk.getD i x8).ad=false):mY lk b6 i=false:=by
 unfold mY;rw[h];simp
theorem Dl{l:List BL}{n:BL}(h:(l.length:Int)=1/\l.getD 0 []=n):l=[n]:=by
 obtain⟨h1,h2⟩:=h
 match l,h1 with
 | [x],_=>rw[<- h2];rfl
theorem Jw{h:l4}{n:BL}(hb:(cZ h.na=false\/A5 h.re 0 5100=false)\/A5 h.tr 0 2=false):cU h n=false:=by
 unfold cU;rcases hb with (e | e) | e <;> rw[e] <;> simp
theorem JP{h:l4}{n:BL}(hb: ¬ (h.gr.na.length:Int)=1\/¬ h.gr.na.getD 0 []=n):cU h n=false:=by
 unfold cU;rw[show (h.gr.na==[n])=false from by rw[beq_eq_false_iff_ne];intro c;rw[c]at hb;simp at hb];simp
theorem Kg{h:l4}{n:BL}(h1:(cZ h.na=true/\A5 h.re 0 5100=true)/\A5 h.tr 0 2=true)(h2:(h.gr.na.length:Int)=1/\h.gr.na.getD 0 []=n)(h3:h.kn=false):cU h n=(o4 (h.gr.ru.length:Int) 0&&o4 (h.gr.wa:Int) 0):=by
 unfold cU;rw[h1.1.1,h1.1.2,h1.2,Dl h2,h3];rw[Za6];simp
theorem Jy{h:l4}{n:BL}(h1:(cZ h.na=true/\A5 h.re 0 5100=true)/\A5 h.tr 0 2=true)(h2:(h.gr.na.length:Int)=1/\h.gr.na.getD 0 []=n)(h3:h.kn=true):cU h n=((E2 (h.gr.ru.length:Int) 40&&(h.gr.ru.all fun r=>bc r.path))&&A5 (h.gr.wa:Int) 0 20):=by
 unfold cU;rw[h1.1.1,h1.1.2,h1.2,Dl h2,h3];simp;congr 2;rw[Za6];simp;omega
def Tz(h:l4)(se:List BL)(it:s6):Bool:=ay it.ad&&(aG it.ad==h.na)&&se.contains it.ad&&A5 it.tr 0 2
theorem NR{h:l4}{se:List BL}{it:s6}(h1:((aU it.ad).isSome=true/\(oA (aU it.ad)).j8=h.na)/\se.contains it.ad=true)(h2:A5 it.tr 0 2=true):Tz h se it=true:=by
 unfold Tz aG;have h3:=h1.1.1;rw[hZ]at h3;have h4:=h1.1.2;rw[show aU it.ad=aO it.ad from if_pos h3]at h4;rw[h3,h4,h1.2,h2];simp
theorem KV{h:l4}{se:List BL}{it:s6}(h1:((aU it.ad).isSome=false\/¬ (oA (aU it.ad)).j8=h.na)\/se.contains it.ad=false):Tz h se it=false:=by
 unfold Tz aG;by_cases h3:ay it.ad=true;rw[hZ,show aU it.ad=aO it.ad from if_pos h3]at h1;rcases h1 with (e | e) | e;rw[e]at h3;cases h3;rw[beq_eq_false_iff_ne.2 e];simp;rw[e];simp;rw[Bool.not_eq_true]at h3;rw[h3];simp
theorem LY{h:l4}{se:List BL}{it:s6}(h1:A5 it.tr 0 2=false):Tz h se it=false:=by
 unfold Tz;rw[h1];simp
theorem Fk{h:l4}{se:List BL}(e:(se.length:Int)<(h.td.length:Int)):bW h se=false:=by
 unfold bW;rw[decide_eq_false Zac];rfl
theorem xF{h:l4}{se:List BL}{i:Nat}(hi:i<h.td.length)(e:Tz h se (h.td.getD i j9)=false):bW h se=false:=by
 show (decide (h.td.length<=se.length)&&h.td.all (Tz h se)&&decide (h.td.map (·.ad)).Nodup)=false;rw[uT (d:=j9) hi e];simp
theorem EV{h:l4}{se:List BL}(e:(h.td.length:Int)<=(se.length:Int))(e2:∀ j,j<h.td.length->Tz h se (h.td.getD j j9)=true):bW h se=decide (h.td.map (·.ad)).Nodup:=by
 show (decide (h.td.length<=se.length)&&h.td.all (Tz h se)&&decide (h.td.map (·.ad)).Nodup)=_;rw[qv (d:=j9) e2,decide_eq_true Zac];simp
theorem GI{t:l5}(h:cC t.na=false\/A5 t.b6 0 5000=false):aE t=false:=by
 unfold aE;rcases h with e | e <;> rw[e] <;> simp
theorem GM{t:l5}(h:dL t.se=false\/dz t.lk t.b6=false):aE t=false:=by
 unfold aE;rcases h with e | e <;> rw[e] <;> simp
theorem Hs{t:l5}{i:Nat}(hi:i<t.hs.length)(h:cU (t.hs.getD i e9) t.na=false\/bW (t.hs.getD i e9) t.se=false):aE t=false:=by
 unfold aE;rw[uT (p:=fun h=>cU h t.na&&bW h t.se) (d:=e9) hi (by rcases h with e | e <;> rw[e] <;> simp)];simp
theorem Gp{t:l5}(h1:cC t.na=true/\A5 t.b6 0 5000=true)(h2:dL t.se=true/\dz t.lk t.b6=true)(h3:∀ j,j<t.hs.length->(cU (t.hs.getD j e9) t.na&&bW (t.hs.getD j e9) t.se)=true):aE t=decide (t.hs.map (·.na)).Nodup:=by
 unfold aE;rw[h1.1,h1.2,h2.1,h2.2,qv (p:=fun h=>cU h t.na&&bW h t.se) (d:=e9) h3];simp
def dZ(a x b:Int):av:=.mk 30 [iV a,iV x,iV b] [] True (bV (A5 x a b)) [] (by
 intro _
 refine aq Tryz.func30
  (.q 1<|.q 9<|.nil)
  (Pk (E2 a x) ((E2 a x)==true) true/\Q (bV ((E2 a x)&&(E2 x b))) (bV (A5 x a b))) ?_
 refine ag ?_;unfold Q;refine Zbm bV ?_;unfold A5;exact(Bool.decide_and ..).symm)
def jV(l:List BL):av:=.mk 41 [ar l] [] (l.length<=1000000) (bV (decide l.Nodup)) [] (by
 intro hl
 refine aq Tryz.func41
  (.q 1<|.cu ZD (fun g6=>.q 1<|.q 3<|.loop (Nat×Nat) (fun (i,gm)=>⟨[(0,ar l),(3,.om (hE (l.take i)) gm),(7,ar l),(8,iN l.length),(9,iN i)],[]⟩) (fun (i,gm)=>i<=l.length) (fun (i,gm)=>l.length-i) (fun (i,gm)=>.q 1<|.br (.r 3 [sV (l.getD i [])]<|.q 2<|.cu (lkO 3 (hE (l.take i)) (l.getD i []) (iN ((l.take i).count (l.getD i [])))) (fun _=>.q 1<|.cu (ZC 3 (hE (l.take i)) (l.getD i []) (.int .i64 ((((l.take i).count (l.getD i []))+1:Nat):Int))) (fun _=>.h (.m8 3 (.om (hE (l.take i++[l.getD i []])) gm))<|.q 2<|.nil))) (.q 1<|.cu (mlC 3) (fun _=>.q 4<|.nil)))))
  (True/\∀ g6:Nat,(∃ x:Nat×Nat,match x with | (j6,YL)=>(j6<=l.length)/\E (ar l)/\Q (.om [] g6) (.om (hE (l.take j6)) YL)/\E (ar l)/\Q (iN ((l.map sV).length)) (iN l.length)/\Q (iN 0) (iN j6)/\True)/\∀ x:Nat×Nat,match x with | (i,gm)=>(i<=l.length)->(fun v1:Int=>Br (r6 (i:Int) (l.length:Int)) (Ex (i:Int) (l.map sV) (sV (l.getD i []))/\True/\(((gm:Nat)=gm/\(hE (l.take i):List (BL×Value))=hE (l.take i))/\((sV (l.getD i []):V)=sV (l.getD i []))/\((∃ y,cD (hE (l.take i)) (l.getD i [])=some y/\(iN ((l.take i).count (l.getD i [])):V).val? =some y)\/(cD (hE (l.take i)) (l.getD i [])=none/\∃ y,(iN ((l.take i).count (l.getD i [])):V).val? =some y/\∀ w,(zeroValue 3).run Tryz.prog w=.ok y w)))/\∀ _:Unit,m5 ((((l.take i).count (l.getD i []):Nat):Int)+1)/\(((gm:Nat)=gm/\(hE (l.take i):List (BL×Value))=hE (l.take i))/\((sV (l.getD i []):V)=sV (l.getD i []))/\(iN (((l.take i).count (l.getD i []))+1):V).val? =some (.int .i64 v1))/\∀ _:Unit,((.om (fp (hE (l.take i)) (l.getD i []) (.int .i64 v1)) gm:V)=.om (hE (l.take i++[l.getD i []])) gm)/\m5 ((i:Int)+1)/\∃ x:Nat×Nat,match x with | (b7,YK)=>(b7<=l.length)/\(l.length-b7<l.length-i)/\E (ar l)/\Q (.om (hE (l.take i++[l.getD i []])) gm) (.om (hE (l.take b7)) YK)/\E (ar l)/\E (iN l.length)/\Q (iN (i+1)) (iN b7)/\True) (((gm:Nat)=gm)/\∀ _:Unit,Q (bV (o4 (((hE (l.take i)).length:Nat):Int) (((l.map sV).length:Nat):Int))) (bV (decide l.Nodup)))) ((((l.take i).count (l.getD i []))+1:Nat):Int)) ?_
 refine ag fun g6=>⟨⟨(0,g6),?_,rfl,Zah,rfl,Zah,ak⟩,?_⟩;simp;rintro⟨i,gm⟩ h1;refine bI (fun j7=>?_) fun j7=>?_;refine⟨Zcg,trivial,aQ (Lk (l.take i) (l.getD i [])),fun _=>⟨by have hc:(l.take i).count (l.getD i [])<=(l.take i).length:=List.count_le_length;simp only[List.length_take]at hc;omega,ak,fun _=>⟨Zbm (V.om · gm) (Cg (l.take i) (l.getD i [])),ag ⟨(i+1,gm),?_,?_,rfl,by rw[aW Zac []],ak⟩⟩⟩⟩;omega;exact Zak;refine⟨rfl,fun _=>?_⟩;rw[show i=l.length from Zac,Zaz (Zbc _)];refine Zbm bV ?_;rw[Za6];simp only[nb];rw[<- Hu];omega)
def zy(l:List BL):av:=.mk 37 [ar l] [] ((l.length<=100000)/\(∀ x,x∈l->x.length<=1000/\o8 x)) (bV (dL l)) [] (by
 rintro⟨hl,ha⟩
 refine aq Tryz.func37
  (.q 1<|.q 5<|.cg (jV l)<|.q 2<|.br (.q 1<|.nil) (.q 3<|.loop Nat (fun i=>⟨[(13,ar l),(14,iN l.length),(15,iN i)],[]⟩) (fun i=>i<=l.length/\∀ j,j<i->ay (l.getD j [])=true) (fun i=>l.length-i) (fun i=>.q 1<|.br (.r 3 [sV (l.getD i [])]<|.q 1<|.c (fL (l.getD i [])) []<|.q 1<|.br (.q 1<|.nil) (.q 2<|.nil)) (.q 1<|.nil))))
  ((fun (v2:Bool) (v1:Nat->Prop)=>(Gd (v2==false) (((l.length<=1000000))/\(jV l).sm)/\Pk v2 true (v2==false)/\Br (v2||(!(decide l.Nodup))) (Q (bV false) (bV (dL l))) ((∃ j6:Nat,(v1 j6)/\E (ar l)/\Q (iN ((l.map sV).length)) (iN l.length)/\Q (iN 0) (iN j6)/\True)/\∀ i:Nat,(v1 i)->Br (r6 (i:Int) (l.length:Int)) (Ex (i:Int) (l.map sV) (sV (l.getD i []))/\True/\(fL (l.getD i [])).sm/\(((l.getD i []).length<=1000000)/\(o8 (l.getD i [])))/\Br (!(ay (l.getD i []))) (Q (bV false) (bV (dL l))) (m5 ((i:Int)+1)/\∃ b7:Nat,(v1 b7)/\(l.length-b7<l.length-i)/\E (ar l)/\E (iN l.length)/\Q (iN (i+1)) (iN b7)/\True)) (Q (bV true) (bV (dL l)))))) (s7 (((l.map sV).length:Nat):Int) 60) (fun j6:Nat=>j6<=l.length/\∀ j,j<j6->ay (l.getD j [])=true)) ?_
 refine⟨fun hG=>⟨Zcr,rfl⟩,ag (bI (fun j7=>?_) fun j7=>?_)⟩;rw[Ev j7];refine⟨⟨0,?_,rfl,Zah,ak⟩,?_⟩;simp;rintro i ⟨h1,h2⟩;refine bI (fun l3=>?_) fun l3=>?_;have L':=ha _ (ly (show i<l.length by omega));refine⟨Zcg,trivial,rfl,ag (L'.2),bI (fun m7=>?_) fun m7=>?_⟩;rw[DO (i:=i) Zac Zdb];refine ag ⟨i+1,?_,?_,ak⟩;exact⟨Zac,Zdl⟩;exact Zak;rw[Ax j7 (fun j hj=>h2 j Zac)])
def xL(rs:List r7):av:=.mk 70 [dk rs] [] ((rs.length<=100000)/\(∀ i,(rs.getD i ⟨false,[]⟩).path.length<=1000000)) (bV (rs.all fun r=>bc r.path)) [] (by
 rintro⟨hl,ha⟩
 refine aq Tryz.func70
  (.q 1<|.q 3<|.loop Nat (fun i=>⟨[(5,dk rs),(6,iN rs.length),(7,iN i)],[]⟩) (fun i=>i<=rs.length/\∀ j,j<i->bc (rs.getD j ⟨false,[]⟩).path=true) (fun i=>rs.length-i) (fun i=>.q 1<|.br (.r 2 [eD ((rs.getD i (⟨false,[]⟩:r7)).C3) ((rs.getD i (⟨false,[]⟩:r7)).path)]<|.al pR (fun g4=>.st none<|.r 2 [.b9]<|.c (kj ((rs.getD i (⟨false,[]⟩:r7)).path)) []<|.q 1<|.br (.q 1<|.nil) (.q 2<|.nil))) (.q 1<|.nil)))
  ((fun (v2:r7) (v1:Nat->Prop)=>((∃ j6:Nat,(v1 j6)/\E (dk rs)/\Q (iN ((rs.map au).length)) (iN rs.length)/\Q (iN 0) (iN j6)/\True)/\∀ i:Nat,(v1 i)->Br (r6 (i:Int) (rs.length:Int)) (Ex (i:Int) (rs.map au) (eD ((rs.getD i v2).C3) ((rs.getD i v2).path))/\True/\∀ g4:Nat,Z g4 0/\Z g4 1/\(kj ((rs.getD i v2).path)).sm/\((((rs.getD i v2).path).length<=4611686018427387904))/\Br (!(dQ ((rs.getD i v2).path))) (Q (bV false) (bV (rs.all fun r=>bc r.path))) (m5 ((i:Int)+1)/\∃ b7:Nat,(v1 b7)/\(rs.length-b7<rs.length-i)/\E (dk rs)/\E (iN rs.length)/\Q (iN (i+1)) (iN b7)/\True)) (Q (bV true) (bV (rs.all fun r=>bc r.path))))) (⟨false,[]⟩:r7) (fun j6:Nat=>j6<=rs.length/\∀ j,j<j6->bc (rs.getD j ⟨false,[]⟩).path=true)) ?_
 refine⟨⟨0,?_,rfl,Zah,ak⟩,?_⟩;simp;rintro i ⟨h1,h2⟩;refine bI (fun j7=>?_) fun j7=>?_;refine⟨Zcs,ag fun g4=>⟨rfl,rfl,rfl,by have:=ha i;omega,bI (fun l3=>?_) fun l3=>?_⟩⟩;unfold Q;refine Zbm bV ?_;symm;exact uT (d:=⟨false,[]⟩) (i:=i) Zac (by rw[ph]at l3;exact l3);refine ag ⟨i+1,?_,?_,ak⟩;exact⟨Zac,bm h2 (by rw[ph]at l3;exact l3)⟩;exact Zak;unfold Q;refine Zbm bV ?_;symm;exact qv (d:=⟨false,[]⟩) (fun j hj=>h2 j Zac))
abbrev jm(lk:List r4)(b6:Int)(i:Nat)(la:Int):Prop:=i<=lk.length/\la=(if i=0 then 0 else (lk.getD (i-1) x8).ti)/\∀ j,j<i->mY lk b6 j=true
def xG(lk:List r4)(b6:Int):av:=.mk 38 [fw lk,iV b6] [] ((lk.length<=100000)/\(∀ x,x∈lk->x.ad.length<=1000/\o8 x.ad)) (bV (dz lk b6)) [] (by
 rintro⟨hl,ha⟩
 refine aq Tryz.func38
  (.q 1<|.q 3<|.br (.q 1<|.nil) (.q 1<|.q 3<|.loop (Nat×Int) (fun (i,la)=>⟨[(1,iV b6),(5,iV la),(11,fw lk),(12,iN lk.length),(13,iN i)],[]⟩) (fun (i,la)=>jm lk b6 i la) (fun (i,la)=>lk.length-i) (fun (i,la)=>.q 1<|.br (.r 2 [fH ((lk.getD i x8).ti) ((lk.getD i x8).ad) ((lk.getD i x8).ki)]<|.al wq (fun g7=>.st none<|.r 4 [.b9]<|.c (dZ la ((lk.getD i x8).ti) b6) []<|.r 4 [.b9]<|.cg (dZ (0:Int) ((lk.getD i x8).ki) (3:Int))<|.q 2<|.br (.q 1<|.nil) (.r 2 [.b9]<|.c (fL ((lk.getD i x8).ad)) []<|.q 1<|.br (.q 1<|.nil) (.r 3 [.b9]<|.q 2<|.nil)))) (.q 1<|.nil))))
  (Br (s7 (((lk.map aP).length:Nat):Int) 400) (Q (bV false) (bV (dz lk b6))) ((∃ x:Nat×Int,match x with | (j6,VG)=>(jm lk b6 j6 VG)/\E (iV b6)/\Q (iN 0) (iV VG)/\E (fw lk)/\Q (iN ((lk.map aP).length)) (iN lk.length)/\Q (iN 0) (iN j6)/\True)/\∀ x:Nat×Int,match x with | (i,la)=>(jm lk b6 i la)->(fun v1:Bool=>Br (r6 (i:Int) (lk.length:Int)) (Ex (i:Int) (lk.map aP) (fH ((lk.getD i x8).ti) ((lk.getD i x8).ad) ((lk.getD i x8).ki))/\True/\∀ g7:Nat,Z g7 0/\Z g7 0/\(dZ la ((lk.getD i x8).ti) b6).sm/\(True)/\Gd (v1==false) (Z g7 2)/\Gd (v1==false) ((True)/\(dZ (0:Int) ((lk.getD i x8).ki) (3:Int)).sm)/\Pk v1 true (v1==false)/\Br (v1||(!(A5 ((lk.getD i x8).ki) (0:Int) (3:Int)))) (Q (bV false) (bV (dz lk b6))) (Z g7 1/\(fL ((lk.getD i x8).ad)).sm/\((((lk.getD i x8).ad).length<=1000000)/\(o8 ((lk.getD i x8).ad)))/\Br (!(ay ((lk.getD i x8).ad))) (Q (bV false) (bV (dz lk b6))) (Z g7 0/\m5 ((i:Int)+1)/\∃ x:Nat×Int,match x with | (b7,VF)=>(jm lk b6 b7 VF)/\(lk.length-b7<lk.length-i)/\E (iV b6)/\Q (iV ((lk.getD i x8).ti)) (iV VF)/\E (fw lk)/\E (iN lk.length)/\Q (iN (i+1)) (iN b7)/\True))) (Q (bV true) (bV (dz lk b6)))) (!(A5 ((lk.getD i x8).ti) la b6)))) ?_
 refine bI (fun j7=>?_) fun j7=>?_;rw[Du j7];refine⟨⟨(0,0),?_,rfl,Zah,rfl,Zah,ak⟩,?_⟩;unfold jm;simp;rintro⟨i,la⟩ ⟨h1,h2,h3⟩;refine bI (fun l3=>?_) fun l3=>?_;have L':=ha _ (aM (d:=x8) (show i<lk.length by omega));refine⟨ag (af (d:=x8) Zac),ag fun g7=>za (bI (fun m7=>?_) fun m7=>?_)⟩;rw[uQ (i:=i) Zac (Jp h2 m7)];refine⟨rfl,rfl,ag (L'.2),bI (fun x2=>?_) fun x2=>?_⟩;rw[uQ (i:=i) Zac (Ks (by simpa using x2))];refine aQ ⟨(i+1,(lk.getD i x8).ti),?_,?_,ak⟩;unfold jm;exact⟨Zac,Zad,bm h3 (LG h2 m7 (by simpa using x2))⟩;exact Zak;rw[xt j7 (fun j hj=>h3 j Zac)])
def xq(y:l4)(n:BL):av:=.mk 39 [bn y y.td,sV n] [] (N6 y) (bV (cU y n)) [] (by
 intro hh
 refine aq Tryz.func39
  (.bx (fun g2=>.q 1<|.r 2 [.b9]<|.c (oe y.na) []<|.r 4 [.b9]<|.cg (dZ (0:Int) y.re (5100:Int))<|.r 5 [.b9]<|.cg (dZ (0:Int) y.tr (2:Int))<|.q 2<|.br (.q 1<|.nil) (.r 2 [.b9]<|.al fB (fun g5=>.st none<|.r 12 [.b9,.b9,sV (y.gr.na.getD 0 [])]<|.br (.q 1<|.nil) (.r 3 [.b9]<|.br (.r 10 [.b9,.b9]<|.nil) (.r 7 [.b9,.b9]<|.cg (xL y.gr.ru)<|.r 4 [.b9]<|.cg (dZ (0:Int) (y.gr.wa:Int) (20:Int))<|.q 2<|.nil))))))
  ((fun (v4 v3 v2:Bool) (v1:Int)=>(∀ g2:Nat,Z g2 0/\(oe y.na).sm/\((y.na.length<=4611686018427387904))/\Gd (v4==false) (Z g2 1)/\Gd (v4==false) ((True)/\(dZ (0:Int) y.re (5100:Int)).sm)/\Pk v4 true (v4==false)/\Gd ((v4||v3)==false) (Z g2 6)/\Gd ((v4||v3)==false) ((True)/\(dZ (0:Int) y.tr (2:Int)).sm)/\Pk (v4||v3) true ((v4||v3)==false)/\Br ((v4||v3)||(!(A5 y.tr (0:Int) (2:Int)))) (Q (bV false) (bV (cU y n))) (Z g2 3/\∀ g5:Nat,Z g5 0/\Z g5 0/\Gd (v2==false) (Z g5 0)/\Gd (v2==false) (Ex 0 (y.gr.na.map sV) (sV (y.gr.na.getD 0 [])))/\Gd (v2==false) True/\Pk v2 true (v2==false)/\Br (v2||(!((y.gr.na.getD 0 [])==n))) (Q (bV false) (bV (cU y n))) (Z g2 2/\Br (!y.kn) (Z g5 1/\Gd ((o4 v1 0)==true) (Z g5 2)/\Pk (o4 v1 0) ((o4 v1 0)==true) true/\Q (bV ((o4 v1 0)&&(o4 (y.gr.wa:Int) 0))) (bV (cU y n))) (Z g5 1/\Gd ((E2 v1 40)==true) (Z g5 1)/\Gd ((E2 v1 40)==true) (((y.gr.ru.length<=100000)/\(∀ i,(y.gr.ru.getD i ⟨false,[]⟩).path.length<=1000000))/\(xL y.gr.ru).sm)/\Pk (E2 v1 40) ((E2 v1 40)==true) true/\Gd (((E2 v1 40)&&(y.gr.ru.all fun r=>bc r.path))==true) (Z g5 2)/\Gd (((E2 v1 40)&&(y.gr.ru.all fun r=>bc r.path))==true) ((True)/\(dZ (0:Int) (y.gr.wa:Int) (20:Int)).sm)/\Pk ((E2 v1 40)&&(y.gr.ru.all fun r=>bc r.path)) (((E2 v1 40)&&(y.gr.ru.all fun r=>bc r.path))==true) true/\Q (bV (((E2 v1 40)&&(y.gr.ru.all fun r=>bc r.path))&&(A5 (y.gr.wa:Int) (0:Int) (20:Int)))) (bV (cU y n))))))) (!(cZ y.na)) (!(A5 y.re (0:Int) (5100:Int))) (D1 (((y.gr.na.map sV).length:Nat):Int) 1) (((y.gr.ru.map au).length:Nat):Int)) ?_
 intro g2;refine⟨rfl,rfl,by have:=hh.n;omega,lu (bI (fun j7=>?_) fun j7=>?_)⟩;rw[Jw j7];refine⟨rfl,fun g5=>aX ⟨fun hG=>by(try simp only[nb]at hG);exact⟨Zac,af (d:=[]) Zac⟩,aQ (bI (fun l3=>?_) fun l3=>?_)⟩⟩;rw[JP l3];refine⟨rfl,bI (fun m7=>?_) fun m7=>?_⟩;refine aX ?_;rw[Zay,Kg j7 l3 m7];refine aQ ⟨fun hG=>⟨⟨by(try simp only[nb]at hG);have:=hh.r;omega,fun i=>by have:=hh.rp i;omega⟩,rfl⟩,cF ?_⟩;rw[Zay,Jy j7 l3 m7])
abbrev kq(y:l4)(se:List BL)(i:Nat)(o:List BL)(g f k:Nat):Prop:=i<=y.td.length/\o=(y.td.take i).map (·.ad)/\∀ j,j<i->Tz y se (y.td.getD j j9)=true
def Az(y:l4)(se:List BL):av:=.mk 40 [bn y y.td,ar se] [] ((N6 y)/\(se.length<=100000)) (bV (bW y se)) [] (by
 rintro⟨hh,hs⟩;have VO:=hh.t
 refine aq Tryz.func40
  (.bx (fun g2=>.q 1<|.r 6 [.b9]<|.br (.q 1<|.nil) (.q 1<|.r 4 [.b9]<|.h (.I7 5 1)<|.loop (Nat×(List BL)×Nat×Nat×Nat) (fun (i,o,g,f,k)=>⟨[(1,ar se),(2,kp 2 g2),(5,.own 1 (o.map sV) g f k),(17,iv y.td),(18,iN y.td.length),(19,iN i)],[(2,(g2,bn y y.td))]⟩) (fun (i,o,g,f,k)=>kq y se i o g f k) (fun (i,o,g,f,k)=>y.td.length-i) (fun (i,o,g,f,k)=>.q 1<|.br (.r 2 [cv ((y.td.getD i j9).ad) ((y.td.getD i j9).tr)]<|.al lY (fun g7=>.st none<|.r 2 [.b9]<|.c (dP ((y.td.getD i j9).ad)) []<|.q 3<|.al cO (fun g8=>.st none<|.q 1<|.r 13 [.b9,.b9,.b9]<|.cg (sF se ((y.td.getD i j9).ad))<|.q 2<|.br (.q 1<|.nil) (.r 2 [.b9]<|.c (dZ (0:Int) ((y.td.getD i j9).tr) (2:Int)) []<|.q 1<|.br (.q 1<|.nil) (.r 3 [.b9]<|.bs<|.ap (fun V6 Vt Wf=>.h (.m8 53 (.own 1 ((o++[(y.td.getD i j9).ad]).map sV) V6 Vt Wf))<|.q 1<|.q 2<|.nil)))))) (.h (.fz 5)<|.h (.m8 5 (ar o))<|.q 1<|.c (jV o) []<|.q 1<|.nil)))))
  (∀ g2:Nat,Z g2 7/\Br (s7 (((y.td.map aj).length:Nat):Int) (((se.map sV).length:Nat):Int)) (Q (bV false) (bV (bW y se))) (Z g2 7/\(∃ x:Nat×(List BL)×Nat×Nat×Nat,match x with | (j6,s4,x9,z8,n7)=>(kq y se j6 s4 x9 z8 n7)/\E (ar se)/\E (kp 2 g2)/\Q (.own 1 ([].map sV) 0 0 0) (.own 1 (s4.map sV) x9 z8 n7)/\E (iv y.td)/\Q (iN ((y.td.map aj).length)) (iN y.td.length)/\Q (iN 0) (iN j6)/\Er g2 (bn y y.td)/\True)/\∀ x:Nat×(List BL)×Nat×Nat×Nat,match x with | (i,o,g,f,k)=>(kq y se i o g f k)->(fun v1:s6=>(fun (v4:List V) (v3 v2:Bool)=>Br (r6 (i:Int) (y.td.length:Int)) (Ex (i:Int) (y.td.map aj) (cv (v1.ad) (v1.tr))/\True/\∀ g7:Nat,Z g7 0/\Z g7 0/\(dP (v1.ad)).sm/\(((v1.ad).length<=1000000)/\(o8 (v1.ad)))/\∀ g8:Nat,Z g8 0/\Gd (v2==false) (Z g8 0)/\Gd (v2==false) (Z g2 0)/\Pk v2 true (v2==false)/\Gd ((v2||v3)==false) (Z g7 0)/\Gd ((v2||v3)==false) (((se.length<=1000000))/\(sF se (v1.ad)).sm)/\Pk (v2||v3) true ((v2||v3)==false)/\Br ((v2||v3)||(!(se.contains (v1.ad)))) (Q (bV false) (bV (bW y se))) (Z g7 1/\(dZ (0:Int) (v1.tr) (2:Int)).sm/\(True)/\Br (!(A5 (v1.tr) (0:Int) (2:Int))) (Q (bV false) (bV (bW y se))) (Z g7 0/\((1,1,g,f,k,(o.map sV).length)=(1,1,g,f,k,(o.map sV).length))/\(True)/\(V.ax v4=false)/\(aS 1 v4)/\(((o.map sV).length+v4.length)*16<=140737488355328)/\∀ V6 Vt Wf:Nat,((.own 1 ((o.map sV)++v4) V6 Vt Wf:V)=.own 1 ((o++[v1.ad]).map sV) V6 Vt Wf)/\m5 ((i:Int)+1)/\∃ x:Nat×(List BL)×Nat×Nat×Nat,match x with | (b7,l6,o9,n9,k₂)=>(kq y se b7 l6 o9 n9 k₂)/\(y.td.length-b7<y.td.length-i)/\E (ar se)/\E (kp 2 g2)/\Q (.own 1 ((o++[v1.ad]).map sV) V6 Vt Wf) (.own 1 (l6.map sV) o9 n9 k₂)/\E (iv y.td)/\E (iN y.td.length)/\Q (iN (i+1)) (iN b7)/\Er g2 (bn y y.td)/\True))) (((.sl false (V.E4 (o.map sV)):V)=ar o)/\(jV o).sm/\((o.length<=1000000))/\Q (bV (decide o.Nodup)) (bV (bW y se)))) ([sV (v1.ad)]:List V) (!(((oA (aU (v1.ad))).j8)==y.na)) (!((aU (v1.ad)).isSome))) (y.td.getD i j9))) ?_
 intro g2;refine⟨rfl,bI (fun j7=>?_) fun j7=>?_⟩;rw[Fk j7];refine⟨rfl,⟨⟨(0,[],0,0,0),?_,cF ⟨Zah,ak⟩⟩,?_⟩⟩;unfold kq;simp;rintro⟨i,o,g,f,k⟩ ⟨h1,h2,h3⟩;refine bI (fun l3=>?_) fun l3=>?_;have L':=hh.ta _ (aM (d:=j9) (show i<y.td.length by omega));have VV:o.length=i:=Zd2
 refine⟨ag (af (d:=j9) Zac),ag fun g7=>⟨rfl,rfl,rfl,ag (L'.2),fun g8=>ej ⟨fun hG=>⟨Zcr,rfl⟩,ag (bI (fun m7=>?_) fun m7=>?_)⟩⟩⟩;rw[xF (i:=i) Zac (KV m7)];refine aX (bI (fun x2=>?_) fun x2=>?_);rw[xF (i:=i) Zac (LY x2)];refine ej ⟨Zal,fun V6 Vt Wf=>⟨Zbm (V.own 1 · V6 Vt Wf) Zad,ag ⟨(i+1,o++[(y.td.getD i j9).ad],V6,Vt,Wf),?_,?_,ak⟩⟩⟩;unfold kq;exact⟨Zac,by rw[aW Zac j9,Zbb,<- h2];rfl,bm h3 (NR m7 x2)⟩;exact Zak;refine⟨Zcf,rfl,Zd2,?_⟩;rw[EV j7 (fun j hj=>h3 j Zac),h2,Zaz Zac])
abbrev kc(t:l5)(i:Nat)(o:List BL)(g f k:Nat):Prop:=i<=t.hs.length/\o=(t.hs.take i).map (·.na)/\∀ j,j<i->(cU (t.hs.getD j e9) t.na&&bW (t.hs.getD j e9) t.se)=true
def jc(t:l5):av:=.mk 11 [aD t] [] (x3 t) (bV (aE t)) [] (by
 intro ht;have WZ:=ht.h
 refine aq Tryz.func11
  (.bx (fun g1=>.q 1<|.r 2 [.b9]<|.c (pP t.na) []<|.r 4 [.b9]<|.cg (dZ (0:Int) t.b6 (5000:Int))<|.q 2<|.br (.q 1<|.nil) (.r 2 [.b9]<|.c (zy t.se) []<|.r 6 [.b9,.b9]<|.cg (xG t.lk t.b6)<|.q 2<|.br (.q 1<|.nil) (.q 1<|.r 4 [.b9]<|.h (.I7 3 1)<|.loop (Nat×(List BL)×Nat×Nat×Nat) (fun (i,o,g,f,k)=>⟨[(1,kp 1 g1),(3,.own 1 (o.map sV) g f k),(29,mz t.hs),(30,iN t.hs.length),(31,iN i)],[(1,(g1,aD t))]⟩) (fun (i,o,g,f,k)=>kc t i o g f k) (fun (i,o,g,f,k)=>t.hs.length-i) (fun (i,o,g,f,k)=>.q 1<|.br (.r 2 [bn (t.hs.getD i e9) ((t.hs.getD i e9).td)]<|.al tU (fun g5=>.st none<|.r 3 [.b9,.b9]<|.c (xq (t.hs.getD i e9) t.na) []<|.r 5 [.b9,.b9]<|.cg (Az (t.hs.getD i e9) t.se)<|.q 2<|.br (.q 1<|.nil) (.r 3 [.b9]<|.bs<|.ap (fun V7 Vv Wg=>.h (.m8 51 (.own 1 ((o++[(t.hs.getD i e9).na]).map sV) V7 Vv Wg))<|.q 1<|.q 2<|.nil)))) (.h (.fz 3)<|.h (.m8 3 (ar o))<|.q 1<|.c (jV o) []<|.q 1<|.nil))))))
  ((fun (v2 v1:Bool)=>(∀ g1:Nat,Z g1 0/\(pP t.na).sm/\((t.na.length<=4611686018427387904))/\Gd (v2==false) (Z g1 1)/\Gd (v2==false) ((True)/\(dZ (0:Int) t.b6 (5000:Int)).sm)/\Pk v2 true (v2==false)/\Br (v2||(!(A5 t.b6 (0:Int) (5000:Int)))) (Q (bV false) (bV (aE t))) (Z g1 3/\(zy t.se).sm/\((t.se.length<=100000)/\(∀ x,x∈t.se->x.length<=1000/\o8 x))/\Gd v1 (Z g1 4)/\Gd v1 (Z g1 1)/\Gd v1 (((t.lk.length<=100000)/\(∀ x,x∈t.lk->x.ad.length<=1000/\o8 x.ad))/\(xG t.lk t.b6).sm)/\Pk (!(dL t.se)) true v1/\Br ((!(dL t.se))||(!(dz t.lk t.b6))) (Q (bV false) (bV (aE t))) (Z g1 2/\(∃ x:Nat×(List BL)×Nat×Nat×Nat,match x with | (j6,s4,x9,z8,n7)=>(kc t j6 s4 x9 z8 n7)/\E (kp 1 g1)/\Q (.own 1 ([].map sV) 0 0 0) (.own 1 (s4.map sV) x9 z8 n7)/\E (mz t.hs)/\Q (iN ((t.hs.map cy).length)) (iN t.hs.length)/\Q (iN 0) (iN j6)/\Er g1 (aD t)/\True)/\∀ x:Nat×(List BL)×Nat×Nat×Nat,match x with | (i,o,g,f,k)=>(kc t i o g f k)->(fun v3:l4=>(fun (v5:List V) (v4:Bool)=>Br (r6 (i:Int) (t.hs.length:Int)) (Ex (i:Int) (t.hs.map cy) (bn v3 (v3.td))/\True/\∀ g5:Nat,Z g5 0/\Z g5 0/\Z g1 0/\(xq v3 t.na).sm/\((N6 v3))/\Gd v4 (Z g5 0)/\Gd v4 (Z g1 3)/\Gd v4 (((N6 v3)/\(t.se.length<=100000))/\(Az v3 t.se).sm)/\Pk (!(cU v3 t.na)) true v4/\Br ((!(cU v3 t.na))||(!(bW v3 t.se))) (Q (bV false) (bV (aE t))) (Z g5 0/\((1,1,g,f,k,(o.map sV).length)=(1,1,g,f,k,(o.map sV).length))/\(True)/\(V.ax v5=false)/\(aS 1 v5)/\(((o.map sV).length+v5.length)*16<=140737488355328)/\∀ V7 Vv Wg:Nat,((.own 1 ((o.map sV)++v5) V7 Vv Wg:V)=.own 1 ((o++[v3.na]).map sV) V7 Vv Wg)/\m5 ((i:Int)+1)/\∃ x:Nat×(List BL)×Nat×Nat×Nat,match x with | (b7,l6,o9,n9,k₂)=>(kc t b7 l6 o9 n9 k₂)/\(t.hs.length-b7<t.hs.length-i)/\E (kp 1 g1)/\Q (.own 1 ((o++[v3.na]).map sV) V7 Vv Wg) (.own 1 (l6.map sV) o9 n9 k₂)/\E (mz t.hs)/\E (iN t.hs.length)/\Q (iN (i+1)) (iN b7)/\Er g1 (aD t)/\True)) (((.sl false (V.E4 (o.map sV)):V)=ar o)/\(jV o).sm/\((o.length<=1000000))/\Q (bV (decide o.Nodup)) (bV (aE t)))) ([sV (v3.na)]:List V) ((!(cU v3 t.na))==false)) (t.hs.getD i e9))))) (!(cC t.na)) ((!(dL t.se))==false)) ?_
 intro g1;refine⟨rfl,rfl,by have:=ht.n;omega,aX (bI (fun j7=>?_) fun j7=>?_)⟩;rw[GI j7];refine⟨rfl,rfl,⟨by have:=ht.s;omega,ht.sa⟩,aQ ⟨fun hG=>⟨⟨by(try simp only[nb]at hG);have:=ht.l;omega,ht.la⟩,rfl⟩,ag (bI (fun l3=>?_) fun l3=>?_)⟩⟩;rw[GM l3];refine⟨rfl,⟨⟨(0,[],0,0,0),?_,rfl,rfl,rfl,Zah,ak⟩,?_⟩⟩;unfold kc;simp;rintro⟨i,o,g,f,k⟩ ⟨h1,h2,h3⟩;refine bI (fun m7=>?_) fun m7=>?_;have L':=ht.ha _ (aM (d:=e9) (show i<t.hs.length by omega));have VV:o.length=i:=Zd2
 refine⟨ag (af (d:=e9) Zac),ag fun g5=>cF ⟨L',aQ ⟨fun hG=>⟨⟨L',by(try simp only[nb]at hG);have:=ht.s;omega⟩,rfl⟩,ag (bI (fun x2=>?_) fun x2=>?_)⟩⟩⟩;rw[Hs (i:=i) Zac x2];refine ej ⟨Zal,fun V7 Vv Wg=>⟨Zbm (V.own 1 · V7 Vv Wg) Zad,ag ⟨(i+1,o++[(t.hs.getD i e9).na],V7,Vv,Wg),?_,?_,ak⟩⟩⟩;unfold kc;exact⟨Zac,by rw[aW Zac e9,Zbb,<- h2];rfl,bm h3 (by rw[x2.1,x2.2];rfl)⟩;exact Zak;refine⟨Zcf,rfl,Zd2,?_⟩;rw[Gp j7 l3 (fun j hj=>h3 j Zac),h2,Zaz Zac])
theorem bq{g o f:Nat}{v:V}{vs:List V}{p:List Nat}(h:vs[f]? =some v):V.at g o (.agg vs) (f::p)=V.at g (o+V.ns (vs.take f)) v p:=by simp only[V.at,h]
section
variable {α:Type} {l:List α} {f:α->V} {e e':V} {r:List V} {i:Nat} {d:α}
theorem oq(h:i<=l.length):((l.take i).map f).length=i:=by rw[Zay,List.length_take];omega
theorem dj(h:i<=l.length):((l.take i).map f++e::r)[i]? =some e:=by
 rw[Za4 (by rw[oq h];omega),oq h,Nat.sub_self];rfl
theorem kV(h:i<=l.length):((l.take i).map f++e::r).set i e'=(l.take i).map f++e'::r:=by
 rw[List.set_append_right _ _ (by rw[oq h];omega),oq h,Nat.sub_self];rfl
theorem gP(h:i<l.length):l.map f=(l.take i).map f++f (l.getD i d)::(l.drop (i+1)).map f:=by
 have:l=l.take i++l.getD i d::l.drop (i+1):=by
  rw[Zam,Zat h];simp only[Option.getD_some];rw[List.getElem_cons_drop,List.take_append_drop]
 conv=>lhs;rw[this,Zbb,Zbe]
theorem splitN{y:α}(e:l.getD i d=y)(h:i<l.length):l.map f=(l.take i).map f++f y::(l.drop (i+1)).map f:=by rw[<- e];exact gP h
theorem eC{x:α}(h:i<l.length):(l.take i).map f++f x::(l.drop (i+1)).map f=(l.set i x).map f:=by
 rw[List.set_eq_take_append_cons_drop,if_pos h,Zbb,Zbe]
end
theorem aT{p:Prop}(h:p:=by repeat' (first | exact rfl | exact trivial | exact fun h=>h | exact fun hG=>rfl | exact fun hG=>trivial | exact fun hG=>⟨trivial,rfl⟩ | exact fun _=>rfl | exact fun _=>trivial | exact fun _ h=>h | exact⟨fun _=>rfl,fun h=>by rw[h] <;> rfl⟩ | exact⟨fun h=>by rw[h] <;> rfl,fun _=>rfl⟩ | exact fun hG=>⟨fun h=>by rw[h];exact(Zao _ _).mpr ⟨hG,rfl⟩,fun _=>rfl⟩ | exact fun hG=>⟨fun _=>rfl,fun h=>by rw[h];exact(Zao _ _).mpr ⟨hG,rfl⟩⟩ | exact(bq (f:=2) rfl).trans (aR (dj Zac) rfl) | exact(bq (f:=2) rfl).trans (aR (by rw[Zaw];exact dj Zac) rfl) | exact(bq (f:=1) rfl).trans ((bq (f:=2) rfl).trans (aR (dj Zac) rfl)) | exact(bq (f:=1) rfl).trans ((bq (f:=2) rfl).trans (aR (by rw[Zaw];exact dj Zac) rfl)) | exact nH (bB (dj Zac) (kV Zac)) | exact nH (bB (by rw[Zaw];exact dj Zac) (by rw[Zaw];exact kV Zac)) | exact Hf (nH (bB (dj Zac) (kV Zac))) | exact Hf (nH (bB (by rw[Zaw];exact dj Zac) (by rw[Zaw];exact kV Zac))) | exact Zbm (V.sl false) (aV (fun _=>rfl) _) | omega | refine And.intro ?_ ?_ | ((try simp only[Zay]at *);omega) | ((try simp only[Zay]at *);(try simp only[Zap,Zay,Zar,Zau,List.length_take,List.length_drop]);omega) | (simp[aS,V.n,V.ns]) | exact fun hG=>by(try simp only[nb]at hG);omega | exact fun hG=>by(try simp only[nb]at hG);(try simp only[Zay]at *);omega | exact fun hG=>by(try simp only[nb]at hG);(try simp only[Zay]at *);(try simp only[Zap,Zay,Zar,Zau,List.length_take,List.length_drop]);omega | (simp;omega) | assumption)):p:=h
theorem aJ{A Z:Prop}(z:Z)(a:A:=by exact aT):A/\Z:=⟨a,z⟩
theorem bL{A B Z:Prop}(z:Z)(a:A/\B:=by exact aT):A/\B/\Z:=⟨a.1,a.2,z⟩
theorem bN{A B C Z:Prop}(z:Z)(a:A/\B/\C:=by exact aT):A/\B/\C/\Z:=⟨a.1,a.2.1,a.2.2,z⟩
theorem cG{A B C D Z:Prop}(z:Z)(a:A/\B/\C/\D:=by exact aT):A/\B/\C/\D/\Z:=⟨a.1,a.2.1,a.2.2.1,a.2.2.2,z⟩
theorem dF{A B C D E Z:Prop}(z:Z)(a:A/\B/\C/\D/\E:=by exact aT):A/\B/\C/\D/\E/\Z:=⟨a.1,a.2.1,a.2.2.1,a.2.2.2.1,a.2.2.2.2,z⟩
theorem lv{A B C D E F Z:Prop}(z:Z)(a:A/\B/\C/\D/\E/\F:=by exact aT):A/\B/\C/\D/\E/\F/\Z:=⟨a.1,a.2.1,a.2.2.1,a.2.2.2.1,a.2.2.2.2.1,a.2.2.2.2.2,z⟩
theorem jD{A B C D E F G Z:Prop}(z:Z)(a:A/\B/\C/\D/\E/\F/\G:=by exact aT):A/\B/\C/\D/\E/\F/\G/\Z:=⟨a.1,a.2.1,a.2.2.1,a.2.2.2.1,a.2.2.2.2.1,a.2.2.2.2.2.1,a.2.2.2.2.2.2,z⟩
theorem dU{A B C D E F G H Z:Prop}(z:Z)(a:A/\B/\C/\D/\E/\F/\G/\H:=by exact aT):A/\B/\C/\D/\E/\F/\G/\H/\Z:=⟨a.1,a.2.1,a.2.2.1,a.2.2.2.1,a.2.2.2.2.1,a.2.2.2.2.2.1,a.2.2.2.2.2.2.1,a.2.2.2.2.2.2.2,z⟩
abbrev bR(p0:BL)(p1:Int)(p2:List l4)(p3:List BL)(p4:List r4):V:=.agg [sV p0,iV p1,.ow 8 (p2.map an),.ow 1 (p3.map sV),.ow 3 (p4.map aP)]
abbrev bh(p0:BL)(p1:Int)(p2:List l4)(p3 p4 p5:Nat)(p6:List BL)(p7:List r4):V:=.agg [sV p0,iV p1,.own 8 (p2.map an) p3 p4 p5,.ow 1 (p6.map sV),.ow 3 (p7.map aP)]
abbrev Iv(p0:BL)(p1:Int)(p2:List l4)(p3:Nat)(p4:BL)(p5:Int)(p6:Bool)(p7:List BL)(p8:List r7)(p9:Nat)(J9:Int)(I6 H2 G9:Nat)(G8:List BL)(G7:List r4):V:=.agg [sV p0,iV p1,.own 8 ((p2.take p3).map an++(.agg [sV p4,iV p5,bV p6,.agg [.sl false (p7.map sV),.sl false (p8.map au),iN p9],iV J9,.b9]:V)::(p2.drop (p3+1)).map an) I6 H2 G9,.ow 1 (G8.map sV),.ow 3 (G7.map aP)]
abbrev Ms(p0:BL)(p1:Int)(p2:List l4)(p3:Nat)(p4:BL)(p5:Int)(p6:Bool)(p7:List BL)(p8:List r7)(p9:Nat)(J9:Int)(I6:List s6)(H2 G9 G8:Nat)(G7:List BL)(J8:List r4):V:=.agg [sV p0,iV p1,.own 8 ((p2.take p3).map an++(.agg [sV p4,iV p5,bV p6,.agg [.sl false (p7.map sV),.sl false (p8.map au),iN p9],iV J9,.ow 2 (I6.map aj)]:V)::(p2.drop (p3+1)).map an) H2 G9 G8,.ow 1 (G7.map sV),.ow 3 (J8.map aP)]
abbrev MA(p0:BL)(p1:Int)(p2:List l4)(p3:Nat)(p4:BL)(p5:Int)(p6:Bool)(p7:List BL)(p8:List r7)(p9:Nat)(J9:Int)(I6:List s6)(H2 G9 G8 G7 J8 OU:Nat)(PO:List BL)(Qd:List r4):V:=.agg [sV p0,iV p1,.own 8 ((p2.take p3).map an++(.agg [sV p4,iV p5,bV p6,.agg [.sl false (p7.map sV),.sl false (p8.map au),iN p9],iV J9,.own 2 (I6.map aj) H2 G9 G8]:V)::(p2.drop (p3+1)).map an) G7 J8 OU,.ow 1 (PO.map sV),.ow 3 (Qd.map aP)]
abbrev jx(p0:BL)(p1:Int)(p2:List l4)(p3:Nat)(y4:l4)(I6 H2 G9:Nat)(G8:List BL)(G7:List r4):V:=Iv p0 p1 p2 p3 y4.na y4.re y4.kn y4.gr.na y4.gr.ru y4.gr.wa y4.tr I6 H2 G9 G8 G7
abbrev cb(p0:BL)(p1:Int)(p2:List l4)(p3:Nat)(y4:l4)(I6:List s6)(H2 G9 G8:Nat)(G7:List BL)(J8:List r4):V:=Ms p0 p1 p2 p3 y4.na y4.re y4.kn y4.gr.na y4.gr.ru y4.gr.wa y4.tr I6 H2 G9 G8 G7 J8
abbrev aZ(p0:BL)(p1:Int)(p2:List l4)(p3:Nat)(y4:l4)(I6:List s6)(H2 G9 G8 G7 J8 OU:Nat)(PO:List BL)(Qd:List r4):V:=MA p0 p1 p2 p3 y4.na y4.re y4.kn y4.gr.na y4.gr.ru y4.gr.wa y4.tr I6 H2 G9 G8 G7 J8 OU PO Qd
theorem rC{hs:List l4}{d:BL}{i:Nat}(hi:i<hs.length)(e:(hs.getD i e9).na=d)(h:∀ j,j<i->((hs.getD j e9).na==d)=false):C8 hs d=i:=by
 unfold C8;rw[List.findIdx_eq hi];simp only[Zam,Zat hi]at e;refine⟨Zb5,fun j hj=>?_⟩;have:=h j hj;simp only[Zam,Zat (show j<hs.length by omega)]at this;simpa using this
theorem wb{hs:List l4}{d:BL}(h:∀ j,j<hs.length->((hs.getD j e9).na==d)=false):C8 hs d=hs.length:=by
 unfold C8;rw[List.findIdx_eq_length];intro x hx;obtain⟨j,hj,rfl⟩:=Zbg.1 hx;have:=h j hj;simp only[Zam,Zat hj]at this;simpa using this
theorem Cp{hs:List l4}{d n:BL}{i:Nat}(hi:i<hs.length)(e:(hs.getD i e9).na=d)(h:∀ j,j<i->((hs.getD j e9).na==d)=false):bA hs d n=hs:=by
 unfold bA;rw[rC hi e h,if_pos hi]
theorem Bj{hs:List l4}{d n:BL}(h:∀ j,j<hs.length->((hs.getD j e9).na==d)=false):bA hs d n=hs++[dO d n]:=by
 unfold bA;rw[wb h,if_neg Zac]
theorem sB{n a:BL}{hs:List l4}{se:List BL}(h: ¬ eA se a):bO n hs se a=hs:=if_neg h
theorem mE{a:BL}{se:List BL}(h: ¬ eA se a):bg se a=se:=if_neg h
theorem sj{a:BL}{se:List BL}(h:eA se a):bg se a=se++[a]:=if_pos h
theorem KX{a:BL}{se:List BL}(h:(aU a).isSome=false\/60<=(se.length:Int)): ¬ eA se a:=fun c=>by
 rw[hZ]at h;rcases h with h | h;rw[c.1]at h;cases h;have:=c.2.1;omega
theorem Mn{a:BL}{se:List BL}(h:se.contains a=true): ¬ eA se a:=fun c=>c.2.2 (List.contains_iff_mem.1 h)
theorem Dy{a:BL}{se:List BL}(h:(aU a).isSome=true/\(se.length:Int)<60)(h2:se.contains a=false):eA se a:=by
 rw[hZ]at h;exact⟨h.1,Zac,fun c=>by rw[List.contains_iff_mem.2 c]at h2;cases h2⟩
theorem IF{a:BL}{se:List BL}(h:eA se a):aU a=aO a/\(if aF (oA (aU a))=true then bJ (oA (aU a)) else [])=pathOf a:=by
 have e:aU a=aO a:=if_pos h.1;have hs:(aO a).isSome=true:=by have:=h.1;unfold ay at this;rw[Zao]at this;exact this.1
 exact⟨e,by rw[e,if_pos (nG hs)];rfl⟩
theorem Gn{n a:BL} {hs:List l4} {se:List BL} (h:eA se a) (hk:((bA hs (oA (aU a)).j8 n).getD (C8 hs (oA (aU a)).j8) e9).kn=true/\
 bT ((bA hs (oA (aU a)).j8 n).getD (C8 hs (oA (aU a)).j8) e9).gr.ru (if aF (oA (aU a))=true then bJ (oA (aU a)) else [])=false):bO n hs se a=bA hs (oA (aU a)).j8 n:=by
 obtain⟨e1,e2⟩:=IF h;rw[e2,e1]at hk;unfold bO;rw[if_pos h,e1];unfold fu aG;rw[if_pos hk];apply List.ext_getElem Zad;intro i h1 h2;rw[List.getElem_set];split;rename_i e;subst e;rw[Zam,Zat h2];rfl;rfl
theorem IZ{n a:BL} {hs:List l4} {se:List BL} (h:eA se a) (hk:((bA hs (oA (aU a)).j8 n).getD (C8 hs (oA (aU a)).j8) e9).kn=true->
 bT ((bA hs (oA (aU a)).j8 n).getD (C8 hs (oA (aU a)).j8) e9).gr.ru (if aF (oA (aU a))=true then bJ (oA (aU a)) else [])=true):
 bO n hs se a=(bA hs (oA (aU a)).j8 n).set (C8 hs (oA (aU a)).j8) { (bA hs (oA (aU a)).j8 n).getD (C8 hs (oA (aU a)).j8) e9 with td:=((bA hs (oA (aU a)).j8 n).getD (C8 hs (oA (aU a)).j8) e9).td++[⟨a,0⟩] }:=by
 obtain⟨e1,e2⟩:=IF h;rw[e2,e1]at hk;unfold bO;rw[if_pos h,e1];unfold fu aG;rw[if_neg (fun c=>by rw[hk c.1]at c;exact absurd c.2 Zaf)]
theorem Mg{n:BL}{m6:List BL}(h:cC n=false\/12<(m6.length:Int)):eV n m6=none:=if_neg fun c=>by
 rcases h with e | e;rw[c.1]at e;cases e;have:=c.2;omega
theorem LC{n:BL}{m6:List BL}(h:cC n=true/\(m6.length:Int)<=12):eV n m6=some (m6.foldl aL (dB n)):=if_pos ⟨h.1,by have:=h.2;omega⟩
theorem ND{hs:List l4}{n:BL}(hg:∀ y,y∈hs->y.td.length<=1000/\y.gr.ru.length<=1000/\∀ i,(y.gr.ru.getD i ⟨false,[]⟩).path.length<=1000)(d:BL):
 let y:=(bA hs d n).getD (C8 hs d) e9
 y.td.length<=1000/\y.gr.ru.length<=1000/\∀ i,(y.gr.ru.getD i ⟨false,[]⟩).path.length<=1000:=by
 intro y;have hm:y∈bA hs d n:=aM (d:=e9) (kr hs d n);unfold bA at hm;split at hm;exact hg y hm;rcases Zax.1 hm with h | h;exact hg y h;rw[Zav.1 h];simp[dO]
def xA(n:BL)(b6:Int)(zs:List l4)(se:List BL)(ls:List r4)(gt:Nat)(d:BL):fY:=.mk (Nat×Nat×Nat) 188 [kp 1000 gt,sV d] [(1000,(gt,bR n b6 zs se ls))] (zs.length<=1000) (fun x=>True) (fun x=>.ptr (.key 1000) [2,(C8 zs d)] x.1 (x.2.1+(C8 zs d)*8)) (fun x=>[(1000,(gt,bh n b6 (bA zs d n) x.1 x.2.1 x.2.2 se ls))]) (by
 intro hl
 refine fU Tryz.func188
  (.oR (.key 1000) [2] (fun g o c=>.q 1<|.r 6 [.b9]<|.loop Nat (fun i=>⟨[(0,kp 1000 gt),(1,sV d),(10,iN zs.length),(11,iN i)],[(1000,(gt,bh n b6 zs g o c se ls))]⟩) (fun i=>i<=zs.length/\∀ j,j<i->((zs.getD j e9).na==d)=false) (fun i=>zs.length-i) (fun i=>.q 1<|.br (.q 2<|.r 10 [.b9,sV ((zs.getD i e9).na)]<|.br (.r 7 [.b9]<|.nil) (.q 2<|.nil)) (.C6 15 [(4,n6 [1000] [35]),(9,n6 [1000] [40]),(14,⟨true,[],none,[45],[1000]⟩)]<|.l8 4<|.o6<|.l8 4<|.o6<|.bs<|.bd fB<|.bd tU<|.bs<|.ux none (fun N9 N7 PT=>.h (.m8 45 (.own 8 (zs.map an++[(.agg [sV d,iN 0,bV false,.agg [.sl true [sV n],.sl true [],iN 0],iN 0,.sl true []]:V)]) N9 N7 PT))<|.h (.SB (.slot 45) [zs.length,5] N9 (N7+(zs.length)*8+7) 2)<|.h (.m8 45 (.own 8 (zs.map an++[(.agg [sV d,iN 0,bV false,.agg [.sl true [sV n],.sl true [],iN 0],iN 0,.own 2 ([].map aj) 0 0 0]:V)]) N9 N7 PT))<|.h (.Pw (.slot 45) [zs.length] N9 (N7+(zs.length)*8) (.agg [sV d,iN 0,bV false,.agg [.sl true [sV n],.sl true [],iN 0],iN 0,.own 2 ([].map aj) 0 0 0]) (.agg [sV d,iV 0,bV false,.agg [.sl false ([n].map sV),.sl false ([].map au),iN 0],iV 0,.ow 2 ([].map aj)]))<|.h (.m8 45 (.own 8 (zs.map an++[(.agg [sV d,iV 0,bV false,.agg [.sl false ([n].map sV),.sl false ([].map au),iN 0],iV 0,.ow 2 ([].map aj)]:V)]) N9 N7 PT))<|.h (.m8 45 (.own 8 ((zs++[(dO d n)]).map an) N9 N7 PT))<|.q 2<|.st none<|.C6 10 [(3,n6 [1000] [51]),(7,n6 [1000] [55])]<|.l8 3<|.o6<|.l8 3<|.o6<|.l8 2<|.h (.m8 57 (iN zs.length))<|.q 2<|.nil)))))
  ((fun (v6 v2:List V) (v5 v4 v3:V) (v1:Nat->Prop)=>(∀ g o c:Nat,(fun v7:V=>True/\Z gt 2/\(∃ j6:Nat,(v1 j6)/\E (kp 1000 gt)/\E (sV d)/\Q (iN ((zs.map an).length)) (iN zs.length)/\Q (iN 0) (iN j6)/\Er gt v7/\True)/\∀ i:Nat,(v1 i)->Br (r6 (i:Int) (zs.length:Int)) (True/\Z gt 2/\In (i:Int) ((zs.map an).length)/\(V.at gt 0 v7 [2,0+i,0]=some (g,(o+(0+i)*8+0),sV ((zs.getD i e9).na)))/\Br (((zs.getD i e9).na)==d) (True/\Z gt 2/\In (i:Int) ((zs.map an).length)/\∃ x:Nat×Nat×Nat,(True)/\Q (.ptr (.key 1000) [2,(C8 zs d)] g (o+(0+i)*8)) (.ptr (.key 1000) [2,(C8 zs d)] x.1 (x.2.1+(C8 zs d)*8))/\Qr gt v7 gt (bh n b6 (bA zs d n) x.1 x.2.1 x.2.2 se ls)) (m5 ((i:Int)+1)/\∃ b7:Nat,(v1 b7)/\(zs.length-b7<zs.length-i)/\E (kp 1000 gt)/\E (sV d)/\E (iN zs.length)/\Q (iN (i+1)) (iN b7)/\Er gt v7/\True)) (True/\Z gt 2/\True/\Z gt 0/\(((8,8,g,o,c,(zs.map an).length)=(8,8,g,o,c,(zs.map an).length))/\(V.ax v2=false)/\(aS 8 v2)/\(((zs.map an).length+v2.length)*120<=140737488355328))/\∀ N9 N7 PT:Nat,((.own 8 ((zs.map an)++v2) N9 N7 PT:V)=.own 8 (zs.map an++[v4]) N9 N7 PT)/\(V.at N9 N7 (.own 8 (zs.map an++[v4]) N9 N7 PT) [zs.length,5]=some (N9,N7+(zs.length)*8+7,.sl true []))/\(V.set (.own 8 (zs.map an++[v4]) N9 N7 PT) [zs.length,5] (.own 2 ([].map aj) 0 0 0)=.own 8 (zs.map an++[v3]) N9 N7 PT)/\(V.at N9 N7 (.own 8 (zs.map an++[v3]) N9 N7 PT) [zs.length]=some (N9,N7+(zs.length)*8,.agg [sV d,iN 0,bV false,.agg [.sl true [sV n],.sl true [],iN 0],iN 0,.own 2 ([].map aj) 0 0 0]))/\(V.set (.own 8 (zs.map an++[v3]) N9 N7 PT) [zs.length] (.agg [sV d,iV 0,bV false,.agg [.sl false ([n].map sV),.sl false ([].map au),iN 0],iV 0,.ow 2 ([].map aj)])=.own 8 (zs.map an++[v5]) N9 N7 PT)/\((.own 8 (zs.map an++[v5]) N9 N7 PT:V)=.own 8 v6 N9 N7 PT)/\True/\Z gt 2/\True/\Z gt 2/\True/\Z gt 2/\m5 (((v6.length:Nat):Int)-1)/\Q (iV (((v6.length:Nat):Int)-1)) (iN zs.length)/\In (zs.length:Int) (v6.length)/\∃ x:Nat×Nat×Nat,(True)/\Q (.ptr (.key 1000) [2,(C8 zs d)] N9 (N7+(0+zs.length)*8)) (.ptr (.key 1000) [2,(C8 zs d)] x.1 (x.2.1+(C8 zs d)*8))/\Qr gt (bh n b6 (zs++[(dO d n)]) N9 N7 PT se ls) gt (bh n b6 (bA zs d n) x.1 x.2.1 x.2.2 se ls))) (bh n b6 zs g o c se ls))) ((zs++[(dO d n)]).map an) ([.agg [sV d,iN 0,bV false,.agg [.sl true [sV n],.sl true [],iN 0],iN 0,.sl true []]]:List V) (.agg [sV d,iV 0,bV false,.agg [.sl false ([n].map sV),.sl false ([].map au),iN 0],iV 0,.ow 2 ([].map aj)]:V) (.agg [sV d,iN 0,bV false,.agg [.sl true [sV n],.sl true [],iN 0],iN 0,.sl true []]:V) (.agg [sV d,iN 0,bV false,.agg [.sl true [sV n],.sl true [],iN 0],iN 0,.own 2 ([].map aj) 0 0 0]:V) (fun j6:Nat=>j6<=zs.length/\∀ j,j<j6->((zs.getD j e9).na==d)=false)) ?_
 intro g o c;refine bL ⟨⟨0,?_,rfl,rfl,Zah,aT⟩,?_⟩;simp;rintro i ⟨h1,h2⟩;refine bI (fun j7=>?_) fun j7=>?_
 · refine bN ⟨Zd3,bI (fun l3=>?_) fun l3=>?_⟩
   · refine bN ⟨(g,o,c),?_,?_,?_⟩
     · try dsimp only
       all_goals trivial
     first | (rw[rC (i:=i) Zac l3 h2,Zaw]) | (rw[wb (fun j hj=>h2 j Zac),Zaw])
     first | (rw[Cp (i:=i) Zac l3 h2]) | (rw[Bj (fun j hj=>h2 j Zac)])
   refine aJ ⟨i+1,?_,?_,aT⟩;exact⟨Zac,Zdw⟩;exact Zak
 · refine cG ⟨bN Zal,fun N9 N7 PT=>⟨Zbm (V.own 8 · N9 N7 PT) (rfl),Zdc,Zdd,gO aw,nf (aw) (bG),Zbm (V.own 8 · N9 N7 PT) (by rw[Zbb (f:=an)];rfl),jD ⟨Zds,aJ ?_⟩⟩⟩;refine⟨(N9,N7,PT),?_,?_,?_⟩
   · try dsimp only
     all_goals trivial
   first | (rw[rC (i:=i) Zac l3 h2,Zaw]) | (rw[wb (fun j hj=>h2 j Zac),Zaw])
   first | (rw[Cp (i:=i) Zac l3 h2]) | (rw[Bj (fun j hj=>h2 j Zac)]))
def FD(n:BL)(b6:Int)(zs:List l4)(se:List BL)(ls:List r4)(gt:Nat)(a:BL):av:=.mk 154 [kp 1000 gt,sV a] [(1000,(gt,bR n b6 zs se ls))] ((zs.length<=1000)/\(se.length<=1000)/\(a.length<=1000000)/\(o8 a)/\(∀ y,y∈zs->y.td.length<=1000/\y.gr.ru.length<=1000/\∀ i,(y.gr.ru.getD i ⟨false,[]⟩).path.length<=1000)) (.tup []) [(1000,(gt,bR n b6 (bO n zs se a) (bg se a) ls))] (by
 rintro⟨hl,P4,ha,hc,hg⟩
 refine aq Tryz.func154
  (.oR (.key 1000) [3] (fun gs os cs=>.q 1<|.c (dP a) []<|.q 3<|.al cO (fun g4=>.st none<|.q 1<|.r 10 [.b9]<|.sp ((!((aU a).isSome))||(A9 (((se.map sV).length:Nat):Int) 60)) (.h (.m8 21 (bV true))<|.q 1<|.gf (.b9)<|.gf (.b9)<|.gf (.b9)<|.gf (.b9)<|.gf (.b9)<|.gf (bV false)<|.q 1<|.br (.nil) (.nil)) (.h (.m8 21 (bV false))<|.q 1<|.gt<|.q 1<|.gt<|.q 1<|.gt<|.q 1<|.gt<|.o6<|.gt<|.q 1<|.gt<|.cl (sF se a)<|.q 1<|.br (.nil) (.r 6 [.b9]<|.bs<|.ap (fun PR SZ S7=>.h (.m8 37 (.own 1 ((se++[a]).map sV) PR SZ S7))<|.q 2<|.st none<|.r 3 [.b9]<|.cx (xA n b6 zs (se++[a]) ls gt ((oA (aU a)).j8)) [(1000,1000)] (fun (m0:Nat×Nat×Nat)=>.q 1<|.ex (List l4×Nat) (fun x=>((bA zs (oA (aU a)).j8 n),(C8 zs (oA (aU a)).j8))=x) (fun (x:List l4×Nat)=>.h (.s8 1000 (bh n b6 x.1 m0.1 m0.2.1 m0.2.2 (se++[a]) ls))<|.h (.m8 43 (.ptr (.key 1000) [2,x.2] m0.1 (m0.2.1+x.2*8)))<|.h (.m8 6 (.ptr (.key 1000) [2,x.2] m0.1 (m0.2.1+x.2*8)))<|.C6 15 [(3,n6 [1000] [47]),(9,n6 [1000] [53]),(10,n6 [4] [54])]<|.l8 3<|.r 1 [bV ((x.1.getD x.2 e9).kn)]<|.l8 5<|.r 1 [dk ((x.1.getD x.2 e9).gr.ru)]<|.o6<|.cg (mh (oA (aU a)))<|.cg (lM ((x.1.getD x.2 e9).gr.ru) (if aF (oA (aU a))=true then bJ (oA (aU a)) else []))<|.l8 2<|.br (.nil) (.ex (l4) (fun y=>(x.1.getD x.2 e9)=y) (fun (y:l4)=>(fun y1:List V=>(.h (.s8 1000 (cb n b6 x.1 x.2 y y.td m0.1 m0.2.1 m0.2.2 (se++[a]) ls))<|.QV (.key 1000) [2,x.2,5] m0.1 (m0.2.1+(x.2)*8+7) 2 (y.td.map aj) (fun gA Pe cA=>.h (.s8 1000 (aZ n b6 x.1 x.2 y y.td gA Pe cA m0.1 m0.2.1 m0.2.2 (se++[a]) ls))<|.r 6 [.own 2 (y.td.map aj) gA Pe cA]<|.bd lY<|.bs<|.YN (y.td.map aj) m0.1 (m0.2.1+(x.2)*8+7) (fun Te S' Th=>.h (.m8 67 (.own 2 y1 Te S' Th))<|.h (.s8 1000 (jx n b6 x.1 x.2 y m0.1 m0.2.1 m0.2.2 (se++[a]) ls))<|.q 2<|.st (some (.b9))<|.h (.s8 1000 (aZ n b6 x.1 x.2 y (y.td++[(⟨a,0⟩:s6)]) Te S' Th m0.1 m0.2.1 m0.2.2 (se++[a]) ls))<|.h (.Pw (.key 1000) [2,x.2,5] m0.1 (m0.2.1+(x.2)*8+7) (.own 2 y1 Te S' Th) (.ow 2 y1))<|.h (.s8 1000 (cb n b6 x.1 x.2 y (y.td++[(⟨a,0⟩:s6)]) m0.1 m0.2.1 m0.2.2 (se++[a]) ls))<|.h (.s8 1000 (bh n b6 (x.1.set x.2 ({ y with td:=y.td++[⟨a,0⟩] }:l4)) m0.1 m0.2.1 m0.2.2 (se++[a]) ls))<|.nil)):Sc Tryz.prog)) ((y.td++[(⟨a,0⟩:s6)]).map aj)))))))))))
  ((fun (v5:List V) (v4 v2:Bool) (v3:s6) (v1:V)=>(∀ gs os cs:Nat,(dP a).sm/\((a.length<=1000000)/\(o8 a))/\∀ g4:Nat,Z g4 0/\Gd (v4==false) True/\Gd (v4==false) (Z gt 3)/\Pk v4 true (v4==false)/\((v4||v2)=true->((bV (v4||v2):V)=bV true)/\(false=false)/\(false=false)/\(false=false)/\(false=false)/\(false=false)/\(false=false)/\Pk true true false/\Br (true||false) (Q (.tup []) (.tup [])/\Qr gt (bR n b6 zs se ls) gt v1) (False))/\((v4||v2)=false->((bV (v4||v2):V)=bV false)/\(true=true)/\(true=true)/\True/\(true=true)/\(true=true)/\Z gt 3/\(true=true)/\(true=true)/\(((1=1/\gs=gs/\os=os)/\0+((se.map sV).length)<=(se.map sV).length/\V.ax (se.map sV)=false/\aS 1 (se.map sV))/\True)/\(([.sl false (((se.map sV).drop 0).take ((se.map sV).length)),sV a]:List V)=[ar se,sV a])/\((se.length<=1000000))/\Pk false true true/\Br (false||(se.contains a)) (Q (.tup []) (.tup [])/\Qr gt (bR n b6 zs se ls) gt v1) (True/\Z gt 3/\((1,1,gs,os,cs,(se.map sV).length)=(1,1,gs,os,cs,(se.map sV).length))/\(True)/\(V.ax ([sV a]:List V)=false)/\(aS 1 ([sV a]:List V))/\(((se.map sV).length+([sV a]:List V).length)*16<=140737488355328)/\∀ PR SZ S7:Nat,((.own 1 ((se.map sV)++([sV a]:List V)) PR SZ S7:V)=.own 1 ((se++[a]).map sV) PR SZ S7)/\True/\Z gt 3/\Z g4 0/\(xA n b6 zs (se++[a]) ls gt ((oA (aU a)).j8)).sm/\Er gt (bR n b6 zs (se++[a]) ls)/\((zs.length<=1000))/\∀ m0:Nat×Nat×Nat,(True)->(fun v6:V=>(∃ x:List l4×Nat,((bA zs (oA (aU a)).j8 n),(C8 zs (oA (aU a)).j8))=x)/\∀ x:List l4×Nat,(((bA zs (oA (aU a)).j8 n),(C8 zs (oA (aU a)).j8))=x)->(fun (v8:V) (v7:l4)=>((bh n b6 (bA zs ((oA (aU a)).j8) n) m0.1 m0.2.1 m0.2.2 (se++[a]) ls:V)=bh n b6 x.1 m0.1 m0.2.1 m0.2.2 (se++[a]) ls)/\(v6=.ptr (.key 1000) [2,x.2] m0.1 (m0.2.1+x.2*8))/\(v6=.ptr (.key 1000) [2,x.2] m0.1 (m0.2.1+x.2*8))/\True/\(V.at gt 0 v8 [2,x.2,2]=some (m0.1,(m0.2.1+x.2*8+2),bV (v7.kn)))/\Gd ((v7.kn)==true) (((v7.kn)==true)=true)/\Gd ((v7.kn)==true) True/\Gd ((v7.kn)==true) (((v7.kn)==true)=true)/\Gd ((v7.kn)==true) (((v7.kn)==true)=true)/\Gd ((v7.kn)==true) (((v7.kn)==true)=true)/\Gd ((v7.kn)==true) (V.at gt 0 v8 [2,x.2,3,1]=some (m0.1,(m0.2.1+x.2*8+3+1),dk (v7.gr.ru)))/\Gd ((v7.kn)==true) (Z g4 0)/\Gd ((v7.kn)==true) (((v7.kn)==true)=true)/\Gd ((v7.kn)==true) (((cI (oA (aU a))))/\(mh (oA (aU a))).sm)/\Gd ((v7.kn)==true) (((v7.kn)==true)=true)/\Gd ((v7.kn)==true) (((v7.kn)==true)=true)/\Gd ((v7.kn)==true) ((((v7.gr.ru).length<=1000000)/\(∀ i,((v7.gr.ru).getD i ⟨false,[]⟩).path.length<=1000000)/\((if aF (oA (aU a))=true then bJ (oA (aU a)) else []).length<=1000000))/\(lM (v7.gr.ru) (if aF (oA (aU a))=true then bJ (oA (aU a)) else [])).sm)/\Gd ((v7.kn)==true) (((v7.kn)==true)=true)/\Pk (v7.kn) ((v7.kn)==true) true/\Br ((v7.kn)&&(!(bT (v7.gr.ru) (if aF (oA (aU a))=true then bJ (oA (aU a)) else [])))) (Q (.tup []) (.tup [])/\Qr gt (bR n b6 x.1 (se++[a]) ls) gt v1) ((∃ y:l4,v7=y)/\∀ y:l4,(v7=y)->(fun (v12 v10:V) (v11 v9:List V)=>((bh n b6 x.1 m0.1 m0.2.1 m0.2.2 (se++[a]) ls:V)=cb n b6 x.1 x.2 y y.td m0.1 m0.2.1 m0.2.2 (se++[a]) ls)/\(V.at gt 0 v10 [2,x.2,5]=some (m0.1,m0.2.1+(x.2)*8+7,.ow 2 v9))/\∀ gA Pe cA:Nat,(fun w6:V=>(V.set v10 [2,x.2,5] (.own 2 v9 gA Pe cA)=aZ n b6 x.1 x.2 y y.td gA Pe cA m0.1 m0.2.1 m0.2.2 (se++[a]) ls)/\True/\(V.at gt 0 w6 [2,x.2,5]=some (m0.1,(m0.2.1+x.2*8+7),.own 2 v9 gA Pe cA))/\((V.at gt 0 w6 [2,x.2,5]=some (m0.1,m0.2.1+(x.2)*8+7,.own 2 v9 gA Pe cA))/\2=2/\v9.length=v9.length)/\(True)/\(V.ax v5=false)/\(aS 2 v5)/\((v9.length+v5.length)*24<=140737488355328)/\∀ Te S' Th:Nat,(fun z6:V=>((.own 2 (v9++v5) Te S' Th:V)=.own 2 v11 Te S' Th)/\(V.set w6 [2,x.2,5] (.b9)=jx n b6 x.1 x.2 y m0.1 m0.2.1 m0.2.2 (se++[a]) ls)/\True/\(V.at gt 0 v12 [2,x.2,5]=some (m0.1,(m0.2.1+x.2*8+7),.b9))/\(V.set v12 [2,x.2,5] (.own 2 v11 Te S' Th)=aZ n b6 x.1 x.2 y (y.td++[v3]) Te S' Th m0.1 m0.2.1 m0.2.2 (se++[a]) ls)/\(V.at gt 0 z6 [2,x.2,5]=some (m0.1,m0.2.1+(x.2)*8+7,.own 2 v11 Te S' Th))/\(V.set z6 [2,x.2,5] (.ow 2 v11)=cb n b6 x.1 x.2 y (y.td++[v3]) m0.1 m0.2.1 m0.2.2 (se++[a]) ls)/\((cb n b6 x.1 x.2 y (y.td++[v3]) m0.1 m0.2.1 m0.2.2 (se++[a]) ls:V)=bh n b6 (x.1.set x.2 ({ y with td:=y.td++[⟨a,0⟩] }:l4)) m0.1 m0.2.1 m0.2.2 (se++[a]) ls)/\Q (.tup []) (.tup [])/\Qr gt (bR n b6 (x.1.set x.2 ({ y with td:=y.td++[⟨a,0⟩] }:l4)) (se++[a]) ls) gt v1) (aZ n b6 x.1 x.2 y (y.td++[v3]) Te S' Th m0.1 m0.2.1 m0.2.2 (se++[a]) ls)) (aZ n b6 x.1 x.2 y y.td gA Pe cA m0.1 m0.2.1 m0.2.2 (se++[a]) ls)) (jx n b6 x.1 x.2 y m0.1 m0.2.1 m0.2.2 (se++[a]) ls) (cb n b6 x.1 x.2 y y.td m0.1 m0.2.1 m0.2.2 (se++[a]) ls) ((y.td++[v3]).map aj) (y.td.map aj))) (bh n b6 x.1 m0.1 m0.2.1 m0.2.2 (se++[a]) ls) (x.1.getD x.2 e9)) (.ptr (.key 1000) [2,(C8 zs ((oA (aU a)).j8))] m0.1 (m0.2.1+(C8 zs ((oA (aU a)).j8))*8):V))))) ([.agg [sV a,iN 0]]:List V) (!((aU a).isSome)) (A9 (((se.map sV).length:Nat):Int) 60) (⟨a,0⟩:s6) (bR n b6 (bO n zs se a) (bg se a) ls)) ?_
 intro gs os cs;refine⟨rfl,⟨ha,hc⟩,fun g4=>cG ⟨fun Qt=>?_,fun Qt=>?_⟩⟩
 · have K6:=Qt;try simp only[nb]at K6
   refine⟨Zbm bV Qt,jD (bI (fun j7=>?_) fun j7=>?_)⟩;refine⟨?_,by rw[sB (n:=n) (hs:=zs) (KX K6),mE (KX K6)]⟩;rfl
   · all_goals (first | exact absurd j7 Zaf | simp_all)
 have K6:=Qt;try simp only[nb]at K6
 refine⟨Zbm bV Qt,dU ⟨⟨⟨aT,Zad,bQ (f:=sV) (fun _=>rfl) _,cQ (f:=sV) (fun _=>rfl) _⟩,aT⟩,by simp[Zaz],bL (bI (fun l3=>?_) fun l3=>?_)⟩⟩;refine⟨?_,by rw[sB (n:=n) (hs:=zs) (Mn (l3.resolve_left Zaf)),mE (Mn (l3.resolve_left Zaf))]⟩;rfl;refine jD fun PR SZ S7=>⟨Zbm (V.own 1 · PR SZ S7) Zad,dF ⟨hl,fun m0 QY=>?_⟩⟩;have hix:=kr zs (oA (aU a)).j8 n;have WZ:=uy zs (oA (aU a)).j8 n;have UD:=ND (n:=n) hg (oA (aU a)).j8;refine⟨⟨_,rfl⟩,fun x hx=>?_⟩;have ZY:(bA zs (oA (aU a)).j8 n)=x.1:=by rw[<- hx]
 have Q0:(C8 zs (oA (aU a)).j8)=x.2:=by rw[<- hx]
 rw[ZY,Q0]at hix UD;rw[ZY]at WZ;refine⟨by rw[ZY],(by rw[Q0]),(by rw[Q0]),trivial,Zd4,dF ⟨fun hG=>(bq (f:=2) rfl).trans (aR (af (d:=e9) Zac) rfl),bL ⟨fun hG=>⟨by(try simp only[nb]at hG);exact qS _,rfl⟩,bL ⟨fun hG=>⟨⟨by(try simp only[nb]at hG);have:=UD.2.1;omega,fun i=>by have:=UD.2.2 i;omega,by(try simp only[nb]at hG);have:=(qS a).path;split <;> simp <;> omega⟩,rfl⟩,bL (bI (fun m7=>?_) fun m7=>?_)⟩⟩⟩⟩;refine⟨?_,by obtain rfl:=hx;simp only at m7 ⊢;rw[Gn (Dy K6 l3.2) m7,sj (Dy K6 l3.2)]⟩;rfl;refine⟨⟨_,rfl⟩,fun y hy=>?_⟩;rw[hy]at UD;refine⟨I9 (Zbm (V.own 8 · m0.1 m0.2.1 m0.2.2) (splitN hy (hix))),aJ fun gA Pe cA=>dU fun Te S' Th=>⟨Zbm (V.own 2 · Te S' Th) Zad,lv ⟨I9 (Zbm (V.own 8 · m0.1 m0.2.1 m0.2.2) (eC (f:=an) (x:=({ y with td:=y.td++[⟨a,0⟩] }:l4)) (hix))),⟨?_,by subst hy;obtain rfl:=hx;simp only at m7 ⊢;rw[IZ (Dy K6 l3.2) m7,sj (Dy K6 l3.2)]⟩⟩⟩⟩;rfl)
section
variable {P:Program}
def YV(xs:List V):Cu P where
 X:={b:Bool // b=true->xs=[]}
 pre N o A:=match o.op,o.dst with
  | .binOp .eql T x (.const (.slice none 0 0)) _,some d=>match tD P T,Nat.blt d N with
    | some (.sl _),true=>match A.ev x with
      | .sl _ ys=>ys=xs
      | _=>False
    | _,_=>False
  | _,_=>False
 post b o A:=match o.dst with
  | some d=>A.put (some d) (.lit (.bool b.1))
  | none=>A
 ok:=by
  rintro N ⟨dst,op,ty,pos,after,D4⟩ A K-hp hK;simp only at hp hK;split at hp;rename_i T x yt d;split at hp;rename_i e e1 e2;split at hp;rename_i f ys e3;subst hp;obtain⟨td,hu,hd⟩:=cP e1;obtain⟨et,hu⟩:∃ et,P.underlying T=some (.slice et):=by
   cases td <;> simp_all[dH]
  intro Pb Kb a w F Q hs;obtain⟨_,hx⟩:=dS hs x;rw[e3]at hx;have hx:R w Pb (.sl f ys) [a.eval x] _:=hx;obtain⟨_,B,c,hc,hle,_,Ta⟩:=hx;simp only[List.cons.injEq,and_true]at hc;have Q0:(execOp a.eval ⟨some d,.binOp .eql T x (.const (.slice none 0 0)) yt,ty,pos,after,D4⟩).run P w=.ok (.value (.bool B.isNone)) w:=by
   have WK:∀ q,(Op.equalIn (q+1) T (.slice B ys.length c) (.slice none 0 0)).run P w=.ok B.isNone w:=fun q=>by
    unfold Op.equalIn;rw[Za0,run_underlying hu];cases B <;> rfl
   have hq:(binOp .eql T (.slice B ys.length c) (.slice none 0 0)).run P w=.ok (.bool B.isNone) w:=by
    show ((Op.equalIn (9999+1) T (.slice B ys.length c) (.slice none 0 0)) >>= fun b=>pure (Value.bool b)).run P w=_;rw[Za0,WK];rfl
   have hy:a.eval (.const (.slice none 0 0))=.slice none 0 0:=rfl;simp only[execOp,hc,hy,Za0,sQ .eql T x (.const (.slice none 0 0)) (u:=.slice B ys.length c) (v:=.slice none 0 0) (fun _ h=>by cases h) (fun h=>by cases h),Zas,hq,Za1]
  obtain⟨F',A8⟩:=hs.pz (d:=some d) (v:=.lit (.bool B.isNone)) (bF e2) (dq rfl);unfold Oper.wp;rw[Q0,Oper.upon_value];refine⟨_,Pb,Kb,F',hK ⟨B.isNone,fun h=>?_⟩,A8,fun _ h=>h,fun _ h=>h,fun _ h=>.inl h,A3.refl _ _⟩;rcases Ta with h1 | ⟨_,_,_,_,rfl,_⟩;exact h1;cases h;exact hp.elim;exact hp.elim;exact hp.elim
end
section
variable {α β:Type} {l:List α} {f g:α->β} {d:α} {i:Nat}
theorem OB:l.map g=(l.take 0).map f++(l.drop 0).map g:=rfl
theorem KF(h:i<l.length):(l.take i).map f++(l.drop i).map g=(l.take i).map f++g (l.getD i d)::(l.drop (i+1)).map g:=by
 rw[List.drop_eq_getElem_cons h,Zbe,Zam,Zat h];rfl
theorem MN(h:i<l.length):(l.take i).map f++f (l.getD i d)::(l.drop (i+1)).map g=(l.take (i+1)).map f++(l.drop (i+1)).map g:=by
 rw[List.take_succ_eq_append_getElem h,Zbb,List.append_assoc,Zam,Zat h];rfl
theorem OC(h:l.length<=i):(l.take i).map f++(l.drop i).map g=l.map f:=by
 rw[Zaz h,Za8 h];simp
end
abbrev pH(p0:BL)(p1:Int)(p2:V)(p3:List BL)(p4:List r4):V:=.agg [sV p0,iV p1,p2,.sl false (p3.map sV),.sl false (p4.map aP)]
abbrev kR(p0:BL)(p1:Int)(p2:V)(p3:List BL)(p4:List r4):V:=.agg [sV p0,iV p1,p2,.sl false (p3.map sV),.sl false (p4.map aP)]
abbrev KQ(p0:BL)(p1:Int)(p2:Bool)(p3:List BL)(p4:List r7)(p5:Nat)(p6:Int)(p7:List s6):V:=.agg [sV p0,iV p1,bV p2,.agg [.sl false (p3.map sV),.sl false (p4.map au),iN p5],iV p6,.ow 2 (p7.map aj)]
abbrev dh(y0:l5):V:=bR y0.na y0.b6 y0.hs y0.se y0.lk
abbrev jd(y0:l4)(p7:List s6):V:=KQ y0.na y0.re y0.kn y0.gr.na y0.gr.ru y0.gr.wa y0.tr p7
def Ag(l:List l4):av:=.mk 104 [mz l] [] (l.length<=1000000) (.ow 8 (l.map cy)) [] (by
 intro hl
 refine aq Tryz.func104
  (.l8 2<|.cu (YV (l.map cy)) (fun z4=>.br (.q 1<|.h (.I7 2 8)<|.nil) (.bs<|.q 1<|.ap (fun g7 o7 c7=>.h (.m8 7 (.own 8 (l.map cy) g7 o7 c7))<|.q 1<|.nil))))
  (((l.map cy:List V)=l.map cy)/\∀ z4: {b:Bool // b=true->(l.map cy:List V)=[]},Br z4.1 (Q (.ow 8 ([].map cy)) (.ow 8 (l.map cy))) ((True)/\(True)/\(V.ax (l.map cy)=false)/\(aS 8 (l.map cy))/\((([]:List V).length+(l.map cy).length)*120<=140737488355328)/\∀ g7 o7 c7:Nat,((.own 8 (([]:List V)++(l.map cy)) g7 o7 c7:V)=.own 8 (l.map cy) g7 o7 c7)/\Q (.ow 8 (l.map cy)) (.ow 8 (l.map cy)))) ?_
 refine⟨rfl,fun z4=>bI (fun j7=>?_) fun j7=>?_⟩;rw[z4.2 j7];rfl;refine bL ⟨(bQ (f:=cy) (fun _=>rfl) _),(cQ (f:=cy) (fun _=>rfl) _),Zal,fun g7 o7 c7=>⟨Zbm (V.own 8 · g7 o7 c7) (List.nil_append _),?_⟩⟩;rfl)
def yO(l:List r7):av:=.mk 105 [dk l] [] (l.length<=1000000) (.ow 2 (l.map au)) [] (by
 intro hl
 refine aq Tryz.func105
  (.l8 2<|.cu (YV (l.map au)) (fun z4=>.br (.q 1<|.h (.I7 2 2)<|.nil) (.bs<|.q 1<|.ap (fun g7 o7 c7=>.h (.m8 7 (.own 2 (l.map au) g7 o7 c7))<|.q 1<|.nil))))
  (((l.map au:List V)=l.map au)/\∀ z4: {b:Bool // b=true->(l.map au:List V)=[]},Br z4.1 (Q (.ow 2 ([].map au)) (.ow 2 (l.map au))) ((True)/\(True)/\(V.ax (l.map au)=false)/\(aS 2 (l.map au))/\((([]:List V).length+(l.map au).length)*24<=140737488355328)/\∀ g7 o7 c7:Nat,((.own 2 (([]:List V)++(l.map au)) g7 o7 c7:V)=.own 2 (l.map au) g7 o7 c7)/\Q (.ow 2 (l.map au)) (.ow 2 (l.map au)))) ?_
 refine⟨rfl,fun z4=>bI (fun j7=>?_) fun j7=>?_⟩;rw[z4.2 j7];rfl;refine bL ⟨Zdi,Zdj,Zal,fun g7 o7 c7=>⟨Zbm (V.own 2 · g7 o7 c7) (List.nil_append _),?_⟩⟩;rfl)
def zt(l:List s6):av:=.mk 106 [iv l] [] (l.length<=1000000) (.ow 2 (l.map aj)) [] (by
 intro hl
 refine aq Tryz.func106
  (.l8 2<|.cu (YV (l.map aj)) (fun z4=>.br (.q 1<|.h (.I7 2 2)<|.nil) (.bs<|.q 1<|.ap (fun g7 o7 c7=>.h (.m8 7 (.own 2 (l.map aj) g7 o7 c7))<|.q 1<|.nil))))
  (((l.map aj:List V)=l.map aj)/\∀ z4: {b:Bool // b=true->(l.map aj:List V)=[]},Br z4.1 (Q (.ow 2 ([].map aj)) (.ow 2 (l.map aj))) ((True)/\(True)/\(V.ax (l.map aj)=false)/\(aS 2 (l.map aj))/\((([]:List V).length+(l.map aj).length)*24<=140737488355328)/\∀ g7 o7 c7:Nat,((.own 2 (([]:List V)++(l.map aj)) g7 o7 c7:V)=.own 2 (l.map aj) g7 o7 c7)/\Q (.ow 2 (l.map aj)) (.ow 2 (l.map aj)))) ?_
 refine⟨rfl,fun z4=>bI (fun j7=>?_) fun j7=>?_⟩;rw[z4.2 j7];rfl;refine bL ⟨(bQ (f:=aj) (fun _=>rfl) _),(cQ (f:=aj) (fun _=>rfl) _),Zal,fun g7 o7 c7=>⟨Zbm (V.own 2 · g7 o7 c7) (List.nil_append _),?_⟩⟩;rfl)
def zw(l:List r4):av:=.mk 107 [fw l] [] (l.length<=1000000) (.ow 3 (l.map aP)) [] (by
 intro hl
 refine aq Tryz.func107
  (.l8 2<|.cu (YV (l.map aP)) (fun z4=>.br (.q 1<|.h (.I7 2 3)<|.nil) (.bs<|.q 1<|.ap (fun g7 o7 c7=>.h (.m8 7 (.own 3 (l.map aP) g7 o7 c7))<|.q 1<|.nil))))
  (((l.map aP:List V)=l.map aP)/\∀ z4: {b:Bool // b=true->(l.map aP:List V)=[]},Br z4.1 (Q (.ow 3 ([].map aP)) (.ow 3 (l.map aP))) ((True)/\(True)/\(V.ax (l.map aP)=false)/\(aS 3 (l.map aP))/\((([]:List V).length+(l.map aP).length)*32<=140737488355328)/\∀ g7 o7 c7:Nat,((.own 3 (([]:List V)++(l.map aP)) g7 o7 c7:V)=.own 3 (l.map aP) g7 o7 c7)/\Q (.ow 3 (l.map aP)) (.ow 3 (l.map aP)))) ?_
 refine⟨rfl,fun z4=>bI (fun j7=>?_) fun j7=>?_⟩;rw[z4.2 j7];rfl;refine bL ⟨(bQ (f:=aP) (fun _=>rfl) _),(cQ (f:=aP) (fun _=>rfl) _),Zal,fun g7 o7 c7=>⟨Zbm (V.own 3 · g7 o7 c7) (List.nil_append _),?_⟩⟩;rfl)
abbrev qa(t:l5):V:=dh t
def vm(t:l5):av:=.mk 63 [aD t] [] (x3 t) (qa t) [] (by
 intro ht;have WZ:=ht.h
 refine aq Tryz.func63
  (.bx (fun g1=>.al fo (fun g2=>.r 2 [.b9]<|.c (Ag t.hs) []<|.q 1<|.st none<|.oR (.key 1) [2] (fun g o c=>.r 4 [.b9]<|.h (.s8 1 (kR t.na t.b6 (.own 8 ((t.hs.take 0).map an++(t.hs.drop 0).map cy) g o c) t.se t.lk))<|.loop Nat (fun i=>⟨[(1,kp 1 g1),(2,kp 2 g2),(11,iN t.hs.length),(12,iN i)],[(1,(g1,kR t.na t.b6 (.own 8 ((t.hs.take i).map an++(t.hs.drop i).map cy) g o c) t.se t.lk)),(2,(g2,.agg [sV [],iN 0,.sl true [],.sl true [],.sl true []]))]⟩) (fun i=>i<=t.hs.length) (fun i=>t.hs.length-i) (fun i=>(fun (y2:l4) (y1:V->V)=>(.q 1<|.br (.q 2<|.h (.s8 1 (y1 (bn y2 (y2.td):V)))<|.r 5 [.b9]<|.r 6 [ar (y2.gr.na)]<|.c (ke (y2.gr.na)) []<|.q 3<|.h (.fz 25)<|.h (.m8 25 (ar (y2.gr.na)))<|.st (some (ar (y2.gr.na)))<|.h (.s8 1 (y1 (bn y2 (y2.td):V)))<|.r 6 [dk (y2.gr.ru)]<|.c (yO (y2.gr.ru)) []<|.q 3<|.h (.fz 35)<|.h (.m8 35 (dk (y2.gr.ru)))<|.st (some (dk (y2.gr.ru)))<|.h (.s8 1 (y1 (bn y2 (y2.td):V)))<|.r 5 [iv (y2.td)]<|.c (zt (y2.td)) []<|.q 2<|.st (some (iv (y2.td)))<|.h (.s8 1 (y1 (jd y2 (y2.td):V)))<|.h (.s8 1 (kR t.na t.b6 (.own 8 ((t.hs.take (i+1)).map an++(t.hs.drop (i+1)).map cy) g o c) t.se t.lk))<|.q 2<|.nil) (.h (.s8 1 (.agg [sV t.na,iV t.b6,.own 8 (t.hs.map an) g o c,ar t.se,fw t.lk]))<|.r 2 [.b9]<|.c (ke t.se) []<|.q 1<|.st none<|.r 2 [.b9]<|.c (zw t.lk) []<|.q 1<|.st none<|.mv<|.st none<|.nil):Sc Tryz.prog)) (t.hs.getD i e9) (fun r:V=>(pH t.na t.b6 (.own 8 ((t.hs.take i).map an++r::(t.hs.drop (i+1)).map cy) g o c) t.se t.lk)))))))
  ((fun v1:V=>(∀ g1:Nat,∀ g2:Nat,Z g1 2/\(Ag t.hs).sm/\((t.hs.length<=1000000))/\Z g1 2/\∀ g o c:Nat,(fun v2:V=>Z g1 2/\((.agg [sV t.na,iV t.b6,.own 8 (t.hs.map cy) g o c,ar t.se,fw t.lk]:V)=kR t.na t.b6 v2 t.se t.lk)/\(∃ j6:Nat,(j6<=t.hs.length)/\E (kp 1 g1)/\E (kp 2 g2)/\Q (iN ((t.hs.map cy).length)) (iN t.hs.length)/\Q (iN 0) (iN j6)/\Qr g1 (kR t.na t.b6 v2 t.se t.lk) g1 (kR t.na t.b6 (.own 8 ((t.hs.take j6).map an++(t.hs.drop j6).map cy) g o c) t.se t.lk)/\Er g2 v1/\True)/\∀ i:Nat,(i<=t.hs.length)->(fun (v5:l4) (v3:V->V)=>(fun v11:V=>(fun v4:V=>(fun (v10 v6:V) (v9 v8 v7:Prop)=>Br (r6 (i:Int) (t.hs.length:Int)) ((v6=pH t.na t.b6 (v3 v11) t.se t.lk)/\Z g1 2/\In (i:Int) (((t.hs.take i).map an++v11::(t.hs.drop (i+1)).map cy).length)/\True/\v7/\(ke (v5.gr.na)).sm/\(((v5.gr.na).length<=1000000))/\True/\((.sl false (V.E4 ((v5.gr.na).map sV)):V)=ar (v5.gr.na))/\v7/\(V.set v4 [2,0+i,3,0] (ar (v5.gr.na))=pH t.na t.b6 (v3 v11) t.se t.lk)/\True/\v8/\(yO (v5.gr.ru)).sm/\(((v5.gr.ru).length<=1000000))/\True/\((.sl false (V.E4 ((v5.gr.ru).map au)):V)=dk (v5.gr.ru))/\v8/\(V.set v4 [2,0+i,3,1] (dk (v5.gr.ru))=pH t.na t.b6 (v3 v11) t.se t.lk)/\True/\v9/\(zt (v5.td)).sm/\(((v5.td).length<=1000000))/\True/\v9/\(V.set v4 [2,0+i,5] (.ow 2 ((v5.td).map aj))=pH t.na t.b6 (v3 (jd v5 (v5.td):V)) t.se t.lk)/\((pH t.na t.b6 (v3 (jd v5 (v5.td):V)) t.se t.lk:V)=kR t.na t.b6 v10 t.se t.lk)/\m5 ((i:Int)+1)/\∃ b7:Nat,(b7<=t.hs.length)/\(t.hs.length-b7<t.hs.length-i)/\E (kp 1 g1)/\E (kp 2 g2)/\E (iN t.hs.length)/\Q (iN (i+1)) (iN b7)/\Qr g1 (kR t.na t.b6 v10 t.se t.lk) g1 (kR t.na t.b6 (.own 8 ((t.hs.take b7).map an++(t.hs.drop b7).map cy) g o c) t.se t.lk)/\Er g2 v1/\True) ((v6=.agg [sV t.na,iV t.b6,.own 8 (t.hs.map an) g o c,ar t.se,fw t.lk])/\Z g1 3/\(ke t.se).sm/\((t.se.length<=1000000))/\Z g1 3/\Z g1 4/\(zw t.lk).sm/\((t.lk.length<=1000000))/\Z g1 4/\Z g1 0/\Z g2 0/\(g2=g2)/\Q (dh t) (qa t))) (.own 8 ((t.hs.take (i+1)).map an++(t.hs.drop (i+1)).map cy) g o c) (kR t.na t.b6 (.own 8 ((t.hs.take i).map an++(t.hs.drop i).map cy) g o c) t.se t.lk:V) (V.at g1 0 v4 [2,0+i,5]=some (g,(o+(0+i)*8+7),iv (v5.td))) (V.at g1 0 v4 [2,0+i,3,1]=some (g,(o+(0+i)*8+3+1),dk (v5.gr.ru))) (V.at g1 0 v4 [2,0+i,3,0]=some (g,(o+(0+i)*8+3+0),ar (v5.gr.na)))) (pH t.na t.b6 (v3 v11) t.se t.lk)) (bn v5 (v5.td):V)) (t.hs.getD i e9) (fun r:V=>(.own 8 ((t.hs.take i).map an++r::(t.hs.drop (i+1)).map cy) g o c))) (.own 8 ((t.hs.take 0).map an++(t.hs.drop 0).map cy) g o c))) (.agg [sV [],iN 0,.sl true [],.sl true [],.sl true []])) ?_
 intro g1;intro g2;refine⟨rfl,rfl,by have:=ht.h;omega,rfl,fun g o c=>⟨rfl,I9 (Zbm (V.own 8 · g o c) OB),⟨⟨0,?_,rfl,rfl,Zah,aT⟩,?_⟩⟩⟩;simp;rintro i h1;refine bI (fun j7=>?_) fun j7=>?_;refine⟨I9 (Zbm (V.own 8 · g o c) (KF (d:=e9) Zac)),rfl,by(try simp only[Zay]at *);simp only[Zap,Zar,Zay,List.length_take,List.length_drop];omega,?_⟩;have L':=ht.ha _ (aM (d:=e9) (show i<t.hs.length by omega));refine bN ⟨by first | (have:=L'.g;omega) | (have:=ht.s;omega),jD ⟨by have:=L'.r;omega,jD ⟨by have:=L'.t;omega,bN ⟨I9 (Zbm (V.own 8 · g o c) (MN (f:=an) (d:=e9) Zac)),aJ ⟨i+1,?_,?_,aT⟩⟩⟩⟩⟩;omega;exact Zak;refine⟨I9 (Zbm (V.own 8 · g o c) (OC Zac)),rfl,rfl,by first | (have:=L'.g;omega) | (have:=ht.s;omega),rfl,rfl,rfl,by have:=ht.l;omega,bN ⟨rfl,?_⟩⟩;unfold Q qa;rfl)
def iu(y:l4):Bool:=decide (y.td≠[])
theorem BR{y:l4}:s7 (((y.td.map aj).length:Nat):Int) 0=iu y:=by
 unfold iu s7;cases h:y.td <;> simp
def r3(t:l5):Nat:=((gB t).map (·.1)).getD 0
def B9(t:l5):Int:=((gB t).map (·.2)).getD 0
theorem lq{t:l5}{i:Nat}(h:i<t.hs.length):y9 t (i+1)=lW t.b6 (y9 t i) (i,t.hs.getD i e9):=by
 unfold y9;rw[List.take_succ_eq_append_getElem Zbq,Zbb,List.foldl_append];simp[Zam,Zat h]
section
variable {n:BL} {b6 b q:Int} {zs:List l4} {se:List BL} {ls:List r4} {i:Nat}
theorem Ac(h:i<zs.length)(h2:b=(y9 ⟨n,b6,zs,se,ls⟩ i).1)(h3:q=(y9 ⟨n,b6,zs,se,ls⟩ i).2)(c:iu (zs.getD i e9)=true/\(b<0\/max (zs.getD i e9).re b6<q)):y9 ⟨n,b6,zs,se,ls⟩ (i+1)=((i:Int),max (zs.getD i e9).re b6):=by
 rw[lq (t:=⟨n,b6,zs,se,ls⟩) h];unfold lW;rw[<- h2,<- h3,if_pos ⟨of_decide_eq_true c.1,c.2⟩]
theorem AD(h:i<zs.length)(h2:b=(y9 ⟨n,b6,zs,se,ls⟩ i).1)(h3:q=(y9 ⟨n,b6,zs,se,ls⟩ i).2)(c:iu (zs.getD i e9)=true->(0<=b/\q<=max (zs.getD i e9).re b6)):y9 ⟨n,b6,zs,se,ls⟩ (i+1)=y9 ⟨n,b6,zs,se,ls⟩ i:=by
 rw[lq (t:=⟨n,b6,zs,se,ls⟩) h];unfold lW;rw[<- h2,<- h3,if_neg (fun d=>?_)];have:=c (decide_eq_true d.1);have:=d.2;simp only at this;omega
theorem Bq{t:l5}(h:(y9 t t.hs.length).1<0\/5000<(y9 t t.hs.length).2):gB t=none:=if_pos h
theorem Bn{t:l5}(h:0<=(y9 t t.hs.length).1/\(y9 t t.hs.length).2<=5000):gB t=some ((y9 t t.hs.length).1.toNat,(y9 t t.hs.length).2):=if_neg Zac
end
def wh(k:Int):av:=.mk 17 [iV k] [] True (iV (cn k)) [] (by
 intro _
 refine aq Tryz.func17
  (.l8 2<|.q 2<|.br (.q 1<|.nil) (.q 2<|.br (.q 1<|.nil) (.q 2<|.br (.q 1<|.nil) (.q 1<|.nil))))
  (Br (o4 k 1) (Q (iN 2) (iV (cn k))) (Br (o4 k 2) (Q (iN 4) (iV (cn k))) (Br (o4 k 3) (Q (iN 8) (iV (cn k))) (Q (iN 0) (iV (cn k)))))) ?_
 refine bI (fun j7=>?_) fun j7=>?_;rw[cn,if_pos j7];rfl;refine bI (fun l3=>?_) fun l3=>?_;rw[cn,if_neg j7,if_pos l3];rfl;refine bI (fun m7=>?_) fun m7=>?_;rw[cn,if_neg j7,if_neg l3,if_pos m7];rfl;rw[cn,if_neg j7,if_neg l3,if_neg m7];rfl)
abbrev wY(n:BL)(b6:Int)(zs:List l4)(se:List BL)(ls:List r4)(gt g o c gb ix:Nat):V:=.tup [iV (max (zs.getD ix e9).re b6),bV (iu (zs.getD ix e9))]
def JL(n:BL)(b6:Int)(zs:List l4)(se:List BL)(ls:List r4)(gt g o c gb ix:Nat):av:=.mk 73 [.ptr (.key 1000) [2,ix] g (o+ix*8),kp 1001 gb] [(1001,(gb,kp 1000 gt)),(1000,(gt,bh n b6 zs g o c se ls))] (ix<zs.length) (wY n b6 zs se ls gt g o c gb ix) [(1001,(gb,kp 1000 gt)),(1000,(gt,bh n b6 zs g o c se ls))] (by
 intro hi
 refine aq Tryz.func73
  (.q 2<|.h (.s8 1000 (cb n b6 zs ix (zs.getD ix e9) ((zs.getD ix e9).td) g o c se ls))<|.QV (.key 1000) [2,ix,5] g (o+(ix)*8+7) 2 (((zs.getD ix e9).td).map aj) (fun gA Pe cA=>(fun y1:l4=>(.h (.s8 1000 (aZ n b6 zs ix y1 (y1.td) gA Pe cA g o c se ls))<|.C6 16 [(3,n6 [1000] [8]),(4,n6 [1001] [9]),(7,n6 [1000] [12]),(12,n6 [1000] [17])]<|.l8 3<|.r 1 [iV (y1.re)]<|.o6<|.l8 2<|.o6<|.mm<|.l8 3<|.r 1 [.own 2 ((y1.td).map aj) gA Pe cA]<|.l8 4<|.h (.Pw (.key 1000) [2,ix,5] g (o+(ix)*8+7) (.own 2 ((y1.td).map aj) gA Pe cA) (.ow 2 ((y1.td).map aj)))<|.h (.s8 1000 (cb n b6 zs ix y1 (y1.td) g o c se ls))<|.h (.s8 1000 (bh n b6 zs g o c se ls))<|.nil:Sc Tryz.prog)) (zs.getD ix e9)))
  ((fun v1:l4=>(fun v2:List V=>(((bh n b6 zs g o c se ls:V)=cb n b6 zs ix v1 (v1.td) g o c se ls)/\(V.at gt 0 (cb n b6 zs ix v1 (v1.td) g o c se ls) [2,ix,5]=some (g,o+(ix)*8+7,.ow 2 v2))/\∀ gA Pe cA:Nat,(fun v3:V=>(V.set (cb n b6 zs ix v1 (v1.td) g o c se ls) [2,ix,5] (.own 2 v2 gA Pe cA)=aZ n b6 zs ix v1 (v1.td) gA Pe cA g o c se ls)/\True/\(V.at gt 0 v3 [2,ix,1]=some (g,(o+ix*8+1),iV (v1.re)))/\Z gb 0/\True/\Z gt 1/\(IntKind.i64=IntKind.i64)/\True/\(V.at gt 0 v3 [2,ix,5]=some (g,(o+ix*8+7),.own 2 v2 gA Pe cA))/\(V.at gt 0 v3 [2,ix,5]=some (g,o+(ix)*8+7,.own 2 v2 gA Pe cA))/\(V.set v3 [2,ix,5] (.ow 2 v2)=cb n b6 zs ix v1 (v1.td) g o c se ls)/\((cb n b6 zs ix v1 (v1.td) g o c se ls:V)=bh n b6 zs g o c se ls)/\Q (.tup [iV (max (v1.re) b6),bV (s7 ((v2.length:Nat):Int) 0)]) (wY n b6 zs se ls gt g o c gb ix)/\Er gb (kp 1000 gt)/\Er gt (bh n b6 zs g o c se ls)) (aZ n b6 zs ix v1 (v1.td) gA Pe cA g o c se ls))) ((v1.td).map aj)) (zs.getD ix e9)) ?_
 refine⟨Zd5,aJ fun gA Pe cA=>bN (dU ⟨I9 (Zbm (V.own 8 · g o c) (gP (f:=an) (d:=e9) Zac).symm),⟨?_,aT⟩⟩)⟩;unfold Q wY;rw[BR])
abbrev np(n:BL)(b6:Int)(zs:List l4)(se:List BL)(ls:List r4)(gt g o c gb:Nat):V:=.tup [iV (max (y9 (⟨n,b6,zs,se,ls⟩:l5) zs.length).1 0),iV ((y9 (⟨n,b6,zs,se,ls⟩:l5) zs.length).2),bV (A9 (y9 (⟨n,b6,zs,se,ls⟩:l5) zs.length).1 0)]
abbrev eN(n:BL)(b6:Int)(zs:List l4)(se:List BL)(ls:List r4)(gt g o c gb i:Nat)(b q:Int):Prop:=i<=zs.length/\b=(y9 (⟨n,b6,zs,se,ls⟩:l5) i).1/\q=(y9 (⟨n,b6,zs,se,ls⟩:l5) i).2
def qG(n:BL)(b6:Int)(zs:List l4)(se:List BL)(ls:List r4)(gt g o c gb:Nat):av:=.mk 72 [.hd (.key 1000) [2] 8 g o 0 ((zs.map an).length) c,.lit (.func (.func 73) #[] #[.pointer (some ⟨gb,0,none⟩)])] [(1001,(gb,kp 1000 gt)),(1000,(gt,bh n b6 zs g o c se ls))] (zs.length<=1000) (np n b6 zs se ls gt g o c gb) [(1001,(gb,kp 1000 gt)),(1000,(gt,bh n b6 zs g o c se ls))] (by
 intro hl
 refine aq Tryz.func72
  (.q 3<|.q 2<|.q 3<|.loop (Nat×Int×Int) (fun (i,b,q)=>⟨[(0,.hd (.key 1000) [2] 8 g o 0 ((zs.map an).length) c),(1,.lit (.func (.func 73) #[] #[.pointer (some ⟨gb,0,none⟩)])),(7,iV b),(8,iV q),(13,iN zs.length),(14,iN i)],[(1001,(gb,kp 1000 gt)),(1000,(gt,bh n b6 zs g o c se ls))]⟩) (fun (i,b,q)=>eN n b6 zs se ls gt g o c gb i b q) (fun (i,b,q)=>zs.length-i) (fun (i,b,q)=>.q 1<|.br (.q 2<|.q 4<|.c (JL n b6 zs se ls gt g o c gb i) [(1000,1000),(1001,1001)]<|.q 5<|.q 10<|.br (.q 4<|.q 2<|.nil) (.q 2<|.nil)) (.q 1<|.mm<|.q 6<|.nil)))
  ((fun (v2 v1:V)=>((∃ x:Nat×Int×Int,match x with | (j6,H6,w8)=>(eN n b6 zs se ls gt g o c gb j6 H6 w8)/\E (.hd (.key 1000) [2] 8 g o 0 ((zs.map an).length) c)/\E v1/\Q (iV (-1)) (iV H6)/\Q (iN 0) (iV w8)/\Q (iN ((zs.map an).length)) (iN zs.length)/\Q (iN 0) (iN j6)/\Er gb v2/\Er gt (bh n b6 zs g o c se ls)/\True)/\∀ x:Nat×Int×Int,match x with | (i,b,q)=>(eN n b6 zs se ls gt g o c gb i b q)->Br (r6 (i:Int) (zs.length:Int)) (In (i:Int) ((zs.map an).length)/\(([.ptr (.key 1000) [2,i] g (o+(0+i)*8),kp 1001 gb]:List V)=[.ptr (.key 1000) [2,i] g (o+i*8),kp 1001 gb])/\Er gb v2/\Er gt (bh n b6 zs g o c se ls)/\((i<zs.length))/\Gd ((iu (zs.getD i e9))==true) (Pk (r6 b 0) true (((iu (zs.getD i e9))==true)&&((r6 b 0)==false)))/\Pk (iu (zs.getD i e9)) ((iu (zs.getD i e9))==true) true/\Br ((iu (zs.getD i e9))&&((r6 b 0)||(r6 (max (zs.getD i e9).re b6) q))) (m5 ((i:Int)+1)/\∃ x:Nat×Int×Int,match x with | (b7,x5,m9)=>(eN n b6 zs se ls gt g o c gb b7 x5 m9)/\(zs.length-b7<zs.length-i)/\E (.hd (.key 1000) [2] 8 g o 0 ((zs.map an).length) c)/\E v1/\Q (iN i) (iV x5)/\Q (iV (max (zs.getD i e9).re b6)) (iV m9)/\E (iN zs.length)/\Q (iN (i+1)) (iN b7)/\Er gb v2/\Er gt (bh n b6 zs g o c se ls)/\True) (m5 ((i:Int)+1)/\∃ x:Nat×Int×Int,match x with | (b7,x5,m9)=>(eN n b6 zs se ls gt g o c gb b7 x5 m9)/\(zs.length-b7<zs.length-i)/\E (.hd (.key 1000) [2] 8 g o 0 ((zs.map an).length) c)/\E v1/\Q (iV b) (iV x5)/\Q (iV q) (iV m9)/\E (iN zs.length)/\Q (iN (i+1)) (iN b7)/\Er gb v2/\Er gt (bh n b6 zs g o c se ls)/\True)) ((IntKind.i64=IntKind.i64)/\Q (.tup [iV (max b 0),iV q,bV (A9 b 0)]) (np n b6 zs se ls gt g o c gb)/\Er gb v2/\Er gt (bh n b6 zs g o c se ls)))) (kp 1000 gt) (.lit (.func (.func 73) #[] #[.pointer (some ⟨gb,0,none⟩)]))) ?_
 refine⟨⟨(0, -1,0),?_,rfl,rfl,rfl,Zah,Zah,aT⟩,?_⟩;unfold eN;exact⟨Zad,rfl,rfl⟩;rintro⟨i,b,q⟩ ⟨h1,h2,h3⟩;refine bI (fun j7=>?_) fun j7=>?_;refine aJ ⟨Zd6,dF (bI (fun l3=>?_) fun l3=>?_)⟩;refine aJ ⟨(i+1,(i:Int),max (zs.getD i e9).re b6),?_,?_,rfl,rfl,Zah,aT⟩;unfold eN;first | exact⟨Zac,by rw[Ac Zac h2 h3 l3],by rw[Ac Zac h2 h3 l3]⟩ | exact⟨Zac,by rw[AD Zac h2 h3 l3];exact h2,by rw[AD Zac h2 h3 l3];exact h3⟩
 exact Zak;refine aJ ⟨(i+1,b,q),?_,?_,aT⟩;unfold eN;first | exact⟨Zac,by rw[Ac Zac h2 h3 l3],by rw[Ac Zac h2 h3 l3]⟩ | exact⟨Zac,by rw[AD Zac h2 h3 l3];exact h2,by rw[AD Zac h2 h3 l3];exact h3⟩
 exact Zak;refine⟨rfl,⟨?_,aT⟩⟩;unfold Q np;obtain rfl:i=zs.length:=Zac;rw[h2,h3])
abbrev rE(n:BL)(b6:Int)(zs:List l4)(se:List BL)(ls:List r4)(gt:Nat):V:=.tup [iN (r3 (⟨n,b6,zs,se,ls⟩:l5)),iV (B9 (⟨n,b6,zs,se,ls⟩:l5)),bV ((gB (⟨n,b6,zs,se,ls⟩:l5)).isSome)]
def vl(n:BL)(b6:Int)(zs:List l4)(se:List BL)(ls:List r4)(gt:Nat):av:=.mk 42 [kp 1000 gt] [(1000,(gt,bR n b6 zs se ls))] (zs.length<=1000) (rE n b6 zs se ls gt) [(1000,(gt,bR n b6 zs se ls))] (by
 intro hl
 refine aq Tryz.func42
  (.oR (.key 1000) [2] (fun g o c=>.bx (fun g1=>.q 3<|.r 4 [.b9,.b9]<|.cu UQ (fun _=>.c (qG n b6 zs se ls gt g o c g1) [(1001,1),(1000,1000)]<|.q 7<|.q 6<|.br (.q 3<|.nil) (.q 5<|.nil)))))
  ((fun v1:l5=>(fun v2:Bool=>(∀ g o c:Nat,∀ g1:Nat,Z g1 0/\True/\Z gt 2/\((Value.func (.func 73) #[] #[.pointer (some ⟨g1,0,none⟩)]).oneCell'=true)/\∀ _:Unit,(qG n b6 zs se ls gt g o c g1).sm/\Er g1 (kp 1000 gt)/\Er gt (bh n b6 zs g o c se ls)/\((zs.length<=1000))/\Pk v2 true (v2==false)/\Br (v2||(s7 ((y9 v1 zs.length).2) 5000)) (Q (.tup [iN 0,iN 0,bV false]) (rE n b6 zs se ls gt)/\Er gt (bR n b6 zs se ls)) (Q (.tup [iV (max (y9 v1 zs.length).1 0),iV ((y9 v1 zs.length).2),bV true]) (rE n b6 zs se ls gt)/\Er gt (bR n b6 zs se ls)))) (!(A9 (y9 v1 zs.length).1 0))) (⟨n,b6,zs,se,ls⟩:l5)) ?_
 intro g o c;intro g1;refine cG fun _=>⟨rfl,rfl,rfl,hl,aJ (bI (fun j7=>?_) fun j7=>?_)⟩;refine⟨?_,rfl⟩;unfold Q rE;rw[r3,B9,Bq (t:=⟨n,b6,zs,se,ls⟩) j7];rfl;refine⟨?_,rfl⟩;unfold Q rE;rw[r3,B9,Bn (t:=⟨n,b6,zs,se,ls⟩) j7];rw[show max (y9 ⟨n,b6,zs,se,ls⟩ zs.length).1 0=((y9 ⟨n,b6,zs,se,ls⟩ zs.length).1.toNat:Int) from Zac];rfl)
abbrev sf(p0:BL)(p1:Int)(p2:List l4)(p3 p4 p5:Nat)(p6:List BL)(p7:List r4)(p8 p9 J9:Nat):V:=.agg [sV p0,iV p1,.own 8 (p2.map an) p3 p4 p5,.ow 1 (p6.map sV),.own 3 (p7.map aP) p8 p9 J9]
abbrev IL(p0:BL)(p1:Int)(p2:List l4)(p3:Nat)(p4:BL)(p5:Int)(p6:Bool)(p7:List BL)(p8:List r7)(p9:Nat)(J9:Int)(I6:List s6)(H2 G9 G8:Nat)(G7:List BL)(J8:List r4)(OU PO Qd:Nat):V:=.agg [sV p0,iV p1,.own 8 ((p2.take p3).map an++(.agg [sV p4,iV p5,bV p6,.agg [.sl false (p7.map sV),.sl false (p8.map au),iN p9],iV J9,.ow 2 (I6.map aj)]:V)::(p2.drop (p3+1)).map an) H2 G9 G8,.ow 1 (G7.map sV),.own 3 (J8.map aP) OU PO Qd]
abbrev uf(p0:BL)(p1:Int)(p2:List l4)(p3:Nat)(y4:l4)(I6:List s6)(H2 G9 G8:Nat)(G7:List BL)(J8:List r4)(OU PO Qd:Nat):V:=IL p0 p1 p2 p3 y4.na y4.re y4.kn y4.gr.na y4.gr.ru y4.gr.wa y4.tr I6 H2 G9 G8 G7 J8 OU PO Qd
abbrev jR(p0:BL)(p1:Int)(p2:List l4)(p3:Nat)(p4:BL)(p5:Int)(p6:Bool)(y7:l7)(J9:Int)(I6:List s6)(H2 G9 G8:Nat)(G7:List BL)(J8:List r4)(OU PO Qd:Nat):V:=IL p0 p1 p2 p3 p4 p5 p6 y7.na y7.ru y7.wa J9 I6 H2 G9 G8 G7 J8 OU PO Qd
theorem nF(k:Int):0<=cn k/\cn k<=8:=by unfold cn;split <;> (try split) <;> (try split) <;> omega
theorem Jq{y:l4}{b6 k m:Int}(h:k=3):fv y b6 k m={ y with re:=b6+max (y.gr.wa:Int) 1+cn (m+1) }:=by unfold fv;rw[if_pos h]
theorem Bi{y:l4}{b6 k m:Int}(h: ¬ k=3):fv y b6 k m={ y with re:=b6+max (y.gr.wa:Int) 1 }:=by unfold fv;rw[if_neg h,Int.add_zero]
def tc(w:List Pg)(t:l5):fY:=.mk (Nat×Nat) 31 [ba w,aD t] [] ((w.length<=30)/\(∀ i,r8 (w.getD i r9))/\(x3 t)/\(aK w=true)/\(aE t=true)) (fun x=>True) (fun x=>.tup [.ptr (.key 1001) [] x.1 0,bV true]) (fun x=>[(1001,(x.1,.agg [.mp (w.map I4),.ptr (.key 1000) [] x.2 0])),(1000,(x.2,dh t))]) (by
 rintro⟨hw,hz,ht,hk,P6⟩
 refine uH (N:=26) (rs:=[.tmp 4,.tmp 5]) (X:=Nat×Nat) (post:=fun x=>True) (E:=fun x=>.tup [.ptr (.key 1001) [] x.1 0,bV true]) (H':=fun x=>[(1001,(x.1,.agg [.mp (w.map I4),.ptr (.key 1000) [] x.2 0])),(1000,(x.2,.agg [sV t.na,iV t.b6,.ow 8 (t.hs.map an),.ow 1 (t.se.map sV),.ow 3 (t.lk.map aP)]))]) Tryz.func31 Zae rfl rfl rfl Zae [(1001,(0,.b9)),(1000,(0,.b9))] (by intro _ k hk;simp only[lk]at hk ⊢;repeat (split at hk <;> simp_all))
  (.bx (fun g3=>.q 2<|.q 1<|.c (nL w) []<|.q 5<|.r 4 [.b9]<|.cg (jc t)<|.q 2<|.br (.nil) (.o6<|.c (vm t) []<|.al fo (fun g8=>.st none<|.q 1<|.bd Oz<|.bx (fun SO=>.q 2<|.h (.rk 25 1001)<|.h (.rk 8 1000)<|.nil)))))
  (∀ g3:Nat,(nL w).sm/\((w.length<=30)/\(∀ i,r8 (w.getD i r9))/\(aK w=true))/\Gd ((!true)==false) (Z g3 0)/\Gd ((!true)==false) (((x3 t))/\(jc t).sm)/\Pk (!true) true ((!true)==false)/\Br ((!true)||(!(aE t))) (False) (Z g3 0/\(vm t).sm/\((x3 t))/\∀ g8:Nat,Z g8 0/\∀ SO:Nat,∃ x:Nat×Nat,(True)/\Q (.tup [kp 1001 SO,bV true]) (.tup [.ptr (.key 1001) [] x.1 0,bV true])/\Qr SO (.agg [.mp (w.map I4),kp 1000 g8]) x.1 (.agg [.mp (w.map I4),.ptr (.key 1000) [] x.2 0])/\Qr g8 (dh t) x.2 (dh t)))
  Zae ?_
 intro g3;refine⟨rfl,⟨hw,hz,hk⟩,aJ ⟨fun hG=>⟨ht,rfl⟩,aJ (bI (fun j7=>?_) fun j7=>?_)⟩⟩
 · all_goals simp_all
 · refine⟨rfl,rfl,ht,fun g8=>⟨rfl,fun SO=>⟨(SO,g8),?_,?_,?_⟩⟩⟩
   · try dsimp only
     all_goals trivial
   exact Zaa;first | rfl | exact⟨rfl,rfl⟩ | simp_all)
def qF(w:List Pg)(t:l5):av:=.mk 31 [ba w,aD t] [] ((w.length<=30)/\(∀ i,r8 (w.getD i r9))/\(x3 t)/\((aK w&&aE t)=false)) (.tup [.b9,bV false]) [] (by
 rintro⟨hw,hz,ht,hk⟩
 refine aq Tryz.func31
  (.bx (fun g3=>.q 2<|.q 1<|.sp (aK w) (.c (nL w) []<|.q 5<|.r 4 [.b9]<|.cg (jc t)<|.q 2<|.br (.q 2<|.nil) (.nil)) (.c (vg w) []<|.q 5<|.r 4 [.b9]<|.cg (jc t)<|.q 2<|.br (.q 2<|.nil) (.nil))))
  ((fun v1:V=>(∀ g3:Nat,((aK w)=true->(nL w).sm/\((w.length<=30)/\(∀ i,r8 (w.getD i r9))/\(aK w=true))/\Gd ((!true)==false) (Z g3 0)/\Gd ((!true)==false) (((x3 t))/\(jc t).sm)/\Pk (!true) true ((!true)==false)/\Br ((!true)||(!(aE t))) (Q v1 v1) (False))/\((aK w)=false->(vg w).sm/\((w.length<=30)/\(∀ i,r8 (w.getD i r9))/\(aK w=false))/\Gd ((!false)==false) (Z g3 0)/\Gd ((!false)==false) (((x3 t))/\(jc t).sm)/\Pk (!false) true ((!false)==false)/\Br ((!false)||(!(aE t))) (Q v1 v1) (False)))) (.tup [.b9,bV false])) ?_
 intro g3;refine⟨fun RP=>?_,fun RP=>?_⟩
 · have TT:=RP;try simp only[nb]at TT
   refine⟨rfl,⟨hw,hz,RP⟩,aJ ⟨fun hG=>⟨ht,rfl⟩,aJ (bI (fun j7=>?_) fun j7=>?_)⟩⟩;rfl
   · all_goals simp_all
 · have TT:=RP;try simp only[nb]at TT
   refine⟨rfl,⟨hw,hz,RP⟩,aJ ⟨fun hG=>⟨ht,rfl⟩,aJ (bI (fun l3=>?_) fun l3=>?_)⟩⟩;rfl
   · all_goals simp_all)
def zJ(n:BL)(b6:Int)(zs:List l4)(se:List BL)(ls:List r4)(gt g o c gw ix:Nat)(w:List Pg)(a:BL)(k:Int)(y:l4):av:=.mk 145 [kp 1001 gw,.ptr (.key 1000) [2,ix] g (o+ix*8),sV a,iV k] [(1001,(gw,.agg [.mp (w.map I4),kp 1000 gt])),(1000,(gt,bh n b6 zs g o c se ls))] ((ix<zs.length)/\(ls.length<=1000)/\(0<=k/\k<=1000)/\(0<=b6/\b6<=100000)/\(zs.getD ix e9=y)/\(y.gr.wa<=1000)) (.tup [iV ((ah w a k).1),sV ((ah w a k).2)]) [(1001,(gw,.agg [.mp (w.map I4),kp 1000 gt])),(1000,(gt,bh n b6 (zs.set ix (fv y b6 (ah w a k).1 k)) g o c se (ls++[(⟨b6,a,(ah w a k).1⟩:r4)])))] (by
 rintro⟨hi,hl,hk,hn,ZK,hy⟩
 refine aq Tryz.func145
  (.oR (.key 1000) [4] (fun gl Pp cl=>(fun (y2:Int) (y1:r4)=>(.q 2<|.r 5 [.b9]<|.r 6 [.b9]<|.c (yy w a k) []<|.q 5<|.C6 14 [(4,n6 [1000] [31]),(8,n6 [1000] [35]),(13,⟨true,[],none,[40],[1000]⟩)]<|.l8 4<|.o6<|.l8 3<|.o6<|.l8 2<|.bd wq<|.bs<|.ux none (fun H5 H3 K1=>.h (.m8 40 (.own 3 ((ls++[y1]).map aP) H5 H3 K1))<|.q 2<|.st none<|.h (.s8 1000 (uf n b6 zs ix y (y.td) g o c se (ls++[y1]) H5 H3 K1))<|.C6 12 [(4,n6 [1000] [47]),(9,n6 [1000] [52])]<|.l8 4<|.o6<|.l8 4<|.r 1 [iN (y.gr.wa)]<|.mm<|.q 1<|.q 2<|.st (some (iV (y.re)))<|.h (.s8 1000 (jR n b6 zs ix (y.na) (b6+(max y2 1)) (y.kn) y.gr (y.tr) (y.td) g o c se (ls++[y1]) H5 H3 K1))<|.q 2<|.br (.C6 7 [(3,n6 [1000] [62])]<|.l8 3<|.r 1 [iV (b6+(max y2 1))]<|.l8 2<|.c (wh (k+1)) []<|.q 3<|.st (some (iV (b6+(max y2 1))))<|.h (.s8 1000 (jR n b6 zs ix (y.na) ((b6+(max y2 1))+(cn (k+1))) (y.kn) y.gr (y.tr) (y.td) g o c se (ls++[y1]) H5 H3 K1))<|.q 4<|.h (.s8 1000 (sf n b6 (zs.set ix ({ y with re:=(b6+(max y2 1))+(cn (k+1)) }:l4)) g o c se (ls++[y1]) H5 H3 K1))<|.nil) (.q 4<|.h (.s8 1000 (sf n b6 (zs.set ix ({ y with re:=b6+(max y2 1) }:l4)) g o c se (ls++[y1]) H5 H3 K1))<|.nil)):Sc Tryz.prog)) ((y.gr.wa:Nat):Int) (⟨b6,a,(ah w a k).1⟩:r4)))
  ((fun (v2:Int) (v1:r4)=>(fun (v7 v5 v3:V) (v6:l4) (v4:List V)=>(∀ gl Pp cl:Nat,True/\Z gw 1/\True/\Z gw 0/\(yy w a k).sm/\((0<=k)/\(k<=1000))/\True/\Z gt 4/\True/\Z gt 1/\(((3,3,gl,Pp,cl,(ls.map aP).length)=(3,3,gl,Pp,cl,(ls.map aP).length))/\(V.ax v4=false)/\(aS 3 v4)/\(((ls.map aP).length+v4.length)*32<=140737488355328))/\∀ H5 H3 K1:Nat,(fun v8:V=>(fun (v10:Prop) (v9:V)=>((.own 3 ((ls.map aP)++v4) H5 H3 K1:V)=.own 3 ((ls++[v1]).map aP) H5 H3 K1)/\True/\Z gt 4/\((sf n b6 zs g o c se (ls++[v1]) H5 H3 K1:V)=uf n b6 zs ix y (y.td) g o c se (ls++[v1]) H5 H3 K1)/\True/\Z gt 1/\True/\(V.at gt 0 v9 [2,ix,3,2]=some (g,(o+ix*8+3+2),iN (y.gr.wa)))/\(IntKind.i64=IntKind.i64)/\m5 (b6+(max v2 1))/\True/\(V.at gt 0 v9 [2,ix,1]=some (g,(o+ix*8+1),iV (y.re)))/\(V.set v9 [2,ix,1] (iV (b6+(max v2 1)))=jR n b6 zs ix (y.na) (b6+(max v2 1)) (y.kn) y.gr (y.tr) (y.td) g o c se (ls++[v1]) H5 H3 K1)/\Br (o4 ((ah w a k).1) 3) (True/\v10/\m5 (k+1)/\(wh (k+1)).sm/\(True)/\m5 ((b6+(max v2 1))+(cn (k+1)))/\True/\v10/\(V.set v8 [2,ix,1] (iV ((b6+(max v2 1))+(cn (k+1))))=jR n b6 zs ix (y.na) ((b6+(max v2 1))+(cn (k+1))) (y.kn) y.gr (y.tr) (y.td) g o c se (ls++[v1]) H5 H3 K1)/\((jR n b6 zs ix (y.na) ((b6+(max v2 1))+(cn (k+1))) (y.kn) y.gr (y.tr) (y.td) g o c se (ls++[v1]) H5 H3 K1:V)=sf n b6 (zs.set ix v6) g o c se (ls++[v1]) H5 H3 K1)/\Q v3 v3/\Er gw v7/\Qr gt (bh n b6 (zs.set ix v6) g o c se (ls++[v1])) gt v5) (((jR n b6 zs ix (y.na) (b6+(max v2 1)) (y.kn) y.gr (y.tr) (y.td) g o c se (ls++[v1]) H5 H3 K1:V)=sf n b6 (zs.set ix ({ y with re:=b6+(max v2 1) }:l4)) g o c se (ls++[v1]) H5 H3 K1)/\Q v3 v3/\Er gw v7/\Qr gt (bh n b6 (zs.set ix ({ y with re:=b6+(max v2 1) }:l4)) g o c se (ls++[v1])) gt v5)) (V.at gt 0 v8 [2,ix,1]=some (g,(o+ix*8+1),iV (b6+(max v2 1)))) (uf n b6 zs ix y (y.td) g o c se (ls++[v1]) H5 H3 K1)) (jR n b6 zs ix (y.na) (b6+(max v2 1)) (y.kn) y.gr (y.tr) (y.td) g o c se (ls++[v1]) H5 H3 K1))) (.agg [.mp (w.map I4),kp 1000 gt]) (bh n b6 (zs.set ix (fv y b6 (ah w a k).1 k)) g o c se (ls++[v1])) (.tup [iV ((ah w a k).1),sV ((ah w a k).2)]) ({ y with re:=(b6+(max v2 1))+(cn (k+1)) }:l4) ([fH b6 a ((ah w a k).1)]:List V)) ((y.gr.wa:Nat):Int) (⟨b6,a,(ah w a k).1⟩:r4)) ?_
 subst ZK;intro gl Pp cl;refine dF ⟨⟨hk.1,hk.2⟩,cG ⟨bN Zal,fun H5 H3 K1=>⟨Zbm (V.own 3 · H5 H3 K1) Zad,trivial,rfl,Zd5,aJ (dU (bI (fun j7=>?_) fun j7=>?_))⟩⟩⟩;refine dF ⟨by have:=nF (k+1);omega,bN ⟨I9 (Zbm (V.own 8 · g o c) (eC (f:=an) (x:=({ (zs.getD ix e9) with re:=(b6+(max (((zs.getD ix e9).gr.wa:Nat):Int) 1))+(cn (k+1)) }:l4)) Zac)),⟨?_,rfl,by rw[Jq j7]⟩⟩⟩;rfl;refine⟨I9 (Zbm (V.own 8 · g o c) (eC (f:=an) (x:=({ (zs.getD ix e9) with re:=b6+(max (((zs.getD ix e9).gr.wa:Nat):Int) 1) }:l4)) Zac)),⟨?_,rfl,by rw[Bi j7]⟩⟩;rfl)
section
variable {P:Program} {w w':World} {Pb Kb:Nat->Prop} {N:Nat} {A:AS} {a:Act} {F:l9->List Nat}
theorem set_set:∀ (p:List Nat) (v x y:V),(v.set p x).set p y=v.set p y
 | [],_,_,_=>rfl
 | j::p,v,x,y=>by
   cases v with
   | agg vs=>
     simp only[V.set];cases h:vs[j]? with
     | none=>simp only[h]
     | some u=>
       have hj:=(Za3.1 h).1;simp only[List.getElem?_set_self hj,List.set_set,set_set p u x y]
   | own sz xs g o c=>
     simp only[V.set];cases h:xs[j]? with
     | none=>simp only[h]
     | some u=>
       have hj:=(Za3.1 h).1;simp only[List.getElem?_set_self hj,List.set_set,set_set p u x y]
   | _=>rfl
theorem vb:∀ (p:List Nat) {v u x:V} {g o g' o':Nat},V.at g o v p=some (g',o',u)->V.at g o (v.set p x) p=some (g',o',x)
 | [],v,u,x,g,o,g',o',h=>by
   simp only[V.at,Zan,Zaq]at h ⊢;exact⟨h.1,h.2.1,rfl⟩
 | j::p,v,u,x,g,o,g',o',h=>by
   simp only[V.at]at h;split at h;rename_i vs;split at h;rename_i y hy;have hj:=(Za3.1 hy).1;simp only[V.set,hy,V.at,List.getElem?_set_self hj];rw[List.take_set_of_le (Zbc _)];exact vb p h;simp at h;rename_i sz xs g1 o1 c1;split at h;rename_i y hy;have hj:=(Za3.1 hy).1;simp only[V.set,hy,V.at,List.getElem?_set_self hj];exact vb p h;simp at h;simp at h
theorem nD:∀ (xs ys:List V) {cs:List Value},RL w Pb (xs++ys) cs []->RL w Pb xs (cs.take (V.ns xs)) []/\RL w Pb ys (cs.drop (V.ns xs)) []
 | [],ys,cs,h=>⟨⟨by simp[V.ns],rfl⟩,by simpa[V.ns] using h⟩
 | x::xs,ys,cs,h=>by
   obtain⟨c1,c2,F1,F2,rfl,hF,h1,h2⟩:=h;obtain⟨rfl,rfl⟩:=List.append_eq_nil_iff.1 hF.symm;obtain⟨k1,k2⟩:=nD xs ys h2;have hl:=eI x h1;have e:V.ns (x::xs)=c1.length+V.ns xs:=by simp only[V.ns];omega
   rw[e,List.take_length_add_append,List.drop_length_add_append];exact⟨⟨c1,_,[],[],rfl,rfl,h1,k1⟩,k2⟩
theorem C9.same{g o:Nat}{cs:List Value}{cells:Array Value}(hb:Blk w g cells)(h:∀ j u,cs[j]? =some u->cells[o+j]? =some u):C9 w w g o cs where
 os:=rfl
 tape:=rfl
 output:=rfl
 size:=rfl
 PS:=fun _ _=>rfl
 shape:=Shp.refl _
 QK:=fun n8 K4=>by
  obtain⟨e,fr,h1,h2⟩:=hb;obtain⟨e',Zm,UI,Zj⟩:=K4;rw[h1]at UI;simp only[Zan,Obj.cells.injEq]at UI;obtain⟨rfl,_,_⟩:=UI;exact⟨cells,⟨e',Zm,by rw[h1];simp_all,Zj⟩,rfl,fun _ _=>rfl,h⟩
theorem u7.BE(hs:u7 N Pb Kb A a w F) {k g1 o1 sz g o c lo:Nat} {p:List Nat} {xs xs':List V} {new:List Value} (A7:A.at (.key k) p=some (g1,o1,.own sz xs g o c)) (hc:0<c) (K7:V.ax xs=false)
 (hlo:lo+new.length<=xs.length*sz) (hlen:xs'.length=xs.length) (hN:aS sz xs') (h1:∀ v,v∈new->v.oneCell'=true)
 (Rf:∀ flat,RL w Pb xs flat []->RL w Pb xs' (flat.take lo++new++flat.drop (lo+new.length)) []):
 ∃ w' F',(storeCells ⟨g,o+lo,none⟩ new 0).run P w=.ok () w'/\u7 N Pb Kb (A.setAt (.key k) p (.own sz xs' g o c)) a w' F'/\A3 Kb w w':=by
 obtain⟨Fr,Fu,Pl,⟨cs,cells,hb,N0,u0⟩,hnd,w7,hfr⟩:=hs.split A7;rcases N0 with ⟨h0,_⟩ | ⟨UI,hsz,hle,hcs,hN0,W8,flat,F',Rl,XI,hr,l3,WG,Ua⟩;omega;have hF0:=gg xs K7 hr;subst hF0;subst XI;have hfl:flat.length=xs.length*sz:=by rw[jh _ hr,oX _ hN0]
 have U5:xs.length*sz<=c*sz:=Nat.mul_le_mul_right _ hle;obtain⟨w',B5,B4⟩:=gT (P:=P) (g:=g) (o:=o+lo) new 0 w Rl l3 Zac h1;rw[Nat.add_zero]at B4;have hg:=hfr g Zad;have L7:u7 N Pb Kb (A.setAt (.key k) p .b9) a w' (cf F (.key k) Fr):=Pl.PS (fun r=>w7 r g Zad) hg.1 B4.PS B4.size;have Y8:∀ x,Pb x->w'.heap[x]? =w.heap[x]? :=fun x hx=>B4.PS x (by rintro rfl;exact W8 hx);obtain⟨n8,K4,hsize,Qh,TW⟩:=B4.QK Rl l3;have hnl:=Rf flat hr;have hR:R w' Pb (.own sz xs' g o c) cs [g]:=by
  refine .inr ⟨UI,hsz,Zac,by rw[hlen];exact hcs,hN,W8,_,[],n8,rfl,eH xs' hnl Y8 Zad (fun _ h=>h) Zad,K4,Zac,fun j u hu=>?_⟩;by_cases j1:j<lo;rw[List.append_assoc,Za9 Zal,List.getElem?_take_of_lt j1]at hu;rw[Qh _ (.inl Zac)];exact Ua j u hu;by_cases j2:j<lo+new.length;rw[List.append_assoc,Za4 Zal,Za9 Zal]at hu;have:=TW _ _ hu;have e:(flat.take lo).length=lo:=by rw[List.length_take];omega
  rw[e,show o+lo+(j-lo)=o+j from Zac]at this;exact this;have e:(flat.take lo++new).length=lo+new.length:=by rw[Zap,List.length_take];omega
  rw[Za4 Zac,e,List.getElem?_drop,show lo+new.length+(j-(lo+new.length))=j from Zac]at hu;rw[Qh _ (.inr Zac)];exact Ua j u hu
 have U6:(A.setAt (.key k) p .b9).at (.key k) p=some (g1,o1,.b9):=by
  simp only[AS.at]at A7;split at A7;rename_i g0 t hk;simp only[AS.setAt,hk,AS.at,lk,if_true];exact vb p A7;simp at A7
 have UE:g1≠g:=by
  have hh:=U6;simp only[AS.at]at hh;split at hh;rename_i g0 t hk;obtain⟨PI,e,hA⟩:=Pl.root k g0 t hk;have hin:g1∈cf F (.key k) Fr (.key k):=by
   rw[e];rcases iy p hA hh with ⟨h,_⟩ | h;rw[h];simp;simp[h]
  rintro rfl;exact w7 (.key k) g1 Zad hin;simp at hh
 have Z9:C9 w' w' g1 o1 cs:=by
  obtain⟨e,fr,YE,hf⟩:=hb;exact C9.same (cells:=cells) ⟨e,fr,(B4.PS g1 UE).trans YE,hf⟩ u0
 obtain⟨F3,Pj,_⟩:=L7.store U6 hR (by rfl) hnd (fun r x hx=>w7 r x hx) (fun x hx=>by rw[B4.size];exact hfr x hx) Z9;refine⟨w',F3,B5,Pj.eqv ⟨fun i=>?_,fun q=>?_⟩,⟨B4.os,B4.tape,B4.output,by rw[B4.size];omega,fun x hx=>B4.PS x (by rintro rfl;exact hg.1 hx),B4.shape⟩⟩;simp only[AS.at]at A7;split at A7;rename_i g0 t hk;simp only[AS.setAt,hk,lk,if_true];rfl;simp at A7;simp only[AS.at]at A7;split at A7;rename_i g0 t hk;simp only[AS.setAt,hk,lk,if_true,set_set];split <;> rfl;simp at A7
theorem Jg{zc:Array Value}(h:0<zc.size)(n:Nat):(Builtin.zeroCells zc (n+1)).toList=zc.toList++(Builtin.zeroCells zc n).toList:=by
 apply List.ext_getElem;simp[Builtin.zeroCells,Nat.add_mul];omega;intro i h1 h2;by_cases hi:i<zc.size;rw[List.getElem_append_left Zbn];simp[Builtin.zeroCells,Nat.mod_eq_of_lt hi,hi];rw[List.getElem_append_right Zbn];simp only[Builtin.zeroCells,Array.getElem_toList,Array.getElem_map,Array.getElem_range,Array.length_toList];rw[Nat.mod_eq_sub_mod Zac]
theorem CX{v:V}{zc:Array Value}(h:0<zc.size)(hr:R w Pb v zc.toList []):∀ n,RL w Pb (List.replicate n v) (Builtin.zeroCells zc n).toList []
 | 0=>⟨by simp[Builtin.zeroCells],rfl⟩
 | n+1=>by
   rw[Jg h,List.replicate_succ];exact⟨_,_,[],[],rfl,rfl,hr,CX h hr n⟩
theorem ER{zc:Array Value}(n:Nat):(Builtin.zeroCells zc n).toList.length=n*zc.size:=by simp[Builtin.zeroCells]
theorem Mv{v:V}{zc:Array Value}(h:0<zc.size)(hr:R w Pb v zc.toList [])(n:Nat):∀ x,x∈(Builtin.zeroCells zc n).toList->x.oneCell'=true:=qI _ (CX h hr n)
theorem vc:∀ (xs:List V) (k:Nat),V.ax xs=false->V.ax (xs.take k)=false
 | xs,0,h=>by simp[V.ax]
 | [],k+1,h=>by simpa using h
 | v::vs,k+1,h=>by
   simp only[V.ax,Bool.or_eq_false_iff]at h;simp only[List.take_succ_cons,V.ax,Bool.or_eq_false_iff];exact⟨h.1,vc vs k h.2⟩
def clC(k:Nat)(p:List Nat)(lo n sz:Nat)(xs:List V)(g q c g1 o1:Nat)(z:ZT P):Cu P where
 X:=Unit
 pre _ o A:=match o.op,o.dst with
  | .call ⟨.builtin .clear,⟨[x]⟩,⟨[T]⟩⟩,none=>match tD P T,A.ev x with
    | some (.sl e),.hd r p' L3 g' o' Pq n' _=>((e,r,p',L3,g',o',Pq,n')=(z.T,l9.key k,p,sz,g,q,lo,n))/\A.at (.key k) p=some (g1,o1,.own sz xs g q c)/\lo+n<=xs.length/\V.ax xs=false/\aS sz xs/\z.v.n=sz
    | _,_=>False
  | _,_=>False
 post _ _ A:=A.setAt (.key k) p (.own sz (xs.take lo++List.replicate n z.v++xs.drop (lo+n)) g q c)
 ok:=by
  rintro N ⟨dst,op,ty,pos,after,D4⟩ A K-hp hK;replace hK:=hK ();simp only at hp;split at hp;rename_i x T;split at hp;rename_i e r p' L3 g' o' Pq n' c' e1 e2;obtain⟨h1,A7,hlo,K7,hN,Yc⟩:=hp;simp only[Zaq]at h1;obtain⟨rfl,rfl,rfl,rfl,rfl,rfl,rfl,rfl⟩:=h1;intro Pb Kb a w F Q hs;obtain⟨_,hx⟩:=dS hs x;rw[e2]at hx;obtain⟨_,hle,B,hv,hB⟩:=hx;have hv:a.eval x=.slice B n' c':=(List.cons.inj hv).1;have hu:=iQ e1;unfold Oper.wp;by_cases hn:n'=0;subst hn;have B5:(execOp a.eval ⟨none,.call ⟨.builtin .clear,⟨[x]⟩,⟨[T]⟩⟩,ty,pos,after,D4⟩).run P w=.ok (.value (.tuple #[])) w:=by
   cases B <;> simp[execOp,resolve,Deferred.ofValue,invoke,builtin,Builtin.clear_,hv,aH hu]
  rw[B5,Oper.upon_value];obtain⟨cu,Fu,q1,q2⟩:=hs.sq A7;have:=q2 _ rfl q1;have t2:u7 N Pb Kb (A.setAt (.key k) p' (.own L3 (xs.take Pq++List.replicate 0 z.v++xs.drop (Pq+0)) g' o' c)) a w F:=by simpa using this
  exact⟨_,Pb,Kb,F,hK,t2,fun _ h=>h,fun _ h=>h,fun _ h=>.inl h,A3.refl _ _⟩;obtain rfl:=hB Zac;obtain⟨inf,zv,z1,z2,z3⟩:=z.ok;have Xw:R w Pb z.v zv.cells.toList []:=rD z.v z3;have Wx:zv.cells.size=z.v.n:=by have:=eI _ Xw;simpa using this
  obtain⟨Fr,Fu,_,⟨cs,cells,_,N0,_⟩,_⟩:=hs.split A7;have hc:0<c/\0<z.v.n:=by
   rcases N0 with ⟨_,rfl,_⟩ | ⟨h,h2,_⟩;simp at hlo;omega;exact⟨h,by rw[Yc];exact h2⟩
  have e9:0<zv.cells.size:=by rw[Wx];exact hc.2
  have TV:n'*zv.cells.size=n'*L3:=by rw[Wx,Yc]
  have hbd:Pq*L3+n'*L3<=xs.length*L3:=by rw[<- Nat.add_mul];exact Nat.mul_le_mul_right _ hlo
  obtain⟨w',F',B5,A8,hk⟩:=hs.BE (P:=P) (lo:=Pq*L3) (xs':=xs.take Pq++List.replicate n' z.v++xs.drop (Pq+n')) (new:=(Builtin.zeroCells zv.cells n').toList) A7 hc.1 K7 (by rw[ER,TV];exact hbd)
   Zal (fun v hv=>by
    rcases Zax.1 hv with h | h;rcases Zax.1 h with h | h;exact hN v (List.mem_of_mem_take h);rw[(List.mem_replicate.1 h).2,Yc];exact hN v (List.mem_of_mem_drop h)) (Mv e9 Xw n') (fun flat hf=>by
    have k1:=(nD (xs.take Pq) (xs.drop Pq) (cs:=flat) Zd7).1;have k2:=(nD (xs.take (Pq+n')) (xs.drop (Pq+n')) (cs:=flat) Zd7).2;rw[eg xs Pq hN Zac]at k1;rw[eg xs _ hN hlo,Nat.add_mul]at k2;rw[ER,TV];exact jj _ _ (jj _ _ k1 (CX e9 Xw n')) k2)
  have RQ:(execOp a.eval ⟨none,.call ⟨.builtin .clear,⟨[x]⟩,⟨[T]⟩⟩,ty,pos,after,D4⟩).run P w=.ok (.value (.tuple #[])) w':=by
   have hcl:(Builtin.clear_ #[T] ty #[a.eval x]).run P w=.ok (.tuple #[]) w':=by
    rw[hv];unfold Builtin.clear_;simp only[List.getElem?_toArray,List.getElem?_cons_zero,Za0,aH hu,Zas];obtain⟨m,rfl⟩:∃ m,n'=m+1:=⟨n'-1,Zac⟩;simp only[Za0,zeroValue,typeInfo,Zas];simp[z1,z2,B5]
   simp[execOp,resolve,Deferred.ofValue,invoke,builtin,hcl]
  rw[RQ,Oper.upon_value];exact⟨_,Pb,Kb,F',hK,A8,fun _ h=>h,fun _ h=>h,fun _ h=>.inl h,hk⟩;exact hp.elim;exact hp.elim
def saC(k:Nat)(p:List Nat)(lo n sz:Nat)(xs:List V)(g q c g1 o1:Nat):Cu P where
 X:=Unit
 pre N o A:=match o.op,o.dst with
  | .call ⟨.builtin .append,⟨[s,x]⟩,⟨[T,T2]⟩⟩,some d=>match o.type==T&&Nat.blt d N,lV P T T2 with
    | true,some t=>match A.ev x with
      | .hd r p' L3 g' q' Pq n' c'=>((r,p',L3,g',q',Pq,n')=(l9.key k,p,sz,g,q,lo,n))/\A.ev s=.hd (.key k) p sz g q 0 0 c/\A.at (.key k) p=some (g1,o1,.own sz xs g q c)/\sz=t.sz/\0<xs.length/\lo+n<=xs.length/\V.ax xs=false/\aS sz xs/\c'=c'
      | _=>False
    | _,_=>False
  | _,_=>False
 post _ o A:=(A.setAt (.key k) p (.own sz ((xs.drop lo).take n++xs.drop n) g q c)).put o.dst (.hd (.key k) p sz g q 0 n c)
 ok:=by
  rintro N ⟨dst,op,ty,pos,after,D4⟩ A K-hp hK;replace hK:=hK ();simp only at hp;split at hp;rename_i s x T T2 d;split at hp;rename_i t e1 e2;split at hp;rename_i r p' L3 g' q' Pq n' c' e3;obtain⟨h1,es,A7,hsz,h0,hlo,K7,hN,_⟩:=hp;simp only[Zaq]at h1;obtain⟨rfl,rfl,rfl,rfl,rfl,rfl,rfl⟩:=h1;simp only[Zao,Zbl]at e1;obtain⟨e,e',q1,q2,q3,q4,q5,q6⟩:=hX e2;subst hsz;intro Pb Kb a w F Q hs;obtain⟨_,hx⟩:=dS hs s;rw[es]at hx;obtain⟨_,hle,B,hv,hB⟩:=hx;have hv:a.eval s=.slice B 0 c:=(List.cons.inj hv).1;have hrd:Qz A x=some (((t.sz=t.sz/\g'=g'/\q'=q')/\Pq+n'<=xs.length/\V.ax xs=false/\aS t.sz xs),(xs.drop Pq).take n'):=by
   unfold Qz;rw[e3];show (match A.at (.key k) p' with | some (_,_,u)=>jC Pq n' t.sz g' q' u | none=>none)=_;rw[A7];rfl
  have Ue:aS t.sz ((xs.drop Pq).take n'):=fun v hv=>hN v (List.mem_of_mem_drop (List.mem_of_mem_take hv));have WO:V.ax ((xs.drop Pq).take n')=false:=vc _ _ (pL _ _ K7);obtain⟨B2,c2,D7,Q0,O8,Ri,hl2⟩:=mU (P:=P) hs hrd ⟨⟨rfl,rfl,rfl⟩,hlo,K7,hN⟩ Ue WO;have hyl:((xs.drop Pq).take n').length=n':=Zal;rw[hyl]at hl2 Q0 Ri;obtain⟨Fr,Fu,_,⟨cs,cells,_,N0,_⟩,_⟩:=hs.split A7;have hc:0<c/\xs.length<=c:=by
   rcases N0 with ⟨_,rfl,_⟩ | ⟨h,_,h2,_⟩;simp at h0;exact⟨h,h2⟩
  obtain rfl:=hB hc.1;have hbd:n'*t.sz<=xs.length*t.sz:=Nat.mul_le_mul_right _ Zac
  obtain⟨w',F',B5,A8,hk⟩:=hs.BE (P:=P) (lo:=0) (xs':=(xs.drop Pq).take n'++xs.drop n') (new:=D7) A7 hc.1 K7 (by rw[hl2];omega)
   Zal (fun v hv=>by
    rcases Zax.1 hv with h | h;exact Ue v h;exact hN v (List.mem_of_mem_drop h)) (qI _ O8) (fun flat hf=>by
    have k2:=(nD (xs.take n') (xs.drop n') (cs:=flat) Zd7).2;rw[eg xs _ hN Zac]at k2;rw[hl2,List.take_zero,List.nil_append,Zaw];exact jj _ _ O8 k2)
  have RQ:(execOp a.eval ⟨some d,.call ⟨.builtin .append,⟨[s,x]⟩,⟨[T,T2]⟩⟩,ty,pos,after,D4⟩).run P w=.ok (.value (.slice (some ⟨g',q'+0*t.sz,none⟩) n' c)) w':=by
   have Td:(Builtin.append_ #[T,T2] ty #[a.eval s,a.eval x]).run P w=.ok (.slice (some ⟨g',q'+0*t.sz,none⟩) n' c) w':=by
    have RT:(Builtin.lenOf (a.eval x)).run P w=.ok n' w:=by rw[Q0];rfl
    rw[hv];unfold Builtin.append_;simp only[List.getElem?_toArray,List.getElem?_cons_zero,List.getElem?_cons_succ,Za0,aH (iQ q1),Zas];simp only[dc q3,Zas];simp only[aH (iQ q2),Zas,Za1];rw[if_neg (show ¬ (false=true) by decide)];rw[Za0,RT];simp only[Zas];rw[if_pos Zac];simp only[Za0,Bool.not_false,if_true,Ri w (fun _=>rfl),Zas];simp only[dY,Nat.zero_mul,Nat.add_zero]at B5 ⊢;rw[B5];simp
   have e:((⟨[s,x]⟩:Array Operand).map a.eval)= #[a.eval s,a.eval x]:=Zad;simp only[execOp,resolve,invoke,builtin,Za0,Za1,Zas,e,Td]
  obtain⟨F2,L7⟩:=A8.pz (d:=some d) (v:=.hd (.key k) p' t.sz g' q' 0 n' c) (x:=.slice (some ⟨g',q'+0*t.sz,none⟩) n' c) (bF e1.2) ⟨rfl,Zac,_,rfl,fun _=>rfl⟩;unfold Oper.wp;rw[RQ,Oper.upon_value];exact⟨_,Pb,Kb,F2,hK,L7,fun _ h=>h,fun _ h=>h,fun _ h=>.inl h,hk⟩;exact hp.elim;exact hp.elim;exact hp.elim
def ZA(k:Nat)(p:List Nat)(n sz:Nat)(xs:List V)(g q c g1 o1:Nat):Cu P where
 X:=Unit
 pre _ o A:=match o.op,o.dst with
  | .store T x y,none=>match ti P T,A.ev y with
    | some i,.hd r p' L3 g' q' Pq n' c'=>((r,p',L3,g',q',Pq,n',c')=(l9.key k,p,sz,g,q,0,n,c))/\A.ev x=.ptr (.key k) p g1 o1/\A.at (.key k) p=some (g1,o1,.own sz xs g q c)/\i.sz=1/\n<=xs.length/\V.ax xs=false
    | _,_=>False
  | _,_=>False
 post _ _ A:=A.setAt (.key k) p (.own sz (xs.take n) g q c)
 ok:=by
  rintro N ⟨dst,op,ty,pos,after,D4⟩ A K-hp hK;replace hK:=hK ();simp only at hp;split at hp;rename_i T x y;split at hp;rename_i i r p' L3 g' q' Pq n' c' e1 e2;obtain⟨h1,ex,A7,hi,hn,K7⟩:=hp;simp only[Zaq]at h1;obtain⟨rfl,rfl,rfl,rfl,rfl,rfl,rfl,rfl⟩:=h1;intro Pb Kb a w F Q hs;obtain⟨_,hx⟩:=dS hs y;rw[e2]at hx;obtain⟨_,hle,B,hv,hB⟩:=hx;have hv:a.eval y=.slice B n' c':=(List.cons.inj hv).1;obtain⟨_,VU⟩:=dS hs x;rw[ex]at VU;have hp:a.eval x=.pointer (some ⟨g1,o1,none⟩):=by have:=VU.2;simpa using this
  obtain⟨Fr,Fu,Pl,⟨cs,cells,hb,N0,u0⟩,hnd,w7,hfr⟩:=hs.split A7;have hR:R w Pb (.own L3 (xs.take n') g' q' c') [a.eval y] Fu:=by
   rw[hv];rcases N0 with ⟨rfl,rfl,rfl,A0,_⟩ | ⟨UI,hsz,hlx,hcs,hN0,W8,flat,F',Rl,XI,hr,l3,WG,Ua⟩;have:n'=0:=by simpa using hn
   subst this;exact .inl ⟨rfl,rfl,rfl,B,rfl⟩;have hF0:=gg xs K7 hr;subst hF0;obtain rfl:=hB UI;have hl:(xs.take n').length=n':=by rw[List.length_take];omega
   refine .inr ⟨UI,hsz,Zac,by rw[hl,Nat.zero_mul,Nat.add_zero],fun v hv=>hN0 v (List.mem_of_mem_take hv),W8,flat.take (V.ns (xs.take n')),[],Rl,XI,?_,l3,WG,fun j u hu=>Ua j u ?_⟩;exact(nD (xs.take n') (xs.drop n') (cs:=flat) (by rw[List.take_append_drop];exact hr)).1;rw[List.getElem?_take]at hu;split at hu;exact hu;simp at hu
  have U6:(A.setAt (.key k) p' .b9).at (.key k) p'=some (g1,o1,.b9):=by
   simp only[AS.at]at A7;split at A7;rename_i g0 t hk;simp only[AS.setAt,hk,AS.at,lk,if_true];exact vb p' A7;simp at A7
  have hcs:cs.length=1:=eI _ N0;obtain⟨w',B5,B4⟩:=gT (P:=P) (g:=g1) (o:=o1) [a.eval y] 0 w cells hb (by
   have:cs[0]? =some (cs[0]'Zac):=Zat Zac;have:=(Zbh.1 (u0 0 _ this)).1;simp only[Zar,Zau];omega) (fun v h=>by rw[Zav.1 h,hv];rfl)
  rw[Nat.add_zero]at B4;have RQ:(execOp a.eval ⟨none,.store T x y,ty,pos,after,D4⟩).run P w=.ok .skip w':=by
   have P7:(a.eval y).cells= #[a.eval y]:=by rw[hv];rfl
   have hsz:(a.eval y).cells.size=i.sz:=by rw[P7,hi];rfl
   have Yl:(storeCells ⟨g1,o1,none⟩ (a.eval y).cells.toList 0).run P w=.ok () w':=by rw[P7];exact B5
   simp only[execOp,Instr.storeAt,hp,Instr.sureAddr,Za0,Za1,Zas,storeVar,dc e1,hsz,ne_eq,not_true_eq_false,if_false,Yl]
  obtain⟨F2,L7,hg⟩:=Pl.store U6 hR (by rfl) hnd w7 hfr B4;have Pj:u7 N Pb Kb (A.setAt (.key k) p' (.own L3 (xs.take n') g' q' c')) a w' F2:=by
   simp only[AS.at]at A7;split at A7;rename_i g0 t hk;refine L7.eqv ⟨fun i=>?_,fun q=>?_⟩;simp only[AS.setAt,hk,lk,if_true];rfl;simp only[AS.setAt,hk,lk,if_true,set_set];split <;> rfl;simp at A7
  unfold Oper.wp;rw[RQ,Oper.upon_skip];exact⟨_,Pb,Kb,F2,hK,Pj,fun _ h=>h,fun _ h=>h,fun _ h=>.inl h,⟨B4.os,B4.tape,B4.output,by rw[B4.size];omega,fun x hx=>B4.PS x (fun c=>hg (c ▸ hx)),B4.shape⟩⟩;exact hp.elim;exact hp.elim
end
theorem Kk{xs ys:List V}{j sz g o c:Nat}{x x' v:V}{p:List Nat}(h:xs[j]? =some x)(hx:V.set x p v=x')(e:xs.set j x'=ys):V.set (.own sz xs g o c) (j::p) v=.own sz ys g o c:=by simp only[V.set,h,hx,e]
section
variable {P:Program}
def sdC(n:Nat)(l h m:Int):Cu P where
 X:=Unit
 pre N o A:=match o.op,o.dst with
  | .slice T x (some lo) (some hi) (some mx),some d=>match tD P T,Nat.blt d N with
    | some (.sl e),true=>match ti P e,A.ev x with
      | some _,.hd _ _ _ _ _ _ n' _=>A.ev lo=.lit (.int .i64 l)/\A.ev hi=.lit (.int .i64 h)/\A.ev mx=.lit (.int .i64 m)/\n'=n/\0<=l/\l<=h/\h<=m/\m<=n
      | _,_=>False
    | _,_=>False
  | _,_=>False
 post _ o A:=A.put o.dst .b9
 ok:=by
  rintro N ⟨dst,op,ty,pos,after,D4⟩ A K-hp hK;replace hK:=hK ();simp only at hp hK;split at hp;rename_i T x lo hi mx d;split at hp;rename_i e e1 e2;split at hp;rename_i t r p sz g q Pq n' c e3 e4;obtain⟨h1,h2,h3,rfl,k1,k2,k3,k4⟩:=hp;refine gu (v:=.b9) rfl (bF e2) hK fun Pb Kb a w F hs=>?_;obtain⟨_,hx⟩:=dS hs x;rw[e4]at hx;obtain⟨_,hle,B,hv,hB⟩:=hx;have hv:a.eval x=.slice B n' c:=(List.cons.inj hv).1;have b1:=bX hs h1;have b2:=bX hs h2;have b3:=bX hs h3;refine⟨.slice (if m.toNat=l.toNat then B else B.map (·.add (l.toNat*t.sz))) (h.toNat-l.toNat) (m.toNat-l.toNat),?_,rfl⟩;have q1:(Instr.sliceBounds true n' c (some (.int .i64 l)) (some (.int .i64 h)) (some (.int .i64 m))).run P w=.ok (l.toNat,h.toNat,m.toNat) w:=by
   simp only[Instr.sliceBounds,Instr.sliceBound,asIntOf,Za0,Za1,Zas];rw[if_pos Zac];simp only[Za1,Zas];rw[if_pos Zac];simp only[Za1,Zas];rw[if_pos Zac];simp only[Za1,Zas]
  simp only[execOp,Option.map_some,Instr.sliceAt,Instr.slice,Za0,aH (iQ e1),Zas,hv,b1,b2,b3,q1,dc e3,Za1];exact hp.elim;exact hp.elim;exact hp.elim
def sbC(k:Nat)(p:List Nat)(sz:Nat)(xs:List V)(g q c n g1 o1 l h:Nat):Cu P where
 X:=Unit
 pre N o A:=match o.op,o.dst with
  | .slice T x (some lo) (some hi) none,some d=>match tD P T,Nat.blt d N with
    | some (.sl e),true=>match ti P e with
      | some t=>A.ev x=.hd (.key k) p sz g q 0 n c/\A.at (.key k) p=some (g1,o1,.own sz xs g q c)/\A.ev lo=.lit (.int .i64 (l:Int))/\A.ev hi=.lit (.int .i64 (h:Int))/\sz=t.sz/\l<=h/\h<=xs.length
      | none=>False
    | _,_=>False
  | _,_=>False
 post _ o A:=A.put o.dst (.hd (.key k) p sz g q l (h-l) (c-l))
 ok:=by
  rintro N ⟨dst,op,ty,pos,after,D4⟩ A K-hp hK;replace hK:=hK ();simp only at hp hK;split at hp;rename_i T x lo hi d;split at hp;rename_i e e1 e2;split at hp;rename_i t e3;obtain⟨ex,A7,h1,h2,hsz,k1,k2⟩:=hp;subst hsz;refine gu (v:=.hd (.key k) p t.sz g q l (h-l) (c-l)) rfl (bF e2) hK fun Pb Kb a w F hs=>?_;obtain⟨_,hx⟩:=dS hs x;rw[ex]at hx;obtain⟨_,hle,B,hv,hB⟩:=hx;have hv:a.eval x=.slice B n c:=(List.cons.inj hv).1;have b1:=bX hs h1;have b2:=bX hs h2;obtain⟨_,cs,cells,_,N0,_⟩:=iw hs A7;have hc:xs.length<=c:=by
   rcases N0 with ⟨_,rfl,_⟩ | ⟨_,_,h,_⟩;simp;exact h
  refine⟨.slice (if c=l then B else B.map (·.add (l*t.sz))) (h-l) (c-l),?_,rfl,Zac,_,rfl,fun h0=>?_⟩;have q1:(Instr.sliceBounds true n c (some (.int .i64 (l:Int))) (some (.int .i64 (h:Int))) none).run P w=.ok (l,h,c) w:=by
   simp only[Instr.sliceBounds,Instr.sliceBound,asIntOf,Za0,Za1,Zas];rw[if_pos Zac];simp only[Za1,Zas];rw[if_pos Zac];simp only[Za1,Zas,Int.toNat_natCast]
  simp only[execOp,Option.map_some,Option.map_none,Instr.sliceAt,Instr.slice,Za0,aH (iQ e1),Zas,hv,b1,b2,q1,dc e3,Za1];rw[if_neg Zac,hB Zac];simp[dY];exact hp.elim;exact hp.elim;exact hp.elim
def mfE:Eu P where
 X:=Unit
 pre N o A Sl _:=match o.op,o.dst with
  | .makeFunc fn first A6,some d=>match Nat.blt d N&&Sl.contains d,js (first.toList.map A.ev),js (A6.toList.map A.ev) with
    | true,some l1,some l2=>(Value.func fn l1.toArray l2.toArray).oneCell'=true
    | _,_,_=>False
  | _,_=>False
 U o A _ B:=match o.op,o.dst with
   | .makeFunc fn first A6,some d=>match js (first.toList.map A.ev),js (A6.toList.map A.ev) with
     | some l1,some l2=>B.put (some d) (.lit (.func fn l1.toArray l2.toArray))
     | _,_=>B
   | _,_=>B
 Wr:=by
  rintro N ⟨dst,op,ty,pos,after,D4⟩ A Sl Hl hp fs;simp only at hp;split at hp;rename_i fn first A6 d
  split at hp;rename_i l1 l2 e1 e2 e3;simp only[Zao,Zbi,Zbk]at e1;simp only[e2,e3];exact wG (v:=fun _:Unit=>.lit (.func fn l1.toArray l2.toArray)) e1.2 fs;exact hp.elim;exact hp.elim
 ok:=by
  rintro N ⟨dst,op,ty,pos,after,D4⟩ A A' Sl Hl hg hp hA hR;simp only at hp;split at hp;rename_i fn first A6 d
  split at hp;rename_i l1 l2 e1 e2 e3;simp only[Zao]at e1;have q1:first.toList.map A'.ev=first.toList.map A.ev:=List.map_congr_left fun x hx=>bp fun t ht=>hA t (by subst ht;simp[Op.operands];left;simpa using hx)
  have q2:A6.toList.map A'.ev=A6.toList.map A.ev:=List.map_congr_left fun x hx=>bp fun t ht=>hA t (by subst ht;simp[Op.operands];right;simpa using hx);refine(UQ (P:=P)).ok hg ?_ fun _=>⟨(),?_⟩;simp only[UQ,q1,q2,e1.1,e2,e3];exact hp;simp only[UQ,q1,q2,e2,e3];exact hp.elim;exact hp.elim
end
theorem JM(s:BL):ez s 20<=20:=by
 have key:∀ (l:BL) (n:Int),n<=20->l.foldl (gQ 20) n<=20:=fun l=>by
  induction l with
  | nil=>exact fun n h=>h
  | cons c l ih=>exact fun n _=>ih _ (by unfold gQ;omega)
 unfold ez;split;exact key s 0 Zac;omega
def mW(gs:List l7):Prop:= ∀ y,y∈gs->y.wa<=20
theorem mW.set{gs:List l7}{f:l7->l7}(h:mW gs)(hf:∀ z,gs.getLast? =some z->(f z).wa<=20):mW (ef gs f):=by
 by_cases hn:gs=[];subst hn;simp[ef,mW];obtain⟨⟨l,z⟩,rfl⟩:=jY hn;rw[eJ];intro y hy;rcases Zax.1 hy with hy | hy;exact h y (by simp[hy]);rw[Zav.1 hy];exact hf z Zad
theorem JO{gs:List l7}{w d:BL}{b:Bool}(h:mW gs):mW (dG gs w d b).1:=by
 have hl:∀ z,gs.getLast? =some z->z.wa<=20:=fun z hz=>h z (List.mem_of_getLast? hz);unfold dG;split;split;intro y hy;rcases Zax.1 hy with hy | hy;exact h y hy;rw[Zav.1 hy];simp;exact h.set fun z hz=>hl z hz;split;exact h;split;exact h.set fun z hz=>hl z hz;split;exact h.set fun z hz=>by have:=JM d;simp only;omega
 exact h
theorem FP(t:BL):mW (bH t):=by
 have:∀ (l:List BL) (x:List l7×Bool),mW x.1->mW (l.foldl eF x).1:=by
  intro l;induction l with
  | nil=>exact fun x h=>h
  | cons a l ih=>exact fun x h=>ih _ (JO h)
 exact this _ _ (by intro y hy;simp at hy)
theorem Ia(n:BL):∀ (gs:List l7) {x:(List r7×Nat)×Bool},x.1.2<=20->mW gs->(gs.foldl (dD n) x).1.2<=20
 | [],x,h,_=>h
 | g::gs,x,h,h2=>by
   refine Ia n gs ?_ (fun y hy=>h2 y (by simp[hy]));unfold dD;split;have:=h2 g Zad;simp only;omega;exact h
theorem Cs{gs:List l7}(n:BL)(h:mW gs):(eE gs n).wa<=20:=by
 have key:∀ q,(QA gs q).1.wa<=20:=fun q=>Ia q gs Zad h;unfold eE;split <;> exact key _
theorem rT(k:Int)(t n:BL):(cL k t n).wa<=20:=by
 unfold cL;split;exact Cs n (FP t);split;simp;exact Cs n (fun y hy=>by simp at hy)
def Qe(ru:List r7)(x:s6):Bool:=ay x.ad&&bT ru (pathOf x.ad)
def Qk(y:l4)(s:BL):Bool:=ay s&&bT y.gr.ru (pathOf s)
def Qf(y:l4)(x:s6):Bool:=Qk y x.ad
def M1(y:l4)(l:List s6):Int:=if (l.findIdx fun x=>!(Qk y x.ad))<l.length then ((l.findIdx fun x=>!(Qk y x.ad):Nat):Int) else -1
def gU(w:List Pg)(n d:BL):l7:=⟨[n],(cL (ah w (aI d) 2).1 (ah w (aI d) 2).2 n).ru,(cL (ah w (aI d) 2).1 (ah w (aI d) 2).2 n).wa⟩
def B3(w:List Pg)(y:l4)(b6:Int):l4:=fv y b6 (ah w (aI y.na) y.tr).1 y.tr
def Rs(w:List Pg)(n:BL)(y:l4)(b6:Int):l4:=
 if (ah w (aI y.na) y.tr).1=3/\y.tr+1<3 then { B3 w y b6 with tr:=y.tr+1 }
 else { B3 w y b6 with kn:=true,gr:=gU w n y.na,re:=max (B3 w y b6).re (b6+((gU w n y.na).wa:Int)),td:=y.td.filter (Qe (gU w n y.na).ru) }
def C5(w:List Pg)(y:l4)(b6:Int):l4:=fv { y with td:=y.td.drop 1 } b6 (ah w (y.td.getD 0 j9).ad (y.td.getD 0 j9).tr).1 (y.td.getD 0 j9).tr
def Ya(w:List Pg)(t:l5)(i:Nat):l5:=
 { t with hs:=t.hs.set i (Rs w t.na (t.hs.getD i e9) t.b6),lk:=t.lk++[⟨t.b6,aI (t.hs.getD i e9).na,(ah w (aI (t.hs.getD i e9).na) (t.hs.getD i e9).tr).1⟩] }
def M0(w:List Pg)(t:l5)(i:Nat):l5:=
 let y:=t.hs.getD i e9
 let it:=y.td.getD 0 j9
 let g:=ah w it.ad it.tr
 let t1:l5:={ t with hs:=t.hs.set i (C5 w y t.b6),lk:=t.lk++[⟨t.b6,it.ad,g.1⟩] }
 if g.1=3/\it.tr+1<3 then { t1 with hs:=t.hs.set i { C5 w y t.b6 with td:=y.td.drop 1++[⟨it.ad,it.tr+1⟩] } }
 else if ay it.ad=true then (vW it.ad g.1 g.2).foldl aL t1 else t1
theorem iI(l:List BL):∀ t:l5,(l.foldl aL t).na=t.na/\(l.foldl aL t).b6=t.b6/\(l.foldl aL t).lk=t.lk:=by
 induction l with
 | nil=>exact fun t=>⟨rfl,rfl,rfl⟩
 | cons a l ih=>exact fun t=>ih (aL t a)
structure HS (m:Nat) (y:l4):Prop where
 n:y.na.length<=1000
 r:y.gr.ru.length<=1000
 rp:∀ i,(y.gr.ru.getD i ⟨false,[]⟩).path.length<=1000
 w:y.gr.wa<=1000
 t:y.td.length+60<=1000+m
 ta:∀ x,x∈y.td->x.ad.length<=1000/\o8 x.ad/\0<=x.tr/\x.tr<=1000
 k:0<=y.tr/\y.tr<=1000
theorem HS.mono{m k:Nat}{y:l4}(h:HS m y)(hm:m<=k):HS k y:=⟨h.n,h.r,h.rp,h.w,by have:=h.t;omega,h.ta,h.k⟩
structure TS (t:l5):Prop where
 s:t.se.length<=60
 h:t.hs.length+60<=1000+t.se.length
 sa:∀ x,x∈t.se->x.length<=1000/\o8 x
 ha:∀ y,y∈t.hs->HS t.se.length y
theorem JD{t:l5}{s:BL}(h:TS t)(hn:t.na.length<=1000)(hs:s.length<=1000)(hc:o8 s)(hd:(aG s).length<=1000):TS (aL t s):=by
 have e1:(aL t s).se=bg t.se s:=rfl;have e2:(aL t s).hs=bO t.na t.hs t.se s:=rfl;by_cases hr:eA t.se s;have e3:bg t.se s=t.se++[s]:=if_pos hr;have e4:bO t.na t.hs t.se s=(bA t.hs (aG s) t.na).set (C8 t.hs (aG s)) (fu ((bA t.hs (aG s) t.na).getD (C8 t.hs (aG s)) e9) s):=if_pos hr;have hl:(bA t.hs (aG s) t.na).length<=t.hs.length+1:=uy _ _ _;have hin:∀ y,y∈bA t.hs (aG s) t.na->HS t.se.length y:=fun y hy=>by
  unfold bA at hy;split at hy;exact h.ha y hy;rcases Zax.1 hy with hy | hy;exact h.ha y hy;rw[Zav.1 hy];exact⟨hd,by simp[dO],by simp[dO],by simp[dO],by show 0+60<=1000+t.se.length;omega,by simp[dO],by simp[dO]⟩
 have h2:=hr.2.1;refine⟨by rw[e1,e3];simp;omega,?_,fun x hx=>?_,fun y hy=>?_⟩;rw[e1,e2,e3,e4,List.length_set];have:=h.h;simp;omega;rw[e1,e3]at hx;rcases Zax.1 hx with hx | hx;exact h.sa x hx;rw[Zav.1 hx];exact⟨hs,hc⟩;rw[e1,e3];rw[e2,e4]at hy;have hm:(t.se++[s]).length=t.se.length+1:=Zad;rw[hm];rcases gi hy with e | hy;have hm:(bA t.hs (aG s) t.na).getD (C8 t.hs (aG s)) e9∈bA t.hs (aG s) t.na:=by
  rw[Zam,Zat (kr ..)];exact List.getElem_mem _
 have SD:=hin _ hm;rw[e];unfold fu;split;exact SD.mono Zac;refine⟨SD.n,SD.r,SD.rp,SD.w,?_,fun x hx=>?_,SD.k⟩;show (_++[_]).length+60<=_;have:=SD.t;rw[Zap,Zbf];omega;rcases Zax.1 hx with hx | hx;exact SD.ta x hx;rw[Zav.1 hx];exact⟨hs,hc,Zad,Zad⟩;exact(hin y hy).mono Zac;have e3:bg t.se s=t.se:=if_neg hr;have e4:bO t.na t.hs t.se s=t.hs:=if_neg hr;exact⟨by rw[e1,e3];exact h.s,by rw[e1,e2,e3,e4];exact h.h,by rw[e1,e3];exact h.sa,by rw[e1,e2,e3,e4];exact h.ha⟩
theorem oK:∀ (l:List BL) {t:l5},TS t->t.na.length<=1000->(∀ s,s∈l->s.length<=1000/\o8 s/\(aG s).length<=1000)->TS (l.foldl aL t)
 | [],t,h,_,_=>h
 | a::l,t,h,hn,hl=>by
   have:=hl a Zad;exact oK l (JD h hn this.1 this.2.1 this.2.2) hn (fun s hs=>hl s (by simp[hs]))
def jE(y:l4)(l:List s6):List s6:=l.filter (Qf y)++List.replicate (l.length-(l.filter (Qf y)).length) j9
theorem KC{y:l4}{s:BL}:(!((aU s).isSome)||!(bT y.gr.ru (if aF (oA (aU s))=true then bJ (oA (aU s)) else [])))=!(Qk y s):=by
 unfold Qk;rw[hZ];by_cases h:ay s=true;have e:aU s=aO s:=if_pos h;have hs:(aO s).isSome=true:=by have:=h;unfold ay at this;rw[Zao]at this;exact this.1
 rw[h,e,if_pos (nG hs)];rfl;rw[Bool.not_eq_true]at h;rw[h];rfl
section
variable {y:l4} {l u:List s6} {i w:Nat}
theorem Dz{p:s6->Bool}(hi:i<l.length)(e:p (l.getD i j9)=true)(h:∀ j,j<i->p (l.getD j j9)=false):l.findIdx p=i:=by
 rw[List.findIdx_eq hi];simp only[Zam,Zat hi]at e;refine⟨Zb5,fun j hj=>?_⟩;have:=h j hj;simp only[Zam,Zat (show j<l.length by omega)]at this;simpa using this
theorem KW(hi:i<l.length)(e:Qk y (l.getD i j9).ad=false)(h:∀ j,j<i->Qk y (l.getD j j9).ad=true):M1 y l=i:=by
 unfold M1;rw[Dz (p:=fun x=>!(Qk y x.ad)) hi (by simp only[e];rfl) (fun j hj=>by simp only[h j hj];rfl),if_pos hi]
theorem JJ{p:s6->Bool}(h:∀ j,j<l.length->p (l.getD j j9)=false):l.findIdx p=l.length:=by
 rw[List.findIdx_eq_length];intro x hx;obtain⟨j,hj,rfl⟩:=Zbg.1 hx;have:=h j hj;simp only[Zam,Zat hj]at this;simpa using this
theorem Lj(h:∀ j,j<l.length->Qk y (l.getD j j9).ad=true):M1 y l= -1:=by
 unfold M1;rw[JJ (p:=fun x=>!(Qk y x.ad)) (fun j hj=>by simp only[h j hj];rfl),if_neg Zac]
theorem yC(y:l4)(l:List s6): -1<=M1 y l/\M1 y l<=l.length/\(M1 y l≠ -1->0<=M1 y l/\M1 y l<l.length):=by
 unfold M1;split <;> omega
theorem ri(h:u.drop i=l.drop i):u.getD i j9=l.getD i j9:=by
 have:=Zbm (fun r=>r[0]?) h;simp only[List.getElem?_drop,Nat.add_zero]at this;rw[Zam,Zam,this]
theorem Ep(h:M1 y l= -1):l.filter (Qf y)=l:=by
 unfold M1 at h;split at h;omega;rename_i hn;have he:(l.findIdx fun x=>!(Qk y x.ad))=l.length:=by
  have:(l.findIdx fun x=>!(Qk y x.ad))<=l.length:=List.findIdx_le_length;omega
 rw[List.findIdx_eq_length]at he;rw[List.filter_eq_self];intro x hx;simpa[Qf] using he x hx
theorem Of(h: ¬ M1 y l= -1):(M1 y l).toNat<(M1 y l).toNat+1/\(M1 y l).toNat+1<=l.length/\l.length=l.length/\l.take (M1 y l).toNat=(l.take ((M1 y l).toNat+1)).filter (Qf y)/\l.drop ((M1 y l).toNat+1)=l.drop ((M1 y l).toNat+1):=by
 obtain⟨b1,b2⟩:=(yC y l).2.2 h;have hk:(M1 y l).toNat=l.findIdx fun x=>!(Qk y x.ad):=by
  unfold M1 at b1 b2 ⊢;split;exact Int.toNat_natCast _;rename_i hn;rw[if_neg hn]at b1;omega
 have hlt:(M1 y l).toNat<l.length:=Zac;refine bN ⟨?_,rfl⟩;rw[List.take_succ_eq_append_getElem hlt,List.filter_append];have e1:(l.take (M1 y l).toNat).filter (Qf y)=l.take (M1 y l).toNat:=by
  rw[List.filter_eq_self];intro x hx;obtain⟨j,hj,rfl⟩:=Zbg.1 hx;rw[List.length_take]at hj;rw[List.getElem_take];have:=List.not_of_lt_findIdx (p:=fun x=>!(Qk y x.ad)) (xs:=l) (i:=j) Zac;simpa[Qf] using this
 have e2:Qf y l[(M1 y l).toNat]=false:=by
  have:=List.findIdx_getElem (p:=fun x=>!(Qk y x.ad)) (xs:=l) (w:=by rw[<- hk];exact hlt);simp only[<- hk]at this;simpa[Qf] using this
 rw[e1];simp[e2]
theorem LD(hi:i<l.length)(h1:w<i)(h3:u.length=l.length)(h4:u.take w=(l.take i).filter (Qf y))(h5:u.drop i=l.drop i)(hk:Qk y (u.getD i j9).ad=true):
 w+1<i+1/\i+1<=l.length/\(u.set w (⟨(u.getD i j9).ad,(u.getD i j9).tr⟩:s6)).length=l.length/\(u.set w (⟨(u.getD i j9).ad,(u.getD i j9).tr⟩:s6)).take (w+1)=(l.take (i+1)).filter (Qf y)/\
  (u.set w (⟨(u.getD i j9).ad,(u.getD i j9).tr⟩:s6)).drop (i+1)=l.drop (i+1):=by
 have e:=ri h5;have hw:w<u.length:=Zac;refine bL ⟨by simpa using h3,?_,?_⟩;rw[List.take_succ_eq_append_getElem (by simpa using hw),List.getElem_set_self,List.take_set_of_le (Zbc _),h4,List.take_succ_eq_append_getElem hi,List.filter_append];have e2:(⟨(u.getD i j9).ad,(u.getD i j9).tr⟩:s6)=l[i]:=by
  show u.getD i j9=l[i];rw[e,Zam,Zat hi];rfl
 have e3:Qf y l[i]=true:=by rw[<- e2];exact hk
 rw[e2];simp[e3];rw[List.drop_set_of_lt Zac];have:=Zbm (List.drop 1) h5;simpa[List.drop_drop] using this
theorem KL(hi:i<l.length)(h1:w<i)(h3:u.length=l.length)(h4:u.take w=(l.take i).filter (Qf y))(h5:u.drop i=l.drop i)(hk:Qk y (u.getD i j9).ad=false):
 w<i+1/\i+1<=l.length/\u.length=l.length/\u.take w=(l.take (i+1)).filter (Qf y)/\u.drop (i+1)=l.drop (i+1):=by
 refine bL ⟨h3,?_,?_⟩;rw[h4,List.take_succ_eq_append_getElem hi,List.filter_append];have e3:Qf y l[i]=false:=by
  have:=ri h5;rw[Zam (l:=l),Zat hi]at this;show Qk y l[i].ad=false;rw[<- hk,this];rfl
 simp[e3];have:=Zbm (List.drop 1) h5;simpa[List.drop_drop] using this
theorem Mw(hi:l.length<=i)(h1:w<i)(h2:i<=l.length)(h3:u.length=l.length)(h4:u.take w=(l.take i).filter (Qf y)):w=(l.filter (Qf y)).length:=by
 have:=Zbm List.length h4;rw[List.length_take,Zaz hi]at this;omega
theorem Mf(h:M1 y l= -1):jE y l=l:=by unfold jE;rw[Ep h];simp
theorem LI(hi:l.length<=i)(h1:w<i)(h2:i<=l.length)(h3:u.length=l.length)(h4:u.take w=(l.take i).filter (Qf y)):jE y l=u.take w++List.replicate (l.length-w) j9:=by
 unfold jE;rw[<- Mw hi h1 h2 h3 h4,h4,Zaz hi]
theorem KE(h3:u.length=l.length):(u.map aj).take w++List.replicate (l.length-w) (.agg [sV [],iN 0]:V)++(u.map aj).drop (w+(l.length-w))=(u.take w++List.replicate (l.length-w) j9).map aj:=by
 rw[Za8 Zal,List.append_nil,Zbb,List.map_take,List.map_replicate];rfl
theorem NO:((l.map aj).drop 1).take (l.length-1)++(l.map aj).drop (l.length-1)=(l.drop 1++l.drop (l.length-1)).map aj:=by
 rw[Zbb,List.map_drop,List.map_drop,Zaz Zad]
theorem Lc(h:0<l.length):((l.drop 1++l.drop (l.length-1)).map aj).take (l.length-1)++List.replicate 1 (.agg [sV [],iN 0]:V)++((l.drop 1++l.drop (l.length-1)).map aj).drop (l.length-1+1)=(l.drop 1++[j9]).map aj:=by
 rw[show ((l.drop 1++l.drop (l.length-1)).map aj).drop (l.length-1+1)=[] from Za8 Zal,List.append_nil,<- List.map_take,List.take_append_of_le_length Zad,Zaz Zad,Zbb];rfl
end
def su(n:BL)(b6:Int)(zs:List l4)(se:List BL)(ls:List r4)(gt g o c ix:Nat)(y:l4)(ga oa ca:Nat)(l:List s6)(gb:Nat)(s:BL)(v:Int):av:=.mk 149 [cv s v,kp 1002 gb] [(1002,(gb,.ptr (.key 1000) [2,ix] g (o+ix*8))),(1000,(gt,aZ n b6 zs ix y l ga oa ca g o c se ls))] ((ix<zs.length)/\(s.length<=1000)/\(o8 s)/\(y.gr.ru.length<=1000)/\(∀ i,(y.gr.ru.getD i ⟨false,[]⟩).path.length<=1000)) (bV (!(Qk y s))) [(1002,(gb,.ptr (.key 1000) [2,ix] g (o+ix*8))),(1000,(gt,aZ n b6 zs ix y l ga oa ca g o c se ls))] (by
 rintro⟨hi,hs,hc,hr,UA⟩
 refine aq Tryz.func149
  (.bx (fun g2=>.q 1<|.r 2 [.b9]<|.c (dP s) []<|.q 3<|.al cO (fun g4=>.st none<|.q 1<|.C6 13 [(3,n6 [1002] [15]),(7,n6 [1000] [19]),(8,n6 [4] [20])]<|.l8 3<|.o6<|.l8 3<|.r 1 [dk y.gr.ru]<|.o6<|.cg (mh (oA (aU s)))<|.cg (lM y.gr.ru (if aF (oA (aU s))=true then bJ (oA (aU s)) else []))<|.l8 3<|.nil)))
  ((fun v1:Bool=>(∀ g2:Nat,Z g2 0/\(dP s).sm/\((s.length<=1000000)/\(o8 s))/\∀ g4:Nat,Z g4 0/\Gd v1 (Z gb 0)/\Gd v1 (v1=true)/\Gd v1 True/\Gd v1 (v1=true)/\Gd v1 (v1=true)/\Gd v1 (v1=true)/\Gd v1 (V.at gt 0 (aZ n b6 zs ix y l ga oa ca g o c se ls) [2,ix,3,1]=some (g,(o+ix*8+3+1),dk y.gr.ru))/\Gd v1 (Z g4 0)/\Gd v1 (v1=true)/\Gd v1 (((cI (oA (aU s))))/\(mh (oA (aU s))).sm)/\Gd v1 (v1=true)/\Gd v1 (v1=true)/\Gd v1 (((y.gr.ru.length<=1000000)/\(∀ i,(y.gr.ru.getD i ⟨false,[]⟩).path.length<=1000000)/\((if aF (oA (aU s))=true then bJ (oA (aU s)) else []).length<=1000000))/\(lM y.gr.ru (if aF (oA (aU s))=true then bJ (oA (aU s)) else [])).sm)/\Gd v1 (v1=true)/\Pk (!((aU s).isSome)) true v1/\Q (bV ((!((aU s).isSome))||(!(bT y.gr.ru (if aF (oA (aU s))=true then bJ (oA (aU s)) else []))))) (bV (!(Qk y s)))/\Er gb (.ptr (.key 1000) [2,ix] g (o+ix*8))/\Er gt (aZ n b6 zs ix y l ga oa ca g o c se ls))) ((!((aU s).isSome))==false)) ?_
 intro g2;refine⟨rfl,rfl,aJ (hc),fun g4=>jD ⟨fun hG=>(bq (f:=2) rfl).trans (aR (dj Zac) rfl),bL ⟨fun hG=>⟨by(try simp only[nb]at hG);exact qS _,rfl⟩,bL ⟨fun hG=>⟨⟨Zcr,fun i=>by have:=UA i;omega,by(try simp only[nb]at hG);have:=(qS s).path;split <;> simp <;> omega⟩,rfl⟩,bL ⟨?_,aT⟩⟩⟩⟩⟩;rw[KC])
def Fq(n:BL)(b6:Int)(zs:List l4)(se:List BL)(ls:List r4)(gt g o c ix:Nat)(y:l4)(ga oa ca:Nat)(l:List s6)(gb:Nat):av:=.mk 186 [.hd (.key 1000) [2,ix,5] 2 ga oa 0 ((l.map aj).length) ca,.lit (.func (.func 149) #[] #[.pointer (some ⟨gb,0,none⟩)])] [(1002,(gb,.ptr (.key 1000) [2,ix] g (o+ix*8))),(1000,(gt,aZ n b6 zs ix y l ga oa ca g o c se ls))] ((ix<zs.length)/\(l.length<=1000)/\(∀ x,x∈l->x.ad.length<=1000/\o8 x.ad)/\(y.gr.ru.length<=1000)/\(∀ i,(y.gr.ru.getD i ⟨false,[]⟩).path.length<=1000)) (iV (M1 y l)) [(1002,(gb,.ptr (.key 1000) [2,ix] g (o+ix*8))),(1000,(gt,aZ n b6 zs ix y l ga oa ca g o c se ls))] (by
 rintro⟨hi,hl,hx,hr,UA⟩
 refine aq Tryz.func186
  (.q 1<|.q 3<|.loop Nat (fun i=>⟨[(0,.hd (.key 1000) [2,ix,5] 2 ga oa 0 ((l.map aj).length) ca),(1,.lit (.func (.func 149) #[] #[.pointer (some ⟨gb,0,none⟩)])),(7,iN l.length),(8,iN i)],[(1002,(gb,.ptr (.key 1000) [2,ix] g (o+ix*8))),(1000,(gt,aZ n b6 zs ix y l ga oa ca g o c se ls))]⟩) (fun i=>i<=l.length/\∀ j,j<i->Qk y (l.getD j j9).ad=true) (fun i=>l.length-i) (fun i=>.q 1<|.br (.q 2<|.r 5 [cv ((l.getD i j9).ad) ((l.getD i j9).tr)]<|.c (su n b6 zs se ls gt g o c ix y ga oa ca l gb ((l.getD i j9).ad) ((l.getD i j9).tr)) [(1002,1002),(1000,1000)]<|.br (.q 2<|.nil) (.q 2<|.nil)) (.q 1<|.nil)))
  ((fun (v5:Nat) (v4 v3 v2:V) (v1:Nat->Prop)=>((∃ j6:Nat,(v1 j6)/\E (.hd (.key 1000) [2,ix,5] 2 ga oa 0 v5 ca)/\E v4/\Q (iN v5) (iN l.length)/\Q (iN 0) (iN j6)/\Er gb v3/\Er gt v2/\True)/\∀ i:Nat,(v1 i)->(fun v6:s6=>Br (r6 (i:Int) (l.length:Int)) (In (i:Int) v5/\(V.at gt 0 v2 [2,ix,5,0+i]=some (ga,(oa+(0+i)*2),cv (v6.ad) (v6.tr)))/\(su n b6 zs se ls gt g o c ix y ga oa ca l gb (v6.ad) (v6.tr)).sm/\Er gb v3/\Er gt v2/\((ix<zs.length)/\((v6.ad).length<=1000)/\(o8 (v6.ad))/\(y.gr.ru.length<=1000)/\(∀ i,(y.gr.ru.getD i ⟨false,[]⟩).path.length<=1000))/\Br (!(Qk y (v6.ad))) (Q (iN i) (iV (M1 y l))/\Er gb v3/\Er gt v2) (m5 ((i:Int)+1)/\∃ b7:Nat,(v1 b7)/\(l.length-b7<l.length-i)/\E (.hd (.key 1000) [2,ix,5] 2 ga oa 0 v5 ca)/\E v4/\E (iN l.length)/\Q (iN (i+1)) (iN b7)/\Er gb v3/\Er gt v2/\True)) (Q (iV (-1)) (iV (M1 y l))/\Er gb v3/\Er gt v2)) (l.getD i j9))) ((l.map aj).length) (.lit (.func (.func 149) #[] #[.pointer (some ⟨gb,0,none⟩)])) (.ptr (.key 1000) [2,ix] g (o+ix*8)) (aZ n b6 zs ix y l ga oa ca g o c se ls) (fun j6:Nat=>j6<=l.length/\∀ j,j<j6->Qk y (l.getD j j9).ad=true)) ?_
 refine⟨⟨0,?_,rfl,rfl,Zah,aT⟩,?_⟩;simp;rintro i ⟨h1,h2⟩;refine bI (fun j7=>?_) fun j7=>?_;have L':=hx _ (aM (d:=j9) (show i<l.length by omega));refine aJ ⟨Zd8,rfl,rfl,rfl,⟨hi,L'.1,L'.2,hr,UA⟩,bI (fun l3=>?_) fun l3=>?_⟩;refine⟨?_,aT⟩;rw[KW (i:=i) Zac Zci h2];refine aJ ⟨i+1,?_,?_,aT⟩;exact⟨Zac,Zdw⟩;exact Zak;refine⟨?_,aT⟩;rw[Lj (fun j hj=>h2 j Zac)])
abbrev rv(n:BL)(b6:Int)(zs:List l4)(se:List BL)(ls:List r4)(gt g o c ix:Nat)(y:l4)(ga oa ca:Nat)(l:List s6)(gb:Nat):V:=.hd (.key 1000) [2,ix,5] 2 ga oa 0 ((l.filter (Qf y)).length) ca
abbrev pf(n:BL)(b6:Int)(zs:List l4)(se:List BL)(ls:List r4)(gt g o c ix:Nat)(y:l4)(ga oa ca:Nat)(l:List s6)(gb w i:Nat)(u:List s6):Prop:=w<i/\i<=l.length/\u.length=l.length/\u.take w=(l.take i).filter (Qf y)/\u.drop i=l.drop i
def FO(n:BL)(b6:Int)(zs:List l4)(se:List BL)(ls:List r4)(gt g o c ix:Nat)(y:l4)(ga oa ca:Nat)(l:List s6)(gb:Nat):av:=.mk 148 [.hd (.key 1000) [2,ix,5] 2 ga oa 0 ((l.map aj).length) ca,.lit (.func (.func 149) #[] #[.pointer (some ⟨gb,0,none⟩)])] [(1002,(gb,.ptr (.key 1000) [2,ix] g (o+ix*8))),(1000,(gt,aZ n b6 zs ix y l ga oa ca g o c se ls))] ((ix<zs.length)/\(l.length<=1000)/\(∀ x,x∈l->x.ad.length<=1000/\o8 x.ad)/\(y.gr.ru.length<=1000)/\(∀ i,(y.gr.ru.getD i ⟨false,[]⟩).path.length<=1000)) (rv n b6 zs se ls gt g o c ix y ga oa ca l gb) [(1002,(gb,.ptr (.key 1000) [2,ix] g (o+ix*8))),(1000,(gt,aZ n b6 zs ix y (jE y l) ga oa ca g o c se ls))] (by
 rintro⟨hi,hl,hx,hr,UA⟩
 refine aq Tryz.func148
  (.q 1<|.q 2<|.c (Fq n b6 zs se ls gt g o c ix y ga oa ca l gb) [(1002,1002),(1000,1000)]<|.q 1<|.q 2<|.br (.q 2<|.nil) (.q 3<|.loop (Nat×Nat×(List s6)) (fun (w,i,u)=>⟨[(0,.hd (.key 1000) [2,ix,5] 2 ga oa 0 ((l.map aj).length) ca),(1,.lit (.func (.func 149) #[] #[.pointer (some ⟨gb,0,none⟩)])),(5,iN w),(6,iN i)],[(1002,(gb,.ptr (.key 1000) [2,ix] g (o+ix*8))),(1000,(gt,aZ n b6 zs ix y u ga oa ca g o c se ls))]⟩) (fun (w,i,u)=>pf n b6 zs se ls gt g o c ix y ga oa ca l gb w i u) (fun (w,i,u)=>l.length-i) (fun (w,i,u)=>.q 4<|.br (.r 4 [cv ((u.getD i j9).ad) ((u.getD i j9).tr)]<|.al lY (fun g7=>.st none<|.r 2 [.b9]<|.c (su n b6 zs se ls gt g o c ix y ga oa ca u gb ((u.getD i j9).ad) ((u.getD i j9).tr)) [(1002,1002),(1000,1000)]<|.q 1<|.br (.r 4 [.b9]<|.st (some (cv ((u.getD w j9).ad) ((u.getD w j9).tr)))<|.h (.s8 1000 (aZ n b6 zs ix y (u.set w (⟨(u.getD i j9).ad,(u.getD i j9).tr⟩:s6)) ga oa ca g o c se ls))<|.q 3<|.q 3<|.nil) (.q 3<|.nil))) (.q 3<|.cu (clC 1000 [2,ix,5] w (l.length-w) 2 (u.map aj) ga oa ca g (o+(ix)*8+7) lY) (fun _=>.h (.s8 1000 (aZ n b6 zs ix y (u.take w++List.replicate (l.length-w) j9) ga oa ca g o c se ls))<|.q 4<|.nil)))))
  ((fun (v6 v5 v4 v2:V) (v3:Nat) (v1:Nat->Nat->((List s6))->Prop)=>((Fq n b6 zs se ls gt g o c ix y ga oa ca l gb).sm/\Er gb v2/\Er gt v5/\((ix<zs.length)/\(l.length<=1000)/\(∀ x,x∈l->x.ad.length<=1000/\o8 x.ad)/\(y.gr.ru.length<=1000)/\(∀ i,(y.gr.ru.getD i ⟨false,[]⟩).path.length<=1000))/\Br (o4 (M1 y l) (-1)) (Q (.hd (.key 1000) [2,ix,5] 2 ga oa 0 v3 ca) (rv n b6 zs se ls gt g o c ix y ga oa ca l gb)/\Er gb v2/\Qr gt v5 gt v6) (m5 ((M1 y l)+1)/\(∃ x:Nat×Nat×(List s6),match x with | (UN,j6,H9)=>(v1 UN j6 H9)/\E (.hd (.key 1000) [2,ix,5] 2 ga oa 0 v3 ca)/\E v4/\Q (iV (M1 y l)) (iN UN)/\Q (iV ((M1 y l)+1)) (iN j6)/\Er gb v2/\Qr gt v5 gt (aZ n b6 zs ix y H9 ga oa ca g o c se ls)/\True)/\∀ x:Nat×Nat×(List s6),match x with | (w,i,u)=>(v1 w i u)->(fun (v8:s6) (v7:V)=>Br (r6 (i:Int) (((l.map aj).length:Nat):Int)) (In (i:Int) v3/\(V.at gt 0 v7 [2,ix,5,0+i]=some (ga,(oa+(0+i)*2),cv (v8.ad) (v8.tr)))/\∀ g7:Nat,Z g7 0/\Z g7 0/\(su n b6 zs se ls gt g o c ix y ga oa ca u gb (v8.ad) (v8.tr)).sm/\Er gb v2/\Er gt v7/\((ix<zs.length)/\((v8.ad).length<=1000)/\(o8 (v8.ad))/\(y.gr.ru.length<=1000)/\(∀ i,(y.gr.ru.getD i ⟨false,[]⟩).path.length<=1000))/\Br (!(!(Qk y (v8.ad)))) (Z g7 0/\In (w:Int) v3/\(V.at gt 0 v7 [2,ix,5,0+w]=some (ga,(oa+(0+w)*2),cv ((u.getD w j9).ad) ((u.getD w j9).tr)))/\(V.set v7 [2,ix,5,0+w] (cv (v8.ad) (v8.tr))=aZ n b6 zs ix y (u.set w (⟨v8.ad,v8.tr⟩:s6)) ga oa ca g o c se ls)/\m5 ((w:Int)+1)/\m5 ((i:Int)+1)/\∃ x:Nat×Nat×(List s6),match x with | (Sd,b7,C7)=>(v1 Sd b7 C7)/\(l.length-b7<l.length-i)/\E (.hd (.key 1000) [2,ix,5] 2 ga oa 0 v3 ca)/\E v4/\Q (iN (w+1)) (iN Sd)/\Q (iN (i+1)) (iN b7)/\Er gb v2/\Qr gt (aZ n b6 zs ix y (u.set w (⟨v8.ad,v8.tr⟩:s6)) ga oa ca g o c se ls) gt (aZ n b6 zs ix y C7 ga oa ca g o c se ls)/\True) (m5 ((i:Int)+1)/\∃ x:Nat×Nat×(List s6),match x with | (Sd,b7,C7)=>(v1 Sd b7 C7)/\(l.length-b7<l.length-i)/\E (.hd (.key 1000) [2,ix,5] 2 ga oa 0 v3 ca)/\E v4/\Q (iN w) (iN Sd)/\Q (iN (i+1)) (iN b7)/\Er gb v2/\Qr gt v7 gt (aZ n b6 zs ix y C7 ga oa ca g o c se ls)/\True)) (((0:Int)<=(w:Int)/\(w:Int)<=((l.map aj).length:Int)/\((l.map aj).length:Int)<=v3/\2=2)/\((((52:Nat),(.key 1000:l9),([2,ix,5]:List Nat),2,ga,oa,(0+w),(v3-w))=((52:Nat),(.key 1000:l9),([2,ix,5]:List Nat),2,ga,oa,w,(l.length-w)))/\(V.at gt 0 v7 [2,ix,5]=some (g,o+(ix)*8+7,.own 2 (u.map aj) ga oa ca))/\(w+(l.length-w)<=(u.map aj).length)/\(V.ax (u.map aj)=false)/\(aS 2 (u.map aj))/\((.agg [sV [],iN 0]:V).n=2))/\∀ _:Unit,(V.set v7 [2,ix,5] (.own 2 ((u.map aj).take w++List.replicate (l.length-w) (.agg [sV [],iN 0]:V)++(u.map aj).drop (w+(l.length-w))) ga oa ca)=aZ n b6 zs ix y (u.take w++List.replicate (l.length-w) j9) ga oa ca g o c se ls)/\((0:Int)<=(0:Int)/\(0:Int)<=(w:Int)/\(w:Int)<=v3/\2=2)/\Q (.hd (.key 1000) [2,ix,5] 2 ga oa (0+((0:Int).toNat)) (w-((0:Int).toNat)) (ca-((0:Int).toNat))) (rv n b6 zs se ls gt g o c ix y ga oa ca l gb)/\Er gb v2/\Qr gt (aZ n b6 zs ix y (u.take w++List.replicate (l.length-w) j9) ga oa ca g o c se ls) gt v6)) (u.getD i j9) (aZ n b6 zs ix y u ga oa ca g o c se ls)))) (aZ n b6 zs ix y (jE y l) ga oa ca g o c se ls) (aZ n b6 zs ix y l ga oa ca g o c se ls) (.lit (.func (.func 149) #[] #[.pointer (some ⟨gb,0,none⟩)])) (.ptr (.key 1000) [2,ix] g (o+ix*8)) ((l.map aj).length) (fun (UN:Nat) (j6:Nat) (H9:(List s6))=>pf n b6 zs se ls gt g o c ix y ga oa ca l gb UN j6 H9)) ?_
 refine⟨rfl,rfl,rfl,⟨hi,hl,hx,hr,UA⟩,bI (fun j7=>?_) fun j7=>?_⟩;refine⟨?_,rfl,by rw[Mf j7]⟩;unfold Q rv;rw[Ep j7,Zay];refine⟨by have:=yC y l;omega,⟨⟨((M1 y l).toNat,(M1 y l).toNat+1,l),?_,rfl,rfl,by refine Zbm iV ?_;have:=yC y l;omega,by refine Zbm iV ?_;have:=yC y l;omega,aT⟩,?_⟩⟩;unfold pf;exact Of j7;rintro⟨w,i,u⟩ ⟨h1,h2,h3,h4,h5⟩;refine bI (fun l3=>?_) fun l3=>?_;have L':=hx _ (aM (d:=j9) (show i<l.length by omega));have hu:u.getD i j9=l.getD i j9:=ri h5;refine aJ ⟨Zd8,fun g7=>dF ⟨⟨hi,by rw[hu];exact L'.1,by rw[hu];exact L'.2,hr,UA⟩,bI (fun m7=>?_) fun m7=>?_⟩⟩;refine bL ⟨Zd8,nH (Kk (dj Zac) (OE (bB (x:=.agg [sV ((u.getD w j9).ad),iV ((u.getD w j9).tr)]) (by rw[Zaw];exact af (d:=j9) Zac) (by rw[Zaw];exact(List.map_set (f:=aj) (l:=u) (i:=w) (a:=(⟨(u.getD i j9).ad,(u.getD i j9).tr⟩:s6))).symm))) (kV Zac)),bL ⟨(w+1,i+1,u.set w (⟨(u.getD i j9).ad,(u.getD i j9).tr⟩:s6)),?_,?_,aT⟩⟩;unfold pf;first | exact LD Zci h1 h3 h4 h5 Zdb | exact KL Zci h1 h3 h4 h5 Zdb
 exact Zak;refine aJ ⟨(w,i+1,u),?_,?_,aT⟩;unfold pf;first | exact LD Zci h1 h3 h4 h5 Zdb | exact KL Zci h1 h3 h4 h5 Zdb
 exact Zak;refine⟨⟨Zac,Zc8,aT⟩,⟨Zad,aJ ⟨Zc8,Zd9,cQ (f:=aj) (fun _=>rfl) _,rfl⟩⟩,fun _=>⟨Eq.trans (Zbm (fun r:V=>V.set _ [2,ix,5] r) (Zbm (V.own 2 · ga oa ca) (KE h3))) (nH (bB (dj Zac) (kV Zac))),bL ⟨Zc8,rfl⟩,⟨?_,rfl,by rw[LI Zci h1 h2 h3 h4]⟩⟩⟩;unfold Q rv;rw[Mw Zci h1 h2 h3 h4];rfl)
def FQ(n:BL)(b6:Int)(zs:List l4)(se:List BL)(ls:List r4)(gt g o c ix:Nat)(y:l4)(ga oa ca:Nat)(l:List s6):av:=.mk 152 [.hd (.key 1000) [2,ix,5] 2 ga oa 0 ((l.map aj).length) ca,iV 0,iV 1] [(1000,(gt,aZ n b6 zs ix y l ga oa ca g o c se ls))] ((ix<zs.length)/\(0<l.length/\l.length<=1000)) (.hd (.key 1000) [2,ix,5] 2 ga oa 0 (l.length-1) ca) [(1000,(gt,aZ n b6 zs ix y (l.drop 1++[j9]) ga oa ca g o c se ls))] (by
 rintro⟨hi,hl⟩
 refine aq Tryz.func152
  (.q 1<|.q 5<|.cu (sdC ((l.map aj).length) (0:Int) (1:Int) (((l.map aj).length:Nat):Int)) (fun _=>.q 3<|.br (.nil) (.q 3<|.C6 6 []<|.l8 6<|.cu (saC 1000 [2,ix,5] 1 (l.length-1) 2 (l.map aj) ga oa ca g (o+(ix)*8+7)) (fun _=>.h (.s8 1000 (aZ n b6 zs ix y (l.drop 1++l.drop (l.length-1)) ga oa ca g o c se ls))<|.q 1<|.q 4<|.cu (sbC 1000 [2,ix,5] 2 ((l.drop 1++l.drop (l.length-1)).map aj) ga oa ca (l.length-1) g (o+(ix)*8+7) (l.length-1) ((l.map aj).length)) (fun _=>.cu (clC 1000 [2,ix,5] (l.length-1) 1 2 ((l.drop 1++l.drop (l.length-1)).map aj) ga oa ca g (o+(ix)*8+7) lY) (fun _=>.h (.s8 1000 (aZ n b6 zs ix y (l.drop 1++[j9]) ga oa ca g o c se ls))<|.q 2<|.nil))))))
  ((fun (v3:V) (v2:Nat) (v1:List V)=>(fun (v5:Int) (v4:Prop)=>((((iV 0):V)=.lit (.int .i64 (0:Int))/\((iV 1):V)=.lit (.int .i64 (1:Int))/\((iN v2):V)=.lit (.int .i64 v5)/\v2=v2/\(0:Int)<=(0:Int)/\(0:Int)<=(1:Int)/\(1:Int)<=v5/\v5<=v2)/\∀ _:Unit,Br (o4 0 1) (False) (((0:Int)<=(0:Int)/\(0:Int)<=(0:Int)/\(0:Int)<=v2/\2=2)/\((0:Int)<=(1:Int)/\(1:Int)<=((l.map aj).length:Int)/\((l.map aj).length:Int)<=v2/\2=2)/\((((.key 1000:l9),([2,ix,5]:List Nat),2,ga,oa,(0+(Int.toNat 1)),(v2-(Int.toNat 1)))=((.key 1000:l9),([2,ix,5]:List Nat),2,ga,oa,1,(l.length-1)))/\((.hd (.key 1000) [2,ix,5] 2 ga oa (0+((0:Int).toNat)) ((Int.toNat 0)-((0:Int).toNat)) (ca-((0:Int).toNat)):V)=.hd (.key 1000) [2,ix,5] 2 ga oa 0 0 ca)/\(V.at gt 0 (aZ n b6 zs ix y l ga oa ca g o c se ls) [2,ix,5]=some (g,o+(ix)*8+7,.own 2 (l.map aj) ga oa ca))/\((2:Nat)=2)/\(0<(l.map aj).length)/\(1+(l.length-1)<=(l.map aj).length)/\(V.ax (l.map aj)=false)/\(aS 2 (l.map aj))/\(ca-(Int.toNat 1))=(ca-(Int.toNat 1)))/\∀ _:Unit,(V.set (aZ n b6 zs ix y l ga oa ca g o c se ls) [2,ix,5] (.own 2 (((l.map aj).drop 1).take (l.length-1)++(l.map aj).drop (l.length-1)) ga oa ca)=aZ n b6 zs ix y (l.drop 1++l.drop (l.length-1)) ga oa ca g o c se ls)/\(((.hd (.key 1000) [2,ix,5] 2 ga oa 0 (l.length-1) ca):V)=.hd (.key 1000) [2,ix,5] 2 ga oa 0 (l.length-1) ca/\v4/\((iN (l.length-1)):V)=.lit (.int .i64 (((l.length-1):Nat):Int))/\((iN v2):V)=.lit (.int .i64 ((v2:Nat):Int))/\((2:Nat)=2)/\(l.length-1)<=v2/\v2<=v1.length)/\∀ _:Unit,((((52:Nat),(.key 1000:l9),([2,ix,5]:List Nat),2,ga,oa,(l.length-1),(v2-(l.length-1)))=((52:Nat),(.key 1000:l9),([2,ix,5]:List Nat),2,ga,oa,(l.length-1),1))/\v4/\((l.length-1)+1<=v1.length)/\(V.ax v1=false)/\(aS 2 v1)/\((.agg [sV [],iN 0]:V).n=2))/\∀ _:Unit,(V.set v3 [2,ix,5] (.own 2 (v1.take (l.length-1)++List.replicate 1 (.agg [sV [],iN 0]:V)++v1.drop ((l.length-1)+1)) ga oa ca)=aZ n b6 zs ix y (l.drop 1++[j9]) ga oa ca g o c se ls)/\Q (.hd (.key 1000) [2,ix,5] 2 ga oa 0 (l.length-1) ca) (.hd (.key 1000) [2,ix,5] 2 ga oa 0 (l.length-1) ca)/\Er gt (aZ n b6 zs ix y (l.drop 1++[j9]) ga oa ca g o c se ls)))) (((l.map aj).length:Nat):Int) (V.at gt 0 v3 [2,ix,5]=some (g,o+(ix)*8+7,.own 2 v1 ga oa ca))) (aZ n b6 zs ix y (l.drop 1++l.drop (l.length-1)) ga oa ca g o c se ls) ((l.map aj).length) ((l.drop 1++l.drop (l.length-1)).map aj)) ?_
 refine⟨aT,fun _=>bI (fun j7=>?_) fun j7=>?_⟩;exact absurd j7 Zaf;refine⟨aT,⟨Zac,Zc8,aT⟩,⟨Zad,bN ⟨Zal,Zal,Zd9,cQ (f:=aj) (fun _=>rfl) _,rfl⟩⟩,fun _=>⟨Eq.trans (Zbm (fun r:V=>V.set _ [2,ix,5] r) (Zbm (V.own 2 · ga oa ca) (NO))) (nH (bB (dj Zac) (kV Zac))),bN ⟨Zad,rfl,Zad,Zch⟩,fun _=>⟨⟨Zal,aJ ⟨Zal,Zd9,cQ (f:=aj) (fun _=>rfl) _,rfl⟩⟩,fun _=>⟨Eq.trans (Zbm (fun r:V=>V.set _ [2,ix,5] r) (Zbm (V.own 2 · ga oa ca) (Lc Zac))) (nH (bB (dj Zac) (kV Zac))),⟨?_,rfl⟩⟩⟩⟩⟩;rfl)
section
variable {P:Program} {N:Nat} {A A' B:AS}
theorem Kl{o:Oper}{K K':AS->Prop}(h:F9 P N o A K)(hK:∀ B,K B->∃ B',D' B B'/\K' B'):F9 P N o A K':=
 fun Pb Kb a w F Q hs=>Oper.wp_mono (fun a' w' ⟨B,Pb',E7,F',hk,A8,h1⟩=>by
  obtain⟨B',e,Rg⟩:=hK B hk;exact⟨B',Pb',E7,F',Rg,A8.eqv e,h1⟩) (h Pb Kb a w F Q hs)
def vS(A:AS)(ρ:l9->l9)(H:List (Nat×(Nat×V)))(q gq:Nat)(vq:V):List (Nat×Nat)->Prop
 | []=>True
 | (k,q')::r=>(match lk k H with
    | some (g,v)=>(match q'==q with
      | true=>(g,v.QU ρ)=(gq,vq)
      | false=>(match lk q' A.h with
        | some (g2,v2)=>(g,v.QU ρ)=(g2,v2)
        | none=>False))
    | none=>False)/\vS A ρ H q gq vq r
theorem xZ{ρ:l9->l9}{H:List (Nat×(Nat×V))}{q gq:Nat}{vq:V}:∀ {ks:List (Nat×Nat)} {k q':Nat},vS A ρ H q gq vq ks->(k,q')∈ks->(lk k H).map (fun gv=>(gv.1,gv.2.QU ρ))=if q'=q then some (gq,vq) else lk q' A.h
 | [],_,_,_,h=>by simp at h
 | (k0,q0)::ks,k,q',h,hm=>by
   rcases List.mem_cons.1 hm with e | hm;cases e;have h1:=h.1;split at h1;rename_i g v hk;rw[hk];split at h1;rename_i e;rw[if_pos Zb5];simp only[Option.map_some,Zan];exact h1;rename_i e;rw[if_neg Zb5];split at h1;rename_i g2 v2 e2;rw[e2];simp only[Option.map_some,Zan];exact h1;exact h1.elim;exact h1.elim;exact xZ h.2 hm
theorem Gc{H:List (Nat×(Nat×V))}{q gq:Nat}{vq:V}{ks:List (Nat×Nat)}(h1:PL (ks.map (·.1))=true)(hn:PL (ks.map (·.2))=true)(h:vS A (jN ks) H q gq vq ks)(hq:q∈ks.map (·.2))(k:Nat):
 lk k (A.back ks H).h=if k=q then some (gq,vq) else lk k A.h:=by
 by_cases hk:k∈ks.map (·.2);obtain⟨⟨k0,q0⟩,hm,rfl⟩:=List.mem_map.1 hk;have hs:lk q0 (Rb ks)=some k0:=(oV h1 hn).1 (ob h1 hm);have:=xZ h hm;simp only[AS.back];rw[lp,pq hn,hs];simp only[Option.bind_some];rw[this];split;rename_i v e;rw[<- e];rename_i e;split at e;cases e;rename_i hne;rw[iD,hs,if_neg hne,e];rfl;rw[Cc hn hk,if_neg (by rintro rfl;exact hk hq)]
def ceE(c:Wo P)(ks:List (Nat×Nat))(q gq:Nat)(vq:V):Eu P where
 X:=Unit
 pre N o A Sl Hl:=match o.op,o.dst with
  | .call ⟨.value fx,xs,_⟩,some d=>match A.ev fx,A.tk xs.toList with
    | .lit (.func (.func f) first A6),(vs,_)=>match f==c.f&&Nat.blt d N&&PL (ks.map (·.1))&&PL (ks.map (·.2))&&c.args.length==(first.toList.map cV++vs++A6.toList.map cV).length&&(fg A xs.toList).isEmpty&&Sl.contains d&&Hl.contains q&&(ks.map (·.2)).contains q with
      | true=>PW (first.toList.map cV++vs++A6.toList.map cV) c.args=c.args/\nk A ks c.H (c.pre/\vS A (jN ks) c.H' q gq vq ks)
      | false=>False
    | _,_=>False
  | _,_=>False
 U o _ _ B:=⟨(B.put o.dst (c.res.QU (jN ks))).t,(q,(gq,vq))::B.h⟩
 Wr:=by
  rintro N ⟨dst,op,ty,pos,after,D4⟩ A Sl Hl hp fs;simp only at hp;split at hp;rename_i fx xs M6 d;split at hp;rename_i f first A6 vs A2 e1 e2
  split at hp;rename_i e3;simp only[Zao,Zbi,Zbk]at e3;have hd:d∈Sl:=e3.1.1.2;have hq:q∈Hl:=e3.1.2;refine⟨fun g B t ht=>?_,fun g B k hk=>?_,fun g B B' hB=>?_,fun g B q2 v' hq2 _=>?_,fun g B k gv hk=>?_⟩;show (B.put (some d) _).get t=_;rw[AS.aB,if_neg (fun c=>ht (by rw[c];exact hd))];simp only[lk];rw[if_neg (fun c=>hk (by rw[c];exact hq))];refine⟨fun t=>?_,fun k=>?_⟩;show (B.put (some d) _).get t=(B'.put (some d) _).get t;rw[AS.aB,AS.aB,hB.1 t];simp only[lk,hB.2 k];refine⟨fun t=>?_,fun k=>rfl⟩;show ((B.put (some q2) v').put (some d) _).get t=((B.put (some d) _).put (some q2) v').get t;rw[AS.aB,AS.aB,AS.aB,AS.aB];by_cases c:t=d;subst c;rw[if_pos rfl,if_neg (fun c=>hq2 (by rw[<- c];exact hd)),if_pos rfl];rw[if_neg c,if_neg c];refine⟨fun _=>rfl,fun k2=>?_⟩;simp only[lk];by_cases c:k2=q;subst c;rw[if_pos rfl,if_neg (fun c=>hk (by rw[<- c];exact hq)),if_pos rfl];rw[if_neg c,if_neg c];exact hp.elim;exact hp.elim;exact hp.elim
 ok:=by
  rintro N ⟨dst,op,ty,pos,after,D4⟩ A A' Sl Hl hg hp hA hR;simp only at hg;subst hg;simp only at hp;split at hp;rename_i fx xs M6 d;split at hp;rename_i f first A6 vs A2 e1 e2
  split at hp;rename_i e3;simp only[Zao,Zbi,Zbk,Zbl,List.isEmpty_iff]at e3;obtain⟨⟨⟨⟨⟨⟨⟨⟨rfl,U4⟩,k1⟩,k2⟩,hlen⟩,K7⟩,hd⟩,hq⟩,hqk⟩:=e3;obtain⟨hargs,hrj⟩:=hp;obtain⟨Sm,TU,YF⟩:=jn hrj;have W3:A'.ev fx=A.ev fx:=bp fun t ht=>hA t Zb1;obtain⟨t1,t2⟩:=tY xs.toList (A:=A) (A':=A') fun t ht=>hA t (by simp only[Op.operands,Call.operands];simp;right;simpa using ht);have VQ:=tG xs.toList (A:=A');rw[t2,K7]at VQ;have XR:(A.tk xs.toList).1=vs:=by rw[e2]
  refine Kl (nX (A:=A') (K:=fun B=>B=((A'.tk xs.toList).2.back ks c.H').put (some d) (c.res.QU (jN ks))) ks rfl (by rw[W3];exact e1) (bF U4) k1 k2 (c.ok TU) (by rw[t1,XR];exact hargs) (by rw[t1,XR];exact hlen)
   (lX (fun k _=>(VQ.2 k).trans (hR k)) Sm) ?_) ?_
  rintro r H0 ⟨rfl,rfl⟩;rfl;rintro B rfl;refine⟨_,⟨fun t=>?_,fun k=>?_⟩,(),rfl⟩;show (AS.put _ (some d) _).get t=(A'.put (some d) _).get t;rw[AS.aB,AS.aB];split;rfl;exact VQ.1 t;show lk k ((A'.tk xs.toList).2.back ks c.H').h=lk k ((q,(gq,vq))::A'.h);rw[px (B:=A) (fun k=>(VQ.2 k).trans (hR k)),Gc k1 k2 YF hqk];simp only[lk,hR k];exact hp.elim;exact hp.elim;exact hp.elim
end
end Go.Proofs.YtngholilfbdfkabGreatDoor