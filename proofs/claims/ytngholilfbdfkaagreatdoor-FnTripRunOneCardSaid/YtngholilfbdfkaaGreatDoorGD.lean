/-
  Words and walks for the laws of pedlar's seat: what each function of the program computes, and that it does; no conditions beyond those that each statement names.
-/
import Derived.Test.YtngholilfbdfkaaGreatDoorGC
import Derived.Test.YtngholilfbdfkaaGreatDoorGB
set_option linter.unusedVariables false
set_option linter.unusedSimpArgs false
set_option linter.unnecessarySimpa false
set_option linter.unusedSectionVars false
namespace Go.Proofs.YtngholilfbdfkaaGreatDoor
open Go Go.RowKit
set_option maxRecDepth 20000
abbrev iw(p0:V):V:=.agg [ p0,bV true]
abbrev iy(p0:List m8)(p1:Bool):V:=.agg [.ow 3 (p0.map ba),bV p1]
theorem KF(gs:List m8)(b:Bool)(g:Nat)(n:BL)(hg:gs.length<=1000)(hn:∀ y,y∈gs->y.na.length<=1000/\y.ru.length<=6):PF Tryz.prog 194 [kp 1000 g,.lit (.iface 241 (.agg #[.string (Str n)]))] [(1000,(g,iy gs b))] (fun r h=>r=(.tup [])/\h=[(1000,(g,iy ((pT gs b n).1) ((pT gs b n).2)))]):=by
 refine aA Tryz.func194
  (.oR (.key 1000) [0] (fun gr fr cr=>.q 1<|.cu (taC (.agg [sV n])) (fun _=>.q 3<|.al qs (fun g4=>.st none<|.q 1<|.q 2<|.gt<|.q 1<|.gt<|.q 1<|.gt<|.q 1<|.gt<|.m7<|.gt<|.q 1<|.gt<|.q 1<|.gt<|.r 5 [.c9]<|.gt<|.q 2<|.br (.A3 11 [(4,l9 [1000] [34]),(6,l9 [4] [36]),(7,⟨true,[],none,[37],[]⟩),(10,⟨true,[],none,[40],[1000]⟩)]<|.l7 4<|.m7<|.q 1<|.m7<|.eu boE (fun PU=>.bd iU<|.bs<|.ux none (fun PJ O9 Qm=>.h (.o9 40 (.own 3 (gs.map ba++[(.agg [.hd (.slot 37) [] 1 PU 0 0 (([n].map sV).length) 1,.sl true [],iN 0]:V)]) PJ O9 Qm))<|.q 2<|.h (.Ta (.slot 40) [gs.length,0] PJ (O9+(gs.length)*3+0) 37)<|.h (.o9 40 (.own 3 (gs.map ba++[(.agg [.own 1 ([n].map sV) PU 0 1,.sl true [],iN 0]:V)]) PJ O9 Qm))<|.h (.UB (.slot 40) [gs.length,1] PJ (O9+(gs.length)*3+1) 2)<|.h (.o9 40 (.own 3 (gs.map ba++[(.agg [.own 1 ([n].map sV) PU 0 1,.own 2 ([].map aE) 0 0 0,iN 0]:V)]) PJ O9 Qm))<|.h (.O1 (.slot 40) [gs.length,0] PJ (O9+(gs.length)*3+0) (.own 1 ([n].map sV) PU 0 1) (.ow 1 ([n].map sV)))<|.h (.o9 40 (.own 3 (gs.map ba++[(.agg [.ow 1 ([n].map sV),.own 2 ([].map aE) 0 0 0,iN 0]:V)]) PJ O9 Qm))<|.h (.O1 (.slot 40) [gs.length,1] PJ (O9+(gs.length)*3+1) (.own 2 ([].map aE) 0 0 0) (.ow 2 ([].map aE)))<|.h (.o9 40 (.own 3 (gs.map ba++[(.agg [.ow 1 ([n].map sV),.ow 2 ([].map aE),iN 0]:V)]) PJ O9 Qm))<|.h (.o9 40 (.own 3 ((gs++[(⟨[n],[],0⟩:m8)]).map ba) PJ O9 Qm))<|.st none<|.q 3<|.st none<|.nil))) (.r 6 [.c9]<|.br (.nil) (.ex (List m8×m8) (fun z=>gs=z.1++[z.2]) (fun (z:List m8×m8)=>(fun y1:V->V=>(.h (.o8 1000 (y1 (iQ z.2:V)))<|.A3 10 [(3,l9 [1000] [55]),(7,l9 [1000] [59])]<|.l7 3<|.m7<|.l7 3<|.m7<|.l7 2<|.h (.o9 61 (iN z.1.length))<|.q 2<|.q 1<|.cu (taC (.agg [sV n])) (fun _=>.q 2<|.br (.al qs (fun g7=>.st none<|.Qx (.key 1000) [0,0+z.1.length,0] gr (fr+(0+z.1.length)*3+0) 1 (z.2.na.map sV) (fun gA oA cA=>.h (.o8 1000 (y1 (sG z.2.na gA oA cA z.2.ru z.2.wa:V)))<|.A3 9 [(4,l9 [1000] [71]),(6,l9 [7] [73]),(8,⟨true,[],none,[75],[1000]⟩)]<|.l7 4<|.r 1 [.own 1 (z.2.na.map sV) gA oA cA]<|.q 1<|.m7<|.bs<|.eu (Vf 1000 [0,0+z.1.length,0] (z.2.na.map sV) ([sV n]:List V) gr (fr+(0+z.1.length)*3+0) 1 gA oA cA) (fun Ro=>.h (.o8 1000 (y1 (.agg [.c9,.ow 2 (z.2.ru.map aE),iN z.2.wa]:V)))<|.h (.o9 75 (.own 1 ((z.2.na++[n]).map sV) Ro.1 Ro.2.1 Ro.2.2))<|.q 2<|.st (some (.c9))<|.h (.o8 1000 (y1 (sG (z.2.na++[n]) Ro.1 Ro.2.1 Ro.2.2 z.2.ru z.2.wa:V)))<|.h (.O1 (.key 1000) [0,0+z.1.length,0] gr (fr+(0+z.1.length)*3+0) (.own 1 ((z.2.na++[n]).map sV) Ro.1 Ro.2.1 Ro.2.2) (.ow 1 ((z.2.na++[n]).map sV)))<|.h (.o8 1000 (y1 (kW (z.2.na++[n]) z.2.ru z.2.wa:V)))<|.h (.o8 1000 (.agg [.own 3 ((z.1++[(⟨z.2.na++[n],z.2.ru,z.2.wa⟩:m8)]).map ba) gr fr cr,bV b]))<|.nil)))) (.nil)):Sc Tryz.prog)) (fun r:V=>(.agg [.own 3 (z.1.map ba++[r]) gr fr cr,bV b])))))))))
  ((fun (v6 v4 v3:V) (v5:List V) (v2:Nat) (v1:Bool)=>(∀ gr fr cr:Nat,((∃ td,Tryz.prog.underlying 241=some td/\∀ i,td≠.interface i)/\((241:Nat)=241)/\((.agg #[.string (Str n)]:Value)=.agg #[.string (Str n)]))/\∀ _:Unit,∀ g4:Nat,Z g4 0/\(true=true)/\(true=true)/\True/\(true=true)/\(true=true)/\Z g 0/\(true=true)/\(true=true)/\(true=true)/\Gd (v1==false) True/\Gd (v1==false) (Z g 1)/\(true=true)/\Pk v1 true (v1==false)/\Pk true true true/\Br (true&&(v1||b)) (True/\Z g 0/\Z g4 0/\True/\∀ PU:Nat,(fun (v10 v9 v8:V) (v7:List V)=>(((3,3,gr,fr,cr,(gs.map ba).length)=(3,3,gr,fr,cr,(gs.map ba).length))/\(V.aK v7=false)/\(aX 3 v7)/\(((gs.map ba).length+v7.length)*56<=140737488355328))/\∀ PJ O9 Qm:Nat,(fun v11:V->V=>((.own 3 ((gs.map ba)++v7) PJ O9 Qm:V)=.own 3 (gs.map ba++[v9]) PJ O9 Qm)/\True/\(V.at PJ O9 (v11 v9) [gs.length,0]=some (PJ,O9+(gs.length)*3+0,.hd (.slot 37) [] 1 PU 0 0 v2 1))/\(V.set (v11 v9) [gs.length,0] (.own 1 ([n].map sV) PU 0 1)=.own 3 (gs.map ba++[v10]) PJ O9 Qm)/\(V.at PJ O9 (v11 v10) [gs.length,1]=some (PJ,O9+(gs.length)*3+1,.sl true []))/\(V.set (v11 v10) [gs.length,1] (.own 2 ([].map aE) 0 0 0)=.own 3 (gs.map ba++[v8]) PJ O9 Qm)/\(V.at PJ O9 (v11 v8) [gs.length,0]=some (PJ,O9+(gs.length)*3+0,.own 1 ([n].map sV) PU 0 1))/\(V.set (v11 v8) [gs.length,0] (.ow 1 ([n].map sV))=.own 3 (gs.map ba++[v3]) PJ O9 Qm)/\(V.at PJ O9 (v11 v3) [gs.length,1]=some (PJ,O9+(gs.length)*3+1,.own 2 ([].map aE) 0 0 0))/\(V.set (v11 v3) [gs.length,1] (.ow 2 ([].map aE))=.own 3 (gs.map ba++[v6]) PJ O9 Qm)/\((.own 3 (gs.map ba++[v6]) PJ O9 Qm:V)=.own 3 ((gs++[(⟨[n],[],0⟩:m8)]).map ba) PJ O9 Qm)/\Z g 0/\True/\Z g 1/\Q (.tup []) (.tup [])/\Qr g (.agg [.ow 3 ((gs++[(⟨[n],[],0⟩:m8)]).map ba),bV false]) g v4) (fun r:V=>(.own 3 (gs.map ba++[r]) PJ O9 Qm))) (.agg [.own 1 ([n].map sV) PU 0 1,.sl true [],iN 0]:V) (.agg [.hd (.slot 37) [] 1 PU 0 0 v2 1,.sl true [],iN 0]:V) (.agg [.own 1 ([n].map sV) PU 0 1,.own 2 ([].map aE) 0 0 0,iN 0]:V) ([.agg [.hd (.slot 37) [] 1 PU 0 0 v2 1,.sl true [],iN 0]]:List V)) (True/\Z g 0/\Br v1 (Q (.tup []) (.tup [])/\Qr g (iy gs b) g v4) ((∃ z:List m8×m8,gs=z.1++[z.2])/\∀ z:List m8×m8,(gs=z.1++[z.2])->(fun (y9 u7:List V) (A5 r9:V) (v12:V->V)=>((.agg [.own 3 (gs.map ba) gr fr cr,bV b]:V)=(v12 A5))/\True/\Z g 0/\True/\Z g 0/\n8 ((((z.1.map ba++[A5]).length:Nat):Int)-1)/\Q (iV ((((z.1.map ba++[A5]).length:Nat):Int)-1)) (iN z.1.length)/\In (z.1.length:Int) ((z.1.map ba++[A5]).length)/\((∃ td,Tryz.prog.underlying 241=some td/\∀ i,td≠.interface i)/\((241:Nat)=241)/\((.agg #[.string (Str n)]:Value)=.agg #[.string (Str n)]))/\∀ _:Unit,Br true (∀ g7:Nat,Z g7 0/\(V.at g 0 (v12 A5) [0,0+z.1.length,0]=some (gr,fr+(0+z.1.length)*3+0,.ow 1 u7))/\∀ gA oA cA:Nat,(fun E0:V=>(V.set (v12 A5) [0,0+z.1.length,0] (.own 1 u7 gA oA cA)=(v12 E0))/\True/\(V.at g 0 (v12 E0) [0,0+z.1.length,0]=some (gr,(fr+(0+z.1.length)*3+0),.own 1 u7 gA oA cA))/\Z g7 0/\(v5=v5/\((.hd (.key 1000) [0,0+z.1.length,0] 1 gA oA 0 (u7.length) cA:V)=.hd (.key 1000) [0,0+z.1.length,0] 1 gA oA 0 (u7.length) cA)/\(V.at g 0 (v12 E0) [0,0+z.1.length,0]=some (gr,fr+(0+z.1.length)*3+0,.own 1 u7 gA oA cA))/\((1:Nat)=1)/\(V.aK v5=false)/\(aX 1 v5)/\((u7.length+v5.length)*16<=140737488355328))/\∀ Ro:Nat×Nat×Nat,(fun E4:V=>(V.set (v12 E0) [0,0+z.1.length,0] (.c9)=(v12 r9))/\((.own 1 (u7++v5) Ro.1 Ro.2.1 Ro.2.2:V)=.own 1 y9 Ro.1 Ro.2.1 Ro.2.2)/\True/\(V.at g 0 (v12 r9) [0,0+z.1.length,0]=some (gr,(fr+(0+z.1.length)*3+0),.c9))/\(V.set (v12 r9) [0,0+z.1.length,0] (.own 1 y9 Ro.1 Ro.2.1 Ro.2.2)=(v12 E4))/\(V.at g 0 (v12 E4) [0,0+z.1.length,0]=some (gr,fr+(0+z.1.length)*3+0,.own 1 y9 Ro.1 Ro.2.1 Ro.2.2))/\(V.set (v12 E4) [0,0+z.1.length,0] (.ow 1 y9)=(v12 (kW (z.2.na++[n]) z.2.ru z.2.wa:V)))/\((.agg [.own 3 (z.1.map ba++[(kW (z.2.na++[n]) z.2.ru z.2.wa:V)]) gr fr cr,bV b]:V)=.agg [.own 3 ((z.1++[(⟨z.2.na++[n],z.2.ru,z.2.wa⟩:m8)]).map ba) gr fr cr,bV b])/\Q (.tup []) (.tup [])/\Qr g (iy (z.1++[(⟨z.2.na++[n],z.2.ru,z.2.wa⟩:m8)]) b) g v4) (sG (z.2.na++[n]) Ro.1 Ro.2.1 Ro.2.2 z.2.ru z.2.wa:V)) (sG z.2.na gA oA cA z.2.ru z.2.wa:V)) (False)) ((z.2.na++[n]).map sV) (z.2.na.map sV) (iQ z.2:V) (.agg [.c9,.ow 2 (z.2.ru.map aE),iN z.2.wa]:V) (fun r:V=>(.agg [.own 3 (z.1.map ba++[r]) gr fr cr,bV b])))))) (.agg [.ow 1 ([n].map sV),.ow 2 ([].map aE),iN 0]:V) (iy ((pT gs b n).1) ((pT gs b n).2)) (.agg [.ow 1 ([n].map sV),.own 2 ([].map aE) 0 0 0,iN 0]:V) ([sV n]:List V) (([n].map sV).length) (r4 (((gs.map ba).length:Nat):Int) 0)) ?_
 intro gr fr cr;refine⟨⟨⟨_,Tryz.underlying241,Zds⟩,aI⟩,fun _=>fun g4=>Dd (jB (bI (fun l4=>?_) fun l4=>?_))⟩;refine dM fun PU=>⟨aI,fun PJ O9 Qm=>⟨Zbm (V.own 3 · PJ O9 Qm) (rfl),trivial,Zdd,Zde,Zdd,Zde,Zdd,Zde,Zdd,Zde,Zbm (V.own 3 · PJ O9 Qm) (by rw[Zbb (f:=ba)];rfl),bN ⟨?_,by rw[show pT gs b n=(gs++[⟨[n],[],0⟩],false) from if_pos (l4.imp (fun h=>Za5 Zbq) id)]⟩⟩⟩;rfl
 · refine bJ (bI (fun l6=>?_) fun l6=>?_)
   · all_goals (simp_all)
   · refine⟨kc (kI Zac),fun z hz=>?_⟩;have Ua:=hn z.2 (by rw[hz];simp);have UW:gs.length=z.1.length+1:=by rw[hz];simp
     refine⟨Zdt,fQ ⟨Zdu,az ⟨⟨⟨_,Tryz.underlying241,Zds⟩,aI⟩,?_⟩⟩⟩;intro _;refine bI (fun n9=>?_) fun n9=>?_;intro g7;refine⟨rfl,Zdv,fun gA oA cA=>⟨Zdw,trivial,Zdv,rfl,⟨rfl,rfl,Zdv,aI⟩,fun Ro=>⟨Zdw,Zbm (V.own 1 · Ro.1 Ro.2.1 Ro.2.2) Zad,trivial,Zdv,Zdw,Zdv,Zdw,Zdx,⟨?_,by rw[show pT gs b n=(z.1++[⟨z.2.na++[n],z.2.ru,z.2.wa⟩],b) from by rw[pT,if_neg (by rintro (h | h) <;> simp_all),hz,ej]]⟩⟩⟩⟩;rfl
     · all_goals (first | exact absurd n9 Zaf | simp_all)
theorem Ku(gs:List m8)(b:Bool)(g:Nat)(l:Bool)(p:BL)(hg:gs.length<=1000)(hn:∀ y,y∈gs->y.na.length<=1000/\y.ru.length<=6):PF Tryz.prog 194 [kp 1000 g,.lit (.iface 243 (.agg #[.bool l,.string (Str p)]))] [(1000,(g,iy gs b))] (fun r h=>r=(.tup [])/\h=[(1000,(g,iy ((mB gs b l p).1) ((mB gs b l p).2)))]):=by
 refine aA Tryz.func194
  (.oR (.key 1000) [0] (fun gr fr cr=>.q 1<|.cu (ZK qs) (fun _=>.q 3<|.al qs (fun g4=>.st none<|.q 1<|.q 2<|.gf (.c9)<|.gf (.c9)<|.gf (.c9)<|.gf (.c9)<|.gf (.c9)<|.gf (bV false)<|.gf (bV false)<|.gf (.c9)<|.gf (.c9)<|.gf (.c9)<|.gf (bV false)<|.gf (bV false)<|.q 1<|.br (.nil) (.r 6 [.c9]<|.br (.nil) (.ex (List m8×m8) (fun z=>gs=z.1++[z.2]) (fun (z:List m8×m8)=>(fun (y3 y2:List V) (y1:V->V)=>(.h (.o8 1000 (.agg [.own 3 (z.1.map ba++[(iQ z.2:V)]) gr fr cr,bV b]))<|.A3 10 [(3,l9 [1000] [55]),(7,l9 [1000] [59])]<|.l7 3<|.m7<|.l7 3<|.m7<|.l7 2<|.h (.o9 61 (iN z.1.length))<|.q 2<|.q 1<|.cu (ZK qs) (fun _=>.q 2<|.br (.nil) (.cu (taC (.agg [dD l p])) (fun _=>.q 2<|.br (.al Hf (fun g8=>.st none<|.q 3<|.st none<|.Qx (.key 1000) [0,0+z.1.length,1] gr (fr+(0+z.1.length)*3+1) 2 y3 (fun gA oA cA=>.h (.o8 1000 (y1 (qA z.2.na z.2.ru gA oA cA z.2.wa:V)))<|.r 6 [.own 2 y3 gA oA cA]<|.br (.A3 9 [(4,l9 [1000] [94]),(6,l9 [8] [96]),(8,⟨true,[],none,[98],[1000]⟩)]<|.l7 4<|.r 1 [.own 2 y3 gA oA cA]<|.q 1<|.m7<|.bs<|.eu (Vf 1000 [0,0+z.1.length,1] y3 ([dD l p]:List V) gr (fr+(0+z.1.length)*3+1) 2 gA oA cA) (fun Rn=>.h (.o8 1000 (y1 (.agg [.ow 1 (z.2.na.map sV),.c9,iN z.2.wa]:V)))<|.h (.o9 98 (.own 2 y2 Rn.1 Rn.2.1 Rn.2.2))<|.q 2<|.st (some (.c9))<|.h (.o8 1000 (iw (.own 3 (z.1.map ba++[(qA z.2.na (z.2.ru++[(⟨l,p⟩:u0)]) Rn.1 Rn.2.1 Rn.2.2 z.2.wa:V)]) gr fr cr)))<|.h (.O1 (.key 1000) [0,0+z.1.length,1] gr (fr+(0+z.1.length)*3+1) (.own 2 y2 Rn.1 Rn.2.1 Rn.2.2) (.ow 2 y2))<|.h (.o8 1000 (y1 (kW z.2.na (z.2.ru++[(⟨l,p⟩:u0)]) z.2.wa:V)))<|.h (.o8 1000 (.agg [.own 3 ((z.1++[(⟨z.2.na,z.2.ru++[⟨l,p⟩],z.2.wa⟩:m8)]).map ba) gr fr cr,bV true]))<|.nil)) (.h (.O1 (.key 1000) [0,0+z.1.length,1] gr (fr+(0+z.1.length)*3+1) (.own 2 y3 gA oA cA) (.ow 2 y3))<|.h (.o8 1000 (y1 (iQ z.2:V)))<|.h (.o8 1000 (.agg [.own 3 ((z.1++[z.2]).map ba) gr fr cr,bV true]))<|.nil)))) (.nil)))):Sc Tryz.prog)) (z.2.ru.map aE) ((z.2.ru++[(⟨l,p⟩:u0)]).map aE) (fun r:V=>(iw (.own 3 (z.1.map ba++[r]) gr fr cr))))))))))
  ((fun (v3:V) (v2:List V) (v1:u0)=>(∀ gr fr cr:Nat,((∃ td,Tryz.prog.underlying 241=some td/\∀ i,td≠.interface i)/\((243:Nat)≠241)/\(∃ y,(.agg [sV []]:V).val? =some y/\∀ w,(zeroValue 241).run Tryz.prog w=.ok y w))/\∀ _:Unit,∀ g4:Nat,Z g4 0/\(false=false)/\(false=false)/\(false=false)/\(false=false)/\(false=false)/\(false=false)/\(false=false)/\(false=false)/\(false=false)/\(false=false)/\(false=false)/\(false=false)/\Pk false false true/\Br (false&&false) (False) (True/\Z g 0/\Br (r4 (((gs.map ba).length:Nat):Int) 0) (Q (.tup []) (.tup [])/\Qr g (iy gs b) g v3) ((∃ z:List m8×m8,gs=z.1++[z.2])/\∀ z:List m8×m8,(gs=z.1++[z.2])->(fun (v9 v8 v5:List V) (v7 v6:V) (v4:V->V)=>((.agg [.own 3 (gs.map ba) gr fr cr,bV b]:V)=.agg [.own 3 (z.1.map ba++[v6]) gr fr cr,bV b])/\True/\Z g 0/\True/\Z g 0/\n8 ((((z.1.map ba++[v6]).length:Nat):Int)-1)/\Q (iV ((((z.1.map ba++[v6]).length:Nat):Int)-1)) (iN z.1.length)/\In (z.1.length:Int) ((z.1.map ba++[v6]).length)/\((∃ td,Tryz.prog.underlying 241=some td/\∀ i,td≠.interface i)/\((243:Nat)≠241)/\(∃ y,(.agg [sV []]:V).val? =some y/\∀ w,(zeroValue 241).run Tryz.prog w=.ok y w))/\∀ _:Unit,Br false (False) (((∃ td,Tryz.prog.underlying 243=some td/\∀ i,td≠.interface i)/\((243:Nat)=243)/\((.agg #[.bool l,.string (Str p)]:Value)=.agg #[.bool l,.string (Str p)]))/\∀ _:Unit,Br true (∀ g8:Nat,Z g8 0/\True/\Z g 1/\(V.at g 0 (iw (v4 v6)) [0,0+z.1.length,1]=some (gr,fr+(0+z.1.length)*3+1,.ow 2 v5))/\∀ gA oA cA:Nat,(fun v10:V=>(fun (v12 v11:Prop)=>(V.set (iw (v4 v6)) [0,0+z.1.length,1] (.own 2 v5 gA oA cA)=iw (v4 (qA z.2.na z.2.ru gA oA cA z.2.wa:V)))/\True/\v11/\Br (s4 ((v5.length:Nat):Int) 6) (True/\v11/\Z g8 0/\(v2=v2/\((.hd (.key 1000) [0,0+z.1.length,1] 2 gA oA 0 (v5.length) cA:V)=.hd (.key 1000) [0,0+z.1.length,1] 2 gA oA 0 (v5.length) cA)/\v12/\((2:Nat)=2)/\(V.aK v2=false)/\(aX 2 v2)/\((v5.length+v2.length)*24<=140737488355328))/\∀ Rn:Nat×Nat×Nat,(fun r9:V=>(V.set v10 [0,0+z.1.length,1] (.c9)=iw (v4 v7))/\((.own 2 (v5++v2) Rn.1 Rn.2.1 Rn.2.2:V)=.own 2 v8 Rn.1 Rn.2.1 Rn.2.2)/\True/\(V.at g 0 (iw (v4 v7)) [0,0+z.1.length,1]=some (gr,(fr+(0+z.1.length)*3+1),.c9))/\(V.set (iw (v4 v7)) [0,0+z.1.length,1] (.own 2 v8 Rn.1 Rn.2.1 Rn.2.2)=iw r9)/\(V.at g 0 (iw r9) [0,0+z.1.length,1]=some (gr,fr+(0+z.1.length)*3+1,.own 2 v8 Rn.1 Rn.2.1 Rn.2.2))/\(V.set (iw r9) [0,0+z.1.length,1] (.ow 2 v8)=iw (v4 (kW z.2.na (z.2.ru++[v1]) z.2.wa:V)))/\((iw (v4 (kW z.2.na (z.2.ru++[v1]) z.2.wa:V)):V)=.agg [.own 3 v9 gr fr cr,bV true])/\Q (.tup []) (.tup [])/\Qr g (.agg [.ow 3 v9,bV true]) g v3) (.own 3 (z.1.map ba++[(qA z.2.na (z.2.ru++[v1]) Rn.1 Rn.2.1 Rn.2.2 z.2.wa:V)]) gr fr cr)) (v12/\(V.set v10 [0,0+z.1.length,1] (.ow 2 v5)=iw (v4 v6))/\((iw (v4 v6):V)=.agg [.own 3 ((z.1++[z.2]).map ba) gr fr cr,bV true])/\Q (.tup []) (.tup [])/\Qr g (.agg [.ow 3 ((z.1++[z.2]).map ba),bV true]) g v3)) (V.at g 0 v10 [0,0+z.1.length,1]=some (gr,fr+(0+z.1.length)*3+1,.own 2 v5 gA oA cA)) (V.at g 0 v10 [0,0+z.1.length,1]=some (gr,(fr+(0+z.1.length)*3+1),.own 2 v5 gA oA cA))) (iw (v4 (qA z.2.na z.2.ru gA oA cA z.2.wa:V)))) (False))) ((z.1++[(⟨z.2.na,z.2.ru++[⟨l,p⟩],z.2.wa⟩:m8)]).map ba) ((z.2.ru++[v1]).map aE) (z.2.ru.map aE) (.agg [.ow 1 (z.2.na.map sV),.c9,iN z.2.wa]:V) (iQ z.2:V) (fun r:V=>(.own 3 (z.1.map ba++[r]) gr fr cr)))))) (iy ((mB gs b l p).1) ((mB gs b l p).2)) ([dD l p]:List V) (⟨l,p⟩:u0)) ?_
 intro gr fr cr;refine⟨⟨⟨_,Tryz.underlying241,Zds⟩,Zaf,_,rfl,Tryz.zeroValue241⟩,fun _=>fun g4=>pw (jB (bI (fun l4=>?_) fun l4=>?_))⟩
 · all_goals (first | exact absurd l4 Zaf | simp_all)
 · refine bJ (bI (fun l6=>?_) fun l6=>?_);refine⟨?_,by rw[show mB gs b l p=(gs,b) from if_pos (Za5 Zac)]⟩;rfl
   · refine⟨kc (kI Zac),fun z hz=>?_⟩;have Ua:=hn z.2 (by rw[hz];simp);have UW:gs.length=z.1.length+1:=by rw[hz];simp
     refine⟨Zdt,fQ ⟨Zdu,az ⟨⟨⟨_,Tryz.underlying241,Zds⟩,Zaf,_,rfl,Tryz.zeroValue241⟩,?_⟩⟩⟩;intro _;refine bI (fun n9=>?_) fun n9=>?_
     · all_goals (first | exact absurd n9 Zaf | simp_all)
     · refine⟨⟨⟨_,Tryz.underlying243,Zds⟩,aI⟩,fun _=>bI (fun B6=>?_) fun B6=>?_⟩;intro g8;refine bN ⟨Zdv,fun gA oA cA=>⟨Zdw,trivial,Zdv,bI (fun H5=>?_) fun H5=>?_⟩⟩;refine⟨trivial,Zdv,rfl,⟨rfl,rfl,Zdv,aI⟩,fun Rn=>⟨Zdw,Zbm (V.own 2 · Rn.1 Rn.2.1 Rn.2.2) Zad,trivial,Zdv,Zdw,Zdv,Zdw,Zdx,⟨?_,by rw[show mB gs b l p=(z.1++[⟨z.2.na,z.2.ru++[⟨l,p⟩],z.2.wa⟩],true) from by rw[mB,if_neg (by rintro h;simp_all),if_pos (by rw[hz,kN];omega),hz,ej]]⟩⟩⟩;rfl;refine⟨Zdv,Zdw,Zdx,⟨?_,by rw[show mB gs b l p=(z.1++[z.2],true) from by rw[mB,if_neg (by rintro h;simp_all),if_neg (by rw[hz,kN];omega),hz]]⟩⟩;rfl
       · all_goals (first | exact absurd B6 Zaf | simp_all)
theorem Jm(gs:List m8)(b:Bool)(g v:Nat)(hg:gs.length<=1000)(hn:∀ y,y∈gs->y.na.length<=1000/\y.ru.length<=6):PF Tryz.prog 194 [kp 1000 g,.lit (.iface 245 (.agg #[.int .i64 (v:Int)]))] [(1000,(g,iy gs b))] (fun r h=>r=(.tup [])/\h=[(1000,(g,iy ((pV gs b v).1) ((pV gs b v).2)))]):=by
 refine aA Tryz.func194
  (.oR (.key 1000) [0] (fun gr fr cr=>.q 1<|.cu (ZK qs) (fun _=>.q 3<|.al qs (fun g4=>.st none<|.q 1<|.q 2<|.gf (.c9)<|.gf (.c9)<|.gf (.c9)<|.gf (.c9)<|.gf (.c9)<|.gf (bV false)<|.gf (bV false)<|.gf (.c9)<|.gf (.c9)<|.gf (.c9)<|.gf (bV false)<|.gf (bV false)<|.q 1<|.br (.nil) (.r 6 [.c9]<|.br (.nil) (.ex (List m8×m8) (fun z=>gs=z.1++[z.2]) (fun (z:List m8×m8)=>.h (.o8 1000 (.agg [.own 3 (z.1.map ba++[(iQ z.2:V)]) gr fr cr,bV b]))<|.A3 10 [(3,l9 [1000] [55]),(7,l9 [1000] [59])]<|.l7 3<|.m7<|.l7 3<|.m7<|.l7 2<|.h (.o9 61 (iN z.1.length))<|.q 2<|.q 1<|.cu (ZK qs) (fun _=>.q 2<|.br (.nil) (.cu (ZK Hf) (fun _=>.q 2<|.br (.nil) (.cu (taC (.agg [iN v])) (fun _=>.q 2<|.br (.al KX (fun g9=>.st none<|.q 3<|.st none<|.r 5 [.c9]<|.st (some (iN z.2.wa))<|.h (.o8 1000 (iw (.own 3 (z.1.map ba++[(kW z.2.na z.2.ru v:V)]) gr fr cr)))<|.h (.o8 1000 (.agg [.own 3 ((z.1++[(⟨z.2.na,z.2.ru,v⟩:m8)]).map ba) gr fr cr,bV true]))<|.nil)) (.nil)))))))))))))
  ((fun v1:V=>(∀ gr fr cr:Nat,((∃ td,Tryz.prog.underlying 241=some td/\∀ i,td≠.interface i)/\((245:Nat)≠241)/\(∃ y,(.agg [sV []]:V).val? =some y/\∀ w,(zeroValue 241).run Tryz.prog w=.ok y w))/\∀ _:Unit,∀ g4:Nat,Z g4 0/\(false=false)/\(false=false)/\(false=false)/\(false=false)/\(false=false)/\(false=false)/\(false=false)/\(false=false)/\(false=false)/\(false=false)/\(false=false)/\(false=false)/\Pk false false true/\Br (false&&false) (False) (True/\Z g 0/\Br (r4 (((gs.map ba).length:Nat):Int) 0) (Q (.tup []) (.tup [])/\Qr g (iy gs b) g v1) ((∃ z:List m8×m8,gs=z.1++[z.2])/\∀ z:List m8×m8,(gs=z.1++[z.2])->(fun (v4:List V) (v3 v2:V)=>((.agg [.own 3 (gs.map ba) gr fr cr,bV b]:V)=.agg [.own 3 (z.1.map ba++[v2]) gr fr cr,bV b])/\True/\Z g 0/\True/\Z g 0/\n8 ((((z.1.map ba++[v2]).length:Nat):Int)-1)/\Q (iV ((((z.1.map ba++[v2]).length:Nat):Int)-1)) (iN z.1.length)/\In (z.1.length:Int) ((z.1.map ba++[v2]).length)/\((∃ td,Tryz.prog.underlying 241=some td/\∀ i,td≠.interface i)/\((245:Nat)≠241)/\(∃ y,(.agg [sV []]:V).val? =some y/\∀ w,(zeroValue 241).run Tryz.prog w=.ok y w))/\∀ _:Unit,Br false (False) (((∃ td,Tryz.prog.underlying 243=some td/\∀ i,td≠.interface i)/\((245:Nat)≠243)/\(∃ y,(.agg [.agg [bV false,sV []]]:V).val? =some y/\∀ w,(zeroValue 243).run Tryz.prog w=.ok y w))/\∀ _:Unit,Br false (False) (((∃ td,Tryz.prog.underlying 245=some td/\∀ i,td≠.interface i)/\((245:Nat)=245)/\((.agg #[.int .i64 (v:Int)]:Value)=.agg #[.int .i64 (v:Int)]))/\∀ _:Unit,Br true (∀ g9:Nat,Z g9 0/\True/\Z g 1/\Z g9 0/\True/\(V.at g 0 (iw (.own 3 (z.1.map ba++[v2]) gr fr cr)) [0,0+z.1.length,2]=some (gr,(fr+(0+z.1.length)*3+2),iN z.2.wa))/\(V.set (iw (.own 3 (z.1.map ba++[v2]) gr fr cr)) [0,0+z.1.length,2] (iN v)=iw v3)/\((iw v3:V)=.agg [.own 3 v4 gr fr cr,bV true])/\Q (.tup []) (.tup [])/\Qr g (.agg [.ow 3 v4,bV true]) g v1) (Q (.tup []) (.tup [])/\Qr g (.agg [.ow 3 (z.1.map ba++[v2]),bV b]) g v1)))) ((z.1++[(⟨z.2.na,z.2.ru,v⟩:m8)]).map ba) (.own 3 (z.1.map ba++[(kW z.2.na z.2.ru v:V)]) gr fr cr) (iQ z.2:V))))) (iy ((pV gs b v).1) ((pV gs b v).2))) ?_
 intro gr fr cr;refine⟨⟨⟨_,Tryz.underlying241,Zds⟩,Zaf,_,rfl,Tryz.zeroValue241⟩,fun _=>fun g4=>pw (jB (bI (fun l4=>?_) fun l4=>?_))⟩
 · all_goals (first | exact absurd l4 Zaf | simp_all)
 · refine bJ (bI (fun l6=>?_) fun l6=>?_);refine⟨?_,by rw[show pV gs b v=(gs,b) from if_pos (Za5 Zac)]⟩;rfl
   · refine⟨kc (kI Zac),fun z hz=>?_⟩;have Ua:=hn z.2 (by rw[hz];simp);have UW:gs.length=z.1.length+1:=by rw[hz];simp
     refine⟨Zdt,fQ ⟨Zdu,az ⟨⟨⟨_,Tryz.underlying241,Zds⟩,Zaf,_,rfl,Tryz.zeroValue241⟩,?_⟩⟩⟩;intro _;refine bI (fun n9=>?_) fun n9=>?_
     · all_goals (first | exact absurd n9 Zaf | simp_all)
     · refine⟨⟨⟨_,Tryz.underlying243,Zds⟩,Zaf,_,rfl,Tryz.zeroValue243⟩,fun _=>bI (fun B6=>?_) fun B6=>?_⟩
       · all_goals (first | exact absurd B6 Zaf | simp_all)
       · refine⟨⟨⟨_,Tryz.underlying245,Zds⟩,aI⟩,fun _=>bI (fun H5=>?_) fun H5=>?_⟩;intro g9;refine fQ ⟨Zdv,Zdw,Zdx,⟨?_,by rw[show pV gs b v=(z.1++[⟨z.2.na,z.2.ru,v⟩],true) from by rw[pV,if_neg (by rintro h;simp_all),hz,ej]]⟩⟩;rfl
         · all_goals (first | exact absurd H5 Zaf | simp_all)
def Hq(c:UInt8):Bool:=decide (48<=c.toNat/\c.toNat<=57)
theorem Fh(s:BL):s.all (fun c=>decide (48<=c.toNat/\c.toNat<=57))=s.all Hq:=rfl
abbrev lE(s:BL)(i:Nat)(q:Int):Prop:=i<=s.length/\q=((s.take i).foldl (kh 20) 0)/\(0<=q/\q<=20)/\∀ j,j<i->Hq (s.getD j 0)=true
def Ap(s:BL):aG:=.mk 213 [sV s] [] (s.length<=1000000) (iV (fU s 20)) [] (by
 intro hs
 refine aA Tryz.func213
  (.l7 3<|.loop (Nat×Int) (fun (i,q)=>⟨[(0,sV s),(3,iV q),(4,iN i)],[]⟩) (fun (i,q)=>lE s i q) (fun (i,q)=>s.length-i) (fun (i,q)=>.q 4<|.br (.q 10<|.br (.q 1<|.nil) (.q 8<|.mm<|.q 1<|.q 3<|.nil)) (.q 2<|.nil)))
  ((∃ x:Nat×Int,match x with | (j7,D0)=>(lE s j7 D0)/\E (sV s)/\Q (iN 0) (iV D0)/\Q (iN 0) (iN j7)/\True)/\∀ x:Nat×Int,match x with | (i,q)=>(lE s i q)->(fun v1:Int=>Br (s4 (i:Int) (s.length:Int)) (Ix (i:Int) s/\Gd ((s4 v1 48)==false) (Ix (i:Int) s)/\Pk (s4 v1 48) true ((s4 v1 48)==false)/\Br ((s4 v1 48)||(s9 v1 57)) (Q (iN 0) (iV (fU s 20))) (n8 (q*10)/\Ix (i:Int) s/\Ti (v1-48)/\n8 (v1-48)/\n8 ((q*10)+(v1-48))/\(IntKind.i64=IntKind.i64)/\n8 ((i:Int)+1)/\∃ x:Nat×Int,match x with | (e9,s8)=>(lE s e9 s8)/\(s.length-e9<s.length-i)/\E (sV s)/\Q (iV (min ((q*10)+(v1-48)) 20)) (iV s8)/\Q (iN (i+1)) (iN e9)/\True)) (Q (iV q) (iV (fU s 20)))) (((s.getD i 0).toNat:Nat):Int)) ?_
 refine⟨⟨(0,0),?_,rfl,Zah,aI⟩,?_⟩;unfold lE;simp;rintro⟨i,q⟩ ⟨h1,h2,h3,h4⟩;have hci:=(s.getD i 0).toNat_lt;refine bI (fun l4=>?_) fun l4=>?_;refine bN (bI (fun l6=>?_) fun l6=>?_);rw[show fU s 20=0 from if_neg (by rw[Fh,all_false (i:=i) (d:=0) Zac (by unfold Hq;rw[decide_eq_false_iff_not];omega)];decide)];rfl;refine bJ ⟨Zcc,Zcc,Zcc,bJ ⟨(i+1,min ((q*10)+((((s.getD i 0).toNat:Nat):Int)-48)) 20),?_,?_,aI⟩⟩;unfold lE;refine⟨Zac,?_,az (bm h4 (by unfold Hq;rw[Zbk];omega))⟩;rw[foldl_succ (d:=0) Zac,<- h2,kh];exact Zak;rw[show fU s 20=s.foldl (kh 20) 0 from if_pos (by rw[Fh];exact all_true (d:=0) (fun j hj=>h4 j Zac)),h2,Zaz Zac])
abbrev ja(t:BL):V:=.tup [.lit (GQ (iX (aj 32 t).1 (aj 32 t).2.1)),bV (kZ (aj 32 t).1 (aj 32 t).2.1)]
def Ay(t:BL):aG:=.mk 193 [sV t] [] (t.length<=1000000) (ja t) [] (by
 intro ht;have Rw:=oU 32 t
 refine aA Tryz.func193
  (.q 2<|.q 1<|.c (sx t 32) []<|.q 7<|.q 1<|.q 2<|.br (.q 1<|.bd qs<|.cu miC (fun _=>.q 1<|.c (vO ((aj 32 t).2.1)) []<|.q 2<|.nil)) (.q 2<|.join (Bool) (fun c=>⟨[(0,sV t),(2,.lit .nilIface),(3,bV false),(8,sV t),(9,.tup [sV ((aj 32 t).1),sV ((aj 32 t).2.1),bV ((aj 32 t).2.2)]),(7,.tup [sV ((aj 32 t).1),sV ((aj 32 t).2.1),bV ((aj 32 t).2.2)]),(10,sV ((aj 32 t).1)),(11,sV ((aj 32 t).2.1)),(12,bV ((aj 32 t).2.2)),(4,sV ((aj 32 t).1)),(5,sV ((aj 32 t).2.1)),(6,bV ((aj 32 t).2.2)),(13,sV ((aj 32 t).1)),(15,bV (((aj 32 t).1)==([99,97,108,108,101,114]:BL))),(14,bV (((aj 32 t).1)==([99,97,108,108,101,114]:BL))),(22,bV (((aj 32 t).1)==([108,101,116]:BL))),(21,bV c)],[]⟩) (fun c=>c=decide ((aj 32 t).1=[108,101,116]\/(aj 32 t).1=[98,97,114])) (.nil) (.q 2<|.nil) (fun c=>.br (.q 3<|.bd uW<|.bd Hf<|.cu miC (fun _=>.q 1<|.c (nO ((aj 32 t).2.1)) []<|.q 2<|.nil)) (.q 2<|.br (.q 1<|.c (Ap ((aj 32 t).2.1)) []<|.bd KX<|.cu miC (fun _=>.q 2<|.nil)) (.q 2<|.nil)))))
  ((fun (v5 v4 v1:V) (v3 v2:BL)=>((sx t 32).sm/\((t.length<=1000000))/\Br (((aj 32 t).1)==v3) (((∃ td,Tryz.prog.underlying 241=some td/\∀ i,td≠.interface i)/\(Value.iface 241 (.agg #[.string (Str ((aj 32 t).2.1))])).oneCell'=true)/\∀ _:Unit,(vO ((aj 32 t).2.1)).sm/\((((aj 32 t).2.1).length<=4611686018427387904))/\Q (.tup [.lit (.iface 241 (.agg #[.string (Str ((aj 32 t).2.1))])),bV ((((aj 32 t).2.1)==[42])||cN ((aj 32 t).2.1))]) (ja t)) (((((aj 32 t).1)==v2)=true->∃ c:Bool,(c=decide ((aj 32 t).1=[108,101,116]\/(aj 32 t).1=[98,97,114]))/\E (sV t)/\E (.lit .nilIface)/\E (bV false)/\E (sV t)/\E v1/\E v1/\E v4/\E v5/\E (bV ((aj 32 t).2.2))/\E v4/\E v5/\E (bV ((aj 32 t).2.2))/\E v4/\E (bV (((aj 32 t).1)==v3))/\E (bV (((aj 32 t).1)==v3))/\E (bV (((aj 32 t).1)==v2))/\Q (bV (((aj 32 t).1)==v2)) (bV c)/\True)/\((((aj 32 t).1)==v2)=false->∃ c:Bool,(c=decide ((aj 32 t).1=[108,101,116]\/(aj 32 t).1=[98,97,114]))/\E (sV t)/\E (.lit .nilIface)/\E (bV false)/\E (sV t)/\E v1/\E v1/\E v4/\E v5/\E (bV ((aj 32 t).2.2))/\E v4/\E v5/\E (bV ((aj 32 t).2.2))/\E v4/\E (bV (((aj 32 t).1)==v3))/\E (bV (((aj 32 t).1)==v3))/\E (bV (((aj 32 t).1)==v2))/\Q (bV (((aj 32 t).1)==([98,97,114]:BL))) (bV c)/\True)/\(∀ c:Bool,(c=decide ((aj 32 t).1=[108,101,116]\/(aj 32 t).1=[98,97,114]))->Br c (((∃ td,Tryz.prog.underlying 243=some td/\∀ i,td≠.interface i)/\(Value.iface 243 (.agg #[.bool (((aj 32 t).1)==v2),.string (Str ((aj 32 t).2.1))])).oneCell'=true)/\∀ _:Unit,(nO ((aj 32 t).2.1)).sm/\((((aj 32 t).2.1).length<=4611686018427387904))/\Q (.tup [.lit (.iface 243 (.agg #[.bool (((aj 32 t).1)==v2),.string (Str ((aj 32 t).2.1))])),bV (fo ((aj 32 t).2.1))]) (ja t)) (Br (((aj 32 t).1)==([119,97,105,116]:BL)) ((Ap ((aj 32 t).2.1)).sm/\((((aj 32 t).2.1).length<=1000000))/\((∃ td,Tryz.prog.underlying 245=some td/\∀ i,td≠.interface i)/\(Value.iface 245 (.agg #[.int .i64 (fU ((aj 32 t).2.1) 20)])).oneCell'=true)/\∀ _:Unit,Q (.tup [.lit (.iface 245 (.agg #[.int .i64 (fU ((aj 32 t).2.1) 20)])),bV true]) (ja t)) (Q (.tup [.lit .nilIface,bV false]) (ja t))))))) (sV ((aj 32 t).2.1)) (sV ((aj 32 t).1)) (.tup [sV ((aj 32 t).1),sV ((aj 32 t).2.1),bV ((aj 32 t).2.2)]) ([99,97,108,108,101,114]:BL) ([108,101,116]:BL)) ?_
 refine bJ (bI (fun l4=>?_) fun l4=>?_);refine⟨⟨⟨_,Tryz.underlying241,Zds⟩,rfl⟩,fun _=>bJ ?_⟩;unfold Q ja;rw[show iX (aj 32 t).1 (aj 32 t).2.1=.caller (aj 32 t).2.1 from if_pos l4,show kZ (aj 32 t).1 (aj 32 t).2.1=_ from if_pos l4];rfl
 · refine⟨fun l6=>?_,fun l6=>?_,fun c hc=>?_⟩
   · try simp only[nb]at l6
     exact⟨((aj 32 t).1)==([108,101,116]:BL),Zdo,rfl,rfl,rfl,rfl,rfl,rfl,rfl,rfl,rfl,rfl,rfl,rfl,rfl,rfl,rfl,rfl,rfl,trivial⟩
   · try simp only[nb]at l6
     exact⟨((aj 32 t).1)==([98,97,114]:BL),Zdo,rfl,rfl,rfl,rfl,rfl,rfl,rfl,rfl,rfl,rfl,rfl,rfl,rfl,rfl,rfl,rfl,rfl,trivial⟩
   refine bI (fun n9=>?_) fun n9=>?_;refine⟨⟨⟨_,Tryz.underlying243,Zds⟩,rfl⟩,fun _=>bJ ?_⟩;unfold Q ja;have h2:(aj 32 t).1=[108,101,116]\/(aj 32 t).1=[98,97,114]:=by grind
   rw[show iX (aj 32 t).1 (aj 32 t).2.1=.T5 ((aj 32 t).1==[108,101,116]) (aj 32 t).2.1 from by rw[iX,if_neg l4,if_pos h2],show kZ (aj 32 t).1 (aj 32 t).2.1=aS (aj 32 t).2.1 from by rw[kZ,if_neg l4,if_pos h2],tL];rfl;refine bI (fun B6=>?_) fun B6=>?_;refine⟨rfl,Zac,⟨⟨_,Tryz.underlying245,Zds⟩,rfl⟩,fun _=>?_⟩;unfold Q ja;have h2: ¬ ((aj 32 t).1=[108,101,116]\/(aj 32 t).1=[98,97,114]):=by grind
   rw[show iX (aj 32 t).1 (aj 32 t).2.1=.wait (fU (aj 32 t).2.1 20).toNat from by rw[iX,if_neg l4,if_neg h2,if_pos B6],show kZ (aj 32 t).1 (aj 32 t).2.1=true from by rw[kZ,if_neg l4,if_neg h2,if_pos B6]];show V.tup [.lit (.iface 245 (.agg #[.int .i64 (fU (aj 32 t).2.1 20)])),_]=V.tup [.lit (.iface 245 (.agg #[.int .i64 (((fU (aj 32 t).2.1 20).toNat:Nat):Int)])),_];rw[Int.toNat_of_nonneg (Fk Zac)];unfold Q ja;have h2: ¬ ((aj 32 t).1=[108,101,116]\/(aj 32 t).1=[98,97,114]):=by grind
   rw[show iX (aj 32 t).1 (aj 32 t).2.1=.none from by rw[iX,if_neg l4,if_neg h2,if_neg B6],show kZ (aj 32 t).1 (aj 32 t).2.1=false from by rw[kZ,if_neg l4,if_neg h2,if_neg B6]];rfl)
theorem LV{w r:BL}(h:kZ w r=true):iX w r≠.none:=by
 unfold kZ at h;unfold iX;split at h;rename_i h1;rw[if_pos h1];intro c;cases c;rename_i h1;rw[if_neg h1];split at h;rename_i h2;rw[if_pos h2];intro c;cases c;rename_i h2;rw[if_neg h2];split at h;rename_i h3;rw[if_pos h3];intro c;cases c;cases h
theorem JO(gs:List m8)(b:Bool)(g:Nat)(l:Ln)(hg:gs.length<=1000)(hn:∀ y,y∈gs->y.na.length<=1000/\y.ru.length<=6)(hl:l≠.none):
 PF Tryz.prog 194 [.ptr (.key 1000) [] g 0,.lit (GQ l)] [(1000,(g,.agg [.ow 3 (gs.map ba),bV b]))] (fun r h=>r=.tup []/\h=[(1000,(g,.agg [.ow 3 ((jS gs b l).1.map ba),bV (jS gs b l).2]))]):=by
 cases l with
 | none=>exact absurd rfl hl
 | caller n=>exact KF gs b g n hg hn
 | T5 q p=>exact Ku gs b g q p hg hn
 | wait v=>exact Jm gs b g v hg hn
def Fe(gs:List m8)(b:Bool)(g:Nat)(l:Ln):aG:={ f:=194,args:=[kp 1000 g,.lit (GQ l)],H:=[(1000,(g,iy gs b))],pre:=(gs.length<=1000)/\(∀ y,y∈gs->y.na.length<=1000/\y.ru.length<=6)/\(l≠.none),res:=.tup [],H':=[(1000,(g,.agg [.ow 3 ((jS gs b l).1.map ba),bV (jS gs b l).2]))],ok:=fun h=>JO gs b g l h.1 h.2.1 h.2.2 }
theorem KG{n:Nat}{gs:List m8}{b:Bool}(h:Qv n gs)(l:BL):Qv (n+1) (qB (gs,b) l).1:=by
 unfold qB;split;have hl:∀ z,gs.getLast? =some z->z.na.length<=n/\z.ru.length<=6:=fun z hz=>h.each z (List.mem_of_getLast? hz);cases iX (aj 32 l).1 (aj 32 l).2.1 with
 | none=>exact h.mono Zac
 | caller q=>
   simp only[jS,pT];split;refine⟨by have:=h.len;simp;omega,fun y hy=>?_⟩;rcases Zax.1 hy with hy | hy;have:=h.each y hy;exact⟨Zac,this.2⟩;rw[Zav.1 hy];simp;exact h.set fun z hz=>⟨by have:=hl z hz;simp;omega,(hl z hz).2⟩
 | T5 q p=>
   simp only[jS,mB];split;exact h.mono Zac;split;rename_i h6;refine h.set fun z hz=>⟨Zb5,?_⟩;unfold lp at h6;rw[hz]at h6;simp only at h6;simp only[Zap,Zar,Zau];omega;exact h.mono Zac
 | wait v=>
   simp only[jS,pV];split;exact h.mono Zac;exact h.set fun z hz=>⟨Zb5,(hl z hz).2⟩
 exact h.mono Zac
abbrev gz(t:BL)(i:Nat)(gs:List m8)(b:Bool):Prop:=i<=(ao 10 t).length/\i<=40/\Qv i gs/\((ao 10 t).take i).foldl qB ([],false)=(gs,b)
def vQ(t:BL):aG:=.mk 169 [sV t] [] (t.length<=1000000) (.ow 3 ((ct t).map ba)) [] (by
 intro ht
 refine aA Tryz.func169
  (.q 1<|.al OO (fun g3=>.q 1<|.c (vo t 10) []<|.q 2<|.h (.s7 (.key 3) [0] 3)<|.loop (Nat×(List m8)×Bool) (fun (i,gs,b)=>⟨[(0,sV t),(3,kp 3 g3),(9,.sl true ((ao 10 t).map sV)),(10,iN ((ao 10 t).length)),(11,iN i)],[(3,(g3,iy gs b))]⟩) (fun (i,gs,b)=>gz t i gs b) (fun (i,gs,b)=>(ao 10 t).length-i) (fun (i,gs,b)=>.q 1<|.br (.r 5 [sV ((ao 10 t).getD i [])]<|.q 2<|.br (.q 1<|.mv<|.q 1<|.nil) (.q 1<|.c (Ay ((ao 10 t).getD i [])) []<|.q 5<|.q 1<|.br (.q 1<|.c (Fe gs b g3 (iX (aj 32 ((ao 10 t).getD i [])).1 (aj 32 ((ao 10 t).getD i [])).2.1)) [(1000,3)]<|.q 2<|.nil) (.q 2<|.nil))) (.q 1<|.mv<|.q 1<|.nil))))
  ((fun v1:List V=>(∀ g3:Nat,(vo t 10).sm/\((t.length<=1000000))/\(∃ x:Nat×(List m8)×Bool,match x with | (j7,TU,H2)=>(gz t j7 TU H2)/\E (sV t)/\E (kp 3 g3)/\E (.sl true v1)/\Q (iN (v1.length)) (iN ((ao 10 t).length))/\Q (iN 0) (iN j7)/\Qr g3 (.agg [.ow 3 ([].map ba),bV false]) g3 (iy TU H2)/\True)/\∀ x:Nat×(List m8)×Bool,match x with | (i,gs,b)=>(gz t i gs b)->Br (s4 (i:Int) (((ao 10 t).length:Nat):Int)) (Ex (i:Int) v1 (sV ((ao 10 t).getD i []))/\True/\Br (r4 (i:Int) 40) (Z g3 0/\Q (.ow 3 (gs.map ba)) (.ow 3 ((ct t).map ba))) ((Ay ((ao 10 t).getD i [])).sm/\((((ao 10 t).getD i []).length<=1000000))/\Br (kZ (aj 32 ((ao 10 t).getD i [])).1 (aj 32 ((ao 10 t).getD i [])).2.1) ((Fe gs b g3 (iX (aj 32 ((ao 10 t).getD i [])).1 (aj 32 ((ao 10 t).getD i [])).2.1)).sm/\Er g3 (iy gs b)/\((gs.length<=1000)/\(∀ y,y∈gs->y.na.length<=1000/\y.ru.length<=6)/\((iX (aj 32 ((ao 10 t).getD i [])).1 (aj 32 ((ao 10 t).getD i [])).2.1)≠.none))/\n8 ((i:Int)+1)/\∃ x:Nat×(List m8)×Bool,match x with | (e9,R6,x7)=>(gz t e9 R6 x7)/\((ao 10 t).length-e9<(ao 10 t).length-i)/\E (sV t)/\E (kp 3 g3)/\E (.sl true v1)/\E (iN ((ao 10 t).length))/\Q (iN (i+1)) (iN e9)/\Qr g3 (iy ((jS gs b (iX (aj 32 ((ao 10 t).getD i [])).1 (aj 32 ((ao 10 t).getD i [])).2.1)).1) ((jS gs b (iX (aj 32 ((ao 10 t).getD i [])).1 (aj 32 ((ao 10 t).getD i [])).2.1)).2)) g3 (iy R6 x7)/\True) (n8 ((i:Int)+1)/\∃ x:Nat×(List m8)×Bool,match x with | (e9,R6,x7)=>(gz t e9 R6 x7)/\((ao 10 t).length-e9<(ao 10 t).length-i)/\E (sV t)/\E (kp 3 g3)/\E (.sl true v1)/\E (iN ((ao 10 t).length))/\Q (iN (i+1)) (iN e9)/\Qr g3 (iy gs b) g3 (iy R6 x7)/\True))) (Z g3 0/\Q (.ow 3 (gs.map ba)) (.ow 3 ((ct t).map ba))))) ((ao 10 t).map sV)) ?_
 intro g3;refine bJ ⟨⟨(0,[],false),?_,rfl,rfl,rfl,Zah,aI⟩,?_⟩;unfold gz;exact⟨Zac,Zac,⟨Zad,Zad⟩,rfl⟩;rintro⟨i,gs,b⟩ ⟨h1,h2,h3,h4⟩;refine bI (fun l4=>?_) fun l4=>?_;refine⟨Zcg,az (bI (fun l6=>?_) fun l6=>?_)⟩;refine⟨rfl,?_⟩;rw[show ct t=gs from by rw[<- BO,Ef h1 h2 (fun _=>by omega),h4]];refine⟨rfl,by have:=kF 10 t i;omega,bI (fun n9=>?_) fun n9=>?_⟩;refine⟨rfl,rfl,⟨by have:=h3.len;omega,fun y hy=>by have:=h3.each y hy;omega,LV n9⟩,az ⟨(i+1,(jS gs b (iX (aj 32 ((ao 10 t).getD i [])).1 (aj 32 ((ao 10 t).getD i [])).2.1)).1,(jS gs b (iX (aj 32 ((ao 10 t).getD i [])).1 (aj 32 ((ao 10 t).getD i [])).2.1)).2),?_,?_,aI⟩⟩;unfold gz;have I2:qB (gs,b) ((ao 10 t).getD i [])=jS gs b (iX (aj 32 ((ao 10 t).getD i [])).1 (aj 32 ((ao 10 t).getD i [])).2.1):=if_pos n9;refine bJ ⟨?_,?_⟩;rw[<- I2];exact KG h3 _;rw[foldl_succ (d:=[]) Zac,h4,I2];exact Zak;refine az ⟨(i+1,gs,b),?_,?_,aI⟩;unfold gz;have I2:qB (gs,b) ((ao 10 t).getD i [])=(gs,b):=if_neg (by rw[n9];decide);refine bJ ⟨h3.mono Zac,?_⟩;rw[foldl_succ (d:=[]) Zac,h4,I2];exact Zak;refine⟨rfl,?_⟩;rw[show ct t=gs from by rw[<- BO,Ef h1 h2 (fun h=>by omega),h4]])
theorem KM{gs:List m8}{a:BL}{i:Nat}(h:i<gs.length):(gs.map fun y=>y.na.contains a).getD i false=(gs.getD i ⟨[],[],0⟩).na.contains a:=by
 rw[Zam,Zam,List.getElem?_map,Zat h];rfl
def Cz(y:m8)(a:BL)(u:Nat):aG:=.mk 191 [cL y,kp 1000 u] [(1000,(u,sV a))] (y.na.length<=1000000) (bV (y.na.contains a)) [(1000,(u,sV a))] (by
 intro hy
 refine aA Tryz.func191
  (.bx (fun g2=>.q 1<|.r 3 [.c9,.c9]<|.c (xH y.na a) []<|.q 1<|.nil))
  (∀ g2:Nat,Z g2 0/\Z u 0/\(xH y.na a).sm/\((y.na.length<=1000000))/\Q (bV (y.na.contains a)) (bV (y.na.contains a))/\Er u (sV a)) ?_
 intro g2;refine dM ⟨?_,rfl⟩;rfl)
def Ga(gs:List m8)(a:BL)(u:Nat):aG:=.mk 211 [cb gs,.lit (.func (.func 191) #[] #[.pointer (some ⟨u,0,none⟩)])] [(1000,(u,sV a))] ((gs.length<=1000000)/\(∀ i,(gs.getD i ⟨[],[],0⟩).na.length<=1000000)) (iV (gN (gs.map fun y=>y.na.contains a) true)) [(1000,(u,sV a))] (by
 rintro⟨hg,hn⟩
 refine aA Tryz.func211
  (.q 1<|.q 3<|.loop Nat (fun i=>⟨[(0,cb gs),(1,.lit (.func (.func 191) #[] #[.pointer (some ⟨u,0,none⟩)])),(6,cb gs),(7,iN gs.length),(8,iN i)],[(1000,(u,sV a))]⟩) (fun i=>i<=gs.length/\∀ j,j<i->((gs.getD j ⟨[],[],0⟩).na.contains a)=false) (fun i=>gs.length-i) (fun i=>.q 1<|.br (.q 2<|.r 5 [cL (gs.getD i (⟨[],[],0⟩:m8))]<|.c (Cz (gs.getD i (⟨[],[],0⟩:m8)) a u) [(1000,1000)]<|.br (.q 2<|.nil) (.q 2<|.nil)) (.q 1<|.nil)))
  ((fun (v3:m8) (v2:V) (v1:Nat->Prop)=>((∃ j7:Nat,(v1 j7)/\E (cb gs)/\E v2/\E (cb gs)/\Q (iN ((gs.map dk).length)) (iN gs.length)/\Q (iN 0) (iN j7)/\Er u (sV a)/\True)/\∀ i:Nat,(v1 i)->Br (s4 (i:Int) (gs.length:Int)) (Ex (i:Int) (gs.map dk) (cL (gs.getD i v3))/\True/\(Cz (gs.getD i v3) a u).sm/\Er u (sV a)/\(((gs.getD i v3).na.length<=1000000))/\Br ((gs.getD i v3).na.contains a) (Q (iN i) (iV (gN (gs.map fun y=>y.na.contains a) true))/\Er u (sV a)) (n8 ((i:Int)+1)/\∃ e9:Nat,(v1 e9)/\(gs.length-e9<gs.length-i)/\E (cb gs)/\E v2/\E (cb gs)/\E (iN gs.length)/\Q (iN (i+1)) (iN e9)/\Er u (sV a)/\True)) (Q (iV (-1)) (iV (gN (gs.map fun y=>y.na.contains a) true))/\Er u (sV a)))) (⟨[],[],0⟩:m8) (.lit (.func (.func 191) #[] #[.pointer (some ⟨u,0,none⟩)])) (fun j7:Nat=>j7<=gs.length/\∀ j,j<j7->((gs.getD j ⟨[],[],0⟩).na.contains a)=false)) ?_
 refine⟨⟨0,?_,rfl,rfl,rfl,Zah,aI⟩,?_⟩;simp;rintro i ⟨h1,h2⟩;have hni:=hn i;refine bI (fun l4=>?_) fun l4=>?_;refine⟨Zc4,bN ⟨hn i,bI (fun l6=>?_) fun l6=>?_⟩⟩;refine⟨?_,rfl⟩;rw[uX (i:=i) (by rw[Zay];omega) (by rw[KM Zac];exact l6) (fun j hj=>by rw[KM Zac];rw[h2 j hj];decide)];refine az ⟨i+1,?_,?_,aI⟩;exact⟨Zac,bm h2 l6⟩;exact Zak;refine⟨?_,rfl⟩;rw[sT (fun j hj=>by rw[Zay]at hj;rw[KM hj];rw[h2 j Zac];decide)])
def FW(gs:List m8)(a:BL)(u:Nat):aG:=.mk 192 [cb gs,.lit (.func (.func 191) #[] #[.pointer (some ⟨u,0,none⟩)])] [(1000,(u,sV a))] ((gs.length<=1000000)/\(∀ i,(gs.getD i ⟨[],[],0⟩).na.length<=1000000)) (bV (gs.any fun y=>y.na.contains a)) [(1000,(u,sV a))] (by
 rintro⟨hg,hn⟩
 refine aA Tryz.func192
  (.q 1<|.q 2<|.c (Ga gs a u) [(1000,1000)]<|.q 2<|.nil)
  ((Ga gs a u).sm/\Er u (sV a)/\((gs.length<=1000000)/\(∀ i,(gs.getD i ⟨[],[],0⟩).na.length<=1000000))/\Q (bV (G3 (gN (gs.map fun y=>y.na.contains a) true) 0)) (bV (gs.any fun y=>y.na.contains a))/\Er u (sV a)) ?_
 refine bN ⟨?_,rfl⟩;unfold Q;refine Zbm bV ?_;show decide (gN (gs.map fun y=>y.na.contains a) true>=0)=_;rw[show decide (gN (gs.map fun y=>y.na.contains a) true>=0)=(gs.map fun y=>y.na.contains a).contains true from uq _ _];rw[Za6];simp)
def CG(a:BL):fy:=.mk Nat 190 [sV a] [] True (fun x=>True) (fun x=>.lit (.func (.func 191) #[] #[.pointer (some ⟨x,0,none⟩)])) (fun x=>[(1000,(x,sV a))]) (by
 intro _
 refine sh (N:=4) (rs:=[.tmp 2]) (X:=Nat) (post:=fun x=>True) (E:=fun x=>.lit (.func (.func 191) #[] #[.pointer (some ⟨x,0,none⟩)])) (H':=fun x=>[(1000,(x,sV a))]) Tryz.func190 Zae rfl rfl rfl Zae [(1000,(0,.c9))] Zct
  (.bx (fun g1=>.q 1<|.cu Vq (fun _=>.q 1<|.h (.rk 1 1000)<|.nil)))
  (∀ g1:Nat,((Value.func (.func 191) #[] #[.pointer (some ⟨g1,0,none⟩)]).oneCell'=true)/\∀ _:Unit,∃ x:Nat,(True)/\Q (.lit (.func (.func 191) #[] #[.pointer (some ⟨g1,0,none⟩)])) (.lit (.func (.func 191) #[] #[.pointer (some ⟨x,0,none⟩)]))/\Qr g1 (sV a) x (sV a))
  Zae ?_
 intro g1;refine⟨rfl,fun _=>⟨g1,?_,?_,?_⟩⟩
 · try dsimp only
   all_goals trivial
 exact Zaa;first | rfl | exact⟨rfl,rfl⟩ | simp_all)
abbrev rL(gs:List m8)(n:BL):V:=gG (.sl false ([n].map sV)) ((eP gs n).ru) ((eP gs n).wa)
def oq(gs:List m8)(n:BL):aG:=.mk 168 [cb gs,sV n] [] ((gs.length<=1000)/\(∀ i,(gs.getD i ⟨[],[],0⟩).ru.length<=100)/\(∀ i,(gs.getD i ⟨[],[],0⟩).na.length<=1000000)) (rL gs n) [] (by
 rintro⟨hg,hr,ha⟩
 refine aA Tryz.func168
  (.al iU (fun g4=>.q 1<|.q 2<|.q 3<|.cx (CG n) [(1000,14)] (fun (m5:Nat)=>.c (FW gs n m5) [(1000,14)]<|.q 1<|.join BL (fun d=>⟨[(0,cb gs),(1,sV n),(4,kp 4 g4),(5,.lit (.func (.func 190) #[] #[])),(10,sV n),(11,cb gs),(12,.lit (.func (.func 190) #[] #[])),(13,sV n),(14,.lit (.func (.func 191) #[] #[.pointer (some ⟨m5,0,none⟩)])),(15,bV (gs.any fun y=>y.na.contains n)),(16,bV (!(gs.any fun y=>y.na.contains n))),(6,sV d)],[(4,(g4,.agg [.sl true [],.sl true [],iN 0])),(14,(m5,sV n))]⟩) (fun d=>d=nU gs n) (.q 1<|.nil) (.nil) (fun d=>.q 1<|.bs<|.bd iU<|.al iU (fun g7=>.st none<|.q 3<|.h (.s7 (.key 7) [1] 2)<|.loop (Nat×(List u0)×Nat×Nat×Nat×Nat) (fun (i,e,q,u,f,k)=>⟨[(4,kp 4 g4),(5,.lit (.func (.func 190) #[] #[])),(6,sV d),(7,kp 7 g7),(20,cb gs),(21,iN gs.length),(22,iN i)],[(4,(g4,.agg [.sl true [],.sl true [],iN 0])),(7,(g7,jd (.sl true [sV n]) e u f k q))]⟩) (fun (i,e,q,u,f,k)=>i<=gs.length/\((gs.take i).foldl (de d) (([],0),false)).1=(e,q)/\e.length<=100*i) (fun (i,e,q,u,f,k)=>gs.length-i) (fun (i,e,q,u,f,k)=>.q 1<|.br (.r 2 [cL (gs.getD i (⟨[],[],0⟩:m8))]<|.al iU (fun g9=>.st none<|.dx 4 [0,1,3,2] [(3,l9 [9] [29]),(2,⟨true,[],some [28],[28],[28]⟩)] []<|.l7 2<|.m7<|.cx (CG d) [(1000,28)] (fun (Vh:Nat)=>.c (Cz (gs.getD i (⟨[],[],0⟩:m8)) d Vh) [(1000,28)]<|.br (.r 4 [.c9,.c9]<|.ap (fun SK SD SM=>.h (.o9 35 (.own 2 ((e++((gs.getD i (⟨[],[],0⟩:m8)).ru)).map aE) SK SD SM))<|.q 1<|.st none<|.r 4 [.c9,.c9]<|.mm<|.q 1<|.st none<|.h (.o8 7 (jd (.sl true [sV n]) (e++((gs.getD i (⟨[],[],0⟩:m8)).ru)) SK SD SM (max q (gs.getD i ⟨[],[],0⟩).wa)))<|.q 2<|.nil)) (.q 2<|.nil)))) (.mv<|.h (.fz 44)<|.h (.o9 44 (gG (.sl true [sV n]) e q))<|.st none<|.nil)))))))
  ((fun (v5 v3 v2:V) (v4:Bool) (v1:m8)=>(∀ g4:Nat,(fun v6:V=>(CG n).sm/\(True)/\∀ m5:Nat,(True)->(fun v7:V=>(FW gs n m5).sm/\Er m5 (sV n)/\((gs.length<=1000000)/\(∀ i,(gs.getD i ⟨[],[],0⟩).na.length<=1000000))/\(v4=true->∃ d:BL,(d=nU gs n)/\E (cb gs)/\E (sV n)/\E v6/\E v2/\E (sV n)/\E (cb gs)/\E v2/\E (sV n)/\E v7/\E (bV (gs.any fun y=>y.na.contains n))/\E (bV v4)/\Q (sV ([42]:BL)) (sV d)/\Er g4 v3/\Er m5 (sV n)/\True)/\(v4=false->∃ d:BL,(d=nU gs n)/\E (cb gs)/\E (sV n)/\E v6/\E v2/\E (sV n)/\E (cb gs)/\E v2/\E (sV n)/\E v7/\E (bV (gs.any fun y=>y.na.contains n))/\E (bV v4)/\Q (sV n) (sV d)/\Er g4 v3/\Er m5 (sV n)/\True)/\(∀ d:BL,(d=nU gs n)->(fun v8:Nat->((List u0))->Nat->Nat->Nat->Nat->Prop=> ∀ g7:Nat,Z g7 0/\(∃ x:Nat×(List u0)×Nat×Nat×Nat×Nat,match x with | (j7,G',D0,PL,G9,m9)=>(v8 j7 G' D0 PL G9 m9)/\E v6/\E v2/\E (sV d)/\E (kp 7 g7)/\E (cb gs)/\Q (iN ((gs.map dk).length)) (iN gs.length)/\Q (iN 0) (iN j7)/\Er g4 v3/\Qr g7 (.agg [.sl true [sV n],.own 2 ([].map aE) 0 0 0,iN 0]) g7 (jd v5 G' PL G9 m9 D0)/\True)/\∀ x:Nat×(List u0)×Nat×Nat×Nat×Nat,match x with | (i,e,q,u,f,k)=>(v8 i e q u f k)->(fun v9:List V=>Br (s4 (i:Int) (gs.length:Int)) (Ex (i:Int) (gs.map dk) (cL (gs.getD i v1))/\True/\∀ g9:Nat,Z g9 0/\Z g9 0/\(CG d).sm/\(True)/\∀ Vh:Nat,(True)->(Cz (gs.getD i v1) d Vh).sm/\Er Vh (sV d)/\(((gs.getD i v1).na.length<=1000000))/\Br ((gs.getD i v1).na.contains d) (Z g7 1/\Z g9 1/\((2,2,u,f,k,(e.map aE).length)=(2,2,u,f,k,(e.map aE).length))/\(True)/\(V.aK v9=false)/\(aX 2 v9)/\(((e.map aE).length+v9.length)*24<=140737488355328)/\∀ SK SD SM:Nat,((.own 2 ((e.map aE)++v9) SK SD SM:V)=.own 2 ((e++((gs.getD i v1).ru)).map aE) SK SD SM)/\Z g7 1/\Z g7 2/\Z g9 2/\(IntKind.i64=IntKind.i64)/\Z g7 2/\((.agg [.sl true [sV n],.own 2 ((e++((gs.getD i v1).ru)).map aE) SK SD SM,iV (max (q:Int) (((gs.getD i v1).wa:Nat):Int))]:V)=jd v5 (e++((gs.getD i v1).ru)) SK SD SM (max q (gs.getD i ⟨[],[],0⟩).wa))/\n8 ((i:Int)+1)/\∃ x:Nat×(List u0)×Nat×Nat×Nat×Nat,match x with | (e9,B3,s8,J2,x5,k₂)=>(v8 e9 B3 s8 J2 x5 k₂)/\(gs.length-e9<gs.length-i)/\E v6/\E v2/\E (sV d)/\E (kp 7 g7)/\E (cb gs)/\E (iN gs.length)/\Q (iN (i+1)) (iN e9)/\Er g4 v3/\Qr g7 (jd v5 (e++((gs.getD i v1).ru)) SK SD SM (max q (gs.getD i ⟨[],[],0⟩).wa)) g7 (jd v5 B3 J2 x5 k₂ s8)/\True) (n8 ((i:Int)+1)/\∃ x:Nat×(List u0)×Nat×Nat×Nat×Nat,match x with | (e9,B3,s8,J2,x5,k₂)=>(v8 e9 B3 s8 J2 x5 k₂)/\(gs.length-e9<gs.length-i)/\E v6/\E v2/\E (sV d)/\E (kp 7 g7)/\E (cb gs)/\E (iN gs.length)/\Q (iN (i+1)) (iN e9)/\Er g4 v3/\Qr g7 (jd v5 e u f k q) g7 (jd v5 B3 J2 x5 k₂ s8)/\True)) (Z g7 0/\((.agg [.sl true [sV n],.sl false (V.G4 (e.map aE)),iN q]:V)=gG v5 e q)/\Z g4 0/\(g4=g4)/\Q (gG (.sl false [sV n]) e q) (rL gs n))) (((gs.getD i v1).ru).map aE)) (fun (j7:Nat) (G':(List u0)) (D0:Nat) (PL:Nat) (G9:Nat) (m9:Nat)=>j7<=gs.length/\((gs.take j7).foldl (de d) (([],0),false)).1=(G',D0)/\G'.length<=100*j7))) (.lit (.func (.func 191) #[] #[.pointer (some ⟨m5,0,none⟩)]))) (kp 4 g4))) (.sl true [sV n]) (.agg [.sl true [],.sl true [],iN 0]) (.lit (.func (.func 190) #[] #[])) (!(gs.any fun y=>y.na.contains n)) (⟨[],[],0⟩:m8)) ?_
 intro g4;refine bJ fun m5 M7=>⟨rfl,rfl,az (ha),⟨fun l4=>?_,fun l4=>?_,fun d hd=>?_⟩⟩;try simp only[nb]at l4
 exact⟨([42]:BL),by unfold nU;rw[l4];rfl,rfl,rfl,rfl,rfl,rfl,rfl,rfl,rfl,rfl,rfl,rfl,rfl,rfl,rfl,trivial⟩;try simp only[nb]at l4
 exact⟨n,by unfold nU;rw[l4];rfl,rfl,rfl,rfl,rfl,rfl,rfl,rfl,rfl,rfl,rfl,rfl,rfl,rfl,rfl,trivial⟩;intro g7;refine⟨rfl,⟨⟨(0,[],0,0,0,0),?_,fQ ⟨Zah,aI⟩⟩,?_⟩⟩;simp;rintro⟨i,e,q,u,f,k⟩ ⟨h1,h2,h3⟩;have hai:=ha i;refine bI (fun l6=>?_) fun l6=>?_;refine⟨Zc4,az fun g9=>dM fun Vh hx9_2=>⟨rfl,rfl,ha i,bI (fun n9=>?_) fun n9=>?_⟩⟩;refine dM ⟨Zdj,Zdk,by(try simp only[Zay,Zar,Zau]);have:=hr i;omega,fun SK SD SM=>⟨Zbm (V.own 2 · SK SD SM) ((Zbb ..).symm),fQ ⟨Zbm (fun z:Int=>(.agg [.sl true [sV n],.own 2 ((e++((gs.getD i (⟨[],[],0⟩:m8)).ru)).map aE) SK SD SM,iV z]:V)) Zac,az ⟨(i+1,e++((gs.getD i (⟨[],[],0⟩:m8)).ru),max q (gs.getD i ⟨[],[],0⟩).wa,SK,SD,SM),?_,?_,aI⟩⟩⟩⟩;have:=hr i;refine⟨Zac,?_,by simp only[Zap];omega⟩;rw[foldl_succ (d:=⟨[],[],0⟩) Zac,DM,if_pos n9,h2];exact Zak;refine az ⟨(i+1,e,q,u,f,k),?_,?_,aI⟩;refine⟨Zac,?_,aI⟩;rw[foldl_succ (d:=⟨[],[],0⟩) Zac,DM,if_neg (by rw[n9];decide),h2];exact Zak;refine⟨rfl,by simp only[aU (f:=aE) (fun _=>rfl)],rfl,⟨rfl,?_⟩⟩;unfold Q rL;rw[Zaz Zac]at h2;have hfa:=Gu gs n;rw[hfa.1,hfa.2,<- hd,h2];rfl)
abbrev lQ(w:List Pg)(d n:BL):V:=gG (.sl false ([n].map sV)) ((bR (af w (aw d) 2).1 (af w (aw d) 2).2 n).ru) ((bR (af w (aw d) 2).1 (af w (aw d) 2).2 n).wa)
def BI(w:List Pg)(d n:BL):aG:=.mk 127 [.mp (w.map O5),sV d,sV n] [] ((d.length<=1000)/\((af w (aw d) 2).2.length<=1000000)) (lQ w d n) [] (by
 rintro⟨hd,ht⟩
 refine aA Tryz.func127
  (.al iU (fun g6=>.q 2<|.c (oz d) []<|.c (xV w (aw d)) []<|.q 5<|.q 1<|.q 2<|.br (.q 1<|.c (vQ ((af w (aw d) 2).2)) []<|.h (.fz 20)<|.h (.o9 20 (cb (ct ((af w (aw d) 2).2))))<|.q 1<|.c (oq (ct ((af w (aw d) 2).2)) n) []<|.st none<|.nil) (.q 2<|.br (.q 1<|.bs<|.bd uW<|.bs<|.bd iU<|.st none<|.nil) (.q 1<|.c (oq ([]:List m8) n) []<|.st none<|.nil))))
  ((fun (v2:List m8) (v1:Int×BL)=>(∀ g6:Nat,(oz d).sm/\((d.length<=4000000000000000000))/\(xV w (aw d)).sm/\(True)/\Br (r4 (v1.1) 1) ((vQ (v1.2)).sm/\(((v1.2).length<=1000000))/\((.sl false (V.G4 ((ct (v1.2)).map ba)):V)=cb (ct (v1.2)))/\(oq (ct (v1.2)) n).sm/\(((ct (v1.2)).length<=1000)/\(∀ i,((ct (v1.2)).getD i ⟨[],[],0⟩).ru.length<=100)/\(∀ i,((ct (v1.2)).getD i ⟨[],[],0⟩).na.length<=1000000))/\Z g6 0/\(g6=g6)/\Q (gG (.sl false ([n].map sV)) ((eP (ct (v1.2)) n).ru) ((eP (ct (v1.2)) n).wa)) (lQ w d n)) (Br (r4 (v1.1) 3) (Z g6 0/\(g6=g6)/\Q (.agg [.sl false [sV n],.sl false [.agg [bV false,sV ([47]:BL)]],iN 0]) (lQ w d n)) ((oq v2 n).sm/\((v2.length<=1000)/\(∀ i,(v2.getD i ⟨[],[],0⟩).ru.length<=100)/\(∀ i,(v2.getD i ⟨[],[],0⟩).na.length<=1000000))/\Z g6 0/\(g6=g6)/\Q (gG (.sl false ([n].map sV)) ((eP v2 n).ru) ((eP v2 n).wa)) (lQ w d n))))) ([]:List m8) (af w (aw d) 2)) ?_
 intro g6;refine dM (bI (fun l4=>?_) fun l4=>?_);refine⟨rfl,ht,Zbm (V.sl false) (yl _),rfl,⟨by have:=(ml (af w (aw d) 2).2).len;omega,fun i=>((ml (af w (aw d) 2).2).ru i).1,fun i=>by have:=((ml (af w (aw d) 2).2).ru i).2;omega⟩,rfl,⟨rfl,?_⟩⟩;unfold Q lQ;rw[show bR (af w (aw d) 2).1 (af w (aw d) 2).2 n=eP (ct (af w (aw d) 2).2) n from by rw[bR,if_pos l4]];refine bI (fun l6=>?_) fun l6=>?_;refine⟨rfl,⟨rfl,?_⟩⟩;unfold Q lQ;rw[show bR (af w (aw d) 2).1 (af w (aw d) 2).2 n=_ from by rw[bR,if_neg l4,if_pos l6]];rfl;refine⟨rfl,⟨Zad,Zad,Zad⟩,rfl,⟨rfl,?_⟩⟩;unfold Q lQ;rw[show bR (af w (aw d) 2).1 (af w (aw d) 2).2 n=_ from by rw[bR,if_neg l4,if_neg l6]])
def eY(t:BL)(x:List BL×Bool×Nat)(i:Nat):List BL×Bool×Nat:=
 if 0<x.2.2/\t.getD i 0=62 then (x.1++[(t.take i).drop (x.2.2-1)],x.2.1,0)
 else if 0<x.2.2 then x
 else if x.2.1=true then (x.1,!(t.getD i 0==41),0)
 else if t.getD i 0=40 then (x.1,true,0)
 else if t.getD i 0=60 then (x.1,false,i+2) else x
def da(t:BL):Nat->List BL×Bool×Nat
 | 0=>([],false,0)
 | i+1=>eY t (da t i) i
def aL(t:BL):List BL:=if t.length<=300 then (da t t.length).1 else []
structure MkB (t:BL) (i:Nat) (x:List BL×Bool×Nat):Prop where
 len:x.1.length<=i
 each:∀ m,m∈x.1->m.length<=t.length/\∀ c,c∈m->c∈t
 pos:x.2.2<=i+1
 one:0<x.2.2->x.2.1=false
theorem LA{t:BL}{i:Nat}{x:List BL×Bool×Nat}(h:MkB t i x):MkB t (i+1) (eY t x i):=by
 obtain⟨h1,h2,h3,h4⟩:=h;unfold eY;split;rename_i hc;refine⟨Zal,fun m hm=>?_,Zad,fun hc=>by simp at hc⟩;rcases Zax.1 hm with hm | hm;exact h2 m hm;rw[Zav.1 hm];exact⟨Zal,fun c hc=>List.mem_of_mem_take (List.mem_of_mem_drop hc)⟩;split;exact⟨Zac,h2,Zac,h4⟩;split;exact⟨Zal,h2,Zad,fun hc=>by simp at hc⟩;split;exact⟨Zal,h2,Zad,fun hc=>by simp at hc⟩;split;exact⟨Zal,h2,Zad,fun _=>rfl⟩;exact⟨Zac,h2,Zac,h4⟩
theorem xg(t:BL):∀ i,MkB t i (da t i)
 | 0=>⟨by simp[da],by simp[da],by simp[da],by simp[da]⟩
 | i+1=>LA (xg t i)
theorem oV(t:BL):(aL t).length<=300/\∀ m,m∈aL t->m.length<=300/\∀ c,c∈m->c∈t:=by
 unfold aL;split;rename_i h;have hb:=xg t t.length;exact⟨by have:=hb.len;omega,fun m hm=>⟨by have:=(hb.each m hm).1;omega,(hb.each m hm).2⟩⟩;exact⟨Zad,fun m hm=>by simp at hm⟩
def dF(s:BL):UInt8:=s.getD 0 0
def ij(m:BL):Bool:=!(dF m==33)&&!(dF m==64)
def bD(t:BL):List BL:=(aL t).filter ij
def bW(t:BL):Option BL:=((aL t).find? fun m=>dF m==64).map (·.drop 1)
theorem uu(t:BL):(bD t).length<=300/\∀ m,m∈bD t->m.length<=300/\∀ c,c∈m->c∈t:=by
 have h:=oV t;exact⟨by have:=List.length_filter_le ij (aL t);unfold bD;omega,fun m hm=>h.2 m (List.mem_filter.1 hm).1⟩
theorem FV{t r:BL}(h:bW t=some r):r.length<=300/\∀ c,c∈r->c∈t:=by
 unfold bW at h;cases e:(aL t).find? fun m=>dF m==64 with
 | none=>rw[e]at h;cases h
 | some m=>
   rw[e]at h;obtain rfl:=Option.some.inj h;have:=(oV t).2 m (List.mem_of_find?_eq_some e);exact⟨Zal,fun c hc=>this.2 c (List.mem_of_mem_drop hc)⟩
theorem Bn{α:Type}{p:α->Bool}{d:α}:∀ {l:List α} {i:Nat},i<l.length->p (l.getD i d)=true->(∀ j,j<i->p (l.getD j d)=false)->l.find? p=some (l.getD i d)
 | [],_,h,_,_=>by simp at h
 | x::r,0,_,h,_=>by simp at h;simp[h]
 | x::r,i+1,hl,h,hn=>by
   have h0:=hn 0 Zac;simp at h0;rw[List.find?_cons_of_neg (by simpa using h0)];have:=Bn (l:=r) (i:=i) (d:=d) (by simpa using hl) Zbq (fun j hj=>by have:=hn (j+1) Zac;simpa using this);simpa using this
theorem EK{α:Type}{p:α->Bool}{d:α}{l:List α}(h:∀ j,j<l.length->p (l.getD j d)=false):l.find? p=none:=by
 rw[List.find?_eq_none];intro x hx;obtain⟨j,hj,rfl⟩:=Zbg.1 hx;have:=h j hj;rw[Zam,Zat hj]at this;simpa using this
def O'(a:B9)(ref:BL):Option B9:=
 if bu a=false\/60<ref.length then none
 else if 2<=(aj 35 ref).1.length/\(aj 35 ref).1.take 2=[47,47] then fj ((aj 35 ref).1.drop 2)
 else if (aj 35 ref).1=[] then some a
 else if dF (aj 35 ref).1=47 then dE a.l5 [] (aj 35 ref).1
 else if dF (aj 35 ref).1=63 then dE a.l5 a.j8 (aj 35 ref).1
 else dE a.l5 (a.j8.take (a.j8.length-1)) (aj 35 ref).1
def nZ(l:List BL)(s:BL):List BL:=if l.contains s=true then l else l++[s]
def iP(a:B9)(t:BL):B9:=match bW t with
 | some r=>(O' a r).getD a
 | none=>a
def fg(b:B9)(o:List BL)(m:BL):List BL:=if (O' b m).isSome=true then nZ o (cF (oA (O' b m))) else o
def cG(a:B9)(t:BL):List BL:=if bu a=true then (bD t).foldl (fg (iP a t)) [] else []
def aM(a:BL)(k:Int)(t:BL):List BL:=if k=1 then cG (oA (aT a)) t else if k=2 then [t] else []
theorem IY{s:BL}(h:(fj s).isSome=true):bu (oA (fj s))=true:=tf h
theorem Gp{a:B9}{r:BL}(h:(O' a r).isSome=true):bu (oA (O' a r))=true:=by
 unfold O' at h ⊢;split;rename_i hc;rw[if_pos hc]at h;cases h;rename_i hc;rw[if_neg hc]at h;split;rename_i h2;rw[if_pos h2]at h;exact IY h;rename_i h2;rw[if_neg h2]at h;split;cases e:bu a with
 | true=>exact e
 | false=>exact absurd (.inl e) hc
 rename_i h3;rw[if_neg h3]at h;split;rename_i h4;rw[if_pos h4]at h;exact tf h;rename_i h4;rw[if_neg h4]at h;split;rename_i h5;rw[if_pos h5]at h;exact tf h;rename_i h5;rw[if_neg h5]at h;exact tf h
theorem KL(a:B9)(r:BL):dQ (oA (O' a r)):=by
 cases e:(O' a r).isSome with
 | true=>exact su (Gp e)
 | false=>
   rw[Option.isSome_eq_false_iff]at e;rw[Option.isNone_iff_eq_none.1 e];exact vS
theorem Dj{a:B9}{t:BL}(h:bu a=true):bu (iP a t)=true:=by
 unfold iP;split;rename_i r _;cases e:O' a r with
 | none=>exact h
 | some x=>have:=Gp (a:=a) (r:=r) (by rw[e];rfl);rw[e]at this;exact this
 exact h
theorem dQ.sz{a:B9}(h:dQ a):eg a:=⟨by have:=h.1;omega,by have:=h.2.1;omega,by have:=h.2.2.1;omega,fun i=>by have:=h.2.2.2 i;omega⟩
theorem Km{a:B9}:(cF a).length<=60:=by
 unfold cF;split;rename_i h;unfold bu at h;simp only[Zao,Zbk]at h;exact h.2;simp
theorem FR{l:List BL}{s:BL}:(nZ l s).length<=l.length+1:=by
 unfold nZ;split <;> simp
theorem FU{l:List BL}{s x:BL}:x∈nZ l s↔x∈l\/x=s:=by
 unfold nZ;split;rename_i h;have h:s∈l:=Zbq
 exact⟨.inl,fun hx=>hx.elim id fun e=>e ▸ h⟩;simp
theorem Fc{b:B9}:∀ (ls:List BL) {o:List BL},(ls.foldl (fg b) o).length<=o.length+ls.length/\((∀ m,m∈o->m.length<=60)->∀ m,m∈ls.foldl (fg b) o->m.length<=60)
 | [],o=>⟨Zad,fun h=>h⟩
 | l::ls,o=>by
   have ih:=Fc (b:=b) ls (o:=fg b o l);have h1:(fg b o l).length<=o.length+1:=by unfold fg;split;exact FR;omega
   refine⟨by simp only[List.foldl_cons,Zar];omega,fun h=>ih.2 fun m hm=>?_⟩;unfold fg at hm;split at hm;rcases FU.1 hm with hm | rfl;exact h m hm;exact Km;exact h m hm
theorem Mm(a:B9)(t:BL):(cG a t).length<=300/\∀ m,m∈cG a t->m.length<=60:=by
 unfold cG;split;have h:=Fc (b:=iP a t) (bD t) (o:=[]);exact⟨by have:=(uu t).1;simp at h;omega,h.2 Zad⟩;exact⟨Zad,Zad⟩
theorem gD{α:Type}[DecidableEq α]:∀ {l u:List α},l.Nodup->(∀ x,x∈l->x∈u)->l.length<=u.length
 | [],_,_,_=>by simp
 | x::r,u,hn,hs=>by
   have hx:=hs x Zad;have XK:=List.nodup_cons.1 hn;have h:=gD (l:=r) (u:=u.erase x) XK.2 (fun y hy=>(List.mem_erase_of_ne (by rintro rfl;exact XK.1 hy)).2 (hs y (by simp[hy])));rw[List.length_erase_of_mem hx]at h;have:=List.length_pos_of_mem hx;simp only[Zar];omega
section
variable {N:Nat} {A A' B:AS} {P:Program}
theorem Mj{X:Type}{v:V}{k:Nat}{Sl Hl:List Nat}(hk:k∈Hl)(fs:List Nat):U4 (fun (_:X) B=>AS.setAt B (.key k) [] v) fs Sl Hl where
 g:=fun _ B t _=>cP
 h:=fun _ B q hq=>uk (fun c=>hq (by rw[c];exact hk))
 c:=fun _ B B' hB=>⟨fun q=>by rw[cP,cP];exact hB.1 q,fun k=>jh hB.2⟩
 p:=fun _ B q v' _ _=>⟨fun q2=>by rw[cP,AS.bg,AS.bg,cP],fun k=>jh fun _=>rfl⟩
 q:=fun _ B q gv hq=>qz (fun c=>hq (by rw[c];exact hk))
def Wx(k:Nat):Eu P where
 X:=Unit
 pre N o A _ Hl:=match o.op,o.dst with
  | .store T x (.tmp y),none=>match ti P T,A.ev x,lk k A.h with
    | some i,.ptr (.key q) [] g o',some (g0,u)=>match q==k&&!(A.get y).eE&&(A.get y).isVal&&(A.get y).n==u.n&&(A.get y).n==i.sz&&Hl.contains k&&o'==0 with
      | true=>g0=g
      | false=>False
    | _,_,_=>False
  | _,_=>False
 U o A _ B:=match o.op with
   | .store _ _ (.tmp y)=>B.setAt (.key k) [] (A.get y)
   | _=>B
 Wh:=by
  rintro N ⟨dst,op,ty,pos,after,I6⟩ A Sl Hl hp fs;simp only at hp;split at hp;split at hp;split at hp;rename_i e1;simp only[Zao,Zbi,Zbk]at e1;exact Mj e1.1.2 fs;exact hp.elim;exact hp.elim;exact hp.elim
 ok:=by
  rintro N ⟨dst,op,ty,pos,after,I6⟩ A A' Sl Hl-hp hA hR;simp only at hp;split at hp;rename_i T x y;split at hp;rename_i i q g o' g0 u e1 e2 e3;split at hp;rename_i e4;subst hp;simp only[Zao,Zbl,Bool.not_eq_true',Zbi,Zbk]at e4;obtain⟨⟨⟨⟨⟨⟨rfl,hw⟩,hv⟩,hn⟩,hz⟩,_⟩,rfl⟩:=e4;have hy:A'.get y=A.get y:=hA y (by simp[Op.operands]);have hd:A'.drop (.tmp y)=A':=by simp[AS.drop,hy,hw]
  refine vW (r:=.key q) (p:=[]) (g:=g0) (g':=0) (old:=u) rfl rfl e1 (by rw[<- e2];exact cw fun t ht=>hA t (by subst ht;simp[Op.operands])) (by rw[hd];simp only[AS.at,hR,e3];rfl) ?_ ?_ ?_ ?_;show (A'.get y).isVal=true;rw[hy];exact hv;show (A'.get y).n=u.n;rw[hy];exact hn;show (A'.get y).n=i.sz;rw[hy];exact hz;rw[hd];exact⟨(),by show A'.setAt (.key q) [] (A'.get y)=_;rw[hy]⟩;exact hp.elim;exact hp.elim;exact hp.elim
end
theorem NA{l:List BL}{y:BL}{i:Nat}(h:i<l.length)(e:l.getD i []=y):l.contains y=true:=by
 rw[Zam,Zat h]at e;simp only[Option.getD_some]at e;simp only[List.contains_iff_mem];exact e ▸ List.getElem_mem h
theorem Oi{l:List BL}{y:BL}(h:∀ j,j<l.length->l.getD j []≠y):l.contains y=false:=by
 rw[Bool.eq_false_iff];simp only[ne_eq,List.contains_iff_mem];intro hm;obtain⟨j,hj,e⟩:=Zbg.1 hm;have:=h j hj;rw[Zam,Zat hj]at this;exact this e
theorem c8{c k:UInt8}(h:((c.toNat:Nat):Int)=((k.toNat:Nat):Int)):c=k:=UInt8.toNat_inj.1 Zac
theorem Vd{c k:UInt8}(h: ¬ ((c.toNat:Nat):Int)=((k.toNat:Nat):Int)): ¬ c=k:=fun e=>h (by rw[e])
theorem b8{c k:UInt8}:(c==k)=(((c.toNat:Nat):Int)==((k.toNat:Nat):Int)):=by
 rw[Za6,Zbl,Zbl,<- UInt8.toNat_inj];omega
theorem MM{t:BL}{o:List BL}{r:Bool}{q i:Nat}(h:0<q)(e:t.getD i 0=62):eY t (o,r,q) i=(o++[(t.take i).drop (q-1)],r,0):=if_pos ⟨h,e⟩
theorem Nz{t:BL}{o:List BL}{r:Bool}{q i:Nat}(h:0<q)(e: ¬ t.getD i 0=62):eY t (o,r,q) i=(o,r,q):=by
 unfold eY;rw[if_neg (fun c=>e c.2),if_pos h]
theorem MZ{t:BL}{o:List BL}{r:Bool}{i:Nat}(h:r=true):eY t (o,r,0) i=(o,!(t.getD i 0==41),0):=by
 unfold eY;rw[if_neg (fun c=>absurd c.1 Zad),if_neg Zad,if_pos h]
theorem NT{t:BL}{o:List BL}{r:Bool}{i:Nat}(h:r=false)(e:t.getD i 0=40):eY t (o,r,0) i=(o,true,0):=by
 unfold eY;rw[if_neg (fun c=>absurd c.1 Zad),if_neg Zad,if_neg (by rw[h];exact Bool.false_ne_true),if_pos e]
theorem MH{t:BL}{o:List BL}{r:Bool}{i:Nat}(h:r=false)(e: ¬ t.getD i 0=40)(e2:t.getD i 0=60):eY t (o,r,0) i=(o,false,i+2):=by
 unfold eY;rw[if_neg (fun c=>absurd c.1 Zad),if_neg Zad,if_neg (by rw[h];exact Bool.false_ne_true),if_neg e,if_pos e2]
theorem MN{t:BL}{o:List BL}{r:Bool}{i:Nat}(h:r=false)(e: ¬ t.getD i 0=40)(e2: ¬ t.getD i 0=60):eY t (o,r,0) i=(o,r,0):=by
 unfold eY;rw[if_neg (fun c=>absurd c.1 Zad),if_neg Zad,if_neg (by rw[h];exact Bool.false_ne_true),if_neg e,if_neg e2]
theorem head_eq{m:BL}(h:(((dF m).toNat:Nat):Int)=64):(dF m==64)=true:=by
 rw[Zbl,<- UInt8.toNat_inj];show (dF m).toNat=64;omega
theorem head_ne{m:BL}(h: ¬ (((dF m).toNat:Nat):Int)=64):(dF m==64)=false:=by
 rw[beq_eq_false_iff_ne];intro e;rw[e]at h;exact h rfl
theorem zp{m:BL}:ij m=true↔¬ (((dF m).toNat:Nat):Int)=33/\¬ (((dF m).toNat:Nat):Int)=64:=by
 unfold ij;simp only[Zao,Bool.not_eq_true',beq_eq_false_iff_ne,ne_eq,<- UInt8.toNat_inj];show (¬ (dF m).toNat=33/\¬ (dF m).toNat=64)↔_;omega
theorem NU{m:BL}(h: ¬ (((dF m).toNat:Nat):Int)=33/\¬ (((dF m).toNat:Nat):Int)=64):ij m=true:=zp.2 h
theorem Og{m:BL}(h: ¬ (((dF m).toNat:Nat):Int)=33->(((dF m).toNat:Nat):Int)=64):ij m=false:=by
 rw[Bool.eq_false_iff];exact fun c=>(zp.1 c).2 (h (zp.1 c).1)
theorem Kr{m:BL}(h:(((dF m).toNat:Nat):Int)=64):1<=m.length:=by
 cases m with
 | nil=>exact absurd h Zaf
 | cons a r=>simp
theorem DP(t:BL):((bW t).getD []).length<=300:=by
 cases h:bW t with
 | none=>simp
 | some r=>exact(FV h).1
theorem Ij{t:BL}{i:Nat}{o:List BL}{r:Bool}{q:Nat}(h1:i<=t.length)(h2:t.length<=300\/i=0)(h3:da t i=(o,r,q))(hb:(i:Int)<(t.length:Int)->300<(t.length:Int)):aL t=o:=by
 unfold aL;split;obtain rfl:i=t.length:=Zac;rw[h3];obtain rfl:i=0:=Zac;exact Zbm Prod.fst h3
theorem FG{l:List BL}{k m:Nat}(h:∀ i,(l.getD i []).length<=m):∀ i,((l.take k).getD i []).length<=m:=fun i=>by
 have:=h i;rw[Zam]at this ⊢;rw[List.getElem?_take];split;exact this;simp
theorem sS{a:B9}{ref:BL}(h:bu a=true/\(ref.length:Int)<=60):O' a ref=if 2<=(aj 35 ref).1.length/\(aj 35 ref).1.take 2=[47,47] then fj ((aj 35 ref).1.drop 2)
 else if (aj 35 ref).1=[] then some a
 else if dF (aj 35 ref).1=47 then dE a.l5 [] (aj 35 ref).1
 else if dF (aj 35 ref).1=63 then dE a.l5 a.j8 (aj 35 ref).1
 else dE a.l5 (a.j8.take (a.j8.length-1)) (aj 35 ref).1:=by
 unfold O';rw[if_neg (by rintro (c | c);rw[h.1]at c;cases c;omega)]
theorem Pu{s:BL}(h:2<=(s.length:Int)/\(s.take 2).drop (0:Int).toNat=[47,47]):2<=s.length/\s.take 2=[47,47]:=⟨Zac,by simpa using h.2⟩
theorem GA{s:BL}(h:2<=(s.length:Int)->¬ (s.take 2).drop (0:Int).toNat=[47,47]): ¬ (2<=s.length/\s.take 2=[47,47]):=fun c=>h Zac (by simpa using c.2)
theorem CD{s:BL}{k:UInt8}(h:(((s.getD 0 0).toNat:Nat):Int)=((k.toNat:Nat):Int)):dF s=k:=UInt8.toNat_inj.1 (by unfold dF;omega)
theorem xF{s:BL}{k:UInt8}(h: ¬ (((s.getD 0 0).toNat:Nat):Int)=((k.toNat:Nat):Int)): ¬ dF s=k:=fun c=>h (by rw[<- c];rfl)
theorem qH{a:B9}{t:BL}(h:(bW t).isSome=true)(h2:(O' a ((bW t).getD [])).isSome=true):oA (O' a ((bW t).getD []))=iP a t:=by
 unfold iP;cases e:bW t with
 | none=>rw[e]at h;cases h
 | some r=>
   rw[e]at h2;simp only[Option.getD_some]at h2 ⊢;cases e2:O' a r with
   | none=>rw[e2]at h2;cases h2
   | some x=>rfl
theorem qN{a:B9}{t:BL}(h:(bW t).isSome=true)(h2:(O' a ((bW t).getD [])).isSome=false):a=iP a t:=by
 unfold iP;cases e:bW t with
 | none=>rfl
 | some r=>
   rw[e]at h2;simp only[Option.getD_some]at h2 ⊢;cases e2:O' a r with
   | none=>rfl
   | some x=>rw[e2]at h2;cases h2
theorem qP{a:B9}{t:BL}(h:(bW t).isSome=false):a=iP a t:=by
 unfold iP;cases e:bW t with
 | none=>rfl
 | some r=>rw[e]at h;cases h
def Ft(l:List BL)(y:BL):aG:=.mk 160 [.ow 1 (l.map sV),sV y] [] (l.length<=1000000) (.ow 1 ((nZ l y).map sV)) [] (by
 intro hl
 refine aA Tryz.func160
  (.ot 0 (fun g0 o0 c0=>.l7 2<|.loop Nat (fun i=>⟨[(0,.own 1 (l.map sV) g0 o0 c0),(1,sV y),(5,iN i)],[]⟩) (fun i=>i<=l.length/\∀ j,j<i->(l.getD j []==y)=false) (fun i=>l.length-i) (fun i=>.q 4<|.br (.r 6 [sV (l.getD i [])]<|.br (.mv<|.q 1<|.nil) (.q 3<|.nil)) (.q 2<|.bs<|.ap (fun g22 T8 Uz=>.h (.o9 22 (.own 1 ((l++[y]).map sV) g22 T8 Uz))<|.q 1<|.nil)))))
  ((fun v1:Nat->Prop=>(∀ g0 o0 c0:Nat,(fun v2:V=>(∃ j7:Nat,(v1 j7)/\E v2/\E (sV y)/\Q (iN 0) (iN j7)/\True)/\∀ i:Nat,(v1 i)->Br (s4 (i:Int) (((l.map sV).length:Nat):Int)) (In (i:Int) ((l.map sV).length)/\(V.at g0 o0 v2 [0+i]=some (g0,(o0+(0+i)*1),sV (l.getD i [])))/\Br ((l.getD i [])==y) (Q (.ow 1 (l.map sV)) (.ow 1 ((nZ l y).map sV))) (n8 ((i:Int)+1)/\∃ e9:Nat,(v1 e9)/\(l.length-e9<l.length-i)/\E v2/\E (sV y)/\Q (iN (i+1)) (iN e9)/\True)) (((1,1,g0,o0,c0,(l.map sV).length)=(1,1,g0,o0,c0,(l.map sV).length))/\(True)/\(V.aK ([sV y]:List V)=false)/\(aX 1 ([sV y]:List V))/\(((l.map sV).length+([sV y]:List V).length)*16<=140737488355328)/\∀ g22 T8 Uz:Nat,((.own 1 ((l.map sV)++([sV y]:List V)) g22 T8 Uz:V)=.own 1 ((l++[y]).map sV) g22 T8 Uz)/\Q (.ow 1 ((l++[y]).map sV)) (.ow 1 ((nZ l y).map sV)))) (.own 1 (l.map sV) g0 o0 c0))) (fun j7:Nat=>j7<=l.length/\∀ j,j<j7->(l.getD j []==y)=false)) ?_
 intro g0 o0 c0;refine⟨⟨0,?_,aI⟩,?_⟩;simp;rintro i ⟨h1,h2⟩;refine bI (fun l4=>?_) fun l4=>?_;refine az ⟨ka (by rw[Zaw];exact ah (d:=[]) Zac),bI (fun l6=>?_) fun l6=>?_⟩;rw[show nZ l y=l from if_pos (NA (i:=i) Zac l6)];refine az ⟨i+1,?_,?_,aI⟩;exact⟨Zac,Zdy⟩;exact Zak;refine dM ⟨Zal,fun g22 T8 Uz=>⟨Zbm (V.own 1 · g22 T8 Uz) Zad,?_⟩⟩;rw[show nZ l y=l++[y] from if_neg (by rw[Oi (fun j hj=>by have:=h2 j Zac;simpa using this)];decide)])
def sD(t:BL):aG:=.mk 185 [sV t] [] (t.length<=4611686018427387904) (aJ (aL t)) [] (by
 intro ht
 refine aA Tryz.func185
  (.q 1<|.bs<|.l7 4<|.h (.O8 3 1)<|.loop (Nat×(List BL)×Bool×Nat×Nat×Nat×Nat) (fun (i,o,r,q,g,f,k)=>⟨[(0,sV t),(3,.own 1 (o.map sV) g f k),(4,bV r),(5,iV ((q:Int)-1)),(6,iN i)],[]⟩) (fun (i,o,r,q,g,f,k)=>i<=t.length/\(t.length<=300\/i=0)/\da t i=(o,r,q)) (fun (i,o,r,q,g,f,k)=>t.length-i) (fun (i,o,r,q,g,f,k)=>.q 9<|.br (.q 9<|.br (.q 4<|.h (.o9 5 (iN (q-1)))<|.h (.o9 20 (iN (q-1)))<|.h (.o9 30 (iN (q-1)))<|.q 1<|.bs<|.ap (fun Uv T7 Uy=>.h (.o9 34 (.own 1 ((o++[(t.take i).drop (q-1)]).map sV) Uv T7 Uy))<|.l7 2<|.q 3<|.nil)) (.q 3<|.br (.q 3<|.nil) (.q 2<|.br (.q 5<|.q 3<|.nil) (.q 5<|.br (.q 1<|.q 3<|.nil) (.q 5<|.br (.q 3<|.q 3<|.nil) (.q 3<|.nil)))))) (.h (.fz 3)<|.h (.o9 3 (aJ o))<|.q 2<|.nil)))
  ((∃ x:Nat×(List BL)×Bool×Nat×Nat×Nat×Nat,match x with | (j7,A6,Rt,D0,E2,G9,m9)=>(j7<=t.length/\(t.length<=300\/j7=0)/\da t j7=(A6,Rt,D0))/\E (sV t)/\Q (.own 1 ([].map sV) 0 0 0) (.own 1 (A6.map sV) E2 G9 m9)/\Q (bV false) (bV Rt)/\Q (iV (-1)) (iV ((D0:Int)-1))/\Q (iN 0) (iN j7)/\True)/\∀ x:Nat×(List BL)×Bool×Nat×Nat×Nat×Nat,match x with | (i,o,r,q,g,f,k)=>(i<=t.length/\(t.length<=300\/i=0)/\da t i=(o,r,q))->(fun (v5 v4:Bool) (v3:V) (v2:Int) (v1:List V)=>Pk v5 (v5==true) true/\Br (v5&&(M6 (t.length:Int) 300)) (Gd (v4==true) (Ix (i:Int) t)/\Pk v4 (v4==true) true/\Br (v4&&(r4 v2 62)) (((iV ((q:Int)-1):V)=iN (q-1))/\((iV ((q:Int)-1):V)=iN (q-1))/\((iV ((q:Int)-1):V)=iN (q-1))/\Sx ((q-1:Nat):Int) (i:Int) t/\((1,1,g,f,k,(o.map sV).length)=(1,1,g,f,k,(o.map sV).length))/\(True)/\(V.aK v1=false)/\(aX 1 v1)/\(((o.map sV).length+v1.length)*16<=140737488355328)/\∀ Uv T7 Uy:Nat,((.own 1 ((o.map sV)++v1) Uv T7 Uy:V)=.own 1 ((o++[(t.take i).drop (q-1)]).map sV) Uv T7 Uy)/\n8 ((i:Int)+1)/\∃ x:Nat×(List BL)×Bool×Nat×Nat×Nat×Nat,match x with | (e9,o5,K1,s8,x6,x5,k₂)=>(e9<=t.length/\(t.length<=300\/e9=0)/\da t e9=(o5,K1,s8))/\(t.length-e9<t.length-i)/\E (sV t)/\Q (.own 1 ((o++[(t.take i).drop (q-1)]).map sV) Uv T7 Uy) (.own 1 (o5.map sV) x6 x5 k₂)/\Q (bV r) (bV K1)/\Q (iV (-1)) (iV ((s8:Int)-1))/\Q (iN (i+1)) (iN e9)/\True) (Br v4 (n8 ((i:Int)+1)/\∃ x:Nat×(List BL)×Bool×Nat×Nat×Nat×Nat,match x with | (e9,o5,K1,s8,x6,x5,k₂)=>(e9<=t.length/\(t.length<=300\/e9=0)/\da t e9=(o5,K1,s8))/\(t.length-e9<t.length-i)/\E (sV t)/\Q v3 (.own 1 (o5.map sV) x6 x5 k₂)/\Q (bV r) (bV K1)/\Q (iV ((q:Int)-1)) (iV ((s8:Int)-1))/\Q (iN (i+1)) (iN e9)/\True) (Br r (Ix (i:Int) t/\n8 ((i:Int)+1)/\∃ x:Nat×(List BL)×Bool×Nat×Nat×Nat×Nat,match x with | (e9,o5,K1,s8,x6,x5,k₂)=>(e9<=t.length/\(t.length<=300\/e9=0)/\da t e9=(o5,K1,s8))/\(t.length-e9<t.length-i)/\E (sV t)/\Q v3 (.own 1 (o5.map sV) x6 x5 k₂)/\Q (bV (G0 v2 41)) (bV K1)/\Q (iV ((q:Int)-1)) (iV ((s8:Int)-1))/\Q (iN (i+1)) (iN e9)/\True) (Ix (i:Int) t/\Br (r4 v2 40) (n8 ((i:Int)+1)/\∃ x:Nat×(List BL)×Bool×Nat×Nat×Nat×Nat,match x with | (e9,o5,K1,s8,x6,x5,k₂)=>(e9<=t.length/\(t.length<=300\/e9=0)/\da t e9=(o5,K1,s8))/\(t.length-e9<t.length-i)/\E (sV t)/\Q v3 (.own 1 (o5.map sV) x6 x5 k₂)/\Q (bV true) (bV K1)/\Q (iV ((q:Int)-1)) (iV ((s8:Int)-1))/\Q (iN (i+1)) (iN e9)/\True) (Ix (i:Int) t/\Br (r4 v2 60) (n8 ((i:Int)+1)/\n8 ((i:Int)+1)/\∃ x:Nat×(List BL)×Bool×Nat×Nat×Nat×Nat,match x with | (e9,o5,K1,s8,x6,x5,k₂)=>(e9<=t.length/\(t.length<=300\/e9=0)/\da t e9=(o5,K1,s8))/\(t.length-e9<t.length-i)/\E (sV t)/\Q v3 (.own 1 (o5.map sV) x6 x5 k₂)/\Q (bV r) (bV K1)/\Q (iN (i+1)) (iV ((s8:Int)-1))/\Q (iN (i+1)) (iN e9)/\True) (n8 ((i:Int)+1)/\∃ x:Nat×(List BL)×Bool×Nat×Nat×Nat×Nat,match x with | (e9,o5,K1,s8,x6,x5,k₂)=>(e9<=t.length/\(t.length<=300\/e9=0)/\da t e9=(o5,K1,s8))/\(t.length-e9<t.length-i)/\E (sV t)/\Q v3 (.own 1 (o5.map sV) x6 x5 k₂)/\Q (bV r) (bV K1)/\Q (iV ((q:Int)-1)) (iV ((s8:Int)-1))/\Q (iN (i+1)) (iN e9)/\True)))))) (((.sl false (V.G4 (o.map sV)):V)=aJ o)/\Q (aJ o) (aJ (aL t)))) (s4 (i:Int) (t.length:Int)) (G3 ((q:Int)-1) 0) (.own 1 (o.map sV) g f k) (((t.getD i 0).toNat:Nat):Int) ([sV ((t.take i).drop (q-1))]:List V)) ?_
 refine⟨⟨(0,[],false,0,0,0,0),?_,rfl,rfl,rfl,Zah,aI⟩,?_⟩;exact⟨Zac,.inr rfl,rfl⟩;rintro⟨i,o,r,q,g,f,k⟩ ⟨h1,h2,h3⟩;have WN:=xg t i;rw[h3]at WN;have UX:=WN.len;have YJ:=WN.pos;have hm4:=WN.one;simp only at UX YJ hm4;refine az (bI (fun l4=>?_) fun l4=>?_);refine bJ (bI (fun l6=>?_) fun l6=>?_);refine⟨(Zbm iV Zac),(Zbm iV Zac),(Zbm iV Zac),fQ ⟨Zal,fun Uv T7 Uy=>⟨Zbm (V.own 1 · Uv T7 Uy) Zad,az ⟨(i+1,o++[(t.take i).drop (q-1)],r,0,Uv,T7,Uy),?_,?_,rfl,rfl,rfl,Zdz,aI⟩⟩⟩⟩;refine⟨Zac,.inl Zac,?_⟩;rw[show da t (i+1)=eY t (da t i) i from rfl,h3,MM Zac (c8 (k:=62) l6.2)];exact Zak;refine bI (fun n9=>?_) fun n9=>?_;refine az ⟨(i+1,o,r,q,g,f,k),?_,?_,rfl,rfl,rfl,Zdz,aI⟩;refine⟨Zac,.inl Zac,?_⟩;rw[show da t (i+1)=eY t (da t i) i from rfl,h3,Nz Zac (Vd (k:=62) (l6 n9))];exact Zak;refine bI (fun B6=>?_) fun B6=>?_;refine bJ ⟨(i+1,o,G0 (((t.getD i 0).toNat:Nat):Int) 41,q,g,f,k),?_,?_,rfl,rfl,rfl,Zdz,aI⟩;refine⟨Zac,.inl Zac,?_⟩;obtain rfl:q=0:=Zac;rw[show da t (i+1)=eY t (da t i) i from rfl,h3,MZ B6,b8];rfl;exact Zak;refine az (bI (fun H5=>?_) fun H5=>?_);refine az ⟨(i+1,o,true,q,g,f,k),?_,?_,rfl,rfl,rfl,Zdz,aI⟩;refine⟨Zac,.inl Zac,?_⟩;obtain rfl:q=0:=Zac;rw[show da t (i+1)=eY t (da t i) i from rfl,h3,NT B6 (c8 (k:=40) H5)];exact Zak;refine az (bI (fun Qh=>?_) fun Qh=>?_);refine bJ ⟨(i+1,o,r,i+2,g,f,k),?_,?_,rfl,rfl,rfl,Zdz,aI⟩;refine⟨Zac,.inl Zac,?_⟩;obtain rfl:q=0:=Zac;rw[show da t (i+1)=eY t (da t i) i from rfl,h3,MH B6 (Vd (k:=40) H5) (c8 (k:=60) Qh),B6];exact Zak;refine az ⟨(i+1,o,r,q,g,f,k),?_,?_,rfl,rfl,rfl,Zdz,aI⟩;refine⟨Zac,.inl Zac,?_⟩;obtain rfl:q=0:=Zac;rw[show da t (i+1)=eY t (da t i) i from rfl,h3,MN B6 (Vd (k:=40) H5) (Vd (k:=60) Qh)];exact Zak;refine⟨Zcf,?_⟩;rw[show aL t=o from Ij h1 h2 h3 l4])
def py(s:BL):aG:=.mk 186 [sV s] [] (s.length<=4611686018427387904) (uN ((dF s).toNat)) [] (by
 intro hs
 refine aA Tryz.func186
  (.q 1<|.q 2<|.br (.q 1<|.nil) (.q 3<|.nil))
  (Br (s==[]) (Q (uN 0) (uN ((dF s).toNat))) (Ix 0 s/\Q (uN ((s.getD 0 0).toNat)) (uN ((dF s).toNat)))) ?_
 refine bI (fun l4=>?_) fun l4=>?_;unfold Q;simp_all[dF];refine⟨by have:=List.length_pos_iff.2 l4;omega,?_⟩;rfl)
abbrev lv(t:BL)(i:Nat):Prop:=i<=(aL t).length/\∀ j,j<i->(dF ((aL t).getD j [])==64)=false
def zG(t:BL):aG:=.mk 157 [sV t] [] (t.length<=4611686018427387904) (.tup [sV ((bW t).getD []),bV ((bW t).isSome)]) [] (by
 intro ht;obtain⟨UX,TF⟩:=oV t
 refine aA Tryz.func157
  (.q 2<|.q 1<|.c (sD t) []<|.l7 2<|.loop Nat (fun i=>⟨[(4,aJ (aL t)),(5,iN i)],[]⟩) (fun i=>lv t i) (fun i=>(aL t).length-i) (fun i=>.q 4<|.br (.r 4 [sV ((aL t).getD i [])]<|.c (py ((aL t).getD i [])) []<|.q 1<|.br (.r 7 [sV ((aL t).getD i [])]<|.nil) (.q 3<|.nil)) (.q 2<|.nil)))
  ((fun v1:V=>((sD t).sm/\((t.length<=4611686018427387904))/\(∃ j7:Nat,(lv t j7)/\E (aJ (aL t))/\Q (iN 0) (iN j7)/\True)/\∀ i:Nat,(lv t i)->Br (s4 (i:Int) ((((aL t).map sV).length:Nat):Int)) (Ex (i:Int) ((aL t).map sV) (sV ((aL t).getD i []))/\True/\(py ((aL t).getD i [])).sm/\((((aL t).getD i []).length<=4611686018427387904))/\Br (r4 (((dF ((aL t).getD i [])).toNat:Nat):Int) 64) (Ex (i:Int) ((aL t).map sV) (sV ((aL t).getD i []))/\True/\Sx (1:Int) (((aL t).getD i []).length:Int) ((aL t).getD i [])/\Q (.tup [sV ((((aL t).getD i []).take ((aL t).getD i []).length).drop 1),bV true]) v1) (n8 ((i:Int)+1)/\∃ e9:Nat,(lv t e9)/\((aL t).length-e9<(aL t).length-i)/\E (aJ (aL t))/\Q (iN (i+1)) (iN e9)/\True)) (Q (.tup [sV [],bV false]) v1))) (.tup [sV ((bW t).getD []),bV ((bW t).isSome)])) ?_
 refine bJ ⟨⟨0,?_,aI⟩,?_⟩;unfold lv;simp;rintro i ⟨h1,h2⟩;have L4:=kU (n:=300) (fun m hm=>(TF m hm).1) i;refine bI (fun l4=>?_) fun l4=>?_;refine⟨Zcg,bN (bI (fun l6=>?_) fun l6=>?_)⟩;refine⟨Zcg,trivial,by have:=Kr l6;omega,?_⟩;rw[show bW t=some (((aL t).getD i []).drop 1) from by rw[bW,Bn (i:=i) (d:=[]) Zac (head_eq l6) h2];rfl,List.take_length];rfl;refine az ⟨i+1,?_,?_,aI⟩;unfold lv;exact⟨Zac,bm h2 (head_ne l6)⟩;exact Zak;rw[show bW t=none from by rw[bW,EK (d:=[]) (fun j hj=>h2 j Zac)];rfl];rfl)
def ye(t:BL):aG:=.mk 159 [sV t] [] (t.length<=4611686018427387904) (aJ (bD t)) [] (by
 intro ht;obtain⟨UX,TF⟩:=oV t
 refine aA Tryz.func159
  (.l7 2<|.c (sD t) []<|.q 1<|.bs<|.l7 2<|.h (.O8 4 1)<|.loop (Nat×(List BL)×Nat×Nat×Nat) (fun (i,o,g,f,k)=>⟨[(3,aJ (aL t)),(4,.own 1 (o.map sV) g f k),(5,iN i)],[]⟩) (fun (i,o,g,f,k)=>i<=(aL t).length/\o=((aL t).take i).filter ij/\o.length<=i) (fun (i,o,g,f,k)=>(aL t).length-i) (fun (i,o,g,f,k)=>.q 4<|.br (.r 4 [sV ((aL t).getD i [])]<|.c (py ((aL t).getD i [])) []<|.r 6 [sV ((aL t).getD i [])]<|.cg (py ((aL t).getD i []))<|.q 2<|.br (.r 5 [sV ((aL t).getD i [])]<|.bs<|.ap (fun SK SD SM=>.h (.o9 35 (.own 1 ((o++[((aL t).getD i [])]).map sV) SK SD SM))<|.q 1<|.q 3<|.nil)) (.q 3<|.nil)) (.h (.fz 4)<|.h (.o9 4 (aJ o))<|.q 2<|.nil)))
  ((fun v1:List V=>((sD t).sm/\((t.length<=4611686018427387904))/\(∃ x:Nat×(List BL)×Nat×Nat×Nat,match x with | (j7,A6,E2,G9,m9)=>(j7<=(aL t).length/\A6=((aL t).take j7).filter ij/\A6.length<=j7)/\E (aJ (aL t))/\Q (.own 1 ([].map sV) 0 0 0) (.own 1 (A6.map sV) E2 G9 m9)/\Q (iN 0) (iN j7)/\True)/\∀ x:Nat×(List BL)×Nat×Nat×Nat,match x with | (i,o,g,f,k)=>(i<=(aL t).length/\o=((aL t).take i).filter ij/\o.length<=i)->(fun (v4:V) (v3:List V) (v2:Int)=>Br (s4 (i:Int) ((v1.length:Nat):Int)) (Ex (i:Int) v1 v4/\True/\(py ((aL t).getD i [])).sm/\((((aL t).getD i []).length<=4611686018427387904))/\Gd ((G0 v2 33)==true) (Ex (i:Int) v1 v4)/\Gd ((G0 v2 33)==true) True/\Gd ((G0 v2 33)==true) (((((aL t).getD i []).length<=4611686018427387904))/\(py ((aL t).getD i [])).sm)/\Pk (G0 v2 33) ((G0 v2 33)==true) true/\Br ((G0 v2 33)&&(G0 v2 64)) (Ex (i:Int) v1 v4/\True/\((1,1,g,f,k,(o.map sV).length)=(1,1,g,f,k,(o.map sV).length))/\(True)/\(V.aK v3=false)/\(aX 1 v3)/\(((o.map sV).length+v3.length)*16<=140737488355328)/\∀ SK SD SM:Nat,((.own 1 ((o.map sV)++v3) SK SD SM:V)=.own 1 ((o++[((aL t).getD i [])]).map sV) SK SD SM)/\n8 ((i:Int)+1)/\∃ x:Nat×(List BL)×Nat×Nat×Nat,match x with | (e9,o5,x6,x5,k₂)=>(e9<=(aL t).length/\o5=((aL t).take e9).filter ij/\o5.length<=e9)/\((aL t).length-e9<(aL t).length-i)/\E (aJ (aL t))/\Q (.own 1 ((o++[((aL t).getD i [])]).map sV) SK SD SM) (.own 1 (o5.map sV) x6 x5 k₂)/\Q (iN (i+1)) (iN e9)/\True) (n8 ((i:Int)+1)/\∃ x:Nat×(List BL)×Nat×Nat×Nat,match x with | (e9,o5,x6,x5,k₂)=>(e9<=(aL t).length/\o5=((aL t).take e9).filter ij/\o5.length<=e9)/\((aL t).length-e9<(aL t).length-i)/\E (aJ (aL t))/\Q (.own 1 (o.map sV) g f k) (.own 1 (o5.map sV) x6 x5 k₂)/\Q (iN (i+1)) (iN e9)/\True)) (((.sl false (V.G4 (o.map sV)):V)=aJ o)/\Q (aJ o) (aJ (bD t)))) (sV ((aL t).getD i [])) ([sV ((aL t).getD i [])]:List V) (((dF ((aL t).getD i [])).toNat:Nat):Int))) ((aL t).map sV)) ?_
 refine bJ ⟨⟨(0,[],0,0,0),?_,aI⟩,?_⟩;simp;rintro⟨i,o,g,f,k⟩ ⟨h1,h2,h3⟩;have L4:=kU (n:=300) (fun m hm=>(TF m hm).1) i;refine bI (fun l4=>?_) fun l4=>?_;refine⟨Zcg,bN ⟨fun hG=>az (ah (d:=[]) Zac),az ⟨fun hG=>⟨Zcr,rfl⟩,az (bI (fun l6=>?_) fun l6=>?_)⟩⟩⟩;refine⟨Zcg,fQ ⟨Zal,fun SK SD SM=>⟨Zbm (V.own 1 · SK SD SM) Zad,az ⟨(i+1,o++[((aL t).getD i [])],SK,SD,SM),?_,?_,aI⟩⟩⟩⟩;refine⟨Zac,?_,Zal⟩;rw[aZ (d:=[]) Zac,List.filter_append,<- h2,List.filter_cons_of_pos (NU l6)];rfl;exact Zak;refine az ⟨(i+1,o,g,f,k),?_,?_,aI⟩;refine⟨Zac,?_,aI⟩;rw[aZ (d:=[]) Zac,List.filter_append,<- h2,List.filter_cons_of_neg (by rw[Og l6];decide)];simp;exact Zak;refine⟨Zcf,?_⟩;rw[h2,Zaz Zac];rfl)
abbrev DO(a:B9):V:=.agg [sV a.l5,aJ (a.j8.take (a.j8.length-1)),bV false,sV []]
def Je(a:B9):aG:=.mk 187 [bh a] [] (dQ a) (DO a) [] (by
 intro ha;have hal:=ha.2.2.1
 refine aA Tryz.func187
  (.bx (fun g1=>.al dC (fun g2=>.A3 12 [(1,l9 [1] [4]),(4,l9 [1] [7]),(6,l9 [1] [9]),(11,⟨true,[],none,[14],[]⟩)]<|.q 1<|.m7<|.bs<|.q 1<|.m7<|.q 1<|.m7<|.l7 2<|.mm<|.q 1<|.h (.o9 13 (aJ (a.j8.take (a.j8.length-1))))<|.ux none (fun g14 Ze ZA=>.h (.o9 14 (.own 1 ((a.j8.take (a.j8.length-1)).map sV) g14 Ze ZA))<|.h (.fz 14)<|.h (.o9 14 (aJ (a.j8.take (a.j8.length-1))))<|.bd dC<|.st none<|.nil))))
  ((fun (v2:Int) (v1:List V)=>(∀ g1:Nat,∀ g2:Nat,Z g1 0/\Z g1 1/\Z g1 1/\n8 (v2-1)/\(IntKind.i64=IntKind.i64)/\((0:Int)<=(0:Int)/\(0:Int)<=(max (v2-1) 0)/\(max (v2-1) 0)<=(a.j8.map sV).length/\∀ x∈(a.j8.map sV),x.n=1)/\Q (.sl false (((a.j8.map sV).take (Int.toNat (max (v2-1) 0))).drop ((0:Int).toNat))) (aJ (a.j8.take (a.j8.length-1)))/\((True)/\(V.aK v1=false)/\(aX 1 v1)/\((([]:List V).length+v1.length)*16<=140737488355328))/\∀ g14 Ze ZA:Nat,((.own 1 (([]:List V)++v1) g14 Ze ZA:V)=.own 1 v1 g14 Ze ZA)/\((.sl false (V.G4 v1):V)=aJ (a.j8.take (a.j8.length-1)))/\Z g2 0/\(g2=g2)/\Q (.agg [sV a.l5,aJ (a.j8.take (a.j8.length-1)),bV false,sV []]) (DO a))) (((a.j8.map sV).length:Nat):Int) ((a.j8.take (a.j8.length-1)).map sV)) ?_
 intro g1;intro g2;refine fQ ⟨⟨Zch,Zch,Zch,all_map (fun _=>rfl)⟩,Zd0,⟨trivial,(bF (f:=sV) (fun _=>rfl) _),(cd (f:=sV) (fun _=>rfl) _),Zal⟩,?_⟩;intro g14 Ze ZA;refine⟨Zbm (V.own 1 · g14 Ze ZA) (List.nil_append _),Zcf,rfl,⟨rfl,?_⟩⟩;unfold Q DO;rfl)
abbrev fw(a:B9)(ref:BL):V:=.tup [bh (oA (O' a ref)),bV ((O' a ref).isSome)]
def ql(a:B9)(ref:BL):aG:=.mk 158 [bh a,sV ref] [] ((dQ a)/\(ref.length<=1000000)) (fw a ref) [] (by
 rintro⟨ha,hr⟩;have Rw:=oU 35 ref;have hp:=ha.2.2.1
 refine aA Tryz.func158
  (.bx (fun g2=>.al dC (fun g4=>.l7 2<|.c (ly ref (35:UInt8)) []<|.q 7<|.m7<|.c (mr a) []<|.q 7<|.br (.bd dC<|.st none<|.q 1<|.nil) (.q 9<|.br (.q 2<|.c (sf ((((aj (35:UInt8) ref).1).take ((aj (35:UInt8) ref).1).length).drop 2)) []<|.q 2<|.st none<|.q 1<|.nil) (.q 3<|.br (.bs<|.r 2 [.c9]<|.ap (fun QZ QW RZ=>.h (.o9 45 (.own 1 (a.j8.map sV) QZ QW RZ))<|.h (.fz 45)<|.h (.o9 45 (aJ a.j8))<|.q 1<|.st none<|.m7<|.st none<|.q 1<|.nil)) (.q 4<|.br (.r 2 [.c9]<|.bd dC<|.q 1<|.c (lF (⟨a.l5,[],false,[]⟩:B9) ((aj (35:UInt8) ref).1)) []<|.q 2<|.st none<|.q 1<|.nil) (.q 4<|.br (.r 4 [.c9,.c9]<|.bd dC<|.q 1<|.c (lF (⟨a.l5,a.j8,false,[]⟩:B9) ((aj (35:UInt8) ref).1)) []<|.q 2<|.st none<|.q 1<|.nil) (.m7<|.c (Je a) []<|.q 1<|.c (lF (⟨a.l5,a.j8.take (a.j8.length-1),false,[]⟩:B9) ((aj (35:UInt8) ref).1)) []<|.q 2<|.st none<|.q 1<|.nil))))))))
  ((fun (v6:Int) (v5:List V) (v4:Bool) (v3 v2 v1:B9)=>(∀ g2:Nat,∀ g4:Nat,(ly ref (35:UInt8)).sm/\((ref.length<=4611686018427387904))/\Z g2 0/\(mr a).sm/\((eg a))/\Pk (!(bu a)) true ((!(bu a))==false)/\Br ((!(bu a))||(s9 (ref.length:Int) 60)) (Z g4 0/\(g4=g4)/\Q (.tup [jA (.sl false []),bV false]) (fw a ref)) (Gd (v4==true) (Sx (0:Int) (2:Int) ((aj (35:UInt8) ref).1))/\Pk v4 (v4==true) true/\Br (v4&&(((((aj (35:UInt8) ref).1).take 2).drop ((0:Int).toNat))==([47,47]:BL))) (Sx (2:Int) (((aj (35:UInt8) ref).1).length:Int) ((aj (35:UInt8) ref).1)/\(sf ((((aj (35:UInt8) ref).1).take ((aj (35:UInt8) ref).1).length).drop 2)).sm/\((((((aj (35:UInt8) ref).1).take ((aj (35:UInt8) ref).1).length).drop 2).length<=1000))/\Z g4 0/\(g4=g4)/\Q (.tup [bh (oA (fj ((((aj (35:UInt8) ref).1).take ((aj (35:UInt8) ref).1).length).drop 2))),bV ((fj ((((aj (35:UInt8) ref).1).take ((aj (35:UInt8) ref).1).length).drop 2)).isSome)]) (fw a ref)) (Br (((aj (35:UInt8) ref).1)==[]) (Z g2 1/\(True)/\(True)/\(V.aK v5=false)/\(aX 1 v5)/\((([]:List V).length+v5.length)*16<=140737488355328)/\∀ QZ QW RZ:Nat,((.own 1 (([]:List V)++v5) QZ QW RZ:V)=.own 1 v5 QZ QW RZ)/\((.sl false (V.G4 v5):V)=aJ a.j8)/\Z g2 1/\Z g2 0/\Z g4 0/\(g4=g4)/\Q (.tup [bh a,bV true]) (fw a ref)) (Ix 0 ((aj (35:UInt8) ref).1)/\Br (r4 v6 47) (Z g2 0/\(lF v3 ((aj (35:UInt8) ref).1)).sm/\((eg v3)/\(((aj (35:UInt8) ref).1).length<=1000)/\(v3.j8.length<=1000))/\Z g4 0/\(g4=g4)/\Q (.tup [bh (oA (dE v3.l5 v3.j8 ((aj (35:UInt8) ref).1))),bV ((dE v3.l5 v3.j8 ((aj (35:UInt8) ref).1)).isSome)]) (fw a ref)) (Ix 0 ((aj (35:UInt8) ref).1)/\Br (r4 v6 63) (Z g2 0/\Z g2 1/\(lF v2 ((aj (35:UInt8) ref).1)).sm/\((eg v2)/\(((aj (35:UInt8) ref).1).length<=1000)/\(v2.j8.length<=1000))/\Z g4 0/\(g4=g4)/\Q (.tup [bh (oA (dE v2.l5 v2.j8 ((aj (35:UInt8) ref).1))),bV ((dE v2.l5 v2.j8 ((aj (35:UInt8) ref).1)).isSome)]) (fw a ref)) (Z g2 0/\(Je a).sm/\((dQ a))/\(lF v1 ((aj (35:UInt8) ref).1)).sm/\((eg v1)/\(((aj (35:UInt8) ref).1).length<=1000)/\(v1.j8.length<=1000))/\Z g4 0/\(g4=g4)/\Q (.tup [bh (oA (dE v1.l5 v1.j8 ((aj (35:UInt8) ref).1))),bV ((dE v1.l5 v1.j8 ((aj (35:UInt8) ref).1)).isSome)]) (fw a ref)))))))) (((((aj (35:UInt8) ref).1).getD 0 0).toNat:Nat):Int) (a.j8.map sV) (G3 ((((aj (35:UInt8) ref).1).length:Nat):Int) 2) (⟨a.l5,[],false,[]⟩:B9) (⟨a.l5,a.j8,false,[]⟩:B9) (⟨a.l5,a.j8.take (a.j8.length-1),false,[]⟩:B9)) ?_
 intro g2;intro g4;refine dM ⟨ha.sz,az (bI (fun l4=>?_) fun l4=>?_)⟩;refine⟨rfl,⟨rfl,?_⟩⟩;unfold Q fw;rw[show O' a ref=none from if_pos (l4.imp id fun h=>by omega)];rfl;refine bJ (bI (fun l6=>?_) fun l6=>?_);refine⟨Zac,rfl,Zcp,rfl,⟨rfl,?_⟩⟩;unfold Q fw;rw[sS l4,if_pos (Pu l6)];simp;refine bI (fun n9=>?_) fun n9=>?_;refine bN ⟨Zcm,Zcn,Zal,fun QZ QW RZ=>⟨Zbm (V.own 1 · QZ QW RZ) (List.nil_append _),Zcf,bN ⟨rfl,?_⟩⟩⟩;unfold Q fw;rw[sS l4,if_neg (GA l6),if_pos Zdc];rfl;refine⟨Zd1,bI (fun B6=>?_) fun B6=>?_⟩;refine⟨rfl,rfl,⟨⟨by have:=ha.1;simp only;omega,Zad,Zad,Zad⟩,az Zad⟩,rfl,⟨rfl,?_⟩⟩;unfold Q fw;rw[sS l4,if_neg (GA l6),if_neg Zdc,if_pos (CD (k:=47) B6)];refine⟨Zd1,bI (fun H5=>?_) fun H5=>?_⟩;refine⟨rfl,rfl,rfl,⟨⟨ha.sz.1,Zad,ha.sz.2.2.1,ha.sz.2.2.2⟩,az (by show a.j8.length<=1000;omega)⟩,rfl,⟨rfl,?_⟩⟩;unfold Q fw;rw[sS l4,if_neg (GA l6),if_neg Zdc,if_neg (xF (k:=47) B6),if_pos (CD (k:=63) H5)];refine⟨rfl,rfl,ha,rfl,⟨⟨ha.sz.1,Zad,Zd2,FG ha.sz.2.2.2⟩,az Zd2⟩,rfl,⟨rfl,?_⟩⟩;unfold Q fw;rw[sS l4,if_neg (GA l6),if_neg Zdc,if_neg (xF (k:=47) B6),if_neg (xF (k:=63) H5)])
def xW(a:B9)(t:BL):aG:=.mk 120 [bh a,sV t] [] ((dQ a)/\(t.length<=4611686018427387904)) (aJ (cG a t)) [] (by
 rintro⟨ha,ht⟩;obtain⟨UX,TF⟩:=uu t
 refine aA Tryz.func120
  (.bx (fun g2=>.q 1<|.bs<|.q 1<|.m7<|.c (mr a) []<|.q 1<|.br (.q 2<|.nil) (.q 1<|.c (zG t) []<|.q 5<|.q 1<|.join (B9) (fun b=>⟨[(0,bh a),(1,sV t),(2,kp 2 g2),(4,.sl true []),(14,.sl true []),(5,.sl true []),(15,bh a),(16,bV (bu a)),(17,bV (!(bu a))),(20,sV t),(21,.tup [sV ((bW t).getD []),bV ((bW t).isSome)]),(19,.tup [sV ((bW t).getD []),bV ((bW t).isSome)]),(22,sV ((bW t).getD [])),(23,bV ((bW t).isSome)),(6,sV ((bW t).getD [])),(7,bV ((bW t).isSome)),(24,bV ((bW t).isSome))],[(2,(g2,bh b))]⟩) (fun b=>b=(iP a t)) (.r 2 [.c9]<|.c (ql a ((bW t).getD [])) []<|.q 3<|.al dC (fun g8=>.st none<|.l7 2<|.br (.m7<|.st none<|.nil) (.nil))) (.nil) (fun b=>.q 1<|.c (ye t) []<|.l7 2<|.h (.O8 5 1)<|.loop (Nat×(List BL)) (fun (i,o)=>⟨[(2,kp 2 g2),(5,.ow 1 (o.map sV)),(10,aJ (bD t)),(11,iN i)],[(2,(g2,bh b))]⟩) (fun (i,o)=>i<=(bD t).length/\o=((bD t).take i).foldl (fg b) []/\o.length<=i) (fun (i,o)=>(bD t).length-i) (fun (i,o)=>.q 4<|.br (.dx 11 [0,1,2,3,4,5,6,7,8,9,10] [(0,l9 [2] [42]),(4,l9 [] [46]),(10,⟨true,[],none,[],[12]⟩)] [(9,dC)]<|.m7<|.l7 2<|.r 1 [sV ((bD t).getD i [])]<|.q 1<|.c (ql b ((bD t).getD i [])) []<|.l7 3<|.ua (fun g12=>.eu (Wx 12) (fun _=>.l7 2<|.br (.mv<|.m7<|.c (jI (oA (O' b ((bD t).getD i [])))) []<|.c (Ft o (cF (oA (O' b ((bD t).getD i []))))) []<|.q 1<|.q 3<|.nil) (.q 3<|.nil)))) (.h (.fz 5)<|.h (.o9 5 (aJ o))<|.q 2<|.nil))))))
  ((fun (v2 v1:V)=>(∀ g2:Nat,(fun v3:V=>Z g2 0/\(mr a).sm/\((eg a))/\Br (!(bu a)) (Q (.sl false []) (aJ (cG a t))) ((zG t).sm/\((t.length<=4611686018427387904))/\(((bW t).isSome)=true->Z g2 0/\(ql a ((bW t).getD [])).sm/\((dQ a)/\(((bW t).getD []).length<=1000000))/\∀ g8:Nat,Z g8 0/\Br ((O' a ((bW t).getD [])).isSome) (Z g8 0/\Z g2 0/\∃ b:B9,(b=(iP a t))/\E (bh a)/\E (sV t)/\E v3/\E (.sl true [])/\E (.sl true [])/\E (.sl true [])/\E (bh a)/\E (bV (bu a))/\E (bV (!(bu a)))/\E (sV t)/\E v1/\E v1/\E v2/\E (bV ((bW t).isSome))/\E v2/\E (bV ((bW t).isSome))/\E (bV ((bW t).isSome))/\Qr g2 (bh (oA (O' a ((bW t).getD [])))) g2 (bh b)/\True) (∃ b:B9,(b=(iP a t))/\E (bh a)/\E (sV t)/\E v3/\E (.sl true [])/\E (.sl true [])/\E (.sl true [])/\E (bh a)/\E (bV (bu a))/\E (bV (!(bu a)))/\E (sV t)/\E v1/\E v1/\E v2/\E (bV ((bW t).isSome))/\E v2/\E (bV ((bW t).isSome))/\E (bV ((bW t).isSome))/\Qr g2 (bh a) g2 (bh b)/\True))/\(((bW t).isSome)=false->∃ b:B9,(b=(iP a t))/\E (bh a)/\E (sV t)/\E v3/\E (.sl true [])/\E (.sl true [])/\E (.sl true [])/\E (bh a)/\E (bV (bu a))/\E (bV (!(bu a)))/\E (sV t)/\E v1/\E v1/\E v2/\E (bV ((bW t).isSome))/\E v2/\E (bV ((bW t).isSome))/\E (bV ((bW t).isSome))/\Qr g2 (bh a) g2 (bh b)/\True)/\(∀ b:B9,(b=(iP a t))->(ye t).sm/\((t.length<=4611686018427387904))/\(∃ x:Nat×(List BL),match x with | (j7,A6)=>(j7<=(bD t).length/\A6=((bD t).take j7).foldl (fg b) []/\A6.length<=j7)/\E v3/\Q (.ow 1 ([].map sV)) (.ow 1 (A6.map sV))/\E (aJ (bD t))/\Q (iN 0) (iN j7)/\Er g2 (bh b)/\True)/\∀ x:Nat×(List BL),match x with | (i,o)=>(i<=(bD t).length/\o=((bD t).take i).foldl (fg b) []/\o.length<=i)->(fun v4:B9=>Br (s4 (i:Int) ((((bD t).map sV).length:Nat):Int)) (Z g2 0/\Ex (i:Int) ((bD t).map sV) (sV ((bD t).getD i []))/\True/\(ql b ((bD t).getD i [])).sm/\((dQ b)/\(((bD t).getD i []).length<=1000000))/\∀ g12:Nat,((g12:Nat)=g12)/\∀ _:Unit,Br ((O' b ((bD t).getD i [])).isSome) (Z g12 0/\(jI v4).sm/\((eg v4))/\(Ft o (cF v4)).sm/\((o.length<=1000000))/\n8 ((i:Int)+1)/\∃ x:Nat×(List BL),match x with | (e9,o5)=>(e9<=(bD t).length/\o5=((bD t).take e9).foldl (fg b) []/\o5.length<=e9)/\((bD t).length-e9<(bD t).length-i)/\E v3/\Q (.ow 1 ((nZ o (cF v4)).map sV)) (.ow 1 (o5.map sV))/\E (aJ (bD t))/\Q (iN (i+1)) (iN e9)/\Er g2 (bh b)/\True) (n8 ((i:Int)+1)/\∃ x:Nat×(List BL),match x with | (e9,o5)=>(e9<=(bD t).length/\o5=((bD t).take e9).foldl (fg b) []/\o5.length<=e9)/\((bD t).length-e9<(bD t).length-i)/\E v3/\Q (.ow 1 (o.map sV)) (.ow 1 (o5.map sV))/\E (aJ (bD t))/\Q (iN (i+1)) (iN e9)/\Er g2 (bh b)/\True)) (((.sl false (V.G4 (o.map sV)):V)=aJ o)/\Q (aJ o) (aJ (cG a t)))) (oA (O' b ((bD t).getD i [])))))) (kp 2 g2))) (sV ((bW t).getD [])) (.tup [sV ((bW t).getD []),bV ((bW t).isSome)])) ?_
 intro g2;refine⟨rfl,rfl,ha.sz,bI (fun l4=>?_) fun l4=>?_⟩;rw[show cG a t=[] from if_neg Zck];rfl;refine bJ ⟨fun l6=>?_,fun l6=>?_,fun b hb=>?_⟩;try simp only[nb]at l6
 refine⟨rfl,rfl,⟨ha,by have:=DP t;omega⟩,fun g8=>⟨rfl,bI (fun n9=>?_) fun n9=>?_⟩⟩;refine bJ ⟨(⟨(oA (O' a ((bW t).getD []))).l5,(oA (O' a ((bW t).getD []))).j8,(oA (O' a ((bW t).getD []))).asks,(oA (O' a ((bW t).getD []))).ask⟩:B9),Zd3,az (jB (jB ⟨Zah,aI⟩))⟩;exact⟨(⟨a.l5,a.j8,a.asks,a.ask⟩:B9),Zd3,rfl,rfl,rfl,rfl,rfl,rfl,rfl,rfl,rfl,rfl,rfl,rfl,rfl,rfl,rfl,rfl,rfl,Zah,trivial⟩;try simp only[nb]at l6
 exact⟨(⟨a.l5,a.j8,a.asks,a.ask⟩:B9),Zd3,rfl,rfl,rfl,rfl,rfl,rfl,rfl,rfl,rfl,rfl,rfl,rfl,rfl,rfl,rfl,rfl,rfl,Zah,trivial⟩;refine bJ ⟨⟨(0,[]),?_,aI⟩,?_⟩;simp;rintro⟨i,o⟩ ⟨h1,h2,h3⟩;have L4:=kU (n:=300) (fun m hm=>(TF m hm).1) i;have hbs:dQ b:=su (by rw[hb];exact Dj Zdb);refine bI (fun B6=>?_) fun B6=>?_;refine⟨rfl,Zcg,trivial,rfl,⟨hbs,aI⟩,fun g12=>⟨rfl,fun _=>bI (fun H5=>?_) fun H5=>?_⟩⟩;refine⟨rfl,rfl,(KL _ _).sz,bN ⟨(i+1,nZ o (cF (oA (O' b ((bD t).getD i []))))),?_,?_,aI⟩⟩;refine⟨Zac,?_,?_⟩;rw[foldl_succ (d:=[]) Zac,<- h2];exact(if_pos H5).symm;have:=FR (l:=o) (s:=cF (oA (O' b ((bD t).getD i []))));omega;exact Zak;refine az ⟨(i+1,o),?_,?_,aI⟩;refine⟨Zac,?_,aI⟩;rw[foldl_succ (d:=[]) Zac,<- h2];exact(if_neg (by rw[H5];decide)).symm;exact Zak;refine⟨Zcf,?_⟩;rw[show cG a t=_ from if_pos Zdb,<- hb,h2,Zaz Zac])
def kK(d:BL)(k:Int)(t:BL):aG:=.mk 79 [sV d,iV k,sV t] [] ((d.length<=4611686018427387904)/\(t.length<=4611686018427387904)) (aJ (aM d k t)) [] (by
 rintro⟨hd,ht⟩
 refine aA Tryz.func79
  (.l7 2<|.q 2<|.br (.q 1<|.c (dy d) []<|.q 3<|.al dC (fun g7=>.st none<|.q 1<|.r 2 [.c9]<|.c (xW (oA (aT d)) t) []<|.q 1<|.nil)) (.q 2<|.br (.q 1<|.bs<|.q 1<|.nil) (.bs<|.q 1<|.nil)))
  (Br (r4 k 1) ((dy d).sm/\((d.length<=4611686018427387904))/\∀ g7:Nat,Z g7 0/\Z g7 0/\(xW (oA (aT d)) t).sm/\((dQ (oA (aT d)))/\(t.length<=4611686018427387904))/\Q (aJ (cG (oA (aT d)) t)) (aJ (aM d k t))) (Br (r4 k 2) (Q (.sl false [sV t]) (aJ (aM d k t))) (Q (.sl false []) (aJ (aM d k t))))) ?_
 refine bI (fun l4=>?_) fun l4=>?_;refine bJ fun g7=>⟨rfl,rfl,rfl,⟨by first | assumption | exact lT _ | exact KL _ _,aI⟩,?_⟩;rw[show aM d k t=cG (oA (aT d)) t from if_pos l4];refine bI (fun l6=>?_) fun l6=>?_;rw[show aM d k t=[t] from by rw[aM,if_neg l4,if_pos l6]];rfl;rw[show aM d k t=[] from by rw[aM,if_neg l4,if_neg l6]];rfl)
def Ss(r:Bool)(q:Nat):Int:=if 0<q then 1 else if r=true then 2 else 0
theorem KK(r:Bool)(q:Nat):Ss r q=0\/Ss r q=1\/Ss r q=2:=by
 unfold Ss;split;exact .inr (.inl rfl);split;exact .inr (.inr rfl);exact .inl rfl
theorem MS{r:Bool}{q:Nat}(h:Ss r q=1):0<q/\True:=by
 unfold Ss at h;split at h;rename_i hc;exact⟨hc,trivial⟩;split at h <;> omega
theorem PG{r:Bool}{q:Nat}(h:Ss r q=2):q=0/\r=true:=by
 unfold Ss at h;split at h;omega;rename_i h1;split at h;rename_i h2;exact⟨Zac,h2⟩;omega
theorem Py{r:Bool}{q:Nat}(h:Ss r q=0):q=0/\r=false:=by
 unfold Ss at h;split at h;omega;rename_i h1;split at h;omega;rename_i h2;exact⟨Zac,Zb4⟩
theorem MY{t:BL}{o:List BL}{r:Bool}{q i b:Nat}(hq:0<q)(hb:b+1=q):eY t (o,r,q) i=(if t.getD i 0=62 then o++[(t.take i).drop b] else o,r,if t.getD i 0=62 then 0 else q):=by
 by_cases h:t.getD i 0=62;rw[MM hq h,if_pos h,if_pos h,show q-1=b from Zac];rw[Nz hq h,if_neg h,if_neg h]
theorem Ov{t:BL}{o:List BL}{i:Nat}:eY t (o,false,0) i=(o,t.getD i 0==40,if t.getD i 0=60 then i+2 else 0):=by
 by_cases h:t.getD i 0=40;rw[NT rfl h,if_neg (by rw[h];decide),h];rfl;by_cases h2:t.getD i 0=60;rw[MH rfl h h2,if_pos h2,h2];rfl;rw[MN rfl h h2,if_neg h2,show (t.getD i 0==40)=false from by simpa using h]
theorem Js{c:UInt8}{r:Bool}{q:Nat}(hr:r=false)(hq:0<q):(if c=62 then (0:Int) else 1)=Ss r (if c=62 then 0 else q):=by
 subst hr;unfold Ss;by_cases h:c=62;simp[h];simp[h,hq]
theorem Jv{c:UInt8}:(if c=41 then (0:Int) else 2)=Ss (!(c==41)) 0:=by
 unfold Ss;by_cases h:c=41;simp[h];simp[h]
theorem JS{c:UInt8}{i:Nat}:(if c=60 then (1:Int) else if c=40 then 2 else 0)=Ss (c==40) (if c=60 then i+2 else 0):=by
 unfold Ss;by_cases h:c=60;simp[h];by_cases h2:c=40;simp[h2];simp[h,h2]
def FY(i:Nat)(c:UInt8)(u v:Nat)(s:Int)(b:Nat):aG:=.mk 223 [iN i,uN c.toNat,kp 1000 u,kp 1001 v] [(1000,(u,iV s)),(1001,(v,iN b))] (i<=1000) (.tup []) [(1000,(u,iV (if c=60 then 1 else if c=40 then 2 else s))),(1001,(v,iN (if c=60 then i+1 else b)))] (by
 intro hi
 refine aA Tryz.func223
  (.q 1<|.q 2<|.br (.q 2<|.st none<|.st none<|.nil) (.q 2<|.br (.st none<|.nil) (.nil)))
  (Br (r4 (c.toNat:Int) 60) (n8 ((i:Int)+1)/\Z u 0/\Z v 0/\Q (.tup []) (.tup [])/\Qr u (iN 1) u (iV (if c=60 then 1 else if c=40 then 2 else s))/\Qr v (iN (i+1)) v (iN (if c=60 then i+1 else b))) (Br (r4 (c.toNat:Int) 40) (Z u 0/\Q (.tup []) (.tup [])/\Qr u (iN 2) u (iV (if c=60 then 1 else if c=40 then 2 else s))/\Qr v (iN b) v (iN (if c=60 then i+1 else b))) (Q (.tup []) (.tup [])/\Qr u (iV s) u (iV (if c=60 then 1 else if c=40 then 2 else s))/\Qr v (iN b) v (iN (if c=60 then i+1 else b))))) ?_
 refine bI (fun l4=>?_) fun l4=>?_;refine bN ⟨?_,by rw[if_pos (c8 (k:=60) l4)] <;> rfl,by rw[if_pos (c8 (k:=60) l4)] <;> rfl⟩;rfl;refine bI (fun l6=>?_) fun l6=>?_;refine⟨rfl,⟨?_,by rw[if_neg (Vd (k:=60) l4),if_pos (c8 (k:=40) l6)] <;> rfl,by rw[if_neg (Vd (k:=60) l4)] <;> rfl⟩⟩;rfl;refine⟨?_,by rw[if_neg (Vd (k:=60) l4),if_neg (Vd (k:=40) l6)] <;> rfl,by rw[if_neg (Vd (k:=60) l4)] <;> rfl⟩;rfl)
def Ht(i:Nat)(c:UInt8)(u v p q:Nat)(o:List BL)(t:BL)(b:Nat)(s:Int):aG:=.mk 224 [iN i,uN c.toNat,kp 1000 u,kp 1001 v,kp 1002 p,kp 1003 q] [(1000,(u,.ow 1 (o.map sV))),(1001,(v,sV t)),(1002,(p,iN b)),(1003,(q,iV s))] ((b<=i)/\(i<=t.length)/\(o.length<=1000)) (.tup []) [(1000,(u,.ow 1 ((if c=62 then o++[(t.take i).drop b] else o).map sV))),(1001,(v,sV t)),(1002,(p,iN b)),(1003,(q,iV (if c=62 then 0 else s)))] (by
 rintro⟨hb,hi,ho⟩
 refine aA Tryz.func224
  (.q 2<|.br (.oR (.key 1000) [] (fun gA oA cA=>.A3 7 [(0,l9 [1000] [10]),(1,l9 [1001] [11]),(2,l9 [1002] [12]),(6,⟨true,[],none,[16],[1000]⟩)]<|.m7<|.m7<|.m7<|.l7 2<|.bs<|.ux none (fun g16 Zd Zz=>.h (.o9 16 (.own 1 ((o++[(t.take i).drop b]).map sV) g16 Zd Zz))<|.st none<|.st none<|.nil))) (.nil))
  ((fun (v2:V) (v1:List V)=>(Br (r4 (c.toNat:Int) 62) (∀ gA oA cA:Nat,Z u 0/\Z v 0/\Z p 0/\Sx (b:Int) (i:Int) t/\(((1,1,gA,oA,cA,(o.map sV).length)=(1,1,gA,oA,cA,(o.map sV).length))/\(V.aK v1=false)/\(aX 1 v1)/\(((o.map sV).length+v1.length)*16<=140737488355328))/\∀ g16 Zd Zz:Nat,((.own 1 ((o.map sV)++v1) g16 Zd Zz:V)=.own 1 ((o++[(t.take i).drop b]).map sV) g16 Zd Zz)/\Z u 0/\Z q 0/\Q (.tup []) (.tup [])/\Qr u (.ow 1 ((o++[(t.take i).drop b]).map sV)) u v2/\Er v (sV t)/\Er p (iN b)/\Qr q (iN 0) q (iV (if c=62 then 0 else s))) (Q (.tup []) (.tup [])/\Qr u (.ow 1 (o.map sV)) u v2/\Er v (sV t)/\Er p (iN b)/\Qr q (iV s) q (iV (if c=62 then 0 else s))))) (.ow 1 ((if c=62 then o++[(t.take i).drop b] else o).map sV)) ([sV ((t.take i).drop b)]:List V)) ?_
 refine bI (fun l4=>?_) fun l4=>?_;intro gA oA cA;refine dM ⟨bN Zal,fun g16 Zd Zz=>⟨Zbm (V.own 1 · g16 Zd Zz) Zad,bJ ⟨?_,by rw[if_pos (c8 (k:=62) l4)] <;> rfl,bJ (by rw[if_pos (c8 (k:=62) l4)] <;> rfl)⟩⟩⟩;rfl;refine⟨?_,by rw[if_neg (Vd (k:=62) l4)] <;> rfl,bJ (by rw[if_neg (Vd (k:=62) l4)] <;> rfl)⟩;rfl)
def Ji(i:Nat)(c:UInt8)(u:Nat)(s:Int):aG:=.mk 225 [iN i,uN c.toNat,kp 1000 u] [(1000,(u,iV s))] True (.tup []) [(1000,(u,iV (if c=41 then 0 else s)))] (by
 intro _
 refine aA Tryz.func225
  (.q 2<|.br (.st none<|.nil) (.nil))
  (Br (r4 (c.toNat:Int) 41) (Z u 0/\Q (.tup []) (.tup [])/\Qr u (iN 0) u (iV (if c=41 then 0 else s))) (Q (.tup []) (.tup [])/\Qr u (iV s) u (iV (if c=41 then 0 else s)))) ?_
 refine bI (fun l4=>?_) fun l4=>?_;refine⟨rfl,⟨?_,by rw[if_pos (c8 (k:=41) l4)] <;> rfl⟩⟩;rfl;refine⟨?_,by rw[if_neg (Vd (k:=41) l4)] <;> rfl⟩;rfl)
def oc(t:BL):aG:=.mk 216 [sV t] [] (t.length<=4611686018427387904) (aJ (aL t)) [] (by
 intro ht
 refine aA Tryz.func216
  (.bx (fun g1=>.q 1<|.r 3 [.c9]<|.br (.q 1<|.nil) (.al PD (fun g3=>.al zt3 (fun g4=>.al zt3 (fun g5=>.st none<|.st none<|.al Pn (fun g6=>.cu Vq (fun _=>.q 1<|.st none<|.cu Vq (fun _=>.q 1<|.st none<|.cu Vq (fun _=>.q 1<|.st none<|.q 1<|.h (.s7 (.key 3) [] 1)<|.loop (Nat×(List BL)×Bool×Nat×Int×Nat) (fun (i,o,r,q,s,b)=>⟨[(1,kp 1 g1),(3,kp 3 g3),(4,kp 4 g4),(5,kp 5 g5),(6,kp 6 g6),(7,iN i)],[(1,(g1,sV t)),(3,(g3,.ow 1 (o.map sV))),(4,(g4,iV s)),(5,(g5,iN b)),(6,(g6,.agg [.lit (.func (.func 223) #[] #[.pointer (some ⟨g4,0,none⟩),.pointer (some ⟨g5,0,none⟩)]),.lit (.func (.func 224) #[] #[.pointer (some ⟨g3,0,none⟩),.pointer (some ⟨g1,0,none⟩),.pointer (some ⟨g5,0,none⟩),.pointer (some ⟨g4,0,none⟩)]),.lit (.func (.func 225) #[] #[.pointer (some ⟨g4,0,none⟩)])]))]⟩) (fun (i,o,r,q,s,b)=>i<=t.length/\da t i=(o,r,q)/\s=Ss r q/\(0<q->b+1=q)) (fun (i,o,r,q,s,b)=>t.length-i) (fun (i,o,r,q,s,b)=>.r 2 [.c9]<|.sp (r4 s 1) (.h (.o8 4 (iV 1))<|.l7 2<|.br (.A3 7 [(0,l9 [4] [23]),(2,l9 [6] [25]),(4,l9 [1] [27])]<|.m7<|.q 1<|.m7<|.q 1<|.m7<|.l7 2<|.c (Ht i (t.getD i 0) g3 g1 g5 g4 o t b (1:Int)) [(1000,3),(1001,1),(1002,5),(1003,4)]<|.q 3<|.nil) (.oR (.key 3) [] (fun gE oE cE=>.mv<|.h (.fz 31)<|.h (.o9 31 (aJ o))<|.q 1<|.nil))) (.q 1<|.sp (r4 s 2) (.h (.o8 4 (iV 2))<|.q 1<|.br (.A3 7 [(0,l9 [4] [23]),(2,l9 [6] [25]),(4,l9 [1] [27])]<|.m7<|.q 1<|.m7<|.q 1<|.m7<|.l7 2<|.c (Ji i (t.getD i 0) g4 (2:Int)) [(1000,4)]<|.q 3<|.nil) (.oR (.key 3) [] (fun gE oE cE=>.mv<|.h (.fz 31)<|.h (.o9 31 (aJ o))<|.q 1<|.nil))) (.h (.o8 4 (iV 0))<|.q 1<|.br (.A3 7 [(0,l9 [4] [23]),(2,l9 [6] [25]),(4,l9 [1] [27])]<|.m7<|.q 1<|.m7<|.q 1<|.m7<|.l7 2<|.c (FY i (t.getD i 0) g4 g5 (0:Int) b) [(1000,4),(1001,5)]<|.q 3<|.nil) (.oR (.key 3) [] (fun gE oE cE=>.mv<|.h (.fz 31)<|.h (.o9 31 (aJ o))<|.q 1<|.nil)))))))))))))))
  (∀ g1:Nat,(fun v1:V=>Z g1 0/\Br (s9 (t.length:Int) 300) (Q (.sl false []) (aJ (aL t))) (∀ g3:Nat,(fun v2:V=> ∀ g4:Nat,(fun v3:V=> ∀ g5:Nat,(fun (v5 v4:V)=>Z g4 0/\Z g5 0/\∀ g6:Nat,(fun v6:V=>((Value.func (.func 223) #[] #[.pointer (some ⟨g4,0,none⟩),.pointer (some ⟨g5,0,none⟩)]).oneCell'=true)/\∀ _:Unit,((0:Int)<=0/\(0:Int)<3)/\Z g6 0/\((Value.func (.func 224) #[] #[.pointer (some ⟨g3,0,none⟩),.pointer (some ⟨g1,0,none⟩),.pointer (some ⟨g5,0,none⟩),.pointer (some ⟨g4,0,none⟩)]).oneCell'=true)/\∀ _:Unit,((0:Int)<=1/\(1:Int)<3)/\Z g6 1/\((Value.func (.func 225) #[] #[.pointer (some ⟨g4,0,none⟩)]).oneCell'=true)/\∀ _:Unit,((0:Int)<=2/\(2:Int)<3)/\Z g6 2/\(∃ x:Nat×(List BL)×Bool×Nat×Int×Nat,match x with | (j7,A6,Rt,D0,Vk,H2)=>(j7<=t.length/\da t j7=(A6,Rt,D0)/\Vk=Ss Rt D0/\(0<D0->H2+1=D0))/\E v1/\E v2/\E v3/\E v5/\E v6/\Q (iN 0) (iN j7)/\Er g1 (sV t)/\Qr g3 (.ow 1 ([].map sV)) g3 (.ow 1 (A6.map sV))/\Qr g4 (iN 0) g4 (iV Vk)/\Qr g5 (iN 0) g5 (iN H2)/\Er g6 v4/\True)/\∀ x:Nat×(List BL)×Bool×Nat×Int×Nat,match x with | (i,o,r,q,s,b)=>(i<=t.length/\da t i=(o,r,q)/\s=Ss r q/\(0<q->b+1=q))->(fun (v8:Bool) (v7:V)=>Z g1 0/\((r4 s 1)=true->((iV s:V)=iV 1)/\Br v8 (Z g4 0/\((0:Int)<=1/\(1:Int)<3)/\Z g6 1/\Z g1 0/\Ix (i:Int) t/\(Ht i (t.getD i 0) g3 g1 g5 g4 o t b (1:Int)).sm/\Er g3 (.ow 1 (o.map sV))/\Er g1 (sV t)/\Er g5 (iN b)/\Er g4 (iV (1:Int))/\((b<=i)/\(i<=t.length)/\(o.length<=1000))/\n8 ((i:Int)+1)/\∃ x:Nat×(List BL)×Bool×Nat×Int×Nat,match x with | (e9,o5,K1,s8,Rs,x7)=>(e9<=t.length/\da t e9=(o5,K1,s8)/\Rs=Ss K1 s8/\(0<s8->x7+1=s8))/\(t.length-e9<t.length-i)/\E v1/\E v2/\E v3/\E v5/\E v6/\Q (iN (i+1)) (iN e9)/\Er g1 (sV t)/\Qr g3 (.ow 1 ((if (t.getD i 0)=62 then o++[(t.take i).drop b] else o).map sV)) g3 (.ow 1 (o5.map sV))/\Qr g4 (iV (if (t.getD i 0)=62 then 0 else (1:Int))) g4 (iV Rs)/\Qr g5 (iN b) g5 (iN x7)/\Er g6 v4/\True) (∀ gE oE cE:Nat,Z g3 0/\(v7=aJ o)/\Q (aJ o) (aJ (aL t))))/\((r4 s 1)=false->((r4 s 2)=true->((iV s:V)=iV 2)/\Br v8 (Z g4 0/\((0:Int)<=2/\(2:Int)<3)/\Z g6 2/\Z g1 0/\Ix (i:Int) t/\(Ji i (t.getD i 0) g4 (2:Int)).sm/\Er g4 (iV (2:Int))/\(True)/\n8 ((i:Int)+1)/\∃ x:Nat×(List BL)×Bool×Nat×Int×Nat,match x with | (e9,o5,K1,s8,Rs,x7)=>(e9<=t.length/\da t e9=(o5,K1,s8)/\Rs=Ss K1 s8/\(0<s8->x7+1=s8))/\(t.length-e9<t.length-i)/\E v1/\E v2/\E v3/\E v5/\E v6/\Q (iN (i+1)) (iN e9)/\Er g1 (sV t)/\Qr g3 (.ow 1 (o.map sV)) g3 (.ow 1 (o5.map sV))/\Qr g4 (iV (if (t.getD i 0)=41 then 0 else (2:Int))) g4 (iV Rs)/\Qr g5 (iN b) g5 (iN x7)/\Er g6 v4/\True) (∀ gE oE cE:Nat,Z g3 0/\(v7=aJ o)/\Q (aJ o) (aJ (aL t))))/\((r4 s 2)=false->((iV s:V)=iV 0)/\Br v8 (Z g4 0/\((0:Int)<=0/\(0:Int)<3)/\Z g6 0/\Z g1 0/\Ix (i:Int) t/\(FY i (t.getD i 0) g4 g5 (0:Int) b).sm/\Er g4 (iV (0:Int))/\Er g5 (iN b)/\((i<=1000))/\n8 ((i:Int)+1)/\∃ x:Nat×(List BL)×Bool×Nat×Int×Nat,match x with | (e9,o5,K1,s8,Rs,x7)=>(e9<=t.length/\da t e9=(o5,K1,s8)/\Rs=Ss K1 s8/\(0<s8->x7+1=s8))/\(t.length-e9<t.length-i)/\E v1/\E v2/\E v3/\E v5/\E v6/\Q (iN (i+1)) (iN e9)/\Er g1 (sV t)/\Qr g3 (.ow 1 (o.map sV)) g3 (.ow 1 (o5.map sV))/\Qr g4 (iV (if (t.getD i 0)=60 then 1 else if (t.getD i 0)=40 then 2 else (0:Int))) g4 (iV Rs)/\Qr g5 (iN (if (t.getD i 0)=60 then i+1 else b)) g5 (iN x7)/\Er g6 v4/\True) (∀ gE oE cE:Nat,Z g3 0/\(v7=aJ o)/\Q (aJ o) (aJ (aL t)))))) (s4 (i:Int) (t.length:Int)) (.sl false (V.G4 (o.map sV)):V)) (kp 6 g6)) (kp 5 g5) (.agg [.lit (.func (.func 223) #[] #[.pointer (some ⟨g4,0,none⟩),.pointer (some ⟨g5,0,none⟩)]),.lit (.func (.func 224) #[] #[.pointer (some ⟨g3,0,none⟩),.pointer (some ⟨g1,0,none⟩),.pointer (some ⟨g5,0,none⟩),.pointer (some ⟨g4,0,none⟩)]),.lit (.func (.func 225) #[] #[.pointer (some ⟨g4,0,none⟩)])])) (kp 4 g4)) (kp 3 g3))) (kp 1 g1)) ?_
 intro g1;refine⟨rfl,bI (fun l4=>?_) fun l4=>?_⟩;rw[show aL t=[] from if_neg Zac];rfl;intro g3;intro g4;intro g5;refine bJ fun g6=>⟨rfl,fun _=>bN fun _=>bN fun _=>bJ ⟨⟨(0,[],false,0,0,0),?_,jB ⟨Zah,aI⟩⟩,?_⟩⟩;exact⟨Zac,rfl,rfl,fun h=>absurd h Zaf⟩;rintro⟨i,o,r,q,s,b⟩ ⟨h1,h2,h3,h4⟩;have WN:=xg t i;rw[h2]at WN;have UX:=WN.len;have YJ:=WN.pos;have hm4:=WN.one;simp only at UX YJ hm4;have I2:=KK r q;refine⟨rfl,⟨fun Uk=>?_,fun Uk=>?_⟩⟩;have Up:=Uk;try simp only[nb]at Up
 refine⟨Zbm iV Zac,bI (fun l6=>?_) fun l6=>?_⟩;refine bJ (jB ⟨⟨by have hz1:=MS (h3.symm.trans Zac);have Ua:=h4 hz1.1;omega,aI⟩,az ⟨(i+1,if (t.getD i 0)=62 then o++[(t.take i).drop b] else o,r,if (t.getD i 0)=62 then 0 else q,if (t.getD i 0)=62 then 0 else (1:Int),b),?_,?_,aI⟩⟩);obtain⟨YB,Un⟩:=MS (h3.symm.trans Zac);exact⟨Zac,by rw[show da t (i+1)=eY t (da t i) i from rfl,h2,MY YB (h4 YB)],(Js (hm4 YB) YB),fun hq=>by split at hq;omega;rw[if_neg (by assumption)];exact h4 YB⟩;exact Zak;intro gE oE cE;refine⟨rfl,Zcf,?_⟩;rw[show aL t=o from by rw[show aL t=(da t t.length).1 from if_pos Zac,show t.length=i from Zac,h2]];have Up:=Uk;try simp only[nb]at Up
 refine⟨fun Uj=>?_,fun Uj=>?_⟩;have Uo:=Uj;try simp only[nb]at Uo
 refine⟨Zbm iV Zac,bI (fun n9=>?_) fun n9=>?_⟩;refine az (jB ⟨(i+1,o,!((t.getD i 0)==41),0,if (t.getD i 0)=41 then 0 else (2:Int),b),?_,?_,aI⟩);obtain⟨rfl,rfl⟩:=PG (h3.symm.trans Zac);exact⟨Zac,by rw[show da t (i+1)=eY t (da t i) i from rfl,h2,MZ rfl],Jv,fun hq=>absurd hq Zac⟩;exact Zak;intro gE oE cE;refine⟨rfl,Zcf,?_⟩;rw[show aL t=o from by rw[show aL t=(da t t.length).1 from if_pos Zac,show t.length=i from Zac,h2]];have Uo:=Uj;try simp only[nb]at Uo
 refine⟨Zbm iV Zac,bI (fun B6=>?_) fun B6=>?_⟩;refine bJ (jB ⟨(i+1,o,(t.getD i 0)==40,if (t.getD i 0)=60 then i+2 else 0,if (t.getD i 0)=60 then 1 else if (t.getD i 0)=40 then 2 else (0:Int),if (t.getD i 0)=60 then i+1 else b),?_,?_,aI⟩);obtain⟨rfl,rfl⟩:=Py (h3.symm.trans Zac);exact⟨Zac,by rw[show da t (i+1)=eY t (da t i) i from rfl,h2,Ov],JS,fun hq=>by split at hq;rw[if_pos (by assumption),if_pos (by assumption)];omega⟩;exact Zak;intro gE oE cE;refine⟨rfl,Zcf,?_⟩;rw[show aL t=o from by rw[show aL t=(da t t.length).1 from if_pos Zac,show t.length=i from Zac,h2]])
def Yh(c:UInt8):Bool:=fR c||(c==37||ox.contains c)
theorem rM(b:UInt8):(hZ b).all Yh=true:=by
 unfold hZ;split;rename_i h;simp[Yh,h];unfold iB;have h1:b.toNat / 16<16:=by have:=b.toNat_lt;omega
 have h2:b.toNat % 16<16:=Zac;have hf:∀ k,k<16->Yh (ox.getD k 0)=true:=Zaf;simp only[List.all_cons,List.all_nil,Bool.and_true,Zao];exact⟨Zaf,hf _ h1,hf _ h2⟩
theorem yv:∀ (s:BL) {x:BL},dW s=some x->x.all Yh=true
 | [],x,h=>by simp[dW]at h;subst h;rfl
 | [c],x,h=>by
   simp only[dW]at h;split at h;simp at h;simp only[Zan]at h;subst h;exact rM c
 | [c,d],x,h=>by
   simp only[dW]at h;split at h;simp at h;simp only[Zan]at h;subst h;rw[List.all_append,rM,rM];rfl
 | c::a::b::r,x,h=>by
   simp only[dW]at h;split at h;split at h;simp only[Option.map_eq_some_iff]at h;obtain⟨y,hy,rfl⟩:=h;rw[List.all_append,rM,yv r hy];rfl;simp at h;simp only[Option.map_eq_some_iff]at h;obtain⟨y,hy,rfl⟩:=h;rw[List.all_append,rM,yv (a::b::r) hy];rfl
theorem rN{s:BL}(h:iA s=true):s.all Yh=true/\ia s=s/\iS s=true:=by
 unfold iA at h;simp only[Zao,Zbl]at h;refine⟨?_,h.2,h.1⟩;have h1:=h.1;have h2:=h.2;unfold dp at h1 h2;split at h1;rename_i hl;rw[if_pos hl]at h2;cases e:dW s with
 | none=>rw[e]at h1;cases h1
 | some x=>rw[e]at h2;rw[<- h2];exact yv s e
 cases h1
theorem Ni:∀ c:UInt8,Yh c=true->c.toNat<128/\c≠47/\c≠63/\c≠35:=by
 intro c h;unfold Yh fR at h;simp only[Bool.or_eq_true,Zbk,Zbl]at h;have e:∀ k:UInt8,c=k↔c.toNat=k.toNat:=fun k=>UInt8.toNat_inj.symm;have hf:ox.contains c=true->(48<=c.toNat/\c.toNat<=57)\/(65<=c.toNat/\c.toNat<=70):=by
  intro hc;simp only[ox,List.contains_cons,List.contains_nil,Bool.or_eq_true,Zbl,e,Bool.or_false]at hc;simp only[show (48:UInt8).toNat=48 from rfl,show (49:UInt8).toNat=49 from rfl,show (50:UInt8).toNat=50 from rfl,show (51:UInt8).toNat=51 from rfl,show (52:UInt8).toNat=52 from rfl,show (53:UInt8).toNat=53 from rfl,show (54:UInt8).toNat=54 from rfl,show (55:UInt8).toNat=55 from rfl,show (56:UInt8).toNat=56 from rfl,show (57:UInt8).toNat=57 from rfl,show (65:UInt8).toNat=65 from rfl,show (66:UInt8).toNat=66 from rfl,show (67:UInt8).toNat=67 from rfl,show (68:UInt8).toNat=68 from rfl,show (69:UInt8).toNat=69 from rfl,show (70:UInt8).toNat=70 from rfl]at hc;omega
 have h37:c=37->c.toNat=37:=fun h=>by rw[h];rfl
 have hb:(97<=c.toNat/\c.toNat<=122)\/(48<=c.toNat/\c.toNat<=57)\/c.toNat=46\/c.toNat=45\/c.toNat=37\/(65<=c.toNat/\c.toNat<=70):=by
  rcases h with h | h | h;omega;have:=h37 h;omega;have:=hf h;omega
 refine⟨Zac,?_,?_,?_⟩ <;> (intro hc;have:=(e _).1 hc;simp only[show (47:UInt8).toNat=47 from rfl,show (63:UInt8).toNat=63 from rfl,show (35:UInt8).toNat=35 from rfl]at this;omega)
theorem yP{c:UInt8}:∀ {s:BL},(∀ x,x∈s->x≠c)->aj c s=(s,[],false)
 | [],_=>rfl
 | x::r,h=>by
   simp only[aj,if_neg (h x Zad),yP (s:=r) (fun y hy=>h y (by simp[hy]))]
theorem CW{c:UInt8}{r:BL}:∀ {s:BL},(∀ x,x∈s->x≠c)->aj c (s++c::r)=(s,r,true)
 | [],_=>by simp[aj]
 | x::s,h=>by
   rw[List.cons_append];simp only[aj,if_neg (h x Zad),CW (s:=s) (r:=r) (fun y hy=>h y (by simp[hy]))]
theorem AI{c:UInt8}:∀ {s:BL},(∀ x,x∈s->x≠c)->ao c s=[s]
 | [],_=>rfl
 | x::r,h=>by
   simp only[ao,if_neg (h x Zad),AI (s:=r) (fun y hy=>h y (by simp[hy]))];rfl
theorem tU{c:UInt8}{r:BL}:∀ {s:BL},(∀ x,x∈s->x≠c)->ao c (s++c::r)=s::ao c r
 | [],_=>by simp[ao]
 | x::s,h=>by
   rw[List.cons_append];simp only[ao,if_neg (h x Zad),tU (s:=s) (r:=r) (fun y hy=>h y (by simp[hy]))];rfl
theorem zQ:∀ {ps:List BL},ps≠[]->(∀ p,p∈ps->∀ x,x∈p->x≠47)->ao 47 (dR ps)=ps
 | [],h,_=>absurd rfl h
 | [p],_,h=>AI (h p Zad)
 | p::q::r,_,h=>by
   show ao 47 (p++[47]++dR (q::r))=_;rw[List.append_assoc];show ao 47 (p++47::dR (q::r))=_;rw[tU (h p Zad),zQ Zad fun y hy=>h y (by simp[hy])]
theorem yf:∀ (ps:List BL) {o:List BL},(∀ p,p∈ps->iY p=true)->ps.foldl eC o=o++ps
 | [],o,_=>by simp
 | p::ps,o,h=>by
   have hp:=h p Zad;unfold iY at hp;simp only[Zao,Bool.not_eq_true',beq_eq_false_iff_ne]at hp;have e:eC o p=o++[p]:=by
    unfold eC;rw[if_neg (by rintro (c | c);exact hp.1.1.2 c;exact hp.1.2 c),if_neg hp.2]
   rw[List.foldl_cons,e,yf ps fun q hq=>h q (by simp[hq])];simp
theorem lb{a:B9}(h:bu a=true):dg a.l5=true/\a.j8.length<=5/\iA a.ask=true/\(a.asks=true\/a.ask=[])/\(∀ p,p∈a.j8->iY p=true)/\(ew a).length<=60:=by
 unfold bu at h;simp only[Zao,Zbk,Bool.or_eq_true,Zbl,Za2]at h;exact⟨h.1.1.1.1.1,h.1.1.1.1.2,h.1.1.1.2,h.1.1.2,h.1.2,h.2⟩
theorem nL{p:BL}(h:iY p=true):iA p=true:=by
 unfold iY at h;simp only[Zao]at h;exact h.1.1.1
theorem Cl{s:BL}(h:dg s=true):∀ c,c∈s->97<=c.toNat/\c.toNat<=122:=by
 unfold dg jv at h;simp only[Zao]at h;intro c hc;have:=Za2.1 h.1 c hc;unfold og at this;simpa using this
theorem xL{p:BL}(h:iA p=true):∀ c,c∈p->c.toNat<128/\c≠47/\c≠63/\c≠35:=fun c hc=>Ni c (Za2.1 (rN h).1 c hc)
theorem EI{ps:List BL}{k:UInt8}(hk:k≠47):(∀ p,p∈ps->∀ x,x∈p->x≠k)->∀ x,x∈dR ps->x≠k:=by
 induction ps with
 | nil=>intro _ x hx;simp[dR]at hx
 | cons p ps ih=>
   intro h x hx;cases ps with
   | nil=>exact h p Zad x hx
   | cons q r=>
     simp only[dR,Zax]at hx;rcases hx with (hx | hx) | hx;exact h p Zad x hx;rw[Zav.1 hx];exact fun c=>hk c.symm;exact ih (fun y hy=>h y (by simp[hy])) x hx
theorem Kz{a:B9}(h:bu a=true):dE a.l5 [] (cO a)=some a:=by
 obtain⟨h1,h2,h3,h4,h5,h6⟩:=lb h;have hj:∀ x,x∈([47]++dR a.j8:BL)->x≠63:=by
  intro x hx;rcases Zax.1 hx with hx | hx;rw[Zav.1 hx];decide;exact EI Zaf (fun p hp x hx=>(xL (nL (h5 p hp)) x hx).2.2.1) x hx
 have Rw:aj 63 (cO a)=([47]++dR a.j8,a.ask,a.asks):=by
  unfold cO;cases e:a.asks with
  | true=>
    rw[if_pos rfl];exact CW hj
  | false=>
    rw[if_neg Zaf,List.append_nil,yP hj];rcases h4 with c | c;rw[e]at c;cases c;rw[c]
 have hs:ao 47 ([47]++dR a.j8)=[]::(if a.j8=[] then [[]] else a.j8):=by
  show ao 47 ([]++47::dR a.j8)=_;rw[tU Zad];split;rename_i e;rw[e];rfl;rename_i e;rw[zQ e fun p hp x hx=>(xL (nL (h5 p hp)) x hx).2.1]
 have hmem:∀ p,p∈ao 47 ([47]++dR a.j8)->p=[]\/p∈a.j8:=by
  intro p hp;rw[hs]at hp;rcases List.mem_cons.1 hp with hp | hp;exact .inl hp;split at hp;exact .inl (Zav.1 hp);exact .inr hp
 have Z9:ia []=[]/\iS []=true:=Zaf;have PQ:(ao 47 (aj 63 (cO a)).1).all iS=true:=by
  rw[Rw];rw[Za2];intro p hp;rcases hmem p hp with rfl | hp;exact Z9.2;exact(rN (nL (h5 p hp))).2.2
 have hmap:(ao 47 (aj 63 (cO a)).1).map ia=ao 47 ([47]++dR a.j8):=by
  rw[Rw];have:∀ p,p∈ao 47 ([47]++dR a.j8)->ia p=p:=fun p hp=>by
   rcases hmem p hp with rfl | hp;exact Z9.1;exact(rN (nL (h5 p hp))).2.1
  exact(List.map_congr_left this).trans (List.map_id _)
 have hcl:dq ([]++ao 47 ([47]++dR a.j8))=a.j8:=by
  rw[List.nil_append,hs];unfold dq;rw[List.foldl_cons];have e0:eC [] []=[]:=rfl;rw[e0];split;rename_i e;rw[e];rfl;rw[yf _ h5];rfl
 have ha:(⟨a.l5,a.j8,a.asks,a.ask⟩:B9)=a:=rfl;unfold dE;rw[PQ,hmap,Rw,(rN h3).2.2,(rN h3).2.1,hcl];exact(if_pos rfl).trans (if_pos h)
theorem HG{p:UInt8->Bool}{s r:BL}(h:∀ c,c∈s->p c=true)(hr:∀ c r',r=c::r'->p c=false):(s++r).takeWhile p=s/\(s++r).dropWhile p=r:=by
 induction s with
 | nil=>
   cases r with
   | nil=>exact⟨rfl,rfl⟩
   | cons c r'=>have:=hr c r' rfl;simp[this]
 | cons c s ih=>
   obtain⟨q1,q2⟩:=ih fun d hd=>h d (by simp[hd]);have:=h c Zad;simp[this,q1,q2]
theorem IJ{s:BL}(h:∀ c,c∈s->97<=c.toNat/\c.toNat<=122):cZ s=s:=by
 unfold cZ;have:∀ c,c∈s->fE c=c:=fun c hc=>by unfold fE;rw[if_neg (by have:=h c hc;omega)]
 exact(List.map_congr_left this).trans (List.map_id _)
theorem GP{a:B9}(h:bu a=true):fj (a.l5++cO a)=some a:=by
 obtain⟨h1,_⟩:=lb h;have hl:=Cl h1;obtain⟨q1,q2⟩:=HG (p:=mS) (s:=a.l5) (r:=cO a) (fun c hc=>by have:=hl c hc;unfold mS;rw[Zbk];omega) (fun c r' e=>by
  have:c=47:=by unfold cO at e;simp at e;exact e.1.symm
  rw[this];decide)
 unfold fj;rw[q1,q2,IJ hl,Kz h]
theorem Aw{a:B9}(h:bu a=true):∀ c,c∈ew a->c.toNat<128/\c≠35:=by
 obtain⟨h1,h2,h3,h4,h5,h6⟩:=lb h;intro c hc;unfold ew cO at hc;simp only[Zax]at hc;have h47:∀ c:UInt8,c=47->c.toNat<128/\c≠35:=fun c e=>by rw[e];decide
 rcases hc with (hc | hc) | ((hc | hc) | hc);refine h47 c ?_;simpa using hc;have:=Cl h1 c hc;exact⟨Zac,fun e=>by rw[e]at this;exact absurd this Zaf⟩;refine h47 c ?_;simpa using hc;exact⟨by
  have:w7 (dR a.j8):=wA fun x hx d hd=>(xL (nL (h5 x hx)) d hd).1;exact this c hc,EI Zaf (fun p hp x hx=>(xL (nL (h5 p hp)) x hx).2.2.2) c hc⟩
 split at hc;rcases Zax.1 hc with hc | hc;rw[Zav.1 hc];decide;exact⟨(xL h3 c hc).1,(xL h3 c hc).2.2.2⟩;simp at hc
theorem wG{a:B9}(h:bu a=true):aT (ew a)=some a:=by
 have hc:=yP (c:=35) (s:=ew a) fun x hx=>(Aw h x hx).2;unfold aT;rw[hc];rw[if_pos ⟨(lb h).2.2.2.2.2,by unfold ew;simp,by unfold ew;simp⟩];show fj ((ew a).drop 2)=_;rw[show (ew a).drop 2=a.l5++cO a from by unfold ew;simp,GP h]
theorem Gn{a:B9}(h:bu a=true):aq (ew a)=true:=Bx (by rw[wG h];rfl) (by rw[wG h];rfl)
theorem rq(a:B9):w7 (cF a):=by
 unfold cF;split;rename_i h;exact fun c hc=>(Aw h c hc).1;exact cD
theorem IV{m:BL}{b:UInt8}(hb:b≠0):(!(m==[])&&r4 (((m.getD 0 0).toNat:Nat):Int) ((b.toNat:Nat):Int))=(dF m==b):=by
 unfold dF r4;rw[b8];cases m with
 | nil=>
   show false=_;symm;rw[beq_eq_false_iff_ne];intro c;exact hb (UInt8.toNat_inj.1 (by have:((0:UInt8).toNat:Int)=(b.toNat:Int):=c;omega))
 | cons x r=>rfl
theorem HT{m:BL}(h:dF m=64):1<=m.length:=by
 cases m with
 | nil=>exact absurd h Zaf
 | cons a r=>simp
theorem Ir{m:BL}:ij m=true↔¬ dF m=33/\¬ dF m=64:=by
 unfold ij;simp
theorem OY{s:BL}(h:iE s [47,47]=true):2<=s.length/\s.take 2=[47,47]:=xz.1 h
theorem CJ{s:BL}(h:iE s [47,47]=false): ¬ (2<=s.length/\s.take 2=[47,47]):=fun c=>by rw[(xz (s:=s) (p:=[47,47])).2 c]at h;cases h
theorem JB{t:BL}(h:w7 t):w7 ((bW t).getD []):=by
 cases e:bW t with
 | none=>exact cD
 | some r=>exact fun c hc=>h c ((FV e).2 c hc)
theorem JN{t:BL}(h:w7 t)(i:Nat):w7 ((bD t).getD i []):=by
 rw[Zam];cases e:(bD t)[i]? with
 | none=>exact cD
 | some x=>exact fun c hc=>h c (((uu t).2 x (Za7 e)).2 c hc)
theorem MD{b:B9}{o:List BL}{m:BL}(h:(O' b m).isSome=true)(h2: ¬ cF (oA (O' b m))∈o):fg b o m=o++[cF (oA (O' b m))]:=by
 unfold fg nZ;rw[if_pos h,if_neg Zb4]
theorem Nu{b:B9}{o:List BL}{m:BL}(h:(O' b m).isSome=true)(h2:cF (oA (O' b m))∈o):fg b o m=o:=by
 unfold fg nZ;rw[if_pos h,if_pos Zb4]
theorem we(d:BL):dQ (oA (bM d)):=by
 unfold bM;split;exact lT d;exact vS
def pn(m:BL)(b:UInt8):aG:=.mk 217 [sV m,uN b.toNat] [] (b≠0) (bV (dF m==b)) [] (by
 intro hb
 refine aA Tryz.func217
  (.q 1<|.q 9<|.nil)
  (Gd ((!(m==[]))==true) (Ix 0 m)/\Pk (!(m==[])) ((!(m==[]))==true) true/\Q (bV ((!(m==[]))&&(r4 (((m.getD 0 0).toNat:Nat):Int) (b.toNat:Int)))) (bV (dF m==b))) ?_
 refine⟨fun hG=>by(try simp only[nb]at hG);have:=List.length_pos_iff.2 (by simpa using hG);omega,az ?_⟩;unfold Q;refine Zbm bV ?_;exact IV hb)
abbrev ku(t:BL)(i:Nat):Prop:=i<=(aL t).length/\∀ j,j<i->(dF ((aL t).getD j [])==64)=false
def xX(t:BL):aG:=.mk 197 [sV t] [] (t.length<=4611686018427387904) (.tup [sV ((bW t).getD []),bV ((bW t).isSome)]) [] (by
 intro ht;obtain⟨UX,TF⟩:=oV t
 refine aA Tryz.func197
  (.q 2<|.q 1<|.c (oc t) []<|.q 2<|.loop Nat (fun i=>⟨[(7,aJ (aL t)),(8,iN ((aL t).length)),(9,iN i)],[]⟩) (fun i=>ku t i) (fun i=>(aL t).length-i) (fun i=>.q 1<|.br (.r 3 [sV ((aL t).getD i [])]<|.q 1<|.c (pn ((aL t).getD i []) (64:UInt8)) []<|.br (.q 4<|.nil) (.q 2<|.nil)) (.q 2<|.nil)))
  ((fun v1:V=>((oc t).sm/\((t.length<=4611686018427387904))/\(∃ j7:Nat,(ku t j7)/\E (aJ (aL t))/\Q (iN (((aL t).map sV).length)) (iN ((aL t).length))/\Q (iN 0) (iN j7)/\True)/\∀ i:Nat,(ku t i)->Br (s4 (i:Int) (((aL t).length:Nat):Int)) (Ex (i:Int) ((aL t).map sV) (sV ((aL t).getD i []))/\True/\(pn ((aL t).getD i []) (64:UInt8)).sm/\(((64:UInt8)≠0))/\Br (dF ((aL t).getD i [])==(64:UInt8)) (Sx (1:Int) (((aL t).getD i []).length:Int) ((aL t).getD i [])/\Q (.tup [sV ((((aL t).getD i []).take ((aL t).getD i []).length).drop 1),bV true]) v1) (n8 ((i:Int)+1)/\∃ e9:Nat,(ku t e9)/\((aL t).length-e9<(aL t).length-i)/\E (aJ (aL t))/\E (iN ((aL t).length))/\Q (iN (i+1)) (iN e9)/\True)) (Q (.tup [sV [],bV false]) v1))) (.tup [sV ((bW t).getD []),bV ((bW t).isSome)])) ?_
 refine bJ ⟨⟨0,?_,rfl,Zah,aI⟩,?_⟩;unfold ku;simp;rintro i ⟨h1,h2⟩;refine bI (fun l4=>?_) fun l4=>?_;refine⟨Zcg,trivial,rfl,Zaf,bI (fun l6=>?_) fun l6=>?_⟩;refine⟨by have:=HT (m:=(aL t).getD i []) Zci;omega,?_⟩;rw[show bW t=some (((aL t).getD i []).drop 1) from by rw[bW,Bn (i:=i) (d:=[]) Zac Zci h2];rfl,List.take_length];rfl;refine az ⟨i+1,?_,?_,aI⟩;unfold ku;exact⟨Zac,Zdy⟩;exact Zak;rw[show bW t=none from by rw[bW,EK (d:=[]) (fun j hj=>h2 j Zac)];rfl];rfl)
def wD(t:BL):aG:=.mk 199 [sV t] [] (t.length<=4611686018427387904) (aJ (bD t)) [] (by
 intro ht;obtain⟨UX,TF⟩:=oV t
 refine aA Tryz.func199
  (.l7 3<|.c (oc t) []<|.q 2<|.h (.O8 3 1)<|.loop (Nat×(List BL)×Nat×Nat×Nat) (fun (i,o,g,f,k)=>⟨[(3,.own 1 (o.map sV) g f k),(7,aJ (aL t)),(8,iN ((aL t).length)),(9,iN i)],[]⟩) (fun (i,o,g,f,k)=>i<=(aL t).length/\o=((aL t).take i).filter ij/\o.length<=i) (fun (i,o,g,f,k)=>(aL t).length-i) (fun (i,o,g,f,k)=>.q 1<|.br (.r 3 [sV ((aL t).getD i [])]<|.q 1<|.c (pn ((aL t).getD i []) (33:UInt8)) []<|.q 3<|.cg (pn ((aL t).getD i []) (64:UInt8))<|.q 2<|.br (.q 2<|.bs<|.ap (fun g24 K3 K4=>.h (.o9 24 (.own 1 ((o++[((aL t).getD i [])]).map sV) g24 K3 K4))<|.q 1<|.q 2<|.nil)) (.q 2<|.nil)) (.h (.fz 3)<|.h (.o9 3 (aJ o))<|.q 2<|.nil)))
  ((oc t).sm/\((t.length<=4611686018427387904))/\(∃ x:Nat×(List BL)×Nat×Nat×Nat,match x with | (j7,A6,E2,G9,m9)=>(j7<=(aL t).length/\A6=((aL t).take j7).filter ij/\A6.length<=j7)/\Q (.own 1 ([].map sV) 0 0 0) (.own 1 (A6.map sV) E2 G9 m9)/\E (aJ (aL t))/\Q (iN (((aL t).map sV).length)) (iN ((aL t).length))/\Q (iN 0) (iN j7)/\True)/\∀ x:Nat×(List BL)×Nat×Nat×Nat,match x with | (i,o,g,f,k)=>(i<=(aL t).length/\o=((aL t).take i).filter ij/\o.length<=i)->(fun (v2:List V) (v1:Bool)=>Br (s4 (i:Int) (((aL t).length:Nat):Int)) (Ex (i:Int) ((aL t).map sV) (sV ((aL t).getD i []))/\True/\(pn ((aL t).getD i []) (33:UInt8)).sm/\(((33:UInt8)≠0))/\Gd (v1==true) ((((64:UInt8)≠0))/\(pn ((aL t).getD i []) (64:UInt8)).sm)/\Pk v1 (v1==true) true/\Br (v1&&(!(dF ((aL t).getD i [])==(64:UInt8)))) (((1,1,g,f,k,(o.map sV).length)=(1,1,g,f,k,(o.map sV).length))/\(True)/\(V.aK v2=false)/\(aX 1 v2)/\(((o.map sV).length+v2.length)*16<=140737488355328)/\∀ g24 K3 K4:Nat,((.own 1 ((o.map sV)++v2) g24 K3 K4:V)=.own 1 ((o++[((aL t).getD i [])]).map sV) g24 K3 K4)/\n8 ((i:Int)+1)/\∃ x:Nat×(List BL)×Nat×Nat×Nat,match x with | (e9,o5,x6,x5,k₂)=>(e9<=(aL t).length/\o5=((aL t).take e9).filter ij/\o5.length<=e9)/\((aL t).length-e9<(aL t).length-i)/\Q (.own 1 ((o++[((aL t).getD i [])]).map sV) g24 K3 K4) (.own 1 (o5.map sV) x6 x5 k₂)/\E (aJ (aL t))/\E (iN ((aL t).length))/\Q (iN (i+1)) (iN e9)/\True) (n8 ((i:Int)+1)/\∃ x:Nat×(List BL)×Nat×Nat×Nat,match x with | (e9,o5,x6,x5,k₂)=>(e9<=(aL t).length/\o5=((aL t).take e9).filter ij/\o5.length<=e9)/\((aL t).length-e9<(aL t).length-i)/\Q (.own 1 (o.map sV) g f k) (.own 1 (o5.map sV) x6 x5 k₂)/\E (aJ (aL t))/\E (iN ((aL t).length))/\Q (iN (i+1)) (iN e9)/\True)) (((.sl false (V.G4 (o.map sV)):V)=aJ o)/\Q (aJ o) (aJ (bD t)))) ([sV ((aL t).getD i [])]:List V) (!(dF ((aL t).getD i [])==(33:UInt8)))) ?_
 refine bJ ⟨⟨(0,[],0,0,0),?_,rfl,rfl,Zah,aI⟩,?_⟩;simp;rintro⟨i,o,g,f,k⟩ ⟨h1,h2,h3⟩;refine bI (fun l4=>?_) fun l4=>?_;refine⟨Zcg,trivial,rfl,Zaf,fun hG=>⟨by(try simp only[nb]at hG);decide,rfl⟩,az (bI (fun l6=>?_) fun l6=>?_)⟩;refine dM ⟨Zal,fun g24 K3 K4=>⟨Zbm (V.own 1 · g24 K3 K4) Zad,az ⟨(i+1,o++[((aL t).getD i [])],g24,K3,K4),?_,?_,aI⟩⟩⟩;refine⟨Zac,?_,Zal⟩;rw[aZ (d:=[]) Zac,List.filter_append,<- h2,List.filter_cons_of_pos (Ir.2 Zci)];rfl;exact Zak;refine az ⟨(i+1,o,g,f,k),?_,?_,aI⟩;refine⟨Zac,?_,aI⟩;rw[aZ (d:=[]) Zac,List.filter_append,<- h2,List.filter_cons_of_neg (fun c=>absurd (Ir.1 c) Zci)];simp;exact Zak;refine⟨Zcf,?_⟩;rw[h2,Zaz Zac];rfl)
def xU(a:B9):aG:=.mk 200 [bh a] [] (dQ a) (sV (cF a)) [] (by
 intro ha
 refine aA Tryz.func200
  (.bx (fun g1=>.q 1<|.m7<|.c (jj a) []<|.q 1<|.br (.q 1<|.nil) (.m7<|.c (lC a) []<|.q 1<|.nil)))
  (∀ g1:Nat,Z g1 0/\(jj a).sm/\((dQ a))/\Br (!(bu a)) (Q (sV []) (sV (cF a))) (Z g1 0/\(lC a).sm/\((dQ a))/\Q (sV (ew a)) (sV (cF a)))) ?_
 intro g1;refine⟨rfl,rfl,ha,bI (fun l4=>?_) fun l4=>?_⟩;rw[show cF a=[] from if_neg Zck];refine⟨rfl,rfl,ha,?_⟩;rw[show cF a=ew a from if_pos Zdb])
def vX(s p:BL):aG:=.mk 218 [sV s,sV p] [] ((s.length<=4611686018427387904)/\(p.length<=4611686018427387904)) (bV (iE s p)) [] (by
 rintro⟨hs,hp⟩
 refine aA Tryz.func218
  (.q 1<|.q 2<|.c (pO s p) []<|.q 1<|.nil)
  ((pO s p).sm/\((s.length<=4611686018427387904)/\(p.length<=4611686018427387904))/\Q (bV (iE s p)) (bV (iE s p))) ?_
 refine bJ ?_;rfl)
abbrev fb(a:B9)(ref:BL):V:=.tup [bh (oA (O' a ref)),bV ((O' a ref).isSome)]
def pM(a:B9)(ref:BL):aG:=.mk 198 [bh a,sV ref] [] ((dQ a)/\(a.j8.length<=100)/\(ref.length<=1000000)/\(w7 ref)) (fb a ref) [] (by
 rintro⟨ha,hp,hr,hc⟩;have Rw:=oU 35 ref
 refine aA Tryz.func198
  (.bx (fun g2=>.al dC (fun g4=>.q 1<|.r 5 [.c9]<|.cg (jj a)<|.q 2<|.br (.bd dC<|.st none<|.q 1<|.nil) (.q 1<|.c (sx ref 35) []<|.q 7<|.q 1<|.c (vX ((aj 35 ref).1) ([47,47]:BL)) []<|.q 1<|.br (.q 1<|.c (pU ((aj 35 ref).1)) []<|.q 2<|.st none<|.q 1<|.nil) (.q 3<|.br (.r 2 [.c9]<|.c (nK a.j8) []<|.ot 36 (fun Q0 QY Sz=>.h (.fz 36)<|.h (.o9 36 (aJ a.j8))<|.q 1<|.st none<|.m7<|.st none<|.q 1<|.nil)) (.q 4<|.br (.r 3 [.c9]<|.c (je a.l5 ([]:List BL) ((aj 35 ref).1)) []<|.q 2<|.st none<|.q 1<|.nil) (.q 4<|.br (.r 5 [.c9,.c9]<|.c (je a.l5 a.j8 ((aj 35 ref).1)) []<|.q 2<|.st none<|.q 1<|.nil) (.A3 14 [(1,l9 [2] [62]),(3,l9 [2] [64]),(5,l9 [2] [66])]<|.q 1<|.m7<|.q 1<|.m7<|.q 1<|.m7<|.l7 2<|.mm<|.q 1<|.h (.o9 70 (aJ (a.j8.take (a.j8.length-1))))<|.q 1<|.c (je a.l5 (a.j8.take (a.j8.length-1)) ((aj 35 ref).1)) []<|.l7 2<|.st none<|.q 1<|.nil))))))))
  ((fun (v3 v1:Int) (v2:Bool)=>(∀ g2:Nat,∀ g4:Nat,Gd (v2==false) (Z g2 0)/\Gd (v2==false) (((dQ a))/\(jj a).sm)/\Pk v2 true (v2==false)/\Br (v2||(!(bu a))) (Z g4 0/\(g4=g4)/\Q (.tup [jA (.sl false []),bV false]) (fb a ref)) ((sx ref 35).sm/\((ref.length<=1000000))/\(vX ((aj 35 ref).1) ([47,47]:BL)).sm/\((((aj 35 ref).1).length<=4611686018427387904)/\(([47,47]:BL).length<=4611686018427387904))/\Br (iE ((aj 35 ref).1) ([47,47]:BL)) ((pU ((aj 35 ref).1)).sm/\((((aj 35 ref).1).length<=300)/\(w7 ((aj 35 ref).1)))/\Z g4 0/\(g4=g4)/\Q (.tup [bh (oA (fY ((aj 35 ref).1))),bV ((fY ((aj 35 ref).1)).isSome)]) (fb a ref)) (Br (((aj 35 ref).1)==[]) (Z g2 1/\(nK a.j8).sm/\((a.j8.length<=1000000))/\∀ Q0 QY Sz:Nat,((.sl false (V.G4 (a.j8.map sV)):V)=aJ a.j8)/\Z g2 1/\Z g2 0/\Z g4 0/\(g4=g4)/\Q (.tup [bh a,bV true]) (fb a ref)) (Ix 0 ((aj 35 ref).1)/\Br (r4 v3 47) (Z g2 0/\(je a.l5 ([]:List BL) ((aj 35 ref).1)).sm/\((a.l5.length<=1000)/\(∀ i,(([]:List BL).getD i []).length<=1000)/\(([]:List BL).length<=100)/\(((aj 35 ref).1).length<=300))/\Z g4 0/\(g4=g4)/\Q (.tup [bh (oA (dE a.l5 ([]:List BL) ((aj 35 ref).1))),bV ((dE a.l5 ([]:List BL) ((aj 35 ref).1)).isSome)]) (fb a ref)) (Ix 0 ((aj 35 ref).1)/\Br (r4 v3 63) (Z g2 0/\Z g2 1/\(je a.l5 a.j8 ((aj 35 ref).1)).sm/\((a.l5.length<=1000)/\(∀ i,(a.j8.getD i []).length<=1000)/\(a.j8.length<=100)/\(((aj 35 ref).1).length<=300))/\Z g4 0/\(g4=g4)/\Q (.tup [bh (oA (dE a.l5 a.j8 ((aj 35 ref).1))),bV ((dE a.l5 a.j8 ((aj 35 ref).1)).isSome)]) (fb a ref)) (Z g2 0/\Z g2 1/\Z g2 1/\n8 (v1-1)/\(IntKind.i64=IntKind.i64)/\((0:Int)<=(0:Int)/\(0:Int)<=(max (v1-1) 0)/\(max (v1-1) 0)<=(a.j8.map sV).length/\∀ x∈(a.j8.map sV),x.n=1)/\Q (.sl false (((a.j8.map sV).take (Int.toNat (max (v1-1) 0))).drop ((0:Int).toNat))) (aJ (a.j8.take (a.j8.length-1)))/\(je a.l5 (a.j8.take (a.j8.length-1)) ((aj 35 ref).1)).sm/\((a.l5.length<=1000)/\(∀ i,((a.j8.take (a.j8.length-1)).getD i []).length<=1000)/\((a.j8.take (a.j8.length-1)).length<=100)/\(((aj 35 ref).1).length<=300))/\Z g4 0/\(g4=g4)/\Q (.tup [bh (oA (dE a.l5 (a.j8.take (a.j8.length-1)) ((aj 35 ref).1))),bV ((dE a.l5 (a.j8.take (a.j8.length-1)) ((aj 35 ref).1)).isSome)]) (fb a ref)))))))) (((((aj 35 ref).1).getD 0 0).toNat:Nat):Int) (((a.j8.map sV).length:Nat):Int) (s9 (ref.length:Int) 60)) ?_
 intro g2;intro g4;refine az ⟨fun hG=>⟨ha,rfl⟩,az (bI (fun l4=>?_) fun l4=>?_)⟩;refine⟨rfl,⟨rfl,?_⟩⟩;unfold Q fb;rw[show O' a ref=none from if_pos (l4.symm.imp id fun h=>by omega)];rfl;refine bN ⟨az Zad,bI (fun l6=>?_) fun l6=>?_⟩;refine⟨rfl,az (hc.cut 35),rfl,⟨rfl,?_⟩⟩;unfold Q fb;rw[sS ⟨l4.2,l4.1⟩,if_pos (OY l6),show fY (aj 35 ref).1=fj ((aj 35 ref).1.drop 2) from if_pos l6];refine bI (fun n9=>?_) fun n9=>?_;refine bN fun Q0 QY Sz=>⟨Zcf,bN ⟨rfl,?_⟩⟩;unfold Q fb;rw[sS ⟨l4.2,l4.1⟩,if_neg (CJ l6),if_pos Zdc];rfl;refine⟨Zd1,bI (fun B6=>?_) fun B6=>?_⟩;refine⟨rfl,rfl,⟨ha.1,Zad,Zad,aI⟩,rfl,⟨rfl,?_⟩⟩;unfold Q fb;rw[sS ⟨l4.2,l4.1⟩,if_neg (CJ l6),if_neg Zdc,if_pos (CD (k:=47) B6)];refine⟨Zd1,bI (fun H5=>?_) fun H5=>?_⟩;refine⟨rfl,rfl,rfl,⟨ha.1,ha.2.2.2,hp,aI⟩,rfl,⟨rfl,?_⟩⟩;unfold Q fb;rw[sS ⟨l4.2,l4.1⟩,if_neg (CJ l6),if_neg Zdc,if_neg (xF (k:=47) B6),if_pos (CD (k:=63) H5)];refine fQ ⟨⟨Zch,Zch,Zch,all_map (fun _=>rfl)⟩,Zd0,rfl,⟨ha.1,FG ha.2.2.2,Zd2,aI⟩,rfl,?_⟩;refine⟨rfl,?_⟩;unfold Q fb;rw[sS ⟨l4.2,l4.1⟩,if_neg (CJ l6),if_neg Zdc,if_neg (xF (k:=47) B6),if_neg (xF (k:=63) H5)])
def wv(a:B9)(t:BL):aG:=.mk 172 [bh a,sV t] [] ((dQ a)/\(t.length<=4611686018427387904)/\(w7 t)) (aJ (cG a t)) [] (by
 rintro⟨ha,ht,hc⟩;obtain⟨UX,TF⟩:=uu t
 refine aA Tryz.func172
  (.bx (fun g2=>.q 1<|.m7<|.c (jj a) []<|.q 1<|.br (.q 1<|.nil) (.m7<|.al dC (fun g5=>.st none<|.q 1<|.c (xX t) []<|.q 5<|.q 1<|.join (B9) (fun b=>⟨[(1,sV t),(5,kp 5 g5)],[(5,(g5,bh b))]⟩) (fun b=>b=(iP a t)) (.r 2 [.c9]<|.c (pM a ((bW t).getD [])) []<|.q 3<|.al dC (fun g8=>.st none<|.l7 2<|.br (.m7<|.st none<|.nil) (.nil))) (.nil) (fun b=>.l7 2<|.c (wD t) []<|.q 2<|.h (.O8 10 1)<|.loop (Nat×(List BL)×Nat×Nat×Nat) (fun (i,o,g,f,k)=>⟨[(5,kp 5 g5),(10,.own 1 (o.map sV) g f k),(35,aJ (bD t)),(36,iN ((bD t).length)),(37,iN i)],[(5,(g5,bh b))]⟩) (fun (i,o,g,f,k)=>i<=(bD t).length/\o=((bD t).take i).foldl (fg b) []/\o.length<=i) (fun (i,o,g,f,k)=>(bD t).length-i) (fun (i,o,g,f,k)=>.q 1<|.br (.r 3 [sV ((bD t).getD i [])]<|.r 2 [.c9]<|.c (pM b ((bD t).getD i [])) []<|.q 3<|.al dC (fun g13=>.st none<|.q 1<|.q 2<|.br (.q 2<|.nil) (.m7<|.c (xU (oA (O' b ((bD t).getD i [])))) []<|.q 1<|.q 2<|.cl (xH o (cF (oA (O' b ((bD t).getD i [])))))<|.q 1<|.br (.q 2<|.bs<|.ap (fun XT Xi X3=>.h (.o9 58 (.own 1 ((o++[cF (oA (O' b ((bD t).getD i [])))]).map sV) XT Xi X3))<|.q 1<|.q 2<|.nil)) (.q 2<|.nil)))) (.h (.fz 10)<|.h (.o9 10 (aJ o))<|.q 2<|.nil)))))))
  ((fun v1:Nat=>(∀ g2:Nat,Z g2 0/\(jj a).sm/\((dQ a))/\Br (!(bu a)) (Q (.sl false []) (aJ (cG a t))) (Z g2 0/\∀ g5:Nat,(fun v2:V=>Z g5 0/\(xX t).sm/\((t.length<=4611686018427387904))/\(((bW t).isSome)=true->Z g2 0/\(pM a ((bW t).getD [])).sm/\((dQ a)/\(a.j8.length<=100)/\(((bW t).getD []).length<=1000000)/\(w7 ((bW t).getD [])))/\∀ g8:Nat,Z g8 0/\Br ((O' a ((bW t).getD [])).isSome) (Z g8 0/\Z g5 0/\∃ b:B9,(b=(iP a t))/\E (sV t)/\E v2/\Qr g5 (bh (oA (O' a ((bW t).getD [])))) g5 (bh b)/\True) (∃ b:B9,(b=(iP a t))/\E (sV t)/\E v2/\Qr g5 (bh a) g5 (bh b)/\True))/\(((bW t).isSome)=false->∃ b:B9,(b=(iP a t))/\E (sV t)/\E v2/\Qr g5 (bh a) g5 (bh b)/\True)/\(∀ b:B9,(b=(iP a t))->(wD t).sm/\((t.length<=4611686018427387904))/\(∃ x:Nat×(List BL)×Nat×Nat×Nat,match x with | (j7,A6,E2,G9,m9)=>(j7<=(bD t).length/\A6=((bD t).take j7).foldl (fg b) []/\A6.length<=j7)/\E v2/\Q (.own 1 ([].map sV) 0 0 0) (.own 1 (A6.map sV) E2 G9 m9)/\E (aJ (bD t))/\Q (iN (((bD t).map sV).length)) (iN v1)/\Q (iN 0) (iN j7)/\Er g5 (bh b)/\True)/\∀ x:Nat×(List BL)×Nat×Nat×Nat,match x with | (i,o,g,f,k)=>(i<=(bD t).length/\o=((bD t).take i).foldl (fg b) []/\o.length<=i)->(fun v3:B9=>(fun v4:List V=>Br (s4 (i:Int) (((bD t).length:Nat):Int)) (Ex (i:Int) ((bD t).map sV) (sV ((bD t).getD i []))/\True/\Z g5 0/\(pM b ((bD t).getD i [])).sm/\((dQ b)/\(b.j8.length<=100)/\(((bD t).getD i []).length<=1000000)/\(w7 ((bD t).getD i [])))/\∀ g13:Nat,Z g13 0/\Br (!((O' b ((bD t).getD i [])).isSome)) (n8 ((i:Int)+1)/\∃ x:Nat×(List BL)×Nat×Nat×Nat,match x with | (e9,o5,x6,x5,k₂)=>(e9<=(bD t).length/\o5=((bD t).take e9).foldl (fg b) []/\o5.length<=e9)/\((bD t).length-e9<(bD t).length-i)/\E v2/\Q (.own 1 (o.map sV) g f k) (.own 1 (o5.map sV) x6 x5 k₂)/\E (aJ (bD t))/\E (iN v1)/\Q (iN (i+1)) (iN e9)/\Er g5 (bh b)/\True) (Z g13 0/\(xU v3).sm/\((dQ v3))/\(((1=1/\g=g/\f=f)/\0+((o.map sV).length)<=(o.map sV).length/\V.aK (o.map sV)=false/\aX 1 (o.map sV))/\True)/\(([.sl false (((o.map sV).drop 0).take ((o.map sV).length)),sV (cF v3)]:List V)=[aJ o,sV (cF v3)])/\((o.length<=1000000))/\Br (!(o.contains (cF v3))) (((1,1,g,f,k,(o.map sV).length)=(1,1,g,f,k,(o.map sV).length))/\(True)/\(V.aK v4=false)/\(aX 1 v4)/\(((o.map sV).length+v4.length)*16<=140737488355328)/\∀ XT Xi X3:Nat,((.own 1 ((o.map sV)++v4) XT Xi X3:V)=.own 1 ((o++[cF v3]).map sV) XT Xi X3)/\n8 ((i:Int)+1)/\∃ x:Nat×(List BL)×Nat×Nat×Nat,match x with | (e9,o5,x6,x5,k₂)=>(e9<=(bD t).length/\o5=((bD t).take e9).foldl (fg b) []/\o5.length<=e9)/\((bD t).length-e9<(bD t).length-i)/\E v2/\Q (.own 1 ((o++[cF v3]).map sV) XT Xi X3) (.own 1 (o5.map sV) x6 x5 k₂)/\E (aJ (bD t))/\E (iN v1)/\Q (iN (i+1)) (iN e9)/\Er g5 (bh b)/\True) (n8 ((i:Int)+1)/\∃ x:Nat×(List BL)×Nat×Nat×Nat,match x with | (e9,o5,x6,x5,k₂)=>(e9<=(bD t).length/\o5=((bD t).take e9).foldl (fg b) []/\o5.length<=e9)/\((bD t).length-e9<(bD t).length-i)/\E v2/\Q (.own 1 (o.map sV) g f k) (.own 1 (o5.map sV) x6 x5 k₂)/\E (aJ (bD t))/\E (iN v1)/\Q (iN (i+1)) (iN e9)/\Er g5 (bh b)/\True))) (((.sl false (V.G4 (o.map sV)):V)=aJ o)/\Q (aJ o) (aJ (cG a t)))) ([sV (cF v3)]:List V)) (oA (O' b ((bD t).getD i []))))) (kp 5 g5)))) ((bD t).length)) ?_
 intro g2;refine⟨rfl,rfl,ha,bI (fun l4=>?_) fun l4=>?_⟩;rw[show cG a t=[] from if_neg Zck];rfl;refine⟨rfl,fun g5=>bN ⟨fun l6=>?_,fun l6=>?_,fun b hb=>?_⟩⟩;try simp only[nb]at l6
 refine⟨rfl,rfl,⟨ha,by have:=(lb Zdb).2.1;omega,by have:=DP t;omega,JB hc⟩,fun g8=>⟨rfl,bI (fun n9=>?_) fun n9=>?_⟩⟩;refine bJ ⟨(⟨(oA (O' a ((bW t).getD []))).l5,(oA (O' a ((bW t).getD []))).j8,(oA (O' a ((bW t).getD []))).asks,(oA (O' a ((bW t).getD []))).ask⟩:B9),Zd3,rfl,rfl,Zah,aI⟩;exact⟨(⟨a.l5,a.j8,a.asks,a.ask⟩:B9),Zd3,rfl,rfl,Zah,trivial⟩;try simp only[nb]at l6
 exact⟨(⟨a.l5,a.j8,a.asks,a.ask⟩:B9),Zd3,rfl,rfl,Zah,trivial⟩;refine bJ ⟨⟨(0,[],0,0,0),?_,rfl,rfl,rfl,Zah,aI⟩,?_⟩;simp;rintro⟨i,o,g,f,k⟩ ⟨h1,h2,h3⟩;have L4:=kU (n:=300) (fun m hm=>(TF m hm).1) i;have hbo:bu b=true:=by rw[hb];exact Dj Zdb
 have hbs:dQ b:=su hbo;have hbp:b.j8.length<=100:=by have:=(lb hbo).2.1;omega
 have hla:w7 ((bD t).getD i []):=JN hc i;refine bI (fun B6=>?_) fun B6=>?_;refine⟨Zcg,bN ⟨⟨hbs,hbp,az (hla)⟩,fun g13=>⟨rfl,bI (fun H5=>?_) fun H5=>?_⟩⟩⟩;refine az ⟨(i+1,o,g,f,k),?_,?_,aI⟩;refine⟨Zac,?_,aI⟩;rw[foldl_succ (d:=[]) Zac,<- h2];exact(if_neg (by simpa using H5)).symm;exact Zak;refine⟨rfl,rfl,KL _ _,⟨⟨aI,Zad,bF (f:=sV) (fun _=>rfl) _,cd (f:=sV) (fun _=>rfl) _⟩,aI⟩,by simp[Zaz],az (bI (fun Qh=>?_) fun Qh=>?_)⟩;refine dM ⟨Zal,fun XT Xi X3=>⟨Zbm (V.own 1 · XT Xi X3) Zad,az ⟨(i+1,o++[cF (oA (O' b ((bD t).getD i [])))],XT,Xi,X3),?_,?_,aI⟩⟩⟩;refine⟨Zac,?_,Zal⟩;rw[foldl_succ (d:=[]) Zac,<- h2];exact(MD (by simpa using H5) (by simpa using Qh)).symm;exact Zak;refine az ⟨(i+1,o,g,f,k),?_,?_,aI⟩;refine⟨Zac,?_,aI⟩;rw[foldl_succ (d:=[]) Zac,<- h2];exact(Nu (by simpa using H5) (by simpa using Qh)).symm;exact Zak;refine⟨Zcf,?_⟩;rw[show cG a t=_ from if_pos Zdb,<- hb,h2,Zaz Zac])
abbrev pa(a:B9)(k:Int)(t:BL):V:=aJ (if k=1 then cG a t else if k=2 then [t] else [])
def Gi(a:B9)(k:Int)(t:BL):aG:=.mk 133 [bh a,iV k,sV t] [] ((dQ a)/\(t.length<=4611686018427387904)/\(w7 t)) (pa a k t) [] (by
 rintro⟨ha,ht,hc⟩
 refine aA Tryz.func133
  (.bx (fun g3=>.l7 2<|.q 2<|.br (.r 2 [.c9]<|.c (wv a t) []<|.q 1<|.nil) (.q 2<|.br (.q 1<|.bs<|.q 1<|.nil) (.q 1<|.nil))))
  (∀ g3:Nat,Br (r4 k 1) (Z g3 0/\(wv a t).sm/\((dQ a)/\(t.length<=4611686018427387904)/\(w7 t))/\Q (aJ (cG a t)) (pa a k t)) (Br (r4 k 2) (Q (.sl false [sV t]) (pa a k t)) (Q (.sl false []) (pa a k t)))) ?_
 intro g3;refine bI (fun l4=>?_) fun l4=>?_;refine bN ?_;unfold Q pa;rw[if_pos l4];refine bI (fun l6=>?_) fun l6=>?_;unfold Q pa;rw[if_neg l4,if_pos l6];rfl;unfold Q pa;rw[if_neg l4,if_neg l6];rfl)
theorem Dt(k:BL)(y:Value)(a:BL):∀ es:List (BL×Value),dL (iK es k y) a=if a=k then some y else dL es a
 | []=>by
   unfold iK dL;by_cases h:a=k;rw[if_pos h.symm,if_pos h];rw[if_neg (fun c=>h c.symm),if_neg h];rfl
 | p::r=>by
   unfold iK;by_cases h:p.1=k;rw[if_pos h];show (if k=a then some y else dL r a)=if a=k then some y else if p.1=a then some p.2 else dL r a;by_cases h2:a=k;rw[if_pos h2.symm,if_pos h2];rw[if_neg (fun c=>h2 c.symm),if_neg h2,if_neg (fun c=>h2 (c.symm.trans h))];rw[if_neg h];show (if p.1=a then some p.2 else dL (iK r k y) a)=if a=k then some y else if p.1=a then some p.2 else dL r a;rw[Dt k y a r];by_cases h2:p.1=a;rw[if_pos h2,if_neg (fun c=>h (h2.trans c)),if_pos h2];rw[if_neg h2,if_neg h2]
def hS(x:List BL×List (BL×Value))(a:BL):List BL×List (BL×Value):=(x.1++[a],iK x.2 a (.int .i64 (((x.1.count a:Nat):Int)+1)))
def hE(H:List BL):List (BL×Value):=(H.foldl hS ([],[])).2
theorem Kn:∀ (H:List BL) {x:List BL×List (BL×Value)},(H.foldl hS x).1=x.1++H
 | [],x=>by simp
 | a::H,x=>by rw[List.foldl_cons,Kn H];simp[hS]
theorem FT(H:List BL)(a:BL):iK (hE H) a (.int .i64 (((H.count a:Nat):Int)+1))=hE (H++[a]):=by
 unfold hE;rw[List.foldl_append,List.foldl_cons,List.foldl_nil];show _=iK _ a (.int .i64 ((((H.foldl hS ([],[])).1.count a:Nat):Int)+1));rw[Kn,List.nil_append]
theorem EZ:∀ (H:List BL) {x:List BL×List (BL×Value)},(∀ a,dL x.2 a=if a∈x.1 then some (.int .i64 ((x.1.count a:Nat):Int)) else none)->
 ∀ a,dL (H.foldl hS x).2 a=if a∈(H.foldl hS x).1 then some (.int .i64 (((H.foldl hS x).1.count a:Nat):Int)) else none
 | [],_,h=>h
 | b::H,x,h=>EZ H fun a=>by
   show dL (iK x.2 b _) a=if a∈x.1++[b] then some (.int .i64 (((x.1++[b]).count a:Nat):Int)) else none;rw[Dt,h a];by_cases e:a=b;subst e;rw[if_pos rfl,if_pos Zad,List.count_append];simp;rw[if_neg e,List.count_append];by_cases e2:a∈x.1;rw[if_pos e2,if_pos (by simp[e2])];simp[List.count_cons,Ne.symm e];rw[if_neg e2,if_neg (by simp[e,e2])]
theorem EP(H:List BL)(a:BL):dL (hE H) a=if a∈H then some (.int .i64 ((H.count a:Nat):Int)) else none:=by
 have:=EZ H (x:=([],[])) (by simp[dL]) a;rw[Kn,List.nil_append]at this;exact this
theorem FD{b:B9}:∀ (ls:List BL) {o:List BL},(∀ m,m∈o->aq m=true/\w7 m)->∀ m,m∈ls.foldl (fg b) o->aq m=true/\w7 m
 | [],_,h=>h
 | l::ls,o,h=>by
   refine FD ls fun m hm=>?_;unfold fg at hm;split at hm;rename_i hs;rcases FU.1 hm with hm | rfl;exact h m hm;have hk:=Gp hs;exact⟨by rw[show cF (oA (O' b l))=ew (oA (O' b l)) from if_pos hk];exact Gn hk,rq _⟩;exact h m hm
theorem qf{a:B9}{t:BL}:∀ m,m∈cG a t->aq m=true/\w7 m:=by
 unfold cG;split;exact FD _ Zad;simp
section
variable {P:Program}
def lkO(t0:Nat)(es:List (BL×Value))(k:BL)(v:V):Cu P where
 X:=Unit
 pre N o A:=match o.op,o.dst with
  | .lookup T x kx false,some d=>match tD P T,Nat.blt d N with
    | some (.map kt et),true=>match tD P kt,A.ev x,A.get t0 with
      | some .str,.lit (.map (some g)),.om Th g'=>(g'=g/\Th=es)/\A.ev kx=sV k/\((∃ y,dL es k=some y/\v.val? =some y)\/(dL es k=none/\∃ y,v.val? =some y/\∀ w,(zeroValue et).run P w=.ok y w))
      | _,_,_=>False
    | _,_=>False
  | _,_=>False
 post _ o A:=match o.dst with
  | some d=>A.put (some d) v
  | none=>A
 ok:=by
  rintro N ⟨dst,op,ty,pos,after,I6⟩ A K-hp hK;replace hK:=hK ();simp only at hp hK;split at hp;rename_i T x kx d;split at hp;rename_i kt et e1 e2;split at hp;rename_i g Th g' e3 e4 e5;obtain⟨⟨rfl,rfl⟩,hk,hy⟩:=hp;obtain⟨td,hu,hd⟩:=dY e1;have hu:P.underlying T=some (.map kt et):=by
   cases td <;> simp_all[fa]
  obtain⟨Ww,St,U'⟩:=dY e3;have St:P.underlying kt=some .string:=by
   cases Ww <;> simp_all[fa]
  have Qc:∃ y,v.val? =some y:=by
   rcases hy with ⟨y,_,h⟩ | ⟨_,y,h,_⟩ <;> exact⟨y,h⟩
  obtain⟨y,hv⟩:=Qc;refine iu rfl (cv e2) hK fun Pb Kb a w F hs=>⟨y,?_,AJ hv⟩;have hk:=dj hs hk;have hm:=dj hs e4;have h0:=hs.slot t0;rw[e5]at h0;have h0:R w Pb (.om Th g') [a.tmps.getD t0 undef] (F (.slot t0)):=h0;obtain⟨hF,hc,hnP,en,cl,hb,Wm,hnd,hcl⟩:=h0;obtain⟨f1,f2⟩:=oy k Th en.toList 0 Wm;have XN:∀ e,(Instr.checkKey e 10000 kt (.string (Str k))).run P w=.ok () w:=fun e=>rv St;rcases hy with ⟨y',h1,h2⟩ | ⟨h1,y',h2,Xx⟩;rw[hv]at h2;obtain rfl:=Option.some.inj h2;obtain⟨j,j1,_⟩:=f2 _ h1;rw[show (⟨k.toArray⟩:ByteArray)=Str k from rfl]at j1;simp[execOp,hm,hk,Instr.lookup,run_underlying hu,MapKept.run_getObj_map hb,XN,MapKept.run_findKey St j1,Result.andThen];rw[hv]at h2;obtain rfl:=Option.some.inj h2;have j1:=f1 h1;rw[show (⟨k.toArray⟩:ByteArray)=Str k from rfl]at j1;simp[execOp,hm,hk,Instr.lookup,run_underlying hu,MapKept.run_getObj_map hb,XN,MapKept.run_findKey St j1,Result.andThen,Xx];exact hp.elim;exact hp.elim;exact hp.elim
end
theorem Nl(H:List BL)(a:BL):(∃ y,dL (hE H) a=some y/\(iN (H.count a):V).val? =some y)\/(dL (hE H) a=none/\∃ y,(iN (H.count a):V).val? =some y/\∀ w,(zeroValue 3).run Tryz.prog w=.ok y w):=by
 have h:=EP H a;by_cases e:a∈H;rw[if_pos e]at h;exact .inl ⟨_,h,rfl⟩;rw[if_neg e]at h;refine .inr ⟨h,.int .i64 0,by rw[List.count_eq_zero.2 e];rfl,fun w=>by kernel_rfl⟩
theorem LS{l m:List BL}(h:l.length=m.length)(e:∀ j,j<l.length->l.getD j []=m.getD j []):l=m:=by
 apply List.ext_getElem h;intro j h1 h2;have:=e j h1;rw[Zam,Zam,Zat h1,Zat h2]at this;exact this
abbrev lD(b:BL)(p g:Nat)(w:List Pg)(m:Nat)(e:List BL)(q u f k:Nat):Prop:=e.length+m<=3/\(∀ y,y∈e->y.length<=30/\w7 y)/\p<=q/\q+10*m<=p+40
def jW(b:BL)(p g:Nat)(w:List Pg):fy:=.mk (List BL×Nat) 75 [kp 1000 g,aF w] [(1000,(g,an b p))] ((b.length<=2000)/\(p<=700000)/\(w.length<=30)/\(∀ y,y∈w->n6 y)) (fun x=>x.1.length<=4/\(∀ y,y∈x.1->y.length<=30/\w7 y)/\p<=x.2/\x.2<=p+60) (fun x=>aJ x.1) (fun x=>[(1000,(g,an b x.2))]) (by
 rintro⟨hb,hp,hw,hy⟩
 refine fA Tryz.func75
  (.q 1<|.bs<|.l7 2<|.cx (aQ b p g 3) [(1000,1000)] (fun (r8:Nat)=>.q 2<|.h (.O8 5 1)<|.loop (Nat×(List BL)×Nat×Nat×Nat×Nat) (fun (m,e,q,u,f,k)=>⟨[(0,kp 1000 g),(1,aF w),(5,.own 1 (e.map sV) u f k),(6,iN m)],[(1000,(g,an b q))]⟩) (fun (m,e,q,u,f,k)=>lD b p g w m e q u f k) (fun (m,e,q,u,f,k)=>m) (fun (m,e,q,u,f,k)=>.q 2<|.br (.q 3<|.cx (zC b q g w) [(1000,1000)] (fun (RE:BL×Nat)=>.bs<|.ap (fun g20 Tt TY=>.h (.o9 20 (.own 1 ((e++[RE.1]).map sV) g20 Tt TY))<|.q 1<|.q 2<|.h (.o9 14 (iN (m-1)))<|.q 1<|.nil))) (.q 1<|.cx (aQ b q g 12) [(1000,1000)] (fun (N3:Nat)=>.q 1<|.br (.q 1<|.bs<|.ap (fun Zv Zc Zy=>.h (.o9 26 (.own 1 ((e++[([120]:BL)]).map sV) Zv Zc Zy))<|.q 1<|.h (.fz 4)<|.h (.o9 4 (aJ (e++[([120]:BL)])))<|.nil)) (.h (.fz 5)<|.h (.o9 5 (aJ e))<|.q 2<|.nil))))))
  ((fun v1:BL=>((aQ b p g 3).sm/\Er g (an b p)/\((b.length<=2000)/\(p<=1000000)/\(3<=1000000))/\∀ r8:Nat,(3=0/\r8=0\/r8<3)->n8 (1+(r8:Int))/\(∃ x:Nat×(List BL)×Nat×Nat×Nat×Nat,match x with | (K7,G',D0,PL,G9,m9)=>(lD b p g w K7 G' D0 PL G9 m9)/\E (kp 1000 g)/\E (aF w)/\Q (.own 1 ([].map sV) 0 0 0) (.own 1 (G'.map sV) PL G9 m9)/\Q (iN (1+r8)) (iN K7)/\Qr g (an b (p+1)) g (an b D0)/\True)/\∀ x:Nat×(List BL)×Nat×Nat×Nat×Nat,match x with | (m,e,q,u,f,k)=>(lD b p g w m e q u f k)->Br (s9 (m:Int) 0) ((zC b q g w).sm/\Er g (an b q)/\((b.length<=2000)/\(q<=800000)/\(w.length<=30)/\(∀ y,y∈w->n6 y))/\∀ RE:BL×Nat,(RE.1.length<=30/\q<=RE.2/\RE.2<=q+8/\w7 RE.1)->(fun v2:List V=>((1,1,u,f,k,(e.map sV).length)=(1,1,u,f,k,(e.map sV).length))/\(True)/\(V.aK v2=false)/\(aX 1 v2)/\(((e.map sV).length+v2.length)*16<=140737488355328)/\∀ g20 Tt TY:Nat,((.own 1 ((e.map sV)++v2) g20 Tt TY:V)=.own 1 ((e++[RE.1]).map sV) g20 Tt TY)/\n8 ((m:Int)-1)/\Q (iV ((m:Int)-1)) (iN (m-1))/\∃ x:Nat×(List BL)×Nat×Nat×Nat×Nat,match x with | (m₂,B3,s8,J2,x5,k₂)=>(lD b p g w m₂ B3 s8 J2 x5 k₂)/\(m₂<m)/\E (kp 1000 g)/\E (aF w)/\Q (.own 1 ((e++[RE.1]).map sV) g20 Tt TY) (.own 1 (B3.map sV) J2 x5 k₂)/\Q (iN (m-1)) (iN m₂)/\Qr g (an b RE.2) g (an b s8)/\True) ([sV RE.1]:List V)) ((aQ b q g 12).sm/\Er g (an b q)/\((b.length<=2000)/\(q<=1000000)/\(12<=1000000))/\∀ N3:Nat,(12=0/\N3=0\/N3<12)->Br (r4 (N3:Int) 0) (((1,1,u,f,k,(e.map sV).length)=(1,1,u,f,k,(e.map sV).length))/\(True)/\(V.aK ([sV v1]:List V)=false)/\(aX 1 ([sV v1]:List V))/\(((e.map sV).length+([sV v1]:List V).length)*16<=140737488355328)/\∀ Zv Zc Zy:Nat,((.own 1 ((e.map sV)++([sV v1]:List V)) Zv Zc Zy:V)=.own 1 ((e++[v1]).map sV) Zv Zc Zy)/\((.sl false (V.G4 ((e++[v1]).map sV)):V)=aJ (e++[v1]))/\∃ x:List BL×Nat,(x.1.length<=4/\(∀ y,y∈x.1->y.length<=30/\w7 y)/\p<=x.2/\x.2<=p+60)/\Q (aJ (e++[v1])) (aJ x.1)/\Qr g (an b (q+1)) g (an b x.2)) (((.sl false (V.G4 (e.map sV)):V)=aJ e)/\∃ x:List BL×Nat,(x.1.length<=4/\(∀ y,y∈x.1->y.length<=30/\w7 y)/\p<=x.2/\x.2<=p+60)/\Q (aJ e) (aJ x.1)/\Qr g (an b (q+1)) g (an b x.2))))) ([120]:BL)) ?_
 refine bN fun r8 Qz=>az ⟨⟨(1+r8,[],p+1,0,0,0),?_,aI⟩,?_⟩;unfold lD;exact⟨Zal,Zad,Zac,Zac⟩;rintro⟨m,e,q,u,f,k⟩ ⟨h1,h2,h3,h4⟩;refine bI (fun l4=>?_) fun l4=>?_;refine⟨rfl,rfl,bN (hy),fun RE XB=>dM ⟨Zal,fun g20 Tt TY=>⟨Zbm (V.own 1 · g20 Tt TY) Zad,Zac,Zcu,⟨(m-1,e++[RE.1],RE.2,g20,Tt,TY),?_,?_,aI⟩⟩⟩⟩;unfold lD;exact⟨Zal,mF h2 ⟨XB.1,XB.2.2.2⟩,Zac,Zac⟩;exact Zak;refine bN fun N3 Vz=>bI (fun l6=>?_) fun l6=>?_;refine dM ⟨Zal,fun Zv Zc Zy=>⟨Zbm (V.own 1 · Zv Zc Zy) Zad,Zcf,⟨(e++[([120]:BL)],q+1),?_,?_,?_⟩⟩⟩;try dsimp only
 exact⟨Zal,mF h2 ⟨Zad,dc rfl⟩,Zac,Zac⟩;exact Zaa;exact Zab;refine⟨Zcf,⟨(e,q+1),?_,?_,?_⟩⟩;try dsimp only
 exact⟨Zac,h2,Zac,Zac⟩;exact Zaa;first | rfl | exact⟨rfl,rfl⟩ | simp_all)
def fc(l m:List BL):aG:=.mk 25 [aJ l,aJ m] [] ((l.length<=1000000)/\(m.length<=1000000)) (bV (l==m)) [] (by
 rintro⟨hl,hm⟩
 refine aA Tryz.func25
  (.q 1<|.q 5<|.br (.q 1<|.nil) (.q 1<|.loop Nat (fun i=>⟨[(0,aJ l),(1,aJ m),(5,iN i)],[]⟩) (fun i=>i<=l.length/\∀ j,j<i->l.getD j []=m.getD j []) (fun i=>l.length-i) (fun i=>.q 4<|.br (.A3 9 [(3,l9 [] [20]),(7,l9 [] [24])]<|.l7 2<|.r 1 [sV (l.getD i [])]<|.l7 3<|.r 1 [sV (m.getD i [])]<|.l7 2<|.br (.q 1<|.nil) (.q 3<|.nil)) (.q 1<|.nil))))
  ((fun v1:Nat->Prop=>(Br (G0 (((l.map sV).length:Nat):Int) (((m.map sV).length:Nat):Int)) (Q (bV false) (bV (l==m))) ((∃ j7:Nat,(v1 j7)/\E (aJ l)/\E (aJ m)/\Q (iN 0) (iN j7)/\True)/\∀ i:Nat,(v1 i)->Br (s4 (i:Int) (((l.map sV).length:Nat):Int)) (Ex (i:Int) (l.map sV) (sV (l.getD i []))/\True/\Ex (i:Int) (m.map sV) (sV (m.getD i []))/\True/\Br (!((l.getD i [])==(m.getD i []))) (Q (bV false) (bV (l==m))) (n8 ((i:Int)+1)/\∃ e9:Nat,(v1 e9)/\(l.length-e9<l.length-i)/\E (aJ l)/\E (aJ m)/\Q (iN (i+1)) (iN e9)/\True)) (Q (bV true) (bV (l==m)))))) (fun j7:Nat=>j7<=l.length/\∀ j,j<j7->l.getD j []=m.getD j [])) ?_
 refine bI (fun l4=>?_) fun l4=>?_;unfold Q;refine Zbm bV ?_;symm;rw[beq_eq_false_iff_ne];rintro rfl;simp_all;refine⟨⟨0,?_,aI⟩,?_⟩;simp;rintro i ⟨h1,h2⟩;refine bI (fun l6=>?_) fun l6=>?_;refine⟨Zcg,trivial,Zcg,az (bI (fun n9=>?_) fun n9=>?_)⟩;unfold Q;refine Zbm bV ?_;symm;rw[beq_eq_false_iff_ne];rintro rfl;simp_all;refine az ⟨i+1,?_,?_,aI⟩;exact⟨Zac,Zdm⟩;exact Zak;unfold Q;refine Zbm bV ?_;symm;rw[Zbl];exact LS Zac (fun j hj=>h2 j Zac))
structure r3 where
 ad:BL
 tr:Int
structure j9 where
 na:BL
 re:Int
 kn:Bool
 gr:m8
 tr:Int
 td:List r3
structure n7 where
 ti:Int
 ad:BL
 ki:Int
structure l3 where
 na:BL
 b7:Int
 hs:List j9
 se:List BL
 lk:List n7
def b9:j9:=⟨[],0,false,⟨[],[],0⟩,0,[]⟩
def j6:r3:=⟨[],0⟩
def r6:n7:=⟨0,[],0⟩
def cW(d n:BL):j9:=⟨d,0,false,⟨[n],[],0⟩,0,[]⟩
def D'(hs:List j9)(d:BL):Nat:=hs.findIdx fun h=>h.na==d
def bw(hs:List j9)(d n:BL):List j9:=if D' hs d<hs.length then hs else hs++[cW d n]
def pathOf(s:BL):BL:=cO (oA (aT s))
def aB(s:BL):BL:=(oA (aT s)).l5
def dh(h:j9)(s:BL):j9:=if h.kn=true/\bA h.gr.ru (pathOf s)=false then h else { h with td:=h.td++[⟨s,0⟩] }
def dA(se:List BL)(s:BL):Prop:=aq s=true/\se.length<60/\s ∉ se
instance (se:List BL) (s:BL):Decidable (dA se s):=by unfold dA;infer_instance
def ax(se:List BL)(s:BL):List BL:=if dA se s then se++[s] else se
def bf(n:BL)(hs:List j9)(se:List BL)(s:BL):List j9:=
 if dA se s then (bw hs (aB s) n).set (D' hs (aB s)) (dh ((bw hs (aB s) n).getD (D' hs (aB s)) b9) s) else hs
def av(t:l3)(s:BL):l3:={ t with se:=ax t.se s,hs:=bf t.na t.hs t.se s }
theorem fM(hs:List j9)(d n:BL):D' hs d<(bw hs d n).length:=by
 unfold bw;split;assumption;rename_i h;have:D' hs d<=hs.length:=List.findIdx_le_length;simp only[Zap,Zar,Zau];omega
theorem zq(hs:List j9)(d n:BL):(bw hs d n).length<=hs.length+1:=by
 unfold bw;split <;> simp
def oT(o:Option l3):l3:=o.getD ⟨[],0,[],[],[]⟩
def eI(n:BL):l3:=⟨n,0,[],[],[]⟩
def cf(n:BL)(s3:List BL):Option l3:=if cN n=true/\s3.length<=12 then some (s3.foldl av (eI n)) else none
structure Wg (n:BL) (k:Nat) (t:l3):Prop where
 na:t.na=n
 b7:t.b7=0
 lk:t.lk=[]
 hl:t.hs.length<=k
 sl:t.se.length<=k
 hs:∀ y,y∈t.hs->y.kn=false/\y.gr=⟨[n],[],0⟩/\y.td.length<=k/\y.re=0/\y.tr=0
theorem df{α:Type}{l:List α}{i:Nat}{a y:α}(h:y∈l.set i a):y=a\/y∈l:=by
 rcases List.mem_or_eq_of_mem_set h with h | h;exact .inr h;exact .inl h
theorem KO{n s:BL}{k:Nat}{t:l3}(h:Wg n k t):Wg n (k+1) (av t s):=by
 have hin:∀ d y,y∈bw t.hs d t.na->y.kn=false/\y.gr=⟨[n],[],0⟩/\y.td.length<=k/\y.re=0/\y.tr=0:=fun d y hy=>by
  unfold bw at hy;split at hy;exact h.hs y hy;rcases Zax.1 hy with hy | hy;exact h.hs y hy;rw[Zav.1 hy,h.na];simp[cW]
 refine⟨h.na,h.b7,h.lk,?_,?_,fun y hy=>?_⟩;show (bf t.na t.hs t.se s).length<=k+1;unfold bf;split;have:=zq t.hs (aB s) t.na;have:=h.hl;rw[List.length_set];omega;have:=h.hl;omega;show (ax t.se s).length<=k+1;unfold ax;have:=h.sl;split;simp;omega;omega;have hy:y∈bf t.na t.hs t.se s:=hy;unfold bf at hy;split at hy;rcases df hy with e | hy;have hm:(bw t.hs (aB s) t.na).getD (D' t.hs (aB s)) b9∈bw t.hs (aB s) t.na:=by
  rw[Zam,Zat (fM ..)];exact List.getElem_mem _
 obtain⟨a1,a2,a3,a4,a5⟩:=hin _ _ hm;rw[e];unfold dh;rw[if_neg (fun c=>by rw[a1]at c;cases c.1)];exact⟨a1,a2,Zc2,a4,a5⟩;obtain⟨a1,a2,a3,a4,a5⟩:=hin _ _ hy;exact⟨a1,a2,Zac,a4,a5⟩;obtain⟨a1,a2,a3,a4,a5⟩:=h.hs y hy;exact⟨a1,a2,Zac,a4,a5⟩
theorem uR(n:BL):∀ (l:List BL) {k:Nat} {t:l3},Wg n k t->Wg n (k+l.length) (l.foldl av t)
 | [],k,t,h=>h
 | a::r,k,t,h=>by
   have:=uR n r (KO (s:=a) h);rw[show k+(a::r).length=k+1+r.length from Zal];exact this
theorem wI(n:BL):Wg n 0 (eI n):=⟨rfl,rfl,rfl,by simp[eI],by simp[eI],fun y hy=>by simp[eI]at hy⟩
def bE(k:Int):Int:=if k=1 then 2 else if k=2 then 4 else if k=3 then 8 else 0
def iM(b7:Int)(x:Int×Int)(p:Nat×j9):Int×Int:=
 if p.2.td≠[]/\(x.1<0\/max p.2.re b7<x.2) then (p.1,max p.2.re b7) else x
def r7(t:l3)(i:Nat):Int×Int:=((t.hs.zipIdx.take i).map fun p=>(p.2,p.1)).foldl (iM t.b7) (-1,0)
def bb(t:l3):Option (Nat×Int):=
 if (r7 t t.hs.length).1<0\/5000<(r7 t t.hs.length).2 then none else some ((r7 t t.hs.length).1.toNat,(r7 t t.hs.length).2)
def dv(h:j9)(b7 k n:Int):j9:={ h with re:=b7+max (h.gr.wa:Int) 1+(if k=3 then bE (n+1) else 0) }
def mY(s:BL)(k:Int)(x:BL):List BL:=if k=1 then cG (oA (aT s)) x else if k=2 then [x] else []
def bn(h:j9)(se:List BL):Bool:=
 decide (h.td.length<=se.length)&&(h.td.all fun it=>aq it.ad&&(aB it.ad==h.na)&&se.contains it.ad&&w6 it.tr 0 2)&&decide (h.td.map (·.ad)).Nodup
def cB(h:j9)(n:BL):Bool:=
 dg h.na&&w6 h.re 0 5100&&w6 h.tr 0 2&&(h.gr.na==[n])&&
  (if h.kn=true then decide (h.gr.ru.length<=40)&&(h.gr.ru.all fun r=>aS r.path)&&w6 h.gr.wa 0 20 else decide (h.gr.ru=[]/\h.gr.wa=0))
def dt(lk:List n7)(b7:Int):Bool:=
 decide (lk.length<=400)&&((List.range lk.length).all fun i=>decide ((if i=0 then 0 else (lk.getD (i-1) r6).ti)<=(lk.getD i r6).ti)&&decide ((lk.getD i r6).ti<=b7)&&w6 (lk.getD i r6).ki 0 3&&aq (lk.getD i r6).ad)
def dJ(se:List BL):Bool:=decide (se.length<=60)&&decide se.Nodup&&se.all aq
def ab(t:l3):Bool:=cN t.na&&w6 t.b7 0 5000&&dJ t.se&&dt t.lk t.b7&&(t.hs.all fun h=>cB h t.na&&bn h t.se)&&decide (t.hs.map (·.na)).Nodup
structure F6 (h:j9):Prop where
 n:h.na.length<=1000
 r:h.gr.ru.length<=1000
 rp:∀ i,(h.gr.ru.getD i ⟨false,[]⟩).path.length<=1000
 g:h.gr.na.length<=1000
 t:h.td.length<=1000
 ta:∀ x,x∈h.td->x.ad.length<=1000/\w7 x.ad
structure m6 (t:l3):Prop where
 n:t.na.length<=1000
 h:t.hs.length<=1000
 s:t.se.length<=1000
 l:t.lk.length<=1000
 sa:∀ x,x∈t.se->x.length<=1000/\w7 x
 la:∀ x,x∈t.lk->x.ad.length<=1000/\w7 x.ad
 ha:∀ x,x∈t.hs->F6 x
abbrev ai(x:r3):V:=.agg [sV x.ad,iV x.tr]
abbrev ay(x:n7):V:=.agg [iV x.ti,sV x.ad,iV x.ki]
abbrev ae(h:j9):V:=.agg [sV h.na,iV h.re,bV h.kn,dk h.gr,iV h.tr,.ow 2 (h.td.map ai)]
abbrev bX(h:j9):V:=.agg [sV h.na,iV h.re,bV h.kn,dk h.gr,iV h.tr,.sl false (h.td.map ai)]
abbrev Lk(t:l3):V:=.agg [sV t.na,iV t.b7,.ow 8 (t.hs.map ae),.ow 1 (t.se.map sV),.ow 3 (t.lk.map ay)]
abbrev cQ(p0:List n7):V:=.sl false (p0.map ay)
abbrev dT(p0:List r3):V:=.sl false (p0.map ai)
abbrev ie(p0:List j9):V:=.sl false (p0.map bX)
abbrev bG(p0:BL)(p1:Int):V:=.agg [sV p0,iV p1]
abbrev cU(p0:Int)(p1:BL)(p2:Int):V:=.agg [iV p0,sV p1,iV p2]
abbrev OQ(p0:BL)(p1:Int)(p2:List j9)(p3:List BL)(p4:List n7):V:=.agg [sV p0,iV p1,.sl false (p2.map bX),.sl false (p3.map sV),.sl false (p4.map ay)]
abbrev OV(p0:BL)(p1:Int)(p2:Bool)(p3:List BL)(p4:List u0)(p5:Nat)(p6:Int)(p7:List r3):V:=.agg [sV p0,iV p1,bV p2,.agg [.sl false (p3.map sV),.sl false (p4.map aE),iN p5],iV p6,.sl false (p7.map ai)]
abbrev ag(y0:l3):V:=OQ y0.na y0.b7 y0.hs y0.se y0.lk
abbrev aH(y0:j9)(p7:List r3):V:=OV y0.na y0.re y0.kn y0.gr.na y0.gr.ru y0.gr.wa y0.tr p7
theorem Od(H:List BL)(a:BL):(hE (H++[a])).length=(hE H).length+(if a∈H then 0 else 1):=by
 rw[<- FT,Bv,EP];by_cases h:a∈H;rw[if_pos h,if_pos h,if_neg Zad];rfl;rw[if_neg h,if_neg h,if_pos rfl]
theorem Kx(H:List BL):(hE H).length=H.length↔H.Nodup:=by
 have key:∀ n,∀ H:List BL,H.length=n->(hE H).length<=H.length/\((hE H).length=H.length↔H.Nodup):=by
  intro n;induction n with
  | zero=>
    intro H h;obtain rfl:=Za5 h;exact⟨Zbc _,by simp[hE]⟩
  | succ n ih=>
    intro H h;obtain⟨L,a,rfl⟩:∃ L a,H=L++[a]:=⟨H.dropLast,H.getLast (by intro c;rw[c]at h;cases h),(List.dropLast_concat_getLast _).symm⟩;simp only[Zap,Zar,Zau]at h;obtain⟨h1,h2⟩:=ih L Zac;rw[Od];simp only[Zap,Zar,Zau];rw[List.nodup_append];by_cases c:a∈L;rw[if_pos c];exact⟨Zac,Zac,fun hn=>absurd rfl (hn.2.2 a c a Zad)⟩;rw[if_neg c];refine⟨Zac,fun e=>⟨h2.1 Zac,Zad,fun x hx y hy=>?_⟩,fun hn=>by have:=h2.2 hn.1;omega⟩;rintro rfl;exact c (by simpa using(Zav.1 hy) ▸ hx)
 exact(key _ H rfl).2
theorem kb{α:Type}{p:α->Bool}{d:α}{l:List α}(h:∀ j,j<l.length->p (l.getD j d)=true):l.all p=true:=by
 rw[Za2];intro x hx;obtain⟨j,hj,rfl⟩:=Zbg.1 hx;have:=h j hj
 rwa [Zam,Zat hj]at this
theorem sk{α:Type}{p:α->Bool}{d:α}{l:List α}{i:Nat}(hi:i<l.length)(h:p (l.getD i d)=false):l.all p=false:=by
 rw[Zam,Zat hi]at h;rw[Bool.eq_false_iff];intro c;rw[Za2]at c;have:=c _ (List.getElem_mem hi);simp only[Option.getD_some]at h;rw[h]at this;cases this
theorem gn{l:List BL}{i:Nat}(h:i<l.length):l.getD i []∈l:=by
 rw[Zam,Zat h];exact List.getElem_mem h
theorem ar{α:Type}{l:List α}{d:α}{i:Nat}(h:i<l.length):l.getD i d∈l:=by
 rw[Zam,Zat h];exact List.getElem_mem h
theorem Ib{l:List BL}(h:60<(l.length:Int)\/¬ l.Nodup):dJ l=false:=by
 unfold dJ;rcases h with h | h;rw[decide_eq_false Zac];rfl;rw[decide_eq_false h];simp
theorem Hs{l:List BL}{i:Nat}(hi:i<l.length)(h:aq (l.getD i [])=false):dJ l=false:=by
 unfold dJ;rw[sk hi h];simp
theorem rR{l:List BL}(h:(l.length:Int)<=60/\l.Nodup)(h2:∀ j,j<l.length->aq (l.getD j [])=true):dJ l=true:=by
 unfold dJ;rw[kb h2,decide_eq_true h.2,decide_eq_true Zac];rfl
def nT(lk:List n7)(b7:Int)(i:Nat):Bool:=decide ((if i=0 then 0 else (lk.getD (i-1) r6).ti)<=(lk.getD i r6).ti)&&decide ((lk.getD i r6).ti<=b7)&&w6 (lk.getD i r6).ki 0 3&&aq (lk.getD i r6).ad
theorem GY{lk:List n7}{b7:Int}(h:400<(lk.length:Int)):dt lk b7=false:=by
 unfold dt;rw[decide_eq_false Zac];rfl
theorem zP{lk:List n7}{b7:Int}{i:Nat}(hi:i<lk.length)(h:nT lk b7 i=false):dt lk b7=false:=by
 unfold dt;rw[Bool.and_eq_false_iff];right;rw[Bool.eq_false_iff];intro c;rw[Za2]at c;have:=c i (List.mem_range.2 hi);unfold nT at h;rw[h]at this;cases this
theorem qc{lk:List n7}{b7:Int}(h:(lk.length:Int)<=400)(h2:∀ j,j<lk.length->nT lk b7 j=true):dt lk b7=true:=by
 unfold dt;rw[decide_eq_true Zac,Bool.true_and,Za2];exact fun i hi=>h2 i (List.mem_range.1 hi)
theorem NG{lk:List n7}{b7 la:Int}{i:Nat}(h2:la=if i=0 then 0 else (lk.getD (i-1) r6).ti)(h3:w6 (lk.getD i r6).ti la b7=true/\w6 (lk.getD i r6).ki 0 3=true)(h4:aq (lk.getD i r6).ad=true):nT lk b7 i=true:=by
 unfold nT;rw[<- h2,h3.2,h4];have:=h3.1;unfold w6 at this;rw[Zbk]at this;rw[decide_eq_true this.1,decide_eq_true this.2];rfl
theorem LJ{lk:List n7}{b7 la:Int}{i:Nat}(h2:la=if i=0 then 0 else (lk.getD (i-1) r6).ti)(h3:w6 (lk.getD i r6).ti la b7=false\/w6 (lk.getD i r6).ki 0 3=false):nT lk b7 i=false:=by
 unfold nT;rw[<- h2];rcases h3 with h | h;unfold w6 at h;rw[Bool.decide_and]at h;rw[h];rfl;rw[h];simp
theorem Mz{lk:List n7}{b7:Int}{i:Nat}(h:aq (lk.getD i r6).ad=false):nT lk b7 i=false:=by
 unfold nT;rw[h];simp
theorem xw{l:List BL}{n:BL}(h:(l.length:Int)=1/\l.getD 0 []=n):l=[n]:=by
 obtain⟨h1,h2⟩:=h
 match l,h1 with
 | [x],_=>rw[<- h2];rfl
theorem LP{h:j9}{n:BL}(hb:(dg h.na=false\/w6 h.re 0 5100=false)\/w6 h.tr 0 2=false):cB h n=false:=by
 unfold cB;rcases hb with (e | e) | e <;> rw[e] <;> simp
theorem Mg{h:j9}{n:BL}(hb: ¬ (h.gr.na.length:Int)=1\/¬ h.gr.na.getD 0 []=n):cB h n=false:=by
 unfold cB;rw[show (h.gr.na==[n])=false from by rw[beq_eq_false_iff_ne];intro c;rw[c]at hb;simp at hb];simp
theorem Mr{h:j9}{n:BL}(h1:(dg h.na=true/\w6 h.re 0 5100=true)/\w6 h.tr 0 2=true)(h2:(h.gr.na.length:Int)=1/\h.gr.na.getD 0 []=n)(h3:h.kn=false):cB h n=(r4 (h.gr.ru.length:Int) 0&&r4 (h.gr.wa:Int) 0):=by
 unfold cB;rw[h1.1.1,h1.1.2,h1.2,xw h2,h3];rw[Za6];simp
theorem LR{h:j9}{n:BL}(h1:(dg h.na=true/\w6 h.re 0 5100=true)/\w6 h.tr 0 2=true)(h2:(h.gr.na.length:Int)=1/\h.gr.na.getD 0 []=n)(h3:h.kn=true):cB h n=((M6 (h.gr.ru.length:Int) 40&&(h.gr.ru.all fun r=>aS r.path))&&w6 (h.gr.wa:Int) 0 20):=by
 unfold cB;rw[h1.1.1,h1.1.2,h1.2,xw h2,h3];simp;congr 2;rw[Za6];simp;omega
def Vt(h:j9)(se:List BL)(it:r3):Bool:=aq it.ad&&(aB it.ad==h.na)&&se.contains it.ad&&w6 it.tr 0 2
theorem Pj{h:j9}{se:List BL}{it:r3}(h1:((bM it.ad).isSome=true/\(oA (bM it.ad)).l5=h.na)/\se.contains it.ad=true)(h2:w6 it.tr 0 2=true):Vt h se it=true:=by
 unfold Vt aB;have h3:=h1.1.1;rw[kM]at h3;have h4:=h1.1.2;rw[show bM it.ad=aT it.ad from if_pos h3]at h4;rw[h3,h4,h1.2,h2];simp
theorem MU{h:j9}{se:List BL}{it:r3}(h1:((bM it.ad).isSome=false\/¬ (oA (bM it.ad)).l5=h.na)\/se.contains it.ad=false):Vt h se it=false:=by
 unfold Vt aB;by_cases h3:aq it.ad=true;rw[kM,show bM it.ad=aT it.ad from if_pos h3]at h1;rcases h1 with (e | e) | e;rw[e]at h3;cases h3;rw[beq_eq_false_iff_ne.2 e];simp;rw[e];simp;rw[Bool.not_eq_true]at h3;rw[h3];simp
theorem NV{h:j9}{se:List BL}{it:r3}(h1:w6 it.tr 0 2=false):Vt h se it=false:=by
 unfold Vt;rw[h1];simp
theorem II{h:j9}{se:List BL}(e:(se.length:Int)<(h.td.length:Int)):bn h se=false:=by
 unfold bn;rw[decide_eq_false Zac];rfl
theorem BR{h:j9}{se:List BL}{i:Nat}(hi:i<h.td.length)(e:Vt h se (h.td.getD i j6)=false):bn h se=false:=by
 show (decide (h.td.length<=se.length)&&h.td.all (Vt h se)&&decide (h.td.map (·.ad)).Nodup)=false;rw[sk (d:=j6) hi e];simp
theorem Iz{h:j9}{se:List BL}(e:(h.td.length:Int)<=(se.length:Int))(e2:∀ j,j<h.td.length->Vt h se (h.td.getD j j6)=true):bn h se=decide (h.td.map (·.ad)).Nodup:=by
 show (decide (h.td.length<=se.length)&&h.td.all (Vt h se)&&decide (h.td.map (·.ad)).Nodup)=_;rw[kb (d:=j6) e2,decide_eq_true Zac];simp
theorem JQ{t:l3}(h:cN t.na=false\/w6 t.b7 0 5000=false):ab t=false:=by
 unfold ab;rcases h with e | e <;> rw[e] <;> simp
theorem JT{t:l3}(h:dJ t.se=false\/dt t.lk t.b7=false):ab t=false:=by
 unfold ab;rcases h with e | e <;> rw[e] <;> simp
theorem Kw{t:l3}{i:Nat}(hi:i<t.hs.length)(h:cB (t.hs.getD i b9) t.na=false\/bn (t.hs.getD i b9) t.se=false):ab t=false:=by
 unfold ab;rw[sk (p:=fun h=>cB h t.na&&bn h t.se) (d:=b9) hi (by rcases h with e | e <;> rw[e] <;> simp)];simp
theorem JA{t:l3}(h1:cN t.na=true/\w6 t.b7 0 5000=true)(h2:dJ t.se=true/\dt t.lk t.b7=true)(h3:∀ j,j<t.hs.length->(cB (t.hs.getD j b9) t.na&&bn (t.hs.getD j b9) t.se)=true):ab t=decide (t.hs.map (·.na)).Nodup:=by
 unfold ab;rw[h1.1,h1.2,h2.1,h2.2,kb (p:=fun h=>cB h t.na&&bn h t.se) (d:=b9) h3];simp
def fe(a x b:Int):aG:=.mk 31 [iV a,iV x,iV b] [] True (bV (w6 x a b)) [] (by
 intro _
 refine aA Tryz.func31
  (.q 1<|.q 9<|.nil)
  (Pk (M6 a x) ((M6 a x)==true) true/\Q (bV ((M6 a x)&&(M6 x b))) (bV (w6 x a b))) ?_
 refine az ?_;unfold Q;refine Zbm bV ?_;unfold w6;exact(Bool.decide_and ..).symm)
def nE(l:List BL):aG:=.mk 36 [aJ l] [] (l.length<=1000000) (bV (decide l.Nodup)) [] (by
 intro hl
 refine aA Tryz.func36
  (.q 1<|.cu mmC (fun g6=>.q 1<|.q 3<|.loop (Nat×Nat) (fun (i,gm)=>⟨[(0,aJ l),(3,.om (hE (l.take i)) gm),(7,aJ l),(8,iN l.length),(9,iN i)],[]⟩) (fun (i,gm)=>i<=l.length) (fun (i,gm)=>l.length-i) (fun (i,gm)=>.q 1<|.br (.r 3 [sV (l.getD i [])]<|.q 2<|.cu (lkO 3 (hE (l.take i)) (l.getD i []) (iN ((l.take i).count (l.getD i [])))) (fun _=>.q 1<|.cu (muC 3 (hE (l.take i)) (l.getD i []) (.int .i64 ((((l.take i).count (l.getD i []))+1:Nat):Int))) (fun _=>.h (.o9 3 (.om (hE (l.take i++[l.getD i []])) gm))<|.q 2<|.nil))) (.q 1<|.cu (mlC 3) (fun _=>.q 4<|.nil)))))
  (True/\∀ g6:Nat,(∃ x:Nat×Nat,match x with | (j7,gm₀)=>(j7<=l.length)/\E (aJ l)/\Q (.om [] g6) (.om (hE (l.take j7)) gm₀)/\E (aJ l)/\Q (iN ((l.map sV).length)) (iN l.length)/\Q (iN 0) (iN j7)/\True)/\∀ x:Nat×Nat,match x with | (i,gm)=>(i<=l.length)->(fun v1:Int=>Br (s4 (i:Int) (l.length:Int)) (Ex (i:Int) (l.map sV) (sV (l.getD i []))/\True/\(((gm:Nat)=gm/\(hE (l.take i):List (BL×Value))=hE (l.take i))/\((sV (l.getD i []):V)=sV (l.getD i []))/\((∃ y,dL (hE (l.take i)) (l.getD i [])=some y/\(iN ((l.take i).count (l.getD i [])):V).val? =some y)\/(dL (hE (l.take i)) (l.getD i [])=none/\∃ y,(iN ((l.take i).count (l.getD i [])):V).val? =some y/\∀ w,(zeroValue 3).run Tryz.prog w=.ok y w)))/\∀ _:Unit,n8 ((((l.take i).count (l.getD i []):Nat):Int)+1)/\(((gm:Nat)=gm/\(hE (l.take i):List (BL×Value))=hE (l.take i))/\((sV (l.getD i []):V)=sV (l.getD i []))/\(iN (((l.take i).count (l.getD i []))+1):V).val? =some (.int .i64 v1))/\∀ _:Unit,((.om (iK (hE (l.take i)) (l.getD i []) (.int .i64 v1)) gm:V)=.om (hE (l.take i++[l.getD i []])) gm)/\n8 ((i:Int)+1)/\∃ x:Nat×Nat,match x with | (e9,gm₂)=>(e9<=l.length)/\(l.length-e9<l.length-i)/\E (aJ l)/\Q (.om (hE (l.take i++[l.getD i []])) gm) (.om (hE (l.take e9)) gm₂)/\E (aJ l)/\E (iN l.length)/\Q (iN (i+1)) (iN e9)/\True) (((gm:Nat)=gm)/\∀ _:Unit,Q (bV (r4 (((hE (l.take i)).length:Nat):Int) (((l.map sV).length:Nat):Int))) (bV (decide l.Nodup)))) ((((l.take i).count (l.getD i []))+1:Nat):Int)) ?_
 refine az fun g6=>⟨⟨(0,g6),?_,rfl,Zah,rfl,Zah,aI⟩,?_⟩;simp;rintro⟨i,gm⟩ h1;refine bI (fun l4=>?_) fun l4=>?_;refine⟨Zcg,trivial,bJ (Nl (l.take i) (l.getD i [])),fun _=>⟨by have hc:(l.take i).count (l.getD i [])<=(l.take i).length:=List.count_le_length;simp only[List.length_take]at hc;omega,aI,fun _=>⟨Zbm (V.om · gm) (FT (l.take i) (l.getD i [])),az ⟨(i+1,gm),?_,?_,rfl,by rw[aZ Zac []],aI⟩⟩⟩⟩;omega;exact Zak;refine⟨rfl,fun _=>?_⟩;rw[show i=l.length from Zac,Zaz (Zbc _)];refine Zbm bV ?_;rw[Za6];simp only[nb];rw[<- Kx];omega)
def Dr(l:List BL):aG:=.mk 32 [aJ l] [] ((l.length<=100000)/\(∀ x,x∈l->x.length<=1000/\w7 x)) (bV (dJ l)) [] (by
 rintro⟨hl,ha⟩
 refine aA Tryz.func32
  (.q 1<|.q 5<|.cg (nE l)<|.q 2<|.br (.q 1<|.nil) (.q 3<|.loop Nat (fun i=>⟨[(13,aJ l),(14,iN l.length),(15,iN i)],[]⟩) (fun i=>i<=l.length/\∀ j,j<i->aq (l.getD j [])=true) (fun i=>l.length-i) (fun i=>.q 1<|.br (.r 3 [sV (l.getD i [])]<|.q 1<|.c (jg (l.getD i [])) []<|.q 1<|.br (.q 1<|.nil) (.q 2<|.nil)) (.q 1<|.nil))))
  ((fun (v2:Bool) (v1:Nat->Prop)=>(Gd (v2==false) (((l.length<=1000000))/\(nE l).sm)/\Pk v2 true (v2==false)/\Br (v2||(!(decide l.Nodup))) (Q (bV false) (bV (dJ l))) ((∃ j7:Nat,(v1 j7)/\E (aJ l)/\Q (iN ((l.map sV).length)) (iN l.length)/\Q (iN 0) (iN j7)/\True)/\∀ i:Nat,(v1 i)->Br (s4 (i:Int) (l.length:Int)) (Ex (i:Int) (l.map sV) (sV (l.getD i []))/\True/\(jg (l.getD i [])).sm/\(((l.getD i []).length<=1000000)/\(w7 (l.getD i [])))/\Br (!(aq (l.getD i []))) (Q (bV false) (bV (dJ l))) (n8 ((i:Int)+1)/\∃ e9:Nat,(v1 e9)/\(l.length-e9<l.length-i)/\E (aJ l)/\E (iN l.length)/\Q (iN (i+1)) (iN e9)/\True)) (Q (bV true) (bV (dJ l)))))) (s9 (((l.map sV).length:Nat):Int) 60) (fun j7:Nat=>j7<=l.length/\∀ j,j<j7->aq (l.getD j [])=true)) ?_
 refine⟨fun hG=>⟨Zcr,rfl⟩,az (bI (fun l4=>?_) fun l4=>?_)⟩;rw[Ib l4];refine⟨⟨0,?_,rfl,Zah,aI⟩,?_⟩;simp;rintro i ⟨h1,h2⟩;refine bI (fun l6=>?_) fun l6=>?_;have L4:=ha _ (gn (show i<l.length by omega));refine⟨Zcg,trivial,rfl,az (L4.2),bI (fun n9=>?_) fun n9=>?_⟩;rw[Hs (i:=i) Zac Zdc];refine az ⟨i+1,?_,?_,aI⟩;exact⟨Zac,Zdm⟩;exact Zak;rw[rR l4 (fun j hj=>h2 j Zac)])
def BU(rs:List u0):aG:=.mk 63 [cR rs] [] ((rs.length<=100000)/\(∀ i,(rs.getD i ⟨false,[]⟩).path.length<=1000000)) (bV (rs.all fun r=>aS r.path)) [] (by
 rintro⟨hl,ha⟩
 refine aA Tryz.func63
  (.q 1<|.q 3<|.loop Nat (fun i=>⟨[(5,cR rs),(6,iN rs.length),(7,iN i)],[]⟩) (fun i=>i<=rs.length/\∀ j,j<i->aS (rs.getD j ⟨false,[]⟩).path=true) (fun i=>rs.length-i) (fun i=>.q 1<|.br (.r 2 [dD ((rs.getD i (⟨false,[]⟩:u0)).z8) ((rs.getD i (⟨false,[]⟩:u0)).path)]<|.al uW (fun g4=>.st none<|.r 2 [.c9]<|.c (nO ((rs.getD i (⟨false,[]⟩:u0)).path)) []<|.q 1<|.br (.q 1<|.nil) (.q 2<|.nil))) (.q 1<|.nil)))
  ((fun (v2:u0) (v1:Nat->Prop)=>((∃ j7:Nat,(v1 j7)/\E (cR rs)/\Q (iN ((rs.map aE).length)) (iN rs.length)/\Q (iN 0) (iN j7)/\True)/\∀ i:Nat,(v1 i)->Br (s4 (i:Int) (rs.length:Int)) (Ex (i:Int) (rs.map aE) (dD ((rs.getD i v2).z8) ((rs.getD i v2).path))/\True/\∀ g4:Nat,Z g4 0/\Z g4 1/\(nO ((rs.getD i v2).path)).sm/\((((rs.getD i v2).path).length<=4611686018427387904))/\Br (!(fo ((rs.getD i v2).path))) (Q (bV false) (bV (rs.all fun r=>aS r.path))) (n8 ((i:Int)+1)/\∃ e9:Nat,(v1 e9)/\(rs.length-e9<rs.length-i)/\E (cR rs)/\E (iN rs.length)/\Q (iN (i+1)) (iN e9)/\True)) (Q (bV true) (bV (rs.all fun r=>aS r.path))))) (⟨false,[]⟩:u0) (fun j7:Nat=>j7<=rs.length/\∀ j,j<j7->aS (rs.getD j ⟨false,[]⟩).path=true)) ?_
 refine⟨⟨0,?_,rfl,Zah,aI⟩,?_⟩;simp;rintro i ⟨h1,h2⟩;refine bI (fun l4=>?_) fun l4=>?_;refine⟨Zcs,az fun g4=>⟨rfl,rfl,rfl,by have:=ha i;omega,bI (fun l6=>?_) fun l6=>?_⟩⟩;unfold Q;refine Zbm bV ?_;symm;exact sk (d:=⟨false,[]⟩) (i:=i) Zac (by rw[tL]at l6;exact l6);refine az ⟨i+1,?_,?_,aI⟩;exact⟨Zac,bm h2 (by rw[tL]at l6;exact l6)⟩;exact Zak;unfold Q;refine Zbm bV ?_;symm;exact kb (d:=⟨false,[]⟩) (fun j hj=>h2 j Zac))
abbrev mz(lk:List n7)(b7:Int)(i:Nat)(la:Int):Prop:=i<=lk.length/\la=(if i=0 then 0 else (lk.getD (i-1) r6).ti)/\∀ j,j<i->nT lk b7 j=true
def BS(lk:List n7)(b7:Int):aG:=.mk 33 [cQ lk,iV b7] [] ((lk.length<=100000)/\(∀ x,x∈lk->x.ad.length<=1000/\w7 x.ad)) (bV (dt lk b7)) [] (by
 rintro⟨hl,ha⟩
 refine aA Tryz.func33
  (.q 1<|.q 3<|.br (.q 1<|.nil) (.q 1<|.q 3<|.loop (Nat×Int) (fun (i,la)=>⟨[(1,iV b7),(5,iV la),(11,cQ lk),(12,iN lk.length),(13,iN i)],[]⟩) (fun (i,la)=>mz lk b7 i la) (fun (i,la)=>lk.length-i) (fun (i,la)=>.q 1<|.br (.r 2 [cU ((lk.getD i r6).ti) ((lk.getD i r6).ad) ((lk.getD i r6).ki)]<|.al mT (fun g7=>.st none<|.r 4 [.c9]<|.c (fe la ((lk.getD i r6).ti) b7) []<|.r 4 [.c9]<|.cg (fe (0:Int) ((lk.getD i r6).ki) (3:Int))<|.q 2<|.br (.q 1<|.nil) (.r 2 [.c9]<|.c (jg ((lk.getD i r6).ad)) []<|.q 1<|.br (.q 1<|.nil) (.r 3 [.c9]<|.q 2<|.nil)))) (.q 1<|.nil))))
  (Br (s9 (((lk.map ay).length:Nat):Int) 400) (Q (bV false) (bV (dt lk b7))) ((∃ x:Nat×Int,match x with | (j7,Xv)=>(mz lk b7 j7 Xv)/\E (iV b7)/\Q (iN 0) (iV Xv)/\E (cQ lk)/\Q (iN ((lk.map ay).length)) (iN lk.length)/\Q (iN 0) (iN j7)/\True)/\∀ x:Nat×Int,match x with | (i,la)=>(mz lk b7 i la)->(fun v1:Bool=>Br (s4 (i:Int) (lk.length:Int)) (Ex (i:Int) (lk.map ay) (cU ((lk.getD i r6).ti) ((lk.getD i r6).ad) ((lk.getD i r6).ki))/\True/\∀ g7:Nat,Z g7 0/\Z g7 0/\(fe la ((lk.getD i r6).ti) b7).sm/\(True)/\Gd (v1==false) (Z g7 2)/\Gd (v1==false) ((True)/\(fe (0:Int) ((lk.getD i r6).ki) (3:Int)).sm)/\Pk v1 true (v1==false)/\Br (v1||(!(w6 ((lk.getD i r6).ki) (0:Int) (3:Int)))) (Q (bV false) (bV (dt lk b7))) (Z g7 1/\(jg ((lk.getD i r6).ad)).sm/\((((lk.getD i r6).ad).length<=1000000)/\(w7 ((lk.getD i r6).ad)))/\Br (!(aq ((lk.getD i r6).ad))) (Q (bV false) (bV (dt lk b7))) (Z g7 0/\n8 ((i:Int)+1)/\∃ x:Nat×Int,match x with | (e9,Xu)=>(mz lk b7 e9 Xu)/\(lk.length-e9<lk.length-i)/\E (iV b7)/\Q (iV ((lk.getD i r6).ti)) (iV Xu)/\E (cQ lk)/\E (iN lk.length)/\Q (iN (i+1)) (iN e9)/\True))) (Q (bV true) (bV (dt lk b7)))) (!(w6 ((lk.getD i r6).ti) la b7)))) ?_
 refine bI (fun l4=>?_) fun l4=>?_;rw[GY l4];refine⟨⟨(0,0),?_,rfl,Zah,rfl,Zah,aI⟩,?_⟩;unfold mz;simp;rintro⟨i,la⟩ ⟨h1,h2,h3⟩;refine bI (fun l6=>?_) fun l6=>?_;have L4:=ha _ (ar (d:=r6) (show i<lk.length by omega));refine⟨az (ah (d:=r6) Zac),az fun g7=>Dd (bI (fun n9=>?_) fun n9=>?_)⟩;rw[zP (i:=i) Zac (LJ h2 n9)];refine⟨rfl,rfl,az (L4.2),bI (fun B6=>?_) fun B6=>?_⟩;rw[zP (i:=i) Zac (Mz (by simpa using B6))];refine bJ ⟨(i+1,(lk.getD i r6).ti),?_,?_,aI⟩;unfold mz;exact⟨Zac,Zad,bm h3 (NG h2 n9 (by simpa using B6))⟩;exact Zak;rw[qc l4 (fun j hj=>h3 j Zac)])
def BG(y:j9)(n:BL):aG:=.mk 34 [aH y y.td,sV n] [] (F6 y) (bV (cB y n)) [] (by
 intro hh
 refine aA Tryz.func34
  (.bx (fun g2=>.q 1<|.r 2 [.c9]<|.c (sE y.na) []<|.r 4 [.c9]<|.cg (fe (0:Int) y.re (5100:Int))<|.r 5 [.c9]<|.cg (fe (0:Int) y.tr (2:Int))<|.q 2<|.br (.q 1<|.nil) (.r 2 [.c9]<|.al iU (fun g5=>.st none<|.r 12 [.c9,.c9,sV (y.gr.na.getD 0 [])]<|.br (.q 1<|.nil) (.r 3 [.c9]<|.br (.r 10 [.c9,.c9]<|.nil) (.r 7 [.c9,.c9]<|.cg (BU y.gr.ru)<|.r 4 [.c9]<|.cg (fe (0:Int) (y.gr.wa:Int) (20:Int))<|.q 2<|.nil))))))
  ((fun (v4 v3 v2:Bool) (v1:Int)=>(∀ g2:Nat,Z g2 0/\(sE y.na).sm/\((y.na.length<=4611686018427387904))/\Gd (v4==false) (Z g2 1)/\Gd (v4==false) ((True)/\(fe (0:Int) y.re (5100:Int)).sm)/\Pk v4 true (v4==false)/\Gd ((v4||v3)==false) (Z g2 6)/\Gd ((v4||v3)==false) ((True)/\(fe (0:Int) y.tr (2:Int)).sm)/\Pk (v4||v3) true ((v4||v3)==false)/\Br ((v4||v3)||(!(w6 y.tr (0:Int) (2:Int)))) (Q (bV false) (bV (cB y n))) (Z g2 3/\∀ g5:Nat,Z g5 0/\Z g5 0/\Gd (v2==false) (Z g5 0)/\Gd (v2==false) (Ex 0 (y.gr.na.map sV) (sV (y.gr.na.getD 0 [])))/\Gd (v2==false) True/\Pk v2 true (v2==false)/\Br (v2||(!((y.gr.na.getD 0 [])==n))) (Q (bV false) (bV (cB y n))) (Z g2 2/\Br (!y.kn) (Z g5 1/\Gd ((r4 v1 0)==true) (Z g5 2)/\Pk (r4 v1 0) ((r4 v1 0)==true) true/\Q (bV ((r4 v1 0)&&(r4 (y.gr.wa:Int) 0))) (bV (cB y n))) (Z g5 1/\Gd ((M6 v1 40)==true) (Z g5 1)/\Gd ((M6 v1 40)==true) (((y.gr.ru.length<=100000)/\(∀ i,(y.gr.ru.getD i ⟨false,[]⟩).path.length<=1000000))/\(BU y.gr.ru).sm)/\Pk (M6 v1 40) ((M6 v1 40)==true) true/\Gd (((M6 v1 40)&&(y.gr.ru.all fun r=>aS r.path))==true) (Z g5 2)/\Gd (((M6 v1 40)&&(y.gr.ru.all fun r=>aS r.path))==true) ((True)/\(fe (0:Int) (y.gr.wa:Int) (20:Int)).sm)/\Pk ((M6 v1 40)&&(y.gr.ru.all fun r=>aS r.path)) (((M6 v1 40)&&(y.gr.ru.all fun r=>aS r.path))==true) true/\Q (bV (((M6 v1 40)&&(y.gr.ru.all fun r=>aS r.path))&&(w6 (y.gr.wa:Int) (0:Int) (20:Int)))) (bV (cB y n))))))) (!(dg y.na)) (!(w6 y.re (0:Int) (5100:Int))) (G0 (((y.gr.na.map sV).length:Nat):Int) 1) (((y.gr.ru.map aE).length:Nat):Int)) ?_
 intro g2;refine⟨rfl,rfl,by have:=hh.n;omega,pw (bI (fun l4=>?_) fun l4=>?_)⟩;rw[LP l4];refine⟨rfl,fun g5=>bN ⟨fun hG=>Zd4,bJ (bI (fun l6=>?_) fun l6=>?_)⟩⟩;rw[Mg l6];refine⟨rfl,bI (fun n9=>?_) fun n9=>?_⟩;refine bN ?_;rw[Zay,Mr l4 l6 n9];refine bJ ⟨fun hG=>⟨⟨by(try simp only[nb]at hG);have:=hh.r;omega,fun i=>by have:=hh.rp i;omega⟩,rfl⟩,dM ?_⟩;rw[Zay,LR l4 l6 n9])
abbrev nQ(y:j9)(se:List BL)(i:Nat)(o:List BL)(g f k:Nat):Prop:=i<=y.td.length/\o=(y.td.take i).map (·.ad)/\∀ j,j<i->Vt y se (y.td.getD j j6)=true
def Ej(y:j9)(se:List BL):aG:=.mk 35 [aH y y.td,aJ se] [] ((F6 y)/\(se.length<=100000)) (bV (bn y se)) [] (by
 rintro⟨hh,hs⟩;have Ty:=hh.t
 refine aA Tryz.func35
  (.bx (fun g2=>.q 1<|.r 6 [.c9]<|.br (.q 1<|.nil) (.q 1<|.r 4 [.c9]<|.h (.O8 5 1)<|.loop (Nat×(List BL)×Nat×Nat×Nat) (fun (i,o,g,f,k)=>⟨[(1,aJ se),(2,kp 2 g2),(5,.own 1 (o.map sV) g f k),(17,dT y.td),(18,iN y.td.length),(19,iN i)],[(2,(g2,aH y y.td))]⟩) (fun (i,o,g,f,k)=>nQ y se i o g f k) (fun (i,o,g,f,k)=>y.td.length-i) (fun (i,o,g,f,k)=>.q 1<|.br (.r 2 [bG ((y.td.getD i j6).ad) ((y.td.getD i j6).tr)]<|.al kX (fun g7=>.st none<|.r 2 [.c9]<|.c (fm ((y.td.getD i j6).ad)) []<|.q 3<|.al dC (fun g8=>.st none<|.q 1<|.r 13 [.c9,.c9,.c9]<|.cg (xH se ((y.td.getD i j6).ad))<|.q 2<|.br (.q 1<|.nil) (.r 2 [.c9]<|.c (fe (0:Int) ((y.td.getD i j6).tr) (2:Int)) []<|.q 1<|.br (.q 1<|.nil) (.r 3 [.c9]<|.bs<|.ap (fun XV Xk X5=>.h (.o9 53 (.own 1 ((o++[(y.td.getD i j6).ad]).map sV) XV Xk X5))<|.q 1<|.q 2<|.nil)))))) (.h (.fz 5)<|.h (.o9 5 (aJ o))<|.q 1<|.c (nE o) []<|.q 1<|.nil)))))
  (∀ g2:Nat,Z g2 7/\Br (s9 (((y.td.map ai).length:Nat):Int) (((se.map sV).length:Nat):Int)) (Q (bV false) (bV (bn y se))) (Z g2 7/\(∃ x:Nat×(List BL)×Nat×Nat×Nat,match x with | (j7,A6,E2,G9,m9)=>(nQ y se j7 A6 E2 G9 m9)/\E (aJ se)/\E (kp 2 g2)/\Q (.own 1 ([].map sV) 0 0 0) (.own 1 (A6.map sV) E2 G9 m9)/\E (dT y.td)/\Q (iN ((y.td.map ai).length)) (iN y.td.length)/\Q (iN 0) (iN j7)/\Er g2 (aH y y.td)/\True)/\∀ x:Nat×(List BL)×Nat×Nat×Nat,match x with | (i,o,g,f,k)=>(nQ y se i o g f k)->(fun v1:r3=>(fun (v4:List V) (v3 v2:Bool)=>Br (s4 (i:Int) (y.td.length:Int)) (Ex (i:Int) (y.td.map ai) (bG (v1.ad) (v1.tr))/\True/\∀ g7:Nat,Z g7 0/\Z g7 0/\(fm (v1.ad)).sm/\(((v1.ad).length<=1000000)/\(w7 (v1.ad)))/\∀ g8:Nat,Z g8 0/\Gd (v2==false) (Z g8 0)/\Gd (v2==false) (Z g2 0)/\Pk v2 true (v2==false)/\Gd ((v2||v3)==false) (Z g7 0)/\Gd ((v2||v3)==false) (((se.length<=1000000))/\(xH se (v1.ad)).sm)/\Pk (v2||v3) true ((v2||v3)==false)/\Br ((v2||v3)||(!(se.contains (v1.ad)))) (Q (bV false) (bV (bn y se))) (Z g7 1/\(fe (0:Int) (v1.tr) (2:Int)).sm/\(True)/\Br (!(w6 (v1.tr) (0:Int) (2:Int))) (Q (bV false) (bV (bn y se))) (Z g7 0/\((1,1,g,f,k,(o.map sV).length)=(1,1,g,f,k,(o.map sV).length))/\(True)/\(V.aK v4=false)/\(aX 1 v4)/\(((o.map sV).length+v4.length)*16<=140737488355328)/\∀ XV Xk X5:Nat,((.own 1 ((o.map sV)++v4) XV Xk X5:V)=.own 1 ((o++[v1.ad]).map sV) XV Xk X5)/\n8 ((i:Int)+1)/\∃ x:Nat×(List BL)×Nat×Nat×Nat,match x with | (e9,o5,x6,x5,k₂)=>(nQ y se e9 o5 x6 x5 k₂)/\(y.td.length-e9<y.td.length-i)/\E (aJ se)/\E (kp 2 g2)/\Q (.own 1 ((o++[v1.ad]).map sV) XV Xk X5) (.own 1 (o5.map sV) x6 x5 k₂)/\E (dT y.td)/\E (iN y.td.length)/\Q (iN (i+1)) (iN e9)/\Er g2 (aH y y.td)/\True))) (((.sl false (V.G4 (o.map sV)):V)=aJ o)/\(nE o).sm/\((o.length<=1000000))/\Q (bV (decide o.Nodup)) (bV (bn y se)))) ([sV (v1.ad)]:List V) (!(((oA (bM (v1.ad))).l5)==y.na)) (!((bM (v1.ad)).isSome))) (y.td.getD i j6))) ?_
 intro g2;refine⟨rfl,bI (fun l4=>?_) fun l4=>?_⟩;rw[II l4];refine⟨rfl,⟨⟨(0,[],0,0,0),?_,dM ⟨Zah,aI⟩⟩,?_⟩⟩;unfold nQ;simp;rintro⟨i,o,g,f,k⟩ ⟨h1,h2,h3⟩;refine bI (fun l6=>?_) fun l6=>?_;have L4:=hh.ta _ (ar (d:=j6) (show i<y.td.length by omega));have XJ:o.length=i:=Zd5
 refine⟨az (ah (d:=j6) Zac),az fun g7=>⟨rfl,rfl,rfl,az (L4.2),fun g8=>fQ ⟨fun hG=>⟨Zcr,rfl⟩,az (bI (fun n9=>?_) fun n9=>?_)⟩⟩⟩;rw[BR (i:=i) Zac (MU n9)];refine bN (bI (fun B6=>?_) fun B6=>?_);rw[BR (i:=i) Zac (NV B6)];refine fQ ⟨Zal,fun XV Xk X5=>⟨Zbm (V.own 1 · XV Xk X5) Zad,az ⟨(i+1,o++[(y.td.getD i j6).ad],XV,Xk,X5),?_,?_,aI⟩⟩⟩;unfold nQ;exact⟨Zac,by rw[aZ Zac j6,Zbb,<- h2];rfl,bm h3 (Pj n9 B6)⟩;exact Zak;refine⟨Zcf,rfl,Zd5,?_⟩;rw[Iz l4 (fun j hj=>h3 j Zac),h2,Zaz Zac])
abbrev nJ(t:l3)(i:Nat)(o:List BL)(g f k:Nat):Prop:=i<=t.hs.length/\o=(t.hs.take i).map (·.na)/\∀ j,j<i->(cB (t.hs.getD j b9) t.na&&bn (t.hs.getD j b9) t.se)=true
def gP(t:l3):aG:=.mk 13 [ag t] [] (m6 t) (bV (ab t)) [] (by
 intro ht;have S6:=ht.h
 refine aA Tryz.func13
  (.bx (fun g1=>.q 1<|.r 2 [.c9]<|.c (uF t.na) []<|.r 4 [.c9]<|.cg (fe (0:Int) t.b7 (5000:Int))<|.q 2<|.br (.q 1<|.nil) (.r 2 [.c9]<|.c (Dr t.se) []<|.r 6 [.c9,.c9]<|.cg (BS t.lk t.b7)<|.q 2<|.br (.q 1<|.nil) (.q 1<|.r 4 [.c9]<|.h (.O8 3 1)<|.loop (Nat×(List BL)×Nat×Nat×Nat) (fun (i,o,g,f,k)=>⟨[(1,kp 1 g1),(3,.own 1 (o.map sV) g f k),(29,ie t.hs),(30,iN t.hs.length),(31,iN i)],[(1,(g1,ag t))]⟩) (fun (i,o,g,f,k)=>nJ t i o g f k) (fun (i,o,g,f,k)=>t.hs.length-i) (fun (i,o,g,f,k)=>.q 1<|.br (.r 2 [aH (t.hs.getD i b9) ((t.hs.getD i b9).td)]<|.al kP (fun g5=>.st none<|.r 3 [.c9,.c9]<|.c (BG (t.hs.getD i b9) t.na) []<|.r 5 [.c9,.c9]<|.cg (Ej (t.hs.getD i b9) t.se)<|.q 2<|.br (.q 1<|.nil) (.r 3 [.c9]<|.bs<|.ap (fun XW Xl X6=>.h (.o9 51 (.own 1 ((o++[(t.hs.getD i b9).na]).map sV) XW Xl X6))<|.q 1<|.q 2<|.nil)))) (.h (.fz 3)<|.h (.o9 3 (aJ o))<|.q 1<|.c (nE o) []<|.q 1<|.nil))))))
  ((fun (v2 v1:Bool)=>(∀ g1:Nat,Z g1 0/\(uF t.na).sm/\((t.na.length<=4611686018427387904))/\Gd (v2==false) (Z g1 1)/\Gd (v2==false) ((True)/\(fe (0:Int) t.b7 (5000:Int)).sm)/\Pk v2 true (v2==false)/\Br (v2||(!(w6 t.b7 (0:Int) (5000:Int)))) (Q (bV false) (bV (ab t))) (Z g1 3/\(Dr t.se).sm/\((t.se.length<=100000)/\(∀ x,x∈t.se->x.length<=1000/\w7 x))/\Gd v1 (Z g1 4)/\Gd v1 (Z g1 1)/\Gd v1 (((t.lk.length<=100000)/\(∀ x,x∈t.lk->x.ad.length<=1000/\w7 x.ad))/\(BS t.lk t.b7).sm)/\Pk (!(dJ t.se)) true v1/\Br ((!(dJ t.se))||(!(dt t.lk t.b7))) (Q (bV false) (bV (ab t))) (Z g1 2/\(∃ x:Nat×(List BL)×Nat×Nat×Nat,match x with | (j7,A6,E2,G9,m9)=>(nJ t j7 A6 E2 G9 m9)/\E (kp 1 g1)/\Q (.own 1 ([].map sV) 0 0 0) (.own 1 (A6.map sV) E2 G9 m9)/\E (ie t.hs)/\Q (iN ((t.hs.map bX).length)) (iN t.hs.length)/\Q (iN 0) (iN j7)/\Er g1 (ag t)/\True)/\∀ x:Nat×(List BL)×Nat×Nat×Nat,match x with | (i,o,g,f,k)=>(nJ t i o g f k)->(fun v3:j9=>(fun (v5:List V) (v4:Bool)=>Br (s4 (i:Int) (t.hs.length:Int)) (Ex (i:Int) (t.hs.map bX) (aH v3 (v3.td))/\True/\∀ g5:Nat,Z g5 0/\Z g5 0/\Z g1 0/\(BG v3 t.na).sm/\((F6 v3))/\Gd v4 (Z g5 0)/\Gd v4 (Z g1 3)/\Gd v4 (((F6 v3)/\(t.se.length<=100000))/\(Ej v3 t.se).sm)/\Pk (!(cB v3 t.na)) true v4/\Br ((!(cB v3 t.na))||(!(bn v3 t.se))) (Q (bV false) (bV (ab t))) (Z g5 0/\((1,1,g,f,k,(o.map sV).length)=(1,1,g,f,k,(o.map sV).length))/\(True)/\(V.aK v5=false)/\(aX 1 v5)/\(((o.map sV).length+v5.length)*16<=140737488355328)/\∀ XW Xl X6:Nat,((.own 1 ((o.map sV)++v5) XW Xl X6:V)=.own 1 ((o++[v3.na]).map sV) XW Xl X6)/\n8 ((i:Int)+1)/\∃ x:Nat×(List BL)×Nat×Nat×Nat,match x with | (e9,o5,x6,x5,k₂)=>(nJ t e9 o5 x6 x5 k₂)/\(t.hs.length-e9<t.hs.length-i)/\E (kp 1 g1)/\Q (.own 1 ((o++[v3.na]).map sV) XW Xl X6) (.own 1 (o5.map sV) x6 x5 k₂)/\E (ie t.hs)/\E (iN t.hs.length)/\Q (iN (i+1)) (iN e9)/\Er g1 (ag t)/\True)) (((.sl false (V.G4 (o.map sV)):V)=aJ o)/\(nE o).sm/\((o.length<=1000000))/\Q (bV (decide o.Nodup)) (bV (ab t)))) ([sV (v3.na)]:List V) ((!(cB v3 t.na))==false)) (t.hs.getD i b9))))) (!(cN t.na)) ((!(dJ t.se))==false)) ?_
 intro g1;refine⟨rfl,rfl,by have:=ht.n;omega,bN (bI (fun l4=>?_) fun l4=>?_)⟩;rw[JQ l4];refine⟨rfl,rfl,⟨by have:=ht.s;omega,ht.sa⟩,bJ ⟨fun hG=>⟨⟨by(try simp only[nb]at hG);have:=ht.l;omega,ht.la⟩,rfl⟩,az (bI (fun l6=>?_) fun l6=>?_)⟩⟩;rw[JT l6];refine⟨rfl,⟨⟨(0,[],0,0,0),?_,rfl,rfl,rfl,Zah,aI⟩,?_⟩⟩;unfold nJ;simp;rintro⟨i,o,g,f,k⟩ ⟨h1,h2,h3⟩;refine bI (fun n9=>?_) fun n9=>?_;have L4:=ht.ha _ (ar (d:=b9) (show i<t.hs.length by omega));have XJ:o.length=i:=Zd5
 refine⟨az (ah (d:=b9) Zac),az fun g5=>dM ⟨L4,bJ ⟨fun hG=>⟨⟨L4,by(try simp only[nb]at hG);have:=ht.s;omega⟩,rfl⟩,az (bI (fun B6=>?_) fun B6=>?_)⟩⟩⟩;rw[Kw (i:=i) Zac B6];refine fQ ⟨Zal,fun XW Xl X6=>⟨Zbm (V.own 1 · XW Xl X6) Zad,az ⟨(i+1,o++[(t.hs.getD i b9).na],XW,Xl,X6),?_,?_,aI⟩⟩⟩;unfold nJ;exact⟨Zac,by rw[aZ Zac b9,Zbb,<- h2];rfl,bm h3 (by rw[B6.1,B6.2];rfl)⟩;exact Zak;refine⟨Zcf,rfl,Zd5,?_⟩;rw[JA l4 l6 (fun j hj=>h3 j Zac),h2,Zaz Zac])
theorem aN{g o f:Nat}{v:V}{vs:List V}{p:List Nat}(h:vs[f]? =some v):V.at g o (.agg vs) (f::p)=V.at g (o+V.ns (vs.take f)) v p:=by simp only[V.at,h]
section
variable {α:Type} {l:List α} {f:α->V} {e e':V} {r:List V} {i:Nat} {d:α}
theorem sJ(h:i<=l.length):((l.take i).map f).length=i:=by rw[Zay,List.length_take];omega
theorem cJ(h:i<=l.length):((l.take i).map f++e::r)[i]? =some e:=by
 rw[Za4 (by rw[sJ h];omega),sJ h,Nat.sub_self];rfl
theorem lP(h:i<=l.length):((l.take i).map f++e::r).set i e'=(l.take i).map f++e'::r:=by
 rw[List.set_append_right _ _ (by rw[sJ h];omega),sJ h,Nat.sub_self];rfl
theorem dz(h:i<l.length):l.map f=(l.take i).map f++f (l.getD i d)::(l.drop (i+1)).map f:=by
 have:l=l.take i++l.getD i d::l.drop (i+1):=by
  rw[Zam,Zat h];simp only[Option.getD_some];rw[List.getElem_cons_drop,List.take_append_drop]
 conv=>lhs;rw[this,Zbb,Zbe]
theorem splitN{y:α}(e:l.getD i d=y)(h:i<l.length):l.map f=(l.take i).map f++f y::(l.drop (i+1)).map f:=by rw[<- e];exact dz h
theorem ck{x:α}(h:i<l.length):(l.take i).map f++f x::(l.drop (i+1)).map f=(l.set i x).map f:=by
 rw[List.set_eq_take_append_cons_drop,if_pos h,Zbb,Zbe]
end
theorem aD{p:Prop}(h:p:=by repeat' (first | exact rfl | exact trivial | exact fun h=>h | exact fun hG=>rfl | exact fun hG=>trivial | exact fun hG=>⟨trivial,rfl⟩ | exact fun _=>rfl | exact fun _=>trivial | exact fun _ h=>h | exact⟨fun _=>rfl,fun h=>by rw[h] <;> rfl⟩ | exact⟨fun h=>by rw[h] <;> rfl,fun _=>rfl⟩ | exact fun hG=>⟨fun h=>by rw[h];exact(Zao _ _).mpr ⟨hG,rfl⟩,fun _=>rfl⟩ | exact fun hG=>⟨fun _=>rfl,fun h=>by rw[h];exact(Zao _ _).mpr ⟨hG,rfl⟩⟩ | exact(aN (f:=2) rfl).trans (aO (cJ Zac) rfl) | exact(aN (f:=2) rfl).trans (aO (by rw[Zaw];exact cJ Zac) rfl) | exact(aN (f:=1) rfl).trans ((aN (f:=2) rfl).trans (aO (cJ Zac) rfl)) | exact(aN (f:=1) rfl).trans ((aN (f:=2) rfl).trans (aO (by rw[Zaw];exact cJ Zac) rfl)) | exact oQ (bZ (cJ Zac) (lP Zac)) | exact oQ (bZ (by rw[Zaw];exact cJ Zac) (by rw[Zaw];exact lP Zac)) | exact Bm (oQ (bZ (cJ Zac) (lP Zac))) | exact Bm (oQ (bZ (by rw[Zaw];exact cJ Zac) (by rw[Zaw];exact lP Zac))) | exact Zbm (V.sl false) (aU (fun _=>rfl) _) | omega | refine And.intro ?_ ?_ | ((try simp only[Zay]at *);omega) | ((try simp only[Zay]at *);(try simp only[Zap,Zay,Zar,Zau,List.length_take,List.length_drop]);omega) | (simp[aX,V.n,V.ns]) | exact fun hG=>by(try simp only[nb]at hG);omega | exact fun hG=>by(try simp only[nb]at hG);(try simp only[Zay]at *);omega | exact fun hG=>by(try simp only[nb]at hG);(try simp only[Zay]at *);(try simp only[Zap,Zay,Zar,Zau,List.length_take,List.length_drop]);omega | (simp;omega) | assumption)):p:=h
theorem ak{A Z:Prop}(z:Z)(a:A:=by exact aD):A/\Z:=⟨a,z⟩
theorem aW{A B Z:Prop}(z:Z)(a:A/\B:=by exact aD):A/\B/\Z:=⟨a.1,a.2,z⟩
theorem aR{A B C Z:Prop}(z:Z)(a:A/\B/\C:=by exact aD):A/\B/\C/\Z:=⟨a.1,a.2.1,a.2.2,z⟩
theorem bj{A B C D Z:Prop}(z:Z)(a:A/\B/\C/\D:=by exact aD):A/\B/\C/\D/\Z:=⟨a.1,a.2.1,a.2.2.1,a.2.2.2,z⟩
theorem bU{A B C D E Z:Prop}(z:Z)(a:A/\B/\C/\D/\E:=by exact aD):A/\B/\C/\D/\E/\Z:=⟨a.1,a.2.1,a.2.2.1,a.2.2.2.1,a.2.2.2.2,z⟩
theorem eD{A B C D E F Z:Prop}(z:Z)(a:A/\B/\C/\D/\E/\F:=by exact aD):A/\B/\C/\D/\E/\F/\Z:=⟨a.1,a.2.1,a.2.2.1,a.2.2.2.1,a.2.2.2.2.1,a.2.2.2.2.2,z⟩
theorem eB{A B C D E F G Z:Prop}(z:Z)(a:A/\B/\C/\D/\E/\F/\G:=by exact aD):A/\B/\C/\D/\E/\F/\G/\Z:=⟨a.1,a.2.1,a.2.2.1,a.2.2.2.1,a.2.2.2.2.1,a.2.2.2.2.2.1,a.2.2.2.2.2.2,z⟩
theorem bL{A B C D E F G H Z:Prop}(z:Z)(a:A/\B/\C/\D/\E/\F/\G/\H:=by exact aD):A/\B/\C/\D/\E/\F/\G/\H/\Z:=⟨a.1,a.2.1,a.2.2.1,a.2.2.2.1,a.2.2.2.2.1,a.2.2.2.2.2.1,a.2.2.2.2.2.2.1,a.2.2.2.2.2.2.2,z⟩
abbrev bY(p0:BL)(p1:Int)(p2:List j9)(p3:List BL)(p4:List n7):V:=.agg [sV p0,iV p1,.ow 8 (p2.map ae),.ow 1 (p3.map sV),.ow 3 (p4.map ay)]
abbrev bK(p0:BL)(p1:Int)(p2:List j9)(p3 p4 p5:Nat)(p6:List BL)(p7:List n7):V:=.agg [sV p0,iV p1,.own 8 (p2.map ae) p3 p4 p5,.ow 1 (p6.map sV),.ow 3 (p7.map ay)]
abbrev Le(p0:BL)(p1:Int)(p2:List j9)(p3:Nat)(p4:BL)(p5:Int)(p6:Bool)(p7:List BL)(p8:List u0)(p9:Nat)(I5:Int)(F9 D8 D7:Nat)(D6:List BL)(D5:List n7):V:=.agg [sV p0,iV p1,.own 8 ((p2.take p3).map ae++(.agg [sV p4,iV p5,bV p6,.agg [.sl false (p7.map sV),.sl false (p8.map aE),iN p9],iV I5,.c9]:V)::(p2.drop (p3+1)).map ae) F9 D8 D7,.ow 1 (D6.map sV),.ow 3 (D5.map ay)]
abbrev NO(p0:BL)(p1:Int)(p2:List j9)(p3:Nat)(p4:BL)(p5:Int)(p6:Bool)(p7:List BL)(p8:List u0)(p9:Nat)(I5:Int)(F9:List r3)(D8 D7 D6:Nat)(D5:List BL)(E8:List n7):V:=.agg [sV p0,iV p1,.own 8 ((p2.take p3).map ae++(.agg [sV p4,iV p5,bV p6,.agg [.sl false (p7.map sV),.sl false (p8.map aE),iN p9],iV I5,.ow 2 (F9.map ai)]:V)::(p2.drop (p3+1)).map ae) D8 D7 D6,.ow 1 (D5.map sV),.ow 3 (E8.map ay)]
abbrev Ou(p0:BL)(p1:Int)(p2:List j9)(p3:Nat)(p4:BL)(p5:Int)(p6:Bool)(p7:List BL)(p8:List u0)(p9:Nat)(I5:Int)(F9:List r3)(D8 D7 D6 D5 E8 I0:Nat)(L5:List BL)(L':List n7):V:=.agg [sV p0,iV p1,.own 8 ((p2.take p3).map ae++(.agg [sV p4,iV p5,bV p6,.agg [.sl false (p7.map sV),.sl false (p8.map aE),iN p9],iV I5,.own 2 (F9.map ai) D8 D7 D6]:V)::(p2.drop (p3+1)).map ae) D5 E8 I0,.ow 1 (L5.map sV),.ow 3 (L'.map ay)]
abbrev fJ(p0:BL)(p1:Int)(p2:List j9)(p3:Nat)(y4:j9)(F9 D8 D7:Nat)(D6:List BL)(D5:List n7):V:=Le p0 p1 p2 p3 y4.na y4.re y4.kn y4.gr.na y4.gr.ru y4.gr.wa y4.tr F9 D8 D7 D6 D5
abbrev bS(p0:BL)(p1:Int)(p2:List j9)(p3:Nat)(y4:j9)(F9:List r3)(D8 D7 D6:Nat)(D5:List BL)(E8:List n7):V:=NO p0 p1 p2 p3 y4.na y4.re y4.kn y4.gr.na y4.gr.ru y4.gr.wa y4.tr F9 D8 D7 D6 D5 E8
abbrev bC(p0:BL)(p1:Int)(p2:List j9)(p3:Nat)(y4:j9)(F9:List r3)(D8 D7 D6 D5 E8 I0:Nat)(L5:List BL)(L':List n7):V:=Ou p0 p1 p2 p3 y4.na y4.re y4.kn y4.gr.na y4.gr.ru y4.gr.wa y4.tr F9 D8 D7 D6 D5 E8 I0 L5 L'
theorem qg{hs:List j9}{d:BL}{i:Nat}(hi:i<hs.length)(e:(hs.getD i b9).na=d)(h:∀ j,j<i->((hs.getD j b9).na==d)=false):D' hs d=i:=by
 unfold D';rw[List.findIdx_eq hi];simp only[Zam,Zat hi]at e;refine⟨Zb3,fun j hj=>?_⟩;have:=h j hj;simp only[Zam,Zat (show j<hs.length by omega)]at this;simpa using this
theorem AN{hs:List j9}{d:BL}(h:∀ j,j<hs.length->((hs.getD j b9).na==d)=false):D' hs d=hs.length:=by
 unfold D';rw[List.findIdx_eq_length];intro x hx;obtain⟨j,hj,rfl⟩:=Zbg.1 hx;have:=h j hj;simp only[Zam,Zat hj]at this;simpa using this
theorem Gc{hs:List j9}{d n:BL}{i:Nat}(hi:i<hs.length)(e:(hs.getD i b9).na=d)(h:∀ j,j<i->((hs.getD j b9).na==d)=false):bw hs d n=hs:=by
 unfold bw;rw[qg hi e h,if_pos hi]
theorem ET{hs:List j9}{d n:BL}(h:∀ j,j<hs.length->((hs.getD j b9).na==d)=false):bw hs d n=hs++[cW d n]:=by
 unfold bw;rw[AN h,if_neg Zac]
theorem pD{n a:BL}{hs:List j9}{se:List BL}(h: ¬ dA se a):bf n hs se a=hs:=if_neg h
theorem mw{a:BL}{se:List BL}(h: ¬ dA se a):ax se a=se:=if_neg h
theorem ph{a:BL}{se:List BL}(h:dA se a):ax se a=se++[a]:=if_pos h
theorem MW{a:BL}{se:List BL}(h:(bM a).isSome=false\/60<=(se.length:Int)): ¬ dA se a:=fun c=>by
 rw[kM]at h;rcases h with h | h;rw[c.1]at h;cases h;have:=c.2.1;omega
theorem Oh{a:BL}{se:List BL}(h:se.contains a=true): ¬ dA se a:=fun c=>c.2.2 (List.contains_iff_mem.1 h)
theorem Hb{a:BL}{se:List BL}(h:(bM a).isSome=true/\(se.length:Int)<60)(h2:se.contains a=false):dA se a:=by
 rw[kM]at h;exact⟨h.1,Zac,fun c=>by rw[List.contains_iff_mem.2 c]at h2;cases h2⟩
theorem Li{a:BL}{se:List BL}(h:dA se a):bM a=aT a/\(if bu (oA (bM a))=true then cO (oA (bM a)) else [])=pathOf a:=by
 have e:bM a=aT a:=if_pos h.1;have hs:(aT a).isSome=true:=by have:=h.1;unfold aq at this;rw[Zao]at this;exact this.1
 exact⟨e,by rw[e,if_pos (rX hs)];rfl⟩
theorem Jz{n a:BL} {hs:List j9} {se:List BL} (h:dA se a) (hk:((bw hs (oA (bM a)).l5 n).getD (D' hs (oA (bM a)).l5) b9).kn=true/\
 bA ((bw hs (oA (bM a)).l5 n).getD (D' hs (oA (bM a)).l5) b9).gr.ru (if bu (oA (bM a))=true then cO (oA (bM a)) else [])=false):bf n hs se a=bw hs (oA (bM a)).l5 n:=by
 obtain⟨e1,e2⟩:=Li h;rw[e2,e1]at hk;unfold bf;rw[if_pos h,e1];unfold dh aB;rw[if_pos hk];apply List.ext_getElem Zad;intro i h1 h2;rw[List.getElem_set];split;rename_i e;subst e;rw[Zam,Zat h2];rfl;rfl
theorem Lv{n a:BL} {hs:List j9} {se:List BL} (h:dA se a) (hk:((bw hs (oA (bM a)).l5 n).getD (D' hs (oA (bM a)).l5) b9).kn=true->
 bA ((bw hs (oA (bM a)).l5 n).getD (D' hs (oA (bM a)).l5) b9).gr.ru (if bu (oA (bM a))=true then cO (oA (bM a)) else [])=true):
 bf n hs se a=(bw hs (oA (bM a)).l5 n).set (D' hs (oA (bM a)).l5) { (bw hs (oA (bM a)).l5 n).getD (D' hs (oA (bM a)).l5) b9 with td:=((bw hs (oA (bM a)).l5 n).getD (D' hs (oA (bM a)).l5) b9).td++[⟨a,0⟩] }:=by
 obtain⟨e1,e2⟩:=Li h;rw[e2,e1]at hk;unfold bf;rw[if_pos h,e1];unfold dh aB;rw[if_neg (fun c=>by rw[hk c.1]at c;exact absurd c.2 Zaf)]
theorem Ob{n:BL}{s3:List BL}(h:cN n=false\/12<(s3.length:Int)):cf n s3=none:=if_neg fun c=>by
 rcases h with e | e;rw[c.1]at e;cases e;have:=c.2;omega
theorem NC{n:BL}{s3:List BL}(h:cN n=true/\(s3.length:Int)<=12):cf n s3=some (s3.foldl av (eI n)):=if_pos ⟨h.1,by have:=h.2;omega⟩
theorem OU{hs:List j9}{n:BL}(hg:∀ y,y∈hs->y.td.length<=1000/\y.gr.ru.length<=1000/\∀ i,(y.gr.ru.getD i ⟨false,[]⟩).path.length<=1000)(d:BL):
 let y:=(bw hs d n).getD (D' hs d) b9
 y.td.length<=1000/\y.gr.ru.length<=1000/\∀ i,(y.gr.ru.getD i ⟨false,[]⟩).path.length<=1000:=by
 intro y;have hm:y∈bw hs d n:=ar (d:=b9) (fM hs d n);unfold bw at hm;split at hm;exact hg y hm;rcases Zax.1 hm with h | h;exact hg y h;rw[Zav.1 h];simp[cW]
def BN(n:BL)(b7:Int)(zs:List j9)(se:List BL)(ls:List n7)(gt:Nat)(d:BL):fy:=.mk (Nat×Nat×Nat) 173 [kp 1000 gt,sV d] [(1000,(gt,bY n b7 zs se ls))] (zs.length<=1000) (fun x=>True) (fun x=>.ptr (.key 1000) [2,(D' zs d)] x.1 (x.2.1+(D' zs d)*8)) (fun x=>[(1000,(gt,bK n b7 (bw zs d n) x.1 x.2.1 x.2.2 se ls))]) (by
 intro hl
 refine fA Tryz.func173
  (.oR (.key 1000) [2] (fun g o c=>.q 1<|.r 6 [.c9]<|.loop Nat (fun i=>⟨[(0,kp 1000 gt),(1,sV d),(10,iN zs.length),(11,iN i)],[(1000,(gt,bK n b7 zs g o c se ls))]⟩) (fun i=>i<=zs.length/\∀ j,j<i->((zs.getD j b9).na==d)=false) (fun i=>zs.length-i) (fun i=>.q 1<|.br (.q 2<|.r 10 [.c9,sV ((zs.getD i b9).na)]<|.br (.r 7 [.c9]<|.nil) (.q 2<|.nil)) (.A3 15 [(4,l9 [1000] [35]),(9,l9 [1000] [40]),(14,⟨true,[],none,[45],[1000]⟩)]<|.l7 4<|.m7<|.l7 4<|.m7<|.bs<|.bd iU<|.bd kP<|.bs<|.ux none (fun QZ QW RZ=>.h (.o9 45 (.own 8 (zs.map ae++[(.agg [sV d,iN 0,bV false,.agg [.sl true [sV n],.sl true [],iN 0],iN 0,.sl true []]:V)]) QZ QW RZ))<|.h (.UB (.slot 45) [zs.length,5] QZ (QW+(zs.length)*8+7) 2)<|.h (.o9 45 (.own 8 (zs.map ae++[(.agg [sV d,iN 0,bV false,.agg [.sl true [sV n],.sl true [],iN 0],iN 0,.own 2 ([].map ai) 0 0 0]:V)]) QZ QW RZ))<|.h (.O1 (.slot 45) [zs.length] QZ (QW+(zs.length)*8) (.agg [sV d,iN 0,bV false,.agg [.sl true [sV n],.sl true [],iN 0],iN 0,.own 2 ([].map ai) 0 0 0]) (.agg [sV d,iV 0,bV false,.agg [.sl false ([n].map sV),.sl false ([].map aE),iN 0],iV 0,.ow 2 ([].map ai)]))<|.h (.o9 45 (.own 8 (zs.map ae++[(.agg [sV d,iV 0,bV false,.agg [.sl false ([n].map sV),.sl false ([].map aE),iN 0],iV 0,.ow 2 ([].map ai)]:V)]) QZ QW RZ))<|.h (.o9 45 (.own 8 ((zs++[(cW d n)]).map ae) QZ QW RZ))<|.q 2<|.st none<|.A3 10 [(3,l9 [1000] [51]),(7,l9 [1000] [55])]<|.l7 3<|.m7<|.l7 3<|.m7<|.l7 2<|.h (.o9 57 (iN zs.length))<|.q 2<|.nil)))))
  ((fun (v6 v2:List V) (v5 v4 v3:V) (v1:Nat->Prop)=>(∀ g o c:Nat,(fun v7:V=>True/\Z gt 2/\(∃ j7:Nat,(v1 j7)/\E (kp 1000 gt)/\E (sV d)/\Q (iN ((zs.map ae).length)) (iN zs.length)/\Q (iN 0) (iN j7)/\Er gt v7/\True)/\∀ i:Nat,(v1 i)->Br (s4 (i:Int) (zs.length:Int)) (True/\Z gt 2/\In (i:Int) ((zs.map ae).length)/\(V.at gt 0 v7 [2,0+i,0]=some (g,(o+(0+i)*8+0),sV ((zs.getD i b9).na)))/\Br (((zs.getD i b9).na)==d) (True/\Z gt 2/\In (i:Int) ((zs.map ae).length)/\∃ x:Nat×Nat×Nat,(True)/\Q (.ptr (.key 1000) [2,(D' zs d)] g (o+(0+i)*8)) (.ptr (.key 1000) [2,(D' zs d)] x.1 (x.2.1+(D' zs d)*8))/\Qr gt v7 gt (bK n b7 (bw zs d n) x.1 x.2.1 x.2.2 se ls)) (n8 ((i:Int)+1)/\∃ e9:Nat,(v1 e9)/\(zs.length-e9<zs.length-i)/\E (kp 1000 gt)/\E (sV d)/\E (iN zs.length)/\Q (iN (i+1)) (iN e9)/\Er gt v7/\True)) (True/\Z gt 2/\True/\Z gt 0/\(((8,8,g,o,c,(zs.map ae).length)=(8,8,g,o,c,(zs.map ae).length))/\(V.aK v2=false)/\(aX 8 v2)/\(((zs.map ae).length+v2.length)*120<=140737488355328))/\∀ QZ QW RZ:Nat,((.own 8 ((zs.map ae)++v2) QZ QW RZ:V)=.own 8 (zs.map ae++[v4]) QZ QW RZ)/\(V.at QZ QW (.own 8 (zs.map ae++[v4]) QZ QW RZ) [zs.length,5]=some (QZ,QW+(zs.length)*8+7,.sl true []))/\(V.set (.own 8 (zs.map ae++[v4]) QZ QW RZ) [zs.length,5] (.own 2 ([].map ai) 0 0 0)=.own 8 (zs.map ae++[v3]) QZ QW RZ)/\(V.at QZ QW (.own 8 (zs.map ae++[v3]) QZ QW RZ) [zs.length]=some (QZ,QW+(zs.length)*8,.agg [sV d,iN 0,bV false,.agg [.sl true [sV n],.sl true [],iN 0],iN 0,.own 2 ([].map ai) 0 0 0]))/\(V.set (.own 8 (zs.map ae++[v3]) QZ QW RZ) [zs.length] (.agg [sV d,iV 0,bV false,.agg [.sl false ([n].map sV),.sl false ([].map aE),iN 0],iV 0,.ow 2 ([].map ai)])=.own 8 (zs.map ae++[v5]) QZ QW RZ)/\((.own 8 (zs.map ae++[v5]) QZ QW RZ:V)=.own 8 v6 QZ QW RZ)/\True/\Z gt 2/\True/\Z gt 2/\True/\Z gt 2/\n8 (((v6.length:Nat):Int)-1)/\Q (iV (((v6.length:Nat):Int)-1)) (iN zs.length)/\In (zs.length:Int) (v6.length)/\∃ x:Nat×Nat×Nat,(True)/\Q (.ptr (.key 1000) [2,(D' zs d)] QZ (QW+(0+zs.length)*8)) (.ptr (.key 1000) [2,(D' zs d)] x.1 (x.2.1+(D' zs d)*8))/\Qr gt (bK n b7 (zs++[(cW d n)]) QZ QW RZ se ls) gt (bK n b7 (bw zs d n) x.1 x.2.1 x.2.2 se ls))) (bK n b7 zs g o c se ls))) ((zs++[(cW d n)]).map ae) ([.agg [sV d,iN 0,bV false,.agg [.sl true [sV n],.sl true [],iN 0],iN 0,.sl true []]]:List V) (.agg [sV d,iV 0,bV false,.agg [.sl false ([n].map sV),.sl false ([].map aE),iN 0],iV 0,.ow 2 ([].map ai)]:V) (.agg [sV d,iN 0,bV false,.agg [.sl true [sV n],.sl true [],iN 0],iN 0,.sl true []]:V) (.agg [sV d,iN 0,bV false,.agg [.sl true [sV n],.sl true [],iN 0],iN 0,.own 2 ([].map ai) 0 0 0]:V) (fun j7:Nat=>j7<=zs.length/\∀ j,j<j7->((zs.getD j b9).na==d)=false)) ?_
 intro g o c;refine aW ⟨⟨0,?_,rfl,rfl,Zah,aD⟩,?_⟩;simp;rintro i ⟨h1,h2⟩;refine bI (fun l4=>?_) fun l4=>?_
 · refine aR ⟨Zd6,bI (fun l6=>?_) fun l6=>?_⟩
   · refine aR ⟨(g,o,c),?_,?_,?_⟩
     · try dsimp only
       all_goals trivial
     first | (rw[qg (i:=i) Zac l6 h2,Zaw]) | (rw[AN (fun j hj=>h2 j Zac),Zaw])
     first | (rw[Gc (i:=i) Zac l6 h2]) | (rw[ET (fun j hj=>h2 j Zac)])
   refine ak ⟨i+1,?_,?_,aD⟩;exact⟨Zac,Zdy⟩;exact Zak
 · refine bj ⟨aR Zal,fun QZ QW RZ=>⟨Zbm (V.own 8 · QZ QW RZ) (rfl),Zdd,Zde,ka aP,ra (aP) (cy),Zbm (V.own 8 · QZ QW RZ) (by rw[Zbb (f:=ae)];rfl),eB ⟨Zdu,ak ?_⟩⟩⟩;refine⟨(QZ,QW,RZ),?_,?_,?_⟩
   · try dsimp only
     all_goals trivial
   first | (rw[qg (i:=i) Zac l6 h2,Zaw]) | (rw[AN (fun j hj=>h2 j Zac),Zaw])
   first | (rw[Gc (i:=i) Zac l6 h2]) | (rw[ET (fun j hj=>h2 j Zac)]))
def IS(n:BL)(b7:Int)(zs:List j9)(se:List BL)(ls:List n7)(gt:Nat)(a:BL):aG:=.mk 134 [kp 1000 gt,sV a] [(1000,(gt,bY n b7 zs se ls))] ((zs.length<=1000)/\(se.length<=1000)/\(a.length<=1000000)/\(w7 a)/\(∀ y,y∈zs->y.td.length<=1000/\y.gr.ru.length<=1000/\∀ i,(y.gr.ru.getD i ⟨false,[]⟩).path.length<=1000)) (.tup []) [(1000,(gt,bY n b7 (bf n zs se a) (ax se a) ls))] (by
 rintro⟨hl,Qk,ha,hc,hg⟩
 refine aA Tryz.func134
  (.oR (.key 1000) [3] (fun gs os cs=>.q 1<|.c (fm a) []<|.q 3<|.al dC (fun g4=>.st none<|.q 1<|.r 10 [.c9]<|.sp ((!((bM a).isSome))||(G3 (((se.map sV).length:Nat):Int) 60)) (.h (.o9 21 (bV true))<|.q 1<|.gf (.c9)<|.gf (.c9)<|.gf (.c9)<|.gf (.c9)<|.gf (.c9)<|.gf (bV false)<|.q 1<|.br (.nil) (.nil)) (.h (.o9 21 (bV false))<|.q 1<|.gt<|.q 1<|.gt<|.q 1<|.gt<|.q 1<|.gt<|.m7<|.gt<|.q 1<|.gt<|.cl (xH se a)<|.q 1<|.br (.nil) (.r 6 [.c9]<|.bs<|.ap (fun PU QX Q1=>.h (.o9 37 (.own 1 ((se++[a]).map sV) PU QX Q1))<|.q 2<|.st none<|.r 3 [.c9]<|.cx (BN n b7 zs (se++[a]) ls gt ((oA (bM a)).l5)) [(1000,1000)] (fun (m5:Nat×Nat×Nat)=>.q 1<|.ex (List j9×Nat) (fun x=>((bw zs (oA (bM a)).l5 n),(D' zs (oA (bM a)).l5))=x) (fun (x:List j9×Nat)=>.h (.o8 1000 (bK n b7 x.1 m5.1 m5.2.1 m5.2.2 (se++[a]) ls))<|.h (.o9 43 (.ptr (.key 1000) [2,x.2] m5.1 (m5.2.1+x.2*8)))<|.h (.o9 6 (.ptr (.key 1000) [2,x.2] m5.1 (m5.2.1+x.2*8)))<|.A3 15 [(3,l9 [1000] [47]),(9,l9 [1000] [53]),(10,l9 [4] [54])]<|.l7 3<|.r 1 [bV ((x.1.getD x.2 b9).kn)]<|.l7 5<|.r 1 [cR ((x.1.getD x.2 b9).gr.ru)]<|.m7<|.cg (qn (oA (bM a)))<|.cg (pR ((x.1.getD x.2 b9).gr.ru) (if bu (oA (bM a))=true then cO (oA (bM a)) else []))<|.l7 2<|.br (.nil) (.ex (j9) (fun y=>(x.1.getD x.2 b9)=y) (fun (y:j9)=>(fun y1:List V=>(.h (.o8 1000 (bS n b7 x.1 x.2 y y.td m5.1 m5.2.1 m5.2.2 (se++[a]) ls))<|.Qx (.key 1000) [2,x.2,5] m5.1 (m5.2.1+(x.2)*8+7) 2 (y.td.map ai) (fun gA M' cA=>.h (.o8 1000 (bC n b7 x.1 x.2 y y.td gA M' cA m5.1 m5.2.1 m5.2.2 (se++[a]) ls))<|.r 6 [.own 2 (y.td.map ai) gA M' cA]<|.bd kX<|.bs<|.apx (y.td.map ai) m5.1 (m5.2.1+(x.2)*8+7) (fun Vb U6 Ve=>.h (.o9 67 (.own 2 y1 Vb U6 Ve))<|.h (.o8 1000 (fJ n b7 x.1 x.2 y m5.1 m5.2.1 m5.2.2 (se++[a]) ls))<|.q 2<|.st (some (.c9))<|.h (.o8 1000 (bC n b7 x.1 x.2 y (y.td++[(⟨a,0⟩:r3)]) Vb U6 Ve m5.1 m5.2.1 m5.2.2 (se++[a]) ls))<|.h (.O1 (.key 1000) [2,x.2,5] m5.1 (m5.2.1+(x.2)*8+7) (.own 2 y1 Vb U6 Ve) (.ow 2 y1))<|.h (.o8 1000 (bS n b7 x.1 x.2 y (y.td++[(⟨a,0⟩:r3)]) m5.1 m5.2.1 m5.2.2 (se++[a]) ls))<|.h (.o8 1000 (bK n b7 (x.1.set x.2 ({ y with td:=y.td++[⟨a,0⟩] }:j9)) m5.1 m5.2.1 m5.2.2 (se++[a]) ls))<|.nil)):Sc Tryz.prog)) ((y.td++[(⟨a,0⟩:r3)]).map ai)))))))))))
  ((fun (v5:List V) (v4 v2:Bool) (v3:r3) (v1:V)=>(∀ gs os cs:Nat,(fm a).sm/\((a.length<=1000000)/\(w7 a))/\∀ g4:Nat,Z g4 0/\Gd (v4==false) True/\Gd (v4==false) (Z gt 3)/\Pk v4 true (v4==false)/\((v4||v2)=true->((bV (v4||v2):V)=bV true)/\(false=false)/\(false=false)/\(false=false)/\(false=false)/\(false=false)/\(false=false)/\Pk true true false/\Br (true||false) (Q (.tup []) (.tup [])/\Qr gt (bY n b7 zs se ls) gt v1) (False))/\((v4||v2)=false->((bV (v4||v2):V)=bV false)/\(true=true)/\(true=true)/\True/\(true=true)/\(true=true)/\Z gt 3/\(true=true)/\(true=true)/\(((1=1/\gs=gs/\os=os)/\0+((se.map sV).length)<=(se.map sV).length/\V.aK (se.map sV)=false/\aX 1 (se.map sV))/\True)/\(([.sl false (((se.map sV).drop 0).take ((se.map sV).length)),sV a]:List V)=[aJ se,sV a])/\((se.length<=1000000))/\Pk false true true/\Br (false||(se.contains a)) (Q (.tup []) (.tup [])/\Qr gt (bY n b7 zs se ls) gt v1) (True/\Z gt 3/\((1,1,gs,os,cs,(se.map sV).length)=(1,1,gs,os,cs,(se.map sV).length))/\(True)/\(V.aK ([sV a]:List V)=false)/\(aX 1 ([sV a]:List V))/\(((se.map sV).length+([sV a]:List V).length)*16<=140737488355328)/\∀ PU QX Q1:Nat,((.own 1 ((se.map sV)++([sV a]:List V)) PU QX Q1:V)=.own 1 ((se++[a]).map sV) PU QX Q1)/\True/\Z gt 3/\Z g4 0/\(BN n b7 zs (se++[a]) ls gt ((oA (bM a)).l5)).sm/\Er gt (bY n b7 zs (se++[a]) ls)/\((zs.length<=1000))/\∀ m5:Nat×Nat×Nat,(True)->(fun v6:V=>(∃ x:List j9×Nat,((bw zs (oA (bM a)).l5 n),(D' zs (oA (bM a)).l5))=x)/\∀ x:List j9×Nat,(((bw zs (oA (bM a)).l5 n),(D' zs (oA (bM a)).l5))=x)->(fun (v8:V) (v7:j9)=>((bK n b7 (bw zs ((oA (bM a)).l5) n) m5.1 m5.2.1 m5.2.2 (se++[a]) ls:V)=bK n b7 x.1 m5.1 m5.2.1 m5.2.2 (se++[a]) ls)/\(v6=.ptr (.key 1000) [2,x.2] m5.1 (m5.2.1+x.2*8))/\(v6=.ptr (.key 1000) [2,x.2] m5.1 (m5.2.1+x.2*8))/\True/\(V.at gt 0 v8 [2,x.2,2]=some (m5.1,(m5.2.1+x.2*8+2),bV (v7.kn)))/\Gd ((v7.kn)==true) (((v7.kn)==true)=true)/\Gd ((v7.kn)==true) True/\Gd ((v7.kn)==true) (((v7.kn)==true)=true)/\Gd ((v7.kn)==true) (((v7.kn)==true)=true)/\Gd ((v7.kn)==true) (((v7.kn)==true)=true)/\Gd ((v7.kn)==true) (V.at gt 0 v8 [2,x.2,3,1]=some (m5.1,(m5.2.1+x.2*8+3+1),cR (v7.gr.ru)))/\Gd ((v7.kn)==true) (Z g4 0)/\Gd ((v7.kn)==true) (((v7.kn)==true)=true)/\Gd ((v7.kn)==true) (((dQ (oA (bM a))))/\(qn (oA (bM a))).sm)/\Gd ((v7.kn)==true) (((v7.kn)==true)=true)/\Gd ((v7.kn)==true) (((v7.kn)==true)=true)/\Gd ((v7.kn)==true) ((((v7.gr.ru).length<=1000000)/\(∀ i,((v7.gr.ru).getD i ⟨false,[]⟩).path.length<=1000000)/\((if bu (oA (bM a))=true then cO (oA (bM a)) else []).length<=1000000))/\(pR (v7.gr.ru) (if bu (oA (bM a))=true then cO (oA (bM a)) else [])).sm)/\Gd ((v7.kn)==true) (((v7.kn)==true)=true)/\Pk (v7.kn) ((v7.kn)==true) true/\Br ((v7.kn)&&(!(bA (v7.gr.ru) (if bu (oA (bM a))=true then cO (oA (bM a)) else [])))) (Q (.tup []) (.tup [])/\Qr gt (bY n b7 x.1 (se++[a]) ls) gt v1) ((∃ y:j9,v7=y)/\∀ y:j9,(v7=y)->(fun (v12 v10:V) (v11 v9:List V)=>((bK n b7 x.1 m5.1 m5.2.1 m5.2.2 (se++[a]) ls:V)=bS n b7 x.1 x.2 y y.td m5.1 m5.2.1 m5.2.2 (se++[a]) ls)/\(V.at gt 0 v10 [2,x.2,5]=some (m5.1,m5.2.1+(x.2)*8+7,.ow 2 v9))/\∀ gA M' cA:Nat,(fun r9:V=>(V.set v10 [2,x.2,5] (.own 2 v9 gA M' cA)=bC n b7 x.1 x.2 y y.td gA M' cA m5.1 m5.2.1 m5.2.2 (se++[a]) ls)/\True/\(V.at gt 0 r9 [2,x.2,5]=some (m5.1,(m5.2.1+x.2*8+7),.own 2 v9 gA M' cA))/\((V.at gt 0 r9 [2,x.2,5]=some (m5.1,m5.2.1+(x.2)*8+7,.own 2 v9 gA M' cA))/\2=2/\v9.length=v9.length)/\(True)/\(V.aK v5=false)/\(aX 2 v5)/\((v9.length+v5.length)*24<=140737488355328)/\∀ Vb U6 Ve:Nat,(fun u7:V=>((.own 2 (v9++v5) Vb U6 Ve:V)=.own 2 v11 Vb U6 Ve)/\(V.set r9 [2,x.2,5] (.c9)=fJ n b7 x.1 x.2 y m5.1 m5.2.1 m5.2.2 (se++[a]) ls)/\True/\(V.at gt 0 v12 [2,x.2,5]=some (m5.1,(m5.2.1+x.2*8+7),.c9))/\(V.set v12 [2,x.2,5] (.own 2 v11 Vb U6 Ve)=bC n b7 x.1 x.2 y (y.td++[v3]) Vb U6 Ve m5.1 m5.2.1 m5.2.2 (se++[a]) ls)/\(V.at gt 0 u7 [2,x.2,5]=some (m5.1,m5.2.1+(x.2)*8+7,.own 2 v11 Vb U6 Ve))/\(V.set u7 [2,x.2,5] (.ow 2 v11)=bS n b7 x.1 x.2 y (y.td++[v3]) m5.1 m5.2.1 m5.2.2 (se++[a]) ls)/\((bS n b7 x.1 x.2 y (y.td++[v3]) m5.1 m5.2.1 m5.2.2 (se++[a]) ls:V)=bK n b7 (x.1.set x.2 ({ y with td:=y.td++[⟨a,0⟩] }:j9)) m5.1 m5.2.1 m5.2.2 (se++[a]) ls)/\Q (.tup []) (.tup [])/\Qr gt (bY n b7 (x.1.set x.2 ({ y with td:=y.td++[⟨a,0⟩] }:j9)) (se++[a]) ls) gt v1) (bC n b7 x.1 x.2 y (y.td++[v3]) Vb U6 Ve m5.1 m5.2.1 m5.2.2 (se++[a]) ls)) (bC n b7 x.1 x.2 y y.td gA M' cA m5.1 m5.2.1 m5.2.2 (se++[a]) ls)) (fJ n b7 x.1 x.2 y m5.1 m5.2.1 m5.2.2 (se++[a]) ls) (bS n b7 x.1 x.2 y y.td m5.1 m5.2.1 m5.2.2 (se++[a]) ls) ((y.td++[v3]).map ai) (y.td.map ai))) (bK n b7 x.1 m5.1 m5.2.1 m5.2.2 (se++[a]) ls) (x.1.getD x.2 b9)) (.ptr (.key 1000) [2,(D' zs ((oA (bM a)).l5))] m5.1 (m5.2.1+(D' zs ((oA (bM a)).l5))*8):V))))) ([.agg [sV a,iN 0]]:List V) (!((bM a).isSome)) (G3 (((se.map sV).length:Nat):Int) 60) (⟨a,0⟩:r3) (bY n b7 (bf n zs se a) (ax se a) ls)) ?_
 intro gs os cs;refine⟨rfl,⟨ha,hc⟩,fun g4=>bj ⟨fun Sn=>?_,fun Sn=>?_⟩⟩
 · have Qo:=Sn;try simp only[nb]at Qo
   refine⟨Zbm bV Sn,eB (bI (fun l4=>?_) fun l4=>?_)⟩;refine⟨?_,by rw[pD (n:=n) (hs:=zs) (MW Qo),mw (MW Qo)]⟩;rfl
   · all_goals (first | exact absurd l4 Zaf | simp_all)
 have Qo:=Sn;try simp only[nb]at Qo
 refine⟨Zbm bV Sn,bL ⟨⟨⟨aD,Zad,bF (f:=sV) (fun _=>rfl) _,cd (f:=sV) (fun _=>rfl) _⟩,aD⟩,by simp[Zaz],aW (bI (fun l6=>?_) fun l6=>?_)⟩⟩;refine⟨?_,by rw[pD (n:=n) (hs:=zs) (Oh (l6.resolve_left Zaf)),mw (Oh (l6.resolve_left Zaf))]⟩;rfl;refine eB fun PU QX Q1=>⟨Zbm (V.own 1 · PU QX Q1) Zad,bU ⟨hl,fun m5 M7=>?_⟩⟩;have hix:=fM zs (oA (bM a)).l5 n;have S6:=zq zs (oA (bM a)).l5 n;have Sw:=OU (n:=n) hg (oA (bM a)).l5;refine⟨⟨_,rfl⟩,fun x hx=>?_⟩;have hx1:(bw zs (oA (bM a)).l5 n)=x.1:=by rw[<- hx]
 have SR:(D' zs (oA (bM a)).l5)=x.2:=by rw[<- hx]
 rw[hx1,SR]at hix Sw;rw[hx1]at S6;refine⟨by rw[hx1],(by rw[SR]),(by rw[SR]),trivial,Zd7,bU ⟨fun hG=>(aN (f:=2) rfl).trans (aO (ah (d:=b9) Zac) rfl),aW ⟨fun hG=>⟨by(try simp only[nb]at hG);exact we _,rfl⟩,aW ⟨fun hG=>⟨⟨by(try simp only[nb]at hG);have:=Sw.2.1;omega,fun i=>by have:=Sw.2.2 i;omega,by(try simp only[nb]at hG);have:=(we a).path;split <;> simp <;> omega⟩,rfl⟩,aW (bI (fun n9=>?_) fun n9=>?_)⟩⟩⟩⟩;refine⟨?_,by obtain rfl:=hx;simp only at n9 ⊢;rw[Jz (Hb Qo l6.2) n9,ph (Hb Qo l6.2)]⟩;rfl;refine⟨⟨_,rfl⟩,fun y hy=>?_⟩;rw[hy]at Sw;refine⟨D3 (Zbm (V.own 8 · m5.1 m5.2.1 m5.2.2) (splitN hy (hix))),ak fun gA M' cA=>bL fun Vb U6 Ve=>⟨Zbm (V.own 2 · Vb U6 Ve) Zad,eD ⟨D3 (Zbm (V.own 8 · m5.1 m5.2.1 m5.2.2) (ck (f:=ae) (x:=({ y with td:=y.td++[⟨a,0⟩] }:j9)) (hix))),⟨?_,by subst hy;obtain rfl:=hx;simp only at n9 ⊢;rw[Lv (Hb Qo l6.2) n9,ph (Hb Qo l6.2)]⟩⟩⟩⟩;rfl)
section
variable {P:Program}
def nlC(xs:List V):Cu P where
 X:={b:Bool // b=true->xs=[]}
 pre N o A:=match o.op,o.dst with
  | .binOp .eql T x (.const (.slice none 0 0)) _,some d=>match tD P T,Nat.blt d N with
    | some (.sl _),true=>match A.ev x with
      | .sl _ ys=>ys=xs
      | _=>False
    | _,_=>False
  | _,_=>False
 post b o A:=match o.dst with
  | some d=>A.put (some d) (.lit (.bool b.1))
  | none=>A
 ok:=by
  rintro N ⟨dst,op,ty,pos,after,I6⟩ A K-hp hK;simp only at hp hK;split at hp;rename_i T x yt d;split at hp;rename_i e e1 e2;split at hp;rename_i f ys e3;subst hp;obtain⟨td,hu,hd⟩:=dY e1;obtain⟨et,hu⟩:∃ et,P.underlying T=some (.slice et):=by
   cases td <;> simp_all[fa]
  intro Pb Kb a w F Q hs;obtain⟨_,hx⟩:=fv hs x;rw[e3]at hx;have hx:R w Pb (.sl f ys) [a.eval x] _:=hx;obtain⟨_,B,c,hc,hle,_,U7⟩:=hx;simp only[List.cons.injEq,and_true]at hc;have SR:(execOp a.eval ⟨some d,.binOp .eql T x (.const (.slice none 0 0)) yt,ty,pos,after,I6⟩).run P w=.ok (.value (.bool B.isNone)) w:=by
   have YB:∀ q,(Op.equalIn (q+1) T (.slice B ys.length c) (.slice none 0 0)).run P w=.ok B.isNone w:=fun q=>by
    unfold Op.equalIn;rw[Za0,run_underlying hu];cases B <;> rfl
   have hq:(binOp .eql T (.slice B ys.length c) (.slice none 0 0)).run P w=.ok (.bool B.isNone) w:=by
    show ((Op.equalIn (9999+1) T (.slice B ys.length c) (.slice none 0 0)) >>= fun b=>pure (Value.bool b)).run P w=_;rw[Za0,YB];rfl
   have hy:a.eval (.const (.slice none 0 0))=.slice none 0 0:=rfl;simp only[execOp,hc,hy,Za0,xS .eql T x (.const (.slice none 0 0)) (u:=.slice B ys.length c) (v:=.slice none 0 0) (fun _ h=>by cases h) (fun h=>by cases h),Zas,hq,Za1]
  obtain⟨F',H4⟩:=hs.uc (d:=some d) (v:=.lit (.bool B.isNone)) (cv e2) (eA rfl);unfold Oper.wp;rw[SR,Oper.upon_value];refine⟨_,Pb,Kb,F',hK ⟨B.isNone,fun h=>?_⟩,H4,fun _ h=>h,fun _ h=>h,fun _ h=>.inl h,F7.refl _ _⟩;rcases U7 with h1 | ⟨_,_,_,_,rfl,_⟩;exact h1;cases h;exact hp.elim;exact hp.elim;exact hp.elim
end
section
variable {α β:Type} {l:List α} {f g:α->β} {d:α} {i:Nat}
theorem Pw:l.map g=(l.take 0).map f++(l.drop 0).map g:=rfl
theorem MJ(h:i<l.length):(l.take i).map f++(l.drop i).map g=(l.take i).map f++g (l.getD i d)::(l.drop (i+1)).map g:=by
 rw[List.drop_eq_getElem_cons h,Zbe,Zam,Zat h];rfl
theorem OC(h:i<l.length):(l.take i).map f++f (l.getD i d)::(l.drop (i+1)).map g=(l.take (i+1)).map f++(l.drop (i+1)).map g:=by
 rw[List.take_succ_eq_append_getElem h,Zbb,List.append_assoc,Zam,Zat h];rfl
theorem Px(h:l.length<=i):(l.take i).map f++(l.drop i).map g=l.map f:=by
 rw[Zaz h,Za8 h];simp
end
abbrev um(p0:BL)(p1:Int)(p2:V)(p3:List BL)(p4:List n7):V:=.agg [sV p0,iV p1,p2,.sl false (p3.map sV),.sl false (p4.map ay)]
abbrev lO(p0:BL)(p1:Int)(p2:V)(p3:List BL)(p4:List n7):V:=.agg [sV p0,iV p1,p2,.sl false (p3.map sV),.sl false (p4.map ay)]
abbrev Dc(p0:BL)(p1:Int)(p2:Bool)(p3:List BL)(p4:List u0)(p5:Nat)(p6:Int)(p7:List r3):V:=.agg [sV p0,iV p1,bV p2,.agg [.sl false (p3.map sV),.sl false (p4.map aE),iN p5],iV p6,.ow 2 (p7.map ai)]
abbrev bq(y0:l3):V:=bY y0.na y0.b7 y0.hs y0.se y0.lk
abbrev dG(y0:j9)(p7:List r3):V:=Dc y0.na y0.re y0.kn y0.gr.na y0.gr.ru y0.gr.wa y0.tr p7
def DR(l:List j9):aG:=.mk 85 [ie l] [] (l.length<=1000000) (.ow 8 (l.map bX)) [] (by
 intro hl
 refine aA Tryz.func85
  (.l7 2<|.cu (nlC (l.map bX)) (fun z4=>.br (.q 1<|.h (.O8 2 8)<|.nil) (.bs<|.q 1<|.ap (fun g7 o7 c7=>.h (.o9 7 (.own 8 (l.map bX) g7 o7 c7))<|.q 1<|.nil))))
  (((l.map bX:List V)=l.map bX)/\∀ z4: {b:Bool // b=true->(l.map bX:List V)=[]},Br z4.1 (Q (.ow 8 ([].map bX)) (.ow 8 (l.map bX))) ((True)/\(True)/\(V.aK (l.map bX)=false)/\(aX 8 (l.map bX))/\((([]:List V).length+(l.map bX).length)*120<=140737488355328)/\∀ g7 o7 c7:Nat,((.own 8 (([]:List V)++(l.map bX)) g7 o7 c7:V)=.own 8 (l.map bX) g7 o7 c7)/\Q (.ow 8 (l.map bX)) (.ow 8 (l.map bX)))) ?_
 refine⟨rfl,fun z4=>bI (fun l4=>?_) fun l4=>?_⟩;rw[z4.2 l4];rfl;refine aW ⟨(bF (f:=bX) (fun _=>rfl) _),(cd (f:=bX) (fun _=>rfl) _),Zal,fun g7 o7 c7=>⟨Zbm (V.own 8 · g7 o7 c7) (List.nil_append _),?_⟩⟩;rfl)
def CU(l:List u0):aG:=.mk 87 [cR l] [] (l.length<=1000000) (.ow 2 (l.map aE)) [] (by
 intro hl
 refine aA Tryz.func87
  (.l7 2<|.cu (nlC (l.map aE)) (fun z4=>.br (.q 1<|.h (.O8 2 2)<|.nil) (.bs<|.q 1<|.ap (fun g7 o7 c7=>.h (.o9 7 (.own 2 (l.map aE) g7 o7 c7))<|.q 1<|.nil))))
  (((l.map aE:List V)=l.map aE)/\∀ z4: {b:Bool // b=true->(l.map aE:List V)=[]},Br z4.1 (Q (.ow 2 ([].map aE)) (.ow 2 (l.map aE))) ((True)/\(True)/\(V.aK (l.map aE)=false)/\(aX 2 (l.map aE))/\((([]:List V).length+(l.map aE).length)*24<=140737488355328)/\∀ g7 o7 c7:Nat,((.own 2 (([]:List V)++(l.map aE)) g7 o7 c7:V)=.own 2 (l.map aE) g7 o7 c7)/\Q (.ow 2 (l.map aE)) (.ow 2 (l.map aE)))) ?_
 refine⟨rfl,fun z4=>bI (fun l4=>?_) fun l4=>?_⟩;rw[z4.2 l4];rfl;refine aW ⟨Zdj,Zdk,Zal,fun g7 o7 c7=>⟨Zbm (V.own 2 · g7 o7 c7) (List.nil_append _),?_⟩⟩;rfl)
def Dn(l:List r3):aG:=.mk 88 [dT l] [] (l.length<=1000000) (.ow 2 (l.map ai)) [] (by
 intro hl
 refine aA Tryz.func88
  (.l7 2<|.cu (nlC (l.map ai)) (fun z4=>.br (.q 1<|.h (.O8 2 2)<|.nil) (.bs<|.q 1<|.ap (fun g7 o7 c7=>.h (.o9 7 (.own 2 (l.map ai) g7 o7 c7))<|.q 1<|.nil))))
  (((l.map ai:List V)=l.map ai)/\∀ z4: {b:Bool // b=true->(l.map ai:List V)=[]},Br z4.1 (Q (.ow 2 ([].map ai)) (.ow 2 (l.map ai))) ((True)/\(True)/\(V.aK (l.map ai)=false)/\(aX 2 (l.map ai))/\((([]:List V).length+(l.map ai).length)*24<=140737488355328)/\∀ g7 o7 c7:Nat,((.own 2 (([]:List V)++(l.map ai)) g7 o7 c7:V)=.own 2 (l.map ai) g7 o7 c7)/\Q (.ow 2 (l.map ai)) (.ow 2 (l.map ai)))) ?_
 refine⟨rfl,fun z4=>bI (fun l4=>?_) fun l4=>?_⟩;rw[z4.2 l4];rfl;refine aW ⟨Zd8,Zd9,Zal,fun g7 o7 c7=>⟨Zbm (V.own 2 · g7 o7 c7) (List.nil_append _),?_⟩⟩;rfl)
def Dp(l:List n7):aG:=.mk 89 [cQ l] [] (l.length<=1000000) (.ow 3 (l.map ay)) [] (by
 intro hl
 refine aA Tryz.func89
  (.l7 2<|.cu (nlC (l.map ay)) (fun z4=>.br (.q 1<|.h (.O8 2 3)<|.nil) (.bs<|.q 1<|.ap (fun g7 o7 c7=>.h (.o9 7 (.own 3 (l.map ay) g7 o7 c7))<|.q 1<|.nil))))
  (((l.map ay:List V)=l.map ay)/\∀ z4: {b:Bool // b=true->(l.map ay:List V)=[]},Br z4.1 (Q (.ow 3 ([].map ay)) (.ow 3 (l.map ay))) ((True)/\(True)/\(V.aK (l.map ay)=false)/\(aX 3 (l.map ay))/\((([]:List V).length+(l.map ay).length)*32<=140737488355328)/\∀ g7 o7 c7:Nat,((.own 3 (([]:List V)++(l.map ay)) g7 o7 c7:V)=.own 3 (l.map ay) g7 o7 c7)/\Q (.ow 3 (l.map ay)) (.ow 3 (l.map ay)))) ?_
 refine⟨rfl,fun z4=>bI (fun l4=>?_) fun l4=>?_⟩;rw[z4.2 l4];rfl;refine aW ⟨Zea,Zeb,Zal,fun g7 o7 c7=>⟨Zbm (V.own 3 · g7 o7 c7) (List.nil_append _),?_⟩⟩;rfl)
abbrev vc(t:l3):V:=bq t
def Aj(t:l3):aG:=.mk 50 [ag t] [] (m6 t) (vc t) [] (by
 intro ht;have S6:=ht.h
 refine aA Tryz.func50
  (.bx (fun g1=>.al cm (fun g2=>.r 2 [.c9]<|.c (DR t.hs) []<|.q 1<|.st none<|.oR (.key 1) [2] (fun g o c=>.r 4 [.c9]<|.h (.o8 1 (lO t.na t.b7 (.own 8 ((t.hs.take 0).map ae++(t.hs.drop 0).map bX) g o c) t.se t.lk))<|.loop Nat (fun i=>⟨[(1,kp 1 g1),(2,kp 2 g2),(11,iN t.hs.length),(12,iN i)],[(1,(g1,lO t.na t.b7 (.own 8 ((t.hs.take i).map ae++(t.hs.drop i).map bX) g o c) t.se t.lk)),(2,(g2,.agg [sV [],iN 0,.sl true [],.sl true [],.sl true []]))]⟩) (fun i=>i<=t.hs.length) (fun i=>t.hs.length-i) (fun i=>(fun (y2:j9) (y1:V->V)=>(.q 1<|.br (.q 2<|.h (.o8 1 (y1 (aH y2 (y2.td):V)))<|.r 5 [.c9]<|.r 6 [aJ (y2.gr.na)]<|.c (nK (y2.gr.na)) []<|.q 3<|.h (.fz 25)<|.h (.o9 25 (aJ (y2.gr.na)))<|.st (some (aJ (y2.gr.na)))<|.h (.o8 1 (y1 (aH y2 (y2.td):V)))<|.r 6 [cR (y2.gr.ru)]<|.c (CU (y2.gr.ru)) []<|.q 3<|.h (.fz 35)<|.h (.o9 35 (cR (y2.gr.ru)))<|.st (some (cR (y2.gr.ru)))<|.h (.o8 1 (y1 (aH y2 (y2.td):V)))<|.r 5 [dT (y2.td)]<|.c (Dn (y2.td)) []<|.q 2<|.st (some (dT (y2.td)))<|.h (.o8 1 (y1 (dG y2 (y2.td):V)))<|.h (.o8 1 (lO t.na t.b7 (.own 8 ((t.hs.take (i+1)).map ae++(t.hs.drop (i+1)).map bX) g o c) t.se t.lk))<|.q 2<|.nil) (.h (.o8 1 (.agg [sV t.na,iV t.b7,.own 8 (t.hs.map ae) g o c,aJ t.se,cQ t.lk]))<|.r 2 [.c9]<|.c (nK t.se) []<|.q 1<|.st none<|.r 2 [.c9]<|.c (Dp t.lk) []<|.q 1<|.st none<|.mv<|.st none<|.nil):Sc Tryz.prog)) (t.hs.getD i b9) (fun r:V=>(um t.na t.b7 (.own 8 ((t.hs.take i).map ae++r::(t.hs.drop (i+1)).map bX) g o c) t.se t.lk)))))))
  ((fun v1:V=>(∀ g1:Nat,∀ g2:Nat,Z g1 2/\(DR t.hs).sm/\((t.hs.length<=1000000))/\Z g1 2/\∀ g o c:Nat,(fun v2:V=>Z g1 2/\((.agg [sV t.na,iV t.b7,.own 8 (t.hs.map bX) g o c,aJ t.se,cQ t.lk]:V)=lO t.na t.b7 v2 t.se t.lk)/\(∃ j7:Nat,(j7<=t.hs.length)/\E (kp 1 g1)/\E (kp 2 g2)/\Q (iN ((t.hs.map bX).length)) (iN t.hs.length)/\Q (iN 0) (iN j7)/\Qr g1 (lO t.na t.b7 v2 t.se t.lk) g1 (lO t.na t.b7 (.own 8 ((t.hs.take j7).map ae++(t.hs.drop j7).map bX) g o c) t.se t.lk)/\Er g2 v1/\True)/\∀ i:Nat,(i<=t.hs.length)->(fun (v5:j9) (v3:V->V)=>(fun v11:V=>(fun v4:V=>(fun (v10 v6:V) (v9 v8 v7:Prop)=>Br (s4 (i:Int) (t.hs.length:Int)) ((v6=um t.na t.b7 (v3 v11) t.se t.lk)/\Z g1 2/\In (i:Int) (((t.hs.take i).map ae++v11::(t.hs.drop (i+1)).map bX).length)/\True/\v7/\(nK (v5.gr.na)).sm/\(((v5.gr.na).length<=1000000))/\True/\((.sl false (V.G4 ((v5.gr.na).map sV)):V)=aJ (v5.gr.na))/\v7/\(V.set v4 [2,0+i,3,0] (aJ (v5.gr.na))=um t.na t.b7 (v3 v11) t.se t.lk)/\True/\v8/\(CU (v5.gr.ru)).sm/\(((v5.gr.ru).length<=1000000))/\True/\((.sl false (V.G4 ((v5.gr.ru).map aE)):V)=cR (v5.gr.ru))/\v8/\(V.set v4 [2,0+i,3,1] (cR (v5.gr.ru))=um t.na t.b7 (v3 v11) t.se t.lk)/\True/\v9/\(Dn (v5.td)).sm/\(((v5.td).length<=1000000))/\True/\v9/\(V.set v4 [2,0+i,5] (.ow 2 ((v5.td).map ai))=um t.na t.b7 (v3 (dG v5 (v5.td):V)) t.se t.lk)/\((um t.na t.b7 (v3 (dG v5 (v5.td):V)) t.se t.lk:V)=lO t.na t.b7 v10 t.se t.lk)/\n8 ((i:Int)+1)/\∃ e9:Nat,(e9<=t.hs.length)/\(t.hs.length-e9<t.hs.length-i)/\E (kp 1 g1)/\E (kp 2 g2)/\E (iN t.hs.length)/\Q (iN (i+1)) (iN e9)/\Qr g1 (lO t.na t.b7 v10 t.se t.lk) g1 (lO t.na t.b7 (.own 8 ((t.hs.take e9).map ae++(t.hs.drop e9).map bX) g o c) t.se t.lk)/\Er g2 v1/\True) ((v6=.agg [sV t.na,iV t.b7,.own 8 (t.hs.map ae) g o c,aJ t.se,cQ t.lk])/\Z g1 3/\(nK t.se).sm/\((t.se.length<=1000000))/\Z g1 3/\Z g1 4/\(Dp t.lk).sm/\((t.lk.length<=1000000))/\Z g1 4/\Z g1 0/\Z g2 0/\(g2=g2)/\Q (bq t) (vc t))) (.own 8 ((t.hs.take (i+1)).map ae++(t.hs.drop (i+1)).map bX) g o c) (lO t.na t.b7 (.own 8 ((t.hs.take i).map ae++(t.hs.drop i).map bX) g o c) t.se t.lk:V) (V.at g1 0 v4 [2,0+i,5]=some (g,(o+(0+i)*8+7),dT (v5.td))) (V.at g1 0 v4 [2,0+i,3,1]=some (g,(o+(0+i)*8+3+1),cR (v5.gr.ru))) (V.at g1 0 v4 [2,0+i,3,0]=some (g,(o+(0+i)*8+3+0),aJ (v5.gr.na)))) (um t.na t.b7 (v3 v11) t.se t.lk)) (aH v5 (v5.td):V)) (t.hs.getD i b9) (fun r:V=>(.own 8 ((t.hs.take i).map ae++r::(t.hs.drop (i+1)).map bX) g o c))) (.own 8 ((t.hs.take 0).map ae++(t.hs.drop 0).map bX) g o c))) (.agg [sV [],iN 0,.sl true [],.sl true [],.sl true []])) ?_
 intro g1;intro g2;refine⟨rfl,rfl,by have:=ht.h;omega,rfl,fun g o c=>⟨rfl,D3 (Zbm (V.own 8 · g o c) Pw),⟨⟨0,?_,rfl,rfl,Zah,aD⟩,?_⟩⟩⟩;simp;rintro i h1;refine bI (fun l4=>?_) fun l4=>?_;refine⟨D3 (Zbm (V.own 8 · g o c) (MJ (d:=b9) Zac)),rfl,by(try simp only[Zay]at *);simp only[Zap,Zar,Zay,List.length_take,List.length_drop];omega,?_⟩;have L4:=ht.ha _ (ar (d:=b9) (show i<t.hs.length by omega));refine aR ⟨by first | (have:=L4.g;omega) | (have:=ht.s;omega),eB ⟨by have:=L4.r;omega,eB ⟨by have:=L4.t;omega,aR ⟨D3 (Zbm (V.own 8 · g o c) (OC (f:=ae) (d:=b9) Zac)),ak ⟨i+1,?_,?_,aD⟩⟩⟩⟩⟩;omega;exact Zak;refine⟨D3 (Zbm (V.own 8 · g o c) (Px Zac)),rfl,rfl,by first | (have:=L4.g;omega) | (have:=ht.s;omega),rfl,rfl,rfl,by have:=ht.l;omega,aR ⟨rfl,?_⟩⟩;unfold Q vc;rfl)
def eQ(y:j9):Bool:=decide (y.td≠[])
theorem xy{y:j9}:s9 (((y.td.map ai).length:Nat):Int) 0=eQ y:=by
 unfold eQ s9;cases h:y.td <;> simp
def m4(t:l3):Nat:=((bb t).map (·.1)).getD 0
def w5(t:l3):Int:=((bb t).map (·.2)).getD 0
theorem gj{t:l3}{i:Nat}(h:i<t.hs.length):r7 t (i+1)=iM t.b7 (r7 t i) (i,t.hs.getD i b9):=by
 unfold r7;rw[List.take_succ_eq_append_getElem Zbq,Zbb,List.foldl_append];simp[Zam,Zat h]
section
variable {n:BL} {b7 b q:Int} {zs:List j9} {se:List BL} {ls:List n7} {i:Nat}
theorem yU(h:i<zs.length)(h2:b=(r7 ⟨n,b7,zs,se,ls⟩ i).1)(h3:q=(r7 ⟨n,b7,zs,se,ls⟩ i).2)(c:eQ (zs.getD i b9)=true/\(b<0\/max (zs.getD i b9).re b7<q)):r7 ⟨n,b7,zs,se,ls⟩ (i+1)=((i:Int),max (zs.getD i b9).re b7):=by
 rw[gj (t:=⟨n,b7,zs,se,ls⟩) h];unfold iM;rw[<- h2,<- h3,if_pos ⟨of_decide_eq_true c.1,c.2⟩]
theorem zt(h:i<zs.length)(h2:b=(r7 ⟨n,b7,zs,se,ls⟩ i).1)(h3:q=(r7 ⟨n,b7,zs,se,ls⟩ i).2)(c:eQ (zs.getD i b9)=true->(0<=b/\q<=max (zs.getD i b9).re b7)):r7 ⟨n,b7,zs,se,ls⟩ (i+1)=r7 ⟨n,b7,zs,se,ls⟩ i:=by
 rw[gj (t:=⟨n,b7,zs,se,ls⟩) h];unfold iM;rw[<- h2,<- h3,if_neg (fun d=>?_)];have:=c (decide_eq_true d.1);have:=d.2;simp only at this;omega
theorem xf{t:l3}(h:(r7 t t.hs.length).1<0\/5000<(r7 t t.hs.length).2):bb t=none:=if_pos h
theorem xe{t:l3}(h:0<=(r7 t t.hs.length).1/\(r7 t t.hs.length).2<=5000):bb t=some ((r7 t t.hs.length).1.toNat,(r7 t t.hs.length).2):=if_neg Zac
end
def Jj(k:Int):aG:=.mk 166 [iV k] [] True (iV (bE k)) [] (by
 intro _
 refine aA Tryz.func166
  (.l7 2<|.q 2<|.br (.q 1<|.nil) (.q 2<|.br (.q 1<|.nil) (.q 2<|.br (.q 1<|.nil) (.q 1<|.nil))))
  (Br (r4 k 1) (Q (iN 2) (iV (bE k))) (Br (r4 k 2) (Q (iN 4) (iV (bE k))) (Br (r4 k 3) (Q (iN 8) (iV (bE k))) (Q (iN 0) (iV (bE k)))))) ?_
 refine bI (fun l4=>?_) fun l4=>?_;rw[bE,if_pos l4];rfl;refine bI (fun l6=>?_) fun l6=>?_;rw[bE,if_neg l4,if_pos l6];rfl;refine bI (fun n9=>?_) fun n9=>?_;rw[bE,if_neg l4,if_neg l6,if_pos n9];rfl;rw[bE,if_neg l4,if_neg l6,if_neg n9];rfl)
abbrev Bu(n:BL)(b7:Int)(zs:List j9)(se:List BL)(ls:List n7)(gt g o c gb ix:Nat):V:=.tup [iV (max (zs.getD ix b9).re b7),bV (eQ (zs.getD ix b9))]
def Md(n:BL)(b7:Int)(zs:List j9)(se:List BL)(ls:List n7)(gt g o c gb ix:Nat):aG:=.mk 54 [.ptr (.key 1000) [2,ix] g (o+ix*8),kp 1001 gb] [(1001,(gb,kp 1000 gt)),(1000,(gt,bK n b7 zs g o c se ls))] (ix<zs.length) (Bu n b7 zs se ls gt g o c gb ix) [(1001,(gb,kp 1000 gt)),(1000,(gt,bK n b7 zs g o c se ls))] (by
 intro hi
 refine aA Tryz.func54
  (.q 2<|.h (.o8 1000 (bS n b7 zs ix (zs.getD ix b9) ((zs.getD ix b9).td) g o c se ls))<|.Qx (.key 1000) [2,ix,5] g (o+(ix)*8+7) 2 (((zs.getD ix b9).td).map ai) (fun gA M' cA=>(fun y1:j9=>(.h (.o8 1000 (bC n b7 zs ix y1 (y1.td) gA M' cA g o c se ls))<|.A3 16 [(3,l9 [1000] [8]),(4,l9 [1001] [9]),(7,l9 [1000] [12]),(12,l9 [1000] [17])]<|.l7 3<|.r 1 [iV (y1.re)]<|.m7<|.l7 2<|.m7<|.mm<|.l7 3<|.r 1 [.own 2 ((y1.td).map ai) gA M' cA]<|.l7 4<|.h (.O1 (.key 1000) [2,ix,5] g (o+(ix)*8+7) (.own 2 ((y1.td).map ai) gA M' cA) (.ow 2 ((y1.td).map ai)))<|.h (.o8 1000 (bS n b7 zs ix y1 (y1.td) g o c se ls))<|.h (.o8 1000 (bK n b7 zs g o c se ls))<|.nil:Sc Tryz.prog)) (zs.getD ix b9)))
  ((fun v1:j9=>(fun v2:List V=>(((bK n b7 zs g o c se ls:V)=bS n b7 zs ix v1 (v1.td) g o c se ls)/\(V.at gt 0 (bS n b7 zs ix v1 (v1.td) g o c se ls) [2,ix,5]=some (g,o+(ix)*8+7,.ow 2 v2))/\∀ gA M' cA:Nat,(fun v3:V=>(V.set (bS n b7 zs ix v1 (v1.td) g o c se ls) [2,ix,5] (.own 2 v2 gA M' cA)=bC n b7 zs ix v1 (v1.td) gA M' cA g o c se ls)/\True/\(V.at gt 0 v3 [2,ix,1]=some (g,(o+ix*8+1),iV (v1.re)))/\Z gb 0/\True/\Z gt 1/\(IntKind.i64=IntKind.i64)/\True/\(V.at gt 0 v3 [2,ix,5]=some (g,(o+ix*8+7),.own 2 v2 gA M' cA))/\(V.at gt 0 v3 [2,ix,5]=some (g,o+(ix)*8+7,.own 2 v2 gA M' cA))/\(V.set v3 [2,ix,5] (.ow 2 v2)=bS n b7 zs ix v1 (v1.td) g o c se ls)/\((bS n b7 zs ix v1 (v1.td) g o c se ls:V)=bK n b7 zs g o c se ls)/\Q (.tup [iV (max (v1.re) b7),bV (s9 ((v2.length:Nat):Int) 0)]) (Bu n b7 zs se ls gt g o c gb ix)/\Er gb (kp 1000 gt)/\Er gt (bK n b7 zs g o c se ls)) (bC n b7 zs ix v1 (v1.td) gA M' cA g o c se ls))) ((v1.td).map ai)) (zs.getD ix b9)) ?_
 refine⟨Zec,ak fun gA M' cA=>aR (bL ⟨D3 (Zbm (V.own 8 · g o c) (dz (f:=ae) (d:=b9) Zac).symm),⟨?_,aD⟩⟩)⟩;unfold Q Bu;rw[xy])
abbrev rF(n:BL)(b7:Int)(zs:List j9)(se:List BL)(ls:List n7)(gt g o c gb:Nat):V:=.tup [iV (max (r7 (⟨n,b7,zs,se,ls⟩:l3) zs.length).1 0),iV ((r7 (⟨n,b7,zs,se,ls⟩:l3) zs.length).2),bV (G3 (r7 (⟨n,b7,zs,se,ls⟩:l3) zs.length).1 0)]
abbrev hX(n:BL)(b7:Int)(zs:List j9)(se:List BL)(ls:List n7)(gt g o c gb i:Nat)(b q:Int):Prop:=i<=zs.length/\b=(r7 (⟨n,b7,zs,se,ls⟩:l3) i).1/\q=(r7 (⟨n,b7,zs,se,ls⟩:l3) i).2
def vR(n:BL)(b7:Int)(zs:List j9)(se:List BL)(ls:List n7)(gt g o c gb:Nat):aG:=.mk 53 [.hd (.key 1000) [2] 8 g o 0 ((zs.map ae).length) c,.lit (.func (.func 54) #[] #[.pointer (some ⟨gb,0,none⟩)])] [(1001,(gb,kp 1000 gt)),(1000,(gt,bK n b7 zs g o c se ls))] (zs.length<=1000) (rF n b7 zs se ls gt g o c gb) [(1001,(gb,kp 1000 gt)),(1000,(gt,bK n b7 zs g o c se ls))] (by
 intro hl
 refine aA Tryz.func53
  (.q 3<|.q 2<|.q 3<|.loop (Nat×Int×Int) (fun (i,b,q)=>⟨[(0,.hd (.key 1000) [2] 8 g o 0 ((zs.map ae).length) c),(1,.lit (.func (.func 54) #[] #[.pointer (some ⟨gb,0,none⟩)])),(7,iV b),(8,iV q),(13,iN zs.length),(14,iN i)],[(1001,(gb,kp 1000 gt)),(1000,(gt,bK n b7 zs g o c se ls))]⟩) (fun (i,b,q)=>hX n b7 zs se ls gt g o c gb i b q) (fun (i,b,q)=>zs.length-i) (fun (i,b,q)=>.q 1<|.br (.q 2<|.q 4<|.c (Md n b7 zs se ls gt g o c gb i) [(1000,1000),(1001,1001)]<|.q 5<|.q 10<|.br (.q 4<|.q 2<|.nil) (.q 2<|.nil)) (.q 1<|.mm<|.q 6<|.nil)))
  ((fun (v2 v1:V)=>((∃ x:Nat×Int×Int,match x with | (j7,H2,D0)=>(hX n b7 zs se ls gt g o c gb j7 H2 D0)/\E (.hd (.key 1000) [2] 8 g o 0 ((zs.map ae).length) c)/\E v1/\Q (iV (-1)) (iV H2)/\Q (iN 0) (iV D0)/\Q (iN ((zs.map ae).length)) (iN zs.length)/\Q (iN 0) (iN j7)/\Er gb v2/\Er gt (bK n b7 zs g o c se ls)/\True)/\∀ x:Nat×Int×Int,match x with | (i,b,q)=>(hX n b7 zs se ls gt g o c gb i b q)->Br (s4 (i:Int) (zs.length:Int)) (In (i:Int) ((zs.map ae).length)/\(([.ptr (.key 1000) [2,i] g (o+(0+i)*8),kp 1001 gb]:List V)=[.ptr (.key 1000) [2,i] g (o+i*8),kp 1001 gb])/\Er gb v2/\Er gt (bK n b7 zs g o c se ls)/\((i<zs.length))/\Gd ((eQ (zs.getD i b9))==true) (Pk (s4 b 0) true (((eQ (zs.getD i b9))==true)&&((s4 b 0)==false)))/\Pk (eQ (zs.getD i b9)) ((eQ (zs.getD i b9))==true) true/\Br ((eQ (zs.getD i b9))&&((s4 b 0)||(s4 (max (zs.getD i b9).re b7) q))) (n8 ((i:Int)+1)/\∃ x:Nat×Int×Int,match x with | (e9,x7,s8)=>(hX n b7 zs se ls gt g o c gb e9 x7 s8)/\(zs.length-e9<zs.length-i)/\E (.hd (.key 1000) [2] 8 g o 0 ((zs.map ae).length) c)/\E v1/\Q (iN i) (iV x7)/\Q (iV (max (zs.getD i b9).re b7)) (iV s8)/\E (iN zs.length)/\Q (iN (i+1)) (iN e9)/\Er gb v2/\Er gt (bK n b7 zs g o c se ls)/\True) (n8 ((i:Int)+1)/\∃ x:Nat×Int×Int,match x with | (e9,x7,s8)=>(hX n b7 zs se ls gt g o c gb e9 x7 s8)/\(zs.length-e9<zs.length-i)/\E (.hd (.key 1000) [2] 8 g o 0 ((zs.map ae).length) c)/\E v1/\Q (iV b) (iV x7)/\Q (iV q) (iV s8)/\E (iN zs.length)/\Q (iN (i+1)) (iN e9)/\Er gb v2/\Er gt (bK n b7 zs g o c se ls)/\True)) ((IntKind.i64=IntKind.i64)/\Q (.tup [iV (max b 0),iV q,bV (G3 b 0)]) (rF n b7 zs se ls gt g o c gb)/\Er gb v2/\Er gt (bK n b7 zs g o c se ls)))) (kp 1000 gt) (.lit (.func (.func 54) #[] #[.pointer (some ⟨gb,0,none⟩)]))) ?_
 refine⟨⟨(0, -1,0),?_,rfl,rfl,rfl,Zah,Zah,aD⟩,?_⟩;unfold hX;exact⟨Zad,rfl,rfl⟩;rintro⟨i,b,q⟩ ⟨h1,h2,h3⟩;refine bI (fun l4=>?_) fun l4=>?_;refine ak ⟨Zed,bU (bI (fun l6=>?_) fun l6=>?_)⟩;refine ak ⟨(i+1,(i:Int),max (zs.getD i b9).re b7),?_,?_,rfl,rfl,Zah,aD⟩;unfold hX;first | exact⟨Zac,by rw[yU Zac h2 h3 l6],by rw[yU Zac h2 h3 l6]⟩ | exact⟨Zac,by rw[zt Zac h2 h3 l6];exact h2,by rw[zt Zac h2 h3 l6];exact h3⟩
 exact Zak;refine ak ⟨(i+1,b,q),?_,?_,aD⟩;unfold hX;first | exact⟨Zac,by rw[yU Zac h2 h3 l6],by rw[yU Zac h2 h3 l6]⟩ | exact⟨Zac,by rw[zt Zac h2 h3 l6];exact h2,by rw[zt Zac h2 h3 l6];exact h3⟩
 exact Zak;refine⟨rfl,⟨?_,aD⟩⟩;unfold Q rF;obtain rfl:i=zs.length:=Zac;rw[h2,h3])
abbrev wT(n:BL)(b7:Int)(zs:List j9)(se:List BL)(ls:List n7)(gt:Nat):V:=.tup [iN (m4 (⟨n,b7,zs,se,ls⟩:l3)),iV (w5 (⟨n,b7,zs,se,ls⟩:l3)),bV ((bb (⟨n,b7,zs,se,ls⟩:l3)).isSome)]
def Ah(n:BL)(b7:Int)(zs:List j9)(se:List BL)(ls:List n7)(gt:Nat):aG:=.mk 27 [kp 1000 gt] [(1000,(gt,bY n b7 zs se ls))] (zs.length<=1000) (wT n b7 zs se ls gt) [(1000,(gt,bY n b7 zs se ls))] (by
 intro hl
 refine aA Tryz.func27
  (.oR (.key 1000) [2] (fun g o c=>.bx (fun g1=>.q 3<|.r 4 [.c9,.c9]<|.cu Vq (fun _=>.c (vR n b7 zs se ls gt g o c g1) [(1001,1),(1000,1000)]<|.q 7<|.q 6<|.br (.q 3<|.nil) (.q 5<|.nil)))))
  ((fun v1:l3=>(fun v2:Bool=>(∀ g o c:Nat,∀ g1:Nat,Z g1 0/\True/\Z gt 2/\((Value.func (.func 54) #[] #[.pointer (some ⟨g1,0,none⟩)]).oneCell'=true)/\∀ _:Unit,(vR n b7 zs se ls gt g o c g1).sm/\Er g1 (kp 1000 gt)/\Er gt (bK n b7 zs g o c se ls)/\((zs.length<=1000))/\Pk v2 true (v2==false)/\Br (v2||(s9 ((r7 v1 zs.length).2) 5000)) (Q (.tup [iN 0,iN 0,bV false]) (wT n b7 zs se ls gt)/\Er gt (bY n b7 zs se ls)) (Q (.tup [iV (max (r7 v1 zs.length).1 0),iV ((r7 v1 zs.length).2),bV true]) (wT n b7 zs se ls gt)/\Er gt (bY n b7 zs se ls)))) (!(G3 (r7 v1 zs.length).1 0))) (⟨n,b7,zs,se,ls⟩:l3)) ?_
 intro g o c;intro g1;refine bj fun _=>⟨rfl,rfl,rfl,hl,ak (bI (fun l4=>?_) fun l4=>?_)⟩;refine⟨?_,rfl⟩;unfold Q wT;rw[m4,w5,xf (t:=⟨n,b7,zs,se,ls⟩) l4];rfl;refine⟨?_,rfl⟩;unfold Q wT;rw[m4,w5,xe (t:=⟨n,b7,zs,se,ls⟩) l4];rw[show max (r7 ⟨n,b7,zs,se,ls⟩ zs.length).1 0=((r7 ⟨n,b7,zs,se,ls⟩ zs.length).1.toNat:Int) from Zac];rfl)
abbrev xo(p0:BL)(p1:Int)(p2:List j9)(p3 p4 p5:Nat)(p6:List BL)(p7:List n7)(p8 p9 I5:Nat):V:=.agg [sV p0,iV p1,.own 8 (p2.map ae) p3 p4 p5,.ow 1 (p6.map sV),.own 3 (p7.map ay) p8 p9 I5]
abbrev Ll(p0:BL)(p1:Int)(p2:List j9)(p3:Nat)(p4:BL)(p5:Int)(p6:Bool)(p7:List BL)(p8:List u0)(p9:Nat)(I5:Int)(F9:List r3)(D8 D7 D6:Nat)(D5:List BL)(E8:List n7)(I0 L5 L':Nat):V:=.agg [sV p0,iV p1,.own 8 ((p2.take p3).map ae++(.agg [sV p4,iV p5,bV p6,.agg [.sl false (p7.map sV),.sl false (p8.map aE),iN p9],iV I5,.ow 2 (F9.map ai)]:V)::(p2.drop (p3+1)).map ae) D8 D7 D6,.ow 1 (D5.map sV),.own 3 (E8.map ay) I0 L5 L']
abbrev zx(p0:BL)(p1:Int)(p2:List j9)(p3:Nat)(y4:j9)(F9:List r3)(D8 D7 D6:Nat)(D5:List BL)(E8:List n7)(I0 L5 L':Nat):V:=Ll p0 p1 p2 p3 y4.na y4.re y4.kn y4.gr.na y4.gr.ru y4.gr.wa y4.tr F9 D8 D7 D6 D5 E8 I0 L5 L'
abbrev nC(p0:BL)(p1:Int)(p2:List j9)(p3:Nat)(p4:BL)(p5:Int)(p6:Bool)(y7:m8)(I5:Int)(F9:List r3)(D8 D7 D6:Nat)(D5:List BL)(E8:List n7)(I0 L5 L':Nat):V:=Ll p0 p1 p2 p3 p4 p5 p6 y7.na y7.ru y7.wa I5 F9 D8 D7 D6 D5 E8 I0 L5 L'
theorem iv(k:Int):0<=bE k/\bE k<=8:=by unfold bE;split <;> (try split) <;> (try split) <;> omega
theorem LK{y:j9}{b7 k m:Int}(h:k=3):dv y b7 k m={ y with re:=b7+max (y.gr.wa:Int) 1+bE (m+1) }:=by unfold dv;rw[if_pos h]
theorem sZ{y:j9}{b7 k m:Int}(h: ¬ k=3):dv y b7 k m={ y with re:=b7+max (y.gr.wa:Int) 1 }:=by unfold dv;rw[if_neg h,Int.add_zero]
def gH(w:List Pg)(t:l3):fy:=.mk (Nat×Nat) 23 [aF w,ag t] [] ((w.length<=30)/\(∀ i,n6 (w.getD i s6))/\(m6 t)/\(au w=true)/\(ab t=true)) (fun x=>True) (fun x=>.tup [.ptr (.key 1001) [] x.1 0,bV true]) (fun x=>[(1001,(x.1,.agg [.mp (w.map O5),.ptr (.key 1000) [] x.2 0])),(1000,(x.2,bq t))]) (by
 rintro⟨hw,hz,ht,hk,PR⟩
 refine sh (N:=26) (rs:=[.tmp 4,.tmp 5]) (X:=Nat×Nat) (post:=fun x=>True) (E:=fun x=>.tup [.ptr (.key 1001) [] x.1 0,bV true]) (H':=fun x=>[(1001,(x.1,.agg [.mp (w.map O5),.ptr (.key 1000) [] x.2 0])),(1000,(x.2,.agg [sV t.na,iV t.b7,.ow 8 (t.hs.map ae),.ow 1 (t.se.map sV),.ow 3 (t.lk.map ay)]))]) Tryz.func23 Zae rfl rfl rfl Zae [(1001,(0,.c9)),(1000,(0,.c9))] (by intro _ k hk;simp only[lk]at hk ⊢;repeat (split at hk <;> simp_all))
  (.bx (fun g3=>.q 2<|.q 1<|.c (sd w) []<|.q 5<|.r 4 [.c9]<|.cg (gP t)<|.q 2<|.br (.nil) (.m7<|.c (Aj t) []<|.al cm (fun g8=>.st none<|.q 1<|.bd PE<|.bx (fun UN=>.q 2<|.h (.rk 25 1001)<|.h (.rk 8 1000)<|.nil)))))
  (∀ g3:Nat,(sd w).sm/\((w.length<=30)/\(∀ i,n6 (w.getD i s6))/\(au w=true))/\Gd ((!true)==false) (Z g3 0)/\Gd ((!true)==false) (((m6 t))/\(gP t).sm)/\Pk (!true) true ((!true)==false)/\Br ((!true)||(!(ab t))) (False) (Z g3 0/\(Aj t).sm/\((m6 t))/\∀ g8:Nat,Z g8 0/\∀ UN:Nat,∃ x:Nat×Nat,(True)/\Q (.tup [kp 1001 UN,bV true]) (.tup [.ptr (.key 1001) [] x.1 0,bV true])/\Qr UN (.agg [.mp (w.map O5),kp 1000 g8]) x.1 (.agg [.mp (w.map O5),.ptr (.key 1000) [] x.2 0])/\Qr g8 (bq t) x.2 (bq t)))
  Zae ?_
 intro g3;refine⟨rfl,⟨hw,hz,hk⟩,ak ⟨fun hG=>⟨ht,rfl⟩,ak (bI (fun l4=>?_) fun l4=>?_)⟩⟩
 · all_goals simp_all
 · refine⟨rfl,rfl,ht,fun g8=>⟨rfl,fun UN=>⟨(UN,g8),?_,?_,?_⟩⟩⟩
   · try dsimp only
     all_goals trivial
   exact Zaa;first | rfl | exact⟨rfl,rfl⟩ | simp_all)
def fN(w:List Pg)(t:l3):aG:=.mk 23 [aF w,ag t] [] ((w.length<=30)/\(∀ i,n6 (w.getD i s6))/\(m6 t)/\((au w&&ab t)=false)) (.tup [.c9,bV false]) [] (by
 rintro⟨hw,hz,ht,hk⟩
 refine aA Tryz.func23
  (.bx (fun g3=>.q 2<|.q 1<|.sp (au w) (.c (sd w) []<|.q 5<|.r 4 [.c9]<|.cg (gP t)<|.q 2<|.br (.q 2<|.nil) (.nil)) (.c (Ad w) []<|.q 5<|.r 4 [.c9]<|.cg (gP t)<|.q 2<|.br (.q 2<|.nil) (.nil))))
  ((fun v1:V=>(∀ g3:Nat,((au w)=true->(sd w).sm/\((w.length<=30)/\(∀ i,n6 (w.getD i s6))/\(au w=true))/\Gd ((!true)==false) (Z g3 0)/\Gd ((!true)==false) (((m6 t))/\(gP t).sm)/\Pk (!true) true ((!true)==false)/\Br ((!true)||(!(ab t))) (Q v1 v1) (False))/\((au w)=false->(Ad w).sm/\((w.length<=30)/\(∀ i,n6 (w.getD i s6))/\(au w=false))/\Gd ((!false)==false) (Z g3 0)/\Gd ((!false)==false) (((m6 t))/\(gP t).sm)/\Pk (!false) true ((!false)==false)/\Br ((!false)||(!(ab t))) (Q v1 v1) (False)))) (.tup [.c9,bV false])) ?_
 intro g3;refine⟨fun TC=>?_,fun TC=>?_⟩
 · have VO:=TC;try simp only[nb]at VO
   refine⟨rfl,⟨hw,hz,TC⟩,ak ⟨fun hG=>⟨ht,rfl⟩,ak (bI (fun l4=>?_) fun l4=>?_)⟩⟩;rfl
   · all_goals simp_all
 · have VO:=TC;try simp only[nb]at VO
   refine⟨rfl,⟨hw,hz,TC⟩,ak ⟨fun hG=>⟨ht,rfl⟩,ak (bI (fun l6=>?_) fun l6=>?_)⟩⟩;rfl
   · all_goals simp_all)
def Dy(n:BL)(b7:Int)(zs:List j9)(se:List BL)(ls:List n7)(gt g o c gw ix:Nat)(w:List Pg)(a:BL)(k:Int)(y:j9):aG:=.mk 125 [kp 1001 gw,.ptr (.key 1000) [2,ix] g (o+ix*8),sV a,iV k] [(1001,(gw,.agg [.mp (w.map O5),kp 1000 gt])),(1000,(gt,bK n b7 zs g o c se ls))] ((ix<zs.length)/\(ls.length<=1000)/\(0<=k/\k<=1000)/\(0<=b7/\b7<=100000)/\(zs.getD ix b9=y)/\(y.gr.wa<=1000)) (.tup [iV ((af w a k).1),sV ((af w a k).2)]) [(1001,(gw,.agg [.mp (w.map O5),kp 1000 gt])),(1000,(gt,bK n b7 (zs.set ix (dv y b7 (af w a k).1 k)) g o c se (ls++[(⟨b7,a,(af w a k).1⟩:n7)])))] (by
 rintro⟨hi,hl,hk,hn,WA,hy⟩
 refine aA Tryz.func125
  (.oR (.key 1000) [4] (fun gl I3 cl=>(fun (y2:Int) (y1:n7)=>(.q 2<|.r 5 [.c9]<|.r 6 [.c9]<|.c (CE w a k) []<|.q 5<|.A3 14 [(4,l9 [1000] [31]),(8,l9 [1000] [35]),(13,⟨true,[],none,[40],[1000]⟩)]<|.l7 4<|.m7<|.l7 3<|.m7<|.l7 2<|.bd mT<|.bs<|.ux none (fun PJ O9 Qm=>.h (.o9 40 (.own 3 ((ls++[y1]).map ay) PJ O9 Qm))<|.q 2<|.st none<|.h (.o8 1000 (zx n b7 zs ix y (y.td) g o c se (ls++[y1]) PJ O9 Qm))<|.A3 12 [(4,l9 [1000] [47]),(9,l9 [1000] [52])]<|.l7 4<|.m7<|.l7 4<|.r 1 [iN (y.gr.wa)]<|.mm<|.q 1<|.q 2<|.st (some (iV (y.re)))<|.h (.o8 1000 (nC n b7 zs ix (y.na) (b7+(max y2 1)) (y.kn) y.gr (y.tr) (y.td) g o c se (ls++[y1]) PJ O9 Qm))<|.q 2<|.br (.A3 7 [(3,l9 [1000] [62])]<|.l7 3<|.r 1 [iV (b7+(max y2 1))]<|.l7 2<|.c (Jj (k+1)) []<|.q 3<|.st (some (iV (b7+(max y2 1))))<|.h (.o8 1000 (nC n b7 zs ix (y.na) ((b7+(max y2 1))+(bE (k+1))) (y.kn) y.gr (y.tr) (y.td) g o c se (ls++[y1]) PJ O9 Qm))<|.q 4<|.h (.o8 1000 (xo n b7 (zs.set ix ({ y with re:=(b7+(max y2 1))+(bE (k+1)) }:j9)) g o c se (ls++[y1]) PJ O9 Qm))<|.nil) (.q 4<|.h (.o8 1000 (xo n b7 (zs.set ix ({ y with re:=b7+(max y2 1) }:j9)) g o c se (ls++[y1]) PJ O9 Qm))<|.nil)):Sc Tryz.prog)) ((y.gr.wa:Nat):Int) (⟨b7,a,(af w a k).1⟩:n7)))
  ((fun (v2:Int) (v1:n7)=>(fun (v7 v5 v3:V) (v6:j9) (v4:List V)=>(∀ gl I3 cl:Nat,True/\Z gw 1/\True/\Z gw 0/\(CE w a k).sm/\((0<=k)/\(k<=1000))/\True/\Z gt 4/\True/\Z gt 1/\(((3,3,gl,I3,cl,(ls.map ay).length)=(3,3,gl,I3,cl,(ls.map ay).length))/\(V.aK v4=false)/\(aX 3 v4)/\(((ls.map ay).length+v4.length)*32<=140737488355328))/\∀ PJ O9 Qm:Nat,(fun v8:V=>(fun (v10:Prop) (v9:V)=>((.own 3 ((ls.map ay)++v4) PJ O9 Qm:V)=.own 3 ((ls++[v1]).map ay) PJ O9 Qm)/\True/\Z gt 4/\((xo n b7 zs g o c se (ls++[v1]) PJ O9 Qm:V)=zx n b7 zs ix y (y.td) g o c se (ls++[v1]) PJ O9 Qm)/\True/\Z gt 1/\True/\(V.at gt 0 v9 [2,ix,3,2]=some (g,(o+ix*8+3+2),iN (y.gr.wa)))/\(IntKind.i64=IntKind.i64)/\n8 (b7+(max v2 1))/\True/\(V.at gt 0 v9 [2,ix,1]=some (g,(o+ix*8+1),iV (y.re)))/\(V.set v9 [2,ix,1] (iV (b7+(max v2 1)))=nC n b7 zs ix (y.na) (b7+(max v2 1)) (y.kn) y.gr (y.tr) (y.td) g o c se (ls++[v1]) PJ O9 Qm)/\Br (r4 ((af w a k).1) 3) (True/\v10/\n8 (k+1)/\(Jj (k+1)).sm/\(True)/\n8 ((b7+(max v2 1))+(bE (k+1)))/\True/\v10/\(V.set v8 [2,ix,1] (iV ((b7+(max v2 1))+(bE (k+1))))=nC n b7 zs ix (y.na) ((b7+(max v2 1))+(bE (k+1))) (y.kn) y.gr (y.tr) (y.td) g o c se (ls++[v1]) PJ O9 Qm)/\((nC n b7 zs ix (y.na) ((b7+(max v2 1))+(bE (k+1))) (y.kn) y.gr (y.tr) (y.td) g o c se (ls++[v1]) PJ O9 Qm:V)=xo n b7 (zs.set ix v6) g o c se (ls++[v1]) PJ O9 Qm)/\Q v3 v3/\Er gw v7/\Qr gt (bK n b7 (zs.set ix v6) g o c se (ls++[v1])) gt v5) (((nC n b7 zs ix (y.na) (b7+(max v2 1)) (y.kn) y.gr (y.tr) (y.td) g o c se (ls++[v1]) PJ O9 Qm:V)=xo n b7 (zs.set ix ({ y with re:=b7+(max v2 1) }:j9)) g o c se (ls++[v1]) PJ O9 Qm)/\Q v3 v3/\Er gw v7/\Qr gt (bK n b7 (zs.set ix ({ y with re:=b7+(max v2 1) }:j9)) g o c se (ls++[v1])) gt v5)) (V.at gt 0 v8 [2,ix,1]=some (g,(o+ix*8+1),iV (b7+(max v2 1)))) (zx n b7 zs ix y (y.td) g o c se (ls++[v1]) PJ O9 Qm)) (nC n b7 zs ix (y.na) (b7+(max v2 1)) (y.kn) y.gr (y.tr) (y.td) g o c se (ls++[v1]) PJ O9 Qm))) (.agg [.mp (w.map O5),kp 1000 gt]) (bK n b7 (zs.set ix (dv y b7 (af w a k).1 k)) g o c se (ls++[v1])) (.tup [iV ((af w a k).1),sV ((af w a k).2)]) ({ y with re:=(b7+(max v2 1))+(bE (k+1)) }:j9) ([cU b7 a ((af w a k).1)]:List V)) ((y.gr.wa:Nat):Int) (⟨b7,a,(af w a k).1⟩:n7)) ?_
 subst WA;intro gl I3 cl;refine bU ⟨⟨hk.1,hk.2⟩,bj ⟨aR Zal,fun PJ O9 Qm=>⟨Zbm (V.own 3 · PJ O9 Qm) Zad,trivial,rfl,Zec,ak (bL (bI (fun l4=>?_) fun l4=>?_))⟩⟩⟩;refine bU ⟨Zee,aR ⟨D3 (Zbm (V.own 8 · g o c) (ck (f:=ae) (x:=({ (zs.getD ix b9) with re:=(b7+(max (((zs.getD ix b9).gr.wa:Nat):Int) 1))+(bE (k+1)) }:j9)) Zac)),⟨?_,rfl,by rw[LK l4]⟩⟩⟩;rfl;refine⟨D3 (Zbm (V.own 8 · g o c) (ck (f:=ae) (x:=({ (zs.getD ix b9) with re:=b7+(max (((zs.getD ix b9).gr.wa:Nat):Int) 1) }:j9)) Zac)),⟨?_,rfl,by rw[sZ l4]⟩⟩;rfl)
section
variable {P:Program} {w w':World} {Pb Kb:Nat->Prop} {N:Nat} {A:AS} {a:Act} {F:r5->List Nat}
theorem set_set:∀ (p:List Nat) (v x y:V),(v.set p x).set p y=v.set p y
 | [],_,_,_=>rfl
 | j::p,v,x,y=>by
   cases v with
   | agg vs=>
     simp only[V.set];cases h:vs[j]? with
     | none=>simp only[h]
     | some u=>
       have hj:=(Za3.1 h).1;simp only[List.getElem?_set_self hj,List.set_set,set_set p u x y]
   | own sz xs g o c=>
     simp only[V.set];cases h:xs[j]? with
     | none=>simp only[h]
     | some u=>
       have hj:=(Za3.1 h).1;simp only[List.getElem?_set_self hj,List.set_set,set_set p u x y]
   | _=>rfl
theorem zY:∀ (p:List Nat) {v u x:V} {g o g' o':Nat},V.at g o v p=some (g',o',u)->V.at g o (v.set p x) p=some (g',o',x)
 | [],v,u,x,g,o,g',o',h=>by
   simp only[V.at,Zan,Zaq]at h ⊢;exact⟨h.1,h.2.1,rfl⟩
 | j::p,v,u,x,g,o,g',o',h=>by
   simp only[V.at]at h;split at h;rename_i vs;split at h;rename_i y hy;have hj:=(Za3.1 hy).1;simp only[V.set,hy,V.at,List.getElem?_set_self hj];rw[List.take_set_of_le (Zbc _)];exact zY p h;simp at h;rename_i sz xs g1 o1 c1;split at h;rename_i y hy;have hj:=(Za3.1 hy).1;simp only[V.set,hy,V.at,List.getElem?_set_self hj];exact zY p h;simp at h;simp at h
theorem rS:∀ (xs ys:List V) {cs:List Value},RL w Pb (xs++ys) cs []->RL w Pb xs (cs.take (V.ns xs)) []/\RL w Pb ys (cs.drop (V.ns xs)) []
 | [],ys,cs,h=>⟨⟨by simp[V.ns],rfl⟩,by simpa[V.ns] using h⟩
 | x::xs,ys,cs,h=>by
   obtain⟨c1,c2,F1,F2,rfl,hF,h1,h2⟩:=h;obtain⟨rfl,rfl⟩:=List.append_eq_nil_iff.1 hF.symm;obtain⟨k1,k2⟩:=rS xs ys h2;have hl:=ft x h1;have e:V.ns (x::xs)=c1.length+V.ns xs:=by simp only[V.ns];omega
   rw[e,List.take_length_add_append,List.drop_length_add_append];exact⟨⟨c1,_,[],[],rfl,rfl,h1,k1⟩,k2⟩
theorem J7.same{g o:Nat}{cs:List Value}{cells:Array Value}(hb:Blk w g cells)(h:∀ j u,cs[j]? =some u->cells[o+j]? =some u):J7 w w g o cs where
 os:=rfl
 tape:=rfl
 output:=rfl
 size:=rfl
 RU:=fun _ _=>rfl
 shape:=Shp.refl _
 SE:=fun x4 Qn=>by
  obtain⟨e,fr,h1,h2⟩:=hb;obtain⟨e',fr',Wo,h2'⟩:=Qn;rw[h1]at Wo;simp only[Zan,Obj.cells.injEq]at Wo;obtain⟨rfl,_,_⟩:=Wo;exact⟨cells,⟨e',fr',by rw[h1];simp_all,h2'⟩,rfl,fun _ _=>rfl,h⟩
theorem C3.Fq(hs:C3 N Pb Kb A a w F) {k g1 o1 sz g o c lo:Nat} {p:List Nat} {xs xs':List V} {new:List Value} (G5:A.at (.key k) p=some (g1,o1,.own sz xs g o c)) (hc:0<c) (Qp:V.aK xs=false)
 (hlo:lo+new.length<=xs.length*sz) (hlen:xs'.length=xs.length) (hN:aX sz xs') (h1:∀ v,v∈new->v.oneCell'=true)
 (S5:∀ flat,RL w Pb xs flat []->RL w Pb xs' (flat.take lo++new++flat.drop (lo+new.length)) []):
 ∃ w' F',(storeCells ⟨g,o+lo,none⟩ new 0).run P w=.ok () w'/\C3 N Pb Kb (A.setAt (.key k) p (.own sz xs' g o c)) a w' F'/\F7 Kb w w':=by
 obtain⟨Fr,Fu,Rj,⟨cs,cells,hb,QQ,B8⟩,hnd,C8,hfr⟩:=hs.split G5;rcases QQ with ⟨h0,_⟩ | ⟨Wo,hsz,hle,hcs,hN0,YZ,flat,F',Tb,Zs,hr,l6,Yw,V3⟩;omega;have hF0:=jD xs Qp hr;subst hF0;subst Zs;have hfl:flat.length=xs.length*sz:=by rw[mi _ hr,tw _ hN0]
 have WU:xs.length*sz<=c*sz:=Nat.mul_le_mul_right _ hle;obtain⟨w',G8,I2⟩:=kj (P:=P) (g:=g) (o:=o+lo) new 0 w Tb l6 Zac h1;rw[Nat.add_zero]at I2;have hg:=hfr g Zad;have QA:C3 N Pb Kb (A.setAt (.key k) p .c9) a w' (dr F (.key k) Fr):=Rj.RU (fun r=>C8 r g Zad) hg.1 I2.RU I2.size;have hkP:∀ x,Pb x->w'.heap[x]? =w.heap[x]? :=fun x hx=>I2.RU x (by rintro rfl;exact YZ hx);obtain⟨x4,Qn,hsize,Sb,VR⟩:=I2.SE Tb l6;have WM:=S5 flat hr;have hR:R w' Pb (.own sz xs' g o c) cs [g]:=by
  refine .inr ⟨Wo,hsz,Zac,by rw[hlen];exact hcs,hN,YZ,_,[],x4,rfl,gB xs' WM hkP Zad (fun _ h=>h) Zad,Qn,Zac,fun j u hu=>?_⟩;by_cases j1:j<lo;rw[List.append_assoc,Za9 Zal,List.getElem?_take_of_lt j1]at hu;rw[Sb _ (.inl Zac)];exact V3 j u hu;by_cases j2:j<lo+new.length;rw[List.append_assoc,Za4 Zal,Za9 Zal]at hu;have:=VR _ _ hu;have e:(flat.take lo).length=lo:=by rw[List.length_take];omega
  rw[e,show o+lo+(j-lo)=o+j from Zac]at this;exact this;have e:(flat.take lo++new).length=lo+new.length:=by rw[Zap,List.length_take];omega
  rw[Za4 Zac,e,List.getElem?_drop,show lo+new.length+(j-(lo+new.length))=j from Zac]at hu;rw[Sb _ (.inr Zac)];exact V3 j u hu
 have WV:(A.setAt (.key k) p .c9).at (.key k) p=some (g1,o1,.c9):=by
  simp only[AS.at]at G5;split at G5;rename_i g0 t hk;simp only[AS.setAt,hk,AS.at,lk,if_true];exact zY p G5;simp at G5
 have Wl:g1≠g:=by
  have hh:=WV;simp only[AS.at]at hh;split at hh;rename_i g0 t hk;obtain⟨Rz,e,hA⟩:=Rj.root k g0 t hk;have hin:g1∈dr F (.key k) Fr (.key k):=by
   rw[e];rcases lg p hA hh with ⟨h,_⟩ | h;rw[h];simp;simp[h]
  rintro rfl;exact C8 (.key k) g1 Zad hin;simp at hh
 have hst2:J7 w' w' g1 o1 cs:=by
  obtain⟨e,fr,hbb,hf⟩:=hb;exact J7.same (cells:=cells) ⟨e,fr,(I2.RU g1 Wl).trans hbb,hf⟩ B8
 obtain⟨F3,Ri,_⟩:=QA.store WV hR (by rfl) hnd (fun r x hx=>C8 r x hx) (fun x hx=>by rw[I2.size];exact hfr x hx) hst2;refine⟨w',F3,G8,Ri.eqv ⟨fun i=>?_,fun q=>?_⟩,⟨I2.os,I2.tape,I2.output,by rw[I2.size];omega,fun x hx=>I2.RU x (by rintro rfl;exact hg.1 hx),I2.shape⟩⟩;simp only[AS.at]at G5;split at G5;rename_i g0 t hk;simp only[AS.setAt,hk,lk,if_true];rfl;simp at G5;simp only[AS.at]at G5;split at G5;rename_i g0 t hk;simp only[AS.setAt,hk,lk,if_true,set_set];split <;> rfl;simp at G5
theorem LB{zc:Array Value}(h:0<zc.size)(n:Nat):(Builtin.zeroCells zc (n+1)).toList=zc.toList++(Builtin.zeroCells zc n).toList:=by
 apply List.ext_getElem;simp[Builtin.zeroCells,Nat.add_mul];omega;intro i h1 h2;by_cases hi:i<zc.size;rw[List.getElem_append_left Zbn];simp[Builtin.zeroCells,Nat.mod_eq_of_lt hi,hi];rw[List.getElem_append_right Zbn];simp only[Builtin.zeroCells,Array.getElem_toList,Array.getElem_map,Array.getElem_range,Array.length_toList];rw[Nat.mod_eq_sub_mod Zac]
theorem GD{v:V}{zc:Array Value}(h:0<zc.size)(hr:R w Pb v zc.toList []):∀ n,RL w Pb (List.replicate n v) (Builtin.zeroCells zc n).toList []
 | 0=>⟨by simp[Builtin.zeroCells],rfl⟩
 | n+1=>by
   rw[LB h,List.replicate_succ];exact⟨_,_,[],[],rfl,rfl,hr,GD h hr n⟩
theorem Iv{zc:Array Value}(n:Nat):(Builtin.zeroCells zc n).toList.length=n*zc.size:=by simp[Builtin.zeroCells]
theorem Om{v:V}{zc:Array Value}(h:0<zc.size)(hr:R w Pb v zc.toList [])(n:Nat):∀ x,x∈(Builtin.zeroCells zc n).toList->x.oneCell'=true:=vT _ (GD h hr n)
theorem zZ:∀ (xs:List V) (k:Nat),V.aK xs=false->V.aK (xs.take k)=false
 | xs,0,h=>by simp[V.aK]
 | [],k+1,h=>by simpa using h
 | v::vs,k+1,h=>by
   simp only[V.aK,Bool.or_eq_false_iff]at h;simp only[List.take_succ_cons,V.aK,Bool.or_eq_false_iff];exact⟨h.1,zZ vs k h.2⟩
def clC(k:Nat)(p:List Nat)(lo n sz:Nat)(xs:List V)(g q c g1 o1:Nat)(z:ZT P):Cu P where
 X:=Unit
 pre _ o A:=match o.op,o.dst with
  | .call ⟨.builtin .clear,⟨[x]⟩,⟨[T]⟩⟩,none=>match tD P T,A.ev x with
    | some (.sl e),.hd r p' Qw g' o' Rl n' _=>((e,r,p',Qw,g',o',Rl,n')=(z.T,r5.key k,p,sz,g,q,lo,n))/\A.at (.key k) p=some (g1,o1,.own sz xs g q c)/\lo+n<=xs.length/\V.aK xs=false/\aX sz xs/\z.v.n=sz
    | _,_=>False
  | _,_=>False
 post _ _ A:=A.setAt (.key k) p (.own sz (xs.take lo++List.replicate n z.v++xs.drop (lo+n)) g q c)
 ok:=by
  rintro N ⟨dst,op,ty,pos,after,I6⟩ A K-hp hK;replace hK:=hK ();simp only at hp;split at hp;rename_i x T;split at hp;rename_i e r p' Qw g' o' Rl n' c' e1 e2;obtain⟨h1,G5,hlo,Qp,hN,ZN⟩:=hp;simp only[Zaq]at h1;obtain⟨rfl,rfl,rfl,rfl,rfl,rfl,rfl,rfl⟩:=h1;intro Pb Kb a w F Q hs;obtain⟨_,hx⟩:=fv hs x;rw[e2]at hx;obtain⟨_,hle,B,hv,hB⟩:=hx;have hv:a.eval x=.slice B n' c':=(List.cons.inj hv).1;have hu:=lL e1;unfold Oper.wp;by_cases hn:n'=0;subst hn;have G8:(execOp a.eval ⟨none,.call ⟨.builtin .clear,⟨[x]⟩,⟨[T]⟩⟩,ty,pos,after,I6⟩).run P w=.ok (.value (.tuple #[])) w:=by
   cases B <;> simp[execOp,resolve,Deferred.ofValue,invoke,builtin,Builtin.clear_,hv,bz hu]
  rw[G8,Oper.upon_value];obtain⟨cu,Fu,q1,q2⟩:=hs.xx G5;have:=q2 _ rfl q1;have t2:C3 N Pb Kb (A.setAt (.key k) p' (.own Qw (xs.take Rl++List.replicate 0 z.v++xs.drop (Rl+0)) g' o' c)) a w F:=by simpa using this
  exact⟨_,Pb,Kb,F,hK,t2,fun _ h=>h,fun _ h=>h,fun _ h=>.inl h,F7.refl _ _⟩;obtain rfl:=hB Zac;obtain⟨inf,zv,z1,z2,z3⟩:=z.ok;have Zj:R w Pb z.v zv.cells.toList []:=wS z.v z3;have UW:zv.cells.size=z.v.n:=by have:=ft _ Zj;simpa using this
  obtain⟨Fr,Fu,_,⟨cs,cells,_,QQ,_⟩,_⟩:=hs.split G5;have hc:0<c/\0<z.v.n:=by
   rcases QQ with ⟨_,rfl,_⟩ | ⟨h,h2,_⟩;simp at hlo;omega;exact⟨h,by rw[ZN];exact h2⟩
  have b9:0<zv.cells.size:=by rw[UW];exact hc.2
  have VQ:n'*zv.cells.size=n'*Qw:=by rw[UW,ZN]
  have hbd:Rl*Qw+n'*Qw<=xs.length*Qw:=by rw[<- Nat.add_mul];exact Nat.mul_le_mul_right _ hlo
  obtain⟨w',F',G8,H4,hk⟩:=hs.Fq (P:=P) (lo:=Rl*Qw) (xs':=xs.take Rl++List.replicate n' z.v++xs.drop (Rl+n')) (new:=(Builtin.zeroCells zv.cells n').toList) G5 hc.1 Qp (by rw[Iv,VQ];exact hbd)
   Zal (fun v hv=>by
    rcases Zax.1 hv with h | h;rcases Zax.1 h with h | h;exact hN v (List.mem_of_mem_take h);rw[(List.mem_replicate.1 h).2,ZN];exact hN v (List.mem_of_mem_drop h)) (Om b9 Zj n') (fun flat hf=>by
    have k1:=(rS (xs.take Rl) (xs.drop Rl) (cs:=flat) Zef).1;have k2:=(rS (xs.take (Rl+n')) (xs.drop (Rl+n')) (cs:=flat) Zef).2;rw[fL xs Rl hN Zac]at k1;rw[fL xs _ hN hlo,Nat.add_mul]at k2;rw[Iv,VQ];exact mq _ _ (mq _ _ k1 (GD b9 Zj n')) k2)
  have TD:(execOp a.eval ⟨none,.call ⟨.builtin .clear,⟨[x]⟩,⟨[T]⟩⟩,ty,pos,after,I6⟩).run P w=.ok (.value (.tuple #[])) w':=by
   have hcl:(Builtin.clear_ #[T] ty #[a.eval x]).run P w=.ok (.tuple #[]) w':=by
    rw[hv];unfold Builtin.clear_;simp only[List.getElem?_toArray,List.getElem?_cons_zero,Za0,bz hu,Zas];obtain⟨m,rfl⟩:∃ m,n'=m+1:=⟨n'-1,Zac⟩;simp only[Za0,zeroValue,typeInfo,Zas];simp[z1,z2,G8]
   simp[execOp,resolve,Deferred.ofValue,invoke,builtin,hcl]
  rw[TD,Oper.upon_value];exact⟨_,Pb,Kb,F',hK,H4,fun _ h=>h,fun _ h=>h,fun _ h=>.inl h,hk⟩;exact hp.elim;exact hp.elim
def saC(k:Nat)(p:List Nat)(lo n sz:Nat)(xs:List V)(g q c g1 o1:Nat):Cu P where
 X:=Unit
 pre N o A:=match o.op,o.dst with
  | .call ⟨.builtin .append,⟨[s,x]⟩,⟨[T,T2]⟩⟩,some d=>match o.type==T&&Nat.blt d N,lW P T T2 with
    | true,some t=>match A.ev x with
      | .hd r p' Qw g' q' Rl n' c'=>((r,p',Qw,g',q',Rl,n')=(r5.key k,p,sz,g,q,lo,n))/\A.ev s=.hd (.key k) p sz g q 0 0 c/\A.at (.key k) p=some (g1,o1,.own sz xs g q c)/\sz=t.sz/\0<xs.length/\lo+n<=xs.length/\V.aK xs=false/\aX sz xs/\c'=c'
      | _=>False
    | _,_=>False
  | _,_=>False
 post _ o A:=(A.setAt (.key k) p (.own sz ((xs.drop lo).take n++xs.drop n) g q c)).put o.dst (.hd (.key k) p sz g q 0 n c)
 ok:=by
  rintro N ⟨dst,op,ty,pos,after,I6⟩ A K-hp hK;replace hK:=hK ();simp only at hp;split at hp;rename_i s x T T2 d;split at hp;rename_i t e1 e2;split at hp;rename_i r p' Qw g' q' Rl n' c' e3;obtain⟨h1,es,G5,hsz,h0,hlo,Qp,hN,_⟩:=hp;simp only[Zaq]at h1;obtain⟨rfl,rfl,rfl,rfl,rfl,rfl,rfl⟩:=h1;simp only[Zao,Zbl]at e1;obtain⟨e,e',q1,q2,q3,q4,q5,q6⟩:=iI e2;subst hsz;intro Pb Kb a w F Q hs;obtain⟨_,hx⟩:=fv hs s;rw[es]at hx;obtain⟨_,hle,B,hv,hB⟩:=hx;have hv:a.eval s=.slice B 0 c:=(List.cons.inj hv).1;have WH:Re A x=some (((t.sz=t.sz/\g'=g'/\q'=q')/\Rl+n'<=xs.length/\V.aK xs=false/\aX t.sz xs),(xs.drop Rl).take n'):=by
   unfold Re;rw[e3];show (match A.at (.key k) p' with | some (_,_,u)=>jc Rl n' t.sz g' q' u | none=>none)=_;rw[G5];rfl
  have V8:aX t.sz ((xs.drop Rl).take n'):=fun v hv=>hN v (List.mem_of_mem_drop (List.mem_of_mem_take hv));have YE:V.aK ((xs.drop Rl).take n')=false:=zZ _ _ (uy _ _ Qp);obtain⟨B2,c2,L8,SR,Q9,TM,hl2⟩:=qT (P:=P) hs WH ⟨⟨rfl,rfl,rfl⟩,hlo,Qp,hN⟩ V8 YE;have hyl:((xs.drop Rl).take n').length=n':=Zal;rw[hyl]at hl2 SR TM;obtain⟨Fr,Fu,_,⟨cs,cells,_,QQ,_⟩,_⟩:=hs.split G5;have hc:0<c/\xs.length<=c:=by
   rcases QQ with ⟨_,rfl,_⟩ | ⟨h,_,h2,_⟩;simp at h0;exact⟨h,h2⟩
  obtain rfl:=hB hc.1;have hbd:n'*t.sz<=xs.length*t.sz:=Nat.mul_le_mul_right _ Zac
  obtain⟨w',F',G8,H4,hk⟩:=hs.Fq (P:=P) (lo:=0) (xs':=(xs.drop Rl).take n'++xs.drop n') (new:=L8) G5 hc.1 Qp (by rw[hl2];omega)
   Zal (fun v hv=>by
    rcases Zax.1 hv with h | h;exact V8 v h;exact hN v (List.mem_of_mem_drop h)) (vT _ Q9) (fun flat hf=>by
    have k2:=(rS (xs.take n') (xs.drop n') (cs:=flat) Zef).2;rw[fL xs _ hN Zac]at k2;rw[hl2,List.take_zero,List.nil_append,Zaw];exact mq _ _ Q9 k2)
  have TD:(execOp a.eval ⟨some d,.call ⟨.builtin .append,⟨[s,x]⟩,⟨[T,T2]⟩⟩,ty,pos,after,I6⟩).run P w=.ok (.value (.slice (some ⟨g',q'+0*t.sz,none⟩) n' c)) w':=by
   have Va:(Builtin.append_ #[T,T2] ty #[a.eval s,a.eval x]).run P w=.ok (.slice (some ⟨g',q'+0*t.sz,none⟩) n' c) w':=by
    have TH:(Builtin.lenOf (a.eval x)).run P w=.ok n' w:=by rw[SR];rfl
    rw[hv];unfold Builtin.append_;simp only[List.getElem?_toArray,List.getElem?_cons_zero,List.getElem?_cons_succ,Za0,bz (lL q1),Zas];simp only[ey q3,Zas];simp only[bz (lL q2),Zas,Za1];rw[if_neg (show ¬ (false=true) by decide)];rw[Za0,TH];simp only[Zas];rw[if_pos Zac];simp only[Za0,Bool.not_false,if_true,TM w (fun _=>rfl),Zas];simp only[fF,Nat.zero_mul,Nat.add_zero]at G8 ⊢;rw[G8];simp
   have e:((⟨[s,x]⟩:Array Operand).map a.eval)= #[a.eval s,a.eval x]:=Zad;simp only[execOp,resolve,invoke,builtin,Za0,Za1,Zas,e,Va]
  obtain⟨F2,QA⟩:=H4.uc (d:=some d) (v:=.hd (.key k) p' t.sz g' q' 0 n' c) (x:=.slice (some ⟨g',q'+0*t.sz,none⟩) n' c) (cv e1.2) ⟨rfl,Zac,_,rfl,fun _=>rfl⟩;unfold Oper.wp;rw[TD,Oper.upon_value];exact⟨_,Pb,Kb,F2,hK,QA,fun _ h=>h,fun _ h=>h,fun _ h=>.inl h,hk⟩;exact hp.elim;exact hp.elim;exact hp.elim
def Za(k:Nat)(p:List Nat)(n sz:Nat)(xs:List V)(g q c g1 o1:Nat):Cu P where
 X:=Unit
 pre _ o A:=match o.op,o.dst with
  | .store T x y,none=>match ti P T,A.ev y with
    | some i,.hd r p' Qw g' q' Rl n' c'=>((r,p',Qw,g',q',Rl,n',c')=(r5.key k,p,sz,g,q,0,n,c))/\A.ev x=.ptr (.key k) p g1 o1/\A.at (.key k) p=some (g1,o1,.own sz xs g q c)/\i.sz=1/\n<=xs.length/\V.aK xs=false
    | _,_=>False
  | _,_=>False
 post _ _ A:=A.setAt (.key k) p (.own sz (xs.take n) g q c)
 ok:=by
  rintro N ⟨dst,op,ty,pos,after,I6⟩ A K-hp hK;replace hK:=hK ();simp only at hp;split at hp;rename_i T x y;split at hp;rename_i i r p' Qw g' q' Rl n' c' e1 e2;obtain⟨h1,ex,G5,hi,hn,Qp⟩:=hp;simp only[Zaq]at h1;obtain⟨rfl,rfl,rfl,rfl,rfl,rfl,rfl,rfl⟩:=h1;intro Pb Kb a w F Q hs;obtain⟨_,hx⟩:=fv hs y;rw[e2]at hx;obtain⟨_,hle,B,hv,hB⟩:=hx;have hv:a.eval y=.slice B n' c':=(List.cons.inj hv).1;obtain⟨_,XI⟩:=fv hs x;rw[ex]at XI;have hp:a.eval x=.pointer (some ⟨g1,o1,none⟩):=by have:=XI.2;simpa using this
  obtain⟨Fr,Fu,Rj,⟨cs,cells,hb,QQ,B8⟩,hnd,C8,hfr⟩:=hs.split G5;have hR:R w Pb (.own Qw (xs.take n') g' q' c') [a.eval y] Fu:=by
   rw[hv];rcases QQ with ⟨rfl,rfl,rfl,A0,_⟩ | ⟨Wo,hsz,hlx,hcs,hN0,YZ,flat,F',Tb,Zs,hr,l6,Yw,V3⟩;have:n'=0:=by simpa using hn
   subst this;exact .inl ⟨rfl,rfl,rfl,B,rfl⟩;have hF0:=jD xs Qp hr;subst hF0;obtain rfl:=hB Wo;have hl:(xs.take n').length=n':=by rw[List.length_take];omega
   refine .inr ⟨Wo,hsz,Zac,by rw[hl,Nat.zero_mul,Nat.add_zero],fun v hv=>hN0 v (List.mem_of_mem_take hv),YZ,flat.take (V.ns (xs.take n')),[],Tb,Zs,?_,l6,Yw,fun j u hu=>V3 j u ?_⟩;exact(rS (xs.take n') (xs.drop n') (cs:=flat) (by rw[List.take_append_drop];exact hr)).1;rw[List.getElem?_take]at hu;split at hu;exact hu;simp at hu
  have WV:(A.setAt (.key k) p' .c9).at (.key k) p'=some (g1,o1,.c9):=by
   simp only[AS.at]at G5;split at G5;rename_i g0 t hk;simp only[AS.setAt,hk,AS.at,lk,if_true];exact zY p' G5;simp at G5
  have hcs:cs.length=1:=ft _ QQ;obtain⟨w',G8,I2⟩:=kj (P:=P) (g:=g1) (o:=o1) [a.eval y] 0 w cells hb (by
   have:cs[0]? =some (cs[0]'Zac):=Zat Zac;have:=(Zbh.1 (B8 0 _ this)).1;simp only[Zar,Zau];omega) (fun v h=>by rw[Zav.1 h,hv];rfl)
  rw[Nat.add_zero]at I2;have TD:(execOp a.eval ⟨none,.store T x y,ty,pos,after,I6⟩).run P w=.ok .skip w':=by
   have R4:(a.eval y).cells= #[a.eval y]:=by rw[hv];rfl
   have hsz:(a.eval y).cells.size=i.sz:=by rw[R4,hi];rfl
   have Z0:(storeCells ⟨g1,o1,none⟩ (a.eval y).cells.toList 0).run P w=.ok () w':=by rw[R4];exact G8
   simp only[execOp,Instr.storeAt,hp,Instr.sureAddr,Za0,Za1,Zas,storeVar,ey e1,hsz,ne_eq,not_true_eq_false,if_false,Z0]
  obtain⟨F2,QA,hg⟩:=Rj.store WV hR (by rfl) hnd C8 hfr I2;have Ri:C3 N Pb Kb (A.setAt (.key k) p' (.own Qw (xs.take n') g' q' c')) a w' F2:=by
   simp only[AS.at]at G5;split at G5;rename_i g0 t hk;refine QA.eqv ⟨fun i=>?_,fun q=>?_⟩;simp only[AS.setAt,hk,lk,if_true];rfl;simp only[AS.setAt,hk,lk,if_true,set_set];split <;> rfl;simp at G5
  unfold Oper.wp;rw[TD,Oper.upon_skip];exact⟨_,Pb,Kb,F2,hK,Ri,fun _ h=>h,fun _ h=>h,fun _ h=>.inl h,⟨I2.os,I2.tape,I2.output,by rw[I2.size];omega,fun x hx=>I2.RU x (fun c=>hg (c ▸ hx)),I2.shape⟩⟩;exact hp.elim;exact hp.elim
end
theorem Mu{xs ys:List V}{j sz g o c:Nat}{x x' v:V}{p:List Nat}(h:xs[j]? =some x)(hx:V.set x p v=x')(e:xs.set j x'=ys):V.set (.own sz xs g o c) (j::p) v=.own sz ys g o c:=by simp only[V.set,h,hx,e]
section
variable {P:Program}
def sdC(n:Nat)(l h m:Int):Cu P where
 X:=Unit
 pre N o A:=match o.op,o.dst with
  | .slice T x (some lo) (some hi) (some mx),some d=>match tD P T,Nat.blt d N with
    | some (.sl e),true=>match ti P e,A.ev x with
      | some _,.hd _ _ _ _ _ _ n' _=>A.ev lo=.lit (.int .i64 l)/\A.ev hi=.lit (.int .i64 h)/\A.ev mx=.lit (.int .i64 m)/\n'=n/\0<=l/\l<=h/\h<=m/\m<=n
      | _,_=>False
    | _,_=>False
  | _,_=>False
 post _ o A:=A.put o.dst .c9
 ok:=by
  rintro N ⟨dst,op,ty,pos,after,I6⟩ A K-hp hK;replace hK:=hK ();simp only at hp hK;split at hp;rename_i T x lo hi mx d;split at hp;rename_i e e1 e2;split at hp;rename_i t r p sz g q Rl n' c e3 e4;obtain⟨h1,h2,h3,rfl,k1,k2,k3,k4⟩:=hp;refine iu (v:=.c9) rfl (cv e2) hK fun Pb Kb a w F hs=>?_;obtain⟨_,hx⟩:=fv hs x;rw[e4]at hx;obtain⟨_,hle,B,hv,hB⟩:=hx;have hv:a.eval x=.slice B n' c:=(List.cons.inj hv).1;have b1:=dj hs h1;have b2:=dj hs h2;have b3:=dj hs h3;refine⟨.slice (if m.toNat=l.toNat then B else B.map (·.add (l.toNat*t.sz))) (h.toNat-l.toNat) (m.toNat-l.toNat),?_,rfl⟩;have q1:(Instr.sliceBounds true n' c (some (.int .i64 l)) (some (.int .i64 h)) (some (.int .i64 m))).run P w=.ok (l.toNat,h.toNat,m.toNat) w:=by
   simp only[Instr.sliceBounds,Instr.sliceBound,asIntOf,Za0,Za1,Zas];rw[if_pos Zac];simp only[Za1,Zas];rw[if_pos Zac];simp only[Za1,Zas];rw[if_pos Zac];simp only[Za1,Zas]
  simp only[execOp,Option.map_some,Instr.sliceAt,Instr.slice,Za0,bz (lL e1),Zas,hv,b1,b2,b3,q1,ey e3,Za1];exact hp.elim;exact hp.elim;exact hp.elim
def sbC(k:Nat)(p:List Nat)(sz:Nat)(xs:List V)(g q c n g1 o1 l h:Nat):Cu P where
 X:=Unit
 pre N o A:=match o.op,o.dst with
  | .slice T x (some lo) (some hi) none,some d=>match tD P T,Nat.blt d N with
    | some (.sl e),true=>match ti P e with
      | some t=>A.ev x=.hd (.key k) p sz g q 0 n c/\A.at (.key k) p=some (g1,o1,.own sz xs g q c)/\A.ev lo=.lit (.int .i64 (l:Int))/\A.ev hi=.lit (.int .i64 (h:Int))/\sz=t.sz/\l<=h/\h<=xs.length
      | none=>False
    | _,_=>False
  | _,_=>False
 post _ o A:=A.put o.dst (.hd (.key k) p sz g q l (h-l) (c-l))
 ok:=by
  rintro N ⟨dst,op,ty,pos,after,I6⟩ A K-hp hK;replace hK:=hK ();simp only at hp hK;split at hp;rename_i T x lo hi d;split at hp;rename_i e e1 e2;split at hp;rename_i t e3;obtain⟨ex,G5,h1,h2,hsz,k1,k2⟩:=hp;subst hsz;refine iu (v:=.hd (.key k) p t.sz g q l (h-l) (c-l)) rfl (cv e2) hK fun Pb Kb a w F hs=>?_;obtain⟨_,hx⟩:=fv hs x;rw[ex]at hx;obtain⟨_,hle,B,hv,hB⟩:=hx;have hv:a.eval x=.slice B n c:=(List.cons.inj hv).1;have b1:=dj hs h1;have b2:=dj hs h2;obtain⟨_,cs,cells,_,QQ,_⟩:=ld hs G5;have hc:xs.length<=c:=by
   rcases QQ with ⟨_,rfl,_⟩ | ⟨_,_,h,_⟩;simp;exact h
  refine⟨.slice (if c=l then B else B.map (·.add (l*t.sz))) (h-l) (c-l),?_,rfl,Zac,_,rfl,fun h0=>?_⟩;have q1:(Instr.sliceBounds true n c (some (.int .i64 (l:Int))) (some (.int .i64 (h:Int))) none).run P w=.ok (l,h,c) w:=by
   simp only[Instr.sliceBounds,Instr.sliceBound,asIntOf,Za0,Za1,Zas];rw[if_pos Zac];simp only[Za1,Zas];rw[if_pos Zac];simp only[Za1,Zas,Int.toNat_natCast]
  simp only[execOp,Option.map_some,Option.map_none,Instr.sliceAt,Instr.slice,Za0,bz (lL e1),Zas,hv,b1,b2,q1,ey e3,Za1];rw[if_neg Zac,hB Zac];simp[fF];exact hp.elim;exact hp.elim;exact hp.elim
def mfE:Eu P where
 X:=Unit
 pre N o A Sl _:=match o.op,o.dst with
  | .makeFunc fn first H6,some d=>match Nat.blt d N&&Sl.contains d,mE (first.toList.map A.ev),mE (H6.toList.map A.ev) with
    | true,some l1,some l2=>(Value.func fn l1.toArray l2.toArray).oneCell'=true
    | _,_,_=>False
  | _,_=>False
 U o A _ B:=match o.op,o.dst with
   | .makeFunc fn first H6,some d=>match mE (first.toList.map A.ev),mE (H6.toList.map A.ev) with
     | some l1,some l2=>B.put (some d) (.lit (.func fn l1.toArray l2.toArray))
     | _,_=>B
   | _,_=>B
 Wh:=by
  rintro N ⟨dst,op,ty,pos,after,I6⟩ A Sl Hl hp fs;simp only at hp;split at hp;rename_i fn first H6 d
  split at hp;rename_i l1 l2 e1 e2 e3;simp only[Zao,Zbi,Zbk]at e1;simp only[e2,e3];exact qJ (v:=fun _:Unit=>.lit (.func fn l1.toArray l2.toArray)) e1.2 fs;exact hp.elim;exact hp.elim
 ok:=by
  rintro N ⟨dst,op,ty,pos,after,I6⟩ A A' Sl Hl hg hp hA hR;simp only at hp;split at hp;rename_i fn first H6 d
  split at hp;rename_i l1 l2 e1 e2 e3;simp only[Zao]at e1;have q1:first.toList.map A'.ev=first.toList.map A.ev:=List.map_congr_left fun x hx=>cw fun t ht=>hA t (by subst ht;simp[Op.operands];left;simpa using hx)
  have q2:H6.toList.map A'.ev=H6.toList.map A.ev:=List.map_congr_left fun x hx=>cw fun t ht=>hA t (by subst ht;simp[Op.operands];right;simpa using hx);refine(Vq (P:=P)).ok hg ?_ fun _=>⟨(),?_⟩;simp only[Vq,q1,q2,e1.1,e2,e3];exact hp;simp only[Vq,q1,q2,e2,e3];exact hp.elim;exact hp.elim
end
theorem Me(s:BL):fU s 20<=20:=by
 have key:∀ (l:BL) (n:Int),n<=20->l.foldl (kh 20) n<=20:=fun l=>by
  induction l with
  | nil=>exact fun n h=>h
  | cons c l ih=>exact fun n _=>ih _ (by unfold kh;omega)
 unfold fU;split;exact key s 0 Zac;omega
def qV(gs:List m8):Prop:= ∀ y,y∈gs->y.wa<=20
theorem qV.set{gs:List m8}{f:m8->m8}(h:qV gs)(hf:∀ z,gs.getLast? =some z->(f z).wa<=20):qV (dX gs f):=by
 by_cases hn:gs=[];subst hn;simp[dX,qV];obtain⟨⟨l,z⟩,rfl⟩:=kc hn;rw[ej];intro y hy;rcases Zax.1 hy with hy | hy;exact h y (by simp[hy]);rw[Zav.1 hy];exact hf z Zad
theorem Mf{gs:List m8}{w d:BL}{b:Bool}(h:qV gs):qV (dI gs w d b).1:=by
 have hl:∀ z,gs.getLast? =some z->z.wa<=20:=fun z hz=>h z (List.mem_of_getLast? hz);unfold dI;split;split;intro y hy;rcases Zax.1 hy with hy | hy;exact h y hy;rw[Zav.1 hy];simp;exact h.set fun z hz=>hl z hz;split;exact h;split;exact h.set fun z hz=>hl z hz;split;exact h.set fun z hz=>by have:=Me d;simp only;omega
 exact h
theorem Jc(t:BL):qV (ct t):=by
 have:∀ (l:List BL) (x:List m8×Bool),qV x.1->qV (l.foldl di x).1:=by
  intro l;induction l with
  | nil=>exact fun x h=>h
  | cons a l ih=>exact fun x h=>ih _ (Mf h)
 exact this _ _ (by intro y hy;simp at hy)
theorem KT(n:BL):∀ (gs:List m8) {x:(List u0×Nat)×Bool},x.1.2<=20->qV gs->(gs.foldl (de n) x).1.2<=20
 | [],x,h,_=>h
 | g::gs,x,h,h2=>by
   refine KT n gs ?_ (fun y hy=>h2 y (by simp[hy]));unfold de;split;have:=h2 g Zad;simp only;omega;exact h
theorem Gf{gs:List m8}(n:BL)(h:qV gs):(eP gs n).wa<=20:=by
 have key:∀ q,(Rf gs q).1.wa<=20:=fun q=>KT q gs Zad h;unfold eP;split <;> exact key _
theorem lz(k:Int)(t n:BL):(bR k t n).wa<=20:=by
 unfold bR;split;exact Gf n (Jc t);split;simp;exact Gf n (fun y hy=>Zb6)
def PK(ru:List u0)(x:r3):Bool:=aq x.ad&&bA ru (pathOf x.ad)
def Se(y:j9)(s:BL):Bool:=aq s&&bA y.gr.ru (pathOf s)
def R9(y:j9)(x:r3):Bool:=Se y x.ad
def QI(y:j9)(l:List r3):Int:=if (l.findIdx fun x=>!(Se y x.ad))<l.length then ((l.findIdx fun x=>!(Se y x.ad):Nat):Int) else -1
def iJ(w:List Pg)(n d:BL):m8:=⟨[n],(bR (af w (aw d) 2).1 (af w (aw d) 2).2 n).ru,(bR (af w (aw d) 2).1 (af w (aw d) 2).2 n).wa⟩
def w3(w:List Pg)(y:j9)(b7:Int):j9:=dv y b7 (af w (aw y.na) y.tr).1 y.tr
def PT(w:List Pg)(n:BL)(y:j9)(b7:Int):j9:=
 if (af w (aw y.na) y.tr).1=3/\y.tr+1<3 then { w3 w y b7 with tr:=y.tr+1 }
 else { w3 w y b7 with kn:=true,gr:=iJ w n y.na,re:=max (w3 w y b7).re (b7+((iJ w n y.na).wa:Int)),td:=y.td.filter (PK (iJ w n y.na).ru) }
def w9(w:List Pg)(y:j9)(b7:Int):j9:=dv { y with td:=y.td.drop 1 } b7 (af w (y.td.getD 0 j6).ad (y.td.getD 0 j6).tr).1 (y.td.getD 0 j6).tr
def Vo(w:List Pg)(t:l3)(i:Nat):l3:=
 { t with hs:=t.hs.set i (PT w t.na (t.hs.getD i b9) t.b7),lk:=t.lk++[⟨t.b7,aw (t.hs.getD i b9).na,(af w (aw (t.hs.getD i b9).na) (t.hs.getD i b9).tr).1⟩] }
def J3(w:List Pg)(t:l3)(i:Nat):l3:=
 let y:=t.hs.getD i b9
 let it:=y.td.getD 0 j6
 let g:=af w it.ad it.tr
 let t1:l3:={ t with hs:=t.hs.set i (w9 w y t.b7),lk:=t.lk++[⟨t.b7,it.ad,g.1⟩] }
 if g.1=3/\it.tr+1<3 then { t1 with hs:=t.hs.set i { w9 w y t.b7 with td:=y.td.drop 1++[⟨it.ad,it.tr+1⟩] } }
 else if aq it.ad=true then (mY it.ad g.1 g.2).foldl av t1 else t1
theorem eH(l:List BL):∀ t:l3,(l.foldl av t).na=t.na/\(l.foldl av t).b7=t.b7/\(l.foldl av t).lk=t.lk:=by
 induction l with
 | nil=>exact fun t=>⟨rfl,rfl,rfl⟩
 | cons a l ih=>exact fun t=>ih (av t a)
structure HS (m:Nat) (y:j9):Prop where
 n:y.na.length<=1000
 r:y.gr.ru.length<=1000
 rp:∀ i,(y.gr.ru.getD i ⟨false,[]⟩).path.length<=1000
 w:y.gr.wa<=1000
 t:y.td.length+60<=1000+m
 ta:∀ x,x∈y.td->x.ad.length<=1000/\w7 x.ad/\0<=x.tr/\x.tr<=1000
 k:0<=y.tr/\y.tr<=1000
theorem HS.mono{m k:Nat}{y:j9}(h:HS m y)(hm:m<=k):HS k y:=⟨h.n,h.r,h.rp,h.w,by have:=h.t;omega,h.ta,h.k⟩
structure TS (t:l3):Prop where
 s:t.se.length<=60
 h:t.hs.length+60<=1000+t.se.length
 sa:∀ x,x∈t.se->x.length<=1000/\w7 x
 ha:∀ y,y∈t.hs->HS t.se.length y
theorem LW{t:l3}{s:BL}(h:TS t)(hn:t.na.length<=1000)(hs:s.length<=1000)(hc:w7 s)(hd:(aB s).length<=1000):TS (av t s):=by
 have e1:(av t s).se=ax t.se s:=rfl;have e2:(av t s).hs=bf t.na t.hs t.se s:=rfl;by_cases hr:dA t.se s;have e3:ax t.se s=t.se++[s]:=if_pos hr;have e4:bf t.na t.hs t.se s=(bw t.hs (aB s) t.na).set (D' t.hs (aB s)) (dh ((bw t.hs (aB s) t.na).getD (D' t.hs (aB s)) b9) s):=if_pos hr;have hl:(bw t.hs (aB s) t.na).length<=t.hs.length+1:=zq _ _ _;have hin:∀ y,y∈bw t.hs (aB s) t.na->HS t.se.length y:=fun y hy=>by
  unfold bw at hy;split at hy;exact h.ha y hy;rcases Zax.1 hy with hy | hy;exact h.ha y hy;rw[Zav.1 hy];exact⟨hd,by simp[cW],by simp[cW],by simp[cW],by show 0+60<=1000+t.se.length;omega,by simp[cW],by simp[cW]⟩
 have h2:=hr.2.1;refine⟨by rw[e1,e3];simp;omega,?_,fun x hx=>?_,fun y hy=>?_⟩;rw[e1,e2,e3,e4,List.length_set];have:=h.h;simp;omega;rw[e1,e3]at hx;rcases Zax.1 hx with hx | hx;exact h.sa x hx;rw[Zav.1 hx];exact⟨hs,hc⟩;rw[e1,e3];rw[e2,e4]at hy;have hm:(t.se++[s]).length=t.se.length+1:=Zad;rw[hm];rcases df hy with e | hy;have hm:(bw t.hs (aB s) t.na).getD (D' t.hs (aB s)) b9∈bw t.hs (aB s) t.na:=by
  rw[Zam,Zat (fM ..)];exact List.getElem_mem _
 have Tv:=hin _ hm;rw[e];unfold dh;split;exact Tv.mono Zac;refine⟨Tv.n,Tv.r,Tv.rp,Tv.w,?_,fun x hx=>?_,Tv.k⟩;show (_++[_]).length+60<=_;have:=Tv.t;rw[Zap,Zbf];omega;rcases Zax.1 hx with hx | hx;exact Tv.ta x hx;rw[Zav.1 hx];exact⟨hs,hc,Zad,Zad⟩;exact(hin y hy).mono Zac;have e3:ax t.se s=t.se:=if_neg hr;have e4:bf t.na t.hs t.se s=t.hs:=if_neg hr;exact⟨by rw[e1,e3];exact h.s,by rw[e1,e2,e3,e4];exact h.h,by rw[e1,e3];exact h.sa,by rw[e1,e2,e3,e4];exact h.ha⟩
theorem nD:∀ (l:List BL) {t:l3},TS t->t.na.length<=1000->(∀ s,s∈l->s.length<=1000/\w7 s/\(aB s).length<=1000)->TS (l.foldl av t)
 | [],t,h,_,_=>h
 | a::l,t,h,hn,hl=>by
   have:=hl a Zad;exact nD l (LW h hn this.1 this.2.1 this.2.2) hn (fun s hs=>hl s (by simp[hs]))
def mO(y:j9)(l:List r3):List r3:=l.filter (R9 y)++List.replicate (l.length-(l.filter (R9 y)).length) j6
theorem MG{y:j9}{s:BL}:(!((bM s).isSome)||!(bA y.gr.ru (if bu (oA (bM s))=true then cO (oA (bM s)) else [])))=!(Se y s):=by
 unfold Se;rw[kM];by_cases h:aq s=true;have e:bM s=aT s:=if_pos h;have hs:(aT s).isSome=true:=by have:=h;unfold aq at this;rw[Zao]at this;exact this.1
 rw[h,e,if_pos (rX hs)];rfl;rw[Bool.not_eq_true]at h;rw[h];rfl
section
variable {y:j9} {l u:List r3} {i w:Nat}
theorem Hc{p:r3->Bool}(hi:i<l.length)(e:p (l.getD i j6)=true)(h:∀ j,j<i->p (l.getD j j6)=false):l.findIdx p=i:=by
 rw[List.findIdx_eq hi];simp only[Zam,Zat hi]at e;refine⟨Zb3,fun j hj=>?_⟩;have:=h j hj;simp only[Zam,Zat (show j<l.length by omega)]at this;simpa using this
theorem MV(hi:i<l.length)(e:Se y (l.getD i j6).ad=false)(h:∀ j,j<i->Se y (l.getD j j6).ad=true):QI y l=i:=by
 unfold QI;rw[Hc (p:=fun x=>!(Se y x.ad)) hi (by simp only[e];rfl) (fun j hj=>by simp only[h j hj];rfl),if_pos hi]
theorem Mb{p:r3->Bool}(h:∀ j,j<l.length->p (l.getD j j6)=false):l.findIdx p=l.length:=by
 rw[List.findIdx_eq_length];intro x hx;obtain⟨j,hj,rfl⟩:=Zbg.1 hx;have:=h j hj;simp only[Zam,Zat hj]at this;simpa using this
theorem Nk(h:∀ j,j<l.length->Se y (l.getD j j6).ad=true):QI y l= -1:=by
 unfold QI;rw[Mb (p:=fun x=>!(Se y x.ad)) (fun j hj=>by simp only[h j hj];rfl),if_neg Zac]
theorem CI(y:j9)(l:List r3): -1<=QI y l/\QI y l<=l.length/\(QI y l≠ -1->0<=QI y l/\QI y l<l.length):=by
 unfold QI;split <;> omega
theorem wF(h:u.drop i=l.drop i):u.getD i j6=l.getD i j6:=by
 have:=Zbm (fun r=>r[0]?) h;simp only[List.getElem?_drop,Nat.add_zero]at this;rw[Zam,Zam,this]
theorem HY(h:QI y l= -1):l.filter (R9 y)=l:=by
 unfold QI at h;split at h;omega;rename_i hn;have he:(l.findIdx fun x=>!(Se y x.ad))=l.length:=by
  have:(l.findIdx fun x=>!(Se y x.ad))<=l.length:=List.findIdx_le_length;omega
 rw[List.findIdx_eq_length]at he;rw[List.filter_eq_self];intro x hx;simpa[R9] using he x hx
theorem Ps(h: ¬ QI y l= -1):(QI y l).toNat<(QI y l).toNat+1/\(QI y l).toNat+1<=l.length/\l.length=l.length/\l.take (QI y l).toNat=(l.take ((QI y l).toNat+1)).filter (R9 y)/\l.drop ((QI y l).toNat+1)=l.drop ((QI y l).toNat+1):=by
 obtain⟨b1,b2⟩:=(CI y l).2.2 h;have hk:(QI y l).toNat=l.findIdx fun x=>!(Se y x.ad):=by
  unfold QI at b1 b2 ⊢;split;exact Int.toNat_natCast _;rename_i hn;rw[if_neg hn]at b1;omega
 have hlt:(QI y l).toNat<l.length:=Zac;refine aR ⟨?_,rfl⟩;rw[List.take_succ_eq_append_getElem hlt,List.filter_append];have e1:(l.take (QI y l).toNat).filter (R9 y)=l.take (QI y l).toNat:=by
  rw[List.filter_eq_self];intro x hx;obtain⟨j,hj,rfl⟩:=Zbg.1 hx;rw[List.length_take]at hj;rw[List.getElem_take];have:=List.not_of_lt_findIdx (p:=fun x=>!(Se y x.ad)) (xs:=l) (i:=j) Zac;simpa[R9] using this
 have e2:R9 y l[(QI y l).toNat]=false:=by
  have:=List.findIdx_getElem (p:=fun x=>!(Se y x.ad)) (xs:=l) (w:=by rw[<- hk];exact hlt);simp only[<- hk]at this;simpa[R9] using this
 rw[e1];simp[e2]
theorem ND(hi:i<l.length)(h1:w<i)(h3:u.length=l.length)(h4:u.take w=(l.take i).filter (R9 y))(h5:u.drop i=l.drop i)(hk:Se y (u.getD i j6).ad=true):
 w+1<i+1/\i+1<=l.length/\(u.set w (⟨(u.getD i j6).ad,(u.getD i j6).tr⟩:r3)).length=l.length/\(u.set w (⟨(u.getD i j6).ad,(u.getD i j6).tr⟩:r3)).take (w+1)=(l.take (i+1)).filter (R9 y)/\
  (u.set w (⟨(u.getD i j6).ad,(u.getD i j6).tr⟩:r3)).drop (i+1)=l.drop (i+1):=by
 have e:=wF h5;have hw:w<u.length:=Zac;refine aW ⟨by simpa using h3,?_,?_⟩;rw[List.take_succ_eq_append_getElem (by simpa using hw),List.getElem_set_self,List.take_set_of_le (Zbc _),h4,List.take_succ_eq_append_getElem hi,List.filter_append];have e2:(⟨(u.getD i j6).ad,(u.getD i j6).tr⟩:r3)=l[i]:=by
  show u.getD i j6=l[i];rw[e,Zam,Zat hi];rfl
 have e3:R9 y l[i]=true:=by rw[<- e2];exact hk
 rw[e2];simp[e3];rw[List.drop_set_of_lt Zac];have:=Zbm (List.drop 1) h5;simpa[List.drop_drop] using this
theorem MO(hi:i<l.length)(h1:w<i)(h3:u.length=l.length)(h4:u.take w=(l.take i).filter (R9 y))(h5:u.drop i=l.drop i)(hk:Se y (u.getD i j6).ad=false):
 w<i+1/\i+1<=l.length/\u.length=l.length/\u.take w=(l.take (i+1)).filter (R9 y)/\u.drop (i+1)=l.drop (i+1):=by
 refine aW ⟨h3,?_,?_⟩;rw[h4,List.take_succ_eq_append_getElem hi,List.filter_append];have e3:R9 y l[i]=false:=by
  have:=wF h5;rw[Zam (l:=l),Zat hi]at this;show Se y l[i].ad=false;rw[<- hk,this];rfl
 simp[e3];have:=Zbm (List.drop 1) h5;simpa[List.drop_drop] using this
theorem On(hi:l.length<=i)(h1:w<i)(h2:i<=l.length)(h3:u.length=l.length)(h4:u.take w=(l.take i).filter (R9 y)):w=(l.filter (R9 y)).length:=by
 have:=Zbm List.length h4;rw[List.length_take,Zaz hi]at this;omega
theorem Oa(h:QI y l= -1):mO y l=l:=by unfold mO;rw[HY h];simp
theorem NI(hi:l.length<=i)(h1:w<i)(h2:i<=l.length)(h3:u.length=l.length)(h4:u.take w=(l.take i).filter (R9 y)):mO y l=u.take w++List.replicate (l.length-w) j6:=by
 unfold mO;rw[<- On hi h1 h2 h3 h4,h4,Zaz hi]
theorem MI(h3:u.length=l.length):(u.map ai).take w++List.replicate (l.length-w) (.agg [sV [],iN 0]:V)++(u.map ai).drop (w+(l.length-w))=(u.take w++List.replicate (l.length-w) j6).map ai:=by
 rw[Za8 Zal,List.append_nil,Zbb,List.map_take,List.map_replicate];rfl
theorem Pa:((l.map ai).drop 1).take (l.length-1)++(l.map ai).drop (l.length-1)=(l.drop 1++l.drop (l.length-1)).map ai:=by
 rw[Zbb,List.map_drop,List.map_drop,Zaz Zad]
theorem Nb(h:0<l.length):((l.drop 1++l.drop (l.length-1)).map ai).take (l.length-1)++List.replicate 1 (.agg [sV [],iN 0]:V)++((l.drop 1++l.drop (l.length-1)).map ai).drop (l.length-1+1)=(l.drop 1++[j6]).map ai:=by
 rw[show ((l.drop 1++l.drop (l.length-1)).map ai).drop (l.length-1+1)=[] from Za8 Zal,List.append_nil,<- List.map_take,List.take_append_of_le_length Zad,Zaz Zad,Zbb];rfl
end
def xB(n:BL)(b7:Int)(zs:List j9)(se:List BL)(ls:List n7)(gt g o c ix:Nat)(y:j9)(ga oa ca:Nat)(l:List r3)(gb:Nat)(s:BL)(v:Int):aG:=.mk 129 [bG s v,kp 1002 gb] [(1002,(gb,.ptr (.key 1000) [2,ix] g (o+ix*8))),(1000,(gt,bC n b7 zs ix y l ga oa ca g o c se ls))] ((ix<zs.length)/\(s.length<=1000)/\(w7 s)/\(y.gr.ru.length<=1000)/\(∀ i,(y.gr.ru.getD i ⟨false,[]⟩).path.length<=1000)) (bV (!(Se y s))) [(1002,(gb,.ptr (.key 1000) [2,ix] g (o+ix*8))),(1000,(gt,bC n b7 zs ix y l ga oa ca g o c se ls))] (by
 rintro⟨hi,hs,hc,hr,Su⟩
 refine aA Tryz.func129
  (.bx (fun g2=>.q 1<|.r 2 [.c9]<|.c (fm s) []<|.q 3<|.al dC (fun g4=>.st none<|.q 1<|.A3 13 [(3,l9 [1002] [15]),(7,l9 [1000] [19]),(8,l9 [4] [20])]<|.l7 3<|.m7<|.l7 3<|.r 1 [cR y.gr.ru]<|.m7<|.cg (qn (oA (bM s)))<|.cg (pR y.gr.ru (if bu (oA (bM s))=true then cO (oA (bM s)) else []))<|.l7 3<|.nil)))
  ((fun v1:Bool=>(∀ g2:Nat,Z g2 0/\(fm s).sm/\((s.length<=1000000)/\(w7 s))/\∀ g4:Nat,Z g4 0/\Gd v1 (Z gb 0)/\Gd v1 (v1=true)/\Gd v1 True/\Gd v1 (v1=true)/\Gd v1 (v1=true)/\Gd v1 (v1=true)/\Gd v1 (V.at gt 0 (bC n b7 zs ix y l ga oa ca g o c se ls) [2,ix,3,1]=some (g,(o+ix*8+3+1),cR y.gr.ru))/\Gd v1 (Z g4 0)/\Gd v1 (v1=true)/\Gd v1 (((dQ (oA (bM s))))/\(qn (oA (bM s))).sm)/\Gd v1 (v1=true)/\Gd v1 (v1=true)/\Gd v1 (((y.gr.ru.length<=1000000)/\(∀ i,(y.gr.ru.getD i ⟨false,[]⟩).path.length<=1000000)/\((if bu (oA (bM s))=true then cO (oA (bM s)) else []).length<=1000000))/\(pR y.gr.ru (if bu (oA (bM s))=true then cO (oA (bM s)) else [])).sm)/\Gd v1 (v1=true)/\Pk (!((bM s).isSome)) true v1/\Q (bV ((!((bM s).isSome))||(!(bA y.gr.ru (if bu (oA (bM s))=true then cO (oA (bM s)) else []))))) (bV (!(Se y s)))/\Er gb (.ptr (.key 1000) [2,ix] g (o+ix*8))/\Er gt (bC n b7 zs ix y l ga oa ca g o c se ls))) ((!((bM s).isSome))==false)) ?_
 intro g2;refine⟨rfl,rfl,ak (hc),fun g4=>eB ⟨fun hG=>(aN (f:=2) rfl).trans (aO (cJ Zac) rfl),aW ⟨fun hG=>⟨by(try simp only[nb]at hG);exact we _,rfl⟩,aW ⟨fun hG=>⟨⟨Zcr,fun i=>by have:=Su i;omega,by(try simp only[nb]at hG);have:=(we s).path;split <;> simp <;> omega⟩,rfl⟩,aW ⟨?_,aD⟩⟩⟩⟩⟩;rw[MG])
def IK(n:BL)(b7:Int)(zs:List j9)(se:List BL)(ls:List n7)(gt g o c ix:Nat)(y:j9)(ga oa ca:Nat)(l:List r3)(gb:Nat):aG:=.mk 170 [.hd (.key 1000) [2,ix,5] 2 ga oa 0 ((l.map ai).length) ca,.lit (.func (.func 129) #[] #[.pointer (some ⟨gb,0,none⟩)])] [(1002,(gb,.ptr (.key 1000) [2,ix] g (o+ix*8))),(1000,(gt,bC n b7 zs ix y l ga oa ca g o c se ls))] ((ix<zs.length)/\(l.length<=1000)/\(∀ x,x∈l->x.ad.length<=1000/\w7 x.ad)/\(y.gr.ru.length<=1000)/\(∀ i,(y.gr.ru.getD i ⟨false,[]⟩).path.length<=1000)) (iV (QI y l)) [(1002,(gb,.ptr (.key 1000) [2,ix] g (o+ix*8))),(1000,(gt,bC n b7 zs ix y l ga oa ca g o c se ls))] (by
 rintro⟨hi,hl,hx,hr,Su⟩
 refine aA Tryz.func170
  (.q 1<|.q 3<|.loop Nat (fun i=>⟨[(0,.hd (.key 1000) [2,ix,5] 2 ga oa 0 ((l.map ai).length) ca),(1,.lit (.func (.func 129) #[] #[.pointer (some ⟨gb,0,none⟩)])),(7,iN l.length),(8,iN i)],[(1002,(gb,.ptr (.key 1000) [2,ix] g (o+ix*8))),(1000,(gt,bC n b7 zs ix y l ga oa ca g o c se ls))]⟩) (fun i=>i<=l.length/\∀ j,j<i->Se y (l.getD j j6).ad=true) (fun i=>l.length-i) (fun i=>.q 1<|.br (.q 2<|.r 5 [bG ((l.getD i j6).ad) ((l.getD i j6).tr)]<|.c (xB n b7 zs se ls gt g o c ix y ga oa ca l gb ((l.getD i j6).ad) ((l.getD i j6).tr)) [(1002,1002),(1000,1000)]<|.br (.q 2<|.nil) (.q 2<|.nil)) (.q 1<|.nil)))
  ((fun (v5:Nat) (v4 v3 v2:V) (v1:Nat->Prop)=>((∃ j7:Nat,(v1 j7)/\E (.hd (.key 1000) [2,ix,5] 2 ga oa 0 v5 ca)/\E v4/\Q (iN v5) (iN l.length)/\Q (iN 0) (iN j7)/\Er gb v3/\Er gt v2/\True)/\∀ i:Nat,(v1 i)->(fun v6:r3=>Br (s4 (i:Int) (l.length:Int)) (In (i:Int) v5/\(V.at gt 0 v2 [2,ix,5,0+i]=some (ga,(oa+(0+i)*2),bG (v6.ad) (v6.tr)))/\(xB n b7 zs se ls gt g o c ix y ga oa ca l gb (v6.ad) (v6.tr)).sm/\Er gb v3/\Er gt v2/\((ix<zs.length)/\((v6.ad).length<=1000)/\(w7 (v6.ad))/\(y.gr.ru.length<=1000)/\(∀ i,(y.gr.ru.getD i ⟨false,[]⟩).path.length<=1000))/\Br (!(Se y (v6.ad))) (Q (iN i) (iV (QI y l))/\Er gb v3/\Er gt v2) (n8 ((i:Int)+1)/\∃ e9:Nat,(v1 e9)/\(l.length-e9<l.length-i)/\E (.hd (.key 1000) [2,ix,5] 2 ga oa 0 v5 ca)/\E v4/\E (iN l.length)/\Q (iN (i+1)) (iN e9)/\Er gb v3/\Er gt v2/\True)) (Q (iV (-1)) (iV (QI y l))/\Er gb v3/\Er gt v2)) (l.getD i j6))) ((l.map ai).length) (.lit (.func (.func 129) #[] #[.pointer (some ⟨gb,0,none⟩)])) (.ptr (.key 1000) [2,ix] g (o+ix*8)) (bC n b7 zs ix y l ga oa ca g o c se ls) (fun j7:Nat=>j7<=l.length/\∀ j,j<j7->Se y (l.getD j j6).ad=true)) ?_
 refine⟨⟨0,?_,rfl,rfl,Zah,aD⟩,?_⟩;simp;rintro i ⟨h1,h2⟩;refine bI (fun l4=>?_) fun l4=>?_;have L4:=hx _ (ar (d:=j6) (show i<l.length by omega));refine ak ⟨Zeg,rfl,rfl,rfl,⟨hi,L4.1,L4.2,hr,Su⟩,bI (fun l6=>?_) fun l6=>?_⟩;refine⟨?_,aD⟩;rw[MV (i:=i) Zac Zci h2];refine ak ⟨i+1,?_,?_,aD⟩;exact⟨Zac,Zdy⟩;exact Zak;refine⟨?_,aD⟩;rw[Nk (fun j hj=>h2 j Zac)])
abbrev wL(n:BL)(b7:Int)(zs:List j9)(se:List BL)(ls:List n7)(gt g o c ix:Nat)(y:j9)(ga oa ca:Nat)(l:List r3)(gb:Nat):V:=.hd (.key 1000) [2,ix,5] 2 ga oa 0 ((l.filter (R9 y)).length) ca
abbrev tK(n:BL)(b7:Int)(zs:List j9)(se:List BL)(ls:List n7)(gt g o c ix:Nat)(y:j9)(ga oa ca:Nat)(l:List r3)(gb w i:Nat)(u:List r3):Prop:=w<i/\i<=l.length/\u.length=l.length/\u.take w=(l.take i).filter (R9 y)/\u.drop i=l.drop i
def Jb(n:BL)(b7:Int)(zs:List j9)(se:List BL)(ls:List n7)(gt g o c ix:Nat)(y:j9)(ga oa ca:Nat)(l:List r3)(gb:Nat):aG:=.mk 128 [.hd (.key 1000) [2,ix,5] 2 ga oa 0 ((l.map ai).length) ca,.lit (.func (.func 129) #[] #[.pointer (some ⟨gb,0,none⟩)])] [(1002,(gb,.ptr (.key 1000) [2,ix] g (o+ix*8))),(1000,(gt,bC n b7 zs ix y l ga oa ca g o c se ls))] ((ix<zs.length)/\(l.length<=1000)/\(∀ x,x∈l->x.ad.length<=1000/\w7 x.ad)/\(y.gr.ru.length<=1000)/\(∀ i,(y.gr.ru.getD i ⟨false,[]⟩).path.length<=1000)) (wL n b7 zs se ls gt g o c ix y ga oa ca l gb) [(1002,(gb,.ptr (.key 1000) [2,ix] g (o+ix*8))),(1000,(gt,bC n b7 zs ix y (mO y l) ga oa ca g o c se ls))] (by
 rintro⟨hi,hl,hx,hr,Su⟩
 refine aA Tryz.func128
  (.q 1<|.q 2<|.c (IK n b7 zs se ls gt g o c ix y ga oa ca l gb) [(1002,1002),(1000,1000)]<|.q 1<|.q 2<|.br (.q 2<|.nil) (.q 3<|.loop (Nat×Nat×(List r3)) (fun (w,i,u)=>⟨[(0,.hd (.key 1000) [2,ix,5] 2 ga oa 0 ((l.map ai).length) ca),(1,.lit (.func (.func 129) #[] #[.pointer (some ⟨gb,0,none⟩)])),(5,iN w),(6,iN i)],[(1002,(gb,.ptr (.key 1000) [2,ix] g (o+ix*8))),(1000,(gt,bC n b7 zs ix y u ga oa ca g o c se ls))]⟩) (fun (w,i,u)=>tK n b7 zs se ls gt g o c ix y ga oa ca l gb w i u) (fun (w,i,u)=>l.length-i) (fun (w,i,u)=>.q 4<|.br (.r 4 [bG ((u.getD i j6).ad) ((u.getD i j6).tr)]<|.al kX (fun g7=>.st none<|.r 2 [.c9]<|.c (xB n b7 zs se ls gt g o c ix y ga oa ca u gb ((u.getD i j6).ad) ((u.getD i j6).tr)) [(1002,1002),(1000,1000)]<|.q 1<|.br (.r 4 [.c9]<|.st (some (bG ((u.getD w j6).ad) ((u.getD w j6).tr)))<|.h (.o8 1000 (bC n b7 zs ix y (u.set w (⟨(u.getD i j6).ad,(u.getD i j6).tr⟩:r3)) ga oa ca g o c se ls))<|.q 3<|.q 3<|.nil) (.q 3<|.nil))) (.q 3<|.cu (clC 1000 [2,ix,5] w (l.length-w) 2 (u.map ai) ga oa ca g (o+(ix)*8+7) kX) (fun _=>.h (.o8 1000 (bC n b7 zs ix y (u.take w++List.replicate (l.length-w) j6) ga oa ca g o c se ls))<|.q 4<|.nil)))))
  ((fun (v6 v5 v4 v2:V) (v3:Nat) (v1:Nat->Nat->((List r3))->Prop)=>((IK n b7 zs se ls gt g o c ix y ga oa ca l gb).sm/\Er gb v2/\Er gt v5/\((ix<zs.length)/\(l.length<=1000)/\(∀ x,x∈l->x.ad.length<=1000/\w7 x.ad)/\(y.gr.ru.length<=1000)/\(∀ i,(y.gr.ru.getD i ⟨false,[]⟩).path.length<=1000))/\Br (r4 (QI y l) (-1)) (Q (.hd (.key 1000) [2,ix,5] 2 ga oa 0 v3 ca) (wL n b7 zs se ls gt g o c ix y ga oa ca l gb)/\Er gb v2/\Qr gt v5 gt v6) (n8 ((QI y l)+1)/\(∃ x:Nat×Nat×(List r3),match x with | (Wu,j7,PL)=>(v1 Wu j7 PL)/\E (.hd (.key 1000) [2,ix,5] 2 ga oa 0 v3 ca)/\E v4/\Q (iV (QI y l)) (iN Wu)/\Q (iV ((QI y l)+1)) (iN j7)/\Er gb v2/\Qr gt v5 gt (bC n b7 zs ix y PL ga oa ca g o c se ls)/\True)/\∀ x:Nat×Nat×(List r3),match x with | (w,i,u)=>(v1 w i u)->(fun (v8:r3) (v7:V)=>Br (s4 (i:Int) (((l.map ai).length:Nat):Int)) (In (i:Int) v3/\(V.at gt 0 v7 [2,ix,5,0+i]=some (ga,(oa+(0+i)*2),bG (v8.ad) (v8.tr)))/\∀ g7:Nat,Z g7 0/\Z g7 0/\(xB n b7 zs se ls gt g o c ix y ga oa ca u gb (v8.ad) (v8.tr)).sm/\Er gb v2/\Er gt v7/\((ix<zs.length)/\((v8.ad).length<=1000)/\(w7 (v8.ad))/\(y.gr.ru.length<=1000)/\(∀ i,(y.gr.ru.getD i ⟨false,[]⟩).path.length<=1000))/\Br (!(!(Se y (v8.ad)))) (Z g7 0/\In (w:Int) v3/\(V.at gt 0 v7 [2,ix,5,0+w]=some (ga,(oa+(0+w)*2),bG ((u.getD w j6).ad) ((u.getD w j6).tr)))/\(V.set v7 [2,ix,5,0+w] (bG (v8.ad) (v8.tr))=bC n b7 zs ix y (u.set w (⟨v8.ad,v8.tr⟩:r3)) ga oa ca g o c se ls)/\n8 ((w:Int)+1)/\n8 ((i:Int)+1)/\∃ x:Nat×Nat×(List r3),match x with | (T3,e9,J2)=>(v1 T3 e9 J2)/\(l.length-e9<l.length-i)/\E (.hd (.key 1000) [2,ix,5] 2 ga oa 0 v3 ca)/\E v4/\Q (iN (w+1)) (iN T3)/\Q (iN (i+1)) (iN e9)/\Er gb v2/\Qr gt (bC n b7 zs ix y (u.set w (⟨v8.ad,v8.tr⟩:r3)) ga oa ca g o c se ls) gt (bC n b7 zs ix y J2 ga oa ca g o c se ls)/\True) (n8 ((i:Int)+1)/\∃ x:Nat×Nat×(List r3),match x with | (T3,e9,J2)=>(v1 T3 e9 J2)/\(l.length-e9<l.length-i)/\E (.hd (.key 1000) [2,ix,5] 2 ga oa 0 v3 ca)/\E v4/\Q (iN w) (iN T3)/\Q (iN (i+1)) (iN e9)/\Er gb v2/\Qr gt v7 gt (bC n b7 zs ix y J2 ga oa ca g o c se ls)/\True)) (((0:Int)<=(w:Int)/\(w:Int)<=((l.map ai).length:Int)/\((l.map ai).length:Int)<=v3/\2=2)/\((((52:Nat),(.key 1000:r5),([2,ix,5]:List Nat),2,ga,oa,(0+w),(v3-w))=((52:Nat),(.key 1000:r5),([2,ix,5]:List Nat),2,ga,oa,w,(l.length-w)))/\(V.at gt 0 v7 [2,ix,5]=some (g,o+(ix)*8+7,.own 2 (u.map ai) ga oa ca))/\(w+(l.length-w)<=(u.map ai).length)/\(V.aK (u.map ai)=false)/\(aX 2 (u.map ai))/\((.agg [sV [],iN 0]:V).n=2))/\∀ _:Unit,(V.set v7 [2,ix,5] (.own 2 ((u.map ai).take w++List.replicate (l.length-w) (.agg [sV [],iN 0]:V)++(u.map ai).drop (w+(l.length-w))) ga oa ca)=bC n b7 zs ix y (u.take w++List.replicate (l.length-w) j6) ga oa ca g o c se ls)/\((0:Int)<=(0:Int)/\(0:Int)<=(w:Int)/\(w:Int)<=v3/\2=2)/\Q (.hd (.key 1000) [2,ix,5] 2 ga oa (0+((0:Int).toNat)) (w-((0:Int).toNat)) (ca-((0:Int).toNat))) (wL n b7 zs se ls gt g o c ix y ga oa ca l gb)/\Er gb v2/\Qr gt (bC n b7 zs ix y (u.take w++List.replicate (l.length-w) j6) ga oa ca g o c se ls) gt v6)) (u.getD i j6) (bC n b7 zs ix y u ga oa ca g o c se ls)))) (bC n b7 zs ix y (mO y l) ga oa ca g o c se ls) (bC n b7 zs ix y l ga oa ca g o c se ls) (.lit (.func (.func 129) #[] #[.pointer (some ⟨gb,0,none⟩)])) (.ptr (.key 1000) [2,ix] g (o+ix*8)) ((l.map ai).length) (fun (Wu:Nat) (j7:Nat) (PL:(List r3))=>tK n b7 zs se ls gt g o c ix y ga oa ca l gb Wu j7 PL)) ?_
 refine⟨rfl,rfl,rfl,⟨hi,hl,hx,hr,Su⟩,bI (fun l4=>?_) fun l4=>?_⟩;refine⟨?_,rfl,by rw[Oa l4]⟩;unfold Q wL;rw[HY l4,Zay];refine⟨by have:=CI y l;omega,⟨⟨((QI y l).toNat,(QI y l).toNat+1,l),?_,rfl,rfl,by refine Zbm iV ?_;have:=CI y l;omega,by refine Zbm iV ?_;have:=CI y l;omega,aD⟩,?_⟩⟩;unfold tK;exact Ps l4;rintro⟨w,i,u⟩ ⟨h1,h2,h3,h4,h5⟩;refine bI (fun l6=>?_) fun l6=>?_;have L4:=hx _ (ar (d:=j6) (show i<l.length by omega));have hu:u.getD i j6=l.getD i j6:=wF h5;refine ak ⟨Zeg,fun g7=>bU ⟨⟨hi,by rw[hu];exact L4.1,by rw[hu];exact L4.2,hr,Su⟩,bI (fun n9=>?_) fun n9=>?_⟩⟩;refine aW ⟨Zeg,oQ (Mu (cJ Zac) (Pz (bZ (x:=.agg [sV ((u.getD w j6).ad),iV ((u.getD w j6).tr)]) (by rw[Zaw];exact ah (d:=j6) Zac) (by rw[Zaw];exact(List.map_set (f:=ai) (l:=u) (i:=w) (a:=(⟨(u.getD i j6).ad,(u.getD i j6).tr⟩:r3))).symm))) (lP Zac)),aW ⟨(w+1,i+1,u.set w (⟨(u.getD i j6).ad,(u.getD i j6).tr⟩:r3)),?_,?_,aD⟩⟩;unfold tK;first | exact ND Zci h1 h3 h4 h5 Zdc | exact MO Zci h1 h3 h4 h5 Zdc
 exact Zak;refine ak ⟨(w,i+1,u),?_,?_,aD⟩;unfold tK;first | exact ND Zci h1 h3 h4 h5 Zdc | exact MO Zci h1 h3 h4 h5 Zdc
 exact Zak;refine⟨⟨Zac,Zc9,aD⟩,⟨Zad,ak ⟨Zc9,Zeh,cd (f:=ai) (fun _=>rfl) _,rfl⟩⟩,fun _=>⟨Eq.trans (Zbm (fun r:V=>V.set _ [2,ix,5] r) (Zbm (V.own 2 · ga oa ca) (MI h3))) (oQ (bZ (cJ Zac) (lP Zac))),aW ⟨Zc9,rfl⟩,⟨?_,rfl,by rw[NI Zci h1 h2 h3 h4]⟩⟩⟩;unfold Q wL;rw[On Zci h1 h2 h3 h4];rfl)
def Jd(n:BL)(b7:Int)(zs:List j9)(se:List BL)(ls:List n7)(gt g o c ix:Nat)(y:j9)(ga oa ca:Nat)(l:List r3):aG:=.mk 132 [.hd (.key 1000) [2,ix,5] 2 ga oa 0 ((l.map ai).length) ca,iV 0,iV 1] [(1000,(gt,bC n b7 zs ix y l ga oa ca g o c se ls))] ((ix<zs.length)/\(0<l.length/\l.length<=1000)) (.hd (.key 1000) [2,ix,5] 2 ga oa 0 (l.length-1) ca) [(1000,(gt,bC n b7 zs ix y (l.drop 1++[j6]) ga oa ca g o c se ls))] (by
 rintro⟨hi,hl⟩
 refine aA Tryz.func132
  (.q 1<|.q 5<|.cu (sdC ((l.map ai).length) (0:Int) (1:Int) (((l.map ai).length:Nat):Int)) (fun _=>.q 3<|.br (.nil) (.q 3<|.A3 6 []<|.l7 6<|.cu (saC 1000 [2,ix,5] 1 (l.length-1) 2 (l.map ai) ga oa ca g (o+(ix)*8+7)) (fun _=>.h (.o8 1000 (bC n b7 zs ix y (l.drop 1++l.drop (l.length-1)) ga oa ca g o c se ls))<|.q 1<|.q 4<|.cu (sbC 1000 [2,ix,5] 2 ((l.drop 1++l.drop (l.length-1)).map ai) ga oa ca (l.length-1) g (o+(ix)*8+7) (l.length-1) ((l.map ai).length)) (fun _=>.cu (clC 1000 [2,ix,5] (l.length-1) 1 2 ((l.drop 1++l.drop (l.length-1)).map ai) ga oa ca g (o+(ix)*8+7) kX) (fun _=>.h (.o8 1000 (bC n b7 zs ix y (l.drop 1++[j6]) ga oa ca g o c se ls))<|.q 2<|.nil))))))
  ((fun (v3:V) (v2:Nat) (v1:List V)=>(fun (v5:Int) (v4:Prop)=>((((iV 0):V)=.lit (.int .i64 (0:Int))/\((iV 1):V)=.lit (.int .i64 (1:Int))/\((iN v2):V)=.lit (.int .i64 v5)/\v2=v2/\(0:Int)<=(0:Int)/\(0:Int)<=(1:Int)/\(1:Int)<=v5/\v5<=v2)/\∀ _:Unit,Br (r4 0 1) (False) (((0:Int)<=(0:Int)/\(0:Int)<=(0:Int)/\(0:Int)<=v2/\2=2)/\((0:Int)<=(1:Int)/\(1:Int)<=((l.map ai).length:Int)/\((l.map ai).length:Int)<=v2/\2=2)/\((((.key 1000:r5),([2,ix,5]:List Nat),2,ga,oa,(0+(Int.toNat 1)),(v2-(Int.toNat 1)))=((.key 1000:r5),([2,ix,5]:List Nat),2,ga,oa,1,(l.length-1)))/\((.hd (.key 1000) [2,ix,5] 2 ga oa (0+((0:Int).toNat)) ((Int.toNat 0)-((0:Int).toNat)) (ca-((0:Int).toNat)):V)=.hd (.key 1000) [2,ix,5] 2 ga oa 0 0 ca)/\(V.at gt 0 (bC n b7 zs ix y l ga oa ca g o c se ls) [2,ix,5]=some (g,o+(ix)*8+7,.own 2 (l.map ai) ga oa ca))/\((2:Nat)=2)/\(0<(l.map ai).length)/\(1+(l.length-1)<=(l.map ai).length)/\(V.aK (l.map ai)=false)/\(aX 2 (l.map ai))/\(ca-(Int.toNat 1))=(ca-(Int.toNat 1)))/\∀ _:Unit,(V.set (bC n b7 zs ix y l ga oa ca g o c se ls) [2,ix,5] (.own 2 (((l.map ai).drop 1).take (l.length-1)++(l.map ai).drop (l.length-1)) ga oa ca)=bC n b7 zs ix y (l.drop 1++l.drop (l.length-1)) ga oa ca g o c se ls)/\(((.hd (.key 1000) [2,ix,5] 2 ga oa 0 (l.length-1) ca):V)=.hd (.key 1000) [2,ix,5] 2 ga oa 0 (l.length-1) ca/\v4/\((iN (l.length-1)):V)=.lit (.int .i64 (((l.length-1):Nat):Int))/\((iN v2):V)=.lit (.int .i64 ((v2:Nat):Int))/\((2:Nat)=2)/\(l.length-1)<=v2/\v2<=v1.length)/\∀ _:Unit,((((52:Nat),(.key 1000:r5),([2,ix,5]:List Nat),2,ga,oa,(l.length-1),(v2-(l.length-1)))=((52:Nat),(.key 1000:r5),([2,ix,5]:List Nat),2,ga,oa,(l.length-1),1))/\v4/\((l.length-1)+1<=v1.length)/\(V.aK v1=false)/\(aX 2 v1)/\((.agg [sV [],iN 0]:V).n=2))/\∀ _:Unit,(V.set v3 [2,ix,5] (.own 2 (v1.take (l.length-1)++List.replicate 1 (.agg [sV [],iN 0]:V)++v1.drop ((l.length-1)+1)) ga oa ca)=bC n b7 zs ix y (l.drop 1++[j6]) ga oa ca g o c se ls)/\Q (.hd (.key 1000) [2,ix,5] 2 ga oa 0 (l.length-1) ca) (.hd (.key 1000) [2,ix,5] 2 ga oa 0 (l.length-1) ca)/\Er gt (bC n b7 zs ix y (l.drop 1++[j6]) ga oa ca g o c se ls)))) (((l.map ai).length:Nat):Int) (V.at gt 0 v3 [2,ix,5]=some (g,o+(ix)*8+7,.own 2 v1 ga oa ca))) (bC n b7 zs ix y (l.drop 1++l.drop (l.length-1)) ga oa ca g o c se ls) ((l.map ai).length) ((l.drop 1++l.drop (l.length-1)).map ai)) ?_
 refine⟨aD,fun _=>bI (fun l4=>?_) fun l4=>?_⟩;exact absurd l4 Zaf;refine⟨aD,⟨Zac,Zc9,aD⟩,⟨Zad,aR ⟨Zal,Zal,Zeh,cd (f:=ai) (fun _=>rfl) _,rfl⟩⟩,fun _=>⟨Eq.trans (Zbm (fun r:V=>V.set _ [2,ix,5] r) (Zbm (V.own 2 · ga oa ca) (Pa))) (oQ (bZ (cJ Zac) (lP Zac))),aR ⟨Zad,rfl,Zad,Zch⟩,fun _=>⟨⟨Zal,ak ⟨Zal,Zeh,cd (f:=ai) (fun _=>rfl) _,rfl⟩⟩,fun _=>⟨Eq.trans (Zbm (fun r:V=>V.set _ [2,ix,5] r) (Zbm (V.own 2 · ga oa ca) (Nb Zac))) (oQ (bZ (cJ Zac) (lP Zac))),⟨?_,rfl⟩⟩⟩⟩⟩;rfl)
section
variable {P:Program} {N:Nat} {A A' B:AS}
theorem Mv{o:Oper}{K K':AS->Prop}(h:N' P N o A K)(hK:∀ B,K B->∃ B',M1 B B'/\K' B'):N' P N o A K':=
 fun Pb Kb a w F Q hs=>Oper.wp_mono (fun a' w' ⟨B,Pb',N1,F',hk,H4,h1⟩=>by
  obtain⟨B',e,Sv⟩:=hK B hk;exact⟨B',Pb',N1,F',Sv,H4.eqv e,h1⟩) (h Pb Kb a w F Q hs)
def AG(A:AS)(ρ:r5->r5)(H:List (Nat×(Nat×V)))(q gq:Nat)(vq:V):List (Nat×Nat)->Prop
 | []=>True
 | (k,q')::r=>(match lk k H with
    | some (g,v)=>(match q'==q with
      | true=>(g,v.SO ρ)=(gq,vq)
      | false=>(match lk q' A.h with
        | some (g2,v2)=>(g,v.SO ρ)=(g2,v2)
        | none=>False))
    | none=>False)/\AG A ρ H q gq vq r
theorem Cf{ρ:r5->r5}{H:List (Nat×(Nat×V))}{q gq:Nat}{vq:V}:∀ {ks:List (Nat×Nat)} {k q':Nat},AG A ρ H q gq vq ks->(k,q')∈ks->(lk k H).map (fun gv=>(gv.1,gv.2.SO ρ))=if q'=q then some (gq,vq) else lk q' A.h
 | [],_,_,_,h=>by simp at h
 | (k0,q0)::ks,k,q',h,hm=>by
   rcases List.mem_cons.1 hm with e | hm;cases e;have h1:=h.1;split at h1;rename_i g v hk;rw[hk];split at h1;rename_i e;rw[if_pos Zb3];simp only[Option.map_some,Zan];exact h1;rename_i e;rw[if_neg Zb3];split at h1;rename_i g2 v2 e2;rw[e2];simp only[Option.map_some,Zan];exact h1;exact h1.elim;exact h1.elim;exact Cf h.2 hm
theorem Jq{H:List (Nat×(Nat×V))}{q gq:Nat}{vq:V}{ks:List (Nat×Nat)}(h1:RC (ks.map (·.1))=true)(hn:RC (ks.map (·.2))=true)(h:AG A (nh ks) H q gq vq ks)(hq:q∈ks.map (·.2))(k:Nat):
 lk k (A.back ks H).h=if k=q then some (gq,vq) else lk k A.h:=by
 by_cases hk:k∈ks.map (·.2);obtain⟨⟨k0,q0⟩,hm,rfl⟩:=List.mem_map.1 hk;have hs:lk q0 (SZ ks)=some k0:=(tq h1 hn).1 (sC h1 hm);have:=Cf h hm;simp only[AS.back];rw[pr,tP hn,hs];simp only[Option.bind_some];rw[this];split;rename_i v e;rw[<- e];rename_i e;split at e;cases e;rename_i hne;rw[lx,hs,if_neg hne,e];rfl;rw[FP hn hk,if_neg (by rintro rfl;exact hk hq)]
def ceE(c:Yc P)(ks:List (Nat×Nat))(q gq:Nat)(vq:V):Eu P where
 X:=Unit
 pre N o A Sl Hl:=match o.op,o.dst with
  | .call ⟨.value fx,xs,_⟩,some d=>match A.ev fx,A.tk xs.toList with
    | .lit (.func (.func f) first H6),(vs,_)=>match f==c.f&&Nat.blt d N&&RC (ks.map (·.1))&&RC (ks.map (·.2))&&c.args.length==(first.toList.map cV++vs++H6.toList.map cV).length&&(iz A xs.toList).isEmpty&&Sl.contains d&&Hl.contains q&&(ks.map (·.2)).contains q with
      | true=>R1 (first.toList.map cV++vs++H6.toList.map cV) c.args=c.args/\rz A ks c.H (c.pre/\AG A (nh ks) c.H' q gq vq ks)
      | false=>False
    | _,_=>False
  | _,_=>False
 U o _ _ B:=⟨(B.put o.dst (c.res.SO (nh ks))).t,(q,(gq,vq))::B.h⟩
 Wh:=by
  rintro N ⟨dst,op,ty,pos,after,I6⟩ A Sl Hl hp fs;simp only at hp;split at hp;rename_i fx xs QM d;split at hp;rename_i f first H6 vs A2 e1 e2
  split at hp;rename_i e3;simp only[Zao,Zbi,Zbk]at e3;have hd:d∈Sl:=e3.1.1.2;have hq:q∈Hl:=e3.1.2;refine⟨fun g B t ht=>?_,fun g B k hk=>?_,fun g B B' hB=>?_,fun g B q2 v' hq2 _=>?_,fun g B k gv hk=>?_⟩;show (B.put (some d) _).get t=_;rw[AS.bg,if_neg (fun c=>ht (by rw[c];exact hd))];simp only[lk];rw[if_neg (fun c=>hk (by rw[c];exact hq))];refine⟨fun t=>?_,fun k=>?_⟩;show (B.put (some d) _).get t=(B'.put (some d) _).get t;rw[AS.bg,AS.bg,hB.1 t];simp only[lk,hB.2 k];refine⟨fun t=>?_,fun k=>rfl⟩;show ((B.put (some q2) v').put (some d) _).get t=((B.put (some d) _).put (some q2) v').get t;rw[AS.bg,AS.bg,AS.bg,AS.bg];by_cases c:t=d;subst c;rw[if_pos rfl,if_neg (fun c=>hq2 (by rw[<- c];exact hd)),if_pos rfl];rw[if_neg c,if_neg c];refine⟨fun _=>rfl,fun k2=>?_⟩;simp only[lk];by_cases c:k2=q;subst c;rw[if_pos rfl,if_neg (fun c=>hk (by rw[<- c];exact hq)),if_pos rfl];rw[if_neg c,if_neg c];exact hp.elim;exact hp.elim;exact hp.elim
 ok:=by
  rintro N ⟨dst,op,ty,pos,after,I6⟩ A A' Sl Hl hg hp hA hR;simp only at hg;subst hg;simp only at hp;split at hp;rename_i fx xs QM d;split at hp;rename_i f first H6 vs A2 e1 e2
  split at hp;rename_i e3;simp only[Zao,Zbi,Zbk,Zbl,List.isEmpty_iff]at e3;obtain⟨⟨⟨⟨⟨⟨⟨⟨rfl,WT⟩,k1⟩,k2⟩,hlen⟩,Qp⟩,hd⟩,hq⟩,hqk⟩:=e3;obtain⟨hargs,hrj⟩:=hp;obtain⟨Ul,VP,hback⟩:=mA hrj;have YT:A'.ev fx=A.ev fx:=cw fun t ht=>hA t Zb0;obtain⟨t1,t2⟩:=yO xs.toList (A:=A) (A':=A') fun t ht=>hA t (by simp only[Op.operands,Call.operands];simp;right;simpa using ht);have XE:=yq xs.toList (A:=A');rw[t2,Qp]at XE;have Zw:(A.tk xs.toList).1=vs:=by rw[e2]
  refine Mv (sy (A:=A') (K:=fun B=>B=((A'.tk xs.toList).2.back ks c.H').put (some d) (c.res.SO (nh ks))) ks rfl (by rw[YT];exact e1) (cv WT) k1 k2 (c.ok VP) (by rw[t1,Zw];exact hargs) (by rw[t1,Zw];exact hlen)
   (qh (fun k _=>(XE.2 k).trans (hR k)) Ul) ?_) ?_
  rintro r H0 ⟨rfl,rfl⟩;rfl;rintro B rfl;refine⟨_,⟨fun t=>?_,fun k=>?_⟩,(),rfl⟩;show (AS.put _ (some d) _).get t=(A'.put (some d) _).get t;rw[AS.bg,AS.bg];split;rfl;exact XE.1 t;show lk k ((A'.tk xs.toList).2.back ks c.H').h=lk k ((q,(gq,vq))::A'.h);rw[tZ (B:=A) (fun k=>(XE.2 k).trans (hR k)),Jq k1 k2 hback hqk];simp only[lk,hR k];exact hp.elim;exact hp.elim;exact hp.elim
end
end Go.Proofs.YtngholilfbdfkaaGreatDoor