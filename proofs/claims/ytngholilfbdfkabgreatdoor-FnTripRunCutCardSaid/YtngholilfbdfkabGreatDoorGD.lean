/-
  Words and walks for the laws of pedlar's seat: what each function of the program computes, and that it does; no conditions beyond those that each statement names.
-/
import Derived.Test.YtngholilfbdfkabGreatDoorGC
import Derived.Test.YtngholilfbdfkabGreatDoorGB
set_option linter.unusedVariables false
set_option linter.unusedSimpArgs false
set_option linter.unnecessarySimpa false
set_option linter.unusedSectionVars false
namespace Go.Proofs.YtngholilfbdfkabGreatDoor
open Go Go.RowKit
set_option maxRecDepth 20000
abbrev fG(p0:V):V:=.agg [ p0,bV true]
abbrev fH(p0:List l9)(p1:Bool):V:=.agg [.ow 3 (p0.map aM),bV p1]
theorem JX(gs:List l9)(b:Bool)(g:Nat)(n:BL)(hg:gs.length<=1000)(hn:∀ y,y∈gs->y.na.length<=1000/\y.ru.length<=6):PF Tryz.prog 211 [kp 1000 g,.lit (.iface 248 (.agg #[.string (Str n)]))] [(1000,(g,fH gs b))] (fun r h=>r=(.tup [])/\h=[(1000,(g,fH ((mY gs b n).1) ((mY gs b n).2)))]):=by
 refine au Tryz.func211
  (.oR (.key 1000) [0] (fun gr fr cr=>.q 1<|.cu (Zz (.agg [sV n])) (fun _=>.q 3<|.al nV (fun g4=>.st none<|.q 1<|.q 2<|.gt<|.q 1<|.gt<|.q 1<|.gt<|.q 1<|.gt<|.n9<|.gt<|.q 1<|.gt<|.q 1<|.gt<|.r 5 [.c9]<|.gt<|.q 2<|.br (.A7 11 [(4,m5 [1000] [34]),(6,m5 [4] [36]),(7,⟨true,[],none,[37],[]⟩),(10,⟨true,[],none,[40],[1000]⟩)]<|.l7 4<|.n9<|.q 1<|.n9<|.eu boE (fun PT=>.bd fT<|.bs<|.ux none (fun K5 K1 OV=>.h (.n8 40 (.own 3 (gs.map aM++[(.agg [.hd (.slot 37) [] 1 PT 0 0 (([n].map sV).length) 1,.sl true [],iN 0]:V)]) K5 K1 OV))<|.q 2<|.h (.R0 (.slot 40) [gs.length,0] K5 (K1+(gs.length)*3+0) 37)<|.h (.n8 40 (.own 3 (gs.map aM++[(.agg [.own 1 ([n].map sV) PT 0 1,.sl true [],iN 0]:V)]) K5 K1 OV))<|.h (.Tf (.slot 40) [gs.length,1] K5 (K1+(gs.length)*3+1) 2)<|.h (.n8 40 (.own 3 (gs.map aM++[(.agg [.own 1 ([n].map sV) PT 0 1,.own 2 ([].map av) 0 0 0,iN 0]:V)]) K5 K1 OV))<|.h (.Pe (.slot 40) [gs.length,0] K5 (K1+(gs.length)*3+0) (.own 1 ([n].map sV) PT 0 1) (.ow 1 ([n].map sV)))<|.h (.n8 40 (.own 3 (gs.map aM++[(.agg [.ow 1 ([n].map sV),.own 2 ([].map av) 0 0 0,iN 0]:V)]) K5 K1 OV))<|.h (.Pe (.slot 40) [gs.length,1] K5 (K1+(gs.length)*3+1) (.own 2 ([].map av) 0 0 0) (.ow 2 ([].map av)))<|.h (.n8 40 (.own 3 (gs.map aM++[(.agg [.ow 1 ([n].map sV),.ow 2 ([].map av),iN 0]:V)]) K5 K1 OV))<|.h (.n8 40 (.own 3 ((gs++[(⟨[n],[],0⟩:l9)]).map aM) K5 K1 OV))<|.st none<|.q 3<|.st none<|.nil))) (.r 6 [.c9]<|.br (.nil) (.ex (List l9×l9) (fun z=>gs=z.1++[z.2]) (fun (z:List l9×l9)=>(fun y1:V->V=>(.h (.r4 1000 (y1 (fQ z.2:V)))<|.A7 10 [(3,m5 [1000] [55]),(7,m5 [1000] [59])]<|.l7 3<|.n9<|.l7 3<|.n9<|.l7 2<|.h (.n8 61 (iN z.1.length))<|.q 2<|.q 1<|.cu (Zz (.agg [sV n])) (fun _=>.q 2<|.br (.al nV (fun g7=>.st none<|.QB (.key 1000) [0,0+z.1.length,0] gr (fr+(0+z.1.length)*3+0) 1 (z.2.na.map sV) (fun gA oA cA=>.h (.r4 1000 (y1 (pQ z.2.na gA oA cA z.2.ru z.2.wa:V)))<|.A7 9 [(4,m5 [1000] [71]),(6,m5 [7] [73]),(8,⟨true,[],none,[75],[1000]⟩)]<|.l7 4<|.r 1 [.own 1 (z.2.na.map sV) gA oA cA]<|.q 1<|.n9<|.bs<|.eu (W5 1000 [0,0+z.1.length,0] (z.2.na.map sV) ([sV n]:List V) gr (fr+(0+z.1.length)*3+0) 1 gA oA cA) (fun Qb=>.h (.r4 1000 (y1 (.agg [.c9,.ow 2 (z.2.ru.map av),iN z.2.wa]:V)))<|.h (.n8 75 (.own 1 ((z.2.na++[n]).map sV) Qb.1 Qb.2.1 Qb.2.2))<|.q 2<|.st (some (.c9))<|.h (.r4 1000 (y1 (pQ (z.2.na++[n]) Qb.1 Qb.2.1 Qb.2.2 z.2.ru z.2.wa:V)))<|.h (.Pe (.key 1000) [0,0+z.1.length,0] gr (fr+(0+z.1.length)*3+0) (.own 1 ((z.2.na++[n]).map sV) Qb.1 Qb.2.1 Qb.2.2) (.ow 1 ((z.2.na++[n]).map sV)))<|.h (.r4 1000 (y1 (iQ (z.2.na++[n]) z.2.ru z.2.wa:V)))<|.h (.r4 1000 (.agg [.own 3 ((z.1++[(⟨z.2.na++[n],z.2.ru,z.2.wa⟩:l9)]).map aM) gr fr cr,bV b]))<|.nil)))) (.nil)):Sc Tryz.prog)) (fun r:V=>(.agg [.own 3 (z.1.map aM++[r]) gr fr cr,bV b])))))))))
  ((fun (v6 v4 v3:V) (v5:List V) (v2:Nat) (v1:Bool)=>(∀ gr fr cr:Nat,((∃ td,Tryz.prog.underlying 248=some td/\∀ i,td≠.interface i)/\((248:Nat)=248)/\((.agg #[.string (Str n)]:Value)=.agg #[.string (Str n)]))/\∀ _:Unit,∀ g4:Nat,Z g4 0/\(true=true)/\(true=true)/\True/\(true=true)/\(true=true)/\Z g 0/\(true=true)/\(true=true)/\(true=true)/\Gd (v1==false) True/\Gd (v1==false) (Z g 1)/\(true=true)/\Pk v1 true (v1==false)/\Pk true true true/\Br (true&&(v1||b)) (True/\Z g 0/\Z g4 0/\True/\∀ PT:Nat,(fun (v10 v9 v8:V) (v7:List V)=>(((3,3,gr,fr,cr,(gs.map aM).length)=(3,3,gr,fr,cr,(gs.map aM).length))/\(V.aF v7=false)/\(aW 3 v7)/\(((gs.map aM).length+v7.length)*56<=140737488355328))/\∀ K5 K1 OV:Nat,(fun v11:V->V=>((.own 3 ((gs.map aM)++v7) K5 K1 OV:V)=.own 3 (gs.map aM++[v9]) K5 K1 OV)/\True/\(V.at K5 K1 (v11 v9) [gs.length,0]=some (K5,K1+(gs.length)*3+0,.hd (.slot 37) [] 1 PT 0 0 v2 1))/\(V.set (v11 v9) [gs.length,0] (.own 1 ([n].map sV) PT 0 1)=.own 3 (gs.map aM++[v10]) K5 K1 OV)/\(V.at K5 K1 (v11 v10) [gs.length,1]=some (K5,K1+(gs.length)*3+1,.sl true []))/\(V.set (v11 v10) [gs.length,1] (.own 2 ([].map av) 0 0 0)=.own 3 (gs.map aM++[v8]) K5 K1 OV)/\(V.at K5 K1 (v11 v8) [gs.length,0]=some (K5,K1+(gs.length)*3+0,.own 1 ([n].map sV) PT 0 1))/\(V.set (v11 v8) [gs.length,0] (.ow 1 ([n].map sV))=.own 3 (gs.map aM++[v3]) K5 K1 OV)/\(V.at K5 K1 (v11 v3) [gs.length,1]=some (K5,K1+(gs.length)*3+1,.own 2 ([].map av) 0 0 0))/\(V.set (v11 v3) [gs.length,1] (.ow 2 ([].map av))=.own 3 (gs.map aM++[v6]) K5 K1 OV)/\((.own 3 (gs.map aM++[v6]) K5 K1 OV:V)=.own 3 ((gs++[(⟨[n],[],0⟩:l9)]).map aM) K5 K1 OV)/\Z g 0/\True/\Z g 1/\Q (.tup []) (.tup [])/\Qr g (.agg [.ow 3 ((gs++[(⟨[n],[],0⟩:l9)]).map aM),bV false]) g v4) (fun r:V=>(.own 3 (gs.map aM++[r]) K5 K1 OV))) (.agg [.own 1 ([n].map sV) PT 0 1,.sl true [],iN 0]:V) (.agg [.hd (.slot 37) [] 1 PT 0 0 v2 1,.sl true [],iN 0]:V) (.agg [.own 1 ([n].map sV) PT 0 1,.own 2 ([].map av) 0 0 0,iN 0]:V) ([.agg [.hd (.slot 37) [] 1 PT 0 0 v2 1,.sl true [],iN 0]]:List V)) (True/\Z g 0/\Br v1 (Q (.tup []) (.tup [])/\Qr g (fH gs b) g v4) ((∃ z:List l9×l9,gs=z.1++[z.2])/\∀ z:List l9×l9,(gs=z.1++[z.2])->(fun (B0 w7:List V) (B7 w3:V) (v12:V->V)=>((.agg [.own 3 (gs.map aM) gr fr cr,bV b]:V)=(v12 B7))/\True/\Z g 0/\True/\Z g 0/\m6 ((((z.1.map aM++[B7]).length:Nat):Int)-1)/\Q (iV ((((z.1.map aM++[B7]).length:Nat):Int)-1)) (iN z.1.length)/\In (z.1.length:Int) ((z.1.map aM++[B7]).length)/\((∃ td,Tryz.prog.underlying 248=some td/\∀ i,td≠.interface i)/\((248:Nat)=248)/\((.agg #[.string (Str n)]:Value)=.agg #[.string (Str n)]))/\∀ _:Unit,Br true (∀ g7:Nat,Z g7 0/\(V.at g 0 (v12 B7) [0,0+z.1.length,0]=some (gr,fr+(0+z.1.length)*3+0,.ow 1 w7))/\∀ gA oA cA:Nat,(fun E3:V=>(V.set (v12 B7) [0,0+z.1.length,0] (.own 1 w7 gA oA cA)=(v12 E3))/\True/\(V.at g 0 (v12 E3) [0,0+z.1.length,0]=some (gr,(fr+(0+z.1.length)*3+0),.own 1 w7 gA oA cA))/\Z g7 0/\(v5=v5/\((.hd (.key 1000) [0,0+z.1.length,0] 1 gA oA 0 (w7.length) cA:V)=.hd (.key 1000) [0,0+z.1.length,0] 1 gA oA 0 (w7.length) cA)/\(V.at g 0 (v12 E3) [0,0+z.1.length,0]=some (gr,fr+(0+z.1.length)*3+0,.own 1 w7 gA oA cA))/\((1:Nat)=1)/\(V.aF v5=false)/\(aW 1 v5)/\((w7.length+v5.length)*16<=140737488355328))/\∀ Qb:Nat×Nat×Nat,(fun F7:V=>(V.set (v12 E3) [0,0+z.1.length,0] (.c9)=(v12 w3))/\((.own 1 (w7++v5) Qb.1 Qb.2.1 Qb.2.2:V)=.own 1 B0 Qb.1 Qb.2.1 Qb.2.2)/\True/\(V.at g 0 (v12 w3) [0,0+z.1.length,0]=some (gr,(fr+(0+z.1.length)*3+0),.c9))/\(V.set (v12 w3) [0,0+z.1.length,0] (.own 1 B0 Qb.1 Qb.2.1 Qb.2.2)=(v12 F7))/\(V.at g 0 (v12 F7) [0,0+z.1.length,0]=some (gr,fr+(0+z.1.length)*3+0,.own 1 B0 Qb.1 Qb.2.1 Qb.2.2))/\(V.set (v12 F7) [0,0+z.1.length,0] (.ow 1 B0)=(v12 (iQ (z.2.na++[n]) z.2.ru z.2.wa:V)))/\((.agg [.own 3 (z.1.map aM++[(iQ (z.2.na++[n]) z.2.ru z.2.wa:V)]) gr fr cr,bV b]:V)=.agg [.own 3 ((z.1++[(⟨z.2.na++[n],z.2.ru,z.2.wa⟩:l9)]).map aM) gr fr cr,bV b])/\Q (.tup []) (.tup [])/\Qr g (fH (z.1++[(⟨z.2.na++[n],z.2.ru,z.2.wa⟩:l9)]) b) g v4) (pQ (z.2.na++[n]) Qb.1 Qb.2.1 Qb.2.2 z.2.ru z.2.wa:V)) (pQ z.2.na gA oA cA z.2.ru z.2.wa:V)) (False)) ((z.2.na++[n]).map sV) (z.2.na.map sV) (fQ z.2:V) (.agg [.c9,.ow 2 (z.2.ru.map av),iN z.2.wa]:V) (fun r:V=>(.agg [.own 3 (z.1.map aM++[r]) gr fr cr,bV b])))))) (.agg [.ow 1 ([n].map sV),.ow 2 ([].map av),iN 0]:V) (fH ((mY gs b n).1) ((mY gs b n).2)) (.agg [.ow 1 ([n].map sV),.own 2 ([].map av) 0 0 0,iN 0]:V) ([sV n]:List V) (([n].map sV).length) (o5 (((gs.map aM).length:Nat):Int) 0)) ?_
 intro gr fr cr;refine⟨⟨⟨_,Tryz.underlying248,Zdq⟩,ao⟩,fun _=>fun g4=>AM (gN (bI (fun j8=>?_) fun j8=>?_))⟩;refine df fun PT=>⟨ao,fun K5 K1 OV=>⟨Zbm (V.own 3 · K5 K1 OV) (rfl),trivial,Zdc,Zdd,Zdc,Zdd,Zdc,Zdd,Zdc,Zdd,Zbm (V.own 3 · K5 K1 OV) (by rw[Zbb (f:=aM)];rfl),bm ⟨?_,by rw[show mY gs b n=(gs++[⟨[n],[],0⟩],false) from if_pos (j8.imp (fun h=>Za5 Zbq) id)]⟩⟩⟩;rfl
 · refine bb (bI (fun l5=>?_) fun l5=>?_)
   · all_goals (simp_all)
   · refine⟨jX (iF Zac),fun z hz=>?_⟩;have SZ:=hn z.2 (by rw[hz];simp);have Vt:gs.length=z.1.length+1:=by rw[hz];simp
     refine⟨Zdr,eQ ⟨Zds,ak ⟨⟨⟨_,Tryz.underlying248,Zdq⟩,ao⟩,?_⟩⟩⟩;intro _;refine bI (fun m8=>?_) fun m8=>?_;intro g7;refine⟨rfl,Zdt,fun gA oA cA=>⟨Zdu,trivial,Zdt,rfl,⟨rfl,rfl,Zdt,ao⟩,fun Qb=>⟨Zdu,Zbm (V.own 1 · Qb.1 Qb.2.1 Qb.2.2) Zad,trivial,Zdt,Zdu,Zdt,Zdu,Zdv,⟨?_,by rw[show mY gs b n=(z.1++[⟨z.2.na++[n],z.2.ru,z.2.wa⟩],b) from by rw[mY,if_neg (by rintro (h | h) <;> simp_all),hz,ez]]⟩⟩⟩⟩;rfl
     · all_goals (first | exact absurd m8 Zaf | simp_all)
theorem JI(gs:List l9)(b:Bool)(g:Nat)(l:Bool)(p:BL)(hg:gs.length<=1000)(hn:∀ y,y∈gs->y.na.length<=1000/\y.ru.length<=6):PF Tryz.prog 211 [kp 1000 g,.lit (.iface 250 (.agg #[.bool l,.string (Str p)]))] [(1000,(g,fH gs b))] (fun r h=>r=(.tup [])/\h=[(1000,(g,fH ((jW gs b l p).1) ((jW gs b l p).2)))]):=by
 refine au Tryz.func211
  (.oR (.key 1000) [0] (fun gr fr cr=>.q 1<|.cu (YA nV) (fun _=>.q 3<|.al nV (fun g4=>.st none<|.q 1<|.q 2<|.gf (.c9)<|.gf (.c9)<|.gf (.c9)<|.gf (.c9)<|.gf (.c9)<|.gf (bV false)<|.gf (bV false)<|.gf (.c9)<|.gf (.c9)<|.gf (.c9)<|.gf (bV false)<|.gf (bV false)<|.q 1<|.br (.nil) (.r 6 [.c9]<|.br (.nil) (.ex (List l9×l9) (fun z=>gs=z.1++[z.2]) (fun (z:List l9×l9)=>(fun (y3 y2:List V) (y1:V->V)=>(.h (.r4 1000 (.agg [.own 3 (z.1.map aM++[(fQ z.2:V)]) gr fr cr,bV b]))<|.A7 10 [(3,m5 [1000] [55]),(7,m5 [1000] [59])]<|.l7 3<|.n9<|.l7 3<|.n9<|.l7 2<|.h (.n8 61 (iN z.1.length))<|.q 2<|.q 1<|.cu (YA nV) (fun _=>.q 2<|.br (.nil) (.cu (Zz (.agg [dS l p])) (fun _=>.q 2<|.br (.al Ei (fun g8=>.st none<|.q 3<|.st none<|.QB (.key 1000) [0,0+z.1.length,1] gr (fr+(0+z.1.length)*3+1) 2 y3 (fun gA oA cA=>.h (.r4 1000 (y1 (nW z.2.na z.2.ru gA oA cA z.2.wa:V)))<|.r 6 [.own 2 y3 gA oA cA]<|.br (.A7 9 [(4,m5 [1000] [94]),(6,m5 [8] [96]),(8,⟨true,[],none,[98],[1000]⟩)]<|.l7 4<|.r 1 [.own 2 y3 gA oA cA]<|.q 1<|.n9<|.bs<|.eu (W5 1000 [0,0+z.1.length,1] y3 ([dS l p]:List V) gr (fr+(0+z.1.length)*3+1) 2 gA oA cA) (fun Qa=>.h (.r4 1000 (y1 (.agg [.ow 1 (z.2.na.map sV),.c9,iN z.2.wa]:V)))<|.h (.n8 98 (.own 2 y2 Qa.1 Qa.2.1 Qa.2.2))<|.q 2<|.st (some (.c9))<|.h (.r4 1000 (fG (.own 3 (z.1.map aM++[(nW z.2.na (z.2.ru++[(⟨l,p⟩:s5)]) Qa.1 Qa.2.1 Qa.2.2 z.2.wa:V)]) gr fr cr)))<|.h (.Pe (.key 1000) [0,0+z.1.length,1] gr (fr+(0+z.1.length)*3+1) (.own 2 y2 Qa.1 Qa.2.1 Qa.2.2) (.ow 2 y2))<|.h (.r4 1000 (y1 (iQ z.2.na (z.2.ru++[(⟨l,p⟩:s5)]) z.2.wa:V)))<|.h (.r4 1000 (.agg [.own 3 ((z.1++[(⟨z.2.na,z.2.ru++[⟨l,p⟩],z.2.wa⟩:l9)]).map aM) gr fr cr,bV true]))<|.nil)) (.h (.Pe (.key 1000) [0,0+z.1.length,1] gr (fr+(0+z.1.length)*3+1) (.own 2 y3 gA oA cA) (.ow 2 y3))<|.h (.r4 1000 (y1 (fQ z.2:V)))<|.h (.r4 1000 (.agg [.own 3 ((z.1++[z.2]).map aM) gr fr cr,bV true]))<|.nil)))) (.nil)))):Sc Tryz.prog)) (z.2.ru.map av) ((z.2.ru++[(⟨l,p⟩:s5)]).map av) (fun r:V=>(fG (.own 3 (z.1.map aM++[r]) gr fr cr))))))))))
  ((fun (v3:V) (v2:List V) (v1:s5)=>(∀ gr fr cr:Nat,((∃ td,Tryz.prog.underlying 248=some td/\∀ i,td≠.interface i)/\((250:Nat)≠248)/\(∃ y,(.agg [sV []]:V).val? =some y/\∀ w,(zeroValue 248).run Tryz.prog w=.ok y w))/\∀ _:Unit,∀ g4:Nat,Z g4 0/\(false=false)/\(false=false)/\(false=false)/\(false=false)/\(false=false)/\(false=false)/\(false=false)/\(false=false)/\(false=false)/\(false=false)/\(false=false)/\(false=false)/\Pk false false true/\Br (false&&false) (False) (True/\Z g 0/\Br (o5 (((gs.map aM).length:Nat):Int) 0) (Q (.tup []) (.tup [])/\Qr g (fH gs b) g v3) ((∃ z:List l9×l9,gs=z.1++[z.2])/\∀ z:List l9×l9,(gs=z.1++[z.2])->(fun (v9 v8 v5:List V) (v7 v6:V) (v4:V->V)=>((.agg [.own 3 (gs.map aM) gr fr cr,bV b]:V)=.agg [.own 3 (z.1.map aM++[v6]) gr fr cr,bV b])/\True/\Z g 0/\True/\Z g 0/\m6 ((((z.1.map aM++[v6]).length:Nat):Int)-1)/\Q (iV ((((z.1.map aM++[v6]).length:Nat):Int)-1)) (iN z.1.length)/\In (z.1.length:Int) ((z.1.map aM++[v6]).length)/\((∃ td,Tryz.prog.underlying 248=some td/\∀ i,td≠.interface i)/\((250:Nat)≠248)/\(∃ y,(.agg [sV []]:V).val? =some y/\∀ w,(zeroValue 248).run Tryz.prog w=.ok y w))/\∀ _:Unit,Br false (False) (((∃ td,Tryz.prog.underlying 250=some td/\∀ i,td≠.interface i)/\((250:Nat)=250)/\((.agg #[.bool l,.string (Str p)]:Value)=.agg #[.bool l,.string (Str p)]))/\∀ _:Unit,Br true (∀ g8:Nat,Z g8 0/\True/\Z g 1/\(V.at g 0 (fG (v4 v6)) [0,0+z.1.length,1]=some (gr,fr+(0+z.1.length)*3+1,.ow 2 v5))/\∀ gA oA cA:Nat,(fun v10:V=>(fun (v12 v11:Prop)=>(V.set (fG (v4 v6)) [0,0+z.1.length,1] (.own 2 v5 gA oA cA)=fG (v4 (nW z.2.na z.2.ru gA oA cA z.2.wa:V)))/\True/\v11/\Br (s4 ((v5.length:Nat):Int) 6) (True/\v11/\Z g8 0/\(v2=v2/\((.hd (.key 1000) [0,0+z.1.length,1] 2 gA oA 0 (v5.length) cA:V)=.hd (.key 1000) [0,0+z.1.length,1] 2 gA oA 0 (v5.length) cA)/\v12/\((2:Nat)=2)/\(V.aF v2=false)/\(aW 2 v2)/\((v5.length+v2.length)*24<=140737488355328))/\∀ Qa:Nat×Nat×Nat,(fun w3:V=>(V.set v10 [0,0+z.1.length,1] (.c9)=fG (v4 v7))/\((.own 2 (v5++v2) Qa.1 Qa.2.1 Qa.2.2:V)=.own 2 v8 Qa.1 Qa.2.1 Qa.2.2)/\True/\(V.at g 0 (fG (v4 v7)) [0,0+z.1.length,1]=some (gr,(fr+(0+z.1.length)*3+1),.c9))/\(V.set (fG (v4 v7)) [0,0+z.1.length,1] (.own 2 v8 Qa.1 Qa.2.1 Qa.2.2)=fG w3)/\(V.at g 0 (fG w3) [0,0+z.1.length,1]=some (gr,fr+(0+z.1.length)*3+1,.own 2 v8 Qa.1 Qa.2.1 Qa.2.2))/\(V.set (fG w3) [0,0+z.1.length,1] (.ow 2 v8)=fG (v4 (iQ z.2.na (z.2.ru++[v1]) z.2.wa:V)))/\((fG (v4 (iQ z.2.na (z.2.ru++[v1]) z.2.wa:V)):V)=.agg [.own 3 v9 gr fr cr,bV true])/\Q (.tup []) (.tup [])/\Qr g (.agg [.ow 3 v9,bV true]) g v3) (.own 3 (z.1.map aM++[(nW z.2.na (z.2.ru++[v1]) Qa.1 Qa.2.1 Qa.2.2 z.2.wa:V)]) gr fr cr)) (v12/\(V.set v10 [0,0+z.1.length,1] (.ow 2 v5)=fG (v4 v6))/\((fG (v4 v6):V)=.agg [.own 3 ((z.1++[z.2]).map aM) gr fr cr,bV true])/\Q (.tup []) (.tup [])/\Qr g (.agg [.ow 3 ((z.1++[z.2]).map aM),bV true]) g v3)) (V.at g 0 v10 [0,0+z.1.length,1]=some (gr,fr+(0+z.1.length)*3+1,.own 2 v5 gA oA cA)) (V.at g 0 v10 [0,0+z.1.length,1]=some (gr,(fr+(0+z.1.length)*3+1),.own 2 v5 gA oA cA))) (fG (v4 (nW z.2.na z.2.ru gA oA cA z.2.wa:V)))) (False))) ((z.1++[(⟨z.2.na,z.2.ru++[⟨l,p⟩],z.2.wa⟩:l9)]).map aM) ((z.2.ru++[v1]).map av) (z.2.ru.map av) (.agg [.ow 1 (z.2.na.map sV),.c9,iN z.2.wa]:V) (fQ z.2:V) (fun r:V=>(.own 3 (z.1.map aM++[r]) gr fr cr)))))) (fH ((jW gs b l p).1) ((jW gs b l p).2)) ([dS l p]:List V) (⟨l,p⟩:s5)) ?_
 intro gr fr cr;refine⟨⟨⟨_,Tryz.underlying248,Zdq⟩,Zaf,_,rfl,Tryz.zeroValue248⟩,fun _=>fun g4=>mD (gN (bI (fun j8=>?_) fun j8=>?_))⟩
 · all_goals (first | exact absurd j8 Zaf | simp_all)
 · refine bb (bI (fun l5=>?_) fun l5=>?_);refine⟨?_,by rw[show jW gs b l p=(gs,b) from if_pos (Za5 Zac)]⟩;rfl
   · refine⟨jX (iF Zac),fun z hz=>?_⟩;have SZ:=hn z.2 (by rw[hz];simp);have Vt:gs.length=z.1.length+1:=by rw[hz];simp
     refine⟨Zdr,eQ ⟨Zds,ak ⟨⟨⟨_,Tryz.underlying248,Zdq⟩,Zaf,_,rfl,Tryz.zeroValue248⟩,?_⟩⟩⟩;intro _;refine bI (fun m8=>?_) fun m8=>?_
     · all_goals (first | exact absurd m8 Zaf | simp_all)
     · refine⟨⟨⟨_,Tryz.underlying250,Zdq⟩,ao⟩,fun _=>bI (fun y9=>?_) fun y9=>?_⟩;intro g8;refine bm ⟨Zdt,fun gA oA cA=>⟨Zdu,trivial,Zdt,bI (fun E4=>?_) fun E4=>?_⟩⟩;refine⟨trivial,Zdt,rfl,⟨rfl,rfl,Zdt,ao⟩,fun Qa=>⟨Zdu,Zbm (V.own 2 · Qa.1 Qa.2.1 Qa.2.2) Zad,trivial,Zdt,Zdu,Zdt,Zdu,Zdv,⟨?_,by rw[show jW gs b l p=(z.1++[⟨z.2.na,z.2.ru++[⟨l,p⟩],z.2.wa⟩],true) from by rw[jW,if_neg (by rintro h;simp_all),if_pos (by rw[hz,iI];omega),hz,ez]]⟩⟩⟩;rfl;refine⟨Zdt,Zdu,Zdv,⟨?_,by rw[show jW gs b l p=(z.1++[z.2],true) from by rw[jW,if_neg (by rintro h;simp_all),if_neg (by rw[hz,iI];omega),hz]]⟩⟩;rfl
       · all_goals (first | exact absurd y9 Zaf | simp_all)
theorem Ic(gs:List l9)(b:Bool)(g v:Nat)(hg:gs.length<=1000)(hn:∀ y,y∈gs->y.na.length<=1000/\y.ru.length<=6):PF Tryz.prog 211 [kp 1000 g,.lit (.iface 252 (.agg #[.int .i64 (v:Int)]))] [(1000,(g,fH gs b))] (fun r h=>r=(.tup [])/\h=[(1000,(g,fH ((nf gs b v).1) ((nf gs b v).2)))]):=by
 refine au Tryz.func211
  (.oR (.key 1000) [0] (fun gr fr cr=>.q 1<|.cu (YA nV) (fun _=>.q 3<|.al nV (fun g4=>.st none<|.q 1<|.q 2<|.gf (.c9)<|.gf (.c9)<|.gf (.c9)<|.gf (.c9)<|.gf (.c9)<|.gf (bV false)<|.gf (bV false)<|.gf (.c9)<|.gf (.c9)<|.gf (.c9)<|.gf (bV false)<|.gf (bV false)<|.q 1<|.br (.nil) (.r 6 [.c9]<|.br (.nil) (.ex (List l9×l9) (fun z=>gs=z.1++[z.2]) (fun (z:List l9×l9)=>.h (.r4 1000 (.agg [.own 3 (z.1.map aM++[(fQ z.2:V)]) gr fr cr,bV b]))<|.A7 10 [(3,m5 [1000] [55]),(7,m5 [1000] [59])]<|.l7 3<|.n9<|.l7 3<|.n9<|.l7 2<|.h (.n8 61 (iN z.1.length))<|.q 2<|.q 1<|.cu (YA nV) (fun _=>.q 2<|.br (.nil) (.cu (YA Ei) (fun _=>.q 2<|.br (.nil) (.cu (Zz (.agg [iN v])) (fun _=>.q 2<|.br (.al KO (fun g9=>.st none<|.q 3<|.st none<|.r 5 [.c9]<|.st (some (iN z.2.wa))<|.h (.r4 1000 (fG (.own 3 (z.1.map aM++[(iQ z.2.na z.2.ru v:V)]) gr fr cr)))<|.h (.r4 1000 (.agg [.own 3 ((z.1++[(⟨z.2.na,z.2.ru,v⟩:l9)]).map aM) gr fr cr,bV true]))<|.nil)) (.nil)))))))))))))
  ((fun v1:V=>(∀ gr fr cr:Nat,((∃ td,Tryz.prog.underlying 248=some td/\∀ i,td≠.interface i)/\((252:Nat)≠248)/\(∃ y,(.agg [sV []]:V).val? =some y/\∀ w,(zeroValue 248).run Tryz.prog w=.ok y w))/\∀ _:Unit,∀ g4:Nat,Z g4 0/\(false=false)/\(false=false)/\(false=false)/\(false=false)/\(false=false)/\(false=false)/\(false=false)/\(false=false)/\(false=false)/\(false=false)/\(false=false)/\(false=false)/\Pk false false true/\Br (false&&false) (False) (True/\Z g 0/\Br (o5 (((gs.map aM).length:Nat):Int) 0) (Q (.tup []) (.tup [])/\Qr g (fH gs b) g v1) ((∃ z:List l9×l9,gs=z.1++[z.2])/\∀ z:List l9×l9,(gs=z.1++[z.2])->(fun (v4:List V) (v3 v2:V)=>((.agg [.own 3 (gs.map aM) gr fr cr,bV b]:V)=.agg [.own 3 (z.1.map aM++[v2]) gr fr cr,bV b])/\True/\Z g 0/\True/\Z g 0/\m6 ((((z.1.map aM++[v2]).length:Nat):Int)-1)/\Q (iV ((((z.1.map aM++[v2]).length:Nat):Int)-1)) (iN z.1.length)/\In (z.1.length:Int) ((z.1.map aM++[v2]).length)/\((∃ td,Tryz.prog.underlying 248=some td/\∀ i,td≠.interface i)/\((252:Nat)≠248)/\(∃ y,(.agg [sV []]:V).val? =some y/\∀ w,(zeroValue 248).run Tryz.prog w=.ok y w))/\∀ _:Unit,Br false (False) (((∃ td,Tryz.prog.underlying 250=some td/\∀ i,td≠.interface i)/\((252:Nat)≠250)/\(∃ y,(.agg [.agg [bV false,sV []]]:V).val? =some y/\∀ w,(zeroValue 250).run Tryz.prog w=.ok y w))/\∀ _:Unit,Br false (False) (((∃ td,Tryz.prog.underlying 252=some td/\∀ i,td≠.interface i)/\((252:Nat)=252)/\((.agg #[.int .i64 (v:Int)]:Value)=.agg #[.int .i64 (v:Int)]))/\∀ _:Unit,Br true (∀ g9:Nat,Z g9 0/\True/\Z g 1/\Z g9 0/\True/\(V.at g 0 (fG (.own 3 (z.1.map aM++[v2]) gr fr cr)) [0,0+z.1.length,2]=some (gr,(fr+(0+z.1.length)*3+2),iN z.2.wa))/\(V.set (fG (.own 3 (z.1.map aM++[v2]) gr fr cr)) [0,0+z.1.length,2] (iN v)=fG v3)/\((fG v3:V)=.agg [.own 3 v4 gr fr cr,bV true])/\Q (.tup []) (.tup [])/\Qr g (.agg [.ow 3 v4,bV true]) g v1) (Q (.tup []) (.tup [])/\Qr g (.agg [.ow 3 (z.1.map aM++[v2]),bV b]) g v1)))) ((z.1++[(⟨z.2.na,z.2.ru,v⟩:l9)]).map aM) (.own 3 (z.1.map aM++[(iQ z.2.na z.2.ru v:V)]) gr fr cr) (fQ z.2:V))))) (fH ((nf gs b v).1) ((nf gs b v).2))) ?_
 intro gr fr cr;refine⟨⟨⟨_,Tryz.underlying248,Zdq⟩,Zaf,_,rfl,Tryz.zeroValue248⟩,fun _=>fun g4=>mD (gN (bI (fun j8=>?_) fun j8=>?_))⟩
 · all_goals (first | exact absurd j8 Zaf | simp_all)
 · refine bb (bI (fun l5=>?_) fun l5=>?_);refine⟨?_,by rw[show nf gs b v=(gs,b) from if_pos (Za5 Zac)]⟩;rfl
   · refine⟨jX (iF Zac),fun z hz=>?_⟩;have SZ:=hn z.2 (by rw[hz];simp);have Vt:gs.length=z.1.length+1:=by rw[hz];simp
     refine⟨Zdr,eQ ⟨Zds,ak ⟨⟨⟨_,Tryz.underlying248,Zdq⟩,Zaf,_,rfl,Tryz.zeroValue248⟩,?_⟩⟩⟩;intro _;refine bI (fun m8=>?_) fun m8=>?_
     · all_goals (first | exact absurd m8 Zaf | simp_all)
     · refine⟨⟨⟨_,Tryz.underlying250,Zdq⟩,Zaf,_,rfl,Tryz.zeroValue250⟩,fun _=>bI (fun y9=>?_) fun y9=>?_⟩
       · all_goals (first | exact absurd y9 Zaf | simp_all)
       · refine⟨⟨⟨_,Tryz.underlying252,Zdq⟩,ao⟩,fun _=>bI (fun E4=>?_) fun E4=>?_⟩;intro g9;refine eQ ⟨Zdt,Zdu,Zdv,⟨?_,by rw[show nf gs b v=(z.1++[⟨z.2.na,z.2.ru,v⟩],true) from by rw[nf,if_neg (by rintro h;simp_all),hz,ez]]⟩⟩;rfl
         · all_goals (first | exact absurd E4 Zaf | simp_all)
def Ge(c:UInt8):Bool:=decide (48<=c.toNat/\c.toNat<=57)
theorem CY(s:BL):s.all (fun c=>decide (48<=c.toNat/\c.toNat<=57))=s.all Ge:=rfl
abbrev jr(s:BL)(i:Nat)(q:Int):Prop:=i<=s.length/\q=((s.take i).foldl (iy 20) 0)/\(0<=q/\q<=20)/\∀ j,j<i->Ge (s.getD j 0)=true
def xA(s:BL):aC:=.mk 225 [sV s] [] (s.length<=1000000) (iV (eV s 20)) [] (by
 intro hs
 refine au Tryz.func225
  (.l7 3<|.loop (Nat×Int) (fun (i,q)=>⟨[(0,sV s),(3,iV q),(4,iN i)],[]⟩) (fun (i,q)=>jr s i q) (fun (i,q)=>s.length-i) (fun (i,q)=>.q 4<|.br (.q 10<|.br (.q 1<|.nil) (.q 8<|.mm<|.q 1<|.q 3<|.nil)) (.q 2<|.nil)))
  ((∃ x:Nat×Int,match x with | (j6,A4)=>(jr s j6 A4)/\E (sV s)/\Q (iN 0) (iV A4)/\Q (iN 0) (iN j6)/\True)/\∀ x:Nat×Int,match x with | (i,q)=>(jr s i q)->(fun v1:Int=>Br (s4 (i:Int) (s.length:Int)) (Ix (i:Int) s/\Gd ((s4 v1 48)==false) (Ix (i:Int) s)/\Pk (s4 v1 48) true ((s4 v1 48)==false)/\Br ((s4 v1 48)||(s9 v1 57)) (Q (iN 0) (iV (eV s 20))) (m6 (q*10)/\Ix (i:Int) s/\R9 (v1-48)/\m6 (v1-48)/\m6 ((q*10)+(v1-48))/\(IntKind.i64=IntKind.i64)/\m6 ((i:Int)+1)/\∃ x:Nat×Int,match x with | (b9,r3)=>(jr s b9 r3)/\(s.length-b9<s.length-i)/\E (sV s)/\Q (iV (min ((q*10)+(v1-48)) 20)) (iV r3)/\Q (iN (i+1)) (iN b9)/\True)) (Q (iV q) (iV (eV s 20)))) (((s.getD i 0).toNat:Nat):Int)) ?_
 refine⟨⟨(0,0),?_,rfl,Zah,ao⟩,?_⟩;unfold jr;simp;rintro⟨i,q⟩ ⟨h1,h2,h3,h4⟩;have hci:=(s.getD i 0).toNat_lt;refine bI (fun j8=>?_) fun j8=>?_;refine bm (bI (fun l5=>?_) fun l5=>?_);rw[show eV s 20=0 from if_neg (by rw[CY,all_false (i:=i) (d:=0) Zac (by unfold Ge;rw[decide_eq_false_iff_not];omega)];decide)];rfl;refine bb ⟨Zcb,Zcb,Zcb,bb ⟨(i+1,min ((q*10)+((((s.getD i 0).toNat:Nat):Int)-48)) 20),?_,?_,ao⟩⟩;unfold jr;refine⟨Zac,?_,ak (bh h4 (by unfold Ge;rw[Zbk];omega))⟩;rw[foldl_succ (d:=0) Zac,<- h2,iy];exact Zak;rw[show eV s 20=s.foldl (iy 20) 0 from if_pos (by rw[CY];exact all_true (d:=0) (fun j hj=>h4 j Zac)),h2,Zaz Zac])
abbrev fZ(t:BL):V:=.tup [.lit (Fc (fV (ab 32 t).1 (ab 32 t).2.1)),bV (iW (ab 32 t).1 (ab 32 t).2.1)]
def xI(t:BL):aC:=.mk 210 [sV t] [] (t.length<=1000000) (fZ t) [] (by
 intro ht;have Qj:=mh 32 t
 refine au Tryz.func210
  (.q 2<|.q 1<|.c (pI t 32) []<|.q 7<|.q 1<|.q 2<|.br (.q 1<|.bd nV<|.cu miC (fun _=>.q 1<|.c (sH ((ab 32 t).2.1)) []<|.q 2<|.nil)) (.q 2<|.join (Bool) (fun c=>⟨[(0,sV t),(2,.lit .nilIface),(3,bV false),(8,sV t),(9,.tup [sV ((ab 32 t).1),sV ((ab 32 t).2.1),bV ((ab 32 t).2.2)]),(7,.tup [sV ((ab 32 t).1),sV ((ab 32 t).2.1),bV ((ab 32 t).2.2)]),(10,sV ((ab 32 t).1)),(11,sV ((ab 32 t).2.1)),(12,bV ((ab 32 t).2.2)),(4,sV ((ab 32 t).1)),(5,sV ((ab 32 t).2.1)),(6,bV ((ab 32 t).2.2)),(13,sV ((ab 32 t).1)),(15,bV (((ab 32 t).1)==([99,97,108,108,101,114]:BL))),(14,bV (((ab 32 t).1)==([99,97,108,108,101,114]:BL))),(22,bV (((ab 32 t).1)==([108,101,116]:BL))),(21,bV c)],[]⟩) (fun c=>c=decide ((ab 32 t).1=[108,101,116]\/(ab 32 t).1=[98,97,114])) (.nil) (.q 2<|.nil) (fun c=>.br (.q 3<|.bd rL<|.bd Ei<|.cu miC (fun _=>.q 1<|.c (lx ((ab 32 t).2.1)) []<|.q 2<|.nil)) (.q 2<|.br (.q 1<|.c (xA ((ab 32 t).2.1)) []<|.bd KO<|.cu miC (fun _=>.q 2<|.nil)) (.q 2<|.nil)))))
  ((fun (v5 v4 v1:V) (v3 v2:BL)=>((pI t 32).sm/\((t.length<=1000000))/\Br (((ab 32 t).1)==v3) (((∃ td,Tryz.prog.underlying 248=some td/\∀ i,td≠.interface i)/\(Value.iface 248 (.agg #[.string (Str ((ab 32 t).2.1))])).oneCell'=true)/\∀ _:Unit,(sH ((ab 32 t).2.1)).sm/\((((ab 32 t).2.1).length<=4611686018427387904))/\Q (.tup [.lit (.iface 248 (.agg #[.string (Str ((ab 32 t).2.1))])),bV ((((ab 32 t).2.1)==[42])||cC ((ab 32 t).2.1))]) (fZ t)) (((((ab 32 t).1)==v2)=true->∃ c:Bool,(c=decide ((ab 32 t).1=[108,101,116]\/(ab 32 t).1=[98,97,114]))/\E (sV t)/\E (.lit .nilIface)/\E (bV false)/\E (sV t)/\E v1/\E v1/\E v4/\E v5/\E (bV ((ab 32 t).2.2))/\E v4/\E v5/\E (bV ((ab 32 t).2.2))/\E v4/\E (bV (((ab 32 t).1)==v3))/\E (bV (((ab 32 t).1)==v3))/\E (bV (((ab 32 t).1)==v2))/\Q (bV (((ab 32 t).1)==v2)) (bV c)/\True)/\((((ab 32 t).1)==v2)=false->∃ c:Bool,(c=decide ((ab 32 t).1=[108,101,116]\/(ab 32 t).1=[98,97,114]))/\E (sV t)/\E (.lit .nilIface)/\E (bV false)/\E (sV t)/\E v1/\E v1/\E v4/\E v5/\E (bV ((ab 32 t).2.2))/\E v4/\E v5/\E (bV ((ab 32 t).2.2))/\E v4/\E (bV (((ab 32 t).1)==v3))/\E (bV (((ab 32 t).1)==v3))/\E (bV (((ab 32 t).1)==v2))/\Q (bV (((ab 32 t).1)==([98,97,114]:BL))) (bV c)/\True)/\(∀ c:Bool,(c=decide ((ab 32 t).1=[108,101,116]\/(ab 32 t).1=[98,97,114]))->Br c (((∃ td,Tryz.prog.underlying 250=some td/\∀ i,td≠.interface i)/\(Value.iface 250 (.agg #[.bool (((ab 32 t).1)==v2),.string (Str ((ab 32 t).2.1))])).oneCell'=true)/\∀ _:Unit,(lx ((ab 32 t).2.1)).sm/\((((ab 32 t).2.1).length<=4611686018427387904))/\Q (.tup [.lit (.iface 250 (.agg #[.bool (((ab 32 t).1)==v2),.string (Str ((ab 32 t).2.1))])),bV (eB ((ab 32 t).2.1))]) (fZ t)) (Br (((ab 32 t).1)==([119,97,105,116]:BL)) ((xA ((ab 32 t).2.1)).sm/\((((ab 32 t).2.1).length<=1000000))/\((∃ td,Tryz.prog.underlying 252=some td/\∀ i,td≠.interface i)/\(Value.iface 252 (.agg #[.int .i64 (eV ((ab 32 t).2.1) 20)])).oneCell'=true)/\∀ _:Unit,Q (.tup [.lit (.iface 252 (.agg #[.int .i64 (eV ((ab 32 t).2.1) 20)])),bV true]) (fZ t)) (Q (.tup [.lit .nilIface,bV false]) (fZ t))))))) (sV ((ab 32 t).2.1)) (sV ((ab 32 t).1)) (.tup [sV ((ab 32 t).1),sV ((ab 32 t).2.1),bV ((ab 32 t).2.2)]) ([99,97,108,108,101,114]:BL) ([108,101,116]:BL)) ?_
 refine bb (bI (fun j8=>?_) fun j8=>?_);refine⟨⟨⟨_,Tryz.underlying248,Zdq⟩,rfl⟩,fun _=>bb ?_⟩;unfold Q fZ;rw[show fV (ab 32 t).1 (ab 32 t).2.1=.caller (ab 32 t).2.1 from if_pos j8,show iW (ab 32 t).1 (ab 32 t).2.1=_ from if_pos j8];rfl
 · refine⟨fun l5=>?_,fun l5=>?_,fun c hc=>?_⟩
   · try simp only[nb]at l5
     exact⟨((ab 32 t).1)==([108,101,116]:BL),Zdm,rfl,rfl,rfl,rfl,rfl,rfl,rfl,rfl,rfl,rfl,rfl,rfl,rfl,rfl,rfl,rfl,rfl,trivial⟩
   · try simp only[nb]at l5
     exact⟨((ab 32 t).1)==([98,97,114]:BL),Zdm,rfl,rfl,rfl,rfl,rfl,rfl,rfl,rfl,rfl,rfl,rfl,rfl,rfl,rfl,rfl,rfl,rfl,trivial⟩
   refine bI (fun m8=>?_) fun m8=>?_;refine⟨⟨⟨_,Tryz.underlying250,Zdq⟩,rfl⟩,fun _=>bb ?_⟩;unfold Q fZ;have h2:(ab 32 t).1=[108,101,116]\/(ab 32 t).1=[98,97,114]:=by grind
   rw[show fV (ab 32 t).1 (ab 32 t).2.1=.SV ((ab 32 t).1==[108,101,116]) (ab 32 t).2.1 from by rw[fV,if_neg j8,if_pos h2],show iW (ab 32 t).1 (ab 32 t).2.1=aY (ab 32 t).2.1 from by rw[iW,if_neg j8,if_pos h2],qK];rfl;refine bI (fun y9=>?_) fun y9=>?_;refine⟨rfl,Zac,⟨⟨_,Tryz.underlying252,Zdq⟩,rfl⟩,fun _=>?_⟩;unfold Q fZ;have h2: ¬ ((ab 32 t).1=[108,101,116]\/(ab 32 t).1=[98,97,114]):=by grind
   rw[show fV (ab 32 t).1 (ab 32 t).2.1=.wait (eV (ab 32 t).2.1 20).toNat from by rw[fV,if_neg j8,if_neg h2,if_pos y9],show iW (ab 32 t).1 (ab 32 t).2.1=true from by rw[iW,if_neg j8,if_neg h2,if_pos y9]];show V.tup [.lit (.iface 252 (.agg #[.int .i64 (eV (ab 32 t).2.1 20)])),_]=V.tup [.lit (.iface 252 (.agg #[.int .i64 (((eV (ab 32 t).2.1 20).toNat:Nat):Int)])),_];rw[Int.toNat_of_nonneg (CZ Zac)];unfold Q fZ;have h2: ¬ ((ab 32 t).1=[108,101,116]\/(ab 32 t).1=[98,97,114]):=by grind
   rw[show fV (ab 32 t).1 (ab 32 t).2.1=.none from by rw[fV,if_neg j8,if_neg h2,if_neg y9],show iW (ab 32 t).1 (ab 32 t).2.1=false from by rw[iW,if_neg j8,if_neg h2,if_neg y9]];rfl)
theorem Lu{w r:BL}(h:iW w r=true):fV w r≠.none:=by
 unfold iW at h;unfold fV;split at h;rename_i h1;rw[if_pos h1];intro c;cases c;rename_i h1;rw[if_neg h1];split at h;rename_i h2;rw[if_pos h2];intro c;cases c;rename_i h2;rw[if_neg h2];split at h;rename_i h3;rw[if_pos h3];intro c;cases c;cases h
theorem IQ(gs:List l9)(b:Bool)(g:Nat)(l:Ln)(hg:gs.length<=1000)(hn:∀ y,y∈gs->y.na.length<=1000/\y.ru.length<=6)(hl:l≠.none):
 PF Tryz.prog 211 [.ptr (.key 1000) [] g 0,.lit (Fc l)] [(1000,(g,.agg [.ow 3 (gs.map aM),bV b]))] (fun r h=>r=.tup []/\h=[(1000,(g,.agg [.ow 3 ((ie gs b l).1.map aM),bV (ie gs b l).2]))]):=by
 cases l with
 | none=>exact absurd rfl hl
 | caller n=>exact JX gs b g n hg hn
 | SV q p=>exact JI gs b g q p hg hn
 | wait v=>exact Ic gs b g v hg hn
def CV(gs:List l9)(b:Bool)(g:Nat)(l:Ln):aC:={ f:=211,args:=[kp 1000 g,.lit (Fc l)],H:=[(1000,(g,fH gs b))],pre:=(gs.length<=1000)/\(∀ y,y∈gs->y.na.length<=1000/\y.ru.length<=6)/\(l≠.none),res:=.tup [],H':=[(1000,(g,.agg [.ow 3 ((ie gs b l).1.map aM),bV (ie gs b l).2]))],ok:=fun h=>IQ gs b g l h.1 h.2.1 h.2.2 }
theorem Ka{n:Nat}{gs:List l9}{b:Bool}(h:Pc n gs)(l:BL):Pc (n+1) (nX (gs,b) l).1:=by
 unfold nX;split;have hl:∀ z,gs.getLast? =some z->z.na.length<=n/\z.ru.length<=6:=fun z hz=>h.each z (List.mem_of_getLast? hz);cases fV (ab 32 l).1 (ab 32 l).2.1 with
 | none=>exact h.mono Zac
 | caller q=>
   simp only[ie,mY];split;refine⟨by have:=h.len;simp;omega,fun y hy=>?_⟩;rcases Zax.1 hy with hy | hy;have:=h.each y hy;exact⟨Zac,this.2⟩;rw[Zav.1 hy];simp;exact h.set fun z hz=>⟨by have:=hl z hz;simp;omega,(hl z hz).2⟩
 | SV q p=>
   simp only[ie,jW];split;exact h.mono Zac;split;rename_i h6;refine h.set fun z hz=>⟨Zb5,?_⟩;unfold ji at h6;rw[hz]at h6;simp only at h6;simp only[Zap,Zar,Zau];omega;exact h.mono Zac
 | wait v=>
   simp only[ie,nf];split;exact h.mono Zac;exact h.set fun z hz=>⟨Zb5,(hl z hz).2⟩
 exact h.mono Zac
abbrev eY(t:BL)(i:Nat)(gs:List l9)(b:Bool):Prop:=i<=(ag 10 t).length/\i<=40/\Pc i gs/\((ag 10 t).take i).foldl nX ([],false)=(gs,b)
def sJ(t:BL):aC:=.mk 185 [sV t] [] (t.length<=1000000) (.ow 3 ((bR t).map aM)) [] (by
 intro ht
 refine au Tryz.func185
  (.q 1<|.al Ot (fun g3=>.q 1<|.c (sj t 10) []<|.q 2<|.h (.B9 (.key 3) [0] 3)<|.loop (Nat×(List l9)×Bool) (fun (i,gs,b)=>⟨[(0,sV t),(3,kp 3 g3),(9,.sl true ((ag 10 t).map sV)),(10,iN ((ag 10 t).length)),(11,iN i)],[(3,(g3,fH gs b))]⟩) (fun (i,gs,b)=>eY t i gs b) (fun (i,gs,b)=>(ag 10 t).length-i) (fun (i,gs,b)=>.q 1<|.br (.r 5 [sV ((ag 10 t).getD i [])]<|.q 2<|.br (.q 1<|.mv<|.q 1<|.nil) (.q 1<|.c (xI ((ag 10 t).getD i [])) []<|.q 5<|.q 1<|.br (.q 1<|.c (CV gs b g3 (fV (ab 32 ((ag 10 t).getD i [])).1 (ab 32 ((ag 10 t).getD i [])).2.1)) [(1000,3)]<|.q 2<|.nil) (.q 2<|.nil))) (.q 1<|.mv<|.q 1<|.nil))))
  ((fun v1:List V=>(∀ g3:Nat,(sj t 10).sm/\((t.length<=1000000))/\(∃ x:Nat×(List l9)×Bool,match x with | (j6,SF,I')=>(eY t j6 SF I')/\E (sV t)/\E (kp 3 g3)/\E (.sl true v1)/\Q (iN (v1.length)) (iN ((ag 10 t).length))/\Q (iN 0) (iN j6)/\Qr g3 (.agg [.ow 3 ([].map aM),bV false]) g3 (fH SF I')/\True)/\∀ x:Nat×(List l9)×Bool,match x with | (i,gs,b)=>(eY t i gs b)->Br (s4 (i:Int) (((ag 10 t).length:Nat):Int)) (Ex (i:Int) v1 (sV ((ag 10 t).getD i []))/\True/\Br (o5 (i:Int) 40) (Z g3 0/\Q (.ow 3 (gs.map aM)) (.ow 3 ((bR t).map aM))) ((xI ((ag 10 t).getD i [])).sm/\((((ag 10 t).getD i []).length<=1000000))/\Br (iW (ab 32 ((ag 10 t).getD i [])).1 (ab 32 ((ag 10 t).getD i [])).2.1) ((CV gs b g3 (fV (ab 32 ((ag 10 t).getD i [])).1 (ab 32 ((ag 10 t).getD i [])).2.1)).sm/\Er g3 (fH gs b)/\((gs.length<=1000)/\(∀ y,y∈gs->y.na.length<=1000/\y.ru.length<=6)/\((fV (ab 32 ((ag 10 t).getD i [])).1 (ab 32 ((ag 10 t).getD i [])).2.1)≠.none))/\m6 ((i:Int)+1)/\∃ x:Nat×(List l9)×Bool,match x with | (b9,QF,z8)=>(eY t b9 QF z8)/\((ag 10 t).length-b9<(ag 10 t).length-i)/\E (sV t)/\E (kp 3 g3)/\E (.sl true v1)/\E (iN ((ag 10 t).length))/\Q (iN (i+1)) (iN b9)/\Qr g3 (fH ((ie gs b (fV (ab 32 ((ag 10 t).getD i [])).1 (ab 32 ((ag 10 t).getD i [])).2.1)).1) ((ie gs b (fV (ab 32 ((ag 10 t).getD i [])).1 (ab 32 ((ag 10 t).getD i [])).2.1)).2)) g3 (fH QF z8)/\True) (m6 ((i:Int)+1)/\∃ x:Nat×(List l9)×Bool,match x with | (b9,QF,z8)=>(eY t b9 QF z8)/\((ag 10 t).length-b9<(ag 10 t).length-i)/\E (sV t)/\E (kp 3 g3)/\E (.sl true v1)/\E (iN ((ag 10 t).length))/\Q (iN (i+1)) (iN b9)/\Qr g3 (fH gs b) g3 (fH QF z8)/\True))) (Z g3 0/\Q (.ow 3 (gs.map aM)) (.ow 3 ((bR t).map aM))))) ((ag 10 t).map sV)) ?_
 intro g3;refine bb ⟨⟨(0,[],false),?_,rfl,rfl,rfl,Zah,ao⟩,?_⟩;unfold eY;exact⟨Zac,Zac,⟨Zad,Zad⟩,rfl⟩;rintro⟨i,gs,b⟩ ⟨h1,h2,h3,h4⟩;refine bI (fun j8=>?_) fun j8=>?_;refine⟨Zcf,ak (bI (fun l5=>?_) fun l5=>?_)⟩;refine⟨rfl,?_⟩;rw[show bR t=gs from by rw[<- zx,BZ h1 h2 (fun _=>by omega),h4]];refine⟨rfl,by have:=iE 10 t i;omega,bI (fun m8=>?_) fun m8=>?_⟩;refine⟨rfl,rfl,⟨by have:=h3.len;omega,fun y hy=>by have:=h3.each y hy;omega,Lu m8⟩,ak ⟨(i+1,(ie gs b (fV (ab 32 ((ag 10 t).getD i [])).1 (ab 32 ((ag 10 t).getD i [])).2.1)).1,(ie gs b (fV (ab 32 ((ag 10 t).getD i [])).1 (ab 32 ((ag 10 t).getD i [])).2.1)).2),?_,?_,ao⟩⟩;unfold eY;have D4:nX (gs,b) ((ag 10 t).getD i [])=ie gs b (fV (ab 32 ((ag 10 t).getD i [])).1 (ab 32 ((ag 10 t).getD i [])).2.1):=if_pos m8;refine bb ⟨?_,?_⟩;rw[<- D4];exact Ka h3 _;rw[foldl_succ (d:=[]) Zac,h4,D4];exact Zak;refine ak ⟨(i+1,gs,b),?_,?_,ao⟩;unfold eY;have D4:nX (gs,b) ((ag 10 t).getD i [])=(gs,b):=if_neg (by rw[m8];decide);refine bb ⟨h3.mono Zac,?_⟩;rw[foldl_succ (d:=[]) Zac,h4,D4];exact Zak;refine⟨rfl,?_⟩;rw[show bR t=gs from by rw[<- zx,BZ h1 h2 (fun h=>by omega),h4]])
theorem Kj{gs:List l9}{a:BL}{i:Nat}(h:i<gs.length):(gs.map fun y=>y.na.contains a).getD i false=(gs.getD i ⟨[],[],0⟩).na.contains a:=by
 rw[Zam,Zam,List.getElem?_map,Zat h];rfl
def Ab(y:l9)(a:BL)(u:Nat):aC:=.mk 208 [cI y,kp 1000 u] [(1000,(u,sV a))] (y.na.length<=1000000) (bV (y.na.contains a)) [(1000,(u,sV a))] (by
 intro hy
 refine au Tryz.func208
  (.bx (fun g2=>.q 1<|.r 3 [.c9,.c9]<|.c (uL y.na a) []<|.q 1<|.nil))
  (∀ g2:Nat,Z g2 0/\Z u 0/\(uL y.na a).sm/\((y.na.length<=1000000))/\Q (bV (y.na.contains a)) (bV (y.na.contains a))/\Er u (sV a)) ?_
 intro g2;refine df ⟨?_,rfl⟩;rfl)
def DG(gs:List l9)(a:BL)(u:Nat):aC:=.mk 223 [bB gs,.lit (.func (.func 208) #[] #[.pointer (some ⟨u,0,none⟩)])] [(1000,(u,sV a))] ((gs.length<=1000000)/\(∀ i,(gs.getD i ⟨[],[],0⟩).na.length<=1000000)) (iV (ff (gs.map fun y=>y.na.contains a) true)) [(1000,(u,sV a))] (by
 rintro⟨hg,hn⟩
 refine au Tryz.func223
  (.q 1<|.q 3<|.loop Nat (fun i=>⟨[(0,bB gs),(1,.lit (.func (.func 208) #[] #[.pointer (some ⟨u,0,none⟩)])),(6,bB gs),(7,iN gs.length),(8,iN i)],[(1000,(u,sV a))]⟩) (fun i=>i<=gs.length/\∀ j,j<i->((gs.getD j ⟨[],[],0⟩).na.contains a)=false) (fun i=>gs.length-i) (fun i=>.q 1<|.br (.q 2<|.r 5 [cI (gs.getD i (⟨[],[],0⟩:l9))]<|.c (Ab (gs.getD i (⟨[],[],0⟩:l9)) a u) [(1000,1000)]<|.br (.q 2<|.nil) (.q 2<|.nil)) (.q 1<|.nil)))
  ((fun (v3:l9) (v2:V) (v1:Nat->Prop)=>((∃ j6:Nat,(v1 j6)/\E (bB gs)/\E v2/\E (bB gs)/\Q (iN ((gs.map cB).length)) (iN gs.length)/\Q (iN 0) (iN j6)/\Er u (sV a)/\True)/\∀ i:Nat,(v1 i)->Br (s4 (i:Int) (gs.length:Int)) (Ex (i:Int) (gs.map cB) (cI (gs.getD i v3))/\True/\(Ab (gs.getD i v3) a u).sm/\Er u (sV a)/\(((gs.getD i v3).na.length<=1000000))/\Br ((gs.getD i v3).na.contains a) (Q (iN i) (iV (ff (gs.map fun y=>y.na.contains a) true))/\Er u (sV a)) (m6 ((i:Int)+1)/\∃ b9:Nat,(v1 b9)/\(gs.length-b9<gs.length-i)/\E (bB gs)/\E v2/\E (bB gs)/\E (iN gs.length)/\Q (iN (i+1)) (iN b9)/\Er u (sV a)/\True)) (Q (iV (-1)) (iV (ff (gs.map fun y=>y.na.contains a) true))/\Er u (sV a)))) (⟨[],[],0⟩:l9) (.lit (.func (.func 208) #[] #[.pointer (some ⟨u,0,none⟩)])) (fun j6:Nat=>j6<=gs.length/\∀ j,j<j6->((gs.getD j ⟨[],[],0⟩).na.contains a)=false)) ?_
 refine⟨⟨0,?_,rfl,rfl,rfl,Zah,ao⟩,?_⟩;simp;rintro i ⟨h1,h2⟩;have hni:=hn i;refine bI (fun j8=>?_) fun j8=>?_;refine⟨Zc3,bm ⟨hn i,bI (fun l5=>?_) fun l5=>?_⟩⟩;refine⟨?_,rfl⟩;rw[rR (i:=i) (by rw[Zay];omega) (by rw[Kj Zac];exact l5) (fun j hj=>by rw[Kj Zac];rw[h2 j hj];decide)];refine ak ⟨i+1,?_,?_,ao⟩;exact⟨Zac,bh h2 l5⟩;exact Zak;refine⟨?_,rfl⟩;rw[qe (fun j hj=>by rw[Zay]at hj;rw[Kj hj];rw[h2 j Zac];decide)])
def DC(gs:List l9)(a:BL)(u:Nat):aC:=.mk 209 [bB gs,.lit (.func (.func 208) #[] #[.pointer (some ⟨u,0,none⟩)])] [(1000,(u,sV a))] ((gs.length<=1000000)/\(∀ i,(gs.getD i ⟨[],[],0⟩).na.length<=1000000)) (bV (gs.any fun y=>y.na.contains a)) [(1000,(u,sV a))] (by
 rintro⟨hg,hn⟩
 refine au Tryz.func209
  (.q 1<|.q 2<|.c (DG gs a u) [(1000,1000)]<|.q 2<|.nil)
  ((DG gs a u).sm/\Er u (sV a)/\((gs.length<=1000000)/\(∀ i,(gs.getD i ⟨[],[],0⟩).na.length<=1000000))/\Q (bV (D0 (ff (gs.map fun y=>y.na.contains a) true) 0)) (bV (gs.any fun y=>y.na.contains a))/\Er u (sV a)) ?_
 refine bm ⟨?_,rfl⟩;unfold Q;refine Zbm bV ?_;show decide (ff (gs.map fun y=>y.na.contains a) true>=0)=_;rw[show decide (ff (gs.map fun y=>y.na.contains a) true>=0)=(gs.map fun y=>y.na.contains a).contains true from rB _ _];rw[Za6];simp)
def Aj(a:BL):fO:=.mk Nat 207 [sV a] [] True (fun x=>True) (fun x=>.lit (.func (.func 208) #[] #[.pointer (some ⟨x,0,none⟩)])) (fun x=>[(1000,(x,sV a))]) (by
 intro _
 refine ug (N:=4) (rs:=[.tmp 2]) (X:=Nat) (post:=fun x=>True) (E:=fun x=>.lit (.func (.func 208) #[] #[.pointer (some ⟨x,0,none⟩)])) (H':=fun x=>[(1000,(x,sV a))]) Tryz.func207 Zae rfl rfl rfl Zae [(1000,(0,.c9))] Zcs
  (.bx (fun g1=>.q 1<|.cu Wh (fun _=>.q 1<|.h (.rk 1 1000)<|.nil)))
  (∀ g1:Nat,((Value.func (.func 208) #[] #[.pointer (some ⟨g1,0,none⟩)]).oneCell'=true)/\∀ _:Unit,∃ x:Nat,(True)/\Q (.lit (.func (.func 208) #[] #[.pointer (some ⟨g1,0,none⟩)])) (.lit (.func (.func 208) #[] #[.pointer (some ⟨x,0,none⟩)]))/\Qr g1 (sV a) x (sV a))
  Zae ?_
 intro g1;refine⟨rfl,fun _=>⟨g1,?_,?_,?_⟩⟩
 · try dsimp only
   all_goals trivial
 exact Zaa;first | rfl | exact⟨rfl,rfl⟩ | simp_all)
abbrev ph(gs:List l9)(n:BL):V:=fv (.sl false ([n].map sV)) ((eC gs n).ru) ((eC gs n).wa)
def lP(gs:List l9)(n:BL):aC:=.mk 184 [bB gs,sV n] [] ((gs.length<=1000)/\(∀ i,(gs.getD i ⟨[],[],0⟩).ru.length<=100)/\(∀ i,(gs.getD i ⟨[],[],0⟩).na.length<=1000000)) (ph gs n) [] (by
 rintro⟨hg,hr,ha⟩
 refine au Tryz.func184
  (.al fT (fun g4=>.q 1<|.q 2<|.q 3<|.cx (Aj n) [(1000,14)] (fun (m0:Nat)=>.c (DC gs n m0) [(1000,14)]<|.q 1<|.join BL (fun d=>⟨[(0,bB gs),(1,sV n),(4,kp 4 g4),(5,.lit (.func (.func 207) #[] #[])),(10,sV n),(11,bB gs),(12,.lit (.func (.func 207) #[] #[])),(13,sV n),(14,.lit (.func (.func 208) #[] #[.pointer (some ⟨m0,0,none⟩)])),(15,bV (gs.any fun y=>y.na.contains n)),(16,bV (!(gs.any fun y=>y.na.contains n))),(6,sV d)],[(4,(g4,.agg [.sl true [],.sl true [],iN 0])),(14,(m0,sV n))]⟩) (fun d=>d=lB gs n) (.q 1<|.nil) (.nil) (fun d=>.q 1<|.bs<|.bd fT<|.al fT (fun g7=>.st none<|.q 3<|.h (.B9 (.key 7) [1] 2)<|.loop (Nat×(List s5)×Nat×Nat×Nat×Nat) (fun (i,e,q,u,f,k)=>⟨[(4,kp 4 g4),(5,.lit (.func (.func 207) #[] #[])),(6,sV d),(7,kp 7 g7),(20,bB gs),(21,iN gs.length),(22,iN i)],[(4,(g4,.agg [.sl true [],.sl true [],iN 0])),(7,(g7,gg (.sl true [sV n]) e u f k q))]⟩) (fun (i,e,q,u,f,k)=>i<=gs.length/\((gs.take i).foldl (du d) (([],0),false)).1=(e,q)/\e.length<=100*i) (fun (i,e,q,u,f,k)=>gs.length-i) (fun (i,e,q,u,f,k)=>.q 1<|.br (.r 2 [cI (gs.getD i (⟨[],[],0⟩:l9))]<|.al fT (fun g9=>.st none<|.dx 4 [0,1,3,2] [(3,m5 [9] [29]),(2,⟨true,[],some [28],[28],[28]⟩)] []<|.l7 2<|.n9<|.cx (Aj d) [(1000,28)] (fun (Ue:Nat)=>.c (Ab (gs.getD i (⟨[],[],0⟩:l9)) d Ue) [(1000,28)]<|.br (.r 4 [.c9,.c9]<|.ap (fun Rx Rq Rz=>.h (.n8 35 (.own 2 ((e++((gs.getD i (⟨[],[],0⟩:l9)).ru)).map av) Rx Rq Rz))<|.q 1<|.st none<|.r 4 [.c9,.c9]<|.mm<|.q 1<|.st none<|.h (.r4 7 (gg (.sl true [sV n]) (e++((gs.getD i (⟨[],[],0⟩:l9)).ru)) Rx Rq Rz (max q (gs.getD i ⟨[],[],0⟩).wa)))<|.q 2<|.nil)) (.q 2<|.nil)))) (.mv<|.h (.fz 44)<|.h (.n8 44 (fv (.sl true [sV n]) e q))<|.st none<|.nil)))))))
  ((fun (v5 v3 v2:V) (v4:Bool) (v1:l9)=>(∀ g4:Nat,(fun v6:V=>(Aj n).sm/\(True)/\∀ m0:Nat,(True)->(fun v7:V=>(DC gs n m0).sm/\Er m0 (sV n)/\((gs.length<=1000000)/\(∀ i,(gs.getD i ⟨[],[],0⟩).na.length<=1000000))/\(v4=true->∃ d:BL,(d=lB gs n)/\E (bB gs)/\E (sV n)/\E v6/\E v2/\E (sV n)/\E (bB gs)/\E v2/\E (sV n)/\E v7/\E (bV (gs.any fun y=>y.na.contains n))/\E (bV v4)/\Q (sV ([42]:BL)) (sV d)/\Er g4 v3/\Er m0 (sV n)/\True)/\(v4=false->∃ d:BL,(d=lB gs n)/\E (bB gs)/\E (sV n)/\E v6/\E v2/\E (sV n)/\E (bB gs)/\E v2/\E (sV n)/\E v7/\E (bV (gs.any fun y=>y.na.contains n))/\E (bV v4)/\Q (sV n) (sV d)/\Er g4 v3/\Er m0 (sV n)/\True)/\(∀ d:BL,(d=lB gs n)->(fun v8:Nat->((List s5))->Nat->Nat->Nat->Nat->Prop=> ∀ g7:Nat,Z g7 0/\(∃ x:Nat×(List s5)×Nat×Nat×Nat×Nat,match x with | (j6,E0,A4,K6,B5,n6)=>(v8 j6 E0 A4 K6 B5 n6)/\E v6/\E v2/\E (sV d)/\E (kp 7 g7)/\E (bB gs)/\Q (iN ((gs.map cB).length)) (iN gs.length)/\Q (iN 0) (iN j6)/\Er g4 v3/\Qr g7 (.agg [.sl true [sV n],.own 2 ([].map av) 0 0 0,iN 0]) g7 (gg v5 E0 K6 B5 n6 A4)/\True)/\∀ x:Nat×(List s5)×Nat×Nat×Nat×Nat,match x with | (i,e,q,u,f,k)=>(v8 i e q u f k)->(fun v9:List V=>Br (s4 (i:Int) (gs.length:Int)) (Ex (i:Int) (gs.map cB) (cI (gs.getD i v1))/\True/\∀ g9:Nat,Z g9 0/\Z g9 0/\(Aj d).sm/\(True)/\∀ Ue:Nat,(True)->(Ab (gs.getD i v1) d Ue).sm/\Er Ue (sV d)/\(((gs.getD i v1).na.length<=1000000))/\Br ((gs.getD i v1).na.contains d) (Z g7 1/\Z g9 1/\((2,2,u,f,k,(e.map av).length)=(2,2,u,f,k,(e.map av).length))/\(True)/\(V.aF v9=false)/\(aW 2 v9)/\(((e.map av).length+v9.length)*24<=140737488355328)/\∀ Rx Rq Rz:Nat,((.own 2 ((e.map av)++v9) Rx Rq Rz:V)=.own 2 ((e++((gs.getD i v1).ru)).map av) Rx Rq Rz)/\Z g7 1/\Z g7 2/\Z g9 2/\(IntKind.i64=IntKind.i64)/\Z g7 2/\((.agg [.sl true [sV n],.own 2 ((e++((gs.getD i v1).ru)).map av) Rx Rq Rz,iV (max (q:Int) (((gs.getD i v1).wa:Nat):Int))]:V)=gg v5 (e++((gs.getD i v1).ru)) Rx Rq Rz (max q (gs.getD i ⟨[],[],0⟩).wa))/\m6 ((i:Int)+1)/\∃ x:Nat×(List s5)×Nat×Nat×Nat×Nat,match x with | (b9,z7,r3,D',r8,k₂)=>(v8 b9 z7 r3 D' r8 k₂)/\(gs.length-b9<gs.length-i)/\E v6/\E v2/\E (sV d)/\E (kp 7 g7)/\E (bB gs)/\E (iN gs.length)/\Q (iN (i+1)) (iN b9)/\Er g4 v3/\Qr g7 (gg v5 (e++((gs.getD i v1).ru)) Rx Rq Rz (max q (gs.getD i ⟨[],[],0⟩).wa)) g7 (gg v5 z7 D' r8 k₂ r3)/\True) (m6 ((i:Int)+1)/\∃ x:Nat×(List s5)×Nat×Nat×Nat×Nat,match x with | (b9,z7,r3,D',r8,k₂)=>(v8 b9 z7 r3 D' r8 k₂)/\(gs.length-b9<gs.length-i)/\E v6/\E v2/\E (sV d)/\E (kp 7 g7)/\E (bB gs)/\E (iN gs.length)/\Q (iN (i+1)) (iN b9)/\Er g4 v3/\Qr g7 (gg v5 e u f k q) g7 (gg v5 z7 D' r8 k₂ r3)/\True)) (Z g7 0/\((.agg [.sl true [sV n],.sl false (V.D9 (e.map av)),iN q]:V)=fv v5 e q)/\Z g4 0/\(g4=g4)/\Q (fv (.sl false [sV n]) e q) (ph gs n))) (((gs.getD i v1).ru).map av)) (fun (j6:Nat) (E0:(List s5)) (A4:Nat) (K6:Nat) (B5:Nat) (n6:Nat)=>j6<=gs.length/\((gs.take j6).foldl (du d) (([],0),false)).1=(E0,A4)/\E0.length<=100*j6))) (.lit (.func (.func 208) #[] #[.pointer (some ⟨m0,0,none⟩)]))) (kp 4 g4))) (.sl true [sV n]) (.agg [.sl true [],.sl true [],iN 0]) (.lit (.func (.func 207) #[] #[])) (!(gs.any fun y=>y.na.contains n)) (⟨[],[],0⟩:l9)) ?_
 intro g4;refine bb fun m0 Pz=>⟨rfl,rfl,ak (ha),⟨fun j8=>?_,fun j8=>?_,fun d hd=>?_⟩⟩;try simp only[nb]at j8
 exact⟨([42]:BL),by unfold lB;rw[j8];rfl,rfl,rfl,rfl,rfl,rfl,rfl,rfl,rfl,rfl,rfl,rfl,rfl,rfl,rfl,trivial⟩;try simp only[nb]at j8
 exact⟨n,by unfold lB;rw[j8];rfl,rfl,rfl,rfl,rfl,rfl,rfl,rfl,rfl,rfl,rfl,rfl,rfl,rfl,rfl,trivial⟩;intro g7;refine⟨rfl,⟨⟨(0,[],0,0,0,0),?_,eQ ⟨Zah,ao⟩⟩,?_⟩⟩;simp;rintro⟨i,e,q,u,f,k⟩ ⟨h1,h2,h3⟩;have hai:=ha i;refine bI (fun l5=>?_) fun l5=>?_;refine⟨Zc3,ak fun g9=>df fun Ue hx9_2=>⟨rfl,rfl,ha i,bI (fun m8=>?_) fun m8=>?_⟩⟩;refine df ⟨Zdi,Zdj,by(try simp only[Zay,Zar,Zau]);have:=hr i;omega,fun Rx Rq Rz=>⟨Zbm (V.own 2 · Rx Rq Rz) ((Zbb ..).symm),eQ ⟨Zbm (fun z:Int=>(.agg [.sl true [sV n],.own 2 ((e++((gs.getD i (⟨[],[],0⟩:l9)).ru)).map av) Rx Rq Rz,iV z]:V)) Zac,ak ⟨(i+1,e++((gs.getD i (⟨[],[],0⟩:l9)).ru),max q (gs.getD i ⟨[],[],0⟩).wa,Rx,Rq,Rz),?_,?_,ao⟩⟩⟩⟩;have:=hr i;refine⟨Zac,?_,by simp only[Zap];omega⟩;rw[foldl_succ (d:=⟨[],[],0⟩) Zac,BB,if_pos m8,h2];exact Zak;refine ak ⟨(i+1,e,q,u,f,k),?_,?_,ao⟩;refine⟨Zac,?_,ao⟩;rw[foldl_succ (d:=⟨[],[],0⟩) Zac,BB,if_neg (by rw[m8];decide),h2];exact Zak;refine⟨rfl,by simp only[aU (f:=av) (fun _=>rfl)],rfl,⟨rfl,?_⟩⟩;unfold Q ph;rw[Zaz Zac]at h2;have hfa:=Ee gs n;rw[hfa.1,hfa.2,<- hd,h2];rfl)
abbrev jy(w:List Pg)(d n:BL):V:=fv (.sl false ([n].map sV)) ((cq (af w (aB d) 2).1 (af w (aB d) 2).2 n).ru) ((cq (af w (aB d) 2).1 (af w (aB d) 2).2 n).wa)
def zq(w:List Pg)(d n:BL):aC:=.mk 147 [.mp (w.map L3),sV d,sV n] [] ((d.length<=1000)/\((af w (aB d) 2).2.length<=1000000)) (jy w d n) [] (by
 rintro⟨hd,ht⟩
 refine au Tryz.func147
  (.al fT (fun g6=>.q 2<|.c (lT d) []<|.c (uT w (aB d)) []<|.q 5<|.q 1<|.q 2<|.br (.q 1<|.c (sJ ((af w (aB d) 2).2)) []<|.h (.fz 20)<|.h (.n8 20 (bB (bR ((af w (aB d) 2).2))))<|.q 1<|.c (lP (bR ((af w (aB d) 2).2)) n) []<|.st none<|.nil) (.q 2<|.br (.q 1<|.bs<|.bd rL<|.bs<|.bd fT<|.st none<|.nil) (.q 1<|.c (lP ([]:List l9) n) []<|.st none<|.nil))))
  ((fun (v2:List l9) (v1:Int×BL)=>(∀ g6:Nat,(lT d).sm/\((d.length<=4000000000000000000))/\(uT w (aB d)).sm/\(True)/\Br (o5 (v1.1) 1) ((sJ (v1.2)).sm/\(((v1.2).length<=1000000))/\((.sl false (V.D9 ((bR (v1.2)).map aM)):V)=bB (bR (v1.2)))/\(lP (bR (v1.2)) n).sm/\(((bR (v1.2)).length<=1000)/\(∀ i,((bR (v1.2)).getD i ⟨[],[],0⟩).ru.length<=100)/\(∀ i,((bR (v1.2)).getD i ⟨[],[],0⟩).na.length<=1000000))/\Z g6 0/\(g6=g6)/\Q (fv (.sl false ([n].map sV)) ((eC (bR (v1.2)) n).ru) ((eC (bR (v1.2)) n).wa)) (jy w d n)) (Br (o5 (v1.1) 3) (Z g6 0/\(g6=g6)/\Q (.agg [.sl false [sV n],.sl false [.agg [bV false,sV ([47]:BL)]],iN 0]) (jy w d n)) ((lP v2 n).sm/\((v2.length<=1000)/\(∀ i,(v2.getD i ⟨[],[],0⟩).ru.length<=100)/\(∀ i,(v2.getD i ⟨[],[],0⟩).na.length<=1000000))/\Z g6 0/\(g6=g6)/\Q (fv (.sl false ([n].map sV)) ((eC v2 n).ru) ((eC v2 n).wa)) (jy w d n))))) ([]:List l9) (af w (aB d) 2)) ?_
 intro g6;refine df (bI (fun j8=>?_) fun j8=>?_);refine⟨rfl,ht,Zbm (V.sl false) (vk _),rfl,⟨by have:=(jL (af w (aB d) 2).2).len;omega,fun i=>((jL (af w (aB d) 2).2).ru i).1,fun i=>by have:=((jL (af w (aB d) 2).2).ru i).2;omega⟩,rfl,⟨rfl,?_⟩⟩;unfold Q jy;rw[show cq (af w (aB d) 2).1 (af w (aB d) 2).2 n=eC (bR (af w (aB d) 2).2) n from by rw[cq,if_pos j8]];refine bI (fun l5=>?_) fun l5=>?_;refine⟨rfl,⟨rfl,?_⟩⟩;unfold Q jy;rw[show cq (af w (aB d) 2).1 (af w (aB d) 2).2 n=_ from by rw[cq,if_neg j8,if_pos l5]];rfl;refine⟨rfl,⟨Zad,Zad,Zad⟩,rfl,⟨rfl,?_⟩⟩;unfold Q jy;rw[show cq (af w (aB d) 2).1 (af w (aB d) 2).2 n=_ from by rw[cq,if_neg j8,if_neg l5]])
def dV(t:BL)(x:List BL×Bool×Nat)(i:Nat):List BL×Bool×Nat:=
 if 0<x.2.2/\t.getD i 0=62 then (x.1++[(t.take i).drop (x.2.2-1)],x.2.1,0)
 else if 0<x.2.2 then x
 else if x.2.1=true then (x.1,!(t.getD i 0==41),0)
 else if t.getD i 0=40 then (x.1,true,0)
 else if t.getD i 0=60 then (x.1,false,i+2) else x
def cn(t:BL):Nat->List BL×Bool×Nat
 | 0=>([],false,0)
 | i+1=>dV t (cn t i) i
def ay(t:BL):List BL:=if t.length<=300 then (cn t t.length).1 else []
structure MkB (t:BL) (i:Nat) (x:List BL×Bool×Nat):Prop where
 len:x.1.length<=i
 each:∀ m,m∈x.1->m.length<=t.length/\∀ c,c∈m->c∈t
 pos:x.2.2<=i+1
 one:0<x.2.2->x.2.1=false
theorem KZ{t:BL}{i:Nat}{x:List BL×Bool×Nat}(h:MkB t i x):MkB t (i+1) (dV t x i):=by
 obtain⟨h1,h2,h3,h4⟩:=h;unfold dV;split;rename_i hc;refine⟨Zal,fun m hm=>?_,Zad,fun hc=>by simp at hc⟩;rcases Zax.1 hm with hm | hm;exact h2 m hm;rw[Zav.1 hm];exact⟨Zal,fun c hc=>List.mem_of_mem_take (List.mem_of_mem_drop hc)⟩;split;exact⟨Zac,h2,Zac,h4⟩;split;exact⟨Zal,h2,Zad,fun hc=>by simp at hc⟩;split;exact⟨Zal,h2,Zad,fun hc=>by simp at hc⟩;split;exact⟨Zal,h2,Zad,fun _=>rfl⟩;exact⟨Zac,h2,Zac,h4⟩
theorem uj(t:BL):∀ i,MkB t i (cn t i)
 | 0=>⟨by simp[cn],by simp[cn],by simp[cn],by simp[cn]⟩
 | i+1=>KZ (uj t i)
theorem mj(t:BL):(ay t).length<=300/\∀ m,m∈ay t->m.length<=300/\∀ c,c∈m->c∈t:=by
 unfold ay;split;rename_i h;have hb:=uj t t.length;exact⟨by have:=hb.len;omega,fun m hm=>⟨by have:=(hb.each m hm).1;omega,(hb.each m hm).2⟩⟩;exact⟨Zad,fun m hm=>by simp at hm⟩
def cW(s:BL):UInt8:=s.getD 0 0
def fy(m:BL):Bool:=!(cW m==33)&&!(cW m==64)
def aX(t:BL):List BL:=(ay t).filter fy
def bA(t:BL):Option BL:=((ay t).find? fun m=>cW m==64).map (·.drop 1)
theorem rD(t:BL):(aX t).length<=300/\∀ m,m∈aX t->m.length<=300/\∀ c,c∈m->c∈t:=by
 have h:=mj t;exact⟨by have:=List.length_filter_le fy (ay t);unfold aX;omega,fun m hm=>h.2 m (List.mem_filter.1 hm).1⟩
theorem DB{t r:BL}(h:bA t=some r):r.length<=300/\∀ c,c∈r->c∈t:=by
 unfold bA at h;cases e:(ay t).find? fun m=>cW m==64 with
 | none=>rw[e]at h;cases h
 | some m=>
   rw[e]at h;obtain rfl:=Option.some.inj h;have:=(mj t).2 m (List.mem_of_find?_eq_some e);exact⟨Zal,fun c hc=>this.2 c (List.mem_of_mem_drop hc)⟩
theorem yP{α:Type}{p:α->Bool}{d:α}:∀ {l:List α} {i:Nat},i<l.length->p (l.getD i d)=true->(∀ j,j<i->p (l.getD j d)=false)->l.find? p=some (l.getD i d)
 | [],_,h,_,_=>by simp at h
 | x::r,0,_,h,_=>by simp at h;simp[h]
 | x::r,i+1,hl,h,hn=>by
   have h0:=hn 0 Zac;simp at h0;rw[List.find?_cons_of_neg (by simpa using h0)];have:=yP (l:=r) (i:=i) (d:=d) (by simpa using hl) Zbq (fun j hj=>by have:=hn (j+1) Zac;simpa using this);simpa using this
theorem CF{α:Type}{p:α->Bool}{d:α}{l:List α}(h:∀ j,j<l.length->p (l.getD j d)=false):l.find? p=none:=by
 rw[List.find?_eq_none];intro x hx;obtain⟨j,hj,rfl⟩:=Zbg.1 hx;have:=h j hj;rw[Zam,Zat hj]at this;simpa using this
def K3(a:x3)(ref:BL):Option x3:=
 if aR a=false\/60<ref.length then none
 else if 2<=(ab 35 ref).1.length/\(ab 35 ref).1.take 2=[47,47] then ew ((ab 35 ref).1.drop 2)
 else if (ab 35 ref).1=[] then some a
 else if cW (ab 35 ref).1=47 then cU a.l3 [] (ab 35 ref).1
 else if cW (ab 35 ref).1=63 then cU a.l3 a.h9 (ab 35 ref).1
 else cU a.l3 (a.h9.take (a.h9.length-1)) (ab 35 ref).1
def lH(l:List BL)(s:BL):List BL:=if l.contains s=true then l else l++[s]
def fP(a:x3)(t:BL):x3:=match bA t with
 | some r=>(K3 a r).getD a
 | none=>a
def ee(b:x3)(o:List BL)(m:BL):List BL:=if (K3 b m).isSome=true then lH o (bJ (oA (K3 b m))) else o
def bL(a:x3)(t:BL):List BL:=if aR a=true then (aX t).foldl (ee (fP a t)) [] else []
def bc(a:BL)(k:Int)(t:BL):List BL:=if k=1 then bL (oA (aT a)) t else if k=2 then [t] else []
theorem HL{s:BL}(h:(ew s).isSome=true):aR (oA (ew s))=true:=qj h
theorem DX{a:x3}{r:BL}(h:(K3 a r).isSome=true):aR (oA (K3 a r))=true:=by
 unfold K3 at h ⊢;split;rename_i hc;rw[if_pos hc]at h;cases h;rename_i hc;rw[if_neg hc]at h;split;rename_i h2;rw[if_pos h2]at h;exact HL h;rename_i h2;rw[if_neg h2]at h;split;cases e:aR a with
 | true=>exact e
 | false=>exact absurd (.inl e) hc
 rename_i h3;rw[if_neg h3]at h;split;rename_i h4;rw[if_pos h4]at h;exact qj h;rename_i h4;rw[if_neg h4]at h;split;rename_i h5;rw[if_pos h5]at h;exact qj h;rename_i h5;rw[if_neg h5]at h;exact qj h
theorem Ki(a:x3)(r:BL):di (oA (K3 a r)):=by
 cases e:(K3 a r).isSome with
 | true=>exact pE (DX e)
 | false=>
   rw[Option.isSome_eq_false_iff]at e;rw[Option.isNone_iff_eq_none.1 e];exact sN
theorem AT{a:x3}{t:BL}(h:aR a=true):aR (fP a t)=true:=by
 unfold fP;split;rename_i r _;cases e:K3 a r with
 | none=>exact h
 | some x=>have:=DX (a:=a) (r:=r) (by rw[e];rfl);rw[e]at this;exact this
 exact h
theorem di.sz{a:x3}(h:di a):dC a:=⟨by have:=h.1;omega,by have:=h.2.1;omega,by have:=h.2.2.1;omega,fun i=>by have:=h.2.2.2 i;omega⟩
theorem Jx{a:x3}:(bJ a).length<=60:=by
 unfold bJ;split;rename_i h;unfold aR at h;simp only[Zao,Zbk]at h;exact h.2;simp
theorem Dx{l:List BL}{s:BL}:(lH l s).length<=l.length+1:=by
 unfold lH;split <;> simp
theorem DA{l:List BL}{s x:BL}:x∈lH l s↔x∈l\/x=s:=by
 unfold lH;split;rename_i h;have h:s∈l:=Zbq
 exact⟨.inl,fun hx=>hx.elim id fun e=>e ▸ h⟩;simp
theorem CU{b:x3}:∀ (ls:List BL) {o:List BL},(ls.foldl (ee b) o).length<=o.length+ls.length/\((∀ m,m∈o->m.length<=60)->∀ m,m∈ls.foldl (ee b) o->m.length<=60)
 | [],o=>⟨Zad,fun h=>h⟩
 | l::ls,o=>by
   have ih:=CU (b:=b) ls (o:=ee b o l);have h1:(ee b o l).length<=o.length+1:=by unfold ee;split;exact Dx;omega
   refine⟨by simp only[List.foldl_cons,Zar];omega,fun h=>ih.2 fun m hm=>?_⟩;unfold ee at hm;split at hm;rcases DA.1 hm with hm | rfl;exact h m hm;exact Jx;exact h m hm
theorem LO(a:x3)(t:BL):(bL a t).length<=300/\∀ m,m∈bL a t->m.length<=60:=by
 unfold bL;split;have h:=CU (b:=fP a t) (aX t) (o:=[]);exact⟨by have:=(rD t).1;simp at h;omega,h.2 Zad⟩;exact⟨Zad,Zad⟩
theorem jG{α:Type}[DecidableEq α]:∀ {l u:List α},l.Nodup->(∀ x,x∈l->x∈u)->l.length<=u.length
 | [],_,_,_=>by simp
 | x::r,u,hn,hs=>by
   have hx:=hs x Zad;have WA:=List.nodup_cons.1 hn;have h:=jG (l:=r) (u:=u.erase x) WA.2 (fun y hy=>(List.mem_erase_of_ne (by rintro rfl;exact WA.1 hy)).2 (hs y (by simp[hy])));rw[List.length_erase_of_mem hx]at h;have:=List.length_pos_of_mem hx;simp only[Zar];omega
section
variable {N:Nat} {A A' B:AS} {P:Program}
theorem LK{X:Type}{v:V}{k:Nat}{Sl Hl:List Nat}(hk:k∈Hl)(fs:List Nat):TZ (fun (_:X) B=>AS.setAt B (.key k) [] v) fs Sl Hl where
 g:=fun _ B t _=>bW
 h:=fun _ B q hq=>rz (fun c=>hq (by rw[c];exact hk))
 c:=fun _ B B' hB=>⟨fun q=>by rw[bW,bW];exact hB.1 q,fun k=>gy hB.2⟩
 p:=fun _ B q v' _ _=>⟨fun q2=>by rw[bW,AS.aO,AS.aO,bW],fun k=>gy fun _=>rfl⟩
 q:=fun _ B q gv hq=>nU (fun c=>hq (by rw[c];exact hk))
def Xa(k:Nat):Eu P where
 X:=Unit
 pre N o A _ Hl:=match o.op,o.dst with
  | .store T x (.tmp y),none=>match ti P T,A.ev x,lk k A.h with
    | some i,.ptr (.key q) [] g o',some (g0,u)=>match q==k&&!(A.get y).dE&&(A.get y).isVal&&(A.get y).n==u.n&&(A.get y).n==i.sz&&Hl.contains k&&o'==0 with
      | true=>g0=g
      | false=>False
    | _,_,_=>False
  | _,_=>False
 U o A _ B:=match o.op with
   | .store _ _ (.tmp y)=>B.setAt (.key k) [] (A.get y)
   | _=>B
 V0:=by
  rintro N ⟨dst,op,ty,pos,after,E9⟩ A Sl Hl hp fs;simp only at hp;split at hp;split at hp;split at hp;rename_i e1;simp only[Zao,Zbi,Zbk]at e1;exact LK e1.1.2 fs;exact hp.elim;exact hp.elim;exact hp.elim
 ok:=by
  rintro N ⟨dst,op,ty,pos,after,E9⟩ A A' Sl Hl-hp hA hR;simp only at hp;split at hp;rename_i T x y;split at hp;rename_i i q g o' g0 u e1 e2 e3;split at hp;rename_i e4;subst hp;simp only[Zao,Zbl,Bool.not_eq_true',Zbi,Zbk]at e4;obtain⟨⟨⟨⟨⟨⟨rfl,hw⟩,hv⟩,hn⟩,hz⟩,_⟩,rfl⟩:=e4;have hy:A'.get y=A.get y:=hA y (by simp[Op.operands]);have hd:A'.drop (.tmp y)=A':=by simp[AS.drop,hy,hw]
  refine sS (r:=.key q) (p:=[]) (g:=g0) (g':=0) (old:=u) rfl rfl e1 (by rw[<- e2];exact bK fun t ht=>hA t (by subst ht;simp[Op.operands])) (by rw[hd];simp only[AS.at,hR,e3];rfl) ?_ ?_ ?_ ?_;show (A'.get y).isVal=true;rw[hy];exact hv;show (A'.get y).n=u.n;rw[hy];exact hn;show (A'.get y).n=i.sz;rw[hy];exact hz;rw[hd];exact⟨(),by show A'.setAt (.key q) [] (A'.get y)=_;rw[hy]⟩;exact hp.elim;exact hp.elim;exact hp.elim
end
theorem MY{l:List BL}{y:BL}{i:Nat}(h:i<l.length)(e:l.getD i []=y):l.contains y=true:=by
 rw[Zam,Zat h]at e;simp only[Option.getD_some]at e;simp only[List.contains_iff_mem];exact e ▸ List.getElem_mem h
theorem NH{l:List BL}{y:BL}(h:∀ j,j<l.length->l.getD j []≠y):l.contains y=false:=by
 rw[Bool.eq_false_iff];simp only[ne_eq,List.contains_iff_mem];intro hm;obtain⟨j,hj,e⟩:=Zbg.1 hm;have:=h j hj;rw[Zam,Zat hj]at this;exact this e
theorem c8{c k:UInt8}(h:((c.toNat:Nat):Int)=((k.toNat:Nat):Int)):c=k:=UInt8.toNat_inj.1 Zac
theorem Ua{c k:UInt8}(h: ¬ ((c.toNat:Nat):Int)=((k.toNat:Nat):Int)): ¬ c=k:=fun e=>h (by rw[e])
theorem b8{c k:UInt8}:(c==k)=(((c.toNat:Nat):Int)==((k.toNat:Nat):Int)):=by
 rw[Za6,Zbl,Zbl,<- UInt8.toNat_inj];omega
theorem Mp{t:BL}{o:List BL}{r:Bool}{q i:Nat}(h:0<q)(e:t.getD i 0=62):dV t (o,r,q) i=(o++[(t.take i).drop (q-1)],r,0):=if_pos ⟨h,e⟩
theorem MX{t:BL}{o:List BL}{r:Bool}{q i:Nat}(h:0<q)(e: ¬ t.getD i 0=62):dV t (o,r,q) i=(o,r,q):=by
 unfold dV;rw[if_neg (fun c=>e c.2),if_pos h]
theorem MC{t:BL}{o:List BL}{r:Bool}{i:Nat}(h:r=true):dV t (o,r,0) i=(o,!(t.getD i 0==41),0):=by
 unfold dV;rw[if_neg (fun c=>absurd c.1 Zad),if_neg Zad,if_pos h]
theorem Nq{t:BL}{o:List BL}{r:Bool}{i:Nat}(h:r=false)(e:t.getD i 0=40):dV t (o,r,0) i=(o,true,0):=by
 unfold dV;rw[if_neg (fun c=>absurd c.1 Zad),if_neg Zad,if_neg (by rw[h];exact Bool.false_ne_true),if_pos e]
theorem Mk{t:BL}{o:List BL}{r:Bool}{i:Nat}(h:r=false)(e: ¬ t.getD i 0=40)(e2:t.getD i 0=60):dV t (o,r,0) i=(o,false,i+2):=by
 unfold dV;rw[if_neg (fun c=>absurd c.1 Zad),if_neg Zad,if_neg (by rw[h];exact Bool.false_ne_true),if_neg e,if_pos e2]
theorem Mq{t:BL}{o:List BL}{r:Bool}{i:Nat}(h:r=false)(e: ¬ t.getD i 0=40)(e2: ¬ t.getD i 0=60):dV t (o,r,0) i=(o,r,0):=by
 unfold dV;rw[if_neg (fun c=>absurd c.1 Zad),if_neg Zad,if_neg (by rw[h];exact Bool.false_ne_true),if_neg e,if_neg e2]
theorem head_eq{m:BL}(h:(((cW m).toNat:Nat):Int)=64):(cW m==64)=true:=by
 rw[Zbl,<- UInt8.toNat_inj];show (cW m).toNat=64;omega
theorem head_ne{m:BL}(h: ¬ (((cW m).toNat:Nat):Int)=64):(cW m==64)=false:=by
 rw[beq_eq_false_iff_ne];intro e;rw[e]at h;exact h rfl
theorem we{m:BL}:fy m=true↔¬ (((cW m).toNat:Nat):Int)=33/\¬ (((cW m).toNat:Nat):Int)=64:=by
 unfold fy;simp only[Zao,Bool.not_eq_true',beq_eq_false_iff_ne,ne_eq,<- UInt8.toNat_inj];show (¬ (cW m).toNat=33/\¬ (cW m).toNat=64)↔_;omega
theorem Nr{m:BL}(h: ¬ (((cW m).toNat:Nat):Int)=33/\¬ (((cW m).toNat:Nat):Int)=64):fy m=true:=we.2 h
theorem NF{m:BL}(h: ¬ (((cW m).toNat:Nat):Int)=33->(((cW m).toNat:Nat):Int)=64):fy m=false:=by
 rw[Bool.eq_false_iff];exact fun c=>(we.1 c).2 (h (we.1 c).1)
theorem JF{m:BL}(h:(((cW m).toNat:Nat):Int)=64):1<=m.length:=by
 cases m with
 | nil=>exact absurd h Zaf
 | cons a r=>simp
theorem BH(t:BL):((bA t).getD []).length<=300:=by
 cases h:bA t with
 | none=>simp
 | some r=>exact(DB h).1
theorem GW{t:BL}{i:Nat}{o:List BL}{r:Bool}{q:Nat}(h1:i<=t.length)(h2:t.length<=300\/i=0)(h3:cn t i=(o,r,q))(hb:(i:Int)<(t.length:Int)->300<(t.length:Int)):ay t=o:=by
 unfold ay;split;obtain rfl:i=t.length:=Zac;rw[h3];obtain rfl:i=0:=Zac;exact Zbm Prod.fst h3
theorem Dl{l:List BL}{k m:Nat}(h:∀ i,(l.getD i []).length<=m):∀ i,((l.take k).getD i []).length<=m:=fun i=>by
 have:=h i;rw[Zam]at this ⊢;rw[List.getElem?_take];split;exact this;simp
theorem qd{a:x3}{ref:BL}(h:aR a=true/\(ref.length:Int)<=60):K3 a ref=if 2<=(ab 35 ref).1.length/\(ab 35 ref).1.take 2=[47,47] then ew ((ab 35 ref).1.drop 2)
 else if (ab 35 ref).1=[] then some a
 else if cW (ab 35 ref).1=47 then cU a.l3 [] (ab 35 ref).1
 else if cW (ab 35 ref).1=63 then cU a.l3 a.h9 (ab 35 ref).1
 else cU a.l3 (a.h9.take (a.h9.length-1)) (ab 35 ref).1:=by
 unfold K3;rw[if_neg (by rintro (c | c);rw[h.1]at c;cases c;omega)]
theorem OJ{s:BL}(h:2<=(s.length:Int)/\(s.take 2).drop (0:Int).toNat=[47,47]):2<=s.length/\s.take 2=[47,47]:=⟨Zac,by simpa using h.2⟩
theorem Es{s:BL}(h:2<=(s.length:Int)->¬ (s.take 2).drop (0:Int).toNat=[47,47]): ¬ (2<=s.length/\s.take 2=[47,47]):=fun c=>h Zac (by simpa using c.2)
theorem Ag{s:BL}{k:UInt8}(h:(((s.getD 0 0).toNat:Nat):Int)=((k.toNat:Nat):Int)):cW s=k:=UInt8.toNat_inj.1 (by unfold cW;omega)
theorem uJ{s:BL}{k:UInt8}(h: ¬ (((s.getD 0 0).toNat:Nat):Int)=((k.toNat:Nat):Int)): ¬ cW s=k:=fun c=>h (by rw[<- c];rfl)
theorem oh{a:x3}{t:BL}(h:(bA t).isSome=true)(h2:(K3 a ((bA t).getD [])).isSome=true):oA (K3 a ((bA t).getD []))=fP a t:=by
 unfold fP;cases e:bA t with
 | none=>rw[e]at h;cases h
 | some r=>
   rw[e]at h2;simp only[Option.getD_some]at h2 ⊢;cases e2:K3 a r with
   | none=>rw[e2]at h2;cases h2
   | some x=>rfl
theorem ox{a:x3}{t:BL}(h:(bA t).isSome=true)(h2:(K3 a ((bA t).getD [])).isSome=false):a=fP a t:=by
 unfold fP;cases e:bA t with
 | none=>rfl
 | some r=>
   rw[e]at h2;simp only[Option.getD_some]at h2 ⊢;cases e2:K3 a r with
   | none=>rfl
   | some x=>rw[e2]at h2;cases h2
theorem oy{a:x3}{t:BL}(h:(bA t).isSome=false):a=fP a t:=by
 unfold fP;cases e:bA t with
 | none=>rfl
 | some r=>rw[e]at h;cases h
def Dc(l:List BL)(y:BL):aC:=.mk 178 [.ow 1 (l.map sV),sV y] [] (l.length<=1000000) (.ow 1 ((lH l y).map sV)) [] (by
 intro hl
 refine au Tryz.func178
  (.ot 0 (fun g0 o0 c0=>.l7 2<|.loop Nat (fun i=>⟨[(0,.own 1 (l.map sV) g0 o0 c0),(1,sV y),(5,iN i)],[]⟩) (fun i=>i<=l.length/\∀ j,j<i->(l.getD j []==y)=false) (fun i=>l.length-i) (fun i=>.q 4<|.br (.r 6 [sV (l.getD i [])]<|.br (.mv<|.q 1<|.nil) (.q 3<|.nil)) (.q 2<|.bs<|.ap (fun g22 SY Te=>.h (.n8 22 (.own 1 ((l++[y]).map sV) g22 SY Te))<|.q 1<|.nil)))))
  ((fun v1:Nat->Prop=>(∀ g0 o0 c0:Nat,(fun v2:V=>(∃ j6:Nat,(v1 j6)/\E v2/\E (sV y)/\Q (iN 0) (iN j6)/\True)/\∀ i:Nat,(v1 i)->Br (s4 (i:Int) (((l.map sV).length:Nat):Int)) (In (i:Int) ((l.map sV).length)/\(V.at g0 o0 v2 [0+i]=some (g0,(o0+(0+i)*1),sV (l.getD i [])))/\Br ((l.getD i [])==y) (Q (.ow 1 (l.map sV)) (.ow 1 ((lH l y).map sV))) (m6 ((i:Int)+1)/\∃ b9:Nat,(v1 b9)/\(l.length-b9<l.length-i)/\E v2/\E (sV y)/\Q (iN (i+1)) (iN b9)/\True)) (((1,1,g0,o0,c0,(l.map sV).length)=(1,1,g0,o0,c0,(l.map sV).length))/\(True)/\(V.aF ([sV y]:List V)=false)/\(aW 1 ([sV y]:List V))/\(((l.map sV).length+([sV y]:List V).length)*16<=140737488355328)/\∀ g22 SY Te:Nat,((.own 1 ((l.map sV)++([sV y]:List V)) g22 SY Te:V)=.own 1 ((l++[y]).map sV) g22 SY Te)/\Q (.ow 1 ((l++[y]).map sV)) (.ow 1 ((lH l y).map sV)))) (.own 1 (l.map sV) g0 o0 c0))) (fun j6:Nat=>j6<=l.length/\∀ j,j<j6->(l.getD j []==y)=false)) ?_
 intro g0 o0 c0;refine⟨⟨0,?_,ao⟩,?_⟩;simp;rintro i ⟨h1,h2⟩;refine bI (fun j8=>?_) fun j8=>?_;refine ak ⟨iu (by rw[Zaw];exact ae (d:=[]) Zac),bI (fun l5=>?_) fun l5=>?_⟩;rw[show lH l y=l from if_pos (MY (i:=i) Zac l5)];refine ak ⟨i+1,?_,?_,ao⟩;exact⟨Zac,Zdw⟩;exact Zak;refine df ⟨Zal,fun g22 SY Te=>⟨Zbm (V.own 1 · g22 SY Te) Zad,?_⟩⟩;rw[show lH l y=l++[y] from if_neg (by rw[NH (fun j hj=>by have:=h2 j Zac;simpa using this)];decide)])
def pN(t:BL):aC:=.mk 202 [sV t] [] (t.length<=4611686018427387904) (ax (ay t)) [] (by
 intro ht
 refine au Tryz.func202
  (.q 1<|.bs<|.l7 4<|.h (.L6 3 1)<|.loop (Nat×(List BL)×Bool×Nat×Nat×Nat×Nat) (fun (i,o,r,q,g,f,k)=>⟨[(0,sV t),(3,.own 1 (o.map sV) g f k),(4,bV r),(5,iV ((q:Int)-1)),(6,iN i)],[]⟩) (fun (i,o,r,q,g,f,k)=>i<=t.length/\(t.length<=300\/i=0)/\cn t i=(o,r,q)) (fun (i,o,r,q,g,f,k)=>t.length-i) (fun (i,o,r,q,g,f,k)=>.q 9<|.br (.q 9<|.br (.q 4<|.h (.n8 5 (iN (q-1)))<|.h (.n8 20 (iN (q-1)))<|.h (.n8 30 (iN (q-1)))<|.q 1<|.bs<|.ap (fun Tb SX Td=>.h (.n8 34 (.own 1 ((o++[(t.take i).drop (q-1)]).map sV) Tb SX Td))<|.l7 2<|.q 3<|.nil)) (.q 3<|.br (.q 3<|.nil) (.q 2<|.br (.q 5<|.q 3<|.nil) (.q 5<|.br (.q 1<|.q 3<|.nil) (.q 5<|.br (.q 3<|.q 3<|.nil) (.q 3<|.nil)))))) (.h (.fz 3)<|.h (.n8 3 (ax o))<|.q 2<|.nil)))
  ((∃ x:Nat×(List BL)×Bool×Nat×Nat×Nat×Nat,match x with | (j6,w4,Qg,A4,A9,B5,n6)=>(j6<=t.length/\(t.length<=300\/j6=0)/\cn t j6=(w4,Qg,A4))/\E (sV t)/\Q (.own 1 ([].map sV) 0 0 0) (.own 1 (w4.map sV) A9 B5 n6)/\Q (bV false) (bV Qg)/\Q (iV (-1)) (iV ((A4:Int)-1))/\Q (iN 0) (iN j6)/\True)/\∀ x:Nat×(List BL)×Bool×Nat×Nat×Nat×Nat,match x with | (i,o,r,q,g,f,k)=>(i<=t.length/\(t.length<=300\/i=0)/\cn t i=(o,r,q))->(fun (v5 v4:Bool) (v3:V) (v2:Int) (v1:List V)=>Pk v5 (v5==true) true/\Br (v5&&(G' (t.length:Int) 300)) (Gd (v4==true) (Ix (i:Int) t)/\Pk v4 (v4==true) true/\Br (v4&&(o5 v2 62)) (((iV ((q:Int)-1):V)=iN (q-1))/\((iV ((q:Int)-1):V)=iN (q-1))/\((iV ((q:Int)-1):V)=iN (q-1))/\Sx ((q-1:Nat):Int) (i:Int) t/\((1,1,g,f,k,(o.map sV).length)=(1,1,g,f,k,(o.map sV).length))/\(True)/\(V.aF v1=false)/\(aW 1 v1)/\(((o.map sV).length+v1.length)*16<=140737488355328)/\∀ Tb SX Td:Nat,((.own 1 ((o.map sV)++v1) Tb SX Td:V)=.own 1 ((o++[(t.take i).drop (q-1)]).map sV) Tb SX Td)/\m6 ((i:Int)+1)/\∃ x:Nat×(List BL)×Bool×Nat×Nat×Nat×Nat,match x with | (b9,m4,F8,r3,s6,r8,k₂)=>(b9<=t.length/\(t.length<=300\/b9=0)/\cn t b9=(m4,F8,r3))/\(t.length-b9<t.length-i)/\E (sV t)/\Q (.own 1 ((o++[(t.take i).drop (q-1)]).map sV) Tb SX Td) (.own 1 (m4.map sV) s6 r8 k₂)/\Q (bV r) (bV F8)/\Q (iV (-1)) (iV ((r3:Int)-1))/\Q (iN (i+1)) (iN b9)/\True) (Br v4 (m6 ((i:Int)+1)/\∃ x:Nat×(List BL)×Bool×Nat×Nat×Nat×Nat,match x with | (b9,m4,F8,r3,s6,r8,k₂)=>(b9<=t.length/\(t.length<=300\/b9=0)/\cn t b9=(m4,F8,r3))/\(t.length-b9<t.length-i)/\E (sV t)/\Q v3 (.own 1 (m4.map sV) s6 r8 k₂)/\Q (bV r) (bV F8)/\Q (iV ((q:Int)-1)) (iV ((r3:Int)-1))/\Q (iN (i+1)) (iN b9)/\True) (Br r (Ix (i:Int) t/\m6 ((i:Int)+1)/\∃ x:Nat×(List BL)×Bool×Nat×Nat×Nat×Nat,match x with | (b9,m4,F8,r3,s6,r8,k₂)=>(b9<=t.length/\(t.length<=300\/b9=0)/\cn t b9=(m4,F8,r3))/\(t.length-b9<t.length-i)/\E (sV t)/\Q v3 (.own 1 (m4.map sV) s6 r8 k₂)/\Q (bV (D7 v2 41)) (bV F8)/\Q (iV ((q:Int)-1)) (iV ((r3:Int)-1))/\Q (iN (i+1)) (iN b9)/\True) (Ix (i:Int) t/\Br (o5 v2 40) (m6 ((i:Int)+1)/\∃ x:Nat×(List BL)×Bool×Nat×Nat×Nat×Nat,match x with | (b9,m4,F8,r3,s6,r8,k₂)=>(b9<=t.length/\(t.length<=300\/b9=0)/\cn t b9=(m4,F8,r3))/\(t.length-b9<t.length-i)/\E (sV t)/\Q v3 (.own 1 (m4.map sV) s6 r8 k₂)/\Q (bV true) (bV F8)/\Q (iV ((q:Int)-1)) (iV ((r3:Int)-1))/\Q (iN (i+1)) (iN b9)/\True) (Ix (i:Int) t/\Br (o5 v2 60) (m6 ((i:Int)+1)/\m6 ((i:Int)+1)/\∃ x:Nat×(List BL)×Bool×Nat×Nat×Nat×Nat,match x with | (b9,m4,F8,r3,s6,r8,k₂)=>(b9<=t.length/\(t.length<=300\/b9=0)/\cn t b9=(m4,F8,r3))/\(t.length-b9<t.length-i)/\E (sV t)/\Q v3 (.own 1 (m4.map sV) s6 r8 k₂)/\Q (bV r) (bV F8)/\Q (iN (i+1)) (iV ((r3:Int)-1))/\Q (iN (i+1)) (iN b9)/\True) (m6 ((i:Int)+1)/\∃ x:Nat×(List BL)×Bool×Nat×Nat×Nat×Nat,match x with | (b9,m4,F8,r3,s6,r8,k₂)=>(b9<=t.length/\(t.length<=300\/b9=0)/\cn t b9=(m4,F8,r3))/\(t.length-b9<t.length-i)/\E (sV t)/\Q v3 (.own 1 (m4.map sV) s6 r8 k₂)/\Q (bV r) (bV F8)/\Q (iV ((q:Int)-1)) (iV ((r3:Int)-1))/\Q (iN (i+1)) (iN b9)/\True)))))) (((.sl false (V.D9 (o.map sV)):V)=ax o)/\Q (ax o) (ax (ay t)))) (s4 (i:Int) (t.length:Int)) (D0 ((q:Int)-1) 0) (.own 1 (o.map sV) g f k) (((t.getD i 0).toNat:Nat):Int) ([sV ((t.take i).drop (q-1))]:List V)) ?_
 refine⟨⟨(0,[],false,0,0,0,0),?_,rfl,rfl,rfl,Zah,ao⟩,?_⟩;exact⟨Zac,.inr rfl,rfl⟩;rintro⟨i,o,r,q,g,f,k⟩ ⟨h1,h2,h3⟩;have VE:=uj t i;rw[h3]at VE;have UL:=VE.len;have Y7:=VE.pos;have ZK:=VE.one;simp only at UL Y7 ZK;refine ak (bI (fun j8=>?_) fun j8=>?_);refine bb (bI (fun l5=>?_) fun l5=>?_);refine⟨(Zbm iV Zac),(Zbm iV Zac),(Zbm iV Zac),eQ ⟨Zal,fun Tb SX Td=>⟨Zbm (V.own 1 · Tb SX Td) Zad,ak ⟨(i+1,o++[(t.take i).drop (q-1)],r,0,Tb,SX,Td),?_,?_,rfl,rfl,rfl,Zdx,ao⟩⟩⟩⟩;refine⟨Zac,.inl Zac,?_⟩;rw[show cn t (i+1)=dV t (cn t i) i from rfl,h3,Mp Zac (c8 (k:=62) l5.2)];exact Zak;refine bI (fun m8=>?_) fun m8=>?_;refine ak ⟨(i+1,o,r,q,g,f,k),?_,?_,rfl,rfl,rfl,Zdx,ao⟩;refine⟨Zac,.inl Zac,?_⟩;rw[show cn t (i+1)=dV t (cn t i) i from rfl,h3,MX Zac (Ua (k:=62) (l5 m8))];exact Zak;refine bI (fun y9=>?_) fun y9=>?_;refine bb ⟨(i+1,o,D7 (((t.getD i 0).toNat:Nat):Int) 41,q,g,f,k),?_,?_,rfl,rfl,rfl,Zdx,ao⟩;refine⟨Zac,.inl Zac,?_⟩;obtain rfl:q=0:=Zac;rw[show cn t (i+1)=dV t (cn t i) i from rfl,h3,MC y9,b8];rfl;exact Zak;refine ak (bI (fun E4=>?_) fun E4=>?_);refine ak ⟨(i+1,o,true,q,g,f,k),?_,?_,rfl,rfl,rfl,Zdx,ao⟩;refine⟨Zac,.inl Zac,?_⟩;obtain rfl:q=0:=Zac;rw[show cn t (i+1)=dV t (cn t i) i from rfl,h3,Nq y9 (c8 (k:=40) E4)];exact Zak;refine ak (bI (fun PG=>?_) fun PG=>?_);refine bb ⟨(i+1,o,r,i+2,g,f,k),?_,?_,rfl,rfl,rfl,Zdx,ao⟩;refine⟨Zac,.inl Zac,?_⟩;obtain rfl:q=0:=Zac;rw[show cn t (i+1)=dV t (cn t i) i from rfl,h3,Mk y9 (Ua (k:=40) E4) (c8 (k:=60) PG),y9];exact Zak;refine ak ⟨(i+1,o,r,q,g,f,k),?_,?_,rfl,rfl,rfl,Zdx,ao⟩;refine⟨Zac,.inl Zac,?_⟩;obtain rfl:q=0:=Zac;rw[show cn t (i+1)=dV t (cn t i) i from rfl,h3,Mq y9 (Ua (k:=40) E4) (Ua (k:=60) PG)];exact Zak;refine⟨Zce,?_⟩;rw[show ay t=o from GW h1 h2 h3 j8])
def mF(s:BL):aC:=.mk 203 [sV s] [] (s.length<=4611686018427387904) (uN ((cW s).toNat)) [] (by
 intro hs
 refine au Tryz.func203
  (.q 1<|.q 2<|.br (.q 1<|.nil) (.q 3<|.nil))
  (Br (s==[]) (Q (uN 0) (uN ((cW s).toNat))) (Ix 0 s/\Q (uN ((s.getD 0 0).toNat)) (uN ((cW s).toNat)))) ?_
 refine bI (fun j8=>?_) fun j8=>?_;unfold Q;simp_all[cW];refine⟨by have:=List.length_pos_iff.2 j8;omega,?_⟩;rfl)
abbrev jk(t:BL)(i:Nat):Prop:=i<=(ay t).length/\∀ j,j<i->(cW ((ay t).getD j [])==64)=false
def wA(t:BL):aC:=.mk 175 [sV t] [] (t.length<=4611686018427387904) (.tup [sV ((bA t).getD []),bV ((bA t).isSome)]) [] (by
 intro ht;obtain⟨UL,RH⟩:=mj t
 refine au Tryz.func175
  (.q 2<|.q 1<|.c (pN t) []<|.l7 2<|.loop Nat (fun i=>⟨[(4,ax (ay t)),(5,iN i)],[]⟩) (fun i=>jk t i) (fun i=>(ay t).length-i) (fun i=>.q 4<|.br (.r 4 [sV ((ay t).getD i [])]<|.c (mF ((ay t).getD i [])) []<|.q 1<|.br (.r 7 [sV ((ay t).getD i [])]<|.nil) (.q 3<|.nil)) (.q 2<|.nil)))
  ((fun v1:V=>((pN t).sm/\((t.length<=4611686018427387904))/\(∃ j6:Nat,(jk t j6)/\E (ax (ay t))/\Q (iN 0) (iN j6)/\True)/\∀ i:Nat,(jk t i)->Br (s4 (i:Int) ((((ay t).map sV).length:Nat):Int)) (Ex (i:Int) ((ay t).map sV) (sV ((ay t).getD i []))/\True/\(mF ((ay t).getD i [])).sm/\((((ay t).getD i []).length<=4611686018427387904))/\Br (o5 (((cW ((ay t).getD i [])).toNat:Nat):Int) 64) (Ex (i:Int) ((ay t).map sV) (sV ((ay t).getD i []))/\True/\Sx (1:Int) (((ay t).getD i []).length:Int) ((ay t).getD i [])/\Q (.tup [sV ((((ay t).getD i []).take ((ay t).getD i []).length).drop 1),bV true]) v1) (m6 ((i:Int)+1)/\∃ b9:Nat,(jk t b9)/\((ay t).length-b9<(ay t).length-i)/\E (ax (ay t))/\Q (iN (i+1)) (iN b9)/\True)) (Q (.tup [sV [],bV false]) v1))) (.tup [sV ((bA t).getD []),bV ((bA t).isSome)])) ?_
 refine bb ⟨⟨0,?_,ao⟩,?_⟩;unfold jk;simp;rintro i ⟨h1,h2⟩;have L':=iP (n:=300) (fun m hm=>(RH m hm).1) i;refine bI (fun j8=>?_) fun j8=>?_;refine⟨Zcf,bm (bI (fun l5=>?_) fun l5=>?_)⟩;refine⟨Zcf,trivial,by have:=JF l5;omega,?_⟩;rw[show bA t=some (((ay t).getD i []).drop 1) from by rw[bA,yP (i:=i) (d:=[]) Zac (head_eq l5) h2];rfl,List.take_length];rfl;refine ak ⟨i+1,?_,?_,ao⟩;unfold jk;exact⟨Zac,bh h2 (head_ne l5)⟩;exact Zak;rw[show bA t=none from by rw[bA,CF (d:=[]) (fun j hj=>h2 j Zac)];rfl];rfl)
def ve(t:BL):aC:=.mk 177 [sV t] [] (t.length<=4611686018427387904) (ax (aX t)) [] (by
 intro ht;obtain⟨UL,RH⟩:=mj t
 refine au Tryz.func177
  (.l7 2<|.c (pN t) []<|.q 1<|.bs<|.l7 2<|.h (.L6 4 1)<|.loop (Nat×(List BL)×Nat×Nat×Nat) (fun (i,o,g,f,k)=>⟨[(3,ax (ay t)),(4,.own 1 (o.map sV) g f k),(5,iN i)],[]⟩) (fun (i,o,g,f,k)=>i<=(ay t).length/\o=((ay t).take i).filter fy/\o.length<=i) (fun (i,o,g,f,k)=>(ay t).length-i) (fun (i,o,g,f,k)=>.q 4<|.br (.r 4 [sV ((ay t).getD i [])]<|.c (mF ((ay t).getD i [])) []<|.r 6 [sV ((ay t).getD i [])]<|.cg (mF ((ay t).getD i []))<|.q 2<|.br (.r 5 [sV ((ay t).getD i [])]<|.bs<|.ap (fun Rx Rq Rz=>.h (.n8 35 (.own 1 ((o++[((ay t).getD i [])]).map sV) Rx Rq Rz))<|.q 1<|.q 3<|.nil)) (.q 3<|.nil)) (.h (.fz 4)<|.h (.n8 4 (ax o))<|.q 2<|.nil)))
  ((fun v1:List V=>((pN t).sm/\((t.length<=4611686018427387904))/\(∃ x:Nat×(List BL)×Nat×Nat×Nat,match x with | (j6,w4,A9,B5,n6)=>(j6<=(ay t).length/\w4=((ay t).take j6).filter fy/\w4.length<=j6)/\E (ax (ay t))/\Q (.own 1 ([].map sV) 0 0 0) (.own 1 (w4.map sV) A9 B5 n6)/\Q (iN 0) (iN j6)/\True)/\∀ x:Nat×(List BL)×Nat×Nat×Nat,match x with | (i,o,g,f,k)=>(i<=(ay t).length/\o=((ay t).take i).filter fy/\o.length<=i)->(fun (v4:V) (v3:List V) (v2:Int)=>Br (s4 (i:Int) ((v1.length:Nat):Int)) (Ex (i:Int) v1 v4/\True/\(mF ((ay t).getD i [])).sm/\((((ay t).getD i []).length<=4611686018427387904))/\Gd ((D7 v2 33)==true) (Ex (i:Int) v1 v4)/\Gd ((D7 v2 33)==true) True/\Gd ((D7 v2 33)==true) (((((ay t).getD i []).length<=4611686018427387904))/\(mF ((ay t).getD i [])).sm)/\Pk (D7 v2 33) ((D7 v2 33)==true) true/\Br ((D7 v2 33)&&(D7 v2 64)) (Ex (i:Int) v1 v4/\True/\((1,1,g,f,k,(o.map sV).length)=(1,1,g,f,k,(o.map sV).length))/\(True)/\(V.aF v3=false)/\(aW 1 v3)/\(((o.map sV).length+v3.length)*16<=140737488355328)/\∀ Rx Rq Rz:Nat,((.own 1 ((o.map sV)++v3) Rx Rq Rz:V)=.own 1 ((o++[((ay t).getD i [])]).map sV) Rx Rq Rz)/\m6 ((i:Int)+1)/\∃ x:Nat×(List BL)×Nat×Nat×Nat,match x with | (b9,m4,s6,r8,k₂)=>(b9<=(ay t).length/\m4=((ay t).take b9).filter fy/\m4.length<=b9)/\((ay t).length-b9<(ay t).length-i)/\E (ax (ay t))/\Q (.own 1 ((o++[((ay t).getD i [])]).map sV) Rx Rq Rz) (.own 1 (m4.map sV) s6 r8 k₂)/\Q (iN (i+1)) (iN b9)/\True) (m6 ((i:Int)+1)/\∃ x:Nat×(List BL)×Nat×Nat×Nat,match x with | (b9,m4,s6,r8,k₂)=>(b9<=(ay t).length/\m4=((ay t).take b9).filter fy/\m4.length<=b9)/\((ay t).length-b9<(ay t).length-i)/\E (ax (ay t))/\Q (.own 1 (o.map sV) g f k) (.own 1 (m4.map sV) s6 r8 k₂)/\Q (iN (i+1)) (iN b9)/\True)) (((.sl false (V.D9 (o.map sV)):V)=ax o)/\Q (ax o) (ax (aX t)))) (sV ((ay t).getD i [])) ([sV ((ay t).getD i [])]:List V) (((cW ((ay t).getD i [])).toNat:Nat):Int))) ((ay t).map sV)) ?_
 refine bb ⟨⟨(0,[],0,0,0),?_,ao⟩,?_⟩;simp;rintro⟨i,o,g,f,k⟩ ⟨h1,h2,h3⟩;have L':=iP (n:=300) (fun m hm=>(RH m hm).1) i;refine bI (fun j8=>?_) fun j8=>?_;refine⟨Zcf,bm ⟨fun hG=>ak (ae (d:=[]) Zac),ak ⟨fun hG=>⟨Zcq,rfl⟩,ak (bI (fun l5=>?_) fun l5=>?_)⟩⟩⟩;refine⟨Zcf,eQ ⟨Zal,fun Rx Rq Rz=>⟨Zbm (V.own 1 · Rx Rq Rz) Zad,ak ⟨(i+1,o++[((ay t).getD i [])],Rx,Rq,Rz),?_,?_,ao⟩⟩⟩⟩;refine⟨Zac,?_,Zal⟩;rw[ba (d:=[]) Zac,List.filter_append,<- h2,List.filter_cons_of_pos (Nr l5)];rfl;exact Zak;refine ak ⟨(i+1,o,g,f,k),?_,?_,ao⟩;refine⟨Zac,?_,ao⟩;rw[ba (d:=[]) Zac,List.filter_append,<- h2,List.filter_cons_of_neg (by rw[NF l5];decide)];simp;exact Zak;refine⟨Zce,?_⟩;rw[h2,Zaz Zac];rfl)
abbrev BD(a:x3):V:=.agg [sV a.l3,ax (a.h9.take (a.h9.length-1)),bV false,sV []]
def HU(a:x3):aC:=.mk 204 [aP a] [] (di a) (BD a) [] (by
 intro ha;have ZU:=ha.2.2.1
 refine au Tryz.func204
  (.bx (fun g1=>.al dj (fun g2=>.A7 12 [(1,m5 [1] [4]),(4,m5 [1] [7]),(6,m5 [1] [9]),(11,⟨true,[],none,[14],[]⟩)]<|.q 1<|.n9<|.bs<|.q 1<|.n9<|.q 1<|.n9<|.l7 2<|.mm<|.q 1<|.h (.n8 13 (ax (a.h9.take (a.h9.length-1))))<|.ux none (fun g14 X7 Yr=>.h (.n8 14 (.own 1 ((a.h9.take (a.h9.length-1)).map sV) g14 X7 Yr))<|.h (.fz 14)<|.h (.n8 14 (ax (a.h9.take (a.h9.length-1))))<|.bd dj<|.st none<|.nil))))
  ((fun (v2:Int) (v1:List V)=>(∀ g1:Nat,∀ g2:Nat,Z g1 0/\Z g1 1/\Z g1 1/\m6 (v2-1)/\(IntKind.i64=IntKind.i64)/\((0:Int)<=(0:Int)/\(0:Int)<=(max (v2-1) 0)/\(max (v2-1) 0)<=(a.h9.map sV).length/\∀ x∈(a.h9.map sV),x.n=1)/\Q (.sl false (((a.h9.map sV).take (Int.toNat (max (v2-1) 0))).drop ((0:Int).toNat))) (ax (a.h9.take (a.h9.length-1)))/\((True)/\(V.aF v1=false)/\(aW 1 v1)/\((([]:List V).length+v1.length)*16<=140737488355328))/\∀ g14 X7 Yr:Nat,((.own 1 (([]:List V)++v1) g14 X7 Yr:V)=.own 1 v1 g14 X7 Yr)/\((.sl false (V.D9 v1):V)=ax (a.h9.take (a.h9.length-1)))/\Z g2 0/\(g2=g2)/\Q (.agg [sV a.l3,ax (a.h9.take (a.h9.length-1)),bV false,sV []]) (BD a))) (((a.h9.map sV).length:Nat):Int) ((a.h9.take (a.h9.length-1)).map sV)) ?_
 intro g1;intro g2;refine eQ ⟨⟨Zcg,Zcg,Zcg,all_map (fun _=>rfl)⟩,Zdy,⟨trivial,(bE (f:=sV) (fun _=>rfl) _),(cw (f:=sV) (fun _=>rfl) _),Zal⟩,?_⟩;intro g14 X7 Yr;refine⟨Zbm (V.own 1 · g14 X7 Yr) (List.nil_append _),Zce,rfl,⟨rfl,?_⟩⟩;unfold Q BD;rfl)
abbrev eF(a:x3)(ref:BL):V:=.tup [aP (oA (K3 a ref)),bV ((K3 a ref).isSome)]
def nG(a:x3)(ref:BL):aC:=.mk 176 [aP a,sV ref] [] ((di a)/\(ref.length<=1000000)) (eF a ref) [] (by
 rintro⟨ha,hr⟩;have Qj:=mh 35 ref;have hp:=ha.2.2.1
 refine au Tryz.func176
  (.bx (fun g2=>.al dj (fun g4=>.l7 2<|.c (jm ref (35:UInt8)) []<|.q 7<|.n9<|.c (jQ a) []<|.q 7<|.br (.bd dj<|.st none<|.q 1<|.nil) (.q 9<|.br (.q 2<|.c (px ((((ab (35:UInt8) ref).1).take ((ab (35:UInt8) ref).1).length).drop 2)) []<|.q 2<|.st none<|.q 1<|.nil) (.q 3<|.br (.bs<|.r 2 [.c9]<|.ap (fun PS PN Qz=>.h (.n8 45 (.own 1 (a.h9.map sV) PS PN Qz))<|.h (.fz 45)<|.h (.n8 45 (ax a.h9))<|.q 1<|.st none<|.n9<|.st none<|.q 1<|.nil)) (.q 4<|.br (.r 2 [.c9]<|.bd dj<|.q 1<|.c (js (⟨a.l3,[],false,[]⟩:x3) ((ab (35:UInt8) ref).1)) []<|.q 2<|.st none<|.q 1<|.nil) (.q 4<|.br (.r 4 [.c9,.c9]<|.bd dj<|.q 1<|.c (js (⟨a.l3,a.h9,false,[]⟩:x3) ((ab (35:UInt8) ref).1)) []<|.q 2<|.st none<|.q 1<|.nil) (.n9<|.c (HU a) []<|.q 1<|.c (js (⟨a.l3,a.h9.take (a.h9.length-1),false,[]⟩:x3) ((ab (35:UInt8) ref).1)) []<|.q 2<|.st none<|.q 1<|.nil))))))))
  ((fun (v6:Int) (v5:List V) (v4:Bool) (v3 v2 v1:x3)=>(∀ g2:Nat,∀ g4:Nat,(jm ref (35:UInt8)).sm/\((ref.length<=4611686018427387904))/\Z g2 0/\(jQ a).sm/\((dC a))/\Pk (!(aR a)) true ((!(aR a))==false)/\Br ((!(aR a))||(s9 (ref.length:Int) 60)) (Z g4 0/\(g4=g4)/\Q (.tup [gL (.sl false []),bV false]) (eF a ref)) (Gd (v4==true) (Sx (0:Int) (2:Int) ((ab (35:UInt8) ref).1))/\Pk v4 (v4==true) true/\Br (v4&&(((((ab (35:UInt8) ref).1).take 2).drop ((0:Int).toNat))==([47,47]:BL))) (Sx (2:Int) (((ab (35:UInt8) ref).1).length:Int) ((ab (35:UInt8) ref).1)/\(px ((((ab (35:UInt8) ref).1).take ((ab (35:UInt8) ref).1).length).drop 2)).sm/\((((((ab (35:UInt8) ref).1).take ((ab (35:UInt8) ref).1).length).drop 2).length<=1000))/\Z g4 0/\(g4=g4)/\Q (.tup [aP (oA (ew ((((ab (35:UInt8) ref).1).take ((ab (35:UInt8) ref).1).length).drop 2))),bV ((ew ((((ab (35:UInt8) ref).1).take ((ab (35:UInt8) ref).1).length).drop 2)).isSome)]) (eF a ref)) (Br (((ab (35:UInt8) ref).1)==[]) (Z g2 1/\(True)/\(True)/\(V.aF v5=false)/\(aW 1 v5)/\((([]:List V).length+v5.length)*16<=140737488355328)/\∀ PS PN Qz:Nat,((.own 1 (([]:List V)++v5) PS PN Qz:V)=.own 1 v5 PS PN Qz)/\((.sl false (V.D9 v5):V)=ax a.h9)/\Z g2 1/\Z g2 0/\Z g4 0/\(g4=g4)/\Q (.tup [aP a,bV true]) (eF a ref)) (Ix 0 ((ab (35:UInt8) ref).1)/\Br (o5 v6 47) (Z g2 0/\(js v3 ((ab (35:UInt8) ref).1)).sm/\((dC v3)/\(((ab (35:UInt8) ref).1).length<=1000)/\(v3.h9.length<=1000))/\Z g4 0/\(g4=g4)/\Q (.tup [aP (oA (cU v3.l3 v3.h9 ((ab (35:UInt8) ref).1))),bV ((cU v3.l3 v3.h9 ((ab (35:UInt8) ref).1)).isSome)]) (eF a ref)) (Ix 0 ((ab (35:UInt8) ref).1)/\Br (o5 v6 63) (Z g2 0/\Z g2 1/\(js v2 ((ab (35:UInt8) ref).1)).sm/\((dC v2)/\(((ab (35:UInt8) ref).1).length<=1000)/\(v2.h9.length<=1000))/\Z g4 0/\(g4=g4)/\Q (.tup [aP (oA (cU v2.l3 v2.h9 ((ab (35:UInt8) ref).1))),bV ((cU v2.l3 v2.h9 ((ab (35:UInt8) ref).1)).isSome)]) (eF a ref)) (Z g2 0/\(HU a).sm/\((di a))/\(js v1 ((ab (35:UInt8) ref).1)).sm/\((dC v1)/\(((ab (35:UInt8) ref).1).length<=1000)/\(v1.h9.length<=1000))/\Z g4 0/\(g4=g4)/\Q (.tup [aP (oA (cU v1.l3 v1.h9 ((ab (35:UInt8) ref).1))),bV ((cU v1.l3 v1.h9 ((ab (35:UInt8) ref).1)).isSome)]) (eF a ref)))))))) (((((ab (35:UInt8) ref).1).getD 0 0).toNat:Nat):Int) (a.h9.map sV) (D0 ((((ab (35:UInt8) ref).1).length:Nat):Int) 2) (⟨a.l3,[],false,[]⟩:x3) (⟨a.l3,a.h9,false,[]⟩:x3) (⟨a.l3,a.h9.take (a.h9.length-1),false,[]⟩:x3)) ?_
 intro g2;intro g4;refine df ⟨ha.sz,ak (bI (fun j8=>?_) fun j8=>?_)⟩;refine⟨rfl,⟨rfl,?_⟩⟩;unfold Q eF;rw[show K3 a ref=none from if_pos (j8.imp id fun h=>by omega)];rfl;refine bb (bI (fun l5=>?_) fun l5=>?_);refine⟨Zac,rfl,Zco,rfl,⟨rfl,?_⟩⟩;unfold Q eF;rw[qd j8,if_pos (OJ l5)];simp;refine bI (fun m8=>?_) fun m8=>?_;refine bm ⟨Zcl,Zcm,Zal,fun PS PN Qz=>⟨Zbm (V.own 1 · PS PN Qz) (List.nil_append _),Zce,bm ⟨rfl,?_⟩⟩⟩;unfold Q eF;rw[qd j8,if_neg (Es l5),if_pos Zdb];rfl;refine⟨Zdz,bI (fun y9=>?_) fun y9=>?_⟩;refine⟨rfl,rfl,⟨⟨by have:=ha.1;simp only;omega,Zad,Zad,Zad⟩,ak Zad⟩,rfl,⟨rfl,?_⟩⟩;unfold Q eF;rw[qd j8,if_neg (Es l5),if_neg Zdb,if_pos (Ag (k:=47) y9)];refine⟨Zdz,bI (fun E4=>?_) fun E4=>?_⟩;refine⟨rfl,rfl,rfl,⟨⟨ha.sz.1,Zad,ha.sz.2.2.1,ha.sz.2.2.2⟩,ak (by show a.h9.length<=1000;omega)⟩,rfl,⟨rfl,?_⟩⟩;unfold Q eF;rw[qd j8,if_neg (Es l5),if_neg Zdb,if_neg (uJ (k:=47) y9),if_pos (Ag (k:=63) E4)];refine⟨rfl,rfl,ha,rfl,⟨⟨ha.sz.1,Zad,Zd0,Dl ha.sz.2.2.2⟩,ak Zd0⟩,rfl,⟨rfl,?_⟩⟩;unfold Q eF;rw[qd j8,if_neg (Es l5),if_neg Zdb,if_neg (uJ (k:=47) y9),if_neg (uJ (k:=63) E4)])
def uU(a:x3)(t:BL):aC:=.mk 140 [aP a,sV t] [] ((di a)/\(t.length<=4611686018427387904)) (ax (bL a t)) [] (by
 rintro⟨ha,ht⟩;obtain⟨UL,RH⟩:=rD t
 refine au Tryz.func140
  (.bx (fun g2=>.q 1<|.bs<|.q 1<|.n9<|.c (jQ a) []<|.q 1<|.br (.q 2<|.nil) (.q 1<|.c (wA t) []<|.q 5<|.q 1<|.join (x3) (fun b=>⟨[(0,aP a),(1,sV t),(2,kp 2 g2),(4,.sl true []),(14,.sl true []),(5,.sl true []),(15,aP a),(16,bV (aR a)),(17,bV (!(aR a))),(20,sV t),(21,.tup [sV ((bA t).getD []),bV ((bA t).isSome)]),(19,.tup [sV ((bA t).getD []),bV ((bA t).isSome)]),(22,sV ((bA t).getD [])),(23,bV ((bA t).isSome)),(6,sV ((bA t).getD [])),(7,bV ((bA t).isSome)),(24,bV ((bA t).isSome))],[(2,(g2,aP b))]⟩) (fun b=>b=(fP a t)) (.r 2 [.c9]<|.c (nG a ((bA t).getD [])) []<|.q 3<|.al dj (fun g8=>.st none<|.l7 2<|.br (.n9<|.st none<|.nil) (.nil))) (.nil) (fun b=>.q 1<|.c (ve t) []<|.l7 2<|.h (.L6 5 1)<|.loop (Nat×(List BL)) (fun (i,o)=>⟨[(2,kp 2 g2),(5,.ow 1 (o.map sV)),(10,ax (aX t)),(11,iN i)],[(2,(g2,aP b))]⟩) (fun (i,o)=>i<=(aX t).length/\o=((aX t).take i).foldl (ee b) []/\o.length<=i) (fun (i,o)=>(aX t).length-i) (fun (i,o)=>.q 4<|.br (.dx 11 [0,1,2,3,4,5,6,7,8,9,10] [(0,m5 [2] [42]),(4,m5 [] [46]),(10,⟨true,[],none,[],[12]⟩)] [(9,dj)]<|.n9<|.l7 2<|.r 1 [sV ((aX t).getD i [])]<|.q 1<|.c (nG b ((aX t).getD i [])) []<|.l7 3<|.ua (fun g12=>.eu (Xa 12) (fun _=>.l7 2<|.br (.mv<|.n9<|.c (gX (oA (K3 b ((aX t).getD i [])))) []<|.c (Dc o (bJ (oA (K3 b ((aX t).getD i []))))) []<|.q 1<|.q 3<|.nil) (.q 3<|.nil)))) (.h (.fz 5)<|.h (.n8 5 (ax o))<|.q 2<|.nil))))))
  ((fun (v2 v1:V)=>(∀ g2:Nat,(fun v3:V=>Z g2 0/\(jQ a).sm/\((dC a))/\Br (!(aR a)) (Q (.sl false []) (ax (bL a t))) ((wA t).sm/\((t.length<=4611686018427387904))/\(((bA t).isSome)=true->Z g2 0/\(nG a ((bA t).getD [])).sm/\((di a)/\(((bA t).getD []).length<=1000000))/\∀ g8:Nat,Z g8 0/\Br ((K3 a ((bA t).getD [])).isSome) (Z g8 0/\Z g2 0/\∃ b:x3,(b=(fP a t))/\E (aP a)/\E (sV t)/\E v3/\E (.sl true [])/\E (.sl true [])/\E (.sl true [])/\E (aP a)/\E (bV (aR a))/\E (bV (!(aR a)))/\E (sV t)/\E v1/\E v1/\E v2/\E (bV ((bA t).isSome))/\E v2/\E (bV ((bA t).isSome))/\E (bV ((bA t).isSome))/\Qr g2 (aP (oA (K3 a ((bA t).getD [])))) g2 (aP b)/\True) (∃ b:x3,(b=(fP a t))/\E (aP a)/\E (sV t)/\E v3/\E (.sl true [])/\E (.sl true [])/\E (.sl true [])/\E (aP a)/\E (bV (aR a))/\E (bV (!(aR a)))/\E (sV t)/\E v1/\E v1/\E v2/\E (bV ((bA t).isSome))/\E v2/\E (bV ((bA t).isSome))/\E (bV ((bA t).isSome))/\Qr g2 (aP a) g2 (aP b)/\True))/\(((bA t).isSome)=false->∃ b:x3,(b=(fP a t))/\E (aP a)/\E (sV t)/\E v3/\E (.sl true [])/\E (.sl true [])/\E (.sl true [])/\E (aP a)/\E (bV (aR a))/\E (bV (!(aR a)))/\E (sV t)/\E v1/\E v1/\E v2/\E (bV ((bA t).isSome))/\E v2/\E (bV ((bA t).isSome))/\E (bV ((bA t).isSome))/\Qr g2 (aP a) g2 (aP b)/\True)/\(∀ b:x3,(b=(fP a t))->(ve t).sm/\((t.length<=4611686018427387904))/\(∃ x:Nat×(List BL),match x with | (j6,w4)=>(j6<=(aX t).length/\w4=((aX t).take j6).foldl (ee b) []/\w4.length<=j6)/\E v3/\Q (.ow 1 ([].map sV)) (.ow 1 (w4.map sV))/\E (ax (aX t))/\Q (iN 0) (iN j6)/\Er g2 (aP b)/\True)/\∀ x:Nat×(List BL),match x with | (i,o)=>(i<=(aX t).length/\o=((aX t).take i).foldl (ee b) []/\o.length<=i)->(fun v4:x3=>Br (s4 (i:Int) ((((aX t).map sV).length:Nat):Int)) (Z g2 0/\Ex (i:Int) ((aX t).map sV) (sV ((aX t).getD i []))/\True/\(nG b ((aX t).getD i [])).sm/\((di b)/\(((aX t).getD i []).length<=1000000))/\∀ g12:Nat,((g12:Nat)=g12)/\∀ _:Unit,Br ((K3 b ((aX t).getD i [])).isSome) (Z g12 0/\(gX v4).sm/\((dC v4))/\(Dc o (bJ v4)).sm/\((o.length<=1000000))/\m6 ((i:Int)+1)/\∃ x:Nat×(List BL),match x with | (b9,m4)=>(b9<=(aX t).length/\m4=((aX t).take b9).foldl (ee b) []/\m4.length<=b9)/\((aX t).length-b9<(aX t).length-i)/\E v3/\Q (.ow 1 ((lH o (bJ v4)).map sV)) (.ow 1 (m4.map sV))/\E (ax (aX t))/\Q (iN (i+1)) (iN b9)/\Er g2 (aP b)/\True) (m6 ((i:Int)+1)/\∃ x:Nat×(List BL),match x with | (b9,m4)=>(b9<=(aX t).length/\m4=((aX t).take b9).foldl (ee b) []/\m4.length<=b9)/\((aX t).length-b9<(aX t).length-i)/\E v3/\Q (.ow 1 (o.map sV)) (.ow 1 (m4.map sV))/\E (ax (aX t))/\Q (iN (i+1)) (iN b9)/\Er g2 (aP b)/\True)) (((.sl false (V.D9 (o.map sV)):V)=ax o)/\Q (ax o) (ax (bL a t)))) (oA (K3 b ((aX t).getD i [])))))) (kp 2 g2))) (sV ((bA t).getD [])) (.tup [sV ((bA t).getD []),bV ((bA t).isSome)])) ?_
 intro g2;refine⟨rfl,rfl,ha.sz,bI (fun j8=>?_) fun j8=>?_⟩;rw[show bL a t=[] from if_neg Zcj];rfl;refine bb ⟨fun l5=>?_,fun l5=>?_,fun b hb=>?_⟩;try simp only[nb]at l5
 refine⟨rfl,rfl,⟨ha,by have:=BH t;omega⟩,fun g8=>⟨rfl,bI (fun m8=>?_) fun m8=>?_⟩⟩;refine bb ⟨(⟨(oA (K3 a ((bA t).getD []))).l3,(oA (K3 a ((bA t).getD []))).h9,(oA (K3 a ((bA t).getD []))).asks,(oA (K3 a ((bA t).getD []))).ask⟩:x3),Zd1,ak (gN (gN ⟨Zah,ao⟩))⟩;exact⟨(⟨a.l3,a.h9,a.asks,a.ask⟩:x3),Zd1,rfl,rfl,rfl,rfl,rfl,rfl,rfl,rfl,rfl,rfl,rfl,rfl,rfl,rfl,rfl,rfl,rfl,Zah,trivial⟩;try simp only[nb]at l5
 exact⟨(⟨a.l3,a.h9,a.asks,a.ask⟩:x3),Zd1,rfl,rfl,rfl,rfl,rfl,rfl,rfl,rfl,rfl,rfl,rfl,rfl,rfl,rfl,rfl,rfl,rfl,Zah,trivial⟩;refine bb ⟨⟨(0,[]),?_,ao⟩,?_⟩;simp;rintro⟨i,o⟩ ⟨h1,h2,h3⟩;have L':=iP (n:=300) (fun m hm=>(RH m hm).1) i;have hbs:di b:=pE (by rw[hb];exact AT Zda);refine bI (fun y9=>?_) fun y9=>?_;refine⟨rfl,Zcf,trivial,rfl,⟨hbs,ao⟩,fun g12=>⟨rfl,fun _=>bI (fun E4=>?_) fun E4=>?_⟩⟩;refine⟨rfl,rfl,(Ki _ _).sz,bm ⟨(i+1,lH o (bJ (oA (K3 b ((aX t).getD i []))))),?_,?_,ao⟩⟩;refine⟨Zac,?_,?_⟩;rw[foldl_succ (d:=[]) Zac,<- h2];exact(if_pos E4).symm;have:=Dx (l:=o) (s:=bJ (oA (K3 b ((aX t).getD i []))));omega;exact Zak;refine ak ⟨(i+1,o),?_,?_,ao⟩;refine⟨Zac,?_,ao⟩;rw[foldl_succ (d:=[]) Zac,<- h2];exact(if_neg (by rw[E4];decide)).symm;exact Zak;refine⟨Zce,?_⟩;rw[show bL a t=_ from if_pos Zda,<- hb,h2,Zaz Zac])
def pH(d:BL)(k:Int)(t:BL):aC:=.mk 99 [sV d,iV k,sV t] [] ((d.length<=4611686018427387904)/\(t.length<=4611686018427387904)) (ax (bc d k t)) [] (by
 rintro⟨hd,ht⟩
 refine au Tryz.func99
  (.l7 2<|.q 2<|.br (.q 1<|.c (eh d) []<|.q 3<|.al dj (fun g7=>.st none<|.q 1<|.r 2 [.c9]<|.c (uU (oA (aT d)) t) []<|.q 1<|.nil)) (.q 2<|.br (.q 1<|.bs<|.q 1<|.nil) (.bs<|.q 1<|.nil)))
  (Br (o5 k 1) ((eh d).sm/\((d.length<=4611686018427387904))/\∀ g7:Nat,Z g7 0/\Z g7 0/\(uU (oA (aT d)) t).sm/\((di (oA (aT d)))/\(t.length<=4611686018427387904))/\Q (ax (bL (oA (aT d)) t)) (ax (bc d k t))) (Br (o5 k 2) (Q (.sl false [sV t]) (ax (bc d k t))) (Q (.sl false []) (ax (bc d k t))))) ?_
 refine bI (fun j8=>?_) fun j8=>?_;refine bb fun g7=>⟨rfl,rfl,rfl,⟨by first | assumption | exact lE _ | exact Ki _ _,ao⟩,?_⟩;rw[show bc d k t=bL (oA (aT d)) t from if_pos j8];refine bI (fun l5=>?_) fun l5=>?_;rw[show bc d k t=[t] from by rw[bc,if_neg j8,if_pos l5]];rfl;rw[show bc d k t=[] from by rw[bc,if_neg j8,if_neg l5]];rfl)
def Rg(r:Bool)(q:Nat):Int:=if 0<q then 1 else if r=true then 2 else 0
theorem Kh(r:Bool)(q:Nat):Rg r q=0\/Rg r q=1\/Rg r q=2:=by
 unfold Rg;split;exact .inr (.inl rfl);split;exact .inr (.inr rfl);exact .inl rfl
theorem Mv{r:Bool}{q:Nat}(h:Rg r q=1):0<q/\True:=by
 unfold Rg at h;split at h;rename_i hc;exact⟨hc,trivial⟩;split at h <;> omega
theorem OS{r:Bool}{q:Nat}(h:Rg r q=2):q=0/\r=true:=by
 unfold Rg at h;split at h;omega;rename_i h1;split at h;rename_i h2;exact⟨Zac,h2⟩;omega
theorem ON{r:Bool}{q:Nat}(h:Rg r q=0):q=0/\r=false:=by
 unfold Rg at h;split at h;omega;rename_i h1;split at h;omega;rename_i h2;exact⟨Zac,Zb4⟩
theorem MB{t:BL}{o:List BL}{r:Bool}{q i b:Nat}(hq:0<q)(hb:b+1=q):dV t (o,r,q) i=(if t.getD i 0=62 then o++[(t.take i).drop b] else o,r,if t.getD i 0=62 then 0 else q):=by
 by_cases h:t.getD i 0=62;rw[Mp hq h,if_pos h,if_pos h,show q-1=b from Zac];rw[MX hq h,if_neg h,if_neg h]
theorem NQ{t:BL}{o:List BL}{i:Nat}:dV t (o,false,0) i=(o,t.getD i 0==40,if t.getD i 0=60 then i+2 else 0):=by
 by_cases h:t.getD i 0=40;rw[Nq rfl h,if_neg (by rw[h];decide),h];rfl;by_cases h2:t.getD i 0=60;rw[Mk rfl h h2,if_pos h2,h2];rfl;rw[Mq rfl h h2,if_neg h2,show (t.getD i 0==40)=false from by simpa using h]
theorem Ij{c:UInt8}{r:Bool}{q:Nat}(hr:r=false)(hq:0<q):(if c=62 then (0:Int) else 1)=Rg r (if c=62 then 0 else q):=by
 subst hr;unfold Rg;by_cases h:c=62;simp[h];simp[h,hq]
theorem Ip{c:UInt8}:(if c=41 then (0:Int) else 2)=Rg (!(c==41)) 0:=by
 unfold Rg;by_cases h:c=41;simp[h];simp[h]
theorem IZ{c:UInt8}{i:Nat}:(if c=60 then (1:Int) else if c=40 then 2 else 0)=Rg (c==40) (if c=60 then i+2 else 0):=by
 unfold Rg;by_cases h:c=60;simp[h];by_cases h2:c=40;simp[h2];simp[h,h2]
def DE(i:Nat)(c:UInt8)(u v:Nat)(s:Int)(b:Nat):aC:=.mk 123 [iN i,uN c.toNat,kp 1000 u,kp 1001 v] [(1000,(u,iV s)),(1001,(v,iN b))] (i<=1000) (.tup []) [(1000,(u,iV (if c=60 then 1 else if c=40 then 2 else s))),(1001,(v,iN (if c=60 then i+1 else b)))] (by
 intro hi
 refine au Tryz.func123
  (.q 1<|.q 2<|.br (.q 2<|.st none<|.st none<|.nil) (.q 2<|.br (.st none<|.nil) (.nil)))
  (Br (o5 (c.toNat:Int) 60) (m6 ((i:Int)+1)/\Z u 0/\Z v 0/\Q (.tup []) (.tup [])/\Qr u (iN 1) u (iV (if c=60 then 1 else if c=40 then 2 else s))/\Qr v (iN (i+1)) v (iN (if c=60 then i+1 else b))) (Br (o5 (c.toNat:Int) 40) (Z u 0/\Q (.tup []) (.tup [])/\Qr u (iN 2) u (iV (if c=60 then 1 else if c=40 then 2 else s))/\Qr v (iN b) v (iN (if c=60 then i+1 else b))) (Q (.tup []) (.tup [])/\Qr u (iV s) u (iV (if c=60 then 1 else if c=40 then 2 else s))/\Qr v (iN b) v (iN (if c=60 then i+1 else b))))) ?_
 refine bI (fun j8=>?_) fun j8=>?_;refine bm ⟨?_,by rw[if_pos (c8 (k:=60) j8)] <;> rfl,by rw[if_pos (c8 (k:=60) j8)] <;> rfl⟩;rfl;refine bI (fun l5=>?_) fun l5=>?_;refine⟨rfl,⟨?_,by rw[if_neg (Ua (k:=60) j8),if_pos (c8 (k:=40) l5)] <;> rfl,by rw[if_neg (Ua (k:=60) j8)] <;> rfl⟩⟩;rfl;refine⟨?_,by rw[if_neg (Ua (k:=60) j8),if_neg (Ua (k:=40) l5)] <;> rfl,by rw[if_neg (Ua (k:=60) j8)] <;> rfl⟩;rfl)
def Gk(i:Nat)(c:UInt8)(u v p q:Nat)(o:List BL)(t:BL)(b:Nat)(s:Int):aC:=.mk 124 [iN i,uN c.toNat,kp 1000 u,kp 1001 v,kp 1002 p,kp 1003 q] [(1000,(u,.ow 1 (o.map sV))),(1001,(v,sV t)),(1002,(p,iN b)),(1003,(q,iV s))] ((b<=i)/\(i<=t.length)/\(o.length<=1000)) (.tup []) [(1000,(u,.ow 1 ((if c=62 then o++[(t.take i).drop b] else o).map sV))),(1001,(v,sV t)),(1002,(p,iN b)),(1003,(q,iV (if c=62 then 0 else s)))] (by
 rintro⟨hb,hi,ho⟩
 refine au Tryz.func124
  (.q 2<|.br (.oR (.key 1000) [] (fun gA oA cA=>.A7 7 [(0,m5 [1000] [10]),(1,m5 [1001] [11]),(2,m5 [1002] [12]),(6,⟨true,[],none,[16],[1000]⟩)]<|.n9<|.n9<|.n9<|.l7 2<|.bs<|.ux none (fun g16 X6 Yq=>.h (.n8 16 (.own 1 ((o++[(t.take i).drop b]).map sV) g16 X6 Yq))<|.st none<|.st none<|.nil))) (.nil))
  ((fun (v2:V) (v1:List V)=>(Br (o5 (c.toNat:Int) 62) (∀ gA oA cA:Nat,Z u 0/\Z v 0/\Z p 0/\Sx (b:Int) (i:Int) t/\(((1,1,gA,oA,cA,(o.map sV).length)=(1,1,gA,oA,cA,(o.map sV).length))/\(V.aF v1=false)/\(aW 1 v1)/\(((o.map sV).length+v1.length)*16<=140737488355328))/\∀ g16 X6 Yq:Nat,((.own 1 ((o.map sV)++v1) g16 X6 Yq:V)=.own 1 ((o++[(t.take i).drop b]).map sV) g16 X6 Yq)/\Z u 0/\Z q 0/\Q (.tup []) (.tup [])/\Qr u (.ow 1 ((o++[(t.take i).drop b]).map sV)) u v2/\Er v (sV t)/\Er p (iN b)/\Qr q (iN 0) q (iV (if c=62 then 0 else s))) (Q (.tup []) (.tup [])/\Qr u (.ow 1 (o.map sV)) u v2/\Er v (sV t)/\Er p (iN b)/\Qr q (iV s) q (iV (if c=62 then 0 else s))))) (.ow 1 ((if c=62 then o++[(t.take i).drop b] else o).map sV)) ([sV ((t.take i).drop b)]:List V)) ?_
 refine bI (fun j8=>?_) fun j8=>?_;intro gA oA cA;refine df ⟨bm Zal,fun g16 X6 Yq=>⟨Zbm (V.own 1 · g16 X6 Yq) Zad,bb ⟨?_,by rw[if_pos (c8 (k:=62) j8)] <;> rfl,bb (by rw[if_pos (c8 (k:=62) j8)] <;> rfl)⟩⟩⟩;rfl;refine⟨?_,by rw[if_neg (Ua (k:=62) j8)] <;> rfl,bb (by rw[if_neg (Ua (k:=62) j8)] <;> rfl)⟩;rfl)
def HY(i:Nat)(c:UInt8)(u:Nat)(s:Int):aC:=.mk 125 [iN i,uN c.toNat,kp 1000 u] [(1000,(u,iV s))] True (.tup []) [(1000,(u,iV (if c=41 then 0 else s)))] (by
 intro _
 refine au Tryz.func125
  (.q 2<|.br (.st none<|.nil) (.nil))
  (Br (o5 (c.toNat:Int) 41) (Z u 0/\Q (.tup []) (.tup [])/\Qr u (iN 0) u (iV (if c=41 then 0 else s))) (Q (.tup []) (.tup [])/\Qr u (iV s) u (iV (if c=41 then 0 else s)))) ?_
 refine bI (fun j8=>?_) fun j8=>?_;refine⟨rfl,⟨?_,by rw[if_pos (c8 (k:=41) j8)] <;> rfl⟩⟩;rfl;refine⟨?_,by rw[if_neg (Ua (k:=41) j8)] <;> rfl⟩;rfl)
def lJ(t:BL):aC:=.mk 82 [sV t] [] (t.length<=4611686018427387904) (ax (ay t)) [] (by
 intro ht
 refine au Tryz.func82
  (.bx (fun g1=>.q 1<|.r 3 [.c9]<|.br (.q 1<|.nil) (.al OR (fun g3=>.al zt3 (fun g4=>.al zt3 (fun g5=>.st none<|.st none<|.al Oa (fun g6=>.cu Wh (fun _=>.q 1<|.st none<|.cu Wh (fun _=>.q 1<|.st none<|.cu Wh (fun _=>.q 1<|.st none<|.q 1<|.h (.B9 (.key 3) [] 1)<|.loop (Nat×(List BL)×Bool×Nat×Int×Nat) (fun (i,o,r,q,s,b)=>⟨[(1,kp 1 g1),(3,kp 3 g3),(4,kp 4 g4),(5,kp 5 g5),(6,kp 6 g6),(7,iN i)],[(1,(g1,sV t)),(3,(g3,.ow 1 (o.map sV))),(4,(g4,iV s)),(5,(g5,iN b)),(6,(g6,.agg [.lit (.func (.func 123) #[] #[.pointer (some ⟨g4,0,none⟩),.pointer (some ⟨g5,0,none⟩)]),.lit (.func (.func 124) #[] #[.pointer (some ⟨g3,0,none⟩),.pointer (some ⟨g1,0,none⟩),.pointer (some ⟨g5,0,none⟩),.pointer (some ⟨g4,0,none⟩)]),.lit (.func (.func 125) #[] #[.pointer (some ⟨g4,0,none⟩)])]))]⟩) (fun (i,o,r,q,s,b)=>i<=t.length/\cn t i=(o,r,q)/\s=Rg r q/\(0<q->b+1=q)) (fun (i,o,r,q,s,b)=>t.length-i) (fun (i,o,r,q,s,b)=>.r 2 [.c9]<|.sp (o5 s 1) (.h (.r4 4 (iV 1))<|.l7 2<|.br (.A7 7 [(0,m5 [4] [23]),(2,m5 [6] [25]),(4,m5 [1] [27])]<|.n9<|.q 1<|.n9<|.q 1<|.n9<|.l7 2<|.c (Gk i (t.getD i 0) g3 g1 g5 g4 o t b (1:Int)) [(1000,3),(1001,1),(1002,5),(1003,4)]<|.q 3<|.nil) (.oR (.key 3) [] (fun gE oE cE=>.mv<|.h (.fz 31)<|.h (.n8 31 (ax o))<|.q 1<|.nil))) (.q 1<|.sp (o5 s 2) (.h (.r4 4 (iV 2))<|.q 1<|.br (.A7 7 [(0,m5 [4] [23]),(2,m5 [6] [25]),(4,m5 [1] [27])]<|.n9<|.q 1<|.n9<|.q 1<|.n9<|.l7 2<|.c (HY i (t.getD i 0) g4 (2:Int)) [(1000,4)]<|.q 3<|.nil) (.oR (.key 3) [] (fun gE oE cE=>.mv<|.h (.fz 31)<|.h (.n8 31 (ax o))<|.q 1<|.nil))) (.h (.r4 4 (iV 0))<|.q 1<|.br (.A7 7 [(0,m5 [4] [23]),(2,m5 [6] [25]),(4,m5 [1] [27])]<|.n9<|.q 1<|.n9<|.q 1<|.n9<|.l7 2<|.c (DE i (t.getD i 0) g4 g5 (0:Int) b) [(1000,4),(1001,5)]<|.q 3<|.nil) (.oR (.key 3) [] (fun gE oE cE=>.mv<|.h (.fz 31)<|.h (.n8 31 (ax o))<|.q 1<|.nil)))))))))))))))
  (∀ g1:Nat,(fun v1:V=>Z g1 0/\Br (s9 (t.length:Int) 300) (Q (.sl false []) (ax (ay t))) (∀ g3:Nat,(fun v2:V=> ∀ g4:Nat,(fun v3:V=> ∀ g5:Nat,(fun (v5 v4:V)=>Z g4 0/\Z g5 0/\∀ g6:Nat,(fun v6:V=>((Value.func (.func 123) #[] #[.pointer (some ⟨g4,0,none⟩),.pointer (some ⟨g5,0,none⟩)]).oneCell'=true)/\∀ _:Unit,((0:Int)<=0/\(0:Int)<3)/\Z g6 0/\((Value.func (.func 124) #[] #[.pointer (some ⟨g3,0,none⟩),.pointer (some ⟨g1,0,none⟩),.pointer (some ⟨g5,0,none⟩),.pointer (some ⟨g4,0,none⟩)]).oneCell'=true)/\∀ _:Unit,((0:Int)<=1/\(1:Int)<3)/\Z g6 1/\((Value.func (.func 125) #[] #[.pointer (some ⟨g4,0,none⟩)]).oneCell'=true)/\∀ _:Unit,((0:Int)<=2/\(2:Int)<3)/\Z g6 2/\(∃ x:Nat×(List BL)×Bool×Nat×Int×Nat,match x with | (j6,w4,Qg,A4,Uh,I')=>(j6<=t.length/\cn t j6=(w4,Qg,A4)/\Uh=Rg Qg A4/\(0<A4->I'+1=A4))/\E v1/\E v2/\E v3/\E v5/\E v6/\Q (iN 0) (iN j6)/\Er g1 (sV t)/\Qr g3 (.ow 1 ([].map sV)) g3 (.ow 1 (w4.map sV))/\Qr g4 (iN 0) g4 (iV Uh)/\Qr g5 (iN 0) g5 (iN I')/\Er g6 v4/\True)/\∀ x:Nat×(List BL)×Bool×Nat×Int×Nat,match x with | (i,o,r,q,s,b)=>(i<=t.length/\cn t i=(o,r,q)/\s=Rg r q/\(0<q->b+1=q))->(fun (v8:Bool) (v7:V)=>Z g1 0/\((o5 s 1)=true->((iV s:V)=iV 1)/\Br v8 (Z g4 0/\((0:Int)<=1/\(1:Int)<3)/\Z g6 1/\Z g1 0/\Ix (i:Int) t/\(Gk i (t.getD i 0) g3 g1 g5 g4 o t b (1:Int)).sm/\Er g3 (.ow 1 (o.map sV))/\Er g1 (sV t)/\Er g5 (iN b)/\Er g4 (iV (1:Int))/\((b<=i)/\(i<=t.length)/\(o.length<=1000))/\m6 ((i:Int)+1)/\∃ x:Nat×(List BL)×Bool×Nat×Int×Nat,match x with | (b9,m4,F8,r3,Qf,z8)=>(b9<=t.length/\cn t b9=(m4,F8,r3)/\Qf=Rg F8 r3/\(0<r3->z8+1=r3))/\(t.length-b9<t.length-i)/\E v1/\E v2/\E v3/\E v5/\E v6/\Q (iN (i+1)) (iN b9)/\Er g1 (sV t)/\Qr g3 (.ow 1 ((if (t.getD i 0)=62 then o++[(t.take i).drop b] else o).map sV)) g3 (.ow 1 (m4.map sV))/\Qr g4 (iV (if (t.getD i 0)=62 then 0 else (1:Int))) g4 (iV Qf)/\Qr g5 (iN b) g5 (iN z8)/\Er g6 v4/\True) (∀ gE oE cE:Nat,Z g3 0/\(v7=ax o)/\Q (ax o) (ax (ay t))))/\((o5 s 1)=false->((o5 s 2)=true->((iV s:V)=iV 2)/\Br v8 (Z g4 0/\((0:Int)<=2/\(2:Int)<3)/\Z g6 2/\Z g1 0/\Ix (i:Int) t/\(HY i (t.getD i 0) g4 (2:Int)).sm/\Er g4 (iV (2:Int))/\(True)/\m6 ((i:Int)+1)/\∃ x:Nat×(List BL)×Bool×Nat×Int×Nat,match x with | (b9,m4,F8,r3,Qf,z8)=>(b9<=t.length/\cn t b9=(m4,F8,r3)/\Qf=Rg F8 r3/\(0<r3->z8+1=r3))/\(t.length-b9<t.length-i)/\E v1/\E v2/\E v3/\E v5/\E v6/\Q (iN (i+1)) (iN b9)/\Er g1 (sV t)/\Qr g3 (.ow 1 (o.map sV)) g3 (.ow 1 (m4.map sV))/\Qr g4 (iV (if (t.getD i 0)=41 then 0 else (2:Int))) g4 (iV Qf)/\Qr g5 (iN b) g5 (iN z8)/\Er g6 v4/\True) (∀ gE oE cE:Nat,Z g3 0/\(v7=ax o)/\Q (ax o) (ax (ay t))))/\((o5 s 2)=false->((iV s:V)=iV 0)/\Br v8 (Z g4 0/\((0:Int)<=0/\(0:Int)<3)/\Z g6 0/\Z g1 0/\Ix (i:Int) t/\(DE i (t.getD i 0) g4 g5 (0:Int) b).sm/\Er g4 (iV (0:Int))/\Er g5 (iN b)/\((i<=1000))/\m6 ((i:Int)+1)/\∃ x:Nat×(List BL)×Bool×Nat×Int×Nat,match x with | (b9,m4,F8,r3,Qf,z8)=>(b9<=t.length/\cn t b9=(m4,F8,r3)/\Qf=Rg F8 r3/\(0<r3->z8+1=r3))/\(t.length-b9<t.length-i)/\E v1/\E v2/\E v3/\E v5/\E v6/\Q (iN (i+1)) (iN b9)/\Er g1 (sV t)/\Qr g3 (.ow 1 (o.map sV)) g3 (.ow 1 (m4.map sV))/\Qr g4 (iV (if (t.getD i 0)=60 then 1 else if (t.getD i 0)=40 then 2 else (0:Int))) g4 (iV Qf)/\Qr g5 (iN (if (t.getD i 0)=60 then i+1 else b)) g5 (iN z8)/\Er g6 v4/\True) (∀ gE oE cE:Nat,Z g3 0/\(v7=ax o)/\Q (ax o) (ax (ay t)))))) (s4 (i:Int) (t.length:Int)) (.sl false (V.D9 (o.map sV)):V)) (kp 6 g6)) (kp 5 g5) (.agg [.lit (.func (.func 123) #[] #[.pointer (some ⟨g4,0,none⟩),.pointer (some ⟨g5,0,none⟩)]),.lit (.func (.func 124) #[] #[.pointer (some ⟨g3,0,none⟩),.pointer (some ⟨g1,0,none⟩),.pointer (some ⟨g5,0,none⟩),.pointer (some ⟨g4,0,none⟩)]),.lit (.func (.func 125) #[] #[.pointer (some ⟨g4,0,none⟩)])])) (kp 4 g4)) (kp 3 g3))) (kp 1 g1)) ?_
 intro g1;refine⟨rfl,bI (fun j8=>?_) fun j8=>?_⟩;rw[show ay t=[] from if_neg Zac];rfl;intro g3;intro g4;intro g5;refine bb fun g6=>⟨rfl,fun _=>bm fun _=>bm fun _=>bb ⟨⟨(0,[],false,0,0,0),?_,gN ⟨Zah,ao⟩⟩,?_⟩⟩;exact⟨Zac,rfl,rfl,fun h=>absurd h Zaf⟩;rintro⟨i,o,r,q,s,b⟩ ⟨h1,h2,h3,h4⟩;have VE:=uj t i;rw[h2]at VE;have UL:=VE.len;have Y7:=VE.pos;have ZK:=VE.one;simp only at UL Y7 ZK;have D4:=Kh r q;refine⟨rfl,⟨fun S6=>?_,fun S6=>?_⟩⟩;have S':=S6;try simp only[nb]at S'
 refine⟨Zbm iV Zac,bI (fun l5=>?_) fun l5=>?_⟩;refine bb (gN ⟨⟨by have hz1:=Mv (h3.symm.trans Zac);have SZ:=h4 hz1.1;omega,ao⟩,ak ⟨(i+1,if (t.getD i 0)=62 then o++[(t.take i).drop b] else o,r,if (t.getD i 0)=62 then 0 else q,if (t.getD i 0)=62 then 0 else (1:Int),b),?_,?_,ao⟩⟩);obtain⟨Xw,UD⟩:=Mv (h3.symm.trans Zac);exact⟨Zac,by rw[show cn t (i+1)=dV t (cn t i) i from rfl,h2,MB Xw (h4 Xw)],(Ij (ZK Xw) Xw),fun hq=>by split at hq;omega;rw[if_neg (by assumption)];exact h4 Xw⟩;exact Zak;intro gE oE cE;refine⟨rfl,Zce,?_⟩;rw[show ay t=o from by rw[show ay t=(cn t t.length).1 from if_pos Zac,show t.length=i from Zac,h2]];have S':=S6;try simp only[nb]at S'
 refine⟨fun S5=>?_,fun S5=>?_⟩;have S9:=S5;try simp only[nb]at S9
 refine⟨Zbm iV Zac,bI (fun m8=>?_) fun m8=>?_⟩;refine ak (gN ⟨(i+1,o,!((t.getD i 0)==41),0,if (t.getD i 0)=41 then 0 else (2:Int),b),?_,?_,ao⟩);obtain⟨rfl,rfl⟩:=OS (h3.symm.trans Zac);exact⟨Zac,by rw[show cn t (i+1)=dV t (cn t i) i from rfl,h2,MC rfl],Ip,fun hq=>absurd hq Zac⟩;exact Zak;intro gE oE cE;refine⟨rfl,Zce,?_⟩;rw[show ay t=o from by rw[show ay t=(cn t t.length).1 from if_pos Zac,show t.length=i from Zac,h2]];have S9:=S5;try simp only[nb]at S9
 refine⟨Zbm iV Zac,bI (fun y9=>?_) fun y9=>?_⟩;refine bb (gN ⟨(i+1,o,(t.getD i 0)==40,if (t.getD i 0)=60 then i+2 else 0,if (t.getD i 0)=60 then 1 else if (t.getD i 0)=40 then 2 else (0:Int),if (t.getD i 0)=60 then i+1 else b),?_,?_,ao⟩);obtain⟨rfl,rfl⟩:=ON (h3.symm.trans Zac);exact⟨Zac,by rw[show cn t (i+1)=dV t (cn t i) i from rfl,h2,NQ],IZ,fun hq=>by split at hq;rw[if_pos (by assumption),if_pos (by assumption)];omega⟩;exact Zak;intro gE oE cE;refine⟨rfl,Zce,?_⟩;rw[show ay t=o from by rw[show ay t=(cn t t.length).1 from if_pos Zac,show t.length=i from Zac,h2]])
def Xc(c:UInt8):Bool:=eR c||(c==37||lR.contains c)
theorem pj(b:UInt8):(fp b).all Xc=true:=by
 unfold fp;split;rename_i h;simp[Xc,h];unfold fL;have h1:b.toNat / 16<16:=by have:=b.toNat_lt;omega
 have h2:b.toNat % 16<16:=Zac;have hf:∀ k,k<16->Xc (lR.getD k 0)=true:=Zaf;simp only[List.all_cons,List.all_nil,Bool.and_true,Zao];exact⟨Zaf,hf _ h1,hf _ h2⟩
theorem vr:∀ (s:BL) {x:BL},dn s=some x->x.all Xc=true
 | [],x,h=>by simp[dn]at h;subst h;rfl
 | [c],x,h=>by
   simp only[dn]at h;split at h;simp at h;simp only[Zan]at h;subst h;exact pj c
 | [c,d],x,h=>by
   simp only[dn]at h;split at h;simp at h;simp only[Zan]at h;subst h;rw[List.all_append,pj,pj];rfl
 | c::a::b::r,x,h=>by
   simp only[dn]at h;split at h;split at h;simp only[Option.map_eq_some_iff]at h;obtain⟨y,hy,rfl⟩:=h;rw[List.all_append,pj,vr r hy];rfl;simp at h;simp only[Option.map_eq_some_iff]at h;obtain⟨y,hy,rfl⟩:=h;rw[List.all_append,pj,vr (a::b::r) hy];rfl
theorem pk{s:BL}(h:fJ s=true):s.all Xc=true/\fq s=s/\fR s=true:=by
 unfold fJ at h;simp only[Zao,Zbl]at h;refine⟨?_,h.2,h.1⟩;have h1:=h.1;have h2:=h.2;unfold cG at h1 h2;split at h1;rename_i hl;rw[if_pos hl]at h2;cases e:dn s with
 | none=>rw[e]at h1;cases h1
 | some x=>rw[e]at h2;rw[<- h2];exact vr s e
 cases h1
theorem MJ:∀ c:UInt8,Xc c=true->c.toNat<128/\c≠47/\c≠63/\c≠35:=by
 intro c h;unfold Xc eR at h;simp only[Bool.or_eq_true,Zbk,Zbl]at h;have e:∀ k:UInt8,c=k↔c.toNat=k.toNat:=fun k=>UInt8.toNat_inj.symm;have hf:lR.contains c=true->(48<=c.toNat/\c.toNat<=57)\/(65<=c.toNat/\c.toNat<=70):=by
  intro hc;simp only[lR,List.contains_cons,List.contains_nil,Bool.or_eq_true,Zbl,e,Bool.or_false]at hc;simp only[show (48:UInt8).toNat=48 from rfl,show (49:UInt8).toNat=49 from rfl,show (50:UInt8).toNat=50 from rfl,show (51:UInt8).toNat=51 from rfl,show (52:UInt8).toNat=52 from rfl,show (53:UInt8).toNat=53 from rfl,show (54:UInt8).toNat=54 from rfl,show (55:UInt8).toNat=55 from rfl,show (56:UInt8).toNat=56 from rfl,show (57:UInt8).toNat=57 from rfl,show (65:UInt8).toNat=65 from rfl,show (66:UInt8).toNat=66 from rfl,show (67:UInt8).toNat=67 from rfl,show (68:UInt8).toNat=68 from rfl,show (69:UInt8).toNat=69 from rfl,show (70:UInt8).toNat=70 from rfl]at hc;omega
 have h37:c=37->c.toNat=37:=fun h=>by rw[h];rfl
 have hb:(97<=c.toNat/\c.toNat<=122)\/(48<=c.toNat/\c.toNat<=57)\/c.toNat=46\/c.toNat=45\/c.toNat=37\/(65<=c.toNat/\c.toNat<=70):=by
  rcases h with h | h | h;omega;have:=h37 h;omega;have:=hf h;omega
 refine⟨Zac,?_,?_,?_⟩ <;> (intro hc;have:=(e _).1 hc;simp only[show (47:UInt8).toNat=47 from rfl,show (63:UInt8).toNat=63 from rfl,show (35:UInt8).toNat=35 from rfl]at this;omega)
theorem vJ{c:UInt8}:∀ {s:BL},(∀ x,x∈s->x≠c)->ab c s=(s,[],false)
 | [],_=>rfl
 | x::r,h=>by
   simp only[ab,if_neg (h x Zad),vJ (s:=r) (fun y hy=>h y (by simp[hy]))]
theorem AD{c:UInt8}{r:BL}:∀ {s:BL},(∀ x,x∈s->x≠c)->ab c (s++c::r)=(s,r,true)
 | [],_=>by simp[ab]
 | x::s,h=>by
   rw[List.cons_append];simp only[ab,if_neg (h x Zad),AD (s:=s) (r:=r) (fun y hy=>h y (by simp[hy]))]
theorem xR{c:UInt8}:∀ {s:BL},(∀ x,x∈s->x≠c)->ag c s=[s]
 | [],_=>rfl
 | x::r,h=>by
   simp only[ag,if_neg (h x Zad),xR (s:=r) (fun y hy=>h y (by simp[hy]))];rfl
theorem qX{c:UInt8}{r:BL}:∀ {s:BL},(∀ x,x∈s->x≠c)->ag c (s++c::r)=s::ag c r
 | [],_=>by simp[ag]
 | x::s,h=>by
   rw[List.cons_append];simp only[ag,if_neg (h x Zad),qX (s:=s) (r:=r) (fun y hy=>h y (by simp[hy]))];rfl
theorem wP:∀ {ps:List BL},ps≠[]->(∀ p,p∈ps->∀ x,x∈p->x≠47)->ag 47 (dk ps)=ps
 | [],h,_=>absurd rfl h
 | [p],_,h=>xR (h p Zad)
 | p::q::r,_,h=>by
   show ag 47 (p++[47]++dk (q::r))=_;rw[List.append_assoc];show ag 47 (p++47::dk (q::r))=_;rw[qX (h p Zad),wP Zad fun y hy=>h y (by simp[hy])]
theorem vf:∀ (ps:List BL) {o:List BL},(∀ p,p∈ps->fW p=true)->ps.foldl dD o=o++ps
 | [],o,_=>by simp
 | p::ps,o,h=>by
   have hp:=h p Zad;unfold fW at hp;simp only[Zao,Bool.not_eq_true',beq_eq_false_iff_ne]at hp;have e:dD o p=o++[p]:=by
    unfold dD;rw[if_neg (by rintro (c | c);exact hp.1.1.2 c;exact hp.1.2 c),if_neg hp.2]
   rw[List.foldl_cons,e,vf ps fun q hq=>h q (by simp[hq])];simp
theorem iX{a:x3}(h:aR a=true):db a.l3=true/\a.h9.length<=5/\fJ a.ask=true/\(a.asks=true\/a.ask=[])/\(∀ p,p∈a.h9->fW p=true)/\(dy a).length<=60:=by
 unfold aR at h;simp only[Zao,Zbk,Bool.or_eq_true,Zbl,Za2]at h;exact⟨h.1.1.1.1.1,h.1.1.1.1.2,h.1.1.1.2,h.1.1.2,h.1.2,h.2⟩
theorem lr{p:BL}(h:fW p=true):fJ p=true:=by
 unfold fW at h;simp only[Zao]at h;exact h.1.1.1
theorem zV{s:BL}(h:db s=true):∀ c,c∈s->97<=c.toNat/\c.toNat<=122:=by
 unfold db gK at h;simp only[Zao]at h;intro c hc;have:=Za2.1 h.1 c hc;unfold lL at this;simpa using this
theorem uQ{p:BL}(h:fJ p=true):∀ c,c∈p->c.toNat<128/\c≠47/\c≠63/\c≠35:=fun c hc=>MJ c (Za2.1 (pk h).1 c hc)
theorem CD{ps:List BL}{k:UInt8}(hk:k≠47):(∀ p,p∈ps->∀ x,x∈p->x≠k)->∀ x,x∈dk ps->x≠k:=by
 induction ps with
 | nil=>intro _ x hx;simp[dk]at hx
 | cons p ps ih=>
   intro h x hx;cases ps with
   | nil=>exact h p Zad x hx
   | cons q r=>
     simp only[dk,Zax]at hx;rcases hx with (hx | hx) | hx;exact h p Zad x hx;rw[Zav.1 hx];exact fun c=>hk c.symm;exact ih (fun y hy=>h y (by simp[hy])) x hx
theorem JO{a:x3}(h:aR a=true):cU a.l3 [] (bZ a)=some a:=by
 obtain⟨h1,h2,h3,h4,h5,h6⟩:=iX h;have hj:∀ x,x∈([47]++dk a.h9:BL)->x≠63:=by
  intro x hx;rcases Zax.1 hx with hx | hx;rw[Zav.1 hx];decide;exact CD Zaf (fun p hp x hx=>(uQ (lr (h5 p hp)) x hx).2.2.1) x hx
 have Qj:ab 63 (bZ a)=([47]++dk a.h9,a.ask,a.asks):=by
  unfold bZ;cases e:a.asks with
  | true=>
    rw[if_pos rfl];exact AD hj
  | false=>
    rw[if_neg Zaf,List.append_nil,vJ hj];rcases h4 with c | c;rw[e]at c;cases c;rw[c]
 have hs:ag 47 ([47]++dk a.h9)=[]::(if a.h9=[] then [[]] else a.h9):=by
  show ag 47 ([]++47::dk a.h9)=_;rw[qX Zad];split;rename_i e;rw[e];rfl;rename_i e;rw[wP e fun p hp x hx=>(uQ (lr (h5 p hp)) x hx).2.1]
 have Y6:∀ p,p∈ag 47 ([47]++dk a.h9)->p=[]\/p∈a.h9:=by
  intro p hp;rw[hs]at hp;rcases List.mem_cons.1 hp with hp | hp;exact .inl hp;split at hp;exact .inl (Zav.1 hp);exact .inr hp
 have Y3:fq []=[]/\fR []=true:=Zaf;have N2:(ag 47 (ab 63 (bZ a)).1).all fR=true:=by
  rw[Qj];rw[Za2];intro p hp;rcases Y6 p hp with rfl | hp;exact Y3.2;exact(pk (lr (h5 p hp))).2.2
 have hmap:(ag 47 (ab 63 (bZ a)).1).map fq=ag 47 ([47]++dk a.h9):=by
  rw[Qj];have:∀ p,p∈ag 47 ([47]++dk a.h9)->fq p=p:=fun p hp=>by
   rcases Y6 p hp with rfl | hp;exact Y3.1;exact(pk (lr (h5 p hp))).2.1
  exact(List.map_congr_left this).trans (List.map_id _)
 have hcl:cJ ([]++ag 47 ([47]++dk a.h9))=a.h9:=by
  rw[List.nil_append,hs];unfold cJ;rw[List.foldl_cons];have e0:dD [] []=[]:=rfl;rw[e0];split;rename_i e;rw[e];rfl;rw[vf _ h5];rfl
 have ha:(⟨a.l3,a.h9,a.asks,a.ask⟩:x3)=a:=rfl;unfold cU;rw[N2,hmap,Qj,(pk h3).2.2,(pk h3).2.1,hcl];exact(if_pos rfl).trans (if_pos h)
theorem Gx{p:UInt8->Bool}{s r:BL}(h:∀ c,c∈s->p c=true)(hr:∀ c r',r=c::r'->p c=false):(s++r).takeWhile p=s/\(s++r).dropWhile p=r:=by
 induction s with
 | nil=>
   cases r with
   | nil=>exact⟨rfl,rfl⟩
   | cons c r'=>have:=hr c r' rfl;simp[this]
 | cons c s ih=>
   obtain⟨q1,q2⟩:=ih fun d hd=>h d (by simp[hd]);have:=h c Zad;simp[this,q1,q2]
theorem Hu{s:BL}(h:∀ c,c∈s->97<=c.toNat/\c.toNat<=122):cf s=s:=by
 unfold cf;have:∀ c,c∈s->eG c=c:=fun c hc=>by unfold eG;rw[if_neg (by have:=h c hc;omega)]
 exact(List.map_congr_left this).trans (List.map_id _)
theorem ET{a:x3}(h:aR a=true):ew (a.l3++bZ a)=some a:=by
 obtain⟨h1,_⟩:=iX h;have hl:=zV h1;obtain⟨q1,q2⟩:=Gx (p:=kv) (s:=a.l3) (r:=bZ a) (fun c hc=>by have:=hl c hc;unfold kv;rw[Zbk];omega) (fun c r' e=>by
  have:c=47:=by unfold bZ at e;simp at e;exact e.1.symm
  rw[this];decide)
 unfold ew;rw[q1,q2,Hu hl,JO h]
theorem xG{a:x3}(h:aR a=true):∀ c,c∈dy a->c.toNat<128/\c≠35:=by
 obtain⟨h1,h2,h3,h4,h5,h6⟩:=iX h;intro c hc;unfold dy bZ at hc;simp only[Zax]at hc;have h47:∀ c:UInt8,c=47->c.toNat<128/\c≠35:=fun c e=>by rw[e];decide
 rcases hc with (hc | hc) | ((hc | hc) | hc);refine h47 c ?_;simpa using hc;have:=zV h1 c hc;exact⟨Zac,fun e=>by rw[e]at this;exact absurd this Zaf⟩;refine h47 c ?_;simpa using hc;exact⟨by
  have:r9 (dk a.h9):=tv fun x hx d hd=>(uQ (lr (h5 x hx)) d hd).1;exact this c hc,CD Zaf (fun p hp x hx=>(uQ (lr (h5 p hp)) x hx).2.2.2) c hc⟩
 split at hc;rcases Zax.1 hc with hc | hc;rw[Zav.1 hc];decide;exact⟨(uQ h3 c hc).1,(uQ h3 c hc).2.2.2⟩;simp at hc
theorem tG{a:x3}(h:aR a=true):aT (dy a)=some a:=by
 have hc:=vJ (c:=35) (s:=dy a) fun x hx=>(xG h x hx).2;unfold aT;rw[hc];rw[if_pos ⟨(iX h).2.2.2.2.2,by unfold dy;simp,by unfold dy;simp⟩];show ew ((dy a).drop 2)=_;rw[show (dy a).drop 2=a.l3++bZ a from by unfold dy;simp,ET h]
theorem DV{a:x3}(h:aR a=true):ar (dy a)=true:=ze (by rw[tG h];rfl) (by rw[tG h];rfl)
theorem vG(a:x3):r9 (bJ a):=by
 unfold bJ;split;rename_i h;exact fun c hc=>(xG h c hc).1;exact bH
theorem HG{m:BL}{b:UInt8}(hb:b≠0):(!(m==[])&&o5 (((m.getD 0 0).toNat:Nat):Int) ((b.toNat:Nat):Int))=(cW m==b):=by
 unfold cW o5;rw[b8];cases m with
 | nil=>
   show false=_;symm;rw[beq_eq_false_iff_ne];intro c;exact hb (UInt8.toNat_inj.1 (by have:((0:UInt8).toNat:Int)=(b.toNat:Int):=c;omega))
 | cons x r=>rfl
theorem GG{m:BL}(h:cW m=64):1<=m.length:=by
 cases m with
 | nil=>exact absurd h Zaf
 | cons a r=>simp
theorem Hd{m:BL}:fy m=true↔¬ cW m=33/\¬ cW m=64:=by
 unfold fy;simp
theorem Ow{s:BL}(h:fM s [47,47]=true):2<=s.length/\s.take 2=[47,47]:=uE.1 h
theorem Am{s:BL}(h:fM s [47,47]=false): ¬ (2<=s.length/\s.take 2=[47,47]):=fun c=>by rw[(uE (s:=s) (p:=[47,47])).2 c]at h;cases h
theorem Iw{t:BL}(h:r9 t):r9 ((bA t).getD []):=by
 cases e:bA t with
 | none=>exact bH
 | some r=>exact fun c hc=>h c ((DB e).2 c hc)
theorem IN{t:BL}(h:r9 t)(i:Nat):r9 ((aX t).getD i []):=by
 rw[Zam];cases e:(aX t)[i]? with
 | none=>exact bH
 | some x=>exact fun c hc=>h c (((rD t).2 x (Za7 e)).2 c hc)
theorem Mg{b:x3}{o:List BL}{m:BL}(h:(K3 b m).isSome=true)(h2: ¬ bJ (oA (K3 b m))∈o):ee b o m=o++[bJ (oA (K3 b m))]:=by
 unfold ee lH;rw[if_pos h,if_neg Zb4]
theorem MU{b:x3}{o:List BL}{m:BL}(h:(K3 b m).isSome=true)(h2:bJ (oA (K3 b m))∈o):ee b o m=o:=by
 unfold ee lH;rw[if_pos h,if_pos Zb4]
theorem tf(d:BL):di (oA (bg d)):=by
 unfold bg;split;exact lE d;exact sN
def mz(m:BL)(b:UInt8):aC:=.mk 83 [sV m,uN b.toNat] [] (b≠0) (bV (cW m==b)) [] (by
 intro hb
 refine au Tryz.func83
  (.q 1<|.q 9<|.nil)
  (Gd ((!(m==[]))==true) (Ix 0 m)/\Pk (!(m==[])) ((!(m==[]))==true) true/\Q (bV ((!(m==[]))&&(o5 (((m.getD 0 0).toNat:Nat):Int) (b.toNat:Int)))) (bV (cW m==b))) ?_
 refine⟨fun hG=>by(try simp only[nb]at hG);have:=List.length_pos_iff.2 (by simpa using hG);omega,ak ?_⟩;unfold Q;refine Zbm bV ?_;exact HG hb)
abbrev iA(t:BL)(i:Nat):Prop:=i<=(ay t).length/\∀ j,j<i->(cW ((ay t).getD j [])==64)=false
def uV(t:BL):aC:=.mk 48 [sV t] [] (t.length<=4611686018427387904) (.tup [sV ((bA t).getD []),bV ((bA t).isSome)]) [] (by
 intro ht;obtain⟨UL,RH⟩:=mj t
 refine au Tryz.func48
  (.q 2<|.q 1<|.c (lJ t) []<|.q 2<|.loop Nat (fun i=>⟨[(7,ax (ay t)),(8,iN ((ay t).length)),(9,iN i)],[]⟩) (fun i=>iA t i) (fun i=>(ay t).length-i) (fun i=>.q 1<|.br (.r 3 [sV ((ay t).getD i [])]<|.q 1<|.c (mz ((ay t).getD i []) (64:UInt8)) []<|.br (.q 4<|.nil) (.q 2<|.nil)) (.q 2<|.nil)))
  ((fun v1:V=>((lJ t).sm/\((t.length<=4611686018427387904))/\(∃ j6:Nat,(iA t j6)/\E (ax (ay t))/\Q (iN (((ay t).map sV).length)) (iN ((ay t).length))/\Q (iN 0) (iN j6)/\True)/\∀ i:Nat,(iA t i)->Br (s4 (i:Int) (((ay t).length:Nat):Int)) (Ex (i:Int) ((ay t).map sV) (sV ((ay t).getD i []))/\True/\(mz ((ay t).getD i []) (64:UInt8)).sm/\(((64:UInt8)≠0))/\Br (cW ((ay t).getD i [])==(64:UInt8)) (Sx (1:Int) (((ay t).getD i []).length:Int) ((ay t).getD i [])/\Q (.tup [sV ((((ay t).getD i []).take ((ay t).getD i []).length).drop 1),bV true]) v1) (m6 ((i:Int)+1)/\∃ b9:Nat,(iA t b9)/\((ay t).length-b9<(ay t).length-i)/\E (ax (ay t))/\E (iN ((ay t).length))/\Q (iN (i+1)) (iN b9)/\True)) (Q (.tup [sV [],bV false]) v1))) (.tup [sV ((bA t).getD []),bV ((bA t).isSome)])) ?_
 refine bb ⟨⟨0,?_,rfl,Zah,ao⟩,?_⟩;unfold iA;simp;rintro i ⟨h1,h2⟩;refine bI (fun j8=>?_) fun j8=>?_;refine⟨Zcf,trivial,rfl,Zaf,bI (fun l5=>?_) fun l5=>?_⟩;refine⟨by have:=GG (m:=(ay t).getD i []) Zch;omega,?_⟩;rw[show bA t=some (((ay t).getD i []).drop 1) from by rw[bA,yP (i:=i) (d:=[]) Zac Zch h2];rfl,List.take_length];rfl;refine ak ⟨i+1,?_,?_,ao⟩;unfold iA;exact⟨Zac,Zdw⟩;exact Zak;rw[show bA t=none from by rw[bA,CF (d:=[]) (fun j hj=>h2 j Zac)];rfl];rfl)
def tB(t:BL):aC:=.mk 50 [sV t] [] (t.length<=4611686018427387904) (ax (aX t)) [] (by
 intro ht;obtain⟨UL,RH⟩:=mj t
 refine au Tryz.func50
  (.l7 3<|.c (lJ t) []<|.q 2<|.h (.L6 3 1)<|.loop (Nat×(List BL)×Nat×Nat×Nat) (fun (i,o,g,f,k)=>⟨[(3,.own 1 (o.map sV) g f k),(7,ax (ay t)),(8,iN ((ay t).length)),(9,iN i)],[]⟩) (fun (i,o,g,f,k)=>i<=(ay t).length/\o=((ay t).take i).filter fy/\o.length<=i) (fun (i,o,g,f,k)=>(ay t).length-i) (fun (i,o,g,f,k)=>.q 1<|.br (.r 3 [sV ((ay t).getD i [])]<|.q 1<|.c (mz ((ay t).getD i []) (33:UInt8)) []<|.q 3<|.cg (mz ((ay t).getD i []) (64:UInt8))<|.q 2<|.br (.q 2<|.bs<|.ap (fun g24 OY O2=>.h (.n8 24 (.own 1 ((o++[((ay t).getD i [])]).map sV) g24 OY O2))<|.q 1<|.q 2<|.nil)) (.q 2<|.nil)) (.h (.fz 3)<|.h (.n8 3 (ax o))<|.q 2<|.nil)))
  ((lJ t).sm/\((t.length<=4611686018427387904))/\(∃ x:Nat×(List BL)×Nat×Nat×Nat,match x with | (j6,w4,A9,B5,n6)=>(j6<=(ay t).length/\w4=((ay t).take j6).filter fy/\w4.length<=j6)/\Q (.own 1 ([].map sV) 0 0 0) (.own 1 (w4.map sV) A9 B5 n6)/\E (ax (ay t))/\Q (iN (((ay t).map sV).length)) (iN ((ay t).length))/\Q (iN 0) (iN j6)/\True)/\∀ x:Nat×(List BL)×Nat×Nat×Nat,match x with | (i,o,g,f,k)=>(i<=(ay t).length/\o=((ay t).take i).filter fy/\o.length<=i)->(fun (v2:List V) (v1:Bool)=>Br (s4 (i:Int) (((ay t).length:Nat):Int)) (Ex (i:Int) ((ay t).map sV) (sV ((ay t).getD i []))/\True/\(mz ((ay t).getD i []) (33:UInt8)).sm/\(((33:UInt8)≠0))/\Gd (v1==true) ((((64:UInt8)≠0))/\(mz ((ay t).getD i []) (64:UInt8)).sm)/\Pk v1 (v1==true) true/\Br (v1&&(!(cW ((ay t).getD i [])==(64:UInt8)))) (((1,1,g,f,k,(o.map sV).length)=(1,1,g,f,k,(o.map sV).length))/\(True)/\(V.aF v2=false)/\(aW 1 v2)/\(((o.map sV).length+v2.length)*16<=140737488355328)/\∀ g24 OY O2:Nat,((.own 1 ((o.map sV)++v2) g24 OY O2:V)=.own 1 ((o++[((ay t).getD i [])]).map sV) g24 OY O2)/\m6 ((i:Int)+1)/\∃ x:Nat×(List BL)×Nat×Nat×Nat,match x with | (b9,m4,s6,r8,k₂)=>(b9<=(ay t).length/\m4=((ay t).take b9).filter fy/\m4.length<=b9)/\((ay t).length-b9<(ay t).length-i)/\Q (.own 1 ((o++[((ay t).getD i [])]).map sV) g24 OY O2) (.own 1 (m4.map sV) s6 r8 k₂)/\E (ax (ay t))/\E (iN ((ay t).length))/\Q (iN (i+1)) (iN b9)/\True) (m6 ((i:Int)+1)/\∃ x:Nat×(List BL)×Nat×Nat×Nat,match x with | (b9,m4,s6,r8,k₂)=>(b9<=(ay t).length/\m4=((ay t).take b9).filter fy/\m4.length<=b9)/\((ay t).length-b9<(ay t).length-i)/\Q (.own 1 (o.map sV) g f k) (.own 1 (m4.map sV) s6 r8 k₂)/\E (ax (ay t))/\E (iN ((ay t).length))/\Q (iN (i+1)) (iN b9)/\True)) (((.sl false (V.D9 (o.map sV)):V)=ax o)/\Q (ax o) (ax (aX t)))) ([sV ((ay t).getD i [])]:List V) (!(cW ((ay t).getD i [])==(33:UInt8)))) ?_
 refine bb ⟨⟨(0,[],0,0,0),?_,rfl,rfl,Zah,ao⟩,?_⟩;simp;rintro⟨i,o,g,f,k⟩ ⟨h1,h2,h3⟩;refine bI (fun j8=>?_) fun j8=>?_;refine⟨Zcf,trivial,rfl,Zaf,fun hG=>⟨by(try simp only[nb]at hG);decide,rfl⟩,ak (bI (fun l5=>?_) fun l5=>?_)⟩;refine df ⟨Zal,fun g24 OY O2=>⟨Zbm (V.own 1 · g24 OY O2) Zad,ak ⟨(i+1,o++[((ay t).getD i [])],g24,OY,O2),?_,?_,ao⟩⟩⟩;refine⟨Zac,?_,Zal⟩;rw[ba (d:=[]) Zac,List.filter_append,<- h2,List.filter_cons_of_pos (Hd.2 Zch)];rfl;exact Zak;refine ak ⟨(i+1,o,g,f,k),?_,?_,ao⟩;refine⟨Zac,?_,ao⟩;rw[ba (d:=[]) Zac,List.filter_append,<- h2,List.filter_cons_of_neg (fun c=>absurd (Hd.1 c) Zch)];simp;exact Zak;refine⟨Zce,?_⟩;rw[h2,Zaz Zac];rfl)
def uS(a:x3):aC:=.mk 51 [aP a] [] (di a) (sV (bJ a)) [] (by
 intro ha
 refine au Tryz.func51
  (.bx (fun g1=>.q 1<|.n9<|.c (gz a) []<|.q 1<|.br (.q 1<|.nil) (.n9<|.c (jo a) []<|.q 1<|.nil)))
  (∀ g1:Nat,Z g1 0/\(gz a).sm/\((di a))/\Br (!(aR a)) (Q (sV []) (sV (bJ a))) (Z g1 0/\(jo a).sm/\((di a))/\Q (sV (dy a)) (sV (bJ a)))) ?_
 intro g1;refine⟨rfl,rfl,ha,bI (fun j8=>?_) fun j8=>?_⟩;rw[show bJ a=[] from if_neg Zcj];refine⟨rfl,rfl,ha,?_⟩;rw[show bJ a=dy a from if_pos Zda])
def sT(s p:BL):aC:=.mk 84 [sV s,sV p] [] ((s.length<=4611686018427387904)/\(p.length<=4611686018427387904)) (bV (fM s p)) [] (by
 rintro⟨hs,hp⟩
 refine au Tryz.func84
  (.q 1<|.q 2<|.c (mT s p) []<|.q 1<|.nil)
  ((mT s p).sm/\((s.length<=4611686018427387904)/\(p.length<=4611686018427387904))/\Q (bV (fM s p)) (bV (fM s p))) ?_
 refine bb ?_;rfl)
abbrev dZ(a:x3)(ref:BL):V:=.tup [aP (oA (K3 a ref)),bV ((K3 a ref).isSome)]
def mS(a:x3)(ref:BL):aC:=.mk 49 [aP a,sV ref] [] ((di a)/\(a.h9.length<=100)/\(ref.length<=1000000)/\(r9 ref)) (dZ a ref) [] (by
 rintro⟨ha,hp,hr,hc⟩;have Qj:=mh 35 ref
 refine au Tryz.func49
  (.bx (fun g2=>.al dj (fun g4=>.q 1<|.r 5 [.c9]<|.cg (gz a)<|.q 2<|.br (.bd dj<|.st none<|.q 1<|.nil) (.q 1<|.c (pI ref 35) []<|.q 7<|.q 1<|.c (sT ((ab 35 ref).1) ([47,47]:BL)) []<|.q 1<|.br (.q 1<|.c (mZ ((ab 35 ref).1)) []<|.q 2<|.st none<|.q 1<|.nil) (.q 3<|.br (.r 2 [.c9]<|.c (lq a.h9) []<|.ot 36 (fun PU PO Rm=>.h (.fz 36)<|.h (.n8 36 (ax a.h9))<|.q 1<|.st none<|.n9<|.st none<|.q 1<|.nil)) (.q 4<|.br (.r 3 [.c9]<|.c (gn a.l3 ([]:List BL) ((ab 35 ref).1)) []<|.q 2<|.st none<|.q 1<|.nil) (.q 4<|.br (.r 5 [.c9,.c9]<|.c (gn a.l3 a.h9 ((ab 35 ref).1)) []<|.q 2<|.st none<|.q 1<|.nil) (.A7 14 [(1,m5 [2] [62]),(3,m5 [2] [64]),(5,m5 [2] [66])]<|.q 1<|.n9<|.q 1<|.n9<|.q 1<|.n9<|.l7 2<|.mm<|.q 1<|.h (.n8 70 (ax (a.h9.take (a.h9.length-1))))<|.q 1<|.c (gn a.l3 (a.h9.take (a.h9.length-1)) ((ab 35 ref).1)) []<|.l7 2<|.st none<|.q 1<|.nil))))))))
  ((fun (v3 v1:Int) (v2:Bool)=>(∀ g2:Nat,∀ g4:Nat,Gd (v2==false) (Z g2 0)/\Gd (v2==false) (((di a))/\(gz a).sm)/\Pk v2 true (v2==false)/\Br (v2||(!(aR a))) (Z g4 0/\(g4=g4)/\Q (.tup [gL (.sl false []),bV false]) (dZ a ref)) ((pI ref 35).sm/\((ref.length<=1000000))/\(sT ((ab 35 ref).1) ([47,47]:BL)).sm/\((((ab 35 ref).1).length<=4611686018427387904)/\(([47,47]:BL).length<=4611686018427387904))/\Br (fM ((ab 35 ref).1) ([47,47]:BL)) ((mZ ((ab 35 ref).1)).sm/\((((ab 35 ref).1).length<=300)/\(r9 ((ab 35 ref).1)))/\Z g4 0/\(g4=g4)/\Q (.tup [aP (oA (eW ((ab 35 ref).1))),bV ((eW ((ab 35 ref).1)).isSome)]) (dZ a ref)) (Br (((ab 35 ref).1)==[]) (Z g2 1/\(lq a.h9).sm/\((a.h9.length<=1000000))/\∀ PU PO Rm:Nat,((.sl false (V.D9 (a.h9.map sV)):V)=ax a.h9)/\Z g2 1/\Z g2 0/\Z g4 0/\(g4=g4)/\Q (.tup [aP a,bV true]) (dZ a ref)) (Ix 0 ((ab 35 ref).1)/\Br (o5 v3 47) (Z g2 0/\(gn a.l3 ([]:List BL) ((ab 35 ref).1)).sm/\((a.l3.length<=1000)/\(∀ i,(([]:List BL).getD i []).length<=1000)/\(([]:List BL).length<=100)/\(((ab 35 ref).1).length<=300))/\Z g4 0/\(g4=g4)/\Q (.tup [aP (oA (cU a.l3 ([]:List BL) ((ab 35 ref).1))),bV ((cU a.l3 ([]:List BL) ((ab 35 ref).1)).isSome)]) (dZ a ref)) (Ix 0 ((ab 35 ref).1)/\Br (o5 v3 63) (Z g2 0/\Z g2 1/\(gn a.l3 a.h9 ((ab 35 ref).1)).sm/\((a.l3.length<=1000)/\(∀ i,(a.h9.getD i []).length<=1000)/\(a.h9.length<=100)/\(((ab 35 ref).1).length<=300))/\Z g4 0/\(g4=g4)/\Q (.tup [aP (oA (cU a.l3 a.h9 ((ab 35 ref).1))),bV ((cU a.l3 a.h9 ((ab 35 ref).1)).isSome)]) (dZ a ref)) (Z g2 0/\Z g2 1/\Z g2 1/\m6 (v1-1)/\(IntKind.i64=IntKind.i64)/\((0:Int)<=(0:Int)/\(0:Int)<=(max (v1-1) 0)/\(max (v1-1) 0)<=(a.h9.map sV).length/\∀ x∈(a.h9.map sV),x.n=1)/\Q (.sl false (((a.h9.map sV).take (Int.toNat (max (v1-1) 0))).drop ((0:Int).toNat))) (ax (a.h9.take (a.h9.length-1)))/\(gn a.l3 (a.h9.take (a.h9.length-1)) ((ab 35 ref).1)).sm/\((a.l3.length<=1000)/\(∀ i,((a.h9.take (a.h9.length-1)).getD i []).length<=1000)/\((a.h9.take (a.h9.length-1)).length<=100)/\(((ab 35 ref).1).length<=300))/\Z g4 0/\(g4=g4)/\Q (.tup [aP (oA (cU a.l3 (a.h9.take (a.h9.length-1)) ((ab 35 ref).1))),bV ((cU a.l3 (a.h9.take (a.h9.length-1)) ((ab 35 ref).1)).isSome)]) (dZ a ref)))))))) (((((ab 35 ref).1).getD 0 0).toNat:Nat):Int) (((a.h9.map sV).length:Nat):Int) (s9 (ref.length:Int) 60)) ?_
 intro g2;intro g4;refine ak ⟨fun hG=>⟨ha,rfl⟩,ak (bI (fun j8=>?_) fun j8=>?_)⟩;refine⟨rfl,⟨rfl,?_⟩⟩;unfold Q dZ;rw[show K3 a ref=none from if_pos (j8.symm.imp id fun h=>by omega)];rfl;refine bm ⟨ak Zad,bI (fun l5=>?_) fun l5=>?_⟩;refine⟨rfl,ak (hc.cut 35),rfl,⟨rfl,?_⟩⟩;unfold Q dZ;rw[qd ⟨j8.2,j8.1⟩,if_pos (Ow l5),show eW (ab 35 ref).1=ew ((ab 35 ref).1.drop 2) from if_pos l5];refine bI (fun m8=>?_) fun m8=>?_;refine bm fun PU PO Rm=>⟨Zce,bm ⟨rfl,?_⟩⟩;unfold Q dZ;rw[qd ⟨j8.2,j8.1⟩,if_neg (Am l5),if_pos Zdb];rfl;refine⟨Zdz,bI (fun y9=>?_) fun y9=>?_⟩;refine⟨rfl,rfl,⟨ha.1,Zad,Zad,ao⟩,rfl,⟨rfl,?_⟩⟩;unfold Q dZ;rw[qd ⟨j8.2,j8.1⟩,if_neg (Am l5),if_neg Zdb,if_pos (Ag (k:=47) y9)];refine⟨Zdz,bI (fun E4=>?_) fun E4=>?_⟩;refine⟨rfl,rfl,rfl,⟨ha.1,ha.2.2.2,hp,ao⟩,rfl,⟨rfl,?_⟩⟩;unfold Q dZ;rw[qd ⟨j8.2,j8.1⟩,if_neg (Am l5),if_neg Zdb,if_neg (uJ (k:=47) y9),if_pos (Ag (k:=63) E4)];refine eQ ⟨⟨Zcg,Zcg,Zcg,all_map (fun _=>rfl)⟩,Zdy,rfl,⟨ha.1,Dl ha.2.2.2,Zd0,ao⟩,rfl,?_⟩;refine⟨rfl,?_⟩;unfold Q dZ;rw[qd ⟨j8.2,j8.1⟩,if_neg (Am l5),if_neg Zdb,if_neg (uJ (k:=47) y9),if_neg (uJ (k:=63) E4)])
def tn(a:x3)(t:BL):aC:=.mk 20 [aP a,sV t] [] ((di a)/\(t.length<=4611686018427387904)/\(r9 t)) (ax (bL a t)) [] (by
 rintro⟨ha,ht,hc⟩;obtain⟨UL,RH⟩:=rD t
 refine au Tryz.func20
  (.bx (fun g2=>.q 1<|.n9<|.c (gz a) []<|.q 1<|.br (.q 1<|.nil) (.n9<|.al dj (fun g5=>.st none<|.q 1<|.c (uV t) []<|.q 5<|.q 1<|.join (x3) (fun b=>⟨[(1,sV t),(5,kp 5 g5)],[(5,(g5,aP b))]⟩) (fun b=>b=(fP a t)) (.r 2 [.c9]<|.c (mS a ((bA t).getD [])) []<|.q 3<|.al dj (fun g8=>.st none<|.l7 2<|.br (.n9<|.st none<|.nil) (.nil))) (.nil) (fun b=>.l7 2<|.c (tB t) []<|.q 2<|.h (.L6 10 1)<|.loop (Nat×(List BL)×Nat×Nat×Nat) (fun (i,o,g,f,k)=>⟨[(5,kp 5 g5),(10,.own 1 (o.map sV) g f k),(35,ax (aX t)),(36,iN ((aX t).length)),(37,iN i)],[(5,(g5,aP b))]⟩) (fun (i,o,g,f,k)=>i<=(aX t).length/\o=((aX t).take i).foldl (ee b) []/\o.length<=i) (fun (i,o,g,f,k)=>(aX t).length-i) (fun (i,o,g,f,k)=>.q 1<|.br (.r 3 [sV ((aX t).getD i [])]<|.r 2 [.c9]<|.c (mS b ((aX t).getD i [])) []<|.q 3<|.al dj (fun g13=>.st none<|.q 1<|.q 2<|.br (.q 2<|.nil) (.n9<|.c (uS (oA (K3 b ((aX t).getD i [])))) []<|.q 1<|.q 2<|.cl (uL o (bJ (oA (K3 b ((aX t).getD i [])))))<|.q 1<|.br (.q 2<|.bs<|.ap (fun WK V8 WW=>.h (.n8 58 (.own 1 ((o++[bJ (oA (K3 b ((aX t).getD i [])))]).map sV) WK V8 WW))<|.q 1<|.q 2<|.nil)) (.q 2<|.nil)))) (.h (.fz 10)<|.h (.n8 10 (ax o))<|.q 2<|.nil)))))))
  ((fun v1:Nat=>(∀ g2:Nat,Z g2 0/\(gz a).sm/\((di a))/\Br (!(aR a)) (Q (.sl false []) (ax (bL a t))) (Z g2 0/\∀ g5:Nat,(fun v2:V=>Z g5 0/\(uV t).sm/\((t.length<=4611686018427387904))/\(((bA t).isSome)=true->Z g2 0/\(mS a ((bA t).getD [])).sm/\((di a)/\(a.h9.length<=100)/\(((bA t).getD []).length<=1000000)/\(r9 ((bA t).getD [])))/\∀ g8:Nat,Z g8 0/\Br ((K3 a ((bA t).getD [])).isSome) (Z g8 0/\Z g5 0/\∃ b:x3,(b=(fP a t))/\E (sV t)/\E v2/\Qr g5 (aP (oA (K3 a ((bA t).getD [])))) g5 (aP b)/\True) (∃ b:x3,(b=(fP a t))/\E (sV t)/\E v2/\Qr g5 (aP a) g5 (aP b)/\True))/\(((bA t).isSome)=false->∃ b:x3,(b=(fP a t))/\E (sV t)/\E v2/\Qr g5 (aP a) g5 (aP b)/\True)/\(∀ b:x3,(b=(fP a t))->(tB t).sm/\((t.length<=4611686018427387904))/\(∃ x:Nat×(List BL)×Nat×Nat×Nat,match x with | (j6,w4,A9,B5,n6)=>(j6<=(aX t).length/\w4=((aX t).take j6).foldl (ee b) []/\w4.length<=j6)/\E v2/\Q (.own 1 ([].map sV) 0 0 0) (.own 1 (w4.map sV) A9 B5 n6)/\E (ax (aX t))/\Q (iN (((aX t).map sV).length)) (iN v1)/\Q (iN 0) (iN j6)/\Er g5 (aP b)/\True)/\∀ x:Nat×(List BL)×Nat×Nat×Nat,match x with | (i,o,g,f,k)=>(i<=(aX t).length/\o=((aX t).take i).foldl (ee b) []/\o.length<=i)->(fun v3:x3=>(fun v4:List V=>Br (s4 (i:Int) (((aX t).length:Nat):Int)) (Ex (i:Int) ((aX t).map sV) (sV ((aX t).getD i []))/\True/\Z g5 0/\(mS b ((aX t).getD i [])).sm/\((di b)/\(b.h9.length<=100)/\(((aX t).getD i []).length<=1000000)/\(r9 ((aX t).getD i [])))/\∀ g13:Nat,Z g13 0/\Br (!((K3 b ((aX t).getD i [])).isSome)) (m6 ((i:Int)+1)/\∃ x:Nat×(List BL)×Nat×Nat×Nat,match x with | (b9,m4,s6,r8,k₂)=>(b9<=(aX t).length/\m4=((aX t).take b9).foldl (ee b) []/\m4.length<=b9)/\((aX t).length-b9<(aX t).length-i)/\E v2/\Q (.own 1 (o.map sV) g f k) (.own 1 (m4.map sV) s6 r8 k₂)/\E (ax (aX t))/\E (iN v1)/\Q (iN (i+1)) (iN b9)/\Er g5 (aP b)/\True) (Z g13 0/\(uS v3).sm/\((di v3))/\(((1=1/\g=g/\f=f)/\0+((o.map sV).length)<=(o.map sV).length/\V.aF (o.map sV)=false/\aW 1 (o.map sV))/\True)/\(([.sl false (((o.map sV).drop 0).take ((o.map sV).length)),sV (bJ v3)]:List V)=[ax o,sV (bJ v3)])/\((o.length<=1000000))/\Br (!(o.contains (bJ v3))) (((1,1,g,f,k,(o.map sV).length)=(1,1,g,f,k,(o.map sV).length))/\(True)/\(V.aF v4=false)/\(aW 1 v4)/\(((o.map sV).length+v4.length)*16<=140737488355328)/\∀ WK V8 WW:Nat,((.own 1 ((o.map sV)++v4) WK V8 WW:V)=.own 1 ((o++[bJ v3]).map sV) WK V8 WW)/\m6 ((i:Int)+1)/\∃ x:Nat×(List BL)×Nat×Nat×Nat,match x with | (b9,m4,s6,r8,k₂)=>(b9<=(aX t).length/\m4=((aX t).take b9).foldl (ee b) []/\m4.length<=b9)/\((aX t).length-b9<(aX t).length-i)/\E v2/\Q (.own 1 ((o++[bJ v3]).map sV) WK V8 WW) (.own 1 (m4.map sV) s6 r8 k₂)/\E (ax (aX t))/\E (iN v1)/\Q (iN (i+1)) (iN b9)/\Er g5 (aP b)/\True) (m6 ((i:Int)+1)/\∃ x:Nat×(List BL)×Nat×Nat×Nat,match x with | (b9,m4,s6,r8,k₂)=>(b9<=(aX t).length/\m4=((aX t).take b9).foldl (ee b) []/\m4.length<=b9)/\((aX t).length-b9<(aX t).length-i)/\E v2/\Q (.own 1 (o.map sV) g f k) (.own 1 (m4.map sV) s6 r8 k₂)/\E (ax (aX t))/\E (iN v1)/\Q (iN (i+1)) (iN b9)/\Er g5 (aP b)/\True))) (((.sl false (V.D9 (o.map sV)):V)=ax o)/\Q (ax o) (ax (bL a t)))) ([sV (bJ v3)]:List V)) (oA (K3 b ((aX t).getD i []))))) (kp 5 g5)))) ((aX t).length)) ?_
 intro g2;refine⟨rfl,rfl,ha,bI (fun j8=>?_) fun j8=>?_⟩;rw[show bL a t=[] from if_neg Zcj];rfl;refine⟨rfl,fun g5=>bm ⟨fun l5=>?_,fun l5=>?_,fun b hb=>?_⟩⟩;try simp only[nb]at l5
 refine⟨rfl,rfl,⟨ha,by have:=(iX Zda).2.1;omega,by have:=BH t;omega,Iw hc⟩,fun g8=>⟨rfl,bI (fun m8=>?_) fun m8=>?_⟩⟩;refine bb ⟨(⟨(oA (K3 a ((bA t).getD []))).l3,(oA (K3 a ((bA t).getD []))).h9,(oA (K3 a ((bA t).getD []))).asks,(oA (K3 a ((bA t).getD []))).ask⟩:x3),Zd1,rfl,rfl,Zah,ao⟩;exact⟨(⟨a.l3,a.h9,a.asks,a.ask⟩:x3),Zd1,rfl,rfl,Zah,trivial⟩;try simp only[nb]at l5
 exact⟨(⟨a.l3,a.h9,a.asks,a.ask⟩:x3),Zd1,rfl,rfl,Zah,trivial⟩;refine bb ⟨⟨(0,[],0,0,0),?_,rfl,rfl,rfl,Zah,ao⟩,?_⟩;simp;rintro⟨i,o,g,f,k⟩ ⟨h1,h2,h3⟩;have L':=iP (n:=300) (fun m hm=>(RH m hm).1) i;have hbo:aR b=true:=by rw[hb];exact AT Zda
 have hbs:di b:=pE hbo;have hbp:b.h9.length<=100:=by have:=(iX hbo).2.1;omega
 have hla:r9 ((aX t).getD i []):=IN hc i;refine bI (fun y9=>?_) fun y9=>?_;refine⟨Zcf,bm ⟨⟨hbs,hbp,ak (hla)⟩,fun g13=>⟨rfl,bI (fun E4=>?_) fun E4=>?_⟩⟩⟩;refine ak ⟨(i+1,o,g,f,k),?_,?_,ao⟩;refine⟨Zac,?_,ao⟩;rw[foldl_succ (d:=[]) Zac,<- h2];exact(if_neg (by simpa using E4)).symm;exact Zak;refine⟨rfl,rfl,Ki _ _,⟨⟨ao,Zad,bE (f:=sV) (fun _=>rfl) _,cw (f:=sV) (fun _=>rfl) _⟩,ao⟩,by simp[Zaz],ak (bI (fun PG=>?_) fun PG=>?_)⟩;refine df ⟨Zal,fun WK V8 WW=>⟨Zbm (V.own 1 · WK V8 WW) Zad,ak ⟨(i+1,o++[bJ (oA (K3 b ((aX t).getD i [])))],WK,V8,WW),?_,?_,ao⟩⟩⟩;refine⟨Zac,?_,Zal⟩;rw[foldl_succ (d:=[]) Zac,<- h2];exact(Mg (by simpa using E4) (by simpa using PG)).symm;exact Zak;refine ak ⟨(i+1,o,g,f,k),?_,?_,ao⟩;refine⟨Zac,?_,ao⟩;rw[foldl_succ (d:=[]) Zac,<- h2];exact(MU (by simpa using E4) (by simpa using PG)).symm;exact Zak;refine⟨Zce,?_⟩;rw[show bL a t=_ from if_pos Zda,<- hb,h2,Zaz Zac])
abbrev mr(a:x3)(k:Int)(t:BL):V:=ax (if k=1 then bL a t else if k=2 then [t] else [])
def DO(a:x3)(k:Int)(t:BL):aC:=.mk 153 [aP a,iV k,sV t] [] ((di a)/\(t.length<=4611686018427387904)/\(r9 t)) (mr a k t) [] (by
 rintro⟨ha,ht,hc⟩
 refine au Tryz.func153
  (.bx (fun g3=>.l7 2<|.q 2<|.br (.r 2 [.c9]<|.c (tn a t) []<|.q 1<|.nil) (.q 2<|.br (.q 1<|.bs<|.q 1<|.nil) (.q 1<|.nil))))
  (∀ g3:Nat,Br (o5 k 1) (Z g3 0/\(tn a t).sm/\((di a)/\(t.length<=4611686018427387904)/\(r9 t))/\Q (ax (bL a t)) (mr a k t)) (Br (o5 k 2) (Q (.sl false [sV t]) (mr a k t)) (Q (.sl false []) (mr a k t)))) ?_
 intro g3;refine bI (fun j8=>?_) fun j8=>?_;refine bm ?_;unfold Q mr;rw[if_pos j8];refine bI (fun l5=>?_) fun l5=>?_;unfold Q mr;rw[if_neg j8,if_pos l5];rfl;unfold Q mr;rw[if_neg j8,if_neg l5];rfl)
theorem Bf(k:BL)(y:Value)(a:BL):∀ es:List (BL×Value),dc (fN es k y) a=if a=k then some y else dc es a
 | []=>by
   unfold fN dc;by_cases h:a=k;rw[if_pos h.symm,if_pos h];rw[if_neg (fun c=>h c.symm),if_neg h];rfl
 | p::r=>by
   unfold fN;by_cases h:p.1=k;rw[if_pos h];show (if k=a then some y else dc r a)=if a=k then some y else if p.1=a then some p.2 else dc r a;by_cases h2:a=k;rw[if_pos h2.symm,if_pos h2];rw[if_neg (fun c=>h2 c.symm),if_neg h2,if_neg (fun c=>h2 (c.symm.trans h))];rw[if_neg h];show (if p.1=a then some p.2 else dc (fN r k y) a)=if a=k then some y else if p.1=a then some p.2 else dc r a;rw[Bf k y a r];by_cases h2:p.1=a;rw[if_pos h2,if_neg (fun c=>h (h2.trans c)),if_pos h2];rw[if_neg h2,if_neg h2]
def hS(x:List BL×List (BL×Value))(a:BL):List BL×List (BL×Value):=(x.1++[a],fN x.2 a (.int .i64 (((x.1.count a:Nat):Int)+1)))
def hE(H:List BL):List (BL×Value):=(H.foldl hS ([],[])).2
theorem Jy:∀ (H:List BL) {x:List BL×List (BL×Value)},(H.foldl hS x).1=x.1++H
 | [],x=>by simp
 | a::H,x=>by rw[List.foldl_cons,Jy H];simp[hS]
theorem Dz(H:List BL)(a:BL):fN (hE H) a (.int .i64 (((H.count a:Nat):Int)+1))=hE (H++[a]):=by
 unfold hE;rw[List.foldl_append,List.foldl_cons,List.foldl_nil];show _=fN _ a (.int .i64 ((((H.foldl hS ([],[])).1.count a:Nat):Int)+1));rw[Jy,List.nil_append]
theorem CT:∀ (H:List BL) {x:List BL×List (BL×Value)},(∀ a,dc x.2 a=if a∈x.1 then some (.int .i64 ((x.1.count a:Nat):Int)) else none)->
 ∀ a,dc (H.foldl hS x).2 a=if a∈(H.foldl hS x).1 then some (.int .i64 (((H.foldl hS x).1.count a:Nat):Int)) else none
 | [],_,h=>h
 | b::H,x,h=>CT H fun a=>by
   show dc (fN x.2 b _) a=if a∈x.1++[b] then some (.int .i64 (((x.1++[b]).count a:Nat):Int)) else none;rw[Bf,h a];by_cases e:a=b;subst e;rw[if_pos rfl,if_pos Zad,List.count_append];simp;rw[if_neg e,List.count_append];by_cases e2:a∈x.1;rw[if_pos e2,if_pos (by simp[e2])];simp[List.count_cons,Ne.symm e];rw[if_neg e2,if_neg (by simp[e,e2])]
theorem CK(H:List BL)(a:BL):dc (hE H) a=if a∈H then some (.int .i64 ((H.count a:Nat):Int)) else none:=by
 have:=CT H (x:=([],[])) (by simp[dc]) a;rw[Jy,List.nil_append]at this;exact this
theorem Di{b:x3}:∀ (ls:List BL) {o:List BL},(∀ m,m∈o->ar m=true/\r9 m)->∀ m,m∈ls.foldl (ee b) o->ar m=true/\r9 m
 | [],_,h=>h
 | l::ls,o,h=>by
   refine Di ls fun m hm=>?_;unfold ee at hm;split at hm;rename_i hs;rcases DA.1 hm with hm | rfl;exact h m hm;have hk:=DX hs;exact⟨by rw[show bJ (oA (K3 b l))=dy (oA (K3 b l)) from if_pos hk];exact DV hk,vG _⟩;exact h m hm
theorem tQ{a:x3}{t:BL}:∀ m,m∈bL a t->ar m=true/\r9 m:=by
 unfold bL;split;exact Di _ Zad;simp
section
variable {P:Program}
def lkO(t0:Nat)(es:List (BL×Value))(k:BL)(v:V):Cu P where
 X:=Unit
 pre N o A:=match o.op,o.dst with
  | .lookup T x kx false,some d=>match tD P T,Nat.blt d N with
    | some (.map kt et),true=>match tD P kt,A.ev x,A.get t0 with
      | some .str,.lit (.map (some g)),.om R8 g'=>(g'=g/\R8=es)/\A.ev kx=sV k/\((∃ y,dc es k=some y/\v.val? =some y)\/(dc es k=none/\∃ y,v.val? =some y/\∀ w,(zeroValue et).run P w=.ok y w))
      | _,_,_=>False
    | _,_=>False
  | _,_=>False
 post _ o A:=match o.dst with
  | some d=>A.put (some d) v
  | none=>A
 ok:=by
  rintro N ⟨dst,op,ty,pos,after,E9⟩ A K-hp hK;replace hK:=hK ();simp only at hp hK;split at hp;rename_i T x kx d;split at hp;rename_i kt et e1 e2;split at hp;rename_i g R8 g' e3 e4 e5;obtain⟨⟨rfl,rfl⟩,hk,hy⟩:=hp;obtain⟨td,hu,hd⟩:=dq e1;have hu:P.underlying T=some (.map kt et):=by
   cases td <;> simp_all[dX]
  obtain⟨Vq,Ri,T6⟩:=dq e3;have Ri:P.underlying kt=some .string:=by
   cases Vq <;> simp_all[dX]
  have PA:∃ y,v.val? =some y:=by
   rcases hy with ⟨y,_,h⟩ | ⟨_,y,h,_⟩ <;> exact⟨y,h⟩
  obtain⟨y,hv⟩:=PA;refine gF rfl (bP e2) hK fun Pb Kb a w F hs=>⟨y,?_,xS hv⟩;have hk:=cy hs hk;have hm:=cy hs e4;have h0:=hs.slot t0;rw[e5]at h0;have h0:R w Pb (.om R8 g') [a.tmps.getD t0 undef] (F (.slot t0)):=h0;obtain⟨hF,hc,hnP,en,cl,hb,Vf,hnd,hcl⟩:=h0;obtain⟨f1,f2⟩:=lS k R8 en.toList 0 Vf;have WE:∀ e,(Instr.checkKey e 10000 kt (.string (Str k))).run P w=.ok () w:=fun e=>oW Ri;rcases hy with ⟨y',h1,h2⟩ | ⟨h1,y',h2,YD⟩;rw[hv]at h2;obtain rfl:=Option.some.inj h2;obtain⟨j,j1,_⟩:=f2 _ h1;rw[show (⟨k.toArray⟩:ByteArray)=Str k from rfl]at j1;simp[execOp,hm,hk,Instr.lookup,run_underlying hu,MapKept.run_getObj_map hb,WE,MapKept.run_findKey Ri j1,Result.andThen];rw[hv]at h2;obtain rfl:=Option.some.inj h2;have j1:=f1 h1;rw[show (⟨k.toArray⟩:ByteArray)=Str k from rfl]at j1;simp[execOp,hm,hk,Instr.lookup,run_underlying hu,MapKept.run_getObj_map hb,WE,MapKept.run_findKey Ri j1,Result.andThen,YD];exact hp.elim;exact hp.elim;exact hp.elim
end
theorem MM(H:List BL)(a:BL):(∃ y,dc (hE H) a=some y/\(iN (H.count a):V).val? =some y)\/(dc (hE H) a=none/\∃ y,(iN (H.count a):V).val? =some y/\∀ w,(zeroValue 3).run Tryz.prog w=.ok y w):=by
 have h:=CK H a;by_cases e:a∈H;rw[if_pos e]at h;exact .inl ⟨_,h,rfl⟩;rw[if_neg e]at h;refine .inr ⟨h,.int .i64 0,by rw[List.count_eq_zero.2 e];rfl,fun w=>by kernel_rfl⟩
theorem Ls{l m:List BL}(h:l.length=m.length)(e:∀ j,j<l.length->l.getD j []=m.getD j []):l=m:=by
 apply List.ext_getElem h;intro j h1 h2;have:=e j h1;rw[Zam,Zam,Zat h1,Zat h2]at this;exact this
abbrev jq(b:BL)(p g:Nat)(w:List Pg)(m:Nat)(e:List BL)(q u f k:Nat):Prop:=e.length+m<=3/\(∀ y,y∈e->y.length<=30/\r9 y)/\p<=q/\q+10*m<=p+40
def oc(b:BL)(p g:Nat)(w:List Pg):fO:=.mk (List BL×Nat) 90 [kp 1000 g,aL w] [(1000,(g,an b p))] ((b.length<=2000)/\(p<=700000)/\(w.length<=30)/\(∀ y,y∈w->o6 y)) (fun x=>x.1.length<=4/\(∀ y,y∈x.1->y.length<=30/\r9 y)/\p<=x.2/\x.2<=p+60) (fun x=>ax x.1) (fun x=>[(1000,(g,an b x.2))]) (by
 rintro⟨hb,hp,hw,hy⟩
 refine fK Tryz.func90
  (.q 1<|.bs<|.l7 2<|.cx (aS b p g 3) [(1000,1000)] (fun (m9:Nat)=>.q 2<|.h (.L6 5 1)<|.loop (Nat×(List BL)×Nat×Nat×Nat×Nat) (fun (m,e,q,u,f,k)=>⟨[(0,kp 1000 g),(1,aL w),(5,.own 1 (e.map sV) u f k),(6,iN m)],[(1000,(g,an b q))]⟩) (fun (m,e,q,u,f,k)=>jq b p g w m e q u f k) (fun (m,e,q,u,f,k)=>m) (fun (m,e,q,u,f,k)=>.q 2<|.br (.q 3<|.cx (wv b q g w) [(1000,1000)] (fun (Qw:BL×Nat)=>.bs<|.ap (fun g20 Sk SL=>.h (.n8 20 (.own 1 ((e++[Qw.1]).map sV) g20 Sk SL))<|.q 1<|.q 2<|.h (.n8 14 (iN (m-1)))<|.q 1<|.nil))) (.q 1<|.cx (aS b q g 12) [(1000,1000)] (fun (I6:Nat)=>.q 1<|.br (.q 1<|.bs<|.ap (fun Ym X5 Yp=>.h (.n8 26 (.own 1 ((e++[([120]:BL)]).map sV) Ym X5 Yp))<|.q 1<|.h (.fz 4)<|.h (.n8 4 (ax (e++[([120]:BL)])))<|.nil)) (.h (.fz 5)<|.h (.n8 5 (ax e))<|.q 2<|.nil))))))
  ((fun v1:BL=>((aS b p g 3).sm/\Er g (an b p)/\((b.length<=2000)/\(p<=1000000)/\(3<=1000000))/\∀ m9:Nat,(3=0/\m9=0\/m9<3)->m6 (1+(m9:Int))/\(∃ x:Nat×(List BL)×Nat×Nat×Nat×Nat,match x with | (M1,E0,A4,K6,B5,n6)=>(jq b p g w M1 E0 A4 K6 B5 n6)/\E (kp 1000 g)/\E (aL w)/\Q (.own 1 ([].map sV) 0 0 0) (.own 1 (E0.map sV) K6 B5 n6)/\Q (iN (1+m9)) (iN M1)/\Qr g (an b (p+1)) g (an b A4)/\True)/\∀ x:Nat×(List BL)×Nat×Nat×Nat×Nat,match x with | (m,e,q,u,f,k)=>(jq b p g w m e q u f k)->Br (s9 (m:Int) 0) ((wv b q g w).sm/\Er g (an b q)/\((b.length<=2000)/\(q<=800000)/\(w.length<=30)/\(∀ y,y∈w->o6 y))/\∀ Qw:BL×Nat,(Qw.1.length<=30/\q<=Qw.2/\Qw.2<=q+8/\r9 Qw.1)->(fun v2:List V=>((1,1,u,f,k,(e.map sV).length)=(1,1,u,f,k,(e.map sV).length))/\(True)/\(V.aF v2=false)/\(aW 1 v2)/\(((e.map sV).length+v2.length)*16<=140737488355328)/\∀ g20 Sk SL:Nat,((.own 1 ((e.map sV)++v2) g20 Sk SL:V)=.own 1 ((e++[Qw.1]).map sV) g20 Sk SL)/\m6 ((m:Int)-1)/\Q (iV ((m:Int)-1)) (iN (m-1))/\∃ x:Nat×(List BL)×Nat×Nat×Nat×Nat,match x with | (m₂,z7,r3,D',r8,k₂)=>(jq b p g w m₂ z7 r3 D' r8 k₂)/\(m₂<m)/\E (kp 1000 g)/\E (aL w)/\Q (.own 1 ((e++[Qw.1]).map sV) g20 Sk SL) (.own 1 (z7.map sV) D' r8 k₂)/\Q (iN (m-1)) (iN m₂)/\Qr g (an b Qw.2) g (an b r3)/\True) ([sV Qw.1]:List V)) ((aS b q g 12).sm/\Er g (an b q)/\((b.length<=2000)/\(q<=1000000)/\(12<=1000000))/\∀ I6:Nat,(12=0/\I6=0\/I6<12)->Br (o5 (I6:Int) 0) (((1,1,u,f,k,(e.map sV).length)=(1,1,u,f,k,(e.map sV).length))/\(True)/\(V.aF ([sV v1]:List V)=false)/\(aW 1 ([sV v1]:List V))/\(((e.map sV).length+([sV v1]:List V).length)*16<=140737488355328)/\∀ Ym X5 Yp:Nat,((.own 1 ((e.map sV)++([sV v1]:List V)) Ym X5 Yp:V)=.own 1 ((e++[v1]).map sV) Ym X5 Yp)/\((.sl false (V.D9 ((e++[v1]).map sV)):V)=ax (e++[v1]))/\∃ x:List BL×Nat,(x.1.length<=4/\(∀ y,y∈x.1->y.length<=30/\r9 y)/\p<=x.2/\x.2<=p+60)/\Q (ax (e++[v1])) (ax x.1)/\Qr g (an b (q+1)) g (an b x.2)) (((.sl false (V.D9 (e.map sV)):V)=ax e)/\∃ x:List BL×Nat,(x.1.length<=4/\(∀ y,y∈x.1->y.length<=30/\r9 y)/\p<=x.2/\x.2<=p+60)/\Q (ax e) (ax x.1)/\Qr g (an b (q+1)) g (an b x.2))))) ([120]:BL)) ?_
 refine bm fun m9 L4=>ak ⟨⟨(1+m9,[],p+1,0,0,0),?_,ao⟩,?_⟩;unfold jq;exact⟨Zal,Zad,Zac,Zac⟩;rintro⟨m,e,q,u,f,k⟩ ⟨h1,h2,h3,h4⟩;refine bI (fun j8=>?_) fun j8=>?_;refine⟨rfl,rfl,bm (hy),fun Qw Wq=>df ⟨Zal,fun g20 Sk SL=>⟨Zbm (V.own 1 · g20 Sk SL) Zad,Zac,Zct,⟨(m-1,e++[Qw.1],Qw.2,g20,Sk,SL),?_,?_,ao⟩⟩⟩⟩;unfold jq;exact⟨Zal,kb h2 ⟨Wq.1,Wq.2.2.2⟩,Zac,Zac⟩;exact Zak;refine bm fun I6 Uq=>bI (fun l5=>?_) fun l5=>?_;refine df ⟨Zal,fun Ym X5 Yp=>⟨Zbm (V.own 1 · Ym X5 Yp) Zad,Zce,⟨(e++[([120]:BL)],q+1),?_,?_,?_⟩⟩⟩;try dsimp only
 exact⟨Zal,kb h2 ⟨Zad,ct rfl⟩,Zac,Zac⟩;exact Zaa;exact Zab;refine⟨Zce,⟨(e,q+1),?_,?_,?_⟩⟩;try dsimp only
 exact⟨Zac,h2,Zac,Zac⟩;exact Zaa;first | rfl | exact⟨rfl,rfl⟩ | simp_all)
def gj(l m:List BL):aC:=.mk 12 [ax l,ax m] [] ((l.length<=1000000)/\(m.length<=1000000)) (bV (l==m)) [] (by
 rintro⟨hl,hm⟩
 refine au Tryz.func12
  (.q 1<|.q 5<|.br (.q 1<|.nil) (.q 1<|.loop Nat (fun i=>⟨[(0,ax l),(1,ax m),(5,iN i)],[]⟩) (fun i=>i<=l.length/\∀ j,j<i->l.getD j []=m.getD j []) (fun i=>l.length-i) (fun i=>.q 4<|.br (.A7 9 [(3,m5 [] [20]),(7,m5 [] [24])]<|.l7 2<|.r 1 [sV (l.getD i [])]<|.l7 3<|.r 1 [sV (m.getD i [])]<|.l7 2<|.br (.q 1<|.nil) (.q 3<|.nil)) (.q 1<|.nil))))
  ((fun v1:Nat->Prop=>(Br (D7 (((l.map sV).length:Nat):Int) (((m.map sV).length:Nat):Int)) (Q (bV false) (bV (l==m))) ((∃ j6:Nat,(v1 j6)/\E (ax l)/\E (ax m)/\Q (iN 0) (iN j6)/\True)/\∀ i:Nat,(v1 i)->Br (s4 (i:Int) (((l.map sV).length:Nat):Int)) (Ex (i:Int) (l.map sV) (sV (l.getD i []))/\True/\Ex (i:Int) (m.map sV) (sV (m.getD i []))/\True/\Br (!((l.getD i [])==(m.getD i []))) (Q (bV false) (bV (l==m))) (m6 ((i:Int)+1)/\∃ b9:Nat,(v1 b9)/\(l.length-b9<l.length-i)/\E (ax l)/\E (ax m)/\Q (iN (i+1)) (iN b9)/\True)) (Q (bV true) (bV (l==m)))))) (fun j6:Nat=>j6<=l.length/\∀ j,j<j6->l.getD j []=m.getD j [])) ?_
 refine bI (fun j8=>?_) fun j8=>?_;unfold Q;refine Zbm bV ?_;symm;rw[beq_eq_false_iff_ne];rintro rfl;simp_all;refine⟨⟨0,?_,ao⟩,?_⟩;simp;rintro i ⟨h1,h2⟩;refine bI (fun l5=>?_) fun l5=>?_;refine⟨Zcf,trivial,Zcf,ak (bI (fun m8=>?_) fun m8=>?_)⟩;unfold Q;refine Zbm bV ?_;symm;rw[beq_eq_false_iff_ne];rintro rfl;simp_all;refine ak ⟨i+1,?_,?_,ao⟩;exact⟨Zac,Zdl⟩;exact Zak;unfold Q;refine Zbm bV ?_;symm;rw[Zbl];exact Ls Zac (fun j hj=>h2 j Zac))
structure r7 where
 ad:BL
 tr:Int
structure j9 where
 na:BL
 re:Int
 kn:Bool
 gr:l9
 tr:Int
 td:List r7
structure o4 where
 ti:Int
 ad:BL
 ki:Int
structure l4 where
 na:BL
 b6:Int
 hs:List j9
 se:List BL
 lk:List o4
def e9:j9:=⟨[],0,false,⟨[],[],0⟩,0,[]⟩
def j7:r7:=⟨[],0⟩
def u0:o4:=⟨0,[],0⟩
def dv(d n:BL):j9:=⟨d,0,false,⟨[n],[],0⟩,0,[]⟩
def C7(hs:List j9)(d:BL):Nat:=hs.findIdx fun h=>h.na==d
def bp(hs:List j9)(d n:BL):List j9:=if C7 hs d<hs.length then hs else hs++[dv d n]
def pathOf(s:BL):BL:=bZ (oA (aT s))
def aA(s:BL):BL:=(oA (aT s)).l3
def dR(h:j9)(s:BL):j9:=if h.kn=true/\bD h.gr.ru (pathOf s)=false then h else { h with td:=h.td++[⟨s,0⟩] }
def dG(se:List BL)(s:BL):Prop:=ar s=true/\se.length<60/\s ∉ se
instance (se:List BL) (s:BL):Decidable (dG se s):=by unfold dG;infer_instance
def aI(se:List BL)(s:BL):List BL:=if dG se s then se++[s] else se
def bz(n:BL)(hs:List j9)(se:List BL)(s:BL):List j9:=
 if dG se s then (bp hs (aA s) n).set (C7 hs (aA s)) (dR ((bp hs (aA s) n).getD (C7 hs (aA s)) e9) s) else hs
def aq(t:l4)(s:BL):l4:={ t with se:=aI t.se s,hs:=bz t.na t.hs t.se s }
theorem iv(hs:List j9)(d n:BL):C7 hs d<(bp hs d n).length:=by
 unfold bp;split;assumption;rename_i h;have:C7 hs d<=hs.length:=List.findIdx_le_length;simp only[Zap,Zar,Zau];omega
theorem wg(hs:List j9)(d n:BL):(bp hs d n).length<=hs.length+1:=by
 unfold bp;split <;> simp
def oT(o:Option l4):l4:=o.getD ⟨[],0,[],[],[]⟩
def dP(n:BL):l4:=⟨n,0,[],[],[]⟩
def dr(n:BL)(n7:List BL):Option l4:=if cC n=true/\n7.length<=12 then some (n7.foldl aq (dP n)) else none
structure U' (n:BL) (k:Nat) (t:l4):Prop where
 na:t.na=n
 b6:t.b6=0
 lk:t.lk=[]
 hl:t.hs.length<=k
 sl:t.se.length<=k
 hs:∀ y,y∈t.hs->y.kn=false/\y.gr=⟨[n],[],0⟩/\y.td.length<=k/\y.re=0/\y.tr=0
theorem ej{α:Type}{l:List α}{i:Nat}{a y:α}(h:y∈l.set i a):y=a\/y∈l:=by
 rcases List.mem_or_eq_of_mem_set h with h | h;exact .inr h;exact .inl h
theorem Kl{n s:BL}{k:Nat}{t:l4}(h:U' n k t):U' n (k+1) (aq t s):=by
 have hin:∀ d y,y∈bp t.hs d t.na->y.kn=false/\y.gr=⟨[n],[],0⟩/\y.td.length<=k/\y.re=0/\y.tr=0:=fun d y hy=>by
  unfold bp at hy;split at hy;exact h.hs y hy;rcases Zax.1 hy with hy | hy;exact h.hs y hy;rw[Zav.1 hy,h.na];simp[dv]
 refine⟨h.na,h.b6,h.lk,?_,?_,fun y hy=>?_⟩;show (bz t.na t.hs t.se s).length<=k+1;unfold bz;split;have:=wg t.hs (aA s) t.na;have:=h.hl;rw[List.length_set];omega;have:=h.hl;omega;show (aI t.se s).length<=k+1;unfold aI;have:=h.sl;split;simp;omega;omega;have hy:y∈bz t.na t.hs t.se s:=hy;unfold bz at hy;split at hy;rcases ej hy with e | hy;have hm:(bp t.hs (aA s) t.na).getD (C7 t.hs (aA s)) e9∈bp t.hs (aA s) t.na:=by
  rw[Zam,Zat (iv ..)];exact List.getElem_mem _
 obtain⟨a1,a2,a3,a4,a5⟩:=hin _ _ hm;rw[e];unfold dR;rw[if_neg (fun c=>by rw[a1]at c;cases c.1)];exact⟨a1,a2,Zc1,a4,a5⟩;obtain⟨a1,a2,a3,a4,a5⟩:=hin _ _ hy;exact⟨a1,a2,Zac,a4,a5⟩;obtain⟨a1,a2,a3,a4,a5⟩:=h.hs y hy;exact⟨a1,a2,Zac,a4,a5⟩
theorem rP(n:BL):∀ (l:List BL) {k:Nat} {t:l4},U' n k t->U' n (k+l.length) (l.foldl aq t)
 | [],k,t,h=>h
 | a::r,k,t,h=>by
   have:=rP n r (Kl (s:=a) h);rw[show k+(a::r).length=k+1+r.length from Zal];exact this
theorem tI(n:BL):U' n 0 (dP n):=⟨rfl,rfl,rfl,by simp[dP],by simp[dP],fun y hy=>by simp[dP]at hy⟩
def bT(k:Int):Int:=if k=1 then 2 else if k=2 then 4 else if k=3 then 8 else 0
def jO(b6:Int)(x:Int×Int)(p:Nat×j9):Int×Int:=
 if p.2.td≠[]/\(x.1<0\/max p.2.re b6<x.2) then (p.1,max p.2.re b6) else x
def A3(t:l4)(i:Nat):Int×Int:=((t.hs.zipIdx.take i).map fun p=>(p.2,p.1)).foldl (jO t.b6) (-1,0)
def iK(t:l4):Option (Nat×Int):=
 if (A3 t t.hs.length).1<0\/5000<(A3 t t.hs.length).2 then none else some ((A3 t t.hs.length).1.toNat,(A3 t t.hs.length).2)
def eI(h:j9)(b6 k n:Int):j9:={ h with re:=b6+max (h.gr.wa:Int) 1+(if k=3 then bT (n+1) else 0) }
def qM(s:BL)(k:Int)(x:BL):List BL:=if k=1 then bL (oA (aT s)) x else if k=2 then [x] else []
def bC(h:j9)(se:List BL):Bool:=
 decide (h.td.length<=se.length)&&(h.td.all fun it=>ar it.ad&&(aA it.ad==h.na)&&se.contains it.ad&&w5 it.tr 0 2)&&decide (h.td.map (·.ad)).Nodup
def cF(h:j9)(n:BL):Bool:=
 db h.na&&w5 h.re 0 5100&&w5 h.tr 0 2&&(h.gr.na==[n])&&
  (if h.kn=true then decide (h.gr.ru.length<=40)&&(h.gr.ru.all fun r=>aY r.path)&&w5 h.gr.wa 0 20 else decide (h.gr.ru=[]/\h.gr.wa=0))
def dz(lk:List o4)(b6:Int):Bool:=
 decide (lk.length<=400)&&((List.range lk.length).all fun i=>decide ((if i=0 then 0 else (lk.getD (i-1) u0).ti)<=(lk.getD i u0).ti)&&decide ((lk.getD i u0).ti<=b6)&&w5 (lk.getD i u0).ki 0 3&&ar (lk.getD i u0).ad)
def dI(se:List BL):Bool:=decide (se.length<=60)&&decide se.Nodup&&se.all ar
def ai(t:l4):Bool:=cC t.na&&w5 t.b6 0 5000&&dI t.se&&dz t.lk t.b6&&(t.hs.all fun h=>cF h t.na&&bC h t.se)&&decide (t.hs.map (·.na)).Nodup
structure J0 (h:j9):Prop where
 n:h.na.length<=1000
 r:h.gr.ru.length<=1000
 rp:∀ i,(h.gr.ru.getD i ⟨false,[]⟩).path.length<=1000
 g:h.gr.na.length<=1000
 t:h.td.length<=1000
 ta:∀ x,x∈h.td->x.ad.length<=1000/\r9 x.ad
structure r6 (t:l4):Prop where
 n:t.na.length<=1000
 h:t.hs.length<=1000
 s:t.se.length<=1000
 l:t.lk.length<=1000
 sa:∀ x,x∈t.se->x.length<=1000/\r9 x
 la:∀ x,x∈t.lk->x.ad.length<=1000/\r9 x.ad
 ha:∀ x,x∈t.hs->J0 x
abbrev aj(x:r7):V:=.agg [sV x.ad,iV x.tr]
abbrev aE(x:o4):V:=.agg [iV x.ti,sV x.ad,iV x.ki]
abbrev ah(h:j9):V:=.agg [sV h.na,iV h.re,bV h.kn,cB h.gr,iV h.tr,.ow 2 (h.td.map aj)]
abbrev cv(h:j9):V:=.agg [sV h.na,iV h.re,bV h.kn,cB h.gr,iV h.tr,.sl false (h.td.map aj)]
abbrev KI(t:l4):V:=.agg [sV t.na,iV t.b6,.ow 8 (t.hs.map ah),.ow 1 (t.se.map sV),.ow 3 (t.lk.map aE)]
abbrev dO(p0:List o4):V:=.sl false (p0.map aE)
abbrev fg(p0:List r7):V:=.sl false (p0.map aj)
abbrev An(p0:List j9):V:=.sl false (p0.map cv)
abbrev cm(p0:BL)(p1:Int):V:=.agg [sV p0,iV p1]
abbrev ef(p0:Int)(p1:BL)(p2:Int):V:=.agg [iV p0,sV p1,iV p2]
abbrev OB(p0:BL)(p1:Int)(p2:List j9)(p3:List BL)(p4:List o4):V:=.agg [sV p0,iV p1,.sl false (p2.map cv),.sl false (p3.map sV),.sl false (p4.map aE)]
abbrev Oq(p0:BL)(p1:Int)(p2:Bool)(p3:List BL)(p4:List s5)(p5:Nat)(p6:Int)(p7:List r7):V:=.agg [sV p0,iV p1,bV p2,.agg [.sl false (p3.map sV),.sl false (p4.map av),iN p5],iV p6,.sl false (p7.map aj)]
abbrev aw(y0:l4):V:=OB y0.na y0.b6 y0.hs y0.se y0.lk
abbrev bw(y0:j9)(p7:List r7):V:=Oq y0.na y0.re y0.kn y0.gr.na y0.gr.ru y0.gr.wa y0.tr p7
theorem NB(H:List BL)(a:BL):(hE (H++[a])).length=(hE H).length+(if a∈H then 0 else 1):=by
 rw[<- Dz,zb,CK];by_cases h:a∈H;rw[if_pos h,if_pos h,if_neg Zad];rfl;rw[if_neg h,if_neg h,if_pos rfl]
theorem JL(H:List BL):(hE H).length=H.length↔H.Nodup:=by
 have key:∀ n,∀ H:List BL,H.length=n->(hE H).length<=H.length/\((hE H).length=H.length↔H.Nodup):=by
  intro n;induction n with
  | zero=>
    intro H h;obtain rfl:=Za5 h;exact⟨Zbc _,by simp[hE]⟩
  | succ n ih=>
    intro H h;obtain⟨L,a,rfl⟩:∃ L a,H=L++[a]:=⟨H.dropLast,H.getLast (by intro c;rw[c]at h;cases h),(List.dropLast_concat_getLast _).symm⟩;simp only[Zap,Zar,Zau]at h;obtain⟨h1,h2⟩:=ih L Zac;rw[NB];simp only[Zap,Zar,Zau];rw[List.nodup_append];by_cases c:a∈L;rw[if_pos c];exact⟨Zac,Zac,fun hn=>absurd rfl (hn.2.2 a c a Zad)⟩;rw[if_neg c];refine⟨Zac,fun e=>⟨h2.1 Zac,Zad,fun x hx y hy=>?_⟩,fun hn=>by have:=h2.2 hn.1;omega⟩;rintro rfl;exact c (by simpa using(Zav.1 hy) ▸ hx)
 exact(key _ H rfl).2
theorem ng{α:Type}{p:α->Bool}{d:α}{l:List α}(h:∀ j,j<l.length->p (l.getD j d)=true):l.all p=true:=by
 rw[Za2];intro x hx;obtain⟨j,hj,rfl⟩:=Zbg.1 hx;have:=h j hj
 rwa [Zam,Zat hj]at this
theorem uk{α:Type}{p:α->Bool}{d:α}{l:List α}{i:Nat}(hi:i<l.length)(h:p (l.getD i d)=false):l.all p=false:=by
 rw[Zam,Zat hi]at h;rw[Bool.eq_false_iff];intro c;rw[Za2]at c;have:=c _ (List.getElem_mem hi);simp only[Option.getD_some]at h;rw[h]at this;cases this
theorem ja{l:List BL}{i:Nat}(h:i<l.length):l.getD i []∈l:=by
 rw[Zam,Zat h];exact List.getElem_mem h
theorem aD{α:Type}{l:List α}{d:α}{i:Nat}(h:i<l.length):l.getD i d∈l:=by
 rw[Zam,Zat h];exact List.getElem_mem h
theorem GO{l:List BL}(h:60<(l.length:Int)\/¬ l.Nodup):dI l=false:=by
 unfold dI;rcases h with h | h;rw[decide_eq_false Zac];rfl;rw[decide_eq_false h];simp
theorem Gj{l:List BL}{i:Nat}(hi:i<l.length)(h:ar (l.getD i [])=false):dI l=false:=by
 unfold dI;rw[uk hi h];simp
theorem wc{l:List BL}(h:(l.length:Int)<=60/\l.Nodup)(h2:∀ j,j<l.length->ar (l.getD j [])=true):dI l=true:=by
 unfold dI;rw[ng h2,decide_eq_true h.2,decide_eq_true Zac];rfl
def nB(lk:List o4)(b6:Int)(i:Nat):Bool:=decide ((if i=0 then 0 else (lk.getD (i-1) u0).ti)<=(lk.getD i u0).ti)&&decide ((lk.getD i u0).ti<=b6)&&w5 (lk.getD i u0).ki 0 3&&ar (lk.getD i u0).ad
theorem Ft{lk:List o4}{b6:Int}(h:400<(lk.length:Int)):dz lk b6=false:=by
 unfold dz;rw[decide_eq_false Zac];rfl
theorem wN{lk:List o4}{b6:Int}{i:Nat}(hi:i<lk.length)(h:nB lk b6 i=false):dz lk b6=false:=by
 unfold dz;rw[Bool.and_eq_false_iff];right;rw[Bool.eq_false_iff];intro c;rw[Za2]at c;have:=c i (List.mem_range.2 hi);unfold nB at h;rw[h]at this;cases this
theorem sU{lk:List o4}{b6:Int}(h:(lk.length:Int)<=400)(h2:∀ j,j<lk.length->nB lk b6 j=true):dz lk b6=true:=by
 unfold dz;rw[decide_eq_true Zac,Bool.true_and,Za2];exact fun i hi=>h2 i (List.mem_range.1 hi)
theorem Nc{lk:List o4}{b6 la:Int}{i:Nat}(h2:la=if i=0 then 0 else (lk.getD (i-1) u0).ti)(h3:w5 (lk.getD i u0).ti la b6=true/\w5 (lk.getD i u0).ki 0 3=true)(h4:ar (lk.getD i u0).ad=true):nB lk b6 i=true:=by
 unfold nB;rw[<- h2,h3.2,h4];have:=h3.1;unfold w5 at this;rw[Zbk]at this;rw[decide_eq_true this.1,decide_eq_true this.2];rfl
theorem Li{lk:List o4}{b6 la:Int}{i:Nat}(h2:la=if i=0 then 0 else (lk.getD (i-1) u0).ti)(h3:w5 (lk.getD i u0).ti la b6=false\/w5 (lk.getD i u0).ki 0 3=false):nB lk b6 i=false:=by
 unfold nB;rw[<- h2];rcases h3 with h | h;unfold w5 at h;rw[Bool.decide_and]at h;rw[h];rfl;rw[h];simp
theorem Mc{lk:List o4}{b6:Int}{i:Nat}(h:ar (lk.getD i u0).ad=false):nB lk b6 i=false:=by
 unfold nB;rw[h];simp
theorem Af{l:List BL}{n:BL}(h:(l.length:Int)=1/\l.getD 0 []=n):l=[n]:=by
 obtain⟨h1,h2⟩:=h
 match l,h1 with
 | [x],_=>rw[<- h2];rfl
theorem Lp{h:j9}{n:BL}(hb:(db h.na=false\/w5 h.re 0 5100=false)\/w5 h.tr 0 2=false):cF h n=false:=by
 unfold cF;rcases hb with (e | e) | e <;> rw[e] <;> simp
theorem LH{h:j9}{n:BL}(hb: ¬ (h.gr.na.length:Int)=1\/¬ h.gr.na.getD 0 []=n):cF h n=false:=by
 unfold cF;rw[show (h.gr.na==[n])=false from by rw[beq_eq_false_iff_ne];intro c;rw[c]at hb;simp at hb];simp
theorem LU{h:j9}{n:BL}(h1:(db h.na=true/\w5 h.re 0 5100=true)/\w5 h.tr 0 2=true)(h2:(h.gr.na.length:Int)=1/\h.gr.na.getD 0 []=n)(h3:h.kn=false):cF h n=(o5 (h.gr.ru.length:Int) 0&&o5 (h.gr.wa:Int) 0):=by
 unfold cF;rw[h1.1.1,h1.1.2,h1.2,Af h2,h3];rw[Za6];simp
theorem Lr{h:j9}{n:BL}(h1:(db h.na=true/\w5 h.re 0 5100=true)/\w5 h.tr 0 2=true)(h2:(h.gr.na.length:Int)=1/\h.gr.na.getD 0 []=n)(h3:h.kn=true):cF h n=((G' (h.gr.ru.length:Int) 40&&(h.gr.ru.all fun r=>aY r.path))&&w5 (h.gr.wa:Int) 0 20):=by
 unfold cF;rw[h1.1.1,h1.1.2,h1.2,Af h2,h3];simp;congr 2;rw[Za6];simp;omega
def Uo(h:j9)(se:List BL)(it:r7):Bool:=ar it.ad&&(aA it.ad==h.na)&&se.contains it.ad&&w5 it.tr 0 2
theorem OA{h:j9}{se:List BL}{it:r7}(h1:((bg it.ad).isSome=true/\(oA (bg it.ad)).l3=h.na)/\se.contains it.ad=true)(h2:w5 it.tr 0 2=true):Uo h se it=true:=by
 unfold Uo aA;have h3:=h1.1.1;rw[iH]at h3;have h4:=h1.1.2;rw[show bg it.ad=aT it.ad from if_pos h3]at h4;rw[h3,h4,h1.2,h2];simp
theorem Mx{h:j9}{se:List BL}{it:r7}(h1:((bg it.ad).isSome=false\/¬ (oA (bg it.ad)).l3=h.na)\/se.contains it.ad=false):Uo h se it=false:=by
 unfold Uo aA;by_cases h3:ar it.ad=true;rw[iH,show bg it.ad=aT it.ad from if_pos h3]at h1;rcases h1 with (e | e) | e;rw[e]at h3;cases h3;rw[beq_eq_false_iff_ne.2 e];simp;rw[e];simp;rw[Bool.not_eq_true]at h3;rw[h3];simp
theorem Ns{h:j9}{se:List BL}{it:r7}(h1:w5 it.tr 0 2=false):Uo h se it=false:=by
 unfold Uo;rw[h1];simp
theorem Ht{h:j9}{se:List BL}(e:(se.length:Int)<(h.td.length:Int)):bC h se=false:=by
 unfold bC;rw[decide_eq_false Zac];rfl
theorem zB{h:j9}{se:List BL}{i:Nat}(hi:i<h.td.length)(e:Uo h se (h.td.getD i j7)=false):bC h se=false:=by
 show (decide (h.td.length<=se.length)&&h.td.all (Uo h se)&&decide (h.td.map (·.ad)).Nodup)=false;rw[uk (d:=j7) hi e];simp
theorem Hk{h:j9}{se:List BL}(e:(h.td.length:Int)<=(se.length:Int))(e2:∀ j,j<h.td.length->Uo h se (h.td.getD j j7)=true):bC h se=decide (h.td.map (·.ad)).Nodup:=by
 show (decide (h.td.length<=se.length)&&h.td.all (Uo h se)&&decide (h.td.map (·.ad)).Nodup)=_;rw[ng (d:=j7) e2,decide_eq_true Zac];simp
theorem IT{t:l4}(h:cC t.na=false\/w5 t.b6 0 5000=false):ai t=false:=by
 unfold ai;rcases h with e | e <;> rw[e] <;> simp
theorem Ja{t:l4}(h:dI t.se=false\/dz t.lk t.b6=false):ai t=false:=by
 unfold ai;rcases h with e | e <;> rw[e] <;> simp
theorem JK{t:l4}{i:Nat}(hi:i<t.hs.length)(h:cF (t.hs.getD i e9) t.na=false\/bC (t.hs.getD i e9) t.se=false):ai t=false:=by
 unfold ai;rw[uk (p:=fun h=>cF h t.na&&bC h t.se) (d:=e9) hi (by rcases h with e | e <;> rw[e] <;> simp)];simp
theorem Iv{t:l4}(h1:cC t.na=true/\w5 t.b6 0 5000=true)(h2:dI t.se=true/\dz t.lk t.b6=true)(h3:∀ j,j<t.hs.length->(cF (t.hs.getD j e9) t.na&&bC (t.hs.getD j e9) t.se)=true):ai t=decide (t.hs.map (·.na)).Nodup:=by
 unfold ai;rw[h1.1,h1.2,h2.1,h2.2,ng (p:=fun h=>cF h t.na&&bC h t.se) (d:=e9) h3];simp
def ec(a x b:Int):aC:=.mk 30 [iV a,iV x,iV b] [] True (bV (w5 x a b)) [] (by
 intro _
 refine au Tryz.func30
  (.q 1<|.q 9<|.nil)
  (Pk (G' a x) ((G' a x)==true) true/\Q (bV ((G' a x)&&(G' x b))) (bV (w5 x a b))) ?_
 refine ak ?_;unfold Q;refine Zbm bV ?_;unfold w5;exact(Bool.decide_and ..).symm)
def lf(l:List BL):aC:=.mk 41 [ax l] [] (l.length<=1000000) (bV (decide l.Nodup)) [] (by
 intro hl
 refine au Tryz.func41
  (.q 1<|.cu mmC (fun g6=>.q 1<|.q 3<|.loop (Nat×Nat) (fun (i,gm)=>⟨[(0,ax l),(3,.om (hE (l.take i)) gm),(7,ax l),(8,iN l.length),(9,iN i)],[]⟩) (fun (i,gm)=>i<=l.length) (fun (i,gm)=>l.length-i) (fun (i,gm)=>.q 1<|.br (.r 3 [sV (l.getD i [])]<|.q 2<|.cu (lkO 3 (hE (l.take i)) (l.getD i []) (iN ((l.take i).count (l.getD i [])))) (fun _=>.q 1<|.cu (muC 3 (hE (l.take i)) (l.getD i []) (.int .i64 ((((l.take i).count (l.getD i []))+1:Nat):Int))) (fun _=>.h (.n8 3 (.om (hE (l.take i++[l.getD i []])) gm))<|.q 2<|.nil))) (.q 1<|.cu (mlC 3) (fun _=>.q 4<|.nil)))))
  (True/\∀ g6:Nat,(∃ x:Nat×Nat,match x with | (j6,Zq)=>(j6<=l.length)/\E (ax l)/\Q (.om [] g6) (.om (hE (l.take j6)) Zq)/\E (ax l)/\Q (iN ((l.map sV).length)) (iN l.length)/\Q (iN 0) (iN j6)/\True)/\∀ x:Nat×Nat,match x with | (i,gm)=>(i<=l.length)->(fun v1:Int=>Br (s4 (i:Int) (l.length:Int)) (Ex (i:Int) (l.map sV) (sV (l.getD i []))/\True/\(((gm:Nat)=gm/\(hE (l.take i):List (BL×Value))=hE (l.take i))/\((sV (l.getD i []):V)=sV (l.getD i []))/\((∃ y,dc (hE (l.take i)) (l.getD i [])=some y/\(iN ((l.take i).count (l.getD i [])):V).val? =some y)\/(dc (hE (l.take i)) (l.getD i [])=none/\∃ y,(iN ((l.take i).count (l.getD i [])):V).val? =some y/\∀ w,(zeroValue 3).run Tryz.prog w=.ok y w)))/\∀ _:Unit,m6 ((((l.take i).count (l.getD i []):Nat):Int)+1)/\(((gm:Nat)=gm/\(hE (l.take i):List (BL×Value))=hE (l.take i))/\((sV (l.getD i []):V)=sV (l.getD i []))/\(iN (((l.take i).count (l.getD i []))+1):V).val? =some (.int .i64 v1))/\∀ _:Unit,((.om (fN (hE (l.take i)) (l.getD i []) (.int .i64 v1)) gm:V)=.om (hE (l.take i++[l.getD i []])) gm)/\m6 ((i:Int)+1)/\∃ x:Nat×Nat,match x with | (b9,Zp)=>(b9<=l.length)/\(l.length-b9<l.length-i)/\E (ax l)/\Q (.om (hE (l.take i++[l.getD i []])) gm) (.om (hE (l.take b9)) Zp)/\E (ax l)/\E (iN l.length)/\Q (iN (i+1)) (iN b9)/\True) (((gm:Nat)=gm)/\∀ _:Unit,Q (bV (o5 (((hE (l.take i)).length:Nat):Int) (((l.map sV).length:Nat):Int))) (bV (decide l.Nodup)))) ((((l.take i).count (l.getD i []))+1:Nat):Int)) ?_
 refine ak fun g6=>⟨⟨(0,g6),?_,rfl,Zah,rfl,Zah,ao⟩,?_⟩;simp;rintro⟨i,gm⟩ h1;refine bI (fun j8=>?_) fun j8=>?_;refine⟨Zcf,trivial,bb (MM (l.take i) (l.getD i [])),fun _=>⟨by have hc:(l.take i).count (l.getD i [])<=(l.take i).length:=List.count_le_length;simp only[List.length_take]at hc;omega,ao,fun _=>⟨Zbm (V.om · gm) (Dz (l.take i) (l.getD i [])),ak ⟨(i+1,gm),?_,?_,rfl,by rw[ba Zac []],ao⟩⟩⟩⟩;omega;exact Zak;refine⟨rfl,fun _=>?_⟩;rw[show i=l.length from Zac,Zaz (Zbc _)];refine Zbm bV ?_;rw[Za6];simp only[nb];rw[<- JL];omega)
def Bc(l:List BL):aC:=.mk 37 [ax l] [] ((l.length<=100000)/\(∀ x,x∈l->x.length<=1000/\r9 x)) (bV (dI l)) [] (by
 rintro⟨hl,ha⟩
 refine au Tryz.func37
  (.q 1<|.q 5<|.cg (lf l)<|.q 2<|.br (.q 1<|.nil) (.q 3<|.loop Nat (fun i=>⟨[(13,ax l),(14,iN l.length),(15,iN i)],[]⟩) (fun i=>i<=l.length/\∀ j,j<i->ar (l.getD j [])=true) (fun i=>l.length-i) (fun i=>.q 1<|.br (.r 3 [sV (l.getD i [])]<|.q 1<|.c (gu (l.getD i [])) []<|.q 1<|.br (.q 1<|.nil) (.q 2<|.nil)) (.q 1<|.nil))))
  ((fun (v2:Bool) (v1:Nat->Prop)=>(Gd (v2==false) (((l.length<=1000000))/\(lf l).sm)/\Pk v2 true (v2==false)/\Br (v2||(!(decide l.Nodup))) (Q (bV false) (bV (dI l))) ((∃ j6:Nat,(v1 j6)/\E (ax l)/\Q (iN ((l.map sV).length)) (iN l.length)/\Q (iN 0) (iN j6)/\True)/\∀ i:Nat,(v1 i)->Br (s4 (i:Int) (l.length:Int)) (Ex (i:Int) (l.map sV) (sV (l.getD i []))/\True/\(gu (l.getD i [])).sm/\(((l.getD i []).length<=1000000)/\(r9 (l.getD i [])))/\Br (!(ar (l.getD i []))) (Q (bV false) (bV (dI l))) (m6 ((i:Int)+1)/\∃ b9:Nat,(v1 b9)/\(l.length-b9<l.length-i)/\E (ax l)/\E (iN l.length)/\Q (iN (i+1)) (iN b9)/\True)) (Q (bV true) (bV (dI l)))))) (s9 (((l.map sV).length:Nat):Int) 60) (fun j6:Nat=>j6<=l.length/\∀ j,j<j6->ar (l.getD j [])=true)) ?_
 refine⟨fun hG=>⟨Zcq,rfl⟩,ak (bI (fun j8=>?_) fun j8=>?_)⟩;rw[GO j8];refine⟨⟨0,?_,rfl,Zah,ao⟩,?_⟩;simp;rintro i ⟨h1,h2⟩;refine bI (fun l5=>?_) fun l5=>?_;have L':=ha _ (ja (show i<l.length by omega));refine⟨Zcf,trivial,rfl,ak (L'.2),bI (fun m8=>?_) fun m8=>?_⟩;rw[Gj (i:=i) Zac Zdb];refine ak ⟨i+1,?_,?_,ao⟩;exact⟨Zac,Zdl⟩;exact Zak;rw[wc j8 (fun j hj=>h2 j Zac)])
def zF(rs:List s5):aC:=.mk 70 [da rs] [] ((rs.length<=100000)/\(∀ i,(rs.getD i ⟨false,[]⟩).path.length<=1000000)) (bV (rs.all fun r=>aY r.path)) [] (by
 rintro⟨hl,ha⟩
 refine au Tryz.func70
  (.q 1<|.q 3<|.loop Nat (fun i=>⟨[(5,da rs),(6,iN rs.length),(7,iN i)],[]⟩) (fun i=>i<=rs.length/\∀ j,j<i->aY (rs.getD j ⟨false,[]⟩).path=true) (fun i=>rs.length-i) (fun i=>.q 1<|.br (.r 2 [dS ((rs.getD i (⟨false,[]⟩:s5)).A5) ((rs.getD i (⟨false,[]⟩:s5)).path)]<|.al rL (fun g4=>.st none<|.r 2 [.c9]<|.c (lx ((rs.getD i (⟨false,[]⟩:s5)).path)) []<|.q 1<|.br (.q 1<|.nil) (.q 2<|.nil))) (.q 1<|.nil)))
  ((fun (v2:s5) (v1:Nat->Prop)=>((∃ j6:Nat,(v1 j6)/\E (da rs)/\Q (iN ((rs.map av).length)) (iN rs.length)/\Q (iN 0) (iN j6)/\True)/\∀ i:Nat,(v1 i)->Br (s4 (i:Int) (rs.length:Int)) (Ex (i:Int) (rs.map av) (dS ((rs.getD i v2).A5) ((rs.getD i v2).path))/\True/\∀ g4:Nat,Z g4 0/\Z g4 1/\(lx ((rs.getD i v2).path)).sm/\((((rs.getD i v2).path).length<=4611686018427387904))/\Br (!(eB ((rs.getD i v2).path))) (Q (bV false) (bV (rs.all fun r=>aY r.path))) (m6 ((i:Int)+1)/\∃ b9:Nat,(v1 b9)/\(rs.length-b9<rs.length-i)/\E (da rs)/\E (iN rs.length)/\Q (iN (i+1)) (iN b9)/\True)) (Q (bV true) (bV (rs.all fun r=>aY r.path))))) (⟨false,[]⟩:s5) (fun j6:Nat=>j6<=rs.length/\∀ j,j<j6->aY (rs.getD j ⟨false,[]⟩).path=true)) ?_
 refine⟨⟨0,?_,rfl,Zah,ao⟩,?_⟩;simp;rintro i ⟨h1,h2⟩;refine bI (fun j8=>?_) fun j8=>?_;refine⟨Zcr,ak fun g4=>⟨rfl,rfl,rfl,by have:=ha i;omega,bI (fun l5=>?_) fun l5=>?_⟩⟩;unfold Q;refine Zbm bV ?_;symm;exact uk (d:=⟨false,[]⟩) (i:=i) Zac (by rw[qK]at l5;exact l5);refine ak ⟨i+1,?_,?_,ao⟩;exact⟨Zac,bh h2 (by rw[qK]at l5;exact l5)⟩;exact Zak;unfold Q;refine Zbm bV ?_;symm;exact ng (d:=⟨false,[]⟩) (fun j hj=>h2 j Zac))
abbrev jS(lk:List o4)(b6:Int)(i:Nat)(la:Int):Prop:=i<=lk.length/\la=(if i=0 then 0 else (lk.getD (i-1) u0).ti)/\∀ j,j<i->nB lk b6 j=true
def zC(lk:List o4)(b6:Int):aC:=.mk 38 [dO lk,iV b6] [] ((lk.length<=100000)/\(∀ x,x∈lk->x.ad.length<=1000/\r9 x.ad)) (bV (dz lk b6)) [] (by
 rintro⟨hl,ha⟩
 refine au Tryz.func38
  (.q 1<|.q 3<|.br (.q 1<|.nil) (.q 1<|.q 3<|.loop (Nat×Int) (fun (i,la)=>⟨[(1,iV b6),(5,iV la),(11,dO lk),(12,iN lk.length),(13,iN i)],[]⟩) (fun (i,la)=>jS lk b6 i la) (fun (i,la)=>lk.length-i) (fun (i,la)=>.q 1<|.br (.r 2 [ef ((lk.getD i u0).ti) ((lk.getD i u0).ad) ((lk.getD i u0).ki)]<|.al sL (fun g7=>.st none<|.r 4 [.c9]<|.c (ec la ((lk.getD i u0).ti) b6) []<|.r 4 [.c9]<|.cg (ec (0:Int) ((lk.getD i u0).ki) (3:Int))<|.q 2<|.br (.q 1<|.nil) (.r 2 [.c9]<|.c (gu ((lk.getD i u0).ad)) []<|.q 1<|.br (.q 1<|.nil) (.r 3 [.c9]<|.q 2<|.nil)))) (.q 1<|.nil))))
  (Br (s9 (((lk.map aE).length:Nat):Int) 400) (Q (bV false) (bV (dz lk b6))) ((∃ x:Nat×Int,match x with | (j6,Wl)=>(jS lk b6 j6 Wl)/\E (iV b6)/\Q (iN 0) (iV Wl)/\E (dO lk)/\Q (iN ((lk.map aE).length)) (iN lk.length)/\Q (iN 0) (iN j6)/\True)/\∀ x:Nat×Int,match x with | (i,la)=>(jS lk b6 i la)->(fun v1:Bool=>Br (s4 (i:Int) (lk.length:Int)) (Ex (i:Int) (lk.map aE) (ef ((lk.getD i u0).ti) ((lk.getD i u0).ad) ((lk.getD i u0).ki))/\True/\∀ g7:Nat,Z g7 0/\Z g7 0/\(ec la ((lk.getD i u0).ti) b6).sm/\(True)/\Gd (v1==false) (Z g7 2)/\Gd (v1==false) ((True)/\(ec (0:Int) ((lk.getD i u0).ki) (3:Int)).sm)/\Pk v1 true (v1==false)/\Br (v1||(!(w5 ((lk.getD i u0).ki) (0:Int) (3:Int)))) (Q (bV false) (bV (dz lk b6))) (Z g7 1/\(gu ((lk.getD i u0).ad)).sm/\((((lk.getD i u0).ad).length<=1000000)/\(r9 ((lk.getD i u0).ad)))/\Br (!(ar ((lk.getD i u0).ad))) (Q (bV false) (bV (dz lk b6))) (Z g7 0/\m6 ((i:Int)+1)/\∃ x:Nat×Int,match x with | (b9,Wk)=>(jS lk b6 b9 Wk)/\(lk.length-b9<lk.length-i)/\E (iV b6)/\Q (iV ((lk.getD i u0).ti)) (iV Wk)/\E (dO lk)/\E (iN lk.length)/\Q (iN (i+1)) (iN b9)/\True))) (Q (bV true) (bV (dz lk b6)))) (!(w5 ((lk.getD i u0).ti) la b6)))) ?_
 refine bI (fun j8=>?_) fun j8=>?_;rw[Ft j8];refine⟨⟨(0,0),?_,rfl,Zah,rfl,Zah,ao⟩,?_⟩;unfold jS;simp;rintro⟨i,la⟩ ⟨h1,h2,h3⟩;refine bI (fun l5=>?_) fun l5=>?_;have L':=ha _ (aD (d:=u0) (show i<lk.length by omega));refine⟨ak (ae (d:=u0) Zac),ak fun g7=>AM (bI (fun m8=>?_) fun m8=>?_)⟩;rw[wN (i:=i) Zac (Li h2 m8)];refine⟨rfl,rfl,ak (L'.2),bI (fun y9=>?_) fun y9=>?_⟩;rw[wN (i:=i) Zac (Mc (by simpa using y9))];refine bb ⟨(i+1,(lk.getD i u0).ti),?_,?_,ao⟩;unfold jS;exact⟨Zac,Zad,bh h3 (Nc h2 m8 (by simpa using y9))⟩;exact Zak;rw[sU j8 (fun j hj=>h3 j Zac)])
def zo(y:j9)(n:BL):aC:=.mk 39 [bw y y.td,sV n] [] (J0 y) (bV (cF y n)) [] (by
 intro hh
 refine au Tryz.func39
  (.bx (fun g2=>.q 1<|.r 2 [.c9]<|.c (pO y.na) []<|.r 4 [.c9]<|.cg (ec (0:Int) y.re (5100:Int))<|.r 5 [.c9]<|.cg (ec (0:Int) y.tr (2:Int))<|.q 2<|.br (.q 1<|.nil) (.r 2 [.c9]<|.al fT (fun g5=>.st none<|.r 12 [.c9,.c9,sV (y.gr.na.getD 0 [])]<|.br (.q 1<|.nil) (.r 3 [.c9]<|.br (.r 10 [.c9,.c9]<|.nil) (.r 7 [.c9,.c9]<|.cg (zF y.gr.ru)<|.r 4 [.c9]<|.cg (ec (0:Int) (y.gr.wa:Int) (20:Int))<|.q 2<|.nil))))))
  ((fun (v4 v3 v2:Bool) (v1:Int)=>(∀ g2:Nat,Z g2 0/\(pO y.na).sm/\((y.na.length<=4611686018427387904))/\Gd (v4==false) (Z g2 1)/\Gd (v4==false) ((True)/\(ec (0:Int) y.re (5100:Int)).sm)/\Pk v4 true (v4==false)/\Gd ((v4||v3)==false) (Z g2 6)/\Gd ((v4||v3)==false) ((True)/\(ec (0:Int) y.tr (2:Int)).sm)/\Pk (v4||v3) true ((v4||v3)==false)/\Br ((v4||v3)||(!(w5 y.tr (0:Int) (2:Int)))) (Q (bV false) (bV (cF y n))) (Z g2 3/\∀ g5:Nat,Z g5 0/\Z g5 0/\Gd (v2==false) (Z g5 0)/\Gd (v2==false) (Ex 0 (y.gr.na.map sV) (sV (y.gr.na.getD 0 [])))/\Gd (v2==false) True/\Pk v2 true (v2==false)/\Br (v2||(!((y.gr.na.getD 0 [])==n))) (Q (bV false) (bV (cF y n))) (Z g2 2/\Br (!y.kn) (Z g5 1/\Gd ((o5 v1 0)==true) (Z g5 2)/\Pk (o5 v1 0) ((o5 v1 0)==true) true/\Q (bV ((o5 v1 0)&&(o5 (y.gr.wa:Int) 0))) (bV (cF y n))) (Z g5 1/\Gd ((G' v1 40)==true) (Z g5 1)/\Gd ((G' v1 40)==true) (((y.gr.ru.length<=100000)/\(∀ i,(y.gr.ru.getD i ⟨false,[]⟩).path.length<=1000000))/\(zF y.gr.ru).sm)/\Pk (G' v1 40) ((G' v1 40)==true) true/\Gd (((G' v1 40)&&(y.gr.ru.all fun r=>aY r.path))==true) (Z g5 2)/\Gd (((G' v1 40)&&(y.gr.ru.all fun r=>aY r.path))==true) ((True)/\(ec (0:Int) (y.gr.wa:Int) (20:Int)).sm)/\Pk ((G' v1 40)&&(y.gr.ru.all fun r=>aY r.path)) (((G' v1 40)&&(y.gr.ru.all fun r=>aY r.path))==true) true/\Q (bV (((G' v1 40)&&(y.gr.ru.all fun r=>aY r.path))&&(w5 (y.gr.wa:Int) (0:Int) (20:Int)))) (bV (cF y n))))))) (!(db y.na)) (!(w5 y.re (0:Int) (5100:Int))) (D7 (((y.gr.na.map sV).length:Nat):Int) 1) (((y.gr.ru.map av).length:Nat):Int)) ?_
 intro g2;refine⟨rfl,rfl,by have:=hh.n;omega,mD (bI (fun j8=>?_) fun j8=>?_)⟩;rw[Lp j8];refine⟨rfl,fun g5=>bm ⟨fun hG=>Zd2,bb (bI (fun l5=>?_) fun l5=>?_)⟩⟩;rw[LH l5];refine⟨rfl,bI (fun m8=>?_) fun m8=>?_⟩;refine bm ?_;rw[Zay,LU j8 l5 m8];refine bb ⟨fun hG=>⟨⟨by(try simp only[nb]at hG);have:=hh.r;omega,fun i=>by have:=hh.rp i;omega⟩,rfl⟩,df ?_⟩;rw[Zay,Lr j8 l5 m8])
abbrev lA(y:j9)(se:List BL)(i:Nat)(o:List BL)(g f k:Nat):Prop:=i<=y.td.length/\o=(y.td.take i).map (·.ad)/\∀ j,j<i->Uo y se (y.td.getD j j7)=true
def Cf(y:j9)(se:List BL):aC:=.mk 40 [bw y y.td,ax se] [] ((J0 y)/\(se.length<=100000)) (bV (bC y se)) [] (by
 rintro⟨hh,hs⟩;have Uv:=hh.t
 refine au Tryz.func40
  (.bx (fun g2=>.q 1<|.r 6 [.c9]<|.br (.q 1<|.nil) (.q 1<|.r 4 [.c9]<|.h (.L6 5 1)<|.loop (Nat×(List BL)×Nat×Nat×Nat) (fun (i,o,g,f,k)=>⟨[(1,ax se),(2,kp 2 g2),(5,.own 1 (o.map sV) g f k),(17,fg y.td),(18,iN y.td.length),(19,iN i)],[(2,(g2,bw y y.td))]⟩) (fun (i,o,g,f,k)=>lA y se i o g f k) (fun (i,o,g,f,k)=>y.td.length-i) (fun (i,o,g,f,k)=>.q 1<|.br (.r 2 [cm ((y.td.getD i j7).ad) ((y.td.getD i j7).tr)]<|.al my (fun g7=>.st none<|.r 2 [.c9]<|.c (eA ((y.td.getD i j7).ad)) []<|.q 3<|.al dj (fun g8=>.st none<|.q 1<|.r 13 [.c9,.c9,.c9]<|.cg (uL se ((y.td.getD i j7).ad))<|.q 2<|.br (.q 1<|.nil) (.r 2 [.c9]<|.c (ec (0:Int) ((y.td.getD i j7).tr) (2:Int)) []<|.q 1<|.br (.q 1<|.nil) (.r 3 [.c9]<|.bs<|.ap (fun WN V' WY=>.h (.n8 53 (.own 1 ((o++[(y.td.getD i j7).ad]).map sV) WN V' WY))<|.q 1<|.q 2<|.nil)))))) (.h (.fz 5)<|.h (.n8 5 (ax o))<|.q 1<|.c (lf o) []<|.q 1<|.nil)))))
  (∀ g2:Nat,Z g2 7/\Br (s9 (((y.td.map aj).length:Nat):Int) (((se.map sV).length:Nat):Int)) (Q (bV false) (bV (bC y se))) (Z g2 7/\(∃ x:Nat×(List BL)×Nat×Nat×Nat,match x with | (j6,w4,A9,B5,n6)=>(lA y se j6 w4 A9 B5 n6)/\E (ax se)/\E (kp 2 g2)/\Q (.own 1 ([].map sV) 0 0 0) (.own 1 (w4.map sV) A9 B5 n6)/\E (fg y.td)/\Q (iN ((y.td.map aj).length)) (iN y.td.length)/\Q (iN 0) (iN j6)/\Er g2 (bw y y.td)/\True)/\∀ x:Nat×(List BL)×Nat×Nat×Nat,match x with | (i,o,g,f,k)=>(lA y se i o g f k)->(fun v1:r7=>(fun (v4:List V) (v3 v2:Bool)=>Br (s4 (i:Int) (y.td.length:Int)) (Ex (i:Int) (y.td.map aj) (cm (v1.ad) (v1.tr))/\True/\∀ g7:Nat,Z g7 0/\Z g7 0/\(eA (v1.ad)).sm/\(((v1.ad).length<=1000000)/\(r9 (v1.ad)))/\∀ g8:Nat,Z g8 0/\Gd (v2==false) (Z g8 0)/\Gd (v2==false) (Z g2 0)/\Pk v2 true (v2==false)/\Gd ((v2||v3)==false) (Z g7 0)/\Gd ((v2||v3)==false) (((se.length<=1000000))/\(uL se (v1.ad)).sm)/\Pk (v2||v3) true ((v2||v3)==false)/\Br ((v2||v3)||(!(se.contains (v1.ad)))) (Q (bV false) (bV (bC y se))) (Z g7 1/\(ec (0:Int) (v1.tr) (2:Int)).sm/\(True)/\Br (!(w5 (v1.tr) (0:Int) (2:Int))) (Q (bV false) (bV (bC y se))) (Z g7 0/\((1,1,g,f,k,(o.map sV).length)=(1,1,g,f,k,(o.map sV).length))/\(True)/\(V.aF v4=false)/\(aW 1 v4)/\(((o.map sV).length+v4.length)*16<=140737488355328)/\∀ WN V' WY:Nat,((.own 1 ((o.map sV)++v4) WN V' WY:V)=.own 1 ((o++[v1.ad]).map sV) WN V' WY)/\m6 ((i:Int)+1)/\∃ x:Nat×(List BL)×Nat×Nat×Nat,match x with | (b9,m4,s6,r8,k₂)=>(lA y se b9 m4 s6 r8 k₂)/\(y.td.length-b9<y.td.length-i)/\E (ax se)/\E (kp 2 g2)/\Q (.own 1 ((o++[v1.ad]).map sV) WN V' WY) (.own 1 (m4.map sV) s6 r8 k₂)/\E (fg y.td)/\E (iN y.td.length)/\Q (iN (i+1)) (iN b9)/\Er g2 (bw y y.td)/\True))) (((.sl false (V.D9 (o.map sV)):V)=ax o)/\(lf o).sm/\((o.length<=1000000))/\Q (bV (decide o.Nodup)) (bV (bC y se)))) ([sV (v1.ad)]:List V) (!(((oA (bg (v1.ad))).l3)==y.na)) (!((bg (v1.ad)).isSome))) (y.td.getD i j7))) ?_
 intro g2;refine⟨rfl,bI (fun j8=>?_) fun j8=>?_⟩;rw[Ht j8];refine⟨rfl,⟨⟨(0,[],0,0,0),?_,df ⟨Zah,ao⟩⟩,?_⟩⟩;unfold lA;simp;rintro⟨i,o,g,f,k⟩ ⟨h1,h2,h3⟩;refine bI (fun l5=>?_) fun l5=>?_;have L':=hh.ta _ (aD (d:=j7) (show i<y.td.length by omega));have Wz:o.length=i:=Zd3
 refine⟨ak (ae (d:=j7) Zac),ak fun g7=>⟨rfl,rfl,rfl,ak (L'.2),fun g8=>eQ ⟨fun hG=>⟨Zcq,rfl⟩,ak (bI (fun m8=>?_) fun m8=>?_)⟩⟩⟩;rw[zB (i:=i) Zac (Mx m8)];refine bm (bI (fun y9=>?_) fun y9=>?_);rw[zB (i:=i) Zac (Ns y9)];refine eQ ⟨Zal,fun WN V' WY=>⟨Zbm (V.own 1 · WN V' WY) Zad,ak ⟨(i+1,o++[(y.td.getD i j7).ad],WN,V',WY),?_,?_,ao⟩⟩⟩;unfold lA;exact⟨Zac,by rw[ba Zac j7,Zbb,<- h2];rfl,bh h3 (OA m8 y9)⟩;exact Zak;refine⟨Zce,rfl,Zd3,?_⟩;rw[Hk j8 (fun j hj=>h3 j Zac),h2,Zaz Zac])
abbrev ln(t:l4)(i:Nat)(o:List BL)(g f k:Nat):Prop:=i<=t.hs.length/\o=(t.hs.take i).map (·.na)/\∀ j,j<i->(cF (t.hs.getD j e9) t.na&&bC (t.hs.getD j e9) t.se)=true
def jE(t:l4):aC:=.mk 11 [aw t] [] (r6 t) (bV (ai t)) [] (by
 intro ht;have UN:=ht.h
 refine au Tryz.func11
  (.bx (fun g1=>.q 1<|.r 2 [.c9]<|.c (rI t.na) []<|.r 4 [.c9]<|.cg (ec (0:Int) t.b6 (5000:Int))<|.q 2<|.br (.q 1<|.nil) (.r 2 [.c9]<|.c (Bc t.se) []<|.r 6 [.c9,.c9]<|.cg (zC t.lk t.b6)<|.q 2<|.br (.q 1<|.nil) (.q 1<|.r 4 [.c9]<|.h (.L6 3 1)<|.loop (Nat×(List BL)×Nat×Nat×Nat) (fun (i,o,g,f,k)=>⟨[(1,kp 1 g1),(3,.own 1 (o.map sV) g f k),(29,An t.hs),(30,iN t.hs.length),(31,iN i)],[(1,(g1,aw t))]⟩) (fun (i,o,g,f,k)=>ln t i o g f k) (fun (i,o,g,f,k)=>t.hs.length-i) (fun (i,o,g,f,k)=>.q 1<|.br (.r 2 [bw (t.hs.getD i e9) ((t.hs.getD i e9).td)]<|.al oU (fun g5=>.st none<|.r 3 [.c9,.c9]<|.c (zo (t.hs.getD i e9) t.na) []<|.r 5 [.c9,.c9]<|.cg (Cf (t.hs.getD i e9) t.se)<|.q 2<|.br (.q 1<|.nil) (.r 3 [.c9]<|.bs<|.ap (fun WO Wa WZ=>.h (.n8 51 (.own 1 ((o++[(t.hs.getD i e9).na]).map sV) WO Wa WZ))<|.q 1<|.q 2<|.nil)))) (.h (.fz 3)<|.h (.n8 3 (ax o))<|.q 1<|.c (lf o) []<|.q 1<|.nil))))))
  ((fun (v2 v1:Bool)=>(∀ g1:Nat,Z g1 0/\(rI t.na).sm/\((t.na.length<=4611686018427387904))/\Gd (v2==false) (Z g1 1)/\Gd (v2==false) ((True)/\(ec (0:Int) t.b6 (5000:Int)).sm)/\Pk v2 true (v2==false)/\Br (v2||(!(w5 t.b6 (0:Int) (5000:Int)))) (Q (bV false) (bV (ai t))) (Z g1 3/\(Bc t.se).sm/\((t.se.length<=100000)/\(∀ x,x∈t.se->x.length<=1000/\r9 x))/\Gd v1 (Z g1 4)/\Gd v1 (Z g1 1)/\Gd v1 (((t.lk.length<=100000)/\(∀ x,x∈t.lk->x.ad.length<=1000/\r9 x.ad))/\(zC t.lk t.b6).sm)/\Pk (!(dI t.se)) true v1/\Br ((!(dI t.se))||(!(dz t.lk t.b6))) (Q (bV false) (bV (ai t))) (Z g1 2/\(∃ x:Nat×(List BL)×Nat×Nat×Nat,match x with | (j6,w4,A9,B5,n6)=>(ln t j6 w4 A9 B5 n6)/\E (kp 1 g1)/\Q (.own 1 ([].map sV) 0 0 0) (.own 1 (w4.map sV) A9 B5 n6)/\E (An t.hs)/\Q (iN ((t.hs.map cv).length)) (iN t.hs.length)/\Q (iN 0) (iN j6)/\Er g1 (aw t)/\True)/\∀ x:Nat×(List BL)×Nat×Nat×Nat,match x with | (i,o,g,f,k)=>(ln t i o g f k)->(fun v3:j9=>(fun (v5:List V) (v4:Bool)=>Br (s4 (i:Int) (t.hs.length:Int)) (Ex (i:Int) (t.hs.map cv) (bw v3 (v3.td))/\True/\∀ g5:Nat,Z g5 0/\Z g5 0/\Z g1 0/\(zo v3 t.na).sm/\((J0 v3))/\Gd v4 (Z g5 0)/\Gd v4 (Z g1 3)/\Gd v4 (((J0 v3)/\(t.se.length<=100000))/\(Cf v3 t.se).sm)/\Pk (!(cF v3 t.na)) true v4/\Br ((!(cF v3 t.na))||(!(bC v3 t.se))) (Q (bV false) (bV (ai t))) (Z g5 0/\((1,1,g,f,k,(o.map sV).length)=(1,1,g,f,k,(o.map sV).length))/\(True)/\(V.aF v5=false)/\(aW 1 v5)/\(((o.map sV).length+v5.length)*16<=140737488355328)/\∀ WO Wa WZ:Nat,((.own 1 ((o.map sV)++v5) WO Wa WZ:V)=.own 1 ((o++[v3.na]).map sV) WO Wa WZ)/\m6 ((i:Int)+1)/\∃ x:Nat×(List BL)×Nat×Nat×Nat,match x with | (b9,m4,s6,r8,k₂)=>(ln t b9 m4 s6 r8 k₂)/\(t.hs.length-b9<t.hs.length-i)/\E (kp 1 g1)/\Q (.own 1 ((o++[v3.na]).map sV) WO Wa WZ) (.own 1 (m4.map sV) s6 r8 k₂)/\E (An t.hs)/\E (iN t.hs.length)/\Q (iN (i+1)) (iN b9)/\Er g1 (aw t)/\True)) (((.sl false (V.D9 (o.map sV)):V)=ax o)/\(lf o).sm/\((o.length<=1000000))/\Q (bV (decide o.Nodup)) (bV (ai t)))) ([sV (v3.na)]:List V) ((!(cF v3 t.na))==false)) (t.hs.getD i e9))))) (!(cC t.na)) ((!(dI t.se))==false)) ?_
 intro g1;refine⟨rfl,rfl,by have:=ht.n;omega,bm (bI (fun j8=>?_) fun j8=>?_)⟩;rw[IT j8];refine⟨rfl,rfl,⟨by have:=ht.s;omega,ht.sa⟩,bb ⟨fun hG=>⟨⟨by(try simp only[nb]at hG);have:=ht.l;omega,ht.la⟩,rfl⟩,ak (bI (fun l5=>?_) fun l5=>?_)⟩⟩;rw[Ja l5];refine⟨rfl,⟨⟨(0,[],0,0,0),?_,rfl,rfl,rfl,Zah,ao⟩,?_⟩⟩;unfold ln;simp;rintro⟨i,o,g,f,k⟩ ⟨h1,h2,h3⟩;refine bI (fun m8=>?_) fun m8=>?_;have L':=ht.ha _ (aD (d:=e9) (show i<t.hs.length by omega));have Wz:o.length=i:=Zd3
 refine⟨ak (ae (d:=e9) Zac),ak fun g5=>df ⟨L',bb ⟨fun hG=>⟨⟨L',by(try simp only[nb]at hG);have:=ht.s;omega⟩,rfl⟩,ak (bI (fun y9=>?_) fun y9=>?_)⟩⟩⟩;rw[JK (i:=i) Zac y9];refine eQ ⟨Zal,fun WO Wa WZ=>⟨Zbm (V.own 1 · WO Wa WZ) Zad,ak ⟨(i+1,o++[(t.hs.getD i e9).na],WO,Wa,WZ),?_,?_,ao⟩⟩⟩;unfold ln;exact⟨Zac,by rw[ba Zac e9,Zbb,<- h2];rfl,bh h3 (by rw[y9.1,y9.2];rfl)⟩;exact Zak;refine⟨Zce,rfl,Zd3,?_⟩;rw[Iv j8 l5 (fun j hj=>h3 j Zac),h2,Zaz Zac])
theorem aZ{g o f:Nat}{v:V}{vs:List V}{p:List Nat}(h:vs[f]? =some v):V.at g o (.agg vs) (f::p)=V.at g (o+V.ns (vs.take f)) v p:=by simp only[V.at,h]
section
variable {α:Type} {l:List α} {f:α->V} {e e':V} {r:List V} {i:Nat} {d:α}
theorem pU(h:i<=l.length):((l.take i).map f).length=i:=by rw[Zay,List.length_take];omega
theorem cR(h:i<=l.length):((l.take i).map f++e::r)[i]? =some e:=by
 rw[Za4 (by rw[pU h];omega),pU h,Nat.sub_self];rfl
theorem kL(h:i<=l.length):((l.take i).map f++e::r).set i e'=(l.take i).map f++e'::r:=by
 rw[List.set_append_right _ _ (by rw[pU h];omega),pU h,Nat.sub_self];rfl
theorem eO(h:i<l.length):l.map f=(l.take i).map f++f (l.getD i d)::(l.drop (i+1)).map f:=by
 have:l=l.take i++l.getD i d::l.drop (i+1):=by
  rw[Zam,Zat h];simp only[Option.getD_some];rw[List.getElem_cons_drop,List.take_append_drop]
 conv=>lhs;rw[this,Zbb,Zbe]
theorem splitN{y:α}(e:l.getD i d=y)(h:i<l.length):l.map f=(l.take i).map f++f y::(l.drop (i+1)).map f:=by rw[<- e];exact eO h
theorem dg{x:α}(h:i<l.length):(l.take i).map f++f x::(l.drop (i+1)).map f=(l.set i x).map f:=by
 rw[List.set_eq_take_append_cons_drop,if_pos h,Zbb,Zbe]
end
theorem aK{p:Prop}(h:p:=by repeat' (first | exact rfl | exact trivial | exact fun h=>h | exact fun hG=>rfl | exact fun hG=>trivial | exact fun hG=>⟨trivial,rfl⟩ | exact fun _=>rfl | exact fun _=>trivial | exact fun _ h=>h | exact⟨fun _=>rfl,fun h=>by rw[h] <;> rfl⟩ | exact⟨fun h=>by rw[h] <;> rfl,fun _=>rfl⟩ | exact fun hG=>⟨fun h=>by rw[h];exact(Zao _ _).mpr ⟨hG,rfl⟩,fun _=>rfl⟩ | exact fun hG=>⟨fun _=>rfl,fun h=>by rw[h];exact(Zao _ _).mpr ⟨hG,rfl⟩⟩ | exact(aZ (f:=2) rfl).trans (aQ (cR Zac) rfl) | exact(aZ (f:=2) rfl).trans (aQ (by rw[Zaw];exact cR Zac) rfl) | exact(aZ (f:=1) rfl).trans ((aZ (f:=2) rfl).trans (aQ (cR Zac) rfl)) | exact(aZ (f:=1) rfl).trans ((aZ (f:=2) rfl).trans (aQ (by rw[Zaw];exact cR Zac) rfl)) | exact nE (bG (cR Zac) (kL Zac)) | exact nE (bG (by rw[Zaw];exact cR Zac) (by rw[Zaw];exact kL Zac)) | exact Fz (nE (bG (cR Zac) (kL Zac))) | exact Fz (nE (bG (by rw[Zaw];exact cR Zac) (by rw[Zaw];exact kL Zac))) | exact Zbm (V.sl false) (aU (fun _=>rfl) _) | omega | refine And.intro ?_ ?_ | ((try simp only[Zay]at *);omega) | ((try simp only[Zay]at *);(try simp only[Zap,Zay,Zar,Zau,List.length_take,List.length_drop]);omega) | (simp[aW,V.n,V.ns]) | exact fun hG=>by(try simp only[nb]at hG);omega | exact fun hG=>by(try simp only[nb]at hG);(try simp only[Zay]at *);omega | exact fun hG=>by(try simp only[nb]at hG);(try simp only[Zay]at *);(try simp only[Zap,Zay,Zar,Zau,List.length_take,List.length_drop]);omega | (simp;omega) | assumption)):p:=h
theorem az{A Z:Prop}(z:Z)(a:A:=by exact aK):A/\Z:=⟨a,z⟩
theorem bq{A B Z:Prop}(z:Z)(a:A/\B:=by exact aK):A/\B/\Z:=⟨a.1,a.2,z⟩
theorem bj{A B C Z:Prop}(z:Z)(a:A/\B/\C:=by exact aK):A/\B/\C/\Z:=⟨a.1,a.2.1,a.2.2,z⟩
theorem bM{A B C D Z:Prop}(z:Z)(a:A/\B/\C/\D:=by exact aK):A/\B/\C/\D/\Z:=⟨a.1,a.2.1,a.2.2.1,a.2.2.2,z⟩
theorem cN{A B C D E Z:Prop}(z:Z)(a:A/\B/\C/\D/\E:=by exact aK):A/\B/\C/\D/\E/\Z:=⟨a.1,a.2.1,a.2.2.1,a.2.2.2.1,a.2.2.2.2,z⟩
theorem iY{A B C D E F Z:Prop}(z:Z)(a:A/\B/\C/\D/\E/\F:=by exact aK):A/\B/\C/\D/\E/\F/\Z:=⟨a.1,a.2.1,a.2.2.1,a.2.2.2.1,a.2.2.2.2.1,a.2.2.2.2.2,z⟩
theorem gJ{A B C D E F G Z:Prop}(z:Z)(a:A/\B/\C/\D/\E/\F/\G:=by exact aK):A/\B/\C/\D/\E/\F/\G/\Z:=⟨a.1,a.2.1,a.2.2.1,a.2.2.2.1,a.2.2.2.2.1,a.2.2.2.2.2.1,a.2.2.2.2.2.2,z⟩
theorem cL{A B C D E F G H Z:Prop}(z:Z)(a:A/\B/\C/\D/\E/\F/\G/\H:=by exact aK):A/\B/\C/\D/\E/\F/\G/\H/\Z:=⟨a.1,a.2.1,a.2.2.1,a.2.2.2.1,a.2.2.2.2.1,a.2.2.2.2.2.1,a.2.2.2.2.2.2.1,a.2.2.2.2.2.2.2,z⟩
abbrev bQ(p0:BL)(p1:Int)(p2:List j9)(p3:List BL)(p4:List o4):V:=.agg [sV p0,iV p1,.ow 8 (p2.map ah),.ow 1 (p3.map sV),.ow 3 (p4.map aE)]
abbrev bu(p0:BL)(p1:Int)(p2:List j9)(p3 p4 p5:Nat)(p6:List BL)(p7:List o4):V:=.agg [sV p0,iV p1,.own 8 (p2.map ah) p3 p4 p5,.ow 1 (p6.map sV),.ow 3 (p7.map aE)]
abbrev KD(p0:BL)(p1:Int)(p2:List j9)(p3:Nat)(p4:BL)(p5:Int)(p6:Bool)(p7:List BL)(p8:List s5)(p9:Nat)(J2:Int)(G9 E8 E7:Nat)(E6:List BL)(E5:List o4):V:=.agg [sV p0,iV p1,.own 8 ((p2.take p3).map ah++(.agg [sV p4,iV p5,bV p6,.agg [.sl false (p7.map sV),.sl false (p8.map av),iN p9],iV J2,.c9]:V)::(p2.drop (p3+1)).map ah) G9 E8 E7,.ow 1 (E6.map sV),.ow 3 (E5.map aE)]
abbrev Nk(p0:BL)(p1:Int)(p2:List j9)(p3:Nat)(p4:BL)(p5:Int)(p6:Bool)(p7:List BL)(p8:List s5)(p9:Nat)(J2:Int)(G9:List r7)(E8 E7 E6:Nat)(E5:List BL)(I1:List o4):V:=.agg [sV p0,iV p1,.own 8 ((p2.take p3).map ah++(.agg [sV p4,iV p5,bV p6,.agg [.sl false (p7.map sV),.sl false (p8.map av),iN p9],iV J2,.ow 2 (G9.map aj)]:V)::(p2.drop (p3+1)).map ah) E8 E7 E6,.ow 1 (E5.map sV),.ow 3 (I1.map aE)]
abbrev NP(p0:BL)(p1:Int)(p2:List j9)(p3:Nat)(p4:BL)(p5:Int)(p6:Bool)(p7:List BL)(p8:List s5)(p9:Nat)(J2:Int)(G9:List r7)(E8 E7 E6 E5 I1 J':Nat)(N6:List BL)(O5:List o4):V:=.agg [sV p0,iV p1,.own 8 ((p2.take p3).map ah++(.agg [sV p4,iV p5,bV p6,.agg [.sl false (p7.map sV),.sl false (p8.map av),iN p9],iV J2,.own 2 (G9.map aj) E8 E7 E6]:V)::(p2.drop (p3+1)).map ah) E5 I1 J',.ow 1 (N6.map sV),.ow 3 (O5.map aE)]
abbrev gT(p0:BL)(p1:Int)(p2:List j9)(p3:Nat)(y4:j9)(G9 E8 E7:Nat)(E6:List BL)(E5:List o4):V:=KD p0 p1 p2 p3 y4.na y4.re y4.kn y4.gr.na y4.gr.ru y4.gr.wa y4.tr G9 E8 E7 E6 E5
abbrev cb(p0:BL)(p1:Int)(p2:List j9)(p3:Nat)(y4:j9)(G9:List r7)(E8 E7 E6:Nat)(E5:List BL)(I1:List o4):V:=Nk p0 p1 p2 p3 y4.na y4.re y4.kn y4.gr.na y4.gr.ru y4.gr.wa y4.tr G9 E8 E7 E6 E5 I1
abbrev bf(p0:BL)(p1:Int)(p2:List j9)(p3:Nat)(y4:j9)(G9:List r7)(E8 E7 E6 E5 I1 J':Nat)(N6:List BL)(O5:List o4):V:=NP p0 p1 p2 p3 y4.na y4.re y4.kn y4.gr.na y4.gr.ru y4.gr.wa y4.tr G9 E8 E7 E6 E5 I1 J' N6 O5
theorem qI{hs:List j9}{d:BL}{i:Nat}(hi:i<hs.length)(e:(hs.getD i e9).na=d)(h:∀ j,j<i->((hs.getD j e9).na==d)=false):C7 hs d=i:=by
 unfold C7;rw[List.findIdx_eq hi];simp only[Zam,Zat hi]at e;refine⟨Zb3,fun j hj=>?_⟩;have:=h j hj;simp only[Zam,Zat (show j<hs.length by omega)]at this;simpa using this
theorem ya{hs:List j9}{d:BL}(h:∀ j,j<hs.length->((hs.getD j e9).na==d)=false):C7 hs d=hs.length:=by
 unfold C7;rw[List.findIdx_eq_length];intro x hx;obtain⟨j,hj,rfl⟩:=Zbg.1 hx;have:=h j hj;simp only[Zam,Zat hj]at this;simpa using this
theorem DI{hs:List j9}{d n:BL}{i:Nat}(hi:i<hs.length)(e:(hs.getD i e9).na=d)(h:∀ j,j<i->((hs.getD j e9).na==d)=false):bp hs d n=hs:=by
 unfold bp;rw[qI hi e h,if_pos hi]
theorem CN{hs:List j9}{d n:BL}(h:∀ j,j<hs.length->((hs.getD j e9).na==d)=false):bp hs d n=hs++[dv d n]:=by
 unfold bp;rw[ya h,if_neg Zac]
theorem qN{n a:BL}{hs:List j9}{se:List BL}(h: ¬ dG se a):bz n hs se a=hs:=if_neg h
theorem mi{a:BL}{se:List BL}(h: ¬ dG se a):aI se a=se:=if_neg h
theorem qw{a:BL}{se:List BL}(h:dG se a):aI se a=se++[a]:=if_pos h
theorem Mz{a:BL}{se:List BL}(h:(bg a).isSome=false\/60<=(se.length:Int)): ¬ dG se a:=fun c=>by
 rw[iH]at h;rcases h with h | h;rw[c.1]at h;cases h;have:=c.2.1;omega
theorem NG{a:BL}{se:List BL}(h:se.contains a=true): ¬ dG se a:=fun c=>c.2.2 (List.contains_iff_mem.1 h)
theorem FE{a:BL}{se:List BL}(h:(bg a).isSome=true/\(se.length:Int)<60)(h2:se.contains a=false):dG se a:=by
 rw[iH]at h;exact⟨h.1,Zac,fun c=>by rw[List.contains_iff_mem.2 c]at h2;cases h2⟩
theorem KH{a:BL}{se:List BL}(h:dG se a):bg a=aT a/\(if aR (oA (bg a))=true then bZ (oA (bg a)) else [])=pathOf a:=by
 have e:bg a=aT a:=if_pos h.1;have hs:(aT a).isSome=true:=by have:=h.1;unfold ar at this;rw[Zao]at this;exact this.1
 exact⟨e,by rw[e,if_pos (pr hs)];rfl⟩
theorem Iu{n a:BL} {hs:List j9} {se:List BL} (h:dG se a) (hk:((bp hs (oA (bg a)).l3 n).getD (C7 hs (oA (bg a)).l3) e9).kn=true/\
 bD ((bp hs (oA (bg a)).l3 n).getD (C7 hs (oA (bg a)).l3) e9).gr.ru (if aR (oA (bg a))=true then bZ (oA (bg a)) else [])=false):bz n hs se a=bp hs (oA (bg a)).l3 n:=by
 obtain⟨e1,e2⟩:=KH h;rw[e2,e1]at hk;unfold bz;rw[if_pos h,e1];unfold dR aA;rw[if_pos hk];apply List.ext_getElem Zad;intro i h1 h2;rw[List.getElem_set];split;rename_i e;subst e;rw[Zam,Zat h2];rfl;rfl
theorem KT{n a:BL} {hs:List j9} {se:List BL} (h:dG se a) (hk:((bp hs (oA (bg a)).l3 n).getD (C7 hs (oA (bg a)).l3) e9).kn=true->
 bD ((bp hs (oA (bg a)).l3 n).getD (C7 hs (oA (bg a)).l3) e9).gr.ru (if aR (oA (bg a))=true then bZ (oA (bg a)) else [])=true):
 bz n hs se a=(bp hs (oA (bg a)).l3 n).set (C7 hs (oA (bg a)).l3) { (bp hs (oA (bg a)).l3 n).getD (C7 hs (oA (bg a)).l3) e9 with td:=((bp hs (oA (bg a)).l3 n).getD (C7 hs (oA (bg a)).l3) e9).td++[⟨a,0⟩] }:=by
 obtain⟨e1,e2⟩:=KH h;rw[e2,e1]at hk;unfold bz;rw[if_pos h,e1];unfold dR aA;rw[if_neg (fun c=>by rw[hk c.1]at c;exact absurd c.2 Zaf)]
theorem Nz{n:BL}{n7:List BL}(h:cC n=false\/12<(n7.length:Int)):dr n n7=none:=if_neg fun c=>by
 rcases h with e | e;rw[c.1]at e;cases e;have:=c.2;omega
theorem Na{n:BL}{n7:List BL}(h:cC n=true/\(n7.length:Int)<=12):dr n n7=some (n7.foldl aq (dP n)):=if_pos ⟨h.1,by have:=h.2;omega⟩
theorem Oo{hs:List j9}{n:BL}(hg:∀ y,y∈hs->y.td.length<=1000/\y.gr.ru.length<=1000/\∀ i,(y.gr.ru.getD i ⟨false,[]⟩).path.length<=1000)(d:BL):
 let y:=(bp hs d n).getD (C7 hs d) e9
 y.td.length<=1000/\y.gr.ru.length<=1000/\∀ i,(y.gr.ru.getD i ⟨false,[]⟩).path.length<=1000:=by
 intro y;have hm:y∈bp hs d n:=aD (d:=e9) (iv hs d n);unfold bp at hm;split at hm;exact hg y hm;rcases Zax.1 hm with h | h;exact hg y h;rw[Zav.1 h];simp[dv]
def zw(n:BL)(b6:Int)(zs:List j9)(se:List BL)(ls:List o4)(gt:Nat)(d:BL):fO:=.mk (Nat×Nat×Nat) 188 [kp 1000 gt,sV d] [(1000,(gt,bQ n b6 zs se ls))] (zs.length<=1000) (fun x=>True) (fun x=>.ptr (.key 1000) [2,(C7 zs d)] x.1 (x.2.1+(C7 zs d)*8)) (fun x=>[(1000,(gt,bu n b6 (bp zs d n) x.1 x.2.1 x.2.2 se ls))]) (by
 intro hl
 refine fK Tryz.func188
  (.oR (.key 1000) [2] (fun g o c=>.q 1<|.r 6 [.c9]<|.loop Nat (fun i=>⟨[(0,kp 1000 gt),(1,sV d),(10,iN zs.length),(11,iN i)],[(1000,(gt,bu n b6 zs g o c se ls))]⟩) (fun i=>i<=zs.length/\∀ j,j<i->((zs.getD j e9).na==d)=false) (fun i=>zs.length-i) (fun i=>.q 1<|.br (.q 2<|.r 10 [.c9,sV ((zs.getD i e9).na)]<|.br (.r 7 [.c9]<|.nil) (.q 2<|.nil)) (.A7 15 [(4,m5 [1000] [35]),(9,m5 [1000] [40]),(14,⟨true,[],none,[45],[1000]⟩)]<|.l7 4<|.n9<|.l7 4<|.n9<|.bs<|.bd fT<|.bd oU<|.bs<|.ux none (fun PS PN Qz=>.h (.n8 45 (.own 8 (zs.map ah++[(.agg [sV d,iN 0,bV false,.agg [.sl true [sV n],.sl true [],iN 0],iN 0,.sl true []]:V)]) PS PN Qz))<|.h (.Tf (.slot 45) [zs.length,5] PS (PN+(zs.length)*8+7) 2)<|.h (.n8 45 (.own 8 (zs.map ah++[(.agg [sV d,iN 0,bV false,.agg [.sl true [sV n],.sl true [],iN 0],iN 0,.own 2 ([].map aj) 0 0 0]:V)]) PS PN Qz))<|.h (.Pe (.slot 45) [zs.length] PS (PN+(zs.length)*8) (.agg [sV d,iN 0,bV false,.agg [.sl true [sV n],.sl true [],iN 0],iN 0,.own 2 ([].map aj) 0 0 0]) (.agg [sV d,iV 0,bV false,.agg [.sl false ([n].map sV),.sl false ([].map av),iN 0],iV 0,.ow 2 ([].map aj)]))<|.h (.n8 45 (.own 8 (zs.map ah++[(.agg [sV d,iV 0,bV false,.agg [.sl false ([n].map sV),.sl false ([].map av),iN 0],iV 0,.ow 2 ([].map aj)]:V)]) PS PN Qz))<|.h (.n8 45 (.own 8 ((zs++[(dv d n)]).map ah) PS PN Qz))<|.q 2<|.st none<|.A7 10 [(3,m5 [1000] [51]),(7,m5 [1000] [55])]<|.l7 3<|.n9<|.l7 3<|.n9<|.l7 2<|.h (.n8 57 (iN zs.length))<|.q 2<|.nil)))))
  ((fun (v6 v2:List V) (v5 v4 v3:V) (v1:Nat->Prop)=>(∀ g o c:Nat,(fun v7:V=>True/\Z gt 2/\(∃ j6:Nat,(v1 j6)/\E (kp 1000 gt)/\E (sV d)/\Q (iN ((zs.map ah).length)) (iN zs.length)/\Q (iN 0) (iN j6)/\Er gt v7/\True)/\∀ i:Nat,(v1 i)->Br (s4 (i:Int) (zs.length:Int)) (True/\Z gt 2/\In (i:Int) ((zs.map ah).length)/\(V.at gt 0 v7 [2,0+i,0]=some (g,(o+(0+i)*8+0),sV ((zs.getD i e9).na)))/\Br (((zs.getD i e9).na)==d) (True/\Z gt 2/\In (i:Int) ((zs.map ah).length)/\∃ x:Nat×Nat×Nat,(True)/\Q (.ptr (.key 1000) [2,(C7 zs d)] g (o+(0+i)*8)) (.ptr (.key 1000) [2,(C7 zs d)] x.1 (x.2.1+(C7 zs d)*8))/\Qr gt v7 gt (bu n b6 (bp zs d n) x.1 x.2.1 x.2.2 se ls)) (m6 ((i:Int)+1)/\∃ b9:Nat,(v1 b9)/\(zs.length-b9<zs.length-i)/\E (kp 1000 gt)/\E (sV d)/\E (iN zs.length)/\Q (iN (i+1)) (iN b9)/\Er gt v7/\True)) (True/\Z gt 2/\True/\Z gt 0/\(((8,8,g,o,c,(zs.map ah).length)=(8,8,g,o,c,(zs.map ah).length))/\(V.aF v2=false)/\(aW 8 v2)/\(((zs.map ah).length+v2.length)*120<=140737488355328))/\∀ PS PN Qz:Nat,((.own 8 ((zs.map ah)++v2) PS PN Qz:V)=.own 8 (zs.map ah++[v4]) PS PN Qz)/\(V.at PS PN (.own 8 (zs.map ah++[v4]) PS PN Qz) [zs.length,5]=some (PS,PN+(zs.length)*8+7,.sl true []))/\(V.set (.own 8 (zs.map ah++[v4]) PS PN Qz) [zs.length,5] (.own 2 ([].map aj) 0 0 0)=.own 8 (zs.map ah++[v3]) PS PN Qz)/\(V.at PS PN (.own 8 (zs.map ah++[v3]) PS PN Qz) [zs.length]=some (PS,PN+(zs.length)*8,.agg [sV d,iN 0,bV false,.agg [.sl true [sV n],.sl true [],iN 0],iN 0,.own 2 ([].map aj) 0 0 0]))/\(V.set (.own 8 (zs.map ah++[v3]) PS PN Qz) [zs.length] (.agg [sV d,iV 0,bV false,.agg [.sl false ([n].map sV),.sl false ([].map av),iN 0],iV 0,.ow 2 ([].map aj)])=.own 8 (zs.map ah++[v5]) PS PN Qz)/\((.own 8 (zs.map ah++[v5]) PS PN Qz:V)=.own 8 v6 PS PN Qz)/\True/\Z gt 2/\True/\Z gt 2/\True/\Z gt 2/\m6 (((v6.length:Nat):Int)-1)/\Q (iV (((v6.length:Nat):Int)-1)) (iN zs.length)/\In (zs.length:Int) (v6.length)/\∃ x:Nat×Nat×Nat,(True)/\Q (.ptr (.key 1000) [2,(C7 zs d)] PS (PN+(0+zs.length)*8)) (.ptr (.key 1000) [2,(C7 zs d)] x.1 (x.2.1+(C7 zs d)*8))/\Qr gt (bu n b6 (zs++[(dv d n)]) PS PN Qz se ls) gt (bu n b6 (bp zs d n) x.1 x.2.1 x.2.2 se ls))) (bu n b6 zs g o c se ls))) ((zs++[(dv d n)]).map ah) ([.agg [sV d,iN 0,bV false,.agg [.sl true [sV n],.sl true [],iN 0],iN 0,.sl true []]]:List V) (.agg [sV d,iV 0,bV false,.agg [.sl false ([n].map sV),.sl false ([].map av),iN 0],iV 0,.ow 2 ([].map aj)]:V) (.agg [sV d,iN 0,bV false,.agg [.sl true [sV n],.sl true [],iN 0],iN 0,.sl true []]:V) (.agg [sV d,iN 0,bV false,.agg [.sl true [sV n],.sl true [],iN 0],iN 0,.own 2 ([].map aj) 0 0 0]:V) (fun j6:Nat=>j6<=zs.length/\∀ j,j<j6->((zs.getD j e9).na==d)=false)) ?_
 intro g o c;refine bq ⟨⟨0,?_,rfl,rfl,Zah,aK⟩,?_⟩;simp;rintro i ⟨h1,h2⟩;refine bI (fun j8=>?_) fun j8=>?_
 · refine bj ⟨Zd4,bI (fun l5=>?_) fun l5=>?_⟩
   · refine bj ⟨(g,o,c),?_,?_,?_⟩
     · try dsimp only
       all_goals trivial
     first | (rw[qI (i:=i) Zac l5 h2,Zaw]) | (rw[ya (fun j hj=>h2 j Zac),Zaw])
     first | (rw[DI (i:=i) Zac l5 h2]) | (rw[CN (fun j hj=>h2 j Zac)])
   refine az ⟨i+1,?_,?_,aK⟩;exact⟨Zac,Zdw⟩;exact Zak
 · refine bM ⟨bj Zal,fun PS PN Qz=>⟨Zbm (V.own 8 · PS PN Qz) (rfl),Zdc,Zdd,iu aG,oL (aG) (bU),Zbm (V.own 8 · PS PN Qz) (by rw[Zbb (f:=ah)];rfl),gJ ⟨Zds,az ?_⟩⟩⟩;refine⟨(PS,PN,Qz),?_,?_,?_⟩
   · try dsimp only
     all_goals trivial
   first | (rw[qI (i:=i) Zac l5 h2,Zaw]) | (rw[ya (fun j hj=>h2 j Zac),Zaw])
   first | (rw[DI (i:=i) Zac l5 h2]) | (rw[CN (fun j hj=>h2 j Zac)]))
def HC(n:BL)(b6:Int)(zs:List j9)(se:List BL)(ls:List o4)(gt:Nat)(a:BL):aC:=.mk 154 [kp 1000 gt,sV a] [(1000,(gt,bQ n b6 zs se ls))] ((zs.length<=1000)/\(se.length<=1000)/\(a.length<=1000000)/\(r9 a)/\(∀ y,y∈zs->y.td.length<=1000/\y.gr.ru.length<=1000/\∀ i,(y.gr.ru.getD i ⟨false,[]⟩).path.length<=1000)) (.tup []) [(1000,(gt,bQ n b6 (bz n zs se a) (aI se a) ls))] (by
 rintro⟨hl,P5,ha,hc,hg⟩
 refine au Tryz.func154
  (.oR (.key 1000) [3] (fun gs os cs=>.q 1<|.c (eA a) []<|.q 3<|.al dj (fun g4=>.st none<|.q 1<|.r 10 [.c9]<|.sp ((!((bg a).isSome))||(D0 (((se.map sV).length:Nat):Int) 60)) (.h (.n8 21 (bV true))<|.q 1<|.gf (.c9)<|.gf (.c9)<|.gf (.c9)<|.gf (.c9)<|.gf (.c9)<|.gf (bV false)<|.q 1<|.br (.nil) (.nil)) (.h (.n8 21 (bV false))<|.q 1<|.gt<|.q 1<|.gt<|.q 1<|.gt<|.q 1<|.gt<|.n9<|.gt<|.q 1<|.gt<|.cl (uL se a)<|.q 1<|.br (.nil) (.r 6 [.c9]<|.bs<|.ap (fun PT RD RJ=>.h (.n8 37 (.own 1 ((se++[a]).map sV) PT RD RJ))<|.q 2<|.st none<|.r 3 [.c9]<|.cx (zw n b6 zs (se++[a]) ls gt ((oA (bg a)).l3)) [(1000,1000)] (fun (m0:Nat×Nat×Nat)=>.q 1<|.ex (List j9×Nat) (fun x=>((bp zs (oA (bg a)).l3 n),(C7 zs (oA (bg a)).l3))=x) (fun (x:List j9×Nat)=>.h (.r4 1000 (bu n b6 x.1 m0.1 m0.2.1 m0.2.2 (se++[a]) ls))<|.h (.n8 43 (.ptr (.key 1000) [2,x.2] m0.1 (m0.2.1+x.2*8)))<|.h (.n8 6 (.ptr (.key 1000) [2,x.2] m0.1 (m0.2.1+x.2*8)))<|.A7 15 [(3,m5 [1000] [47]),(9,m5 [1000] [53]),(10,m5 [4] [54])]<|.l7 3<|.r 1 [bV ((x.1.getD x.2 e9).kn)]<|.l7 5<|.r 1 [da ((x.1.getD x.2 e9).gr.ru)]<|.n9<|.cg (nJ (oA (bg a)))<|.cg (mW ((x.1.getD x.2 e9).gr.ru) (if aR (oA (bg a))=true then bZ (oA (bg a)) else []))<|.l7 2<|.br (.nil) (.ex (j9) (fun y=>(x.1.getD x.2 e9)=y) (fun (y:j9)=>(fun y1:List V=>(.h (.r4 1000 (cb n b6 x.1 x.2 y y.td m0.1 m0.2.1 m0.2.2 (se++[a]) ls))<|.QB (.key 1000) [2,x.2,5] m0.1 (m0.2.1+(x.2)*8+7) 2 (y.td.map aj) (fun gA N3 cA=>.h (.r4 1000 (bf n b6 x.1 x.2 y y.td gA N3 cA m0.1 m0.2.1 m0.2.2 (se++[a]) ls))<|.r 6 [.own 2 (y.td.map aj) gA N3 cA]<|.bd my<|.bs<|.Zu (y.td.map aj) m0.1 (m0.2.1+(x.2)*8+7) (fun T8 T4 Ub=>.h (.n8 67 (.own 2 y1 T8 T4 Ub))<|.h (.r4 1000 (gT n b6 x.1 x.2 y m0.1 m0.2.1 m0.2.2 (se++[a]) ls))<|.q 2<|.st (some (.c9))<|.h (.r4 1000 (bf n b6 x.1 x.2 y (y.td++[(⟨a,0⟩:r7)]) T8 T4 Ub m0.1 m0.2.1 m0.2.2 (se++[a]) ls))<|.h (.Pe (.key 1000) [2,x.2,5] m0.1 (m0.2.1+(x.2)*8+7) (.own 2 y1 T8 T4 Ub) (.ow 2 y1))<|.h (.r4 1000 (cb n b6 x.1 x.2 y (y.td++[(⟨a,0⟩:r7)]) m0.1 m0.2.1 m0.2.2 (se++[a]) ls))<|.h (.r4 1000 (bu n b6 (x.1.set x.2 ({ y with td:=y.td++[⟨a,0⟩] }:j9)) m0.1 m0.2.1 m0.2.2 (se++[a]) ls))<|.nil)):Sc Tryz.prog)) ((y.td++[(⟨a,0⟩:r7)]).map aj)))))))))))
  ((fun (v5:List V) (v4 v2:Bool) (v3:r7) (v1:V)=>(∀ gs os cs:Nat,(eA a).sm/\((a.length<=1000000)/\(r9 a))/\∀ g4:Nat,Z g4 0/\Gd (v4==false) True/\Gd (v4==false) (Z gt 3)/\Pk v4 true (v4==false)/\((v4||v2)=true->((bV (v4||v2):V)=bV true)/\(false=false)/\(false=false)/\(false=false)/\(false=false)/\(false=false)/\(false=false)/\Pk true true false/\Br (true||false) (Q (.tup []) (.tup [])/\Qr gt (bQ n b6 zs se ls) gt v1) (False))/\((v4||v2)=false->((bV (v4||v2):V)=bV false)/\(true=true)/\(true=true)/\True/\(true=true)/\(true=true)/\Z gt 3/\(true=true)/\(true=true)/\(((1=1/\gs=gs/\os=os)/\0+((se.map sV).length)<=(se.map sV).length/\V.aF (se.map sV)=false/\aW 1 (se.map sV))/\True)/\(([.sl false (((se.map sV).drop 0).take ((se.map sV).length)),sV a]:List V)=[ax se,sV a])/\((se.length<=1000000))/\Pk false true true/\Br (false||(se.contains a)) (Q (.tup []) (.tup [])/\Qr gt (bQ n b6 zs se ls) gt v1) (True/\Z gt 3/\((1,1,gs,os,cs,(se.map sV).length)=(1,1,gs,os,cs,(se.map sV).length))/\(True)/\(V.aF ([sV a]:List V)=false)/\(aW 1 ([sV a]:List V))/\(((se.map sV).length+([sV a]:List V).length)*16<=140737488355328)/\∀ PT RD RJ:Nat,((.own 1 ((se.map sV)++([sV a]:List V)) PT RD RJ:V)=.own 1 ((se++[a]).map sV) PT RD RJ)/\True/\Z gt 3/\Z g4 0/\(zw n b6 zs (se++[a]) ls gt ((oA (bg a)).l3)).sm/\Er gt (bQ n b6 zs (se++[a]) ls)/\((zs.length<=1000))/\∀ m0:Nat×Nat×Nat,(True)->(fun v6:V=>(∃ x:List j9×Nat,((bp zs (oA (bg a)).l3 n),(C7 zs (oA (bg a)).l3))=x)/\∀ x:List j9×Nat,(((bp zs (oA (bg a)).l3 n),(C7 zs (oA (bg a)).l3))=x)->(fun (v8:V) (v7:j9)=>((bu n b6 (bp zs ((oA (bg a)).l3) n) m0.1 m0.2.1 m0.2.2 (se++[a]) ls:V)=bu n b6 x.1 m0.1 m0.2.1 m0.2.2 (se++[a]) ls)/\(v6=.ptr (.key 1000) [2,x.2] m0.1 (m0.2.1+x.2*8))/\(v6=.ptr (.key 1000) [2,x.2] m0.1 (m0.2.1+x.2*8))/\True/\(V.at gt 0 v8 [2,x.2,2]=some (m0.1,(m0.2.1+x.2*8+2),bV (v7.kn)))/\Gd ((v7.kn)==true) (((v7.kn)==true)=true)/\Gd ((v7.kn)==true) True/\Gd ((v7.kn)==true) (((v7.kn)==true)=true)/\Gd ((v7.kn)==true) (((v7.kn)==true)=true)/\Gd ((v7.kn)==true) (((v7.kn)==true)=true)/\Gd ((v7.kn)==true) (V.at gt 0 v8 [2,x.2,3,1]=some (m0.1,(m0.2.1+x.2*8+3+1),da (v7.gr.ru)))/\Gd ((v7.kn)==true) (Z g4 0)/\Gd ((v7.kn)==true) (((v7.kn)==true)=true)/\Gd ((v7.kn)==true) (((di (oA (bg a))))/\(nJ (oA (bg a))).sm)/\Gd ((v7.kn)==true) (((v7.kn)==true)=true)/\Gd ((v7.kn)==true) (((v7.kn)==true)=true)/\Gd ((v7.kn)==true) ((((v7.gr.ru).length<=1000000)/\(∀ i,((v7.gr.ru).getD i ⟨false,[]⟩).path.length<=1000000)/\((if aR (oA (bg a))=true then bZ (oA (bg a)) else []).length<=1000000))/\(mW (v7.gr.ru) (if aR (oA (bg a))=true then bZ (oA (bg a)) else [])).sm)/\Gd ((v7.kn)==true) (((v7.kn)==true)=true)/\Pk (v7.kn) ((v7.kn)==true) true/\Br ((v7.kn)&&(!(bD (v7.gr.ru) (if aR (oA (bg a))=true then bZ (oA (bg a)) else [])))) (Q (.tup []) (.tup [])/\Qr gt (bQ n b6 x.1 (se++[a]) ls) gt v1) ((∃ y:j9,v7=y)/\∀ y:j9,(v7=y)->(fun (v12 v10:V) (v11 v9:List V)=>((bu n b6 x.1 m0.1 m0.2.1 m0.2.2 (se++[a]) ls:V)=cb n b6 x.1 x.2 y y.td m0.1 m0.2.1 m0.2.2 (se++[a]) ls)/\(V.at gt 0 v10 [2,x.2,5]=some (m0.1,m0.2.1+(x.2)*8+7,.ow 2 v9))/\∀ gA N3 cA:Nat,(fun w3:V=>(V.set v10 [2,x.2,5] (.own 2 v9 gA N3 cA)=bf n b6 x.1 x.2 y y.td gA N3 cA m0.1 m0.2.1 m0.2.2 (se++[a]) ls)/\True/\(V.at gt 0 w3 [2,x.2,5]=some (m0.1,(m0.2.1+x.2*8+7),.own 2 v9 gA N3 cA))/\((V.at gt 0 w3 [2,x.2,5]=some (m0.1,m0.2.1+(x.2)*8+7,.own 2 v9 gA N3 cA))/\2=2/\v9.length=v9.length)/\(True)/\(V.aF v5=false)/\(aW 2 v5)/\((v9.length+v5.length)*24<=140737488355328)/\∀ T8 T4 Ub:Nat,(fun w7:V=>((.own 2 (v9++v5) T8 T4 Ub:V)=.own 2 v11 T8 T4 Ub)/\(V.set w3 [2,x.2,5] (.c9)=gT n b6 x.1 x.2 y m0.1 m0.2.1 m0.2.2 (se++[a]) ls)/\True/\(V.at gt 0 v12 [2,x.2,5]=some (m0.1,(m0.2.1+x.2*8+7),.c9))/\(V.set v12 [2,x.2,5] (.own 2 v11 T8 T4 Ub)=bf n b6 x.1 x.2 y (y.td++[v3]) T8 T4 Ub m0.1 m0.2.1 m0.2.2 (se++[a]) ls)/\(V.at gt 0 w7 [2,x.2,5]=some (m0.1,m0.2.1+(x.2)*8+7,.own 2 v11 T8 T4 Ub))/\(V.set w7 [2,x.2,5] (.ow 2 v11)=cb n b6 x.1 x.2 y (y.td++[v3]) m0.1 m0.2.1 m0.2.2 (se++[a]) ls)/\((cb n b6 x.1 x.2 y (y.td++[v3]) m0.1 m0.2.1 m0.2.2 (se++[a]) ls:V)=bu n b6 (x.1.set x.2 ({ y with td:=y.td++[⟨a,0⟩] }:j9)) m0.1 m0.2.1 m0.2.2 (se++[a]) ls)/\Q (.tup []) (.tup [])/\Qr gt (bQ n b6 (x.1.set x.2 ({ y with td:=y.td++[⟨a,0⟩] }:j9)) (se++[a]) ls) gt v1) (bf n b6 x.1 x.2 y (y.td++[v3]) T8 T4 Ub m0.1 m0.2.1 m0.2.2 (se++[a]) ls)) (bf n b6 x.1 x.2 y y.td gA N3 cA m0.1 m0.2.1 m0.2.2 (se++[a]) ls)) (gT n b6 x.1 x.2 y m0.1 m0.2.1 m0.2.2 (se++[a]) ls) (cb n b6 x.1 x.2 y y.td m0.1 m0.2.1 m0.2.2 (se++[a]) ls) ((y.td++[v3]).map aj) (y.td.map aj))) (bu n b6 x.1 m0.1 m0.2.1 m0.2.2 (se++[a]) ls) (x.1.getD x.2 e9)) (.ptr (.key 1000) [2,(C7 zs ((oA (bg a)).l3))] m0.1 (m0.2.1+(C7 zs ((oA (bg a)).l3))*8):V))))) ([.agg [sV a,iN 0]]:List V) (!((bg a).isSome)) (D0 (((se.map sV).length:Nat):Int) 60) (⟨a,0⟩:r7) (bQ n b6 (bz n zs se a) (aI se a) ls)) ?_
 intro gs os cs;refine⟨rfl,⟨ha,hc⟩,fun g4=>bM ⟨fun Q4=>?_,fun Q4=>?_⟩⟩
 · have O6:=Q4;try simp only[nb]at O6
   refine⟨Zbm bV Q4,gJ (bI (fun j8=>?_) fun j8=>?_)⟩;refine⟨?_,by rw[qN (n:=n) (hs:=zs) (Mz O6),mi (Mz O6)]⟩;rfl
   · all_goals (first | exact absurd j8 Zaf | simp_all)
 have O6:=Q4;try simp only[nb]at O6
 refine⟨Zbm bV Q4,cL ⟨⟨⟨aK,Zad,bE (f:=sV) (fun _=>rfl) _,cw (f:=sV) (fun _=>rfl) _⟩,aK⟩,by simp[Zaz],bq (bI (fun l5=>?_) fun l5=>?_)⟩⟩;refine⟨?_,by rw[qN (n:=n) (hs:=zs) (NG (l5.resolve_left Zaf)),mi (NG (l5.resolve_left Zaf))]⟩;rfl;refine gJ fun PT RD RJ=>⟨Zbm (V.own 1 · PT RD RJ) Zad,cN ⟨hl,fun m0 Pz=>?_⟩⟩;have hix:=iv zs (oA (bg a)).l3 n;have UN:=wg zs (oA (bg a)).l3 n;have Tn:=Oo (n:=n) hg (oA (bg a)).l3;refine⟨⟨_,rfl⟩,fun x hx=>?_⟩;have hx1:(bp zs (oA (bg a)).l3 n)=x.1:=by rw[<- hx]
 have RG:(C7 zs (oA (bg a)).l3)=x.2:=by rw[<- hx]
 rw[hx1,RG]at hix Tn;rw[hx1]at UN;refine⟨by rw[hx1],(by rw[RG]),(by rw[RG]),trivial,Zd5,cN ⟨fun hG=>(aZ (f:=2) rfl).trans (aQ (ae (d:=e9) Zac) rfl),bq ⟨fun hG=>⟨by(try simp only[nb]at hG);exact tf _,rfl⟩,bq ⟨fun hG=>⟨⟨by(try simp only[nb]at hG);have:=Tn.2.1;omega,fun i=>by have:=Tn.2.2 i;omega,by(try simp only[nb]at hG);have:=(tf a).path;split <;> simp <;> omega⟩,rfl⟩,bq (bI (fun m8=>?_) fun m8=>?_)⟩⟩⟩⟩;refine⟨?_,by obtain rfl:=hx;simp only at m8 ⊢;rw[Iu (FE O6 l5.2) m8,qw (FE O6 l5.2)]⟩;rfl;refine⟨⟨_,rfl⟩,fun y hy=>?_⟩;rw[hy]at Tn;refine⟨F9 (Zbm (V.own 8 · m0.1 m0.2.1 m0.2.2) (splitN hy (hix))),az fun gA N3 cA=>cL fun T8 T4 Ub=>⟨Zbm (V.own 2 · T8 T4 Ub) Zad,iY ⟨F9 (Zbm (V.own 8 · m0.1 m0.2.1 m0.2.2) (dg (f:=ah) (x:=({ y with td:=y.td++[⟨a,0⟩] }:j9)) (hix))),⟨?_,by subst hy;obtain rfl:=hx;simp only at m8 ⊢;rw[KT (FE O6 l5.2) m8,qw (FE O6 l5.2)]⟩⟩⟩⟩;rfl)
section
variable {P:Program}
def ZD(xs:List V):Cu P where
 X:={b:Bool // b=true->xs=[]}
 pre N o A:=match o.op,o.dst with
  | .binOp .eql T x (.const (.slice none 0 0)) _,some d=>match tD P T,Nat.blt d N with
    | some (.sl _),true=>match A.ev x with
      | .sl _ ys=>ys=xs
      | _=>False
    | _,_=>False
  | _,_=>False
 post b o A:=match o.dst with
  | some d=>A.put (some d) (.lit (.bool b.1))
  | none=>A
 ok:=by
  rintro N ⟨dst,op,ty,pos,after,E9⟩ A K-hp hK;simp only at hp hK;split at hp;rename_i T x yt d;split at hp;rename_i e e1 e2;split at hp;rename_i f ys e3;subst hp;obtain⟨td,hu,hd⟩:=dq e1;obtain⟨et,hu⟩:∃ et,P.underlying T=some (.slice et):=by
   cases td <;> simp_all[dX]
  intro Pb Kb a w F Q hs;obtain⟨_,hx⟩:=eE hs x;rw[e3]at hx;have hx:R w Pb (.sl f ys) [a.eval x] _:=hx;obtain⟨_,B,c,hc,hle,_,Vv⟩:=hx;simp only[List.cons.injEq,and_true]at hc;have RG:(execOp a.eval ⟨some d,.binOp .eql T x (.const (.slice none 0 0)) yt,ty,pos,after,E9⟩).run P w=.ok (.value (.bool B.isNone)) w:=by
   have Xw:∀ q,(Op.equalIn (q+1) T (.slice B ys.length c) (.slice none 0 0)).run P w=.ok B.isNone w:=fun q=>by
    unfold Op.equalIn;rw[Za0,run_underlying hu];cases B <;> rfl
   have hq:(binOp .eql T (.slice B ys.length c) (.slice none 0 0)).run P w=.ok (.bool B.isNone) w:=by
    show ((Op.equalIn (9999+1) T (.slice B ys.length c) (.slice none 0 0)) >>= fun b=>pure (Value.bool b)).run P w=_;rw[Za0,Xw];rfl
   have hy:a.eval (.const (.slice none 0 0))=.slice none 0 0:=rfl;simp only[execOp,hc,hy,Za0,uR .eql T x (.const (.slice none 0 0)) (u:=.slice B ys.length c) (v:=.slice none 0 0) (fun _ h=>by cases h) (fun h=>by cases h),Zas,hq,Za1]
  obtain⟨F',C8⟩:=hs.rj (d:=some d) (v:=.lit (.bool B.isNone)) (bP e2) (dJ rfl);unfold Oper.wp;rw[RG,Oper.upon_value];refine⟨_,Pb,Kb,F',hK ⟨B.isNone,fun h=>?_⟩,C8,fun _ h=>h,fun _ h=>h,fun _ h=>.inl h,B6.refl _ _⟩;rcases Vv with h1 | ⟨_,_,_,_,rfl,_⟩;exact h1;cases h;exact hp.elim;exact hp.elim;exact hp.elim
end
section
variable {α β:Type} {l:List α} {f g:α->β} {d:α} {i:Nat}
theorem OL:l.map g=(l.take 0).map f++(l.drop 0).map g:=rfl
theorem Mm(h:i<l.length):(l.take i).map f++(l.drop i).map g=(l.take i).map f++g (l.getD i d)::(l.drop (i+1)).map g:=by
 rw[List.drop_eq_getElem_cons h,Zbe,Zam,Zat h];rfl
theorem NX(h:i<l.length):(l.take i).map f++f (l.getD i d)::(l.drop (i+1)).map g=(l.take (i+1)).map f++(l.drop (i+1)).map g:=by
 rw[List.take_succ_eq_append_getElem h,Zbb,List.append_assoc,Zam,Zat h];rfl
theorem OM(h:l.length<=i):(l.take i).map f++(l.drop i).map g=l.map f:=by
 rw[Zaz h,Za8 h];simp
end
abbrev rA(p0:BL)(p1:Int)(p2:V)(p3:List BL)(p4:List o4):V:=.agg [sV p0,iV p1,p2,.sl false (p3.map sV),.sl false (p4.map aE)]
abbrev kJ(p0:BL)(p1:Int)(p2:V)(p3:List BL)(p4:List o4):V:=.agg [sV p0,iV p1,p2,.sl false (p3.map sV),.sl false (p4.map aE)]
abbrev ID(p0:BL)(p1:Int)(p2:Bool)(p3:List BL)(p4:List s5)(p5:Nat)(p6:Int)(p7:List r7):V:=.agg [sV p0,iV p1,bV p2,.agg [.sl false (p3.map sV),.sl false (p4.map av),iN p5],iV p6,.ow 2 (p7.map aj)]
abbrev bX(y0:l4):V:=bQ y0.na y0.b6 y0.hs y0.se y0.lk
abbrev fi(y0:j9)(p7:List r7):V:=ID y0.na y0.re y0.kn y0.gr.na y0.gr.ru y0.gr.wa y0.tr p7
def BI(l:List j9):aC:=.mk 104 [An l] [] (l.length<=1000000) (.ow 8 (l.map cv)) [] (by
 intro hl
 refine au Tryz.func104
  (.l7 2<|.cu (ZD (l.map cv)) (fun z4=>.br (.q 1<|.h (.L6 2 8)<|.nil) (.bs<|.q 1<|.ap (fun g7 o7 c7=>.h (.n8 7 (.own 8 (l.map cv) g7 o7 c7))<|.q 1<|.nil))))
  (((l.map cv:List V)=l.map cv)/\∀ z4: {b:Bool // b=true->(l.map cv:List V)=[]},Br z4.1 (Q (.ow 8 ([].map cv)) (.ow 8 (l.map cv))) ((True)/\(True)/\(V.aF (l.map cv)=false)/\(aW 8 (l.map cv))/\((([]:List V).length+(l.map cv).length)*120<=140737488355328)/\∀ g7 o7 c7:Nat,((.own 8 (([]:List V)++(l.map cv)) g7 o7 c7:V)=.own 8 (l.map cv) g7 o7 c7)/\Q (.ow 8 (l.map cv)) (.ow 8 (l.map cv)))) ?_
 refine⟨rfl,fun z4=>bI (fun j8=>?_) fun j8=>?_⟩;rw[z4.2 j8];rfl;refine bq ⟨(bE (f:=cv) (fun _=>rfl) _),(cw (f:=cv) (fun _=>rfl) _),Zal,fun g7 o7 c7=>⟨Zbm (V.own 8 · g7 o7 c7) (List.nil_append _),?_⟩⟩;rfl)
def AA(l:List s5):aC:=.mk 105 [da l] [] (l.length<=1000000) (.ow 2 (l.map av)) [] (by
 intro hl
 refine au Tryz.func105
  (.l7 2<|.cu (ZD (l.map av)) (fun z4=>.br (.q 1<|.h (.L6 2 2)<|.nil) (.bs<|.q 1<|.ap (fun g7 o7 c7=>.h (.n8 7 (.own 2 (l.map av) g7 o7 c7))<|.q 1<|.nil))))
  (((l.map av:List V)=l.map av)/\∀ z4: {b:Bool // b=true->(l.map av:List V)=[]},Br z4.1 (Q (.ow 2 ([].map av)) (.ow 2 (l.map av))) ((True)/\(True)/\(V.aF (l.map av)=false)/\(aW 2 (l.map av))/\((([]:List V).length+(l.map av).length)*24<=140737488355328)/\∀ g7 o7 c7:Nat,((.own 2 (([]:List V)++(l.map av)) g7 o7 c7:V)=.own 2 (l.map av) g7 o7 c7)/\Q (.ow 2 (l.map av)) (.ow 2 (l.map av)))) ?_
 refine⟨rfl,fun z4=>bI (fun j8=>?_) fun j8=>?_⟩;rw[z4.2 j8];rfl;refine bq ⟨Zdi,Zdj,Zal,fun g7 o7 c7=>⟨Zbm (V.own 2 · g7 o7 c7) (List.nil_append _),?_⟩⟩;rfl)
def AY(l:List r7):aC:=.mk 106 [fg l] [] (l.length<=1000000) (.ow 2 (l.map aj)) [] (by
 intro hl
 refine au Tryz.func106
  (.l7 2<|.cu (ZD (l.map aj)) (fun z4=>.br (.q 1<|.h (.L6 2 2)<|.nil) (.bs<|.q 1<|.ap (fun g7 o7 c7=>.h (.n8 7 (.own 2 (l.map aj) g7 o7 c7))<|.q 1<|.nil))))
  (((l.map aj:List V)=l.map aj)/\∀ z4: {b:Bool // b=true->(l.map aj:List V)=[]},Br z4.1 (Q (.ow 2 ([].map aj)) (.ow 2 (l.map aj))) ((True)/\(True)/\(V.aF (l.map aj)=false)/\(aW 2 (l.map aj))/\((([]:List V).length+(l.map aj).length)*24<=140737488355328)/\∀ g7 o7 c7:Nat,((.own 2 (([]:List V)++(l.map aj)) g7 o7 c7:V)=.own 2 (l.map aj) g7 o7 c7)/\Q (.ow 2 (l.map aj)) (.ow 2 (l.map aj)))) ?_
 refine⟨rfl,fun z4=>bI (fun j8=>?_) fun j8=>?_⟩;rw[z4.2 j8];rfl;refine bq ⟨(bE (f:=aj) (fun _=>rfl) _),(cw (f:=aj) (fun _=>rfl) _),Zal,fun g7 o7 c7=>⟨Zbm (V.own 2 · g7 o7 c7) (List.nil_append _),?_⟩⟩;rfl)
def AZ(l:List o4):aC:=.mk 107 [dO l] [] (l.length<=1000000) (.ow 3 (l.map aE)) [] (by
 intro hl
 refine au Tryz.func107
  (.l7 2<|.cu (ZD (l.map aE)) (fun z4=>.br (.q 1<|.h (.L6 2 3)<|.nil) (.bs<|.q 1<|.ap (fun g7 o7 c7=>.h (.n8 7 (.own 3 (l.map aE) g7 o7 c7))<|.q 1<|.nil))))
  (((l.map aE:List V)=l.map aE)/\∀ z4: {b:Bool // b=true->(l.map aE:List V)=[]},Br z4.1 (Q (.ow 3 ([].map aE)) (.ow 3 (l.map aE))) ((True)/\(True)/\(V.aF (l.map aE)=false)/\(aW 3 (l.map aE))/\((([]:List V).length+(l.map aE).length)*32<=140737488355328)/\∀ g7 o7 c7:Nat,((.own 3 (([]:List V)++(l.map aE)) g7 o7 c7:V)=.own 3 (l.map aE) g7 o7 c7)/\Q (.ow 3 (l.map aE)) (.ow 3 (l.map aE)))) ?_
 refine⟨rfl,fun z4=>bI (fun j8=>?_) fun j8=>?_⟩;rw[z4.2 j8];rfl;refine bq ⟨(bE (f:=aE) (fun _=>rfl) _),(cw (f:=aE) (fun _=>rfl) _),Zal,fun g7 o7 c7=>⟨Zbm (V.own 3 · g7 o7 c7) (List.nil_append _),?_⟩⟩;rfl)
abbrev rU(t:l4):V:=bX t
def xk(t:l4):aC:=.mk 63 [aw t] [] (r6 t) (rU t) [] (by
 intro ht;have UN:=ht.h
 refine au Tryz.func63
  (.bx (fun g1=>.al dB (fun g2=>.r 2 [.c9]<|.c (BI t.hs) []<|.q 1<|.st none<|.oR (.key 1) [2] (fun g o c=>.r 4 [.c9]<|.h (.r4 1 (kJ t.na t.b6 (.own 8 ((t.hs.take 0).map ah++(t.hs.drop 0).map cv) g o c) t.se t.lk))<|.loop Nat (fun i=>⟨[(1,kp 1 g1),(2,kp 2 g2),(11,iN t.hs.length),(12,iN i)],[(1,(g1,kJ t.na t.b6 (.own 8 ((t.hs.take i).map ah++(t.hs.drop i).map cv) g o c) t.se t.lk)),(2,(g2,.agg [sV [],iN 0,.sl true [],.sl true [],.sl true []]))]⟩) (fun i=>i<=t.hs.length) (fun i=>t.hs.length-i) (fun i=>(fun (y2:j9) (y1:V->V)=>(.q 1<|.br (.q 2<|.h (.r4 1 (y1 (bw y2 (y2.td):V)))<|.r 5 [.c9]<|.r 6 [ax (y2.gr.na)]<|.c (lq (y2.gr.na)) []<|.q 3<|.h (.fz 25)<|.h (.n8 25 (ax (y2.gr.na)))<|.st (some (ax (y2.gr.na)))<|.h (.r4 1 (y1 (bw y2 (y2.td):V)))<|.r 6 [da (y2.gr.ru)]<|.c (AA (y2.gr.ru)) []<|.q 3<|.h (.fz 35)<|.h (.n8 35 (da (y2.gr.ru)))<|.st (some (da (y2.gr.ru)))<|.h (.r4 1 (y1 (bw y2 (y2.td):V)))<|.r 5 [fg (y2.td)]<|.c (AY (y2.td)) []<|.q 2<|.st (some (fg (y2.td)))<|.h (.r4 1 (y1 (fi y2 (y2.td):V)))<|.h (.r4 1 (kJ t.na t.b6 (.own 8 ((t.hs.take (i+1)).map ah++(t.hs.drop (i+1)).map cv) g o c) t.se t.lk))<|.q 2<|.nil) (.h (.r4 1 (.agg [sV t.na,iV t.b6,.own 8 (t.hs.map ah) g o c,ax t.se,dO t.lk]))<|.r 2 [.c9]<|.c (lq t.se) []<|.q 1<|.st none<|.r 2 [.c9]<|.c (AZ t.lk) []<|.q 1<|.st none<|.mv<|.st none<|.nil):Sc Tryz.prog)) (t.hs.getD i e9) (fun r:V=>(rA t.na t.b6 (.own 8 ((t.hs.take i).map ah++r::(t.hs.drop (i+1)).map cv) g o c) t.se t.lk)))))))
  ((fun v1:V=>(∀ g1:Nat,∀ g2:Nat,Z g1 2/\(BI t.hs).sm/\((t.hs.length<=1000000))/\Z g1 2/\∀ g o c:Nat,(fun v2:V=>Z g1 2/\((.agg [sV t.na,iV t.b6,.own 8 (t.hs.map cv) g o c,ax t.se,dO t.lk]:V)=kJ t.na t.b6 v2 t.se t.lk)/\(∃ j6:Nat,(j6<=t.hs.length)/\E (kp 1 g1)/\E (kp 2 g2)/\Q (iN ((t.hs.map cv).length)) (iN t.hs.length)/\Q (iN 0) (iN j6)/\Qr g1 (kJ t.na t.b6 v2 t.se t.lk) g1 (kJ t.na t.b6 (.own 8 ((t.hs.take j6).map ah++(t.hs.drop j6).map cv) g o c) t.se t.lk)/\Er g2 v1/\True)/\∀ i:Nat,(i<=t.hs.length)->(fun (v5:j9) (v3:V->V)=>(fun v11:V=>(fun v4:V=>(fun (v10 v6:V) (v9 v8 v7:Prop)=>Br (s4 (i:Int) (t.hs.length:Int)) ((v6=rA t.na t.b6 (v3 v11) t.se t.lk)/\Z g1 2/\In (i:Int) (((t.hs.take i).map ah++v11::(t.hs.drop (i+1)).map cv).length)/\True/\v7/\(lq (v5.gr.na)).sm/\(((v5.gr.na).length<=1000000))/\True/\((.sl false (V.D9 ((v5.gr.na).map sV)):V)=ax (v5.gr.na))/\v7/\(V.set v4 [2,0+i,3,0] (ax (v5.gr.na))=rA t.na t.b6 (v3 v11) t.se t.lk)/\True/\v8/\(AA (v5.gr.ru)).sm/\(((v5.gr.ru).length<=1000000))/\True/\((.sl false (V.D9 ((v5.gr.ru).map av)):V)=da (v5.gr.ru))/\v8/\(V.set v4 [2,0+i,3,1] (da (v5.gr.ru))=rA t.na t.b6 (v3 v11) t.se t.lk)/\True/\v9/\(AY (v5.td)).sm/\(((v5.td).length<=1000000))/\True/\v9/\(V.set v4 [2,0+i,5] (.ow 2 ((v5.td).map aj))=rA t.na t.b6 (v3 (fi v5 (v5.td):V)) t.se t.lk)/\((rA t.na t.b6 (v3 (fi v5 (v5.td):V)) t.se t.lk:V)=kJ t.na t.b6 v10 t.se t.lk)/\m6 ((i:Int)+1)/\∃ b9:Nat,(b9<=t.hs.length)/\(t.hs.length-b9<t.hs.length-i)/\E (kp 1 g1)/\E (kp 2 g2)/\E (iN t.hs.length)/\Q (iN (i+1)) (iN b9)/\Qr g1 (kJ t.na t.b6 v10 t.se t.lk) g1 (kJ t.na t.b6 (.own 8 ((t.hs.take b9).map ah++(t.hs.drop b9).map cv) g o c) t.se t.lk)/\Er g2 v1/\True) ((v6=.agg [sV t.na,iV t.b6,.own 8 (t.hs.map ah) g o c,ax t.se,dO t.lk])/\Z g1 3/\(lq t.se).sm/\((t.se.length<=1000000))/\Z g1 3/\Z g1 4/\(AZ t.lk).sm/\((t.lk.length<=1000000))/\Z g1 4/\Z g1 0/\Z g2 0/\(g2=g2)/\Q (bX t) (rU t))) (.own 8 ((t.hs.take (i+1)).map ah++(t.hs.drop (i+1)).map cv) g o c) (kJ t.na t.b6 (.own 8 ((t.hs.take i).map ah++(t.hs.drop i).map cv) g o c) t.se t.lk:V) (V.at g1 0 v4 [2,0+i,5]=some (g,(o+(0+i)*8+7),fg (v5.td))) (V.at g1 0 v4 [2,0+i,3,1]=some (g,(o+(0+i)*8+3+1),da (v5.gr.ru))) (V.at g1 0 v4 [2,0+i,3,0]=some (g,(o+(0+i)*8+3+0),ax (v5.gr.na)))) (rA t.na t.b6 (v3 v11) t.se t.lk)) (bw v5 (v5.td):V)) (t.hs.getD i e9) (fun r:V=>(.own 8 ((t.hs.take i).map ah++r::(t.hs.drop (i+1)).map cv) g o c))) (.own 8 ((t.hs.take 0).map ah++(t.hs.drop 0).map cv) g o c))) (.agg [sV [],iN 0,.sl true [],.sl true [],.sl true []])) ?_
 intro g1;intro g2;refine⟨rfl,rfl,by have:=ht.h;omega,rfl,fun g o c=>⟨rfl,F9 (Zbm (V.own 8 · g o c) OL),⟨⟨0,?_,rfl,rfl,Zah,aK⟩,?_⟩⟩⟩;simp;rintro i h1;refine bI (fun j8=>?_) fun j8=>?_;refine⟨F9 (Zbm (V.own 8 · g o c) (Mm (d:=e9) Zac)),rfl,by(try simp only[Zay]at *);simp only[Zap,Zar,Zay,List.length_take,List.length_drop];omega,?_⟩;have L':=ht.ha _ (aD (d:=e9) (show i<t.hs.length by omega));refine bj ⟨by first | (have:=L'.g;omega) | (have:=ht.s;omega),gJ ⟨by have:=L'.r;omega,gJ ⟨by have:=L'.t;omega,bj ⟨F9 (Zbm (V.own 8 · g o c) (NX (f:=ah) (d:=e9) Zac)),az ⟨i+1,?_,?_,aK⟩⟩⟩⟩⟩;omega;exact Zak;refine⟨F9 (Zbm (V.own 8 · g o c) (OM Zac)),rfl,rfl,by first | (have:=L'.g;omega) | (have:=ht.s;omega),rfl,rfl,rfl,by have:=ht.l;omega,bj ⟨rfl,?_⟩⟩;unfold Q rU;rfl)
def qf(y:j9):Bool:=decide (y.td≠[])
theorem LF{y:j9}:s9 (((y.td.map aj).length:Nat):Int) 0=qf y:=by
 unfold qf s9;cases h:y.td <;> simp
def o9(t:l4):Nat:=((iK t).map (·.1)).getD 0
def A6(t:l4):Int:=((iK t).map (·.2)).getD 0
theorem iU{t:l4}{i:Nat}(h:i<t.hs.length):A3 t (i+1)=jO t.b6 (A3 t i) (i,t.hs.getD i e9):=by
 unfold A3;rw[List.take_succ_eq_append_getElem Zbq,Zbb,List.foldl_append];simp[Zam,Zat h]
section
variable {n:BL} {b6 b q:Int} {zs:List j9} {se:List BL} {ls:List o4} {i:Nat}
theorem FB(h:i<zs.length)(h2:b=(A3 ⟨n,b6,zs,se,ls⟩ i).1)(h3:q=(A3 ⟨n,b6,zs,se,ls⟩ i).2)(c:qf (zs.getD i e9)=true/\(b<0\/max (zs.getD i e9).re b6<q)):A3 ⟨n,b6,zs,se,ls⟩ (i+1)=((i:Int),max (zs.getD i e9).re b6):=by
 rw[iU (t:=⟨n,b6,zs,se,ls⟩) h];unfold jO;rw[<- h2,<- h3,if_pos ⟨of_decide_eq_true c.1,c.2⟩]
theorem Ga(h:i<zs.length)(h2:b=(A3 ⟨n,b6,zs,se,ls⟩ i).1)(h3:q=(A3 ⟨n,b6,zs,se,ls⟩ i).2)(c:qf (zs.getD i e9)=true->(0<=b/\q<=max (zs.getD i e9).re b6)):A3 ⟨n,b6,zs,se,ls⟩ (i+1)=A3 ⟨n,b6,zs,se,ls⟩ i:=by
 rw[iU (t:=⟨n,b6,zs,se,ls⟩) h];unfold jO;rw[<- h2,<- h3,if_neg (fun d=>?_)];have:=c (decide_eq_true d.1);have:=d.2;simp only at this;omega
theorem La{t:l4}(h:(A3 t t.hs.length).1<0\/5000<(A3 t t.hs.length).2):iK t=none:=if_pos h
theorem KY{t:l4}(h:0<=(A3 t t.hs.length).1/\(A3 t t.hs.length).2<=5000):iK t=some ((A3 t t.hs.length).1.toNat,(A3 t t.hs.length).2):=if_neg Zac
end
def HZ(k:Int):aC:=.mk 17 [iV k] [] True (iV (bT k)) [] (by
 intro _
 refine au Tryz.func17
  (.l7 2<|.q 2<|.br (.q 1<|.nil) (.q 2<|.br (.q 1<|.nil) (.q 2<|.br (.q 1<|.nil) (.q 1<|.nil))))
  (Br (o5 k 1) (Q (iN 2) (iV (bT k))) (Br (o5 k 2) (Q (iN 4) (iV (bT k))) (Br (o5 k 3) (Q (iN 8) (iV (bT k))) (Q (iN 0) (iV (bT k)))))) ?_
 refine bI (fun j8=>?_) fun j8=>?_;rw[bT,if_pos j8];rfl;refine bI (fun l5=>?_) fun l5=>?_;rw[bT,if_neg j8,if_pos l5];rfl;refine bI (fun m8=>?_) fun m8=>?_;rw[bT,if_neg j8,if_neg l5,if_pos m8];rfl;rw[bT,if_neg j8,if_neg l5,if_neg m8];rfl)
abbrev yY(n:BL)(b6:Int)(zs:List j9)(se:List BL)(ls:List o4)(gt g o c gb ix:Nat):V:=.tup [iV (max (zs.getD ix e9).re b6),bV (qf (zs.getD ix e9))]
def LC(n:BL)(b6:Int)(zs:List j9)(se:List BL)(ls:List o4)(gt g o c gb ix:Nat):aC:=.mk 73 [.ptr (.key 1000) [2,ix] g (o+ix*8),kp 1001 gb] [(1001,(gb,kp 1000 gt)),(1000,(gt,bu n b6 zs g o c se ls))] (ix<zs.length) (yY n b6 zs se ls gt g o c gb ix) [(1001,(gb,kp 1000 gt)),(1000,(gt,bu n b6 zs g o c se ls))] (by
 intro hi
 refine au Tryz.func73
  (.q 2<|.h (.r4 1000 (cb n b6 zs ix (zs.getD ix e9) ((zs.getD ix e9).td) g o c se ls))<|.QB (.key 1000) [2,ix,5] g (o+(ix)*8+7) 2 (((zs.getD ix e9).td).map aj) (fun gA N3 cA=>(fun y1:j9=>(.h (.r4 1000 (bf n b6 zs ix y1 (y1.td) gA N3 cA g o c se ls))<|.A7 16 [(3,m5 [1000] [8]),(4,m5 [1001] [9]),(7,m5 [1000] [12]),(12,m5 [1000] [17])]<|.l7 3<|.r 1 [iV (y1.re)]<|.n9<|.l7 2<|.n9<|.mm<|.l7 3<|.r 1 [.own 2 ((y1.td).map aj) gA N3 cA]<|.l7 4<|.h (.Pe (.key 1000) [2,ix,5] g (o+(ix)*8+7) (.own 2 ((y1.td).map aj) gA N3 cA) (.ow 2 ((y1.td).map aj)))<|.h (.r4 1000 (cb n b6 zs ix y1 (y1.td) g o c se ls))<|.h (.r4 1000 (bu n b6 zs g o c se ls))<|.nil:Sc Tryz.prog)) (zs.getD ix e9)))
  ((fun v1:j9=>(fun v2:List V=>(((bu n b6 zs g o c se ls:V)=cb n b6 zs ix v1 (v1.td) g o c se ls)/\(V.at gt 0 (cb n b6 zs ix v1 (v1.td) g o c se ls) [2,ix,5]=some (g,o+(ix)*8+7,.ow 2 v2))/\∀ gA N3 cA:Nat,(fun v3:V=>(V.set (cb n b6 zs ix v1 (v1.td) g o c se ls) [2,ix,5] (.own 2 v2 gA N3 cA)=bf n b6 zs ix v1 (v1.td) gA N3 cA g o c se ls)/\True/\(V.at gt 0 v3 [2,ix,1]=some (g,(o+ix*8+1),iV (v1.re)))/\Z gb 0/\True/\Z gt 1/\(IntKind.i64=IntKind.i64)/\True/\(V.at gt 0 v3 [2,ix,5]=some (g,(o+ix*8+7),.own 2 v2 gA N3 cA))/\(V.at gt 0 v3 [2,ix,5]=some (g,o+(ix)*8+7,.own 2 v2 gA N3 cA))/\(V.set v3 [2,ix,5] (.ow 2 v2)=cb n b6 zs ix v1 (v1.td) g o c se ls)/\((cb n b6 zs ix v1 (v1.td) g o c se ls:V)=bu n b6 zs g o c se ls)/\Q (.tup [iV (max (v1.re) b6),bV (s9 ((v2.length:Nat):Int) 0)]) (yY n b6 zs se ls gt g o c gb ix)/\Er gb (kp 1000 gt)/\Er gt (bu n b6 zs g o c se ls)) (bf n b6 zs ix v1 (v1.td) gA N3 cA g o c se ls))) ((v1.td).map aj)) (zs.getD ix e9)) ?_
 refine⟨Zd6,az fun gA N3 cA=>bj (cL ⟨F9 (Zbm (V.own 8 · g o c) (eO (f:=ah) (d:=e9) Zac).symm),⟨?_,aK⟩⟩)⟩;unfold Q yY;rw[LF])
abbrev pc(n:BL)(b6:Int)(zs:List j9)(se:List BL)(ls:List o4)(gt g o c gb:Nat):V:=.tup [iV (max (A3 (⟨n,b6,zs,se,ls⟩:l4) zs.length).1 0),iV ((A3 (⟨n,b6,zs,se,ls⟩:l4) zs.length).2),bV (D0 (A3 (⟨n,b6,zs,se,ls⟩:l4) zs.length).1 0)]
abbrev fk(n:BL)(b6:Int)(zs:List j9)(se:List BL)(ls:List o4)(gt g o c gb i:Nat)(b q:Int):Prop:=i<=zs.length/\b=(A3 (⟨n,b6,zs,se,ls⟩:l4) i).1/\q=(A3 (⟨n,b6,zs,se,ls⟩:l4) i).2
def sM(n:BL)(b6:Int)(zs:List j9)(se:List BL)(ls:List o4)(gt g o c gb:Nat):aC:=.mk 72 [.hd (.key 1000) [2] 8 g o 0 ((zs.map ah).length) c,.lit (.func (.func 73) #[] #[.pointer (some ⟨gb,0,none⟩)])] [(1001,(gb,kp 1000 gt)),(1000,(gt,bu n b6 zs g o c se ls))] (zs.length<=1000) (pc n b6 zs se ls gt g o c gb) [(1001,(gb,kp 1000 gt)),(1000,(gt,bu n b6 zs g o c se ls))] (by
 intro hl
 refine au Tryz.func72
  (.q 3<|.q 2<|.q 3<|.loop (Nat×Int×Int) (fun (i,b,q)=>⟨[(0,.hd (.key 1000) [2] 8 g o 0 ((zs.map ah).length) c),(1,.lit (.func (.func 73) #[] #[.pointer (some ⟨gb,0,none⟩)])),(7,iV b),(8,iV q),(13,iN zs.length),(14,iN i)],[(1001,(gb,kp 1000 gt)),(1000,(gt,bu n b6 zs g o c se ls))]⟩) (fun (i,b,q)=>fk n b6 zs se ls gt g o c gb i b q) (fun (i,b,q)=>zs.length-i) (fun (i,b,q)=>.q 1<|.br (.q 2<|.q 4<|.c (LC n b6 zs se ls gt g o c gb i) [(1000,1000),(1001,1001)]<|.q 5<|.q 10<|.br (.q 4<|.q 2<|.nil) (.q 2<|.nil)) (.q 1<|.mm<|.q 6<|.nil)))
  ((fun (v2 v1:V)=>((∃ x:Nat×Int×Int,match x with | (j6,I',A4)=>(fk n b6 zs se ls gt g o c gb j6 I' A4)/\E (.hd (.key 1000) [2] 8 g o 0 ((zs.map ah).length) c)/\E v1/\Q (iV (-1)) (iV I')/\Q (iN 0) (iV A4)/\Q (iN ((zs.map ah).length)) (iN zs.length)/\Q (iN 0) (iN j6)/\Er gb v2/\Er gt (bu n b6 zs g o c se ls)/\True)/\∀ x:Nat×Int×Int,match x with | (i,b,q)=>(fk n b6 zs se ls gt g o c gb i b q)->Br (s4 (i:Int) (zs.length:Int)) (In (i:Int) ((zs.map ah).length)/\(([.ptr (.key 1000) [2,i] g (o+(0+i)*8),kp 1001 gb]:List V)=[.ptr (.key 1000) [2,i] g (o+i*8),kp 1001 gb])/\Er gb v2/\Er gt (bu n b6 zs g o c se ls)/\((i<zs.length))/\Gd ((qf (zs.getD i e9))==true) (Pk (s4 b 0) true (((qf (zs.getD i e9))==true)&&((s4 b 0)==false)))/\Pk (qf (zs.getD i e9)) ((qf (zs.getD i e9))==true) true/\Br ((qf (zs.getD i e9))&&((s4 b 0)||(s4 (max (zs.getD i e9).re b6) q))) (m6 ((i:Int)+1)/\∃ x:Nat×Int×Int,match x with | (b9,z8,r3)=>(fk n b6 zs se ls gt g o c gb b9 z8 r3)/\(zs.length-b9<zs.length-i)/\E (.hd (.key 1000) [2] 8 g o 0 ((zs.map ah).length) c)/\E v1/\Q (iN i) (iV z8)/\Q (iV (max (zs.getD i e9).re b6)) (iV r3)/\E (iN zs.length)/\Q (iN (i+1)) (iN b9)/\Er gb v2/\Er gt (bu n b6 zs g o c se ls)/\True) (m6 ((i:Int)+1)/\∃ x:Nat×Int×Int,match x with | (b9,z8,r3)=>(fk n b6 zs se ls gt g o c gb b9 z8 r3)/\(zs.length-b9<zs.length-i)/\E (.hd (.key 1000) [2] 8 g o 0 ((zs.map ah).length) c)/\E v1/\Q (iV b) (iV z8)/\Q (iV q) (iV r3)/\E (iN zs.length)/\Q (iN (i+1)) (iN b9)/\Er gb v2/\Er gt (bu n b6 zs g o c se ls)/\True)) ((IntKind.i64=IntKind.i64)/\Q (.tup [iV (max b 0),iV q,bV (D0 b 0)]) (pc n b6 zs se ls gt g o c gb)/\Er gb v2/\Er gt (bu n b6 zs g o c se ls)))) (kp 1000 gt) (.lit (.func (.func 73) #[] #[.pointer (some ⟨gb,0,none⟩)]))) ?_
 refine⟨⟨(0, -1,0),?_,rfl,rfl,rfl,Zah,Zah,aK⟩,?_⟩;unfold fk;exact⟨Zad,rfl,rfl⟩;rintro⟨i,b,q⟩ ⟨h1,h2,h3⟩;refine bI (fun j8=>?_) fun j8=>?_;refine az ⟨Zd7,cN (bI (fun l5=>?_) fun l5=>?_)⟩;refine az ⟨(i+1,(i:Int),max (zs.getD i e9).re b6),?_,?_,rfl,rfl,Zah,aK⟩;unfold fk;first | exact⟨Zac,by rw[FB Zac h2 h3 l5],by rw[FB Zac h2 h3 l5]⟩ | exact⟨Zac,by rw[Ga Zac h2 h3 l5];exact h2,by rw[Ga Zac h2 h3 l5];exact h3⟩
 exact Zak;refine az ⟨(i+1,b,q),?_,?_,aK⟩;unfold fk;first | exact⟨Zac,by rw[FB Zac h2 h3 l5],by rw[FB Zac h2 h3 l5]⟩ | exact⟨Zac,by rw[Ga Zac h2 h3 l5];exact h2,by rw[Ga Zac h2 h3 l5];exact h3⟩
 exact Zak;refine⟨rfl,⟨?_,aK⟩⟩;unfold Q pc;obtain rfl:i=zs.length:=Zac;rw[h2,h3])
abbrev tU(n:BL)(b6:Int)(zs:List j9)(se:List BL)(ls:List o4)(gt:Nat):V:=.tup [iN (o9 (⟨n,b6,zs,se,ls⟩:l4)),iV (A6 (⟨n,b6,zs,se,ls⟩:l4)),bV ((iK (⟨n,b6,zs,se,ls⟩:l4)).isSome)]
def xj(n:BL)(b6:Int)(zs:List j9)(se:List BL)(ls:List o4)(gt:Nat):aC:=.mk 42 [kp 1000 gt] [(1000,(gt,bQ n b6 zs se ls))] (zs.length<=1000) (tU n b6 zs se ls gt) [(1000,(gt,bQ n b6 zs se ls))] (by
 intro hl
 refine au Tryz.func42
  (.oR (.key 1000) [2] (fun g o c=>.bx (fun g1=>.q 3<|.r 4 [.c9,.c9]<|.cu Wh (fun _=>.c (sM n b6 zs se ls gt g o c g1) [(1001,1),(1000,1000)]<|.q 7<|.q 6<|.br (.q 3<|.nil) (.q 5<|.nil)))))
  ((fun v1:l4=>(fun v2:Bool=>(∀ g o c:Nat,∀ g1:Nat,Z g1 0/\True/\Z gt 2/\((Value.func (.func 73) #[] #[.pointer (some ⟨g1,0,none⟩)]).oneCell'=true)/\∀ _:Unit,(sM n b6 zs se ls gt g o c g1).sm/\Er g1 (kp 1000 gt)/\Er gt (bu n b6 zs g o c se ls)/\((zs.length<=1000))/\Pk v2 true (v2==false)/\Br (v2||(s9 ((A3 v1 zs.length).2) 5000)) (Q (.tup [iN 0,iN 0,bV false]) (tU n b6 zs se ls gt)/\Er gt (bQ n b6 zs se ls)) (Q (.tup [iV (max (A3 v1 zs.length).1 0),iV ((A3 v1 zs.length).2),bV true]) (tU n b6 zs se ls gt)/\Er gt (bQ n b6 zs se ls)))) (!(D0 (A3 v1 zs.length).1 0))) (⟨n,b6,zs,se,ls⟩:l4)) ?_
 intro g o c;intro g1;refine bM fun _=>⟨rfl,rfl,rfl,hl,az (bI (fun j8=>?_) fun j8=>?_)⟩;refine⟨?_,rfl⟩;unfold Q tU;rw[o9,A6,La (t:=⟨n,b6,zs,se,ls⟩) j8];rfl;refine⟨?_,rfl⟩;unfold Q tU;rw[o9,A6,KY (t:=⟨n,b6,zs,se,ls⟩) j8];rw[show max (A3 ⟨n,b6,zs,se,ls⟩ zs.length).1 0=((A3 ⟨n,b6,zs,se,ls⟩ zs.length).1.toNat:Int) from Zac];rfl)
abbrev uv(p0:BL)(p1:Int)(p2:List j9)(p3 p4 p5:Nat)(p6:List BL)(p7:List o4)(p8 p9 J2:Nat):V:=.agg [sV p0,iV p1,.own 8 (p2.map ah) p3 p4 p5,.ow 1 (p6.map sV),.own 3 (p7.map aE) p8 p9 J2]
abbrev KJ(p0:BL)(p1:Int)(p2:List j9)(p3:Nat)(p4:BL)(p5:Int)(p6:Bool)(p7:List BL)(p8:List s5)(p9:Nat)(J2:Int)(G9:List r7)(E8 E7 E6:Nat)(E5:List BL)(I1:List o4)(J' N6 O5:Nat):V:=.agg [sV p0,iV p1,.own 8 ((p2.take p3).map ah++(.agg [sV p4,iV p5,bV p6,.agg [.sl false (p7.map sV),.sl false (p8.map av),iN p9],iV J2,.ow 2 (G9.map aj)]:V)::(p2.drop (p3+1)).map ah) E8 E7 E6,.ow 1 (E5.map sV),.own 3 (I1.map aE) J' N6 O5]
abbrev wm(p0:BL)(p1:Int)(p2:List j9)(p3:Nat)(y4:j9)(G9:List r7)(E8 E7 E6:Nat)(E5:List BL)(I1:List o4)(J' N6 O5:Nat):V:=KJ p0 p1 p2 p3 y4.na y4.re y4.kn y4.gr.na y4.gr.ru y4.gr.wa y4.tr G9 E8 E7 E6 E5 I1 J' N6 O5
abbrev kX(p0:BL)(p1:Int)(p2:List j9)(p3:Nat)(p4:BL)(p5:Int)(p6:Bool)(y7:l9)(J2:Int)(G9:List r7)(E8 E7 E6:Nat)(E5:List BL)(I1:List o4)(J' N6 O5:Nat):V:=KJ p0 p1 p2 p3 p4 p5 p6 y7.na y7.ru y7.wa J2 G9 E8 E7 E6 E5 I1 J' N6 O5
theorem lb(k:Int):0<=bT k/\bT k<=8:=by unfold bT;split <;> (try split) <;> (try split) <;> omega
theorem Lj{y:j9}{b6 k m:Int}(h:k=3):eI y b6 k m={ y with re:=b6+max (y.gr.wa:Int) 1+bT (m+1) }:=by unfold eI;rw[if_pos h]
theorem yh{y:j9}{b6 k m:Int}(h: ¬ k=3):eI y b6 k m={ y with re:=b6+max (y.gr.wa:Int) 1 }:=by unfold eI;rw[if_neg h,Int.add_zero]
def uY(w:List Pg)(t:l4):fO:=.mk (Nat×Nat) 31 [aL w,aw t] [] ((w.length<=30)/\(∀ i,o6 (w.getD i s8))/\(r6 t)/\(aH w=true)/\(ai t=true)) (fun x=>True) (fun x=>.tup [.ptr (.key 1001) [] x.1 0,bV true]) (fun x=>[(1001,(x.1,.agg [.mp (w.map L3),.ptr (.key 1000) [] x.2 0])),(1000,(x.2,bX t))]) (by
 rintro⟨hw,hz,ht,hk,PR⟩
 refine ug (N:=26) (rs:=[.tmp 4,.tmp 5]) (X:=Nat×Nat) (post:=fun x=>True) (E:=fun x=>.tup [.ptr (.key 1001) [] x.1 0,bV true]) (H':=fun x=>[(1001,(x.1,.agg [.mp (w.map L3),.ptr (.key 1000) [] x.2 0])),(1000,(x.2,.agg [sV t.na,iV t.b6,.ow 8 (t.hs.map ah),.ow 1 (t.se.map sV),.ow 3 (t.lk.map aE)]))]) Tryz.func31 Zae rfl rfl rfl Zae [(1001,(0,.c9)),(1000,(0,.c9))] (by intro _ k hk;simp only[lk]at hk ⊢;repeat (split at hk <;> simp_all))
  (.bx (fun g3=>.q 2<|.q 1<|.c (pw w) []<|.q 5<|.r 4 [.c9]<|.cg (jE t)<|.q 2<|.br (.nil) (.n9<|.c (xk t) []<|.al dB (fun g8=>.st none<|.q 1<|.bd OK<|.bx (fun Tr=>.q 2<|.h (.rk 25 1001)<|.h (.rk 8 1000)<|.nil)))))
  (∀ g3:Nat,(pw w).sm/\((w.length<=30)/\(∀ i,o6 (w.getD i s8))/\(aH w=true))/\Gd ((!true)==false) (Z g3 0)/\Gd ((!true)==false) (((r6 t))/\(jE t).sm)/\Pk (!true) true ((!true)==false)/\Br ((!true)||(!(ai t))) (False) (Z g3 0/\(xk t).sm/\((r6 t))/\∀ g8:Nat,Z g8 0/\∀ Tr:Nat,∃ x:Nat×Nat,(True)/\Q (.tup [kp 1001 Tr,bV true]) (.tup [.ptr (.key 1001) [] x.1 0,bV true])/\Qr Tr (.agg [.mp (w.map L3),kp 1000 g8]) x.1 (.agg [.mp (w.map L3),.ptr (.key 1000) [] x.2 0])/\Qr g8 (bX t) x.2 (bX t)))
  Zae ?_
 intro g3;refine⟨rfl,⟨hw,hz,hk⟩,az ⟨fun hG=>⟨ht,rfl⟩,az (bI (fun j8=>?_) fun j8=>?_)⟩⟩
 · all_goals simp_all
 · refine⟨rfl,rfl,ht,fun g8=>⟨rfl,fun Tr=>⟨(Tr,g8),?_,?_,?_⟩⟩⟩
   · try dsimp only
     all_goals trivial
   exact Zaa;first | rfl | exact⟨rfl,rfl⟩ | simp_all)
def sK(w:List Pg)(t:l4):aC:=.mk 31 [aL w,aw t] [] ((w.length<=30)/\(∀ i,o6 (w.getD i s8))/\(r6 t)/\((aH w&&ai t)=false)) (.tup [.c9,bV false]) [] (by
 rintro⟨hw,hz,ht,hk⟩
 refine au Tryz.func31
  (.bx (fun g3=>.q 2<|.q 1<|.sp (aH w) (.c (pw w) []<|.q 5<|.r 4 [.c9]<|.cg (jE t)<|.q 2<|.br (.q 2<|.nil) (.nil)) (.c (xf w) []<|.q 5<|.r 4 [.c9]<|.cg (jE t)<|.q 2<|.br (.q 2<|.nil) (.nil))))
  ((fun v1:V=>(∀ g3:Nat,((aH w)=true->(pw w).sm/\((w.length<=30)/\(∀ i,o6 (w.getD i s8))/\(aH w=true))/\Gd ((!true)==false) (Z g3 0)/\Gd ((!true)==false) (((r6 t))/\(jE t).sm)/\Pk (!true) true ((!true)==false)/\Br ((!true)||(!(ai t))) (Q v1 v1) (False))/\((aH w)=false->(xf w).sm/\((w.length<=30)/\(∀ i,o6 (w.getD i s8))/\(aH w=false))/\Gd ((!false)==false) (Z g3 0)/\Gd ((!false)==false) (((r6 t))/\(jE t).sm)/\Pk (!false) true ((!false)==false)/\Br ((!false)||(!(ai t))) (Q v1 v1) (False)))) (.tup [.c9,bV false])) ?_
 intro g3;refine⟨fun Sr=>?_,fun Sr=>?_⟩
 · have UG:=Sr;try simp only[nb]at UG
   refine⟨rfl,⟨hw,hz,Sr⟩,az ⟨fun hG=>⟨ht,rfl⟩,az (bI (fun j8=>?_) fun j8=>?_)⟩⟩;rfl
   · all_goals simp_all
 · have UG:=Sr;try simp only[nb]at UG
   refine⟨rfl,⟨hw,hz,Sr⟩,az ⟨fun hG=>⟨ht,rfl⟩,az (bI (fun l5=>?_) fun l5=>?_)⟩⟩;rfl
   · all_goals simp_all)
def Bk(n:BL)(b6:Int)(zs:List j9)(se:List BL)(ls:List o4)(gt g o c gw ix:Nat)(w:List Pg)(a:BL)(k:Int)(y:j9):aC:=.mk 145 [kp 1001 gw,.ptr (.key 1000) [2,ix] g (o+ix*8),sV a,iV k] [(1001,(gw,.agg [.mp (w.map L3),kp 1000 gt])),(1000,(gt,bu n b6 zs g o c se ls))] ((ix<zs.length)/\(ls.length<=1000)/\(0<=k/\k<=1000)/\(0<=b6/\b6<=100000)/\(zs.getD ix e9=y)/\(y.gr.wa<=1000)) (.tup [iV ((af w a k).1),sV ((af w a k).2)]) [(1001,(gw,.agg [.mp (w.map L3),kp 1000 gt])),(1000,(gt,bu n b6 (zs.set ix (eI y b6 (af w a k).1 k)) g o c se (ls++[(⟨b6,a,(af w a k).1⟩:o4)])))] (by
 rintro⟨hi,hl,hk,hn,YF,hy⟩
 refine au Tryz.func145
  (.oR (.key 1000) [4] (fun gl L7 cl=>(fun (y2:Int) (y1:o4)=>(.q 2<|.r 5 [.c9]<|.r 6 [.c9]<|.c (Ah w a k) []<|.q 5<|.A7 14 [(4,m5 [1000] [31]),(8,m5 [1000] [35]),(13,⟨true,[],none,[40],[1000]⟩)]<|.l7 4<|.n9<|.l7 3<|.n9<|.l7 2<|.bd sL<|.bs<|.ux none (fun K5 K1 OV=>.h (.n8 40 (.own 3 ((ls++[y1]).map aE) K5 K1 OV))<|.q 2<|.st none<|.h (.r4 1000 (wm n b6 zs ix y (y.td) g o c se (ls++[y1]) K5 K1 OV))<|.A7 12 [(4,m5 [1000] [47]),(9,m5 [1000] [52])]<|.l7 4<|.n9<|.l7 4<|.r 1 [iN (y.gr.wa)]<|.mm<|.q 1<|.q 2<|.st (some (iV (y.re)))<|.h (.r4 1000 (kX n b6 zs ix (y.na) (b6+(max y2 1)) (y.kn) y.gr (y.tr) (y.td) g o c se (ls++[y1]) K5 K1 OV))<|.q 2<|.br (.A7 7 [(3,m5 [1000] [62])]<|.l7 3<|.r 1 [iV (b6+(max y2 1))]<|.l7 2<|.c (HZ (k+1)) []<|.q 3<|.st (some (iV (b6+(max y2 1))))<|.h (.r4 1000 (kX n b6 zs ix (y.na) ((b6+(max y2 1))+(bT (k+1))) (y.kn) y.gr (y.tr) (y.td) g o c se (ls++[y1]) K5 K1 OV))<|.q 4<|.h (.r4 1000 (uv n b6 (zs.set ix ({ y with re:=(b6+(max y2 1))+(bT (k+1)) }:j9)) g o c se (ls++[y1]) K5 K1 OV))<|.nil) (.q 4<|.h (.r4 1000 (uv n b6 (zs.set ix ({ y with re:=b6+(max y2 1) }:j9)) g o c se (ls++[y1]) K5 K1 OV))<|.nil)):Sc Tryz.prog)) ((y.gr.wa:Nat):Int) (⟨b6,a,(af w a k).1⟩:o4)))
  ((fun (v2:Int) (v1:o4)=>(fun (v7 v5 v3:V) (v6:j9) (v4:List V)=>(∀ gl L7 cl:Nat,True/\Z gw 1/\True/\Z gw 0/\(Ah w a k).sm/\((0<=k)/\(k<=1000))/\True/\Z gt 4/\True/\Z gt 1/\(((3,3,gl,L7,cl,(ls.map aE).length)=(3,3,gl,L7,cl,(ls.map aE).length))/\(V.aF v4=false)/\(aW 3 v4)/\(((ls.map aE).length+v4.length)*32<=140737488355328))/\∀ K5 K1 OV:Nat,(fun v8:V=>(fun (v10:Prop) (v9:V)=>((.own 3 ((ls.map aE)++v4) K5 K1 OV:V)=.own 3 ((ls++[v1]).map aE) K5 K1 OV)/\True/\Z gt 4/\((uv n b6 zs g o c se (ls++[v1]) K5 K1 OV:V)=wm n b6 zs ix y (y.td) g o c se (ls++[v1]) K5 K1 OV)/\True/\Z gt 1/\True/\(V.at gt 0 v9 [2,ix,3,2]=some (g,(o+ix*8+3+2),iN (y.gr.wa)))/\(IntKind.i64=IntKind.i64)/\m6 (b6+(max v2 1))/\True/\(V.at gt 0 v9 [2,ix,1]=some (g,(o+ix*8+1),iV (y.re)))/\(V.set v9 [2,ix,1] (iV (b6+(max v2 1)))=kX n b6 zs ix (y.na) (b6+(max v2 1)) (y.kn) y.gr (y.tr) (y.td) g o c se (ls++[v1]) K5 K1 OV)/\Br (o5 ((af w a k).1) 3) (True/\v10/\m6 (k+1)/\(HZ (k+1)).sm/\(True)/\m6 ((b6+(max v2 1))+(bT (k+1)))/\True/\v10/\(V.set v8 [2,ix,1] (iV ((b6+(max v2 1))+(bT (k+1))))=kX n b6 zs ix (y.na) ((b6+(max v2 1))+(bT (k+1))) (y.kn) y.gr (y.tr) (y.td) g o c se (ls++[v1]) K5 K1 OV)/\((kX n b6 zs ix (y.na) ((b6+(max v2 1))+(bT (k+1))) (y.kn) y.gr (y.tr) (y.td) g o c se (ls++[v1]) K5 K1 OV:V)=uv n b6 (zs.set ix v6) g o c se (ls++[v1]) K5 K1 OV)/\Q v3 v3/\Er gw v7/\Qr gt (bu n b6 (zs.set ix v6) g o c se (ls++[v1])) gt v5) (((kX n b6 zs ix (y.na) (b6+(max v2 1)) (y.kn) y.gr (y.tr) (y.td) g o c se (ls++[v1]) K5 K1 OV:V)=uv n b6 (zs.set ix ({ y with re:=b6+(max v2 1) }:j9)) g o c se (ls++[v1]) K5 K1 OV)/\Q v3 v3/\Er gw v7/\Qr gt (bu n b6 (zs.set ix ({ y with re:=b6+(max v2 1) }:j9)) g o c se (ls++[v1])) gt v5)) (V.at gt 0 v8 [2,ix,1]=some (g,(o+ix*8+1),iV (b6+(max v2 1)))) (wm n b6 zs ix y (y.td) g o c se (ls++[v1]) K5 K1 OV)) (kX n b6 zs ix (y.na) (b6+(max v2 1)) (y.kn) y.gr (y.tr) (y.td) g o c se (ls++[v1]) K5 K1 OV))) (.agg [.mp (w.map L3),kp 1000 gt]) (bu n b6 (zs.set ix (eI y b6 (af w a k).1 k)) g o c se (ls++[v1])) (.tup [iV ((af w a k).1),sV ((af w a k).2)]) ({ y with re:=(b6+(max v2 1))+(bT (k+1)) }:j9) ([ef b6 a ((af w a k).1)]:List V)) ((y.gr.wa:Nat):Int) (⟨b6,a,(af w a k).1⟩:o4)) ?_
 subst YF;intro gl L7 cl;refine cN ⟨⟨hk.1,hk.2⟩,bM ⟨bj Zal,fun K5 K1 OV=>⟨Zbm (V.own 3 · K5 K1 OV) Zad,trivial,rfl,Zd6,az (cL (bI (fun j8=>?_) fun j8=>?_))⟩⟩⟩;refine cN ⟨by have:=lb (k+1);omega,bj ⟨F9 (Zbm (V.own 8 · g o c) (dg (f:=ah) (x:=({ (zs.getD ix e9) with re:=(b6+(max (((zs.getD ix e9).gr.wa:Nat):Int) 1))+(bT (k+1)) }:j9)) Zac)),⟨?_,rfl,by rw[Lj j8]⟩⟩⟩;rfl;refine⟨F9 (Zbm (V.own 8 · g o c) (dg (f:=ah) (x:=({ (zs.getD ix e9) with re:=b6+(max (((zs.getD ix e9).gr.wa:Nat):Int) 1) }:j9)) Zac)),⟨?_,rfl,by rw[yh j8]⟩⟩;rfl)
section
variable {P:Program} {w w':World} {Pb Kb:Nat->Prop} {N:Nat} {A:AS} {a:Act} {F:m7->List Nat}
theorem set_set:∀ (p:List Nat) (v x y:V),(v.set p x).set p y=v.set p y
 | [],_,_,_=>rfl
 | j::p,v,x,y=>by
   cases v with
   | agg vs=>
     simp only[V.set];cases h:vs[j]? with
     | none=>simp only[h]
     | some u=>
       have hj:=(Za3.1 h).1;simp only[List.getElem?_set_self hj,List.set_set,set_set p u x y]
   | own sz xs g o c=>
     simp only[V.set];cases h:xs[j]? with
     | none=>simp only[h]
     | some u=>
       have hj:=(Za3.1 h).1;simp only[List.getElem?_set_self hj,List.set_set,set_set p u x y]
   | _=>rfl
theorem wZ:∀ (p:List Nat) {v u x:V} {g o g' o':Nat},V.at g o v p=some (g',o',u)->V.at g o (v.set p x) p=some (g',o',x)
 | [],v,u,x,g,o,g',o',h=>by
   simp only[V.at,Zan,Zaq]at h ⊢;exact⟨h.1,h.2.1,rfl⟩
 | j::p,v,u,x,g,o,g',o',h=>by
   simp only[V.at]at h;split at h;rename_i vs;split at h;rename_i y hy;have hj:=(Za3.1 hy).1;simp only[V.set,hy,V.at,List.getElem?_set_self hj];rw[List.take_set_of_le (Zbc _)];exact wZ p h;simp at h;rename_i sz xs g1 o1 c1;split at h;rename_i y hy;have hj:=(Za3.1 hy).1;simp only[V.set,hy,V.at,List.getElem?_set_self hj];exact wZ p h;simp at h;simp at h
theorem po:∀ (xs ys:List V) {cs:List Value},RL w Pb (xs++ys) cs []->RL w Pb xs (cs.take (V.ns xs)) []/\RL w Pb ys (cs.drop (V.ns xs)) []
 | [],ys,cs,h=>⟨⟨by simp[V.ns],rfl⟩,by simpa[V.ns] using h⟩
 | x::xs,ys,cs,h=>by
   obtain⟨c1,c2,F1,F2,rfl,hF,h1,h2⟩:=h;obtain⟨rfl,rfl⟩:=List.append_eq_nil_iff.1 hF.symm;obtain⟨k1,k2⟩:=po xs ys h2;have hl:=eX x h1;have e:V.ns (x::xs)=c1.length+V.ns xs:=by simp only[V.ns];omega
   rw[e,List.take_length_add_append,List.drop_length_add_append];exact⟨⟨c1,_,[],[],rfl,rfl,h1,k1⟩,k2⟩
theorem E2.same{g o:Nat}{cs:List Value}{cells:Array Value}(hb:Blk w g cells)(h:∀ j u,cs[j]? =some u->cells[o+j]? =some u):E2 w w g o cs where
 os:=rfl
 tape:=rfl
 output:=rfl
 size:=rfl
 Qy:=fun _ _=>rfl
 shape:=Shp.refl _
 Rr:=fun r5 OZ=>by
  obtain⟨e,fr,h1,h2⟩:=hb;obtain⟨e',ZZ,Vh,ZW⟩:=OZ;rw[h1]at Vh;simp only[Zan,Obj.cells.injEq]at Vh;obtain⟨rfl,_,_⟩:=Vh;exact⟨cells,⟨e',ZZ,by rw[h1];simp_all,ZW⟩,rfl,fun _ _=>rfl,h⟩
theorem x2.Db(hs:x2 N Pb Kb A a w F) {k g1 o1 sz g o c lo:Nat} {p:List Nat} {xs xs':List V} {new:List Value} (C4:A.at (.key k) p=some (g1,o1,.own sz xs g o c)) (hc:0<c) (O7:V.aF xs=false)
 (hlo:lo+new.length<=xs.length*sz) (hlen:xs'.length=xs.length) (hN:aW sz xs') (h1:∀ v,v∈new->v.oneCell'=true)
 (RW:∀ flat,RL w Pb xs flat []->RL w Pb xs' (flat.take lo++new++flat.drop (lo+new.length)) []):
 ∃ w' F',(storeCells ⟨g,o+lo,none⟩ new 0).run P w=.ok () w'/\x2 N Pb Kb (A.setAt (.key k) p (.own sz xs' g o c)) a w' F'/\B6 Kb w w':=by
 obtain⟨Fr,Fu,P7,⟨cs,cells,hb,PD,w9⟩,hnd,x9,hfr⟩:=hs.split C4;rcases PD with ⟨h0,_⟩ | ⟨Vh,hsz,hle,hcs,hN0,XT,flat,F',R1,Yj,hr,l5,Xr,UY⟩;omega;have hF0:=gQ xs O7 hr;subst hF0;subst Yj;have hfl:flat.length=xs.length*sz:=by rw[jK _ hr,qt _ hN0]
 have VJ:xs.length*sz<=c*sz:=Nat.mul_le_mul_right _ hle;obtain⟨w',C9,D4⟩:=iz (P:=P) (g:=g) (o:=o+lo) new 0 w R1 l5 Zac h1;rw[Nat.add_zero]at D4;have hg:=hfr g Zad;have Pm:x2 N Pb Kb (A.setAt (.key k) p .c9) a w' (cK F (.key k) Fr):=P7.Qy (fun r=>x9 r g Zad) hg.1 D4.Qy D4.size;have ZL:∀ x,Pb x->w'.heap[x]? =w.heap[x]? :=fun x hx=>D4.Qy x (by rintro rfl;exact XT hx);obtain⟨r5,OZ,hsize,QM,UJ⟩:=D4.Rr R1 l5;have Y2:=RW flat hr;have hR:R w' Pb (.own sz xs' g o c) cs [g]:=by
  refine .inr ⟨Vh,hsz,Zac,by rw[hlen];exact hcs,hN,XT,_,[],r5,rfl,eZ xs' Y2 ZL Zad (fun _ h=>h) Zad,OZ,Zac,fun j u hu=>?_⟩;by_cases j1:j<lo;rw[List.append_assoc,Za9 Zal,List.getElem?_take_of_lt j1]at hu;rw[QM _ (.inl Zac)];exact UY j u hu;by_cases j2:j<lo+new.length;rw[List.append_assoc,Za4 Zal,Za9 Zal]at hu;have:=UJ _ _ hu;have e:(flat.take lo).length=lo:=by rw[List.length_take];omega
  rw[e,show o+lo+(j-lo)=o+j from Zac]at this;exact this;have e:(flat.take lo++new).length=lo+new.length:=by rw[Zap,List.length_take];omega
  rw[Za4 Zac,e,List.getElem?_drop,show lo+new.length+(j-(lo+new.length))=j from Zac]at hu;rw[QM _ (.inr Zac)];exact UY j u hu
 have VK:(A.setAt (.key k) p .c9).at (.key k) p=some (g1,o1,.c9):=by
  simp only[AS.at]at C4;split at C4;rename_i g0 t hk;simp only[AS.setAt,hk,AS.at,lk,if_true];exact wZ p C4;simp at C4
 have Ve:g1≠g:=by
  have hh:=VK;simp only[AS.at]at hh;split at hh;rename_i g0 t hk;obtain⟨Qo,e,hA⟩:=P7.root k g0 t hk;have hin:g1∈cK F (.key k) Fr (.key k):=by
   rw[e];rcases jf p hA hh with ⟨h,_⟩ | h;rw[h];simp;simp[h]
  rintro rfl;exact x9 (.key k) g1 Zad hin;simp at hh
 have hst2:E2 w' w' g1 o1 cs:=by
  obtain⟨e,fr,Zh,hf⟩:=hb;exact E2.same (cells:=cells) ⟨e,fr,(D4.Qy g1 Ve).trans Zh,hf⟩ w9
 obtain⟨F3,P6,_⟩:=Pm.store VK hR (by rfl) hnd (fun r x hx=>x9 r x hx) (fun x hx=>by rw[D4.size];exact hfr x hx) hst2;refine⟨w',F3,C9,P6.eqv ⟨fun i=>?_,fun q=>?_⟩,⟨D4.os,D4.tape,D4.output,by rw[D4.size];omega,fun x hx=>D4.Qy x (by rintro rfl;exact hg.1 hx),D4.shape⟩⟩;simp only[AS.at]at C4;split at C4;rename_i g0 t hk;simp only[AS.setAt,hk,lk,if_true];rfl;simp at C4;simp only[AS.at]at C4;split at C4;rename_i g0 t hk;simp only[AS.setAt,hk,lk,if_true,set_set];split <;> rfl;simp at C4
theorem Lb{zc:Array Value}(h:0<zc.size)(n:Nat):(Builtin.zeroCells zc (n+1)).toList=zc.toList++(Builtin.zeroCells zc n).toList:=by
 apply List.ext_getElem;simp[Builtin.zeroCells,Nat.add_mul];omega;intro i h1 h2;by_cases hi:i<zc.size;rw[List.getElem_append_left Zbn];simp[Builtin.zeroCells,Nat.mod_eq_of_lt hi,hi];rw[List.getElem_append_right Zbn];simp only[Builtin.zeroCells,Array.getElem_toList,Array.getElem_map,Array.getElem_range,Array.length_toList];rw[Nat.mod_eq_sub_mod Zac]
theorem EE{v:V}{zc:Array Value}(h:0<zc.size)(hr:R w Pb v zc.toList []):∀ n,RL w Pb (List.replicate n v) (Builtin.zeroCells zc n).toList []
 | 0=>⟨by simp[Builtin.zeroCells],rfl⟩
 | n+1=>by
   rw[Lb h,List.replicate_succ];exact⟨_,_,[],[],rfl,rfl,hr,EE h hr n⟩
theorem Hh{zc:Array Value}(n:Nat):(Builtin.zeroCells zc n).toList.length=n*zc.size:=by simp[Builtin.zeroCells]
theorem NL{v:V}{zc:Array Value}(h:0<zc.size)(hr:R w Pb v zc.toList [])(n:Nat):∀ x,x∈(Builtin.zeroCells zc n).toList->x.oneCell'=true:=sP _ (EE h hr n)
theorem xa:∀ (xs:List V) (k:Nat),V.aF xs=false->V.aF (xs.take k)=false
 | xs,0,h=>by simp[V.aF]
 | [],k+1,h=>by simpa using h
 | v::vs,k+1,h=>by
   simp only[V.aF,Bool.or_eq_false_iff]at h;simp only[List.take_succ_cons,V.aF,Bool.or_eq_false_iff];exact⟨h.1,xa vs k h.2⟩
def clC(k:Nat)(p:List Nat)(lo n sz:Nat)(xs:List V)(g q c g1 o1:Nat)(z:ZT P):Cu P where
 X:=Unit
 pre _ o A:=match o.op,o.dst with
  | .call ⟨.builtin .clear,⟨[x]⟩,⟨[T]⟩⟩,none=>match tD P T,A.ev x with
    | some (.sl e),.hd r p' Pf g' o' P' n' _=>((e,r,p',Pf,g',o',P',n')=(z.T,m7.key k,p,sz,g,q,lo,n))/\A.at (.key k) p=some (g1,o1,.own sz xs g q c)/\lo+n<=xs.length/\V.aF xs=false/\aW sz xs/\z.v.n=sz
    | _,_=>False
  | _,_=>False
 post _ _ A:=A.setAt (.key k) p (.own sz (xs.take lo++List.replicate n z.v++xs.drop (lo+n)) g q c)
 ok:=by
  rintro N ⟨dst,op,ty,pos,after,E9⟩ A K-hp hK;replace hK:=hK ();simp only at hp;split at hp;rename_i x T;split at hp;rename_i e r p' Pf g' o' P' n' c' e1 e2;obtain⟨h1,C4,hlo,O7,hN,YE⟩:=hp;simp only[Zaq]at h1;obtain⟨rfl,rfl,rfl,rfl,rfl,rfl,rfl,rfl⟩:=h1;intro Pb Kb a w F Q hs;obtain⟨_,hx⟩:=eE hs x;rw[e2]at hx;obtain⟨_,hle,B,hv,hB⟩:=hx;have hv:a.eval x=.slice B n' c':=(List.cons.inj hv).1;have hu:=jw e1;unfold Oper.wp;by_cases hn:n'=0;subst hn;have C9:(execOp a.eval ⟨none,.call ⟨.builtin .clear,⟨[x]⟩,⟨[T]⟩⟩,ty,pos,after,E9⟩).run P w=.ok (.value (.tuple #[])) w:=by
   cases B <;> simp[execOp,resolve,Deferred.ofValue,invoke,builtin,Builtin.clear_,hv,aV hu]
  rw[C9,Oper.upon_value];obtain⟨cu,Fu,q1,q2⟩:=hs.uD C4;have:=q2 _ rfl q1;have t2:x2 N Pb Kb (A.setAt (.key k) p' (.own Pf (xs.take P'++List.replicate 0 z.v++xs.drop (P'+0)) g' o' c)) a w F:=by simpa using this
  exact⟨_,Pb,Kb,F,hK,t2,fun _ h=>h,fun _ h=>h,fun _ h=>.inl h,B6.refl _ _⟩;obtain rfl:=hB Zac;obtain⟨inf,zv,z1,z2,z3⟩:=z.ok;have Yb:R w Pb z.v zv.cells.toList []:=tS z.v z3;have Vt:zv.cells.size=z.v.n:=by have:=eX _ Yb;simpa using this
  obtain⟨Fr,Fu,_,⟨cs,cells,_,PD,_⟩,_⟩:=hs.split C4;have hc:0<c/\0<z.v.n:=by
   rcases PD with ⟨_,rfl,_⟩ | ⟨h,h2,_⟩;simp at hlo;omega;exact⟨h,by rw[YE];exact h2⟩
  have e9:0<zv.cells.size:=by rw[Vt];exact hc.2
  have UI:n'*zv.cells.size=n'*Pf:=by rw[Vt,YE]
  have hbd:P'*Pf+n'*Pf<=xs.length*Pf:=by rw[<- Nat.add_mul];exact Nat.mul_le_mul_right _ hlo
  obtain⟨w',F',C9,C8,hk⟩:=hs.Db (P:=P) (lo:=P'*Pf) (xs':=xs.take P'++List.replicate n' z.v++xs.drop (P'+n')) (new:=(Builtin.zeroCells zv.cells n').toList) C4 hc.1 O7 (by rw[Hh,UI];exact hbd)
   Zal (fun v hv=>by
    rcases Zax.1 hv with h | h;rcases Zax.1 h with h | h;exact hN v (List.mem_of_mem_take h);rw[(List.mem_replicate.1 h).2,YE];exact hN v (List.mem_of_mem_drop h)) (NL e9 Yb n') (fun flat hf=>by
    have k1:=(po (xs.take P') (xs.drop P') (cs:=flat) Zd8).1;have k2:=(po (xs.take (P'+n')) (xs.drop (P'+n')) (cs:=flat) Zd8).2;rw[eM xs P' hN Zac]at k1;rw[eM xs _ hN hlo,Nat.add_mul]at k2;rw[Hh,UI];exact jP _ _ (jP _ _ k1 (EE e9 Yb n')) k2)
  have Ss:(execOp a.eval ⟨none,.call ⟨.builtin .clear,⟨[x]⟩,⟨[T]⟩⟩,ty,pos,after,E9⟩).run P w=.ok (.value (.tuple #[])) w':=by
   have hcl:(Builtin.clear_ #[T] ty #[a.eval x]).run P w=.ok (.tuple #[]) w':=by
    rw[hv];unfold Builtin.clear_;simp only[List.getElem?_toArray,List.getElem?_cons_zero,Za0,aV hu,Zas];obtain⟨m,rfl⟩:∃ m,n'=m+1:=⟨n'-1,Zac⟩;simp only[Za0,zeroValue,typeInfo,Zas];simp[z1,z2,C9]
   simp[execOp,resolve,Deferred.ofValue,invoke,builtin,hcl]
  rw[Ss,Oper.upon_value];exact⟨_,Pb,Kb,F',hK,C8,fun _ h=>h,fun _ h=>h,fun _ h=>.inl h,hk⟩;exact hp.elim;exact hp.elim
def saC(k:Nat)(p:List Nat)(lo n sz:Nat)(xs:List V)(g q c g1 o1:Nat):Cu P where
 X:=Unit
 pre N o A:=match o.op,o.dst with
  | .call ⟨.builtin .append,⟨[s,x]⟩,⟨[T,T2]⟩⟩,some d=>match o.type==T&&Nat.blt d N,lI P T T2 with
    | true,some t=>match A.ev x with
      | .hd r p' Pf g' q' P' n' c'=>((r,p',Pf,g',q',P',n')=(m7.key k,p,sz,g,q,lo,n))/\A.ev s=.hd (.key k) p sz g q 0 0 c/\A.at (.key k) p=some (g1,o1,.own sz xs g q c)/\sz=t.sz/\0<xs.length/\lo+n<=xs.length/\V.aF xs=false/\aW sz xs/\c'=c'
      | _=>False
    | _,_=>False
  | _,_=>False
 post _ o A:=(A.setAt (.key k) p (.own sz ((xs.drop lo).take n++xs.drop n) g q c)).put o.dst (.hd (.key k) p sz g q 0 n c)
 ok:=by
  rintro N ⟨dst,op,ty,pos,after,E9⟩ A K-hp hK;replace hK:=hK ();simp only at hp;split at hp;rename_i s x T T2 d;split at hp;rename_i t e1 e2;split at hp;rename_i r p' Pf g' q' P' n' c' e3;obtain⟨h1,es,C4,hsz,h0,hlo,O7,hN,_⟩:=hp;simp only[Zaq]at h1;obtain⟨rfl,rfl,rfl,rfl,rfl,rfl,rfl⟩:=h1;simp only[Zao,Zbl]at e1;obtain⟨e,e',q1,q2,q3,q4,q5,q6⟩:=ib e2;subst hsz;intro Pb Kb a w F Q hs;obtain⟨_,hx⟩:=eE hs s;rw[es]at hx;obtain⟨_,hle,B,hv,hB⟩:=hx;have hv:a.eval s=.slice B 0 c:=(List.cons.inj hv).1;have YV:QI A x=some (((t.sz=t.sz/\g'=g'/\q'=q')/\P'+n'<=xs.length/\V.aF xs=false/\aW t.sz xs),(xs.drop P').take n'):=by
   unfold QI;rw[e3];show (match A.at (.key k) p' with | some (_,_,u)=>je P' n' t.sz g' q' u | none=>none)=_;rw[C4];rfl
  have U3:aW t.sz ((xs.drop P').take n'):=fun v hv=>hN v (List.mem_of_mem_drop (List.mem_of_mem_take hv));have Xz:V.aF ((xs.drop P').take n')=false:=xa _ _ (rE _ _ O7);obtain⟨B2,c2,G8,RG,P1,Sz,hl2⟩:=oC (P:=P) hs YV ⟨⟨rfl,rfl,rfl⟩,hlo,O7,hN⟩ U3 Xz;have hyl:((xs.drop P').take n').length=n':=Zal;rw[hyl]at hl2 RG Sz;obtain⟨Fr,Fu,_,⟨cs,cells,_,PD,_⟩,_⟩:=hs.split C4;have hc:0<c/\xs.length<=c:=by
   rcases PD with ⟨_,rfl,_⟩ | ⟨h,_,h2,_⟩;simp at h0;exact⟨h,h2⟩
  obtain rfl:=hB hc.1;have hbd:n'*t.sz<=xs.length*t.sz:=Nat.mul_le_mul_right _ Zac
  obtain⟨w',F',C9,C8,hk⟩:=hs.Db (P:=P) (lo:=0) (xs':=(xs.drop P').take n'++xs.drop n') (new:=G8) C4 hc.1 O7 (by rw[hl2];omega)
   Zal (fun v hv=>by
    rcases Zax.1 hv with h | h;exact U3 v h;exact hN v (List.mem_of_mem_drop h)) (sP _ P1) (fun flat hf=>by
    have k2:=(po (xs.take n') (xs.drop n') (cs:=flat) Zd8).2;rw[eM xs _ hN Zac]at k2;rw[hl2,List.take_zero,List.nil_append,Zaw];exact jP _ _ P1 k2)
  have Ss:(execOp a.eval ⟨some d,.call ⟨.builtin .append,⟨[s,x]⟩,⟨[T,T2]⟩⟩,ty,pos,after,E9⟩).run P w=.ok (.value (.slice (some ⟨g',q'+0*t.sz,none⟩) n' c)) w':=by
   have T7:(Builtin.append_ #[T,T2] ty #[a.eval s,a.eval x]).run P w=.ok (.slice (some ⟨g',q'+0*t.sz,none⟩) n' c) w':=by
    have Sv:(Builtin.lenOf (a.eval x)).run P w=.ok n' w:=by rw[RG];rfl
    rw[hv];unfold Builtin.append_;simp only[List.getElem?_toArray,List.getElem?_cons_zero,List.getElem?_cons_succ,Za0,aV (jw q1),Zas];simp only[dA q3,Zas];simp only[aV (jw q2),Zas,Za1];rw[if_neg (show ¬ (false=true) by decide)];rw[Za0,Sv];simp only[Zas];rw[if_pos Zac];simp only[Za0,Bool.not_false,if_true,Sz w (fun _=>rfl),Zas];simp only[eH,Nat.zero_mul,Nat.add_zero]at C9 ⊢;rw[C9];simp
   have e:((⟨[s,x]⟩:Array Operand).map a.eval)= #[a.eval s,a.eval x]:=Zad;simp only[execOp,resolve,invoke,builtin,Za0,Za1,Zas,e,T7]
  obtain⟨F2,Pm⟩:=C8.rj (d:=some d) (v:=.hd (.key k) p' t.sz g' q' 0 n' c) (x:=.slice (some ⟨g',q'+0*t.sz,none⟩) n' c) (bP e1.2) ⟨rfl,Zac,_,rfl,fun _=>rfl⟩;unfold Oper.wp;rw[Ss,Oper.upon_value];exact⟨_,Pb,Kb,F2,hK,Pm,fun _ h=>h,fun _ h=>h,fun _ h=>.inl h,hk⟩;exact hp.elim;exact hp.elim;exact hp.elim
def ZA(k:Nat)(p:List Nat)(n sz:Nat)(xs:List V)(g q c g1 o1:Nat):Cu P where
 X:=Unit
 pre _ o A:=match o.op,o.dst with
  | .store T x y,none=>match ti P T,A.ev y with
    | some i,.hd r p' Pf g' q' P' n' c'=>((r,p',Pf,g',q',P',n',c')=(m7.key k,p,sz,g,q,0,n,c))/\A.ev x=.ptr (.key k) p g1 o1/\A.at (.key k) p=some (g1,o1,.own sz xs g q c)/\i.sz=1/\n<=xs.length/\V.aF xs=false
    | _,_=>False
  | _,_=>False
 post _ _ A:=A.setAt (.key k) p (.own sz (xs.take n) g q c)
 ok:=by
  rintro N ⟨dst,op,ty,pos,after,E9⟩ A K-hp hK;replace hK:=hK ();simp only at hp;split at hp;rename_i T x y;split at hp;rename_i i r p' Pf g' q' P' n' c' e1 e2;obtain⟨h1,ex,C4,hi,hn,O7⟩:=hp;simp only[Zaq]at h1;obtain⟨rfl,rfl,rfl,rfl,rfl,rfl,rfl,rfl⟩:=h1;intro Pb Kb a w F Q hs;obtain⟨_,hx⟩:=eE hs y;rw[e2]at hx;obtain⟨_,hle,B,hv,hB⟩:=hx;have hv:a.eval y=.slice B n' c':=(List.cons.inj hv).1;obtain⟨_,Wy⟩:=eE hs x;rw[ex]at Wy;have hp:a.eval x=.pointer (some ⟨g1,o1,none⟩):=by have:=Wy.2;simpa using this
  obtain⟨Fr,Fu,P7,⟨cs,cells,hb,PD,w9⟩,hnd,x9,hfr⟩:=hs.split C4;have hR:R w Pb (.own Pf (xs.take n') g' q' c') [a.eval y] Fu:=by
   rw[hv];rcases PD with ⟨rfl,rfl,rfl,A0,_⟩ | ⟨Vh,hsz,hlx,hcs,hN0,XT,flat,F',R1,Yj,hr,l5,Xr,UY⟩;have:n'=0:=by simpa using hn
   subst this;exact .inl ⟨rfl,rfl,rfl,B,rfl⟩;have hF0:=gQ xs O7 hr;subst hF0;obtain rfl:=hB Vh;have hl:(xs.take n').length=n':=by rw[List.length_take];omega
   refine .inr ⟨Vh,hsz,Zac,by rw[hl,Nat.zero_mul,Nat.add_zero],fun v hv=>hN0 v (List.mem_of_mem_take hv),XT,flat.take (V.ns (xs.take n')),[],R1,Yj,?_,l5,Xr,fun j u hu=>UY j u ?_⟩;exact(po (xs.take n') (xs.drop n') (cs:=flat) (by rw[List.take_append_drop];exact hr)).1;rw[List.getElem?_take]at hu;split at hu;exact hu;simp at hu
  have VK:(A.setAt (.key k) p' .c9).at (.key k) p'=some (g1,o1,.c9):=by
   simp only[AS.at]at C4;split at C4;rename_i g0 t hk;simp only[AS.setAt,hk,AS.at,lk,if_true];exact wZ p' C4;simp at C4
  have hcs:cs.length=1:=eX _ PD;obtain⟨w',C9,D4⟩:=iz (P:=P) (g:=g1) (o:=o1) [a.eval y] 0 w cells hb (by
   have:cs[0]? =some (cs[0]'Zac):=Zat Zac;have:=(Zbh.1 (w9 0 _ this)).1;simp only[Zar,Zau];omega) (fun v h=>by rw[Zav.1 h,hv];rfl)
  rw[Nat.add_zero]at D4;have Ss:(execOp a.eval ⟨none,.store T x y,ty,pos,after,E9⟩).run P w=.ok .skip w':=by
   have QE:(a.eval y).cells= #[a.eval y]:=by rw[hv];rfl
   have hsz:(a.eval y).cells.size=i.sz:=by rw[QE,hi];rfl
   have YR:(storeCells ⟨g1,o1,none⟩ (a.eval y).cells.toList 0).run P w=.ok () w':=by rw[QE];exact C9
   simp only[execOp,Instr.storeAt,hp,Instr.sureAddr,Za0,Za1,Zas,storeVar,dA e1,hsz,ne_eq,not_true_eq_false,if_false,YR]
  obtain⟨F2,Pm,hg⟩:=P7.store VK hR (by rfl) hnd x9 hfr D4;have P6:x2 N Pb Kb (A.setAt (.key k) p' (.own Pf (xs.take n') g' q' c')) a w' F2:=by
   simp only[AS.at]at C4;split at C4;rename_i g0 t hk;refine Pm.eqv ⟨fun i=>?_,fun q=>?_⟩;simp only[AS.setAt,hk,lk,if_true];rfl;simp only[AS.setAt,hk,lk,if_true,set_set];split <;> rfl;simp at C4
  unfold Oper.wp;rw[Ss,Oper.upon_skip];exact⟨_,Pb,Kb,F2,hK,P6,fun _ h=>h,fun _ h=>h,fun _ h=>.inl h,⟨D4.os,D4.tape,D4.output,by rw[D4.size];omega,fun x hx=>D4.Qy x (fun c=>hg (c ▸ hx)),D4.shape⟩⟩;exact hp.elim;exact hp.elim
end
theorem LX{xs ys:List V}{j sz g o c:Nat}{x x' v:V}{p:List Nat}(h:xs[j]? =some x)(hx:V.set x p v=x')(e:xs.set j x'=ys):V.set (.own sz xs g o c) (j::p) v=.own sz ys g o c:=by simp only[V.set,h,hx,e]
section
variable {P:Program}
def sdC(n:Nat)(l h m:Int):Cu P where
 X:=Unit
 pre N o A:=match o.op,o.dst with
  | .slice T x (some lo) (some hi) (some mx),some d=>match tD P T,Nat.blt d N with
    | some (.sl e),true=>match ti P e,A.ev x with
      | some _,.hd _ _ _ _ _ _ n' _=>A.ev lo=.lit (.int .i64 l)/\A.ev hi=.lit (.int .i64 h)/\A.ev mx=.lit (.int .i64 m)/\n'=n/\0<=l/\l<=h/\h<=m/\m<=n
      | _,_=>False
    | _,_=>False
  | _,_=>False
 post _ o A:=A.put o.dst .c9
 ok:=by
  rintro N ⟨dst,op,ty,pos,after,E9⟩ A K-hp hK;replace hK:=hK ();simp only at hp hK;split at hp;rename_i T x lo hi mx d;split at hp;rename_i e e1 e2;split at hp;rename_i t r p sz g q P' n' c e3 e4;obtain⟨h1,h2,h3,rfl,k1,k2,k3,k4⟩:=hp;refine gF (v:=.c9) rfl (bP e2) hK fun Pb Kb a w F hs=>?_;obtain⟨_,hx⟩:=eE hs x;rw[e4]at hx;obtain⟨_,hle,B,hv,hB⟩:=hx;have hv:a.eval x=.slice B n' c:=(List.cons.inj hv).1;have b1:=cy hs h1;have b2:=cy hs h2;have b3:=cy hs h3;refine⟨.slice (if m.toNat=l.toNat then B else B.map (·.add (l.toNat*t.sz))) (h.toNat-l.toNat) (m.toNat-l.toNat),?_,rfl⟩;have q1:(Instr.sliceBounds true n' c (some (.int .i64 l)) (some (.int .i64 h)) (some (.int .i64 m))).run P w=.ok (l.toNat,h.toNat,m.toNat) w:=by
   simp only[Instr.sliceBounds,Instr.sliceBound,asIntOf,Za0,Za1,Zas];rw[if_pos Zac];simp only[Za1,Zas];rw[if_pos Zac];simp only[Za1,Zas];rw[if_pos Zac];simp only[Za1,Zas]
  simp only[execOp,Option.map_some,Instr.sliceAt,Instr.slice,Za0,aV (jw e1),Zas,hv,b1,b2,b3,q1,dA e3,Za1];exact hp.elim;exact hp.elim;exact hp.elim
def sbC(k:Nat)(p:List Nat)(sz:Nat)(xs:List V)(g q c n g1 o1 l h:Nat):Cu P where
 X:=Unit
 pre N o A:=match o.op,o.dst with
  | .slice T x (some lo) (some hi) none,some d=>match tD P T,Nat.blt d N with
    | some (.sl e),true=>match ti P e with
      | some t=>A.ev x=.hd (.key k) p sz g q 0 n c/\A.at (.key k) p=some (g1,o1,.own sz xs g q c)/\A.ev lo=.lit (.int .i64 (l:Int))/\A.ev hi=.lit (.int .i64 (h:Int))/\sz=t.sz/\l<=h/\h<=xs.length
      | none=>False
    | _,_=>False
  | _,_=>False
 post _ o A:=A.put o.dst (.hd (.key k) p sz g q l (h-l) (c-l))
 ok:=by
  rintro N ⟨dst,op,ty,pos,after,E9⟩ A K-hp hK;replace hK:=hK ();simp only at hp hK;split at hp;rename_i T x lo hi d;split at hp;rename_i e e1 e2;split at hp;rename_i t e3;obtain⟨ex,C4,h1,h2,hsz,k1,k2⟩:=hp;subst hsz;refine gF (v:=.hd (.key k) p t.sz g q l (h-l) (c-l)) rfl (bP e2) hK fun Pb Kb a w F hs=>?_;obtain⟨_,hx⟩:=eE hs x;rw[ex]at hx;obtain⟨_,hle,B,hv,hB⟩:=hx;have hv:a.eval x=.slice B n c:=(List.cons.inj hv).1;have b1:=cy hs h1;have b2:=cy hs h2;obtain⟨_,cs,cells,_,PD,_⟩:=jc hs C4;have hc:xs.length<=c:=by
   rcases PD with ⟨_,rfl,_⟩ | ⟨_,_,h,_⟩;simp;exact h
  refine⟨.slice (if c=l then B else B.map (·.add (l*t.sz))) (h-l) (c-l),?_,rfl,Zac,_,rfl,fun h0=>?_⟩;have q1:(Instr.sliceBounds true n c (some (.int .i64 (l:Int))) (some (.int .i64 (h:Int))) none).run P w=.ok (l,h,c) w:=by
   simp only[Instr.sliceBounds,Instr.sliceBound,asIntOf,Za0,Za1,Zas];rw[if_pos Zac];simp only[Za1,Zas];rw[if_pos Zac];simp only[Za1,Zas,Int.toNat_natCast]
  simp only[execOp,Option.map_some,Option.map_none,Instr.sliceAt,Instr.slice,Za0,aV (jw e1),Zas,hv,b1,b2,q1,dA e3,Za1];rw[if_neg Zac,hB Zac];simp[eH];exact hp.elim;exact hp.elim;exact hp.elim
def mfE:Eu P where
 X:=Unit
 pre N o A Sl _:=match o.op,o.dst with
  | .makeFunc fn first C6,some d=>match Nat.blt d N&&Sl.contains d,ka (first.toList.map A.ev),ka (C6.toList.map A.ev) with
    | true,some l1,some l2=>(Value.func fn l1.toArray l2.toArray).oneCell'=true
    | _,_,_=>False
  | _,_=>False
 U o A _ B:=match o.op,o.dst with
   | .makeFunc fn first C6,some d=>match ka (first.toList.map A.ev),ka (C6.toList.map A.ev) with
     | some l1,some l2=>B.put (some d) (.lit (.func fn l1.toArray l2.toArray))
     | _,_=>B
   | _,_=>B
 V0:=by
  rintro N ⟨dst,op,ty,pos,after,E9⟩ A Sl Hl hp fs;simp only at hp;split at hp;rename_i fn first C6 d
  split at hp;rename_i l1 l2 e1 e2 e3;simp only[Zao,Zbi,Zbk]at e1;simp only[e2,e3];exact uq (v:=fun _:Unit=>.lit (.func fn l1.toArray l2.toArray)) e1.2 fs;exact hp.elim;exact hp.elim
 ok:=by
  rintro N ⟨dst,op,ty,pos,after,E9⟩ A A' Sl Hl hg hp hA hR;simp only at hp;split at hp;rename_i fn first C6 d
  split at hp;rename_i l1 l2 e1 e2 e3;simp only[Zao]at e1;have q1:first.toList.map A'.ev=first.toList.map A.ev:=List.map_congr_left fun x hx=>bK fun t ht=>hA t (by subst ht;simp[Op.operands];left;simpa using hx)
  have q2:C6.toList.map A'.ev=C6.toList.map A.ev:=List.map_congr_left fun x hx=>bK fun t ht=>hA t (by subst ht;simp[Op.operands];right;simpa using hx);refine(Wh (P:=P)).ok hg ?_ fun _=>⟨(),?_⟩;simp only[Wh,q1,q2,e1.1,e2,e3];exact hp;simp only[Wh,q1,q2,e2,e3];exact hp.elim;exact hp.elim
end
theorem LD(s:BL):eV s 20<=20:=by
 have key:∀ (l:BL) (n:Int),n<=20->l.foldl (iy 20) n<=20:=fun l=>by
  induction l with
  | nil=>exact fun n h=>h
  | cons c l ih=>exact fun n _=>ih _ (by unfold iy;omega)
 unfold eV;split;exact key s 0 Zac;omega
def oF(gs:List l9):Prop:= ∀ y,y∈gs->y.wa<=20
theorem oF.set{gs:List l9}{f:l9->l9}(h:oF gs)(hf:∀ z,gs.getLast? =some z->(f z).wa<=20):oF (dY gs f):=by
 by_cases hn:gs=[];subst hn;simp[dY,oF];obtain⟨⟨l,z⟩,rfl⟩:=jX hn;rw[ez];intro y hy;rcases Zax.1 hy with hy | hy;exact h y (by simp[hy]);rw[Zav.1 hy];exact hf z Zad
theorem LG{gs:List l9}{w d:BL}{b:Bool}(h:oF gs):oF (dF gs w d b).1:=by
 have hl:∀ z,gs.getLast? =some z->z.wa<=20:=fun z hz=>h z (List.mem_of_getLast? hz);unfold dF;split;split;intro y hy;rcases Zax.1 hy with hy | hy;exact h y hy;rw[Zav.1 hy];simp;exact h.set fun z hz=>hl z hz;split;exact h;split;exact h.set fun z hz=>hl z hz;split;exact h.set fun z hz=>by have:=LD d;simp only;omega
 exact h
theorem HR(t:BL):oF (bR t):=by
 have:∀ (l:List BL) (x:List l9×Bool),oF x.1->oF (l.foldl dK x).1:=by
  intro l;induction l with
  | nil=>exact fun x h=>h
  | cons a l ih=>exact fun x h=>ih _ (LG h)
 exact this _ _ (by intro y hy;simp at hy)
theorem Ks(n:BL):∀ (gs:List l9) {x:(List s5×Nat)×Bool},x.1.2<=20->oF gs->(gs.foldl (du n) x).1.2<=20
 | [],x,h,_=>h
 | g::gs,x,h,h2=>by
   refine Ks n gs ?_ (fun y hy=>h2 y (by simp[hy]));unfold du;split;have:=h2 g Zad;simp only;omega;exact h
theorem DK{gs:List l9}(n:BL)(h:oF gs):(eC gs n).wa<=20:=by
 have key:∀ q,(QJ gs q).1.wa<=20:=fun q=>Ks q gs Zad h;unfold eC;split <;> exact key _
theorem oj(k:Int)(t n:BL):(cq k t n).wa<=20:=by
 unfold cq;split;exact DK n (HR t);split;simp;exact DK n (fun y hy=>by simp at hy)
def PQ(ru:List s5)(x:r7):Bool:=ar x.ad&&bD ru (pathOf x.ad)
def QP(y:j9)(s:BL):Bool:=ar s&&bD y.gr.ru (pathOf s)
def QK(y:j9)(x:r7):Bool:=QP y x.ad
def Pp(y:j9)(l:List r7):Int:=if (l.findIdx fun x=>!(QP y x.ad))<l.length then ((l.findIdx fun x=>!(QP y x.ad):Nat):Int) else -1
def gO(w:List Pg)(n d:BL):l9:=⟨[n],(cq (af w (aB d) 2).1 (af w (aB d) 2).2 n).ru,(cq (af w (aB d) 2).1 (af w (aB d) 2).2 n).wa⟩
def w8(w:List Pg)(y:j9)(b6:Int):j9:=eI y b6 (af w (aB y.na) y.tr).1 y.tr
def Qs(w:List Pg)(n:BL)(y:j9)(b6:Int):j9:=
 if (af w (aB y.na) y.tr).1=3/\y.tr+1<3 then { w8 w y b6 with tr:=y.tr+1 }
 else { w8 w y b6 with kn:=true,gr:=gO w n y.na,re:=max (w8 w y b6).re (b6+((gO w n y.na).wa:Int)),td:=y.td.filter (PQ (gO w n y.na).ru) }
def x5(w:List Pg)(y:j9)(b6:Int):j9:=eI { y with td:=y.td.drop 1 } b6 (af w (y.td.getD 0 j7).ad (y.td.getD 0 j7).tr).1 (y.td.getD 0 j7).tr
def Xd(w:List Pg)(t:l4)(i:Nat):l4:=
 { t with hs:=t.hs.set i (Qs w t.na (t.hs.getD i e9) t.b6),lk:=t.lk++[⟨t.b6,aB (t.hs.getD i e9).na,(af w (aB (t.hs.getD i e9).na) (t.hs.getD i e9).tr).1⟩] }
def L1(w:List Pg)(t:l4)(i:Nat):l4:=
 let y:=t.hs.getD i e9
 let it:=y.td.getD 0 j7
 let g:=af w it.ad it.tr
 let t1:l4:={ t with hs:=t.hs.set i (x5 w y t.b6),lk:=t.lk++[⟨t.b6,it.ad,g.1⟩] }
 if g.1=3/\it.tr+1<3 then { t1 with hs:=t.hs.set i { x5 w y t.b6 with td:=y.td.drop 1++[⟨it.ad,it.tr+1⟩] } }
 else if ar it.ad=true then (qM it.ad g.1 g.2).foldl aq t1 else t1
theorem fF(l:List BL):∀ t:l4,(l.foldl aq t).na=t.na/\(l.foldl aq t).b6=t.b6/\(l.foldl aq t).lk=t.lk:=by
 induction l with
 | nil=>exact fun t=>⟨rfl,rfl,rfl⟩
 | cons a l ih=>exact fun t=>ih (aq t a)
structure HS (m:Nat) (y:j9):Prop where
 n:y.na.length<=1000
 r:y.gr.ru.length<=1000
 rp:∀ i,(y.gr.ru.getD i ⟨false,[]⟩).path.length<=1000
 w:y.gr.wa<=1000
 t:y.td.length+60<=1000+m
 ta:∀ x,x∈y.td->x.ad.length<=1000/\r9 x.ad/\0<=x.tr/\x.tr<=1000
 k:0<=y.tr/\y.tr<=1000
theorem HS.mono{m k:Nat}{y:j9}(h:HS m y)(hm:m<=k):HS k y:=⟨h.n,h.r,h.rp,h.w,by have:=h.t;omega,h.ta,h.k⟩
structure TS (t:l4):Prop where
 s:t.se.length<=60
 h:t.hs.length+60<=1000+t.se.length
 sa:∀ x,x∈t.se->x.length<=1000/\r9 x
 ha:∀ y,y∈t.hs->HS t.se.length y
theorem Lv{t:l4}{s:BL}(h:TS t)(hn:t.na.length<=1000)(hs:s.length<=1000)(hc:r9 s)(hd:(aA s).length<=1000):TS (aq t s):=by
 have e1:(aq t s).se=aI t.se s:=rfl;have e2:(aq t s).hs=bz t.na t.hs t.se s:=rfl;by_cases hr:dG t.se s;have e3:aI t.se s=t.se++[s]:=if_pos hr;have e4:bz t.na t.hs t.se s=(bp t.hs (aA s) t.na).set (C7 t.hs (aA s)) (dR ((bp t.hs (aA s) t.na).getD (C7 t.hs (aA s)) e9) s):=if_pos hr;have hl:(bp t.hs (aA s) t.na).length<=t.hs.length+1:=wg _ _ _;have hin:∀ y,y∈bp t.hs (aA s) t.na->HS t.se.length y:=fun y hy=>by
  unfold bp at hy;split at hy;exact h.ha y hy;rcases Zax.1 hy with hy | hy;exact h.ha y hy;rw[Zav.1 hy];exact⟨hd,by simp[dv],by simp[dv],by simp[dv],by show 0+60<=1000+t.se.length;omega,by simp[dv],by simp[dv]⟩
 have h2:=hr.2.1;refine⟨by rw[e1,e3];simp;omega,?_,fun x hx=>?_,fun y hy=>?_⟩;rw[e1,e2,e3,e4,List.length_set];have:=h.h;simp;omega;rw[e1,e3]at hx;rcases Zax.1 hx with hx | hx;exact h.sa x hx;rw[Zav.1 hx];exact⟨hs,hc⟩;rw[e1,e3];rw[e2,e4]at hy;have hm:(t.se++[s]).length=t.se.length+1:=Zad;rw[hm];rcases ej hy with e | hy;have hm:(bp t.hs (aA s) t.na).getD (C7 t.hs (aA s)) e9∈bp t.hs (aA s) t.na:=by
  rw[Zam,Zat (iv ..)];exact List.getElem_mem _
 have S0:=hin _ hm;rw[e];unfold dR;split;exact S0.mono Zac;refine⟨S0.n,S0.r,S0.rp,S0.w,?_,fun x hx=>?_,S0.k⟩;show (_++[_]).length+60<=_;have:=S0.t;rw[Zap,Zbf];omega;rcases Zax.1 hx with hx | hx;exact S0.ta x hx;rw[Zav.1 hx];exact⟨hs,hc,Zad,Zad⟩;exact(hin y hy).mono Zac;have e3:aI t.se s=t.se:=if_neg hr;have e4:bz t.na t.hs t.se s=t.hs:=if_neg hr;exact⟨by rw[e1,e3];exact h.s,by rw[e1,e2,e3,e4];exact h.h,by rw[e1,e3];exact h.sa,by rw[e1,e2,e3,e4];exact h.ha⟩
theorem od:∀ (l:List BL) {t:l4},TS t->t.na.length<=1000->(∀ s,s∈l->s.length<=1000/\r9 s/\(aA s).length<=1000)->TS (l.foldl aq t)
 | [],t,h,_,_=>h
 | a::l,t,h,hn,hl=>by
   have:=hl a Zad;exact od l (Lv h hn this.1 this.2.1 this.2.2) hn (fun s hs=>hl s (by simp[hs]))
def kr(y:j9)(l:List r7):List r7:=l.filter (QK y)++List.replicate (l.length-(l.filter (QK y)).length) j7
theorem Mj{y:j9}{s:BL}:(!((bg s).isSome)||!(bD y.gr.ru (if aR (oA (bg s))=true then bZ (oA (bg s)) else [])))=!(QP y s):=by
 unfold QP;rw[iH];by_cases h:ar s=true;have e:bg s=aT s:=if_pos h;have hs:(aT s).isSome=true:=by have:=h;unfold ar at this;rw[Zao]at this;exact this.1
 rw[h,e,if_pos (pr hs)];rfl;rw[Bool.not_eq_true]at h;rw[h];rfl
section
variable {y:j9} {l u:List r7} {i w:Nat}
theorem FF{p:r7->Bool}(hi:i<l.length)(e:p (l.getD i j7)=true)(h:∀ j,j<i->p (l.getD j j7)=false):l.findIdx p=i:=by
 rw[List.findIdx_eq hi];simp only[Zam,Zat hi]at e;refine⟨Zb3,fun j hj=>?_⟩;have:=h j hj;simp only[Zam,Zat (show j<l.length by omega)]at this;simpa using this
theorem My(hi:i<l.length)(e:QP y (l.getD i j7).ad=false)(h:∀ j,j<i->QP y (l.getD j j7).ad=true):Pp y l=i:=by
 unfold Pp;rw[FF (p:=fun x=>!(QP y x.ad)) hi (by simp only[e];rfl) (fun j hj=>by simp only[h j hj];rfl),if_pos hi]
theorem LA{p:r7->Bool}(h:∀ j,j<l.length->p (l.getD j j7)=false):l.findIdx p=l.length:=by
 rw[List.findIdx_eq_length];intro x hx;obtain⟨j,hj,rfl⟩:=Zbg.1 hx;have:=h j hj;simp only[Zam,Zat hj]at this;simpa using this
theorem ML(h:∀ j,j<l.length->QP y (l.getD j j7).ad=true):Pp y l= -1:=by
 unfold Pp;rw[LA (p:=fun x=>!(QP y x.ad)) (fun j hj=>by simp only[h j hj];rfl),if_neg Zac]
theorem Al(y:j9)(l:List r7): -1<=Pp y l/\Pp y l<=l.length/\(Pp y l≠ -1->0<=Pp y l/\Pp y l<l.length):=by
 unfold Pp;split <;> omega
theorem tC(h:u.drop i=l.drop i):u.getD i j7=l.getD i j7:=by
 have:=Zbm (fun r=>r[0]?) h;simp only[List.getElem?_drop,Nat.add_zero]at this;rw[Zam,Zam,this]
theorem GL(h:Pp y l= -1):l.filter (QK y)=l:=by
 unfold Pp at h;split at h;omega;rename_i hn;have he:(l.findIdx fun x=>!(QP y x.ad))=l.length:=by
  have:(l.findIdx fun x=>!(QP y x.ad))<=l.length:=List.findIdx_le_length;omega
 rw[List.findIdx_eq_length]at he;rw[List.filter_eq_self];intro x hx;simpa[QK] using he x hx
theorem OG(h: ¬ Pp y l= -1):(Pp y l).toNat<(Pp y l).toNat+1/\(Pp y l).toNat+1<=l.length/\l.length=l.length/\l.take (Pp y l).toNat=(l.take ((Pp y l).toNat+1)).filter (QK y)/\l.drop ((Pp y l).toNat+1)=l.drop ((Pp y l).toNat+1):=by
 obtain⟨b1,b2⟩:=(Al y l).2.2 h;have hk:(Pp y l).toNat=l.findIdx fun x=>!(QP y x.ad):=by
  unfold Pp at b1 b2 ⊢;split;exact Int.toNat_natCast _;rename_i hn;rw[if_neg hn]at b1;omega
 have hlt:(Pp y l).toNat<l.length:=Zac;refine bj ⟨?_,rfl⟩;rw[List.take_succ_eq_append_getElem hlt,List.filter_append];have e1:(l.take (Pp y l).toNat).filter (QK y)=l.take (Pp y l).toNat:=by
  rw[List.filter_eq_self];intro x hx;obtain⟨j,hj,rfl⟩:=Zbg.1 hx;rw[List.length_take]at hj;rw[List.getElem_take];have:=List.not_of_lt_findIdx (p:=fun x=>!(QP y x.ad)) (xs:=l) (i:=j) Zac;simpa[QK] using this
 have e2:QK y l[(Pp y l).toNat]=false:=by
  have:=List.findIdx_getElem (p:=fun x=>!(QP y x.ad)) (xs:=l) (w:=by rw[<- hk];exact hlt);simp only[<- hk]at this;simpa[QK] using this
 rw[e1];simp[e2]
theorem Nb(hi:i<l.length)(h1:w<i)(h3:u.length=l.length)(h4:u.take w=(l.take i).filter (QK y))(h5:u.drop i=l.drop i)(hk:QP y (u.getD i j7).ad=true):
 w+1<i+1/\i+1<=l.length/\(u.set w (⟨(u.getD i j7).ad,(u.getD i j7).tr⟩:r7)).length=l.length/\(u.set w (⟨(u.getD i j7).ad,(u.getD i j7).tr⟩:r7)).take (w+1)=(l.take (i+1)).filter (QK y)/\
  (u.set w (⟨(u.getD i j7).ad,(u.getD i j7).tr⟩:r7)).drop (i+1)=l.drop (i+1):=by
 have e:=tC h5;have hw:w<u.length:=Zac;refine bq ⟨by simpa using h3,?_,?_⟩;rw[List.take_succ_eq_append_getElem (by simpa using hw),List.getElem_set_self,List.take_set_of_le (Zbc _),h4,List.take_succ_eq_append_getElem hi,List.filter_append];have e2:(⟨(u.getD i j7).ad,(u.getD i j7).tr⟩:r7)=l[i]:=by
  show u.getD i j7=l[i];rw[e,Zam,Zat hi];rfl
 have e3:QK y l[i]=true:=by rw[<- e2];exact hk
 rw[e2];simp[e3];rw[List.drop_set_of_lt Zac];have:=Zbm (List.drop 1) h5;simpa[List.drop_drop] using this
theorem Mr(hi:i<l.length)(h1:w<i)(h3:u.length=l.length)(h4:u.take w=(l.take i).filter (QK y))(h5:u.drop i=l.drop i)(hk:QP y (u.getD i j7).ad=false):
 w<i+1/\i+1<=l.length/\u.length=l.length/\u.take w=(l.take (i+1)).filter (QK y)/\u.drop (i+1)=l.drop (i+1):=by
 refine bq ⟨h3,?_,?_⟩;rw[h4,List.take_succ_eq_append_getElem hi,List.filter_append];have e3:QK y l[i]=false:=by
  have:=tC h5;rw[Zam (l:=l),Zat hi]at this;show QP y l[i].ad=false;rw[<- hk,this];rfl
 simp[e3];have:=Zbm (List.drop 1) h5;simpa[List.drop_drop] using this
theorem NM(hi:l.length<=i)(h1:w<i)(h2:i<=l.length)(h3:u.length=l.length)(h4:u.take w=(l.take i).filter (QK y)):w=(l.filter (QK y)).length:=by
 have:=Zbm List.length h4;rw[List.length_take,Zaz hi]at this;omega
theorem Ny(h:Pp y l= -1):kr y l=l:=by unfold kr;rw[GL h];simp
theorem Nf(hi:l.length<=i)(h1:w<i)(h2:i<=l.length)(h3:u.length=l.length)(h4:u.take w=(l.take i).filter (QK y)):kr y l=u.take w++List.replicate (l.length-w) j7:=by
 unfold kr;rw[<- NM hi h1 h2 h3 h4,h4,Zaz hi]
theorem Ml(h3:u.length=l.length):(u.map aj).take w++List.replicate (l.length-w) (.agg [sV [],iN 0]:V)++(u.map aj).drop (w+(l.length-w))=(u.take w++List.replicate (l.length-w) j7).map aj:=by
 rw[Za8 Zal,List.append_nil,Zbb,List.map_take,List.map_replicate];rfl
theorem Oy:((l.map aj).drop 1).take (l.length-1)++(l.map aj).drop (l.length-1)=(l.drop 1++l.drop (l.length-1)).map aj:=by
 rw[Zbb,List.map_drop,List.map_drop,Zaz Zad]
theorem ME(h:0<l.length):((l.drop 1++l.drop (l.length-1)).map aj).take (l.length-1)++List.replicate 1 (.agg [sV [],iN 0]:V)++((l.drop 1++l.drop (l.length-1)).map aj).drop (l.length-1+1)=(l.drop 1++[j7]).map aj:=by
 rw[show ((l.drop 1++l.drop (l.length-1)).map aj).drop (l.length-1+1)=[] from Za8 Zal,List.append_nil,<- List.map_take,List.take_append_of_le_length Zad,Zaz Zad,Zbb];rfl
end
def uG(n:BL)(b6:Int)(zs:List j9)(se:List BL)(ls:List o4)(gt g o c ix:Nat)(y:j9)(ga oa ca:Nat)(l:List r7)(gb:Nat)(s:BL)(v:Int):aC:=.mk 149 [cm s v,kp 1002 gb] [(1002,(gb,.ptr (.key 1000) [2,ix] g (o+ix*8))),(1000,(gt,bf n b6 zs ix y l ga oa ca g o c se ls))] ((ix<zs.length)/\(s.length<=1000)/\(r9 s)/\(y.gr.ru.length<=1000)/\(∀ i,(y.gr.ru.getD i ⟨false,[]⟩).path.length<=1000)) (bV (!(QP y s))) [(1002,(gb,.ptr (.key 1000) [2,ix] g (o+ix*8))),(1000,(gt,bf n b6 zs ix y l ga oa ca g o c se ls))] (by
 rintro⟨hi,hs,hc,hr,Tj⟩
 refine au Tryz.func149
  (.bx (fun g2=>.q 1<|.r 2 [.c9]<|.c (eA s) []<|.q 3<|.al dj (fun g4=>.st none<|.q 1<|.A7 13 [(3,m5 [1002] [15]),(7,m5 [1000] [19]),(8,m5 [4] [20])]<|.l7 3<|.n9<|.l7 3<|.r 1 [da y.gr.ru]<|.n9<|.cg (nJ (oA (bg s)))<|.cg (mW y.gr.ru (if aR (oA (bg s))=true then bZ (oA (bg s)) else []))<|.l7 3<|.nil)))
  ((fun v1:Bool=>(∀ g2:Nat,Z g2 0/\(eA s).sm/\((s.length<=1000000)/\(r9 s))/\∀ g4:Nat,Z g4 0/\Gd v1 (Z gb 0)/\Gd v1 (v1=true)/\Gd v1 True/\Gd v1 (v1=true)/\Gd v1 (v1=true)/\Gd v1 (v1=true)/\Gd v1 (V.at gt 0 (bf n b6 zs ix y l ga oa ca g o c se ls) [2,ix,3,1]=some (g,(o+ix*8+3+1),da y.gr.ru))/\Gd v1 (Z g4 0)/\Gd v1 (v1=true)/\Gd v1 (((di (oA (bg s))))/\(nJ (oA (bg s))).sm)/\Gd v1 (v1=true)/\Gd v1 (v1=true)/\Gd v1 (((y.gr.ru.length<=1000000)/\(∀ i,(y.gr.ru.getD i ⟨false,[]⟩).path.length<=1000000)/\((if aR (oA (bg s))=true then bZ (oA (bg s)) else []).length<=1000000))/\(mW y.gr.ru (if aR (oA (bg s))=true then bZ (oA (bg s)) else [])).sm)/\Gd v1 (v1=true)/\Pk (!((bg s).isSome)) true v1/\Q (bV ((!((bg s).isSome))||(!(bD y.gr.ru (if aR (oA (bg s))=true then bZ (oA (bg s)) else []))))) (bV (!(QP y s)))/\Er gb (.ptr (.key 1000) [2,ix] g (o+ix*8))/\Er gt (bf n b6 zs ix y l ga oa ca g o c se ls))) ((!((bg s).isSome))==false)) ?_
 intro g2;refine⟨rfl,rfl,az (hc),fun g4=>gJ ⟨fun hG=>(aZ (f:=2) rfl).trans (aQ (cR Zac) rfl),bq ⟨fun hG=>⟨by(try simp only[nb]at hG);exact tf _,rfl⟩,bq ⟨fun hG=>⟨⟨Zcq,fun i=>by have:=Tj i;omega,by(try simp only[nb]at hG);have:=(tf s).path;split <;> simp <;> omega⟩,rfl⟩,bq ⟨?_,aK⟩⟩⟩⟩⟩;rw[Mj])
def Hv(n:BL)(b6:Int)(zs:List j9)(se:List BL)(ls:List o4)(gt g o c ix:Nat)(y:j9)(ga oa ca:Nat)(l:List r7)(gb:Nat):aC:=.mk 186 [.hd (.key 1000) [2,ix,5] 2 ga oa 0 ((l.map aj).length) ca,.lit (.func (.func 149) #[] #[.pointer (some ⟨gb,0,none⟩)])] [(1002,(gb,.ptr (.key 1000) [2,ix] g (o+ix*8))),(1000,(gt,bf n b6 zs ix y l ga oa ca g o c se ls))] ((ix<zs.length)/\(l.length<=1000)/\(∀ x,x∈l->x.ad.length<=1000/\r9 x.ad)/\(y.gr.ru.length<=1000)/\(∀ i,(y.gr.ru.getD i ⟨false,[]⟩).path.length<=1000)) (iV (Pp y l)) [(1002,(gb,.ptr (.key 1000) [2,ix] g (o+ix*8))),(1000,(gt,bf n b6 zs ix y l ga oa ca g o c se ls))] (by
 rintro⟨hi,hl,hx,hr,Tj⟩
 refine au Tryz.func186
  (.q 1<|.q 3<|.loop Nat (fun i=>⟨[(0,.hd (.key 1000) [2,ix,5] 2 ga oa 0 ((l.map aj).length) ca),(1,.lit (.func (.func 149) #[] #[.pointer (some ⟨gb,0,none⟩)])),(7,iN l.length),(8,iN i)],[(1002,(gb,.ptr (.key 1000) [2,ix] g (o+ix*8))),(1000,(gt,bf n b6 zs ix y l ga oa ca g o c se ls))]⟩) (fun i=>i<=l.length/\∀ j,j<i->QP y (l.getD j j7).ad=true) (fun i=>l.length-i) (fun i=>.q 1<|.br (.q 2<|.r 5 [cm ((l.getD i j7).ad) ((l.getD i j7).tr)]<|.c (uG n b6 zs se ls gt g o c ix y ga oa ca l gb ((l.getD i j7).ad) ((l.getD i j7).tr)) [(1002,1002),(1000,1000)]<|.br (.q 2<|.nil) (.q 2<|.nil)) (.q 1<|.nil)))
  ((fun (v5:Nat) (v4 v3 v2:V) (v1:Nat->Prop)=>((∃ j6:Nat,(v1 j6)/\E (.hd (.key 1000) [2,ix,5] 2 ga oa 0 v5 ca)/\E v4/\Q (iN v5) (iN l.length)/\Q (iN 0) (iN j6)/\Er gb v3/\Er gt v2/\True)/\∀ i:Nat,(v1 i)->(fun v6:r7=>Br (s4 (i:Int) (l.length:Int)) (In (i:Int) v5/\(V.at gt 0 v2 [2,ix,5,0+i]=some (ga,(oa+(0+i)*2),cm (v6.ad) (v6.tr)))/\(uG n b6 zs se ls gt g o c ix y ga oa ca l gb (v6.ad) (v6.tr)).sm/\Er gb v3/\Er gt v2/\((ix<zs.length)/\((v6.ad).length<=1000)/\(r9 (v6.ad))/\(y.gr.ru.length<=1000)/\(∀ i,(y.gr.ru.getD i ⟨false,[]⟩).path.length<=1000))/\Br (!(QP y (v6.ad))) (Q (iN i) (iV (Pp y l))/\Er gb v3/\Er gt v2) (m6 ((i:Int)+1)/\∃ b9:Nat,(v1 b9)/\(l.length-b9<l.length-i)/\E (.hd (.key 1000) [2,ix,5] 2 ga oa 0 v5 ca)/\E v4/\E (iN l.length)/\Q (iN (i+1)) (iN b9)/\Er gb v3/\Er gt v2/\True)) (Q (iV (-1)) (iV (Pp y l))/\Er gb v3/\Er gt v2)) (l.getD i j7))) ((l.map aj).length) (.lit (.func (.func 149) #[] #[.pointer (some ⟨gb,0,none⟩)])) (.ptr (.key 1000) [2,ix] g (o+ix*8)) (bf n b6 zs ix y l ga oa ca g o c se ls) (fun j6:Nat=>j6<=l.length/\∀ j,j<j6->QP y (l.getD j j7).ad=true)) ?_
 refine⟨⟨0,?_,rfl,rfl,Zah,aK⟩,?_⟩;simp;rintro i ⟨h1,h2⟩;refine bI (fun j8=>?_) fun j8=>?_;have L':=hx _ (aD (d:=j7) (show i<l.length by omega));refine az ⟨Zd9,rfl,rfl,rfl,⟨hi,L'.1,L'.2,hr,Tj⟩,bI (fun l5=>?_) fun l5=>?_⟩;refine⟨?_,aK⟩;rw[My (i:=i) Zac Zch h2];refine az ⟨i+1,?_,?_,aK⟩;exact⟨Zac,Zdw⟩;exact Zak;refine⟨?_,aK⟩;rw[ML (fun j hj=>h2 j Zac)])
abbrev tL(n:BL)(b6:Int)(zs:List j9)(se:List BL)(ls:List o4)(gt g o c ix:Nat)(y:j9)(ga oa ca:Nat)(l:List r7)(gb:Nat):V:=.hd (.key 1000) [2,ix,5] 2 ga oa 0 ((l.filter (QK y)).length) ca
abbrev qJ(n:BL)(b6:Int)(zs:List j9)(se:List BL)(ls:List o4)(gt g o c ix:Nat)(y:j9)(ga oa ca:Nat)(l:List r7)(gb w i:Nat)(u:List r7):Prop:=w<i/\i<=l.length/\u.length=l.length/\u.take w=(l.take i).filter (QK y)/\u.drop i=l.drop i
def HQ(n:BL)(b6:Int)(zs:List j9)(se:List BL)(ls:List o4)(gt g o c ix:Nat)(y:j9)(ga oa ca:Nat)(l:List r7)(gb:Nat):aC:=.mk 148 [.hd (.key 1000) [2,ix,5] 2 ga oa 0 ((l.map aj).length) ca,.lit (.func (.func 149) #[] #[.pointer (some ⟨gb,0,none⟩)])] [(1002,(gb,.ptr (.key 1000) [2,ix] g (o+ix*8))),(1000,(gt,bf n b6 zs ix y l ga oa ca g o c se ls))] ((ix<zs.length)/\(l.length<=1000)/\(∀ x,x∈l->x.ad.length<=1000/\r9 x.ad)/\(y.gr.ru.length<=1000)/\(∀ i,(y.gr.ru.getD i ⟨false,[]⟩).path.length<=1000)) (tL n b6 zs se ls gt g o c ix y ga oa ca l gb) [(1002,(gb,.ptr (.key 1000) [2,ix] g (o+ix*8))),(1000,(gt,bf n b6 zs ix y (kr y l) ga oa ca g o c se ls))] (by
 rintro⟨hi,hl,hx,hr,Tj⟩
 refine au Tryz.func148
  (.q 1<|.q 2<|.c (Hv n b6 zs se ls gt g o c ix y ga oa ca l gb) [(1002,1002),(1000,1000)]<|.q 1<|.q 2<|.br (.q 2<|.nil) (.q 3<|.loop (Nat×Nat×(List r7)) (fun (w,i,u)=>⟨[(0,.hd (.key 1000) [2,ix,5] 2 ga oa 0 ((l.map aj).length) ca),(1,.lit (.func (.func 149) #[] #[.pointer (some ⟨gb,0,none⟩)])),(5,iN w),(6,iN i)],[(1002,(gb,.ptr (.key 1000) [2,ix] g (o+ix*8))),(1000,(gt,bf n b6 zs ix y u ga oa ca g o c se ls))]⟩) (fun (w,i,u)=>qJ n b6 zs se ls gt g o c ix y ga oa ca l gb w i u) (fun (w,i,u)=>l.length-i) (fun (w,i,u)=>.q 4<|.br (.r 4 [cm ((u.getD i j7).ad) ((u.getD i j7).tr)]<|.al my (fun g7=>.st none<|.r 2 [.c9]<|.c (uG n b6 zs se ls gt g o c ix y ga oa ca u gb ((u.getD i j7).ad) ((u.getD i j7).tr)) [(1002,1002),(1000,1000)]<|.q 1<|.br (.r 4 [.c9]<|.st (some (cm ((u.getD w j7).ad) ((u.getD w j7).tr)))<|.h (.r4 1000 (bf n b6 zs ix y (u.set w (⟨(u.getD i j7).ad,(u.getD i j7).tr⟩:r7)) ga oa ca g o c se ls))<|.q 3<|.q 3<|.nil) (.q 3<|.nil))) (.q 3<|.cu (clC 1000 [2,ix,5] w (l.length-w) 2 (u.map aj) ga oa ca g (o+(ix)*8+7) my) (fun _=>.h (.r4 1000 (bf n b6 zs ix y (u.take w++List.replicate (l.length-w) j7) ga oa ca g o c se ls))<|.q 4<|.nil)))))
  ((fun (v6 v5 v4 v2:V) (v3:Nat) (v1:Nat->Nat->((List r7))->Prop)=>((Hv n b6 zs se ls gt g o c ix y ga oa ca l gb).sm/\Er gb v2/\Er gt v5/\((ix<zs.length)/\(l.length<=1000)/\(∀ x,x∈l->x.ad.length<=1000/\r9 x.ad)/\(y.gr.ru.length<=1000)/\(∀ i,(y.gr.ru.getD i ⟨false,[]⟩).path.length<=1000))/\Br (o5 (Pp y l) (-1)) (Q (.hd (.key 1000) [2,ix,5] 2 ga oa 0 v3 ca) (tL n b6 zs se ls gt g o c ix y ga oa ca l gb)/\Er gb v2/\Qr gt v5 gt v6) (m6 ((Pp y l)+1)/\(∃ x:Nat×Nat×(List r7),match x with | (Vo,j6,K6)=>(v1 Vo j6 K6)/\E (.hd (.key 1000) [2,ix,5] 2 ga oa 0 v3 ca)/\E v4/\Q (iV (Pp y l)) (iN Vo)/\Q (iV ((Pp y l)+1)) (iN j6)/\Er gb v2/\Qr gt v5 gt (bf n b6 zs ix y K6 ga oa ca g o c se ls)/\True)/\∀ x:Nat×Nat×(List r7),match x with | (w,i,u)=>(v1 w i u)->(fun (v8:r7) (v7:V)=>Br (s4 (i:Int) (((l.map aj).length:Nat):Int)) (In (i:Int) v3/\(V.at gt 0 v7 [2,ix,5,0+i]=some (ga,(oa+(0+i)*2),cm (v8.ad) (v8.tr)))/\∀ g7:Nat,Z g7 0/\Z g7 0/\(uG n b6 zs se ls gt g o c ix y ga oa ca u gb (v8.ad) (v8.tr)).sm/\Er gb v2/\Er gt v7/\((ix<zs.length)/\((v8.ad).length<=1000)/\(r9 (v8.ad))/\(y.gr.ru.length<=1000)/\(∀ i,(y.gr.ru.getD i ⟨false,[]⟩).path.length<=1000))/\Br (!(!(QP y (v8.ad)))) (Z g7 0/\In (w:Int) v3/\(V.at gt 0 v7 [2,ix,5,0+w]=some (ga,(oa+(0+w)*2),cm ((u.getD w j7).ad) ((u.getD w j7).tr)))/\(V.set v7 [2,ix,5,0+w] (cm (v8.ad) (v8.tr))=bf n b6 zs ix y (u.set w (⟨v8.ad,v8.tr⟩:r7)) ga oa ca g o c se ls)/\m6 ((w:Int)+1)/\m6 ((i:Int)+1)/\∃ x:Nat×Nat×(List r7),match x with | (SR,b9,D')=>(v1 SR b9 D')/\(l.length-b9<l.length-i)/\E (.hd (.key 1000) [2,ix,5] 2 ga oa 0 v3 ca)/\E v4/\Q (iN (w+1)) (iN SR)/\Q (iN (i+1)) (iN b9)/\Er gb v2/\Qr gt (bf n b6 zs ix y (u.set w (⟨v8.ad,v8.tr⟩:r7)) ga oa ca g o c se ls) gt (bf n b6 zs ix y D' ga oa ca g o c se ls)/\True) (m6 ((i:Int)+1)/\∃ x:Nat×Nat×(List r7),match x with | (SR,b9,D')=>(v1 SR b9 D')/\(l.length-b9<l.length-i)/\E (.hd (.key 1000) [2,ix,5] 2 ga oa 0 v3 ca)/\E v4/\Q (iN w) (iN SR)/\Q (iN (i+1)) (iN b9)/\Er gb v2/\Qr gt v7 gt (bf n b6 zs ix y D' ga oa ca g o c se ls)/\True)) (((0:Int)<=(w:Int)/\(w:Int)<=((l.map aj).length:Int)/\((l.map aj).length:Int)<=v3/\2=2)/\((((52:Nat),(.key 1000:m7),([2,ix,5]:List Nat),2,ga,oa,(0+w),(v3-w))=((52:Nat),(.key 1000:m7),([2,ix,5]:List Nat),2,ga,oa,w,(l.length-w)))/\(V.at gt 0 v7 [2,ix,5]=some (g,o+(ix)*8+7,.own 2 (u.map aj) ga oa ca))/\(w+(l.length-w)<=(u.map aj).length)/\(V.aF (u.map aj)=false)/\(aW 2 (u.map aj))/\((.agg [sV [],iN 0]:V).n=2))/\∀ _:Unit,(V.set v7 [2,ix,5] (.own 2 ((u.map aj).take w++List.replicate (l.length-w) (.agg [sV [],iN 0]:V)++(u.map aj).drop (w+(l.length-w))) ga oa ca)=bf n b6 zs ix y (u.take w++List.replicate (l.length-w) j7) ga oa ca g o c se ls)/\((0:Int)<=(0:Int)/\(0:Int)<=(w:Int)/\(w:Int)<=v3/\2=2)/\Q (.hd (.key 1000) [2,ix,5] 2 ga oa (0+((0:Int).toNat)) (w-((0:Int).toNat)) (ca-((0:Int).toNat))) (tL n b6 zs se ls gt g o c ix y ga oa ca l gb)/\Er gb v2/\Qr gt (bf n b6 zs ix y (u.take w++List.replicate (l.length-w) j7) ga oa ca g o c se ls) gt v6)) (u.getD i j7) (bf n b6 zs ix y u ga oa ca g o c se ls)))) (bf n b6 zs ix y (kr y l) ga oa ca g o c se ls) (bf n b6 zs ix y l ga oa ca g o c se ls) (.lit (.func (.func 149) #[] #[.pointer (some ⟨gb,0,none⟩)])) (.ptr (.key 1000) [2,ix] g (o+ix*8)) ((l.map aj).length) (fun (Vo:Nat) (j6:Nat) (K6:(List r7))=>qJ n b6 zs se ls gt g o c ix y ga oa ca l gb Vo j6 K6)) ?_
 refine⟨rfl,rfl,rfl,⟨hi,hl,hx,hr,Tj⟩,bI (fun j8=>?_) fun j8=>?_⟩;refine⟨?_,rfl,by rw[Ny j8]⟩;unfold Q tL;rw[GL j8,Zay];refine⟨by have:=Al y l;omega,⟨⟨((Pp y l).toNat,(Pp y l).toNat+1,l),?_,rfl,rfl,by refine Zbm iV ?_;have:=Al y l;omega,by refine Zbm iV ?_;have:=Al y l;omega,aK⟩,?_⟩⟩;unfold qJ;exact OG j8;rintro⟨w,i,u⟩ ⟨h1,h2,h3,h4,h5⟩;refine bI (fun l5=>?_) fun l5=>?_;have L':=hx _ (aD (d:=j7) (show i<l.length by omega));have hu:u.getD i j7=l.getD i j7:=tC h5;refine az ⟨Zd9,fun g7=>cN ⟨⟨hi,by rw[hu];exact L'.1,by rw[hu];exact L'.2,hr,Tj⟩,bI (fun m8=>?_) fun m8=>?_⟩⟩;refine bq ⟨Zd9,nE (LX (cR Zac) (OO (bG (x:=.agg [sV ((u.getD w j7).ad),iV ((u.getD w j7).tr)]) (by rw[Zaw];exact ae (d:=j7) Zac) (by rw[Zaw];exact(List.map_set (f:=aj) (l:=u) (i:=w) (a:=(⟨(u.getD i j7).ad,(u.getD i j7).tr⟩:r7))).symm))) (kL Zac)),bq ⟨(w+1,i+1,u.set w (⟨(u.getD i j7).ad,(u.getD i j7).tr⟩:r7)),?_,?_,aK⟩⟩;unfold qJ;first | exact Nb Zch h1 h3 h4 h5 Zdb | exact Mr Zch h1 h3 h4 h5 Zdb
 exact Zak;refine az ⟨(w,i+1,u),?_,?_,aK⟩;unfold qJ;first | exact Nb Zch h1 h3 h4 h5 Zdb | exact Mr Zch h1 h3 h4 h5 Zdb
 exact Zak;refine⟨⟨Zac,Zc8,aK⟩,⟨Zad,az ⟨Zc8,Zea,cw (f:=aj) (fun _=>rfl) _,rfl⟩⟩,fun _=>⟨Eq.trans (Zbm (fun r:V=>V.set _ [2,ix,5] r) (Zbm (V.own 2 · ga oa ca) (Ml h3))) (nE (bG (cR Zac) (kL Zac))),bq ⟨Zc8,rfl⟩,⟨?_,rfl,by rw[Nf Zch h1 h2 h3 h4]⟩⟩⟩;unfold Q tL;rw[NM Zch h1 h2 h3 h4];rfl)
def HT(n:BL)(b6:Int)(zs:List j9)(se:List BL)(ls:List o4)(gt g o c ix:Nat)(y:j9)(ga oa ca:Nat)(l:List r7):aC:=.mk 152 [.hd (.key 1000) [2,ix,5] 2 ga oa 0 ((l.map aj).length) ca,iV 0,iV 1] [(1000,(gt,bf n b6 zs ix y l ga oa ca g o c se ls))] ((ix<zs.length)/\(0<l.length/\l.length<=1000)) (.hd (.key 1000) [2,ix,5] 2 ga oa 0 (l.length-1) ca) [(1000,(gt,bf n b6 zs ix y (l.drop 1++[j7]) ga oa ca g o c se ls))] (by
 rintro⟨hi,hl⟩
 refine au Tryz.func152
  (.q 1<|.q 5<|.cu (sdC ((l.map aj).length) (0:Int) (1:Int) (((l.map aj).length:Nat):Int)) (fun _=>.q 3<|.br (.nil) (.q 3<|.A7 6 []<|.l7 6<|.cu (saC 1000 [2,ix,5] 1 (l.length-1) 2 (l.map aj) ga oa ca g (o+(ix)*8+7)) (fun _=>.h (.r4 1000 (bf n b6 zs ix y (l.drop 1++l.drop (l.length-1)) ga oa ca g o c se ls))<|.q 1<|.q 4<|.cu (sbC 1000 [2,ix,5] 2 ((l.drop 1++l.drop (l.length-1)).map aj) ga oa ca (l.length-1) g (o+(ix)*8+7) (l.length-1) ((l.map aj).length)) (fun _=>.cu (clC 1000 [2,ix,5] (l.length-1) 1 2 ((l.drop 1++l.drop (l.length-1)).map aj) ga oa ca g (o+(ix)*8+7) my) (fun _=>.h (.r4 1000 (bf n b6 zs ix y (l.drop 1++[j7]) ga oa ca g o c se ls))<|.q 2<|.nil))))))
  ((fun (v3:V) (v2:Nat) (v1:List V)=>(fun (v5:Int) (v4:Prop)=>((((iV 0):V)=.lit (.int .i64 (0:Int))/\((iV 1):V)=.lit (.int .i64 (1:Int))/\((iN v2):V)=.lit (.int .i64 v5)/\v2=v2/\(0:Int)<=(0:Int)/\(0:Int)<=(1:Int)/\(1:Int)<=v5/\v5<=v2)/\∀ _:Unit,Br (o5 0 1) (False) (((0:Int)<=(0:Int)/\(0:Int)<=(0:Int)/\(0:Int)<=v2/\2=2)/\((0:Int)<=(1:Int)/\(1:Int)<=((l.map aj).length:Int)/\((l.map aj).length:Int)<=v2/\2=2)/\((((.key 1000:m7),([2,ix,5]:List Nat),2,ga,oa,(0+(Int.toNat 1)),(v2-(Int.toNat 1)))=((.key 1000:m7),([2,ix,5]:List Nat),2,ga,oa,1,(l.length-1)))/\((.hd (.key 1000) [2,ix,5] 2 ga oa (0+((0:Int).toNat)) ((Int.toNat 0)-((0:Int).toNat)) (ca-((0:Int).toNat)):V)=.hd (.key 1000) [2,ix,5] 2 ga oa 0 0 ca)/\(V.at gt 0 (bf n b6 zs ix y l ga oa ca g o c se ls) [2,ix,5]=some (g,o+(ix)*8+7,.own 2 (l.map aj) ga oa ca))/\((2:Nat)=2)/\(0<(l.map aj).length)/\(1+(l.length-1)<=(l.map aj).length)/\(V.aF (l.map aj)=false)/\(aW 2 (l.map aj))/\(ca-(Int.toNat 1))=(ca-(Int.toNat 1)))/\∀ _:Unit,(V.set (bf n b6 zs ix y l ga oa ca g o c se ls) [2,ix,5] (.own 2 (((l.map aj).drop 1).take (l.length-1)++(l.map aj).drop (l.length-1)) ga oa ca)=bf n b6 zs ix y (l.drop 1++l.drop (l.length-1)) ga oa ca g o c se ls)/\(((.hd (.key 1000) [2,ix,5] 2 ga oa 0 (l.length-1) ca):V)=.hd (.key 1000) [2,ix,5] 2 ga oa 0 (l.length-1) ca/\v4/\((iN (l.length-1)):V)=.lit (.int .i64 (((l.length-1):Nat):Int))/\((iN v2):V)=.lit (.int .i64 ((v2:Nat):Int))/\((2:Nat)=2)/\(l.length-1)<=v2/\v2<=v1.length)/\∀ _:Unit,((((52:Nat),(.key 1000:m7),([2,ix,5]:List Nat),2,ga,oa,(l.length-1),(v2-(l.length-1)))=((52:Nat),(.key 1000:m7),([2,ix,5]:List Nat),2,ga,oa,(l.length-1),1))/\v4/\((l.length-1)+1<=v1.length)/\(V.aF v1=false)/\(aW 2 v1)/\((.agg [sV [],iN 0]:V).n=2))/\∀ _:Unit,(V.set v3 [2,ix,5] (.own 2 (v1.take (l.length-1)++List.replicate 1 (.agg [sV [],iN 0]:V)++v1.drop ((l.length-1)+1)) ga oa ca)=bf n b6 zs ix y (l.drop 1++[j7]) ga oa ca g o c se ls)/\Q (.hd (.key 1000) [2,ix,5] 2 ga oa 0 (l.length-1) ca) (.hd (.key 1000) [2,ix,5] 2 ga oa 0 (l.length-1) ca)/\Er gt (bf n b6 zs ix y (l.drop 1++[j7]) ga oa ca g o c se ls)))) (((l.map aj).length:Nat):Int) (V.at gt 0 v3 [2,ix,5]=some (g,o+(ix)*8+7,.own 2 v1 ga oa ca))) (bf n b6 zs ix y (l.drop 1++l.drop (l.length-1)) ga oa ca g o c se ls) ((l.map aj).length) ((l.drop 1++l.drop (l.length-1)).map aj)) ?_
 refine⟨aK,fun _=>bI (fun j8=>?_) fun j8=>?_⟩;exact absurd j8 Zaf;refine⟨aK,⟨Zac,Zc8,aK⟩,⟨Zad,bj ⟨Zal,Zal,Zea,cw (f:=aj) (fun _=>rfl) _,rfl⟩⟩,fun _=>⟨Eq.trans (Zbm (fun r:V=>V.set _ [2,ix,5] r) (Zbm (V.own 2 · ga oa ca) (Oy))) (nE (bG (cR Zac) (kL Zac))),bj ⟨Zad,rfl,Zad,Zcg⟩,fun _=>⟨⟨Zal,az ⟨Zal,Zea,cw (f:=aj) (fun _=>rfl) _,rfl⟩⟩,fun _=>⟨Eq.trans (Zbm (fun r:V=>V.set _ [2,ix,5] r) (Zbm (V.own 2 · ga oa ca) (ME Zac))) (nE (bG (cR Zac) (kL Zac))),⟨?_,rfl⟩⟩⟩⟩⟩;rfl)
section
variable {P:Program} {N:Nat} {A A' B:AS}
theorem LY{o:Oper}{K K':AS->Prop}(h:J1 P N o A K)(hK:∀ B,K B->∃ B',H2 B B'/\K' B'):J1 P N o A K':=
 fun Pb Kb a w F Q hs=>Oper.wp_mono (fun a' w' ⟨B,Pb',I4,F',hk,C8,h1⟩=>by
  obtain⟨B',e,RX⟩:=hK B hk;exact⟨B',Pb',I4,F',RX,C8.eqv e,h1⟩) (h Pb Kb a w F Q hs)
def xQ(A:AS)(ρ:m7->m7)(H:List (Nat×(Nat×V)))(q gq:Nat)(vq:V):List (Nat×Nat)->Prop
 | []=>True
 | (k,q')::r=>(match lk k H with
    | some (g,v)=>(match q'==q with
      | true=>(g,v.RC ρ)=(gq,vq)
      | false=>(match lk q' A.h with
        | some (g2,v2)=>(g,v.RC ρ)=(g2,v2)
        | none=>False))
    | none=>False)/\xQ A ρ H q gq vq r
theorem zP{ρ:m7->m7}{H:List (Nat×(Nat×V))}{q gq:Nat}{vq:V}:∀ {ks:List (Nat×Nat)} {k q':Nat},xQ A ρ H q gq vq ks->(k,q')∈ks->(lk k H).map (fun gv=>(gv.1,gv.2.RC ρ))=if q'=q then some (gq,vq) else lk q' A.h
 | [],_,_,_,h=>by simp at h
 | (k0,q0)::ks,k,q',h,hm=>by
   rcases List.mem_cons.1 hm with e | hm;cases e;have h1:=h.1;split at h1;rename_i g v hk;rw[hk];split at h1;rename_i e;rw[if_pos Zb3];simp only[Option.map_some,Zan];exact h1;rename_i e;rw[if_neg Zb3];split at h1;rename_i g2 v2 e2;rw[e2];simp only[Option.map_some,Zan];exact h1;exact h1.elim;exact h1.elim;exact zP h.2 hm
theorem Ih{H:List (Nat×(Nat×V))}{q gq:Nat}{vq:V}{ks:List (Nat×Nat)}(h1:Qt (ks.map (·.1))=true)(hn:Qt (ks.map (·.2))=true)(h:xQ A (kI ks) H q gq vq ks)(hq:q∈ks.map (·.2))(k:Nat):
 lk k (A.back ks H).h=if k=q then some (gq,vq) else lk k A.h:=by
 by_cases hk:k∈ks.map (·.2);obtain⟨⟨k0,q0⟩,hm,rfl⟩:=List.mem_map.1 hk;have hs:lk q0 (RP ks)=some k0:=(qo h1 hn).1 (pM h1 hm);have:=zP h hm;simp only[AS.back];rw[mB,qT hn,hs];simp only[Option.bind_some];rw[this];split;rename_i v e;rw[<- e];rename_i e;split at e;cases e;rename_i hne;rw[jl,hs,if_neg hne,e];rfl;rw[Dv hn hk,if_neg (by rintro rfl;exact hk hq)]
def ceE(c:W7 P)(ks:List (Nat×Nat))(q gq:Nat)(vq:V):Eu P where
 X:=Unit
 pre N o A Sl Hl:=match o.op,o.dst with
  | .call ⟨.value fx,xs,_⟩,some d=>match A.ev fx,A.tk xs.toList with
    | .lit (.func (.func f) first C6),(vs,_)=>match f==c.f&&Nat.blt d N&&Qt (ks.map (·.1))&&Qt (ks.map (·.2))&&c.args.length==(first.toList.map cV++vs++C6.toList.map cV).length&&(fI A xs.toList).isEmpty&&Sl.contains d&&Hl.contains q&&(ks.map (·.2)).contains q with
      | true=>QA (first.toList.map cV++vs++C6.toList.map cV) c.args=c.args/\oY A ks c.H (c.pre/\xQ A (kI ks) c.H' q gq vq ks)
      | false=>False
    | _,_=>False
  | _,_=>False
 U o _ _ B:=⟨(B.put o.dst (c.res.RC (kI ks))).t,(q,(gq,vq))::B.h⟩
 V0:=by
  rintro N ⟨dst,op,ty,pos,after,E9⟩ A Sl Hl hp fs;simp only at hp;split at hp;rename_i fx xs Pt d;split at hp;rename_i f first C6 vs A2 e1 e2
  split at hp;rename_i e3;simp only[Zao,Zbi,Zbk]at e3;have hd:d∈Sl:=e3.1.1.2;have hq:q∈Hl:=e3.1.2;refine⟨fun g B t ht=>?_,fun g B k hk=>?_,fun g B B' hB=>?_,fun g B q2 v' hq2 _=>?_,fun g B k gv hk=>?_⟩;show (B.put (some d) _).get t=_;rw[AS.aO,if_neg (fun c=>ht (by rw[c];exact hd))];simp only[lk];rw[if_neg (fun c=>hk (by rw[c];exact hq))];refine⟨fun t=>?_,fun k=>?_⟩;show (B.put (some d) _).get t=(B'.put (some d) _).get t;rw[AS.aO,AS.aO,hB.1 t];simp only[lk,hB.2 k];refine⟨fun t=>?_,fun k=>rfl⟩;show ((B.put (some q2) v').put (some d) _).get t=((B.put (some d) _).put (some q2) v').get t;rw[AS.aO,AS.aO,AS.aO,AS.aO];by_cases c:t=d;subst c;rw[if_pos rfl,if_neg (fun c=>hq2 (by rw[<- c];exact hd)),if_pos rfl];rw[if_neg c,if_neg c];refine⟨fun _=>rfl,fun k2=>?_⟩;simp only[lk];by_cases c:k2=q;subst c;rw[if_pos rfl,if_neg (fun c=>hk (by rw[<- c];exact hq)),if_pos rfl];rw[if_neg c,if_neg c];exact hp.elim;exact hp.elim;exact hp.elim
 ok:=by
  rintro N ⟨dst,op,ty,pos,after,E9⟩ A A' Sl Hl hg hp hA hR;simp only at hg;subst hg;simp only at hp;split at hp;rename_i fx xs Pt d;split at hp;rename_i f first C6 vs A2 e1 e2
  split at hp;rename_i e3;simp only[Zao,Zbi,Zbk,Zbl,List.isEmpty_iff]at e3;obtain⟨⟨⟨⟨⟨⟨⟨⟨rfl,VI⟩,k1⟩,k2⟩,hlen⟩,O7⟩,hd⟩,hq⟩,hqk⟩:=e3;obtain⟨hargs,hrj⟩:=hp;obtain⟨S7,UH,Zi⟩:=jT hrj;have XN:A'.ev fx=A.ev fx:=bK fun t ht=>hA t Zb0;obtain⟨t1,t2⟩:=vI xs.toList (A:=A) (A':=A') fun t ht=>hA t (by simp only[Op.operands,Call.operands];simp;right;simpa using ht);have Wu:=vm xs.toList (A:=A');rw[t2,O7]at Wu;have Yn:(A.tk xs.toList).1=vs:=by rw[e2]
  refine LY (pJ (A:=A') (K:=fun B=>B=((A'.tk xs.toList).2.back ks c.H').put (some d) (c.res.RC (kI ks))) ks rfl (by rw[XN];exact e1) (bP VI) k1 k2 (c.ok UH) (by rw[t1,Yn];exact hargs) (by rw[t1,Yn];exact hlen)
   (nA (fun k _=>(Wu.2 k).trans (hR k)) S7) ?_) ?_
  rintro r H0 ⟨rfl,rfl⟩;rfl;rintro B rfl;refine⟨_,⟨fun t=>?_,fun k=>?_⟩,(),rfl⟩;show (AS.put _ (some d) _).get t=(A'.put (some d) _).get t;rw[AS.aO,AS.aO];split;rfl;exact Wu.1 t;show lk k ((A'.tk xs.toList).2.back ks c.H').h=lk k ((q,(gq,vq))::A'.h);rw[rf (B:=A) (fun k=>(Wu.2 k).trans (hR k)),Ih k1 k2 Zi hqk];simp only[lk,hR k];exact hp.elim;exact hp.elim;exact hp.elim
end
end Go.Proofs.YtngholilfbdfkabGreatDoor