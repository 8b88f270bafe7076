/-
  Words and walks for the laws of pedlar's seat: what each function of the program computes, and that it does; no conditions beyond those that each statement names.
-/
import Derived.Test.YtjkdagkclihpjaaGreatDoorGC
import Derived.Test.YtjkdagkclihpjaaGreatDoorGB
set_option linter.unusedVariables false
set_option linter.unusedSimpArgs false
set_option linter.unnecessarySimpa false
set_option linter.unusedSectionVars false
namespace Go.Proofs.YtjkdagkclihpjaaGreatDoor
open Go Go.RowKit
set_option maxRecDepth 20000
abbrev ff(p0:V):V:=.agg [ p0,bV true]
abbrev fg(p0:List l9)(p1:Bool):V:=.agg [.ow 3 (p0.map aA),bV p1]
theorem HX(gs:List l9)(b:Bool)(g:Nat)(n:BL)(hg:gs.length<=1000)(hn:∀ y,y∈gs->y.na.length<=1000/\y.ru.length<=6):PF Tryz.prog 205 [kp 1000 g,.lit (.iface 245 (.agg #[.string (Str n)]))] [(1000,(g,fg gs b))] (fun r h=>r=(.tup [])/\h=[(1000,(g,fg ((lR gs b n).1) ((lR gs b n).2)))]):=by
 refine au Tryz.func205
  (.oR (.key 1000) [0] (fun gr fr cr=>.q 1<|.cu (Y6 (.agg [sV n])) (fun _=>.q 3<|.al mu (fun g4=>.st none<|.q 1<|.q 2<|.gt<|.q 1<|.gt<|.q 1<|.gt<|.q 1<|.gt<|.n9<|.gt<|.q 1<|.gt<|.q 1<|.gt<|.r 5 [.c9]<|.gt<|.q 2<|.br (.C6 11 [(4,n6 [1000] [34]),(6,n6 [4] [36]),(7,⟨true,[],none,[37],[]⟩),(10,⟨true,[],none,[40],[1000]⟩)]<|.l8 4<|.n9<|.q 1<|.n9<|.eu boE (fun P6=>.bd fC<|.bs<|.ux none (fun H6 H4 K8=>.h (.m9 40 (.own 3 (gs.map aA++[(.agg [.hd (.slot 37) [] 1 P6 0 0 (([n].map sV).length) 1,.sl true [],iN 0]:V)]) H6 H4 K8))<|.q 2<|.h (.Rz (.slot 40) [gs.length,0] H6 (H4+(gs.length)*3+0) 37)<|.h (.m9 40 (.own 3 (gs.map aA++[(.agg [.own 1 ([n].map sV) P6 0 1,.sl true [],iN 0]:V)]) H6 H4 K8))<|.h (.SQ (.slot 40) [gs.length,1] H6 (H4+(gs.length)*3+1) 2)<|.h (.m9 40 (.own 3 (gs.map aA++[(.agg [.own 1 ([n].map sV) P6 0 1,.own 2 ([].map av) 0 0 0,iN 0]:V)]) H6 H4 K8))<|.h (.PN (.slot 40) [gs.length,0] H6 (H4+(gs.length)*3+0) (.own 1 ([n].map sV) P6 0 1) (.ow 1 ([n].map sV)))<|.h (.m9 40 (.own 3 (gs.map aA++[(.agg [.ow 1 ([n].map sV),.own 2 ([].map av) 0 0 0,iN 0]:V)]) H6 H4 K8))<|.h (.PN (.slot 40) [gs.length,1] H6 (H4+(gs.length)*3+1) (.own 2 ([].map av) 0 0 0) (.ow 2 ([].map av)))<|.h (.m9 40 (.own 3 (gs.map aA++[(.agg [.ow 1 ([n].map sV),.ow 2 ([].map av),iN 0]:V)]) H6 H4 K8))<|.h (.m9 40 (.own 3 ((gs++[(⟨[n],[],0⟩:l9)]).map aA) H6 H4 K8))<|.st none<|.q 3<|.st none<|.nil))) (.r 6 [.c9]<|.br (.nil) (.ex (List l9×l9) (fun z=>gs=z.1++[z.2]) (fun (z:List l9×l9)=>(fun y1:V->V=>(.h (.s8 1000 (y1 (fv z.2:V)))<|.C6 10 [(3,n6 [1000] [55]),(7,n6 [1000] [59])]<|.l8 3<|.n9<|.l8 3<|.n9<|.l8 2<|.h (.m9 61 (iN z.1.length))<|.q 2<|.q 1<|.cu (Y6 (.agg [sV n])) (fun _=>.q 2<|.br (.al mu (fun g7=>.st none<|.Ra (.key 1000) [0,0+z.1.length,0] gr (fr+(0+z.1.length)*3+0) 1 (z.2.na.map sV) (fun gA oA cA=>.h (.s8 1000 (y1 (oo z.2.na gA oA cA z.2.ru z.2.wa:V)))<|.C6 9 [(4,n6 [1000] [71]),(6,n6 [7] [73]),(8,⟨true,[],none,[75],[1000]⟩)]<|.l8 4<|.r 1 [.own 1 (z.2.na.map sV) gA oA cA]<|.q 1<|.n9<|.bs<|.eu (Yc 1000 [0,0+z.1.length,0] (z.2.na.map sV) ([sV n]:List V) gr (fr+(0+z.1.length)*3+0) 1 gA oA cA) (fun PJ=>.h (.s8 1000 (y1 (.agg [.c9,.ow 2 (z.2.ru.map av),iN z.2.wa]:V)))<|.h (.m9 75 (.own 1 ((z.2.na++[n]).map sV) PJ.1 PJ.2.1 PJ.2.2))<|.q 2<|.st (some (.c9))<|.h (.s8 1000 (y1 (oo (z.2.na++[n]) PJ.1 PJ.2.1 PJ.2.2 z.2.ru z.2.wa:V)))<|.h (.PN (.key 1000) [0,0+z.1.length,0] gr (fr+(0+z.1.length)*3+0) (.own 1 ((z.2.na++[n]).map sV) PJ.1 PJ.2.1 PJ.2.2) (.ow 1 ((z.2.na++[n]).map sV)))<|.h (.s8 1000 (y1 (iq (z.2.na++[n]) z.2.ru z.2.wa:V)))<|.h (.s8 1000 (.agg [.own 3 ((z.1++[(⟨z.2.na++[n],z.2.ru,z.2.wa⟩:l9)]).map aA) gr fr cr,bV b]))<|.nil)))) (.nil)):Sc Tryz.prog)) (fun r:V=>(.agg [.own 3 (z.1.map aA++[r]) gr fr cr,bV b])))))))))
  ((fun (v6 v4 v3:V) (v5:List V) (v2:Nat) (v1:Bool)=>(∀ gr fr cr:Nat,((∃ td,Tryz.prog.underlying 245=some td/\∀ i,td≠.interface i)/\((245:Nat)=245)/\((.agg #[.string (Str n)]:Value)=.agg #[.string (Str n)]))/\∀ _:Unit,∀ g4:Nat,Z g4 0/\(true=true)/\(true=true)/\True/\(true=true)/\(true=true)/\Z g 0/\(true=true)/\(true=true)/\(true=true)/\Gd (v1==false) True/\Gd (v1==false) (Z g 1)/\(true=true)/\Pk v1 true (v1==false)/\Pk true true true/\Br (true&&(v1||b)) (True/\Z g 0/\Z g4 0/\True/\∀ P6:Nat,(fun (v10 v9 v8:V) (v7:List V)=>(((3,3,gr,fr,cr,(gs.map aA).length)=(3,3,gr,fr,cr,(gs.map aA).length))/\(V.ax v7=false)/\(aR 3 v7)/\(((gs.map aA).length+v7.length)*56<=140737488355328))/\∀ H6 H4 K8:Nat,(fun v11:V->V=>((.own 3 ((gs.map aA)++v7) H6 H4 K8:V)=.own 3 (gs.map aA++[v9]) H6 H4 K8)/\True/\(V.at H6 H4 (v11 v9) [gs.length,0]=some (H6,H4+(gs.length)*3+0,.hd (.slot 37) [] 1 P6 0 0 v2 1))/\(V.set (v11 v9) [gs.length,0] (.own 1 ([n].map sV) P6 0 1)=.own 3 (gs.map aA++[v10]) H6 H4 K8)/\(V.at H6 H4 (v11 v10) [gs.length,1]=some (H6,H4+(gs.length)*3+1,.sl true []))/\(V.set (v11 v10) [gs.length,1] (.own 2 ([].map av) 0 0 0)=.own 3 (gs.map aA++[v8]) H6 H4 K8)/\(V.at H6 H4 (v11 v8) [gs.length,0]=some (H6,H4+(gs.length)*3+0,.own 1 ([n].map sV) P6 0 1))/\(V.set (v11 v8) [gs.length,0] (.ow 1 ([n].map sV))=.own 3 (gs.map aA++[v3]) H6 H4 K8)/\(V.at H6 H4 (v11 v3) [gs.length,1]=some (H6,H4+(gs.length)*3+1,.own 2 ([].map av) 0 0 0))/\(V.set (v11 v3) [gs.length,1] (.ow 2 ([].map av))=.own 3 (gs.map aA++[v6]) H6 H4 K8)/\((.own 3 (gs.map aA++[v6]) H6 H4 K8:V)=.own 3 ((gs++[(⟨[n],[],0⟩:l9)]).map aA) H6 H4 K8)/\Z g 0/\True/\Z g 1/\Q (.tup []) (.tup [])/\Qr g (.agg [.ow 3 ((gs++[(⟨[n],[],0⟩:l9)]).map aA),bV false]) g v4) (fun r:V=>(.own 3 (gs.map aA++[r]) H6 H4 K8))) (.agg [.own 1 ([n].map sV) P6 0 1,.sl true [],iN 0]:V) (.agg [.hd (.slot 37) [] 1 P6 0 0 v2 1,.sl true [],iN 0]:V) (.agg [.own 1 ([n].map sV) P6 0 1,.own 2 ([].map av) 0 0 0,iN 0]:V) ([.agg [.hd (.slot 37) [] 1 P6 0 0 v2 1,.sl true [],iN 0]]:List V)) (True/\Z g 0/\Br v1 (Q (.tup []) (.tup [])/\Qr g (fg gs b) g v4) ((∃ z:List l9×l9,gs=z.1++[z.2])/\∀ z:List l9×l9,(gs=z.1++[z.2])->(fun (D3 z7:List V) (D5 x2:V) (v12:V->V)=>((.agg [.own 3 (gs.map aA) gr fr cr,bV b]:V)=(v12 D5))/\True/\Z g 0/\True/\Z g 0/\m6 ((((z.1.map aA++[D5]).length:Nat):Int)-1)/\Q (iV ((((z.1.map aA++[D5]).length:Nat):Int)-1)) (iN z.1.length)/\In (z.1.length:Int) ((z.1.map aA++[D5]).length)/\((∃ td,Tryz.prog.underlying 245=some td/\∀ i,td≠.interface i)/\((245:Nat)=245)/\((.agg #[.string (Str n)]:Value)=.agg #[.string (Str n)]))/\∀ _:Unit,Br true (∀ g7:Nat,Z g7 0/\(V.at g 0 (v12 D5) [0,0+z.1.length,0]=some (gr,fr+(0+z.1.length)*3+0,.ow 1 z7))/\∀ gA oA cA:Nat,(fun D':V=>(V.set (v12 D5) [0,0+z.1.length,0] (.own 1 z7 gA oA cA)=(v12 D'))/\True/\(V.at g 0 (v12 D') [0,0+z.1.length,0]=some (gr,(fr+(0+z.1.length)*3+0),.own 1 z7 gA oA cA))/\Z g7 0/\(v5=v5/\((.hd (.key 1000) [0,0+z.1.length,0] 1 gA oA 0 (z7.length) cA:V)=.hd (.key 1000) [0,0+z.1.length,0] 1 gA oA 0 (z7.length) cA)/\(V.at g 0 (v12 D') [0,0+z.1.length,0]=some (gr,fr+(0+z.1.length)*3+0,.own 1 z7 gA oA cA))/\((1:Nat)=1)/\(V.ax v5=false)/\(aR 1 v5)/\((z7.length+v5.length)*16<=140737488355328))/\∀ PJ:Nat×Nat×Nat,(fun E':V=>(V.set (v12 D') [0,0+z.1.length,0] (.c9)=(v12 x2))/\((.own 1 (z7++v5) PJ.1 PJ.2.1 PJ.2.2:V)=.own 1 D3 PJ.1 PJ.2.1 PJ.2.2)/\True/\(V.at g 0 (v12 x2) [0,0+z.1.length,0]=some (gr,(fr+(0+z.1.length)*3+0),.c9))/\(V.set (v12 x2) [0,0+z.1.length,0] (.own 1 D3 PJ.1 PJ.2.1 PJ.2.2)=(v12 E'))/\(V.at g 0 (v12 E') [0,0+z.1.length,0]=some (gr,fr+(0+z.1.length)*3+0,.own 1 D3 PJ.1 PJ.2.1 PJ.2.2))/\(V.set (v12 E') [0,0+z.1.length,0] (.ow 1 D3)=(v12 (iq (z.2.na++[n]) z.2.ru z.2.wa:V)))/\((.agg [.own 3 (z.1.map aA++[(iq (z.2.na++[n]) z.2.ru z.2.wa:V)]) gr fr cr,bV b]:V)=.agg [.own 3 ((z.1++[(⟨z.2.na++[n],z.2.ru,z.2.wa⟩:l9)]).map aA) gr fr cr,bV b])/\Q (.tup []) (.tup [])/\Qr g (fg (z.1++[(⟨z.2.na++[n],z.2.ru,z.2.wa⟩:l9)]) b) g v4) (oo (z.2.na++[n]) PJ.1 PJ.2.1 PJ.2.2 z.2.ru z.2.wa:V)) (oo z.2.na gA oA cA z.2.ru z.2.wa:V)) (False)) ((z.2.na++[n]).map sV) (z.2.na.map sV) (fv z.2:V) (.agg [.c9,.ow 2 (z.2.ru.map av),iN z.2.wa]:V) (fun r:V=>(.agg [.own 3 (z.1.map aA++[r]) gr fr cr,bV b])))))) (.agg [.ow 1 ([n].map sV),.ow 2 ([].map av),iN 0]:V) (fg ((lR gs b n).1) ((lR gs b n).2)) (.agg [.ow 1 ([n].map sV),.own 2 ([].map av) 0 0 0,iN 0]:V) ([sV n]:List V) (([n].map sV).length) (o6 (((gs.map aA).length:Nat):Int) 0)) ?_
 intro gr fr cr;refine⟨⟨⟨_,Tryz.underlying245,Zdq⟩,ak⟩,fun _=>fun g4=>zk (fY (bI (fun j8=>?_) fun j8=>?_))⟩;refine cF fun P6=>⟨ak,fun H6 H4 K8=>⟨Zbm (V.own 3 · H6 H4 K8) (rfl),trivial,Zdb,Zdc,Zdb,Zdc,Zdb,Zdc,Zdb,Zdc,Zbm (V.own 3 · H6 H4 K8) (by rw[Zbb (f:=aA)];rfl),aY ⟨?_,by rw[show lR gs b n=(gs++[⟨[n],[],0⟩],false) from if_pos (j8.imp (fun h=>Za5 Zbq) id)]⟩⟩⟩;rfl
 · refine aS (bI (fun l4=>?_) fun l4=>?_)
   · all_goals (simp_all)
   · refine⟨ka (hZ Zac),fun z hz=>?_⟩;have Sy:=hn z.2 (by rw[hz];simp);have WN:gs.length=z.1.length+1:=by rw[hz];simp
     refine⟨Zdr,eh ⟨Zds,ah ⟨⟨⟨_,Tryz.underlying245,Zdq⟩,ak⟩,?_⟩⟩⟩;intro _;refine bI (fun m8=>?_) fun m8=>?_;intro g7;refine⟨rfl,Zdt,fun gA oA cA=>⟨Zdu,trivial,Zdt,rfl,⟨rfl,rfl,Zdt,ak⟩,fun PJ=>⟨Zdu,Zbm (V.own 1 · PJ.1 PJ.2.1 PJ.2.2) Zad,trivial,Zdt,Zdu,Zdt,Zdu,Zdv,⟨?_,by rw[show lR gs b n=(z.1++[⟨z.2.na++[n],z.2.ru,z.2.wa⟩],b) from by rw[lR,if_neg (by rintro (h | h) <;> simp_all),hz,eI]]⟩⟩⟩⟩;rfl
     · all_goals (first | exact absurd m8 Zaf | simp_all)
theorem HG(gs:List l9)(b:Bool)(g:Nat)(l:Bool)(p:BL)(hg:gs.length<=1000)(hn:∀ y,y∈gs->y.na.length<=1000/\y.ru.length<=6):PF Tryz.prog 205 [kp 1000 g,.lit (.iface 247 (.agg #[.bool l,.string (Str p)]))] [(1000,(g,fg gs b))] (fun r h=>r=(.tup [])/\h=[(1000,(g,fg ((js gs b l p).1) ((js gs b l p).2)))]):=by
 refine au Tryz.func205
  (.oR (.key 1000) [0] (fun gr fr cr=>.q 1<|.cu (Yl mu) (fun _=>.q 3<|.al mu (fun g4=>.st none<|.q 1<|.q 2<|.gf (.c9)<|.gf (.c9)<|.gf (.c9)<|.gf (.c9)<|.gf (.c9)<|.gf (bV false)<|.gf (bV false)<|.gf (.c9)<|.gf (.c9)<|.gf (.c9)<|.gf (bV false)<|.gf (bV false)<|.q 1<|.br (.nil) (.r 6 [.c9]<|.br (.nil) (.ex (List l9×l9) (fun z=>gs=z.1++[z.2]) (fun (z:List l9×l9)=>(fun (y3 y2:List V) (y1:V->V)=>(.h (.s8 1000 (.agg [.own 3 (z.1.map aA++[(fv z.2:V)]) gr fr cr,bV b]))<|.C6 10 [(3,n6 [1000] [55]),(7,n6 [1000] [59])]<|.l8 3<|.n9<|.l8 3<|.n9<|.l8 2<|.h (.m9 61 (iN z.1.length))<|.q 2<|.q 1<|.cu (Yl mu) (fun _=>.q 2<|.br (.nil) (.cu (Y6 (.agg [eB l p])) (fun _=>.q 2<|.br (.al Db (fun g8=>.st none<|.q 3<|.st none<|.Ra (.key 1000) [0,0+z.1.length,1] gr (fr+(0+z.1.length)*3+1) 2 y3 (fun gA oA cA=>.h (.s8 1000 (y1 (mC z.2.na z.2.ru gA oA cA z.2.wa:V)))<|.r 6 [.own 2 y3 gA oA cA]<|.br (.C6 9 [(4,n6 [1000] [94]),(6,n6 [8] [96]),(8,⟨true,[],none,[98],[1000]⟩)]<|.l8 4<|.r 1 [.own 2 y3 gA oA cA]<|.q 1<|.n9<|.bs<|.eu (Yc 1000 [0,0+z.1.length,1] y3 ([eB l p]:List V) gr (fr+(0+z.1.length)*3+1) 2 gA oA cA) (fun PI=>.h (.s8 1000 (y1 (.agg [.ow 1 (z.2.na.map sV),.c9,iN z.2.wa]:V)))<|.h (.m9 98 (.own 2 y2 PI.1 PI.2.1 PI.2.2))<|.q 2<|.st (some (.c9))<|.h (.s8 1000 (ff (.own 3 (z.1.map aA++[(mC z.2.na (z.2.ru++[(⟨l,p⟩:r9)]) PI.1 PI.2.1 PI.2.2 z.2.wa:V)]) gr fr cr)))<|.h (.PN (.key 1000) [0,0+z.1.length,1] gr (fr+(0+z.1.length)*3+1) (.own 2 y2 PI.1 PI.2.1 PI.2.2) (.ow 2 y2))<|.h (.s8 1000 (y1 (iq z.2.na (z.2.ru++[(⟨l,p⟩:r9)]) z.2.wa:V)))<|.h (.s8 1000 (.agg [.own 3 ((z.1++[(⟨z.2.na,z.2.ru++[⟨l,p⟩],z.2.wa⟩:l9)]).map aA) gr fr cr,bV true]))<|.nil)) (.h (.PN (.key 1000) [0,0+z.1.length,1] gr (fr+(0+z.1.length)*3+1) (.own 2 y3 gA oA cA) (.ow 2 y3))<|.h (.s8 1000 (y1 (fv z.2:V)))<|.h (.s8 1000 (.agg [.own 3 ((z.1++[z.2]).map aA) gr fr cr,bV true]))<|.nil)))) (.nil)))):Sc Tryz.prog)) (z.2.ru.map av) ((z.2.ru++[(⟨l,p⟩:r9)]).map av) (fun r:V=>(ff (.own 3 (z.1.map aA++[r]) gr fr cr))))))))))
  ((fun (v3:V) (v2:List V) (v1:r9)=>(∀ gr fr cr:Nat,((∃ td,Tryz.prog.underlying 245=some td/\∀ i,td≠.interface i)/\((247:Nat)≠245)/\(∃ y,(.agg [sV []]:V).val? =some y/\∀ w,(zeroValue 245).run Tryz.prog w=.ok y w))/\∀ _:Unit,∀ g4:Nat,Z g4 0/\(false=false)/\(false=false)/\(false=false)/\(false=false)/\(false=false)/\(false=false)/\(false=false)/\(false=false)/\(false=false)/\(false=false)/\(false=false)/\(false=false)/\Pk false false true/\Br (false&&false) (False) (True/\Z g 0/\Br (o6 (((gs.map aA).length:Nat):Int) 0) (Q (.tup []) (.tup [])/\Qr g (fg gs b) g v3) ((∃ z:List l9×l9,gs=z.1++[z.2])/\∀ z:List l9×l9,(gs=z.1++[z.2])->(fun (v9 v8 v5:List V) (v7 v6:V) (v4:V->V)=>((.agg [.own 3 (gs.map aA) gr fr cr,bV b]:V)=.agg [.own 3 (z.1.map aA++[v6]) gr fr cr,bV b])/\True/\Z g 0/\True/\Z g 0/\m6 ((((z.1.map aA++[v6]).length:Nat):Int)-1)/\Q (iV ((((z.1.map aA++[v6]).length:Nat):Int)-1)) (iN z.1.length)/\In (z.1.length:Int) ((z.1.map aA++[v6]).length)/\((∃ td,Tryz.prog.underlying 245=some td/\∀ i,td≠.interface i)/\((247:Nat)≠245)/\(∃ y,(.agg [sV []]:V).val? =some y/\∀ w,(zeroValue 245).run Tryz.prog w=.ok y w))/\∀ _:Unit,Br false (False) (((∃ td,Tryz.prog.underlying 247=some td/\∀ i,td≠.interface i)/\((247:Nat)=247)/\((.agg #[.bool l,.string (Str p)]:Value)=.agg #[.bool l,.string (Str p)]))/\∀ _:Unit,Br true (∀ g8:Nat,Z g8 0/\True/\Z g 1/\(V.at g 0 (ff (v4 v6)) [0,0+z.1.length,1]=some (gr,fr+(0+z.1.length)*3+1,.ow 2 v5))/\∀ gA oA cA:Nat,(fun v10:V=>(fun (v12 v11:Prop)=>(V.set (ff (v4 v6)) [0,0+z.1.length,1] (.own 2 v5 gA oA cA)=ff (v4 (mC z.2.na z.2.ru gA oA cA z.2.wa:V)))/\True/\v11/\Br (r5 ((v5.length:Nat):Int) 6) (True/\v11/\Z g8 0/\(v2=v2/\((.hd (.key 1000) [0,0+z.1.length,1] 2 gA oA 0 (v5.length) cA:V)=.hd (.key 1000) [0,0+z.1.length,1] 2 gA oA 0 (v5.length) cA)/\v12/\((2:Nat)=2)/\(V.ax v2=false)/\(aR 2 v2)/\((v5.length+v2.length)*24<=140737488355328))/\∀ PI:Nat×Nat×Nat,(fun x2:V=>(V.set v10 [0,0+z.1.length,1] (.c9)=ff (v4 v7))/\((.own 2 (v5++v2) PI.1 PI.2.1 PI.2.2:V)=.own 2 v8 PI.1 PI.2.1 PI.2.2)/\True/\(V.at g 0 (ff (v4 v7)) [0,0+z.1.length,1]=some (gr,(fr+(0+z.1.length)*3+1),.c9))/\(V.set (ff (v4 v7)) [0,0+z.1.length,1] (.own 2 v8 PI.1 PI.2.1 PI.2.2)=ff x2)/\(V.at g 0 (ff x2) [0,0+z.1.length,1]=some (gr,fr+(0+z.1.length)*3+1,.own 2 v8 PI.1 PI.2.1 PI.2.2))/\(V.set (ff x2) [0,0+z.1.length,1] (.ow 2 v8)=ff (v4 (iq z.2.na (z.2.ru++[v1]) z.2.wa:V)))/\((ff (v4 (iq z.2.na (z.2.ru++[v1]) z.2.wa:V)):V)=.agg [.own 3 v9 gr fr cr,bV true])/\Q (.tup []) (.tup [])/\Qr g (.agg [.ow 3 v9,bV true]) g v3) (.own 3 (z.1.map aA++[(mC z.2.na (z.2.ru++[v1]) PI.1 PI.2.1 PI.2.2 z.2.wa:V)]) gr fr cr)) (v12/\(V.set v10 [0,0+z.1.length,1] (.ow 2 v5)=ff (v4 v6))/\((ff (v4 v6):V)=.agg [.own 3 ((z.1++[z.2]).map aA) gr fr cr,bV true])/\Q (.tup []) (.tup [])/\Qr g (.agg [.ow 3 ((z.1++[z.2]).map aA),bV true]) g v3)) (V.at g 0 v10 [0,0+z.1.length,1]=some (gr,fr+(0+z.1.length)*3+1,.own 2 v5 gA oA cA)) (V.at g 0 v10 [0,0+z.1.length,1]=some (gr,(fr+(0+z.1.length)*3+1),.own 2 v5 gA oA cA))) (ff (v4 (mC z.2.na z.2.ru gA oA cA z.2.wa:V)))) (False))) ((z.1++[(⟨z.2.na,z.2.ru++[⟨l,p⟩],z.2.wa⟩:l9)]).map aA) ((z.2.ru++[v1]).map av) (z.2.ru.map av) (.agg [.ow 1 (z.2.na.map sV),.c9,iN z.2.wa]:V) (fv z.2:V) (fun r:V=>(.own 3 (z.1.map aA++[r]) gr fr cr)))))) (fg ((js gs b l p).1) ((js gs b l p).2)) ([eB l p]:List V) (⟨l,p⟩:r9)) ?_
 intro gr fr cr;refine⟨⟨⟨_,Tryz.underlying245,Zdq⟩,Zaf,_,rfl,Tryz.zeroValue245⟩,fun _=>fun g4=>lx (fY (bI (fun j8=>?_) fun j8=>?_))⟩
 · all_goals (first | exact absurd j8 Zaf | simp_all)
 · refine aS (bI (fun l4=>?_) fun l4=>?_);refine⟨?_,by rw[show js gs b l p=(gs,b) from if_pos (Za5 Zac)]⟩;rfl
   · refine⟨ka (hZ Zac),fun z hz=>?_⟩;have Sy:=hn z.2 (by rw[hz];simp);have WN:gs.length=z.1.length+1:=by rw[hz];simp
     refine⟨Zdr,eh ⟨Zds,ah ⟨⟨⟨_,Tryz.underlying245,Zdq⟩,Zaf,_,rfl,Tryz.zeroValue245⟩,?_⟩⟩⟩;intro _;refine bI (fun m8=>?_) fun m8=>?_
     · all_goals (first | exact absurd m8 Zaf | simp_all)
     · refine⟨⟨⟨_,Tryz.underlying247,Zdq⟩,ak⟩,fun _=>bI (fun w6=>?_) fun w6=>?_⟩;intro g8;refine aY ⟨Zdt,fun gA oA cA=>⟨Zdu,trivial,Zdt,bI (fun D1=>?_) fun D1=>?_⟩⟩;refine⟨trivial,Zdt,rfl,⟨rfl,rfl,Zdt,ak⟩,fun PI=>⟨Zdu,Zbm (V.own 2 · PI.1 PI.2.1 PI.2.2) Zad,trivial,Zdt,Zdu,Zdt,Zdu,Zdv,⟨?_,by rw[show js gs b l p=(z.1++[⟨z.2.na,z.2.ru++[⟨l,p⟩],z.2.wa⟩],true) from by rw[js,if_neg (by rintro h;simp_all),if_pos (by rw[hz,ic];omega),hz,eI]]⟩⟩⟩;rfl;refine⟨Zdt,Zdu,Zdv,⟨?_,by rw[show js gs b l p=(z.1++[z.2],true) from by rw[js,if_neg (by rintro h;simp_all),if_neg (by rw[hz,ic];omega),hz]]⟩⟩;rfl
       · all_goals (first | exact absurd w6 Zaf | simp_all)
theorem Gp(gs:List l9)(b:Bool)(g v:Nat)(hg:gs.length<=1000)(hn:∀ y,y∈gs->y.na.length<=1000/\y.ru.length<=6):PF Tryz.prog 205 [kp 1000 g,.lit (.iface 249 (.agg #[.int .i64 (v:Int)]))] [(1000,(g,fg gs b))] (fun r h=>r=(.tup [])/\h=[(1000,(g,fg ((lT gs b v).1) ((lT gs b v).2)))]):=by
 refine au Tryz.func205
  (.oR (.key 1000) [0] (fun gr fr cr=>.q 1<|.cu (Yl mu) (fun _=>.q 3<|.al mu (fun g4=>.st none<|.q 1<|.q 2<|.gf (.c9)<|.gf (.c9)<|.gf (.c9)<|.gf (.c9)<|.gf (.c9)<|.gf (bV false)<|.gf (bV false)<|.gf (.c9)<|.gf (.c9)<|.gf (.c9)<|.gf (bV false)<|.gf (bV false)<|.q 1<|.br (.nil) (.r 6 [.c9]<|.br (.nil) (.ex (List l9×l9) (fun z=>gs=z.1++[z.2]) (fun (z:List l9×l9)=>.h (.s8 1000 (.agg [.own 3 (z.1.map aA++[(fv z.2:V)]) gr fr cr,bV b]))<|.C6 10 [(3,n6 [1000] [55]),(7,n6 [1000] [59])]<|.l8 3<|.n9<|.l8 3<|.n9<|.l8 2<|.h (.m9 61 (iN z.1.length))<|.q 2<|.q 1<|.cu (Yl mu) (fun _=>.q 2<|.br (.nil) (.cu (Yl Db) (fun _=>.q 2<|.br (.nil) (.cu (Y6 (.agg [iN v])) (fun _=>.q 2<|.br (.al IV (fun g9=>.st none<|.q 3<|.st none<|.r 5 [.c9]<|.st (some (iN z.2.wa))<|.h (.s8 1000 (ff (.own 3 (z.1.map aA++[(iq z.2.na z.2.ru v:V)]) gr fr cr)))<|.h (.s8 1000 (.agg [.own 3 ((z.1++[(⟨z.2.na,z.2.ru,v⟩:l9)]).map aA) gr fr cr,bV true]))<|.nil)) (.nil)))))))))))))
  ((fun v1:V=>(∀ gr fr cr:Nat,((∃ td,Tryz.prog.underlying 245=some td/\∀ i,td≠.interface i)/\((249:Nat)≠245)/\(∃ y,(.agg [sV []]:V).val? =some y/\∀ w,(zeroValue 245).run Tryz.prog w=.ok y w))/\∀ _:Unit,∀ g4:Nat,Z g4 0/\(false=false)/\(false=false)/\(false=false)/\(false=false)/\(false=false)/\(false=false)/\(false=false)/\(false=false)/\(false=false)/\(false=false)/\(false=false)/\(false=false)/\Pk false false true/\Br (false&&false) (False) (True/\Z g 0/\Br (o6 (((gs.map aA).length:Nat):Int) 0) (Q (.tup []) (.tup [])/\Qr g (fg gs b) g v1) ((∃ z:List l9×l9,gs=z.1++[z.2])/\∀ z:List l9×l9,(gs=z.1++[z.2])->(fun (v4:List V) (v3 v2:V)=>((.agg [.own 3 (gs.map aA) gr fr cr,bV b]:V)=.agg [.own 3 (z.1.map aA++[v2]) gr fr cr,bV b])/\True/\Z g 0/\True/\Z g 0/\m6 ((((z.1.map aA++[v2]).length:Nat):Int)-1)/\Q (iV ((((z.1.map aA++[v2]).length:Nat):Int)-1)) (iN z.1.length)/\In (z.1.length:Int) ((z.1.map aA++[v2]).length)/\((∃ td,Tryz.prog.underlying 245=some td/\∀ i,td≠.interface i)/\((249:Nat)≠245)/\(∃ y,(.agg [sV []]:V).val? =some y/\∀ w,(zeroValue 245).run Tryz.prog w=.ok y w))/\∀ _:Unit,Br false (False) (((∃ td,Tryz.prog.underlying 247=some td/\∀ i,td≠.interface i)/\((249:Nat)≠247)/\(∃ y,(.agg [.agg [bV false,sV []]]:V).val? =some y/\∀ w,(zeroValue 247).run Tryz.prog w=.ok y w))/\∀ _:Unit,Br false (False) (((∃ td,Tryz.prog.underlying 249=some td/\∀ i,td≠.interface i)/\((249:Nat)=249)/\((.agg #[.int .i64 (v:Int)]:Value)=.agg #[.int .i64 (v:Int)]))/\∀ _:Unit,Br true (∀ g9:Nat,Z g9 0/\True/\Z g 1/\Z g9 0/\True/\(V.at g 0 (ff (.own 3 (z.1.map aA++[v2]) gr fr cr)) [0,0+z.1.length,2]=some (gr,(fr+(0+z.1.length)*3+2),iN z.2.wa))/\(V.set (ff (.own 3 (z.1.map aA++[v2]) gr fr cr)) [0,0+z.1.length,2] (iN v)=ff v3)/\((ff v3:V)=.agg [.own 3 v4 gr fr cr,bV true])/\Q (.tup []) (.tup [])/\Qr g (.agg [.ow 3 v4,bV true]) g v1) (Q (.tup []) (.tup [])/\Qr g (.agg [.ow 3 (z.1.map aA++[v2]),bV b]) g v1)))) ((z.1++[(⟨z.2.na,z.2.ru,v⟩:l9)]).map aA) (.own 3 (z.1.map aA++[(iq z.2.na z.2.ru v:V)]) gr fr cr) (fv z.2:V))))) (fg ((lT gs b v).1) ((lT gs b v).2))) ?_
 intro gr fr cr;refine⟨⟨⟨_,Tryz.underlying245,Zdq⟩,Zaf,_,rfl,Tryz.zeroValue245⟩,fun _=>fun g4=>lx (fY (bI (fun j8=>?_) fun j8=>?_))⟩
 · all_goals (first | exact absurd j8 Zaf | simp_all)
 · refine aS (bI (fun l4=>?_) fun l4=>?_);refine⟨?_,by rw[show lT gs b v=(gs,b) from if_pos (Za5 Zac)]⟩;rfl
   · refine⟨ka (hZ Zac),fun z hz=>?_⟩;have Sy:=hn z.2 (by rw[hz];simp);have WN:gs.length=z.1.length+1:=by rw[hz];simp
     refine⟨Zdr,eh ⟨Zds,ah ⟨⟨⟨_,Tryz.underlying245,Zdq⟩,Zaf,_,rfl,Tryz.zeroValue245⟩,?_⟩⟩⟩;intro _;refine bI (fun m8=>?_) fun m8=>?_
     · all_goals (first | exact absurd m8 Zaf | simp_all)
     · refine⟨⟨⟨_,Tryz.underlying247,Zdq⟩,Zaf,_,rfl,Tryz.zeroValue247⟩,fun _=>bI (fun w6=>?_) fun w6=>?_⟩
       · all_goals (first | exact absurd w6 Zaf | simp_all)
       · refine⟨⟨⟨_,Tryz.underlying249,Zdq⟩,ak⟩,fun _=>bI (fun D1=>?_) fun D1=>?_⟩;intro g9;refine eh ⟨Zdt,Zdu,Zdv,⟨?_,by rw[show lT gs b v=(z.1++[⟨z.2.na,z.2.ru,v⟩],true) from by rw[lT,if_neg (by rintro h;simp_all),hz,eI]]⟩⟩;rfl
         · all_goals (first | exact absurd D1 Zaf | simp_all)
def DY(c:UInt8):Bool:=decide (48<=c.toNat/\c.toNat<=57)
theorem BO(s:BL):s.all (fun c=>decide (48<=c.toNat/\c.toNat<=57))=s.all DY:=rfl
abbrev iO(s:BL)(i:Nat)(q:Int):Prop:=i<=s.length/\q=((s.take i).foldl (gU 20) 0)/\(0<=q/\q<=20)/\∀ j,j<i->DY (s.getD j 0)=true
def vG(s:BL):aw:=.mk 219 [sV s] [] (s.length<=1000000) (iV (ey s 20)) [] (by
 intro hs
 refine au Tryz.func219
  (.l8 3<|.loop (Nat×Int) (fun (i,q)=>⟨[(0,sV s),(3,iV q),(4,iN i)],[]⟩) (fun (i,q)=>iO s i q) (fun (i,q)=>s.length-i) (fun (i,q)=>.q 4<|.br (.q 10<|.br (.q 1<|.nil) (.q 8<|.mm<|.q 1<|.q 3<|.nil)) (.q 2<|.nil)))
  ((∃ x:Nat×Int,match x with | (j7,w9)=>(iO s j7 w9)/\E (sV s)/\Q (iN 0) (iV w9)/\Q (iN 0) (iN j7)/\True)/\∀ x:Nat×Int,match x with | (i,q)=>(iO s i q)->(fun v1:Int=>Br (r5 (i:Int) (s.length:Int)) (Ix (i:Int) s/\Gd ((r5 v1 48)==false) (Ix (i:Int) s)/\Pk (r5 v1 48) true ((r5 v1 48)==false)/\Br ((r5 v1 48)||(s6 v1 57)) (Q (iN 0) (iV (ey s 20))) (m6 (q*10)/\Ix (i:Int) s/\RI (v1-48)/\m6 (v1-48)/\m6 ((q*10)+(v1-48))/\(IntKind.i64=IntKind.i64)/\m6 ((i:Int)+1)/\∃ x:Nat×Int,match x with | (b9,n7)=>(iO s b9 n7)/\(s.length-b9<s.length-i)/\E (sV s)/\Q (iV (min ((q*10)+(v1-48)) 20)) (iV n7)/\Q (iN (i+1)) (iN b9)/\True)) (Q (iV q) (iV (ey s 20)))) (((s.getD i 0).toNat:Nat):Int)) ?_
 refine⟨⟨(0,0),?_,rfl,Zah,ak⟩,?_⟩;unfold iO;simp;rintro⟨i,q⟩ ⟨h1,h2,h3,h4⟩;have hci:=(s.getD i 0).toNat_lt;refine bI (fun j8=>?_) fun j8=>?_;refine aY (bI (fun l4=>?_) fun l4=>?_);rw[show ey s 20=0 from if_neg (by rw[BO,all_false (i:=i) (d:=0) Zac (by unfold DY;rw[decide_eq_false_iff_not];omega)];decide)];rfl;refine aS ⟨Zcb,Zcb,Zcb,aS ⟨(i+1,min ((q*10)+((((s.getD i 0).toNat:Nat):Int)-48)) 20),?_,?_,ak⟩⟩;unfold iO;refine⟨Zac,?_,ah (bg h4 (by unfold DY;rw[Zbk];omega))⟩;rw[foldl_succ (d:=0) Zac,<- h2,gU];exact Zak;rw[show ey s 20=s.foldl (gU 20) 0 from if_pos (by rw[BO];exact all_true (d:=0) (fun j hj=>h4 j Zac)),h2,Zaz Zac])
abbrev fH(t:BL):V:=.tup [.lit (Dz (fE (ab 32 t).1 (ab 32 t).2.1)),bV (iu (ab 32 t).1 (ab 32 t).2.1)]
def vQ(t:BL):aw:=.mk 204 [sV t] [] (t.length<=1000000) (fH t) [] (by
 intro ht;have PU:=kY 32 t
 refine au Tryz.func204
  (.q 2<|.q 1<|.c (nY t 32) []<|.q 7<|.q 1<|.q 2<|.br (.q 1<|.bd mu<|.cu ZR (fun _=>.q 1<|.c (qI ((ab 32 t).2.1)) []<|.q 2<|.nil)) (.q 2<|.join (Bool) (fun c=>⟨[(0,sV t),(2,.lit .nilIface),(3,bV false),(8,sV t),(9,.tup [sV ((ab 32 t).1),sV ((ab 32 t).2.1),bV ((ab 32 t).2.2)]),(7,.tup [sV ((ab 32 t).1),sV ((ab 32 t).2.1),bV ((ab 32 t).2.2)]),(10,sV ((ab 32 t).1)),(11,sV ((ab 32 t).2.1)),(12,bV ((ab 32 t).2.2)),(4,sV ((ab 32 t).1)),(5,sV ((ab 32 t).2.1)),(6,bV ((ab 32 t).2.2)),(13,sV ((ab 32 t).1)),(15,bV (((ab 32 t).1)==([99,97,108,108,101,114]:BL))),(14,bV (((ab 32 t).1)==([99,97,108,108,101,114]:BL))),(22,bV (((ab 32 t).1)==([108,101,116]:BL))),(21,bV c)],[]⟩) (fun c=>c=decide ((ab 32 t).1=[108,101,116]\/(ab 32 t).1=[98,97,114])) (.nil) (.q 2<|.nil) (fun c=>.br (.q 3<|.bd pV<|.bd Db<|.cu ZR (fun _=>.q 1<|.c (ko ((ab 32 t).2.1)) []<|.q 2<|.nil)) (.q 2<|.br (.q 1<|.c (vG ((ab 32 t).2.1)) []<|.bd IV<|.cu ZR (fun _=>.q 2<|.nil)) (.q 2<|.nil)))))
  ((fun (v5 v4 v1:V) (v3 v2:BL)=>((nY t 32).sm/\((t.length<=1000000))/\Br (((ab 32 t).1)==v3) (((∃ td,Tryz.prog.underlying 245=some td/\∀ i,td≠.interface i)/\(Value.iface 245 (.agg #[.string (Str ((ab 32 t).2.1))])).oneCell'=true)/\∀ _:Unit,(qI ((ab 32 t).2.1)).sm/\((((ab 32 t).2.1).length<=4611686018427387904))/\Q (.tup [.lit (.iface 245 (.agg #[.string (Str ((ab 32 t).2.1))])),bV ((((ab 32 t).2.1)==[42])||cB ((ab 32 t).2.1))]) (fH t)) (((((ab 32 t).1)==v2)=true->∃ c:Bool,(c=decide ((ab 32 t).1=[108,101,116]\/(ab 32 t).1=[98,97,114]))/\E (sV t)/\E (.lit .nilIface)/\E (bV false)/\E (sV t)/\E v1/\E v1/\E v4/\E v5/\E (bV ((ab 32 t).2.2))/\E v4/\E v5/\E (bV ((ab 32 t).2.2))/\E v4/\E (bV (((ab 32 t).1)==v3))/\E (bV (((ab 32 t).1)==v3))/\E (bV (((ab 32 t).1)==v2))/\Q (bV (((ab 32 t).1)==v2)) (bV c)/\True)/\((((ab 32 t).1)==v2)=false->∃ c:Bool,(c=decide ((ab 32 t).1=[108,101,116]\/(ab 32 t).1=[98,97,114]))/\E (sV t)/\E (.lit .nilIface)/\E (bV false)/\E (sV t)/\E v1/\E v1/\E v4/\E v5/\E (bV ((ab 32 t).2.2))/\E v4/\E v5/\E (bV ((ab 32 t).2.2))/\E v4/\E (bV (((ab 32 t).1)==v3))/\E (bV (((ab 32 t).1)==v3))/\E (bV (((ab 32 t).1)==v2))/\Q (bV (((ab 32 t).1)==([98,97,114]:BL))) (bV c)/\True)/\(∀ c:Bool,(c=decide ((ab 32 t).1=[108,101,116]\/(ab 32 t).1=[98,97,114]))->Br c (((∃ td,Tryz.prog.underlying 247=some td/\∀ i,td≠.interface i)/\(Value.iface 247 (.agg #[.bool (((ab 32 t).1)==v2),.string (Str ((ab 32 t).2.1))])).oneCell'=true)/\∀ _:Unit,(ko ((ab 32 t).2.1)).sm/\((((ab 32 t).2.1).length<=4611686018427387904))/\Q (.tup [.lit (.iface 247 (.agg #[.bool (((ab 32 t).1)==v2),.string (Str ((ab 32 t).2.1))])),bV (dQ ((ab 32 t).2.1))]) (fH t)) (Br (((ab 32 t).1)==([119,97,105,116]:BL)) ((vG ((ab 32 t).2.1)).sm/\((((ab 32 t).2.1).length<=1000000))/\((∃ td,Tryz.prog.underlying 249=some td/\∀ i,td≠.interface i)/\(Value.iface 249 (.agg #[.int .i64 (ey ((ab 32 t).2.1) 20)])).oneCell'=true)/\∀ _:Unit,Q (.tup [.lit (.iface 249 (.agg #[.int .i64 (ey ((ab 32 t).2.1) 20)])),bV true]) (fH t)) (Q (.tup [.lit .nilIface,bV false]) (fH t))))))) (sV ((ab 32 t).2.1)) (sV ((ab 32 t).1)) (.tup [sV ((ab 32 t).1),sV ((ab 32 t).2.1),bV ((ab 32 t).2.2)]) ([99,97,108,108,101,114]:BL) ([108,101,116]:BL)) ?_
 refine aS (bI (fun j8=>?_) fun j8=>?_);refine⟨⟨⟨_,Tryz.underlying245,Zdq⟩,rfl⟩,fun _=>aS ?_⟩;unfold Q fH;rw[show fE (ab 32 t).1 (ab 32 t).2.1=.caller (ab 32 t).2.1 from if_pos j8,show iu (ab 32 t).1 (ab 32 t).2.1=_ from if_pos j8];rfl
 · refine⟨fun l4=>?_,fun l4=>?_,fun c hc=>?_⟩
   · try simp only[nb]at l4
     exact⟨((ab 32 t).1)==([108,101,116]:BL),Zdm,rfl,rfl,rfl,rfl,rfl,rfl,rfl,rfl,rfl,rfl,rfl,rfl,rfl,rfl,rfl,rfl,rfl,trivial⟩
   · try simp only[nb]at l4
     exact⟨((ab 32 t).1)==([98,97,114]:BL),Zdm,rfl,rfl,rfl,rfl,rfl,rfl,rfl,rfl,rfl,rfl,rfl,rfl,rfl,rfl,rfl,rfl,rfl,trivial⟩
   refine bI (fun m8=>?_) fun m8=>?_;refine⟨⟨⟨_,Tryz.underlying247,Zdq⟩,rfl⟩,fun _=>aS ?_⟩;unfold Q fH;have h2:(ab 32 t).1=[108,101,116]\/(ab 32 t).1=[98,97,114]:=by grind
   rw[show fE (ab 32 t).1 (ab 32 t).2.1=.Ss ((ab 32 t).1==[108,101,116]) (ab 32 t).2.1 from by rw[fE,if_neg j8,if_pos h2],show iu (ab 32 t).1 (ab 32 t).2.1=bf (ab 32 t).2.1 from by rw[iu,if_neg j8,if_pos h2],po];rfl;refine bI (fun w6=>?_) fun w6=>?_;refine⟨rfl,Zac,⟨⟨_,Tryz.underlying249,Zdq⟩,rfl⟩,fun _=>?_⟩;unfold Q fH;have h2: ¬ ((ab 32 t).1=[108,101,116]\/(ab 32 t).1=[98,97,114]):=by grind
   rw[show fE (ab 32 t).1 (ab 32 t).2.1=.wait (ey (ab 32 t).2.1 20).toNat from by rw[fE,if_neg j8,if_neg h2,if_pos w6],show iu (ab 32 t).1 (ab 32 t).2.1=true from by rw[iu,if_neg j8,if_neg h2,if_pos w6]];show V.tup [.lit (.iface 249 (.agg #[.int .i64 (ey (ab 32 t).2.1 20)])),_]=V.tup [.lit (.iface 249 (.agg #[.int .i64 (((ey (ab 32 t).2.1 20).toNat:Nat):Int)])),_];rw[Int.toNat_of_nonneg (BP Zac)];unfold Q fH;have h2: ¬ ((ab 32 t).1=[108,101,116]\/(ab 32 t).1=[98,97,114]):=by grind
   rw[show fE (ab 32 t).1 (ab 32 t).2.1=.none from by rw[fE,if_neg j8,if_neg h2,if_neg w6],show iu (ab 32 t).1 (ab 32 t).2.1=false from by rw[iu,if_neg j8,if_neg h2,if_neg w6]];rfl)
theorem JQ{w r:BL}(h:iu w r=true):fE w r≠.none:=by
 unfold iu at h;unfold fE;split at h;rename_i h1;rw[if_pos h1];intro c;cases c;rename_i h1;rw[if_neg h1];split at h;rename_i h2;rw[if_pos h2];intro c;cases c;rename_i h2;rw[if_neg h2];split at h;rename_i h3;rw[if_pos h3];intro c;cases c;cases h
theorem GU(gs:List l9)(b:Bool)(g:Nat)(l:Ln)(hg:gs.length<=1000)(hn:∀ y,y∈gs->y.na.length<=1000/\y.ru.length<=6)(hl:l≠.none):
 PF Tryz.prog 205 [.ptr (.key 1000) [] g 0,.lit (Dz l)] [(1000,(g,.agg [.ow 3 (gs.map aA),bV b]))] (fun r h=>r=.tup []/\h=[(1000,(g,.agg [.ow 3 ((gJ gs b l).1.map aA),bV (gJ gs b l).2]))]):=by
 cases l with
 | none=>exact absurd rfl hl
 | caller n=>exact HX gs b g n hg hn
 | Ss q p=>exact HG gs b g q p hg hn
 | wait v=>exact Gp gs b g v hg hn
def BJ(gs:List l9)(b:Bool)(g:Nat)(l:Ln):aw:={ f:=205,args:=[kp 1000 g,.lit (Dz l)],H:=[(1000,(g,fg gs b))],pre:=(gs.length<=1000)/\(∀ y,y∈gs->y.na.length<=1000/\y.ru.length<=6)/\(l≠.none),res:=.tup [],H':=[(1000,(g,.agg [.ow 3 ((gJ gs b l).1.map aA),bV (gJ gs b l).2]))],ok:=fun h=>GU gs b g l h.1 h.2.1 h.2.2 }
theorem HY{n:Nat}{gs:List l9}{b:Bool}(h:L' n gs)(l:BL):L' (n+1) (mE (gs,b) l).1:=by
 unfold mE;split;have hl:∀ z,gs.getLast? =some z->z.na.length<=n/\z.ru.length<=6:=fun z hz=>h.each z (List.mem_of_getLast? hz);cases fE (ab 32 l).1 (ab 32 l).2.1 with
 | none=>exact h.mono Zac
 | caller q=>
   simp only[gJ,lR];split;refine⟨by have:=h.len;simp;omega,fun y hy=>?_⟩;rcases Zax.1 hy with hy | hy;have:=h.each y hy;exact⟨Zac,this.2⟩;rw[Zav.1 hy];simp;exact h.set fun z hz=>⟨by have:=hl z hz;simp;omega,(hl z hz).2⟩
 | Ss q p=>
   simp only[gJ,js];split;exact h.mono Zac;split;rename_i h6;refine h.set fun z hz=>⟨Zb5,?_⟩;unfold iC at h6;rw[hz]at h6;simp only at h6;simp only[Zap,Zar,Zau];omega;exact h.mono Zac
 | wait v=>
   simp only[gJ,lT];split;exact h.mono Zac;exact h.set fun z hz=>⟨Zb5,(hl z hz).2⟩
 exact h.mono Zac
abbrev eE(t:BL)(i:Nat)(gs:List l9)(b:Bool):Prop:=i<=(af 10 t).length/\i<=40/\L' i gs/\((af 10 t).take i).foldl mE ([],false)=(gs,b)
def qK(t:BL):aw:=.mk 178 [sV t] [] (t.length<=1000000) (.ow 3 ((bK t).map aA)) [] (by
 intro ht
 refine au Tryz.func178
  (.q 1<|.al Nz (fun g3=>.q 1<|.c (qq t 10) []<|.q 2<|.h (.B9 (.key 3) [0] 3)<|.loop (Nat×(List l9)×Bool) (fun (i,gs,b)=>⟨[(0,sV t),(3,kp 3 g3),(9,.sl true ((af 10 t).map sV)),(10,iN ((af 10 t).length)),(11,iN i)],[(3,(g3,fg gs b))]⟩) (fun (i,gs,b)=>eE t i gs b) (fun (i,gs,b)=>(af 10 t).length-i) (fun (i,gs,b)=>.q 1<|.br (.r 5 [sV ((af 10 t).getD i [])]<|.q 2<|.br (.q 1<|.mv<|.q 1<|.nil) (.q 1<|.c (vQ ((af 10 t).getD i [])) []<|.q 5<|.q 1<|.br (.q 1<|.c (BJ gs b g3 (fE (ab 32 ((af 10 t).getD i [])).1 (ab 32 ((af 10 t).getD i [])).2.1)) [(1000,3)]<|.q 2<|.nil) (.q 2<|.nil))) (.q 1<|.mv<|.q 1<|.nil))))
  ((fun v1:List V=>(∀ g3:Nat,(qq t 10).sm/\((t.length<=1000000))/\(∃ x:Nat×(List l9)×Bool,match x with | (j7,Sf,H7)=>(eE t j7 Sf H7)/\E (sV t)/\E (kp 3 g3)/\E (.sl true v1)/\Q (iN (v1.length)) (iN ((af 10 t).length))/\Q (iN 0) (iN j7)/\Qr g3 (.agg [.ow 3 ([].map aA),bV false]) g3 (fg Sf H7)/\True)/\∀ x:Nat×(List l9)×Bool,match x with | (i,gs,b)=>(eE t i gs b)->Br (r5 (i:Int) (((af 10 t).length:Nat):Int)) (Ex (i:Int) v1 (sV ((af 10 t).getD i []))/\True/\Br (o6 (i:Int) 40) (Z g3 0/\Q (.ow 3 (gs.map aA)) (.ow 3 ((bK t).map aA))) ((vQ ((af 10 t).getD i [])).sm/\((((af 10 t).getD i []).length<=1000000))/\Br (iu (ab 32 ((af 10 t).getD i [])).1 (ab 32 ((af 10 t).getD i [])).2.1) ((BJ gs b g3 (fE (ab 32 ((af 10 t).getD i [])).1 (ab 32 ((af 10 t).getD i [])).2.1)).sm/\Er g3 (fg gs b)/\((gs.length<=1000)/\(∀ y,y∈gs->y.na.length<=1000/\y.ru.length<=6)/\((fE (ab 32 ((af 10 t).getD i [])).1 (ab 32 ((af 10 t).getD i [])).2.1)≠.none))/\m6 ((i:Int)+1)/\∃ x:Nat×(List l9)×Bool,match x with | (b9,Qm,x5)=>(eE t b9 Qm x5)/\((af 10 t).length-b9<(af 10 t).length-i)/\E (sV t)/\E (kp 3 g3)/\E (.sl true v1)/\E (iN ((af 10 t).length))/\Q (iN (i+1)) (iN b9)/\Qr g3 (fg ((gJ gs b (fE (ab 32 ((af 10 t).getD i [])).1 (ab 32 ((af 10 t).getD i [])).2.1)).1) ((gJ gs b (fE (ab 32 ((af 10 t).getD i [])).1 (ab 32 ((af 10 t).getD i [])).2.1)).2)) g3 (fg Qm x5)/\True) (m6 ((i:Int)+1)/\∃ x:Nat×(List l9)×Bool,match x with | (b9,Qm,x5)=>(eE t b9 Qm x5)/\((af 10 t).length-b9<(af 10 t).length-i)/\E (sV t)/\E (kp 3 g3)/\E (.sl true v1)/\E (iN ((af 10 t).length))/\Q (iN (i+1)) (iN b9)/\Qr g3 (fg gs b) g3 (fg Qm x5)/\True))) (Z g3 0/\Q (.ow 3 (gs.map aA)) (.ow 3 ((bK t).map aA))))) ((af 10 t).map sV)) ?_
 intro g3;refine aS ⟨⟨(0,[],false),?_,rfl,rfl,rfl,Zah,ak⟩,?_⟩;unfold eE;exact⟨Zac,Zac,⟨Zad,Zad⟩,rfl⟩;rintro⟨i,gs,b⟩ ⟨h1,h2,h3,h4⟩;refine bI (fun j8=>?_) fun j8=>?_;refine⟨Zce,ah (bI (fun l4=>?_) fun l4=>?_)⟩;refine⟨rfl,?_⟩;rw[show bK t=gs from by rw[<- xJ,AI h1 h2 (fun _=>by omega),h4]];refine⟨rfl,by have:=hX 10 t i;omega,bI (fun m8=>?_) fun m8=>?_⟩;refine⟨rfl,rfl,⟨by have:=h3.len;omega,fun y hy=>by have:=h3.each y hy;omega,JQ m8⟩,ah ⟨(i+1,(gJ gs b (fE (ab 32 ((af 10 t).getD i [])).1 (ab 32 ((af 10 t).getD i [])).2.1)).1,(gJ gs b (fE (ab 32 ((af 10 t).getD i [])).1 (ab 32 ((af 10 t).getD i [])).2.1)).2),?_,?_,ak⟩⟩;unfold eE;have B5:mE (gs,b) ((af 10 t).getD i [])=gJ gs b (fE (ab 32 ((af 10 t).getD i [])).1 (ab 32 ((af 10 t).getD i [])).2.1):=if_pos m8;refine aS ⟨?_,?_⟩;rw[<- B5];exact HY h3 _;rw[foldl_succ (d:=[]) Zac,h4,B5];exact Zak;refine ah ⟨(i+1,gs,b),?_,?_,ak⟩;unfold eE;have B5:mE (gs,b) ((af 10 t).getD i [])=(gs,b):=if_neg (by rw[m8];decide);refine aS ⟨h3.mono Zac,?_⟩;rw[foldl_succ (d:=[]) Zac,h4,B5];exact Zak;refine⟨rfl,?_⟩;rw[show bK t=gs from by rw[<- xJ,AI h1 h2 (fun h=>by omega),h4]])
theorem Ig{gs:List l9}{a:BL}{i:Nat}(h:i<gs.length):(gs.map fun y=>y.na.contains a).getD i false=(gs.getD i ⟨[],[],0⟩).na.contains a:=by
 rw[Zam,Zam,List.getElem?_map,Zat h];rfl
def yz(y:l9)(a:BL)(u:Nat):aw:=.mk 202 [cN y,kp 1000 u] [(1000,(u,sV a))] (y.na.length<=1000000) (bV (y.na.contains a)) [(1000,(u,sV a))] (by
 intro hy
 refine au Tryz.func202
  (.bx (fun g2=>.q 1<|.r 3 [.c9,.c9]<|.c (sM y.na a) []<|.q 1<|.nil))
  (∀ g2:Nat,Z g2 0/\Z u 0/\(sM y.na a).sm/\((y.na.length<=1000000))/\Q (bV (y.na.contains a)) (bV (y.na.contains a))/\Er u (sV a)) ?_
 intro g2;refine cF ⟨?_,rfl⟩;rfl)
def CC(gs:List l9)(a:BL)(u:Nat):aw:=.mk 217 [bn gs,.lit (.func (.func 202) #[] #[.pointer (some ⟨u,0,none⟩)])] [(1000,(u,sV a))] ((gs.length<=1000000)/\(∀ i,(gs.getD i ⟨[],[],0⟩).na.length<=1000000)) (iV (eK (gs.map fun y=>y.na.contains a) true)) [(1000,(u,sV a))] (by
 rintro⟨hg,hn⟩
 refine au Tryz.func217
  (.q 1<|.q 3<|.loop Nat (fun i=>⟨[(0,bn gs),(1,.lit (.func (.func 202) #[] #[.pointer (some ⟨u,0,none⟩)])),(6,bn gs),(7,iN gs.length),(8,iN i)],[(1000,(u,sV a))]⟩) (fun i=>i<=gs.length/\∀ j,j<i->((gs.getD j ⟨[],[],0⟩).na.contains a)=false) (fun i=>gs.length-i) (fun i=>.q 1<|.br (.q 2<|.r 5 [cN (gs.getD i (⟨[],[],0⟩:l9))]<|.c (yz (gs.getD i (⟨[],[],0⟩:l9)) a u) [(1000,1000)]<|.br (.q 2<|.nil) (.q 2<|.nil)) (.q 1<|.nil)))
  ((fun (v3:l9) (v2:V) (v1:Nat->Prop)=>((∃ j7:Nat,(v1 j7)/\E (bn gs)/\E v2/\E (bn gs)/\Q (iN ((gs.map bZ).length)) (iN gs.length)/\Q (iN 0) (iN j7)/\Er u (sV a)/\True)/\∀ i:Nat,(v1 i)->Br (r5 (i:Int) (gs.length:Int)) (Ex (i:Int) (gs.map bZ) (cN (gs.getD i v3))/\True/\(yz (gs.getD i v3) a u).sm/\Er u (sV a)/\(((gs.getD i v3).na.length<=1000000))/\Br ((gs.getD i v3).na.contains a) (Q (iN i) (iV (eK (gs.map fun y=>y.na.contains a) true))/\Er u (sV a)) (m6 ((i:Int)+1)/\∃ b9:Nat,(v1 b9)/\(gs.length-b9<gs.length-i)/\E (bn gs)/\E v2/\E (bn gs)/\E (iN gs.length)/\Q (iN (i+1)) (iN b9)/\Er u (sV a)/\True)) (Q (iV (-1)) (iV (eK (gs.map fun y=>y.na.contains a) true))/\Er u (sV a)))) (⟨[],[],0⟩:l9) (.lit (.func (.func 202) #[] #[.pointer (some ⟨u,0,none⟩)])) (fun j7:Nat=>j7<=gs.length/\∀ j,j<j7->((gs.getD j ⟨[],[],0⟩).na.contains a)=false)) ?_
 refine⟨⟨0,?_,rfl,rfl,rfl,Zah,ak⟩,?_⟩;simp;rintro i ⟨h1,h2⟩;have hni:=hn i;refine bI (fun j8=>?_) fun j8=>?_;refine⟨Zc2,aY ⟨hn i,bI (fun l4=>?_) fun l4=>?_⟩⟩;refine⟨?_,rfl⟩;rw[qe (i:=i) (by rw[Zay];omega) (by rw[Ig Zac];exact l4) (fun j hj=>by rw[Ig Zac];rw[h2 j hj];decide)];refine ah ⟨i+1,?_,?_,ak⟩;exact⟨Zac,bg h2 l4⟩;exact Zak;refine⟨?_,rfl⟩;rw[oJ (fun j hj=>by rw[Zay]at hj;rw[Ig hj];rw[h2 j Zac];decide)])
def Cy(gs:List l9)(a:BL)(u:Nat):aw:=.mk 203 [bn gs,.lit (.func (.func 202) #[] #[.pointer (some ⟨u,0,none⟩)])] [(1000,(u,sV a))] ((gs.length<=1000000)/\(∀ i,(gs.getD i ⟨[],[],0⟩).na.length<=1000000)) (bV (gs.any fun y=>y.na.contains a)) [(1000,(u,sV a))] (by
 rintro⟨hg,hn⟩
 refine au Tryz.func203
  (.q 1<|.q 2<|.c (CC gs a u) [(1000,1000)]<|.q 2<|.nil)
  ((CC gs a u).sm/\Er u (sV a)/\((gs.length<=1000000)/\(∀ i,(gs.getD i ⟨[],[],0⟩).na.length<=1000000))/\Q (bV (A9 (eK (gs.map fun y=>y.na.contains a) true) 0)) (bV (gs.any fun y=>y.na.contains a))/\Er u (sV a)) ?_
 refine aY ⟨?_,rfl⟩;unfold Q;refine Zbm bV ?_;show decide (eK (gs.map fun y=>y.na.contains a) true>=0)=_;rw[show decide (eK (gs.map fun y=>y.na.contains a) true>=0)=(gs.map fun y=>y.na.contains a).contains true from pO _ _];rw[Za6];simp)
def yI(a:BL):fZ:=.mk Nat 201 [sV a] [] True (fun x=>True) (fun x=>.lit (.func (.func 202) #[] #[.pointer (some ⟨x,0,none⟩)])) (fun x=>[(1000,(x,sV a))]) (by
 intro _
 refine uI (N:=4) (rs:=[.tmp 2]) (X:=Nat) (post:=fun x=>True) (E:=fun x=>.lit (.func (.func 202) #[] #[.pointer (some ⟨x,0,none⟩)])) (H':=fun x=>[(1000,(x,sV a))]) Tryz.func201 Zae rfl rfl rfl Zae [(1000,(0,.c9))] (by intro _ k hk;simpa[lk] using hk)
  (.bx (fun g1=>.q 1<|.cu U4 (fun _=>.q 1<|.h (.rk 1 1000)<|.nil)))
  (∀ g1:Nat,((Value.func (.func 202) #[] #[.pointer (some ⟨g1,0,none⟩)]).oneCell'=true)/\∀ _:Unit,∃ x:Nat,(True)/\Q (.lit (.func (.func 202) #[] #[.pointer (some ⟨g1,0,none⟩)])) (.lit (.func (.func 202) #[] #[.pointer (some ⟨x,0,none⟩)]))/\Qr g1 (sV a) x (sV a))
  Zae ?_
 intro g1;refine⟨rfl,fun _=>⟨g1,?_,?_,?_⟩⟩
 · try dsimp only
   all_goals trivial
 exact Zaa;first | rfl | exact⟨rfl,rfl⟩ | simp_all)
abbrev nC(gs:List l9)(n:BL):V:=fm (.sl false ([n].map sV)) ((eC gs n).ru) ((eC gs n).wa)
def kK(gs:List l9)(n:BL):aw:=.mk 177 [bn gs,sV n] [] ((gs.length<=1000)/\(∀ i,(gs.getD i ⟨[],[],0⟩).ru.length<=100)/\(∀ i,(gs.getD i ⟨[],[],0⟩).na.length<=1000000)) (nC gs n) [] (by
 rintro⟨hg,hr,ha⟩
 refine au Tryz.func177
  (.al fC (fun g4=>.q 1<|.q 2<|.q 3<|.cx (yI n) [(1000,14)] (fun (m5:Nat)=>.c (Cy gs n m5) [(1000,14)]<|.q 1<|.join BL (fun d=>⟨[(0,bn gs),(1,sV n),(4,kp 4 g4),(5,.lit (.func (.func 201) #[] #[])),(10,sV n),(11,bn gs),(12,.lit (.func (.func 201) #[] #[])),(13,sV n),(14,.lit (.func (.func 202) #[] #[.pointer (some ⟨m5,0,none⟩)])),(15,bV (gs.any fun y=>y.na.contains n)),(16,bV (!(gs.any fun y=>y.na.contains n))),(6,sV d)],[(4,(g4,.agg [.sl true [],.sl true [],iN 0])),(14,(m5,sV n))]⟩) (fun d=>d=ky gs n) (.q 1<|.nil) (.nil) (fun d=>.q 1<|.bs<|.bd fC<|.al fC (fun g7=>.st none<|.q 3<|.h (.B9 (.key 7) [1] 2)<|.loop (Nat×(List r9)×Nat×Nat×Nat×Nat) (fun (i,e,q,u,f,k)=>⟨[(4,kp 4 g4),(5,.lit (.func (.func 201) #[] #[])),(6,sV d),(7,kp 7 g7),(20,bn gs),(21,iN gs.length),(22,iN i)],[(4,(g4,.agg [.sl true [],.sl true [],iN 0])),(7,(g7,fJ (.sl true [sV n]) e u f k q))]⟩) (fun (i,e,q,u,f,k)=>i<=gs.length/\((gs.take i).foldl (dD d) (([],0),false)).1=(e,q)/\e.length<=100*i) (fun (i,e,q,u,f,k)=>gs.length-i) (fun (i,e,q,u,f,k)=>.q 1<|.br (.r 2 [cN (gs.getD i (⟨[],[],0⟩:l9))]<|.al fC (fun g9=>.st none<|.dx 4 [0,1,3,2] [(3,n6 [9] [29]),(2,⟨true,[],some [28],[28],[28]⟩)] []<|.l8 2<|.n9<|.cx (yI d) [(1000,28)] (fun (Ty:Nat)=>.c (yz (gs.getD i (⟨[],[],0⟩:l9)) d Ty) [(1000,28)]<|.br (.r 4 [.c9,.c9]<|.ap (fun Q4 QZ Q6=>.h (.m9 35 (.own 2 ((e++((gs.getD i (⟨[],[],0⟩:l9)).ru)).map av) Q4 QZ Q6))<|.q 1<|.st none<|.r 4 [.c9,.c9]<|.mm<|.q 1<|.st none<|.h (.s8 7 (fJ (.sl true [sV n]) (e++((gs.getD i (⟨[],[],0⟩:l9)).ru)) Q4 QZ Q6 (max q (gs.getD i ⟨[],[],0⟩).wa)))<|.q 2<|.nil)) (.q 2<|.nil)))) (.mv<|.h (.fz 44)<|.h (.m9 44 (fm (.sl true [sV n]) e q))<|.st none<|.nil)))))))
  ((fun (v5 v3 v2:V) (v4:Bool) (v1:l9)=>(∀ g4:Nat,(fun v6:V=>(yI n).sm/\(True)/\∀ m5:Nat,(True)->(fun v7:V=>(Cy gs n m5).sm/\Er m5 (sV n)/\((gs.length<=1000000)/\(∀ i,(gs.getD i ⟨[],[],0⟩).na.length<=1000000))/\(v4=true->∃ d:BL,(d=ky gs n)/\E (bn gs)/\E (sV n)/\E v6/\E v2/\E (sV n)/\E (bn gs)/\E v2/\E (sV n)/\E v7/\E (bV (gs.any fun y=>y.na.contains n))/\E (bV v4)/\Q (sV ([42]:BL)) (sV d)/\Er g4 v3/\Er m5 (sV n)/\True)/\(v4=false->∃ d:BL,(d=ky gs n)/\E (bn gs)/\E (sV n)/\E v6/\E v2/\E (sV n)/\E (bn gs)/\E v2/\E (sV n)/\E v7/\E (bV (gs.any fun y=>y.na.contains n))/\E (bV v4)/\Q (sV n) (sV d)/\Er g4 v3/\Er m5 (sV n)/\True)/\(∀ d:BL,(d=ky gs n)->(fun v8:Nat->((List r9))->Nat->Nat->Nat->Nat->Prop=> ∀ g7:Nat,Z g7 0/\(∃ x:Nat×(List r9)×Nat×Nat×Nat×Nat,match x with | (j7,D7,w9,H9,A3,n8)=>(v8 j7 D7 w9 H9 A3 n8)/\E v6/\E v2/\E (sV d)/\E (kp 7 g7)/\E (bn gs)/\Q (iN ((gs.map bZ).length)) (iN gs.length)/\Q (iN 0) (iN j7)/\Er g4 v3/\Qr g7 (.agg [.sl true [sV n],.own 2 ([].map av) 0 0 0,iN 0]) g7 (fJ v5 D7 H9 A3 n8 w9)/\True)/\∀ x:Nat×(List r9)×Nat×Nat×Nat×Nat,match x with | (i,e,q,u,f,k)=>(v8 i e q u f k)->(fun v9:List V=>Br (r5 (i:Int) (gs.length:Int)) (Ex (i:Int) (gs.map bZ) (cN (gs.getD i v1))/\True/\∀ g9:Nat,Z g9 0/\Z g9 0/\(yI d).sm/\(True)/\∀ Ty:Nat,(True)->(yz (gs.getD i v1) d Ty).sm/\Er Ty (sV d)/\(((gs.getD i v1).na.length<=1000000))/\Br ((gs.getD i v1).na.contains d) (Z g7 1/\Z g9 1/\((2,2,u,f,k,(e.map av).length)=(2,2,u,f,k,(e.map av).length))/\(True)/\(V.ax v9=false)/\(aR 2 v9)/\(((e.map av).length+v9.length)*24<=140737488355328)/\∀ Q4 QZ Q6:Nat,((.own 2 ((e.map av)++v9) Q4 QZ Q6:V)=.own 2 ((e++((gs.getD i v1).ru)).map av) Q4 QZ Q6)/\Z g7 1/\Z g7 2/\Z g9 2/\(IntKind.i64=IntKind.i64)/\Z g7 2/\((.agg [.sl true [sV n],.own 2 ((e++((gs.getD i v1).ru)).map av) Q4 QZ Q6,iV (max (q:Int) (((gs.getD i v1).wa:Nat):Int))]:V)=fJ v5 (e++((gs.getD i v1).ru)) Q4 QZ Q6 (max q (gs.getD i ⟨[],[],0⟩).wa))/\m6 ((i:Int)+1)/\∃ x:Nat×(List r9)×Nat×Nat×Nat×Nat,match x with | (b9,x8,n7,C7,o5,k₂)=>(v8 b9 x8 n7 C7 o5 k₂)/\(gs.length-b9<gs.length-i)/\E v6/\E v2/\E (sV d)/\E (kp 7 g7)/\E (bn gs)/\E (iN gs.length)/\Q (iN (i+1)) (iN b9)/\Er g4 v3/\Qr g7 (fJ v5 (e++((gs.getD i v1).ru)) Q4 QZ Q6 (max q (gs.getD i ⟨[],[],0⟩).wa)) g7 (fJ v5 x8 C7 o5 k₂ n7)/\True) (m6 ((i:Int)+1)/\∃ x:Nat×(List r9)×Nat×Nat×Nat×Nat,match x with | (b9,x8,n7,C7,o5,k₂)=>(v8 b9 x8 n7 C7 o5 k₂)/\(gs.length-b9<gs.length-i)/\E v6/\E v2/\E (sV d)/\E (kp 7 g7)/\E (bn gs)/\E (iN gs.length)/\Q (iN (i+1)) (iN b9)/\Er g4 v3/\Qr g7 (fJ v5 e u f k q) g7 (fJ v5 x8 C7 o5 k₂ n7)/\True)) (Z g7 0/\((.agg [.sl true [sV n],.sl false (V.E6 (e.map av)),iN q]:V)=fm v5 e q)/\Z g4 0/\(g4=g4)/\Q (fm (.sl false [sV n]) e q) (nC gs n))) (((gs.getD i v1).ru).map av)) (fun (j7:Nat) (D7:(List r9)) (w9:Nat) (H9:Nat) (A3:Nat) (n8:Nat)=>j7<=gs.length/\((gs.take j7).foldl (dD d) (([],0),false)).1=(D7,w9)/\D7.length<=100*j7))) (.lit (.func (.func 202) #[] #[.pointer (some ⟨m5,0,none⟩)]))) (kp 4 g4))) (.sl true [sV n]) (.agg [.sl true [],.sl true [],iN 0]) (.lit (.func (.func 201) #[] #[])) (!(gs.any fun y=>y.na.contains n)) (⟨[],[],0⟩:l9)) ?_
 intro g4;refine aS fun m5 Rd=>⟨rfl,rfl,ah (ha),⟨fun j8=>?_,fun j8=>?_,fun d hd=>?_⟩⟩;try simp only[nb]at j8
 exact⟨([42]:BL),by unfold ky;rw[j8];rfl,rfl,rfl,rfl,rfl,rfl,rfl,rfl,rfl,rfl,rfl,rfl,rfl,rfl,rfl,trivial⟩;try simp only[nb]at j8
 exact⟨n,by unfold ky;rw[j8];rfl,rfl,rfl,rfl,rfl,rfl,rfl,rfl,rfl,rfl,rfl,rfl,rfl,rfl,rfl,trivial⟩;intro g7;refine⟨rfl,⟨⟨(0,[],0,0,0,0),?_,eh ⟨Zah,ak⟩⟩,?_⟩⟩;simp;rintro⟨i,e,q,u,f,k⟩ ⟨h1,h2,h3⟩;have hai:=ha i;refine bI (fun l4=>?_) fun l4=>?_;refine⟨Zc2,ah fun g9=>cF fun Ty hx9_2=>⟨rfl,rfl,ha i,bI (fun m8=>?_) fun m8=>?_⟩⟩;refine cF ⟨Zdh,Zdi,by(try simp only[Zay,Zar,Zau]);have:=hr i;omega,fun Q4 QZ Q6=>⟨Zbm (V.own 2 · Q4 QZ Q6) ((Zbb ..).symm),eh ⟨Zbm (fun z:Int=>(.agg [.sl true [sV n],.own 2 ((e++((gs.getD i (⟨[],[],0⟩:l9)).ru)).map av) Q4 QZ Q6,iV z]:V)) Zac,ah ⟨(i+1,e++((gs.getD i (⟨[],[],0⟩:l9)).ru),max q (gs.getD i ⟨[],[],0⟩).wa,Q4,QZ,Q6),?_,?_,ak⟩⟩⟩⟩;have:=hr i;refine⟨Zac,?_,Zdj⟩;rw[foldl_succ (d:=⟨[],[],0⟩) Zac,Aj,if_pos m8,h2];exact Zak;refine ah ⟨(i+1,e,q,u,f,k),?_,?_,ak⟩;refine⟨Zac,?_,ak⟩;rw[foldl_succ (d:=⟨[],[],0⟩) Zac,Aj,if_neg (by rw[m8];decide),h2];exact Zak;refine⟨rfl,by simp only[aW (f:=av) (fun _=>rfl)],rfl,⟨rfl,?_⟩⟩;unfold Q nC;rw[Zaz Zac]at h2;have hfa:=CZ gs n;rw[hfa.1,hfa.2,<- hd,h2];rfl)
abbrev iY(w:List Pg)(d n:BL):V:=fm (.sl false ([n].map sV)) ((cM (ai w (aL d) 2).1 (ai w (aL d) 2).2 n).ru) ((cM (ai w (aL d) 2).1 (ai w (aL d) 2).2 n).wa)
def xE(w:List Pg)(d n:BL):aw:=.mk 140 [.mp (w.map I4),sV d,sV n] [] ((d.length<=1000)/\((ai w (aL d) 2).2.length<=1000000)) (iY w d n) [] (by
 rintro⟨hd,ht⟩
 refine au Tryz.func140
  (.al fC (fun g6=>.q 2<|.c (kP d) []<|.c (sT w (aL d)) []<|.q 5<|.q 1<|.q 2<|.br (.q 1<|.c (qK ((ai w (aL d) 2).2)) []<|.h (.fz 20)<|.h (.m9 20 (bn (bK ((ai w (aL d) 2).2))))<|.q 1<|.c (kK (bK ((ai w (aL d) 2).2)) n) []<|.st none<|.nil) (.q 2<|.br (.q 1<|.bs<|.bd pV<|.bs<|.bd fC<|.st none<|.nil) (.q 1<|.c (kK ([]:List l9) n) []<|.st none<|.nil))))
  ((fun (v2:List l9) (v1:Int×BL)=>(∀ g6:Nat,(kP d).sm/\((d.length<=4000000000000000000))/\(sT w (aL d)).sm/\(True)/\Br (o6 (v1.1) 1) ((qK (v1.2)).sm/\(((v1.2).length<=1000000))/\((.sl false (V.E6 ((bK (v1.2)).map aA)):V)=bn (bK (v1.2)))/\(kK (bK (v1.2)) n).sm/\(((bK (v1.2)).length<=1000)/\(∀ i,((bK (v1.2)).getD i ⟨[],[],0⟩).ru.length<=100)/\(∀ i,((bK (v1.2)).getD i ⟨[],[],0⟩).na.length<=1000000))/\Z g6 0/\(g6=g6)/\Q (fm (.sl false ([n].map sV)) ((eC (bK (v1.2)) n).ru) ((eC (bK (v1.2)) n).wa)) (iY w d n)) (Br (o6 (v1.1) 3) (Z g6 0/\(g6=g6)/\Q (.agg [.sl false [sV n],.sl false [.agg [bV false,sV ([47]:BL)]],iN 0]) (iY w d n)) ((kK v2 n).sm/\((v2.length<=1000)/\(∀ i,(v2.getD i ⟨[],[],0⟩).ru.length<=100)/\(∀ i,(v2.getD i ⟨[],[],0⟩).na.length<=1000000))/\Z g6 0/\(g6=g6)/\Q (fm (.sl false ([n].map sV)) ((eC v2 n).ru) ((eC v2 n).wa)) (iY w d n))))) ([]:List l9) (ai w (aL d) 2)) ?_
 intro g6;refine cF (bI (fun j8=>?_) fun j8=>?_);refine⟨rfl,ht,Zbm (V.sl false) (tE _),rfl,⟨by have:=(jk (ai w (aL d) 2).2).len;omega,fun i=>((jk (ai w (aL d) 2).2).ru i).1,fun i=>by have:=((jk (ai w (aL d) 2).2).ru i).2;omega⟩,rfl,⟨rfl,?_⟩⟩;unfold Q iY;rw[show cM (ai w (aL d) 2).1 (ai w (aL d) 2).2 n=eC (bK (ai w (aL d) 2).2) n from by rw[cM,if_pos j8]];refine bI (fun l4=>?_) fun l4=>?_;refine⟨rfl,⟨rfl,?_⟩⟩;unfold Q iY;rw[show cM (ai w (aL d) 2).1 (ai w (aL d) 2).2 n=_ from by rw[cM,if_neg j8,if_pos l4]];rfl;refine⟨rfl,⟨Zad,Zad,Zad⟩,rfl,⟨rfl,?_⟩⟩;unfold Q iY;rw[show cM (ai w (aL d) 2).1 (ai w (aL d) 2).2 n=_ from by rw[cM,if_neg j8,if_neg l4]])
def dC(t:BL)(x:List BL×Bool×Nat)(i:Nat):List BL×Bool×Nat:=
 if 0<x.2.2/\t.getD i 0=62 then (x.1++[(t.take i).drop (x.2.2-1)],x.2.1,0)
 else if 0<x.2.2 then x
 else if x.2.1=true then (x.1,!(t.getD i 0==41),0)
 else if t.getD i 0=40 then (x.1,true,0)
 else if t.getD i 0=60 then (x.1,false,i+2) else x
def bQ(t:BL):Nat->List BL×Bool×Nat
 | 0=>([],false,0)
 | i+1=>dC t (bQ t i) i
def ar(t:BL):List BL:=if t.length<=300 then (bQ t t.length).1 else []
structure MkB (t:BL) (i:Nat) (x:List BL×Bool×Nat):Prop where
 len:x.1.length<=i
 each:∀ m,m∈x.1->m.length<=t.length/\∀ c,c∈m->c∈t
 pos:x.2.2<=i+1
 one:0<x.2.2->x.2.1=false
theorem Jt{t:BL}{i:Nat}{x:List BL×Bool×Nat}(h:MkB t i x):MkB t (i+1) (dC t x i):=by
 obtain⟨h1,h2,h3,h4⟩:=h;unfold dC;split;rename_i hc;refine⟨Zal,fun m hm=>?_,Zad,fun hc=>by simp at hc⟩;rcases Zax.1 hm with hm | hm;exact h2 m hm;rw[Zav.1 hm];exact⟨Zal,fun c hc=>List.mem_of_mem_take (List.mem_of_mem_drop hc)⟩;split;exact⟨Zac,h2,Zac,h4⟩;split;exact⟨Zal,h2,Zad,fun hc=>by simp at hc⟩;split;exact⟨Zal,h2,Zad,fun hc=>by simp at hc⟩;split;exact⟨Zal,h2,Zad,fun _=>rfl⟩;exact⟨Zac,h2,Zac,h4⟩
theorem rZ(t:BL):∀ i,MkB t i (bQ t i)
 | 0=>⟨by simp[bQ],by simp[bQ],by simp[bQ],by simp[bQ]⟩
 | i+1=>Jt (rZ t i)
theorem kZ(t:BL):(ar t).length<=300/\∀ m,m∈ar t->m.length<=300/\∀ c,c∈m->c∈t:=by
 unfold ar;split;rename_i h;have hb:=rZ t t.length;exact⟨by have:=hb.len;omega,fun m hm=>⟨by have:=(hb.each m hm).1;omega,(hb.each m hm).2⟩⟩;exact⟨Zad,fun m hm=>by simp at hm⟩
def cv(s:BL):UInt8:=s.getD 0 0
def eZ(m:BL):Bool:=!(cv m==33)&&!(cv m==64)
def aN(t:BL):List BL:=(ar t).filter eZ
def bh(t:BL):Option BL:=((ar t).find? fun m=>cv m==64).map (·.drop 1)
theorem pQ(t:BL):(aN t).length<=300/\∀ m,m∈aN t->m.length<=300/\∀ c,c∈m->c∈t:=by
 have h:=kZ t;exact⟨by have:=List.length_filter_le eZ (ar t);unfold aN;omega,fun m hm=>h.2 m (List.mem_filter.1 hm).1⟩
theorem Cw{t r:BL}(h:bh t=some r):r.length<=300/\∀ c,c∈r->c∈t:=by
 unfold bh at h;cases e:(ar t).find? fun m=>cv m==64 with
 | none=>rw[e]at h;cases h
 | some m=>
   rw[e]at h;obtain rfl:=Option.some.inj h;have:=(kZ t).2 m (List.mem_of_find?_eq_some e);exact⟨Zal,fun c hc=>this.2 c (List.mem_of_mem_drop hc)⟩
theorem wX{α:Type}{p:α->Bool}{d:α}:∀ {l:List α} {i:Nat},i<l.length->p (l.getD i d)=true->(∀ j,j<i->p (l.getD j d)=false)->l.find? p=some (l.getD i d)
 | [],_,h,_,_=>by simp at h
 | x::r,0,_,h,_=>by simp at h;simp[h]
 | x::r,i+1,hl,h,hn=>by
   have h0:=hn 0 Zac;simp at h0;rw[List.find?_cons_of_neg (by simpa using h0)];have:=wX (l:=r) (i:=i) (d:=d) (by simpa using hl) Zbq (fun j hj=>by have:=hn (j+1) Zac;simpa using this);simpa using this
theorem Bl{α:Type}{p:α->Bool}{d:α}{l:List α}(h:∀ j,j<l.length->p (l.getD j d)=false):l.find? p=none:=by
 rw[List.find?_eq_none];intro x hx;obtain⟨j,hj,rfl⟩:=Zbg.1 hx;have:=h j hj;rw[Zam,Zat hj]at this;simpa using this
def H5(a:w4)(ref:BL):Option w4:=
 if aI a=false\/60<ref.length then none
 else if 2<=(ab 35 ref).1.length/\(ab 35 ref).1.take 2=[47,47] then dM ((ab 35 ref).1.drop 2)
 else if (ab 35 ref).1=[] then some a
 else if cv (ab 35 ref).1=47 then ct a.j9 [] (ab 35 ref).1
 else if cv (ab 35 ref).1=63 then ct a.j9 a.e9 (ab 35 ref).1
 else ct a.j9 (a.e9.take (a.e9.length-1)) (ab 35 ref).1
def kD(l:List BL)(s:BL):List BL:=if l.contains s=true then l else l++[s]
def fu(a:w4)(t:BL):w4:=match bh t with
 | some r=>(H5 a r).getD a
 | none=>a
def dI(b:w4)(o:List BL)(m:BL):List BL:=if (H5 b m).isSome=true then kD o (bz (oA (H5 b m))) else o
def bp(a:w4)(t:BL):List BL:=if aI a=true then (aN t).foldl (dI (fu a t)) [] else []
def ae(a:BL)(k:Int)(t:BL):List BL:=if k=1 then bp (oA (aP a)) t else if k=2 then [t] else []
theorem FZ{s:BL}(h:(dM s).isSome=true):aI (oA (dM s))=true:=oP h
theorem CU{a:w4}{r:BL}(h:(H5 a r).isSome=true):aI (oA (H5 a r))=true:=by
 unfold H5 at h ⊢;split;rename_i hc;rw[if_pos hc]at h;cases h;rename_i hc;rw[if_neg hc]at h;split;rename_i h2;rw[if_pos h2]at h;exact FZ h;rename_i h2;rw[if_neg h2]at h;split;cases e:aI a with
 | true=>exact e
 | false=>exact absurd (.inl e) hc
 rename_i h3;rw[if_neg h3]at h;split;rename_i h4;rw[if_pos h4]at h;exact oP h;rename_i h4;rw[if_neg h4]at h;split;rename_i h5;rw[if_pos h5]at h;exact oP h;rename_i h5;rw[if_neg h5]at h;exact oP h
theorem Ie(a:w4)(r:BL):cD (oA (H5 a r)):=by
 cases e:(H5 a r).isSome with
 | true=>exact nU (CU e)
 | false=>
   rw[Option.isSome_eq_false_iff]at e;rw[Option.isNone_iff_eq_none.1 e];exact qO
theorem zy{a:w4}{t:BL}(h:aI a=true):aI (fu a t)=true:=by
 unfold fu;split;rename_i r _;cases e:H5 a r with
 | none=>exact h
 | some x=>have:=CU (a:=a) (r:=r) (by rw[e];rfl);rw[e]at this;exact this
 exact h
theorem cD.sz{a:w4}(h:cD a):dg a:=⟨by have:=h.1;omega,by have:=h.2.1;omega,by have:=h.2.2.1;omega,fun i=>by have:=h.2.2.2 i;omega⟩
theorem Hw{a:w4}:(bz a).length<=60:=by
 unfold bz;split;rename_i h;unfold aI at h;simp only[Zao,Zbk]at h;exact h.2;simp
theorem Cr{l:List BL}{s:BL}:(kD l s).length<=l.length+1:=by
 unfold kD;split <;> simp
theorem Cv{l:List BL}{s x:BL}:x∈kD l s↔x∈l\/x=s:=by
 unfold kD;split;rename_i h;have h:s∈l:=Zbq
 exact⟨.inl,fun hx=>hx.elim id fun e=>e ▸ h⟩;simp
theorem BH{b:w4}:∀ (ls:List BL) {o:List BL},(ls.foldl (dI b) o).length<=o.length+ls.length/\((∀ m,m∈o->m.length<=60)->∀ m,m∈ls.foldl (dI b) o->m.length<=60)
 | [],o=>⟨Zad,fun h=>h⟩
 | l::ls,o=>by
   have ih:=BH (b:=b) ls (o:=dI b o l);have h1:(dI b o l).length<=o.length+1:=by unfold dI;split;exact Cr;omega
   refine⟨by simp only[List.foldl_cons,Zar];omega,fun h=>ih.2 fun m hm=>?_⟩;unfold dI at hm;split at hm;rcases Cv.1 hm with hm | rfl;exact h m hm;exact Hw;exact h m hm
theorem Cq(a:w4)(t:BL):(bp a t).length<=300/\∀ m,m∈bp a t->m.length<=60:=by
 unfold bp;split;have h:=BH (b:=fu a t) (aN t) (o:=[]);exact⟨by have:=(pQ t).1;simp at h;omega,h.2 Zad⟩;exact⟨Zad,Zad⟩
theorem nX{α:Type}[DecidableEq α]:∀ {l u:List α},l.Nodup->(∀ x,x∈l->x∈u)->l.length<=u.length
 | [],_,_,_=>by simp
 | x::r,u,hn,hs=>by
   have hx:=hs x Zad;have V':=List.nodup_cons.1 hn;have h:=nX (l:=r) (u:=u.erase x) V'.2 (fun y hy=>(List.mem_erase_of_ne (by rintro rfl;exact V'.1 hy)).2 (hs y (by simp[hy])));rw[List.length_erase_of_mem hx]at h;have:=List.length_pos_of_mem hx;simp only[Zar];omega
theorem Hz(a:BL)(k:Int)(t:BL):(ae a k t).length<=300:=by
 unfold ae;split;exact(Cq _ _).1;split <;> simp
section
variable {N:Nat} {A A' B:AS} {P:Program}
theorem Kk{X:Type}{v:V}{k:Nat}{Sl Hl:List Nat}(hk:k∈Hl)(fs:List Nat):Tl (fun (_:X) B=>AS.setAt B (.key k) [] v) fs Sl Hl where
 g:=fun _ B t _=>bE
 h:=fun _ B q hq=>pM (fun c=>hq (by rw[c];exact hk))
 c:=fun _ B B' hB=>⟨fun q=>by rw[bE,bE];exact hB.1 q,fun k=>fN hB.2⟩
 p:=fun _ B q v' _ _=>⟨fun q2=>by rw[bE,AS.aC,AS.aC,bE],fun k=>fN fun _=>rfl⟩
 q:=fun _ B q gv hq=>mB (fun c=>hq (by rw[c];exact hk))
def ZK(k:Nat):Eu P where
 X:=Unit
 pre N o A _ Hl:=match o.op,o.dst with
  | .store T x (.tmp y),none=>match ti P T,A.ev x,lk k A.h with
    | some i,.ptr (.key q) [] g o',some (g0,u)=>match q==k&&!(A.get y).df&&(A.get y).isVal&&(A.get y).n==u.n&&(A.get y).n==i.sz&&Hl.contains k&&o'==0 with
      | true=>g0=g
      | false=>False
    | _,_,_=>False
  | _,_=>False
 U o A _ B:=match o.op with
   | .store _ _ (.tmp y)=>B.setAt (.key k) [] (A.get y)
   | _=>B
 WH:=by
  rintro N ⟨dst,op,ty,pos,after,D8⟩ A Sl Hl hp fs;simp only at hp;split at hp;split at hp;split at hp;rename_i e1;simp only[Zao,Zbi,Zbk]at e1;exact Kk e1.1.2 fs;exact hp.elim;exact hp.elim;exact hp.elim
 ok:=by
  rintro N ⟨dst,op,ty,pos,after,D8⟩ A A' Sl Hl-hp hA hR;simp only at hp;split at hp;rename_i T x y;split at hp;rename_i i q g o' g0 u e1 e2 e3;split at hp;rename_i e4;subst hp;simp only[Zao,Zbl,Bool.not_eq_true',Zbi,Zbk]at e4;obtain⟨⟨⟨⟨⟨⟨rfl,hw⟩,hv⟩,hn⟩,hz⟩,_⟩,rfl⟩:=e4;have hy:A'.get y=A.get y:=hA y (by simp[Op.operands]);have hd:A'.drop (.tmp y)=A':=by simp[AS.drop,hy,hw]
  refine qT (r:=.key q) (p:=[]) (g:=g0) (g':=0) (old:=u) rfl rfl e1 (by rw[<- e2];exact bB fun t ht=>hA t (by subst ht;simp[Op.operands])) (by rw[hd];simp only[AS.at,hR,e3];rfl) ?_ ?_ ?_ ?_;show (A'.get y).isVal=true;rw[hy];exact hv;show (A'.get y).n=u.n;rw[hy];exact hn;show (A'.get y).n=i.sz;rw[hy];exact hz;rw[hd];exact⟨(),by show A'.setAt (.key q) [] (A'.get y)=_;rw[hy]⟩;exact hp.elim;exact hp.elim;exact hp.elim
end
theorem EU{l:List BL}{y:BL}{i:Nat}(h:i<l.length)(e:l.getD i []=y):l.contains y=true:=by
 rw[Zam,Zat h]at e;simp only[Option.getD_some]at e;simp only[List.contains_iff_mem];exact e ▸ List.getElem_mem h
theorem FX{l:List BL}{y:BL}(h:∀ j,j<l.length->l.getD j []≠y):l.contains y=false:=by
 rw[Bool.eq_false_iff];simp only[ne_eq,List.contains_iff_mem];intro hm;obtain⟨j,hj,e⟩:=Zbg.1 hm;have:=h j hj;rw[Zam,Zat hj]at this;exact this e
theorem c8{c k:UInt8}(h:((c.toNat:Nat):Int)=((k.toNat:Nat):Int)):c=k:=UInt8.toNat_inj.1 Zac
theorem Tv{c k:UInt8}(h: ¬ ((c.toNat:Nat):Int)=((k.toNat:Nat):Int)): ¬ c=k:=fun e=>h (by rw[e])
theorem b8{c k:UInt8}:(c==k)=(((c.toNat:Nat):Int)==((k.toNat:Nat):Int)):=by
 rw[Za6,Zbl,Zbl,<- UInt8.toNat_inj];omega
theorem KU{t:BL}{o:List BL}{r:Bool}{q i:Nat}(h:0<q)(e:t.getD i 0=62):dC t (o,r,q) i=(o++[(t.take i).drop (q-1)],r,0):=if_pos ⟨h,e⟩
theorem LL{t:BL}{o:List BL}{r:Bool}{q i:Nat}(h:0<q)(e: ¬ t.getD i 0=62):dC t (o,r,q) i=(o,r,q):=by
 unfold dC;rw[if_neg (fun c=>e c.2),if_pos h]
theorem Ll{t:BL}{o:List BL}{r:Bool}{i:Nat}(h:r=true):dC t (o,r,0) i=(o,!(t.getD i 0==41),0):=by
 unfold dC;rw[if_neg (fun c=>absurd c.1 Zad),if_neg Zad,if_pos h]
theorem Mg{t:BL}{o:List BL}{r:Bool}{i:Nat}(h:r=false)(e:t.getD i 0=40):dC t (o,r,0) i=(o,true,0):=by
 unfold dC;rw[if_neg (fun c=>absurd c.1 Zad),if_neg Zad,if_neg (by rw[h];exact Bool.false_ne_true),if_pos e]
theorem KO{t:BL}{o:List BL}{r:Bool}{i:Nat}(h:r=false)(e: ¬ t.getD i 0=40)(e2:t.getD i 0=60):dC t (o,r,0) i=(o,false,i+2):=by
 unfold dC;rw[if_neg (fun c=>absurd c.1 Zad),if_neg Zad,if_neg (by rw[h];exact Bool.false_ne_true),if_neg e,if_pos e2]
theorem KV{t:BL}{o:List BL}{r:Bool}{i:Nat}(h:r=false)(e: ¬ t.getD i 0=40)(e2: ¬ t.getD i 0=60):dC t (o,r,0) i=(o,r,0):=by
 unfold dC;rw[if_neg (fun c=>absurd c.1 Zad),if_neg Zad,if_neg (by rw[h];exact Bool.false_ne_true),if_neg e,if_neg e2]
theorem head_eq{m:BL}(h:(((cv m).toNat:Nat):Int)=64):(cv m==64)=true:=by
 rw[Zbl,<- UInt8.toNat_inj];show (cv m).toNat=64;omega
theorem head_ne{m:BL}(h: ¬ (((cv m).toNat:Nat):Int)=64):(cv m==64)=false:=by
 rw[beq_eq_false_iff_ne];intro e;rw[e]at h;exact h rfl
theorem uv{m:BL}:eZ m=true↔¬ (((cv m).toNat:Nat):Int)=33/\¬ (((cv m).toNat:Nat):Int)=64:=by
 unfold eZ;simp only[Zao,Bool.not_eq_true',beq_eq_false_iff_ne,ne_eq,<- UInt8.toNat_inj];show (¬ (cv m).toNat=33/\¬ (cv m).toNat=64)↔_;omega
theorem Mi{m:BL}(h: ¬ (((cv m).toNat:Nat):Int)=33/\¬ (((cv m).toNat:Nat):Int)=64):eZ m=true:=uv.2 h
theorem Mx{m:BL}(h: ¬ (((cv m).toNat:Nat):Int)=33->(((cv m).toNat:Nat):Int)=64):eZ m=false:=by
 rw[Bool.eq_false_iff];exact fun c=>(uv.1 c).2 (h (uv.1 c).1)
theorem HD{m:BL}(h:(((cv m).toNat:Nat):Int)=64):1<=m.length:=by
 cases m with
 | nil=>exact absurd h Zaf
 | cons a r=>simp
theorem Ap(t:BL):((bh t).getD []).length<=300:=by
 cases h:bh t with
 | none=>simp
 | some r=>exact(Cw h).1
theorem EP{t:BL}{i:Nat}{o:List BL}{r:Bool}{q:Nat}(h1:i<=t.length)(h2:t.length<=300\/i=0)(h3:bQ t i=(o,r,q))(hb:(i:Int)<(t.length:Int)->300<(t.length:Int)):ar t=o:=by
 unfold ar;split;obtain rfl:i=t.length:=Zac;rw[h3];obtain rfl:i=0:=Zac;exact Zbm Prod.fst h3
theorem Cd{l:List BL}{k m:Nat}(h:∀ i,(l.getD i []).length<=m):∀ i,((l.take k).getD i []).length<=m:=fun i=>by
 have:=h i;rw[Zam]at this ⊢;rw[List.getElem?_take];split;exact this;simp
theorem oI{a:w4}{ref:BL}(h:aI a=true/\(ref.length:Int)<=60):H5 a ref=if 2<=(ab 35 ref).1.length/\(ab 35 ref).1.take 2=[47,47] then dM ((ab 35 ref).1.drop 2)
 else if (ab 35 ref).1=[] then some a
 else if cv (ab 35 ref).1=47 then ct a.j9 [] (ab 35 ref).1
 else if cv (ab 35 ref).1=63 then ct a.j9 a.e9 (ab 35 ref).1
 else ct a.j9 (a.e9.take (a.e9.length-1)) (ab 35 ref).1:=by
 unfold H5;rw[if_neg (by rintro (c | c);rw[h.1]at c;cases c;omega)]
theorem OB{s:BL}(h:2<=(s.length:Int)/\(s.take 2).drop (0:Int).toNat=[47,47]):2<=s.length/\s.take 2=[47,47]:=⟨Zac,by simpa using h.2⟩
theorem Dg{s:BL}(h:2<=(s.length:Int)->¬ (s.take 2).drop (0:Int).toNat=[47,47]): ¬ (2<=s.length/\s.take 2=[47,47]):=fun c=>h Zac (by simpa using c.2)
theorem yF{s:BL}{k:UInt8}(h:(((s.getD 0 0).toNat:Nat):Int)=((k.toNat:Nat):Int)):cv s=k:=UInt8.toNat_inj.1 (by unfold cv;omega)
theorem sJ{s:BL}{k:UInt8}(h: ¬ (((s.getD 0 0).toNat:Nat):Int)=((k.toNat:Nat):Int)): ¬ cv s=k:=fun c=>h (by rw[<- c];rfl)
theorem mM{a:w4}{t:BL}(h:(bh t).isSome=true)(h2:(H5 a ((bh t).getD [])).isSome=true):oA (H5 a ((bh t).getD []))=fu a t:=by
 unfold fu;cases e:bh t with
 | none=>rw[e]at h;cases h
 | some r=>
   rw[e]at h2;simp only[Option.getD_some]at h2 ⊢;cases e2:H5 a r with
   | none=>rw[e2]at h2;cases h2
   | some x=>rfl
theorem mT{a:w4}{t:BL}(h:(bh t).isSome=true)(h2:(H5 a ((bh t).getD [])).isSome=false):a=fu a t:=by
 unfold fu;cases e:bh t with
 | none=>rfl
 | some r=>
   rw[e]at h2;simp only[Option.getD_some]at h2 ⊢;cases e2:H5 a r with
   | none=>rfl
   | some x=>rw[e2]at h2;cases h2
theorem mV{a:w4}{t:BL}(h:(bh t).isSome=false):a=fu a t:=by
 unfold fu;cases e:bh t with
 | none=>rfl
 | some r=>rw[e]at h;cases h
def BS(l:List BL)(y:BL):aw:=.mk 170 [.ow 1 (l.map sV),sV y] [] (l.length<=1000000) (.ow 1 ((kD l y).map sV)) [] (by
 intro hl
 refine au Tryz.func170
  (.ot 0 (fun g0 o0 c0=>.l8 2<|.loop Nat (fun i=>⟨[(0,.own 1 (l.map sV) g0 o0 c0),(1,sV y),(5,iN i)],[]⟩) (fun i=>i<=l.length/\∀ j,j<i->(l.getD j []==y)=false) (fun i=>l.length-i) (fun i=>.q 4<|.br (.r 6 [sV (l.getD i [])]<|.br (.mv<|.q 1<|.nil) (.q 3<|.nil)) (.q 2<|.bs<|.ap (fun g22 Sw SN=>.h (.m9 22 (.own 1 ((l++[y]).map sV) g22 Sw SN))<|.q 1<|.nil)))))
  ((fun v1:Nat->Prop=>(∀ g0 o0 c0:Nat,(fun v2:V=>(∃ j7:Nat,(v1 j7)/\E v2/\E (sV y)/\Q (iN 0) (iN j7)/\True)/\∀ i:Nat,(v1 i)->Br (r5 (i:Int) (((l.map sV).length:Nat):Int)) (In (i:Int) ((l.map sV).length)/\(V.at g0 o0 v2 [0+i]=some (g0,(o0+(0+i)*1),sV (l.getD i [])))/\Br ((l.getD i [])==y) (Q (.ow 1 (l.map sV)) (.ow 1 ((kD l y).map sV))) (m6 ((i:Int)+1)/\∃ b9:Nat,(v1 b9)/\(l.length-b9<l.length-i)/\E v2/\E (sV y)/\Q (iN (i+1)) (iN b9)/\True)) (((1,1,g0,o0,c0,(l.map sV).length)=(1,1,g0,o0,c0,(l.map sV).length))/\(True)/\(V.ax ([sV y]:List V)=false)/\(aR 1 ([sV y]:List V))/\(((l.map sV).length+([sV y]:List V).length)*16<=140737488355328)/\∀ g22 Sw SN:Nat,((.own 1 ((l.map sV)++([sV y]:List V)) g22 Sw SN:V)=.own 1 ((l++[y]).map sV) g22 Sw SN)/\Q (.ow 1 ((l++[y]).map sV)) (.ow 1 ((kD l y).map sV)))) (.own 1 (l.map sV) g0 o0 c0))) (fun j7:Nat=>j7<=l.length/\∀ j,j<j7->(l.getD j []==y)=false)) ?_
 intro g0 o0 c0;refine⟨⟨0,?_,ak⟩,?_⟩;simp;rintro i ⟨h1,h2⟩;refine bI (fun j8=>?_) fun j8=>?_;refine ah ⟨gP (by rw[Zaw];exact ag (d:=[]) Zac),bI (fun l4=>?_) fun l4=>?_⟩;rw[show kD l y=l from if_pos (EU (i:=i) Zac l4)];refine ah ⟨i+1,?_,?_,ak⟩;exact⟨Zac,Zdw⟩;exact Zak;refine cF ⟨Zal,fun g22 Sw SN=>⟨Zbm (V.own 1 · g22 Sw SN) Zad,?_⟩⟩;rw[show kD l y=l++[y] from if_neg (by rw[FX (fun j hj=>by have:=h2 j Zac;simpa using this)];decide)])
def oe(t:BL):aw:=.mk 196 [sV t] [] (t.length<=4611686018427387904) (ao (ar t)) [] (by
 intro ht
 refine au Tryz.func196
  (.q 1<|.bs<|.l8 4<|.h (.I7 3 1)<|.loop (Nat×(List BL)×Bool×Nat×Nat×Nat×Nat) (fun (i,o,r,q,g,f,k)=>⟨[(0,sV t),(3,.own 1 (o.map sV) g f k),(4,bV r),(5,iV ((q:Int)-1)),(6,iN i)],[]⟩) (fun (i,o,r,q,g,f,k)=>i<=t.length/\(t.length<=300\/i=0)/\bQ t i=(o,r,q)) (fun (i,o,r,q,g,f,k)=>t.length-i) (fun (i,o,r,q,g,f,k)=>.q 9<|.br (.q 9<|.br (.q 4<|.h (.m9 5 (iN (q-1)))<|.h (.m9 20 (iN (q-1)))<|.h (.m9 30 (iN (q-1)))<|.q 1<|.bs<|.ap (fun SJ Sv SM=>.h (.m9 34 (.own 1 ((o++[(t.take i).drop (q-1)]).map sV) SJ Sv SM))<|.l8 2<|.q 3<|.nil)) (.q 3<|.br (.q 3<|.nil) (.q 2<|.br (.q 5<|.q 3<|.nil) (.q 5<|.br (.q 1<|.q 3<|.nil) (.q 5<|.br (.q 3<|.q 3<|.nil) (.q 3<|.nil)))))) (.h (.fz 3)<|.h (.m9 3 (ao o))<|.q 2<|.nil)))
  ((∃ x:Nat×(List BL)×Bool×Nat×Nat×Nat×Nat,match x with | (j7,s5,PQ,w9,y9,A3,n8)=>(j7<=t.length/\(t.length<=300\/j7=0)/\bQ t j7=(s5,PQ,w9))/\E (sV t)/\Q (.own 1 ([].map sV) 0 0 0) (.own 1 (s5.map sV) y9 A3 n8)/\Q (bV false) (bV PQ)/\Q (iV (-1)) (iV ((w9:Int)-1))/\Q (iN 0) (iN j7)/\True)/\∀ x:Nat×(List BL)×Bool×Nat×Nat×Nat×Nat,match x with | (i,o,r,q,g,f,k)=>(i<=t.length/\(t.length<=300\/i=0)/\bQ t i=(o,r,q))->(fun (v5 v4:Bool) (v3:V) (v2:Int) (v1:List V)=>Pk v5 (v5==true) true/\Br (v5&&(E4 (t.length:Int) 300)) (Gd (v4==true) (Ix (i:Int) t)/\Pk v4 (v4==true) true/\Br (v4&&(o6 v2 62)) (((iV ((q:Int)-1):V)=iN (q-1))/\((iV ((q:Int)-1):V)=iN (q-1))/\((iV ((q:Int)-1):V)=iN (q-1))/\Sx ((q-1:Nat):Int) (i:Int) t/\((1,1,g,f,k,(o.map sV).length)=(1,1,g,f,k,(o.map sV).length))/\(True)/\(V.ax v1=false)/\(aR 1 v1)/\(((o.map sV).length+v1.length)*16<=140737488355328)/\∀ SJ Sv SM:Nat,((.own 1 ((o.map sV)++v1) SJ Sv SM:V)=.own 1 ((o++[(t.take i).drop (q-1)]).map sV) SJ Sv SM)/\m6 ((i:Int)+1)/\∃ x:Nat×(List BL)×Bool×Nat×Nat×Nat×Nat,match x with | (b9,l7,D4,n7,r3,o5,k₂)=>(b9<=t.length/\(t.length<=300\/b9=0)/\bQ t b9=(l7,D4,n7))/\(t.length-b9<t.length-i)/\E (sV t)/\Q (.own 1 ((o++[(t.take i).drop (q-1)]).map sV) SJ Sv SM) (.own 1 (l7.map sV) r3 o5 k₂)/\Q (bV r) (bV D4)/\Q (iV (-1)) (iV ((n7:Int)-1))/\Q (iN (i+1)) (iN b9)/\True) (Br v4 (m6 ((i:Int)+1)/\∃ x:Nat×(List BL)×Bool×Nat×Nat×Nat×Nat,match x with | (b9,l7,D4,n7,r3,o5,k₂)=>(b9<=t.length/\(t.length<=300\/b9=0)/\bQ t b9=(l7,D4,n7))/\(t.length-b9<t.length-i)/\E (sV t)/\Q v3 (.own 1 (l7.map sV) r3 o5 k₂)/\Q (bV r) (bV D4)/\Q (iV ((q:Int)-1)) (iV ((n7:Int)-1))/\Q (iN (i+1)) (iN b9)/\True) (Br r (Ix (i:Int) t/\m6 ((i:Int)+1)/\∃ x:Nat×(List BL)×Bool×Nat×Nat×Nat×Nat,match x with | (b9,l7,D4,n7,r3,o5,k₂)=>(b9<=t.length/\(t.length<=300\/b9=0)/\bQ t b9=(l7,D4,n7))/\(t.length-b9<t.length-i)/\E (sV t)/\Q v3 (.own 1 (l7.map sV) r3 o5 k₂)/\Q (bV (D2 v2 41)) (bV D4)/\Q (iV ((q:Int)-1)) (iV ((n7:Int)-1))/\Q (iN (i+1)) (iN b9)/\True) (Ix (i:Int) t/\Br (o6 v2 40) (m6 ((i:Int)+1)/\∃ x:Nat×(List BL)×Bool×Nat×Nat×Nat×Nat,match x with | (b9,l7,D4,n7,r3,o5,k₂)=>(b9<=t.length/\(t.length<=300\/b9=0)/\bQ t b9=(l7,D4,n7))/\(t.length-b9<t.length-i)/\E (sV t)/\Q v3 (.own 1 (l7.map sV) r3 o5 k₂)/\Q (bV true) (bV D4)/\Q (iV ((q:Int)-1)) (iV ((n7:Int)-1))/\Q (iN (i+1)) (iN b9)/\True) (Ix (i:Int) t/\Br (o6 v2 60) (m6 ((i:Int)+1)/\m6 ((i:Int)+1)/\∃ x:Nat×(List BL)×Bool×Nat×Nat×Nat×Nat,match x with | (b9,l7,D4,n7,r3,o5,k₂)=>(b9<=t.length/\(t.length<=300\/b9=0)/\bQ t b9=(l7,D4,n7))/\(t.length-b9<t.length-i)/\E (sV t)/\Q v3 (.own 1 (l7.map sV) r3 o5 k₂)/\Q (bV r) (bV D4)/\Q (iN (i+1)) (iV ((n7:Int)-1))/\Q (iN (i+1)) (iN b9)/\True) (m6 ((i:Int)+1)/\∃ x:Nat×(List BL)×Bool×Nat×Nat×Nat×Nat,match x with | (b9,l7,D4,n7,r3,o5,k₂)=>(b9<=t.length/\(t.length<=300\/b9=0)/\bQ t b9=(l7,D4,n7))/\(t.length-b9<t.length-i)/\E (sV t)/\Q v3 (.own 1 (l7.map sV) r3 o5 k₂)/\Q (bV r) (bV D4)/\Q (iV ((q:Int)-1)) (iV ((n7:Int)-1))/\Q (iN (i+1)) (iN b9)/\True)))))) (((.sl false (V.E6 (o.map sV)):V)=ao o)/\Q (ao o) (ao (ar t)))) (r5 (i:Int) (t.length:Int)) (A9 ((q:Int)-1) 0) (.own 1 (o.map sV) g f k) (((t.getD i 0).toNat:Nat):Int) ([sV ((t.take i).drop (q-1))]:List V)) ?_
 refine⟨⟨(0,[],false,0,0,0,0),?_,rfl,rfl,rfl,Zah,ak⟩,?_⟩;exact⟨Zac,.inr rfl,rfl⟩;rintro⟨i,o,r,q,g,f,k⟩ ⟨h1,h2,h3⟩;have Vc:=rZ t i;rw[h3]at Vc;have UO:=Vc.len;have Zk:=Vc.pos;have Zj:=Vc.one;simp only at UO Zk Zj;refine ah (bI (fun j8=>?_) fun j8=>?_);refine aS (bI (fun l4=>?_) fun l4=>?_);refine⟨(Zbm iV Zac),(Zbm iV Zac),(Zbm iV Zac),eh ⟨Zal,fun SJ Sv SM=>⟨Zbm (V.own 1 · SJ Sv SM) Zad,ah ⟨(i+1,o++[(t.take i).drop (q-1)],r,0,SJ,Sv,SM),?_,?_,rfl,rfl,rfl,Zdx,ak⟩⟩⟩⟩;refine⟨Zac,.inl Zac,?_⟩;rw[show bQ t (i+1)=dC t (bQ t i) i from rfl,h3,KU Zac (c8 (k:=62) l4.2)];exact Zak;refine bI (fun m8=>?_) fun m8=>?_;refine ah ⟨(i+1,o,r,q,g,f,k),?_,?_,rfl,rfl,rfl,Zdx,ak⟩;refine⟨Zac,.inl Zac,?_⟩;rw[show bQ t (i+1)=dC t (bQ t i) i from rfl,h3,LL Zac (Tv (k:=62) (l4 m8))];exact Zak;refine bI (fun w6=>?_) fun w6=>?_;refine aS ⟨(i+1,o,D2 (((t.getD i 0).toNat:Nat):Int) 41,q,g,f,k),?_,?_,rfl,rfl,rfl,Zdx,ak⟩;refine⟨Zac,.inl Zac,?_⟩;obtain rfl:q=0:=Zac;rw[show bQ t (i+1)=dC t (bQ t i) i from rfl,h3,Ll w6,b8];rfl;exact Zak;refine ah (bI (fun D1=>?_) fun D1=>?_);refine ah ⟨(i+1,o,true,q,g,f,k),?_,?_,rfl,rfl,rfl,Zdx,ak⟩;refine⟨Zac,.inl Zac,?_⟩;obtain rfl:q=0:=Zac;rw[show bQ t (i+1)=dC t (bQ t i) i from rfl,h3,Mg w6 (c8 (k:=40) D1)];exact Zak;refine ah (bI (fun PE=>?_) fun PE=>?_);refine aS ⟨(i+1,o,r,i+2,g,f,k),?_,?_,rfl,rfl,rfl,Zdx,ak⟩;refine⟨Zac,.inl Zac,?_⟩;obtain rfl:q=0:=Zac;rw[show bQ t (i+1)=dC t (bQ t i) i from rfl,h3,KO w6 (Tv (k:=40) D1) (c8 (k:=60) PE),w6];exact Zak;refine ah ⟨(i+1,o,r,q,g,f,k),?_,?_,rfl,rfl,rfl,Zdx,ak⟩;refine⟨Zac,.inl Zac,?_⟩;obtain rfl:q=0:=Zac;rw[show bQ t (i+1)=dC t (bQ t i) i from rfl,h3,KV w6 (Tv (k:=40) D1) (Tv (k:=60) PE)];exact Zak;refine⟨Zcd,?_⟩;rw[show ar t=o from EP h1 h2 h3 j8])
def lA(s:BL):aw:=.mk 197 [sV s] [] (s.length<=4611686018427387904) (uN ((cv s).toNat)) [] (by
 intro hs
 refine au Tryz.func197
  (.q 1<|.q 2<|.br (.q 1<|.nil) (.q 3<|.nil))
  (Br (s==[]) (Q (uN 0) (uN ((cv s).toNat))) (Ix 0 s/\Q (uN ((s.getD 0 0).toNat)) (uN ((cv s).toNat)))) ?_
 refine bI (fun j8=>?_) fun j8=>?_;unfold Q;simp_all[cv];refine⟨by have:=List.length_pos_iff.2 j8;omega,?_⟩;rfl)
abbrev iE(t:BL)(i:Nat):Prop:=i<=(ar t).length/\∀ j,j<i->(cv ((ar t).getD j [])==64)=false
def uF(t:BL):aw:=.mk 167 [sV t] [] (t.length<=4611686018427387904) (.tup [sV ((bh t).getD []),bV ((bh t).isSome)]) [] (by
 intro ht;obtain⟨UO,Uc⟩:=kZ t
 refine au Tryz.func167
  (.q 2<|.q 1<|.c (oe t) []<|.l8 2<|.loop Nat (fun i=>⟨[(4,ao (ar t)),(5,iN i)],[]⟩) (fun i=>iE t i) (fun i=>(ar t).length-i) (fun i=>.q 4<|.br (.r 4 [sV ((ar t).getD i [])]<|.c (lA ((ar t).getD i [])) []<|.q 1<|.br (.r 7 [sV ((ar t).getD i [])]<|.nil) (.q 3<|.nil)) (.q 2<|.nil)))
  ((fun v1:V=>((oe t).sm/\((t.length<=4611686018427387904))/\(∃ j7:Nat,(iE t j7)/\E (ao (ar t))/\Q (iN 0) (iN j7)/\True)/\∀ i:Nat,(iE t i)->Br (r5 (i:Int) ((((ar t).map sV).length:Nat):Int)) (Ex (i:Int) ((ar t).map sV) (sV ((ar t).getD i []))/\True/\(lA ((ar t).getD i [])).sm/\((((ar t).getD i []).length<=4611686018427387904))/\Br (o6 (((cv ((ar t).getD i [])).toNat:Nat):Int) 64) (Ex (i:Int) ((ar t).map sV) (sV ((ar t).getD i []))/\True/\Sx (1:Int) (((ar t).getD i []).length:Int) ((ar t).getD i [])/\Q (.tup [sV ((((ar t).getD i []).take ((ar t).getD i []).length).drop 1),bV true]) v1) (m6 ((i:Int)+1)/\∃ b9:Nat,(iE t b9)/\((ar t).length-b9<(ar t).length-i)/\E (ao (ar t))/\Q (iN (i+1)) (iN b9)/\True)) (Q (.tup [sV [],bV false]) v1))) (.tup [sV ((bh t).getD []),bV ((bh t).isSome)])) ?_
 refine aS ⟨⟨0,?_,ak⟩,?_⟩;unfold iE;simp;rintro i ⟨h1,h2⟩;have M7:=im (n:=300) (fun m hm=>(Uc m hm).1) i;refine bI (fun j8=>?_) fun j8=>?_;refine⟨Zce,aY (bI (fun l4=>?_) fun l4=>?_)⟩;refine⟨Zce,trivial,by have:=HD l4;omega,?_⟩;rw[show bh t=some (((ar t).getD i []).drop 1) from by rw[bh,wX (i:=i) (d:=[]) Zac (head_eq l4) h2];rfl,List.take_length];rfl;refine ah ⟨i+1,?_,?_,ak⟩;unfold iE;exact⟨Zac,bg h2 (head_ne l4)⟩;exact Zak;rw[show bh t=none from by rw[bh,Bl (d:=[]) (fun j hj=>h2 j Zac)];rfl];rfl)
def tq(t:BL):aw:=.mk 169 [sV t] [] (t.length<=4611686018427387904) (ao (aN t)) [] (by
 intro ht;obtain⟨UO,Uc⟩:=kZ t
 refine au Tryz.func169
  (.l8 2<|.c (oe t) []<|.q 1<|.bs<|.l8 2<|.h (.I7 4 1)<|.loop (Nat×(List BL)×Nat×Nat×Nat) (fun (i,o,g,f,k)=>⟨[(3,ao (ar t)),(4,.own 1 (o.map sV) g f k),(5,iN i)],[]⟩) (fun (i,o,g,f,k)=>i<=(ar t).length/\o=((ar t).take i).filter eZ/\o.length<=i) (fun (i,o,g,f,k)=>(ar t).length-i) (fun (i,o,g,f,k)=>.q 4<|.br (.r 4 [sV ((ar t).getD i [])]<|.c (lA ((ar t).getD i [])) []<|.r 6 [sV ((ar t).getD i [])]<|.cg (lA ((ar t).getD i []))<|.q 2<|.br (.r 5 [sV ((ar t).getD i [])]<|.bs<|.ap (fun Q4 QZ Q6=>.h (.m9 35 (.own 1 ((o++[((ar t).getD i [])]).map sV) Q4 QZ Q6))<|.q 1<|.q 3<|.nil)) (.q 3<|.nil)) (.h (.fz 4)<|.h (.m9 4 (ao o))<|.q 2<|.nil)))
  ((fun v1:List V=>((oe t).sm/\((t.length<=4611686018427387904))/\(∃ x:Nat×(List BL)×Nat×Nat×Nat,match x with | (j7,s5,y9,A3,n8)=>(j7<=(ar t).length/\s5=((ar t).take j7).filter eZ/\s5.length<=j7)/\E (ao (ar t))/\Q (.own 1 ([].map sV) 0 0 0) (.own 1 (s5.map sV) y9 A3 n8)/\Q (iN 0) (iN j7)/\True)/\∀ x:Nat×(List BL)×Nat×Nat×Nat,match x with | (i,o,g,f,k)=>(i<=(ar t).length/\o=((ar t).take i).filter eZ/\o.length<=i)->(fun (v4:V) (v3:List V) (v2:Int)=>Br (r5 (i:Int) ((v1.length:Nat):Int)) (Ex (i:Int) v1 v4/\True/\(lA ((ar t).getD i [])).sm/\((((ar t).getD i []).length<=4611686018427387904))/\Gd ((D2 v2 33)==true) (Ex (i:Int) v1 v4)/\Gd ((D2 v2 33)==true) True/\Gd ((D2 v2 33)==true) (((((ar t).getD i []).length<=4611686018427387904))/\(lA ((ar t).getD i [])).sm)/\Pk (D2 v2 33) ((D2 v2 33)==true) true/\Br ((D2 v2 33)&&(D2 v2 64)) (Ex (i:Int) v1 v4/\True/\((1,1,g,f,k,(o.map sV).length)=(1,1,g,f,k,(o.map sV).length))/\(True)/\(V.ax v3=false)/\(aR 1 v3)/\(((o.map sV).length+v3.length)*16<=140737488355328)/\∀ Q4 QZ Q6:Nat,((.own 1 ((o.map sV)++v3) Q4 QZ Q6:V)=.own 1 ((o++[((ar t).getD i [])]).map sV) Q4 QZ Q6)/\m6 ((i:Int)+1)/\∃ x:Nat×(List BL)×Nat×Nat×Nat,match x with | (b9,l7,r3,o5,k₂)=>(b9<=(ar t).length/\l7=((ar t).take b9).filter eZ/\l7.length<=b9)/\((ar t).length-b9<(ar t).length-i)/\E (ao (ar t))/\Q (.own 1 ((o++[((ar t).getD i [])]).map sV) Q4 QZ Q6) (.own 1 (l7.map sV) r3 o5 k₂)/\Q (iN (i+1)) (iN b9)/\True) (m6 ((i:Int)+1)/\∃ x:Nat×(List BL)×Nat×Nat×Nat,match x with | (b9,l7,r3,o5,k₂)=>(b9<=(ar t).length/\l7=((ar t).take b9).filter eZ/\l7.length<=b9)/\((ar t).length-b9<(ar t).length-i)/\E (ao (ar t))/\Q (.own 1 (o.map sV) g f k) (.own 1 (l7.map sV) r3 o5 k₂)/\Q (iN (i+1)) (iN b9)/\True)) (((.sl false (V.E6 (o.map sV)):V)=ao o)/\Q (ao o) (ao (aN t)))) (sV ((ar t).getD i [])) ([sV ((ar t).getD i [])]:List V) (((cv ((ar t).getD i [])).toNat:Nat):Int))) ((ar t).map sV)) ?_
 refine aS ⟨⟨(0,[],0,0,0),?_,ak⟩,?_⟩;simp;rintro⟨i,o,g,f,k⟩ ⟨h1,h2,h3⟩;have M7:=im (n:=300) (fun m hm=>(Uc m hm).1) i;refine bI (fun j8=>?_) fun j8=>?_;refine⟨Zce,aY ⟨fun hG=>ah (ag (d:=[]) Zac),ah ⟨fun hG=>⟨Zcq,rfl⟩,ah (bI (fun l4=>?_) fun l4=>?_)⟩⟩⟩;refine⟨Zce,eh ⟨Zal,fun Q4 QZ Q6=>⟨Zbm (V.own 1 · Q4 QZ Q6) Zad,ah ⟨(i+1,o++[((ar t).getD i [])],Q4,QZ,Q6),?_,?_,ak⟩⟩⟩⟩;refine⟨Zac,?_,Zal⟩;rw[aX (d:=[]) Zac,List.filter_append,<- h2,List.filter_cons_of_pos (Mi l4)];rfl;exact Zak;refine ah ⟨(i+1,o,g,f,k),?_,?_,ak⟩;refine⟨Zac,?_,ak⟩;rw[aX (d:=[]) Zac,List.filter_append,<- h2,List.filter_cons_of_neg (by rw[Mx l4];decide)];simp;exact Zak;refine⟨Zcd,?_⟩;rw[h2,Zaz Zac];rfl)
abbrev Al(a:w4):V:=.agg [sV a.j9,ao (a.e9.take (a.e9.length-1)),bV false,sV []]
def Gg(a:w4):aw:=.mk 198 [aD a] [] (cD a) (Al a) [] (by
 intro ha;have Zv:=ha.2.2.1
 refine au Tryz.func198
  (.bx (fun g1=>.al cK (fun g2=>.C6 12 [(1,n6 [1] [4]),(4,n6 [1] [7]),(6,n6 [1] [9]),(11,⟨true,[],none,[14],[]⟩)]<|.q 1<|.n9<|.bs<|.q 1<|.n9<|.q 1<|.n9<|.l8 2<|.mm<|.q 1<|.h (.m9 13 (ao (a.e9.take (a.e9.length-1))))<|.ux none (fun g14 XF Yb=>.h (.m9 14 (.own 1 ((a.e9.take (a.e9.length-1)).map sV) g14 XF Yb))<|.h (.fz 14)<|.h (.m9 14 (ao (a.e9.take (a.e9.length-1))))<|.bd cK<|.st none<|.nil))))
  ((fun (v2:Int) (v1:List V)=>(∀ g1:Nat,∀ g2:Nat,Z g1 0/\Z g1 1/\Z g1 1/\m6 (v2-1)/\(IntKind.i64=IntKind.i64)/\((0:Int)<=(0:Int)/\(0:Int)<=(max (v2-1) 0)/\(max (v2-1) 0)<=(a.e9.map sV).length/\∀ x∈(a.e9.map sV),x.n=1)/\Q (.sl false (((a.e9.map sV).take (Int.toNat (max (v2-1) 0))).drop ((0:Int).toNat))) (ao (a.e9.take (a.e9.length-1)))/\((True)/\(V.ax v1=false)/\(aR 1 v1)/\((([]:List V).length+v1.length)*16<=140737488355328))/\∀ g14 XF Yb:Nat,((.own 1 (([]:List V)++v1) g14 XF Yb:V)=.own 1 v1 g14 XF Yb)/\((.sl false (V.E6 v1):V)=ao (a.e9.take (a.e9.length-1)))/\Z g2 0/\(g2=g2)/\Q (.agg [sV a.j9,ao (a.e9.take (a.e9.length-1)),bV false,sV []]) (Al a))) (((a.e9.map sV).length:Nat):Int) ((a.e9.take (a.e9.length-1)).map sV)) ?_
 intro g1;intro g2;refine eh ⟨⟨Zcf,Zcf,Zcf,all_map (fun _=>rfl)⟩,Zdy,⟨trivial,(bq (f:=sV) (fun _=>rfl) _),(bX (f:=sV) (fun _=>rfl) _),Zal⟩,?_⟩;intro g14 XF Yb;refine⟨Zbm (V.own 1 · g14 XF Yb) (List.nil_append _),Zcd,rfl,⟨rfl,?_⟩⟩;unfold Q Al;rfl)
abbrev dT(a:w4)(ref:BL):V:=.tup [aD (oA (H5 a ref)),bV ((H5 a ref).isSome)]
def mi(a:w4)(ref:BL):aw:=.mk 168 [aD a,sV ref] [] ((cD a)/\(ref.length<=1000000)) (dT a ref) [] (by
 rintro⟨ha,hr⟩;have PU:=kY 35 ref;have hp:=ha.2.2.1
 refine au Tryz.func168
  (.bx (fun g2=>.al cK (fun g4=>.l8 2<|.c (iG ref (35:UInt8)) []<|.q 7<|.n9<|.c (jn a) []<|.q 7<|.br (.bd cK<|.st none<|.q 1<|.nil) (.q 9<|.br (.q 2<|.c (nO ((((ab (35:UInt8) ref).1).take ((ab (35:UInt8) ref).1).length).drop 2)) []<|.q 2<|.st none<|.q 1<|.nil) (.q 3<|.br (.bs<|.r 2 [.c9]<|.ap (fun O5 O3 P8=>.h (.m9 45 (.own 1 (a.e9.map sV) O5 O3 P8))<|.h (.fz 45)<|.h (.m9 45 (ao a.e9))<|.q 1<|.st none<|.n9<|.st none<|.q 1<|.nil)) (.q 4<|.br (.r 2 [.c9]<|.bd cK<|.q 1<|.c (iP (⟨a.j9,[],false,[]⟩:w4) ((ab (35:UInt8) ref).1)) []<|.q 2<|.st none<|.q 1<|.nil) (.q 4<|.br (.r 4 [.c9,.c9]<|.bd cK<|.q 1<|.c (iP (⟨a.j9,a.e9,false,[]⟩:w4) ((ab (35:UInt8) ref).1)) []<|.q 2<|.st none<|.q 1<|.nil) (.n9<|.c (Gg a) []<|.q 1<|.c (iP (⟨a.j9,a.e9.take (a.e9.length-1),false,[]⟩:w4) ((ab (35:UInt8) ref).1)) []<|.q 2<|.st none<|.q 1<|.nil))))))))
  ((fun (v6:Int) (v5:List V) (v4:Bool) (v3 v2 v1:w4)=>(∀ g2:Nat,∀ g4:Nat,(iG ref (35:UInt8)).sm/\((ref.length<=4611686018427387904))/\Z g2 0/\(jn a).sm/\((dg a))/\Pk (!(aI a)) true ((!(aI a))==false)/\Br ((!(aI a))||(s6 (ref.length:Int) 60)) (Z g4 0/\(g4=g4)/\Q (.tup [fV (.sl false []),bV false]) (dT a ref)) (Gd (v4==true) (Sx (0:Int) (2:Int) ((ab (35:UInt8) ref).1))/\Pk v4 (v4==true) true/\Br (v4&&(((((ab (35:UInt8) ref).1).take 2).drop ((0:Int).toNat))==([47,47]:BL))) (Sx (2:Int) (((ab (35:UInt8) ref).1).length:Int) ((ab (35:UInt8) ref).1)/\(nO ((((ab (35:UInt8) ref).1).take ((ab (35:UInt8) ref).1).length).drop 2)).sm/\((((((ab (35:UInt8) ref).1).take ((ab (35:UInt8) ref).1).length).drop 2).length<=1000))/\Z g4 0/\(g4=g4)/\Q (.tup [aD (oA (dM ((((ab (35:UInt8) ref).1).take ((ab (35:UInt8) ref).1).length).drop 2))),bV ((dM ((((ab (35:UInt8) ref).1).take ((ab (35:UInt8) ref).1).length).drop 2)).isSome)]) (dT a ref)) (Br (((ab (35:UInt8) ref).1)==[]) (Z g2 1/\(True)/\(True)/\(V.ax v5=false)/\(aR 1 v5)/\((([]:List V).length+v5.length)*16<=140737488355328)/\∀ O5 O3 P8:Nat,((.own 1 (([]:List V)++v5) O5 O3 P8:V)=.own 1 v5 O5 O3 P8)/\((.sl false (V.E6 v5):V)=ao a.e9)/\Z g2 1/\Z g2 0/\Z g4 0/\(g4=g4)/\Q (.tup [aD a,bV true]) (dT a ref)) (Ix 0 ((ab (35:UInt8) ref).1)/\Br (o6 v6 47) (Z g2 0/\(iP v3 ((ab (35:UInt8) ref).1)).sm/\((dg v3)/\(((ab (35:UInt8) ref).1).length<=1000)/\(v3.e9.length<=1000))/\Z g4 0/\(g4=g4)/\Q (.tup [aD (oA (ct v3.j9 v3.e9 ((ab (35:UInt8) ref).1))),bV ((ct v3.j9 v3.e9 ((ab (35:UInt8) ref).1)).isSome)]) (dT a ref)) (Ix 0 ((ab (35:UInt8) ref).1)/\Br (o6 v6 63) (Z g2 0/\Z g2 1/\(iP v2 ((ab (35:UInt8) ref).1)).sm/\((dg v2)/\(((ab (35:UInt8) ref).1).length<=1000)/\(v2.e9.length<=1000))/\Z g4 0/\(g4=g4)/\Q (.tup [aD (oA (ct v2.j9 v2.e9 ((ab (35:UInt8) ref).1))),bV ((ct v2.j9 v2.e9 ((ab (35:UInt8) ref).1)).isSome)]) (dT a ref)) (Z g2 0/\(Gg a).sm/\((cD a))/\(iP v1 ((ab (35:UInt8) ref).1)).sm/\((dg v1)/\(((ab (35:UInt8) ref).1).length<=1000)/\(v1.e9.length<=1000))/\Z g4 0/\(g4=g4)/\Q (.tup [aD (oA (ct v1.j9 v1.e9 ((ab (35:UInt8) ref).1))),bV ((ct v1.j9 v1.e9 ((ab (35:UInt8) ref).1)).isSome)]) (dT a ref)))))))) (((((ab (35:UInt8) ref).1).getD 0 0).toNat:Nat):Int) (a.e9.map sV) (A9 ((((ab (35:UInt8) ref).1).length:Nat):Int) 2) (⟨a.j9,[],false,[]⟩:w4) (⟨a.j9,a.e9,false,[]⟩:w4) (⟨a.j9,a.e9.take (a.e9.length-1),false,[]⟩:w4)) ?_
 intro g2;intro g4;refine cF ⟨ha.sz,ah (bI (fun j8=>?_) fun j8=>?_)⟩;refine⟨rfl,⟨rfl,?_⟩⟩;unfold Q dT;rw[show H5 a ref=none from if_pos (j8.imp id fun h=>by omega)];rfl;refine aS (bI (fun l4=>?_) fun l4=>?_);refine⟨Zac,rfl,Zco,rfl,⟨rfl,?_⟩⟩;unfold Q dT;rw[oI j8,if_pos (OB l4)];simp;refine bI (fun m8=>?_) fun m8=>?_;refine aY ⟨Zcl,Zcm,Zal,fun O5 O3 P8=>⟨Zbm (V.own 1 · O5 O3 P8) (List.nil_append _),Zcd,aY ⟨rfl,?_⟩⟩⟩;unfold Q dT;rw[oI j8,if_neg (Dg l4),if_pos Zda];rfl;refine⟨Zdz,bI (fun w6=>?_) fun w6=>?_⟩;refine⟨rfl,rfl,⟨⟨by have:=ha.1;simp only;omega,Zad,Zad,Zad⟩,ah Zad⟩,rfl,⟨rfl,?_⟩⟩;unfold Q dT;rw[oI j8,if_neg (Dg l4),if_neg Zda,if_pos (yF (k:=47) w6)];refine⟨Zdz,bI (fun D1=>?_) fun D1=>?_⟩;refine⟨rfl,rfl,rfl,⟨⟨ha.sz.1,Zad,ha.sz.2.2.1,ha.sz.2.2.2⟩,ah (by show a.e9.length<=1000;omega)⟩,rfl,⟨rfl,?_⟩⟩;unfold Q dT;rw[oI j8,if_neg (Dg l4),if_neg Zda,if_neg (sJ (k:=47) w6),if_pos (yF (k:=63) D1)];refine⟨rfl,rfl,ha,rfl,⟨⟨ha.sz.1,Zad,Zd0,Cd ha.sz.2.2.2⟩,ah Zd0⟩,rfl,⟨rfl,?_⟩⟩;unfold Q dT;rw[oI j8,if_neg (Dg l4),if_neg Zda,if_neg (sJ (k:=47) w6),if_neg (sJ (k:=63) D1)])
def sU(a:w4)(t:BL):aw:=.mk 133 [aD a,sV t] [] ((cD a)/\(t.length<=4611686018427387904)) (ao (bp a t)) [] (by
 rintro⟨ha,ht⟩;obtain⟨UO,Uc⟩:=pQ t
 refine au Tryz.func133
  (.bx (fun g2=>.q 1<|.bs<|.q 1<|.n9<|.c (jn a) []<|.q 1<|.br (.q 2<|.nil) (.q 1<|.c (uF t) []<|.q 5<|.q 1<|.join (w4) (fun b=>⟨[(0,aD a),(1,sV t),(2,kp 2 g2),(4,.sl true []),(14,.sl true []),(5,.sl true []),(15,aD a),(16,bV (aI a)),(17,bV (!(aI a))),(20,sV t),(21,.tup [sV ((bh t).getD []),bV ((bh t).isSome)]),(19,.tup [sV ((bh t).getD []),bV ((bh t).isSome)]),(22,sV ((bh t).getD [])),(23,bV ((bh t).isSome)),(6,sV ((bh t).getD [])),(7,bV ((bh t).isSome)),(24,bV ((bh t).isSome))],[(2,(g2,aD b))]⟩) (fun b=>b=(fu a t)) (.r 2 [.c9]<|.c (mi a ((bh t).getD [])) []<|.q 3<|.al cK (fun g8=>.st none<|.l8 2<|.br (.n9<|.st none<|.nil) (.nil))) (.nil) (fun b=>.q 1<|.c (tq t) []<|.l8 2<|.h (.I7 5 1)<|.loop (Nat×(List BL)) (fun (i,o)=>⟨[(2,kp 2 g2),(5,.ow 1 (o.map sV)),(10,ao (aN t)),(11,iN i)],[(2,(g2,aD b))]⟩) (fun (i,o)=>i<=(aN t).length/\o=((aN t).take i).foldl (dI b) []/\o.length<=i) (fun (i,o)=>(aN t).length-i) (fun (i,o)=>.q 4<|.br (.dx 11 [0,1,2,3,4,5,6,7,8,9,10] [(0,n6 [2] [42]),(4,n6 [] [46]),(10,⟨true,[],none,[],[12]⟩)] [(9,cK)]<|.n9<|.l8 2<|.r 1 [sV ((aN t).getD i [])]<|.q 1<|.c (mi b ((aN t).getD i [])) []<|.l8 3<|.ua (fun g12=>.eu (ZK 12) (fun _=>.l8 2<|.br (.mv<|.n9<|.c (gz (oA (H5 b ((aN t).getD i [])))) []<|.c (BS o (bz (oA (H5 b ((aN t).getD i []))))) []<|.q 1<|.q 3<|.nil) (.q 3<|.nil)))) (.h (.fz 5)<|.h (.m9 5 (ao o))<|.q 2<|.nil))))))
  ((fun (v2 v1:V)=>(∀ g2:Nat,(fun v3:V=>Z g2 0/\(jn a).sm/\((dg a))/\Br (!(aI a)) (Q (.sl false []) (ao (bp a t))) ((uF t).sm/\((t.length<=4611686018427387904))/\(((bh t).isSome)=true->Z g2 0/\(mi a ((bh t).getD [])).sm/\((cD a)/\(((bh t).getD []).length<=1000000))/\∀ g8:Nat,Z g8 0/\Br ((H5 a ((bh t).getD [])).isSome) (Z g8 0/\Z g2 0/\∃ b:w4,(b=(fu a t))/\E (aD a)/\E (sV t)/\E v3/\E (.sl true [])/\E (.sl true [])/\E (.sl true [])/\E (aD a)/\E (bV (aI a))/\E (bV (!(aI a)))/\E (sV t)/\E v1/\E v1/\E v2/\E (bV ((bh t).isSome))/\E v2/\E (bV ((bh t).isSome))/\E (bV ((bh t).isSome))/\Qr g2 (aD (oA (H5 a ((bh t).getD [])))) g2 (aD b)/\True) (∃ b:w4,(b=(fu a t))/\E (aD a)/\E (sV t)/\E v3/\E (.sl true [])/\E (.sl true [])/\E (.sl true [])/\E (aD a)/\E (bV (aI a))/\E (bV (!(aI a)))/\E (sV t)/\E v1/\E v1/\E v2/\E (bV ((bh t).isSome))/\E v2/\E (bV ((bh t).isSome))/\E (bV ((bh t).isSome))/\Qr g2 (aD a) g2 (aD b)/\True))/\(((bh t).isSome)=false->∃ b:w4,(b=(fu a t))/\E (aD a)/\E (sV t)/\E v3/\E (.sl true [])/\E (.sl true [])/\E (.sl true [])/\E (aD a)/\E (bV (aI a))/\E (bV (!(aI a)))/\E (sV t)/\E v1/\E v1/\E v2/\E (bV ((bh t).isSome))/\E v2/\E (bV ((bh t).isSome))/\E (bV ((bh t).isSome))/\Qr g2 (aD a) g2 (aD b)/\True)/\(∀ b:w4,(b=(fu a t))->(tq t).sm/\((t.length<=4611686018427387904))/\(∃ x:Nat×(List BL),match x with | (j7,s5)=>(j7<=(aN t).length/\s5=((aN t).take j7).foldl (dI b) []/\s5.length<=j7)/\E v3/\Q (.ow 1 ([].map sV)) (.ow 1 (s5.map sV))/\E (ao (aN t))/\Q (iN 0) (iN j7)/\Er g2 (aD b)/\True)/\∀ x:Nat×(List BL),match x with | (i,o)=>(i<=(aN t).length/\o=((aN t).take i).foldl (dI b) []/\o.length<=i)->(fun v4:w4=>Br (r5 (i:Int) ((((aN t).map sV).length:Nat):Int)) (Z g2 0/\Ex (i:Int) ((aN t).map sV) (sV ((aN t).getD i []))/\True/\(mi b ((aN t).getD i [])).sm/\((cD b)/\(((aN t).getD i []).length<=1000000))/\∀ g12:Nat,((g12:Nat)=g12)/\∀ _:Unit,Br ((H5 b ((aN t).getD i [])).isSome) (Z g12 0/\(gz v4).sm/\((dg v4))/\(BS o (bz v4)).sm/\((o.length<=1000000))/\m6 ((i:Int)+1)/\∃ x:Nat×(List BL),match x with | (b9,l7)=>(b9<=(aN t).length/\l7=((aN t).take b9).foldl (dI b) []/\l7.length<=b9)/\((aN t).length-b9<(aN t).length-i)/\E v3/\Q (.ow 1 ((kD o (bz v4)).map sV)) (.ow 1 (l7.map sV))/\E (ao (aN t))/\Q (iN (i+1)) (iN b9)/\Er g2 (aD b)/\True) (m6 ((i:Int)+1)/\∃ x:Nat×(List BL),match x with | (b9,l7)=>(b9<=(aN t).length/\l7=((aN t).take b9).foldl (dI b) []/\l7.length<=b9)/\((aN t).length-b9<(aN t).length-i)/\E v3/\Q (.ow 1 (o.map sV)) (.ow 1 (l7.map sV))/\E (ao (aN t))/\Q (iN (i+1)) (iN b9)/\Er g2 (aD b)/\True)) (((.sl false (V.E6 (o.map sV)):V)=ao o)/\Q (ao o) (ao (bp a t)))) (oA (H5 b ((aN t).getD i [])))))) (kp 2 g2))) (sV ((bh t).getD [])) (.tup [sV ((bh t).getD []),bV ((bh t).isSome)])) ?_
 intro g2;refine⟨rfl,rfl,ha.sz,bI (fun j8=>?_) fun j8=>?_⟩;rw[show bp a t=[] from if_neg Zci];rfl;refine aS ⟨fun l4=>?_,fun l4=>?_,fun b hb=>?_⟩;try simp only[nb]at l4
 refine⟨rfl,rfl,⟨ha,by have:=Ap t;omega⟩,fun g8=>⟨rfl,bI (fun m8=>?_) fun m8=>?_⟩⟩;refine aS ⟨(⟨(oA (H5 a ((bh t).getD []))).j9,(oA (H5 a ((bh t).getD []))).e9,(oA (H5 a ((bh t).getD []))).asks,(oA (H5 a ((bh t).getD []))).ask⟩:w4),Zd1,ah (fY (fY ⟨Zah,ak⟩))⟩;exact⟨(⟨a.j9,a.e9,a.asks,a.ask⟩:w4),Zd1,rfl,rfl,rfl,rfl,rfl,rfl,rfl,rfl,rfl,rfl,rfl,rfl,rfl,rfl,rfl,rfl,rfl,Zah,trivial⟩;try simp only[nb]at l4
 exact⟨(⟨a.j9,a.e9,a.asks,a.ask⟩:w4),Zd1,rfl,rfl,rfl,rfl,rfl,rfl,rfl,rfl,rfl,rfl,rfl,rfl,rfl,rfl,rfl,rfl,rfl,Zah,trivial⟩;refine aS ⟨⟨(0,[]),?_,ak⟩,?_⟩;simp;rintro⟨i,o⟩ ⟨h1,h2,h3⟩;have M7:=im (n:=300) (fun m hm=>(Uc m hm).1) i;have hbs:cD b:=nU (by rw[hb];exact zy Zc9);refine bI (fun w6=>?_) fun w6=>?_;refine⟨rfl,Zce,trivial,rfl,⟨hbs,ak⟩,fun g12=>⟨rfl,fun _=>bI (fun D1=>?_) fun D1=>?_⟩⟩;refine⟨rfl,rfl,(Ie _ _).sz,aY ⟨(i+1,kD o (bz (oA (H5 b ((aN t).getD i []))))),?_,?_,ak⟩⟩;refine⟨Zac,?_,?_⟩;rw[foldl_succ (d:=[]) Zac,<- h2];exact(if_pos D1).symm;have:=Cr (l:=o) (s:=bz (oA (H5 b ((aN t).getD i []))));omega;exact Zak;refine ah ⟨(i+1,o),?_,?_,ak⟩;refine⟨Zac,?_,ak⟩;rw[foldl_succ (d:=[]) Zac,<- h2];exact(if_neg (by rw[D1];decide)).symm;exact Zak;refine⟨Zcd,?_⟩;rw[show bp a t=_ from if_pos Zc9,<- hb,h2,Zaz Zac])
def xS(d:BL)(k:Int)(t:BL):aw:=.mk 89 [sV d,iV k,sV t] [] ((d.length<=4611686018427387904)/\(t.length<=4611686018427387904)) (ao (ae d k t)) [] (by
 rintro⟨hd,ht⟩
 refine au Tryz.func89
  (.l8 2<|.q 2<|.br (.q 1<|.c (fo d) []<|.q 3<|.al cK (fun g7=>.st none<|.q 1<|.r 2 [.c9]<|.c (sU (oA (aP d)) t) []<|.q 1<|.nil)) (.q 2<|.br (.q 1<|.bs<|.q 1<|.nil) (.bs<|.q 1<|.nil)))
  (Br (o6 k 1) ((fo d).sm/\((d.length<=4611686018427387904))/\∀ g7:Nat,Z g7 0/\Z g7 0/\(sU (oA (aP d)) t).sm/\((cD (oA (aP d)))/\(t.length<=4611686018427387904))/\Q (ao (bp (oA (aP d)) t)) (ao (ae d k t))) (Br (o6 k 2) (Q (.sl false [sV t]) (ao (ae d k t))) (Q (.sl false []) (ao (ae d k t))))) ?_
 refine bI (fun j8=>?_) fun j8=>?_;refine aS fun g7=>⟨rfl,rfl,rfl,⟨by first | assumption | exact kB _ | exact Ie _ _,ak⟩,?_⟩;rw[show ae d k t=bp (oA (aP d)) t from if_pos j8];refine bI (fun l4=>?_) fun l4=>?_;rw[show ae d k t=[t] from by rw[ae,if_neg j8,if_pos l4]];rfl;rw[show ae d k t=[] from by rw[ae,if_neg j8,if_neg l4]];rfl)
def QO(r:Bool)(q:Nat):Int:=if 0<q then 1 else if r=true then 2 else 0
theorem Ic(r:Bool)(q:Nat):QO r q=0\/QO r q=1\/QO r q=2:=by
 unfold QO;split;exact .inr (.inl rfl);split;exact .inr (.inr rfl);exact .inl rfl
theorem Le{r:Bool}{q:Nat}(h:QO r q=1):0<q/\True:=by
 unfold QO at h;split at h;rename_i hc;exact⟨hc,trivial⟩;split at h <;> omega
theorem OV{r:Bool}{q:Nat}(h:QO r q=2):q=0/\r=true:=by
 unfold QO at h;split at h;omega;rename_i h1;split at h;rename_i h2;exact⟨Zac,h2⟩;omega
theorem OM{r:Bool}{q:Nat}(h:QO r q=0):q=0/\r=false:=by
 unfold QO at h;split at h;omega;rename_i h1;split at h;omega;rename_i h2;exact⟨Zac,Zb4⟩
theorem Lk{t:BL}{o:List BL}{r:Bool}{q i b:Nat}(hq:0<q)(hb:b+1=q):dC t (o,r,q) i=(if t.getD i 0=62 then o++[(t.take i).drop b] else o,r,if t.getD i 0=62 then 0 else q):=by
 by_cases h:t.getD i 0=62;rw[KU hq h,if_pos h,if_pos h,show q-1=b from Zac];rw[LL hq h,if_neg h,if_neg h]
theorem MJ{t:BL}{o:List BL}{i:Nat}:dC t (o,false,0) i=(o,t.getD i 0==40,if t.getD i 0=60 then i+2 else 0):=by
 by_cases h:t.getD i 0=40;rw[Mg rfl h,if_neg (by rw[h];decide),h];rfl;by_cases h2:t.getD i 0=60;rw[KO rfl h h2,if_pos h2,h2];rfl;rw[KV rfl h h2,if_neg h2,show (t.getD i 0==40)=false from by simpa using h]
theorem Gv{c:UInt8}{r:Bool}{q:Nat}(hr:r=false)(hq:0<q):(if c=62 then (0:Int) else 1)=QO r (if c=62 then 0 else q):=by
 subst hr;unfold QO;by_cases h:c=62;simp[h];simp[h,hq]
theorem Gx{c:UInt8}:(if c=41 then (0:Int) else 2)=QO (!(c==41)) 0:=by
 unfold QO;by_cases h:c=41;simp[h];simp[h]
theorem GZ{c:UInt8}{i:Nat}:(if c=60 then (1:Int) else if c=40 then 2 else 0)=QO (c==40) (if c=60 then i+2 else 0):=by
 unfold QO;by_cases h:c=60;simp[h];by_cases h2:c=40;simp[h2];simp[h,h2]
def CA(i:Nat)(c:UInt8)(u v:Nat)(s:Int)(b:Nat):aw:=.mk 116 [iN i,uN c.toNat,kp 1000 u,kp 1001 v] [(1000,(u,iV s)),(1001,(v,iN b))] (i<=1000) (.tup []) [(1000,(u,iV (if c=60 then 1 else if c=40 then 2 else s))),(1001,(v,iN (if c=60 then i+1 else b)))] (by
 intro hi
 refine au Tryz.func116
  (.q 1<|.q 2<|.br (.q 2<|.st none<|.st none<|.nil) (.q 2<|.br (.st none<|.nil) (.nil)))
  (Br (o6 (c.toNat:Int) 60) (m6 ((i:Int)+1)/\Z u 0/\Z v 0/\Q (.tup []) (.tup [])/\Qr u (iN 1) u (iV (if c=60 then 1 else if c=40 then 2 else s))/\Qr v (iN (i+1)) v (iN (if c=60 then i+1 else b))) (Br (o6 (c.toNat:Int) 40) (Z u 0/\Q (.tup []) (.tup [])/\Qr u (iN 2) u (iV (if c=60 then 1 else if c=40 then 2 else s))/\Qr v (iN b) v (iN (if c=60 then i+1 else b))) (Q (.tup []) (.tup [])/\Qr u (iV s) u (iV (if c=60 then 1 else if c=40 then 2 else s))/\Qr v (iN b) v (iN (if c=60 then i+1 else b))))) ?_
 refine bI (fun j8=>?_) fun j8=>?_;refine aY ⟨?_,by rw[if_pos (c8 (k:=60) j8)] <;> rfl,by rw[if_pos (c8 (k:=60) j8)] <;> rfl⟩;rfl;refine bI (fun l4=>?_) fun l4=>?_;refine⟨rfl,⟨?_,by rw[if_neg (Tv (k:=60) j8),if_pos (c8 (k:=40) l4)] <;> rfl,by rw[if_neg (Tv (k:=60) j8)] <;> rfl⟩⟩;rfl;refine⟨?_,by rw[if_neg (Tv (k:=60) j8),if_neg (Tv (k:=40) l4)] <;> rfl,by rw[if_neg (Tv (k:=60) j8)] <;> rfl⟩;rfl)
def Ec(i:Nat)(c:UInt8)(u v p q:Nat)(o:List BL)(t:BL)(b:Nat)(s:Int):aw:=.mk 117 [iN i,uN c.toNat,kp 1000 u,kp 1001 v,kp 1002 p,kp 1003 q] [(1000,(u,.ow 1 (o.map sV))),(1001,(v,sV t)),(1002,(p,iN b)),(1003,(q,iV s))] ((b<=i)/\(i<=t.length)/\(o.length<=1000)) (.tup []) [(1000,(u,.ow 1 ((if c=62 then o++[(t.take i).drop b] else o).map sV))),(1001,(v,sV t)),(1002,(p,iN b)),(1003,(q,iV (if c=62 then 0 else s)))] (by
 rintro⟨hb,hi,ho⟩
 refine au Tryz.func117
  (.q 2<|.br (.oR (.key 1000) [] (fun gA oA cA=>.C6 7 [(0,n6 [1000] [10]),(1,n6 [1001] [11]),(2,n6 [1002] [12]),(6,⟨true,[],none,[16],[1000]⟩)]<|.n9<|.n9<|.n9<|.l8 2<|.bs<|.ux none (fun g16 XE Ya=>.h (.m9 16 (.own 1 ((o++[(t.take i).drop b]).map sV) g16 XE Ya))<|.st none<|.st none<|.nil))) (.nil))
  ((fun (v2:V) (v1:List V)=>(Br (o6 (c.toNat:Int) 62) (∀ gA oA cA:Nat,Z u 0/\Z v 0/\Z p 0/\Sx (b:Int) (i:Int) t/\(((1,1,gA,oA,cA,(o.map sV).length)=(1,1,gA,oA,cA,(o.map sV).length))/\(V.ax v1=false)/\(aR 1 v1)/\(((o.map sV).length+v1.length)*16<=140737488355328))/\∀ g16 XE Ya:Nat,((.own 1 ((o.map sV)++v1) g16 XE Ya:V)=.own 1 ((o++[(t.take i).drop b]).map sV) g16 XE Ya)/\Z u 0/\Z q 0/\Q (.tup []) (.tup [])/\Qr u (.ow 1 ((o++[(t.take i).drop b]).map sV)) u v2/\Er v (sV t)/\Er p (iN b)/\Qr q (iN 0) q (iV (if c=62 then 0 else s))) (Q (.tup []) (.tup [])/\Qr u (.ow 1 (o.map sV)) u v2/\Er v (sV t)/\Er p (iN b)/\Qr q (iV s) q (iV (if c=62 then 0 else s))))) (.ow 1 ((if c=62 then o++[(t.take i).drop b] else o).map sV)) ([sV ((t.take i).drop b)]:List V)) ?_
 refine bI (fun j8=>?_) fun j8=>?_;intro gA oA cA;refine cF ⟨aY Zal,fun g16 XE Ya=>⟨Zbm (V.own 1 · g16 XE Ya) Zad,aS ⟨?_,by rw[if_pos (c8 (k:=62) j8)] <;> rfl,aS (by rw[if_pos (c8 (k:=62) j8)] <;> rfl)⟩⟩⟩;rfl;refine⟨?_,by rw[if_neg (Tv (k:=62) j8)] <;> rfl,aS (by rw[if_neg (Tv (k:=62) j8)] <;> rfl)⟩;rfl)
def Gk(i:Nat)(c:UInt8)(u:Nat)(s:Int):aw:=.mk 118 [iN i,uN c.toNat,kp 1000 u] [(1000,(u,iV s))] True (.tup []) [(1000,(u,iV (if c=41 then 0 else s)))] (by
 intro _
 refine au Tryz.func118
  (.q 2<|.br (.st none<|.nil) (.nil))
  (Br (o6 (c.toNat:Int) 41) (Z u 0/\Q (.tup []) (.tup [])/\Qr u (iN 0) u (iV (if c=41 then 0 else s))) (Q (.tup []) (.tup [])/\Qr u (iV s) u (iV (if c=41 then 0 else s)))) ?_
 refine bI (fun j8=>?_) fun j8=>?_;refine⟨rfl,⟨?_,by rw[if_pos (c8 (k:=41) j8)] <;> rfl⟩⟩;rfl;refine⟨?_,by rw[if_neg (Tv (k:=41) j8)] <;> rfl⟩;rfl)
def kE(t:BL):aw:=.mk 71 [sV t] [] (t.length<=4611686018427387904) (ao (ar t)) [] (by
 intro ht
 refine au Tryz.func71
  (.bx (fun g1=>.q 1<|.r 3 [.c9]<|.br (.q 1<|.nil) (.al OU (fun g3=>.al zt3 (fun g4=>.al zt3 (fun g5=>.st none<|.st none<|.al Nq (fun g6=>.cu U4 (fun _=>.q 1<|.st none<|.cu U4 (fun _=>.q 1<|.st none<|.cu U4 (fun _=>.q 1<|.st none<|.q 1<|.h (.B9 (.key 3) [] 1)<|.loop (Nat×(List BL)×Bool×Nat×Int×Nat) (fun (i,o,r,q,s,b)=>⟨[(1,kp 1 g1),(3,kp 3 g3),(4,kp 4 g4),(5,kp 5 g5),(6,kp 6 g6),(7,iN i)],[(1,(g1,sV t)),(3,(g3,.ow 1 (o.map sV))),(4,(g4,iV s)),(5,(g5,iN b)),(6,(g6,.agg [.lit (.func (.func 116) #[] #[.pointer (some ⟨g4,0,none⟩),.pointer (some ⟨g5,0,none⟩)]),.lit (.func (.func 117) #[] #[.pointer (some ⟨g3,0,none⟩),.pointer (some ⟨g1,0,none⟩),.pointer (some ⟨g5,0,none⟩),.pointer (some ⟨g4,0,none⟩)]),.lit (.func (.func 118) #[] #[.pointer (some ⟨g4,0,none⟩)])]))]⟩) (fun (i,o,r,q,s,b)=>i<=t.length/\bQ t i=(o,r,q)/\s=QO r q/\(0<q->b+1=q)) (fun (i,o,r,q,s,b)=>t.length-i) (fun (i,o,r,q,s,b)=>.r 2 [.c9]<|.sp (o6 s 1) (.h (.s8 4 (iV 1))<|.l8 2<|.br (.C6 7 [(0,n6 [4] [23]),(2,n6 [6] [25]),(4,n6 [1] [27])]<|.n9<|.q 1<|.n9<|.q 1<|.n9<|.l8 2<|.c (Ec i (t.getD i 0) g3 g1 g5 g4 o t b (1:Int)) [(1000,3),(1001,1),(1002,5),(1003,4)]<|.q 3<|.nil) (.oR (.key 3) [] (fun gE oE cE=>.mv<|.h (.fz 31)<|.h (.m9 31 (ao o))<|.q 1<|.nil))) (.q 1<|.sp (o6 s 2) (.h (.s8 4 (iV 2))<|.q 1<|.br (.C6 7 [(0,n6 [4] [23]),(2,n6 [6] [25]),(4,n6 [1] [27])]<|.n9<|.q 1<|.n9<|.q 1<|.n9<|.l8 2<|.c (Gk i (t.getD i 0) g4 (2:Int)) [(1000,4)]<|.q 3<|.nil) (.oR (.key 3) [] (fun gE oE cE=>.mv<|.h (.fz 31)<|.h (.m9 31 (ao o))<|.q 1<|.nil))) (.h (.s8 4 (iV 0))<|.q 1<|.br (.C6 7 [(0,n6 [4] [23]),(2,n6 [6] [25]),(4,n6 [1] [27])]<|.n9<|.q 1<|.n9<|.q 1<|.n9<|.l8 2<|.c (CA i (t.getD i 0) g4 g5 (0:Int) b) [(1000,4),(1001,5)]<|.q 3<|.nil) (.oR (.key 3) [] (fun gE oE cE=>.mv<|.h (.fz 31)<|.h (.m9 31 (ao o))<|.q 1<|.nil)))))))))))))))
  (∀ g1:Nat,(fun v1:V=>Z g1 0/\Br (s6 (t.length:Int) 300) (Q (.sl false []) (ao (ar t))) (∀ g3:Nat,(fun v2:V=> ∀ g4:Nat,(fun v3:V=> ∀ g5:Nat,(fun (v5 v4:V)=>Z g4 0/\Z g5 0/\∀ g6:Nat,(fun v6:V=>((Value.func (.func 116) #[] #[.pointer (some ⟨g4,0,none⟩),.pointer (some ⟨g5,0,none⟩)]).oneCell'=true)/\∀ _:Unit,((0:Int)<=0/\(0:Int)<3)/\Z g6 0/\((Value.func (.func 117) #[] #[.pointer (some ⟨g3,0,none⟩),.pointer (some ⟨g1,0,none⟩),.pointer (some ⟨g5,0,none⟩),.pointer (some ⟨g4,0,none⟩)]).oneCell'=true)/\∀ _:Unit,((0:Int)<=1/\(1:Int)<3)/\Z g6 1/\((Value.func (.func 118) #[] #[.pointer (some ⟨g4,0,none⟩)]).oneCell'=true)/\∀ _:Unit,((0:Int)<=2/\(2:Int)<3)/\Z g6 2/\(∃ x:Nat×(List BL)×Bool×Nat×Int×Nat,match x with | (j7,s5,PQ,w9,TB,H7)=>(j7<=t.length/\bQ t j7=(s5,PQ,w9)/\TB=QO PQ w9/\(0<w9->H7+1=w9))/\E v1/\E v2/\E v3/\E v5/\E v6/\Q (iN 0) (iN j7)/\Er g1 (sV t)/\Qr g3 (.ow 1 ([].map sV)) g3 (.ow 1 (s5.map sV))/\Qr g4 (iN 0) g4 (iV TB)/\Qr g5 (iN 0) g5 (iN H7)/\Er g6 v4/\True)/\∀ x:Nat×(List BL)×Bool×Nat×Int×Nat,match x with | (i,o,r,q,s,b)=>(i<=t.length/\bQ t i=(o,r,q)/\s=QO r q/\(0<q->b+1=q))->(fun (v8:Bool) (v7:V)=>Z g1 0/\((o6 s 1)=true->((iV s:V)=iV 1)/\Br v8 (Z g4 0/\((0:Int)<=1/\(1:Int)<3)/\Z g6 1/\Z g1 0/\Ix (i:Int) t/\(Ec i (t.getD i 0) g3 g1 g5 g4 o t b (1:Int)).sm/\Er g3 (.ow 1 (o.map sV))/\Er g1 (sV t)/\Er g5 (iN b)/\Er g4 (iV (1:Int))/\((b<=i)/\(i<=t.length)/\(o.length<=1000))/\m6 ((i:Int)+1)/\∃ x:Nat×(List BL)×Bool×Nat×Int×Nat,match x with | (b9,l7,D4,n7,PO,x5)=>(b9<=t.length/\bQ t b9=(l7,D4,n7)/\PO=QO D4 n7/\(0<n7->x5+1=n7))/\(t.length-b9<t.length-i)/\E v1/\E v2/\E v3/\E v5/\E v6/\Q (iN (i+1)) (iN b9)/\Er g1 (sV t)/\Qr g3 (.ow 1 ((if (t.getD i 0)=62 then o++[(t.take i).drop b] else o).map sV)) g3 (.ow 1 (l7.map sV))/\Qr g4 (iV (if (t.getD i 0)=62 then 0 else (1:Int))) g4 (iV PO)/\Qr g5 (iN b) g5 (iN x5)/\Er g6 v4/\True) (∀ gE oE cE:Nat,Z g3 0/\(v7=ao o)/\Q (ao o) (ao (ar t))))/\((o6 s 1)=false->((o6 s 2)=true->((iV s:V)=iV 2)/\Br v8 (Z g4 0/\((0:Int)<=2/\(2:Int)<3)/\Z g6 2/\Z g1 0/\Ix (i:Int) t/\(Gk i (t.getD i 0) g4 (2:Int)).sm/\Er g4 (iV (2:Int))/\(True)/\m6 ((i:Int)+1)/\∃ x:Nat×(List BL)×Bool×Nat×Int×Nat,match x with | (b9,l7,D4,n7,PO,x5)=>(b9<=t.length/\bQ t b9=(l7,D4,n7)/\PO=QO D4 n7/\(0<n7->x5+1=n7))/\(t.length-b9<t.length-i)/\E v1/\E v2/\E v3/\E v5/\E v6/\Q (iN (i+1)) (iN b9)/\Er g1 (sV t)/\Qr g3 (.ow 1 (o.map sV)) g3 (.ow 1 (l7.map sV))/\Qr g4 (iV (if (t.getD i 0)=41 then 0 else (2:Int))) g4 (iV PO)/\Qr g5 (iN b) g5 (iN x5)/\Er g6 v4/\True) (∀ gE oE cE:Nat,Z g3 0/\(v7=ao o)/\Q (ao o) (ao (ar t))))/\((o6 s 2)=false->((iV s:V)=iV 0)/\Br v8 (Z g4 0/\((0:Int)<=0/\(0:Int)<3)/\Z g6 0/\Z g1 0/\Ix (i:Int) t/\(CA i (t.getD i 0) g4 g5 (0:Int) b).sm/\Er g4 (iV (0:Int))/\Er g5 (iN b)/\((i<=1000))/\m6 ((i:Int)+1)/\∃ x:Nat×(List BL)×Bool×Nat×Int×Nat,match x with | (b9,l7,D4,n7,PO,x5)=>(b9<=t.length/\bQ t b9=(l7,D4,n7)/\PO=QO D4 n7/\(0<n7->x5+1=n7))/\(t.length-b9<t.length-i)/\E v1/\E v2/\E v3/\E v5/\E v6/\Q (iN (i+1)) (iN b9)/\Er g1 (sV t)/\Qr g3 (.ow 1 (o.map sV)) g3 (.ow 1 (l7.map sV))/\Qr g4 (iV (if (t.getD i 0)=60 then 1 else if (t.getD i 0)=40 then 2 else (0:Int))) g4 (iV PO)/\Qr g5 (iN (if (t.getD i 0)=60 then i+1 else b)) g5 (iN x5)/\Er g6 v4/\True) (∀ gE oE cE:Nat,Z g3 0/\(v7=ao o)/\Q (ao o) (ao (ar t)))))) (r5 (i:Int) (t.length:Int)) (.sl false (V.E6 (o.map sV)):V)) (kp 6 g6)) (kp 5 g5) (.agg [.lit (.func (.func 116) #[] #[.pointer (some ⟨g4,0,none⟩),.pointer (some ⟨g5,0,none⟩)]),.lit (.func (.func 117) #[] #[.pointer (some ⟨g3,0,none⟩),.pointer (some ⟨g1,0,none⟩),.pointer (some ⟨g5,0,none⟩),.pointer (some ⟨g4,0,none⟩)]),.lit (.func (.func 118) #[] #[.pointer (some ⟨g4,0,none⟩)])])) (kp 4 g4)) (kp 3 g3))) (kp 1 g1)) ?_
 intro g1;refine⟨rfl,bI (fun j8=>?_) fun j8=>?_⟩;rw[show ar t=[] from if_neg Zac];rfl;intro g3;intro g4;intro g5;refine aS fun g6=>⟨rfl,fun _=>aY fun _=>aY fun _=>aS ⟨⟨(0,[],false,0,0,0),?_,fY ⟨Zah,ak⟩⟩,?_⟩⟩;exact⟨Zac,rfl,rfl,fun h=>absurd h Zaf⟩;rintro⟨i,o,r,q,s,b⟩ ⟨h1,h2,h3,h4⟩;have Vc:=rZ t i;rw[h2]at Vc;have UO:=Vc.len;have Zk:=Vc.pos;have Zj:=Vc.one;simp only at UO Zk Zj;have B5:=Ic r q;refine⟨rfl,⟨fun SB=>?_,fun SB=>?_⟩⟩;have SF:=SB;try simp only[nb]at SF
 refine⟨Zbm iV Zac,bI (fun l4=>?_) fun l4=>?_⟩;refine aS (fY ⟨⟨by have hz1:=Le (h3.symm.trans Zac);have Sy:=h4 hz1.1;omega,ak⟩,ah ⟨(i+1,if (t.getD i 0)=62 then o++[(t.take i).drop b] else o,r,if (t.getD i 0)=62 then 0 else q,if (t.getD i 0)=62 then 0 else (1:Int),b),?_,?_,ak⟩⟩);obtain⟨W0,U'⟩:=Le (h3.symm.trans Zac);exact⟨Zac,by rw[show bQ t (i+1)=dC t (bQ t i) i from rfl,h2,Lk W0 (h4 W0)],(Gv (Zj W0) W0),fun hq=>by split at hq;omega;rw[if_neg (by assumption)];exact h4 W0⟩;exact Zak;intro gE oE cE;refine⟨rfl,Zcd,?_⟩;rw[show ar t=o from by rw[show ar t=(bQ t t.length).1 from if_pos Zac,show t.length=i from Zac,h2]];have SF:=SB;try simp only[nb]at SF
 refine⟨fun SA=>?_,fun SA=>?_⟩;have SE:=SA;try simp only[nb]at SE
 refine⟨Zbm iV Zac,bI (fun m8=>?_) fun m8=>?_⟩;refine ah (fY ⟨(i+1,o,!((t.getD i 0)==41),0,if (t.getD i 0)=41 then 0 else (2:Int),b),?_,?_,ak⟩);obtain⟨rfl,rfl⟩:=OV (h3.symm.trans Zac);exact⟨Zac,by rw[show bQ t (i+1)=dC t (bQ t i) i from rfl,h2,Ll rfl],Gx,fun hq=>absurd hq Zac⟩;exact Zak;intro gE oE cE;refine⟨rfl,Zcd,?_⟩;rw[show ar t=o from by rw[show ar t=(bQ t t.length).1 from if_pos Zac,show t.length=i from Zac,h2]];have SE:=SA;try simp only[nb]at SE
 refine⟨Zbm iV Zac,bI (fun w6=>?_) fun w6=>?_⟩;refine aS (fY ⟨(i+1,o,(t.getD i 0)==40,if (t.getD i 0)=60 then i+2 else 0,if (t.getD i 0)=60 then 1 else if (t.getD i 0)=40 then 2 else (0:Int),if (t.getD i 0)=60 then i+1 else b),?_,?_,ak⟩);obtain⟨rfl,rfl⟩:=OM (h3.symm.trans Zac);exact⟨Zac,by rw[show bQ t (i+1)=dC t (bQ t i) i from rfl,h2,MJ],GZ,fun hq=>by split at hq;rw[if_pos (by assumption),if_pos (by assumption)];omega⟩;exact Zak;intro gE oE cE;refine⟨rfl,Zcd,?_⟩;rw[show ar t=o from by rw[show ar t=(bQ t t.length).1 from if_pos Zac,show t.length=i from Zac,h2]])
def WJ(c:UInt8):Bool:=ej c||(c==37||kN.contains c)
theorem nD(b:UInt8):(eR b).all WJ=true:=by
 unfold eR;split;rename_i h;simp[WJ,h];unfold fj;have h1:b.toNat / 16<16:=by have:=b.toNat_lt;omega
 have h2:b.toNat % 16<16:=Zac;have hf:∀ k,k<16->WJ (kN.getD k 0)=true:=Zaf;simp only[List.all_cons,List.all_nil,Bool.and_true,Zao];exact⟨Zaf,hf _ h1,hf _ h2⟩
theorem tK:∀ (s:BL) {x:BL},cO s=some x->x.all WJ=true
 | [],x,h=>by simp[cO]at h;subst h;rfl
 | [c],x,h=>by
   simp only[cO]at h;split at h;simp at h;simp only[Zan]at h;subst h;exact nD c
 | [c,d],x,h=>by
   simp only[cO]at h;split at h;simp at h;simp only[Zan]at h;subst h;rw[List.all_append,nD,nD];rfl
 | c::a::b::r,x,h=>by
   simp only[cO]at h;split at h;split at h;simp only[Option.map_eq_some_iff]at h;obtain⟨y,hy,rfl⟩:=h;rw[List.all_append,nD,tK r hy];rfl;simp at h;simp only[Option.map_eq_some_iff]at h;obtain⟨y,hy,rfl⟩:=h;rw[List.all_append,nD,tK (a::b::r) hy];rfl
theorem nE{s:BL}(h:fi s=true):s.all WJ=true/\eU s=s/\fA s=true:=by
 unfold fi at h;simp only[Zao,Zbl]at h;refine⟨?_,h.2,h.1⟩;have h1:=h.1;have h2:=h.2;unfold cb at h1 h2;split at h1;rename_i hl;rw[if_pos hl]at h2;cases e:cO s with
 | none=>rw[e]at h1;cases h1
 | some x=>rw[e]at h2;rw[<- h2];exact tK s e
 cases h1
theorem Lt:∀ c:UInt8,WJ c=true->c.toNat<128/\c≠47/\c≠63/\c≠35:=by
 intro c h;unfold WJ ej at h;simp only[Bool.or_eq_true,Zbk,Zbl]at h;have e:∀ k:UInt8,c=k↔c.toNat=k.toNat:=fun k=>UInt8.toNat_inj.symm;have hf:kN.contains c=true->(48<=c.toNat/\c.toNat<=57)\/(65<=c.toNat/\c.toNat<=70):=by
  intro hc;simp only[kN,List.contains_cons,List.contains_nil,Bool.or_eq_true,Zbl,e,Bool.or_false]at hc;simp only[show (48:UInt8).toNat=48 from rfl,show (49:UInt8).toNat=49 from rfl,show (50:UInt8).toNat=50 from rfl,show (51:UInt8).toNat=51 from rfl,show (52:UInt8).toNat=52 from rfl,show (53:UInt8).toNat=53 from rfl,show (54:UInt8).toNat=54 from rfl,show (55:UInt8).toNat=55 from rfl,show (56:UInt8).toNat=56 from rfl,show (57:UInt8).toNat=57 from rfl,show (65:UInt8).toNat=65 from rfl,show (66:UInt8).toNat=66 from rfl,show (67:UInt8).toNat=67 from rfl,show (68:UInt8).toNat=68 from rfl,show (69:UInt8).toNat=69 from rfl,show (70:UInt8).toNat=70 from rfl]at hc;omega
 have h37:c=37->c.toNat=37:=fun h=>by rw[h];rfl
 have hb:(97<=c.toNat/\c.toNat<=122)\/(48<=c.toNat/\c.toNat<=57)\/c.toNat=46\/c.toNat=45\/c.toNat=37\/(65<=c.toNat/\c.toNat<=70):=by
  rcases h with h | h | h;omega;have:=h37 h;omega;have:=hf h;omega
 refine⟨Zac,?_,?_,?_⟩ <;> (intro hc;have:=(e _).1 hc;simp only[show (47:UInt8).toNat=47 from rfl,show (63:UInt8).toNat=63 from rfl,show (35:UInt8).toNat=35 from rfl]at this;omega)
theorem tY{c:UInt8}:∀ {s:BL},(∀ x,x∈s->x≠c)->ab c s=(s,[],false)
 | [],_=>rfl
 | x::r,h=>by
   simp only[ab,if_neg (h x Zad),tY (s:=r) (fun y hy=>h y (by simp[hy]))]
theorem yZ{c:UInt8}{r:BL}:∀ {s:BL},(∀ x,x∈s->x≠c)->ab c (s++c::r)=(s,r,true)
 | [],_=>by simp[ab]
 | x::s,h=>by
   rw[List.cons_append];simp only[ab,if_neg (h x Zad),yZ (s:=s) (r:=r) (fun y hy=>h y (by simp[hy]))]
theorem vY{c:UInt8}:∀ {s:BL},(∀ x,x∈s->x≠c)->af c s=[s]
 | [],_=>rfl
 | x::r,h=>by
   simp only[af,if_neg (h x Zad),vY (s:=r) (fun y hy=>h y (by simp[hy]))];rfl
theorem pA{c:UInt8}{r:BL}:∀ {s:BL},(∀ x,x∈s->x≠c)->af c (s++c::r)=s::af c r
 | [],_=>by simp[af]
 | x::s,h=>by
   rw[List.cons_append];simp only[af,if_neg (h x Zad),pA (s:=s) (r:=r) (fun y hy=>h y (by simp[hy]))];rfl
theorem uV:∀ {ps:List BL},ps≠[]->(∀ p,p∈ps->∀ x,x∈p->x≠47)->af 47 (cJ ps)=ps
 | [],h,_=>absurd rfl h
 | [p],_,h=>vY (h p Zad)
 | p::q::r,_,h=>by
   show af 47 (p++[47]++cJ (q::r))=_;rw[List.append_assoc];show af 47 (p++47::cJ (q::r))=_;rw[pA (h p Zad),uV Zad fun y hy=>h y (by simp[hy])]
theorem tt:∀ (ps:List BL) {o:List BL},(∀ p,p∈ps->fF p=true)->ps.foldl de o=o++ps
 | [],o,_=>by simp
 | p::ps,o,h=>by
   have hp:=h p Zad;unfold fF at hp;simp only[Zao,Bool.not_eq_true',beq_eq_false_iff_ne]at hp;have e:de o p=o++[p]:=by
    unfold de;rw[if_neg (by rintro (c | c);exact hp.1.1.2 c;exact hp.1.2 c),if_neg hp.2]
   rw[List.foldl_cons,e,tt ps fun q hq=>h q (by simp[hq])];simp
theorem iv{a:w4}(h:aI a=true):cW a.j9=true/\a.e9.length<=5/\fi a.ask=true/\(a.asks=true\/a.ask=[])/\(∀ p,p∈a.e9->fF p=true)/\(da a).length<=60:=by
 unfold aI at h;simp only[Zao,Zbk,Bool.or_eq_true,Zbl,Za2]at h;exact⟨h.1.1.1.1.1,h.1.1.1.1.2,h.1.1.1.2,h.1.1.2,h.1.2,h.2⟩
theorem kh{p:BL}(h:fF p=true):fi p=true:=by
 unfold fF at h;simp only[Zao]at h;exact h.1.1.1
theorem yq{s:BL}(h:cW s=true):∀ c,c∈s->97<=c.toNat/\c.toNat<=122:=by
 unfold cW fT at h;simp only[Zao]at h;intro c hc;have:=Za2.1 h.1 c hc;unfold kG at this;simpa using this
theorem sQ{p:BL}(h:fi p=true):∀ c,c∈p->c.toNat<128/\c≠47/\c≠63/\c≠35:=fun c hc=>Lt c (Za2.1 (nE h).1 c hc)
theorem Bj{ps:List BL}{k:UInt8}(hk:k≠47):(∀ p,p∈ps->∀ x,x∈p->x≠k)->∀ x,x∈cJ ps->x≠k:=by
 induction ps with
 | nil=>intro _ x hx;simp[cJ]at hx
 | cons p ps ih=>
   intro h x hx;cases ps with
   | nil=>exact h p Zad x hx
   | cons q r=>
     simp only[cJ,Zax]at hx;rcases hx with (hx | hx) | hx;exact h p Zad x hx;rw[Zav.1 hx];exact fun c=>hk c.symm;exact ih (fun y hy=>h y (by simp[hy])) x hx
theorem HQ{a:w4}(h:aI a=true):ct a.j9 [] (bL a)=some a:=by
 obtain⟨h1,h2,h3,h4,h5,h6⟩:=iv h;have hj:∀ x,x∈([47]++cJ a.e9:BL)->x≠63:=by
  intro x hx;rcases Zax.1 hx with hx | hx;rw[Zav.1 hx];decide;exact Bj Zaf (fun p hp x hx=>(sQ (kh (h5 p hp)) x hx).2.2.1) x hx
 have PU:ab 63 (bL a)=([47]++cJ a.e9,a.ask,a.asks):=by
  unfold bL;cases e:a.asks with
  | true=>
    rw[if_pos rfl];exact yZ hj
  | false=>
    rw[if_neg Zaf,List.append_nil,tY hj];rcases h4 with c | c;rw[e]at c;cases c;rw[c]
 have hs:af 47 ([47]++cJ a.e9)=[]::(if a.e9=[] then [[]] else a.e9):=by
  show af 47 ([]++47::cJ a.e9)=_;rw[pA Zad];split;rename_i e;rw[e];rfl;rename_i e;rw[uV e fun p hp x hx=>(sQ (kh (h5 p hp)) x hx).2.1]
 have YM:∀ p,p∈af 47 ([47]++cJ a.e9)->p=[]\/p∈a.e9:=by
  intro p hp;rw[hs]at hp;rcases List.mem_cons.1 hp with hp | hp;exact .inl hp;split at hp;exact .inl (Zav.1 hp);exact .inr hp
 have YI:eU []=[]/\fA []=true:=Zaf;have L8:(af 47 (ab 63 (bL a)).1).all fA=true:=by
  rw[PU];rw[Za2];intro p hp;rcases YM p hp with rfl | hp;exact YI.2;exact(nE (kh (h5 p hp))).2.2
 have hmap:(af 47 (ab 63 (bL a)).1).map eU=af 47 ([47]++cJ a.e9):=by
  rw[PU];have:∀ p,p∈af 47 ([47]++cJ a.e9)->eU p=p:=fun p hp=>by
   rcases YM p hp with rfl | hp;exact YI.1;exact(nE (kh (h5 p hp))).2.1
  exact(List.map_congr_left this).trans (List.map_id _)
 have hcl:cf ([]++af 47 ([47]++cJ a.e9))=a.e9:=by
  rw[List.nil_append,hs];unfold cf;rw[List.foldl_cons];have e0:de [] []=[]:=rfl;rw[e0];split;rename_i e;rw[e];rfl;rw[tt _ h5];rfl
 have ha:(⟨a.j9,a.e9,a.asks,a.ask⟩:w4)=a:=rfl;unfold ct;rw[L8,hmap,PU,(nE h3).2.2,(nE h3).2.1,hcl];exact(if_pos rfl).trans (if_pos h)
theorem Eo{p:UInt8->Bool}{s r:BL}(h:∀ c,c∈s->p c=true)(hr:∀ c r',r=c::r'->p c=false):(s++r).takeWhile p=s/\(s++r).dropWhile p=r:=by
 induction s with
 | nil=>
   cases r with
   | nil=>exact⟨rfl,rfl⟩
   | cons c r'=>have:=hr c r' rfl;simp[this]
 | cons c s ih=>
   obtain⟨q1,q2⟩:=ih fun d hd=>h d (by simp[hd]);have:=h c Zad;simp[this,q1,q2]
theorem FI{s:BL}(h:∀ c,c∈s->97<=c.toNat/\c.toNat<=122):bM s=s:=by
 unfold bM;have:∀ c,c∈s->dV c=c:=fun c hc=>by unfold dV;rw[if_neg (by have:=h c hc;omega)]
 exact(List.map_congr_left this).trans (List.map_id _)
theorem Dx{a:w4}(h:aI a=true):dM (a.j9++bL a)=some a:=by
 obtain⟨h1,_⟩:=iv h;have hl:=yq h1;obtain⟨q1,q2⟩:=Eo (p:=jI) (s:=a.j9) (r:=bL a) (fun c hc=>by have:=hl c hc;unfold jI;rw[Zbk];omega) (fun c r' e=>by
  have:c=47:=by unfold bL at e;simp at e;exact e.1.symm
  rw[this];decide)
 unfold dM;rw[q1,q2,FI hl,HQ h]
theorem vO{a:w4}(h:aI a=true):∀ c,c∈da a->c.toNat<128/\c≠35:=by
 obtain⟨h1,h2,h3,h4,h5,h6⟩:=iv h;intro c hc;unfold da bL at hc;simp only[Zax]at hc;have h47:∀ c:UInt8,c=47->c.toNat<128/\c≠35:=fun c e=>by rw[e];decide
 rcases hc with (hc | hc) | ((hc | hc) | hc);refine h47 c ?_;simpa using hc;have:=yq h1 c hc;exact⟨Zac,fun e=>by rw[e]at this;exact absurd this Zaf⟩;refine h47 c ?_;simpa using hc;exact⟨by
  have:o8 (cJ a.e9):=rm fun x hx d hd=>(sQ (kh (h5 x hx)) d hd).1;exact this c hc,Bj Zaf (fun p hp x hx=>(sQ (kh (h5 p hp)) x hx).2.2.2) c hc⟩
 split at hc;rcases Zax.1 hc with hc | hc;rw[Zav.1 hc];decide;exact⟨(sQ h3 c hc).1,(sQ h3 c hc).2.2.2⟩;simp at hc
theorem rA{a:w4}(h:aI a=true):aP (da a)=some a:=by
 have hc:=tY (c:=35) (s:=da a) fun x hx=>(vO h x hx).2;unfold aP;rw[hc];rw[if_pos ⟨(iv h).2.2.2.2.2,by unfold da;simp,by unfold da;simp⟩];show dM ((da a).drop 2)=_;rw[show (da a).drop 2=a.j9++bL a from by unfold da;simp,Dx h]
theorem CT{a:w4}(h:aI a=true):az (da a)=true:=xi (by rw[rA h];rfl) (by rw[rA h];rfl)
theorem zL(a:w4):o8 (bz a):=by
 unfold bz;split;rename_i h;exact fun c hc=>(vO h c hc).1;exact bw
theorem FU{m:BL}{b:UInt8}(hb:b≠0):(!(m==[])&&o6 (((m.getD 0 0).toNat:Nat):Int) ((b.toNat:Nat):Int))=(cv m==b):=by
 unfold cv o6;rw[b8];cases m with
 | nil=>
   show false=_;symm;rw[beq_eq_false_iff_ne];intro c;exact hb (UInt8.toNat_inj.1 (by have:((0:UInt8).toNat:Int)=(b.toNat:Int):=c;omega))
 | cons x r=>rfl
theorem EB{m:BL}(h:cv m=64):1<=m.length:=by
 cases m with
 | nil=>exact absurd h Zaf
 | cons a r=>simp
theorem EZ{m:BL}:eZ m=true↔¬ cv m=33/\¬ cv m=64:=by
 unfold eZ;simp
theorem NO{s:BL}(h:fp s [47,47]=true):2<=s.length/\s.take 2=[47,47]:=sB.1 h
theorem yL{s:BL}(h:fp s [47,47]=false): ¬ (2<=s.length/\s.take 2=[47,47]):=fun c=>by rw[(sB (s:=s) (p:=[47,47])).2 c]at h;cases h
theorem GF{t:BL}(h:o8 t):o8 ((bh t).getD []):=by
 cases e:bh t with
 | none=>exact bw
 | some r=>exact fun c hc=>h c ((Cw e).2 c hc)
theorem GS{t:BL}(h:o8 t)(i:Nat):o8 ((aN t).getD i []):=by
 rw[Zam];cases e:(aN t)[i]? with
 | none=>exact bw
 | some x=>exact fun c hc=>h c (((pQ t).2 x (Za7 e)).2 c hc)
theorem KJ{b:w4}{o:List BL}{m:BL}(h:(H5 b m).isSome=true)(h2: ¬ bz (oA (H5 b m))∈o):dI b o m=o++[bz (oA (H5 b m))]:=by
 unfold dI kD;rw[if_pos h,if_neg Zb4]
theorem LH{b:w4}{o:List BL}{m:BL}(h:(H5 b m).isSome=true)(h2:bz (oA (H5 b m))∈o):dI b o m=o:=by
 unfold dI kD;rw[if_pos h,if_pos Zb4]
theorem qZ(d:BL):cD (oA (aV d)):=by
 unfold aV;split;exact kB d;exact qO
def lp(m:BL)(b:UInt8):aw:=.mk 72 [sV m,uN b.toNat] [] (b≠0) (bV (cv m==b)) [] (by
 intro hb
 refine au Tryz.func72
  (.q 1<|.q 9<|.nil)
  (Gd ((!(m==[]))==true) (Ix 0 m)/\Pk (!(m==[])) ((!(m==[]))==true) true/\Q (bV ((!(m==[]))&&(o6 (((m.getD 0 0).toNat:Nat):Int) (b.toNat:Int)))) (bV (cv m==b))) ?_
 refine⟨fun hG=>by(try simp only[nb]at hG);have:=List.length_pos_iff.2 (by simpa using hG);omega,ah ?_⟩;unfold Q;refine Zbm bV ?_;exact FU hb)
abbrev gX(t:BL)(i:Nat):Prop:=i<=(ar t).length/\∀ j,j<i->(cv ((ar t).getD j [])==64)=false
def sX(t:BL):aw:=.mk 32 [sV t] [] (t.length<=4611686018427387904) (.tup [sV ((bh t).getD []),bV ((bh t).isSome)]) [] (by
 intro ht;obtain⟨UO,Uc⟩:=kZ t
 refine au Tryz.func32
  (.q 2<|.q 1<|.c (kE t) []<|.q 2<|.loop Nat (fun i=>⟨[(7,ao (ar t)),(8,iN ((ar t).length)),(9,iN i)],[]⟩) (fun i=>gX t i) (fun i=>(ar t).length-i) (fun i=>.q 1<|.br (.r 3 [sV ((ar t).getD i [])]<|.q 1<|.c (lp ((ar t).getD i []) (64:UInt8)) []<|.br (.q 4<|.nil) (.q 2<|.nil)) (.q 2<|.nil)))
  ((fun v1:V=>((kE t).sm/\((t.length<=4611686018427387904))/\(∃ j7:Nat,(gX t j7)/\E (ao (ar t))/\Q (iN (((ar t).map sV).length)) (iN ((ar t).length))/\Q (iN 0) (iN j7)/\True)/\∀ i:Nat,(gX t i)->Br (r5 (i:Int) (((ar t).length:Nat):Int)) (Ex (i:Int) ((ar t).map sV) (sV ((ar t).getD i []))/\True/\(lp ((ar t).getD i []) (64:UInt8)).sm/\(((64:UInt8)≠0))/\Br (cv ((ar t).getD i [])==(64:UInt8)) (Sx (1:Int) (((ar t).getD i []).length:Int) ((ar t).getD i [])/\Q (.tup [sV ((((ar t).getD i []).take ((ar t).getD i []).length).drop 1),bV true]) v1) (m6 ((i:Int)+1)/\∃ b9:Nat,(gX t b9)/\((ar t).length-b9<(ar t).length-i)/\E (ao (ar t))/\E (iN ((ar t).length))/\Q (iN (i+1)) (iN b9)/\True)) (Q (.tup [sV [],bV false]) v1))) (.tup [sV ((bh t).getD []),bV ((bh t).isSome)])) ?_
 refine aS ⟨⟨0,?_,rfl,Zah,ak⟩,?_⟩;unfold gX;simp;rintro i ⟨h1,h2⟩;refine bI (fun j8=>?_) fun j8=>?_;refine⟨Zce,trivial,rfl,Zaf,bI (fun l4=>?_) fun l4=>?_⟩;refine⟨by have:=EB (m:=(ar t).getD i []) Zcg;omega,?_⟩;rw[show bh t=some (((ar t).getD i []).drop 1) from by rw[bh,wX (i:=i) (d:=[]) Zac Zcg h2];rfl,List.take_length];rfl;refine ah ⟨i+1,?_,?_,ak⟩;unfold gX;exact⟨Zac,Zdw⟩;exact Zak;rw[show bh t=none from by rw[bh,Bl (d:=[]) (fun j hj=>h2 j Zac)];rfl];rfl)
def rv(t:BL):aw:=.mk 34 [sV t] [] (t.length<=4611686018427387904) (ao (aN t)) [] (by
 intro ht;obtain⟨UO,Uc⟩:=kZ t
 refine au Tryz.func34
  (.l8 3<|.c (kE t) []<|.q 2<|.h (.I7 3 1)<|.loop (Nat×(List BL)×Nat×Nat×Nat) (fun (i,o,g,f,k)=>⟨[(3,.own 1 (o.map sV) g f k),(7,ao (ar t)),(8,iN ((ar t).length)),(9,iN i)],[]⟩) (fun (i,o,g,f,k)=>i<=(ar t).length/\o=((ar t).take i).filter eZ/\o.length<=i) (fun (i,o,g,f,k)=>(ar t).length-i) (fun (i,o,g,f,k)=>.q 1<|.br (.r 3 [sV ((ar t).getD i [])]<|.q 1<|.c (lp ((ar t).getD i []) (33:UInt8)) []<|.q 3<|.cg (lp ((ar t).getD i []) (64:UInt8))<|.q 2<|.br (.q 2<|.bs<|.ap (fun g24 Qz QD=>.h (.m9 24 (.own 1 ((o++[((ar t).getD i [])]).map sV) g24 Qz QD))<|.q 1<|.q 2<|.nil)) (.q 2<|.nil)) (.h (.fz 3)<|.h (.m9 3 (ao o))<|.q 2<|.nil)))
  ((kE t).sm/\((t.length<=4611686018427387904))/\(∃ x:Nat×(List BL)×Nat×Nat×Nat,match x with | (j7,s5,y9,A3,n8)=>(j7<=(ar t).length/\s5=((ar t).take j7).filter eZ/\s5.length<=j7)/\Q (.own 1 ([].map sV) 0 0 0) (.own 1 (s5.map sV) y9 A3 n8)/\E (ao (ar t))/\Q (iN (((ar t).map sV).length)) (iN ((ar t).length))/\Q (iN 0) (iN j7)/\True)/\∀ x:Nat×(List BL)×Nat×Nat×Nat,match x with | (i,o,g,f,k)=>(i<=(ar t).length/\o=((ar t).take i).filter eZ/\o.length<=i)->(fun (v2:List V) (v1:Bool)=>Br (r5 (i:Int) (((ar t).length:Nat):Int)) (Ex (i:Int) ((ar t).map sV) (sV ((ar t).getD i []))/\True/\(lp ((ar t).getD i []) (33:UInt8)).sm/\(((33:UInt8)≠0))/\Gd (v1==true) ((((64:UInt8)≠0))/\(lp ((ar t).getD i []) (64:UInt8)).sm)/\Pk v1 (v1==true) true/\Br (v1&&(!(cv ((ar t).getD i [])==(64:UInt8)))) (((1,1,g,f,k,(o.map sV).length)=(1,1,g,f,k,(o.map sV).length))/\(True)/\(V.ax v2=false)/\(aR 1 v2)/\(((o.map sV).length+v2.length)*16<=140737488355328)/\∀ g24 Qz QD:Nat,((.own 1 ((o.map sV)++v2) g24 Qz QD:V)=.own 1 ((o++[((ar t).getD i [])]).map sV) g24 Qz QD)/\m6 ((i:Int)+1)/\∃ x:Nat×(List BL)×Nat×Nat×Nat,match x with | (b9,l7,r3,o5,k₂)=>(b9<=(ar t).length/\l7=((ar t).take b9).filter eZ/\l7.length<=b9)/\((ar t).length-b9<(ar t).length-i)/\Q (.own 1 ((o++[((ar t).getD i [])]).map sV) g24 Qz QD) (.own 1 (l7.map sV) r3 o5 k₂)/\E (ao (ar t))/\E (iN ((ar t).length))/\Q (iN (i+1)) (iN b9)/\True) (m6 ((i:Int)+1)/\∃ x:Nat×(List BL)×Nat×Nat×Nat,match x with | (b9,l7,r3,o5,k₂)=>(b9<=(ar t).length/\l7=((ar t).take b9).filter eZ/\l7.length<=b9)/\((ar t).length-b9<(ar t).length-i)/\Q (.own 1 (o.map sV) g f k) (.own 1 (l7.map sV) r3 o5 k₂)/\E (ao (ar t))/\E (iN ((ar t).length))/\Q (iN (i+1)) (iN b9)/\True)) (((.sl false (V.E6 (o.map sV)):V)=ao o)/\Q (ao o) (ao (aN t)))) ([sV ((ar t).getD i [])]:List V) (!(cv ((ar t).getD i [])==(33:UInt8)))) ?_
 refine aS ⟨⟨(0,[],0,0,0),?_,rfl,rfl,Zah,ak⟩,?_⟩;simp;rintro⟨i,o,g,f,k⟩ ⟨h1,h2,h3⟩;refine bI (fun j8=>?_) fun j8=>?_;refine⟨Zce,trivial,rfl,Zaf,fun hG=>⟨by(try simp only[nb]at hG);decide,rfl⟩,ah (bI (fun l4=>?_) fun l4=>?_)⟩;refine cF ⟨Zal,fun g24 Qz QD=>⟨Zbm (V.own 1 · g24 Qz QD) Zad,ah ⟨(i+1,o++[((ar t).getD i [])],g24,Qz,QD),?_,?_,ak⟩⟩⟩;refine⟨Zac,?_,Zal⟩;rw[aX (d:=[]) Zac,List.filter_append,<- h2,List.filter_cons_of_pos (EZ.2 Zcg)];rfl;exact Zak;refine ah ⟨(i+1,o,g,f,k),?_,?_,ak⟩;refine⟨Zac,?_,ak⟩;rw[aX (d:=[]) Zac,List.filter_append,<- h2,List.filter_cons_of_neg (fun c=>absurd (EZ.1 c) Zcg)];simp;exact Zak;refine⟨Zcd,?_⟩;rw[h2,Zaz Zac];rfl)
def sS(a:w4):aw:=.mk 35 [aD a] [] (cD a) (sV (bz a)) [] (by
 intro ha
 refine au Tryz.func35
  (.bx (fun g1=>.q 1<|.n9<|.c (fO a) []<|.q 1<|.br (.q 1<|.nil) (.n9<|.c (iJ a) []<|.q 1<|.nil)))
  (∀ g1:Nat,Z g1 0/\(fO a).sm/\((cD a))/\Br (!(aI a)) (Q (sV []) (sV (bz a))) (Z g1 0/\(iJ a).sm/\((cD a))/\Q (sV (da a)) (sV (bz a)))) ?_
 intro g1;refine⟨rfl,rfl,ha,bI (fun j8=>?_) fun j8=>?_⟩;rw[show bz a=[] from if_neg Zci];refine⟨rfl,rfl,ha,?_⟩;rw[show bz a=da a from if_pos Zc9])
def qU(s p:BL):aw:=.mk 73 [sV s,sV p] [] ((s.length<=4611686018427387904)/\(p.length<=4611686018427387904)) (bV (fp s p)) [] (by
 rintro⟨hs,hp⟩
 refine au Tryz.func73
  (.q 1<|.q 2<|.c (lM s p) []<|.q 1<|.nil)
  ((lM s p).sm/\((s.length<=4611686018427387904)/\(p.length<=4611686018427387904))/\Q (bV (fp s p)) (bV (fp s p))) ?_
 refine aS ?_;rfl)
abbrev dH(a:w4)(ref:BL):V:=.tup [aD (oA (H5 a ref)),bV ((H5 a ref).isSome)]
def lL(a:w4)(ref:BL):aw:=.mk 33 [aD a,sV ref] [] ((cD a)/\(a.e9.length<=100)/\(ref.length<=1000000)/\(o8 ref)) (dH a ref) [] (by
 rintro⟨ha,hp,hr,hc⟩;have PU:=kY 35 ref
 refine au Tryz.func33
  (.bx (fun g2=>.al cK (fun g4=>.q 1<|.r 5 [.c9]<|.cg (fO a)<|.q 2<|.br (.bd cK<|.st none<|.q 1<|.nil) (.q 1<|.c (nY ref 35) []<|.q 7<|.q 1<|.c (qU ((ab 35 ref).1) ([47,47]:BL)) []<|.q 1<|.br (.q 1<|.c (lS ((ab 35 ref).1)) []<|.q 2<|.st none<|.q 1<|.nil) (.q 3<|.br (.r 2 [.c9]<|.c (kg a.e9) []<|.ot 36 (fun O6 O4 QU=>.h (.fz 36)<|.h (.m9 36 (ao a.e9))<|.q 1<|.st none<|.n9<|.st none<|.q 1<|.nil)) (.q 4<|.br (.r 3 [.c9]<|.c (fK a.j9 ([]:List BL) ((ab 35 ref).1)) []<|.q 2<|.st none<|.q 1<|.nil) (.q 4<|.br (.r 5 [.c9,.c9]<|.c (fK a.j9 a.e9 ((ab 35 ref).1)) []<|.q 2<|.st none<|.q 1<|.nil) (.C6 14 [(1,n6 [2] [62]),(3,n6 [2] [64]),(5,n6 [2] [66])]<|.q 1<|.n9<|.q 1<|.n9<|.q 1<|.n9<|.l8 2<|.mm<|.q 1<|.h (.m9 70 (ao (a.e9.take (a.e9.length-1))))<|.q 1<|.c (fK a.j9 (a.e9.take (a.e9.length-1)) ((ab 35 ref).1)) []<|.l8 2<|.st none<|.q 1<|.nil))))))))
  ((fun (v3 v1:Int) (v2:Bool)=>(∀ g2:Nat,∀ g4:Nat,Gd (v2==false) (Z g2 0)/\Gd (v2==false) (((cD a))/\(fO a).sm)/\Pk v2 true (v2==false)/\Br (v2||(!(aI a))) (Z g4 0/\(g4=g4)/\Q (.tup [fV (.sl false []),bV false]) (dH a ref)) ((nY ref 35).sm/\((ref.length<=1000000))/\(qU ((ab 35 ref).1) ([47,47]:BL)).sm/\((((ab 35 ref).1).length<=4611686018427387904)/\(([47,47]:BL).length<=4611686018427387904))/\Br (fp ((ab 35 ref).1) ([47,47]:BL)) ((lS ((ab 35 ref).1)).sm/\((((ab 35 ref).1).length<=300)/\(o8 ((ab 35 ref).1)))/\Z g4 0/\(g4=g4)/\Q (.tup [aD (oA (ez ((ab 35 ref).1))),bV ((ez ((ab 35 ref).1)).isSome)]) (dH a ref)) (Br (((ab 35 ref).1)==[]) (Z g2 1/\(kg a.e9).sm/\((a.e9.length<=1000000))/\∀ O6 O4 QU:Nat,((.sl false (V.E6 (a.e9.map sV)):V)=ao a.e9)/\Z g2 1/\Z g2 0/\Z g4 0/\(g4=g4)/\Q (.tup [aD a,bV true]) (dH a ref)) (Ix 0 ((ab 35 ref).1)/\Br (o6 v3 47) (Z g2 0/\(fK a.j9 ([]:List BL) ((ab 35 ref).1)).sm/\((a.j9.length<=1000)/\(∀ i,(([]:List BL).getD i []).length<=1000)/\(([]:List BL).length<=100)/\(((ab 35 ref).1).length<=300))/\Z g4 0/\(g4=g4)/\Q (.tup [aD (oA (ct a.j9 ([]:List BL) ((ab 35 ref).1))),bV ((ct a.j9 ([]:List BL) ((ab 35 ref).1)).isSome)]) (dH a ref)) (Ix 0 ((ab 35 ref).1)/\Br (o6 v3 63) (Z g2 0/\Z g2 1/\(fK a.j9 a.e9 ((ab 35 ref).1)).sm/\((a.j9.length<=1000)/\(∀ i,(a.e9.getD i []).length<=1000)/\(a.e9.length<=100)/\(((ab 35 ref).1).length<=300))/\Z g4 0/\(g4=g4)/\Q (.tup [aD (oA (ct a.j9 a.e9 ((ab 35 ref).1))),bV ((ct a.j9 a.e9 ((ab 35 ref).1)).isSome)]) (dH a ref)) (Z g2 0/\Z g2 1/\Z g2 1/\m6 (v1-1)/\(IntKind.i64=IntKind.i64)/\((0:Int)<=(0:Int)/\(0:Int)<=(max (v1-1) 0)/\(max (v1-1) 0)<=(a.e9.map sV).length/\∀ x∈(a.e9.map sV),x.n=1)/\Q (.sl false (((a.e9.map sV).take (Int.toNat (max (v1-1) 0))).drop ((0:Int).toNat))) (ao (a.e9.take (a.e9.length-1)))/\(fK a.j9 (a.e9.take (a.e9.length-1)) ((ab 35 ref).1)).sm/\((a.j9.length<=1000)/\(∀ i,((a.e9.take (a.e9.length-1)).getD i []).length<=1000)/\((a.e9.take (a.e9.length-1)).length<=100)/\(((ab 35 ref).1).length<=300))/\Z g4 0/\(g4=g4)/\Q (.tup [aD (oA (ct a.j9 (a.e9.take (a.e9.length-1)) ((ab 35 ref).1))),bV ((ct a.j9 (a.e9.take (a.e9.length-1)) ((ab 35 ref).1)).isSome)]) (dH a ref)))))))) (((((ab 35 ref).1).getD 0 0).toNat:Nat):Int) (((a.e9.map sV).length:Nat):Int) (s6 (ref.length:Int) 60)) ?_
 intro g2;intro g4;refine ah ⟨fun hG=>⟨ha,rfl⟩,ah (bI (fun j8=>?_) fun j8=>?_)⟩;refine⟨rfl,⟨rfl,?_⟩⟩;unfold Q dH;rw[show H5 a ref=none from if_pos (j8.symm.imp id fun h=>by omega)];rfl;refine aY ⟨ah Zad,bI (fun l4=>?_) fun l4=>?_⟩;refine⟨rfl,ah (hc.cut 35),rfl,⟨rfl,?_⟩⟩;unfold Q dH;rw[oI ⟨j8.2,j8.1⟩,if_pos (NO l4),show ez (ab 35 ref).1=dM ((ab 35 ref).1.drop 2) from if_pos l4];refine bI (fun m8=>?_) fun m8=>?_;refine aY fun O6 O4 QU=>⟨Zcd,aY ⟨rfl,?_⟩⟩;unfold Q dH;rw[oI ⟨j8.2,j8.1⟩,if_neg (yL l4),if_pos Zda];rfl;refine⟨Zdz,bI (fun w6=>?_) fun w6=>?_⟩;refine⟨rfl,rfl,⟨ha.1,Zad,Zad,ak⟩,rfl,⟨rfl,?_⟩⟩;unfold Q dH;rw[oI ⟨j8.2,j8.1⟩,if_neg (yL l4),if_neg Zda,if_pos (yF (k:=47) w6)];refine⟨Zdz,bI (fun D1=>?_) fun D1=>?_⟩;refine⟨rfl,rfl,rfl,⟨ha.1,ha.2.2.2,hp,ak⟩,rfl,⟨rfl,?_⟩⟩;unfold Q dH;rw[oI ⟨j8.2,j8.1⟩,if_neg (yL l4),if_neg Zda,if_neg (sJ (k:=47) w6),if_pos (yF (k:=63) D1)];refine eh ⟨⟨Zcf,Zcf,Zcf,all_map (fun _=>rfl)⟩,Zdy,rfl,⟨ha.1,Cd ha.2.2.2,Zd0,ak⟩,rfl,?_⟩;refine⟨rfl,?_⟩;unfold Q dH;rw[oI ⟨j8.2,j8.1⟩,if_neg (yL l4),if_neg Zda,if_neg (sJ (k:=47) w6),if_neg (sJ (k:=63) D1)])
def kL(a:w4)(t:BL):aw:=.mk 12 [aD a,sV t] [] ((cD a)/\(t.length<=4611686018427387904)/\(o8 t)) (ao (bp a t)) [] (by
 rintro⟨ha,ht,hc⟩;obtain⟨UO,Uc⟩:=pQ t
 refine au Tryz.func12
  (.bx (fun g2=>.q 1<|.n9<|.c (fO a) []<|.q 1<|.br (.q 1<|.nil) (.n9<|.al cK (fun g5=>.st none<|.q 1<|.c (sX t) []<|.q 5<|.q 1<|.join (w4) (fun b=>⟨[(1,sV t),(5,kp 5 g5)],[(5,(g5,aD b))]⟩) (fun b=>b=(fu a t)) (.r 2 [.c9]<|.c (lL a ((bh t).getD [])) []<|.q 3<|.al cK (fun g8=>.st none<|.l8 2<|.br (.n9<|.st none<|.nil) (.nil))) (.nil) (fun b=>.l8 2<|.c (rv t) []<|.q 2<|.h (.I7 10 1)<|.loop (Nat×(List BL)×Nat×Nat×Nat) (fun (i,o,g,f,k)=>⟨[(5,kp 5 g5),(10,.own 1 (o.map sV) g f k),(35,ao (aN t)),(36,iN ((aN t).length)),(37,iN i)],[(5,(g5,aD b))]⟩) (fun (i,o,g,f,k)=>i<=(aN t).length/\o=((aN t).take i).foldl (dI b) []/\o.length<=i) (fun (i,o,g,f,k)=>(aN t).length-i) (fun (i,o,g,f,k)=>.q 1<|.br (.r 3 [sV ((aN t).getD i [])]<|.r 2 [.c9]<|.c (lL b ((aN t).getD i [])) []<|.q 3<|.al cK (fun g13=>.st none<|.q 1<|.q 2<|.br (.q 2<|.nil) (.n9<|.c (sS (oA (H5 b ((aN t).getD i [])))) []<|.q 1<|.q 2<|.cl (sM o (bz (oA (H5 b ((aN t).getD i [])))))<|.q 1<|.br (.q 2<|.bs<|.ap (fun Wi VG Ws=>.h (.m9 58 (.own 1 ((o++[bz (oA (H5 b ((aN t).getD i [])))]).map sV) Wi VG Ws))<|.q 1<|.q 2<|.nil)) (.q 2<|.nil)))) (.h (.fz 10)<|.h (.m9 10 (ao o))<|.q 2<|.nil)))))))
  ((fun v1:Nat=>(∀ g2:Nat,Z g2 0/\(fO a).sm/\((cD a))/\Br (!(aI a)) (Q (.sl false []) (ao (bp a t))) (Z g2 0/\∀ g5:Nat,(fun v2:V=>Z g5 0/\(sX t).sm/\((t.length<=4611686018427387904))/\(((bh t).isSome)=true->Z g2 0/\(lL a ((bh t).getD [])).sm/\((cD a)/\(a.e9.length<=100)/\(((bh t).getD []).length<=1000000)/\(o8 ((bh t).getD [])))/\∀ g8:Nat,Z g8 0/\Br ((H5 a ((bh t).getD [])).isSome) (Z g8 0/\Z g5 0/\∃ b:w4,(b=(fu a t))/\E (sV t)/\E v2/\Qr g5 (aD (oA (H5 a ((bh t).getD [])))) g5 (aD b)/\True) (∃ b:w4,(b=(fu a t))/\E (sV t)/\E v2/\Qr g5 (aD a) g5 (aD b)/\True))/\(((bh t).isSome)=false->∃ b:w4,(b=(fu a t))/\E (sV t)/\E v2/\Qr g5 (aD a) g5 (aD b)/\True)/\(∀ b:w4,(b=(fu a t))->(rv t).sm/\((t.length<=4611686018427387904))/\(∃ x:Nat×(List BL)×Nat×Nat×Nat,match x with | (j7,s5,y9,A3,n8)=>(j7<=(aN t).length/\s5=((aN t).take j7).foldl (dI b) []/\s5.length<=j7)/\E v2/\Q (.own 1 ([].map sV) 0 0 0) (.own 1 (s5.map sV) y9 A3 n8)/\E (ao (aN t))/\Q (iN (((aN t).map sV).length)) (iN v1)/\Q (iN 0) (iN j7)/\Er g5 (aD b)/\True)/\∀ x:Nat×(List BL)×Nat×Nat×Nat,match x with | (i,o,g,f,k)=>(i<=(aN t).length/\o=((aN t).take i).foldl (dI b) []/\o.length<=i)->(fun v3:w4=>(fun v4:List V=>Br (r5 (i:Int) (((aN t).length:Nat):Int)) (Ex (i:Int) ((aN t).map sV) (sV ((aN t).getD i []))/\True/\Z g5 0/\(lL b ((aN t).getD i [])).sm/\((cD b)/\(b.e9.length<=100)/\(((aN t).getD i []).length<=1000000)/\(o8 ((aN t).getD i [])))/\∀ g13:Nat,Z g13 0/\Br (!((H5 b ((aN t).getD i [])).isSome)) (m6 ((i:Int)+1)/\∃ x:Nat×(List BL)×Nat×Nat×Nat,match x with | (b9,l7,r3,o5,k₂)=>(b9<=(aN t).length/\l7=((aN t).take b9).foldl (dI b) []/\l7.length<=b9)/\((aN t).length-b9<(aN t).length-i)/\E v2/\Q (.own 1 (o.map sV) g f k) (.own 1 (l7.map sV) r3 o5 k₂)/\E (ao (aN t))/\E (iN v1)/\Q (iN (i+1)) (iN b9)/\Er g5 (aD b)/\True) (Z g13 0/\(sS v3).sm/\((cD v3))/\(((1=1/\g=g/\f=f)/\0+((o.map sV).length)<=(o.map sV).length/\V.ax (o.map sV)=false/\aR 1 (o.map sV))/\True)/\(([.sl false (((o.map sV).drop 0).take ((o.map sV).length)),sV (bz v3)]:List V)=[ao o,sV (bz v3)])/\((o.length<=1000000))/\Br (!(o.contains (bz v3))) (((1,1,g,f,k,(o.map sV).length)=(1,1,g,f,k,(o.map sV).length))/\(True)/\(V.ax v4=false)/\(aR 1 v4)/\(((o.map sV).length+v4.length)*16<=140737488355328)/\∀ Wi VG Ws:Nat,((.own 1 ((o.map sV)++v4) Wi VG Ws:V)=.own 1 ((o++[bz v3]).map sV) Wi VG Ws)/\m6 ((i:Int)+1)/\∃ x:Nat×(List BL)×Nat×Nat×Nat,match x with | (b9,l7,r3,o5,k₂)=>(b9<=(aN t).length/\l7=((aN t).take b9).foldl (dI b) []/\l7.length<=b9)/\((aN t).length-b9<(aN t).length-i)/\E v2/\Q (.own 1 ((o++[bz v3]).map sV) Wi VG Ws) (.own 1 (l7.map sV) r3 o5 k₂)/\E (ao (aN t))/\E (iN v1)/\Q (iN (i+1)) (iN b9)/\Er g5 (aD b)/\True) (m6 ((i:Int)+1)/\∃ x:Nat×(List BL)×Nat×Nat×Nat,match x with | (b9,l7,r3,o5,k₂)=>(b9<=(aN t).length/\l7=((aN t).take b9).foldl (dI b) []/\l7.length<=b9)/\((aN t).length-b9<(aN t).length-i)/\E v2/\Q (.own 1 (o.map sV) g f k) (.own 1 (l7.map sV) r3 o5 k₂)/\E (ao (aN t))/\E (iN v1)/\Q (iN (i+1)) (iN b9)/\Er g5 (aD b)/\True))) (((.sl false (V.E6 (o.map sV)):V)=ao o)/\Q (ao o) (ao (bp a t)))) ([sV (bz v3)]:List V)) (oA (H5 b ((aN t).getD i []))))) (kp 5 g5)))) ((aN t).length)) ?_
 intro g2;refine⟨rfl,rfl,ha,bI (fun j8=>?_) fun j8=>?_⟩;rw[show bp a t=[] from if_neg Zci];rfl;refine⟨rfl,fun g5=>aY ⟨fun l4=>?_,fun l4=>?_,fun b hb=>?_⟩⟩;try simp only[nb]at l4
 refine⟨rfl,rfl,⟨ha,by have:=(iv Zc9).2.1;omega,by have:=Ap t;omega,GF hc⟩,fun g8=>⟨rfl,bI (fun m8=>?_) fun m8=>?_⟩⟩;refine aS ⟨(⟨(oA (H5 a ((bh t).getD []))).j9,(oA (H5 a ((bh t).getD []))).e9,(oA (H5 a ((bh t).getD []))).asks,(oA (H5 a ((bh t).getD []))).ask⟩:w4),Zd1,rfl,rfl,Zah,ak⟩;exact⟨(⟨a.j9,a.e9,a.asks,a.ask⟩:w4),Zd1,rfl,rfl,Zah,trivial⟩;try simp only[nb]at l4
 exact⟨(⟨a.j9,a.e9,a.asks,a.ask⟩:w4),Zd1,rfl,rfl,Zah,trivial⟩;refine aS ⟨⟨(0,[],0,0,0),?_,rfl,rfl,rfl,Zah,ak⟩,?_⟩;simp;rintro⟨i,o,g,f,k⟩ ⟨h1,h2,h3⟩;have M7:=im (n:=300) (fun m hm=>(Uc m hm).1) i;have hbo:aI b=true:=by rw[hb];exact zy Zc9
 have hbs:cD b:=nU hbo;have hbp:b.e9.length<=100:=by have:=(iv hbo).2.1;omega
 have hla:o8 ((aN t).getD i []):=GS hc i;refine bI (fun w6=>?_) fun w6=>?_;refine⟨Zce,aY ⟨⟨hbs,hbp,ah (hla)⟩,fun g13=>⟨rfl,bI (fun D1=>?_) fun D1=>?_⟩⟩⟩;refine ah ⟨(i+1,o,g,f,k),?_,?_,ak⟩;refine⟨Zac,?_,ak⟩;rw[foldl_succ (d:=[]) Zac,<- h2];exact(if_neg (by simpa using D1)).symm;exact Zak;refine⟨rfl,rfl,Ie _ _,⟨⟨ak,Zad,bq (f:=sV) (fun _=>rfl) _,bX (f:=sV) (fun _=>rfl) _⟩,ak⟩,Zck,ah (bI (fun PE=>?_) fun PE=>?_)⟩;refine cF ⟨Zal,fun Wi VG Ws=>⟨Zbm (V.own 1 · Wi VG Ws) Zad,ah ⟨(i+1,o++[bz (oA (H5 b ((aN t).getD i [])))],Wi,VG,Ws),?_,?_,ak⟩⟩⟩;refine⟨Zac,?_,Zal⟩;rw[foldl_succ (d:=[]) Zac,<- h2];exact(KJ (by simpa using D1) (by simpa using PE)).symm;exact Zak;refine ah ⟨(i+1,o,g,f,k),?_,?_,ak⟩;refine⟨Zac,?_,ak⟩;rw[foldl_succ (d:=[]) Zac,<- h2];exact(LH (by simpa using D1) (by simpa using PE)).symm;exact Zak;refine⟨Zcd,?_⟩;rw[show bp a t=_ from if_pos Zc9,<- hb,h2,Zaz Zac])
abbrev lg(a:w4)(k:Int)(t:BL):V:=ao (if k=1 then bp a t else if k=2 then [t] else [])
def CL(a:w4)(k:Int)(t:BL):aw:=.mk 146 [aD a,iV k,sV t] [] ((cD a)/\(t.length<=4611686018427387904)/\(o8 t)) (lg a k t) [] (by
 rintro⟨ha,ht,hc⟩
 refine au Tryz.func146
  (.bx (fun g3=>.l8 2<|.q 2<|.br (.r 2 [.c9]<|.c (kL a t) []<|.q 1<|.nil) (.q 2<|.br (.q 1<|.bs<|.q 1<|.nil) (.q 1<|.nil))))
  (∀ g3:Nat,Br (o6 k 1) (Z g3 0/\(kL a t).sm/\((cD a)/\(t.length<=4611686018427387904)/\(o8 t))/\Q (ao (bp a t)) (lg a k t)) (Br (o6 k 2) (Q (.sl false [sV t]) (lg a k t)) (Q (.sl false []) (lg a k t)))) ?_
 intro g3;refine bI (fun j8=>?_) fun j8=>?_;refine aY ?_;unfold Q lg;rw[if_pos j8];refine bI (fun l4=>?_) fun l4=>?_;unfold Q lg;rw[if_neg j8,if_pos l4];rfl;unfold Q lg;rw[if_neg j8,if_neg l4];rfl)
theorem zO(k:BL)(y:Value)(a:BL):∀ es:List (BL×Value),cC (ft es k y) a=if a=k then some y else cC es a
 | []=>by
   unfold ft cC;by_cases h:a=k;rw[if_pos h.symm,if_pos h];rw[if_neg (fun c=>h c.symm),if_neg h];rfl
 | p::r=>by
   unfold ft;by_cases h:p.1=k;rw[if_pos h];show (if k=a then some y else cC r a)=if a=k then some y else if p.1=a then some p.2 else cC r a;by_cases h2:a=k;rw[if_pos h2.symm,if_pos h2];rw[if_neg (fun c=>h2 c.symm),if_neg h2,if_neg (fun c=>h2 (c.symm.trans h))];rw[if_neg h];show (if p.1=a then some p.2 else cC (ft r k y) a)=if a=k then some y else if p.1=a then some p.2 else cC r a;rw[zO k y a r];by_cases h2:p.1=a;rw[if_pos h2,if_neg (fun c=>h (h2.trans c)),if_pos h2];rw[if_neg h2,if_neg h2]
def hS(x:List BL×List (BL×Value))(a:BL):List BL×List (BL×Value):=(x.1++[a],ft x.2 a (.int .i64 (((x.1.count a:Nat):Int)+1)))
def hE(H:List BL):List (BL×Value):=(H.foldl hS ([],[])).2
theorem Hy:∀ (H:List BL) {x:List BL×List (BL×Value)},(H.foldl hS x).1=x.1++H
 | [],x=>by simp
 | a::H,x=>by rw[List.foldl_cons,Hy H];simp[hS]
theorem Ct(H:List BL)(a:BL):ft (hE H) a (.int .i64 (((H.count a:Nat):Int)+1))=hE (H++[a]):=by
 unfold hE;rw[List.foldl_append,List.foldl_cons,List.foldl_nil];show _=ft _ a (.int .i64 ((((H.foldl hS ([],[])).1.count a:Nat):Int)+1));rw[Hy,List.nil_append]
theorem BF:∀ (H:List BL) {x:List BL×List (BL×Value)},(∀ a,cC x.2 a=if a∈x.1 then some (.int .i64 ((x.1.count a:Nat):Int)) else none)->
 ∀ a,cC (H.foldl hS x).2 a=if a∈(H.foldl hS x).1 then some (.int .i64 (((H.foldl hS x).1.count a:Nat):Int)) else none
 | [],_,h=>h
 | b::H,x,h=>BF H fun a=>by
   show cC (ft x.2 b _) a=if a∈x.1++[b] then some (.int .i64 (((x.1++[b]).count a:Nat):Int)) else none;rw[zO,h a];by_cases e:a=b;subst e;rw[if_pos rfl,if_pos Zad,List.count_append];simp;rw[if_neg e,List.count_append];by_cases e2:a∈x.1;rw[if_pos e2,if_pos (by simp[e2])];simp[List.count_cons,Ne.symm e];rw[if_neg e2,if_neg (by simp[e,e2])]
theorem Bs(H:List BL)(a:BL):cC (hE H) a=if a∈H then some (.int .i64 ((H.count a:Nat):Int)) else none:=by
 have:=BF H (x:=([],[])) (by simp[cC]) a;rw[Hy,List.nil_append]at this;exact this
theorem BY{b:w4}:∀ (ls:List BL) {o:List BL},(∀ m,m∈o->az m=true/\o8 m)->∀ m,m∈ls.foldl (dI b) o->az m=true/\o8 m
 | [],_,h=>h
 | l::ls,o,h=>by
   refine BY ls fun m hm=>?_;unfold dI at hm;split at hm;rename_i hs;rcases Cv.1 hm with hm | rfl;exact h m hm;have hk:=CU hs;exact⟨by rw[show bz (oA (H5 b l))=da (oA (H5 b l)) from if_pos hk];exact CT hk,zL _⟩;exact h m hm
theorem yf{a:w4}{t:BL}:∀ m,m∈bp a t->az m=true/\o8 m:=by
 unfold bp;split;exact BY _ Zad;simp
section
variable {P:Program}
def lkO(t0:Nat)(es:List (BL×Value))(k:BL)(v:V):Cu P where
 X:=Unit
 pre N o A:=match o.op,o.dst with
  | .lookup T x kx false,some d=>match tD P T,Nat.blt d N with
    | some (.map kt et),true=>match tD P kt,A.ev x,A.get t0 with
      | some .str,.lit (.map (some g)),.om RH g'=>(g'=g/\RH=es)/\A.ev kx=sV k/\((∃ y,cC es k=some y/\v.val? =some y)\/(cC es k=none/\∃ y,v.val? =some y/\∀ w,(zeroValue et).run P w=.ok y w))
      | _,_,_=>False
    | _,_=>False
  | _,_=>False
 post _ o A:=match o.dst with
  | some d=>A.put (some d) v
  | none=>A
 ok:=by
  rintro N ⟨dst,op,ty,pos,after,D8⟩ A K-hp hK;replace hK:=hK ();simp only at hp hK;split at hp;rename_i T x kx d;split at hp;rename_i kt et e1 e2;split at hp;rename_i g RH g' e3 e4 e5;obtain⟨⟨rfl,rfl⟩,hk,hy⟩:=hp;obtain⟨td,hu,hd⟩:=cP e1;have hu:P.underlying T=some (.map kt et):=by
   cases td <;> simp_all[dG]
  obtain⟨U3,QR,Tr⟩:=cP e3;have QR:P.underlying kt=some .string:=by
   cases U3 <;> simp_all[dG]
  have P4:∃ y,v.val? =some y:=by
   rcases hy with ⟨y,_,h⟩ | ⟨_,y,h,_⟩ <;> exact⟨y,h⟩
  obtain⟨y,hv⟩:=P4;refine gy rfl (bG e2) hK fun Pb Kb a w F hs=>⟨y,?_,vZ hv⟩;have hk:=bY hs hk;have hm:=bY hs e4;have h0:=hs.slot t0;rw[e5]at h0;have h0:R w Pb (.om RH g') [a.tmps.getD t0 undef] (F (.slot t0)):=h0;obtain⟨hF,hc,hnP,en,cl,hb,UR,hnd,hcl⟩:=h0;obtain⟨f1,f2⟩:=kO k RH en.toList 0 UR;have Wc:∀ e,(Instr.checkKey e 10000 kt (.string (Str k))).run P w=.ok () w:=fun e=>nq QR;rcases hy with ⟨y',h1,h2⟩ | ⟨h1,y',h2,XJ⟩;rw[hv]at h2;obtain rfl:=Option.some.inj h2;obtain⟨j,j1,_⟩:=f2 _ h1;rw[show (⟨k.toArray⟩:ByteArray)=Str k from rfl]at j1;simp[execOp,hm,hk,Instr.lookup,run_underlying hu,MapKept.run_getObj_map hb,Wc,MapKept.run_findKey QR j1,Result.andThen];rw[hv]at h2;obtain rfl:=Option.some.inj h2;have j1:=f1 h1;rw[show (⟨k.toArray⟩:ByteArray)=Str k from rfl]at j1;simp[execOp,hm,hk,Instr.lookup,run_underlying hu,MapKept.run_getObj_map hb,Wc,MapKept.run_findKey QR j1,Result.andThen,XJ];exact hp.elim;exact hp.elim;exact hp.elim
end
theorem Lw(H:List BL)(a:BL):(∃ y,cC (hE H) a=some y/\(iN (H.count a):V).val? =some y)\/(cC (hE H) a=none/\∃ y,(iN (H.count a):V).val? =some y/\∀ w,(zeroValue 3).run Tryz.prog w=.ok y w):=by
 have h:=Bs H a;by_cases e:a∈H;rw[if_pos e]at h;exact .inl ⟨_,h,rfl⟩;rw[if_neg e]at h;refine .inr ⟨h,.int .i64 0,by rw[List.count_eq_zero.2 e];rfl,fun w=>by kernel_rfl⟩
theorem JN{l m:List BL}(h:l.length=m.length)(e:∀ j,j<l.length->l.getD j []=m.getD j []):l=m:=by
 apply List.ext_getElem h;intro j h1 h2;have:=e j h1;rw[Zam,Zam,Zat h1,Zat h2]at this;exact this
def fk(w:List Pg)(d:BL)(n:Int):Int×BL:=if aF w=true then ai w d n else (0,[])
abbrev iL(b:BL)(p g:Nat)(w:List Pg)(m:Nat)(e:List BL)(q u f k:Nat):Prop:=e.length+m<=3/\(∀ y,y∈e->y.length<=30/\o8 y)/\p<=q/\q+10*m<=p+40
def wm(b:BL)(p g:Nat)(w:List Pg):fZ:=.mk (List BL×Nat) 79 [kp 1000 g,bb w] [(1000,(g,aj b p))] ((b.length<=2000)/\(p<=700000)/\(w.length<=30)/\(∀ y,y∈w->r6 y)) (fun x=>x.1.length<=4/\(∀ y,y∈x.1->y.length<=30/\o8 y)/\p<=x.2/\x.2<=p+60) (fun x=>ao x.1) (fun x=>[(1000,(g,aj b x.2))]) (by
 rintro⟨hb,hp,hw,hy⟩
 refine fW Tryz.func79
  (.q 1<|.bs<|.l8 2<|.cx (aZ b p g 3) [(1000,1000)] (fun (w7:Nat)=>.q 2<|.h (.I7 5 1)<|.loop (Nat×(List BL)×Nat×Nat×Nat×Nat) (fun (m,e,q,u,f,k)=>⟨[(0,kp 1000 g),(1,bb w),(5,.own 1 (e.map sV) u f k),(6,iN m)],[(1000,(g,aj b q))]⟩) (fun (m,e,q,u,f,k)=>iL b p g w m e q u f k) (fun (m,e,q,u,f,k)=>m) (fun (m,e,q,u,f,k)=>.q 2<|.br (.q 3<|.cx (uD b q g w) [(1000,1000)] (fun (P2:BL×Nat)=>.bs<|.ap (fun g20 RX Sn=>.h (.m9 20 (.own 1 ((e++[P2.1]).map sV) g20 RX Sn))<|.q 1<|.q 2<|.h (.m9 14 (iN (m-1)))<|.q 1<|.nil))) (.q 1<|.cx (aZ b q g 12) [(1000,1000)] (fun (F6:Nat)=>.q 1<|.br (.q 1<|.bs<|.ap (fun X3 XD X'=>.h (.m9 26 (.own 1 ((e++[([120]:BL)]).map sV) X3 XD X'))<|.q 1<|.h (.fz 4)<|.h (.m9 4 (ao (e++[([120]:BL)])))<|.nil)) (.h (.fz 5)<|.h (.m9 5 (ao e))<|.q 2<|.nil))))))
  ((fun v1:BL=>((aZ b p g 3).sm/\Er g (aj b p)/\((b.length<=2000)/\(p<=1000000)/\(3<=1000000))/\∀ w7:Nat,(3=0/\w7=0\/w7<3)->m6 (1+(w7:Int))/\(∃ x:Nat×(List BL)×Nat×Nat×Nat×Nat,match x with | (N4,D7,w9,H9,A3,n8)=>(iL b p g w N4 D7 w9 H9 A3 n8)/\E (kp 1000 g)/\E (bb w)/\Q (.own 1 ([].map sV) 0 0 0) (.own 1 (D7.map sV) H9 A3 n8)/\Q (iN (1+w7)) (iN N4)/\Qr g (aj b (p+1)) g (aj b w9)/\True)/\∀ x:Nat×(List BL)×Nat×Nat×Nat×Nat,match x with | (m,e,q,u,f,k)=>(iL b p g w m e q u f k)->Br (s6 (m:Int) 0) ((uD b q g w).sm/\Er g (aj b q)/\((b.length<=2000)/\(q<=800000)/\(w.length<=30)/\(∀ y,y∈w->r6 y))/\∀ P2:BL×Nat,(P2.1.length<=30/\q<=P2.2/\P2.2<=q+8/\o8 P2.1)->(fun v2:List V=>((1,1,u,f,k,(e.map sV).length)=(1,1,u,f,k,(e.map sV).length))/\(True)/\(V.ax v2=false)/\(aR 1 v2)/\(((e.map sV).length+v2.length)*16<=140737488355328)/\∀ g20 RX Sn:Nat,((.own 1 ((e.map sV)++v2) g20 RX Sn:V)=.own 1 ((e++[P2.1]).map sV) g20 RX Sn)/\m6 ((m:Int)-1)/\Q (iV ((m:Int)-1)) (iN (m-1))/\∃ x:Nat×(List BL)×Nat×Nat×Nat×Nat,match x with | (m₂,x8,n7,C7,o5,k₂)=>(iL b p g w m₂ x8 n7 C7 o5 k₂)/\(m₂<m)/\E (kp 1000 g)/\E (bb w)/\Q (.own 1 ((e++[P2.1]).map sV) g20 RX Sn) (.own 1 (x8.map sV) C7 o5 k₂)/\Q (iN (m-1)) (iN m₂)/\Qr g (aj b P2.2) g (aj b n7)/\True) ([sV P2.1]:List V)) ((aZ b q g 12).sm/\Er g (aj b q)/\((b.length<=2000)/\(q<=1000000)/\(12<=1000000))/\∀ F6:Nat,(12=0/\F6=0\/F6<12)->Br (o6 (F6:Int) 0) (((1,1,u,f,k,(e.map sV).length)=(1,1,u,f,k,(e.map sV).length))/\(True)/\(V.ax ([sV v1]:List V)=false)/\(aR 1 ([sV v1]:List V))/\(((e.map sV).length+([sV v1]:List V).length)*16<=140737488355328)/\∀ X3 XD X':Nat,((.own 1 ((e.map sV)++([sV v1]:List V)) X3 XD X':V)=.own 1 ((e++[v1]).map sV) X3 XD X')/\((.sl false (V.E6 ((e++[v1]).map sV)):V)=ao (e++[v1]))/\∃ x:List BL×Nat,(x.1.length<=4/\(∀ y,y∈x.1->y.length<=30/\o8 y)/\p<=x.2/\x.2<=p+60)/\Q (ao (e++[v1])) (ao x.1)/\Qr g (aj b (q+1)) g (aj b x.2)) (((.sl false (V.E6 (e.map sV)):V)=ao e)/\∃ x:List BL×Nat,(x.1.length<=4/\(∀ y,y∈x.1->y.length<=30/\o8 y)/\p<=x.2/\x.2<=p+60)/\Q (ao e) (ao x.1)/\Qr g (aj b (q+1)) g (aj b x.2))))) ([120]:BL)) ?_
 refine aY fun w7 Re=>ah ⟨⟨(1+w7,[],p+1,0,0,0),?_,ak⟩,?_⟩;unfold iL;exact⟨Zal,Zad,Zac,Zac⟩;rintro⟨m,e,q,u,f,k⟩ ⟨h1,h2,h3,h4⟩;refine bI (fun j8=>?_) fun j8=>?_;refine⟨rfl,rfl,aY (hy),fun P2 VY=>cF ⟨Zal,fun g20 RX Sn=>⟨Zbm (V.own 1 · g20 RX Sn) Zad,Zac,Zcs,⟨(m-1,e++[P2.1],P2.2,g20,RX,Sn),?_,?_,ak⟩⟩⟩⟩;unfold iL;exact⟨Zal,jw h2 ⟨VY.1,VY.2.2.2⟩,Zac,Zac⟩;exact Zak;refine aY fun F6 TU=>bI (fun l4=>?_) fun l4=>?_;refine cF ⟨Zal,fun X3 XD X'=>⟨Zbm (V.own 1 · X3 XD X') Zad,Zcd,⟨(e++[([120]:BL)],q+1),?_,?_,?_⟩⟩⟩;try dsimp only
 exact⟨Zal,jw h2 ⟨Zad,bT rfl⟩,Zac,Zac⟩;exact Zaa;exact Zab;refine⟨Zcd,⟨(e,q+1),?_,?_,?_⟩⟩;try dsimp only
 exact⟨Zac,h2,Zac,Zac⟩;exact Zaa;first | rfl | exact⟨rfl,rfl⟩ | simp_all)
def eN(l m:List BL):aw:=.mk 9 [ao l,ao m] [] ((l.length<=1000000)/\(m.length<=1000000)) (bV (l==m)) [] (by
 rintro⟨hl,hm⟩
 refine au Tryz.func9
  (.q 1<|.q 5<|.br (.q 1<|.nil) (.q 1<|.loop Nat (fun i=>⟨[(0,ao l),(1,ao m),(5,iN i)],[]⟩) (fun i=>i<=l.length/\∀ j,j<i->l.getD j []=m.getD j []) (fun i=>l.length-i) (fun i=>.q 4<|.br (.C6 9 [(3,n6 [] [20]),(7,n6 [] [24])]<|.l8 2<|.r 1 [sV (l.getD i [])]<|.l8 3<|.r 1 [sV (m.getD i [])]<|.l8 2<|.br (.q 1<|.nil) (.q 3<|.nil)) (.q 1<|.nil))))
  ((fun v1:Nat->Prop=>(Br (D2 (((l.map sV).length:Nat):Int) (((m.map sV).length:Nat):Int)) (Q (bV false) (bV (l==m))) ((∃ j7:Nat,(v1 j7)/\E (ao l)/\E (ao m)/\Q (iN 0) (iN j7)/\True)/\∀ i:Nat,(v1 i)->Br (r5 (i:Int) (((l.map sV).length:Nat):Int)) (Ex (i:Int) (l.map sV) (sV (l.getD i []))/\True/\Ex (i:Int) (m.map sV) (sV (m.getD i []))/\True/\Br (!((l.getD i [])==(m.getD i []))) (Q (bV false) (bV (l==m))) (m6 ((i:Int)+1)/\∃ b9:Nat,(v1 b9)/\(l.length-b9<l.length-i)/\E (ao l)/\E (ao m)/\Q (iN (i+1)) (iN b9)/\True)) (Q (bV true) (bV (l==m)))))) (fun j7:Nat=>j7<=l.length/\∀ j,j<j7->l.getD j []=m.getD j [])) ?_
 refine bI (fun j8=>?_) fun j8=>?_;unfold Q;refine Zbm bV ?_;symm;rw[beq_eq_false_iff_ne];rintro rfl;simp_all;refine⟨⟨0,?_,ak⟩,?_⟩;simp;rintro i ⟨h1,h2⟩;refine bI (fun l4=>?_) fun l4=>?_;refine⟨Zce,trivial,Zce,ah (bI (fun m8=>?_) fun m8=>?_)⟩;unfold Q;refine Zbm bV ?_;symm;rw[beq_eq_false_iff_ne];rintro rfl;simp_all;refine ah ⟨i+1,?_,?_,ak⟩;exact⟨Zac,Zdl⟩;exact Zak;unfold Q;refine Zbm bV ?_;symm;rw[Zbl];exact JN Zac (fun j hj=>h2 j Zac))
def wT(l:List BL)(y:BL):aw:=.mk 37 [ao l,sV y] [] (l.length<=1000000) (bV (l.contains y)) [] (by
 intro hl
 refine au Tryz.func37
  (.l8 2<|.loop Nat (fun i=>⟨[(0,ao l),(1,sV y),(5,iN i)],[]⟩) (fun i=>i<=l.length/\∀ j,j<i->(l.getD j []==y)=false) (fun i=>l.length-i) (fun i=>.q 4<|.br (.r 6 [sV (l.getD i [])]<|.br (.q 1<|.nil) (.q 3<|.nil)) (.q 1<|.nil)))
  ((fun v1:Nat->Prop=>((∃ j7:Nat,(v1 j7)/\E (ao l)/\E (sV y)/\Q (iN 0) (iN j7)/\True)/\∀ i:Nat,(v1 i)->Br (r5 (i:Int) (((l.map sV).length:Nat):Int)) (Ex (i:Int) (l.map sV) (sV (l.getD i []))/\True/\Br ((l.getD i [])==y) (Q (bV true) (bV (l.contains y))) (m6 ((i:Int)+1)/\∃ b9:Nat,(v1 b9)/\(l.length-b9<l.length-i)/\E (ao l)/\E (sV y)/\Q (iN (i+1)) (iN b9)/\True)) (Q (bV false) (bV (l.contains y))))) (fun j7:Nat=>j7<=l.length/\∀ j,j<j7->(l.getD j []==y)=false)) ?_
 refine⟨⟨0,?_,ak⟩,?_⟩;simp;rintro i ⟨h1,h2⟩;refine bI (fun j8=>?_) fun j8=>?_;refine⟨Zce,ah (bI (fun l4=>?_) fun l4=>?_)⟩;rw[EU (i:=i) Zac l4];refine ah ⟨i+1,?_,?_,ak⟩;exact⟨Zac,Zdw⟩;exact Zak;rw[FX (fun j hj=>by have:=h2 j Zac;simpa using this)])
def vU(w:List Pg)(d:BL)(n:Int):aw:=.mk 10 [bb w,sV d,iV n] [] ((w.length<=30)/\(∀ i,r6 (w.getD i r8))/\(0<=n)/\(n<=1000)) (.tup [iV ((fk w d n).1),sV ((fk w d n).2)]) [] (by
 rintro⟨hw,hz,hn,W7⟩
 refine au Tryz.func10
  (.q 2<|.q 1<|.sp (aF w) (.c (jZ w) []<|.q 5<|.q 2<|.br (.q 2<|.nil) (.q 3<|.c (sC w d n) []<|.q 4<|.nil)) (.c (mw w) []<|.q 5<|.q 2<|.br (.q 2<|.nil) (.nil)))
  ((fun v1:V=>(((aF w)=true->(jZ w).sm/\((w.length<=30)/\(∀ i,r6 (w.getD i r8))/\(aF w=true))/\Br (!true) (Q (.tup [iN 0,sV []]) v1) ((sC w d n).sm/\((0<=n)/\(n<=1000))/\Q (.tup [iV ((ai w d n).1),sV ((ai w d n).2)]) v1))/\((aF w)=false->(mw w).sm/\((w.length<=30)/\(∀ i,r6 (w.getD i r8))/\(aF w=false))/\Br (!false) (Q (.tup [iN 0,sV []]) v1) (False)))) (.tup [iV ((fk w d n).1),sV ((fk w d n).2)])) ?_
 refine⟨fun K3=>?_,fun K3=>?_⟩
 · have QJ:=K3;try simp only[nb]at QJ
   refine⟨rfl,⟨hw,hz,K3⟩,bI (fun j8=>?_) fun j8=>?_⟩
   · all_goals (first | exact absurd j8 Zaf | simp_all)
   refine aS ?_;rw[show fk w d n=ai w d n from if_pos K3]
 · have QJ:=K3;try simp only[nb]at QJ
   refine⟨rfl,⟨hw,hz,K3⟩,bI (fun l4=>?_) fun l4=>?_⟩;rw[show fk w d n=(0,[]) from if_neg (by rw[K3];decide)];rfl
   · all_goals (first | exact absurd l4 Zaf | simp_all))
structure s7 where
 ad:BL
 tr:Int
structure l5 where
 na:BL
 re:Int
 kn:Bool
 gr:l9
 tr:Int
 td:List s7
structure r4 where
 ti:Int
 ad:BL
 ki:Int
structure l6 where
 na:BL
 b7:Int
 hs:List l5
 se:List BL
 lk:List r4
def j6:l5:=⟨[],0,false,⟨[],[],0⟩,0,[]⟩
def l3:s7:=⟨[],0⟩
def x9:r4:=⟨0,[],0⟩
def dO(d n:BL):l5:=⟨d,0,false,⟨[n],[],0⟩,0,[]⟩
def C8(hs:List l5)(d:BL):Nat:=hs.findIdx fun h=>h.na==d
def bA(hs:List l5)(d n:BL):List l5:=if C8 hs d<hs.length then hs else hs++[dO d n]
def pathOf(s:BL):BL:=bL (oA (aP s))
def aJ(s:BL):BL:=(oA (aP s)).j9
def fw(h:l5)(s:BL):l5:=if h.kn=true/\bU h.gr.ru (pathOf s)=false then h else { h with td:=h.td++[⟨s,0⟩] }
def dX(se:List BL)(s:BL):Prop:=az s=true/\se.length<60/\s ∉ se
instance (se:List BL) (s:BL):Decidable (dX se s):=by unfold dX;infer_instance
def bj(se:List BL)(s:BL):List BL:=if dX se s then se++[s] else se
def bP(n:BL)(hs:List l5)(se:List BL)(s:BL):List l5:=
 if dX se s then (bA hs (aJ s) n).set (C8 hs (aJ s)) (fw ((bA hs (aJ s) n).getD (C8 hs (aJ s)) j6) s) else hs
def aG(t:l6)(s:BL):l6:={ t with se:=bj t.se s,hs:=bP t.na t.hs t.se s }
theorem kv(hs:List l5)(d n:BL):C8 hs d<(bA hs d n).length:=by
 unfold bA;split;assumption;rename_i h;have:C8 hs d<=hs.length:=List.findIdx_le_length;simp only[Zap,Zar,Zau];omega
theorem uw(hs:List l5)(d n:BL):(bA hs d n).length<=hs.length+1:=by
 unfold bA;split <;> simp
def oT(o:Option l6):l6:=o.getD ⟨[],0,[],[],[]⟩
def dB(n:BL):l6:=⟨n,0,[],[],[]⟩
def eW(n:BL)(m7:List BL):Option l6:=if cB n=true/\m7.length<=12 then some (m7.foldl aG (dB n)) else none
structure UG (n:BL) (k:Nat) (t:l6):Prop where
 na:t.na=n
 b7:t.b7=0
 lk:t.lk=[]
 hl:t.hs.length<=k
 sl:t.se.length<=k
 hs:∀ y,y∈t.hs->y.kn=false/\y.gr=⟨[n],[],0⟩/\y.td.length<=k/\y.re=0/\y.tr=0
theorem gj{α:Type}{l:List α}{i:Nat}{a y:α}(h:y∈l.set i a):y=a\/y∈l:=by
 rcases List.mem_or_eq_of_mem_set h with h | h;exact .inr h;exact .inl h
theorem Ii{n s:BL}{k:Nat}{t:l6}(h:UG n k t):UG n (k+1) (aG t s):=by
 have hin:∀ d y,y∈bA t.hs d t.na->y.kn=false/\y.gr=⟨[n],[],0⟩/\y.td.length<=k/\y.re=0/\y.tr=0:=fun d y hy=>by
  unfold bA at hy;split at hy;exact h.hs y hy;rcases Zax.1 hy with hy | hy;exact h.hs y hy;rw[Zav.1 hy,h.na];simp[dO]
 refine⟨h.na,h.b7,h.lk,?_,?_,fun y hy=>?_⟩;show (bP t.na t.hs t.se s).length<=k+1;unfold bP;split;have:=uw t.hs (aJ s) t.na;have:=h.hl;rw[List.length_set];omega;have:=h.hl;omega;show (bj t.se s).length<=k+1;unfold bj;have:=h.sl;split;simp;omega;omega;have hy:y∈bP t.na t.hs t.se s:=hy;unfold bP at hy;split at hy;rcases gj hy with e | hy;have hm:(bA t.hs (aJ s) t.na).getD (C8 t.hs (aJ s)) j6∈bA t.hs (aJ s) t.na:=by
  rw[Zam,Zat (kv ..)];exact List.getElem_mem _
 obtain⟨a1,a2,a3,a4,a5⟩:=hin _ _ hm;rw[e];unfold fw;rw[if_neg (fun c=>by rw[a1]at c;cases c.1)];exact⟨a1,a2,Zc0,a4,a5⟩;obtain⟨a1,a2,a3,a4,a5⟩:=hin _ _ hy;exact⟨a1,a2,Zac,a4,a5⟩;obtain⟨a1,a2,a3,a4,a5⟩:=h.hs y hy;exact⟨a1,a2,Zac,a4,a5⟩
theorem qb(n:BL):∀ (l:List BL) {k:Nat} {t:l6},UG n k t->UG n (k+l.length) (l.foldl aG t)
 | [],k,t,h=>h
 | a::r,k,t,h=>by
   have:=qb n r (Ii (s:=a) h);rw[show k+(a::r).length=k+1+r.length from Zal];exact this
theorem rC(n:BL):UG n 0 (dB n):=⟨rfl,rfl,rfl,by simp[dB],by simp[dB],fun y hy=>by simp[dB]at hy⟩
def cy(k:Int):Int:=if k=1 then 2 else if k=2 then 4 else if k=3 then 8 else 0
def ma(b7:Int)(x:Int×Int)(p:Nat×l5):Int×Int:=
 if p.2.td≠[]/\(x.1<0\/max p.2.re b7<x.2) then (p.1,max p.2.re b7) else x
def z6(t:l6)(i:Nat):Int×Int:=((t.hs.zipIdx.take i).map fun p=>(p.2,p.1)).foldl (ma t.b7) (-1,0)
def gC(t:l6):Option (Nat×Int):=
 if (z6 t t.hs.length).1<0\/5000<(z6 t t.hs.length).2 then none else some ((z6 t t.hs.length).1.toNat,(z6 t t.hs.length).2)
def fU(h:l5)(b7 k n:Int):l5:={ h with re:=b7+max (h.gr.wa:Int) 1+(if k=3 then cy (n+1) else 0) }
def rM(s:BL)(k:Int)(x:BL):List BL:=if k=1 then bp (oA (aP s)) x else if k=2 then [x] else []
def bW(h:l5)(se:List BL):Bool:=
 decide (h.td.length<=se.length)&&(h.td.all fun it=>az it.ad&&(aJ it.ad==h.na)&&se.contains it.ad&&A6 it.tr 0 2)&&decide (h.td.map (·.ad)).Nodup
def cR(h:l5)(n:BL):Bool:=
 cW h.na&&A6 h.re 0 5100&&A6 h.tr 0 2&&(h.gr.na==[n])&&
  (if h.kn=true then decide (h.gr.ru.length<=40)&&(h.gr.ru.all fun r=>bf r.path)&&A6 h.gr.wa 0 20 else decide (h.gr.ru=[]/\h.gr.wa=0))
def dz(lk:List r4)(b7:Int):Bool:=
 decide (lk.length<=400)&&((List.range lk.length).all fun i=>decide ((if i=0 then 0 else (lk.getD (i-1) x9).ti)<=(lk.getD i x9).ti)&&decide ((lk.getD i x9).ti<=b7)&&A6 (lk.getD i x9).ki 0 3&&az (lk.getD i x9).ad)
def dK(se:List BL):Bool:=decide (se.length<=60)&&decide se.Nodup&&se.all az
def aH(t:l6):Bool:=cB t.na&&A6 t.b7 0 5000&&dK t.se&&dz t.lk t.b7&&(t.hs.all fun h=>cR h t.na&&bW h t.se)&&decide (t.hs.map (·.na)).Nodup
structure O2 (h:l5):Prop where
 n:h.na.length<=1000
 r:h.gr.ru.length<=1000
 rp:∀ i,(h.gr.ru.getD i ⟨false,[]⟩).path.length<=1000
 g:h.gr.na.length<=1000
 t:h.td.length<=1000
 ta:∀ x,x∈h.td->x.ad.length<=1000/\o8 x.ad
structure x3 (t:l6):Prop where
 n:t.na.length<=1000
 h:t.hs.length<=1000
 s:t.se.length<=1000
 l:t.lk.length<=1000
 sa:∀ x,x∈t.se->x.length<=1000/\o8 x
 la:∀ x,x∈t.lk->x.ad.length<=1000/\o8 x.ad
 ha:∀ x,x∈t.hs->O2 x
abbrev an(x:s7):V:=.agg [sV x.ad,iV x.tr]
abbrev aT(x:r4):V:=.agg [iV x.ti,sV x.ad,iV x.ki]
abbrev aq(h:l5):V:=.agg [sV h.na,iV h.re,bV h.kn,bZ h.gr,iV h.tr,.ow 2 (h.td.map an)]
abbrev cG(h:l5):V:=.agg [sV h.na,iV h.re,bV h.kn,bZ h.gr,iV h.tr,.sl false (h.td.map an)]
abbrev Jb(t:l6):V:=.agg [sV t.na,iV t.b7,.ow 8 (t.hs.map aq),.ow 1 (t.se.map sV),.ow 3 (t.lk.map aT)]
abbrev fy(p0:List r4):V:=.sl false (p0.map aT)
abbrev ik(p0:List s7):V:=.sl false (p0.map an)
abbrev mD(p0:List l5):V:=.sl false (p0.map cG)
abbrev cZ(p0:BL)(p1:Int):V:=.agg [sV p0,iV p1]
abbrev fI(p0:Int)(p1:BL)(p2:Int):V:=.agg [iV p0,sV p1,iV p2]
abbrev Nw(p0:BL)(p1:Int)(p2:List l5)(p3:List BL)(p4:List r4):V:=.agg [sV p0,iV p1,.sl false (p2.map cG),.sl false (p3.map sV),.sl false (p4.map aT)]
abbrev NK(p0:BL)(p1:Int)(p2:Bool)(p3:List BL)(p4:List r9)(p5:Nat)(p6:Int)(p7:List s7):V:=.agg [sV p0,iV p1,bV p2,.agg [.sl false (p3.map sV),.sl false (p4.map av),iN p5],iV p6,.sl false (p7.map an)]
abbrev aE(y0:l6):V:=Nw y0.na y0.b7 y0.hs y0.se y0.lk
abbrev bH(y0:l5)(p7:List s7):V:=NK y0.na y0.re y0.kn y0.gr.na y0.gr.ru y0.gr.wa y0.tr p7
theorem Mu(H:List BL)(a:BL):(hE (H++[a])).length=(hE H).length+(if a∈H then 0 else 1):=by
 rw[<- Ct,xg,Bs];by_cases h:a∈H;rw[if_pos h,if_pos h,if_neg Zad];rfl;rw[if_neg h,if_neg h,if_pos rfl]
theorem HM(H:List BL):(hE H).length=H.length↔H.Nodup:=by
 have key:∀ n,∀ H:List BL,H.length=n->(hE H).length<=H.length/\((hE H).length=H.length↔H.Nodup):=by
  intro n;induction n with
  | zero=>
    intro H h;obtain rfl:=Za5 h;exact⟨Zbc _,by simp[hE]⟩
  | succ n ih=>
    intro H h;obtain⟨L,a,rfl⟩:∃ L a,H=L++[a]:=⟨H.dropLast,H.getLast (by intro c;rw[c]at h;cases h),(List.dropLast_concat_getLast _).symm⟩;simp only[Zap,Zar,Zau]at h;obtain⟨h1,h2⟩:=ih L Zac;rw[Mu];simp only[Zap,Zar,Zau];rw[List.nodup_append];by_cases c:a∈L;rw[if_pos c];exact⟨Zac,Zac,fun hn=>absurd rfl (hn.2.2 a c a Zad)⟩;rw[if_neg c];refine⟨Zac,fun e=>⟨h2.1 Zac,Zad,fun x hx y hy=>?_⟩,fun hn=>by have:=h2.2 hn.1;omega⟩;rintro rfl;exact c (by simpa using(Zav.1 hy) ▸ hx)
 exact(key _ H rfl).2
theorem qC{α:Type}{p:α->Bool}{d:α}{l:List α}(h:∀ j,j<l.length->p (l.getD j d)=true):l.all p=true:=by
 rw[Za2];intro x hx;obtain⟨j,hj,rfl⟩:=Zbg.1 hx;have:=h j hj
 rwa [Zam,Zat hj]at this
theorem uU{α:Type}{p:α->Bool}{d:α}{l:List α}{i:Nat}(hi:i<l.length)(h:p (l.getD i d)=false):l.all p=false:=by
 rw[Zam,Zat hi]at h;rw[Bool.eq_false_iff];intro c;rw[Za2]at c;have:=c _ (List.getElem_mem hi);simp only[Option.getD_some]at h;rw[h]at this;cases this
theorem lB{l:List BL}{i:Nat}(h:i<l.length):l.getD i []∈l:=by
 rw[Zam,Zat h];exact List.getElem_mem h
theorem aO{α:Type}{l:List α}{d:α}{i:Nat}(h:i<l.length):l.getD i d∈l:=by
 rw[Zam,Zat h];exact List.getElem_mem h
theorem EJ{l:List BL}(h:60<(l.length:Int)\/¬ l.Nodup):dK l=false:=by
 unfold dK;rcases h with h | h;rw[decide_eq_false Zac];rfl;rw[decide_eq_false h];simp
theorem Eb{l:List BL}{i:Nat}(hi:i<l.length)(h:az (l.getD i [])=false):dK l=false:=by
 unfold dK;rw[uU hi h];simp
theorem AK{l:List BL}(h:(l.length:Int)<=60/\l.Nodup)(h2:∀ j,j<l.length->az (l.getD j [])=true):dK l=true:=by
 unfold dK;rw[qC h2,decide_eq_true h.2,decide_eq_true Zac];rfl
def nh(lk:List r4)(b7:Int)(i:Nat):Bool:=decide ((if i=0 then 0 else (lk.getD (i-1) x9).ti)<=(lk.getD i x9).ti)&&decide ((lk.getD i x9).ti<=b7)&&A6 (lk.getD i x9).ki 0 3&&az (lk.getD i x9).ad
theorem DG{lk:List r4}{b7:Int}(h:400<(lk.length:Int)):dz lk b7=false:=by
 unfold dz;rw[decide_eq_false Zac];rfl
theorem uR{lk:List r4}{b7:Int}{i:Nat}(hi:i<lk.length)(h:nh lk b7 i=false):dz lk b7=false:=by
 unfold dz;rw[Bool.and_eq_false_iff];right;rw[Bool.eq_false_iff];intro c;rw[Za2]at c;have:=c i (List.mem_range.2 hi);unfold nh at h;rw[h]at this;cases this
theorem xC{lk:List r4}{b7:Int}(h:(lk.length:Int)<=400)(h2:∀ j,j<lk.length->nh lk b7 j=true):dz lk b7=true:=by
 unfold dz;rw[decide_eq_true Zac,Bool.true_and,Za2];exact fun i hi=>h2 i (List.mem_range.1 hi)
theorem LP{lk:List r4}{b7 la:Int}{i:Nat}(h2:la=if i=0 then 0 else (lk.getD (i-1) x9).ti)(h3:A6 (lk.getD i x9).ti la b7=true/\A6 (lk.getD i x9).ki 0 3=true)(h4:az (lk.getD i x9).ad=true):nh lk b7 i=true:=by
 unfold nh;rw[<- h2,h3.2,h4];have:=h3.1;unfold A6 at this;rw[Zbk]at this;rw[decide_eq_true this.1,decide_eq_true this.2];rfl
theorem JD{lk:List r4}{b7 la:Int}{i:Nat}(h2:la=if i=0 then 0 else (lk.getD (i-1) x9).ti)(h3:A6 (lk.getD i x9).ti la b7=false\/A6 (lk.getD i x9).ki 0 3=false):nh lk b7 i=false:=by
 unfold nh;rw[<- h2];rcases h3 with h | h;unfold A6 at h;rw[Bool.decide_and]at h;rw[h];rfl;rw[h];simp
theorem KE{lk:List r4}{b7:Int}{i:Nat}(h:az (lk.getD i x9).ad=false):nh lk b7 i=false:=by
 unfold nh;rw[h];simp
theorem Dy{l:List BL}{n:BL}(h:(l.length:Int)=1/\l.getD 0 []=n):l=[n]:=by
 obtain⟨h1,h2⟩:=h
 match l,h1 with
 | [x],_=>rw[<- h2];rfl
theorem JK{h:l5}{n:BL}(hb:(cW h.na=false\/A6 h.re 0 5100=false)\/A6 h.tr 0 2=false):cR h n=false:=by
 unfold cR;rcases hb with (e | e) | e <;> rw[e] <;> simp
theorem Kf{h:l5}{n:BL}(hb: ¬ (h.gr.na.length:Int)=1\/¬ h.gr.na.getD 0 []=n):cR h n=false:=by
 unfold cR;rw[show (h.gr.na==[n])=false from by rw[beq_eq_false_iff_ne];intro c;rw[c]at hb;simp at hb];simp
theorem Ks{h:l5}{n:BL}(h1:(cW h.na=true/\A6 h.re 0 5100=true)/\A6 h.tr 0 2=true)(h2:(h.gr.na.length:Int)=1/\h.gr.na.getD 0 []=n)(h3:h.kn=false):cR h n=(o6 (h.gr.ru.length:Int) 0&&o6 (h.gr.wa:Int) 0):=by
 unfold cR;rw[h1.1.1,h1.1.2,h1.2,Dy h2,h3];rw[Za6];simp
theorem JM{h:l5}{n:BL}(h1:(cW h.na=true/\A6 h.re 0 5100=true)/\A6 h.tr 0 2=true)(h2:(h.gr.na.length:Int)=1/\h.gr.na.getD 0 []=n)(h3:h.kn=true):cR h n=((E4 (h.gr.ru.length:Int) 40&&(h.gr.ru.all fun r=>bf r.path))&&A6 (h.gr.wa:Int) 0 20):=by
 unfold cR;rw[h1.1.1,h1.1.2,h1.2,Dy h2,h3];simp;congr 2;rw[Za6];simp;omega
def TR(h:l5)(se:List BL)(it:s7):Bool:=az it.ad&&(aJ it.ad==h.na)&&se.contains it.ad&&A6 it.tr 0 2
theorem NX{h:l5}{se:List BL}{it:s7}(h1:((aV it.ad).isSome=true/\(oA (aV it.ad)).j9=h.na)/\se.contains it.ad=true)(h2:A6 it.tr 0 2=true):TR h se it=true:=by
 unfold TR aJ;have h3:=h1.1.1;rw[ib]at h3;have h4:=h1.1.2;rw[show aV it.ad=aP it.ad from if_pos h3]at h4;rw[h3,h4,h1.2,h2];simp
theorem Lg{h:l5}{se:List BL}{it:s7}(h1:((aV it.ad).isSome=false\/¬ (oA (aV it.ad)).j9=h.na)\/se.contains it.ad=false):TR h se it=false:=by
 unfold TR aJ;by_cases h3:az it.ad=true;rw[ib,show aV it.ad=aP it.ad from if_pos h3]at h1;rcases h1 with (e | e) | e;rw[e]at h3;cases h3;rw[beq_eq_false_iff_ne.2 e];simp;rw[e];simp;rw[Bool.not_eq_true]at h3;rw[h3];simp
theorem Mj{h:l5}{se:List BL}{it:s7}(h1:A6 it.tr 0 2=false):TR h se it=false:=by
 unfold TR;rw[h1];simp
theorem FH{h:l5}{se:List BL}(e:(se.length:Int)<(h.td.length:Int)):bW h se=false:=by
 unfold bW;rw[decide_eq_false Zac];rfl
theorem xN{h:l5}{se:List BL}{i:Nat}(hi:i<h.td.length)(e:TR h se (h.td.getD i l3)=false):bW h se=false:=by
 show (decide (h.td.length<=se.length)&&h.td.all (TR h se)&&decide (h.td.map (·.ad)).Nodup)=false;rw[uU (d:=l3) hi e];simp
theorem Ft{h:l5}{se:List BL}(e:(h.td.length:Int)<=(se.length:Int))(e2:∀ j,j<h.td.length->TR h se (h.td.getD j l3)=true):bW h se=decide (h.td.map (·.ad)).Nodup:=by
 show (decide (h.td.length<=se.length)&&h.td.all (TR h se)&&decide (h.td.map (·.ad)).Nodup)=_;rw[qC (d:=l3) e2,decide_eq_true Zac];simp
theorem GW{t:l6}(h:cB t.na=false\/A6 t.b7 0 5000=false):aH t=false:=by
 unfold aH;rcases h with e | e <;> rw[e] <;> simp
theorem Ha{t:l6}(h:dK t.se=false\/dz t.lk t.b7=false):aH t=false:=by
 unfold aH;rcases h with e | e <;> rw[e] <;> simp
theorem HJ{t:l6}{i:Nat}(hi:i<t.hs.length)(h:cR (t.hs.getD i j6) t.na=false\/bW (t.hs.getD i j6) t.se=false):aH t=false:=by
 unfold aH;rw[uU (p:=fun h=>cR h t.na&&bW h t.se) (d:=j6) hi (by rcases h with e | e <;> rw[e] <;> simp)];simp
theorem GD{t:l6}(h1:cB t.na=true/\A6 t.b7 0 5000=true)(h2:dK t.se=true/\dz t.lk t.b7=true)(h3:∀ j,j<t.hs.length->(cR (t.hs.getD j j6) t.na&&bW (t.hs.getD j j6) t.se)=true):aH t=decide (t.hs.map (·.na)).Nodup:=by
 unfold aH;rw[h1.1,h1.2,h2.1,h2.2,qC (p:=fun h=>cR h t.na&&bW h t.se) (d:=j6) h3];simp
def dY(a x b:Int):aw:=.mk 54 [iV a,iV x,iV b] [] True (bV (A6 x a b)) [] (by
 intro _
 refine au Tryz.func54
  (.q 1<|.q 9<|.nil)
  (Pk (E4 a x) ((E4 a x)==true) true/\Q (bV ((E4 a x)&&(E4 x b))) (bV (A6 x a b))) ?_
 refine ah ?_;unfold Q;refine Zbm bV ?_;unfold A6;exact(Bool.decide_and ..).symm)
def jX(l:List BL):aw:=.mk 59 [ao l] [] (l.length<=1000000) (bV (decide l.Nodup)) [] (by
 intro hl
 refine au Tryz.func59
  (.q 1<|.cu ZQ (fun g6=>.q 1<|.q 3<|.loop (Nat×Nat) (fun (i,gm)=>⟨[(0,ao l),(3,.om (hE (l.take i)) gm),(7,ao l),(8,iN l.length),(9,iN i)],[]⟩) (fun (i,gm)=>i<=l.length) (fun (i,gm)=>l.length-i) (fun (i,gm)=>.q 1<|.br (.r 3 [sV (l.getD i [])]<|.q 2<|.cu (lkO 3 (hE (l.take i)) (l.getD i []) (iN ((l.take i).count (l.getD i [])))) (fun _=>.q 1<|.cu (ZP 3 (hE (l.take i)) (l.getD i []) (.int .i64 ((((l.take i).count (l.getD i []))+1:Nat):Int))) (fun _=>.h (.m9 3 (.om (hE (l.take i++[l.getD i []])) gm))<|.q 2<|.nil))) (.q 1<|.cu (mlC 3) (fun _=>.q 4<|.nil)))))
  (True/\∀ g6:Nat,(∃ x:Nat×Nat,match x with | (j7,Y0)=>(j7<=l.length)/\E (ao l)/\Q (.om [] g6) (.om (hE (l.take j7)) Y0)/\E (ao l)/\Q (iN ((l.map sV).length)) (iN l.length)/\Q (iN 0) (iN j7)/\True)/\∀ x:Nat×Nat,match x with | (i,gm)=>(i<=l.length)->(fun v1:Int=>Br (r5 (i:Int) (l.length:Int)) (Ex (i:Int) (l.map sV) (sV (l.getD i []))/\True/\(((gm:Nat)=gm/\(hE (l.take i):List (BL×Value))=hE (l.take i))/\((sV (l.getD i []):V)=sV (l.getD i []))/\((∃ y,cC (hE (l.take i)) (l.getD i [])=some y/\(iN ((l.take i).count (l.getD i [])):V).val? =some y)\/(cC (hE (l.take i)) (l.getD i [])=none/\∃ y,(iN ((l.take i).count (l.getD i [])):V).val? =some y/\∀ w,(zeroValue 3).run Tryz.prog w=.ok y w)))/\∀ _:Unit,m6 ((((l.take i).count (l.getD i []):Nat):Int)+1)/\(((gm:Nat)=gm/\(hE (l.take i):List (BL×Value))=hE (l.take i))/\((sV (l.getD i []):V)=sV (l.getD i []))/\(iN (((l.take i).count (l.getD i []))+1):V).val? =some (.int .i64 v1))/\∀ _:Unit,((.om (ft (hE (l.take i)) (l.getD i []) (.int .i64 v1)) gm:V)=.om (hE (l.take i++[l.getD i []])) gm)/\m6 ((i:Int)+1)/\∃ x:Nat×Nat,match x with | (b9,YZ)=>(b9<=l.length)/\(l.length-b9<l.length-i)/\E (ao l)/\Q (.om (hE (l.take i++[l.getD i []])) gm) (.om (hE (l.take b9)) YZ)/\E (ao l)/\E (iN l.length)/\Q (iN (i+1)) (iN b9)/\True) (((gm:Nat)=gm)/\∀ _:Unit,Q (bV (o6 (((hE (l.take i)).length:Nat):Int) (((l.map sV).length:Nat):Int))) (bV (decide l.Nodup)))) ((((l.take i).count (l.getD i []))+1:Nat):Int)) ?_
 refine ah fun g6=>⟨⟨(0,g6),?_,rfl,Zah,rfl,Zah,ak⟩,?_⟩;simp;rintro⟨i,gm⟩ h1;refine bI (fun j8=>?_) fun j8=>?_;refine⟨Zce,trivial,aS (Lw (l.take i) (l.getD i [])),fun _=>⟨by have hc:(l.take i).count (l.getD i [])<=(l.take i).length:=List.count_le_length;simp only[List.length_take]at hc;omega,ak,fun _=>⟨Zbm (V.om · gm) (Ct (l.take i) (l.getD i [])),ah ⟨(i+1,gm),?_,?_,rfl,by rw[aX Zac []],ak⟩⟩⟩⟩;omega;exact Zak;refine⟨rfl,fun _=>?_⟩;rw[show i=l.length from Zac,Zaz (Zbc _)];refine Zbm bV ?_;rw[Za6];simp only[nb];rw[<- HM];omega)
def zI(l:List BL):aw:=.mk 55 [ao l] [] ((l.length<=100000)/\(∀ x,x∈l->x.length<=1000/\o8 x)) (bV (dK l)) [] (by
 rintro⟨hl,ha⟩
 refine au Tryz.func55
  (.q 1<|.q 5<|.cg (jX l)<|.q 2<|.br (.q 1<|.nil) (.q 3<|.loop Nat (fun i=>⟨[(13,ao l),(14,iN l.length),(15,iN i)],[]⟩) (fun i=>i<=l.length/\∀ j,j<i->az (l.getD j [])=true) (fun i=>l.length-i) (fun i=>.q 1<|.br (.r 3 [sV (l.getD i [])]<|.q 1<|.c (fM (l.getD i [])) []<|.q 1<|.br (.q 1<|.nil) (.q 2<|.nil)) (.q 1<|.nil))))
  ((fun (v2:Bool) (v1:Nat->Prop)=>(Gd (v2==false) (((l.length<=1000000))/\(jX l).sm)/\Pk v2 true (v2==false)/\Br (v2||(!(decide l.Nodup))) (Q (bV false) (bV (dK l))) ((∃ j7:Nat,(v1 j7)/\E (ao l)/\Q (iN ((l.map sV).length)) (iN l.length)/\Q (iN 0) (iN j7)/\True)/\∀ i:Nat,(v1 i)->Br (r5 (i:Int) (l.length:Int)) (Ex (i:Int) (l.map sV) (sV (l.getD i []))/\True/\(fM (l.getD i [])).sm/\(((l.getD i []).length<=1000000)/\(o8 (l.getD i [])))/\Br (!(az (l.getD i []))) (Q (bV false) (bV (dK l))) (m6 ((i:Int)+1)/\∃ b9:Nat,(v1 b9)/\(l.length-b9<l.length-i)/\E (ao l)/\E (iN l.length)/\Q (iN (i+1)) (iN b9)/\True)) (Q (bV true) (bV (dK l)))))) (s6 (((l.map sV).length:Nat):Int) 60) (fun j7:Nat=>j7<=l.length/\∀ j,j<j7->az (l.getD j [])=true)) ?_
 refine⟨fun hG=>⟨Zcq,rfl⟩,ah (bI (fun j8=>?_) fun j8=>?_)⟩;rw[EJ j8];refine⟨⟨0,?_,rfl,Zah,ak⟩,?_⟩;simp;rintro i ⟨h1,h2⟩;refine bI (fun l4=>?_) fun l4=>?_;have M7:=ha _ (lB (show i<l.length by omega));refine⟨Zce,trivial,rfl,ah (M7.2),bI (fun m8=>?_) fun m8=>?_⟩;rw[Eb (i:=i) Zac Zda];refine ah ⟨i+1,?_,?_,ak⟩;exact⟨Zac,Zdl⟩;exact Zak;rw[AK j8 (fun j hj=>h2 j Zac)])
def xU(rs:List r9):aw:=.mk 104 [dk rs] [] ((rs.length<=100000)/\(∀ i,(rs.getD i ⟨false,[]⟩).path.length<=1000000)) (bV (rs.all fun r=>bf r.path)) [] (by
 rintro⟨hl,ha⟩
 refine au Tryz.func104
  (.q 1<|.q 3<|.loop Nat (fun i=>⟨[(5,dk rs),(6,iN rs.length),(7,iN i)],[]⟩) (fun i=>i<=rs.length/\∀ j,j<i->bf (rs.getD j ⟨false,[]⟩).path=true) (fun i=>rs.length-i) (fun i=>.q 1<|.br (.r 2 [eB ((rs.getD i (⟨false,[]⟩:r9)).C3) ((rs.getD i (⟨false,[]⟩:r9)).path)]<|.al pV (fun g4=>.st none<|.r 2 [.c9]<|.c (ko ((rs.getD i (⟨false,[]⟩:r9)).path)) []<|.q 1<|.br (.q 1<|.nil) (.q 2<|.nil))) (.q 1<|.nil)))
  ((fun (v2:r9) (v1:Nat->Prop)=>((∃ j7:Nat,(v1 j7)/\E (dk rs)/\Q (iN ((rs.map av).length)) (iN rs.length)/\Q (iN 0) (iN j7)/\True)/\∀ i:Nat,(v1 i)->Br (r5 (i:Int) (rs.length:Int)) (Ex (i:Int) (rs.map av) (eB ((rs.getD i v2).C3) ((rs.getD i v2).path))/\True/\∀ g4:Nat,Z g4 0/\Z g4 1/\(ko ((rs.getD i v2).path)).sm/\((((rs.getD i v2).path).length<=4611686018427387904))/\Br (!(dQ ((rs.getD i v2).path))) (Q (bV false) (bV (rs.all fun r=>bf r.path))) (m6 ((i:Int)+1)/\∃ b9:Nat,(v1 b9)/\(rs.length-b9<rs.length-i)/\E (dk rs)/\E (iN rs.length)/\Q (iN (i+1)) (iN b9)/\True)) (Q (bV true) (bV (rs.all fun r=>bf r.path))))) (⟨false,[]⟩:r9) (fun j7:Nat=>j7<=rs.length/\∀ j,j<j7->bf (rs.getD j ⟨false,[]⟩).path=true)) ?_
 refine⟨⟨0,?_,rfl,Zah,ak⟩,?_⟩;simp;rintro i ⟨h1,h2⟩;refine bI (fun j8=>?_) fun j8=>?_;refine⟨Zcr,ah fun g4=>⟨rfl,rfl,rfl,by have:=ha i;omega,bI (fun l4=>?_) fun l4=>?_⟩⟩;unfold Q;refine Zbm bV ?_;symm;exact uU (d:=⟨false,[]⟩) (i:=i) Zac (by rw[po]at l4;exact l4);refine ah ⟨i+1,?_,?_,ak⟩;exact⟨Zac,bg h2 (by rw[po]at l4;exact l4)⟩;exact Zak;unfold Q;refine Zbm bV ?_;symm;exact qC (d:=⟨false,[]⟩) (fun j hj=>h2 j Zac))
abbrev jq(lk:List r4)(b7:Int)(i:Nat)(la:Int):Prop:=i<=lk.length/\la=(if i=0 then 0 else (lk.getD (i-1) x9).ti)/\∀ j,j<i->nh lk b7 j=true
def xO(lk:List r4)(b7:Int):aw:=.mk 56 [fy lk,iV b7] [] ((lk.length<=100000)/\(∀ x,x∈lk->x.ad.length<=1000/\o8 x.ad)) (bV (dz lk b7)) [] (by
 rintro⟨hl,ha⟩
 refine au Tryz.func56
  (.q 1<|.q 3<|.br (.q 1<|.nil) (.q 1<|.q 3<|.loop (Nat×Int) (fun (i,la)=>⟨[(1,iV b7),(5,iV la),(11,fy lk),(12,iN lk.length),(13,iN i)],[]⟩) (fun (i,la)=>jq lk b7 i la) (fun (i,la)=>lk.length-i) (fun (i,la)=>.q 1<|.br (.r 2 [fI ((lk.getD i x9).ti) ((lk.getD i x9).ad) ((lk.getD i x9).ki)]<|.al xl (fun g7=>.st none<|.r 4 [.c9]<|.c (dY la ((lk.getD i x9).ti) b7) []<|.r 4 [.c9]<|.cg (dY (0:Int) ((lk.getD i x9).ki) (3:Int))<|.q 2<|.br (.q 1<|.nil) (.r 2 [.c9]<|.c (fM ((lk.getD i x9).ad)) []<|.q 1<|.br (.q 1<|.nil) (.r 3 [.c9]<|.q 2<|.nil)))) (.q 1<|.nil))))
  (Br (s6 (((lk.map aT).length:Nat):Int) 400) (Q (bV false) (bV (dz lk b7))) ((∃ x:Nat×Int,match x with | (j7,VT)=>(jq lk b7 j7 VT)/\E (iV b7)/\Q (iN 0) (iV VT)/\E (fy lk)/\Q (iN ((lk.map aT).length)) (iN lk.length)/\Q (iN 0) (iN j7)/\True)/\∀ x:Nat×Int,match x with | (i,la)=>(jq lk b7 i la)->(fun v1:Bool=>Br (r5 (i:Int) (lk.length:Int)) (Ex (i:Int) (lk.map aT) (fI ((lk.getD i x9).ti) ((lk.getD i x9).ad) ((lk.getD i x9).ki))/\True/\∀ g7:Nat,Z g7 0/\Z g7 0/\(dY la ((lk.getD i x9).ti) b7).sm/\(True)/\Gd (v1==false) (Z g7 2)/\Gd (v1==false) ((True)/\(dY (0:Int) ((lk.getD i x9).ki) (3:Int)).sm)/\Pk v1 true (v1==false)/\Br (v1||(!(A6 ((lk.getD i x9).ki) (0:Int) (3:Int)))) (Q (bV false) (bV (dz lk b7))) (Z g7 1/\(fM ((lk.getD i x9).ad)).sm/\((((lk.getD i x9).ad).length<=1000000)/\(o8 ((lk.getD i x9).ad)))/\Br (!(az ((lk.getD i x9).ad))) (Q (bV false) (bV (dz lk b7))) (Z g7 0/\m6 ((i:Int)+1)/\∃ x:Nat×Int,match x with | (b9,VS)=>(jq lk b7 b9 VS)/\(lk.length-b9<lk.length-i)/\E (iV b7)/\Q (iV ((lk.getD i x9).ti)) (iV VS)/\E (fy lk)/\E (iN lk.length)/\Q (iN (i+1)) (iN b9)/\True))) (Q (bV true) (bV (dz lk b7)))) (!(A6 ((lk.getD i x9).ti) la b7)))) ?_
 refine bI (fun j8=>?_) fun j8=>?_;rw[DG j8];refine⟨⟨(0,0),?_,rfl,Zah,rfl,Zah,ak⟩,?_⟩;unfold jq;simp;rintro⟨i,la⟩ ⟨h1,h2,h3⟩;refine bI (fun l4=>?_) fun l4=>?_;have M7:=ha _ (aO (d:=x9) (show i<lk.length by omega));refine⟨ah (ag (d:=x9) Zac),ah fun g7=>zk (bI (fun m8=>?_) fun m8=>?_)⟩;rw[uR (i:=i) Zac (JD h2 m8)];refine⟨rfl,rfl,ah (M7.2),bI (fun w6=>?_) fun w6=>?_⟩;rw[uR (i:=i) Zac (KE (by simpa using w6))];refine aS ⟨(i+1,(lk.getD i x9).ti),?_,?_,ak⟩;unfold jq;exact⟨Zac,Zad,bg h3 (LP h2 m8 (by simpa using w6))⟩;exact Zak;rw[xC j8 (fun j hj=>h3 j Zac)])
def xB(y:l5)(n:BL):aw:=.mk 57 [bH y y.td,sV n] [] (O2 y) (bV (cR y n)) [] (by
 intro hh
 refine au Tryz.func57
  (.bx (fun g2=>.q 1<|.r 2 [.c9]<|.c (oh y.na) []<|.r 4 [.c9]<|.cg (dY (0:Int) y.re (5100:Int))<|.r 5 [.c9]<|.cg (dY (0:Int) y.tr (2:Int))<|.q 2<|.br (.q 1<|.nil) (.r 2 [.c9]<|.al fC (fun g5=>.st none<|.r 12 [.c9,.c9,sV (y.gr.na.getD 0 [])]<|.br (.q 1<|.nil) (.r 3 [.c9]<|.br (.r 10 [.c9,.c9]<|.nil) (.r 7 [.c9,.c9]<|.cg (xU y.gr.ru)<|.r 4 [.c9]<|.cg (dY (0:Int) (y.gr.wa:Int) (20:Int))<|.q 2<|.nil))))))
  ((fun (v4 v3 v2:Bool) (v1:Int)=>(∀ g2:Nat,Z g2 0/\(oh y.na).sm/\((y.na.length<=4611686018427387904))/\Gd (v4==false) (Z g2 1)/\Gd (v4==false) ((True)/\(dY (0:Int) y.re (5100:Int)).sm)/\Pk v4 true (v4==false)/\Gd ((v4||v3)==false) (Z g2 6)/\Gd ((v4||v3)==false) ((True)/\(dY (0:Int) y.tr (2:Int)).sm)/\Pk (v4||v3) true ((v4||v3)==false)/\Br ((v4||v3)||(!(A6 y.tr (0:Int) (2:Int)))) (Q (bV false) (bV (cR y n))) (Z g2 3/\∀ g5:Nat,Z g5 0/\Z g5 0/\Gd (v2==false) (Z g5 0)/\Gd (v2==false) (Ex 0 (y.gr.na.map sV) (sV (y.gr.na.getD 0 [])))/\Gd (v2==false) True/\Pk v2 true (v2==false)/\Br (v2||(!((y.gr.na.getD 0 [])==n))) (Q (bV false) (bV (cR y n))) (Z g2 2/\Br (!y.kn) (Z g5 1/\Gd ((o6 v1 0)==true) (Z g5 2)/\Pk (o6 v1 0) ((o6 v1 0)==true) true/\Q (bV ((o6 v1 0)&&(o6 (y.gr.wa:Int) 0))) (bV (cR y n))) (Z g5 1/\Gd ((E4 v1 40)==true) (Z g5 1)/\Gd ((E4 v1 40)==true) (((y.gr.ru.length<=100000)/\(∀ i,(y.gr.ru.getD i ⟨false,[]⟩).path.length<=1000000))/\(xU y.gr.ru).sm)/\Pk (E4 v1 40) ((E4 v1 40)==true) true/\Gd (((E4 v1 40)&&(y.gr.ru.all fun r=>bf r.path))==true) (Z g5 2)/\Gd (((E4 v1 40)&&(y.gr.ru.all fun r=>bf r.path))==true) ((True)/\(dY (0:Int) (y.gr.wa:Int) (20:Int)).sm)/\Pk ((E4 v1 40)&&(y.gr.ru.all fun r=>bf r.path)) (((E4 v1 40)&&(y.gr.ru.all fun r=>bf r.path))==true) true/\Q (bV (((E4 v1 40)&&(y.gr.ru.all fun r=>bf r.path))&&(A6 (y.gr.wa:Int) (0:Int) (20:Int)))) (bV (cR y n))))))) (!(cW y.na)) (!(A6 y.re (0:Int) (5100:Int))) (D2 (((y.gr.na.map sV).length:Nat):Int) 1) (((y.gr.ru.map av).length:Nat):Int)) ?_
 intro g2;refine⟨rfl,rfl,by have:=hh.n;omega,lx (bI (fun j8=>?_) fun j8=>?_)⟩;rw[JK j8];refine⟨rfl,fun g5=>aY ⟨fun hG=>by(try simp only[nb]at hG);exact⟨Zac,ag (d:=[]) Zac⟩,aS (bI (fun l4=>?_) fun l4=>?_)⟩⟩;rw[Kf l4];refine⟨rfl,bI (fun m8=>?_) fun m8=>?_⟩;refine aY ?_;rw[Zay,Ks j8 l4 m8];refine aS ⟨fun hG=>⟨⟨by(try simp only[nb]at hG);have:=hh.r;omega,fun i=>by have:=hh.rp i;omega⟩,rfl⟩,cF ?_⟩;rw[Zay,JM j8 l4 m8])
abbrev ku(y:l5)(se:List BL)(i:Nat)(o:List BL)(g f k:Nat):Prop:=i<=y.td.length/\o=(y.td.take i).map (·.ad)/\∀ j,j<i->TR y se (y.td.getD j l3)=true
def AM(y:l5)(se:List BL):aw:=.mk 58 [bH y y.td,ao se] [] ((O2 y)/\(se.length<=100000)) (bV (bW y se)) [] (by
 rintro⟨hh,hs⟩;have V1:=hh.t
 refine au Tryz.func58
  (.bx (fun g2=>.q 1<|.r 6 [.c9]<|.br (.q 1<|.nil) (.q 1<|.r 4 [.c9]<|.h (.I7 5 1)<|.loop (Nat×(List BL)×Nat×Nat×Nat) (fun (i,o,g,f,k)=>⟨[(1,ao se),(2,kp 2 g2),(5,.own 1 (o.map sV) g f k),(17,ik y.td),(18,iN y.td.length),(19,iN i)],[(2,(g2,bH y y.td))]⟩) (fun (i,o,g,f,k)=>ku y se i o g f k) (fun (i,o,g,f,k)=>y.td.length-i) (fun (i,o,g,f,k)=>.q 1<|.br (.r 2 [cZ ((y.td.getD i l3).ad) ((y.td.getD i l3).tr)]<|.al ox (fun g7=>.st none<|.r 2 [.c9]<|.c (dP ((y.td.getD i l3).ad)) []<|.q 3<|.al cK (fun g8=>.st none<|.q 1<|.r 13 [.c9,.c9,.c9]<|.cg (sM se ((y.td.getD i l3).ad))<|.q 2<|.br (.q 1<|.nil) (.r 2 [.c9]<|.c (dY (0:Int) ((y.td.getD i l3).tr) (2:Int)) []<|.q 1<|.br (.q 1<|.nil) (.r 3 [.c9]<|.bs<|.ap (fun Wk VI Wu=>.h (.m9 53 (.own 1 ((o++[(y.td.getD i l3).ad]).map sV) Wk VI Wu))<|.q 1<|.q 2<|.nil)))))) (.h (.fz 5)<|.h (.m9 5 (ao o))<|.q 1<|.c (jX o) []<|.q 1<|.nil)))))
  (∀ g2:Nat,Z g2 7/\Br (s6 (((y.td.map an).length:Nat):Int) (((se.map sV).length:Nat):Int)) (Q (bV false) (bV (bW y se))) (Z g2 7/\(∃ x:Nat×(List BL)×Nat×Nat×Nat,match x with | (j7,s5,y9,A3,n8)=>(ku y se j7 s5 y9 A3 n8)/\E (ao se)/\E (kp 2 g2)/\Q (.own 1 ([].map sV) 0 0 0) (.own 1 (s5.map sV) y9 A3 n8)/\E (ik y.td)/\Q (iN ((y.td.map an).length)) (iN y.td.length)/\Q (iN 0) (iN j7)/\Er g2 (bH y y.td)/\True)/\∀ x:Nat×(List BL)×Nat×Nat×Nat,match x with | (i,o,g,f,k)=>(ku y se i o g f k)->(fun v1:s7=>(fun (v4:List V) (v3 v2:Bool)=>Br (r5 (i:Int) (y.td.length:Int)) (Ex (i:Int) (y.td.map an) (cZ (v1.ad) (v1.tr))/\True/\∀ g7:Nat,Z g7 0/\Z g7 0/\(dP (v1.ad)).sm/\(((v1.ad).length<=1000000)/\(o8 (v1.ad)))/\∀ g8:Nat,Z g8 0/\Gd (v2==false) (Z g8 0)/\Gd (v2==false) (Z g2 0)/\Pk v2 true (v2==false)/\Gd ((v2||v3)==false) (Z g7 0)/\Gd ((v2||v3)==false) (((se.length<=1000000))/\(sM se (v1.ad)).sm)/\Pk (v2||v3) true ((v2||v3)==false)/\Br ((v2||v3)||(!(se.contains (v1.ad)))) (Q (bV false) (bV (bW y se))) (Z g7 1/\(dY (0:Int) (v1.tr) (2:Int)).sm/\(True)/\Br (!(A6 (v1.tr) (0:Int) (2:Int))) (Q (bV false) (bV (bW y se))) (Z g7 0/\((1,1,g,f,k,(o.map sV).length)=(1,1,g,f,k,(o.map sV).length))/\(True)/\(V.ax v4=false)/\(aR 1 v4)/\(((o.map sV).length+v4.length)*16<=140737488355328)/\∀ Wk VI Wu:Nat,((.own 1 ((o.map sV)++v4) Wk VI Wu:V)=.own 1 ((o++[v1.ad]).map sV) Wk VI Wu)/\m6 ((i:Int)+1)/\∃ x:Nat×(List BL)×Nat×Nat×Nat,match x with | (b9,l7,r3,o5,k₂)=>(ku y se b9 l7 r3 o5 k₂)/\(y.td.length-b9<y.td.length-i)/\E (ao se)/\E (kp 2 g2)/\Q (.own 1 ((o++[v1.ad]).map sV) Wk VI Wu) (.own 1 (l7.map sV) r3 o5 k₂)/\E (ik y.td)/\E (iN y.td.length)/\Q (iN (i+1)) (iN b9)/\Er g2 (bH y y.td)/\True))) (((.sl false (V.E6 (o.map sV)):V)=ao o)/\(jX o).sm/\((o.length<=1000000))/\Q (bV (decide o.Nodup)) (bV (bW y se)))) ([sV (v1.ad)]:List V) (!(((oA (aV (v1.ad))).j9)==y.na)) (!((aV (v1.ad)).isSome))) (y.td.getD i l3))) ?_
 intro g2;refine⟨rfl,bI (fun j8=>?_) fun j8=>?_⟩;rw[FH j8];refine⟨rfl,⟨⟨(0,[],0,0,0),?_,cF ⟨Zah,ak⟩⟩,?_⟩⟩;unfold ku;simp;rintro⟨i,o,g,f,k⟩ ⟨h1,h2,h3⟩;refine bI (fun l4=>?_) fun l4=>?_;have M7:=hh.ta _ (aO (d:=l3) (show i<y.td.length by omega));have V9:o.length=i:=Zd2
 refine⟨ah (ag (d:=l3) Zac),ah fun g7=>⟨rfl,rfl,rfl,ah (M7.2),fun g8=>eh ⟨fun hG=>⟨Zcq,rfl⟩,ah (bI (fun m8=>?_) fun m8=>?_)⟩⟩⟩;rw[xN (i:=i) Zac (Lg m8)];refine aY (bI (fun w6=>?_) fun w6=>?_);rw[xN (i:=i) Zac (Mj w6)];refine eh ⟨Zal,fun Wk VI Wu=>⟨Zbm (V.own 1 · Wk VI Wu) Zad,ah ⟨(i+1,o++[(y.td.getD i l3).ad],Wk,VI,Wu),?_,?_,ak⟩⟩⟩;unfold ku;exact⟨Zac,by rw[aX Zac l3,Zbb,<- h2];rfl,bg h3 (NX m8 w6)⟩;exact Zak;refine⟨Zcd,rfl,Zd2,?_⟩;rw[Ft j8 (fun j hj=>h3 j Zac),h2,Zaz Zac])
abbrev kf(t:l6)(i:Nat)(o:List BL)(g f k:Nat):Prop:=i<=t.hs.length/\o=(t.hs.take i).map (·.na)/\∀ j,j<i->(cR (t.hs.getD j j6) t.na&&bW (t.hs.getD j j6) t.se)=true
def je(t:l6):aw:=.mk 25 [aE t] [] (x3 t) (bV (aH t)) [] (by
 intro ht;have Xe:=ht.h
 refine au Tryz.func25
  (.bx (fun g1=>.q 1<|.r 2 [.c9]<|.c (pX t.na) []<|.r 4 [.c9]<|.cg (dY (0:Int) t.b7 (5000:Int))<|.q 2<|.br (.q 1<|.nil) (.r 2 [.c9]<|.c (zI t.se) []<|.r 6 [.c9,.c9]<|.cg (xO t.lk t.b7)<|.q 2<|.br (.q 1<|.nil) (.q 1<|.r 4 [.c9]<|.h (.I7 3 1)<|.loop (Nat×(List BL)×Nat×Nat×Nat) (fun (i,o,g,f,k)=>⟨[(1,kp 1 g1),(3,.own 1 (o.map sV) g f k),(29,mD t.hs),(30,iN t.hs.length),(31,iN i)],[(1,(g1,aE t))]⟩) (fun (i,o,g,f,k)=>kf t i o g f k) (fun (i,o,g,f,k)=>t.hs.length-i) (fun (i,o,g,f,k)=>.q 1<|.br (.r 2 [bH (t.hs.getD i j6) ((t.hs.getD i j6).td)]<|.al tV (fun g5=>.st none<|.r 3 [.c9,.c9]<|.c (xB (t.hs.getD i j6) t.na) []<|.r 5 [.c9,.c9]<|.cg (AM (t.hs.getD i j6) t.se)<|.q 2<|.br (.q 1<|.nil) (.r 3 [.c9]<|.bs<|.ap (fun Wl VJ Wv=>.h (.m9 51 (.own 1 ((o++[(t.hs.getD i j6).na]).map sV) Wl VJ Wv))<|.q 1<|.q 2<|.nil)))) (.h (.fz 3)<|.h (.m9 3 (ao o))<|.q 1<|.c (jX o) []<|.q 1<|.nil))))))
  ((fun (v2 v1:Bool)=>(∀ g1:Nat,Z g1 0/\(pX t.na).sm/\((t.na.length<=4611686018427387904))/\Gd (v2==false) (Z g1 1)/\Gd (v2==false) ((True)/\(dY (0:Int) t.b7 (5000:Int)).sm)/\Pk v2 true (v2==false)/\Br (v2||(!(A6 t.b7 (0:Int) (5000:Int)))) (Q (bV false) (bV (aH t))) (Z g1 3/\(zI t.se).sm/\((t.se.length<=100000)/\(∀ x,x∈t.se->x.length<=1000/\o8 x))/\Gd v1 (Z g1 4)/\Gd v1 (Z g1 1)/\Gd v1 (((t.lk.length<=100000)/\(∀ x,x∈t.lk->x.ad.length<=1000/\o8 x.ad))/\(xO t.lk t.b7).sm)/\Pk (!(dK t.se)) true v1/\Br ((!(dK t.se))||(!(dz t.lk t.b7))) (Q (bV false) (bV (aH t))) (Z g1 2/\(∃ x:Nat×(List BL)×Nat×Nat×Nat,match x with | (j7,s5,y9,A3,n8)=>(kf t j7 s5 y9 A3 n8)/\E (kp 1 g1)/\Q (.own 1 ([].map sV) 0 0 0) (.own 1 (s5.map sV) y9 A3 n8)/\E (mD t.hs)/\Q (iN ((t.hs.map cG).length)) (iN t.hs.length)/\Q (iN 0) (iN j7)/\Er g1 (aE t)/\True)/\∀ x:Nat×(List BL)×Nat×Nat×Nat,match x with | (i,o,g,f,k)=>(kf t i o g f k)->(fun v3:l5=>(fun (v5:List V) (v4:Bool)=>Br (r5 (i:Int) (t.hs.length:Int)) (Ex (i:Int) (t.hs.map cG) (bH v3 (v3.td))/\True/\∀ g5:Nat,Z g5 0/\Z g5 0/\Z g1 0/\(xB v3 t.na).sm/\((O2 v3))/\Gd v4 (Z g5 0)/\Gd v4 (Z g1 3)/\Gd v4 (((O2 v3)/\(t.se.length<=100000))/\(AM v3 t.se).sm)/\Pk (!(cR v3 t.na)) true v4/\Br ((!(cR v3 t.na))||(!(bW v3 t.se))) (Q (bV false) (bV (aH t))) (Z g5 0/\((1,1,g,f,k,(o.map sV).length)=(1,1,g,f,k,(o.map sV).length))/\(True)/\(V.ax v5=false)/\(aR 1 v5)/\(((o.map sV).length+v5.length)*16<=140737488355328)/\∀ Wl VJ Wv:Nat,((.own 1 ((o.map sV)++v5) Wl VJ Wv:V)=.own 1 ((o++[v3.na]).map sV) Wl VJ Wv)/\m6 ((i:Int)+1)/\∃ x:Nat×(List BL)×Nat×Nat×Nat,match x with | (b9,l7,r3,o5,k₂)=>(kf t b9 l7 r3 o5 k₂)/\(t.hs.length-b9<t.hs.length-i)/\E (kp 1 g1)/\Q (.own 1 ((o++[v3.na]).map sV) Wl VJ Wv) (.own 1 (l7.map sV) r3 o5 k₂)/\E (mD t.hs)/\E (iN t.hs.length)/\Q (iN (i+1)) (iN b9)/\Er g1 (aE t)/\True)) (((.sl false (V.E6 (o.map sV)):V)=ao o)/\(jX o).sm/\((o.length<=1000000))/\Q (bV (decide o.Nodup)) (bV (aH t)))) ([sV (v3.na)]:List V) ((!(cR v3 t.na))==false)) (t.hs.getD i j6))))) (!(cB t.na)) ((!(dK t.se))==false)) ?_
 intro g1;refine⟨rfl,rfl,by have:=ht.n;omega,aY (bI (fun j8=>?_) fun j8=>?_)⟩;rw[GW j8];refine⟨rfl,rfl,⟨by have:=ht.s;omega,ht.sa⟩,aS ⟨fun hG=>⟨⟨by(try simp only[nb]at hG);have:=ht.l;omega,ht.la⟩,rfl⟩,ah (bI (fun l4=>?_) fun l4=>?_)⟩⟩;rw[Ha l4];refine⟨rfl,⟨⟨(0,[],0,0,0),?_,rfl,rfl,rfl,Zah,ak⟩,?_⟩⟩;unfold kf;simp;rintro⟨i,o,g,f,k⟩ ⟨h1,h2,h3⟩;refine bI (fun m8=>?_) fun m8=>?_;have M7:=ht.ha _ (aO (d:=j6) (show i<t.hs.length by omega));have V9:o.length=i:=Zd2
 refine⟨ah (ag (d:=j6) Zac),ah fun g5=>cF ⟨M7,aS ⟨fun hG=>⟨⟨M7,by(try simp only[nb]at hG);have:=ht.s;omega⟩,rfl⟩,ah (bI (fun w6=>?_) fun w6=>?_)⟩⟩⟩;rw[HJ (i:=i) Zac w6];refine eh ⟨Zal,fun Wl VJ Wv=>⟨Zbm (V.own 1 · Wl VJ Wv) Zad,ah ⟨(i+1,o++[(t.hs.getD i j6).na],Wl,VJ,Wv),?_,?_,ak⟩⟩⟩;unfold kf;exact⟨Zac,by rw[aX Zac j6,Zbb,<- h2];rfl,bg h3 (by rw[w6.1,w6.2];rfl)⟩;exact Zak;refine⟨Zcd,rfl,Zd2,?_⟩;rw[GD j8 l4 (fun j hj=>h3 j Zac),h2,Zaz Zac])
theorem bu{g o f:Nat}{v:V}{vs:List V}{p:List Nat}(h:vs[f]? =some v):V.at g o (.agg vs) (f::p)=V.at g (o+V.ns (vs.take f)) v p:=by simp only[V.at,h]
section
variable {α:Type} {l:List α} {f:α->V} {e e':V} {r:List V} {i:Nat} {d:α}
theorem ov(h:i<=l.length):((l.take i).map f).length=i:=by rw[Zay,List.length_take];omega
theorem dj(h:i<=l.length):((l.take i).map f++e::r)[i]? =some e:=by
 rw[Za4 (by rw[ov h];omega),ov h,Nat.sub_self];rfl
theorem kX(h:i<=l.length):((l.take i).map f++e::r).set i e'=(l.take i).map f++e'::r:=by
 rw[List.set_append_right _ _ (by rw[ov h];omega),ov h,Nat.sub_self];rfl
theorem gQ(h:i<l.length):l.map f=(l.take i).map f++f (l.getD i d)::(l.drop (i+1)).map f:=by
 have:l=l.take i++l.getD i d::l.drop (i+1):=by
  rw[Zam,Zat h];simp only[Option.getD_some];rw[List.getElem_cons_drop,List.take_append_drop]
 conv=>lhs;rw[this,Zbb,Zbe]
theorem splitN{y:α}(e:l.getD i d=y)(h:i<l.length):l.map f=(l.take i).map f++f y::(l.drop (i+1)).map f:=by rw[<- e];exact gQ h
theorem eA{x:α}(h:i<l.length):(l.take i).map f++f x::(l.drop (i+1)).map f=(l.set i x).map f:=by
 rw[List.set_eq_take_append_cons_drop,if_pos h,Zbb,Zbe]
end
theorem aQ{p:Prop}(h:p:=by repeat' (first | exact rfl | exact trivial | exact fun h=>h | exact fun hG=>rfl | exact fun hG=>trivial | exact fun hG=>⟨trivial,rfl⟩ | exact fun _=>rfl | exact fun _=>trivial | exact fun _ h=>h | exact⟨fun _=>rfl,fun h=>by rw[h] <;> rfl⟩ | exact⟨fun h=>by rw[h] <;> rfl,fun _=>rfl⟩ | exact fun hG=>⟨fun h=>by rw[h];exact(Zao _ _).mpr ⟨hG,rfl⟩,fun _=>rfl⟩ | exact fun hG=>⟨fun _=>rfl,fun h=>by rw[h];exact(Zao _ _).mpr ⟨hG,rfl⟩⟩ | exact(bu (f:=2) rfl).trans (aU (dj Zac) rfl) | exact(bu (f:=2) rfl).trans (aU (by rw[Zaw];exact dj Zac) rfl) | exact(bu (f:=1) rfl).trans ((bu (f:=2) rfl).trans (aU (dj Zac) rfl)) | exact(bu (f:=1) rfl).trans ((bu (f:=2) rfl).trans (aU (by rw[Zaw];exact dj Zac) rfl)) | exact nL (bC (dj Zac) (kX Zac)) | exact nL (bC (by rw[Zaw];exact dj Zac) (by rw[Zaw];exact kX Zac)) | exact Ht (nL (bC (dj Zac) (kX Zac))) | exact Ht (nL (bC (by rw[Zaw];exact dj Zac) (by rw[Zaw];exact kX Zac))) | exact Zbm (V.sl false) (aW (fun _=>rfl) _) | omega | refine And.intro ?_ ?_ | ((try simp only[Zay]at *);omega) | ((try simp only[Zay]at *);(try simp only[Zap,Zay,Zar,Zau,List.length_take,List.length_drop]);omega) | (simp[aR,V.n,V.ns]) | exact fun hG=>by(try simp only[nb]at hG);omega | exact fun hG=>by(try simp only[nb]at hG);(try simp only[Zay]at *);omega | exact fun hG=>by(try simp only[nb]at hG);(try simp only[Zay]at *);(try simp only[Zap,Zay,Zar,Zau,List.length_take,List.length_drop]);omega | (simp;omega) | assumption)):p:=h
theorem aM{A Z:Prop}(z:Z)(a:A:=by exact aQ):A/\Z:=⟨a,z⟩
theorem bS{A B Z:Prop}(z:Z)(a:A/\B:=by exact aQ):A/\B/\Z:=⟨a.1,a.2,z⟩
theorem bN{A B C Z:Prop}(z:Z)(a:A/\B/\C:=by exact aQ):A/\B/\C/\Z:=⟨a.1,a.2.1,a.2.2,z⟩
theorem cq{A B C D Z:Prop}(z:Z)(a:A/\B/\C/\D:=by exact aQ):A/\B/\C/\D/\Z:=⟨a.1,a.2.1,a.2.2.1,a.2.2.2,z⟩
theorem dN{A B C D E Z:Prop}(z:Z)(a:A/\B/\C/\D/\E:=by exact aQ):A/\B/\C/\D/\E/\Z:=⟨a.1,a.2.1,a.2.2.1,a.2.2.2.1,a.2.2.2.2,z⟩
theorem lz{A B C D E F Z:Prop}(z:Z)(a:A/\B/\C/\D/\E/\F:=by exact aQ):A/\B/\C/\D/\E/\F/\Z:=⟨a.1,a.2.1,a.2.2.1,a.2.2.2.1,a.2.2.2.2.1,a.2.2.2.2.2,z⟩
theorem iQ{A B C D E F G Z:Prop}(z:Z)(a:A/\B/\C/\D/\E/\F/\G:=by exact aQ):A/\B/\C/\D/\E/\F/\G/\Z:=⟨a.1,a.2.1,a.2.2.1,a.2.2.2.1,a.2.2.2.2.1,a.2.2.2.2.2.1,a.2.2.2.2.2.2,z⟩
theorem dU{A B C D E F G H Z:Prop}(z:Z)(a:A/\B/\C/\D/\E/\F/\G/\H:=by exact aQ):A/\B/\C/\D/\E/\F/\G/\H/\Z:=⟨a.1,a.2.1,a.2.2.1,a.2.2.2.1,a.2.2.2.2.1,a.2.2.2.2.2.1,a.2.2.2.2.2.2.1,a.2.2.2.2.2.2.2,z⟩
abbrev bR(p0:BL)(p1:Int)(p2:List l5)(p3:List BL)(p4:List r4):V:=.agg [sV p0,iV p1,.ow 8 (p2.map aq),.ow 1 (p3.map sV),.ow 3 (p4.map aT)]
abbrev bm(p0:BL)(p1:Int)(p2:List l5)(p3 p4 p5:Nat)(p6:List BL)(p7:List r4):V:=.agg [sV p0,iV p1,.own 8 (p2.map aq) p3 p4 p5,.ow 1 (p6.map sV),.ow 3 (p7.map aT)]
abbrev IL(p0:BL)(p1:Int)(p2:List l5)(p3:Nat)(p4:BL)(p5:Int)(p6:Bool)(p7:List BL)(p8:List r9)(p9:Nat)(J':Int)(I6 H3 H2:Nat)(G':List BL)(G9:List r4):V:=.agg [sV p0,iV p1,.own 8 ((p2.take p3).map aq++(.agg [sV p4,iV p5,bV p6,.agg [.sl false (p7.map sV),.sl false (p8.map av),iN p9],iV J',.c9]:V)::(p2.drop (p3+1)).map aq) I6 H3 H2,.ow 1 (G'.map sV),.ow 3 (G9.map aT)]
abbrev LZ(p0:BL)(p1:Int)(p2:List l5)(p3:Nat)(p4:BL)(p5:Int)(p6:Bool)(p7:List BL)(p8:List r9)(p9:Nat)(J':Int)(I6:List s7)(H3 H2 G':Nat)(G9:List BL)(J9:List r4):V:=.agg [sV p0,iV p1,.own 8 ((p2.take p3).map aq++(.agg [sV p4,iV p5,bV p6,.agg [.sl false (p7.map sV),.sl false (p8.map av),iN p9],iV J',.ow 2 (I6.map an)]:V)::(p2.drop (p3+1)).map aq) H3 H2 G',.ow 1 (G9.map sV),.ow 3 (J9.map aT)]
abbrev MI(p0:BL)(p1:Int)(p2:List l5)(p3:Nat)(p4:BL)(p5:Int)(p6:Bool)(p7:List BL)(p8:List r9)(p9:Nat)(J':Int)(I6:List s7)(H3 H2 G' G9 J9 O7:Nat)(P3:List BL)(Qt:List r4):V:=.agg [sV p0,iV p1,.own 8 ((p2.take p3).map aq++(.agg [sV p4,iV p5,bV p6,.agg [.sl false (p7.map sV),.sl false (p8.map av),iN p9],iV J',.own 2 (I6.map an) H3 H2 G']:V)::(p2.drop (p3+1)).map aq) G9 J9 O7,.ow 1 (P3.map sV),.ow 3 (Qt.map aT)]
abbrev jA(p0:BL)(p1:Int)(p2:List l5)(p3:Nat)(y4:l5)(I6 H3 H2:Nat)(G':List BL)(G9:List r4):V:=IL p0 p1 p2 p3 y4.na y4.re y4.kn y4.gr.na y4.gr.ru y4.gr.wa y4.tr I6 H3 H2 G' G9
abbrev cd(p0:BL)(p1:Int)(p2:List l5)(p3:Nat)(y4:l5)(I6:List s7)(H3 H2 G':Nat)(G9:List BL)(J9:List r4):V:=LZ p0 p1 p2 p3 y4.na y4.re y4.kn y4.gr.na y4.gr.ru y4.gr.wa y4.tr I6 H3 H2 G' G9 J9
abbrev ba(p0:BL)(p1:Int)(p2:List l5)(p3:Nat)(y4:l5)(I6:List s7)(H3 H2 G' G9 J9 O7:Nat)(P3:List BL)(Qt:List r4):V:=MI p0 p1 p2 p3 y4.na y4.re y4.kn y4.gr.na y4.gr.ru y4.gr.wa y4.tr I6 H3 H2 G' G9 J9 O7 P3 Qt
theorem rJ{hs:List l5}{d:BL}{i:Nat}(hi:i<hs.length)(e:(hs.getD i j6).na=d)(h:∀ j,j<i->((hs.getD j j6).na==d)=false):C8 hs d=i:=by
 unfold C8;rw[List.findIdx_eq hi];simp only[Zam,Zat hi]at e;refine⟨Zb3,fun j hj=>?_⟩;have:=h j hj;simp only[Zam,Zat (show j<hs.length by omega)]at this;simpa using this
theorem wi{hs:List l5}{d:BL}(h:∀ j,j<hs.length->((hs.getD j j6).na==d)=false):C8 hs d=hs.length:=by
 unfold C8;rw[List.findIdx_eq_length];intro x hx;obtain⟨j,hj,rfl⟩:=Zbg.1 hx;have:=h j hj;simp only[Zam,Zat hj]at this;simpa using this
theorem CE{hs:List l5}{d n:BL}{i:Nat}(hi:i<hs.length)(e:(hs.getD i j6).na=d)(h:∀ j,j<i->((hs.getD j j6).na==d)=false):bA hs d n=hs:=by
 unfold bA;rw[rJ hi e h,if_pos hi]
theorem Bw{hs:List l5}{d n:BL}(h:∀ j,j<hs.length->((hs.getD j j6).na==d)=false):bA hs d n=hs++[dO d n]:=by
 unfold bA;rw[wi h,if_neg Zac]
theorem sI{n a:BL}{hs:List l5}{se:List BL}(h: ¬ dX se a):bP n hs se a=hs:=if_neg h
theorem mI{a:BL}{se:List BL}(h: ¬ dX se a):bj se a=se:=if_neg h
theorem sw{a:BL}{se:List BL}(h:dX se a):bj se a=se++[a]:=if_pos h
theorem Li{a:BL}{se:List BL}(h:(aV a).isSome=false\/60<=(se.length:Int)): ¬ dX se a:=fun c=>by
 rw[ib]at h;rcases h with h | h;rw[c.1]at h;cases h;have:=c.2.1;omega
theorem My{a:BL}{se:List BL}(h:se.contains a=true): ¬ dX se a:=fun c=>c.2.2 (List.contains_iff_mem.1 h)
theorem DK{a:BL}{se:List BL}(h:(aV a).isSome=true/\(se.length:Int)<60)(h2:se.contains a=false):dX se a:=by
 rw[ib]at h;exact⟨h.1,Zac,fun c=>by rw[List.contains_iff_mem.2 c]at h2;cases h2⟩
theorem IX{a:BL}{se:List BL}(h:dX se a):aV a=aP a/\(if aI (oA (aV a))=true then bL (oA (aV a)) else [])=pathOf a:=by
 have e:aV a=aP a:=if_pos h.1;have hs:(aP a).isSome=true:=by have:=h.1;unfold az at this;rw[Zao]at this;exact this.1
 exact⟨e,by rw[e,if_pos (nK hs)];rfl⟩
theorem GC{n a:BL} {hs:List l5} {se:List BL} (h:dX se a) (hk:((bA hs (oA (aV a)).j9 n).getD (C8 hs (oA (aV a)).j9) j6).kn=true/\
 bU ((bA hs (oA (aV a)).j9 n).getD (C8 hs (oA (aV a)).j9) j6).gr.ru (if aI (oA (aV a))=true then bL (oA (aV a)) else [])=false):bP n hs se a=bA hs (oA (aV a)).j9 n:=by
 obtain⟨e1,e2⟩:=IX h;rw[e2,e1]at hk;unfold bP;rw[if_pos h,e1];unfold fw aJ;rw[if_pos hk];apply List.ext_getElem Zad;intro i h1 h2;rw[List.getElem_set];split;rename_i e;subst e;rw[Zam,Zat h2];rfl;rfl
theorem Jo{n a:BL} {hs:List l5} {se:List BL} (h:dX se a) (hk:((bA hs (oA (aV a)).j9 n).getD (C8 hs (oA (aV a)).j9) j6).kn=true->
 bU ((bA hs (oA (aV a)).j9 n).getD (C8 hs (oA (aV a)).j9) j6).gr.ru (if aI (oA (aV a))=true then bL (oA (aV a)) else [])=true):
 bP n hs se a=(bA hs (oA (aV a)).j9 n).set (C8 hs (oA (aV a)).j9) { (bA hs (oA (aV a)).j9 n).getD (C8 hs (oA (aV a)).j9) j6 with td:=((bA hs (oA (aV a)).j9 n).getD (C8 hs (oA (aV a)).j9) j6).td++[⟨a,0⟩] }:=by
 obtain⟨e1,e2⟩:=IX h;rw[e2,e1]at hk;unfold bP;rw[if_pos h,e1];unfold fw aJ;rw[if_neg (fun c=>by rw[hk c.1]at c;exact absurd c.2 Zaf)]
theorem Mr{n:BL}{m7:List BL}(h:cB n=false\/12<(m7.length:Int)):eW n m7=none:=if_neg fun c=>by
 rcases h with e | e;rw[c.1]at e;cases e;have:=c.2;omega
theorem LN{n:BL}{m7:List BL}(h:cB n=true/\(m7.length:Int)<=12):eW n m7=some (m7.foldl aG (dB n)):=if_pos ⟨h.1,by have:=h.2;omega⟩
theorem NJ{hs:List l5}{n:BL}(hg:∀ y,y∈hs->y.td.length<=1000/\y.gr.ru.length<=1000/\∀ i,(y.gr.ru.getD i ⟨false,[]⟩).path.length<=1000)(d:BL):
 let y:=(bA hs d n).getD (C8 hs d) j6
 y.td.length<=1000/\y.gr.ru.length<=1000/\∀ i,(y.gr.ru.getD i ⟨false,[]⟩).path.length<=1000:=by
 intro y;have hm:y∈bA hs d n:=aO (d:=j6) (kv hs d n);unfold bA at hm;split at hm;exact hg y hm;rcases Zax.1 hm with h | h;exact hg y h;rw[Zav.1 h];simp[dO]
def xI(n:BL)(b7:Int)(zs:List l5)(se:List BL)(ls:List r4)(gt:Nat)(d:BL):fZ:=.mk (Nat×Nat×Nat) 181 [kp 1000 gt,sV d] [(1000,(gt,bR n b7 zs se ls))] (zs.length<=1000) (fun x=>True) (fun x=>.ptr (.key 1000) [2,(C8 zs d)] x.1 (x.2.1+(C8 zs d)*8)) (fun x=>[(1000,(gt,bm n b7 (bA zs d n) x.1 x.2.1 x.2.2 se ls))]) (by
 intro hl
 refine fW Tryz.func181
  (.oR (.key 1000) [2] (fun g o c=>.q 1<|.r 6 [.c9]<|.loop Nat (fun i=>⟨[(0,kp 1000 gt),(1,sV d),(10,iN zs.length),(11,iN i)],[(1000,(gt,bm n b7 zs g o c se ls))]⟩) (fun i=>i<=zs.length/\∀ j,j<i->((zs.getD j j6).na==d)=false) (fun i=>zs.length-i) (fun i=>.q 1<|.br (.q 2<|.r 10 [.c9,sV ((zs.getD i j6).na)]<|.br (.r 7 [.c9]<|.nil) (.q 2<|.nil)) (.C6 15 [(4,n6 [1000] [35]),(9,n6 [1000] [40]),(14,⟨true,[],none,[45],[1000]⟩)]<|.l8 4<|.n9<|.l8 4<|.n9<|.bs<|.bd fC<|.bd tV<|.bs<|.ux none (fun O5 O3 P8=>.h (.m9 45 (.own 8 (zs.map aq++[(.agg [sV d,iN 0,bV false,.agg [.sl true [sV n],.sl true [],iN 0],iN 0,.sl true []]:V)]) O5 O3 P8))<|.h (.SQ (.slot 45) [zs.length,5] O5 (O3+(zs.length)*8+7) 2)<|.h (.m9 45 (.own 8 (zs.map aq++[(.agg [sV d,iN 0,bV false,.agg [.sl true [sV n],.sl true [],iN 0],iN 0,.own 2 ([].map an) 0 0 0]:V)]) O5 O3 P8))<|.h (.PN (.slot 45) [zs.length] O5 (O3+(zs.length)*8) (.agg [sV d,iN 0,bV false,.agg [.sl true [sV n],.sl true [],iN 0],iN 0,.own 2 ([].map an) 0 0 0]) (.agg [sV d,iV 0,bV false,.agg [.sl false ([n].map sV),.sl false ([].map av),iN 0],iV 0,.ow 2 ([].map an)]))<|.h (.m9 45 (.own 8 (zs.map aq++[(.agg [sV d,iV 0,bV false,.agg [.sl false ([n].map sV),.sl false ([].map av),iN 0],iV 0,.ow 2 ([].map an)]:V)]) O5 O3 P8))<|.h (.m9 45 (.own 8 ((zs++[(dO d n)]).map aq) O5 O3 P8))<|.q 2<|.st none<|.C6 10 [(3,n6 [1000] [51]),(7,n6 [1000] [55])]<|.l8 3<|.n9<|.l8 3<|.n9<|.l8 2<|.h (.m9 57 (iN zs.length))<|.q 2<|.nil)))))
  ((fun (v6 v2:List V) (v5 v4 v3:V) (v1:Nat->Prop)=>(∀ g o c:Nat,(fun v7:V=>True/\Z gt 2/\(∃ j7:Nat,(v1 j7)/\E (kp 1000 gt)/\E (sV d)/\Q (iN ((zs.map aq).length)) (iN zs.length)/\Q (iN 0) (iN j7)/\Er gt v7/\True)/\∀ i:Nat,(v1 i)->Br (r5 (i:Int) (zs.length:Int)) (True/\Z gt 2/\In (i:Int) ((zs.map aq).length)/\(V.at gt 0 v7 [2,0+i,0]=some (g,(o+(0+i)*8+0),sV ((zs.getD i j6).na)))/\Br (((zs.getD i j6).na)==d) (True/\Z gt 2/\In (i:Int) ((zs.map aq).length)/\∃ x:Nat×Nat×Nat,(True)/\Q (.ptr (.key 1000) [2,(C8 zs d)] g (o+(0+i)*8)) (.ptr (.key 1000) [2,(C8 zs d)] x.1 (x.2.1+(C8 zs d)*8))/\Qr gt v7 gt (bm n b7 (bA zs d n) x.1 x.2.1 x.2.2 se ls)) (m6 ((i:Int)+1)/\∃ b9:Nat,(v1 b9)/\(zs.length-b9<zs.length-i)/\E (kp 1000 gt)/\E (sV d)/\E (iN zs.length)/\Q (iN (i+1)) (iN b9)/\Er gt v7/\True)) (True/\Z gt 2/\True/\Z gt 0/\(((8,8,g,o,c,(zs.map aq).length)=(8,8,g,o,c,(zs.map aq).length))/\(V.ax v2=false)/\(aR 8 v2)/\(((zs.map aq).length+v2.length)*120<=140737488355328))/\∀ O5 O3 P8:Nat,((.own 8 ((zs.map aq)++v2) O5 O3 P8:V)=.own 8 (zs.map aq++[v4]) O5 O3 P8)/\(V.at O5 O3 (.own 8 (zs.map aq++[v4]) O5 O3 P8) [zs.length,5]=some (O5,O3+(zs.length)*8+7,.sl true []))/\(V.set (.own 8 (zs.map aq++[v4]) O5 O3 P8) [zs.length,5] (.own 2 ([].map an) 0 0 0)=.own 8 (zs.map aq++[v3]) O5 O3 P8)/\(V.at O5 O3 (.own 8 (zs.map aq++[v3]) O5 O3 P8) [zs.length]=some (O5,O3+(zs.length)*8,.agg [sV d,iN 0,bV false,.agg [.sl true [sV n],.sl true [],iN 0],iN 0,.own 2 ([].map an) 0 0 0]))/\(V.set (.own 8 (zs.map aq++[v3]) O5 O3 P8) [zs.length] (.agg [sV d,iV 0,bV false,.agg [.sl false ([n].map sV),.sl false ([].map av),iN 0],iV 0,.ow 2 ([].map an)])=.own 8 (zs.map aq++[v5]) O5 O3 P8)/\((.own 8 (zs.map aq++[v5]) O5 O3 P8:V)=.own 8 v6 O5 O3 P8)/\True/\Z gt 2/\True/\Z gt 2/\True/\Z gt 2/\m6 (((v6.length:Nat):Int)-1)/\Q (iV (((v6.length:Nat):Int)-1)) (iN zs.length)/\In (zs.length:Int) (v6.length)/\∃ x:Nat×Nat×Nat,(True)/\Q (.ptr (.key 1000) [2,(C8 zs d)] O5 (O3+(0+zs.length)*8)) (.ptr (.key 1000) [2,(C8 zs d)] x.1 (x.2.1+(C8 zs d)*8))/\Qr gt (bm n b7 (zs++[(dO d n)]) O5 O3 P8 se ls) gt (bm n b7 (bA zs d n) x.1 x.2.1 x.2.2 se ls))) (bm n b7 zs g o c se ls))) ((zs++[(dO d n)]).map aq) ([.agg [sV d,iN 0,bV false,.agg [.sl true [sV n],.sl true [],iN 0],iN 0,.sl true []]]:List V) (.agg [sV d,iV 0,bV false,.agg [.sl false ([n].map sV),.sl false ([].map av),iN 0],iV 0,.ow 2 ([].map an)]:V) (.agg [sV d,iN 0,bV false,.agg [.sl true [sV n],.sl true [],iN 0],iN 0,.sl true []]:V) (.agg [sV d,iN 0,bV false,.agg [.sl true [sV n],.sl true [],iN 0],iN 0,.own 2 ([].map an) 0 0 0]:V) (fun j7:Nat=>j7<=zs.length/\∀ j,j<j7->((zs.getD j j6).na==d)=false)) ?_
 intro g o c;refine bS ⟨⟨0,?_,rfl,rfl,Zah,aQ⟩,?_⟩;simp;rintro i ⟨h1,h2⟩;refine bI (fun j8=>?_) fun j8=>?_
 · refine bN ⟨Zd3,bI (fun l4=>?_) fun l4=>?_⟩
   · refine bN ⟨(g,o,c),?_,?_,?_⟩
     · try dsimp only
       all_goals trivial
     first | (rw[rJ (i:=i) Zac l4 h2,Zaw]) | (rw[wi (fun j hj=>h2 j Zac),Zaw])
     first | (rw[CE (i:=i) Zac l4 h2]) | (rw[Bw (fun j hj=>h2 j Zac)])
   refine aM ⟨i+1,?_,?_,aQ⟩;exact⟨Zac,Zdw⟩;exact Zak
 · refine cq ⟨bN Zal,fun O5 O3 P8=>⟨Zbm (V.own 8 · O5 O3 P8) (rfl),Zdb,Zdc,gP ay,nk (ay) (bJ),Zbm (V.own 8 · O5 O3 P8) (by rw[Zbb (f:=aq)];rfl),iQ ⟨Zds,aM ?_⟩⟩⟩;refine⟨(O5,O3,P8),?_,?_,?_⟩
   · try dsimp only
     all_goals trivial
   first | (rw[rJ (i:=i) Zac l4 h2,Zaw]) | (rw[wi (fun j hj=>h2 j Zac),Zaw])
   first | (rw[CE (i:=i) Zac l4 h2]) | (rw[Bw (fun j hj=>h2 j Zac)]))
def FQ(n:BL)(b7:Int)(zs:List l5)(se:List BL)(ls:List r4)(gt:Nat)(a:BL):aw:=.mk 147 [kp 1000 gt,sV a] [(1000,(gt,bR n b7 zs se ls))] ((zs.length<=1000)/\(se.length<=1000)/\(a.length<=1000000)/\(o8 a)/\(∀ y,y∈zs->y.td.length<=1000/\y.gr.ru.length<=1000/\∀ i,(y.gr.ru.getD i ⟨false,[]⟩).path.length<=1000)) (.tup []) [(1000,(gt,bR n b7 (bP n zs se a) (bj se a) ls))] (by
 rintro⟨hl,Qi,ha,hc,hg⟩
 refine au Tryz.func147
  (.oR (.key 1000) [3] (fun gs os cs=>.q 1<|.c (dP a) []<|.q 3<|.al cK (fun g4=>.st none<|.q 1<|.r 10 [.c9]<|.sp ((!((aV a).isSome))||(A9 (((se.map sV).length:Nat):Int) 60)) (.h (.m9 21 (bV true))<|.q 1<|.gf (.c9)<|.gf (.c9)<|.gf (.c9)<|.gf (.c9)<|.gf (.c9)<|.gf (bV false)<|.q 1<|.br (.nil) (.nil)) (.h (.m9 21 (bV false))<|.q 1<|.gt<|.q 1<|.gt<|.q 1<|.gt<|.q 1<|.gt<|.n9<|.gt<|.q 1<|.gt<|.cl (sM se a)<|.q 1<|.br (.nil) (.r 6 [.c9]<|.bs<|.ap (fun P6 Tb Tj=>.h (.m9 37 (.own 1 ((se++[a]).map sV) P6 Tb Tj))<|.q 2<|.st none<|.r 3 [.c9]<|.cx (xI n b7 zs (se++[a]) ls gt ((oA (aV a)).j9)) [(1000,1000)] (fun (m5:Nat×Nat×Nat)=>.q 1<|.ex (List l5×Nat) (fun x=>((bA zs (oA (aV a)).j9 n),(C8 zs (oA (aV a)).j9))=x) (fun (x:List l5×Nat)=>.h (.s8 1000 (bm n b7 x.1 m5.1 m5.2.1 m5.2.2 (se++[a]) ls))<|.h (.m9 43 (.ptr (.key 1000) [2,x.2] m5.1 (m5.2.1+x.2*8)))<|.h (.m9 6 (.ptr (.key 1000) [2,x.2] m5.1 (m5.2.1+x.2*8)))<|.C6 15 [(3,n6 [1000] [47]),(9,n6 [1000] [53]),(10,n6 [4] [54])]<|.l8 3<|.r 1 [bV ((x.1.getD x.2 j6).kn)]<|.l8 5<|.r 1 [dk ((x.1.getD x.2 j6).gr.ru)]<|.n9<|.cg (ml (oA (aV a)))<|.cg (lP ((x.1.getD x.2 j6).gr.ru) (if aI (oA (aV a))=true then bL (oA (aV a)) else []))<|.l8 2<|.br (.nil) (.ex (l5) (fun y=>(x.1.getD x.2 j6)=y) (fun (y:l5)=>(fun y1:List V=>(.h (.s8 1000 (cd n b7 x.1 x.2 y y.td m5.1 m5.2.1 m5.2.2 (se++[a]) ls))<|.Ra (.key 1000) [2,x.2,5] m5.1 (m5.2.1+(x.2)*8+7) 2 (y.td.map an) (fun gA Px cA=>.h (.s8 1000 (ba n b7 x.1 x.2 y y.td gA Px cA m5.1 m5.2.1 m5.2.2 (se++[a]) ls))<|.r 6 [.own 2 (y.td.map an) gA Px cA]<|.bd ox<|.bs<|.Y2 (y.td.map an) m5.1 (m5.2.1+(x.2)*8+7) (fun Tt To Tw=>.h (.m9 67 (.own 2 y1 Tt To Tw))<|.h (.s8 1000 (jA n b7 x.1 x.2 y m5.1 m5.2.1 m5.2.2 (se++[a]) ls))<|.q 2<|.st (some (.c9))<|.h (.s8 1000 (ba n b7 x.1 x.2 y (y.td++[(⟨a,0⟩:s7)]) Tt To Tw m5.1 m5.2.1 m5.2.2 (se++[a]) ls))<|.h (.PN (.key 1000) [2,x.2,5] m5.1 (m5.2.1+(x.2)*8+7) (.own 2 y1 Tt To Tw) (.ow 2 y1))<|.h (.s8 1000 (cd n b7 x.1 x.2 y (y.td++[(⟨a,0⟩:s7)]) m5.1 m5.2.1 m5.2.2 (se++[a]) ls))<|.h (.s8 1000 (bm n b7 (x.1.set x.2 ({ y with td:=y.td++[⟨a,0⟩] }:l5)) m5.1 m5.2.1 m5.2.2 (se++[a]) ls))<|.nil)):Sc Tryz.prog)) ((y.td++[(⟨a,0⟩:s7)]).map an)))))))))))
  ((fun (v5:List V) (v4 v2:Bool) (v3:s7) (v1:V)=>(∀ gs os cs:Nat,(dP a).sm/\((a.length<=1000000)/\(o8 a))/\∀ g4:Nat,Z g4 0/\Gd (v4==false) True/\Gd (v4==false) (Z gt 3)/\Pk v4 true (v4==false)/\((v4||v2)=true->((bV (v4||v2):V)=bV true)/\(false=false)/\(false=false)/\(false=false)/\(false=false)/\(false=false)/\(false=false)/\Pk true true false/\Br (true||false) (Q (.tup []) (.tup [])/\Qr gt (bR n b7 zs se ls) gt v1) (False))/\((v4||v2)=false->((bV (v4||v2):V)=bV false)/\(true=true)/\(true=true)/\True/\(true=true)/\(true=true)/\Z gt 3/\(true=true)/\(true=true)/\(((1=1/\gs=gs/\os=os)/\0+((se.map sV).length)<=(se.map sV).length/\V.ax (se.map sV)=false/\aR 1 (se.map sV))/\True)/\(([.sl false (((se.map sV).drop 0).take ((se.map sV).length)),sV a]:List V)=[ao se,sV a])/\((se.length<=1000000))/\Pk false true true/\Br (false||(se.contains a)) (Q (.tup []) (.tup [])/\Qr gt (bR n b7 zs se ls) gt v1) (True/\Z gt 3/\((1,1,gs,os,cs,(se.map sV).length)=(1,1,gs,os,cs,(se.map sV).length))/\(True)/\(V.ax ([sV a]:List V)=false)/\(aR 1 ([sV a]:List V))/\(((se.map sV).length+([sV a]:List V).length)*16<=140737488355328)/\∀ P6 Tb Tj:Nat,((.own 1 ((se.map sV)++([sV a]:List V)) P6 Tb Tj:V)=.own 1 ((se++[a]).map sV) P6 Tb Tj)/\True/\Z gt 3/\Z g4 0/\(xI n b7 zs (se++[a]) ls gt ((oA (aV a)).j9)).sm/\Er gt (bR n b7 zs (se++[a]) ls)/\((zs.length<=1000))/\∀ m5:Nat×Nat×Nat,(True)->(fun v6:V=>(∃ x:List l5×Nat,((bA zs (oA (aV a)).j9 n),(C8 zs (oA (aV a)).j9))=x)/\∀ x:List l5×Nat,(((bA zs (oA (aV a)).j9 n),(C8 zs (oA (aV a)).j9))=x)->(fun (v8:V) (v7:l5)=>((bm n b7 (bA zs ((oA (aV a)).j9) n) m5.1 m5.2.1 m5.2.2 (se++[a]) ls:V)=bm n b7 x.1 m5.1 m5.2.1 m5.2.2 (se++[a]) ls)/\(v6=.ptr (.key 1000) [2,x.2] m5.1 (m5.2.1+x.2*8))/\(v6=.ptr (.key 1000) [2,x.2] m5.1 (m5.2.1+x.2*8))/\True/\(V.at gt 0 v8 [2,x.2,2]=some (m5.1,(m5.2.1+x.2*8+2),bV (v7.kn)))/\Gd ((v7.kn)==true) (((v7.kn)==true)=true)/\Gd ((v7.kn)==true) True/\Gd ((v7.kn)==true) (((v7.kn)==true)=true)/\Gd ((v7.kn)==true) (((v7.kn)==true)=true)/\Gd ((v7.kn)==true) (((v7.kn)==true)=true)/\Gd ((v7.kn)==true) (V.at gt 0 v8 [2,x.2,3,1]=some (m5.1,(m5.2.1+x.2*8+3+1),dk (v7.gr.ru)))/\Gd ((v7.kn)==true) (Z g4 0)/\Gd ((v7.kn)==true) (((v7.kn)==true)=true)/\Gd ((v7.kn)==true) (((cD (oA (aV a))))/\(ml (oA (aV a))).sm)/\Gd ((v7.kn)==true) (((v7.kn)==true)=true)/\Gd ((v7.kn)==true) (((v7.kn)==true)=true)/\Gd ((v7.kn)==true) ((((v7.gr.ru).length<=1000000)/\(∀ i,((v7.gr.ru).getD i ⟨false,[]⟩).path.length<=1000000)/\((if aI (oA (aV a))=true then bL (oA (aV a)) else []).length<=1000000))/\(lP (v7.gr.ru) (if aI (oA (aV a))=true then bL (oA (aV a)) else [])).sm)/\Gd ((v7.kn)==true) (((v7.kn)==true)=true)/\Pk (v7.kn) ((v7.kn)==true) true/\Br ((v7.kn)&&(!(bU (v7.gr.ru) (if aI (oA (aV a))=true then bL (oA (aV a)) else [])))) (Q (.tup []) (.tup [])/\Qr gt (bR n b7 x.1 (se++[a]) ls) gt v1) ((∃ y:l5,v7=y)/\∀ y:l5,(v7=y)->(fun (v12 v10:V) (v11 v9:List V)=>((bm n b7 x.1 m5.1 m5.2.1 m5.2.2 (se++[a]) ls:V)=cd n b7 x.1 x.2 y y.td m5.1 m5.2.1 m5.2.2 (se++[a]) ls)/\(V.at gt 0 v10 [2,x.2,5]=some (m5.1,m5.2.1+(x.2)*8+7,.ow 2 v9))/\∀ gA Px cA:Nat,(fun x2:V=>(V.set v10 [2,x.2,5] (.own 2 v9 gA Px cA)=ba n b7 x.1 x.2 y y.td gA Px cA m5.1 m5.2.1 m5.2.2 (se++[a]) ls)/\True/\(V.at gt 0 x2 [2,x.2,5]=some (m5.1,(m5.2.1+x.2*8+7),.own 2 v9 gA Px cA))/\((V.at gt 0 x2 [2,x.2,5]=some (m5.1,m5.2.1+(x.2)*8+7,.own 2 v9 gA Px cA))/\2=2/\v9.length=v9.length)/\(True)/\(V.ax v5=false)/\(aR 2 v5)/\((v9.length+v5.length)*24<=140737488355328)/\∀ Tt To Tw:Nat,(fun z7:V=>((.own 2 (v9++v5) Tt To Tw:V)=.own 2 v11 Tt To Tw)/\(V.set x2 [2,x.2,5] (.c9)=jA n b7 x.1 x.2 y m5.1 m5.2.1 m5.2.2 (se++[a]) ls)/\True/\(V.at gt 0 v12 [2,x.2,5]=some (m5.1,(m5.2.1+x.2*8+7),.c9))/\(V.set v12 [2,x.2,5] (.own 2 v11 Tt To Tw)=ba n b7 x.1 x.2 y (y.td++[v3]) Tt To Tw m5.1 m5.2.1 m5.2.2 (se++[a]) ls)/\(V.at gt 0 z7 [2,x.2,5]=some (m5.1,m5.2.1+(x.2)*8+7,.own 2 v11 Tt To Tw))/\(V.set z7 [2,x.2,5] (.ow 2 v11)=cd n b7 x.1 x.2 y (y.td++[v3]) m5.1 m5.2.1 m5.2.2 (se++[a]) ls)/\((cd n b7 x.1 x.2 y (y.td++[v3]) m5.1 m5.2.1 m5.2.2 (se++[a]) ls:V)=bm n b7 (x.1.set x.2 ({ y with td:=y.td++[⟨a,0⟩] }:l5)) m5.1 m5.2.1 m5.2.2 (se++[a]) ls)/\Q (.tup []) (.tup [])/\Qr gt (bR n b7 (x.1.set x.2 ({ y with td:=y.td++[⟨a,0⟩] }:l5)) (se++[a]) ls) gt v1) (ba n b7 x.1 x.2 y (y.td++[v3]) Tt To Tw m5.1 m5.2.1 m5.2.2 (se++[a]) ls)) (ba n b7 x.1 x.2 y y.td gA Px cA m5.1 m5.2.1 m5.2.2 (se++[a]) ls)) (jA n b7 x.1 x.2 y m5.1 m5.2.1 m5.2.2 (se++[a]) ls) (cd n b7 x.1 x.2 y y.td m5.1 m5.2.1 m5.2.2 (se++[a]) ls) ((y.td++[v3]).map an) (y.td.map an))) (bm n b7 x.1 m5.1 m5.2.1 m5.2.2 (se++[a]) ls) (x.1.getD x.2 j6)) (.ptr (.key 1000) [2,(C8 zs ((oA (aV a)).j9))] m5.1 (m5.2.1+(C8 zs ((oA (aV a)).j9))*8):V))))) ([.agg [sV a,iN 0]]:List V) (!((aV a).isSome)) (A9 (((se.map sV).length:Nat):Int) 60) (⟨a,0⟩:s7) (bR n b7 (bP n zs se a) (bj se a) ls)) ?_
 intro gs os cs;refine⟨rfl,⟨ha,hc⟩,fun g4=>cq ⟨fun QI=>?_,fun QI=>?_⟩⟩
 · have L4:=QI;try simp only[nb]at L4
   refine⟨Zbm bV QI,iQ (bI (fun j8=>?_) fun j8=>?_)⟩;refine⟨?_,by rw[sI (n:=n) (hs:=zs) (Li L4),mI (Li L4)]⟩;rfl
   · all_goals (first | exact absurd j8 Zaf | simp_all)
 have L4:=QI;try simp only[nb]at L4
 refine⟨Zbm bV QI,dU ⟨⟨⟨aQ,Zad,bq (f:=sV) (fun _=>rfl) _,bX (f:=sV) (fun _=>rfl) _⟩,aQ⟩,Zck,bS (bI (fun l4=>?_) fun l4=>?_)⟩⟩;refine⟨?_,by rw[sI (n:=n) (hs:=zs) (My (l4.resolve_left Zaf)),mI (My (l4.resolve_left Zaf))]⟩;rfl;refine iQ fun P6 Tb Tj=>⟨Zbm (V.own 1 · P6 Tb Tj) Zad,dN ⟨hl,fun m5 Rd=>?_⟩⟩;have hix:=kv zs (oA (aV a)).j9 n;have Xe:=uw zs (oA (aV a)).j9 n;have UP:=NJ (n:=n) hg (oA (aV a)).j9;refine⟨⟨_,rfl⟩,fun x hx=>?_⟩;have Z9:(bA zs (oA (aV a)).j9 n)=x.1:=by rw[<- hx]
 have Rf:(C8 zs (oA (aV a)).j9)=x.2:=by rw[<- hx]
 rw[Z9,Rf]at hix UP;rw[Z9]at Xe;refine⟨by rw[Z9],(by rw[Rf]),(by rw[Rf]),trivial,Zd4,dN ⟨fun hG=>(bu (f:=2) rfl).trans (aU (ag (d:=j6) Zac) rfl),bS ⟨fun hG=>⟨by(try simp only[nb]at hG);exact qZ _,rfl⟩,bS ⟨fun hG=>⟨⟨by(try simp only[nb]at hG);have:=UP.2.1;omega,fun i=>by have:=UP.2.2 i;omega,by(try simp only[nb]at hG);have:=(qZ a).path;split <;> simp <;> omega⟩,rfl⟩,bS (bI (fun m8=>?_) fun m8=>?_)⟩⟩⟩⟩;refine⟨?_,by obtain rfl:=hx;simp only at m8 ⊢;rw[GC (DK L4 l4.2) m8,sw (DK L4 l4.2)]⟩;rfl;refine⟨⟨_,rfl⟩,fun y hy=>?_⟩;rw[hy]at UP;refine⟨I9 (Zbm (V.own 8 · m5.1 m5.2.1 m5.2.2) (splitN hy (hix))),aM fun gA Px cA=>dU fun Tt To Tw=>⟨Zbm (V.own 2 · Tt To Tw) Zad,lz ⟨I9 (Zbm (V.own 8 · m5.1 m5.2.1 m5.2.2) (eA (f:=aq) (x:=({ y with td:=y.td++[⟨a,0⟩] }:l5)) (hix))),⟨?_,by subst hy;obtain rfl:=hx;simp only at m8 ⊢;rw[Jo (DK L4 l4.2) m8,sw (DK L4 l4.2)]⟩⟩⟩⟩;rfl)
section
variable {P:Program}
def Y9(xs:List V):Cu P where
 X:={b:Bool // b=true->xs=[]}
 pre N o A:=match o.op,o.dst with
  | .binOp .eql T x (.const (.slice none 0 0)) _,some d=>match tD P T,Nat.blt d N with
    | some (.sl _),true=>match A.ev x with
      | .sl _ ys=>ys=xs
      | _=>False
    | _,_=>False
  | _,_=>False
 post b o A:=match o.dst with
  | some d=>A.put (some d) (.lit (.bool b.1))
  | none=>A
 ok:=by
  rintro N ⟨dst,op,ty,pos,after,D8⟩ A K-hp hK;simp only at hp hK;split at hp;rename_i T x yt d;split at hp;rename_i e e1 e2;split at hp;rename_i f ys e3;subst hp;obtain⟨td,hu,hd⟩:=cP e1;obtain⟨et,hu⟩:∃ et,P.underlying T=some (.slice et):=by
   cases td <;> simp_all[dG]
  intro Pb Kb a w F Q hs;obtain⟨_,hx⟩:=dS hs x;rw[e3]at hx;have hx:R w Pb (.sl f ys) [a.eval x] _:=hx;obtain⟨_,B,c,hc,hle,_,UL⟩:=hx;simp only[List.cons.injEq,and_true]at hc;have Rf:(execOp a.eval ⟨some d,.binOp .eql T x (.const (.slice none 0 0)) yt,ty,pos,after,D8⟩).run P w=.ok (.value (.bool B.isNone)) w:=by
   have W0:∀ q,(Op.equalIn (q+1) T (.slice B ys.length c) (.slice none 0 0)).run P w=.ok B.isNone w:=fun q=>by
    unfold Op.equalIn;rw[Za0,run_underlying hu];cases B <;> rfl
   have hq:(binOp .eql T (.slice B ys.length c) (.slice none 0 0)).run P w=.ok (.bool B.isNone) w:=by
    show ((Op.equalIn (9999+1) T (.slice B ys.length c) (.slice none 0 0)) >>= fun b=>pure (Value.bool b)).run P w=_;rw[Za0,W0];rfl
   have hy:a.eval (.const (.slice none 0 0))=.slice none 0 0:=rfl;simp only[execOp,hc,hy,Za0,sR .eql T x (.const (.slice none 0 0)) (u:=.slice B ys.length c) (v:=.slice none 0 0) (fun _ h=>by cases h) (fun h=>by cases h),Zas,hq,Za1]
  obtain⟨F',B0⟩:=hs.pF (d:=some d) (v:=.lit (.bool B.isNone)) (bG e2) (du rfl);unfold Oper.wp;rw[Rf,Oper.upon_value];refine⟨_,Pb,Kb,F',hK ⟨B.isNone,fun h=>?_⟩,B0,fun _ h=>h,fun _ h=>h,fun _ h=>.inl h,A4.refl _ _⟩;rcases UL with h1 | ⟨_,_,_,_,rfl,_⟩;exact h1;cases h;exact hp.elim;exact hp.elim;exact hp.elim
end
section
variable {α β:Type} {l:List α} {f g:α->β} {d:α} {i:Nat}
theorem OH:l.map g=(l.take 0).map f++(l.drop 0).map g:=rfl
theorem KQ(h:i<l.length):(l.take i).map f++(l.drop i).map g=(l.take i).map f++g (l.getD i d)::(l.drop (i+1)).map g:=by
 rw[List.drop_eq_getElem_cons h,Zbe,Zam,Zat h];rfl
theorem MV(h:i<l.length):(l.take i).map f++f (l.getD i d)::(l.drop (i+1)).map g=(l.take (i+1)).map f++(l.drop (i+1)).map g:=by
 rw[List.take_succ_eq_append_getElem h,Zbb,List.append_assoc,Zam,Zat h];rfl
theorem OL(h:l.length<=i):(l.take i).map f++(l.drop i).map g=l.map f:=by
 rw[Zaz h,Za8 h];simp
end
abbrev pN(p0:BL)(p1:Int)(p2:V)(p3:List BL)(p4:List r4):V:=.agg [sV p0,iV p1,p2,.sl false (p3.map sV),.sl false (p4.map aT)]
abbrev kU(p0:BL)(p1:Int)(p2:V)(p3:List BL)(p4:List r4):V:=.agg [sV p0,iV p1,p2,.sl false (p3.map sV),.sl false (p4.map aT)]
abbrev Lb(p0:BL)(p1:Int)(p2:Bool)(p3:List BL)(p4:List r9)(p5:Nat)(p6:Int)(p7:List s7):V:=.agg [sV p0,iV p1,bV p2,.agg [.sl false (p3.map sV),.sl false (p4.map av),iN p5],iV p6,.ow 2 (p7.map an)]
abbrev dh(y0:l6):V:=bR y0.na y0.b7 y0.hs y0.se y0.lk
abbrev jf(y0:l5)(p7:List s7):V:=Lb y0.na y0.re y0.kn y0.gr.na y0.gr.ru y0.gr.wa y0.tr p7
def Aq(l:List l5):aw:=.mk 94 [mD l] [] (l.length<=1000000) (.ow 8 (l.map cG)) [] (by
 intro hl
 refine au Tryz.func94
  (.l8 2<|.cu (Y9 (l.map cG)) (fun z4=>.br (.q 1<|.h (.I7 2 8)<|.nil) (.bs<|.q 1<|.ap (fun g7 o7 c7=>.h (.m9 7 (.own 8 (l.map cG) g7 o7 c7))<|.q 1<|.nil))))
  (((l.map cG:List V)=l.map cG)/\∀ z4: {b:Bool // b=true->(l.map cG:List V)=[]},Br z4.1 (Q (.ow 8 ([].map cG)) (.ow 8 (l.map cG))) ((True)/\(True)/\(V.ax (l.map cG)=false)/\(aR 8 (l.map cG))/\((([]:List V).length+(l.map cG).length)*120<=140737488355328)/\∀ g7 o7 c7:Nat,((.own 8 (([]:List V)++(l.map cG)) g7 o7 c7:V)=.own 8 (l.map cG) g7 o7 c7)/\Q (.ow 8 (l.map cG)) (.ow 8 (l.map cG)))) ?_
 refine⟨rfl,fun z4=>bI (fun j8=>?_) fun j8=>?_⟩;rw[z4.2 j8];rfl;refine bS ⟨(bq (f:=cG) (fun _=>rfl) _),(bX (f:=cG) (fun _=>rfl) _),Zal,fun g7 o7 c7=>⟨Zbm (V.own 8 · g7 o7 c7) (List.nil_append _),?_⟩⟩;rfl)
def yX(l:List r9):aw:=.mk 95 [dk l] [] (l.length<=1000000) (.ow 2 (l.map av)) [] (by
 intro hl
 refine au Tryz.func95
  (.l8 2<|.cu (Y9 (l.map av)) (fun z4=>.br (.q 1<|.h (.I7 2 2)<|.nil) (.bs<|.q 1<|.ap (fun g7 o7 c7=>.h (.m9 7 (.own 2 (l.map av) g7 o7 c7))<|.q 1<|.nil))))
  (((l.map av:List V)=l.map av)/\∀ z4: {b:Bool // b=true->(l.map av:List V)=[]},Br z4.1 (Q (.ow 2 ([].map av)) (.ow 2 (l.map av))) ((True)/\(True)/\(V.ax (l.map av)=false)/\(aR 2 (l.map av))/\((([]:List V).length+(l.map av).length)*24<=140737488355328)/\∀ g7 o7 c7:Nat,((.own 2 (([]:List V)++(l.map av)) g7 o7 c7:V)=.own 2 (l.map av) g7 o7 c7)/\Q (.ow 2 (l.map av)) (.ow 2 (l.map av)))) ?_
 refine⟨rfl,fun z4=>bI (fun j8=>?_) fun j8=>?_⟩;rw[z4.2 j8];rfl;refine bS ⟨Zdh,Zdi,Zal,fun g7 o7 c7=>⟨Zbm (V.own 2 · g7 o7 c7) (List.nil_append _),?_⟩⟩;rfl)
def zE(l:List s7):aw:=.mk 96 [ik l] [] (l.length<=1000000) (.ow 2 (l.map an)) [] (by
 intro hl
 refine au Tryz.func96
  (.l8 2<|.cu (Y9 (l.map an)) (fun z4=>.br (.q 1<|.h (.I7 2 2)<|.nil) (.bs<|.q 1<|.ap (fun g7 o7 c7=>.h (.m9 7 (.own 2 (l.map an) g7 o7 c7))<|.q 1<|.nil))))
  (((l.map an:List V)=l.map an)/\∀ z4: {b:Bool // b=true->(l.map an:List V)=[]},Br z4.1 (Q (.ow 2 ([].map an)) (.ow 2 (l.map an))) ((True)/\(True)/\(V.ax (l.map an)=false)/\(aR 2 (l.map an))/\((([]:List V).length+(l.map an).length)*24<=140737488355328)/\∀ g7 o7 c7:Nat,((.own 2 (([]:List V)++(l.map an)) g7 o7 c7:V)=.own 2 (l.map an) g7 o7 c7)/\Q (.ow 2 (l.map an)) (.ow 2 (l.map an)))) ?_
 refine⟨rfl,fun z4=>bI (fun j8=>?_) fun j8=>?_⟩;rw[z4.2 j8];rfl;refine bS ⟨(bq (f:=an) (fun _=>rfl) _),(bX (f:=an) (fun _=>rfl) _),Zal,fun g7 o7 c7=>⟨Zbm (V.own 2 · g7 o7 c7) (List.nil_append _),?_⟩⟩;rfl)
def zG(l:List r4):aw:=.mk 97 [fy l] [] (l.length<=1000000) (.ow 3 (l.map aT)) [] (by
 intro hl
 refine au Tryz.func97
  (.l8 2<|.cu (Y9 (l.map aT)) (fun z4=>.br (.q 1<|.h (.I7 2 3)<|.nil) (.bs<|.q 1<|.ap (fun g7 o7 c7=>.h (.m9 7 (.own 3 (l.map aT) g7 o7 c7))<|.q 1<|.nil))))
  (((l.map aT:List V)=l.map aT)/\∀ z4: {b:Bool // b=true->(l.map aT:List V)=[]},Br z4.1 (Q (.ow 3 ([].map aT)) (.ow 3 (l.map aT))) ((True)/\(True)/\(V.ax (l.map aT)=false)/\(aR 3 (l.map aT))/\((([]:List V).length+(l.map aT).length)*32<=140737488355328)/\∀ g7 o7 c7:Nat,((.own 3 (([]:List V)++(l.map aT)) g7 o7 c7:V)=.own 3 (l.map aT) g7 o7 c7)/\Q (.ow 3 (l.map aT)) (.ow 3 (l.map aT)))) ?_
 refine⟨rfl,fun z4=>bI (fun j8=>?_) fun j8=>?_⟩;rw[z4.2 j8];rfl;refine bS ⟨(bq (f:=aT) (fun _=>rfl) _),(bX (f:=aT) (fun _=>rfl) _),Zal,fun g7 o7 c7=>⟨Zbm (V.own 3 · g7 o7 c7) (List.nil_append _),?_⟩⟩;rfl)
abbrev qh(t:l6):V:=dh t
def vo(t:l6):aw:=.mk 49 [aE t] [] (x3 t) (qh t) [] (by
 intro ht;have Xe:=ht.h
 refine au Tryz.func49
  (.bx (fun g1=>.al fq (fun g2=>.r 2 [.c9]<|.c (Aq t.hs) []<|.q 1<|.st none<|.oR (.key 1) [2] (fun g o c=>.r 4 [.c9]<|.h (.s8 1 (kU t.na t.b7 (.own 8 ((t.hs.take 0).map aq++(t.hs.drop 0).map cG) g o c) t.se t.lk))<|.loop Nat (fun i=>⟨[(1,kp 1 g1),(2,kp 2 g2),(11,iN t.hs.length),(12,iN i)],[(1,(g1,kU t.na t.b7 (.own 8 ((t.hs.take i).map aq++(t.hs.drop i).map cG) g o c) t.se t.lk)),(2,(g2,.agg [sV [],iN 0,.sl true [],.sl true [],.sl true []]))]⟩) (fun i=>i<=t.hs.length) (fun i=>t.hs.length-i) (fun i=>(fun (y2:l5) (y1:V->V)=>(.q 1<|.br (.q 2<|.h (.s8 1 (y1 (bH y2 (y2.td):V)))<|.r 5 [.c9]<|.r 6 [ao (y2.gr.na)]<|.c (kg (y2.gr.na)) []<|.q 3<|.h (.fz 25)<|.h (.m9 25 (ao (y2.gr.na)))<|.st (some (ao (y2.gr.na)))<|.h (.s8 1 (y1 (bH y2 (y2.td):V)))<|.r 6 [dk (y2.gr.ru)]<|.c (yX (y2.gr.ru)) []<|.q 3<|.h (.fz 35)<|.h (.m9 35 (dk (y2.gr.ru)))<|.st (some (dk (y2.gr.ru)))<|.h (.s8 1 (y1 (bH y2 (y2.td):V)))<|.r 5 [ik (y2.td)]<|.c (zE (y2.td)) []<|.q 2<|.st (some (ik (y2.td)))<|.h (.s8 1 (y1 (jf y2 (y2.td):V)))<|.h (.s8 1 (kU t.na t.b7 (.own 8 ((t.hs.take (i+1)).map aq++(t.hs.drop (i+1)).map cG) g o c) t.se t.lk))<|.q 2<|.nil) (.h (.s8 1 (.agg [sV t.na,iV t.b7,.own 8 (t.hs.map aq) g o c,ao t.se,fy t.lk]))<|.r 2 [.c9]<|.c (kg t.se) []<|.q 1<|.st none<|.r 2 [.c9]<|.c (zG t.lk) []<|.q 1<|.st none<|.mv<|.st none<|.nil):Sc Tryz.prog)) (t.hs.getD i j6) (fun r:V=>(pN t.na t.b7 (.own 8 ((t.hs.take i).map aq++r::(t.hs.drop (i+1)).map cG) g o c) t.se t.lk)))))))
  ((fun v1:V=>(∀ g1:Nat,∀ g2:Nat,Z g1 2/\(Aq t.hs).sm/\((t.hs.length<=1000000))/\Z g1 2/\∀ g o c:Nat,(fun v2:V=>Z g1 2/\((.agg [sV t.na,iV t.b7,.own 8 (t.hs.map cG) g o c,ao t.se,fy t.lk]:V)=kU t.na t.b7 v2 t.se t.lk)/\(∃ j7:Nat,(j7<=t.hs.length)/\E (kp 1 g1)/\E (kp 2 g2)/\Q (iN ((t.hs.map cG).length)) (iN t.hs.length)/\Q (iN 0) (iN j7)/\Qr g1 (kU t.na t.b7 v2 t.se t.lk) g1 (kU t.na t.b7 (.own 8 ((t.hs.take j7).map aq++(t.hs.drop j7).map cG) g o c) t.se t.lk)/\Er g2 v1/\True)/\∀ i:Nat,(i<=t.hs.length)->(fun (v5:l5) (v3:V->V)=>(fun v11:V=>(fun v4:V=>(fun (v10 v6:V) (v9 v8 v7:Prop)=>Br (r5 (i:Int) (t.hs.length:Int)) ((v6=pN t.na t.b7 (v3 v11) t.se t.lk)/\Z g1 2/\In (i:Int) (((t.hs.take i).map aq++v11::(t.hs.drop (i+1)).map cG).length)/\True/\v7/\(kg (v5.gr.na)).sm/\(((v5.gr.na).length<=1000000))/\True/\((.sl false (V.E6 ((v5.gr.na).map sV)):V)=ao (v5.gr.na))/\v7/\(V.set v4 [2,0+i,3,0] (ao (v5.gr.na))=pN t.na t.b7 (v3 v11) t.se t.lk)/\True/\v8/\(yX (v5.gr.ru)).sm/\(((v5.gr.ru).length<=1000000))/\True/\((.sl false (V.E6 ((v5.gr.ru).map av)):V)=dk (v5.gr.ru))/\v8/\(V.set v4 [2,0+i,3,1] (dk (v5.gr.ru))=pN t.na t.b7 (v3 v11) t.se t.lk)/\True/\v9/\(zE (v5.td)).sm/\(((v5.td).length<=1000000))/\True/\v9/\(V.set v4 [2,0+i,5] (.ow 2 ((v5.td).map an))=pN t.na t.b7 (v3 (jf v5 (v5.td):V)) t.se t.lk)/\((pN t.na t.b7 (v3 (jf v5 (v5.td):V)) t.se t.lk:V)=kU t.na t.b7 v10 t.se t.lk)/\m6 ((i:Int)+1)/\∃ b9:Nat,(b9<=t.hs.length)/\(t.hs.length-b9<t.hs.length-i)/\E (kp 1 g1)/\E (kp 2 g2)/\E (iN t.hs.length)/\Q (iN (i+1)) (iN b9)/\Qr g1 (kU t.na t.b7 v10 t.se t.lk) g1 (kU t.na t.b7 (.own 8 ((t.hs.take b9).map aq++(t.hs.drop b9).map cG) g o c) t.se t.lk)/\Er g2 v1/\True) ((v6=.agg [sV t.na,iV t.b7,.own 8 (t.hs.map aq) g o c,ao t.se,fy t.lk])/\Z g1 3/\(kg t.se).sm/\((t.se.length<=1000000))/\Z g1 3/\Z g1 4/\(zG t.lk).sm/\((t.lk.length<=1000000))/\Z g1 4/\Z g1 0/\Z g2 0/\(g2=g2)/\Q (dh t) (qh t))) (.own 8 ((t.hs.take (i+1)).map aq++(t.hs.drop (i+1)).map cG) g o c) (kU t.na t.b7 (.own 8 ((t.hs.take i).map aq++(t.hs.drop i).map cG) g o c) t.se t.lk:V) (V.at g1 0 v4 [2,0+i,5]=some (g,(o+(0+i)*8+7),ik (v5.td))) (V.at g1 0 v4 [2,0+i,3,1]=some (g,(o+(0+i)*8+3+1),dk (v5.gr.ru))) (V.at g1 0 v4 [2,0+i,3,0]=some (g,(o+(0+i)*8+3+0),ao (v5.gr.na)))) (pN t.na t.b7 (v3 v11) t.se t.lk)) (bH v5 (v5.td):V)) (t.hs.getD i j6) (fun r:V=>(.own 8 ((t.hs.take i).map aq++r::(t.hs.drop (i+1)).map cG) g o c))) (.own 8 ((t.hs.take 0).map aq++(t.hs.drop 0).map cG) g o c))) (.agg [sV [],iN 0,.sl true [],.sl true [],.sl true []])) ?_
 intro g1;intro g2;refine⟨rfl,rfl,by have:=ht.h;omega,rfl,fun g o c=>⟨rfl,I9 (Zbm (V.own 8 · g o c) OH),⟨⟨0,?_,rfl,rfl,Zah,aQ⟩,?_⟩⟩⟩;simp;rintro i h1;refine bI (fun j8=>?_) fun j8=>?_;refine⟨I9 (Zbm (V.own 8 · g o c) (KQ (d:=j6) Zac)),rfl,by(try simp only[Zay]at *);simp only[Zap,Zar,Zay,List.length_take,List.length_drop];omega,?_⟩;have M7:=ht.ha _ (aO (d:=j6) (show i<t.hs.length by omega));refine bN ⟨by first | (have:=M7.g;omega) | (have:=ht.s;omega),iQ ⟨by have:=M7.r;omega,iQ ⟨by have:=M7.t;omega,bN ⟨I9 (Zbm (V.own 8 · g o c) (MV (f:=aq) (d:=j6) Zac)),aM ⟨i+1,?_,?_,aQ⟩⟩⟩⟩⟩;omega;exact Zak;refine⟨I9 (Zbm (V.own 8 · g o c) (OL Zac)),rfl,rfl,by first | (have:=M7.g;omega) | (have:=ht.s;omega),rfl,rfl,rfl,by have:=ht.l;omega,bN ⟨rfl,?_⟩⟩;unfold Q qh;rfl)
def iy(y:l5):Bool:=decide (y.td≠[])
theorem Ce{y:l5}:s6 (((y.td.map an).length:Nat):Int) 0=iy y:=by
 unfold iy s6;cases h:y.td <;> simp
def s3(t:l6):Nat:=((gC t).map (·.1)).getD 0
def D0(t:l6):Int:=((gC t).map (·.2)).getD 0
theorem lu{t:l6}{i:Nat}(h:i<t.hs.length):z6 t (i+1)=ma t.b7 (z6 t i) (i,t.hs.getD i j6):=by
 unfold z6;rw[List.take_succ_eq_append_getElem Zbq,Zbb,List.foldl_append];simp[Zam,Zat h]
section
variable {n:BL} {b7 b q:Int} {zs:List l5} {se:List BL} {ls:List r4} {i:Nat}
theorem Am(h:i<zs.length)(h2:b=(z6 ⟨n,b7,zs,se,ls⟩ i).1)(h3:q=(z6 ⟨n,b7,zs,se,ls⟩ i).2)(c:iy (zs.getD i j6)=true/\(b<0\/max (zs.getD i j6).re b7<q)):z6 ⟨n,b7,zs,se,ls⟩ (i+1)=((i:Int),max (zs.getD i j6).re b7):=by
 rw[lu (t:=⟨n,b7,zs,se,ls⟩) h];unfold ma;rw[<- h2,<- h3,if_pos ⟨of_decide_eq_true c.1,c.2⟩]
theorem AP(h:i<zs.length)(h2:b=(z6 ⟨n,b7,zs,se,ls⟩ i).1)(h3:q=(z6 ⟨n,b7,zs,se,ls⟩ i).2)(c:iy (zs.getD i j6)=true->(0<=b/\q<=max (zs.getD i j6).re b7)):z6 ⟨n,b7,zs,se,ls⟩ (i+1)=z6 ⟨n,b7,zs,se,ls⟩ i:=by
 rw[lu (t:=⟨n,b7,zs,se,ls⟩) h];unfold ma;rw[<- h2,<- h3,if_neg (fun d=>?_)];have:=c (decide_eq_true d.1);have:=d.2;simp only at this;omega
theorem BD{t:l6}(h:(z6 t t.hs.length).1<0\/5000<(z6 t t.hs.length).2):gC t=none:=if_pos h
theorem BA{t:l6}(h:0<=(z6 t t.hs.length).1/\(z6 t t.hs.length).2<=5000):gC t=some ((z6 t t.hs.length).1.toNat,(z6 t t.hs.length).2):=if_neg Zac
end
def Gl(k:Int):aw:=.mk 175 [iV k] [] True (iV (cy k)) [] (by
 intro _
 refine au Tryz.func175
  (.l8 2<|.q 2<|.br (.q 1<|.nil) (.q 2<|.br (.q 1<|.nil) (.q 2<|.br (.q 1<|.nil) (.q 1<|.nil))))
  (Br (o6 k 1) (Q (iN 2) (iV (cy k))) (Br (o6 k 2) (Q (iN 4) (iV (cy k))) (Br (o6 k 3) (Q (iN 8) (iV (cy k))) (Q (iN 0) (iV (cy k)))))) ?_
 refine bI (fun j8=>?_) fun j8=>?_;rw[cy,if_pos j8];rfl;refine bI (fun l4=>?_) fun l4=>?_;rw[cy,if_neg j8,if_pos l4];rfl;refine bI (fun m8=>?_) fun m8=>?_;rw[cy,if_neg j8,if_neg l4,if_pos m8];rfl;rw[cy,if_neg j8,if_neg l4,if_neg m8];rfl)
abbrev xe(n:BL)(b7:Int)(zs:List l5)(se:List BL)(ls:List r4)(gt g o c gb ix:Nat):V:=.tup [iV (max (zs.getD ix j6).re b7),bV (iy (zs.getD ix j6))]
def JZ(n:BL)(b7:Int)(zs:List l5)(se:List BL)(ls:List r4)(gt g o c gb ix:Nat):aw:=.mk 61 [.ptr (.key 1000) [2,ix] g (o+ix*8),kp 1001 gb] [(1001,(gb,kp 1000 gt)),(1000,(gt,bm n b7 zs g o c se ls))] (ix<zs.length) (xe n b7 zs se ls gt g o c gb ix) [(1001,(gb,kp 1000 gt)),(1000,(gt,bm n b7 zs g o c se ls))] (by
 intro hi
 refine au Tryz.func61
  (.q 2<|.h (.s8 1000 (cd n b7 zs ix (zs.getD ix j6) ((zs.getD ix j6).td) g o c se ls))<|.Ra (.key 1000) [2,ix,5] g (o+(ix)*8+7) 2 (((zs.getD ix j6).td).map an) (fun gA Px cA=>(fun y1:l5=>(.h (.s8 1000 (ba n b7 zs ix y1 (y1.td) gA Px cA g o c se ls))<|.C6 16 [(3,n6 [1000] [8]),(4,n6 [1001] [9]),(7,n6 [1000] [12]),(12,n6 [1000] [17])]<|.l8 3<|.r 1 [iV (y1.re)]<|.n9<|.l8 2<|.n9<|.mm<|.l8 3<|.r 1 [.own 2 ((y1.td).map an) gA Px cA]<|.l8 4<|.h (.PN (.key 1000) [2,ix,5] g (o+(ix)*8+7) (.own 2 ((y1.td).map an) gA Px cA) (.ow 2 ((y1.td).map an)))<|.h (.s8 1000 (cd n b7 zs ix y1 (y1.td) g o c se ls))<|.h (.s8 1000 (bm n b7 zs g o c se ls))<|.nil:Sc Tryz.prog)) (zs.getD ix j6)))
  ((fun v1:l5=>(fun v2:List V=>(((bm n b7 zs g o c se ls:V)=cd n b7 zs ix v1 (v1.td) g o c se ls)/\(V.at gt 0 (cd n b7 zs ix v1 (v1.td) g o c se ls) [2,ix,5]=some (g,o+(ix)*8+7,.ow 2 v2))/\∀ gA Px cA:Nat,(fun v3:V=>(V.set (cd n b7 zs ix v1 (v1.td) g o c se ls) [2,ix,5] (.own 2 v2 gA Px cA)=ba n b7 zs ix v1 (v1.td) gA Px cA g o c se ls)/\True/\(V.at gt 0 v3 [2,ix,1]=some (g,(o+ix*8+1),iV (v1.re)))/\Z gb 0/\True/\Z gt 1/\(IntKind.i64=IntKind.i64)/\True/\(V.at gt 0 v3 [2,ix,5]=some (g,(o+ix*8+7),.own 2 v2 gA Px cA))/\(V.at gt 0 v3 [2,ix,5]=some (g,o+(ix)*8+7,.own 2 v2 gA Px cA))/\(V.set v3 [2,ix,5] (.ow 2 v2)=cd n b7 zs ix v1 (v1.td) g o c se ls)/\((cd n b7 zs ix v1 (v1.td) g o c se ls:V)=bm n b7 zs g o c se ls)/\Q (.tup [iV (max (v1.re) b7),bV (s6 ((v2.length:Nat):Int) 0)]) (xe n b7 zs se ls gt g o c gb ix)/\Er gb (kp 1000 gt)/\Er gt (bm n b7 zs g o c se ls)) (ba n b7 zs ix v1 (v1.td) gA Px cA g o c se ls))) ((v1.td).map an)) (zs.getD ix j6)) ?_
 refine⟨Zd5,aM fun gA Px cA=>bN (dU ⟨I9 (Zbm (V.own 8 · g o c) (gQ (f:=aq) (d:=j6) Zac).symm),⟨?_,aQ⟩⟩)⟩;unfold Q xe;rw[Ce])
abbrev nu(n:BL)(b7:Int)(zs:List l5)(se:List BL)(ls:List r4)(gt g o c gb:Nat):V:=.tup [iV (max (z6 (⟨n,b7,zs,se,ls⟩:l6) zs.length).1 0),iV ((z6 (⟨n,b7,zs,se,ls⟩:l6) zs.length).2),bV (A9 (z6 (⟨n,b7,zs,se,ls⟩:l6) zs.length).1 0)]
abbrev eO(n:BL)(b7:Int)(zs:List l5)(se:List BL)(ls:List r4)(gt g o c gb i:Nat)(b q:Int):Prop:=i<=zs.length/\b=(z6 (⟨n,b7,zs,se,ls⟩:l6) i).1/\q=(z6 (⟨n,b7,zs,se,ls⟩:l6) i).2
def qN(n:BL)(b7:Int)(zs:List l5)(se:List BL)(ls:List r4)(gt g o c gb:Nat):aw:=.mk 60 [.hd (.key 1000) [2] 8 g o 0 ((zs.map aq).length) c,.lit (.func (.func 61) #[] #[.pointer (some ⟨gb,0,none⟩)])] [(1001,(gb,kp 1000 gt)),(1000,(gt,bm n b7 zs g o c se ls))] (zs.length<=1000) (nu n b7 zs se ls gt g o c gb) [(1001,(gb,kp 1000 gt)),(1000,(gt,bm n b7 zs g o c se ls))] (by
 intro hl
 refine au Tryz.func60
  (.q 3<|.q 2<|.q 3<|.loop (Nat×Int×Int) (fun (i,b,q)=>⟨[(0,.hd (.key 1000) [2] 8 g o 0 ((zs.map aq).length) c),(1,.lit (.func (.func 61) #[] #[.pointer (some ⟨gb,0,none⟩)])),(7,iV b),(8,iV q),(13,iN zs.length),(14,iN i)],[(1001,(gb,kp 1000 gt)),(1000,(gt,bm n b7 zs g o c se ls))]⟩) (fun (i,b,q)=>eO n b7 zs se ls gt g o c gb i b q) (fun (i,b,q)=>zs.length-i) (fun (i,b,q)=>.q 1<|.br (.q 2<|.q 4<|.c (JZ n b7 zs se ls gt g o c gb i) [(1000,1000),(1001,1001)]<|.q 5<|.q 10<|.br (.q 4<|.q 2<|.nil) (.q 2<|.nil)) (.q 1<|.mm<|.q 6<|.nil)))
  ((fun (v2 v1:V)=>((∃ x:Nat×Int×Int,match x with | (j7,H7,w9)=>(eO n b7 zs se ls gt g o c gb j7 H7 w9)/\E (.hd (.key 1000) [2] 8 g o 0 ((zs.map aq).length) c)/\E v1/\Q (iV (-1)) (iV H7)/\Q (iN 0) (iV w9)/\Q (iN ((zs.map aq).length)) (iN zs.length)/\Q (iN 0) (iN j7)/\Er gb v2/\Er gt (bm n b7 zs g o c se ls)/\True)/\∀ x:Nat×Int×Int,match x with | (i,b,q)=>(eO n b7 zs se ls gt g o c gb i b q)->Br (r5 (i:Int) (zs.length:Int)) (In (i:Int) ((zs.map aq).length)/\(([.ptr (.key 1000) [2,i] g (o+(0+i)*8),kp 1001 gb]:List V)=[.ptr (.key 1000) [2,i] g (o+i*8),kp 1001 gb])/\Er gb v2/\Er gt (bm n b7 zs g o c se ls)/\((i<zs.length))/\Gd ((iy (zs.getD i j6))==true) (Pk (r5 b 0) true (((iy (zs.getD i j6))==true)&&((r5 b 0)==false)))/\Pk (iy (zs.getD i j6)) ((iy (zs.getD i j6))==true) true/\Br ((iy (zs.getD i j6))&&((r5 b 0)||(r5 (max (zs.getD i j6).re b7) q))) (m6 ((i:Int)+1)/\∃ x:Nat×Int×Int,match x with | (b9,x5,n7)=>(eO n b7 zs se ls gt g o c gb b9 x5 n7)/\(zs.length-b9<zs.length-i)/\E (.hd (.key 1000) [2] 8 g o 0 ((zs.map aq).length) c)/\E v1/\Q (iN i) (iV x5)/\Q (iV (max (zs.getD i j6).re b7)) (iV n7)/\E (iN zs.length)/\Q (iN (i+1)) (iN b9)/\Er gb v2/\Er gt (bm n b7 zs g o c se ls)/\True) (m6 ((i:Int)+1)/\∃ x:Nat×Int×Int,match x with | (b9,x5,n7)=>(eO n b7 zs se ls gt g o c gb b9 x5 n7)/\(zs.length-b9<zs.length-i)/\E (.hd (.key 1000) [2] 8 g o 0 ((zs.map aq).length) c)/\E v1/\Q (iV b) (iV x5)/\Q (iV q) (iV n7)/\E (iN zs.length)/\Q (iN (i+1)) (iN b9)/\Er gb v2/\Er gt (bm n b7 zs g o c se ls)/\True)) ((IntKind.i64=IntKind.i64)/\Q (.tup [iV (max b 0),iV q,bV (A9 b 0)]) (nu n b7 zs se ls gt g o c gb)/\Er gb v2/\Er gt (bm n b7 zs g o c se ls)))) (kp 1000 gt) (.lit (.func (.func 61) #[] #[.pointer (some ⟨gb,0,none⟩)]))) ?_
 refine⟨⟨(0, -1,0),?_,rfl,rfl,rfl,Zah,Zah,aQ⟩,?_⟩;unfold eO;exact⟨Zad,rfl,rfl⟩;rintro⟨i,b,q⟩ ⟨h1,h2,h3⟩;refine bI (fun j8=>?_) fun j8=>?_;refine aM ⟨Zd6,dN (bI (fun l4=>?_) fun l4=>?_)⟩;refine aM ⟨(i+1,(i:Int),max (zs.getD i j6).re b7),?_,?_,rfl,rfl,Zah,aQ⟩;unfold eO;first | exact⟨Zac,by rw[Am Zac h2 h3 l4],by rw[Am Zac h2 h3 l4]⟩ | exact⟨Zac,by rw[AP Zac h2 h3 l4];exact h2,by rw[AP Zac h2 h3 l4];exact h3⟩
 exact Zak;refine aM ⟨(i+1,b,q),?_,?_,aQ⟩;unfold eO;first | exact⟨Zac,by rw[Am Zac h2 h3 l4],by rw[Am Zac h2 h3 l4]⟩ | exact⟨Zac,by rw[AP Zac h2 h3 l4];exact h2,by rw[AP Zac h2 h3 l4];exact h3⟩
 exact Zak;refine⟨rfl,⟨?_,aQ⟩⟩;unfold Q nu;obtain rfl:i=zs.length:=Zac;rw[h2,h3])
abbrev rL(n:BL)(b7:Int)(zs:List l5)(se:List BL)(ls:List r4)(gt:Nat):V:=.tup [iN (s3 (⟨n,b7,zs,se,ls⟩:l6)),iV (D0 (⟨n,b7,zs,se,ls⟩:l6)),bV ((gC (⟨n,b7,zs,se,ls⟩:l6)).isSome)]
def vl(n:BL)(b7:Int)(zs:List l5)(se:List BL)(ls:List r4)(gt:Nat):aw:=.mk 26 [kp 1000 gt] [(1000,(gt,bR n b7 zs se ls))] (zs.length<=1000) (rL n b7 zs se ls gt) [(1000,(gt,bR n b7 zs se ls))] (by
 intro hl
 refine au Tryz.func26
  (.oR (.key 1000) [2] (fun g o c=>.bx (fun g1=>.q 3<|.r 4 [.c9,.c9]<|.cu U4 (fun _=>.c (qN n b7 zs se ls gt g o c g1) [(1001,1),(1000,1000)]<|.q 7<|.q 6<|.br (.q 3<|.nil) (.q 5<|.nil)))))
  ((fun v1:l6=>(fun v2:Bool=>(∀ g o c:Nat,∀ g1:Nat,Z g1 0/\True/\Z gt 2/\((Value.func (.func 61) #[] #[.pointer (some ⟨g1,0,none⟩)]).oneCell'=true)/\∀ _:Unit,(qN n b7 zs se ls gt g o c g1).sm/\Er g1 (kp 1000 gt)/\Er gt (bm n b7 zs g o c se ls)/\((zs.length<=1000))/\Pk v2 true (v2==false)/\Br (v2||(s6 ((z6 v1 zs.length).2) 5000)) (Q (.tup [iN 0,iN 0,bV false]) (rL n b7 zs se ls gt)/\Er gt (bR n b7 zs se ls)) (Q (.tup [iV (max (z6 v1 zs.length).1 0),iV ((z6 v1 zs.length).2),bV true]) (rL n b7 zs se ls gt)/\Er gt (bR n b7 zs se ls)))) (!(A9 (z6 v1 zs.length).1 0))) (⟨n,b7,zs,se,ls⟩:l6)) ?_
 intro g o c;intro g1;refine cq fun _=>⟨rfl,rfl,rfl,hl,aM (bI (fun j8=>?_) fun j8=>?_)⟩;refine⟨?_,rfl⟩;unfold Q rL;rw[s3,D0,BD (t:=⟨n,b7,zs,se,ls⟩) j8];rfl;refine⟨?_,rfl⟩;unfold Q rL;rw[s3,D0,BA (t:=⟨n,b7,zs,se,ls⟩) j8];rw[show max (z6 ⟨n,b7,zs,se,ls⟩ zs.length).1 0=((z6 ⟨n,b7,zs,se,ls⟩ zs.length).1.toNat:Int) from Zac];rfl)
abbrev su(p0:BL)(p1:Int)(p2:List l5)(p3 p4 p5:Nat)(p6:List BL)(p7:List r4)(p8 p9 J':Nat):V:=.agg [sV p0,iV p1,.own 8 (p2.map aq) p3 p4 p5,.ow 1 (p6.map sV),.own 3 (p7.map aT) p8 p9 J']
abbrev Jc(p0:BL)(p1:Int)(p2:List l5)(p3:Nat)(p4:BL)(p5:Int)(p6:Bool)(p7:List BL)(p8:List r9)(p9:Nat)(J':Int)(I6:List s7)(H3 H2 G':Nat)(G9:List BL)(J9:List r4)(O7 P3 Qt:Nat):V:=.agg [sV p0,iV p1,.own 8 ((p2.take p3).map aq++(.agg [sV p4,iV p5,bV p6,.agg [.sl false (p7.map sV),.sl false (p8.map av),iN p9],iV J',.ow 2 (I6.map an)]:V)::(p2.drop (p3+1)).map aq) H3 H2 G',.ow 1 (G9.map sV),.own 3 (J9.map aT) O7 P3 Qt]
abbrev uA(p0:BL)(p1:Int)(p2:List l5)(p3:Nat)(y4:l5)(I6:List s7)(H3 H2 G':Nat)(G9:List BL)(J9:List r4)(O7 P3 Qt:Nat):V:=Jc p0 p1 p2 p3 y4.na y4.re y4.kn y4.gr.na y4.gr.ru y4.gr.wa y4.tr I6 H3 H2 G' G9 J9 O7 P3 Qt
abbrev jW(p0:BL)(p1:Int)(p2:List l5)(p3:Nat)(p4:BL)(p5:Int)(p6:Bool)(y7:l9)(J':Int)(I6:List s7)(H3 H2 G':Nat)(G9:List BL)(J9:List r4)(O7 P3 Qt:Nat):V:=Jc p0 p1 p2 p3 p4 p5 p6 y7.na y7.ru y7.wa J' I6 H3 H2 G' G9 J9 O7 P3 Qt
theorem qy(k:Int):0<=cy k/\cy k<=8:=by unfold cy;split <;> (try split) <;> (try split) <;> omega
theorem JE{y:l5}{b7 k m:Int}(h:k=3):fU y b7 k m={ y with re:=b7+max (y.gr.wa:Int) 1+cy (m+1) }:=by unfold fU;rw[if_pos h]
theorem Bv{y:l5}{b7 k m:Int}(h: ¬ k=3):fU y b7 k m={ y with re:=b7+max (y.gr.wa:Int) 1 }:=by unfold fU;rw[if_neg h,Int.add_zero]
def tc(w:List Pg)(t:l6):fZ:=.mk (Nat×Nat) 20 [bb w,aE t] [] ((w.length<=30)/\(∀ i,r6 (w.getD i r8))/\(x3 t)/\(aF w=true)/\(aH t=true)) (fun x=>True) (fun x=>.tup [.ptr (.key 1001) [] x.1 0,bV true]) (fun x=>[(1001,(x.1,.agg [.mp (w.map I4),.ptr (.key 1000) [] x.2 0])),(1000,(x.2,dh t))]) (by
 rintro⟨hw,hz,ht,hk,Qk⟩
 refine uI (N:=26) (rs:=[.tmp 4,.tmp 5]) (X:=Nat×Nat) (post:=fun x=>True) (E:=fun x=>.tup [.ptr (.key 1001) [] x.1 0,bV true]) (H':=fun x=>[(1001,(x.1,.agg [.mp (w.map I4),.ptr (.key 1000) [] x.2 0])),(1000,(x.2,.agg [sV t.na,iV t.b7,.ow 8 (t.hs.map aq),.ow 1 (t.se.map sV),.ow 3 (t.lk.map aT)]))]) Tryz.func20 Zae rfl rfl rfl Zae [(1001,(0,.c9)),(1000,(0,.c9))] (by intro _ k hk;simp only[lk]at hk ⊢;repeat (split at hk <;> simp_all))
  (.bx (fun g3=>.q 2<|.q 1<|.c (jZ w) []<|.q 5<|.r 4 [.c9]<|.cg (je t)<|.q 2<|.br (.nil) (.n9<|.c (vo t) []<|.al fq (fun g8=>.st none<|.q 1<|.bd OJ<|.bx (fun S4=>.q 2<|.h (.rk 25 1001)<|.h (.rk 8 1000)<|.nil)))))
  (∀ g3:Nat,(jZ w).sm/\((w.length<=30)/\(∀ i,r6 (w.getD i r8))/\(aF w=true))/\Gd ((!true)==false) (Z g3 0)/\Gd ((!true)==false) (((x3 t))/\(je t).sm)/\Pk (!true) true ((!true)==false)/\Br ((!true)||(!(aH t))) (False) (Z g3 0/\(vo t).sm/\((x3 t))/\∀ g8:Nat,Z g8 0/\∀ S4:Nat,∃ x:Nat×Nat,(True)/\Q (.tup [kp 1001 S4,bV true]) (.tup [.ptr (.key 1001) [] x.1 0,bV true])/\Qr S4 (.agg [.mp (w.map I4),kp 1000 g8]) x.1 (.agg [.mp (w.map I4),.ptr (.key 1000) [] x.2 0])/\Qr g8 (dh t) x.2 (dh t)))
  Zae ?_
 intro g3;refine⟨rfl,⟨hw,hz,hk⟩,aM ⟨fun hG=>⟨ht,rfl⟩,aM (bI (fun j8=>?_) fun j8=>?_)⟩⟩
 · all_goals simp_all
 · refine⟨rfl,rfl,ht,fun g8=>⟨rfl,fun S4=>⟨(S4,g8),?_,?_,?_⟩⟩⟩
   · try dsimp only
     all_goals trivial
   exact Zaa;first | rfl | exact⟨rfl,rfl⟩ | simp_all)
def qM(w:List Pg)(t:l6):aw:=.mk 20 [bb w,aE t] [] ((w.length<=30)/\(∀ i,r6 (w.getD i r8))/\(x3 t)/\((aF w&&aH t)=false)) (.tup [.c9,bV false]) [] (by
 rintro⟨hw,hz,ht,hk⟩
 refine au Tryz.func20
  (.bx (fun g3=>.q 2<|.q 1<|.sp (aF w) (.c (jZ w) []<|.q 5<|.r 4 [.c9]<|.cg (je t)<|.q 2<|.br (.q 2<|.nil) (.nil)) (.c (mw w) []<|.q 5<|.r 4 [.c9]<|.cg (je t)<|.q 2<|.br (.q 2<|.nil) (.nil))))
  ((fun v1:V=>(∀ g3:Nat,((aF w)=true->(jZ w).sm/\((w.length<=30)/\(∀ i,r6 (w.getD i r8))/\(aF w=true))/\Gd ((!true)==false) (Z g3 0)/\Gd ((!true)==false) (((x3 t))/\(je t).sm)/\Pk (!true) true ((!true)==false)/\Br ((!true)||(!(aH t))) (Q v1 v1) (False))/\((aF w)=false->(mw w).sm/\((w.length<=30)/\(∀ i,r6 (w.getD i r8))/\(aF w=false))/\Gd ((!false)==false) (Z g3 0)/\Gd ((!false)==false) (((x3 t))/\(je t).sm)/\Pk (!false) true ((!false)==false)/\Br ((!false)||(!(aH t))) (Q v1 v1) (False)))) (.tup [.c9,bV false])) ?_
 intro g3;refine⟨fun K3=>?_,fun K3=>?_⟩
 · have QJ:=K3;try simp only[nb]at QJ
   refine⟨rfl,⟨hw,hz,K3⟩,aM ⟨fun hG=>⟨ht,rfl⟩,aM (bI (fun j8=>?_) fun j8=>?_)⟩⟩;rfl
   · all_goals simp_all
 · have QJ:=K3;try simp only[nb]at QJ
   refine⟨rfl,⟨hw,hz,K3⟩,aM ⟨fun hG=>⟨ht,rfl⟩,aM (bI (fun l4=>?_) fun l4=>?_)⟩⟩;rfl
   · all_goals simp_all)
def zT(n:BL)(b7:Int)(zs:List l5)(se:List BL)(ls:List r4)(gt g o c gw ix:Nat)(w:List Pg)(a:BL)(k:Int)(y:l5):aw:=.mk 138 [kp 1001 gw,.ptr (.key 1000) [2,ix] g (o+ix*8),sV a,iV k] [(1001,(gw,.agg [.mp (w.map I4),kp 1000 gt])),(1000,(gt,bm n b7 zs g o c se ls))] ((ix<zs.length)/\(ls.length<=1000)/\(0<=k/\k<=1000)/\(0<=b7/\b7<=100000)/\(zs.getD ix j6=y)/\(y.gr.wa<=1000)) (.tup [iV ((ai w a k).1),sV ((ai w a k).2)]) [(1001,(gw,.agg [.mp (w.map I4),kp 1000 gt])),(1000,(gt,bm n b7 (zs.set ix (fU y b7 (ai w a k).1 k)) g o c se (ls++[(⟨b7,a,(ai w a k).1⟩:r4)])))] (by
 rintro⟨hi,hl,hk,hn,ZW,hy⟩
 refine au Tryz.func138
  (.oR (.key 1000) [4] (fun gl PG cl=>(fun (y2:Int) (y1:r4)=>(.q 2<|.r 5 [.c9]<|.r 6 [.c9]<|.c (sC w a k) []<|.q 5<|.C6 14 [(4,n6 [1000] [31]),(8,n6 [1000] [35]),(13,⟨true,[],none,[40],[1000]⟩)]<|.l8 4<|.n9<|.l8 3<|.n9<|.l8 2<|.bd xl<|.bs<|.ux none (fun H6 H4 K8=>.h (.m9 40 (.own 3 ((ls++[y1]).map aT) H6 H4 K8))<|.q 2<|.st none<|.h (.s8 1000 (uA n b7 zs ix y (y.td) g o c se (ls++[y1]) H6 H4 K8))<|.C6 12 [(4,n6 [1000] [47]),(9,n6 [1000] [52])]<|.l8 4<|.n9<|.l8 4<|.r 1 [iN (y.gr.wa)]<|.mm<|.q 1<|.q 2<|.st (some (iV (y.re)))<|.h (.s8 1000 (jW n b7 zs ix (y.na) (b7+(max y2 1)) (y.kn) y.gr (y.tr) (y.td) g o c se (ls++[y1]) H6 H4 K8))<|.q 2<|.br (.C6 7 [(3,n6 [1000] [62])]<|.l8 3<|.r 1 [iV (b7+(max y2 1))]<|.l8 2<|.c (Gl (k+1)) []<|.q 3<|.st (some (iV (b7+(max y2 1))))<|.h (.s8 1000 (jW n b7 zs ix (y.na) ((b7+(max y2 1))+(cy (k+1))) (y.kn) y.gr (y.tr) (y.td) g o c se (ls++[y1]) H6 H4 K8))<|.q 4<|.h (.s8 1000 (su n b7 (zs.set ix ({ y with re:=(b7+(max y2 1))+(cy (k+1)) }:l5)) g o c se (ls++[y1]) H6 H4 K8))<|.nil) (.q 4<|.h (.s8 1000 (su n b7 (zs.set ix ({ y with re:=b7+(max y2 1) }:l5)) g o c se (ls++[y1]) H6 H4 K8))<|.nil)):Sc Tryz.prog)) ((y.gr.wa:Nat):Int) (⟨b7,a,(ai w a k).1⟩:r4)))
  ((fun (v2:Int) (v1:r4)=>(fun (v7 v5 v3:V) (v6:l5) (v4:List V)=>(∀ gl PG cl:Nat,True/\Z gw 1/\True/\Z gw 0/\(sC w a k).sm/\((0<=k)/\(k<=1000))/\True/\Z gt 4/\True/\Z gt 1/\(((3,3,gl,PG,cl,(ls.map aT).length)=(3,3,gl,PG,cl,(ls.map aT).length))/\(V.ax v4=false)/\(aR 3 v4)/\(((ls.map aT).length+v4.length)*32<=140737488355328))/\∀ H6 H4 K8:Nat,(fun v8:V=>(fun (v10:Prop) (v9:V)=>((.own 3 ((ls.map aT)++v4) H6 H4 K8:V)=.own 3 ((ls++[v1]).map aT) H6 H4 K8)/\True/\Z gt 4/\((su n b7 zs g o c se (ls++[v1]) H6 H4 K8:V)=uA n b7 zs ix y (y.td) g o c se (ls++[v1]) H6 H4 K8)/\True/\Z gt 1/\True/\(V.at gt 0 v9 [2,ix,3,2]=some (g,(o+ix*8+3+2),iN (y.gr.wa)))/\(IntKind.i64=IntKind.i64)/\m6 (b7+(max v2 1))/\True/\(V.at gt 0 v9 [2,ix,1]=some (g,(o+ix*8+1),iV (y.re)))/\(V.set v9 [2,ix,1] (iV (b7+(max v2 1)))=jW n b7 zs ix (y.na) (b7+(max v2 1)) (y.kn) y.gr (y.tr) (y.td) g o c se (ls++[v1]) H6 H4 K8)/\Br (o6 ((ai w a k).1) 3) (True/\v10/\m6 (k+1)/\(Gl (k+1)).sm/\(True)/\m6 ((b7+(max v2 1))+(cy (k+1)))/\True/\v10/\(V.set v8 [2,ix,1] (iV ((b7+(max v2 1))+(cy (k+1))))=jW n b7 zs ix (y.na) ((b7+(max v2 1))+(cy (k+1))) (y.kn) y.gr (y.tr) (y.td) g o c se (ls++[v1]) H6 H4 K8)/\((jW n b7 zs ix (y.na) ((b7+(max v2 1))+(cy (k+1))) (y.kn) y.gr (y.tr) (y.td) g o c se (ls++[v1]) H6 H4 K8:V)=su n b7 (zs.set ix v6) g o c se (ls++[v1]) H6 H4 K8)/\Q v3 v3/\Er gw v7/\Qr gt (bm n b7 (zs.set ix v6) g o c se (ls++[v1])) gt v5) (((jW n b7 zs ix (y.na) (b7+(max v2 1)) (y.kn) y.gr (y.tr) (y.td) g o c se (ls++[v1]) H6 H4 K8:V)=su n b7 (zs.set ix ({ y with re:=b7+(max v2 1) }:l5)) g o c se (ls++[v1]) H6 H4 K8)/\Q v3 v3/\Er gw v7/\Qr gt (bm n b7 (zs.set ix ({ y with re:=b7+(max v2 1) }:l5)) g o c se (ls++[v1])) gt v5)) (V.at gt 0 v8 [2,ix,1]=some (g,(o+ix*8+1),iV (b7+(max v2 1)))) (uA n b7 zs ix y (y.td) g o c se (ls++[v1]) H6 H4 K8)) (jW n b7 zs ix (y.na) (b7+(max v2 1)) (y.kn) y.gr (y.tr) (y.td) g o c se (ls++[v1]) H6 H4 K8))) (.agg [.mp (w.map I4),kp 1000 gt]) (bm n b7 (zs.set ix (fU y b7 (ai w a k).1 k)) g o c se (ls++[v1])) (.tup [iV ((ai w a k).1),sV ((ai w a k).2)]) ({ y with re:=(b7+(max v2 1))+(cy (k+1)) }:l5) ([fI b7 a ((ai w a k).1)]:List V)) ((y.gr.wa:Nat):Int) (⟨b7,a,(ai w a k).1⟩:r4)) ?_
 subst ZW;intro gl PG cl;refine dN ⟨⟨hk.1,hk.2⟩,cq ⟨bN Zal,fun H6 H4 K8=>⟨Zbm (V.own 3 · H6 H4 K8) Zad,trivial,rfl,Zd5,aM (dU (bI (fun j8=>?_) fun j8=>?_))⟩⟩⟩;refine dN ⟨by have:=qy (k+1);omega,bN ⟨I9 (Zbm (V.own 8 · g o c) (eA (f:=aq) (x:=({ (zs.getD ix j6) with re:=(b7+(max (((zs.getD ix j6).gr.wa:Nat):Int) 1))+(cy (k+1)) }:l5)) Zac)),⟨?_,rfl,by rw[JE j8]⟩⟩⟩;rfl;refine⟨I9 (Zbm (V.own 8 · g o c) (eA (f:=aq) (x:=({ (zs.getD ix j6) with re:=b7+(max (((zs.getD ix j6).gr.wa:Nat):Int) 1) }:l5)) Zac)),⟨?_,rfl,by rw[Bv j8]⟩⟩;rfl)
section
variable {P:Program} {w w':World} {Pb Kb:Nat->Prop} {N:Nat} {A:AS} {a:Act} {F:m4->List Nat}
theorem set_set:∀ (p:List Nat) (v x y:V),(v.set p x).set p y=v.set p y
 | [],_,_,_=>rfl
 | j::p,v,x,y=>by
   cases v with
   | agg vs=>
     simp only[V.set];cases h:vs[j]? with
     | none=>simp only[h]
     | some u=>
       have hj:=(Za3.1 h).1;simp only[List.getElem?_set_self hj,List.set_set,set_set p u x y]
   | own sz xs g o c=>
     simp only[V.set];cases h:xs[j]? with
     | none=>simp only[h]
     | some u=>
       have hj:=(Za3.1 h).1;simp only[List.getElem?_set_self hj,List.set_set,set_set p u x y]
   | _=>rfl
theorem vc:∀ (p:List Nat) {v u x:V} {g o g' o':Nat},V.at g o v p=some (g',o',u)->V.at g o (v.set p x) p=some (g',o',x)
 | [],v,u,x,g,o,g',o',h=>by
   simp only[V.at,Zan,Zaq]at h ⊢;exact⟨h.1,h.2.1,rfl⟩
 | j::p,v,u,x,g,o,g',o',h=>by
   simp only[V.at]at h;split at h;rename_i vs;split at h;rename_i y hy;have hj:=(Za3.1 hy).1;simp only[V.set,hy,V.at,List.getElem?_set_self hj];rw[List.take_set_of_le (Zbc _)];exact vc p h;simp at h;rename_i sz xs g1 o1 c1;split at h;rename_i y hy;have hj:=(Za3.1 hy).1;simp only[V.set,hy,V.at,List.getElem?_set_self hj];exact vc p h;simp at h;simp at h
theorem nI:∀ (xs ys:List V) {cs:List Value},RL w Pb (xs++ys) cs []->RL w Pb xs (cs.take (V.ns xs)) []/\RL w Pb ys (cs.drop (V.ns xs)) []
 | [],ys,cs,h=>⟨⟨by simp[V.ns],rfl⟩,by simpa[V.ns] using h⟩
 | x::xs,ys,cs,h=>by
   obtain⟨c1,c2,F1,F2,rfl,hF,h1,h2⟩:=h;obtain⟨rfl,rfl⟩:=List.append_eq_nil_iff.1 hF.symm;obtain⟨k1,k2⟩:=nI xs ys h2;have hl:=eH x h1;have e:V.ns (x::xs)=c1.length+V.ns xs:=by simp only[V.ns];omega
   rw[e,List.take_length_add_append,List.drop_length_add_append];exact⟨⟨c1,_,[],[],rfl,rfl,h1,k1⟩,k2⟩
theorem C9.same{g o:Nat}{cs:List Value}{cells:Array Value}(hb:Blk w g cells)(h:∀ j u,cs[j]? =some u->cells[o+j]? =some u):C9 w w g o cs where
 os:=rfl
 tape:=rfl
 output:=rfl
 size:=rfl
 P7:=fun _ _=>rfl
 shape:=Shp.refl _
 Q0:=fun o4 L2=>by
  obtain⟨e,fr,h1,h2⟩:=hb;obtain⟨e',ZA,UT,Zx⟩:=L2;rw[h1]at UT;simp only[Zan,Obj.cells.injEq]at UT;obtain⟨rfl,_,_⟩:=UT;exact⟨cells,⟨e',ZA,by rw[h1];simp_all,Zx⟩,rfl,fun _ _=>rfl,h⟩
theorem w3.BR(hs:w3 N Pb Kb A a w F) {k g1 o1 sz g o c lo:Nat} {p:List Nat} {xs xs':List V} {new:List Value} (A8:A.at (.key k) p=some (g1,o1,.own sz xs g o c)) (hc:0<c) (L5:V.ax xs=false)
 (hlo:lo+new.length<=xs.length*sz) (hlen:xs'.length=xs.length) (hN:aR sz xs') (h1:∀ v,v∈new->v.oneCell'=true)
 (Ru:∀ flat,RL w Pb xs flat []->RL w Pb xs' (flat.take lo++new++flat.drop (lo+new.length)) []):
 ∃ w' F',(storeCells ⟨g,o+lo,none⟩ new 0).run P w=.ok () w'/\w3 N Pb Kb (A.setAt (.key k) p (.own sz xs' g o c)) a w' F'/\A4 Kb w w':=by
 obtain⟨Fr,Fu,PA,⟨cs,cells,hb,N7,u0⟩,hnd,w8,hfr⟩:=hs.split A8;rcases N7 with ⟨h0,_⟩ | ⟨UT,hsz,hle,hcs,hN0,Xm,flat,F',RA,XW,hr,l4,WW,Un⟩;omega;have hF0:=gi xs L5 hr;subst hF0;subst XW;have hfl:flat.length=xs.length*sz:=by rw[jj _ hr,pa _ hN0]
 have Vh:xs.length*sz<=c*sz:=Nat.mul_le_mul_right _ hle;obtain⟨w',B6,B5⟩:=gV (P:=P) (g:=g) (o:=o+lo) new 0 w RA l4 Zac h1;rw[Nat.add_zero]at B5;have hg:=hfr g Zad;have M4:w3 N Pb Kb (A.setAt (.key k) p .c9) a w' (ck F (.key k) Fr):=PA.P7 (fun r=>w8 r g Zad) hg.1 B5.P7 B5.size;have Zm:∀ x,Pb x->w'.heap[x]? =w.heap[x]? :=fun x hx=>B5.P7 x (by rintro rfl;exact Xm hx);obtain⟨o4,L2,hsize,Qx,Ub⟩:=B5.Q0 RA l4;have hnl:=Ru flat hr;have hR:R w' Pb (.own sz xs' g o c) cs [g]:=by
  refine .inr ⟨UT,hsz,Zac,by rw[hlen];exact hcs,hN,Xm,_,[],o4,rfl,eF xs' hnl Zm Zad (fun _ h=>h) Zad,L2,Zac,fun j u hu=>?_⟩;by_cases j1:j<lo;rw[List.append_assoc,Za9 Zal,List.getElem?_take_of_lt j1]at hu;rw[Qx _ (.inl Zac)];exact Un j u hu;by_cases j2:j<lo+new.length;rw[List.append_assoc,Za4 Zal,Za9 Zal]at hu;have:=Ub _ _ hu;have e:(flat.take lo).length=lo:=by rw[List.length_take];omega
  rw[e,show o+lo+(j-lo)=o+j from Zac]at this;exact this;have e:(flat.take lo++new).length=lo+new.length:=by rw[Zap,List.length_take];omega
  rw[Za4 Zac,e,List.getElem?_drop,show lo+new.length+(j-(lo+new.length))=j from Zac]at hu;rw[Qx _ (.inr Zac)];exact Un j u hu
 have Vi:(A.setAt (.key k) p .c9).at (.key k) p=some (g1,o1,.c9):=by
  simp only[AS.at]at A8;split at A8;rename_i g0 t hk;simp only[AS.setAt,hk,AS.at,lk,if_true];exact vc p A8;simp at A8
 have UQ:g1≠g:=by
  have hh:=Vi;simp only[AS.at]at hh;split at hh;rename_i g0 t hk;obtain⟨PX,e,hA⟩:=PA.root k g0 t hk;have hin:g1∈ck F (.key k) Fr (.key k):=by
   rw[e];rcases iA p hA hh with ⟨h,_⟩ | h;rw[h];simp;simp[h]
  rintro rfl;exact w8 (.key k) g1 Zad hin;simp at hh
 have hst2:C9 w' w' g1 o1 cs:=by
  obtain⟨e,fr,YU,hf⟩:=hb;exact C9.same (cells:=cells) ⟨e,fr,(B5.P7 g1 UQ).trans YU,hf⟩ u0
 obtain⟨F3,Pz,_⟩:=M4.store Vi hR (by rfl) hnd (fun r x hx=>w8 r x hx) (fun x hx=>by rw[B5.size];exact hfr x hx) hst2;refine⟨w',F3,B6,Pz.eqv ⟨fun i=>?_,fun q=>?_⟩,⟨B5.os,B5.tape,B5.output,by rw[B5.size];omega,fun x hx=>B5.P7 x (by rintro rfl;exact hg.1 hx),B5.shape⟩⟩;simp only[AS.at]at A8;split at A8;rename_i g0 t hk;simp only[AS.setAt,hk,lk,if_true];rfl;simp at A8;simp only[AS.at]at A8;split at A8;rename_i g0 t hk;simp only[AS.setAt,hk,lk,if_true,set_set];split <;> rfl;simp at A8
theorem Jv{zc:Array Value}(h:0<zc.size)(n:Nat):(Builtin.zeroCells zc (n+1)).toList=zc.toList++(Builtin.zeroCells zc n).toList:=by
 apply List.ext_getElem;simp[Builtin.zeroCells,Nat.add_mul];omega;intro i h1 h2;by_cases hi:i<zc.size;rw[List.getElem_append_left Zbn];simp[Builtin.zeroCells,Nat.mod_eq_of_lt hi,hi];rw[List.getElem_append_right Zbn];simp only[Builtin.zeroCells,Array.getElem_toList,Array.getElem_map,Array.getElem_range,Array.length_toList];rw[Nat.mod_eq_sub_mod Zac]
theorem Dj{v:V}{zc:Array Value}(h:0<zc.size)(hr:R w Pb v zc.toList []):∀ n,RL w Pb (List.replicate n v) (Builtin.zeroCells zc n).toList []
 | 0=>⟨by simp[Builtin.zeroCells],rfl⟩
 | n+1=>by
   rw[Jv h,List.replicate_succ];exact⟨_,_,[],[],rfl,rfl,hr,Dj h hr n⟩
theorem Fh{zc:Array Value}(n:Nat):(Builtin.zeroCells zc n).toList.length=n*zc.size:=by simp[Builtin.zeroCells]
theorem MD{v:V}{zc:Array Value}(h:0<zc.size)(hr:R w Pb v zc.toList [])(n:Nat):∀ x,x∈(Builtin.zeroCells zc n).toList->x.oneCell'=true:=qP _ (Dj h hr n)
theorem vd:∀ (xs:List V) (k:Nat),V.ax xs=false->V.ax (xs.take k)=false
 | xs,0,h=>by simp[V.ax]
 | [],k+1,h=>by simpa using h
 | v::vs,k+1,h=>by
   simp only[V.ax,Bool.or_eq_false_iff]at h;simp only[List.take_succ_cons,V.ax,Bool.or_eq_false_iff];exact⟨h.1,vd vs k h.2⟩
def clC(k:Nat)(p:List Nat)(lo n sz:Nat)(xs:List V)(g q c g1 o1:Nat)(z:ZT P):Cu P where
 X:=Unit
 pre _ o A:=match o.op,o.dst with
  | .call ⟨.builtin .clear,⟨[x]⟩,⟨[T]⟩⟩,none=>match tD P T,A.ev x with
    | some (.sl e),.hd r p' M0 g' o' PH n' _=>((e,r,p',M0,g',o',PH,n')=(z.T,m4.key k,p,sz,g,q,lo,n))/\A.at (.key k) p=some (g1,o1,.own sz xs g q c)/\lo+n<=xs.length/\V.ax xs=false/\aR sz xs/\z.v.n=sz
    | _,_=>False
  | _,_=>False
 post _ _ A:=A.setAt (.key k) p (.own sz (xs.take lo++List.replicate n z.v++xs.drop (lo+n)) g q c)
 ok:=by
  rintro N ⟨dst,op,ty,pos,after,D8⟩ A K-hp hK;replace hK:=hK ();simp only at hp;split at hp;rename_i x T;split at hp;rename_i e r p' M0 g' o' PH n' c' e1 e2;obtain⟨h1,A8,hlo,L5,hN,Yp⟩:=hp;simp only[Zaq]at h1;obtain⟨rfl,rfl,rfl,rfl,rfl,rfl,rfl,rfl⟩:=h1;intro Pb Kb a w F Q hs;obtain⟨_,hx⟩:=dS hs x;rw[e2]at hx;obtain⟨_,hle,B,hv,hB⟩:=hx;have hv:a.eval x=.slice B n' c':=(List.cons.inj hv).1;have hu:=iW e1;unfold Oper.wp;by_cases hn:n'=0;subst hn;have B6:(execOp a.eval ⟨none,.call ⟨.builtin .clear,⟨[x]⟩,⟨[T]⟩⟩,ty,pos,after,D8⟩).run P w=.ok (.value (.tuple #[])) w:=by
   cases B <;> simp[execOp,resolve,Deferred.ofValue,invoke,builtin,Builtin.clear_,hv,aK hu]
  rw[B6,Oper.upon_value];obtain⟨cu,Fu,q1,q2⟩:=hs.sA A8;have:=q2 _ rfl q1;have t2:w3 N Pb Kb (A.setAt (.key k) p' (.own M0 (xs.take PH++List.replicate 0 z.v++xs.drop (PH+0)) g' o' c)) a w F:=by simpa using this
  exact⟨_,Pb,Kb,F,hK,t2,fun _ h=>h,fun _ h=>h,fun _ h=>.inl h,A4.refl _ _⟩;obtain rfl:=hB Zac;obtain⟨inf,zv,z1,z2,z3⟩:=z.ok;have XL:R w Pb z.v zv.cells.toList []:=rK z.v z3;have WN:zv.cells.size=z.v.n:=by have:=eH _ XL;simpa using this
  obtain⟨Fr,Fu,_,⟨cs,cells,_,N7,_⟩,_⟩:=hs.split A8;have hc:0<c/\0<z.v.n:=by
   rcases N7 with ⟨_,rfl,_⟩ | ⟨h,h2,_⟩;simp at hlo;omega;exact⟨h,by rw[Yp];exact h2⟩
  have j6:0<zv.cells.size:=by rw[WN];exact hc.2
  have Ua:n'*zv.cells.size=n'*M0:=by rw[WN,Yp]
  have hbd:PH*M0+n'*M0<=xs.length*M0:=by rw[<- Nat.add_mul];exact Nat.mul_le_mul_right _ hlo
  obtain⟨w',F',B6,B0,hk⟩:=hs.BR (P:=P) (lo:=PH*M0) (xs':=xs.take PH++List.replicate n' z.v++xs.drop (PH+n')) (new:=(Builtin.zeroCells zv.cells n').toList) A8 hc.1 L5 (by rw[Fh,Ua];exact hbd)
   Zal (fun v hv=>by
    rcases Zax.1 hv with h | h;rcases Zax.1 h with h | h;exact hN v (List.mem_of_mem_take h);rw[(List.mem_replicate.1 h).2,Yp];exact hN v (List.mem_of_mem_drop h)) (MD j6 XL n') (fun flat hf=>by
    have k1:=(nI (xs.take PH) (xs.drop PH) (cs:=flat) Zd7).1;have k2:=(nI (xs.take (PH+n')) (xs.drop (PH+n')) (cs:=flat) Zd7).2;rw[ef xs PH hN Zac]at k1;rw[ef xs _ hN hlo,Nat.add_mul]at k2;rw[Fh,Ua];exact jm _ _ (jm _ _ k1 (Dj j6 XL n')) k2)
  have R3:(execOp a.eval ⟨none,.call ⟨.builtin .clear,⟨[x]⟩,⟨[T]⟩⟩,ty,pos,after,D8⟩).run P w=.ok (.value (.tuple #[])) w':=by
   have hcl:(Builtin.clear_ #[T] ty #[a.eval x]).run P w=.ok (.tuple #[]) w':=by
    rw[hv];unfold Builtin.clear_;simp only[List.getElem?_toArray,List.getElem?_cons_zero,Za0,aK hu,Zas];obtain⟨m,rfl⟩:∃ m,n'=m+1:=⟨n'-1,Zac⟩;simp only[Za0,zeroValue,typeInfo,Zas];simp[z1,z2,B6]
   simp[execOp,resolve,Deferred.ofValue,invoke,builtin,hcl]
  rw[R3,Oper.upon_value];exact⟨_,Pb,Kb,F',hK,B0,fun _ h=>h,fun _ h=>h,fun _ h=>.inl h,hk⟩;exact hp.elim;exact hp.elim
def saC(k:Nat)(p:List Nat)(lo n sz:Nat)(xs:List V)(g q c g1 o1:Nat):Cu P where
 X:=Unit
 pre N o A:=match o.op,o.dst with
  | .call ⟨.builtin .append,⟨[s,x]⟩,⟨[T,T2]⟩⟩,some d=>match o.type==T&&Nat.blt d N,lZ P T T2 with
    | true,some t=>match A.ev x with
      | .hd r p' M0 g' q' PH n' c'=>((r,p',M0,g',q',PH,n')=(m4.key k,p,sz,g,q,lo,n))/\A.ev s=.hd (.key k) p sz g q 0 0 c/\A.at (.key k) p=some (g1,o1,.own sz xs g q c)/\sz=t.sz/\0<xs.length/\lo+n<=xs.length/\V.ax xs=false/\aR sz xs/\c'=c'
      | _=>False
    | _,_=>False
  | _,_=>False
 post _ o A:=(A.setAt (.key k) p (.own sz ((xs.drop lo).take n++xs.drop n) g q c)).put o.dst (.hd (.key k) p sz g q 0 n c)
 ok:=by
  rintro N ⟨dst,op,ty,pos,after,D8⟩ A K-hp hK;replace hK:=hK ();simp only at hp;split at hp;rename_i s x T T2 d;split at hp;rename_i t e1 e2;split at hp;rename_i r p' M0 g' q' PH n' c' e3;obtain⟨h1,es,A8,hsz,h0,hlo,L5,hN,_⟩:=hp;simp only[Zaq]at h1;obtain⟨rfl,rfl,rfl,rfl,rfl,rfl,rfl⟩:=h1;simp only[Zao,Zbl]at e1;obtain⟨e,e',q1,q2,q3,q4,q5,q6⟩:=ia e2;subst hsz;intro Pb Kb a w F Q hs;obtain⟨_,hx⟩:=dS hs s;rw[es]at hx;obtain⟨_,hle,B,hv,hB⟩:=hx;have hv:a.eval s=.slice B 0 c:=(List.cons.inj hv).1;have hrd:QP A x=some (((t.sz=t.sz/\g'=g'/\q'=q')/\PH+n'<=xs.length/\V.ax xs=false/\aR t.sz xs),(xs.drop PH).take n'):=by
   unfold QP;rw[e3];show (match A.at (.key k) p' with | some (_,_,u)=>jF PH n' t.sz g' q' u | none=>none)=_;rw[A8];rfl
  have Ur:aR t.sz ((xs.drop PH).take n'):=fun v hv=>hN v (List.mem_of_mem_drop (List.mem_of_mem_take hv));have W3:V.ax ((xs.drop PH).take n')=false:=vd _ _ (pS _ _ L5);obtain⟨B2,c2,D9,Rf,Ps,R9,hl2⟩:=mY (P:=P) hs hrd ⟨⟨rfl,rfl,rfl⟩,hlo,L5,hN⟩ Ur W3;have hyl:((xs.drop PH).take n').length=n':=Zal;rw[hyl]at hl2 Rf R9;obtain⟨Fr,Fu,_,⟨cs,cells,_,N7,_⟩,_⟩:=hs.split A8;have hc:0<c/\xs.length<=c:=by
   rcases N7 with ⟨_,rfl,_⟩ | ⟨h,_,h2,_⟩;simp at h0;exact⟨h,h2⟩
  obtain rfl:=hB hc.1;have hbd:n'*t.sz<=xs.length*t.sz:=Nat.mul_le_mul_right _ Zac
  obtain⟨w',F',B6,B0,hk⟩:=hs.BR (P:=P) (lo:=0) (xs':=(xs.drop PH).take n'++xs.drop n') (new:=D9) A8 hc.1 L5 (by rw[hl2];omega)
   Zal (fun v hv=>by
    rcases Zax.1 hv with h | h;exact Ur v h;exact hN v (List.mem_of_mem_drop h)) (qP _ Ps) (fun flat hf=>by
    have k2:=(nI (xs.take n') (xs.drop n') (cs:=flat) Zd7).2;rw[ef xs _ hN Zac]at k2;rw[hl2,List.take_zero,List.nil_append,Zaw];exact jm _ _ Ps k2)
  have R3:(execOp a.eval ⟨some d,.call ⟨.builtin .append,⟨[s,x]⟩,⟨[T,T2]⟩⟩,ty,pos,after,D8⟩).run P w=.ok (.value (.slice (some ⟨g',q'+0*t.sz,none⟩) n' c)) w':=by
   have Ts:(Builtin.append_ #[T,T2] ty #[a.eval s,a.eval x]).run P w=.ok (.slice (some ⟨g',q'+0*t.sz,none⟩) n' c) w':=by
    have R6:(Builtin.lenOf (a.eval x)).run P w=.ok n' w:=by rw[Rf];rfl
    rw[hv];unfold Builtin.append_;simp only[List.getElem?_toArray,List.getElem?_cons_zero,List.getElem?_cons_succ,Za0,aK (iW q1),Zas];simp only[dc q3,Zas];simp only[aK (iW q2),Zas,Za1];rw[if_neg (show ¬ (false=true) by decide)];rw[Za0,R6];simp only[Zas];rw[if_pos Zac];simp only[Za0,Bool.not_false,if_true,R9 w (fun _=>rfl),Zas];simp only[dW,Nat.zero_mul,Nat.add_zero]at B6 ⊢;rw[B6];simp
   have e:((⟨[s,x]⟩:Array Operand).map a.eval)= #[a.eval s,a.eval x]:=Zad;simp only[execOp,resolve,invoke,builtin,Za0,Za1,Zas,e,Ts]
  obtain⟨F2,M4⟩:=B0.pF (d:=some d) (v:=.hd (.key k) p' t.sz g' q' 0 n' c) (x:=.slice (some ⟨g',q'+0*t.sz,none⟩) n' c) (bG e1.2) ⟨rfl,Zac,_,rfl,fun _=>rfl⟩;unfold Oper.wp;rw[R3,Oper.upon_value];exact⟨_,Pb,Kb,F2,hK,M4,fun _ h=>h,fun _ h=>h,fun _ h=>.inl h,hk⟩;exact hp.elim;exact hp.elim;exact hp.elim
def ZN(k:Nat)(p:List Nat)(n sz:Nat)(xs:List V)(g q c g1 o1:Nat):Cu P where
 X:=Unit
 pre _ o A:=match o.op,o.dst with
  | .store T x y,none=>match ti P T,A.ev y with
    | some i,.hd r p' M0 g' q' PH n' c'=>((r,p',M0,g',q',PH,n',c')=(m4.key k,p,sz,g,q,0,n,c))/\A.ev x=.ptr (.key k) p g1 o1/\A.at (.key k) p=some (g1,o1,.own sz xs g q c)/\i.sz=1/\n<=xs.length/\V.ax xs=false
    | _,_=>False
  | _,_=>False
 post _ _ A:=A.setAt (.key k) p (.own sz (xs.take n) g q c)
 ok:=by
  rintro N ⟨dst,op,ty,pos,after,D8⟩ A K-hp hK;replace hK:=hK ();simp only at hp;split at hp;rename_i T x y;split at hp;rename_i i r p' M0 g' q' PH n' c' e1 e2;obtain⟨h1,ex,A8,hi,hn,L5⟩:=hp;simp only[Zaq]at h1;obtain⟨rfl,rfl,rfl,rfl,rfl,rfl,rfl,rfl⟩:=h1;intro Pb Kb a w F Q hs;obtain⟨_,hx⟩:=dS hs y;rw[e2]at hx;obtain⟨_,hle,B,hv,hB⟩:=hx;have hv:a.eval y=.slice B n' c':=(List.cons.inj hv).1;obtain⟨_,V8⟩:=dS hs x;rw[ex]at V8;have hp:a.eval x=.pointer (some ⟨g1,o1,none⟩):=by have:=V8.2;simpa using this
  obtain⟨Fr,Fu,PA,⟨cs,cells,hb,N7,u0⟩,hnd,w8,hfr⟩:=hs.split A8;have hR:R w Pb (.own M0 (xs.take n') g' q' c') [a.eval y] Fu:=by
   rw[hv];rcases N7 with ⟨rfl,rfl,rfl,A0,_⟩ | ⟨UT,hsz,hlx,hcs,hN0,Xm,flat,F',RA,XW,hr,l4,WW,Un⟩;have:n'=0:=by simpa using hn
   subst this;exact .inl ⟨rfl,rfl,rfl,B,rfl⟩;have hF0:=gi xs L5 hr;subst hF0;obtain rfl:=hB UT;have hl:(xs.take n').length=n':=by rw[List.length_take];omega
   refine .inr ⟨UT,hsz,Zac,by rw[hl,Nat.zero_mul,Nat.add_zero],fun v hv=>hN0 v (List.mem_of_mem_take hv),Xm,flat.take (V.ns (xs.take n')),[],RA,XW,?_,l4,WW,fun j u hu=>Un j u ?_⟩;exact(nI (xs.take n') (xs.drop n') (cs:=flat) (by rw[List.take_append_drop];exact hr)).1;rw[List.getElem?_take]at hu;split at hu;exact hu;simp at hu
  have Vi:(A.setAt (.key k) p' .c9).at (.key k) p'=some (g1,o1,.c9):=by
   simp only[AS.at]at A8;split at A8;rename_i g0 t hk;simp only[AS.setAt,hk,AS.at,lk,if_true];exact vc p' A8;simp at A8
  have hcs:cs.length=1:=eH _ N7;obtain⟨w',B6,B5⟩:=gV (P:=P) (g:=g1) (o:=o1) [a.eval y] 0 w cells hb (by
   have:cs[0]? =some (cs[0]'Zac):=Zat Zac;have:=(Zbh.1 (u0 0 _ this)).1;simp only[Zar,Zau];omega) (fun v h=>by rw[Zav.1 h,hv];rfl)
  rw[Nat.add_zero]at B5;have R3:(execOp a.eval ⟨none,.store T x y,ty,pos,after,D8⟩).run P w=.ok .skip w':=by
   have Ql:(a.eval y).cells= #[a.eval y]:=by rw[hv];rfl
   have hsz:(a.eval y).cells.size=i.sz:=by rw[Ql,hi];rfl
   have Yz:(storeCells ⟨g1,o1,none⟩ (a.eval y).cells.toList 0).run P w=.ok () w':=by rw[Ql];exact B6
   simp only[execOp,Instr.storeAt,hp,Instr.sureAddr,Za0,Za1,Zas,storeVar,dc e1,hsz,ne_eq,not_true_eq_false,if_false,Yz]
  obtain⟨F2,M4,hg⟩:=PA.store Vi hR (by rfl) hnd w8 hfr B5;have Pz:w3 N Pb Kb (A.setAt (.key k) p' (.own M0 (xs.take n') g' q' c')) a w' F2:=by
   simp only[AS.at]at A8;split at A8;rename_i g0 t hk;refine M4.eqv ⟨fun i=>?_,fun q=>?_⟩;simp only[AS.setAt,hk,lk,if_true];rfl;simp only[AS.setAt,hk,lk,if_true,set_set];split <;> rfl;simp at A8
  unfold Oper.wp;rw[R3,Oper.upon_skip];exact⟨_,Pb,Kb,F2,hK,Pz,fun _ h=>h,fun _ h=>h,fun _ h=>.inl h,⟨B5.os,B5.tape,B5.output,by rw[B5.size];omega,fun x hx=>B5.P7 x (fun c=>hg (c ▸ hx)),B5.shape⟩⟩;exact hp.elim;exact hp.elim
end
theorem Kx{xs ys:List V}{j sz g o c:Nat}{x x' v:V}{p:List Nat}(h:xs[j]? =some x)(hx:V.set x p v=x')(e:xs.set j x'=ys):V.set (.own sz xs g o c) (j::p) v=.own sz ys g o c:=by simp only[V.set,h,hx,e]
section
variable {P:Program}
def sdC(n:Nat)(l h m:Int):Cu P where
 X:=Unit
 pre N o A:=match o.op,o.dst with
  | .slice T x (some lo) (some hi) (some mx),some d=>match tD P T,Nat.blt d N with
    | some (.sl e),true=>match ti P e,A.ev x with
      | some _,.hd _ _ _ _ _ _ n' _=>A.ev lo=.lit (.int .i64 l)/\A.ev hi=.lit (.int .i64 h)/\A.ev mx=.lit (.int .i64 m)/\n'=n/\0<=l/\l<=h/\h<=m/\m<=n
      | _,_=>False
    | _,_=>False
  | _,_=>False
 post _ o A:=A.put o.dst .c9
 ok:=by
  rintro N ⟨dst,op,ty,pos,after,D8⟩ A K-hp hK;replace hK:=hK ();simp only at hp hK;split at hp;rename_i T x lo hi mx d;split at hp;rename_i e e1 e2;split at hp;rename_i t r p sz g q PH n' c e3 e4;obtain⟨h1,h2,h3,rfl,k1,k2,k3,k4⟩:=hp;refine gy (v:=.c9) rfl (bG e2) hK fun Pb Kb a w F hs=>?_;obtain⟨_,hx⟩:=dS hs x;rw[e4]at hx;obtain⟨_,hle,B,hv,hB⟩:=hx;have hv:a.eval x=.slice B n' c:=(List.cons.inj hv).1;have b1:=bY hs h1;have b2:=bY hs h2;have b3:=bY hs h3;refine⟨.slice (if m.toNat=l.toNat then B else B.map (·.add (l.toNat*t.sz))) (h.toNat-l.toNat) (m.toNat-l.toNat),?_,rfl⟩;have q1:(Instr.sliceBounds true n' c (some (.int .i64 l)) (some (.int .i64 h)) (some (.int .i64 m))).run P w=.ok (l.toNat,h.toNat,m.toNat) w:=by
   simp only[Instr.sliceBounds,Instr.sliceBound,asIntOf,Za0,Za1,Zas];rw[if_pos Zac];simp only[Za1,Zas];rw[if_pos Zac];simp only[Za1,Zas];rw[if_pos Zac];simp only[Za1,Zas]
  simp only[execOp,Option.map_some,Instr.sliceAt,Instr.slice,Za0,aK (iW e1),Zas,hv,b1,b2,b3,q1,dc e3,Za1];exact hp.elim;exact hp.elim;exact hp.elim
def sbC(k:Nat)(p:List Nat)(sz:Nat)(xs:List V)(g q c n g1 o1 l h:Nat):Cu P where
 X:=Unit
 pre N o A:=match o.op,o.dst with
  | .slice T x (some lo) (some hi) none,some d=>match tD P T,Nat.blt d N with
    | some (.sl e),true=>match ti P e with
      | some t=>A.ev x=.hd (.key k) p sz g q 0 n c/\A.at (.key k) p=some (g1,o1,.own sz xs g q c)/\A.ev lo=.lit (.int .i64 (l:Int))/\A.ev hi=.lit (.int .i64 (h:Int))/\sz=t.sz/\l<=h/\h<=xs.length
      | none=>False
    | _,_=>False
  | _,_=>False
 post _ o A:=A.put o.dst (.hd (.key k) p sz g q l (h-l) (c-l))
 ok:=by
  rintro N ⟨dst,op,ty,pos,after,D8⟩ A K-hp hK;replace hK:=hK ();simp only at hp hK;split at hp;rename_i T x lo hi d;split at hp;rename_i e e1 e2;split at hp;rename_i t e3;obtain⟨ex,A8,h1,h2,hsz,k1,k2⟩:=hp;subst hsz;refine gy (v:=.hd (.key k) p t.sz g q l (h-l) (c-l)) rfl (bG e2) hK fun Pb Kb a w F hs=>?_;obtain⟨_,hx⟩:=dS hs x;rw[ex]at hx;obtain⟨_,hle,B,hv,hB⟩:=hx;have hv:a.eval x=.slice B n c:=(List.cons.inj hv).1;have b1:=bY hs h1;have b2:=bY hs h2;obtain⟨_,cs,cells,_,N7,_⟩:=iz hs A8;have hc:xs.length<=c:=by
   rcases N7 with ⟨_,rfl,_⟩ | ⟨_,_,h,_⟩;simp;exact h
  refine⟨.slice (if c=l then B else B.map (·.add (l*t.sz))) (h-l) (c-l),?_,rfl,Zac,_,rfl,fun h0=>?_⟩;have q1:(Instr.sliceBounds true n c (some (.int .i64 (l:Int))) (some (.int .i64 (h:Int))) none).run P w=.ok (l,h,c) w:=by
   simp only[Instr.sliceBounds,Instr.sliceBound,asIntOf,Za0,Za1,Zas];rw[if_pos Zac];simp only[Za1,Zas];rw[if_pos Zac];simp only[Za1,Zas,Int.toNat_natCast]
  simp only[execOp,Option.map_some,Option.map_none,Instr.sliceAt,Instr.slice,Za0,aK (iW e1),Zas,hv,b1,b2,q1,dc e3,Za1];rw[if_neg Zac,hB Zac];simp[dW];exact hp.elim;exact hp.elim;exact hp.elim
def mfE:Eu P where
 X:=Unit
 pre N o A Sl _:=match o.op,o.dst with
  | .makeFunc fn first A7,some d=>match Nat.blt d N&&Sl.contains d,jv (first.toList.map A.ev),jv (A7.toList.map A.ev) with
    | true,some l1,some l2=>(Value.func fn l1.toArray l2.toArray).oneCell'=true
    | _,_,_=>False
  | _,_=>False
 U o A _ B:=match o.op,o.dst with
   | .makeFunc fn first A7,some d=>match jv (first.toList.map A.ev),jv (A7.toList.map A.ev) with
     | some l1,some l2=>B.put (some d) (.lit (.func fn l1.toArray l2.toArray))
     | _,_=>B
   | _,_=>B
 WH:=by
  rintro N ⟨dst,op,ty,pos,after,D8⟩ A Sl Hl hp fs;simp only at hp;split at hp;rename_i fn first A7 d
  split at hp;rename_i l1 l2 e1 e2 e3;simp only[Zao,Zbi,Zbk]at e1;simp only[e2,e3];exact wL (v:=fun _:Unit=>.lit (.func fn l1.toArray l2.toArray)) e1.2 fs;exact hp.elim;exact hp.elim
 ok:=by
  rintro N ⟨dst,op,ty,pos,after,D8⟩ A A' Sl Hl hg hp hA hR;simp only at hp;split at hp;rename_i fn first A7 d
  split at hp;rename_i l1 l2 e1 e2 e3;simp only[Zao]at e1;have q1:first.toList.map A'.ev=first.toList.map A.ev:=List.map_congr_left fun x hx=>bB fun t ht=>hA t (by subst ht;simp[Op.operands];left;simpa using hx)
  have q2:A7.toList.map A'.ev=A7.toList.map A.ev:=List.map_congr_left fun x hx=>bB fun t ht=>hA t (by subst ht;simp[Op.operands];right;simpa using hx);refine(U4 (P:=P)).ok hg ?_ fun _=>⟨(),?_⟩;simp only[U4,q1,q2,e1.1,e2,e3];exact hp;simp only[U4,q1,q2,e2,e3];exact hp.elim;exact hp.elim
end
theorem Ka(s:BL):ey s 20<=20:=by
 have key:∀ (l:BL) (n:Int),n<=20->l.foldl (gU 20) n<=20:=fun l=>by
  induction l with
  | nil=>exact fun n h=>h
  | cons c l ih=>exact fun n _=>ih _ (by unfold gU;omega)
 unfold ey;split;exact key s 0 Zac;omega
def nf(gs:List l9):Prop:= ∀ y,y∈gs->y.wa<=20
theorem nf.set{gs:List l9}{f:l9->l9}(h:nf gs)(hf:∀ z,gs.getLast? =some z->(f z).wa<=20):nf (ee gs f):=by
 by_cases hn:gs=[];subst hn;simp[ee,nf];obtain⟨⟨l,z⟩,rfl⟩:=ka hn;rw[eI];intro y hy;rcases Zax.1 hy with hy | hy;exact h y (by simp[hy]);rw[Zav.1 hy];exact hf z Zad
theorem Ke{gs:List l9}{w d:BL}{b:Bool}(h:nf gs):nf (dF gs w d b).1:=by
 have hl:∀ z,gs.getLast? =some z->z.wa<=20:=fun z hz=>h z (List.mem_of_getLast? hz);unfold dF;split;split;intro y hy;rcases Zax.1 hy with hy | hy;exact h y hy;rw[Zav.1 hy];simp;exact h.set fun z hz=>hl z hz;split;exact h;split;exact h.set fun z hz=>hl z hz;split;exact h.set fun z hz=>by have:=Ka d;simp only;omega
 exact h
theorem Ge(t:BL):nf (bK t):=by
 have:∀ (l:List BL) (x:List l9×Bool),nf x.1->nf (l.foldl eD x).1:=by
  intro l;induction l with
  | nil=>exact fun x h=>h
  | cons a l ih=>exact fun x h=>ih _ (Ke h)
 exact this _ _ (by intro y hy;simp at hy)
theorem Ir(n:BL):∀ (gs:List l9) {x:(List r9×Nat)×Bool},x.1.2<=20->nf gs->(gs.foldl (dD n) x).1.2<=20
 | [],x,h,_=>h
 | g::gs,x,h,h2=>by
   refine Ir n gs ?_ (fun y hy=>h2 y (by simp[hy]));unfold dD;split;have:=h2 g Zad;simp only;omega;exact h
theorem CH{gs:List l9}(n:BL)(h:nf gs):(eC gs n).wa<=20:=by
 have key:∀ q,(QQ gs q).1.wa<=20:=fun q=>Ir q gs Zad h;unfold eC;split <;> exact key _
theorem sd(k:Int)(t n:BL):(cM k t n).wa<=20:=by
 unfold cM;split;exact CH n (Ge t);split;simp;exact CH n (fun y hy=>by simp at hy)
def Qu(ru:List r9)(x:s7):Bool:=az x.ad&&bU ru (pathOf x.ad)
def QA(y:l5)(s:BL):Bool:=az s&&bU y.gr.ru (pathOf s)
def Qv(y:l5)(x:s7):Bool:=QA y x.ad
def M9(y:l5)(l:List s7):Int:=if (l.findIdx fun x=>!(QA y x.ad))<l.length then ((l.findIdx fun x=>!(QA y x.ad):Nat):Int) else -1
def gW(w:List Pg)(n d:BL):l9:=⟨[n],(cM (ai w (aL d) 2).1 (ai w (aL d) 2).2 n).ru,(cM (ai w (aL d) 2).1 (ai w (aL d) 2).2 n).wa⟩
def B4(w:List Pg)(y:l5)(b7:Int):l5:=fU y b7 (ai w (aL y.na) y.tr).1 y.tr
def RF(w:List Pg)(n:BL)(y:l5)(b7:Int):l5:=
 if (ai w (aL y.na) y.tr).1=3/\y.tr+1<3 then { B4 w y b7 with tr:=y.tr+1 }
 else { B4 w y b7 with kn:=true,gr:=gW w n y.na,re:=max (B4 w y b7).re (b7+((gW w n y.na).wa:Int)),td:=y.td.filter (Qu (gW w n y.na).ru) }
def C5(w:List Pg)(y:l5)(b7:Int):l5:=fU { y with td:=y.td.drop 1 } b7 (ai w (y.td.getD 0 l3).ad (y.td.getD 0 l3).tr).1 (y.td.getD 0 l3).tr
def Yn(w:List Pg)(t:l6)(i:Nat):l6:=
 { t with hs:=t.hs.set i (RF w t.na (t.hs.getD i j6) t.b7),lk:=t.lk++[⟨t.b7,aL (t.hs.getD i j6).na,(ai w (aL (t.hs.getD i j6).na) (t.hs.getD i j6).tr).1⟩] }
def M8(w:List Pg)(t:l6)(i:Nat):l6:=
 let y:=t.hs.getD i j6
 let it:=y.td.getD 0 l3
 let g:=ai w it.ad it.tr
 let t1:l6:={ t with hs:=t.hs.set i (C5 w y t.b7),lk:=t.lk++[⟨t.b7,it.ad,g.1⟩] }
 if g.1=3/\it.tr+1<3 then { t1 with hs:=t.hs.set i { C5 w y t.b7 with td:=y.td.drop 1++[⟨it.ad,it.tr+1⟩] } }
 else if az it.ad=true then (rM it.ad g.1 g.2).foldl aG t1 else t1
theorem iM(l:List BL):∀ t:l6,(l.foldl aG t).na=t.na/\(l.foldl aG t).b7=t.b7/\(l.foldl aG t).lk=t.lk:=by
 induction l with
 | nil=>exact fun t=>⟨rfl,rfl,rfl⟩
 | cons a l ih=>exact fun t=>ih (aG t a)
structure HS (m:Nat) (y:l5):Prop where
 n:y.na.length<=1000
 r:y.gr.ru.length<=1000
 rp:∀ i,(y.gr.ru.getD i ⟨false,[]⟩).path.length<=1000
 w:y.gr.wa<=1000
 t:y.td.length+60<=1000+m
 ta:∀ x,x∈y.td->x.ad.length<=1000/\o8 x.ad/\0<=x.tr/\x.tr<=1000
 k:0<=y.tr/\y.tr<=1000
theorem HS.mono{m k:Nat}{y:l5}(h:HS m y)(hm:m<=k):HS k y:=⟨h.n,h.r,h.rp,h.w,by have:=h.t;omega,h.ta,h.k⟩
structure TS (t:l6):Prop where
 s:t.se.length<=60
 h:t.hs.length+60<=1000+t.se.length
 sa:∀ x,x∈t.se->x.length<=1000/\o8 x
 ha:∀ y,y∈t.hs->HS t.se.length y
theorem JR{t:l6}{s:BL}(h:TS t)(hn:t.na.length<=1000)(hs:s.length<=1000)(hc:o8 s)(hd:(aJ s).length<=1000):TS (aG t s):=by
 have e1:(aG t s).se=bj t.se s:=rfl;have e2:(aG t s).hs=bP t.na t.hs t.se s:=rfl;by_cases hr:dX t.se s;have e3:bj t.se s=t.se++[s]:=if_pos hr;have e4:bP t.na t.hs t.se s=(bA t.hs (aJ s) t.na).set (C8 t.hs (aJ s)) (fw ((bA t.hs (aJ s) t.na).getD (C8 t.hs (aJ s)) j6) s):=if_pos hr;have hl:(bA t.hs (aJ s) t.na).length<=t.hs.length+1:=uw _ _ _;have hin:∀ y,y∈bA t.hs (aJ s) t.na->HS t.se.length y:=fun y hy=>by
  unfold bA at hy;split at hy;exact h.ha y hy;rcases Zax.1 hy with hy | hy;exact h.ha y hy;rw[Zav.1 hy];exact⟨hd,by simp[dO],by simp[dO],by simp[dO],by show 0+60<=1000+t.se.length;omega,by simp[dO],by simp[dO]⟩
 have h2:=hr.2.1;refine⟨by rw[e1,e3];simp;omega,?_,fun x hx=>?_,fun y hy=>?_⟩;rw[e1,e2,e3,e4,List.length_set];have:=h.h;simp;omega;rw[e1,e3]at hx;rcases Zax.1 hx with hx | hx;exact h.sa x hx;rw[Zav.1 hx];exact⟨hs,hc⟩;rw[e1,e3];rw[e2,e4]at hy;have hm:(t.se++[s]).length=t.se.length+1:=Zad;rw[hm];rcases gj hy with e | hy;have hm:(bA t.hs (aJ s) t.na).getD (C8 t.hs (aJ s)) j6∈bA t.hs (aJ s) t.na:=by
  rw[Zam,Zat (kv ..)];exact List.getElem_mem _
 have SU:=hin _ hm;rw[e];unfold fw;split;exact SU.mono Zac;refine⟨SU.n,SU.r,SU.rp,SU.w,?_,fun x hx=>?_,SU.k⟩;show (_++[_]).length+60<=_;have:=SU.t;rw[Zap,Zbf];omega;rcases Zax.1 hx with hx | hx;exact SU.ta x hx;rw[Zav.1 hx];exact⟨hs,hc,Zad,Zad⟩;exact(hin y hy).mono Zac;have e3:bj t.se s=t.se:=if_neg hr;have e4:bP t.na t.hs t.se s=t.hs:=if_neg hr;exact⟨by rw[e1,e3];exact h.s,by rw[e1,e2,e3,e4];exact h.h,by rw[e1,e3];exact h.sa,by rw[e1,e2,e3,e4];exact h.ha⟩
theorem oN:∀ (l:List BL) {t:l6},TS t->t.na.length<=1000->(∀ s,s∈l->s.length<=1000/\o8 s/\(aJ s).length<=1000)->TS (l.foldl aG t)
 | [],t,h,_,_=>h
 | a::l,t,h,hn,hl=>by
   have:=hl a Zad;exact oN l (JR h hn this.1 this.2.1 this.2.2) hn (fun s hs=>hl s (by simp[hs]))
def jG(y:l5)(l:List s7):List s7:=l.filter (Qv y)++List.replicate (l.length-(l.filter (Qv y)).length) l3
theorem KN{y:l5}{s:BL}:(!((aV s).isSome)||!(bU y.gr.ru (if aI (oA (aV s))=true then bL (oA (aV s)) else [])))=!(QA y s):=by
 unfold QA;rw[ib];by_cases h:az s=true;have e:aV s=aP s:=if_pos h;have hs:(aP s).isSome=true:=by have:=h;unfold az at this;rw[Zao]at this;exact this.1
 rw[h,e,if_pos (nK hs)];rfl;rw[Bool.not_eq_true]at h;rw[h];rfl
section
variable {y:l5} {l u:List s7} {i w:Nat}
theorem DL{p:s7->Bool}(hi:i<l.length)(e:p (l.getD i l3)=true)(h:∀ j,j<i->p (l.getD j l3)=false):l.findIdx p=i:=by
 rw[List.findIdx_eq hi];simp only[Zam,Zat hi]at e;refine⟨Zb3,fun j hj=>?_⟩;have:=h j hj;simp only[Zam,Zat (show j<l.length by omega)]at this;simpa using this
theorem Lh(hi:i<l.length)(e:QA y (l.getD i l3).ad=false)(h:∀ j,j<i->QA y (l.getD j l3).ad=true):M9 y l=i:=by
 unfold M9;rw[DL (p:=fun x=>!(QA y x.ad)) hi (by simp only[e];rfl) (fun j hj=>by simp only[h j hj];rfl),if_pos hi]
theorem JX{p:s7->Bool}(h:∀ j,j<l.length->p (l.getD j l3)=false):l.findIdx p=l.length:=by
 rw[List.findIdx_eq_length];intro x hx;obtain⟨j,hj,rfl⟩:=Zbg.1 hx;have:=h j hj;simp only[Zam,Zat hj]at this;simpa using this
theorem Lv(h:∀ j,j<l.length->QA y (l.getD j l3).ad=true):M9 y l= -1:=by
 unfold M9;rw[JX (p:=fun x=>!(QA y x.ad)) (fun j hj=>by simp only[h j hj];rfl),if_neg Zac]
theorem yK(y:l5)(l:List s7): -1<=M9 y l/\M9 y l<=l.length/\(M9 y l≠ -1->0<=M9 y l/\M9 y l<l.length):=by
 unfold M9;split <;> omega
theorem ry(h:u.drop i=l.drop i):u.getD i l3=l.getD i l3:=by
 have:=Zbm (fun r=>r[0]?) h;simp only[List.getElem?_drop,Nat.add_zero]at this;rw[Zam,Zam,this]
theorem EG(h:M9 y l= -1):l.filter (Qv y)=l:=by
 unfold M9 at h;split at h;omega;rename_i hn;have he:(l.findIdx fun x=>!(QA y x.ad))=l.length:=by
  have:(l.findIdx fun x=>!(QA y x.ad))<=l.length:=List.findIdx_le_length;omega
 rw[List.findIdx_eq_length]at he;rw[List.filter_eq_self];intro x hx;simpa[Qv] using he x hx
theorem Ol(h: ¬ M9 y l= -1):(M9 y l).toNat<(M9 y l).toNat+1/\(M9 y l).toNat+1<=l.length/\l.length=l.length/\l.take (M9 y l).toNat=(l.take ((M9 y l).toNat+1)).filter (Qv y)/\l.drop ((M9 y l).toNat+1)=l.drop ((M9 y l).toNat+1):=by
 obtain⟨b1,b2⟩:=(yK y l).2.2 h;have hk:(M9 y l).toNat=l.findIdx fun x=>!(QA y x.ad):=by
  unfold M9 at b1 b2 ⊢;split;exact Int.toNat_natCast _;rename_i hn;rw[if_neg hn]at b1;omega
 have hlt:(M9 y l).toNat<l.length:=Zac;refine bN ⟨?_,rfl⟩;rw[List.take_succ_eq_append_getElem hlt,List.filter_append];have e1:(l.take (M9 y l).toNat).filter (Qv y)=l.take (M9 y l).toNat:=by
  rw[List.filter_eq_self];intro x hx;obtain⟨j,hj,rfl⟩:=Zbg.1 hx;rw[List.length_take]at hj;rw[List.getElem_take];have:=List.not_of_lt_findIdx (p:=fun x=>!(QA y x.ad)) (xs:=l) (i:=j) Zac;simpa[Qv] using this
 have e2:Qv y l[(M9 y l).toNat]=false:=by
  have:=List.findIdx_getElem (p:=fun x=>!(QA y x.ad)) (xs:=l) (w:=by rw[<- hk];exact hlt);simp only[<- hk]at this;simpa[Qv] using this
 rw[e1];simp[e2]
theorem LO(hi:i<l.length)(h1:w<i)(h3:u.length=l.length)(h4:u.take w=(l.take i).filter (Qv y))(h5:u.drop i=l.drop i)(hk:QA y (u.getD i l3).ad=true):
 w+1<i+1/\i+1<=l.length/\(u.set w (⟨(u.getD i l3).ad,(u.getD i l3).tr⟩:s7)).length=l.length/\(u.set w (⟨(u.getD i l3).ad,(u.getD i l3).tr⟩:s7)).take (w+1)=(l.take (i+1)).filter (Qv y)/\
  (u.set w (⟨(u.getD i l3).ad,(u.getD i l3).tr⟩:s7)).drop (i+1)=l.drop (i+1):=by
 have e:=ry h5;have hw:w<u.length:=Zac;refine bS ⟨by simpa using h3,?_,?_⟩;rw[List.take_succ_eq_append_getElem (by simpa using hw),List.getElem_set_self,List.take_set_of_le (Zbc _),h4,List.take_succ_eq_append_getElem hi,List.filter_append];have e2:(⟨(u.getD i l3).ad,(u.getD i l3).tr⟩:s7)=l[i]:=by
  show u.getD i l3=l[i];rw[e,Zam,Zat hi];rfl
 have e3:Qv y l[i]=true:=by rw[<- e2];exact hk
 rw[e2];simp[e3];rw[List.drop_set_of_lt Zac];have:=Zbm (List.drop 1) h5;simpa[List.drop_drop] using this
theorem KW(hi:i<l.length)(h1:w<i)(h3:u.length=l.length)(h4:u.take w=(l.take i).filter (Qv y))(h5:u.drop i=l.drop i)(hk:QA y (u.getD i l3).ad=false):
 w<i+1/\i+1<=l.length/\u.length=l.length/\u.take w=(l.take (i+1)).filter (Qv y)/\u.drop (i+1)=l.drop (i+1):=by
 refine bS ⟨h3,?_,?_⟩;rw[h4,List.take_succ_eq_append_getElem hi,List.filter_append];have e3:Qv y l[i]=false:=by
  have:=ry h5;rw[Zam (l:=l),Zat hi]at this;show QA y l[i].ad=false;rw[<- hk,this];rfl
 simp[e3];have:=Zbm (List.drop 1) h5;simpa[List.drop_drop] using this
theorem ME(hi:l.length<=i)(h1:w<i)(h2:i<=l.length)(h3:u.length=l.length)(h4:u.take w=(l.take i).filter (Qv y)):w=(l.filter (Qv y)).length:=by
 have:=Zbm List.length h4;rw[List.length_take,Zaz hi]at this;omega
theorem Mq(h:M9 y l= -1):jG y l=l:=by unfold jG;rw[EG h];simp
theorem LR(hi:l.length<=i)(h1:w<i)(h2:i<=l.length)(h3:u.length=l.length)(h4:u.take w=(l.take i).filter (Qv y)):jG y l=u.take w++List.replicate (l.length-w) l3:=by
 unfold jG;rw[<- ME hi h1 h2 h3 h4,h4,Zaz hi]
theorem KP(h3:u.length=l.length):(u.map an).take w++List.replicate (l.length-w) (.agg [sV [],iN 0]:V)++(u.map an).drop (w+(l.length-w))=(u.take w++List.replicate (l.length-w) l3).map an:=by
 rw[Za8 Zal,List.append_nil,Zbb,List.map_take,List.map_replicate];rfl
theorem NU:((l.map an).drop 1).take (l.length-1)++(l.map an).drop (l.length-1)=(l.drop 1++l.drop (l.length-1)).map an:=by
 rw[Zbb,List.map_drop,List.map_drop,Zaz Zad]
theorem Lo(h:0<l.length):((l.drop 1++l.drop (l.length-1)).map an).take (l.length-1)++List.replicate 1 (.agg [sV [],iN 0]:V)++((l.drop 1++l.drop (l.length-1)).map an).drop (l.length-1+1)=(l.drop 1++[l3]).map an:=by
 rw[show ((l.drop 1++l.drop (l.length-1)).map an).drop (l.length-1+1)=[] from Za8 Zal,List.append_nil,<- List.map_take,List.take_append_of_le_length Zad,Zaz Zad,Zbb];rfl
end
def sD(n:BL)(b7:Int)(zs:List l5)(se:List BL)(ls:List r4)(gt g o c ix:Nat)(y:l5)(ga oa ca:Nat)(l:List s7)(gb:Nat)(s:BL)(v:Int):aw:=.mk 142 [cZ s v,kp 1002 gb] [(1002,(gb,.ptr (.key 1000) [2,ix] g (o+ix*8))),(1000,(gt,ba n b7 zs ix y l ga oa ca g o c se ls))] ((ix<zs.length)/\(s.length<=1000)/\(o8 s)/\(y.gr.ru.length<=1000)/\(∀ i,(y.gr.ru.getD i ⟨false,[]⟩).path.length<=1000)) (bV (!(QA y s))) [(1002,(gb,.ptr (.key 1000) [2,ix] g (o+ix*8))),(1000,(gt,ba n b7 zs ix y l ga oa ca g o c se ls))] (by
 rintro⟨hi,hs,hc,hr,UM⟩
 refine au Tryz.func142
  (.bx (fun g2=>.q 1<|.r 2 [.c9]<|.c (dP s) []<|.q 3<|.al cK (fun g4=>.st none<|.q 1<|.C6 13 [(3,n6 [1002] [15]),(7,n6 [1000] [19]),(8,n6 [4] [20])]<|.l8 3<|.n9<|.l8 3<|.r 1 [dk y.gr.ru]<|.n9<|.cg (ml (oA (aV s)))<|.cg (lP y.gr.ru (if aI (oA (aV s))=true then bL (oA (aV s)) else []))<|.l8 3<|.nil)))
  ((fun v1:Bool=>(∀ g2:Nat,Z g2 0/\(dP s).sm/\((s.length<=1000000)/\(o8 s))/\∀ g4:Nat,Z g4 0/\Gd v1 (Z gb 0)/\Gd v1 (v1=true)/\Gd v1 True/\Gd v1 (v1=true)/\Gd v1 (v1=true)/\Gd v1 (v1=true)/\Gd v1 (V.at gt 0 (ba n b7 zs ix y l ga oa ca g o c se ls) [2,ix,3,1]=some (g,(o+ix*8+3+1),dk y.gr.ru))/\Gd v1 (Z g4 0)/\Gd v1 (v1=true)/\Gd v1 (((cD (oA (aV s))))/\(ml (oA (aV s))).sm)/\Gd v1 (v1=true)/\Gd v1 (v1=true)/\Gd v1 (((y.gr.ru.length<=1000000)/\(∀ i,(y.gr.ru.getD i ⟨false,[]⟩).path.length<=1000000)/\((if aI (oA (aV s))=true then bL (oA (aV s)) else []).length<=1000000))/\(lP y.gr.ru (if aI (oA (aV s))=true then bL (oA (aV s)) else [])).sm)/\Gd v1 (v1=true)/\Pk (!((aV s).isSome)) true v1/\Q (bV ((!((aV s).isSome))||(!(bU y.gr.ru (if aI (oA (aV s))=true then bL (oA (aV s)) else []))))) (bV (!(QA y s)))/\Er gb (.ptr (.key 1000) [2,ix] g (o+ix*8))/\Er gt (ba n b7 zs ix y l ga oa ca g o c se ls))) ((!((aV s).isSome))==false)) ?_
 intro g2;refine⟨rfl,rfl,aM (hc),fun g4=>iQ ⟨fun hG=>(bu (f:=2) rfl).trans (aU (dj Zac) rfl),bS ⟨fun hG=>⟨by(try simp only[nb]at hG);exact qZ _,rfl⟩,bS ⟨fun hG=>⟨⟨Zcq,fun i=>by have:=UM i;omega,by(try simp only[nb]at hG);have:=(qZ s).path;split <;> simp <;> omega⟩,rfl⟩,bS ⟨?_,aQ⟩⟩⟩⟩⟩;rw[KN])
def FJ(n:BL)(b7:Int)(zs:List l5)(se:List BL)(ls:List r4)(gt g o c ix:Nat)(y:l5)(ga oa ca:Nat)(l:List s7)(gb:Nat):aw:=.mk 179 [.hd (.key 1000) [2,ix,5] 2 ga oa 0 ((l.map an).length) ca,.lit (.func (.func 142) #[] #[.pointer (some ⟨gb,0,none⟩)])] [(1002,(gb,.ptr (.key 1000) [2,ix] g (o+ix*8))),(1000,(gt,ba n b7 zs ix y l ga oa ca g o c se ls))] ((ix<zs.length)/\(l.length<=1000)/\(∀ x,x∈l->x.ad.length<=1000/\o8 x.ad)/\(y.gr.ru.length<=1000)/\(∀ i,(y.gr.ru.getD i ⟨false,[]⟩).path.length<=1000)) (iV (M9 y l)) [(1002,(gb,.ptr (.key 1000) [2,ix] g (o+ix*8))),(1000,(gt,ba n b7 zs ix y l ga oa ca g o c se ls))] (by
 rintro⟨hi,hl,hx,hr,UM⟩
 refine au Tryz.func179
  (.q 1<|.q 3<|.loop Nat (fun i=>⟨[(0,.hd (.key 1000) [2,ix,5] 2 ga oa 0 ((l.map an).length) ca),(1,.lit (.func (.func 142) #[] #[.pointer (some ⟨gb,0,none⟩)])),(7,iN l.length),(8,iN i)],[(1002,(gb,.ptr (.key 1000) [2,ix] g (o+ix*8))),(1000,(gt,ba n b7 zs ix y l ga oa ca g o c se ls))]⟩) (fun i=>i<=l.length/\∀ j,j<i->QA y (l.getD j l3).ad=true) (fun i=>l.length-i) (fun i=>.q 1<|.br (.q 2<|.r 5 [cZ ((l.getD i l3).ad) ((l.getD i l3).tr)]<|.c (sD n b7 zs se ls gt g o c ix y ga oa ca l gb ((l.getD i l3).ad) ((l.getD i l3).tr)) [(1002,1002),(1000,1000)]<|.br (.q 2<|.nil) (.q 2<|.nil)) (.q 1<|.nil)))
  ((fun (v5:Nat) (v4 v3 v2:V) (v1:Nat->Prop)=>((∃ j7:Nat,(v1 j7)/\E (.hd (.key 1000) [2,ix,5] 2 ga oa 0 v5 ca)/\E v4/\Q (iN v5) (iN l.length)/\Q (iN 0) (iN j7)/\Er gb v3/\Er gt v2/\True)/\∀ i:Nat,(v1 i)->(fun v6:s7=>Br (r5 (i:Int) (l.length:Int)) (In (i:Int) v5/\(V.at gt 0 v2 [2,ix,5,0+i]=some (ga,(oa+(0+i)*2),cZ (v6.ad) (v6.tr)))/\(sD n b7 zs se ls gt g o c ix y ga oa ca l gb (v6.ad) (v6.tr)).sm/\Er gb v3/\Er gt v2/\((ix<zs.length)/\((v6.ad).length<=1000)/\(o8 (v6.ad))/\(y.gr.ru.length<=1000)/\(∀ i,(y.gr.ru.getD i ⟨false,[]⟩).path.length<=1000))/\Br (!(QA y (v6.ad))) (Q (iN i) (iV (M9 y l))/\Er gb v3/\Er gt v2) (m6 ((i:Int)+1)/\∃ b9:Nat,(v1 b9)/\(l.length-b9<l.length-i)/\E (.hd (.key 1000) [2,ix,5] 2 ga oa 0 v5 ca)/\E v4/\E (iN l.length)/\Q (iN (i+1)) (iN b9)/\Er gb v3/\Er gt v2/\True)) (Q (iV (-1)) (iV (M9 y l))/\Er gb v3/\Er gt v2)) (l.getD i l3))) ((l.map an).length) (.lit (.func (.func 142) #[] #[.pointer (some ⟨gb,0,none⟩)])) (.ptr (.key 1000) [2,ix] g (o+ix*8)) (ba n b7 zs ix y l ga oa ca g o c se ls) (fun j7:Nat=>j7<=l.length/\∀ j,j<j7->QA y (l.getD j l3).ad=true)) ?_
 refine⟨⟨0,?_,rfl,rfl,Zah,aQ⟩,?_⟩;simp;rintro i ⟨h1,h2⟩;refine bI (fun j8=>?_) fun j8=>?_;have M7:=hx _ (aO (d:=l3) (show i<l.length by omega));refine aM ⟨Zd8,rfl,rfl,rfl,⟨hi,M7.1,M7.2,hr,UM⟩,bI (fun l4=>?_) fun l4=>?_⟩;refine⟨?_,aQ⟩;rw[Lh (i:=i) Zac Zcg h2];refine aM ⟨i+1,?_,?_,aQ⟩;exact⟨Zac,Zdw⟩;exact Zak;refine⟨?_,aQ⟩;rw[Lv (fun j hj=>h2 j Zac)])
abbrev rE(n:BL)(b7:Int)(zs:List l5)(se:List BL)(ls:List r4)(gt g o c ix:Nat)(y:l5)(ga oa ca:Nat)(l:List s7)(gb:Nat):V:=.hd (.key 1000) [2,ix,5] 2 ga oa 0 ((l.filter (Qv y)).length) ca
abbrev pk(n:BL)(b7:Int)(zs:List l5)(se:List BL)(ls:List r4)(gt g o c ix:Nat)(y:l5)(ga oa ca:Nat)(l:List s7)(gb w i:Nat)(u:List s7):Prop:=w<i/\i<=l.length/\u.length=l.length/\u.take w=(l.take i).filter (Qv y)/\u.drop i=l.drop i
def Gc(n:BL)(b7:Int)(zs:List l5)(se:List BL)(ls:List r4)(gt g o c ix:Nat)(y:l5)(ga oa ca:Nat)(l:List s7)(gb:Nat):aw:=.mk 141 [.hd (.key 1000) [2,ix,5] 2 ga oa 0 ((l.map an).length) ca,.lit (.func (.func 142) #[] #[.pointer (some ⟨gb,0,none⟩)])] [(1002,(gb,.ptr (.key 1000) [2,ix] g (o+ix*8))),(1000,(gt,ba n b7 zs ix y l ga oa ca g o c se ls))] ((ix<zs.length)/\(l.length<=1000)/\(∀ x,x∈l->x.ad.length<=1000/\o8 x.ad)/\(y.gr.ru.length<=1000)/\(∀ i,(y.gr.ru.getD i ⟨false,[]⟩).path.length<=1000)) (rE n b7 zs se ls gt g o c ix y ga oa ca l gb) [(1002,(gb,.ptr (.key 1000) [2,ix] g (o+ix*8))),(1000,(gt,ba n b7 zs ix y (jG y l) ga oa ca g o c se ls))] (by
 rintro⟨hi,hl,hx,hr,UM⟩
 refine au Tryz.func141
  (.q 1<|.q 2<|.c (FJ n b7 zs se ls gt g o c ix y ga oa ca l gb) [(1002,1002),(1000,1000)]<|.q 1<|.q 2<|.br (.q 2<|.nil) (.q 3<|.loop (Nat×Nat×(List s7)) (fun (w,i,u)=>⟨[(0,.hd (.key 1000) [2,ix,5] 2 ga oa 0 ((l.map an).length) ca),(1,.lit (.func (.func 142) #[] #[.pointer (some ⟨gb,0,none⟩)])),(5,iN w),(6,iN i)],[(1002,(gb,.ptr (.key 1000) [2,ix] g (o+ix*8))),(1000,(gt,ba n b7 zs ix y u ga oa ca g o c se ls))]⟩) (fun (w,i,u)=>pk n b7 zs se ls gt g o c ix y ga oa ca l gb w i u) (fun (w,i,u)=>l.length-i) (fun (w,i,u)=>.q 4<|.br (.r 4 [cZ ((u.getD i l3).ad) ((u.getD i l3).tr)]<|.al ox (fun g7=>.st none<|.r 2 [.c9]<|.c (sD n b7 zs se ls gt g o c ix y ga oa ca u gb ((u.getD i l3).ad) ((u.getD i l3).tr)) [(1002,1002),(1000,1000)]<|.q 1<|.br (.r 4 [.c9]<|.st (some (cZ ((u.getD w l3).ad) ((u.getD w l3).tr)))<|.h (.s8 1000 (ba n b7 zs ix y (u.set w (⟨(u.getD i l3).ad,(u.getD i l3).tr⟩:s7)) ga oa ca g o c se ls))<|.q 3<|.q 3<|.nil) (.q 3<|.nil))) (.q 3<|.cu (clC 1000 [2,ix,5] w (l.length-w) 2 (u.map an) ga oa ca g (o+(ix)*8+7) ox) (fun _=>.h (.s8 1000 (ba n b7 zs ix y (u.take w++List.replicate (l.length-w) l3) ga oa ca g o c se ls))<|.q 4<|.nil)))))
  ((fun (v6 v5 v4 v2:V) (v3:Nat) (v1:Nat->Nat->((List s7))->Prop)=>((FJ n b7 zs se ls gt g o c ix y ga oa ca l gb).sm/\Er gb v2/\Er gt v5/\((ix<zs.length)/\(l.length<=1000)/\(∀ x,x∈l->x.ad.length<=1000/\o8 x.ad)/\(y.gr.ru.length<=1000)/\(∀ i,(y.gr.ru.getD i ⟨false,[]⟩).path.length<=1000))/\Br (o6 (M9 y l) (-1)) (Q (.hd (.key 1000) [2,ix,5] 2 ga oa 0 v3 ca) (rE n b7 zs se ls gt g o c ix y ga oa ca l gb)/\Er gb v2/\Qr gt v5 gt v6) (m6 ((M9 y l)+1)/\(∃ x:Nat×Nat×(List s7),match x with | (U1,j7,H9)=>(v1 U1 j7 H9)/\E (.hd (.key 1000) [2,ix,5] 2 ga oa 0 v3 ca)/\E v4/\Q (iV (M9 y l)) (iN U1)/\Q (iV ((M9 y l)+1)) (iN j7)/\Er gb v2/\Qr gt v5 gt (ba n b7 zs ix y H9 ga oa ca g o c se ls)/\True)/\∀ x:Nat×Nat×(List s7),match x with | (w,i,u)=>(v1 w i u)->(fun (v8:s7) (v7:V)=>Br (r5 (i:Int) (((l.map an).length:Nat):Int)) (In (i:Int) v3/\(V.at gt 0 v7 [2,ix,5,0+i]=some (ga,(oa+(0+i)*2),cZ (v8.ad) (v8.tr)))/\∀ g7:Nat,Z g7 0/\Z g7 0/\(sD n b7 zs se ls gt g o c ix y ga oa ca u gb (v8.ad) (v8.tr)).sm/\Er gb v2/\Er gt v7/\((ix<zs.length)/\((v8.ad).length<=1000)/\(o8 (v8.ad))/\(y.gr.ru.length<=1000)/\(∀ i,(y.gr.ru.getD i ⟨false,[]⟩).path.length<=1000))/\Br (!(!(QA y (v8.ad)))) (Z g7 0/\In (w:Int) v3/\(V.at gt 0 v7 [2,ix,5,0+w]=some (ga,(oa+(0+w)*2),cZ ((u.getD w l3).ad) ((u.getD w l3).tr)))/\(V.set v7 [2,ix,5,0+w] (cZ (v8.ad) (v8.tr))=ba n b7 zs ix y (u.set w (⟨v8.ad,v8.tr⟩:s7)) ga oa ca g o c se ls)/\m6 ((w:Int)+1)/\m6 ((i:Int)+1)/\∃ x:Nat×Nat×(List s7),match x with | (Sr,b9,C7)=>(v1 Sr b9 C7)/\(l.length-b9<l.length-i)/\E (.hd (.key 1000) [2,ix,5] 2 ga oa 0 v3 ca)/\E v4/\Q (iN (w+1)) (iN Sr)/\Q (iN (i+1)) (iN b9)/\Er gb v2/\Qr gt (ba n b7 zs ix y (u.set w (⟨v8.ad,v8.tr⟩:s7)) ga oa ca g o c se ls) gt (ba n b7 zs ix y C7 ga oa ca g o c se ls)/\True) (m6 ((i:Int)+1)/\∃ x:Nat×Nat×(List s7),match x with | (Sr,b9,C7)=>(v1 Sr b9 C7)/\(l.length-b9<l.length-i)/\E (.hd (.key 1000) [2,ix,5] 2 ga oa 0 v3 ca)/\E v4/\Q (iN w) (iN Sr)/\Q (iN (i+1)) (iN b9)/\Er gb v2/\Qr gt v7 gt (ba n b7 zs ix y C7 ga oa ca g o c se ls)/\True)) (((0:Int)<=(w:Int)/\(w:Int)<=((l.map an).length:Int)/\((l.map an).length:Int)<=v3/\2=2)/\((((48:Nat),(.key 1000:m4),([2,ix,5]:List Nat),2,ga,oa,(0+w),(v3-w))=((48:Nat),(.key 1000:m4),([2,ix,5]:List Nat),2,ga,oa,w,(l.length-w)))/\(V.at gt 0 v7 [2,ix,5]=some (g,o+(ix)*8+7,.own 2 (u.map an) ga oa ca))/\(w+(l.length-w)<=(u.map an).length)/\(V.ax (u.map an)=false)/\(aR 2 (u.map an))/\((.agg [sV [],iN 0]:V).n=2))/\∀ _:Unit,(V.set v7 [2,ix,5] (.own 2 ((u.map an).take w++List.replicate (l.length-w) (.agg [sV [],iN 0]:V)++(u.map an).drop (w+(l.length-w))) ga oa ca)=ba n b7 zs ix y (u.take w++List.replicate (l.length-w) l3) ga oa ca g o c se ls)/\((0:Int)<=(0:Int)/\(0:Int)<=(w:Int)/\(w:Int)<=v3/\2=2)/\Q (.hd (.key 1000) [2,ix,5] 2 ga oa (0+((0:Int).toNat)) (w-((0:Int).toNat)) (ca-((0:Int).toNat))) (rE n b7 zs se ls gt g o c ix y ga oa ca l gb)/\Er gb v2/\Qr gt (ba n b7 zs ix y (u.take w++List.replicate (l.length-w) l3) ga oa ca g o c se ls) gt v6)) (u.getD i l3) (ba n b7 zs ix y u ga oa ca g o c se ls)))) (ba n b7 zs ix y (jG y l) ga oa ca g o c se ls) (ba n b7 zs ix y l ga oa ca g o c se ls) (.lit (.func (.func 142) #[] #[.pointer (some ⟨gb,0,none⟩)])) (.ptr (.key 1000) [2,ix] g (o+ix*8)) ((l.map an).length) (fun (U1:Nat) (j7:Nat) (H9:(List s7))=>pk n b7 zs se ls gt g o c ix y ga oa ca l gb U1 j7 H9)) ?_
 refine⟨rfl,rfl,rfl,⟨hi,hl,hx,hr,UM⟩,bI (fun j8=>?_) fun j8=>?_⟩;refine⟨?_,rfl,by rw[Mq j8]⟩;unfold Q rE;rw[EG j8,Zay];refine⟨by have:=yK y l;omega,⟨⟨((M9 y l).toNat,(M9 y l).toNat+1,l),?_,rfl,rfl,by refine Zbm iV ?_;have:=yK y l;omega,by refine Zbm iV ?_;have:=yK y l;omega,aQ⟩,?_⟩⟩;unfold pk;exact Ol j8;rintro⟨w,i,u⟩ ⟨h1,h2,h3,h4,h5⟩;refine bI (fun l4=>?_) fun l4=>?_;have M7:=hx _ (aO (d:=l3) (show i<l.length by omega));have hu:u.getD i l3=l.getD i l3:=ry h5;refine aM ⟨Zd8,fun g7=>dN ⟨⟨hi,by rw[hu];exact M7.1,by rw[hu];exact M7.2,hr,UM⟩,bI (fun m8=>?_) fun m8=>?_⟩⟩;refine bS ⟨Zd8,nL (Kx (dj Zac) (ON (bC (x:=.agg [sV ((u.getD w l3).ad),iV ((u.getD w l3).tr)]) (by rw[Zaw];exact ag (d:=l3) Zac) (by rw[Zaw];exact(List.map_set (f:=an) (l:=u) (i:=w) (a:=(⟨(u.getD i l3).ad,(u.getD i l3).tr⟩:s7))).symm))) (kX Zac)),bS ⟨(w+1,i+1,u.set w (⟨(u.getD i l3).ad,(u.getD i l3).tr⟩:s7)),?_,?_,aQ⟩⟩;unfold pk;first | exact LO Zcg h1 h3 h4 h5 Zda | exact KW Zcg h1 h3 h4 h5 Zda
 exact Zak;refine aM ⟨(w,i+1,u),?_,?_,aQ⟩;unfold pk;first | exact LO Zcg h1 h3 h4 h5 Zda | exact KW Zcg h1 h3 h4 h5 Zda
 exact Zak;refine⟨⟨Zac,Zc7,aQ⟩,⟨Zad,aM ⟨Zc7,Zd9,bX (f:=an) (fun _=>rfl) _,rfl⟩⟩,fun _=>⟨Eq.trans (Zbm (fun r:V=>V.set _ [2,ix,5] r) (Zbm (V.own 2 · ga oa ca) (KP h3))) (nL (bC (dj Zac) (kX Zac))),bS ⟨Zc7,rfl⟩,⟨?_,rfl,by rw[LR Zcg h1 h2 h3 h4]⟩⟩⟩;unfold Q rE;rw[ME Zcg h1 h2 h3 h4];rfl)
def Gf(n:BL)(b7:Int)(zs:List l5)(se:List BL)(ls:List r4)(gt g o c ix:Nat)(y:l5)(ga oa ca:Nat)(l:List s7):aw:=.mk 145 [.hd (.key 1000) [2,ix,5] 2 ga oa 0 ((l.map an).length) ca,iV 0,iV 1] [(1000,(gt,ba n b7 zs ix y l ga oa ca g o c se ls))] ((ix<zs.length)/\(0<l.length/\l.length<=1000)) (.hd (.key 1000) [2,ix,5] 2 ga oa 0 (l.length-1) ca) [(1000,(gt,ba n b7 zs ix y (l.drop 1++[l3]) ga oa ca g o c se ls))] (by
 rintro⟨hi,hl⟩
 refine au Tryz.func145
  (.q 1<|.q 5<|.cu (sdC ((l.map an).length) (0:Int) (1:Int) (((l.map an).length:Nat):Int)) (fun _=>.q 3<|.br (.nil) (.q 3<|.C6 6 []<|.l8 6<|.cu (saC 1000 [2,ix,5] 1 (l.length-1) 2 (l.map an) ga oa ca g (o+(ix)*8+7)) (fun _=>.h (.s8 1000 (ba n b7 zs ix y (l.drop 1++l.drop (l.length-1)) ga oa ca g o c se ls))<|.q 1<|.q 4<|.cu (sbC 1000 [2,ix,5] 2 ((l.drop 1++l.drop (l.length-1)).map an) ga oa ca (l.length-1) g (o+(ix)*8+7) (l.length-1) ((l.map an).length)) (fun _=>.cu (clC 1000 [2,ix,5] (l.length-1) 1 2 ((l.drop 1++l.drop (l.length-1)).map an) ga oa ca g (o+(ix)*8+7) ox) (fun _=>.h (.s8 1000 (ba n b7 zs ix y (l.drop 1++[l3]) ga oa ca g o c se ls))<|.q 2<|.nil))))))
  ((fun (v3:V) (v2:Nat) (v1:List V)=>(fun (v5:Int) (v4:Prop)=>((((iV 0):V)=.lit (.int .i64 (0:Int))/\((iV 1):V)=.lit (.int .i64 (1:Int))/\((iN v2):V)=.lit (.int .i64 v5)/\v2=v2/\(0:Int)<=(0:Int)/\(0:Int)<=(1:Int)/\(1:Int)<=v5/\v5<=v2)/\∀ _:Unit,Br (o6 0 1) (False) (((0:Int)<=(0:Int)/\(0:Int)<=(0:Int)/\(0:Int)<=v2/\2=2)/\((0:Int)<=(1:Int)/\(1:Int)<=((l.map an).length:Int)/\((l.map an).length:Int)<=v2/\2=2)/\((((.key 1000:m4),([2,ix,5]:List Nat),2,ga,oa,(0+(Int.toNat 1)),(v2-(Int.toNat 1)))=((.key 1000:m4),([2,ix,5]:List Nat),2,ga,oa,1,(l.length-1)))/\((.hd (.key 1000) [2,ix,5] 2 ga oa (0+((0:Int).toNat)) ((Int.toNat 0)-((0:Int).toNat)) (ca-((0:Int).toNat)):V)=.hd (.key 1000) [2,ix,5] 2 ga oa 0 0 ca)/\(V.at gt 0 (ba n b7 zs ix y l ga oa ca g o c se ls) [2,ix,5]=some (g,o+(ix)*8+7,.own 2 (l.map an) ga oa ca))/\((2:Nat)=2)/\(0<(l.map an).length)/\(1+(l.length-1)<=(l.map an).length)/\(V.ax (l.map an)=false)/\(aR 2 (l.map an))/\(ca-(Int.toNat 1))=(ca-(Int.toNat 1)))/\∀ _:Unit,(V.set (ba n b7 zs ix y l ga oa ca g o c se ls) [2,ix,5] (.own 2 (((l.map an).drop 1).take (l.length-1)++(l.map an).drop (l.length-1)) ga oa ca)=ba n b7 zs ix y (l.drop 1++l.drop (l.length-1)) ga oa ca g o c se ls)/\(((.hd (.key 1000) [2,ix,5] 2 ga oa 0 (l.length-1) ca):V)=.hd (.key 1000) [2,ix,5] 2 ga oa 0 (l.length-1) ca/\v4/\((iN (l.length-1)):V)=.lit (.int .i64 (((l.length-1):Nat):Int))/\((iN v2):V)=.lit (.int .i64 ((v2:Nat):Int))/\((2:Nat)=2)/\(l.length-1)<=v2/\v2<=v1.length)/\∀ _:Unit,((((48:Nat),(.key 1000:m4),([2,ix,5]:List Nat),2,ga,oa,(l.length-1),(v2-(l.length-1)))=((48:Nat),(.key 1000:m4),([2,ix,5]:List Nat),2,ga,oa,(l.length-1),1))/\v4/\((l.length-1)+1<=v1.length)/\(V.ax v1=false)/\(aR 2 v1)/\((.agg [sV [],iN 0]:V).n=2))/\∀ _:Unit,(V.set v3 [2,ix,5] (.own 2 (v1.take (l.length-1)++List.replicate 1 (.agg [sV [],iN 0]:V)++v1.drop ((l.length-1)+1)) ga oa ca)=ba n b7 zs ix y (l.drop 1++[l3]) ga oa ca g o c se ls)/\Q (.hd (.key 1000) [2,ix,5] 2 ga oa 0 (l.length-1) ca) (.hd (.key 1000) [2,ix,5] 2 ga oa 0 (l.length-1) ca)/\Er gt (ba n b7 zs ix y (l.drop 1++[l3]) ga oa ca g o c se ls)))) (((l.map an).length:Nat):Int) (V.at gt 0 v3 [2,ix,5]=some (g,o+(ix)*8+7,.own 2 v1 ga oa ca))) (ba n b7 zs ix y (l.drop 1++l.drop (l.length-1)) ga oa ca g o c se ls) ((l.map an).length) ((l.drop 1++l.drop (l.length-1)).map an)) ?_
 refine⟨aQ,fun _=>bI (fun j8=>?_) fun j8=>?_⟩;exact absurd j8 Zaf;refine⟨aQ,⟨Zac,Zc7,aQ⟩,⟨Zad,bN ⟨Zal,Zal,Zd9,bX (f:=an) (fun _=>rfl) _,rfl⟩⟩,fun _=>⟨Eq.trans (Zbm (fun r:V=>V.set _ [2,ix,5] r) (Zbm (V.own 2 · ga oa ca) (NU))) (nL (bC (dj Zac) (kX Zac))),bN ⟨Zad,rfl,Zad,Zcf⟩,fun _=>⟨⟨Zal,aM ⟨Zal,Zd9,bX (f:=an) (fun _=>rfl) _,rfl⟩⟩,fun _=>⟨Eq.trans (Zbm (fun r:V=>V.set _ [2,ix,5] r) (Zbm (V.own 2 · ga oa ca) (Lo Zac))) (nL (bC (dj Zac) (kX Zac))),⟨?_,rfl⟩⟩⟩⟩⟩;rfl)
section
variable {P:Program} {N:Nat} {A A' B:AS}
theorem Ky{o:Oper}{K K':AS->Prop}(h:F9 P N o A K)(hK:∀ B,K B->∃ B',E1 B B'/\K' B'):F9 P N o A K':=
 fun Pb Kb a w F Q hs=>Oper.wp_mono (fun a' w' ⟨B,Pb',E7,F',hk,B0,h1⟩=>by
  obtain⟨B',e,Rv⟩:=hK B hk;exact⟨B',Pb',E7,F',Rv,B0.eqv e,h1⟩) (h Pb Kb a w F Q hs)
def vX(A:AS)(ρ:m4->m4)(H:List (Nat×(Nat×V)))(q gq:Nat)(vq:V):List (Nat×Nat)->Prop
 | []=>True
 | (k,q')::r=>(match lk k H with
    | some (g,v)=>(match q'==q with
      | true=>(g,v.Q9 ρ)=(gq,vq)
      | false=>(match lk q' A.h with
        | some (g2,v2)=>(g,v.Q9 ρ)=(g2,v2)
        | none=>False))
    | none=>False)/\vX A ρ H q gq vq r
theorem yh{ρ:m4->m4}{H:List (Nat×(Nat×V))}{q gq:Nat}{vq:V}:∀ {ks:List (Nat×Nat)} {k q':Nat},vX A ρ H q gq vq ks->(k,q')∈ks->(lk k H).map (fun gv=>(gv.1,gv.2.Q9 ρ))=if q'=q then some (gq,vq) else lk q' A.h
 | [],_,_,_,h=>by simp at h
 | (k0,q0)::ks,k,q',h,hm=>by
   rcases List.mem_cons.1 hm with e | hm;cases e;have h1:=h.1;split at h1;rename_i g v hk;rw[hk];split at h1;rename_i e;rw[if_pos Zb3];simp only[Option.map_some,Zan];exact h1;rename_i e;rw[if_neg Zb3];split at h1;rename_i g2 v2 e2;rw[e2];simp only[Option.map_some,Zan];exact h1;exact h1.elim;exact h1.elim;exact yh h.2 hm
theorem Gt{H:List (Nat×(Nat×V))}{q gq:Nat}{vq:V}{ks:List (Nat×Nat)}(h1:P0 (ks.map (·.1))=true)(hn:P0 (ks.map (·.2))=true)(h:vX A (jO ks) H q gq vq ks)(hq:q∈ks.map (·.2))(k:Nat):
 lk k (A.back ks H).h=if k=q then some (gq,vq) else lk k A.h:=by
 by_cases hk:k∈ks.map (·.2);obtain⟨⟨k0,q0⟩,hm,rfl⟩:=List.mem_map.1 hk;have hs:lk q0 (Rq ks)=some k0:=(oY h1 hn).1 (od h1 hm);have:=yh h hm;simp only[AS.back];rw[lr,px hn,hs];simp only[Option.bind_some];rw[this];split;rename_i v e;rw[<- e];rename_i e;split at e;cases e;rename_i hne;rw[iF,hs,if_neg hne,e];rfl;rw[Co hn hk,if_neg (by rintro rfl;exact hk hq)]
def ceE(c:WD P)(ks:List (Nat×Nat))(q gq:Nat)(vq:V):Eu P where
 X:=Unit
 pre N o A Sl Hl:=match o.op,o.dst with
  | .call ⟨.value fx,xs,_⟩,some d=>match A.ev fx,A.tk xs.toList with
    | .lit (.func (.func f) first A7),(vs,_)=>match f==c.f&&Nat.blt d N&&P0 (ks.map (·.1))&&P0 (ks.map (·.2))&&c.args.length==(first.toList.map cV++vs++A7.toList.map cV).length&&(fh A xs.toList).isEmpty&&Sl.contains d&&Hl.contains q&&(ks.map (·.2)).contains q with
      | true=>Qa (first.toList.map cV++vs++A7.toList.map cV) c.args=c.args/\nr A ks c.H (c.pre/\vX A (jO ks) c.H' q gq vq ks)
      | false=>False
    | _,_=>False
  | _,_=>False
 U o _ _ B:=⟨(B.put o.dst (c.res.Q9 (jO ks))).t,(q,(gq,vq))::B.h⟩
 WH:=by
  rintro N ⟨dst,op,ty,pos,after,D8⟩ A Sl Hl hp fs;simp only at hp;split at hp;rename_i fx xs N2 d;split at hp;rename_i f first A7 vs A2 e1 e2
  split at hp;rename_i e3;simp only[Zao,Zbi,Zbk]at e3;have hd:d∈Sl:=e3.1.1.2;have hq:q∈Hl:=e3.1.2;refine⟨fun g B t ht=>?_,fun g B k hk=>?_,fun g B B' hB=>?_,fun g B q2 v' YE _=>?_,fun g B k gv hk=>?_⟩;show (B.put (some d) _).get t=_;rw[AS.aC,if_neg (fun c=>ht (by rw[c];exact hd))];simp only[lk];rw[if_neg (fun c=>hk (by rw[c];exact hq))];refine⟨fun t=>?_,fun k=>?_⟩;show (B.put (some d) _).get t=(B'.put (some d) _).get t;rw[AS.aC,AS.aC,hB.1 t];simp only[lk,hB.2 k];refine⟨fun t=>?_,fun k=>rfl⟩;show ((B.put (some q2) v').put (some d) _).get t=((B.put (some d) _).put (some q2) v').get t;rw[AS.aC,AS.aC,AS.aC,AS.aC];by_cases c:t=d;subst c;rw[if_pos rfl,if_neg (fun c=>YE (by rw[<- c];exact hd)),if_pos rfl];rw[if_neg c,if_neg c];refine⟨fun _=>rfl,fun k2=>?_⟩;simp only[lk];by_cases c:k2=q;subst c;rw[if_pos rfl,if_neg (fun c=>hk (by rw[<- c];exact hq)),if_pos rfl];rw[if_neg c,if_neg c];exact hp.elim;exact hp.elim;exact hp.elim
 ok:=by
  rintro N ⟨dst,op,ty,pos,after,D8⟩ A A' Sl Hl hg hp hA hR;simp only at hg;subst hg;simp only at hp;split at hp;rename_i fx xs N2 d;split at hp;rename_i f first A7 vs A2 e1 e2
  split at hp;rename_i e3;simp only[Zao,Zbi,Zbk,Zbl,List.isEmpty_iff]at e3;obtain⟨⟨⟨⟨⟨⟨⟨⟨rfl,Vg⟩,k1⟩,k2⟩,hlen⟩,L5⟩,hd⟩,hq⟩,hqk⟩:=e3;obtain⟨hargs,hrj⟩:=hp;obtain⟨SC,T9,YV⟩:=jr hrj;have Xh:A'.ev fx=A.ev fx:=bB fun t ht=>hA t Zb0;obtain⟨t1,t2⟩:=tX xs.toList (A:=A) (A':=A') fun t ht=>hA t (by simp only[Op.operands,Call.operands];simp;right;simpa using ht);have V3:=tG xs.toList (A:=A');rw[t2,L5]at V3;have X4:(A.tk xs.toList).1=vs:=by rw[e2]
  refine Ky (nZ (A:=A') (K:=fun B=>B=((A'.tk xs.toList).2.back ks c.H').put (some d) (c.res.Q9 (jO ks))) ks rfl (by rw[Xh];exact e1) (bG Vg) k1 k2 (c.ok T9) (by rw[t1,X4];exact hargs) (by rw[t1,X4];exact hlen)
   (mb (fun k _=>(V3.2 k).trans (hR k)) SC) ?_) ?_
  rintro r H0 ⟨rfl,rfl⟩;rfl;rintro B rfl;refine⟨_,⟨fun t=>?_,fun k=>?_⟩,(),rfl⟩;show (AS.put _ (some d) _).get t=(A'.put (some d) _).get t;rw[AS.aC,AS.aC];split;rfl;exact V3.1 t;show lk k ((A'.tk xs.toList).2.back ks c.H').h=lk k ((q,(gq,vq))::A'.h);rw[pD (B:=A) (fun k=>(V3.2 k).trans (hR k)),Gt k1 k2 YV hqk];simp only[lk,hR k];exact hp.elim;exact hp.elim;exact hp.elim
end
end Go.Proofs.YtjkdagkclihpjaaGreatDoor