/-
  Words and walks for the laws of pedlar's seat: what each function of the program computes, and that it does; no conditions beyond those that each statement names.
-/
import Derived.Test.YtelggdgnblpjdaaGreatDoorGC
import Derived.Test.YtelggdgnblpjdaaGreatDoorGB
set_option linter.unusedVariables false
set_option linter.unusedSimpArgs false
set_option linter.unnecessarySimpa false
set_option linter.unusedSectionVars false
namespace Go.Proofs.YtelggdgnblpjdaaGreatDoor
open Go Go.RowKit
set_option maxRecDepth 20000
theorem Cr{s:BL}{e nx:List Bool}{c:UInt8}{m:Nat}(hc:(c.toNat:Int)=42)(hm:m<e.length)(hq:∀ k,k<m->nx.getD k false=NA c s e k):(e.getD m false||s7 (m:Int) 0&&nx.getD ((m:Int)-1).toNat false)=NA c s e m:=by
 have hc:c=42:=by rw[<- UInt8.toNat_inj];show c.toNat=42;omega
 subst hc
 rw[EV hm]
 congr 1
 unfold s7
 by_cases h:0<m
 rw[show ((m:Int)-1).toNat=m-1 from Z9,hq (m-1) Z9,decide_eq_true Z9,decide_eq_true h]
 rw[decide_eq_false Z9,decide_eq_false h];rfl
theorem Bd{s:BL}{e:List Bool}{c:UInt8}{m:Nat}(hc: ¬ (c.toNat:Int)=42):(s7 (m:Int) 0&&e.getD ((m:Int)-1).toNat false&&o6 (((s.getD ((m:Int)-1).toNat 0).toNat:Nat):Int) ((c.toNat:Nat):Int))=NA c s e m:=by
 have hc: ¬ c=42:=by rintro rfl;exact hc rfl
 unfold NA s7 o6
 rw[if_neg hc]
 by_cases h:0<m
 rw[show ((m:Int)-1).toNat=m-1 from Z9,decide_eq_true Z9,decide_eq_true h,Bool.and_assoc]
 congr 2
 rw[ZE,Zp,Zp,<- UInt8.toNat_inj]
 omega
 rw[decide_eq_false Z9,decide_eq_false h];rfl
def vg(l:List Bool)(b:Bool):o8 Tryz.prog:=.mk 158 [.sl false (l.map bV),bV b] [] (l.length<=1000000) (iV (cS l b)) [] (by
 intro hl
 refine aq (N:=19) (rs:=[.tmp 4]) Tryz.func158
  (.q 1<|.q 3<|.loop (Nat) (fun (i:Nat)=>⟨[(0,.sl false (l.map bV)),(1,bV b),(6,.sl false (l.map bV)),(7,iN l.length),(8,iN i)],[]⟩) (fun (i:Nat)=>i<=l.length/\∀ j,j<i->l.getD j false≠b) (fun (i:Nat)=>l.length-i) (fun (i:Nat)=>.q 1<|.br (.q 2<|.r 6 [bV (l.getD i false)]<|.br (.q 2<|.nil) (.q 2<|.nil)) (.q 1<|.nil)))
  ((fun v1:V=>((∃ h9:Nat,(h9<=l.length/\∀ j,j<h9->l.getD j false≠b)/\E v1/\E (bV b)/\E v1/\Q (iN ((l.map bV).length)) (iN l.length)/\Q (iN 0) (iN h9)/\True)/\∀ i:Nat,(i<=l.length/\∀ j,j<i->l.getD j false≠b)->Br (s4 (i:Int) (l.length:Int)) (Ex (i:Int) (l.map bV) (bV (l.getD i false))/\True/\Br (b==(l.getD i false)) (Q (iN i) (iV (cS l b))) (m6 ((i:Int)+1)/\∃ b9:Nat,(b9<=l.length/\∀ j,j<b9->l.getD j false≠b)/\(l.length-b9<l.length-i)/\E v1/\E (bV b)/\E v1/\E (iN l.length)/\Q (iN (i+1)) (iN b9)/\True)) (Q (iV (-1)) (iV (cS l b))))) (.sl false (l.map bV))) ?_
 refine⟨⟨0,?_,rfl,rfl,rfl,Z4,rfl,trivial⟩,?_⟩
 simp
 rintro i ⟨h1,h2⟩
 refine bI (fun j7=>?_) fun j7=>?_
 refine⟨⟨Z9,aj (d:=false) Z9⟩,trivial,?_⟩
 refine bI (fun l4=>?_) fun l4=>?_
 unfold Q
 rw[kT (i:=i) Z9 (by grind) h2]
 refine⟨Z9,?_⟩
 refine⟨i+1,?_,?_,rfl,rfl,rfl,rfl,rfl,trivial⟩
 exact⟨Z9,bE h2 (by grind)⟩
 exact Z1
 unfold Q
 rw[kj (fun j hj=>h2 j Z9)])
def CF(l:List Bool)(b:Bool):o8 Tryz.prog:=.mk 130 [.sl false (l.map bV),bV b] [] (l.length<=1000000) (bV (l.contains b)) [] (by
 intro hl
 refine aq (N:=9) (rs:=[.tmp 4]) Tryz.func130
  (.q 1<|.q 2<|.c (vg l b) []<|.q 2<|.nil)
  ((vg l b).sm/\((l.length<=1000000))/\Q (bV (x6 (cS l b) 0)) (bV (l.contains b))) ?_
 refine⟨rfl,Z5,?_⟩
 unfold Q
 refine Zo bV ?_
 rw[<- kN])
def tq(p:BL)(s:BL):o8 Tryz.prog:=.mk 105 [sV p,sV s] [] ((p.length<=1000000)/\(s.length<=1000000)) (bV (cQ p s)) [] (by
 rintro⟨hp,hs⟩
 refine aq (N:=99) (rs:=[.tmp 4]) Tryz.func105
  (.q 1<|.q 1<|.c (jc p) []<|.q 6<|.br (.q 1<|.nil) (.q 1<|.c (qQ p ([36]:BL)) []<|.q 5<|.h (.o4 22 (sV (bA p)))<|.h (.o4 5 (sV (bA p)))<|.h (.o4 23 (bV (eT p)))<|.h (.o4 6 (bV (eT p)))<|.q 3<|.cu (Xg W6 (s.length+1)) (fun Pn=>.h (.o4 27 (.own 1 ((List.replicate (s.length+1) false).map bV) Pn 0 (s.length+1)))<|.q 1<|.q 2<|.st (some (bV ((List.replicate (s.length+1) false).getD 0 false)))<|.h (.o4 7 (.own 1 (((List.replicate (s.length+1) false).set 0 true).map bV) Pn 0 (s.length+1)))<|.q 1<|.loop (Nat×(List Bool)×Nat×Nat×Nat) (fun (i,e,g,f,k)=>⟨[(1,sV s),(5,sV (bA p)),(6,bV (eT p)),(7,.own 1 (e.map bV) g f k),(8,iN i)],[]⟩) (fun (i,e,g,f,k)=>i<=(bA p).length/\e=ie s ((bA p).take i)) (fun (i,e,g,f,k)=>(bA p).length-i) (fun (i,e,g,f,k)=>.q 4<|.br (.q 3<|.cu (Xg W6 (s.length+1)) (fun MG=>.h (.o4 39 (.own 1 ((List.replicate (s.length+1) false).map bV) MG 0 (s.length+1)))<|.q 1<|.q 3<|.loop (Nat×(List Bool)×Nat×Nat×Nat) (fun (j,nx,u,v,z)=>⟨[(1,sV s),(5,sV (bA p)),(6,bV (eT p)),(7,.own 1 (e.map bV) g f k),(8,iN i),(9,.own 1 (nx.map bV) u v z),(40,.hd (.slot 9) [] 1 u v 0 ((nx.map bV).length) z),(41,iN (s.length+1)),(42,iN j)],[]⟩) (fun (j,nx,u,v,z)=>j<=s.length+1/\nx.length=s.length+1/\∀ m,m<j->nx.getD m false=NA ((bA p).getD i 0) s e m) (fun (j,nx,u,v,z)=>s.length+1-j) (fun (j,nx,u,v,z)=>.q 1<|.br (.q 2<|.q 4<|.br (.r 18 [bV (e.getD j false),bV (nx.getD (Int.toNat ((j:Int)-1)) false)]<|.st (some (bV (nx.getD j false)))<|.h (.o4 9 (.own 1 ((nx.set j ((e.getD j false)||((s7 (j:Int) 0)&&(nx.getD (Int.toNat ((j:Int)-1)) false)))).map bV) u v z))<|.q 2<|.nil) (.dx 21 [0,1,2,3,4,5,6,7,8,9,10,11,12,13,14,15,16,17,18,19,20] [(9,⟨false,[7],some [],[76],[]⟩)] []<|.q 1<|.q 1<|.q 1<|.q 1<|.q 1<|.q 1<|.q 1<|.q 1<|.q 1<|.r 1 [bV (e.getD (Int.toNat ((j:Int)-1)) false)]<|.q 1<|.q 1<|.q 1<|.q 1<|.q 1<|.q 1<|.q 1<|.q 1<|.q 1<|.q 1<|.q 1<|.q 1<|.st (some (bV (nx.getD j false)))<|.h (.o4 9 (.own 1 ((nx.set j (((s7 (j:Int) 0)&&(e.getD (Int.toNat ((j:Int)-1)) false))&&(o6 (((s.getD (Int.toNat ((j:Int)-1)) 0).toNat:Nat):Int) ((((bA p).getD i 0).toNat:Nat):Int)))).map bV) u v z))<|.q 2<|.nil)) (.q 1<|.h (.gg 90)<|.q 1<|.q 3<|.nil)))) (.q 1<|.br (.r 6 [bV (e.getD s.length false)]<|.nil) (.q 1<|.cl (CF e true)<|.q 1<|.nil))))))
  ((fun v1:V=>((jc p).sm/\((p.length<=4611686018427387904))/\Pk (!(dn p)) true ((!(dn p))==false)/\Br ((!(dn p))||(s7 (s.length:Int) 60)) (Q (bV false) (bV (cQ p s))) ((qQ p ([36]:BL)).sm/\((p.length<=4611686018427387904)/\(([36]:BL).length<=4611686018427387904))/\((sV (bU p ([36]:BL)):V)=sV (bA p))/\((sV (bU p ([36]:BL)):V)=sV (bA p))/\((bV (fO p ([36]:BL)):V)=bV (eT p))/\((bV (fO p ([36]:BL)):V)=bV (eT p))/\m6 ((s.length:Int)+1)/\((((4:Nat)=4)/\((1:Nat)=1)/\(∃ x,(bV false:V).lits=some [x])/\(bV false:V).n=1)/\(v1=.lit (.int .i64 ((s.length+1:Nat):Int)))/\(v1=.lit (.int .i64 ((s.length+1:Nat):Int)))/\1<=(s.length+1:Nat)/\(s.length+1:Nat)*1<=140737488355328/\(s.length+1:Nat)<=9223372036854775807)/\∀ Pn:Nat,((.own 1 (List.replicate (s.length+1) (bV false)) Pn 0 (s.length+1):V)=.own 1 ((List.replicate (s.length+1) false).map bV) Pn 0 (s.length+1))/\In 0 (((List.replicate (s.length+1) false).map bV).length)/\(V.at Pn 0 (.own 1 ((List.replicate (s.length+1) false).map bV) Pn 0 (s.length+1)) [0+0]=some (Pn,(0+(0+0)*1),bV ((List.replicate (s.length+1) false).getD 0 false)))/\(V.set (.own 1 ((List.replicate (s.length+1) false).map bV) Pn 0 (s.length+1)) [0+0] (bV true)=.own 1 (((List.replicate (s.length+1) false).set 0 true).map bV) Pn 0 (s.length+1))/\(∃ x:Nat×(List Bool)×Nat×Nat×Nat,match x with | (h9,C8,A5,x9,r9)=>(h9<=(bA p).length/\C8=ie s ((bA p).take h9))/\E (sV s)/\E (sV (bA p))/\E (bV (eT p))/\Q (.own 1 (((List.replicate (s.length+1) false).set 0 true).map bV) Pn 0 (s.length+1)) (.own 1 (C8.map bV) A5 x9 r9)/\Q (iN 0) (iN h9)/\True)/\∀ x:Nat×(List Bool)×Nat×Nat×Nat,match x with | (i,e,g,f,k)=>(i<=(bA p).length/\e=ie s ((bA p).take i))->Br (s4 (i:Int) (((bA p).length:Nat):Int)) (m6 ((s.length:Int)+1)/\((((4:Nat)=4)/\((1:Nat)=1)/\(∃ x,(bV false:V).lits=some [x])/\(bV false:V).n=1)/\(v1=.lit (.int .i64 ((s.length+1:Nat):Int)))/\(v1=.lit (.int .i64 ((s.length+1:Nat):Int)))/\1<=(s.length+1:Nat)/\(s.length+1:Nat)*1<=140737488355328/\(s.length+1:Nat)<=9223372036854775807)/\∀ MG:Nat,((.own 1 (List.replicate (s.length+1) (bV false)) MG 0 (s.length+1):V)=.own 1 ((List.replicate (s.length+1) false).map bV) MG 0 (s.length+1))/\(∃ x:Nat×(List Bool)×Nat×Nat×Nat,match x with | (OD,OR,G3,Uk,Uh)=>(OD<=s.length+1/\OR.length=s.length+1/\∀ m,m<OD->OR.getD m false=NA ((bA p).getD i 0) s e m)/\E (sV s)/\E (sV (bA p))/\E (bV (eT p))/\E (.own 1 (e.map bV) g f k)/\E (iN i)/\Q (.own 1 ((List.replicate (s.length+1) false).map bV) MG 0 (s.length+1)) (.own 1 (OR.map bV) G3 Uk Uh)/\Q (.hd (.slot 9) [] 1 MG 0 0 (((List.replicate (s.length+1) false).map bV).length) (s.length+1)) (.hd (.slot 9) [] 1 G3 Uk 0 ((OR.map bV).length) Uh)/\Q (iN (((List.replicate (s.length+1) false).map bV).length)) (iN (s.length+1))/\Q (iN 0) (iN OD)/\True)/\∀ x:Nat×(List Bool)×Nat×Nat×Nat,match x with | (j,nx,u,v,z)=>(j<=s.length+1/\nx.length=s.length+1/\∀ m,m<j->nx.getD m false=NA ((bA p).getD i 0) s e m)->Br (s4 (j:Int) ((s.length+1:Nat):Int)) (Ix (i:Int) (bA p)/\Br (o6 ((((bA p).getD i 0).toNat:Nat):Int) 42) (In (j:Int) ((e.map bV).length)/\(V.at g f (.own 1 (e.map bV) g f k) [0+j]=some (g,(f+(0+j)*1),bV (e.getD j false)))/\Gd (((e.getD j false)==false)&&((s7 (j:Int) 0)==true)) (m6 ((j:Int)-1))/\Gd (((e.getD j false)==false)&&((s7 (j:Int) 0)==true)) (In ((j:Int)-1) ((nx.map bV).length))/\Gd (((e.getD j false)==false)&&((s7 (j:Int) 0)==true)) (V.at u v (.own 1 (nx.map bV) u v z) [0+(Int.toNat ((j:Int)-1))]=some (u,(v+(0+(Int.toNat ((j:Int)-1)))*1),bV (nx.getD (Int.toNat ((j:Int)-1)) false)))/\Gd ((e.getD j false)==false) (Pk (s7 (j:Int) 0) (((e.getD j false)==false)&&((s7 (j:Int) 0)==true)) true)/\Pk (e.getD j false) true ((e.getD j false)==false)/\In (j:Int) ((nx.map bV).length)/\(V.at u v (.own 1 (nx.map bV) u v z) [0+j]=some (u,(v+(0+j)*1),bV (nx.getD j false)))/\(V.set (.own 1 (nx.map bV) u v z) [0+j] (bV ((e.getD j false)||((s7 (j:Int) 0)&&(nx.getD (Int.toNat ((j:Int)-1)) false))))=.own 1 ((nx.set j ((e.getD j false)||((s7 (j:Int) 0)&&(nx.getD (Int.toNat ((j:Int)-1)) false)))).map bV) u v z)/\m6 ((j:Int)+1)/\∃ x:Nat×(List Bool)×Nat×Nat×Nat,match x with | (L',L9,A6,PQ,PJ)=>(L'<=s.length+1/\L9.length=s.length+1/\∀ m,m<L'->L9.getD m false=NA ((bA p).getD i 0) s e m)/\(s.length+1-L'<s.length+1-j)/\E (sV s)/\E (sV (bA p))/\E (bV (eT p))/\E (.own 1 (e.map bV) g f k)/\E (iN i)/\Q (.own 1 ((nx.set j ((e.getD j false)||((s7 (j:Int) 0)&&(nx.getD (Int.toNat ((j:Int)-1)) false)))).map bV) u v z) (.own 1 (L9.map bV) A6 PQ PJ)/\Q (.hd (.slot 9) [] 1 u v 0 ((nx.map bV).length) z) (.hd (.slot 9) [] 1 A6 PQ 0 ((L9.map bV).length) PJ)/\E (iN (s.length+1))/\Q (iN (j+1)) (iN L')/\True) (Gd ((s7 (j:Int) 0)==true) (((s7 (j:Int) 0)==true)=true)/\Gd ((s7 (j:Int) 0)==true) (m6 ((j:Int)-1))/\Gd ((s7 (j:Int) 0)==true) (((s7 (j:Int) 0)==true)=true)/\Gd ((s7 (j:Int) 0)==true) (((s7 (j:Int) 0)==true)=true)/\Gd ((s7 (j:Int) 0)==true) (In ((j:Int)-1) ((e.map bV).length))/\Gd ((s7 (j:Int) 0)==true) (((s7 (j:Int) 0)==true)=true)/\Gd ((s7 (j:Int) 0)==true) (V.at g f (.own 1 (e.map bV) g f k) [0+(Int.toNat ((j:Int)-1))]=some (g,(f+(0+(Int.toNat ((j:Int)-1)))*1),bV (e.getD (Int.toNat ((j:Int)-1)) false)))/\Pk (s7 (j:Int) 0) ((s7 (j:Int) 0)==true) true/\Gd (((s7 (j:Int) 0)&&(e.getD (Int.toNat ((j:Int)-1)) false))==true) ((((s7 (j:Int) 0)&&(e.getD (Int.toNat ((j:Int)-1)) false))==true)=true)/\Gd (((s7 (j:Int) 0)&&(e.getD (Int.toNat ((j:Int)-1)) false))==true) (m6 ((j:Int)-1))/\Gd (((s7 (j:Int) 0)&&(e.getD (Int.toNat ((j:Int)-1)) false))==true) ((((s7 (j:Int) 0)&&(e.getD (Int.toNat ((j:Int)-1)) false))==true)=true)/\Gd (((s7 (j:Int) 0)&&(e.getD (Int.toNat ((j:Int)-1)) false))==true) ((((s7 (j:Int) 0)&&(e.getD (Int.toNat ((j:Int)-1)) false))==true)=true)/\Gd (((s7 (j:Int) 0)&&(e.getD (Int.toNat ((j:Int)-1)) false))==true) (Ix ((j:Int)-1) s)/\Gd (((s7 (j:Int) 0)&&(e.getD (Int.toNat ((j:Int)-1)) false))==true) ((((s7 (j:Int) 0)&&(e.getD (Int.toNat ((j:Int)-1)) false))==true)=true)/\Gd (((s7 (j:Int) 0)&&(e.getD (Int.toNat ((j:Int)-1)) false))==true) ((((s7 (j:Int) 0)&&(e.getD (Int.toNat ((j:Int)-1)) false))==true)=true)/\Gd (((s7 (j:Int) 0)&&(e.getD (Int.toNat ((j:Int)-1)) false))==true) (Ix (i:Int) (bA p))/\Gd (((s7 (j:Int) 0)&&(e.getD (Int.toNat ((j:Int)-1)) false))==true) ((((s7 (j:Int) 0)&&(e.getD (Int.toNat ((j:Int)-1)) false))==true)=true)/\Gd (((s7 (j:Int) 0)&&(e.getD (Int.toNat ((j:Int)-1)) false))==true) ((((s7 (j:Int) 0)&&(e.getD (Int.toNat ((j:Int)-1)) false))==true)=true)/\Pk ((s7 (j:Int) 0)&&(e.getD (Int.toNat ((j:Int)-1)) false)) (((s7 (j:Int) 0)&&(e.getD (Int.toNat ((j:Int)-1)) false))==true) true/\In (j:Int) ((nx.map bV).length)/\(V.at u v (.own 1 (nx.map bV) u v z) [0+j]=some (u,(v+(0+j)*1),bV (nx.getD j false)))/\(V.set (.own 1 (nx.map bV) u v z) [0+j] (bV (((s7 (j:Int) 0)&&(e.getD (Int.toNat ((j:Int)-1)) false))&&(o6 (((s.getD (Int.toNat ((j:Int)-1)) 0).toNat:Nat):Int) ((((bA p).getD i 0).toNat:Nat):Int))))=.own 1 ((nx.set j (((s7 (j:Int) 0)&&(e.getD (Int.toNat ((j:Int)-1)) false))&&(o6 (((s.getD (Int.toNat ((j:Int)-1)) 0).toNat:Nat):Int) ((((bA p).getD i 0).toNat:Nat):Int)))).map bV) u v z)/\m6 ((j:Int)+1)/\∃ x:Nat×(List Bool)×Nat×Nat×Nat,match x with | (L',L9,A6,PQ,PJ)=>(L'<=s.length+1/\L9.length=s.length+1/\∀ m,m<L'->L9.getD m false=NA ((bA p).getD i 0) s e m)/\(s.length+1-L'<s.length+1-j)/\E (sV s)/\E (sV (bA p))/\E (bV (eT p))/\E (.own 1 (e.map bV) g f k)/\E (iN i)/\Q (.own 1 ((nx.set j (((s7 (j:Int) 0)&&(e.getD (Int.toNat ((j:Int)-1)) false))&&(o6 (((s.getD (Int.toNat ((j:Int)-1)) 0).toNat:Nat):Int) ((((bA p).getD i 0).toNat:Nat):Int)))).map bV) u v z) (.own 1 (L9.map bV) A6 PQ PJ)/\Q (.hd (.slot 9) [] 1 u v 0 ((nx.map bV).length) z) (.hd (.slot 9) [] 1 A6 PQ 0 ((L9.map bV).length) PJ)/\E (iN (s.length+1))/\Q (iN (j+1)) (iN L')/\True)) (((1,u,v,z,(nx.map bV).length)=(1,u,v,z,(nx.map bV).length))/\m6 ((i:Int)+1)/\∃ x:Nat×(List Bool)×Nat×Nat×Nat,match x with | (b9,w3,s3,o9,k₂)=>(b9<=(bA p).length/\w3=ie s ((bA p).take b9))/\((bA p).length-b9<(bA p).length-i)/\E (sV s)/\E (sV (bA p))/\E (bV (eT p))/\Q (.own 1 (nx.map bV) u v z) (.own 1 (w3.map bV) s3 o9 k₂)/\Q (iN (i+1)) (iN b9)/\True)) (Br (eT p) (In (s.length:Int) ((e.map bV).length)/\(V.at g f (.own 1 (e.map bV) g f k) [0+s.length]=some (g,(f+(0+s.length)*1),bV (e.getD s.length false)))/\Q (bV (e.getD s.length false)) (bV (cQ p s))) ((((1=1/\g=g/\f=f)/\0+((e.map bV).length)<=(e.map bV).length/\V.ay (e.map bV)=false/\aC 1 (e.map bV))/\True)/\(([.sl false (((e.map bV).drop 0).take ((e.map bV).length)),bV true]:List V)=[.sl false (e.map bV),bV true])/\((e.length<=1000000))/\Q (bV (e.contains true)) (bV (cQ p s))))))) (iN (s.length+1):V)) ?_
 refine⟨rfl,Z5,⟨fun _=>rfl,fun h=>by rw[h] <;> rfl⟩,?_⟩
 refine bI (fun j7=>?_) fun j7=>?_
 unfold Q
 rw[Dg j7]
 · have Qe:=Ch j7.1
   have hbl:(bA p).length<=p.length:=by unfold bA;split <;> simp
   refine⟨rfl,⟨Z9,Z8⟩,(by rw[pE Z9]),(by rw[pE Z9]),(by rw[uG Z9]),(by rw[uG Z9]),Z9,⟨⟨rfl,rfl,⟨_,rfl⟩,rfl⟩,by first | (refine Zo iV ?_;simp;done) | (refine Zo iV ?_;omega),by first | (refine Zo iV ?_;simp;done) | (refine Zo iV ?_;omega),Z9,Z9,Z9⟩,?_⟩
   intro Pn
   refine⟨Zo (V.own 1 · _ _ _) List.map_replicate.symm,?_⟩
   have M9:(List.replicate (s.length+1) false).length=s.length+1:=List.length_replicate
   refine⟨Z2,fC (by rw[ZO];exact aj (d:=false) Z9),lJ (by rw[ZO];exact aj (d:=false) Z9) (by rw[ZO];exact(List.map_set ..).symm),?_⟩
   refine⟨⟨(0,sQ s,Pn,0,s.length+1),?_,rfl,rfl,rfl,Z4,rfl,trivial⟩,?_⟩
   simp[ie]
   rintro⟨i,e,g,f,k⟩ ⟨h1,h2⟩
   have hel:e.length=s.length+1:=by rw[h2];exact xI _ _
   refine bI (fun l4=>?_) fun l4=>?_
   · refine⟨Z9,⟨⟨rfl,rfl,⟨_,rfl⟩,rfl⟩,by first | (refine Zo iV ?_;simp;done) | (refine Zo iV ?_;omega),by first | (refine Zo iV ?_;simp;done) | (refine Zo iV ?_;omega),Z9,Z9,Z9⟩,?_⟩
     intro MG
     refine⟨Zo (V.own 1 · _ _ _) List.map_replicate.symm,?_⟩
     refine⟨⟨(0,List.replicate (s.length+1) false,MG,0,s.length+1),?_,rfl,rfl,rfl,rfl,rfl,rfl,rfl,Z4,rfl,trivial⟩,?_⟩
     simp
     rintro⟨j,nx,u,v,z⟩ ⟨q1,q2,q3⟩
     refine bI (fun m8=>?_) fun m8=>?_
     refine⟨Z9,?_⟩
     refine bI (fun w7=>?_) fun w7=>?_
     refine⟨Z2,fC (by rw[ZO];exact aj (d:=false) Z9),fun hG=>by(try simp only[nb]at hG);omega,fun hG=>by(try simp only[nb]at hG);(try simp only[ZM]at *);omega,fun hG=>fC (by rw[ZO];exact aj (d:=false) Z9),fun hG=>⟨fun h=>by rw[h];exact(ZX _ _).mpr ⟨hG,rfl⟩,fun _=>rfl⟩,⟨fun _=>rfl,fun h=>by rw[h] <;> rfl⟩,Z2,fC (by rw[ZO];exact aj (d:=false) Z9),lJ (by rw[ZO];exact aj (d:=false) Z9) (by rw[ZO];exact(List.map_set ..).symm),Z9,?_⟩
     refine⟨(j+1,nx.set j ((e.getD j false)||((s7 (j:Int) 0)&&(nx.getD (Int.toNat ((j:Int)-1)) false))),u,v,z),?_,?_,rfl,rfl,rfl,rfl,rfl,rfl,Z4,rfl,rfl,trivial⟩
     refine⟨Z9,by simp[q2],fun m hm=>?_⟩
     by_cases e:m=j
     subst e
     rw[zG Z9]
     exact Cr w7 Z9 q3
     rw[zk e];exact q3 m Z9
     exact Z1
     refine⟨fun h=>h,fun hG=>by(try simp only[nb]at hG);omega,fun h=>h,fun h=>h,fun hG=>by(try simp only[nb]at hG);(try simp only[ZM]at *);omega,fun h=>h,fun hG=>fC (by rw[ZO];exact aj (d:=false) Z9),⟨fun h=>by rw[h] <;> rfl,fun _=>rfl⟩,fun h=>h,fun hG=>by(try simp only[nb]at hG);omega,fun h=>h,fun h=>h,fun hG=>by(try simp only[nb]at hG);omega,fun h=>h,fun h=>h,fun hG=>by(try simp only[nb]at hG);omega,fun h=>h,fun h=>h,⟨fun h=>by rw[h] <;> rfl,fun _=>rfl⟩,Z2,fC (by rw[ZO];exact aj (d:=false) Z9),lJ (by rw[ZO];exact aj (d:=false) Z9) (by rw[ZO];exact(List.map_set ..).symm),Z9,?_⟩
     refine⟨(j+1,nx.set j (((s7 (j:Int) 0)&&(e.getD (Int.toNat ((j:Int)-1)) false))&&(o6 (((s.getD (Int.toNat ((j:Int)-1)) 0).toNat:Nat):Int) ((((bA p).getD i 0).toNat:Nat):Int))),u,v,z),?_,?_,rfl,rfl,rfl,rfl,rfl,rfl,Z4,rfl,rfl,trivial⟩
     refine⟨Z9,by simp[q2],fun m hm=>?_⟩
     by_cases e:m=j
     subst e
     rw[zG Z9]
     exact Bd w7
     rw[zk e];exact q3 m Z9
     exact Z1
     refine⟨rfl,Z9,?_⟩
     refine⟨(i+1,nx,u,v,z),?_,?_,rfl,rfl,rfl,rfl,rfl,trivial⟩
     refine⟨Z9,?_⟩
     rw[Cz Z9,<- h2]
     exact DQ q2 (fun m hm=>q3 m Z9)
     exact Z1
   refine bI (fun G8=>?_) fun G8=>?_
   refine⟨Z2,fC (by rw[ZO];exact aj (d:=false) Z9),?_⟩
   unfold Q
   rw[vk j7,h2,ZL Z9]
   unfold xN
   rw[if_pos G8]
   refine⟨⟨⟨⟨rfl,rfl,rfl⟩,Z8,ct (f:=bV) (fun _=>rfl) _,dU (f:=bV) (fun _=>rfl) _⟩,trivial⟩,by simp[ZL],Z5,?_⟩
   unfold Q
   rw[vk j7,h2,ZL Z9]
   unfold xN
   rw[if_neg (by rw[G8];decide)])
theorem mO{p s:BL}(h:cQ p s=true):1<=p.length:=by
 unfold cQ at h
 simp only[ZX]at h
 exact(tQ h.1.1).1
theorem mB{X:Int×Bool} {r:s5} {s:BL} {m m':Int} {b b':Bool} (h2: -1<=X.1/\X.1≠0) (h3:m=max X.1 0) (h4:b=X.2)
 (h:(cQ r.path s=false/\m'=m/\b'=b)\/(cQ r.path s=true/\m<(r.path.length:Int)/\m'=(r.path.length:Int)/\b'=r.H3)\/(cQ r.path s=true/\(r.path.length:Int)=m/\m'=m/\b'=(b||r.H3))\/(cQ r.path s=true/\(r.path.length:Int)<m/\m'=m/\b'=b)):
 (-1<=(dV s X r).1/\(dV s X r).1≠0)/\m'=max (dV s X r).1 0/\b'=(dV s X r).2:=by
 subst h3 h4
 rcases h with ⟨h,rfl,rfl⟩ | ⟨h,h1,rfl,rfl⟩ | ⟨h,h1,rfl,rfl⟩ | ⟨h,h1,rfl,rfl⟩
 rw[show dV s X r=X from if_pos (.inl h)];exact⟨h2,rfl,rfl⟩
 have hl:=mO h
 unfold dV
 rw[if_neg (by rw[h];simp;omega),decide_eq_false Z9]
 exact⟨⟨by simp only;omega,by simp only;omega⟩,by simp only;omega,Z8⟩
 have hl:=mO h
 unfold dV
 rw[if_neg (by rw[h];simp;omega),decide_eq_true Z9]
 exact⟨⟨by simp only;omega,by simp only;omega⟩,by simp only;omega,by simp[Bool.or_comm]⟩
 have hl:=mO h
 rw[show dV s X r=X from if_pos (.inr Z9)];exact⟨h2,rfl,rfl⟩
abbrev cX(rs:List s5)(s:BL)(i:Nat)(m:Int)(b:Bool):Prop:=i<=rs.length/\(-1<=((rs.take i).foldl (dV s) (-1,true)).1/\((rs.take i).foldl (dV s) (-1,true)).1≠0)/\m=max ((rs.take i).foldl (dV s) (-1,true)).1 0/\b=((rs.take i).foldl (dV s) (-1,true)).2
def kf(rs:List s5)(s:BL):o8 Tryz.prog:=.mk 78 [eh rs,sV s] [] ((rs.length<=1000000)/\(∀ i,(rs.getD i ⟨false,[]⟩).path.length<=1000000)/\(s.length<=1000000)) (bV (bh rs s)) [] (by
 rintro⟨hl,hr,hs⟩
 refine aq (N:=42) (rs:=[.tmp 4]) Tryz.func78
  (.q 1<|.q 2<|.q 3<|.loop (Nat×Int×Bool) (fun (i,m,b)=>⟨[(1,sV s),(5,iV m),(6,bV b),(10,eh rs),(11,iN rs.length),(12,iN i)],[]⟩) (fun (i,m,b)=>cX rs s i m b) (fun (i,m,b)=>rs.length-i) (fun (i,m,b)=>.q 1<|.br (.r 2 [.agg [bV ((rs.getD i (⟨false,[]⟩:s5)).H3),sV ((rs.getD i (⟨false,[]⟩:s5)).path)]]<|.al sO (fun g8=>.st none<|.r 3 [.b7]<|.c (tq ((rs.getD i (⟨false,[]⟩:s5)).path) s) []<|.q 1<|.br (.q 2<|.nil) (.r 4 [.b7]<|.q 4<|.br (.dx 4 [0,1,2,3] [(2,⟨false,[],some [8],[30],[]⟩)] []<|.q 1<|.q 1<|.r 1 [.b7]<|.q 1<|.q 1<|.q 2<|.nil) (.q 4<|.br (.r 6 [.b7]<|.q 2<|.nil) (.q 2<|.nil))))) (.q 2<|.nil)))
  ((∃ x:Nat×Int×Bool,match x with | (h9,MX,M1)=>(cX rs s h9 MX M1)/\E (sV s)/\Q (iN 0) (iV MX)/\Q (bV true) (bV M1)/\E (eh rs)/\Q (iN ((rs.map an).length)) (iN rs.length)/\Q (iN 0) (iN h9)/\True)/\∀ x:Nat×Int×Bool,match x with | (i,m,b)=>(cX rs s i m b)->Br (s4 (i:Int) (rs.length:Int)) (Ex (i:Int) (rs.map an) (.agg [bV ((rs.getD i (⟨false,[]⟩:s5)).H3),sV ((rs.getD i (⟨false,[]⟩:s5)).path)])/\True/\∀ g8:Nat,Z g8 0/\Z g8 1/\(tq ((rs.getD i (⟨false,[]⟩:s5)).path) s).sm/\((((rs.getD i (⟨false,[]⟩:s5)).path).length<=1000000)/\(s.length<=1000000))/\Br (!(cQ ((rs.getD i (⟨false,[]⟩:s5)).path) s)) (m6 ((i:Int)+1)/\∃ x:Nat×Int×Bool,match x with | (b9,m₂,B7)=>(cX rs s b9 m₂ B7)/\(rs.length-b9<rs.length-i)/\E (sV s)/\Q (iV m) (iV m₂)/\Q (bV b) (bV B7)/\E (eh rs)/\E (iN rs.length)/\Q (iN (i+1)) (iN b9)/\True) (Z g8 1/\Br (s7 ((((rs.getD i (⟨false,[]⟩:s5)).path).length:Nat):Int) m) (Z g8 0/\m6 ((i:Int)+1)/\∃ x:Nat×Int×Bool,match x with | (b9,m₂,B7)=>(cX rs s b9 m₂ B7)/\(rs.length-b9<rs.length-i)/\E (sV s)/\Q (iN (((rs.getD i (⟨false,[]⟩:s5)).path).length)) (iV m₂)/\Q (bV ((rs.getD i (⟨false,[]⟩:s5)).H3)) (bV B7)/\E (eh rs)/\E (iN rs.length)/\Q (iN (i+1)) (iN b9)/\True) (Br (o6 ((((rs.getD i (⟨false,[]⟩:s5)).path).length:Nat):Int) m) (Gd (b==false) (Z g8 0)/\Pk b true (b==false)/\m6 ((i:Int)+1)/\∃ x:Nat×Int×Bool,match x with | (b9,m₂,B7)=>(cX rs s b9 m₂ B7)/\(rs.length-b9<rs.length-i)/\E (sV s)/\Q (iV m) (iV m₂)/\Q (bV (b||((rs.getD i (⟨false,[]⟩:s5)).H3))) (bV B7)/\E (eh rs)/\E (iN rs.length)/\Q (iN (i+1)) (iN b9)/\True) (m6 ((i:Int)+1)/\∃ x:Nat×Int×Bool,match x with | (b9,m₂,B7)=>(cX rs s b9 m₂ B7)/\(rs.length-b9<rs.length-i)/\E (sV s)/\Q (iV m) (iV m₂)/\Q (bV b) (bV B7)/\E (eh rs)/\E (iN rs.length)/\Q (iN (i+1)) (iN b9)/\True)))) (Q (bV b) (bV (bh rs s)))) ?_
 refine⟨⟨(0,0,true),?_,rfl,Z4,rfl,rfl,Z4,rfl,trivial⟩,?_⟩
 unfold cX
 simp;omega
 rintro⟨i,m,b⟩ ⟨h1,h2,h3,h4⟩
 have Q0:=hr i
 refine bI (fun j7=>?_) fun j7=>?_
 refine⟨⟨Z9,aj (d:=(⟨false,[]⟩:s5)) Z9⟩,trivial,?_⟩
 intro g8
 refine⟨rfl,rfl,rfl,⟨Z9,Z9⟩,?_⟩
 refine bI (fun l4=>?_) fun l4=>?_
 refine⟨Z9,?_⟩
 refine⟨(i+1,m,b),?_,?_,rfl,rfl,rfl,rfl,rfl,rfl,trivial⟩
 unfold cX
 refine⟨Z9,?_⟩
 rw[foldl_succ (by omega:i<rs.length) (d:=⟨false,[]⟩)]
 exact mB h2 h3 h4 (.inl ⟨l4,rfl,rfl⟩)
 exact Z1
 refine⟨rfl,?_⟩
 refine bI (fun m8=>?_) fun m8=>?_
 refine⟨rfl,Z9,?_⟩
 refine⟨(i+1,((((rs.getD i (⟨false,[]⟩:s5)).path).length:Nat):Int),(rs.getD i (⟨false,[]⟩:s5)).H3),?_,?_,rfl,Z4,rfl,rfl,rfl,rfl,trivial⟩
 unfold cX
 refine⟨Z9,?_⟩
 rw[foldl_succ (by omega:i<rs.length) (d:=⟨false,[]⟩)]
 exact mB h2 h3 h4 (.inr (.inl ⟨l4,m8,rfl,rfl⟩))
 exact Z1
 refine bI (fun w7=>?_) fun w7=>?_
 refine⟨fun hG=>rfl,⟨fun _=>rfl,fun h=>by rw[h] <;> rfl⟩,Z9,?_⟩
 refine⟨(i+1,m,(b||((rs.getD i (⟨false,[]⟩:s5)).H3))),?_,?_,rfl,rfl,rfl,rfl,rfl,rfl,trivial⟩
 unfold cX
 refine⟨Z9,?_⟩
 rw[foldl_succ (by omega:i<rs.length) (d:=⟨false,[]⟩)]
 exact mB h2 h3 h4 (.inr (.inr (.inl ⟨l4,w7,rfl,by first | rfl | (cases b <;> rfl)⟩)))
 exact Z1
 refine⟨Z9,?_⟩
 refine⟨(i+1,m,b),?_,?_,rfl,rfl,rfl,rfl,rfl,rfl,trivial⟩
 unfold cX
 refine⟨Z9,?_⟩
 rw[foldl_succ (by omega:i<rs.length) (d:=⟨false,[]⟩)]
 exact mB h2 h3 h4 (.inr (.inr (.inr ⟨l4,Z9,rfl,rfl⟩)))
 exact Z1
 unfold Q
 refine Zo bV ?_
 unfold bh
 rw[h4,ZL Z9])
abbrev dj(p0:V):V:=.agg [ p0,bV true]
abbrev eD(p0:List k9)(p1:Bool):V:=.agg [.ow 3 (p0.map aJ),bV p1]
abbrev gI(p0:List BL)(p1:List s5)(p2:Nat):V:=.agg [.ow 1 (p0.map sV),.ow 2 (p1.map an),iN p2]
abbrev wm(p0:List BL)(p1:List s5)(p2:Nat)(p3:Nat)(p4:Nat)(p5:Nat):V:=.agg [.ow 1 (p0.map sV),.own 2 (p1.map an) p2 p3 p4,iN p5]
theorem FO(gs:List k9)(b:Bool)(g:Nat)(n:BL)(hg:gs.length<=1000)(hn:∀ y,y∈gs->y.na.length<=1000/\y.ru.length<=6):PF Tryz.prog 155 [.ptr (.key 1000) [] g 0,.lit (.iface 220 (.agg #[.string (Str n)]))] [(1000,(g,eD gs b))] (fun r h=>r=(.tup [])/\h=[(1000,(g,eD ((kh gs b n).1) ((kh gs b n).2)))]):=by
 refine aq (N:=112) (rs:=[]) Tryz.func155
  (.oR (.key 1000) [0] (fun gr fr cr=>.q 1<|.cu (Vh (.agg [sV n])) (fun _=>.q 3<|.al kW (fun g4=>.st none<|.q 1<|.q 2<|.gt<|.q 1<|.gt<|.q 1<|.gt<|.q 1<|.gt<|.r 1 [.b7]<|.gt<|.q 1<|.gt<|.q 1<|.gt<|.r 5 [.b7]<|.gt<|.q 2<|.br (.dx 11 [0,1,2,3,4,5,6,7,8,9,10] [(4,⟨false,[],some [1000],[34],[]⟩),(6,⟨false,[],some [4],[36],[]⟩),(7,⟨true,[],none,[37],[]⟩),(10,⟨true,[],none,[40],[1000]⟩)] []<|.q 1<|.q 1<|.q 1<|.q 1<|.r 1 [.b7]<|.q 1<|.r 1 [.b7]<|.eu boE (fun Nn=>.bd iA<|.bs<|.ux none (fun D0 C9 E6=>.h (.o4 40 (.own 3 (gs.map aJ++[(.agg [.hd (.slot 37) [] 1 Nn 0 0 (([n].map sV).length) 1,.sl true [],iN 0]:V)]) D0 C9 E6))<|.q 2<|.h (.Qy (.slot 40) [gs.length,0] D0 (C9+(gs.length)*3+0) 37)<|.h (.o4 40 (.own 3 (gs.map aJ++[(.agg [.own 1 ([n].map sV) Nn 0 1,.sl true [],iN 0]:V)]) D0 C9 E6))<|.h (.OQ (.slot 40) [gs.length,1] D0 (C9+(gs.length)*3+1) 2)<|.h (.o4 40 (.own 3 (gs.map aJ++[(.agg [.own 1 ([n].map sV) Nn 0 1,.own 2 ([].map an) 0 0 0,iN 0]:V)]) D0 C9 E6))<|.h (.OP (.slot 40) [gs.length,0] D0 (C9+(gs.length)*3+0) (.own 1 ([n].map sV) Nn 0 1) (.ow 1 ([n].map sV)))<|.h (.o4 40 (.own 3 (gs.map aJ++[(.agg [.ow 1 ([n].map sV),.own 2 ([].map an) 0 0 0,iN 0]:V)]) D0 C9 E6))<|.h (.OP (.slot 40) [gs.length,1] D0 (C9+(gs.length)*3+1) (.own 2 ([].map an) 0 0 0) (.ow 2 ([].map an)))<|.h (.o4 40 (.own 3 (gs.map aJ++[(.agg [.ow 1 ([n].map sV),.ow 2 ([].map an),iN 0]:V)]) D0 C9 E6))<|.h (.o4 40 (.own 3 ((gs++[(⟨[n],[],0⟩:k9)]).map aJ) D0 C9 E6))<|.st none<|.q 3<|.st none<|.nil))) (.r 6 [.b7]<|.br (.nil) (.ex (List k9×k9) (fun z=>gs=z.1++[z.2]) (fun (z:List k9×k9)=>.h (.z6 1000 (.agg [.own 3 (z.1.map aJ++[(gI z.2.na z.2.ru z.2.wa:V)]) gr fr cr,bV b]))<|.dx 10 [0,1,2,3,4,5,6,7,8,9] [(3,⟨false,[],some [1000],[55],[]⟩),(7,⟨false,[],some [1000],[59],[]⟩)] []<|.q 1<|.q 1<|.q 1<|.r 1 [.b7]<|.q 1<|.q 1<|.q 1<|.r 1 [.b7]<|.q 1<|.q 1<|.h (.o4 61 (iN z.1.length))<|.q 2<|.q 1<|.cu (Vh (.agg [sV n])) (fun _=>.q 2<|.br (.al kW (fun g7=>.st none<|.Pv (.key 1000) [0,0+z.1.length,0] gr (fr+(0+z.1.length)*3+0) 1 (z.2.na.map sV) (fun gA oA cA=>.h (.z6 1000 (.agg [.own 3 (z.1.map aJ++[(.agg [.own 1 (z.2.na.map sV) gA oA cA,.ow 2 (z.2.ru.map an),iN z.2.wa]:V)]) gr fr cr,bV b]))<|.dx 9 [0,1,2,3,4,5,6,7,8] [(4,⟨false,[],some [1000],[71],[]⟩),(6,⟨false,[],some [7],[73],[]⟩),(8,⟨true,[],none,[75],[1000]⟩)] []<|.q 1<|.q 1<|.q 1<|.q 1<|.r 1 [.own 1 (z.2.na.map sV) gA oA cA]<|.q 1<|.r 1 [.b7]<|.bs<|.eu (VK 1000 [0,0+z.1.length,0] (z.2.na.map sV) ([sV n]:List V) gr (fr+(0+z.1.length)*3+0) 1 gA oA cA) (fun L4=>.h (.z6 1000 (.agg [.own 3 (z.1.map aJ++[(.agg [.b7,.ow 2 (z.2.ru.map an),iN z.2.wa]:V)]) gr fr cr,bV b]))<|.h (.o4 75 (.own 1 ((z.2.na++[n]).map sV) L4.1 L4.2.1 L4.2.2))<|.q 2<|.st (some (.b7))<|.h (.z6 1000 (.agg [.own 3 (z.1.map aJ++[(.agg [.own 1 ((z.2.na++[n]).map sV) L4.1 L4.2.1 L4.2.2,.ow 2 (z.2.ru.map an),iN z.2.wa]:V)]) gr fr cr,bV b]))<|.h (.OP (.key 1000) [0,0+z.1.length,0] gr (fr+(0+z.1.length)*3+0) (.own 1 ((z.2.na++[n]).map sV) L4.1 L4.2.1 L4.2.2) (.ow 1 ((z.2.na++[n]).map sV)))<|.h (.z6 1000 (.agg [.own 3 (z.1.map aJ++[(gI (z.2.na++[n]) z.2.ru z.2.wa:V)]) gr fr cr,bV b]))<|.h (.z6 1000 (.agg [.own 3 ((z.1++[(⟨z.2.na++[n],z.2.ru,z.2.wa⟩:k9)]).map aJ) gr fr cr,bV b]))<|.nil)))) (.nil)))))))))
  ((fun v1:Bool=>(fun v2:V=>(fun v3:V=>(fun v4:List V=>(fun v5:V=>(∀ gr fr cr:Nat,((∃ td,Tryz.prog.underlying 220=some td/\∀ i,td≠.interface i)/\((220:Nat)=220)/\((.agg #[.string (Str n)]:Value)=.agg #[.string (Str n)]))/\∀ _:Unit,∀ g4:Nat,Z g4 0/\(true=true)/\(true=true)/\True/\(true=true)/\(true=true)/\Z g 0/\(true=true)/\(true=true)/\(true=true)/\Gd (v1==false) True/\Gd (v1==false) (Z g 1)/\(true=true)/\Pk v1 true (v1==false)/\Pk true true true/\Br (true&&(v1||b)) (True/\Z g 0/\Z g4 0/\True/\∀ Nn:Nat,(fun v6:List V=>(fun v7:V=>(fun v8:V=>(fun v9:V=>(((3,3,gr,fr,cr,(gs.map aJ).length)=(3,3,gr,fr,cr,(gs.map aJ).length))/\(V.ay v6=false)/\(aC 3 v6)/\(((gs.map aJ).length+v6.length)*56<=140737488355328))/\∀ D0 C9 E6:Nat,((.own 3 ((gs.map aJ)++v6) D0 C9 E6:V)=.own 3 (gs.map aJ++[v7]) D0 C9 E6)/\True/\(V.at D0 C9 (.own 3 (gs.map aJ++[v7]) D0 C9 E6) [gs.length,0]=some (D0,C9+(gs.length)*3+0,.hd (.slot 37) [] 1 Nn 0 0 (([n].map sV).length) 1))/\(V.set (.own 3 (gs.map aJ++[v7]) D0 C9 E6) [gs.length,0] (.own 1 ([n].map sV) Nn 0 1)=.own 3 (gs.map aJ++[v9]) D0 C9 E6)/\(V.at D0 C9 (.own 3 (gs.map aJ++[v9]) D0 C9 E6) [gs.length,1]=some (D0,C9+(gs.length)*3+1,.sl true []))/\(V.set (.own 3 (gs.map aJ++[v9]) D0 C9 E6) [gs.length,1] (.own 2 ([].map an) 0 0 0)=.own 3 (gs.map aJ++[v8]) D0 C9 E6)/\(V.at D0 C9 (.own 3 (gs.map aJ++[v8]) D0 C9 E6) [gs.length,0]=some (D0,C9+(gs.length)*3+0,.own 1 ([n].map sV) Nn 0 1))/\(V.set (.own 3 (gs.map aJ++[v8]) D0 C9 E6) [gs.length,0] (.ow 1 ([n].map sV))=.own 3 (gs.map aJ++[v2]) D0 C9 E6)/\(V.at D0 C9 (.own 3 (gs.map aJ++[v2]) D0 C9 E6) [gs.length,1]=some (D0,C9+(gs.length)*3+1,.own 2 ([].map an) 0 0 0))/\(V.set (.own 3 (gs.map aJ++[v2]) D0 C9 E6) [gs.length,1] (.ow 2 ([].map an))=.own 3 (gs.map aJ++[v5]) D0 C9 E6)/\((.own 3 (gs.map aJ++[v5]) D0 C9 E6:V)=.own 3 ((gs++[(⟨[n],[],0⟩:k9)]).map aJ) D0 C9 E6)/\Z g 0/\True/\Z g 1/\Q (.tup []) (.tup [])/\Qr g (.agg [.ow 3 ((gs++[(⟨[n],[],0⟩:k9)]).map aJ),bV false]) g v3) (.agg [.own 1 ([n].map sV) Nn 0 1,.sl true [],iN 0]:V)) (.agg [.own 1 ([n].map sV) Nn 0 1,.own 2 ([].map an) 0 0 0,iN 0]:V)) (.agg [.hd (.slot 37) [] 1 Nn 0 0 (([n].map sV).length) 1,.sl true [],iN 0]:V)) ([.agg [.hd (.slot 37) [] 1 Nn 0 0 (([n].map sV).length) 1,.sl true [],iN 0]]:List V)) (True/\Z g 0/\Br v1 (Q (.tup []) (.tup [])/\Qr g (eD gs b) g v3) ((∃ z:List k9×k9,gs=z.1++[z.2])/\∀ z:List k9×k9,(gs=z.1++[z.2])->(fun v10:V=>(fun v11:V=>(fun v12:V=>(fun G0:V=>((.agg [.own 3 (gs.map aJ) gr fr cr,bV b]:V)=.agg [.own 3 (z.1.map aJ++[v10]) gr fr cr,bV b])/\True/\Z g 0/\True/\Z g 0/\m6 ((((z.1.map aJ++[v10]).length:Nat):Int)-1)/\Q (iV ((((z.1.map aJ++[v10]).length:Nat):Int)-1)) (iN z.1.length)/\In (z.1.length:Int) ((z.1.map aJ++[v10]).length)/\((∃ td,Tryz.prog.underlying 220=some td/\∀ i,td≠.interface i)/\((220:Nat)=220)/\((.agg #[.string (Str n)]:Value)=.agg #[.string (Str n)]))/\∀ _:Unit,Br true (∀ g7:Nat,Z g7 0/\(V.at g 0 v12 [0,0+z.1.length,0]=some (gr,fr+(0+z.1.length)*3+0,.ow 1 (z.2.na.map sV)))/\∀ gA oA cA:Nat,(fun Mi:V=>(V.set v12 [0,0+z.1.length,0] (.own 1 (z.2.na.map sV) gA oA cA)=.agg [.own 3 (z.1.map aJ++[(.agg [.own 1 (z.2.na.map sV) gA oA cA,.ow 2 (z.2.ru.map an),iN z.2.wa]:V)]) gr fr cr,bV b])/\True/\(V.at g 0 Mi [0,0+z.1.length,0]=some (gr,(fr+(0+z.1.length)*3+0),.own 1 (z.2.na.map sV) gA oA cA))/\Z g7 0/\(v4=v4/\((.hd (.key 1000) [0,0+z.1.length,0] 1 gA oA 0 ((z.2.na.map sV).length) cA:V)=.hd (.key 1000) [0,0+z.1.length,0] 1 gA oA 0 ((z.2.na.map sV).length) cA)/\(V.at g 0 Mi [0,0+z.1.length,0]=some (gr,fr+(0+z.1.length)*3+0,.own 1 (z.2.na.map sV) gA oA cA))/\((1:Nat)=1)/\(V.ay v4=false)/\(aC 1 v4)/\(((z.2.na.map sV).length+v4.length)*16<=140737488355328))/\∀ L4:Nat×Nat×Nat,(fun M4:V=>(fun Nt:V=>(V.set Mi [0,0+z.1.length,0] (.b7)=.agg [.own 3 (z.1.map aJ++[v11]) gr fr cr,bV b])/\((.own 1 ((z.2.na.map sV)++v4) L4.1 L4.2.1 L4.2.2:V)=.own 1 ((z.2.na++[n]).map sV) L4.1 L4.2.1 L4.2.2)/\True/\(V.at g 0 G0 [0,0+z.1.length,0]=some (gr,(fr+(0+z.1.length)*3+0),.b7))/\(V.set G0 [0,0+z.1.length,0] (.own 1 ((z.2.na++[n]).map sV) L4.1 L4.2.1 L4.2.2)=.agg [.own 3 (z.1.map aJ++[M4]) gr fr cr,bV b])/\(V.at g 0 Nt [0,0+z.1.length,0]=some (gr,fr+(0+z.1.length)*3+0,.own 1 ((z.2.na++[n]).map sV) L4.1 L4.2.1 L4.2.2))/\(V.set Nt [0,0+z.1.length,0] (.ow 1 ((z.2.na++[n]).map sV))=.agg [.own 3 (z.1.map aJ++[(gI (z.2.na++[n]) z.2.ru z.2.wa:V)]) gr fr cr,bV b])/\((.agg [.own 3 (z.1.map aJ++[(gI (z.2.na++[n]) z.2.ru z.2.wa:V)]) gr fr cr,bV b]:V)=.agg [.own 3 ((z.1++[(⟨z.2.na++[n],z.2.ru,z.2.wa⟩:k9)]).map aJ) gr fr cr,bV b])/\Q (.tup []) (.tup [])/\Qr g (eD (z.1++[(⟨z.2.na++[n],z.2.ru,z.2.wa⟩:k9)]) b) g v3) (.agg [.own 3 (z.1.map aJ++[M4]) gr fr cr,bV b])) (.agg [.own 1 ((z.2.na++[n]).map sV) L4.1 L4.2.1 L4.2.2,.ow 2 (z.2.ru.map an),iN z.2.wa]:V)) (.agg [.own 3 (z.1.map aJ++[(.agg [.own 1 (z.2.na.map sV) gA oA cA,.ow 2 (z.2.ru.map an),iN z.2.wa]:V)]) gr fr cr,bV b])) (False)) (.agg [.own 3 (z.1.map aJ++[v11]) gr fr cr,bV b])) (.agg [.own 3 (z.1.map aJ++[v10]) gr fr cr,bV b])) (.agg [.b7,.ow 2 (z.2.ru.map an),iN z.2.wa]:V)) (gI z.2.na z.2.ru z.2.wa:V))))) (.agg [.ow 1 ([n].map sV),.ow 2 ([].map an),iN 0]:V)) ([sV n]:List V)) (eD ((kh gs b n).1) ((kh gs b n).2))) (.agg [.ow 1 ([n].map sV),.own 2 ([].map an) 0 0 0,iN 0]:V)) (o6 (((gs.map aJ).length:Nat):Int) 0)) ?_
 intro gr fr cr
 refine⟨⟨⟨_,Tryz.underlying220,by intro i h;cases h⟩,rfl,rfl⟩,?_⟩
 intro _
 intro g4
 refine⟨rfl,rfl,rfl,trivial,rfl,rfl,rfl,rfl,rfl,rfl,fun hG=>trivial,fun hG=>rfl,rfl,⟨fun _=>rfl,fun h=>by rw[h] <;> rfl⟩,⟨fun _=>rfl,fun _=>rfl⟩,?_⟩
 refine bI (fun j7=>?_) fun j7=>?_
 refine⟨trivial,rfl,rfl,trivial,?_⟩
 intro Nn
 refine⟨⟨rfl,rfl,by simp[aC,V.n,V.ns],by(try simp only[ZM,ZU,ZQ]);omega⟩,?_⟩
 intro D0 C9 E6
 refine⟨Zo (V.own 3 · D0 C9 E6) (rfl),trivial,az (aR) rfl,aP (aR) (de),az (aR) rfl,aP (aR) (de),az (aR) rfl,aP (aR) (de),az (aR) rfl,aP (aR) (de),Zo (V.own 3 · D0 C9 E6) (by rw[Zz (f:=aJ)];rfl),rfl,trivial,rfl,?_⟩
 refine⟨?_,by rw[show kh gs b n=(gs++[⟨[n],[],0⟩],false) from if_pos (j7.imp (fun h=>ZF (by simpa using h)) id)]⟩
 unfold Q
 rfl
 · refine⟨trivial,rfl,?_⟩
   refine bI (fun l4=>?_) fun l4=>?_
   · all_goals (simp_all)
   · refine⟨lr (pw Z9),?_⟩
     intro z hz
     have NB:=hn z.2 (by rw[hz];simp)
     have Uu:gs.length=z.1.length+1:=by rw[hz];simp
     refine⟨Tp (Zo (V.own 3 · gr fr cr) (by rw[hz,Zz];rfl)),trivial,rfl,trivial,rfl,by(try simp only[ZM]at *);(try simp only[ZW,ZM,ZU,ZQ]);omega,by unfold Q;refine Zo iV ?_;simp,by(try simp only[ZM]at *);(try simp only[ZW,ZM,ZU,ZQ]);omega,⟨⟨_,Tryz.underlying220,by intro i h;cases h⟩,rfl,rfl⟩,?_⟩
     intro _
     refine bI (fun m8=>?_) fun m8=>?_
     intro g7
     refine⟨rfl,eZ.trans (az (by rw[ZO];exact aR) rfl),?_⟩
     intro gA oA cA
     refine⟨mS (aP (by rw[ZO];exact aR) (by rw[ZO];exact de)),trivial,eZ.trans (az (by rw[ZO];exact aR) rfl),rfl,⟨rfl,rfl,eZ.trans (az (by rw[ZO];exact aR) rfl),rfl,rfl,by simp[aC,V.n,V.ns],by(try simp only[ZM,ZU,ZQ]);omega⟩,?_⟩
     intro L4
     refine⟨mS (aP (by rw[ZO];exact aR) (by rw[ZO];exact de)),Zo (V.own 1 · L4.1 L4.2.1 L4.2.2) Z8,trivial,eZ.trans (az (by rw[ZO];exact aR) rfl),mS (aP (by rw[ZO];exact aR) (by rw[ZO];exact de)),eZ.trans (az (by rw[ZO];exact aR) rfl),mS (aP (by rw[ZO];exact aR) (by rw[ZO];exact de)),Tp (Zo (V.own 3 · gr fr cr) (by rw[Zz (f:=aJ)];rfl)),?_⟩
     refine⟨?_,by rw[show kh gs b n=(z.1++[⟨z.2.na++[n],z.2.ru,z.2.wa⟩],b) from by rw[kh,if_neg (by rintro (h | h) <;> simp_all),hz,fA]]⟩
     unfold Q
     rfl
     · all_goals (first | exact absurd m8 Z6 | simp_all)
theorem Ft(gs:List k9)(b:Bool)(g:Nat)(l:Bool)(p:BL)(hg:gs.length<=1000)(hn:∀ y,y∈gs->y.na.length<=1000/\y.ru.length<=6):PF Tryz.prog 155 [.ptr (.key 1000) [] g 0,.lit (.iface 222 (.agg #[.bool l,.string (Str p)]))] [(1000,(g,eD gs b))] (fun r h=>r=(.tup [])/\h=[(1000,(g,eD ((ib gs b l p).1) ((ib gs b l p).2)))]):=by
 refine aq (N:=112) (rs:=[]) Tryz.func155
  (.oR (.key 1000) [0] (fun gr fr cr=>.q 1<|.cu (Un kW) (fun _=>.q 3<|.al kW (fun g4=>.st none<|.q 1<|.q 2<|.gf (.b7)<|.gf (.b7)<|.gf (.b7)<|.gf (.b7)<|.gf (.b7)<|.gf (bV false)<|.gf (bV false)<|.gf (.b7)<|.gf (.b7)<|.gf (.b7)<|.gf (bV false)<|.gf (bV false)<|.q 1<|.br (.nil) (.r 6 [.b7]<|.br (.nil) (.ex (List k9×k9) (fun z=>gs=z.1++[z.2]) (fun (z:List k9×k9)=>.h (.z6 1000 (.agg [.own 3 (z.1.map aJ++[(gI z.2.na z.2.ru z.2.wa:V)]) gr fr cr,bV b]))<|.dx 10 [0,1,2,3,4,5,6,7,8,9] [(3,⟨false,[],some [1000],[55],[]⟩),(7,⟨false,[],some [1000],[59],[]⟩)] []<|.q 1<|.q 1<|.q 1<|.r 1 [.b7]<|.q 1<|.q 1<|.q 1<|.r 1 [.b7]<|.q 1<|.q 1<|.h (.o4 61 (iN z.1.length))<|.q 2<|.q 1<|.cu (Un kW) (fun _=>.q 2<|.br (.nil) (.cu (Vh (.agg [.agg [bV l,sV p]])) (fun _=>.q 2<|.br (.al Bt (fun g8=>.st none<|.q 3<|.st none<|.Pv (.key 1000) [0,0+z.1.length,1] gr (fr+(0+z.1.length)*3+1) 2 (z.2.ru.map an) (fun gA oA cA=>.h (.z6 1000 (dj (.own 3 (z.1.map aJ++[(wm z.2.na z.2.ru gA oA cA z.2.wa:V)]) gr fr cr)))<|.r 6 [.own 2 (z.2.ru.map an) gA oA cA]<|.br (.dx 9 [0,1,2,3,4,5,6,7,8] [(4,⟨false,[],some [1000],[94],[]⟩),(6,⟨false,[],some [8],[96],[]⟩),(8,⟨true,[],none,[98],[1000]⟩)] []<|.q 1<|.q 1<|.q 1<|.q 1<|.r 1 [.own 2 (z.2.ru.map an) gA oA cA]<|.q 1<|.r 1 [.b7]<|.bs<|.eu (VK 1000 [0,0+z.1.length,1] (z.2.ru.map an) ([.agg [bV l,sV p]]:List V) gr (fr+(0+z.1.length)*3+1) 2 gA oA cA) (fun L3=>.h (.z6 1000 (dj (.own 3 (z.1.map aJ++[(.agg [.ow 1 (z.2.na.map sV),.b7,iN z.2.wa]:V)]) gr fr cr)))<|.h (.o4 98 (.own 2 ((z.2.ru++[(⟨l,p⟩:s5)]).map an) L3.1 L3.2.1 L3.2.2))<|.q 2<|.st (some (.b7))<|.h (.z6 1000 (dj (.own 3 (z.1.map aJ++[(wm z.2.na (z.2.ru++[(⟨l,p⟩:s5)]) L3.1 L3.2.1 L3.2.2 z.2.wa:V)]) gr fr cr)))<|.h (.OP (.key 1000) [0,0+z.1.length,1] gr (fr+(0+z.1.length)*3+1) (.own 2 ((z.2.ru++[(⟨l,p⟩:s5)]).map an) L3.1 L3.2.1 L3.2.2) (.ow 2 ((z.2.ru++[(⟨l,p⟩:s5)]).map an)))<|.h (.z6 1000 (dj (.own 3 (z.1.map aJ++[(gI z.2.na (z.2.ru++[(⟨l,p⟩:s5)]) z.2.wa:V)]) gr fr cr)))<|.h (.z6 1000 (.agg [.own 3 ((z.1++[(⟨z.2.na,z.2.ru++[⟨l,p⟩],z.2.wa⟩:k9)]).map aJ) gr fr cr,bV true]))<|.nil)) (.h (.OP (.key 1000) [0,0+z.1.length,1] gr (fr+(0+z.1.length)*3+1) (.own 2 (z.2.ru.map an) gA oA cA) (.ow 2 (z.2.ru.map an)))<|.h (.z6 1000 (dj (.own 3 (z.1.map aJ++[(gI z.2.na z.2.ru z.2.wa:V)]) gr fr cr)))<|.h (.z6 1000 (.agg [.own 3 ((z.1++[z.2]).map aJ) gr fr cr,bV true]))<|.nil)))) (.nil)))))))))))
  ((fun v1:List V=>(fun v2:V=>(∀ gr fr cr:Nat,((∃ td,Tryz.prog.underlying 220=some td/\∀ i,td≠.interface i)/\((222:Nat)≠220)/\(∃ y,(.agg [sV []]:V).val? =some y/\∀ w,(zeroValue 220).run Tryz.prog w=.ok y w))/\∀ _:Unit,∀ g4:Nat,Z g4 0/\(false=false)/\(false=false)/\(false=false)/\(false=false)/\(false=false)/\(false=false)/\(false=false)/\(false=false)/\(false=false)/\(false=false)/\(false=false)/\(false=false)/\Pk false false true/\Br (false&&false) (False) (True/\Z g 0/\Br (o6 (((gs.map aJ).length:Nat):Int) 0) (Q (.tup []) (.tup [])/\Qr g (eD gs b) g v2) ((∃ z:List k9×k9,gs=z.1++[z.2])/\∀ z:List k9×k9,(gs=z.1++[z.2])->(fun v3:V=>(fun v4:V=>(fun v5:V=>(fun v6:V=>((.agg [.own 3 (gs.map aJ) gr fr cr,bV b]:V)=.agg [.own 3 (z.1.map aJ++[v3]) gr fr cr,bV b])/\True/\Z g 0/\True/\Z g 0/\m6 ((((z.1.map aJ++[v3]).length:Nat):Int)-1)/\Q (iV ((((z.1.map aJ++[v3]).length:Nat):Int)-1)) (iN z.1.length)/\In (z.1.length:Int) ((z.1.map aJ++[v3]).length)/\((∃ td,Tryz.prog.underlying 220=some td/\∀ i,td≠.interface i)/\((222:Nat)≠220)/\(∃ y,(.agg [sV []]:V).val? =some y/\∀ w,(zeroValue 220).run Tryz.prog w=.ok y w))/\∀ _:Unit,Br false (False) (((∃ td,Tryz.prog.underlying 222=some td/\∀ i,td≠.interface i)/\((222:Nat)=222)/\((.agg #[.bool l,.string (Str p)]:Value)=.agg #[.bool l,.string (Str p)]))/\∀ _:Unit,Br true (∀ g8:Nat,Z g8 0/\True/\Z g 1/\(V.at g 0 (dj v5) [0,0+z.1.length,1]=some (gr,fr+(0+z.1.length)*3+1,.ow 2 (z.2.ru.map an)))/\∀ gA oA cA:Nat,(fun v7:V=>(V.set (dj v5) [0,0+z.1.length,1] (.own 2 (z.2.ru.map an) gA oA cA)=dj v7)/\True/\(V.at g 0 (dj v7) [0,0+z.1.length,1]=some (gr,(fr+(0+z.1.length)*3+1),.own 2 (z.2.ru.map an) gA oA cA))/\Br (s4 (((z.2.ru.map an).length:Nat):Int) 6) (True/\(V.at g 0 (dj v7) [0,0+z.1.length,1]=some (gr,(fr+(0+z.1.length)*3+1),.own 2 (z.2.ru.map an) gA oA cA))/\Z g8 0/\(v1=v1/\((.hd (.key 1000) [0,0+z.1.length,1] 2 gA oA 0 ((z.2.ru.map an).length) cA:V)=.hd (.key 1000) [0,0+z.1.length,1] 2 gA oA 0 ((z.2.ru.map an).length) cA)/\(V.at g 0 (dj v7) [0,0+z.1.length,1]=some (gr,fr+(0+z.1.length)*3+1,.own 2 (z.2.ru.map an) gA oA cA))/\((2:Nat)=2)/\(V.ay v1=false)/\(aC 2 v1)/\(((z.2.ru.map an).length+v1.length)*24<=140737488355328))/\∀ L3:Nat×Nat×Nat,(fun v8:V=>(V.set (dj v7) [0,0+z.1.length,1] (.b7)=dj v4)/\((.own 2 ((z.2.ru.map an)++v1) L3.1 L3.2.1 L3.2.2:V)=.own 2 ((z.2.ru++[(⟨l,p⟩:s5)]).map an) L3.1 L3.2.1 L3.2.2)/\True/\(V.at g 0 (dj v4) [0,0+z.1.length,1]=some (gr,(fr+(0+z.1.length)*3+1),.b7))/\(V.set (dj v4) [0,0+z.1.length,1] (.own 2 ((z.2.ru++[(⟨l,p⟩:s5)]).map an) L3.1 L3.2.1 L3.2.2)=dj v8)/\(V.at g 0 (dj v8) [0,0+z.1.length,1]=some (gr,fr+(0+z.1.length)*3+1,.own 2 ((z.2.ru++[(⟨l,p⟩:s5)]).map an) L3.1 L3.2.1 L3.2.2))/\(V.set (dj v8) [0,0+z.1.length,1] (.ow 2 ((z.2.ru++[(⟨l,p⟩:s5)]).map an))=dj v6)/\((dj v6:V)=.agg [.own 3 ((z.1++[(⟨z.2.na,z.2.ru++[⟨l,p⟩],z.2.wa⟩:k9)]).map aJ) gr fr cr,bV true])/\Q (.tup []) (.tup [])/\Qr g (.agg [.ow 3 ((z.1++[(⟨z.2.na,z.2.ru++[⟨l,p⟩],z.2.wa⟩:k9)]).map aJ),bV true]) g v2) (.own 3 (z.1.map aJ++[(wm z.2.na (z.2.ru++[(⟨l,p⟩:s5)]) L3.1 L3.2.1 L3.2.2 z.2.wa:V)]) gr fr cr)) ((V.at g 0 (dj v7) [0,0+z.1.length,1]=some (gr,fr+(0+z.1.length)*3+1,.own 2 (z.2.ru.map an) gA oA cA))/\(V.set (dj v7) [0,0+z.1.length,1] (.ow 2 (z.2.ru.map an))=dj v5)/\((dj v5:V)=.agg [.own 3 ((z.1++[z.2]).map aJ) gr fr cr,bV true])/\Q (.tup []) (.tup [])/\Qr g (.agg [.ow 3 ((z.1++[z.2]).map aJ),bV true]) g v2)) (.own 3 (z.1.map aJ++[(wm z.2.na z.2.ru gA oA cA z.2.wa:V)]) gr fr cr)) (False))) (.own 3 (z.1.map aJ++[(gI z.2.na (z.2.ru++[(⟨l,p⟩:s5)]) z.2.wa:V)]) gr fr cr)) (.own 3 (z.1.map aJ++[v3]) gr fr cr)) (.own 3 (z.1.map aJ++[(.agg [.ow 1 (z.2.na.map sV),.b7,iN z.2.wa]:V)]) gr fr cr)) (gI z.2.na z.2.ru z.2.wa:V))))) (eD ((ib gs b l p).1) ((ib gs b l p).2))) ([.agg [bV l,sV p]]:List V)) ?_
 intro gr fr cr
 refine⟨⟨⟨_,Tryz.underlying220,by intro i h;cases h⟩,Z6,_,rfl,Tryz.zeroValue220⟩,?_⟩
 intro _
 intro g4
 refine⟨rfl,rfl,rfl,rfl,rfl,rfl,rfl,rfl,rfl,rfl,rfl,rfl,rfl,⟨fun h=>by rw[h] <;> rfl,fun _=>rfl⟩,?_⟩
 refine bI (fun j7=>?_) fun j7=>?_
 · all_goals (first | exact absurd j7 Z6 | simp_all)
 · refine⟨trivial,rfl,?_⟩
   refine bI (fun l4=>?_) fun l4=>?_
   refine⟨?_,by rw[show ib gs b l p=(gs,b) from if_pos (ZF Z9)]⟩
   unfold Q
   rfl
   · refine⟨lr (pw Z9),?_⟩
     intro z hz
     have NB:=hn z.2 (by rw[hz];simp)
     have Uu:gs.length=z.1.length+1:=by rw[hz];simp
     refine⟨Tp (Zo (V.own 3 · gr fr cr) (by rw[hz,Zz];rfl)),trivial,rfl,trivial,rfl,by(try simp only[ZM]at *);(try simp only[ZW,ZM,ZU,ZQ]);omega,by unfold Q;refine Zo iV ?_;simp,by(try simp only[ZM]at *);(try simp only[ZW,ZM,ZU,ZQ]);omega,⟨⟨_,Tryz.underlying220,by intro i h;cases h⟩,Z6,_,rfl,Tryz.zeroValue220⟩,?_⟩
     intro _
     refine bI (fun m8=>?_) fun m8=>?_
     · all_goals (first | exact absurd m8 Z6 | simp_all)
     · refine⟨⟨⟨_,Tryz.underlying222,by intro i h;cases h⟩,rfl,rfl⟩,?_⟩
       intro _
       refine bI (fun w7=>?_) fun w7=>?_
       intro g8
       refine⟨rfl,trivial,rfl,eZ.trans (az (by rw[ZO];exact aR) rfl),?_⟩
       intro gA oA cA
       refine⟨mS (aP (by rw[ZO];exact aR) (by rw[ZO];exact de)),trivial,eZ.trans (az (by rw[ZO];exact aR) rfl),?_⟩
       refine bI (fun G8=>?_) fun G8=>?_
       refine⟨trivial,eZ.trans (az (by rw[ZO];exact aR) rfl),rfl,⟨rfl,rfl,eZ.trans (az (by rw[ZO];exact aR) rfl),rfl,rfl,by simp[aC,V.n,V.ns],by(try simp only[ZM,ZU,ZQ]);omega⟩,?_⟩
       intro L3
       refine⟨mS (aP (by rw[ZO];exact aR) (by rw[ZO];exact de)),Zo (V.own 2 · L3.1 L3.2.1 L3.2.2) Z8,trivial,eZ.trans (az (by rw[ZO];exact aR) rfl),mS (aP (by rw[ZO];exact aR) (by rw[ZO];exact de)),eZ.trans (az (by rw[ZO];exact aR) rfl),mS (aP (by rw[ZO];exact aR) (by rw[ZO];exact de)),Tp (Zo (V.own 3 · gr fr cr) (by rw[Zz (f:=aJ)];rfl)),?_⟩
       refine⟨?_,by rw[show ib gs b l p=(z.1++[⟨z.2.na,z.2.ru++[⟨l,p⟩],z.2.wa⟩],true) from by rw[ib,if_neg (by rintro h;simp_all),if_pos (by rw[hz,kJ];omega),hz,fA]]⟩
       unfold Q
       rfl
       refine⟨eZ.trans (az (by rw[ZO];exact aR) rfl),mS (aP (by rw[ZO];exact aR) (by rw[ZO];exact de)),Tp (Zo (V.own 3 · gr fr cr) (by rw[Zz (f:=aJ)];rfl)),?_⟩
       refine⟨?_,by rw[show ib gs b l p=(z.1++[z.2],true) from by rw[ib,if_neg (by rintro h;simp_all),if_neg (by rw[hz,kJ];omega),hz]]⟩
       unfold Q
       rfl
       · all_goals (first | exact absurd w7 Z6 | simp_all)
theorem DM(gs:List k9)(b:Bool)(g:Nat)(v:Nat)(hg:gs.length<=1000)(hn:∀ y,y∈gs->y.na.length<=1000/\y.ru.length<=6):PF Tryz.prog 155 [.ptr (.key 1000) [] g 0,.lit (.iface 225 (.agg #[.int .i64 (v:Int)]))] [(1000,(g,eD gs b))] (fun r h=>r=(.tup [])/\h=[(1000,(g,eD ((kq gs b v).1) ((kq gs b v).2)))]):=by
 refine aq (N:=112) (rs:=[]) Tryz.func155
  (.oR (.key 1000) [0] (fun gr fr cr=>.q 1<|.cu (Un kW) (fun _=>.q 3<|.al kW (fun g4=>.st none<|.q 1<|.q 2<|.gf (.b7)<|.gf (.b7)<|.gf (.b7)<|.gf (.b7)<|.gf (.b7)<|.gf (bV false)<|.gf (bV false)<|.gf (.b7)<|.gf (.b7)<|.gf (.b7)<|.gf (bV false)<|.gf (bV false)<|.q 1<|.br (.nil) (.r 6 [.b7]<|.br (.nil) (.ex (List k9×k9) (fun z=>gs=z.1++[z.2]) (fun (z:List k9×k9)=>.h (.z6 1000 (.agg [.own 3 (z.1.map aJ++[(gI z.2.na z.2.ru z.2.wa:V)]) gr fr cr,bV b]))<|.dx 10 [0,1,2,3,4,5,6,7,8,9] [(3,⟨false,[],some [1000],[55],[]⟩),(7,⟨false,[],some [1000],[59],[]⟩)] []<|.q 1<|.q 1<|.q 1<|.r 1 [.b7]<|.q 1<|.q 1<|.q 1<|.r 1 [.b7]<|.q 1<|.q 1<|.h (.o4 61 (iN z.1.length))<|.q 2<|.q 1<|.cu (Un kW) (fun _=>.q 2<|.br (.nil) (.cu (Un Bt) (fun _=>.q 2<|.br (.nil) (.cu (Vh (.agg [iN v])) (fun _=>.q 2<|.br (.al Gi (fun g9=>.st none<|.q 3<|.st none<|.r 5 [.b7]<|.st (some (iN z.2.wa))<|.h (.z6 1000 (dj (.own 3 (z.1.map aJ++[(gI z.2.na z.2.ru v:V)]) gr fr cr)))<|.h (.z6 1000 (.agg [.own 3 ((z.1++[(⟨z.2.na,z.2.ru,v⟩:k9)]).map aJ) gr fr cr,bV true]))<|.nil)) (.nil)))))))))))))
  ((fun v1:V=>(∀ gr fr cr:Nat,((∃ td,Tryz.prog.underlying 220=some td/\∀ i,td≠.interface i)/\((225:Nat)≠220)/\(∃ y,(.agg [sV []]:V).val? =some y/\∀ w,(zeroValue 220).run Tryz.prog w=.ok y w))/\∀ _:Unit,∀ g4:Nat,Z g4 0/\(false=false)/\(false=false)/\(false=false)/\(false=false)/\(false=false)/\(false=false)/\(false=false)/\(false=false)/\(false=false)/\(false=false)/\(false=false)/\(false=false)/\Pk false false true/\Br (false&&false) (False) (True/\Z g 0/\Br (o6 (((gs.map aJ).length:Nat):Int) 0) (Q (.tup []) (.tup [])/\Qr g (eD gs b) g v1) ((∃ z:List k9×k9,gs=z.1++[z.2])/\∀ z:List k9×k9,(gs=z.1++[z.2])->(fun v2:V=>(fun v3:V=>((.agg [.own 3 (gs.map aJ) gr fr cr,bV b]:V)=.agg [.own 3 (z.1.map aJ++[v2]) gr fr cr,bV b])/\True/\Z g 0/\True/\Z g 0/\m6 ((((z.1.map aJ++[v2]).length:Nat):Int)-1)/\Q (iV ((((z.1.map aJ++[v2]).length:Nat):Int)-1)) (iN z.1.length)/\In (z.1.length:Int) ((z.1.map aJ++[v2]).length)/\((∃ td,Tryz.prog.underlying 220=some td/\∀ i,td≠.interface i)/\((225:Nat)≠220)/\(∃ y,(.agg [sV []]:V).val? =some y/\∀ w,(zeroValue 220).run Tryz.prog w=.ok y w))/\∀ _:Unit,Br false (False) (((∃ td,Tryz.prog.underlying 222=some td/\∀ i,td≠.interface i)/\((225:Nat)≠222)/\(∃ y,(.agg [.agg [bV false,sV []]]:V).val? =some y/\∀ w,(zeroValue 222).run Tryz.prog w=.ok y w))/\∀ _:Unit,Br false (False) (((∃ td,Tryz.prog.underlying 225=some td/\∀ i,td≠.interface i)/\((225:Nat)=225)/\((.agg #[.int .i64 (v:Int)]:Value)=.agg #[.int .i64 (v:Int)]))/\∀ _:Unit,Br true (∀ g9:Nat,Z g9 0/\True/\Z g 1/\Z g9 0/\True/\(V.at g 0 (dj (.own 3 (z.1.map aJ++[v2]) gr fr cr)) [0,0+z.1.length,2]=some (gr,(fr+(0+z.1.length)*3+2),iN z.2.wa))/\(V.set (dj (.own 3 (z.1.map aJ++[v2]) gr fr cr)) [0,0+z.1.length,2] (iN v)=dj v3)/\((dj v3:V)=.agg [.own 3 ((z.1++[(⟨z.2.na,z.2.ru,v⟩:k9)]).map aJ) gr fr cr,bV true])/\Q (.tup []) (.tup [])/\Qr g (.agg [.ow 3 ((z.1++[(⟨z.2.na,z.2.ru,v⟩:k9)]).map aJ),bV true]) g v1) (Q (.tup []) (.tup [])/\Qr g (.agg [.ow 3 (z.1.map aJ++[v2]),bV b]) g v1)))) (.own 3 (z.1.map aJ++[(gI z.2.na z.2.ru v:V)]) gr fr cr)) (gI z.2.na z.2.ru z.2.wa:V))))) (eD ((kq gs b v).1) ((kq gs b v).2))) ?_
 intro gr fr cr
 refine⟨⟨⟨_,Tryz.underlying220,by intro i h;cases h⟩,Z6,_,rfl,Tryz.zeroValue220⟩,?_⟩
 intro _
 intro g4
 refine⟨rfl,rfl,rfl,rfl,rfl,rfl,rfl,rfl,rfl,rfl,rfl,rfl,rfl,⟨fun h=>by rw[h] <;> rfl,fun _=>rfl⟩,?_⟩
 refine bI (fun j7=>?_) fun j7=>?_
 · all_goals (first | exact absurd j7 Z6 | simp_all)
 · refine⟨trivial,rfl,?_⟩
   refine bI (fun l4=>?_) fun l4=>?_
   refine⟨?_,by rw[show kq gs b v=(gs,b) from if_pos (ZF Z9)]⟩
   unfold Q
   rfl
   · refine⟨lr (pw Z9),?_⟩
     intro z hz
     have NB:=hn z.2 (by rw[hz];simp)
     have Uu:gs.length=z.1.length+1:=by rw[hz];simp
     refine⟨Tp (Zo (V.own 3 · gr fr cr) (by rw[hz,Zz];rfl)),trivial,rfl,trivial,rfl,by(try simp only[ZM]at *);(try simp only[ZW,ZM,ZU,ZQ]);omega,by unfold Q;refine Zo iV ?_;simp,by(try simp only[ZM]at *);(try simp only[ZW,ZM,ZU,ZQ]);omega,⟨⟨_,Tryz.underlying220,by intro i h;cases h⟩,Z6,_,rfl,Tryz.zeroValue220⟩,?_⟩
     intro _
     refine bI (fun m8=>?_) fun m8=>?_
     · all_goals (first | exact absurd m8 Z6 | simp_all)
     · refine⟨⟨⟨_,Tryz.underlying222,by intro i h;cases h⟩,Z6,_,rfl,Tryz.zeroValue222⟩,?_⟩
       intro _
       refine bI (fun w7=>?_) fun w7=>?_
       · all_goals (first | exact absurd w7 Z6 | simp_all)
       · refine⟨⟨⟨_,Tryz.underlying225,by intro i h;cases h⟩,rfl,rfl⟩,?_⟩
         intro _
         refine bI (fun G8=>?_) fun G8=>?_
         intro g9
         refine⟨rfl,trivial,rfl,rfl,trivial,eZ.trans (az (by rw[ZO];exact aR) rfl),mS (aP (by rw[ZO];exact aR) (by rw[ZO];exact de)),Tp (Zo (V.own 3 · gr fr cr) (by rw[Zz (f:=aJ)];rfl)),?_⟩
         refine⟨?_,by rw[show kq gs b v=(z.1++[⟨z.2.na,z.2.ru,v⟩],true) from by rw[kq,if_neg (by rintro h;simp_all),hz,fA]]⟩
         unfold Q
         rfl
         · all_goals (first | exact absurd G8 Z6 | simp_all)
def BC(c:UInt8):Bool:=decide (48<=c.toNat/\c.toNat<=57)
theorem zp(s:BL):s.all (fun c=>decide (48<=c.toNat/\c.toNat<=57))=s.all BC:=rfl
abbrev gD(s:BL)(i:Nat)(q:Int):Prop:=i<=s.length/\q=((s.take i).foldl (im 20) 0)/\(0<=q/\q<=20)/\∀ j,j<i->BC (s.getD j 0)=true
def tl(s:BL):o8 Tryz.prog:=.mk 182 [sV s] [] (s.length<=1000000) (iV (gU s 20)) [] (by
 intro hs
 refine aq (N:=31) (rs:=[.tmp 2]) Tryz.func182
  (.q 1<|.q 1<|.q 1<|.loop (Nat×Int) (fun (i,q)=>⟨[(0,sV s),(3,iV q),(4,iN i)],[]⟩) (fun (i,q)=>gD s i q) (fun (i,q)=>s.length-i) (fun (i,q)=>.q 4<|.br (.q 10<|.br (.q 1<|.nil) (.q 8<|.mm<|.q 1<|.q 3<|.nil)) (.q 2<|.nil)))
  ((∃ x:Nat×Int,match x with | (h9,y8)=>(gD s h9 y8)/\E (sV s)/\Q (iN 0) (iV y8)/\Q (iN 0) (iN h9)/\True)/\∀ x:Nat×Int,match x with | (i,q)=>(gD s i q)->(fun v1:Int=>Br (s4 (i:Int) (s.length:Int)) (Ix (i:Int) s/\Gd ((s4 v1 48)==false) (Ix (i:Int) s)/\Pk (s4 v1 48) true ((s4 v1 48)==false)/\Br ((s4 v1 48)||(s7 v1 57)) (Q (iN 0) (iV (gU s 20))) (m6 (q*10)/\Ix (i:Int) s/\Ov (v1-48)/\m6 (v1-48)/\m6 ((q*10)+(v1-48))/\(IntKind.i64=IntKind.i64)/\m6 ((i:Int)+1)/\∃ x:Nat×Int,match x with | (b9,n9)=>(gD s b9 n9)/\(s.length-b9<s.length-i)/\E (sV s)/\Q (iV (min ((q*10)+(v1-48)) 20)) (iV n9)/\Q (iN (i+1)) (iN b9)/\True)) (Q (iV q) (iV (gU s 20)))) (((s.getD i 0).toNat:Nat):Int)) ?_
 refine⟨⟨(0,0),?_,rfl,Z4,rfl,trivial⟩,?_⟩
 unfold gD
 simp
 rintro⟨i,q⟩ ⟨h1,h2,h3,h4⟩
 have hci:=(s.getD i 0).toNat_lt
 refine bI (fun j7=>?_) fun j7=>?_
 refine⟨Z9,fun hG=>by(try simp only[nb]at hG);omega,⟨fun _=>rfl,fun h=>by rw[h] <;> rfl⟩,?_⟩
 refine bI (fun l4=>?_) fun l4=>?_
 unfold Q
 rw[show gU s 20=0 from if_neg (by rw[zp,all_false (i:=i) (d:=0) Z9 (by unfold BC;rw[decide_eq_false_iff_not];omega)];decide)]
 rfl
 refine⟨Z9,Z9,by have:=Zx (s.getD i 0);omega,by have:=Zx (s.getD i 0);omega,by have:=Zx (s.getD i 0);omega,rfl,Z9,?_⟩
 refine⟨(i+1,min ((q*10)+((((s.getD i 0).toNat:Nat):Int)-48)) 20),?_,?_,rfl,rfl,rfl,trivial⟩
 unfold gD
 refine⟨Z9,?_,Z9,bE h4 (by unfold BC;rw[Zq];omega)⟩
 rw[foldl_succ (d:=0) Z9,<- h2,im]
 exact Z1
 unfold Q
 rw[show gU s 20=s.foldl (im 20) 0 from if_pos (by rw[zp];exact all_true (d:=0) (fun j hj=>h4 j Z9)),h2,ZL Z9])
abbrev eS(t:BL):V:=.tup [.lit (Ba (eR (ab 32 t).1 (ab 32 t).2.1)),bV (fY (ab 32 t).1 (ab 32 t).2.1)]
def tA(t:BL):o8 Tryz.prog:=.mk 154 [sV t] [] (t.length<=1000000) (eS t) [] (by
 intro ht
 have Ms:=kE 32 t
 refine aq (N:=38) (rs:=[.tmp 2,.tmp 3]) Tryz.func154
  (.q 2<|.q 1<|.c (my t 32) []<|.q 7<|.q 1<|.q 2<|.br (.q 1<|.bd kW<|.cu VW (fun _=>.q 1<|.c (pg ((ab 32 t).2.1)) []<|.q 2<|.nil)) (.q 2<|.join (Bool) (fun c=>⟨[(0,sV t),(2,.lit .nilIface),(3,bV false),(8,sV t),(9,.tup [sV ((ab 32 t).1),sV ((ab 32 t).2.1),bV ((ab 32 t).2.2)]),(7,.tup [sV ((ab 32 t).1),sV ((ab 32 t).2.1),bV ((ab 32 t).2.2)]),(10,sV ((ab 32 t).1)),(11,sV ((ab 32 t).2.1)),(12,bV ((ab 32 t).2.2)),(4,sV ((ab 32 t).1)),(5,sV ((ab 32 t).2.1)),(6,bV ((ab 32 t).2.2)),(13,sV ((ab 32 t).1)),(15,bV (((ab 32 t).1)==([99,97,108,108,101,114]:BL))),(14,bV (((ab 32 t).1)==([99,97,108,108,101,114]:BL))),(22,bV (((ab 32 t).1)==([108,101,116]:BL))),(21,bV c)],[]⟩) (fun c=>c=decide ((ab 32 t).1=[108,101,116]\/(ab 32 t).1=[98,97,114])) (.nil) (.q 2<|.nil) (fun c=>.br (.q 3<|.bd sO<|.bd Bt<|.cu VW (fun _=>.q 1<|.c (jc ((ab 32 t).2.1)) []<|.q 2<|.nil)) (.q 2<|.br (.q 1<|.c (tl ((ab 32 t).2.1)) []<|.bd Gi<|.cu VW (fun _=>.q 2<|.nil)) (.q 2<|.nil)))))
  ((fun v1:V=>(fun v2:BL=>(fun v3:BL=>(fun v4:V=>(fun v5:V=>((my t 32).sm/\((t.length<=1000000))/\Br (((ab 32 t).1)==v3) (((∃ td,Tryz.prog.underlying 220=some td/\∀ i,td≠.interface i)/\(Value.iface 220 (.agg #[.string (Str ((ab 32 t).2.1))])).oneCell'=true)/\∀ _:Unit,(pg ((ab 32 t).2.1)).sm/\((((ab 32 t).2.1).length<=4611686018427387904))/\Q (.tup [.lit (.iface 220 (.agg #[.string (Str ((ab 32 t).2.1))])),bV ((((ab 32 t).2.1)==[42])||bp ((ab 32 t).2.1))]) (eS t)) (((((ab 32 t).1)==v2)=true->∃ c:Bool,(c=decide ((ab 32 t).1=[108,101,116]\/(ab 32 t).1=[98,97,114]))/\E (sV t)/\E (.lit .nilIface)/\E (bV false)/\E (sV t)/\E v1/\E v1/\E v4/\E v5/\E (bV ((ab 32 t).2.2))/\E v4/\E v5/\E (bV ((ab 32 t).2.2))/\E v4/\E (bV (((ab 32 t).1)==v3))/\E (bV (((ab 32 t).1)==v3))/\E (bV (((ab 32 t).1)==v2))/\Q (bV (((ab 32 t).1)==v2)) (bV c)/\True)/\((((ab 32 t).1)==v2)=false->∃ c:Bool,(c=decide ((ab 32 t).1=[108,101,116]\/(ab 32 t).1=[98,97,114]))/\E (sV t)/\E (.lit .nilIface)/\E (bV false)/\E (sV t)/\E v1/\E v1/\E v4/\E v5/\E (bV ((ab 32 t).2.2))/\E v4/\E v5/\E (bV ((ab 32 t).2.2))/\E v4/\E (bV (((ab 32 t).1)==v3))/\E (bV (((ab 32 t).1)==v3))/\E (bV (((ab 32 t).1)==v2))/\Q (bV (((ab 32 t).1)==([98,97,114]:BL))) (bV c)/\True)/\(∀ c:Bool,(c=decide ((ab 32 t).1=[108,101,116]\/(ab 32 t).1=[98,97,114]))->Br c (((∃ td,Tryz.prog.underlying 222=some td/\∀ i,td≠.interface i)/\(Value.iface 222 (.agg #[.bool (((ab 32 t).1)==v2),.string (Str ((ab 32 t).2.1))])).oneCell'=true)/\∀ _:Unit,(jc ((ab 32 t).2.1)).sm/\((((ab 32 t).2.1).length<=4611686018427387904))/\Q (.tup [.lit (.iface 222 (.agg #[.bool (((ab 32 t).1)==v2),.string (Str ((ab 32 t).2.1))])),bV (dn ((ab 32 t).2.1))]) (eS t)) (Br (((ab 32 t).1)==([119,97,105,116]:BL)) ((tl ((ab 32 t).2.1)).sm/\((((ab 32 t).2.1).length<=1000000))/\((∃ td,Tryz.prog.underlying 225=some td/\∀ i,td≠.interface i)/\(Value.iface 225 (.agg #[.int .i64 (gU ((ab 32 t).2.1) 20)])).oneCell'=true)/\∀ _:Unit,Q (.tup [.lit (.iface 225 (.agg #[.int .i64 (gU ((ab 32 t).2.1) 20)])),bV true]) (eS t)) (Q (.tup [.lit .nilIface,bV false]) (eS t))))))) (sV ((ab 32 t).2.1))) (sV ((ab 32 t).1))) ([99,97,108,108,101,114]:BL)) ([108,101,116]:BL)) (.tup [sV ((ab 32 t).1),sV ((ab 32 t).2.1),bV ((ab 32 t).2.2)])) ?_
 refine⟨rfl,Z9,?_⟩
 refine bI (fun j7=>?_) fun j7=>?_
 refine⟨⟨⟨_,Tryz.underlying220,by intro i h;cases h⟩,rfl⟩,?_⟩
 intro _
 refine⟨rfl,Z9,?_⟩
 unfold Q eS
 rw[show eR (ab 32 t).1 (ab 32 t).2.1=.caller (ab 32 t).2.1 from if_pos j7,show fY (ab 32 t).1 (ab 32 t).2.1=_ from if_pos j7]
 rfl
 · refine⟨fun l4=>?_,fun l4=>?_,fun c hc=>?_⟩
   · try simp only[nb]at l4
     exact⟨((ab 32 t).1)==([108,101,116]:BL),by first | (rw[ZE];simp_all;done) | grind,rfl,rfl,rfl,rfl,rfl,rfl,rfl,rfl,rfl,rfl,rfl,rfl,rfl,rfl,rfl,rfl,rfl,trivial⟩
   · try simp only[nb]at l4
     exact⟨((ab 32 t).1)==([98,97,114]:BL),by first | (rw[ZE];simp_all;done) | grind,rfl,rfl,rfl,rfl,rfl,rfl,rfl,rfl,rfl,rfl,rfl,rfl,rfl,rfl,rfl,rfl,rfl,trivial⟩
   refine bI (fun m8=>?_) fun m8=>?_
   refine⟨⟨⟨_,Tryz.underlying222,by intro i h;cases h⟩,rfl⟩,?_⟩
   intro _
   refine⟨rfl,Z9,?_⟩
   unfold Q eS
   have h2:(ab 32 t).1=[108,101,116]\/(ab 32 t).1=[98,97,114]:=by grind
   rw[show eR (ab 32 t).1 (ab 32 t).2.1=.OA ((ab 32 t).1==[108,101,116]) (ab 32 t).2.1 from by rw[eR,if_neg j7,if_pos h2],show fY (ab 32 t).1 (ab 32 t).2.1=aZ (ab 32 t).2.1 from by rw[fY,if_neg j7,if_pos h2],nA]
   rfl
   refine bI (fun w7=>?_) fun w7=>?_
   refine⟨rfl,Z9,⟨⟨_,Tryz.underlying225,by intro i h;cases h⟩,rfl⟩,?_⟩
   intro _
   unfold Q eS
   have h2: ¬ ((ab 32 t).1=[108,101,116]\/(ab 32 t).1=[98,97,114]):=by grind
   rw[show eR (ab 32 t).1 (ab 32 t).2.1=.wait (gU (ab 32 t).2.1 20).toNat from by rw[eR,if_neg j7,if_neg h2,if_pos w7],show fY (ab 32 t).1 (ab 32 t).2.1=true from by rw[fY,if_neg j7,if_neg h2,if_pos w7]]
   show V.tup [.lit (.iface 225 (.agg #[.int .i64 (gU (ab 32 t).2.1 20)])),_]=V.tup [.lit (.iface 225 (.agg #[.int .i64 (((gU (ab 32 t).2.1 20).toNat:Nat):Int)])),_]
   rw[Int.toNat_of_nonneg (Hr Z9)]
   unfold Q eS
   have h2: ¬ ((ab 32 t).1=[108,101,116]\/(ab 32 t).1=[98,97,114]):=by grind
   rw[show eR (ab 32 t).1 (ab 32 t).2.1=.none from by rw[eR,if_neg j7,if_neg h2,if_neg w7],show fY (ab 32 t).1 (ab 32 t).2.1=false from by rw[fY,if_neg j7,if_neg h2,if_neg w7]]
   rfl)
theorem Hw{w r:BL}(h:fY w r=true):eR w r≠.none:=by
 unfold fY at h
 unfold eR
 split at h
 rename_i h1;rw[if_pos h1];intro c;cases c
 rename_i h1
 rw[if_neg h1]
 split at h
 rename_i h2;rw[if_pos h2];intro c;cases c
 rename_i h2
 rw[if_neg h2]
 split at h
 rename_i h3;rw[if_pos h3];intro c;cases c
 cases h
theorem Ev(gs:List k9)(b:Bool)(g:Nat)(l:Ln)(hg:gs.length<=1000)(hn:∀ y,y∈gs->y.na.length<=1000/\y.ru.length<=6)(hl:l≠.none):
 PF Tryz.prog 155 [.ptr (.key 1000) [] g 0,.lit (Ba l)] [(1000,(g,.agg [.ow 3 (gs.map aJ),bV b]))] (fun r h=>r=.tup []/\h=[(1000,(g,.agg [.ow 3 ((fp gs b l).1.map aJ),bV (fp gs b l).2]))]):=by
 cases l with
 | none=>exact absurd rfl hl
 | caller n=>exact FO gs b g n hg hn
 | OA q p=>exact Ft gs b g q p hg hn
 | wait v=>exact DM gs b g v hg hn
def zj(gs:List k9)(b:Bool)(g:Nat)(l:Ln):o8 Tryz.prog:={ f:=155,args:=[.ptr (.key 1000) [] g 0,.lit (Ba l)],H:=[(1000,(g,eD gs b))],pre:=(gs.length<=1000)/\(∀ y,y∈gs->y.na.length<=1000/\y.ru.length<=6)/\(l≠.none),res:=.tup [],H':=[(1000,(g,.agg [.ow 3 ((fp gs b l).1.map aJ),bV (fp gs b l).2]))],ok:=fun h=>Ev gs b g l h.1 h.2.1 h.2.2 }
theorem FP{n:Nat}{gs:List k9}{b:Bool}(h:J0 n gs)(l:BL):J0 (n+1) (lb (gs,b) l).1:=by
 unfold lb
 split
 have hl:∀ z,gs.getLast? =some z->z.na.length<=n/\z.ru.length<=6:=fun z hz=>h.each z (List.mem_of_getLast? hz)
 cases eR (ab 32 l).1 (ab 32 l).2.1 with
 | none=>exact h.mono Z9
 | caller q=>
   simp only[fp,kh]
   split
   refine⟨by have:=h.len;simp;omega,fun y hy=>?_⟩
   rcases ZN.1 hy with hy | hy
   have:=h.each y hy;exact⟨Z9,this.2⟩
   rw[ZP.1 hy];simp
   exact h.set fun z hz=>⟨by have:=hl z hz;simp;omega,(hl z hz).2⟩
 | OA q p=>
   simp only[fp,ib]
   split
   exact h.mono Z9
   split
   rename_i h6
   refine h.set fun z hz=>⟨by have:=hl z hz;simp only;omega,?_⟩
   unfold gp at h6
   rw[hz]at h6
   simp only at h6
   simp only[ZW,ZU,ZQ];omega
   exact h.mono Z9
 | wait v=>
   simp only[fp,kq]
   split
   exact h.mono Z9
   exact h.set fun z hz=>⟨by have:=hl z hz;simp only;omega,(hl z hz).2⟩
 exact h.mono Z9
abbrev dJ(t:BL)(i:Nat)(gs:List k9)(b:Bool):Prop:=i<=(ah 10 t).length/\i<=40/\J0 i gs/\((ah 10 t).take i).foldl lb ([],false)=(gs,b)
def pj(t:BL):o8 Tryz.prog:=.mk 126 [sV t] [] (t.length<=1000000) (.ow 3 ((cn t).map aJ)) [] (by
 intro ht
 refine aq (N:=29) (rs:=[.tmp 2]) Tryz.func126
  (.q 1<|.al KD (fun g3=>.q 1<|.c (oO t 10) []<|.q 2<|.h (.A4 (.key 3) [0] 3)<|.loop (Nat×(List k9)×Bool) (fun (i,gs,b)=>⟨[(0,sV t),(3,.ptr (.key 3) [] g3 0),(9,.sl true ((ah 10 t).map sV)),(10,iN ((ah 10 t).length)),(11,iN i)],[(3,(g3,eD gs b))]⟩) (fun (i,gs,b)=>dJ t i gs b) (fun (i,gs,b)=>(ah 10 t).length-i) (fun (i,gs,b)=>.q 1<|.br (.r 5 [sV ((ah 10 t).getD i [])]<|.q 2<|.br (.q 1<|.mv<|.q 1<|.nil) (.q 1<|.c (tA ((ah 10 t).getD i [])) []<|.q 5<|.q 1<|.br (.q 1<|.c (zj gs b g3 (eR (ab 32 ((ah 10 t).getD i [])).1 (ab 32 ((ah 10 t).getD i [])).2.1)) [(1000,3)]<|.q 2<|.nil) (.q 2<|.nil))) (.q 1<|.mv<|.q 1<|.nil))))
  ((fun v1:V=>(∀ g3:Nat,(oO t 10).sm/\((t.length<=1000000))/\(∃ x:Nat×(List k9)×Bool,match x with | (h9,Sa,M1)=>(dJ t h9 Sa M1)/\E (sV t)/\E (.ptr (.key 3) [] g3 0)/\E v1/\Q (iN (((ah 10 t).map sV).length)) (iN ((ah 10 t).length))/\Q (iN 0) (iN h9)/\Qr g3 (.agg [.ow 3 ([].map aJ),bV false]) g3 (eD Sa M1)/\True)/\∀ x:Nat×(List k9)×Bool,match x with | (i,gs,b)=>(dJ t i gs b)->Br (s4 (i:Int) (((ah 10 t).length:Nat):Int)) (Ex (i:Int) ((ah 10 t).map sV) (sV ((ah 10 t).getD i []))/\True/\Br (o6 (i:Int) 40) (Z g3 0/\Q (.ow 3 (gs.map aJ)) (.ow 3 ((cn t).map aJ))) ((tA ((ah 10 t).getD i [])).sm/\((((ah 10 t).getD i []).length<=1000000))/\Br (fY (ab 32 ((ah 10 t).getD i [])).1 (ab 32 ((ah 10 t).getD i [])).2.1) ((zj gs b g3 (eR (ab 32 ((ah 10 t).getD i [])).1 (ab 32 ((ah 10 t).getD i [])).2.1)).sm/\Er g3 (eD gs b)/\((gs.length<=1000)/\(∀ y,y∈gs->y.na.length<=1000/\y.ru.length<=6)/\((eR (ab 32 ((ah 10 t).getD i [])).1 (ab 32 ((ah 10 t).getD i [])).2.1)≠.none))/\m6 ((i:Int)+1)/\∃ x:Nat×(List k9)×Bool,match x with | (b9,Om,B7)=>(dJ t b9 Om B7)/\((ah 10 t).length-b9<(ah 10 t).length-i)/\E (sV t)/\E (.ptr (.key 3) [] g3 0)/\E v1/\E (iN ((ah 10 t).length))/\Q (iN (i+1)) (iN b9)/\Qr g3 (eD ((fp gs b (eR (ab 32 ((ah 10 t).getD i [])).1 (ab 32 ((ah 10 t).getD i [])).2.1)).1) ((fp gs b (eR (ab 32 ((ah 10 t).getD i [])).1 (ab 32 ((ah 10 t).getD i [])).2.1)).2)) g3 (eD Om B7)/\True) (m6 ((i:Int)+1)/\∃ x:Nat×(List k9)×Bool,match x with | (b9,Om,B7)=>(dJ t b9 Om B7)/\((ah 10 t).length-b9<(ah 10 t).length-i)/\E (sV t)/\E (.ptr (.key 3) [] g3 0)/\E v1/\E (iN ((ah 10 t).length))/\Q (iN (i+1)) (iN b9)/\Qr g3 (eD gs b) g3 (eD Om B7)/\True))) (Z g3 0/\Q (.ow 3 (gs.map aJ)) (.ow 3 ((cn t).map aJ))))) (.sl true ((ah 10 t).map sV))) ?_
 intro g3
 refine⟨rfl,Z9,?_⟩
 refine⟨⟨(0,[],false),?_,rfl,rfl,rfl,Z4,rfl,rfl,trivial⟩,?_⟩
 unfold dJ
 exact⟨Z9,Z9,⟨Z8,Z8⟩,rfl⟩
 rintro⟨i,gs,b⟩ ⟨h1,h2,h3,h4⟩
 refine bI (fun j7=>?_) fun j7=>?_
 refine⟨⟨Z9,aj (d:=[]) Z9⟩,trivial,?_⟩
 refine bI (fun l4=>?_) fun l4=>?_
 refine⟨rfl,?_⟩
 unfold Q
 rw[show cn t=gs from by rw[<- vu,Dv h1 h2 (fun _=>by omega),h4]]
 refine⟨rfl,by have:=pn 10 t i;omega,?_⟩
 refine bI (fun m8=>?_) fun m8=>?_
 refine⟨rfl,rfl,⟨by have:=h3.len;omega,fun y hy=>by have:=h3.each y hy;omega,Hw m8⟩,Z9,?_⟩
 refine⟨(i+1,(fp gs b (eR (ab 32 ((ah 10 t).getD i [])).1 (ab 32 ((ah 10 t).getD i [])).2.1)).1,(fp gs b (eR (ab 32 ((ah 10 t).getD i [])).1 (ab 32 ((ah 10 t).getD i [])).2.1)).2),?_,?_,rfl,rfl,rfl,rfl,rfl,rfl,trivial⟩
 unfold dJ
 have x4:lb (gs,b) ((ah 10 t).getD i [])=fp gs b (eR (ab 32 ((ah 10 t).getD i [])).1 (ab 32 ((ah 10 t).getD i [])).2.1):=if_pos m8
 refine⟨Z9,Z9,?_,?_⟩
 rw[<- x4];exact FP h3 _
 rw[foldl_succ (d:=[]) Z9,h4,x4]
 exact Z1
 refine⟨Z9,?_⟩
 refine⟨(i+1,gs,b),?_,?_,rfl,rfl,rfl,rfl,rfl,rfl,trivial⟩
 unfold dJ
 have x4:lb (gs,b) ((ah 10 t).getD i [])=(gs,b):=if_neg (by rw[m8];decide)
 refine⟨Z9,Z9,h3.mono Z9,?_⟩
 rw[foldl_succ (d:=[]) Z9,h4,x4]
 exact Z1
 refine⟨rfl,?_⟩
 unfold Q
 rw[show cn t=gs from by rw[<- vu,Dv h1 h2 (fun h=>by omega),h4]])
theorem FX{gs:List k9}{a:BL}{i:Nat}(h:i<gs.length):(gs.map fun y=>y.na.contains a).getD i false=(gs.getD i ⟨[],[],0⟩).na.contains a:=by
 rw[ZZ,ZZ,List.getElem?_map,ZR h];rfl
def wg(y:k9)(a:BL)(u:Nat):o8 Tryz.prog:=.mk 151 [eC y.na y.ru y.wa,.ptr (.key 1000) [] u 0] [(1000,(u,sV a))] (y.na.length<=1000000) (bV (y.na.contains a)) [(1000,(u,sV a))] (by
 intro hy
 refine aq (N:=8) (rs:=[.tmp 3]) Tryz.func151
  (.bx (fun g2=>.q 1<|.r 3 [.b7,.b7]<|.c (oU y.na a) []<|.q 1<|.nil))
  (∀ g2:Nat,Z g2 0/\Z u 0/\(oU y.na a).sm/\((y.na.length<=1000000))/\Q (bV (y.na.contains a)) (bV (y.na.contains a))/\Er u (sV a)) ?_
 intro g2
 refine⟨rfl,rfl,rfl,Z5,?_⟩
 refine⟨?_,rfl⟩
 unfold Q
 rfl)
def Ae(gs:List k9)(a:BL)(u:Nat):o8 Tryz.prog:=.mk 179 [aY gs,.lit (.func (.func 151) #[] #[.pointer (some ⟨u,0,none⟩)])] [(1000,(u,sV a))] ((gs.length<=1000000)/\(∀ i,(gs.getD i ⟨[],[],0⟩).na.length<=1000000)) (iV (cS (gs.map fun y=>y.na.contains a) true)) [(1000,(u,sV a))] (by
 rintro⟨hg,hn⟩
 refine aq (N:=19) (rs:=[.tmp 4]) Tryz.func179
  (.q 1<|.q 3<|.loop (Nat) (fun (i:Nat)=>⟨[(0,aY gs),(1,.lit (.func (.func 151) #[] #[.pointer (some ⟨u,0,none⟩)])),(6,aY gs),(7,iN gs.length),(8,iN i)],[(1000,(u,sV a))]⟩) (fun (i:Nat)=>i<=gs.length/\∀ j,j<i->((gs.getD j ⟨[],[],0⟩).na.contains a)=false) (fun (i:Nat)=>gs.length-i) (fun (i:Nat)=>.q 1<|.br (.q 2<|.r 5 [eC ((gs.getD i (⟨[],[],0⟩:k9)).na) ((gs.getD i (⟨[],[],0⟩:k9)).ru) ((gs.getD i (⟨[],[],0⟩:k9)).wa)]<|.c (wg (gs.getD i (⟨[],[],0⟩:k9)) a u) [(1000,1000)]<|.br (.q 2<|.nil) (.q 2<|.nil)) (.q 1<|.nil)))
  ((fun v1:V=>((∃ h9:Nat,(h9<=gs.length/\∀ j,j<h9->((gs.getD j ⟨[],[],0⟩).na.contains a)=false)/\E (aY gs)/\E v1/\E (aY gs)/\Q (iN ((gs.map bB).length)) (iN gs.length)/\Q (iN 0) (iN h9)/\Er u (sV a)/\True)/\∀ i:Nat,(i<=gs.length/\∀ j,j<i->((gs.getD j ⟨[],[],0⟩).na.contains a)=false)->Br (s4 (i:Int) (gs.length:Int)) (Ex (i:Int) (gs.map bB) (eC ((gs.getD i (⟨[],[],0⟩:k9)).na) ((gs.getD i (⟨[],[],0⟩:k9)).ru) ((gs.getD i (⟨[],[],0⟩:k9)).wa))/\True/\(wg (gs.getD i (⟨[],[],0⟩:k9)) a u).sm/\Er u (sV a)/\(((gs.getD i (⟨[],[],0⟩:k9)).na.length<=1000000))/\Br ((gs.getD i (⟨[],[],0⟩:k9)).na.contains a) (Q (iN i) (iV (cS (gs.map fun y=>y.na.contains a) true))/\Er u (sV a)) (m6 ((i:Int)+1)/\∃ b9:Nat,(b9<=gs.length/\∀ j,j<b9->((gs.getD j ⟨[],[],0⟩).na.contains a)=false)/\(gs.length-b9<gs.length-i)/\E (aY gs)/\E v1/\E (aY gs)/\E (iN gs.length)/\Q (iN (i+1)) (iN b9)/\Er u (sV a)/\True)) (Q (iV (-1)) (iV (cS (gs.map fun y=>y.na.contains a) true))/\Er u (sV a)))) (.lit (.func (.func 151) #[] #[.pointer (some ⟨u,0,none⟩)]))) ?_
 refine⟨⟨0,?_,rfl,rfl,rfl,Z4,rfl,rfl,trivial⟩,?_⟩
 simp
 rintro i ⟨h1,h2⟩
 have hni:=hn i
 refine bI (fun j7=>?_) fun j7=>?_
 refine⟨⟨Z9,aj (d:=(⟨[],[],0⟩:k9)) Z9⟩,trivial,rfl,rfl,hn i,?_⟩
 refine bI (fun l4=>?_) fun l4=>?_
 refine⟨?_,rfl⟩
 unfold Q
 rw[kT (i:=i) (by rw[ZM];omega) (by rw[FX Z9];exact l4) (fun j hj=>by rw[FX Z9];rw[h2 j hj];decide)]
 refine⟨Z9,?_⟩
 refine⟨i+1,?_,?_,rfl,rfl,rfl,rfl,rfl,rfl,trivial⟩
 exact⟨Z9,bE h2 l4⟩
 exact Z1
 refine⟨?_,rfl⟩
 unfold Q
 rw[kj (fun j hj=>by rw[ZM]at hj;rw[FX hj];rw[h2 j Z9];decide)])
def Aa(gs:List k9)(a:BL)(u:Nat):o8 Tryz.prog:=.mk 152 [aY gs,.lit (.func (.func 151) #[] #[.pointer (some ⟨u,0,none⟩)])] [(1000,(u,sV a))] ((gs.length<=1000000)/\(∀ i,(gs.getD i ⟨[],[],0⟩).na.length<=1000000)) (bV (gs.any fun y=>y.na.contains a)) [(1000,(u,sV a))] (by
 rintro⟨hg,hn⟩
 refine aq (N:=9) (rs:=[.tmp 4]) Tryz.func152
  (.q 1<|.q 2<|.c (Ae gs a u) [(1000,1000)]<|.q 2<|.nil)
  ((Ae gs a u).sm/\Er u (sV a)/\((gs.length<=1000000)/\(∀ i,(gs.getD i ⟨[],[],0⟩).na.length<=1000000))/\Q (bV (x6 (cS (gs.map fun y=>y.na.contains a) true) 0)) (bV (gs.any fun y=>y.na.contains a))/\Er u (sV a)) ?_
 refine⟨rfl,rfl,⟨Z5,Z5⟩,?_⟩
 refine⟨?_,rfl⟩
 unfold Q
 refine Zo bV ?_
 show decide (cS (gs.map fun y=>y.na.contains a) true>=0)=_
 rw[show decide (cS (gs.map fun y=>y.na.contains a) true>=0)=(gs.map fun y=>y.na.contains a).contains true from kN _ _]
 rw[ZE];simp)
def wy(a:BL):E7 Tryz.prog:=.mk Nat 150 [sV a] [] True (fun x=>True) (fun x=>.lit (.func (.func 151) #[] #[.pointer (some ⟨x,0,none⟩)])) (fun x=>[(1000,(x,sV a))]) (by
 intro _
 refine eK (N:=4) (rs:=[.tmp 2]) (X:=Nat) (post:=fun x=>True) (E:=fun x=>.lit (.func (.func 151) #[] #[.pointer (some ⟨x,0,none⟩)])) (H':=fun x=>[(1000,(x,sV a))]) Tryz.func150 Z7 rfl rfl rfl Z7 [(1000,(0,.b7))] (by intro _ k hk;simpa[lk] using hk)
  (.bx (fun g1=>.q 1<|.cu RJ (fun _=>.q 1<|.h (.rk 1 1000)<|.nil)))
  (∀ g1:Nat,((Value.func (.func 151) #[] #[.pointer (some ⟨g1,0,none⟩)]).oneCell'=true)/\∀ _:Unit,∃ x:Nat,(True)/\Q (.lit (.func (.func 151) #[] #[.pointer (some ⟨g1,0,none⟩)])) (.lit (.func (.func 151) #[] #[.pointer (some ⟨x,0,none⟩)]))/\Qr g1 (sV a) x (sV a))
  Z7 ?_
 intro g1
 refine⟨rfl,?_⟩
 intro _
 refine⟨g1,?_,?_,?_⟩
 · try dsimp only
   all_goals trivial
 first | rfl | simp_all
 first | rfl | exact⟨rfl,rfl⟩ | simp_all)
abbrev lW(gs:List k9)(n:BL):V:=iH (.sl false ([n].map sV)) ((fD gs n).ru) ((fD gs n).wa)
def jo(gs:List k9)(n:BL):o8 Tryz.prog:=.mk 125 [aY gs,sV n] [] ((gs.length<=1000)/\(∀ i,(gs.getD i ⟨[],[],0⟩).ru.length<=100)/\(∀ i,(gs.getD i ⟨[],[],0⟩).na.length<=1000000)) (lW gs n) [] (by
 rintro⟨hg,hr,ha⟩
 refine aq (N:=45) (rs:=[.cell 4 69]) Tryz.func125
  (.al iA (fun g4=>.q 1<|.q 2<|.q 3<|.cx (wy n) [(1000,14)] (fun (m5:Nat)=>.c (Aa gs n m5) [(1000,14)]<|.q 1<|.join BL (fun d=>⟨[(0,aY gs),(1,sV n),(4,.ptr (.key 4) [] g4 0),(5,.lit (.func (.func 150) #[] #[])),(10,sV n),(11,aY gs),(12,.lit (.func (.func 150) #[] #[])),(13,sV n),(14,.lit (.func (.func 151) #[] #[.pointer (some ⟨m5,0,none⟩)])),(15,bV (gs.any fun y=>y.na.contains n)),(16,bV (!(gs.any fun y=>y.na.contains n))),(6,sV d)],[(4,(g4,.agg [.sl true [],.sl true [],iN 0])),(14,(m5,sV n))]⟩) (fun d=>d=jg gs n) (.q 1<|.nil) (.nil) (fun d=>.q 1<|.bs<|.bd iA<|.al iA (fun g7=>.st none<|.q 3<|.h (.A4 (.key 7) [1] 2)<|.loop (Nat×(List s5)×Nat×Nat×Nat×Nat) (fun (i,e,q,u,f,k)=>⟨[(4,.ptr (.key 4) [] g4 0),(5,.lit (.func (.func 150) #[] #[])),(6,sV d),(7,.ptr (.key 7) [] g7 0),(20,aY gs),(21,iN gs.length),(22,iN i)],[(4,(g4,.agg [.sl true [],.sl true [],iN 0])),(7,(g7,.agg [.sl true [sV n],.own 2 (e.map an) u f k,iN q]))]⟩) (fun (i,e,q,u,f,k)=>i<=gs.length/\((gs.take i).foldl (cW d) (([],0),false)).1=(e,q)/\e.length<=100*i) (fun (i,e,q,u,f,k)=>gs.length-i) (fun (i,e,q,u,f,k)=>.q 1<|.br (.r 2 [eC ((gs.getD i (⟨[],[],0⟩:k9)).na) ((gs.getD i (⟨[],[],0⟩:k9)).ru) ((gs.getD i (⟨[],[],0⟩:k9)).wa)]<|.al iA (fun g9=>.st none<|.dx 4 [0,1,3,2] [(3,⟨false,[],some [9],[29],[]⟩),(2,⟨true,[],some [28],[28],[28]⟩)] []<|.q 1<|.q 1<|.r 1 [.b7]<|.cx (wy d) [(1000,28)] (fun (PK:Nat)=>.c (wg (gs.getD i (⟨[],[],0⟩:k9)) d PK) [(1000,28)]<|.br (.r 4 [.b7,.b7]<|.ap (fun PD Px PI=>.h (.o4 35 (.own 2 ((e++((gs.getD i (⟨[],[],0⟩:k9)).ru)).map an) PD Px PI))<|.q 1<|.st none<|.r 4 [.b7,.b7]<|.mm<|.q 1<|.st none<|.h (.z6 7 (.agg [.sl true [sV n],.own 2 ((e++((gs.getD i (⟨[],[],0⟩:k9)).ru)).map an) PD Px PI,iN (max q (gs.getD i ⟨[],[],0⟩).wa)]))<|.q 2<|.nil)) (.q 2<|.nil)))) (.mv<|.h (.fz 44)<|.h (.o4 44 (iH (.sl true [sV n]) e q))<|.st none<|.nil)))))))
  ((fun v1:V=>(fun v2:V=>(∀ g4:Nat,(fun v3:V=>(wy n).sm/\(True)/\∀ m5:Nat,(True)->(fun v4:V=>(Aa gs n m5).sm/\Er m5 (sV n)/\((gs.length<=1000000)/\(∀ i,(gs.getD i ⟨[],[],0⟩).na.length<=1000000))/\((!(gs.any fun y=>y.na.contains n))=true->∃ d:BL,(d=jg gs n)/\E (aY gs)/\E (sV n)/\E v3/\E v1/\E (sV n)/\E (aY gs)/\E v1/\E (sV n)/\E v4/\E (bV (gs.any fun y=>y.na.contains n))/\E (bV (!(gs.any fun y=>y.na.contains n)))/\Q (sV ([42]:BL)) (sV d)/\Er g4 v2/\Er m5 (sV n)/\True)/\((!(gs.any fun y=>y.na.contains n))=false->∃ d:BL,(d=jg gs n)/\E (aY gs)/\E (sV n)/\E v3/\E v1/\E (sV n)/\E (aY gs)/\E v1/\E (sV n)/\E v4/\E (bV (gs.any fun y=>y.na.contains n))/\E (bV (!(gs.any fun y=>y.na.contains n)))/\Q (sV n) (sV d)/\Er g4 v2/\Er m5 (sV n)/\True)/\(∀ d:BL,(d=jg gs n)->∀ g7:Nat,Z g7 0/\(∃ x:Nat×(List s5)×Nat×Nat×Nat×Nat,match x with | (h9,C8,y8,G3,x9,r9)=>(h9<=gs.length/\((gs.take h9).foldl (cW d) (([],0),false)).1=(C8,y8)/\C8.length<=100*h9)/\E v3/\E v1/\E (sV d)/\E (.ptr (.key 7) [] g7 0)/\E (aY gs)/\Q (iN ((gs.map bB).length)) (iN gs.length)/\Q (iN 0) (iN h9)/\Er g4 v2/\Qr g7 (.agg [.sl true [sV n],.own 2 ([].map an) 0 0 0,iN 0]) g7 (.agg [.sl true [sV n],.own 2 (C8.map an) G3 x9 r9,iN y8])/\True)/\∀ x:Nat×(List s5)×Nat×Nat×Nat×Nat,match x with | (i,e,q,u,f,k)=>(i<=gs.length/\((gs.take i).foldl (cW d) (([],0),false)).1=(e,q)/\e.length<=100*i)->Br (s4 (i:Int) (gs.length:Int)) (Ex (i:Int) (gs.map bB) (eC ((gs.getD i (⟨[],[],0⟩:k9)).na) ((gs.getD i (⟨[],[],0⟩:k9)).ru) ((gs.getD i (⟨[],[],0⟩:k9)).wa))/\True/\∀ g9:Nat,Z g9 0/\Z g9 0/\(wy d).sm/\(True)/\∀ PK:Nat,(True)->(wg (gs.getD i (⟨[],[],0⟩:k9)) d PK).sm/\Er PK (sV d)/\(((gs.getD i (⟨[],[],0⟩:k9)).na.length<=1000000))/\Br ((gs.getD i (⟨[],[],0⟩:k9)).na.contains d) (Z g7 1/\Z g9 1/\((2,2,u,f,k,(e.map an).length)=(2,2,u,f,k,(e.map an).length))/\(True)/\(V.ay (((gs.getD i (⟨[],[],0⟩:k9)).ru).map an)=false)/\(aC 2 (((gs.getD i (⟨[],[],0⟩:k9)).ru).map an))/\(((e.map an).length+(((gs.getD i (⟨[],[],0⟩:k9)).ru).map an).length)*24<=140737488355328)/\∀ PD Px PI:Nat,((.own 2 ((e.map an)++(((gs.getD i (⟨[],[],0⟩:k9)).ru).map an)) PD Px PI:V)=.own 2 ((e++((gs.getD i (⟨[],[],0⟩:k9)).ru)).map an) PD Px PI)/\Z g7 1/\Z g7 2/\Z g9 2/\(IntKind.i64=IntKind.i64)/\Z g7 2/\((.agg [.sl true [sV n],.own 2 ((e++((gs.getD i (⟨[],[],0⟩:k9)).ru)).map an) PD Px PI,iV (max (q:Int) (((gs.getD i (⟨[],[],0⟩:k9)).wa:Nat):Int))]:V)=.agg [.sl true [sV n],.own 2 ((e++((gs.getD i (⟨[],[],0⟩:k9)).ru)).map an) PD Px PI,iN (max q (gs.getD i ⟨[],[],0⟩).wa)])/\m6 ((i:Int)+1)/\∃ x:Nat×(List s5)×Nat×Nat×Nat×Nat,match x with | (b9,w3,n9,A6,o9,k₂)=>(b9<=gs.length/\((gs.take b9).foldl (cW d) (([],0),false)).1=(w3,n9)/\w3.length<=100*b9)/\(gs.length-b9<gs.length-i)/\E v3/\E v1/\E (sV d)/\E (.ptr (.key 7) [] g7 0)/\E (aY gs)/\E (iN gs.length)/\Q (iN (i+1)) (iN b9)/\Er g4 v2/\Qr g7 (.agg [.sl true [sV n],.own 2 ((e++((gs.getD i (⟨[],[],0⟩:k9)).ru)).map an) PD Px PI,iN (max q (gs.getD i ⟨[],[],0⟩).wa)]) g7 (.agg [.sl true [sV n],.own 2 (w3.map an) A6 o9 k₂,iN n9])/\True) (m6 ((i:Int)+1)/\∃ x:Nat×(List s5)×Nat×Nat×Nat×Nat,match x with | (b9,w3,n9,A6,o9,k₂)=>(b9<=gs.length/\((gs.take b9).foldl (cW d) (([],0),false)).1=(w3,n9)/\w3.length<=100*b9)/\(gs.length-b9<gs.length-i)/\E v3/\E v1/\E (sV d)/\E (.ptr (.key 7) [] g7 0)/\E (aY gs)/\E (iN gs.length)/\Q (iN (i+1)) (iN b9)/\Er g4 v2/\Qr g7 (.agg [.sl true [sV n],.own 2 (e.map an) u f k,iN q]) g7 (.agg [.sl true [sV n],.own 2 (w3.map an) A6 o9 k₂,iN n9])/\True)) (Z g7 0/\((.agg [.sl true [sV n],.sl false (V.D5 (e.map an)),iN q]:V)=iH (.sl true [sV n]) e q)/\Z g4 0/\(g4=g4)/\Q (iH (.sl false [sV n]) e q) (lW gs n)))) (.lit (.func (.func 151) #[] #[.pointer (some ⟨m5,0,none⟩)]))) (.ptr (.key 4) [] g4 0))) (.agg [.sl true [],.sl true [],iN 0])) (.lit (.func (.func 150) #[] #[]))) ?_
 intro g4
 refine⟨rfl,trivial,?_⟩
 intro m5 Uz
 refine⟨rfl,rfl,⟨Z9,ha⟩,?_⟩
 refine⟨fun j7=>?_,fun j7=>?_,fun d hd=>?_⟩
 try simp only[nb]at j7
 exact⟨([42]:BL),by unfold jg;rw[j7];rfl,rfl,rfl,rfl,rfl,rfl,rfl,rfl,rfl,rfl,rfl,rfl,rfl,rfl,rfl,trivial⟩
 try simp only[nb]at j7
 exact⟨n,by unfold jg;rw[j7];rfl,rfl,rfl,rfl,rfl,rfl,rfl,rfl,rfl,rfl,rfl,rfl,rfl,rfl,rfl,trivial⟩
 intro g7
 refine⟨rfl,?_⟩
 refine⟨⟨(0,[],0,0,0,0),?_,rfl,rfl,rfl,rfl,rfl,Z4,rfl,rfl,rfl,trivial⟩,?_⟩
 simp
 rintro⟨i,e,q,u,f,k⟩ ⟨h1,h2,h3⟩
 have hai:=ha i
 refine bI (fun l4=>?_) fun l4=>?_
 refine⟨⟨Z9,aj (d:=(⟨[],[],0⟩:k9)) Z9⟩,trivial,?_⟩
 intro g9
 refine⟨rfl,rfl,rfl,trivial,?_⟩
 intro PK Xl
 refine⟨rfl,rfl,ha i,?_⟩
 refine bI (fun m8=>?_) fun m8=>?_
 refine⟨rfl,rfl,rfl,trivial,(ct (f:=an) (fun _=>rfl) _),(dU (f:=an) (fun _=>rfl) _),by(try simp only[ZM,ZU,ZQ]);have:=hr i;omega,?_⟩
 intro PD Px PI
 refine⟨Zo (V.own 2 · PD Px PI) ((Zz ..).symm),rfl,rfl,rfl,rfl,rfl,Zo (fun z:Int=>(.agg [.sl true [sV n],.own 2 ((e++((gs.getD i (⟨[],[],0⟩:k9)).ru)).map an) PD Px PI,iV z]:V)) Z9,Z9,?_⟩
 refine⟨(i+1,e++((gs.getD i (⟨[],[],0⟩:k9)).ru),max q (gs.getD i ⟨[],[],0⟩).wa,PD,Px,PI),?_,?_,rfl,rfl,rfl,rfl,rfl,rfl,rfl,rfl,rfl,trivial⟩
 have:=hr i
 refine⟨Z9,?_,by simp only[ZW];omega⟩
 rw[foldl_succ (d:=⟨[],[],0⟩) Z9,xP,if_pos m8,h2]
 exact Z1
 refine⟨Z9,?_⟩
 refine⟨(i+1,e,q,u,f,k),?_,?_,rfl,rfl,rfl,rfl,rfl,rfl,rfl,rfl,rfl,trivial⟩
 refine⟨Z9,?_,Z9⟩
 rw[foldl_succ (d:=⟨[],[],0⟩) Z9,xP,if_neg (by rw[m8];decide),h2]
 exact Z1
 refine⟨rfl,by simp only[aM (f:=an) (fun _=>rfl)],rfl,?_⟩
 refine⟨rfl,?_⟩
 unfold Q lW
 rw[ZL Z9]at h2
 have hfa:=AA gs n
 rw[hfa.1,hfa.2,<- hd,h2]
 rfl)
abbrev gM(w:List Pg)(d:BL)(n:BL):V:=iH (.sl false ([n].map sV)) ((bL (ae w (ai d) 2).1 (ae w (ai d) 2).2 n).ru) ((bL (ae w (ai d) 2).1 (ae w (ai d) 2).2 n).wa)
def vl(w:List Pg)(d:BL)(n:BL):o8 Tryz.prog:=.mk 101 [.mp (w.map E1),sV d,sV n] [] ((d.length<=1000)/\((ae w (ai d) 2).2.length<=1000000)) (gM w d n) [] (by
 rintro⟨hd,ht⟩
 refine aq (N:=32) (rs:=[.cell 6 69]) Tryz.func101
  (.al iA (fun g6=>.q 2<|.c (fJ d) []<|.c (qK w (ai d)) []<|.q 5<|.q 1<|.q 2<|.br (.q 1<|.c (pj ((ae w (ai d) 2).2)) []<|.h (.fz 20)<|.h (.o4 20 (aY (cn ((ae w (ai d) 2).2))))<|.q 1<|.c (jo (cn ((ae w (ai d) 2).2)) n) []<|.st none<|.nil) (.q 2<|.br (.q 1<|.bs<|.bd sO<|.bs<|.bd iA<|.st none<|.nil) (.q 1<|.c (jo ([]:List k9) n) []<|.st none<|.nil))))
  ((fun v1:Int×BL=>(fun v2:List k9=>(∀ g6:Nat,(fJ d).sm/\((d.length<=4000000000000000000))/\(qK w (ai d)).sm/\(True)/\Br (o6 (v1.1) 1) ((pj (v1.2)).sm/\(((v1.2).length<=1000000))/\((.sl false (V.D5 ((cn (v1.2)).map aJ)):V)=aY (cn (v1.2)))/\(jo (cn (v1.2)) n).sm/\(((cn (v1.2)).length<=1000)/\(∀ i,((cn (v1.2)).getD i ⟨[],[],0⟩).ru.length<=100)/\(∀ i,((cn (v1.2)).getD i ⟨[],[],0⟩).na.length<=1000000))/\Z g6 0/\(g6=g6)/\Q (iH (.sl false ([n].map sV)) ((fD (cn (v1.2)) n).ru) ((fD (cn (v1.2)) n).wa)) (gM w d n)) (Br (o6 (v1.1) 3) (Z g6 0/\(g6=g6)/\Q (.agg [.sl false [sV n],.sl false [.agg [bV false,sV ([47]:BL)]],iN 0]) (gM w d n)) ((jo v2 n).sm/\((v2.length<=1000)/\(∀ i,(v2.getD i ⟨[],[],0⟩).ru.length<=100)/\(∀ i,(v2.getD i ⟨[],[],0⟩).na.length<=1000000))/\Z g6 0/\(g6=g6)/\Q (iH (.sl false ([n].map sV)) ((fD v2 n).ru) ((fD v2 n).wa)) (gM w d n))))) ([]:List k9)) (ae w (ai d) 2)) ?_
 intro g6
 refine⟨rfl,Z9,rfl,trivial,?_⟩
 refine bI (fun j7=>?_) fun j7=>?_
 refine⟨rfl,ht,Zo (V.sl false) (wF _),rfl,⟨by have:=(mD (ae w (ai d) 2).2).len;omega,fun i=>((mD (ae w (ai d) 2).2).ru i).1,fun i=>by have:=((mD (ae w (ai d) 2).2).ru i).2;omega⟩,rfl,?_⟩
 refine⟨rfl,?_⟩
 unfold Q gM
 rw[show bL (ae w (ai d) 2).1 (ae w (ai d) 2).2 n=fD (cn (ae w (ai d) 2).2) n from by rw[bL,if_pos j7]]
 refine bI (fun l4=>?_) fun l4=>?_
 refine⟨rfl,?_⟩
 refine⟨rfl,?_⟩
 unfold Q gM
 rw[show bL (ae w (ai d) 2).1 (ae w (ai d) 2).2 n=_ from by rw[bL,if_neg j7,if_pos l4]]
 rfl
 refine⟨rfl,⟨Z8,Z8,Z8⟩,rfl,?_⟩
 refine⟨rfl,?_⟩
 unfold Q gM
 rw[show bL (ae w (ai d) 2).1 (ae w (ai d) 2).2 n=_ from by rw[bL,if_neg j7,if_neg l4]])
def dN(t:BL)(x:List BL×Bool×Nat)(i:Nat):List BL×Bool×Nat:=
 if 0<x.2.2/\t.getD i 0=62 then (x.1++[(t.take i).drop (x.2.2-1)],x.2.1,0)
 else if 0<x.2.2 then x
 else if x.2.1=true then (x.1,!(t.getD i 0==41),0)
 else if t.getD i 0=40 then (x.1,true,0)
 else if t.getD i 0=60 then (x.1,false,i+2) else x
def dv(t:BL):Nat->List BL×Bool×Nat
 | 0=>([],false,0)
 | i+1=>dN t (dv t i) i
def aF(t:BL):List BL:=if t.length<=300 then (dv t t.length).1 else []
structure W5 (t:BL) (i:Nat) (x:List BL×Bool×Nat):Prop where
 len:x.1.length<=i
 each:∀ m,m∈x.1->m.length<=t.length/\∀ c,c∈m->c∈t
 pos:x.2.2<=i+1
 one:0<x.2.2->x.2.1=false
theorem GY{t:BL}{i:Nat}{x:List BL×Bool×Nat}(h:W5 t i x):W5 t (i+1) (dN t x i):=by
 obtain⟨h1,h2,h3,h4⟩:=h
 unfold dN
 split
 rename_i hc
 refine⟨Z0,fun m hm=>?_,Z8,fun hc=>by simp at hc⟩
 rcases ZN.1 hm with hm | hm
 exact h2 m hm
 rw[ZP.1 hm]
 exact⟨Z0,fun c hc=>List.mem_of_mem_take (List.mem_of_mem_drop hc)⟩
 split
 exact⟨Z9,h2,Z9,h4⟩
 split
 exact⟨Z0,h2,Z8,fun hc=>by simp at hc⟩
 split
 exact⟨Z0,h2,Z8,fun hc=>by simp at hc⟩
 split
 exact⟨Z0,h2,Z8,fun _=>rfl⟩
 exact⟨Z9,h2,Z9,h4⟩
theorem ug(t:BL):∀ i,W5 t i (dv t i)
 | 0=>⟨by simp[dv],by simp[dv],by simp[dv],by simp[dv]⟩
 | i+1=>GY (ug t i)
theorem nS(t:BL):(aF t).length<=300/\∀ m,m∈aF t->m.length<=300/\∀ c,c∈m->c∈t:=by
 unfold aF
 split
 rename_i h
 have hb:=ug t t.length
 exact⟨by have:=hb.len;omega,fun m hm=>⟨by have:=(hb.each m hm).1;omega,(hb.each m hm).2⟩⟩
 exact⟨Z8,fun m hm=>by simp at hm⟩
def ew(s:BL):UInt8:=s.getD 0 0
def jz(m:BL):Bool:=!(ew m==33)&&!(ew m==64)
def aU(t:BL):List BL:=(aF t).filter jz
def cm(t:BL):Option BL:=((aF t).find? fun m=>ew m==64).map (·.drop 1)
theorem rm(t:BL):(aU t).length<=300/\∀ m,m∈aU t->m.length<=300/\∀ c,c∈m->c∈t:=by
 have h:=nS t
 exact⟨by have:=List.length_filter_le jz (aF t);unfold aU;omega,fun m hm=>h.2 m (List.mem_filter.1 hm).1⟩
theorem zZ{t r:BL}(h:cm t=some r):r.length<=300/\∀ c,c∈r->c∈t:=by
 unfold cm at h
 cases e:(aF t).find? fun m=>ew m==64 with
 | none=>rw[e]at h;cases h
 | some m=>
   rw[e]at h
   obtain rfl:=Option.some.inj h
   have:=(nS t).2 m (List.mem_of_find?_eq_some e)
   exact⟨Z0,fun c hc=>this.2 c (List.mem_of_mem_drop hc)⟩
theorem zR{α:Type}{p:α->Bool}{d:α}:∀ {l:List α} {i:Nat},i<l.length->p (l.getD i d)=true->(∀ j,j<i->p (l.getD j d)=false)->l.find? p=some (l.getD i d)
 | [],_,h,_,_=>by simp at h
 | x::r,0,_,h,_=>by simp at h;simp[h]
 | x::r,i+1,hl,h,hn=>by
   have h0:=hn 0 Z9
   simp at h0
   rw[List.find?_cons_of_neg (by simpa using h0)]
   have:=zR (l:=r) (i:=i) (d:=d) (by simpa using hl) (by simpa using h) (fun j hj=>by have:=hn (j+1) Z9;simpa using this)
   simpa using this
theorem GK{α:Type}{p:α->Bool}{d:α}{l:List α}(h:∀ j,j<l.length->p (l.getD j d)=false):l.find? p=none:=by
 rw[List.find?_eq_none]
 intro x hx
 obtain⟨j,hj,rfl⟩:=Zu.1 hx
 have:=h j hj
 rw[ZZ,ZR hj]at this
 simpa using this
def G4(a:r8)(ref:BL):Option r8:=
 if aG a=false\/60<ref.length then none
 else if 2<=(ab 35 ref).1.length/\(ab 35 ref).1.take 2=[47,47] then dg ((ab 35 ref).1.drop 2)
 else if (ab 35 ref).1=[] then some a
 else if ew (ab 35 ref).1=47 then bT a.c9 [] (ab 35 ref).1
 else if ew (ab 35 ref).1=63 then bT a.c9 a.a8 (ab 35 ref).1
 else bT a.c9 (a.a8.take (a.a8.length-1)) (ab 35 ref).1
def iM(l:List BL)(s:BL):List BL:=if l.contains s=true then l else l++[s]
def fR(a:r8)(t:BL):r8:=match cm t with
 | some r=>(G4 a r).getD a
 | none=>a
def dQ(b:r8)(o:List BL)(m:BL):List BL:=if (G4 b m).isSome=true then iM o (bj (oA (G4 b m))) else o
def bf(a:r8)(t:BL):List BL:=if aG a=true then (aU t).foldl (dQ (fR a t)) [] else []
def sj(a:BL)(k:Int)(t:BL):List BL:=if k=1 then bf (oA (aA a)) t else if k=2 then [t] else []
def eJ(w:List Pg)(a:BL):List BL:=if av w=true/\aD a=true then sj a (ae w a 2).1 (ae w a 2).2 else []
theorem Dr{s:BL}(h:(dg s).isSome=true):aG (oA (dg s))=true:=mY h
theorem Av{a:r8}{r:BL}(h:(G4 a r).isSome=true):aG (oA (G4 a r))=true:=by
 unfold G4 at h ⊢
 split
 rename_i hc;rw[if_pos hc]at h;cases h
 rename_i hc
 rw[if_neg hc]at h
 split
 rename_i h2;rw[if_pos h2]at h;exact Dr h
 rename_i h2
 rw[if_neg h2]at h
 split
 cases e:aG a with
 | true=>exact e
 | false=>exact absurd (.inl e) hc
 rename_i h3
 rw[if_neg h3]at h
 split
 rename_i h4;rw[if_pos h4]at h;exact mY h
 rename_i h4
 rw[if_neg h4]at h
 split
 rename_i h5;rw[if_pos h5]at h;exact mY h
 rename_i h5;rw[if_neg h5]at h;exact mY h
theorem LR(a:r8)(r:BL):cy (oA (G4 a r)):=by
 cases e:(G4 a r).isSome with
 | true=>exact pH (Av e)
 | false=>
   rw[Option.isSome_eq_false_iff]at e
   rw[Option.isNone_iff_eq_none.1 e];exact pr
theorem Es{a:r8}{t:BL}(h:aG a=true):aG (fR a t)=true:=by
 unfold fR
 split
 rename_i r _
 cases e:G4 a r with
 | none=>exact h
 | some x=>have:=Av (a:=a) (r:=r) (by rw[e];rfl);rw[e]at this;exact this
 exact h
theorem cy.sz{a:r8}(h:cy a):dH a:=⟨by have:=h.1;omega,by have:=h.2.1;omega,by have:=h.2.2.1;omega,fun i=>by have:=h.2.2.2 i;omega⟩
theorem EZ{a:r8}:(bj a).length<=60:=by
 unfold bj
 split
 rename_i h
 unfold aG at h
 simp only[ZX,Zq]at h
 exact h.2
 simp
theorem Ig{l:List BL}{s:BL}:(iM l s).length<=l.length+1:=by
 unfold iM
 split <;> simp
theorem qz{l:List BL}{s x:BL}:x∈iM l s↔x∈l\/x=s:=by
 unfold iM
 split
 rename_i h
 have h:s∈l:=by simpa using h
 exact⟨.inl,fun hx=>hx.elim id fun e=>e ▸ h⟩
 simp
theorem zi{b:r8}:∀ (ls:List BL) {o:List BL},(ls.foldl (dQ b) o).length<=o.length+ls.length/\((∀ m,m∈o->m.length<=60)->∀ m,m∈ls.foldl (dQ b) o->m.length<=60)
 | [],o=>⟨Z8,fun h=>h⟩
 | l::ls,o=>by
   have ih:=zi (b:=b) ls (o:=dQ b o l)
   have h1:(dQ b o l).length<=o.length+1:=by unfold dQ;split;exact Ig;omega
   refine⟨by simp only[List.foldl_cons,ZU];omega,fun h=>ih.2 fun m hm=>?_⟩
   unfold dQ at hm
   split at hm
   rcases qz.1 hm with hm | rfl
   exact h m hm
   exact EZ
   exact h m hm
theorem zW(a:r8)(t:BL):(bf a t).length<=300/\∀ m,m∈bf a t->m.length<=60:=by
 unfold bf
 split
 have h:=zi (b:=fR a t) (aU t) (o:=[])
 exact⟨by have:=(rm t).1;simp at h;omega,h.2 Z8⟩
 exact⟨Z8,Z8⟩
def ez(o:List BL)(s:BL):List BL:=if aD s=true then iM o s else o
def kL(c5:List BL):List BL:=c5.foldl ez []
def SL(w:List Pg)(n a:BL):Prop:= ¬ ((ae w a 2).1=3\/kU w n a=false)
instance (w:List Pg) (n a:BL):Decidable (SL w n a):=by unfold SL;infer_instance
def wu(w:List Pg)(n:BL)(x:List BL×List BL)(i:Nat):List BL×List BL:=
 if SL w n (x.1.getD i []) then ((eJ w (x.1.getD i [])).foldl iM x.1,x.2++[x.1.getD i []]) else x
def rN(w:List Pg)(n:BL)(c5:List BL):Nat->List BL×List BL
 | 0=>(kL c5,[])
 | i+1=>wu w n (rN w n c5 i) i
theorem mw{α:Type}[DecidableEq α]:∀ {l u:List α},l.Nodup->(∀ x,x∈l->x∈u)->l.length<=u.length
 | [],_,_,_=>by simp
 | x::r,u,hn,hs=>by
   have hx:=hs x Z8
   have Qg:=List.nodup_cons.1 hn
   have h:=mw (l:=r) (u:=u.erase x) Qg.2 (fun y hy=>(List.mem_erase_of_ne (by rintro rfl;exact Qg.1 hy)).2 (hs y (by simp[hy])))
   rw[List.length_erase_of_mem hx]at h
   have:=List.length_pos_of_mem hx
   simp only[ZU];omega
theorem vc{l:List BL}{s:BL}(h:l.Nodup):(iM l s).Nodup:=by
 unfold iM
 split
 exact h
 rename_i hc
 have hc:s ∉ l:=by simpa using hc
 rw[List.nodup_append]
 refine⟨h,Z8,fun a ha b hb=>?_⟩
 rw[ZP.1 hb]
 rintro rfl;exact hc ha
theorem tN:∀ (f:List BL) {l:List BL},l.Nodup->(f.foldl iM l).Nodup
 | [],_,h=>h
 | s::f,_,h=>tN f (vc h)
theorem wH:∀ (f:List BL) {l:List BL} {x:BL},x∈f.foldl iM l↔x∈l\/x∈f
 | [],_,_=>by simp
 | s::f,l,x=>by
   rw[List.foldl_cons,wH f,qz,List.mem_cons]
   constructor
   rintro ((h | h) | h)
   exact .inl h
   exact .inr (.inl h)
   exact .inr (.inr h)
   rintro (h | h | h)
   exact .inl (.inl h)
   exact .inl (.inr h)
   exact .inr h
theorem qL:∀ (f:List BL) {l:List BL},l.Nodup->(f.foldl ez l).Nodup
 | [],_,h=>h
 | s::f,_,h=>qL f (by unfold ez;split;exact vc h;exact h)
theorem vP:∀ (f:List BL) {l:List BL} {x:BL},x∈f.foldl ez l↔x∈l\/(x∈f/\aD x=true)
 | [],_,_=>by simp
 | s::f,l,x=>by
   rw[List.foldl_cons,vP f,List.mem_cons]
   unfold ez
   split
   rename_i h
   rw[qz]
   constructor
   rintro ((h1 | rfl) | h1)
   exact .inl h1
   exact .inr ⟨.inl rfl,h⟩
   exact .inr ⟨.inr h1.1,h1.2⟩
   rintro (h1 | ⟨rfl | h1,h2⟩)
   exact .inl (.inl h1)
   exact .inl (.inr rfl)
   exact .inr ⟨h1,h2⟩
   rename_i h
   constructor
   rintro (h1 | h1)
   exact .inl h1
   exact .inr ⟨.inr h1.1,h1.2⟩
   rintro (h1 | ⟨rfl | h1,h2⟩)
   exact .inl h1
   exact absurd h2 h
   exact .inr ⟨h1,h2⟩
def xb(w:List Pg)(c5:List BL):List BL:=c5++(w.map fun p=>eJ w p.addr).flatten
theorem Ff(a:BL)(k:Int)(t:BL):(sj a k t).length<=300:=by
 unfold sj
 split
 exact(zW _ _).1
 split <;> simp
theorem CY(w:List Pg)(a:BL):(eJ w a).length<=300:=by
 unfold eJ
 split
 exact Ff _ _ _
 simp
theorem wV{α:Type}{f:α->List BL}{n:Nat}(h:∀ a,(f a).length<=n):∀ l:List α,(l.map f).flatten.length<=n*l.length
 | []=>by simp
 | a::l=>by
   have:=wV h l
   have ha:=h a
   simp only[Zw,List.flatten_cons,ZW,ZU,Nat.mul_add,Nat.mul_one]
   omega
theorem yE{w:List Pg}(h:av w=true):w.length<=12:=by
 unfold av at h
 simp only[ZX,Zq]at h
 exact h.2
theorem Iz{w:List Pg}{c5:List BL}(hw:av w=true)(hs:c5.length<=12):(xb w c5).length<=3700:=by
 have:=wV (CY w ·.addr) w
 have:=yE hw
 unfold xb
 rw[ZW]
 omega
theorem at_mem{a:BL}:∀ {w:List Pg},(A3 w a).2=true->∃ p,p∈w/\p.addr=a/\(A3 w a).1=p
 | [],h=>by simp[A3]at h
 | p::r,h=>by
   unfold A3 at h ⊢
   split
   rename_i e;exact⟨p,Z8,by simpa using e,rfl⟩
   rename_i e
   rw[if_neg e]at h
   obtain⟨q,h1,h2,h3⟩:=at_mem h
   exact⟨q,by simp[h1],h2,h3⟩
theorem DT{w:List Pg}{a x:BL}(h:x∈eJ w a):∃ p,p∈w/\p.addr=a:=by
 unfold eJ at h
 split at h
 cases e:(A3 w a).2 with
 | true=>obtain⟨p,h1,h2,_⟩:=at_mem e;exact⟨p,h1,h2⟩
 | false=>
   rw[show ae w a 2=(0,[]) from if_pos e]at h
   simp[sj]at h
 simp at h
theorem DG{w:List Pg}{c5:List BL}{a x:BL}(h:x∈eJ w a):x∈xb w c5:=by
 obtain⟨p,hp,rfl⟩:=DT h
 exact List.mem_append_right _ (List.mem_flatten.2 ⟨_,List.mem_map.2 ⟨p,hp,rfl⟩,h⟩)
theorem wY(w:List Pg)(n:BL)(c5:List BL):∀ i,(rN w n c5 i).1.Nodup/\∀ x,x∈(rN w n c5 i).1->x∈xb w c5
 | 0=>⟨qL c5 Z8,fun x hx=>List.mem_append_left _ (by
    have:=(vP c5).1 hx
    simp at this;exact this.1)⟩
 | i+1=>by
   obtain⟨h1,h2⟩:=wY w n c5 i
   show (wu w n (rN w n c5 i) i).1.Nodup/\∀ x,x∈(wu w n (rN w n c5 i) i).1->x∈xb w c5
   revert h1 h2
   generalize rN w n c5 i=X
   intro h1 h2
   unfold wu
   split
   exact⟨tN _ h1,fun x hx=>((wH _).1 hx).elim (h2 x) DG⟩
   exact⟨h1,h2⟩
theorem Ji{w:List Pg}{n:BL}{c5:List BL}(hw:av w=true)(hs:c5.length<=12)(i:Nat):(rN w n c5 i).1.length<=3700:=
 Nat.le_trans (mw (wY w n c5 i).1 (wY w n c5 i).2) (Iz hw hs)
section
variable {N:Nat} {A A' B:AS} {P:Program}
end
theorem JE{l:List BL}{y:BL}{i:Nat}(h:i<l.length)(e:l.getD i []=y):l.contains y=true:=by
 rw[ZZ,ZR h]at e
 simp only[Option.getD_some]at e
 simp only[List.contains_iff_mem]
 exact e ▸ List.getElem_mem h
theorem Km{l:List BL}{y:BL}(h:∀ j,j<l.length->l.getD j []≠y):l.contains y=false:=by
 rw[Bool.eq_false_iff]
 simp only[ne_eq,List.contains_iff_mem]
 intro hm
 obtain⟨j,hj,e⟩:=Zu.1 hm
 have:=h j hj
 rw[ZZ,ZR hj]at this
 exact this e
theorem c8{c k:UInt8}(h:((c.toNat:Nat):Int)=((k.toNat:Nat):Int)):c=k:=UInt8.toNat_inj.1 Z9
theorem Ss{c k:UInt8}(h: ¬ ((c.toNat:Nat):Int)=((k.toNat:Nat):Int)): ¬ c=k:=fun e=>h (by rw[e])
theorem b8{c k:UInt8}:(c==k)=(((c.toNat:Nat):Int)==((k.toNat:Nat):Int)):=by
 rw[ZE,Zp,Zp,<- UInt8.toNat_inj];omega
theorem Lu{t:BL}{o:List BL}{r:Bool}{q i:Nat}(h:0<q)(e:t.getD i 0=62):dN t (o,r,q) i=(o++[(t.take i).drop (q-1)],r,0):=if_pos ⟨h,e⟩
theorem LB{t:BL}{o:List BL}{r:Bool}{q i:Nat}(h:0<q)(e: ¬ t.getD i 0=62):dN t (o,r,q) i=(o,r,q):=by
 unfold dN
 rw[if_neg (fun c=>e c.2),if_pos h]
theorem Ly{t:BL}{o:List BL}{r:Bool}{i:Nat}(h:r=true):dN t (o,r,0) i=(o,!(t.getD i 0==41),0):=by
 unfold dN
 rw[if_neg (fun c=>absurd c.1 Z8),if_neg Z8,if_pos h]
theorem LF{t:BL}{o:List BL}{r:Bool}{i:Nat}(h:r=false)(e:t.getD i 0=40):dN t (o,r,0) i=(o,true,0):=by
 unfold dN
 rw[if_neg (fun c=>absurd c.1 Z8),if_neg Z8,if_neg (by rw[h];exact Bool.false_ne_true),if_pos e]
theorem Lr{t:BL}{o:List BL}{r:Bool}{i:Nat}(h:r=false)(e: ¬ t.getD i 0=40)(e2:t.getD i 0=60):dN t (o,r,0) i=(o,false,i+2):=by
 unfold dN
 rw[if_neg (fun c=>absurd c.1 Z8),if_neg Z8,if_neg (by rw[h];exact Bool.false_ne_true),if_neg e,if_pos e2]
theorem Lv{t:BL}{o:List BL}{r:Bool}{i:Nat}(h:r=false)(e: ¬ t.getD i 0=40)(e2: ¬ t.getD i 0=60):dN t (o,r,0) i=(o,r,0):=by
 unfold dN
 rw[if_neg (fun c=>absurd c.1 Z8),if_neg Z8,if_neg (by rw[h];exact Bool.false_ne_true),if_neg e,if_neg e2]
theorem Fe(t:BL):((cm t).getD []).length<=300:=by
 cases h:cm t with
 | none=>simp
 | some r=>exact(zZ h).1
theorem HM{l:List BL}{k m:Nat}(h:∀ i,(l.getD i []).length<=m):∀ i,((l.take k).getD i []).length<=m:=fun i=>by
 have:=h i
 rw[ZZ]at this ⊢
 rw[List.getElem?_take]
 split
 exact this
 simp
theorem xU{a:r8}{ref:BL}(h:aG a=true/\(ref.length:Int)<=60):G4 a ref=if 2<=(ab 35 ref).1.length/\(ab 35 ref).1.take 2=[47,47] then dg ((ab 35 ref).1.drop 2)
 else if (ab 35 ref).1=[] then some a
 else if ew (ab 35 ref).1=47 then bT a.c9 [] (ab 35 ref).1
 else if ew (ab 35 ref).1=63 then bT a.c9 a.a8 (ab 35 ref).1
 else bT a.c9 (a.a8.take (a.a8.length-1)) (ab 35 ref).1:=by
 unfold G4
 rw[if_neg (by rintro (c | c);rw[h.1]at c;cases c;omega)]
theorem Gu{s:BL}{k:UInt8}(h:(((s.getD 0 0).toNat:Nat):Int)=((k.toNat:Nat):Int)):ew s=k:=UInt8.toNat_inj.1 (by unfold ew;omega)
theorem Bz{s:BL}{k:UInt8}(h: ¬ (((s.getD 0 0).toNat:Nat):Int)=((k.toNat:Nat):Int)): ¬ ew s=k:=fun c=>h (by rw[<- c];rfl)
theorem ub{a:r8}{t:BL}(h:(cm t).isSome=true)(h2:(G4 a ((cm t).getD [])).isSome=true):oA (G4 a ((cm t).getD []))=fR a t:=by
 unfold fR
 cases e:cm t with
 | none=>rw[e]at h;cases h
 | some r=>
   rw[e]at h2
   simp only[Option.getD_some]at h2 ⊢
   cases e2:G4 a r with
   | none=>rw[e2]at h2;cases h2
   | some x=>rfl
theorem uA{a:r8}{t:BL}(h:(cm t).isSome=true)(h2:(G4 a ((cm t).getD [])).isSome=false):a=fR a t:=by
 unfold fR
 cases e:cm t with
 | none=>rfl
 | some r=>
   rw[e]at h2
   simp only[Option.getD_some]at h2 ⊢
   cases e2:G4 a r with
   | none=>rfl
   | some x=>rw[e2]at h2;cases h2
theorem uU{a:r8}{t:BL}(h:(cm t).isSome=false):a=fR a t:=by
 unfold fR
 cases e:cm t with
 | none=>rfl
 | some r=>rw[e]at h;cases h
def M5(r:Bool)(q:Nat):Int:=if 0<q then 1 else if r=true then 2 else 0
theorem FW(r:Bool)(q:Nat):M5 r q=0\/M5 r q=1\/M5 r q=2:=by
 unfold M5
 split
 exact .inr (.inl rfl)
 split
 exact .inr (.inr rfl)
 exact .inl rfl
theorem IY{r:Bool}{q:Nat}(h:M5 r q=1):0<q/\True:=by
 unfold M5 at h
 split at h
 rename_i hc;exact⟨hc,trivial⟩
 split at h <;> omega
theorem LP{r:Bool}{q:Nat}(h:M5 r q=2):q=0/\r=true:=by
 unfold M5 at h
 split at h
 omega
 rename_i h1
 split at h
 rename_i h2;exact⟨Z9,h2⟩
 omega
theorem LJ{r:Bool}{q:Nat}(h:M5 r q=0):q=0/\r=false:=by
 unfold M5 at h
 split at h
 omega
 rename_i h1
 split at h
 omega
 rename_i h2;exact⟨Z9,by simpa using h2⟩
theorem Jf{t:BL}{o:List BL}{r:Bool}{q i b:Nat}(hq:0<q)(hb:b+1=q):dN t (o,r,q) i=(if t.getD i 0=62 then o++[(t.take i).drop b] else o,r,if t.getD i 0=62 then 0 else q):=by
 by_cases h:t.getD i 0=62
 rw[Lu hq h,if_pos h,if_pos h,show q-1=b from Z9]
 rw[LB hq h,if_neg h,if_neg h]
theorem Kx{t:BL}{o:List BL}{i:Nat}:dN t (o,false,0) i=(o,t.getD i 0==40,if t.getD i 0=60 then i+2 else 0):=by
 by_cases h:t.getD i 0=40
 rw[LF rfl h,if_neg (by rw[h];decide),h];rfl
 by_cases h2:t.getD i 0=60
 rw[Lr rfl h h2,if_pos h2,h2];rfl
 rw[Lv rfl h h2,if_neg h2,show (t.getD i 0==40)=false from by simpa using h]
theorem DR{c:UInt8}{r:Bool}{q:Nat}(hr:r=false)(hq:0<q):(if c=62 then (0:Int) else 1)=M5 r (if c=62 then 0 else q):=by
 subst hr
 unfold M5
 by_cases h:c=62
 simp[h]
 simp[h,hq]
theorem DV{c:UInt8}:(if c=41 then (0:Int) else 2)=M5 (!(c==41)) 0:=by
 unfold M5
 by_cases h:c=41
 simp[h]
 simp[h]
theorem EB{c:UInt8}{i:Nat}:(if c=60 then (1:Int) else if c=40 then 2 else 0)=M5 (c==40) (if c=60 then i+2 else 0):=by
 unfold M5
 by_cases h:c=60
 simp[h]
 by_cases h2:c=40
 simp[h2]
 simp[h,h2]
def Ac(i:Nat)(c:UInt8)(u:Nat)(v:Nat)(s:Int)(b:Nat):o8 Tryz.prog:=.mk 175 [iN i,uN c.toNat,.ptr (.key 1000) [] u 0,.ptr (.key 1001) [] v 0] [(1000,(u,iV s)),(1001,(v,iN b))] (i<=1000) (.tup []) [(1000,(u,iV (if c=60 then 1 else if c=40 then 2 else s))),(1001,(v,iN (if c=60 then i+1 else b)))] (by
 intro hi
 refine aq (N:=13) (rs:=[]) Tryz.func175
  (.q 1<|.q 2<|.br (.q 2<|.st none<|.st none<|.nil) (.q 2<|.br (.st none<|.nil) (.nil)))
  (Br (o6 (c.toNat:Int) 60) (m6 ((i:Int)+1)/\Z u 0/\Z v 0/\Q (.tup []) (.tup [])/\Qr u (iN 1) u (iV (if c=60 then 1 else if c=40 then 2 else s))/\Qr v (iN (i+1)) v (iN (if c=60 then i+1 else b))) (Br (o6 (c.toNat:Int) 40) (Z u 0/\Q (.tup []) (.tup [])/\Qr u (iN 2) u (iV (if c=60 then 1 else if c=40 then 2 else s))/\Qr v (iN b) v (iN (if c=60 then i+1 else b))) (Q (.tup []) (.tup [])/\Qr u (iV s) u (iV (if c=60 then 1 else if c=40 then 2 else s))/\Qr v (iN b) v (iN (if c=60 then i+1 else b))))) ?_
 refine bI (fun j7=>?_) fun j7=>?_
 refine⟨Z9,rfl,rfl,?_⟩
 refine⟨?_,by rw[if_pos (c8 (k:=60) j7)] <;> rfl,by rw[if_pos (c8 (k:=60) j7)] <;> rfl⟩
 unfold Q
 rfl
 refine bI (fun l4=>?_) fun l4=>?_
 refine⟨rfl,?_⟩
 refine⟨?_,by rw[if_neg (Ss (k:=60) j7),if_pos (c8 (k:=40) l4)] <;> rfl,by rw[if_neg (Ss (k:=60) j7)] <;> rfl⟩
 unfold Q
 rfl
 refine⟨?_,by rw[if_neg (Ss (k:=60) j7),if_neg (Ss (k:=40) l4)] <;> rfl,by rw[if_neg (Ss (k:=60) j7)] <;> rfl⟩
 unfold Q
 rfl)
def BF(i:Nat)(c:UInt8)(u:Nat)(v:Nat)(p:Nat)(q:Nat)(o:List BL)(t:BL)(b:Nat)(s:Int):o8 Tryz.prog:=.mk 176 [iN i,uN c.toNat,.ptr (.key 1000) [] u 0,.ptr (.key 1001) [] v 0,.ptr (.key 1002) [] p 0,.ptr (.key 1003) [] q 0] [(1000,(u,.ow 1 (o.map sV))),(1001,(v,sV t)),(1002,(p,iN b)),(1003,(q,iV s))] ((b<=i)/\(i<=t.length)/\(o.length<=1000)) (.tup []) [(1000,(u,.ow 1 ((if c=62 then o++[(t.take i).drop b] else o).map sV))),(1001,(v,sV t)),(1002,(p,iN b)),(1003,(q,iV (if c=62 then 0 else s)))] (by
 rintro⟨hb,hi,ho⟩
 refine aq (N:=17) (rs:=[]) Tryz.func176
  (.q 2<|.br (.oR (.key 1000) [] (fun gA oA cA=>.dx 7 [0,1,2,3,4,5,6] [(0,⟨false,[],some [1000],[10],[]⟩),(1,⟨false,[],some [1001],[11],[]⟩),(2,⟨false,[],some [1002],[12],[]⟩),(6,⟨true,[],none,[16],[1000]⟩)] []<|.r 1 [.b7]<|.r 1 [.b7]<|.r 1 [.b7]<|.q 1<|.q 1<|.bs<|.ux none (fun g16 Tz Uc=>.h (.o4 16 (.own 1 ((o++[(t.take i).drop b]).map sV) g16 Tz Uc))<|.st none<|.st none<|.nil))) (.nil))
  ((fun v1:List V=>(fun v2:V=>(Br (o6 (c.toNat:Int) 62) (∀ gA oA cA:Nat,Z u 0/\Z v 0/\Z p 0/\Sx (b:Int) (i:Int) t/\(((1,1,gA,oA,cA,(o.map sV).length)=(1,1,gA,oA,cA,(o.map sV).length))/\(V.ay v1=false)/\(aC 1 v1)/\(((o.map sV).length+v1.length)*16<=140737488355328))/\∀ g16 Tz Uc:Nat,((.own 1 ((o.map sV)++v1) g16 Tz Uc:V)=.own 1 ((o++[(t.take i).drop b]).map sV) g16 Tz Uc)/\Z u 0/\Z q 0/\Q (.tup []) (.tup [])/\Qr u (.ow 1 ((o++[(t.take i).drop b]).map sV)) u v2/\Er v (sV t)/\Er p (iN b)/\Qr q (iN 0) q (iV (if c=62 then 0 else s))) (Q (.tup []) (.tup [])/\Qr u (.ow 1 (o.map sV)) u v2/\Er v (sV t)/\Er p (iN b)/\Qr q (iV s) q (iV (if c=62 then 0 else s))))) (.ow 1 ((if c=62 then o++[(t.take i).drop b] else o).map sV))) ([sV ((t.take i).drop b)]:List V)) ?_
 refine bI (fun j7=>?_) fun j7=>?_
 intro gA oA cA
 refine⟨rfl,rfl,rfl,Z9,⟨rfl,rfl,by simp[aC,V.n,V.ns],Z0⟩,?_⟩
 intro g16 Tz Uc
 refine⟨Zo (V.own 1 · g16 Tz Uc) Z8,rfl,rfl,?_⟩
 refine⟨?_,by rw[if_pos (c8 (k:=62) j7)] <;> rfl,rfl,rfl,by rw[if_pos (c8 (k:=62) j7)] <;> rfl⟩
 unfold Q
 rfl
 refine⟨?_,by rw[if_neg (Ss (k:=62) j7)] <;> rfl,rfl,rfl,by rw[if_neg (Ss (k:=62) j7)] <;> rfl⟩
 unfold Q
 rfl)
def DF(i:Nat)(c:UInt8)(u:Nat)(s:Int):o8 Tryz.prog:=.mk 177 [iN i,uN c.toNat,.ptr (.key 1000) [] u 0] [(1000,(u,iV s))] True (.tup []) [(1000,(u,iV (if c=41 then 0 else s)))] (by
 intro _
 refine aq (N:=7) (rs:=[]) Tryz.func177
  (.q 2<|.br (.st none<|.nil) (.nil))
  (Br (o6 (c.toNat:Int) 41) (Z u 0/\Q (.tup []) (.tup [])/\Qr u (iN 0) u (iV (if c=41 then 0 else s))) (Q (.tup []) (.tup [])/\Qr u (iV s) u (iV (if c=41 then 0 else s)))) ?_
 refine bI (fun j7=>?_) fun j7=>?_
 refine⟨rfl,?_⟩
 refine⟨?_,by rw[if_pos (c8 (k:=41) j7)] <;> rfl⟩
 unfold Q
 rfl
 refine⟨?_,by rw[if_neg (Ss (k:=41) j7)] <;> rfl⟩
 unfold Q
 rfl)
def ji(t:BL):o8 Tryz.prog:=.mk 145 [sV t] [] (t.length<=4611686018427387904) (ao (aF t)) [] (by
 intro ht
 refine aq (N:=32) (rs:=[.tmp 2]) Tryz.func145
  (.bx (fun g1=>.q 1<|.r 3 [.b7]<|.br (.q 1<|.nil) (.al LK (fun g3=>.al W7 (fun g4=>.al W7 (fun g5=>.st none<|.st none<|.al KW (fun g6=>.cu RJ (fun _=>.q 1<|.st none<|.cu RJ (fun _=>.q 1<|.st none<|.cu RJ (fun _=>.q 1<|.st none<|.q 1<|.h (.A4 (.key 3) [] 1)<|.loop (Nat×(List BL)×Bool×Nat×Int×Nat) (fun (i,o,r,q,s,b)=>⟨[(1,.ptr (.key 1) [] g1 0),(3,.ptr (.key 3) [] g3 0),(4,.ptr (.key 4) [] g4 0),(5,.ptr (.key 5) [] g5 0),(6,.ptr (.key 6) [] g6 0),(7,iN i)],[(1,(g1,sV t)),(3,(g3,.ow 1 (o.map sV))),(4,(g4,iV s)),(5,(g5,iN b)),(6,(g6,.agg [.lit (.func (.func 175) #[] #[.pointer (some ⟨g4,0,none⟩),.pointer (some ⟨g5,0,none⟩)]),.lit (.func (.func 176) #[] #[.pointer (some ⟨g3,0,none⟩),.pointer (some ⟨g1,0,none⟩),.pointer (some ⟨g5,0,none⟩),.pointer (some ⟨g4,0,none⟩)]),.lit (.func (.func 177) #[] #[.pointer (some ⟨g4,0,none⟩)])]))]⟩) (fun (i,o,r,q,s,b)=>i<=t.length/\dv t i=(o,r,q)/\s=M5 r q/\(0<q->b+1=q)) (fun (i,o,r,q,s,b)=>t.length-i) (fun (i,o,r,q,s,b)=>.r 2 [.b7]<|.sp (o6 s 1) (.h (.z6 4 (iV 1))<|.q 1<|.q 1<|.br (.dx 7 [0,1,2,3,4,5,6] [(0,⟨false,[],some [4],[23],[]⟩),(2,⟨false,[],some [6],[25],[]⟩),(4,⟨false,[],some [1],[27],[]⟩)] []<|.r 1 [.b7]<|.q 1<|.r 1 [.b7]<|.q 1<|.r 1 [.b7]<|.q 1<|.q 1<|.c (BF i (t.getD i 0) g3 g1 g5 g4 o t b (1:Int)) [(1000,3),(1001,1),(1002,5),(1003,4)]<|.q 3<|.nil) (.oR (.key 3) [] (fun gE oE cE=>.mv<|.h (.fz 31)<|.h (.o4 31 (ao o))<|.q 1<|.nil))) (.q 1<|.sp (o6 s 2) (.h (.z6 4 (iV 2))<|.q 1<|.br (.dx 7 [0,1,2,3,4,5,6] [(0,⟨false,[],some [4],[23],[]⟩),(2,⟨false,[],some [6],[25],[]⟩),(4,⟨false,[],some [1],[27],[]⟩)] []<|.r 1 [.b7]<|.q 1<|.r 1 [.b7]<|.q 1<|.r 1 [.b7]<|.q 1<|.q 1<|.c (DF i (t.getD i 0) g4 (2:Int)) [(1000,4)]<|.q 3<|.nil) (.oR (.key 3) [] (fun gE oE cE=>.mv<|.h (.fz 31)<|.h (.o4 31 (ao o))<|.q 1<|.nil))) (.h (.z6 4 (iV 0))<|.q 1<|.br (.dx 7 [0,1,2,3,4,5,6] [(0,⟨false,[],some [4],[23],[]⟩),(2,⟨false,[],some [6],[25],[]⟩),(4,⟨false,[],some [1],[27],[]⟩)] []<|.r 1 [.b7]<|.q 1<|.r 1 [.b7]<|.q 1<|.r 1 [.b7]<|.q 1<|.q 1<|.c (Ac i (t.getD i 0) g4 g5 (0:Int) b) [(1000,4),(1001,5)]<|.q 3<|.nil) (.oR (.key 3) [] (fun gE oE cE=>.mv<|.h (.fz 31)<|.h (.o4 31 (ao o))<|.q 1<|.nil)))))))))))))))
  (∀ g1:Nat,(fun v1:V=>Z g1 0/\Br (s7 (t.length:Int) 300) (Q (.sl false []) (ao (aF t))) (∀ g3:Nat,(fun v2:V=> ∀ g4:Nat,(fun v3:V=> ∀ g5:Nat,(fun v4:V=>(fun v5:V=>Z g4 0/\Z g5 0/\∀ g6:Nat,(fun v6:V=>((Value.func (.func 175) #[] #[.pointer (some ⟨g4,0,none⟩),.pointer (some ⟨g5,0,none⟩)]).oneCell'=true)/\∀ _:Unit,((0:Int)<=0/\(0:Int)<3)/\Z g6 0/\((Value.func (.func 176) #[] #[.pointer (some ⟨g3,0,none⟩),.pointer (some ⟨g1,0,none⟩),.pointer (some ⟨g5,0,none⟩),.pointer (some ⟨g4,0,none⟩)]).oneCell'=true)/\∀ _:Unit,((0:Int)<=1/\(1:Int)<3)/\Z g6 1/\((Value.func (.func 177) #[] #[.pointer (some ⟨g4,0,none⟩)]).oneCell'=true)/\∀ _:Unit,((0:Int)<=2/\(2:Int)<3)/\Z g6 2/\(∃ x:Nat×(List BL)×Bool×Nat×Int×Nat,match x with | (h9,s8,MJ,y8,Uo,M1)=>(h9<=t.length/\dv t h9=(s8,MJ,y8)/\Uo=M5 MJ y8/\(0<y8->M1+1=y8))/\E v1/\E v2/\E v3/\E v5/\E v6/\Q (iN 0) (iN h9)/\Er g1 (sV t)/\Qr g3 (.ow 1 ([].map sV)) g3 (.ow 1 (s8.map sV))/\Qr g4 (iN 0) g4 (iV Uo)/\Qr g5 (iN 0) g5 (iN M1)/\Er g6 v4/\True)/\∀ x:Nat×(List BL)×Bool×Nat×Int×Nat,match x with | (i,o,r,q,s,b)=>(i<=t.length/\dv t i=(o,r,q)/\s=M5 r q/\(0<q->b+1=q))->(fun v7:V=>(fun v8:Bool=>Z g1 0/\((o6 s 1)=true->((iV s:V)=iV 1)/\Br v8 (Z g4 0/\((0:Int)<=1/\(1:Int)<3)/\Z g6 1/\Z g1 0/\Ix (i:Int) t/\(BF i (t.getD i 0) g3 g1 g5 g4 o t b (1:Int)).sm/\Er g3 (.ow 1 (o.map sV))/\Er g1 (sV t)/\Er g5 (iN b)/\Er g4 (iV (1:Int))/\((b<=i)/\(i<=t.length)/\(o.length<=1000))/\m6 ((i:Int)+1)/\∃ x:Nat×(List BL)×Bool×Nat×Int×Nat,match x with | (b9,l7,B5,n9,NZ,B7)=>(b9<=t.length/\dv t b9=(l7,B5,n9)/\NZ=M5 B5 n9/\(0<n9->B7+1=n9))/\(t.length-b9<t.length-i)/\E v1/\E v2/\E v3/\E v5/\E v6/\Q (iN (i+1)) (iN b9)/\Er g1 (sV t)/\Qr g3 (.ow 1 ((if (t.getD i 0)=62 then o++[(t.take i).drop b] else o).map sV)) g3 (.ow 1 (l7.map sV))/\Qr g4 (iV (if (t.getD i 0)=62 then 0 else (1:Int))) g4 (iV NZ)/\Qr g5 (iN b) g5 (iN B7)/\Er g6 v4/\True) (∀ gE oE cE:Nat,Z g3 0/\(v7=ao o)/\Q (ao o) (ao (aF t))))/\((o6 s 1)=false->((o6 s 2)=true->((iV s:V)=iV 2)/\Br v8 (Z g4 0/\((0:Int)<=2/\(2:Int)<3)/\Z g6 2/\Z g1 0/\Ix (i:Int) t/\(DF i (t.getD i 0) g4 (2:Int)).sm/\Er g4 (iV (2:Int))/\(True)/\m6 ((i:Int)+1)/\∃ x:Nat×(List BL)×Bool×Nat×Int×Nat,match x with | (b9,l7,B5,n9,NZ,B7)=>(b9<=t.length/\dv t b9=(l7,B5,n9)/\NZ=M5 B5 n9/\(0<n9->B7+1=n9))/\(t.length-b9<t.length-i)/\E v1/\E v2/\E v3/\E v5/\E v6/\Q (iN (i+1)) (iN b9)/\Er g1 (sV t)/\Qr g3 (.ow 1 (o.map sV)) g3 (.ow 1 (l7.map sV))/\Qr g4 (iV (if (t.getD i 0)=41 then 0 else (2:Int))) g4 (iV NZ)/\Qr g5 (iN b) g5 (iN B7)/\Er g6 v4/\True) (∀ gE oE cE:Nat,Z g3 0/\(v7=ao o)/\Q (ao o) (ao (aF t))))/\((o6 s 2)=false->((iV s:V)=iV 0)/\Br v8 (Z g4 0/\((0:Int)<=0/\(0:Int)<3)/\Z g6 0/\Z g1 0/\Ix (i:Int) t/\(Ac i (t.getD i 0) g4 g5 (0:Int) b).sm/\Er g4 (iV (0:Int))/\Er g5 (iN b)/\((i<=1000))/\m6 ((i:Int)+1)/\∃ x:Nat×(List BL)×Bool×Nat×Int×Nat,match x with | (b9,l7,B5,n9,NZ,B7)=>(b9<=t.length/\dv t b9=(l7,B5,n9)/\NZ=M5 B5 n9/\(0<n9->B7+1=n9))/\(t.length-b9<t.length-i)/\E v1/\E v2/\E v3/\E v5/\E v6/\Q (iN (i+1)) (iN b9)/\Er g1 (sV t)/\Qr g3 (.ow 1 (o.map sV)) g3 (.ow 1 (l7.map sV))/\Qr g4 (iV (if (t.getD i 0)=60 then 1 else if (t.getD i 0)=40 then 2 else (0:Int))) g4 (iV NZ)/\Qr g5 (iN (if (t.getD i 0)=60 then i+1 else b)) g5 (iN B7)/\Er g6 v4/\True) (∀ gE oE cE:Nat,Z g3 0/\(v7=ao o)/\Q (ao o) (ao (aF t)))))) (s4 (i:Int) (t.length:Int))) (.sl false (V.D5 (o.map sV)):V)) (.ptr (.key 6) [] g6 0)) (.ptr (.key 5) [] g5 0)) (.agg [.lit (.func (.func 175) #[] #[.pointer (some ⟨g4,0,none⟩),.pointer (some ⟨g5,0,none⟩)]),.lit (.func (.func 176) #[] #[.pointer (some ⟨g3,0,none⟩),.pointer (some ⟨g1,0,none⟩),.pointer (some ⟨g5,0,none⟩),.pointer (some ⟨g4,0,none⟩)]),.lit (.func (.func 177) #[] #[.pointer (some ⟨g4,0,none⟩)])])) (.ptr (.key 4) [] g4 0)) (.ptr (.key 3) [] g3 0))) (.ptr (.key 1) [] g1 0)) ?_
 intro g1
 refine⟨rfl,?_⟩
 refine bI (fun j7=>?_) fun j7=>?_
 unfold Q
 rw[show aF t=[] from if_neg Z9]
 rfl
 intro g3
 intro g4
 intro g5
 refine⟨rfl,rfl,?_⟩
 intro g6
 refine⟨rfl,?_⟩
 intro _
 refine⟨Z9,rfl,rfl,?_⟩
 intro _
 refine⟨Z9,rfl,rfl,?_⟩
 intro _
 refine⟨Z9,rfl,?_⟩
 refine⟨⟨(0,[],false,0,0,0),?_,rfl,rfl,rfl,rfl,rfl,rfl,rfl,rfl,Z4,rfl,rfl,trivial⟩,?_⟩
 exact⟨Z9,rfl,rfl,fun h=>absurd h Z6⟩
 rintro⟨i,o,r,q,s,b⟩ ⟨h1,h2,h3,h4⟩
 have Vr:=ug t i
 rw[h2]at Vr
 have Vs:=Vr.len
 have hm3:=Vr.pos
 have XC:=Vr.one
 simp only at Vs hm3 XC
 have x4:=FW r q
 refine⟨rfl,?_⟩
 refine⟨fun OG=>?_,fun OG=>?_⟩
 have OL:=OG
 try simp only[nb]at OL
 refine⟨Zo iV Z9,?_⟩
 refine bI (fun l4=>?_) fun l4=>?_
 refine⟨rfl,Z9,rfl,rfl,Z9,rfl,rfl,rfl,rfl,rfl,⟨by have hz1:=IY (h3.symm.trans Z9);have NB:=h4 hz1.1;omega,Z9,Z9⟩,Z9,?_⟩
 refine⟨(i+1,if (t.getD i 0)=62 then o++[(t.take i).drop b] else o,r,if (t.getD i 0)=62 then 0 else q,if (t.getD i 0)=62 then 0 else (1:Int),b),?_,?_,rfl,rfl,rfl,rfl,rfl,rfl,rfl,rfl,rfl,rfl,rfl,trivial⟩
 obtain⟨S1,S0⟩:=IY (h3.symm.trans Z9)
 exact⟨Z9,by rw[show dv t (i+1)=dN t (dv t i) i from rfl,h2,Jf S1 (h4 S1)],(DR (XC S1) S1),fun hq=>by split at hq;omega;rw[if_neg (by assumption)];exact h4 S1⟩
 exact Z1
 intro gE oE cE
 refine⟨rfl,Zo (V.sl false) (aM (fun _=>rfl) _),?_⟩
 unfold Q
 rw[show aF t=o from by rw[show aF t=(dv t t.length).1 from if_pos Z9,show t.length=i from Z9,h2]]
 have OL:=OG
 try simp only[nb]at OL
 refine⟨fun OF=>?_,fun OF=>?_⟩
 have OK:=OF
 try simp only[nb]at OK
 refine⟨Zo iV Z9,?_⟩
 refine bI (fun m8=>?_) fun m8=>?_
 refine⟨rfl,Z9,rfl,rfl,Z9,rfl,rfl,trivial,Z9,?_⟩
 refine⟨(i+1,o,!((t.getD i 0)==41),0,if (t.getD i 0)=41 then 0 else (2:Int),b),?_,?_,rfl,rfl,rfl,rfl,rfl,rfl,rfl,rfl,rfl,rfl,rfl,trivial⟩
 obtain⟨rfl,rfl⟩:=LP (h3.symm.trans Z9)
 exact⟨Z9,by rw[show dv t (i+1)=dN t (dv t i) i from rfl,h2,Ly rfl],DV,fun hq=>absurd hq Z9⟩
 exact Z1
 intro gE oE cE
 refine⟨rfl,Zo (V.sl false) (aM (fun _=>rfl) _),?_⟩
 unfold Q
 rw[show aF t=o from by rw[show aF t=(dv t t.length).1 from if_pos Z9,show t.length=i from Z9,h2]]
 have OK:=OF
 try simp only[nb]at OK
 refine⟨Zo iV Z9,?_⟩
 refine bI (fun w7=>?_) fun w7=>?_
 refine⟨rfl,Z9,rfl,rfl,Z9,rfl,rfl,rfl,Z9,Z9,?_⟩
 refine⟨(i+1,o,(t.getD i 0)==40,if (t.getD i 0)=60 then i+2 else 0,if (t.getD i 0)=60 then 1 else if (t.getD i 0)=40 then 2 else (0:Int),if (t.getD i 0)=60 then i+1 else b),?_,?_,rfl,rfl,rfl,rfl,rfl,rfl,rfl,rfl,rfl,rfl,rfl,trivial⟩
 obtain⟨rfl,rfl⟩:=LJ (h3.symm.trans Z9)
 exact⟨Z9,by rw[show dv t (i+1)=dN t (dv t i) i from rfl,h2,Kx],EB,fun hq=>by split at hq;rw[if_pos (by assumption),if_pos (by assumption)];omega⟩
 exact Z1
 intro gE oE cE
 refine⟨rfl,Zo (V.sl false) (aM (fun _=>rfl) _),?_⟩
 unfold Q
 rw[show aF t=o from by rw[show aF t=(dv t t.length).1 from if_pos Z9,show t.length=i from Z9,h2]])
def SM(c:UInt8):Bool:=dE c||(c==37||js.contains c)
theorem lY(b:UInt8):(ef b).all SM=true:=by
 unfold ef
 split
 rename_i h;simp[SM,h]
 unfold eG
 have h1:b.toNat / 16<16:=by have:=b.toNat_lt;omega
 have h2:b.toNat % 16<16:=Z9
 have hf:∀ k,k<16->SM (js.getD k 0)=true:=Z6
 simp only[List.all_cons,List.all_nil,Bool.and_true,ZX]
 exact⟨Z6,hf _ h1,hf _ h2⟩
theorem rj:∀ (s:BL) {x:BL},bw s=some x->x.all SM=true
 | [],x,h=>by simp[bw]at h;subst h;rfl
 | [c],x,h=>by
   simp only[bw]at h;split at h
   simp at h
   simp only[ZY]at h;subst h;exact lY c
 | [c,d],x,h=>by
   simp only[bw]at h;split at h
   simp at h
   simp only[ZY]at h;subst h;rw[List.all_append,lY,lY];rfl
 | c::a::b::r,x,h=>by
   simp only[bw]at h
   split at h
   split at h
   simp only[Option.map_eq_some_iff]at h
   obtain⟨y,hy,rfl⟩:=h
   rw[List.all_append,lY,rj r hy];rfl
   simp at h
   simp only[Option.map_eq_some_iff]at h
   obtain⟨y,hy,rfl⟩:=h
   rw[List.all_append,lY,rj (a::b::r) hy];rfl
theorem lZ{s:BL}(h:eF s=true):s.all SM=true/\eg s=s/\eL s=true:=by
 unfold eF at h
 simp only[ZX,Zp]at h
 refine⟨?_,h.2,h.1⟩
 have h1:=h.1
 have h2:=h.2
 unfold bF at h1 h2
 split at h1
 rename_i hl
 rw[if_pos hl]at h2
 cases e:bw s with
 | none=>rw[e]at h1;cases h1
 | some x=>rw[e]at h2;rw[<- h2];exact rj s e
 cases h1
theorem Jo:∀ c:UInt8,SM c=true->c.toNat<128/\c≠47/\c≠63/\c≠35:=by
 intro c h
 unfold SM dE at h
 simp only[Bool.or_eq_true,Zq,Zp]at h
 have e:∀ k:UInt8,c=k↔c.toNat=k.toNat:=fun k=>UInt8.toNat_inj.symm
 have hf:js.contains c=true->(48<=c.toNat/\c.toNat<=57)\/(65<=c.toNat/\c.toNat<=70):=by
  intro hc
  simp only[js,List.contains_cons,List.contains_nil,Bool.or_eq_true,Zp,e,Bool.or_false]at hc
  simp only[show (48:UInt8).toNat=48 from rfl,show (49:UInt8).toNat=49 from rfl,show (50:UInt8).toNat=50 from rfl,show (51:UInt8).toNat=51 from rfl,show (52:UInt8).toNat=52 from rfl,show (53:UInt8).toNat=53 from rfl,show (54:UInt8).toNat=54 from rfl,show (55:UInt8).toNat=55 from rfl,show (56:UInt8).toNat=56 from rfl,show (57:UInt8).toNat=57 from rfl,show (65:UInt8).toNat=65 from rfl,show (66:UInt8).toNat=66 from rfl,show (67:UInt8).toNat=67 from rfl,show (68:UInt8).toNat=68 from rfl,show (69:UInt8).toNat=69 from rfl,show (70:UInt8).toNat=70 from rfl]at hc
  omega
 have h37:c=37->c.toNat=37:=fun h=>by rw[h];rfl
 have hb:(97<=c.toNat/\c.toNat<=122)\/(48<=c.toNat/\c.toNat<=57)\/c.toNat=46\/c.toNat=45\/c.toNat=37\/(65<=c.toNat/\c.toNat<=70):=by
  rcases h with h | h | h
  omega
  have:=h37 h;omega
  have:=hf h;omega
 refine⟨Z9,?_,?_,?_⟩ <;> (intro hc;have:=(e _).1 hc;simp only[show (47:UInt8).toNat=47 from rfl,show (63:UInt8).toNat=63 from rfl,show (35:UInt8).toNat=35 from rfl]at this;omega)
theorem rF{c:UInt8}:∀ {s:BL},(∀ x,x∈s->x≠c)->ab c s=(s,[],false)
 | [],_=>rfl
 | x::r,h=>by
   simp only[ab,if_neg (h x Z8),rF (s:=r) (fun y hy=>h y (by simp[hy]))]
theorem wU{c:UInt8}{r:BL}:∀ {s:BL},(∀ x,x∈s->x≠c)->ab c (s++c::r)=(s,r,true)
 | [],_=>by simp[ab]
 | x::s,h=>by
   rw[List.cons_append]
   simp only[ab,if_neg (h x Z8),wU (s:=s) (r:=r) (fun y hy=>h y (by simp[hy]))]
theorem tL{c:UInt8}:∀ {s:BL},(∀ x,x∈s->x≠c)->ah c s=[s]
 | [],_=>rfl
 | x::r,h=>by
   simp only[ah,if_neg (h x Z8),tL (s:=r) (fun y hy=>h y (by simp[hy]))]
   rfl
theorem nN{c:UInt8}{r:BL}:∀ {s:BL},(∀ x,x∈s->x≠c)->ah c (s++c::r)=s::ah c r
 | [],_=>by simp[ah]
 | x::s,h=>by
   rw[List.cons_append]
   simp only[ah,if_neg (h x Z8),nN (s:=s) (r:=r) (fun y hy=>h y (by simp[hy]))]
   rfl
theorem sD:∀ {ps:List BL},ps≠[]->(∀ p,p∈ps->∀ x,x∈p->x≠47)->ah 47 (bS ps)=ps
 | [],h,_=>absurd rfl h
 | [p],_,h=>tL (h p Z8)
 | p::q::r,_,h=>by
   show ah 47 (p++[47]++bS (q::r))=_
   rw[List.append_assoc]
   show ah 47 (p++47::bS (q::r))=_
   rw[nN (h p Z8),sD Z8 fun y hy=>h y (by simp[hy])]
theorem qV:∀ (ps:List BL) {o:List BL},(∀ p,p∈ps->dM p=true)->ps.foldl cv o=o++ps
 | [],o,_=>by simp
 | p::ps,o,h=>by
   have hp:=h p Z8
   unfold dM at hp
   simp only[ZX,Bool.not_eq_true',beq_eq_false_iff_ne]at hp
   have e:cv o p=o++[p]:=by
    unfold cv
    rw[if_neg (by rintro (c | c);exact hp.1.1.2 c;exact hp.1.2 c),if_neg hp.2]
   rw[List.foldl_cons,e,qV ps fun q hq=>h q (by simp[hq])]
   simp
theorem fo{a:r8}(h:aG a=true):ck a.c9=true/\a.a8.length<=5/\eF a.ask=true/\(a.asks=true\/a.ask=[])/\(∀ p,p∈a.a8->dM p=true)/\(cd a).length<=60:=by
 unfold aG at h
 simp only[ZX,Zq,Bool.or_eq_true,Zp,ZI]at h
 exact⟨h.1.1.1.1.1,h.1.1.1.1.2,h.1.1.1.2,h.1.1.2,h.1.2,h.2⟩
theorem iZ{p:BL}(h:dM p=true):eF p=true:=by
 unfold dM at h
 simp only[ZX]at h
 exact h.1.1.1
theorem vY{s:BL}(h:ck s=true):∀ c,c∈s->97<=c.toNat/\c.toNat<=122:=by
 unfold ck fa at h
 simp only[ZX]at h
 intro c hc
 have:=ZI.1 h.1 c hc
 unfold fG at this
 simpa using this
theorem qH{p:BL}(h:eF p=true):∀ c,c∈p->c.toNat<128/\c≠47/\c≠63/\c≠35:=fun c hc=>Jo c (ZI.1 (lZ h).1 c hc)
theorem yO{ps:List BL}{k:UInt8}(hk:k≠47):(∀ p,p∈ps->∀ x,x∈p->x≠k)->∀ x,x∈bS ps->x≠k:=by
 induction ps with
 | nil=>intro _ x hx;simp[bS]at hx
 | cons p ps ih=>
   intro h x hx
   cases ps with
   | nil=>exact h p Z8 x hx
   | cons q r=>
     simp only[bS,ZN]at hx
     rcases hx with (hx | hx) | hx
     exact h p Z8 x hx
     rw[ZP.1 hx];exact fun c=>hk c.symm
     exact ih (fun y hy=>h y (by simp[hy])) x hx
theorem FF{a:r8}(h:aG a=true):bT a.c9 [] (bD a)=some a:=by
 obtain⟨h1,h2,h3,h4,h5,h6⟩:=fo h
 have hj:∀ x,x∈([47]++bS a.a8:BL)->x≠63:=by
  intro x hx
  rcases ZN.1 hx with hx | hx
  rw[ZP.1 hx];decide
  exact yO Z6 (fun p hp x hx=>(qH (iZ (h5 p hp)) x hx).2.2.1) x hx
 have Ms:ab 63 (bD a)=([47]++bS a.a8,a.ask,a.asks):=by
  unfold bD
  cases e:a.asks with
  | true=>
    rw[if_pos rfl]
    exact wU hj
  | false=>
    rw[if_neg Z6,List.append_nil,rF hj]
    rcases h4 with c | c
    rw[e]at c;cases c
    rw[c]
 have hs:ah 47 ([47]++bS a.a8)=[]::(if a.a8=[] then [[]] else a.a8):=by
  show ah 47 ([]++47::bS a.a8)=_
  rw[nN Z8]
  split
  rename_i e;rw[e];rfl
  rename_i e;rw[sD e fun p hp x hx=>(qH (iZ (h5 p hp)) x hx).2.1]
 have US:∀ p,p∈ah 47 ([47]++bS a.a8)->p=[]\/p∈a.a8:=by
  intro p hp
  rw[hs]at hp
  rcases List.mem_cons.1 hp with hp | hp
  exact .inl hp
  split at hp
  exact .inl (ZP.1 hp)
  exact .inr hp
 have UO:eg []=[]/\eL []=true:=Z6
 have H8:(ah 47 (ab 63 (bD a)).1).all eL=true:=by
  rw[Ms]
  rw[ZI]
  intro p hp
  rcases US p hp with rfl | hp
  exact UO.2
  exact(lZ (iZ (h5 p hp))).2.2
 have Wt:(ah 47 (ab 63 (bD a)).1).map eg=ah 47 ([47]++bS a.a8):=by
  rw[Ms]
  have:∀ p,p∈ah 47 ([47]++bS a.a8)->eg p=p:=fun p hp=>by
   rcases US p hp with rfl | hp
   exact UO.1
   exact(lZ (iZ (h5 p hp))).2.1
  exact(List.map_congr_left this).trans (List.map_id _)
 have hcl:bG ([]++ah 47 ([47]++bS a.a8))=a.a8:=by
  rw[List.nil_append,hs]
  unfold bG
  rw[List.foldl_cons]
  have e0:cv [] []=[]:=rfl
  rw[e0]
  split
  rename_i e;rw[e];rfl
  rw[qV _ h5];rfl
 have ha:(⟨a.c9,a.a8,a.asks,a.ask⟩:r8)=a:=rfl
 unfold bT
 rw[H8,Wt,Ms,(lZ h3).2.2,(lZ h3).2.1,hcl]
 exact(if_pos rfl).trans (if_pos h)
theorem BU{p:UInt8->Bool}{s r:BL}(h:∀ c,c∈s->p c=true)(hr:∀ c r',r=c::r'->p c=false):(s++r).takeWhile p=s/\(s++r).dropWhile p=r:=by
 induction s with
 | nil=>
   cases r with
   | nil=>exact⟨rfl,rfl⟩
   | cons c r'=>have:=hr c r' rfl;simp[this]
 | cons c s ih=>
   obtain⟨q1,q2⟩:=ih fun d hd=>h d (by simp[hd])
   have:=h c Z8
   simp[this,q1,q2]
theorem Dd{s:BL}(h:∀ c,c∈s->97<=c.toNat/\c.toNat<=122):aO s=s:=by
 unfold aO
 have:∀ c,c∈s->du c=c:=fun c hc=>by unfold du;rw[if_neg (by have:=h c hc;omega)]
 exact(List.map_congr_left this).trans (List.map_id _)
theorem AW{a:r8}(h:aG a=true):dg (a.c9++bD a)=some a:=by
 obtain⟨h1,_⟩:=fo h
 have hl:=vY h1
 obtain⟨q1,q2⟩:=BU (p:=gF) (s:=a.c9) (r:=bD a) (fun c hc=>by have:=hl c hc;unfold gF;rw[Zq];omega) (fun c r' e=>by
  have:c=47:=by unfold bD at e;simp at e;exact e.1.symm
  rw[this];decide)
 unfold dg
 rw[q1,q2,Dd hl,FF h]
theorem tx{a:r8}(h:aG a=true):∀ c,c∈cd a->c.toNat<128/\c≠35:=by
 obtain⟨h1,h2,h3,h4,h5,h6⟩:=fo h
 intro c hc
 unfold cd bD at hc
 simp only[ZN]at hc
 have XT:∀ c:UInt8,c=47->c.toNat<128/\c≠35:=fun c e=>by rw[e];decide
 rcases hc with (hc | hc) | ((hc | hc) | hc)
 refine XT c ?_;simpa using hc
 have:=vY h1 c hc
 exact⟨Z9,fun e=>by rw[e]at this;exact absurd this Z6⟩
 refine XT c ?_;simpa using hc
 exact⟨by
  have:m4 (bS a.a8):=pK fun x hx d hd=>(qH (iZ (h5 x hx)) d hd).1
  exact this c hc,yO Z6 (fun p hp x hx=>(qH (iZ (h5 p hp)) x hx).2.2.2) c hc⟩
 split at hc
 rcases ZN.1 hc with hc | hc
 rw[ZP.1 hc];decide
 exact⟨(qH h3 c hc).1,(qH h3 c hc).2.2.2⟩
 simp at hc
theorem pR{a:r8}(h:aG a=true):aA (cd a)=some a:=by
 have hc:=rF (c:=35) (s:=cd a) fun x hx=>(tx h x hx).2
 unfold aA
 rw[hc]
 rw[if_pos ⟨(fo h).2.2.2.2.2,by unfold cd;simp,by unfold cd;simp⟩]
 show dg ((cd a).drop 2)=_
 rw[show (cd a).drop 2=a.c9++bD a from by unfold cd;simp,AW h]
theorem Au{a:r8}(h:aG a=true):aD (cd a)=true:=uS (by rw[pR h];rfl) (by rw[pR h];rfl)
theorem xx(a:r8):m4 (bj a):=by
 unfold bj
 split
 rename_i h;exact fun c hc=>(tx h c hc).1
 exact aT
theorem Dm{m:BL}{b:UInt8}(hb:b≠0):(!(m==[])&&o6 (((m.getD 0 0).toNat:Nat):Int) ((b.toNat:Nat):Int))=(ew m==b):=by
 unfold ew o6
 rw[b8]
 cases m with
 | nil=>
   show false=_
   symm
   rw[beq_eq_false_iff_ne]
   intro c
   exact hb (UInt8.toNat_inj.1 (by have:((0:UInt8).toNat:Int)=(b.toNat:Int):=c;omega))
 | cons x r=>rfl
theorem Cg{m:BL}(h:ew m=64):1<=m.length:=by
 cases m with
 | nil=>exact absurd h Z6
 | cons a r=>simp
theorem CG{m:BL}:jz m=true↔¬ ew m=33/\¬ ew m=64:=by
 unfold jz
 simp
theorem Le{s:BL}(h:eI s [47,47]=true):2<=s.length/\s.take 2=[47,47]:=qw.1 h
theorem wC{s:BL}(h:eI s [47,47]=false): ¬ (2<=s.length/\s.take 2=[47,47]):=fun c=>by rw[(qw (s:=s) (p:=[47,47])).2 c]at h;cases h
theorem Ec{t:BL}(h:m4 t):m4 ((cm t).getD []):=by
 cases e:cm t with
 | none=>exact aT
 | some r=>exact fun c hc=>h c ((zZ e).2 c hc)
theorem Et{t:BL}(h:m4 t)(i:Nat):m4 ((aU t).getD i []):=by
 rw[ZZ]
 cases e:(aU t)[i]? with
 | none=>exact aT
 | some x=>exact fun c hc=>h c (((rm t).2 x (ZD e)).2 c hc)
theorem II{b:r8}{o:List BL}{m:BL}(h:(G4 b m).isSome=true)(h2: ¬ bj (oA (G4 b m))∈o):dQ b o m=o++[bj (oA (G4 b m))]:=by
 unfold dQ iM
 rw[if_pos h,if_neg (by simpa using h2)]
theorem JA{b:r8}{o:List BL}{m:BL}(h:(G4 b m).isSome=true)(h2:bj (oA (G4 b m))∈o):dQ b o m=o:=by
 unfold dQ iM
 rw[if_pos h,if_pos (by simpa using h2)]
theorem pC(d:BL):cy (oA (ar d)):=by
 unfold ar
 split
 exact lH d
 exact pr
def jK(m:BL)(b:UInt8):o8 Tryz.prog:=.mk 146 [sV m,uN b.toNat] [] (b≠0) (bV (ew m==b)) [] (by
 intro hb
 refine aq (N:=13) (rs:=[.tmp 4]) Tryz.func146
  (.q 1<|.q 9<|.nil)
  (Gd ((!(m==[]))==true) (Ix 0 m)/\Pk (!(m==[])) ((!(m==[]))==true) true/\Q (bV ((!(m==[]))&&(o6 (((m.getD 0 0).toNat:Nat):Int) (b.toNat:Int)))) (bV (ew m==b))) ?_
 refine⟨fun hG=>by(try simp only[nb]at hG);have:=List.length_pos_iff.2 (by simpa using hG);omega,⟨fun h=>by rw[h] <;> rfl,fun _=>rfl⟩,?_⟩
 unfold Q
 refine Zo bV ?_
 exact Dm hb)
abbrev fK(t:BL)(i:Nat):Prop:=i<=(aF t).length/\∀ j,j<i->(ew ((aF t).getD j [])==64)=false
def qM(t:BL):o8 Tryz.prog:=.mk 115 [sV t] [] (t.length<=4611686018427387904) (.tup [sV ((cm t).getD []),bV ((cm t).isSome)]) [] (by
 intro ht
 obtain⟨Vs,Wu⟩:=nS t
 refine aq (N:=18) (rs:=[.tmp 2,.tmp 3]) Tryz.func115
  (.q 2<|.q 1<|.c (ji t) []<|.q 2<|.loop (Nat) (fun (i:Nat)=>⟨[(7,ao (aF t)),(8,iN ((aF t).length)),(9,iN i)],[]⟩) (fun (i:Nat)=>fK t i) (fun (i:Nat)=>(aF t).length-i) (fun (i:Nat)=>.q 1<|.br (.r 3 [sV ((aF t).getD i [])]<|.q 1<|.c (jK ((aF t).getD i []) (64:UInt8)) []<|.br (.q 4<|.nil) (.q 2<|.nil)) (.q 2<|.nil)))
  ((fun v1:V=>((ji t).sm/\((t.length<=4611686018427387904))/\(∃ h9:Nat,(fK t h9)/\E (ao (aF t))/\Q (iN (((aF t).map sV).length)) (iN ((aF t).length))/\Q (iN 0) (iN h9)/\True)/\∀ i:Nat,(fK t i)->Br (s4 (i:Int) (((aF t).length:Nat):Int)) (Ex (i:Int) ((aF t).map sV) (sV ((aF t).getD i []))/\True/\(jK ((aF t).getD i []) (64:UInt8)).sm/\(((64:UInt8)≠0))/\Br (ew ((aF t).getD i [])==(64:UInt8)) (Sx (1:Int) (((aF t).getD i []).length:Int) ((aF t).getD i [])/\Q (.tup [sV ((((aF t).getD i []).take ((aF t).getD i []).length).drop 1),bV true]) v1) (m6 ((i:Int)+1)/\∃ b9:Nat,(fK t b9)/\((aF t).length-b9<(aF t).length-i)/\E (ao (aF t))/\E (iN ((aF t).length))/\Q (iN (i+1)) (iN b9)/\True)) (Q (.tup [sV [],bV false]) v1))) (.tup [sV ((cm t).getD []),bV ((cm t).isSome)])) ?_
 refine⟨rfl,Z5,?_⟩
 refine⟨⟨0,?_,rfl,Z4,rfl,trivial⟩,?_⟩
 unfold fK
 simp
 rintro i ⟨h1,h2⟩
 refine bI (fun j7=>?_) fun j7=>?_
 refine⟨⟨Z9,aj (d:=[]) Z9⟩,trivial,rfl,Z6,?_⟩
 refine bI (fun l4=>?_) fun l4=>?_
 refine⟨by have:=Cg (m:=(aF t).getD i []) (by simpa using l4);omega,?_⟩
 unfold Q
 rw[show cm t=some (((aF t).getD i []).drop 1) from by rw[cm,zR (i:=i) (d:=[]) Z9 (by simpa using l4) h2];rfl,List.take_length]
 rfl
 refine⟨Z9,?_⟩
 refine⟨i+1,?_,?_,rfl,rfl,rfl,trivial⟩
 unfold fK
 exact⟨Z9,bE h2 (by simpa using l4)⟩
 exact Z1
 unfold Q
 rw[show cm t=none from by rw[cm,GK (d:=[]) (fun j hj=>h2 j Z9)];rfl]
 rfl)
def pP(t:BL):o8 Tryz.prog:=.mk 117 [sV t] [] (t.length<=4611686018427387904) (ao (aU t)) [] (by
 intro ht
 obtain⟨Vs,Wu⟩:=nS t
 refine aq (N:=27) (rs:=[.tmp 2]) Tryz.func117
  (.q 1<|.q 1<|.q 1<|.c (ji t) []<|.q 2<|.h (.H2 3 1)<|.loop (Nat×(List BL)×Nat×Nat×Nat) (fun (i,o,g,f,k)=>⟨[(3,.own 1 (o.map sV) g f k),(7,ao (aF t)),(8,iN ((aF t).length)),(9,iN i)],[]⟩) (fun (i,o,g,f,k)=>i<=(aF t).length/\o=((aF t).take i).filter jz/\o.length<=i) (fun (i,o,g,f,k)=>(aF t).length-i) (fun (i,o,g,f,k)=>.q 1<|.br (.r 3 [sV ((aF t).getD i [])]<|.q 1<|.c (jK ((aF t).getD i []) (33:UInt8)) []<|.q 3<|.cg (jK ((aF t).getD i []) (64:UInt8))<|.q 2<|.br (.q 2<|.bs<|.ap (fun g24 RE SG=>.h (.o4 24 (.own 1 ((o++[((aF t).getD i [])]).map sV) g24 RE SG))<|.q 1<|.q 2<|.nil)) (.q 2<|.nil)) (.h (.fz 3)<|.h (.o4 3 (ao o))<|.q 2<|.nil)))
  ((ji t).sm/\((t.length<=4611686018427387904))/\(∃ x:Nat×(List BL)×Nat×Nat×Nat,match x with | (h9,s8,A5,x9,r9)=>(h9<=(aF t).length/\s8=((aF t).take h9).filter jz/\s8.length<=h9)/\Q (.own 1 ([].map sV) 0 0 0) (.own 1 (s8.map sV) A5 x9 r9)/\E (ao (aF t))/\Q (iN (((aF t).map sV).length)) (iN ((aF t).length))/\Q (iN 0) (iN h9)/\True)/\∀ x:Nat×(List BL)×Nat×Nat×Nat,match x with | (i,o,g,f,k)=>(i<=(aF t).length/\o=((aF t).take i).filter jz/\o.length<=i)->(fun v1:Bool=>(fun v2:List V=>Br (s4 (i:Int) (((aF t).length:Nat):Int)) (Ex (i:Int) ((aF t).map sV) (sV ((aF t).getD i []))/\True/\(jK ((aF t).getD i []) (33:UInt8)).sm/\(((33:UInt8)≠0))/\Gd (v1==true) ((((64:UInt8)≠0))/\(jK ((aF t).getD i []) (64:UInt8)).sm)/\Pk v1 (v1==true) true/\Br (v1&&(!(ew ((aF t).getD i [])==(64:UInt8)))) (((1,1,g,f,k,(o.map sV).length)=(1,1,g,f,k,(o.map sV).length))/\(True)/\(V.ay v2=false)/\(aC 1 v2)/\(((o.map sV).length+v2.length)*16<=140737488355328)/\∀ g24 RE SG:Nat,((.own 1 ((o.map sV)++v2) g24 RE SG:V)=.own 1 ((o++[((aF t).getD i [])]).map sV) g24 RE SG)/\m6 ((i:Int)+1)/\∃ x:Nat×(List BL)×Nat×Nat×Nat,match x with | (b9,l7,s3,o9,k₂)=>(b9<=(aF t).length/\l7=((aF t).take b9).filter jz/\l7.length<=b9)/\((aF t).length-b9<(aF t).length-i)/\Q (.own 1 ((o++[((aF t).getD i [])]).map sV) g24 RE SG) (.own 1 (l7.map sV) s3 o9 k₂)/\E (ao (aF t))/\E (iN ((aF t).length))/\Q (iN (i+1)) (iN b9)/\True) (m6 ((i:Int)+1)/\∃ x:Nat×(List BL)×Nat×Nat×Nat,match x with | (b9,l7,s3,o9,k₂)=>(b9<=(aF t).length/\l7=((aF t).take b9).filter jz/\l7.length<=b9)/\((aF t).length-b9<(aF t).length-i)/\Q (.own 1 (o.map sV) g f k) (.own 1 (l7.map sV) s3 o9 k₂)/\E (ao (aF t))/\E (iN ((aF t).length))/\Q (iN (i+1)) (iN b9)/\True)) (((.sl false (V.D5 (o.map sV)):V)=ao o)/\Q (ao o) (ao (aU t)))) ([sV ((aF t).getD i [])]:List V)) (!(ew ((aF t).getD i [])==(33:UInt8)))) ?_
 refine⟨rfl,Z5,?_⟩
 refine⟨⟨(0,[],0,0,0),?_,rfl,rfl,Z4,rfl,trivial⟩,?_⟩
 simp
 rintro⟨i,o,g,f,k⟩ ⟨h1,h2,h3⟩
 refine bI (fun j7=>?_) fun j7=>?_
 refine⟨⟨Z9,aj (d:=[]) Z9⟩,trivial,rfl,Z6,fun hG=>⟨by(try simp only[nb]at hG);decide,rfl⟩,⟨fun h=>by rw[h] <;> rfl,fun _=>rfl⟩,?_⟩
 refine bI (fun l4=>?_) fun l4=>?_
 refine⟨rfl,trivial,rfl,by simp[aC,V.n,V.ns],Z0,?_⟩
 intro g24 RE SG
 refine⟨Zo (V.own 1 · g24 RE SG) Z8,Z9,?_⟩
 refine⟨(i+1,o++[((aF t).getD i [])],g24,RE,SG),?_,?_,rfl,rfl,rfl,rfl,trivial⟩
 refine⟨Z9,?_,Z0⟩
 rw[aW (d:=[]) Z9,List.filter_append,<- h2,List.filter_cons_of_pos (CG.2 (by simpa using l4))]
 rfl
 exact Z1
 refine⟨Z9,?_⟩
 refine⟨(i+1,o,g,f,k),?_,?_,rfl,rfl,rfl,rfl,trivial⟩
 refine⟨Z9,?_,Z9⟩
 rw[aW (d:=[]) Z9,List.filter_append,<- h2,List.filter_cons_of_neg (fun c=>absurd (CG.1 c) (by simpa using l4))]
 simp
 exact Z1
 refine⟨Zo (V.sl false) (aM (fun _=>rfl) _),?_⟩
 unfold Q
 rw[h2,ZL Z9]
 rfl)
def qJ(a:r8):o8 Tryz.prog:=.mk 118 [bq a.c9 a.a8 a.asks a.ask] [] (cy a) (sV (bj a)) [] (by
 intro ha
 refine aq (N:=8) (rs:=[.tmp 2]) Tryz.func118
  (.bx (fun g1=>.q 1<|.r 1 [.b7]<|.c (eX a) []<|.q 1<|.br (.q 1<|.nil) (.r 1 [.b7]<|.c (gB a) []<|.q 1<|.nil)))
  (∀ g1:Nat,Z g1 0/\(eX a).sm/\((cy a))/\Br (!(aG a)) (Q (sV []) (sV (bj a))) (Z g1 0/\(gB a).sm/\((cy a))/\Q (sV (cd a)) (sV (bj a)))) ?_
 intro g1
 refine⟨rfl,rfl,ha,?_⟩
 refine bI (fun j7=>?_) fun j7=>?_
 unfold Q
 rw[show bj a=[] from if_neg (by rw[j7];decide)]
 refine⟨rfl,rfl,ha,?_⟩
 unfold Q
 rw[show bj a=cd a from if_pos (by simpa using j7)])
def py(s:BL)(p:BL):o8 Tryz.prog:=.mk 147 [sV s,sV p] [] ((s.length<=4611686018427387904)/\(p.length<=4611686018427387904)) (bV (eI s p)) [] (by
 rintro⟨hs,hp⟩
 refine aq (N:=8) (rs:=[.tmp 4]) Tryz.func147
  (.q 1<|.q 2<|.c (kb s p) []<|.q 1<|.nil)
  ((kb s p).sm/\((s.length<=4611686018427387904)/\(p.length<=4611686018427387904))/\Q (bV (eI s p)) (bV (eI s p))) ?_
 refine⟨rfl,⟨Z5,Z5⟩,?_⟩
 unfold Q
 rfl)
abbrev db(a:r8)(ref:BL):V:=.tup [bq ((oA (G4 a ref)).c9) ((oA (G4 a ref)).a8) ((oA (G4 a ref)).asks) ((oA (G4 a ref)).ask),bV ((G4 a ref).isSome)]
def jZ(a:r8)(ref:BL):o8 Tryz.prog:=.mk 116 [bq a.c9 a.a8 a.asks a.ask,sV ref] [] ((cy a)/\(a.a8.length<=100)/\(ref.length<=1000000)/\(m4 ref)) (db a ref) [] (by
 rintro⟨ha,hp,hr,hc⟩
 have Ms:=kE 35 ref
 refine aq (N:=75) (rs:=[.cell 4 96,.tmp 5]) Tryz.func116
  (.bx (fun g2=>.al cY (fun g4=>.q 1<|.r 5 [.b7]<|.cg (eX a)<|.q 2<|.br (.bd cY<|.st none<|.q 1<|.nil) (.q 1<|.c (my ref 35) []<|.q 7<|.q 1<|.c (py ((ab 35 ref).1) ([47,47]:BL)) []<|.q 1<|.br (.q 1<|.c (ko ((ab 35 ref).1)) []<|.q 2<|.st none<|.q 1<|.nil) (.q 3<|.br (.r 2 [.b7]<|.c (iY a.a8) []<|.ot 36 (fun XX Xf X1=>.h (.fz 36)<|.h (.o4 36 (ao a.a8))<|.q 1<|.st none<|.r 1 [.b7]<|.st none<|.q 1<|.nil)) (.q 4<|.br (.r 3 [.b7]<|.c (eU a.c9 ([]:List BL) ((ab 35 ref).1)) []<|.q 2<|.st none<|.q 1<|.nil) (.q 4<|.br (.r 5 [.b7,.b7]<|.c (eU a.c9 a.a8 ((ab 35 ref).1)) []<|.q 2<|.st none<|.q 1<|.nil) (.dx 14 [0,1,2,3,4,5,6,7,8,9,10,11,12,13] [(1,⟨false,[],some [2],[62],[]⟩),(3,⟨false,[],some [2],[64],[]⟩),(5,⟨false,[],some [2],[66],[]⟩)] []<|.q 1<|.r 1 [.b7]<|.q 1<|.r 1 [.b7]<|.q 1<|.r 1 [.b7]<|.q 1<|.q 1<|.mm<|.q 1<|.h (.o4 70 (ao (a.a8.take (a.a8.length-1))))<|.q 1<|.c (eU a.c9 (a.a8.take (a.a8.length-1)) ((ab 35 ref).1)) []<|.q 1<|.q 1<|.st none<|.q 1<|.nil))))))))
  ((fun v1:r8=>(fun v2:r8=>(fun v3:r8=>(fun v4:Int=>(fun v5:Bool=>(fun v6:r8=>(fun v7:Int=>(∀ g2:Nat,∀ g4:Nat,Gd (v5==false) (Z g2 0)/\Gd (v5==false) (((cy a))/\(eX a).sm)/\Pk v5 true (v5==false)/\Br (v5||(!(aG a))) (Z g4 0/\(g4=g4)/\Q (.tup [fq (.sl false []),bV false]) (db a ref)) ((my ref 35).sm/\((ref.length<=1000000))/\(py ((ab 35 ref).1) ([47,47]:BL)).sm/\((((ab 35 ref).1).length<=4611686018427387904)/\(([47,47]:BL).length<=4611686018427387904))/\Br (eI ((ab 35 ref).1) ([47,47]:BL)) ((ko ((ab 35 ref).1)).sm/\((((ab 35 ref).1).length<=300)/\(m4 ((ab 35 ref).1)))/\Z g4 0/\(g4=g4)/\Q (.tup [bq (v6.c9) (v6.a8) (v6.asks) (v6.ask),bV ((cO ((ab 35 ref).1)).isSome)]) (db a ref)) (Br (((ab 35 ref).1)==[]) (Z g2 1/\(iY a.a8).sm/\((a.a8.length<=1000000))/\∀ XX Xf X1:Nat,((.sl false (V.D5 (a.a8.map sV)):V)=ao a.a8)/\Z g2 1/\Z g2 0/\Z g4 0/\(g4=g4)/\Q (.tup [bq a.c9 a.a8 a.asks a.ask,bV true]) (db a ref)) (Ix 0 ((ab 35 ref).1)/\Br (o6 v7 47) (Z g2 0/\(eU a.c9 ([]:List BL) ((ab 35 ref).1)).sm/\((a.c9.length<=1000)/\(∀ i,(([]:List BL).getD i []).length<=1000)/\(([]:List BL).length<=100)/\(((ab 35 ref).1).length<=300))/\Z g4 0/\(g4=g4)/\Q (.tup [bq (v2.c9) (v2.a8) (v2.asks) (v2.ask),bV ((bT a.c9 ([]:List BL) ((ab 35 ref).1)).isSome)]) (db a ref)) (Ix 0 ((ab 35 ref).1)/\Br (o6 v7 63) (Z g2 0/\Z g2 1/\(eU a.c9 a.a8 ((ab 35 ref).1)).sm/\((a.c9.length<=1000)/\(∀ i,(a.a8.getD i []).length<=1000)/\(a.a8.length<=100)/\(((ab 35 ref).1).length<=300))/\Z g4 0/\(g4=g4)/\Q (.tup [bq (v3.c9) (v3.a8) (v3.asks) (v3.ask),bV ((bT a.c9 a.a8 ((ab 35 ref).1)).isSome)]) (db a ref)) (Z g2 0/\Z g2 1/\Z g2 1/\m6 (v4-1)/\(IntKind.i64=IntKind.i64)/\((0:Int)<=(0:Int)/\(0:Int)<=(max (v4-1) 0)/\(max (v4-1) 0)<=(a.a8.map sV).length/\∀ x∈(a.a8.map sV),x.n=1)/\Q (.sl false (((a.a8.map sV).take (Int.toNat (max (v4-1) 0))).drop ((0:Int).toNat))) (ao (a.a8.take (a.a8.length-1)))/\(eU a.c9 (a.a8.take (a.a8.length-1)) ((ab 35 ref).1)).sm/\((a.c9.length<=1000)/\(∀ i,((a.a8.take (a.a8.length-1)).getD i []).length<=1000)/\((a.a8.take (a.a8.length-1)).length<=100)/\(((ab 35 ref).1).length<=300))/\Z g4 0/\(g4=g4)/\Q (.tup [bq (v1.c9) (v1.a8) (v1.asks) (v1.ask),bV ((bT a.c9 (a.a8.take (a.a8.length-1)) ((ab 35 ref).1)).isSome)]) (db a ref)))))))) (((((ab 35 ref).1).getD 0 0).toNat:Nat):Int)) (oA (cO ((ab 35 ref).1)))) (s7 (ref.length:Int) 60)) (((a.a8.map sV).length:Nat):Int)) (oA (bT a.c9 a.a8 ((ab 35 ref).1)))) (oA (bT a.c9 ([]:List BL) ((ab 35 ref).1)))) (oA (bT a.c9 (a.a8.take (a.a8.length-1)) ((ab 35 ref).1)))) ?_
 intro g2
 intro g4
 refine⟨fun hG=>rfl,fun hG=>⟨ha,rfl⟩,⟨fun _=>rfl,fun h=>by rw[h] <;> rfl⟩,?_⟩
 refine bI (fun j7=>?_) fun j7=>?_
 refine⟨rfl,?_⟩
 refine⟨rfl,?_⟩
 unfold Q db
 rw[show G4 a ref=none from if_pos (j7.symm.imp id fun h=>by omega)]
 rfl
 refine⟨rfl,Z9,rfl,⟨Z9,Z8⟩,?_⟩
 refine bI (fun l4=>?_) fun l4=>?_
 refine⟨rfl,⟨Z9,hc.cut 35⟩,rfl,?_⟩
 refine⟨rfl,?_⟩
 unfold Q db
 rw[xU ⟨j7.2,j7.1⟩,if_pos (Le l4),show cO (ab 35 ref).1=dg ((ab 35 ref).1.drop 2) from if_pos l4]
 refine bI (fun m8=>?_) fun m8=>?_
 refine⟨rfl,rfl,Z9,?_⟩
 intro XX Xf X1
 refine⟨Zo (V.sl false) (aM (fun _=>rfl) _),rfl,rfl,rfl,?_⟩
 refine⟨rfl,?_⟩
 unfold Q db
 rw[xU ⟨j7.2,j7.1⟩,if_neg (wC l4),if_pos (by simpa using m8)]
 rfl
 refine⟨by have:=List.length_pos_iff.2 m8;omega,?_⟩
 refine bI (fun w7=>?_) fun w7=>?_
 refine⟨rfl,rfl,⟨ha.1,Z8,Z8,Z9⟩,rfl,?_⟩
 refine⟨rfl,?_⟩
 unfold Q db
 rw[xU ⟨j7.2,j7.1⟩,if_neg (wC l4),if_neg (by simpa using m8),if_pos (Gu (k:=47) w7)]
 refine⟨by have:=List.length_pos_iff.2 m8;omega,?_⟩
 refine bI (fun G8=>?_) fun G8=>?_
 refine⟨rfl,rfl,rfl,⟨ha.1,ha.2.2.2,hp,Z9⟩,rfl,?_⟩
 refine⟨rfl,?_⟩
 unfold Q db
 rw[xU ⟨j7.2,j7.1⟩,if_neg (wC l4),if_neg (by simpa using m8),if_neg (Bz (k:=47) w7),if_pos (Gu (k:=63) G8)]
 refine⟨rfl,rfl,rfl,Z2,rfl,⟨by simp <;> omega,by simp <;> omega,by simp <;> omega,all_map (fun _=>rfl)⟩,by unfold Q;refine Zo (V.sl false) ?_;rw[List.map_take,show (max (((a.a8.map sV).length:Int)-1) 0).toNat=a.a8.length-1 from Z0];rfl,rfl,⟨ha.1,HM ha.2.2.2,by simp only[List.length_take];omega,Z9⟩,rfl,?_⟩
 refine⟨rfl,?_⟩
 unfold Q db
 rw[xU ⟨j7.2,j7.1⟩,if_neg (wC l4),if_neg (by simpa using m8),if_neg (Bz (k:=47) w7),if_neg (Bz (k:=63) G8)])
def pI(a:r8)(t:BL):o8 Tryz.prog:=.mk 91 [bq a.c9 a.a8 a.asks a.ask,sV t] [] ((cy a)/\(t.length<=4611686018427387904)/\(m4 t)) (ao (bf a t)) [] (by
 rintro⟨ha,ht,hc⟩
 obtain⟨Vs,Wu⟩:=rm t
 refine aq (N:=61) (rs:=[.tmp 4]) Tryz.func91
  (.bx (fun g2=>.q 1<|.r 1 [.b7]<|.c (eX a) []<|.q 1<|.br (.q 1<|.nil) (.r 1 [.b7]<|.al cY (fun g5=>.st none<|.q 1<|.c (qM t) []<|.q 5<|.q 1<|.join (r8) (fun b=>⟨[(1,sV t),(5,.ptr (.key 5) [] g5 0)],[(5,(g5,bq b.c9 b.a8 b.asks b.ask))]⟩) (fun b=>b=(fR a t)) (.r 2 [.b7]<|.c (jZ a ((cm t).getD [])) []<|.q 3<|.al cY (fun g8=>.st none<|.q 1<|.q 1<|.br (.r 1 [.b7]<|.st none<|.nil) (.nil))) (.nil) (fun b=>.q 1<|.q 1<|.c (pP t) []<|.q 2<|.h (.H2 10 1)<|.loop (Nat×(List BL)×Nat×Nat×Nat) (fun (i,o,g,f,k)=>⟨[(5,.ptr (.key 5) [] g5 0),(10,.own 1 (o.map sV) g f k),(35,ao (aU t)),(36,iN ((aU t).length)),(37,iN i)],[(5,(g5,bq b.c9 b.a8 b.asks b.ask))]⟩) (fun (i,o,g,f,k)=>i<=(aU t).length/\o=((aU t).take i).foldl (dQ b) []/\o.length<=i) (fun (i,o,g,f,k)=>(aU t).length-i) (fun (i,o,g,f,k)=>.q 1<|.br (.r 3 [sV ((aU t).getD i [])]<|.r 2 [.b7]<|.c (jZ b ((aU t).getD i [])) []<|.q 3<|.al cY (fun g13=>.st none<|.q 1<|.q 2<|.br (.q 2<|.nil) (.r 1 [.b7]<|.c (qJ (oA (G4 b ((aU t).getD i [])))) []<|.q 1<|.q 2<|.cl (oU o (bj (oA (G4 b ((aU t).getD i [])))))<|.q 1<|.br (.q 2<|.bs<|.ap (fun Sg Rv Sw=>.h (.o4 58 (.own 1 ((o++[bj (oA (G4 b ((aU t).getD i [])))]).map sV) Sg Rv Sw))<|.q 1<|.q 2<|.nil)) (.q 2<|.nil)))) (.h (.fz 10)<|.h (.o4 10 (ao o))<|.q 2<|.nil)))))))
  ((fun v1:r8=>(∀ g2:Nat,Z g2 0/\(eX a).sm/\((cy a))/\Br (!(aG a)) (Q (.sl false []) (ao (bf a t))) (Z g2 0/\∀ g5:Nat,(fun v2:V=>Z g5 0/\(qM t).sm/\((t.length<=4611686018427387904))/\(((cm t).isSome)=true->Z g2 0/\(jZ a ((cm t).getD [])).sm/\((cy a)/\(a.a8.length<=100)/\(((cm t).getD []).length<=1000000)/\(m4 ((cm t).getD [])))/\∀ g8:Nat,Z g8 0/\Br ((G4 a ((cm t).getD [])).isSome) (Z g8 0/\Z g5 0/\∃ b:r8,(b=(fR a t))/\E (sV t)/\E v2/\Qr g5 (bq (v1.c9) (v1.a8) (v1.asks) (v1.ask)) g5 (bq b.c9 b.a8 b.asks b.ask)/\True) (∃ b:r8,(b=(fR a t))/\E (sV t)/\E v2/\Qr g5 (bq a.c9 a.a8 a.asks a.ask) g5 (bq b.c9 b.a8 b.asks b.ask)/\True))/\(((cm t).isSome)=false->∃ b:r8,(b=(fR a t))/\E (sV t)/\E v2/\Qr g5 (bq a.c9 a.a8 a.asks a.ask) g5 (bq b.c9 b.a8 b.asks b.ask)/\True)/\(∀ b:r8,(b=(fR a t))->(fun v3:V=>(pP t).sm/\((t.length<=4611686018427387904))/\(∃ x:Nat×(List BL)×Nat×Nat×Nat,match x with | (h9,s8,A5,x9,r9)=>(h9<=(aU t).length/\s8=((aU t).take h9).foldl (dQ b) []/\s8.length<=h9)/\E v2/\Q (.own 1 ([].map sV) 0 0 0) (.own 1 (s8.map sV) A5 x9 r9)/\E (ao (aU t))/\Q (iN (((aU t).map sV).length)) (iN ((aU t).length))/\Q (iN 0) (iN h9)/\Er g5 v3/\True)/\∀ x:Nat×(List BL)×Nat×Nat×Nat,match x with | (i,o,g,f,k)=>(i<=(aU t).length/\o=((aU t).take i).foldl (dQ b) []/\o.length<=i)->(fun v4:r8=>(fun v5:List V=>Br (s4 (i:Int) (((aU t).length:Nat):Int)) (Ex (i:Int) ((aU t).map sV) (sV ((aU t).getD i []))/\True/\Z g5 0/\(jZ b ((aU t).getD i [])).sm/\((cy b)/\(b.a8.length<=100)/\(((aU t).getD i []).length<=1000000)/\(m4 ((aU t).getD i [])))/\∀ g13:Nat,Z g13 0/\Br (!((G4 b ((aU t).getD i [])).isSome)) (m6 ((i:Int)+1)/\∃ x:Nat×(List BL)×Nat×Nat×Nat,match x with | (b9,l7,s3,o9,k₂)=>(b9<=(aU t).length/\l7=((aU t).take b9).foldl (dQ b) []/\l7.length<=b9)/\((aU t).length-b9<(aU t).length-i)/\E v2/\Q (.own 1 (o.map sV) g f k) (.own 1 (l7.map sV) s3 o9 k₂)/\E (ao (aU t))/\E (iN ((aU t).length))/\Q (iN (i+1)) (iN b9)/\Er g5 v3/\True) (Z g13 0/\(qJ v4).sm/\((cy v4))/\(((1=1/\g=g/\f=f)/\0+((o.map sV).length)<=(o.map sV).length/\V.ay (o.map sV)=false/\aC 1 (o.map sV))/\True)/\(([.sl false (((o.map sV).drop 0).take ((o.map sV).length)),sV (bj v4)]:List V)=[ao o,sV (bj v4)])/\((o.length<=1000000))/\Br (!(o.contains (bj v4))) (((1,1,g,f,k,(o.map sV).length)=(1,1,g,f,k,(o.map sV).length))/\(True)/\(V.ay v5=false)/\(aC 1 v5)/\(((o.map sV).length+v5.length)*16<=140737488355328)/\∀ Sg Rv Sw:Nat,((.own 1 ((o.map sV)++v5) Sg Rv Sw:V)=.own 1 ((o++[bj v4]).map sV) Sg Rv Sw)/\m6 ((i:Int)+1)/\∃ x:Nat×(List BL)×Nat×Nat×Nat,match x with | (b9,l7,s3,o9,k₂)=>(b9<=(aU t).length/\l7=((aU t).take b9).foldl (dQ b) []/\l7.length<=b9)/\((aU t).length-b9<(aU t).length-i)/\E v2/\Q (.own 1 ((o++[bj v4]).map sV) Sg Rv Sw) (.own 1 (l7.map sV) s3 o9 k₂)/\E (ao (aU t))/\E (iN ((aU t).length))/\Q (iN (i+1)) (iN b9)/\Er g5 v3/\True) (m6 ((i:Int)+1)/\∃ x:Nat×(List BL)×Nat×Nat×Nat,match x with | (b9,l7,s3,o9,k₂)=>(b9<=(aU t).length/\l7=((aU t).take b9).foldl (dQ b) []/\l7.length<=b9)/\((aU t).length-b9<(aU t).length-i)/\E v2/\Q (.own 1 (o.map sV) g f k) (.own 1 (l7.map sV) s3 o9 k₂)/\E (ao (aU t))/\E (iN ((aU t).length))/\Q (iN (i+1)) (iN b9)/\Er g5 v3/\True))) (((.sl false (V.D5 (o.map sV)):V)=ao o)/\Q (ao o) (ao (bf a t)))) ([sV (bj v4)]:List V)) (oA (G4 b ((aU t).getD i [])))) (bq b.c9 b.a8 b.asks b.ask))) (.ptr (.key 5) [] g5 0)))) (oA (G4 a ((cm t).getD [])))) ?_
 intro g2
 refine⟨rfl,rfl,ha,?_⟩
 refine bI (fun j7=>?_) fun j7=>?_
 unfold Q
 rw[show bf a t=[] from if_neg (by rw[j7];decide)]
 rfl
 refine⟨rfl,?_⟩
 intro g5
 refine⟨rfl,rfl,Z5,?_⟩
 refine⟨fun l4=>?_,fun l4=>?_,fun b hb=>?_⟩
 try simp only[nb]at l4
 refine⟨rfl,rfl,⟨ha,by have:=(fo (by simpa using j7)).2.1;omega,by have:=Fe t;omega,Ec hc⟩,?_⟩
 intro g8
 refine⟨rfl,?_⟩
 refine bI (fun m8=>?_) fun m8=>?_
 refine⟨rfl,rfl,?_⟩
 exact⟨(⟨(oA (G4 a ((cm t).getD []))).c9,(oA (G4 a ((cm t).getD []))).a8,(oA (G4 a ((cm t).getD []))).asks,(oA (G4 a ((cm t).getD []))).ask⟩:r8),by first | exact ub l4 m8 | exact uA l4 m8 | exact uU l4,rfl,rfl,Z4,trivial⟩
 exact⟨(⟨a.c9,a.a8,a.asks,a.ask⟩:r8),by first | exact ub l4 m8 | exact uA l4 m8 | exact uU l4,rfl,rfl,Z4,trivial⟩
 try simp only[nb]at l4
 exact⟨(⟨a.c9,a.a8,a.asks,a.ask⟩:r8),by first | exact ub l4 m8 | exact uA l4 m8 | exact uU l4,rfl,rfl,Z4,trivial⟩
 refine⟨rfl,Z5,?_⟩
 refine⟨⟨(0,[],0,0,0),?_,rfl,rfl,rfl,Z4,rfl,rfl,trivial⟩,?_⟩
 simp
 rintro⟨i,o,g,f,k⟩ ⟨h1,h2,h3⟩
 have MZ:=jH (n:=300) (fun m hm=>(Wu m hm).1) i
 have XM:aG b=true:=by rw[hb];exact Es (by simpa using j7)
 have hbs:cy b:=pH XM
 have hbp:b.a8.length<=100:=by have:=(fo XM).2.1;omega
 have Oe:m4 ((aU t).getD i []):=Et hc i
 refine bI (fun w7=>?_) fun w7=>?_
 refine⟨⟨Z9,aj (d:=[]) Z9⟩,trivial,rfl,rfl,⟨hbs,hbp,Z9,Oe⟩,?_⟩
 intro g13
 refine⟨rfl,?_⟩
 refine bI (fun G8=>?_) fun G8=>?_
 refine⟨Z9,?_⟩
 refine⟨(i+1,o,g,f,k),?_,?_,rfl,rfl,rfl,rfl,rfl,rfl,trivial⟩
 refine⟨Z9,?_,Z9⟩
 rw[foldl_succ (d:=[]) Z9,<- h2];exact(if_neg (by simpa using G8)).symm
 exact Z1
 refine⟨rfl,rfl,LR _ _,⟨⟨⟨rfl,rfl,rfl⟩,Z8,ct (f:=sV) (fun _=>rfl) _,dU (f:=sV) (fun _=>rfl) _⟩,trivial⟩,by simp[ZL],Z9,?_⟩
 refine bI (fun MN=>?_) fun MN=>?_
 refine⟨rfl,trivial,rfl,by simp[aC,V.n,V.ns],Z0,?_⟩
 intro Sg Rv Sw
 refine⟨Zo (V.own 1 · Sg Rv Sw) Z8,Z9,?_⟩
 refine⟨(i+1,o++[bj (oA (G4 b ((aU t).getD i [])))],Sg,Rv,Sw),?_,?_,rfl,rfl,rfl,rfl,rfl,rfl,trivial⟩
 refine⟨Z9,?_,Z0⟩
 rw[foldl_succ (d:=[]) Z9,<- h2];exact(II (by simpa using G8) (by simpa using MN)).symm
 exact Z1
 refine⟨Z9,?_⟩
 refine⟨(i+1,o,g,f,k),?_,?_,rfl,rfl,rfl,rfl,rfl,rfl,trivial⟩
 refine⟨Z9,?_,Z9⟩
 rw[foldl_succ (d:=[]) Z9,<- h2];exact(JA (by simpa using G8) (by simpa using MN)).symm
 exact Z1
 refine⟨Zo (V.sl false) (aM (fun _=>rfl) _),?_⟩
 unfold Q
 rw[show bf a t=_ from if_pos (by simpa using j7),<- hb,h2,ZL Z9])
abbrev jD(a:r8)(k:Int)(t:BL):V:=ao (if k=1 then bf a t else if k=2 then [t] else [])
def Ao(a:r8)(k:Int)(t:BL):o8 Tryz.prog:=.mk 64 [bq a.c9 a.a8 a.asks a.ask,iV k,sV t] [] ((cy a)/\(t.length<=4611686018427387904)/\(m4 t)) (jD a k t) [] (by
 rintro⟨ha,ht,hc⟩
 refine aq (N:=17) (rs:=[.tmp 6]) Tryz.func64
  (.bx (fun g3=>.q 1<|.q 1<|.q 2<|.br (.r 2 [.b7]<|.c (pI a t) []<|.q 1<|.nil) (.q 2<|.br (.q 1<|.bs<|.q 1<|.nil) (.q 1<|.nil))))
  (∀ g3:Nat,Br (o6 k 1) (Z g3 0/\(pI a t).sm/\((cy a)/\(t.length<=4611686018427387904)/\(m4 t))/\Q (ao (bf a t)) (jD a k t)) (Br (o6 k 2) (Q (.sl false [sV t]) (jD a k t)) (Q (.sl false []) (jD a k t)))) ?_
 intro g3
 refine bI (fun j7=>?_) fun j7=>?_
 refine⟨rfl,rfl,⟨Z5,Z5,Z5⟩,?_⟩
 unfold Q jD
 rw[if_pos j7]
 refine bI (fun l4=>?_) fun l4=>?_
 unfold Q jD
 rw[if_neg j7,if_pos l4]
 rfl
 unfold Q jD
 rw[if_neg j7,if_neg l4]
 rfl)
theorem rD(k:BL)(y:Value)(a:BL):∀ es:List (BL×Value),bM (dI es k y) a=if a=k then some y else bM es a
 | []=>by
   unfold dI bM
   by_cases h:a=k
   rw[if_pos h.symm,if_pos h]
   rw[if_neg (fun c=>h c.symm),if_neg h];rfl
 | p::r=>by
   unfold dI
   by_cases h:p.1=k
   rw[if_pos h]
   show (if k=a then some y else bM r a)=if a=k then some y else if p.1=a then some p.2 else bM r a
   by_cases h2:a=k
   rw[if_pos h2.symm,if_pos h2]
   rw[if_neg (fun c=>h2 c.symm),if_neg h2,if_neg (fun c=>h2 (c.symm.trans h))]
   rw[if_neg h]
   show (if p.1=a then some p.2 else bM (dI r k y) a)=if a=k then some y else if p.1=a then some p.2 else bM r a
   rw[rD k y a r]
   by_cases h2:p.1=a
   rw[if_pos h2,if_neg (fun c=>h (h2.trans c)),if_pos h2]
   rw[if_neg h2,if_neg h2]
def hS(x:List BL×List (BL×Value))(a:BL):List BL×List (BL×Value):=(x.1++[a],dI x.2 a (.int .i64 (((x.1.count a:Nat):Int)+1)))
def hE(H:List BL):List (BL×Value):=(H.foldl hS ([],[])).2
theorem Fc:∀ (H:List BL) {x:List BL×List (BL×Value)},(H.foldl hS x).1=x.1++H
 | [],x=>by simp
 | a::H,x=>by rw[List.foldl_cons,Fc H];simp[hS]
theorem zY(H:List BL)(a:BL):dI (hE H) a (.int .i64 (((H.count a:Nat):Int)+1))=hE (H++[a]):=by
 unfold hE
 rw[List.foldl_append,List.foldl_cons,List.foldl_nil]
 show _=dI _ a (.int .i64 ((((H.foldl hS ([],[])).1.count a:Nat):Int)+1))
 rw[Fc,List.nil_append]
theorem zg:∀ (H:List BL) {x:List BL×List (BL×Value)},(∀ a,bM x.2 a=if a∈x.1 then some (.int .i64 ((x.1.count a:Nat):Int)) else none)->
 ∀ a,bM (H.foldl hS x).2 a=if a∈(H.foldl hS x).1 then some (.int .i64 (((H.foldl hS x).1.count a:Nat):Int)) else none
 | [],_,h=>h
 | b::H,x,h=>zg H fun a=>by
   show bM (dI x.2 b _) a=if a∈x.1++[b] then some (.int .i64 (((x.1++[b]).count a:Nat):Int)) else none
   rw[rD,h a]
   by_cases e:a=b
   subst e
   rw[if_pos rfl,if_pos Z8,List.count_append]
   simp
   rw[if_neg e,List.count_append]
   by_cases e2:a∈x.1
   rw[if_pos e2,if_pos (by simp[e2])]
   simp[List.count_cons,Ne.symm e]
   rw[if_neg e2,if_neg (by simp[e,e2])]
theorem yU(H:List BL)(a:BL):bM (hE H) a=if a∈H then some (.int .i64 ((H.count a:Nat):Int)) else none:=by
 have:=zg H (x:=([],[])) (by simp[bM]) a
 rw[Fc,List.nil_append]at this
 exact this
theorem uY:∀ (f:List BL) {l:List BL},∃ r,f.foldl ez l=l++r
 | [],l=>⟨[],Z8⟩
 | s::f,l=>by
   obtain⟨r,hr⟩:=uY f (l:=ez l s)
   rw[List.foldl_cons]
   by_cases h:aD s=true
   by_cases h2:l.contains s=true
   exact⟨r,by rw[hr,show ez l s=l from by rw[ez,if_pos h,iM,if_pos h2]]⟩
   exact⟨s::r,by rw[hr,show ez l s=l++[s] from by rw[ez,if_pos h,iM,if_neg h2]];simp⟩
   exact⟨r,by rw[hr,show ez l s=l from if_neg h]⟩
theorem FA(H f:List BL):kL (H++f)=f.foldl ez (kL H):=by unfold kL;rw[List.foldl_append]
structure X2 (w:List Pg) (n:BL) (c5 H W R:List BL) (i:Nat):Prop where
 st:rN w n c5 i=(kL (H++W),R)
 at_:(kL H).length=i
 len:H.length+W.length<=12+300*i
 out:R.length<=i
theorem X2.bound{w:List Pg}{n:BL}{c5 H W R:List BL}{i:Nat}(h:X2 w n c5 H W R i)(hw:av w=true)(hs:c5.length<=12):i<=3700:=by
 have:=Ji (n:=n) hw hs i
 rw[h.st]at this
 obtain⟨r,hr⟩:=uY W (l:=kL H)
 rw[show (kL (H++W),R).1=kL (H++W) from rfl,FA,hr,ZW,h.at_]at this
 omega
theorem zE{b:r8}:∀ (ls:List BL) {o:List BL},(∀ m,m∈o->aD m=true/\m4 m)->∀ m,m∈ls.foldl (dQ b) o->aD m=true/\m4 m
 | [],_,h=>h
 | l::ls,o,h=>by
   refine zE ls fun m hm=>?_
   unfold dQ at hm
   split at hm
   rename_i hs
   rcases qz.1 hm with hm | rfl
   exact h m hm
   have hk:=Av hs
   exact⟨by rw[show bj (oA (G4 b l))=cd (oA (G4 b l)) from if_pos hk];exact Au hk,xx _⟩
   exact h m hm
theorem vM{a:r8}{t:BL}:∀ m,m∈bf a t->aD m=true/\m4 m:=by
 unfold bf
 split
 exact zE _ Z8
 simp
theorem IE{w:List Pg}{a:BL}(hw:av w=true)(hz:∀ i,n7 (w.getD i m0))(h:(ae w a 2).1=2):aD (ae w a 2).2=true/\m4 (ae w a 2).2:=by
 unfold ae at h ⊢
 split at h
 cases h
 rename_i h1
 rw[if_neg h1]
 split at h
 cases h
 rename_i h2
 rw[if_neg h2]
 split at h
 cases h
 rename_i h3
 rw[if_neg h3]
 obtain⟨i,hi⟩:=nE w a (by simpa using h1)
 simp only
 rw[hi]at h3 ⊢
 have hl:i<w.length:=by
  rcases Nat.lt_or_ge i w.length with c | c
  exact c
  exact absurd (by rw[ZZ,List.getElem?_eq_none c];rfl) h3
 unfold av at hw
 simp only[ZX,Zq]at hw
 have hp:=(hw.1 i hl).1
 unfold dq at hp
 simp only[ZX,Bool.or_eq_true,Zp]at hp
 rcases hp.2 with c | c
 exact absurd c h3
 exact⟨c.2,(hz i).la⟩
theorem AK{w:List Pg}{a:BL}(hw:av w=true)(hz:∀ i,n7 (w.getD i m0)):∀ m,m∈eJ w a->aD m=true/\m4 m:=by
 intro m hm
 unfold eJ at hm
 split at hm
 unfold sj at hm
 split at hm
 exact vM m hm
 split at hm
 rename_i h2
 rw[ZP.1 hm]
 exact IE hw hz h2
 simp at hm
 simp at hm
section
variable {P:Program}
def Xi(t0:Nat)(es:List (BL×Value))(k:BL)(v:V):Cu P where
 X:=Unit
 pre N o A:=match o.op,o.dst with
  | .lookup T x kx false,some d=>match tD P T,Nat.blt d N with
    | some (.map kt et),true=>match tD P kt,A.ev x,A.get t0 with
      | some .str,.lit (.map (some g)),.om NP g'=>(g'=g/\NP=es)/\A.ev kx=sV k/\((∃ y,bM es k=some y/\v.val? =some y)\/(bM es k=none/\∃ y,v.val? =some y/\∀ w,(zeroValue et).run P w=.ok y w))
      | _,_,_=>False
    | _,_=>False
  | _,_=>False
 post _ o A:=match o.dst with
  | some d=>A.put (some d) v
  | none=>A
 ok:=by
  rintro N ⟨dst,op,ty,pos,after,B9⟩ A K-hp hK
  replace hK:=hK ()
  simp only at hp hK
  split at hp
  rename_i T x kx d
  split at hp
  rename_i kt et e1 e2
  split at hp
  rename_i g NP g' e3 e4 e5
  obtain⟨⟨rfl,rfl⟩,hk,hy⟩:=hp
  obtain⟨td,hu,hd⟩:=cb e1
  have hu:P.underlying T=some (.map kt et):=by
   cases td <;> simp_all[da]
  obtain⟨QS,M7,Py⟩:=cb e3
  have M7:P.underlying kt=some .string:=by
   cases QS <;> simp_all[da]
  have Mq:∃ y,v.val? =some y:=by
   rcases hy with ⟨y,_,h⟩ | ⟨_,y,h,_⟩ <;> exact⟨y,h⟩
  obtain⟨y,hv⟩:=Mq
  refine fN rfl (bu e2) hK fun Pb Kb a w F hs=>⟨y,?_,tM hv⟩
  have hk:=bH hs hk
  have hm:=bH hs e4
  have h0:=hs.slot t0
  rw[e5]at h0
  have h0:R w Pb (.om NP g') [a.tmps.getD t0 undef] (F (.slot t0)):=h0
  obtain⟨hF,hc,Wo,en,cl,hb,QI,hnd,hcl⟩:=h0
  obtain⟨f1,f2⟩:=jt k NP en.toList 0 QI
  have R9:∀ e,(Instr.checkKey e 10000 kt (.string (Str k))).run P w=.ok () w:=fun e=>lL M7
  rcases hy with ⟨y',h1,h2⟩ | ⟨h1,y',h2,Us⟩
  rw[hv]at h2;obtain rfl:=Option.some.inj h2
  obtain⟨j,j1,_⟩:=f2 _ h1
  rw[show (⟨k.toArray⟩:ByteArray)=Str k from rfl]at j1
  simp[execOp,hm,hk,Instr.lookup,run_underlying hu,MapKept.run_getObj_map hb,R9,MapKept.run_findKey M7 j1,Result.andThen]
  rw[hv]at h2;obtain rfl:=Option.some.inj h2
  have j1:=f1 h1
  rw[show (⟨k.toArray⟩:ByteArray)=Str k from rfl]at j1
  simp[execOp,hm,hk,Instr.lookup,run_underlying hu,MapKept.run_getObj_map hb,R9,MapKept.run_findKey M7 j1,Result.andThen,Us]
  exact hp.elim
  exact hp.elim
  exact hp.elim
end
theorem Jr(H:List BL)(a:BL):(∃ y,bM (hE H) a=some y/\(iN (H.count a):V).val? =some y)\/(bM (hE H) a=none/\∃ y,(iN (H.count a):V).val? =some y/\∀ w,(zeroValue 3).run Tryz.prog w=.ok y w):=by
 have h:=yU H a
 by_cases e:a∈H
 rw[if_pos e]at h
 exact .inl ⟨_,h,rfl⟩
 rw[if_neg e]at h
 refine .inr ⟨h,.int .i64 0,by rw[List.count_eq_zero.2 e];rfl,fun w=>by kernel_rfl⟩
inductive Rc (w:List Pg) (n:BL) (S:BL->Prop):BL->Prop
 | QT {x:BL}:S x->aD x=true->SL w n x->Rc w n S x
 | step {a x:BL}:Rc w n S a->x∈eJ w a->SL w n x->Rc w n S x
theorem HQ{w:List Pg}{n:BL}{S S':BL->Prop}(h:∀ x,S x->S' x){x:BL}(hx:Rc w n S x):Rc w n S' x:=by
 induction hx with
 | QT h1 h2 h3=>exact .QT (h _ h1) h2 h3
 | step _ h2 h3 ih=>exact .step ih h2 h3
theorem BQ{l m:List BL}{i:Nat}(hs:∀ y,y∈l->y∈m)(hi:i<l.length):m.contains (l.getD i [])=true:=by
 rw[ZZ,ZR hi]
 simp only[Option.getD_some,List.contains_iff_mem]
 exact hs _ (List.getElem_mem hi)
abbrev gC(b:BL)(p:Nat)(g:Nat)(w:List Pg)(m:Nat)(e:List BL)(q:Nat)(u:Nat)(f:Nat)(k:Nat):Prop:=e.length+m<=3/\(∀ y,y∈e->y.length<=30/\m4 y)/\p<=q/\q+10*m<=p+40
def tS(b:BL)(p:Nat)(g:Nat)(w:List Pg):E7 Tryz.prog:=.mk (List BL×Nat) 23 [.ptr (.key 1000) [] g 0,bQ w] [(1000,(g,ak b p))] ((b.length<=2000)/\(p<=700000)/\(w.length<=30)/\(∀ y,y∈w->n7 y)) (fun x=>x.1.length<=4/\(∀ y,y∈x.1->y.length<=30/\m4 y)/\p<=x.2/\x.2<=p+60) (fun x=>ao x.1) (fun x=>[(1000,(g,ak b x.2))]) (by
 rintro⟨hb,hp,hw,hy⟩
 refine eK (N:=28) (rs:=[.tmp 4]) (X:=List BL×Nat) (post:=fun x=>x.1.length<=4/\(∀ y,y∈x.1->y.length<=30/\m4 y)/\p<=x.2/\x.2<=p+60) (E:=fun x=>.sl false (x.1.map sV)) (H':=fun x=>[(1000,(g,.agg [.sl false (b.map m7),iN x.2]))]) Tryz.func23 Z7 rfl rfl rfl Z7 [(1000,(0,.b7))] (by intro _ k hk;simpa[lk] using hk)
  (.q 1<|.bs<|.q 1<|.q 1<|.cx (aV b p g 3) [(1000,1000)] (fun (r5:Nat)=>.q 2<|.h (.H2 5 1)<|.loop (Nat×(List BL)×Nat×Nat×Nat×Nat) (fun (m,e,q,u,f,k)=>⟨[(0,.ptr (.key 1000) [] g 0),(1,bQ w),(5,.own 1 (e.map sV) u f k),(6,iN m)],[(1000,(g,ak b q))]⟩) (fun (m,e,q,u,f,k)=>gC b p g w m e q u f k) (fun (m,e,q,u,f,k)=>m) (fun (m,e,q,u,f,k)=>.q 2<|.br (.q 3<|.cx (sf b q g w) [(1000,1000)] (fun (Mo:BL×Nat)=>.bs<|.ap (fun g20 N5 Ou=>.h (.o4 20 (.own 1 ((e++[Mo.1]).map sV) g20 N5 Ou))<|.q 1<|.q 2<|.h (.o4 14 (iN (m-1)))<|.q 1<|.nil))) (.q 1<|.cx (aV b q g 12) [(1000,1000)] (fun (C7:Nat)=>.q 1<|.br (.q 1<|.bs<|.ap (fun T5 Ty Ub=>.h (.o4 26 (.own 1 ((e++[([120]:BL)]).map sV) T5 Ty Ub))<|.q 1<|.h (.fz 4)<|.h (.o4 4 (ao (e++[([120]:BL)])))<|.nil)) (.h (.fz 5)<|.h (.o4 5 (ao e))<|.q 2<|.nil))))))
  ((fun v1:BL=>((aV b p g 3).sm/\Er g (ak b p)/\((b.length<=2000)/\(p<=1000000)/\(3<=1000000))/\∀ r5:Nat,(3=0/\r5=0\/r5<3)->m6 (1+(r5:Int))/\(∃ x:Nat×(List BL)×Nat×Nat×Nat×Nat,match x with | (MX,C8,y8,G3,x9,r9)=>(gC b p g w MX C8 y8 G3 x9 r9)/\E (.ptr (.key 1000) [] g 0)/\E (bQ w)/\Q (.own 1 ([].map sV) 0 0 0) (.own 1 (C8.map sV) G3 x9 r9)/\Q (iN (1+r5)) (iN MX)/\Qr g (ak b (p+1)) g (ak b y8)/\True)/\∀ x:Nat×(List BL)×Nat×Nat×Nat×Nat,match x with | (m,e,q,u,f,k)=>(gC b p g w m e q u f k)->Br (s7 (m:Int) 0) ((sf b q g w).sm/\Er g (ak b q)/\((b.length<=2000)/\(q<=800000)/\(w.length<=30)/\(∀ y,y∈w->n7 y))/\∀ Mo:BL×Nat,(Mo.1.length<=30/\q<=Mo.2/\Mo.2<=q+8/\m4 Mo.1)->(fun v2:List V=>((1,1,u,f,k,(e.map sV).length)=(1,1,u,f,k,(e.map sV).length))/\(True)/\(V.ay v2=false)/\(aC 1 v2)/\(((e.map sV).length+v2.length)*16<=140737488355328)/\∀ g20 N5 Ou:Nat,((.own 1 ((e.map sV)++v2) g20 N5 Ou:V)=.own 1 ((e++[Mo.1]).map sV) g20 N5 Ou)/\m6 ((m:Int)-1)/\Q (iV ((m:Int)-1)) (iN (m-1))/\∃ x:Nat×(List BL)×Nat×Nat×Nat×Nat,match x with | (m₂,w3,n9,A6,o9,k₂)=>(gC b p g w m₂ w3 n9 A6 o9 k₂)/\(m₂<m)/\E (.ptr (.key 1000) [] g 0)/\E (bQ w)/\Q (.own 1 ((e++[Mo.1]).map sV) g20 N5 Ou) (.own 1 (w3.map sV) A6 o9 k₂)/\Q (iN (m-1)) (iN m₂)/\Qr g (ak b Mo.2) g (ak b n9)/\True) ([sV Mo.1]:List V)) ((aV b q g 12).sm/\Er g (ak b q)/\((b.length<=2000)/\(q<=1000000)/\(12<=1000000))/\∀ C7:Nat,(12=0/\C7=0\/C7<12)->Br (o6 (C7:Int) 0) (((1,1,u,f,k,(e.map sV).length)=(1,1,u,f,k,(e.map sV).length))/\(True)/\(V.ay ([sV v1]:List V)=false)/\(aC 1 ([sV v1]:List V))/\(((e.map sV).length+([sV v1]:List V).length)*16<=140737488355328)/\∀ T5 Ty Ub:Nat,((.own 1 ((e.map sV)++([sV v1]:List V)) T5 Ty Ub:V)=.own 1 ((e++[v1]).map sV) T5 Ty Ub)/\((.sl false (V.D5 ((e++[v1]).map sV)):V)=ao (e++[v1]))/\∃ x:List BL×Nat,(x.1.length<=4/\(∀ y,y∈x.1->y.length<=30/\m4 y)/\p<=x.2/\x.2<=p+60)/\Q (ao (e++[v1])) (ao x.1)/\Qr g (ak b (q+1)) g (ak b x.2)) (((.sl false (V.D5 (e.map sV)):V)=ao e)/\∃ x:List BL×Nat,(x.1.length<=4/\(∀ y,y∈x.1->y.length<=30/\m4 y)/\p<=x.2/\x.2<=p+60)/\Q (ao e) (ao x.1)/\Qr g (ak b (q+1)) g (ak b x.2))))) ([120]:BL))
  Z7 ?_
 refine⟨rfl,rfl,⟨Z9,Z9,Z9⟩,?_⟩
 intro r5 MB
 refine⟨Z9,?_⟩
 refine⟨⟨(1+r5,[],p+1,0,0,0),?_,rfl,rfl,rfl,rfl,rfl,trivial⟩,?_⟩
 unfold gC
 exact⟨Z0,Z8,Z9,Z9⟩
 rintro⟨m,e,q,u,f,k⟩ ⟨h1,h2,h3,h4⟩
 refine bI (fun j7=>?_) fun j7=>?_
 refine⟨rfl,rfl,⟨Z9,Z9,Z9,hy⟩,?_⟩
 intro Mo RT
 refine⟨rfl,trivial,rfl,by simp[aC,V.n,V.ns],Z0,?_⟩
 intro g20 N5 Ou
 refine⟨Zo (V.own 1 · g20 N5 Ou) Z8,Z9,by simp[Q];omega,?_⟩
 refine⟨(m-1,e++[Mo.1],Mo.2,g20,N5,Ou),?_,?_,rfl,rfl,rfl,rfl,rfl,trivial⟩
 unfold gC
 exact⟨Z0,fE h2 ⟨RT.1,RT.2.2.2⟩,Z9,Z9⟩
 exact Z1
 refine⟨rfl,rfl,⟨Z9,Z9,Z9⟩,?_⟩
 intro C7 P3
 refine bI (fun l4=>?_) fun l4=>?_
 refine⟨rfl,trivial,rfl,by simp[aC,V.n,V.ns],Z0,?_⟩
 intro T5 Ty Ub
 refine⟨Zo (V.own 1 · T5 Ty Ub) Z8,Zo (V.sl false) (aM (fun _=>rfl) _),?_⟩
 refine⟨(e++[([120]:BL)],q+1),?_,?_,?_⟩
 try dsimp only
 exact⟨Z0,fE h2 ⟨Z8,bn rfl⟩,Z9,Z9⟩
 first | rfl | simp_all
 first | rfl | exact⟨rfl,rfl⟩ | simp_all
 refine⟨Zo (V.sl false) (aM (fun _=>rfl) _),?_⟩
 refine⟨(e,q+1),?_,?_,?_⟩
 try dsimp only
 exact⟨Z9,h2,Z9,Z9⟩
 first | rfl | simp_all
 first | rfl | exact⟨rfl,rfl⟩ | simp_all)
def lN(b:BL):E7 Tryz.prog:=.mk (List Pg×BL×List BL) 8 [gK b] [] (b.length<=9223372036854775807) (fun x=>1<=x.1.length/\x.1.length<=30/\(∀ y,y∈x.1->n7 y)/\x.2.1.length<=5/\bp x.2.1=true/\x.2.2.length<=4/\(∀ y,y∈x.2.2->y.length<=30/\m4 y)) (fun x=>.tup [bQ x.1,sV x.2.1,ao x.2.2]) (fun x=>[]) (by
 intro hb
 refine eK (N:=17) (rs:=[.tmp 2,.tmp 3,.tmp 4]) (X:=List Pg×BL×List BL) (post:=fun x=>1<=x.1.length/\x.1.length<=30/\(∀ y,y∈x.1->n7 y)/\x.2.1.length<=5/\bp x.2.1=true/\x.2.2.length<=4/\(∀ y,y∈x.2.2->y.length<=30/\m4 y)) (E:=fun x=>.tup [.sl false (x.1.map r4),sV x.2.1,.sl false (x.2.2.map sV)]) (H':=fun x=>[]) Tryz.func8 Z7 rfl rfl rfl Z7 [] (by intro _ k hk;simpa[lk] using hk)
  (.q 3<|.q 1<|.cx (yv b) [(1000,8)] (fun (l3:BL×Nat)=>.q 1<|.q 1<|.cx (yw l3.1 0 l3.2) [(1000,8)] (fun (r5:List Pg×Nat)=>.q 1<|.h (.fz 6)<|.h (.o4 6 (bQ r5.1))<|.q 2<|.cx (vV l3.1 r5.2 l3.2) [(1000,8)] (fun (I7:BL)=>.q 2<|.cx (tS l3.1 (r5.2+1) l3.2 r5.1) [(1000,8)] (fun (NT:List BL×Nat)=>.q 3<|.nil)))))
  ((yv b).sm/\((b.length<=9223372036854775807))/\∀ l3:BL×Nat,(l3.1.length<=2000)->(yw l3.1 0 l3.2).sm/\Er l3.2 (.agg [gK l3.1,iN 0])/\((l3.1.length<=2000)/\(0<=600000))/\∀ r5:List Pg×Nat,(1<=r5.1.length/\r5.1.length<=30/\(∀ y,y∈r5.1->n7 y)/\0<=r5.2/\r5.2<=0+1600)->((.sl false (V.D5 (r5.1.map r4)):V)=bQ r5.1)/\(vV l3.1 r5.2 l3.2).sm/\Er l3.2 (ak l3.1 r5.2)/\((l3.1.length<=2000)/\(r5.2<=900000))/\∀ I7:BL,(I7.length<=5/\bp I7=true)->(tS l3.1 (r5.2+1) l3.2 r5.1).sm/\Er l3.2 (ak l3.1 (r5.2+1))/\((l3.1.length<=2000)/\((r5.2+1)<=700000)/\(r5.1.length<=30)/\(∀ y,y∈r5.1->n7 y))/\∀ NT:List BL×Nat,(NT.1.length<=4/\(∀ y,y∈NT.1->y.length<=30/\m4 y)/\(r5.2+1)<=NT.2/\NT.2<=(r5.2+1)+60)->∃ x:List Pg×BL×List BL,(1<=x.1.length/\x.1.length<=30/\(∀ y,y∈x.1->n7 y)/\x.2.1.length<=5/\bp x.2.1=true/\x.2.2.length<=4/\(∀ y,y∈x.2.2->y.length<=30/\m4 y))/\Q (.tup [bQ r5.1,sV I7,ao NT.1]) (.tup [bQ x.1,sV x.2.1,ao x.2.2]))
  Z7 ?_
 refine⟨rfl,Z5,?_⟩
 intro l3 G5
 refine⟨rfl,rfl,⟨Z5,Z5⟩,?_⟩
 intro r5 MB
 refine⟨Zo (V.sl false) (aM (fun _=>rfl) _),rfl,rfl,⟨Z5,Z5⟩,?_⟩
 intro I7 OX
 refine⟨rfl,rfl,⟨Z9,Z9,Z9,MB.2.2.1⟩,?_⟩
 intro NT RU
 refine⟨(r5.1,I7,NT.1),?_,?_⟩
 try dsimp only
 exact⟨Z9,Z9,MB.2.2.1,Z9,OX.2,RU.1,RU.2.1⟩
 first | rfl | simp_all)
def zL(l:List BL)(y:BL):o8 Tryz.prog:=.mk 14 [ao l,sV y] [] (l.length<=1000000) (bV (l.contains y)) [] (by
 intro hl
 refine aq (N:=18) (rs:=[.tmp 4]) Tryz.func14
  (.q 1<|.q 1<|.loop (Nat) (fun (i:Nat)=>⟨[(0,ao l),(1,sV y),(5,iN i)],[]⟩) (fun (i:Nat)=>i<=l.length/\∀ j,j<i->(l.getD j []==y)=false) (fun (i:Nat)=>l.length-i) (fun (i:Nat)=>.q 4<|.br (.r 6 [sV (l.getD i [])]<|.br (.q 1<|.nil) (.q 3<|.nil)) (.q 1<|.nil)))
  ((∃ h9:Nat,(h9<=l.length/\∀ j,j<h9->(l.getD j []==y)=false)/\E (ao l)/\E (sV y)/\Q (iN 0) (iN h9)/\True)/\∀ i:Nat,(i<=l.length/\∀ j,j<i->(l.getD j []==y)=false)->Br (s4 (i:Int) (((l.map sV).length:Nat):Int)) (Ex (i:Int) (l.map sV) (sV (l.getD i []))/\True/\Br ((l.getD i [])==y) (Q (bV true) (bV (l.contains y))) (m6 ((i:Int)+1)/\∃ b9:Nat,(b9<=l.length/\∀ j,j<b9->(l.getD j []==y)=false)/\(l.length-b9<l.length-i)/\E (ao l)/\E (sV y)/\Q (iN (i+1)) (iN b9)/\True)) (Q (bV false) (bV (l.contains y)))) ?_
 refine⟨⟨0,?_,rfl,rfl,rfl,trivial⟩,?_⟩
 simp
 rintro i ⟨h1,h2⟩
 refine bI (fun j7=>?_) fun j7=>?_
 refine⟨⟨Z9,aj (d:=[]) Z9⟩,trivial,?_⟩
 refine bI (fun l4=>?_) fun l4=>?_
 unfold Q
 rw[JE (i:=i) Z9 l4]
 refine⟨Z9,?_⟩
 refine⟨i+1,?_,?_,rfl,rfl,rfl,trivial⟩
 exact⟨Z9,bE h2 (by simpa using l4)⟩
 exact Z1
 unfold Q
 rw[Km (fun j hj=>by have:=h2 j Z9;simpa using this)])
def lj(l:List BL)(m:List BL):o8 Tryz.prog:=.mk 13 [ao l,ao m] [] ((l.length<=1000000)/\(m.length<=1000000)/\(∀ y,y∈l->y∈m)) (bV true) [] (by
 rintro⟨hl,hm,hs⟩
 refine aq (N:=19) (rs:=[.tmp 4]) Tryz.func13
  (.q 1<|.q 1<|.loop (Nat) (fun (i:Nat)=>⟨[(0,ao l),(1,ao m),(5,iN i)],[]⟩) (fun (i:Nat)=>i<=l.length) (fun (i:Nat)=>l.length-i) (fun (i:Nat)=>.q 4<|.br (.r 5 [sV (l.getD i [])]<|.c (zL m (l.getD i [])) []<|.q 1<|.br (.q 1<|.nil) (.q 3<|.nil)) (.q 1<|.nil)))
  ((∃ h9:Nat,(h9<=l.length)/\E (ao l)/\E (ao m)/\Q (iN 0) (iN h9)/\True)/\∀ i:Nat,(i<=l.length)->Br (s4 (i:Int) (((l.map sV).length:Nat):Int)) (Ex (i:Int) (l.map sV) (sV (l.getD i []))/\True/\(zL m (l.getD i [])).sm/\((m.length<=1000000))/\Br (!(m.contains (l.getD i []))) (Q (bV false) (bV true)) (m6 ((i:Int)+1)/\∃ b9:Nat,(b9<=l.length)/\(l.length-b9<l.length-i)/\E (ao l)/\E (ao m)/\Q (iN (i+1)) (iN b9)/\True)) (Q (bV true) (bV true))) ?_
 refine⟨⟨0,?_,rfl,rfl,rfl,trivial⟩,?_⟩
 simp
 rintro i h1
 refine bI (fun j7=>?_) fun j7=>?_
 refine⟨⟨Z9,aj (d:=[]) Z9⟩,trivial,rfl,Z5,?_⟩
 refine bI (fun l4=>?_) fun l4=>?_
 exact absurd l4 (by rw[BQ hs Z9];decide)
 refine⟨Z9,?_⟩
 refine⟨i+1,?_,?_,rfl,rfl,rfl,trivial⟩
 omega
 exact Z1
 unfold Q
 rfl)
structure u0 where
 ad:BL
 tr:Int
structure j9 where
 na:BL
 re:Int
 kn:Bool
 gr:k9
 tr:Int
 td:List u0
structure l9 where
 ti:Int
 ad:BL
 ki:Int
structure l5 where
 na:BL
 a7:Int
 hs:List j9
 se:List BL
 lk:List l9
def e9:j9:=⟨[],0,false,⟨[],[],0⟩,0,[]⟩
def j8:u0:=⟨[],0⟩
def n6:l9:=⟨0,[],0⟩
def cf(d n:BL):j9:=⟨d,0,false,⟨[n],[],0⟩,0,[]⟩
def w9(hs:List j9)(d:BL):Nat:=hs.findIdx fun h=>h.na==d
def aL(hs:List j9)(d n:BL):List j9:=if w9 hs d<hs.length then hs else hs++[cf d n]
def pathOf(s:BL):BL:=bD (oA (aA s))
def af(s:BL):BL:=(oA (aA s)).c9
def cL(h:j9)(s:BL):j9:=if h.kn=true/\bh h.gr.ru (pathOf s)=false then h else { h with td:=h.td++[⟨s,0⟩] }
def ej(se:List BL)(s:BL):Prop:=aD s=true/\se.length<60/\s ∉ se
instance (se:List BL) (s:BL):Decidable (ej se s):=by unfold ej;infer_instance
def df(se:List BL)(s:BL):List BL:=if ej se s then se++[s] else se
def bg(n:BL)(hs:List j9)(se:List BL)(s:BL):List j9:=
 if ej se s then (aL hs (af s) n).set (w9 hs (af s)) (cL ((aL hs (af s) n).getD (w9 hs (af s)) e9) s) else hs
def aE(t:l5)(s:BL):l5:={ t with se:=df t.se s,hs:=bg t.na t.hs t.se s }
theorem ff(hs:List j9)(d n:BL):w9 hs d<(aL hs d n).length:=by
 unfold aL
 split
 assumption
 rename_i h
 have:w9 hs d<=hs.length:=List.findIdx_le_length
 simp only[ZW,ZU,ZQ];omega
theorem rW(hs:List j9)(d n:BL):(aL hs d n).length<=hs.length+1:=by
 unfold aL
 split <;> simp
def oT(o:Option l5):l5:=o.getD ⟨[],0,[],[],[]⟩
def aS(n:BL):l5:=⟨n,0,[],[],[]⟩
def aN(n:BL)(c5:List BL):Option l5:=if bp n=true/\c5.length<=12 then some (c5.foldl aE (aS n)) else none
structure QB (n:BL) (k:Nat) (t:l5):Prop where
 na:t.na=n
 a7:t.a7=0
 lk:t.lk=[]
 hl:t.hs.length<=k
 sl:t.se.length<=k
 hs:∀ y,y∈t.hs->y.kn=false/\y.gr=⟨[n],[],0⟩/\y.td.length<=k/\y.re=0/\y.tr=0
theorem eB{α:Type}{l:List α}{i:Nat}{a y:α}(h:y∈l.set i a):y=a\/y∈l:=by
 rcases List.mem_or_eq_of_mem_set h with h | h
 exact .inr h
 exact .inl h
theorem FZ{n s:BL}{k:Nat}{t:l5}(h:QB n k t):QB n (k+1) (aE t s):=by
 have hin:∀ d y,y∈aL t.hs d t.na->y.kn=false/\y.gr=⟨[n],[],0⟩/\y.td.length<=k/\y.re=0/\y.tr=0:=fun d y hy=>by
  unfold aL at hy
  split at hy
  exact h.hs y hy
  rcases ZN.1 hy with hy | hy
  exact h.hs y hy
  rw[ZP.1 hy,h.na];simp[cf]
 refine⟨h.na,h.a7,h.lk,?_,?_,fun y hy=>?_⟩
 show (bg t.na t.hs t.se s).length<=k+1
 unfold bg
 split
 have:=rW t.hs (af s) t.na
 have:=h.hl
 rw[List.length_set];omega
 have:=h.hl;omega
 show (df t.se s).length<=k+1
 unfold df
 have:=h.sl
 split
 simp;omega
 omega
 have hy:y∈bg t.na t.hs t.se s:=hy
 unfold bg at hy
 split at hy
 rcases eB hy with e | hy
 have hm:(aL t.hs (af s) t.na).getD (w9 t.hs (af s)) e9∈aL t.hs (af s) t.na:=by
  rw[ZZ,ZR (ff ..)];exact List.getElem_mem _
 obtain⟨a1,a2,a3,a4,a5⟩:=hin _ _ hm
 rw[e]
 unfold cL
 rw[if_neg (fun c=>by rw[a1]at c;cases c.1)]
 exact⟨a1,a2,by simp only[ZW,ZU,ZQ];omega,a4,a5⟩
 obtain⟨a1,a2,a3,a4,a5⟩:=hin _ _ hy
 exact⟨a1,a2,Z9,a4,a5⟩
 obtain⟨a1,a2,a3,a4,a5⟩:=h.hs y hy
 exact⟨a1,a2,Z9,a4,a5⟩
theorem jJ(n:BL):∀ (l:List BL) {k:Nat} {t:l5},QB n k t->QB n (k+l.length) (l.foldl aE t)
 | [],k,t,h=>h
 | a::r,k,t,h=>by
   have:=jJ n r (FZ (s:=a) h)
   rw[show k+(a::r).length=k+1+r.length from Z0]
   exact this
theorem kB(n:BL):QB n 0 (aS n):=⟨rfl,rfl,rfl,by simp[aS],by simp[aS],fun y hy=>by simp[aS]at hy⟩
def dm(k:Int):Int:=if k=1 then 2 else if k=2 then 4 else if k=3 then 8 else 0
def nD(a7:Int)(x:Int×Int)(p:Nat×j9):Int×Int:=
 if p.2.td≠[]/\(x.1<0\/max p.2.re a7<x.2) then (p.1,max p.2.re a7) else x
def I9(t:l5)(i:Nat):Int×Int:=((t.hs.zipIdx.take i).map fun p=>(p.2,p.1)).foldl (nD t.a7) (-1,0)
def iD(t:l5):Option (Nat×Int):=
 if (I9 t t.hs.length).1<0\/5000<(I9 t t.hs.length).2 then none else some ((I9 t t.hs.length).1.toNat,(I9 t t.hs.length).2)
def dG(h:j9)(a7:Int)(k n:Int):j9:={ h with re:=a7+max (h.gr.wa:Int) 1+(if k=3 then dm (n+1) else 0) }
def yi(s:BL)(k:Int)(x:BL):List BL:=if k=1 then bf (oA (aA s)) x else if k=2 then [x] else []
def cR(h:j9)(se:List BL):Bool:=
 decide (h.td.length<=se.length)&&(h.td.all fun it=>aD it.ad&&(af it.ad==h.na)&&se.contains it.ad&&z8 it.tr 0 2)&&decide (h.td.map (·.ad)).Nodup
def cZ(h:j9)(n:BL):Bool:=
 ck h.na&&z8 h.re 0 5100&&z8 h.tr 0 2&&(h.gr.na==[n])&&
  (if h.kn=true then decide (h.gr.ru.length<=40)&&(h.gr.ru.all fun r=>aZ r.path)&&z8 h.gr.wa 0 20 else decide (h.gr.ru=[]/\h.gr.wa=0))
def cP(lk:List l9)(a7:Int):Bool:=
 decide (lk.length<=400)&&((List.range lk.length).all fun i=>decide ((if i=0 then 0 else (lk.getD (i-1) n6).ti)<=(lk.getD i n6).ti)&&decide ((lk.getD i n6).ti<=a7)&&z8 (lk.getD i n6).ki 0 3&&aD (lk.getD i n6).ad)
def cN(se:List BL):Bool:=decide (se.length<=60)&&decide se.Nodup&&se.all aD
def aQ(t:l5):Bool:=bp t.na&&z8 t.a7 0 5000&&cN t.se&&cP t.lk t.a7&&(t.hs.all fun h=>cZ h t.na&&cR h t.se)&&decide (t.hs.map (·.na)).Nodup
structure QC (h:j9):Prop where
 n:h.na.length<=1000
 r:h.gr.ru.length<=1000
 rp:∀ i,(h.gr.ru.getD i ⟨false,[]⟩).path.length<=1000
 g:h.gr.na.length<=1000
 t:h.td.length<=1000
 ta:∀ x,x∈h.td->x.ad.length<=1000/\m4 x.ad
structure D2 (t:l5):Prop where
 n:t.na.length<=1000
 h:t.hs.length<=1000
 s:t.se.length<=1000
 l:t.lk.length<=1000
 sa:∀ x,x∈t.se->x.length<=1000/\m4 x
 la:∀ x,x∈t.lk->x.ad.length<=1000/\m4 x.ad
 ha:∀ x,x∈t.hs->QC x
abbrev ag(x:u0):V:=.agg [sV x.ad,iV x.tr]
abbrev aX(x:l9):V:=.agg [iV x.ti,sV x.ad,iV x.ki]
abbrev aw(h:j9):V:=.agg [sV h.na,iV h.re,bV h.kn,bB h.gr,iV h.tr,.ow 2 (h.td.map ag)]
abbrev bY(h:j9):V:=.agg [sV h.na,iV h.re,bV h.kn,bB h.gr,iV h.tr,.sl false (h.td.map ag)]
abbrev wB(t:l5):V:=.agg [sV t.na,iV t.a7,.ow 8 (t.hs.map aw),.ow 1 (t.se.map sV),.ow 3 (t.lk.map aX)]
abbrev fV(p0:List l9):V:=.sl false (p0.map aX)
abbrev mH(p0:List u0):V:=.sl false (p0.map ag)
abbrev eN(p0:BL)(p1:Int)(p2:List j9)(p3:List BL)(p4:List l9):V:=.agg [sV p0,iV p1,.sl false (p2.map bY),.sl false (p3.map sV),.sl false (p4.map aX)]
abbrev iu(p0:BL)(p1:Int)(p2:Bool)(p3:List BL)(p4:List s5)(p5:Nat)(p6:Int)(p7:List u0):V:=.agg [sV p0,iV p1,bV p2,.agg [.sl false (p3.map sV),.sl false (p4.map an),iN p5],iV p6,.sl false (p7.map ag)]
theorem Kl(H:List BL)(a:BL):(hE (H++[a])).length=(hE H).length+(if a∈H then 0 else 1):=by
 rw[<- zY,uM,yU]
 by_cases h:a∈H
 rw[if_pos h,if_pos h,if_neg Z8];rfl
 rw[if_neg h,if_neg h,if_pos rfl]
theorem FD(H:List BL):(hE H).length=H.length↔H.Nodup:=by
 have key:∀ n,∀ H:List BL,H.length=n->(hE H).length<=H.length/\((hE H).length=H.length↔H.Nodup):=by
  intro n
  induction n with
  | zero=>
    intro H h
    obtain rfl:=ZF h
    exact⟨Zy _,by simp[hE]⟩
  | succ n ih=>
    intro H h
    obtain⟨L,a,rfl⟩:∃ L a,H=L++[a]:=⟨H.dropLast,H.getLast (by intro c;rw[c]at h;cases h),(List.dropLast_concat_getLast _).symm⟩
    simp only[ZW,ZU,ZQ]at h
    obtain⟨h1,h2⟩:=ih L Z9
    rw[Kl]
    simp only[ZW,ZU,ZQ]
    rw[List.nodup_append]
    by_cases c:a∈L
    rw[if_pos c]
    exact⟨Z9,Z9,fun hn=>absurd rfl (hn.2.2 a c a Z8)⟩
    rw[if_neg c]
    refine⟨Z9,fun e=>⟨h2.1 Z9,Z8,fun x hx y hy=>?_⟩,fun hn=>by have:=h2.2 hn.1;omega⟩
    rintro rfl
    exact c (by simpa using(ZP.1 hy) ▸ hx)
 exact(key _ H rfl).2
theorem wD{α:Type}{p:α->Bool}{d:α}{l:List α}(h:∀ j,j<l.length->p (l.getD j d)=true):l.all p=true:=by
 rw[ZI]
 intro x hx
 obtain⟨j,hj,rfl⟩:=Zu.1 hx
 have:=h j hj
 rwa [ZZ,ZR hj]at this
theorem wi{α:Type}{p:α->Bool}{d:α}{l:List α}{i:Nat}(hi:i<l.length)(h:p (l.getD i d)=false):l.all p=false:=by
 rw[ZZ,ZR hi]at h
 rw[Bool.eq_false_iff]
 intro c
 rw[ZI]at c
 have:=c _ (List.getElem_mem hi)
 simp only[Option.getD_some]at h
 rw[h]at this;cases this
theorem oM{l:List BL}{i:Nat}(h:i<l.length):l.getD i []∈l:=by
 rw[ZZ,ZR h];exact List.getElem_mem h
theorem aI{α:Type}{l:List α}{d:α}{i:Nat}(h:i<l.length):l.getD i d∈l:=by
 rw[ZZ,ZR h];exact List.getElem_mem h
theorem Co{l:List BL}(h:60<(l.length:Int)\/¬ l.Nodup):cN l=false:=by
 unfold cN
 rcases h with h | h
 rw[decide_eq_false Z9];rfl
 rw[decide_eq_false h];simp
theorem BE{l:List BL}{i:Nat}(hi:i<l.length)(h:aD (l.getD i [])=false):cN l=false:=by
 unfold cN
 rw[wi hi h];simp
theorem FJ{l:List BL}(h:(l.length:Int)<=60/\l.Nodup)(h2:∀ j,j<l.length->aD (l.getD j [])=true):cN l=true:=by
 unfold cN
 rw[wD h2,decide_eq_true h.2,decide_eq_true Z9];rfl
def mJ(lk:List l9)(a7:Int)(i:Nat):Bool:=decide ((if i=0 then 0 else (lk.getD (i-1) n6).ti)<=(lk.getD i n6).ti)&&decide ((lk.getD i n6).ti<=a7)&&z8 (lk.getD i n6).ki 0 3&&aD (lk.getD i n6).ad
theorem Bi{lk:List l9}{a7:Int}(h:400<(lk.length:Int)):cP lk a7=false:=by
 unfold cP;rw[decide_eq_false Z9];rfl
theorem sA{lk:List l9}{a7:Int}{i:Nat}(hi:i<lk.length)(h:mJ lk a7 i=false):cP lk a7=false:=by
 unfold cP
 rw[Bool.and_eq_false_iff]
 right
 rw[Bool.eq_false_iff]
 intro c
 rw[ZI]at c
 have:=c i (List.mem_range.2 hi)
 unfold mJ at h
 rw[h]at this;cases this
theorem Ci{lk:List l9}{a7:Int}(h:(lk.length:Int)<=400)(h2:∀ j,j<lk.length->mJ lk a7 j=true):cP lk a7=true:=by
 unfold cP
 rw[decide_eq_true Z9,Bool.true_and,ZI]
 exact fun i hi=>h2 i (List.mem_range.1 hi)
theorem JJ{lk:List l9}{a7 la:Int}{i:Nat}(h2:la=if i=0 then 0 else (lk.getD (i-1) n6).ti)(h3:z8 (lk.getD i n6).ti la a7=true/\z8 (lk.getD i n6).ki 0 3=true)(h4:aD (lk.getD i n6).ad=true):mJ lk a7 i=true:=by
 unfold mJ
 rw[<- h2,h3.2,h4]
 have:=h3.1
 unfold z8 at this
 rw[Zq]at this
 rw[decide_eq_true this.1,decide_eq_true this.2];rfl
theorem Hi{lk:List l9}{a7 la:Int}{i:Nat}(h2:la=if i=0 then 0 else (lk.getD (i-1) n6).ti)(h3:z8 (lk.getD i n6).ti la a7=false\/z8 (lk.getD i n6).ki 0 3=false):mJ lk a7 i=false:=by
 unfold mJ
 rw[<- h2]
 rcases h3 with h | h
 unfold z8 at h
 rw[Bool.decide_and]at h
 rw[h];rfl
 rw[h];simp
theorem IA{lk:List l9}{a7:Int}{i:Nat}(h:aD (lk.getD i n6).ad=false):mJ lk a7 i=false:=by
 unfold mJ;rw[h];simp
theorem Gr{l:List BL}{n:BL}(h:(l.length:Int)=1/\l.getD 0 []=n):l=[n]:=by
 obtain⟨h1,h2⟩:=h
 match l,h1 with
 | [x],_=>rw[<- h2];rfl
theorem Hq{h:j9}{n:BL}(hb:(ck h.na=false\/z8 h.re 0 5100=false)\/z8 h.tr 0 2=false):cZ h n=false:=by
 unfold cZ
 rcases hb with (e | e) | e <;> rw[e] <;> simp
theorem HR{h:j9}{n:BL}(hb: ¬ (h.gr.na.length:Int)=1\/¬ h.gr.na.getD 0 []=n):cZ h n=false:=by
 unfold cZ
 rw[show (h.gr.na==[n])=false from by rw[beq_eq_false_iff_ne];intro c;rw[c]at hb;simp at hb]
 simp
theorem Il{h:j9}{n:BL}(h1:(ck h.na=true/\z8 h.re 0 5100=true)/\z8 h.tr 0 2=true)(h2:(h.gr.na.length:Int)=1/\h.gr.na.getD 0 []=n)(h3:h.kn=false):cZ h n=(o6 (h.gr.ru.length:Int) 0&&o6 (h.gr.wa:Int) 0):=by
 unfold cZ
 rw[h1.1.1,h1.1.2,h1.2,Gr h2,h3]
 rw[ZE]
 simp
theorem Ht{h:j9}{n:BL}(h1:(ck h.na=true/\z8 h.re 0 5100=true)/\z8 h.tr 0 2=true)(h2:(h.gr.na.length:Int)=1/\h.gr.na.getD 0 []=n)(h3:h.kn=true):cZ h n=((C6 (h.gr.ru.length:Int) 40&&(h.gr.ru.all fun r=>aZ r.path))&&z8 (h.gr.wa:Int) 0 20):=by
 unfold cZ
 rw[h1.1.1,h1.1.2,h1.2,Gr h2,h3]
 simp
 congr 2
 rw[ZE];simp;omega
def P0(h:j9)(se:List BL)(it:u0):Bool:=aD it.ad&&(af it.ad==h.na)&&se.contains it.ad&&z8 it.tr 0 2
theorem Lj{h:j9}{se:List BL}{it:u0}(h1:((ar it.ad).isSome=true/\(oA (ar it.ad)).c9=h.na)/\se.contains it.ad=true)(h2:z8 it.tr 0 2=true):P0 h se it=true:=by
 unfold P0 af
 have h3:=h1.1.1
 rw[fQ]at h3
 have h4:=h1.1.2
 rw[show ar it.ad=aA it.ad from if_pos h3]at h4
 rw[h3,h4,h1.2,h2];simp
theorem Ja{h:j9}{se:List BL}{it:u0}(h1:((ar it.ad).isSome=false\/¬ (oA (ar it.ad)).c9=h.na)\/se.contains it.ad=false):P0 h se it=false:=by
 unfold P0 af
 by_cases h3:aD it.ad=true
 rw[fQ,show ar it.ad=aA it.ad from if_pos h3]at h1
 rcases h1 with (e | e) | e
 rw[e]at h3;cases h3
 rw[beq_eq_false_iff_ne.2 e];simp
 rw[e];simp
 rw[Bool.not_eq_true]at h3
 rw[h3];simp
theorem JX{h:j9}{se:List BL}{it:u0}(h1:z8 it.tr 0 2=false):P0 h se it=false:=by
 unfold P0;rw[h1];simp
theorem Dc{h:j9}{se:List BL}(e:(se.length:Int)<(h.td.length:Int)):cR h se=false:=by
 unfold cR;rw[decide_eq_false Z9];rfl
theorem vx{h:j9}{se:List BL}{i:Nat}(hi:i<h.td.length)(e:P0 h se (h.td.getD i j8)=false):cR h se=false:=by
 show (decide (h.td.length<=se.length)&&h.td.all (P0 h se)&&decide (h.td.map (·.ad)).Nodup)=false
 rw[wi (d:=j8) hi e];simp
theorem CP{h:j9}{se:List BL}(e:(h.td.length:Int)<=(se.length:Int))(e2:∀ j,j<h.td.length->P0 h se (h.td.getD j j8)=true):cR h se=decide (h.td.map (·.ad)).Nodup:=by
 show (decide (h.td.length<=se.length)&&h.td.all (P0 h se)&&decide (h.td.map (·.ad)).Nodup)=_
 rw[wD (d:=j8) e2,decide_eq_true Z9];simp
theorem Ey{t:l5}(h:bp t.na=false\/z8 t.a7 0 5000=false):aQ t=false:=by
 unfold aQ;rcases h with e | e <;> rw[e] <;> simp
theorem ED{t:l5}(h:cN t.se=false\/cP t.lk t.a7=false):aQ t=false:=by
 unfold aQ;rcases h with e | e <;> rw[e] <;> simp
theorem Fz{t:l5}{i:Nat}(hi:i<t.hs.length)(h:cZ (t.hs.getD i e9) t.na=false\/cR (t.hs.getD i e9) t.se=false):aQ t=false:=by
 unfold aQ
 rw[wi (p:=fun h=>cZ h t.na&&cR h t.se) (d:=e9) hi (by rcases h with e | e <;> rw[e] <;> simp)];simp
theorem Ea{t:l5}(h1:bp t.na=true/\z8 t.a7 0 5000=true)(h2:cN t.se=true/\cP t.lk t.a7=true)(h3:∀ j,j<t.hs.length->(cZ (t.hs.getD j e9) t.na&&cR (t.hs.getD j e9) t.se)=true):aQ t=decide (t.hs.map (·.na)).Nodup:=by
 unfold aQ
 rw[h1.1,h1.2,h2.1,h2.2,wD (p:=fun h=>cZ h t.na&&cR h t.se) (d:=e9) h3];simp
def dc(a:Int)(x:Int)(b:Int):o8 Tryz.prog:=.mk 32 [iV a,iV x,iV b] [] True (bV (z8 x a b)) [] (by
 intro _
 refine aq (N:=15) (rs:=[.tmp 6]) Tryz.func32
  (.q 1<|.q 9<|.nil)
  (Pk (C6 a x) ((C6 a x)==true) true/\Q (bV ((C6 a x)&&(C6 x b))) (bV (z8 x a b))) ?_
 refine⟨⟨fun h=>by rw[h] <;> rfl,fun _=>rfl⟩,?_⟩
 unfold Q
 refine Zo bV ?_
 unfold z8
 exact(Bool.decide_and ..).symm)
def iT(l:List BL):o8 Tryz.prog:=.mk 56 [ao l] [] (l.length<=1000000) (bV (decide l.Nodup)) [] (by
 intro hl
 refine aq (N:=23) (rs:=[.tmp 2]) Tryz.func56
  (.q 1<|.cu Vl (fun g6=>.q 1<|.q 3<|.loop (Nat×Nat) (fun (i,gm)=>⟨[(0,ao l),(3,.om (hE (l.take i)) gm),(7,ao l),(8,iN l.length),(9,iN i)],[]⟩) (fun (i,gm)=>i<=l.length) (fun (i,gm)=>l.length-i) (fun (i,gm)=>.q 1<|.br (.r 3 [sV (l.getD i [])]<|.q 2<|.cu (Xi 3 (hE (l.take i)) (l.getD i []) (iN ((l.take i).count (l.getD i [])))) (fun _=>.q 1<|.cu (TA 3 (hE (l.take i)) (l.getD i []) (.int .i64 ((((l.take i).count (l.getD i []))+1:Nat):Int))) (fun _=>.h (.o4 3 (.om (hE (l.take i++[l.getD i []])) gm))<|.q 2<|.nil))) (.q 1<|.cu (mlC 3) (fun _=>.q 4<|.nil)))))
  (True/\∀ g6:Nat,(∃ x:Nat×Nat,match x with | (h9,Qv)=>(h9<=l.length)/\E (ao l)/\Q (.om [] g6) (.om (hE (l.take h9)) Qv)/\E (ao l)/\Q (iN ((l.map sV).length)) (iN l.length)/\Q (iN 0) (iN h9)/\True)/\∀ x:Nat×Nat,match x with | (i,gm)=>(i<=l.length)->(fun v1:Int=>Br (s4 (i:Int) (l.length:Int)) (Ex (i:Int) (l.map sV) (sV (l.getD i []))/\True/\(((gm:Nat)=gm/\(hE (l.take i):List (BL×Value))=hE (l.take i))/\((sV (l.getD i []):V)=sV (l.getD i []))/\((∃ y,bM (hE (l.take i)) (l.getD i [])=some y/\(iN ((l.take i).count (l.getD i [])):V).val? =some y)\/(bM (hE (l.take i)) (l.getD i [])=none/\∃ y,(iN ((l.take i).count (l.getD i [])):V).val? =some y/\∀ w,(zeroValue 3).run Tryz.prog w=.ok y w)))/\∀ _:Unit,m6 ((((l.take i).count (l.getD i []):Nat):Int)+1)/\(((gm:Nat)=gm/\(hE (l.take i):List (BL×Value))=hE (l.take i))/\((sV (l.getD i []):V)=sV (l.getD i []))/\(iN (((l.take i).count (l.getD i []))+1):V).val? =some (.int .i64 v1))/\∀ _:Unit,((.om (dI (hE (l.take i)) (l.getD i []) (.int .i64 v1)) gm:V)=.om (hE (l.take i++[l.getD i []])) gm)/\m6 ((i:Int)+1)/\∃ x:Nat×Nat,match x with | (b9,Md)=>(b9<=l.length)/\(l.length-b9<l.length-i)/\E (ao l)/\Q (.om (hE (l.take i++[l.getD i []])) gm) (.om (hE (l.take b9)) Md)/\E (ao l)/\E (iN l.length)/\Q (iN (i+1)) (iN b9)/\True) (((gm:Nat)=gm)/\∀ _:Unit,Q (bV (o6 (((hE (l.take i)).length:Nat):Int) (((l.map sV).length:Nat):Int))) (bV (decide l.Nodup)))) ((((l.take i).count (l.getD i []))+1:Nat):Int)) ?_
 refine⟨trivial,?_⟩
 intro g6
 refine⟨⟨(0,g6),?_,rfl,Z4,rfl,Z4,rfl,trivial⟩,?_⟩
 simp
 rintro⟨i,gm⟩ h1
 refine bI (fun j7=>?_) fun j7=>?_
 refine⟨⟨Z9,aj (d:=[]) Z9⟩,trivial,⟨⟨rfl,rfl⟩,rfl,Jr (l.take i) (l.getD i [])⟩,?_⟩
 intro _
 refine⟨by have hc:(l.take i).count (l.getD i [])<=(l.take i).length:=List.count_le_length;simp only[List.length_take]at hc;omega,⟨⟨rfl,rfl⟩,rfl,rfl⟩,?_⟩
 intro _
 refine⟨Zo (V.om · gm) (zY (l.take i) (l.getD i [])),Z9,?_⟩
 refine⟨(i+1,gm),?_,?_,rfl,by rw[aW Z9 []],rfl,rfl,rfl,trivial⟩
 omega
 exact Z1
 refine⟨rfl,?_⟩
 intro _
 unfold Q
 rw[show i=l.length from Z9,ZL (Zy _)]
 refine Zo bV ?_
 rw[ZE]
 simp only[nb]
 rw[<- FD]
 omega)
def xu(l:List BL):o8 Tryz.prog:=.mk 52 [ao l] [] ((l.length<=100000)/\(∀ x,x∈l->x.length<=1000/\m4 x)) (bV (cN l)) [] (by
 rintro⟨hl,ha⟩
 refine aq (N:=23) (rs:=[.tmp 2]) Tryz.func52
  (.q 1<|.q 5<|.cg (iT l)<|.q 2<|.br (.q 1<|.nil) (.q 3<|.loop (Nat) (fun (i:Nat)=>⟨[(13,ao l),(14,iN l.length),(15,iN i)],[]⟩) (fun (i:Nat)=>i<=l.length/\∀ j,j<i->aD (l.getD j [])=true) (fun (i:Nat)=>l.length-i) (fun (i:Nat)=>.q 1<|.br (.r 3 [sV (l.getD i [])]<|.q 1<|.c (eW (l.getD i [])) []<|.q 1<|.br (.q 1<|.nil) (.q 2<|.nil)) (.q 1<|.nil))))
  ((fun v1:Bool=>(Gd (v1==false) (((l.length<=1000000))/\(iT l).sm)/\Pk v1 true (v1==false)/\Br (v1||(!(decide l.Nodup))) (Q (bV false) (bV (cN l))) ((∃ h9:Nat,(h9<=l.length/\∀ j,j<h9->aD (l.getD j [])=true)/\E (ao l)/\Q (iN ((l.map sV).length)) (iN l.length)/\Q (iN 0) (iN h9)/\True)/\∀ i:Nat,(i<=l.length/\∀ j,j<i->aD (l.getD j [])=true)->Br (s4 (i:Int) (l.length:Int)) (Ex (i:Int) (l.map sV) (sV (l.getD i []))/\True/\(eW (l.getD i [])).sm/\(((l.getD i []).length<=1000000)/\(m4 (l.getD i [])))/\Br (!(aD (l.getD i []))) (Q (bV false) (bV (cN l))) (m6 ((i:Int)+1)/\∃ b9:Nat,(b9<=l.length/\∀ j,j<b9->aD (l.getD j [])=true)/\(l.length-b9<l.length-i)/\E (ao l)/\E (iN l.length)/\Q (iN (i+1)) (iN b9)/\True)) (Q (bV true) (bV (cN l)))))) (s7 (((l.map sV).length:Nat):Int) 60)) ?_
 refine⟨fun hG=>⟨by(try simp only[nb]at hG);omega,rfl⟩,⟨fun _=>rfl,fun h=>by rw[h] <;> rfl⟩,?_⟩
 refine bI (fun j7=>?_) fun j7=>?_
 unfold Q
 rw[Co j7]
 refine⟨⟨0,?_,rfl,Z4,rfl,trivial⟩,?_⟩
 simp
 rintro i ⟨h1,h2⟩
 refine bI (fun l4=>?_) fun l4=>?_
 have MZ:=ha _ (oM (show i<l.length by omega))
 refine⟨⟨Z9,aj (d:=[]) Z9⟩,trivial,rfl,⟨Z9,MZ.2⟩,?_⟩
 refine bI (fun m8=>?_) fun m8=>?_
 unfold Q
 rw[BE (i:=i) Z9 (by simpa using m8)]
 refine⟨Z9,?_⟩
 refine⟨i+1,?_,?_,rfl,rfl,rfl,trivial⟩
 exact⟨Z9,bE h2 (by simpa using m8)⟩
 exact Z1
 unfold Q
 rw[FJ j7 (fun j hj=>h2 j Z9)])
def vB(rs:List s5):o8 Tryz.prog:=.mk 85 [eh rs] [] ((rs.length<=100000)/\(∀ i,(rs.getD i ⟨false,[]⟩).path.length<=1000000)) (bV (rs.all fun r=>aZ r.path)) [] (by
 rintro⟨hl,ha⟩
 refine aq (N:=16) (rs:=[.tmp 2]) Tryz.func85
  (.q 1<|.q 3<|.loop (Nat) (fun (i:Nat)=>⟨[(5,eh rs),(6,iN rs.length),(7,iN i)],[]⟩) (fun (i:Nat)=>i<=rs.length/\∀ j,j<i->aZ (rs.getD j ⟨false,[]⟩).path=true) (fun (i:Nat)=>rs.length-i) (fun (i:Nat)=>.q 1<|.br (.r 2 [.agg [bV ((rs.getD i (⟨false,[]⟩:s5)).H3),sV ((rs.getD i (⟨false,[]⟩:s5)).path)]]<|.al sO (fun g4=>.st none<|.r 2 [.b7]<|.c (jc ((rs.getD i (⟨false,[]⟩:s5)).path)) []<|.q 1<|.br (.q 1<|.nil) (.q 2<|.nil))) (.q 1<|.nil)))
  ((∃ h9:Nat,(h9<=rs.length/\∀ j,j<h9->aZ (rs.getD j ⟨false,[]⟩).path=true)/\E (eh rs)/\Q (iN ((rs.map an).length)) (iN rs.length)/\Q (iN 0) (iN h9)/\True)/\∀ i:Nat,(i<=rs.length/\∀ j,j<i->aZ (rs.getD j ⟨false,[]⟩).path=true)->Br (s4 (i:Int) (rs.length:Int)) (Ex (i:Int) (rs.map an) (.agg [bV ((rs.getD i (⟨false,[]⟩:s5)).H3),sV ((rs.getD i (⟨false,[]⟩:s5)).path)])/\True/\∀ g4:Nat,Z g4 0/\Z g4 1/\(jc ((rs.getD i (⟨false,[]⟩:s5)).path)).sm/\((((rs.getD i (⟨false,[]⟩:s5)).path).length<=4611686018427387904))/\Br (!(dn ((rs.getD i (⟨false,[]⟩:s5)).path))) (Q (bV false) (bV (rs.all fun r=>aZ r.path))) (m6 ((i:Int)+1)/\∃ b9:Nat,(b9<=rs.length/\∀ j,j<b9->aZ (rs.getD j ⟨false,[]⟩).path=true)/\(rs.length-b9<rs.length-i)/\E (eh rs)/\E (iN rs.length)/\Q (iN (i+1)) (iN b9)/\True)) (Q (bV true) (bV (rs.all fun r=>aZ r.path)))) ?_
 refine⟨⟨0,?_,rfl,Z4,rfl,trivial⟩,?_⟩
 simp
 rintro i ⟨h1,h2⟩
 refine bI (fun j7=>?_) fun j7=>?_
 refine⟨⟨Z9,aj (d:=(⟨false,[]⟩:s5)) Z9⟩,trivial,?_⟩
 intro g4
 refine⟨rfl,rfl,rfl,by have:=ha i;omega,?_⟩
 refine bI (fun l4=>?_) fun l4=>?_
 unfold Q
 refine Zo bV ?_
 symm
 exact wi (d:=⟨false,[]⟩) (i:=i) Z9 (by rw[nA]at l4;exact l4)
 refine⟨Z9,?_⟩
 refine⟨i+1,?_,?_,rfl,rfl,rfl,trivial⟩
 exact⟨Z9,bE h2 (by rw[nA]at l4;exact l4)⟩
 exact Z1
 unfold Q
 refine Zo bV ?_
 symm
 exact wD (d:=⟨false,[]⟩) (fun j hj=>h2 j Z9))
abbrev hY(lk:List l9)(a7:Int)(i:Nat)(la:Int):Prop:=i<=lk.length/\la=(if i=0 then 0 else (lk.getD (i-1) n6).ti)/\∀ j,j<i->mJ lk a7 j=true
def vy(lk:List l9)(a7:Int):o8 Tryz.prog:=.mk 53 [fV lk,iV a7] [] ((lk.length<=100000)/\(∀ x,x∈lk->x.ad.length<=1000/\m4 x.ad)) (bV (cP lk a7)) [] (by
 rintro⟨hl,ha⟩
 refine aq (N:=36) (rs:=[.tmp 4]) Tryz.func53
  (.q 1<|.q 3<|.br (.q 1<|.nil) (.q 1<|.q 3<|.loop (Nat×Int) (fun (i,la)=>⟨[(1,iV a7),(5,iV la),(11,fV lk),(12,iN lk.length),(13,iN i)],[]⟩) (fun (i,la)=>hY lk a7 i la) (fun (i,la)=>lk.length-i) (fun (i,la)=>.q 1<|.br (.r 2 [.agg [iV ((lk.getD i n6).ti),sV ((lk.getD i n6).ad),iV ((lk.getD i n6).ki)]]<|.al Fq (fun g7=>.st none<|.r 4 [.b7]<|.c (dc la ((lk.getD i n6).ti) a7) []<|.r 4 [.b7]<|.cg (dc (0:Int) ((lk.getD i n6).ki) (3:Int))<|.q 2<|.br (.q 1<|.nil) (.r 2 [.b7]<|.c (eW ((lk.getD i n6).ad)) []<|.q 1<|.br (.q 1<|.nil) (.r 3 [.b7]<|.q 2<|.nil)))) (.q 1<|.nil))))
  (Br (s7 (((lk.map aX).length:Nat):Int) 400) (Q (bV false) (bV (cP lk a7))) ((∃ x:Nat×Int,match x with | (h9,RN)=>(hY lk a7 h9 RN)/\E (iV a7)/\Q (iN 0) (iV RN)/\E (fV lk)/\Q (iN ((lk.map aX).length)) (iN lk.length)/\Q (iN 0) (iN h9)/\True)/\∀ x:Nat×Int,match x with | (i,la)=>(hY lk a7 i la)->Br (s4 (i:Int) (lk.length:Int)) (Ex (i:Int) (lk.map aX) (.agg [iV ((lk.getD i n6).ti),sV ((lk.getD i n6).ad),iV ((lk.getD i n6).ki)])/\True/\∀ g7:Nat,Z g7 0/\Z g7 0/\(dc la ((lk.getD i n6).ti) a7).sm/\(True)/\Gd ((!(z8 ((lk.getD i n6).ti) la a7))==false) (Z g7 2)/\Gd ((!(z8 ((lk.getD i n6).ti) la a7))==false) ((True)/\(dc (0:Int) ((lk.getD i n6).ki) (3:Int)).sm)/\Pk (!(z8 ((lk.getD i n6).ti) la a7)) true ((!(z8 ((lk.getD i n6).ti) la a7))==false)/\Br ((!(z8 ((lk.getD i n6).ti) la a7))||(!(z8 ((lk.getD i n6).ki) (0:Int) (3:Int)))) (Q (bV false) (bV (cP lk a7))) (Z g7 1/\(eW ((lk.getD i n6).ad)).sm/\((((lk.getD i n6).ad).length<=1000000)/\(m4 ((lk.getD i n6).ad)))/\Br (!(aD ((lk.getD i n6).ad))) (Q (bV false) (bV (cP lk a7))) (Z g7 0/\m6 ((i:Int)+1)/\∃ x:Nat×Int,match x with | (b9,RM)=>(hY lk a7 b9 RM)/\(lk.length-b9<lk.length-i)/\E (iV a7)/\Q (iV ((lk.getD i n6).ti)) (iV RM)/\E (fV lk)/\E (iN lk.length)/\Q (iN (i+1)) (iN b9)/\True))) (Q (bV true) (bV (cP lk a7))))) ?_
 refine bI (fun j7=>?_) fun j7=>?_
 unfold Q
 rw[Bi j7]
 refine⟨⟨(0,0),?_,rfl,Z4,rfl,Z4,rfl,trivial⟩,?_⟩
 unfold hY
 simp
 rintro⟨i,la⟩ ⟨h1,h2,h3⟩
 refine bI (fun l4=>?_) fun l4=>?_
 have MZ:=ha _ (aI (d:=n6) (show i<lk.length by omega))
 refine⟨⟨Z9,aj (d:=n6) Z9⟩,trivial,?_⟩
 intro g7
 refine⟨rfl,rfl,rfl,trivial,fun hG=>rfl,fun hG=>⟨trivial,rfl⟩,⟨fun _=>rfl,fun h=>by rw[h] <;> rfl⟩,?_⟩
 refine bI (fun m8=>?_) fun m8=>?_
 unfold Q
 rw[sA (i:=i) Z9 (Hi h2 m8)]
 refine⟨rfl,rfl,⟨Z9,MZ.2⟩,?_⟩
 refine bI (fun w7=>?_) fun w7=>?_
 unfold Q
 rw[sA (i:=i) Z9 (IA (by simpa using w7))]
 refine⟨rfl,Z9,?_⟩
 refine⟨(i+1,(lk.getD i n6).ti),?_,?_,rfl,rfl,rfl,rfl,rfl,trivial⟩
 unfold hY
 exact⟨Z9,Z8,bE h3 (JJ h2 m8 (by simpa using w7))⟩
 exact Z1
 unfold Q
 rw[Ci j7 (fun j hj=>h3 j Z9)])
def vi(y:j9)(n:BL):o8 Tryz.prog:=.mk 54 [iu y.na y.re y.kn y.gr.na y.gr.ru y.gr.wa y.tr y.td,sV n] [] (QC y) (bV (cZ y n)) [] (by
 intro hh
 refine aq (N:=62) (rs:=[.tmp 4]) Tryz.func54
  (.bx (fun g2=>.q 1<|.r 2 [.b7]<|.c (mE y.na) []<|.r 4 [.b7]<|.cg (dc (0:Int) y.re (5100:Int))<|.r 5 [.b7]<|.cg (dc (0:Int) y.tr (2:Int))<|.q 2<|.br (.q 1<|.nil) (.r 2 [.b7]<|.al iA (fun g5=>.st none<|.r 12 [.b7,.b7,sV (y.gr.na.getD 0 [])]<|.br (.q 1<|.nil) (.r 3 [.b7]<|.br (.r 10 [.b7,.b7]<|.nil) (.r 7 [.b7,.b7]<|.cg (vB y.gr.ru)<|.r 4 [.b7]<|.cg (dc (0:Int) (y.gr.wa:Int) (20:Int))<|.q 2<|.nil))))))
  ((fun v1:Int=>(fun v2:Bool=>(fun v3:Bool=>(fun v4:Bool=>(∀ g2:Nat,Z g2 0/\(mE y.na).sm/\((y.na.length<=4611686018427387904))/\Gd (v4==false) (Z g2 1)/\Gd (v4==false) ((True)/\(dc (0:Int) y.re (5100:Int)).sm)/\Pk v4 true (v4==false)/\Gd ((v4||v3)==false) (Z g2 6)/\Gd ((v4||v3)==false) ((True)/\(dc (0:Int) y.tr (2:Int)).sm)/\Pk (v4||v3) true ((v4||v3)==false)/\Br ((v4||v3)||(!(z8 y.tr (0:Int) (2:Int)))) (Q (bV false) (bV (cZ y n))) (Z g2 3/\∀ g5:Nat,Z g5 0/\Z g5 0/\Gd (v2==false) (Z g5 0)/\Gd (v2==false) (Ex 0 (y.gr.na.map sV) (sV (y.gr.na.getD 0 [])))/\Gd (v2==false) True/\Pk v2 true (v2==false)/\Br (v2||(!((y.gr.na.getD 0 [])==n))) (Q (bV false) (bV (cZ y n))) (Z g2 2/\Br (!y.kn) (Z g5 1/\Gd ((o6 v1 0)==true) (Z g5 2)/\Pk (o6 v1 0) ((o6 v1 0)==true) true/\Q (bV ((o6 v1 0)&&(o6 (y.gr.wa:Int) 0))) (bV (cZ y n))) (Z g5 1/\Gd ((C6 v1 40)==true) (Z g5 1)/\Gd ((C6 v1 40)==true) (((y.gr.ru.length<=100000)/\(∀ i,(y.gr.ru.getD i ⟨false,[]⟩).path.length<=1000000))/\(vB y.gr.ru).sm)/\Pk (C6 v1 40) ((C6 v1 40)==true) true/\Gd (((C6 v1 40)&&(y.gr.ru.all fun r=>aZ r.path))==true) (Z g5 2)/\Gd (((C6 v1 40)&&(y.gr.ru.all fun r=>aZ r.path))==true) ((True)/\(dc (0:Int) (y.gr.wa:Int) (20:Int)).sm)/\Pk ((C6 v1 40)&&(y.gr.ru.all fun r=>aZ r.path)) (((C6 v1 40)&&(y.gr.ru.all fun r=>aZ r.path))==true) true/\Q (bV (((C6 v1 40)&&(y.gr.ru.all fun r=>aZ r.path))&&(z8 (y.gr.wa:Int) (0:Int) (20:Int)))) (bV (cZ y n))))))) (!(ck y.na))) (!(z8 y.re (0:Int) (5100:Int)))) (A7 (((y.gr.na.map sV).length:Nat):Int) 1)) (((y.gr.ru.map an).length:Nat):Int)) ?_
 intro g2
 refine⟨rfl,rfl,by have:=hh.n;omega,fun hG=>rfl,fun hG=>⟨trivial,rfl⟩,⟨fun _=>rfl,fun h=>by rw[h] <;> rfl⟩,fun hG=>rfl,fun hG=>⟨trivial,rfl⟩,⟨fun _=>rfl,fun h=>by rw[h] <;> rfl⟩,?_⟩
 refine bI (fun j7=>?_) fun j7=>?_
 unfold Q
 rw[Hq j7]
 refine⟨rfl,?_⟩
 intro g5
 refine⟨rfl,rfl,fun hG=>rfl,fun hG=>by(try simp only[nb]at hG);exact⟨Z9,aj (d:=[]) Z9⟩,fun hG=>trivial,⟨fun _=>rfl,fun h=>by rw[h] <;> rfl⟩,?_⟩
 refine bI (fun l4=>?_) fun l4=>?_
 unfold Q
 rw[HR l4]
 refine⟨rfl,?_⟩
 refine bI (fun m8=>?_) fun m8=>?_
 refine⟨rfl,fun hG=>rfl,⟨fun h=>by rw[h] <;> rfl,fun _=>rfl⟩,?_⟩
 unfold Q
 rw[ZM,Il j7 l4 m8]
 refine⟨rfl,fun hG=>rfl,fun hG=>⟨⟨by(try simp only[nb]at hG);have:=hh.r;omega,fun i=>by have:=hh.rp i;omega⟩,rfl⟩,⟨fun h=>by rw[h] <;> rfl,fun _=>rfl⟩,fun hG=>rfl,fun hG=>⟨trivial,rfl⟩,⟨fun h=>by rw[h] <;> rfl,fun _=>rfl⟩,?_⟩
 unfold Q
 rw[ZM,Ht j7 l4 m8])
abbrev jf(y:j9)(se:List BL)(i:Nat)(o:List BL)(g:Nat)(f:Nat)(k:Nat):Prop:=i<=y.td.length/\o=(y.td.take i).map (·.ad)/\∀ j,j<i->P0 y se (y.td.getD j j8)=true
def yn(y:j9)(se:List BL):o8 Tryz.prog:=.mk 55 [iu y.na y.re y.kn y.gr.na y.gr.ru y.gr.wa y.tr y.td,ao se] [] ((QC y)/\(se.length<=100000)) (bV (cR y se)) [] (by
 rintro⟨hh,hs⟩
 have UC:=hh.t
 refine aq (N:=57) (rs:=[.tmp 4]) Tryz.func55
  (.bx (fun g2=>.q 1<|.r 6 [.b7]<|.br (.q 1<|.nil) (.q 1<|.r 4 [.b7]<|.h (.H2 5 1)<|.loop (Nat×(List BL)×Nat×Nat×Nat) (fun (i,o,g,f,k)=>⟨[(1,ao se),(2,.ptr (.key 2) [] g2 0),(5,.own 1 (o.map sV) g f k),(17,mH y.td),(18,iN y.td.length),(19,iN i)],[(2,(g2,iu y.na y.re y.kn y.gr.na y.gr.ru y.gr.wa y.tr y.td))]⟩) (fun (i,o,g,f,k)=>jf y se i o g f k) (fun (i,o,g,f,k)=>y.td.length-i) (fun (i,o,g,f,k)=>.q 1<|.br (.r 2 [.agg [sV ((y.td.getD i j8).ad),iV ((y.td.getD i j8).tr)]]<|.al og (fun g7=>.st none<|.r 2 [.b7]<|.c (cI ((y.td.getD i j8).ad)) []<|.q 3<|.al cY (fun g8=>.st none<|.q 1<|.r 13 [.b7,.b7,.b7]<|.cg (oU se ((y.td.getD i j8).ad))<|.q 2<|.br (.q 1<|.nil) (.r 2 [.b7]<|.c (dc (0:Int) ((y.td.getD i j8).tr) (2:Int)) []<|.q 1<|.br (.q 1<|.nil) (.r 3 [.b7]<|.bs<|.ap (fun Si Rx Sz=>.h (.o4 53 (.own 1 ((o++[(y.td.getD i j8).ad]).map sV) Si Rx Sz))<|.q 1<|.q 2<|.nil)))))) (.h (.fz 5)<|.h (.o4 5 (ao o))<|.q 1<|.c (iT o) []<|.q 1<|.nil)))))
  ((fun v1:V=>(∀ g2:Nat,Z g2 7/\Br (s7 (((y.td.map ag).length:Nat):Int) (((se.map sV).length:Nat):Int)) (Q (bV false) (bV (cR y se))) (Z g2 7/\(∃ x:Nat×(List BL)×Nat×Nat×Nat,match x with | (h9,s8,A5,x9,r9)=>(jf y se h9 s8 A5 x9 r9)/\E (ao se)/\E (.ptr (.key 2) [] g2 0)/\Q (.own 1 ([].map sV) 0 0 0) (.own 1 (s8.map sV) A5 x9 r9)/\E (mH y.td)/\Q (iN ((y.td.map ag).length)) (iN y.td.length)/\Q (iN 0) (iN h9)/\Er g2 v1/\True)/\∀ x:Nat×(List BL)×Nat×Nat×Nat,match x with | (i,o,g,f,k)=>(jf y se i o g f k)->(fun v2:u0=>(fun v3:Bool=>(fun v4:Bool=>(fun v5:List V=>Br (s4 (i:Int) (y.td.length:Int)) (Ex (i:Int) (y.td.map ag) (.agg [sV (v2.ad),iV (v2.tr)])/\True/\∀ g7:Nat,Z g7 0/\Z g7 0/\(cI (v2.ad)).sm/\(((v2.ad).length<=1000000)/\(m4 (v2.ad)))/\∀ g8:Nat,Z g8 0/\Gd (v3==false) (Z g8 0)/\Gd (v3==false) (Z g2 0)/\Pk v3 true (v3==false)/\Gd ((v3||v4)==false) (Z g7 0)/\Gd ((v3||v4)==false) (((se.length<=1000000))/\(oU se (v2.ad)).sm)/\Pk (v3||v4) true ((v3||v4)==false)/\Br ((v3||v4)||(!(se.contains (v2.ad)))) (Q (bV false) (bV (cR y se))) (Z g7 1/\(dc (0:Int) (v2.tr) (2:Int)).sm/\(True)/\Br (!(z8 (v2.tr) (0:Int) (2:Int))) (Q (bV false) (bV (cR y se))) (Z g7 0/\((1,1,g,f,k,(o.map sV).length)=(1,1,g,f,k,(o.map sV).length))/\(True)/\(V.ay v5=false)/\(aC 1 v5)/\(((o.map sV).length+v5.length)*16<=140737488355328)/\∀ Si Rx Sz:Nat,((.own 1 ((o.map sV)++v5) Si Rx Sz:V)=.own 1 ((o++[v2.ad]).map sV) Si Rx Sz)/\m6 ((i:Int)+1)/\∃ x:Nat×(List BL)×Nat×Nat×Nat,match x with | (b9,l7,s3,o9,k₂)=>(jf y se b9 l7 s3 o9 k₂)/\(y.td.length-b9<y.td.length-i)/\E (ao se)/\E (.ptr (.key 2) [] g2 0)/\Q (.own 1 ((o++[v2.ad]).map sV) Si Rx Sz) (.own 1 (l7.map sV) s3 o9 k₂)/\E (mH y.td)/\E (iN y.td.length)/\Q (iN (i+1)) (iN b9)/\Er g2 v1/\True))) (((.sl false (V.D5 (o.map sV)):V)=ao o)/\(iT o).sm/\((o.length<=1000000))/\Q (bV (decide o.Nodup)) (bV (cR y se)))) ([sV (v2.ad)]:List V)) (!(((oA (ar (v2.ad))).c9)==y.na))) (!((ar (v2.ad)).isSome))) (y.td.getD i j8)))) (iu y.na y.re y.kn y.gr.na y.gr.ru y.gr.wa y.tr y.td)) ?_
 intro g2
 refine⟨rfl,?_⟩
 refine bI (fun j7=>?_) fun j7=>?_
 unfold Q
 rw[Dc j7]
 refine⟨rfl,?_⟩
 refine⟨⟨(0,[],0,0,0),?_,rfl,rfl,rfl,rfl,Z4,rfl,rfl,trivial⟩,?_⟩
 unfold jf
 simp
 rintro⟨i,o,g,f,k⟩ ⟨h1,h2,h3⟩
 refine bI (fun l4=>?_) fun l4=>?_
 have MZ:=hh.ta _ (aI (d:=j8) (show i<y.td.length by omega))
 have R5:o.length=i:=by rw[h2,ZM,List.length_take];omega
 refine⟨⟨Z9,aj (d:=j8) Z9⟩,trivial,?_⟩
 intro g7
 refine⟨rfl,rfl,rfl,⟨Z9,MZ.2⟩,?_⟩
 intro g8
 refine⟨rfl,fun hG=>rfl,fun hG=>rfl,⟨fun _=>rfl,fun h=>by rw[h] <;> rfl⟩,fun hG=>rfl,fun hG=>⟨by(try simp only[nb]at hG);omega,rfl⟩,⟨fun _=>rfl,fun h=>by rw[h] <;> rfl⟩,?_⟩
 refine bI (fun m8=>?_) fun m8=>?_
 unfold Q
 rw[vx (i:=i) Z9 (Ja m8)]
 refine⟨rfl,rfl,trivial,?_⟩
 refine bI (fun w7=>?_) fun w7=>?_
 unfold Q
 rw[vx (i:=i) Z9 (JX w7)]
 refine⟨rfl,rfl,trivial,rfl,by simp[aC,V.n,V.ns],Z0,?_⟩
 intro Si Rx Sz
 refine⟨Zo (V.own 1 · Si Rx Sz) Z8,Z9,?_⟩
 refine⟨(i+1,o++[(y.td.getD i j8).ad],Si,Rx,Sz),?_,?_,rfl,rfl,rfl,rfl,rfl,rfl,rfl,trivial⟩
 unfold jf
 exact⟨Z9,by rw[aW Z9 j8,Zz,<- h2];rfl,bE h3 (Lj m8 w7)⟩
 exact Z1
 refine⟨Zo (V.sl false) (aM (fun _=>rfl) _),rfl,by rw[h2,ZM,List.length_take];omega,?_⟩
 unfold Q
 rw[CP j7 (fun j hj=>h3 j Z9),h2,ZL Z9])
abbrev iX(t:l5)(i:Nat)(o:List BL)(g:Nat)(f:Nat)(k:Nat):Prop:=i<=t.hs.length/\o=(t.hs.take i).map (·.na)/\∀ j,j<i->(cZ (t.hs.getD j e9) t.na&&cR (t.hs.getD j e9) t.se)=true
def fv(t:l5):o8 Tryz.prog:=.mk 27 [eN t.na t.a7 t.hs t.se t.lk] [] (D2 t) (bV (aQ t)) [] (by
 intro ht
 have WC:=ht.h
 refine aq (N:=55) (rs:=[.tmp 2]) Tryz.func27
  (.bx (fun g1=>.q 1<|.r 2 [.b7]<|.c (jE t.na) []<|.r 4 [.b7]<|.cg (dc (0:Int) t.a7 (5000:Int))<|.q 2<|.br (.q 1<|.nil) (.r 2 [.b7]<|.c (xu t.se) []<|.r 6 [.b7,.b7]<|.cg (vy t.lk t.a7)<|.q 2<|.br (.q 1<|.nil) (.q 1<|.r 4 [.b7]<|.h (.H2 3 1)<|.loop (Nat×(List BL)×Nat×Nat×Nat) (fun (i,o,g,f,k)=>⟨[(1,.ptr (.key 1) [] g1 0),(3,.own 1 (o.map sV) g f k),(29,.sl false (t.hs.map bY)),(30,iN t.hs.length),(31,iN i)],[(1,(g1,eN t.na t.a7 t.hs t.se t.lk))]⟩) (fun (i,o,g,f,k)=>iX t i o g f k) (fun (i,o,g,f,k)=>t.hs.length-i) (fun (i,o,g,f,k)=>.q 1<|.br (.r 2 [iu ((t.hs.getD i e9).na) ((t.hs.getD i e9).re) ((t.hs.getD i e9).kn) ((t.hs.getD i e9).gr.na) ((t.hs.getD i e9).gr.ru) ((t.hs.getD i e9).gr.wa) ((t.hs.getD i e9).tr) ((t.hs.getD i e9).td)]<|.al FG (fun g5=>.st none<|.r 3 [.b7,.b7]<|.c (vi (t.hs.getD i e9) t.na) []<|.r 5 [.b7,.b7]<|.cg (yn (t.hs.getD i e9) t.se)<|.q 2<|.br (.q 1<|.nil) (.r 3 [.b7]<|.bs<|.ap (fun Sk Rz SB=>.h (.o4 51 (.own 1 ((o++[(t.hs.getD i e9).na]).map sV) Sk Rz SB))<|.q 1<|.q 2<|.nil)))) (.h (.fz 3)<|.h (.o4 3 (ao o))<|.q 1<|.c (iT o) []<|.q 1<|.nil))))))
  (∀ g1:Nat,Z g1 0/\(jE t.na).sm/\((t.na.length<=4611686018427387904))/\Gd ((!(bp t.na))==false) (Z g1 1)/\Gd ((!(bp t.na))==false) ((True)/\(dc (0:Int) t.a7 (5000:Int)).sm)/\Pk (!(bp t.na)) true ((!(bp t.na))==false)/\Br ((!(bp t.na))||(!(z8 t.a7 (0:Int) (5000:Int)))) (Q (bV false) (bV (aQ t))) (Z g1 3/\(xu t.se).sm/\((t.se.length<=100000)/\(∀ x,x∈t.se->x.length<=1000/\m4 x))/\Gd ((!(cN t.se))==false) (Z g1 4)/\Gd ((!(cN t.se))==false) (Z g1 1)/\Gd ((!(cN t.se))==false) (((t.lk.length<=100000)/\(∀ x,x∈t.lk->x.ad.length<=1000/\m4 x.ad))/\(vy t.lk t.a7).sm)/\Pk (!(cN t.se)) true ((!(cN t.se))==false)/\Br ((!(cN t.se))||(!(cP t.lk t.a7))) (Q (bV false) (bV (aQ t))) (Z g1 2/\(∃ x:Nat×(List BL)×Nat×Nat×Nat,match x with | (h9,s8,A5,x9,r9)=>(iX t h9 s8 A5 x9 r9)/\E (.ptr (.key 1) [] g1 0)/\Q (.own 1 ([].map sV) 0 0 0) (.own 1 (s8.map sV) A5 x9 r9)/\E (.sl false (t.hs.map bY))/\Q (iN ((t.hs.map bY).length)) (iN t.hs.length)/\Q (iN 0) (iN h9)/\Er g1 (eN t.na t.a7 t.hs t.se t.lk)/\True)/\∀ x:Nat×(List BL)×Nat×Nat×Nat,match x with | (i,o,g,f,k)=>(iX t i o g f k)->(fun v1:j9=>(fun v2:Bool=>(fun v3:List V=>Br (s4 (i:Int) (t.hs.length:Int)) (Ex (i:Int) (t.hs.map bY) (iu (v1.na) (v1.re) (v1.kn) (v1.gr.na) (v1.gr.ru) (v1.gr.wa) (v1.tr) (v1.td))/\True/\∀ g5:Nat,Z g5 0/\Z g5 0/\Z g1 0/\(vi v1 t.na).sm/\((QC v1))/\Gd v2 (Z g5 0)/\Gd v2 (Z g1 3)/\Gd v2 (((QC v1)/\(t.se.length<=100000))/\(yn v1 t.se).sm)/\Pk (!(cZ v1 t.na)) true v2/\Br ((!(cZ v1 t.na))||(!(cR v1 t.se))) (Q (bV false) (bV (aQ t))) (Z g5 0/\((1,1,g,f,k,(o.map sV).length)=(1,1,g,f,k,(o.map sV).length))/\(True)/\(V.ay v3=false)/\(aC 1 v3)/\(((o.map sV).length+v3.length)*16<=140737488355328)/\∀ Sk Rz SB:Nat,((.own 1 ((o.map sV)++v3) Sk Rz SB:V)=.own 1 ((o++[v1.na]).map sV) Sk Rz SB)/\m6 ((i:Int)+1)/\∃ x:Nat×(List BL)×Nat×Nat×Nat,match x with | (b9,l7,s3,o9,k₂)=>(iX t b9 l7 s3 o9 k₂)/\(t.hs.length-b9<t.hs.length-i)/\E (.ptr (.key 1) [] g1 0)/\Q (.own 1 ((o++[v1.na]).map sV) Sk Rz SB) (.own 1 (l7.map sV) s3 o9 k₂)/\E (.sl false (t.hs.map bY))/\E (iN t.hs.length)/\Q (iN (i+1)) (iN b9)/\Er g1 (eN t.na t.a7 t.hs t.se t.lk)/\True)) (((.sl false (V.D5 (o.map sV)):V)=ao o)/\(iT o).sm/\((o.length<=1000000))/\Q (bV (decide o.Nodup)) (bV (aQ t)))) ([sV (v1.na)]:List V)) ((!(cZ v1 t.na))==false)) (t.hs.getD i e9)))) ?_
 intro g1
 refine⟨rfl,rfl,by have:=ht.n;omega,fun hG=>rfl,fun hG=>⟨trivial,rfl⟩,⟨fun _=>rfl,fun h=>by rw[h] <;> rfl⟩,?_⟩
 refine bI (fun j7=>?_) fun j7=>?_
 unfold Q
 rw[Ey j7]
 refine⟨rfl,rfl,⟨by have:=ht.s;omega,ht.sa⟩,fun hG=>rfl,fun hG=>rfl,fun hG=>⟨⟨by(try simp only[nb]at hG);have:=ht.l;omega,ht.la⟩,rfl⟩,⟨fun _=>rfl,fun h=>by rw[h] <;> rfl⟩,?_⟩
 refine bI (fun l4=>?_) fun l4=>?_
 unfold Q
 rw[ED l4]
 refine⟨rfl,?_⟩
 refine⟨⟨(0,[],0,0,0),?_,rfl,rfl,rfl,Z4,rfl,rfl,trivial⟩,?_⟩
 unfold iX
 simp
 rintro⟨i,o,g,f,k⟩ ⟨h1,h2,h3⟩
 refine bI (fun m8=>?_) fun m8=>?_
 have MZ:=ht.ha _ (aI (d:=e9) (show i<t.hs.length by omega))
 have R5:o.length=i:=by rw[h2,ZM,List.length_take];omega
 refine⟨⟨Z9,aj (d:=e9) Z9⟩,trivial,?_⟩
 intro g5
 refine⟨rfl,rfl,rfl,rfl,MZ,fun hG=>rfl,fun hG=>rfl,fun hG=>⟨⟨MZ,by(try simp only[nb]at hG);have:=ht.s;omega⟩,rfl⟩,⟨fun _=>rfl,fun h=>by rw[h] <;> rfl⟩,?_⟩
 refine bI (fun w7=>?_) fun w7=>?_
 unfold Q
 rw[Fz (i:=i) Z9 w7]
 refine⟨rfl,rfl,trivial,rfl,by simp[aC,V.n,V.ns],Z0,?_⟩
 intro Sk Rz SB
 refine⟨Zo (V.own 1 · Sk Rz SB) Z8,Z9,?_⟩
 refine⟨(i+1,o++[(t.hs.getD i e9).na],Sk,Rz,SB),?_,?_,rfl,rfl,rfl,rfl,rfl,rfl,trivial⟩
 unfold iX
 exact⟨Z9,by rw[aW Z9 e9,Zz,<- h2];rfl,bE h3 (by rw[w7.1,w7.2];rfl)⟩
 exact Z1
 refine⟨Zo (V.sl false) (aM (fun _=>rfl) _),rfl,by rw[h2,ZM,List.length_take];omega,?_⟩
 unfold Q
 rw[Ea j7 l4 (fun j hj=>h3 j Z9),h2,ZL Z9])
theorem aK{g o f:Nat}{v:V}{vs:List V}{p:List Nat}(h:vs[f]? =some v):V.at g o (.agg vs) (f::p)=V.at g (o+V.ns (vs.take f)) v p:=by simp only[V.at,h]
section
variable {α:Type} {l:List α} {f:α->V} {e e':V} {r:List V} {i:Nat} {d:α}
theorem mI(h:i<=l.length):((l.take i).map f).length=i:=by rw[ZM,List.length_take];omega
theorem aB(h:i<=l.length):((l.take i).map f++e::r)[i]? =some e:=by
 rw[ZG (by rw[mI h];omega),mI h,Nat.sub_self];rfl
theorem cH(h:i<=l.length):((l.take i).map f++e::r).set i e'=(l.take i).map f++e'::r:=by
 rw[List.set_append_right _ _ (by rw[mI h];omega),mI h,Nat.sub_self];rfl
theorem pF(h:i<l.length):l.map f=(l.take i).map f++f (l.getD i d)::(l.drop (i+1)).map f:=by
 have:l=l.take i++l.getD i d::l.drop (i+1):=by
  rw[ZZ,ZR h]
  simp only[Option.getD_some]
  rw[List.getElem_cons_drop,List.take_append_drop]
 conv=>lhs;rw[this,Zz,Zw]
theorem splitN{y:α}(e:l.getD i d=y)(h:i<l.length):l.map f=(l.take i).map f++f y::(l.drop (i+1)).map f:=by rw[<- e];exact pF h
theorem jV{x:α}(h:i<l.length):(l.take i).map f++f x::(l.drop (i+1)).map f=(l.set i x).map f:=by
 rw[List.set_eq_take_append_cons_drop,if_pos h,Zz,Zw]
end
abbrev km(p0:BL)(p1:List j9)(p2:List BL)(p3:V):V:=.agg [sV p0,iV 0,.ow 8 (p1.map aw),.ow 1 (p2.map sV),p3]
abbrev bm(p0:BL)(p1:Int)(p2:List j9)(p3:List BL)(p4:List l9):V:=.agg [sV p0,iV p1,.ow 8 (p2.map aw),.ow 1 (p3.map sV),.ow 3 (p4.map aX)]
abbrev bz(p0:BL)(p1:Int)(p2:List j9)(p3:Nat)(p4:Nat)(p5:Nat)(p6:List BL)(p7:List l9):V:=.agg [sV p0,iV p1,.own 8 (p2.map aw) p3 p4 p5,.ow 1 (p6.map sV),.ow 3 (p7.map aX)]
abbrev kR(p0:BL)(p1:Int)(p2:List j9)(p3:Nat)(p4:BL)(p5:Int)(p6:Bool)(p7:List BL)(p8:List s5)(p9:Nat)(O':Int)(PV:Nat)(PU:Nat)(PT:Nat)(PS:List BL)(PR:List l9):V:=.agg [sV p0,iV p1,.own 8 ((p2.take p3).map aw++(.agg [sV p4,iV p5,bV p6,.agg [.sl false (p7.map sV),.sl false (p8.map an),iN p9],iV O',.b7]:V)::(p2.drop (p3+1)).map aw) PV PU PT,.ow 1 (PS.map sV),.ow 3 (PR.map aX)]
abbrev cC(p0:BL)(p1:Int)(p2:List j9)(p3:Nat)(p4:BL)(p5:Int)(p6:Bool)(p7:List BL)(p8:List s5)(p9:Nat)(O':Int)(PV:List u0)(PU:Nat)(PT:Nat)(PS:Nat)(PR:List BL)(Uq:List l9):V:=.agg [sV p0,iV p1,.own 8 ((p2.take p3).map aw++(.agg [sV p4,iV p5,bV p6,.agg [.sl false (p7.map sV),.sl false (p8.map an),iN p9],iV O',.ow 2 (PV.map ag)]:V)::(p2.drop (p3+1)).map aw) PU PT PS,.ow 1 (PR.map sV),.ow 3 (Uq.map aX)]
abbrev bc(p0:BL)(p1:Int)(p2:List j9)(p3:Nat)(p4:BL)(p5:Int)(p6:Bool)(p7:List BL)(p8:List s5)(p9:Nat)(O':Int)(PV:List u0)(PU:Nat)(PT:Nat)(PS:Nat)(PR:Nat)(Uq:Nat)(VV:Nat)(VU:List BL)(VT:List l9):V:=.agg [sV p0,iV p1,.own 8 ((p2.take p3).map aw++(.agg [sV p4,iV p5,bV p6,.agg [.sl false (p7.map sV),.sl false (p8.map an),iN p9],iV O',.own 2 (PV.map ag) PU PT PS]:V)::(p2.drop (p3+1)).map aw) PR Uq VV,.ow 1 (VU.map sV),.ow 3 (VT.map aX)]
theorem tF{hs:List j9}{d:BL}{i:Nat}(hi:i<hs.length)(e:(hs.getD i e9).na=d)(h:∀ j,j<i->((hs.getD j e9).na==d)=false):w9 hs d=i:=by
 unfold w9
 rw[List.findIdx_eq hi]
 simp only[ZZ,ZR hi]at e
 refine⟨by simpa using e,fun j hj=>?_⟩
 have:=h j hj
 simp only[ZZ,ZR (show j<hs.length by omega)]at this
 simpa using this
theorem tR{hs:List j9}{d:BL}(h:∀ j,j<hs.length->((hs.getD j e9).na==d)=false):w9 hs d=hs.length:=by
 unfold w9
 rw[List.findIdx_eq_length]
 intro x hx
 obtain⟨j,hj,rfl⟩:=Zu.1 hx
 have:=h j hj
 simp only[ZZ,ZR hj]at this
 simpa using this
theorem Ag{hs:List j9}{d n:BL}{i:Nat}(hi:i<hs.length)(e:(hs.getD i e9).na=d)(h:∀ j,j<i->((hs.getD j e9).na==d)=false):aL hs d n=hs:=by
 unfold aL;rw[tF hi e h,if_pos hi]
theorem yY{hs:List j9}{d n:BL}(h:∀ j,j<hs.length->((hs.getD j e9).na==d)=false):aL hs d n=hs++[cf d n]:=by
 unfold aL;rw[tR h,if_neg Z9]
theorem nF{n a:BL}{hs:List j9}{se:List BL}(h: ¬ ej se a):bg n hs se a=hs:=if_neg h
theorem mW{a:BL}{se:List BL}(h: ¬ ej se a):df se a=se:=if_neg h
theorem uo{a:BL}{se:List BL}(h:ej se a):df se a=se++[a]:=if_pos h
theorem Jc{a:BL}{se:List BL}(h:(ar a).isSome=false\/60<=(se.length:Int)): ¬ ej se a:=fun c=>by
 rw[fQ]at h
 rcases h with h | h
 rw[c.1]at h;cases h
 have:=c.2.1;omega
theorem Kp{a:BL}{se:List BL}(h:se.contains a=true): ¬ ej se a:=fun c=>c.2.2 (List.contains_iff_mem.1 h)
theorem Bn{a:BL}{se:List BL}(h:(ar a).isSome=true/\(se.length:Int)<60)(h2:se.contains a=false):ej se a:=by
 rw[fQ]at h
 exact⟨h.1,Z9,fun c=>by rw[List.contains_iff_mem.2 c]at h2;cases h2⟩
theorem Gz{a:BL}{se:List BL}(h:ej se a):ar a=aA a/\(if aG (oA (ar a))=true then bD (oA (ar a)) else [])=pathOf a:=by
 have e:ar a=aA a:=if_pos h.1
 have hs:(aA a).isSome=true:=by have:=h.1;unfold aD at this;rw[ZX]at this;exact this.1
 exact⟨e,by rw[e,if_pos (jS hs)];rfl⟩
theorem DZ{n a:BL} {hs:List j9} {se:List BL} (h:ej se a) (hk:((aL hs (oA (ar a)).c9 n).getD (w9 hs (oA (ar a)).c9) e9).kn=true/\
 bh ((aL hs (oA (ar a)).c9 n).getD (w9 hs (oA (ar a)).c9) e9).gr.ru (if aG (oA (ar a))=true then bD (oA (ar a)) else [])=false):bg n hs se a=aL hs (oA (ar a)).c9 n:=by
 obtain⟨e1,e2⟩:=Gz h
 rw[e2,e1]at hk
 unfold bg
 rw[if_pos h,e1]
 unfold cL af
 rw[if_pos hk]
 apply List.ext_getElem Z8
 intro i h1 h2
 rw[List.getElem_set]
 split
 rename_i e;subst e;rw[ZZ,ZR h2];rfl
 rfl
theorem GN{n a:BL} {hs:List j9} {se:List BL} (h:ej se a) (hk:((aL hs (oA (ar a)).c9 n).getD (w9 hs (oA (ar a)).c9) e9).kn=true->
 bh ((aL hs (oA (ar a)).c9 n).getD (w9 hs (oA (ar a)).c9) e9).gr.ru (if aG (oA (ar a))=true then bD (oA (ar a)) else [])=true):
 bg n hs se a=(aL hs (oA (ar a)).c9 n).set (w9 hs (oA (ar a)).c9) { (aL hs (oA (ar a)).c9 n).getD (w9 hs (oA (ar a)).c9) e9 with td:=((aL hs (oA (ar a)).c9 n).getD (w9 hs (oA (ar a)).c9) e9).td++[⟨a,0⟩] }:=by
 obtain⟨e1,e2⟩:=Gz h
 rw[e2,e1]at hk
 unfold bg
 rw[if_pos h,e1]
 unfold cL af
 rw[if_neg (fun c=>by rw[hk c.1]at c;exact absurd c.2 Z6)]
theorem Di{n:BL}{c5:List BL}(h:bp n=false\/12<(c5.length:Int)):aN n c5=none:=if_neg fun c=>by
 rcases h with e | e
 rw[c.1]at e;cases e
 have:=c.2;omega
theorem CC{n:BL}{c5:List BL}(h:bp n=true/\(c5.length:Int)<=12):aN n c5=some (c5.foldl aE (aS n)):=if_pos ⟨h.1,by have:=h.2;omega⟩
theorem La{hs:List j9}{n:BL}(hg:∀ y,y∈hs->y.td.length<=1000/\y.gr.ru.length<=1000/\∀ i,(y.gr.ru.getD i ⟨false,[]⟩).path.length<=1000)(d:BL):
 let y:=(aL hs d n).getD (w9 hs d) e9
 y.td.length<=1000/\y.gr.ru.length<=1000/\∀ i,(y.gr.ru.getD i ⟨false,[]⟩).path.length<=1000:=by
 intro y
 have hm:y∈aL hs d n:=aI (d:=e9) (ff hs d n)
 unfold aL at hm
 split at hm
 exact hg y hm
 rcases ZN.1 hm with h | h
 exact hg y h
 rw[ZP.1 h];simp[cf]
def vr(n:BL)(a7:Int)(zs:List j9)(se:List BL)(ls:List l9)(gt:Nat)(d:BL):E7 Tryz.prog:=.mk (Nat×Nat×Nat) 77 [.ptr (.key 1000) [] gt 0,sV d] [(1000,(gt,bm n a7 zs se ls))] (zs.length<=1000) (fun x=>True) (fun x=>.ptr (.key 1000) [2,(w9 zs d)] x.1 (x.2.1+(w9 zs d)*8)) (fun x=>[(1000,(gt,bz n a7 (aL zs d n) x.1 x.2.1 x.2.2 se ls))]) (by
 intro hl
 refine eK (N:=59) (rs:=[.tmp 4]) (X:=Nat×Nat×Nat) (post:=fun x=>True) (E:=fun x=>.ptr (.key 1000) [2,(w9 zs d)] x.1 (x.2.1+(w9 zs d)*8)) (H':=fun x=>[(1000,(gt,.agg [sV n,iV a7,.own 8 ((aL zs d n).map aw) x.1 x.2.1 x.2.2,.ow 1 (se.map sV),.ow 3 (ls.map aX)]))]) Tryz.func77 Z7 rfl rfl rfl Z7 [(1000,(0,.b7))] (by intro _ k hk;simpa[lk] using hk)
  (.oR (.key 1000) [2] (fun g o c=>.q 1<|.r 6 [.b7]<|.loop (Nat) (fun (i:Nat)=>⟨[(0,.ptr (.key 1000) [] gt 0),(1,sV d),(10,iN zs.length),(11,iN i)],[(1000,(gt,bz n a7 zs g o c se ls))]⟩) (fun (i:Nat)=>i<=zs.length/\∀ j,j<i->((zs.getD j e9).na==d)=false) (fun (i:Nat)=>zs.length-i) (fun (i:Nat)=>.q 1<|.br (.q 2<|.r 10 [.b7,sV ((zs.getD i e9).na)]<|.br (.r 7 [.b7]<|.nil) (.q 2<|.nil)) (.dx 15 [0,1,2,3,4,5,6,7,8,9,10,11,12,13,14] [(4,⟨false,[],some [1000],[35],[]⟩),(9,⟨false,[],some [1000],[40],[]⟩),(14,⟨true,[],none,[45],[1000]⟩)] []<|.q 1<|.q 1<|.q 1<|.q 1<|.r 1 [.b7]<|.q 1<|.q 1<|.q 1<|.q 1<|.r 1 [.b7]<|.bs<|.bd iA<|.bd FG<|.bs<|.ux none (fun Mt Mp Np=>.h (.o4 45 (.own 8 (zs.map aw++[(.agg [sV d,iN 0,bV false,.agg [.sl true [sV n],.sl true [],iN 0],iN 0,.sl true []]:V)]) Mt Mp Np))<|.h (.OQ (.slot 45) [zs.length,5] Mt (Mp+(zs.length)*8+7) 2)<|.h (.o4 45 (.own 8 (zs.map aw++[(.agg [sV d,iN 0,bV false,.agg [.sl true [sV n],.sl true [],iN 0],iN 0,.own 2 ([].map ag) 0 0 0]:V)]) Mt Mp Np))<|.h (.OP (.slot 45) [zs.length] Mt (Mp+(zs.length)*8) (.agg [sV d,iN 0,bV false,.agg [.sl true [sV n],.sl true [],iN 0],iN 0,.own 2 ([].map ag) 0 0 0]) (.agg [sV d,iV 0,bV false,.agg [.sl false ([n].map sV),.sl false ([].map an),iN 0],iV 0,.ow 2 ([].map ag)]))<|.h (.o4 45 (.own 8 (zs.map aw++[(.agg [sV d,iV 0,bV false,.agg [.sl false ([n].map sV),.sl false ([].map an),iN 0],iV 0,.ow 2 ([].map ag)]:V)]) Mt Mp Np))<|.h (.o4 45 (.own 8 ((zs++[(cf d n)]).map aw) Mt Mp Np))<|.q 2<|.st none<|.dx 10 [0,1,2,3,4,5,6,7,8,9] [(3,⟨false,[],some [1000],[51],[]⟩),(7,⟨false,[],some [1000],[55],[]⟩)] []<|.q 1<|.q 1<|.q 1<|.r 1 [.b7]<|.q 1<|.q 1<|.q 1<|.r 1 [.b7]<|.q 1<|.q 1<|.h (.o4 57 (iN zs.length))<|.q 2<|.nil)))))
  ((fun v1:List V=>(fun v2:V=>(fun v3:V=>(fun v4:V=>(fun v5:Int=>(∀ g o c:Nat,(fun v6:V=>True/\Z gt 2/\(∃ h9:Nat,(h9<=zs.length/\∀ j,j<h9->((zs.getD j e9).na==d)=false)/\E (.ptr (.key 1000) [] gt 0)/\E (sV d)/\Q (iN ((zs.map aw).length)) (iN zs.length)/\Q (iN 0) (iN h9)/\Er gt v6/\True)/\∀ i:Nat,(i<=zs.length/\∀ j,j<i->((zs.getD j e9).na==d)=false)->Br (s4 (i:Int) (zs.length:Int)) (True/\Z gt 2/\In (i:Int) ((zs.map aw).length)/\(V.at gt 0 v6 [2,0+i,0]=some (g,(o+(0+i)*8+0),sV ((zs.getD i e9).na)))/\Br (((zs.getD i e9).na)==d) (True/\Z gt 2/\In (i:Int) ((zs.map aw).length)/\∃ x:Nat×Nat×Nat,(True)/\Q (.ptr (.key 1000) [2,(w9 zs d)] g (o+(0+i)*8)) (.ptr (.key 1000) [2,(w9 zs d)] x.1 (x.2.1+(w9 zs d)*8))/\Qr gt v6 gt (bz n a7 (aL zs d n) x.1 x.2.1 x.2.2 se ls)) (m6 ((i:Int)+1)/\∃ b9:Nat,(b9<=zs.length/\∀ j,j<b9->((zs.getD j e9).na==d)=false)/\(zs.length-b9<zs.length-i)/\E (.ptr (.key 1000) [] gt 0)/\E (sV d)/\E (iN zs.length)/\Q (iN (i+1)) (iN b9)/\Er gt v6/\True)) (True/\Z gt 2/\True/\Z gt 0/\(((8,8,g,o,c,(zs.map aw).length)=(8,8,g,o,c,(zs.map aw).length))/\(V.ay v1=false)/\(aC 8 v1)/\(((zs.map aw).length+v1.length)*120<=140737488355328))/\∀ Mt Mp Np:Nat,((.own 8 ((zs.map aw)++v1) Mt Mp Np:V)=.own 8 (zs.map aw++[v3]) Mt Mp Np)/\(V.at Mt Mp (.own 8 (zs.map aw++[v3]) Mt Mp Np) [zs.length,5]=some (Mt,Mp+(zs.length)*8+7,.sl true []))/\(V.set (.own 8 (zs.map aw++[v3]) Mt Mp Np) [zs.length,5] (.own 2 ([].map ag) 0 0 0)=.own 8 (zs.map aw++[v2]) Mt Mp Np)/\(V.at Mt Mp (.own 8 (zs.map aw++[v2]) Mt Mp Np) [zs.length]=some (Mt,Mp+(zs.length)*8,.agg [sV d,iN 0,bV false,.agg [.sl true [sV n],.sl true [],iN 0],iN 0,.own 2 ([].map ag) 0 0 0]))/\(V.set (.own 8 (zs.map aw++[v2]) Mt Mp Np) [zs.length] (.agg [sV d,iV 0,bV false,.agg [.sl false ([n].map sV),.sl false ([].map an),iN 0],iV 0,.ow 2 ([].map ag)])=.own 8 (zs.map aw++[v4]) Mt Mp Np)/\((.own 8 (zs.map aw++[v4]) Mt Mp Np:V)=.own 8 ((zs++[(cf d n)]).map aw) Mt Mp Np)/\True/\Z gt 2/\True/\Z gt 2/\True/\Z gt 2/\m6 (v5-1)/\Q (iV (v5-1)) (iN zs.length)/\In (zs.length:Int) (((zs++[(cf d n)]).map aw).length)/\∃ x:Nat×Nat×Nat,(True)/\Q (.ptr (.key 1000) [2,(w9 zs d)] Mt (Mp+(0+zs.length)*8)) (.ptr (.key 1000) [2,(w9 zs d)] x.1 (x.2.1+(w9 zs d)*8))/\Qr gt (bz n a7 (zs++[(cf d n)]) Mt Mp Np se ls) gt (bz n a7 (aL zs d n) x.1 x.2.1 x.2.2 se ls))) (bz n a7 zs g o c se ls))) ((((zs++[(cf d n)]).map aw).length:Nat):Int)) (.agg [sV d,iV 0,bV false,.agg [.sl false ([n].map sV),.sl false ([].map an),iN 0],iV 0,.ow 2 ([].map ag)]:V)) (.agg [sV d,iN 0,bV false,.agg [.sl true [sV n],.sl true [],iN 0],iN 0,.sl true []]:V)) (.agg [sV d,iN 0,bV false,.agg [.sl true [sV n],.sl true [],iN 0],iN 0,.own 2 ([].map ag) 0 0 0]:V)) ([.agg [sV d,iN 0,bV false,.agg [.sl true [sV n],.sl true [],iN 0],iN 0,.sl true []]]:List V))
  Z7 ?_
 intro g o c
 refine⟨trivial,rfl,?_⟩
 refine⟨⟨0,?_,rfl,rfl,Z4,rfl,rfl,trivial⟩,?_⟩
 simp
 rintro i ⟨h1,h2⟩
 refine bI (fun j7=>?_) fun j7=>?_
 · refine⟨trivial,rfl,Z2,(aK (f:=2) rfl).trans (az (by rw[ZO];exact aj (d:=e9) Z9) rfl),?_⟩
   refine bI (fun l4=>?_) fun l4=>?_
   · refine⟨trivial,rfl,Z2,?_⟩
     refine⟨(g,o,c),?_,?_,?_⟩
     · try dsimp only
       all_goals trivial
     first | (rw[tF (i:=i) Z9 l4 h2,ZO]) | (rw[tR (fun j hj=>h2 j Z9),ZO])
     first | (rw[Ag (i:=i) Z9 l4 h2]) | (rw[yY (fun j hj=>h2 j Z9)])
   refine⟨Z9,?_⟩
   refine⟨i+1,?_,?_,rfl,rfl,rfl,rfl,rfl,trivial⟩
   exact⟨Z9,bE h2 (by simpa using l4)⟩
   exact Z1
 · refine⟨trivial,rfl,trivial,rfl,⟨rfl,rfl,by simp[aC,V.n,V.ns],Z0⟩,?_⟩
   intro Mt Mp Np
   refine⟨Zo (V.own 8 · Mt Mp Np) (rfl),az (aR) rfl,aP (aR) (de),fC aR,lJ (aR) (de),Zo (V.own 8 · Mt Mp Np) (by rw[Zz (f:=aw)];rfl),trivial,rfl,trivial,rfl,trivial,rfl,by(try simp only[ZM]at *);(try simp only[ZW,ZM,ZU,ZQ]);omega,by unfold Q;refine Zo iV ?_;simp,by(try simp only[ZM]at *);(try simp only[ZW,ZM,ZU,ZQ]);omega,?_⟩
   refine⟨(Mt,Mp,Np),?_,?_,?_⟩
   · try dsimp only
     all_goals trivial
   first | (rw[tF (i:=i) Z9 l4 h2,ZO]) | (rw[tR (fun j hj=>h2 j Z9),ZO])
   first | (rw[Ag (i:=i) Z9 l4 h2]) | (rw[yY (fun j hj=>h2 j Z9)]))
def tG(n:BL)(a7:Int)(zs:List j9)(se:List BL)(ls:List l9)(gt:Nat)(a:BL):o8 Tryz.prog:=.mk 47 [.ptr (.key 1000) [] gt 0,sV a] [(1000,(gt,bm n a7 zs se ls))] ((zs.length<=1000)/\(se.length<=1000)/\(a.length<=1000000)/\(m4 a)/\(∀ y,y∈zs->y.td.length<=1000/\y.gr.ru.length<=1000/\∀ i,(y.gr.ru.getD i ⟨false,[]⟩).path.length<=1000)) (.tup []) [(1000,(gt,bm n a7 (bg n zs se a) (df se a) ls))] (by
 rintro⟨hl,M8,ha,hc,hg⟩
 refine aq (N:=70) (rs:=[]) Tryz.func47
  (.oR (.key 1000) [3] (fun gs os cs=>.q 1<|.c (cI a) []<|.q 3<|.al cY (fun g4=>.st none<|.q 1<|.r 10 [.b7]<|.sp ((!((ar a).isSome))||(x6 (((se.map sV).length:Nat):Int) 60)) (.h (.o4 21 (bV true))<|.q 1<|.gf (.b7)<|.gf (.b7)<|.gf (.b7)<|.gf (.b7)<|.gf (.b7)<|.gf (bV false)<|.q 1<|.br (.nil) (.nil)) (.h (.o4 21 (bV false))<|.q 1<|.gt<|.q 1<|.gt<|.q 1<|.gt<|.q 1<|.gt<|.r 1 [.b7]<|.gt<|.q 1<|.gt<|.cl (oU se a)<|.q 1<|.br (.nil) (.r 6 [.b7]<|.bs<|.ap (fun Nn Tv T8=>.h (.o4 37 (.own 1 ((se++[a]).map sV) Nn Tv T8))<|.q 2<|.st none<|.r 3 [.b7]<|.cx (vr n a7 zs (se++[a]) ls gt ((oA (ar a)).c9)) [(1000,1000)] (fun (m5:Nat×Nat×Nat)=>.q 1<|.ex (List j9×Nat) (fun x=>((aL zs (oA (ar a)).c9 n),(w9 zs (oA (ar a)).c9))=x) (fun (x:List j9×Nat)=>.h (.z6 1000 (bz n a7 x.1 m5.1 m5.2.1 m5.2.2 (se++[a]) ls))<|.h (.o4 43 (.ptr (.key 1000) [2,x.2] m5.1 (m5.2.1+x.2*8)))<|.h (.o4 6 (.ptr (.key 1000) [2,x.2] m5.1 (m5.2.1+x.2*8)))<|.dx 15 [0,1,2,3,4,5,6,7,8,9,10,11,12,13,14] [(3,⟨false,[],some [1000],[47],[]⟩),(9,⟨false,[],some [1000],[53],[]⟩),(10,⟨false,[],some [4],[54],[]⟩)] []<|.q 1<|.q 1<|.q 1<|.r 1 [bV ((x.1.getD x.2 e9).kn)]<|.q 1<|.q 1<|.q 1<|.q 1<|.q 1<|.r 1 [eh ((x.1.getD x.2 e9).gr.ru)]<|.r 1 [.b7]<|.cg (kM (oA (ar a)))<|.cg (kf ((x.1.getD x.2 e9).gr.ru) (if aG (oA (ar a))=true then bD (oA (ar a)) else []))<|.q 1<|.q 1<|.br (.nil) (.ex (j9) (fun y=>(x.1.getD x.2 e9)=y) (fun (y:j9)=>.h (.z6 1000 (cC n a7 x.1 x.2 y.na y.re y.kn y.gr.na y.gr.ru y.gr.wa y.tr y.td m5.1 m5.2.1 m5.2.2 (se++[a]) ls))<|.Pv (.key 1000) [2,x.2,5] m5.1 (m5.2.1+(x.2)*8+7) 2 (y.td.map ag) (fun gA Nj cA=>.h (.z6 1000 (bc n a7 x.1 x.2 y.na y.re y.kn y.gr.na y.gr.ru y.gr.wa y.tr y.td gA Nj cA m5.1 m5.2.1 m5.2.2 (se++[a]) ls))<|.r 6 [.own 2 (y.td.map ag) gA Nj cA]<|.bd og<|.bs<|.W4 (y.td.map ag) m5.1 (m5.2.1+(x.2)*8+7) (fun PB Pw PH=>.h (.o4 67 (.own 2 ((y.td++[(⟨a,0⟩:u0)]).map ag) PB Pw PH))<|.h (.z6 1000 (kR n a7 x.1 x.2 y.na y.re y.kn y.gr.na y.gr.ru y.gr.wa y.tr m5.1 m5.2.1 m5.2.2 (se++[a]) ls))<|.q 2<|.st (some (.b7))<|.h (.z6 1000 (bc n a7 x.1 x.2 y.na y.re y.kn y.gr.na y.gr.ru y.gr.wa y.tr (y.td++[(⟨a,0⟩:u0)]) PB Pw PH m5.1 m5.2.1 m5.2.2 (se++[a]) ls))<|.h (.OP (.key 1000) [2,x.2,5] m5.1 (m5.2.1+(x.2)*8+7) (.own 2 ((y.td++[(⟨a,0⟩:u0)]).map ag) PB Pw PH) (.ow 2 ((y.td++[(⟨a,0⟩:u0)]).map ag)))<|.h (.z6 1000 (cC n a7 x.1 x.2 y.na y.re y.kn y.gr.na y.gr.ru y.gr.wa y.tr (y.td++[(⟨a,0⟩:u0)]) m5.1 m5.2.1 m5.2.2 (se++[a]) ls))<|.h (.z6 1000 (bz n a7 (x.1.set x.2 ({ y with td:=y.td++[⟨a,0⟩] }:j9)) m5.1 m5.2.1 m5.2.2 (se++[a]) ls))<|.nil))))))))))))
  ((fun v1:V=>(fun v2:Bool=>(fun v3:Bool=>(fun v4:List V=>(∀ gs os cs:Nat,(cI a).sm/\((a.length<=1000000)/\(m4 a))/\∀ g4:Nat,Z g4 0/\Gd (v3==false) True/\Gd (v3==false) (Z gt 3)/\Pk v3 true (v3==false)/\((v3||v2)=true->((bV (v3||v2):V)=bV true)/\(false=false)/\(false=false)/\(false=false)/\(false=false)/\(false=false)/\(false=false)/\Pk true true false/\Br (true||false) (Q (.tup []) (.tup [])/\Qr gt (bm n a7 zs se ls) gt v1) (False))/\((v3||v2)=false->((bV (v3||v2):V)=bV false)/\(true=true)/\(true=true)/\True/\(true=true)/\(true=true)/\Z gt 3/\(true=true)/\(true=true)/\(((1=1/\gs=gs/\os=os)/\0+((se.map sV).length)<=(se.map sV).length/\V.ay (se.map sV)=false/\aC 1 (se.map sV))/\True)/\(([.sl false (((se.map sV).drop 0).take ((se.map sV).length)),sV a]:List V)=[ao se,sV a])/\((se.length<=1000000))/\Pk false true true/\Br (false||(se.contains a)) (Q (.tup []) (.tup [])/\Qr gt (bm n a7 zs se ls) gt v1) (True/\Z gt 3/\((1,1,gs,os,cs,(se.map sV).length)=(1,1,gs,os,cs,(se.map sV).length))/\(True)/\(V.ay ([sV a]:List V)=false)/\(aC 1 ([sV a]:List V))/\(((se.map sV).length+([sV a]:List V).length)*16<=140737488355328)/\∀ Nn Tv T8:Nat,((.own 1 ((se.map sV)++([sV a]:List V)) Nn Tv T8:V)=.own 1 ((se++[a]).map sV) Nn Tv T8)/\True/\Z gt 3/\Z g4 0/\(vr n a7 zs (se++[a]) ls gt ((oA (ar a)).c9)).sm/\Er gt (bm n a7 zs (se++[a]) ls)/\((zs.length<=1000))/\∀ m5:Nat×Nat×Nat,(True)->(fun v5:V=>(∃ x:List j9×Nat,((aL zs (oA (ar a)).c9 n),(w9 zs (oA (ar a)).c9))=x)/\∀ x:List j9×Nat,(((aL zs (oA (ar a)).c9 n),(w9 zs (oA (ar a)).c9))=x)->(fun v6:j9=>(fun v7:V=>((bz n a7 (aL zs ((oA (ar a)).c9) n) m5.1 m5.2.1 m5.2.2 (se++[a]) ls:V)=bz n a7 x.1 m5.1 m5.2.1 m5.2.2 (se++[a]) ls)/\(v5=.ptr (.key 1000) [2,x.2] m5.1 (m5.2.1+x.2*8))/\(v5=.ptr (.key 1000) [2,x.2] m5.1 (m5.2.1+x.2*8))/\True/\(V.at gt 0 v7 [2,x.2,2]=some (m5.1,(m5.2.1+x.2*8+2),bV (v6.kn)))/\Gd ((v6.kn)==true) (((v6.kn)==true)=true)/\Gd ((v6.kn)==true) True/\Gd ((v6.kn)==true) (((v6.kn)==true)=true)/\Gd ((v6.kn)==true) (((v6.kn)==true)=true)/\Gd ((v6.kn)==true) (((v6.kn)==true)=true)/\Gd ((v6.kn)==true) (V.at gt 0 v7 [2,x.2,3,1]=some (m5.1,(m5.2.1+x.2*8+3+1),eh (v6.gr.ru)))/\Gd ((v6.kn)==true) (Z g4 0)/\Gd ((v6.kn)==true) (((v6.kn)==true)=true)/\Gd ((v6.kn)==true) (((cy (oA (ar a))))/\(kM (oA (ar a))).sm)/\Gd ((v6.kn)==true) (((v6.kn)==true)=true)/\Gd ((v6.kn)==true) (((v6.kn)==true)=true)/\Gd ((v6.kn)==true) ((((v6.gr.ru).length<=1000000)/\(∀ i,((v6.gr.ru).getD i ⟨false,[]⟩).path.length<=1000000)/\((if aG (oA (ar a))=true then bD (oA (ar a)) else []).length<=1000000))/\(kf (v6.gr.ru) (if aG (oA (ar a))=true then bD (oA (ar a)) else [])).sm)/\Gd ((v6.kn)==true) (((v6.kn)==true)=true)/\Pk (v6.kn) ((v6.kn)==true) true/\Br ((v6.kn)&&(!(bh (v6.gr.ru) (if aG (oA (ar a))=true then bD (oA (ar a)) else [])))) (Q (.tup []) (.tup [])/\Qr gt (bm n a7 x.1 (se++[a]) ls) gt v1) ((∃ y:j9,v6=y)/\∀ y:j9,(v6=y)->(fun v8:V=>(fun v9:V=>((bz n a7 x.1 m5.1 m5.2.1 m5.2.2 (se++[a]) ls:V)=cC n a7 x.1 x.2 y.na y.re y.kn y.gr.na y.gr.ru y.gr.wa y.tr y.td m5.1 m5.2.1 m5.2.2 (se++[a]) ls)/\(V.at gt 0 v8 [2,x.2,5]=some (m5.1,m5.2.1+(x.2)*8+7,.ow 2 (y.td.map ag)))/\∀ gA Nj cA:Nat,(fun v10:V=>(V.set v8 [2,x.2,5] (.own 2 (y.td.map ag) gA Nj cA)=bc n a7 x.1 x.2 y.na y.re y.kn y.gr.na y.gr.ru y.gr.wa y.tr y.td gA Nj cA m5.1 m5.2.1 m5.2.2 (se++[a]) ls)/\True/\(V.at gt 0 v10 [2,x.2,5]=some (m5.1,(m5.2.1+x.2*8+7),.own 2 (y.td.map ag) gA Nj cA))/\((V.at gt 0 v10 [2,x.2,5]=some (m5.1,m5.2.1+(x.2)*8+7,.own 2 (y.td.map ag) gA Nj cA))/\2=2/\(y.td.map ag).length=(y.td.map ag).length)/\(True)/\(V.ay v4=false)/\(aC 2 v4)/\(((y.td.map ag).length+v4.length)*24<=140737488355328)/\∀ PB Pw PH:Nat,(fun v11:V=>((.own 2 ((y.td.map ag)++v4) PB Pw PH:V)=.own 2 ((y.td++[(⟨a,0⟩:u0)]).map ag) PB Pw PH)/\(V.set v10 [2,x.2,5] (.b7)=kR n a7 x.1 x.2 y.na y.re y.kn y.gr.na y.gr.ru y.gr.wa y.tr m5.1 m5.2.1 m5.2.2 (se++[a]) ls)/\True/\(V.at gt 0 v9 [2,x.2,5]=some (m5.1,(m5.2.1+x.2*8+7),.b7))/\(V.set v9 [2,x.2,5] (.own 2 ((y.td++[(⟨a,0⟩:u0)]).map ag) PB Pw PH)=bc n a7 x.1 x.2 y.na y.re y.kn y.gr.na y.gr.ru y.gr.wa y.tr (y.td++[(⟨a,0⟩:u0)]) PB Pw PH m5.1 m5.2.1 m5.2.2 (se++[a]) ls)/\(V.at gt 0 v11 [2,x.2,5]=some (m5.1,m5.2.1+(x.2)*8+7,.own 2 ((y.td++[(⟨a,0⟩:u0)]).map ag) PB Pw PH))/\(V.set v11 [2,x.2,5] (.ow 2 ((y.td++[(⟨a,0⟩:u0)]).map ag))=cC n a7 x.1 x.2 y.na y.re y.kn y.gr.na y.gr.ru y.gr.wa y.tr (y.td++[(⟨a,0⟩:u0)]) m5.1 m5.2.1 m5.2.2 (se++[a]) ls)/\((cC n a7 x.1 x.2 y.na y.re y.kn y.gr.na y.gr.ru y.gr.wa y.tr (y.td++[(⟨a,0⟩:u0)]) m5.1 m5.2.1 m5.2.2 (se++[a]) ls:V)=bz n a7 (x.1.set x.2 ({ y with td:=y.td++[⟨a,0⟩] }:j9)) m5.1 m5.2.1 m5.2.2 (se++[a]) ls)/\Q (.tup []) (.tup [])/\Qr gt (bm n a7 (x.1.set x.2 ({ y with td:=y.td++[⟨a,0⟩] }:j9)) (se++[a]) ls) gt v1) (bc n a7 x.1 x.2 y.na y.re y.kn y.gr.na y.gr.ru y.gr.wa y.tr (y.td++[(⟨a,0⟩:u0)]) PB Pw PH m5.1 m5.2.1 m5.2.2 (se++[a]) ls)) (bc n a7 x.1 x.2 y.na y.re y.kn y.gr.na y.gr.ru y.gr.wa y.tr y.td gA Nj cA m5.1 m5.2.1 m5.2.2 (se++[a]) ls)) (kR n a7 x.1 x.2 y.na y.re y.kn y.gr.na y.gr.ru y.gr.wa y.tr m5.1 m5.2.1 m5.2.2 (se++[a]) ls)) (cC n a7 x.1 x.2 y.na y.re y.kn y.gr.na y.gr.ru y.gr.wa y.tr y.td m5.1 m5.2.1 m5.2.2 (se++[a]) ls))) (bz n a7 x.1 m5.1 m5.2.1 m5.2.2 (se++[a]) ls)) (x.1.getD x.2 e9)) (.ptr (.key 1000) [2,(w9 zs ((oA (ar a)).c9))] m5.1 (m5.2.1+(w9 zs ((oA (ar a)).c9))*8):V))))) ([.agg [sV a,iN 0]]:List V)) (!((ar a).isSome))) (x6 (((se.map sV).length:Nat):Int) 60)) (bm n a7 (bg n zs se a) (df se a) ls)) ?_
 intro gs os cs
 refine⟨rfl,⟨ha,hc⟩,?_⟩
 intro g4
 refine⟨rfl,fun hG=>trivial,fun hG=>rfl,⟨fun _=>rfl,fun h=>by rw[h] <;> rfl⟩,?_⟩
 refine⟨fun MY=>?_,fun MY=>?_⟩
 · have H4:=MY
   try simp only[nb]at H4
   refine⟨Zo bV MY,rfl,rfl,rfl,rfl,rfl,rfl,⟨fun _=>rfl,fun h=>by rw[h] <;> rfl⟩,?_⟩
   refine bI (fun j7=>?_) fun j7=>?_
   refine⟨?_,by rw[nF (n:=n) (hs:=zs) (Jc H4),mW (Jc H4)]⟩
   unfold Q
   rfl
   · all_goals (first | exact absurd j7 Z6 | simp_all)
 have H4:=MY
 try simp only[nb]at H4
 refine⟨Zo bV MY,rfl,rfl,trivial,rfl,rfl,rfl,rfl,rfl,⟨⟨⟨rfl,rfl,rfl⟩,Z8,ct (f:=sV) (fun _=>rfl) _,dU (f:=sV) (fun _=>rfl) _⟩,trivial⟩,by simp[ZL],Z9,⟨fun _=>rfl,fun _=>rfl⟩,?_⟩
 refine bI (fun l4=>?_) fun l4=>?_
 refine⟨?_,by rw[nF (n:=n) (hs:=zs) (Kp (l4.resolve_left Z6)),mW (Kp (l4.resolve_left Z6))]⟩
 unfold Q
 rfl
 refine⟨trivial,rfl,rfl,trivial,rfl,by simp[aC,V.n,V.ns],by(try simp only[ZW,ZM,ZU,ZQ]);omega,?_⟩
 intro Nn Tv T8
 refine⟨Zo (V.own 1 · Nn Tv T8) Z8,trivial,rfl,rfl,rfl,rfl,hl,?_⟩
 intro m5 Uz
 have Wz:=ff zs (oA (ar a)).c9 n
 have WC:=rW zs (oA (ar a)).c9 n
 have TV:=La (n:=n) hg (oA (ar a)).c9
 refine⟨⟨_,rfl⟩,?_⟩
 intro x hx
 have V6:(aL zs (oA (ar a)).c9 n)=x.1:=by rw[<- hx]
 have L0:(w9 zs (oA (ar a)).c9)=x.2:=by rw[<- hx]
 rw[V6,L0]at Wz TV
 rw[V6]at WC
 refine⟨by rw[V6],(by rw[L0]),(by rw[L0]),trivial,(aK (f:=2) rfl).trans (az (aj (d:=e9) Z9) rfl),fun h=>h,fun hG=>trivial,fun h=>h,fun h=>h,fun h=>h,fun hG=>(aK (f:=2) rfl).trans (az (aj (d:=e9) Z9) rfl),fun hG=>rfl,fun h=>h,fun hG=>⟨by(try simp only[nb]at hG);exact pC _,rfl⟩,fun h=>h,fun h=>h,fun hG=>⟨⟨by(try simp only[nb]at hG);have:=TV.2.1;omega,fun i=>by have:=TV.2.2 i;omega,by(try simp only[nb]at hG);have:=(pC a).path;split <;> simp <;> omega⟩,rfl⟩,fun h=>h,⟨fun h=>by rw[h] <;> rfl,fun _=>rfl⟩,?_⟩
 refine bI (fun m8=>?_) fun m8=>?_
 refine⟨?_,by obtain rfl:=hx;simp only at m8 ⊢;rw[DZ (Bn H4 l4.2) m8,uo (Bn H4 l4.2)]⟩
 unfold Q
 rfl
 refine⟨⟨_,rfl⟩,?_⟩
 intro y hy
 rw[hy]at TV
 refine⟨Ni (Zo (V.own 8 · m5.1 m5.2.1 m5.2.2) (splitN hy (Wz))),(aK (f:=2) rfl).trans (az (aB Z9) rfl),?_⟩
 intro gA Nj cA
 refine⟨dz (aP (aB Z9) (cH Z9)),trivial,(aK (f:=2) rfl).trans (az (aB Z9) rfl),⟨(aK (f:=2) rfl).trans (az (aB Z9) rfl),rfl,rfl⟩,trivial,rfl,by simp[aC,V.n,V.ns],by(try simp only[ZW,ZM,ZU,ZQ]);omega,?_⟩
 intro PB Pw PH
 refine⟨Zo (V.own 2 · PB Pw PH) Z8,dz (aP (aB Z9) (cH Z9)),trivial,(aK (f:=2) rfl).trans (az (aB Z9) rfl),dz (aP (aB Z9) (cH Z9)),(aK (f:=2) rfl).trans (az (aB Z9) rfl),dz (aP (aB Z9) (cH Z9)),Ni (Zo (V.own 8 · m5.1 m5.2.1 m5.2.2) (jV (f:=aw) (x:=({ y with td:=y.td++[⟨a,0⟩] }:j9)) (Wz))),?_⟩
 refine⟨?_,by subst hy;obtain rfl:=hx;simp only at m8 ⊢;rw[GN (Bn H4 l4.2) m8,uo (Bn H4 l4.2)]⟩
 unfold Q
 rfl)
abbrev kD(n:BL)(c5:List BL):V:=.tup [bm ((oT (aN n c5)).na) ((oT (aN n c5)).a7) ((oT (aN n c5)).hs) ((oT (aN n c5)).se) ((oT (aN n c5)).lk),bV ((aN n c5).isSome)]
def uZ(n:BL)(c5:List BL):o8 Tryz.prog:=.mk 24 [sV n,ao c5] [] ((n.length<=1000)/\(c5.length<=1000)/\(∀ x,x∈c5->x.length<=1000/\m4 x)) (kD n c5) [] (by
 rintro⟨hn,hl,ha⟩
 refine aq (N:=30) (rs:=[.cell 4 30,.tmp 5]) Tryz.func24
  (.al fP (fun g4=>.q 1<|.q 1<|.c (jE n) []<|.q 6<|.br (.bd fP<|.st none<|.q 1<|.h (.A4 (.key 4) [2] 8)<|.h (.A4 (.key 4) [3] 1)<|.h (.A4 (.key 4) [4] 3)<|.nil) (.q 1<|.bd fP<|.al fP (fun g6=>.st none<|.h (.A4 (.key 6) [2] 8)<|.h (.A4 (.key 6) [3] 1)<|.h (.A4 (.key 6) [4] 3)<|.q 3<|.loop (Nat×(List j9)×(List BL)) (fun (i,zs,se)=>⟨[(4,.ptr (.key 4) [] g4 0),(6,.ptr (.key 6) [] g6 0),(20,ao c5),(21,iN c5.length),(22,iN i)],[(4,(g4,.agg [sV [],iN 0,.sl true [],.sl true [],.sl true []])),(6,(g6,km n zs se (.ow 3 ([].map aX))))]⟩) (fun (i,zs,se)=>i<=c5.length/\zs=((c5.take i).foldl aE (aS n)).hs/\se=((c5.take i).foldl aE (aS n)).se) (fun (i,zs,se)=>c5.length-i) (fun (i,zs,se)=>.q 1<|.br (.r 3 [sV (c5.getD i [])]<|.q 1<|.c (tG n (0:Int) zs se ([]:List l9) g6 (c5.getD i [])) [(1000,6)]<|.q 2<|.nil) (.mv<|.st none<|.q 1<|.nil))))))
  ((fun v1:V=>(∀ g4:Nat,(jE n).sm/\((n.length<=4611686018427387904))/\Pk (!(bp n)) true ((!(bp n))==false)/\Br ((!(bp n))||(s7 (((c5.map sV).length:Nat):Int) 12)) (Z g4 0/\(g4=g4)/\Q (.tup [.agg [sV [],iN 0,.ow 8 ([].map aw),.ow 1 ([].map sV),.ow 3 ([].map aX)],bV false]) (kD n c5)) (∀ g6:Nat,Z g6 0/\(∃ x:Nat×(List j9)×(List BL),match x with | (h9,NQ,N0)=>(h9<=c5.length/\NQ=((c5.take h9).foldl aE (aS n)).hs/\N0=((c5.take h9).foldl aE (aS n)).se)/\E (.ptr (.key 4) [] g4 0)/\E (.ptr (.key 6) [] g6 0)/\E (ao c5)/\Q (iN ((c5.map sV).length)) (iN c5.length)/\Q (iN 0) (iN h9)/\Er g4 v1/\Qr g6 (.agg [sV n,iN 0,.ow 8 ([].map aw),.ow 1 ([].map sV),.ow 3 ([].map aX)]) g6 (km n NQ N0 (.ow 3 ([].map aX)))/\True)/\∀ x:Nat×(List j9)×(List BL),match x with | (i,zs,se)=>(i<=c5.length/\zs=((c5.take i).foldl aE (aS n)).hs/\se=((c5.take i).foldl aE (aS n)).se)->Br (s4 (i:Int) (c5.length:Int)) (Ex (i:Int) (c5.map sV) (sV (c5.getD i []))/\True/\(tG n (0:Int) zs se ([]:List l9) g6 (c5.getD i [])).sm/\Er g6 (bm n (0:Int) zs se ([]:List l9))/\((zs.length<=1000)/\(se.length<=1000)/\((c5.getD i []).length<=1000000)/\(m4 (c5.getD i []))/\(∀ y,y∈zs->y.td.length<=1000/\y.gr.ru.length<=1000/\∀ i,(y.gr.ru.getD i ⟨false,[]⟩).path.length<=1000))/\m6 ((i:Int)+1)/\∃ x:Nat×(List j9)×(List BL),match x with | (b9,Mv,Mx)=>(b9<=c5.length/\Mv=((c5.take b9).foldl aE (aS n)).hs/\Mx=((c5.take b9).foldl aE (aS n)).se)/\(c5.length-b9<c5.length-i)/\E (.ptr (.key 4) [] g4 0)/\E (.ptr (.key 6) [] g6 0)/\E (ao c5)/\E (iN c5.length)/\Q (iN (i+1)) (iN b9)/\Er g4 v1/\Qr g6 (bm n (0:Int) (bg n zs se (c5.getD i [])) (df se (c5.getD i [])) ([]:List l9)) g6 (km n Mv Mx (.ow 3 ([].map aX)))/\True) (Z g6 0/\Z g4 0/\(g4=g4)/\Q (.tup [km n zs se (.ow 3 ([].map aX)),bV true]) (kD n c5))))) (.agg [sV [],iN 0,.sl true [],.sl true [],.sl true []])) ?_
 intro g4
 refine⟨rfl,Z9,⟨fun _=>rfl,fun h=>by rw[h] <;> rfl⟩,?_⟩
 refine bI (fun j7=>?_) fun j7=>?_
 refine⟨rfl,?_⟩
 refine⟨rfl,?_⟩
 unfold Q kD
 rw[Di j7];rfl
 intro g6
 refine⟨rfl,?_⟩
 refine⟨⟨(0,[],[]),?_,rfl,rfl,rfl,Z4,rfl,rfl,Z4,trivial⟩,?_⟩
 exact⟨Z8,rfl,rfl⟩
 rintro⟨i,zs,se⟩ ⟨h1,h2,h3⟩
 have L1:=jJ n (c5.take i) (kB n)
 rw[List.length_take]at L1
 refine bI (fun l4=>?_) fun l4=>?_
 have hm:=ha _ (oM (show i<c5.length by omega))
 refine⟨⟨Z9,aj (d:=[]) Z9⟩,trivial,rfl,rfl,⟨by rw[h2];have:=L1.hl;omega,by rw[h3];have:=L1.sl;omega,Z9,hm.2,fun y hy=>by rw[h2]at hy;obtain⟨a1,a2,a3,_⟩:=L1.hs y hy;rw[a2];exact⟨Z9,Z8,Z8⟩⟩,Z9,?_⟩
 refine⟨(i+1,bg n zs se (c5.getD i []),df se (c5.getD i [])),?_,?_,rfl,rfl,rfl,rfl,rfl,rfl,Z4,trivial⟩
 rw[foldl_succ (d:=[]) Z9,h2,h3]
 exact⟨Z9,by show _=bg ((c5.take i).foldl aE (aS n)).na ((c5.take i).foldl aE (aS n)).hs ((c5.take i).foldl aE (aS n)).se _;rw[L1.na],rfl⟩
 exact Z1
 refine⟨rfl,rfl,?_⟩
 refine⟨rfl,?_⟩
 unfold Q kD
 rw[ZL Z9]at h2 h3 L1
 rw[CC j7,h2,h3]
 refine Zo (fun r:V=>V.tup [r,bV true]) ?_
 show V.agg _=wB (c5.foldl aE (aS n))
 rw[wB,L1.na,L1.a7,L1.lk])
section
variable {P:Program}
def Vk(xs:List V):Cu P where
 X:={b:Bool // b=true->xs=[]}
 pre N o A:=match o.op,o.dst with
  | .binOp .eql T x (.const (.slice none 0 0)) _,some d=>match tD P T,Nat.blt d N with
    | some (.sl _),true=>match A.ev x with
      | .sl _ ys=>ys=xs
      | _=>False
    | _,_=>False
  | _,_=>False
 post b o A:=match o.dst with
  | some d=>A.put (some d) (.lit (.bool b.1))
  | none=>A
 ok:=by
  rintro N ⟨dst,op,ty,pos,after,B9⟩ A K-hp hK
  simp only at hp hK
  split at hp
  rename_i T x yt d
  split at hp
  rename_i e e1 e2
  split at hp
  rename_i f ys e3
  subst hp
  obtain⟨td,hu,hd⟩:=cb e1
  obtain⟨et,hu⟩:∃ et,P.underlying T=some (.slice et):=by
   cases td <;> simp_all[da]
  intro Pb Kb a w F Q hs
  obtain⟨_,hx⟩:=dr hs x
  rw[e3]at hx
  have hx:R w Pb (.sl f ys) [a.eval x] _:=hx
  obtain⟨_,B,c,hc,hle,_,QX⟩:=hx
  simp only[List.cons.injEq,and_true]at hc
  have L0:(execOp a.eval ⟨some d,.binOp .eql T x (.const (.slice none 0 0)) yt,ty,pos,after,B9⟩).run P w=.ok (.value (.bool B.isNone)) w:=by
   have S1:∀ q,(Op.equalIn (q+1) T (.slice B ys.length c) (.slice none 0 0)).run P w=.ok B.isNone w:=fun q=>by
    unfold Op.equalIn
    rw[ZK,run_underlying hu]
    cases B <;> rfl
   have hq:(binOp .eql T (.slice B ys.length c) (.slice none 0 0)).run P w=.ok (.bool B.isNone) w:=by
    show ((Op.equalIn (9999+1) T (.slice B ys.length c) (.slice none 0 0)) >>= fun b=>pure (Value.bool b)).run P w=_
    rw[ZK,S1];rfl
   have hy:a.eval (.const (.slice none 0 0))=.slice none 0 0:=rfl
   simp only[execOp,hc,hy,ZK,qI .eql T x (.const (.slice none 0 0)) (u:=.slice B ys.length c) (v:=.slice none 0 0) (fun _ h=>by cases h) (fun h=>by cases h),ZS,hq,ZJ]
  obtain⟨F',x5⟩:=hs.nT (d:=some d) (v:=.lit (.bool B.isNone)) (bu e2) (cU rfl)
  unfold Oper.wp
  rw[L0,Oper.upon_value]
  refine⟨_,Pb,Kb,F',hK ⟨B.isNone,fun h=>?_⟩,x5,fun _ h=>h,fun _ h=>h,fun _ h=>.inl h,w5.refl _ _⟩
  rcases QX with h1 | ⟨_,_,_,_,rfl,_⟩
  exact h1
  cases h
  exact hp.elim
  exact hp.elim
  exact hp.elim
end
section
variable {α β:Type} {l:List α} {f g:α->β} {d:α} {i:Nat}
theorem LC:l.map g=(l.take 0).map f++(l.drop 0).map g:=rfl
theorem IP(h:i<l.length):(l.take i).map f++(l.drop i).map g=(l.take i).map f++g (l.getD i d)::(l.drop (i+1)).map g:=by
 rw[List.drop_eq_getElem_cons h,Zw,ZZ,ZR h];rfl
theorem KE(h:i<l.length):(l.take i).map f++f (l.getD i d)::(l.drop (i+1)).map g=(l.take (i+1)).map f++(l.drop (i+1)).map g:=by
 rw[List.take_succ_eq_append_getElem h,Zz,List.append_assoc,ZZ,ZR h];rfl
theorem LH(h:l.length<=i):(l.take i).map f++(l.drop i).map g=l.map f:=by
 rw[ZL h,ZC h];simp
end
abbrev ka(p0:BL)(p1:Int)(p2:V)(p3:List BL)(p4:List l9):V:=.agg [sV p0,iV p1,p2,.sl false (p3.map sV),.sl false (p4.map aX)]
abbrev jY(p0:BL)(p1:Int)(p2:V)(p3:List BL)(p4:List l9):V:=.agg [sV p0,iV p1,p2,.sl false (p3.map sV),.sl false (p4.map aX)]
abbrev Kg(p0:BL)(p1:Int)(p2:Bool)(p3:List BL)(p4:List s5)(p5:Nat)(p6:Int)(p7:List u0):V:=.agg [sV p0,iV p1,bV p2,.agg [.sl false (p3.map sV),.sl false (p4.map an),iN p5],iV p6,.ow 2 (p7.map ag)]
def xX(l:List j9):o8 Tryz.prog:=.mk 92 [.sl false (l.map bY)] [] (l.length<=1000000) (.ow 8 (l.map bY)) [] (by
 intro hl
 refine aq (N:=8) (rs:=[.tmp 2]) Tryz.func92
  (.q 1<|.q 1<|.cu (Vk (l.map bY)) (fun z4=>.br (.q 1<|.h (.H2 2 8)<|.nil) (.bs<|.q 1<|.ap (fun g7 o7 c7=>.h (.o4 7 (.own 8 (l.map bY) g7 o7 c7))<|.q 1<|.nil))))
  (((l.map bY:List V)=l.map bY)/\∀ z4: {b:Bool // b=true->(l.map bY:List V)=[]},Br z4.1 (Q (.ow 8 ([].map bY)) (.ow 8 (l.map bY))) ((True)/\(True)/\(V.ay (l.map bY)=false)/\(aC 8 (l.map bY))/\((([]:List V).length+(l.map bY).length)*120<=140737488355328)/\∀ g7 o7 c7:Nat,((.own 8 (([]:List V)++(l.map bY)) g7 o7 c7:V)=.own 8 (l.map bY) g7 o7 c7)/\Q (.ow 8 (l.map bY)) (.ow 8 (l.map bY)))) ?_
 refine⟨rfl,?_⟩
 intro z4
 refine bI (fun j7=>?_) fun j7=>?_
 unfold Q
 rw[z4.2 j7];rfl
 refine⟨trivial,trivial,(ct (f:=bY) (fun _=>rfl) _),(dU (f:=bY) (fun _=>rfl) _),Z0,?_⟩
 intro g7 o7 c7
 refine⟨Zo (V.own 8 · g7 o7 c7) (List.nil_append _),?_⟩
 unfold Q
 rfl)
def wS(l:List s5):o8 Tryz.prog:=.mk 93 [eh l] [] (l.length<=1000000) (.ow 2 (l.map an)) [] (by
 intro hl
 refine aq (N:=8) (rs:=[.tmp 2]) Tryz.func93
  (.q 1<|.q 1<|.cu (Vk (l.map an)) (fun z4=>.br (.q 1<|.h (.H2 2 2)<|.nil) (.bs<|.q 1<|.ap (fun g7 o7 c7=>.h (.o4 7 (.own 2 (l.map an) g7 o7 c7))<|.q 1<|.nil))))
  (((l.map an:List V)=l.map an)/\∀ z4: {b:Bool // b=true->(l.map an:List V)=[]},Br z4.1 (Q (.ow 2 ([].map an)) (.ow 2 (l.map an))) ((True)/\(True)/\(V.ay (l.map an)=false)/\(aC 2 (l.map an))/\((([]:List V).length+(l.map an).length)*24<=140737488355328)/\∀ g7 o7 c7:Nat,((.own 2 (([]:List V)++(l.map an)) g7 o7 c7:V)=.own 2 (l.map an) g7 o7 c7)/\Q (.ow 2 (l.map an)) (.ow 2 (l.map an)))) ?_
 refine⟨rfl,?_⟩
 intro z4
 refine bI (fun j7=>?_) fun j7=>?_
 unfold Q
 rw[z4.2 j7];rfl
 refine⟨trivial,trivial,(ct (f:=an) (fun _=>rfl) _),(dU (f:=an) (fun _=>rfl) _),Z0,?_⟩
 intro g7 o7 c7
 refine⟨Zo (V.own 2 · g7 o7 c7) (List.nil_append _),?_⟩
 unfold Q
 rfl)
def xp(l:List u0):o8 Tryz.prog:=.mk 94 [mH l] [] (l.length<=1000000) (.ow 2 (l.map ag)) [] (by
 intro hl
 refine aq (N:=8) (rs:=[.tmp 2]) Tryz.func94
  (.q 1<|.q 1<|.cu (Vk (l.map ag)) (fun z4=>.br (.q 1<|.h (.H2 2 2)<|.nil) (.bs<|.q 1<|.ap (fun g7 o7 c7=>.h (.o4 7 (.own 2 (l.map ag) g7 o7 c7))<|.q 1<|.nil))))
  (((l.map ag:List V)=l.map ag)/\∀ z4: {b:Bool // b=true->(l.map ag:List V)=[]},Br z4.1 (Q (.ow 2 ([].map ag)) (.ow 2 (l.map ag))) ((True)/\(True)/\(V.ay (l.map ag)=false)/\(aC 2 (l.map ag))/\((([]:List V).length+(l.map ag).length)*24<=140737488355328)/\∀ g7 o7 c7:Nat,((.own 2 (([]:List V)++(l.map ag)) g7 o7 c7:V)=.own 2 (l.map ag) g7 o7 c7)/\Q (.ow 2 (l.map ag)) (.ow 2 (l.map ag)))) ?_
 refine⟨rfl,?_⟩
 intro z4
 refine bI (fun j7=>?_) fun j7=>?_
 unfold Q
 rw[z4.2 j7];rfl
 refine⟨trivial,trivial,(ct (f:=ag) (fun _=>rfl) _),(dU (f:=ag) (fun _=>rfl) _),Z0,?_⟩
 intro g7 o7 c7
 refine⟨Zo (V.own 2 · g7 o7 c7) (List.nil_append _),?_⟩
 unfold Q
 rfl)
def xq(l:List l9):o8 Tryz.prog:=.mk 95 [fV l] [] (l.length<=1000000) (.ow 3 (l.map aX)) [] (by
 intro hl
 refine aq (N:=8) (rs:=[.tmp 2]) Tryz.func95
  (.q 1<|.q 1<|.cu (Vk (l.map aX)) (fun z4=>.br (.q 1<|.h (.H2 2 3)<|.nil) (.bs<|.q 1<|.ap (fun g7 o7 c7=>.h (.o4 7 (.own 3 (l.map aX) g7 o7 c7))<|.q 1<|.nil))))
  (((l.map aX:List V)=l.map aX)/\∀ z4: {b:Bool // b=true->(l.map aX:List V)=[]},Br z4.1 (Q (.ow 3 ([].map aX)) (.ow 3 (l.map aX))) ((True)/\(True)/\(V.ay (l.map aX)=false)/\(aC 3 (l.map aX))/\((([]:List V).length+(l.map aX).length)*32<=140737488355328)/\∀ g7 o7 c7:Nat,((.own 3 (([]:List V)++(l.map aX)) g7 o7 c7:V)=.own 3 (l.map aX) g7 o7 c7)/\Q (.ow 3 (l.map aX)) (.ow 3 (l.map aX)))) ?_
 refine⟨rfl,?_⟩
 intro z4
 refine bI (fun j7=>?_) fun j7=>?_
 unfold Q
 rw[z4.2 j7];rfl
 refine⟨trivial,trivial,(ct (f:=aX) (fun _=>rfl) _),(dU (f:=aX) (fun _=>rfl) _),Z0,?_⟩
 intro g7 o7 c7
 refine⟨Zo (V.own 3 · g7 o7 c7) (List.nil_append _),?_⟩
 unfold Q
 rfl)
abbrev oy(t:l5):V:=bm t.na t.a7 t.hs t.se t.lk
def sX(t:l5):o8 Tryz.prog:=.mk 65 [eN t.na t.a7 t.hs t.se t.lk] [] (D2 t) (oy t) [] (by
 intro ht
 have WC:=ht.h
 refine aq (N:=57) (rs:=[.cell 2 30]) Tryz.func65
  (.bx (fun g1=>.al fP (fun g2=>.r 2 [.b7]<|.c (xX t.hs) []<|.q 1<|.st none<|.oR (.key 1) [2] (fun g o c=>.r 4 [.b7]<|.h (.z6 1 (jY t.na t.a7 (.own 8 ((t.hs.take 0).map aw++(t.hs.drop 0).map bY) g o c) t.se t.lk))<|.loop (Nat) (fun (i:Nat)=>⟨[(1,.ptr (.key 1) [] g1 0),(2,.ptr (.key 2) [] g2 0),(11,iN t.hs.length),(12,iN i)],[(1,(g1,jY t.na t.a7 (.own 8 ((t.hs.take i).map aw++(t.hs.drop i).map bY) g o c) t.se t.lk)),(2,(g2,.agg [sV [],iN 0,.sl true [],.sl true [],.sl true []]))]⟩) (fun (i:Nat)=>i<=t.hs.length) (fun (i:Nat)=>t.hs.length-i) (fun (i:Nat)=>.q 1<|.br (.q 2<|.h (.z6 1 (ka t.na t.a7 (.own 8 ((t.hs.take i).map aw++(iu ((t.hs.getD i e9).na) ((t.hs.getD i e9).re) ((t.hs.getD i e9).kn) ((t.hs.getD i e9).gr.na) ((t.hs.getD i e9).gr.ru) ((t.hs.getD i e9).gr.wa) ((t.hs.getD i e9).tr) ((t.hs.getD i e9).td):V)::(t.hs.drop (i+1)).map bY) g o c) t.se t.lk))<|.r 5 [.b7]<|.r 6 [ao ((t.hs.getD i e9).gr.na)]<|.c (iY ((t.hs.getD i e9).gr.na)) []<|.q 3<|.h (.fz 25)<|.h (.o4 25 (ao ((t.hs.getD i e9).gr.na)))<|.st (some (ao ((t.hs.getD i e9).gr.na)))<|.h (.z6 1 (ka t.na t.a7 (.own 8 ((t.hs.take i).map aw++(iu ((t.hs.getD i e9).na) ((t.hs.getD i e9).re) ((t.hs.getD i e9).kn) ((t.hs.getD i e9).gr.na) ((t.hs.getD i e9).gr.ru) ((t.hs.getD i e9).gr.wa) ((t.hs.getD i e9).tr) ((t.hs.getD i e9).td):V)::(t.hs.drop (i+1)).map bY) g o c) t.se t.lk))<|.r 6 [eh ((t.hs.getD i e9).gr.ru)]<|.c (wS ((t.hs.getD i e9).gr.ru)) []<|.q 3<|.h (.fz 35)<|.h (.o4 35 (eh ((t.hs.getD i e9).gr.ru)))<|.st (some (eh ((t.hs.getD i e9).gr.ru)))<|.h (.z6 1 (ka t.na t.a7 (.own 8 ((t.hs.take i).map aw++(iu ((t.hs.getD i e9).na) ((t.hs.getD i e9).re) ((t.hs.getD i e9).kn) ((t.hs.getD i e9).gr.na) ((t.hs.getD i e9).gr.ru) ((t.hs.getD i e9).gr.wa) ((t.hs.getD i e9).tr) ((t.hs.getD i e9).td):V)::(t.hs.drop (i+1)).map bY) g o c) t.se t.lk))<|.r 5 [mH ((t.hs.getD i e9).td)]<|.c (xp ((t.hs.getD i e9).td)) []<|.q 2<|.st (some (mH ((t.hs.getD i e9).td)))<|.h (.z6 1 (ka t.na t.a7 (.own 8 ((t.hs.take i).map aw++(Kg ((t.hs.getD i e9).na) ((t.hs.getD i e9).re) ((t.hs.getD i e9).kn) ((t.hs.getD i e9).gr.na) ((t.hs.getD i e9).gr.ru) ((t.hs.getD i e9).gr.wa) ((t.hs.getD i e9).tr) ((t.hs.getD i e9).td):V)::(t.hs.drop (i+1)).map bY) g o c) t.se t.lk))<|.h (.z6 1 (jY t.na t.a7 (.own 8 ((t.hs.take (i+1)).map aw++(t.hs.drop (i+1)).map bY) g o c) t.se t.lk))<|.q 2<|.nil) (.h (.z6 1 (.agg [sV t.na,iV t.a7,.own 8 (t.hs.map aw) g o c,ao t.se,fV t.lk]))<|.r 2 [.b7]<|.c (iY t.se) []<|.q 1<|.st none<|.r 2 [.b7]<|.c (xq t.lk) []<|.q 1<|.st none<|.mv<|.st none<|.nil))))))
  ((fun v1:V=>(∀ g1:Nat,∀ g2:Nat,Z g1 2/\(xX t.hs).sm/\((t.hs.length<=1000000))/\Z g1 2/\∀ g o c:Nat,(fun v2:V=>Z g1 2/\((.agg [sV t.na,iV t.a7,.own 8 (t.hs.map bY) g o c,ao t.se,fV t.lk]:V)=jY t.na t.a7 v2 t.se t.lk)/\(∃ h9:Nat,(h9<=t.hs.length)/\E (.ptr (.key 1) [] g1 0)/\E (.ptr (.key 2) [] g2 0)/\Q (iN ((t.hs.map bY).length)) (iN t.hs.length)/\Q (iN 0) (iN h9)/\Qr g1 (jY t.na t.a7 v2 t.se t.lk) g1 (jY t.na t.a7 (.own 8 ((t.hs.take h9).map aw++(t.hs.drop h9).map bY) g o c) t.se t.lk)/\Er g2 v1/\True)/\∀ i:Nat,(i<=t.hs.length)->(fun v4:j9=>(fun v9:V=>(fun v3:V=>(fun v5:V=>(fun v6:V=>(fun v7:V=>(fun v8:V=>Br (s4 (i:Int) (t.hs.length:Int)) ((v7=ka t.na t.a7 v3 t.se t.lk)/\Z g1 2/\In (i:Int) (((t.hs.take i).map aw++v9::(t.hs.drop (i+1)).map bY).length)/\True/\(V.at g1 0 v5 [2,0+i,3,0]=some (g,(o+(0+i)*8+3+0),ao (v4.gr.na)))/\(iY (v4.gr.na)).sm/\(((v4.gr.na).length<=1000000))/\True/\((.sl false (V.D5 ((v4.gr.na).map sV)):V)=ao (v4.gr.na))/\(V.at g1 0 v5 [2,0+i,3,0]=some (g,(o+(0+i)*8+3+0),ao (v4.gr.na)))/\(V.set v5 [2,0+i,3,0] (ao (v4.gr.na))=ka t.na t.a7 v3 t.se t.lk)/\True/\(V.at g1 0 v5 [2,0+i,3,1]=some (g,(o+(0+i)*8+3+1),eh (v4.gr.ru)))/\(wS (v4.gr.ru)).sm/\(((v4.gr.ru).length<=1000000))/\True/\((.sl false (V.D5 ((v4.gr.ru).map an)):V)=eh (v4.gr.ru))/\(V.at g1 0 v5 [2,0+i,3,1]=some (g,(o+(0+i)*8+3+1),eh (v4.gr.ru)))/\(V.set v5 [2,0+i,3,1] (eh (v4.gr.ru))=ka t.na t.a7 v3 t.se t.lk)/\True/\(V.at g1 0 v5 [2,0+i,5]=some (g,(o+(0+i)*8+7),mH (v4.td)))/\(xp (v4.td)).sm/\(((v4.td).length<=1000000))/\True/\(V.at g1 0 v5 [2,0+i,5]=some (g,(o+(0+i)*8+7),mH (v4.td)))/\(V.set v5 [2,0+i,5] (.ow 2 ((v4.td).map ag))=ka t.na t.a7 v6 t.se t.lk)/\((ka t.na t.a7 v6 t.se t.lk:V)=jY t.na t.a7 v8 t.se t.lk)/\m6 ((i:Int)+1)/\∃ b9:Nat,(b9<=t.hs.length)/\(t.hs.length-b9<t.hs.length-i)/\E (.ptr (.key 1) [] g1 0)/\E (.ptr (.key 2) [] g2 0)/\E (iN t.hs.length)/\Q (iN (i+1)) (iN b9)/\Qr g1 (jY t.na t.a7 v8 t.se t.lk) g1 (jY t.na t.a7 (.own 8 ((t.hs.take b9).map aw++(t.hs.drop b9).map bY) g o c) t.se t.lk)/\Er g2 v1/\True) ((v7=.agg [sV t.na,iV t.a7,.own 8 (t.hs.map aw) g o c,ao t.se,fV t.lk])/\Z g1 3/\(iY t.se).sm/\((t.se.length<=1000000))/\Z g1 3/\Z g1 4/\(xq t.lk).sm/\((t.lk.length<=1000000))/\Z g1 4/\Z g1 0/\Z g2 0/\(g2=g2)/\Q (bm t.na t.a7 t.hs t.se t.lk) (oy t))) (.own 8 ((t.hs.take (i+1)).map aw++(t.hs.drop (i+1)).map bY) g o c)) (jY t.na t.a7 (.own 8 ((t.hs.take i).map aw++(t.hs.drop i).map bY) g o c) t.se t.lk:V)) (.own 8 ((t.hs.take i).map aw++(Kg (v4.na) (v4.re) (v4.kn) (v4.gr.na) (v4.gr.ru) (v4.gr.wa) (v4.tr) (v4.td):V)::(t.hs.drop (i+1)).map bY) g o c)) (ka t.na t.a7 v3 t.se t.lk)) (.own 8 ((t.hs.take i).map aw++v9::(t.hs.drop (i+1)).map bY) g o c)) (iu (v4.na) (v4.re) (v4.kn) (v4.gr.na) (v4.gr.ru) (v4.gr.wa) (v4.tr) (v4.td):V)) (t.hs.getD i e9)) (.own 8 ((t.hs.take 0).map aw++(t.hs.drop 0).map bY) g o c))) (.agg [sV [],iN 0,.sl true [],.sl true [],.sl true []])) ?_
 intro g1
 intro g2
 refine⟨rfl,rfl,by have:=ht.h;omega,rfl,?_⟩
 intro g o c
 refine⟨rfl,Ni (Zo (V.own 8 · g o c) LC),?_⟩
 refine⟨⟨0,?_,rfl,rfl,Z4,rfl,rfl,rfl,trivial⟩,?_⟩
 simp
 rintro i h1
 refine bI (fun j7=>?_) fun j7=>?_
 refine⟨Ni (Zo (V.own 8 · g o c) (IP (d:=e9) Z9)),rfl,by(try simp only[ZM]at *);simp only[ZW,ZU,ZM,List.length_take,List.length_drop];omega,?_⟩
 have MZ:=ht.ha _ (aI (d:=e9) (show i<t.hs.length by omega))
 refine⟨trivial,(aK (f:=2) rfl).trans (az (by rw[ZO];exact aB Z9) rfl),rfl,by first | (have:=MZ.g;omega) | (have:=ht.s;omega),trivial,Zo (V.sl false) (aM (fun _=>rfl) _),(aK (f:=2) rfl).trans (az (by rw[ZO];exact aB Z9) rfl),dz (aP (by rw[ZO];exact aB Z9) (by rw[ZO];exact cH Z9)),trivial,(aK (f:=2) rfl).trans (az (by rw[ZO];exact aB Z9) rfl),rfl,by have:=MZ.r;omega,trivial,Zo (V.sl false) (aM (fun _=>rfl) _),(aK (f:=2) rfl).trans (az (by rw[ZO];exact aB Z9) rfl),dz (aP (by rw[ZO];exact aB Z9) (by rw[ZO];exact cH Z9)),trivial,(aK (f:=2) rfl).trans (az (by rw[ZO];exact aB Z9) rfl),rfl,by have:=MZ.t;omega,trivial,(aK (f:=2) rfl).trans (az (by rw[ZO];exact aB Z9) rfl),dz (aP (by rw[ZO];exact aB Z9) (by rw[ZO];exact cH Z9)),Ni (Zo (V.own 8 · g o c) (KE (f:=aw) (d:=e9) Z9)),Z9,?_⟩
 refine⟨i+1,?_,?_,rfl,rfl,rfl,rfl,rfl,rfl,trivial⟩
 omega
 exact Z1
 refine⟨Ni (Zo (V.own 8 · g o c) (LH Z9)),rfl,rfl,by first | (have:=MZ.g;omega) | (have:=ht.s;omega),rfl,rfl,rfl,by have:=ht.l;omega,rfl,rfl,rfl,?_⟩
 refine⟨rfl,?_⟩
 unfold Q oy
 rfl)
def cK(y:j9):Bool:=decide (y.td≠[])
theorem zI{y:j9}:s7 (((y.td.map ag).length:Nat):Int) 0=cK y:=by
 unfold cK s7
 cases h:y.td <;> simp
def o5(t:l5):Nat:=((iD t).map (·.1)).getD 0
def z7(t:l5):Int:=((iD t).map (·.2)).getD 0
theorem ou{t:l5}{i:Nat}(h:i<t.hs.length):I9 t (i+1)=nD t.a7 (I9 t i) (i,t.hs.getD i e9):=by
 unfold I9
 rw[List.take_succ_eq_append_getElem (by simpa using h),Zz,List.foldl_append]
 simp[ZZ,ZR h]
section
variable {n:BL} {a7 b q:Int} {zs:List j9} {se:List BL} {ls:List l9} {i:Nat}
theorem Bl(h:i<zs.length)(h2:b=(I9 ⟨n,a7,zs,se,ls⟩ i).1)(h3:q=(I9 ⟨n,a7,zs,se,ls⟩ i).2)(c:cK (zs.getD i e9)=true/\(b<0\/max (zs.getD i e9).re a7<q)):I9 ⟨n,a7,zs,se,ls⟩ (i+1)=((i:Int),max (zs.getD i e9).re a7):=by
 rw[ou (t:=⟨n,a7,zs,se,ls⟩) h]
 unfold nD
 rw[<- h2,<- h3,if_pos ⟨of_decide_eq_true c.1,c.2⟩]
theorem BB(h:i<zs.length)(h2:b=(I9 ⟨n,a7,zs,se,ls⟩ i).1)(h3:q=(I9 ⟨n,a7,zs,se,ls⟩ i).2)(c:cK (zs.getD i e9)=true->(0<=b/\q<=max (zs.getD i e9).re a7)):I9 ⟨n,a7,zs,se,ls⟩ (i+1)=I9 ⟨n,a7,zs,se,ls⟩ i:=by
 rw[ou (t:=⟨n,a7,zs,se,ls⟩) h]
 unfold nD
 rw[<- h2,<- h3,if_neg (fun d=>?_)]
 have:=c (decide_eq_true d.1)
 have:=d.2
 simp only at this
 omega
theorem Ha{t:l5}(h:(I9 t t.hs.length).1<0\/5000<(I9 t t.hs.length).2):iD t=none:=if_pos h
theorem GW{t:l5}(h:0<=(I9 t t.hs.length).1/\(I9 t t.hs.length).2<=5000):iD t=some ((I9 t t.hs.length).1.toNat,(I9 t t.hs.length).2):=if_neg Z9
end
def DI(k:Int):o8 Tryz.prog:=.mk 148 [iV k] [] True (iV (dm k)) [] (by
 intro _
 refine aq (N:=10) (rs:=[.tmp 2]) Tryz.func148
  (.q 1<|.q 1<|.q 2<|.br (.q 1<|.nil) (.q 2<|.br (.q 1<|.nil) (.q 2<|.br (.q 1<|.nil) (.q 1<|.nil))))
  (Br (o6 k 1) (Q (iN 2) (iV (dm k))) (Br (o6 k 2) (Q (iN 4) (iV (dm k))) (Br (o6 k 3) (Q (iN 8) (iV (dm k))) (Q (iN 0) (iV (dm k)))))) ?_
 refine bI (fun j7=>?_) fun j7=>?_
 unfold Q
 rw[dm,if_pos j7];rfl
 refine bI (fun l4=>?_) fun l4=>?_
 unfold Q
 rw[dm,if_neg j7,if_pos l4];rfl
 refine bI (fun m8=>?_) fun m8=>?_
 unfold Q
 rw[dm,if_neg j7,if_neg l4,if_pos m8];rfl
 unfold Q
 rw[dm,if_neg j7,if_neg l4,if_neg m8];rfl)
abbrev uK(n:BL)(a7:Int)(zs:List j9)(se:List BL)(ls:List l9)(gt:Nat)(g:Nat)(o:Nat)(c:Nat)(gb:Nat)(ix:Nat):V:=.tup [iV (max (zs.getD ix e9).re a7),bV (cK (zs.getD ix e9))]
def HJ(n:BL)(a7:Int)(zs:List j9)(se:List BL)(ls:List l9)(gt:Nat)(g:Nat)(o:Nat)(c:Nat)(gb:Nat)(ix:Nat):o8 Tryz.prog:=.mk 120 [.ptr (.key 1000) [2,ix] g (o+ix*8),.ptr (.key 1001) [] gb 0] [(1001,(gb,.ptr (.key 1000) [] gt 0)),(1000,(gt,bz n a7 zs g o c se ls))] (ix<zs.length) (uK n a7 zs se ls gt g o c gb ix) [(1001,(gb,.ptr (.key 1000) [] gt 0)),(1000,(gt,bz n a7 zs g o c se ls))] (by
 intro hi
 refine aq (N:=20) (rs:=[.tmp 3,.tmp 4]) Tryz.func120
  ((fun y1:j9=>(.q 2<|.h (.z6 1000 (cC n a7 zs ix (y1.na) (y1.re) (y1.kn) (y1.gr.na) (y1.gr.ru) (y1.gr.wa) (y1.tr) (y1.td) g o c se ls))<|.Pv (.key 1000) [2,ix,5] g (o+(ix)*8+7) 2 ((y1.td).map ag) (fun gA Nj cA=>.h (.z6 1000 (bc n a7 zs ix (y1.na) (y1.re) (y1.kn) (y1.gr.na) (y1.gr.ru) (y1.gr.wa) (y1.tr) (y1.td) gA Nj cA g o c se ls))<|.dx 16 [0,1,2,3,4,5,6,7,8,9,10,11,12,13,14,15] [(3,⟨false,[],some [1000],[8],[]⟩),(4,⟨false,[],some [1001],[9],[]⟩),(7,⟨false,[],some [1000],[12],[]⟩),(12,⟨false,[],some [1000],[17],[]⟩)] []<|.q 1<|.q 1<|.q 1<|.r 1 [iV (y1.re)]<|.r 1 [.b7]<|.q 1<|.q 1<|.r 1 [.b7]<|.mm<|.q 1<|.q 1<|.q 1<|.r 1 [.own 2 ((y1.td).map ag) gA Nj cA]<|.q 1<|.q 1<|.q 1<|.q 1<|.h (.OP (.key 1000) [2,ix,5] g (o+(ix)*8+7) (.own 2 ((y1.td).map ag) gA Nj cA) (.ow 2 ((y1.td).map ag)))<|.h (.z6 1000 (cC n a7 zs ix (y1.na) (y1.re) (y1.kn) (y1.gr.na) (y1.gr.ru) (y1.gr.wa) (y1.tr) (y1.td) g o c se ls))<|.h (.z6 1000 (bz n a7 zs g o c se ls))<|.nil):Sc Tryz.prog)) (zs.getD ix e9))
  ((fun v1:j9=>(fun v2:V=>(((bz n a7 zs g o c se ls:V)=cC n a7 zs ix (v1.na) (v1.re) (v1.kn) (v1.gr.na) (v1.gr.ru) (v1.gr.wa) (v1.tr) (v1.td) g o c se ls)/\(V.at gt 0 v2 [2,ix,5]=some (g,o+(ix)*8+7,.ow 2 ((v1.td).map ag)))/\∀ gA Nj cA:Nat,(fun v3:V=>(V.set v2 [2,ix,5] (.own 2 ((v1.td).map ag) gA Nj cA)=bc n a7 zs ix (v1.na) (v1.re) (v1.kn) (v1.gr.na) (v1.gr.ru) (v1.gr.wa) (v1.tr) (v1.td) gA Nj cA g o c se ls)/\True/\(V.at gt 0 v3 [2,ix,1]=some (g,(o+ix*8+1),iV (v1.re)))/\Z gb 0/\True/\Z gt 1/\(IntKind.i64=IntKind.i64)/\True/\(V.at gt 0 v3 [2,ix,5]=some (g,(o+ix*8+7),.own 2 ((v1.td).map ag) gA Nj cA))/\(V.at gt 0 v3 [2,ix,5]=some (g,o+(ix)*8+7,.own 2 ((v1.td).map ag) gA Nj cA))/\(V.set v3 [2,ix,5] (.ow 2 ((v1.td).map ag))=cC n a7 zs ix (v1.na) (v1.re) (v1.kn) (v1.gr.na) (v1.gr.ru) (v1.gr.wa) (v1.tr) (v1.td) g o c se ls)/\((cC n a7 zs ix (v1.na) (v1.re) (v1.kn) (v1.gr.na) (v1.gr.ru) (v1.gr.wa) (v1.tr) (v1.td) g o c se ls:V)=bz n a7 zs g o c se ls)/\Q (.tup [iV (max (v1.re) a7),bV (s7 ((((v1.td).map ag).length:Nat):Int) 0)]) (uK n a7 zs se ls gt g o c gb ix)/\Er gb (.ptr (.key 1000) [] gt 0)/\Er gt (bz n a7 zs g o c se ls)) (bc n a7 zs ix (v1.na) (v1.re) (v1.kn) (v1.gr.na) (v1.gr.ru) (v1.gr.wa) (v1.tr) (v1.td) gA Nj cA g o c se ls))) (cC n a7 zs ix (v1.na) (v1.re) (v1.kn) (v1.gr.na) (v1.gr.ru) (v1.gr.wa) (v1.tr) (v1.td) g o c se ls)) (zs.getD ix e9)) ?_
 refine⟨Ni (Zo (V.own 8 · g o c) (pF (d:=e9) Z9)),(aK (f:=2) rfl).trans (az (aB Z9) rfl),?_⟩
 intro gA Nj cA
 refine⟨dz (aP (aB Z9) (cH Z9)),trivial,(aK (f:=2) rfl).trans (az (aB Z9) rfl),rfl,trivial,rfl,rfl,trivial,(aK (f:=2) rfl).trans (az (aB Z9) rfl),(aK (f:=2) rfl).trans (az (aB Z9) rfl),dz (aP (aB Z9) (cH Z9)),Ni (Zo (V.own 8 · g o c) (pF (f:=aw) (d:=e9) Z9).symm),?_⟩
 refine⟨?_,rfl,rfl⟩
 unfold Q uK
 rw[zI])
abbrev lR(n:BL)(a7:Int)(zs:List j9)(se:List BL)(ls:List l9)(gt:Nat)(g:Nat)(o:Nat)(c:Nat)(gb:Nat):V:=.tup [iV (max (I9 (⟨n,a7,zs,se,ls⟩:l5) zs.length).1 0),iV ((I9 (⟨n,a7,zs,se,ls⟩:l5) zs.length).2),bV (x6 (I9 (⟨n,a7,zs,se,ls⟩:l5) zs.length).1 0)]
abbrev dX(n:BL)(a7:Int)(zs:List j9)(se:List BL)(ls:List l9)(gt:Nat)(g:Nat)(o:Nat)(c:Nat)(gb:Nat)(i:Nat)(b:Int)(q:Int):Prop:=i<=zs.length/\b=(I9 (⟨n,a7,zs,se,ls⟩:l5) i).1/\q=(I9 (⟨n,a7,zs,se,ls⟩:l5) i).2
def pq(n:BL)(a7:Int)(zs:List j9)(se:List BL)(ls:List l9)(gt:Nat)(g:Nat)(o:Nat)(c:Nat)(gb:Nat):o8 Tryz.prog:=.mk 119 [.hd (.key 1000) [2] 8 g o 0 ((zs.map aw).length) c,.lit (.func (.func 120) #[] #[.pointer (some ⟨gb,0,none⟩)])] [(1001,(gb,.ptr (.key 1000) [] gt 0)),(1000,(gt,bz n a7 zs g o c se ls))] (zs.length<=1000) (lR n a7 zs se ls gt g o c gb) [(1001,(gb,.ptr (.key 1000) [] gt 0)),(1000,(gt,bz n a7 zs g o c se ls))] (by
 intro hl
 refine aq (N:=43) (rs:=[.tmp 4,.tmp 5,.tmp 6]) Tryz.func119
  (.q 3<|.q 2<|.q 3<|.loop (Nat×Int×Int) (fun (i,b,q)=>⟨[(0,.hd (.key 1000) [2] 8 g o 0 ((zs.map aw).length) c),(1,.lit (.func (.func 120) #[] #[.pointer (some ⟨gb,0,none⟩)])),(7,iV b),(8,iV q),(13,iN zs.length),(14,iN i)],[(1001,(gb,.ptr (.key 1000) [] gt 0)),(1000,(gt,bz n a7 zs g o c se ls))]⟩) (fun (i,b,q)=>dX n a7 zs se ls gt g o c gb i b q) (fun (i,b,q)=>zs.length-i) (fun (i,b,q)=>.q 1<|.br (.q 2<|.q 4<|.c (HJ n a7 zs se ls gt g o c gb i) [(1000,1000),(1001,1001)]<|.q 5<|.q 10<|.br (.q 4<|.q 2<|.nil) (.q 2<|.nil)) (.q 1<|.mm<|.q 6<|.nil)))
  ((fun v1:V=>(fun v2:V=>((∃ x:Nat×Int×Int,match x with | (h9,M1,y8)=>(dX n a7 zs se ls gt g o c gb h9 M1 y8)/\E (.hd (.key 1000) [2] 8 g o 0 ((zs.map aw).length) c)/\E v1/\Q (iV (-1)) (iV M1)/\Q (iN 0) (iV y8)/\Q (iN ((zs.map aw).length)) (iN zs.length)/\Q (iN 0) (iN h9)/\Er gb v2/\Er gt (bz n a7 zs g o c se ls)/\True)/\∀ x:Nat×Int×Int,match x with | (i,b,q)=>(dX n a7 zs se ls gt g o c gb i b q)->Br (s4 (i:Int) (zs.length:Int)) (In (i:Int) ((zs.map aw).length)/\(([.ptr (.key 1000) [2,i] g (o+(0+i)*8),.ptr (.key 1001) [] gb 0]:List V)=[.ptr (.key 1000) [2,i] g (o+i*8),.ptr (.key 1001) [] gb 0])/\Er gb v2/\Er gt (bz n a7 zs g o c se ls)/\((i<zs.length))/\Gd ((cK (zs.getD i e9))==true) (Pk (s4 b 0) true (((cK (zs.getD i e9))==true)&&((s4 b 0)==false)))/\Pk (cK (zs.getD i e9)) ((cK (zs.getD i e9))==true) true/\Br ((cK (zs.getD i e9))&&((s4 b 0)||(s4 (max (zs.getD i e9).re a7) q))) (m6 ((i:Int)+1)/\∃ x:Nat×Int×Int,match x with | (b9,B7,n9)=>(dX n a7 zs se ls gt g o c gb b9 B7 n9)/\(zs.length-b9<zs.length-i)/\E (.hd (.key 1000) [2] 8 g o 0 ((zs.map aw).length) c)/\E v1/\Q (iN i) (iV B7)/\Q (iV (max (zs.getD i e9).re a7)) (iV n9)/\E (iN zs.length)/\Q (iN (i+1)) (iN b9)/\Er gb v2/\Er gt (bz n a7 zs g o c se ls)/\True) (m6 ((i:Int)+1)/\∃ x:Nat×Int×Int,match x with | (b9,B7,n9)=>(dX n a7 zs se ls gt g o c gb b9 B7 n9)/\(zs.length-b9<zs.length-i)/\E (.hd (.key 1000) [2] 8 g o 0 ((zs.map aw).length) c)/\E v1/\Q (iV b) (iV B7)/\Q (iV q) (iV n9)/\E (iN zs.length)/\Q (iN (i+1)) (iN b9)/\Er gb v2/\Er gt (bz n a7 zs g o c se ls)/\True)) ((IntKind.i64=IntKind.i64)/\Q (.tup [iV (max b 0),iV q,bV (x6 b 0)]) (lR n a7 zs se ls gt g o c gb)/\Er gb v2/\Er gt (bz n a7 zs g o c se ls)))) (.ptr (.key 1000) [] gt 0)) (.lit (.func (.func 120) #[] #[.pointer (some ⟨gb,0,none⟩)]))) ?_
 refine⟨⟨(0, -1,0),?_,rfl,rfl,rfl,Z4,Z4,rfl,rfl,rfl,trivial⟩,?_⟩
 unfold dX
 exact⟨Z8,rfl,rfl⟩
 rintro⟨i,b,q⟩ ⟨h1,h2,h3⟩
 refine bI (fun j7=>?_) fun j7=>?_
 refine⟨Z2,by first | rfl | (exfalso;omega) | (simp only[ZO]) | (simp;omega),rfl,rfl,Z9,fun hG=>⟨fun _=>rfl,fun h=>by rw[h];exact(ZX _ _).mpr ⟨hG,rfl⟩⟩,⟨fun h=>by rw[h] <;> rfl,fun _=>rfl⟩,?_⟩
 refine bI (fun l4=>?_) fun l4=>?_
 refine⟨Z9,?_⟩
 refine⟨(i+1,(i:Int),max (zs.getD i e9).re a7),?_,?_,rfl,rfl,Z4,rfl,rfl,rfl,rfl,rfl,trivial⟩
 unfold dX
 first | exact⟨Z9,by rw[Bl Z9 h2 h3 l4],by rw[Bl Z9 h2 h3 l4]⟩ | exact⟨Z9,by rw[BB Z9 h2 h3 l4];exact h2,by rw[BB Z9 h2 h3 l4];exact h3⟩
 exact Z1
 refine⟨Z9,?_⟩
 refine⟨(i+1,b,q),?_,?_,rfl,rfl,rfl,rfl,rfl,rfl,rfl,rfl,trivial⟩
 unfold dX
 first | exact⟨Z9,by rw[Bl Z9 h2 h3 l4],by rw[Bl Z9 h2 h3 l4]⟩ | exact⟨Z9,by rw[BB Z9 h2 h3 l4];exact h2,by rw[BB Z9 h2 h3 l4];exact h3⟩
 exact Z1
 refine⟨rfl,?_⟩
 refine⟨?_,rfl,rfl⟩
 unfold Q lR
 obtain rfl:i=zs.length:=Z9
 rw[h2,h3])
abbrev pZ(n:BL)(a7:Int)(zs:List j9)(se:List BL)(ls:List l9)(gt:Nat):V:=.tup [iN (o5 (⟨n,a7,zs,se,ls⟩:l5)),iV (z7 (⟨n,a7,zs,se,ls⟩:l5)),bV ((iD (⟨n,a7,zs,se,ls⟩:l5)).isSome)]
def sW(n:BL)(a7:Int)(zs:List j9)(se:List BL)(ls:List l9)(gt:Nat):o8 Tryz.prog:=.mk 98 [.ptr (.key 1000) [] gt 0] [(1000,(gt,bm n a7 zs se ls))] (zs.length<=1000) (pZ n a7 zs se ls gt) [(1000,(gt,bm n a7 zs se ls))] (by
 intro hl
 refine aq (N:=26) (rs:=[.tmp 2,.tmp 3,.tmp 4]) Tryz.func98
  (.oR (.key 1000) [2] (fun g o c=>.bx (fun g1=>.q 3<|.r 4 [.b7,.b7]<|.cu RJ (fun _=>.c (pq n a7 zs se ls gt g o c g1) [(1001,1),(1000,1000)]<|.q 7<|.q 6<|.br (.q 3<|.nil) (.q 5<|.nil)))))
  ((fun v1:Bool=>(∀ g o c:Nat,∀ g1:Nat,Z g1 0/\True/\Z gt 2/\((Value.func (.func 120) #[] #[.pointer (some ⟨g1,0,none⟩)]).oneCell'=true)/\∀ _:Unit,(pq n a7 zs se ls gt g o c g1).sm/\Er g1 (.ptr (.key 1000) [] gt 0)/\Er gt (bz n a7 zs g o c se ls)/\((zs.length<=1000))/\Pk v1 true (v1==false)/\Br (v1||(s7 ((I9 (⟨n,a7,zs,se,ls⟩:l5) zs.length).2) 5000)) (Q (.tup [iN 0,iN 0,bV false]) (pZ n a7 zs se ls gt)/\Er gt (bm n a7 zs se ls)) (Q (.tup [iV (max (I9 (⟨n,a7,zs,se,ls⟩:l5) zs.length).1 0),iV ((I9 (⟨n,a7,zs,se,ls⟩:l5) zs.length).2),bV true]) (pZ n a7 zs se ls gt)/\Er gt (bm n a7 zs se ls)))) (!(x6 (I9 (⟨n,a7,zs,se,ls⟩:l5) zs.length).1 0))) ?_
 intro g o c
 intro g1
 refine⟨rfl,trivial,rfl,rfl,?_⟩
 intro _
 refine⟨rfl,rfl,rfl,hl,⟨fun _=>rfl,fun h=>by rw[h] <;> rfl⟩,?_⟩
 refine bI (fun j7=>?_) fun j7=>?_
 refine⟨?_,rfl⟩
 unfold Q pZ
 rw[o5,z7,Ha (t:=⟨n,a7,zs,se,ls⟩) j7];rfl
 refine⟨?_,rfl⟩
 unfold Q pZ
 rw[o5,z7,GW (t:=⟨n,a7,zs,se,ls⟩) j7]
 rw[show max (I9 ⟨n,a7,zs,se,ls⟩ zs.length).1 0=((I9 ⟨n,a7,zs,se,ls⟩ zs.length).1.toNat:Int) from Z9];rfl)
abbrev jX(p0:BL)(p1:Int)(p2:List j9)(p3:Nat)(p4:BL)(p5:Int)(p6:Bool)(p7:List BL)(p8:List s5)(p9:Nat)(O':Int)(PV:List u0)(PU:Nat)(PT:Nat)(PS:Nat)(PR:List BL)(Uq:List l9)(VV:Nat)(VU:Nat)(VT:Nat):V:=.agg [sV p0,iV p1,.own 8 ((p2.take p3).map aw++(.agg [sV p4,iV p5,bV p6,.agg [.sl false (p7.map sV),.sl false (p8.map an),iN p9],iV O',.ow 2 (PV.map ag)]:V)::(p2.drop (p3+1)).map aw) PU PT PS,.ow 1 (PR.map sV),.own 3 (Uq.map aX) VV VU VT]
theorem FR(k:Int):0<=dm k/\dm k<=8:=by unfold dm;split <;> (try split) <;> (try split) <;> omega
theorem Hj{y:j9}{a7 k m:Int}(h:k=3):dG y a7 k m={ y with re:=a7+max (y.gr.wa:Int) 1+dm (m+1) }:=by unfold dG;rw[if_pos h]
theorem GO{y:j9}{a7 k m:Int}(h: ¬ k=3):dG y a7 k m={ y with re:=a7+max (y.gr.wa:Int) 1 }:=by unfold dG;rw[if_neg h,Int.add_zero]
def qP(w:List Pg)(t:l5):E7 Tryz.prog:=.mk (Nat×Nat) 33 [bQ w,eN t.na t.a7 t.hs t.se t.lk] [] ((w.length<=30)/\(∀ i,n7 (w.getD i m0))/\(D2 t)/\(av w=true)/\(aQ t=true)) (fun x=>True) (fun x=>.tup [.ptr (.key 1001) [] x.1 0,bV true]) (fun x=>[(1001,(x.1,.agg [.mp (w.map E1),.ptr (.key 1000) [] x.2 0])),(1000,(x.2,bm t.na t.a7 t.hs t.se t.lk))]) (by
 rintro⟨hw,hz,ht,hk,M'⟩
 refine eK (N:=26) (rs:=[.tmp 4,.tmp 5]) (X:=Nat×Nat) (post:=fun x=>True) (E:=fun x=>.tup [.ptr (.key 1001) [] x.1 0,bV true]) (H':=fun x=>[(1001,(x.1,.agg [.mp (w.map E1),.ptr (.key 1000) [] x.2 0])),(1000,(x.2,.agg [sV t.na,iV t.a7,.ow 8 (t.hs.map aw),.ow 1 (t.se.map sV),.ow 3 (t.lk.map aX)]))]) Tryz.func33 Z7 rfl rfl rfl Z7 [(1001,(0,.b7)),(1000,(0,.b7))] (by intro _ k hk;simp only[lk]at hk ⊢;repeat (split at hk <;> simp_all))
  (.bx (fun g3=>.q 2<|.q 1<|.c (mh w) []<|.q 5<|.r 4 [.b7]<|.cg (fv t)<|.q 2<|.br (.nil) (.r 1 [.b7]<|.c (sX t) []<|.al fP (fun g8=>.st none<|.q 1<|.bd Lw<|.bx (fun O6=>.q 2<|.h (.rk 25 1001)<|.h (.rk 8 1000)<|.nil)))))
  (∀ g3:Nat,(mh w).sm/\((w.length<=30)/\(∀ i,n7 (w.getD i m0))/\(av w=true))/\Gd ((!true)==false) (Z g3 0)/\Gd ((!true)==false) (((D2 t))/\(fv t).sm)/\Pk (!true) true ((!true)==false)/\Br ((!true)||(!(aQ t))) (False) (Z g3 0/\(sX t).sm/\((D2 t))/\∀ g8:Nat,Z g8 0/\∀ O6:Nat,∃ x:Nat×Nat,(True)/\Q (.tup [.ptr (.key 1001) [] O6 0,bV true]) (.tup [.ptr (.key 1001) [] x.1 0,bV true])/\Qr O6 (.agg [.mp (w.map E1),.ptr (.key 1000) [] g8 0]) x.1 (.agg [.mp (w.map E1),.ptr (.key 1000) [] x.2 0])/\Qr g8 (bm t.na t.a7 t.hs t.se t.lk) x.2 (bm t.na t.a7 t.hs t.se t.lk)))
  Z7 ?_
 intro g3
 refine⟨rfl,⟨hw,hz,hk⟩,fun hG=>rfl,fun hG=>⟨ht,rfl⟩,⟨fun _=>rfl,fun h=>by rw[h] <;> rfl⟩,?_⟩
 refine bI (fun j7=>?_) fun j7=>?_
 · all_goals simp_all
 · refine⟨rfl,rfl,ht,?_⟩
   intro g8
   refine⟨rfl,?_⟩
   intro O6
   refine⟨(O6,g8),?_,?_,?_⟩
   · try dsimp only
     all_goals trivial
   first | rfl | simp_all
   first | rfl | exact⟨rfl,rfl⟩ | simp_all)
def pk(w:List Pg)(t:l5):o8 Tryz.prog:=.mk 33 [bQ w,eN t.na t.a7 t.hs t.se t.lk] [] ((w.length<=30)/\(∀ i,n7 (w.getD i m0))/\(D2 t)/\((av w&&aQ t)=false)) (.tup [.b7,bV false]) [] (by
 rintro⟨hw,hz,ht,hk⟩
 refine aq (N:=26) (rs:=[.tmp 4,.tmp 5]) Tryz.func33
  (.bx (fun g3=>.q 2<|.q 1<|.sp (av w) (.c (mh w) []<|.q 5<|.r 4 [.b7]<|.cg (fv t)<|.q 2<|.br (.q 2<|.nil) (.nil)) (.c (sP w) []<|.q 5<|.r 4 [.b7]<|.cg (fv t)<|.q 2<|.br (.q 2<|.nil) (.nil))))
  ((fun v1:V=>(∀ g3:Nat,((av w)=true->(mh w).sm/\((w.length<=30)/\(∀ i,n7 (w.getD i m0))/\(av w=true))/\Gd ((!true)==false) (Z g3 0)/\Gd ((!true)==false) (((D2 t))/\(fv t).sm)/\Pk (!true) true ((!true)==false)/\Br ((!true)||(!(aQ t))) (Q v1 v1) (False))/\((av w)=false->(sP w).sm/\((w.length<=30)/\(∀ i,n7 (w.getD i m0))/\(av w=false))/\Gd ((!false)==false) (Z g3 0)/\Gd ((!false)==false) (((D2 t))/\(fv t).sm)/\Pk (!false) true ((!false)==false)/\Br ((!false)||(!(aQ t))) (Q v1 v1) (False)))) (.tup [.b7,bV false])) ?_
 intro g3
 refine⟨fun N'=>?_,fun N'=>?_⟩
 · have Qc:=N'
   try simp only[nb]at Qc
   refine⟨rfl,⟨hw,hz,N'⟩,fun hG=>rfl,fun hG=>⟨ht,rfl⟩,⟨fun _=>rfl,fun h=>by rw[h] <;> rfl⟩,?_⟩
   refine bI (fun j7=>?_) fun j7=>?_
   unfold Q
   rfl
   · all_goals simp_all
 · have Qc:=N'
   try simp only[nb]at Qc
   refine⟨rfl,⟨hw,hz,N'⟩,fun hG=>rfl,fun hG=>⟨ht,rfl⟩,⟨fun _=>rfl,fun h=>by rw[h] <;> rfl⟩,?_⟩
   refine bI (fun l4=>?_) fun l4=>?_
   unfold Q
   rfl
   · all_goals simp_all)
def xA(n:BL)(a7:Int)(zs:List j9)(se:List BL)(ls:List l9)(gt:Nat)(g:Nat)(o:Nat)(c:Nat)(gw:Nat)(ix:Nat)(w:List Pg)(a:BL)(k:Int)(y:j9):o8 Tryz.prog:=.mk 121 [.ptr (.key 1001) [] gw 0,.ptr (.key 1000) [2,ix] g (o+ix*8),sV a,iV k] [(1001,(gw,.agg [.mp (w.map E1),.ptr (.key 1000) [] gt 0])),(1000,(gt,bz n a7 zs g o c se ls))] ((ix<zs.length)/\(ls.length<=1000)/\(0<=k/\k<=1000)/\(0<=a7/\a7<=100000)/\(zs.getD ix e9=y)/\(y.gr.wa<=1000)) (.tup [iV ((ae w a k).1),sV ((ae w a k).2)]) [(1001,(gw,.agg [.mp (w.map E1),.ptr (.key 1000) [] gt 0])),(1000,(gt,bz n a7 (zs.set ix (dG y a7 (ae w a k).1 k)) g o c se (ls++[(⟨a7,a,(ae w a k).1⟩:l9)])))] (by
 rintro⟨hi,hl,hk,hn,hyy,hy⟩
 refine aq (N:=71) (rs:=[.tmp 8,.tmp 9]) Tryz.func121
  (.oR (.key 1000) [4] (fun gl PW cl=>.q 2<|.r 5 [.b7]<|.r 6 [.b7]<|.c (wv w a k) []<|.q 5<|.dx 14 [0,1,2,3,4,5,6,7,8,9,10,11,12,13] [(4,⟨false,[],some [1000],[31],[]⟩),(8,⟨false,[],some [1000],[35],[]⟩),(13,⟨true,[],none,[40],[1000]⟩)] []<|.q 1<|.q 1<|.q 1<|.q 1<|.r 1 [.b7]<|.q 1<|.q 1<|.q 1<|.r 1 [.b7]<|.q 1<|.q 1<|.bd Fq<|.bs<|.ux none (fun D0 C9 E6=>.h (.o4 40 (.own 3 ((ls++[(⟨a7,a,(ae w a k).1⟩:l9)]).map aX) D0 C9 E6))<|.q 2<|.st none<|.h (.z6 1000 (jX n a7 zs ix (y.na) (y.re) (y.kn) (y.gr.na) (y.gr.ru) (y.gr.wa) (y.tr) (y.td) g o c se (ls++[(⟨a7,a,(ae w a k).1⟩:l9)]) D0 C9 E6))<|.dx 12 [0,1,2,3,4,5,6,7,8,9,10,11] [(4,⟨false,[],some [1000],[47],[]⟩),(9,⟨false,[],some [1000],[52],[]⟩)] []<|.q 1<|.q 1<|.q 1<|.q 1<|.r 1 [.b7]<|.q 1<|.q 1<|.q 1<|.q 1<|.r 1 [iN (y.gr.wa)]<|.mm<|.q 1<|.q 2<|.st (some (iV (y.re)))<|.h (.z6 1000 (jX n a7 zs ix (y.na) (a7+(max ((y.gr.wa:Nat):Int) 1)) (y.kn) (y.gr.na) (y.gr.ru) (y.gr.wa) (y.tr) (y.td) g o c se (ls++[(⟨a7,a,(ae w a k).1⟩:l9)]) D0 C9 E6))<|.q 2<|.br (.dx 7 [0,1,2,3,4,5,6] [(3,⟨false,[],some [1000],[62],[]⟩)] []<|.q 1<|.q 1<|.q 1<|.r 1 [iV (a7+(max ((y.gr.wa:Nat):Int) 1))]<|.q 1<|.q 1<|.c (DI (k+1)) []<|.q 3<|.st (some (iV (a7+(max ((y.gr.wa:Nat):Int) 1))))<|.h (.z6 1000 (jX n a7 zs ix (y.na) ((a7+(max ((y.gr.wa:Nat):Int) 1))+(dm (k+1))) (y.kn) (y.gr.na) (y.gr.ru) (y.gr.wa) (y.tr) (y.td) g o c se (ls++[(⟨a7,a,(ae w a k).1⟩:l9)]) D0 C9 E6))<|.q 4<|.h (.z6 1000 (.agg [sV n,iV a7,.own 8 ((zs.set ix ({ y with re:=(a7+(max ((y.gr.wa:Nat):Int) 1))+(dm (k+1)) }:j9)).map aw) g o c,.ow 1 (se.map sV),.own 3 ((ls++[(⟨a7,a,(ae w a k).1⟩:l9)]).map aX) D0 C9 E6]))<|.nil) (.q 4<|.h (.z6 1000 (.agg [sV n,iV a7,.own 8 ((zs.set ix ({ y with re:=a7+(max ((y.gr.wa:Nat):Int) 1) }:j9)).map aw) g o c,.ow 1 (se.map sV),.own 3 ((ls++[(⟨a7,a,(ae w a k).1⟩:l9)]).map aX) D0 C9 E6]))<|.nil))))
  ((fun v1:Int=>(fun v2:List V=>(fun v3:V=>(fun v4:V=>(fun v5:V=>(∀ gl PW cl:Nat,True/\Z gw 1/\True/\Z gw 0/\(wv w a k).sm/\((0<=k)/\(k<=1000))/\True/\Z gt 4/\True/\Z gt 1/\(((3,3,gl,PW,cl,(ls.map aX).length)=(3,3,gl,PW,cl,(ls.map aX).length))/\(V.ay v2=false)/\(aC 3 v2)/\(((ls.map aX).length+v2.length)*32<=140737488355328))/\∀ D0 C9 E6:Nat,(fun v6:V=>(fun v7:V=>((.own 3 ((ls.map aX)++v2) D0 C9 E6:V)=.own 3 ((ls++[(⟨a7,a,(ae w a k).1⟩:l9)]).map aX) D0 C9 E6)/\True/\Z gt 4/\((.agg [sV n,iV a7,.own 8 (zs.map aw) g o c,.ow 1 (se.map sV),.own 3 ((ls++[(⟨a7,a,(ae w a k).1⟩:l9)]).map aX) D0 C9 E6]:V)=jX n a7 zs ix (y.na) (y.re) (y.kn) (y.gr.na) (y.gr.ru) (y.gr.wa) (y.tr) (y.td) g o c se (ls++[(⟨a7,a,(ae w a k).1⟩:l9)]) D0 C9 E6)/\True/\Z gt 1/\True/\(V.at gt 0 v7 [2,ix,3,2]=some (g,(o+ix*8+3+2),iN (y.gr.wa)))/\(IntKind.i64=IntKind.i64)/\m6 (a7+(max v1 1))/\True/\(V.at gt 0 v7 [2,ix,1]=some (g,(o+ix*8+1),iV (y.re)))/\(V.set v7 [2,ix,1] (iV (a7+(max v1 1)))=jX n a7 zs ix (y.na) (a7+(max v1 1)) (y.kn) (y.gr.na) (y.gr.ru) (y.gr.wa) (y.tr) (y.td) g o c se (ls++[(⟨a7,a,(ae w a k).1⟩:l9)]) D0 C9 E6)/\Br (o6 ((ae w a k).1) 3) (True/\(V.at gt 0 v6 [2,ix,1]=some (g,(o+ix*8+1),iV (a7+(max v1 1))))/\m6 (k+1)/\(DI (k+1)).sm/\(True)/\m6 ((a7+(max v1 1))+(dm (k+1)))/\True/\(V.at gt 0 v6 [2,ix,1]=some (g,(o+ix*8+1),iV (a7+(max v1 1))))/\(V.set v6 [2,ix,1] (iV ((a7+(max v1 1))+(dm (k+1))))=jX n a7 zs ix (y.na) ((a7+(max v1 1))+(dm (k+1))) (y.kn) (y.gr.na) (y.gr.ru) (y.gr.wa) (y.tr) (y.td) g o c se (ls++[(⟨a7,a,(ae w a k).1⟩:l9)]) D0 C9 E6)/\((jX n a7 zs ix (y.na) ((a7+(max v1 1))+(dm (k+1))) (y.kn) (y.gr.na) (y.gr.ru) (y.gr.wa) (y.tr) (y.td) g o c se (ls++[(⟨a7,a,(ae w a k).1⟩:l9)]) D0 C9 E6:V)=.agg [sV n,iV a7,.own 8 ((zs.set ix ({ y with re:=(a7+(max v1 1))+(dm (k+1)) }:j9)).map aw) g o c,.ow 1 (se.map sV),.own 3 ((ls++[(⟨a7,a,(ae w a k).1⟩:l9)]).map aX) D0 C9 E6])/\Q v3 v3/\Er gw v5/\Qr gt (bz n a7 (zs.set ix ({ y with re:=(a7+(max v1 1))+(dm (k+1)) }:j9)) g o c se (ls++[(⟨a7,a,(ae w a k).1⟩:l9)])) gt v4) (((jX n a7 zs ix (y.na) (a7+(max v1 1)) (y.kn) (y.gr.na) (y.gr.ru) (y.gr.wa) (y.tr) (y.td) g o c se (ls++[(⟨a7,a,(ae w a k).1⟩:l9)]) D0 C9 E6:V)=.agg [sV n,iV a7,.own 8 ((zs.set ix ({ y with re:=a7+(max v1 1) }:j9)).map aw) g o c,.ow 1 (se.map sV),.own 3 ((ls++[(⟨a7,a,(ae w a k).1⟩:l9)]).map aX) D0 C9 E6])/\Q v3 v3/\Er gw v5/\Qr gt (bz n a7 (zs.set ix ({ y with re:=a7+(max v1 1) }:j9)) g o c se (ls++[(⟨a7,a,(ae w a k).1⟩:l9)])) gt v4)) (jX n a7 zs ix (y.na) (y.re) (y.kn) (y.gr.na) (y.gr.ru) (y.gr.wa) (y.tr) (y.td) g o c se (ls++[(⟨a7,a,(ae w a k).1⟩:l9)]) D0 C9 E6)) (jX n a7 zs ix (y.na) (a7+(max v1 1)) (y.kn) (y.gr.na) (y.gr.ru) (y.gr.wa) (y.tr) (y.td) g o c se (ls++[(⟨a7,a,(ae w a k).1⟩:l9)]) D0 C9 E6))) (.agg [.mp (w.map E1),.ptr (.key 1000) [] gt 0])) (bz n a7 (zs.set ix (dG y a7 (ae w a k).1 k)) g o c se (ls++[(⟨a7,a,(ae w a k).1⟩:l9)]))) (.tup [iV ((ae w a k).1),sV ((ae w a k).2)])) ([.agg [iV a7,sV a,iV ((ae w a k).1)]]:List V)) ((y.gr.wa:Nat):Int)) ?_
 subst hyy
 intro gl PW cl
 refine⟨trivial,rfl,trivial,rfl,rfl,⟨hk.1,hk.2⟩,trivial,rfl,trivial,rfl,⟨rfl,rfl,by simp[aC,V.n,V.ns],Z0⟩,?_⟩
 intro D0 C9 E6
 refine⟨Zo (V.own 3 · D0 C9 E6) Z8,trivial,rfl,Ni (Zo (V.own 8 · g o c) (pF (d:=e9) Z9)),trivial,rfl,trivial,(aK (f:=2) rfl).trans (az (aB Z9) rfl),rfl,Z9,trivial,(aK (f:=2) rfl).trans (az (aB Z9) rfl),dz (aP (aB Z9) (cH Z9)),?_⟩
 refine bI (fun j7=>?_) fun j7=>?_
 refine⟨trivial,(aK (f:=2) rfl).trans (az (aB Z9) rfl),Z9,rfl,trivial,by have:=FR (k+1);omega,trivial,(aK (f:=2) rfl).trans (az (aB Z9) rfl),dz (aP (aB Z9) (cH Z9)),Ni (Zo (V.own 8 · g o c) (jV (f:=aw) (x:=({ (zs.getD ix e9) with re:=(a7+(max (((zs.getD ix e9).gr.wa:Nat):Int) 1))+(dm (k+1)) }:j9)) Z9)),?_⟩
 refine⟨?_,rfl,by rw[Hj j7]⟩
 unfold Q
 rfl
 refine⟨Ni (Zo (V.own 8 · g o c) (jV (f:=aw) (x:=({ (zs.getD ix e9) with re:=a7+(max (((zs.getD ix e9).gr.wa:Nat):Int) 1) }:j9)) Z9)),?_⟩
 refine⟨?_,rfl,by rw[GO j7]⟩
 unfold Q
 rfl)
section
variable {P:Program} {w w':World} {Pb Kb:Nat->Prop} {N:Nat} {A:AS} {a:Act} {F:l6->List Nat}
theorem set_set:∀ (p:List Nat) (v x y:V),(v.set p x).set p y=v.set p y
 | [],_,_,_=>rfl
 | j::p,v,x,y=>by
   cases v with
   | agg vs=>
     simp only[V.set]
     cases h:vs[j]? with
     | none=>simp only[h]
     | some u=>
       have hj:=(ZH.1 h).1
       simp only[List.getElem?_set_self hj,List.set_set,set_set p u x y]
   | own sz xs g o c=>
     simp only[V.set]
     cases h:xs[j]? with
     | none=>simp only[h]
     | some u=>
       have hj:=(ZH.1 h).1
       simp only[List.getElem?_set_self hj,List.set_set,set_set p u x y]
   | _=>rfl
theorem sJ:∀ (p:List Nat) {v u x:V} {g o g' o':Nat},V.at g o v p=some (g',o',u)->V.at g o (v.set p x) p=some (g',o',x)
 | [],v,u,x,g,o,g',o',h=>by
   simp only[V.at,ZY,ZV]at h ⊢
   exact⟨h.1,h.2.1,rfl⟩
 | j::p,v,u,x,g,o,g',o',h=>by
   simp only[V.at]at h
   split at h
   rename_i vs
   split at h
   rename_i y hy
   have hj:=(ZH.1 hy).1
   simp only[V.set,hy,V.at,List.getElem?_set_self hj]
   rw[List.take_set_of_le (Zy _)]
   exact sJ p h
   simp at h
   rename_i sz xs g1 o1 c1
   split at h
   rename_i y hy
   have hj:=(ZH.1 hy).1
   simp only[V.set,hy,V.at,List.getElem?_set_self hj]
   exact sJ p h
   simp at h
   simp at h
theorem mc:∀ (xs ys:List V) {cs:List Value},RL w Pb (xs++ys) cs []->RL w Pb xs (cs.take (V.ns xs)) []/\RL w Pb ys (cs.drop (V.ns xs)) []
 | [],ys,cs,h=>⟨⟨by simp[V.ns],rfl⟩,by simpa[V.ns] using h⟩
 | x::xs,ys,cs,h=>by
   obtain⟨c1,c2,F1,F2,rfl,hF,h1,h2⟩:=h
   obtain⟨rfl,rfl⟩:=List.append_eq_nil_iff.1 hF.symm
   obtain⟨k1,k2⟩:=mc xs ys h2
   have hl:=dR x h1
   have e:V.ns (x::xs)=c1.length+V.ns xs:=by simp only[V.ns];omega
   rw[e,List.take_length_add_append,List.drop_length_add_append]
   exact⟨⟨c1,_,[],[],rfl,rfl,h1,k1⟩,k2⟩
theorem y9.same{g o:Nat}{cs:List Value}{cells:Array Value}(hb:Blk w g cells)(h:∀ j u,cs[j]? =some u->cells[o+j]? =some u):y9 w w g o cs where
 os:=rfl
 tape:=rfl
 output:=rfl
 size:=rfl
 Mu:=fun _ _=>rfl
 shape:=Shp.refl _
 Nd:=fun m9 I'=>by
  obtain⟨e,fr,h1,h2⟩:=hb
  obtain⟨e',VI,QM,VF⟩:=I'
  rw[h1]at QM
  simp only[ZY,Obj.cells.injEq]at QM
  obtain⟨rfl,_,_⟩:=QM
  exact⟨cells,⟨e',VI,by rw[h1];simp_all,VF⟩,rfl,fun _ _=>rfl,h⟩
theorem r7.zu(hs:r7 N Pb Kb A a w F) {k g1 o1 sz g o c lo:Nat} {p:List Nat} {xs xs':List V} {new:List Value} (w8:A.at (.key k) p=some (g1,o1,.own sz xs g o c)) (hc:0<c) (H5:V.ay xs=false)
 (hlo:lo+new.length<=xs.length*sz) (hlen:xs'.length=xs.length) (hN:aC sz xs') (h1:∀ v,v∈new->v.oneCell'=true)
 (NF:∀ flat,RL w Pb xs flat []->RL w Pb xs' (flat.take lo++new++flat.drop (lo+new.length)) []):
 ∃ w' F',(storeCells ⟨g,o+lo,none⟩ new 0).run P w=.ok () w'/\r7 N Pb Kb (A.setAt (.key k) p (.own sz xs' g o c)) a w' F'/\w5 Kb w w':=by
 obtain⟨Fr,Fu,MD,⟨cs,cells,hb,J',r6⟩,hnd,s6,hfr⟩:=hs.split w8
 rcases J' with ⟨h0,_⟩ | ⟨QM,hsz,hle,hcs,WS,Ti,flat,F',NK,TY,hr,l4,SW,Qs⟩
 omega
 have hF0:=fc xs H5 hr
 subst hF0
 subst TY
 have hfl:flat.length=xs.length*sz:=by rw[gX _ hr,np _ WS]
 have Q8:xs.length*sz<=c*sz:=Nat.mul_le_mul_right _ hle
 obtain⟨w',x8,x4⟩:=fI (P:=P) (g:=g) (o:=o+lo) new 0 w NK l4 Z9 h1
 rw[Nat.add_zero]at x4
 have hg:=hfr g Z8
 have J1:r7 N Pb Kb (A.setAt (.key k) p .b7) a w' (bO F (.key k) Fr):=MD.Mu (fun r=>s6 r g Z8) hg.1 x4.Mu x4.size
 have Vt:∀ x,Pb x->w'.heap[x]? =w.heap[x]? :=fun x hx=>x4.Mu x (by rintro rfl;exact Ti hx)
 obtain⟨m9,I',Xx,MM,Qf⟩:=x4.Nd NK l4
 have hnl:=NF flat hr
 have hR:R w' Pb (.own sz xs' g o c) cs [g]:=by
  refine .inr ⟨QM,hsz,Z9,by rw[hlen];exact hcs,hN,Ti,_,[],m9,rfl,dK xs' hnl Vt Z8 (fun _ h=>h) Z8,I',Z9,fun j u hu=>?_⟩
  by_cases j1:j<lo
  rw[List.append_assoc,ZB Z0,List.getElem?_take_of_lt j1]at hu
  rw[MM _ (.inl Z9)]
  exact Qs j u hu
  by_cases j2:j<lo+new.length
  rw[List.append_assoc,ZG Z0,ZB Z0]at hu
  have:=Qf _ _ hu
  have e:(flat.take lo).length=lo:=by rw[List.length_take];omega
  rw[e,show o+lo+(j-lo)=o+j from Z9]at this
  exact this
  have e:(flat.take lo++new).length=lo+new.length:=by rw[ZW,List.length_take];omega
  rw[ZG Z9,e,List.getElem?_drop,show lo+new.length+(j-(lo+new.length))=j from Z9]at hu
  rw[MM _ (.inr Z9)]
  exact Qs j u hu
 have Q9:(A.setAt (.key k) p .b7).at (.key k) p=some (g1,o1,.b7):=by
  simp only[AS.at]at w8
  split at w8
  rename_i g0 t hk
  simp only[AS.setAt,hk,AS.at,lk,if_true]
  exact sJ p w8
  simp at w8
 have QH:g1≠g:=by
  have hh:=Q9
  simp only[AS.at]at hh
  split at hh
  rename_i g0 t hk
  obtain⟨Mg,e,hA⟩:=MD.root k g0 t hk
  have hin:g1∈bO F (.key k) Fr (.key k):=by
   rw[e]
   rcases gj p hA hh with ⟨h,_⟩ | h
   rw[h];simp
   simp[h]
  rintro rfl
  exact s6 (.key k) g1 Z8 hin
  simp at hh
 have Wg:y9 w' w' g1 o1 cs:=by
  obtain⟨e,fr,U6,hf⟩:=hb
  exact y9.same (cells:=cells) ⟨e,fr,(x4.Mu g1 QH).trans U6,hf⟩ r6
 obtain⟨F3,LW,_⟩:=J1.store Q9 hR (by rfl) hnd (fun r x hx=>s6 r x hx) (fun x hx=>by rw[x4.size];exact hfr x hx) Wg
 refine⟨w',F3,x8,LW.eqv ⟨fun i=>?_,fun q=>?_⟩,⟨x4.os,x4.tape,x4.output,by rw[x4.size];omega,fun x hx=>x4.Mu x (by rintro rfl;exact hg.1 hx),x4.shape⟩⟩
 simp only[AS.at]at w8
 split at w8
 rename_i g0 t hk
 simp only[AS.setAt,hk,lk,if_true];rfl
 simp at w8
 simp only[AS.at]at w8
 split at w8
 rename_i g0 t hk
 simp only[AS.setAt,hk,lk,if_true,set_set]
 split <;> rfl
 simp at w8
theorem Hb{zc:Array Value}(h:0<zc.size)(n:Nat):(Builtin.zeroCells zc (n+1)).toList=zc.toList++(Builtin.zeroCells zc n).toList:=by
 apply List.ext_getElem
 simp[Builtin.zeroCells,Nat.add_mul];omega
 intro i h1 h2
 by_cases hi:i<zc.size
 rw[List.getElem_append_left (by simpa using hi)]
 simp[Builtin.zeroCells,Nat.mod_eq_of_lt hi,hi]
 rw[List.getElem_append_right (by simpa using hi)]
 simp only[Builtin.zeroCells,Array.getElem_toList,Array.getElem_map,Array.getElem_range,Array.length_toList]
 rw[Nat.mod_eq_sub_mod Z9]
theorem AL{v:V}{zc:Array Value}(h:0<zc.size)(hr:R w Pb v zc.toList []):∀ n,RL w Pb (List.replicate n v) (Builtin.zeroCells zc n).toList []
 | 0=>⟨by simp[Builtin.zeroCells],rfl⟩
 | n+1=>by
   rw[Hb h,List.replicate_succ]
   exact⟨_,_,[],[],rfl,rfl,hr,AL h hr n⟩
theorem CL{zc:Array Value}(n:Nat):(Builtin.zeroCells zc n).toList.length=n*zc.size:=by simp[Builtin.zeroCells]
theorem Ku{v:V}{zc:Array Value}(h:0<zc.size)(hr:R w Pb v zc.toList [])(n:Nat):∀ x,x∈(Builtin.zeroCells zc n).toList->x.oneCell'=true:=pt _ (AL h hr n)
theorem sK:∀ (xs:List V) (k:Nat),V.ay xs=false->V.ay (xs.take k)=false
 | xs,0,h=>by simp[V.ay]
 | [],k+1,h=>by simpa using h
 | v::vs,k+1,h=>by
   simp only[V.ay,Bool.or_eq_false_iff]at h
   simp only[List.take_succ_cons,V.ay,Bool.or_eq_false_iff]
   exact⟨h.1,sK vs k h.2⟩
def X0(k:Nat)(p:List Nat)(lo n sz:Nat)(xs:List V)(g q c g1 o1:Nat)(z:ZT P):Cu P where
 X:=Unit
 pre _ o A:=match o.op,o.dst with
  | .call ⟨.builtin .clear,⟨[x]⟩,⟨[T]⟩⟩,none=>match tD P T,A.ev x with
    | some (.sl e),.hd r p' I2 g' o' LZ n' _=>((e,r,p',I2,g',o',LZ,n')=(z.T,l6.key k,p,sz,g,q,lo,n))/\A.at (.key k) p=some (g1,o1,.own sz xs g q c)/\lo+n<=xs.length/\V.ay xs=false/\aC sz xs/\z.v.n=sz
    | _,_=>False
  | _,_=>False
 post _ _ A:=A.setAt (.key k) p (.own sz (xs.take lo++List.replicate n z.v++xs.drop (lo+n)) g q c)
 ok:=by
  rintro N ⟨dst,op,ty,pos,after,B9⟩ A K-hp hK
  replace hK:=hK ()
  simp only at hp
  split at hp
  rename_i x T
  split at hp
  rename_i e r p' I2 g' o' LZ n' c' e1 e2
  obtain⟨h1,w8,hlo,H5,hN,Ut⟩:=hp
  simp only[ZV]at h1
  obtain⟨rfl,rfl,rfl,rfl,rfl,rfl,rfl,rfl⟩:=h1
  intro Pb Kb a w F Q hs
  obtain⟨_,hx⟩:=dr hs x
  rw[e2]at hx
  obtain⟨_,hle,B,hv,hB⟩:=hx
  have hv:a.eval x=.slice B n' c':=(List.cons.inj hv).1
  have hu:=gJ e1
  unfold Oper.wp
  by_cases hn:n'=0
  subst hn
  have x8:(execOp a.eval ⟨none,.call ⟨.builtin .clear,⟨[x]⟩,⟨[T]⟩⟩,ty,pos,after,B9⟩).run P w=.ok (.value (.tuple #[])) w:=by
   cases B <;> simp[execOp,resolve,Deferred.ofValue,invoke,builtin,Builtin.clear_,hv,ax hu]
  rw[x8,Oper.upon_value]
  obtain⟨cu,Fu,q1,q2⟩:=hs.qv w8
  have:=q2 _ rfl q1
  have t2:r7 N Pb Kb (A.setAt (.key k) p' (.own I2 (xs.take LZ++List.replicate 0 z.v++xs.drop (LZ+0)) g' o' c)) a w F:=by simpa using this
  exact⟨_,Pb,Kb,F,hK,t2,fun _ h=>h,fun _ h=>h,fun _ h=>.inl h,w5.refl _ _⟩
  obtain rfl:=hB Z9
  obtain⟨inf,zv,z1,z2,z3⟩:=z.ok
  have TH:R w Pb z.v zv.cells.toList []:=pY z.v z3
  have Uu:zv.cells.size=z.v.n:=by have:=dR _ TH;simpa using this
  obtain⟨Fr,Fu,_,⟨cs,cells,_,J',_⟩,_⟩:=hs.split w8
  have hc:0<c/\0<z.v.n:=by
   rcases J' with ⟨_,rfl,_⟩ | ⟨h,h2,_⟩
   simp at hlo;omega
   exact⟨h,by rw[Ut];exact h2⟩
  have e9:0<zv.cells.size:=by rw[Uu];exact hc.2
  have Qe:n'*zv.cells.size=n'*I2:=by rw[Uu,Ut]
  have WK:LZ*I2+n'*I2<=xs.length*I2:=by rw[<- Nat.add_mul];exact Nat.mul_le_mul_right _ hlo
  obtain⟨w',F',x8,x5,hk⟩:=hs.zu (P:=P) (lo:=LZ*I2) (xs':=xs.take LZ++List.replicate n' z.v++xs.drop (LZ+n')) (new:=(Builtin.zeroCells zv.cells n').toList) w8 hc.1 H5 (by rw[CL,Qe];exact WK)
   Z0 (fun v hv=>by
    rcases ZN.1 hv with h | h
    rcases ZN.1 h with h | h
    exact hN v (List.mem_of_mem_take h)
    rw[(List.mem_replicate.1 h).2,Ut]
    exact hN v (List.mem_of_mem_drop h)) (Ku e9 TH n') (fun flat hf=>by
    have k1:=(mc (xs.take LZ) (xs.drop LZ) (cs:=flat) (by rw[List.take_append_drop];exact hf)).1
    have k2:=(mc (xs.take (LZ+n')) (xs.drop (LZ+n')) (cs:=flat) (by rw[List.take_append_drop];exact hf)).2
    rw[dC xs LZ hN Z9]at k1
    rw[dC xs _ hN hlo,Nat.add_mul]at k2
    rw[CL,Qe]
    exact gZ _ _ (gZ _ _ k1 (AL e9 TH n')) k2)
  have Oa:(execOp a.eval ⟨none,.call ⟨.builtin .clear,⟨[x]⟩,⟨[T]⟩⟩,ty,pos,after,B9⟩).run P w=.ok (.value (.tuple #[])) w':=by
   have hcl:(Builtin.clear_ #[T] ty #[a.eval x]).run P w=.ok (.tuple #[]) w':=by
    rw[hv]
    unfold Builtin.clear_
    simp only[List.getElem?_toArray,List.getElem?_cons_zero,ZK,ax hu,ZS]
    obtain⟨m,rfl⟩:∃ m,n'=m+1:=⟨n'-1,Z9⟩
    simp only[ZK,zeroValue,typeInfo,ZS]
    simp[z1,z2,x8]
   simp[execOp,resolve,Deferred.ofValue,invoke,builtin,hcl]
  rw[Oa,Oper.upon_value]
  exact⟨_,Pb,Kb,F',hK,x5,fun _ h=>h,fun _ h=>h,fun _ h=>.inl h,hk⟩
  exact hp.elim
  exact hp.elim
def saC(k:Nat)(p:List Nat)(lo n sz:Nat)(xs:List V)(g q c g1 o1:Nat):Cu P where
 X:=Unit
 pre N o A:=match o.op,o.dst with
  | .call ⟨.builtin .append,⟨[s,x]⟩,⟨[T,T2]⟩⟩,some d=>match o.type==T&&Nat.blt d N,lK P T T2 with
    | true,some t=>match A.ev x with
      | .hd r p' I2 g' q' LZ n' c'=>((r,p',I2,g',q',LZ,n')=(l6.key k,p,sz,g,q,lo,n))/\A.ev s=.hd (.key k) p sz g q 0 0 c/\A.at (.key k) p=some (g1,o1,.own sz xs g q c)/\sz=t.sz/\0<xs.length/\lo+n<=xs.length/\V.ay xs=false/\aC sz xs/\c'=c'
      | _=>False
    | _,_=>False
  | _,_=>False
 post _ o A:=(A.setAt (.key k) p (.own sz ((xs.drop lo).take n++xs.drop n) g q c)).put o.dst (.hd (.key k) p sz g q 0 n c)
 ok:=by
  rintro N ⟨dst,op,ty,pos,after,B9⟩ A K-hp hK
  replace hK:=hK ()
  simp only at hp
  split at hp
  rename_i s x T T2 d
  split at hp
  rename_i t e1 e2
  split at hp
  rename_i r p' I2 g' q' LZ n' c' e3
  obtain⟨h1,es,w8,hsz,h0,hlo,H5,hN,_⟩:=hp
  simp only[ZV]at h1
  obtain⟨rfl,rfl,rfl,rfl,rfl,rfl,rfl⟩:=h1
  simp only[ZX,Zp]at e1
  obtain⟨e,e',q1,q2,q3,q4,q5,q6⟩:=gP e2
  subst hsz
  intro Pb Kb a w F Q hs
  obtain⟨_,hx⟩:=dr hs s
  rw[es]at hx
  obtain⟨_,hle,B,hv,hB⟩:=hx
  have hv:a.eval s=.slice B 0 c:=(List.cons.inj hv).1
  have hrd:Nw A x=some (((t.sz=t.sz/\g'=g'/\q'=q')/\LZ+n'<=xs.length/\V.ay xs=false/\aC t.sz xs),(xs.drop LZ).take n'):=by
   unfold Nw
   rw[e3]
   show (match A.at (.key k) p' with | some (_,_,u)=>jA LZ n' t.sz g' q' u | none=>none)=_
   rw[w8]
   rfl
  have Qu:aC t.sz ((xs.drop LZ).take n'):=fun v hv=>hN v (List.mem_of_mem_drop (List.mem_of_mem_take hv))
  have S4:V.ay ((xs.drop LZ).take n')=false:=sK _ _ (oc _ _ H5)
  obtain⟨B2,c2,A9,L0,K9,Oh,hl2⟩:=lE (P:=P) hs hrd ⟨⟨rfl,rfl,rfl⟩,hlo,H5,hN⟩ Qu S4
  have hyl:((xs.drop LZ).take n').length=n':=Z0
  rw[hyl]at hl2 L0 Oh
  obtain⟨Fr,Fu,_,⟨cs,cells,_,J',_⟩,_⟩:=hs.split w8
  have hc:0<c/\xs.length<=c:=by
   rcases J' with ⟨_,rfl,_⟩ | ⟨h,_,h2,_⟩
   simp at h0
   exact⟨h,h2⟩
  obtain rfl:=hB hc.1
  have WK:n'*t.sz<=xs.length*t.sz:=Nat.mul_le_mul_right _ Z9
  obtain⟨w',F',x8,x5,hk⟩:=hs.zu (P:=P) (lo:=0) (xs':=(xs.drop LZ).take n'++xs.drop n') (new:=A9) w8 hc.1 H5 (by rw[hl2];omega)
   Z0 (fun v hv=>by
    rcases ZN.1 hv with h | h
    exact Qu v h
    exact hN v (List.mem_of_mem_drop h)) (pt _ K9) (fun flat hf=>by
    have k2:=(mc (xs.take n') (xs.drop n') (cs:=flat) (by rw[List.take_append_drop];exact hf)).2
    rw[dC xs _ hN Z9]at k2
    rw[hl2,List.take_zero,List.nil_append,ZO]
    exact gZ _ _ K9 k2)
  have Oa:(execOp a.eval ⟨some d,.call ⟨.builtin .append,⟨[s,x]⟩,⟨[T,T2]⟩⟩,ty,pos,after,B9⟩).run P w=.ok (.value (.slice (some ⟨g',q'+0*t.sz,none⟩) n' c)) w':=by
   have Pz:(Builtin.append_ #[T,T2] ty #[a.eval s,a.eval x]).run P w=.ok (.slice (some ⟨g',q'+0*t.sz,none⟩) n' c) w':=by
    have Od:(Builtin.lenOf (a.eval x)).run P w=.ok n' w:=by rw[L0];rfl
    rw[hv]
    unfold Builtin.append_
    simp only[List.getElem?_toArray,List.getElem?_cons_zero,List.getElem?_cons_succ,ZK,ax (gJ q1),ZS]
    simp only[cq q3,ZS]
    simp only[ax (gJ q2),ZS,ZJ]
    rw[if_neg (show ¬ (false=true) by decide)]
    rw[ZK,Od]
    simp only[ZS]
    rw[if_pos Z9]
    simp only[ZK,Bool.not_false,if_true,Oh w (fun _=>rfl),ZS]
    simp only[dw,Nat.zero_mul,Nat.add_zero]at x8 ⊢
    rw[x8]
    simp
   have e:((⟨[s,x]⟩:Array Operand).map a.eval)= #[a.eval s,a.eval x]:=Z8
   simp only[execOp,resolve,invoke,builtin,ZK,ZJ,ZS,e,Pz]
  obtain⟨F2,J1⟩:=x5.nT (d:=some d) (v:=.hd (.key k) p' t.sz g' q' 0 n' c) (x:=.slice (some ⟨g',q'+0*t.sz,none⟩) n' c) (bu e1.2) ⟨rfl,Z9,_,rfl,fun _=>rfl⟩
  unfold Oper.wp
  rw[Oa,Oper.upon_value]
  exact⟨_,Pb,Kb,F2,hK,J1,fun _ h=>h,fun _ h=>h,fun _ h=>.inl h,hk⟩
  exact hp.elim
  exact hp.elim
  exact hp.elim
def Xe(k:Nat)(p:List Nat)(n sz:Nat)(xs:List V)(g q c g1 o1:Nat):Cu P where
 X:=Unit
 pre _ o A:=match o.op,o.dst with
  | .store T x y,none=>match ti P T,A.ev y with
    | some i,.hd r p' I2 g' q' LZ n' c'=>((r,p',I2,g',q',LZ,n',c')=(l6.key k,p,sz,g,q,0,n,c))/\A.ev x=.ptr (.key k) p g1 o1/\A.at (.key k) p=some (g1,o1,.own sz xs g q c)/\i.sz=1/\n<=xs.length/\V.ay xs=false
    | _,_=>False
  | _,_=>False
 post _ _ A:=A.setAt (.key k) p (.own sz (xs.take n) g q c)
 ok:=by
  rintro N ⟨dst,op,ty,pos,after,B9⟩ A K-hp hK
  replace hK:=hK ()
  simp only at hp
  split at hp
  rename_i T x y
  split at hp
  rename_i i r p' I2 g' q' LZ n' c' e1 e2
  obtain⟨h1,ex,w8,hi,hn,H5⟩:=hp
  simp only[ZV]at h1
  obtain⟨rfl,rfl,rfl,rfl,rfl,rfl,rfl,rfl⟩:=h1
  intro Pb Kb a w F Q hs
  obtain⟨_,hx⟩:=dr hs y
  rw[e2]at hx
  obtain⟨_,hle,B,hv,hB⟩:=hx
  have hv:a.eval y=.slice B n' c':=(List.cons.inj hv).1
  obtain⟨_,R4⟩:=dr hs x
  rw[ex]at R4
  have hp:a.eval x=.pointer (some ⟨g1,o1,none⟩):=by have:=R4.2;simpa using this
  obtain⟨Fr,Fu,MD,⟨cs,cells,hb,J',r6⟩,hnd,s6,hfr⟩:=hs.split w8
  have hR:R w Pb (.own I2 (xs.take n') g' q' c') [a.eval y] Fu:=by
   rw[hv]
   rcases J' with ⟨rfl,rfl,rfl,A0,_⟩ | ⟨QM,hsz,hlx,hcs,WS,Ti,flat,F',NK,TY,hr,l4,SW,Qs⟩
   have:n'=0:=by simpa using hn
   subst this
   exact .inl ⟨rfl,rfl,rfl,B,rfl⟩
   have hF0:=fc xs H5 hr
   subst hF0
   obtain rfl:=hB QM
   have hl:(xs.take n').length=n':=by rw[List.length_take];omega
   refine .inr ⟨QM,hsz,Z9,by rw[hl,Nat.zero_mul,Nat.add_zero],fun v hv=>WS v (List.mem_of_mem_take hv),Ti,flat.take (V.ns (xs.take n')),[],NK,TY,?_,l4,SW,fun j u hu=>Qs j u ?_⟩
   exact(mc (xs.take n') (xs.drop n') (cs:=flat) (by rw[List.take_append_drop];exact hr)).1
   rw[List.getElem?_take]at hu
   split at hu
   exact hu
   simp at hu
  have Q9:(A.setAt (.key k) p' .b7).at (.key k) p'=some (g1,o1,.b7):=by
   simp only[AS.at]at w8
   split at w8
   rename_i g0 t hk
   simp only[AS.setAt,hk,AS.at,lk,if_true]
   exact sJ p' w8
   simp at w8
  have hcs:cs.length=1:=dR _ J'
  obtain⟨w',x8,x4⟩:=fI (P:=P) (g:=g1) (o:=o1) [a.eval y] 0 w cells hb (by
   have:cs[0]? =some (cs[0]'Z9):=ZR Z9
   have:=(Zt.1 (r6 0 _ this)).1
   simp only[ZU,ZQ];omega) (fun v h=>by rw[ZP.1 h,hv];rfl)
  rw[Nat.add_zero]at x4
  have Oa:(execOp a.eval ⟨none,.store T x y,ty,pos,after,B9⟩).run P w=.ok .skip w':=by
   have ME:(a.eval y).cells= #[a.eval y]:=by rw[hv];rfl
   have hsz:(a.eval y).cells.size=i.sz:=by rw[ME,hi];rfl
   have UG:(storeCells ⟨g1,o1,none⟩ (a.eval y).cells.toList 0).run P w=.ok () w':=by rw[ME];exact x8
   simp only[execOp,Instr.storeAt,hp,Instr.sureAddr,ZK,ZJ,ZS,storeVar,cq e1,hsz,ne_eq,not_true_eq_false,if_false,UG]
  obtain⟨F2,J1,hg⟩:=MD.store Q9 hR (by rfl) hnd s6 hfr x4
  have LW:r7 N Pb Kb (A.setAt (.key k) p' (.own I2 (xs.take n') g' q' c')) a w' F2:=by
   simp only[AS.at]at w8
   split at w8
   rename_i g0 t hk
   refine J1.eqv ⟨fun i=>?_,fun q=>?_⟩
   simp only[AS.setAt,hk,lk,if_true];rfl
   simp only[AS.setAt,hk,lk,if_true,set_set]
   split <;> rfl
   simp at w8
  unfold Oper.wp
  rw[Oa,Oper.upon_skip]
  exact⟨_,Pb,Kb,F2,hK,LW,fun _ h=>h,fun _ h=>h,fun _ h=>.inl h,⟨x4.os,x4.tape,x4.output,by rw[x4.size];omega,fun x hx=>x4.Mu x (fun c=>hg (c ▸ hx)),x4.shape⟩⟩
  exact hp.elim
  exact hp.elim
end
theorem Iq{xs ys:List V}{j sz g o c:Nat}{x x' v:V}{p:List Nat}(h:xs[j]? =some x)(hx:V.set x p v=x')(e:xs.set j x'=ys):V.set (.own sz xs g o c) (j::p) v=.own sz ys g o c:=by simp only[V.set,h,hx,e]
section
variable {P:Program}
def sdC(n:Nat)(l h m:Int):Cu P where
 X:=Unit
 pre N o A:=match o.op,o.dst with
  | .slice T x (some lo) (some hi) (some mx),some d=>match tD P T,Nat.blt d N with
    | some (.sl e),true=>match ti P e,A.ev x with
      | some _,.hd _ _ _ _ _ _ n' _=>A.ev lo=.lit (.int .i64 l)/\A.ev hi=.lit (.int .i64 h)/\A.ev mx=.lit (.int .i64 m)/\n'=n/\0<=l/\l<=h/\h<=m/\m<=n
      | _,_=>False
    | _,_=>False
  | _,_=>False
 post _ o A:=A.put o.dst .b7
 ok:=by
  rintro N ⟨dst,op,ty,pos,after,B9⟩ A K-hp hK
  replace hK:=hK ()
  simp only at hp hK
  split at hp
  rename_i T x lo hi mx d
  split at hp
  rename_i e e1 e2
  split at hp
  rename_i t r p sz g q LZ n' c e3 e4
  obtain⟨h1,h2,h3,rfl,k1,k2,k3,k4⟩:=hp
  refine fN (v:=.b7) rfl (bu e2) hK fun Pb Kb a w F hs=>?_
  obtain⟨_,hx⟩:=dr hs x
  rw[e4]at hx
  obtain⟨_,hle,B,hv,hB⟩:=hx
  have hv:a.eval x=.slice B n' c:=(List.cons.inj hv).1
  have b1:=bH hs h1
  have b2:=bH hs h2
  have b3:=bH hs h3
  refine⟨.slice (if m.toNat=l.toNat then B else B.map (·.add (l.toNat*t.sz))) (h.toNat-l.toNat) (m.toNat-l.toNat),?_,rfl⟩
  have q1:(Instr.sliceBounds true n' c (some (.int .i64 l)) (some (.int .i64 h)) (some (.int .i64 m))).run P w=.ok (l.toNat,h.toNat,m.toNat) w:=by
   simp only[Instr.sliceBounds,Instr.sliceBound,asIntOf,ZK,ZJ,ZS]
   rw[if_pos Z9]
   simp only[ZJ,ZS]
   rw[if_pos Z9]
   simp only[ZJ,ZS]
   rw[if_pos Z9]
   simp only[ZJ,ZS]
  simp only[execOp,Option.map_some,Instr.sliceAt,Instr.slice,ZK,ax (gJ e1),ZS,hv,b1,b2,b3,q1,cq e3,ZJ]
  exact hp.elim
  exact hp.elim
  exact hp.elim
def sbC(k:Nat)(p:List Nat)(sz:Nat)(xs:List V)(g q c n g1 o1:Nat)(l h:Nat):Cu P where
 X:=Unit
 pre N o A:=match o.op,o.dst with
  | .slice T x (some lo) (some hi) none,some d=>match tD P T,Nat.blt d N with
    | some (.sl e),true=>match ti P e with
      | some t=>A.ev x=.hd (.key k) p sz g q 0 n c/\A.at (.key k) p=some (g1,o1,.own sz xs g q c)/\A.ev lo=.lit (.int .i64 (l:Int))/\A.ev hi=.lit (.int .i64 (h:Int))/\sz=t.sz/\l<=h/\h<=xs.length
      | none=>False
    | _,_=>False
  | _,_=>False
 post _ o A:=A.put o.dst (.hd (.key k) p sz g q l (h-l) (c-l))
 ok:=by
  rintro N ⟨dst,op,ty,pos,after,B9⟩ A K-hp hK
  replace hK:=hK ()
  simp only at hp hK
  split at hp
  rename_i T x lo hi d
  split at hp
  rename_i e e1 e2
  split at hp
  rename_i t e3
  obtain⟨ex,w8,h1,h2,hsz,k1,k2⟩:=hp
  subst hsz
  refine fN (v:=.hd (.key k) p t.sz g q l (h-l) (c-l)) rfl (bu e2) hK fun Pb Kb a w F hs=>?_
  obtain⟨_,hx⟩:=dr hs x
  rw[ex]at hx
  obtain⟨_,hle,B,hv,hB⟩:=hx
  have hv:a.eval x=.slice B n c:=(List.cons.inj hv).1
  have b1:=bH hs h1
  have b2:=bH hs h2
  obtain⟨_,cs,cells,_,J',_⟩:=iz hs w8
  have hc:xs.length<=c:=by
   rcases J' with ⟨_,rfl,_⟩ | ⟨_,_,h,_⟩
   simp
   exact h
  refine⟨.slice (if c=l then B else B.map (·.add (l*t.sz))) (h-l) (c-l),?_,rfl,Z9,_,rfl,fun h0=>?_⟩
  have q1:(Instr.sliceBounds true n c (some (.int .i64 (l:Int))) (some (.int .i64 (h:Int))) none).run P w=.ok (l,h,c) w:=by
   simp only[Instr.sliceBounds,Instr.sliceBound,asIntOf,ZK,ZJ,ZS]
   rw[if_pos Z9]
   simp only[ZJ,ZS]
   rw[if_pos Z9]
   simp only[ZJ,ZS,Int.toNat_natCast]
  simp only[execOp,Option.map_some,Option.map_none,Instr.sliceAt,Instr.slice,ZK,ax (gJ e1),ZS,hv,b1,b2,q1,cq e3,ZJ]
  rw[if_neg Z9,hB Z9]
  simp[dw]
  exact hp.elim
  exact hp.elim
  exact hp.elim
def mfE:Eu P where
 X:=Unit
 pre N o A Sl _:=match o.op,o.dst with
  | .makeFunc fn first w4,some d=>match Nat.blt d N&&Sl.contains d,ij (first.toList.map A.ev),ij (w4.toList.map A.ev) with
    | true,some l1,some l2=>(Value.func fn l1.toArray l2.toArray).oneCell'=true
    | _,_,_=>False
  | _,_=>False
 U o A _ B:=match o.op,o.dst with
   | .makeFunc fn first w4,some d=>match ij (first.toList.map A.ev),ij (w4.toList.map A.ev) with
     | some l1,some l2=>B.put (some d) (.lit (.func fn l1.toArray l2.toArray))
     | _,_=>B
   | _,_=>B
 Ul:=by
  rintro N ⟨dst,op,ty,pos,after,B9⟩ A Sl Hl hp fs
  simp only at hp
  split at hp
  rename_i fn first w4 d
  split at hp
  rename_i l1 l2 e1 e2 e3
  simp only[ZX,Zs,Zq]at e1
  simp only[e2,e3]
  exact zq (v:=fun _:Unit=>.lit (.func fn l1.toArray l2.toArray)) e1.2 fs
  exact hp.elim
  exact hp.elim
 ok:=by
  rintro N ⟨dst,op,ty,pos,after,B9⟩ A A' Sl Hl hg hp hA hR
  simp only at hp
  split at hp
  rename_i fn first w4 d
  split at hp
  rename_i l1 l2 e1 e2 e3
  simp only[ZX]at e1
  have q1:first.toList.map A'.ev=first.toList.map A.ev:=List.map_congr_left fun x hx=>bb fun t ht=>hA t (by subst ht;simp[Op.operands];left;simpa using hx)
  have q2:w4.toList.map A'.ev=w4.toList.map A.ev:=List.map_congr_left fun x hx=>bb fun t ht=>hA t (by subst ht;simp[Op.operands];right;simpa using hx)
  refine(RJ (P:=P)).ok hg ?_ fun _=>⟨(),?_⟩
  simp only[RJ,q1,q2,e1.1,e2,e3];exact hp
  simp only[RJ,q1,q2,e2,e3]
  exact hp.elim
  exact hp.elim
end
end Go.Proofs.YtelggdgnblpjdaaGreatDoor