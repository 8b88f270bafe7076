/-
  Words and walks for the laws of pedlar's seat: what each function of the program computes, and that it does; no conditions beyond those that each statement names.
-/
import Derived.Test.YtelggdgnblpjdaaGreatDoorGC
import Derived.Test.YtelggdgnblpjdaaGreatDoorGB
set_option linter.unusedVariables false
set_option linter.unusedSimpArgs false
set_option linter.unnecessarySimpa false
set_option linter.unusedSectionVars false
namespace Go.Proofs.YtelggdgnblpjdaaGreatDoor
open Go Go.RowKit
set_option maxRecDepth 20000
theorem FI{s:BL}{e nx:List Bool}{c:UInt8}{m:Nat}(hc:(c.toNat:Int)=42)(hm:m<e.length)(hq:∀ k,k<m->nx.getD k false=Qj c s e k):(e.getD m false||w3 (m:Int) 0&&nx.getD ((m:Int)-1).toNat false)=Qj c s e m:=by
 have hc:c=42:=by rw[<- UInt8.toNat_inj];show c.toNat=42;omega
 subst hc
 rw[GQ hm]
 congr 1
 unfold w3
 by_cases h:0<m
 rw[show ((m:Int)-1).toNat=m-1 from Zaa,hq (m-1) Zaa,decide_eq_true Zaa,decide_eq_true h]
 rw[decide_eq_false Zaa,decide_eq_false h];rfl
theorem DH{s:BL}{e:List Bool}{c:UInt8}{m:Nat}(hc: ¬ (c.toNat:Int)=42):(w3 (m:Int) 0&&e.getD ((m:Int)-1).toNat false&&r6 (((s.getD ((m:Int)-1).toNat 0).toNat:Nat):Int) ((c.toNat:Nat):Int))=Qj c s e m:=by
 have hc: ¬ c=42:=by rintro rfl;exact hc rfl
 unfold Qj w3 r6
 rw[if_neg hc]
 by_cases h:0<m
 rw[show ((m:Int)-1).toNat=m-1 from Zaa,decide_eq_true Zaa,decide_eq_true h,Bool.and_assoc]
 congr 2
 rw[Za4,Zbj,Zbj,<- UInt8.toNat_inj]
 omega
 rw[decide_eq_false Zaa,decide_eq_false h];rfl
def yD(l:List Bool)(b:Bool):o6 Tryz.prog:=.mk 158 [.sl false (l.map bV),bV b] [] (l.length<=1000000) (iV (bZ l b)) [] (by
 intro hl
 refine aB (N:=19) (rs:=[.tmp 4]) Tryz.func158
  (.q 1<|.q 3<|.loop (Nat) (fun (i:Nat)=>⟨[(0,.sl false (l.map bV)),(1,bV b),(6,.sl false (l.map bV)),(7,iN l.length),(8,iN i)],[]⟩) (fun (i:Nat)=>i<=l.length/\∀ j,j<i->l.getD j false≠b) (fun (i:Nat)=>l.length-i) (fun (i:Nat)=>.q 1<|.br (.q 2<|.r 6 [bV (l.getD i false)]<|.br (.q 2<|.nil) (.q 2<|.nil)) (.q 1<|.nil)))
  ((fun v1:V=>((∃ j7:Nat,(j7<=l.length/\∀ j,j<j7->l.getD j false≠b)/\E v1/\E (bV b)/\E v1/\Q (iN ((l.map bV).length)) (iN l.length)/\Q (iN 0) (iN j7)/\True)/\∀ i:Nat,(i<=l.length/\∀ j,j<i->l.getD j false≠b)->Br (r8 (i:Int) (l.length:Int)) (Ex (i:Int) (l.map bV) (bV (l.getD i false))/\True/\Br (b==(l.getD i false)) (Q (iN i) (iV (bZ l b))) (m8 ((i:Int)+1)/\∃ c9:Nat,(c9<=l.length/\∀ j,j<c9->l.getD j false≠b)/\(l.length-c9<l.length-i)/\E v1/\E (bV b)/\E v1/\E (iN l.length)/\Q (iN (i+1)) (iN c9)/\True)) (Q (iV (-1)) (iV (bZ l b))))) (.sl false (l.map bV))) ?_
 refine⟨⟨0,?_,rfl,rfl,rfl,Zaf,rfl,trivial⟩,?_⟩
 simp
 rintro i ⟨h1,h2⟩
 refine bI (fun l3=>?_) fun l3=>?_
 refine⟨⟨Zaa,aq (d:=false) Zaa⟩,trivial,?_⟩
 refine bI (fun l6=>?_) fun l6=>?_
 unfold Q
 rw[jv (i:=i) Zaa (by grind) h2]
 refine⟨Zaa,?_⟩
 refine⟨i+1,?_,?_,rfl,rfl,rfl,rfl,rfl,trivial⟩
 exact⟨Zaa,bJ h2 (by grind)⟩
 exact Zai
 unfold Q
 rw[iJ (fun j hj=>h2 j Zaa)])
def EH(l:List Bool)(b:Bool):o6 Tryz.prog:=.mk 130 [.sl false (l.map bV),bV b] [] (l.length<=1000000) (bV (l.contains b)) [] (by
 intro hl
 refine aB (N:=9) (rs:=[.tmp 4]) Tryz.func130
  (.q 1<|.q 2<|.c (yD l b) []<|.q 2<|.nil)
  ((yD l b).sm/\((l.length<=1000000))/\Q (bV (A8 (bZ l b) 0)) (bV (l.contains b))) ?_
 refine⟨rfl,Zae,?_⟩
 unfold Q
 refine Zbk bV ?_
 rw[<- jf])
def wC(p:BL)(s:BL):o6 Tryz.prog:=.mk 105 [sV p,sV s] [] ((p.length<=1000000)/\(s.length<=1000000)) (bV (cB p s)) [] (by
 rintro⟨hp,hs⟩
 refine aB (N:=99) (rs:=[.tmp 4]) Tryz.func105
  (.q 1<|.q 1<|.c (lP p) []<|.q 6<|.br (.q 1<|.nil) (.q 1<|.c (uP p ([36]:BL)) []<|.q 5<|.h (.n8 22 (sV (bU p)))<|.h (.n8 5 (sV (bU p)))<|.h (.n8 23 (bV (fH p)))<|.h (.n8 6 (bV (fH p)))<|.q 3<|.cu (Z4 ZU (s.length+1)) (fun R3=>.h (.n8 27 (.own 1 ((List.replicate (s.length+1) false).map bV) R3 0 (s.length+1)))<|.q 1<|.q 2<|.st (some (bV ((List.replicate (s.length+1) false).getD 0 false)))<|.h (.n8 7 (.own 1 (((List.replicate (s.length+1) false).set 0 true).map bV) R3 0 (s.length+1)))<|.q 1<|.loop (Nat×(List Bool)×Nat×Nat×Nat) (fun (i,e,g,f,k)=>⟨[(1,sV s),(5,sV (bU p)),(6,bV (fH p)),(7,.own 1 (e.map bV) g f k),(8,iN i)],[]⟩) (fun (i,e,g,f,k)=>i<=(bU p).length/\e=ln s ((bU p).take i)) (fun (i,e,g,f,k)=>(bU p).length-i) (fun (i,e,g,f,k)=>.q 4<|.br (.q 3<|.cu (Z4 ZU (s.length+1)) (fun Pm=>.h (.n8 39 (.own 1 ((List.replicate (s.length+1) false).map bV) Pm 0 (s.length+1)))<|.q 1<|.q 3<|.loop (Nat×(List Bool)×Nat×Nat×Nat) (fun (j,nx,u,v,z)=>⟨[(1,sV s),(5,sV (bU p)),(6,bV (fH p)),(7,.own 1 (e.map bV) g f k),(8,iN i),(9,.own 1 (nx.map bV) u v z),(40,.hd (.slot 9) [] 1 u v 0 ((nx.map bV).length) z),(41,iN (s.length+1)),(42,iN j)],[]⟩) (fun (j,nx,u,v,z)=>j<=s.length+1/\nx.length=s.length+1/\∀ m,m<j->nx.getD m false=Qj ((bU p).getD i 0) s e m) (fun (j,nx,u,v,z)=>s.length+1-j) (fun (j,nx,u,v,z)=>.q 1<|.br (.q 2<|.q 4<|.br (.r 18 [bV (e.getD j false),bV (nx.getD (Int.toNat ((j:Int)-1)) false)]<|.st (some (bV (nx.getD j false)))<|.h (.n8 9 (.own 1 ((nx.set j ((e.getD j false)||((w3 (j:Int) 0)&&(nx.getD (Int.toNat ((j:Int)-1)) false)))).map bV) u v z))<|.q 2<|.nil) (.dx 21 [0,1,2,3,4,5,6,7,8,9,10,11,12,13,14,15,16,17,18,19,20] [(9,⟨false,[7],some [],[76],[]⟩)] []<|.q 1<|.q 1<|.q 1<|.q 1<|.q 1<|.q 1<|.q 1<|.q 1<|.q 1<|.r 1 [bV (e.getD (Int.toNat ((j:Int)-1)) false)]<|.q 1<|.q 1<|.q 1<|.q 1<|.q 1<|.q 1<|.q 1<|.q 1<|.q 1<|.q 1<|.q 1<|.q 1<|.st (some (bV (nx.getD j false)))<|.h (.n8 9 (.own 1 ((nx.set j (((w3 (j:Int) 0)&&(e.getD (Int.toNat ((j:Int)-1)) false))&&(r6 (((s.getD (Int.toNat ((j:Int)-1)) 0).toNat:Nat):Int) ((((bU p).getD i 0).toNat:Nat):Int)))).map bV) u v z))<|.q 2<|.nil)) (.q 1<|.h (.jt 90)<|.q 1<|.q 3<|.nil)))) (.q 1<|.br (.r 6 [bV (e.getD s.length false)]<|.nil) (.q 1<|.cl (EH e true)<|.q 1<|.nil))))))
  ((fun v1:V=>((lP p).sm/\((p.length<=4611686018427387904))/\Pk (!(eD p)) true ((!(eD p))==false)/\Br ((!(eD p))||(w3 (s.length:Int) 60)) (Q (bV false) (bV (cB p s))) ((uP p ([36]:BL)).sm/\((p.length<=4611686018427387904)/\(([36]:BL).length<=4611686018427387904))/\((sV (cQ p ([36]:BL)):V)=sV (bU p))/\((sV (cQ p ([36]:BL)):V)=sV (bU p))/\((bV (iY p ([36]:BL)):V)=bV (fH p))/\((bV (iY p ([36]:BL)):V)=bV (fH p))/\m8 ((s.length:Int)+1)/\((((4:Nat)=4)/\((1:Nat)=1)/\(∃ x,(bV false:V).lits=some [x])/\(bV false:V).n=1)/\(v1=.lit (.int .i64 ((s.length+1:Nat):Int)))/\(v1=.lit (.int .i64 ((s.length+1:Nat):Int)))/\1<=(s.length+1:Nat)/\(s.length+1:Nat)*1<=140737488355328/\(s.length+1:Nat)<=9223372036854775807)/\∀ R3:Nat,((.own 1 (List.replicate (s.length+1) (bV false)) R3 0 (s.length+1):V)=.own 1 ((List.replicate (s.length+1) false).map bV) R3 0 (s.length+1))/\In 0 (((List.replicate (s.length+1) false).map bV).length)/\(V.at R3 0 (.own 1 ((List.replicate (s.length+1) false).map bV) R3 0 (s.length+1)) [0+0]=some (R3,(0+(0+0)*1),bV ((List.replicate (s.length+1) false).getD 0 false)))/\(V.set (.own 1 ((List.replicate (s.length+1) false).map bV) R3 0 (s.length+1)) [0+0] (bV true)=.own 1 (((List.replicate (s.length+1) false).set 0 true).map bV) R3 0 (s.length+1))/\(∃ x:Nat×(List Bool)×Nat×Nat×Nat,match x with | (j7,E8,C9,B8,s7)=>(j7<=(bU p).length/\E8=ln s ((bU p).take j7))/\E (sV s)/\E (sV (bU p))/\E (bV (fH p))/\Q (.own 1 (((List.replicate (s.length+1) false).set 0 true).map bV) R3 0 (s.length+1)) (.own 1 (E8.map bV) C9 B8 s7)/\Q (iN 0) (iN j7)/\True)/\∀ x:Nat×(List Bool)×Nat×Nat×Nat,match x with | (i,e,g,f,k)=>(i<=(bU p).length/\e=ln s ((bU p).take i))->Br (r8 (i:Int) (((bU p).length:Nat):Int)) (m8 ((s.length:Int)+1)/\((((4:Nat)=4)/\((1:Nat)=1)/\(∃ x,(bV false:V).lits=some [x])/\(bV false:V).n=1)/\(v1=.lit (.int .i64 ((s.length+1:Nat):Int)))/\(v1=.lit (.int .i64 ((s.length+1:Nat):Int)))/\1<=(s.length+1:Nat)/\(s.length+1:Nat)*1<=140737488355328/\(s.length+1:Nat)<=9223372036854775807)/\∀ Pm:Nat,((.own 1 (List.replicate (s.length+1) (bV false)) Pm 0 (s.length+1):V)=.own 1 ((List.replicate (s.length+1) false).map bV) Pm 0 (s.length+1))/\(∃ x:Nat×(List Bool)×Nat×Nat×Nat,match x with | (Rn,RB,J7,Xd,W7)=>(Rn<=s.length+1/\RB.length=s.length+1/\∀ m,m<Rn->RB.getD m false=Qj ((bU p).getD i 0) s e m)/\E (sV s)/\E (sV (bU p))/\E (bV (fH p))/\E (.own 1 (e.map bV) g f k)/\E (iN i)/\Q (.own 1 ((List.replicate (s.length+1) false).map bV) Pm 0 (s.length+1)) (.own 1 (RB.map bV) J7 Xd W7)/\Q (.hd (.slot 9) [] 1 Pm 0 0 (((List.replicate (s.length+1) false).map bV).length) (s.length+1)) (.hd (.slot 9) [] 1 J7 Xd 0 ((RB.map bV).length) W7)/\Q (iN (((List.replicate (s.length+1) false).map bV).length)) (iN (s.length+1))/\Q (iN 0) (iN Rn)/\True)/\∀ x:Nat×(List Bool)×Nat×Nat×Nat,match x with | (j,nx,u,v,z)=>(j<=s.length+1/\nx.length=s.length+1/\∀ m,m<j->nx.getD m false=Qj ((bU p).getD i 0) s e m)->Br (r8 (j:Int) ((s.length+1:Nat):Int)) (Ix (i:Int) (bU p)/\Br (r6 ((((bU p).getD i 0).toNat:Nat):Int) 42) (In (j:Int) ((e.map bV).length)/\(V.at g f (.own 1 (e.map bV) g f k) [0+j]=some (g,(f+(0+j)*1),bV (e.getD j false)))/\Gd (((e.getD j false)==false)&&((w3 (j:Int) 0)==true)) (m8 ((j:Int)-1))/\Gd (((e.getD j false)==false)&&((w3 (j:Int) 0)==true)) (In ((j:Int)-1) ((nx.map bV).length))/\Gd (((e.getD j false)==false)&&((w3 (j:Int) 0)==true)) (V.at u v (.own 1 (nx.map bV) u v z) [0+(Int.toNat ((j:Int)-1))]=some (u,(v+(0+(Int.toNat ((j:Int)-1)))*1),bV (nx.getD (Int.toNat ((j:Int)-1)) false)))/\Gd ((e.getD j false)==false) (Pk (w3 (j:Int) 0) (((e.getD j false)==false)&&((w3 (j:Int) 0)==true)) true)/\Pk (e.getD j false) true ((e.getD j false)==false)/\In (j:Int) ((nx.map bV).length)/\(V.at u v (.own 1 (nx.map bV) u v z) [0+j]=some (u,(v+(0+j)*1),bV (nx.getD j false)))/\(V.set (.own 1 (nx.map bV) u v z) [0+j] (bV ((e.getD j false)||((w3 (j:Int) 0)&&(nx.getD (Int.toNat ((j:Int)-1)) false))))=.own 1 ((nx.set j ((e.getD j false)||((w3 (j:Int) 0)&&(nx.getD (Int.toNat ((j:Int)-1)) false)))).map bV) u v z)/\m8 ((j:Int)+1)/\∃ x:Nat×(List Bool)×Nat×Nat×Nat,match x with | (OE,OC,D0,Sz,Ss)=>(OE<=s.length+1/\OC.length=s.length+1/\∀ m,m<OE->OC.getD m false=Qj ((bU p).getD i 0) s e m)/\(s.length+1-OE<s.length+1-j)/\E (sV s)/\E (sV (bU p))/\E (bV (fH p))/\E (.own 1 (e.map bV) g f k)/\E (iN i)/\Q (.own 1 ((nx.set j ((e.getD j false)||((w3 (j:Int) 0)&&(nx.getD (Int.toNat ((j:Int)-1)) false)))).map bV) u v z) (.own 1 (OC.map bV) D0 Sz Ss)/\Q (.hd (.slot 9) [] 1 u v 0 ((nx.map bV).length) z) (.hd (.slot 9) [] 1 D0 Sz 0 ((OC.map bV).length) Ss)/\E (iN (s.length+1))/\Q (iN (j+1)) (iN OE)/\True) (Gd ((w3 (j:Int) 0)==true) (((w3 (j:Int) 0)==true)=true)/\Gd ((w3 (j:Int) 0)==true) (m8 ((j:Int)-1))/\Gd ((w3 (j:Int) 0)==true) (((w3 (j:Int) 0)==true)=true)/\Gd ((w3 (j:Int) 0)==true) (((w3 (j:Int) 0)==true)=true)/\Gd ((w3 (j:Int) 0)==true) (In ((j:Int)-1) ((e.map bV).length))/\Gd ((w3 (j:Int) 0)==true) (((w3 (j:Int) 0)==true)=true)/\Gd ((w3 (j:Int) 0)==true) (V.at g f (.own 1 (e.map bV) g f k) [0+(Int.toNat ((j:Int)-1))]=some (g,(f+(0+(Int.toNat ((j:Int)-1)))*1),bV (e.getD (Int.toNat ((j:Int)-1)) false)))/\Pk (w3 (j:Int) 0) ((w3 (j:Int) 0)==true) true/\Gd (((w3 (j:Int) 0)&&(e.getD (Int.toNat ((j:Int)-1)) false))==true) ((((w3 (j:Int) 0)&&(e.getD (Int.toNat ((j:Int)-1)) false))==true)=true)/\Gd (((w3 (j:Int) 0)&&(e.getD (Int.toNat ((j:Int)-1)) false))==true) (m8 ((j:Int)-1))/\Gd (((w3 (j:Int) 0)&&(e.getD (Int.toNat ((j:Int)-1)) false))==true) ((((w3 (j:Int) 0)&&(e.getD (Int.toNat ((j:Int)-1)) false))==true)=true)/\Gd (((w3 (j:Int) 0)&&(e.getD (Int.toNat ((j:Int)-1)) false))==true) ((((w3 (j:Int) 0)&&(e.getD (Int.toNat ((j:Int)-1)) false))==true)=true)/\Gd (((w3 (j:Int) 0)&&(e.getD (Int.toNat ((j:Int)-1)) false))==true) (Ix ((j:Int)-1) s)/\Gd (((w3 (j:Int) 0)&&(e.getD (Int.toNat ((j:Int)-1)) false))==true) ((((w3 (j:Int) 0)&&(e.getD (Int.toNat ((j:Int)-1)) false))==true)=true)/\Gd (((w3 (j:Int) 0)&&(e.getD (Int.toNat ((j:Int)-1)) false))==true) ((((w3 (j:Int) 0)&&(e.getD (Int.toNat ((j:Int)-1)) false))==true)=true)/\Gd (((w3 (j:Int) 0)&&(e.getD (Int.toNat ((j:Int)-1)) false))==true) (Ix (i:Int) (bU p))/\Gd (((w3 (j:Int) 0)&&(e.getD (Int.toNat ((j:Int)-1)) false))==true) ((((w3 (j:Int) 0)&&(e.getD (Int.toNat ((j:Int)-1)) false))==true)=true)/\Gd (((w3 (j:Int) 0)&&(e.getD (Int.toNat ((j:Int)-1)) false))==true) ((((w3 (j:Int) 0)&&(e.getD (Int.toNat ((j:Int)-1)) false))==true)=true)/\Pk ((w3 (j:Int) 0)&&(e.getD (Int.toNat ((j:Int)-1)) false)) (((w3 (j:Int) 0)&&(e.getD (Int.toNat ((j:Int)-1)) false))==true) true/\In (j:Int) ((nx.map bV).length)/\(V.at u v (.own 1 (nx.map bV) u v z) [0+j]=some (u,(v+(0+j)*1),bV (nx.getD j false)))/\(V.set (.own 1 (nx.map bV) u v z) [0+j] (bV (((w3 (j:Int) 0)&&(e.getD (Int.toNat ((j:Int)-1)) false))&&(r6 (((s.getD (Int.toNat ((j:Int)-1)) 0).toNat:Nat):Int) ((((bU p).getD i 0).toNat:Nat):Int))))=.own 1 ((nx.set j (((w3 (j:Int) 0)&&(e.getD (Int.toNat ((j:Int)-1)) false))&&(r6 (((s.getD (Int.toNat ((j:Int)-1)) 0).toNat:Nat):Int) ((((bU p).getD i 0).toNat:Nat):Int)))).map bV) u v z)/\m8 ((j:Int)+1)/\∃ x:Nat×(List Bool)×Nat×Nat×Nat,match x with | (OE,OC,D0,Sz,Ss)=>(OE<=s.length+1/\OC.length=s.length+1/\∀ m,m<OE->OC.getD m false=Qj ((bU p).getD i 0) s e m)/\(s.length+1-OE<s.length+1-j)/\E (sV s)/\E (sV (bU p))/\E (bV (fH p))/\E (.own 1 (e.map bV) g f k)/\E (iN i)/\Q (.own 1 ((nx.set j (((w3 (j:Int) 0)&&(e.getD (Int.toNat ((j:Int)-1)) false))&&(r6 (((s.getD (Int.toNat ((j:Int)-1)) 0).toNat:Nat):Int) ((((bU p).getD i 0).toNat:Nat):Int)))).map bV) u v z) (.own 1 (OC.map bV) D0 Sz Ss)/\Q (.hd (.slot 9) [] 1 u v 0 ((nx.map bV).length) z) (.hd (.slot 9) [] 1 D0 Sz 0 ((OC.map bV).length) Ss)/\E (iN (s.length+1))/\Q (iN (j+1)) (iN OE)/\True)) (((1,u,v,z,(nx.map bV).length)=(1,u,v,z,(nx.map bV).length))/\m8 ((i:Int)+1)/\∃ x:Nat×(List Bool)×Nat×Nat×Nat,match x with | (c9,z8,u7,r9,k₂)=>(c9<=(bU p).length/\z8=ln s ((bU p).take c9))/\((bU p).length-c9<(bU p).length-i)/\E (sV s)/\E (sV (bU p))/\E (bV (fH p))/\Q (.own 1 (nx.map bV) u v z) (.own 1 (z8.map bV) u7 r9 k₂)/\Q (iN (i+1)) (iN c9)/\True)) (Br (fH p) (In (s.length:Int) ((e.map bV).length)/\(V.at g f (.own 1 (e.map bV) g f k) [0+s.length]=some (g,(f+(0+s.length)*1),bV (e.getD s.length false)))/\Q (bV (e.getD s.length false)) (bV (cB p s))) ((((1=1/\g=g/\f=f)/\0+((e.map bV).length)<=(e.map bV).length/\V.aK (e.map bV)=false/\aM 1 (e.map bV))/\True)/\(([.sl false (((e.map bV).drop 0).take ((e.map bV).length)),bV true]:List V)=[.sl false (e.map bV),bV true])/\((e.length<=1000000))/\Q (bV (e.contains true)) (bV (cB p s))))))) (iN (s.length+1):V)) ?_
 refine⟨rfl,Zae,⟨fun _=>rfl,fun h=>by rw[h] <;> rfl⟩,?_⟩
 refine bI (fun l3=>?_) fun l3=>?_
 unfold Q
 rw[EB l3]
 · have SZ:=Gp l3.1
   have hbl:(bU p).length<=p.length:=by unfold bU;split <;> simp
   refine⟨rfl,⟨Zaa,Zab⟩,(by rw[tN Zaa]),(by rw[tN Zaa]),(by rw[yh Zaa]),(by rw[yh Zaa]),Zaa,⟨⟨rfl,rfl,⟨_,rfl⟩,rfl⟩,by first | (refine Zbk iV ?_;simp;done) | (refine Zbk iV ?_;omega),by first | (refine Zbk iV ?_;simp;done) | (refine Zbk iV ?_;omega),Zaa,Zaa,Zaa⟩,?_⟩
   intro R3
   refine⟨Zbk (V.own 1 · _ _ _) List.map_replicate.symm,?_⟩
   have O1:(List.replicate (s.length+1) false).length=s.length+1:=List.length_replicate
   refine⟨Zah,ig (by rw[Zau];exact aq (d:=false) Zaa),pw (by rw[Zau];exact aq (d:=false) Zaa) (by rw[Zau];exact(List.map_set ..).symm),?_⟩
   refine⟨⟨(0,we s,R3,0,s.length+1),?_,rfl,rfl,rfl,Zaf,rfl,trivial⟩,?_⟩
   simp[ln]
   rintro⟨i,e,g,f,k⟩ ⟨h1,h2⟩
   have hel:e.length=s.length+1:=by rw[h2];exact AZ _ _
   refine bI (fun l6=>?_) fun l6=>?_
   · refine⟨Zaa,⟨⟨rfl,rfl,⟨_,rfl⟩,rfl⟩,by first | (refine Zbk iV ?_;simp;done) | (refine Zbk iV ?_;omega),by first | (refine Zbk iV ?_;simp;done) | (refine Zbk iV ?_;omega),Zaa,Zaa,Zaa⟩,?_⟩
     intro Pm
     refine⟨Zbk (V.own 1 · _ _ _) List.map_replicate.symm,?_⟩
     refine⟨⟨(0,List.replicate (s.length+1) false,Pm,0,s.length+1),?_,rfl,rfl,rfl,rfl,rfl,rfl,rfl,Zaf,rfl,trivial⟩,?_⟩
     simp
     rintro⟨j,nx,u,v,z⟩ ⟨q1,q2,q3⟩
     refine bI (fun n0=>?_) fun n0=>?_
     refine⟨Zaa,?_⟩
     refine bI (fun x7=>?_) fun x7=>?_
     refine⟨Zah,ig (by rw[Zau];exact aq (d:=false) Zaa),fun hG=>by(try simp only[nb]at hG);omega,fun hG=>by(try simp only[nb]at hG);(try simp only[Zaw]at *);omega,fun hG=>ig (by rw[Zau];exact aq (d:=false) Zaa),fun hG=>⟨fun h=>by rw[h];exact(Zam _ _).mpr ⟨hG,rfl⟩,fun _=>rfl⟩,⟨fun _=>rfl,fun h=>by rw[h] <;> rfl⟩,Zah,ig (by rw[Zau];exact aq (d:=false) Zaa),pw (by rw[Zau];exact aq (d:=false) Zaa) (by rw[Zau];exact(List.map_set ..).symm),Zaa,?_⟩
     refine⟨(j+1,nx.set j ((e.getD j false)||((w3 (j:Int) 0)&&(nx.getD (Int.toNat ((j:Int)-1)) false))),u,v,z),?_,?_,rfl,rfl,rfl,rfl,rfl,rfl,Zaf,rfl,rfl,trivial⟩
     refine⟨Zaa,by simp[q2],fun m hm=>?_⟩
     by_cases e:m=j
     subst e
     rw[Cz Zaa]
     exact FI x7 Zaa q3
     rw[CX e];exact q3 m Zaa
     exact Zai
     refine⟨fun h=>h,fun hG=>by(try simp only[nb]at hG);omega,fun h=>h,fun h=>h,fun hG=>by(try simp only[nb]at hG);(try simp only[Zaw]at *);omega,fun h=>h,fun hG=>ig (by rw[Zau];exact aq (d:=false) Zaa),⟨fun h=>by rw[h] <;> rfl,fun _=>rfl⟩,fun h=>h,fun hG=>by(try simp only[nb]at hG);omega,fun h=>h,fun h=>h,fun hG=>by(try simp only[nb]at hG);omega,fun h=>h,fun h=>h,fun hG=>by(try simp only[nb]at hG);omega,fun h=>h,fun h=>h,⟨fun h=>by rw[h] <;> rfl,fun _=>rfl⟩,Zah,ig (by rw[Zau];exact aq (d:=false) Zaa),pw (by rw[Zau];exact aq (d:=false) Zaa) (by rw[Zau];exact(List.map_set ..).symm),Zaa,?_⟩
     refine⟨(j+1,nx.set j (((w3 (j:Int) 0)&&(e.getD (Int.toNat ((j:Int)-1)) false))&&(r6 (((s.getD (Int.toNat ((j:Int)-1)) 0).toNat:Nat):Int) ((((bU p).getD i 0).toNat:Nat):Int))),u,v,z),?_,?_,rfl,rfl,rfl,rfl,rfl,rfl,Zaf,rfl,rfl,trivial⟩
     refine⟨Zaa,by simp[q2],fun m hm=>?_⟩
     by_cases e:m=j
     subst e
     rw[Cz Zaa]
     exact DH x7
     rw[CX e];exact q3 m Zaa
     exact Zai
     refine⟨rfl,Zaa,?_⟩
     refine⟨(i+1,nx,u,v,z),?_,?_,rfl,rfl,rfl,rfl,rfl,trivial⟩
     refine⟨Zaa,?_⟩
     rw[FW Zaa,<- h2]
     exact IP q2 (fun m hm=>q3 m Zaa)
     exact Zai
   refine bI (fun I4=>?_) fun I4=>?_
   refine⟨Zah,ig (by rw[Zau];exact aq (d:=false) Zaa),?_⟩
   unfold Q
   rw[yp l3,h2,Zax Zaa]
   unfold Bj
   rw[if_pos I4]
   refine⟨⟨⟨⟨rfl,rfl,rfl⟩,Zab,cP (f:=bV) (fun _=>rfl) _,dY (f:=bV) (fun _=>rfl) _⟩,trivial⟩,by simp[Zax],Zae,?_⟩
   unfold Q
   rw[yp l3,h2,Zax Zaa]
   unfold Bj
   rw[if_neg (by rw[I4];decide)])
theorem qj{p s:BL}(h:cB p s=true):1<=p.length:=by
 unfold cB at h
 simp only[Zam]at h
 exact(wU h.1.1).1
theorem pI{X:Int×Bool} {r:r7} {s:BL} {m m':Int} {b b':Bool} (h2: -1<=X.1/\X.1≠0) (h3:m=max X.1 0) (h4:b=X.2)
 (h:(cB r.path s=false/\m'=m/\b'=b)\/(cB r.path s=true/\m<(r.path.length:Int)/\m'=(r.path.length:Int)/\b'=r.E1)\/(cB r.path s=true/\(r.path.length:Int)=m/\m'=m/\b'=(b||r.E1))\/(cB r.path s=true/\(r.path.length:Int)<m/\m'=m/\b'=b)):
 (-1<=(dX s X r).1/\(dX s X r).1≠0)/\m'=max (dX s X r).1 0/\b'=(dX s X r).2:=by
 subst h3 h4
 rcases h with ⟨h,rfl,rfl⟩ | ⟨h,h1,rfl,rfl⟩ | ⟨h,h1,rfl,rfl⟩ | ⟨h,h1,rfl,rfl⟩
 rw[show dX s X r=X from if_pos (.inl h)];exact⟨h2,rfl,rfl⟩
 have hl:=qj h
 unfold dX
 rw[if_neg (by rw[h];simp;omega),decide_eq_false Zaa]
 exact⟨⟨by simp only;omega,by simp only;omega⟩,by simp only;omega,Zab⟩
 have hl:=qj h
 unfold dX
 rw[if_neg (by rw[h];simp;omega),decide_eq_true Zaa]
 exact⟨⟨by simp only;omega,by simp only;omega⟩,by simp only;omega,by simp[Bool.or_comm]⟩
 have hl:=qj h
 rw[show dX s X r=X from if_pos (.inr Zaa)];exact⟨h2,rfl,rfl⟩
abbrev dO(rs:List r7)(s:BL)(i:Nat)(m:Int)(b:Bool):Prop:=i<=rs.length/\(-1<=((rs.take i).foldl (dX s) (-1,true)).1/\((rs.take i).foldl (dX s) (-1,true)).1≠0)/\m=max ((rs.take i).foldl (dX s) (-1,true)).1 0/\b=((rs.take i).foldl (dX s) (-1,true)).2
def jN(rs:List r7)(s:BL):o6 Tryz.prog:=.mk 78 [dQ rs,sV s] [] ((rs.length<=1000000)/\(∀ i,(rs.getD i ⟨false,[]⟩).path.length<=1000000)/\(s.length<=1000000)) (bV (av rs s)) [] (by
 rintro⟨hl,hr,hs⟩
 refine aB (N:=42) (rs:=[.tmp 4]) Tryz.func78
  (.q 1<|.q 2<|.q 3<|.loop (Nat×Int×Bool) (fun (i,m,b)=>⟨[(1,sV s),(5,iV m),(6,bV b),(10,dQ rs),(11,iN rs.length),(12,iN i)],[]⟩) (fun (i,m,b)=>dO rs s i m b) (fun (i,m,b)=>rs.length-i) (fun (i,m,b)=>.q 1<|.br (.r 2 [.agg [bV ((rs.getD i (⟨false,[]⟩:r7)).E1),sV ((rs.getD i (⟨false,[]⟩:r7)).path)]]<|.al wz (fun g8=>.st none<|.r 3 [.b9]<|.c (wC ((rs.getD i (⟨false,[]⟩:r7)).path) s) []<|.q 1<|.br (.q 2<|.nil) (.r 4 [.b9]<|.q 4<|.br (.dx 4 [0,1,2,3] [(2,⟨false,[],some [8],[30],[]⟩)] []<|.q 1<|.q 1<|.r 1 [.b9]<|.q 1<|.q 1<|.q 2<|.nil) (.q 4<|.br (.r 6 [.b9]<|.q 2<|.nil) (.q 2<|.nil))))) (.q 2<|.nil)))
  ((∃ x:Nat×Int×Bool,match x with | (j7,PI,PO)=>(dO rs s j7 PI PO)/\E (sV s)/\Q (iN 0) (iV PI)/\Q (bV true) (bV PO)/\E (dQ rs)/\Q (iN ((rs.map aD).length)) (iN rs.length)/\Q (iN 0) (iN j7)/\True)/\∀ x:Nat×Int×Bool,match x with | (i,m,b)=>(dO rs s i m b)->Br (r8 (i:Int) (rs.length:Int)) (Ex (i:Int) (rs.map aD) (.agg [bV ((rs.getD i (⟨false,[]⟩:r7)).E1),sV ((rs.getD i (⟨false,[]⟩:r7)).path)])/\True/\∀ g8:Nat,Z g8 0/\Z g8 1/\(wC ((rs.getD i (⟨false,[]⟩:r7)).path) s).sm/\((((rs.getD i (⟨false,[]⟩:r7)).path).length<=1000000)/\(s.length<=1000000))/\Br (!(cB ((rs.getD i (⟨false,[]⟩:r7)).path) s)) (m8 ((i:Int)+1)/\∃ x:Nat×Int×Bool,match x with | (c9,m₂,D9)=>(dO rs s c9 m₂ D9)/\(rs.length-c9<rs.length-i)/\E (sV s)/\Q (iV m) (iV m₂)/\Q (bV b) (bV D9)/\E (dQ rs)/\E (iN rs.length)/\Q (iN (i+1)) (iN c9)/\True) (Z g8 1/\Br (w3 ((((rs.getD i (⟨false,[]⟩:r7)).path).length:Nat):Int) m) (Z g8 0/\m8 ((i:Int)+1)/\∃ x:Nat×Int×Bool,match x with | (c9,m₂,D9)=>(dO rs s c9 m₂ D9)/\(rs.length-c9<rs.length-i)/\E (sV s)/\Q (iN (((rs.getD i (⟨false,[]⟩:r7)).path).length)) (iV m₂)/\Q (bV ((rs.getD i (⟨false,[]⟩:r7)).E1)) (bV D9)/\E (dQ rs)/\E (iN rs.length)/\Q (iN (i+1)) (iN c9)/\True) (Br (r6 ((((rs.getD i (⟨false,[]⟩:r7)).path).length:Nat):Int) m) (Gd (b==false) (Z g8 0)/\Pk b true (b==false)/\m8 ((i:Int)+1)/\∃ x:Nat×Int×Bool,match x with | (c9,m₂,D9)=>(dO rs s c9 m₂ D9)/\(rs.length-c9<rs.length-i)/\E (sV s)/\Q (iV m) (iV m₂)/\Q (bV (b||((rs.getD i (⟨false,[]⟩:r7)).E1))) (bV D9)/\E (dQ rs)/\E (iN rs.length)/\Q (iN (i+1)) (iN c9)/\True) (m8 ((i:Int)+1)/\∃ x:Nat×Int×Bool,match x with | (c9,m₂,D9)=>(dO rs s c9 m₂ D9)/\(rs.length-c9<rs.length-i)/\E (sV s)/\Q (iV m) (iV m₂)/\Q (bV b) (bV D9)/\E (dQ rs)/\E (iN rs.length)/\Q (iN (i+1)) (iN c9)/\True)))) (Q (bV b) (bV (av rs s)))) ?_
 refine⟨⟨(0,0,true),?_,rfl,Zaf,rfl,rfl,Zaf,rfl,trivial⟩,?_⟩
 unfold dO
 simp;omega
 rintro⟨i,m,b⟩ ⟨h1,h2,h3,h4⟩
 have TO:=hr i
 refine bI (fun l3=>?_) fun l3=>?_
 refine⟨⟨Zaa,aq (d:=(⟨false,[]⟩:r7)) Zaa⟩,trivial,?_⟩
 intro g8
 refine⟨rfl,rfl,rfl,⟨Zaa,Zaa⟩,?_⟩
 refine bI (fun l6=>?_) fun l6=>?_
 refine⟨Zaa,?_⟩
 refine⟨(i+1,m,b),?_,?_,rfl,rfl,rfl,rfl,rfl,rfl,trivial⟩
 unfold dO
 refine⟨Zaa,?_⟩
 rw[foldl_succ (by omega:i<rs.length) (d:=⟨false,[]⟩)]
 exact pI h2 h3 h4 (.inl ⟨l6,rfl,rfl⟩)
 exact Zai
 refine⟨rfl,?_⟩
 refine bI (fun n0=>?_) fun n0=>?_
 refine⟨rfl,Zaa,?_⟩
 refine⟨(i+1,((((rs.getD i (⟨false,[]⟩:r7)).path).length:Nat):Int),(rs.getD i (⟨false,[]⟩:r7)).E1),?_,?_,rfl,Zaf,rfl,rfl,rfl,rfl,trivial⟩
 unfold dO
 refine⟨Zaa,?_⟩
 rw[foldl_succ (by omega:i<rs.length) (d:=⟨false,[]⟩)]
 exact pI h2 h3 h4 (.inr (.inl ⟨l6,n0,rfl,rfl⟩))
 exact Zai
 refine bI (fun x7=>?_) fun x7=>?_
 refine⟨fun hG=>rfl,⟨fun _=>rfl,fun h=>by rw[h] <;> rfl⟩,Zaa,?_⟩
 refine⟨(i+1,m,(b||((rs.getD i (⟨false,[]⟩:r7)).E1))),?_,?_,rfl,rfl,rfl,rfl,rfl,rfl,trivial⟩
 unfold dO
 refine⟨Zaa,?_⟩
 rw[foldl_succ (by omega:i<rs.length) (d:=⟨false,[]⟩)]
 exact pI h2 h3 h4 (.inr (.inr (.inl ⟨l6,x7,rfl,by first | rfl | (cases b <;> rfl)⟩)))
 exact Zai
 refine⟨Zaa,?_⟩
 refine⟨(i+1,m,b),?_,?_,rfl,rfl,rfl,rfl,rfl,rfl,trivial⟩
 unfold dO
 refine⟨Zaa,?_⟩
 rw[foldl_succ (by omega:i<rs.length) (d:=⟨false,[]⟩)]
 exact pI h2 h3 h4 (.inr (.inr (.inr ⟨l6,Zaa,rfl,rfl⟩)))
 exact Zai
 unfold Q
 refine Zbk bV ?_
 unfold av
 rw[h4,Zax Zaa])
abbrev ej(p0:V):V:=.agg [ p0,bV true]
abbrev fR(p0:List l4)(p1:Bool):V:=.agg [.ow 3 (p0.map bh),bV p1]
abbrev jX(p0:List BL)(p1:List r7)(p2:Nat):V:=.agg [.ow 1 (p0.map sV),.ow 2 (p1.map aD),iN p2]
abbrev zC(p0:List BL)(p1:List r7)(p2:Nat)(p3:Nat)(p4:Nat)(p5:Nat):V:=.agg [.ow 1 (p0.map sV),.own 2 (p1.map aD) p2 p3 p4,iN p5]
theorem Im(gs:List l4)(b:Bool)(g:Nat)(n:BL)(hg:gs.length<=1000)(hn:∀ y,y∈gs->y.na.length<=1000/\y.ru.length<=6):PF Tryz.prog 155 [.ptr (.key 1000) [] g 0,.lit (.iface 220 (.agg #[.string (Str n)]))] [(1000,(g,fR gs b))] (fun r h=>r=(.tup [])/\h=[(1000,(g,fR ((nA gs b n).1) ((nA gs b n).2)))]):=by
 refine aB (N:=112) (rs:=[]) Tryz.func155
  (.oR (.key 1000) [0] (fun gr fr cr=>.q 1<|.cu (X7 (.agg [sV n])) (fun _=>.q 3<|.al oe (fun g4=>.st none<|.q 1<|.q 2<|.gt<|.q 1<|.gt<|.q 1<|.gt<|.q 1<|.gt<|.r 1 [.b9]<|.gt<|.q 1<|.gt<|.q 1<|.gt<|.r 5 [.b9]<|.gt<|.q 2<|.br (.dx 11 [0,1,2,3,4,5,6,7,8,9,10] [(4,⟨false,[],some [1000],[34],[]⟩),(6,⟨false,[],some [4],[36],[]⟩),(7,⟨true,[],none,[37],[]⟩),(10,⟨true,[],none,[40],[1000]⟩)] []<|.q 1<|.q 1<|.q 1<|.q 1<|.r 1 [.b9]<|.q 1<|.r 1 [.b9]<|.eu boE (fun P8=>.bd lp<|.bs<|.ux none (fun F6 E9 H7=>.h (.n8 40 (.own 3 (gs.map bh++[(.agg [.hd (.slot 37) [] 1 P8 0 0 (([n].map sV).length) 1,.sl true [],iN 0]:V)]) F6 E9 H7))<|.q 2<|.h (.Tj (.slot 40) [gs.length,0] F6 (E9+(gs.length)*3+0) 37)<|.h (.n8 40 (.own 3 (gs.map bh++[(.agg [.own 1 ([n].map sV) P8 0 1,.sl true [],iN 0]:V)]) F6 E9 H7))<|.h (.RA (.slot 40) [gs.length,1] F6 (E9+(gs.length)*3+1) 2)<|.h (.n8 40 (.own 3 (gs.map bh++[(.agg [.own 1 ([n].map sV) P8 0 1,.own 2 ([].map aD) 0 0 0,iN 0]:V)]) F6 E9 H7))<|.h (.Rz (.slot 40) [gs.length,0] F6 (E9+(gs.length)*3+0) (.own 1 ([n].map sV) P8 0 1) (.ow 1 ([n].map sV)))<|.h (.n8 40 (.own 3 (gs.map bh++[(.agg [.ow 1 ([n].map sV),.own 2 ([].map aD) 0 0 0,iN 0]:V)]) F6 E9 H7))<|.h (.Rz (.slot 40) [gs.length,1] F6 (E9+(gs.length)*3+1) (.own 2 ([].map aD) 0 0 0) (.ow 2 ([].map aD)))<|.h (.n8 40 (.own 3 (gs.map bh++[(.agg [.ow 1 ([n].map sV),.ow 2 ([].map aD),iN 0]:V)]) F6 E9 H7))<|.h (.n8 40 (.own 3 ((gs++[(⟨[n],[],0⟩:l4)]).map bh) F6 E9 H7))<|.st none<|.q 3<|.st none<|.nil))) (.r 6 [.b9]<|.br (.nil) (.ex (List l4×l4) (fun z=>gs=z.1++[z.2]) (fun (z:List l4×l4)=>.h (.C7 1000 (.agg [.own 3 (z.1.map bh++[(jX z.2.na z.2.ru z.2.wa:V)]) gr fr cr,bV b]))<|.dx 10 [0,1,2,3,4,5,6,7,8,9] [(3,⟨false,[],some [1000],[55],[]⟩),(7,⟨false,[],some [1000],[59],[]⟩)] []<|.q 1<|.q 1<|.q 1<|.r 1 [.b9]<|.q 1<|.q 1<|.q 1<|.r 1 [.b9]<|.q 1<|.q 1<|.h (.n8 61 (iN z.1.length))<|.q 2<|.q 1<|.cu (X7 (.agg [sV n])) (fun _=>.q 2<|.br (.al oe (fun g7=>.st none<|.Sa (.key 1000) [0,0+z.1.length,0] gr (fr+(0+z.1.length)*3+0) 1 (z.2.na.map sV) (fun gA oA cA=>.h (.C7 1000 (.agg [.own 3 (z.1.map bh++[(.agg [.own 1 (z.2.na.map sV) gA oA cA,.ow 2 (z.2.ru.map aD),iN z.2.wa]:V)]) gr fr cr,bV b]))<|.dx 9 [0,1,2,3,4,5,6,7,8] [(4,⟨false,[],some [1000],[71],[]⟩),(6,⟨false,[],some [7],[73],[]⟩),(8,⟨true,[],none,[75],[1000]⟩)] []<|.q 1<|.q 1<|.q 1<|.q 1<|.r 1 [.own 1 (z.2.na.map sV) gA oA cA]<|.q 1<|.r 1 [.b9]<|.bs<|.eu (YD 1000 [0,0+z.1.length,0] (z.2.na.map sV) ([sV n]:List V) gr (fr+(0+z.1.length)*3+0) 1 gA oA cA) (fun OA=>.h (.C7 1000 (.agg [.own 3 (z.1.map bh++[(.agg [.b9,.ow 2 (z.2.ru.map aD),iN z.2.wa]:V)]) gr fr cr,bV b]))<|.h (.n8 75 (.own 1 ((z.2.na++[n]).map sV) OA.1 OA.2.1 OA.2.2))<|.q 2<|.st (some (.b9))<|.h (.C7 1000 (.agg [.own 3 (z.1.map bh++[(.agg [.own 1 ((z.2.na++[n]).map sV) OA.1 OA.2.1 OA.2.2,.ow 2 (z.2.ru.map aD),iN z.2.wa]:V)]) gr fr cr,bV b]))<|.h (.Rz (.key 1000) [0,0+z.1.length,0] gr (fr+(0+z.1.length)*3+0) (.own 1 ((z.2.na++[n]).map sV) OA.1 OA.2.1 OA.2.2) (.ow 1 ((z.2.na++[n]).map sV)))<|.h (.C7 1000 (.agg [.own 3 (z.1.map bh++[(jX (z.2.na++[n]) z.2.ru z.2.wa:V)]) gr fr cr,bV b]))<|.h (.C7 1000 (.agg [.own 3 ((z.1++[(⟨z.2.na++[n],z.2.ru,z.2.wa⟩:l4)]).map bh) gr fr cr,bV b]))<|.nil)))) (.nil)))))))))
  ((fun v1:Bool=>(fun v2:V=>(fun v3:V=>(fun v4:List V=>(fun v5:V=>(∀ gr fr cr:Nat,((∃ td,Tryz.prog.underlying 220=some td/\∀ i,td≠.interface i)/\((220:Nat)=220)/\((.agg #[.string (Str n)]:Value)=.agg #[.string (Str n)]))/\∀ _:Unit,∀ g4:Nat,Z g4 0/\(true=true)/\(true=true)/\True/\(true=true)/\(true=true)/\Z g 0/\(true=true)/\(true=true)/\(true=true)/\Gd (v1==false) True/\Gd (v1==false) (Z g 1)/\(true=true)/\Pk v1 true (v1==false)/\Pk true true true/\Br (true&&(v1||b)) (True/\Z g 0/\Z g4 0/\True/\∀ P8:Nat,(fun v6:List V=>(fun v7:V=>(fun v8:V=>(fun v9:V=>(((3,3,gr,fr,cr,(gs.map bh).length)=(3,3,gr,fr,cr,(gs.map bh).length))/\(V.aK v6=false)/\(aM 3 v6)/\(((gs.map bh).length+v6.length)*56<=140737488355328))/\∀ F6 E9 H7:Nat,((.own 3 ((gs.map bh)++v6) F6 E9 H7:V)=.own 3 (gs.map bh++[v7]) F6 E9 H7)/\True/\(V.at F6 E9 (.own 3 (gs.map bh++[v7]) F6 E9 H7) [gs.length,0]=some (F6,E9+(gs.length)*3+0,.hd (.slot 37) [] 1 P8 0 0 (([n].map sV).length) 1))/\(V.set (.own 3 (gs.map bh++[v7]) F6 E9 H7) [gs.length,0] (.own 1 ([n].map sV) P8 0 1)=.own 3 (gs.map bh++[v9]) F6 E9 H7)/\(V.at F6 E9 (.own 3 (gs.map bh++[v9]) F6 E9 H7) [gs.length,1]=some (F6,E9+(gs.length)*3+1,.sl true []))/\(V.set (.own 3 (gs.map bh++[v9]) F6 E9 H7) [gs.length,1] (.own 2 ([].map aD) 0 0 0)=.own 3 (gs.map bh++[v8]) F6 E9 H7)/\(V.at F6 E9 (.own 3 (gs.map bh++[v8]) F6 E9 H7) [gs.length,0]=some (F6,E9+(gs.length)*3+0,.own 1 ([n].map sV) P8 0 1))/\(V.set (.own 3 (gs.map bh++[v8]) F6 E9 H7) [gs.length,0] (.ow 1 ([n].map sV))=.own 3 (gs.map bh++[v2]) F6 E9 H7)/\(V.at F6 E9 (.own 3 (gs.map bh++[v2]) F6 E9 H7) [gs.length,1]=some (F6,E9+(gs.length)*3+1,.own 2 ([].map aD) 0 0 0))/\(V.set (.own 3 (gs.map bh++[v2]) F6 E9 H7) [gs.length,1] (.ow 2 ([].map aD))=.own 3 (gs.map bh++[v5]) F6 E9 H7)/\((.own 3 (gs.map bh++[v5]) F6 E9 H7:V)=.own 3 ((gs++[(⟨[n],[],0⟩:l4)]).map bh) F6 E9 H7)/\Z g 0/\True/\Z g 1/\Q (.tup []) (.tup [])/\Qr g (.agg [.ow 3 ((gs++[(⟨[n],[],0⟩:l4)]).map bh),bV false]) g v3) (.agg [.own 1 ([n].map sV) P8 0 1,.sl true [],iN 0]:V)) (.agg [.own 1 ([n].map sV) P8 0 1,.own 2 ([].map aD) 0 0 0,iN 0]:V)) (.agg [.hd (.slot 37) [] 1 P8 0 0 (([n].map sV).length) 1,.sl true [],iN 0]:V)) ([.agg [.hd (.slot 37) [] 1 P8 0 0 (([n].map sV).length) 1,.sl true [],iN 0]]:List V)) (True/\Z g 0/\Br v1 (Q (.tup []) (.tup [])/\Qr g (fR gs b) g v3) ((∃ z:List l4×l4,gs=z.1++[z.2])/\∀ z:List l4×l4,(gs=z.1++[z.2])->(fun v10:V=>(fun v11:V=>(fun v12:V=>(fun E4:V=>((.agg [.own 3 (gs.map bh) gr fr cr,bV b]:V)=.agg [.own 3 (z.1.map bh++[v10]) gr fr cr,bV b])/\True/\Z g 0/\True/\Z g 0/\m8 ((((z.1.map bh++[v10]).length:Nat):Int)-1)/\Q (iV ((((z.1.map bh++[v10]).length:Nat):Int)-1)) (iN z.1.length)/\In (z.1.length:Int) ((z.1.map bh++[v10]).length)/\((∃ td,Tryz.prog.underlying 220=some td/\∀ i,td≠.interface i)/\((220:Nat)=220)/\((.agg #[.string (Str n)]:Value)=.agg #[.string (Str n)]))/\∀ _:Unit,Br true (∀ g7:Nat,Z g7 0/\(V.at g 0 v12 [0,0+z.1.length,0]=some (gr,fr+(0+z.1.length)*3+0,.ow 1 (z.2.na.map sV)))/\∀ gA oA cA:Nat,(fun H6:V=>(V.set v12 [0,0+z.1.length,0] (.own 1 (z.2.na.map sV) gA oA cA)=.agg [.own 3 (z.1.map bh++[(.agg [.own 1 (z.2.na.map sV) gA oA cA,.ow 2 (z.2.ru.map aD),iN z.2.wa]:V)]) gr fr cr,bV b])/\True/\(V.at g 0 H6 [0,0+z.1.length,0]=some (gr,(fr+(0+z.1.length)*3+0),.own 1 (z.2.na.map sV) gA oA cA))/\Z g7 0/\(v4=v4/\((.hd (.key 1000) [0,0+z.1.length,0] 1 gA oA 0 ((z.2.na.map sV).length) cA:V)=.hd (.key 1000) [0,0+z.1.length,0] 1 gA oA 0 ((z.2.na.map sV).length) cA)/\(V.at g 0 H6 [0,0+z.1.length,0]=some (gr,fr+(0+z.1.length)*3+0,.own 1 (z.2.na.map sV) gA oA cA))/\((1:Nat)=1)/\(V.aK v4=false)/\(aM 1 v4)/\(((z.2.na.map sV).length+v4.length)*16<=140737488355328))/\∀ OA:Nat×Nat×Nat,(fun J4:V=>(fun Ob:V=>(V.set H6 [0,0+z.1.length,0] (.b9)=.agg [.own 3 (z.1.map bh++[v11]) gr fr cr,bV b])/\((.own 1 ((z.2.na.map sV)++v4) OA.1 OA.2.1 OA.2.2:V)=.own 1 ((z.2.na++[n]).map sV) OA.1 OA.2.1 OA.2.2)/\True/\(V.at g 0 E4 [0,0+z.1.length,0]=some (gr,(fr+(0+z.1.length)*3+0),.b9))/\(V.set E4 [0,0+z.1.length,0] (.own 1 ((z.2.na++[n]).map sV) OA.1 OA.2.1 OA.2.2)=.agg [.own 3 (z.1.map bh++[J4]) gr fr cr,bV b])/\(V.at g 0 Ob [0,0+z.1.length,0]=some (gr,fr+(0+z.1.length)*3+0,.own 1 ((z.2.na++[n]).map sV) OA.1 OA.2.1 OA.2.2))/\(V.set Ob [0,0+z.1.length,0] (.ow 1 ((z.2.na++[n]).map sV))=.agg [.own 3 (z.1.map bh++[(jX (z.2.na++[n]) z.2.ru z.2.wa:V)]) gr fr cr,bV b])/\((.agg [.own 3 (z.1.map bh++[(jX (z.2.na++[n]) z.2.ru z.2.wa:V)]) gr fr cr,bV b]:V)=.agg [.own 3 ((z.1++[(⟨z.2.na++[n],z.2.ru,z.2.wa⟩:l4)]).map bh) gr fr cr,bV b])/\Q (.tup []) (.tup [])/\Qr g (fR (z.1++[(⟨z.2.na++[n],z.2.ru,z.2.wa⟩:l4)]) b) g v3) (.agg [.own 3 (z.1.map bh++[J4]) gr fr cr,bV b])) (.agg [.own 1 ((z.2.na++[n]).map sV) OA.1 OA.2.1 OA.2.2,.ow 2 (z.2.ru.map aD),iN z.2.wa]:V)) (.agg [.own 3 (z.1.map bh++[(.agg [.own 1 (z.2.na.map sV) gA oA cA,.ow 2 (z.2.ru.map aD),iN z.2.wa]:V)]) gr fr cr,bV b])) (False)) (.agg [.own 3 (z.1.map bh++[v11]) gr fr cr,bV b])) (.agg [.own 3 (z.1.map bh++[v10]) gr fr cr,bV b])) (.agg [.b9,.ow 2 (z.2.ru.map aD),iN z.2.wa]:V)) (jX z.2.na z.2.ru z.2.wa:V))))) (.agg [.ow 1 ([n].map sV),.ow 2 ([].map aD),iN 0]:V)) ([sV n]:List V)) (fR ((nA gs b n).1) ((nA gs b n).2))) (.agg [.ow 1 ([n].map sV),.own 2 ([].map aD) 0 0 0,iN 0]:V)) (r6 (((gs.map bh).length:Nat):Int) 0)) ?_
 intro gr fr cr
 refine⟨⟨⟨_,Tryz.underlying220,by intro i h;cases h⟩,rfl,rfl⟩,?_⟩
 intro _
 intro g4
 refine⟨rfl,rfl,rfl,trivial,rfl,rfl,rfl,rfl,rfl,rfl,fun hG=>trivial,fun hG=>rfl,rfl,⟨fun _=>rfl,fun h=>by rw[h] <;> rfl⟩,⟨fun _=>rfl,fun _=>rfl⟩,?_⟩
 refine bI (fun l3=>?_) fun l3=>?_
 refine⟨trivial,rfl,rfl,trivial,?_⟩
 intro P8
 refine⟨⟨rfl,rfl,by simp[aM,V.n,V.ns],by(try simp only[Zaw,Zap,Zas]);omega⟩,?_⟩
 intro F6 E9 H7
 refine⟨Zbk (V.own 3 · F6 E9 H7) (rfl),trivial,aS (bu) rfl,bn (bu) (dV),aS (bu) rfl,bn (bu) (dV),aS (bu) rfl,bn (bu) (dV),aS (bu) rfl,bn (bu) (dV),Zbk (V.own 3 · F6 E9 H7) (by rw[Za9 (f:=bh)];rfl),rfl,trivial,rfl,?_⟩
 refine⟨?_,by rw[show nA gs b n=(gs++[⟨[n],[],0⟩],false) from if_pos (l3.imp (fun h=>Za3 (by simpa using h)) id)]⟩
 unfold Q
 rfl
 · refine⟨trivial,rfl,?_⟩
   refine bI (fun l6=>?_) fun l6=>?_
   · all_goals (simp_all)
   · refine⟨jL (tj Zaa),?_⟩
     intro z hz
     have I0:=hn z.2 (by rw[hz];simp)
     have Xm:gs.length=z.1.length+1:=by rw[hz];simp
     refine⟨Wh (Zbk (V.own 3 · gr fr cr) (by rw[hz,Za9];rfl)),trivial,rfl,trivial,rfl,by(try simp only[Zaw]at *);(try simp only[Zan,Zaw,Zap,Zas]);omega,by unfold Q;refine Zbk iV ?_;simp,by(try simp only[Zaw]at *);(try simp only[Zan,Zaw,Zap,Zas]);omega,⟨⟨_,Tryz.underlying220,by intro i h;cases h⟩,rfl,rfl⟩,?_⟩
     intro _
     refine bI (fun n0=>?_) fun n0=>?_
     intro g7
     refine⟨rfl,gP.trans (aS (by rw[Zau];exact bu) rfl),?_⟩
     intro gA oA cA
     refine⟨qk (bn (by rw[Zau];exact bu) (by rw[Zau];exact dV)),trivial,gP.trans (aS (by rw[Zau];exact bu) rfl),rfl,⟨rfl,rfl,gP.trans (aS (by rw[Zau];exact bu) rfl),rfl,rfl,by simp[aM,V.n,V.ns],by(try simp only[Zaw,Zap,Zas]);omega⟩,?_⟩
     intro OA
     refine⟨qk (bn (by rw[Zau];exact bu) (by rw[Zau];exact dV)),Zbk (V.own 1 · OA.1 OA.2.1 OA.2.2) Zab,trivial,gP.trans (aS (by rw[Zau];exact bu) rfl),qk (bn (by rw[Zau];exact bu) (by rw[Zau];exact dV)),gP.trans (aS (by rw[Zau];exact bu) rfl),qk (bn (by rw[Zau];exact bu) (by rw[Zau];exact dV)),Wh (Zbk (V.own 3 · gr fr cr) (by rw[Za9 (f:=bh)];rfl)),?_⟩
     refine⟨?_,by rw[show nA gs b n=(z.1++[⟨z.2.na++[n],z.2.ru,z.2.wa⟩],b) from by rw[nA,if_neg (by rintro (h | h) <;> simp_all),hz,dv]]⟩
     unfold Q
     rfl
     · all_goals (first | exact absurd n0 Zad | simp_all)
theorem HW(gs:List l4)(b:Bool)(g:Nat)(l:Bool)(p:BL)(hg:gs.length<=1000)(hn:∀ y,y∈gs->y.na.length<=1000/\y.ru.length<=6):PF Tryz.prog 155 [.ptr (.key 1000) [] g 0,.lit (.iface 222 (.agg #[.bool l,.string (Str p)]))] [(1000,(g,fR gs b))] (fun r h=>r=(.tup [])/\h=[(1000,(g,fR ((kZ gs b l p).1) ((kZ gs b l p).2)))]):=by
 refine aB (N:=112) (rs:=[]) Tryz.func155
  (.oR (.key 1000) [0] (fun gr fr cr=>.q 1<|.cu (Xg oe) (fun _=>.q 3<|.al oe (fun g4=>.st none<|.q 1<|.q 2<|.gf (.b9)<|.gf (.b9)<|.gf (.b9)<|.gf (.b9)<|.gf (.b9)<|.gf (bV false)<|.gf (bV false)<|.gf (.b9)<|.gf (.b9)<|.gf (.b9)<|.gf (bV false)<|.gf (bV false)<|.q 1<|.br (.nil) (.r 6 [.b9]<|.br (.nil) (.ex (List l4×l4) (fun z=>gs=z.1++[z.2]) (fun (z:List l4×l4)=>.h (.C7 1000 (.agg [.own 3 (z.1.map bh++[(jX z.2.na z.2.ru z.2.wa:V)]) gr fr cr,bV b]))<|.dx 10 [0,1,2,3,4,5,6,7,8,9] [(3,⟨false,[],some [1000],[55],[]⟩),(7,⟨false,[],some [1000],[59],[]⟩)] []<|.q 1<|.q 1<|.q 1<|.r 1 [.b9]<|.q 1<|.q 1<|.q 1<|.r 1 [.b9]<|.q 1<|.q 1<|.h (.n8 61 (iN z.1.length))<|.q 2<|.q 1<|.cu (Xg oe) (fun _=>.q 2<|.br (.nil) (.cu (X7 (.agg [.agg [bV l,sV p]])) (fun _=>.q 2<|.br (.al Ew (fun g8=>.st none<|.q 3<|.st none<|.Sa (.key 1000) [0,0+z.1.length,1] gr (fr+(0+z.1.length)*3+1) 2 (z.2.ru.map aD) (fun gA oA cA=>.h (.C7 1000 (ej (.own 3 (z.1.map bh++[(zC z.2.na z.2.ru gA oA cA z.2.wa:V)]) gr fr cr)))<|.r 6 [.own 2 (z.2.ru.map aD) gA oA cA]<|.br (.dx 9 [0,1,2,3,4,5,6,7,8] [(4,⟨false,[],some [1000],[94],[]⟩),(6,⟨false,[],some [8],[96],[]⟩),(8,⟨true,[],none,[98],[1000]⟩)] []<|.q 1<|.q 1<|.q 1<|.q 1<|.r 1 [.own 2 (z.2.ru.map aD) gA oA cA]<|.q 1<|.r 1 [.b9]<|.bs<|.eu (YD 1000 [0,0+z.1.length,1] (z.2.ru.map aD) ([.agg [bV l,sV p]]:List V) gr (fr+(0+z.1.length)*3+1) 2 gA oA cA) (fun Oz=>.h (.C7 1000 (ej (.own 3 (z.1.map bh++[(.agg [.ow 1 (z.2.na.map sV),.b9,iN z.2.wa]:V)]) gr fr cr)))<|.h (.n8 98 (.own 2 ((z.2.ru++[(⟨l,p⟩:r7)]).map aD) Oz.1 Oz.2.1 Oz.2.2))<|.q 2<|.st (some (.b9))<|.h (.C7 1000 (ej (.own 3 (z.1.map bh++[(zC z.2.na (z.2.ru++[(⟨l,p⟩:r7)]) Oz.1 Oz.2.1 Oz.2.2 z.2.wa:V)]) gr fr cr)))<|.h (.Rz (.key 1000) [0,0+z.1.length,1] gr (fr+(0+z.1.length)*3+1) (.own 2 ((z.2.ru++[(⟨l,p⟩:r7)]).map aD) Oz.1 Oz.2.1 Oz.2.2) (.ow 2 ((z.2.ru++[(⟨l,p⟩:r7)]).map aD)))<|.h (.C7 1000 (ej (.own 3 (z.1.map bh++[(jX z.2.na (z.2.ru++[(⟨l,p⟩:r7)]) z.2.wa:V)]) gr fr cr)))<|.h (.C7 1000 (.agg [.own 3 ((z.1++[(⟨z.2.na,z.2.ru++[⟨l,p⟩],z.2.wa⟩:l4)]).map bh) gr fr cr,bV true]))<|.nil)) (.h (.Rz (.key 1000) [0,0+z.1.length,1] gr (fr+(0+z.1.length)*3+1) (.own 2 (z.2.ru.map aD) gA oA cA) (.ow 2 (z.2.ru.map aD)))<|.h (.C7 1000 (ej (.own 3 (z.1.map bh++[(jX z.2.na z.2.ru z.2.wa:V)]) gr fr cr)))<|.h (.C7 1000 (.agg [.own 3 ((z.1++[z.2]).map bh) gr fr cr,bV true]))<|.nil)))) (.nil)))))))))))
  ((fun v1:List V=>(fun v2:V=>(∀ gr fr cr:Nat,((∃ td,Tryz.prog.underlying 220=some td/\∀ i,td≠.interface i)/\((222:Nat)≠220)/\(∃ y,(.agg [sV []]:V).val? =some y/\∀ w,(zeroValue 220).run Tryz.prog w=.ok y w))/\∀ _:Unit,∀ g4:Nat,Z g4 0/\(false=false)/\(false=false)/\(false=false)/\(false=false)/\(false=false)/\(false=false)/\(false=false)/\(false=false)/\(false=false)/\(false=false)/\(false=false)/\(false=false)/\Pk false false true/\Br (false&&false) (False) (True/\Z g 0/\Br (r6 (((gs.map bh).length:Nat):Int) 0) (Q (.tup []) (.tup [])/\Qr g (fR gs b) g v2) ((∃ z:List l4×l4,gs=z.1++[z.2])/\∀ z:List l4×l4,(gs=z.1++[z.2])->(fun v3:V=>(fun v4:V=>(fun v5:V=>(fun v6:V=>((.agg [.own 3 (gs.map bh) gr fr cr,bV b]:V)=.agg [.own 3 (z.1.map bh++[v3]) gr fr cr,bV b])/\True/\Z g 0/\True/\Z g 0/\m8 ((((z.1.map bh++[v3]).length:Nat):Int)-1)/\Q (iV ((((z.1.map bh++[v3]).length:Nat):Int)-1)) (iN z.1.length)/\In (z.1.length:Int) ((z.1.map bh++[v3]).length)/\((∃ td,Tryz.prog.underlying 220=some td/\∀ i,td≠.interface i)/\((222:Nat)≠220)/\(∃ y,(.agg [sV []]:V).val? =some y/\∀ w,(zeroValue 220).run Tryz.prog w=.ok y w))/\∀ _:Unit,Br false (False) (((∃ td,Tryz.prog.underlying 222=some td/\∀ i,td≠.interface i)/\((222:Nat)=222)/\((.agg #[.bool l,.string (Str p)]:Value)=.agg #[.bool l,.string (Str p)]))/\∀ _:Unit,Br true (∀ g8:Nat,Z g8 0/\True/\Z g 1/\(V.at g 0 (ej v5) [0,0+z.1.length,1]=some (gr,fr+(0+z.1.length)*3+1,.ow 2 (z.2.ru.map aD)))/\∀ gA oA cA:Nat,(fun v7:V=>(V.set (ej v5) [0,0+z.1.length,1] (.own 2 (z.2.ru.map aD) gA oA cA)=ej v7)/\True/\(V.at g 0 (ej v7) [0,0+z.1.length,1]=some (gr,(fr+(0+z.1.length)*3+1),.own 2 (z.2.ru.map aD) gA oA cA))/\Br (r8 (((z.2.ru.map aD).length:Nat):Int) 6) (True/\(V.at g 0 (ej v7) [0,0+z.1.length,1]=some (gr,(fr+(0+z.1.length)*3+1),.own 2 (z.2.ru.map aD) gA oA cA))/\Z g8 0/\(v1=v1/\((.hd (.key 1000) [0,0+z.1.length,1] 2 gA oA 0 ((z.2.ru.map aD).length) cA:V)=.hd (.key 1000) [0,0+z.1.length,1] 2 gA oA 0 ((z.2.ru.map aD).length) cA)/\(V.at g 0 (ej v7) [0,0+z.1.length,1]=some (gr,fr+(0+z.1.length)*3+1,.own 2 (z.2.ru.map aD) gA oA cA))/\((2:Nat)=2)/\(V.aK v1=false)/\(aM 2 v1)/\(((z.2.ru.map aD).length+v1.length)*24<=140737488355328))/\∀ Oz:Nat×Nat×Nat,(fun v8:V=>(V.set (ej v7) [0,0+z.1.length,1] (.b9)=ej v4)/\((.own 2 ((z.2.ru.map aD)++v1) Oz.1 Oz.2.1 Oz.2.2:V)=.own 2 ((z.2.ru++[(⟨l,p⟩:r7)]).map aD) Oz.1 Oz.2.1 Oz.2.2)/\True/\(V.at g 0 (ej v4) [0,0+z.1.length,1]=some (gr,(fr+(0+z.1.length)*3+1),.b9))/\(V.set (ej v4) [0,0+z.1.length,1] (.own 2 ((z.2.ru++[(⟨l,p⟩:r7)]).map aD) Oz.1 Oz.2.1 Oz.2.2)=ej v8)/\(V.at g 0 (ej v8) [0,0+z.1.length,1]=some (gr,fr+(0+z.1.length)*3+1,.own 2 ((z.2.ru++[(⟨l,p⟩:r7)]).map aD) Oz.1 Oz.2.1 Oz.2.2))/\(V.set (ej v8) [0,0+z.1.length,1] (.ow 2 ((z.2.ru++[(⟨l,p⟩:r7)]).map aD))=ej v6)/\((ej v6:V)=.agg [.own 3 ((z.1++[(⟨z.2.na,z.2.ru++[⟨l,p⟩],z.2.wa⟩:l4)]).map bh) gr fr cr,bV true])/\Q (.tup []) (.tup [])/\Qr g (.agg [.ow 3 ((z.1++[(⟨z.2.na,z.2.ru++[⟨l,p⟩],z.2.wa⟩:l4)]).map bh),bV true]) g v2) (.own 3 (z.1.map bh++[(zC z.2.na (z.2.ru++[(⟨l,p⟩:r7)]) Oz.1 Oz.2.1 Oz.2.2 z.2.wa:V)]) gr fr cr)) ((V.at g 0 (ej v7) [0,0+z.1.length,1]=some (gr,fr+(0+z.1.length)*3+1,.own 2 (z.2.ru.map aD) gA oA cA))/\(V.set (ej v7) [0,0+z.1.length,1] (.ow 2 (z.2.ru.map aD))=ej v5)/\((ej v5:V)=.agg [.own 3 ((z.1++[z.2]).map bh) gr fr cr,bV true])/\Q (.tup []) (.tup [])/\Qr g (.agg [.ow 3 ((z.1++[z.2]).map bh),bV true]) g v2)) (.own 3 (z.1.map bh++[(zC z.2.na z.2.ru gA oA cA z.2.wa:V)]) gr fr cr)) (False))) (.own 3 (z.1.map bh++[(jX z.2.na (z.2.ru++[(⟨l,p⟩:r7)]) z.2.wa:V)]) gr fr cr)) (.own 3 (z.1.map bh++[v3]) gr fr cr)) (.own 3 (z.1.map bh++[(.agg [.ow 1 (z.2.na.map sV),.b9,iN z.2.wa]:V)]) gr fr cr)) (jX z.2.na z.2.ru z.2.wa:V))))) (fR ((kZ gs b l p).1) ((kZ gs b l p).2))) ([.agg [bV l,sV p]]:List V)) ?_
 intro gr fr cr
 refine⟨⟨⟨_,Tryz.underlying220,by intro i h;cases h⟩,Zad,_,rfl,Tryz.zeroValue220⟩,?_⟩
 intro _
 intro g4
 refine⟨rfl,rfl,rfl,rfl,rfl,rfl,rfl,rfl,rfl,rfl,rfl,rfl,rfl,⟨fun h=>by rw[h] <;> rfl,fun _=>rfl⟩,?_⟩
 refine bI (fun l3=>?_) fun l3=>?_
 · all_goals (first | exact absurd l3 Zad | simp_all)
 · refine⟨trivial,rfl,?_⟩
   refine bI (fun l6=>?_) fun l6=>?_
   refine⟨?_,by rw[show kZ gs b l p=(gs,b) from if_pos (Za3 Zaa)]⟩
   unfold Q
   rfl
   · refine⟨jL (tj Zaa),?_⟩
     intro z hz
     have I0:=hn z.2 (by rw[hz];simp)
     have Xm:gs.length=z.1.length+1:=by rw[hz];simp
     refine⟨Wh (Zbk (V.own 3 · gr fr cr) (by rw[hz,Za9];rfl)),trivial,rfl,trivial,rfl,by(try simp only[Zaw]at *);(try simp only[Zan,Zaw,Zap,Zas]);omega,by unfold Q;refine Zbk iV ?_;simp,by(try simp only[Zaw]at *);(try simp only[Zan,Zaw,Zap,Zas]);omega,⟨⟨_,Tryz.underlying220,by intro i h;cases h⟩,Zad,_,rfl,Tryz.zeroValue220⟩,?_⟩
     intro _
     refine bI (fun n0=>?_) fun n0=>?_
     · all_goals (first | exact absurd n0 Zad | simp_all)
     · refine⟨⟨⟨_,Tryz.underlying222,by intro i h;cases h⟩,rfl,rfl⟩,?_⟩
       intro _
       refine bI (fun x7=>?_) fun x7=>?_
       intro g8
       refine⟨rfl,trivial,rfl,gP.trans (aS (by rw[Zau];exact bu) rfl),?_⟩
       intro gA oA cA
       refine⟨qk (bn (by rw[Zau];exact bu) (by rw[Zau];exact dV)),trivial,gP.trans (aS (by rw[Zau];exact bu) rfl),?_⟩
       refine bI (fun I4=>?_) fun I4=>?_
       refine⟨trivial,gP.trans (aS (by rw[Zau];exact bu) rfl),rfl,⟨rfl,rfl,gP.trans (aS (by rw[Zau];exact bu) rfl),rfl,rfl,by simp[aM,V.n,V.ns],by(try simp only[Zaw,Zap,Zas]);omega⟩,?_⟩
       intro Oz
       refine⟨qk (bn (by rw[Zau];exact bu) (by rw[Zau];exact dV)),Zbk (V.own 2 · Oz.1 Oz.2.1 Oz.2.2) Zab,trivial,gP.trans (aS (by rw[Zau];exact bu) rfl),qk (bn (by rw[Zau];exact bu) (by rw[Zau];exact dV)),gP.trans (aS (by rw[Zau];exact bu) rfl),qk (bn (by rw[Zau];exact bu) (by rw[Zau];exact dV)),Wh (Zbk (V.own 3 · gr fr cr) (by rw[Za9 (f:=bh)];rfl)),?_⟩
       refine⟨?_,by rw[show kZ gs b l p=(z.1++[⟨z.2.na,z.2.ru++[⟨l,p⟩],z.2.wa⟩],true) from by rw[kZ,if_neg (by rintro h;simp_all),if_pos (by rw[hz,ou];omega),hz,dv]]⟩
       unfold Q
       rfl
       refine⟨gP.trans (aS (by rw[Zau];exact bu) rfl),qk (bn (by rw[Zau];exact bu) (by rw[Zau];exact dV)),Wh (Zbk (V.own 3 · gr fr cr) (by rw[Za9 (f:=bh)];rfl)),?_⟩
       refine⟨?_,by rw[show kZ gs b l p=(z.1++[z.2],true) from by rw[kZ,if_neg (by rintro h;simp_all),if_neg (by rw[hz,ou];omega),hz]]⟩
       unfold Q
       rfl
       · all_goals (first | exact absurd x7 Zad | simp_all)
theorem Ht(gs:List l4)(b:Bool)(g:Nat)(v:Nat)(hg:gs.length<=1000)(hn:∀ y,y∈gs->y.na.length<=1000/\y.ru.length<=6):PF Tryz.prog 155 [.ptr (.key 1000) [] g 0,.lit (.iface 225 (.agg #[.int .i64 (v:Int)]))] [(1000,(g,fR gs b))] (fun r h=>r=(.tup [])/\h=[(1000,(g,fR ((nz gs b v).1) ((nz gs b v).2)))]):=by
 refine aB (N:=112) (rs:=[]) Tryz.func155
  (.oR (.key 1000) [0] (fun gr fr cr=>.q 1<|.cu (Xg oe) (fun _=>.q 3<|.al oe (fun g4=>.st none<|.q 1<|.q 2<|.gf (.b9)<|.gf (.b9)<|.gf (.b9)<|.gf (.b9)<|.gf (.b9)<|.gf (bV false)<|.gf (bV false)<|.gf (.b9)<|.gf (.b9)<|.gf (.b9)<|.gf (bV false)<|.gf (bV false)<|.q 1<|.br (.nil) (.r 6 [.b9]<|.br (.nil) (.ex (List l4×l4) (fun z=>gs=z.1++[z.2]) (fun (z:List l4×l4)=>.h (.C7 1000 (.agg [.own 3 (z.1.map bh++[(jX z.2.na z.2.ru z.2.wa:V)]) gr fr cr,bV b]))<|.dx 10 [0,1,2,3,4,5,6,7,8,9] [(3,⟨false,[],some [1000],[55],[]⟩),(7,⟨false,[],some [1000],[59],[]⟩)] []<|.q 1<|.q 1<|.q 1<|.r 1 [.b9]<|.q 1<|.q 1<|.q 1<|.r 1 [.b9]<|.q 1<|.q 1<|.h (.n8 61 (iN z.1.length))<|.q 2<|.q 1<|.cu (Xg oe) (fun _=>.q 2<|.br (.nil) (.cu (Xg Ew) (fun _=>.q 2<|.br (.nil) (.cu (X7 (.agg [iN v])) (fun _=>.q 2<|.br (.al Jp (fun g9=>.st none<|.q 3<|.st none<|.r 5 [.b9]<|.st (some (iN z.2.wa))<|.h (.C7 1000 (ej (.own 3 (z.1.map bh++[(jX z.2.na z.2.ru v:V)]) gr fr cr)))<|.h (.C7 1000 (.agg [.own 3 ((z.1++[(⟨z.2.na,z.2.ru,v⟩:l4)]).map bh) gr fr cr,bV true]))<|.nil)) (.nil)))))))))))))
  ((fun v1:V=>(∀ gr fr cr:Nat,((∃ td,Tryz.prog.underlying 220=some td/\∀ i,td≠.interface i)/\((225:Nat)≠220)/\(∃ y,(.agg [sV []]:V).val? =some y/\∀ w,(zeroValue 220).run Tryz.prog w=.ok y w))/\∀ _:Unit,∀ g4:Nat,Z g4 0/\(false=false)/\(false=false)/\(false=false)/\(false=false)/\(false=false)/\(false=false)/\(false=false)/\(false=false)/\(false=false)/\(false=false)/\(false=false)/\(false=false)/\Pk false false true/\Br (false&&false) (False) (True/\Z g 0/\Br (r6 (((gs.map bh).length:Nat):Int) 0) (Q (.tup []) (.tup [])/\Qr g (fR gs b) g v1) ((∃ z:List l4×l4,gs=z.1++[z.2])/\∀ z:List l4×l4,(gs=z.1++[z.2])->(fun v2:V=>(fun v3:V=>((.agg [.own 3 (gs.map bh) gr fr cr,bV b]:V)=.agg [.own 3 (z.1.map bh++[v2]) gr fr cr,bV b])/\True/\Z g 0/\True/\Z g 0/\m8 ((((z.1.map bh++[v2]).length:Nat):Int)-1)/\Q (iV ((((z.1.map bh++[v2]).length:Nat):Int)-1)) (iN z.1.length)/\In (z.1.length:Int) ((z.1.map bh++[v2]).length)/\((∃ td,Tryz.prog.underlying 220=some td/\∀ i,td≠.interface i)/\((225:Nat)≠220)/\(∃ y,(.agg [sV []]:V).val? =some y/\∀ w,(zeroValue 220).run Tryz.prog w=.ok y w))/\∀ _:Unit,Br false (False) (((∃ td,Tryz.prog.underlying 222=some td/\∀ i,td≠.interface i)/\((225:Nat)≠222)/\(∃ y,(.agg [.agg [bV false,sV []]]:V).val? =some y/\∀ w,(zeroValue 222).run Tryz.prog w=.ok y w))/\∀ _:Unit,Br false (False) (((∃ td,Tryz.prog.underlying 225=some td/\∀ i,td≠.interface i)/\((225:Nat)=225)/\((.agg #[.int .i64 (v:Int)]:Value)=.agg #[.int .i64 (v:Int)]))/\∀ _:Unit,Br true (∀ g9:Nat,Z g9 0/\True/\Z g 1/\Z g9 0/\True/\(V.at g 0 (ej (.own 3 (z.1.map bh++[v2]) gr fr cr)) [0,0+z.1.length,2]=some (gr,(fr+(0+z.1.length)*3+2),iN z.2.wa))/\(V.set (ej (.own 3 (z.1.map bh++[v2]) gr fr cr)) [0,0+z.1.length,2] (iN v)=ej v3)/\((ej v3:V)=.agg [.own 3 ((z.1++[(⟨z.2.na,z.2.ru,v⟩:l4)]).map bh) gr fr cr,bV true])/\Q (.tup []) (.tup [])/\Qr g (.agg [.ow 3 ((z.1++[(⟨z.2.na,z.2.ru,v⟩:l4)]).map bh),bV true]) g v1) (Q (.tup []) (.tup [])/\Qr g (.agg [.ow 3 (z.1.map bh++[v2]),bV b]) g v1)))) (.own 3 (z.1.map bh++[(jX z.2.na z.2.ru v:V)]) gr fr cr)) (jX z.2.na z.2.ru z.2.wa:V))))) (fR ((nz gs b v).1) ((nz gs b v).2))) ?_
 intro gr fr cr
 refine⟨⟨⟨_,Tryz.underlying220,by intro i h;cases h⟩,Zad,_,rfl,Tryz.zeroValue220⟩,?_⟩
 intro _
 intro g4
 refine⟨rfl,rfl,rfl,rfl,rfl,rfl,rfl,rfl,rfl,rfl,rfl,rfl,rfl,⟨fun h=>by rw[h] <;> rfl,fun _=>rfl⟩,?_⟩
 refine bI (fun l3=>?_) fun l3=>?_
 · all_goals (first | exact absurd l3 Zad | simp_all)
 · refine⟨trivial,rfl,?_⟩
   refine bI (fun l6=>?_) fun l6=>?_
   refine⟨?_,by rw[show nz gs b v=(gs,b) from if_pos (Za3 Zaa)]⟩
   unfold Q
   rfl
   · refine⟨jL (tj Zaa),?_⟩
     intro z hz
     have I0:=hn z.2 (by rw[hz];simp)
     have Xm:gs.length=z.1.length+1:=by rw[hz];simp
     refine⟨Wh (Zbk (V.own 3 · gr fr cr) (by rw[hz,Za9];rfl)),trivial,rfl,trivial,rfl,by(try simp only[Zaw]at *);(try simp only[Zan,Zaw,Zap,Zas]);omega,by unfold Q;refine Zbk iV ?_;simp,by(try simp only[Zaw]at *);(try simp only[Zan,Zaw,Zap,Zas]);omega,⟨⟨_,Tryz.underlying220,by intro i h;cases h⟩,Zad,_,rfl,Tryz.zeroValue220⟩,?_⟩
     intro _
     refine bI (fun n0=>?_) fun n0=>?_
     · all_goals (first | exact absurd n0 Zad | simp_all)
     · refine⟨⟨⟨_,Tryz.underlying222,by intro i h;cases h⟩,Zad,_,rfl,Tryz.zeroValue222⟩,?_⟩
       intro _
       refine bI (fun x7=>?_) fun x7=>?_
       · all_goals (first | exact absurd x7 Zad | simp_all)
       · refine⟨⟨⟨_,Tryz.underlying225,by intro i h;cases h⟩,rfl,rfl⟩,?_⟩
         intro _
         refine bI (fun I4=>?_) fun I4=>?_
         intro g9
         refine⟨rfl,trivial,rfl,rfl,trivial,gP.trans (aS (by rw[Zau];exact bu) rfl),qk (bn (by rw[Zau];exact bu) (by rw[Zau];exact dV)),Wh (Zbk (V.own 3 · gr fr cr) (by rw[Za9 (f:=bh)];rfl)),?_⟩
         refine⟨?_,by rw[show nz gs b v=(z.1++[⟨z.2.na,z.2.ru,v⟩],true) from by rw[nz,if_neg (by rintro h;simp_all),hz,dv]]⟩
         unfold Q
         rfl
         · all_goals (first | exact absurd I4 Zad | simp_all)
def Em(c:UInt8):Bool:=decide (48<=c.toNat/\c.toNat<=57)
theorem Co(s:BL):s.all (fun c=>decide (48<=c.toNat/\c.toNat<=57))=s.all Em:=rfl
abbrev jH(s:BL)(i:Nat)(q:Int):Prop:=i<=s.length/\q=((s.take i).foldl (kS 20) 0)/\(0<=q/\q<=20)/\∀ j,j<i->Em (s.getD j 0)=true
def wQ(s:BL):o6 Tryz.prog:=.mk 182 [sV s] [] (s.length<=1000000) (iV (kg s 20)) [] (by
 intro hs
 refine aB (N:=31) (rs:=[.tmp 2]) Tryz.func182
  (.q 1<|.q 1<|.q 1<|.loop (Nat×Int) (fun (i,q)=>⟨[(0,sV s),(3,iV q),(4,iN i)],[]⟩) (fun (i,q)=>jH s i q) (fun (i,q)=>s.length-i) (fun (i,q)=>.q 4<|.br (.q 10<|.br (.q 1<|.nil) (.q 8<|.mm<|.q 1<|.q 3<|.nil)) (.q 2<|.nil)))
  ((∃ x:Nat×Int,match x with | (j7,B9)=>(jH s j7 B9)/\E (sV s)/\Q (iN 0) (iV B9)/\Q (iN 0) (iN j7)/\True)/\∀ x:Nat×Int,match x with | (i,q)=>(jH s i q)->(fun v1:Int=>Br (r8 (i:Int) (s.length:Int)) (Ix (i:Int) s/\Gd ((r8 v1 48)==false) (Ix (i:Int) s)/\Pk (r8 v1 48) true ((r8 v1 48)==false)/\Br ((r8 v1 48)||(w3 v1 57)) (Q (iN 0) (iV (kg s 20))) (m8 (q*10)/\Ix (i:Int) s/\Rh (v1-48)/\m8 (v1-48)/\m8 ((q*10)+(v1-48))/\(IntKind.i64=IntKind.i64)/\m8 ((i:Int)+1)/\∃ x:Nat×Int,match x with | (c9,o9)=>(jH s c9 o9)/\(s.length-c9<s.length-i)/\E (sV s)/\Q (iV (min ((q*10)+(v1-48)) 20)) (iV o9)/\Q (iN (i+1)) (iN c9)/\True)) (Q (iV q) (iV (kg s 20)))) (((s.getD i 0).toNat:Nat):Int)) ?_
 refine⟨⟨(0,0),?_,rfl,Zaf,rfl,trivial⟩,?_⟩
 unfold jH
 simp
 rintro⟨i,q⟩ ⟨h1,h2,h3,h4⟩
 have hci:=(s.getD i 0).toNat_lt
 refine bI (fun l3=>?_) fun l3=>?_
 refine⟨Zaa,fun hG=>by(try simp only[nb]at hG);omega,⟨fun _=>rfl,fun h=>by rw[h] <;> rfl⟩,?_⟩
 refine bI (fun l6=>?_) fun l6=>?_
 unfold Q
 rw[show kg s 20=0 from if_neg (by rw[Co,all_false (i:=i) (d:=0) Zaa (by unfold Em;rw[decide_eq_false_iff_not];omega)];decide)]
 rfl
 refine⟨Zaa,Zaa,by have:=Zbb (s.getD i 0);omega,by have:=Zbb (s.getD i 0);omega,by have:=Zbb (s.getD i 0);omega,rfl,Zaa,?_⟩
 refine⟨(i+1,min ((q*10)+((((s.getD i 0).toNat:Nat):Int)-48)) 20),?_,?_,rfl,rfl,rfl,trivial⟩
 unfold jH
 refine⟨Zaa,?_,Zaa,bJ h4 (by unfold Em;rw[Zbi];omega)⟩
 rw[foldl_succ (d:=0) Zaa,<- h2,kS]
 exact Zai
 unfold Q
 rw[show kg s 20=s.foldl (kS 20) 0 from if_pos (by rw[Co];exact all_true (d:=0) (fun j hj=>h4 j Zaa)),h2,Zax Zaa])
abbrev gI(t:BL):V:=.tup [.lit (DY (gD (af 32 t).1 (af 32 t).2.1)),bV (jm (af 32 t).1 (af 32 t).2.1)]
def vZ(t:BL):o6 Tryz.prog:=.mk 154 [sV t] [] (t.length<=1000000) (gI t) [] (by
 intro ht
 have O3:=nV 32 t
 refine aB (N:=38) (rs:=[.tmp 2,.tmp 3]) Tryz.func154
  (.q 2<|.q 1<|.c (pP t 32) []<|.q 7<|.q 1<|.q 2<|.br (.q 1<|.bd oe<|.cu YP (fun _=>.q 1<|.c (sD ((af 32 t).2.1)) []<|.q 2<|.nil)) (.q 2<|.join (Bool) (fun c=>⟨[(0,sV t),(2,.lit .nilIface),(3,bV false),(8,sV t),(9,.tup [sV ((af 32 t).1),sV ((af 32 t).2.1),bV ((af 32 t).2.2)]),(7,.tup [sV ((af 32 t).1),sV ((af 32 t).2.1),bV ((af 32 t).2.2)]),(10,sV ((af 32 t).1)),(11,sV ((af 32 t).2.1)),(12,bV ((af 32 t).2.2)),(4,sV ((af 32 t).1)),(5,sV ((af 32 t).2.1)),(6,bV ((af 32 t).2.2)),(13,sV ((af 32 t).1)),(15,bV (((af 32 t).1)==([99,97,108,108,101,114]:BL))),(14,bV (((af 32 t).1)==([99,97,108,108,101,114]:BL))),(22,bV (((af 32 t).1)==([108,101,116]:BL))),(21,bV c)],[]⟩) (fun c=>c=decide ((af 32 t).1=[108,101,116]\/(af 32 t).1=[98,97,114])) (.nil) (.q 2<|.nil) (fun c=>.br (.q 3<|.bd wz<|.bd Ew<|.cu YP (fun _=>.q 1<|.c (lP ((af 32 t).2.1)) []<|.q 2<|.nil)) (.q 2<|.br (.q 1<|.c (wQ ((af 32 t).2.1)) []<|.bd Jp<|.cu YP (fun _=>.q 2<|.nil)) (.q 2<|.nil)))))
  ((fun v1:V=>(fun v2:BL=>(fun v3:BL=>(fun v4:V=>(fun v5:V=>((pP t 32).sm/\((t.length<=1000000))/\Br (((af 32 t).1)==v3) (((∃ td,Tryz.prog.underlying 220=some td/\∀ i,td≠.interface i)/\(Value.iface 220 (.agg #[.string (Str ((af 32 t).2.1))])).oneCell'=true)/\∀ _:Unit,(sD ((af 32 t).2.1)).sm/\((((af 32 t).2.1).length<=4611686018427387904))/\Q (.tup [.lit (.iface 220 (.agg #[.string (Str ((af 32 t).2.1))])),bV ((((af 32 t).2.1)==[42])||aZ ((af 32 t).2.1))]) (gI t)) (((((af 32 t).1)==v2)=true->∃ c:Bool,(c=decide ((af 32 t).1=[108,101,116]\/(af 32 t).1=[98,97,114]))/\E (sV t)/\E (.lit .nilIface)/\E (bV false)/\E (sV t)/\E v1/\E v1/\E v4/\E v5/\E (bV ((af 32 t).2.2))/\E v4/\E v5/\E (bV ((af 32 t).2.2))/\E v4/\E (bV (((af 32 t).1)==v3))/\E (bV (((af 32 t).1)==v3))/\E (bV (((af 32 t).1)==v2))/\Q (bV (((af 32 t).1)==v2)) (bV c)/\True)/\((((af 32 t).1)==v2)=false->∃ c:Bool,(c=decide ((af 32 t).1=[108,101,116]\/(af 32 t).1=[98,97,114]))/\E (sV t)/\E (.lit .nilIface)/\E (bV false)/\E (sV t)/\E v1/\E v1/\E v4/\E v5/\E (bV ((af 32 t).2.2))/\E v4/\E v5/\E (bV ((af 32 t).2.2))/\E v4/\E (bV (((af 32 t).1)==v3))/\E (bV (((af 32 t).1)==v3))/\E (bV (((af 32 t).1)==v2))/\Q (bV (((af 32 t).1)==([98,97,114]:BL))) (bV c)/\True)/\(∀ c:Bool,(c=decide ((af 32 t).1=[108,101,116]\/(af 32 t).1=[98,97,114]))->Br c (((∃ td,Tryz.prog.underlying 222=some td/\∀ i,td≠.interface i)/\(Value.iface 222 (.agg #[.bool (((af 32 t).1)==v2),.string (Str ((af 32 t).2.1))])).oneCell'=true)/\∀ _:Unit,(lP ((af 32 t).2.1)).sm/\((((af 32 t).2.1).length<=4611686018427387904))/\Q (.tup [.lit (.iface 222 (.agg #[.bool (((af 32 t).1)==v2),.string (Str ((af 32 t).2.1))])),bV (eD ((af 32 t).2.1))]) (gI t)) (Br (((af 32 t).1)==([119,97,105,116]:BL)) ((wQ ((af 32 t).2.1)).sm/\((((af 32 t).2.1).length<=1000000))/\((∃ td,Tryz.prog.underlying 225=some td/\∀ i,td≠.interface i)/\(Value.iface 225 (.agg #[.int .i64 (kg ((af 32 t).2.1) 20)])).oneCell'=true)/\∀ _:Unit,Q (.tup [.lit (.iface 225 (.agg #[.int .i64 (kg ((af 32 t).2.1) 20)])),bV true]) (gI t)) (Q (.tup [.lit .nilIface,bV false]) (gI t))))))) (sV ((af 32 t).2.1))) (sV ((af 32 t).1))) ([99,97,108,108,101,114]:BL)) ([108,101,116]:BL)) (.tup [sV ((af 32 t).1),sV ((af 32 t).2.1),bV ((af 32 t).2.2)])) ?_
 refine⟨rfl,Zaa,?_⟩
 refine bI (fun l3=>?_) fun l3=>?_
 refine⟨⟨⟨_,Tryz.underlying220,by intro i h;cases h⟩,rfl⟩,?_⟩
 intro _
 refine⟨rfl,Zaa,?_⟩
 unfold Q gI
 rw[show gD (af 32 t).1 (af 32 t).2.1=.caller (af 32 t).2.1 from if_pos l3,show jm (af 32 t).1 (af 32 t).2.1=_ from if_pos l3]
 rfl
 · refine⟨fun l6=>?_,fun l6=>?_,fun c hc=>?_⟩
   · try simp only[nb]at l6
     exact⟨((af 32 t).1)==([108,101,116]:BL),by first | (rw[Za4];simp_all;done) | grind,rfl,rfl,rfl,rfl,rfl,rfl,rfl,rfl,rfl,rfl,rfl,rfl,rfl,rfl,rfl,rfl,rfl,trivial⟩
   · try simp only[nb]at l6
     exact⟨((af 32 t).1)==([98,97,114]:BL),by first | (rw[Za4];simp_all;done) | grind,rfl,rfl,rfl,rfl,rfl,rfl,rfl,rfl,rfl,rfl,rfl,rfl,rfl,rfl,rfl,rfl,rfl,trivial⟩
   refine bI (fun n0=>?_) fun n0=>?_
   refine⟨⟨⟨_,Tryz.underlying222,by intro i h;cases h⟩,rfl⟩,?_⟩
   intro _
   refine⟨rfl,Zaa,?_⟩
   unfold Q gI
   have h2:(af 32 t).1=[108,101,116]\/(af 32 t).1=[98,97,114]:=by grind
   rw[show gD (af 32 t).1 (af 32 t).2.1=.Rl ((af 32 t).1==[108,101,116]) (af 32 t).2.1 from by rw[gD,if_neg l3,if_pos h2],show jm (af 32 t).1 (af 32 t).2.1=aI (af 32 t).2.1 from by rw[jm,if_neg l3,if_pos h2],qs]
   rfl
   refine bI (fun x7=>?_) fun x7=>?_
   refine⟨rfl,Zaa,⟨⟨_,Tryz.underlying225,by intro i h;cases h⟩,rfl⟩,?_⟩
   intro _
   unfold Q gI
   have h2: ¬ ((af 32 t).1=[108,101,116]\/(af 32 t).1=[98,97,114]):=by grind
   rw[show gD (af 32 t).1 (af 32 t).2.1=.wait (kg (af 32 t).2.1 20).toNat from by rw[gD,if_neg l3,if_neg h2,if_pos x7],show jm (af 32 t).1 (af 32 t).2.1=true from by rw[jm,if_neg l3,if_neg h2,if_pos x7]]
   show V.tup [.lit (.iface 225 (.agg #[.int .i64 (kg (af 32 t).2.1 20)])),_]=V.tup [.lit (.iface 225 (.agg #[.int .i64 (((kg (af 32 t).2.1 20).toNat:Nat):Int)])),_]
   rw[Int.toNat_of_nonneg (KE Zaa)]
   unfold Q gI
   have h2: ¬ ((af 32 t).1=[108,101,116]\/(af 32 t).1=[98,97,114]):=by grind
   rw[show gD (af 32 t).1 (af 32 t).2.1=.none from by rw[gD,if_neg l3,if_neg h2,if_neg x7],show jm (af 32 t).1 (af 32 t).2.1=false from by rw[jm,if_neg l3,if_neg h2,if_neg x7]]
   rfl)
theorem Jv{w r:BL}(h:jm w r=true):gD w r≠.none:=by
 unfold jm at h
 unfold gD
 split at h
 rename_i h1;rw[if_pos h1];intro c;cases c
 rename_i h1
 rw[if_neg h1]
 split at h
 rename_i h2;rw[if_pos h2];intro c;cases c
 rename_i h2
 rw[if_neg h2]
 split at h
 rename_i h3;rw[if_pos h3];intro c;cases c
 cases h
theorem Ib(gs:List l4)(b:Bool)(g:Nat)(l:Ln)(hg:gs.length<=1000)(hn:∀ y,y∈gs->y.na.length<=1000/\y.ru.length<=6)(hl:l≠.none):
 PF Tryz.prog 155 [.ptr (.key 1000) [] g 0,.lit (DY l)] [(1000,(g,.agg [.ow 3 (gs.map bh),bV b]))] (fun r h=>r=.tup []/\h=[(1000,(g,.agg [.ow 3 ((iy gs b l).1.map bh),bV (iy gs b l).2]))]):=by
 cases l with
 | none=>exact absurd rfl hl
 | caller n=>exact Im gs b g n hg hn
 | Rl q p=>exact HW gs b g q p hg hn
 | wait v=>exact Ht gs b g v hg hn
def CF(gs:List l4)(b:Bool)(g:Nat)(l:Ln):o6 Tryz.prog:={ f:=155,args:=[.ptr (.key 1000) [] g 0,.lit (DY l)],H:=[(1000,(g,fR gs b))],pre:=(gs.length<=1000)/\(∀ y,y∈gs->y.na.length<=1000/\y.ru.length<=6)/\(l≠.none),res:=.tup [],H':=[(1000,(g,.agg [.ow 3 ((iy gs b l).1.map bh),bV (iy gs b l).2]))],ok:=fun h=>Ib gs b g l h.1 h.2.1 h.2.2 }
theorem HH{n:Nat}{gs:List l4}{b:Bool}(h:M6 n gs)(l:BL):M6 (n+1) (ox (gs,b) l).1:=by
 unfold ox
 split
 have hl:∀ z,gs.getLast? =some z->z.na.length<=n/\z.ru.length<=6:=fun z hz=>h.each z (List.mem_of_getLast? hz)
 cases gD (af 32 l).1 (af 32 l).2.1 with
 | none=>exact h.mono Zaa
 | caller q=>
   simp only[iy,nA]
   split
   refine⟨by have:=h.len;simp;omega,fun y hy=>?_⟩
   rcases Zav.1 hy with hy | hy
   have:=h.each y hy;exact⟨Zaa,this.2⟩
   rw[Zat.1 hy];simp
   exact h.set fun z hz=>⟨by have:=hl z hz;simp;omega,(hl z hz).2⟩
 | Rl q p=>
   simp only[iy,kZ]
   split
   exact h.mono Zaa
   split
   rename_i h6
   refine h.set fun z hz=>⟨by have:=hl z hz;simp only;omega,?_⟩
   unfold jB at h6
   rw[hz]at h6
   simp only at h6
   simp only[Zan,Zap,Zas];omega
   exact h.mono Zaa
 | wait v=>
   simp only[iy,nz]
   split
   exact h.mono Zaa
   exact h.set fun z hz=>⟨by have:=hl z hz;simp only;omega,(hl z hz).2⟩
 exact h.mono Zaa
abbrev fe(t:BL)(i:Nat)(gs:List l4)(b:Bool):Prop:=i<=(an 10 t).length/\i<=40/\M6 i gs/\((an 10 t).take i).foldl ox ([],false)=(gs,b)
def sJ(t:BL):o6 Tryz.prog:=.mk 126 [sV t] [] (t.length<=1000000) (.ow 3 ((ct t).map bh)) [] (by
 intro ht
 refine aB (N:=29) (rs:=[.tmp 2]) Tryz.func126
  (.q 1<|.al Nl (fun g3=>.q 1<|.c (qY t 10) []<|.q 2<|.h (.B3 (.key 3) [0] 3)<|.loop (Nat×(List l4)×Bool) (fun (i,gs,b)=>⟨[(0,sV t),(3,.ptr (.key 3) [] g3 0),(9,.sl true ((an 10 t).map sV)),(10,iN ((an 10 t).length)),(11,iN i)],[(3,(g3,fR gs b))]⟩) (fun (i,gs,b)=>fe t i gs b) (fun (i,gs,b)=>(an 10 t).length-i) (fun (i,gs,b)=>.q 1<|.br (.r 5 [sV ((an 10 t).getD i [])]<|.q 2<|.br (.q 1<|.mv<|.q 1<|.nil) (.q 1<|.c (vZ ((an 10 t).getD i [])) []<|.q 5<|.q 1<|.br (.q 1<|.c (CF gs b g3 (gD (af 32 ((an 10 t).getD i [])).1 (af 32 ((an 10 t).getD i [])).2.1)) [(1000,3)]<|.q 2<|.nil) (.q 2<|.nil))) (.q 1<|.mv<|.q 1<|.nil))))
  ((fun v1:V=>(∀ g3:Nat,(qY t 10).sm/\((t.length<=1000000))/\(∃ x:Nat×(List l4)×Bool,match x with | (j7,U4,PO)=>(fe t j7 U4 PO)/\E (sV t)/\E (.ptr (.key 3) [] g3 0)/\E v1/\Q (iN (((an 10 t).map sV).length)) (iN ((an 10 t).length))/\Q (iN 0) (iN j7)/\Qr g3 (.agg [.ow 3 ([].map bh),bV false]) g3 (fR U4 PO)/\True)/\∀ x:Nat×(List l4)×Bool,match x with | (i,gs,b)=>(fe t i gs b)->Br (r8 (i:Int) (((an 10 t).length:Nat):Int)) (Ex (i:Int) ((an 10 t).map sV) (sV ((an 10 t).getD i []))/\True/\Br (r6 (i:Int) 40) (Z g3 0/\Q (.ow 3 (gs.map bh)) (.ow 3 ((ct t).map bh))) ((vZ ((an 10 t).getD i [])).sm/\((((an 10 t).getD i []).length<=1000000))/\Br (jm (af 32 ((an 10 t).getD i [])).1 (af 32 ((an 10 t).getD i [])).2.1) ((CF gs b g3 (gD (af 32 ((an 10 t).getD i [])).1 (af 32 ((an 10 t).getD i [])).2.1)).sm/\Er g3 (fR gs b)/\((gs.length<=1000)/\(∀ y,y∈gs->y.na.length<=1000/\y.ru.length<=6)/\((gD (af 32 ((an 10 t).getD i [])).1 (af 32 ((an 10 t).getD i [])).2.1)≠.none))/\m8 ((i:Int)+1)/\∃ x:Nat×(List l4)×Bool,match x with | (c9,Ra,D9)=>(fe t c9 Ra D9)/\((an 10 t).length-c9<(an 10 t).length-i)/\E (sV t)/\E (.ptr (.key 3) [] g3 0)/\E v1/\E (iN ((an 10 t).length))/\Q (iN (i+1)) (iN c9)/\Qr g3 (fR ((iy gs b (gD (af 32 ((an 10 t).getD i [])).1 (af 32 ((an 10 t).getD i [])).2.1)).1) ((iy gs b (gD (af 32 ((an 10 t).getD i [])).1 (af 32 ((an 10 t).getD i [])).2.1)).2)) g3 (fR Ra D9)/\True) (m8 ((i:Int)+1)/\∃ x:Nat×(List l4)×Bool,match x with | (c9,Ra,D9)=>(fe t c9 Ra D9)/\((an 10 t).length-c9<(an 10 t).length-i)/\E (sV t)/\E (.ptr (.key 3) [] g3 0)/\E v1/\E (iN ((an 10 t).length))/\Q (iN (i+1)) (iN c9)/\Qr g3 (fR gs b) g3 (fR Ra D9)/\True))) (Z g3 0/\Q (.ow 3 (gs.map bh)) (.ow 3 ((ct t).map bh))))) (.sl true ((an 10 t).map sV))) ?_
 intro g3
 refine⟨rfl,Zaa,?_⟩
 refine⟨⟨(0,[],false),?_,rfl,rfl,rfl,Zaf,rfl,rfl,trivial⟩,?_⟩
 unfold fe
 exact⟨Zaa,Zaa,⟨Zab,Zab⟩,rfl⟩
 rintro⟨i,gs,b⟩ ⟨h1,h2,h3,h4⟩
 refine bI (fun l3=>?_) fun l3=>?_
 refine⟨⟨Zaa,aq (d:=[]) Zaa⟩,trivial,?_⟩
 refine bI (fun l6=>?_) fun l6=>?_
 refine⟨rfl,?_⟩
 unfold Q
 rw[show ct t=gs from by rw[<- yv,Gg h1 h2 (fun _=>by omega),h4]]
 refine⟨rfl,by have:=tl 10 t i;omega,?_⟩
 refine bI (fun n0=>?_) fun n0=>?_
 refine⟨rfl,rfl,⟨by have:=h3.len;omega,fun y hy=>by have:=h3.each y hy;omega,Jv n0⟩,Zaa,?_⟩
 refine⟨(i+1,(iy gs b (gD (af 32 ((an 10 t).getD i [])).1 (af 32 ((an 10 t).getD i [])).2.1)).1,(iy gs b (gD (af 32 ((an 10 t).getD i [])).1 (af 32 ((an 10 t).getD i [])).2.1)).2),?_,?_,rfl,rfl,rfl,rfl,rfl,rfl,trivial⟩
 unfold fe
 have A7:ox (gs,b) ((an 10 t).getD i [])=iy gs b (gD (af 32 ((an 10 t).getD i [])).1 (af 32 ((an 10 t).getD i [])).2.1):=if_pos n0
 refine⟨Zaa,Zaa,?_,?_⟩
 rw[<- A7];exact HH h3 _
 rw[foldl_succ (d:=[]) Zaa,h4,A7]
 exact Zai
 refine⟨Zaa,?_⟩
 refine⟨(i+1,gs,b),?_,?_,rfl,rfl,rfl,rfl,rfl,rfl,trivial⟩
 unfold fe
 have A7:ox (gs,b) ((an 10 t).getD i [])=(gs,b):=if_neg (by rw[n0];decide)
 refine⟨Zaa,Zaa,h3.mono Zaa,?_⟩
 rw[foldl_succ (d:=[]) Zaa,h4,A7]
 exact Zai
 refine⟨rfl,?_⟩
 unfold Q
 rw[show ct t=gs from by rw[<- yv,Gg h1 h2 (fun h=>by omega),h4]])
theorem Io{gs:List l4}{a:BL}{i:Nat}(h:i<gs.length):(gs.map fun y=>y.na.contains a).getD i false=(gs.getD i ⟨[],[],0⟩).na.contains a:=by
 rw[Zak,Zak,List.getElem?_map,Zar h];rfl
def zF(y:l4)(a:BL)(u:Nat):o6 Tryz.prog:=.mk 151 [fa y.na y.ru y.wa,.ptr (.key 1000) [] u 0] [(1000,(u,sV a))] (y.na.length<=1000000) (bV (y.na.contains a)) [(1000,(u,sV a))] (by
 intro hy
 refine aB (N:=8) (rs:=[.tmp 3]) Tryz.func151
  (.bx (fun g2=>.q 1<|.r 3 [.b9,.b9]<|.c (nt y.na a) []<|.q 1<|.nil))
  (∀ g2:Nat,Z g2 0/\Z u 0/\(nt y.na a).sm/\((y.na.length<=1000000))/\Q (bV (y.na.contains a)) (bV (y.na.contains a))/\Er u (sV a)) ?_
 intro g2
 refine⟨rfl,rfl,rfl,Zae,?_⟩
 refine⟨?_,rfl⟩
 unfold Q
 rfl)
def CC(gs:List l4)(a:BL)(u:Nat):o6 Tryz.prog:=.mk 179 [bG gs,.lit (.func (.func 151) #[] #[.pointer (some ⟨u,0,none⟩)])] [(1000,(u,sV a))] ((gs.length<=1000000)/\(∀ i,(gs.getD i ⟨[],[],0⟩).na.length<=1000000)) (iV (bZ (gs.map fun y=>y.na.contains a) true)) [(1000,(u,sV a))] (by
 rintro⟨hg,hn⟩
 refine aB (N:=19) (rs:=[.tmp 4]) Tryz.func179
  (.q 1<|.q 3<|.loop (Nat) (fun (i:Nat)=>⟨[(0,bG gs),(1,.lit (.func (.func 151) #[] #[.pointer (some ⟨u,0,none⟩)])),(6,bG gs),(7,iN gs.length),(8,iN i)],[(1000,(u,sV a))]⟩) (fun (i:Nat)=>i<=gs.length/\∀ j,j<i->((gs.getD j ⟨[],[],0⟩).na.contains a)=false) (fun (i:Nat)=>gs.length-i) (fun (i:Nat)=>.q 1<|.br (.q 2<|.r 5 [fa ((gs.getD i (⟨[],[],0⟩:l4)).na) ((gs.getD i (⟨[],[],0⟩:l4)).ru) ((gs.getD i (⟨[],[],0⟩:l4)).wa)]<|.c (zF (gs.getD i (⟨[],[],0⟩:l4)) a u) [(1000,1000)]<|.br (.q 2<|.nil) (.q 2<|.nil)) (.q 1<|.nil)))
  ((fun v1:V=>((∃ j7:Nat,(j7<=gs.length/\∀ j,j<j7->((gs.getD j ⟨[],[],0⟩).na.contains a)=false)/\E (bG gs)/\E v1/\E (bG gs)/\Q (iN ((gs.map cq).length)) (iN gs.length)/\Q (iN 0) (iN j7)/\Er u (sV a)/\True)/\∀ i:Nat,(i<=gs.length/\∀ j,j<i->((gs.getD j ⟨[],[],0⟩).na.contains a)=false)->Br (r8 (i:Int) (gs.length:Int)) (Ex (i:Int) (gs.map cq) (fa ((gs.getD i (⟨[],[],0⟩:l4)).na) ((gs.getD i (⟨[],[],0⟩:l4)).ru) ((gs.getD i (⟨[],[],0⟩:l4)).wa))/\True/\(zF (gs.getD i (⟨[],[],0⟩:l4)) a u).sm/\Er u (sV a)/\(((gs.getD i (⟨[],[],0⟩:l4)).na.length<=1000000))/\Br ((gs.getD i (⟨[],[],0⟩:l4)).na.contains a) (Q (iN i) (iV (bZ (gs.map fun y=>y.na.contains a) true))/\Er u (sV a)) (m8 ((i:Int)+1)/\∃ c9:Nat,(c9<=gs.length/\∀ j,j<c9->((gs.getD j ⟨[],[],0⟩).na.contains a)=false)/\(gs.length-c9<gs.length-i)/\E (bG gs)/\E v1/\E (bG gs)/\E (iN gs.length)/\Q (iN (i+1)) (iN c9)/\Er u (sV a)/\True)) (Q (iV (-1)) (iV (bZ (gs.map fun y=>y.na.contains a) true))/\Er u (sV a)))) (.lit (.func (.func 151) #[] #[.pointer (some ⟨u,0,none⟩)]))) ?_
 refine⟨⟨0,?_,rfl,rfl,rfl,Zaf,rfl,rfl,trivial⟩,?_⟩
 simp
 rintro i ⟨h1,h2⟩
 have hni:=hn i
 refine bI (fun l3=>?_) fun l3=>?_
 refine⟨⟨Zaa,aq (d:=(⟨[],[],0⟩:l4)) Zaa⟩,trivial,rfl,rfl,hn i,?_⟩
 refine bI (fun l6=>?_) fun l6=>?_
 refine⟨?_,rfl⟩
 unfold Q
 rw[jv (i:=i) (by rw[Zaw];omega) (by rw[Io Zaa];exact l6) (fun j hj=>by rw[Io Zaa];rw[h2 j hj];decide)]
 refine⟨Zaa,?_⟩
 refine⟨i+1,?_,?_,rfl,rfl,rfl,rfl,rfl,rfl,trivial⟩
 exact⟨Zaa,bJ h2 l6⟩
 exact Zai
 refine⟨?_,rfl⟩
 unfold Q
 rw[iJ (fun j hj=>by rw[Zaw]at hj;rw[Io hj];rw[h2 j Zaa];decide)])
def CG(gs:List l4)(a:BL)(u:Nat):o6 Tryz.prog:=.mk 152 [bG gs,.lit (.func (.func 151) #[] #[.pointer (some ⟨u,0,none⟩)])] [(1000,(u,sV a))] ((gs.length<=1000000)/\(∀ i,(gs.getD i ⟨[],[],0⟩).na.length<=1000000)) (bV (gs.any fun y=>y.na.contains a)) [(1000,(u,sV a))] (by
 rintro⟨hg,hn⟩
 refine aB (N:=9) (rs:=[.tmp 4]) Tryz.func152
  (.q 1<|.q 2<|.c (CC gs a u) [(1000,1000)]<|.q 2<|.nil)
  ((CC gs a u).sm/\Er u (sV a)/\((gs.length<=1000000)/\(∀ i,(gs.getD i ⟨[],[],0⟩).na.length<=1000000))/\Q (bV (A8 (bZ (gs.map fun y=>y.na.contains a) true) 0)) (bV (gs.any fun y=>y.na.contains a))/\Er u (sV a)) ?_
 refine⟨rfl,rfl,⟨Zae,Zae⟩,?_⟩
 refine⟨?_,rfl⟩
 unfold Q
 refine Zbk bV ?_
 show decide (bZ (gs.map fun y=>y.na.contains a) true>=0)=_
 rw[show decide (bZ (gs.map fun y=>y.na.contains a) true>=0)=(gs.map fun y=>y.na.contains a).contains true from jf _ _]
 rw[Za4];simp)
def zN(a:BL):I2 Tryz.prog:=.mk Nat 150 [sV a] [] True (fun x=>True) (fun x=>.lit (.func (.func 151) #[] #[.pointer (some ⟨x,0,none⟩)])) (fun x=>[(1000,(x,sV a))]) (by
 intro _
 refine fY (N:=4) (rs:=[.tmp 2]) (X:=Nat) (post:=fun x=>True) (E:=fun x=>.lit (.func (.func 151) #[] #[.pointer (some ⟨x,0,none⟩)])) (H':=fun x=>[(1000,(x,sV a))]) Tryz.func150 Zac rfl rfl rfl Zac [(1000,(0,.b9))] (by intro _ k hk;simpa[lk] using hk)
  (.bx (fun g1=>.q 1<|.cu UH (fun _=>.q 1<|.h (.rk 1 1000)<|.nil)))
  (∀ g1:Nat,((Value.func (.func 151) #[] #[.pointer (some ⟨g1,0,none⟩)]).oneCell'=true)/\∀ _:Unit,∃ x:Nat,(True)/\Q (.lit (.func (.func 151) #[] #[.pointer (some ⟨g1,0,none⟩)])) (.lit (.func (.func 151) #[] #[.pointer (some ⟨x,0,none⟩)]))/\Qr g1 (sV a) x (sV a))
  Zac ?_
 intro g1
 refine⟨rfl,?_⟩
 intro _
 refine⟨g1,?_,?_,?_⟩
 · try dsimp only
   all_goals trivial
 first | rfl | simp_all
 first | rfl | exact⟨rfl,rfl⟩ | simp_all)
theorem Bs{w:List Pg}{n p:BL}(h1:ai w=true)(h2:aZ n=true):((aC p).isSome&&av (bC (ae w (ag (oA (aC p)).b7) 2).1 (ae w (ag (oA (aC p)).b7) 2).2 n).ru (if aO (oA (aC p))=true then bz (oA (aC p)) else []))=dj w n p:=by
 unfold dj
 rw[h1,h2]
 cases h:(aC p).isSome with
 | false=>rfl
 | true=>
   have h3:=gX h
   rw[if_pos h3]
   have h4:cW (oA (aC p)).b7=true:=by
    unfold aO at h3
    simp only[Zam]at h3
    exact h3.1.1.1.1.1
   rw[show lM w (oA (aC p)).b7 n=_ from if_pos ⟨h1,h4,h2⟩]
   simp
abbrev pG(gs:List l4)(n:BL):V:=lx (.sl false ([n].map sV)) ((eU gs n).ru) ((eU gs n).wa)
def mb(gs:List l4)(n:BL):o6 Tryz.prog:=.mk 125 [bG gs,sV n] [] ((gs.length<=1000)/\(∀ i,(gs.getD i ⟨[],[],0⟩).ru.length<=100)/\(∀ i,(gs.getD i ⟨[],[],0⟩).na.length<=1000000)) (pG gs n) [] (by
 rintro⟨hg,hr,ha⟩
 refine aB (N:=45) (rs:=[.cell 4 69]) Tryz.func125
  (.al lp (fun g4=>.q 1<|.q 2<|.q 3<|.cx (zN n) [(1000,14)] (fun (m9:Nat)=>.c (CG gs n m9) [(1000,14)]<|.q 1<|.join BL (fun d=>⟨[(0,bG gs),(1,sV n),(4,.ptr (.key 4) [] g4 0),(5,.lit (.func (.func 150) #[] #[])),(10,sV n),(11,bG gs),(12,.lit (.func (.func 150) #[] #[])),(13,sV n),(14,.lit (.func (.func 151) #[] #[.pointer (some ⟨m9,0,none⟩)])),(15,bV (gs.any fun y=>y.na.contains n)),(16,bV (!(gs.any fun y=>y.na.contains n))),(6,sV d)],[(4,(g4,.agg [.sl true [],.sl true [],iN 0])),(14,(m9,sV n))]⟩) (fun d=>d=lY gs n) (.q 1<|.nil) (.nil) (fun d=>.q 1<|.bs<|.bd lp<|.al lp (fun g7=>.st none<|.q 3<|.h (.B3 (.key 7) [1] 2)<|.loop (Nat×(List r7)×Nat×Nat×Nat×Nat) (fun (i,e,q,u,f,k)=>⟨[(4,.ptr (.key 4) [] g4 0),(5,.lit (.func (.func 150) #[] #[])),(6,sV d),(7,.ptr (.key 7) [] g7 0),(20,bG gs),(21,iN gs.length),(22,iN i)],[(4,(g4,.agg [.sl true [],.sl true [],iN 0])),(7,(g7,.agg [.sl true [sV n],.own 2 (e.map aD) u f k,iN q]))]⟩) (fun (i,e,q,u,f,k)=>i<=gs.length/\((gs.take i).foldl (bR d) (([],0),false)).1=(e,q)/\e.length<=100*i) (fun (i,e,q,u,f,k)=>gs.length-i) (fun (i,e,q,u,f,k)=>.q 1<|.br (.r 2 [fa ((gs.getD i (⟨[],[],0⟩:l4)).na) ((gs.getD i (⟨[],[],0⟩:l4)).ru) ((gs.getD i (⟨[],[],0⟩:l4)).wa)]<|.al lp (fun g9=>.st none<|.dx 4 [0,1,3,2] [(3,⟨false,[],some [9],[29],[]⟩),(2,⟨true,[],some [28],[28],[28]⟩)] []<|.q 1<|.q 1<|.r 1 [.b9]<|.cx (zN d) [(1000,28)] (fun (Sw:Nat)=>.c (zF (gs.getD i (⟨[],[],0⟩:l4)) d Sw) [(1000,28)]<|.br (.r 4 [.b9,.b9]<|.ap (fun Sj Sd Sp=>.h (.n8 35 (.own 2 ((e++((gs.getD i (⟨[],[],0⟩:l4)).ru)).map aD) Sj Sd Sp))<|.q 1<|.st none<|.r 4 [.b9,.b9]<|.mm<|.q 1<|.st none<|.h (.C7 7 (.agg [.sl true [sV n],.own 2 ((e++((gs.getD i (⟨[],[],0⟩:l4)).ru)).map aD) Sj Sd Sp,iN (max q (gs.getD i ⟨[],[],0⟩).wa)]))<|.q 2<|.nil)) (.q 2<|.nil)))) (.mv<|.h (.fz 44)<|.h (.n8 44 (lx (.sl true [sV n]) e q))<|.st none<|.nil)))))))
  ((fun v1:V=>(fun v2:V=>(∀ g4:Nat,(fun v3:V=>(zN n).sm/\(True)/\∀ m9:Nat,(True)->(fun v4:V=>(CG gs n m9).sm/\Er m9 (sV n)/\((gs.length<=1000000)/\(∀ i,(gs.getD i ⟨[],[],0⟩).na.length<=1000000))/\((!(gs.any fun y=>y.na.contains n))=true->∃ d:BL,(d=lY gs n)/\E (bG gs)/\E (sV n)/\E v3/\E v1/\E (sV n)/\E (bG gs)/\E v1/\E (sV n)/\E v4/\E (bV (gs.any fun y=>y.na.contains n))/\E (bV (!(gs.any fun y=>y.na.contains n)))/\Q (sV ([42]:BL)) (sV d)/\Er g4 v2/\Er m9 (sV n)/\True)/\((!(gs.any fun y=>y.na.contains n))=false->∃ d:BL,(d=lY gs n)/\E (bG gs)/\E (sV n)/\E v3/\E v1/\E (sV n)/\E (bG gs)/\E v1/\E (sV n)/\E v4/\E (bV (gs.any fun y=>y.na.contains n))/\E (bV (!(gs.any fun y=>y.na.contains n)))/\Q (sV n) (sV d)/\Er g4 v2/\Er m9 (sV n)/\True)/\(∀ d:BL,(d=lY gs n)->∀ g7:Nat,Z g7 0/\(∃ x:Nat×(List r7)×Nat×Nat×Nat×Nat,match x with | (j7,E8,B9,J7,B8,s7)=>(j7<=gs.length/\((gs.take j7).foldl (bR d) (([],0),false)).1=(E8,B9)/\E8.length<=100*j7)/\E v3/\E v1/\E (sV d)/\E (.ptr (.key 7) [] g7 0)/\E (bG gs)/\Q (iN ((gs.map cq).length)) (iN gs.length)/\Q (iN 0) (iN j7)/\Er g4 v2/\Qr g7 (.agg [.sl true [sV n],.own 2 ([].map aD) 0 0 0,iN 0]) g7 (.agg [.sl true [sV n],.own 2 (E8.map aD) J7 B8 s7,iN B9])/\True)/\∀ x:Nat×(List r7)×Nat×Nat×Nat×Nat,match x with | (i,e,q,u,f,k)=>(i<=gs.length/\((gs.take i).foldl (bR d) (([],0),false)).1=(e,q)/\e.length<=100*i)->Br (r8 (i:Int) (gs.length:Int)) (Ex (i:Int) (gs.map cq) (fa ((gs.getD i (⟨[],[],0⟩:l4)).na) ((gs.getD i (⟨[],[],0⟩:l4)).ru) ((gs.getD i (⟨[],[],0⟩:l4)).wa))/\True/\∀ g9:Nat,Z g9 0/\Z g9 0/\(zN d).sm/\(True)/\∀ Sw:Nat,(True)->(zF (gs.getD i (⟨[],[],0⟩:l4)) d Sw).sm/\Er Sw (sV d)/\(((gs.getD i (⟨[],[],0⟩:l4)).na.length<=1000000))/\Br ((gs.getD i (⟨[],[],0⟩:l4)).na.contains d) (Z g7 1/\Z g9 1/\((2,2,u,f,k,(e.map aD).length)=(2,2,u,f,k,(e.map aD).length))/\(True)/\(V.aK (((gs.getD i (⟨[],[],0⟩:l4)).ru).map aD)=false)/\(aM 2 (((gs.getD i (⟨[],[],0⟩:l4)).ru).map aD))/\(((e.map aD).length+(((gs.getD i (⟨[],[],0⟩:l4)).ru).map aD).length)*24<=140737488355328)/\∀ Sj Sd Sp:Nat,((.own 2 ((e.map aD)++(((gs.getD i (⟨[],[],0⟩:l4)).ru).map aD)) Sj Sd Sp:V)=.own 2 ((e++((gs.getD i (⟨[],[],0⟩:l4)).ru)).map aD) Sj Sd Sp)/\Z g7 1/\Z g7 2/\Z g9 2/\(IntKind.i64=IntKind.i64)/\Z g7 2/\((.agg [.sl true [sV n],.own 2 ((e++((gs.getD i (⟨[],[],0⟩:l4)).ru)).map aD) Sj Sd Sp,iV (max (q:Int) (((gs.getD i (⟨[],[],0⟩:l4)).wa:Nat):Int))]:V)=.agg [.sl true [sV n],.own 2 ((e++((gs.getD i (⟨[],[],0⟩:l4)).ru)).map aD) Sj Sd Sp,iN (max q (gs.getD i ⟨[],[],0⟩).wa)])/\m8 ((i:Int)+1)/\∃ x:Nat×(List r7)×Nat×Nat×Nat×Nat,match x with | (c9,z8,o9,D0,r9,k₂)=>(c9<=gs.length/\((gs.take c9).foldl (bR d) (([],0),false)).1=(z8,o9)/\z8.length<=100*c9)/\(gs.length-c9<gs.length-i)/\E v3/\E v1/\E (sV d)/\E (.ptr (.key 7) [] g7 0)/\E (bG gs)/\E (iN gs.length)/\Q (iN (i+1)) (iN c9)/\Er g4 v2/\Qr g7 (.agg [.sl true [sV n],.own 2 ((e++((gs.getD i (⟨[],[],0⟩:l4)).ru)).map aD) Sj Sd Sp,iN (max q (gs.getD i ⟨[],[],0⟩).wa)]) g7 (.agg [.sl true [sV n],.own 2 (z8.map aD) D0 r9 k₂,iN o9])/\True) (m8 ((i:Int)+1)/\∃ x:Nat×(List r7)×Nat×Nat×Nat×Nat,match x with | (c9,z8,o9,D0,r9,k₂)=>(c9<=gs.length/\((gs.take c9).foldl (bR d) (([],0),false)).1=(z8,o9)/\z8.length<=100*c9)/\(gs.length-c9<gs.length-i)/\E v3/\E v1/\E (sV d)/\E (.ptr (.key 7) [] g7 0)/\E (bG gs)/\E (iN gs.length)/\Q (iN (i+1)) (iN c9)/\Er g4 v2/\Qr g7 (.agg [.sl true [sV n],.own 2 (e.map aD) u f k,iN q]) g7 (.agg [.sl true [sV n],.own 2 (z8.map aD) D0 r9 k₂,iN o9])/\True)) (Z g7 0/\((.agg [.sl true [sV n],.sl false (V.C8 (e.map aD)),iN q]:V)=lx (.sl true [sV n]) e q)/\Z g4 0/\(g4=g4)/\Q (lx (.sl false [sV n]) e q) (pG gs n)))) (.lit (.func (.func 151) #[] #[.pointer (some ⟨m9,0,none⟩)]))) (.ptr (.key 4) [] g4 0))) (.agg [.sl true [],.sl true [],iN 0])) (.lit (.func (.func 150) #[] #[]))) ?_
 intro g4
 refine⟨rfl,trivial,?_⟩
 intro m9 Xr
 refine⟨rfl,rfl,⟨Zaa,ha⟩,?_⟩
 refine⟨fun l3=>?_,fun l3=>?_,fun d hd=>?_⟩
 try simp only[nb]at l3
 exact⟨([42]:BL),by unfold lY;rw[l3];rfl,rfl,rfl,rfl,rfl,rfl,rfl,rfl,rfl,rfl,rfl,rfl,rfl,rfl,rfl,trivial⟩
 try simp only[nb]at l3
 exact⟨n,by unfold lY;rw[l3];rfl,rfl,rfl,rfl,rfl,rfl,rfl,rfl,rfl,rfl,rfl,rfl,rfl,rfl,rfl,trivial⟩
 intro g7
 refine⟨rfl,?_⟩
 refine⟨⟨(0,[],0,0,0,0),?_,rfl,rfl,rfl,rfl,rfl,Zaf,rfl,rfl,rfl,trivial⟩,?_⟩
 simp
 rintro⟨i,e,q,u,f,k⟩ ⟨h1,h2,h3⟩
 have hai:=ha i
 refine bI (fun l6=>?_) fun l6=>?_
 refine⟨⟨Zaa,aq (d:=(⟨[],[],0⟩:l4)) Zaa⟩,trivial,?_⟩
 intro g9
 refine⟨rfl,rfl,rfl,trivial,?_⟩
 intro Sw Z8
 refine⟨rfl,rfl,ha i,?_⟩
 refine bI (fun n0=>?_) fun n0=>?_
 refine⟨rfl,rfl,rfl,trivial,(cP (f:=aD) (fun _=>rfl) _),(dY (f:=aD) (fun _=>rfl) _),by(try simp only[Zaw,Zap,Zas]);have:=hr i;omega,?_⟩
 intro Sj Sd Sp
 refine⟨Zbk (V.own 2 · Sj Sd Sp) ((Za9 ..).symm),rfl,rfl,rfl,rfl,rfl,Zbk (fun z:Int=>(.agg [.sl true [sV n],.own 2 ((e++((gs.getD i (⟨[],[],0⟩:l4)).ru)).map aD) Sj Sd Sp,iV z]:V)) Zaa,Zaa,?_⟩
 refine⟨(i+1,e++((gs.getD i (⟨[],[],0⟩:l4)).ru),max q (gs.getD i ⟨[],[],0⟩).wa,Sj,Sd,Sp),?_,?_,rfl,rfl,rfl,rfl,rfl,rfl,rfl,rfl,rfl,trivial⟩
 have:=hr i
 refine⟨Zaa,?_,by simp only[Zan];omega⟩
 rw[foldl_succ (d:=⟨[],[],0⟩) Zaa,Bl,if_pos n0,h2]
 exact Zai
 refine⟨Zaa,?_⟩
 refine⟨(i+1,e,q,u,f,k),?_,?_,rfl,rfl,rfl,rfl,rfl,rfl,rfl,rfl,rfl,trivial⟩
 refine⟨Zaa,?_,Zaa⟩
 rw[foldl_succ (d:=⟨[],[],0⟩) Zaa,Bl,if_neg (by rw[n0];decide),h2]
 exact Zai
 refine⟨rfl,by simp only[aT (f:=aD) (fun _=>rfl)],rfl,?_⟩
 refine⟨rfl,?_⟩
 unfold Q pG
 rw[Zax Zaa]at h2
 have hfa:=Ej gs n
 rw[hfa.1,hfa.2,<- hd,h2]
 rfl)
abbrev kA(w:List Pg)(d:BL)(n:BL):V:=lx (.sl false ([n].map sV)) ((bC (ae w (ag d) 2).1 (ae w (ag d) 2).2 n).ru) ((bC (ae w (ag d) 2).1 (ae w (ag d) 2).2 n).wa)
def pQ(w:List Pg)(d:BL)(n:BL):o6 Tryz.prog:=.mk 101 [.mp (w.map F8),sV d,sV n] [] ((d.length<=1000)/\((ae w (ag d) 2).2.length<=1000000)) (kA w d n) [] (by
 rintro⟨hd,ht⟩
 refine aB (N:=32) (rs:=[.cell 6 69]) Tryz.func101
  (.al lp (fun g6=>.q 2<|.c (dP d) []<|.c (jP w (ag d)) []<|.q 5<|.q 1<|.q 2<|.br (.q 1<|.c (sJ ((ae w (ag d) 2).2)) []<|.h (.fz 20)<|.h (.n8 20 (bG (ct ((ae w (ag d) 2).2))))<|.q 1<|.c (mb (ct ((ae w (ag d) 2).2)) n) []<|.st none<|.nil) (.q 2<|.br (.q 1<|.bs<|.bd wz<|.bs<|.bd lp<|.st none<|.nil) (.q 1<|.c (mb ([]:List l4) n) []<|.st none<|.nil))))
  ((fun v1:Int×BL=>(fun v2:List l4=>(∀ g6:Nat,(dP d).sm/\((d.length<=4000000000000000000))/\(jP w (ag d)).sm/\(True)/\Br (r6 (v1.1) 1) ((sJ (v1.2)).sm/\(((v1.2).length<=1000000))/\((.sl false (V.C8 ((ct (v1.2)).map bh)):V)=bG (ct (v1.2)))/\(mb (ct (v1.2)) n).sm/\(((ct (v1.2)).length<=1000)/\(∀ i,((ct (v1.2)).getD i ⟨[],[],0⟩).ru.length<=100)/\(∀ i,((ct (v1.2)).getD i ⟨[],[],0⟩).na.length<=1000000))/\Z g6 0/\(g6=g6)/\Q (lx (.sl false ([n].map sV)) ((eU (ct (v1.2)) n).ru) ((eU (ct (v1.2)) n).wa)) (kA w d n)) (Br (r6 (v1.1) 3) (Z g6 0/\(g6=g6)/\Q (.agg [.sl false [sV n],.sl false [.agg [bV false,sV ([47]:BL)]],iN 0]) (kA w d n)) ((mb v2 n).sm/\((v2.length<=1000)/\(∀ i,(v2.getD i ⟨[],[],0⟩).ru.length<=100)/\(∀ i,(v2.getD i ⟨[],[],0⟩).na.length<=1000000))/\Z g6 0/\(g6=g6)/\Q (lx (.sl false ([n].map sV)) ((eU v2 n).ru) ((eU v2 n).wa)) (kA w d n))))) ([]:List l4)) (ae w (ag d) 2)) ?_
 intro g6
 refine⟨rfl,Zaa,rfl,trivial,?_⟩
 refine bI (fun l3=>?_) fun l3=>?_
 refine⟨rfl,ht,Zbk (V.sl false) (Bw _),rfl,⟨by have:=(pR (ae w (ag d) 2).2).len;omega,fun i=>((pR (ae w (ag d) 2).2).ru i).1,fun i=>by have:=((pR (ae w (ag d) 2).2).ru i).2;omega⟩,rfl,?_⟩
 refine⟨rfl,?_⟩
 unfold Q kA
 rw[show bC (ae w (ag d) 2).1 (ae w (ag d) 2).2 n=eU (ct (ae w (ag d) 2).2) n from by rw[bC,if_pos l3]]
 refine bI (fun l6=>?_) fun l6=>?_
 refine⟨rfl,?_⟩
 refine⟨rfl,?_⟩
 unfold Q kA
 rw[show bC (ae w (ag d) 2).1 (ae w (ag d) 2).2 n=_ from by rw[bC,if_neg l3,if_pos l6]]
 rfl
 refine⟨rfl,⟨Zab,Zab,Zab⟩,rfl,?_⟩
 refine⟨rfl,?_⟩
 unfold Q kA
 rw[show bC (ae w (ag d) 2).1 (ae w (ag d) 2).2 n=_ from by rw[bC,if_neg l3,if_neg l6]])
abbrev Bn(w:List Pg)(n:BL)(a:s4):V:=bV (av (bC (ae w (ag a.b7) 2).1 (ae w (ag a.b7) 2).2 n).ru (if aO a=true then bz a else []))
def Gx(w:List Pg)(n:BL)(a:s4):o6 Tryz.prog:=.mk 70 [.mp (w.map F8),sV n,cb a.b7 a.e9 a.asks a.ask] [] ((dm a)/\((ae w (ag a.b7) 2).2.length<=1000000)) (Bn w n a) [] (by
 rintro⟨ha,ht⟩
 have hpa:=ha.path
 refine aB (N:=16) (rs:=[.tmp 6]) Tryz.func70
  (.bx (fun g5=>.q 1<|.dx 9 [0,1,2,3,4,5,6,7,8] [(2,⟨false,[],some [5],[9],[]⟩),(6,⟨false,[],some [5],[13],[]⟩)] []<|.q 1<|.q 1<|.r 1 [.b9]<|.q 1<|.c (pQ w a.b7 n) []<|.q 1<|.r 1 [.b9]<|.c (kX a) []<|.c (jN ((bC (ae w (ag a.b7) 2).1 (ae w (ag a.b7) 2).2 n).ru) (if aO a=true then bz a else [])) []<|.q 1<|.nil))
  ((fun v1:l4=>(∀ g5:Nat,Z g5 0/\(pQ w a.b7 n).sm/\((a.b7.length<=1000)/\((ae w (ag a.b7) 2).2.length<=1000000))/\Z g5 0/\(kX a).sm/\((dm a))/\(jN (v1.ru) (if aO a=true then bz a else [])).sm/\(((v1.ru).length<=1000000)/\(∀ i,((v1.ru).getD i ⟨false,[]⟩).path.length<=1000000)/\((if aO a=true then bz a else []).length<=1000000))/\Q (bV (av (v1.ru) (if aO a=true then bz a else []))) (Bn w n a))) (bC (ae w (ag a.b7) 2).1 (ae w (ag a.b7) 2).2 n)) ?_
 intro g5
 refine⟨rfl,rfl,⟨ha.1,ht⟩,rfl,rfl,ha,rfl,⟨by have:=(qN (ae w (ag a.b7) 2).1 (ae w (ag a.b7) 2).2 n).1;omega,fun i=>sC (p:=fun r:r7=>r.path.length<=1000000) (fun r hr=>by have:=(qN (ae w (ag a.b7) 2).1 (ae w (ag a.b7) 2).2 n).2 r hr;omega) Zab i,by split <;> (try simp) <;> omega⟩,?_⟩
 unfold Q Bn
 rfl)
def fy(t:BL)(x:List BL×Bool×Nat)(i:Nat):List BL×Bool×Nat:=
 if 0<x.2.2/\t.getD i 0=62 then (x.1++[(t.take i).drop (x.2.2-1)],x.2.1,0)
 else if 0<x.2.2 then x
 else if x.2.1=true then (x.1,!(t.getD i 0==41),0)
 else if t.getD i 0=40 then (x.1,true,0)
 else if t.getD i 0=60 then (x.1,false,i+2) else x
def eL(t:BL):Nat->List BL×Bool×Nat
 | 0=>([],false,0)
 | i+1=>fy t (eL t i) i
def aY(t:BL):List BL:=if t.length<=300 then (eL t t.length).1 else []
structure ZS (t:BL) (i:Nat) (x:List BL×Bool×Nat):Prop where
 len:x.1.length<=i
 each:∀ m,m∈x.1->m.length<=t.length/\∀ c,c∈m->c∈t
 pos:x.2.2<=i+1
 one:0<x.2.2->x.2.1=false
theorem KD{t:BL}{i:Nat}{x:List BL×Bool×Nat}(h:ZS t i x):ZS t (i+1) (fy t x i):=by
 obtain⟨h1,h2,h3,h4⟩:=h
 unfold fy
 split
 rename_i hc
 refine⟨Zaj,fun m hm=>?_,Zab,fun hc=>by simp at hc⟩
 rcases Zav.1 hm with hm | hm
 exact h2 m hm
 rw[Zat.1 hm]
 exact⟨Zaj,fun c hc=>List.mem_of_mem_take (List.mem_of_mem_drop hc)⟩
 split
 exact⟨Zaa,h2,Zaa,h4⟩
 split
 exact⟨Zaj,h2,Zab,fun hc=>by simp at hc⟩
 split
 exact⟨Zaj,h2,Zab,fun hc=>by simp at hc⟩
 split
 exact⟨Zaj,h2,Zab,fun _=>rfl⟩
 exact⟨Zaa,h2,Zaa,h4⟩
theorem yi(t:BL):∀ i,ZS t i (eL t i)
 | 0=>⟨by simp[eL],by simp[eL],by simp[eL],by simp[eL]⟩
 | i+1=>KD (yi t i)
theorem sj(t:BL):(aY t).length<=300/\∀ m,m∈aY t->m.length<=300/\∀ c,c∈m->c∈t:=by
 unfold aY
 split
 rename_i h
 have hb:=yi t t.length
 exact⟨by have:=hb.len;omega,fun m hm=>⟨by have:=(hb.each m hm).1;omega,(hb.each m hm).2⟩⟩
 exact⟨Zab,fun m hm=>by simp at hm⟩
def fJ(s:BL):UInt8:=s.getD 0 0
def mB(m:BL):Bool:=!(fJ m==33)&&!(fJ m==64)
def bB(t:BL):List BL:=(aY t).filter mB
def dn(t:BL):Option BL:=((aY t).find? fun m=>fJ m==64).map (·.drop 1)
theorem vE(t:BL):(bB t).length<=300/\∀ m,m∈bB t->m.length<=300/\∀ c,c∈m->c∈t:=by
 have h:=sj t
 exact⟨by have:=List.length_filter_le mB (aY t);unfold bB;omega,fun m hm=>h.2 m (List.mem_filter.1 hm).1⟩
theorem Df{t r:BL}(h:dn t=some r):r.length<=300/\∀ c,c∈r->c∈t:=by
 unfold dn at h
 cases e:(aY t).find? fun m=>fJ m==64 with
 | none=>rw[e]at h;cases h
 | some m=>
   rw[e]at h
   obtain rfl:=Option.some.inj h
   have:=(sj t).2 m (List.mem_of_find?_eq_some e)
   exact⟨Zaj,fun c hc=>this.2 c (List.mem_of_mem_drop hc)⟩
theorem Da{α:Type}{p:α->Bool}{d:α}:∀ {l:List α} {i:Nat},i<l.length->p (l.getD i d)=true->(∀ j,j<i->p (l.getD j d)=false)->l.find? p=some (l.getD i d)
 | [],_,h,_,_=>by simp at h
 | x::r,0,_,h,_=>by simp at h;simp[h]
 | x::r,i+1,hl,h,hn=>by
   have h0:=hn 0 Zaa
   simp at h0
   rw[List.find?_cons_of_neg (by simpa using h0)]
   have:=Da (l:=r) (i:=i) (d:=d) (by simpa using hl) (by simpa using h) (fun j hj=>by have:=hn (j+1) Zaa;simpa using this)
   simpa using this
theorem KS{α:Type}{p:α->Bool}{d:α}{l:List α}(h:∀ j,j<l.length->p (l.getD j d)=false):l.find? p=none:=by
 rw[List.find?_eq_none]
 intro x hx
 obtain⟨j,hj,rfl⟩:=Zbe.1 hx
 have:=h j hj
 rw[Zak,Zar hj]at this
 simpa using this
def J9(a:s4)(ref:BL):Option s4:=
 if aO a=false\/60<ref.length then none
 else if 2<=(af 35 ref).1.length/\(af 35 ref).1.take 2=[47,47] then eh ((af 35 ref).1.drop 2)
 else if (af 35 ref).1=[] then some a
 else if fJ (af 35 ref).1=47 then cR a.b7 [] (af 35 ref).1
 else if fJ (af 35 ref).1=63 then cR a.b7 a.e9 (af 35 ref).1
 else cR a.b7 (a.e9.take (a.e9.length-1)) (af 35 ref).1
def iG(l:List BL)(s:BL):List BL:=if l.contains s=true then l else l++[s]
def jx(a:s4)(t:BL):s4:=match dn t with
 | some r=>(J9 a r).getD a
 | none=>a
def fp(b:s4)(o:List BL)(m:BL):List BL:=if (J9 b m).isSome=true then iG o (bY (oA (J9 b m))) else o
def bO(a:s4)(t:BL):List BL:=if aO a=true then (bB t).foldl (fp (jx a t)) [] else []
def ov(a:BL)(k:Int)(t:BL):List BL:=if k=1 then bO (oA (aC a)) t else if k=2 then [t] else []
def bc(w:List Pg)(a:BL):List BL:=if ai w=true/\aA a=true then ov a (ae w a 2).1 (ae w a 2).2 else []
theorem Fh{s:BL}(h:(eh s).isSome=true):aO (oA (eh s))=true:=qo h
theorem Ds{a:s4}{r:BL}(h:(J9 a r).isSome=true):aO (oA (J9 a r))=true:=by
 unfold J9 at h ⊢
 split
 rename_i hc;rw[if_pos hc]at h;cases h
 rename_i hc
 rw[if_neg hc]at h
 split
 rename_i h2;rw[if_pos h2]at h;exact Fh h
 rename_i h2
 rw[if_neg h2]at h
 split
 cases e:aO a with
 | true=>exact e
 | false=>exact absurd (.inl e) hc
 rename_i h3
 rw[if_neg h3]at h
 split
 rename_i h4;rw[if_pos h4]at h;exact qo h
 rename_i h4
 rw[if_neg h4]at h
 split
 rename_i h5;rw[if_pos h5]at h;exact qo h
 rename_i h5;rw[if_neg h5]at h;exact qo h
theorem NO(a:s4)(r:BL):dm (oA (J9 a r)):=by
 cases e:(J9 a r).isSome with
 | true=>exact tL (Ds e)
 | false=>
   rw[Option.isSome_eq_false_iff]at e
   rw[Option.isNone_iff_eq_none.1 e];exact sL
theorem GZ{a:s4}{t:BL}(h:aO a=true):aO (jx a t)=true:=by
 unfold jx
 split
 rename_i r _
 cases e:J9 a r with
 | none=>exact h
 | some x=>have:=Ds (a:=a) (r:=r) (by rw[e];rfl);rw[e]at this;exact this
 exact h
theorem dm.sz{a:s4}(h:dm a):eZ a:=⟨by have:=h.1;omega,by have:=h.2.1;omega,by have:=h.2.2.1;omega,fun i=>by have:=h.2.2.2 i;omega⟩
theorem Iz{a:s4}:(bY a).length<=60:=by
 unfold bY
 split
 rename_i h
 unfold aO at h
 simp only[Zam,Zbi]at h
 exact h.2
 simp
theorem JV{l:List BL}{s:BL}:(iG l s).length<=l.length+1:=by
 unfold iG
 split <;> simp
theorem uA{l:List BL}{s x:BL}:x∈iG l s↔x∈l\/x=s:=by
 unfold iG
 split
 rename_i h
 have h:s∈l:=by simpa using h
 exact⟨.inl,fun hx=>hx.elim id fun e=>e ▸ h⟩
 simp
theorem Cp{b:s4}:∀ (ls:List BL) {o:List BL},(ls.foldl (fp b) o).length<=o.length+ls.length/\((∀ m,m∈o->m.length<=60)->∀ m,m∈ls.foldl (fp b) o->m.length<=60)
 | [],o=>⟨Zab,fun h=>h⟩
 | l::ls,o=>by
   have ih:=Cp (b:=b) ls (o:=fp b o l)
   have h1:(fp b o l).length<=o.length+1:=by unfold fp;split;exact JV;omega
   refine⟨by simp only[List.foldl_cons,Zap];omega,fun h=>ih.2 fun m hm=>?_⟩
   unfold fp at hm
   split at hm
   rcases uA.1 hm with hm | rfl
   exact h m hm
   exact Iz
   exact h m hm
theorem xY(a:s4)(t:BL):(bO a t).length<=300/\∀ m,m∈bO a t->m.length<=60:=by
 unfold bO
 split
 have h:=Cp (b:=jx a t) (bB t) (o:=[])
 exact⟨by have:=(vE t).1;simp at h;omega,h.2 Zab⟩
 exact⟨Zab,Zab⟩
def dW(o:List BL)(s:BL):List BL:=if aA s=true then iG o s else o
def fh(seeds:List BL):List BL:=seeds.foldl dW []
def Qh(w:List Pg)(n a:BL):Prop:= ¬ ((ae w a 2).1=3\/dj w n a=false)
instance (w:List Pg) (n a:BL):Decidable (Qh w n a):=by unfold Qh;infer_instance
def gn(w:List Pg)(n:BL)(x:List BL×List BL)(i:Nat):List BL×List BL:=
 if Qh w n (x.1.getD i []) then ((bc w (x.1.getD i [])).foldl iG x.1,x.2++[x.1.getD i []]) else x
def rN(w:List Pg)(n:BL)(seeds:List BL):Nat->List BL×List BL
 | 0=>(fh seeds,[])
 | i+1=>gn w n (rN w n seeds i) i
def dN(w:List Pg)(n:BL)(seeds:List BL):List BL:=if ai w=true/\aZ n=true/\seeds.length<=12 then (rN w n seeds 5000).2 else []
theorem je{α:Type}[DecidableEq α]:∀ {l u:List α},l.Nodup->(∀ x,x∈l->x∈u)->l.length<=u.length
 | [],_,_,_=>by simp
 | x::r,u,hn,hs=>by
   have hx:=hs x Zab
   have PK:=List.nodup_cons.1 hn
   have h:=je (l:=r) (u:=u.erase x) PK.2 (fun y hy=>(List.mem_erase_of_ne (by rintro rfl;exact PK.1 hy)).2 (hs y (by simp[hy])))
   rw[List.length_erase_of_mem hx]at h
   have:=List.length_pos_of_mem hx
   simp only[Zap];omega
theorem yr{l:List BL}{s:BL}(h:l.Nodup):(iG l s).Nodup:=by
 unfold iG
 split
 exact h
 rename_i hc
 have hc:s ∉ l:=by simpa using hc
 rw[List.nodup_append]
 refine⟨h,Zab,fun a ha b hb=>?_⟩
 rw[Zat.1 hb]
 rintro rfl;exact hc ha
theorem wI:∀ (f:List BL) {l:List BL},l.Nodup->(f.foldl iG l).Nodup
 | [],_,h=>h
 | s::f,_,h=>wI f (yr h)
theorem sv:∀ (f:List BL) {l:List BL} {x:BL},x∈f.foldl iG l↔x∈l\/x∈f
 | [],_,_=>by simp
 | s::f,l,x=>by
   rw[List.foldl_cons,sv f,uA,List.mem_cons]
   constructor
   rintro ((h | h) | h)
   exact .inl h
   exact .inr (.inl h)
   exact .inr (.inr h)
   rintro (h | h | h)
   exact .inl (.inl h)
   exact .inl (.inr h)
   exact .inr h
theorem va:∀ (f:List BL) {l:List BL},∃ r,f.foldl iG l=l++r
 | [],l=>⟨[],Zab⟩
 | s::f,l=>by
   obtain⟨r,hr⟩:=va f (l:=iG l s)
   rw[List.foldl_cons]
   by_cases h:l.contains s=true
   exact⟨r,by rw[hr,show iG l s=l from if_pos h]⟩
   exact⟨s::r,by rw[hr,show iG l s=l++[s] from if_neg h];simp⟩
theorem uQ:∀ (f:List BL) {l:List BL},l.Nodup->(f.foldl dW l).Nodup
 | [],_,h=>h
 | s::f,_,h=>uQ f (by unfold dW;split;exact yr h;exact h)
theorem tK:∀ (f:List BL) {l:List BL} {x:BL},x∈f.foldl dW l↔x∈l\/(x∈f/\aA x=true)
 | [],_,_=>by simp
 | s::f,l,x=>by
   rw[List.foldl_cons,tK f,List.mem_cons]
   unfold dW
   split
   rename_i h
   rw[uA]
   constructor
   rintro ((h1 | rfl) | h1)
   exact .inl h1
   exact .inr ⟨.inl rfl,h⟩
   exact .inr ⟨.inr h1.1,h1.2⟩
   rintro (h1 | ⟨rfl | h1,h2⟩)
   exact .inl (.inl h1)
   exact .inl (.inr rfl)
   exact .inr ⟨h1,h2⟩
   rename_i h
   constructor
   rintro (h1 | h1)
   exact .inl h1
   exact .inr ⟨.inr h1.1,h1.2⟩
   rintro (h1 | ⟨rfl | h1,h2⟩)
   exact .inl h1
   exact absurd h2 h
   exact .inr ⟨h1,h2⟩
def AU(w:List Pg)(seeds:List BL):List BL:=seeds++(w.map fun p=>bc w p.addr).flatten
theorem IQ(a:BL)(k:Int)(t:BL):(ov a k t).length<=300:=by
 unfold ov
 split
 exact(xY _ _).1
 split <;> simp
theorem qe(w:List Pg)(a:BL):(bc w a).length<=300:=by
 unfold bc
 split
 exact IQ _ _ _
 simp
theorem AG{α:Type}{f:α->List BL}{n:Nat}(h:∀ a,(f a).length<=n):∀ l:List α,(l.map f).flatten.length<=n*l.length
 | []=>by simp
 | a::l=>by
   have:=AG h l
   have ha:=h a
   simp only[Zbc,List.flatten_cons,Zan,Zap,Nat.mul_add,Nat.mul_one]
   omega
theorem BT{w:List Pg}(h:ai w=true):w.length<=12:=by
 unfold ai at h
 simp only[Zam,Zbi]at h
 exact h.2
theorem Ju{w:List Pg}{seeds:List BL}(hw:ai w=true)(hs:seeds.length<=12):(AU w seeds).length<=3700:=by
 have:=AG (qe w ·.addr) w
 have:=BT hw
 unfold AU
 rw[Zan]
 omega
theorem at_mem{a:BL}:∀ {w:List Pg},(C5 w a).2=true->∃ p,p∈w/\p.addr=a/\(C5 w a).1=p
 | [],h=>by simp[C5]at h
 | p::r,h=>by
   unfold C5 at h ⊢
   split
   rename_i e;exact⟨p,Zab,by simpa using e,rfl⟩
   rename_i e
   rw[if_neg e]at h
   obtain⟨q,h1,h2,h3⟩:=at_mem h
   exact⟨q,by simp[h1],h2,h3⟩
theorem HR{w:List Pg}{a x:BL}(h:x∈bc w a):∃ p,p∈w/\p.addr=a:=by
 unfold bc at h
 split at h
 cases e:(C5 w a).2 with
 | true=>obtain⟨p,h1,h2,_⟩:=at_mem e;exact⟨p,h1,h2⟩
 | false=>
   rw[show ae w a 2=(0,[]) from if_pos e]at h
   simp[ov]at h
 simp at h
theorem FE{w:List Pg}{seeds:List BL}{a x:BL}(h:x∈bc w a):x∈AU w seeds:=by
 obtain⟨p,hp,rfl⟩:=HR h
 exact List.mem_append_right _ (List.mem_flatten.2 ⟨_,List.mem_map.2 ⟨p,hp,rfl⟩,h⟩)
theorem zW(w:List Pg)(n:BL)(seeds:List BL):∀ i,(rN w n seeds i).1.Nodup/\∀ x,x∈(rN w n seeds i).1->x∈AU w seeds
 | 0=>⟨uQ seeds Zab,fun x hx=>List.mem_append_left _ (by
    have:=(tK seeds).1 hx
    simp at this;exact this.1)⟩
 | i+1=>by
   obtain⟨h1,h2⟩:=zW w n seeds i
   show (gn w n (rN w n seeds i) i).1.Nodup/\∀ x,x∈(gn w n (rN w n seeds i) i).1->x∈AU w seeds
   revert h1 h2
   generalize rN w n seeds i=X
   intro h1 h2
   unfold gn
   split
   exact⟨wI _ h1,fun x hx=>((sv _).1 hx).elim (h2 x) FE⟩
   exact⟨h1,h2⟩
theorem wc{w:List Pg}{n:BL}{seeds:List BL}(hw:ai w=true)(hs:seeds.length<=12)(i:Nat):(rN w n seeds i).1.length<=3700:=
 Nat.le_trans (je (zW w n seeds i).1 (zW w n seeds i).2) (Ju hw hs)
theorem zP{w:List Pg}{n:BL}:dj w n []=false:=by
 unfold dj
 rw[show (aC []).isSome=false from by rw[show aC []=none from if_neg Zad];rfl]
 simp
theorem yn{w:List Pg}{n:BL}{x:List BL×List BL}{i:Nat}(h:x.1.length<=i):gn w n x i=x:=by
 unfold gn
 rw[show x.1.getD i []=[] from by rw[Zak,List.getElem?_eq_none h];rfl]
 exact if_neg (fun c=>c (.inr zP))
theorem xL{w:List Pg}{n:BL}{seeds:List BL}{i:Nat}(h:(rN w n seeds i).1.length<=i):∀ k,rN w n seeds (i+k)=rN w n seeds i
 | 0=>rfl
 | k+1=>by
   have e:=xL h k
   show gn w n (rN w n seeds (i+k)) (i+k)=_
   rw[e]
   exact yn Zaa
theorem Iq{w:List Pg}{n:BL}{seeds:List BL}{i:Nat}(hw:ai w=true)(hn:aZ n=true)(hs:seeds.length<=12)(hi:i<=5000)(h:(rN w n seeds i).1.length<=i):dN w n seeds=(rN w n seeds i).2:=by
 rw[show dN w n seeds=(rN w n seeds 5000).2 from if_pos ⟨hw,hn,hs⟩,show 5000=i+(5000-i) from Zaa,xL h]
section
variable {N:Nat} {A A' B:AS} {P:Program}
end
theorem Ly{l:List BL}{y:BL}{i:Nat}(h:i<l.length)(e:l.getD i []=y):l.contains y=true:=by
 rw[Zak,Zar h]at e
 simp only[Option.getD_some]at e
 simp only[List.contains_iff_mem]
 exact e ▸ List.getElem_mem h
theorem Mu{l:List BL}{y:BL}(h:∀ j,j<l.length->l.getD j []≠y):l.contains y=false:=by
 rw[Bool.eq_false_iff]
 simp only[ne_eq,List.contains_iff_mem]
 intro hm
 obtain⟨j,hj,e⟩:=Zbe.1 hm
 have:=h j hj
 rw[Zak,Zar hj]at this
 exact this e
theorem c8{c k:UInt8}(h:((c.toNat:Nat):Int)=((k.toNat:Nat):Int)):c=k:=UInt8.toNat_inj.1 Zaa
theorem Vk{c k:UInt8}(h: ¬ ((c.toNat:Nat):Int)=((k.toNat:Nat):Int)): ¬ c=k:=fun e=>h (by rw[e])
theorem b8{c k:UInt8}:(c==k)=(((c.toNat:Nat):Int)==((k.toNat:Nat):Int)):=by
 rw[Za4,Zbj,Zbj,<- UInt8.toNat_inj];omega
theorem NX{t:BL}{o:List BL}{r:Bool}{q i:Nat}(h:0<q)(e:t.getD i 0=62):fy t (o,r,q) i=(o++[(t.take i).drop (q-1)],r,0):=if_pos ⟨h,e⟩
theorem NW{t:BL}{o:List BL}{r:Bool}{q i:Nat}(h:0<q)(e: ¬ t.getD i 0=62):fy t (o,r,q) i=(o,r,q):=by
 unfold fy
 rw[if_neg (fun c=>e c.2),if_pos h]
theorem NY{t:BL}{o:List BL}{r:Bool}{i:Nat}(h:r=true):fy t (o,r,0) i=(o,!(t.getD i 0==41),0):=by
 unfold fy
 rw[if_neg (fun c=>absurd c.1 Zab),if_neg Zab,if_pos h]
theorem Nz{t:BL}{o:List BL}{r:Bool}{i:Nat}(h:r=false)(e:t.getD i 0=40):fy t (o,r,0) i=(o,true,0):=by
 unfold fy
 rw[if_neg (fun c=>absurd c.1 Zab),if_neg Zab,if_neg (by rw[h];exact Bool.false_ne_true),if_pos e]
theorem NV{t:BL}{o:List BL}{r:Bool}{i:Nat}(h:r=false)(e: ¬ t.getD i 0=40)(e2:t.getD i 0=60):fy t (o,r,0) i=(o,false,i+2):=by
 unfold fy
 rw[if_neg (fun c=>absurd c.1 Zab),if_neg Zab,if_neg (by rw[h];exact Bool.false_ne_true),if_neg e,if_pos e2]
theorem NF{t:BL}{o:List BL}{r:Bool}{i:Nat}(h:r=false)(e: ¬ t.getD i 0=40)(e2: ¬ t.getD i 0=60):fy t (o,r,0) i=(o,r,0):=by
 unfold fy
 rw[if_neg (fun c=>absurd c.1 Zab),if_neg Zab,if_neg (by rw[h];exact Bool.false_ne_true),if_neg e,if_neg e2]
theorem HA(t:BL):((dn t).getD []).length<=300:=by
 cases h:dn t with
 | none=>simp
 | some r=>exact(Df h).1
theorem La{l:List BL}{k m:Nat}(h:∀ i,(l.getD i []).length<=m):∀ i,((l.take k).getD i []).length<=m:=fun i=>by
 have:=h i
 rw[Zak]at this ⊢
 rw[List.getElem?_take]
 split
 exact this
 simp
theorem An{a:s4}{ref:BL}(h:aO a=true/\(ref.length:Int)<=60):J9 a ref=if 2<=(af 35 ref).1.length/\(af 35 ref).1.take 2=[47,47] then eh ((af 35 ref).1.drop 2)
 else if (af 35 ref).1=[] then some a
 else if fJ (af 35 ref).1=47 then cR a.b7 [] (af 35 ref).1
 else if fJ (af 35 ref).1=63 then cR a.b7 a.e9 (af 35 ref).1
 else cR a.b7 (a.e9.take (a.e9.length-1)) (af 35 ref).1:=by
 unfold J9
 rw[if_neg (by rintro (c | c);rw[h.1]at c;cases c;omega)]
theorem IX{s:BL}{k:UInt8}(h:(((s.getD 0 0).toNat:Nat):Int)=((k.toNat:Nat):Int)):fJ s=k:=UInt8.toNat_inj.1 (by unfold fJ;omega)
theorem DB{s:BL}{k:UInt8}(h: ¬ (((s.getD 0 0).toNat:Nat):Int)=((k.toNat:Nat):Int)): ¬ fJ s=k:=fun c=>h (by rw[<- c];rfl)
theorem xy{a:s4}{t:BL}(h:(dn t).isSome=true)(h2:(J9 a ((dn t).getD [])).isSome=true):oA (J9 a ((dn t).getD []))=jx a t:=by
 unfold jx
 cases e:dn t with
 | none=>rw[e]at h;cases h
 | some r=>
   rw[e]at h2
   simp only[Option.getD_some]at h2 ⊢
   cases e2:J9 a r with
   | none=>rw[e2]at h2;cases h2
   | some x=>rfl
theorem xR{a:s4}{t:BL}(h:(dn t).isSome=true)(h2:(J9 a ((dn t).getD [])).isSome=false):a=jx a t:=by
 unfold jx
 cases e:dn t with
 | none=>rfl
 | some r=>
   rw[e]at h2
   simp only[Option.getD_some]at h2 ⊢
   cases e2:J9 a r with
   | none=>rfl
   | some x=>rw[e2]at h2;cases h2
theorem xA{a:s4}{t:BL}(h:(dn t).isSome=false):a=jx a t:=by
 unfold jx
 cases e:dn t with
 | none=>rfl
 | some r=>rw[e]at h;cases h
def PR(r:Bool)(q:Nat):Int:=if 0<q then 1 else if r=true then 2 else 0
theorem Hm(r:Bool)(q:Nat):PR r q=0\/PR r q=1\/PR r q=2:=by
 unfold PR
 split
 exact .inr (.inl rfl)
 split
 exact .inr (.inr rfl)
 exact .inl rfl
theorem Mb{r:Bool}{q:Nat}(h:PR r q=1):0<q/\True:=by
 unfold PR at h
 split at h
 rename_i hc;exact⟨hc,trivial⟩
 split at h <;> omega
theorem NU{r:Bool}{q:Nat}(h:PR r q=2):q=0/\r=true:=by
 unfold PR at h
 split at h
 omega
 rename_i h1
 split at h
 rename_i h2;exact⟨Zaa,h2⟩
 omega
theorem NA{r:Bool}{q:Nat}(h:PR r q=0):q=0/\r=false:=by
 unfold PR at h
 split at h
 omega
 rename_i h1
 split at h
 omega
 rename_i h2;exact⟨Zaa,by simpa using h2⟩
theorem Lv{t:BL}{o:List BL}{r:Bool}{q i b:Nat}(hq:0<q)(hb:b+1=q):fy t (o,r,q) i=(if t.getD i 0=62 then o++[(t.take i).drop b] else o,r,if t.getD i 0=62 then 0 else q):=by
 by_cases h:t.getD i 0=62
 rw[NX hq h,if_pos h,if_pos h,show q-1=b from Zaa]
 rw[NW hq h,if_neg h,if_neg h]
theorem Mn{t:BL}{o:List BL}{i:Nat}:fy t (o,false,0) i=(o,t.getD i 0==40,if t.getD i 0=60 then i+2 else 0):=by
 by_cases h:t.getD i 0=40
 rw[Nz rfl h,if_neg (by rw[h];decide),h];rfl
 by_cases h2:t.getD i 0=60
 rw[NV rfl h h2,if_pos h2,h2];rfl
 rw[NF rfl h h2,if_neg h2,show (t.getD i 0==40)=false from by simpa using h]
theorem HC{c:UInt8}{r:Bool}{q:Nat}(hr:r=false)(hq:0<q):(if c=62 then (0:Int) else 1)=PR r (if c=62 then 0 else q):=by
 subst hr
 unfold PR
 by_cases h:c=62
 simp[h]
 simp[h,hq]
theorem Hy{c:UInt8}:(if c=41 then (0:Int) else 2)=PR (!(c==41)) 0:=by
 unfold PR
 by_cases h:c=41
 simp[h]
 simp[h]
theorem Il{c:UInt8}{i:Nat}:(if c=60 then (1:Int) else if c=40 then 2 else 0)=PR (c==40) (if c=60 then i+2 else 0):=by
 unfold PR
 by_cases h:c=60
 simp[h]
 by_cases h2:c=40
 simp[h2]
 simp[h,h2]
def CT(i:Nat)(c:UInt8)(u:Nat)(v:Nat)(s:Int)(b:Nat):o6 Tryz.prog:=.mk 175 [iN i,uN c.toNat,.ptr (.key 1000) [] u 0,.ptr (.key 1001) [] v 0] [(1000,(u,iV s)),(1001,(v,iN b))] (i<=1000) (.tup []) [(1000,(u,iV (if c=60 then 1 else if c=40 then 2 else s))),(1001,(v,iN (if c=60 then i+1 else b)))] (by
 intro hi
 refine aB (N:=13) (rs:=[]) Tryz.func175
  (.q 1<|.q 2<|.br (.q 2<|.st none<|.st none<|.nil) (.q 2<|.br (.st none<|.nil) (.nil)))
  (Br (r6 (c.toNat:Int) 60) (m8 ((i:Int)+1)/\Z u 0/\Z v 0/\Q (.tup []) (.tup [])/\Qr u (iN 1) u (iV (if c=60 then 1 else if c=40 then 2 else s))/\Qr v (iN (i+1)) v (iN (if c=60 then i+1 else b))) (Br (r6 (c.toNat:Int) 40) (Z u 0/\Q (.tup []) (.tup [])/\Qr u (iN 2) u (iV (if c=60 then 1 else if c=40 then 2 else s))/\Qr v (iN b) v (iN (if c=60 then i+1 else b))) (Q (.tup []) (.tup [])/\Qr u (iV s) u (iV (if c=60 then 1 else if c=40 then 2 else s))/\Qr v (iN b) v (iN (if c=60 then i+1 else b))))) ?_
 refine bI (fun l3=>?_) fun l3=>?_
 refine⟨Zaa,rfl,rfl,?_⟩
 refine⟨?_,by rw[if_pos (c8 (k:=60) l3)] <;> rfl,by rw[if_pos (c8 (k:=60) l3)] <;> rfl⟩
 unfold Q
 rfl
 refine bI (fun l6=>?_) fun l6=>?_
 refine⟨rfl,?_⟩
 refine⟨?_,by rw[if_neg (Vk (k:=60) l3),if_pos (c8 (k:=40) l6)] <;> rfl,by rw[if_neg (Vk (k:=60) l3)] <;> rfl⟩
 unfold Q
 rfl
 refine⟨?_,by rw[if_neg (Vk (k:=60) l3),if_neg (Vk (k:=40) l6)] <;> rfl,by rw[if_neg (Vk (k:=60) l3)] <;> rfl⟩
 unfold Q
 rfl)
def Ez(i:Nat)(c:UInt8)(u:Nat)(v:Nat)(p:Nat)(q:Nat)(o:List BL)(t:BL)(b:Nat)(s:Int):o6 Tryz.prog:=.mk 176 [iN i,uN c.toNat,.ptr (.key 1000) [] u 0,.ptr (.key 1001) [] v 0,.ptr (.key 1002) [] p 0,.ptr (.key 1003) [] q 0] [(1000,(u,.ow 1 (o.map sV))),(1001,(v,sV t)),(1002,(p,iN b)),(1003,(q,iV s))] ((b<=i)/\(i<=t.length)/\(o.length<=1000)) (.tup []) [(1000,(u,.ow 1 ((if c=62 then o++[(t.take i).drop b] else o).map sV))),(1001,(v,sV t)),(1002,(p,iN b)),(1003,(q,iV (if c=62 then 0 else s)))] (by
 rintro⟨hb,hi,ho⟩
 refine aB (N:=17) (rs:=[]) Tryz.func176
  (.q 2<|.br (.oR (.key 1000) [] (fun gA oA cA=>.dx 7 [0,1,2,3,4,5,6] [(0,⟨false,[],some [1000],[10],[]⟩),(1,⟨false,[],some [1001],[11],[]⟩),(2,⟨false,[],some [1002],[12],[]⟩),(6,⟨true,[],none,[16],[1000]⟩)] []<|.r 1 [.b9]<|.r 1 [.b9]<|.r 1 [.b9]<|.q 1<|.q 1<|.bs<|.ux none (fun g16 Ws W2=>.h (.n8 16 (.own 1 ((o++[(t.take i).drop b]).map sV) g16 Ws W2))<|.st none<|.st none<|.nil))) (.nil))
  ((fun v1:List V=>(fun v2:V=>(Br (r6 (c.toNat:Int) 62) (∀ gA oA cA:Nat,Z u 0/\Z v 0/\Z p 0/\Sx (b:Int) (i:Int) t/\(((1,1,gA,oA,cA,(o.map sV).length)=(1,1,gA,oA,cA,(o.map sV).length))/\(V.aK v1=false)/\(aM 1 v1)/\(((o.map sV).length+v1.length)*16<=140737488355328))/\∀ g16 Ws W2:Nat,((.own 1 ((o.map sV)++v1) g16 Ws W2:V)=.own 1 ((o++[(t.take i).drop b]).map sV) g16 Ws W2)/\Z u 0/\Z q 0/\Q (.tup []) (.tup [])/\Qr u (.ow 1 ((o++[(t.take i).drop b]).map sV)) u v2/\Er v (sV t)/\Er p (iN b)/\Qr q (iN 0) q (iV (if c=62 then 0 else s))) (Q (.tup []) (.tup [])/\Qr u (.ow 1 (o.map sV)) u v2/\Er v (sV t)/\Er p (iN b)/\Qr q (iV s) q (iV (if c=62 then 0 else s))))) (.ow 1 ((if c=62 then o++[(t.take i).drop b] else o).map sV))) ([sV ((t.take i).drop b)]:List V)) ?_
 refine bI (fun l3=>?_) fun l3=>?_
 intro gA oA cA
 refine⟨rfl,rfl,rfl,Zaa,⟨rfl,rfl,by simp[aM,V.n,V.ns],Zaj⟩,?_⟩
 intro g16 Ws W2
 refine⟨Zbk (V.own 1 · g16 Ws W2) Zab,rfl,rfl,?_⟩
 refine⟨?_,by rw[if_pos (c8 (k:=62) l3)] <;> rfl,rfl,rfl,by rw[if_pos (c8 (k:=62) l3)] <;> rfl⟩
 unfold Q
 rfl
 refine⟨?_,by rw[if_neg (Vk (k:=62) l3)] <;> rfl,rfl,rfl,by rw[if_neg (Vk (k:=62) l3)] <;> rfl⟩
 unfold Q
 rfl)
def Gy(i:Nat)(c:UInt8)(u:Nat)(s:Int):o6 Tryz.prog:=.mk 177 [iN i,uN c.toNat,.ptr (.key 1000) [] u 0] [(1000,(u,iV s))] True (.tup []) [(1000,(u,iV (if c=41 then 0 else s)))] (by
 intro _
 refine aB (N:=7) (rs:=[]) Tryz.func177
  (.q 2<|.br (.st none<|.nil) (.nil))
  (Br (r6 (c.toNat:Int) 41) (Z u 0/\Q (.tup []) (.tup [])/\Qr u (iN 0) u (iV (if c=41 then 0 else s))) (Q (.tup []) (.tup [])/\Qr u (iV s) u (iV (if c=41 then 0 else s)))) ?_
 refine bI (fun l3=>?_) fun l3=>?_
 refine⟨rfl,?_⟩
 refine⟨?_,by rw[if_pos (c8 (k:=41) l3)] <;> rfl⟩
 unfold Q
 rfl
 refine⟨?_,by rw[if_neg (Vk (k:=41) l3)] <;> rfl⟩
 unfold Q
 rfl)
def mC(t:BL):o6 Tryz.prog:=.mk 145 [sV t] [] (t.length<=4611686018427387904) (ao (aY t)) [] (by
 intro ht
 refine aB (N:=32) (rs:=[.tmp 2]) Tryz.func145
  (.bx (fun g1=>.q 1<|.r 3 [.b9]<|.br (.q 1<|.nil) (.al ND (fun g3=>.al ZV (fun g4=>.al ZV (fun g5=>.st none<|.st none<|.al Nn (fun g6=>.cu UH (fun _=>.q 1<|.st none<|.cu UH (fun _=>.q 1<|.st none<|.cu UH (fun _=>.q 1<|.st none<|.q 1<|.h (.B3 (.key 3) [] 1)<|.loop (Nat×(List BL)×Bool×Nat×Int×Nat) (fun (i,o,r,q,s,b)=>⟨[(1,.ptr (.key 1) [] g1 0),(3,.ptr (.key 3) [] g3 0),(4,.ptr (.key 4) [] g4 0),(5,.ptr (.key 5) [] g5 0),(6,.ptr (.key 6) [] g6 0),(7,iN i)],[(1,(g1,sV t)),(3,(g3,.ow 1 (o.map sV))),(4,(g4,iV s)),(5,(g5,iN b)),(6,(g6,.agg [.lit (.func (.func 175) #[] #[.pointer (some ⟨g4,0,none⟩),.pointer (some ⟨g5,0,none⟩)]),.lit (.func (.func 176) #[] #[.pointer (some ⟨g3,0,none⟩),.pointer (some ⟨g1,0,none⟩),.pointer (some ⟨g5,0,none⟩),.pointer (some ⟨g4,0,none⟩)]),.lit (.func (.func 177) #[] #[.pointer (some ⟨g4,0,none⟩)])]))]⟩) (fun (i,o,r,q,s,b)=>i<=t.length/\eL t i=(o,r,q)/\s=PR r q/\(0<q->b+1=q)) (fun (i,o,r,q,s,b)=>t.length-i) (fun (i,o,r,q,s,b)=>.r 2 [.b9]<|.sp (r6 s 1) (.h (.C7 4 (iV 1))<|.q 1<|.q 1<|.br (.dx 7 [0,1,2,3,4,5,6] [(0,⟨false,[],some [4],[23],[]⟩),(2,⟨false,[],some [6],[25],[]⟩),(4,⟨false,[],some [1],[27],[]⟩)] []<|.r 1 [.b9]<|.q 1<|.r 1 [.b9]<|.q 1<|.r 1 [.b9]<|.q 1<|.q 1<|.c (Ez i (t.getD i 0) g3 g1 g5 g4 o t b (1:Int)) [(1000,3),(1001,1),(1002,5),(1003,4)]<|.q 3<|.nil) (.oR (.key 3) [] (fun gE oE cE=>.mv<|.h (.fz 31)<|.h (.n8 31 (ao o))<|.q 1<|.nil))) (.q 1<|.sp (r6 s 2) (.h (.C7 4 (iV 2))<|.q 1<|.br (.dx 7 [0,1,2,3,4,5,6] [(0,⟨false,[],some [4],[23],[]⟩),(2,⟨false,[],some [6],[25],[]⟩),(4,⟨false,[],some [1],[27],[]⟩)] []<|.r 1 [.b9]<|.q 1<|.r 1 [.b9]<|.q 1<|.r 1 [.b9]<|.q 1<|.q 1<|.c (Gy i (t.getD i 0) g4 (2:Int)) [(1000,4)]<|.q 3<|.nil) (.oR (.key 3) [] (fun gE oE cE=>.mv<|.h (.fz 31)<|.h (.n8 31 (ao o))<|.q 1<|.nil))) (.h (.C7 4 (iV 0))<|.q 1<|.br (.dx 7 [0,1,2,3,4,5,6] [(0,⟨false,[],some [4],[23],[]⟩),(2,⟨false,[],some [6],[25],[]⟩),(4,⟨false,[],some [1],[27],[]⟩)] []<|.r 1 [.b9]<|.q 1<|.r 1 [.b9]<|.q 1<|.r 1 [.b9]<|.q 1<|.q 1<|.c (CT i (t.getD i 0) g4 g5 (0:Int) b) [(1000,4),(1001,5)]<|.q 3<|.nil) (.oR (.key 3) [] (fun gE oE cE=>.mv<|.h (.fz 31)<|.h (.n8 31 (ao o))<|.q 1<|.nil)))))))))))))))
  (∀ g1:Nat,(fun v1:V=>Z g1 0/\Br (w3 (t.length:Int) 300) (Q (.sl false []) (ao (aY t))) (∀ g3:Nat,(fun v2:V=> ∀ g4:Nat,(fun v3:V=> ∀ g5:Nat,(fun v4:V=>(fun v5:V=>Z g4 0/\Z g5 0/\∀ g6:Nat,(fun v6:V=>((Value.func (.func 175) #[] #[.pointer (some ⟨g4,0,none⟩),.pointer (some ⟨g5,0,none⟩)]).oneCell'=true)/\∀ _:Unit,((0:Int)<=0/\(0:Int)<3)/\Z g6 0/\((Value.func (.func 176) #[] #[.pointer (some ⟨g3,0,none⟩),.pointer (some ⟨g1,0,none⟩),.pointer (some ⟨g5,0,none⟩),.pointer (some ⟨g4,0,none⟩)]).oneCell'=true)/\∀ _:Unit,((0:Int)<=1/\(1:Int)<3)/\Z g6 1/\((Value.func (.func 177) #[] #[.pointer (some ⟨g4,0,none⟩)]).oneCell'=true)/\∀ _:Unit,((0:Int)<=2/\(2:Int)<3)/\Z g6 2/\(∃ x:Nat×(List BL)×Bool×Nat×Int×Nat,match x with | (j7,x9,J5,B9,Xh,PO)=>(j7<=t.length/\eL t j7=(x9,J5,B9)/\Xh=PR J5 B9/\(0<B9->PO+1=B9))/\E v1/\E v2/\E v3/\E v5/\E v6/\Q (iN 0) (iN j7)/\Er g1 (sV t)/\Qr g3 (.ow 1 ([].map sV)) g3 (.ow 1 (x9.map sV))/\Qr g4 (iN 0) g4 (iV Xh)/\Qr g5 (iN 0) g5 (iN PO)/\Er g6 v4/\True)/\∀ x:Nat×(List BL)×Bool×Nat×Int×Nat,match x with | (i,o,r,q,s,b)=>(i<=t.length/\eL t i=(o,r,q)/\s=PR r q/\(0<q->b+1=q))->(fun v7:V=>(fun v8:Bool=>Z g1 0/\((r6 s 1)=true->((iV s:V)=iV 1)/\Br v8 (Z g4 0/\((0:Int)<=1/\(1:Int)<3)/\Z g6 1/\Z g1 0/\Ix (i:Int) t/\(Ez i (t.getD i 0) g3 g1 g5 g4 o t b (1:Int)).sm/\Er g3 (.ow 1 (o.map sV))/\Er g1 (sV t)/\Er g5 (iN b)/\Er g4 (iV (1:Int))/\((b<=i)/\(i<=t.length)/\(o.length<=1000))/\m8 ((i:Int)+1)/\∃ x:Nat×(List BL)×Bool×Nat×Int×Nat,match x with | (c9,m6,s6,o9,QJ,D9)=>(c9<=t.length/\eL t c9=(m6,s6,o9)/\QJ=PR s6 o9/\(0<o9->D9+1=o9))/\(t.length-c9<t.length-i)/\E v1/\E v2/\E v3/\E v5/\E v6/\Q (iN (i+1)) (iN c9)/\Er g1 (sV t)/\Qr g3 (.ow 1 ((if (t.getD i 0)=62 then o++[(t.take i).drop b] else o).map sV)) g3 (.ow 1 (m6.map sV))/\Qr g4 (iV (if (t.getD i 0)=62 then 0 else (1:Int))) g4 (iV QJ)/\Qr g5 (iN b) g5 (iN D9)/\Er g6 v4/\True) (∀ gE oE cE:Nat,Z g3 0/\(v7=ao o)/\Q (ao o) (ao (aY t))))/\((r6 s 1)=false->((r6 s 2)=true->((iV s:V)=iV 2)/\Br v8 (Z g4 0/\((0:Int)<=2/\(2:Int)<3)/\Z g6 2/\Z g1 0/\Ix (i:Int) t/\(Gy i (t.getD i 0) g4 (2:Int)).sm/\Er g4 (iV (2:Int))/\(True)/\m8 ((i:Int)+1)/\∃ x:Nat×(List BL)×Bool×Nat×Int×Nat,match x with | (c9,m6,s6,o9,QJ,D9)=>(c9<=t.length/\eL t c9=(m6,s6,o9)/\QJ=PR s6 o9/\(0<o9->D9+1=o9))/\(t.length-c9<t.length-i)/\E v1/\E v2/\E v3/\E v5/\E v6/\Q (iN (i+1)) (iN c9)/\Er g1 (sV t)/\Qr g3 (.ow 1 (o.map sV)) g3 (.ow 1 (m6.map sV))/\Qr g4 (iV (if (t.getD i 0)=41 then 0 else (2:Int))) g4 (iV QJ)/\Qr g5 (iN b) g5 (iN D9)/\Er g6 v4/\True) (∀ gE oE cE:Nat,Z g3 0/\(v7=ao o)/\Q (ao o) (ao (aY t))))/\((r6 s 2)=false->((iV s:V)=iV 0)/\Br v8 (Z g4 0/\((0:Int)<=0/\(0:Int)<3)/\Z g6 0/\Z g1 0/\Ix (i:Int) t/\(CT i (t.getD i 0) g4 g5 (0:Int) b).sm/\Er g4 (iV (0:Int))/\Er g5 (iN b)/\((i<=1000))/\m8 ((i:Int)+1)/\∃ x:Nat×(List BL)×Bool×Nat×Int×Nat,match x with | (c9,m6,s6,o9,QJ,D9)=>(c9<=t.length/\eL t c9=(m6,s6,o9)/\QJ=PR s6 o9/\(0<o9->D9+1=o9))/\(t.length-c9<t.length-i)/\E v1/\E v2/\E v3/\E v5/\E v6/\Q (iN (i+1)) (iN c9)/\Er g1 (sV t)/\Qr g3 (.ow 1 (o.map sV)) g3 (.ow 1 (m6.map sV))/\Qr g4 (iV (if (t.getD i 0)=60 then 1 else if (t.getD i 0)=40 then 2 else (0:Int))) g4 (iV QJ)/\Qr g5 (iN (if (t.getD i 0)=60 then i+1 else b)) g5 (iN D9)/\Er g6 v4/\True) (∀ gE oE cE:Nat,Z g3 0/\(v7=ao o)/\Q (ao o) (ao (aY t)))))) (r8 (i:Int) (t.length:Int))) (.sl false (V.C8 (o.map sV)):V)) (.ptr (.key 6) [] g6 0)) (.ptr (.key 5) [] g5 0)) (.agg [.lit (.func (.func 175) #[] #[.pointer (some ⟨g4,0,none⟩),.pointer (some ⟨g5,0,none⟩)]),.lit (.func (.func 176) #[] #[.pointer (some ⟨g3,0,none⟩),.pointer (some ⟨g1,0,none⟩),.pointer (some ⟨g5,0,none⟩),.pointer (some ⟨g4,0,none⟩)]),.lit (.func (.func 177) #[] #[.pointer (some ⟨g4,0,none⟩)])])) (.ptr (.key 4) [] g4 0)) (.ptr (.key 3) [] g3 0))) (.ptr (.key 1) [] g1 0)) ?_
 intro g1
 refine⟨rfl,?_⟩
 refine bI (fun l3=>?_) fun l3=>?_
 unfold Q
 rw[show aY t=[] from if_neg Zaa]
 rfl
 intro g3
 intro g4
 intro g5
 refine⟨rfl,rfl,?_⟩
 intro g6
 refine⟨rfl,?_⟩
 intro _
 refine⟨Zaa,rfl,rfl,?_⟩
 intro _
 refine⟨Zaa,rfl,rfl,?_⟩
 intro _
 refine⟨Zaa,rfl,?_⟩
 refine⟨⟨(0,[],false,0,0,0),?_,rfl,rfl,rfl,rfl,rfl,rfl,rfl,rfl,Zaf,rfl,rfl,trivial⟩,?_⟩
 exact⟨Zaa,rfl,rfl,fun h=>absurd h Zad⟩
 rintro⟨i,o,r,q,s,b⟩ ⟨h1,h2,h3,h4⟩
 have Yg:=yi t i
 rw[h2]at Yg
 have Yh:=Yg.len
 have hm3:=Yg.pos
 have hm4:=Yg.one
 simp only at Yh hm3 hm4
 have A7:=Hm r q
 refine⟨rfl,?_⟩
 refine⟨fun Rq=>?_,fun Rq=>?_⟩
 have Ru:=Rq
 try simp only[nb]at Ru
 refine⟨Zbk iV Zaa,?_⟩
 refine bI (fun l6=>?_) fun l6=>?_
 refine⟨rfl,Zaa,rfl,rfl,Zaa,rfl,rfl,rfl,rfl,rfl,⟨by have hz1:=Mb (h3.symm.trans Zaa);have I0:=h4 hz1.1;omega,Zaa,Zaa⟩,Zaa,?_⟩
 refine⟨(i+1,if (t.getD i 0)=62 then o++[(t.take i).drop b] else o,r,if (t.getD i 0)=62 then 0 else q,if (t.getD i 0)=62 then 0 else (1:Int),b),?_,?_,rfl,rfl,rfl,rfl,rfl,rfl,rfl,rfl,rfl,rfl,rfl,trivial⟩
 obtain⟨VX,VW⟩:=Mb (h3.symm.trans Zaa)
 exact⟨Zaa,by rw[show eL t (i+1)=fy t (eL t i) i from rfl,h2,Lv VX (h4 VX)],(HC (hm4 VX) VX),fun hq=>by split at hq;omega;rw[if_neg (by assumption)];exact h4 VX⟩
 exact Zai
 intro gE oE cE
 refine⟨rfl,Zbk (V.sl false) (aT (fun _=>rfl) _),?_⟩
 unfold Q
 rw[show aY t=o from by rw[show aY t=(eL t t.length).1 from if_pos Zaa,show t.length=i from Zaa,h2]]
 have Ru:=Rq
 try simp only[nb]at Ru
 refine⟨fun Rp=>?_,fun Rp=>?_⟩
 have Rt:=Rp
 try simp only[nb]at Rt
 refine⟨Zbk iV Zaa,?_⟩
 refine bI (fun n0=>?_) fun n0=>?_
 refine⟨rfl,Zaa,rfl,rfl,Zaa,rfl,rfl,trivial,Zaa,?_⟩
 refine⟨(i+1,o,!((t.getD i 0)==41),0,if (t.getD i 0)=41 then 0 else (2:Int),b),?_,?_,rfl,rfl,rfl,rfl,rfl,rfl,rfl,rfl,rfl,rfl,rfl,trivial⟩
 obtain⟨rfl,rfl⟩:=NU (h3.symm.trans Zaa)
 exact⟨Zaa,by rw[show eL t (i+1)=fy t (eL t i) i from rfl,h2,NY rfl],Hy,fun hq=>absurd hq Zaa⟩
 exact Zai
 intro gE oE cE
 refine⟨rfl,Zbk (V.sl false) (aT (fun _=>rfl) _),?_⟩
 unfold Q
 rw[show aY t=o from by rw[show aY t=(eL t t.length).1 from if_pos Zaa,show t.length=i from Zaa,h2]]
 have Rt:=Rp
 try simp only[nb]at Rt
 refine⟨Zbk iV Zaa,?_⟩
 refine bI (fun x7=>?_) fun x7=>?_
 refine⟨rfl,Zaa,rfl,rfl,Zaa,rfl,rfl,rfl,Zaa,Zaa,?_⟩
 refine⟨(i+1,o,(t.getD i 0)==40,if (t.getD i 0)=60 then i+2 else 0,if (t.getD i 0)=60 then 1 else if (t.getD i 0)=40 then 2 else (0:Int),if (t.getD i 0)=60 then i+1 else b),?_,?_,rfl,rfl,rfl,rfl,rfl,rfl,rfl,rfl,rfl,rfl,rfl,trivial⟩
 obtain⟨rfl,rfl⟩:=NA (h3.symm.trans Zaa)
 exact⟨Zaa,by rw[show eL t (i+1)=fy t (eL t i) i from rfl,h2,Mn],Il,fun hq=>by split at hq;rw[if_pos (by assumption),if_pos (by assumption)];omega⟩
 exact Zai
 intro gE oE cE
 refine⟨rfl,Zbk (V.sl false) (aT (fun _=>rfl) _),?_⟩
 unfold Q
 rw[show aY t=o from by rw[show aY t=(eL t t.length).1 from if_pos Zaa,show t.length=i from Zaa,h2]])
def VJ(c:UInt8):Bool:=eW c||(c==37||mD.contains c)
theorem pk(b:UInt8):(fI b).all VJ=true:=by
 unfold fI
 split
 rename_i h;simp[VJ,h]
 unfold fQ
 have h1:b.toNat / 16<16:=by have:=b.toNat_lt;omega
 have h2:b.toNat % 16<16:=Zaa
 have hf:∀ k,k<16->VJ (mD.getD k 0)=true:=Zad
 simp only[List.all_cons,List.all_nil,Bool.and_true,Zam]
 exact⟨Zad,hf _ h1,hf _ h2⟩
theorem vf:∀ (s:BL) {x:BL},cn s=some x->x.all VJ=true
 | [],x,h=>by simp[cn]at h;subst h;rfl
 | [c],x,h=>by
   simp only[cn]at h;split at h
   simp at h
   simp only[Zal]at h;subst h;exact pk c
 | [c,d],x,h=>by
   simp only[cn]at h;split at h
   simp at h
   simp only[Zal]at h;subst h;rw[List.all_append,pk,pk];rfl
 | c::a::b::r,x,h=>by
   simp only[cn]at h
   split at h
   split at h
   simp only[Option.map_eq_some_iff]at h
   obtain⟨y,hy,rfl⟩:=h
   rw[List.all_append,pk,vf r hy];rfl
   simp at h
   simp only[Option.map_eq_some_iff]at h
   obtain⟨y,hy,rfl⟩:=h
   rw[List.all_append,pk,vf (a::b::r) hy];rfl
theorem oV{s:BL}(h:fP s=true):s.all VJ=true/\fG s=s/\gz s=true:=by
 unfold fP at h
 simp only[Zam,Zbj]at h
 refine⟨?_,h.2,h.1⟩
 have h1:=h.1
 have h2:=h.2
 unfold cw at h1 h2
 split at h1
 rename_i hl
 rw[if_pos hl]at h2
 cases e:cn s with
 | none=>rw[e]at h1;cases h1
 | some x=>rw[e]at h2;rw[<- h2];exact vf s e
 cases h1
theorem MD:∀ c:UInt8,VJ c=true->c.toNat<128/\c≠47/\c≠63/\c≠35:=by
 intro c h
 unfold VJ eW at h
 simp only[Bool.or_eq_true,Zbi,Zbj]at h
 have e:∀ k:UInt8,c=k↔c.toNat=k.toNat:=fun k=>UInt8.toNat_inj.symm
 have hf:mD.contains c=true->(48<=c.toNat/\c.toNat<=57)\/(65<=c.toNat/\c.toNat<=70):=by
  intro hc
  simp only[mD,List.contains_cons,List.contains_nil,Bool.or_eq_true,Zbj,e,Bool.or_false]at hc
  simp only[show (48:UInt8).toNat=48 from rfl,show (49:UInt8).toNat=49 from rfl,show (50:UInt8).toNat=50 from rfl,show (51:UInt8).toNat=51 from rfl,show (52:UInt8).toNat=52 from rfl,show (53:UInt8).toNat=53 from rfl,show (54:UInt8).toNat=54 from rfl,show (55:UInt8).toNat=55 from rfl,show (56:UInt8).toNat=56 from rfl,show (57:UInt8).toNat=57 from rfl,show (65:UInt8).toNat=65 from rfl,show (66:UInt8).toNat=66 from rfl,show (67:UInt8).toNat=67 from rfl,show (68:UInt8).toNat=68 from rfl,show (69:UInt8).toNat=69 from rfl,show (70:UInt8).toNat=70 from rfl]at hc
  omega
 have h37:c=37->c.toNat=37:=fun h=>by rw[h];rfl
 have hb:(97<=c.toNat/\c.toNat<=122)\/(48<=c.toNat/\c.toNat<=57)\/c.toNat=46\/c.toNat=45\/c.toNat=37\/(65<=c.toNat/\c.toNat<=70):=by
  rcases h with h | h | h
  omega
  have:=h37 h;omega
  have:=hf h;omega
 refine⟨Zaa,?_,?_,?_⟩ <;> (intro hc;have:=(e _).1 hc;simp only[show (47:UInt8).toNat=47 from rfl,show (63:UInt8).toNat=63 from rfl,show (35:UInt8).toNat=35 from rfl]at this;omega)
theorem vH{c:UInt8}:∀ {s:BL},(∀ x,x∈s->x≠c)->af c s=(s,[],false)
 | [],_=>rfl
 | x::r,h=>by
   simp only[af,if_neg (h x Zab),vH (s:=r) (fun y hy=>h y (by simp[hy]))]
theorem Ah{c:UInt8}{r:BL}:∀ {s:BL},(∀ x,x∈s->x≠c)->af c (s++c::r)=(s,r,true)
 | [],_=>by simp[af]
 | x::s,h=>by
   rw[List.cons_append]
   simp only[af,if_neg (h x Zab),Ah (s:=s) (r:=r) (fun y hy=>h y (by simp[hy]))]
theorem xd{c:UInt8}:∀ {s:BL},(∀ x,x∈s->x≠c)->an c s=[s]
 | [],_=>rfl
 | x::r,h=>by
   simp only[an,if_neg (h x Zab),xd (s:=r) (fun y hy=>h y (by simp[hy]))]
   rfl
theorem rE{c:UInt8}{r:BL}:∀ {s:BL},(∀ x,x∈s->x≠c)->an c (s++c::r)=s::an c r
 | [],_=>by simp[an]
 | x::s,h=>by
   rw[List.cons_append]
   simp only[an,if_neg (h x Zab),rE (s:=s) (r:=r) (fun y hy=>h y (by simp[hy]))]
   rfl
theorem wi:∀ {ps:List BL},ps≠[]->(∀ p,p∈ps->∀ x,x∈p->x≠47)->an 47 (cI ps)=ps
 | [],h,_=>absurd rfl h
 | [p],_,h=>xd (h p Zab)
 | p::q::r,_,h=>by
   show an 47 (p++[47]++cI (q::r))=_
   rw[List.append_assoc]
   show an 47 (p++47::cI (q::r))=_
   rw[rE (h p Zab),wi Zab fun y hy=>h y (by simp[hy])]
theorem uS:∀ (ps:List BL) {o:List BL},(∀ p,p∈ps->fb p=true)->ps.foldl dt o=o++ps
 | [],o,_=>by simp
 | p::ps,o,h=>by
   have hp:=h p Zab
   unfold fb at hp
   simp only[Zam,Bool.not_eq_true',beq_eq_false_iff_ne]at hp
   have e:dt o p=o++[p]:=by
    unfold dt
    rw[if_neg (by rintro (c | c);exact hp.1.1.2 c;exact hp.1.2 c),if_neg hp.2]
   rw[List.foldl_cons,e,uS ps fun q hq=>h q (by simp[hq])]
   simp
theorem eY{a:s4}(h:aO a=true):cW a.b7=true/\a.e9.length<=5/\fP a.ask=true/\(a.asks=true\/a.ask=[])/\(∀ p,p∈a.e9->fb p=true)/\(cX a).length<=60:=by
 unfold aO at h
 simp only[Zam,Zbi,Bool.or_eq_true,Zbj,Za0]at h
 exact⟨h.1.1.1.1.1,h.1.1.1.1.2,h.1.1.1.2,h.1.1.2,h.1.2,h.2⟩
theorem lX{p:BL}(h:fb p=true):fP p=true:=by
 unfold fb at h
 simp only[Zam]at h
 exact h.1.1.1
theorem yu{s:BL}(h:cW s=true):∀ c,c∈s->97<=c.toNat/\c.toNat<=122:=by
 unfold cW gW at h
 simp only[Zam]at h
 intro c hc
 have:=Za0.1 h.1 c hc
 unfold iK at this
 simpa using this
theorem ud{p:BL}(h:fP p=true):∀ c,c∈p->c.toNat<128/\c≠47/\c≠63/\c≠35:=fun c hc=>MD c (Za0.1 (oV h).1 c hc)
theorem CZ{ps:List BL}{k:UInt8}(hk:k≠47):(∀ p,p∈ps->∀ x,x∈p->x≠k)->∀ x,x∈cI ps->x≠k:=by
 induction ps with
 | nil=>intro _ x hx;simp[cI]at hx
 | cons p ps ih=>
   intro h x hx
   cases ps with
   | nil=>exact h p Zab x hx
   | cons q r=>
     simp only[cI,Zav]at hx
     rcases hx with (hx | hx) | hx
     exact h p Zab x hx
     rw[Zat.1 hx];exact fun c=>hk c.symm
     exact ih (fun y hy=>h y (by simp[hy])) x hx
theorem HM{a:s4}(h:aO a=true):cR a.b7 [] (bz a)=some a:=by
 obtain⟨h1,h2,h3,h4,h5,h6⟩:=eY h
 have hj:∀ x,x∈([47]++cI a.e9:BL)->x≠63:=by
  intro x hx
  rcases Zav.1 hx with hx | hx
  rw[Zat.1 hx];decide
  exact CZ Zad (fun p hp x hx=>(ud (lX (h5 p hp)) x hx).2.2.1) x hx
 have O3:af 63 (bz a)=([47]++cI a.e9,a.ask,a.asks):=by
  unfold bz
  cases e:a.asks with
  | true=>
    rw[if_pos rfl]
    exact Ah hj
  | false=>
    rw[if_neg Zad,List.append_nil,vH hj]
    rcases h4 with c | c
    rw[e]at c;cases c
    rw[c]
 have hs:an 47 ([47]++cI a.e9)=[]::(if a.e9=[] then [[]] else a.e9):=by
  show an 47 ([]++47::cI a.e9)=_
  rw[rE Zab]
  split
  rename_i e;rw[e];rfl
  rename_i e;rw[wi e fun p hp x hx=>(ud (lX (h5 p hp)) x hx).2.1]
 have XK:∀ p,p∈an 47 ([47]++cI a.e9)->p=[]\/p∈a.e9:=by
  intro p hp
  rw[hs]at hp
  rcases List.mem_cons.1 hp with hp | hp
  exact .inl hp
  split at hp
  exact .inl (Zat.1 hp)
  exact .inr hp
 have XG:fG []=[]/\gz []=true:=Zad
 have G8:(an 47 (af 63 (bz a)).1).all gz=true:=by
  rw[O3]
  rw[Za0]
  intro p hp
  rcases XK p hp with rfl | hp
  exact XG.2
  exact(oV (lX (h5 p hp))).2.2
 have Zm:(an 47 (af 63 (bz a)).1).map fG=an 47 ([47]++cI a.e9):=by
  rw[O3]
  have:∀ p,p∈an 47 ([47]++cI a.e9)->fG p=p:=fun p hp=>by
   rcases XK p hp with rfl | hp
   exact XG.1
   exact(oV (lX (h5 p hp))).2.1
  exact(List.map_congr_left this).trans (List.map_id _)
 have hcl:cy ([]++an 47 ([47]++cI a.e9))=a.e9:=by
  rw[List.nil_append,hs]
  unfold cy
  rw[List.foldl_cons]
  have e0:dt [] []=[]:=rfl
  rw[e0]
  split
  rename_i e;rw[e];rfl
  rw[uS _ h5];rfl
 have ha:(⟨a.b7,a.e9,a.asks,a.ask⟩:s4)=a:=rfl
 unfold cR
 rw[G8,Zm,O3,(oV h3).2.2,(oV h3).2.1,hcl]
 exact(if_pos rfl).trans (if_pos h)
theorem Gq{p:UInt8->Bool}{s r:BL}(h:∀ c,c∈s->p c=true)(hr:∀ c r',r=c::r'->p c=false):(s++r).takeWhile p=s/\(s++r).dropWhile p=r:=by
 induction s with
 | nil=>
   cases r with
   | nil=>exact⟨rfl,rfl⟩
   | cons c r'=>have:=hr c r' rfl;simp[this]
 | cons c s ih=>
   obtain⟨q1,q2⟩:=ih fun d hd=>h d (by simp[hd])
   have:=h c Zab
   simp[this,q1,q2]
theorem Gl{s:BL}(h:∀ c,c∈s->97<=c.toNat/\c.toNat<=122):bm s=s:=by
 unfold bm
 have:∀ c,c∈s->eM c=c:=fun c hc=>by unfold eM;rw[if_neg (by have:=h c hc;omega)]
 exact(List.map_congr_left this).trans (List.map_id _)
theorem Et{a:s4}(h:aO a=true):eh (a.b7++bz a)=some a:=by
 obtain⟨h1,_⟩:=eY h
 have hl:=yu h1
 obtain⟨q1,q2⟩:=Gq (p:=jS) (s:=a.b7) (r:=bz a) (fun c hc=>by have:=hl c hc;unfold jS;rw[Zbi];omega) (fun c r' e=>by
  have:c=47:=by unfold bz at e;simp at e;exact e.1.symm
  rw[this];decide)
 unfold eh
 rw[q1,q2,Gl hl,HM h]
theorem wY{a:s4}(h:aO a=true):∀ c,c∈cX a->c.toNat<128/\c≠35:=by
 obtain⟨h1,h2,h3,h4,h5,h6⟩:=eY h
 intro c hc
 unfold cX bz at hc
 simp only[Zav]at hc
 have h47:∀ c:UInt8,c=47->c.toNat<128/\c≠35:=fun c e=>by rw[e];decide
 rcases hc with (hc | hc) | ((hc | hc) | hc)
 refine h47 c ?_;simpa using hc
 have:=yu h1 c hc
 exact⟨Zaa,fun e=>by rw[e]at this;exact absurd this Zad⟩
 refine h47 c ?_;simpa using hc
 exact⟨by
  have:l8 (cI a.e9):=sO fun x hx d hd=>(ud (lX (h5 x hx)) d hd).1
  exact this c hc,CZ Zad (fun p hp x hx=>(ud (lX (h5 p hp)) x hx).2.2.2) c hc⟩
 split at hc
 rcases Zav.1 hc with hc | hc
 rw[Zat.1 hc];decide
 exact⟨(ud h3 c hc).1,(ud h3 c hc).2.2.2⟩
 simp at hc
theorem tA{a:s4}(h:aO a=true):aC (cX a)=some a:=by
 have hc:=vH (c:=35) (s:=cX a) fun x hx=>(wY h x hx).2
 unfold aC
 rw[hc]
 rw[if_pos ⟨(eY h).2.2.2.2.2,by unfold cX;simp,by unfold cX;simp⟩]
 show eh ((cX a).drop 2)=_
 rw[show (cX a).drop 2=a.b7++bz a from by unfold cX;simp,Et h]
theorem Dl{a:s4}(h:aO a=true):aA (cX a)=true:=xJ (by rw[tA h];rfl) (by rw[tA h];rfl)
theorem mH(a:s4):l8 (bY a):=by
 unfold bY
 split
 rename_i h;exact fun c hc=>(wY h c hc).1
 exact bp
theorem EI{m:BL}{b:UInt8}(hb:b≠0):(!(m==[])&&r6 (((m.getD 0 0).toNat:Nat):Int) ((b.toNat:Nat):Int))=(fJ m==b):=by
 unfold fJ r6
 rw[b8]
 cases m with
 | nil=>
   show false=_
   symm
   rw[beq_eq_false_iff_ne]
   intro c
   exact hb (UInt8.toNat_inj.1 (by have:((0:UInt8).toNat:Int)=(b.toNat:Int):=c;omega))
 | cons x r=>rfl
theorem GA{m:BL}(h:fJ m=64):1<=m.length:=by
 cases m with
 | nil=>exact absurd h Zad
 | cons a r=>simp
theorem Gh{m:BL}:mB m=true↔¬ fJ m=33/\¬ fJ m=64:=by
 unfold mB
 simp
theorem Nq{s:BL}(h:fV s [47,47]=true):2<=s.length/\s.take 2=[47,47]:=uF.1 h
theorem zy{s:BL}(h:fV s [47,47]=false): ¬ (2<=s.length/\s.take 2=[47,47]):=fun c=>by rw[(uF (s:=s) (p:=[47,47])).2 c]at h;cases h
theorem HZ{t:BL}(h:l8 t):l8 ((dn t).getD []):=by
 cases e:dn t with
 | none=>exact bp
 | some r=>exact fun c hc=>h c ((Df e).2 c hc)
theorem ID{t:BL}(h:l8 t)(i:Nat):l8 ((bB t).getD i []):=by
 rw[Zak]
 cases e:(bB t)[i]? with
 | none=>exact bp
 | some x=>exact fun c hc=>h c (((vE t).2 x (Za5 e)).2 c hc)
theorem LJ{b:s4}{o:List BL}{m:BL}(h:(J9 b m).isSome=true)(h2: ¬ bY (oA (J9 b m))∈o):fp b o m=o++[bY (oA (J9 b m))]:=by
 unfold fp iG
 rw[if_pos h,if_neg (by simpa using h2)]
theorem LV{b:s4}{o:List BL}{m:BL}(h:(J9 b m).isSome=true)(h2:bY (oA (J9 b m))∈o):fp b o m=o:=by
 unfold fp iG
 rw[if_pos h,if_pos (by simpa using h2)]
def gx(w:List Pg)(d:BL):List BL:=if aA d=true then ov d (ae w d 2).1 (ae w d 2).2 else []
theorem AO{d:BL}(h:aA d=true):ak d=aC d:=if_pos h
theorem pB(d:BL):dm (oA (ak d)):=by
 unfold ak
 split
 exact lr d
 exact sL
def jE(w:List Pg)(n d:BL):Bool:=aA d&&(dj w n d&&!((ae w d 2).1==3))
theorem Kx{w:List Pg}{n d:BL}(Wy:ai w=true)(hno:aZ n=true)(h:(ak d).isSome=false\/av (bC (ae w (ag (oA (ak d)).b7) 2).1 (ae w (ag (oA (ak d)).b7) 2).2 n).ru (if aO (oA (ak d))=true then bz (oA (ak d)) else [])=false):jE w n d=false:=by
 unfold jE
 cases e:aA d with
 | false=>rfl
 | true=>
   rw[AO e]at h
   rcases h with h | h
   unfold aA at e;rw[h]at e;cases e
   rw[<- Bs Wy hno,h];simp
theorem JS{w:List Pg}{n d:BL}(Wy:ai w=true)(hno:aZ n=true)(h:(ak d).isSome=true/\av (bC (ae w (ag (oA (ak d)).b7) 2).1 (ae w (ag (oA (ak d)).b7) 2).2 n).ru (if aO (oA (ak d))=true then bz (oA (ak d)) else [])=true):jE w n d=!((ae w d 2).1==3):=by
 have e:aA d=true:=by rw[<- fC];exact h.1
 rw[AO e]at h
 unfold jE
 rw[e,<- Bs Wy hno,h.1,h.2];simp
def nr(m:BL)(b:UInt8):o6 Tryz.prog:=.mk 146 [sV m,uN b.toNat] [] (b≠0) (bV (fJ m==b)) [] (by
 intro hb
 refine aB (N:=13) (rs:=[.tmp 4]) Tryz.func146
  (.q 1<|.q 9<|.nil)
  (Gd ((!(m==[]))==true) (Ix 0 m)/\Pk (!(m==[])) ((!(m==[]))==true) true/\Q (bV ((!(m==[]))&&(r6 (((m.getD 0 0).toNat:Nat):Int) (b.toNat:Int)))) (bV (fJ m==b))) ?_
 refine⟨fun hG=>by(try simp only[nb]at hG);have:=List.length_pos_iff.2 (by simpa using hG);omega,⟨fun h=>by rw[h] <;> rfl,fun _=>rfl⟩,?_⟩
 unfold Q
 refine Zbk bV ?_
 exact EI hb)
abbrev iM(t:BL)(i:Nat):Prop:=i<=(aY t).length/\∀ j,j<i->(fJ ((aY t).getD j [])==64)=false
def uM(t:BL):o6 Tryz.prog:=.mk 115 [sV t] [] (t.length<=4611686018427387904) (.tup [sV ((dn t).getD []),bV ((dn t).isSome)]) [] (by
 intro ht
 obtain⟨Yh,Zn⟩:=sj t
 refine aB (N:=18) (rs:=[.tmp 2,.tmp 3]) Tryz.func115
  (.q 2<|.q 1<|.c (mC t) []<|.q 2<|.loop (Nat) (fun (i:Nat)=>⟨[(7,ao (aY t)),(8,iN ((aY t).length)),(9,iN i)],[]⟩) (fun (i:Nat)=>iM t i) (fun (i:Nat)=>(aY t).length-i) (fun (i:Nat)=>.q 1<|.br (.r 3 [sV ((aY t).getD i [])]<|.q 1<|.c (nr ((aY t).getD i []) (64:UInt8)) []<|.br (.q 4<|.nil) (.q 2<|.nil)) (.q 2<|.nil)))
  ((fun v1:V=>((mC t).sm/\((t.length<=4611686018427387904))/\(∃ j7:Nat,(iM t j7)/\E (ao (aY t))/\Q (iN (((aY t).map sV).length)) (iN ((aY t).length))/\Q (iN 0) (iN j7)/\True)/\∀ i:Nat,(iM t i)->Br (r8 (i:Int) (((aY t).length:Nat):Int)) (Ex (i:Int) ((aY t).map sV) (sV ((aY t).getD i []))/\True/\(nr ((aY t).getD i []) (64:UInt8)).sm/\(((64:UInt8)≠0))/\Br (fJ ((aY t).getD i [])==(64:UInt8)) (Sx (1:Int) (((aY t).getD i []).length:Int) ((aY t).getD i [])/\Q (.tup [sV ((((aY t).getD i []).take ((aY t).getD i []).length).drop 1),bV true]) v1) (m8 ((i:Int)+1)/\∃ c9:Nat,(iM t c9)/\((aY t).length-c9<(aY t).length-i)/\E (ao (aY t))/\E (iN ((aY t).length))/\Q (iN (i+1)) (iN c9)/\True)) (Q (.tup [sV [],bV false]) v1))) (.tup [sV ((dn t).getD []),bV ((dn t).isSome)])) ?_
 refine⟨rfl,Zae,?_⟩
 refine⟨⟨0,?_,rfl,Zaf,rfl,trivial⟩,?_⟩
 unfold iM
 simp
 rintro i ⟨h1,h2⟩
 refine bI (fun l3=>?_) fun l3=>?_
 refine⟨⟨Zaa,aq (d:=[]) Zaa⟩,trivial,rfl,Zad,?_⟩
 refine bI (fun l6=>?_) fun l6=>?_
 refine⟨by have:=GA (m:=(aY t).getD i []) (by simpa using l6);omega,?_⟩
 unfold Q
 rw[show dn t=some (((aY t).getD i []).drop 1) from by rw[dn,Da (i:=i) (d:=[]) Zaa (by simpa using l6) h2];rfl,List.take_length]
 rfl
 refine⟨Zaa,?_⟩
 refine⟨i+1,?_,?_,rfl,rfl,rfl,trivial⟩
 unfold iM
 exact⟨Zaa,bJ h2 (by simpa using l6)⟩
 exact Zai
 unfold Q
 rw[show dn t=none from by rw[dn,KS (d:=[]) (fun j hj=>h2 j Zaa)];rfl]
 rfl)
def tQ(t:BL):o6 Tryz.prog:=.mk 117 [sV t] [] (t.length<=4611686018427387904) (ao (bB t)) [] (by
 intro ht
 obtain⟨Yh,Zn⟩:=sj t
 refine aB (N:=27) (rs:=[.tmp 2]) Tryz.func117
  (.q 1<|.q 1<|.q 1<|.c (mC t) []<|.q 2<|.h (.H9 3 1)<|.loop (Nat×(List BL)×Nat×Nat×Nat) (fun (i,o,g,f,k)=>⟨[(3,.own 1 (o.map sV) g f k),(7,ao (aY t)),(8,iN ((aY t).length)),(9,iN i)],[]⟩) (fun (i,o,g,f,k)=>i<=(aY t).length/\o=((aY t).take i).filter mB/\o.length<=i) (fun (i,o,g,f,k)=>(aY t).length-i) (fun (i,o,g,f,k)=>.q 1<|.br (.r 3 [sV ((aY t).getD i [])]<|.q 1<|.c (nr ((aY t).getD i []) (33:UInt8)) []<|.q 3<|.cg (nr ((aY t).getD i []) (64:UInt8))<|.q 2<|.br (.q 2<|.bs<|.ap (fun g24 UB Vy=>.h (.n8 24 (.own 1 ((o++[((aY t).getD i [])]).map sV) g24 UB Vy))<|.q 1<|.q 2<|.nil)) (.q 2<|.nil)) (.h (.fz 3)<|.h (.n8 3 (ao o))<|.q 2<|.nil)))
  ((mC t).sm/\((t.length<=4611686018427387904))/\(∃ x:Nat×(List BL)×Nat×Nat×Nat,match x with | (j7,x9,C9,B8,s7)=>(j7<=(aY t).length/\x9=((aY t).take j7).filter mB/\x9.length<=j7)/\Q (.own 1 ([].map sV) 0 0 0) (.own 1 (x9.map sV) C9 B8 s7)/\E (ao (aY t))/\Q (iN (((aY t).map sV).length)) (iN ((aY t).length))/\Q (iN 0) (iN j7)/\True)/\∀ x:Nat×(List BL)×Nat×Nat×Nat,match x with | (i,o,g,f,k)=>(i<=(aY t).length/\o=((aY t).take i).filter mB/\o.length<=i)->(fun v1:Bool=>(fun v2:List V=>Br (r8 (i:Int) (((aY t).length:Nat):Int)) (Ex (i:Int) ((aY t).map sV) (sV ((aY t).getD i []))/\True/\(nr ((aY t).getD i []) (33:UInt8)).sm/\(((33:UInt8)≠0))/\Gd (v1==true) ((((64:UInt8)≠0))/\(nr ((aY t).getD i []) (64:UInt8)).sm)/\Pk v1 (v1==true) true/\Br (v1&&(!(fJ ((aY t).getD i [])==(64:UInt8)))) (((1,1,g,f,k,(o.map sV).length)=(1,1,g,f,k,(o.map sV).length))/\(True)/\(V.aK v2=false)/\(aM 1 v2)/\(((o.map sV).length+v2.length)*16<=140737488355328)/\∀ g24 UB Vy:Nat,((.own 1 ((o.map sV)++v2) g24 UB Vy:V)=.own 1 ((o++[((aY t).getD i [])]).map sV) g24 UB Vy)/\m8 ((i:Int)+1)/\∃ x:Nat×(List BL)×Nat×Nat×Nat,match x with | (c9,m6,u7,r9,k₂)=>(c9<=(aY t).length/\m6=((aY t).take c9).filter mB/\m6.length<=c9)/\((aY t).length-c9<(aY t).length-i)/\Q (.own 1 ((o++[((aY t).getD i [])]).map sV) g24 UB Vy) (.own 1 (m6.map sV) u7 r9 k₂)/\E (ao (aY t))/\E (iN ((aY t).length))/\Q (iN (i+1)) (iN c9)/\True) (m8 ((i:Int)+1)/\∃ x:Nat×(List BL)×Nat×Nat×Nat,match x with | (c9,m6,u7,r9,k₂)=>(c9<=(aY t).length/\m6=((aY t).take c9).filter mB/\m6.length<=c9)/\((aY t).length-c9<(aY t).length-i)/\Q (.own 1 (o.map sV) g f k) (.own 1 (m6.map sV) u7 r9 k₂)/\E (ao (aY t))/\E (iN ((aY t).length))/\Q (iN (i+1)) (iN c9)/\True)) (((.sl false (V.C8 (o.map sV)):V)=ao o)/\Q (ao o) (ao (bB t)))) ([sV ((aY t).getD i [])]:List V)) (!(fJ ((aY t).getD i [])==(33:UInt8)))) ?_
 refine⟨rfl,Zae,?_⟩
 refine⟨⟨(0,[],0,0,0),?_,rfl,rfl,Zaf,rfl,trivial⟩,?_⟩
 simp
 rintro⟨i,o,g,f,k⟩ ⟨h1,h2,h3⟩
 refine bI (fun l3=>?_) fun l3=>?_
 refine⟨⟨Zaa,aq (d:=[]) Zaa⟩,trivial,rfl,Zad,fun hG=>⟨by(try simp only[nb]at hG);decide,rfl⟩,⟨fun h=>by rw[h] <;> rfl,fun _=>rfl⟩,?_⟩
 refine bI (fun l6=>?_) fun l6=>?_
 refine⟨rfl,trivial,rfl,by simp[aM,V.n,V.ns],Zaj,?_⟩
 intro g24 UB Vy
 refine⟨Zbk (V.own 1 · g24 UB Vy) Zab,Zaa,?_⟩
 refine⟨(i+1,o++[((aY t).getD i [])],g24,UB,Vy),?_,?_,rfl,rfl,rfl,rfl,trivial⟩
 refine⟨Zaa,?_,Zaj⟩
 rw[bA (d:=[]) Zaa,List.filter_append,<- h2,List.filter_cons_of_pos (Gh.2 (by simpa using l6))]
 rfl
 exact Zai
 refine⟨Zaa,?_⟩
 refine⟨(i+1,o,g,f,k),?_,?_,rfl,rfl,rfl,rfl,trivial⟩
 refine⟨Zaa,?_,Zaa⟩
 rw[bA (d:=[]) Zaa,List.filter_append,<- h2,List.filter_cons_of_neg (fun c=>absurd (Gh.1 c) (by simpa using l6))]
 simp
 exact Zai
 refine⟨Zbk (V.sl false) (aT (fun _=>rfl) _),?_⟩
 unfold Q
 rw[h2,Zax Zaa]
 rfl)
def uL(a:s4):o6 Tryz.prog:=.mk 118 [cb a.b7 a.e9 a.asks a.ask] [] (dm a) (sV (bY a)) [] (by
 intro ha
 refine aB (N:=8) (rs:=[.tmp 2]) Tryz.func118
  (.bx (fun g1=>.q 1<|.r 1 [.b9]<|.c (gM a) []<|.q 1<|.br (.q 1<|.nil) (.r 1 [.b9]<|.c (jR a) []<|.q 1<|.nil)))
  (∀ g1:Nat,Z g1 0/\(gM a).sm/\((dm a))/\Br (!(aO a)) (Q (sV []) (sV (bY a))) (Z g1 0/\(jR a).sm/\((dm a))/\Q (sV (cX a)) (sV (bY a)))) ?_
 intro g1
 refine⟨rfl,rfl,ha,?_⟩
 refine bI (fun l3=>?_) fun l3=>?_
 unfold Q
 rw[show bY a=[] from if_neg (by rw[l3];decide)]
 refine⟨rfl,rfl,ha,?_⟩
 unfold Q
 rw[show bY a=cX a from if_pos (by simpa using l3)])
def tS(s:BL)(p:BL):o6 Tryz.prog:=.mk 147 [sV s,sV p] [] ((s.length<=4611686018427387904)/\(p.length<=4611686018427387904)) (bV (fV s p)) [] (by
 rintro⟨hs,hp⟩
 refine aB (N:=8) (rs:=[.tmp 4]) Tryz.func147
  (.q 1<|.q 2<|.c (nH s p) []<|.q 1<|.nil)
  ((nH s p).sm/\((s.length<=4611686018427387904)/\(p.length<=4611686018427387904))/\Q (bV (fV s p)) (bV (fV s p))) ?_
 refine⟨rfl,⟨Zae,Zae⟩,?_⟩
 unfold Q
 rfl)
abbrev dT(a:s4)(ref:BL):V:=.tup [cb ((oA (J9 a ref)).b7) ((oA (J9 a ref)).e9) ((oA (J9 a ref)).asks) ((oA (J9 a ref)).ask),bV ((J9 a ref).isSome)]
def nv(a:s4)(ref:BL):o6 Tryz.prog:=.mk 116 [cb a.b7 a.e9 a.asks a.ask,sV ref] [] ((dm a)/\(a.e9.length<=100)/\(ref.length<=1000000)/\(l8 ref)) (dT a ref) [] (by
 rintro⟨ha,hp,hr,hc⟩
 have O3:=nV 35 ref
 refine aB (N:=75) (rs:=[.cell 4 96,.tmp 5]) Tryz.func116
  (.bx (fun g2=>.al dw (fun g4=>.q 1<|.r 5 [.b9]<|.cg (gM a)<|.q 2<|.br (.bd dw<|.st none<|.q 1<|.nil) (.q 1<|.c (pP ref 35) []<|.q 7<|.q 1<|.c (tS ((af 35 ref).1) ([47,47]:BL)) []<|.q 1<|.br (.q 1<|.c (nE ((af 35 ref).1)) []<|.q 2<|.st none<|.q 1<|.nil) (.q 3<|.br (.r 2 [.b9]<|.c (jI a.e9) []<|.ot 36 (fun g36 Z3 c36=>.h (.fz 36)<|.h (.n8 36 (ao a.e9))<|.q 1<|.st none<|.r 1 [.b9]<|.st none<|.q 1<|.nil)) (.q 4<|.br (.r 3 [.b9]<|.c (gK a.b7 ([]:List BL) ((af 35 ref).1)) []<|.q 2<|.st none<|.q 1<|.nil) (.q 4<|.br (.r 5 [.b9,.b9]<|.c (gK a.b7 a.e9 ((af 35 ref).1)) []<|.q 2<|.st none<|.q 1<|.nil) (.dx 14 [0,1,2,3,4,5,6,7,8,9,10,11,12,13] [(1,⟨false,[],some [2],[62],[]⟩),(3,⟨false,[],some [2],[64],[]⟩),(5,⟨false,[],some [2],[66],[]⟩)] []<|.q 1<|.r 1 [.b9]<|.q 1<|.r 1 [.b9]<|.q 1<|.r 1 [.b9]<|.q 1<|.q 1<|.mm<|.q 1<|.h (.n8 70 (ao (a.e9.take (a.e9.length-1))))<|.q 1<|.c (gK a.b7 (a.e9.take (a.e9.length-1)) ((af 35 ref).1)) []<|.q 1<|.q 1<|.st none<|.q 1<|.nil))))))))
  ((fun v1:s4=>(fun v2:s4=>(fun v3:s4=>(fun v4:Int=>(fun v5:Bool=>(fun v6:s4=>(fun v7:Int=>(∀ g2:Nat,∀ g4:Nat,Gd (v5==false) (Z g2 0)/\Gd (v5==false) (((dm a))/\(gM a).sm)/\Pk v5 true (v5==false)/\Br (v5||(!(aO a))) (Z g4 0/\(g4=g4)/\Q (.tup [ik (.sl false []),bV false]) (dT a ref)) ((pP ref 35).sm/\((ref.length<=1000000))/\(tS ((af 35 ref).1) ([47,47]:BL)).sm/\((((af 35 ref).1).length<=4611686018427387904)/\(([47,47]:BL).length<=4611686018427387904))/\Br (fV ((af 35 ref).1) ([47,47]:BL)) ((nE ((af 35 ref).1)).sm/\((((af 35 ref).1).length<=300)/\(l8 ((af 35 ref).1)))/\Z g4 0/\(g4=g4)/\Q (.tup [cb (v6.b7) (v6.e9) (v6.asks) (v6.ask),bV ((dJ ((af 35 ref).1)).isSome)]) (dT a ref)) (Br (((af 35 ref).1)==[]) (Z g2 1/\(jI a.e9).sm/\((a.e9.length<=1000000))/\∀ g36 Z3 c36:Nat,((.sl false (V.C8 (a.e9.map sV)):V)=ao a.e9)/\Z g2 1/\Z g2 0/\Z g4 0/\(g4=g4)/\Q (.tup [cb a.b7 a.e9 a.asks a.ask,bV true]) (dT a ref)) (Ix 0 ((af 35 ref).1)/\Br (r6 v7 47) (Z g2 0/\(gK a.b7 ([]:List BL) ((af 35 ref).1)).sm/\((a.b7.length<=1000)/\(∀ i,(([]:List BL).getD i []).length<=1000)/\(([]:List BL).length<=100)/\(((af 35 ref).1).length<=300))/\Z g4 0/\(g4=g4)/\Q (.tup [cb (v2.b7) (v2.e9) (v2.asks) (v2.ask),bV ((cR a.b7 ([]:List BL) ((af 35 ref).1)).isSome)]) (dT a ref)) (Ix 0 ((af 35 ref).1)/\Br (r6 v7 63) (Z g2 0/\Z g2 1/\(gK a.b7 a.e9 ((af 35 ref).1)).sm/\((a.b7.length<=1000)/\(∀ i,(a.e9.getD i []).length<=1000)/\(a.e9.length<=100)/\(((af 35 ref).1).length<=300))/\Z g4 0/\(g4=g4)/\Q (.tup [cb (v3.b7) (v3.e9) (v3.asks) (v3.ask),bV ((cR a.b7 a.e9 ((af 35 ref).1)).isSome)]) (dT a ref)) (Z g2 0/\Z g2 1/\Z g2 1/\m8 (v4-1)/\(IntKind.i64=IntKind.i64)/\((0:Int)<=(0:Int)/\(0:Int)<=(max (v4-1) 0)/\(max (v4-1) 0)<=(a.e9.map sV).length/\∀ x∈(a.e9.map sV),x.n=1)/\Q (.sl false (((a.e9.map sV).take (Int.toNat (max (v4-1) 0))).drop ((0:Int).toNat))) (ao (a.e9.take (a.e9.length-1)))/\(gK a.b7 (a.e9.take (a.e9.length-1)) ((af 35 ref).1)).sm/\((a.b7.length<=1000)/\(∀ i,((a.e9.take (a.e9.length-1)).getD i []).length<=1000)/\((a.e9.take (a.e9.length-1)).length<=100)/\(((af 35 ref).1).length<=300))/\Z g4 0/\(g4=g4)/\Q (.tup [cb (v1.b7) (v1.e9) (v1.asks) (v1.ask),bV ((cR a.b7 (a.e9.take (a.e9.length-1)) ((af 35 ref).1)).isSome)]) (dT a ref)))))))) (((((af 35 ref).1).getD 0 0).toNat:Nat):Int)) (oA (dJ ((af 35 ref).1)))) (w3 (ref.length:Int) 60)) (((a.e9.map sV).length:Nat):Int)) (oA (cR a.b7 a.e9 ((af 35 ref).1)))) (oA (cR a.b7 ([]:List BL) ((af 35 ref).1)))) (oA (cR a.b7 (a.e9.take (a.e9.length-1)) ((af 35 ref).1)))) ?_
 intro g2
 intro g4
 refine⟨fun hG=>rfl,fun hG=>⟨ha,rfl⟩,⟨fun _=>rfl,fun h=>by rw[h] <;> rfl⟩,?_⟩
 refine bI (fun l3=>?_) fun l3=>?_
 refine⟨rfl,?_⟩
 refine⟨rfl,?_⟩
 unfold Q dT
 rw[show J9 a ref=none from if_pos (l3.symm.imp id fun h=>by omega)]
 rfl
 refine⟨rfl,Zaa,rfl,⟨Zaa,Zab⟩,?_⟩
 refine bI (fun l6=>?_) fun l6=>?_
 refine⟨rfl,⟨Zaa,hc.cut 35⟩,rfl,?_⟩
 refine⟨rfl,?_⟩
 unfold Q dT
 rw[An ⟨l3.2,l3.1⟩,if_pos (Nq l6),show dJ (af 35 ref).1=eh ((af 35 ref).1.drop 2) from if_pos l6]
 refine bI (fun n0=>?_) fun n0=>?_
 refine⟨rfl,rfl,Zaa,?_⟩
 intro g36 Z3 c36
 refine⟨Zbk (V.sl false) (aT (fun _=>rfl) _),rfl,rfl,rfl,?_⟩
 refine⟨rfl,?_⟩
 unfold Q dT
 rw[An ⟨l3.2,l3.1⟩,if_neg (zy l6),if_pos (by simpa using n0)]
 rfl
 refine⟨by have:=List.length_pos_iff.2 n0;omega,?_⟩
 refine bI (fun x7=>?_) fun x7=>?_
 refine⟨rfl,rfl,⟨ha.1,Zab,Zab,Zaa⟩,rfl,?_⟩
 refine⟨rfl,?_⟩
 unfold Q dT
 rw[An ⟨l3.2,l3.1⟩,if_neg (zy l6),if_neg (by simpa using n0),if_pos (IX (k:=47) x7)]
 refine⟨by have:=List.length_pos_iff.2 n0;omega,?_⟩
 refine bI (fun I4=>?_) fun I4=>?_
 refine⟨rfl,rfl,rfl,⟨ha.1,ha.2.2.2,hp,Zaa⟩,rfl,?_⟩
 refine⟨rfl,?_⟩
 unfold Q dT
 rw[An ⟨l3.2,l3.1⟩,if_neg (zy l6),if_neg (by simpa using n0),if_neg (DB (k:=47) x7),if_pos (IX (k:=63) I4)]
 refine⟨rfl,rfl,rfl,Zah,rfl,⟨by simp <;> omega,by simp <;> omega,by simp <;> omega,all_map (fun _=>rfl)⟩,by unfold Q;refine Zbk (V.sl false) ?_;rw[List.map_take,show (max (((a.e9.map sV).length:Int)-1) 0).toNat=a.e9.length-1 from Zaj];rfl,rfl,⟨ha.1,La ha.2.2.2,by simp only[List.length_take];omega,Zaa⟩,rfl,?_⟩
 refine⟨rfl,?_⟩
 unfold Q dT
 rw[An ⟨l3.2,l3.1⟩,if_neg (zy l6),if_neg (by simpa using n0),if_neg (DB (k:=47) x7),if_neg (DB (k:=63) I4)])
def tM(a:s4)(t:BL):o6 Tryz.prog:=.mk 91 [cb a.b7 a.e9 a.asks a.ask,sV t] [] ((dm a)/\(t.length<=4611686018427387904)/\(l8 t)) (ao (bO a t)) [] (by
 rintro⟨ha,ht,hc⟩
 obtain⟨Yh,Zn⟩:=vE t
 refine aB (N:=61) (rs:=[.tmp 4]) Tryz.func91
  (.bx (fun g2=>.q 1<|.r 1 [.b9]<|.c (gM a) []<|.q 1<|.br (.q 1<|.nil) (.r 1 [.b9]<|.al dw (fun g5=>.st none<|.q 1<|.c (uM t) []<|.q 5<|.q 1<|.join (s4) (fun b=>⟨[(1,sV t),(5,.ptr (.key 5) [] g5 0)],[(5,(g5,cb b.b7 b.e9 b.asks b.ask))]⟩) (fun b=>b=(jx a t)) (.r 2 [.b9]<|.c (nv a ((dn t).getD [])) []<|.q 3<|.al dw (fun g8=>.st none<|.q 1<|.q 1<|.br (.r 1 [.b9]<|.st none<|.nil) (.nil))) (.nil) (fun b=>.q 1<|.q 1<|.c (tQ t) []<|.q 2<|.h (.H9 10 1)<|.loop (Nat×(List BL)×Nat×Nat×Nat) (fun (i,o,g,f,k)=>⟨[(5,.ptr (.key 5) [] g5 0),(10,.own 1 (o.map sV) g f k),(35,ao (bB t)),(36,iN ((bB t).length)),(37,iN i)],[(5,(g5,cb b.b7 b.e9 b.asks b.ask))]⟩) (fun (i,o,g,f,k)=>i<=(bB t).length/\o=((bB t).take i).foldl (fp b) []/\o.length<=i) (fun (i,o,g,f,k)=>(bB t).length-i) (fun (i,o,g,f,k)=>.q 1<|.br (.r 3 [sV ((bB t).getD i [])]<|.r 2 [.b9]<|.c (nv b ((bB t).getD i [])) []<|.q 3<|.al dw (fun g13=>.st none<|.q 1<|.q 2<|.br (.q 2<|.nil) (.r 1 [.b9]<|.c (uL (oA (J9 b ((bB t).getD i [])))) []<|.q 1<|.q 2<|.cl (nt o (bY (oA (J9 b ((bB t).getD i [])))))<|.q 1<|.br (.q 2<|.bs<|.ap (fun U' Us Vp=>.h (.n8 58 (.own 1 ((o++[bY (oA (J9 b ((bB t).getD i [])))]).map sV) U' Us Vp))<|.q 1<|.q 2<|.nil)) (.q 2<|.nil)))) (.h (.fz 10)<|.h (.n8 10 (ao o))<|.q 2<|.nil)))))))
  ((fun v1:s4=>(∀ g2:Nat,Z g2 0/\(gM a).sm/\((dm a))/\Br (!(aO a)) (Q (.sl false []) (ao (bO a t))) (Z g2 0/\∀ g5:Nat,(fun v2:V=>Z g5 0/\(uM t).sm/\((t.length<=4611686018427387904))/\(((dn t).isSome)=true->Z g2 0/\(nv a ((dn t).getD [])).sm/\((dm a)/\(a.e9.length<=100)/\(((dn t).getD []).length<=1000000)/\(l8 ((dn t).getD [])))/\∀ g8:Nat,Z g8 0/\Br ((J9 a ((dn t).getD [])).isSome) (Z g8 0/\Z g5 0/\∃ b:s4,(b=(jx a t))/\E (sV t)/\E v2/\Qr g5 (cb (v1.b7) (v1.e9) (v1.asks) (v1.ask)) g5 (cb b.b7 b.e9 b.asks b.ask)/\True) (∃ b:s4,(b=(jx a t))/\E (sV t)/\E v2/\Qr g5 (cb a.b7 a.e9 a.asks a.ask) g5 (cb b.b7 b.e9 b.asks b.ask)/\True))/\(((dn t).isSome)=false->∃ b:s4,(b=(jx a t))/\E (sV t)/\E v2/\Qr g5 (cb a.b7 a.e9 a.asks a.ask) g5 (cb b.b7 b.e9 b.asks b.ask)/\True)/\(∀ b:s4,(b=(jx a t))->(fun v3:V=>(tQ t).sm/\((t.length<=4611686018427387904))/\(∃ x:Nat×(List BL)×Nat×Nat×Nat,match x with | (j7,x9,C9,B8,s7)=>(j7<=(bB t).length/\x9=((bB t).take j7).foldl (fp b) []/\x9.length<=j7)/\E v2/\Q (.own 1 ([].map sV) 0 0 0) (.own 1 (x9.map sV) C9 B8 s7)/\E (ao (bB t))/\Q (iN (((bB t).map sV).length)) (iN ((bB t).length))/\Q (iN 0) (iN j7)/\Er g5 v3/\True)/\∀ x:Nat×(List BL)×Nat×Nat×Nat,match x with | (i,o,g,f,k)=>(i<=(bB t).length/\o=((bB t).take i).foldl (fp b) []/\o.length<=i)->(fun v4:s4=>(fun v5:List V=>Br (r8 (i:Int) (((bB t).length:Nat):Int)) (Ex (i:Int) ((bB t).map sV) (sV ((bB t).getD i []))/\True/\Z g5 0/\(nv b ((bB t).getD i [])).sm/\((dm b)/\(b.e9.length<=100)/\(((bB t).getD i []).length<=1000000)/\(l8 ((bB t).getD i [])))/\∀ g13:Nat,Z g13 0/\Br (!((J9 b ((bB t).getD i [])).isSome)) (m8 ((i:Int)+1)/\∃ x:Nat×(List BL)×Nat×Nat×Nat,match x with | (c9,m6,u7,r9,k₂)=>(c9<=(bB t).length/\m6=((bB t).take c9).foldl (fp b) []/\m6.length<=c9)/\((bB t).length-c9<(bB t).length-i)/\E v2/\Q (.own 1 (o.map sV) g f k) (.own 1 (m6.map sV) u7 r9 k₂)/\E (ao (bB t))/\E (iN ((bB t).length))/\Q (iN (i+1)) (iN c9)/\Er g5 v3/\True) (Z g13 0/\(uL v4).sm/\((dm v4))/\(((1=1/\g=g/\f=f)/\0+((o.map sV).length)<=(o.map sV).length/\V.aK (o.map sV)=false/\aM 1 (o.map sV))/\True)/\(([.sl false (((o.map sV).drop 0).take ((o.map sV).length)),sV (bY v4)]:List V)=[ao o,sV (bY v4)])/\((o.length<=1000000))/\Br (!(o.contains (bY v4))) (((1,1,g,f,k,(o.map sV).length)=(1,1,g,f,k,(o.map sV).length))/\(True)/\(V.aK v5=false)/\(aM 1 v5)/\(((o.map sV).length+v5.length)*16<=140737488355328)/\∀ U' Us Vp:Nat,((.own 1 ((o.map sV)++v5) U' Us Vp:V)=.own 1 ((o++[bY v4]).map sV) U' Us Vp)/\m8 ((i:Int)+1)/\∃ x:Nat×(List BL)×Nat×Nat×Nat,match x with | (c9,m6,u7,r9,k₂)=>(c9<=(bB t).length/\m6=((bB t).take c9).foldl (fp b) []/\m6.length<=c9)/\((bB t).length-c9<(bB t).length-i)/\E v2/\Q (.own 1 ((o++[bY v4]).map sV) U' Us Vp) (.own 1 (m6.map sV) u7 r9 k₂)/\E (ao (bB t))/\E (iN ((bB t).length))/\Q (iN (i+1)) (iN c9)/\Er g5 v3/\True) (m8 ((i:Int)+1)/\∃ x:Nat×(List BL)×Nat×Nat×Nat,match x with | (c9,m6,u7,r9,k₂)=>(c9<=(bB t).length/\m6=((bB t).take c9).foldl (fp b) []/\m6.length<=c9)/\((bB t).length-c9<(bB t).length-i)/\E v2/\Q (.own 1 (o.map sV) g f k) (.own 1 (m6.map sV) u7 r9 k₂)/\E (ao (bB t))/\E (iN ((bB t).length))/\Q (iN (i+1)) (iN c9)/\Er g5 v3/\True))) (((.sl false (V.C8 (o.map sV)):V)=ao o)/\Q (ao o) (ao (bO a t)))) ([sV (bY v4)]:List V)) (oA (J9 b ((bB t).getD i [])))) (cb b.b7 b.e9 b.asks b.ask))) (.ptr (.key 5) [] g5 0)))) (oA (J9 a ((dn t).getD [])))) ?_
 intro g2
 refine⟨rfl,rfl,ha,?_⟩
 refine bI (fun l3=>?_) fun l3=>?_
 unfold Q
 rw[show bO a t=[] from if_neg (by rw[l3];decide)]
 rfl
 refine⟨rfl,?_⟩
 intro g5
 refine⟨rfl,rfl,Zae,?_⟩
 refine⟨fun l6=>?_,fun l6=>?_,fun b hb=>?_⟩
 try simp only[nb]at l6
 refine⟨rfl,rfl,⟨ha,by have:=(eY (by simpa using l3)).2.1;omega,by have:=HA t;omega,HZ hc⟩,?_⟩
 intro g8
 refine⟨rfl,?_⟩
 refine bI (fun n0=>?_) fun n0=>?_
 refine⟨rfl,rfl,?_⟩
 exact⟨(⟨(oA (J9 a ((dn t).getD []))).b7,(oA (J9 a ((dn t).getD []))).e9,(oA (J9 a ((dn t).getD []))).asks,(oA (J9 a ((dn t).getD []))).ask⟩:s4),by first | exact xy l6 n0 | exact xR l6 n0 | exact xA l6,rfl,rfl,Zaf,trivial⟩
 exact⟨(⟨a.b7,a.e9,a.asks,a.ask⟩:s4),by first | exact xy l6 n0 | exact xR l6 n0 | exact xA l6,rfl,rfl,Zaf,trivial⟩
 try simp only[nb]at l6
 exact⟨(⟨a.b7,a.e9,a.asks,a.ask⟩:s4),by first | exact xy l6 n0 | exact xR l6 n0 | exact xA l6,rfl,rfl,Zaf,trivial⟩
 refine⟨rfl,Zae,?_⟩
 refine⟨⟨(0,[],0,0,0),?_,rfl,rfl,rfl,Zaf,rfl,rfl,trivial⟩,?_⟩
 simp
 rintro⟨i,o,g,f,k⟩ ⟨h1,h2,h3⟩
 have PM:=mI (n:=300) (fun m hm=>(Zn m hm).1) i
 have hbo:aO b=true:=by rw[hb];exact GZ (by simpa using l3)
 have hbs:dm b:=tL hbo
 have hbp:b.e9.length<=100:=by have:=(eY hbo).2.1;omega
 have E6:l8 ((bB t).getD i []):=ID hc i
 refine bI (fun x7=>?_) fun x7=>?_
 refine⟨⟨Zaa,aq (d:=[]) Zaa⟩,trivial,rfl,rfl,⟨hbs,hbp,Zaa,E6⟩,?_⟩
 intro g13
 refine⟨rfl,?_⟩
 refine bI (fun I4=>?_) fun I4=>?_
 refine⟨Zaa,?_⟩
 refine⟨(i+1,o,g,f,k),?_,?_,rfl,rfl,rfl,rfl,rfl,rfl,trivial⟩
 refine⟨Zaa,?_,Zaa⟩
 rw[foldl_succ (d:=[]) Zaa,<- h2];exact(if_neg (by simpa using I4)).symm
 exact Zai
 refine⟨rfl,rfl,NO _ _,⟨⟨⟨rfl,rfl,rfl⟩,Zab,cP (f:=sV) (fun _=>rfl) _,dY (f:=sV) (fun _=>rfl) _⟩,trivial⟩,by simp[Zax],Zaa,?_⟩
 refine bI (fun Pu=>?_) fun Pu=>?_
 refine⟨rfl,trivial,rfl,by simp[aM,V.n,V.ns],Zaj,?_⟩
 intro U' Us Vp
 refine⟨Zbk (V.own 1 · U' Us Vp) Zab,Zaa,?_⟩
 refine⟨(i+1,o++[bY (oA (J9 b ((bB t).getD i [])))],U',Us,Vp),?_,?_,rfl,rfl,rfl,rfl,rfl,rfl,trivial⟩
 refine⟨Zaa,?_,Zaj⟩
 rw[foldl_succ (d:=[]) Zaa,<- h2];exact(LJ (by simpa using I4) (by simpa using Pu)).symm
 exact Zai
 refine⟨Zaa,?_⟩
 refine⟨(i+1,o,g,f,k),?_,?_,rfl,rfl,rfl,rfl,rfl,rfl,trivial⟩
 refine⟨Zaa,?_,Zaa⟩
 rw[foldl_succ (d:=[]) Zaa,<- h2];exact(LV (by simpa using I4) (by simpa using Pu)).symm
 exact Zai
 refine⟨Zbk (V.sl false) (aT (fun _=>rfl) _),?_⟩
 unfold Q
 rw[show bO a t=_ from if_pos (by simpa using l3),<- hb,h2,Zax Zaa])
abbrev mZ(a:s4)(k:Int)(t:BL):V:=ao (if k=1 then bO a t else if k=2 then [t] else [])
def uw(a:s4)(k:Int)(t:BL):o6 Tryz.prog:=.mk 64 [cb a.b7 a.e9 a.asks a.ask,iV k,sV t] [] ((dm a)/\(t.length<=4611686018427387904)/\(l8 t)) (mZ a k t) [] (by
 rintro⟨ha,ht,hc⟩
 refine aB (N:=17) (rs:=[.tmp 6]) Tryz.func64
  (.bx (fun g3=>.q 1<|.q 1<|.q 2<|.br (.r 2 [.b9]<|.c (tM a t) []<|.q 1<|.nil) (.q 2<|.br (.q 1<|.bs<|.q 1<|.nil) (.q 1<|.nil))))
  (∀ g3:Nat,Br (r6 k 1) (Z g3 0/\(tM a t).sm/\((dm a)/\(t.length<=4611686018427387904)/\(l8 t))/\Q (ao (bO a t)) (mZ a k t)) (Br (r6 k 2) (Q (.sl false [sV t]) (mZ a k t)) (Q (.sl false []) (mZ a k t)))) ?_
 intro g3
 refine bI (fun l3=>?_) fun l3=>?_
 refine⟨rfl,rfl,⟨Zae,Zae,Zae⟩,?_⟩
 unfold Q mZ
 rw[if_pos l3]
 refine bI (fun l6=>?_) fun l6=>?_
 unfold Q mZ
 rw[if_neg l3,if_pos l6]
 rfl
 unfold Q mZ
 rw[if_neg l3,if_neg l6]
 rfl)
def wu(w:List Pg)(d:BL):o6 Tryz.prog:=.mk 31 [.mp (w.map F8),sV d] [] ((d.length<=1000000)/\(l8 d)/\((ae w d 2).2.length<=1000000)/\(l8 (ae w d 2).2)) (ao (gx w d)) [] (by
 rintro⟨hd,hc,ht,ha⟩
 refine aB (N:=26) (rs:=[.tmp 4]) Tryz.func31
  (.q 1<|.q 1<|.c (bS d) []<|.q 3<|.al dw (fun g5=>.st none<|.q 1<|.q 2<|.br (.q 1<|.nil) (.q 2<|.c (jP w d) []<|.q 5<|.r 3 [.b9]<|.c (uw (oA (ak d)) ((ae w d 2).1) ((ae w d 2).2)) []<|.q 1<|.nil)))
  ((bS d).sm/\((d.length<=1000000)/\(l8 d))/\∀ g5:Nat,Z g5 0/\Br (!((ak d).isSome)) (Q (.sl false []) (ao (gx w d))) ((jP w d).sm/\(True)/\Z g5 0/\(uw (oA (ak d)) ((ae w d 2).1) ((ae w d 2).2)).sm/\((dm (oA (ak d)))/\(((ae w d 2).2).length<=4611686018427387904)/\(l8 ((ae w d 2).2)))/\Q (ao (if ((ae w d 2).1)=1 then bO (oA (ak d)) ((ae w d 2).2) else if ((ae w d 2).1)=2 then [((ae w d 2).2)] else [])) (ao (gx w d)))) ?_
 refine⟨rfl,⟨hd,hc⟩,?_⟩
 intro g5
 refine⟨rfl,?_⟩
 refine bI (fun l3=>?_) fun l3=>?_
 unfold Q
 rw[show gx w d=[] from if_neg (by rw[<- fC];simpa using l3)]
 rfl
 refine⟨rfl,trivial,rfl,rfl,⟨pB d,Zaa,ha⟩,?_⟩
 unfold Q
 rw[show gx w d=ov d (ae w d 2).1 (ae w d 2).2 from if_pos (by rw[<- fC];simpa using l3),AO (by rw[<- fC];simpa using l3)]
 rfl)
def yU(w:List Pg)(n:BL)(d:BL):o6 Tryz.prog:=.mk 41 [.mp (w.map F8),sV n,sV d] [] ((ai w=true)/\(aZ n=true)/\(d.length<=1000000)/\(l8 d)/\((ae w (ag (oA (ak d)).b7) 2).2.length<=1000000)) (bV (jE w n d)) [] (by
 rintro⟨Wy,hno,hd,hc,ht⟩
 refine aB (N:=33) (rs:=[.tmp 6]) Tryz.func41
  (.q 1<|.q 1<|.c (bS d) []<|.q 3<|.al dw (fun g7=>.st none<|.q 1<|.r 6 [.b9]<|.cg (Gx w n (oA (ak d)))<|.q 2<|.br (.q 1<|.nil) (.q 2<|.c (jP w d) []<|.q 5<|.q 3<|.nil)))
  ((fun v1:Int×BL=>(fun v2:Bool=>((bS d).sm/\((d.length<=1000000)/\(l8 d))/\∀ g7:Nat,Z g7 0/\Gd (v2==false) (Z g7 0)/\Gd (v2==false) (((dm (oA (ak d)))/\(v1.2.length<=1000000))/\(Gx w n (oA (ak d))).sm)/\Pk v2 true (v2==false)/\Br (v2||(!(av (bC v1.1 v1.2 n).ru (if aO (oA (ak d))=true then bz (oA (ak d)) else [])))) (Q (bV false) (bV (jE w n d))) ((jP w d).sm/\(True)/\Q (bV (w4 ((ae w d 2).1) 3)) (bV (jE w n d))))) (!((ak d).isSome))) (ae w (ag (oA (ak d)).b7) 2)) ?_
 refine⟨rfl,⟨hd,hc⟩,?_⟩
 intro g7
 refine⟨rfl,fun hG=>rfl,fun hG=>⟨⟨pB d,ht⟩,rfl⟩,⟨fun _=>rfl,fun h=>by rw[h] <;> rfl⟩,?_⟩
 refine bI (fun l3=>?_) fun l3=>?_
 unfold Q
 refine Zbk bV ?_
 exact(Kx Wy hno l3).symm
 refine⟨rfl,trivial,?_⟩
 unfold Q
 refine Zbk bV ?_
 exact(JS Wy hno l3).symm)
theorem ng(k:BL)(y:Value)(a:BL):∀ es:List (BL×Value),bD (dh es k y) a=if a=k then some y else bD es a
 | []=>by
   unfold dh bD
   by_cases h:a=k
   rw[if_pos h.symm,if_pos h]
   rw[if_neg (fun c=>h c.symm),if_neg h];rfl
 | p::r=>by
   unfold dh
   by_cases h:p.1=k
   rw[if_pos h]
   show (if k=a then some y else bD r a)=if a=k then some y else if p.1=a then some p.2 else bD r a
   by_cases h2:a=k
   rw[if_pos h2.symm,if_pos h2]
   rw[if_neg (fun c=>h2 c.symm),if_neg h2,if_neg (fun c=>h2 (c.symm.trans h))]
   rw[if_neg h]
   show (if p.1=a then some p.2 else bD (dh r k y) a)=if a=k then some y else if p.1=a then some p.2 else bD r a
   rw[ng k y a r]
   by_cases h2:p.1=a
   rw[if_pos h2,if_neg (fun c=>h (h2.trans c)),if_pos h2]
   rw[if_neg h2,if_neg h2]
def hS(x:List BL×List (BL×Value))(a:BL):List BL×List (BL×Value):=(x.1++[a],dh x.2 a (.int .i64 (((x.1.count a:Nat):Int)+1)))
def hE(H:List BL):List (BL×Value):=(H.foldl hS ([],[])).2
theorem GN:∀ (H:List BL) {x:List BL×List (BL×Value)},(H.foldl hS x).1=x.1++H
 | [],x=>by simp
 | a::H,x=>by rw[List.foldl_cons,GN H];simp[hS]
theorem xB(H:List BL)(a:BL):dh (hE H) a (.int .i64 (((H.count a:Nat):Int)+1))=hE (H++[a]):=by
 unfold hE
 rw[List.foldl_append,List.foldl_cons,List.foldl_nil]
 show _=dh _ a (.int .i64 ((((H.foldl hS ([],[])).1.count a:Nat):Int)+1))
 rw[GN,List.nil_append]
theorem Cn:∀ (H:List BL) {x:List BL×List (BL×Value)},(∀ a,bD x.2 a=if a∈x.1 then some (.int .i64 ((x.1.count a:Nat):Int)) else none)->
 ∀ a,bD (H.foldl hS x).2 a=if a∈(H.foldl hS x).1 then some (.int .i64 (((H.foldl hS x).1.count a:Nat):Int)) else none
 | [],_,h=>h
 | b::H,x,h=>Cn H fun a=>by
   show bD (dh x.2 b _) a=if a∈x.1++[b] then some (.int .i64 (((x.1++[b]).count a:Nat):Int)) else none
   rw[ng,h a]
   by_cases e:a=b
   subst e
   rw[if_pos rfl,if_pos Zab,List.count_append]
   simp
   rw[if_neg e,List.count_append]
   by_cases e2:a∈x.1
   rw[if_pos e2,if_pos (by simp[e2])]
   simp[List.count_cons,Ne.symm e]
   rw[if_neg e2,if_neg (by simp[e,e2])]
theorem Cl(H:List BL)(a:BL):bD (hE H) a=if a∈H then some (.int .i64 ((H.count a:Nat):Int)) else none:=by
 have:=Cn H (x:=([],[])) (by simp[bD]) a
 rw[GN,List.nil_append]at this
 exact this
theorem IC(H:List BL)(a:BL):(H++[a]).count a=H.count a+1:=Zab
theorem CU{H:List BL}{a:BL}:1<(H++[a]).count a↔a∈H:=by
 rw[IC,<- List.count_pos_iff];omega
theorem tX:∀ (f:List BL) {l:List BL},∃ r,f.foldl dW l=l++r
 | [],l=>⟨[],Zab⟩
 | s::f,l=>by
   obtain⟨r,hr⟩:=tX f (l:=dW l s)
   rw[List.foldl_cons]
   by_cases h:aA s=true
   by_cases h2:l.contains s=true
   exact⟨r,by rw[hr,show dW l s=l from by rw[dW,if_pos h,iG,if_pos h2]]⟩
   exact⟨s::r,by rw[hr,show dW l s=l++[s] from by rw[dW,if_pos h,iG,if_neg h2]];simp⟩
   exact⟨r,by rw[hr,show dW l s=l from if_neg h]⟩
theorem zm(H:List BL)(a:BL):fh (H++[a])=dW (fh H) a:=by unfold fh;rw[List.foldl_append];rfl
theorem vv(H f:List BL):fh (H++f)=f.foldl dW (fh H):=by unfold fh;rw[List.foldl_append]
theorem rJ{H:List BL}{a:BL}:a∈fh H↔a∈H/\aA a=true:=by
 unfold fh;rw[tK];simp
theorem Hs{H:List BL}{a:BL}(h:a∈H\/aA a=false):fh (H++[a])=fh H:=by
 rw[zm]
 unfold dW
 by_cases e:aA a=true
 rw[if_pos e]
 rcases h with h | h
 exact if_pos (by simp[rJ,h,e])
 rw[e]at h;cases h
 exact if_neg e
theorem vG{H:List BL}{a:BL}(h:a ∉ H)(e:aA a=true):fh (H++[a])=fh H++[a]:=by
 rw[zm]
 unfold dW
 rw[if_pos e]
 exact if_neg (by simp[rJ,h])
theorem yJ:∀ (f:List BL) {l:List BL},(∀ x,x∈f->aA x=true)->f.foldl dW l=f.foldl iG l
 | [],_,_=>rfl
 | s::f,l,h=>by
   rw[List.foldl_cons,List.foldl_cons,show dW l s=iG l s from if_pos (h s Zab),yJ f fun x hx=>h x (by simp[hx])]
structure P3 (w:List Pg) (n:BL) (seeds H W R:List BL) (i:Nat):Prop where
 st:rN w n seeds i=(fh (H++W),R)
 at_:(fh H).length=i
 len:H.length+W.length<=12+300*i
 out:R.length<=i
theorem P3.bound{w:List Pg}{n:BL}{seeds H W R:List BL}{i:Nat}(h:P3 w n seeds H W R i)(hw:ai w=true)(hs:seeds.length<=12):i<=3700:=by
 have:=wc (n:=n) hw hs i
 rw[h.st]at this
 obtain⟨r,hr⟩:=tX W (l:=fh H)
 rw[show (fh (H++W),R).1=fh (H++W) from rfl,vv,hr,Zan,h.at_]at this
 omega
theorem MT{w:List Pg}{n:BL}{seeds:List BL}(hs:seeds.length<=12):P3 w n seeds [] seeds [] 0:=
 ⟨rfl,rfl,Zaj,Zab⟩
theorem KA{w:List Pg}{n:BL}{seeds H W R:List BL}{i:Nat}{a:BL}(h:P3 w n seeds H (a::W) R i)(e:a∈H\/aA a=false):P3 w n seeds (H++[a]) W R i:=by
 refine⟨?_,by rw[Hs e];exact h.at_,by have:=h.len;simp at this ⊢;omega,h.out⟩
 rw[h.st];simp
theorem CK{H W:List BL}{a:BL}(h:a ∉ H)(e:aA a=true):(fh (H++a::W)).getD (fh H).length []=a:=by
 rw[show H++a::W=(H++[a])++W from Zab,vv,vG h e]
 obtain⟨r,hr⟩:=tX W (l:=fh H++[a])
 rw[hr]
 simp
theorem JF{w:List Pg}{n:BL}{seeds H W R:List BL}{i:Nat}{a:BL}(h:P3 w n seeds H (a::W) R i)(e:a ∉ H)(ea:aA a=true)(hr: ¬ Qh w n a):P3 w n seeds (H++[a]) W R (i+1):=by
 refine⟨?_,by rw[vG e ea];simp[h.at_],by have:=h.len;simp at this ⊢;omega,by have:=h.out;omega⟩
 show gn w n (rN w n seeds i) i=_
 rw[h.st]
 unfold gn
 have hg:(fh (H++a::W)).getD i []=a:=by rw[<- h.at_];exact CK e ea
 simp only[hg]
 rw[if_neg hr];simp
theorem Mq{w:List Pg}{n:BL}{seeds H W R:List BL}{i:Nat}{a:BL}(h:P3 w n seeds H (a::W) R i)(e:a ∉ H)(ea:aA a=true)(hr:Qh w n a)(hf:∀ x,x∈bc w a->aA x=true):P3 w n seeds (H++[a]) (W++bc w a) (R++[a]) (i+1):=by
 refine⟨?_,by rw[vG e ea];simp[h.at_],by have:=h.len;have:=qe w a;simp at *;omega,by have:=h.out;simp;omega⟩
 show gn w n (rN w n seeds i) i=_
 rw[h.st]
 unfold gn
 have hg:(fh (H++a::W)).getD i []=a:=by rw[<- h.at_];exact CK e ea
 simp only[hg]
 rw[if_pos hr,show H++[a]++(W++bc w a)=(H++a::W)++bc w a from Zab,vv _ (bc w a),yJ _ hf]
theorem Kl{w:List Pg}{n:BL}{seeds H R:List BL}{i:Nat}(h:P3 w n seeds H [] R i)(hw:ai w=true)(hn:aZ n=true)(hs:seeds.length<=12):dN w n seeds=R:=by
 have hb:=h.bound hw hs
 have A7:=h.st
 rw[List.append_nil]at A7
 rw[Iq (i:=i) hw hn hs Zaa (by rw[A7];show (fh H).length<=i;rw[h.at_];exact Zba _),A7]
theorem Cd{b:s4}:∀ (ls:List BL) {o:List BL},(∀ m,m∈o->aA m=true/\l8 m)->∀ m,m∈ls.foldl (fp b) o->aA m=true/\l8 m
 | [],_,h=>h
 | l::ls,o,h=>by
   refine Cd ls fun m hm=>?_
   unfold fp at hm
   split at hm
   rename_i hs
   rcases uA.1 hm with hm | rfl
   exact h m hm
   have hk:=Ds hs
   exact⟨by rw[show bY (oA (J9 b l))=cX (oA (J9 b l)) from if_pos hk];exact Dl hk,mH _⟩
   exact h m hm
theorem yx{a:s4}{t:BL}:∀ m,m∈bO a t->aA m=true/\l8 m:=by
 unfold bO
 split
 exact Cd _ Zab
 simp
theorem Ke{w:List Pg}{a:BL}(hw:ai w=true)(hz:∀ i,m4 (w.getD i l9))(h:(ae w a 2).1=2):aA (ae w a 2).2=true/\l8 (ae w a 2).2:=by
 unfold ae at h ⊢
 split at h
 cases h
 rename_i h1
 rw[if_neg h1]
 split at h
 cases h
 rename_i h2
 rw[if_neg h2]
 split at h
 cases h
 rename_i h3
 rw[if_neg h3]
 obtain⟨i,hi⟩:=oM w a (by simpa using h1)
 simp only
 rw[hi]at h3 ⊢
 have hl:i<w.length:=by
  rcases Nat.lt_or_ge i w.length with c | c
  exact c
  exact absurd (by rw[Zak,List.getElem?_eq_none c];rfl) h3
 unfold ai at hw
 simp only[Zam,Zbi]at hw
 have hp:=(hw.1 i hl).1
 unfold eI at hp
 simp only[Zam,Bool.or_eq_true,Zbj]at hp
 rcases hp.2 with c | c
 exact absurd c h3
 exact⟨c.2,(hz i).la⟩
theorem oy{w:List Pg}{a:BL}(hw:ai w=true)(hz:∀ i,m4 (w.getD i l9)):∀ m,m∈bc w a->aA m=true/\l8 m:=by
 intro m hm
 unfold bc at hm
 split at hm
 unfold ov at hm
 split at hm
 exact yx m hm
 split at hm
 rename_i h2
 rw[Zat.1 hm]
 exact Ke hw hz h2
 simp at hm
 simp at hm
theorem CB{w:List Pg}{a:BL}(hz:∀ i,m4 (w.getD i l9)):l8 (ae w a 2).2:=by
 unfold ae
 split
 exact bp
 rename_i h1
 obtain⟨i,hi⟩:=oM w a (by simpa using h1)
 rw[hi]
 split
 exact bp
 split
 exact(hz i).ta
 exact(hz i).la
section
variable {P:Program}
def VL(t0:Nat)(es:List (BL×Value))(k:BL)(v:V):Cu P where
 X:=Unit
 pre N o A:=match o.op,o.dst with
  | .lookup T x kx false,some d=>match tD P T,Nat.blt d N with
    | some (.map kt et),true=>match tD P kt,A.ev x,A.get t0 with
      | some .str,.lit (.map (some g)),.om QA g'=>(g'=g/\QA=es)/\A.ev kx=sV k/\((∃ y,bD es k=some y/\v.val? =some y)\/(bD es k=none/\∃ y,v.val? =some y/\∀ w,(zeroValue et).run P w=.ok y w))
      | _,_,_=>False
    | _,_=>False
  | _,_=>False
 post _ o A:=match o.dst with
  | some d=>A.put (some d) v
  | none=>A
 ok:=by
  rintro N ⟨dst,op,ty,pos,after,D5⟩ A K-hp hK
  replace hK:=hK ()
  simp only at hp hK
  split at hp
  rename_i T x kx d
  split at hp
  rename_i kt et e1 e2
  split at hp
  rename_i g QA g' e3 e4 e5
  obtain⟨⟨rfl,rfl⟩,hk,hy⟩:=hp
  obtain⟨td,hu,hd⟩:=df e1
  have hu:P.underlying T=some (.map kt et):=by
   cases td <;> simp_all[dS]
  obtain⟨TC,PS,Se⟩:=df e3
  have PS:P.underlying kt=some .string:=by
   cases TC <;> simp_all[dS]
  have G9:∃ y,v.val? =some y:=by
   rcases hy with ⟨y,_,h⟩ | ⟨_,y,h,_⟩ <;> exact⟨y,h⟩
  obtain⟨y,hv⟩:=G9
  refine hX rfl (bW e2) hK fun Pb Kb a w F hs=>⟨y,?_,vX hv⟩
  have hk:=cF hs hk
  have hm:=cF hs e4
  have h0:=hs.slot t0
  rw[e5]at h0
  have h0:R w Pb (.om QA g') [a.tmps.getD t0 undef] (F (.slot t0)):=h0
  obtain⟨hF,hc,Zh,en,cl,hb,Tt,hnd,hcl⟩:=h0
  obtain⟨f1,f2⟩:=my k QA en.toList 0 Tt
  have U2:∀ e,(Instr.checkKey e 10000 kt (.string (Str k))).run P w=.ok () w:=fun e=>pd PS
  rcases hy with ⟨y',h1,h2⟩ | ⟨h1,y',h2,Xk⟩
  rw[hv]at h2;obtain rfl:=Option.some.inj h2
  obtain⟨j,j1,_⟩:=f2 _ h1
  rw[show (⟨k.toArray⟩:ByteArray)=Str k from rfl]at j1
  simp[execOp,hm,hk,Instr.lookup,run_underlying hu,MapKept.run_getObj_map hb,U2,MapKept.run_findKey PS j1,Result.andThen]
  rw[hv]at h2;obtain rfl:=Option.some.inj h2
  have j1:=f1 h1
  rw[show (⟨k.toArray⟩:ByteArray)=Str k from rfl]at j1
  simp[execOp,hm,hk,Instr.lookup,run_underlying hu,MapKept.run_getObj_map hb,U2,MapKept.run_findKey PS j1,Result.andThen,Xk]
  exact hp.elim
  exact hp.elim
  exact hp.elim
def lnC(t0 sz:Nat)(xs:List V)(g q c:Nat):Cu P where
 X:=PLift (xs.length<=c)
 pre N o A:=match o.dst with
  | some d=>match Nat.blt d N,H8 P A o.op with
    | true,some (C,_)=>A.get t0=.own sz xs g q c/\C
    | _,_=>False
  | none=>False
 post _ o A:=match H8 P A o.op with
  | some (_,v)=>A.put o.dst v
  | none=>A
 ok:=by
  rintro N ⟨dst,op,ty,pos,after,D5⟩ A K-hp hK
  simp only at hp hK
  split at hp
  rename_i d
  split at hp
  rename_i C v e1 e2
  obtain⟨h1,hC⟩:=hp
  simp only[e2]at hK
  intro Pb Kb a w F Q hs
  have h0:=hs.slot t0
  rw[h1]at h0
  have h0:R w Pb (.own sz xs g q c) [a.tmps.getD t0 undef] (F (.slot t0)):=h0
  have hle:xs.length<=c:=by
   rcases h0 with ⟨_,rfl,_⟩ | ⟨_,_,h,_⟩
   simp
   exact h
  exact uq (o:=⟨some d,op,ty,pos,after,D5⟩) e2 hC (bW e1) (hK ⟨hle⟩) Pb Kb a w F Q hs
  exact hp.elim
  exact hp.elim
end
theorem AR(H:List BL)(a:BL):(∃ y,bD (hE H) a=some y/\(iN (H.count a):V).val? =some y)\/(bD (hE H) a=none/\∃ y,(iN (H.count a):V).val? =some y/\∀ w,(zeroValue 3).run Tryz.prog w=.ok y w):=by
 have h:=Cl H a
 by_cases e:a∈H
 rw[if_pos e]at h
 exact .inl ⟨_,h,rfl⟩
 rw[if_neg e]at h
 refine .inr ⟨h,.int .i64 0,by rw[List.count_eq_zero.2 e];rfl,fun w=>by kernel_rfl⟩
theorem tY{w:List Pg}{a:BL}(hw:ai w=true):gx w a=bc w a:=by
 unfold gx bc
 by_cases e:aA a=true
 rw[if_pos e,if_pos ⟨hw,e⟩]
 rw[if_neg e,if_neg (fun c=>e c.2)]
theorem rz{w:List Pg}{n a:BL}:jE w n a=true↔aA a=true/\Qh w n a:=by
 unfold jE Qh
 simp only[Zam,Bool.not_eq_true',beq_eq_false_iff_ne,ne_eq,not_or,Bool.not_eq_false]
 constructor
 rintro⟨h1,h2,h3⟩;exact⟨h1,h3,h2⟩
 rintro⟨h1,h3,h2⟩;exact⟨h1,h2,h3⟩
def Wt(H:List BL)(a:BL)(i:Nat):Nat:=if a∈H\/aA a=false then i else i+1
theorem Mo(H:List BL)(a:BL)(i:Nat):i<=Wt H a i:=by unfold Wt;split <;> omega
theorem Ir{w:List Pg}{n:BL}{seeds H W R:List BL}{i:Nat}{a:BL}(h:P3 w n seeds H (a::W) R i)(e:a∈H\/jE w n a=false):P3 w n seeds (H++[a]) W R (Wt H a i):=by
 unfold Wt
 by_cases q:a∈H\/aA a=false
 rw[if_pos q];exact KA h q
 rw[if_neg q]
 have q1:a ∉ H:=fun c=>q (.inl c)
 have q2:aA a=true:=by
  cases e2:aA a with
  | true=>rfl
  | false=>exact absurd (.inr e2) q
 refine JF h q1 q2 fun c=>?_
 rcases e with e | e
 exact q1 e
 rw[rz.2 ⟨q2,c⟩]at e;cases e
theorem ME{w:List Pg}{n:BL}{seeds H W R:List BL}{i:Nat}{a:BL}(hw:ai w=true)(hz:∀ i,m4 (w.getD i l9))(h:P3 w n seeds H (a::W) R i)(e:a ∉ H)(hr:jE w n a=true):P3 w n seeds (H++[a]) (W++gx w a) (R++[a]) (i+1):=by
 rw[tY hw]
 exact Mq h e (rz.1 hr).1 (rz.1 hr).2 fun x hx=>(oy hw hz x hx).1
theorem DZ{w:List Pg}{a y:BL}(hw:ai w=true)(hz:∀ i,m4 (w.getD i l9))(hy:y∈gx w a):y.length<=1000/\l8 y:=by
 rw[tY hw]at hy
 refine⟨?_,(oy hw hz y hy).2⟩
 unfold bc at hy
 split at hy
 unfold ov at hy
 split at hy
 have:=(xY _ _).2 y hy;omega
 split at hy
 rw[Zat.1 hy]
 have:=mL (w:=w) (a:=a) (k:=2) (m:=300) (fun i=>⟨(hz i).t,by have:=(hz i).l;omega⟩)
 omega
 simp at hy
 simp at hy
def sK(w:List Pg)(n:BL)(seeds:List BL):o6 Tryz.prog:=.mk 19 [cC w,sV n,ao seeds] [] ((w.length<=30)/\(∀ i,m4 (w.getD i l9))/\(n.length<=1000000)/\(∀ x,x∈seeds->x.length<=1000/\l8 x)/\(seeds.length<=1000000)) (ao (dN w n seeds)) [] (by
 rintro⟨hw,hz,hn,hs,hl⟩
 refine aB (N:=66) (rs:=[.tmp 6]) Tryz.func19
  (.q 1<|.q 1<|.sp (ai w) (.c (jd w) []<|.q 5<|.q 4<|.cg (iD n)<|.q 7<|.br (.q 1<|.nil) (.q 1<|.cu UG (fun Yz=>.q 1<|.q 1<|.c (jI seeds) []<|.q 1<|.h (.H9 9 1)<|.ot 11 (fun g11 X' YC=>.loop ((List BL)×(List BL)×(List BL)×Nat×Nat×Nat×Nat×Nat×Nat×Nat×Nat) (fun (H,W,R,i,gm,x1,x2,x3,y1,y2,y3)=>⟨[(1,sV n),(7,.mp (w.map F8)),(9,.own 1 (R.map sV) x1 x2 x3),(10,.om (hE H) gm),(11,.own 1 (W.map sV) y1 y2 y3)],[]⟩) (fun (H,W,R,i,gm,x1,x2,x3,y1,y2,y3)=>P3 w n seeds H W R i/\(∀ y,y∈W->y.length<=1000/\l8 y)) (fun (H,W,R,i,gm,x1,x2,x3,y1,y2,y3)=>W.length+301*(3700-i)) (fun (H,W,R,i,gm,x1,x2,x3,y1,y2,y3)=>.q 1<|.cu (lnC 11 1 (W.map sV) y1 y2 y3) (fun Q8=>.q 1<|.br (.r 4 [sV (W.getD 0 [])]<|.q 2<|.rs<|.h (.n8 11 (.own 1 ((W.drop 1).map sV) y1 (y2+(0+1)*1) (y3-1)))<|.q 2<|.cu (VL 10 (hE H) (W.getD 0 []) (iN (H.count (W.getD 0 [])))) (fun _=>.q 1<|.cu (Ri 10 (hE H) (W.getD 0 []) (.int .i64 (((H.count (W.getD 0 []))+1:Nat):Int))) (fun _=>.h (.n8 10 (.om (hE (H++[(W.getD 0 [])])) gm))<|.q 2<|.cu (VL 10 (hE (H++[(W.getD 0 [])])) (W.getD 0 []) (iN ((H++[(W.getD 0 [])]).count (W.getD 0 [])))) (fun _=>.q 5<|.cg (yU w n (W.getD 0 []))<|.q 2<|.br (.nil) (.q 2<|.bs<|.ap (fun U9 Ur Vo=>.h (.n8 59 (.own 1 ((R++[(W.getD 0 [])]).map sV) U9 Ur Vo))<|.q 1<|.q 3<|.c (wu w (W.getD 0 [])) []<|.ap (fun U7 Up Vm=>.h (.n8 64 (.own 1 (((W.drop 1)++(gx w (W.getD 0 []))).map sV) U7 Up Vm))<|.q 1<|.nil))))))) (.h (.fz 9)<|.h (.n8 9 (ao R))<|.q 2<|.nil))))))) (.c (kH w) []<|.q 5<|.q 4<|.cg (iD n)<|.q 7<|.br (.q 1<|.nil) (.nil)))
  (((ai w)=true->(jd w).sm/\((w.length<=30)/\(∀ i,m4 (w.getD i l9))/\(ai w=true))/\Gd ((!true)==false) (((n.length<=4611686018427387904))/\(iD n).sm)/\Pk (!true) true ((!true)==false)/\Pk ((!true)||(!(aZ n))) true (((!true)||(!(aZ n)))==false)/\Br (((!true)||(!(aZ n)))||(w3 (((seeds.map sV).length:Nat):Int) 12)) (Q (.sl false []) (ao (dN w n seeds))) (True/\∀ Yz:Nat,(jI seeds).sm/\((seeds.length<=1000000))/\∀ g11 X' YC:Nat,(∃ x:(List BL)×(List BL)×(List BL)×Nat×Nat×Nat×Nat×Nat×Nat×Nat×Nat,match x with | (X1,Wi,X0,j7,N7,N1,N0,M',Xb,Xa,W9)=>(P3 w n seeds X1 Wi X0 j7/\(∀ y,y∈Wi->y.length<=1000/\l8 y))/\E (sV n)/\E (.mp (w.map F8))/\Q (.own 1 ([].map sV) 0 0 0) (.own 1 (X0.map sV) N1 N0 M')/\Q (.om [] Yz) (.om (hE X1) N7)/\Q (.own 1 (seeds.map sV) g11 X' YC) (.own 1 (Wi.map sV) Xb Xa W9)/\True)/\∀ x:(List BL)×(List BL)×(List BL)×Nat×Nat×Nat×Nat×Nat×Nat×Nat×Nat,match x with | (H,W,R,i,gm,x1,x2,x3,y1,y2,y3)=>(P3 w n seeds H W R i/\(∀ y,y∈W->y.length<=1000/\l8 y))->(((.own 1 (W.map sV) y1 y2 y3):V)=.own 1 (W.map sV) y1 y2 y3/\True)/\∀ Q8:PLift ((W.map sV).length<=y3),Br (w3 (((W.map sV).length:Nat):Int) 0) (In 0 ((W.map sV).length)/\(V.at y1 y2 (.own 1 (W.map sV) y1 y2 y3) [0+0]=some (y1,(y2+(0+0)*1),sV (W.getD 0 [])))/\((0:Int)<=(1:Int)/\(1:Int)<=((W.map sV).length:Int)/\((W.map sV).length:Int)<=((W.map sV).length)/\1=1)/\((11,1,y1,y2)=(11,1,y1,y2))/\((0+1)+(((W.map sV).length)-1)<=(W.map sV).length/\(0+1)+(y3-1)<=y3/\V.aK (W.map sV)=false)/\((.own 1 (((W.map sV).drop (0+1)).take (((W.map sV).length)-1)) y1 (y2+(0+1)*1) (y3-1):V)=.own 1 ((W.drop 1).map sV) y1 (y2+(0+1)*1) (y3-1))/\(((gm:Nat)=gm/\(hE H:List (BL×Value))=hE H)/\((sV (W.getD 0 []):V)=sV (W.getD 0 []))/\((∃ y,bD (hE H) (W.getD 0 [])=some y/\(iN (H.count (W.getD 0 [])):V).val? =some y)\/(bD (hE H) (W.getD 0 [])=none/\∃ y,(iN (H.count (W.getD 0 [])):V).val? =some y/\∀ w,(zeroValue 3).run Tryz.prog w=.ok y w)))/\∀ _:Unit,m8 (((H.count (W.getD 0 []):Nat):Int)+1)/\(((gm:Nat)=gm/\(hE H:List (BL×Value))=hE H)/\((sV (W.getD 0 []):V)=sV (W.getD 0 []))/\(iN ((H.count (W.getD 0 []))+1):V).val? =some (.int .i64 (((H.count (W.getD 0 []))+1:Nat):Int)))/\∀ _:Unit,((.om (dh (hE H) (W.getD 0 []) (.int .i64 (((H.count (W.getD 0 []))+1:Nat):Int))) gm:V)=.om (hE (H++[(W.getD 0 [])])) gm)/\(((gm:Nat)=gm/\(hE (H++[(W.getD 0 [])]):List (BL×Value))=hE (H++[(W.getD 0 [])]))/\((sV (W.getD 0 []):V)=sV (W.getD 0 []))/\((∃ y,bD (hE (H++[(W.getD 0 [])])) (W.getD 0 [])=some y/\(iN ((H++[(W.getD 0 [])]).count (W.getD 0 [])):V).val? =some y)\/(bD (hE (H++[(W.getD 0 [])])) (W.getD 0 [])=none/\∃ y,(iN ((H++[(W.getD 0 [])]).count (W.getD 0 [])):V).val? =some y/\∀ w,(zeroValue 3).run Tryz.prog w=.ok y w)))/\∀ _:Unit,Gd ((w3 (((H++[(W.getD 0 [])]).count (W.getD 0 []):Nat):Int) 1)==false) (((ai w=true)/\(aZ n=true)/\((W.getD 0 []).length<=1000000)/\(l8 (W.getD 0 []))/\((ae w (ag (oA (ak (W.getD 0 []))).b7) 2).2.length<=1000000))/\(yU w n (W.getD 0 [])).sm)/\Pk (w3 (((H++[(W.getD 0 [])]).count (W.getD 0 []):Nat):Int) 1) true ((w3 (((H++[(W.getD 0 [])]).count (W.getD 0 []):Nat):Int) 1)==false)/\Br ((w3 (((H++[(W.getD 0 [])]).count (W.getD 0 []):Nat):Int) 1)||(!(jE w n (W.getD 0 [])))) (∃ x:(List BL)×(List BL)×(List BL)×Nat×Nat×Nat×Nat×Nat×Nat×Nat×Nat,match x with | (To,Qv,Tl,c9,w9,w8,w7,w6,Sv,Su,St)=>(P3 w n seeds To Qv Tl c9/\(∀ y,y∈Qv->y.length<=1000/\l8 y))/\(Qv.length+301*(3700-c9)<W.length+301*(3700-i))/\E (sV n)/\E (.mp (w.map F8))/\Q (.own 1 (R.map sV) x1 x2 x3) (.own 1 (Tl.map sV) w8 w7 w6)/\Q (.om (hE (H++[(W.getD 0 [])])) gm) (.om (hE To) w9)/\Q (.own 1 ((W.drop 1).map sV) y1 (y2+(0+1)*1) (y3-1)) (.own 1 (Qv.map sV) Sv Su St)/\True) (((1,1,x1,x2,x3,(R.map sV).length)=(1,1,x1,x2,x3,(R.map sV).length))/\(True)/\(V.aK ([sV (W.getD 0 [])]:List V)=false)/\(aM 1 ([sV (W.getD 0 [])]:List V))/\(((R.map sV).length+([sV (W.getD 0 [])]:List V).length)*16<=140737488355328)/\∀ U9 Ur Vo:Nat,((.own 1 ((R.map sV)++([sV (W.getD 0 [])]:List V)) U9 Ur Vo:V)=.own 1 ((R++[(W.getD 0 [])]).map sV) U9 Ur Vo)/\(wu w (W.getD 0 [])).sm/\(((W.getD 0 []).length<=1000000)/\(l8 (W.getD 0 []))/\((ae w (W.getD 0 []) 2).2.length<=1000000)/\(l8 (ae w (W.getD 0 []) 2).2))/\((1,1,y1,(y2+(0+1)*1),(y3-1),((W.drop 1).map sV).length)=(1,1,y1,(y2+(0+1)*1),(y3-1),((W.drop 1).map sV).length))/\(True)/\(V.aK ((gx w (W.getD 0 [])).map sV)=false)/\(aM 1 ((gx w (W.getD 0 [])).map sV))/\((((W.drop 1).map sV).length+((gx w (W.getD 0 [])).map sV).length)*16<=140737488355328)/\∀ U7 Up Vm:Nat,((.own 1 (((W.drop 1).map sV)++((gx w (W.getD 0 [])).map sV)) U7 Up Vm:V)=.own 1 (((W.drop 1)++(gx w (W.getD 0 []))).map sV) U7 Up Vm)/\∃ x:(List BL)×(List BL)×(List BL)×Nat×Nat×Nat×Nat×Nat×Nat×Nat×Nat,match x with | (To,Qv,Tl,c9,w9,w8,w7,w6,Sv,Su,St)=>(P3 w n seeds To Qv Tl c9/\(∀ y,y∈Qv->y.length<=1000/\l8 y))/\(Qv.length+301*(3700-c9)<W.length+301*(3700-i))/\E (sV n)/\E (.mp (w.map F8))/\Q (.own 1 ((R++[(W.getD 0 [])]).map sV) U9 Ur Vo) (.own 1 (Tl.map sV) w8 w7 w6)/\Q (.om (hE (H++[(W.getD 0 [])])) gm) (.om (hE To) w9)/\Q (.own 1 (((W.drop 1)++(gx w (W.getD 0 []))).map sV) U7 Up Vm) (.own 1 (Qv.map sV) Sv Su St)/\True)) (((.sl false (V.C8 (R.map sV)):V)=ao R)/\Q (ao R) (ao (dN w n seeds)))))/\((ai w)=false->(kH w).sm/\((w.length<=30)/\(∀ i,m4 (w.getD i l9))/\(ai w=false))/\Gd ((!false)==false) (((n.length<=4611686018427387904))/\(iD n).sm)/\Pk (!false) true ((!false)==false)/\Pk ((!false)||(!(aZ n))) true (((!false)||(!(aZ n)))==false)/\Br (((!false)||(!(aZ n)))||(w3 (((seeds.map sV).length:Nat):Int) 12)) (Q (.sl false []) (ao (dN w n seeds))) (False))) ?_
 refine⟨fun B7=>?_,fun B7=>?_⟩
 have N6:=B7
 try simp only[nb]at N6
 refine⟨rfl,⟨hw,hz,B7⟩,fun hG=>⟨by(try simp only[nb]at hG);omega,rfl⟩,⟨fun _=>rfl,fun h=>by rw[h] <;> rfl⟩,⟨fun _=>rfl,fun h=>by rw[h] <;> rfl⟩,?_⟩
 refine bI (fun l3=>?_) fun l3=>?_
 unfold Q
 rw[show dN w n seeds=[] from if_neg (fun c=>by have q1:=c.2.1;have q2:=c.2.2;(simp_all) <;> omega)]
 rfl
 have hno:aZ n=true:=l3.1.2
 have OX:seeds.length<=12:=by have:=l3.2;omega
 refine⟨trivial,?_⟩
 intro Yz
 refine⟨rfl,Zaa,?_⟩
 intro g11 X' YC
 refine⟨⟨([],seeds,[],0,Yz,0,0,0,g11,X',YC),?_,rfl,rfl,rfl,Zaf,rfl,trivial⟩,?_⟩
 exact⟨MT OX,hs⟩
 rintro⟨H,W,R,i,gm,x1,x2,x3,y1,y2,y3⟩ ⟨h1,h2⟩
 have hib:=h1.bound B7 OX
 have hwl:=h1.len
 have O1:=h1.out
 have Yd:=sC (p:=fun y:BL=>y.length<=1000000/\l8 y) (fun y hy=>⟨by have:=(h2 y hy).1;omega,(h2 y hy).2⟩) ⟨Zab,bp⟩ 0
 have hcnt:H.count (W.getD 0 [])<=H.length:=List.count_le_length
 refine⟨⟨rfl,trivial⟩,?_⟩
 intro Q8
 have Q8:=Q8.down
 simp only[Zaw]at Q8
 refine bI (fun l6=>?_) fun l6=>?_
 refine⟨Zah,ig (by rw[Zau];exact aq (d:=[]) Zaa),⟨Zaa,Zaj,Zab,rfl⟩,rfl,⟨by simp <;> omega,Zaj,cP (fun _=>rfl) _⟩,Zbk (V.own 1 · y1 (y2+(0+1)*1) (y3-1)) (by rw[<- List.map_drop,<- List.map_take];refine Zbk _ ?_;rw[Zax Zab]),⟨⟨rfl,rfl⟩,rfl,AR H (W.getD 0 [])⟩,?_⟩
 intro _
 refine⟨Zaa,⟨⟨rfl,rfl⟩,rfl,rfl⟩,?_⟩
 intro _
 refine⟨Zbk (V.om · gm) (xB H (W.getD 0 [])),⟨⟨rfl,rfl⟩,rfl,AR (H++[(W.getD 0 [])]) (W.getD 0 [])⟩,?_⟩
 intro _
 refine⟨fun hG=>⟨⟨B7,hno,Yd.1,Yd.2,by(try simp only[nb]at hG);have:=mL (w:=w) (a:=ag (oA (ak (W.getD 0 []))).b7) (k:=2) (m:=300) (fun i=>⟨(hz i).t,by have:=(hz i).l;omega⟩);omega⟩,rfl⟩,⟨fun _=>rfl,fun h=>by rw[h] <;> rfl⟩,?_⟩
 refine bI (fun n0=>?_) fun n0=>?_
 have ZF:W=(W.getD 0 [])::W.drop 1:=drop_cons (l:=W) (i:=0) Zaa []
 have I7:P3 w n seeds (H++[(W.getD 0 [])]) (W.drop 1) R (Wt H (W.getD 0 []) i):=Ir (by rw[<- ZF];exact h1) (by first | exact n0.imp (fun h=>CU.1 Zaa) id | exact n0)
 have hni:=Mo H (W.getD 0 []) i
 refine⟨(H++[(W.getD 0 [])],W.drop 1,R,Wt H (W.getD 0 []) i,gm,x1,x2,x3,y1,y2+(0+1)*1,y3-1),?_,?_,rfl,rfl,rfl,rfl,rfl,trivial⟩
 exact⟨I7,fun y hy=>h2 y (List.mem_of_mem_drop hy)⟩
 (try simp only[Zan,List.length_drop]);omega
 refine⟨rfl,trivial,rfl,by simp[aM,V.n,V.ns],by(try simp only[Zan,Zaw,Zap,Zas,List.length_drop]);omega,?_⟩
 intro U9 Ur Vo
 refine⟨Zbk (V.own 1 · U9 Ur Vo) Zab,?_⟩
 have hfl:(gx w (W.getD 0 [])).length<=300:=by rw[tY B7];exact qe _ _
 refine⟨rfl,⟨Yd.1,Yd.2,by have:=mL (w:=w) (a:=(W.getD 0 [])) (k:=2) (m:=300) (fun i=>⟨(hz i).t,by have:=(hz i).l;omega⟩);omega,CB hz⟩,rfl,trivial,(cP (f:=sV) (fun _=>rfl) _),(dY (f:=sV) (fun _=>rfl) _),by(try simp only[Zan,Zaw,Zap,Zas,List.length_drop]);omega,?_⟩
 intro U7 Up Vm
 refine⟨Zbk (V.own 1 · U7 Up Vm) ((Za9 ..).symm),?_⟩
 have ZF:W=(W.getD 0 [])::W.drop 1:=drop_cons (l:=W) (i:=0) Zaa []
 have I7:P3 w n seeds (H++[(W.getD 0 [])]) (W.drop 1++gx w (W.getD 0 [])) (R++[(W.getD 0 [])]) (i+1):=ME B7 hz (by rw[<- ZF];exact h1) (fun c=>by have:=CU.2 c;omega) n0.2
 have hnb:=I7.bound B7 OX
 refine⟨(H++[(W.getD 0 [])],(W.drop 1)++(gx w (W.getD 0 [])),R++[(W.getD 0 [])],i+1,gm,U9,Ur,Vo,U7,Up,Vm),?_,?_,rfl,rfl,rfl,rfl,rfl,trivial⟩
 exact⟨I7,fun y hy=>(Zav.1 hy).elim (fun hy=>h2 y (List.mem_of_mem_drop hy)) (fun hy=>DZ B7 hz hy)⟩
 (try simp only[Zan,List.length_drop]);omega
 refine⟨Zbk (V.sl false) (aT (fun _=>rfl) _),?_⟩
 unfold Q
 rw[show W=[] from Za3 Zaa]at h1
 rw[Kl h1 B7 hno OX]
 · have N6:=B7
   try simp only[nb]at N6
   refine⟨rfl,⟨hw,hz,B7⟩,fun hG=>⟨by(try simp only[nb]at hG);omega,rfl⟩,⟨fun _=>rfl,fun h=>by rw[h] <;> rfl⟩,⟨fun _=>rfl,fun h=>by rw[h] <;> rfl⟩,?_⟩
   refine bI (fun x7=>?_) fun x7=>?_
   unfold Q
   rw[show dN w n seeds=[] from if_neg (fun c=>by rw[B7]at c;exact absurd c.1 Zad)]
   rfl
   · all_goals (first | exact absurd x7.1 Zad | simp_all))
theorem CJ{l r:List BL}{i:Nat}(h:i<l.length):(l++r).take (i+1)=l.take i++[l.getD i []]:=by
 rw[List.take_append_of_le_length Zaa,bA h []]
theorem AB(w:List Pg)(n:BL)(seeds:List BL):∀ i,(rN w n seeds i).2=((rN w n seeds i).1.take i).filter fun a=>decide (Qh w n a)
 | 0=>by simp[rN]
 | i+1=>by
   have ih:=AB w n seeds i
   show (gn w n (rN w n seeds i) i).2=((gn w n (rN w n seeds i) i).1.take (i+1)).filter _
   revert ih
   generalize rN w n seeds i=X
   intro ih
   by_cases hl:i<X.1.length
   unfold gn
   split
   rename_i h
   obtain⟨r,hr⟩:=va (bc w (X.1.getD i [])) (l:=X.1)
   simp only
   rw[hr,CJ hl,List.filter_append,<- ih,List.filter_cons_of_pos (by rw[Zbi];exact h)]
   rfl
   rename_i h
   have:=CJ (r:=[]) hl
   rw[List.append_nil]at this
   rw[this,List.filter_append,<- ih,List.filter_cons_of_neg (by rw[Zbi];exact h)]
   simp
   rw[yn Zaa,ih,Zax Zaa,Zax Zaa]
theorem xn(w:List Pg)(n:BL)(seeds:List BL)(i:Nat):∀ k,∃ r,(rN w n seeds (i+k)).1=(rN w n seeds i).1++r
 | 0=>⟨[],Zab⟩
 | k+1=>by
   obtain⟨r,hr⟩:=xn w n seeds i k
   show ∃ r,(gn w n (rN w n seeds (i+k)) (i+k)).1=_
   unfold gn
   split
   obtain⟨r2,M0⟩:=va (bc w ((rN w n seeds (i+k)).1.getD (i+k) [])) (l:=(rN w n seeds (i+k)).1)
   exact⟨r++r2,by simp only;rw[M0,hr,List.append_assoc]⟩
   exact⟨r,hr⟩
def tB(w:List Pg)(n:BL)(seeds:List BL):List BL:=(rN w n seeds 5000).1
theorem GJ{w:List Pg}{n:BL}{seeds:List BL}(hw:ai w=true)(hn:aZ n=true)(hs:seeds.length<=12):dN w n seeds=(tB w n seeds).filter fun a=>decide (Qh w n a):=by
 rw[show dN w n seeds=(rN w n seeds 5000).2 from if_pos ⟨hw,hn,hs⟩,AB,Zax (by have:=wc (n:=n) hw hs 5000;omega)]
 rfl
theorem pX{w:List Pg}{n:BL}{seeds:List BL}{a:BL}(hw:ai w=true)(hn:aZ n=true)(hs:seeds.length<=12):a∈dN w n seeds↔a∈tB w n seeds/\Qh w n a:=by
 rw[GJ hw hn hs,List.mem_filter];simp
theorem GV{w:List Pg}{n:BL}{seeds:List BL}{a:BL}(h:a∈dN w n seeds):ai w=true/\aZ n=true/\seeds.length<=12:=by
 unfold dN at h
 split at h
 assumption
 simp at h
theorem Hf{w:List Pg}{n:BL}{seeds:List BL}{s:BL}(h:s∈seeds)(hn:aA s=true):s∈tB w n seeds:=by
 obtain⟨r,hr⟩:=xn w n seeds 0 5000
 unfold tB
 rw[show (5000:Nat)=0+5000 from rfl,hr]
 exact List.mem_append_left _ (rJ.2 ⟨h,hn⟩)
theorem GS{w:List Pg}{n:BL}{seeds:List BL}{a x:BL}(hw:ai w=true)(hs:seeds.length<=12)(h:a∈tB w n seeds)(ho:Qh w n a)(hx:x∈bc w a):x∈tB w n seeds:=by
 unfold tB at h
 obtain⟨j,hj,e⟩:=Zbe.1 h
 have hl:=wc (n:=n) hw hs 5000
 obtain⟨r,hr⟩:=xn w n seeds j (5000-j)
 rw[show j+(5000-j)=5000 from Zaa]at hr
 have hjl:j<(rN w n seeds j).1.length:=by
  rcases Nat.lt_or_ge j (rN w n seeds j).1.length with c | c
  exact c
  have:=xL (n:=n) (w:=w) (seeds:=seeds) (i:=j) c (5000-j)
  rw[show j+(5000-j)=5000 from Zaa]at this
  rw[this]at hj;omega
 have hg:(rN w n seeds j).1.getD j []=a:=by
  have e2:(rN w n seeds 5000).1[j]? =some a:=by rw[Zar hj,e]
  rw[hr,Za7 hjl]at e2
  rw[Zak,e2];rfl
 obtain⟨r2,M0⟩:=xn w n seeds (j+1) (5000-(j+1))
 rw[show j+1+(5000-(j+1))=5000 from Zaa]at M0
 unfold tB
 rw[M0]
 refine List.mem_append_left _ ?_
 show x∈(gn w n (rN w n seeds j) j).1
 unfold gn
 rw[hg,if_pos ho]
 exact(sv _).2 (.inr hx)
theorem HT{w:List Pg}{n:BL}{seeds:List BL}{a x:BL}(h:a∈dN w n seeds)(hx:x∈bc w a)(ho:Qh w n x):x∈dN w n seeds:=by
 obtain⟨h1,h2,h3⟩:=GV h
 have:=(pX h1 h2 h3).1 h
 exact(pX h1 h2 h3).2 ⟨GS h1 h3 this.1 this.2 hx,ho⟩
theorem DC{w:List Pg}{n:BL}{seeds:List BL}{s:BL}(hw:ai w=true)(hn:aZ n=true)(hl:seeds.length<=12)(h:s∈seeds)(ha:aA s=true):s∈dN w n seeds↔Qh w n s:=by
 rw[pX hw hn hl]
 exact⟨fun h=>h.2,fun ho=>⟨Hf h ha,ho⟩⟩
theorem FV{w:List Pg}{n:BL}{seeds:List BL}:(dN w n seeds).length<=3700:=by
 unfold dN
 split
 rename_i h
 rw[AB]
 refine Nat.le_trans (List.length_filter_le ..) ?_
 rw[List.length_take]
 have:=wc (n:=n) h.1 h.2.2 5000
 omega
 simp
inductive Rc (w:List Pg) (n:BL) (S:BL->Prop):BL->Prop
 | Qe {x:BL}:S x->aA x=true->Qh w n x->Rc w n S x
 | step {a x:BL}:Rc w n S a->x∈bc w a->Qh w n x->Rc w n S x
theorem Af{w:List Pg}{n:BL}{seeds:List BL}(hw:ai w=true)(hn:aZ n=true)(hl:seeds.length<=12)(x:BL):x∈dN w n seeds↔Rc w n (· ∈seeds) x:=by
 constructor
 have key:∀ i,(∀ x,x∈(rN w n seeds i).1->(x∈seeds/\aA x=true)\/∃ a,Rc w n (· ∈seeds) a/\x∈bc w a):=by
  intro i
  induction i with
  | zero=>exact fun x hx=>.inl (rJ.1 hx)
  | succ i ih=>
    show ∀ x,x∈(gn w n (rN w n seeds i) i).1->_
    revert ih
    generalize rN w n seeds i=X
    intro ih
    unfold gn
    split
    rename_i ho
    intro x hx
    rcases (sv _).1 hx with hx | hx
    exact ih x hx
    have hin:X.1.getD i []∈X.1:=by
     rcases Nat.lt_or_ge i X.1.length with c | c
     rw[Zak,Zar c];exact List.getElem_mem c
     rw[Zak,List.getElem?_eq_none c]at ho
     exact absurd (.inr zP) ho
    refine .inr ⟨_,?_,hx⟩
    rcases ih _ hin with h | ⟨a,ha,h⟩
    exact .Qe h.1 h.2 ho
    exact .step ha h ho
    exact ih
 intro h
 have hm:=(pX hw hn hl).1 h
 rcases key 5000 x hm.1 with h | ⟨a,ha,h⟩
 exact .Qe h.1 h.2 hm.2
 exact .step ha h hm.2
 intro h
 induction h with
 | Qe h1 h2 h3=>exact(DC hw hn hl h1 h2).2 h3
 | step _ h2 h3 ih=>exact HT ih h2 h3
theorem JA{w:List Pg}{n:BL}{S S':BL->Prop}(h:∀ x,S x->S' x){x:BL}(hx:Rc w n S x):Rc w n S' x:=by
 induction hx with
 | Qe h1 h2 h3=>exact .Qe (h _ h1) h2 h3
 | step _ h2 h3 ih=>exact .step ih h2 h3
theorem KY{l m:List BL}(h:l.length=m.length)(e:∀ j,j<l.length->l.getD j []=m.getD j []):l=m:=by
 apply List.ext_getElem h
 intro j h1 h2
 have:=e j h1
 rw[Zak,Zak,Zar h1,Zar h2]at this
 exact this
theorem FD{l m:List BL}{i:Nat}(hs:∀ y,y∈l->y∈m)(hi:i<l.length):m.contains (l.getD i [])=true:=by
 rw[Zak,Zar hi]
 simp only[Option.getD_some,List.contains_iff_mem]
 exact hs _ (List.getElem_mem hi)
abbrev jO(b:BL)(p:Nat)(g:Nat)(w:List Pg)(m:Nat)(e:List BL)(q:Nat)(u:Nat)(f:Nat)(k:Nat):Prop:=e.length+m<=3/\(∀ y,y∈e->y.length<=30/\l8 y)/\p<=q/\q+10*m<=p+40
def vY(b:BL)(p:Nat)(g:Nat)(w:List Pg):I2 Tryz.prog:=.mk (List BL×Nat) 23 [.ptr (.key 1000) [] g 0,cC w] [(1000,(g,aE b p))] ((b.length<=2000)/\(p<=700000)/\(w.length<=30)/\(∀ y,y∈w->m4 y)) (fun x=>x.1.length<=4/\(∀ y,y∈x.1->y.length<=30/\l8 y)/\p<=x.2/\x.2<=p+60) (fun x=>ao x.1) (fun x=>[(1000,(g,aE b x.2))]) (by
 rintro⟨hb,hp,hw,hy⟩
 refine fY (N:=28) (rs:=[.tmp 4]) (X:=List BL×Nat) (post:=fun x=>x.1.length<=4/\(∀ y,y∈x.1->y.length<=30/\l8 y)/\p<=x.2/\x.2<=p+60) (E:=fun x=>.sl false (x.1.map sV)) (H':=fun x=>[(1000,(g,.agg [.sl false (b.map n7),iN x.2]))]) Tryz.func23 Zac rfl rfl rfl Zac [(1000,(0,.b9))] (by intro _ k hk;simpa[lk] using hk)
  (.q 1<|.bs<|.q 1<|.q 1<|.cx (bE b p g 3) [(1000,1000)] (fun (s5:Nat)=>.q 2<|.h (.H9 5 1)<|.loop (Nat×(List BL)×Nat×Nat×Nat×Nat) (fun (m,e,q,u,f,k)=>⟨[(0,.ptr (.key 1000) [] g 0),(1,cC w),(5,.own 1 (e.map sV) u f k),(6,iN m)],[(1000,(g,aE b q))]⟩) (fun (m,e,q,u,f,k)=>jO b p g w m e q u f k) (fun (m,e,q,u,f,k)=>m) (fun (m,e,q,u,f,k)=>.q 2<|.br (.q 3<|.cx (wW b q g w) [(1000,1000)] (fun (OZ:BL×Nat)=>.bs<|.ap (fun g20 QQ Rg=>.h (.n8 20 (.own 1 ((e++[OZ.1]).map sV) g20 QQ Rg))<|.q 1<|.q 2<|.h (.n8 14 (iN (m-1)))<|.q 1<|.nil))) (.q 1<|.cx (bE b q g 12) [(1000,1000)] (fun (E7:Nat)=>.q 1<|.br (.q 1<|.bs<|.ap (fun WV Wr W1=>.h (.n8 26 (.own 1 ((e++[([120]:BL)]).map sV) WV Wr W1))<|.q 1<|.h (.fz 4)<|.h (.n8 4 (ao (e++[([120]:BL)])))<|.nil)) (.h (.fz 5)<|.h (.n8 5 (ao e))<|.q 2<|.nil))))))
  ((fun v1:BL=>((bE b p g 3).sm/\Er g (aE b p)/\((b.length<=2000)/\(p<=1000000)/\(3<=1000000))/\∀ s5:Nat,(3=0/\s5=0\/s5<3)->m8 (1+(s5:Int))/\(∃ x:Nat×(List BL)×Nat×Nat×Nat×Nat,match x with | (PI,E8,B9,J7,B8,s7)=>(jO b p g w PI E8 B9 J7 B8 s7)/\E (.ptr (.key 1000) [] g 0)/\E (cC w)/\Q (.own 1 ([].map sV) 0 0 0) (.own 1 (E8.map sV) J7 B8 s7)/\Q (iN (1+s5)) (iN PI)/\Qr g (aE b (p+1)) g (aE b B9)/\True)/\∀ x:Nat×(List BL)×Nat×Nat×Nat×Nat,match x with | (m,e,q,u,f,k)=>(jO b p g w m e q u f k)->Br (w3 (m:Int) 0) ((wW b q g w).sm/\Er g (aE b q)/\((b.length<=2000)/\(q<=800000)/\(w.length<=30)/\(∀ y,y∈w->m4 y))/\∀ OZ:BL×Nat,(OZ.1.length<=30/\q<=OZ.2/\OZ.2<=q+8/\l8 OZ.1)->(fun v2:List V=>((1,1,u,f,k,(e.map sV).length)=(1,1,u,f,k,(e.map sV).length))/\(True)/\(V.aK v2=false)/\(aM 1 v2)/\(((e.map sV).length+v2.length)*16<=140737488355328)/\∀ g20 QQ Rg:Nat,((.own 1 ((e.map sV)++v2) g20 QQ Rg:V)=.own 1 ((e++[OZ.1]).map sV) g20 QQ Rg)/\m8 ((m:Int)-1)/\Q (iV ((m:Int)-1)) (iN (m-1))/\∃ x:Nat×(List BL)×Nat×Nat×Nat×Nat,match x with | (m₂,z8,o9,D0,r9,k₂)=>(jO b p g w m₂ z8 o9 D0 r9 k₂)/\(m₂<m)/\E (.ptr (.key 1000) [] g 0)/\E (cC w)/\Q (.own 1 ((e++[OZ.1]).map sV) g20 QQ Rg) (.own 1 (z8.map sV) D0 r9 k₂)/\Q (iN (m-1)) (iN m₂)/\Qr g (aE b OZ.2) g (aE b o9)/\True) ([sV OZ.1]:List V)) ((bE b q g 12).sm/\Er g (aE b q)/\((b.length<=2000)/\(q<=1000000)/\(12<=1000000))/\∀ E7:Nat,(12=0/\E7=0\/E7<12)->Br (r6 (E7:Int) 0) (((1,1,u,f,k,(e.map sV).length)=(1,1,u,f,k,(e.map sV).length))/\(True)/\(V.aK ([sV v1]:List V)=false)/\(aM 1 ([sV v1]:List V))/\(((e.map sV).length+([sV v1]:List V).length)*16<=140737488355328)/\∀ WV Wr W1:Nat,((.own 1 ((e.map sV)++([sV v1]:List V)) WV Wr W1:V)=.own 1 ((e++[v1]).map sV) WV Wr W1)/\((.sl false (V.C8 ((e++[v1]).map sV)):V)=ao (e++[v1]))/\∃ x:List BL×Nat,(x.1.length<=4/\(∀ y,y∈x.1->y.length<=30/\l8 y)/\p<=x.2/\x.2<=p+60)/\Q (ao (e++[v1])) (ao x.1)/\Qr g (aE b (q+1)) g (aE b x.2)) (((.sl false (V.C8 (e.map sV)):V)=ao e)/\∃ x:List BL×Nat,(x.1.length<=4/\(∀ y,y∈x.1->y.length<=30/\l8 y)/\p<=x.2/\x.2<=p+60)/\Q (ao e) (ao x.1)/\Qr g (aE b (q+1)) g (aE b x.2))))) ([120]:BL))
  Zac ?_
 refine⟨rfl,rfl,⟨Zaa,Zaa,Zaa⟩,?_⟩
 intro s5 Pc
 refine⟨Zaa,?_⟩
 refine⟨⟨(1+s5,[],p+1,0,0,0),?_,rfl,rfl,rfl,rfl,rfl,trivial⟩,?_⟩
 unfold jO
 exact⟨Zaj,Zab,Zaa,Zaa⟩
 rintro⟨m,e,q,u,f,k⟩ ⟨h1,h2,h3,h4⟩
 refine bI (fun l3=>?_) fun l3=>?_
 refine⟨rfl,rfl,⟨Zaa,Zaa,Zaa,hy⟩,?_⟩
 intro OZ UP
 refine⟨rfl,trivial,rfl,by simp[aM,V.n,V.ns],Zaj,?_⟩
 intro g20 QQ Rg
 refine⟨Zbk (V.own 1 · g20 QQ Rg) Zab,Zaa,by simp[Q];omega,?_⟩
 refine⟨(m-1,e++[OZ.1],OZ.2,g20,QQ,Rg),?_,?_,rfl,rfl,rfl,rfl,rfl,trivial⟩
 unfold jO
 exact⟨Zaj,iL h2 ⟨UP.1,UP.2.2.2⟩,Zaa,Zaa⟩
 exact Zai
 refine⟨rfl,rfl,⟨Zaa,Zaa,Zaa⟩,?_⟩
 intro E7 SL
 refine bI (fun l6=>?_) fun l6=>?_
 refine⟨rfl,trivial,rfl,by simp[aM,V.n,V.ns],Zaj,?_⟩
 intro WV Wr W1
 refine⟨Zbk (V.own 1 · WV Wr W1) Zab,Zbk (V.sl false) (aT (fun _=>rfl) _),?_⟩
 refine⟨(e++[([120]:BL)],q+1),?_,?_,?_⟩
 try dsimp only
 exact⟨Zaj,iL h2 ⟨Zab,cd rfl⟩,Zaa,Zaa⟩
 first | rfl | simp_all
 first | rfl | exact⟨rfl,rfl⟩ | simp_all
 refine⟨Zbk (V.sl false) (aT (fun _=>rfl) _),?_⟩
 refine⟨(e,q+1),?_,?_,?_⟩
 try dsimp only
 exact⟨Zaa,h2,Zaa,Zaa⟩
 first | rfl | simp_all
 first | rfl | exact⟨rfl,rfl⟩ | simp_all)
def du(b:BL):I2 Tryz.prog:=.mk (List Pg×BL×List BL) 8 [gJ b] [] (b.length<=9223372036854775807) (fun x=>1<=x.1.length/\x.1.length<=30/\(∀ y,y∈x.1->m4 y)/\x.2.1.length<=5/\aZ x.2.1=true/\x.2.2.length<=4/\(∀ y,y∈x.2.2->y.length<=30/\l8 y)) (fun x=>.tup [cC x.1,sV x.2.1,ao x.2.2]) (fun x=>[]) (by
 intro hb
 refine fY (N:=17) (rs:=[.tmp 2,.tmp 3,.tmp 4]) (X:=List Pg×BL×List BL) (post:=fun x=>1<=x.1.length/\x.1.length<=30/\(∀ y,y∈x.1->m4 y)/\x.2.1.length<=5/\aZ x.2.1=true/\x.2.2.length<=4/\(∀ y,y∈x.2.2->y.length<=30/\l8 y)) (E:=fun x=>.tup [.sl false (x.1.map s3),sV x.2.1,.sl false (x.2.2.map sV)]) (H':=fun x=>[]) Tryz.func8 Zac rfl rfl rfl Zac [] (by intro _ k hk;simpa[lk] using hk)
  (.q 3<|.q 1<|.cx (zO b) [(1000,8)] (fun (l7:BL×Nat)=>.q 1<|.q 1<|.cx (Bk l7.1 0 l7.2) [(1000,8)] (fun (s5:List Pg×Nat)=>.q 1<|.h (.fz 6)<|.h (.n8 6 (cC s5.1))<|.q 2<|.cx (zp l7.1 s5.2 l7.2) [(1000,8)] (fun (L9:BL)=>.q 2<|.cx (vY l7.1 (s5.2+1) l7.2 s5.1) [(1000,8)] (fun (QE:List BL×Nat)=>.q 3<|.nil)))))
  ((zO b).sm/\((b.length<=9223372036854775807))/\∀ l7:BL×Nat,(l7.1.length<=2000)->(Bk l7.1 0 l7.2).sm/\Er l7.2 (.agg [gJ l7.1,iN 0])/\((l7.1.length<=2000)/\(0<=600000))/\∀ s5:List Pg×Nat,(1<=s5.1.length/\s5.1.length<=30/\(∀ y,y∈s5.1->m4 y)/\0<=s5.2/\s5.2<=0+1600)->((.sl false (V.C8 (s5.1.map s3)):V)=cC s5.1)/\(zp l7.1 s5.2 l7.2).sm/\Er l7.2 (aE l7.1 s5.2)/\((l7.1.length<=2000)/\(s5.2<=900000))/\∀ L9:BL,(L9.length<=5/\aZ L9=true)->(vY l7.1 (s5.2+1) l7.2 s5.1).sm/\Er l7.2 (aE l7.1 (s5.2+1))/\((l7.1.length<=2000)/\((s5.2+1)<=700000)/\(s5.1.length<=30)/\(∀ y,y∈s5.1->m4 y))/\∀ QE:List BL×Nat,(QE.1.length<=4/\(∀ y,y∈QE.1->y.length<=30/\l8 y)/\(s5.2+1)<=QE.2/\QE.2<=(s5.2+1)+60)->∃ x:List Pg×BL×List BL,(1<=x.1.length/\x.1.length<=30/\(∀ y,y∈x.1->m4 y)/\x.2.1.length<=5/\aZ x.2.1=true/\x.2.2.length<=4/\(∀ y,y∈x.2.2->y.length<=30/\l8 y))/\Q (.tup [cC s5.1,sV L9,ao QE.1]) (.tup [cC x.1,sV x.2.1,ao x.2.2]))
  Zac ?_
 refine⟨rfl,Zae,?_⟩
 intro l7 J'
 refine⟨rfl,rfl,⟨Zae,Zae⟩,?_⟩
 intro s5 Pc
 refine⟨Zbk (V.sl false) (aT (fun _=>rfl) _),rfl,rfl,⟨Zae,Zae⟩,?_⟩
 intro L9 RH
 refine⟨rfl,rfl,⟨Zaa,Zaa,Zaa,Pc.2.2.1⟩,?_⟩
 intro QE UQ
 refine⟨(s5.1,L9,QE.1),?_,?_⟩
 try dsimp only
 exact⟨Zaa,Zaa,Pc.2.2.1,Zaa,RH.2,UQ.1,UQ.2.1⟩
 first | rfl | simp_all)
def pL(l:List BL)(m:List BL):o6 Tryz.prog:=.mk 35 [ao l,ao m] [] ((l.length<=1000000)/\(m.length<=1000000)) (bV (l==m)) [] (by
 rintro⟨hl,hm⟩
 refine aB (N:=26) (rs:=[.tmp 4]) Tryz.func35
  (.q 1<|.q 5<|.br (.q 1<|.nil) (.q 1<|.loop (Nat) (fun (i:Nat)=>⟨[(0,ao l),(1,ao m),(5,iN i)],[]⟩) (fun (i:Nat)=>i<=l.length/\∀ j,j<i->l.getD j []=m.getD j []) (fun (i:Nat)=>l.length-i) (fun (i:Nat)=>.q 4<|.br (.dx 9 [0,1,2,3,4,5,6,7,8] [(3,⟨false,[],some [],[20],[]⟩),(7,⟨false,[],some [],[24],[]⟩)] []<|.q 1<|.q 1<|.r 1 [sV (l.getD i [])]<|.q 1<|.q 1<|.q 1<|.r 1 [sV (m.getD i [])]<|.q 1<|.q 1<|.br (.q 1<|.nil) (.q 3<|.nil)) (.q 1<|.nil))))
  (Br (w4 (((l.map sV).length:Nat):Int) (((m.map sV).length:Nat):Int)) (Q (bV false) (bV (l==m))) ((∃ j7:Nat,(j7<=l.length/\∀ j,j<j7->l.getD j []=m.getD j [])/\E (ao l)/\E (ao m)/\Q (iN 0) (iN j7)/\True)/\∀ i:Nat,(i<=l.length/\∀ j,j<i->l.getD j []=m.getD j [])->Br (r8 (i:Int) (((l.map sV).length:Nat):Int)) (Ex (i:Int) (l.map sV) (sV (l.getD i []))/\True/\Ex (i:Int) (m.map sV) (sV (m.getD i []))/\True/\Br (!((l.getD i [])==(m.getD i []))) (Q (bV false) (bV (l==m))) (m8 ((i:Int)+1)/\∃ c9:Nat,(c9<=l.length/\∀ j,j<c9->l.getD j []=m.getD j [])/\(l.length-c9<l.length-i)/\E (ao l)/\E (ao m)/\Q (iN (i+1)) (iN c9)/\True)) (Q (bV true) (bV (l==m))))) ?_
 refine bI (fun l3=>?_) fun l3=>?_
 unfold Q
 refine Zbk bV ?_
 symm;rw[beq_eq_false_iff_ne];rintro rfl;simp_all
 refine⟨⟨0,?_,rfl,rfl,rfl,trivial⟩,?_⟩
 simp
 rintro i ⟨h1,h2⟩
 refine bI (fun l6=>?_) fun l6=>?_
 refine⟨⟨Zaa,aq (d:=[]) Zaa⟩,trivial,⟨Zaa,aq (d:=[]) Zaa⟩,trivial,?_⟩
 refine bI (fun n0=>?_) fun n0=>?_
 unfold Q
 refine Zbk bV ?_
 symm;rw[beq_eq_false_iff_ne];rintro rfl;simp_all
 refine⟨Zaa,?_⟩
 refine⟨i+1,?_,?_,rfl,rfl,rfl,trivial⟩
 exact⟨Zaa,bJ h2 (by simpa using n0)⟩
 exact Zai
 unfold Q
 refine Zbk bV ?_
 symm;rw[Zbj];exact KY Zaa (fun j hj=>h2 j Zaa))
def oL(l:List BL)(y:BL):o6 Tryz.prog:=.mk 14 [ao l,sV y] [] (l.length<=1000000) (bV (l.contains y)) [] (by
 intro hl
 refine aB (N:=18) (rs:=[.tmp 4]) Tryz.func14
  (.q 1<|.q 1<|.loop (Nat) (fun (i:Nat)=>⟨[(0,ao l),(1,sV y),(5,iN i)],[]⟩) (fun (i:Nat)=>i<=l.length/\∀ j,j<i->(l.getD j []==y)=false) (fun (i:Nat)=>l.length-i) (fun (i:Nat)=>.q 4<|.br (.r 6 [sV (l.getD i [])]<|.br (.q 1<|.nil) (.q 3<|.nil)) (.q 1<|.nil)))
  ((∃ j7:Nat,(j7<=l.length/\∀ j,j<j7->(l.getD j []==y)=false)/\E (ao l)/\E (sV y)/\Q (iN 0) (iN j7)/\True)/\∀ i:Nat,(i<=l.length/\∀ j,j<i->(l.getD j []==y)=false)->Br (r8 (i:Int) (((l.map sV).length:Nat):Int)) (Ex (i:Int) (l.map sV) (sV (l.getD i []))/\True/\Br ((l.getD i [])==y) (Q (bV true) (bV (l.contains y))) (m8 ((i:Int)+1)/\∃ c9:Nat,(c9<=l.length/\∀ j,j<c9->(l.getD j []==y)=false)/\(l.length-c9<l.length-i)/\E (ao l)/\E (sV y)/\Q (iN (i+1)) (iN c9)/\True)) (Q (bV false) (bV (l.contains y)))) ?_
 refine⟨⟨0,?_,rfl,rfl,rfl,trivial⟩,?_⟩
 simp
 rintro i ⟨h1,h2⟩
 refine bI (fun l3=>?_) fun l3=>?_
 refine⟨⟨Zaa,aq (d:=[]) Zaa⟩,trivial,?_⟩
 refine bI (fun l6=>?_) fun l6=>?_
 unfold Q
 rw[Ly (i:=i) Zaa l6]
 refine⟨Zaa,?_⟩
 refine⟨i+1,?_,?_,rfl,rfl,rfl,trivial⟩
 exact⟨Zaa,bJ h2 (by simpa using l6)⟩
 exact Zai
 unfold Q
 rw[Mu (fun j hj=>by have:=h2 j Zaa;simpa using this)])
def eg(l:List BL)(m:List BL):o6 Tryz.prog:=.mk 13 [ao l,ao m] [] ((l.length<=1000000)/\(m.length<=1000000)/\(∀ y,y∈l->y∈m)) (bV true) [] (by
 rintro⟨hl,hm,hs⟩
 refine aB (N:=19) (rs:=[.tmp 4]) Tryz.func13
  (.q 1<|.q 1<|.loop (Nat) (fun (i:Nat)=>⟨[(0,ao l),(1,ao m),(5,iN i)],[]⟩) (fun (i:Nat)=>i<=l.length) (fun (i:Nat)=>l.length-i) (fun (i:Nat)=>.q 4<|.br (.r 5 [sV (l.getD i [])]<|.c (oL m (l.getD i [])) []<|.q 1<|.br (.q 1<|.nil) (.q 3<|.nil)) (.q 1<|.nil)))
  ((∃ j7:Nat,(j7<=l.length)/\E (ao l)/\E (ao m)/\Q (iN 0) (iN j7)/\True)/\∀ i:Nat,(i<=l.length)->Br (r8 (i:Int) (((l.map sV).length:Nat):Int)) (Ex (i:Int) (l.map sV) (sV (l.getD i []))/\True/\(oL m (l.getD i [])).sm/\((m.length<=1000000))/\Br (!(m.contains (l.getD i []))) (Q (bV false) (bV true)) (m8 ((i:Int)+1)/\∃ c9:Nat,(c9<=l.length)/\(l.length-c9<l.length-i)/\E (ao l)/\E (ao m)/\Q (iN (i+1)) (iN c9)/\True)) (Q (bV true) (bV true))) ?_
 refine⟨⟨0,?_,rfl,rfl,rfl,trivial⟩,?_⟩
 simp
 rintro i h1
 refine bI (fun l3=>?_) fun l3=>?_
 refine⟨⟨Zaa,aq (d:=[]) Zaa⟩,trivial,rfl,Zae,?_⟩
 refine bI (fun l6=>?_) fun l6=>?_
 exact absurd l6 (by rw[FD hs Zaa];decide)
 refine⟨Zaa,?_⟩
 refine⟨i+1,?_,?_,rfl,rfl,rfl,trivial⟩
 omega
 exact Zai
 unfold Q
 rfl)
def sM(w:List Pg)(d:BL):o6 Tryz.prog:=.mk 15 [cC w,sV d] [] ((w.length<=30)/\(∀ i,m4 (w.getD i l9))/\(d.length<=1000000)/\(l8 d)) (ao (bc w d)) [] (by
 rintro⟨hw,hz,hd,hc⟩
 refine aB (N:=17) (rs:=[.tmp 4]) Tryz.func15
  (.q 1<|.q 1<|.sp (ai w) (.c (jd w) []<|.q 5<|.q 2<|.br (.q 1<|.nil) (.q 2<|.c (wu w d) []<|.q 1<|.nil)) (.c (kH w) []<|.q 5<|.q 2<|.br (.q 1<|.nil) (.nil)))
  (((ai w)=true->(jd w).sm/\((w.length<=30)/\(∀ i,m4 (w.getD i l9))/\(ai w=true))/\Br (!true) (Q (.sl false []) (ao (bc w d))) ((wu w d).sm/\((d.length<=1000000)/\(l8 d)/\((ae w d 2).2.length<=1000000)/\(l8 (ae w d 2).2))/\Q (ao (gx w d)) (ao (bc w d))))/\((ai w)=false->(kH w).sm/\((w.length<=30)/\(∀ i,m4 (w.getD i l9))/\(ai w=false))/\Br (!false) (Q (.sl false []) (ao (bc w d))) (False))) ?_
 refine⟨fun B7=>?_,fun B7=>?_⟩
 · have N6:=B7
   try simp only[nb]at N6
   refine⟨rfl,⟨hw,hz,B7⟩,?_⟩
   refine bI (fun l3=>?_) fun l3=>?_
   · all_goals (first | exact absurd l3 Zad | simp_all)
   refine⟨rfl,⟨hd,hc,by have:=mL (w:=w) (a:=d) (k:=2) (m:=300) (fun i=>⟨(hz i).t,by have:=(hz i).l;omega⟩);omega,CB hz⟩,?_⟩
   unfold Q
   rw[<- tY B7]
 · have N6:=B7
   try simp only[nb]at N6
   refine⟨rfl,⟨hw,hz,B7⟩,?_⟩
   refine bI (fun l6=>?_) fun l6=>?_
   unfold Q
   rw[show bc w d=[] from if_neg (fun c=>by rw[B7]at c;exact absurd c.1 Zad)]
   rfl
   · all_goals (first | exact absurd l6 Zad | simp_all))
structure w5 where
 ad:BL
 tr:Int
structure k9 where
 na:BL
 re:Int
 kn:Bool
 gr:l4
 tr:Int
 td:List w5
structure l5 where
 ti:Int
 ad:BL
 ki:Int
structure j6 where
 na:BL
 a7:Int
 hs:List k9
 se:List BL
 lk:List l5
def c5:k9:=⟨[],0,false,⟨[],[],0⟩,0,[]⟩
def j9:w5:=⟨[],0⟩
def h9:l5:=⟨0,[],0⟩
def bq(d n:BL):k9:=⟨d,0,false,⟨[n],[],0⟩,0,[]⟩
def o8(hs:List k9)(d:BL):Nat:=hs.findIdx fun h=>h.na==d
def au(hs:List k9)(d n:BL):List k9:=if o8 hs d<hs.length then hs else hs++[bq d n]
def pathOf(s:BL):BL:=bz (oA (aC s))
def ab(s:BL):BL:=(oA (aC s)).b7
def aX(h:k9)(s:BL):k9:=if h.kn=true/\av h.gr.ru (pathOf s)=false then h else { h with td:=h.td++[⟨s,0⟩] }
def de(se:List BL)(s:BL):Prop:=aA s=true/\se.length<60/\s ∉ se
instance (se:List BL) (s:BL):Decidable (de se s):=by unfold de;infer_instance
def bT(se:List BL)(s:BL):List BL:=if de se s then se++[s] else se
def aN(n:BL)(hs:List k9)(se:List BL)(s:BL):List k9:=
 if de se s then (au hs (ab s) n).set (o8 hs (ab s)) (aX ((au hs (ab s) n).getD (o8 hs (ab s)) c5) s) else hs
def ah(t:j6)(s:BL):j6:={ t with se:=bT t.se s,hs:=aN t.na t.hs t.se s }
theorem bL(hs:List k9)(d n:BL):o8 hs d<(au hs d n).length:=by
 unfold au
 split
 assumption
 rename_i h
 have:o8 hs d<=hs.length:=List.findIdx_le_length
 simp only[Zan,Zap,Zas];omega
theorem vk(hs:List k9)(d n:BL):(au hs d n).length<=hs.length+1:=by
 unfold au
 split <;> simp
def oT(o:Option j6):j6:=o.getD ⟨[],0,[],[],[]⟩
def aG(n:BL):j6:=⟨n,0,[],[],[]⟩
def aw(n:BL)(seeds:List BL):Option j6:=if aZ n=true/\seeds.length<=12 then some (seeds.foldl ah (aG n)) else none
structure Tn (n:BL) (k:Nat) (t:j6):Prop where
 na:t.na=n
 a7:t.a7=0
 lk:t.lk=[]
 hl:t.hs.length<=k
 sl:t.se.length<=k
 hs:∀ y,y∈t.hs->y.kn=false/\y.gr=⟨[n],[],0⟩/\y.td.length<=k/\y.re=0/\y.tr=0
theorem bg{α:Type}{l:List α}{i:Nat}{a y:α}(h:y∈l.set i a):y=a\/y∈l:=by
 rcases List.mem_or_eq_of_mem_set h with h | h
 exact .inr h
 exact .inl h
theorem IG{n s:BL}{k:Nat}{t:j6}(h:Tn n k t):Tn n (k+1) (ah t s):=by
 have hin:∀ d y,y∈au t.hs d t.na->y.kn=false/\y.gr=⟨[n],[],0⟩/\y.td.length<=k/\y.re=0/\y.tr=0:=fun d y hy=>by
  unfold au at hy
  split at hy
  exact h.hs y hy
  rcases Zav.1 hy with hy | hy
  exact h.hs y hy
  rw[Zat.1 hy,h.na];simp[bq]
 refine⟨h.na,h.a7,h.lk,?_,?_,fun y hy=>?_⟩
 show (aN t.na t.hs t.se s).length<=k+1
 unfold aN
 split
 have:=vk t.hs (ab s) t.na
 have:=h.hl
 rw[List.length_set];omega
 have:=h.hl;omega
 show (bT t.se s).length<=k+1
 unfold bT
 have:=h.sl
 split
 simp;omega
 omega
 have hy:y∈aN t.na t.hs t.se s:=hy
 unfold aN at hy
 split at hy
 rcases bg hy with e | hy
 have hm:(au t.hs (ab s) t.na).getD (o8 t.hs (ab s)) c5∈au t.hs (ab s) t.na:=by
  rw[Zak,Zar (bL ..)];exact List.getElem_mem _
 obtain⟨a1,a2,a3,a4,a5⟩:=hin _ _ hm
 rw[e]
 unfold aX
 rw[if_neg (fun c=>by rw[a1]at c;cases c.1)]
 exact⟨a1,a2,by simp only[Zan,Zap,Zas];omega,a4,a5⟩
 obtain⟨a1,a2,a3,a4,a5⟩:=hin _ _ hy
 exact⟨a1,a2,Zaa,a4,a5⟩
 obtain⟨a1,a2,a3,a4,a5⟩:=h.hs y hy
 exact⟨a1,a2,Zaa,a4,a5⟩
theorem lE(n:BL):∀ (l:List BL) {k:Nat} {t:j6},Tn n k t->Tn n (k+l.length) (l.foldl ah t)
 | [],k,t,h=>h
 | a::r,k,t,h=>by
   have:=lE n r (IG (s:=a) h)
   rw[show k+(a::r).length=k+1+r.length from Zaj]
   exact this
theorem lQ(n:BL):Tn n 0 (aG n):=⟨rfl,rfl,rfl,by simp[aG],by simp[aG],fun y hy=>by simp[aG]at hy⟩
def cY(k:Int):Int:=if k=1 then 2 else if k=2 then 4 else if k=3 then 8 else 0
def mq(a7:Int)(x:Int×Int)(p:Nat×k9):Int×Int:=
 if p.2.td≠[]/\(x.1<0\/max p.2.re a7<x.2) then (p.1,max p.2.re a7) else x
def J8(t:j6)(i:Nat):Int×Int:=((t.hs.zipIdx.take i).map fun p=>(p.2,p.1)).foldl (mq t.a7) (-1,0)
def jo(t:j6):Option (Nat×Int):=
 if (J8 t t.hs.length).1<0\/5000<(J8 t t.hs.length).2 then none else some ((J8 t t.hs.length).1.toNat,(J8 t t.hs.length).2)
def cJ(h:k9)(a7:Int)(k n:Int):k9:={ h with re:=a7+max (h.gr.wa:Int) 1+(if k=3 then cY (n+1) else 0) }
def qA(s:BL)(k:Int)(x:BL):List BL:=if k=1 then bO (oA (aC s)) x else if k=2 then [x] else []
def dg(h:k9)(se:List BL):Bool:=
 decide (h.td.length<=se.length)&&(h.td.all fun it=>aA it.ad&&(ab it.ad==h.na)&&se.contains it.ad&&x4 it.tr 0 2)&&decide (h.td.map (·.ad)).Nodup
def dr(h:k9)(n:BL):Bool:=
 cW h.na&&x4 h.re 0 5100&&x4 h.tr 0 2&&(h.gr.na==[n])&&
  (if h.kn=true then decide (h.gr.ru.length<=40)&&(h.gr.ru.all fun r=>aI r.path)&&x4 h.gr.wa 0 20 else decide (h.gr.ru=[]/\h.gr.wa=0))
def cH(lk:List l5)(a7:Int):Bool:=
 decide (lk.length<=400)&&((List.range lk.length).all fun i=>decide ((if i=0 then 0 else (lk.getD (i-1) h9).ti)<=(lk.getD i h9).ti)&&decide ((lk.getD i h9).ti<=a7)&&x4 (lk.getD i h9).ki 0 3&&aA (lk.getD i h9).ad)
def dk(se:List BL):Bool:=decide (se.length<=60)&&decide se.Nodup&&se.all aA
def ax(t:j6):Bool:=aZ t.na&&x4 t.a7 0 5000&&dk t.se&&cH t.lk t.a7&&(t.hs.all fun h=>dr h t.na&&dg h t.se)&&decide (t.hs.map (·.na)).Nodup
structure Tp (h:k9):Prop where
 n:h.na.length<=1000
 r:h.gr.ru.length<=1000
 rp:∀ i,(h.gr.ru.getD i ⟨false,[]⟩).path.length<=1000
 g:h.gr.na.length<=1000
 t:h.td.length<=1000
 ta:∀ x,x∈h.td->x.ad.length<=1000/\l8 x.ad
structure r5 (t:j6):Prop where
 n:t.na.length<=1000
 h:t.hs.length<=1000
 s:t.se.length<=1000
 l:t.lk.length<=1000
 sa:∀ x,x∈t.se->x.length<=1000/\l8 x
 la:∀ x,x∈t.lk->x.ad.length<=1000/\l8 x.ad
 ha:∀ x,x∈t.hs->Tp x
abbrev ar(x:w5):V:=.agg [sV x.ad,iV x.tr]
abbrev bf(x:l5):V:=.agg [iV x.ti,sV x.ad,iV x.ki]
abbrev aL(h:k9):V:=.agg [sV h.na,iV h.re,bV h.kn,cq h.gr,iV h.tr,.ow 2 (h.td.map ar)]
abbrev bw(h:k9):V:=.agg [sV h.na,iV h.re,bV h.kn,cq h.gr,iV h.tr,.sl false (h.td.map ar)]
abbrev zE(t:j6):V:=.agg [sV t.na,iV t.a7,.ow 8 (t.hs.map aL),.ow 1 (t.se.map sV),.ow 3 (t.lk.map bf)]
abbrev cD(p0:List l5):V:=.sl false (p0.map bf)
abbrev gY(p0:List w5):V:=.sl false (p0.map ar)
abbrev bF(p0:BL)(p1:Int)(p2:List k9)(p3:List BL)(p4:List l5):V:=.agg [sV p0,iV p1,.sl false (p2.map bw),.sl false (p3.map sV),.sl false (p4.map bf)]
abbrev dR(p0:BL)(p1:Int)(p2:Bool)(p3:List BL)(p4:List r7)(p5:Nat)(p6:Int)(p7:List w5):V:=.agg [sV p0,iV p1,bV p2,.agg [.sl false (p3.map sV),.sl false (p4.map aD),iN p5],iV p6,.sl false (p7.map ar)]
theorem Mt(H:List BL)(a:BL):(hE (H++[a])).length=(hE H).length+(if a∈H then 0 else 1):=by
 rw[<- xB,yd,Cl]
 by_cases h:a∈H
 rw[if_pos h,if_pos h,if_neg Zab];rfl
 rw[if_neg h,if_neg h,if_pos rfl]
theorem Hj(H:List BL):(hE H).length=H.length↔H.Nodup:=by
 have key:∀ n,∀ H:List BL,H.length=n->(hE H).length<=H.length/\((hE H).length=H.length↔H.Nodup):=by
  intro n
  induction n with
  | zero=>
    intro H h
    obtain rfl:=Za3 h
    exact⟨Zba _,by simp[hE]⟩
  | succ n ih=>
    intro H h
    obtain⟨L,a,rfl⟩:∃ L a,H=L++[a]:=⟨H.dropLast,H.getLast (by intro c;rw[c]at h;cases h),(List.dropLast_concat_getLast _).symm⟩
    simp only[Zan,Zap,Zas]at h
    obtain⟨h1,h2⟩:=ih L Zaa
    rw[Mt]
    simp only[Zan,Zap,Zas]
    rw[List.nodup_append]
    by_cases c:a∈L
    rw[if_pos c]
    exact⟨Zaa,Zaa,fun hn=>absurd rfl (hn.2.2 a c a Zab)⟩
    rw[if_neg c]
    refine⟨Zaa,fun e=>⟨h2.1 Zaa,Zab,fun x hx y hy=>?_⟩,fun hn=>by have:=h2.2 hn.1;omega⟩
    rintro rfl
    exact c (by simpa using(Zat.1 hy) ▸ hx)
 exact(key _ H rfl).2
theorem zG{α:Type}{p:α->Bool}{d:α}{l:List α}(h:∀ j,j<l.length->p (l.getD j d)=true):l.all p=true:=by
 rw[Za0]
 intro x hx
 obtain⟨j,hj,rfl⟩:=Zbe.1 hx
 have:=h j hj
 rwa [Zak,Zar hj]at this
theorem zL{α:Type}{p:α->Bool}{d:α}{l:List α}{i:Nat}(hi:i<l.length)(h:p (l.getD i d)=false):l.all p=false:=by
 rw[Zak,Zar hi]at h
 rw[Bool.eq_false_iff]
 intro c
 rw[Za0]at c
 have:=c _ (List.getElem_mem hi)
 simp only[Option.getD_some]at h
 rw[h]at this;cases this
theorem nh{l:List BL}{i:Nat}(h:i<l.length):l.getD i []∈l:=by
 rw[Zak,Zar h];exact List.getElem_mem h
theorem aj{α:Type}{l:List α}{d:α}{i:Nat}(h:i<l.length):l.getD i d∈l:=by
 rw[Zak,Zar h];exact List.getElem_mem h
theorem EP{l:List BL}(h:60<(l.length:Int)\/¬ l.Nodup):dk l=false:=by
 unfold dk
 rcases h with h | h
 rw[decide_eq_false Zaa];rfl
 rw[decide_eq_false h];simp
theorem GF{l:List BL}{i:Nat}(hi:i<l.length)(h:aA (l.getD i [])=false):dk l=false:=by
 unfold dk
 rw[zL hi h];simp
theorem Ic{l:List BL}(h:(l.length:Int)<=60/\l.Nodup)(h2:∀ j,j<l.length->aA (l.getD j [])=true):dk l=true:=by
 unfold dk
 rw[zG h2,decide_eq_true h.2,decide_eq_true Zaa];rfl
def qf(lk:List l5)(a7:Int)(i:Nat):Bool:=decide ((if i=0 then 0 else (lk.getD (i-1) h9).ti)<=(lk.getD i h9).ti)&&decide ((lk.getD i h9).ti<=a7)&&x4 (lk.getD i h9).ki 0 3&&aA (lk.getD i h9).ad
theorem Eg{lk:List l5}{a7:Int}(h:400<(lk.length:Int)):cH lk a7=false:=by
 unfold cH;rw[decide_eq_false Zaa];rfl
theorem wF{lk:List l5}{a7:Int}{i:Nat}(hi:i<lk.length)(h:qf lk a7 i=false):cH lk a7=false:=by
 unfold cH
 rw[Bool.and_eq_false_iff]
 right
 rw[Bool.eq_false_iff]
 intro c
 rw[Za0]at c
 have:=c i (List.mem_range.2 hi)
 unfold qf at h
 rw[h]at this;cases this
theorem FQ{lk:List l5}{a7:Int}(h:(lk.length:Int)<=400)(h2:∀ j,j<lk.length->qf lk a7 j=true):cH lk a7=true:=by
 unfold cH
 rw[decide_eq_true Zaa,Bool.true_and,Za0]
 exact fun i hi=>h2 i (List.mem_range.1 hi)
theorem Lj{lk:List l5}{a7 la:Int}{i:Nat}(h2:la=if i=0 then 0 else (lk.getD (i-1) h9).ti)(h3:x4 (lk.getD i h9).ti la a7=true/\x4 (lk.getD i h9).ki 0 3=true)(h4:aA (lk.getD i h9).ad=true):qf lk a7 i=true:=by
 unfold qf
 rw[<- h2,h3.2,h4]
 have:=h3.1
 unfold x4 at this
 rw[Zbi]at this
 rw[decide_eq_true this.1,decide_eq_true this.2];rfl
theorem JQ{lk:List l5}{a7 la:Int}{i:Nat}(h2:la=if i=0 then 0 else (lk.getD (i-1) h9).ti)(h3:x4 (lk.getD i h9).ti la a7=false\/x4 (lk.getD i h9).ki 0 3=false):qf lk a7 i=false:=by
 unfold qf
 rw[<- h2]
 rcases h3 with h | h
 unfold x4 at h
 rw[Bool.decide_and]at h
 rw[h];rfl
 rw[h];simp
theorem JK{lk:List l5}{a7:Int}{i:Nat}(h:aA (lk.getD i h9).ad=false):qf lk a7 i=false:=by
 unfold qf;rw[h];simp
theorem Jj{l:List BL}{n:BL}(h:(l.length:Int)=1/\l.getD 0 []=n):l=[n]:=by
 obtain⟨h1,h2⟩:=h
 match l,h1 with
 | [x],_=>rw[<- h2];rfl
theorem KO{h:k9}{n:BL}(hb:(cW h.na=false\/x4 h.re 0 5100=false)\/x4 h.tr 0 2=false):dr h n=false:=by
 unfold dr
 rcases hb with (e | e) | e <;> rw[e] <;> simp
theorem KT{h:k9}{n:BL}(hb: ¬ (h.gr.na.length:Int)=1\/¬ h.gr.na.getD 0 []=n):dr h n=false:=by
 unfold dr
 rw[show (h.gr.na==[n])=false from by rw[beq_eq_false_iff_ne];intro c;rw[c]at hb;simp at hb]
 simp
theorem KP{h:k9}{n:BL}(h1:(cW h.na=true/\x4 h.re 0 5100=true)/\x4 h.tr 0 2=true)(h2:(h.gr.na.length:Int)=1/\h.gr.na.getD 0 []=n)(h3:h.kn=false):dr h n=(r6 (h.gr.ru.length:Int) 0&&r6 (h.gr.wa:Int) 0):=by
 unfold dr
 rw[h1.1.1,h1.1.2,h1.2,Jj h2,h3]
 rw[Za4]
 simp
theorem KC{h:k9}{n:BL}(h1:(cW h.na=true/\x4 h.re 0 5100=true)/\x4 h.tr 0 2=true)(h2:(h.gr.na.length:Int)=1/\h.gr.na.getD 0 []=n)(h3:h.kn=true):dr h n=((E5 (h.gr.ru.length:Int) 40&&(h.gr.ru.all fun r=>aI r.path))&&x4 (h.gr.wa:Int) 0 20):=by
 unfold dr
 rw[h1.1.1,h1.1.2,h1.2,Jj h2,h3]
 simp
 congr 2
 rw[Za4];simp;omega
def SJ(h:k9)(se:List BL)(it:w5):Bool:=aA it.ad&&(ab it.ad==h.na)&&se.contains it.ad&&x4 it.tr 0 2
theorem Nj{h:k9}{se:List BL}{it:w5}(h1:((ak it.ad).isSome=true/\(oA (ak it.ad)).b7=h.na)/\se.contains it.ad=true)(h2:x4 it.tr 0 2=true):SJ h se it=true:=by
 unfold SJ ab
 have h3:=h1.1.1
 rw[fC]at h3
 have h4:=h1.1.2
 rw[show ak it.ad=aC it.ad from if_pos h3]at h4
 rw[h3,h4,h1.2,h2];simp
theorem Mc{h:k9}{se:List BL}{it:w5}(h1:((ak it.ad).isSome=false\/¬ (oA (ak it.ad)).b7=h.na)\/se.contains it.ad=false):SJ h se it=false:=by
 unfold SJ ab
 by_cases h3:aA it.ad=true
 rw[fC,show ak it.ad=aC it.ad from if_pos h3]at h1
 rcases h1 with (e | e) | e
 rw[e]at h3;cases h3
 rw[beq_eq_false_iff_ne.2 e];simp
 rw[e];simp
 rw[Bool.not_eq_true]at h3
 rw[h3];simp
theorem Mj{h:k9}{se:List BL}{it:w5}(h1:x4 it.tr 0 2=false):SJ h se it=false:=by
 unfold SJ;rw[h1];simp
theorem Gi{h:k9}{se:List BL}(e:(se.length:Int)<(h.td.length:Int)):dg h se=false:=by
 unfold dg;rw[decide_eq_false Zaa];rfl
theorem zi{h:k9}{se:List BL}{i:Nat}(hi:i<h.td.length)(e:SJ h se (h.td.getD i j9)=false):dg h se=false:=by
 show (decide (h.td.length<=se.length)&&h.td.all (SJ h se)&&decide (h.td.map (·.ad)).Nodup)=false
 rw[zL (d:=j9) hi e];simp
theorem FR{h:k9}{se:List BL}(e:(h.td.length:Int)<=(se.length:Int))(e2:∀ j,j<h.td.length->SJ h se (h.td.getD j j9)=true):dg h se=decide (h.td.map (·.ad)).Nodup:=by
 show (decide (h.td.length<=se.length)&&h.td.all (SJ h se)&&decide (h.td.map (·.ad)).Nodup)=_
 rw[zG (d:=j9) e2,decide_eq_true Zaa];simp
theorem HQ{t:j6}(h:aZ t.na=false\/x4 t.a7 0 5000=false):ax t=false:=by
 unfold ax;rcases h with e | e <;> rw[e] <;> simp
theorem GL{t:j6}(h:dk t.se=false\/cH t.lk t.a7=false):ax t=false:=by
 unfold ax;rcases h with e | e <;> rw[e] <;> simp
theorem GX{t:j6}{i:Nat}(hi:i<t.hs.length)(h:dr (t.hs.getD i c5) t.na=false\/dg (t.hs.getD i c5) t.se=false):ax t=false:=by
 unfold ax
 rw[zL (p:=fun h=>dr h t.na&&dg h t.se) (d:=c5) hi (by rcases h with e | e <;> rw[e] <;> simp)];simp
theorem HP{t:j6}(h1:aZ t.na=true/\x4 t.a7 0 5000=true)(h2:dk t.se=true/\cH t.lk t.a7=true)(h3:∀ j,j<t.hs.length->(dr (t.hs.getD j c5) t.na&&dg (t.hs.getD j c5) t.se)=true):ax t=decide (t.hs.map (·.na)).Nodup:=by
 unfold ax
 rw[h1.1,h1.2,h2.1,h2.2,zG (p:=fun h=>dr h t.na&&dg h t.se) (d:=c5) h3];simp
def dU(a:Int)(x:Int)(b:Int):o6 Tryz.prog:=.mk 32 [iV a,iV x,iV b] [] True (bV (x4 x a b)) [] (by
 intro _
 refine aB (N:=15) (rs:=[.tmp 6]) Tryz.func32
  (.q 1<|.q 9<|.nil)
  (Pk (E5 a x) ((E5 a x)==true) true/\Q (bV ((E5 a x)&&(E5 x b))) (bV (x4 x a b))) ?_
 refine⟨⟨fun h=>by rw[h] <;> rfl,fun _=>rfl⟩,?_⟩
 unfold Q
 refine Zbk bV ?_
 unfold x4
 exact(Bool.decide_and ..).symm)
def lN(l:List BL):o6 Tryz.prog:=.mk 56 [ao l] [] (l.length<=1000000) (bV (decide l.Nodup)) [] (by
 intro hl
 refine aB (N:=23) (rs:=[.tmp 2]) Tryz.func56
  (.q 1<|.cu UG (fun g6=>.q 1<|.q 3<|.loop (Nat×Nat) (fun (i,gm)=>⟨[(0,ao l),(3,.om (hE (l.take i)) gm),(7,ao l),(8,iN l.length),(9,iN i)],[]⟩) (fun (i,gm)=>i<=l.length) (fun (i,gm)=>l.length-i) (fun (i,gm)=>.q 1<|.br (.r 3 [sV (l.getD i [])]<|.q 2<|.cu (VL 3 (hE (l.take i)) (l.getD i []) (iN ((l.take i).count (l.getD i [])))) (fun _=>.q 1<|.cu (Ri 3 (hE (l.take i)) (l.getD i []) (.int .i64 ((((l.take i).count (l.getD i []))+1:Nat):Int))) (fun _=>.h (.n8 3 (.om (hE (l.take i++[l.getD i []])) gm))<|.q 2<|.nil))) (.q 1<|.cu (mlC 3) (fun _=>.q 4<|.nil)))))
  (True/\∀ g6:Nat,(∃ x:Nat×Nat,match x with | (j7,N7)=>(j7<=l.length)/\E (ao l)/\Q (.om [] g6) (.om (hE (l.take j7)) N7)/\E (ao l)/\Q (iN ((l.map sV).length)) (iN l.length)/\Q (iN 0) (iN j7)/\True)/\∀ x:Nat×Nat,match x with | (i,gm)=>(i<=l.length)->(fun v1:Int=>Br (r8 (i:Int) (l.length:Int)) (Ex (i:Int) (l.map sV) (sV (l.getD i []))/\True/\(((gm:Nat)=gm/\(hE (l.take i):List (BL×Value))=hE (l.take i))/\((sV (l.getD i []):V)=sV (l.getD i []))/\((∃ y,bD (hE (l.take i)) (l.getD i [])=some y/\(iN ((l.take i).count (l.getD i [])):V).val? =some y)\/(bD (hE (l.take i)) (l.getD i [])=none/\∃ y,(iN ((l.take i).count (l.getD i [])):V).val? =some y/\∀ w,(zeroValue 3).run Tryz.prog w=.ok y w)))/\∀ _:Unit,m8 ((((l.take i).count (l.getD i []):Nat):Int)+1)/\(((gm:Nat)=gm/\(hE (l.take i):List (BL×Value))=hE (l.take i))/\((sV (l.getD i []):V)=sV (l.getD i []))/\(iN (((l.take i).count (l.getD i []))+1):V).val? =some (.int .i64 v1))/\∀ _:Unit,((.om (dh (hE (l.take i)) (l.getD i []) (.int .i64 v1)) gm:V)=.om (hE (l.take i++[l.getD i []])) gm)/\m8 ((i:Int)+1)/\∃ x:Nat×Nat,match x with | (c9,w9)=>(c9<=l.length)/\(l.length-c9<l.length-i)/\E (ao l)/\Q (.om (hE (l.take i++[l.getD i []])) gm) (.om (hE (l.take c9)) w9)/\E (ao l)/\E (iN l.length)/\Q (iN (i+1)) (iN c9)/\True) (((gm:Nat)=gm)/\∀ _:Unit,Q (bV (r6 (((hE (l.take i)).length:Nat):Int) (((l.map sV).length:Nat):Int))) (bV (decide l.Nodup)))) ((((l.take i).count (l.getD i []))+1:Nat):Int)) ?_
 refine⟨trivial,?_⟩
 intro g6
 refine⟨⟨(0,g6),?_,rfl,Zaf,rfl,Zaf,rfl,trivial⟩,?_⟩
 simp
 rintro⟨i,gm⟩ h1
 refine bI (fun l3=>?_) fun l3=>?_
 refine⟨⟨Zaa,aq (d:=[]) Zaa⟩,trivial,⟨⟨rfl,rfl⟩,rfl,AR (l.take i) (l.getD i [])⟩,?_⟩
 intro _
 refine⟨by have hc:(l.take i).count (l.getD i [])<=(l.take i).length:=List.count_le_length;simp only[List.length_take]at hc;omega,⟨⟨rfl,rfl⟩,rfl,rfl⟩,?_⟩
 intro _
 refine⟨Zbk (V.om · gm) (xB (l.take i) (l.getD i [])),Zaa,?_⟩
 refine⟨(i+1,gm),?_,?_,rfl,by rw[bA Zaa []],rfl,rfl,rfl,trivial⟩
 omega
 exact Zai
 refine⟨rfl,?_⟩
 intro _
 unfold Q
 rw[show i=l.length from Zaa,Zax (Zba _)]
 refine Zbk bV ?_
 rw[Za4]
 simp only[nb]
 rw[<- Hj]
 omega)
def Bc(l:List BL):o6 Tryz.prog:=.mk 52 [ao l] [] ((l.length<=100000)/\(∀ x,x∈l->x.length<=1000/\l8 x)) (bV (dk l)) [] (by
 rintro⟨hl,ha⟩
 refine aB (N:=23) (rs:=[.tmp 2]) Tryz.func52
  (.q 1<|.q 5<|.cg (lN l)<|.q 2<|.br (.q 1<|.nil) (.q 3<|.loop (Nat) (fun (i:Nat)=>⟨[(13,ao l),(14,iN l.length),(15,iN i)],[]⟩) (fun (i:Nat)=>i<=l.length/\∀ j,j<i->aA (l.getD j [])=true) (fun (i:Nat)=>l.length-i) (fun (i:Nat)=>.q 1<|.br (.r 3 [sV (l.getD i [])]<|.q 1<|.c (gN (l.getD i [])) []<|.q 1<|.br (.q 1<|.nil) (.q 2<|.nil)) (.q 1<|.nil))))
  ((fun v1:Bool=>(Gd (v1==false) (((l.length<=1000000))/\(lN l).sm)/\Pk v1 true (v1==false)/\Br (v1||(!(decide l.Nodup))) (Q (bV false) (bV (dk l))) ((∃ j7:Nat,(j7<=l.length/\∀ j,j<j7->aA (l.getD j [])=true)/\E (ao l)/\Q (iN ((l.map sV).length)) (iN l.length)/\Q (iN 0) (iN j7)/\True)/\∀ i:Nat,(i<=l.length/\∀ j,j<i->aA (l.getD j [])=true)->Br (r8 (i:Int) (l.length:Int)) (Ex (i:Int) (l.map sV) (sV (l.getD i []))/\True/\(gN (l.getD i [])).sm/\(((l.getD i []).length<=1000000)/\(l8 (l.getD i [])))/\Br (!(aA (l.getD i []))) (Q (bV false) (bV (dk l))) (m8 ((i:Int)+1)/\∃ c9:Nat,(c9<=l.length/\∀ j,j<c9->aA (l.getD j [])=true)/\(l.length-c9<l.length-i)/\E (ao l)/\E (iN l.length)/\Q (iN (i+1)) (iN c9)/\True)) (Q (bV true) (bV (dk l)))))) (w3 (((l.map sV).length:Nat):Int) 60)) ?_
 refine⟨fun hG=>⟨by(try simp only[nb]at hG);omega,rfl⟩,⟨fun _=>rfl,fun h=>by rw[h] <;> rfl⟩,?_⟩
 refine bI (fun l3=>?_) fun l3=>?_
 unfold Q
 rw[EP l3]
 refine⟨⟨0,?_,rfl,Zaf,rfl,trivial⟩,?_⟩
 simp
 rintro i ⟨h1,h2⟩
 refine bI (fun l6=>?_) fun l6=>?_
 have PM:=ha _ (nh (show i<l.length by omega))
 refine⟨⟨Zaa,aq (d:=[]) Zaa⟩,trivial,rfl,⟨Zaa,PM.2⟩,?_⟩
 refine bI (fun n0=>?_) fun n0=>?_
 unfold Q
 rw[GF (i:=i) Zaa (by simpa using n0)]
 refine⟨Zaa,?_⟩
 refine⟨i+1,?_,?_,rfl,rfl,rfl,trivial⟩
 exact⟨Zaa,bJ h2 (by simpa using n0)⟩
 exact Zai
 unfold Q
 rw[Ic l3 (fun j hj=>h2 j Zaa)])
def yQ(rs:List r7):o6 Tryz.prog:=.mk 85 [dQ rs] [] ((rs.length<=100000)/\(∀ i,(rs.getD i ⟨false,[]⟩).path.length<=1000000)) (bV (rs.all fun r=>aI r.path)) [] (by
 rintro⟨hl,ha⟩
 refine aB (N:=16) (rs:=[.tmp 2]) Tryz.func85
  (.q 1<|.q 3<|.loop (Nat) (fun (i:Nat)=>⟨[(5,dQ rs),(6,iN rs.length),(7,iN i)],[]⟩) (fun (i:Nat)=>i<=rs.length/\∀ j,j<i->aI (rs.getD j ⟨false,[]⟩).path=true) (fun (i:Nat)=>rs.length-i) (fun (i:Nat)=>.q 1<|.br (.r 2 [.agg [bV ((rs.getD i (⟨false,[]⟩:r7)).E1),sV ((rs.getD i (⟨false,[]⟩:r7)).path)]]<|.al wz (fun g4=>.st none<|.r 2 [.b9]<|.c (lP ((rs.getD i (⟨false,[]⟩:r7)).path)) []<|.q 1<|.br (.q 1<|.nil) (.q 2<|.nil))) (.q 1<|.nil)))
  ((∃ j7:Nat,(j7<=rs.length/\∀ j,j<j7->aI (rs.getD j ⟨false,[]⟩).path=true)/\E (dQ rs)/\Q (iN ((rs.map aD).length)) (iN rs.length)/\Q (iN 0) (iN j7)/\True)/\∀ i:Nat,(i<=rs.length/\∀ j,j<i->aI (rs.getD j ⟨false,[]⟩).path=true)->Br (r8 (i:Int) (rs.length:Int)) (Ex (i:Int) (rs.map aD) (.agg [bV ((rs.getD i (⟨false,[]⟩:r7)).E1),sV ((rs.getD i (⟨false,[]⟩:r7)).path)])/\True/\∀ g4:Nat,Z g4 0/\Z g4 1/\(lP ((rs.getD i (⟨false,[]⟩:r7)).path)).sm/\((((rs.getD i (⟨false,[]⟩:r7)).path).length<=4611686018427387904))/\Br (!(eD ((rs.getD i (⟨false,[]⟩:r7)).path))) (Q (bV false) (bV (rs.all fun r=>aI r.path))) (m8 ((i:Int)+1)/\∃ c9:Nat,(c9<=rs.length/\∀ j,j<c9->aI (rs.getD j ⟨false,[]⟩).path=true)/\(rs.length-c9<rs.length-i)/\E (dQ rs)/\E (iN rs.length)/\Q (iN (i+1)) (iN c9)/\True)) (Q (bV true) (bV (rs.all fun r=>aI r.path)))) ?_
 refine⟨⟨0,?_,rfl,Zaf,rfl,trivial⟩,?_⟩
 simp
 rintro i ⟨h1,h2⟩
 refine bI (fun l3=>?_) fun l3=>?_
 refine⟨⟨Zaa,aq (d:=(⟨false,[]⟩:r7)) Zaa⟩,trivial,?_⟩
 intro g4
 refine⟨rfl,rfl,rfl,by have:=ha i;omega,?_⟩
 refine bI (fun l6=>?_) fun l6=>?_
 unfold Q
 refine Zbk bV ?_
 symm
 exact zL (d:=⟨false,[]⟩) (i:=i) Zaa (by rw[qs]at l6;exact l6)
 refine⟨Zaa,?_⟩
 refine⟨i+1,?_,?_,rfl,rfl,rfl,trivial⟩
 exact⟨Zaa,bJ h2 (by rw[qs]at l6;exact l6)⟩
 exact Zai
 unfold Q
 refine Zbk bV ?_
 symm
 exact zG (d:=⟨false,[]⟩) (fun j hj=>h2 j Zaa))
abbrev kQ(lk:List l5)(a7:Int)(i:Nat)(la:Int):Prop:=i<=lk.length/\la=(if i=0 then 0 else (lk.getD (i-1) h9).ti)/\∀ j,j<i->qf lk a7 j=true
def zl(lk:List l5)(a7:Int):o6 Tryz.prog:=.mk 53 [cD lk,iV a7] [] ((lk.length<=100000)/\(∀ x,x∈lk->x.ad.length<=1000/\l8 x.ad)) (bV (cH lk a7)) [] (by
 rintro⟨hl,ha⟩
 refine aB (N:=36) (rs:=[.tmp 4]) Tryz.func53
  (.q 1<|.q 3<|.br (.q 1<|.nil) (.q 1<|.q 3<|.loop (Nat×Int) (fun (i,la)=>⟨[(1,iV a7),(5,iV la),(11,cD lk),(12,iN lk.length),(13,iN i)],[]⟩) (fun (i,la)=>kQ lk a7 i la) (fun (i,la)=>lk.length-i) (fun (i,la)=>.q 1<|.br (.r 2 [.agg [iV ((lk.getD i h9).ti),sV ((lk.getD i h9).ad),iV ((lk.getD i h9).ki)]]<|.al yf (fun g7=>.st none<|.r 4 [.b9]<|.c (dU la ((lk.getD i h9).ti) a7) []<|.r 4 [.b9]<|.cg (dU (0:Int) ((lk.getD i h9).ki) (3:Int))<|.q 2<|.br (.q 1<|.nil) (.r 2 [.b9]<|.c (gN ((lk.getD i h9).ad)) []<|.q 1<|.br (.q 1<|.nil) (.r 3 [.b9]<|.q 2<|.nil)))) (.q 1<|.nil))))
  (Br (w3 (((lk.map bf).length:Nat):Int) 400) (Q (bV false) (bV (cH lk a7))) ((∃ x:Nat×Int,match x with | (j7,UJ)=>(kQ lk a7 j7 UJ)/\E (iV a7)/\Q (iN 0) (iV UJ)/\E (cD lk)/\Q (iN ((lk.map bf).length)) (iN lk.length)/\Q (iN 0) (iN j7)/\True)/\∀ x:Nat×Int,match x with | (i,la)=>(kQ lk a7 i la)->Br (r8 (i:Int) (lk.length:Int)) (Ex (i:Int) (lk.map bf) (.agg [iV ((lk.getD i h9).ti),sV ((lk.getD i h9).ad),iV ((lk.getD i h9).ki)])/\True/\∀ g7:Nat,Z g7 0/\Z g7 0/\(dU la ((lk.getD i h9).ti) a7).sm/\(True)/\Gd ((!(x4 ((lk.getD i h9).ti) la a7))==false) (Z g7 2)/\Gd ((!(x4 ((lk.getD i h9).ti) la a7))==false) ((True)/\(dU (0:Int) ((lk.getD i h9).ki) (3:Int)).sm)/\Pk (!(x4 ((lk.getD i h9).ti) la a7)) true ((!(x4 ((lk.getD i h9).ti) la a7))==false)/\Br ((!(x4 ((lk.getD i h9).ti) la a7))||(!(x4 ((lk.getD i h9).ki) (0:Int) (3:Int)))) (Q (bV false) (bV (cH lk a7))) (Z g7 1/\(gN ((lk.getD i h9).ad)).sm/\((((lk.getD i h9).ad).length<=1000000)/\(l8 ((lk.getD i h9).ad)))/\Br (!(aA ((lk.getD i h9).ad))) (Q (bV false) (bV (cH lk a7))) (Z g7 0/\m8 ((i:Int)+1)/\∃ x:Nat×Int,match x with | (c9,UI)=>(kQ lk a7 c9 UI)/\(lk.length-c9<lk.length-i)/\E (iV a7)/\Q (iV ((lk.getD i h9).ti)) (iV UI)/\E (cD lk)/\E (iN lk.length)/\Q (iN (i+1)) (iN c9)/\True))) (Q (bV true) (bV (cH lk a7))))) ?_
 refine bI (fun l3=>?_) fun l3=>?_
 unfold Q
 rw[Eg l3]
 refine⟨⟨(0,0),?_,rfl,Zaf,rfl,Zaf,rfl,trivial⟩,?_⟩
 unfold kQ
 simp
 rintro⟨i,la⟩ ⟨h1,h2,h3⟩
 refine bI (fun l6=>?_) fun l6=>?_
 have PM:=ha _ (aj (d:=h9) (show i<lk.length by omega))
 refine⟨⟨Zaa,aq (d:=h9) Zaa⟩,trivial,?_⟩
 intro g7
 refine⟨rfl,rfl,rfl,trivial,fun hG=>rfl,fun hG=>⟨trivial,rfl⟩,⟨fun _=>rfl,fun h=>by rw[h] <;> rfl⟩,?_⟩
 refine bI (fun n0=>?_) fun n0=>?_
 unfold Q
 rw[wF (i:=i) Zaa (JQ h2 n0)]
 refine⟨rfl,rfl,⟨Zaa,PM.2⟩,?_⟩
 refine bI (fun x7=>?_) fun x7=>?_
 unfold Q
 rw[wF (i:=i) Zaa (JK (by simpa using x7))]
 refine⟨rfl,Zaa,?_⟩
 refine⟨(i+1,(lk.getD i h9).ti),?_,?_,rfl,rfl,rfl,rfl,rfl,trivial⟩
 unfold kQ
 exact⟨Zaa,Zab,bJ h3 (Lj h2 n0 (by simpa using x7))⟩
 exact Zai
 unfold Q
 rw[FQ l3 (fun j hj=>h3 j Zaa)])
def yX(y:k9)(n:BL):o6 Tryz.prog:=.mk 54 [dR y.na y.re y.kn y.gr.na y.gr.ru y.gr.wa y.tr y.td,sV n] [] (Tp y) (bV (dr y n)) [] (by
 intro hh
 refine aB (N:=62) (rs:=[.tmp 4]) Tryz.func54
  (.bx (fun g2=>.q 1<|.r 2 [.b9]<|.c (pZ y.na) []<|.r 4 [.b9]<|.cg (dU (0:Int) y.re (5100:Int))<|.r 5 [.b9]<|.cg (dU (0:Int) y.tr (2:Int))<|.q 2<|.br (.q 1<|.nil) (.r 2 [.b9]<|.al lp (fun g5=>.st none<|.r 12 [.b9,.b9,sV (y.gr.na.getD 0 [])]<|.br (.q 1<|.nil) (.r 3 [.b9]<|.br (.r 10 [.b9,.b9]<|.nil) (.r 7 [.b9,.b9]<|.cg (yQ y.gr.ru)<|.r 4 [.b9]<|.cg (dU (0:Int) (y.gr.wa:Int) (20:Int))<|.q 2<|.nil))))))
  ((fun v1:Int=>(fun v2:Bool=>(fun v3:Bool=>(fun v4:Bool=>(∀ g2:Nat,Z g2 0/\(pZ y.na).sm/\((y.na.length<=4611686018427387904))/\Gd (v4==false) (Z g2 1)/\Gd (v4==false) ((True)/\(dU (0:Int) y.re (5100:Int)).sm)/\Pk v4 true (v4==false)/\Gd ((v4||v3)==false) (Z g2 6)/\Gd ((v4||v3)==false) ((True)/\(dU (0:Int) y.tr (2:Int)).sm)/\Pk (v4||v3) true ((v4||v3)==false)/\Br ((v4||v3)||(!(x4 y.tr (0:Int) (2:Int)))) (Q (bV false) (bV (dr y n))) (Z g2 3/\∀ g5:Nat,Z g5 0/\Z g5 0/\Gd (v2==false) (Z g5 0)/\Gd (v2==false) (Ex 0 (y.gr.na.map sV) (sV (y.gr.na.getD 0 [])))/\Gd (v2==false) True/\Pk v2 true (v2==false)/\Br (v2||(!((y.gr.na.getD 0 [])==n))) (Q (bV false) (bV (dr y n))) (Z g2 2/\Br (!y.kn) (Z g5 1/\Gd ((r6 v1 0)==true) (Z g5 2)/\Pk (r6 v1 0) ((r6 v1 0)==true) true/\Q (bV ((r6 v1 0)&&(r6 (y.gr.wa:Int) 0))) (bV (dr y n))) (Z g5 1/\Gd ((E5 v1 40)==true) (Z g5 1)/\Gd ((E5 v1 40)==true) (((y.gr.ru.length<=100000)/\(∀ i,(y.gr.ru.getD i ⟨false,[]⟩).path.length<=1000000))/\(yQ y.gr.ru).sm)/\Pk (E5 v1 40) ((E5 v1 40)==true) true/\Gd (((E5 v1 40)&&(y.gr.ru.all fun r=>aI r.path))==true) (Z g5 2)/\Gd (((E5 v1 40)&&(y.gr.ru.all fun r=>aI r.path))==true) ((True)/\(dU (0:Int) (y.gr.wa:Int) (20:Int)).sm)/\Pk ((E5 v1 40)&&(y.gr.ru.all fun r=>aI r.path)) (((E5 v1 40)&&(y.gr.ru.all fun r=>aI r.path))==true) true/\Q (bV (((E5 v1 40)&&(y.gr.ru.all fun r=>aI r.path))&&(x4 (y.gr.wa:Int) (0:Int) (20:Int)))) (bV (dr y n))))))) (!(cW y.na))) (!(x4 y.re (0:Int) (5100:Int)))) (w4 (((y.gr.na.map sV).length:Nat):Int) 1)) (((y.gr.ru.map aD).length:Nat):Int)) ?_
 intro g2
 refine⟨rfl,rfl,by have:=hh.n;omega,fun hG=>rfl,fun hG=>⟨trivial,rfl⟩,⟨fun _=>rfl,fun h=>by rw[h] <;> rfl⟩,fun hG=>rfl,fun hG=>⟨trivial,rfl⟩,⟨fun _=>rfl,fun h=>by rw[h] <;> rfl⟩,?_⟩
 refine bI (fun l3=>?_) fun l3=>?_
 unfold Q
 rw[KO l3]
 refine⟨rfl,?_⟩
 intro g5
 refine⟨rfl,rfl,fun hG=>rfl,fun hG=>by(try simp only[nb]at hG);exact⟨Zaa,aq (d:=[]) Zaa⟩,fun hG=>trivial,⟨fun _=>rfl,fun h=>by rw[h] <;> rfl⟩,?_⟩
 refine bI (fun l6=>?_) fun l6=>?_
 unfold Q
 rw[KT l6]
 refine⟨rfl,?_⟩
 refine bI (fun n0=>?_) fun n0=>?_
 refine⟨rfl,fun hG=>rfl,⟨fun h=>by rw[h] <;> rfl,fun _=>rfl⟩,?_⟩
 unfold Q
 rw[Zaw,KP l3 l6 n0]
 refine⟨rfl,fun hG=>rfl,fun hG=>⟨⟨by(try simp only[nb]at hG);have:=hh.r;omega,fun i=>by have:=hh.rp i;omega⟩,rfl⟩,⟨fun h=>by rw[h] <;> rfl,fun _=>rfl⟩,fun hG=>rfl,fun hG=>⟨trivial,rfl⟩,⟨fun h=>by rw[h] <;> rfl,fun _=>rfl⟩,?_⟩
 unfold Q
 rw[Zaw,KC l3 l6 n0])
abbrev lV(y:k9)(se:List BL)(i:Nat)(o:List BL)(g:Nat)(f:Nat)(k:Nat):Prop:=i<=y.td.length/\o=(y.td.take i).map (·.ad)/\∀ j,j<i->SJ y se (y.td.getD j j9)=true
def Ay(y:k9)(se:List BL):o6 Tryz.prog:=.mk 55 [dR y.na y.re y.kn y.gr.na y.gr.ru y.gr.wa y.tr y.td,ao se] [] ((Tp y)/\(se.length<=100000)) (bV (dg y se)) [] (by
 rintro⟨hh,hs⟩
 have Xu:=hh.t
 refine aB (N:=57) (rs:=[.tmp 4]) Tryz.func55
  (.bx (fun g2=>.q 1<|.r 6 [.b9]<|.br (.q 1<|.nil) (.q 1<|.r 4 [.b9]<|.h (.H9 5 1)<|.loop (Nat×(List BL)×Nat×Nat×Nat) (fun (i,o,g,f,k)=>⟨[(1,ao se),(2,.ptr (.key 2) [] g2 0),(5,.own 1 (o.map sV) g f k),(17,gY y.td),(18,iN y.td.length),(19,iN i)],[(2,(g2,dR y.na y.re y.kn y.gr.na y.gr.ru y.gr.wa y.tr y.td))]⟩) (fun (i,o,g,f,k)=>lV y se i o g f k) (fun (i,o,g,f,k)=>y.td.length-i) (fun (i,o,g,f,k)=>.q 1<|.br (.r 2 [.agg [sV ((y.td.getD i j9).ad),iV ((y.td.getD i j9).tr)]]<|.al rB (fun g7=>.st none<|.r 2 [.b9]<|.c (bS ((y.td.getD i j9).ad)) []<|.q 3<|.al dw (fun g8=>.st none<|.q 1<|.r 13 [.b9,.b9,.b9]<|.cg (nt se ((y.td.getD i j9).ad))<|.q 2<|.br (.q 1<|.nil) (.r 2 [.b9]<|.c (dU (0:Int) ((y.td.getD i j9).tr) (2:Int)) []<|.q 1<|.br (.q 1<|.nil) (.r 3 [.b9]<|.bs<|.ap (fun Vb Uu Vr=>.h (.n8 53 (.own 1 ((o++[(y.td.getD i j9).ad]).map sV) Vb Uu Vr))<|.q 1<|.q 2<|.nil)))))) (.h (.fz 5)<|.h (.n8 5 (ao o))<|.q 1<|.c (lN o) []<|.q 1<|.nil)))))
  ((fun v1:V=>(∀ g2:Nat,Z g2 7/\Br (w3 (((y.td.map ar).length:Nat):Int) (((se.map sV).length:Nat):Int)) (Q (bV false) (bV (dg y se))) (Z g2 7/\(∃ x:Nat×(List BL)×Nat×Nat×Nat,match x with | (j7,x9,C9,B8,s7)=>(lV y se j7 x9 C9 B8 s7)/\E (ao se)/\E (.ptr (.key 2) [] g2 0)/\Q (.own 1 ([].map sV) 0 0 0) (.own 1 (x9.map sV) C9 B8 s7)/\E (gY y.td)/\Q (iN ((y.td.map ar).length)) (iN y.td.length)/\Q (iN 0) (iN j7)/\Er g2 v1/\True)/\∀ x:Nat×(List BL)×Nat×Nat×Nat,match x with | (i,o,g,f,k)=>(lV y se i o g f k)->(fun v2:w5=>(fun v3:Bool=>(fun v4:Bool=>(fun v5:List V=>Br (r8 (i:Int) (y.td.length:Int)) (Ex (i:Int) (y.td.map ar) (.agg [sV (v2.ad),iV (v2.tr)])/\True/\∀ g7:Nat,Z g7 0/\Z g7 0/\(bS (v2.ad)).sm/\(((v2.ad).length<=1000000)/\(l8 (v2.ad)))/\∀ g8:Nat,Z g8 0/\Gd (v3==false) (Z g8 0)/\Gd (v3==false) (Z g2 0)/\Pk v3 true (v3==false)/\Gd ((v3||v4)==false) (Z g7 0)/\Gd ((v3||v4)==false) (((se.length<=1000000))/\(nt se (v2.ad)).sm)/\Pk (v3||v4) true ((v3||v4)==false)/\Br ((v3||v4)||(!(se.contains (v2.ad)))) (Q (bV false) (bV (dg y se))) (Z g7 1/\(dU (0:Int) (v2.tr) (2:Int)).sm/\(True)/\Br (!(x4 (v2.tr) (0:Int) (2:Int))) (Q (bV false) (bV (dg y se))) (Z g7 0/\((1,1,g,f,k,(o.map sV).length)=(1,1,g,f,k,(o.map sV).length))/\(True)/\(V.aK v5=false)/\(aM 1 v5)/\(((o.map sV).length+v5.length)*16<=140737488355328)/\∀ Vb Uu Vr:Nat,((.own 1 ((o.map sV)++v5) Vb Uu Vr:V)=.own 1 ((o++[v2.ad]).map sV) Vb Uu Vr)/\m8 ((i:Int)+1)/\∃ x:Nat×(List BL)×Nat×Nat×Nat,match x with | (c9,m6,u7,r9,k₂)=>(lV y se c9 m6 u7 r9 k₂)/\(y.td.length-c9<y.td.length-i)/\E (ao se)/\E (.ptr (.key 2) [] g2 0)/\Q (.own 1 ((o++[v2.ad]).map sV) Vb Uu Vr) (.own 1 (m6.map sV) u7 r9 k₂)/\E (gY y.td)/\E (iN y.td.length)/\Q (iN (i+1)) (iN c9)/\Er g2 v1/\True))) (((.sl false (V.C8 (o.map sV)):V)=ao o)/\(lN o).sm/\((o.length<=1000000))/\Q (bV (decide o.Nodup)) (bV (dg y se)))) ([sV (v2.ad)]:List V)) (!(((oA (ak (v2.ad))).b7)==y.na))) (!((ak (v2.ad)).isSome))) (y.td.getD i j9)))) (dR y.na y.re y.kn y.gr.na y.gr.ru y.gr.wa y.tr y.td)) ?_
 intro g2
 refine⟨rfl,?_⟩
 refine bI (fun l3=>?_) fun l3=>?_
 unfold Q
 rw[Gi l3]
 refine⟨rfl,?_⟩
 refine⟨⟨(0,[],0,0,0),?_,rfl,rfl,rfl,rfl,Zaf,rfl,rfl,trivial⟩,?_⟩
 unfold lV
 simp
 rintro⟨i,o,g,f,k⟩ ⟨h1,h2,h3⟩
 refine bI (fun l6=>?_) fun l6=>?_
 have PM:=hh.ta _ (aj (d:=j9) (show i<y.td.length by omega))
 have UY:o.length=i:=by rw[h2,Zaw,List.length_take];omega
 refine⟨⟨Zaa,aq (d:=j9) Zaa⟩,trivial,?_⟩
 intro g7
 refine⟨rfl,rfl,rfl,⟨Zaa,PM.2⟩,?_⟩
 intro g8
 refine⟨rfl,fun hG=>rfl,fun hG=>rfl,⟨fun _=>rfl,fun h=>by rw[h] <;> rfl⟩,fun hG=>rfl,fun hG=>⟨by(try simp only[nb]at hG);omega,rfl⟩,⟨fun _=>rfl,fun h=>by rw[h] <;> rfl⟩,?_⟩
 refine bI (fun n0=>?_) fun n0=>?_
 unfold Q
 rw[zi (i:=i) Zaa (Mc n0)]
 refine⟨rfl,rfl,trivial,?_⟩
 refine bI (fun x7=>?_) fun x7=>?_
 unfold Q
 rw[zi (i:=i) Zaa (Mj x7)]
 refine⟨rfl,rfl,trivial,rfl,by simp[aM,V.n,V.ns],Zaj,?_⟩
 intro Vb Uu Vr
 refine⟨Zbk (V.own 1 · Vb Uu Vr) Zab,Zaa,?_⟩
 refine⟨(i+1,o++[(y.td.getD i j9).ad],Vb,Uu,Vr),?_,?_,rfl,rfl,rfl,rfl,rfl,rfl,rfl,trivial⟩
 unfold lV
 exact⟨Zaa,by rw[bA Zaa j9,Za9,<- h2];rfl,bJ h3 (Nj n0 x7)⟩
 exact Zai
 refine⟨Zbk (V.sl false) (aT (fun _=>rfl) _),rfl,by rw[h2,Zaw,List.length_take];omega,?_⟩
 unfold Q
 rw[FR l3 (fun j hj=>h3 j Zaa),h2,Zax Zaa])
abbrev lT(t:j6)(i:Nat)(o:List BL)(g:Nat)(f:Nat)(k:Nat):Prop:=i<=t.hs.length/\o=(t.hs.take i).map (·.na)/\∀ j,j<i->(dr (t.hs.getD j c5) t.na&&dg (t.hs.getD j c5) t.se)=true
def dp(t:j6):o6 Tryz.prog:=.mk 27 [bF t.na t.a7 t.hs t.se t.lk] [] (r5 t) (bV (ax t)) [] (by
 intro ht
 have V8:=ht.h
 refine aB (N:=55) (rs:=[.tmp 2]) Tryz.func27
  (.bx (fun g1=>.q 1<|.r 2 [.b9]<|.c (iD t.na) []<|.r 4 [.b9]<|.cg (dU (0:Int) t.a7 (5000:Int))<|.q 2<|.br (.q 1<|.nil) (.r 2 [.b9]<|.c (Bc t.se) []<|.r 6 [.b9,.b9]<|.cg (zl t.lk t.a7)<|.q 2<|.br (.q 1<|.nil) (.q 1<|.r 4 [.b9]<|.h (.H9 3 1)<|.loop (Nat×(List BL)×Nat×Nat×Nat) (fun (i,o,g,f,k)=>⟨[(1,.ptr (.key 1) [] g1 0),(3,.own 1 (o.map sV) g f k),(29,.sl false (t.hs.map bw)),(30,iN t.hs.length),(31,iN i)],[(1,(g1,bF t.na t.a7 t.hs t.se t.lk))]⟩) (fun (i,o,g,f,k)=>lT t i o g f k) (fun (i,o,g,f,k)=>t.hs.length-i) (fun (i,o,g,f,k)=>.q 1<|.br (.r 2 [dR ((t.hs.getD i c5).na) ((t.hs.getD i c5).re) ((t.hs.getD i c5).kn) ((t.hs.getD i c5).gr.na) ((t.hs.getD i c5).gr.ru) ((t.hs.getD i c5).gr.wa) ((t.hs.getD i c5).tr) ((t.hs.getD i c5).td)]<|.al AY (fun g5=>.st none<|.r 3 [.b9,.b9]<|.c (yX (t.hs.getD i c5) t.na) []<|.r 5 [.b9,.b9]<|.cg (Ay (t.hs.getD i c5) t.se)<|.q 2<|.br (.q 1<|.nil) (.r 3 [.b9]<|.bs<|.ap (fun Vd Uw Vt=>.h (.n8 51 (.own 1 ((o++[(t.hs.getD i c5).na]).map sV) Vd Uw Vt))<|.q 1<|.q 2<|.nil)))) (.h (.fz 3)<|.h (.n8 3 (ao o))<|.q 1<|.c (lN o) []<|.q 1<|.nil))))))
  (∀ g1:Nat,Z g1 0/\(iD t.na).sm/\((t.na.length<=4611686018427387904))/\Gd ((!(aZ t.na))==false) (Z g1 1)/\Gd ((!(aZ t.na))==false) ((True)/\(dU (0:Int) t.a7 (5000:Int)).sm)/\Pk (!(aZ t.na)) true ((!(aZ t.na))==false)/\Br ((!(aZ t.na))||(!(x4 t.a7 (0:Int) (5000:Int)))) (Q (bV false) (bV (ax t))) (Z g1 3/\(Bc t.se).sm/\((t.se.length<=100000)/\(∀ x,x∈t.se->x.length<=1000/\l8 x))/\Gd ((!(dk t.se))==false) (Z g1 4)/\Gd ((!(dk t.se))==false) (Z g1 1)/\Gd ((!(dk t.se))==false) (((t.lk.length<=100000)/\(∀ x,x∈t.lk->x.ad.length<=1000/\l8 x.ad))/\(zl t.lk t.a7).sm)/\Pk (!(dk t.se)) true ((!(dk t.se))==false)/\Br ((!(dk t.se))||(!(cH t.lk t.a7))) (Q (bV false) (bV (ax t))) (Z g1 2/\(∃ x:Nat×(List BL)×Nat×Nat×Nat,match x with | (j7,x9,C9,B8,s7)=>(lT t j7 x9 C9 B8 s7)/\E (.ptr (.key 1) [] g1 0)/\Q (.own 1 ([].map sV) 0 0 0) (.own 1 (x9.map sV) C9 B8 s7)/\E (.sl false (t.hs.map bw))/\Q (iN ((t.hs.map bw).length)) (iN t.hs.length)/\Q (iN 0) (iN j7)/\Er g1 (bF t.na t.a7 t.hs t.se t.lk)/\True)/\∀ x:Nat×(List BL)×Nat×Nat×Nat,match x with | (i,o,g,f,k)=>(lT t i o g f k)->(fun v1:k9=>(fun v2:Bool=>(fun v3:List V=>Br (r8 (i:Int) (t.hs.length:Int)) (Ex (i:Int) (t.hs.map bw) (dR (v1.na) (v1.re) (v1.kn) (v1.gr.na) (v1.gr.ru) (v1.gr.wa) (v1.tr) (v1.td))/\True/\∀ g5:Nat,Z g5 0/\Z g5 0/\Z g1 0/\(yX v1 t.na).sm/\((Tp v1))/\Gd v2 (Z g5 0)/\Gd v2 (Z g1 3)/\Gd v2 (((Tp v1)/\(t.se.length<=100000))/\(Ay v1 t.se).sm)/\Pk (!(dr v1 t.na)) true v2/\Br ((!(dr v1 t.na))||(!(dg v1 t.se))) (Q (bV false) (bV (ax t))) (Z g5 0/\((1,1,g,f,k,(o.map sV).length)=(1,1,g,f,k,(o.map sV).length))/\(True)/\(V.aK v3=false)/\(aM 1 v3)/\(((o.map sV).length+v3.length)*16<=140737488355328)/\∀ Vd Uw Vt:Nat,((.own 1 ((o.map sV)++v3) Vd Uw Vt:V)=.own 1 ((o++[v1.na]).map sV) Vd Uw Vt)/\m8 ((i:Int)+1)/\∃ x:Nat×(List BL)×Nat×Nat×Nat,match x with | (c9,m6,u7,r9,k₂)=>(lT t c9 m6 u7 r9 k₂)/\(t.hs.length-c9<t.hs.length-i)/\E (.ptr (.key 1) [] g1 0)/\Q (.own 1 ((o++[v1.na]).map sV) Vd Uw Vt) (.own 1 (m6.map sV) u7 r9 k₂)/\E (.sl false (t.hs.map bw))/\E (iN t.hs.length)/\Q (iN (i+1)) (iN c9)/\Er g1 (bF t.na t.a7 t.hs t.se t.lk)/\True)) (((.sl false (V.C8 (o.map sV)):V)=ao o)/\(lN o).sm/\((o.length<=1000000))/\Q (bV (decide o.Nodup)) (bV (ax t)))) ([sV (v1.na)]:List V)) ((!(dr v1 t.na))==false)) (t.hs.getD i c5)))) ?_
 intro g1
 refine⟨rfl,rfl,by have:=ht.n;omega,fun hG=>rfl,fun hG=>⟨trivial,rfl⟩,⟨fun _=>rfl,fun h=>by rw[h] <;> rfl⟩,?_⟩
 refine bI (fun l3=>?_) fun l3=>?_
 unfold Q
 rw[HQ l3]
 refine⟨rfl,rfl,⟨by have:=ht.s;omega,ht.sa⟩,fun hG=>rfl,fun hG=>rfl,fun hG=>⟨⟨by(try simp only[nb]at hG);have:=ht.l;omega,ht.la⟩,rfl⟩,⟨fun _=>rfl,fun h=>by rw[h] <;> rfl⟩,?_⟩
 refine bI (fun l6=>?_) fun l6=>?_
 unfold Q
 rw[GL l6]
 refine⟨rfl,?_⟩
 refine⟨⟨(0,[],0,0,0),?_,rfl,rfl,rfl,Zaf,rfl,rfl,trivial⟩,?_⟩
 unfold lT
 simp
 rintro⟨i,o,g,f,k⟩ ⟨h1,h2,h3⟩
 refine bI (fun n0=>?_) fun n0=>?_
 have PM:=ht.ha _ (aj (d:=c5) (show i<t.hs.length by omega))
 have UY:o.length=i:=by rw[h2,Zaw,List.length_take];omega
 refine⟨⟨Zaa,aq (d:=c5) Zaa⟩,trivial,?_⟩
 intro g5
 refine⟨rfl,rfl,rfl,rfl,PM,fun hG=>rfl,fun hG=>rfl,fun hG=>⟨⟨PM,by(try simp only[nb]at hG);have:=ht.s;omega⟩,rfl⟩,⟨fun _=>rfl,fun h=>by rw[h] <;> rfl⟩,?_⟩
 refine bI (fun x7=>?_) fun x7=>?_
 unfold Q
 rw[GX (i:=i) Zaa x7]
 refine⟨rfl,rfl,trivial,rfl,by simp[aM,V.n,V.ns],Zaj,?_⟩
 intro Vd Uw Vt
 refine⟨Zbk (V.own 1 · Vd Uw Vt) Zab,Zaa,?_⟩
 refine⟨(i+1,o++[(t.hs.getD i c5).na],Vd,Uw,Vt),?_,?_,rfl,rfl,rfl,rfl,rfl,rfl,trivial⟩
 unfold lT
 exact⟨Zaa,by rw[bA Zaa c5,Za9,<- h2];rfl,bJ h3 (by rw[x7.1,x7.2];rfl)⟩
 exact Zai
 refine⟨Zbk (V.sl false) (aT (fun _=>rfl) _),rfl,by rw[h2,Zaw,List.length_take];omega,?_⟩
 unfold Q
 rw[HP l3 l6 (fun j hj=>h3 j Zaa),h2,Zax Zaa])
theorem bj{g o f:Nat}{v:V}{vs:List V}{p:List Nat}(h:vs[f]? =some v):V.at g o (.agg vs) (f::p)=V.at g (o+V.ns (vs.take f)) v p:=by simp only[V.at,h]
section
variable {α:Type} {l:List α} {f:α->V} {e e':V} {r:List V} {i:Nat} {d:α}
theorem qc(h:i<=l.length):((l.take i).map f).length=i:=by rw[Zaw,List.length_take];omega
theorem aU(h:i<=l.length):((l.take i).map f++e::r)[i]? =some e:=by
 rw[Za2 (by rw[qc h];omega),qc h,Nat.sub_self];rfl
theorem dC(h:i<=l.length):((l.take i).map f++e::r).set i e'=(l.take i).map f++e'::r:=by
 rw[List.set_append_right _ _ (by rw[qc h];omega),qc h,Nat.sub_self];rfl
theorem tC(h:i<l.length):l.map f=(l.take i).map f++f (l.getD i d)::(l.drop (i+1)).map f:=by
 have:l=l.take i++l.getD i d::l.drop (i+1):=by
  rw[Zak,Zar h]
  simp only[Option.getD_some]
  rw[List.getElem_cons_drop,List.take_append_drop]
 conv=>lhs;rw[this,Za9,Zbc]
theorem splitN{y:α}(e:l.getD i d=y)(h:i<l.length):l.map f=(l.take i).map f++f y::(l.drop (i+1)).map f:=by rw[<- e];exact tC h
theorem nK{x:α}(h:i<l.length):(l.take i).map f++f x::(l.drop (i+1)).map f=(l.set i x).map f:=by
 rw[List.set_eq_take_append_cons_drop,if_pos h,Za9,Zbc]
end
abbrev nF(p0:BL)(p1:List k9)(p2:List BL)(p3:V):V:=.agg [sV p0,iV 0,.ow 8 (p1.map aL),.ow 1 (p2.map sV),p3]
abbrev bP(p0:BL)(p1:Int)(p2:List k9)(p3:List BL)(p4:List l5):V:=.agg [sV p0,iV p1,.ow 8 (p2.map aL),.ow 1 (p3.map sV),.ow 3 (p4.map bf)]
abbrev ck(p0:BL)(p1:Int)(p2:List k9)(p3:Nat)(p4:Nat)(p5:Nat)(p6:List BL)(p7:List l5):V:=.agg [sV p0,iV p1,.own 8 (p2.map aL) p3 p4 p5,.ow 1 (p6.map sV),.ow 3 (p7.map bf)]
abbrev od(p0:BL)(p1:Int)(p2:List k9)(p3:Nat)(p4:BL)(p5:Int)(p6:Bool)(p7:List BL)(p8:List r7)(p9:Nat)(RU:Int)(SE:Nat)(SD:Nat)(SC:Nat)(SB:List BL)(SA:List l5):V:=.agg [sV p0,iV p1,.own 8 ((p2.take p3).map aL++(.agg [sV p4,iV p5,bV p6,.agg [.sl false (p7.map sV),.sl false (p8.map aD),iN p9],iV RU,.b9]:V)::(p2.drop (p3+1)).map aL) SE SD SC,.ow 1 (SB.map sV),.ow 3 (SA.map bf)]
abbrev dA(p0:BL)(p1:Int)(p2:List k9)(p3:Nat)(p4:BL)(p5:Int)(p6:Bool)(p7:List BL)(p8:List r7)(p9:Nat)(RU:Int)(SE:List w5)(SD:Nat)(SC:Nat)(SB:Nat)(SA:List BL)(Xj:List l5):V:=.agg [sV p0,iV p1,.own 8 ((p2.take p3).map aL++(.agg [sV p4,iV p5,bV p6,.agg [.sl false (p7.map sV),.sl false (p8.map aD),iN p9],iV RU,.ow 2 (SE.map ar)]:V)::(p2.drop (p3+1)).map aL) SD SC SB,.ow 1 (SA.map sV),.ow 3 (Xj.map bf)]
abbrev bQ(p0:BL)(p1:Int)(p2:List k9)(p3:Nat)(p4:BL)(p5:Int)(p6:Bool)(p7:List BL)(p8:List r7)(p9:Nat)(RU:Int)(SE:List w5)(SD:Nat)(SC:Nat)(SB:Nat)(SA:Nat)(Xj:Nat)(YO:Nat)(YN:List BL)(YM:List l5):V:=.agg [sV p0,iV p1,.own 8 ((p2.take p3).map aL++(.agg [sV p4,iV p5,bV p6,.agg [.sl false (p7.map sV),.sl false (p8.map aD),iN p9],iV RU,.own 2 (SE.map ar) SD SC SB]:V)::(p2.drop (p3+1)).map aL) SA Xj YO,.ow 1 (YN.map sV),.ow 3 (YM.map bf)]
theorem wo{hs:List k9}{d:BL}{i:Nat}(hi:i<hs.length)(e:(hs.getD i c5).na=d)(h:∀ j,j<i->((hs.getD j c5).na==d)=false):o8 hs d=i:=by
 unfold o8
 rw[List.findIdx_eq hi]
 simp only[Zak,Zar hi]at e
 refine⟨by simpa using e,fun j hj=>?_⟩
 have:=h j hj
 simp only[Zak,Zar (show j<hs.length by omega)]at this
 simpa using this
theorem vR{hs:List k9}{d:BL}(h:∀ j,j<hs.length->((hs.getD j c5).na==d)=false):o8 hs d=hs.length:=by
 unfold o8
 rw[List.findIdx_eq_length]
 intro x hx
 obtain⟨j,hj,rfl⟩:=Zbe.1 hx
 have:=h j hj
 simp only[Zak,Zar hj]at this
 simpa using this
theorem CQ{hs:List k9}{d n:BL}{i:Nat}(hi:i<hs.length)(e:(hs.getD i c5).na=d)(h:∀ j,j<i->((hs.getD j c5).na==d)=false):au hs d n=hs:=by
 unfold au;rw[wo hi e h,if_pos hi]
theorem Cs{hs:List k9}{d n:BL}(h:∀ j,j<hs.length->((hs.getD j c5).na==d)=false):au hs d n=hs++[bq d n]:=by
 unfold au;rw[vR h,if_neg Zaa]
theorem qU{n a:BL}{hs:List k9}{se:List BL}(h: ¬ de se a):aN n hs se a=hs:=if_neg h
theorem qq{a:BL}{se:List BL}(h: ¬ de se a):bT se a=se:=if_neg h
theorem yb{a:BL}{se:List BL}(h:de se a):bT se a=se++[a]:=if_pos h
theorem LL{a:BL}{se:List BL}(h:(ak a).isSome=false\/60<=(se.length:Int)): ¬ de se a:=fun c=>by
 rw[fC]at h
 rcases h with h | h
 rw[c.1]at h;cases h
 have:=c.2.1;omega
theorem LW{a:BL}{se:List BL}(h:se.contains a=true): ¬ de se a:=fun c=>c.2.2 (List.contains_iff_mem.1 h)
theorem DQ{a:BL}{se:List BL}(h:(ak a).isSome=true/\(se.length:Int)<60)(h2:se.contains a=false):de se a:=by
 rw[fC]at h
 exact⟨h.1,Zaa,fun c=>by rw[List.contains_iff_mem.2 c]at h2;cases h2⟩
theorem Jl{a:BL}{se:List BL}(h:de se a):ak a=aC a/\(if aO (oA (ak a))=true then bz (oA (ak a)) else [])=pathOf a:=by
 have e:ak a=aC a:=if_pos h.1
 have hs:(aC a).isSome=true:=by have:=h.1;unfold aA at this;rw[Zam]at this;exact this.1
 exact⟨e,by rw[e,if_pos (gX hs)];rfl⟩
theorem GR{n a:BL} {hs:List k9} {se:List BL} (h:de se a) (hk:((au hs (oA (ak a)).b7 n).getD (o8 hs (oA (ak a)).b7) c5).kn=true/\
 av ((au hs (oA (ak a)).b7 n).getD (o8 hs (oA (ak a)).b7) c5).gr.ru (if aO (oA (ak a))=true then bz (oA (ak a)) else [])=false):aN n hs se a=au hs (oA (ak a)).b7 n:=by
 obtain⟨e1,e2⟩:=Jl h
 rw[e2,e1]at hk
 unfold aN
 rw[if_pos h,e1]
 unfold aX ab
 rw[if_pos hk]
 apply List.ext_getElem Zab
 intro i h1 h2
 rw[List.getElem_set]
 split
 rename_i e;subst e;rw[Zak,Zar h2];rfl
 rfl
theorem JY{n a:BL} {hs:List k9} {se:List BL} (h:de se a) (hk:((au hs (oA (ak a)).b7 n).getD (o8 hs (oA (ak a)).b7) c5).kn=true->
 av ((au hs (oA (ak a)).b7 n).getD (o8 hs (oA (ak a)).b7) c5).gr.ru (if aO (oA (ak a))=true then bz (oA (ak a)) else [])=true):
 aN n hs se a=(au hs (oA (ak a)).b7 n).set (o8 hs (oA (ak a)).b7) { (au hs (oA (ak a)).b7 n).getD (o8 hs (oA (ak a)).b7) c5 with td:=((au hs (oA (ak a)).b7 n).getD (o8 hs (oA (ak a)).b7) c5).td++[⟨a,0⟩] }:=by
 obtain⟨e1,e2⟩:=Jl h
 rw[e2,e1]at hk
 unfold aN
 rw[if_pos h,e1]
 unfold aX ab
 rw[if_neg (fun c=>by rw[hk c.1]at c;exact absurd c.2 Zad)]
theorem EL{n:BL}{seeds:List BL}(h:aZ n=false\/12<(seeds.length:Int)):aw n seeds=none:=if_neg fun c=>by
 rcases h with e | e
 rw[c.1]at e;cases e
 have:=c.2;omega
theorem FA{n:BL}{seeds:List BL}(h:aZ n=true/\(seeds.length:Int)<=12):aw n seeds=some (seeds.foldl ah (aG n)):=if_pos ⟨h.1,by have:=h.2;omega⟩
theorem MY{hs:List k9}{n:BL}(hg:∀ y,y∈hs->y.td.length<=1000/\y.gr.ru.length<=1000/\∀ i,(y.gr.ru.getD i ⟨false,[]⟩).path.length<=1000)(d:BL):
 let y:=(au hs d n).getD (o8 hs d) c5
 y.td.length<=1000/\y.gr.ru.length<=1000/\∀ i,(y.gr.ru.getD i ⟨false,[]⟩).path.length<=1000:=by
 intro y
 have hm:y∈au hs d n:=aj (d:=c5) (bL hs d n)
 unfold au at hm
 split at hm
 exact hg y hm
 rcases Zav.1 hm with h | h
 exact hg y h
 rw[Zat.1 h];simp[bq]
def yB(n:BL)(a7:Int)(zs:List k9)(se:List BL)(ls:List l5)(gt:Nat)(d:BL):I2 Tryz.prog:=.mk (Nat×Nat×Nat) 77 [.ptr (.key 1000) [] gt 0,sV d] [(1000,(gt,bP n a7 zs se ls))] (zs.length<=1000) (fun x=>True) (fun x=>.ptr (.key 1000) [2,(o8 zs d)] x.1 (x.2.1+(o8 zs d)*8)) (fun x=>[(1000,(gt,ck n a7 (au zs d n) x.1 x.2.1 x.2.2 se ls))]) (by
 intro hl
 refine fY (N:=59) (rs:=[.tmp 4]) (X:=Nat×Nat×Nat) (post:=fun x=>True) (E:=fun x=>.ptr (.key 1000) [2,(o8 zs d)] x.1 (x.2.1+(o8 zs d)*8)) (H':=fun x=>[(1000,(gt,.agg [sV n,iV a7,.own 8 ((au zs d n).map aL) x.1 x.2.1 x.2.2,.ow 1 (se.map sV),.ow 3 (ls.map bf)]))]) Tryz.func77 Zac rfl rfl rfl Zac [(1000,(0,.b9))] (by intro _ k hk;simpa[lk] using hk)
  (.oR (.key 1000) [2] (fun g o c=>.q 1<|.r 6 [.b9]<|.loop (Nat) (fun (i:Nat)=>⟨[(0,.ptr (.key 1000) [] gt 0),(1,sV d),(10,iN zs.length),(11,iN i)],[(1000,(gt,ck n a7 zs g o c se ls))]⟩) (fun (i:Nat)=>i<=zs.length/\∀ j,j<i->((zs.getD j c5).na==d)=false) (fun (i:Nat)=>zs.length-i) (fun (i:Nat)=>.q 1<|.br (.q 2<|.r 10 [.b9,sV ((zs.getD i c5).na)]<|.br (.r 7 [.b9]<|.nil) (.q 2<|.nil)) (.dx 15 [0,1,2,3,4,5,6,7,8,9,10,11,12,13,14] [(4,⟨false,[],some [1000],[35],[]⟩),(9,⟨false,[],some [1000],[40],[]⟩),(14,⟨true,[],none,[45],[1000]⟩)] []<|.q 1<|.q 1<|.q 1<|.q 1<|.r 1 [.b9]<|.q 1<|.q 1<|.q 1<|.q 1<|.r 1 [.b9]<|.bs<|.bd lp<|.bd AY<|.bs<|.ux none (fun O4 O0 P'=>.h (.n8 45 (.own 8 (zs.map aL++[(.agg [sV d,iN 0,bV false,.agg [.sl true [sV n],.sl true [],iN 0],iN 0,.sl true []]:V)]) O4 O0 P'))<|.h (.RA (.slot 45) [zs.length,5] O4 (O0+(zs.length)*8+7) 2)<|.h (.n8 45 (.own 8 (zs.map aL++[(.agg [sV d,iN 0,bV false,.agg [.sl true [sV n],.sl true [],iN 0],iN 0,.own 2 ([].map ar) 0 0 0]:V)]) O4 O0 P'))<|.h (.Rz (.slot 45) [zs.length] O4 (O0+(zs.length)*8) (.agg [sV d,iN 0,bV false,.agg [.sl true [sV n],.sl true [],iN 0],iN 0,.own 2 ([].map ar) 0 0 0]) (.agg [sV d,iV 0,bV false,.agg [.sl false ([n].map sV),.sl false ([].map aD),iN 0],iV 0,.ow 2 ([].map ar)]))<|.h (.n8 45 (.own 8 (zs.map aL++[(.agg [sV d,iV 0,bV false,.agg [.sl false ([n].map sV),.sl false ([].map aD),iN 0],iV 0,.ow 2 ([].map ar)]:V)]) O4 O0 P'))<|.h (.n8 45 (.own 8 ((zs++[(bq d n)]).map aL) O4 O0 P'))<|.q 2<|.st none<|.dx 10 [0,1,2,3,4,5,6,7,8,9] [(3,⟨false,[],some [1000],[51],[]⟩),(7,⟨false,[],some [1000],[55],[]⟩)] []<|.q 1<|.q 1<|.q 1<|.r 1 [.b9]<|.q 1<|.q 1<|.q 1<|.r 1 [.b9]<|.q 1<|.q 1<|.h (.n8 57 (iN zs.length))<|.q 2<|.nil)))))
  ((fun v1:List V=>(fun v2:V=>(fun v3:V=>(fun v4:V=>(fun v5:Int=>(∀ g o c:Nat,(fun v6:V=>True/\Z gt 2/\(∃ j7:Nat,(j7<=zs.length/\∀ j,j<j7->((zs.getD j c5).na==d)=false)/\E (.ptr (.key 1000) [] gt 0)/\E (sV d)/\Q (iN ((zs.map aL).length)) (iN zs.length)/\Q (iN 0) (iN j7)/\Er gt v6/\True)/\∀ i:Nat,(i<=zs.length/\∀ j,j<i->((zs.getD j c5).na==d)=false)->Br (r8 (i:Int) (zs.length:Int)) (True/\Z gt 2/\In (i:Int) ((zs.map aL).length)/\(V.at gt 0 v6 [2,0+i,0]=some (g,(o+(0+i)*8+0),sV ((zs.getD i c5).na)))/\Br (((zs.getD i c5).na)==d) (True/\Z gt 2/\In (i:Int) ((zs.map aL).length)/\∃ x:Nat×Nat×Nat,(True)/\Q (.ptr (.key 1000) [2,(o8 zs d)] g (o+(0+i)*8)) (.ptr (.key 1000) [2,(o8 zs d)] x.1 (x.2.1+(o8 zs d)*8))/\Qr gt v6 gt (ck n a7 (au zs d n) x.1 x.2.1 x.2.2 se ls)) (m8 ((i:Int)+1)/\∃ c9:Nat,(c9<=zs.length/\∀ j,j<c9->((zs.getD j c5).na==d)=false)/\(zs.length-c9<zs.length-i)/\E (.ptr (.key 1000) [] gt 0)/\E (sV d)/\E (iN zs.length)/\Q (iN (i+1)) (iN c9)/\Er gt v6/\True)) (True/\Z gt 2/\True/\Z gt 0/\(((8,8,g,o,c,(zs.map aL).length)=(8,8,g,o,c,(zs.map aL).length))/\(V.aK v1=false)/\(aM 8 v1)/\(((zs.map aL).length+v1.length)*120<=140737488355328))/\∀ O4 O0 P':Nat,((.own 8 ((zs.map aL)++v1) O4 O0 P':V)=.own 8 (zs.map aL++[v3]) O4 O0 P')/\(V.at O4 O0 (.own 8 (zs.map aL++[v3]) O4 O0 P') [zs.length,5]=some (O4,O0+(zs.length)*8+7,.sl true []))/\(V.set (.own 8 (zs.map aL++[v3]) O4 O0 P') [zs.length,5] (.own 2 ([].map ar) 0 0 0)=.own 8 (zs.map aL++[v2]) O4 O0 P')/\(V.at O4 O0 (.own 8 (zs.map aL++[v2]) O4 O0 P') [zs.length]=some (O4,O0+(zs.length)*8,.agg [sV d,iN 0,bV false,.agg [.sl true [sV n],.sl true [],iN 0],iN 0,.own 2 ([].map ar) 0 0 0]))/\(V.set (.own 8 (zs.map aL++[v2]) O4 O0 P') [zs.length] (.agg [sV d,iV 0,bV false,.agg [.sl false ([n].map sV),.sl false ([].map aD),iN 0],iV 0,.ow 2 ([].map ar)])=.own 8 (zs.map aL++[v4]) O4 O0 P')/\((.own 8 (zs.map aL++[v4]) O4 O0 P':V)=.own 8 ((zs++[(bq d n)]).map aL) O4 O0 P')/\True/\Z gt 2/\True/\Z gt 2/\True/\Z gt 2/\m8 (v5-1)/\Q (iV (v5-1)) (iN zs.length)/\In (zs.length:Int) (((zs++[(bq d n)]).map aL).length)/\∃ x:Nat×Nat×Nat,(True)/\Q (.ptr (.key 1000) [2,(o8 zs d)] O4 (O0+(0+zs.length)*8)) (.ptr (.key 1000) [2,(o8 zs d)] x.1 (x.2.1+(o8 zs d)*8))/\Qr gt (ck n a7 (zs++[(bq d n)]) O4 O0 P' se ls) gt (ck n a7 (au zs d n) x.1 x.2.1 x.2.2 se ls))) (ck n a7 zs g o c se ls))) ((((zs++[(bq d n)]).map aL).length:Nat):Int)) (.agg [sV d,iV 0,bV false,.agg [.sl false ([n].map sV),.sl false ([].map aD),iN 0],iV 0,.ow 2 ([].map ar)]:V)) (.agg [sV d,iN 0,bV false,.agg [.sl true [sV n],.sl true [],iN 0],iN 0,.sl true []]:V)) (.agg [sV d,iN 0,bV false,.agg [.sl true [sV n],.sl true [],iN 0],iN 0,.own 2 ([].map ar) 0 0 0]:V)) ([.agg [sV d,iN 0,bV false,.agg [.sl true [sV n],.sl true [],iN 0],iN 0,.sl true []]]:List V))
  Zac ?_
 intro g o c
 refine⟨trivial,rfl,?_⟩
 refine⟨⟨0,?_,rfl,rfl,Zaf,rfl,rfl,trivial⟩,?_⟩
 simp
 rintro i ⟨h1,h2⟩
 refine bI (fun l3=>?_) fun l3=>?_
 · refine⟨trivial,rfl,Zah,(bj (f:=2) rfl).trans (aS (by rw[Zau];exact aq (d:=c5) Zaa) rfl),?_⟩
   refine bI (fun l6=>?_) fun l6=>?_
   · refine⟨trivial,rfl,Zah,?_⟩
     refine⟨(g,o,c),?_,?_,?_⟩
     · try dsimp only
       all_goals trivial
     first | (rw[wo (i:=i) Zaa l6 h2,Zau]) | (rw[vR (fun j hj=>h2 j Zaa),Zau])
     first | (rw[CQ (i:=i) Zaa l6 h2]) | (rw[Cs (fun j hj=>h2 j Zaa)])
   refine⟨Zaa,?_⟩
   refine⟨i+1,?_,?_,rfl,rfl,rfl,rfl,rfl,trivial⟩
   exact⟨Zaa,bJ h2 (by simpa using l6)⟩
   exact Zai
 · refine⟨trivial,rfl,trivial,rfl,⟨rfl,rfl,by simp[aM,V.n,V.ns],Zaj⟩,?_⟩
   intro O4 O0 P'
   refine⟨Zbk (V.own 8 · O4 O0 P') (rfl),aS (bu) rfl,bn (bu) (dV),ig bu,pw (bu) (dV),Zbk (V.own 8 · O4 O0 P') (by rw[Za9 (f:=aL)];rfl),trivial,rfl,trivial,rfl,trivial,rfl,by(try simp only[Zaw]at *);(try simp only[Zan,Zaw,Zap,Zas]);omega,by unfold Q;refine Zbk iV ?_;simp,by(try simp only[Zaw]at *);(try simp only[Zan,Zaw,Zap,Zas]);omega,?_⟩
   refine⟨(O4,O0,P'),?_,?_,?_⟩
   · try dsimp only
     all_goals trivial
   first | (rw[wo (i:=i) Zaa l6 h2,Zau]) | (rw[vR (fun j hj=>h2 j Zaa),Zau])
   first | (rw[CQ (i:=i) Zaa l6 h2]) | (rw[Cs (fun j hj=>h2 j Zaa)]))
def wy(n:BL)(a7:Int)(zs:List k9)(se:List BL)(ls:List l5)(gt:Nat)(a:BL):o6 Tryz.prog:=.mk 47 [.ptr (.key 1000) [] gt 0,sV a] [(1000,(gt,bP n a7 zs se ls))] ((zs.length<=1000)/\(se.length<=1000)/\(a.length<=1000000)/\(l8 a)/\(∀ y,y∈zs->y.td.length<=1000/\y.gr.ru.length<=1000/\∀ i,(y.gr.ru.getD i ⟨false,[]⟩).path.length<=1000)) (.tup []) [(1000,(gt,bP n a7 (aN n zs se a) (bT se a) ls))] (by
 rintro⟨hl,OX,ha,hc,hg⟩
 refine aB (N:=70) (rs:=[]) Tryz.func47
  (.oR (.key 1000) [3] (fun gs os cs=>.q 1<|.c (bS a) []<|.q 3<|.al dw (fun g4=>.st none<|.q 1<|.r 10 [.b9]<|.sp ((!((ak a).isSome))||(A8 (((se.map sV).length:Nat):Int) 60)) (.h (.n8 21 (bV true))<|.q 1<|.gf (.b9)<|.gf (.b9)<|.gf (.b9)<|.gf (.b9)<|.gf (.b9)<|.gf (bV false)<|.q 1<|.br (.nil) (.nil)) (.h (.n8 21 (bV false))<|.q 1<|.gt<|.q 1<|.gt<|.q 1<|.gt<|.q 1<|.gt<|.r 1 [.b9]<|.gt<|.q 1<|.gt<|.cl (nt se a)<|.q 1<|.br (.nil) (.r 6 [.b9]<|.bs<|.ap (fun P8 Wo WY=>.h (.n8 37 (.own 1 ((se++[a]).map sV) P8 Wo WY))<|.q 2<|.st none<|.r 3 [.b9]<|.cx (yB n a7 zs (se++[a]) ls gt ((oA (ak a)).b7)) [(1000,1000)] (fun (m9:Nat×Nat×Nat)=>.q 1<|.ex (List k9×Nat) (fun x=>((au zs (oA (ak a)).b7 n),(o8 zs (oA (ak a)).b7))=x) (fun (x:List k9×Nat)=>.h (.C7 1000 (ck n a7 x.1 m9.1 m9.2.1 m9.2.2 (se++[a]) ls))<|.h (.n8 43 (.ptr (.key 1000) [2,x.2] m9.1 (m9.2.1+x.2*8)))<|.h (.n8 6 (.ptr (.key 1000) [2,x.2] m9.1 (m9.2.1+x.2*8)))<|.dx 15 [0,1,2,3,4,5,6,7,8,9,10,11,12,13,14] [(3,⟨false,[],some [1000],[47],[]⟩),(9,⟨false,[],some [1000],[53],[]⟩),(10,⟨false,[],some [4],[54],[]⟩)] []<|.q 1<|.q 1<|.q 1<|.r 1 [bV ((x.1.getD x.2 c5).kn)]<|.q 1<|.q 1<|.q 1<|.q 1<|.q 1<|.r 1 [dQ ((x.1.getD x.2 c5).gr.ru)]<|.r 1 [.b9]<|.cg (kX (oA (ak a)))<|.cg (jN ((x.1.getD x.2 c5).gr.ru) (if aO (oA (ak a))=true then bz (oA (ak a)) else []))<|.q 1<|.q 1<|.br (.nil) (.ex (k9) (fun y=>(x.1.getD x.2 c5)=y) (fun (y:k9)=>.h (.C7 1000 (dA n a7 x.1 x.2 y.na y.re y.kn y.gr.na y.gr.ru y.gr.wa y.tr y.td m9.1 m9.2.1 m9.2.2 (se++[a]) ls))<|.Sa (.key 1000) [2,x.2,5] m9.1 (m9.2.1+(x.2)*8+7) 2 (y.td.map ar) (fun gA P4 cA=>.h (.C7 1000 (bQ n a7 x.1 x.2 y.na y.re y.kn y.gr.na y.gr.ru y.gr.wa y.tr y.td gA P4 cA m9.1 m9.2.1 m9.2.2 (se++[a]) ls))<|.r 6 [.own 2 (y.td.map ar) gA P4 cA]<|.bd rB<|.bs<|.ZR (y.td.map ar) m9.1 (m9.2.1+(x.2)*8+7) (fun Si Sb So=>.h (.n8 67 (.own 2 ((y.td++[(⟨a,0⟩:w5)]).map ar) Si Sb So))<|.h (.C7 1000 (od n a7 x.1 x.2 y.na y.re y.kn y.gr.na y.gr.ru y.gr.wa y.tr m9.1 m9.2.1 m9.2.2 (se++[a]) ls))<|.q 2<|.st (some (.b9))<|.h (.C7 1000 (bQ n a7 x.1 x.2 y.na y.re y.kn y.gr.na y.gr.ru y.gr.wa y.tr (y.td++[(⟨a,0⟩:w5)]) Si Sb So m9.1 m9.2.1 m9.2.2 (se++[a]) ls))<|.h (.Rz (.key 1000) [2,x.2,5] m9.1 (m9.2.1+(x.2)*8+7) (.own 2 ((y.td++[(⟨a,0⟩:w5)]).map ar) Si Sb So) (.ow 2 ((y.td++[(⟨a,0⟩:w5)]).map ar)))<|.h (.C7 1000 (dA n a7 x.1 x.2 y.na y.re y.kn y.gr.na y.gr.ru y.gr.wa y.tr (y.td++[(⟨a,0⟩:w5)]) m9.1 m9.2.1 m9.2.2 (se++[a]) ls))<|.h (.C7 1000 (ck n a7 (x.1.set x.2 ({ y with td:=y.td++[⟨a,0⟩] }:k9)) m9.1 m9.2.1 m9.2.2 (se++[a]) ls))<|.nil))))))))))))
  ((fun v1:V=>(fun v2:Bool=>(fun v3:Bool=>(fun v4:List V=>(∀ gs os cs:Nat,(bS a).sm/\((a.length<=1000000)/\(l8 a))/\∀ g4:Nat,Z g4 0/\Gd (v3==false) True/\Gd (v3==false) (Z gt 3)/\Pk v3 true (v3==false)/\((v3||v2)=true->((bV (v3||v2):V)=bV true)/\(false=false)/\(false=false)/\(false=false)/\(false=false)/\(false=false)/\(false=false)/\Pk true true false/\Br (true||false) (Q (.tup []) (.tup [])/\Qr gt (bP n a7 zs se ls) gt v1) (False))/\((v3||v2)=false->((bV (v3||v2):V)=bV false)/\(true=true)/\(true=true)/\True/\(true=true)/\(true=true)/\Z gt 3/\(true=true)/\(true=true)/\(((1=1/\gs=gs/\os=os)/\0+((se.map sV).length)<=(se.map sV).length/\V.aK (se.map sV)=false/\aM 1 (se.map sV))/\True)/\(([.sl false (((se.map sV).drop 0).take ((se.map sV).length)),sV a]:List V)=[ao se,sV a])/\((se.length<=1000000))/\Pk false true true/\Br (false||(se.contains a)) (Q (.tup []) (.tup [])/\Qr gt (bP n a7 zs se ls) gt v1) (True/\Z gt 3/\((1,1,gs,os,cs,(se.map sV).length)=(1,1,gs,os,cs,(se.map sV).length))/\(True)/\(V.aK ([sV a]:List V)=false)/\(aM 1 ([sV a]:List V))/\(((se.map sV).length+([sV a]:List V).length)*16<=140737488355328)/\∀ P8 Wo WY:Nat,((.own 1 ((se.map sV)++([sV a]:List V)) P8 Wo WY:V)=.own 1 ((se++[a]).map sV) P8 Wo WY)/\True/\Z gt 3/\Z g4 0/\(yB n a7 zs (se++[a]) ls gt ((oA (ak a)).b7)).sm/\Er gt (bP n a7 zs (se++[a]) ls)/\((zs.length<=1000))/\∀ m9:Nat×Nat×Nat,(True)->(fun v5:V=>(∃ x:List k9×Nat,((au zs (oA (ak a)).b7 n),(o8 zs (oA (ak a)).b7))=x)/\∀ x:List k9×Nat,(((au zs (oA (ak a)).b7 n),(o8 zs (oA (ak a)).b7))=x)->(fun v6:k9=>(fun v7:V=>((ck n a7 (au zs ((oA (ak a)).b7) n) m9.1 m9.2.1 m9.2.2 (se++[a]) ls:V)=ck n a7 x.1 m9.1 m9.2.1 m9.2.2 (se++[a]) ls)/\(v5=.ptr (.key 1000) [2,x.2] m9.1 (m9.2.1+x.2*8))/\(v5=.ptr (.key 1000) [2,x.2] m9.1 (m9.2.1+x.2*8))/\True/\(V.at gt 0 v7 [2,x.2,2]=some (m9.1,(m9.2.1+x.2*8+2),bV (v6.kn)))/\Gd ((v6.kn)==true) (((v6.kn)==true)=true)/\Gd ((v6.kn)==true) True/\Gd ((v6.kn)==true) (((v6.kn)==true)=true)/\Gd ((v6.kn)==true) (((v6.kn)==true)=true)/\Gd ((v6.kn)==true) (((v6.kn)==true)=true)/\Gd ((v6.kn)==true) (V.at gt 0 v7 [2,x.2,3,1]=some (m9.1,(m9.2.1+x.2*8+3+1),dQ (v6.gr.ru)))/\Gd ((v6.kn)==true) (Z g4 0)/\Gd ((v6.kn)==true) (((v6.kn)==true)=true)/\Gd ((v6.kn)==true) (((dm (oA (ak a))))/\(kX (oA (ak a))).sm)/\Gd ((v6.kn)==true) (((v6.kn)==true)=true)/\Gd ((v6.kn)==true) (((v6.kn)==true)=true)/\Gd ((v6.kn)==true) ((((v6.gr.ru).length<=1000000)/\(∀ i,((v6.gr.ru).getD i ⟨false,[]⟩).path.length<=1000000)/\((if aO (oA (ak a))=true then bz (oA (ak a)) else []).length<=1000000))/\(jN (v6.gr.ru) (if aO (oA (ak a))=true then bz (oA (ak a)) else [])).sm)/\Gd ((v6.kn)==true) (((v6.kn)==true)=true)/\Pk (v6.kn) ((v6.kn)==true) true/\Br ((v6.kn)&&(!(av (v6.gr.ru) (if aO (oA (ak a))=true then bz (oA (ak a)) else [])))) (Q (.tup []) (.tup [])/\Qr gt (bP n a7 x.1 (se++[a]) ls) gt v1) ((∃ y:k9,v6=y)/\∀ y:k9,(v6=y)->(fun v8:V=>(fun v9:V=>((ck n a7 x.1 m9.1 m9.2.1 m9.2.2 (se++[a]) ls:V)=dA n a7 x.1 x.2 y.na y.re y.kn y.gr.na y.gr.ru y.gr.wa y.tr y.td m9.1 m9.2.1 m9.2.2 (se++[a]) ls)/\(V.at gt 0 v8 [2,x.2,5]=some (m9.1,m9.2.1+(x.2)*8+7,.ow 2 (y.td.map ar)))/\∀ gA P4 cA:Nat,(fun v10:V=>(V.set v8 [2,x.2,5] (.own 2 (y.td.map ar) gA P4 cA)=bQ n a7 x.1 x.2 y.na y.re y.kn y.gr.na y.gr.ru y.gr.wa y.tr y.td gA P4 cA m9.1 m9.2.1 m9.2.2 (se++[a]) ls)/\True/\(V.at gt 0 v10 [2,x.2,5]=some (m9.1,(m9.2.1+x.2*8+7),.own 2 (y.td.map ar) gA P4 cA))/\((V.at gt 0 v10 [2,x.2,5]=some (m9.1,m9.2.1+(x.2)*8+7,.own 2 (y.td.map ar) gA P4 cA))/\2=2/\(y.td.map ar).length=(y.td.map ar).length)/\(True)/\(V.aK v4=false)/\(aM 2 v4)/\(((y.td.map ar).length+v4.length)*24<=140737488355328)/\∀ Si Sb So:Nat,(fun v11:V=>((.own 2 ((y.td.map ar)++v4) Si Sb So:V)=.own 2 ((y.td++[(⟨a,0⟩:w5)]).map ar) Si Sb So)/\(V.set v10 [2,x.2,5] (.b9)=od n a7 x.1 x.2 y.na y.re y.kn y.gr.na y.gr.ru y.gr.wa y.tr m9.1 m9.2.1 m9.2.2 (se++[a]) ls)/\True/\(V.at gt 0 v9 [2,x.2,5]=some (m9.1,(m9.2.1+x.2*8+7),.b9))/\(V.set v9 [2,x.2,5] (.own 2 ((y.td++[(⟨a,0⟩:w5)]).map ar) Si Sb So)=bQ n a7 x.1 x.2 y.na y.re y.kn y.gr.na y.gr.ru y.gr.wa y.tr (y.td++[(⟨a,0⟩:w5)]) Si Sb So m9.1 m9.2.1 m9.2.2 (se++[a]) ls)/\(V.at gt 0 v11 [2,x.2,5]=some (m9.1,m9.2.1+(x.2)*8+7,.own 2 ((y.td++[(⟨a,0⟩:w5)]).map ar) Si Sb So))/\(V.set v11 [2,x.2,5] (.ow 2 ((y.td++[(⟨a,0⟩:w5)]).map ar))=dA n a7 x.1 x.2 y.na y.re y.kn y.gr.na y.gr.ru y.gr.wa y.tr (y.td++[(⟨a,0⟩:w5)]) m9.1 m9.2.1 m9.2.2 (se++[a]) ls)/\((dA n a7 x.1 x.2 y.na y.re y.kn y.gr.na y.gr.ru y.gr.wa y.tr (y.td++[(⟨a,0⟩:w5)]) m9.1 m9.2.1 m9.2.2 (se++[a]) ls:V)=ck n a7 (x.1.set x.2 ({ y with td:=y.td++[⟨a,0⟩] }:k9)) m9.1 m9.2.1 m9.2.2 (se++[a]) ls)/\Q (.tup []) (.tup [])/\Qr gt (bP n a7 (x.1.set x.2 ({ y with td:=y.td++[⟨a,0⟩] }:k9)) (se++[a]) ls) gt v1) (bQ n a7 x.1 x.2 y.na y.re y.kn y.gr.na y.gr.ru y.gr.wa y.tr (y.td++[(⟨a,0⟩:w5)]) Si Sb So m9.1 m9.2.1 m9.2.2 (se++[a]) ls)) (bQ n a7 x.1 x.2 y.na y.re y.kn y.gr.na y.gr.ru y.gr.wa y.tr y.td gA P4 cA m9.1 m9.2.1 m9.2.2 (se++[a]) ls)) (od n a7 x.1 x.2 y.na y.re y.kn y.gr.na y.gr.ru y.gr.wa y.tr m9.1 m9.2.1 m9.2.2 (se++[a]) ls)) (dA n a7 x.1 x.2 y.na y.re y.kn y.gr.na y.gr.ru y.gr.wa y.tr y.td m9.1 m9.2.1 m9.2.2 (se++[a]) ls))) (ck n a7 x.1 m9.1 m9.2.1 m9.2.2 (se++[a]) ls)) (x.1.getD x.2 c5)) (.ptr (.key 1000) [2,(o8 zs ((oA (ak a)).b7))] m9.1 (m9.2.1+(o8 zs ((oA (ak a)).b7))*8):V))))) ([.agg [sV a,iN 0]]:List V)) (!((ak a).isSome))) (A8 (((se.map sV).length:Nat):Int) 60)) (bP n a7 (aN n zs se a) (bT se a) ls)) ?_
 intro gs os cs
 refine⟨rfl,⟨ha,hc⟩,?_⟩
 intro g4
 refine⟨rfl,fun hG=>trivial,fun hG=>rfl,⟨fun _=>rfl,fun h=>by rw[h] <;> rfl⟩,?_⟩
 refine⟨fun PJ=>?_,fun PJ=>?_⟩
 · have K3:=PJ
   try simp only[nb]at K3
   refine⟨Zbk bV PJ,rfl,rfl,rfl,rfl,rfl,rfl,⟨fun _=>rfl,fun h=>by rw[h] <;> rfl⟩,?_⟩
   refine bI (fun l3=>?_) fun l3=>?_
   refine⟨?_,by rw[qU (n:=n) (hs:=zs) (LL K3),qq (LL K3)]⟩
   unfold Q
   rfl
   · all_goals (first | exact absurd l3 Zad | simp_all)
 have K3:=PJ
 try simp only[nb]at K3
 refine⟨Zbk bV PJ,rfl,rfl,trivial,rfl,rfl,rfl,rfl,rfl,⟨⟨⟨rfl,rfl,rfl⟩,Zab,cP (f:=sV) (fun _=>rfl) _,dY (f:=sV) (fun _=>rfl) _⟩,trivial⟩,by simp[Zax],Zaa,⟨fun _=>rfl,fun _=>rfl⟩,?_⟩
 refine bI (fun l6=>?_) fun l6=>?_
 refine⟨?_,by rw[qU (n:=n) (hs:=zs) (LW (l6.resolve_left Zad)),qq (LW (l6.resolve_left Zad))]⟩
 unfold Q
 rfl
 refine⟨trivial,rfl,rfl,trivial,rfl,by simp[aM,V.n,V.ns],by(try simp only[Zan,Zaw,Zap,Zas]);omega,?_⟩
 intro P8 Wo WY
 refine⟨Zbk (V.own 1 · P8 Wo WY) Zab,trivial,rfl,rfl,rfl,rfl,hl,?_⟩
 intro m9 Xr
 have Zr:=bL zs (oA (ak a)).b7 n
 have V8:=vk zs (oA (ak a)).b7 n
 have WK:=MY (n:=n) hg (oA (ak a)).b7
 refine⟨⟨_,rfl⟩,?_⟩
 intro x hx
 have Y0:(au zs (oA (ak a)).b7 n)=x.1:=by rw[<- hx]
 have E':(o8 zs (oA (ak a)).b7)=x.2:=by rw[<- hx]
 rw[Y0,E']at Zr WK
 rw[Y0]at V8
 refine⟨by rw[Y0],(by rw[E']),(by rw[E']),trivial,(bj (f:=2) rfl).trans (aS (aq (d:=c5) Zaa) rfl),fun h=>h,fun hG=>trivial,fun h=>h,fun h=>h,fun h=>h,fun hG=>(bj (f:=2) rfl).trans (aS (aq (d:=c5) Zaa) rfl),fun hG=>rfl,fun h=>h,fun hG=>⟨by(try simp only[nb]at hG);exact pB _,rfl⟩,fun h=>h,fun h=>h,fun hG=>⟨⟨by(try simp only[nb]at hG);have:=WK.2.1;omega,fun i=>by have:=WK.2.2 i;omega,by(try simp only[nb]at hG);have:=(pB a).path;split <;> simp <;> omega⟩,rfl⟩,fun h=>h,⟨fun h=>by rw[h] <;> rfl,fun _=>rfl⟩,?_⟩
 refine bI (fun n0=>?_) fun n0=>?_
 refine⟨?_,by obtain rfl:=hx;simp only at n0 ⊢;rw[GR (DQ K3 l6.2) n0,yb (DQ K3 l6.2)]⟩
 unfold Q
 rfl
 refine⟨⟨_,rfl⟩,?_⟩
 intro y hy
 rw[hy]at WK
 refine⟨P2 (Zbk (V.own 8 · m9.1 m9.2.1 m9.2.2) (splitN hy (Zr))),(bj (f:=2) rfl).trans (aS (aU Zaa) rfl),?_⟩
 intro gA P4 cA
 refine⟨eP (bn (aU Zaa) (dC Zaa)),trivial,(bj (f:=2) rfl).trans (aS (aU Zaa) rfl),⟨(bj (f:=2) rfl).trans (aS (aU Zaa) rfl),rfl,rfl⟩,trivial,rfl,by simp[aM,V.n,V.ns],by(try simp only[Zan,Zaw,Zap,Zas]);omega,?_⟩
 intro Si Sb So
 refine⟨Zbk (V.own 2 · Si Sb So) Zab,eP (bn (aU Zaa) (dC Zaa)),trivial,(bj (f:=2) rfl).trans (aS (aU Zaa) rfl),eP (bn (aU Zaa) (dC Zaa)),(bj (f:=2) rfl).trans (aS (aU Zaa) rfl),eP (bn (aU Zaa) (dC Zaa)),P2 (Zbk (V.own 8 · m9.1 m9.2.1 m9.2.2) (nK (f:=aL) (x:=({ y with td:=y.td++[⟨a,0⟩] }:k9)) (Zr))),?_⟩
 refine⟨?_,by subst hy;obtain rfl:=hx;simp only at n0 ⊢;rw[JY (DQ K3 l6.2) n0,yb (DQ K3 l6.2)]⟩
 unfold Q
 rfl)
abbrev nU(n:BL)(seeds:List BL):V:=.tup [bP ((oT (aw n seeds)).na) ((oT (aw n seeds)).a7) ((oT (aw n seeds)).hs) ((oT (aw n seeds)).se) ((oT (aw n seeds)).lk),bV ((aw n seeds).isSome)]
def yy(n:BL)(seeds:List BL):o6 Tryz.prog:=.mk 24 [sV n,ao seeds] [] ((n.length<=1000)/\(seeds.length<=1000)/\(∀ x,x∈seeds->x.length<=1000/\l8 x)) (nU n seeds) [] (by
 rintro⟨hn,hl,ha⟩
 refine aB (N:=30) (rs:=[.cell 4 30,.tmp 5]) Tryz.func24
  (.al fo (fun g4=>.q 1<|.q 1<|.c (iD n) []<|.q 6<|.br (.bd fo<|.st none<|.q 1<|.h (.B3 (.key 4) [2] 8)<|.h (.B3 (.key 4) [3] 1)<|.h (.B3 (.key 4) [4] 3)<|.nil) (.q 1<|.bd fo<|.al fo (fun g6=>.st none<|.h (.B3 (.key 6) [2] 8)<|.h (.B3 (.key 6) [3] 1)<|.h (.B3 (.key 6) [4] 3)<|.q 3<|.loop (Nat×(List k9)×(List BL)) (fun (i,zs,se)=>⟨[(4,.ptr (.key 4) [] g4 0),(6,.ptr (.key 6) [] g6 0),(20,ao seeds),(21,iN seeds.length),(22,iN i)],[(4,(g4,.agg [sV [],iN 0,.sl true [],.sl true [],.sl true []])),(6,(g6,nF n zs se (.ow 3 ([].map bf))))]⟩) (fun (i,zs,se)=>i<=seeds.length/\zs=((seeds.take i).foldl ah (aG n)).hs/\se=((seeds.take i).foldl ah (aG n)).se) (fun (i,zs,se)=>seeds.length-i) (fun (i,zs,se)=>.q 1<|.br (.r 3 [sV (seeds.getD i [])]<|.q 1<|.c (wy n (0:Int) zs se ([]:List l5) g6 (seeds.getD i [])) [(1000,6)]<|.q 2<|.nil) (.mv<|.st none<|.q 1<|.nil))))))
  ((fun v1:V=>(∀ g4:Nat,(iD n).sm/\((n.length<=4611686018427387904))/\Pk (!(aZ n)) true ((!(aZ n))==false)/\Br ((!(aZ n))||(w3 (((seeds.map sV).length:Nat):Int) 12)) (Z g4 0/\(g4=g4)/\Q (.tup [.agg [sV [],iN 0,.ow 8 ([].map aL),.ow 1 ([].map sV),.ow 3 ([].map bf)],bV false]) (nU n seeds)) (∀ g6:Nat,Z g6 0/\(∃ x:Nat×(List k9)×(List BL),match x with | (j7,QB,QK)=>(j7<=seeds.length/\QB=((seeds.take j7).foldl ah (aG n)).hs/\QK=((seeds.take j7).foldl ah (aG n)).se)/\E (.ptr (.key 4) [] g4 0)/\E (.ptr (.key 6) [] g6 0)/\E (ao seeds)/\Q (iN ((seeds.map sV).length)) (iN seeds.length)/\Q (iN 0) (iN j7)/\Er g4 v1/\Qr g6 (.agg [sV n,iN 0,.ow 8 ([].map aL),.ow 1 ([].map sV),.ow 3 ([].map bf)]) g6 (nF n QB QK (.ow 3 ([].map bf)))/\True)/\∀ x:Nat×(List k9)×(List BL),match x with | (i,zs,se)=>(i<=seeds.length/\zs=((seeds.take i).foldl ah (aG n)).hs/\se=((seeds.take i).foldl ah (aG n)).se)->Br (r8 (i:Int) (seeds.length:Int)) (Ex (i:Int) (seeds.map sV) (sV (seeds.getD i []))/\True/\(wy n (0:Int) zs se ([]:List l5) g6 (seeds.getD i [])).sm/\Er g6 (bP n (0:Int) zs se ([]:List l5))/\((zs.length<=1000)/\(se.length<=1000)/\((seeds.getD i []).length<=1000000)/\(l8 (seeds.getD i []))/\(∀ y,y∈zs->y.td.length<=1000/\y.gr.ru.length<=1000/\∀ i,(y.gr.ru.getD i ⟨false,[]⟩).path.length<=1000))/\m8 ((i:Int)+1)/\∃ x:Nat×(List k9)×(List BL),match x with | (c9,O6,O9)=>(c9<=seeds.length/\O6=((seeds.take c9).foldl ah (aG n)).hs/\O9=((seeds.take c9).foldl ah (aG n)).se)/\(seeds.length-c9<seeds.length-i)/\E (.ptr (.key 4) [] g4 0)/\E (.ptr (.key 6) [] g6 0)/\E (ao seeds)/\E (iN seeds.length)/\Q (iN (i+1)) (iN c9)/\Er g4 v1/\Qr g6 (bP n (0:Int) (aN n zs se (seeds.getD i [])) (bT se (seeds.getD i [])) ([]:List l5)) g6 (nF n O6 O9 (.ow 3 ([].map bf)))/\True) (Z g6 0/\Z g4 0/\(g4=g4)/\Q (.tup [nF n zs se (.ow 3 ([].map bf)),bV true]) (nU n seeds))))) (.agg [sV [],iN 0,.sl true [],.sl true [],.sl true []])) ?_
 intro g4
 refine⟨rfl,Zaa,⟨fun _=>rfl,fun h=>by rw[h] <;> rfl⟩,?_⟩
 refine bI (fun l3=>?_) fun l3=>?_
 refine⟨rfl,?_⟩
 refine⟨rfl,?_⟩
 unfold Q nU
 rw[EL l3];rfl
 intro g6
 refine⟨rfl,?_⟩
 refine⟨⟨(0,[],[]),?_,rfl,rfl,rfl,Zaf,rfl,rfl,Zaf,trivial⟩,?_⟩
 exact⟨Zab,rfl,rfl⟩
 rintro⟨i,zs,se⟩ ⟨h1,h2,h3⟩
 have I7:=lE n (seeds.take i) (lQ n)
 rw[List.length_take]at I7
 refine bI (fun l6=>?_) fun l6=>?_
 have hm:=ha _ (nh (show i<seeds.length by omega))
 refine⟨⟨Zaa,aq (d:=[]) Zaa⟩,trivial,rfl,rfl,⟨by rw[h2];have:=I7.hl;omega,by rw[h3];have:=I7.sl;omega,Zaa,hm.2,fun y hy=>by rw[h2]at hy;obtain⟨a1,a2,a3,_⟩:=I7.hs y hy;rw[a2];exact⟨Zaa,Zab,Zab⟩⟩,Zaa,?_⟩
 refine⟨(i+1,aN n zs se (seeds.getD i []),bT se (seeds.getD i [])),?_,?_,rfl,rfl,rfl,rfl,rfl,rfl,Zaf,trivial⟩
 rw[foldl_succ (d:=[]) Zaa,h2,h3]
 exact⟨Zaa,by show _=aN ((seeds.take i).foldl ah (aG n)).na ((seeds.take i).foldl ah (aG n)).hs ((seeds.take i).foldl ah (aG n)).se _;rw[I7.na],rfl⟩
 exact Zai
 refine⟨rfl,rfl,?_⟩
 refine⟨rfl,?_⟩
 unfold Q nU
 rw[Zax Zaa]at h2 h3 I7
 rw[FA l3,h2,h3]
 refine Zbk (fun r:V=>V.tup [r,bV true]) ?_
 show V.agg _=zE (seeds.foldl ah (aG n))
 rw[zE,I7.na,I7.a7,I7.lk])
section
variable {P:Program}
def Ya(xs:List V):Cu P where
 X:={b:Bool // b=true->xs=[]}
 pre N o A:=match o.op,o.dst with
  | .binOp .eql T x (.const (.slice none 0 0)) _,some d=>match tD P T,Nat.blt d N with
    | some (.sl _),true=>match A.ev x with
      | .sl _ ys=>ys=xs
      | _=>False
    | _,_=>False
  | _,_=>False
 post b o A:=match o.dst with
  | some d=>A.put (some d) (.lit (.bool b.1))
  | none=>A
 ok:=by
  rintro N ⟨dst,op,ty,pos,after,D5⟩ A K-hp hK
  simp only at hp hK
  split at hp
  rename_i T x yt d
  split at hp
  rename_i e e1 e2
  split at hp
  rename_i f ys e3
  subst hp
  obtain⟨td,hu,hd⟩:=df e1
  obtain⟨et,hu⟩:∃ et,P.underlying T=some (.slice et):=by
   cases td <;> simp_all[dS]
  intro Pb Kb a w F Q hs
  obtain⟨_,hx⟩:=eE hs x
  rw[e3]at hx
  have hx:R w Pb (.sl f ys) [a.eval x] _:=hx
  obtain⟨_,B,c,hc,hle,_,TJ⟩:=hx
  simp only[List.cons.injEq,and_true]at hc
  have E':(execOp a.eval ⟨some d,.binOp .eql T x (.const (.slice none 0 0)) yt,ty,pos,after,D5⟩).run P w=.ok (.value (.bool B.isNone)) w:=by
   have VX:∀ q,(Op.equalIn (q+1) T (.slice B ys.length c) (.slice none 0 0)).run P w=.ok B.isNone w:=fun q=>by
    unfold Op.equalIn
    rw[Zay,run_underlying hu]
    cases B <;> rfl
   have hq:(binOp .eql T (.slice B ys.length c) (.slice none 0 0)).run P w=.ok (.bool B.isNone) w:=by
    show ((Op.equalIn (9999+1) T (.slice B ys.length c) (.slice none 0 0)) >>= fun b=>pure (Value.bool b)).run P w=_
    rw[Zay,VX];rfl
   have hy:a.eval (.const (.slice none 0 0))=.slice none 0 0:=rfl
   simp only[execOp,hc,hy,Zay,uX .eql T x (.const (.slice none 0 0)) (u:=.slice B ys.length c) (v:=.slice none 0 0) (fun _ h=>by cases h) (fun h=>by cases h),Zaq,hq,Zaz]
  obtain⟨F',B4⟩:=hs.rX (d:=some d) (v:=.lit (.bool B.isNone)) (bW e2) (dH rfl)
  unfold Oper.wp
  rw[E',Oper.upon_value]
  refine⟨_,Pb,Kb,F',hK ⟨B.isNone,fun h=>?_⟩,B4,fun _ h=>h,fun _ h=>h,fun _ h=>.inl h,A4.refl _ _⟩
  rcases TJ with h1 | ⟨_,_,_,_,rfl,_⟩
  exact h1
  cases h
  exact hp.elim
  exact hp.elim
  exact hp.elim
end
section
variable {α β:Type} {l:List α} {f g:α->β} {d:α} {i:Nat}
theorem NM:l.map g=(l.take 0).map f++(l.drop 0).map g:=rfl
theorem LF(h:i<l.length):(l.take i).map f++(l.drop i).map g=(l.take i).map f++g (l.getD i d)::(l.drop (i+1)).map g:=by
 rw[List.drop_eq_getElem_cons h,Zbc,Zak,Zar h];rfl
theorem Ni(h:i<l.length):(l.take i).map f++f (l.getD i d)::(l.drop (i+1)).map g=(l.take (i+1)).map f++(l.drop (i+1)).map g:=by
 rw[List.take_succ_eq_append_getElem h,Za9,List.append_assoc,Zak,Zar h];rfl
theorem NC(h:l.length<=i):(l.take i).map f++(l.drop i).map g=l.map f:=by
 rw[Zax h,Za6 h];simp
end
abbrev nG(p0:BL)(p1:Int)(p2:V)(p3:List BL)(p4:List l5):V:=.agg [sV p0,iV p1,p2,.sl false (p3.map sV),.sl false (p4.map bf)]
abbrev nC(p0:BL)(p1:Int)(p2:V)(p3:List BL)(p4:List l5):V:=.agg [sV p0,iV p1,p2,.sl false (p3.map sV),.sl false (p4.map bf)]
abbrev Lx(p0:BL)(p1:Int)(p2:Bool)(p3:List BL)(p4:List r7)(p5:Nat)(p6:Int)(p7:List w5):V:=.agg [sV p0,iV p1,bV p2,.agg [.sl false (p3.map sV),.sl false (p4.map aD),iN p5],iV p6,.ow 2 (p7.map ar)]
def Bx(l:List k9):o6 Tryz.prog:=.mk 92 [.sl false (l.map bw)] [] (l.length<=1000000) (.ow 8 (l.map bw)) [] (by
 intro hl
 refine aB (N:=8) (rs:=[.tmp 2]) Tryz.func92
  (.q 1<|.q 1<|.cu (Ya (l.map bw)) (fun z4=>.br (.q 1<|.h (.H9 2 8)<|.nil) (.bs<|.q 1<|.ap (fun g7 o7 c7=>.h (.n8 7 (.own 8 (l.map bw) g7 o7 c7))<|.q 1<|.nil))))
  (((l.map bw:List V)=l.map bw)/\∀ z4: {b:Bool // b=true->(l.map bw:List V)=[]},Br z4.1 (Q (.ow 8 ([].map bw)) (.ow 8 (l.map bw))) ((True)/\(True)/\(V.aK (l.map bw)=false)/\(aM 8 (l.map bw))/\((([]:List V).length+(l.map bw).length)*120<=140737488355328)/\∀ g7 o7 c7:Nat,((.own 8 (([]:List V)++(l.map bw)) g7 o7 c7:V)=.own 8 (l.map bw) g7 o7 c7)/\Q (.ow 8 (l.map bw)) (.ow 8 (l.map bw)))) ?_
 refine⟨rfl,?_⟩
 intro z4
 refine bI (fun l3=>?_) fun l3=>?_
 unfold Q
 rw[z4.2 l3];rfl
 refine⟨trivial,trivial,(cP (f:=bw) (fun _=>rfl) _),(dY (f:=bw) (fun _=>rfl) _),Zaj,?_⟩
 intro g7 o7 c7
 refine⟨Zbk (V.own 8 · g7 o7 c7) (List.nil_append _),?_⟩
 unfold Q
 rfl)
def Aw(l:List r7):o6 Tryz.prog:=.mk 93 [dQ l] [] (l.length<=1000000) (.ow 2 (l.map aD)) [] (by
 intro hl
 refine aB (N:=8) (rs:=[.tmp 2]) Tryz.func93
  (.q 1<|.q 1<|.cu (Ya (l.map aD)) (fun z4=>.br (.q 1<|.h (.H9 2 2)<|.nil) (.bs<|.q 1<|.ap (fun g7 o7 c7=>.h (.n8 7 (.own 2 (l.map aD) g7 o7 c7))<|.q 1<|.nil))))
  (((l.map aD:List V)=l.map aD)/\∀ z4: {b:Bool // b=true->(l.map aD:List V)=[]},Br z4.1 (Q (.ow 2 ([].map aD)) (.ow 2 (l.map aD))) ((True)/\(True)/\(V.aK (l.map aD)=false)/\(aM 2 (l.map aD))/\((([]:List V).length+(l.map aD).length)*24<=140737488355328)/\∀ g7 o7 c7:Nat,((.own 2 (([]:List V)++(l.map aD)) g7 o7 c7:V)=.own 2 (l.map aD) g7 o7 c7)/\Q (.ow 2 (l.map aD)) (.ow 2 (l.map aD)))) ?_
 refine⟨rfl,?_⟩
 intro z4
 refine bI (fun l3=>?_) fun l3=>?_
 unfold Q
 rw[z4.2 l3];rfl
 refine⟨trivial,trivial,(cP (f:=aD) (fun _=>rfl) _),(dY (f:=aD) (fun _=>rfl) _),Zaj,?_⟩
 intro g7 o7 c7
 refine⟨Zbk (V.own 2 · g7 o7 c7) (List.nil_append _),?_⟩
 unfold Q
 rfl)
def Bo(l:List w5):o6 Tryz.prog:=.mk 94 [gY l] [] (l.length<=1000000) (.ow 2 (l.map ar)) [] (by
 intro hl
 refine aB (N:=8) (rs:=[.tmp 2]) Tryz.func94
  (.q 1<|.q 1<|.cu (Ya (l.map ar)) (fun z4=>.br (.q 1<|.h (.H9 2 2)<|.nil) (.bs<|.q 1<|.ap (fun g7 o7 c7=>.h (.n8 7 (.own 2 (l.map ar) g7 o7 c7))<|.q 1<|.nil))))
  (((l.map ar:List V)=l.map ar)/\∀ z4: {b:Bool // b=true->(l.map ar:List V)=[]},Br z4.1 (Q (.ow 2 ([].map ar)) (.ow 2 (l.map ar))) ((True)/\(True)/\(V.aK (l.map ar)=false)/\(aM 2 (l.map ar))/\((([]:List V).length+(l.map ar).length)*24<=140737488355328)/\∀ g7 o7 c7:Nat,((.own 2 (([]:List V)++(l.map ar)) g7 o7 c7:V)=.own 2 (l.map ar) g7 o7 c7)/\Q (.ow 2 (l.map ar)) (.ow 2 (l.map ar)))) ?_
 refine⟨rfl,?_⟩
 intro z4
 refine bI (fun l3=>?_) fun l3=>?_
 unfold Q
 rw[z4.2 l3];rfl
 refine⟨trivial,trivial,(cP (f:=ar) (fun _=>rfl) _),(dY (f:=ar) (fun _=>rfl) _),Zaj,?_⟩
 intro g7 o7 c7
 refine⟨Zbk (V.own 2 · g7 o7 c7) (List.nil_append _),?_⟩
 unfold Q
 rfl)
def zQ(l:List l5):o6 Tryz.prog:=.mk 95 [cD l] [] (l.length<=1000000) (.ow 3 (l.map bf)) [] (by
 intro hl
 refine aB (N:=8) (rs:=[.tmp 2]) Tryz.func95
  (.q 1<|.q 1<|.cu (Ya (l.map bf)) (fun z4=>.br (.q 1<|.h (.H9 2 3)<|.nil) (.bs<|.q 1<|.ap (fun g7 o7 c7=>.h (.n8 7 (.own 3 (l.map bf) g7 o7 c7))<|.q 1<|.nil))))
  (((l.map bf:List V)=l.map bf)/\∀ z4: {b:Bool // b=true->(l.map bf:List V)=[]},Br z4.1 (Q (.ow 3 ([].map bf)) (.ow 3 (l.map bf))) ((True)/\(True)/\(V.aK (l.map bf)=false)/\(aM 3 (l.map bf))/\((([]:List V).length+(l.map bf).length)*32<=140737488355328)/\∀ g7 o7 c7:Nat,((.own 3 (([]:List V)++(l.map bf)) g7 o7 c7:V)=.own 3 (l.map bf) g7 o7 c7)/\Q (.ow 3 (l.map bf)) (.ow 3 (l.map bf)))) ?_
 refine⟨rfl,?_⟩
 intro z4
 refine bI (fun l3=>?_) fun l3=>?_
 unfold Q
 rw[z4.2 l3];rfl
 refine⟨trivial,trivial,(cP (f:=bf) (fun _=>rfl) _),(dY (f:=bf) (fun _=>rfl) _),Zaj,?_⟩
 intro g7 o7 c7
 refine⟨Zbk (V.own 3 · g7 o7 c7) (List.nil_append _),?_⟩
 unfold Q
 rfl)
abbrev rL(t:j6):V:=bP t.na t.a7 t.hs t.se t.lk
def xh(t:j6):o6 Tryz.prog:=.mk 65 [bF t.na t.a7 t.hs t.se t.lk] [] (r5 t) (rL t) [] (by
 intro ht
 have V8:=ht.h
 refine aB (N:=57) (rs:=[.cell 2 30]) Tryz.func65
  (.bx (fun g1=>.al fo (fun g2=>.r 2 [.b9]<|.c (Bx t.hs) []<|.q 1<|.st none<|.oR (.key 1) [2] (fun g o c=>.r 4 [.b9]<|.h (.C7 1 (nC t.na t.a7 (.own 8 ((t.hs.take 0).map aL++(t.hs.drop 0).map bw) g o c) t.se t.lk))<|.loop (Nat) (fun (i:Nat)=>⟨[(1,.ptr (.key 1) [] g1 0),(2,.ptr (.key 2) [] g2 0),(11,iN t.hs.length),(12,iN i)],[(1,(g1,nC t.na t.a7 (.own 8 ((t.hs.take i).map aL++(t.hs.drop i).map bw) g o c) t.se t.lk)),(2,(g2,.agg [sV [],iN 0,.sl true [],.sl true [],.sl true []]))]⟩) (fun (i:Nat)=>i<=t.hs.length) (fun (i:Nat)=>t.hs.length-i) (fun (i:Nat)=>.q 1<|.br (.q 2<|.h (.C7 1 (nG t.na t.a7 (.own 8 ((t.hs.take i).map aL++(dR ((t.hs.getD i c5).na) ((t.hs.getD i c5).re) ((t.hs.getD i c5).kn) ((t.hs.getD i c5).gr.na) ((t.hs.getD i c5).gr.ru) ((t.hs.getD i c5).gr.wa) ((t.hs.getD i c5).tr) ((t.hs.getD i c5).td):V)::(t.hs.drop (i+1)).map bw) g o c) t.se t.lk))<|.r 5 [.b9]<|.r 6 [ao ((t.hs.getD i c5).gr.na)]<|.c (jI ((t.hs.getD i c5).gr.na)) []<|.q 3<|.h (.fz 25)<|.h (.n8 25 (ao ((t.hs.getD i c5).gr.na)))<|.st (some (ao ((t.hs.getD i c5).gr.na)))<|.h (.C7 1 (nG t.na t.a7 (.own 8 ((t.hs.take i).map aL++(dR ((t.hs.getD i c5).na) ((t.hs.getD i c5).re) ((t.hs.getD i c5).kn) ((t.hs.getD i c5).gr.na) ((t.hs.getD i c5).gr.ru) ((t.hs.getD i c5).gr.wa) ((t.hs.getD i c5).tr) ((t.hs.getD i c5).td):V)::(t.hs.drop (i+1)).map bw) g o c) t.se t.lk))<|.r 6 [dQ ((t.hs.getD i c5).gr.ru)]<|.c (Aw ((t.hs.getD i c5).gr.ru)) []<|.q 3<|.h (.fz 35)<|.h (.n8 35 (dQ ((t.hs.getD i c5).gr.ru)))<|.st (some (dQ ((t.hs.getD i c5).gr.ru)))<|.h (.C7 1 (nG t.na t.a7 (.own 8 ((t.hs.take i).map aL++(dR ((t.hs.getD i c5).na) ((t.hs.getD i c5).re) ((t.hs.getD i c5).kn) ((t.hs.getD i c5).gr.na) ((t.hs.getD i c5).gr.ru) ((t.hs.getD i c5).gr.wa) ((t.hs.getD i c5).tr) ((t.hs.getD i c5).td):V)::(t.hs.drop (i+1)).map bw) g o c) t.se t.lk))<|.r 5 [gY ((t.hs.getD i c5).td)]<|.c (Bo ((t.hs.getD i c5).td)) []<|.q 2<|.st (some (gY ((t.hs.getD i c5).td)))<|.h (.C7 1 (nG t.na t.a7 (.own 8 ((t.hs.take i).map aL++(Lx ((t.hs.getD i c5).na) ((t.hs.getD i c5).re) ((t.hs.getD i c5).kn) ((t.hs.getD i c5).gr.na) ((t.hs.getD i c5).gr.ru) ((t.hs.getD i c5).gr.wa) ((t.hs.getD i c5).tr) ((t.hs.getD i c5).td):V)::(t.hs.drop (i+1)).map bw) g o c) t.se t.lk))<|.h (.C7 1 (nC t.na t.a7 (.own 8 ((t.hs.take (i+1)).map aL++(t.hs.drop (i+1)).map bw) g o c) t.se t.lk))<|.q 2<|.nil) (.h (.C7 1 (.agg [sV t.na,iV t.a7,.own 8 (t.hs.map aL) g o c,ao t.se,cD t.lk]))<|.r 2 [.b9]<|.c (jI t.se) []<|.q 1<|.st none<|.r 2 [.b9]<|.c (zQ t.lk) []<|.q 1<|.st none<|.mv<|.st none<|.nil))))))
  ((fun v1:V=>(∀ g1:Nat,∀ g2:Nat,Z g1 2/\(Bx t.hs).sm/\((t.hs.length<=1000000))/\Z g1 2/\∀ g o c:Nat,(fun v2:V=>Z g1 2/\((.agg [sV t.na,iV t.a7,.own 8 (t.hs.map bw) g o c,ao t.se,cD t.lk]:V)=nC t.na t.a7 v2 t.se t.lk)/\(∃ j7:Nat,(j7<=t.hs.length)/\E (.ptr (.key 1) [] g1 0)/\E (.ptr (.key 2) [] g2 0)/\Q (iN ((t.hs.map bw).length)) (iN t.hs.length)/\Q (iN 0) (iN j7)/\Qr g1 (nC t.na t.a7 v2 t.se t.lk) g1 (nC t.na t.a7 (.own 8 ((t.hs.take j7).map aL++(t.hs.drop j7).map bw) g o c) t.se t.lk)/\Er g2 v1/\True)/\∀ i:Nat,(i<=t.hs.length)->(fun v4:k9=>(fun v9:V=>(fun v3:V=>(fun v5:V=>(fun v6:V=>(fun v7:V=>(fun v8:V=>Br (r8 (i:Int) (t.hs.length:Int)) ((v7=nG t.na t.a7 v3 t.se t.lk)/\Z g1 2/\In (i:Int) (((t.hs.take i).map aL++v9::(t.hs.drop (i+1)).map bw).length)/\True/\(V.at g1 0 v5 [2,0+i,3,0]=some (g,(o+(0+i)*8+3+0),ao (v4.gr.na)))/\(jI (v4.gr.na)).sm/\(((v4.gr.na).length<=1000000))/\True/\((.sl false (V.C8 ((v4.gr.na).map sV)):V)=ao (v4.gr.na))/\(V.at g1 0 v5 [2,0+i,3,0]=some (g,(o+(0+i)*8+3+0),ao (v4.gr.na)))/\(V.set v5 [2,0+i,3,0] (ao (v4.gr.na))=nG t.na t.a7 v3 t.se t.lk)/\True/\(V.at g1 0 v5 [2,0+i,3,1]=some (g,(o+(0+i)*8+3+1),dQ (v4.gr.ru)))/\(Aw (v4.gr.ru)).sm/\(((v4.gr.ru).length<=1000000))/\True/\((.sl false (V.C8 ((v4.gr.ru).map aD)):V)=dQ (v4.gr.ru))/\(V.at g1 0 v5 [2,0+i,3,1]=some (g,(o+(0+i)*8+3+1),dQ (v4.gr.ru)))/\(V.set v5 [2,0+i,3,1] (dQ (v4.gr.ru))=nG t.na t.a7 v3 t.se t.lk)/\True/\(V.at g1 0 v5 [2,0+i,5]=some (g,(o+(0+i)*8+7),gY (v4.td)))/\(Bo (v4.td)).sm/\(((v4.td).length<=1000000))/\True/\(V.at g1 0 v5 [2,0+i,5]=some (g,(o+(0+i)*8+7),gY (v4.td)))/\(V.set v5 [2,0+i,5] (.ow 2 ((v4.td).map ar))=nG t.na t.a7 v6 t.se t.lk)/\((nG t.na t.a7 v6 t.se t.lk:V)=nC t.na t.a7 v8 t.se t.lk)/\m8 ((i:Int)+1)/\∃ c9:Nat,(c9<=t.hs.length)/\(t.hs.length-c9<t.hs.length-i)/\E (.ptr (.key 1) [] g1 0)/\E (.ptr (.key 2) [] g2 0)/\E (iN t.hs.length)/\Q (iN (i+1)) (iN c9)/\Qr g1 (nC t.na t.a7 v8 t.se t.lk) g1 (nC t.na t.a7 (.own 8 ((t.hs.take c9).map aL++(t.hs.drop c9).map bw) g o c) t.se t.lk)/\Er g2 v1/\True) ((v7=.agg [sV t.na,iV t.a7,.own 8 (t.hs.map aL) g o c,ao t.se,cD t.lk])/\Z g1 3/\(jI t.se).sm/\((t.se.length<=1000000))/\Z g1 3/\Z g1 4/\(zQ t.lk).sm/\((t.lk.length<=1000000))/\Z g1 4/\Z g1 0/\Z g2 0/\(g2=g2)/\Q (bP t.na t.a7 t.hs t.se t.lk) (rL t))) (.own 8 ((t.hs.take (i+1)).map aL++(t.hs.drop (i+1)).map bw) g o c)) (nC t.na t.a7 (.own 8 ((t.hs.take i).map aL++(t.hs.drop i).map bw) g o c) t.se t.lk:V)) (.own 8 ((t.hs.take i).map aL++(Lx (v4.na) (v4.re) (v4.kn) (v4.gr.na) (v4.gr.ru) (v4.gr.wa) (v4.tr) (v4.td):V)::(t.hs.drop (i+1)).map bw) g o c)) (nG t.na t.a7 v3 t.se t.lk)) (.own 8 ((t.hs.take i).map aL++v9::(t.hs.drop (i+1)).map bw) g o c)) (dR (v4.na) (v4.re) (v4.kn) (v4.gr.na) (v4.gr.ru) (v4.gr.wa) (v4.tr) (v4.td):V)) (t.hs.getD i c5)) (.own 8 ((t.hs.take 0).map aL++(t.hs.drop 0).map bw) g o c))) (.agg [sV [],iN 0,.sl true [],.sl true [],.sl true []])) ?_
 intro g1
 intro g2
 refine⟨rfl,rfl,by have:=ht.h;omega,rfl,?_⟩
 intro g o c
 refine⟨rfl,P2 (Zbk (V.own 8 · g o c) NM),?_⟩
 refine⟨⟨0,?_,rfl,rfl,Zaf,rfl,rfl,rfl,trivial⟩,?_⟩
 simp
 rintro i h1
 refine bI (fun l3=>?_) fun l3=>?_
 refine⟨P2 (Zbk (V.own 8 · g o c) (LF (d:=c5) Zaa)),rfl,by(try simp only[Zaw]at *);simp only[Zan,Zap,Zaw,List.length_take,List.length_drop];omega,?_⟩
 have PM:=ht.ha _ (aj (d:=c5) (show i<t.hs.length by omega))
 refine⟨trivial,(bj (f:=2) rfl).trans (aS (by rw[Zau];exact aU Zaa) rfl),rfl,by first | (have:=PM.g;omega) | (have:=ht.s;omega),trivial,Zbk (V.sl false) (aT (fun _=>rfl) _),(bj (f:=2) rfl).trans (aS (by rw[Zau];exact aU Zaa) rfl),eP (bn (by rw[Zau];exact aU Zaa) (by rw[Zau];exact dC Zaa)),trivial,(bj (f:=2) rfl).trans (aS (by rw[Zau];exact aU Zaa) rfl),rfl,by have:=PM.r;omega,trivial,Zbk (V.sl false) (aT (fun _=>rfl) _),(bj (f:=2) rfl).trans (aS (by rw[Zau];exact aU Zaa) rfl),eP (bn (by rw[Zau];exact aU Zaa) (by rw[Zau];exact dC Zaa)),trivial,(bj (f:=2) rfl).trans (aS (by rw[Zau];exact aU Zaa) rfl),rfl,by have:=PM.t;omega,trivial,(bj (f:=2) rfl).trans (aS (by rw[Zau];exact aU Zaa) rfl),eP (bn (by rw[Zau];exact aU Zaa) (by rw[Zau];exact dC Zaa)),P2 (Zbk (V.own 8 · g o c) (Ni (f:=aL) (d:=c5) Zaa)),Zaa,?_⟩
 refine⟨i+1,?_,?_,rfl,rfl,rfl,rfl,rfl,rfl,trivial⟩
 omega
 exact Zai
 refine⟨P2 (Zbk (V.own 8 · g o c) (NC Zaa)),rfl,rfl,by first | (have:=PM.g;omega) | (have:=ht.s;omega),rfl,rfl,rfl,by have:=ht.l;omega,rfl,rfl,rfl,?_⟩
 refine⟨rfl,?_⟩
 unfold Q rL
 rfl)
def aH(y:k9):Bool:=decide (y.td≠[])
theorem qt{y:k9}:w3 (((y.td.map ar).length:Nat):Int) 0=aH y:=by
 unfold aH w3
 cases h:y.td <;> simp
def j8(t:j6):Nat:=((jo t).map (·.1)).getD 0
def n6(t:j6):Int:=((jo t).map (·.2)).getD 0
theorem lJ{t:j6}{i:Nat}(h:i<t.hs.length):J8 t (i+1)=mq t.a7 (J8 t i) (i,t.hs.getD i c5):=by
 unfold J8
 rw[List.take_succ_eq_append_getElem (by simpa using h),Za9,List.foldl_append]
 simp[Zak,Zar h]
section
variable {n:BL} {a7 b q:Int} {zs:List k9} {se:List BL} {ls:List l5} {i:Nat}
theorem Es(h:i<zs.length)(h2:b=(J8 ⟨n,a7,zs,se,ls⟩ i).1)(h3:q=(J8 ⟨n,a7,zs,se,ls⟩ i).2)(c:aH (zs.getD i c5)=true/\(b<0\/max (zs.getD i c5).re a7<q)):J8 ⟨n,a7,zs,se,ls⟩ (i+1)=((i:Int),max (zs.getD i c5).re a7):=by
 rw[lJ (t:=⟨n,a7,zs,se,ls⟩) h]
 unfold mq
 rw[<- h2,<- h3,if_pos ⟨of_decide_eq_true c.1,c.2⟩]
theorem Dx(h:i<zs.length)(h2:b=(J8 ⟨n,a7,zs,se,ls⟩ i).1)(h3:q=(J8 ⟨n,a7,zs,se,ls⟩ i).2)(c:aH (zs.getD i c5)=true->(0<=b/\q<=max (zs.getD i c5).re a7)):J8 ⟨n,a7,zs,se,ls⟩ (i+1)=J8 ⟨n,a7,zs,se,ls⟩ i:=by
 rw[lJ (t:=⟨n,a7,zs,se,ls⟩) h]
 unfold mq
 rw[<- h2,<- h3,if_neg (fun d=>?_)]
 have:=c (decide_eq_true d.1)
 have:=d.2
 simp only at this
 omega
theorem Jw{t:j6}(h:(J8 t t.hs.length).1<0\/5000<(J8 t t.hs.length).2):jo t=none:=if_pos h
theorem Ks{t:j6}(h:0<=(J8 t t.hs.length).1/\(J8 t t.hs.length).2<=5000):jo t=some ((J8 t t.hs.length).1.toNat,(J8 t t.hs.length).2):=if_neg Zaa
end
def ET(k:Int):o6 Tryz.prog:=.mk 148 [iV k] [] True (iV (cY k)) [] (by
 intro _
 refine aB (N:=10) (rs:=[.tmp 2]) Tryz.func148
  (.q 1<|.q 1<|.q 2<|.br (.q 1<|.nil) (.q 2<|.br (.q 1<|.nil) (.q 2<|.br (.q 1<|.nil) (.q 1<|.nil))))
  (Br (r6 k 1) (Q (iN 2) (iV (cY k))) (Br (r6 k 2) (Q (iN 4) (iV (cY k))) (Br (r6 k 3) (Q (iN 8) (iV (cY k))) (Q (iN 0) (iV (cY k)))))) ?_
 refine bI (fun l3=>?_) fun l3=>?_
 unfold Q
 rw[cY,if_pos l3];rfl
 refine bI (fun l6=>?_) fun l6=>?_
 unfold Q
 rw[cY,if_neg l3,if_pos l6];rfl
 refine bI (fun n0=>?_) fun n0=>?_
 unfold Q
 rw[cY,if_neg l3,if_neg l6,if_pos n0];rfl
 unfold Q
 rw[cY,if_neg l3,if_neg l6,if_neg n0];rfl)
abbrev ya(n:BL)(a7:Int)(zs:List k9)(se:List BL)(ls:List l5)(gt:Nat)(g:Nat)(o:Nat)(c:Nat)(gb:Nat)(ix:Nat):V:=.tup [iV (max (zs.getD ix c5).re a7),bV (aH (zs.getD ix c5))]
def JP(n:BL)(a7:Int)(zs:List k9)(se:List BL)(ls:List l5)(gt:Nat)(g:Nat)(o:Nat)(c:Nat)(gb:Nat)(ix:Nat):o6 Tryz.prog:=.mk 120 [.ptr (.key 1000) [2,ix] g (o+ix*8),.ptr (.key 1001) [] gb 0] [(1001,(gb,.ptr (.key 1000) [] gt 0)),(1000,(gt,ck n a7 zs g o c se ls))] (ix<zs.length) (ya n a7 zs se ls gt g o c gb ix) [(1001,(gb,.ptr (.key 1000) [] gt 0)),(1000,(gt,ck n a7 zs g o c se ls))] (by
 intro hi
 refine aB (N:=20) (rs:=[.tmp 3,.tmp 4]) Tryz.func120
  ((fun y1:k9=>(.q 2<|.h (.C7 1000 (dA n a7 zs ix (y1.na) (y1.re) (y1.kn) (y1.gr.na) (y1.gr.ru) (y1.gr.wa) (y1.tr) (y1.td) g o c se ls))<|.Sa (.key 1000) [2,ix,5] g (o+(ix)*8+7) 2 ((y1.td).map ar) (fun gA P4 cA=>.h (.C7 1000 (bQ n a7 zs ix (y1.na) (y1.re) (y1.kn) (y1.gr.na) (y1.gr.ru) (y1.gr.wa) (y1.tr) (y1.td) gA P4 cA g o c se ls))<|.dx 16 [0,1,2,3,4,5,6,7,8,9,10,11,12,13,14,15] [(3,⟨false,[],some [1000],[8],[]⟩),(4,⟨false,[],some [1001],[9],[]⟩),(7,⟨false,[],some [1000],[12],[]⟩),(12,⟨false,[],some [1000],[17],[]⟩)] []<|.q 1<|.q 1<|.q 1<|.r 1 [iV (y1.re)]<|.r 1 [.b9]<|.q 1<|.q 1<|.r 1 [.b9]<|.mm<|.q 1<|.q 1<|.q 1<|.r 1 [.own 2 ((y1.td).map ar) gA P4 cA]<|.q 1<|.q 1<|.q 1<|.q 1<|.h (.Rz (.key 1000) [2,ix,5] g (o+(ix)*8+7) (.own 2 ((y1.td).map ar) gA P4 cA) (.ow 2 ((y1.td).map ar)))<|.h (.C7 1000 (dA n a7 zs ix (y1.na) (y1.re) (y1.kn) (y1.gr.na) (y1.gr.ru) (y1.gr.wa) (y1.tr) (y1.td) g o c se ls))<|.h (.C7 1000 (ck n a7 zs g o c se ls))<|.nil):Sc Tryz.prog)) (zs.getD ix c5))
  ((fun v1:k9=>(fun v2:V=>(((ck n a7 zs g o c se ls:V)=dA n a7 zs ix (v1.na) (v1.re) (v1.kn) (v1.gr.na) (v1.gr.ru) (v1.gr.wa) (v1.tr) (v1.td) g o c se ls)/\(V.at gt 0 v2 [2,ix,5]=some (g,o+(ix)*8+7,.ow 2 ((v1.td).map ar)))/\∀ gA P4 cA:Nat,(fun v3:V=>(V.set v2 [2,ix,5] (.own 2 ((v1.td).map ar) gA P4 cA)=bQ n a7 zs ix (v1.na) (v1.re) (v1.kn) (v1.gr.na) (v1.gr.ru) (v1.gr.wa) (v1.tr) (v1.td) gA P4 cA g o c se ls)/\True/\(V.at gt 0 v3 [2,ix,1]=some (g,(o+ix*8+1),iV (v1.re)))/\Z gb 0/\True/\Z gt 1/\(IntKind.i64=IntKind.i64)/\True/\(V.at gt 0 v3 [2,ix,5]=some (g,(o+ix*8+7),.own 2 ((v1.td).map ar) gA P4 cA))/\(V.at gt 0 v3 [2,ix,5]=some (g,o+(ix)*8+7,.own 2 ((v1.td).map ar) gA P4 cA))/\(V.set v3 [2,ix,5] (.ow 2 ((v1.td).map ar))=dA n a7 zs ix (v1.na) (v1.re) (v1.kn) (v1.gr.na) (v1.gr.ru) (v1.gr.wa) (v1.tr) (v1.td) g o c se ls)/\((dA n a7 zs ix (v1.na) (v1.re) (v1.kn) (v1.gr.na) (v1.gr.ru) (v1.gr.wa) (v1.tr) (v1.td) g o c se ls:V)=ck n a7 zs g o c se ls)/\Q (.tup [iV (max (v1.re) a7),bV (w3 ((((v1.td).map ar).length:Nat):Int) 0)]) (ya n a7 zs se ls gt g o c gb ix)/\Er gb (.ptr (.key 1000) [] gt 0)/\Er gt (ck n a7 zs g o c se ls)) (bQ n a7 zs ix (v1.na) (v1.re) (v1.kn) (v1.gr.na) (v1.gr.ru) (v1.gr.wa) (v1.tr) (v1.td) gA P4 cA g o c se ls))) (dA n a7 zs ix (v1.na) (v1.re) (v1.kn) (v1.gr.na) (v1.gr.ru) (v1.gr.wa) (v1.tr) (v1.td) g o c se ls)) (zs.getD ix c5)) ?_
 refine⟨P2 (Zbk (V.own 8 · g o c) (tC (d:=c5) Zaa)),(bj (f:=2) rfl).trans (aS (aU Zaa) rfl),?_⟩
 intro gA P4 cA
 refine⟨eP (bn (aU Zaa) (dC Zaa)),trivial,(bj (f:=2) rfl).trans (aS (aU Zaa) rfl),rfl,trivial,rfl,rfl,trivial,(bj (f:=2) rfl).trans (aS (aU Zaa) rfl),(bj (f:=2) rfl).trans (aS (aU Zaa) rfl),eP (bn (aU Zaa) (dC Zaa)),P2 (Zbk (V.own 8 · g o c) (tC (f:=aL) (d:=c5) Zaa).symm),?_⟩
 refine⟨?_,rfl,rfl⟩
 unfold Q ya
 rw[qt])
abbrev pE(n:BL)(a7:Int)(zs:List k9)(se:List BL)(ls:List l5)(gt:Nat)(g:Nat)(o:Nat)(c:Nat)(gb:Nat):V:=.tup [iV (max (J8 (⟨n,a7,zs,se,ls⟩:j6) zs.length).1 0),iV ((J8 (⟨n,a7,zs,se,ls⟩:j6) zs.length).2),bV (A8 (J8 (⟨n,a7,zs,se,ls⟩:j6) zs.length).1 0)]
abbrev fE(n:BL)(a7:Int)(zs:List k9)(se:List BL)(ls:List l5)(gt:Nat)(g:Nat)(o:Nat)(c:Nat)(gb:Nat)(i:Nat)(b:Int)(q:Int):Prop:=i<=zs.length/\b=(J8 (⟨n,a7,zs,se,ls⟩:j6) i).1/\q=(J8 (⟨n,a7,zs,se,ls⟩:j6) i).2
def sW(n:BL)(a7:Int)(zs:List k9)(se:List BL)(ls:List l5)(gt:Nat)(g:Nat)(o:Nat)(c:Nat)(gb:Nat):o6 Tryz.prog:=.mk 119 [.hd (.key 1000) [2] 8 g o 0 ((zs.map aL).length) c,.lit (.func (.func 120) #[] #[.pointer (some ⟨gb,0,none⟩)])] [(1001,(gb,.ptr (.key 1000) [] gt 0)),(1000,(gt,ck n a7 zs g o c se ls))] (zs.length<=1000) (pE n a7 zs se ls gt g o c gb) [(1001,(gb,.ptr (.key 1000) [] gt 0)),(1000,(gt,ck n a7 zs g o c se ls))] (by
 intro hl
 refine aB (N:=43) (rs:=[.tmp 4,.tmp 5,.tmp 6]) Tryz.func119
  (.q 3<|.q 2<|.q 3<|.loop (Nat×Int×Int) (fun (i,b,q)=>⟨[(0,.hd (.key 1000) [2] 8 g o 0 ((zs.map aL).length) c),(1,.lit (.func (.func 120) #[] #[.pointer (some ⟨gb,0,none⟩)])),(7,iV b),(8,iV q),(13,iN zs.length),(14,iN i)],[(1001,(gb,.ptr (.key 1000) [] gt 0)),(1000,(gt,ck n a7 zs g o c se ls))]⟩) (fun (i,b,q)=>fE n a7 zs se ls gt g o c gb i b q) (fun (i,b,q)=>zs.length-i) (fun (i,b,q)=>.q 1<|.br (.q 2<|.q 4<|.c (JP n a7 zs se ls gt g o c gb i) [(1000,1000),(1001,1001)]<|.q 5<|.q 10<|.br (.q 4<|.q 2<|.nil) (.q 2<|.nil)) (.q 1<|.mm<|.q 6<|.nil)))
  ((fun v1:V=>(fun v2:V=>((∃ x:Nat×Int×Int,match x with | (j7,PO,B9)=>(fE n a7 zs se ls gt g o c gb j7 PO B9)/\E (.hd (.key 1000) [2] 8 g o 0 ((zs.map aL).length) c)/\E v1/\Q (iV (-1)) (iV PO)/\Q (iN 0) (iV B9)/\Q (iN ((zs.map aL).length)) (iN zs.length)/\Q (iN 0) (iN j7)/\Er gb v2/\Er gt (ck n a7 zs g o c se ls)/\True)/\∀ x:Nat×Int×Int,match x with | (i,b,q)=>(fE n a7 zs se ls gt g o c gb i b q)->Br (r8 (i:Int) (zs.length:Int)) (In (i:Int) ((zs.map aL).length)/\(([.ptr (.key 1000) [2,i] g (o+(0+i)*8),.ptr (.key 1001) [] gb 0]:List V)=[.ptr (.key 1000) [2,i] g (o+i*8),.ptr (.key 1001) [] gb 0])/\Er gb v2/\Er gt (ck n a7 zs g o c se ls)/\((i<zs.length))/\Gd ((aH (zs.getD i c5))==true) (Pk (r8 b 0) true (((aH (zs.getD i c5))==true)&&((r8 b 0)==false)))/\Pk (aH (zs.getD i c5)) ((aH (zs.getD i c5))==true) true/\Br ((aH (zs.getD i c5))&&((r8 b 0)||(r8 (max (zs.getD i c5).re a7) q))) (m8 ((i:Int)+1)/\∃ x:Nat×Int×Int,match x with | (c9,D9,o9)=>(fE n a7 zs se ls gt g o c gb c9 D9 o9)/\(zs.length-c9<zs.length-i)/\E (.hd (.key 1000) [2] 8 g o 0 ((zs.map aL).length) c)/\E v1/\Q (iN i) (iV D9)/\Q (iV (max (zs.getD i c5).re a7)) (iV o9)/\E (iN zs.length)/\Q (iN (i+1)) (iN c9)/\Er gb v2/\Er gt (ck n a7 zs g o c se ls)/\True) (m8 ((i:Int)+1)/\∃ x:Nat×Int×Int,match x with | (c9,D9,o9)=>(fE n a7 zs se ls gt g o c gb c9 D9 o9)/\(zs.length-c9<zs.length-i)/\E (.hd (.key 1000) [2] 8 g o 0 ((zs.map aL).length) c)/\E v1/\Q (iV b) (iV D9)/\Q (iV q) (iV o9)/\E (iN zs.length)/\Q (iN (i+1)) (iN c9)/\Er gb v2/\Er gt (ck n a7 zs g o c se ls)/\True)) ((IntKind.i64=IntKind.i64)/\Q (.tup [iV (max b 0),iV q,bV (A8 b 0)]) (pE n a7 zs se ls gt g o c gb)/\Er gb v2/\Er gt (ck n a7 zs g o c se ls)))) (.ptr (.key 1000) [] gt 0)) (.lit (.func (.func 120) #[] #[.pointer (some ⟨gb,0,none⟩)]))) ?_
 refine⟨⟨(0, -1,0),?_,rfl,rfl,rfl,Zaf,Zaf,rfl,rfl,rfl,trivial⟩,?_⟩
 unfold fE
 exact⟨Zab,rfl,rfl⟩
 rintro⟨i,b,q⟩ ⟨h1,h2,h3⟩
 refine bI (fun l3=>?_) fun l3=>?_
 refine⟨Zah,by first | rfl | (exfalso;omega) | (simp only[Zau]) | (simp;omega),rfl,rfl,Zaa,fun hG=>⟨fun _=>rfl,fun h=>by rw[h];exact(Zam _ _).mpr ⟨hG,rfl⟩⟩,⟨fun h=>by rw[h] <;> rfl,fun _=>rfl⟩,?_⟩
 refine bI (fun l6=>?_) fun l6=>?_
 refine⟨Zaa,?_⟩
 refine⟨(i+1,(i:Int),max (zs.getD i c5).re a7),?_,?_,rfl,rfl,Zaf,rfl,rfl,rfl,rfl,rfl,trivial⟩
 unfold fE
 first | exact⟨Zaa,by rw[Es Zaa h2 h3 l6],by rw[Es Zaa h2 h3 l6]⟩ | exact⟨Zaa,by rw[Dx Zaa h2 h3 l6];exact h2,by rw[Dx Zaa h2 h3 l6];exact h3⟩
 exact Zai
 refine⟨Zaa,?_⟩
 refine⟨(i+1,b,q),?_,?_,rfl,rfl,rfl,rfl,rfl,rfl,rfl,rfl,trivial⟩
 unfold fE
 first | exact⟨Zaa,by rw[Es Zaa h2 h3 l6],by rw[Es Zaa h2 h3 l6]⟩ | exact⟨Zaa,by rw[Dx Zaa h2 h3 l6];exact h2,by rw[Dx Zaa h2 h3 l6];exact h3⟩
 exact Zai
 refine⟨rfl,?_⟩
 refine⟨?_,rfl,rfl⟩
 unfold Q pE
 obtain rfl:i=zs.length:=Zaa
 rw[h2,h3])
abbrev tx(n:BL)(a7:Int)(zs:List k9)(se:List BL)(ls:List l5)(gt:Nat):V:=.tup [iN (j8 (⟨n,a7,zs,se,ls⟩:j6)),iV (n6 (⟨n,a7,zs,se,ls⟩:j6)),bV ((jo (⟨n,a7,zs,se,ls⟩:j6)).isSome)]
def xq(n:BL)(a7:Int)(zs:List k9)(se:List BL)(ls:List l5)(gt:Nat):o6 Tryz.prog:=.mk 98 [.ptr (.key 1000) [] gt 0] [(1000,(gt,bP n a7 zs se ls))] (zs.length<=1000) (tx n a7 zs se ls gt) [(1000,(gt,bP n a7 zs se ls))] (by
 intro hl
 refine aB (N:=26) (rs:=[.tmp 2,.tmp 3,.tmp 4]) Tryz.func98
  (.oR (.key 1000) [2] (fun g o c=>.bx (fun g1=>.q 3<|.r 4 [.b9,.b9]<|.cu UH (fun _=>.c (sW n a7 zs se ls gt g o c g1) [(1001,1),(1000,1000)]<|.q 7<|.q 6<|.br (.q 3<|.nil) (.q 5<|.nil)))))
  ((fun v1:Bool=>(∀ g o c:Nat,∀ g1:Nat,Z g1 0/\True/\Z gt 2/\((Value.func (.func 120) #[] #[.pointer (some ⟨g1,0,none⟩)]).oneCell'=true)/\∀ _:Unit,(sW n a7 zs se ls gt g o c g1).sm/\Er g1 (.ptr (.key 1000) [] gt 0)/\Er gt (ck n a7 zs g o c se ls)/\((zs.length<=1000))/\Pk v1 true (v1==false)/\Br (v1||(w3 ((J8 (⟨n,a7,zs,se,ls⟩:j6) zs.length).2) 5000)) (Q (.tup [iN 0,iN 0,bV false]) (tx n a7 zs se ls gt)/\Er gt (bP n a7 zs se ls)) (Q (.tup [iV (max (J8 (⟨n,a7,zs,se,ls⟩:j6) zs.length).1 0),iV ((J8 (⟨n,a7,zs,se,ls⟩:j6) zs.length).2),bV true]) (tx n a7 zs se ls gt)/\Er gt (bP n a7 zs se ls)))) (!(A8 (J8 (⟨n,a7,zs,se,ls⟩:j6) zs.length).1 0))) ?_
 intro g o c
 intro g1
 refine⟨rfl,trivial,rfl,rfl,?_⟩
 intro _
 refine⟨rfl,rfl,rfl,hl,⟨fun _=>rfl,fun h=>by rw[h] <;> rfl⟩,?_⟩
 refine bI (fun l3=>?_) fun l3=>?_
 refine⟨?_,rfl⟩
 unfold Q tx
 rw[j8,n6,Jw (t:=⟨n,a7,zs,se,ls⟩) l3];rfl
 refine⟨?_,rfl⟩
 unfold Q tx
 rw[j8,n6,Ks (t:=⟨n,a7,zs,se,ls⟩) l3]
 rw[show max (J8 ⟨n,a7,zs,se,ls⟩ zs.length).1 0=((J8 ⟨n,a7,zs,se,ls⟩ zs.length).1.toNat:Int) from Zaa];rfl)
end Go.Proofs.YtelggdgnblpjdaaGreatDoor