/-
  Words and walks for the laws of pedlar's seat: what each function of the program computes, and that it does; no conditions beyond those that each statement names.
-/
import Derived.Test.YtbjbamjffkanbaaGreatDoorGC
import Derived.Test.YtbjbamjffkanbaaGreatDoorGB
set_option linter.unusedVariables false
set_option linter.unusedSimpArgs false
set_option linter.unnecessarySimpa false
set_option linter.unusedSectionVars false
namespace Go.Proofs.YtbjbamjffkanbaaGreatDoor
open Go Go.RowKit
set_option maxRecDepth 20000
theorem Ek{s:BL}{e nx:List Bool}{c:UInt8}{m:Nat}(hc:(c.toNat:Int)=42)(hm:m<e.length)(hq:∀ k,k<m->nx.getD k false=Ot c s e k):(e.getD m false||s9 (m:Int) 0&&nx.getD ((m:Int)-1).toNat false)=Ot c s e m:=by
 have hc:c=42:=by rw[<- UInt8.toNat_inj];show c.toNat=42;omega
 subst hc
 rw[GM hm]
 congr 1
 unfold s9
 by_cases h:0<m
 rw[show ((m:Int)-1).toNat=m-1 from Z9,hq (m-1) Z9,decide_eq_true Z9,decide_eq_true h]
 rw[decide_eq_false Z9,decide_eq_false h];rfl
theorem CD{s:BL}{e:List Bool}{c:UInt8}{m:Nat}(hc: ¬ (c.toNat:Int)=42):(s9 (m:Int) 0&&e.getD ((m:Int)-1).toNat false&&o9 (((s.getD ((m:Int)-1).toNat 0).toNat:Nat):Int) ((c.toNat:Nat):Int))=Ot c s e m:=by
 have hc: ¬ c=42:=by rintro rfl;exact hc rfl
 unfold Ot s9 o9
 rw[if_neg hc]
 by_cases h:0<m
 rw[show ((m:Int)-1).toNat=m-1 from Z9,decide_eq_true Z9,decide_eq_true h,Bool.and_assoc]
 congr 2
 rw[Za,Zp,Zp,<- UInt8.toNat_inj]
 omega
 rw[decide_eq_false Z9,decide_eq_false h];rfl
def xC(l:List Bool)(b:Bool):o6 Tryz.prog:=.mk 172 [.sl false (l.map bV),bV b] [] (l.length<=1000000) (iV (dm l b)) [] (by
 intro hl
 refine av (N:=19) (rs:=[.tmp 4]) Tryz.func172
  (.q 1<|.q 3<|.loop (Nat) (fun (i:Nat)=>⟨[(0,.sl false (l.map bV)),(1,bV b),(6,.sl false (l.map bV)),(7,iN l.length),(8,iN i)],[]⟩) (fun (i:Nat)=>i<=l.length/\∀ j,j<i->l.getD j false≠b) (fun (i:Nat)=>l.length-i) (fun (i:Nat)=>.q 1<|.br (.q 2<|.r 6 [bV (l.getD i false)]<|.br (.q 2<|.nil) (.q 2<|.nil)) (.q 1<|.nil)))
  ((fun v1:V=>((∃ j6:Nat,(j6<=l.length/\∀ j,j<j6->l.getD j false≠b)/\E v1/\E (bV b)/\E v1/\Q (iN ((l.map bV).length)) (iN l.length)/\Q (iN 0) (iN j6)/\True)/\∀ i:Nat,(i<=l.length/\∀ j,j<i->l.getD j false≠b)->Br (r9 (i:Int) (l.length:Int)) (Ex (i:Int) (l.map bV) (bV (l.getD i false))/\True/\Br (b==(l.getD i false)) (Q (iN i) (iV (dm l b))) (m8 ((i:Int)+1)/\∃ b7:Nat,(b7<=l.length/\∀ j,j<b7->l.getD j false≠b)/\(l.length-b7<l.length-i)/\E v1/\E (bV b)/\E v1/\E (iN l.length)/\Q (iN (i+1)) (iN b7)/\True)) (Q (iV (-1)) (iV (dm l b))))) (.sl false (l.map bV))) ?_
 refine⟨⟨0,?_,rfl,rfl,rfl,Z4,rfl,trivial⟩,?_⟩
 simp
 rintro i ⟨h1,h2⟩
 refine bI (fun j7=>?_) fun j7=>?_
 refine⟨⟨Z9,aj (d:=false) Z9⟩,trivial,?_⟩
 refine bI (fun l6=>?_) fun l6=>?_
 unfold Q
 rw[mu (i:=i) Z9 (by grind) h2]
 refine⟨Z9,?_⟩
 refine⟨i+1,?_,?_,rfl,rfl,rfl,rfl,rfl,trivial⟩
 exact⟨Z9,bS h2 (by grind)⟩
 exact Z1
 unfold Q
 rw[lH (fun j hj=>h2 j Z9)])
def Dp(l:List Bool)(b:Bool):o6 Tryz.prog:=.mk 139 [.sl false (l.map bV),bV b] [] (l.length<=1000000) (bV (l.contains b)) [] (by
 intro hl
 refine av (N:=9) (rs:=[.tmp 4]) Tryz.func139
  (.q 1<|.q 2<|.c (xC l b) []<|.q 2<|.nil)
  ((xC l b).sm/\((l.length<=1000000))/\Q (bV (z6 (dm l b) 0)) (bV (l.contains b))) ?_
 refine⟨rfl,Z5,?_⟩
 unfold Q
 refine Zq bV ?_
 rw[<- mr])
def uu(p:BL)(s:BL):o6 Tryz.prog:=.mk 103 [sV p,sV s] [] ((p.length<=1000000)/\(s.length<=1000000)) (bV (cD p s)) [] (by
 rintro⟨hp,hs⟩
 refine av (N:=99) (rs:=[.tmp 4]) Tryz.func103
  (.q 1<|.q 1<|.c (jI p) []<|.q 6<|.br (.q 1<|.nil) (.q 1<|.c (sI p ([36]:BL)) []<|.q 5<|.h (.o4 22 (sV (bH p)))<|.h (.o4 5 (sV (bH p)))<|.h (.o4 23 (bV (fe p)))<|.h (.o4 6 (bV (fe p)))<|.q 3<|.cu (X2 XS (s.length+1)) (fun Qq=>.h (.o4 27 (.own 1 ((List.replicate (s.length+1) false).map bV) Qq 0 (s.length+1)))<|.q 1<|.q 2<|.st (some (bV ((List.replicate (s.length+1) false).getD 0 false)))<|.h (.o4 7 (.own 1 (((List.replicate (s.length+1) false).set 0 true).map bV) Qq 0 (s.length+1)))<|.q 1<|.loop (Nat×(List Bool)×Nat×Nat×Nat) (fun (i,e,g,f,k)=>⟨[(1,sV s),(5,sV (bH p)),(6,bV (fe p)),(7,.own 1 (e.map bV) g f k),(8,iN i)],[]⟩) (fun (i,e,g,f,k)=>i<=(bH p).length/\e=jm s ((bH p).take i)) (fun (i,e,g,f,k)=>(bH p).length-i) (fun (i,e,g,f,k)=>.q 4<|.br (.q 3<|.cu (X2 XS (s.length+1)) (fun NB=>.h (.o4 39 (.own 1 ((List.replicate (s.length+1) false).map bV) NB 0 (s.length+1)))<|.q 1<|.q 3<|.loop (Nat×(List Bool)×Nat×Nat×Nat) (fun (j,nx,u,v,z)=>⟨[(1,sV s),(5,sV (bH p)),(6,bV (fe p)),(7,.own 1 (e.map bV) g f k),(8,iN i),(9,.own 1 (nx.map bV) u v z),(40,.hd (.slot 9) [] 1 u v 0 ((nx.map bV).length) z),(41,iN (s.length+1)),(42,iN j)],[]⟩) (fun (j,nx,u,v,z)=>j<=s.length+1/\nx.length=s.length+1/\∀ m,m<j->nx.getD m false=Ot ((bH p).getD i 0) s e m) (fun (j,nx,u,v,z)=>s.length+1-j) (fun (j,nx,u,v,z)=>.q 1<|.br (.q 2<|.q 4<|.br (.r 18 [bV (e.getD j false),bV (nx.getD (Int.toNat ((j:Int)-1)) false)]<|.st (some (bV (nx.getD j false)))<|.h (.o4 9 (.own 1 ((nx.set j ((e.getD j false)||((s9 (j:Int) 0)&&(nx.getD (Int.toNat ((j:Int)-1)) false)))).map bV) u v z))<|.q 2<|.nil) (.dx 21 [0,1,2,3,4,5,6,7,8,9,10,11,12,13,14,15,16,17,18,19,20] [(9,⟨false,[7],some [],[76],[]⟩)] []<|.q 1<|.q 1<|.q 1<|.q 1<|.q 1<|.q 1<|.q 1<|.q 1<|.q 1<|.r 1 [bV (e.getD (Int.toNat ((j:Int)-1)) false)]<|.q 1<|.q 1<|.q 1<|.q 1<|.q 1<|.q 1<|.q 1<|.q 1<|.q 1<|.q 1<|.q 1<|.q 1<|.st (some (bV (nx.getD j false)))<|.h (.o4 9 (.own 1 ((nx.set j (((s9 (j:Int) 0)&&(e.getD (Int.toNat ((j:Int)-1)) false))&&(o9 (((s.getD (Int.toNat ((j:Int)-1)) 0).toNat:Nat):Int) ((((bH p).getD i 0).toNat:Nat):Int)))).map bV) u v z))<|.q 2<|.nil)) (.q 1<|.h (.gZ 90)<|.q 1<|.q 3<|.nil)))) (.q 1<|.br (.r 6 [bV (e.getD s.length false)]<|.nil) (.q 1<|.cl (Dp e true)<|.q 1<|.nil))))))
  ((fun v1:V=>((jI p).sm/\((p.length<=4611686018427387904))/\Pk (!(dJ p)) true ((!(dJ p))==false)/\Br ((!(dJ p))||(s9 (s.length:Int) 60)) (Q (bV false) (bV (cD p s))) ((sI p ([36]:BL)).sm/\((p.length<=4611686018427387904)/\(([36]:BL).length<=4611686018427387904))/\((sV (cw p ([36]:BL)):V)=sV (bH p))/\((sV (cw p ([36]:BL)):V)=sV (bH p))/\((bV (gK p ([36]:BL)):V)=bV (fe p))/\((bV (gK p ([36]:BL)):V)=bV (fe p))/\m8 ((s.length:Int)+1)/\((((4:Nat)=4)/\((1:Nat)=1)/\(∃ x,(bV false:V).lits=some [x])/\(bV false:V).n=1)/\(v1=.lit (.int .i64 ((s.length+1:Nat):Int)))/\(v1=.lit (.int .i64 ((s.length+1:Nat):Int)))/\1<=(s.length+1:Nat)/\(s.length+1:Nat)*1<=140737488355328/\(s.length+1:Nat)<=9223372036854775807)/\∀ Qq:Nat,((.own 1 (List.replicate (s.length+1) (bV false)) Qq 0 (s.length+1):V)=.own 1 ((List.replicate (s.length+1) false).map bV) Qq 0 (s.length+1))/\In 0 (((List.replicate (s.length+1) false).map bV).length)/\(V.at Qq 0 (.own 1 ((List.replicate (s.length+1) false).map bV) Qq 0 (s.length+1)) [0+0]=some (Qq,(0+(0+0)*1),bV ((List.replicate (s.length+1) false).getD 0 false)))/\(V.set (.own 1 ((List.replicate (s.length+1) false).map bV) Qq 0 (s.length+1)) [0+0] (bV true)=.own 1 (((List.replicate (s.length+1) false).set 0 true).map bV) Qq 0 (s.length+1))/\(∃ x:Nat×(List Bool)×Nat×Nat×Nat,match x with | (j6,D6,B6,A5,s7)=>(j6<=(bH p).length/\D6=jm s ((bH p).take j6))/\E (sV s)/\E (sV (bH p))/\E (bV (fe p))/\Q (.own 1 (((List.replicate (s.length+1) false).set 0 true).map bV) Qq 0 (s.length+1)) (.own 1 (D6.map bV) B6 A5 s7)/\Q (iN 0) (iN j6)/\True)/\∀ x:Nat×(List Bool)×Nat×Nat×Nat,match x with | (i,e,g,f,k)=>(i<=(bH p).length/\e=jm s ((bH p).take i))->Br (r9 (i:Int) (((bH p).length:Nat):Int)) (m8 ((s.length:Int)+1)/\((((4:Nat)=4)/\((1:Nat)=1)/\(∃ x,(bV false:V).lits=some [x])/\(bV false:V).n=1)/\(v1=.lit (.int .i64 ((s.length+1:Nat):Int)))/\(v1=.lit (.int .i64 ((s.length+1:Nat):Int)))/\1<=(s.length+1:Nat)/\(s.length+1:Nat)*1<=140737488355328/\(s.length+1:Nat)<=9223372036854775807)/\∀ NB:Nat,((.own 1 (List.replicate (s.length+1) (bV false)) NB 0 (s.length+1):V)=.own 1 ((List.replicate (s.length+1) false).map bV) NB 0 (s.length+1))/\(∃ x:Nat×(List Bool)×Nat×Nat×Nat,match x with | (PH,PY,H6,UZ,UW)=>(PH<=s.length+1/\PY.length=s.length+1/\∀ m,m<PH->PY.getD m false=Ot ((bH p).getD i 0) s e m)/\E (sV s)/\E (sV (bH p))/\E (bV (fe p))/\E (.own 1 (e.map bV) g f k)/\E (iN i)/\Q (.own 1 ((List.replicate (s.length+1) false).map bV) NB 0 (s.length+1)) (.own 1 (PY.map bV) H6 UZ UW)/\Q (.hd (.slot 9) [] 1 NB 0 0 (((List.replicate (s.length+1) false).map bV).length) (s.length+1)) (.hd (.slot 9) [] 1 H6 UZ 0 ((PY.map bV).length) UW)/\Q (iN (((List.replicate (s.length+1) false).map bV).length)) (iN (s.length+1))/\Q (iN 0) (iN PH)/\True)/\∀ x:Nat×(List Bool)×Nat×Nat×Nat,match x with | (j,nx,u,v,z)=>(j<=s.length+1/\nx.length=s.length+1/\∀ m,m<j->nx.getD m false=Ot ((bH p).getD i 0) s e m)->Br (r9 (j:Int) ((s.length+1:Nat):Int)) (Ix (i:Int) (bH p)/\Br (o9 ((((bH p).getD i 0).toNat:Nat):Int) 42) (In (j:Int) ((e.map bV).length)/\(V.at g f (.own 1 (e.map bV) g f k) [0+j]=some (g,(f+(0+j)*1),bV (e.getD j false)))/\Gd (((e.getD j false)==false)&&((s9 (j:Int) 0)==true)) (m8 ((j:Int)-1))/\Gd (((e.getD j false)==false)&&((s9 (j:Int) 0)==true)) (In ((j:Int)-1) ((nx.map bV).length))/\Gd (((e.getD j false)==false)&&((s9 (j:Int) 0)==true)) (V.at u v (.own 1 (nx.map bV) u v z) [0+(Int.toNat ((j:Int)-1))]=some (u,(v+(0+(Int.toNat ((j:Int)-1)))*1),bV (nx.getD (Int.toNat ((j:Int)-1)) false)))/\Gd ((e.getD j false)==false) (Pk (s9 (j:Int) 0) (((e.getD j false)==false)&&((s9 (j:Int) 0)==true)) true)/\Pk (e.getD j false) true ((e.getD j false)==false)/\In (j:Int) ((nx.map bV).length)/\(V.at u v (.own 1 (nx.map bV) u v z) [0+j]=some (u,(v+(0+j)*1),bV (nx.getD j false)))/\(V.set (.own 1 (nx.map bV) u v z) [0+j] (bV ((e.getD j false)||((s9 (j:Int) 0)&&(nx.getD (Int.toNat ((j:Int)-1)) false))))=.own 1 ((nx.set j ((e.getD j false)||((s9 (j:Int) 0)&&(nx.getD (Int.toNat ((j:Int)-1)) false)))).map bV) u v z)/\m8 ((j:Int)+1)/\∃ x:Nat×(List Bool)×Nat×Nat×Nat,match x with | (M0,MY,B9,QR,QO)=>(M0<=s.length+1/\MY.length=s.length+1/\∀ m,m<M0->MY.getD m false=Ot ((bH p).getD i 0) s e m)/\(s.length+1-M0<s.length+1-j)/\E (sV s)/\E (sV (bH p))/\E (bV (fe p))/\E (.own 1 (e.map bV) g f k)/\E (iN i)/\Q (.own 1 ((nx.set j ((e.getD j false)||((s9 (j:Int) 0)&&(nx.getD (Int.toNat ((j:Int)-1)) false)))).map bV) u v z) (.own 1 (MY.map bV) B9 QR QO)/\Q (.hd (.slot 9) [] 1 u v 0 ((nx.map bV).length) z) (.hd (.slot 9) [] 1 B9 QR 0 ((MY.map bV).length) QO)/\E (iN (s.length+1))/\Q (iN (j+1)) (iN M0)/\True) (Gd ((s9 (j:Int) 0)==true) (((s9 (j:Int) 0)==true)=true)/\Gd ((s9 (j:Int) 0)==true) (m8 ((j:Int)-1))/\Gd ((s9 (j:Int) 0)==true) (((s9 (j:Int) 0)==true)=true)/\Gd ((s9 (j:Int) 0)==true) (((s9 (j:Int) 0)==true)=true)/\Gd ((s9 (j:Int) 0)==true) (In ((j:Int)-1) ((e.map bV).length))/\Gd ((s9 (j:Int) 0)==true) (((s9 (j:Int) 0)==true)=true)/\Gd ((s9 (j:Int) 0)==true) (V.at g f (.own 1 (e.map bV) g f k) [0+(Int.toNat ((j:Int)-1))]=some (g,(f+(0+(Int.toNat ((j:Int)-1)))*1),bV (e.getD (Int.toNat ((j:Int)-1)) false)))/\Pk (s9 (j:Int) 0) ((s9 (j:Int) 0)==true) true/\Gd (((s9 (j:Int) 0)&&(e.getD (Int.toNat ((j:Int)-1)) false))==true) ((((s9 (j:Int) 0)&&(e.getD (Int.toNat ((j:Int)-1)) false))==true)=true)/\Gd (((s9 (j:Int) 0)&&(e.getD (Int.toNat ((j:Int)-1)) false))==true) (m8 ((j:Int)-1))/\Gd (((s9 (j:Int) 0)&&(e.getD (Int.toNat ((j:Int)-1)) false))==true) ((((s9 (j:Int) 0)&&(e.getD (Int.toNat ((j:Int)-1)) false))==true)=true)/\Gd (((s9 (j:Int) 0)&&(e.getD (Int.toNat ((j:Int)-1)) false))==true) ((((s9 (j:Int) 0)&&(e.getD (Int.toNat ((j:Int)-1)) false))==true)=true)/\Gd (((s9 (j:Int) 0)&&(e.getD (Int.toNat ((j:Int)-1)) false))==true) (Ix ((j:Int)-1) s)/\Gd (((s9 (j:Int) 0)&&(e.getD (Int.toNat ((j:Int)-1)) false))==true) ((((s9 (j:Int) 0)&&(e.getD (Int.toNat ((j:Int)-1)) false))==true)=true)/\Gd (((s9 (j:Int) 0)&&(e.getD (Int.toNat ((j:Int)-1)) false))==true) ((((s9 (j:Int) 0)&&(e.getD (Int.toNat ((j:Int)-1)) false))==true)=true)/\Gd (((s9 (j:Int) 0)&&(e.getD (Int.toNat ((j:Int)-1)) false))==true) (Ix (i:Int) (bH p))/\Gd (((s9 (j:Int) 0)&&(e.getD (Int.toNat ((j:Int)-1)) false))==true) ((((s9 (j:Int) 0)&&(e.getD (Int.toNat ((j:Int)-1)) false))==true)=true)/\Gd (((s9 (j:Int) 0)&&(e.getD (Int.toNat ((j:Int)-1)) false))==true) ((((s9 (j:Int) 0)&&(e.getD (Int.toNat ((j:Int)-1)) false))==true)=true)/\Pk ((s9 (j:Int) 0)&&(e.getD (Int.toNat ((j:Int)-1)) false)) (((s9 (j:Int) 0)&&(e.getD (Int.toNat ((j:Int)-1)) false))==true) true/\In (j:Int) ((nx.map bV).length)/\(V.at u v (.own 1 (nx.map bV) u v z) [0+j]=some (u,(v+(0+j)*1),bV (nx.getD j false)))/\(V.set (.own 1 (nx.map bV) u v z) [0+j] (bV (((s9 (j:Int) 0)&&(e.getD (Int.toNat ((j:Int)-1)) false))&&(o9 (((s.getD (Int.toNat ((j:Int)-1)) 0).toNat:Nat):Int) ((((bH p).getD i 0).toNat:Nat):Int))))=.own 1 ((nx.set j (((s9 (j:Int) 0)&&(e.getD (Int.toNat ((j:Int)-1)) false))&&(o9 (((s.getD (Int.toNat ((j:Int)-1)) 0).toNat:Nat):Int) ((((bH p).getD i 0).toNat:Nat):Int)))).map bV) u v z)/\m8 ((j:Int)+1)/\∃ x:Nat×(List Bool)×Nat×Nat×Nat,match x with | (M0,MY,B9,QR,QO)=>(M0<=s.length+1/\MY.length=s.length+1/\∀ m,m<M0->MY.getD m false=Ot ((bH p).getD i 0) s e m)/\(s.length+1-M0<s.length+1-j)/\E (sV s)/\E (sV (bH p))/\E (bV (fe p))/\E (.own 1 (e.map bV) g f k)/\E (iN i)/\Q (.own 1 ((nx.set j (((s9 (j:Int) 0)&&(e.getD (Int.toNat ((j:Int)-1)) false))&&(o9 (((s.getD (Int.toNat ((j:Int)-1)) 0).toNat:Nat):Int) ((((bH p).getD i 0).toNat:Nat):Int)))).map bV) u v z) (.own 1 (MY.map bV) B9 QR QO)/\Q (.hd (.slot 9) [] 1 u v 0 ((nx.map bV).length) z) (.hd (.slot 9) [] 1 B9 QR 0 ((MY.map bV).length) QO)/\E (iN (s.length+1))/\Q (iN (j+1)) (iN M0)/\True)) (((1,u,v,z,(nx.map bV).length)=(1,u,v,z,(nx.map bV).length))/\m8 ((i:Int)+1)/\∃ x:Nat×(List Bool)×Nat×Nat×Nat,match x with | (b7,x5,s5,r4,k₂)=>(b7<=(bH p).length/\x5=jm s ((bH p).take b7))/\((bH p).length-b7<(bH p).length-i)/\E (sV s)/\E (sV (bH p))/\E (bV (fe p))/\Q (.own 1 (nx.map bV) u v z) (.own 1 (x5.map bV) s5 r4 k₂)/\Q (iN (i+1)) (iN b7)/\True)) (Br (fe p) (In (s.length:Int) ((e.map bV).length)/\(V.at g f (.own 1 (e.map bV) g f k) [0+s.length]=some (g,(f+(0+s.length)*1),bV (e.getD s.length false)))/\Q (bV (e.getD s.length false)) (bV (cD p s))) ((((1=1/\g=g/\f=f)/\0+((e.map bV).length)<=(e.map bV).length/\V.aE (e.map bV)=false/\aJ 1 (e.map bV))/\True)/\(([.sl false (((e.map bV).drop 0).take ((e.map bV).length)),bV true]:List V)=[.sl false (e.map bV),bV true])/\((e.length<=1000000))/\Q (bV (e.contains true)) (bV (cD p s))))))) (iN (s.length+1):V)) ?_
 refine⟨rfl,Z5,⟨fun _=>rfl,fun h=>by rw[h] <;> rfl⟩,?_⟩
 refine bI (fun j7=>?_) fun j7=>?_
 unfold Q
 rw[Du j7]
 · have Rh:=DY j7.1
   have hbl:(bH p).length<=p.length:=by unfold bH;split <;> simp
   refine⟨rfl,⟨Z9,Z8⟩,(by rw[rF Z9]),(by rw[rF Z9]),(by rw[we Z9]),(by rw[we Z9]),Z9,⟨⟨rfl,rfl,⟨_,rfl⟩,rfl⟩,by first | (refine Zq iV ?_;simp;done) | (refine Zq iV ?_;omega),by first | (refine Zq iV ?_;simp;done) | (refine Zq iV ?_;omega),Z9,Z9,Z9⟩,?_⟩
   intro Qq
   refine⟨Zq (V.own 1 · _ _ _) List.map_replicate.symm,?_⟩
   have NL:(List.replicate (s.length+1) false).length=s.length+1:=List.length_replicate
   refine⟨Z2,gz (by rw[Y0];exact aj (d:=false) Z9),nD (by rw[Y0];exact aj (d:=false) Z9) (by rw[Y0];exact(List.map_set ..).symm),?_⟩
   refine⟨⟨(0,uS s,Qq,0,s.length+1),?_,rfl,rfl,rfl,Z4,rfl,trivial⟩,?_⟩
   simp[jm]
   rintro⟨i,e,g,f,k⟩ ⟨h1,h2⟩
   have hel:e.length=s.length+1:=by rw[h2];exact zV _ _
   refine bI (fun l6=>?_) fun l6=>?_
   · refine⟨Z9,⟨⟨rfl,rfl,⟨_,rfl⟩,rfl⟩,by first | (refine Zq iV ?_;simp;done) | (refine Zq iV ?_;omega),by first | (refine Zq iV ?_;simp;done) | (refine Zq iV ?_;omega),Z9,Z9,Z9⟩,?_⟩
     intro NB
     refine⟨Zq (V.own 1 · _ _ _) List.map_replicate.symm,?_⟩
     refine⟨⟨(0,List.replicate (s.length+1) false,NB,0,s.length+1),?_,rfl,rfl,rfl,rfl,rfl,rfl,rfl,Z4,rfl,trivial⟩,?_⟩
     simp
     rintro⟨j,nx,u,v,z⟩ ⟨q1,q2,q3⟩
     refine bI (fun n6=>?_) fun n6=>?_
     refine⟨Z9,?_⟩
     refine bI (fun w6=>?_) fun w6=>?_
     refine⟨Z2,gz (by rw[Y0];exact aj (d:=false) Z9),fun hG=>by(try simp only[nb]at hG);omega,fun hG=>by(try simp only[nb]at hG);(try simp only[Y2]at *);omega,fun hG=>gz (by rw[Y0];exact aj (d:=false) Z9),fun hG=>⟨fun h=>by rw[h];exact(YS _ _).mpr ⟨hG,rfl⟩,fun _=>rfl⟩,⟨fun _=>rfl,fun h=>by rw[h] <;> rfl⟩,Z2,gz (by rw[Y0];exact aj (d:=false) Z9),nD (by rw[Y0];exact aj (d:=false) Z9) (by rw[Y0];exact(List.map_set ..).symm),Z9,?_⟩
     refine⟨(j+1,nx.set j ((e.getD j false)||((s9 (j:Int) 0)&&(nx.getD (Int.toNat ((j:Int)-1)) false))),u,v,z),?_,?_,rfl,rfl,rfl,rfl,rfl,rfl,Z4,rfl,rfl,trivial⟩
     refine⟨Z9,by simp[q2],fun m hm=>?_⟩
     by_cases e:m=j
     subst e
     rw[BO Z9]
     exact Ek w6 Z9 q3
     rw[By e];exact q3 m Z9
     exact Z1
     refine⟨fun h=>h,fun hG=>by(try simp only[nb]at hG);omega,fun h=>h,fun h=>h,fun hG=>by(try simp only[nb]at hG);(try simp only[Y2]at *);omega,fun h=>h,fun hG=>gz (by rw[Y0];exact aj (d:=false) Z9),⟨fun h=>by rw[h] <;> rfl,fun _=>rfl⟩,fun h=>h,fun hG=>by(try simp only[nb]at hG);omega,fun h=>h,fun h=>h,fun hG=>by(try simp only[nb]at hG);omega,fun h=>h,fun h=>h,fun hG=>by(try simp only[nb]at hG);omega,fun h=>h,fun h=>h,⟨fun h=>by rw[h] <;> rfl,fun _=>rfl⟩,Z2,gz (by rw[Y0];exact aj (d:=false) Z9),nD (by rw[Y0];exact aj (d:=false) Z9) (by rw[Y0];exact(List.map_set ..).symm),Z9,?_⟩
     refine⟨(j+1,nx.set j (((s9 (j:Int) 0)&&(e.getD (Int.toNat ((j:Int)-1)) false))&&(o9 (((s.getD (Int.toNat ((j:Int)-1)) 0).toNat:Nat):Int) ((((bH p).getD i 0).toNat:Nat):Int))),u,v,z),?_,?_,rfl,rfl,rfl,rfl,rfl,rfl,Z4,rfl,rfl,trivial⟩
     refine⟨Z9,by simp[q2],fun m hm=>?_⟩
     by_cases e:m=j
     subst e
     rw[BO Z9]
     exact CD w6
     rw[By e];exact q3 m Z9
     exact Z1
     refine⟨rfl,Z9,?_⟩
     refine⟨(i+1,nx,u,v,z),?_,?_,rfl,rfl,rfl,rfl,rfl,trivial⟩
     refine⟨Z9,?_⟩
     rw[DE Z9,<- h2]
     exact Gx q2 (fun m hm=>q3 m Z9)
     exact Z1
   refine bI (fun G8=>?_) fun G8=>?_
   refine⟨Z2,gz (by rw[Y0];exact aj (d:=false) Z9),?_⟩
   unfold Q
   rw[xa j7,h2,Y3 Z9]
   unfold ym
   rw[if_pos G8]
   refine⟨⟨⟨⟨rfl,rfl,rfl⟩,Z8,cN (f:=bV) (fun _=>rfl) _,ee (f:=bV) (fun _=>rfl) _⟩,trivial⟩,by simp[Y3],Z5,?_⟩
   unfold Q
   rw[xa j7,h2,Y3 Z9]
   unfold ym
   rw[if_neg (by rw[G8];decide)])
theorem oy{p s:BL}(h:cD p s=true):1<=p.length:=by
 unfold cD at h
 simp only[YS]at h
 exact(uR h.1.1).1
theorem oh{X:Int×Bool} {r:s6} {s:BL} {m m':Int} {b b':Bool} (h2: -1<=X.1/\X.1≠0) (h3:m=max X.1 0) (h4:b=X.2)
 (h:(cD r.path s=false/\m'=m/\b'=b)\/(cD r.path s=true/\m<(r.path.length:Int)/\m'=(r.path.length:Int)/\b'=r.I3)\/(cD r.path s=true/\(r.path.length:Int)=m/\m'=m/\b'=(b||r.I3))\/(cD r.path s=true/\(r.path.length:Int)<m/\m'=m/\b'=b)):
 (-1<=(dO s X r).1/\(dO s X r).1≠0)/\m'=max (dO s X r).1 0/\b'=(dO s X r).2:=by
 subst h3 h4
 rcases h with ⟨h,rfl,rfl⟩ | ⟨h,h1,rfl,rfl⟩ | ⟨h,h1,rfl,rfl⟩ | ⟨h,h1,rfl,rfl⟩
 rw[show dO s X r=X from if_pos (.inl h)];exact⟨h2,rfl,rfl⟩
 have hl:=oy h
 unfold dO
 rw[if_neg (by rw[h];simp;omega),decide_eq_false Z9]
 exact⟨⟨by simp only;omega,by simp only;omega⟩,by simp only;omega,Z8⟩
 have hl:=oy h
 unfold dO
 rw[if_neg (by rw[h];simp;omega),decide_eq_true Z9]
 exact⟨⟨by simp only;omega,by simp only;omega⟩,by simp only;omega,by simp[Bool.or_comm]⟩
 have hl:=oy h
 rw[show dO s X r=X from if_pos (.inr Z9)];exact⟨h2,rfl,rfl⟩
abbrev dr(rs:List s6)(s:BL)(i:Nat)(m:Int)(b:Bool):Prop:=i<=rs.length/\(-1<=((rs.take i).foldl (dO s) (-1,true)).1/\((rs.take i).foldl (dO s) (-1,true)).1≠0)/\m=max ((rs.take i).foldl (dO s) (-1,true)).1 0/\b=((rs.take i).foldl (dO s) (-1,true)).2
def im(rs:List s6)(s:BL):o6 Tryz.prog:=.mk 72 [eL rs,sV s] [] ((rs.length<=1000000)/\(∀ i,(rs.getD i ⟨false,[]⟩).path.length<=1000000)/\(s.length<=1000000)) (bV (aD rs s)) [] (by
 rintro⟨hl,hr,hs⟩
 refine av (N:=42) (rs:=[.tmp 4]) Tryz.func72
  (.q 1<|.q 2<|.q 3<|.loop (Nat×Int×Bool) (fun (i,m,b)=>⟨[(1,sV s),(5,iV m),(6,bV b),(10,eL rs),(11,iN rs.length),(12,iN i)],[]⟩) (fun (i,m,b)=>dr rs s i m b) (fun (i,m,b)=>rs.length-i) (fun (i,m,b)=>.q 1<|.br (.r 2 [.agg [bV ((rs.getD i (⟨false,[]⟩:s6)).I3),sV ((rs.getD i (⟨false,[]⟩:s6)).path)]]<|.al uB (fun g8=>.st none<|.r 3 [.a8]<|.c (uu ((rs.getD i (⟨false,[]⟩:s6)).path) s) []<|.q 1<|.br (.q 2<|.nil) (.r 4 [.a8]<|.q 4<|.br (.dx 4 [0,1,2,3] [(2,⟨false,[],some [8],[30],[]⟩)] []<|.q 1<|.q 1<|.r 1 [.a8]<|.q 1<|.q 1<|.q 2<|.nil) (.q 4<|.br (.r 6 [.a8]<|.q 2<|.nil) (.q 2<|.nil))))) (.q 2<|.nil)))
  ((∃ x:Nat×Int×Bool,match x with | (j6,NX,M7)=>(dr rs s j6 NX M7)/\E (sV s)/\Q (iN 0) (iV NX)/\Q (bV true) (bV M7)/\E (eL rs)/\Q (iN ((rs.map au).length)) (iN rs.length)/\Q (iN 0) (iN j6)/\True)/\∀ x:Nat×Int×Bool,match x with | (i,m,b)=>(dr rs s i m b)->Br (r9 (i:Int) (rs.length:Int)) (Ex (i:Int) (rs.map au) (.agg [bV ((rs.getD i (⟨false,[]⟩:s6)).I3),sV ((rs.getD i (⟨false,[]⟩:s6)).path)])/\True/\∀ g8:Nat,Z g8 0/\Z g8 1/\(uu ((rs.getD i (⟨false,[]⟩:s6)).path) s).sm/\((((rs.getD i (⟨false,[]⟩:s6)).path).length<=1000000)/\(s.length<=1000000))/\Br (!(cD ((rs.getD i (⟨false,[]⟩:s6)).path) s)) (m8 ((i:Int)+1)/\∃ x:Nat×Int×Bool,match x with | (b7,m₂,B3)=>(dr rs s b7 m₂ B3)/\(rs.length-b7<rs.length-i)/\E (sV s)/\Q (iV m) (iV m₂)/\Q (bV b) (bV B3)/\E (eL rs)/\E (iN rs.length)/\Q (iN (i+1)) (iN b7)/\True) (Z g8 1/\Br (s9 ((((rs.getD i (⟨false,[]⟩:s6)).path).length:Nat):Int) m) (Z g8 0/\m8 ((i:Int)+1)/\∃ x:Nat×Int×Bool,match x with | (b7,m₂,B3)=>(dr rs s b7 m₂ B3)/\(rs.length-b7<rs.length-i)/\E (sV s)/\Q (iN (((rs.getD i (⟨false,[]⟩:s6)).path).length)) (iV m₂)/\Q (bV ((rs.getD i (⟨false,[]⟩:s6)).I3)) (bV B3)/\E (eL rs)/\E (iN rs.length)/\Q (iN (i+1)) (iN b7)/\True) (Br (o9 ((((rs.getD i (⟨false,[]⟩:s6)).path).length:Nat):Int) m) (Gd (b==false) (Z g8 0)/\Pk b true (b==false)/\m8 ((i:Int)+1)/\∃ x:Nat×Int×Bool,match x with | (b7,m₂,B3)=>(dr rs s b7 m₂ B3)/\(rs.length-b7<rs.length-i)/\E (sV s)/\Q (iV m) (iV m₂)/\Q (bV (b||((rs.getD i (⟨false,[]⟩:s6)).I3))) (bV B3)/\E (eL rs)/\E (iN rs.length)/\Q (iN (i+1)) (iN b7)/\True) (m8 ((i:Int)+1)/\∃ x:Nat×Int×Bool,match x with | (b7,m₂,B3)=>(dr rs s b7 m₂ B3)/\(rs.length-b7<rs.length-i)/\E (sV s)/\Q (iV m) (iV m₂)/\Q (bV b) (bV B3)/\E (eL rs)/\E (iN rs.length)/\Q (iN (i+1)) (iN b7)/\True)))) (Q (bV b) (bV (aD rs s)))) ?_
 refine⟨⟨(0,0,true),?_,rfl,Z4,rfl,rfl,Z4,rfl,trivial⟩,?_⟩
 unfold dr
 simp;omega
 rintro⟨i,m,b⟩ ⟨h1,h2,h3,h4⟩
 have R2:=hr i
 refine bI (fun j7=>?_) fun j7=>?_
 refine⟨⟨Z9,aj (d:=(⟨false,[]⟩:s6)) Z9⟩,trivial,?_⟩
 intro g8
 refine⟨rfl,rfl,rfl,⟨Z9,Z9⟩,?_⟩
 refine bI (fun l6=>?_) fun l6=>?_
 refine⟨Z9,?_⟩
 refine⟨(i+1,m,b),?_,?_,rfl,rfl,rfl,rfl,rfl,rfl,trivial⟩
 unfold dr
 refine⟨Z9,?_⟩
 rw[foldl_succ (by omega:i<rs.length) (d:=⟨false,[]⟩)]
 exact oh h2 h3 h4 (.inl ⟨l6,rfl,rfl⟩)
 exact Z1
 refine⟨rfl,?_⟩
 refine bI (fun n6=>?_) fun n6=>?_
 refine⟨rfl,Z9,?_⟩
 refine⟨(i+1,((((rs.getD i (⟨false,[]⟩:s6)).path).length:Nat):Int),(rs.getD i (⟨false,[]⟩:s6)).I3),?_,?_,rfl,Z4,rfl,rfl,rfl,rfl,trivial⟩
 unfold dr
 refine⟨Z9,?_⟩
 rw[foldl_succ (by omega:i<rs.length) (d:=⟨false,[]⟩)]
 exact oh h2 h3 h4 (.inr (.inl ⟨l6,n6,rfl,rfl⟩))
 exact Z1
 refine bI (fun w6=>?_) fun w6=>?_
 refine⟨fun hG=>rfl,⟨fun _=>rfl,fun h=>by rw[h] <;> rfl⟩,Z9,?_⟩
 refine⟨(i+1,m,(b||((rs.getD i (⟨false,[]⟩:s6)).I3))),?_,?_,rfl,rfl,rfl,rfl,rfl,rfl,trivial⟩
 unfold dr
 refine⟨Z9,?_⟩
 rw[foldl_succ (by omega:i<rs.length) (d:=⟨false,[]⟩)]
 exact oh h2 h3 h4 (.inr (.inr (.inl ⟨l6,w6,rfl,by first | rfl | (cases b <;> rfl)⟩)))
 exact Z1
 refine⟨Z9,?_⟩
 refine⟨(i+1,m,b),?_,?_,rfl,rfl,rfl,rfl,rfl,rfl,trivial⟩
 unfold dr
 refine⟨Z9,?_⟩
 rw[foldl_succ (by omega:i<rs.length) (d:=⟨false,[]⟩)]
 exact oh h2 h3 h4 (.inr (.inr (.inr ⟨l6,Z9,rfl,rfl⟩)))
 exact Z1
 unfold Q
 refine Zq bV ?_
 unfold aD
 rw[h4,Y3 Z9])
abbrev dB(p0:V):V:=.agg [ p0,bV true]
abbrev eZ(p0:List k9)(p1:Bool):V:=.agg [.ow 3 (p0.map aR),bV p1]
abbrev iz(p0:List BL)(p1:List s6)(p2:Nat):V:=.agg [.ow 1 (p0.map sV),.ow 2 (p1.map au),iN p2]
abbrev yf(p0:List BL)(p1:List s6)(p2:Nat)(p3:Nat)(p4:Nat)(p5:Nat):V:=.agg [.ow 1 (p0.map sV),.own 2 (p1.map au) p2 p3 p4,iN p5]
theorem He(gs:List k9)(b:Bool)(g:Nat)(n:BL)(hg:gs.length<=1000)(hn:∀ y,y∈gs->y.na.length<=1000/\y.ru.length<=6):PF Tryz.prog 128 [.ptr (.key 1000) [] g 0,.lit (.iface 210 (.agg #[.string (Str n)]))] [(1000,(g,eZ gs b))] (fun r h=>r=(.tup [])/\h=[(1000,(g,eZ ((lz gs b n).1) ((lz gs b n).2)))]):=by
 refine av (N:=112) (rs:=[]) Tryz.func128
  (.oR (.key 1000) [0] (fun gr fr cr=>.q 1<|.cu (V2 (.agg [sV n])) (fun _=>.q 3<|.al my (fun g4=>.st none<|.q 1<|.q 2<|.gt<|.q 1<|.gt<|.q 1<|.gt<|.q 1<|.gt<|.r 1 [.a8]<|.gt<|.q 1<|.gt<|.q 1<|.gt<|.r 5 [.a8]<|.gt<|.q 2<|.br (.dx 11 [0,1,2,3,4,5,6,7,8,9,10] [(4,⟨false,[],some [1000],[34],[]⟩),(6,⟨false,[],some [4],[36],[]⟩),(7,⟨true,[],none,[37],[]⟩),(10,⟨true,[],none,[40],[1000]⟩)] []<|.q 1<|.q 1<|.q 1<|.q 1<|.r 1 [.a8]<|.q 1<|.r 1 [.a8]<|.eu boE (fun M5=>.bd jt<|.bs<|.ux none (fun D8 D7 G3=>.h (.o4 40 (.own 3 (gs.map aR++[(.agg [.hd (.slot 37) [] 1 M5 0 0 (([n].map sV).length) 1,.sl true [],iN 0]:V)]) D8 D7 G3))<|.q 2<|.h (.Ry (.slot 40) [gs.length,0] D8 (D7+(gs.length)*3+0) 37)<|.h (.o4 40 (.own 3 (gs.map aR++[(.agg [.own 1 ([n].map sV) M5 0 1,.sl true [],iN 0]:V)]) D8 D7 G3))<|.h (.PX (.slot 40) [gs.length,1] D8 (D7+(gs.length)*3+1) 2)<|.h (.o4 40 (.own 3 (gs.map aR++[(.agg [.own 1 ([n].map sV) M5 0 1,.own 2 ([].map au) 0 0 0,iN 0]:V)]) D8 D7 G3))<|.h (.PV (.slot 40) [gs.length,0] D8 (D7+(gs.length)*3+0) (.own 1 ([n].map sV) M5 0 1) (.ow 1 ([n].map sV)))<|.h (.o4 40 (.own 3 (gs.map aR++[(.agg [.ow 1 ([n].map sV),.own 2 ([].map au) 0 0 0,iN 0]:V)]) D8 D7 G3))<|.h (.PV (.slot 40) [gs.length,1] D8 (D7+(gs.length)*3+1) (.own 2 ([].map au) 0 0 0) (.ow 2 ([].map au)))<|.h (.o4 40 (.own 3 (gs.map aR++[(.agg [.ow 1 ([n].map sV),.ow 2 ([].map au),iN 0]:V)]) D8 D7 G3))<|.h (.o4 40 (.own 3 ((gs++[(⟨[n],[],0⟩:k9)]).map aR) D8 D7 G3))<|.st none<|.q 3<|.st none<|.nil))) (.r 6 [.a8]<|.br (.nil) (.ex (List k9×k9) (fun z=>gs=z.1++[z.2]) (fun (z:List k9×k9)=>.h (.B0 1000 (.agg [.own 3 (z.1.map aR++[(iz z.2.na z.2.ru z.2.wa:V)]) gr fr cr,bV b]))<|.dx 10 [0,1,2,3,4,5,6,7,8,9] [(3,⟨false,[],some [1000],[55],[]⟩),(7,⟨false,[],some [1000],[59],[]⟩)] []<|.q 1<|.q 1<|.q 1<|.r 1 [.a8]<|.q 1<|.q 1<|.q 1<|.r 1 [.a8]<|.q 1<|.q 1<|.h (.o4 61 (iN z.1.length))<|.q 2<|.q 1<|.cu (V2 (.agg [sV n])) (fun _=>.q 2<|.br (.al my (fun g7=>.st none<|.QA (.key 1000) [0,0+z.1.length,0] gr (fr+(0+z.1.length)*3+0) 1 (z.2.na.map sV) (fun gA oA cA=>.h (.B0 1000 (.agg [.own 3 (z.1.map aR++[(.agg [.own 1 (z.2.na.map sV) gA oA cA,.ow 2 (z.2.ru.map au),iN z.2.wa]:V)]) gr fr cr,bV b]))<|.dx 9 [0,1,2,3,4,5,6,7,8] [(4,⟨false,[],some [1000],[71],[]⟩),(6,⟨false,[],some [7],[73],[]⟩),(8,⟨true,[],none,[75],[1000]⟩)] []<|.q 1<|.q 1<|.q 1<|.q 1<|.r 1 [.own 1 (z.2.na.map sV) gA oA cA]<|.q 1<|.r 1 [.a8]<|.bs<|.eu (Wt 1000 [0,0+z.1.length,0] (z.2.na.map sV) ([sV n]:List V) gr (fr+(0+z.1.length)*3+0) 1 gA oA cA) (fun MW=>.h (.B0 1000 (.agg [.own 3 (z.1.map aR++[(.agg [.a8,.ow 2 (z.2.ru.map au),iN z.2.wa]:V)]) gr fr cr,bV b]))<|.h (.o4 75 (.own 1 ((z.2.na++[n]).map sV) MW.1 MW.2.1 MW.2.2))<|.q 2<|.st (some (.a8))<|.h (.B0 1000 (.agg [.own 3 (z.1.map aR++[(.agg [.own 1 ((z.2.na++[n]).map sV) MW.1 MW.2.1 MW.2.2,.ow 2 (z.2.ru.map au),iN z.2.wa]:V)]) gr fr cr,bV b]))<|.h (.PV (.key 1000) [0,0+z.1.length,0] gr (fr+(0+z.1.length)*3+0) (.own 1 ((z.2.na++[n]).map sV) MW.1 MW.2.1 MW.2.2) (.ow 1 ((z.2.na++[n]).map sV)))<|.h (.B0 1000 (.agg [.own 3 (z.1.map aR++[(iz (z.2.na++[n]) z.2.ru z.2.wa:V)]) gr fr cr,bV b]))<|.h (.B0 1000 (.agg [.own 3 ((z.1++[(⟨z.2.na++[n],z.2.ru,z.2.wa⟩:k9)]).map aR) gr fr cr,bV b]))<|.nil)))) (.nil)))))))))
  ((fun v1:Bool=>(fun v2:V=>(fun v3:V=>(fun v4:List V=>(fun v5:V=>(∀ gr fr cr:Nat,((∃ td,Tryz.prog.underlying 210=some td/\∀ i,td≠.interface i)/\((210:Nat)=210)/\((.agg #[.string (Str n)]:Value)=.agg #[.string (Str n)]))/\∀ _:Unit,∀ g4:Nat,Z g4 0/\(true=true)/\(true=true)/\True/\(true=true)/\(true=true)/\Z g 0/\(true=true)/\(true=true)/\(true=true)/\Gd (v1==false) True/\Gd (v1==false) (Z g 1)/\(true=true)/\Pk v1 true (v1==false)/\Pk true true true/\Br (true&&(v1||b)) (True/\Z g 0/\Z g4 0/\True/\∀ M5:Nat,(fun v6:List V=>(fun v7:V=>(fun v8:V=>(fun v9:V=>(((3,3,gr,fr,cr,(gs.map aR).length)=(3,3,gr,fr,cr,(gs.map aR).length))/\(V.aE v6=false)/\(aJ 3 v6)/\(((gs.map aR).length+v6.length)*56<=140737488355328))/\∀ D8 D7 G3:Nat,((.own 3 ((gs.map aR)++v6) D8 D7 G3:V)=.own 3 (gs.map aR++[v7]) D8 D7 G3)/\True/\(V.at D8 D7 (.own 3 (gs.map aR++[v7]) D8 D7 G3) [gs.length,0]=some (D8,D7+(gs.length)*3+0,.hd (.slot 37) [] 1 M5 0 0 (([n].map sV).length) 1))/\(V.set (.own 3 (gs.map aR++[v7]) D8 D7 G3) [gs.length,0] (.own 1 ([n].map sV) M5 0 1)=.own 3 (gs.map aR++[v9]) D8 D7 G3)/\(V.at D8 D7 (.own 3 (gs.map aR++[v9]) D8 D7 G3) [gs.length,1]=some (D8,D7+(gs.length)*3+1,.sl true []))/\(V.set (.own 3 (gs.map aR++[v9]) D8 D7 G3) [gs.length,1] (.own 2 ([].map au) 0 0 0)=.own 3 (gs.map aR++[v8]) D8 D7 G3)/\(V.at D8 D7 (.own 3 (gs.map aR++[v8]) D8 D7 G3) [gs.length,0]=some (D8,D7+(gs.length)*3+0,.own 1 ([n].map sV) M5 0 1))/\(V.set (.own 3 (gs.map aR++[v8]) D8 D7 G3) [gs.length,0] (.ow 1 ([n].map sV))=.own 3 (gs.map aR++[v2]) D8 D7 G3)/\(V.at D8 D7 (.own 3 (gs.map aR++[v2]) D8 D7 G3) [gs.length,1]=some (D8,D7+(gs.length)*3+1,.own 2 ([].map au) 0 0 0))/\(V.set (.own 3 (gs.map aR++[v2]) D8 D7 G3) [gs.length,1] (.ow 2 ([].map au))=.own 3 (gs.map aR++[v5]) D8 D7 G3)/\((.own 3 (gs.map aR++[v5]) D8 D7 G3:V)=.own 3 ((gs++[(⟨[n],[],0⟩:k9)]).map aR) D8 D7 G3)/\Z g 0/\True/\Z g 1/\Q (.tup []) (.tup [])/\Qr g (.agg [.ow 3 ((gs++[(⟨[n],[],0⟩:k9)]).map aR),bV false]) g v3) (.agg [.own 1 ([n].map sV) M5 0 1,.sl true [],iN 0]:V)) (.agg [.own 1 ([n].map sV) M5 0 1,.own 2 ([].map au) 0 0 0,iN 0]:V)) (.agg [.hd (.slot 37) [] 1 M5 0 0 (([n].map sV).length) 1,.sl true [],iN 0]:V)) ([.agg [.hd (.slot 37) [] 1 M5 0 0 (([n].map sV).length) 1,.sl true [],iN 0]]:List V)) (True/\Z g 0/\Br v1 (Q (.tup []) (.tup [])/\Qr g (eZ gs b) g v3) ((∃ z:List k9×k9,gs=z.1++[z.2])/\∀ z:List k9×k9,(gs=z.1++[z.2])->(fun v10:V=>(fun v11:V=>(fun v12:V=>(fun H5:V=>((.agg [.own 3 (gs.map aR) gr fr cr,bV b]:V)=.agg [.own 3 (z.1.map aR++[v10]) gr fr cr,bV b])/\True/\Z g 0/\True/\Z g 0/\m8 ((((z.1.map aR++[v10]).length:Nat):Int)-1)/\Q (iV ((((z.1.map aR++[v10]).length:Nat):Int)-1)) (iN z.1.length)/\In (z.1.length:Int) ((z.1.map aR++[v10]).length)/\((∃ td,Tryz.prog.underlying 210=some td/\∀ i,td≠.interface i)/\((210:Nat)=210)/\((.agg #[.string (Str n)]:Value)=.agg #[.string (Str n)]))/\∀ _:Unit,Br true (∀ g7:Nat,Z g7 0/\(V.at g 0 v12 [0,0+z.1.length,0]=some (gr,fr+(0+z.1.length)*3+0,.ow 1 (z.2.na.map sV)))/\∀ gA oA cA:Nat,(fun M':V=>(V.set v12 [0,0+z.1.length,0] (.own 1 (z.2.na.map sV) gA oA cA)=.agg [.own 3 (z.1.map aR++[(.agg [.own 1 (z.2.na.map sV) gA oA cA,.ow 2 (z.2.ru.map au),iN z.2.wa]:V)]) gr fr cr,bV b])/\True/\(V.at g 0 M' [0,0+z.1.length,0]=some (gr,(fr+(0+z.1.length)*3+0),.own 1 (z.2.na.map sV) gA oA cA))/\Z g7 0/\(v4=v4/\((.hd (.key 1000) [0,0+z.1.length,0] 1 gA oA 0 ((z.2.na.map sV).length) cA:V)=.hd (.key 1000) [0,0+z.1.length,0] 1 gA oA 0 ((z.2.na.map sV).length) cA)/\(V.at g 0 M' [0,0+z.1.length,0]=some (gr,fr+(0+z.1.length)*3+0,.own 1 (z.2.na.map sV) gA oA cA))/\((1:Nat)=1)/\(V.aE v4=false)/\(aJ 1 v4)/\(((z.2.na.map sV).length+v4.length)*16<=140737488355328))/\∀ MW:Nat×Nat×Nat,(fun NS:V=>(fun N9:V=>(V.set M' [0,0+z.1.length,0] (.a8)=.agg [.own 3 (z.1.map aR++[v11]) gr fr cr,bV b])/\((.own 1 ((z.2.na.map sV)++v4) MW.1 MW.2.1 MW.2.2:V)=.own 1 ((z.2.na++[n]).map sV) MW.1 MW.2.1 MW.2.2)/\True/\(V.at g 0 H5 [0,0+z.1.length,0]=some (gr,(fr+(0+z.1.length)*3+0),.a8))/\(V.set H5 [0,0+z.1.length,0] (.own 1 ((z.2.na++[n]).map sV) MW.1 MW.2.1 MW.2.2)=.agg [.own 3 (z.1.map aR++[NS]) gr fr cr,bV b])/\(V.at g 0 N9 [0,0+z.1.length,0]=some (gr,fr+(0+z.1.length)*3+0,.own 1 ((z.2.na++[n]).map sV) MW.1 MW.2.1 MW.2.2))/\(V.set N9 [0,0+z.1.length,0] (.ow 1 ((z.2.na++[n]).map sV))=.agg [.own 3 (z.1.map aR++[(iz (z.2.na++[n]) z.2.ru z.2.wa:V)]) gr fr cr,bV b])/\((.agg [.own 3 (z.1.map aR++[(iz (z.2.na++[n]) z.2.ru z.2.wa:V)]) gr fr cr,bV b]:V)=.agg [.own 3 ((z.1++[(⟨z.2.na++[n],z.2.ru,z.2.wa⟩:k9)]).map aR) gr fr cr,bV b])/\Q (.tup []) (.tup [])/\Qr g (eZ (z.1++[(⟨z.2.na++[n],z.2.ru,z.2.wa⟩:k9)]) b) g v3) (.agg [.own 3 (z.1.map aR++[NS]) gr fr cr,bV b])) (.agg [.own 1 ((z.2.na++[n]).map sV) MW.1 MW.2.1 MW.2.2,.ow 2 (z.2.ru.map au),iN z.2.wa]:V)) (.agg [.own 3 (z.1.map aR++[(.agg [.own 1 (z.2.na.map sV) gA oA cA,.ow 2 (z.2.ru.map au),iN z.2.wa]:V)]) gr fr cr,bV b])) (False)) (.agg [.own 3 (z.1.map aR++[v11]) gr fr cr,bV b])) (.agg [.own 3 (z.1.map aR++[v10]) gr fr cr,bV b])) (.agg [.a8,.ow 2 (z.2.ru.map au),iN z.2.wa]:V)) (iz z.2.na z.2.ru z.2.wa:V))))) (.agg [.ow 1 ([n].map sV),.ow 2 ([].map au),iN 0]:V)) ([sV n]:List V)) (eZ ((lz gs b n).1) ((lz gs b n).2))) (.agg [.ow 1 ([n].map sV),.own 2 ([].map au) 0 0 0,iN 0]:V)) (o9 (((gs.map aR).length:Nat):Int) 0)) ?_
 intro gr fr cr
 refine⟨⟨⟨_,Tryz.underlying210,by intro i h;cases h⟩,rfl,rfl⟩,?_⟩
 intro _
 intro g4
 refine⟨rfl,rfl,rfl,trivial,rfl,rfl,rfl,rfl,rfl,rfl,fun hG=>trivial,fun hG=>rfl,rfl,⟨fun _=>rfl,fun h=>by rw[h] <;> rfl⟩,⟨fun _=>rfl,fun _=>rfl⟩,?_⟩
 refine bI (fun j7=>?_) fun j7=>?_
 refine⟨trivial,rfl,rfl,trivial,?_⟩
 intro M5
 refine⟨⟨rfl,rfl,by simp[aJ,V.n,V.ns],by(try simp only[Y2,YV,YY]);omega⟩,?_⟩
 intro D8 D7 G3
 refine⟨Zq (V.own 3 · D8 D7 G3) (rfl),trivial,aI (aX) rfl,aV (aX) (dw),aI (aX) rfl,aV (aX) (dw),aI (aX) rfl,aV (aX) (dw),aI (aX) rfl,aV (aX) (dw),Zq (V.own 3 · D8 D7 G3) (by rw[Zf (f:=aR)];rfl),rfl,trivial,rfl,?_⟩
 refine⟨?_,by rw[show lz gs b n=(gs++[⟨[n],[],0⟩],false) from if_pos (j7.imp (fun h=>Y9 (by simpa using h)) id)]⟩
 unfold Q
 rfl
 · refine⟨trivial,rfl,?_⟩
   refine bI (fun l6=>?_) fun l6=>?_
   · all_goals (simp_all)
   · refine⟨jU (rI Z9),?_⟩
     intro z hz
     have MM:=hn z.2 (by rw[hz];simp)
     have Va:gs.length=z.1.length+1:=by rw[hz];simp
     refine⟨Uf (Zq (V.own 3 · gr fr cr) (by rw[hz,Zf];rfl)),trivial,rfl,trivial,rfl,by(try simp only[Y2]at *);(try simp only[YT,Y2,YV,YY]);omega,by unfold Q;refine Zq iV ?_;simp,by(try simp only[Y2]at *);(try simp only[YT,Y2,YV,YY]);omega,⟨⟨_,Tryz.underlying210,by intro i h;cases h⟩,rfl,rfl⟩,?_⟩
     intro _
     refine bI (fun n6=>?_) fun n6=>?_
     intro g7
     refine⟨rfl,fD.trans (aI (by rw[Y0];exact aX) rfl),?_⟩
     intro gA oA cA
     refine⟨oB (aV (by rw[Y0];exact aX) (by rw[Y0];exact dw)),trivial,fD.trans (aI (by rw[Y0];exact aX) rfl),rfl,⟨rfl,rfl,fD.trans (aI (by rw[Y0];exact aX) rfl),rfl,rfl,by simp[aJ,V.n,V.ns],by(try simp only[Y2,YV,YY]);omega⟩,?_⟩
     intro MW
     refine⟨oB (aV (by rw[Y0];exact aX) (by rw[Y0];exact dw)),Zq (V.own 1 · MW.1 MW.2.1 MW.2.2) Z8,trivial,fD.trans (aI (by rw[Y0];exact aX) rfl),oB (aV (by rw[Y0];exact aX) (by rw[Y0];exact dw)),fD.trans (aI (by rw[Y0];exact aX) rfl),oB (aV (by rw[Y0];exact aX) (by rw[Y0];exact dw)),Uf (Zq (V.own 3 · gr fr cr) (by rw[Zf (f:=aR)];rfl)),?_⟩
     refine⟨?_,by rw[show lz gs b n=(z.1++[⟨z.2.na++[n],z.2.ru,z.2.wa⟩],b) from by rw[lz,if_neg (by rintro (h | h) <;> simp_all),hz,dW]]⟩
     unfold Q
     rfl
     · all_goals (first | exact absurd n6 Z6 | simp_all)
theorem Gn(gs:List k9)(b:Bool)(g:Nat)(l:Bool)(p:BL)(hg:gs.length<=1000)(hn:∀ y,y∈gs->y.na.length<=1000/\y.ru.length<=6):PF Tryz.prog 128 [.ptr (.key 1000) [] g 0,.lit (.iface 212 (.agg #[.bool l,.string (Str p)]))] [(1000,(g,eZ gs b))] (fun r h=>r=(.tup [])/\h=[(1000,(g,eZ ((jk gs b l p).1) ((jk gs b l p).2)))]):=by
 refine av (N:=112) (rs:=[]) Tryz.func128
  (.oR (.key 1000) [0] (fun gr fr cr=>.q 1<|.cu (U2 my) (fun _=>.q 3<|.al my (fun g4=>.st none<|.q 1<|.q 2<|.gf (.a8)<|.gf (.a8)<|.gf (.a8)<|.gf (.a8)<|.gf (.a8)<|.gf (bV false)<|.gf (bV false)<|.gf (.a8)<|.gf (.a8)<|.gf (.a8)<|.gf (bV false)<|.gf (bV false)<|.q 1<|.br (.nil) (.r 6 [.a8]<|.br (.nil) (.ex (List k9×k9) (fun z=>gs=z.1++[z.2]) (fun (z:List k9×k9)=>.h (.B0 1000 (.agg [.own 3 (z.1.map aR++[(iz z.2.na z.2.ru z.2.wa:V)]) gr fr cr,bV b]))<|.dx 10 [0,1,2,3,4,5,6,7,8,9] [(3,⟨false,[],some [1000],[55],[]⟩),(7,⟨false,[],some [1000],[59],[]⟩)] []<|.q 1<|.q 1<|.q 1<|.r 1 [.a8]<|.q 1<|.q 1<|.q 1<|.r 1 [.a8]<|.q 1<|.q 1<|.h (.o4 61 (iN z.1.length))<|.q 2<|.q 1<|.cu (U2 my) (fun _=>.q 2<|.br (.nil) (.cu (V2 (.agg [.agg [bV l,sV p]])) (fun _=>.q 2<|.br (.al CS (fun g8=>.st none<|.q 3<|.st none<|.QA (.key 1000) [0,0+z.1.length,1] gr (fr+(0+z.1.length)*3+1) 2 (z.2.ru.map au) (fun gA oA cA=>.h (.B0 1000 (dB (.own 3 (z.1.map aR++[(yf z.2.na z.2.ru gA oA cA z.2.wa:V)]) gr fr cr)))<|.r 6 [.own 2 (z.2.ru.map au) gA oA cA]<|.br (.dx 9 [0,1,2,3,4,5,6,7,8] [(4,⟨false,[],some [1000],[94],[]⟩),(6,⟨false,[],some [8],[96],[]⟩),(8,⟨true,[],none,[98],[1000]⟩)] []<|.q 1<|.q 1<|.q 1<|.q 1<|.r 1 [.own 2 (z.2.ru.map au) gA oA cA]<|.q 1<|.r 1 [.a8]<|.bs<|.eu (Wt 1000 [0,0+z.1.length,1] (z.2.ru.map au) ([.agg [bV l,sV p]]:List V) gr (fr+(0+z.1.length)*3+1) 2 gA oA cA) (fun MV=>.h (.B0 1000 (dB (.own 3 (z.1.map aR++[(.agg [.ow 1 (z.2.na.map sV),.a8,iN z.2.wa]:V)]) gr fr cr)))<|.h (.o4 98 (.own 2 ((z.2.ru++[(⟨l,p⟩:s6)]).map au) MV.1 MV.2.1 MV.2.2))<|.q 2<|.st (some (.a8))<|.h (.B0 1000 (dB (.own 3 (z.1.map aR++[(yf z.2.na (z.2.ru++[(⟨l,p⟩:s6)]) MV.1 MV.2.1 MV.2.2 z.2.wa:V)]) gr fr cr)))<|.h (.PV (.key 1000) [0,0+z.1.length,1] gr (fr+(0+z.1.length)*3+1) (.own 2 ((z.2.ru++[(⟨l,p⟩:s6)]).map au) MV.1 MV.2.1 MV.2.2) (.ow 2 ((z.2.ru++[(⟨l,p⟩:s6)]).map au)))<|.h (.B0 1000 (dB (.own 3 (z.1.map aR++[(iz z.2.na (z.2.ru++[(⟨l,p⟩:s6)]) z.2.wa:V)]) gr fr cr)))<|.h (.B0 1000 (.agg [.own 3 ((z.1++[(⟨z.2.na,z.2.ru++[⟨l,p⟩],z.2.wa⟩:k9)]).map aR) gr fr cr,bV true]))<|.nil)) (.h (.PV (.key 1000) [0,0+z.1.length,1] gr (fr+(0+z.1.length)*3+1) (.own 2 (z.2.ru.map au) gA oA cA) (.ow 2 (z.2.ru.map au)))<|.h (.B0 1000 (dB (.own 3 (z.1.map aR++[(iz z.2.na z.2.ru z.2.wa:V)]) gr fr cr)))<|.h (.B0 1000 (.agg [.own 3 ((z.1++[z.2]).map aR) gr fr cr,bV true]))<|.nil)))) (.nil)))))))))))
  ((fun v1:List V=>(fun v2:V=>(∀ gr fr cr:Nat,((∃ td,Tryz.prog.underlying 210=some td/\∀ i,td≠.interface i)/\((212:Nat)≠210)/\(∃ y,(.agg [sV []]:V).val? =some y/\∀ w,(zeroValue 210).run Tryz.prog w=.ok y w))/\∀ _:Unit,∀ g4:Nat,Z g4 0/\(false=false)/\(false=false)/\(false=false)/\(false=false)/\(false=false)/\(false=false)/\(false=false)/\(false=false)/\(false=false)/\(false=false)/\(false=false)/\(false=false)/\Pk false false true/\Br (false&&false) (False) (True/\Z g 0/\Br (o9 (((gs.map aR).length:Nat):Int) 0) (Q (.tup []) (.tup [])/\Qr g (eZ gs b) g v2) ((∃ z:List k9×k9,gs=z.1++[z.2])/\∀ z:List k9×k9,(gs=z.1++[z.2])->(fun v3:V=>(fun v4:V=>(fun v5:V=>(fun v6:V=>((.agg [.own 3 (gs.map aR) gr fr cr,bV b]:V)=.agg [.own 3 (z.1.map aR++[v3]) gr fr cr,bV b])/\True/\Z g 0/\True/\Z g 0/\m8 ((((z.1.map aR++[v3]).length:Nat):Int)-1)/\Q (iV ((((z.1.map aR++[v3]).length:Nat):Int)-1)) (iN z.1.length)/\In (z.1.length:Int) ((z.1.map aR++[v3]).length)/\((∃ td,Tryz.prog.underlying 210=some td/\∀ i,td≠.interface i)/\((212:Nat)≠210)/\(∃ y,(.agg [sV []]:V).val? =some y/\∀ w,(zeroValue 210).run Tryz.prog w=.ok y w))/\∀ _:Unit,Br false (False) (((∃ td,Tryz.prog.underlying 212=some td/\∀ i,td≠.interface i)/\((212:Nat)=212)/\((.agg #[.bool l,.string (Str p)]:Value)=.agg #[.bool l,.string (Str p)]))/\∀ _:Unit,Br true (∀ g8:Nat,Z g8 0/\True/\Z g 1/\(V.at g 0 (dB v5) [0,0+z.1.length,1]=some (gr,fr+(0+z.1.length)*3+1,.ow 2 (z.2.ru.map au)))/\∀ gA oA cA:Nat,(fun v7:V=>(V.set (dB v5) [0,0+z.1.length,1] (.own 2 (z.2.ru.map au) gA oA cA)=dB v7)/\True/\(V.at g 0 (dB v7) [0,0+z.1.length,1]=some (gr,(fr+(0+z.1.length)*3+1),.own 2 (z.2.ru.map au) gA oA cA))/\Br (r9 (((z.2.ru.map au).length:Nat):Int) 6) (True/\(V.at g 0 (dB v7) [0,0+z.1.length,1]=some (gr,(fr+(0+z.1.length)*3+1),.own 2 (z.2.ru.map au) gA oA cA))/\Z g8 0/\(v1=v1/\((.hd (.key 1000) [0,0+z.1.length,1] 2 gA oA 0 ((z.2.ru.map au).length) cA:V)=.hd (.key 1000) [0,0+z.1.length,1] 2 gA oA 0 ((z.2.ru.map au).length) cA)/\(V.at g 0 (dB v7) [0,0+z.1.length,1]=some (gr,fr+(0+z.1.length)*3+1,.own 2 (z.2.ru.map au) gA oA cA))/\((2:Nat)=2)/\(V.aE v1=false)/\(aJ 2 v1)/\(((z.2.ru.map au).length+v1.length)*24<=140737488355328))/\∀ MV:Nat×Nat×Nat,(fun v8:V=>(V.set (dB v7) [0,0+z.1.length,1] (.a8)=dB v4)/\((.own 2 ((z.2.ru.map au)++v1) MV.1 MV.2.1 MV.2.2:V)=.own 2 ((z.2.ru++[(⟨l,p⟩:s6)]).map au) MV.1 MV.2.1 MV.2.2)/\True/\(V.at g 0 (dB v4) [0,0+z.1.length,1]=some (gr,(fr+(0+z.1.length)*3+1),.a8))/\(V.set (dB v4) [0,0+z.1.length,1] (.own 2 ((z.2.ru++[(⟨l,p⟩:s6)]).map au) MV.1 MV.2.1 MV.2.2)=dB v8)/\(V.at g 0 (dB v8) [0,0+z.1.length,1]=some (gr,fr+(0+z.1.length)*3+1,.own 2 ((z.2.ru++[(⟨l,p⟩:s6)]).map au) MV.1 MV.2.1 MV.2.2))/\(V.set (dB v8) [0,0+z.1.length,1] (.ow 2 ((z.2.ru++[(⟨l,p⟩:s6)]).map au))=dB v6)/\((dB v6:V)=.agg [.own 3 ((z.1++[(⟨z.2.na,z.2.ru++[⟨l,p⟩],z.2.wa⟩:k9)]).map aR) gr fr cr,bV true])/\Q (.tup []) (.tup [])/\Qr g (.agg [.ow 3 ((z.1++[(⟨z.2.na,z.2.ru++[⟨l,p⟩],z.2.wa⟩:k9)]).map aR),bV true]) g v2) (.own 3 (z.1.map aR++[(yf z.2.na (z.2.ru++[(⟨l,p⟩:s6)]) MV.1 MV.2.1 MV.2.2 z.2.wa:V)]) gr fr cr)) ((V.at g 0 (dB v7) [0,0+z.1.length,1]=some (gr,fr+(0+z.1.length)*3+1,.own 2 (z.2.ru.map au) gA oA cA))/\(V.set (dB v7) [0,0+z.1.length,1] (.ow 2 (z.2.ru.map au))=dB v5)/\((dB v5:V)=.agg [.own 3 ((z.1++[z.2]).map aR) gr fr cr,bV true])/\Q (.tup []) (.tup [])/\Qr g (.agg [.ow 3 ((z.1++[z.2]).map aR),bV true]) g v2)) (.own 3 (z.1.map aR++[(yf z.2.na z.2.ru gA oA cA z.2.wa:V)]) gr fr cr)) (False))) (.own 3 (z.1.map aR++[(iz z.2.na (z.2.ru++[(⟨l,p⟩:s6)]) z.2.wa:V)]) gr fr cr)) (.own 3 (z.1.map aR++[v3]) gr fr cr)) (.own 3 (z.1.map aR++[(.agg [.ow 1 (z.2.na.map sV),.a8,iN z.2.wa]:V)]) gr fr cr)) (iz z.2.na z.2.ru z.2.wa:V))))) (eZ ((jk gs b l p).1) ((jk gs b l p).2))) ([.agg [bV l,sV p]]:List V)) ?_
 intro gr fr cr
 refine⟨⟨⟨_,Tryz.underlying210,by intro i h;cases h⟩,Z6,_,rfl,Tryz.zeroValue210⟩,?_⟩
 intro _
 intro g4
 refine⟨rfl,rfl,rfl,rfl,rfl,rfl,rfl,rfl,rfl,rfl,rfl,rfl,rfl,⟨fun h=>by rw[h] <;> rfl,fun _=>rfl⟩,?_⟩
 refine bI (fun j7=>?_) fun j7=>?_
 · all_goals (first | exact absurd j7 Z6 | simp_all)
 · refine⟨trivial,rfl,?_⟩
   refine bI (fun l6=>?_) fun l6=>?_
   refine⟨?_,by rw[show jk gs b l p=(gs,b) from if_pos (Y9 Z9)]⟩
   unfold Q
   rfl
   · refine⟨jU (rI Z9),?_⟩
     intro z hz
     have MM:=hn z.2 (by rw[hz];simp)
     have Va:gs.length=z.1.length+1:=by rw[hz];simp
     refine⟨Uf (Zq (V.own 3 · gr fr cr) (by rw[hz,Zf];rfl)),trivial,rfl,trivial,rfl,by(try simp only[Y2]at *);(try simp only[YT,Y2,YV,YY]);omega,by unfold Q;refine Zq iV ?_;simp,by(try simp only[Y2]at *);(try simp only[YT,Y2,YV,YY]);omega,⟨⟨_,Tryz.underlying210,by intro i h;cases h⟩,Z6,_,rfl,Tryz.zeroValue210⟩,?_⟩
     intro _
     refine bI (fun n6=>?_) fun n6=>?_
     · all_goals (first | exact absurd n6 Z6 | simp_all)
     · refine⟨⟨⟨_,Tryz.underlying212,by intro i h;cases h⟩,rfl,rfl⟩,?_⟩
       intro _
       refine bI (fun w6=>?_) fun w6=>?_
       intro g8
       refine⟨rfl,trivial,rfl,fD.trans (aI (by rw[Y0];exact aX) rfl),?_⟩
       intro gA oA cA
       refine⟨oB (aV (by rw[Y0];exact aX) (by rw[Y0];exact dw)),trivial,fD.trans (aI (by rw[Y0];exact aX) rfl),?_⟩
       refine bI (fun G8=>?_) fun G8=>?_
       refine⟨trivial,fD.trans (aI (by rw[Y0];exact aX) rfl),rfl,⟨rfl,rfl,fD.trans (aI (by rw[Y0];exact aX) rfl),rfl,rfl,by simp[aJ,V.n,V.ns],by(try simp only[Y2,YV,YY]);omega⟩,?_⟩
       intro MV
       refine⟨oB (aV (by rw[Y0];exact aX) (by rw[Y0];exact dw)),Zq (V.own 2 · MV.1 MV.2.1 MV.2.2) Z8,trivial,fD.trans (aI (by rw[Y0];exact aX) rfl),oB (aV (by rw[Y0];exact aX) (by rw[Y0];exact dw)),fD.trans (aI (by rw[Y0];exact aX) rfl),oB (aV (by rw[Y0];exact aX) (by rw[Y0];exact dw)),Uf (Zq (V.own 3 · gr fr cr) (by rw[Zf (f:=aR)];rfl)),?_⟩
       refine⟨?_,by rw[show jk gs b l p=(z.1++[⟨z.2.na,z.2.ru++[⟨l,p⟩],z.2.wa⟩],true) from by rw[jk,if_neg (by rintro h;simp_all),if_pos (by rw[hz,mB];omega),hz,dW]]⟩
       unfold Q
       rfl
       refine⟨fD.trans (aI (by rw[Y0];exact aX) rfl),oB (aV (by rw[Y0];exact aX) (by rw[Y0];exact dw)),Uf (Zq (V.own 3 · gr fr cr) (by rw[Zf (f:=aR)];rfl)),?_⟩
       refine⟨?_,by rw[show jk gs b l p=(z.1++[z.2],true) from by rw[jk,if_neg (by rintro h;simp_all),if_neg (by rw[hz,mB];omega),hz]]⟩
       unfold Q
       rfl
       · all_goals (first | exact absurd w6 Z6 | simp_all)
theorem Gm(gs:List k9)(b:Bool)(g:Nat)(v:Nat)(hg:gs.length<=1000)(hn:∀ y,y∈gs->y.na.length<=1000/\y.ru.length<=6):PF Tryz.prog 128 [.ptr (.key 1000) [] g 0,.lit (.iface 215 (.agg #[.int .i64 (v:Int)]))] [(1000,(g,eZ gs b))] (fun r h=>r=(.tup [])/\h=[(1000,(g,eZ ((lx gs b v).1) ((lx gs b v).2)))]):=by
 refine av (N:=112) (rs:=[]) Tryz.func128
  (.oR (.key 1000) [0] (fun gr fr cr=>.q 1<|.cu (U2 my) (fun _=>.q 3<|.al my (fun g4=>.st none<|.q 1<|.q 2<|.gf (.a8)<|.gf (.a8)<|.gf (.a8)<|.gf (.a8)<|.gf (.a8)<|.gf (bV false)<|.gf (bV false)<|.gf (.a8)<|.gf (.a8)<|.gf (.a8)<|.gf (bV false)<|.gf (bV false)<|.q 1<|.br (.nil) (.r 6 [.a8]<|.br (.nil) (.ex (List k9×k9) (fun z=>gs=z.1++[z.2]) (fun (z:List k9×k9)=>.h (.B0 1000 (.agg [.own 3 (z.1.map aR++[(iz z.2.na z.2.ru z.2.wa:V)]) gr fr cr,bV b]))<|.dx 10 [0,1,2,3,4,5,6,7,8,9] [(3,⟨false,[],some [1000],[55],[]⟩),(7,⟨false,[],some [1000],[59],[]⟩)] []<|.q 1<|.q 1<|.q 1<|.r 1 [.a8]<|.q 1<|.q 1<|.q 1<|.r 1 [.a8]<|.q 1<|.q 1<|.h (.o4 61 (iN z.1.length))<|.q 2<|.q 1<|.cu (U2 my) (fun _=>.q 2<|.br (.nil) (.cu (U2 CS) (fun _=>.q 2<|.br (.nil) (.cu (V2 (.agg [iN v])) (fun _=>.q 2<|.br (.al Hy (fun g9=>.st none<|.q 3<|.st none<|.r 5 [.a8]<|.st (some (iN z.2.wa))<|.h (.B0 1000 (dB (.own 3 (z.1.map aR++[(iz z.2.na z.2.ru v:V)]) gr fr cr)))<|.h (.B0 1000 (.agg [.own 3 ((z.1++[(⟨z.2.na,z.2.ru,v⟩:k9)]).map aR) gr fr cr,bV true]))<|.nil)) (.nil)))))))))))))
  ((fun v1:V=>(∀ gr fr cr:Nat,((∃ td,Tryz.prog.underlying 210=some td/\∀ i,td≠.interface i)/\((215:Nat)≠210)/\(∃ y,(.agg [sV []]:V).val? =some y/\∀ w,(zeroValue 210).run Tryz.prog w=.ok y w))/\∀ _:Unit,∀ g4:Nat,Z g4 0/\(false=false)/\(false=false)/\(false=false)/\(false=false)/\(false=false)/\(false=false)/\(false=false)/\(false=false)/\(false=false)/\(false=false)/\(false=false)/\(false=false)/\Pk false false true/\Br (false&&false) (False) (True/\Z g 0/\Br (o9 (((gs.map aR).length:Nat):Int) 0) (Q (.tup []) (.tup [])/\Qr g (eZ gs b) g v1) ((∃ z:List k9×k9,gs=z.1++[z.2])/\∀ z:List k9×k9,(gs=z.1++[z.2])->(fun v2:V=>(fun v3:V=>((.agg [.own 3 (gs.map aR) gr fr cr,bV b]:V)=.agg [.own 3 (z.1.map aR++[v2]) gr fr cr,bV b])/\True/\Z g 0/\True/\Z g 0/\m8 ((((z.1.map aR++[v2]).length:Nat):Int)-1)/\Q (iV ((((z.1.map aR++[v2]).length:Nat):Int)-1)) (iN z.1.length)/\In (z.1.length:Int) ((z.1.map aR++[v2]).length)/\((∃ td,Tryz.prog.underlying 210=some td/\∀ i,td≠.interface i)/\((215:Nat)≠210)/\(∃ y,(.agg [sV []]:V).val? =some y/\∀ w,(zeroValue 210).run Tryz.prog w=.ok y w))/\∀ _:Unit,Br false (False) (((∃ td,Tryz.prog.underlying 212=some td/\∀ i,td≠.interface i)/\((215:Nat)≠212)/\(∃ y,(.agg [.agg [bV false,sV []]]:V).val? =some y/\∀ w,(zeroValue 212).run Tryz.prog w=.ok y w))/\∀ _:Unit,Br false (False) (((∃ td,Tryz.prog.underlying 215=some td/\∀ i,td≠.interface i)/\((215:Nat)=215)/\((.agg #[.int .i64 (v:Int)]:Value)=.agg #[.int .i64 (v:Int)]))/\∀ _:Unit,Br true (∀ g9:Nat,Z g9 0/\True/\Z g 1/\Z g9 0/\True/\(V.at g 0 (dB (.own 3 (z.1.map aR++[v2]) gr fr cr)) [0,0+z.1.length,2]=some (gr,(fr+(0+z.1.length)*3+2),iN z.2.wa))/\(V.set (dB (.own 3 (z.1.map aR++[v2]) gr fr cr)) [0,0+z.1.length,2] (iN v)=dB v3)/\((dB v3:V)=.agg [.own 3 ((z.1++[(⟨z.2.na,z.2.ru,v⟩:k9)]).map aR) gr fr cr,bV true])/\Q (.tup []) (.tup [])/\Qr g (.agg [.ow 3 ((z.1++[(⟨z.2.na,z.2.ru,v⟩:k9)]).map aR),bV true]) g v1) (Q (.tup []) (.tup [])/\Qr g (.agg [.ow 3 (z.1.map aR++[v2]),bV b]) g v1)))) (.own 3 (z.1.map aR++[(iz z.2.na z.2.ru v:V)]) gr fr cr)) (iz z.2.na z.2.ru z.2.wa:V))))) (eZ ((lx gs b v).1) ((lx gs b v).2))) ?_
 intro gr fr cr
 refine⟨⟨⟨_,Tryz.underlying210,by intro i h;cases h⟩,Z6,_,rfl,Tryz.zeroValue210⟩,?_⟩
 intro _
 intro g4
 refine⟨rfl,rfl,rfl,rfl,rfl,rfl,rfl,rfl,rfl,rfl,rfl,rfl,rfl,⟨fun h=>by rw[h] <;> rfl,fun _=>rfl⟩,?_⟩
 refine bI (fun j7=>?_) fun j7=>?_
 · all_goals (first | exact absurd j7 Z6 | simp_all)
 · refine⟨trivial,rfl,?_⟩
   refine bI (fun l6=>?_) fun l6=>?_
   refine⟨?_,by rw[show lx gs b v=(gs,b) from if_pos (Y9 Z9)]⟩
   unfold Q
   rfl
   · refine⟨jU (rI Z9),?_⟩
     intro z hz
     have MM:=hn z.2 (by rw[hz];simp)
     have Va:gs.length=z.1.length+1:=by rw[hz];simp
     refine⟨Uf (Zq (V.own 3 · gr fr cr) (by rw[hz,Zf];rfl)),trivial,rfl,trivial,rfl,by(try simp only[Y2]at *);(try simp only[YT,Y2,YV,YY]);omega,by unfold Q;refine Zq iV ?_;simp,by(try simp only[Y2]at *);(try simp only[YT,Y2,YV,YY]);omega,⟨⟨_,Tryz.underlying210,by intro i h;cases h⟩,Z6,_,rfl,Tryz.zeroValue210⟩,?_⟩
     intro _
     refine bI (fun n6=>?_) fun n6=>?_
     · all_goals (first | exact absurd n6 Z6 | simp_all)
     · refine⟨⟨⟨_,Tryz.underlying212,by intro i h;cases h⟩,Z6,_,rfl,Tryz.zeroValue212⟩,?_⟩
       intro _
       refine bI (fun w6=>?_) fun w6=>?_
       · all_goals (first | exact absurd w6 Z6 | simp_all)
       · refine⟨⟨⟨_,Tryz.underlying215,by intro i h;cases h⟩,rfl,rfl⟩,?_⟩
         intro _
         refine bI (fun G8=>?_) fun G8=>?_
         intro g9
         refine⟨rfl,trivial,rfl,rfl,trivial,fD.trans (aI (by rw[Y0];exact aX) rfl),oB (aV (by rw[Y0];exact aX) (by rw[Y0];exact dw)),Uf (Zq (V.own 3 · gr fr cr) (by rw[Zf (f:=aR)];rfl)),?_⟩
         refine⟨?_,by rw[show lx gs b v=(z.1++[⟨z.2.na,z.2.ru,v⟩],true) from by rw[lx,if_neg (by rintro h;simp_all),hz,dW]]⟩
         unfold Q
         rfl
         · all_goals (first | exact absurd G8 Z6 | simp_all)
def CJ(c:UInt8):Bool:=decide (48<=c.toNat/\c.toNat<=57)
theorem AU(s:BL):s.all (fun c=>decide (48<=c.toNat/\c.toNat<=57))=s.all CJ:=rfl
abbrev ie(s:BL)(i:Nat)(q:Int):Prop:=i<=s.length/\q=((s.take i).foldl (jq 20) 0)/\(0<=q/\q<=20)/\∀ j,j<i->CJ (s.getD j 0)=true
def ui(s:BL):o6 Tryz.prog:=.mk 158 [sV s] [] (s.length<=1000000) (iV (iO s 20)) [] (by
 intro hs
 refine av (N:=31) (rs:=[.tmp 2]) Tryz.func158
  (.q 1<|.q 1<|.q 1<|.loop (Nat×Int) (fun (i,q)=>⟨[(0,sV s),(3,iV q),(4,iN i)],[]⟩) (fun (i,q)=>ie s i q) (fun (i,q)=>s.length-i) (fun (i,q)=>.q 4<|.br (.q 10<|.br (.q 1<|.nil) (.q 8<|.mm<|.q 1<|.q 3<|.nil)) (.q 2<|.nil)))
  ((∃ x:Nat×Int,match x with | (j6,z7)=>(ie s j6 z7)/\E (sV s)/\Q (iN 0) (iV z7)/\Q (iN 0) (iN j6)/\True)/\∀ x:Nat×Int,match x with | (i,q)=>(ie s i q)->(fun v1:Int=>Br (r9 (i:Int) (s.length:Int)) (Ix (i:Int) s/\Gd ((r9 v1 48)==false) (Ix (i:Int) s)/\Pk (r9 v1 48) true ((r9 v1 48)==false)/\Br ((r9 v1 48)||(s9 v1 57)) (Q (iN 0) (iV (iO s 20))) (m8 (q*10)/\Ix (i:Int) s/\Px (v1-48)/\m8 (v1-48)/\m8 ((q*10)+(v1-48))/\(IntKind.i64=IntKind.i64)/\m8 ((i:Int)+1)/\∃ x:Nat×Int,match x with | (b7,n9)=>(ie s b7 n9)/\(s.length-b7<s.length-i)/\E (sV s)/\Q (iV (min ((q*10)+(v1-48)) 20)) (iV n9)/\Q (iN (i+1)) (iN b7)/\True)) (Q (iV q) (iV (iO s 20)))) (((s.getD i 0).toNat:Nat):Int)) ?_
 refine⟨⟨(0,0),?_,rfl,Z4,rfl,trivial⟩,?_⟩
 unfold ie
 simp
 rintro⟨i,q⟩ ⟨h1,h2,h3,h4⟩
 have hci:=(s.getD i 0).toNat_lt
 refine bI (fun j7=>?_) fun j7=>?_
 refine⟨Z9,fun hG=>by(try simp only[nb]at hG);omega,⟨fun _=>rfl,fun h=>by rw[h] <;> rfl⟩,?_⟩
 refine bI (fun l6=>?_) fun l6=>?_
 unfold Q
 rw[show iO s 20=0 from if_neg (by rw[AU,all_false (i:=i) (d:=0) Z9 (by unfold CJ;rw[decide_eq_false_iff_not];omega)];decide)]
 rfl
 refine⟨Z9,Z9,by have:=Zh (s.getD i 0);omega,by have:=Zh (s.getD i 0);omega,by have:=Zh (s.getD i 0);omega,rfl,Z9,?_⟩
 refine⟨(i+1,min ((q*10)+((((s.getD i 0).toNat:Nat):Int)-48)) 20),?_,?_,rfl,rfl,rfl,trivial⟩
 unfold ie
 refine⟨Z9,?_,Z9,bS h4 (by unfold CJ;rw[Zo];omega)⟩
 rw[foldl_succ (d:=0) Z9,<- h2,jq]
 exact Z1
 unfold Q
 rw[show iO s 20=s.foldl (jq 20) 0 from if_pos (by rw[AU];exact all_true (d:=0) (fun j hj=>h4 j Z9)),h2,Y3 Z9])
abbrev fu(t:BL):V:=.tup [.lit (CE (ft (ae 32 t).1 (ae 32 t).2.1)),bV (gT (ae 32 t).1 (ae 32 t).2.1)]
def vd(t:BL):o6 Tryz.prog:=.mk 127 [sV t] [] (t.length<=1000000) (fu t) [] (by
 intro ht
 have Ni:=lN 32 t
 refine av (N:=38) (rs:=[.tmp 2,.tmp 3]) Tryz.func127
  (.q 2<|.q 1<|.c (oe t 32) []<|.q 7<|.q 1<|.q 2<|.br (.q 1<|.bd my<|.cu WH (fun _=>.q 1<|.c (qy ((ae 32 t).2.1)) []<|.q 2<|.nil)) (.q 2<|.join (Bool) (fun c=>⟨[(0,sV t),(2,.lit .nilIface),(3,bV false),(8,sV t),(9,.tup [sV ((ae 32 t).1),sV ((ae 32 t).2.1),bV ((ae 32 t).2.2)]),(7,.tup [sV ((ae 32 t).1),sV ((ae 32 t).2.1),bV ((ae 32 t).2.2)]),(10,sV ((ae 32 t).1)),(11,sV ((ae 32 t).2.1)),(12,bV ((ae 32 t).2.2)),(4,sV ((ae 32 t).1)),(5,sV ((ae 32 t).2.1)),(6,bV ((ae 32 t).2.2)),(13,sV ((ae 32 t).1)),(15,bV (((ae 32 t).1)==([99,97,108,108,101,114]:BL))),(14,bV (((ae 32 t).1)==([99,97,108,108,101,114]:BL))),(22,bV (((ae 32 t).1)==([108,101,116]:BL))),(21,bV c)],[]⟩) (fun c=>c=decide ((ae 32 t).1=[108,101,116]\/(ae 32 t).1=[98,97,114])) (.nil) (.q 2<|.nil) (fun c=>.br (.q 3<|.bd uB<|.bd CS<|.cu WH (fun _=>.q 1<|.c (jI ((ae 32 t).2.1)) []<|.q 2<|.nil)) (.q 2<|.br (.q 1<|.c (ui ((ae 32 t).2.1)) []<|.bd Hy<|.cu WH (fun _=>.q 2<|.nil)) (.q 2<|.nil)))))
  ((fun v1:V=>(fun v2:BL=>(fun v3:BL=>(fun v4:V=>(fun v5:V=>((oe t 32).sm/\((t.length<=1000000))/\Br (((ae 32 t).1)==v3) (((∃ td,Tryz.prog.underlying 210=some td/\∀ i,td≠.interface i)/\(Value.iface 210 (.agg #[.string (Str ((ae 32 t).2.1))])).oneCell'=true)/\∀ _:Unit,(qy ((ae 32 t).2.1)).sm/\((((ae 32 t).2.1).length<=4611686018427387904))/\Q (.tup [.lit (.iface 210 (.agg #[.string (Str ((ae 32 t).2.1))])),bV ((((ae 32 t).2.1)==[42])||bn ((ae 32 t).2.1))]) (fu t)) (((((ae 32 t).1)==v2)=true->∃ c:Bool,(c=decide ((ae 32 t).1=[108,101,116]\/(ae 32 t).1=[98,97,114]))/\E (sV t)/\E (.lit .nilIface)/\E (bV false)/\E (sV t)/\E v1/\E v1/\E v4/\E v5/\E (bV ((ae 32 t).2.2))/\E v4/\E v5/\E (bV ((ae 32 t).2.2))/\E v4/\E (bV (((ae 32 t).1)==v3))/\E (bV (((ae 32 t).1)==v3))/\E (bV (((ae 32 t).1)==v2))/\Q (bV (((ae 32 t).1)==v2)) (bV c)/\True)/\((((ae 32 t).1)==v2)=false->∃ c:Bool,(c=decide ((ae 32 t).1=[108,101,116]\/(ae 32 t).1=[98,97,114]))/\E (sV t)/\E (.lit .nilIface)/\E (bV false)/\E (sV t)/\E v1/\E v1/\E v4/\E v5/\E (bV ((ae 32 t).2.2))/\E v4/\E v5/\E (bV ((ae 32 t).2.2))/\E v4/\E (bV (((ae 32 t).1)==v3))/\E (bV (((ae 32 t).1)==v3))/\E (bV (((ae 32 t).1)==v2))/\Q (bV (((ae 32 t).1)==([98,97,114]:BL))) (bV c)/\True)/\(∀ c:Bool,(c=decide ((ae 32 t).1=[108,101,116]\/(ae 32 t).1=[98,97,114]))->Br c (((∃ td,Tryz.prog.underlying 212=some td/\∀ i,td≠.interface i)/\(Value.iface 212 (.agg #[.bool (((ae 32 t).1)==v2),.string (Str ((ae 32 t).2.1))])).oneCell'=true)/\∀ _:Unit,(jI ((ae 32 t).2.1)).sm/\((((ae 32 t).2.1).length<=4611686018427387904))/\Q (.tup [.lit (.iface 212 (.agg #[.bool (((ae 32 t).1)==v2),.string (Str ((ae 32 t).2.1))])),bV (dJ ((ae 32 t).2.1))]) (fu t)) (Br (((ae 32 t).1)==([119,97,105,116]:BL)) ((ui ((ae 32 t).2.1)).sm/\((((ae 32 t).2.1).length<=1000000))/\((∃ td,Tryz.prog.underlying 215=some td/\∀ i,td≠.interface i)/\(Value.iface 215 (.agg #[.int .i64 (iO ((ae 32 t).2.1) 20)])).oneCell'=true)/\∀ _:Unit,Q (.tup [.lit (.iface 215 (.agg #[.int .i64 (iO ((ae 32 t).2.1) 20)])),bV true]) (fu t)) (Q (.tup [.lit .nilIface,bV false]) (fu t))))))) (sV ((ae 32 t).2.1))) (sV ((ae 32 t).1))) ([99,97,108,108,101,114]:BL)) ([108,101,116]:BL)) (.tup [sV ((ae 32 t).1),sV ((ae 32 t).2.1),bV ((ae 32 t).2.2)])) ?_
 refine⟨rfl,Z9,?_⟩
 refine bI (fun j7=>?_) fun j7=>?_
 refine⟨⟨⟨_,Tryz.underlying210,by intro i h;cases h⟩,rfl⟩,?_⟩
 intro _
 refine⟨rfl,Z9,?_⟩
 unfold Q fu
 rw[show ft (ae 32 t).1 (ae 32 t).2.1=.caller (ae 32 t).2.1 from if_pos j7,show gT (ae 32 t).1 (ae 32 t).2.1=_ from if_pos j7]
 rfl
 · refine⟨fun l6=>?_,fun l6=>?_,fun c hc=>?_⟩
   · try simp only[nb]at l6
     exact⟨((ae 32 t).1)==([108,101,116]:BL),by first | (rw[Za];simp_all;done) | grind,rfl,rfl,rfl,rfl,rfl,rfl,rfl,rfl,rfl,rfl,rfl,rfl,rfl,rfl,rfl,rfl,rfl,trivial⟩
   · try simp only[nb]at l6
     exact⟨((ae 32 t).1)==([98,97,114]:BL),by first | (rw[Za];simp_all;done) | grind,rfl,rfl,rfl,rfl,rfl,rfl,rfl,rfl,rfl,rfl,rfl,rfl,rfl,rfl,rfl,rfl,rfl,trivial⟩
   refine bI (fun n6=>?_) fun n6=>?_
   refine⟨⟨⟨_,Tryz.underlying212,by intro i h;cases h⟩,rfl⟩,?_⟩
   intro _
   refine⟨rfl,Z9,?_⟩
   unfold Q fu
   have h2:(ae 32 t).1=[108,101,116]\/(ae 32 t).1=[98,97,114]:=by grind
   rw[show ft (ae 32 t).1 (ae 32 t).2.1=.PD ((ae 32 t).1==[108,101,116]) (ae 32 t).2.1 from by rw[ft,if_neg j7,if_pos h2],show gT (ae 32 t).1 (ae 32 t).2.1=aN (ae 32 t).2.1 from by rw[gT,if_neg j7,if_pos h2],oY]
   rfl
   refine bI (fun w6=>?_) fun w6=>?_
   refine⟨rfl,Z9,⟨⟨_,Tryz.underlying215,by intro i h;cases h⟩,rfl⟩,?_⟩
   intro _
   unfold Q fu
   have h2: ¬ ((ae 32 t).1=[108,101,116]\/(ae 32 t).1=[98,97,114]):=by grind
   rw[show ft (ae 32 t).1 (ae 32 t).2.1=.wait (iO (ae 32 t).2.1 20).toNat from by rw[ft,if_neg j7,if_neg h2,if_pos w6],show gT (ae 32 t).1 (ae 32 t).2.1=true from by rw[gT,if_neg j7,if_neg h2,if_pos w6]]
   show V.tup [.lit (.iface 215 (.agg #[.int .i64 (iO (ae 32 t).2.1 20)])),_]=V.tup [.lit (.iface 215 (.agg #[.int .i64 (((iO (ae 32 t).2.1 20).toNat:Nat):Int)])),_]
   rw[Int.toNat_of_nonneg (JE Z9)]
   unfold Q fu
   have h2: ¬ ((ae 32 t).1=[108,101,116]\/(ae 32 t).1=[98,97,114]):=by grind
   rw[show ft (ae 32 t).1 (ae 32 t).2.1=.none from by rw[ft,if_neg j7,if_neg h2,if_neg w6],show gT (ae 32 t).1 (ae 32 t).2.1=false from by rw[gT,if_neg j7,if_neg h2,if_neg w6]]
   rfl)
theorem Jr{w r:BL}(h:gT w r=true):ft w r≠.none:=by
 unfold gT at h
 unfold ft
 split at h
 rename_i h1;rw[if_pos h1];intro c;cases c
 rename_i h1
 rw[if_neg h1]
 split at h
 rename_i h2;rw[if_pos h2];intro c;cases c
 rename_i h2
 rw[if_neg h2]
 split at h
 rename_i h3;rw[if_pos h3];intro c;cases c
 cases h
theorem GX(gs:List k9)(b:Bool)(g:Nat)(l:Ln)(hg:gs.length<=1000)(hn:∀ y,y∈gs->y.na.length<=1000/\y.ru.length<=6)(hl:l≠.none):
 PF Tryz.prog 128 [.ptr (.key 1000) [] g 0,.lit (CE l)] [(1000,(g,.agg [.ow 3 (gs.map aR),bV b]))] (fun r h=>r=.tup []/\h=[(1000,(g,.agg [.ow 3 ((fU gs b l).1.map aR),bV (fU gs b l).2]))]):=by
 cases l with
 | none=>exact absurd rfl hl
 | caller n=>exact He gs b g n hg hn
 | PD q p=>exact Gn gs b g q p hg hn
 | wait v=>exact Gm gs b g v hg hn
def BP(gs:List k9)(b:Bool)(g:Nat)(l:Ln):o6 Tryz.prog:={ f:=128,args:=[.ptr (.key 1000) [] g 0,.lit (CE l)],H:=[(1000,(g,eZ gs b))],pre:=(gs.length<=1000)/\(∀ y,y∈gs->y.na.length<=1000/\y.ru.length<=6)/\(l≠.none),res:=.tup [],H':=[(1000,(g,.agg [.ow 3 ((fU gs b l).1.map aR),bV (fU gs b l).2]))],ok:=fun h=>GX gs b g l h.1 h.2.1 h.2.2 }
theorem GQ{n:Nat}{gs:List k9}{b:Bool}(h:K0 n gs)(l:BL):K0 (n+1) (mE (gs,b) l).1:=by
 unfold mE
 split
 have hl:∀ z,gs.getLast? =some z->z.na.length<=n/\z.ru.length<=6:=fun z hz=>h.each z (List.mem_of_getLast? hz)
 cases ft (ae 32 l).1 (ae 32 l).2.1 with
 | none=>exact h.mono Z9
 | caller q=>
   simp only[fU,lz]
   split
   refine⟨by have:=h.len;simp;omega,fun y hy=>?_⟩
   rcases Y1.1 hy with hy | hy
   have:=h.each y hy;exact⟨Z9,this.2⟩
   rw[YZ.1 hy];simp
   exact h.set fun z hz=>⟨by have:=hl z hz;simp;omega,(hl z hz).2⟩
 | PD q p=>
   simp only[fU,jk]
   split
   exact h.mono Z9
   split
   rename_i h6
   refine h.set fun z hz=>⟨by have:=hl z hz;simp only;omega,?_⟩
   unfold ia at h6
   rw[hz]at h6
   simp only at h6
   simp only[YT,YV,YY];omega
   exact h.mono Z9
 | wait v=>
   simp only[fU,lx]
   split
   exact h.mono Z9
   exact h.set fun z hz=>⟨by have:=hl z hz;simp only;omega,(hl z hz).2⟩
 exact h.mono Z9
abbrev ew(t:BL)(i:Nat)(gs:List k9)(b:Bool):Prop:=i<=(ah 10 t).length/\i<=40/\K0 i gs/\((ah 10 t).take i).foldl mE ([],false)=(gs,b)
def qB(t:BL):o6 Tryz.prog:=.mk 89 [sV t] [] (t.length<=1000000) (.ow 3 ((cq t).map aR)) [] (by
 intro ht
 refine av (N:=29) (rs:=[.tmp 2]) Tryz.func89
  (.q 1<|.al Me (fun g3=>.q 1<|.c (qd t 10) []<|.q 2<|.h (.y7 (.key 3) [0] 3)<|.loop (Nat×(List k9)×Bool) (fun (i,gs,b)=>⟨[(0,sV t),(3,.ptr (.key 3) [] g3 0),(9,.sl true ((ah 10 t).map sV)),(10,iN ((ah 10 t).length)),(11,iN i)],[(3,(g3,eZ gs b))]⟩) (fun (i,gs,b)=>ew t i gs b) (fun (i,gs,b)=>(ah 10 t).length-i) (fun (i,gs,b)=>.q 1<|.br (.r 5 [sV ((ah 10 t).getD i [])]<|.q 2<|.br (.q 1<|.mv<|.q 1<|.nil) (.q 1<|.c (vd ((ah 10 t).getD i [])) []<|.q 5<|.q 1<|.br (.q 1<|.c (BP gs b g3 (ft (ae 32 ((ah 10 t).getD i [])).1 (ae 32 ((ah 10 t).getD i [])).2.1)) [(1000,3)]<|.q 2<|.nil) (.q 2<|.nil))) (.q 1<|.mv<|.q 1<|.nil))))
  ((fun v1:V=>(∀ g3:Nat,(qd t 10).sm/\((t.length<=1000000))/\(∃ x:Nat×(List k9)×Bool,match x with | (j6,S8,M7)=>(ew t j6 S8 M7)/\E (sV t)/\E (.ptr (.key 3) [] g3 0)/\E v1/\Q (iN (((ah 10 t).map sV).length)) (iN ((ah 10 t).length))/\Q (iN 0) (iN j6)/\Qr g3 (.agg [.ow 3 ([].map aR),bV false]) g3 (eZ S8 M7)/\True)/\∀ x:Nat×(List k9)×Bool,match x with | (i,gs,b)=>(ew t i gs b)->Br (r9 (i:Int) (((ah 10 t).length:Nat):Int)) (Ex (i:Int) ((ah 10 t).map sV) (sV ((ah 10 t).getD i []))/\True/\Br (o9 (i:Int) 40) (Z g3 0/\Q (.ow 3 (gs.map aR)) (.ow 3 ((cq t).map aR))) ((vd ((ah 10 t).getD i [])).sm/\((((ah 10 t).getD i []).length<=1000000))/\Br (gT (ae 32 ((ah 10 t).getD i [])).1 (ae 32 ((ah 10 t).getD i [])).2.1) ((BP gs b g3 (ft (ae 32 ((ah 10 t).getD i [])).1 (ae 32 ((ah 10 t).getD i [])).2.1)).sm/\Er g3 (eZ gs b)/\((gs.length<=1000)/\(∀ y,y∈gs->y.na.length<=1000/\y.ru.length<=6)/\((ft (ae 32 ((ah 10 t).getD i [])).1 (ae 32 ((ah 10 t).getD i [])).2.1)≠.none))/\m8 ((i:Int)+1)/\∃ x:Nat×(List k9)×Bool,match x with | (b7,Po,B3)=>(ew t b7 Po B3)/\((ah 10 t).length-b7<(ah 10 t).length-i)/\E (sV t)/\E (.ptr (.key 3) [] g3 0)/\E v1/\E (iN ((ah 10 t).length))/\Q (iN (i+1)) (iN b7)/\Qr g3 (eZ ((fU gs b (ft (ae 32 ((ah 10 t).getD i [])).1 (ae 32 ((ah 10 t).getD i [])).2.1)).1) ((fU gs b (ft (ae 32 ((ah 10 t).getD i [])).1 (ae 32 ((ah 10 t).getD i [])).2.1)).2)) g3 (eZ Po B3)/\True) (m8 ((i:Int)+1)/\∃ x:Nat×(List k9)×Bool,match x with | (b7,Po,B3)=>(ew t b7 Po B3)/\((ah 10 t).length-b7<(ah 10 t).length-i)/\E (sV t)/\E (.ptr (.key 3) [] g3 0)/\E v1/\E (iN ((ah 10 t).length))/\Q (iN (i+1)) (iN b7)/\Qr g3 (eZ gs b) g3 (eZ Po B3)/\True))) (Z g3 0/\Q (.ow 3 (gs.map aR)) (.ow 3 ((cq t).map aR))))) (.sl true ((ah 10 t).map sV))) ?_
 intro g3
 refine⟨rfl,Z9,?_⟩
 refine⟨⟨(0,[],false),?_,rfl,rfl,rfl,Z4,rfl,rfl,trivial⟩,?_⟩
 unfold ew
 exact⟨Z9,Z9,⟨Z8,Z8⟩,rfl⟩
 rintro⟨i,gs,b⟩ ⟨h1,h2,h3,h4⟩
 refine bI (fun j7=>?_) fun j7=>?_
 refine⟨⟨Z9,aj (d:=[]) Z9⟩,trivial,?_⟩
 refine bI (fun l6=>?_) fun l6=>?_
 refine⟨rfl,?_⟩
 unfold Q
 rw[show cq t=gs from by rw[<- xK,DJ h1 h2 (fun _=>by omega),h4]]
 refine⟨rfl,by have:=qP 10 t i;omega,?_⟩
 refine bI (fun n6=>?_) fun n6=>?_
 refine⟨rfl,rfl,⟨by have:=h3.len;omega,fun y hy=>by have:=h3.each y hy;omega,Jr n6⟩,Z9,?_⟩
 refine⟨(i+1,(fU gs b (ft (ae 32 ((ah 10 t).getD i [])).1 (ae 32 ((ah 10 t).getD i [])).2.1)).1,(fU gs b (ft (ae 32 ((ah 10 t).getD i [])).1 (ae 32 ((ah 10 t).getD i [])).2.1)).2),?_,?_,rfl,rfl,rfl,rfl,rfl,rfl,trivial⟩
 unfold ew
 have y8:mE (gs,b) ((ah 10 t).getD i [])=fU gs b (ft (ae 32 ((ah 10 t).getD i [])).1 (ae 32 ((ah 10 t).getD i [])).2.1):=if_pos n6
 refine⟨Z9,Z9,?_,?_⟩
 rw[<- y8];exact GQ h3 _
 rw[foldl_succ (d:=[]) Z9,h4,y8]
 exact Z1
 refine⟨Z9,?_⟩
 refine⟨(i+1,gs,b),?_,?_,rfl,rfl,rfl,rfl,rfl,rfl,trivial⟩
 unfold ew
 have y8:mE (gs,b) ((ah 10 t).getD i [])=(gs,b):=if_neg (by rw[n6];decide)
 refine⟨Z9,Z9,h3.mono Z9,?_⟩
 rw[foldl_succ (d:=[]) Z9,h4,y8]
 exact Z1
 refine⟨rfl,?_⟩
 unfold Q
 rw[show cq t=gs from by rw[<- xK,DJ h1 h2 (fun h=>by omega),h4]])
theorem GB{gs:List k9}{a:BL}{i:Nat}(h:i<gs.length):(gs.map fun y=>y.na.contains a).getD i false=(gs.getD i ⟨[],[],0⟩).na.contains a:=by
 rw[YQ,YQ,List.getElem?_map,YX h];rfl
def xP(y:k9)(a:BL)(u:Nat):o6 Tryz.prog:=.mk 125 [eS y.na y.ru y.wa,.ptr (.key 1000) [] u 0] [(1000,(u,sV a))] (y.na.length<=1000000) (bV (y.na.contains a)) [(1000,(u,sV a))] (by
 intro hy
 refine av (N:=8) (rs:=[.tmp 3]) Tryz.func125
  (.bx (fun g2=>.q 1<|.r 3 [.a8,.a8]<|.c (nX y.na a) []<|.q 1<|.nil))
  (∀ g2:Nat,Z g2 0/\Z u 0/\(nX y.na a).sm/\((y.na.length<=1000000))/\Q (bV (y.na.contains a)) (bV (y.na.contains a))/\Er u (sV a)) ?_
 intro g2
 refine⟨rfl,rfl,rfl,Z5,?_⟩
 refine⟨?_,rfl⟩
 unfold Q
 rfl)
def AV(gs:List k9)(a:BL)(u:Nat):o6 Tryz.prog:=.mk 156 [bh gs,.lit (.func (.func 125) #[] #[.pointer (some ⟨u,0,none⟩)])] [(1000,(u,sV a))] ((gs.length<=1000000)/\(∀ i,(gs.getD i ⟨[],[],0⟩).na.length<=1000000)) (iV (dm (gs.map fun y=>y.na.contains a) true)) [(1000,(u,sV a))] (by
 rintro⟨hg,hn⟩
 refine av (N:=19) (rs:=[.tmp 4]) Tryz.func156
  (.q 1<|.q 3<|.loop (Nat) (fun (i:Nat)=>⟨[(0,bh gs),(1,.lit (.func (.func 125) #[] #[.pointer (some ⟨u,0,none⟩)])),(6,bh gs),(7,iN gs.length),(8,iN i)],[(1000,(u,sV a))]⟩) (fun (i:Nat)=>i<=gs.length/\∀ j,j<i->((gs.getD j ⟨[],[],0⟩).na.contains a)=false) (fun (i:Nat)=>gs.length-i) (fun (i:Nat)=>.q 1<|.br (.q 2<|.r 5 [eS ((gs.getD i (⟨[],[],0⟩:k9)).na) ((gs.getD i (⟨[],[],0⟩:k9)).ru) ((gs.getD i (⟨[],[],0⟩:k9)).wa)]<|.c (xP (gs.getD i (⟨[],[],0⟩:k9)) a u) [(1000,1000)]<|.br (.q 2<|.nil) (.q 2<|.nil)) (.q 1<|.nil)))
  ((fun v1:V=>((∃ j6:Nat,(j6<=gs.length/\∀ j,j<j6->((gs.getD j ⟨[],[],0⟩).na.contains a)=false)/\E (bh gs)/\E v1/\E (bh gs)/\Q (iN ((gs.map bO).length)) (iN gs.length)/\Q (iN 0) (iN j6)/\Er u (sV a)/\True)/\∀ i:Nat,(i<=gs.length/\∀ j,j<i->((gs.getD j ⟨[],[],0⟩).na.contains a)=false)->Br (r9 (i:Int) (gs.length:Int)) (Ex (i:Int) (gs.map bO) (eS ((gs.getD i (⟨[],[],0⟩:k9)).na) ((gs.getD i (⟨[],[],0⟩:k9)).ru) ((gs.getD i (⟨[],[],0⟩:k9)).wa))/\True/\(xP (gs.getD i (⟨[],[],0⟩:k9)) a u).sm/\Er u (sV a)/\(((gs.getD i (⟨[],[],0⟩:k9)).na.length<=1000000))/\Br ((gs.getD i (⟨[],[],0⟩:k9)).na.contains a) (Q (iN i) (iV (dm (gs.map fun y=>y.na.contains a) true))/\Er u (sV a)) (m8 ((i:Int)+1)/\∃ b7:Nat,(b7<=gs.length/\∀ j,j<b7->((gs.getD j ⟨[],[],0⟩).na.contains a)=false)/\(gs.length-b7<gs.length-i)/\E (bh gs)/\E v1/\E (bh gs)/\E (iN gs.length)/\Q (iN (i+1)) (iN b7)/\Er u (sV a)/\True)) (Q (iV (-1)) (iV (dm (gs.map fun y=>y.na.contains a) true))/\Er u (sV a)))) (.lit (.func (.func 125) #[] #[.pointer (some ⟨u,0,none⟩)]))) ?_
 refine⟨⟨0,?_,rfl,rfl,rfl,Z4,rfl,rfl,trivial⟩,?_⟩
 simp
 rintro i ⟨h1,h2⟩
 have hni:=hn i
 refine bI (fun j7=>?_) fun j7=>?_
 refine⟨⟨Z9,aj (d:=(⟨[],[],0⟩:k9)) Z9⟩,trivial,rfl,rfl,hn i,?_⟩
 refine bI (fun l6=>?_) fun l6=>?_
 refine⟨?_,rfl⟩
 unfold Q
 rw[mu (i:=i) (by rw[Y2];omega) (by rw[GB Z9];exact l6) (fun j hj=>by rw[GB Z9];rw[h2 j hj];decide)]
 refine⟨Z9,?_⟩
 refine⟨i+1,?_,?_,rfl,rfl,rfl,rfl,rfl,rfl,trivial⟩
 exact⟨Z9,bS h2 l6⟩
 exact Z1
 refine⟨?_,rfl⟩
 unfold Q
 rw[lH (fun j hj=>by rw[Y2]at hj;rw[GB hj];rw[h2 j Z9];decide)])
def Bw(gs:List k9)(a:BL)(u:Nat):o6 Tryz.prog:=.mk 126 [bh gs,.lit (.func (.func 125) #[] #[.pointer (some ⟨u,0,none⟩)])] [(1000,(u,sV a))] ((gs.length<=1000000)/\(∀ i,(gs.getD i ⟨[],[],0⟩).na.length<=1000000)) (bV (gs.any fun y=>y.na.contains a)) [(1000,(u,sV a))] (by
 rintro⟨hg,hn⟩
 refine av (N:=9) (rs:=[.tmp 4]) Tryz.func126
  (.q 1<|.q 2<|.c (AV gs a u) [(1000,1000)]<|.q 2<|.nil)
  ((AV gs a u).sm/\Er u (sV a)/\((gs.length<=1000000)/\(∀ i,(gs.getD i ⟨[],[],0⟩).na.length<=1000000))/\Q (bV (z6 (dm (gs.map fun y=>y.na.contains a) true) 0)) (bV (gs.any fun y=>y.na.contains a))/\Er u (sV a)) ?_
 refine⟨rfl,rfl,⟨Z5,Z5⟩,?_⟩
 refine⟨?_,rfl⟩
 unfold Q
 refine Zq bV ?_
 show decide (dm (gs.map fun y=>y.na.contains a) true>=0)=_
 rw[show decide (dm (gs.map fun y=>y.na.contains a) true>=0)=(gs.map fun y=>y.na.contains a).contains true from mr _ _]
 rw[Za];simp)
def xY(a:BL):G5 Tryz.prog:=.mk Nat 124 [sV a] [] True (fun x=>True) (fun x=>.lit (.func (.func 125) #[] #[.pointer (some ⟨x,0,none⟩)])) (fun x=>[(1000,(x,sV a))]) (by
 intro _
 refine fh (N:=4) (rs:=[.tmp 2]) (X:=Nat) (post:=fun x=>True) (E:=fun x=>.lit (.func (.func 125) #[] #[.pointer (some ⟨x,0,none⟩)])) (H':=fun x=>[(1000,(x,sV a))]) Tryz.func124 Z7 rfl rfl rfl Z7 [(1000,(0,.a8))] (by intro _ k hk;simpa[lk] using hk)
  (.bx (fun g1=>.q 1<|.cu RW (fun _=>.q 1<|.h (.rk 1 1000)<|.nil)))
  (∀ g1:Nat,((Value.func (.func 125) #[] #[.pointer (some ⟨g1,0,none⟩)]).oneCell'=true)/\∀ _:Unit,∃ x:Nat,(True)/\Q (.lit (.func (.func 125) #[] #[.pointer (some ⟨g1,0,none⟩)])) (.lit (.func (.func 125) #[] #[.pointer (some ⟨x,0,none⟩)]))/\Qr g1 (sV a) x (sV a))
  Z7 ?_
 intro g1
 refine⟨rfl,?_⟩
 intro _
 refine⟨g1,?_,?_,?_⟩
 · try dsimp only
   all_goals trivial
 first | rfl | simp_all
 first | rfl | exact⟨rfl,rfl⟩ | simp_all)
theorem FO{w:List Pg}{n p:BL}(h1:an w=true)(h2:bn n=true):((aw p).isSome&&aD (bD (af w (ag (oA (aw p)).c5) 2).1 (af w (ag (oA (aw p)).c5) 2).2 n).ru (if aG (oA (aw p))=true then bj (oA (aw p)) else []))=dI w n p:=by
 unfold dI
 rw[h1,h2]
 cases h:(aw p).isSome with
 | false=>rfl
 | true=>
   have h3:=gU h
   rw[if_pos h3]
   have h4:cM (oA (aw p)).c5=true:=by
    unfold aG at h3
    simp only[YS]at h3
    exact h3.1.1.1.1.1
   rw[show rn w (oA (aw p)).c5 n=_ from if_pos ⟨h1,h4,h2⟩]
   simp
abbrev np(gs:List k9)(n:BL):V:=jz (.sl false ([n].map sV)) ((fc gs n).ru) ((fc gs n).wa)
def kC(gs:List k9)(n:BL):o6 Tryz.prog:=.mk 88 [bh gs,sV n] [] ((gs.length<=1000)/\(∀ i,(gs.getD i ⟨[],[],0⟩).ru.length<=100)/\(∀ i,(gs.getD i ⟨[],[],0⟩).na.length<=1000000)) (np gs n) [] (by
 rintro⟨hg,hr,ha⟩
 refine av (N:=45) (rs:=[.cell 4 36]) Tryz.func88
  (.al jt (fun g4=>.q 1<|.q 2<|.q 3<|.cx (xY n) [(1000,14)] (fun (m6:Nat)=>.c (Bw gs n m6) [(1000,14)]<|.q 1<|.join BL (fun d=>⟨[(0,bh gs),(1,sV n),(4,.ptr (.key 4) [] g4 0),(5,.lit (.func (.func 124) #[] #[])),(10,sV n),(11,bh gs),(12,.lit (.func (.func 124) #[] #[])),(13,sV n),(14,.lit (.func (.func 125) #[] #[.pointer (some ⟨m6,0,none⟩)])),(15,bV (gs.any fun y=>y.na.contains n)),(16,bV (!(gs.any fun y=>y.na.contains n))),(6,sV d)],[(4,(g4,.agg [.sl true [],.sl true [],iN 0])),(14,(m6,sV n))]⟩) (fun d=>d=ko gs n) (.q 1<|.nil) (.nil) (fun d=>.q 1<|.bs<|.bd jt<|.al jt (fun g7=>.st none<|.q 3<|.h (.y7 (.key 7) [1] 2)<|.loop (Nat×(List s6)×Nat×Nat×Nat×Nat) (fun (i,e,q,u,f,k)=>⟨[(4,.ptr (.key 4) [] g4 0),(5,.lit (.func (.func 124) #[] #[])),(6,sV d),(7,.ptr (.key 7) [] g7 0),(20,bh gs),(21,iN gs.length),(22,iN i)],[(4,(g4,.agg [.sl true [],.sl true [],iN 0])),(7,(g7,.agg [.sl true [sV n],.own 2 (e.map au) u f k,iN q]))]⟩) (fun (i,e,q,u,f,k)=>i<=gs.length/\((gs.take i).foldl (cm d) (([],0),false)).1=(e,q)/\e.length<=100*i) (fun (i,e,q,u,f,k)=>gs.length-i) (fun (i,e,q,u,f,k)=>.q 1<|.br (.r 2 [eS ((gs.getD i (⟨[],[],0⟩:k9)).na) ((gs.getD i (⟨[],[],0⟩:k9)).ru) ((gs.getD i (⟨[],[],0⟩:k9)).wa)]<|.al jt (fun g9=>.st none<|.dx 4 [0,1,3,2] [(3,⟨false,[],some [9],[29],[]⟩),(2,⟨true,[],some [28],[28],[28]⟩)] []<|.q 1<|.q 1<|.r 1 [.a8]<|.cx (xY d) [(1000,28)] (fun (QP:Nat)=>.c (xP (gs.getD i (⟨[],[],0⟩:k9)) d QP) [(1000,28)]<|.br (.r 4 [.a8,.a8]<|.ap (fun QI QC QN=>.h (.o4 35 (.own 2 ((e++((gs.getD i (⟨[],[],0⟩:k9)).ru)).map au) QI QC QN))<|.q 1<|.st none<|.r 4 [.a8,.a8]<|.mm<|.q 1<|.st none<|.h (.B0 7 (.agg [.sl true [sV n],.own 2 ((e++((gs.getD i (⟨[],[],0⟩:k9)).ru)).map au) QI QC QN,iN (max q (gs.getD i ⟨[],[],0⟩).wa)]))<|.q 2<|.nil)) (.q 2<|.nil)))) (.mv<|.h (.fz 44)<|.h (.o4 44 (jz (.sl true [sV n]) e q))<|.st none<|.nil)))))))
  ((fun v1:V=>(fun v2:V=>(∀ g4:Nat,(fun v3:V=>(xY n).sm/\(True)/\∀ m6:Nat,(True)->(fun v4:V=>(Bw gs n m6).sm/\Er m6 (sV n)/\((gs.length<=1000000)/\(∀ i,(gs.getD i ⟨[],[],0⟩).na.length<=1000000))/\((!(gs.any fun y=>y.na.contains n))=true->∃ d:BL,(d=ko gs n)/\E (bh gs)/\E (sV n)/\E v3/\E v1/\E (sV n)/\E (bh gs)/\E v1/\E (sV n)/\E v4/\E (bV (gs.any fun y=>y.na.contains n))/\E (bV (!(gs.any fun y=>y.na.contains n)))/\Q (sV ([42]:BL)) (sV d)/\Er g4 v2/\Er m6 (sV n)/\True)/\((!(gs.any fun y=>y.na.contains n))=false->∃ d:BL,(d=ko gs n)/\E (bh gs)/\E (sV n)/\E v3/\E v1/\E (sV n)/\E (bh gs)/\E v1/\E (sV n)/\E v4/\E (bV (gs.any fun y=>y.na.contains n))/\E (bV (!(gs.any fun y=>y.na.contains n)))/\Q (sV n) (sV d)/\Er g4 v2/\Er m6 (sV n)/\True)/\(∀ d:BL,(d=ko gs n)->∀ g7:Nat,Z g7 0/\(∃ x:Nat×(List s6)×Nat×Nat×Nat×Nat,match x with | (j6,D6,z7,H6,A5,s7)=>(j6<=gs.length/\((gs.take j6).foldl (cm d) (([],0),false)).1=(D6,z7)/\D6.length<=100*j6)/\E v3/\E v1/\E (sV d)/\E (.ptr (.key 7) [] g7 0)/\E (bh gs)/\Q (iN ((gs.map bO).length)) (iN gs.length)/\Q (iN 0) (iN j6)/\Er g4 v2/\Qr g7 (.agg [.sl true [sV n],.own 2 ([].map au) 0 0 0,iN 0]) g7 (.agg [.sl true [sV n],.own 2 (D6.map au) H6 A5 s7,iN z7])/\True)/\∀ x:Nat×(List s6)×Nat×Nat×Nat×Nat,match x with | (i,e,q,u,f,k)=>(i<=gs.length/\((gs.take i).foldl (cm d) (([],0),false)).1=(e,q)/\e.length<=100*i)->Br (r9 (i:Int) (gs.length:Int)) (Ex (i:Int) (gs.map bO) (eS ((gs.getD i (⟨[],[],0⟩:k9)).na) ((gs.getD i (⟨[],[],0⟩:k9)).ru) ((gs.getD i (⟨[],[],0⟩:k9)).wa))/\True/\∀ g9:Nat,Z g9 0/\Z g9 0/\(xY d).sm/\(True)/\∀ QP:Nat,(True)->(xP (gs.getD i (⟨[],[],0⟩:k9)) d QP).sm/\Er QP (sV d)/\(((gs.getD i (⟨[],[],0⟩:k9)).na.length<=1000000))/\Br ((gs.getD i (⟨[],[],0⟩:k9)).na.contains d) (Z g7 1/\Z g9 1/\((2,2,u,f,k,(e.map au).length)=(2,2,u,f,k,(e.map au).length))/\(True)/\(V.aE (((gs.getD i (⟨[],[],0⟩:k9)).ru).map au)=false)/\(aJ 2 (((gs.getD i (⟨[],[],0⟩:k9)).ru).map au))/\(((e.map au).length+(((gs.getD i (⟨[],[],0⟩:k9)).ru).map au).length)*24<=140737488355328)/\∀ QI QC QN:Nat,((.own 2 ((e.map au)++(((gs.getD i (⟨[],[],0⟩:k9)).ru).map au)) QI QC QN:V)=.own 2 ((e++((gs.getD i (⟨[],[],0⟩:k9)).ru)).map au) QI QC QN)/\Z g7 1/\Z g7 2/\Z g9 2/\(IntKind.i64=IntKind.i64)/\Z g7 2/\((.agg [.sl true [sV n],.own 2 ((e++((gs.getD i (⟨[],[],0⟩:k9)).ru)).map au) QI QC QN,iV (max (q:Int) (((gs.getD i (⟨[],[],0⟩:k9)).wa:Nat):Int))]:V)=.agg [.sl true [sV n],.own 2 ((e++((gs.getD i (⟨[],[],0⟩:k9)).ru)).map au) QI QC QN,iN (max q (gs.getD i ⟨[],[],0⟩).wa)])/\m8 ((i:Int)+1)/\∃ x:Nat×(List s6)×Nat×Nat×Nat×Nat,match x with | (b7,x5,n9,B9,r4,k₂)=>(b7<=gs.length/\((gs.take b7).foldl (cm d) (([],0),false)).1=(x5,n9)/\x5.length<=100*b7)/\(gs.length-b7<gs.length-i)/\E v3/\E v1/\E (sV d)/\E (.ptr (.key 7) [] g7 0)/\E (bh gs)/\E (iN gs.length)/\Q (iN (i+1)) (iN b7)/\Er g4 v2/\Qr g7 (.agg [.sl true [sV n],.own 2 ((e++((gs.getD i (⟨[],[],0⟩:k9)).ru)).map au) QI QC QN,iN (max q (gs.getD i ⟨[],[],0⟩).wa)]) g7 (.agg [.sl true [sV n],.own 2 (x5.map au) B9 r4 k₂,iN n9])/\True) (m8 ((i:Int)+1)/\∃ x:Nat×(List s6)×Nat×Nat×Nat×Nat,match x with | (b7,x5,n9,B9,r4,k₂)=>(b7<=gs.length/\((gs.take b7).foldl (cm d) (([],0),false)).1=(x5,n9)/\x5.length<=100*b7)/\(gs.length-b7<gs.length-i)/\E v3/\E v1/\E (sV d)/\E (.ptr (.key 7) [] g7 0)/\E (bh gs)/\E (iN gs.length)/\Q (iN (i+1)) (iN b7)/\Er g4 v2/\Qr g7 (.agg [.sl true [sV n],.own 2 (e.map au) u f k,iN q]) g7 (.agg [.sl true [sV n],.own 2 (x5.map au) B9 r4 k₂,iN n9])/\True)) (Z g7 0/\((.agg [.sl true [sV n],.sl false (V.B8 (e.map au)),iN q]:V)=jz (.sl true [sV n]) e q)/\Z g4 0/\(g4=g4)/\Q (jz (.sl false [sV n]) e q) (np gs n)))) (.lit (.func (.func 125) #[] #[.pointer (some ⟨m6,0,none⟩)]))) (.ptr (.key 4) [] g4 0))) (.agg [.sl true [],.sl true [],iN 0])) (.lit (.func (.func 124) #[] #[]))) ?_
 intro g4
 refine⟨rfl,trivial,?_⟩
 intro m6 Vf
 refine⟨rfl,rfl,⟨Z9,ha⟩,?_⟩
 refine⟨fun j7=>?_,fun j7=>?_,fun d hd=>?_⟩
 try simp only[nb]at j7
 exact⟨([42]:BL),by unfold ko;rw[j7];rfl,rfl,rfl,rfl,rfl,rfl,rfl,rfl,rfl,rfl,rfl,rfl,rfl,rfl,rfl,trivial⟩
 try simp only[nb]at j7
 exact⟨n,by unfold ko;rw[j7];rfl,rfl,rfl,rfl,rfl,rfl,rfl,rfl,rfl,rfl,rfl,rfl,rfl,rfl,rfl,trivial⟩
 intro g7
 refine⟨rfl,?_⟩
 refine⟨⟨(0,[],0,0,0,0),?_,rfl,rfl,rfl,rfl,rfl,Z4,rfl,rfl,rfl,trivial⟩,?_⟩
 simp
 rintro⟨i,e,q,u,f,k⟩ ⟨h1,h2,h3⟩
 have hai:=ha i
 refine bI (fun l6=>?_) fun l6=>?_
 refine⟨⟨Z9,aj (d:=(⟨[],[],0⟩:k9)) Z9⟩,trivial,?_⟩
 intro g9
 refine⟨rfl,rfl,rfl,trivial,?_⟩
 intro QP X6
 refine⟨rfl,rfl,ha i,?_⟩
 refine bI (fun n6=>?_) fun n6=>?_
 refine⟨rfl,rfl,rfl,trivial,(cN (f:=au) (fun _=>rfl) _),(ee (f:=au) (fun _=>rfl) _),by(try simp only[Y2,YV,YY]);have:=hr i;omega,?_⟩
 intro QI QC QN
 refine⟨Zq (V.own 2 · QI QC QN) ((Zf ..).symm),rfl,rfl,rfl,rfl,rfl,Zq (fun z:Int=>(.agg [.sl true [sV n],.own 2 ((e++((gs.getD i (⟨[],[],0⟩:k9)).ru)).map au) QI QC QN,iV z]:V)) Z9,Z9,?_⟩
 refine⟨(i+1,e++((gs.getD i (⟨[],[],0⟩:k9)).ru),max q (gs.getD i ⟨[],[],0⟩).wa,QI,QC,QN),?_,?_,rfl,rfl,rfl,rfl,rfl,rfl,rfl,rfl,rfl,trivial⟩
 have:=hr i
 refine⟨Z9,?_,by simp only[YT];omega⟩
 rw[foldl_succ (d:=⟨[],[],0⟩) Z9,yF,if_pos n6,h2]
 exact Z1
 refine⟨Z9,?_⟩
 refine⟨(i+1,e,q,u,f,k),?_,?_,rfl,rfl,rfl,rfl,rfl,rfl,rfl,rfl,rfl,trivial⟩
 refine⟨Z9,?_,Z9⟩
 rw[foldl_succ (d:=⟨[],[],0⟩) Z9,yF,if_neg (by rw[n6];decide),h2]
 exact Z1
 refine⟨rfl,by simp only[aM (f:=au) (fun _=>rfl)],rfl,?_⟩
 refine⟨rfl,?_⟩
 unfold Q np
 rw[Y3 Z9]at h2
 have hfa:=Ca gs n
 rw[hfa.1,hfa.2,<- hd,h2]
 rfl)
abbrev iD(w:List Pg)(d:BL)(n:BL):V:=jz (.sl false ([n].map sV)) ((bD (af w (ag d) 2).1 (af w (ag d) 2).2 n).ru) ((bD (af w (ag d) 2).1 (af w (ag d) 2).2 n).wa)
def oc(w:List Pg)(d:BL)(n:BL):o6 Tryz.prog:=.mk 52 [.mp (w.map E9),sV d,sV n] [] ((d.length<=1000)/\((af w (ag d) 2).2.length<=1000000)) (iD w d n) [] (by
 rintro⟨hd,ht⟩
 refine av (N:=32) (rs:=[.cell 6 36]) Tryz.func52
  (.al jt (fun g6=>.q 2<|.c (ff d) []<|.c (sK w (ag d)) []<|.q 5<|.q 1<|.q 2<|.br (.q 1<|.c (qB ((af w (ag d) 2).2)) []<|.h (.fz 20)<|.h (.o4 20 (bh (cq ((af w (ag d) 2).2))))<|.q 1<|.c (kC (cq ((af w (ag d) 2).2)) n) []<|.st none<|.nil) (.q 2<|.br (.q 1<|.bs<|.bd uB<|.bs<|.bd jt<|.st none<|.nil) (.q 1<|.c (kC ([]:List k9) n) []<|.st none<|.nil))))
  ((fun v1:Int×BL=>(fun v2:List k9=>(∀ g6:Nat,(ff d).sm/\((d.length<=4000000000000000000))/\(sK w (ag d)).sm/\(True)/\Br (o9 (v1.1) 1) ((qB (v1.2)).sm/\(((v1.2).length<=1000000))/\((.sl false (V.B8 ((cq (v1.2)).map aR)):V)=bh (cq (v1.2)))/\(kC (cq (v1.2)) n).sm/\(((cq (v1.2)).length<=1000)/\(∀ i,((cq (v1.2)).getD i ⟨[],[],0⟩).ru.length<=100)/\(∀ i,((cq (v1.2)).getD i ⟨[],[],0⟩).na.length<=1000000))/\Z g6 0/\(g6=g6)/\Q (jz (.sl false ([n].map sV)) ((fc (cq (v1.2)) n).ru) ((fc (cq (v1.2)) n).wa)) (iD w d n)) (Br (o9 (v1.1) 3) (Z g6 0/\(g6=g6)/\Q (.agg [.sl false [sV n],.sl false [.agg [bV false,sV ([47]:BL)]],iN 0]) (iD w d n)) ((kC v2 n).sm/\((v2.length<=1000)/\(∀ i,(v2.getD i ⟨[],[],0⟩).ru.length<=100)/\(∀ i,(v2.getD i ⟨[],[],0⟩).na.length<=1000000))/\Z g6 0/\(g6=g6)/\Q (jz (.sl false ([n].map sV)) ((fc v2 n).ru) ((fc v2 n).wa)) (iD w d n))))) ([]:List k9)) (af w (ag d) 2)) ?_
 intro g6
 refine⟨rfl,Z9,rfl,trivial,?_⟩
 refine bI (fun j7=>?_) fun j7=>?_
 refine⟨rfl,ht,Zq (V.sl false) (zm _),rfl,⟨by have:=(nM (af w (ag d) 2).2).len;omega,fun i=>((nM (af w (ag d) 2).2).ru i).1,fun i=>by have:=((nM (af w (ag d) 2).2).ru i).2;omega⟩,rfl,?_⟩
 refine⟨rfl,?_⟩
 unfold Q iD
 rw[show bD (af w (ag d) 2).1 (af w (ag d) 2).2 n=fc (cq (af w (ag d) 2).2) n from by rw[bD,if_pos j7]]
 refine bI (fun l6=>?_) fun l6=>?_
 refine⟨rfl,?_⟩
 refine⟨rfl,?_⟩
 unfold Q iD
 rw[show bD (af w (ag d) 2).1 (af w (ag d) 2).2 n=_ from by rw[bD,if_neg j7,if_pos l6]]
 rfl
 refine⟨rfl,⟨Z8,Z8,Z8⟩,rfl,?_⟩
 refine⟨rfl,?_⟩
 unfold Q iD
 rw[show bD (af w (ag d) 2).1 (af w (ag d) 2).2 n=_ from by rw[bD,if_neg j7,if_neg l6]])
abbrev zK(w:List Pg)(n:BL)(a:r8):V:=bV (aD (bD (af w (ag a.c5) 2).1 (af w (ag a.c5) 2).2 n).ru (if aG a=true then bj a else []))
def Et(w:List Pg)(n:BL)(a:r8):o6 Tryz.prog:=.mk 48 [.mp (w.map E9),sV n,bF a.c5 a.b9 a.asks a.ask] [] ((cP a)/\((af w (ag a.c5) 2).2.length<=1000000)) (zK w n a) [] (by
 rintro⟨ha,ht⟩
 have hpa:=ha.path
 refine av (N:=16) (rs:=[.tmp 6]) Tryz.func48
  (.bx (fun g5=>.q 1<|.dx 9 [0,1,2,3,4,5,6,7,8] [(2,⟨false,[],some [5],[9],[]⟩),(6,⟨false,[],some [5],[13],[]⟩)] []<|.q 1<|.q 1<|.r 1 [.a8]<|.q 1<|.c (oc w a.c5 n) []<|.q 1<|.r 1 [.a8]<|.c (iW a) []<|.c (im ((bD (af w (ag a.c5) 2).1 (af w (ag a.c5) 2).2 n).ru) (if aG a=true then bj a else [])) []<|.q 1<|.nil))
  ((fun v1:k9=>(∀ g5:Nat,Z g5 0/\(oc w a.c5 n).sm/\((a.c5.length<=1000)/\((af w (ag a.c5) 2).2.length<=1000000))/\Z g5 0/\(iW a).sm/\((cP a))/\(im (v1.ru) (if aG a=true then bj a else [])).sm/\(((v1.ru).length<=1000000)/\(∀ i,((v1.ru).getD i ⟨false,[]⟩).path.length<=1000000)/\((if aG a=true then bj a else []).length<=1000000))/\Q (bV (aD (v1.ru) (if aG a=true then bj a else []))) (zK w n a))) (bD (af w (ag a.c5) 2).1 (af w (ag a.c5) 2).2 n)) ?_
 intro g5
 refine⟨rfl,rfl,⟨ha.1,ht⟩,rfl,rfl,ha,rfl,⟨by have:=(px (af w (ag a.c5) 2).1 (af w (ag a.c5) 2).2 n).1;omega,fun i=>tZ (p:=fun r:s6=>r.path.length<=1000000) (fun r hr=>by have:=(px (af w (ag a.c5) 2).1 (af w (ag a.c5) 2).2 n).2 r hr;omega) Z8 i,by split <;> (try simp) <;> omega⟩,?_⟩
 unfold Q zK
 rfl)
def qQ(w:List Pg)(n:BL)(p:BL):o6 Tryz.prog:=.mk 23 [bZ w,sV n,sV p] [] ((w.length<=30)/\(∀ i,m9 (w.getD i m4))/\(n.length<=1000000)/\(p.length<=1000000)/\(m5 p)) (bV (dI w n p)) [] (by
 rintro⟨hw,hz,hn,hp,hc⟩
 refine av (N:=34) (rs:=[.tmp 6]) Tryz.func23
  (.q 1<|.q 1<|.sp (an w) (.c (jQ w) []<|.q 5<|.q 4<|.cg (gp n)<|.q 2<|.br (.q 1<|.nil) (.q 1<|.c (lq p) []<|.q 3<|.al dg (fun g9=>.st none<|.q 1<|.r 5 [.a8]<|.cg (Et w n (oA (aw p)))<|.q 2<|.nil))) (.c (ml w) []<|.q 5<|.q 4<|.cg (gp n)<|.q 2<|.br (.q 1<|.nil) (.nil)))
  ((fun v1:Int×BL=>(((an w)=true->(jQ w).sm/\((w.length<=30)/\(∀ i,m9 (w.getD i m4))/\(an w=true))/\Gd ((!true)==false) (((n.length<=4611686018427387904))/\(gp n).sm)/\Pk (!true) true ((!true)==false)/\Br ((!true)||(!(bn n))) (Q (bV false) (bV (dI w n p))) ((lq p).sm/\((p.length<=1000000)/\(m5 p))/\∀ g9:Nat,Z g9 0/\Gd (((aw p).isSome)==true) (Z g9 0)/\Gd (((aw p).isSome)==true) (((cP (oA (aw p)))/\(v1.2.length<=1000000))/\(Et w n (oA (aw p))).sm)/\Pk ((aw p).isSome) (((aw p).isSome)==true) true/\Q (bV (((aw p).isSome)&&(aD (bD v1.1 v1.2 n).ru (if aG (oA (aw p))=true then bj (oA (aw p)) else [])))) (bV (dI w n p))))/\((an w)=false->(ml w).sm/\((w.length<=30)/\(∀ i,m9 (w.getD i m4))/\(an w=false))/\Gd ((!false)==false) (((n.length<=4611686018427387904))/\(gp n).sm)/\Pk (!false) true ((!false)==false)/\Br ((!false)||(!(bn n))) (Q (bV false) (bV (dI w n p))) (False)))) (af w (ag (oA (aw p)).c5) 2)) ?_
 refine⟨fun J3=>?_,fun J3=>?_⟩
 have NZ:=J3
 try simp only[nb]at NZ
 refine⟨rfl,⟨hw,hz,J3⟩,fun hG=>⟨by(try simp only[nb]at hG);omega,rfl⟩,⟨fun _=>rfl,fun h=>by rw[h] <;> rfl⟩,?_⟩
 refine bI (fun j7=>?_) fun j7=>?_
 unfold Q
 refine Zq bV ?_
 unfold dI
 grind
 refine⟨rfl,⟨hp,hc⟩,?_⟩
 intro g9
 refine⟨rfl,fun hG=>rfl,fun hG=>⟨⟨by(try simp only[nb]at hG);exact kF _,by(try simp only[nb]at hG);have:=ub (w:=w) (a:=ag (oA (aw p)).c5) (k:=2) (m:=300) (fun i=>⟨(hz i).t,by have:=(hz i).l;omega⟩);omega⟩,rfl⟩,⟨fun h=>by rw[h] <;> rfl,fun _=>rfl⟩,?_⟩
 unfold Q
 refine Zq bV ?_
 exact FO J3 j7.2
 · have NZ:=J3
   try simp only[nb]at NZ
   refine⟨rfl,⟨hw,hz,J3⟩,fun hG=>⟨by(try simp only[nb]at hG);omega,rfl⟩,⟨fun _=>rfl,fun h=>by rw[h] <;> rfl⟩,?_⟩
   refine bI (fun l6=>?_) fun l6=>?_
   unfold Q
   refine Zq bV ?_
   unfold dI
   grind
   · all_goals (first | exact absurd l6.1 Z6 | simp_all))
def eB(t:BL)(x:List BL×Bool×Nat)(i:Nat):List BL×Bool×Nat:=
 if 0<x.2.2/\t.getD i 0=62 then (x.1++[(t.take i).drop (x.2.2-1)],x.2.1,0)
 else if 0<x.2.2 then x
 else if x.2.1=true then (x.1,!(t.getD i 0==41),0)
 else if t.getD i 0=40 then (x.1,true,0)
 else if t.getD i 0=60 then (x.1,false,i+2) else x
def dN(t:BL):Nat->List BL×Bool×Nat
 | 0=>([],false,0)
 | i+1=>eB t (dN t i) i
def aL(t:BL):List BL:=if t.length<=300 then (dN t t.length).1 else []
structure XR (t:BL) (i:Nat) (x:List BL×Bool×Nat):Prop where
 len:x.1.length<=i
 each:∀ m,m∈x.1->m.length<=t.length/\∀ c,c∈m->c∈t
 pos:x.2.2<=i+1
 one:0<x.2.2->x.2.1=false
theorem IZ{t:BL}{i:Nat}{x:List BL×Bool×Nat}(h:XR t i x):XR t (i+1) (eB t x i):=by
 obtain⟨h1,h2,h3,h4⟩:=h
 unfold eB
 split
 rename_i hc
 refine⟨Z0,fun m hm=>?_,Z8,fun hc=>by simp at hc⟩
 rcases Y1.1 hm with hm | hm
 exact h2 m hm
 rw[YZ.1 hm]
 exact⟨Z0,fun c hc=>List.mem_of_mem_take (List.mem_of_mem_drop hc)⟩
 split
 exact⟨Z9,h2,Z9,h4⟩
 split
 exact⟨Z0,h2,Z8,fun hc=>by simp at hc⟩
 split
 exact⟨Z0,h2,Z8,fun hc=>by simp at hc⟩
 split
 exact⟨Z0,h2,Z8,fun _=>rfl⟩
 exact⟨Z9,h2,Z9,h4⟩
theorem wA(t:BL):∀ i,XR t i (dN t i)
 | 0=>⟨by simp[dN],by simp[dN],by simp[dN],by simp[dN]⟩
 | i+1=>IZ (wA t i)
theorem qu(t:BL):(aL t).length<=300/\∀ m,m∈aL t->m.length<=300/\∀ c,c∈m->c∈t:=by
 unfold aL
 split
 rename_i h
 have hb:=wA t t.length
 exact⟨by have:=hb.len;omega,fun m hm=>⟨by have:=(hb.each m hm).1;omega,(hb.each m hm).2⟩⟩
 exact⟨Z8,fun m hm=>by simp at hm⟩
def eO(s:BL):UInt8:=s.getD 0 0
def km(m:BL):Bool:=!(eO m==33)&&!(eO m==64)
def bc(t:BL):List BL:=(aL t).filter km
def cO(t:BL):Option BL:=((aL t).find? fun m=>eO m==64).map (·.drop 1)
theorem tE(t:BL):(bc t).length<=300/\∀ m,m∈bc t->m.length<=300/\∀ c,c∈m->c∈t:=by
 have h:=qu t
 exact⟨by have:=List.length_filter_le km (aL t);unfold bc;omega,fun m hm=>h.2 m (List.mem_filter.1 hm).1⟩
theorem AM{t r:BL}(h:cO t=some r):r.length<=300/\∀ c,c∈r->c∈t:=by
 unfold cO at h
 cases e:(aL t).find? fun m=>eO m==64 with
 | none=>rw[e]at h;cases h
 | some m=>
   rw[e]at h
   obtain rfl:=Option.some.inj h
   have:=(qu t).2 m (List.mem_of_find?_eq_some e)
   exact⟨Z0,fun c hc=>this.2 c (List.mem_of_mem_drop hc)⟩
theorem AZ{α:Type}{p:α->Bool}{d:α}:∀ {l:List α} {i:Nat},i<l.length->p (l.getD i d)=true->(∀ j,j<i->p (l.getD j d)=false)->l.find? p=some (l.getD i d)
 | [],_,h,_,_=>by simp at h
 | x::r,0,_,h,_=>by simp at h;simp[h]
 | x::r,i+1,hl,h,hn=>by
   have h0:=hn 0 Z9
   simp at h0
   rw[List.find?_cons_of_neg (by simpa using h0)]
   have:=AZ (l:=r) (i:=i) (d:=d) (by simpa using hl) (by simpa using h) (fun j hj=>by have:=hn (j+1) Z9;simpa using this)
   simpa using this
theorem Ib{α:Type}{p:α->Bool}{d:α}{l:List α}(h:∀ j,j<l.length->p (l.getD j d)=false):l.find? p=none:=by
 rw[List.find?_eq_none]
 intro x hx
 obtain⟨j,hj,rfl⟩:=Zk.1 hx
 have:=h j hj
 rw[YQ,YX hj]at this
 simpa using this
def H8(a:r8)(ref:BL):Option r8:=
 if aG a=false\/60<ref.length then none
 else if 2<=(ae 35 ref).1.length/\(ae 35 ref).1.take 2=[47,47] then dA ((ae 35 ref).1.drop 2)
 else if (ae 35 ref).1=[] then some a
 else if eO (ae 35 ref).1=47 then cy a.c5 [] (ae 35 ref).1
 else if eO (ae 35 ref).1=63 then cy a.c5 a.b9 (ae 35 ref).1
 else cy a.c5 (a.b9.take (a.b9.length-1)) (ae 35 ref).1
def jC(l:List BL)(s:BL):List BL:=if l.contains s=true then l else l++[s]
def gY(a:r8)(t:BL):r8:=match cO t with
 | some r=>(H8 a r).getD a
 | none=>a
def eE(b:r8)(o:List BL)(m:BL):List BL:=if (H8 b m).isSome=true then jC o (bE (oA (H8 b m))) else o
def bC(a:r8)(t:BL):List BL:=if aG a=true then (bc t).foldl (eE (gY a t)) [] else []
def ye(a:BL)(k:Int)(t:BL):List BL:=if k=1 then bC (oA (aw a)) t else if k=2 then [t] else []
def eA(w:List Pg)(a:BL):List BL:=if an w=true/\az a=true then ye a (af w a 2).1 (af w a 2).2 else []
theorem DG{s:BL}(h:(dA s).isSome=true):aG (oA (dA s))=true:=oN h
theorem CQ{a:r8}{r:BL}(h:(H8 a r).isSome=true):aG (oA (H8 a r))=true:=by
 unfold H8 at h ⊢
 split
 rename_i hc;rw[if_pos hc]at h;cases h
 rename_i hc
 rw[if_neg hc]at h
 split
 rename_i h2;rw[if_pos h2]at h;exact DG h
 rename_i h2
 rw[if_neg h2]at h
 split
 cases e:aG a with
 | true=>exact e
 | false=>exact absurd (.inl e) hc
 rename_i h3
 rw[if_neg h3]at h
 split
 rename_i h4;rw[if_pos h4]at h;exact oN h
 rename_i h4
 rw[if_neg h4]at h
 split
 rename_i h5;rw[if_pos h5]at h;exact oN h
 rename_i h5;rw[if_neg h5]at h;exact oN h
theorem Mr(a:r8)(r:BL):cP (oA (H8 a r)):=by
 cases e:(H8 a r).isSome with
 | true=>exact qI (CQ e)
 | false=>
   rw[Option.isSome_eq_false_iff]at e
   rw[Option.isNone_iff_eq_none.1 e];exact ra
theorem Hh{a:r8}{t:BL}(h:aG a=true):aG (gY a t)=true:=by
 unfold gY
 split
 rename_i r _
 cases e:H8 a r with
 | none=>exact h
 | some x=>have:=CQ (a:=a) (r:=r) (by rw[e];rfl);rw[e]at this;exact this
 exact h
theorem cP.sz{a:r8}(h:cP a):dZ a:=⟨by have:=h.1;omega,by have:=h.2.1;omega,by have:=h.2.2.1;omega,fun i=>by have:=h.2.2.2 i;omega⟩
theorem FV{a:r8}:(bE a).length<=60:=by
 unfold bE
 split
 rename_i h
 unfold aG at h
 simp only[YS,Zo]at h
 exact h.2
 simp
theorem IY{l:List BL}{s:BL}:(jC l s).length<=l.length+1:=by
 unfold jC
 split <;> simp
theorem rU{l:List BL}{s x:BL}:x∈jC l s↔x∈l\/x=s:=by
 unfold jC
 split
 rename_i h
 have h:s∈l:=by simpa using h
 exact⟨.inl,fun hx=>hx.elim id fun e=>e ▸ h⟩
 simp
theorem BQ{b:r8}:∀ (ls:List BL) {o:List BL},(ls.foldl (eE b) o).length<=o.length+ls.length/\((∀ m,m∈o->m.length<=60)->∀ m,m∈ls.foldl (eE b) o->m.length<=60)
 | [],o=>⟨Z8,fun h=>h⟩
 | l::ls,o=>by
   have ih:=BQ (b:=b) ls (o:=eE b o l)
   have h1:(eE b o l).length<=o.length+1:=by unfold eE;split;exact IY;omega
   refine⟨by simp only[List.foldl_cons,YV];omega,fun h=>ih.2 fun m hm=>?_⟩
   unfold eE at hm
   split at hm
   rcases rU.1 hm with hm | rfl
   exact h m hm
   exact FV
   exact h m hm
theorem BH(a:r8)(t:BL):(bC a t).length<=300/\∀ m,m∈bC a t->m.length<=60:=by
 unfold bC
 split
 have h:=BQ (b:=gY a t) (bc t) (o:=[])
 exact⟨by have:=(tE t).1;simp at h;omega,h.2 Z8⟩
 exact⟨Z8,Z8⟩
def eT(o:List BL)(s:BL):List BL:=if az s=true then jC o s else o
def mF(c9:List BL):List BL:=c9.foldl eT []
def WB(w:List Pg)(n a:BL):Prop:= ¬ ((af w a 2).1=3\/dI w n a=false)
instance (w:List Pg) (n a:BL):Decidable (WB w n a):=by unfold WB;infer_instance
def xV(w:List Pg)(n:BL)(x:List BL×List BL)(i:Nat):List BL×List BL:=
 if WB w n (x.1.getD i []) then ((eA w (x.1.getD i [])).foldl jC x.1,x.2++[x.1.getD i []]) else x
def rN(w:List Pg)(n:BL)(c9:List BL):Nat->List BL×List BL
 | 0=>(mF c9,[])
 | i+1=>xV w n (rN w n c9 i) i
theorem jN{α:Type}[DecidableEq α]:∀ {l u:List α},l.Nodup->(∀ x,x∈l->x∈u)->l.length<=u.length
 | [],_,_,_=>by simp
 | x::r,u,hn,hs=>by
   have hx:=hs x Z8
   have P7:=List.nodup_cons.1 hn
   have h:=jN (l:=r) (u:=u.erase x) P7.2 (fun y hy=>(List.mem_erase_of_ne (by rintro rfl;exact P7.1 hy)).2 (hs y (by simp[hy])))
   rw[List.length_erase_of_mem hx]at h
   have:=List.length_pos_of_mem hx
   simp only[YV];omega
theorem xm{l:List BL}{s:BL}(h:l.Nodup):(jC l s).Nodup:=by
 unfold jC
 split
 exact h
 rename_i hc
 have hc:s ∉ l:=by simpa using hc
 rw[List.nodup_append]
 refine⟨h,Z8,fun a ha b hb=>?_⟩
 rw[YZ.1 hb]
 rintro rfl;exact hc ha
theorem uW:∀ (f:List BL) {l:List BL},l.Nodup->(f.foldl jC l).Nodup
 | [],_,h=>h
 | s::f,_,h=>uW f (xm h)
theorem yI:∀ (f:List BL) {l:List BL} {x:BL},x∈f.foldl jC l↔x∈l\/x∈f
 | [],_,_=>by simp
 | s::f,l,x=>by
   rw[List.foldl_cons,yI f,rU,List.mem_cons]
   constructor
   rintro ((h | h) | h)
   exact .inl h
   exact .inr (.inl h)
   exact .inr (.inr h)
   rintro (h | h | h)
   exact .inl (.inl h)
   exact .inl (.inr h)
   exact .inr h
theorem sT:∀ (f:List BL) {l:List BL},l.Nodup->(f.foldl eT l).Nodup
 | [],_,h=>h
 | s::f,_,h=>sT f (by unfold eT;split;exact xm h;exact h)
theorem xg:∀ (f:List BL) {l:List BL} {x:BL},x∈f.foldl eT l↔x∈l\/(x∈f/\az x=true)
 | [],_,_=>by simp
 | s::f,l,x=>by
   rw[List.foldl_cons,xg f,List.mem_cons]
   unfold eT
   split
   rename_i h
   rw[rU]
   constructor
   rintro ((h1 | rfl) | h1)
   exact .inl h1
   exact .inr ⟨.inl rfl,h⟩
   exact .inr ⟨.inr h1.1,h1.2⟩
   rintro (h1 | ⟨rfl | h1,h2⟩)
   exact .inl (.inl h1)
   exact .inl (.inr rfl)
   exact .inr ⟨h1,h2⟩
   rename_i h
   constructor
   rintro (h1 | h1)
   exact .inl h1
   exact .inr ⟨.inr h1.1,h1.2⟩
   rintro (h1 | ⟨rfl | h1,h2⟩)
   exact .inl h1
   exact absurd h2 h
   exact .inr ⟨h1,h2⟩
def yy(w:List Pg)(c9:List BL):List BL:=c9++(w.map fun p=>eA w p.addr).flatten
theorem FW(a:BL)(k:Int)(t:BL):(ye a k t).length<=300:=by
 unfold ye
 split
 exact(BH _ _).1
 split <;> simp
theorem Ds(w:List Pg)(a:BL):(eA w a).length<=300:=by
 unfold eA
 split
 exact FW _ _ _
 simp
theorem zi{α:Type}{f:α->List BL}{n:Nat}(h:∀ a,(f a).length<=n):∀ l:List α,(l.map f).flatten.length<=n*l.length
 | []=>by simp
 | a::l=>by
   have:=zi h l
   have ha:=h a
   simp only[Zi,List.flatten_cons,YT,YV,Nat.mul_add,Nat.mul_one]
   omega
theorem Av{w:List Pg}(h:an w=true):w.length<=12:=by
 unfold an at h
 simp only[YS,Zo]at h
 exact h.2
theorem Iz{w:List Pg}{c9:List BL}(hw:an w=true)(hs:c9.length<=12):(yy w c9).length<=3700:=by
 have:=zi (Ds w ·.addr) w
 have:=Av hw
 unfold yy
 rw[YT]
 omega
theorem at_mem{a:BL}:∀ {w:List Pg},(B7 w a).2=true->∃ p,p∈w/\p.addr=a/\(B7 w a).1=p
 | [],h=>by simp[B7]at h
 | p::r,h=>by
   unfold B7 at h ⊢
   split
   rename_i e;exact⟨p,Z8,by simpa using e,rfl⟩
   rename_i e
   rw[if_neg e]at h
   obtain⟨q,h1,h2,h3⟩:=at_mem h
   exact⟨q,by simp[h1],h2,h3⟩
theorem GR{w:List Pg}{a x:BL}(h:x∈eA w a):∃ p,p∈w/\p.addr=a:=by
 unfold eA at h
 split at h
 cases e:(B7 w a).2 with
 | true=>obtain⟨p,h1,h2,_⟩:=at_mem e;exact⟨p,h1,h2⟩
 | false=>
   rw[show af w a 2=(0,[]) from if_pos e]at h
   simp[ye]at h
 simp at h
theorem Em{w:List Pg}{c9:List BL}{a x:BL}(h:x∈eA w a):x∈yy w c9:=by
 obtain⟨p,hp,rfl⟩:=GR h
 exact List.mem_append_right _ (List.mem_flatten.2 ⟨_,List.mem_map.2 ⟨p,hp,rfl⟩,h⟩)
theorem yV(w:List Pg)(n:BL)(c9:List BL):∀ i,(rN w n c9 i).1.Nodup/\∀ x,x∈(rN w n c9 i).1->x∈yy w c9
 | 0=>⟨sT c9 Z8,fun x hx=>List.mem_append_left _ (by
    have:=(xg c9).1 hx
    simp at this;exact this.1)⟩
 | i+1=>by
   obtain⟨h1,h2⟩:=yV w n c9 i
   show (xV w n (rN w n c9 i) i).1.Nodup/\∀ x,x∈(xV w n (rN w n c9 i) i).1->x∈yy w c9
   revert h1 h2
   generalize rN w n c9 i=X
   intro h1 h2
   unfold xV
   split
   exact⟨uW _ h1,fun x hx=>((yI _).1 hx).elim (h2 x) Em⟩
   exact⟨h1,h2⟩
theorem JV{w:List Pg}{n:BL}{c9:List BL}(hw:an w=true)(hs:c9.length<=12)(i:Nat):(rN w n c9 i).1.length<=3700:=
 Nat.le_trans (jN (yV w n c9 i).1 (yV w n c9 i).2) (Iz hw hs)
section
variable {N:Nat} {A A' B:AS} {P:Program}
end
theorem Ka{l:List BL}{y:BL}{i:Nat}(h:i<l.length)(e:l.getD i []=y):l.contains y=true:=by
 rw[YQ,YX h]at e
 simp only[Option.getD_some]at e
 simp only[List.contains_iff_mem]
 exact e ▸ List.getElem_mem h
theorem Lu{l:List BL}{y:BL}(h:∀ j,j<l.length->l.getD j []≠y):l.contains y=false:=by
 rw[Bool.eq_false_iff]
 simp only[ne_eq,List.contains_iff_mem]
 intro hm
 obtain⟨j,hj,e⟩:=Zk.1 hm
 have:=h j hj
 rw[YQ,YX hj]at this
 exact this e
theorem c8{c k:UInt8}(h:((c.toNat:Nat):Int)=((k.toNat:Nat):Int)):c=k:=UInt8.toNat_inj.1 Z9
theorem Tl{c k:UInt8}(h: ¬ ((c.toNat:Nat):Int)=((k.toNat:Nat):Int)): ¬ c=k:=fun e=>h (by rw[e])
theorem b8{c k:UInt8}:(c==k)=(((c.toNat:Nat):Int)==((k.toNat:Nat):Int)):=by
 rw[Za,Zp,Zp,<- UInt8.toNat_inj];omega
theorem Ml{t:BL}{o:List BL}{r:Bool}{q i:Nat}(h:0<q)(e:t.getD i 0=62):eB t (o,r,q) i=(o++[(t.take i).drop (q-1)],r,0):=if_pos ⟨h,e⟩
theorem Mw{t:BL}{o:List BL}{r:Bool}{q i:Nat}(h:0<q)(e: ¬ t.getD i 0=62):eB t (o,r,q) i=(o,r,q):=by
 unfold eB
 rw[if_neg (fun c=>e c.2),if_pos h]
theorem Mn{t:BL}{o:List BL}{r:Bool}{i:Nat}(h:r=true):eB t (o,r,0) i=(o,!(t.getD i 0==41),0):=by
 unfold eB
 rw[if_neg (fun c=>absurd c.1 Z8),if_neg Z8,if_pos h]
theorem MA{t:BL}{o:List BL}{r:Bool}{i:Nat}(h:r=false)(e:t.getD i 0=40):eB t (o,r,0) i=(o,true,0):=by
 unfold eB
 rw[if_neg (fun c=>absurd c.1 Z8),if_neg Z8,if_neg (by rw[h];exact Bool.false_ne_true),if_pos e]
theorem Mx{t:BL}{o:List BL}{r:Bool}{i:Nat}(h:r=false)(e: ¬ t.getD i 0=40)(e2:t.getD i 0=60):eB t (o,r,0) i=(o,false,i+2):=by
 unfold eB
 rw[if_neg (fun c=>absurd c.1 Z8),if_neg Z8,if_neg (by rw[h];exact Bool.false_ne_true),if_neg e,if_pos e2]
theorem MF{t:BL}{o:List BL}{r:Bool}{i:Nat}(h:r=false)(e: ¬ t.getD i 0=40)(e2: ¬ t.getD i 0=60):eB t (o,r,0) i=(o,r,0):=by
 unfold eB
 rw[if_neg (fun c=>absurd c.1 Z8),if_neg Z8,if_neg (by rw[h];exact Bool.false_ne_true),if_neg e,if_neg e2]
theorem GK(t:BL):((cO t).getD []).length<=300:=by
 cases h:cO t with
 | none=>simp
 | some r=>exact(AM h).1
theorem Iy{l:List BL}{k m:Nat}(h:∀ i,(l.getD i []).length<=m):∀ i,((l.take k).getD i []).length<=m:=fun i=>by
 have:=h i
 rw[YQ]at this ⊢
 rw[List.getElem?_take]
 split
 exact this
 simp
theorem Ab{a:r8}{ref:BL}(h:aG a=true/\(ref.length:Int)<=60):H8 a ref=if 2<=(ae 35 ref).1.length/\(ae 35 ref).1.take 2=[47,47] then dA ((ae 35 ref).1.drop 2)
 else if (ae 35 ref).1=[] then some a
 else if eO (ae 35 ref).1=47 then cy a.c5 [] (ae 35 ref).1
 else if eO (ae 35 ref).1=63 then cy a.c5 a.b9 (ae 35 ref).1
 else cy a.c5 (a.b9.take (a.b9.length-1)) (ae 35 ref).1:=by
 unfold H8
 rw[if_neg (by rintro (c | c);rw[h.1]at c;cases c;omega)]
theorem Ia{s:BL}{k:UInt8}(h:(((s.getD 0 0).toNat:Nat):Int)=((k.toNat:Nat):Int)):eO s=k:=UInt8.toNat_inj.1 (by unfold eO;omega)
theorem Cc{s:BL}{k:UInt8}(h: ¬ (((s.getD 0 0).toNat:Nat):Int)=((k.toNat:Nat):Int)): ¬ eO s=k:=fun c=>h (by rw[<- c];rfl)
theorem wD{a:r8}{t:BL}(h:(cO t).isSome=true)(h2:(H8 a ((cO t).getD [])).isSome=true):oA (H8 a ((cO t).getD []))=gY a t:=by
 unfold gY
 cases e:cO t with
 | none=>rw[e]at h;cases h
 | some r=>
   rw[e]at h2
   simp only[Option.getD_some]at h2 ⊢
   cases e2:H8 a r with
   | none=>rw[e2]at h2;cases h2
   | some x=>rfl
theorem wo{a:r8}{t:BL}(h:(cO t).isSome=true)(h2:(H8 a ((cO t).getD [])).isSome=false):a=gY a t:=by
 unfold gY
 cases e:cO t with
 | none=>rfl
 | some r=>
   rw[e]at h2
   simp only[Option.getD_some]at h2 ⊢
   cases e2:H8 a r with
   | none=>rfl
   | some x=>rw[e2]at h2;cases h2
theorem wM{a:r8}{t:BL}(h:(cO t).isSome=false):a=gY a t:=by
 unfold gY
 cases e:cO t with
 | none=>rfl
 | some r=>rw[e]at h;cases h
def N3(r:Bool)(q:Nat):Int:=if 0<q then 1 else if r=true then 2 else 0
theorem Fk(r:Bool)(q:Nat):N3 r q=0\/N3 r q=1\/N3 r q=2:=by
 unfold N3
 split
 exact .inr (.inl rfl)
 split
 exact .inr (.inr rfl)
 exact .inl rfl
theorem Kv{r:Bool}{q:Nat}(h:N3 r q=1):0<q/\True:=by
 unfold N3 at h
 split at h
 rename_i hc;exact⟨hc,trivial⟩
 split at h <;> omega
theorem Mp{r:Bool}{q:Nat}(h:N3 r q=2):q=0/\r=true:=by
 unfold N3 at h
 split at h
 omega
 rename_i h1
 split at h
 rename_i h2;exact⟨Z9,h2⟩
 omega
theorem Mi{r:Bool}{q:Nat}(h:N3 r q=0):q=0/\r=false:=by
 unfold N3 at h
 split at h
 omega
 rename_i h1
 split at h
 omega
 rename_i h2;exact⟨Z9,by simpa using h2⟩
theorem KQ{t:BL}{o:List BL}{r:Bool}{q i b:Nat}(hq:0<q)(hb:b+1=q):eB t (o,r,q) i=(if t.getD i 0=62 then o++[(t.take i).drop b] else o,r,if t.getD i 0=62 then 0 else q):=by
 by_cases h:t.getD i 0=62
 rw[Ml hq h,if_pos h,if_pos h,show q-1=b from Z9]
 rw[Mw hq h,if_neg h,if_neg h]
theorem JT{t:BL}{o:List BL}{i:Nat}:eB t (o,false,0) i=(o,t.getD i 0==40,if t.getD i 0=60 then i+2 else 0):=by
 by_cases h:t.getD i 0=40
 rw[MA rfl h,if_neg (by rw[h];decide),h];rfl
 by_cases h2:t.getD i 0=60
 rw[Mx rfl h h2,if_pos h2,h2];rfl
 rw[MF rfl h h2,if_neg h2,show (t.getD i 0==40)=false from by simpa using h]
theorem Fm{c:UInt8}{r:Bool}{q:Nat}(hr:r=false)(hq:0<q):(if c=62 then (0:Int) else 1)=N3 r (if c=62 then 0 else q):=by
 subst hr
 unfold N3
 by_cases h:c=62
 simp[h]
 simp[h,hq]
theorem Gc{c:UInt8}:(if c=41 then (0:Int) else 2)=N3 (!(c==41)) 0:=by
 unfold N3
 by_cases h:c=41
 simp[h]
 simp[h]
theorem Gi{c:UInt8}{i:Nat}:(if c=60 then (1:Int) else if c=40 then 2 else 0)=N3 (c==40) (if c=60 then i+2 else 0):=by
 unfold N3
 by_cases h:c=60
 simp[h]
 by_cases h2:c=40
 simp[h2]
 simp[h,h2]
def AD(i:Nat)(c:UInt8)(u:Nat)(v:Nat)(s:Int)(b:Nat):o6 Tryz.prog:=.mk 205 [iN i,uN c.toNat,.ptr (.key 1000) [] u 0,.ptr (.key 1001) [] v 0] [(1000,(u,iV s)),(1001,(v,iN b))] (i<=1000) (.tup []) [(1000,(u,iV (if c=60 then 1 else if c=40 then 2 else s))),(1001,(v,iN (if c=60 then i+1 else b)))] (by
 intro hi
 refine av (N:=13) (rs:=[]) Tryz.func205
  (.q 1<|.q 2<|.br (.q 2<|.st none<|.st none<|.nil) (.q 2<|.br (.st none<|.nil) (.nil)))
  (Br (o9 (c.toNat:Int) 60) (m8 ((i:Int)+1)/\Z u 0/\Z v 0/\Q (.tup []) (.tup [])/\Qr u (iN 1) u (iV (if c=60 then 1 else if c=40 then 2 else s))/\Qr v (iN (i+1)) v (iN (if c=60 then i+1 else b))) (Br (o9 (c.toNat:Int) 40) (Z u 0/\Q (.tup []) (.tup [])/\Qr u (iN 2) u (iV (if c=60 then 1 else if c=40 then 2 else s))/\Qr v (iN b) v (iN (if c=60 then i+1 else b))) (Q (.tup []) (.tup [])/\Qr u (iV s) u (iV (if c=60 then 1 else if c=40 then 2 else s))/\Qr v (iN b) v (iN (if c=60 then i+1 else b))))) ?_
 refine bI (fun j7=>?_) fun j7=>?_
 refine⟨Z9,rfl,rfl,?_⟩
 refine⟨?_,by rw[if_pos (c8 (k:=60) j7)] <;> rfl,by rw[if_pos (c8 (k:=60) j7)] <;> rfl⟩
 unfold Q
 rfl
 refine bI (fun l6=>?_) fun l6=>?_
 refine⟨rfl,?_⟩
 refine⟨?_,by rw[if_neg (Tl (k:=60) j7),if_pos (c8 (k:=40) l6)] <;> rfl,by rw[if_neg (Tl (k:=60) j7)] <;> rfl⟩
 unfold Q
 rfl
 refine⟨?_,by rw[if_neg (Tl (k:=60) j7),if_neg (Tl (k:=40) l6)] <;> rfl,by rw[if_neg (Tl (k:=60) j7)] <;> rfl⟩
 unfold Q
 rfl)
def EX(i:Nat)(c:UInt8)(u:Nat)(v:Nat)(p:Nat)(q:Nat)(o:List BL)(t:BL)(b:Nat)(s:Int):o6 Tryz.prog:=.mk 206 [iN i,uN c.toNat,.ptr (.key 1000) [] u 0,.ptr (.key 1001) [] v 0,.ptr (.key 1002) [] p 0,.ptr (.key 1003) [] q 0] [(1000,(u,.ow 1 (o.map sV))),(1001,(v,sV t)),(1002,(p,iN b)),(1003,(q,iV s))] ((b<=i)/\(i<=t.length)/\(o.length<=1000)) (.tup []) [(1000,(u,.ow 1 ((if c=62 then o++[(t.take i).drop b] else o).map sV))),(1001,(v,sV t)),(1002,(p,iN b)),(1003,(q,iV (if c=62 then 0 else s)))] (by
 rintro⟨hb,hi,ho⟩
 refine av (N:=17) (rs:=[]) Tryz.func206
  (.q 2<|.br (.oR (.key 1000) [] (fun gA oA cA=>.dx 7 [0,1,2,3,4,5,6] [(0,⟨false,[],some [1000],[10],[]⟩),(1,⟨false,[],some [1001],[11],[]⟩),(2,⟨false,[],some [1002],[12],[]⟩),(6,⟨true,[],none,[16],[1000]⟩)] []<|.r 1 [.a8]<|.r 1 [.a8]<|.r 1 [.a8]<|.q 1<|.q 1<|.bs<|.ux none (fun g16 Uo UQ=>.h (.o4 16 (.own 1 ((o++[(t.take i).drop b]).map sV) g16 Uo UQ))<|.st none<|.st none<|.nil))) (.nil))
  ((fun v1:List V=>(fun v2:V=>(Br (o9 (c.toNat:Int) 62) (∀ gA oA cA:Nat,Z u 0/\Z v 0/\Z p 0/\Sx (b:Int) (i:Int) t/\(((1,1,gA,oA,cA,(o.map sV).length)=(1,1,gA,oA,cA,(o.map sV).length))/\(V.aE v1=false)/\(aJ 1 v1)/\(((o.map sV).length+v1.length)*16<=140737488355328))/\∀ g16 Uo UQ:Nat,((.own 1 ((o.map sV)++v1) g16 Uo UQ:V)=.own 1 ((o++[(t.take i).drop b]).map sV) g16 Uo UQ)/\Z u 0/\Z q 0/\Q (.tup []) (.tup [])/\Qr u (.ow 1 ((o++[(t.take i).drop b]).map sV)) u v2/\Er v (sV t)/\Er p (iN b)/\Qr q (iN 0) q (iV (if c=62 then 0 else s))) (Q (.tup []) (.tup [])/\Qr u (.ow 1 (o.map sV)) u v2/\Er v (sV t)/\Er p (iN b)/\Qr q (iV s) q (iV (if c=62 then 0 else s))))) (.ow 1 ((if c=62 then o++[(t.take i).drop b] else o).map sV))) ([sV ((t.take i).drop b)]:List V)) ?_
 refine bI (fun j7=>?_) fun j7=>?_
 intro gA oA cA
 refine⟨rfl,rfl,rfl,Z9,⟨rfl,rfl,by simp[aJ,V.n,V.ns],Z0⟩,?_⟩
 intro g16 Uo UQ
 refine⟨Zq (V.own 1 · g16 Uo UQ) Z8,rfl,rfl,?_⟩
 refine⟨?_,by rw[if_pos (c8 (k:=62) j7)] <;> rfl,rfl,rfl,by rw[if_pos (c8 (k:=62) j7)] <;> rfl⟩
 unfold Q
 rfl
 refine⟨?_,by rw[if_neg (Tl (k:=62) j7)] <;> rfl,rfl,rfl,by rw[if_neg (Tl (k:=62) j7)] <;> rfl⟩
 unfold Q
 rfl)
def Ee(i:Nat)(c:UInt8)(u:Nat)(s:Int):o6 Tryz.prog:=.mk 207 [iN i,uN c.toNat,.ptr (.key 1000) [] u 0] [(1000,(u,iV s))] True (.tup []) [(1000,(u,iV (if c=41 then 0 else s)))] (by
 intro _
 refine av (N:=7) (rs:=[]) Tryz.func207
  (.q 2<|.br (.st none<|.nil) (.nil))
  (Br (o9 (c.toNat:Int) 41) (Z u 0/\Q (.tup []) (.tup [])/\Qr u (iN 0) u (iV (if c=41 then 0 else s))) (Q (.tup []) (.tup [])/\Qr u (iV s) u (iV (if c=41 then 0 else s)))) ?_
 refine bI (fun j7=>?_) fun j7=>?_
 refine⟨rfl,?_⟩
 refine⟨?_,by rw[if_pos (c8 (k:=41) j7)] <;> rfl⟩
 unfold Q
 rfl
 refine⟨?_,by rw[if_neg (Tl (k:=41) j7)] <;> rfl⟩
 unfold Q
 rfl)
def kI(t:BL):o6 Tryz.prog:=.mk 201 [sV t] [] (t.length<=4611686018427387904) (ao (aL t)) [] (by
 intro ht
 refine av (N:=32) (rs:=[.tmp 2]) Tryz.func201
  (.bx (fun g1=>.q 1<|.r 3 [.a8]<|.br (.q 1<|.nil) (.al MB (fun g3=>.al XT (fun g4=>.al XT (fun g5=>.st none<|.st none<|.al LJ (fun g6=>.cu RW (fun _=>.q 1<|.st none<|.cu RW (fun _=>.q 1<|.st none<|.cu RW (fun _=>.q 1<|.st none<|.q 1<|.h (.y7 (.key 3) [] 1)<|.loop (Nat×(List BL)×Bool×Nat×Int×Nat) (fun (i,o,r,q,s,b)=>⟨[(1,.ptr (.key 1) [] g1 0),(3,.ptr (.key 3) [] g3 0),(4,.ptr (.key 4) [] g4 0),(5,.ptr (.key 5) [] g5 0),(6,.ptr (.key 6) [] g6 0),(7,iN i)],[(1,(g1,sV t)),(3,(g3,.ow 1 (o.map sV))),(4,(g4,iV s)),(5,(g5,iN b)),(6,(g6,.agg [.lit (.func (.func 205) #[] #[.pointer (some ⟨g4,0,none⟩),.pointer (some ⟨g5,0,none⟩)]),.lit (.func (.func 206) #[] #[.pointer (some ⟨g3,0,none⟩),.pointer (some ⟨g1,0,none⟩),.pointer (some ⟨g5,0,none⟩),.pointer (some ⟨g4,0,none⟩)]),.lit (.func (.func 207) #[] #[.pointer (some ⟨g4,0,none⟩)])]))]⟩) (fun (i,o,r,q,s,b)=>i<=t.length/\dN t i=(o,r,q)/\s=N3 r q/\(0<q->b+1=q)) (fun (i,o,r,q,s,b)=>t.length-i) (fun (i,o,r,q,s,b)=>.r 2 [.a8]<|.sp (o9 s 1) (.h (.B0 4 (iV 1))<|.q 1<|.q 1<|.br (.dx 7 [0,1,2,3,4,5,6] [(0,⟨false,[],some [4],[23],[]⟩),(2,⟨false,[],some [6],[25],[]⟩),(4,⟨false,[],some [1],[27],[]⟩)] []<|.r 1 [.a8]<|.q 1<|.r 1 [.a8]<|.q 1<|.r 1 [.a8]<|.q 1<|.q 1<|.c (EX i (t.getD i 0) g3 g1 g5 g4 o t b (1:Int)) [(1000,3),(1001,1),(1002,5),(1003,4)]<|.q 3<|.nil) (.oR (.key 3) [] (fun gE oE cE=>.mv<|.h (.fz 31)<|.h (.o4 31 (ao o))<|.q 1<|.nil))) (.q 1<|.sp (o9 s 2) (.h (.B0 4 (iV 2))<|.q 1<|.br (.dx 7 [0,1,2,3,4,5,6] [(0,⟨false,[],some [4],[23],[]⟩),(2,⟨false,[],some [6],[25],[]⟩),(4,⟨false,[],some [1],[27],[]⟩)] []<|.r 1 [.a8]<|.q 1<|.r 1 [.a8]<|.q 1<|.r 1 [.a8]<|.q 1<|.q 1<|.c (Ee i (t.getD i 0) g4 (2:Int)) [(1000,4)]<|.q 3<|.nil) (.oR (.key 3) [] (fun gE oE cE=>.mv<|.h (.fz 31)<|.h (.o4 31 (ao o))<|.q 1<|.nil))) (.h (.B0 4 (iV 0))<|.q 1<|.br (.dx 7 [0,1,2,3,4,5,6] [(0,⟨false,[],some [4],[23],[]⟩),(2,⟨false,[],some [6],[25],[]⟩),(4,⟨false,[],some [1],[27],[]⟩)] []<|.r 1 [.a8]<|.q 1<|.r 1 [.a8]<|.q 1<|.r 1 [.a8]<|.q 1<|.q 1<|.c (AD i (t.getD i 0) g4 g5 (0:Int) b) [(1000,4),(1001,5)]<|.q 3<|.nil) (.oR (.key 3) [] (fun gE oE cE=>.mv<|.h (.fz 31)<|.h (.o4 31 (ao o))<|.q 1<|.nil)))))))))))))))
  (∀ g1:Nat,(fun v1:V=>Z g1 0/\Br (s9 (t.length:Int) 300) (Q (.sl false []) (ao (aL t))) (∀ g3:Nat,(fun v2:V=> ∀ g4:Nat,(fun v3:V=> ∀ g5:Nat,(fun v4:V=>(fun v5:V=>Z g4 0/\Z g5 0/\∀ g6:Nat,(fun v6:V=>((Value.func (.func 205) #[] #[.pointer (some ⟨g4,0,none⟩),.pointer (some ⟨g5,0,none⟩)]).oneCell'=true)/\∀ _:Unit,((0:Int)<=0/\(0:Int)<3)/\Z g6 0/\((Value.func (.func 206) #[] #[.pointer (some ⟨g3,0,none⟩),.pointer (some ⟨g1,0,none⟩),.pointer (some ⟨g5,0,none⟩),.pointer (some ⟨g4,0,none⟩)]).oneCell'=true)/\∀ _:Unit,((0:Int)<=1/\(1:Int)<3)/\Z g6 1/\((Value.func (.func 207) #[] #[.pointer (some ⟨g4,0,none⟩)]).oneCell'=true)/\∀ _:Unit,((0:Int)<=2/\(2:Int)<3)/\Z g6 2/\(∃ x:Nat×(List BL)×Bool×Nat×Int×Nat,match x with | (j6,w4,J8,z7,U3,M7)=>(j6<=t.length/\dN t j6=(w4,J8,z7)/\U3=N3 J8 z7/\(0<z7->M7+1=z7))/\E v1/\E v2/\E v3/\E v5/\E v6/\Q (iN 0) (iN j6)/\Er g1 (sV t)/\Qr g3 (.ow 1 ([].map sV)) g3 (.ow 1 (w4.map sV))/\Qr g4 (iN 0) g4 (iV U3)/\Qr g5 (iN 0) g5 (iN M7)/\Er g6 v4/\True)/\∀ x:Nat×(List BL)×Bool×Nat×Int×Nat,match x with | (i,o,r,q,s,b)=>(i<=t.length/\dN t i=(o,r,q)/\s=N3 r q/\(0<q->b+1=q))->(fun v7:V=>(fun v8:Bool=>Z g1 0/\((o9 s 1)=true->((iV s:V)=iV 1)/\Br v8 (Z g4 0/\((0:Int)<=1/\(1:Int)<3)/\Z g6 1/\Z g1 0/\Ix (i:Int) t/\(EX i (t.getD i 0) g3 g1 g5 g4 o t b (1:Int)).sm/\Er g3 (.ow 1 (o.map sV))/\Er g1 (sV t)/\Er g5 (iN b)/\Er g4 (iV (1:Int))/\((b<=i)/\(i<=t.length)/\(o.length<=1000))/\m8 ((i:Int)+1)/\∃ x:Nat×(List BL)×Bool×Nat×Int×Nat,match x with | (b7,l9,w7,n9,OT,B3)=>(b7<=t.length/\dN t b7=(l9,w7,n9)/\OT=N3 w7 n9/\(0<n9->B3+1=n9))/\(t.length-b7<t.length-i)/\E v1/\E v2/\E v3/\E v5/\E v6/\Q (iN (i+1)) (iN b7)/\Er g1 (sV t)/\Qr g3 (.ow 1 ((if (t.getD i 0)=62 then o++[(t.take i).drop b] else o).map sV)) g3 (.ow 1 (l9.map sV))/\Qr g4 (iV (if (t.getD i 0)=62 then 0 else (1:Int))) g4 (iV OT)/\Qr g5 (iN b) g5 (iN B3)/\Er g6 v4/\True) (∀ gE oE cE:Nat,Z g3 0/\(v7=ao o)/\Q (ao o) (ao (aL t))))/\((o9 s 1)=false->((o9 s 2)=true->((iV s:V)=iV 2)/\Br v8 (Z g4 0/\((0:Int)<=2/\(2:Int)<3)/\Z g6 2/\Z g1 0/\Ix (i:Int) t/\(Ee i (t.getD i 0) g4 (2:Int)).sm/\Er g4 (iV (2:Int))/\(True)/\m8 ((i:Int)+1)/\∃ x:Nat×(List BL)×Bool×Nat×Int×Nat,match x with | (b7,l9,w7,n9,OT,B3)=>(b7<=t.length/\dN t b7=(l9,w7,n9)/\OT=N3 w7 n9/\(0<n9->B3+1=n9))/\(t.length-b7<t.length-i)/\E v1/\E v2/\E v3/\E v5/\E v6/\Q (iN (i+1)) (iN b7)/\Er g1 (sV t)/\Qr g3 (.ow 1 (o.map sV)) g3 (.ow 1 (l9.map sV))/\Qr g4 (iV (if (t.getD i 0)=41 then 0 else (2:Int))) g4 (iV OT)/\Qr g5 (iN b) g5 (iN B3)/\Er g6 v4/\True) (∀ gE oE cE:Nat,Z g3 0/\(v7=ao o)/\Q (ao o) (ao (aL t))))/\((o9 s 2)=false->((iV s:V)=iV 0)/\Br v8 (Z g4 0/\((0:Int)<=0/\(0:Int)<3)/\Z g6 0/\Z g1 0/\Ix (i:Int) t/\(AD i (t.getD i 0) g4 g5 (0:Int) b).sm/\Er g4 (iV (0:Int))/\Er g5 (iN b)/\((i<=1000))/\m8 ((i:Int)+1)/\∃ x:Nat×(List BL)×Bool×Nat×Int×Nat,match x with | (b7,l9,w7,n9,OT,B3)=>(b7<=t.length/\dN t b7=(l9,w7,n9)/\OT=N3 w7 n9/\(0<n9->B3+1=n9))/\(t.length-b7<t.length-i)/\E v1/\E v2/\E v3/\E v5/\E v6/\Q (iN (i+1)) (iN b7)/\Er g1 (sV t)/\Qr g3 (.ow 1 (o.map sV)) g3 (.ow 1 (l9.map sV))/\Qr g4 (iV (if (t.getD i 0)=60 then 1 else if (t.getD i 0)=40 then 2 else (0:Int))) g4 (iV OT)/\Qr g5 (iN (if (t.getD i 0)=60 then i+1 else b)) g5 (iN B3)/\Er g6 v4/\True) (∀ gE oE cE:Nat,Z g3 0/\(v7=ao o)/\Q (ao o) (ao (aL t)))))) (r9 (i:Int) (t.length:Int))) (.sl false (V.B8 (o.map sV)):V)) (.ptr (.key 6) [] g6 0)) (.ptr (.key 5) [] g5 0)) (.agg [.lit (.func (.func 205) #[] #[.pointer (some ⟨g4,0,none⟩),.pointer (some ⟨g5,0,none⟩)]),.lit (.func (.func 206) #[] #[.pointer (some ⟨g3,0,none⟩),.pointer (some ⟨g1,0,none⟩),.pointer (some ⟨g5,0,none⟩),.pointer (some ⟨g4,0,none⟩)]),.lit (.func (.func 207) #[] #[.pointer (some ⟨g4,0,none⟩)])])) (.ptr (.key 4) [] g4 0)) (.ptr (.key 3) [] g3 0))) (.ptr (.key 1) [] g1 0)) ?_
 intro g1
 refine⟨rfl,?_⟩
 refine bI (fun j7=>?_) fun j7=>?_
 unfold Q
 rw[show aL t=[] from if_neg Z9]
 rfl
 intro g3
 intro g4
 intro g5
 refine⟨rfl,rfl,?_⟩
 intro g6
 refine⟨rfl,?_⟩
 intro _
 refine⟨Z9,rfl,rfl,?_⟩
 intro _
 refine⟨Z9,rfl,rfl,?_⟩
 intro _
 refine⟨Z9,rfl,?_⟩
 refine⟨⟨(0,[],false,0,0,0),?_,rfl,rfl,rfl,rfl,rfl,rfl,rfl,rfl,Z4,rfl,rfl,trivial⟩,?_⟩
 exact⟨Z9,rfl,rfl,fun h=>absurd h Z6⟩
 rintro⟨i,o,r,q,s,b⟩ ⟨h1,h2,h3,h4⟩
 have V':=wA t i
 rw[h2]at V'
 have Wa:=V'.len
 have hm3:=V'.pos
 have Yo:=V'.one
 simp only at Wa hm3 Yo
 have y8:=Fk r q
 refine⟨rfl,?_⟩
 refine⟨fun PK=>?_,fun PK=>?_⟩
 have PO:=PK
 try simp only[nb]at PO
 refine⟨Zq iV Z9,?_⟩
 refine bI (fun l6=>?_) fun l6=>?_
 refine⟨rfl,Z9,rfl,rfl,Z9,rfl,rfl,rfl,rfl,rfl,⟨by have hz1:=Kv (h3.symm.trans Z9);have MM:=h4 hz1.1;omega,Z9,Z9⟩,Z9,?_⟩
 refine⟨(i+1,if (t.getD i 0)=62 then o++[(t.take i).drop b] else o,r,if (t.getD i 0)=62 then 0 else q,if (t.getD i 0)=62 then 0 else (1:Int),b),?_,?_,rfl,rfl,rfl,rfl,rfl,rfl,rfl,rfl,rfl,rfl,rfl,trivial⟩
 obtain⟨R4,TO⟩:=Kv (h3.symm.trans Z9)
 exact⟨Z9,by rw[show dN t (i+1)=eB t (dN t i) i from rfl,h2,KQ R4 (h4 R4)],(Fm (Yo R4) R4),fun hq=>by split at hq;omega;rw[if_neg (by assumption)];exact h4 R4⟩
 exact Z1
 intro gE oE cE
 refine⟨rfl,Zq (V.sl false) (aM (fun _=>rfl) _),?_⟩
 unfold Q
 rw[show aL t=o from by rw[show aL t=(dN t t.length).1 from if_pos Z9,show t.length=i from Z9,h2]]
 have PO:=PK
 try simp only[nb]at PO
 refine⟨fun PJ=>?_,fun PJ=>?_⟩
 have PN:=PJ
 try simp only[nb]at PN
 refine⟨Zq iV Z9,?_⟩
 refine bI (fun n6=>?_) fun n6=>?_
 refine⟨rfl,Z9,rfl,rfl,Z9,rfl,rfl,trivial,Z9,?_⟩
 refine⟨(i+1,o,!((t.getD i 0)==41),0,if (t.getD i 0)=41 then 0 else (2:Int),b),?_,?_,rfl,rfl,rfl,rfl,rfl,rfl,rfl,rfl,rfl,rfl,rfl,trivial⟩
 obtain⟨rfl,rfl⟩:=Mp (h3.symm.trans Z9)
 exact⟨Z9,by rw[show dN t (i+1)=eB t (dN t i) i from rfl,h2,Mn rfl],Gc,fun hq=>absurd hq Z9⟩
 exact Z1
 intro gE oE cE
 refine⟨rfl,Zq (V.sl false) (aM (fun _=>rfl) _),?_⟩
 unfold Q
 rw[show aL t=o from by rw[show aL t=(dN t t.length).1 from if_pos Z9,show t.length=i from Z9,h2]]
 have PN:=PJ
 try simp only[nb]at PN
 refine⟨Zq iV Z9,?_⟩
 refine bI (fun w6=>?_) fun w6=>?_
 refine⟨rfl,Z9,rfl,rfl,Z9,rfl,rfl,rfl,Z9,Z9,?_⟩
 refine⟨(i+1,o,(t.getD i 0)==40,if (t.getD i 0)=60 then i+2 else 0,if (t.getD i 0)=60 then 1 else if (t.getD i 0)=40 then 2 else (0:Int),if (t.getD i 0)=60 then i+1 else b),?_,?_,rfl,rfl,rfl,rfl,rfl,rfl,rfl,rfl,rfl,rfl,rfl,trivial⟩
 obtain⟨rfl,rfl⟩:=Mi (h3.symm.trans Z9)
 exact⟨Z9,by rw[show dN t (i+1)=eB t (dN t i) i from rfl,h2,JT],Gi,fun hq=>by split at hq;rw[if_pos (by assumption),if_pos (by assumption)];omega⟩
 exact Z1
 intro gE oE cE
 refine⟨rfl,Zq (V.sl false) (aM (fun _=>rfl) _),?_⟩
 unfold Q
 rw[show aL t=o from by rw[show aL t=(dN t t.length).1 from if_pos Z9,show t.length=i from Z9,h2]])
def TB(c:UInt8):Bool:=dV c||(c==37||kg.contains c)
theorem nE(b:UInt8):(eK b).all TB=true:=by
 unfold eK
 split
 rename_i h;simp[TB,h]
 unfold eY
 have h1:b.toNat / 16<16:=by have:=b.toNat_lt;omega
 have h2:b.toNat % 16<16:=Z9
 have hf:∀ k,k<16->TB (kg.getD k 0)=true:=Z6
 simp only[List.all_cons,List.all_nil,Bool.and_true,YS]
 exact⟨Z6,hf _ h1,hf _ h2⟩
theorem tA:∀ (s:BL) {x:BL},bN s=some x->x.all TB=true
 | [],x,h=>by simp[bN]at h;subst h;rfl
 | [c],x,h=>by
   simp only[bN]at h;split at h
   simp at h
   simp only[YR]at h;subst h;exact nE c
 | [c,d],x,h=>by
   simp only[bN]at h;split at h
   simp at h
   simp only[YR]at h;subst h;rw[List.all_append,nE,nE];rfl
 | c::a::b::r,x,h=>by
   simp only[bN]at h
   split at h
   split at h
   simp only[Option.map_eq_some_iff]at h
   obtain⟨y,hy,rfl⟩:=h
   rw[List.all_append,nE,tA r hy];rfl
   simp at h
   simp only[Option.map_eq_some_iff]at h
   obtain⟨y,hy,rfl⟩:=h
   rw[List.all_append,nE,tA (a::b::r) hy];rfl
theorem nI{s:BL}(h:eW s=true):s.all TB=true/\eN s=s/\fj s=true:=by
 unfold eW at h
 simp only[YS,Zp]at h
 refine⟨?_,h.2,h.1⟩
 have h1:=h.1
 have h2:=h.2
 unfold bU at h1 h2
 split at h1
 rename_i hl
 rw[if_pos hl]at h2
 cases e:bN s with
 | none=>rw[e]at h1;cases h1
 | some x=>rw[e]at h2;rw[<- h2];exact tA s e
 cases h1
theorem Lm:∀ c:UInt8,TB c=true->c.toNat<128/\c≠47/\c≠63/\c≠35:=by
 intro c h
 unfold TB dV at h
 simp only[Bool.or_eq_true,Zo,Zp]at h
 have e:∀ k:UInt8,c=k↔c.toNat=k.toNat:=fun k=>UInt8.toNat_inj.symm
 have hf:kg.contains c=true->(48<=c.toNat/\c.toNat<=57)\/(65<=c.toNat/\c.toNat<=70):=by
  intro hc
  simp only[kg,List.contains_cons,List.contains_nil,Bool.or_eq_true,Zp,e,Bool.or_false]at hc
  simp only[show (48:UInt8).toNat=48 from rfl,show (49:UInt8).toNat=49 from rfl,show (50:UInt8).toNat=50 from rfl,show (51:UInt8).toNat=51 from rfl,show (52:UInt8).toNat=52 from rfl,show (53:UInt8).toNat=53 from rfl,show (54:UInt8).toNat=54 from rfl,show (55:UInt8).toNat=55 from rfl,show (56:UInt8).toNat=56 from rfl,show (57:UInt8).toNat=57 from rfl,show (65:UInt8).toNat=65 from rfl,show (66:UInt8).toNat=66 from rfl,show (67:UInt8).toNat=67 from rfl,show (68:UInt8).toNat=68 from rfl,show (69:UInt8).toNat=69 from rfl,show (70:UInt8).toNat=70 from rfl]at hc
  omega
 have h37:c=37->c.toNat=37:=fun h=>by rw[h];rfl
 have hb:(97<=c.toNat/\c.toNat<=122)\/(48<=c.toNat/\c.toNat<=57)\/c.toNat=46\/c.toNat=45\/c.toNat=37\/(65<=c.toNat/\c.toNat<=70):=by
  rcases h with h | h | h
  omega
  have:=h37 h;omega
  have:=hf h;omega
 refine⟨Z9,?_,?_,?_⟩ <;> (intro hc;have:=(e _).1 hc;simp only[show (47:UInt8).toNat=47 from rfl,show (63:UInt8).toNat=63 from rfl,show (35:UInt8).toNat=35 from rfl]at this;omega)
theorem tS{c:UInt8}:∀ {s:BL},(∀ x,x∈s->x≠c)->ae c s=(s,[],false)
 | [],_=>rfl
 | x::r,h=>by
   simp only[ae,if_neg (h x Z8),tS (s:=r) (fun y hy=>h y (by simp[hy]))]
theorem yq{c:UInt8}{r:BL}:∀ {s:BL},(∀ x,x∈s->x≠c)->ae c (s++c::r)=(s,r,true)
 | [],_=>by simp[ae]
 | x::s,h=>by
   rw[List.cons_append]
   simp only[ae,if_neg (h x Z8),yq (s:=s) (r:=r) (fun y hy=>h y (by simp[hy]))]
theorem vc{c:UInt8}:∀ {s:BL},(∀ x,x∈s->x≠c)->ah c s=[s]
 | [],_=>rfl
 | x::r,h=>by
   simp only[ah,if_neg (h x Z8),vc (s:=r) (fun y hy=>h y (by simp[hy]))]
   rfl
theorem pQ{c:UInt8}{r:BL}:∀ {s:BL},(∀ x,x∈s->x≠c)->ah c (s++c::r)=s::ah c r
 | [],_=>by simp[ah]
 | x::s,h=>by
   rw[List.cons_append]
   simp only[ah,if_neg (h x Z8),pQ (s:=s) (r:=r) (fun y hy=>h y (by simp[hy]))]
   rfl
theorem uQ:∀ {ps:List BL},ps≠[]->(∀ p,p∈ps->∀ x,x∈p->x≠47)->ah 47 (ck ps)=ps
 | [],h,_=>absurd rfl h
 | [p],_,h=>vc (h p Z8)
 | p::q::r,_,h=>by
   show ah 47 (p++[47]++ck (q::r))=_
   rw[List.append_assoc]
   show ah 47 (p++47::ck (q::r))=_
   rw[pQ (h p Z8),uQ Z8 fun y hy=>h y (by simp[hy])]
theorem sR:∀ (ps:List BL) {o:List BL},(∀ p,p∈ps->ej p=true)->ps.foldl cR o=o++ps
 | [],o,_=>by simp
 | p::ps,o,h=>by
   have hp:=h p Z8
   unfold ej at hp
   simp only[YS,Bool.not_eq_true',beq_eq_false_iff_ne]at hp
   have e:cR o p=o++[p]:=by
    unfold cR
    rw[if_neg (by rintro (c | c);exact hp.1.1.2 c;exact hp.1.2 c),if_neg hp.2]
   rw[List.foldl_cons,e,sR ps fun q hq=>h q (by simp[hq])]
   simp
theorem eV{a:r8}(h:aG a=true):cM a.c5=true/\a.b9.length<=5/\eW a.ask=true/\(a.asks=true\/a.ask=[])/\(∀ p,p∈a.b9->ej p=true)/\(cJ a).length<=60:=by
 unfold aG at h
 simp only[YS,Zo,Bool.or_eq_true,Zp,Y6]at h
 exact⟨h.1.1.1.1.1,h.1.1.1.1.2,h.1.1.1.2,h.1.1.2,h.1.2,h.2⟩
theorem jO{p:BL}(h:ej p=true):eW p=true:=by
 unfold ej at h
 simp only[YS]at h
 exact h.1.1.1
theorem xy{s:BL}(h:cM s=true):∀ c,c∈s->97<=c.toNat/\c.toNat<=122:=by
 unfold cM fG at h
 simp only[YS]at h
 intro c hc
 have:=Y6.1 h.1 c hc
 unfold gL at this
 simpa using this
theorem rT{p:BL}(h:eW p=true):∀ c,c∈p->c.toNat<128/\c≠47/\c≠63/\c≠35:=fun c hc=>Lm c (Y6.1 (nI h).1 c hc)
theorem BJ{ps:List BL}{k:UInt8}(hk:k≠47):(∀ p,p∈ps->∀ x,x∈p->x≠k)->∀ x,x∈ck ps->x≠k:=by
 induction ps with
 | nil=>intro _ x hx;simp[ck]at hx
 | cons p ps ih=>
   intro h x hx
   cases ps with
   | nil=>exact h p Z8 x hx
   | cons q r=>
     simp only[ck,Y1]at hx
     rcases hx with (hx | hx) | hx
     exact h p Z8 x hx
     rw[YZ.1 hx];exact fun c=>hk c.symm
     exact ih (fun y hy=>h y (by simp[hy])) x hx
theorem Ge{a:r8}(h:aG a=true):cy a.c5 [] (bj a)=some a:=by
 obtain⟨h1,h2,h3,h4,h5,h6⟩:=eV h
 have hj:∀ x,x∈([47]++ck a.b9:BL)->x≠63:=by
  intro x hx
  rcases Y1.1 hx with hx | hx
  rw[YZ.1 hx];decide
  exact BJ Z6 (fun p hp x hx=>(rT (jO (h5 p hp)) x hx).2.2.1) x hx
 have Ni:ae 63 (bj a)=([47]++ck a.b9,a.ask,a.asks):=by
  unfold bj
  cases e:a.asks with
  | true=>
    rw[if_pos rfl]
    exact yq hj
  | false=>
    rw[if_neg Z6,List.append_nil,tS hj]
    rcases h4 with c | c
    rw[e]at c;cases c
    rw[c]
 have hs:ah 47 ([47]++ck a.b9)=[]::(if a.b9=[] then [[]] else a.b9):=by
  show ah 47 ([]++47::ck a.b9)=_
  rw[pQ Z8]
  split
  rename_i e;rw[e];rfl
  rename_i e;rw[uQ e fun p hp x hx=>(rT (jO (h5 p hp)) x hx).2.1]
 have Vy:∀ p,p∈ah 47 ([47]++ck a.b9)->p=[]\/p∈a.b9:=by
  intro p hp
  rw[hs]at hp
  rcases List.mem_cons.1 hp with hp | hp
  exact .inl hp
  split at hp
  exact .inl (YZ.1 hp)
  exact .inr hp
 have Vu:eN []=[]/\fj []=true:=Z6
 have G4:(ah 47 (ae 63 (bj a)).1).all fj=true:=by
  rw[Ni]
  rw[Y6]
  intro p hp
  rcases Vy p hp with rfl | hp
  exact Vu.2
  exact(nI (jO (h5 p hp))).2.2
 have Xk:(ah 47 (ae 63 (bj a)).1).map eN=ah 47 ([47]++ck a.b9):=by
  rw[Ni]
  have:∀ p,p∈ah 47 ([47]++ck a.b9)->eN p=p:=fun p hp=>by
   rcases Vy p hp with rfl | hp
   exact Vu.1
   exact(nI (jO (h5 p hp))).2.1
  exact(List.map_congr_left this).trans (List.map_id _)
 have hcl:bX ([]++ah 47 ([47]++ck a.b9))=a.b9:=by
  rw[List.nil_append,hs]
  unfold bX
  rw[List.foldl_cons]
  have e0:cR [] []=[]:=rfl
  rw[e0]
  split
  rename_i e;rw[e];rfl
  rw[sR _ h5];rfl
 have ha:(⟨a.c5,a.b9,a.asks,a.ask⟩:r8)=a:=rfl
 unfold cy
 rw[G4,Xk,Ni,(nI h3).2.2,(nI h3).2.1,hcl]
 exact(if_pos rfl).trans (if_pos h)
theorem DZ{p:UInt8->Bool}{s r:BL}(h:∀ c,c∈s->p c=true)(hr:∀ c r',r=c::r'->p c=false):(s++r).takeWhile p=s/\(s++r).dropWhile p=r:=by
 induction s with
 | nil=>
   cases r with
   | nil=>exact⟨rfl,rfl⟩
   | cons c r'=>have:=hr c r' rfl;simp[this]
 | cons c s ih=>
   obtain⟨q1,q2⟩:=ih fun d hd=>h d (by simp[hd])
   have:=h c Z8
   simp[this,q1,q2]
theorem Ed{s:BL}(h:∀ c,c∈s->97<=c.toNat/\c.toNat<=122):aT s=s:=by
 unfold aT
 have:∀ c,c∈s->dM c=c:=fun c hc=>by unfold dM;rw[if_neg (by have:=h c hc;omega)]
 exact(List.map_congr_left this).trans (List.map_id _)
theorem BT{a:r8}(h:aG a=true):dA (a.c5++bj a)=some a:=by
 obtain⟨h1,_⟩:=eV h
 have hl:=xy h1
 obtain⟨q1,q2⟩:=DZ (p:=ir) (s:=a.c5) (r:=bj a) (fun c hc=>by have:=hl c hc;unfold ir;rw[Zo];omega) (fun c r' e=>by
  have:c=47:=by unfold bj at e;simp at e;exact e.1.symm
  rw[this];decide)
 unfold dA
 rw[q1,q2,Ed hl,Ge h]
theorem uO{a:r8}(h:aG a=true):∀ c,c∈cJ a->c.toNat<128/\c≠35:=by
 obtain⟨h1,h2,h3,h4,h5,h6⟩:=eV h
 intro c hc
 unfold cJ bj at hc
 simp only[Y1]at hc
 have YE:∀ c:UInt8,c=47->c.toNat<128/\c≠35:=fun c e=>by rw[e];decide
 rcases hc with (hc | hc) | ((hc | hc) | hc)
 refine YE c ?_;simpa using hc
 have:=xy h1 c hc
 exact⟨Z9,fun e=>by rw[e]at this;exact absurd this Z6⟩
 refine YE c ?_;simpa using hc
 exact⟨by
  have:m5 (ck a.b9):=qF fun x hx d hd=>(rT (jO (h5 x hx)) d hd).1
  exact this c hc,BJ Z6 (fun p hp x hx=>(rT (jO (h5 p hp)) x hx).2.2.2) c hc⟩
 split at hc
 rcases Y1.1 hc with hc | hc
 rw[YZ.1 hc];decide
 exact⟨(rT h3 c hc).1,(rT h3 c hc).2.2.2⟩
 simp at hc
theorem ry{a:r8}(h:aG a=true):aw (cJ a)=some a:=by
 have hc:=tS (c:=35) (s:=cJ a) fun x hx=>(uO h x hx).2
 unfold aw
 rw[hc]
 rw[if_pos ⟨(eV h).2.2.2.2.2,by unfold cJ;simp,by unfold cJ;simp⟩]
 show dA ((cJ a).drop 2)=_
 rw[show (cJ a).drop 2=a.c5++bj a from by unfold cJ;simp,BT h]
theorem BR{a:r8}(h:aG a=true):az (cJ a)=true:=wC (by rw[ry h];rfl) (by rw[ry h];rfl)
theorem pN(a:r8):m5 (bE a):=by
 unfold bE
 split
 rename_i h;exact fun c hc=>(uO h c hc).1
 exact aZ
theorem DU{m:BL}{b:UInt8}(hb:b≠0):(!(m==[])&&o9 (((m.getD 0 0).toNat:Nat):Int) ((b.toNat:Nat):Int))=(eO m==b):=by
 unfold eO o9
 rw[b8]
 cases m with
 | nil=>
   show false=_
   symm
   rw[beq_eq_false_iff_ne]
   intro c
   exact hb (UInt8.toNat_inj.1 (by have:((0:UInt8).toNat:Int)=(b.toNat:Int):=c;omega))
 | cons x r=>rfl
theorem Dz{m:BL}(h:eO m=64):1<=m.length:=by
 cases m with
 | nil=>exact absurd h Z6
 | cons a r=>simp
theorem Ep{m:BL}:km m=true↔¬ eO m=33/\¬ eO m=64:=by
 unfold km
 simp
theorem LC{s:BL}(h:fg s [47,47]=true):2<=s.length/\s.take 2=[47,47]:=sF.1 h
theorem yg{s:BL}(h:fg s [47,47]=false): ¬ (2<=s.length/\s.take 2=[47,47]):=fun c=>by rw[(sF (s:=s) (p:=[47,47])).2 c]at h;cases h
theorem GH{t:BL}(h:m5 t):m5 ((cO t).getD []):=by
 cases e:cO t with
 | none=>exact aZ
 | some r=>exact fun c hc=>h c ((AM e).2 c hc)
theorem Gj{t:BL}(h:m5 t)(i:Nat):m5 ((bc t).getD i []):=by
 rw[YQ]
 cases e:(bc t)[i]? with
 | none=>exact aZ
 | some x=>exact fun c hc=>h c (((tE t).2 x (Zb e)).2 c hc)
theorem Lh{b:r8}{o:List BL}{m:BL}(h:(H8 b m).isSome=true)(h2: ¬ bE (oA (H8 b m))∈o):eE b o m=o++[bE (oA (H8 b m))]:=by
 unfold eE jC
 rw[if_pos h,if_neg (by simpa using h2)]
theorem Ki{b:r8}{o:List BL}{m:BL}(h:(H8 b m).isSome=true)(h2:bE (oA (H8 b m))∈o):eE b o m=o:=by
 unfold eE jC
 rw[if_pos h,if_pos (by simpa using h2)]
theorem qJ(d:BL):cP (oA (ar d)):=by
 unfold ar
 split
 exact kF d
 exact ra
def lf(m:BL)(b:UInt8):o6 Tryz.prog:=.mk 202 [sV m,uN b.toNat] [] (b≠0) (bV (eO m==b)) [] (by
 intro hb
 refine av (N:=13) (rs:=[.tmp 4]) Tryz.func202
  (.q 1<|.q 9<|.nil)
  (Gd ((!(m==[]))==true) (Ix 0 m)/\Pk (!(m==[])) ((!(m==[]))==true) true/\Q (bV ((!(m==[]))&&(o9 (((m.getD 0 0).toNat:Nat):Int) (b.toNat:Int)))) (bV (eO m==b))) ?_
 refine⟨fun hG=>by(try simp only[nb]at hG);have:=List.length_pos_iff.2 (by simpa using hG);omega,⟨fun h=>by rw[h] <;> rfl,fun _=>rfl⟩,?_⟩
 unfold Q
 refine Zq bV ?_
 exact DU hb)
abbrev gB(t:BL)(i:Nat):Prop:=i<=(aL t).length/\∀ j,j<i->(eO ((aL t).getD j [])==64)=false
def sL(t:BL):o6 Tryz.prog:=.mk 190 [sV t] [] (t.length<=4611686018427387904) (.tup [sV ((cO t).getD []),bV ((cO t).isSome)]) [] (by
 intro ht
 obtain⟨Wa,Xl⟩:=qu t
 refine av (N:=18) (rs:=[.tmp 2,.tmp 3]) Tryz.func190
  (.q 2<|.q 1<|.c (kI t) []<|.q 2<|.loop (Nat) (fun (i:Nat)=>⟨[(7,ao (aL t)),(8,iN ((aL t).length)),(9,iN i)],[]⟩) (fun (i:Nat)=>gB t i) (fun (i:Nat)=>(aL t).length-i) (fun (i:Nat)=>.q 1<|.br (.r 3 [sV ((aL t).getD i [])]<|.q 1<|.c (lf ((aL t).getD i []) (64:UInt8)) []<|.br (.q 4<|.nil) (.q 2<|.nil)) (.q 2<|.nil)))
  ((fun v1:V=>((kI t).sm/\((t.length<=4611686018427387904))/\(∃ j6:Nat,(gB t j6)/\E (ao (aL t))/\Q (iN (((aL t).map sV).length)) (iN ((aL t).length))/\Q (iN 0) (iN j6)/\True)/\∀ i:Nat,(gB t i)->Br (r9 (i:Int) (((aL t).length:Nat):Int)) (Ex (i:Int) ((aL t).map sV) (sV ((aL t).getD i []))/\True/\(lf ((aL t).getD i []) (64:UInt8)).sm/\(((64:UInt8)≠0))/\Br (eO ((aL t).getD i [])==(64:UInt8)) (Sx (1:Int) (((aL t).getD i []).length:Int) ((aL t).getD i [])/\Q (.tup [sV ((((aL t).getD i []).take ((aL t).getD i []).length).drop 1),bV true]) v1) (m8 ((i:Int)+1)/\∃ b7:Nat,(gB t b7)/\((aL t).length-b7<(aL t).length-i)/\E (ao (aL t))/\E (iN ((aL t).length))/\Q (iN (i+1)) (iN b7)/\True)) (Q (.tup [sV [],bV false]) v1))) (.tup [sV ((cO t).getD []),bV ((cO t).isSome)])) ?_
 refine⟨rfl,Z5,?_⟩
 refine⟨⟨0,?_,rfl,Z4,rfl,trivial⟩,?_⟩
 unfold gB
 simp
 rintro i ⟨h1,h2⟩
 refine bI (fun j7=>?_) fun j7=>?_
 refine⟨⟨Z9,aj (d:=[]) Z9⟩,trivial,rfl,Z6,?_⟩
 refine bI (fun l6=>?_) fun l6=>?_
 refine⟨by have:=Dz (m:=(aL t).getD i []) (by simpa using l6);omega,?_⟩
 unfold Q
 rw[show cO t=some (((aL t).getD i []).drop 1) from by rw[cO,AZ (i:=i) (d:=[]) Z9 (by simpa using l6) h2];rfl,List.take_length]
 rfl
 refine⟨Z9,?_⟩
 refine⟨i+1,?_,?_,rfl,rfl,rfl,trivial⟩
 unfold gB
 exact⟨Z9,bS h2 (by simpa using l6)⟩
 exact Z1
 unfold Q
 rw[show cO t=none from by rw[cO,Ib (d:=[]) (fun j hj=>h2 j Z9)];rfl]
 rfl)
def rO(t:BL):o6 Tryz.prog:=.mk 192 [sV t] [] (t.length<=4611686018427387904) (ao (bc t)) [] (by
 intro ht
 obtain⟨Wa,Xl⟩:=qu t
 refine av (N:=27) (rs:=[.tmp 2]) Tryz.func192
  (.q 1<|.q 1<|.q 1<|.c (kI t) []<|.q 2<|.h (.H7 3 1)<|.loop (Nat×(List BL)×Nat×Nat×Nat) (fun (i,o,g,f,k)=>⟨[(3,.own 1 (o.map sV) g f k),(7,ao (aL t)),(8,iN ((aL t).length)),(9,iN i)],[]⟩) (fun (i,o,g,f,k)=>i<=(aL t).length/\o=((aL t).take i).filter km/\o.length<=i) (fun (i,o,g,f,k)=>(aL t).length-i) (fun (i,o,g,f,k)=>.q 1<|.br (.r 3 [sV ((aL t).getD i [])]<|.q 1<|.c (lf ((aL t).getD i []) (33:UInt8)) []<|.q 3<|.cg (lf ((aL t).getD i []) (64:UInt8))<|.q 2<|.br (.q 2<|.bs<|.ap (fun g24 SE Tw=>.h (.o4 24 (.own 1 ((o++[((aL t).getD i [])]).map sV) g24 SE Tw))<|.q 1<|.q 2<|.nil)) (.q 2<|.nil)) (.h (.fz 3)<|.h (.o4 3 (ao o))<|.q 2<|.nil)))
  ((kI t).sm/\((t.length<=4611686018427387904))/\(∃ x:Nat×(List BL)×Nat×Nat×Nat,match x with | (j6,w4,B6,A5,s7)=>(j6<=(aL t).length/\w4=((aL t).take j6).filter km/\w4.length<=j6)/\Q (.own 1 ([].map sV) 0 0 0) (.own 1 (w4.map sV) B6 A5 s7)/\E (ao (aL t))/\Q (iN (((aL t).map sV).length)) (iN ((aL t).length))/\Q (iN 0) (iN j6)/\True)/\∀ x:Nat×(List BL)×Nat×Nat×Nat,match x with | (i,o,g,f,k)=>(i<=(aL t).length/\o=((aL t).take i).filter km/\o.length<=i)->(fun v1:Bool=>(fun v2:List V=>Br (r9 (i:Int) (((aL t).length:Nat):Int)) (Ex (i:Int) ((aL t).map sV) (sV ((aL t).getD i []))/\True/\(lf ((aL t).getD i []) (33:UInt8)).sm/\(((33:UInt8)≠0))/\Gd (v1==true) ((((64:UInt8)≠0))/\(lf ((aL t).getD i []) (64:UInt8)).sm)/\Pk v1 (v1==true) true/\Br (v1&&(!(eO ((aL t).getD i [])==(64:UInt8)))) (((1,1,g,f,k,(o.map sV).length)=(1,1,g,f,k,(o.map sV).length))/\(True)/\(V.aE v2=false)/\(aJ 1 v2)/\(((o.map sV).length+v2.length)*16<=140737488355328)/\∀ g24 SE Tw:Nat,((.own 1 ((o.map sV)++v2) g24 SE Tw:V)=.own 1 ((o++[((aL t).getD i [])]).map sV) g24 SE Tw)/\m8 ((i:Int)+1)/\∃ x:Nat×(List BL)×Nat×Nat×Nat,match x with | (b7,l9,s5,r4,k₂)=>(b7<=(aL t).length/\l9=((aL t).take b7).filter km/\l9.length<=b7)/\((aL t).length-b7<(aL t).length-i)/\Q (.own 1 ((o++[((aL t).getD i [])]).map sV) g24 SE Tw) (.own 1 (l9.map sV) s5 r4 k₂)/\E (ao (aL t))/\E (iN ((aL t).length))/\Q (iN (i+1)) (iN b7)/\True) (m8 ((i:Int)+1)/\∃ x:Nat×(List BL)×Nat×Nat×Nat,match x with | (b7,l9,s5,r4,k₂)=>(b7<=(aL t).length/\l9=((aL t).take b7).filter km/\l9.length<=b7)/\((aL t).length-b7<(aL t).length-i)/\Q (.own 1 (o.map sV) g f k) (.own 1 (l9.map sV) s5 r4 k₂)/\E (ao (aL t))/\E (iN ((aL t).length))/\Q (iN (i+1)) (iN b7)/\True)) (((.sl false (V.B8 (o.map sV)):V)=ao o)/\Q (ao o) (ao (bc t)))) ([sV ((aL t).getD i [])]:List V)) (!(eO ((aL t).getD i [])==(33:UInt8)))) ?_
 refine⟨rfl,Z5,?_⟩
 refine⟨⟨(0,[],0,0,0),?_,rfl,rfl,Z4,rfl,trivial⟩,?_⟩
 simp
 rintro⟨i,o,g,f,k⟩ ⟨h1,h2,h3⟩
 refine bI (fun j7=>?_) fun j7=>?_
 refine⟨⟨Z9,aj (d:=[]) Z9⟩,trivial,rfl,Z6,fun hG=>⟨by(try simp only[nb]at hG);decide,rfl⟩,⟨fun h=>by rw[h] <;> rfl,fun _=>rfl⟩,?_⟩
 refine bI (fun l6=>?_) fun l6=>?_
 refine⟨rfl,trivial,rfl,by simp[aJ,V.n,V.ns],Z0,?_⟩
 intro g24 SE Tw
 refine⟨Zq (V.own 1 · g24 SE Tw) Z8,Z9,?_⟩
 refine⟨(i+1,o++[((aL t).getD i [])],g24,SE,Tw),?_,?_,rfl,rfl,rfl,rfl,trivial⟩
 refine⟨Z9,?_,Z0⟩
 rw[bg (d:=[]) Z9,List.filter_append,<- h2,List.filter_cons_of_pos (Ep.2 (by simpa using l6))]
 rfl
 exact Z1
 refine⟨Z9,?_⟩
 refine⟨(i+1,o,g,f,k),?_,?_,rfl,rfl,rfl,rfl,trivial⟩
 refine⟨Z9,?_,Z9⟩
 rw[bg (d:=[]) Z9,List.filter_append,<- h2,List.filter_cons_of_neg (fun c=>absurd (Ep.1 c) (by simpa using l6))]
 simp
 exact Z1
 refine⟨Zq (V.sl false) (aM (fun _=>rfl) _),?_⟩
 unfold Q
 rw[h2,Y3 Z9]
 rfl)
def sG(a:r8):o6 Tryz.prog:=.mk 193 [bF a.c5 a.b9 a.asks a.ask] [] (cP a) (sV (bE a)) [] (by
 intro ha
 refine av (N:=8) (rs:=[.tmp 2]) Tryz.func193
  (.bx (fun g1=>.q 1<|.r 1 [.a8]<|.c (fC a) []<|.q 1<|.br (.q 1<|.nil) (.r 1 [.a8]<|.c (iq a) []<|.q 1<|.nil)))
  (∀ g1:Nat,Z g1 0/\(fC a).sm/\((cP a))/\Br (!(aG a)) (Q (sV []) (sV (bE a))) (Z g1 0/\(iq a).sm/\((cP a))/\Q (sV (cJ a)) (sV (bE a)))) ?_
 intro g1
 refine⟨rfl,rfl,ha,?_⟩
 refine bI (fun j7=>?_) fun j7=>?_
 unfold Q
 rw[show bE a=[] from if_neg (by rw[j7];decide)]
 refine⟨rfl,rfl,ha,?_⟩
 unfold Q
 rw[show bE a=cJ a from if_pos (by simpa using j7)])
def rE(s:BL)(p:BL):o6 Tryz.prog:=.mk 203 [sV s,sV p] [] ((s.length<=4611686018427387904)/\(p.length<=4611686018427387904)) (bV (fg s p)) [] (by
 rintro⟨hs,hp⟩
 refine av (N:=8) (rs:=[.tmp 4]) Tryz.func203
  (.q 1<|.q 2<|.c (lD s p) []<|.q 1<|.nil)
  ((lD s p).sm/\((s.length<=4611686018427387904)/\(p.length<=4611686018427387904))/\Q (bV (fg s p)) (bV (fg s p))) ?_
 refine⟨rfl,⟨Z5,Z5⟩,?_⟩
 unfold Q
 rfl)
abbrev du(a:r8)(ref:BL):V:=.tup [bF ((oA (H8 a ref)).c5) ((oA (H8 a ref)).b9) ((oA (H8 a ref)).asks) ((oA (H8 a ref)).ask),bV ((H8 a ref).isSome)]
def lv(a:r8)(ref:BL):o6 Tryz.prog:=.mk 191 [bF a.c5 a.b9 a.asks a.ask,sV ref] [] ((cP a)/\(a.b9.length<=100)/\(ref.length<=1000000)/\(m5 ref)) (du a ref) [] (by
 rintro⟨ha,hp,hr,hc⟩
 have Ni:=lN 35 ref
 refine av (N:=75) (rs:=[.cell 4 52,.tmp 5]) Tryz.func191
  (.bx (fun g2=>.al dg (fun g4=>.q 1<|.r 5 [.a8]<|.cg (fC a)<|.q 2<|.br (.bd dg<|.st none<|.q 1<|.nil) (.q 1<|.c (oe ref 35) []<|.q 7<|.q 1<|.c (rE ((ae 35 ref).1) ([47,47]:BL)) []<|.q 1<|.br (.q 1<|.c (lJ ((ae 35 ref).1)) []<|.q 2<|.st none<|.q 1<|.nil) (.q 3<|.br (.r 2 [.a8]<|.c (kb a.b9) []<|.ot 36 (fun YI X1 YM=>.h (.fz 36)<|.h (.o4 36 (ao a.b9))<|.q 1<|.st none<|.r 1 [.a8]<|.st none<|.q 1<|.nil)) (.q 4<|.br (.r 3 [.a8]<|.c (fA a.c5 ([]:List BL) ((ae 35 ref).1)) []<|.q 2<|.st none<|.q 1<|.nil) (.q 4<|.br (.r 5 [.a8,.a8]<|.c (fA a.c5 a.b9 ((ae 35 ref).1)) []<|.q 2<|.st none<|.q 1<|.nil) (.dx 14 [0,1,2,3,4,5,6,7,8,9,10,11,12,13] [(1,⟨false,[],some [2],[62],[]⟩),(3,⟨false,[],some [2],[64],[]⟩),(5,⟨false,[],some [2],[66],[]⟩)] []<|.q 1<|.r 1 [.a8]<|.q 1<|.r 1 [.a8]<|.q 1<|.r 1 [.a8]<|.q 1<|.q 1<|.mm<|.q 1<|.h (.o4 70 (ao (a.b9.take (a.b9.length-1))))<|.q 1<|.c (fA a.c5 (a.b9.take (a.b9.length-1)) ((ae 35 ref).1)) []<|.q 1<|.q 1<|.st none<|.q 1<|.nil))))))))
  ((fun v1:r8=>(fun v2:r8=>(fun v3:r8=>(fun v4:Int=>(fun v5:Bool=>(fun v6:r8=>(fun v7:Int=>(∀ g2:Nat,∀ g4:Nat,Gd (v5==false) (Z g2 0)/\Gd (v5==false) (((cP a))/\(fC a).sm)/\Pk v5 true (v5==false)/\Br (v5||(!(aG a))) (Z g4 0/\(g4=g4)/\Q (.tup [fY (.sl false []),bV false]) (du a ref)) ((oe ref 35).sm/\((ref.length<=1000000))/\(rE ((ae 35 ref).1) ([47,47]:BL)).sm/\((((ae 35 ref).1).length<=4611686018427387904)/\(([47,47]:BL).length<=4611686018427387904))/\Br (fg ((ae 35 ref).1) ([47,47]:BL)) ((lJ ((ae 35 ref).1)).sm/\((((ae 35 ref).1).length<=300)/\(m5 ((ae 35 ref).1)))/\Z g4 0/\(g4=g4)/\Q (.tup [bF (v6.c5) (v6.b9) (v6.asks) (v6.ask),bV ((dp ((ae 35 ref).1)).isSome)]) (du a ref)) (Br (((ae 35 ref).1)==[]) (Z g2 1/\(kb a.b9).sm/\((a.b9.length<=1000000))/\∀ YI X1 YM:Nat,((.sl false (V.B8 (a.b9.map sV)):V)=ao a.b9)/\Z g2 1/\Z g2 0/\Z g4 0/\(g4=g4)/\Q (.tup [bF a.c5 a.b9 a.asks a.ask,bV true]) (du a ref)) (Ix 0 ((ae 35 ref).1)/\Br (o9 v7 47) (Z g2 0/\(fA a.c5 ([]:List BL) ((ae 35 ref).1)).sm/\((a.c5.length<=1000)/\(∀ i,(([]:List BL).getD i []).length<=1000)/\(([]:List BL).length<=100)/\(((ae 35 ref).1).length<=300))/\Z g4 0/\(g4=g4)/\Q (.tup [bF (v2.c5) (v2.b9) (v2.asks) (v2.ask),bV ((cy a.c5 ([]:List BL) ((ae 35 ref).1)).isSome)]) (du a ref)) (Ix 0 ((ae 35 ref).1)/\Br (o9 v7 63) (Z g2 0/\Z g2 1/\(fA a.c5 a.b9 ((ae 35 ref).1)).sm/\((a.c5.length<=1000)/\(∀ i,(a.b9.getD i []).length<=1000)/\(a.b9.length<=100)/\(((ae 35 ref).1).length<=300))/\Z g4 0/\(g4=g4)/\Q (.tup [bF (v3.c5) (v3.b9) (v3.asks) (v3.ask),bV ((cy a.c5 a.b9 ((ae 35 ref).1)).isSome)]) (du a ref)) (Z g2 0/\Z g2 1/\Z g2 1/\m8 (v4-1)/\(IntKind.i64=IntKind.i64)/\((0:Int)<=(0:Int)/\(0:Int)<=(max (v4-1) 0)/\(max (v4-1) 0)<=(a.b9.map sV).length/\∀ x∈(a.b9.map sV),x.n=1)/\Q (.sl false (((a.b9.map sV).take (Int.toNat (max (v4-1) 0))).drop ((0:Int).toNat))) (ao (a.b9.take (a.b9.length-1)))/\(fA a.c5 (a.b9.take (a.b9.length-1)) ((ae 35 ref).1)).sm/\((a.c5.length<=1000)/\(∀ i,((a.b9.take (a.b9.length-1)).getD i []).length<=1000)/\((a.b9.take (a.b9.length-1)).length<=100)/\(((ae 35 ref).1).length<=300))/\Z g4 0/\(g4=g4)/\Q (.tup [bF (v1.c5) (v1.b9) (v1.asks) (v1.ask),bV ((cy a.c5 (a.b9.take (a.b9.length-1)) ((ae 35 ref).1)).isSome)]) (du a ref)))))))) (((((ae 35 ref).1).getD 0 0).toNat:Nat):Int)) (oA (dp ((ae 35 ref).1)))) (s9 (ref.length:Int) 60)) (((a.b9.map sV).length:Nat):Int)) (oA (cy a.c5 a.b9 ((ae 35 ref).1)))) (oA (cy a.c5 ([]:List BL) ((ae 35 ref).1)))) (oA (cy a.c5 (a.b9.take (a.b9.length-1)) ((ae 35 ref).1)))) ?_
 intro g2
 intro g4
 refine⟨fun hG=>rfl,fun hG=>⟨ha,rfl⟩,⟨fun _=>rfl,fun h=>by rw[h] <;> rfl⟩,?_⟩
 refine bI (fun j7=>?_) fun j7=>?_
 refine⟨rfl,?_⟩
 refine⟨rfl,?_⟩
 unfold Q du
 rw[show H8 a ref=none from if_pos (j7.symm.imp id fun h=>by omega)]
 rfl
 refine⟨rfl,Z9,rfl,⟨Z9,Z8⟩,?_⟩
 refine bI (fun l6=>?_) fun l6=>?_
 refine⟨rfl,⟨Z9,hc.cut 35⟩,rfl,?_⟩
 refine⟨rfl,?_⟩
 unfold Q du
 rw[Ab ⟨j7.2,j7.1⟩,if_pos (LC l6),show dp (ae 35 ref).1=dA ((ae 35 ref).1.drop 2) from if_pos l6]
 refine bI (fun n6=>?_) fun n6=>?_
 refine⟨rfl,rfl,Z9,?_⟩
 intro YI X1 YM
 refine⟨Zq (V.sl false) (aM (fun _=>rfl) _),rfl,rfl,rfl,?_⟩
 refine⟨rfl,?_⟩
 unfold Q du
 rw[Ab ⟨j7.2,j7.1⟩,if_neg (yg l6),if_pos (by simpa using n6)]
 rfl
 refine⟨by have:=List.length_pos_iff.2 n6;omega,?_⟩
 refine bI (fun w6=>?_) fun w6=>?_
 refine⟨rfl,rfl,⟨ha.1,Z8,Z8,Z9⟩,rfl,?_⟩
 refine⟨rfl,?_⟩
 unfold Q du
 rw[Ab ⟨j7.2,j7.1⟩,if_neg (yg l6),if_neg (by simpa using n6),if_pos (Ia (k:=47) w6)]
 refine⟨by have:=List.length_pos_iff.2 n6;omega,?_⟩
 refine bI (fun G8=>?_) fun G8=>?_
 refine⟨rfl,rfl,rfl,⟨ha.1,ha.2.2.2,hp,Z9⟩,rfl,?_⟩
 refine⟨rfl,?_⟩
 unfold Q du
 rw[Ab ⟨j7.2,j7.1⟩,if_neg (yg l6),if_neg (by simpa using n6),if_neg (Cc (k:=47) w6),if_pos (Ia (k:=63) G8)]
 refine⟨rfl,rfl,rfl,Z2,rfl,⟨by simp <;> omega,by simp <;> omega,by simp <;> omega,all_map (fun _=>rfl)⟩,by unfold Q;refine Zq (V.sl false) ?_;rw[List.map_take,show (max (((a.b9.map sV).length:Int)-1) 0).toNat=a.b9.length-1 from Z0];rfl,rfl,⟨ha.1,Iy ha.2.2.2,by simp only[List.length_take];omega,Z9⟩,rfl,?_⟩
 refine⟨rfl,?_⟩
 unfold Q du
 rw[Ab ⟨j7.2,j7.1⟩,if_neg (yg l6),if_neg (by simpa using n6),if_neg (Cc (k:=47) w6),if_neg (Cc (k:=63) G8)])
def rA(a:r8)(t:BL):o6 Tryz.prog:=.mk 175 [bF a.c5 a.b9 a.asks a.ask,sV t] [] ((cP a)/\(t.length<=4611686018427387904)/\(m5 t)) (ao (bC a t)) [] (by
 rintro⟨ha,ht,hc⟩
 obtain⟨Wa,Xl⟩:=tE t
 refine av (N:=61) (rs:=[.tmp 4]) Tryz.func175
  (.bx (fun g2=>.q 1<|.r 1 [.a8]<|.c (fC a) []<|.q 1<|.br (.q 1<|.nil) (.r 1 [.a8]<|.al dg (fun g5=>.st none<|.q 1<|.c (sL t) []<|.q 5<|.q 1<|.join (r8) (fun b=>⟨[(1,sV t),(5,.ptr (.key 5) [] g5 0)],[(5,(g5,bF b.c5 b.b9 b.asks b.ask))]⟩) (fun b=>b=(gY a t)) (.r 2 [.a8]<|.c (lv a ((cO t).getD [])) []<|.q 3<|.al dg (fun g8=>.st none<|.q 1<|.q 1<|.br (.r 1 [.a8]<|.st none<|.nil) (.nil))) (.nil) (fun b=>.q 1<|.q 1<|.c (rO t) []<|.q 2<|.h (.H7 10 1)<|.loop (Nat×(List BL)×Nat×Nat×Nat) (fun (i,o,g,f,k)=>⟨[(5,.ptr (.key 5) [] g5 0),(10,.own 1 (o.map sV) g f k),(35,ao (bc t)),(36,iN ((bc t).length)),(37,iN i)],[(5,(g5,bF b.c5 b.b9 b.asks b.ask))]⟩) (fun (i,o,g,f,k)=>i<=(bc t).length/\o=((bc t).take i).foldl (eE b) []/\o.length<=i) (fun (i,o,g,f,k)=>(bc t).length-i) (fun (i,o,g,f,k)=>.q 1<|.br (.r 3 [sV ((bc t).getD i [])]<|.r 2 [.a8]<|.c (lv b ((bc t).getD i [])) []<|.q 3<|.al dg (fun g13=>.st none<|.q 1<|.q 2<|.br (.q 2<|.nil) (.r 1 [.a8]<|.c (sG (oA (H8 b ((bc t).getD i [])))) []<|.q 1<|.q 2<|.cl (nX o (bE (oA (H8 b ((bc t).getD i [])))))<|.q 1<|.br (.q 2<|.bs<|.ap (fun Tb Sv To=>.h (.o4 58 (.own 1 ((o++[bE (oA (H8 b ((bc t).getD i [])))]).map sV) Tb Sv To))<|.q 1<|.q 2<|.nil)) (.q 2<|.nil)))) (.h (.fz 10)<|.h (.o4 10 (ao o))<|.q 2<|.nil)))))))
  ((fun v1:r8=>(∀ g2:Nat,Z g2 0/\(fC a).sm/\((cP a))/\Br (!(aG a)) (Q (.sl false []) (ao (bC a t))) (Z g2 0/\∀ g5:Nat,(fun v2:V=>Z g5 0/\(sL t).sm/\((t.length<=4611686018427387904))/\(((cO t).isSome)=true->Z g2 0/\(lv a ((cO t).getD [])).sm/\((cP a)/\(a.b9.length<=100)/\(((cO t).getD []).length<=1000000)/\(m5 ((cO t).getD [])))/\∀ g8:Nat,Z g8 0/\Br ((H8 a ((cO t).getD [])).isSome) (Z g8 0/\Z g5 0/\∃ b:r8,(b=(gY a t))/\E (sV t)/\E v2/\Qr g5 (bF (v1.c5) (v1.b9) (v1.asks) (v1.ask)) g5 (bF b.c5 b.b9 b.asks b.ask)/\True) (∃ b:r8,(b=(gY a t))/\E (sV t)/\E v2/\Qr g5 (bF a.c5 a.b9 a.asks a.ask) g5 (bF b.c5 b.b9 b.asks b.ask)/\True))/\(((cO t).isSome)=false->∃ b:r8,(b=(gY a t))/\E (sV t)/\E v2/\Qr g5 (bF a.c5 a.b9 a.asks a.ask) g5 (bF b.c5 b.b9 b.asks b.ask)/\True)/\(∀ b:r8,(b=(gY a t))->(fun v3:V=>(rO t).sm/\((t.length<=4611686018427387904))/\(∃ x:Nat×(List BL)×Nat×Nat×Nat,match x with | (j6,w4,B6,A5,s7)=>(j6<=(bc t).length/\w4=((bc t).take j6).foldl (eE b) []/\w4.length<=j6)/\E v2/\Q (.own 1 ([].map sV) 0 0 0) (.own 1 (w4.map sV) B6 A5 s7)/\E (ao (bc t))/\Q (iN (((bc t).map sV).length)) (iN ((bc t).length))/\Q (iN 0) (iN j6)/\Er g5 v3/\True)/\∀ x:Nat×(List BL)×Nat×Nat×Nat,match x with | (i,o,g,f,k)=>(i<=(bc t).length/\o=((bc t).take i).foldl (eE b) []/\o.length<=i)->(fun v4:r8=>(fun v5:List V=>Br (r9 (i:Int) (((bc t).length:Nat):Int)) (Ex (i:Int) ((bc t).map sV) (sV ((bc t).getD i []))/\True/\Z g5 0/\(lv b ((bc t).getD i [])).sm/\((cP b)/\(b.b9.length<=100)/\(((bc t).getD i []).length<=1000000)/\(m5 ((bc t).getD i [])))/\∀ g13:Nat,Z g13 0/\Br (!((H8 b ((bc t).getD i [])).isSome)) (m8 ((i:Int)+1)/\∃ x:Nat×(List BL)×Nat×Nat×Nat,match x with | (b7,l9,s5,r4,k₂)=>(b7<=(bc t).length/\l9=((bc t).take b7).foldl (eE b) []/\l9.length<=b7)/\((bc t).length-b7<(bc t).length-i)/\E v2/\Q (.own 1 (o.map sV) g f k) (.own 1 (l9.map sV) s5 r4 k₂)/\E (ao (bc t))/\E (iN ((bc t).length))/\Q (iN (i+1)) (iN b7)/\Er g5 v3/\True) (Z g13 0/\(sG v4).sm/\((cP v4))/\(((1=1/\g=g/\f=f)/\0+((o.map sV).length)<=(o.map sV).length/\V.aE (o.map sV)=false/\aJ 1 (o.map sV))/\True)/\(([.sl false (((o.map sV).drop 0).take ((o.map sV).length)),sV (bE v4)]:List V)=[ao o,sV (bE v4)])/\((o.length<=1000000))/\Br (!(o.contains (bE v4))) (((1,1,g,f,k,(o.map sV).length)=(1,1,g,f,k,(o.map sV).length))/\(True)/\(V.aE v5=false)/\(aJ 1 v5)/\(((o.map sV).length+v5.length)*16<=140737488355328)/\∀ Tb Sv To:Nat,((.own 1 ((o.map sV)++v5) Tb Sv To:V)=.own 1 ((o++[bE v4]).map sV) Tb Sv To)/\m8 ((i:Int)+1)/\∃ x:Nat×(List BL)×Nat×Nat×Nat,match x with | (b7,l9,s5,r4,k₂)=>(b7<=(bc t).length/\l9=((bc t).take b7).foldl (eE b) []/\l9.length<=b7)/\((bc t).length-b7<(bc t).length-i)/\E v2/\Q (.own 1 ((o++[bE v4]).map sV) Tb Sv To) (.own 1 (l9.map sV) s5 r4 k₂)/\E (ao (bc t))/\E (iN ((bc t).length))/\Q (iN (i+1)) (iN b7)/\Er g5 v3/\True) (m8 ((i:Int)+1)/\∃ x:Nat×(List BL)×Nat×Nat×Nat,match x with | (b7,l9,s5,r4,k₂)=>(b7<=(bc t).length/\l9=((bc t).take b7).foldl (eE b) []/\l9.length<=b7)/\((bc t).length-b7<(bc t).length-i)/\E v2/\Q (.own 1 (o.map sV) g f k) (.own 1 (l9.map sV) s5 r4 k₂)/\E (ao (bc t))/\E (iN ((bc t).length))/\Q (iN (i+1)) (iN b7)/\Er g5 v3/\True))) (((.sl false (V.B8 (o.map sV)):V)=ao o)/\Q (ao o) (ao (bC a t)))) ([sV (bE v4)]:List V)) (oA (H8 b ((bc t).getD i [])))) (bF b.c5 b.b9 b.asks b.ask))) (.ptr (.key 5) [] g5 0)))) (oA (H8 a ((cO t).getD [])))) ?_
 intro g2
 refine⟨rfl,rfl,ha,?_⟩
 refine bI (fun j7=>?_) fun j7=>?_
 unfold Q
 rw[show bC a t=[] from if_neg (by rw[j7];decide)]
 rfl
 refine⟨rfl,?_⟩
 intro g5
 refine⟨rfl,rfl,Z5,?_⟩
 refine⟨fun l6=>?_,fun l6=>?_,fun b hb=>?_⟩
 try simp only[nb]at l6
 refine⟨rfl,rfl,⟨ha,by have:=(eV (by simpa using j7)).2.1;omega,by have:=GK t;omega,GH hc⟩,?_⟩
 intro g8
 refine⟨rfl,?_⟩
 refine bI (fun n6=>?_) fun n6=>?_
 refine⟨rfl,rfl,?_⟩
 exact⟨(⟨(oA (H8 a ((cO t).getD []))).c5,(oA (H8 a ((cO t).getD []))).b9,(oA (H8 a ((cO t).getD []))).asks,(oA (H8 a ((cO t).getD []))).ask⟩:r8),by first | exact wD l6 n6 | exact wo l6 n6 | exact wM l6,rfl,rfl,Z4,trivial⟩
 exact⟨(⟨a.c5,a.b9,a.asks,a.ask⟩:r8),by first | exact wD l6 n6 | exact wo l6 n6 | exact wM l6,rfl,rfl,Z4,trivial⟩
 try simp only[nb]at l6
 exact⟨(⟨a.c5,a.b9,a.asks,a.ask⟩:r8),by first | exact wD l6 n6 | exact wo l6 n6 | exact wM l6,rfl,rfl,Z4,trivial⟩
 refine⟨rfl,Z5,?_⟩
 refine⟨⟨(0,[],0,0,0),?_,rfl,rfl,rfl,Z4,rfl,rfl,trivial⟩,?_⟩
 simp
 rintro⟨i,o,g,f,k⟩ ⟨h1,h2,h3⟩
 have N0:=kP (n:=300) (fun m hm=>(Xl m hm).1) i
 have Yx:aG b=true:=by rw[hb];exact Hh (by simpa using j7)
 have hbs:cP b:=qI Yx
 have hbp:b.b9.length<=100:=by have:=(eV Yx).2.1;omega
 have RF:m5 ((bc t).getD i []):=Gj hc i
 refine bI (fun w6=>?_) fun w6=>?_
 refine⟨⟨Z9,aj (d:=[]) Z9⟩,trivial,rfl,rfl,⟨hbs,hbp,Z9,RF⟩,?_⟩
 intro g13
 refine⟨rfl,?_⟩
 refine bI (fun G8=>?_) fun G8=>?_
 refine⟨Z9,?_⟩
 refine⟨(i+1,o,g,f,k),?_,?_,rfl,rfl,rfl,rfl,rfl,rfl,trivial⟩
 refine⟨Z9,?_,Z9⟩
 rw[foldl_succ (d:=[]) Z9,<- h2];exact(if_neg (by simpa using G8)).symm
 exact Z1
 refine⟨rfl,rfl,Mr _ _,⟨⟨⟨rfl,rfl,rfl⟩,Z8,cN (f:=sV) (fun _=>rfl) _,ee (f:=sV) (fun _=>rfl) _⟩,trivial⟩,by simp[Y3],Z9,?_⟩
 refine bI (fun NK=>?_) fun NK=>?_
 refine⟨rfl,trivial,rfl,by simp[aJ,V.n,V.ns],Z0,?_⟩
 intro Tb Sv To
 refine⟨Zq (V.own 1 · Tb Sv To) Z8,Z9,?_⟩
 refine⟨(i+1,o++[bE (oA (H8 b ((bc t).getD i [])))],Tb,Sv,To),?_,?_,rfl,rfl,rfl,rfl,rfl,rfl,trivial⟩
 refine⟨Z9,?_,Z0⟩
 rw[foldl_succ (d:=[]) Z9,<- h2];exact(Lh (by simpa using G8) (by simpa using NK)).symm
 exact Z1
 refine⟨Z9,?_⟩
 refine⟨(i+1,o,g,f,k),?_,?_,rfl,rfl,rfl,rfl,rfl,rfl,trivial⟩
 refine⟨Z9,?_,Z9⟩
 rw[foldl_succ (d:=[]) Z9,<- h2];exact(Ki (by simpa using G8) (by simpa using NK)).symm
 exact Z1
 refine⟨Zq (V.sl false) (aM (fun _=>rfl) _),?_⟩
 unfold Q
 rw[show bC a t=_ from if_pos (by simpa using j7),<- hb,h2,Y3 Z9])
abbrev kW(a:r8)(k:Int)(t:BL):V:=ao (if k=1 then bC a t else if k=2 then [t] else [])
def BK(a:r8)(k:Int)(t:BL):o6 Tryz.prog:=.mk 145 [bF a.c5 a.b9 a.asks a.ask,iV k,sV t] [] ((cP a)/\(t.length<=4611686018427387904)/\(m5 t)) (kW a k t) [] (by
 rintro⟨ha,ht,hc⟩
 refine av (N:=17) (rs:=[.tmp 6]) Tryz.func145
  (.bx (fun g3=>.q 1<|.q 1<|.q 2<|.br (.r 2 [.a8]<|.c (rA a t) []<|.q 1<|.nil) (.q 2<|.br (.q 1<|.bs<|.q 1<|.nil) (.q 1<|.nil))))
  (∀ g3:Nat,Br (o9 k 1) (Z g3 0/\(rA a t).sm/\((cP a)/\(t.length<=4611686018427387904)/\(m5 t))/\Q (ao (bC a t)) (kW a k t)) (Br (o9 k 2) (Q (.sl false [sV t]) (kW a k t)) (Q (.sl false []) (kW a k t)))) ?_
 intro g3
 refine bI (fun j7=>?_) fun j7=>?_
 refine⟨rfl,rfl,⟨Z5,Z5,Z5⟩,?_⟩
 unfold Q kW
 rw[if_pos j7]
 refine bI (fun l6=>?_) fun l6=>?_
 unfold Q kW
 rw[if_neg j7,if_pos l6]
 rfl
 unfold Q kW
 rw[if_neg j7,if_neg l6]
 rfl)
theorem pY(k:BL)(y:Value)(a:BL):∀ es:List (BL×Value),bW (dC es k y) a=if a=k then some y else bW es a
 | []=>by
   unfold dC bW
   by_cases h:a=k
   rw[if_pos h.symm,if_pos h]
   rw[if_neg (fun c=>h c.symm),if_neg h];rfl
 | p::r=>by
   unfold dC
   by_cases h:p.1=k
   rw[if_pos h]
   show (if k=a then some y else bW r a)=if a=k then some y else if p.1=a then some p.2 else bW r a
   by_cases h2:a=k
   rw[if_pos h2.symm,if_pos h2]
   rw[if_neg (fun c=>h2 c.symm),if_neg h2,if_neg (fun c=>h2 (c.symm.trans h))]
   rw[if_neg h]
   show (if p.1=a then some p.2 else bW (dC r k y) a)=if a=k then some y else if p.1=a then some p.2 else bW r a
   rw[pY k y a r]
   by_cases h2:p.1=a
   rw[if_pos h2,if_neg (fun c=>h (h2.trans c)),if_pos h2]
   rw[if_neg h2,if_neg h2]
def hS(x:List BL×List (BL×Value))(a:BL):List BL×List (BL×Value):=(x.1++[a],dC x.2 a (.int .i64 (((x.1.count a:Nat):Int)+1)))
def hE(H:List BL):List (BL×Value):=(H.foldl hS ([],[])).2
theorem Ft:∀ (H:List BL) {x:List BL×List (BL×Value)},(H.foldl hS x).1=x.1++H
 | [],x=>by simp
 | a::H,x=>by rw[List.foldl_cons,Ft H];simp[hS]
theorem AF(H:List BL)(a:BL):dC (hE H) a (.int .i64 (((H.count a:Nat):Int)+1))=hE (H++[a]):=by
 unfold hE
 rw[List.foldl_append,List.foldl_cons,List.foldl_nil]
 show _=dC _ a (.int .i64 ((((H.foldl hS ([],[])).1.count a:Nat):Int)+1))
 rw[Ft,List.nil_append]
theorem Bq:∀ (H:List BL) {x:List BL×List (BL×Value)},(∀ a,bW x.2 a=if a∈x.1 then some (.int .i64 ((x.1.count a:Nat):Int)) else none)->
 ∀ a,bW (H.foldl hS x).2 a=if a∈(H.foldl hS x).1 then some (.int .i64 (((H.foldl hS x).1.count a:Nat):Int)) else none
 | [],_,h=>h
 | b::H,x,h=>Bq H fun a=>by
   show bW (dC x.2 b _) a=if a∈x.1++[b] then some (.int .i64 (((x.1++[b]).count a:Nat):Int)) else none
   rw[pY,h a]
   by_cases e:a=b
   subst e
   rw[if_pos rfl,if_pos Z8,List.count_append]
   simp
   rw[if_neg e,List.count_append]
   by_cases e2:a∈x.1
   rw[if_pos e2,if_pos (by simp[e2])]
   simp[List.count_cons,Ne.symm e]
   rw[if_neg e2,if_neg (by simp[e,e2])]
theorem AB(H:List BL)(a:BL):bW (hE H) a=if a∈H then some (.int .i64 ((H.count a:Nat):Int)) else none:=by
 have:=Bq H (x:=([],[])) (by simp[bW]) a
 rw[Ft,List.nil_append]at this
 exact this
theorem xn:∀ (f:List BL) {l:List BL},∃ r,f.foldl eT l=l++r
 | [],l=>⟨[],Z8⟩
 | s::f,l=>by
   obtain⟨r,hr⟩:=xn f (l:=eT l s)
   rw[List.foldl_cons]
   by_cases h:az s=true
   by_cases h2:l.contains s=true
   exact⟨r,by rw[hr,show eT l s=l from by rw[eT,if_pos h,jC,if_pos h2]]⟩
   exact⟨s::r,by rw[hr,show eT l s=l++[s] from by rw[eT,if_pos h,jC,if_neg h2]];simp⟩
   exact⟨r,by rw[hr,show eT l s=l from if_neg h]⟩
theorem Hj(H f:List BL):mF (H++f)=f.foldl eT (mF H):=by unfold mF;rw[List.foldl_append]
structure YN (w:List Pg) (n:BL) (c9 H W R:List BL) (i:Nat):Prop where
 st:rN w n c9 i=(mF (H++W),R)
 at_:(mF H).length=i
 len:H.length+W.length<=12+300*i
 out:R.length<=i
theorem YN.bound{w:List Pg}{n:BL}{c9 H W R:List BL}{i:Nat}(h:YN w n c9 H W R i)(hw:an w=true)(hs:c9.length<=12):i<=3700:=by
 have:=JV (n:=n) hw hs i
 rw[h.st]at this
 obtain⟨r,hr⟩:=xn W (l:=mF H)
 rw[show (mF (H++W),R).1=mF (H++W) from rfl,Hj,hr,YT,h.at_]at this
 omega
theorem BF{b:r8}:∀ (ls:List BL) {o:List BL},(∀ m,m∈o->az m=true/\m5 m)->∀ m,m∈ls.foldl (eE b) o->az m=true/\m5 m
 | [],_,h=>h
 | l::ls,o,h=>by
   refine BF ls fun m hm=>?_
   unfold eE at hm
   split at hm
   rename_i hs
   rcases rU.1 hm with hm | rfl
   exact h m hm
   have hk:=CQ hs
   exact⟨by rw[show bE (oA (H8 b l))=cJ (oA (H8 b l)) from if_pos hk];exact BR hk,pN _⟩
   exact h m hm
theorem Dn{a:r8}{t:BL}:∀ m,m∈bC a t->az m=true/\m5 m:=by
 unfold bC
 split
 exact BF _ Z8
 simp
section
variable {P:Program}
def WJ(t0:Nat)(es:List (BL×Value))(k:BL)(v:V):Cu P where
 X:=Unit
 pre N o A:=match o.op,o.dst with
  | .lookup T x kx false,some d=>match tD P T,Nat.blt d N with
    | some (.map kt et),true=>match tD P kt,A.ev x,A.get t0 with
      | some .str,.lit (.map (some g)),.om OF g'=>(g'=g/\OF=es)/\A.ev kx=sV k/\((∃ y,bW es k=some y/\v.val? =some y)\/(bW es k=none/\∃ y,v.val? =some y/\∀ w,(zeroValue et).run P w=.ok y w))
      | _,_,_=>False
    | _,_=>False
  | _,_=>False
 post _ o A:=match o.dst with
  | some d=>A.put (some d) v
  | none=>A
 ok:=by
  rintro N ⟨dst,op,ty,pos,after,D2⟩ A K-hp hK
  replace hK:=hK ()
  simp only at hp hK
  split at hp
  rename_i T x kx d
  split at hp
  rename_i kt et e1 e2
  split at hp
  rename_i g OF g' e3 e4 e5
  obtain⟨⟨rfl,rfl⟩,hk,hy⟩:=hp
  obtain⟨td,hu,hd⟩:=cL e1
  have hu:P.underlying T=some (.map kt et):=by
   cases td <;> simp_all[dt]
  obtain⟨RS,N4,QE⟩:=cL e3
  have N4:P.underlying kt=some .string:=by
   cases RS <;> simp_all[dt]
  have H4:∃ y,v.val? =some y:=by
   rcases hy with ⟨y,_,h⟩ | ⟨_,y,h,_⟩ <;> exact⟨y,h⟩
  obtain⟨y,hv⟩:=H4
  refine fO rfl (bG e2) hK fun Pb Kb a w F hs=>⟨y,?_,uC hv⟩
  have hk:=bY hs hk
  have hm:=bY hs e4
  have h0:=hs.slot t0
  rw[e5]at h0
  have h0:R w Pb (.om OF g') [a.tmps.getD t0 undef] (F (.slot t0)):=h0
  obtain⟨hF,hc,Xg,en,cl,hb,RH,hnd,hcl⟩:=h0
  obtain⟨f1,f2⟩:=kD k OF en.toList 0 RH
  have S4:∀ e,(Instr.checkKey e 10000 kt (.string (Str k))).run P w=.ok () w:=fun e=>nn N4
  rcases hy with ⟨y',h1,h2⟩ | ⟨h1,y',h2,U9⟩
  rw[hv]at h2;obtain rfl:=Option.some.inj h2
  obtain⟨j,j1,_⟩:=f2 _ h1
  rw[show (⟨k.toArray⟩:ByteArray)=Str k from rfl]at j1
  simp[execOp,hm,hk,Instr.lookup,run_underlying hu,MapKept.run_getObj_map hb,S4,MapKept.run_findKey N4 j1,Result.andThen]
  rw[hv]at h2;obtain rfl:=Option.some.inj h2
  have j1:=f1 h1
  rw[show (⟨k.toArray⟩:ByteArray)=Str k from rfl]at j1
  simp[execOp,hm,hk,Instr.lookup,run_underlying hu,MapKept.run_getObj_map hb,S4,MapKept.run_findKey N4 j1,Result.andThen,U9]
  exact hp.elim
  exact hp.elim
  exact hp.elim
end
theorem KM(H:List BL)(a:BL):(∃ y,bW (hE H) a=some y/\(iN (H.count a):V).val? =some y)\/(bW (hE H) a=none/\∃ y,(iN (H.count a):V).val? =some y/\∀ w,(zeroValue 3).run Tryz.prog w=.ok y w):=by
 have h:=AB H a
 by_cases e:a∈H
 rw[if_pos e]at h
 exact .inl ⟨_,h,rfl⟩
 rw[if_neg e]at h
 refine .inr ⟨h,.int .i64 0,by rw[List.count_eq_zero.2 e];rfl,fun w=>by kernel_rfl⟩
theorem DC{l m:List BL}{i:Nat}(hs:∀ y,y∈l->y∈m)(hi:i<l.length):m.contains (l.getD i [])=true:=by
 rw[YQ,YX hi]
 simp only[Option.getD_some,List.contains_iff_mem]
 exact hs _ (List.getElem_mem hi)
abbrev il(b:BL)(p:Nat)(g:Nat)(w:List Pg)(m:Nat)(e:List BL)(q:Nat)(u:Nat)(f:Nat)(k:Nat):Prop:=e.length+m<=3/\(∀ y,y∈e->y.length<=30/\m5 y)/\p<=q/\q+10*m<=p+40
def vl(b:BL)(p:Nat)(g:Nat)(w:List Pg):G5 Tryz.prog:=.mk (List BL×Nat) 31 [.ptr (.key 1000) [] g 0,bZ w] [(1000,(g,aq b p))] ((b.length<=2000)/\(p<=700000)/\(w.length<=30)/\(∀ y,y∈w->m9 y)) (fun x=>x.1.length<=4/\(∀ y,y∈x.1->y.length<=30/\m5 y)/\p<=x.2/\x.2<=p+60) (fun x=>ao x.1) (fun x=>[(1000,(g,aq b x.2))]) (by
 rintro⟨hb,hp,hw,hy⟩
 refine fh (N:=28) (rs:=[.tmp 4]) (X:=List BL×Nat) (post:=fun x=>x.1.length<=4/\(∀ y,y∈x.1->y.length<=30/\m5 y)/\p<=x.2/\x.2<=p+60) (E:=fun x=>.sl false (x.1.map sV)) (H':=fun x=>[(1000,(g,.agg [.sl false (b.map n0),iN x.2]))]) Tryz.func31 Z7 rfl rfl rfl Z7 [(1000,(0,.a8))] (by intro _ k hk;simpa[lk] using hk)
  (.q 1<|.bs<|.q 1<|.q 1<|.cx (bf b p g 3) [(1000,1000)] (fun (r6:Nat)=>.q 2<|.h (.H7 5 1)<|.loop (Nat×(List BL)×Nat×Nat×Nat×Nat) (fun (m,e,q,u,f,k)=>⟨[(0,.ptr (.key 1000) [] g 0),(1,bZ w),(5,.own 1 (e.map sV) u f k),(6,iN m)],[(1000,(g,aq b q))]⟩) (fun (m,e,q,u,f,k)=>il b p g w m e q u f k) (fun (m,e,q,u,f,k)=>m) (fun (m,e,q,u,f,k)=>.q 2<|.br (.q 3<|.cx (uy b q g w) [(1000,1000)] (fun (Nf:BL×Nat)=>.bs<|.ap (fun g20 O0 Pw=>.h (.o4 20 (.own 1 ((e++[Nf.1]).map sV) g20 O0 Pw))<|.q 1<|.q 2<|.h (.o4 14 (iN (m-1)))<|.q 1<|.nil))) (.q 1<|.cx (bf b q g 12) [(1000,1000)] (fun (D5:Nat)=>.q 1<|.br (.q 1<|.bs<|.ap (fun UK Un UP=>.h (.o4 26 (.own 1 ((e++[([120]:BL)]).map sV) UK Un UP))<|.q 1<|.h (.fz 4)<|.h (.o4 4 (ao (e++[([120]:BL)])))<|.nil)) (.h (.fz 5)<|.h (.o4 5 (ao e))<|.q 2<|.nil))))))
  ((fun v1:BL=>((bf b p g 3).sm/\Er g (aq b p)/\((b.length<=2000)/\(p<=1000000)/\(3<=1000000))/\∀ r6:Nat,(3=0/\r6=0\/r6<3)->m8 (1+(r6:Int))/\(∃ x:Nat×(List BL)×Nat×Nat×Nat×Nat,match x with | (NX,D6,z7,H6,A5,s7)=>(il b p g w NX D6 z7 H6 A5 s7)/\E (.ptr (.key 1000) [] g 0)/\E (bZ w)/\Q (.own 1 ([].map sV) 0 0 0) (.own 1 (D6.map sV) H6 A5 s7)/\Q (iN (1+r6)) (iN NX)/\Qr g (aq b (p+1)) g (aq b z7)/\True)/\∀ x:Nat×(List BL)×Nat×Nat×Nat×Nat,match x with | (m,e,q,u,f,k)=>(il b p g w m e q u f k)->Br (s9 (m:Int) 0) ((uy b q g w).sm/\Er g (aq b q)/\((b.length<=2000)/\(q<=800000)/\(w.length<=30)/\(∀ y,y∈w->m9 y))/\∀ Nf:BL×Nat,(Nf.1.length<=30/\q<=Nf.2/\Nf.2<=q+8/\m5 Nf.1)->(fun v2:List V=>((1,1,u,f,k,(e.map sV).length)=(1,1,u,f,k,(e.map sV).length))/\(True)/\(V.aE v2=false)/\(aJ 1 v2)/\(((e.map sV).length+v2.length)*16<=140737488355328)/\∀ g20 O0 Pw:Nat,((.own 1 ((e.map sV)++v2) g20 O0 Pw:V)=.own 1 ((e++[Nf.1]).map sV) g20 O0 Pw)/\m8 ((m:Int)-1)/\Q (iV ((m:Int)-1)) (iN (m-1))/\∃ x:Nat×(List BL)×Nat×Nat×Nat×Nat,match x with | (m₂,x5,n9,B9,r4,k₂)=>(il b p g w m₂ x5 n9 B9 r4 k₂)/\(m₂<m)/\E (.ptr (.key 1000) [] g 0)/\E (bZ w)/\Q (.own 1 ((e++[Nf.1]).map sV) g20 O0 Pw) (.own 1 (x5.map sV) B9 r4 k₂)/\Q (iN (m-1)) (iN m₂)/\Qr g (aq b Nf.2) g (aq b n9)/\True) ([sV Nf.1]:List V)) ((bf b q g 12).sm/\Er g (aq b q)/\((b.length<=2000)/\(q<=1000000)/\(12<=1000000))/\∀ D5:Nat,(12=0/\D5=0\/D5<12)->Br (o9 (D5:Int) 0) (((1,1,u,f,k,(e.map sV).length)=(1,1,u,f,k,(e.map sV).length))/\(True)/\(V.aE ([sV v1]:List V)=false)/\(aJ 1 ([sV v1]:List V))/\(((e.map sV).length+([sV v1]:List V).length)*16<=140737488355328)/\∀ UK Un UP:Nat,((.own 1 ((e.map sV)++([sV v1]:List V)) UK Un UP:V)=.own 1 ((e++[v1]).map sV) UK Un UP)/\((.sl false (V.B8 ((e++[v1]).map sV)):V)=ao (e++[v1]))/\∃ x:List BL×Nat,(x.1.length<=4/\(∀ y,y∈x.1->y.length<=30/\m5 y)/\p<=x.2/\x.2<=p+60)/\Q (ao (e++[v1])) (ao x.1)/\Qr g (aq b (q+1)) g (aq b x.2)) (((.sl false (V.B8 (e.map sV)):V)=ao e)/\∃ x:List BL×Nat,(x.1.length<=4/\(∀ y,y∈x.1->y.length<=30/\m5 y)/\p<=x.2/\x.2<=p+60)/\Q (ao e) (ao x.1)/\Qr g (aq b (q+1)) g (aq b x.2))))) ([120]:BL))
  Z7 ?_
 refine⟨rfl,rfl,⟨Z9,Z9,Z9⟩,?_⟩
 intro r6 Nt
 refine⟨Z9,?_⟩
 refine⟨⟨(1+r6,[],p+1,0,0,0),?_,rfl,rfl,rfl,rfl,rfl,trivial⟩,?_⟩
 unfold il
 exact⟨Z0,Z8,Z9,Z9⟩
 rintro⟨m,e,q,u,f,k⟩ ⟨h1,h2,h3,h4⟩
 refine bI (fun j7=>?_) fun j7=>?_
 refine⟨rfl,rfl,⟨Z9,Z9,Z9,hy⟩,?_⟩
 intro Nf SO
 refine⟨rfl,trivial,rfl,by simp[aJ,V.n,V.ns],Z0,?_⟩
 intro g20 O0 Pw
 refine⟨Zq (V.own 1 · g20 O0 Pw) Z8,Z9,by simp[Q];omega,?_⟩
 refine⟨(m-1,e++[Nf.1],Nf.2,g20,O0,Pw),?_,?_,rfl,rfl,rfl,rfl,rfl,trivial⟩
 unfold il
 exact⟨Z0,gJ h2 ⟨SO.1,SO.2.2.2⟩,Z9,Z9⟩
 exact Z1
 refine⟨rfl,rfl,⟨Z9,Z9,Z9⟩,?_⟩
 intro D5 Q4
 refine bI (fun l6=>?_) fun l6=>?_
 refine⟨rfl,trivial,rfl,by simp[aJ,V.n,V.ns],Z0,?_⟩
 intro UK Un UP
 refine⟨Zq (V.own 1 · UK Un UP) Z8,Zq (V.sl false) (aM (fun _=>rfl) _),?_⟩
 refine⟨(e++[([120]:BL)],q+1),?_,?_,?_⟩
 try dsimp only
 exact⟨Z0,gJ h2 ⟨Z8,bJ rfl⟩,Z9,Z9⟩
 first | rfl | simp_all
 first | rfl | exact⟨rfl,rfl⟩ | simp_all
 refine⟨Zq (V.sl false) (aM (fun _=>rfl) _),?_⟩
 refine⟨(e,q+1),?_,?_,?_⟩
 try dsimp only
 exact⟨Z9,h2,Z9,Z9⟩
 first | rfl | simp_all
 first | rfl | exact⟨rfl,rfl⟩ | simp_all)
def eQ(b:BL):G5 Tryz.prog:=.mk (List Pg×BL×List BL) 9 [fJ b] [] (b.length<=9223372036854775807) (fun x=>1<=x.1.length/\x.1.length<=30/\(∀ y,y∈x.1->m9 y)/\x.2.1.length<=5/\bn x.2.1=true/\x.2.2.length<=4/\(∀ y,y∈x.2.2->y.length<=30/\m5 y)) (fun x=>.tup [bZ x.1,sV x.2.1,ao x.2.2]) (fun x=>[]) (by
 intro hb
 refine fh (N:=17) (rs:=[.tmp 2,.tmp 3,.tmp 4]) (X:=List Pg×BL×List BL) (post:=fun x=>1<=x.1.length/\x.1.length<=30/\(∀ y,y∈x.1->m9 y)/\x.2.1.length<=5/\bn x.2.1=true/\x.2.2.length<=4/\(∀ y,y∈x.2.2->y.length<=30/\m5 y)) (E:=fun x=>.tup [.sl false (x.1.map r5),sV x.2.1,.sl false (x.2.2.map sV)]) (H':=fun x=>[]) Tryz.func9 Z7 rfl rfl rfl Z7 [] (by intro _ k hk;simpa[lk] using hk)
  (.q 3<|.q 1<|.cx (zN b) [(1000,8)] (fun (l5:BL×Nat)=>.q 1<|.q 1<|.cx (yT l5.1 0 l5.2) [(1000,8)] (fun (r6:List Pg×Nat)=>.q 1<|.h (.fz 6)<|.h (.o4 6 (bZ r6.1))<|.q 2<|.cx (xA l5.1 r6.2 l5.2) [(1000,8)] (fun (J7:BL)=>.q 2<|.cx (vl l5.1 (r6.2+1) l5.2 r6.1) [(1000,8)] (fun (OL:List BL×Nat)=>.q 3<|.nil)))))
  ((zN b).sm/\((b.length<=9223372036854775807))/\∀ l5:BL×Nat,(l5.1.length<=2000)->(yT l5.1 0 l5.2).sm/\Er l5.2 (.agg [fJ l5.1,iN 0])/\((l5.1.length<=2000)/\(0<=600000))/\∀ r6:List Pg×Nat,(1<=r6.1.length/\r6.1.length<=30/\(∀ y,y∈r6.1->m9 y)/\0<=r6.2/\r6.2<=0+1600)->((.sl false (V.B8 (r6.1.map r5)):V)=bZ r6.1)/\(xA l5.1 r6.2 l5.2).sm/\Er l5.2 (aq l5.1 r6.2)/\((l5.1.length<=2000)/\(r6.2<=900000))/\∀ J7:BL,(J7.length<=5/\bn J7=true)->(vl l5.1 (r6.2+1) l5.2 r6.1).sm/\Er l5.2 (aq l5.1 (r6.2+1))/\((l5.1.length<=2000)/\((r6.2+1)<=700000)/\(r6.1.length<=30)/\(∀ y,y∈r6.1->m9 y))/\∀ OL:List BL×Nat,(OL.1.length<=4/\(∀ y,y∈OL.1->y.length<=30/\m5 y)/\(r6.2+1)<=OL.2/\OL.2<=(r6.2+1)+60)->∃ x:List Pg×BL×List BL,(1<=x.1.length/\x.1.length<=30/\(∀ y,y∈x.1->m9 y)/\x.2.1.length<=5/\bn x.2.1=true/\x.2.2.length<=4/\(∀ y,y∈x.2.2->y.length<=30/\m5 y))/\Q (.tup [bZ r6.1,sV J7,ao OL.1]) (.tup [bZ x.1,sV x.2.1,ao x.2.2]))
  Z7 ?_
 refine⟨rfl,Z5,?_⟩
 intro l5 H9
 refine⟨rfl,rfl,⟨Z5,Z5⟩,?_⟩
 intro r6 Nt
 refine⟨Zq (V.sl false) (aM (fun _=>rfl) _),rfl,rfl,⟨Z5,Z5⟩,?_⟩
 intro J7 P5
 refine⟨rfl,rfl,⟨Z9,Z9,Z9,Nt.2.2.1⟩,?_⟩
 intro OL SQ
 refine⟨(r6.1,J7,OL.1),?_,?_⟩
 try dsimp only
 exact⟨Z9,Z9,Nt.2.2.1,Z9,P5.2,SQ.1,SQ.2.1⟩
 first | rfl | simp_all)
def AP(l:List BL)(y:BL):o6 Tryz.prog:=.mk 20 [ao l,sV y] [] (l.length<=1000000) (bV (l.contains y)) [] (by
 intro hl
 refine av (N:=18) (rs:=[.tmp 4]) Tryz.func20
  (.q 1<|.q 1<|.loop (Nat) (fun (i:Nat)=>⟨[(0,ao l),(1,sV y),(5,iN i)],[]⟩) (fun (i:Nat)=>i<=l.length/\∀ j,j<i->(l.getD j []==y)=false) (fun (i:Nat)=>l.length-i) (fun (i:Nat)=>.q 4<|.br (.r 6 [sV (l.getD i [])]<|.br (.q 1<|.nil) (.q 3<|.nil)) (.q 1<|.nil)))
  ((∃ j6:Nat,(j6<=l.length/\∀ j,j<j6->(l.getD j []==y)=false)/\E (ao l)/\E (sV y)/\Q (iN 0) (iN j6)/\True)/\∀ i:Nat,(i<=l.length/\∀ j,j<i->(l.getD j []==y)=false)->Br (r9 (i:Int) (((l.map sV).length:Nat):Int)) (Ex (i:Int) (l.map sV) (sV (l.getD i []))/\True/\Br ((l.getD i [])==y) (Q (bV true) (bV (l.contains y))) (m8 ((i:Int)+1)/\∃ b7:Nat,(b7<=l.length/\∀ j,j<b7->(l.getD j []==y)=false)/\(l.length-b7<l.length-i)/\E (ao l)/\E (sV y)/\Q (iN (i+1)) (iN b7)/\True)) (Q (bV false) (bV (l.contains y)))) ?_
 refine⟨⟨0,?_,rfl,rfl,rfl,trivial⟩,?_⟩
 simp
 rintro i ⟨h1,h2⟩
 refine bI (fun j7=>?_) fun j7=>?_
 refine⟨⟨Z9,aj (d:=[]) Z9⟩,trivial,?_⟩
 refine bI (fun l6=>?_) fun l6=>?_
 unfold Q
 rw[Ka (i:=i) Z9 l6]
 refine⟨Z9,?_⟩
 refine⟨i+1,?_,?_,rfl,rfl,rfl,trivial⟩
 exact⟨Z9,bS h2 (by simpa using l6)⟩
 exact Z1
 unfold Q
 rw[Lu (fun j hj=>by have:=h2 j Z9;simpa using this)])
def vG(l:List BL)(m:List BL):o6 Tryz.prog:=.mk 27 [ao l,ao m] [] ((l.length<=1000000)/\(m.length<=1000000)/\(∀ y,y∈l->y∈m)) (bV true) [] (by
 rintro⟨hl,hm,hs⟩
 refine av (N:=19) (rs:=[.tmp 4]) Tryz.func27
  (.q 1<|.q 1<|.loop (Nat) (fun (i:Nat)=>⟨[(0,ao l),(1,ao m),(5,iN i)],[]⟩) (fun (i:Nat)=>i<=l.length) (fun (i:Nat)=>l.length-i) (fun (i:Nat)=>.q 4<|.br (.r 5 [sV (l.getD i [])]<|.c (AP m (l.getD i [])) []<|.q 1<|.br (.q 1<|.nil) (.q 3<|.nil)) (.q 1<|.nil)))
  ((∃ j6:Nat,(j6<=l.length)/\E (ao l)/\E (ao m)/\Q (iN 0) (iN j6)/\True)/\∀ i:Nat,(i<=l.length)->Br (r9 (i:Int) (((l.map sV).length:Nat):Int)) (Ex (i:Int) (l.map sV) (sV (l.getD i []))/\True/\(AP m (l.getD i [])).sm/\((m.length<=1000000))/\Br (!(m.contains (l.getD i []))) (Q (bV false) (bV true)) (m8 ((i:Int)+1)/\∃ b7:Nat,(b7<=l.length)/\(l.length-b7<l.length-i)/\E (ao l)/\E (ao m)/\Q (iN (i+1)) (iN b7)/\True)) (Q (bV true) (bV true))) ?_
 refine⟨⟨0,?_,rfl,rfl,rfl,trivial⟩,?_⟩
 simp
 rintro i h1
 refine bI (fun j7=>?_) fun j7=>?_
 refine⟨⟨Z9,aj (d:=[]) Z9⟩,trivial,rfl,Z5,?_⟩
 refine bI (fun l6=>?_) fun l6=>?_
 exact absurd l6 (by rw[DC hs Z9];decide)
 refine⟨Z9,?_⟩
 refine⟨i+1,?_,?_,rfl,rfl,rfl,trivial⟩
 omega
 exact Z1
 unfold Q
 rfl)
structure u7 where
 ad:BL
 tr:Int
structure j9 where
 na:BL
 re:Int
 kn:Bool
 gr:k9
 tr:Int
 td:List u7
structure l7 where
 ti:Int
 ad:BL
 ki:Int
structure j8 where
 na:BL
 a7:Int
 hs:List j9
 se:List BL
 lk:List l7
def e9:j9:=⟨[],0,false,⟨[],[],0⟩,0,[]⟩
def l3:u7:=⟨[],0⟩
def l4:l7:=⟨0,[],0⟩
def bM(d n:BL):j9:=⟨d,0,false,⟨[n],[],0⟩,0,[]⟩
def r7(hs:List j9)(d:BL):Nat:=hs.findIdx fun h=>h.na==d
def ax(hs:List j9)(d n:BL):List j9:=if r7 hs d<hs.length then hs else hs++[bM d n]
def pathOf(s:BL):BL:=bj (oA (aw s))
def ab(s:BL):BL:=(oA (aw s)).c5
def ba(h:j9)(s:BL):j9:=if h.kn=true/\aD h.gr.ru (pathOf s)=false then h else { h with td:=h.td++[⟨s,0⟩] }
def dq(se:List BL)(s:BL):Prop:=az s=true/\se.length<60/\s ∉ se
instance (se:List BL) (s:BL):Decidable (dq se s):=by unfold dq;infer_instance
def ct(se:List BL)(s:BL):List BL:=if dq se s then se++[s] else se
def aQ(n:BL)(hs:List j9)(se:List BL)(s:BL):List j9:=
 if dq se s then (ax hs (ab s) n).set (r7 hs (ab s)) (ba ((ax hs (ab s) n).getD (r7 hs (ab s)) e9) s) else hs
def ak(t:j8)(s:BL):j8:={ t with se:=ct t.se s,hs:=aQ t.na t.hs t.se s }
theorem cK(hs:List j9)(d n:BL):r7 hs d<(ax hs d n).length:=by
 unfold ax
 split
 assumption
 rename_i h
 have:r7 hs d<=hs.length:=List.findIdx_le_length
 simp only[YT,YV,YY];omega
theorem tn(hs:List j9)(d n:BL):(ax hs d n).length<=hs.length+1:=by
 unfold ax
 split <;> simp
def oT(o:Option j8):j8:=o.getD ⟨[],0,[],[],[]⟩
def aU(n:BL):j8:=⟨n,0,[],[],[]⟩
def aH(n:BL)(c9:List BL):Option j8:=if bn n=true/\c9.length<=12 then some (c9.foldl ak (aU n)) else none
structure RB (n:BL) (k:Nat) (t:j8):Prop where
 na:t.na=n
 a7:t.a7=0
 lk:t.lk=[]
 hl:t.hs.length<=k
 sl:t.se.length<=k
 hs:∀ y,y∈t.hs->y.kn=false/\y.gr=⟨[n],[],0⟩/\y.td.length<=k/\y.re=0/\y.tr=0
theorem bQ{α:Type}{l:List α}{i:Nat}{a y:α}(h:y∈l.set i a):y=a\/y∈l:=by
 rcases List.mem_or_eq_of_mem_set h with h | h
 exact .inr h
 exact .inl h
theorem Fq{n s:BL}{k:Nat}{t:j8}(h:RB n k t):RB n (k+1) (ak t s):=by
 have hin:∀ d y,y∈ax t.hs d t.na->y.kn=false/\y.gr=⟨[n],[],0⟩/\y.td.length<=k/\y.re=0/\y.tr=0:=fun d y hy=>by
  unfold ax at hy
  split at hy
  exact h.hs y hy
  rcases Y1.1 hy with hy | hy
  exact h.hs y hy
  rw[YZ.1 hy,h.na];simp[bM]
 refine⟨h.na,h.a7,h.lk,?_,?_,fun y hy=>?_⟩
 show (aQ t.na t.hs t.se s).length<=k+1
 unfold aQ
 split
 have:=tn t.hs (ab s) t.na
 have:=h.hl
 rw[List.length_set];omega
 have:=h.hl;omega
 show (ct t.se s).length<=k+1
 unfold ct
 have:=h.sl
 split
 simp;omega
 omega
 have hy:y∈aQ t.na t.hs t.se s:=hy
 unfold aQ at hy
 split at hy
 rcases bQ hy with e | hy
 have hm:(ax t.hs (ab s) t.na).getD (r7 t.hs (ab s)) e9∈ax t.hs (ab s) t.na:=by
  rw[YQ,YX (cK ..)];exact List.getElem_mem _
 obtain⟨a1,a2,a3,a4,a5⟩:=hin _ _ hm
 rw[e]
 unfold ba
 rw[if_neg (fun c=>by rw[a1]at c;cases c.1)]
 exact⟨a1,a2,by simp only[YT,YV,YY];omega,a4,a5⟩
 obtain⟨a1,a2,a3,a4,a5⟩:=hin _ _ hy
 exact⟨a1,a2,Z9,a4,a5⟩
 obtain⟨a1,a2,a3,a4,a5⟩:=h.hs y hy
 exact⟨a1,a2,Z9,a4,a5⟩
theorem kU(n:BL):∀ (l:List BL) {k:Nat} {t:j8},RB n k t->RB n (k+l.length) (l.foldl ak t)
 | [],k,t,h=>h
 | a::r,k,t,h=>by
   have:=kU n r (Fq (s:=a) h)
   rw[show k+(a::r).length=k+1+r.length from Z0]
   exact this
theorem lV(n:BL):RB n 0 (aU n):=⟨rfl,rfl,rfl,by simp[aU],by simp[aU],fun y hy=>by simp[aU]at hy⟩
def cW(k:Int):Int:=if k=1 then 2 else if k=2 then 4 else if k=3 then 8 else 0
def nH(a7:Int)(x:Int×Int)(p:Nat×j9):Int×Int:=
 if p.2.td≠[]/\(x.1<0\/max p.2.re a7<x.2) then (p.1,max p.2.re a7) else x
def C8(t:j8)(i:Nat):Int×Int:=((t.hs.zipIdx.take i).map fun p=>(p.2,p.1)).foldl (nH t.a7) (-1,0)
def fv(t:j8):Option (Nat×Int):=
 if (C8 t t.hs.length).1<0\/5000<(C8 t t.hs.length).2 then none else some ((C8 t t.hs.length).1.toNat,(C8 t t.hs.length).2)
def de(h:j9)(a7:Int)(k n:Int):j9:={ h with re:=a7+max (h.gr.wa:Int) 1+(if k=3 then cW (n+1) else 0) }
def EM(s:BL)(k:Int)(x:BL):List BL:=if k=1 then bC (oA (aw s)) x else if k=2 then [x] else []
def cU(h:j9)(se:List BL):Bool:=
 decide (h.td.length<=se.length)&&(h.td.all fun it=>az it.ad&&(ab it.ad==h.na)&&se.contains it.ad&&A7 it.tr 0 2)&&decide (h.td.map (·.ad)).Nodup
def dj(h:j9)(n:BL):Bool:=
 cM h.na&&A7 h.re 0 5100&&A7 h.tr 0 2&&(h.gr.na==[n])&&
  (if h.kn=true then decide (h.gr.ru.length<=40)&&(h.gr.ru.all fun r=>aN r.path)&&A7 h.gr.wa 0 20 else decide (h.gr.ru=[]/\h.gr.wa=0))
def cH(lk:List l7)(a7:Int):Bool:=
 decide (lk.length<=400)&&((List.range lk.length).all fun i=>decide ((if i=0 then 0 else (lk.getD (i-1) l4).ti)<=(lk.getD i l4).ti)&&decide ((lk.getD i l4).ti<=a7)&&A7 (lk.getD i l4).ki 0 3&&az (lk.getD i l4).ad)
def cY(se:List BL):Bool:=decide (se.length<=60)&&decide se.Nodup&&se.all az
def aC(t:j8):Bool:=bn t.na&&A7 t.a7 0 5000&&cY t.se&&cH t.lk t.a7&&(t.hs.all fun h=>dj h t.na&&cU h t.se)&&decide (t.hs.map (·.na)).Nodup
structure RC (h:j9):Prop where
 n:h.na.length<=1000
 r:h.gr.ru.length<=1000
 rp:∀ i,(h.gr.ru.getD i ⟨false,[]⟩).path.length<=1000
 g:h.gr.na.length<=1000
 t:h.td.length<=1000
 ta:∀ x,x∈h.td->x.ad.length<=1000/\m5 x.ad
structure w8 (t:j8):Prop where
 n:t.na.length<=1000
 h:t.hs.length<=1000
 s:t.se.length<=1000
 l:t.lk.length<=1000
 sa:∀ x,x∈t.se->x.length<=1000/\m5 x
 la:∀ x,x∈t.lk->x.ad.length<=1000/\m5 x.ad
 ha:∀ x,x∈t.hs->RC x
abbrev ai(x:u7):V:=.agg [sV x.ad,iV x.tr]
abbrev aO(x:l7):V:=.agg [iV x.ti,sV x.ad,iV x.ki]
abbrev aB(h:j9):V:=.agg [sV h.na,iV h.re,bV h.kn,bO h.gr,iV h.tr,.ow 2 (h.td.map ai)]
abbrev bR(h:j9):V:=.agg [sV h.na,iV h.re,bV h.kn,bO h.gr,iV h.tr,.sl false (h.td.map ai)]
abbrev xQ(t:j8):V:=.agg [sV t.na,iV t.a7,.ow 8 (t.hs.map aB),.ow 1 (t.se.map sV),.ow 3 (t.lk.map aO)]
abbrev cG(p0:List l7):V:=.sl false (p0.map aO)
abbrev nS(p0:List u7):V:=.sl false (p0.map ai)
abbrev bB(p0:BL)(p1:Int)(p2:List j9)(p3:List BL)(p4:List l7):V:=.agg [sV p0,iV p1,.sl false (p2.map bR),.sl false (p3.map sV),.sl false (p4.map aO)]
abbrev fa(p0:BL)(p1:Int)(p2:Bool)(p3:List BL)(p4:List s6)(p5:Nat)(p6:Int)(p7:List u7):V:=.agg [sV p0,iV p1,bV p2,.agg [.sl false (p3.map sV),.sl false (p4.map au),iN p5],iV p6,.sl false (p7.map ai)]
theorem Lx(H:List BL)(a:BL):(hE (H++[a])).length=(hE H).length+(if a∈H then 0 else 1):=by
 rw[<- AF,wJ,AB]
 by_cases h:a∈H
 rw[if_pos h,if_pos h,if_neg Z8];rfl
 rw[if_neg h,if_neg h,if_pos rfl]
theorem Ff(H:List BL):(hE H).length=H.length↔H.Nodup:=by
 have key:∀ n,∀ H:List BL,H.length=n->(hE H).length<=H.length/\((hE H).length=H.length↔H.Nodup):=by
  intro n
  induction n with
  | zero=>
    intro H h
    obtain rfl:=Y9 h
    exact⟨Zg _,by simp[hE]⟩
  | succ n ih=>
    intro H h
    obtain⟨L,a,rfl⟩:∃ L a,H=L++[a]:=⟨H.dropLast,H.getLast (by intro c;rw[c]at h;cases h),(List.dropLast_concat_getLast _).symm⟩
    simp only[YT,YV,YY]at h
    obtain⟨h1,h2⟩:=ih L Z9
    rw[Lx]
    simp only[YT,YV,YY]
    rw[List.nodup_append]
    by_cases c:a∈L
    rw[if_pos c]
    exact⟨Z9,Z9,fun hn=>absurd rfl (hn.2.2 a c a Z8)⟩
    rw[if_neg c]
    refine⟨Z9,fun e=>⟨h2.1 Z9,Z8,fun x hx y hy=>?_⟩,fun hn=>by have:=h2.2 hn.1;omega⟩
    rintro rfl
    exact c (by simpa using(YZ.1 hy) ▸ hx)
 exact(key _ H rfl).2
theorem yc{α:Type}{p:α->Bool}{d:α}{l:List α}(h:∀ j,j<l.length->p (l.getD j d)=true):l.all p=true:=by
 rw[Y6]
 intro x hx
 obtain⟨j,hj,rfl⟩:=Zk.1 hx
 have:=h j hj
 rwa [YQ,YX hj]at this
theorem xZ{α:Type}{p:α->Bool}{d:α}{l:List α}{i:Nat}(hi:i<l.length)(h:p (l.getD i d)=false):l.all p=false:=by
 rw[YQ,YX hi]at h
 rw[Bool.eq_false_iff]
 intro c
 rw[Y6]at c
 have:=c _ (List.getElem_mem hi)
 simp only[Option.getD_some]at h
 rw[h]at this;cases this
theorem ng{l:List BL}{i:Nat}(h:i<l.length):l.getD i []∈l:=by
 rw[YQ,YX h];exact List.getElem_mem h
theorem ay{α:Type}{l:List α}{d:α}{i:Nat}(h:i<l.length):l.getD i d∈l:=by
 rw[YQ,YX h];exact List.getElem_mem h
theorem EP{l:List BL}(h:60<(l.length:Int)\/¬ l.Nodup):cY l=false:=by
 unfold cY
 rcases h with h | h
 rw[decide_eq_false Z9];rfl
 rw[decide_eq_false h];simp
theorem Ev{l:List BL}{i:Nat}(hi:i<l.length)(h:az (l.getD i [])=false):cY l=false:=by
 unfold cY
 rw[xZ hi h];simp
theorem GC{l:List BL}(h:(l.length:Int)<=60/\l.Nodup)(h2:∀ j,j<l.length->az (l.getD j [])=true):cY l=true:=by
 unfold cY
 rw[yc h2,decide_eq_true h.2,decide_eq_true Z9];rfl
def ov(lk:List l7)(a7:Int)(i:Nat):Bool:=decide ((if i=0 then 0 else (lk.getD (i-1) l4).ti)<=(lk.getD i l4).ti)&&decide ((lk.getD i l4).ti<=a7)&&A7 (lk.getD i l4).ki 0 3&&az (lk.getD i l4).ad
theorem BW{lk:List l7}{a7:Int}(h:400<(lk.length:Int)):cH lk a7=false:=by
 unfold cH;rw[decide_eq_false Z9];rfl
theorem uj{lk:List l7}{a7:Int}{i:Nat}(hi:i<lk.length)(h:ov lk a7 i=false):cH lk a7=false:=by
 unfold cH
 rw[Bool.and_eq_false_iff]
 right
 rw[Bool.eq_false_iff]
 intro c
 rw[Y6]at c
 have:=c i (List.mem_range.2 hi)
 unfold ov at h
 rw[h]at this;cases this
theorem Ef{lk:List l7}{a7:Int}(h:(lk.length:Int)<=400)(h2:∀ j,j<lk.length->ov lk a7 j=true):cH lk a7=true:=by
 unfold cH
 rw[decide_eq_true Z9,Bool.true_and,Y6]
 exact fun i hi=>h2 i (List.mem_range.1 hi)
theorem JP{lk:List l7}{a7 la:Int}{i:Nat}(h2:la=if i=0 then 0 else (lk.getD (i-1) l4).ti)(h3:A7 (lk.getD i l4).ti la a7=true/\A7 (lk.getD i l4).ki 0 3=true)(h4:az (lk.getD i l4).ad=true):ov lk a7 i=true:=by
 unfold ov
 rw[<- h2,h3.2,h4]
 have:=h3.1
 unfold A7 at this
 rw[Zo]at this
 rw[decide_eq_true this.1,decide_eq_true this.2];rfl
theorem Ih{lk:List l7}{a7 la:Int}{i:Nat}(h2:la=if i=0 then 0 else (lk.getD (i-1) l4).ti)(h3:A7 (lk.getD i l4).ti la a7=false\/A7 (lk.getD i l4).ki 0 3=false):ov lk a7 i=false:=by
 unfold ov
 rw[<- h2]
 rcases h3 with h | h
 unfold A7 at h
 rw[Bool.decide_and]at h
 rw[h];rfl
 rw[h];simp
theorem Je{lk:List l7}{a7:Int}{i:Nat}(h:az (lk.getD i l4).ad=false):ov lk a7 i=false:=by
 unfold ov;rw[h];simp
theorem HM{l:List BL}{n:BL}(h:(l.length:Int)=1/\l.getD 0 []=n):l=[n]:=by
 obtain⟨h1,h2⟩:=h
 match l,h1 with
 | [x],_=>rw[<- h2];rfl
theorem IP{h:j9}{n:BL}(hb:(cM h.na=false\/A7 h.re 0 5100=false)\/A7 h.tr 0 2=false):dj h n=false:=by
 unfold dj
 rcases hb with (e | e) | e <;> rw[e] <;> simp
theorem Jx{h:j9}{n:BL}(hb: ¬ (h.gr.na.length:Int)=1\/¬ h.gr.na.getD 0 []=n):dj h n=false:=by
 unfold dj
 rw[show (h.gr.na==[n])=false from by rw[beq_eq_false_iff_ne];intro c;rw[c]at hb;simp at hb]
 simp
theorem JD{h:j9}{n:BL}(h1:(cM h.na=true/\A7 h.re 0 5100=true)/\A7 h.tr 0 2=true)(h2:(h.gr.na.length:Int)=1/\h.gr.na.getD 0 []=n)(h3:h.kn=false):dj h n=(o9 (h.gr.ru.length:Int) 0&&o9 (h.gr.wa:Int) 0):=by
 unfold dj
 rw[h1.1.1,h1.1.2,h1.2,HM h2,h3]
 rw[Za]
 simp
theorem Ji{h:j9}{n:BL}(h1:(cM h.na=true/\A7 h.re 0 5100=true)/\A7 h.tr 0 2=true)(h2:(h.gr.na.length:Int)=1/\h.gr.na.getD 0 []=n)(h3:h.kn=true):dj h n=((D1 (h.gr.ru.length:Int) 40&&(h.gr.ru.all fun r=>aN r.path))&&A7 (h.gr.wa:Int) 0 20):=by
 unfold dj
 rw[h1.1.1,h1.1.2,h1.2,HM h2,h3]
 simp
 congr 2
 rw[Za];simp;omega
def Q1(h:j9)(se:List BL)(it:u7):Bool:=az it.ad&&(ab it.ad==h.na)&&se.contains it.ad&&A7 it.tr 0 2
theorem LM{h:j9}{se:List BL}{it:u7}(h1:((ar it.ad).isSome=true/\(oA (ar it.ad)).c5=h.na)/\se.contains it.ad=true)(h2:A7 it.tr 0 2=true):Q1 h se it=true:=by
 unfold Q1 ab
 have h3:=h1.1.1
 rw[gP]at h3
 have h4:=h1.1.2
 rw[show ar it.ad=aw it.ad from if_pos h3]at h4
 rw[h3,h4,h1.2,h2];simp
theorem Lt{h:j9}{se:List BL}{it:u7}(h1:((ar it.ad).isSome=false\/¬ (oA (ar it.ad)).c5=h.na)\/se.contains it.ad=false):Q1 h se it=false:=by
 unfold Q1 ab
 by_cases h3:az it.ad=true
 rw[gP,show ar it.ad=aw it.ad from if_pos h3]at h1
 rcases h1 with (e | e) | e
 rw[e]at h3;cases h3
 rw[beq_eq_false_iff_ne.2 e];simp
 rw[e];simp
 rw[Bool.not_eq_true]at h3
 rw[h3];simp
theorem Lo{h:j9}{se:List BL}{it:u7}(h1:A7 it.tr 0 2=false):Q1 h se it=false:=by
 unfold Q1;rw[h1];simp
theorem Dh{h:j9}{se:List BL}(e:(se.length:Int)<(h.td.length:Int)):cU h se=false:=by
 unfold cU;rw[decide_eq_false Z9];rfl
theorem xe{h:j9}{se:List BL}{i:Nat}(hi:i<h.td.length)(e:Q1 h se (h.td.getD i l3)=false):cU h se=false:=by
 show (decide (h.td.length<=se.length)&&h.td.all (Q1 h se)&&decide (h.td.map (·.ad)).Nodup)=false
 rw[xZ (d:=l3) hi e];simp
theorem DR{h:j9}{se:List BL}(e:(h.td.length:Int)<=(se.length:Int))(e2:∀ j,j<h.td.length->Q1 h se (h.td.getD j l3)=true):cU h se=decide (h.td.map (·.ad)).Nodup:=by
 show (decide (h.td.length<=se.length)&&h.td.all (Q1 h se)&&decide (h.td.map (·.ad)).Nodup)=_
 rw[yc (d:=l3) e2,decide_eq_true Z9];simp
theorem Hd{t:j8}(h:bn t.na=false\/A7 t.a7 0 5000=false):aC t=false:=by
 unfold aC;rcases h with e | e <;> rw[e] <;> simp
theorem Hu{t:j8}(h:cY t.se=false\/cH t.lk t.a7=false):aC t=false:=by
 unfold aC;rcases h with e | e <;> rw[e] <;> simp
theorem Fg{t:j8}{i:Nat}(hi:i<t.hs.length)(h:dj (t.hs.getD i e9) t.na=false\/cU (t.hs.getD i e9) t.se=false):aC t=false:=by
 unfold aC
 rw[xZ (p:=fun h=>dj h t.na&&cU h t.se) (d:=e9) hi (by rcases h with e | e <;> rw[e] <;> simp)];simp
theorem FX{t:j8}(h1:bn t.na=true/\A7 t.a7 0 5000=true)(h2:cY t.se=true/\cH t.lk t.a7=true)(h3:∀ j,j<t.hs.length->(dj (t.hs.getD j e9) t.na&&cU (t.hs.getD j e9) t.se)=true):aC t=decide (t.hs.map (·.na)).Nodup:=by
 unfold aC
 rw[h1.1,h1.2,h2.1,h2.2,yc (p:=fun h=>dj h t.na&&cU h t.se) (d:=e9) h3];simp
def dv(a:Int)(x:Int)(b:Int):o6 Tryz.prog:=.mk 40 [iV a,iV x,iV b] [] True (bV (A7 x a b)) [] (by
 intro _
 refine av (N:=15) (rs:=[.tmp 6]) Tryz.func40
  (.q 1<|.q 9<|.nil)
  (Pk (D1 a x) ((D1 a x)==true) true/\Q (bV ((D1 a x)&&(D1 x b))) (bV (A7 x a b))) ?_
 refine⟨⟨fun h=>by rw[h] <;> rfl,fun _=>rfl⟩,?_⟩
 unfold Q
 refine Zq bV ?_
 unfold A7
 exact(Bool.decide_and ..).symm)
def jK(l:List BL):o6 Tryz.prog:=.mk 67 [ao l] [] (l.length<=1000000) (bV (decide l.Nodup)) [] (by
 intro hl
 refine av (N:=23) (rs:=[.tmp 2]) Tryz.func67
  (.q 1<|.cu U6 (fun g6=>.q 1<|.q 3<|.loop (Nat×Nat) (fun (i,gm)=>⟨[(0,ao l),(3,.om (hE (l.take i)) gm),(7,ao l),(8,iN l.length),(9,iN i)],[]⟩) (fun (i,gm)=>i<=l.length) (fun (i,gm)=>l.length-i) (fun (i,gm)=>.q 1<|.br (.r 3 [sV (l.getD i [])]<|.q 2<|.cu (WJ 3 (hE (l.take i)) (l.getD i []) (iN ((l.take i).count (l.getD i [])))) (fun _=>.q 1<|.cu (RU 3 (hE (l.take i)) (l.getD i []) (.int .i64 ((((l.take i).count (l.getD i []))+1:Nat):Int))) (fun _=>.h (.o4 3 (.om (hE (l.take i++[l.getD i []])) gm))<|.q 2<|.nil))) (.q 1<|.cu (mlC 3) (fun _=>.q 4<|.nil)))))
  (True/\∀ g6:Nat,(∃ x:Nat×Nat,match x with | (j6,Pp)=>(j6<=l.length)/\E (ao l)/\Q (.om [] g6) (.om (hE (l.take j6)) Pp)/\E (ao l)/\Q (iN ((l.map sV).length)) (iN l.length)/\Q (iN 0) (iN j6)/\True)/\∀ x:Nat×Nat,match x with | (i,gm)=>(i<=l.length)->(fun v1:Int=>Br (r9 (i:Int) (l.length:Int)) (Ex (i:Int) (l.map sV) (sV (l.getD i []))/\True/\(((gm:Nat)=gm/\(hE (l.take i):List (BL×Value))=hE (l.take i))/\((sV (l.getD i []):V)=sV (l.getD i []))/\((∃ y,bW (hE (l.take i)) (l.getD i [])=some y/\(iN ((l.take i).count (l.getD i [])):V).val? =some y)\/(bW (hE (l.take i)) (l.getD i [])=none/\∃ y,(iN ((l.take i).count (l.getD i [])):V).val? =some y/\∀ w,(zeroValue 3).run Tryz.prog w=.ok y w)))/\∀ _:Unit,m8 ((((l.take i).count (l.getD i []):Nat):Int)+1)/\(((gm:Nat)=gm/\(hE (l.take i):List (BL×Value))=hE (l.take i))/\((sV (l.getD i []):V)=sV (l.getD i []))/\(iN (((l.take i).count (l.getD i []))+1):V).val? =some (.int .i64 v1))/\∀ _:Unit,((.om (dC (hE (l.take i)) (l.getD i []) (.int .i64 v1)) gm:V)=.om (hE (l.take i++[l.getD i []])) gm)/\m8 ((i:Int)+1)/\∃ x:Nat×Nat,match x with | (b7,E')=>(b7<=l.length)/\(l.length-b7<l.length-i)/\E (ao l)/\Q (.om (hE (l.take i++[l.getD i []])) gm) (.om (hE (l.take b7)) E')/\E (ao l)/\E (iN l.length)/\Q (iN (i+1)) (iN b7)/\True) (((gm:Nat)=gm)/\∀ _:Unit,Q (bV (o9 (((hE (l.take i)).length:Nat):Int) (((l.map sV).length:Nat):Int))) (bV (decide l.Nodup)))) ((((l.take i).count (l.getD i []))+1:Nat):Int)) ?_
 refine⟨trivial,?_⟩
 intro g6
 refine⟨⟨(0,g6),?_,rfl,Z4,rfl,Z4,rfl,trivial⟩,?_⟩
 simp
 rintro⟨i,gm⟩ h1
 refine bI (fun j7=>?_) fun j7=>?_
 refine⟨⟨Z9,aj (d:=[]) Z9⟩,trivial,⟨⟨rfl,rfl⟩,rfl,KM (l.take i) (l.getD i [])⟩,?_⟩
 intro _
 refine⟨by have hc:(l.take i).count (l.getD i [])<=(l.take i).length:=List.count_le_length;simp only[List.length_take]at hc;omega,⟨⟨rfl,rfl⟩,rfl,rfl⟩,?_⟩
 intro _
 refine⟨Zq (V.om · gm) (AF (l.take i) (l.getD i [])),Z9,?_⟩
 refine⟨(i+1,gm),?_,?_,rfl,by rw[bg Z9 []],rfl,rfl,rfl,trivial⟩
 omega
 exact Z1
 refine⟨rfl,?_⟩
 intro _
 unfold Q
 rw[show i=l.length from Z9,Y3 (Zg _)]
 refine Zq bV ?_
 rw[Za]
 simp only[nb]
 rw[<- Ff]
 omega)
def zo(l:List BL):o6 Tryz.prog:=.mk 63 [ao l] [] ((l.length<=100000)/\(∀ x,x∈l->x.length<=1000/\m5 x)) (bV (cY l)) [] (by
 rintro⟨hl,ha⟩
 refine av (N:=23) (rs:=[.tmp 2]) Tryz.func63
  (.q 1<|.q 5<|.cg (jK l)<|.q 2<|.br (.q 1<|.nil) (.q 3<|.loop (Nat) (fun (i:Nat)=>⟨[(13,ao l),(14,iN l.length),(15,iN i)],[]⟩) (fun (i:Nat)=>i<=l.length/\∀ j,j<i->az (l.getD j [])=true) (fun (i:Nat)=>l.length-i) (fun (i:Nat)=>.q 1<|.br (.r 3 [sV (l.getD i [])]<|.q 1<|.c (fy (l.getD i [])) []<|.q 1<|.br (.q 1<|.nil) (.q 2<|.nil)) (.q 1<|.nil))))
  ((fun v1:Bool=>(Gd (v1==false) (((l.length<=1000000))/\(jK l).sm)/\Pk v1 true (v1==false)/\Br (v1||(!(decide l.Nodup))) (Q (bV false) (bV (cY l))) ((∃ j6:Nat,(j6<=l.length/\∀ j,j<j6->az (l.getD j [])=true)/\E (ao l)/\Q (iN ((l.map sV).length)) (iN l.length)/\Q (iN 0) (iN j6)/\True)/\∀ i:Nat,(i<=l.length/\∀ j,j<i->az (l.getD j [])=true)->Br (r9 (i:Int) (l.length:Int)) (Ex (i:Int) (l.map sV) (sV (l.getD i []))/\True/\(fy (l.getD i [])).sm/\(((l.getD i []).length<=1000000)/\(m5 (l.getD i [])))/\Br (!(az (l.getD i []))) (Q (bV false) (bV (cY l))) (m8 ((i:Int)+1)/\∃ b7:Nat,(b7<=l.length/\∀ j,j<b7->az (l.getD j [])=true)/\(l.length-b7<l.length-i)/\E (ao l)/\E (iN l.length)/\Q (iN (i+1)) (iN b7)/\True)) (Q (bV true) (bV (cY l)))))) (s9 (((l.map sV).length:Nat):Int) 60)) ?_
 refine⟨fun hG=>⟨by(try simp only[nb]at hG);omega,rfl⟩,⟨fun _=>rfl,fun h=>by rw[h] <;> rfl⟩,?_⟩
 refine bI (fun j7=>?_) fun j7=>?_
 unfold Q
 rw[EP j7]
 refine⟨⟨0,?_,rfl,Z4,rfl,trivial⟩,?_⟩
 simp
 rintro i ⟨h1,h2⟩
 refine bI (fun l6=>?_) fun l6=>?_
 have N0:=ha _ (ng (show i<l.length by omega))
 refine⟨⟨Z9,aj (d:=[]) Z9⟩,trivial,rfl,⟨Z9,N0.2⟩,?_⟩
 refine bI (fun n6=>?_) fun n6=>?_
 unfold Q
 rw[Ev (i:=i) Z9 (by simpa using n6)]
 refine⟨Z9,?_⟩
 refine⟨i+1,?_,?_,rfl,rfl,rfl,trivial⟩
 exact⟨Z9,bS h2 (by simpa using n6)⟩
 exact Z1
 unfold Q
 rw[GC j7 (fun j hj=>h2 j Z9)])
def xJ(rs:List s6):o6 Tryz.prog:=.mk 100 [eL rs] [] ((rs.length<=100000)/\(∀ i,(rs.getD i ⟨false,[]⟩).path.length<=1000000)) (bV (rs.all fun r=>aN r.path)) [] (by
 rintro⟨hl,ha⟩
 refine av (N:=16) (rs:=[.tmp 2]) Tryz.func100
  (.q 1<|.q 3<|.loop (Nat) (fun (i:Nat)=>⟨[(5,eL rs),(6,iN rs.length),(7,iN i)],[]⟩) (fun (i:Nat)=>i<=rs.length/\∀ j,j<i->aN (rs.getD j ⟨false,[]⟩).path=true) (fun (i:Nat)=>rs.length-i) (fun (i:Nat)=>.q 1<|.br (.r 2 [.agg [bV ((rs.getD i (⟨false,[]⟩:s6)).I3),sV ((rs.getD i (⟨false,[]⟩:s6)).path)]]<|.al uB (fun g4=>.st none<|.r 2 [.a8]<|.c (jI ((rs.getD i (⟨false,[]⟩:s6)).path)) []<|.q 1<|.br (.q 1<|.nil) (.q 2<|.nil))) (.q 1<|.nil)))
  ((∃ j6:Nat,(j6<=rs.length/\∀ j,j<j6->aN (rs.getD j ⟨false,[]⟩).path=true)/\E (eL rs)/\Q (iN ((rs.map au).length)) (iN rs.length)/\Q (iN 0) (iN j6)/\True)/\∀ i:Nat,(i<=rs.length/\∀ j,j<i->aN (rs.getD j ⟨false,[]⟩).path=true)->Br (r9 (i:Int) (rs.length:Int)) (Ex (i:Int) (rs.map au) (.agg [bV ((rs.getD i (⟨false,[]⟩:s6)).I3),sV ((rs.getD i (⟨false,[]⟩:s6)).path)])/\True/\∀ g4:Nat,Z g4 0/\Z g4 1/\(jI ((rs.getD i (⟨false,[]⟩:s6)).path)).sm/\((((rs.getD i (⟨false,[]⟩:s6)).path).length<=4611686018427387904))/\Br (!(dJ ((rs.getD i (⟨false,[]⟩:s6)).path))) (Q (bV false) (bV (rs.all fun r=>aN r.path))) (m8 ((i:Int)+1)/\∃ b7:Nat,(b7<=rs.length/\∀ j,j<b7->aN (rs.getD j ⟨false,[]⟩).path=true)/\(rs.length-b7<rs.length-i)/\E (eL rs)/\E (iN rs.length)/\Q (iN (i+1)) (iN b7)/\True)) (Q (bV true) (bV (rs.all fun r=>aN r.path)))) ?_
 refine⟨⟨0,?_,rfl,Z4,rfl,trivial⟩,?_⟩
 simp
 rintro i ⟨h1,h2⟩
 refine bI (fun j7=>?_) fun j7=>?_
 refine⟨⟨Z9,aj (d:=(⟨false,[]⟩:s6)) Z9⟩,trivial,?_⟩
 intro g4
 refine⟨rfl,rfl,rfl,by have:=ha i;omega,?_⟩
 refine bI (fun l6=>?_) fun l6=>?_
 unfold Q
 refine Zq bV ?_
 symm
 exact xZ (d:=⟨false,[]⟩) (i:=i) Z9 (by rw[oY]at l6;exact l6)
 refine⟨Z9,?_⟩
 refine⟨i+1,?_,?_,rfl,rfl,rfl,trivial⟩
 exact⟨Z9,bS h2 (by rw[oY]at l6;exact l6)⟩
 exact Z1
 unfold Q
 refine Zq bV ?_
 symm
 exact yc (d:=⟨false,[]⟩) (fun j hj=>h2 j Z9))
abbrev je(lk:List l7)(a7:Int)(i:Nat)(la:Int):Prop:=i<=lk.length/\la=(if i=0 then 0 else (lk.getD (i-1) l4).ti)/\∀ j,j<i->ov lk a7 j=true
def xI(lk:List l7)(a7:Int):o6 Tryz.prog:=.mk 64 [cG lk,iV a7] [] ((lk.length<=100000)/\(∀ x,x∈lk->x.ad.length<=1000/\m5 x.ad)) (bV (cH lk a7)) [] (by
 rintro⟨hl,ha⟩
 refine av (N:=36) (rs:=[.tmp 4]) Tryz.func64
  (.q 1<|.q 3<|.br (.q 1<|.nil) (.q 1<|.q 3<|.loop (Nat×Int) (fun (i,la)=>⟨[(1,iV a7),(5,iV la),(11,cG lk),(12,iN lk.length),(13,iN i)],[]⟩) (fun (i,la)=>je lk a7 i la) (fun (i,la)=>lk.length-i) (fun (i,la)=>.q 1<|.br (.r 2 [.agg [iV ((lk.getD i l4).ti),sV ((lk.getD i l4).ad),iV ((lk.getD i l4).ki)]]<|.al zB (fun g7=>.st none<|.r 4 [.a8]<|.c (dv la ((lk.getD i l4).ti) a7) []<|.r 4 [.a8]<|.cg (dv (0:Int) ((lk.getD i l4).ki) (3:Int))<|.q 2<|.br (.q 1<|.nil) (.r 2 [.a8]<|.c (fy ((lk.getD i l4).ad)) []<|.q 1<|.br (.q 1<|.nil) (.r 3 [.a8]<|.q 2<|.nil)))) (.q 1<|.nil))))
  (Br (s9 (((lk.map aO).length:Nat):Int) 400) (Q (bV false) (bV (cH lk a7))) ((∃ x:Nat×Int,match x with | (j6,SI)=>(je lk a7 j6 SI)/\E (iV a7)/\Q (iN 0) (iV SI)/\E (cG lk)/\Q (iN ((lk.map aO).length)) (iN lk.length)/\Q (iN 0) (iN j6)/\True)/\∀ x:Nat×Int,match x with | (i,la)=>(je lk a7 i la)->Br (r9 (i:Int) (lk.length:Int)) (Ex (i:Int) (lk.map aO) (.agg [iV ((lk.getD i l4).ti),sV ((lk.getD i l4).ad),iV ((lk.getD i l4).ki)])/\True/\∀ g7:Nat,Z g7 0/\Z g7 0/\(dv la ((lk.getD i l4).ti) a7).sm/\(True)/\Gd ((!(A7 ((lk.getD i l4).ti) la a7))==false) (Z g7 2)/\Gd ((!(A7 ((lk.getD i l4).ti) la a7))==false) ((True)/\(dv (0:Int) ((lk.getD i l4).ki) (3:Int)).sm)/\Pk (!(A7 ((lk.getD i l4).ti) la a7)) true ((!(A7 ((lk.getD i l4).ti) la a7))==false)/\Br ((!(A7 ((lk.getD i l4).ti) la a7))||(!(A7 ((lk.getD i l4).ki) (0:Int) (3:Int)))) (Q (bV false) (bV (cH lk a7))) (Z g7 1/\(fy ((lk.getD i l4).ad)).sm/\((((lk.getD i l4).ad).length<=1000000)/\(m5 ((lk.getD i l4).ad)))/\Br (!(az ((lk.getD i l4).ad))) (Q (bV false) (bV (cH lk a7))) (Z g7 0/\m8 ((i:Int)+1)/\∃ x:Nat×Int,match x with | (b7,SH)=>(je lk a7 b7 SH)/\(lk.length-b7<lk.length-i)/\E (iV a7)/\Q (iV ((lk.getD i l4).ti)) (iV SH)/\E (cG lk)/\E (iN lk.length)/\Q (iN (i+1)) (iN b7)/\True))) (Q (bV true) (bV (cH lk a7))))) ?_
 refine bI (fun j7=>?_) fun j7=>?_
 unfold Q
 rw[BW j7]
 refine⟨⟨(0,0),?_,rfl,Z4,rfl,Z4,rfl,trivial⟩,?_⟩
 unfold je
 simp
 rintro⟨i,la⟩ ⟨h1,h2,h3⟩
 refine bI (fun l6=>?_) fun l6=>?_
 have N0:=ha _ (ay (d:=l4) (show i<lk.length by omega))
 refine⟨⟨Z9,aj (d:=l4) Z9⟩,trivial,?_⟩
 intro g7
 refine⟨rfl,rfl,rfl,trivial,fun hG=>rfl,fun hG=>⟨trivial,rfl⟩,⟨fun _=>rfl,fun h=>by rw[h] <;> rfl⟩,?_⟩
 refine bI (fun n6=>?_) fun n6=>?_
 unfold Q
 rw[uj (i:=i) Z9 (Ih h2 n6)]
 refine⟨rfl,rfl,⟨Z9,N0.2⟩,?_⟩
 refine bI (fun w6=>?_) fun w6=>?_
 unfold Q
 rw[uj (i:=i) Z9 (Je (by simpa using w6))]
 refine⟨rfl,Z9,?_⟩
 refine⟨(i+1,(lk.getD i l4).ti),?_,?_,rfl,rfl,rfl,rfl,rfl,trivial⟩
 unfold je
 exact⟨Z9,Z8,bS h3 (JP h2 n6 (by simpa using w6))⟩
 exact Z1
 unfold Q
 rw[Ef j7 (fun j hj=>h3 j Z9)])
def wT(y:j9)(n:BL):o6 Tryz.prog:=.mk 65 [fa y.na y.re y.kn y.gr.na y.gr.ru y.gr.wa y.tr y.td,sV n] [] (RC y) (bV (dj y n)) [] (by
 intro hh
 refine av (N:=62) (rs:=[.tmp 4]) Tryz.func65
  (.bx (fun g2=>.q 1<|.r 2 [.a8]<|.c (oq y.na) []<|.r 4 [.a8]<|.cg (dv (0:Int) y.re (5100:Int))<|.r 5 [.a8]<|.cg (dv (0:Int) y.tr (2:Int))<|.q 2<|.br (.q 1<|.nil) (.r 2 [.a8]<|.al jt (fun g5=>.st none<|.r 12 [.a8,.a8,sV (y.gr.na.getD 0 [])]<|.br (.q 1<|.nil) (.r 3 [.a8]<|.br (.r 10 [.a8,.a8]<|.nil) (.r 7 [.a8,.a8]<|.cg (xJ y.gr.ru)<|.r 4 [.a8]<|.cg (dv (0:Int) (y.gr.wa:Int) (20:Int))<|.q 2<|.nil))))))
  ((fun v1:Int=>(fun v2:Bool=>(fun v3:Bool=>(fun v4:Bool=>(∀ g2:Nat,Z g2 0/\(oq y.na).sm/\((y.na.length<=4611686018427387904))/\Gd (v4==false) (Z g2 1)/\Gd (v4==false) ((True)/\(dv (0:Int) y.re (5100:Int)).sm)/\Pk v4 true (v4==false)/\Gd ((v4||v3)==false) (Z g2 6)/\Gd ((v4||v3)==false) ((True)/\(dv (0:Int) y.tr (2:Int)).sm)/\Pk (v4||v3) true ((v4||v3)==false)/\Br ((v4||v3)||(!(A7 y.tr (0:Int) (2:Int)))) (Q (bV false) (bV (dj y n))) (Z g2 3/\∀ g5:Nat,Z g5 0/\Z g5 0/\Gd (v2==false) (Z g5 0)/\Gd (v2==false) (Ex 0 (y.gr.na.map sV) (sV (y.gr.na.getD 0 [])))/\Gd (v2==false) True/\Pk v2 true (v2==false)/\Br (v2||(!((y.gr.na.getD 0 [])==n))) (Q (bV false) (bV (dj y n))) (Z g2 2/\Br (!y.kn) (Z g5 1/\Gd ((o9 v1 0)==true) (Z g5 2)/\Pk (o9 v1 0) ((o9 v1 0)==true) true/\Q (bV ((o9 v1 0)&&(o9 (y.gr.wa:Int) 0))) (bV (dj y n))) (Z g5 1/\Gd ((D1 v1 40)==true) (Z g5 1)/\Gd ((D1 v1 40)==true) (((y.gr.ru.length<=100000)/\(∀ i,(y.gr.ru.getD i ⟨false,[]⟩).path.length<=1000000))/\(xJ y.gr.ru).sm)/\Pk (D1 v1 40) ((D1 v1 40)==true) true/\Gd (((D1 v1 40)&&(y.gr.ru.all fun r=>aN r.path))==true) (Z g5 2)/\Gd (((D1 v1 40)&&(y.gr.ru.all fun r=>aN r.path))==true) ((True)/\(dv (0:Int) (y.gr.wa:Int) (20:Int)).sm)/\Pk ((D1 v1 40)&&(y.gr.ru.all fun r=>aN r.path)) (((D1 v1 40)&&(y.gr.ru.all fun r=>aN r.path))==true) true/\Q (bV (((D1 v1 40)&&(y.gr.ru.all fun r=>aN r.path))&&(A7 (y.gr.wa:Int) (0:Int) (20:Int)))) (bV (dj y n))))))) (!(cM y.na))) (!(A7 y.re (0:Int) (5100:Int)))) (A6 (((y.gr.na.map sV).length:Nat):Int) 1)) (((y.gr.ru.map au).length:Nat):Int)) ?_
 intro g2
 refine⟨rfl,rfl,by have:=hh.n;omega,fun hG=>rfl,fun hG=>⟨trivial,rfl⟩,⟨fun _=>rfl,fun h=>by rw[h] <;> rfl⟩,fun hG=>rfl,fun hG=>⟨trivial,rfl⟩,⟨fun _=>rfl,fun h=>by rw[h] <;> rfl⟩,?_⟩
 refine bI (fun j7=>?_) fun j7=>?_
 unfold Q
 rw[IP j7]
 refine⟨rfl,?_⟩
 intro g5
 refine⟨rfl,rfl,fun hG=>rfl,fun hG=>by(try simp only[nb]at hG);exact⟨Z9,aj (d:=[]) Z9⟩,fun hG=>trivial,⟨fun _=>rfl,fun h=>by rw[h] <;> rfl⟩,?_⟩
 refine bI (fun l6=>?_) fun l6=>?_
 unfold Q
 rw[Jx l6]
 refine⟨rfl,?_⟩
 refine bI (fun n6=>?_) fun n6=>?_
 refine⟨rfl,fun hG=>rfl,⟨fun h=>by rw[h] <;> rfl,fun _=>rfl⟩,?_⟩
 unfold Q
 rw[Y2,JD j7 l6 n6]
 refine⟨rfl,fun hG=>rfl,fun hG=>⟨⟨by(try simp only[nb]at hG);have:=hh.r;omega,fun i=>by have:=hh.rp i;omega⟩,rfl⟩,⟨fun h=>by rw[h] <;> rfl,fun _=>rfl⟩,fun hG=>rfl,fun hG=>⟨trivial,rfl⟩,⟨fun h=>by rw[h] <;> rfl,fun _=>rfl⟩,?_⟩
 unfold Q
 rw[Y2,Ji j7 l6 n6])
abbrev jX(y:j9)(se:List BL)(i:Nat)(o:List BL)(g:Nat)(f:Nat)(k:Nat):Prop:=i<=y.td.length/\o=(y.td.take i).map (·.ad)/\∀ j,j<i->Q1 y se (y.td.getD j l3)=true
def yu(y:j9)(se:List BL):o6 Tryz.prog:=.mk 66 [fa y.na y.re y.kn y.gr.na y.gr.ru y.gr.wa y.tr y.td,ao se] [] ((RC y)/\(se.length<=100000)) (bV (cU y se)) [] (by
 rintro⟨hh,hs⟩
 have Vi:=hh.t
 refine av (N:=57) (rs:=[.tmp 4]) Tryz.func66
  (.bx (fun g2=>.q 1<|.r 6 [.a8]<|.br (.q 1<|.nil) (.q 1<|.r 4 [.a8]<|.h (.H7 5 1)<|.loop (Nat×(List BL)×Nat×Nat×Nat) (fun (i,o,g,f,k)=>⟨[(1,ao se),(2,.ptr (.key 2) [] g2 0),(5,.own 1 (o.map sV) g f k),(17,nS y.td),(18,iN y.td.length),(19,iN i)],[(2,(g2,fa y.na y.re y.kn y.gr.na y.gr.ru y.gr.wa y.tr y.td))]⟩) (fun (i,o,g,f,k)=>jX y se i o g f k) (fun (i,o,g,f,k)=>y.td.length-i) (fun (i,o,g,f,k)=>.q 1<|.br (.r 2 [.agg [sV ((y.td.getD i l3).ad),iV ((y.td.getD i l3).tr)]]<|.al tc (fun g7=>.st none<|.r 2 [.a8]<|.c (cv ((y.td.getD i l3).ad)) []<|.q 3<|.al dg (fun g8=>.st none<|.q 1<|.r 13 [.a8,.a8,.a8]<|.cg (nX se ((y.td.getD i l3).ad))<|.q 2<|.br (.q 1<|.nil) (.r 2 [.a8]<|.c (dv (0:Int) ((y.td.getD i l3).tr) (2:Int)) []<|.q 1<|.br (.q 1<|.nil) (.r 3 [.a8]<|.bs<|.ap (fun Td Sy Tq=>.h (.o4 53 (.own 1 ((o++[(y.td.getD i l3).ad]).map sV) Td Sy Tq))<|.q 1<|.q 2<|.nil)))))) (.h (.fz 5)<|.h (.o4 5 (ao o))<|.q 1<|.c (jK o) []<|.q 1<|.nil)))))
  ((fun v1:V=>(∀ g2:Nat,Z g2 7/\Br (s9 (((y.td.map ai).length:Nat):Int) (((se.map sV).length:Nat):Int)) (Q (bV false) (bV (cU y se))) (Z g2 7/\(∃ x:Nat×(List BL)×Nat×Nat×Nat,match x with | (j6,w4,B6,A5,s7)=>(jX y se j6 w4 B6 A5 s7)/\E (ao se)/\E (.ptr (.key 2) [] g2 0)/\Q (.own 1 ([].map sV) 0 0 0) (.own 1 (w4.map sV) B6 A5 s7)/\E (nS y.td)/\Q (iN ((y.td.map ai).length)) (iN y.td.length)/\Q (iN 0) (iN j6)/\Er g2 v1/\True)/\∀ x:Nat×(List BL)×Nat×Nat×Nat,match x with | (i,o,g,f,k)=>(jX y se i o g f k)->(fun v2:u7=>(fun v3:Bool=>(fun v4:Bool=>(fun v5:List V=>Br (r9 (i:Int) (y.td.length:Int)) (Ex (i:Int) (y.td.map ai) (.agg [sV (v2.ad),iV (v2.tr)])/\True/\∀ g7:Nat,Z g7 0/\Z g7 0/\(cv (v2.ad)).sm/\(((v2.ad).length<=1000000)/\(m5 (v2.ad)))/\∀ g8:Nat,Z g8 0/\Gd (v3==false) (Z g8 0)/\Gd (v3==false) (Z g2 0)/\Pk v3 true (v3==false)/\Gd ((v3||v4)==false) (Z g7 0)/\Gd ((v3||v4)==false) (((se.length<=1000000))/\(nX se (v2.ad)).sm)/\Pk (v3||v4) true ((v3||v4)==false)/\Br ((v3||v4)||(!(se.contains (v2.ad)))) (Q (bV false) (bV (cU y se))) (Z g7 1/\(dv (0:Int) (v2.tr) (2:Int)).sm/\(True)/\Br (!(A7 (v2.tr) (0:Int) (2:Int))) (Q (bV false) (bV (cU y se))) (Z g7 0/\((1,1,g,f,k,(o.map sV).length)=(1,1,g,f,k,(o.map sV).length))/\(True)/\(V.aE v5=false)/\(aJ 1 v5)/\(((o.map sV).length+v5.length)*16<=140737488355328)/\∀ Td Sy Tq:Nat,((.own 1 ((o.map sV)++v5) Td Sy Tq:V)=.own 1 ((o++[v2.ad]).map sV) Td Sy Tq)/\m8 ((i:Int)+1)/\∃ x:Nat×(List BL)×Nat×Nat×Nat,match x with | (b7,l9,s5,r4,k₂)=>(jX y se b7 l9 s5 r4 k₂)/\(y.td.length-b7<y.td.length-i)/\E (ao se)/\E (.ptr (.key 2) [] g2 0)/\Q (.own 1 ((o++[v2.ad]).map sV) Td Sy Tq) (.own 1 (l9.map sV) s5 r4 k₂)/\E (nS y.td)/\E (iN y.td.length)/\Q (iN (i+1)) (iN b7)/\Er g2 v1/\True))) (((.sl false (V.B8 (o.map sV)):V)=ao o)/\(jK o).sm/\((o.length<=1000000))/\Q (bV (decide o.Nodup)) (bV (cU y se)))) ([sV (v2.ad)]:List V)) (!(((oA (ar (v2.ad))).c5)==y.na))) (!((ar (v2.ad)).isSome))) (y.td.getD i l3)))) (fa y.na y.re y.kn y.gr.na y.gr.ru y.gr.wa y.tr y.td)) ?_
 intro g2
 refine⟨rfl,?_⟩
 refine bI (fun j7=>?_) fun j7=>?_
 unfold Q
 rw[Dh j7]
 refine⟨rfl,?_⟩
 refine⟨⟨(0,[],0,0,0),?_,rfl,rfl,rfl,rfl,Z4,rfl,rfl,trivial⟩,?_⟩
 unfold jX
 simp
 rintro⟨i,o,g,f,k⟩ ⟨h1,h2,h3⟩
 refine bI (fun l6=>?_) fun l6=>?_
 have N0:=hh.ta _ (ay (d:=l3) (show i<y.td.length by omega))
 have S1:o.length=i:=by rw[h2,Y2,List.length_take];omega
 refine⟨⟨Z9,aj (d:=l3) Z9⟩,trivial,?_⟩
 intro g7
 refine⟨rfl,rfl,rfl,⟨Z9,N0.2⟩,?_⟩
 intro g8
 refine⟨rfl,fun hG=>rfl,fun hG=>rfl,⟨fun _=>rfl,fun h=>by rw[h] <;> rfl⟩,fun hG=>rfl,fun hG=>⟨by(try simp only[nb]at hG);omega,rfl⟩,⟨fun _=>rfl,fun h=>by rw[h] <;> rfl⟩,?_⟩
 refine bI (fun n6=>?_) fun n6=>?_
 unfold Q
 rw[xe (i:=i) Z9 (Lt n6)]
 refine⟨rfl,rfl,trivial,?_⟩
 refine bI (fun w6=>?_) fun w6=>?_
 unfold Q
 rw[xe (i:=i) Z9 (Lo w6)]
 refine⟨rfl,rfl,trivial,rfl,by simp[aJ,V.n,V.ns],Z0,?_⟩
 intro Td Sy Tq
 refine⟨Zq (V.own 1 · Td Sy Tq) Z8,Z9,?_⟩
 refine⟨(i+1,o++[(y.td.getD i l3).ad],Td,Sy,Tq),?_,?_,rfl,rfl,rfl,rfl,rfl,rfl,rfl,trivial⟩
 unfold jX
 exact⟨Z9,by rw[bg Z9 l3,Zf,<- h2];rfl,bS h3 (LM n6 w6)⟩
 exact Z1
 refine⟨Zq (V.sl false) (aM (fun _=>rfl) _),rfl,by rw[h2,Y2,List.length_take];omega,?_⟩
 unfold Q
 rw[DR j7 (fun j hj=>h3 j Z9),h2,Y3 Z9])
abbrev jL(t:j8)(i:Nat)(o:List BL)(g:Nat)(f:Nat)(k:Nat):Prop:=i<=t.hs.length/\o=(t.hs.take i).map (·.na)/\∀ j,j<i->(dj (t.hs.getD j e9) t.na&&cU (t.hs.getD j e9) t.se)=true
def dP(t:j8):o6 Tryz.prog:=.mk 36 [bB t.na t.a7 t.hs t.se t.lk] [] (w8 t) (bV (aC t)) [] (by
 intro ht
 have UB:=ht.h
 refine av (N:=55) (rs:=[.tmp 2]) Tryz.func36
  (.bx (fun g1=>.q 1<|.r 2 [.a8]<|.c (gp t.na) []<|.r 4 [.a8]<|.cg (dv (0:Int) t.a7 (5000:Int))<|.q 2<|.br (.q 1<|.nil) (.r 2 [.a8]<|.c (zo t.se) []<|.r 6 [.a8,.a8]<|.cg (xI t.lk t.a7)<|.q 2<|.br (.q 1<|.nil) (.q 1<|.r 4 [.a8]<|.h (.H7 3 1)<|.loop (Nat×(List BL)×Nat×Nat×Nat) (fun (i,o,g,f,k)=>⟨[(1,.ptr (.key 1) [] g1 0),(3,.own 1 (o.map sV) g f k),(29,.sl false (t.hs.map bR)),(30,iN t.hs.length),(31,iN i)],[(1,(g1,bB t.na t.a7 t.hs t.se t.lk))]⟩) (fun (i,o,g,f,k)=>jL t i o g f k) (fun (i,o,g,f,k)=>t.hs.length-i) (fun (i,o,g,f,k)=>.q 1<|.br (.r 2 [fa ((t.hs.getD i e9).na) ((t.hs.getD i e9).re) ((t.hs.getD i e9).kn) ((t.hs.getD i e9).gr.na) ((t.hs.getD i e9).gr.ru) ((t.hs.getD i e9).gr.wa) ((t.hs.getD i e9).tr) ((t.hs.getD i e9).td)]<|.al GS (fun g5=>.st none<|.r 3 [.a8,.a8]<|.c (wT (t.hs.getD i e9) t.na) []<|.r 5 [.a8,.a8]<|.cg (yu (t.hs.getD i e9) t.se)<|.q 2<|.br (.q 1<|.nil) (.r 3 [.a8]<|.bs<|.ap (fun Tf SA Ts=>.h (.o4 51 (.own 1 ((o++[(t.hs.getD i e9).na]).map sV) Tf SA Ts))<|.q 1<|.q 2<|.nil)))) (.h (.fz 3)<|.h (.o4 3 (ao o))<|.q 1<|.c (jK o) []<|.q 1<|.nil))))))
  (∀ g1:Nat,Z g1 0/\(gp t.na).sm/\((t.na.length<=4611686018427387904))/\Gd ((!(bn t.na))==false) (Z g1 1)/\Gd ((!(bn t.na))==false) ((True)/\(dv (0:Int) t.a7 (5000:Int)).sm)/\Pk (!(bn t.na)) true ((!(bn t.na))==false)/\Br ((!(bn t.na))||(!(A7 t.a7 (0:Int) (5000:Int)))) (Q (bV false) (bV (aC t))) (Z g1 3/\(zo t.se).sm/\((t.se.length<=100000)/\(∀ x,x∈t.se->x.length<=1000/\m5 x))/\Gd ((!(cY t.se))==false) (Z g1 4)/\Gd ((!(cY t.se))==false) (Z g1 1)/\Gd ((!(cY t.se))==false) (((t.lk.length<=100000)/\(∀ x,x∈t.lk->x.ad.length<=1000/\m5 x.ad))/\(xI t.lk t.a7).sm)/\Pk (!(cY t.se)) true ((!(cY t.se))==false)/\Br ((!(cY t.se))||(!(cH t.lk t.a7))) (Q (bV false) (bV (aC t))) (Z g1 2/\(∃ x:Nat×(List BL)×Nat×Nat×Nat,match x with | (j6,w4,B6,A5,s7)=>(jL t j6 w4 B6 A5 s7)/\E (.ptr (.key 1) [] g1 0)/\Q (.own 1 ([].map sV) 0 0 0) (.own 1 (w4.map sV) B6 A5 s7)/\E (.sl false (t.hs.map bR))/\Q (iN ((t.hs.map bR).length)) (iN t.hs.length)/\Q (iN 0) (iN j6)/\Er g1 (bB t.na t.a7 t.hs t.se t.lk)/\True)/\∀ x:Nat×(List BL)×Nat×Nat×Nat,match x with | (i,o,g,f,k)=>(jL t i o g f k)->(fun v1:j9=>(fun v2:Bool=>(fun v3:List V=>Br (r9 (i:Int) (t.hs.length:Int)) (Ex (i:Int) (t.hs.map bR) (fa (v1.na) (v1.re) (v1.kn) (v1.gr.na) (v1.gr.ru) (v1.gr.wa) (v1.tr) (v1.td))/\True/\∀ g5:Nat,Z g5 0/\Z g5 0/\Z g1 0/\(wT v1 t.na).sm/\((RC v1))/\Gd v2 (Z g5 0)/\Gd v2 (Z g1 3)/\Gd v2 (((RC v1)/\(t.se.length<=100000))/\(yu v1 t.se).sm)/\Pk (!(dj v1 t.na)) true v2/\Br ((!(dj v1 t.na))||(!(cU v1 t.se))) (Q (bV false) (bV (aC t))) (Z g5 0/\((1,1,g,f,k,(o.map sV).length)=(1,1,g,f,k,(o.map sV).length))/\(True)/\(V.aE v3=false)/\(aJ 1 v3)/\(((o.map sV).length+v3.length)*16<=140737488355328)/\∀ Tf SA Ts:Nat,((.own 1 ((o.map sV)++v3) Tf SA Ts:V)=.own 1 ((o++[v1.na]).map sV) Tf SA Ts)/\m8 ((i:Int)+1)/\∃ x:Nat×(List BL)×Nat×Nat×Nat,match x with | (b7,l9,s5,r4,k₂)=>(jL t b7 l9 s5 r4 k₂)/\(t.hs.length-b7<t.hs.length-i)/\E (.ptr (.key 1) [] g1 0)/\Q (.own 1 ((o++[v1.na]).map sV) Tf SA Ts) (.own 1 (l9.map sV) s5 r4 k₂)/\E (.sl false (t.hs.map bR))/\E (iN t.hs.length)/\Q (iN (i+1)) (iN b7)/\Er g1 (bB t.na t.a7 t.hs t.se t.lk)/\True)) (((.sl false (V.B8 (o.map sV)):V)=ao o)/\(jK o).sm/\((o.length<=1000000))/\Q (bV (decide o.Nodup)) (bV (aC t)))) ([sV (v1.na)]:List V)) ((!(dj v1 t.na))==false)) (t.hs.getD i e9)))) ?_
 intro g1
 refine⟨rfl,rfl,by have:=ht.n;omega,fun hG=>rfl,fun hG=>⟨trivial,rfl⟩,⟨fun _=>rfl,fun h=>by rw[h] <;> rfl⟩,?_⟩
 refine bI (fun j7=>?_) fun j7=>?_
 unfold Q
 rw[Hd j7]
 refine⟨rfl,rfl,⟨by have:=ht.s;omega,ht.sa⟩,fun hG=>rfl,fun hG=>rfl,fun hG=>⟨⟨by(try simp only[nb]at hG);have:=ht.l;omega,ht.la⟩,rfl⟩,⟨fun _=>rfl,fun h=>by rw[h] <;> rfl⟩,?_⟩
 refine bI (fun l6=>?_) fun l6=>?_
 unfold Q
 rw[Hu l6]
 refine⟨rfl,?_⟩
 refine⟨⟨(0,[],0,0,0),?_,rfl,rfl,rfl,Z4,rfl,rfl,trivial⟩,?_⟩
 unfold jL
 simp
 rintro⟨i,o,g,f,k⟩ ⟨h1,h2,h3⟩
 refine bI (fun n6=>?_) fun n6=>?_
 have N0:=ht.ha _ (ay (d:=e9) (show i<t.hs.length by omega))
 have S1:o.length=i:=by rw[h2,Y2,List.length_take];omega
 refine⟨⟨Z9,aj (d:=e9) Z9⟩,trivial,?_⟩
 intro g5
 refine⟨rfl,rfl,rfl,rfl,N0,fun hG=>rfl,fun hG=>rfl,fun hG=>⟨⟨N0,by(try simp only[nb]at hG);have:=ht.s;omega⟩,rfl⟩,⟨fun _=>rfl,fun h=>by rw[h] <;> rfl⟩,?_⟩
 refine bI (fun w6=>?_) fun w6=>?_
 unfold Q
 rw[Fg (i:=i) Z9 w6]
 refine⟨rfl,rfl,trivial,rfl,by simp[aJ,V.n,V.ns],Z0,?_⟩
 intro Tf SA Ts
 refine⟨Zq (V.own 1 · Tf SA Ts) Z8,Z9,?_⟩
 refine⟨(i+1,o++[(t.hs.getD i e9).na],Tf,SA,Ts),?_,?_,rfl,rfl,rfl,rfl,rfl,rfl,trivial⟩
 unfold jL
 exact⟨Z9,by rw[bg Z9 e9,Zf,<- h2];rfl,bS h3 (by rw[w6.1,w6.2];rfl)⟩
 exact Z1
 refine⟨Zq (V.sl false) (aM (fun _=>rfl) _),rfl,by rw[h2,Y2,List.length_take];omega,?_⟩
 unfold Q
 rw[FX j7 l6 (fun j hj=>h3 j Z9),h2,Y3 Z9])
theorem aS{g o f:Nat}{v:V}{vs:List V}{p:List Nat}(h:vs[f]? =some v):V.at g o (.agg vs) (f::p)=V.at g (o+V.ns (vs.take f)) v p:=by simp only[V.at,h]
section
variable {α:Type} {l:List α} {f:α->V} {e e':V} {r:List V} {i:Nat} {d:α}
theorem nV(h:i<=l.length):((l.take i).map f).length=i:=by rw[Y2,List.length_take];omega
theorem aK(h:i<=l.length):((l.take i).map f++e::r)[i]? =some e:=by
 rw[Y8 (by rw[nV h];omega),nV h,Nat.sub_self];rfl
theorem dc(h:i<=l.length):((l.take i).map f++e::r).set i e'=(l.take i).map f++e'::r:=by
 rw[List.set_append_right _ _ (by rw[nV h];omega),nV h,Nat.sub_self];rfl
theorem rL(h:i<l.length):l.map f=(l.take i).map f++f (l.getD i d)::(l.drop (i+1)).map f:=by
 have:l=l.take i++l.getD i d::l.drop (i+1):=by
  rw[YQ,YX h]
  simp only[Option.getD_some]
  rw[List.getElem_cons_drop,List.take_append_drop]
 conv=>lhs;rw[this,Zf,Zi]
theorem splitN{y:α}(e:l.getD i d=y)(h:i<l.length):l.map f=(l.take i).map f++f y::(l.drop (i+1)).map f:=by rw[<- e];exact rL h
theorem lF{x:α}(h:i<l.length):(l.take i).map f++f x::(l.drop (i+1)).map f=(l.set i x).map f:=by
 rw[List.set_eq_take_append_cons_drop,if_pos h,Zf,Zi]
end
abbrev lE(p0:BL)(p1:List j9)(p2:List BL)(p3:V):V:=.agg [sV p0,iV 0,.ow 8 (p1.map aB),.ow 1 (p2.map sV),p3]
abbrev bz(p0:BL)(p1:Int)(p2:List j9)(p3:List BL)(p4:List l7):V:=.agg [sV p0,iV p1,.ow 8 (p2.map aB),.ow 1 (p3.map sV),.ow 3 (p4.map aO)]
abbrev bL(p0:BL)(p1:Int)(p2:List j9)(p3:Nat)(p4:Nat)(p5:Nat)(p6:List BL)(p7:List l7):V:=.agg [sV p0,iV p1,.own 8 (p2.map aB) p3 p4 p5,.ow 1 (p6.map sV),.ow 3 (p7.map aO)]
abbrev mA(p0:BL)(p1:Int)(p2:List j9)(p3:Nat)(p4:BL)(p5:Int)(p6:Bool)(p7:List BL)(p8:List s6)(p9:Nat)(Qg:Int)(QW:Nat)(QV:Nat)(QU:Nat)(QT:List BL)(QS:List l7):V:=.agg [sV p0,iV p1,.own 8 ((p2.take p3).map aB++(.agg [sV p4,iV p5,bV p6,.agg [.sl false (p7.map sV),.sl false (p8.map au),iN p9],iV Qg,.a8]:V)::(p2.drop (p3+1)).map aB) QW QV QU,.ow 1 (QT.map sV),.ow 3 (QS.map aO)]
abbrev da(p0:BL)(p1:Int)(p2:List j9)(p3:Nat)(p4:BL)(p5:Int)(p6:Bool)(p7:List BL)(p8:List s6)(p9:Nat)(Qg:Int)(QW:List u7)(QV:Nat)(QU:Nat)(QT:Nat)(QS:List BL)(U5:List l7):V:=.agg [sV p0,iV p1,.own 8 ((p2.take p3).map aB++(.agg [sV p4,iV p5,bV p6,.agg [.sl false (p7.map sV),.sl false (p8.map au),iN p9],iV Qg,.ow 2 (QW.map ai)]:V)::(p2.drop (p3+1)).map aB) QV QU QT,.ow 1 (QS.map sV),.ow 3 (U5.map aO)]
abbrev bw(p0:BL)(p1:Int)(p2:List j9)(p3:Nat)(p4:BL)(p5:Int)(p6:Bool)(p7:List BL)(p8:List s6)(p9:Nat)(Qg:Int)(QW:List u7)(QV:Nat)(QU:Nat)(QT:Nat)(QS:Nat)(U5:Nat)(WG:Nat)(WE:List BL)(WD:List l7):V:=.agg [sV p0,iV p1,.own 8 ((p2.take p3).map aB++(.agg [sV p4,iV p5,bV p6,.agg [.sl false (p7.map sV),.sl false (p8.map au),iN p9],iV Qg,.own 2 (QW.map ai) QV QU QT]:V)::(p2.drop (p3+1)).map aB) QS U5 WG,.ow 1 (WE.map sV),.ow 3 (WD.map aO)]
theorem uw{hs:List j9}{d:BL}{i:Nat}(hi:i<hs.length)(e:(hs.getD i e9).na=d)(h:∀ j,j<i->((hs.getD j e9).na==d)=false):r7 hs d=i:=by
 unfold r7
 rw[List.findIdx_eq hi]
 simp only[YQ,YX hi]at e
 refine⟨by simpa using e,fun j hj=>?_⟩
 have:=h j hj
 simp only[YQ,YX (show j<hs.length by omega)]at this
 simpa using this
theorem vg{hs:List j9}{d:BL}(h:∀ j,j<hs.length->((hs.getD j e9).na==d)=false):r7 hs d=hs.length:=by
 unfold r7
 rw[List.findIdx_eq_length]
 intro x hx
 obtain⟨j,hj,rfl⟩:=Zk.1 hx
 have:=h j hj
 simp only[YQ,YX hj]at this
 simpa using this
theorem AA{hs:List j9}{d n:BL}{i:Nat}(hi:i<hs.length)(e:(hs.getD i e9).na=d)(h:∀ j,j<i->((hs.getD j e9).na==d)=false):ax hs d n=hs:=by
 unfold ax;rw[uw hi e h,if_pos hi]
theorem BE{hs:List j9}{d n:BL}(h:∀ j,j<hs.length->((hs.getD j e9).na==d)=false):ax hs d n=hs++[bM d n]:=by
 unfold ax;rw[vg h,if_neg Z9]
theorem oI{n a:BL}{hs:List j9}{se:List BL}(h: ¬ dq se a):aQ n hs se a=hs:=if_neg h
theorem oM{a:BL}{se:List BL}(h: ¬ dq se a):ct se a=se:=if_neg h
theorem wy{a:BL}{se:List BL}(h:dq se a):ct se a=se++[a]:=if_pos h
theorem Ls{a:BL}{se:List BL}(h:(ar a).isSome=false\/60<=(se.length:Int)): ¬ dq se a:=fun c=>by
 rw[gP]at h
 rcases h with h | h
 rw[c.1]at h;cases h
 have:=c.2.1;omega
theorem KE{a:BL}{se:List BL}(h:se.contains a=true): ¬ dq se a:=fun c=>c.2.2 (List.contains_iff_mem.1 h)
theorem Cd{a:BL}{se:List BL}(h:(ar a).isSome=true/\(se.length:Int)<60)(h2:se.contains a=false):dq se a:=by
 rw[gP]at h
 exact⟨h.1,Z9,fun c=>by rw[List.contains_iff_mem.2 c]at h2;cases h2⟩
theorem Hz{a:BL}{se:List BL}(h:dq se a):ar a=aw a/\(if aG (oA (ar a))=true then bj (oA (ar a)) else [])=pathOf a:=by
 have e:ar a=aw a:=if_pos h.1
 have hs:(aw a).isSome=true:=by have:=h.1;unfold az at this;rw[YS]at this;exact this.1
 exact⟨e,by rw[e,if_pos (gU hs)];rfl⟩
theorem Gr{n a:BL} {hs:List j9} {se:List BL} (h:dq se a) (hk:((ax hs (oA (ar a)).c5 n).getD (r7 hs (oA (ar a)).c5) e9).kn=true/\
 aD ((ax hs (oA (ar a)).c5 n).getD (r7 hs (oA (ar a)).c5) e9).gr.ru (if aG (oA (ar a))=true then bj (oA (ar a)) else [])=false):aQ n hs se a=ax hs (oA (ar a)).c5 n:=by
 obtain⟨e1,e2⟩:=Hz h
 rw[e2,e1]at hk
 unfold aQ
 rw[if_pos h,e1]
 unfold ba ab
 rw[if_pos hk]
 apply List.ext_getElem Z8
 intro i h1 h2
 rw[List.getElem_set]
 split
 rename_i e;subst e;rw[YQ,YX h2];rfl
 rfl
theorem ID{n a:BL} {hs:List j9} {se:List BL} (h:dq se a) (hk:((ax hs (oA (ar a)).c5 n).getD (r7 hs (oA (ar a)).c5) e9).kn=true->
 aD ((ax hs (oA (ar a)).c5 n).getD (r7 hs (oA (ar a)).c5) e9).gr.ru (if aG (oA (ar a))=true then bj (oA (ar a)) else [])=true):
 aQ n hs se a=(ax hs (oA (ar a)).c5 n).set (r7 hs (oA (ar a)).c5) { (ax hs (oA (ar a)).c5 n).getD (r7 hs (oA (ar a)).c5) e9 with td:=((ax hs (oA (ar a)).c5 n).getD (r7 hs (oA (ar a)).c5) e9).td++[⟨a,0⟩] }:=by
 obtain⟨e1,e2⟩:=Hz h
 rw[e2,e1]at hk
 unfold aQ
 rw[if_pos h,e1]
 unfold ba ab
 rw[if_neg (fun c=>by rw[hk c.1]at c;exact absurd c.2 Z6)]
theorem DK{n:BL}{c9:List BL}(h:bn n=false\/12<(c9.length:Int)):aH n c9=none:=if_neg fun c=>by
 rcases h with e | e
 rw[c.1]at e;cases e
 have:=c.2;omega
theorem De{n:BL}{c9:List BL}(h:bn n=true/\(c9.length:Int)<=12):aH n c9=some (c9.foldl ak (aU n)):=if_pos ⟨h.1,by have:=h.2;omega⟩
theorem Md{hs:List j9}{n:BL}(hg:∀ y,y∈hs->y.td.length<=1000/\y.gr.ru.length<=1000/\∀ i,(y.gr.ru.getD i ⟨false,[]⟩).path.length<=1000)(d:BL):
 let y:=(ax hs d n).getD (r7 hs d) e9
 y.td.length<=1000/\y.gr.ru.length<=1000/\∀ i,(y.gr.ru.getD i ⟨false,[]⟩).path.length<=1000:=by
 intro y
 have hm:y∈ax hs d n:=ay (d:=e9) (cK hs d n)
 unfold ax at hm
 split at hm
 exact hg y hm
 rcases Y1.1 hm with h | h
 exact hg y h
 rw[YZ.1 h];simp[bM]
def wZ(n:BL)(a7:Int)(zs:List j9)(se:List BL)(ls:List l7)(gt:Nat)(d:BL):G5 Tryz.prog:=.mk (Nat×Nat×Nat) 71 [.ptr (.key 1000) [] gt 0,sV d] [(1000,(gt,bz n a7 zs se ls))] (zs.length<=1000) (fun x=>True) (fun x=>.ptr (.key 1000) [2,(r7 zs d)] x.1 (x.2.1+(r7 zs d)*8)) (fun x=>[(1000,(gt,bL n a7 (ax zs d n) x.1 x.2.1 x.2.2 se ls))]) (by
 intro hl
 refine fh (N:=59) (rs:=[.tmp 4]) (X:=Nat×Nat×Nat) (post:=fun x=>True) (E:=fun x=>.ptr (.key 1000) [2,(r7 zs d)] x.1 (x.2.1+(r7 zs d)*8)) (H':=fun x=>[(1000,(gt,.agg [sV n,iV a7,.own 8 ((ax zs d n).map aB) x.1 x.2.1 x.2.2,.ow 1 (se.map sV),.ow 3 (ls.map aO)]))]) Tryz.func71 Z7 rfl rfl rfl Z7 [(1000,(0,.a8))] (by intro _ k hk;simpa[lk] using hk)
  (.oR (.key 1000) [2] (fun g o c=>.q 1<|.r 6 [.a8]<|.loop (Nat) (fun (i:Nat)=>⟨[(0,.ptr (.key 1000) [] gt 0),(1,sV d),(10,iN zs.length),(11,iN i)],[(1000,(gt,bL n a7 zs g o c se ls))]⟩) (fun (i:Nat)=>i<=zs.length/\∀ j,j<i->((zs.getD j e9).na==d)=false) (fun (i:Nat)=>zs.length-i) (fun (i:Nat)=>.q 1<|.br (.q 2<|.r 10 [.a8,sV ((zs.getD i e9).na)]<|.br (.r 7 [.a8]<|.nil) (.q 2<|.nil)) (.dx 15 [0,1,2,3,4,5,6,7,8,9,10,11,12,13,14] [(4,⟨false,[],some [1000],[35],[]⟩),(9,⟨false,[],some [1000],[40],[]⟩),(14,⟨true,[],none,[45],[1000]⟩)] []<|.q 1<|.q 1<|.q 1<|.q 1<|.r 1 [.a8]<|.q 1<|.q 1<|.q 1<|.q 1<|.r 1 [.a8]<|.bs<|.bd jt<|.bd GS<|.bs<|.ux none (fun Nj Ng Oj=>.h (.o4 45 (.own 8 (zs.map aB++[(.agg [sV d,iN 0,bV false,.agg [.sl true [sV n],.sl true [],iN 0],iN 0,.sl true []]:V)]) Nj Ng Oj))<|.h (.PX (.slot 45) [zs.length,5] Nj (Ng+(zs.length)*8+7) 2)<|.h (.o4 45 (.own 8 (zs.map aB++[(.agg [sV d,iN 0,bV false,.agg [.sl true [sV n],.sl true [],iN 0],iN 0,.own 2 ([].map ai) 0 0 0]:V)]) Nj Ng Oj))<|.h (.PV (.slot 45) [zs.length] Nj (Ng+(zs.length)*8) (.agg [sV d,iN 0,bV false,.agg [.sl true [sV n],.sl true [],iN 0],iN 0,.own 2 ([].map ai) 0 0 0]) (.agg [sV d,iV 0,bV false,.agg [.sl false ([n].map sV),.sl false ([].map au),iN 0],iV 0,.ow 2 ([].map ai)]))<|.h (.o4 45 (.own 8 (zs.map aB++[(.agg [sV d,iV 0,bV false,.agg [.sl false ([n].map sV),.sl false ([].map au),iN 0],iV 0,.ow 2 ([].map ai)]:V)]) Nj Ng Oj))<|.h (.o4 45 (.own 8 ((zs++[(bM d n)]).map aB) Nj Ng Oj))<|.q 2<|.st none<|.dx 10 [0,1,2,3,4,5,6,7,8,9] [(3,⟨false,[],some [1000],[51],[]⟩),(7,⟨false,[],some [1000],[55],[]⟩)] []<|.q 1<|.q 1<|.q 1<|.r 1 [.a8]<|.q 1<|.q 1<|.q 1<|.r 1 [.a8]<|.q 1<|.q 1<|.h (.o4 57 (iN zs.length))<|.q 2<|.nil)))))
  ((fun v1:List V=>(fun v2:V=>(fun v3:V=>(fun v4:V=>(fun v5:Int=>(∀ g o c:Nat,(fun v6:V=>True/\Z gt 2/\(∃ j6:Nat,(j6<=zs.length/\∀ j,j<j6->((zs.getD j e9).na==d)=false)/\E (.ptr (.key 1000) [] gt 0)/\E (sV d)/\Q (iN ((zs.map aB).length)) (iN zs.length)/\Q (iN 0) (iN j6)/\Er gt v6/\True)/\∀ i:Nat,(i<=zs.length/\∀ j,j<i->((zs.getD j e9).na==d)=false)->Br (r9 (i:Int) (zs.length:Int)) (True/\Z gt 2/\In (i:Int) ((zs.map aB).length)/\(V.at gt 0 v6 [2,0+i,0]=some (g,(o+(0+i)*8+0),sV ((zs.getD i e9).na)))/\Br (((zs.getD i e9).na)==d) (True/\Z gt 2/\In (i:Int) ((zs.map aB).length)/\∃ x:Nat×Nat×Nat,(True)/\Q (.ptr (.key 1000) [2,(r7 zs d)] g (o+(0+i)*8)) (.ptr (.key 1000) [2,(r7 zs d)] x.1 (x.2.1+(r7 zs d)*8))/\Qr gt v6 gt (bL n a7 (ax zs d n) x.1 x.2.1 x.2.2 se ls)) (m8 ((i:Int)+1)/\∃ b7:Nat,(b7<=zs.length/\∀ j,j<b7->((zs.getD j e9).na==d)=false)/\(zs.length-b7<zs.length-i)/\E (.ptr (.key 1000) [] gt 0)/\E (sV d)/\E (iN zs.length)/\Q (iN (i+1)) (iN b7)/\Er gt v6/\True)) (True/\Z gt 2/\True/\Z gt 0/\(((8,8,g,o,c,(zs.map aB).length)=(8,8,g,o,c,(zs.map aB).length))/\(V.aE v1=false)/\(aJ 8 v1)/\(((zs.map aB).length+v1.length)*120<=140737488355328))/\∀ Nj Ng Oj:Nat,((.own 8 ((zs.map aB)++v1) Nj Ng Oj:V)=.own 8 (zs.map aB++[v3]) Nj Ng Oj)/\(V.at Nj Ng (.own 8 (zs.map aB++[v3]) Nj Ng Oj) [zs.length,5]=some (Nj,Ng+(zs.length)*8+7,.sl true []))/\(V.set (.own 8 (zs.map aB++[v3]) Nj Ng Oj) [zs.length,5] (.own 2 ([].map ai) 0 0 0)=.own 8 (zs.map aB++[v2]) Nj Ng Oj)/\(V.at Nj Ng (.own 8 (zs.map aB++[v2]) Nj Ng Oj) [zs.length]=some (Nj,Ng+(zs.length)*8,.agg [sV d,iN 0,bV false,.agg [.sl true [sV n],.sl true [],iN 0],iN 0,.own 2 ([].map ai) 0 0 0]))/\(V.set (.own 8 (zs.map aB++[v2]) Nj Ng Oj) [zs.length] (.agg [sV d,iV 0,bV false,.agg [.sl false ([n].map sV),.sl false ([].map au),iN 0],iV 0,.ow 2 ([].map ai)])=.own 8 (zs.map aB++[v4]) Nj Ng Oj)/\((.own 8 (zs.map aB++[v4]) Nj Ng Oj:V)=.own 8 ((zs++[(bM d n)]).map aB) Nj Ng Oj)/\True/\Z gt 2/\True/\Z gt 2/\True/\Z gt 2/\m8 (v5-1)/\Q (iV (v5-1)) (iN zs.length)/\In (zs.length:Int) (((zs++[(bM d n)]).map aB).length)/\∃ x:Nat×Nat×Nat,(True)/\Q (.ptr (.key 1000) [2,(r7 zs d)] Nj (Ng+(0+zs.length)*8)) (.ptr (.key 1000) [2,(r7 zs d)] x.1 (x.2.1+(r7 zs d)*8))/\Qr gt (bL n a7 (zs++[(bM d n)]) Nj Ng Oj se ls) gt (bL n a7 (ax zs d n) x.1 x.2.1 x.2.2 se ls))) (bL n a7 zs g o c se ls))) ((((zs++[(bM d n)]).map aB).length:Nat):Int)) (.agg [sV d,iV 0,bV false,.agg [.sl false ([n].map sV),.sl false ([].map au),iN 0],iV 0,.ow 2 ([].map ai)]:V)) (.agg [sV d,iN 0,bV false,.agg [.sl true [sV n],.sl true [],iN 0],iN 0,.sl true []]:V)) (.agg [sV d,iN 0,bV false,.agg [.sl true [sV n],.sl true [],iN 0],iN 0,.own 2 ([].map ai) 0 0 0]:V)) ([.agg [sV d,iN 0,bV false,.agg [.sl true [sV n],.sl true [],iN 0],iN 0,.sl true []]]:List V))
  Z7 ?_
 intro g o c
 refine⟨trivial,rfl,?_⟩
 refine⟨⟨0,?_,rfl,rfl,Z4,rfl,rfl,trivial⟩,?_⟩
 simp
 rintro i ⟨h1,h2⟩
 refine bI (fun j7=>?_) fun j7=>?_
 · refine⟨trivial,rfl,Z2,(aS (f:=2) rfl).trans (aI (by rw[Y0];exact aj (d:=e9) Z9) rfl),?_⟩
   refine bI (fun l6=>?_) fun l6=>?_
   · refine⟨trivial,rfl,Z2,?_⟩
     refine⟨(g,o,c),?_,?_,?_⟩
     · try dsimp only
       all_goals trivial
     first | (rw[uw (i:=i) Z9 l6 h2,Y0]) | (rw[vg (fun j hj=>h2 j Z9),Y0])
     first | (rw[AA (i:=i) Z9 l6 h2]) | (rw[BE (fun j hj=>h2 j Z9)])
   refine⟨Z9,?_⟩
   refine⟨i+1,?_,?_,rfl,rfl,rfl,rfl,rfl,trivial⟩
   exact⟨Z9,bS h2 (by simpa using l6)⟩
   exact Z1
 · refine⟨trivial,rfl,trivial,rfl,⟨rfl,rfl,by simp[aJ,V.n,V.ns],Z0⟩,?_⟩
   intro Nj Ng Oj
   refine⟨Zq (V.own 8 · Nj Ng Oj) (rfl),aI (aX) rfl,aV (aX) (dw),gz aX,nD (aX) (dw),Zq (V.own 8 · Nj Ng Oj) (by rw[Zf (f:=aB)];rfl),trivial,rfl,trivial,rfl,trivial,rfl,by(try simp only[Y2]at *);(try simp only[YT,Y2,YV,YY]);omega,by unfold Q;refine Zq iV ?_;simp,by(try simp only[Y2]at *);(try simp only[YT,Y2,YV,YY]);omega,?_⟩
   refine⟨(Nj,Ng,Oj),?_,?_,?_⟩
   · try dsimp only
     all_goals trivial
   first | (rw[uw (i:=i) Z9 l6 h2,Y0]) | (rw[vg (fun j hj=>h2 j Z9),Y0])
   first | (rw[AA (i:=i) Z9 l6 h2]) | (rw[BE (fun j hj=>h2 j Z9)]))
def vj(n:BL)(a7:Int)(zs:List j9)(se:List BL)(ls:List l7)(gt:Nat)(a:BL):o6 Tryz.prog:=.mk 39 [.ptr (.key 1000) [] gt 0,sV a] [(1000,(gt,bz n a7 zs se ls))] ((zs.length<=1000)/\(se.length<=1000)/\(a.length<=1000000)/\(m5 a)/\(∀ y,y∈zs->y.td.length<=1000/\y.gr.ru.length<=1000/\∀ i,(y.gr.ru.getD i ⟨false,[]⟩).path.length<=1000)) (.tup []) [(1000,(gt,bz n a7 (aQ n zs se a) (ct se a) ls))] (by
 rintro⟨hl,N5,ha,hc,hg⟩
 refine av (N:=70) (rs:=[]) Tryz.func39
  (.oR (.key 1000) [3] (fun gs os cs=>.q 1<|.c (cv a) []<|.q 3<|.al dg (fun g4=>.st none<|.q 1<|.r 10 [.a8]<|.sp ((!((ar a).isSome))||(z6 (((se.map sV).length:Nat):Int) 60)) (.h (.o4 21 (bV true))<|.q 1<|.gf (.a8)<|.gf (.a8)<|.gf (.a8)<|.gf (.a8)<|.gf (.a8)<|.gf (bV false)<|.q 1<|.br (.nil) (.nil)) (.h (.o4 21 (bV false))<|.q 1<|.gt<|.q 1<|.gt<|.q 1<|.gt<|.q 1<|.gt<|.r 1 [.a8]<|.gt<|.q 1<|.gt<|.cl (nX se a)<|.q 1<|.br (.nil) (.r 6 [.a8]<|.bs<|.ap (fun M5 PG PS=>.h (.o4 37 (.own 1 ((se++[a]).map sV) M5 PG PS))<|.q 2<|.st none<|.r 3 [.a8]<|.cx (wZ n a7 zs (se++[a]) ls gt ((oA (ar a)).c5)) [(1000,1000)] (fun (m6:Nat×Nat×Nat)=>.q 1<|.ex (List j9×Nat) (fun x=>((ax zs (oA (ar a)).c5 n),(r7 zs (oA (ar a)).c5))=x) (fun (x:List j9×Nat)=>.h (.B0 1000 (bL n a7 x.1 m6.1 m6.2.1 m6.2.2 (se++[a]) ls))<|.h (.o4 43 (.ptr (.key 1000) [2,x.2] m6.1 (m6.2.1+x.2*8)))<|.h (.o4 6 (.ptr (.key 1000) [2,x.2] m6.1 (m6.2.1+x.2*8)))<|.dx 15 [0,1,2,3,4,5,6,7,8,9,10,11,12,13,14] [(3,⟨false,[],some [1000],[47],[]⟩),(9,⟨false,[],some [1000],[53],[]⟩),(10,⟨false,[],some [4],[54],[]⟩)] []<|.q 1<|.q 1<|.q 1<|.r 1 [bV ((x.1.getD x.2 e9).kn)]<|.q 1<|.q 1<|.q 1<|.q 1<|.q 1<|.r 1 [eL ((x.1.getD x.2 e9).gr.ru)]<|.r 1 [.a8]<|.cg (iW (oA (ar a)))<|.cg (im ((x.1.getD x.2 e9).gr.ru) (if aG (oA (ar a))=true then bj (oA (ar a)) else []))<|.q 1<|.q 1<|.br (.nil) (.ex (j9) (fun y=>(x.1.getD x.2 e9)=y) (fun (y:j9)=>.h (.B0 1000 (da n a7 x.1 x.2 y.na y.re y.kn y.gr.na y.gr.ru y.gr.wa y.tr y.td m6.1 m6.2.1 m6.2.2 (se++[a]) ls))<|.QA (.key 1000) [2,x.2,5] m6.1 (m6.2.1+(x.2)*8+7) 2 (y.td.map ai) (fun gA Of cA=>.h (.B0 1000 (bw n a7 x.1 x.2 y.na y.re y.kn y.gr.na y.gr.ru y.gr.wa y.tr y.td gA Of cA m6.1 m6.2.1 m6.2.2 (se++[a]) ls))<|.r 6 [.own 2 (y.td.map ai) gA Of cA]<|.bd tc<|.bs<|.XQ (y.td.map ai) m6.1 (m6.2.1+(x.2)*8+7) (fun QH QB QM=>.h (.o4 67 (.own 2 ((y.td++[(⟨a,0⟩:u7)]).map ai) QH QB QM))<|.h (.B0 1000 (mA n a7 x.1 x.2 y.na y.re y.kn y.gr.na y.gr.ru y.gr.wa y.tr m6.1 m6.2.1 m6.2.2 (se++[a]) ls))<|.q 2<|.st (some (.a8))<|.h (.B0 1000 (bw n a7 x.1 x.2 y.na y.re y.kn y.gr.na y.gr.ru y.gr.wa y.tr (y.td++[(⟨a,0⟩:u7)]) QH QB QM m6.1 m6.2.1 m6.2.2 (se++[a]) ls))<|.h (.PV (.key 1000) [2,x.2,5] m6.1 (m6.2.1+(x.2)*8+7) (.own 2 ((y.td++[(⟨a,0⟩:u7)]).map ai) QH QB QM) (.ow 2 ((y.td++[(⟨a,0⟩:u7)]).map ai)))<|.h (.B0 1000 (da n a7 x.1 x.2 y.na y.re y.kn y.gr.na y.gr.ru y.gr.wa y.tr (y.td++[(⟨a,0⟩:u7)]) m6.1 m6.2.1 m6.2.2 (se++[a]) ls))<|.h (.B0 1000 (bL n a7 (x.1.set x.2 ({ y with td:=y.td++[⟨a,0⟩] }:j9)) m6.1 m6.2.1 m6.2.2 (se++[a]) ls))<|.nil))))))))))))
  ((fun v1:V=>(fun v2:Bool=>(fun v3:Bool=>(fun v4:List V=>(∀ gs os cs:Nat,(cv a).sm/\((a.length<=1000000)/\(m5 a))/\∀ g4:Nat,Z g4 0/\Gd (v3==false) True/\Gd (v3==false) (Z gt 3)/\Pk v3 true (v3==false)/\((v3||v2)=true->((bV (v3||v2):V)=bV true)/\(false=false)/\(false=false)/\(false=false)/\(false=false)/\(false=false)/\(false=false)/\Pk true true false/\Br (true||false) (Q (.tup []) (.tup [])/\Qr gt (bz n a7 zs se ls) gt v1) (False))/\((v3||v2)=false->((bV (v3||v2):V)=bV false)/\(true=true)/\(true=true)/\True/\(true=true)/\(true=true)/\Z gt 3/\(true=true)/\(true=true)/\(((1=1/\gs=gs/\os=os)/\0+((se.map sV).length)<=(se.map sV).length/\V.aE (se.map sV)=false/\aJ 1 (se.map sV))/\True)/\(([.sl false (((se.map sV).drop 0).take ((se.map sV).length)),sV a]:List V)=[ao se,sV a])/\((se.length<=1000000))/\Pk false true true/\Br (false||(se.contains a)) (Q (.tup []) (.tup [])/\Qr gt (bz n a7 zs se ls) gt v1) (True/\Z gt 3/\((1,1,gs,os,cs,(se.map sV).length)=(1,1,gs,os,cs,(se.map sV).length))/\(True)/\(V.aE ([sV a]:List V)=false)/\(aJ 1 ([sV a]:List V))/\(((se.map sV).length+([sV a]:List V).length)*16<=140737488355328)/\∀ M5 PG PS:Nat,((.own 1 ((se.map sV)++([sV a]:List V)) M5 PG PS:V)=.own 1 ((se++[a]).map sV) M5 PG PS)/\True/\Z gt 3/\Z g4 0/\(wZ n a7 zs (se++[a]) ls gt ((oA (ar a)).c5)).sm/\Er gt (bz n a7 zs (se++[a]) ls)/\((zs.length<=1000))/\∀ m6:Nat×Nat×Nat,(True)->(fun v5:V=>(∃ x:List j9×Nat,((ax zs (oA (ar a)).c5 n),(r7 zs (oA (ar a)).c5))=x)/\∀ x:List j9×Nat,(((ax zs (oA (ar a)).c5 n),(r7 zs (oA (ar a)).c5))=x)->(fun v6:j9=>(fun v7:V=>((bL n a7 (ax zs ((oA (ar a)).c5) n) m6.1 m6.2.1 m6.2.2 (se++[a]) ls:V)=bL n a7 x.1 m6.1 m6.2.1 m6.2.2 (se++[a]) ls)/\(v5=.ptr (.key 1000) [2,x.2] m6.1 (m6.2.1+x.2*8))/\(v5=.ptr (.key 1000) [2,x.2] m6.1 (m6.2.1+x.2*8))/\True/\(V.at gt 0 v7 [2,x.2,2]=some (m6.1,(m6.2.1+x.2*8+2),bV (v6.kn)))/\Gd ((v6.kn)==true) (((v6.kn)==true)=true)/\Gd ((v6.kn)==true) True/\Gd ((v6.kn)==true) (((v6.kn)==true)=true)/\Gd ((v6.kn)==true) (((v6.kn)==true)=true)/\Gd ((v6.kn)==true) (((v6.kn)==true)=true)/\Gd ((v6.kn)==true) (V.at gt 0 v7 [2,x.2,3,1]=some (m6.1,(m6.2.1+x.2*8+3+1),eL (v6.gr.ru)))/\Gd ((v6.kn)==true) (Z g4 0)/\Gd ((v6.kn)==true) (((v6.kn)==true)=true)/\Gd ((v6.kn)==true) (((cP (oA (ar a))))/\(iW (oA (ar a))).sm)/\Gd ((v6.kn)==true) (((v6.kn)==true)=true)/\Gd ((v6.kn)==true) (((v6.kn)==true)=true)/\Gd ((v6.kn)==true) ((((v6.gr.ru).length<=1000000)/\(∀ i,((v6.gr.ru).getD i ⟨false,[]⟩).path.length<=1000000)/\((if aG (oA (ar a))=true then bj (oA (ar a)) else []).length<=1000000))/\(im (v6.gr.ru) (if aG (oA (ar a))=true then bj (oA (ar a)) else [])).sm)/\Gd ((v6.kn)==true) (((v6.kn)==true)=true)/\Pk (v6.kn) ((v6.kn)==true) true/\Br ((v6.kn)&&(!(aD (v6.gr.ru) (if aG (oA (ar a))=true then bj (oA (ar a)) else [])))) (Q (.tup []) (.tup [])/\Qr gt (bz n a7 x.1 (se++[a]) ls) gt v1) ((∃ y:j9,v6=y)/\∀ y:j9,(v6=y)->(fun v8:V=>(fun v9:V=>((bL n a7 x.1 m6.1 m6.2.1 m6.2.2 (se++[a]) ls:V)=da n a7 x.1 x.2 y.na y.re y.kn y.gr.na y.gr.ru y.gr.wa y.tr y.td m6.1 m6.2.1 m6.2.2 (se++[a]) ls)/\(V.at gt 0 v8 [2,x.2,5]=some (m6.1,m6.2.1+(x.2)*8+7,.ow 2 (y.td.map ai)))/\∀ gA Of cA:Nat,(fun v10:V=>(V.set v8 [2,x.2,5] (.own 2 (y.td.map ai) gA Of cA)=bw n a7 x.1 x.2 y.na y.re y.kn y.gr.na y.gr.ru y.gr.wa y.tr y.td gA Of cA m6.1 m6.2.1 m6.2.2 (se++[a]) ls)/\True/\(V.at gt 0 v10 [2,x.2,5]=some (m6.1,(m6.2.1+x.2*8+7),.own 2 (y.td.map ai) gA Of cA))/\((V.at gt 0 v10 [2,x.2,5]=some (m6.1,m6.2.1+(x.2)*8+7,.own 2 (y.td.map ai) gA Of cA))/\2=2/\(y.td.map ai).length=(y.td.map ai).length)/\(True)/\(V.aE v4=false)/\(aJ 2 v4)/\(((y.td.map ai).length+v4.length)*24<=140737488355328)/\∀ QH QB QM:Nat,(fun v11:V=>((.own 2 ((y.td.map ai)++v4) QH QB QM:V)=.own 2 ((y.td++[(⟨a,0⟩:u7)]).map ai) QH QB QM)/\(V.set v10 [2,x.2,5] (.a8)=mA n a7 x.1 x.2 y.na y.re y.kn y.gr.na y.gr.ru y.gr.wa y.tr m6.1 m6.2.1 m6.2.2 (se++[a]) ls)/\True/\(V.at gt 0 v9 [2,x.2,5]=some (m6.1,(m6.2.1+x.2*8+7),.a8))/\(V.set v9 [2,x.2,5] (.own 2 ((y.td++[(⟨a,0⟩:u7)]).map ai) QH QB QM)=bw n a7 x.1 x.2 y.na y.re y.kn y.gr.na y.gr.ru y.gr.wa y.tr (y.td++[(⟨a,0⟩:u7)]) QH QB QM m6.1 m6.2.1 m6.2.2 (se++[a]) ls)/\(V.at gt 0 v11 [2,x.2,5]=some (m6.1,m6.2.1+(x.2)*8+7,.own 2 ((y.td++[(⟨a,0⟩:u7)]).map ai) QH QB QM))/\(V.set v11 [2,x.2,5] (.ow 2 ((y.td++[(⟨a,0⟩:u7)]).map ai))=da n a7 x.1 x.2 y.na y.re y.kn y.gr.na y.gr.ru y.gr.wa y.tr (y.td++[(⟨a,0⟩:u7)]) m6.1 m6.2.1 m6.2.2 (se++[a]) ls)/\((da n a7 x.1 x.2 y.na y.re y.kn y.gr.na y.gr.ru y.gr.wa y.tr (y.td++[(⟨a,0⟩:u7)]) m6.1 m6.2.1 m6.2.2 (se++[a]) ls:V)=bL n a7 (x.1.set x.2 ({ y with td:=y.td++[⟨a,0⟩] }:j9)) m6.1 m6.2.1 m6.2.2 (se++[a]) ls)/\Q (.tup []) (.tup [])/\Qr gt (bz n a7 (x.1.set x.2 ({ y with td:=y.td++[⟨a,0⟩] }:j9)) (se++[a]) ls) gt v1) (bw n a7 x.1 x.2 y.na y.re y.kn y.gr.na y.gr.ru y.gr.wa y.tr (y.td++[(⟨a,0⟩:u7)]) QH QB QM m6.1 m6.2.1 m6.2.2 (se++[a]) ls)) (bw n a7 x.1 x.2 y.na y.re y.kn y.gr.na y.gr.ru y.gr.wa y.tr y.td gA Of cA m6.1 m6.2.1 m6.2.2 (se++[a]) ls)) (mA n a7 x.1 x.2 y.na y.re y.kn y.gr.na y.gr.ru y.gr.wa y.tr m6.1 m6.2.1 m6.2.2 (se++[a]) ls)) (da n a7 x.1 x.2 y.na y.re y.kn y.gr.na y.gr.ru y.gr.wa y.tr y.td m6.1 m6.2.1 m6.2.2 (se++[a]) ls))) (bL n a7 x.1 m6.1 m6.2.1 m6.2.2 (se++[a]) ls)) (x.1.getD x.2 e9)) (.ptr (.key 1000) [2,(r7 zs ((oA (ar a)).c5))] m6.1 (m6.2.1+(r7 zs ((oA (ar a)).c5))*8):V))))) ([.agg [sV a,iN 0]]:List V)) (!((ar a).isSome))) (z6 (((se.map sV).length:Nat):Int) 60)) (bz n a7 (aQ n zs se a) (ct se a) ls)) ?_
 intro gs os cs
 refine⟨rfl,⟨ha,hc⟩,?_⟩
 intro g4
 refine⟨rfl,fun hG=>trivial,fun hG=>rfl,⟨fun _=>rfl,fun h=>by rw[h] <;> rfl⟩,?_⟩
 refine⟨fun NY=>?_,fun NY=>?_⟩
 · have I4:=NY
   try simp only[nb]at I4
   refine⟨Zq bV NY,rfl,rfl,rfl,rfl,rfl,rfl,⟨fun _=>rfl,fun h=>by rw[h] <;> rfl⟩,?_⟩
   refine bI (fun j7=>?_) fun j7=>?_
   refine⟨?_,by rw[oI (n:=n) (hs:=zs) (Ls I4),oM (Ls I4)]⟩
   unfold Q
   rfl
   · all_goals (first | exact absurd j7 Z6 | simp_all)
 have I4:=NY
 try simp only[nb]at I4
 refine⟨Zq bV NY,rfl,rfl,trivial,rfl,rfl,rfl,rfl,rfl,⟨⟨⟨rfl,rfl,rfl⟩,Z8,cN (f:=sV) (fun _=>rfl) _,ee (f:=sV) (fun _=>rfl) _⟩,trivial⟩,by simp[Y3],Z9,⟨fun _=>rfl,fun _=>rfl⟩,?_⟩
 refine bI (fun l6=>?_) fun l6=>?_
 refine⟨?_,by rw[oI (n:=n) (hs:=zs) (KE (l6.resolve_left Z6)),oM (KE (l6.resolve_left Z6))]⟩
 unfold Q
 rfl
 refine⟨trivial,rfl,rfl,trivial,rfl,by simp[aJ,V.n,V.ns],by(try simp only[YT,Y2,YV,YY]);omega,?_⟩
 intro M5 PG PS
 refine⟨Zq (V.own 1 · M5 PG PS) Z8,trivial,rfl,rfl,rfl,rfl,hl,?_⟩
 intro m6 Vf
 have Xp:=cK zs (oA (ar a)).c5 n
 have UB:=tn zs (oA (ar a)).c5 n
 have UC:=Md (n:=n) hg (oA (ar a)).c5
 refine⟨⟨_,rfl⟩,?_⟩
 intro x hx
 have WX:(ax zs (oA (ar a)).c5 n)=x.1:=by rw[<- hx]
 have MR:(r7 zs (oA (ar a)).c5)=x.2:=by rw[<- hx]
 rw[WX,MR]at Xp UC
 rw[WX]at UB
 refine⟨by rw[WX],(by rw[MR]),(by rw[MR]),trivial,(aS (f:=2) rfl).trans (aI (aj (d:=e9) Z9) rfl),fun h=>h,fun hG=>trivial,fun h=>h,fun h=>h,fun h=>h,fun hG=>(aS (f:=2) rfl).trans (aI (aj (d:=e9) Z9) rfl),fun hG=>rfl,fun h=>h,fun hG=>⟨by(try simp only[nb]at hG);exact qJ _,rfl⟩,fun h=>h,fun h=>h,fun hG=>⟨⟨by(try simp only[nb]at hG);have:=UC.2.1;omega,fun i=>by have:=UC.2.2 i;omega,by(try simp only[nb]at hG);have:=(qJ a).path;split <;> simp <;> omega⟩,rfl⟩,fun h=>h,⟨fun h=>by rw[h] <;> rfl,fun _=>rfl⟩,?_⟩
 refine bI (fun n6=>?_) fun n6=>?_
 refine⟨?_,by obtain rfl:=hx;simp only at n6 ⊢;rw[Gr (Cd I4 l6.2) n6,wy (Cd I4 l6.2)]⟩
 unfold Q
 rfl
 refine⟨⟨_,rfl⟩,?_⟩
 intro y hy
 rw[hy]at UC
 refine⟨Oe (Zq (V.own 8 · m6.1 m6.2.1 m6.2.2) (splitN hy (Xp))),(aS (f:=2) rfl).trans (aI (aK Z9) rfl),?_⟩
 intro gA Of cA
 refine⟨dR (aV (aK Z9) (dc Z9)),trivial,(aS (f:=2) rfl).trans (aI (aK Z9) rfl),⟨(aS (f:=2) rfl).trans (aI (aK Z9) rfl),rfl,rfl⟩,trivial,rfl,by simp[aJ,V.n,V.ns],by(try simp only[YT,Y2,YV,YY]);omega,?_⟩
 intro QH QB QM
 refine⟨Zq (V.own 2 · QH QB QM) Z8,dR (aV (aK Z9) (dc Z9)),trivial,(aS (f:=2) rfl).trans (aI (aK Z9) rfl),dR (aV (aK Z9) (dc Z9)),(aS (f:=2) rfl).trans (aI (aK Z9) rfl),dR (aV (aK Z9) (dc Z9)),Oe (Zq (V.own 8 · m6.1 m6.2.1 m6.2.2) (lF (f:=aB) (x:=({ y with td:=y.td++[⟨a,0⟩] }:j9)) (Xp))),?_⟩
 refine⟨?_,by subst hy;obtain rfl:=hx;simp only at n6 ⊢;rw[ID (Cd I4 l6.2) n6,wy (Cd I4 l6.2)]⟩
 unfold Q
 rfl)
abbrev lT(n:BL)(c9:List BL):V:=.tup [bz ((oT (aH n c9)).na) ((oT (aH n c9)).a7) ((oT (aH n c9)).hs) ((oT (aH n c9)).se) ((oT (aH n c9)).lk),bV ((aH n c9).isSome)]
def nP(n:BL)(c9:List BL):o6 Tryz.prog:=.mk 14 [sV n,ao c9] [] ((n.length<=1000)/\(c9.length<=1000)/\(∀ x,x∈c9->x.length<=1000/\m5 x)) (lT n c9) [] (by
 rintro⟨hn,hl,ha⟩
 refine av (N:=30) (rs:=[.cell 4 30,.tmp 5]) Tryz.func14
  (.al eR (fun g4=>.q 1<|.q 1<|.c (gp n) []<|.q 6<|.br (.bd eR<|.st none<|.q 1<|.h (.y7 (.key 4) [2] 8)<|.h (.y7 (.key 4) [3] 1)<|.h (.y7 (.key 4) [4] 3)<|.nil) (.q 1<|.bd eR<|.al eR (fun g6=>.st none<|.h (.y7 (.key 6) [2] 8)<|.h (.y7 (.key 6) [3] 1)<|.h (.y7 (.key 6) [4] 3)<|.q 3<|.loop (Nat×(List j9)×(List BL)) (fun (i,zs,se)=>⟨[(4,.ptr (.key 4) [] g4 0),(6,.ptr (.key 6) [] g6 0),(20,ao c9),(21,iN c9.length),(22,iN i)],[(4,(g4,.agg [sV [],iN 0,.sl true [],.sl true [],.sl true []])),(6,(g6,lE n zs se (.ow 3 ([].map aO))))]⟩) (fun (i,zs,se)=>i<=c9.length/\zs=((c9.take i).foldl ak (aU n)).hs/\se=((c9.take i).foldl ak (aU n)).se) (fun (i,zs,se)=>c9.length-i) (fun (i,zs,se)=>.q 1<|.br (.r 3 [sV (c9.getD i [])]<|.q 1<|.c (vj n (0:Int) zs se ([]:List l7) g6 (c9.getD i [])) [(1000,6)]<|.q 2<|.nil) (.mv<|.st none<|.q 1<|.nil))))))
  ((fun v1:V=>(∀ g4:Nat,(gp n).sm/\((n.length<=4611686018427387904))/\Pk (!(bn n)) true ((!(bn n))==false)/\Br ((!(bn n))||(s9 (((c9.map sV).length:Nat):Int) 12)) (Z g4 0/\(g4=g4)/\Q (.tup [.agg [sV [],iN 0,.ow 8 ([].map aB),.ow 1 ([].map sV),.ow 3 ([].map aO)],bV false]) (lT n c9)) (∀ g6:Nat,Z g6 0/\(∃ x:Nat×(List j9)×(List BL),match x with | (j6,OG,OU)=>(j6<=c9.length/\OG=((c9.take j6).foldl ak (aU n)).hs/\OU=((c9.take j6).foldl ak (aU n)).se)/\E (.ptr (.key 4) [] g4 0)/\E (.ptr (.key 6) [] g6 0)/\E (ao c9)/\Q (iN ((c9.map sV).length)) (iN c9.length)/\Q (iN 0) (iN j6)/\Er g4 v1/\Qr g6 (.agg [sV n,iN 0,.ow 8 ([].map aB),.ow 1 ([].map sV),.ow 3 ([].map aO)]) g6 (lE n OG OU (.ow 3 ([].map aO)))/\True)/\∀ x:Nat×(List j9)×(List BL),match x with | (i,zs,se)=>(i<=c9.length/\zs=((c9.take i).foldl ak (aU n)).hs/\se=((c9.take i).foldl ak (aU n)).se)->Br (r9 (i:Int) (c9.length:Int)) (Ex (i:Int) (c9.map sV) (sV (c9.getD i []))/\True/\(vj n (0:Int) zs se ([]:List l7) g6 (c9.getD i [])).sm/\Er g6 (bz n (0:Int) zs se ([]:List l7))/\((zs.length<=1000)/\(se.length<=1000)/\((c9.getD i []).length<=1000000)/\(m5 (c9.getD i []))/\(∀ y,y∈zs->y.td.length<=1000/\y.gr.ru.length<=1000/\∀ i,(y.gr.ru.getD i ⟨false,[]⟩).path.length<=1000))/\m8 ((i:Int)+1)/\∃ x:Nat×(List j9)×(List BL),match x with | (b7,Nn,Np)=>(b7<=c9.length/\Nn=((c9.take b7).foldl ak (aU n)).hs/\Np=((c9.take b7).foldl ak (aU n)).se)/\(c9.length-b7<c9.length-i)/\E (.ptr (.key 4) [] g4 0)/\E (.ptr (.key 6) [] g6 0)/\E (ao c9)/\E (iN c9.length)/\Q (iN (i+1)) (iN b7)/\Er g4 v1/\Qr g6 (bz n (0:Int) (aQ n zs se (c9.getD i [])) (ct se (c9.getD i [])) ([]:List l7)) g6 (lE n Nn Np (.ow 3 ([].map aO)))/\True) (Z g6 0/\Z g4 0/\(g4=g4)/\Q (.tup [lE n zs se (.ow 3 ([].map aO)),bV true]) (lT n c9))))) (.agg [sV [],iN 0,.sl true [],.sl true [],.sl true []])) ?_
 intro g4
 refine⟨rfl,Z9,⟨fun _=>rfl,fun h=>by rw[h] <;> rfl⟩,?_⟩
 refine bI (fun j7=>?_) fun j7=>?_
 refine⟨rfl,?_⟩
 refine⟨rfl,?_⟩
 unfold Q lT
 rw[DK j7];rfl
 intro g6
 refine⟨rfl,?_⟩
 refine⟨⟨(0,[],[]),?_,rfl,rfl,rfl,Z4,rfl,rfl,Z4,trivial⟩,?_⟩
 exact⟨Z8,rfl,rfl⟩
 rintro⟨i,zs,se⟩ ⟨h1,h2,h3⟩
 have MS:=kU n (c9.take i) (lV n)
 rw[List.length_take]at MS
 refine bI (fun l6=>?_) fun l6=>?_
 have hm:=ha _ (ng (show i<c9.length by omega))
 refine⟨⟨Z9,aj (d:=[]) Z9⟩,trivial,rfl,rfl,⟨by rw[h2];have:=MS.hl;omega,by rw[h3];have:=MS.sl;omega,Z9,hm.2,fun y hy=>by rw[h2]at hy;obtain⟨a1,a2,a3,_⟩:=MS.hs y hy;rw[a2];exact⟨Z9,Z8,Z8⟩⟩,Z9,?_⟩
 refine⟨(i+1,aQ n zs se (c9.getD i []),ct se (c9.getD i [])),?_,?_,rfl,rfl,rfl,rfl,rfl,rfl,Z4,trivial⟩
 rw[foldl_succ (d:=[]) Z9,h2,h3]
 exact⟨Z9,by show _=aQ ((c9.take i).foldl ak (aU n)).na ((c9.take i).foldl ak (aU n)).hs ((c9.take i).foldl ak (aU n)).se _;rw[MS.na],rfl⟩
 exact Z1
 refine⟨rfl,rfl,?_⟩
 refine⟨rfl,?_⟩
 unfold Q lT
 rw[Y3 Z9]at h2 h3 MS
 rw[De j7,h2,h3]
 refine Zq (fun r:V=>V.tup [r,bV true]) ?_
 show V.agg _=xQ (c9.foldl ak (aU n))
 rw[xQ,MS.na,MS.a7,MS.lk])
section
variable {P:Program}
def V5(xs:List V):Cu P where
 X:={b:Bool // b=true->xs=[]}
 pre N o A:=match o.op,o.dst with
  | .binOp .eql T x (.const (.slice none 0 0)) _,some d=>match tD P T,Nat.blt d N with
    | some (.sl _),true=>match A.ev x with
      | .sl _ ys=>ys=xs
      | _=>False
    | _,_=>False
  | _,_=>False
 post b o A:=match o.dst with
  | some d=>A.put (some d) (.lit (.bool b.1))
  | none=>A
 ok:=by
  rintro N ⟨dst,op,ty,pos,after,D2⟩ A K-hp hK
  simp only at hp hK
  split at hp
  rename_i T x yt d
  split at hp
  rename_i e e1 e2
  split at hp
  rename_i f ys e3
  subst hp
  obtain⟨td,hu,hd⟩:=cL e1
  obtain⟨et,hu⟩:∃ et,P.underlying T=some (.slice et):=by
   cases td <;> simp_all[dt]
  intro Pb Kb a w F Q hs
  obtain⟨_,hx⟩:=dH hs x
  rw[e3]at hx
  have hx:R w Pb (.sl f ys) [a.eval x] _:=hx
  obtain⟨_,B,c,hc,hle,_,RZ⟩:=hx
  simp only[List.cons.injEq,and_true]at hc
  have MR:(execOp a.eval ⟨some d,.binOp .eql T x (.const (.slice none 0 0)) yt,ty,pos,after,D2⟩).run P w=.ok (.value (.bool B.isNone)) w:=by
   have R4:∀ q,(Op.equalIn (q+1) T (.slice B ys.length c) (.slice none 0 0)).run P w=.ok B.isNone w:=fun q=>by
    unfold Op.equalIn
    rw[Y4,run_underlying hu]
    cases B <;> rfl
   have hq:(binOp .eql T (.slice B ys.length c) (.slice none 0 0)).run P w=.ok (.bool B.isNone) w:=by
    show ((Op.equalIn (9999+1) T (.slice B ys.length c) (.slice none 0 0)) >>= fun b=>pure (Value.bool b)).run P w=_
    rw[Y4,R4];rfl
   have hy:a.eval (.const (.slice none 0 0))=.slice none 0 0:=rfl
   simp only[execOp,hc,hy,Y4,sP .eql T x (.const (.slice none 0 0)) (u:=.slice B ys.length c) (v:=.slice none 0 0) (fun _ h=>by cases h) (fun h=>by cases h),YW,hq,Y5]
  obtain⟨F',y9⟩:=hs.pR (d:=some d) (v:=.lit (.bool B.isNone)) (bG e2) (dk rfl)
  unfold Oper.wp
  rw[MR,Oper.upon_value]
  refine⟨_,Pb,Kb,F',hK ⟨B.isNone,fun h=>?_⟩,y9,fun _ h=>h,fun _ h=>h,fun _ h=>.inl h,x7.refl _ _⟩
  rcases RZ with h1 | ⟨_,_,_,_,rfl,_⟩
  exact h1
  cases h
  exact hp.elim
  exact hp.elim
  exact hp.elim
end
section
variable {α β:Type} {l:List α} {f g:α->β} {d:α} {i:Nat}
theorem My:l.map g=(l.take 0).map f++(l.drop 0).map g:=rfl
theorem Kr(h:i<l.length):(l.take i).map f++(l.drop i).map g=(l.take i).map f++g (l.getD i d)::(l.drop (i+1)).map g:=by
 rw[List.drop_eq_getElem_cons h,Zi,YQ,YX h];rfl
theorem LV(h:i<l.length):(l.take i).map f++f (l.getD i d)::(l.drop (i+1)).map g=(l.take (i+1)).map f++(l.drop (i+1)).map g:=by
 rw[List.take_succ_eq_append_getElem h,Zf,List.append_assoc,YQ,YX h];rfl
theorem Ms(h:l.length<=i):(l.take i).map f++(l.drop i).map g=l.map f:=by
 rw[Y3 h,Zc h];simp
end
abbrev lu(p0:BL)(p1:Int)(p2:V)(p3:List BL)(p4:List l7):V:=.agg [sV p0,iV p1,p2,.sl false (p3.map sV),.sl false (p4.map aO)]
abbrev lG(p0:BL)(p1:Int)(p2:V)(p3:List BL)(p4:List l7):V:=.agg [sV p0,iV p1,p2,.sl false (p3.map sV),.sl false (p4.map aO)]
abbrev KJ(p0:BL)(p1:Int)(p2:Bool)(p3:List BL)(p4:List s6)(p5:Nat)(p6:Int)(p7:List u7):V:=.agg [sV p0,iV p1,bV p2,.agg [.sl false (p3.map sV),.sl false (p4.map au),iN p5],iV p6,.ow 2 (p7.map ai)]
def zt(l:List j9):o6 Tryz.prog:=.mk 105 [.sl false (l.map bR)] [] (l.length<=1000000) (.ow 8 (l.map bR)) [] (by
 intro hl
 refine av (N:=8) (rs:=[.tmp 2]) Tryz.func105
  (.q 1<|.q 1<|.cu (V5 (l.map bR)) (fun z4=>.br (.q 1<|.h (.H7 2 8)<|.nil) (.bs<|.q 1<|.ap (fun g7 o7 c7=>.h (.o4 7 (.own 8 (l.map bR) g7 o7 c7))<|.q 1<|.nil))))
  (((l.map bR:List V)=l.map bR)/\∀ z4: {b:Bool // b=true->(l.map bR:List V)=[]},Br z4.1 (Q (.ow 8 ([].map bR)) (.ow 8 (l.map bR))) ((True)/\(True)/\(V.aE (l.map bR)=false)/\(aJ 8 (l.map bR))/\((([]:List V).length+(l.map bR).length)*120<=140737488355328)/\∀ g7 o7 c7:Nat,((.own 8 (([]:List V)++(l.map bR)) g7 o7 c7:V)=.own 8 (l.map bR) g7 o7 c7)/\Q (.ow 8 (l.map bR)) (.ow 8 (l.map bR)))) ?_
 refine⟨rfl,?_⟩
 intro z4
 refine bI (fun j7=>?_) fun j7=>?_
 unfold Q
 rw[z4.2 j7];rfl
 refine⟨trivial,trivial,(cN (f:=bR) (fun _=>rfl) _),(ee (f:=bR) (fun _=>rfl) _),Z0,?_⟩
 intro g7 o7 c7
 refine⟨Zq (V.own 8 · g7 o7 c7) (List.nil_append _),?_⟩
 unfold Q
 rfl)
def zI(l:List s6):o6 Tryz.prog:=.mk 107 [eL l] [] (l.length<=1000000) (.ow 2 (l.map au)) [] (by
 intro hl
 refine av (N:=8) (rs:=[.tmp 2]) Tryz.func107
  (.q 1<|.q 1<|.cu (V5 (l.map au)) (fun z4=>.br (.q 1<|.h (.H7 2 2)<|.nil) (.bs<|.q 1<|.ap (fun g7 o7 c7=>.h (.o4 7 (.own 2 (l.map au) g7 o7 c7))<|.q 1<|.nil))))
  (((l.map au:List V)=l.map au)/\∀ z4: {b:Bool // b=true->(l.map au:List V)=[]},Br z4.1 (Q (.ow 2 ([].map au)) (.ow 2 (l.map au))) ((True)/\(True)/\(V.aE (l.map au)=false)/\(aJ 2 (l.map au))/\((([]:List V).length+(l.map au).length)*24<=140737488355328)/\∀ g7 o7 c7:Nat,((.own 2 (([]:List V)++(l.map au)) g7 o7 c7:V)=.own 2 (l.map au) g7 o7 c7)/\Q (.ow 2 (l.map au)) (.ow 2 (l.map au)))) ?_
 refine⟨rfl,?_⟩
 intro z4
 refine bI (fun j7=>?_) fun j7=>?_
 unfold Q
 rw[z4.2 j7];rfl
 refine⟨trivial,trivial,(cN (f:=au) (fun _=>rfl) _),(ee (f:=au) (fun _=>rfl) _),Z0,?_⟩
 intro g7 o7 c7
 refine⟨Zq (V.own 2 · g7 o7 c7) (List.nil_append _),?_⟩
 unfold Q
 rfl)
def zg(l:List u7):o6 Tryz.prog:=.mk 108 [nS l] [] (l.length<=1000000) (.ow 2 (l.map ai)) [] (by
 intro hl
 refine av (N:=8) (rs:=[.tmp 2]) Tryz.func108
  (.q 1<|.q 1<|.cu (V5 (l.map ai)) (fun z4=>.br (.q 1<|.h (.H7 2 2)<|.nil) (.bs<|.q 1<|.ap (fun g7 o7 c7=>.h (.o4 7 (.own 2 (l.map ai) g7 o7 c7))<|.q 1<|.nil))))
  (((l.map ai:List V)=l.map ai)/\∀ z4: {b:Bool // b=true->(l.map ai:List V)=[]},Br z4.1 (Q (.ow 2 ([].map ai)) (.ow 2 (l.map ai))) ((True)/\(True)/\(V.aE (l.map ai)=false)/\(aJ 2 (l.map ai))/\((([]:List V).length+(l.map ai).length)*24<=140737488355328)/\∀ g7 o7 c7:Nat,((.own 2 (([]:List V)++(l.map ai)) g7 o7 c7:V)=.own 2 (l.map ai) g7 o7 c7)/\Q (.ow 2 (l.map ai)) (.ow 2 (l.map ai)))) ?_
 refine⟨rfl,?_⟩
 intro z4
 refine bI (fun j7=>?_) fun j7=>?_
 unfold Q
 rw[z4.2 j7];rfl
 refine⟨trivial,trivial,(cN (f:=ai) (fun _=>rfl) _),(ee (f:=ai) (fun _=>rfl) _),Z0,?_⟩
 intro g7 o7 c7
 refine⟨Zq (V.own 2 · g7 o7 c7) (List.nil_append _),?_⟩
 unfold Q
 rfl)
def zy(l:List l7):o6 Tryz.prog:=.mk 109 [cG l] [] (l.length<=1000000) (.ow 3 (l.map aO)) [] (by
 intro hl
 refine av (N:=8) (rs:=[.tmp 2]) Tryz.func109
  (.q 1<|.q 1<|.cu (V5 (l.map aO)) (fun z4=>.br (.q 1<|.h (.H7 2 3)<|.nil) (.bs<|.q 1<|.ap (fun g7 o7 c7=>.h (.o4 7 (.own 3 (l.map aO) g7 o7 c7))<|.q 1<|.nil))))
  (((l.map aO:List V)=l.map aO)/\∀ z4: {b:Bool // b=true->(l.map aO:List V)=[]},Br z4.1 (Q (.ow 3 ([].map aO)) (.ow 3 (l.map aO))) ((True)/\(True)/\(V.aE (l.map aO)=false)/\(aJ 3 (l.map aO))/\((([]:List V).length+(l.map aO).length)*32<=140737488355328)/\∀ g7 o7 c7:Nat,((.own 3 (([]:List V)++(l.map aO)) g7 o7 c7:V)=.own 3 (l.map aO) g7 o7 c7)/\Q (.ow 3 (l.map aO)) (.ow 3 (l.map aO)))) ?_
 refine⟨rfl,?_⟩
 intro z4
 refine bI (fun j7=>?_) fun j7=>?_
 unfold Q
 rw[z4.2 j7];rfl
 refine⟨trivial,trivial,(cN (f:=aO) (fun _=>rfl) _),(ee (f:=aO) (fun _=>rfl) _),Z0,?_⟩
 intro g7 o7 c7
 refine⟨Zq (V.own 3 · g7 o7 c7) (List.nil_append _),?_⟩
 unfold Q
 rfl)
abbrev qe(t:j8):V:=bz t.na t.a7 t.hs t.se t.lk
def vp(t:j8):o6 Tryz.prog:=.mk 74 [bB t.na t.a7 t.hs t.se t.lk] [] (w8 t) (qe t) [] (by
 intro ht
 have UB:=ht.h
 refine av (N:=57) (rs:=[.cell 2 30]) Tryz.func74
  (.bx (fun g1=>.al eR (fun g2=>.r 2 [.a8]<|.c (zt t.hs) []<|.q 1<|.st none<|.oR (.key 1) [2] (fun g o c=>.r 4 [.a8]<|.h (.B0 1 (lG t.na t.a7 (.own 8 ((t.hs.take 0).map aB++(t.hs.drop 0).map bR) g o c) t.se t.lk))<|.loop (Nat) (fun (i:Nat)=>⟨[(1,.ptr (.key 1) [] g1 0),(2,.ptr (.key 2) [] g2 0),(11,iN t.hs.length),(12,iN i)],[(1,(g1,lG t.na t.a7 (.own 8 ((t.hs.take i).map aB++(t.hs.drop i).map bR) g o c) t.se t.lk)),(2,(g2,.agg [sV [],iN 0,.sl true [],.sl true [],.sl true []]))]⟩) (fun (i:Nat)=>i<=t.hs.length) (fun (i:Nat)=>t.hs.length-i) (fun (i:Nat)=>.q 1<|.br (.q 2<|.h (.B0 1 (lu t.na t.a7 (.own 8 ((t.hs.take i).map aB++(fa ((t.hs.getD i e9).na) ((t.hs.getD i e9).re) ((t.hs.getD i e9).kn) ((t.hs.getD i e9).gr.na) ((t.hs.getD i e9).gr.ru) ((t.hs.getD i e9).gr.wa) ((t.hs.getD i e9).tr) ((t.hs.getD i e9).td):V)::(t.hs.drop (i+1)).map bR) g o c) t.se t.lk))<|.r 5 [.a8]<|.r 6 [ao ((t.hs.getD i e9).gr.na)]<|.c (kb ((t.hs.getD i e9).gr.na)) []<|.q 3<|.h (.fz 25)<|.h (.o4 25 (ao ((t.hs.getD i e9).gr.na)))<|.st (some (ao ((t.hs.getD i e9).gr.na)))<|.h (.B0 1 (lu t.na t.a7 (.own 8 ((t.hs.take i).map aB++(fa ((t.hs.getD i e9).na) ((t.hs.getD i e9).re) ((t.hs.getD i e9).kn) ((t.hs.getD i e9).gr.na) ((t.hs.getD i e9).gr.ru) ((t.hs.getD i e9).gr.wa) ((t.hs.getD i e9).tr) ((t.hs.getD i e9).td):V)::(t.hs.drop (i+1)).map bR) g o c) t.se t.lk))<|.r 6 [eL ((t.hs.getD i e9).gr.ru)]<|.c (zI ((t.hs.getD i e9).gr.ru)) []<|.q 3<|.h (.fz 35)<|.h (.o4 35 (eL ((t.hs.getD i e9).gr.ru)))<|.st (some (eL ((t.hs.getD i e9).gr.ru)))<|.h (.B0 1 (lu t.na t.a7 (.own 8 ((t.hs.take i).map aB++(fa ((t.hs.getD i e9).na) ((t.hs.getD i e9).re) ((t.hs.getD i e9).kn) ((t.hs.getD i e9).gr.na) ((t.hs.getD i e9).gr.ru) ((t.hs.getD i e9).gr.wa) ((t.hs.getD i e9).tr) ((t.hs.getD i e9).td):V)::(t.hs.drop (i+1)).map bR) g o c) t.se t.lk))<|.r 5 [nS ((t.hs.getD i e9).td)]<|.c (zg ((t.hs.getD i e9).td)) []<|.q 2<|.st (some (nS ((t.hs.getD i e9).td)))<|.h (.B0 1 (lu t.na t.a7 (.own 8 ((t.hs.take i).map aB++(KJ ((t.hs.getD i e9).na) ((t.hs.getD i e9).re) ((t.hs.getD i e9).kn) ((t.hs.getD i e9).gr.na) ((t.hs.getD i e9).gr.ru) ((t.hs.getD i e9).gr.wa) ((t.hs.getD i e9).tr) ((t.hs.getD i e9).td):V)::(t.hs.drop (i+1)).map bR) g o c) t.se t.lk))<|.h (.B0 1 (lG t.na t.a7 (.own 8 ((t.hs.take (i+1)).map aB++(t.hs.drop (i+1)).map bR) g o c) t.se t.lk))<|.q 2<|.nil) (.h (.B0 1 (.agg [sV t.na,iV t.a7,.own 8 (t.hs.map aB) g o c,ao t.se,cG t.lk]))<|.r 2 [.a8]<|.c (kb t.se) []<|.q 1<|.st none<|.r 2 [.a8]<|.c (zy t.lk) []<|.q 1<|.st none<|.mv<|.st none<|.nil))))))
  ((fun v1:V=>(∀ g1:Nat,∀ g2:Nat,Z g1 2/\(zt t.hs).sm/\((t.hs.length<=1000000))/\Z g1 2/\∀ g o c:Nat,(fun v2:V=>Z g1 2/\((.agg [sV t.na,iV t.a7,.own 8 (t.hs.map bR) g o c,ao t.se,cG t.lk]:V)=lG t.na t.a7 v2 t.se t.lk)/\(∃ j6:Nat,(j6<=t.hs.length)/\E (.ptr (.key 1) [] g1 0)/\E (.ptr (.key 2) [] g2 0)/\Q (iN ((t.hs.map bR).length)) (iN t.hs.length)/\Q (iN 0) (iN j6)/\Qr g1 (lG t.na t.a7 v2 t.se t.lk) g1 (lG t.na t.a7 (.own 8 ((t.hs.take j6).map aB++(t.hs.drop j6).map bR) g o c) t.se t.lk)/\Er g2 v1/\True)/\∀ i:Nat,(i<=t.hs.length)->(fun v4:j9=>(fun v9:V=>(fun v3:V=>(fun v5:V=>(fun v6:V=>(fun v7:V=>(fun v8:V=>Br (r9 (i:Int) (t.hs.length:Int)) ((v7=lu t.na t.a7 v3 t.se t.lk)/\Z g1 2/\In (i:Int) (((t.hs.take i).map aB++v9::(t.hs.drop (i+1)).map bR).length)/\True/\(V.at g1 0 v5 [2,0+i,3,0]=some (g,(o+(0+i)*8+3+0),ao (v4.gr.na)))/\(kb (v4.gr.na)).sm/\(((v4.gr.na).length<=1000000))/\True/\((.sl false (V.B8 ((v4.gr.na).map sV)):V)=ao (v4.gr.na))/\(V.at g1 0 v5 [2,0+i,3,0]=some (g,(o+(0+i)*8+3+0),ao (v4.gr.na)))/\(V.set v5 [2,0+i,3,0] (ao (v4.gr.na))=lu t.na t.a7 v3 t.se t.lk)/\True/\(V.at g1 0 v5 [2,0+i,3,1]=some (g,(o+(0+i)*8+3+1),eL (v4.gr.ru)))/\(zI (v4.gr.ru)).sm/\(((v4.gr.ru).length<=1000000))/\True/\((.sl false (V.B8 ((v4.gr.ru).map au)):V)=eL (v4.gr.ru))/\(V.at g1 0 v5 [2,0+i,3,1]=some (g,(o+(0+i)*8+3+1),eL (v4.gr.ru)))/\(V.set v5 [2,0+i,3,1] (eL (v4.gr.ru))=lu t.na t.a7 v3 t.se t.lk)/\True/\(V.at g1 0 v5 [2,0+i,5]=some (g,(o+(0+i)*8+7),nS (v4.td)))/\(zg (v4.td)).sm/\(((v4.td).length<=1000000))/\True/\(V.at g1 0 v5 [2,0+i,5]=some (g,(o+(0+i)*8+7),nS (v4.td)))/\(V.set v5 [2,0+i,5] (.ow 2 ((v4.td).map ai))=lu t.na t.a7 v6 t.se t.lk)/\((lu t.na t.a7 v6 t.se t.lk:V)=lG t.na t.a7 v8 t.se t.lk)/\m8 ((i:Int)+1)/\∃ b7:Nat,(b7<=t.hs.length)/\(t.hs.length-b7<t.hs.length-i)/\E (.ptr (.key 1) [] g1 0)/\E (.ptr (.key 2) [] g2 0)/\E (iN t.hs.length)/\Q (iN (i+1)) (iN b7)/\Qr g1 (lG t.na t.a7 v8 t.se t.lk) g1 (lG t.na t.a7 (.own 8 ((t.hs.take b7).map aB++(t.hs.drop b7).map bR) g o c) t.se t.lk)/\Er g2 v1/\True) ((v7=.agg [sV t.na,iV t.a7,.own 8 (t.hs.map aB) g o c,ao t.se,cG t.lk])/\Z g1 3/\(kb t.se).sm/\((t.se.length<=1000000))/\Z g1 3/\Z g1 4/\(zy t.lk).sm/\((t.lk.length<=1000000))/\Z g1 4/\Z g1 0/\Z g2 0/\(g2=g2)/\Q (bz t.na t.a7 t.hs t.se t.lk) (qe t))) (.own 8 ((t.hs.take (i+1)).map aB++(t.hs.drop (i+1)).map bR) g o c)) (lG t.na t.a7 (.own 8 ((t.hs.take i).map aB++(t.hs.drop i).map bR) g o c) t.se t.lk:V)) (.own 8 ((t.hs.take i).map aB++(KJ (v4.na) (v4.re) (v4.kn) (v4.gr.na) (v4.gr.ru) (v4.gr.wa) (v4.tr) (v4.td):V)::(t.hs.drop (i+1)).map bR) g o c)) (lu t.na t.a7 v3 t.se t.lk)) (.own 8 ((t.hs.take i).map aB++v9::(t.hs.drop (i+1)).map bR) g o c)) (fa (v4.na) (v4.re) (v4.kn) (v4.gr.na) (v4.gr.ru) (v4.gr.wa) (v4.tr) (v4.td):V)) (t.hs.getD i e9)) (.own 8 ((t.hs.take 0).map aB++(t.hs.drop 0).map bR) g o c))) (.agg [sV [],iN 0,.sl true [],.sl true [],.sl true []])) ?_
 intro g1
 intro g2
 refine⟨rfl,rfl,by have:=ht.h;omega,rfl,?_⟩
 intro g o c
 refine⟨rfl,Oe (Zq (V.own 8 · g o c) My),?_⟩
 refine⟨⟨0,?_,rfl,rfl,Z4,rfl,rfl,rfl,trivial⟩,?_⟩
 simp
 rintro i h1
 refine bI (fun j7=>?_) fun j7=>?_
 refine⟨Oe (Zq (V.own 8 · g o c) (Kr (d:=e9) Z9)),rfl,by(try simp only[Y2]at *);simp only[YT,YV,Y2,List.length_take,List.length_drop];omega,?_⟩
 have N0:=ht.ha _ (ay (d:=e9) (show i<t.hs.length by omega))
 refine⟨trivial,(aS (f:=2) rfl).trans (aI (by rw[Y0];exact aK Z9) rfl),rfl,by first | (have:=N0.g;omega) | (have:=ht.s;omega),trivial,Zq (V.sl false) (aM (fun _=>rfl) _),(aS (f:=2) rfl).trans (aI (by rw[Y0];exact aK Z9) rfl),dR (aV (by rw[Y0];exact aK Z9) (by rw[Y0];exact dc Z9)),trivial,(aS (f:=2) rfl).trans (aI (by rw[Y0];exact aK Z9) rfl),rfl,by have:=N0.r;omega,trivial,Zq (V.sl false) (aM (fun _=>rfl) _),(aS (f:=2) rfl).trans (aI (by rw[Y0];exact aK Z9) rfl),dR (aV (by rw[Y0];exact aK Z9) (by rw[Y0];exact dc Z9)),trivial,(aS (f:=2) rfl).trans (aI (by rw[Y0];exact aK Z9) rfl),rfl,by have:=N0.t;omega,trivial,(aS (f:=2) rfl).trans (aI (by rw[Y0];exact aK Z9) rfl),dR (aV (by rw[Y0];exact aK Z9) (by rw[Y0];exact dc Z9)),Oe (Zq (V.own 8 · g o c) (LV (f:=aB) (d:=e9) Z9)),Z9,?_⟩
 refine⟨i+1,?_,?_,rfl,rfl,rfl,rfl,rfl,rfl,trivial⟩
 omega
 exact Z1
 refine⟨Oe (Zq (V.own 8 · g o c) (Ms Z9)),rfl,rfl,by first | (have:=N0.g;omega) | (have:=ht.s;omega),rfl,rfl,rfl,by have:=ht.l;omega,rfl,rfl,rfl,?_⟩
 refine⟨rfl,?_⟩
 unfold Q qe
 rfl)
def cC(y:j9):Bool:=decide (y.td≠[])
theorem wv{y:j9}:s9 (((y.td.map ai).length:Nat):Int) 0=cC y:=by
 unfold cC s9
 cases h:y.td <;> simp
def m7(t:j8):Nat:=((fv t).map (·.1)).getD 0
def s8(t:j8):Int:=((fv t).map (·.2)).getD 0
theorem nh{t:j8}{i:Nat}(h:i<t.hs.length):C8 t (i+1)=nH t.a7 (C8 t i) (i,t.hs.getD i e9):=by
 unfold C8
 rw[List.take_succ_eq_append_getElem (by simpa using h),Zf,List.foldl_append]
 simp[YQ,YX h]
section
variable {n:BL} {a7 b q:Int} {zs:List j9} {se:List BL} {ls:List l7} {i:Nat}
theorem yx(h:i<zs.length)(h2:b=(C8 ⟨n,a7,zs,se,ls⟩ i).1)(h3:q=(C8 ⟨n,a7,zs,se,ls⟩ i).2)(c:cC (zs.getD i e9)=true/\(b<0\/max (zs.getD i e9).re a7<q)):C8 ⟨n,a7,zs,se,ls⟩ (i+1)=((i:Int),max (zs.getD i e9).re a7):=by
 rw[nh (t:=⟨n,a7,zs,se,ls⟩) h]
 unfold nH
 rw[<- h2,<- h3,if_pos ⟨of_decide_eq_true c.1,c.2⟩]
theorem zW(h:i<zs.length)(h2:b=(C8 ⟨n,a7,zs,se,ls⟩ i).1)(h3:q=(C8 ⟨n,a7,zs,se,ls⟩ i).2)(c:cC (zs.getD i e9)=true->(0<=b/\q<=max (zs.getD i e9).re a7)):C8 ⟨n,a7,zs,se,ls⟩ (i+1)=C8 ⟨n,a7,zs,se,ls⟩ i:=by
 rw[nh (t:=⟨n,a7,zs,se,ls⟩) h]
 unfold nH
 rw[<- h2,<- h3,if_neg (fun d=>?_)]
 have:=c (decide_eq_true d.1)
 have:=d.2
 simp only at this
 omega
theorem BB{t:j8}(h:(C8 t t.hs.length).1<0\/5000<(C8 t t.hs.length).2):fv t=none:=if_pos h
theorem AL{t:j8}(h:0<=(C8 t t.hs.length).1/\(C8 t t.hs.length).2<=5000):fv t=some ((C8 t t.hs.length).1.toNat,(C8 t t.hs.length).2):=if_neg Z9
end
def Df(k:Int):o6 Tryz.prog:=.mk 173 [iV k] [] True (iV (cW k)) [] (by
 intro _
 refine av (N:=10) (rs:=[.tmp 2]) Tryz.func173
  (.q 1<|.q 1<|.q 2<|.br (.q 1<|.nil) (.q 2<|.br (.q 1<|.nil) (.q 2<|.br (.q 1<|.nil) (.q 1<|.nil))))
  (Br (o9 k 1) (Q (iN 2) (iV (cW k))) (Br (o9 k 2) (Q (iN 4) (iV (cW k))) (Br (o9 k 3) (Q (iN 8) (iV (cW k))) (Q (iN 0) (iV (cW k)))))) ?_
 refine bI (fun j7=>?_) fun j7=>?_
 unfold Q
 rw[cW,if_pos j7];rfl
 refine bI (fun l6=>?_) fun l6=>?_
 unfold Q
 rw[cW,if_neg j7,if_pos l6];rfl
 refine bI (fun n6=>?_) fun n6=>?_
 unfold Q
 rw[cW,if_neg j7,if_neg l6,if_pos n6];rfl
 unfold Q
 rw[cW,if_neg j7,if_neg l6,if_neg n6];rfl)
abbrev vR(n:BL)(a7:Int)(zs:List j9)(se:List BL)(ls:List l7)(gt:Nat)(g:Nat)(o:Nat)(c:Nat)(gb:Nat)(ix:Nat):V:=.tup [iV (max (zs.getD ix e9).re a7),bV (cC (zs.getD ix e9))]
def IN(n:BL)(a7:Int)(zs:List j9)(se:List BL)(ls:List l7)(gt:Nat)(g:Nat)(o:Nat)(c:Nat)(gb:Nat)(ix:Nat):o6 Tryz.prog:=.mk 80 [.ptr (.key 1000) [2,ix] g (o+ix*8),.ptr (.key 1001) [] gb 0] [(1001,(gb,.ptr (.key 1000) [] gt 0)),(1000,(gt,bL n a7 zs g o c se ls))] (ix<zs.length) (vR n a7 zs se ls gt g o c gb ix) [(1001,(gb,.ptr (.key 1000) [] gt 0)),(1000,(gt,bL n a7 zs g o c se ls))] (by
 intro hi
 refine av (N:=20) (rs:=[.tmp 3,.tmp 4]) Tryz.func80
  ((fun y1:j9=>(.q 2<|.h (.B0 1000 (da n a7 zs ix (y1.na) (y1.re) (y1.kn) (y1.gr.na) (y1.gr.ru) (y1.gr.wa) (y1.tr) (y1.td) g o c se ls))<|.QA (.key 1000) [2,ix,5] g (o+(ix)*8+7) 2 ((y1.td).map ai) (fun gA Of cA=>.h (.B0 1000 (bw n a7 zs ix (y1.na) (y1.re) (y1.kn) (y1.gr.na) (y1.gr.ru) (y1.gr.wa) (y1.tr) (y1.td) gA Of cA g o c se ls))<|.dx 16 [0,1,2,3,4,5,6,7,8,9,10,11,12,13,14,15] [(3,⟨false,[],some [1000],[8],[]⟩),(4,⟨false,[],some [1001],[9],[]⟩),(7,⟨false,[],some [1000],[12],[]⟩),(12,⟨false,[],some [1000],[17],[]⟩)] []<|.q 1<|.q 1<|.q 1<|.r 1 [iV (y1.re)]<|.r 1 [.a8]<|.q 1<|.q 1<|.r 1 [.a8]<|.mm<|.q 1<|.q 1<|.q 1<|.r 1 [.own 2 ((y1.td).map ai) gA Of cA]<|.q 1<|.q 1<|.q 1<|.q 1<|.h (.PV (.key 1000) [2,ix,5] g (o+(ix)*8+7) (.own 2 ((y1.td).map ai) gA Of cA) (.ow 2 ((y1.td).map ai)))<|.h (.B0 1000 (da n a7 zs ix (y1.na) (y1.re) (y1.kn) (y1.gr.na) (y1.gr.ru) (y1.gr.wa) (y1.tr) (y1.td) g o c se ls))<|.h (.B0 1000 (bL n a7 zs g o c se ls))<|.nil):Sc Tryz.prog)) (zs.getD ix e9))
  ((fun v1:j9=>(fun v2:V=>(((bL n a7 zs g o c se ls:V)=da n a7 zs ix (v1.na) (v1.re) (v1.kn) (v1.gr.na) (v1.gr.ru) (v1.gr.wa) (v1.tr) (v1.td) g o c se ls)/\(V.at gt 0 v2 [2,ix,5]=some (g,o+(ix)*8+7,.ow 2 ((v1.td).map ai)))/\∀ gA Of cA:Nat,(fun v3:V=>(V.set v2 [2,ix,5] (.own 2 ((v1.td).map ai) gA Of cA)=bw n a7 zs ix (v1.na) (v1.re) (v1.kn) (v1.gr.na) (v1.gr.ru) (v1.gr.wa) (v1.tr) (v1.td) gA Of cA g o c se ls)/\True/\(V.at gt 0 v3 [2,ix,1]=some (g,(o+ix*8+1),iV (v1.re)))/\Z gb 0/\True/\Z gt 1/\(IntKind.i64=IntKind.i64)/\True/\(V.at gt 0 v3 [2,ix,5]=some (g,(o+ix*8+7),.own 2 ((v1.td).map ai) gA Of cA))/\(V.at gt 0 v3 [2,ix,5]=some (g,o+(ix)*8+7,.own 2 ((v1.td).map ai) gA Of cA))/\(V.set v3 [2,ix,5] (.ow 2 ((v1.td).map ai))=da n a7 zs ix (v1.na) (v1.re) (v1.kn) (v1.gr.na) (v1.gr.ru) (v1.gr.wa) (v1.tr) (v1.td) g o c se ls)/\((da n a7 zs ix (v1.na) (v1.re) (v1.kn) (v1.gr.na) (v1.gr.ru) (v1.gr.wa) (v1.tr) (v1.td) g o c se ls:V)=bL n a7 zs g o c se ls)/\Q (.tup [iV (max (v1.re) a7),bV (s9 ((((v1.td).map ai).length:Nat):Int) 0)]) (vR n a7 zs se ls gt g o c gb ix)/\Er gb (.ptr (.key 1000) [] gt 0)/\Er gt (bL n a7 zs g o c se ls)) (bw n a7 zs ix (v1.na) (v1.re) (v1.kn) (v1.gr.na) (v1.gr.ru) (v1.gr.wa) (v1.tr) (v1.td) gA Of cA g o c se ls))) (da n a7 zs ix (v1.na) (v1.re) (v1.kn) (v1.gr.na) (v1.gr.ru) (v1.gr.wa) (v1.tr) (v1.td) g o c se ls)) (zs.getD ix e9)) ?_
 refine⟨Oe (Zq (V.own 8 · g o c) (rL (d:=e9) Z9)),(aS (f:=2) rfl).trans (aI (aK Z9) rfl),?_⟩
 intro gA Of cA
 refine⟨dR (aV (aK Z9) (dc Z9)),trivial,(aS (f:=2) rfl).trans (aI (aK Z9) rfl),rfl,trivial,rfl,rfl,trivial,(aS (f:=2) rfl).trans (aI (aK Z9) rfl),(aS (f:=2) rfl).trans (aI (aK Z9) rfl),dR (aV (aK Z9) (dc Z9)),Oe (Zq (V.own 8 · g o c) (rL (f:=aB) (d:=e9) Z9).symm),?_⟩
 refine⟨?_,rfl,rfl⟩
 unfold Q vR
 rw[wv])
abbrev nK(n:BL)(a7:Int)(zs:List j9)(se:List BL)(ls:List l7)(gt:Nat)(g:Nat)(o:Nat)(c:Nat)(gb:Nat):V:=.tup [iV (max (C8 (⟨n,a7,zs,se,ls⟩:j8) zs.length).1 0),iV ((C8 (⟨n,a7,zs,se,ls⟩:j8) zs.length).2),bV (z6 (C8 (⟨n,a7,zs,se,ls⟩:j8) zs.length).1 0)]
abbrev eJ(n:BL)(a7:Int)(zs:List j9)(se:List BL)(ls:List l7)(gt:Nat)(g:Nat)(o:Nat)(c:Nat)(gb:Nat)(i:Nat)(b:Int)(q:Int):Prop:=i<=zs.length/\b=(C8 (⟨n,a7,zs,se,ls⟩:j8) i).1/\q=(C8 (⟨n,a7,zs,se,ls⟩:j8) i).2
def rJ(n:BL)(a7:Int)(zs:List j9)(se:List BL)(ls:List l7)(gt:Nat)(g:Nat)(o:Nat)(c:Nat)(gb:Nat):o6 Tryz.prog:=.mk 79 [.hd (.key 1000) [2] 8 g o 0 ((zs.map aB).length) c,.lit (.func (.func 80) #[] #[.pointer (some ⟨gb,0,none⟩)])] [(1001,(gb,.ptr (.key 1000) [] gt 0)),(1000,(gt,bL n a7 zs g o c se ls))] (zs.length<=1000) (nK n a7 zs se ls gt g o c gb) [(1001,(gb,.ptr (.key 1000) [] gt 0)),(1000,(gt,bL n a7 zs g o c se ls))] (by
 intro hl
 refine av (N:=43) (rs:=[.tmp 4,.tmp 5,.tmp 6]) Tryz.func79
  (.q 3<|.q 2<|.q 3<|.loop (Nat×Int×Int) (fun (i,b,q)=>⟨[(0,.hd (.key 1000) [2] 8 g o 0 ((zs.map aB).length) c),(1,.lit (.func (.func 80) #[] #[.pointer (some ⟨gb,0,none⟩)])),(7,iV b),(8,iV q),(13,iN zs.length),(14,iN i)],[(1001,(gb,.ptr (.key 1000) [] gt 0)),(1000,(gt,bL n a7 zs g o c se ls))]⟩) (fun (i,b,q)=>eJ n a7 zs se ls gt g o c gb i b q) (fun (i,b,q)=>zs.length-i) (fun (i,b,q)=>.q 1<|.br (.q 2<|.q 4<|.c (IN n a7 zs se ls gt g o c gb i) [(1000,1000),(1001,1001)]<|.q 5<|.q 10<|.br (.q 4<|.q 2<|.nil) (.q 2<|.nil)) (.q 1<|.mm<|.q 6<|.nil)))
  ((fun v1:V=>(fun v2:V=>((∃ x:Nat×Int×Int,match x with | (j6,M7,z7)=>(eJ n a7 zs se ls gt g o c gb j6 M7 z7)/\E (.hd (.key 1000) [2] 8 g o 0 ((zs.map aB).length) c)/\E v1/\Q (iV (-1)) (iV M7)/\Q (iN 0) (iV z7)/\Q (iN ((zs.map aB).length)) (iN zs.length)/\Q (iN 0) (iN j6)/\Er gb v2/\Er gt (bL n a7 zs g o c se ls)/\True)/\∀ x:Nat×Int×Int,match x with | (i,b,q)=>(eJ n a7 zs se ls gt g o c gb i b q)->Br (r9 (i:Int) (zs.length:Int)) (In (i:Int) ((zs.map aB).length)/\(([.ptr (.key 1000) [2,i] g (o+(0+i)*8),.ptr (.key 1001) [] gb 0]:List V)=[.ptr (.key 1000) [2,i] g (o+i*8),.ptr (.key 1001) [] gb 0])/\Er gb v2/\Er gt (bL n a7 zs g o c se ls)/\((i<zs.length))/\Gd ((cC (zs.getD i e9))==true) (Pk (r9 b 0) true (((cC (zs.getD i e9))==true)&&((r9 b 0)==false)))/\Pk (cC (zs.getD i e9)) ((cC (zs.getD i e9))==true) true/\Br ((cC (zs.getD i e9))&&((r9 b 0)||(r9 (max (zs.getD i e9).re a7) q))) (m8 ((i:Int)+1)/\∃ x:Nat×Int×Int,match x with | (b7,B3,n9)=>(eJ n a7 zs se ls gt g o c gb b7 B3 n9)/\(zs.length-b7<zs.length-i)/\E (.hd (.key 1000) [2] 8 g o 0 ((zs.map aB).length) c)/\E v1/\Q (iN i) (iV B3)/\Q (iV (max (zs.getD i e9).re a7)) (iV n9)/\E (iN zs.length)/\Q (iN (i+1)) (iN b7)/\Er gb v2/\Er gt (bL n a7 zs g o c se ls)/\True) (m8 ((i:Int)+1)/\∃ x:Nat×Int×Int,match x with | (b7,B3,n9)=>(eJ n a7 zs se ls gt g o c gb b7 B3 n9)/\(zs.length-b7<zs.length-i)/\E (.hd (.key 1000) [2] 8 g o 0 ((zs.map aB).length) c)/\E v1/\Q (iV b) (iV B3)/\Q (iV q) (iV n9)/\E (iN zs.length)/\Q (iN (i+1)) (iN b7)/\Er gb v2/\Er gt (bL n a7 zs g o c se ls)/\True)) ((IntKind.i64=IntKind.i64)/\Q (.tup [iV (max b 0),iV q,bV (z6 b 0)]) (nK n a7 zs se ls gt g o c gb)/\Er gb v2/\Er gt (bL n a7 zs g o c se ls)))) (.ptr (.key 1000) [] gt 0)) (.lit (.func (.func 80) #[] #[.pointer (some ⟨gb,0,none⟩)]))) ?_
 refine⟨⟨(0, -1,0),?_,rfl,rfl,rfl,Z4,Z4,rfl,rfl,rfl,trivial⟩,?_⟩
 unfold eJ
 exact⟨Z8,rfl,rfl⟩
 rintro⟨i,b,q⟩ ⟨h1,h2,h3⟩
 refine bI (fun j7=>?_) fun j7=>?_
 refine⟨Z2,by first | rfl | (exfalso;omega) | (simp only[Y0]) | (simp;omega),rfl,rfl,Z9,fun hG=>⟨fun _=>rfl,fun h=>by rw[h];exact(YS _ _).mpr ⟨hG,rfl⟩⟩,⟨fun h=>by rw[h] <;> rfl,fun _=>rfl⟩,?_⟩
 refine bI (fun l6=>?_) fun l6=>?_
 refine⟨Z9,?_⟩
 refine⟨(i+1,(i:Int),max (zs.getD i e9).re a7),?_,?_,rfl,rfl,Z4,rfl,rfl,rfl,rfl,rfl,trivial⟩
 unfold eJ
 first | exact⟨Z9,by rw[yx Z9 h2 h3 l6],by rw[yx Z9 h2 h3 l6]⟩ | exact⟨Z9,by rw[zW Z9 h2 h3 l6];exact h2,by rw[zW Z9 h2 h3 l6];exact h3⟩
 exact Z1
 refine⟨Z9,?_⟩
 refine⟨(i+1,b,q),?_,?_,rfl,rfl,rfl,rfl,rfl,rfl,rfl,rfl,trivial⟩
 unfold eJ
 first | exact⟨Z9,by rw[yx Z9 h2 h3 l6],by rw[yx Z9 h2 h3 l6]⟩ | exact⟨Z9,by rw[zW Z9 h2 h3 l6];exact h2,by rw[zW Z9 h2 h3 l6];exact h3⟩
 exact Z1
 refine⟨rfl,?_⟩
 refine⟨?_,rfl,rfl⟩
 unfold Q nK
 obtain rfl:i=zs.length:=Z9
 rw[h2,h3])
abbrev qT(n:BL)(a7:Int)(zs:List j9)(se:List BL)(ls:List l7)(gt:Nat):V:=.tup [iN (m7 (⟨n,a7,zs,se,ls⟩:j8)),iV (s8 (⟨n,a7,zs,se,ls⟩:j8)),bV ((fv (⟨n,a7,zs,se,ls⟩:j8)).isSome)]
def vu(n:BL)(a7:Int)(zs:List j9)(se:List BL)(ls:List l7)(gt:Nat):o6 Tryz.prog:=.mk 44 [.ptr (.key 1000) [] gt 0] [(1000,(gt,bz n a7 zs se ls))] (zs.length<=1000) (qT n a7 zs se ls gt) [(1000,(gt,bz n a7 zs se ls))] (by
 intro hl
 refine av (N:=26) (rs:=[.tmp 2,.tmp 3,.tmp 4]) Tryz.func44
  (.oR (.key 1000) [2] (fun g o c=>.bx (fun g1=>.q 3<|.r 4 [.a8,.a8]<|.cu RW (fun _=>.c (rJ n a7 zs se ls gt g o c g1) [(1001,1),(1000,1000)]<|.q 7<|.q 6<|.br (.q 3<|.nil) (.q 5<|.nil)))))
  ((fun v1:Bool=>(∀ g o c:Nat,∀ g1:Nat,Z g1 0/\True/\Z gt 2/\((Value.func (.func 80) #[] #[.pointer (some ⟨g1,0,none⟩)]).oneCell'=true)/\∀ _:Unit,(rJ n a7 zs se ls gt g o c g1).sm/\Er g1 (.ptr (.key 1000) [] gt 0)/\Er gt (bL n a7 zs g o c se ls)/\((zs.length<=1000))/\Pk v1 true (v1==false)/\Br (v1||(s9 ((C8 (⟨n,a7,zs,se,ls⟩:j8) zs.length).2) 5000)) (Q (.tup [iN 0,iN 0,bV false]) (qT n a7 zs se ls gt)/\Er gt (bz n a7 zs se ls)) (Q (.tup [iV (max (C8 (⟨n,a7,zs,se,ls⟩:j8) zs.length).1 0),iV ((C8 (⟨n,a7,zs,se,ls⟩:j8) zs.length).2),bV true]) (qT n a7 zs se ls gt)/\Er gt (bz n a7 zs se ls)))) (!(z6 (C8 (⟨n,a7,zs,se,ls⟩:j8) zs.length).1 0))) ?_
 intro g o c
 intro g1
 refine⟨rfl,trivial,rfl,rfl,?_⟩
 intro _
 refine⟨rfl,rfl,rfl,hl,⟨fun _=>rfl,fun h=>by rw[h] <;> rfl⟩,?_⟩
 refine bI (fun j7=>?_) fun j7=>?_
 refine⟨?_,rfl⟩
 unfold Q qT
 rw[m7,s8,BB (t:=⟨n,a7,zs,se,ls⟩) j7];rfl
 refine⟨?_,rfl⟩
 unfold Q qT
 rw[m7,s8,AL (t:=⟨n,a7,zs,se,ls⟩) j7]
 rw[show max (C8 ⟨n,a7,zs,se,ls⟩ zs.length).1 0=((C8 ⟨n,a7,zs,se,ls⟩ zs.length).1.toNat:Int) from Z9];rfl)
abbrev lC(p0:BL)(p1:Int)(p2:List j9)(p3:Nat)(p4:BL)(p5:Int)(p6:Bool)(p7:List BL)(p8:List s6)(p9:Nat)(Qg:Int)(QW:List u7)(QV:Nat)(QU:Nat)(QT:Nat)(QS:List BL)(U5:List l7)(WG:Nat)(WE:Nat)(WD:Nat):V:=.agg [sV p0,iV p1,.own 8 ((p2.take p3).map aB++(.agg [sV p4,iV p5,bV p6,.agg [.sl false (p7.map sV),.sl false (p8.map au),iN p9],iV Qg,.ow 2 (QW.map ai)]:V)::(p2.drop (p3+1)).map aB) QV QU QT,.ow 1 (QS.map sV),.own 3 (U5.map aO) WG WE WD]
theorem Hc(k:Int):0<=cW k/\cW k<=8:=by unfold cW;split <;> (try split) <;> (try split) <;> omega
theorem IT{y:j9}{a7 k m:Int}(h:k=3):de y a7 k m={ y with re:=a7+max (y.gr.wa:Int) 1+cW (m+1) }:=by unfold de;rw[if_pos h]
theorem IQ{y:j9}{a7 k m:Int}(h: ¬ k=3):de y a7 k m={ y with re:=a7+max (y.gr.wa:Int) 1 }:=by unfold de;rw[if_neg h,Int.add_zero]
def lB(w:List Pg)(t:j8):G5 Tryz.prog:=.mk (Nat×Nat) 41 [bZ w,bB t.na t.a7 t.hs t.se t.lk] [] ((w.length<=30)/\(∀ i,m9 (w.getD i m4))/\(w8 t)/\(an w=true)/\(aC t=true)) (fun x=>True) (fun x=>.tup [.ptr (.key 1001) [] x.1 0,bV true]) (fun x=>[(1001,(x.1,.agg [.mp (w.map E9),.ptr (.key 1000) [] x.2 0])),(1000,(x.2,bz t.na t.a7 t.hs t.se t.lk))]) (by
 rintro⟨hw,hz,ht,hk,MT⟩
 refine fh (N:=26) (rs:=[.tmp 4,.tmp 5]) (X:=Nat×Nat) (post:=fun x=>True) (E:=fun x=>.tup [.ptr (.key 1001) [] x.1 0,bV true]) (H':=fun x=>[(1001,(x.1,.agg [.mp (w.map E9),.ptr (.key 1000) [] x.2 0])),(1000,(x.2,.agg [sV t.na,iV t.a7,.ow 8 (t.hs.map aB),.ow 1 (t.se.map sV),.ow 3 (t.lk.map aO)]))]) Tryz.func41 Z7 rfl rfl rfl Z7 [(1001,(0,.a8)),(1000,(0,.a8))] (by intro _ k hk;simp only[lk]at hk ⊢;repeat (split at hk <;> simp_all))
  (.bx (fun g3=>.q 2<|.q 1<|.c (jQ w) []<|.q 5<|.r 4 [.a8]<|.cg (dP t)<|.q 2<|.br (.nil) (.r 1 [.a8]<|.c (vp t) []<|.al eR (fun g8=>.st none<|.q 1<|.bd MD<|.bx (fun Qb=>.q 2<|.h (.rk 25 1001)<|.h (.rk 8 1000)<|.nil)))))
  (∀ g3:Nat,(jQ w).sm/\((w.length<=30)/\(∀ i,m9 (w.getD i m4))/\(an w=true))/\Gd ((!true)==false) (Z g3 0)/\Gd ((!true)==false) (((w8 t))/\(dP t).sm)/\Pk (!true) true ((!true)==false)/\Br ((!true)||(!(aC t))) (False) (Z g3 0/\(vp t).sm/\((w8 t))/\∀ g8:Nat,Z g8 0/\∀ Qb:Nat,∃ x:Nat×Nat,(True)/\Q (.tup [.ptr (.key 1001) [] Qb 0,bV true]) (.tup [.ptr (.key 1001) [] x.1 0,bV true])/\Qr Qb (.agg [.mp (w.map E9),.ptr (.key 1000) [] g8 0]) x.1 (.agg [.mp (w.map E9),.ptr (.key 1000) [] x.2 0])/\Qr g8 (bz t.na t.a7 t.hs t.se t.lk) x.2 (bz t.na t.a7 t.hs t.se t.lk)))
  Z7 ?_
 intro g3
 refine⟨rfl,⟨hw,hz,hk⟩,fun hG=>rfl,fun hG=>⟨ht,rfl⟩,⟨fun _=>rfl,fun h=>by rw[h] <;> rfl⟩,?_⟩
 refine bI (fun j7=>?_) fun j7=>?_
 · all_goals simp_all
 · refine⟨rfl,rfl,ht,?_⟩
   intro g8
   refine⟨rfl,?_⟩
   intro Qb
   refine⟨(Qb,g8),?_,?_,?_⟩
   · try dsimp only
     all_goals trivial
   first | rfl | simp_all
   first | rfl | exact⟨rfl,rfl⟩ | simp_all)
def kj(w:List Pg)(t:j8):o6 Tryz.prog:=.mk 41 [bZ w,bB t.na t.a7 t.hs t.se t.lk] [] ((w.length<=30)/\(∀ i,m9 (w.getD i m4))/\(w8 t)/\((an w&&aC t)=false)) (.tup [.a8,bV false]) [] (by
 rintro⟨hw,hz,ht,hk⟩
 refine av (N:=26) (rs:=[.tmp 4,.tmp 5]) Tryz.func41
  (.bx (fun g3=>.q 2<|.q 1<|.sp (an w) (.c (jQ w) []<|.q 5<|.r 4 [.a8]<|.cg (dP t)<|.q 2<|.br (.q 2<|.nil) (.nil)) (.c (ml w) []<|.q 5<|.r 4 [.a8]<|.cg (dP t)<|.q 2<|.br (.q 2<|.nil) (.nil))))
  ((fun v1:V=>(∀ g3:Nat,((an w)=true->(jQ w).sm/\((w.length<=30)/\(∀ i,m9 (w.getD i m4))/\(an w=true))/\Gd ((!true)==false) (Z g3 0)/\Gd ((!true)==false) (((w8 t))/\(dP t).sm)/\Pk (!true) true ((!true)==false)/\Br ((!true)||(!(aC t))) (Q v1 v1) (False))/\((an w)=false->(ml w).sm/\((w.length<=30)/\(∀ i,m9 (w.getD i m4))/\(an w=false))/\Gd ((!false)==false) (Z g3 0)/\Gd ((!false)==false) (((w8 t))/\(dP t).sm)/\Pk (!false) true ((!false)==false)/\Br ((!false)||(!(aC t))) (Q v1 v1) (False)))) (.tup [.a8,bV false])) ?_
 intro g3
 refine⟨fun J3=>?_,fun J3=>?_⟩
 · have NZ:=J3
   try simp only[nb]at NZ
   refine⟨rfl,⟨hw,hz,J3⟩,fun hG=>rfl,fun hG=>⟨ht,rfl⟩,⟨fun _=>rfl,fun h=>by rw[h] <;> rfl⟩,?_⟩
   refine bI (fun j7=>?_) fun j7=>?_
   unfold Q
   rfl
   · all_goals simp_all
 · have NZ:=J3
   try simp only[nb]at NZ
   refine⟨rfl,⟨hw,hz,J3⟩,fun hG=>rfl,fun hG=>⟨ht,rfl⟩,⟨fun _=>rfl,fun h=>by rw[h] <;> rfl⟩,?_⟩
   refine bI (fun l6=>?_) fun l6=>?_
   unfold Q
   rfl
   · all_goals simp_all)
def yM(n:BL)(a7:Int)(zs:List j9)(se:List BL)(ls:List l7)(gt:Nat)(g:Nat)(o:Nat)(c:Nat)(gw:Nat)(ix:Nat)(w:List Pg)(a:BL)(k:Int)(y:j9):o6 Tryz.prog:=.mk 141 [.ptr (.key 1001) [] gw 0,.ptr (.key 1000) [2,ix] g (o+ix*8),sV a,iV k] [(1001,(gw,.agg [.mp (w.map E9),.ptr (.key 1000) [] gt 0])),(1000,(gt,bL n a7 zs g o c se ls))] ((ix<zs.length)/\(ls.length<=1000)/\(0<=k/\k<=1000)/\(0<=a7/\a7<=100000)/\(zs.getD ix e9=y)/\(y.gr.wa<=1000)) (.tup [iV ((af w a k).1),sV ((af w a k).2)]) [(1001,(gw,.agg [.mp (w.map E9),.ptr (.key 1000) [] gt 0])),(1000,(gt,bL n a7 (zs.set ix (de y a7 (af w a k).1 k)) g o c se (ls++[(⟨a7,a,(af w a k).1⟩:l7)])))] (by
 rintro⟨hi,hl,hk,hn,hyy,hy⟩
 refine av (N:=71) (rs:=[.tmp 8,.tmp 9]) Tryz.func141
  (.oR (.key 1000) [4] (fun gl QX cl=>.q 2<|.r 5 [.a8]<|.r 6 [.a8]<|.c (xU w a k) []<|.q 5<|.dx 14 [0,1,2,3,4,5,6,7,8,9,10,11,12,13] [(4,⟨false,[],some [1000],[31],[]⟩),(8,⟨false,[],some [1000],[35],[]⟩),(13,⟨true,[],none,[40],[1000]⟩)] []<|.q 1<|.q 1<|.q 1<|.q 1<|.r 1 [.a8]<|.q 1<|.q 1<|.q 1<|.r 1 [.a8]<|.q 1<|.q 1<|.bd zB<|.bs<|.ux none (fun D8 D7 G3=>.h (.o4 40 (.own 3 ((ls++[(⟨a7,a,(af w a k).1⟩:l7)]).map aO) D8 D7 G3))<|.q 2<|.st none<|.h (.B0 1000 (lC n a7 zs ix (y.na) (y.re) (y.kn) (y.gr.na) (y.gr.ru) (y.gr.wa) (y.tr) (y.td) g o c se (ls++[(⟨a7,a,(af w a k).1⟩:l7)]) D8 D7 G3))<|.dx 12 [0,1,2,3,4,5,6,7,8,9,10,11] [(4,⟨false,[],some [1000],[47],[]⟩),(9,⟨false,[],some [1000],[52],[]⟩)] []<|.q 1<|.q 1<|.q 1<|.q 1<|.r 1 [.a8]<|.q 1<|.q 1<|.q 1<|.q 1<|.r 1 [iN (y.gr.wa)]<|.mm<|.q 1<|.q 2<|.st (some (iV (y.re)))<|.h (.B0 1000 (lC n a7 zs ix (y.na) (a7+(max ((y.gr.wa:Nat):Int) 1)) (y.kn) (y.gr.na) (y.gr.ru) (y.gr.wa) (y.tr) (y.td) g o c se (ls++[(⟨a7,a,(af w a k).1⟩:l7)]) D8 D7 G3))<|.q 2<|.br (.dx 7 [0,1,2,3,4,5,6] [(3,⟨false,[],some [1000],[62],[]⟩)] []<|.q 1<|.q 1<|.q 1<|.r 1 [iV (a7+(max ((y.gr.wa:Nat):Int) 1))]<|.q 1<|.q 1<|.c (Df (k+1)) []<|.q 3<|.st (some (iV (a7+(max ((y.gr.wa:Nat):Int) 1))))<|.h (.B0 1000 (lC n a7 zs ix (y.na) ((a7+(max ((y.gr.wa:Nat):Int) 1))+(cW (k+1))) (y.kn) (y.gr.na) (y.gr.ru) (y.gr.wa) (y.tr) (y.td) g o c se (ls++[(⟨a7,a,(af w a k).1⟩:l7)]) D8 D7 G3))<|.q 4<|.h (.B0 1000 (.agg [sV n,iV a7,.own 8 ((zs.set ix ({ y with re:=(a7+(max ((y.gr.wa:Nat):Int) 1))+(cW (k+1)) }:j9)).map aB) g o c,.ow 1 (se.map sV),.own 3 ((ls++[(⟨a7,a,(af w a k).1⟩:l7)]).map aO) D8 D7 G3]))<|.nil) (.q 4<|.h (.B0 1000 (.agg [sV n,iV a7,.own 8 ((zs.set ix ({ y with re:=a7+(max ((y.gr.wa:Nat):Int) 1) }:j9)).map aB) g o c,.ow 1 (se.map sV),.own 3 ((ls++[(⟨a7,a,(af w a k).1⟩:l7)]).map aO) D8 D7 G3]))<|.nil))))
  ((fun v1:Int=>(fun v2:List V=>(fun v3:V=>(fun v4:V=>(fun v5:V=>(∀ gl QX cl:Nat,True/\Z gw 1/\True/\Z gw 0/\(xU w a k).sm/\((0<=k)/\(k<=1000))/\True/\Z gt 4/\True/\Z gt 1/\(((3,3,gl,QX,cl,(ls.map aO).length)=(3,3,gl,QX,cl,(ls.map aO).length))/\(V.aE v2=false)/\(aJ 3 v2)/\(((ls.map aO).length+v2.length)*32<=140737488355328))/\∀ D8 D7 G3:Nat,(fun v6:V=>(fun v7:V=>((.own 3 ((ls.map aO)++v2) D8 D7 G3:V)=.own 3 ((ls++[(⟨a7,a,(af w a k).1⟩:l7)]).map aO) D8 D7 G3)/\True/\Z gt 4/\((.agg [sV n,iV a7,.own 8 (zs.map aB) g o c,.ow 1 (se.map sV),.own 3 ((ls++[(⟨a7,a,(af w a k).1⟩:l7)]).map aO) D8 D7 G3]:V)=lC n a7 zs ix (y.na) (y.re) (y.kn) (y.gr.na) (y.gr.ru) (y.gr.wa) (y.tr) (y.td) g o c se (ls++[(⟨a7,a,(af w a k).1⟩:l7)]) D8 D7 G3)/\True/\Z gt 1/\True/\(V.at gt 0 v7 [2,ix,3,2]=some (g,(o+ix*8+3+2),iN (y.gr.wa)))/\(IntKind.i64=IntKind.i64)/\m8 (a7+(max v1 1))/\True/\(V.at gt 0 v7 [2,ix,1]=some (g,(o+ix*8+1),iV (y.re)))/\(V.set v7 [2,ix,1] (iV (a7+(max v1 1)))=lC n a7 zs ix (y.na) (a7+(max v1 1)) (y.kn) (y.gr.na) (y.gr.ru) (y.gr.wa) (y.tr) (y.td) g o c se (ls++[(⟨a7,a,(af w a k).1⟩:l7)]) D8 D7 G3)/\Br (o9 ((af w a k).1) 3) (True/\(V.at gt 0 v6 [2,ix,1]=some (g,(o+ix*8+1),iV (a7+(max v1 1))))/\m8 (k+1)/\(Df (k+1)).sm/\(True)/\m8 ((a7+(max v1 1))+(cW (k+1)))/\True/\(V.at gt 0 v6 [2,ix,1]=some (g,(o+ix*8+1),iV (a7+(max v1 1))))/\(V.set v6 [2,ix,1] (iV ((a7+(max v1 1))+(cW (k+1))))=lC n a7 zs ix (y.na) ((a7+(max v1 1))+(cW (k+1))) (y.kn) (y.gr.na) (y.gr.ru) (y.gr.wa) (y.tr) (y.td) g o c se (ls++[(⟨a7,a,(af w a k).1⟩:l7)]) D8 D7 G3)/\((lC n a7 zs ix (y.na) ((a7+(max v1 1))+(cW (k+1))) (y.kn) (y.gr.na) (y.gr.ru) (y.gr.wa) (y.tr) (y.td) g o c se (ls++[(⟨a7,a,(af w a k).1⟩:l7)]) D8 D7 G3:V)=.agg [sV n,iV a7,.own 8 ((zs.set ix ({ y with re:=(a7+(max v1 1))+(cW (k+1)) }:j9)).map aB) g o c,.ow 1 (se.map sV),.own 3 ((ls++[(⟨a7,a,(af w a k).1⟩:l7)]).map aO) D8 D7 G3])/\Q v3 v3/\Er gw v5/\Qr gt (bL n a7 (zs.set ix ({ y with re:=(a7+(max v1 1))+(cW (k+1)) }:j9)) g o c se (ls++[(⟨a7,a,(af w a k).1⟩:l7)])) gt v4) (((lC n a7 zs ix (y.na) (a7+(max v1 1)) (y.kn) (y.gr.na) (y.gr.ru) (y.gr.wa) (y.tr) (y.td) g o c se (ls++[(⟨a7,a,(af w a k).1⟩:l7)]) D8 D7 G3:V)=.agg [sV n,iV a7,.own 8 ((zs.set ix ({ y with re:=a7+(max v1 1) }:j9)).map aB) g o c,.ow 1 (se.map sV),.own 3 ((ls++[(⟨a7,a,(af w a k).1⟩:l7)]).map aO) D8 D7 G3])/\Q v3 v3/\Er gw v5/\Qr gt (bL n a7 (zs.set ix ({ y with re:=a7+(max v1 1) }:j9)) g o c se (ls++[(⟨a7,a,(af w a k).1⟩:l7)])) gt v4)) (lC n a7 zs ix (y.na) (y.re) (y.kn) (y.gr.na) (y.gr.ru) (y.gr.wa) (y.tr) (y.td) g o c se (ls++[(⟨a7,a,(af w a k).1⟩:l7)]) D8 D7 G3)) (lC n a7 zs ix (y.na) (a7+(max v1 1)) (y.kn) (y.gr.na) (y.gr.ru) (y.gr.wa) (y.tr) (y.td) g o c se (ls++[(⟨a7,a,(af w a k).1⟩:l7)]) D8 D7 G3))) (.agg [.mp (w.map E9),.ptr (.key 1000) [] gt 0])) (bL n a7 (zs.set ix (de y a7 (af w a k).1 k)) g o c se (ls++[(⟨a7,a,(af w a k).1⟩:l7)]))) (.tup [iV ((af w a k).1),sV ((af w a k).2)])) ([.agg [iV a7,sV a,iV ((af w a k).1)]]:List V)) ((y.gr.wa:Nat):Int)) ?_
 subst hyy
 intro gl QX cl
 refine⟨trivial,rfl,trivial,rfl,rfl,⟨hk.1,hk.2⟩,trivial,rfl,trivial,rfl,⟨rfl,rfl,by simp[aJ,V.n,V.ns],Z0⟩,?_⟩
 intro D8 D7 G3
 refine⟨Zq (V.own 3 · D8 D7 G3) Z8,trivial,rfl,Oe (Zq (V.own 8 · g o c) (rL (d:=e9) Z9)),trivial,rfl,trivial,(aS (f:=2) rfl).trans (aI (aK Z9) rfl),rfl,Z9,trivial,(aS (f:=2) rfl).trans (aI (aK Z9) rfl),dR (aV (aK Z9) (dc Z9)),?_⟩
 refine bI (fun j7=>?_) fun j7=>?_
 refine⟨trivial,(aS (f:=2) rfl).trans (aI (aK Z9) rfl),Z9,rfl,trivial,by have:=Hc (k+1);omega,trivial,(aS (f:=2) rfl).trans (aI (aK Z9) rfl),dR (aV (aK Z9) (dc Z9)),Oe (Zq (V.own 8 · g o c) (lF (f:=aB) (x:=({ (zs.getD ix e9) with re:=(a7+(max (((zs.getD ix e9).gr.wa:Nat):Int) 1))+(cW (k+1)) }:j9)) Z9)),?_⟩
 refine⟨?_,rfl,by rw[IT j7]⟩
 unfold Q
 rfl
 refine⟨Oe (Zq (V.own 8 · g o c) (lF (f:=aB) (x:=({ (zs.getD ix e9) with re:=a7+(max (((zs.getD ix e9).gr.wa:Nat):Int) 1) }:j9)) Z9)),?_⟩
 refine⟨?_,rfl,by rw[IQ j7]⟩
 unfold Q
 rfl)
section
variable {P:Program} {w w':World} {Pb Kb:Nat->Prop} {N:Nat} {A:AS} {a:Act} {F:l8->List Nat}
theorem set_set:∀ (p:List Nat) (v x y:V),(v.set p x).set p y=v.set p y
 | [],_,_,_=>rfl
 | j::p,v,x,y=>by
   cases v with
   | agg vs=>
     simp only[V.set]
     cases h:vs[j]? with
     | none=>simp only[h]
     | some u=>
       have hj:=(Y7.1 h).1
       simp only[List.getElem?_set_self hj,List.set_set,set_set p u x y]
   | own sz xs g o c=>
     simp only[V.set]
     cases h:xs[j]? with
     | none=>simp only[h]
     | some u=>
       have hj:=(Y7.1 h).1
       simp only[List.getElem?_set_self hj,List.set_set,set_set p u x y]
   | _=>rfl
theorem vD:∀ (p:List Nat) {v u x:V} {g o g' o':Nat},V.at g o v p=some (g',o',u)->V.at g o (v.set p x) p=some (g',o',x)
 | [],v,u,x,g,o,g',o',h=>by
   simp only[V.at,YR,YU]at h ⊢
   exact⟨h.1,h.2.1,rfl⟩
 | j::p,v,u,x,g,o,g',o',h=>by
   simp only[V.at]at h
   split at h
   rename_i vs
   split at h
   rename_i y hy
   have hj:=(Y7.1 hy).1
   simp only[V.set,hy,V.at,List.getElem?_set_self hj]
   rw[List.take_set_of_le (Zg _)]
   exact vD p h
   simp at h
   rename_i sz xs g1 o1 c1
   split at h
   rename_i y hy
   have hj:=(Y7.1 hy).1
   simp only[V.set,hy,V.at,List.getElem?_set_self hj]
   exact vD p h
   simp at h
   simp at h
theorem nG:∀ (xs ys:List V) {cs:List Value},RL w Pb (xs++ys) cs []->RL w Pb xs (cs.take (V.ns xs)) []/\RL w Pb ys (cs.drop (V.ns xs)) []
 | [],ys,cs,h=>⟨⟨by simp[V.ns],rfl⟩,by simpa[V.ns] using h⟩
 | x::xs,ys,cs,h=>by
   obtain⟨c1,c2,F1,F2,rfl,hF,h1,h2⟩:=h
   obtain⟨rfl,rfl⟩:=List.append_eq_nil_iff.1 hF.symm
   obtain⟨k1,k2⟩:=nG xs ys h2
   have hl:=ez x h1
   have e:V.ns (x::xs)=c1.length+V.ns xs:=by simp only[V.ns];omega
   rw[e,List.take_length_add_append,List.drop_length_add_append]
   exact⟨⟨c1,_,[],[],rfl,rfl,h1,k1⟩,k2⟩
theorem A9.same{g o:Nat}{cs:List Value}{cells:Array Value}(hb:Blk w g cells)(h:∀ j u,cs[j]? =some u->cells[o+j]? =some u):A9 w w g o cs where
 os:=rfl
 tape:=rfl
 output:=rfl
 size:=rfl
 Nk:=fun _ _=>rfl
 shape:=Shp.refl _
 N':=fun n7 J'=>by
  obtain⟨e,fr,h1,h2⟩:=hb
  obtain⟨e',Wr,Qo,Wo⟩:=J'
  rw[h1]at Qo
  simp only[YR,Obj.cells.injEq]at Qo
  obtain⟨rfl,_,_⟩:=Qo
  exact⟨cells,⟨e',Wr,by rw[h1];simp_all,Wo⟩,rfl,fun _ _=>rfl,h⟩
theorem s4.Bi(hs:s4 N Pb Kb A a w F) {k g1 o1 sz g o c lo:Nat} {p:List Nat} {xs xs':List V} {new:List Value} (x9:A.at (.key k) p=some (g1,o1,.own sz xs g o c)) (hc:0<c) (I6:V.aE xs=false)
 (hlo:lo+new.length<=xs.length*sz) (hlen:xs'.length=xs.length) (hN:aJ sz xs') (h1:∀ v,v∈new->v.oneCell'=true)
 (Ov:∀ flat,RL w Pb xs flat []->RL w Pb xs' (flat.take lo++new++flat.drop (lo+new.length)) []):
 ∃ w' F',(storeCells ⟨g,o+lo,none⟩ new 0).run P w=.ok () w'/\s4 N Pb Kb (A.setAt (.key k) p (.own sz xs' g o c)) a w' F'/\x7 Kb w w':=by
 obtain⟨Fr,Fu,Nw,⟨cs,cells,hb,L3,s3⟩,hnd,u0,hfr⟩:=hs.split x9
 rcases L3 with ⟨h0,_⟩ | ⟨Qo,hsz,hle,hcs,XE,T9,flat,F',Oz,UF,hr,l6,TJ,Rt⟩
 omega
 have hF0:=fN xs I6 hr
 subst hF0
 subst UF
 have hfl:flat.length=xs.length*sz:=by rw[iC _ hr,pc _ XE]
 have R':xs.length*sz<=c*sz:=Nat.mul_le_mul_right _ hle
 obtain⟨w',A3,y8⟩:=gM (P:=P) (g:=g) (o:=o+lo) new 0 w Oz l6 Z9 h1
 rw[Nat.add_zero]at y8
 have hg:=hfr g Z8
 have K1:s4 N Pb Kb (A.setAt (.key k) p .a8) a w' (cf F (.key k) Fr):=Nw.Nk (fun r=>u0 r g Z8) hg.1 y8.Nk y8.size
 have We:∀ x,Pb x->w'.heap[x]? =w.heap[x]? :=fun x hx=>y8.Nk x (by rintro rfl;exact T9 hx)
 obtain⟨n7,J',Yi,NJ,Ri⟩:=y8.N' Oz l6
 have hnl:=Ov flat hr
 have hR:R w' Pb (.own sz xs' g o c) cs [g]:=by
  refine .inr ⟨Qo,hsz,Z9,by rw[hlen];exact hcs,hN,T9,_,[],n7,rfl,eh xs' hnl We Z8 (fun _ h=>h) Z8,J',Z9,fun j u hu=>?_⟩
  by_cases j1:j<lo
  rw[List.append_assoc,Zd Z0,List.getElem?_take_of_lt j1]at hu
  rw[NJ _ (.inl Z9)]
  exact Rt j u hu
  by_cases j2:j<lo+new.length
  rw[List.append_assoc,Y8 Z0,Zd Z0]at hu
  have:=Ri _ _ hu
  have e:(flat.take lo).length=lo:=by rw[List.length_take];omega
  rw[e,show o+lo+(j-lo)=o+j from Z9]at this
  exact this
  have e:(flat.take lo++new).length=lo+new.length:=by rw[YT,List.length_take];omega
  rw[Y8 Z9,e,List.getElem?_drop,show lo+new.length+(j-(lo+new.length))=j from Z9]at hu
  rw[NJ _ (.inr Z9)]
  exact Rt j u hu
 have Sa:(A.setAt (.key k) p .a8).at (.key k) p=some (g1,o1,.a8):=by
  simp only[AS.at]at x9
  split at x9
  rename_i g0 t hk
  simp only[AS.setAt,hk,AS.at,lk,if_true]
  exact vD p x9
  simp at x9
 have RG:g1≠g:=by
  have hh:=Sa
  simp only[AS.at]at hh
  split at hh
  rename_i g0 t hk
  obtain⟨M8,e,hA⟩:=Nw.root k g0 t hk
  have hin:g1∈cf F (.key k) Fr (.key k):=by
   rw[e]
   rcases hZ p hA hh with ⟨h,_⟩ | h
   rw[h];simp
   simp[h]
  rintro rfl
  exact u0 (.key k) g1 Z8 hin
  simp at hh
 have W6:A9 w' w' g1 o1 cs:=by
  obtain⟨e,fr,VM,hf⟩:=hb
  exact A9.same (cells:=cells) ⟨e,fr,(y8.Nk g1 RG).trans VM,hf⟩ s3
 obtain⟨F3,MN,_⟩:=K1.store Sa hR (by rfl) hnd (fun r x hx=>u0 r x hx) (fun x hx=>by rw[y8.size];exact hfr x hx) W6
 refine⟨w',F3,A3,MN.eqv ⟨fun i=>?_,fun q=>?_⟩,⟨y8.os,y8.tape,y8.output,by rw[y8.size];omega,fun x hx=>y8.Nk x (by rintro rfl;exact hg.1 hx),y8.shape⟩⟩
 simp only[AS.at]at x9
 split at x9
 rename_i g0 t hk
 simp only[AS.setAt,hk,lk,if_true];rfl
 simp at x9
 simp only[AS.at]at x9
 split at x9
 rename_i g0 t hk
 simp only[AS.setAt,hk,lk,if_true,set_set]
 split <;> rfl
 simp at x9
theorem JB{zc:Array Value}(h:0<zc.size)(n:Nat):(Builtin.zeroCells zc (n+1)).toList=zc.toList++(Builtin.zeroCells zc n).toList:=by
 apply List.ext_getElem
 simp[Builtin.zeroCells,Nat.add_mul];omega
 intro i h1 h2
 by_cases hi:i<zc.size
 rw[List.getElem_append_left (by simpa using hi)]
 simp[Builtin.zeroCells,Nat.mod_eq_of_lt hi,hi]
 rw[List.getElem_append_right (by simpa using hi)]
 simp only[Builtin.zeroCells,Array.getElem_toList,Array.getElem_map,Array.getElem_range,Array.length_toList]
 rw[Nat.mod_eq_sub_mod Z9]
theorem Cw{v:V}{zc:Array Value}(h:0<zc.size)(hr:R w Pb v zc.toList []):∀ n,RL w Pb (List.replicate n v) (Builtin.zeroCells zc n).toList []
 | 0=>⟨by simp[Builtin.zeroCells],rfl⟩
 | n+1=>by
   rw[JB h,List.replicate_succ]
   exact⟨_,_,[],[],rfl,rfl,hr,Cw h hr n⟩
theorem DS{zc:Array Value}(n:Nat):(Builtin.zeroCells zc n).toList.length=n*zc.size:=by simp[Builtin.zeroCells]
theorem Kw{v:V}{zc:Array Value}(h:0<zc.size)(hr:R w Pb v zc.toList [])(n:Nat):∀ x,x∈(Builtin.zeroCells zc n).toList->x.oneCell'=true:=qX _ (Cw h hr n)
theorem uX:∀ (xs:List V) (k:Nat),V.aE xs=false->V.aE (xs.take k)=false
 | xs,0,h=>by simp[V.aE]
 | [],k+1,h=>by simpa using h
 | v::vs,k+1,h=>by
   simp only[V.aE,Bool.or_eq_false_iff]at h
   simp only[List.take_succ_cons,V.aE,Bool.or_eq_false_iff]
   exact⟨h.1,uX vs k h.2⟩
def YL(k:Nat)(p:List Nat)(lo n sz:Nat)(xs:List V)(g q c g1 o1:Nat)(z:ZT P):Cu P where
 X:=Unit
 pre _ o A:=match o.op,o.dst with
  | .call ⟨.builtin .clear,⟨[x]⟩,⟨[T]⟩⟩,none=>match tD P T,A.ev x with
    | some (.sl e),.hd r p' J1 g' o' MQ n' _=>((e,r,p',J1,g',o',MQ,n')=(z.T,l8.key k,p,sz,g,q,lo,n))/\A.at (.key k) p=some (g1,o1,.own sz xs g q c)/\lo+n<=xs.length/\V.aE xs=false/\aJ sz xs/\z.v.n=sz
    | _,_=>False
  | _,_=>False
 post _ _ A:=A.setAt (.key k) p (.own sz (xs.take lo++List.replicate n z.v++xs.drop (lo+n)) g q c)
 ok:=by
  rintro N ⟨dst,op,ty,pos,after,D2⟩ A K-hp hK
  replace hK:=hK ()
  simp only at hp
  split at hp
  rename_i x T
  split at hp
  rename_i e r p' J1 g' o' MQ n' c' e1 e2
  obtain⟨h1,x9,hlo,I6,hN,U'⟩:=hp
  simp only[YU]at h1
  obtain⟨rfl,rfl,rfl,rfl,rfl,rfl,rfl,rfl⟩:=h1
  intro Pb Kb a w F Q hs
  obtain⟨_,hx⟩:=dH hs x
  rw[e2]at hx
  obtain⟨_,hle,B,hv,hB⟩:=hx
  have hv:a.eval x=.slice B n' c':=(List.cons.inj hv).1
  have hu:=iy e1
  unfold Oper.wp
  by_cases hn:n'=0
  subst hn
  have A3:(execOp a.eval ⟨none,.call ⟨.builtin .clear,⟨[x]⟩,⟨[T]⟩⟩,ty,pos,after,D2⟩).run P w=.ok (.value (.tuple #[])) w:=by
   cases B <;> simp[execOp,resolve,Deferred.ofValue,invoke,builtin,Builtin.clear_,hv,aF hu]
  rw[A3,Oper.upon_value]
  obtain⟨cu,Fu,q1,q2⟩:=hs.so x9
  have:=q2 _ rfl q1
  have t2:s4 N Pb Kb (A.setAt (.key k) p' (.own J1 (xs.take MQ++List.replicate 0 z.v++xs.drop (MQ+0)) g' o' c)) a w F:=by simpa using this
  exact⟨_,Pb,Kb,F,hK,t2,fun _ h=>h,fun _ h=>h,fun _ h=>.inl h,x7.refl _ _⟩
  obtain rfl:=hB Z9
  obtain⟨inf,zv,z1,z2,z3⟩:=z.ok
  have Uu:R w Pb z.v zv.cells.toList []:=qH z.v z3
  have Va:zv.cells.size=z.v.n:=by have:=ez _ Uu;simpa using this
  obtain⟨Fr,Fu,_,⟨cs,cells,_,L3,_⟩,_⟩:=hs.split x9
  have hc:0<c/\0<z.v.n:=by
   rcases L3 with ⟨_,rfl,_⟩ | ⟨h,h2,_⟩
   simp at hlo;omega
   exact⟨h,by rw[U'];exact h2⟩
  have e9:0<zv.cells.size:=by rw[Va];exact hc.2
  have Rh:n'*zv.cells.size=n'*J1:=by rw[Va,U']
  have Xy:MQ*J1+n'*J1<=xs.length*J1:=by rw[<- Nat.add_mul];exact Nat.mul_le_mul_right _ hlo
  obtain⟨w',F',A3,y9,hk⟩:=hs.Bi (P:=P) (lo:=MQ*J1) (xs':=xs.take MQ++List.replicate n' z.v++xs.drop (MQ+n')) (new:=(Builtin.zeroCells zv.cells n').toList) x9 hc.1 I6 (by rw[DS,Rh];exact Xy)
   Z0 (fun v hv=>by
    rcases Y1.1 hv with h | h
    rcases Y1.1 h with h | h
    exact hN v (List.mem_of_mem_take h)
    rw[(List.mem_replicate.1 h).2,U']
    exact hN v (List.mem_of_mem_drop h)) (Kw e9 Uu n') (fun flat hf=>by
    have k1:=(nG (xs.take MQ) (xs.drop MQ) (cs:=flat) (by rw[List.take_append_drop];exact hf)).1
    have k2:=(nG (xs.take (MQ+n')) (xs.drop (MQ+n')) (cs:=flat) (by rw[List.take_append_drop];exact hf)).2
    rw[dU xs MQ hN Z9]at k1
    rw[dU xs _ hN hlo,Nat.add_mul]at k2
    rw[DS,Rh]
    exact iM _ _ (iM _ _ k1 (Cw e9 Uu n')) k2)
  have O8:(execOp a.eval ⟨none,.call ⟨.builtin .clear,⟨[x]⟩,⟨[T]⟩⟩,ty,pos,after,D2⟩).run P w=.ok (.value (.tuple #[])) w':=by
   have hcl:(Builtin.clear_ #[T] ty #[a.eval x]).run P w=.ok (.tuple #[]) w':=by
    rw[hv]
    unfold Builtin.clear_
    simp only[List.getElem?_toArray,List.getElem?_cons_zero,Y4,aF hu,YW]
    obtain⟨m,rfl⟩:∃ m,n'=m+1:=⟨n'-1,Z9⟩
    simp only[Y4,zeroValue,typeInfo,YW]
    simp[z1,z2,A3]
   simp[execOp,resolve,Deferred.ofValue,invoke,builtin,hcl]
  rw[O8,Oper.upon_value]
  exact⟨_,Pb,Kb,F',hK,y9,fun _ h=>h,fun _ h=>h,fun _ h=>.inl h,hk⟩
  exact hp.elim
  exact hp.elim
def saC(k:Nat)(p:List Nat)(lo n sz:Nat)(xs:List V)(g q c g1 o1:Nat):Cu P where
 X:=Unit
 pre N o A:=match o.op,o.dst with
  | .call ⟨.builtin .append,⟨[s,x]⟩,⟨[T,T2]⟩⟩,some d=>match o.type==T&&Nat.blt d N,nF P T T2 with
    | true,some t=>match A.ev x with
      | .hd r p' J1 g' q' MQ n' c'=>((r,p',J1,g',q',MQ,n')=(l8.key k,p,sz,g,q,lo,n))/\A.ev s=.hd (.key k) p sz g q 0 0 c/\A.at (.key k) p=some (g1,o1,.own sz xs g q c)/\sz=t.sz/\0<xs.length/\lo+n<=xs.length/\V.aE xs=false/\aJ sz xs/\c'=c'
      | _=>False
    | _,_=>False
  | _,_=>False
 post _ o A:=(A.setAt (.key k) p (.own sz ((xs.drop lo).take n++xs.drop n) g q c)).put o.dst (.hd (.key k) p sz g q 0 n c)
 ok:=by
  rintro N ⟨dst,op,ty,pos,after,D2⟩ A K-hp hK
  replace hK:=hK ()
  simp only at hp
  split at hp
  rename_i s x T T2 d
  split at hp
  rename_i t e1 e2
  split at hp
  rename_i r p' J1 g' q' MQ n' c' e3
  obtain⟨h1,es,x9,hsz,h0,hlo,I6,hN,_⟩:=hp
  simp only[YU]at h1
  obtain⟨rfl,rfl,rfl,rfl,rfl,rfl,rfl⟩:=h1
  simp only[YS,Zp]at e1
  obtain⟨e,e',q1,q2,q3,q4,q5,q6⟩:=iI e2
  subst hsz
  intro Pb Kb a w F Q hs
  obtain⟨_,hx⟩:=dH hs s
  rw[es]at hx
  obtain⟨_,hle,B,hv,hB⟩:=hx
  have hv:a.eval s=.slice B 0 c:=(List.cons.inj hv).1
  have hrd:Oo A x=some (((t.sz=t.sz/\g'=g'/\q'=q')/\MQ+n'<=xs.length/\V.aE xs=false/\aJ t.sz xs),(xs.drop MQ).take n'):=by
   unfold Oo
   rw[e3]
   show (match A.at (.key k) p' with | some (_,_,u)=>ky MQ n' t.sz g' q' u | none=>none)=_
   rw[x9]
   rfl
  have Rv:aJ t.sz ((xs.drop MQ).take n'):=fun v hv=>hN v (List.mem_of_mem_drop (List.mem_of_mem_take hv))
  have TT:V.aE ((xs.drop MQ).take n')=false:=uX _ _ (pU _ _ I6)
  obtain⟨B2,c2,C4,MR,L',Pf,hl2⟩:=mW (P:=P) hs hrd ⟨⟨rfl,rfl,rfl⟩,hlo,I6,hN⟩ Rv TT
  have hyl:((xs.drop MQ).take n').length=n':=Z0
  rw[hyl]at hl2 MR Pf
  obtain⟨Fr,Fu,_,⟨cs,cells,_,L3,_⟩,_⟩:=hs.split x9
  have hc:0<c/\xs.length<=c:=by
   rcases L3 with ⟨_,rfl,_⟩ | ⟨h,_,h2,_⟩
   simp at h0
   exact⟨h,h2⟩
  obtain rfl:=hB hc.1
  have Xy:n'*t.sz<=xs.length*t.sz:=Nat.mul_le_mul_right _ Z9
  obtain⟨w',F',A3,y9,hk⟩:=hs.Bi (P:=P) (lo:=0) (xs':=(xs.drop MQ).take n'++xs.drop n') (new:=C4) x9 hc.1 I6 (by rw[hl2];omega)
   Z0 (fun v hv=>by
    rcases Y1.1 hv with h | h
    exact Rv v h
    exact hN v (List.mem_of_mem_drop h)) (qX _ L') (fun flat hf=>by
    have k2:=(nG (xs.take n') (xs.drop n') (cs:=flat) (by rw[List.take_append_drop];exact hf)).2
    rw[dU xs _ hN Z9]at k2
    rw[hl2,List.take_zero,List.nil_append,Y0]
    exact iM _ _ L' k2)
  have O8:(execOp a.eval ⟨some d,.call ⟨.builtin .append,⟨[s,x]⟩,⟨[T,T2]⟩⟩,ty,pos,after,D2⟩).run P w=.ok (.value (.slice (some ⟨g',q'+0*t.sz,none⟩) n' c)) w':=by
   have QF:(Builtin.append_ #[T,T2] ty #[a.eval s,a.eval x]).run P w=.ok (.slice (some ⟨g',q'+0*t.sz,none⟩) n' c) w':=by
    have Pa:(Builtin.lenOf (a.eval x)).run P w=.ok n' w:=by rw[MR];rfl
    rw[hv]
    unfold Builtin.append_
    simp only[List.getElem?_toArray,List.getElem?_cons_zero,List.getElem?_cons_succ,Y4,aF (iy q1),YW]
    simp only[cQ q3,YW]
    simp only[aF (iy q2),YW,Y5]
    rw[if_neg (show ¬ (false=true) by decide)]
    rw[Y4,Pa]
    simp only[YW]
    rw[if_pos Z9]
    simp only[Y4,Bool.not_false,if_true,Pf w (fun _=>rfl),YW]
    simp only[dQ,Nat.zero_mul,Nat.add_zero]at A3 ⊢
    rw[A3]
    simp
   have e:((⟨[s,x]⟩:Array Operand).map a.eval)= #[a.eval s,a.eval x]:=Z8
   simp only[execOp,resolve,invoke,builtin,Y4,Y5,YW,e,QF]
  obtain⟨F2,K1⟩:=y9.pR (d:=some d) (v:=.hd (.key k) p' t.sz g' q' 0 n' c) (x:=.slice (some ⟨g',q'+0*t.sz,none⟩) n' c) (bG e1.2) ⟨rfl,Z9,_,rfl,fun _=>rfl⟩
  unfold Oper.wp
  rw[O8,Oper.upon_value]
  exact⟨_,Pb,Kb,F2,hK,K1,fun _ h=>h,fun _ h=>h,fun _ h=>.inl h,hk⟩
  exact hp.elim
  exact hp.elim
  exact hp.elim
def X0(k:Nat)(p:List Nat)(n sz:Nat)(xs:List V)(g q c g1 o1:Nat):Cu P where
 X:=Unit
 pre _ o A:=match o.op,o.dst with
  | .store T x y,none=>match ti P T,A.ev y with
    | some i,.hd r p' J1 g' q' MQ n' c'=>((r,p',J1,g',q',MQ,n',c')=(l8.key k,p,sz,g,q,0,n,c))/\A.ev x=.ptr (.key k) p g1 o1/\A.at (.key k) p=some (g1,o1,.own sz xs g q c)/\i.sz=1/\n<=xs.length/\V.aE xs=false
    | _,_=>False
  | _,_=>False
 post _ _ A:=A.setAt (.key k) p (.own sz (xs.take n) g q c)
 ok:=by
  rintro N ⟨dst,op,ty,pos,after,D2⟩ A K-hp hK
  replace hK:=hK ()
  simp only at hp
  split at hp
  rename_i T x y
  split at hp
  rename_i i r p' J1 g' q' MQ n' c' e1 e2
  obtain⟨h1,ex,x9,hi,hn,I6⟩:=hp
  simp only[YU]at h1
  obtain⟨rfl,rfl,rfl,rfl,rfl,rfl,rfl,rfl⟩:=h1
  intro Pb Kb a w F Q hs
  obtain⟨_,hx⟩:=dH hs y
  rw[e2]at hx
  obtain⟨_,hle,B,hv,hB⟩:=hx
  have hv:a.eval y=.slice B n' c':=(List.cons.inj hv).1
  obtain⟨_,S0⟩:=dH hs x
  rw[ex]at S0
  have hp:a.eval x=.pointer (some ⟨g1,o1,none⟩):=by have:=S0.2;simpa using this
  obtain⟨Fr,Fu,Nw,⟨cs,cells,hb,L3,s3⟩,hnd,u0,hfr⟩:=hs.split x9
  have hR:R w Pb (.own J1 (xs.take n') g' q' c') [a.eval y] Fu:=by
   rw[hv]
   rcases L3 with ⟨rfl,rfl,rfl,A0,_⟩ | ⟨Qo,hsz,hlx,hcs,XE,T9,flat,F',Oz,UF,hr,l6,TJ,Rt⟩
   have:n'=0:=by simpa using hn
   subst this
   exact .inl ⟨rfl,rfl,rfl,B,rfl⟩
   have hF0:=fN xs I6 hr
   subst hF0
   obtain rfl:=hB Qo
   have hl:(xs.take n').length=n':=by rw[List.length_take];omega
   refine .inr ⟨Qo,hsz,Z9,by rw[hl,Nat.zero_mul,Nat.add_zero],fun v hv=>XE v (List.mem_of_mem_take hv),T9,flat.take (V.ns (xs.take n')),[],Oz,UF,?_,l6,TJ,fun j u hu=>Rt j u ?_⟩
   exact(nG (xs.take n') (xs.drop n') (cs:=flat) (by rw[List.take_append_drop];exact hr)).1
   rw[List.getElem?_take]at hu
   split at hu
   exact hu
   simp at hu
  have Sa:(A.setAt (.key k) p' .a8).at (.key k) p'=some (g1,o1,.a8):=by
   simp only[AS.at]at x9
   split at x9
   rename_i g0 t hk
   simp only[AS.setAt,hk,AS.at,lk,if_true]
   exact vD p' x9
   simp at x9
  have hcs:cs.length=1:=ez _ L3
  obtain⟨w',A3,y8⟩:=gM (P:=P) (g:=g1) (o:=o1) [a.eval y] 0 w cells hb (by
   have:cs[0]? =some (cs[0]'Z9):=YX Z9
   have:=(Zl.1 (s3 0 _ this)).1
   simp only[YV,YY];omega) (fun v h=>by rw[YZ.1 h,hv];rfl)
  rw[Nat.add_zero]at y8
  have O8:(execOp a.eval ⟨none,.store T x y,ty,pos,after,D2⟩).run P w=.ok .skip w':=by
   have Nz:(a.eval y).cells= #[a.eval y]:=by rw[hv];rfl
   have hsz:(a.eval y).cells.size=i.sz:=by rw[Nz,hi];rfl
   have Vm:(storeCells ⟨g1,o1,none⟩ (a.eval y).cells.toList 0).run P w=.ok () w':=by rw[Nz];exact A3
   simp only[execOp,Instr.storeAt,hp,Instr.sureAddr,Y4,Y5,YW,storeVar,cQ e1,hsz,ne_eq,not_true_eq_false,if_false,Vm]
  obtain⟨F2,K1,hg⟩:=Nw.store Sa hR (by rfl) hnd u0 hfr y8
  have MN:s4 N Pb Kb (A.setAt (.key k) p' (.own J1 (xs.take n') g' q' c')) a w' F2:=by
   simp only[AS.at]at x9
   split at x9
   rename_i g0 t hk
   refine K1.eqv ⟨fun i=>?_,fun q=>?_⟩
   simp only[AS.setAt,hk,lk,if_true];rfl
   simp only[AS.setAt,hk,lk,if_true,set_set]
   split <;> rfl
   simp at x9
  unfold Oper.wp
  rw[O8,Oper.upon_skip]
  exact⟨_,Pb,Kb,F2,hK,MN,fun _ h=>h,fun _ h=>h,fun _ h=>.inl h,⟨y8.os,y8.tape,y8.output,by rw[y8.size];omega,fun x hx=>y8.Nk x (fun c=>hg (c ▸ hx)),y8.shape⟩⟩
  exact hp.elim
  exact hp.elim
end
theorem Iq{xs ys:List V}{j sz g o c:Nat}{x x' v:V}{p:List Nat}(h:xs[j]? =some x)(hx:V.set x p v=x')(e:xs.set j x'=ys):V.set (.own sz xs g o c) (j::p) v=.own sz ys g o c:=by simp only[V.set,h,hx,e]
section
variable {P:Program}
def sdC(n:Nat)(l h m:Int):Cu P where
 X:=Unit
 pre N o A:=match o.op,o.dst with
  | .slice T x (some lo) (some hi) (some mx),some d=>match tD P T,Nat.blt d N with
    | some (.sl e),true=>match ti P e,A.ev x with
      | some _,.hd _ _ _ _ _ _ n' _=>A.ev lo=.lit (.int .i64 l)/\A.ev hi=.lit (.int .i64 h)/\A.ev mx=.lit (.int .i64 m)/\n'=n/\0<=l/\l<=h/\h<=m/\m<=n
      | _,_=>False
    | _,_=>False
  | _,_=>False
 post _ o A:=A.put o.dst .a8
 ok:=by
  rintro N ⟨dst,op,ty,pos,after,D2⟩ A K-hp hK
  replace hK:=hK ()
  simp only at hp hK
  split at hp
  rename_i T x lo hi mx d
  split at hp
  rename_i e e1 e2
  split at hp
  rename_i t r p sz g q MQ n' c e3 e4
  obtain⟨h1,h2,h3,rfl,k1,k2,k3,k4⟩:=hp
  refine fO (v:=.a8) rfl (bG e2) hK fun Pb Kb a w F hs=>?_
  obtain⟨_,hx⟩:=dH hs x
  rw[e4]at hx
  obtain⟨_,hle,B,hv,hB⟩:=hx
  have hv:a.eval x=.slice B n' c:=(List.cons.inj hv).1
  have b1:=bY hs h1
  have b2:=bY hs h2
  have b3:=bY hs h3
  refine⟨.slice (if m.toNat=l.toNat then B else B.map (·.add (l.toNat*t.sz))) (h.toNat-l.toNat) (m.toNat-l.toNat),?_,rfl⟩
  have q1:(Instr.sliceBounds true n' c (some (.int .i64 l)) (some (.int .i64 h)) (some (.int .i64 m))).run P w=.ok (l.toNat,h.toNat,m.toNat) w:=by
   simp only[Instr.sliceBounds,Instr.sliceBound,asIntOf,Y4,Y5,YW]
   rw[if_pos Z9]
   simp only[Y5,YW]
   rw[if_pos Z9]
   simp only[Y5,YW]
   rw[if_pos Z9]
   simp only[Y5,YW]
  simp only[execOp,Option.map_some,Instr.sliceAt,Instr.slice,Y4,aF (iy e1),YW,hv,b1,b2,b3,q1,cQ e3,Y5]
  exact hp.elim
  exact hp.elim
  exact hp.elim
def sbC(k:Nat)(p:List Nat)(sz:Nat)(xs:List V)(g q c n g1 o1:Nat)(l h:Nat):Cu P where
 X:=Unit
 pre N o A:=match o.op,o.dst with
  | .slice T x (some lo) (some hi) none,some d=>match tD P T,Nat.blt d N with
    | some (.sl e),true=>match ti P e with
      | some t=>A.ev x=.hd (.key k) p sz g q 0 n c/\A.at (.key k) p=some (g1,o1,.own sz xs g q c)/\A.ev lo=.lit (.int .i64 (l:Int))/\A.ev hi=.lit (.int .i64 (h:Int))/\sz=t.sz/\l<=h/\h<=xs.length
      | none=>False
    | _,_=>False
  | _,_=>False
 post _ o A:=A.put o.dst (.hd (.key k) p sz g q l (h-l) (c-l))
 ok:=by
  rintro N ⟨dst,op,ty,pos,after,D2⟩ A K-hp hK
  replace hK:=hK ()
  simp only at hp hK
  split at hp
  rename_i T x lo hi d
  split at hp
  rename_i e e1 e2
  split at hp
  rename_i t e3
  obtain⟨ex,x9,h1,h2,hsz,k1,k2⟩:=hp
  subst hsz
  refine fO (v:=.hd (.key k) p t.sz g q l (h-l) (c-l)) rfl (bG e2) hK fun Pb Kb a w F hs=>?_
  obtain⟨_,hx⟩:=dH hs x
  rw[ex]at hx
  obtain⟨_,hle,B,hv,hB⟩:=hx
  have hv:a.eval x=.slice B n c:=(List.cons.inj hv).1
  have b1:=bY hs h1
  have b2:=bY hs h2
  obtain⟨_,cs,cells,_,L3,_⟩:=iX hs x9
  have hc:xs.length<=c:=by
   rcases L3 with ⟨_,rfl,_⟩ | ⟨_,_,h,_⟩
   simp
   exact h
  refine⟨.slice (if c=l then B else B.map (·.add (l*t.sz))) (h-l) (c-l),?_,rfl,Z9,_,rfl,fun h0=>?_⟩
  have q1:(Instr.sliceBounds true n c (some (.int .i64 (l:Int))) (some (.int .i64 (h:Int))) none).run P w=.ok (l,h,c) w:=by
   simp only[Instr.sliceBounds,Instr.sliceBound,asIntOf,Y4,Y5,YW]
   rw[if_pos Z9]
   simp only[Y5,YW]
   rw[if_pos Z9]
   simp only[Y5,YW,Int.toNat_natCast]
  simp only[execOp,Option.map_some,Option.map_none,Instr.sliceAt,Instr.slice,Y4,aF (iy e1),YW,hv,b1,b2,q1,cQ e3,Y5]
  rw[if_neg Z9,hB Z9]
  simp[dQ]
  exact hp.elim
  exact hp.elim
  exact hp.elim
def mfE:Eu P where
 X:=Unit
 pre N o A Sl _:=match o.op,o.dst with
  | .makeFunc fn first x6,some d=>match Nat.blt d N&&Sl.contains d,ja (first.toList.map A.ev),ja (x6.toList.map A.ev) with
    | true,some l1,some l2=>(Value.func fn l1.toArray l2.toArray).oneCell'=true
    | _,_,_=>False
  | _,_=>False
 U o A _ B:=match o.op,o.dst with
   | .makeFunc fn first x6,some d=>match ja (first.toList.map A.ev),ja (x6.toList.map A.ev) with
     | some l1,some l2=>B.put (some d) (.lit (.func fn l1.toArray l2.toArray))
     | _,_=>B
   | _,_=>B
 U0:=by
  rintro N ⟨dst,op,ty,pos,after,D2⟩ A Sl Hl hp fs
  simp only at hp
  split at hp
  rename_i fn first x6 d
  split at hp
  rename_i l1 l2 e1 e2 e3
  simp only[YS,Zm,Zo]at e1
  simp only[e2,e3]
  exact Bs (v:=fun _:Unit=>.lit (.func fn l1.toArray l2.toArray)) e1.2 fs
  exact hp.elim
  exact hp.elim
 ok:=by
  rintro N ⟨dst,op,ty,pos,after,D2⟩ A A' Sl Hl hg hp hA hR
  simp only at hp
  split at hp
  rename_i fn first x6 d
  split at hp
  rename_i l1 l2 e1 e2 e3
  simp only[YS]at e1
  have q1:first.toList.map A'.ev=first.toList.map A.ev:=List.map_congr_left fun x hx=>bu fun t ht=>hA t (by subst ht;simp[Op.operands];left;simpa using hx)
  have q2:x6.toList.map A'.ev=x6.toList.map A.ev:=List.map_congr_left fun x hx=>bu fun t ht=>hA t (by subst ht;simp[Op.operands];right;simpa using hx)
  refine(RW (P:=P)).ok hg ?_ fun _=>⟨(),?_⟩
  simp only[RW,q1,q2,e1.1,e2,e3];exact hp
  simp only[RW,q1,q2,e2,e3]
  exact hp.elim
  exact hp.elim
end
end Go.Proofs.YtbjbamjffkanbaaGreatDoor