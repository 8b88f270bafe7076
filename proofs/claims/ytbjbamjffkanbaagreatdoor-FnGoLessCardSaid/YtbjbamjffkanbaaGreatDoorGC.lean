/-
  Words and walks for the laws of pedlar's seat: what each function of the program computes, and that it does; no conditions beyond those that each statement names.
-/
import Derived.Test.YtbjbamjffkanbaaGreatDoorGB
import Derived.Test.YtbjbamjffkanbaaGreatDoorGA
set_option linter.unusedVariables false
set_option linter.unusedSimpArgs false
set_option linter.unnecessarySimpa false
set_option linter.unusedSectionVars false
namespace Go.Proofs.YtbjbamjffkanbaaGreatDoor
open Go Go.RowKit
set_option maxRecDepth 20000
abbrev ao(p0:List BL):V:=.sl false (p0.map sV)
def pB(b:UInt8):o6 Tryz.prog:=.mk 198 [iN b.toNat] [] True (sV (eY b)) [] (by
 intro _
 have hb:=b.toNat_lt
 refine av (N:=20) (rs:=[.tmp 2]) Tryz.func198
  (.q 1<|.q 1<|.dx 16 [0,1,2,3,4,5,6,7,8,9,10,11,12,13,14,15] [] []<|.q 1<|.q 1<|.q 1<|.q 1<|.q 1<|.q 1<|.q 1<|.q 1<|.q 1<|.q 1<|.q 1<|.q 1<|.q 1<|.q 1<|.q 1<|.q 1<|.q 1<|.nil)
  ((fun v1:BL=>(fun v2:Int=>(((0:Int)<=v2/\(0:Int)<16/\m8 v2)/\((0:Int)<=v2/\(0:Int)<16/\m8 v2)/\m8 (((b.toNat / 16:Nat):Int)+1)/\Sx ((b.toNat / 16:Nat):Int) (((b.toNat / 16)+1:Nat):Int) v1/\(([37]:BL).length+((v1.take ((b.toNat / 16)+1)).drop (b.toNat / 16)).length<=4611686018427387904)/\((0:Int)<=v2/\(0:Int)<16)/\((0:Int)<=v2/\(0:Int)<16)/\m8 (((b.toNat % 16:Nat):Int)+1)/\Sx ((b.toNat % 16:Nat):Int) (((b.toNat % 16)+1:Nat):Int) v1/\((([37]:BL)++((v1.take ((b.toNat / 16)+1)).drop (b.toNat / 16))).length+((v1.take ((b.toNat % 16)+1)).drop (b.toNat % 16)).length<=4611686018427387904)/\Q (sV ((([37]:BL)++((v1.take ((b.toNat / 16)+1)).drop (b.toNat / 16)))++((v1.take ((b.toNat % 16)+1)).drop (b.toNat % 16)))) (sV (eY b)))) (b.toNat:Int)) ([48,49,50,51,52,53,54,55,56,57,65,66,67,68,69,70]:BL)) ?_
 refine⟨by have:=Zh b;omega,by have:=Zh b;omega,by have:=Zh b;omega,by have:=Zh b;unfold Sx;simp;omega,by have:=Zh b;simp;omega,by have:=Zh b;omega,by have:=Zh b;omega,by have:=Zh b;omega,by have:=Zh b;unfold Sx;simp;omega,by have:=Zh b;simp;omega,?_⟩
 unfold Q
 refine Zq sV ?_
 show [37]++(kg.take (b.toNat / 16+1)).drop (b.toNat / 16)++(kg.take (b.toNat % 16+1)).drop (b.toNat % 16)=_
 rw[qE (by simp[kg];omega) 0,qE (by simp[kg];omega) 0];rfl)
def jJ(s:BL):o6 Tryz.prog:=.mk 184 [sV s] [] (s.length<=4611686018427387904) (.tup [sV ((bU s).1),bV ((bU s).2)]) [] (by
 intro hs
 refine av (N:=73) (rs:=[.tmp 2,.tmp 3]) Tryz.func184
  (.q 2<|.q 3<|.br (.q 2<|.nil) (.q 1<|.q 1<|.loop (Nat×BL) (fun (i,o)=>⟨[(0,sV s),(4,sV o),(5,iN i)],[]⟩) (fun (i,o)=>i<=s.length/\o.length<=3*i/\bN s=(bN (s.drop i)).map (o++ ·)) (fun (i,o)=>s.length-i) (fun (i,o)=>.q 4<|.br (.q 5<|.q 4<|.br (.q 10<|.cg (jM (s.getD (i+1) 0))<|.q 7<|.cg (jM (s.getD (i+2) 0))<|.q 2<|.br (.q 2<|.nil) (.dx 12 [0,1,2,3,4,5,6,7,8,9,10,11] [] []<|.q 1<|.q 1<|.q 1<|.q 1<|.c (jM (s.getD (i+1) 0)) []<|.q 1<|.q 1<|.q 1<|.q 1<|.q 1<|.c (jM (s.getD (i+2) 0)) []<|.q 1<|.q 1<|.h (.o4 56 (iN ((dh (s.getD (i+1) 0) (s.getD (i+2) 0)).toNat)))<|.h (.o4 6 (iN ((dh (s.getD (i+1) 0) (s.getD (i+2) 0)).toNat)))<|.q 3<|.q 2<|.c (jV (dh (s.getD (i+1) 0) (s.getD (i+2) 0))) []<|.br (.q 3<|.bs<|.L1 [(dh (s.getD (i+1) 0) (s.getD (i+2) 0))]<|.q 2<|.q 3<|.nil) (.q 2<|.c (pB (dh (s.getD (i+1) 0) (s.getD (i+2) 0))) []<|.q 2<|.q 3<|.nil))) (.q 2<|.c (jV (s.getD i 0)) []<|.br (.q 3<|.bs<|.L1 [(s.getD i 0)]<|.q 2<|.q 3<|.nil) (.q 2<|.c (pB (s.getD i 0)) []<|.q 2<|.q 3<|.nil))) (.q 3<|.nil))))
  ((fun v1:Int=>(fun v2:V=>(Br (s9 v1 60) (Q (.tup [sV [],bV false]) v2) ((∃ x:Nat×BL,match x with | (j6,w4)=>(j6<=s.length/\w4.length<=3*j6/\bN s=(bN (s.drop j6)).map (w4++ ·))/\E (sV s)/\Q (sV []) (sV w4)/\Q (iN 0) (iN j6)/\True)/\∀ x:Nat×BL,match x with | (i,o)=>(i<=s.length/\o.length<=3*i/\bN s=(bN (s.drop i)).map (o++ ·))->(fun v9:Int=>(fun v3:Bool=>(fun v4:Bool=>(fun v5:Int=>(fun v6:V=>(fun v7:Int=>(fun v8:Bool=>Br (r9 (i:Int) v1) (Ix (i:Int) s/\m8 v5/\Ix (i:Int) s/\Br (o9 v5 37) (m8 ((i:Int)+2)/\Gd (v3==false) (m8 ((i:Int)+1))/\Gd (v3==false) (Ix ((i+1:Nat):Int) s)/\Gd (v3==false) ((True)/\(jM (s.getD (i+1) 0)).sm)/\Pk v3 true (v3==false)/\Gd v8 (m8 ((i:Int)+2))/\Gd v8 (Ix v9 s)/\Gd v8 ((True)/\(jM (s.getD (i+2) 0)).sm)/\Pk (v3||v4) true v8/\Br ((v3||v4)||(r9 (cB (s.getD (i+2) 0)) 0)) (Q (.tup [sV [],bV false]) v2) (m8 ((i:Int)+1)/\Ix ((i+1:Nat):Int) s/\(jM (s.getD (i+1) 0)).sm/\(True)/\m8 ((cB (s.getD (i+1) 0))*16)/\m8 ((i:Int)+2)/\Ix v9 s/\(jM (s.getD (i+2) 0)).sm/\(True)/\m8 (((cB (s.getD (i+1) 0))*16)+(cB (s.getD (i+2) 0)))/\(v6=iN ((dh (s.getD (i+1) 0) (s.getD (i+2) 0)).toNat))/\(v6=iN ((dh (s.getD (i+1) 0) (s.getD (i+2) 0)).toNat))/\m8 ((i:Int)+2)/\Px v7/\(jV (dh (s.getD (i+1) 0) (s.getD (i+2) 0))).sm/\(True)/\Br (dV (dh (s.getD (i+1) 0) (s.getD (i+2) 0))) (Px v7/\(True)/\([uN ((dh (s.getD (i+1) 0) (s.getD (i+2) 0)).toNat)]=[(dh (s.getD (i+1) 0) (s.getD (i+2) 0))].map n0)/\(o.length+([(dh (s.getD (i+1) 0) (s.getD (i+2) 0))]:BL).length<=4611686018427387904)/\m8 (v9+1)/\∃ x:Nat×BL,match x with | (b7,l9)=>(b7<=s.length/\l9.length<=3*b7/\bN s=(bN (s.drop b7)).map (l9++ ·))/\(s.length-b7<s.length-i)/\E (sV s)/\Q (sV (o++[(dh (s.getD (i+1) 0) (s.getD (i+2) 0))])) (sV l9)/\Q (iN ((i+2)+1)) (iN b7)/\True) ((pB (dh (s.getD (i+1) 0) (s.getD (i+2) 0))).sm/\(True)/\(o.length+(eY (dh (s.getD (i+1) 0) (s.getD (i+2) 0))).length<=4611686018427387904)/\m8 (v9+1)/\∃ x:Nat×BL,match x with | (b7,l9)=>(b7<=s.length/\l9.length<=3*b7/\bN s=(bN (s.drop b7)).map (l9++ ·))/\(s.length-b7<s.length-i)/\E (sV s)/\Q (sV (o++(eY (dh (s.getD (i+1) 0) (s.getD (i+2) 0))))) (sV l9)/\Q (iN ((i+2)+1)) (iN b7)/\True))) (Px v5/\(jV (s.getD i 0)).sm/\(True)/\Br (dV (s.getD i 0)) (Px v5/\(True)/\([uN ((s.getD i 0).toNat)]=[(s.getD i 0)].map n0)/\(o.length+([(s.getD i 0)]:BL).length<=4611686018427387904)/\m8 ((i:Int)+1)/\∃ x:Nat×BL,match x with | (b7,l9)=>(b7<=s.length/\l9.length<=3*b7/\bN s=(bN (s.drop b7)).map (l9++ ·))/\(s.length-b7<s.length-i)/\E (sV s)/\Q (sV (o++[(s.getD i 0)])) (sV l9)/\Q (iN (i+1)) (iN b7)/\True) ((pB (s.getD i 0)).sm/\(True)/\(o.length+(eY (s.getD i 0)).length<=4611686018427387904)/\m8 ((i:Int)+1)/\∃ x:Nat×BL,match x with | (b7,l9)=>(b7<=s.length/\l9.length<=3*b7/\bN s=(bN (s.drop b7)).map (l9++ ·))/\(s.length-b7<s.length-i)/\E (sV s)/\Q (sV (o++(eY (s.getD i 0)))) (sV l9)/\Q (iN (i+1)) (iN b7)/\True))) (Q (.tup [sV o,bV true]) v2)) ((v3||v4)==false)) (((dh (s.getD (i+1) 0) (s.getD (i+2) 0)).toNat:Nat):Int)) (iV (((cB (s.getD (i+1) 0))*16)+(cB (s.getD (i+2) 0))):V)) (((s.getD i 0).toNat:Nat):Int)) (r9 (cB (s.getD (i+1) 0)) 0)) (z6 v9 v1)) ((i+2:Nat):Int)))) (.tup [sV ((bU s).1),bV ((bU s).2)])) (s.length:Int)) ?_
 refine bI (fun j7=>?_) fun j7=>?_
 unfold Q
 rw[show bU s=([],false) from if_neg Z9]
 refine⟨⟨(0,[]),?_,rfl,rfl,rfl,trivial⟩,?_⟩
 refine⟨Z9,Z8,?_⟩
 cases h:bN s <;> simp[h]
 rintro⟨i,o⟩ ⟨hi,ho,MO⟩
 refine bI (fun l6=>?_) fun l6=>?_
 refine⟨Z9,by have:=Zh (s.getD i 0);omega,Z9,?_⟩
 refine bI (fun n6=>?_) fun n6=>?_
 refine⟨Z9,fun hG=>by(try simp only[nb]at hG);omega,fun hG=>by(try simp only[nb]at hG);omega,fun hG=>⟨trivial,rfl⟩,⟨fun _=>rfl,fun h=>by rw[h] <;> rfl⟩,fun hG=>by(try simp only[nb]at hG);omega,fun hG=>by(try simp only[nb]at hG);omega,fun hG=>⟨trivial,rfl⟩,⟨fun _=>rfl,fun h=>by rw[h] <;> rfl⟩,?_⟩
 refine bI (fun w6=>?_) fun w6=>?_
 unfold Q
 rw[show bU s=([],false) from by unfold bU;rw[MO,yL Z9 Z9 Z9];simp]
 refine⟨Z9,Z9,rfl,trivial,by have:=fL (s.getD (i+1) 0);have:=ik (s.getD (i+1) 0);omega,Z9,Z9,rfl,trivial,by have:=fL (s.getD (i+1) 0);have:=ik (s.getD (i+1) 0);have:=fL (s.getD (i+2) 0);have:=ik (s.getD (i+2) 0);omega,(Zq iV (tL Z9 Z9).symm),(Zq iV (tL Z9 Z9).symm),Z9,by have:=Zh (dh (s.getD (i+1) 0) (s.getD (i+2) 0));omega,rfl,trivial,?_⟩
 refine bI (fun G8=>?_) fun G8=>?_
 refine⟨by have:=Zh (dh (s.getD (i+1) 0) (s.getD (i+2) 0));omega,trivial,rfl,Z3,Z9,?_⟩
 refine⟨((i+2)+1,o++[(dh (s.getD (i+1) 0) (s.getD (i+2) 0))]),?_,?_,rfl,rfl,rfl,trivial⟩
 have he:eK (dh (s.getD (i+1) 0) (s.getD (i+2) 0))=[(dh (s.getD (i+1) 0) (s.getD (i+2) 0))]:=by unfold eK;rw[if_pos G8]
 have hl:=eU (dh (s.getD (i+1) 0) (s.getD (i+2) 0))
 rw[he]at hl
 refine⟨Z9,by rw[YT];omega,?_⟩
 rw[MO,pV Z9 Z9 Z9 Z9,he]
 cases bN (s.drop (i+3)) <;> simp
 exact Z1
 refine⟨rfl,trivial,by have:(eY (dh (s.getD (i+1) 0) (s.getD (i+2) 0))).length=3:=rfl;(try simp only[YT,YV,YY]);omega,Z9,?_⟩
 refine⟨((i+2)+1,o++(eY (dh (s.getD (i+1) 0) (s.getD (i+2) 0)))),?_,?_,rfl,rfl,rfl,trivial⟩
 have he:eK (dh (s.getD (i+1) 0) (s.getD (i+2) 0))=eY (dh (s.getD (i+1) 0) (s.getD (i+2) 0)):=by unfold eK;rw[if_neg (by rw[G8];decide)]
 have hl:=eU (dh (s.getD (i+1) 0) (s.getD (i+2) 0))
 rw[he]at hl
 refine⟨Z9,by rw[YT];omega,?_⟩
 rw[MO,pV Z9 Z9 Z9 Z9,he]
 cases bN (s.drop (i+3)) <;> simp
 exact Z1
 refine⟨by have:=Zh (s.getD i 0);omega,rfl,trivial,?_⟩
 refine bI (fun NK=>?_) fun NK=>?_
 refine⟨by have:=Zh (s.getD i 0);omega,trivial,rfl,Z3,Z9,?_⟩
 refine⟨(i+1,o++[(s.getD i 0)]),?_,?_,rfl,rfl,rfl,trivial⟩
 have he:eK (s.getD i 0)=[(s.getD i 0)]:=by unfold eK;rw[if_pos NK]
 have hl:=eU (s.getD i 0)
 rw[he]at hl
 refine⟨Z9,by rw[YT];omega,?_⟩
 rw[MO,nO Z9 Z9,he]
 cases bN (s.drop (i+1)) <;> simp
 exact Z1
 refine⟨rfl,trivial,by have:(eY (s.getD i 0)).length=3:=rfl;(try simp only[YT,YV,YY]);omega,Z9,?_⟩
 refine⟨(i+1,o++(eY (s.getD i 0))),?_,?_,rfl,rfl,rfl,trivial⟩
 have he:eK (s.getD i 0)=eY (s.getD i 0):=by unfold eK;rw[if_neg (by rw[NK];decide)]
 have hl:=eU (s.getD i 0)
 rw[he]at hl
 refine⟨Z9,by rw[YT];omega,?_⟩
 rw[MO,nO Z9 Z9,he]
 cases bN (s.drop (i+1)) <;> simp
 exact Z1
 unfold Q
 rw[Zc Z9]at MO
 rw[show bU s=(o,true) from by unfold bU;rw[MO,if_pos Z9];simp[bN]])
def pC(s:BL):o6 Tryz.prog:=.mk 164 [sV s] [] (s.length<=4611686018427387904) (bV (eW s)) [] (by
 intro hs
 refine av (N:=16) (rs:=[.tmp 2]) Tryz.func164
  (.q 1<|.q 1<|.c (jJ s) []<|.q 5<|.q 7<|.nil)
  ((jJ s).sm/\((s.length<=4611686018427387904))/\Pk ((bU s).2) (((bU s).2)==true) true/\Q (bV (((bU s).2)&&(((bU s).1)==s))) (bV (eW s))) ?_
 refine⟨rfl,Z5,⟨fun h=>by rw[h] <;> rfl,fun _=>rfl⟩,?_⟩
 unfold Q
 rfl)
abbrev jr(s:BL)(c:UInt8)(o:List BL)(r:BL)(m:Bool)(g:Nat)(f:Nat)(k:Nat):Prop:=(m=true->ah c s=o++ah c r)/\(m=false->ah c s=o)/\o.length+r.length<=s.length+cond m 0 1/\r.length<=s.length
def xb(s:BL)(c:UInt8):o6 Tryz.prog:=.mk 183 [sV s,uN c.toNat] [] (s.length<=1099511627776) (ao (ah c s)) [] (by
 intro hs
 refine av (N:=24) (rs:=[.tmp 4]) Tryz.func183
  (.q 1<|.bs<|.q 1<|.q 2<|.q 1<|.h (.H7 5 1)<|.loop ((List BL)×BL×Bool×Nat×Nat×Nat) (fun (o,r,m,g,f,k)=>⟨[(0,sV s),(1,uN c.toNat),(5,.own 1 (o.map sV) g f k),(6,sV r),(7,bV m)],[]⟩) (fun (o,r,m,g,f,k)=>jr s c o r m g f k) (fun (o,r,m,g,f,k)=>cond m (r.length+1) 0) (fun (o,r,m,g,f,k)=>.q 1<|.br (.q 1<|.q 2<|.c (mM r c) []<|.q 7<|.q 2<|.bs<|.ap (fun g22 SF Tx=>.h (.o4 22 (.own 1 ((o++[(ae c r).1]).map sV) g22 SF Tx))<|.q 1<|.nil)) (.h (.fz 5)<|.h (.o4 5 (ao o))<|.q 2<|.nil)))
  ((∃ x:(List BL)×BL×Bool×Nat×Nat×Nat,match x with | (w4,J8,NX,B6,A5,s7)=>(jr s c w4 J8 NX B6 A5 s7)/\E (sV s)/\E (uN c.toNat)/\Q (.own 1 ([].map sV) 0 0 0) (.own 1 (w4.map sV) B6 A5 s7)/\Q (sV s) (sV J8)/\Q (bV true) (bV NX)/\True)/\∀ x:(List BL)×BL×Bool×Nat×Nat×Nat,match x with | (o,r,m,g,f,k)=>(jr s c o r m g f k)->(fun v1:List V=>Br m ((mM r c).sm/\((r.length<=4611686018427387904))/\((1,1,g,f,k,(o.map sV).length)=(1,1,g,f,k,(o.map sV).length))/\(True)/\(V.aE v1=false)/\(aJ 1 v1)/\(((o.map sV).length+v1.length)*16<=140737488355328)/\∀ g22 SF Tx:Nat,((.own 1 ((o.map sV)++v1) g22 SF Tx:V)=.own 1 ((o++[(ae c r).1]).map sV) g22 SF Tx)/\∃ x:(List BL)×BL×Bool×Nat×Nat×Nat,match x with | (l9,w7,m₂,s5,r4,k₂)=>(jr s c l9 w7 m₂ s5 r4 k₂)/\(cond m₂ (w7.length+1) 0<cond m (r.length+1) 0)/\E (sV s)/\E (uN c.toNat)/\Q (.own 1 ((o++[(ae c r).1]).map sV) g22 SF Tx) (.own 1 (l9.map sV) s5 r4 k₂)/\Q (sV ((ae c r).2.1)) (sV w7)/\Q (bV ((ae c r).2.2)) (bV m₂)/\True) (((.sl false (V.B8 (o.map sV)):V)=ao o)/\Q (ao o) (ao (ah c s)))) ([sV ((ae c r).1)]:List V)) ?_
 refine⟨⟨([],s,true,0,0,0),?_,rfl,rfl,rfl,rfl,rfl,trivial⟩,?_⟩
 unfold jr
 simp
 rintro⟨o,r,m,g,f,k⟩ ⟨h1,h2,h3,h4⟩
 refine bI (fun j7=>?_) fun j7=>?_
 refine⟨rfl,Z5,rfl,trivial,rfl,by simp[aJ,V.n,V.ns],by rw[j7]at h3;simp at h3 ⊢;omega,?_⟩
 intro g22 SF Tx
 refine⟨Zq (V.own 1 · g22 SF Tx) Z8,?_⟩
 refine⟨(o++[(ae c r).1],(ae c r).2.1,(ae c r).2.2,g22,SF,Tx),?_,?_,rfl,rfl,rfl,rfl,rfl,trivial⟩
 unfold jr
 have hl:=zu c r
 subst j7
 have h1:=h1 rfl
 rw[vr c r]at h1
 have hle:=lN c r
 refine⟨fun hm=>?_,fun hm=>?_,?_,Z9⟩
 rw[h1,hm];simp
 rw[h1,hm];simp
 simp only[YT,YV,YY];cases hm:(ae c r).2.2 <;> simp[hm]at hl h3 ⊢ <;> omega
 have:=zu c r
 subst j7
 cases hm:(ae c r).2.2 <;> simp[hm]at this ⊢;omega
 refine⟨Zq (V.sl false) (aM (fun _=>rfl) _),?_⟩
 unfold Q
 rw[h2 j7])
def sU(ps:List BL):o6 Tryz.prog:=.mk 185 [ao ps] [] (ps.length<=1099511627776) (ao (bX ps)) [] (by
 intro hs
 refine av (N:=45) (rs:=[.tmp 2]) Tryz.func185
  (.q 1<|.bs<|.q 1<|.q 1<|.h (.H7 3 1)<|.loop (Nat×(List BL)×Nat×Nat×Nat) (fun (i,o,g,f,k)=>⟨[(0,ao ps),(3,.own 1 (o.map sV) g f k),(4,iN i)],[]⟩) (fun (i,o,g,f,k)=>i<=ps.length/\o=bX (ps.take i)/\o.length<=i) (fun (i,o,g,f,k)=>ps.length-i) (fun (i,o,g,f,k)=>.q 4<|.br (.r 13 [sV (ps.getD i []),sV (ps.getD i [])]<|.br (.q 3<|.nil) (.r 6 [sV (ps.getD i [])]<|.br (.q 4<|.mm<|.q 1<|.rs<|.h (.o4 3 (.own 1 (o.dropLast.map sV) g (f+(0+((0:Int).toNat))*1) (k-((0:Int).toNat))))<|.q 3<|.nil) (.r 5 [sV (ps.getD i [])]<|.bs<|.ap (fun g18 SG Ty=>.h (.o4 18 (.own 1 ((o++[(ps.getD i [])]).map sV) g18 SG Ty))<|.q 1<|.q 3<|.nil)))) (.h (.fz 3)<|.h (.o4 3 (ao o))<|.q 2<|.nil)))
  ((∃ x:Nat×(List BL)×Nat×Nat×Nat,match x with | (j6,w4,B6,A5,s7)=>(j6<=ps.length/\w4=bX (ps.take j6)/\w4.length<=j6)/\E (ao ps)/\Q (.own 1 ([].map sV) 0 0 0) (.own 1 (w4.map sV) B6 A5 s7)/\Q (iN 0) (iN j6)/\True)/\∀ x:Nat×(List BL)×Nat×Nat×Nat,match x with | (i,o,g,f,k)=>(i<=ps.length/\o=bX (ps.take i)/\o.length<=i)->(fun v1:Int=>(fun v2:List V=>(fun v3:Bool=>(fun v4:V=>Br (r9 (i:Int) (((ps.map sV).length:Nat):Int)) (Ex (i:Int) (ps.map sV) v4/\True/\Gd v3 (Ex (i:Int) (ps.map sV) v4)/\Gd v3 True/\Pk ((ps.getD i [])==[]) true v3/\Br (((ps.getD i [])==[])||((ps.getD i [])==([46]:BL))) (m8 ((i:Int)+1)/\∃ x:Nat×(List BL)×Nat×Nat×Nat,match x with | (b7,l9,s5,r4,k₂)=>(b7<=ps.length/\l9=bX (ps.take b7)/\l9.length<=b7)/\(ps.length-b7<ps.length-i)/\E (ao ps)/\Q (.own 1 (o.map sV) g f k) (.own 1 (l9.map sV) s5 r4 k₂)/\Q (iN (i+1)) (iN b7)/\True) (Ex (i:Int) (ps.map sV) v4/\True/\Br ((ps.getD i [])==([46,46]:BL)) (m8 (v1-1)/\(IntKind.i64=IntKind.i64)/\((0:Int)<=(0:Int)/\(0:Int)<=(max (v1-1) 0)/\(max (v1-1) 0)<=((o.map sV).length)/\1=1)/\((3,1,g,f)=(3,1,g,f))/\((0+((0:Int).toNat))+((Int.toNat (max (v1-1) 0))-((0:Int).toNat))<=(o.map sV).length/\(0+((0:Int).toNat))+(k-((0:Int).toNat))<=k/\V.aE (o.map sV)=false)/\((.own 1 (((o.map sV).drop (0+((0:Int).toNat))).take ((Int.toNat (max (v1-1) 0))-((0:Int).toNat))) g (f+(0+((0:Int).toNat))*1) (k-((0:Int).toNat)):V)=.own 1 (o.dropLast.map sV) g (f+(0+((0:Int).toNat))*1) (k-((0:Int).toNat)))/\m8 ((i:Int)+1)/\∃ x:Nat×(List BL)×Nat×Nat×Nat,match x with | (b7,l9,s5,r4,k₂)=>(b7<=ps.length/\l9=bX (ps.take b7)/\l9.length<=b7)/\(ps.length-b7<ps.length-i)/\E (ao ps)/\Q (.own 1 (o.dropLast.map sV) g (f+(0+((0:Int).toNat))*1) (k-((0:Int).toNat))) (.own 1 (l9.map sV) s5 r4 k₂)/\Q (iN (i+1)) (iN b7)/\True) (Ex (i:Int) (ps.map sV) v4/\True/\((1,1,g,f,k,(o.map sV).length)=(1,1,g,f,k,(o.map sV).length))/\(True)/\(V.aE v2=false)/\(aJ 1 v2)/\(((o.map sV).length+v2.length)*16<=140737488355328)/\∀ g18 SG Ty:Nat,((.own 1 ((o.map sV)++v2) g18 SG Ty:V)=.own 1 ((o++[(ps.getD i [])]).map sV) g18 SG Ty)/\m8 ((i:Int)+1)/\∃ x:Nat×(List BL)×Nat×Nat×Nat,match x with | (b7,l9,s5,r4,k₂)=>(b7<=ps.length/\l9=bX (ps.take b7)/\l9.length<=b7)/\(ps.length-b7<ps.length-i)/\E (ao ps)/\Q (.own 1 ((o++[(ps.getD i [])]).map sV) g18 SG Ty) (.own 1 (l9.map sV) s5 r4 k₂)/\Q (iN (i+1)) (iN b7)/\True))) (((.sl false (V.B8 (o.map sV)):V)=ao o)/\Q (ao o) (ao (bX ps)))) (sV (ps.getD i []))) (((ps.getD i [])==[])==false)) ([sV (ps.getD i [])]:List V)) (((o.map sV).length:Nat):Int)) ?_
 refine⟨⟨(0,[],0,0,0),?_,rfl,rfl,rfl,trivial⟩,?_⟩
 simp[bX]
 rintro⟨i,o,g,f,k⟩ ⟨h1,h2,h3⟩
 refine bI (fun j7=>?_) fun j7=>?_
 refine⟨⟨Z9,aj (d:=[]) Z9⟩,trivial,fun hG=>⟨Z9,aj (d:=[]) Z9⟩,fun hG=>trivial,⟨fun _=>rfl,fun h=>by rw[h] <;> rfl⟩,?_⟩
 refine bI (fun l6=>?_) fun l6=>?_
 refine⟨Z9,?_⟩
 refine⟨(i+1,o,g,f,k),?_,?_,rfl,rfl,rfl,trivial⟩
 refine⟨Z9,?_,Z9⟩
 rw[gW Z9,<- h2,cR,if_pos l6]
 exact Z1
 refine⟨⟨Z9,aj (d:=[]) Z9⟩,trivial,?_⟩
 refine bI (fun n6=>?_) fun n6=>?_
 refine⟨Z2,rfl,⟨Z9,Z9,Z9,rfl⟩,rfl,⟨by simp <;> omega,Z8,cN (fun _=>rfl) _⟩,Zq (V.own 1 · g (f+(0+((0:Int).toNat))*1) (k-((0:Int).toNat))) (by rw[show (0+Int.toNat 0)=0 from rfl,List.drop_zero,<- List.map_take,List.dropLast_eq_take];congr 2;simp;omega),Z9,?_⟩
 refine⟨(i+1,o.dropLast,g,f+(0+((0:Int).toNat))*1,k-((0:Int).toNat)),?_,?_,rfl,rfl,rfl,trivial⟩
 refine⟨Z9,?_,Z0⟩
 rw[gW Z9,<- h2,cR,if_neg (by simpa using l6),if_pos n6]
 exact Z1
 refine⟨⟨Z9,aj (d:=[]) Z9⟩,trivial,rfl,trivial,rfl,by simp[aJ,V.n,V.ns],Z0,?_⟩
 intro g18 SG Ty
 refine⟨Zq (V.own 1 · g18 SG Ty) Z8,Z9,?_⟩
 refine⟨(i+1,o++[(ps.getD i [])],g18,SG,Ty),?_,?_,rfl,rfl,rfl,trivial⟩
 refine⟨Z9,?_,Z0⟩
 rw[gW Z9,<- h2,cR,if_neg (by simpa using l6),if_neg n6]
 exact Z1
 refine⟨Zq (V.sl false) (aM (fun _=>rfl) _),?_⟩
 unfold Q
 rw[h2,Y3 Z9])
abbrev bF(p0:BL)(p1:List BL)(p2:Bool)(p3:BL):V:=.agg [sV p0,.sl false (p1.map sV),bV p2,sV p3]
def zJ(a:r8):o6 Tryz.prog:=.mk 165 [bF a.c5 a.b9 a.asks a.ask] [] (dZ a) (sV (bj a)) [] (by
 intro ha
 obtain⟨z1,z2,z3,z4⟩:=ha
 refine av (N:=31) (rs:=[.tmp 2]) Tryz.func165
  (.bx (fun g1=>.q 1<|.q 1<|.q 1<|.loop (Nat×BL) (fun (i,o)=>⟨[(1,.ptr (.key 1) [] g1 0),(3,sV o),(4,iN i)],[(1,(g1,bF a.c5 a.b9 a.asks a.ask))]⟩) (fun (i,o)=>i<=a.b9.length/\o=[47]++ck (a.b9.take i)) (fun (i,o)=>a.b9.length-i) (fun (i,o)=>.r 5 [.a8]<|.br (.q 2<|.br (.q 3<|.r 8 [.a8,sV (a.b9.getD i [])]<|.q 3<|.nil) (.r 8 [.a8,sV (a.b9.getD i [])]<|.q 3<|.nil)) (.r 2 [.a8]<|.br (.r 6 [.a8]<|.q 2<|.nil) (.q 2<|.nil)))))
  ((fun v1:V=>(fun v2:BL=>(∀ g1:Nat,(∃ x:Nat×BL,match x with | (j6,w4)=>(j6<=a.b9.length/\w4=[47]++ck (a.b9.take j6))/\E (.ptr (.key 1) [] g1 0)/\Q (sV v2) (sV w4)/\Q (iN 0) (iN j6)/\Er g1 v1/\True)/\∀ x:Nat×BL,match x with | (i,o)=>(i<=a.b9.length/\o=[47]++ck (a.b9.take i))->Z g1 1/\Br (r9 (i:Int) (((a.b9.map sV).length:Nat):Int)) (Br (s9 (i:Int) 0) ((o.length+v2.length<=4611686018427387904)/\Z g1 1/\Ex (i:Int) (a.b9.map sV) (sV (a.b9.getD i []))/\True/\((o++v2).length+(a.b9.getD i []).length<=4611686018427387904)/\m8 ((i:Int)+1)/\∃ x:Nat×BL,match x with | (b7,l9)=>(b7<=a.b9.length/\l9=[47]++ck (a.b9.take b7))/\(a.b9.length-b7<a.b9.length-i)/\E (.ptr (.key 1) [] g1 0)/\Q (sV ((o++v2)++(a.b9.getD i []))) (sV l9)/\Q (iN (i+1)) (iN b7)/\Er g1 v1/\True) (Z g1 1/\Ex (i:Int) (a.b9.map sV) (sV (a.b9.getD i []))/\True/\(o.length+(a.b9.getD i []).length<=4611686018427387904)/\m8 ((i:Int)+1)/\∃ x:Nat×BL,match x with | (b7,l9)=>(b7<=a.b9.length/\l9=[47]++ck (a.b9.take b7))/\(a.b9.length-b7<a.b9.length-i)/\E (.ptr (.key 1) [] g1 0)/\Q (sV (o++(a.b9.getD i []))) (sV l9)/\Q (iN (i+1)) (iN b7)/\Er g1 v1/\True)) (Z g1 2/\Br a.asks ((o.length+([63]:BL).length<=4611686018427387904)/\Z g1 3/\((o++([63]:BL)).length+a.ask.length<=4611686018427387904)/\Q (sV ((o++([63]:BL))++a.ask)) (sV (bj a))) (Q (sV o) (sV (bj a)))))) ([47]:BL)) (bF a.c5 a.b9 a.asks a.ask)) ?_
 intro g1
 refine⟨⟨(0,[47]),?_,rfl,Z4,rfl,rfl,trivial⟩,?_⟩
 simp[ck]
 rintro⟨i,o⟩ ⟨h1,h2⟩
 have hl:=qU z4 i h1
 have S1:o.length<=1+i*1048577:=by rw[h2];simp;omega
 have XV:=z4 i
 refine⟨rfl,?_⟩
 refine bI (fun j7=>?_) fun j7=>?_
 refine bI (fun l6=>?_) fun l6=>?_
 refine⟨Z3,rfl,⟨Z9,aj (d:=[]) Z9⟩,trivial,Z3,Z9,?_⟩
 refine⟨(i+1,(o++([47]:BL))++(a.b9.getD i [])),?_,?_,rfl,rfl,rfl,rfl,trivial⟩
 refine⟨Z9,?_⟩
 rw[h2,bg (by omega:i<a.b9.length) [],mi,if_neg (by intro h;have:=Zq List.length h;simp only[List.length_take,YY]at this;omega)]
 simp[List.append_assoc]
 exact Z1
 refine⟨rfl,⟨Z9,aj (d:=[]) Z9⟩,trivial,Z3,Z9,?_⟩
 refine⟨(i+1,o++(a.b9.getD i [])),?_,?_,rfl,rfl,rfl,rfl,trivial⟩
 refine⟨Z9,?_⟩
 have hi0:i=0:=Z9
 subst hi0
 rw[h2,bg (by omega:0<a.b9.length) []];simp[ck]
 exact Z1
 refine⟨rfl,?_⟩
 refine bI (fun n6=>?_) fun n6=>?_
 refine⟨Z3,rfl,Z3,?_⟩
 unfold Q
 refine Zq sV ?_
 rw[h2,Y3 Z9]
 unfold bj;rw[if_pos n6];simp[List.append_assoc]
 unfold Q
 refine Zq sV ?_
 rw[h2,Y3 Z9]
 unfold bj;rw[if_neg (by rw[n6];decide)];simp)
def qv(a:r8):o6 Tryz.prog:=.mk 135 [bF a.c5 a.b9 a.asks a.ask] [] (dZ a) (sV (cJ a)) [] (by
 intro ha
 have hp:=Ei ha
 have h1:=ha.1
 refine av (N:=9) (rs:=[.tmp 2]) Tryz.func135
  (.bx (fun g1=>.q 1<|.dx 6 [0,1,2,3,4,5] [(1,⟨false,[],some [1],[4],[]⟩),(3,⟨false,[],some [1],[6],[]⟩)] []<|.q 1<|.r 1 [.a8]<|.q 1<|.r 1 [.a8]<|.c (zJ a) []<|.q 1<|.q 1<|.nil))
  (∀ g1:Nat,Z g1 0/\(([47,47]:BL).length+a.c5.length<=4611686018427387904)/\Z g1 0/\(zJ a).sm/\((dZ a))/\((([47,47]:BL)++a.c5).length+(bj a).length<=4611686018427387904)/\Q (sV ((([47,47]:BL)++a.c5)++(bj a))) (sV (cJ a))) ?_
 intro g1
 refine⟨rfl,Z3,rfl,rfl,by first | assumption | exact uq _ | simp_all,Z3,?_⟩
 unfold Q
 rfl)
def pJ(a:r8):o6 Tryz.prog:=.mk 134 [bF a.c5 a.b9 a.asks a.ask] [] (dZ a) (bV (aG a)) [] (by
 intro ha
 obtain⟨z1,z2,z3,z4⟩:=id ha
 refine av (N:=72) (rs:=[.tmp 2]) Tryz.func134
  (.bx (fun g1=>.q 1<|.r 2 [.a8]<|.c (xq a.c5) []<|.r 10 [.a8,.a8]<|.cg (pC a.ask)<|.r 12 [.a8,.a8]<|.br (.q 1<|.nil) (.q 1<|.loop (Nat) (fun (i:Nat)=>⟨[(1,.ptr (.key 1) [] g1 0),(3,iN i)],[(1,(g1,bF a.c5 a.b9 a.asks a.ask))]⟩) (fun (i:Nat)=>i<=a.b9.length/\∀ j,j<i->ej (a.b9.getD j [])=true) (fun (i:Nat)=>a.b9.length-i) (fun (i:Nat)=>.r 5 [.a8]<|.br (.r 5 [.a8,sV (a.b9.getD i [])]<|.c (pC (a.b9.getD i [])) []<|.r 25 [.a8,sV (a.b9.getD i []),.a8,sV (a.b9.getD i []),.a8,sV (a.b9.getD i [])]<|.br (.q 1<|.nil) (.q 3<|.nil)) (.r 1 [.a8]<|.c (qv a) []<|.q 3<|.nil)))))
  ((fun v1:Bool=>(fun v3:Bool=>(fun v2:Bool=>(fun v4:BL=>(∀ g1:Nat,Z g1 0/\(xq a.c5).sm/\((a.c5.length<=4611686018427387904))/\Gd (v3==false) (Z g1 1)/\Pk v3 true (v3==false)/\Gd ((v3||v1)==false) (Z g1 3)/\Gd ((v3||v1)==false) (((a.ask.length<=4611686018427387904))/\(pC a.ask).sm)/\Pk (v3||v1) true ((v3||v1)==false)/\Gd v2 (Z g1 2)/\Gd (v2&&((!a.asks)==true)) (Z g1 3)/\Gd v2 (Pk (!a.asks) (v2&&((!a.asks)==true)) true)/\Pk ((v3||v1)||(!(eW a.ask))) true v2/\Br (((v3||v1)||(!(eW a.ask)))||((!a.asks)&&(!(a.ask==[])))) (Q (bV false) (bV (aG a))) ((∃ j6:Nat,(j6<=a.b9.length/\∀ j,j<j6->ej (a.b9.getD j [])=true)/\E (.ptr (.key 1) [] g1 0)/\Q (iN 0) (iN j6)/\Er g1 (bF a.c5 a.b9 a.asks a.ask)/\True)/\∀ i:Nat,(i<=a.b9.length/\∀ j,j<i->ej (a.b9.getD j [])=true)->(fun v5:Bool=>(fun v6:Bool=>(fun v7:Bool=>(fun v8:V=>Z g1 1/\Br (r9 (i:Int) (((a.b9.map sV).length:Nat):Int)) (Z g1 1/\Ex (i:Int) (a.b9.map sV) v8/\True/\(pC (a.b9.getD i [])).sm/\(((a.b9.getD i []).length<=4611686018427387904))/\Gd (v5==false) (Z g1 1)/\Gd (v5==false) (Ex (i:Int) (a.b9.map sV) v8)/\Gd (v5==false) True/\Pk v5 true (v5==false)/\Gd v7 (Z g1 1)/\Gd v7 (Ex (i:Int) (a.b9.map sV) v8)/\Gd v7 True/\Pk (v5||((a.b9.getD i [])==[])) true v7/\Gd v6 (Z g1 1)/\Gd v6 (Ex (i:Int) (a.b9.map sV) v8)/\Gd v6 True/\Pk ((v5||((a.b9.getD i [])==[]))||((a.b9.getD i [])==v4)) true v6/\Br (((v5||((a.b9.getD i [])==[]))||((a.b9.getD i [])==v4))||((a.b9.getD i [])==([46,46]:BL))) (Q (bV false) (bV (aG a))) (m8 ((i:Int)+1)/\∃ b7:Nat,(b7<=a.b9.length/\∀ j,j<b7->ej (a.b9.getD j [])=true)/\(a.b9.length-b7<a.b9.length-i)/\E (.ptr (.key 1) [] g1 0)/\Q (iN (i+1)) (iN b7)/\Er g1 (bF a.c5 a.b9 a.asks a.ask)/\True)) (Z g1 0/\(qv a).sm/\((dZ a))/\Q (bV (D1 (((cJ a).length:Nat):Int) 60)) (bV (aG a)))) (sV (a.b9.getD i []))) ((v5||((a.b9.getD i [])==[]))==false)) (((v5||((a.b9.getD i [])==[]))||((a.b9.getD i [])==v4))==false)) (!(eW (a.b9.getD i [])))))) ([46]:BL)) (((v3||v1)||(!(eW a.ask)))==false)) (!(cM a.c5))) (s9 (((a.b9.map sV).length:Nat):Int) 5)) ?_
 intro g1
 refine⟨rfl,rfl,Z5,fun hG=>rfl,⟨fun _=>rfl,fun h=>by rw[h] <;> rfl⟩,fun hG=>rfl,fun hG=>⟨by(try simp only[nb]at hG);first | assumption | omega | (simp;omega),rfl⟩,⟨fun _=>rfl,fun h=>by rw[h] <;> rfl⟩,fun hG=>rfl,fun hG=>rfl,fun hG=>⟨fun h=>by rw[h];exact(YS _ _).mpr ⟨hG,rfl⟩,fun _=>rfl⟩,⟨fun _=>rfl,fun h=>by rw[h] <;> rfl⟩,?_⟩
 refine bI (fun j7=>?_) fun j7=>?_
 unfold Q
 refine Zq bV ?_
 unfold aG
 grind
 refine⟨⟨0,?_,rfl,rfl,rfl,trivial⟩,?_⟩
 simp
 rintro i ⟨h1,h2⟩
 have XV:=z4 i
 refine⟨rfl,?_⟩
 refine bI (fun l6=>?_) fun l6=>?_
 refine⟨rfl,⟨Z9,aj (d:=[]) Z9⟩,trivial,rfl,Z5,fun hG=>rfl,fun hG=>⟨Z9,aj (d:=[]) Z9⟩,fun hG=>trivial,⟨fun _=>rfl,fun h=>by rw[h] <;> rfl⟩,fun hG=>rfl,fun hG=>⟨Z9,aj (d:=[]) Z9⟩,fun hG=>trivial,⟨fun _=>rfl,fun h=>by rw[h] <;> rfl⟩,fun hG=>rfl,fun hG=>⟨Z9,aj (d:=[]) Z9⟩,fun hG=>trivial,⟨fun _=>rfl,fun h=>by rw[h] <;> rfl⟩,?_⟩
 refine bI (fun n6=>?_) fun n6=>?_
 unfold Q
 refine Zq bV ?_
 unfold aG
 rw[all_false (i:=i) (d:=[]) Z9 (by simp only[ej];grind)];simp
 refine⟨Z9,?_⟩
 refine⟨i+1,?_,?_,rfl,rfl,rfl,trivial⟩
 refine⟨Z9,bS h2 ?_⟩
 simp only[ej];grind
 exact Z1
 refine⟨rfl,rfl,by first | assumption | exact uq _ | simp_all,?_⟩
 unfold Q
 refine Zq bV ?_
 unfold aG
 rw[all_true (d:=[]) (fun j hj=>h2 j Z9)]
 grind)
def js(a:r8):o6 Tryz.prog:=.mk 97 [bF a.c5 a.b9 a.asks a.ask] [] (dZ a) (sV (if aG a=true then cJ a else [])) [] (by
 intro ha
 refine av (N:=8) (rs:=[.tmp 2]) Tryz.func97
  (.bx (fun g1=>.q 1<|.r 1 [.a8]<|.c (pJ a) []<|.q 1<|.br (.q 1<|.nil) (.r 1 [.a8]<|.c (qv a) []<|.q 1<|.nil)))
  (∀ g1:Nat,Z g1 0/\(pJ a).sm/\((dZ a))/\Br (!(aG a)) (Q (sV []) (sV (if aG a=true then cJ a else []))) (Z g1 0/\(qv a).sm/\((dZ a))/\Q (sV (cJ a)) (sV (if aG a=true then cJ a else [])))) ?_
 intro g1
 refine⟨rfl,rfl,by first | assumption | exact uq _ | simp_all,?_⟩
 refine bI (fun j7=>?_) fun j7=>?_
 unfold Q
 rw[if_neg (by rw[j7];decide)]
 refine⟨rfl,rfl,by first | assumption | exact uq _ | simp_all,?_⟩
 unfold Q
 rw[if_pos j7])
def nY(s:BL):o6 Tryz.prog:=.mk 162 [sV s] [] (s.length<=1099511627776) (sV (aT s)) [] (by
 intro hs
 refine av (N:=35) (rs:=[.tmp 2]) Tryz.func162
  (.q 1<|.q 1<|.sb s (fun g6 c6=>.q 1<|.q 1<|.loop (Nat×BL×Nat×Nat) (fun (i,l,g,k)=>⟨[(3,.own 1 (l.map n0) g 0 k),(4,iN i)],[]⟩) (fun (i,l,g,k)=>i<=s.length/\l.length=s.length/\l=aT (s.take i)++s.drop i) (fun (i,l,g,k)=>s.length-i) (fun (i,l,g,k)=>.q 4<|.br (.r 12 [uN ((l.getD i 0).toNat),uN ((l.getD i 0).toNat)]<|.br (.r 8 [uN ((l.getD i 0).toNat)]<|.h (.o4 31 (uN ((dM (l.getD i 0)).toNat)))<|.st (some (uN ((l.getD i 0).toNat)))<|.h (.o4 3 (.own 1 ((l.set i (dM (l.getD i 0))).map n0) g 0 k))<|.q 3<|.nil) (.q 3<|.nil)) (.q 1<|.L1 l<|.q 1<|.nil))))
  (((sV s:V)=sV s)/\∀ g6 c6:Nat,(∃ x:Nat×BL×Nat×Nat,match x with | (j6,NF,B6,s7)=>(j6<=s.length/\NF.length=s.length/\NF=aT (s.take j6)++s.drop j6)/\Q (.own 1 (s.map n0) g6 0 c6) (.own 1 (NF.map n0) B6 0 s7)/\Q (iN 0) (iN j6)/\True)/\∀ x:Nat×BL×Nat×Nat,match x with | (i,l,g,k)=>(i<=s.length/\l.length=s.length/\l=aT (s.take i)++s.drop i)->(fun v1:Int=>(fun v2:V=>Br (r9 (i:Int) (((l.map n0).length:Nat):Int)) (In (i:Int) ((l.map n0).length)/\(V.at g 0 v2 [0+i]=some (g,(0+(0+i)*1),uN ((l.getD i 0).toNat)))/\Gd ((z6 v1 65)==true) (In (i:Int) ((l.map n0).length))/\Gd ((z6 v1 65)==true) (V.at g 0 v2 [0+i]=some (g,(0+(0+i)*1),uN ((l.getD i 0).toNat)))/\Pk (z6 v1 65) ((z6 v1 65)==true) true/\Br ((z6 v1 65)&&(D1 v1 90)) (In (i:Int) ((l.map n0).length)/\(V.at g 0 v2 [0+i]=some (g,(0+(0+i)*1),uN ((l.getD i 0).toNat)))/\Px (v1+32)/\In (i:Int) ((l.map n0).length)/\((uN (((l.getD i 0).toNat)+32):V)=uN ((dM (l.getD i 0)).toNat))/\(V.at g 0 v2 [0+i]=some (g,(0+(0+i)*1),uN ((l.getD i 0).toNat)))/\(V.set v2 [0+i] (uN ((dM (l.getD i 0)).toNat))=.own 1 ((l.set i (dM (l.getD i 0))).map n0) g 0 k)/\m8 ((i:Int)+1)/\∃ x:Nat×BL×Nat×Nat,match x with | (b7,E6,s5,k₂)=>(b7<=s.length/\E6.length=s.length/\E6=aT (s.take b7)++s.drop b7)/\(s.length-b7<s.length-i)/\Q (.own 1 ((l.set i (dM (l.getD i 0))).map n0) g 0 k) (.own 1 (E6.map n0) s5 0 k₂)/\Q (iN (i+1)) (iN b7)/\True) (m8 ((i:Int)+1)/\∃ x:Nat×BL×Nat×Nat,match x with | (b7,E6,s5,k₂)=>(b7<=s.length/\E6.length=s.length/\E6=aT (s.take b7)++s.drop b7)/\(s.length-b7<s.length-i)/\Q v2 (.own 1 (E6.map n0) s5 0 k₂)/\Q (iN (i+1)) (iN b7)/\True)) (((1=1/\g=g/\0=0)/\0+((l.map n0).length)<=(l.map n0).length/\V.aE (l.map n0)=false/\aJ 1 (l.map n0))/\(((l.map n0).drop 0).take ((l.map n0).length)=l.map n0)/\Q (sV l) (sV (aT s)))) (.own 1 (l.map n0) g 0 k)) (((l.getD i 0).toNat:Nat):Int)) ?_
 refine⟨rfl,?_⟩
 intro g6 c6
 refine⟨⟨(0,s,g6,c6),?_,rfl,rfl,trivial⟩,?_⟩
 simp[aT]
 rintro⟨i,l,g,k⟩ ⟨h1,h2,h3⟩
 have hbi:=(l.getD i 0).toNat_lt
 refine bI (fun j7=>?_) fun j7=>?_
 refine⟨Z2,gz (by rw[Y0];exact aj (d:=0) Z9),fun hG=>by(try simp only[nb]at hG);(try simp only[Y2]at *);omega,fun hG=>gz (by rw[Y0];exact aj (d:=0) Z9),⟨fun h=>by rw[h] <;> rfl,fun _=>rfl⟩,?_⟩
 refine bI (fun l6=>?_) fun l6=>?_
 refine⟨Z2,gz (by rw[Y0];exact aj (d:=0) Z9),by have:=Zh (l.getD i 0);omega,Z2,(Zq uN (wX Z9).symm),gz (by rw[Y0];exact aj (d:=0) Z9),nD (by rw[Y0];exact aj (d:=0) Z9) (by rw[Y0];exact(List.map_set ..).symm),Z9,?_⟩
 refine⟨(i+1,l.set i (dM (l.getD i 0)),g,k),?_,?_,rfl,rfl,trivial⟩
 refine⟨Z9,by simp[h2],?_⟩
 exact xu Z9 h3
 exact Z1
 refine⟨Z9,?_⟩
 refine⟨(i+1,l,g,k),?_,?_,rfl,rfl,trivial⟩
 refine⟨Z9,h2,?_⟩
 exact uK Z9 h3 Z9
 exact Z1
 refine⟨⟨⟨rfl,rfl,rfl⟩,Z8,pe _,rv _⟩,by simp[Y3],?_⟩
 unfold Q
 rw[h3,Zc Z9,Y3 Z9,List.append_nil])
abbrev fY(p0:V):V:=.agg [sV [],p0,bV false,sV []]
abbrev kS(a:r8)(n8:BL):V:=.tup [bF ((oA (cy a.c5 a.b9 n8)).c5) ((oA (cy a.c5 a.b9 n8)).b9) ((oA (cy a.c5 a.b9 n8)).asks) ((oA (cy a.c5 a.b9 n8)).ask),bV ((cy a.c5 a.b9 n8).isSome)]
abbrev kZ(a:r8)(n8:BL)(i:Nat)(o:List BL)(g:Nat)(f:Nat)(k:Nat):Prop:=i<=(ah 47 (ae 63 n8).1).length/\o=a.b9++((ah 47 (ae 63 n8).1).take i).map eN/\((ah 47 (ae 63 n8).1).take i).all fj=true
def sw(a:r8)(n8:BL):o6 Tryz.prog:=.mk 161 [bF a.c5 a.b9 a.asks a.ask,sV n8] [] ((dZ a)/\(n8.length<=1000)/\(a.b9.length<=1000)) (kS a n8) [] (by
 rintro⟨ha,hw,hp⟩
 have Ni:=lN 63 n8
 have W7:=rm 47 (ae 63 n8).1
 refine av (N:=70) (rs:=[.cell 4 52,.tmp 5]) Tryz.func161
  (.bx (fun g2=>.al dg (fun g4=>.q 1<|.q 1<|.c (mM n8 (63:UInt8)) []<|.q 7<|.bs<|.r 2 [.a8]<|.ap (fun Qb SD Tv=>.h (.o4 25 (.own 1 (a.b9.map sV) Qb SD Tv))<|.q 1<|.q 1<|.c (xb ((ae (63:UInt8) n8).1) (47:UInt8)) []<|.q 1<|.q 1<|.loop (Nat×(List BL)×Nat×Nat×Nat) (fun (i,o,g,f,k)=>⟨[(2,.ptr (.key 2) [] g2 0),(4,.ptr (.key 4) [] g4 0),(6,sV ((ae 63 n8).2.1)),(7,bV ((ae 63 n8).2.2)),(8,.own 1 (o.map sV) g f k),(9,ao (ah 47 (ae 63 n8).1)),(10,iN i)],[(2,(g2,bF a.c5 a.b9 a.asks a.ask)),(4,(g4,fY (.sl true [])))]⟩) (fun (i,o,g,f,k)=>kZ a n8 i o g f k) (fun (i,o,g,f,k)=>(ah 47 (ae 63 n8).1).length-i) (fun (i,o,g,f,k)=>.q 4<|.br (.r 4 [sV ((ah 47 (ae 63 n8).1).getD i [])]<|.c (jJ ((ah 47 (ae 63 n8).1).getD i [])) []<|.q 5<|.q 2<|.br (.bd dg<|.st none<|.q 1<|.nil) (.q 2<|.bs<|.ap (fun K9 K7 L0=>.h (.o4 48 (.own 1 ((o++[(bU ((ah 47 (ae 63 n8).1).getD i [])).1]).map sV) K9 K7 L0))<|.q 1<|.q 3<|.nil))) (.q 1<|.c (jJ ((ae 63 n8).2.1)) []<|.q 5<|.h (.fz 8)<|.h (.o4 8 (ao o))<|.dx 8 [0,1,2,3,4,5,6,7] [(1,⟨false,[],some [2],[55],[]⟩)] [(7,dg)]<|.q 1<|.r 1 [.a8]<|.q 1<|.c (sU o) []<|.q 1<|.q 1<|.bd dg<|.ua (fun g15=>.st none<|.r 4 [.a8]<|.cg (pJ (⟨a.c5,bX o,(ae 63 n8).2.2,(bU ((ae 63 n8).2.1)).1⟩:r8))<|.q 2<|.br (.bd dg<|.st none<|.q 1<|.nil) (.r 1 [.a8]<|.st none<|.q 1<|.nil))))))))
  ((fun v1:Bool=>(∀ g2:Nat,∀ g4:Nat,(mM n8 (63:UInt8)).sm/\((n8.length<=4611686018427387904))/\Z g2 1/\(True)/\(True)/\(V.aE (a.b9.map sV)=false)/\(aJ 1 (a.b9.map sV))/\((([]:List V).length+(a.b9.map sV).length)*16<=140737488355328)/\∀ Qb SD Tv:Nat,((.own 1 (([]:List V)++(a.b9.map sV)) Qb SD Tv:V)=.own 1 (a.b9.map sV) Qb SD Tv)/\(xb ((ae (63:UInt8) n8).1) (47:UInt8)).sm/\((((ae (63:UInt8) n8).1).length<=1099511627776))/\(∃ x:Nat×(List BL)×Nat×Nat×Nat,match x with | (j6,w4,B6,A5,s7)=>(kZ a n8 j6 w4 B6 A5 s7)/\E (.ptr (.key 2) [] g2 0)/\E (.ptr (.key 4) [] g4 0)/\Q (sV ((ae (63:UInt8) n8).2.1)) (sV ((ae 63 n8).2.1))/\Q (bV ((ae (63:UInt8) n8).2.2)) (bV ((ae 63 n8).2.2))/\Q (.own 1 (a.b9.map sV) Qb SD Tv) (.own 1 (w4.map sV) B6 A5 s7)/\Q (ao (ah (47:UInt8) ((ae (63:UInt8) n8).1))) (ao (ah 47 (ae 63 n8).1))/\Q (iN 0) (iN j6)/\Er g2 (bF a.c5 a.b9 a.asks a.ask)/\Er g4 (fY (.sl true []))/\True)/\∀ x:Nat×(List BL)×Nat×Nat×Nat,match x with | (i,o,g,f,k)=>(kZ a n8 i o g f k)->(fun v2:List V=>Br (r9 (i:Int) ((((ah 47 (ae 63 n8).1).map sV).length:Nat):Int)) (Ex (i:Int) ((ah 47 (ae 63 n8).1).map sV) (sV ((ah 47 (ae 63 n8).1).getD i []))/\True/\(jJ ((ah 47 (ae 63 n8).1).getD i [])).sm/\((((ah 47 (ae 63 n8).1).getD i []).length<=4611686018427387904))/\Br (!((bU ((ah 47 (ae 63 n8).1).getD i [])).2)) (Z g4 0/\(g4=g4)/\Q (.tup [fY (.sl false []),bV false]) (kS a n8)) (((1,1,g,f,k,(o.map sV).length)=(1,1,g,f,k,(o.map sV).length))/\(True)/\(V.aE v2=false)/\(aJ 1 v2)/\(((o.map sV).length+v2.length)*16<=140737488355328)/\∀ K9 K7 L0:Nat,((.own 1 ((o.map sV)++v2) K9 K7 L0:V)=.own 1 ((o++[(bU ((ah 47 (ae 63 n8).1).getD i [])).1]).map sV) K9 K7 L0)/\m8 ((i:Int)+1)/\∃ x:Nat×(List BL)×Nat×Nat×Nat,match x with | (b7,l9,s5,r4,k₂)=>(kZ a n8 b7 l9 s5 r4 k₂)/\((ah 47 (ae 63 n8).1).length-b7<(ah 47 (ae 63 n8).1).length-i)/\E (.ptr (.key 2) [] g2 0)/\E (.ptr (.key 4) [] g4 0)/\E (sV ((ae 63 n8).2.1))/\E (bV ((ae 63 n8).2.2))/\Q (.own 1 ((o++[(bU ((ah 47 (ae 63 n8).1).getD i [])).1]).map sV) K9 K7 L0) (.own 1 (l9.map sV) s5 r4 k₂)/\E (ao (ah 47 (ae 63 n8).1))/\Q (iN (i+1)) (iN b7)/\Er g2 (bF a.c5 a.b9 a.asks a.ask)/\Er g4 (fY (.sl true []))/\True)) ((jJ ((ae 63 n8).2.1)).sm/\((((ae 63 n8).2.1).length<=4611686018427387904))/\((.sl false (V.B8 (o.map sV)):V)=ao o)/\Z g2 0/\(sU o).sm/\((o.length<=1099511627776))/\∀ g15:Nat,Z g15 0/\Gd (v1==false) (Z g15 0)/\Gd (v1==false) (((dZ (⟨a.c5,bX o,(ae 63 n8).2.2,(bU ((ae 63 n8).2.1)).1⟩:r8)))/\(pJ (⟨a.c5,bX o,(ae 63 n8).2.2,(bU ((ae 63 n8).2.1)).1⟩:r8)).sm)/\Pk v1 true (v1==false)/\Br (v1||(!(aG (⟨a.c5,bX o,(ae 63 n8).2.2,(bU ((ae 63 n8).2.1)).1⟩:r8)))) (Z g4 0/\(g4=g4)/\Q (.tup [fY (.sl false []),bV false]) (kS a n8)) (Z g15 0/\Z g4 0/\(g4=g4)/\Q (.tup [bF a.c5 (bX o) ((ae 63 n8).2.2) ((bU ((ae 63 n8).2.1)).1),bV true]) (kS a n8)))) ([sV ((bU ((ah 47 (ae 63 n8).1).getD i [])).1)]:List V))) (!((bU ((ae 63 n8).2.1)).2))) ?_
 intro g2
 intro g4
 refine⟨rfl,Z5,rfl,trivial,trivial,(cN (f:=sV) (fun _=>rfl) _),(ee (f:=sV) (fun _=>rfl) _),Z0,?_⟩
 intro Qb SD Tv
 refine⟨Zq (V.own 1 · Qb SD Tv) (List.nil_append _),rfl,Z5,?_⟩
 refine⟨⟨(0,a.b9,Qb,SD,Tv),?_,rfl,rfl,Z4,Z4,rfl,Z4,rfl,rfl,rfl,trivial⟩,?_⟩
 unfold kZ
 simp
 rintro⟨i,o,g,f,k⟩ ⟨h1,h2,h3⟩
 have Rh:=qP 47 (ae 63 n8).1 i
 have S1:o.length<=1000+i:=by rw[h2];simp;omega
 refine bI (fun j7=>?_) fun j7=>?_
 refine⟨⟨Z9,aj (d:=[]) Z9⟩,trivial,rfl,Z5,?_⟩
 refine bI (fun l6=>?_) fun l6=>?_
 refine⟨rfl,?_⟩
 refine⟨rfl,?_⟩
 unfold Q kS
 rw[show cy a.c5 a.b9 n8=none from by unfold cy;rw[all_false (i:=i) (d:=[]) Z9 l6];rfl];rfl
 refine⟨rfl,trivial,rfl,by simp[aJ,V.n,V.ns],Z0,?_⟩
 intro K9 K7 L0
 refine⟨Zq (V.own 1 · K9 K7 L0) Z8,Z9,?_⟩
 refine⟨(i+1,o++[(bU ((ah 47 (ae 63 n8).1).getD i [])).1],K9,K7,L0),?_,?_,rfl,rfl,rfl,rfl,rfl,rfl,rfl,rfl,rfl,trivial⟩
 unfold kZ
 refine⟨Z9,?_,?_⟩
 rw[h2,bg (by omega:i<(ah 47 (ae 63 n8).1).length) []];simp[eN]
 rw[bg (by omega:i<(ah 47 (ae 63 n8).1).length) []];simp only[List.all_append,h3,List.all_cons,List.all_nil,fj,Bool.and_true,Bool.true_and];exact l6
 exact Z1
 refine⟨rfl,Z5,Zq (V.sl false) (aM (fun _=>rfl) _),rfl,rfl,Z5,?_⟩
 intro g15
 refine⟨rfl,?_⟩
 have hz:dZ ⟨a.c5,bX o,(ae 63 n8).2.2,(bU (ae 63 n8).2.1).1⟩:=by
  rw[h2,Y3 Z9];exact Ke ha hp Z9
 refine⟨fun hG=>rfl,fun hG=>⟨hz,rfl⟩,⟨fun _=>rfl,fun h=>by rw[h] <;> rfl⟩,?_⟩
 refine bI (fun n6=>?_) fun n6=>?_
 refine⟨rfl,?_⟩
 refine⟨rfl,?_⟩
 unfold Q kS
 have G4:(ah 47 (ae 63 n8).1).all fj=true:=by rw[Y3 Z9]at h3;exact h3
 rw[Y3 Z9]at h2
 subst h2
 rw[show cy a.c5 a.b9 n8=none from by unfold cy;rw[G4];grind [fj,eN]];rfl
 refine⟨rfl,rfl,?_⟩
 refine⟨rfl,?_⟩
 unfold Q kS
 have G4:(ah 47 (ae 63 n8).1).all fj=true:=by rw[Y3 Z9]at h3;exact h3
 rw[Y3 Z9]at h2
 subst h2
 rw[show cy a.c5 a.b9 n8=some _ from by unfold cy;rw[G4,if_pos (by grind [fj,eN]),if_pos (by grind [fj,eN])]];rfl)
abbrev lW(s:BL):V:=.tup [bF ((oA (dA s)).c5) ((oA (dA s)).b9) ((oA (dA s)).asks) ((oA (dA s)).ask),bV ((dA s).isSome)]
def xL(s:BL):o6 Tryz.prog:=.mk 133 [sV s] [] (s.length<=1000) (lW s) [] (by
 intro hs
 refine av (N:=37) (rs:=[.cell 2 52,.tmp 3]) Tryz.func133
  (.al dg (fun g2=>.q 1<|.q 2<|.q 1<|.q 1<|.loop (Nat) (fun (i:Nat)=>⟨[(0,sV s),(2,.ptr (.key 2) [] g2 0),(4,sV s),(5,sV []),(6,iN i)],[(2,(g2,fY (.sl true [])))]⟩) (fun (i:Nat)=>i<=s.length/\∀ j,j<i->ir (s.getD j 0)=true) (fun (i:Nat)=>s.length-i) (fun (i:Nat)=>.q 4<|.br (.q 10<|.br (.q 4<|.q 4<|.q 1<|.c (nY ((s.take i).drop ((0:Int).toNat))) []<|.bd dg<|.q 1<|.c (sw (⟨aT ((s.take i).drop ((0:Int).toNat)),[],false,[]⟩:r8) ((s.take s.length).drop i)) []<|.q 2<|.st none<|.q 1<|.nil) (.q 3<|.nil)) (.q 1<|.c (nY s) []<|.bd dg<|.q 1<|.c (sw (⟨aT s,[],false,[]⟩:r8) ([]:BL)) []<|.q 2<|.st none<|.q 1<|.nil))))
  ((fun v1:r8=>(∀ g2:Nat,(∃ j6:Nat,(j6<=s.length/\∀ j,j<j6->ir (s.getD j 0)=true)/\E (sV s)/\E (.ptr (.key 2) [] g2 0)/\E (sV s)/\E (sV [])/\Q (iN 0) (iN j6)/\Er g2 (fY (.sl true []))/\True)/\∀ i:Nat,(i<=s.length/\∀ j,j<i->ir (s.getD j 0)=true)->(fun v2:r8=>(fun v3:Int=>Br (r9 (i:Int) (s.length:Int)) (Ix (i:Int) s/\Gd ((o9 v3 47)==false) (Ix (i:Int) s)/\Pk (o9 v3 47) true ((o9 v3 47)==false)/\Br ((o9 v3 47)||(o9 v3 63)) (Sx (0:Int) (i:Int) s/\Sx (i:Int) (s.length:Int) s/\(nY ((s.take i).drop ((0:Int).toNat))).sm/\((((s.take i).drop ((0:Int).toNat)).length<=1099511627776))/\(sw (⟨aT ((s.take i).drop ((0:Int).toNat)),[],false,[]⟩:r8) ((s.take s.length).drop i)).sm/\((dZ (⟨aT ((s.take i).drop ((0:Int).toNat)),[],false,[]⟩:r8))/\(((s.take s.length).drop i).length<=1000)/\((⟨aT ((s.take i).drop ((0:Int).toNat)),[],false,[]⟩:r8).b9.length<=1000))/\Z g2 0/\(g2=g2)/\Q (.tup [bF (v2.c5) (v2.b9) (v2.asks) (v2.ask),bV ((cy (⟨aT ((s.take i).drop ((0:Int).toNat)),[],false,[]⟩:r8).c5 (⟨aT ((s.take i).drop ((0:Int).toNat)),[],false,[]⟩:r8).b9 ((s.take s.length).drop i)).isSome)]) (lW s)) (m8 ((i:Int)+1)/\∃ b7:Nat,(b7<=s.length/\∀ j,j<b7->ir (s.getD j 0)=true)/\(s.length-b7<s.length-i)/\E (sV s)/\E (.ptr (.key 2) [] g2 0)/\E (sV s)/\E (sV [])/\Q (iN (i+1)) (iN b7)/\Er g2 (fY (.sl true []))/\True)) ((nY s).sm/\((s.length<=1099511627776))/\(sw (⟨aT s,[],false,[]⟩:r8) ([]:BL)).sm/\((dZ (⟨aT s,[],false,[]⟩:r8))/\(([]:BL).length<=1000)/\((⟨aT s,[],false,[]⟩:r8).b9.length<=1000))/\Z g2 0/\(g2=g2)/\Q (.tup [bF (v1.c5) (v1.b9) (v1.asks) (v1.ask),bV ((cy (⟨aT s,[],false,[]⟩:r8).c5 (⟨aT s,[],false,[]⟩:r8).b9 ([]:BL)).isSome)]) (lW s))) (((s.getD i 0).toNat:Nat):Int)) (oA (cy (⟨aT ((s.take i).drop ((0:Int).toNat)),[],false,[]⟩:r8).c5 (⟨aT ((s.take i).drop ((0:Int).toNat)),[],false,[]⟩:r8).b9 ((s.take s.length).drop i))))) (oA (cy (⟨aT s,[],false,[]⟩:r8).c5 (⟨aT s,[],false,[]⟩:r8).b9 ([]:BL)))) ?_
 intro g2
 refine⟨⟨0,?_,rfl,rfl,rfl,rfl,rfl,rfl,trivial⟩,?_⟩
 simp
 rintro i ⟨h1,h2⟩
 refine bI (fun j7=>?_) fun j7=>?_
 refine⟨Z9,fun hG=>by(try simp only[nb]at hG);omega,⟨fun _=>rfl,fun h=>by rw[h] <;> rfl⟩,?_⟩
 refine bI (fun l6=>?_) fun l6=>?_
 refine⟨Z9,Z9,?_⟩
 have hz:dZ ⟨aT ((s.take i).drop ((0:Int).toNat)),[],false,[]⟩:=⟨by simp only[aT,Y2];first | omega | (simp;omega),Z8,Z8,Z8⟩
 have hw:((s.take s.length).drop i).length<=1000:=by first | (solve | simp) | (simp;omega)
 refine⟨rfl,Z5,rfl,⟨hz,hw,Z8⟩,rfl,?_⟩
 refine⟨rfl,?_⟩
 unfold Q lW
 obtain⟨k1,k2⟩:=yY (p:=ir) h1 h2 (.inr (by simp only[ir,decide_eq_false_iff_not];omega))
 unfold dA
 rw[k1,k2];simp
 refine⟨Z9,?_⟩
 refine⟨i+1,?_,?_,rfl,rfl,rfl,rfl,rfl,rfl,trivial⟩
 refine⟨Z9,bS h2 ?_⟩
 simp only[ir,Zo];omega
 exact Z1
 have hz:dZ ⟨aT s,[],false,[]⟩:=⟨by simp only[aT,Y2];first | omega | (simp;omega),Z8,Z8,Z8⟩
 have hw:([]:BL).length<=1000:=by first | (solve | simp) | (simp;omega)
 refine⟨rfl,Z5,rfl,⟨hz,hw,Z8⟩,rfl,?_⟩
 refine⟨rfl,?_⟩
 unfold Q lW
 obtain⟨k1,k2⟩:=yY (p:=ir) h1 h2 (.inl Z9)
 unfold dA
 rw[k1,k2,Y3 Z9,Zc Z9])
abbrev kf(raw:BL):V:=.tup [bF ((oA (aw raw)).c5) ((oA (aw raw)).b9) ((oA (aw raw)).asks) ((oA (aw raw)).ask),bV ((aw raw).isSome)]
def mh(raw:BL):o6 Tryz.prog:=.mk 96 [sV raw] [] (raw.length<=4611686018427387904) (kf raw) [] (by
 intro hs
 have Ni:=lN 35 raw
 refine av (N:=32) (rs:=[.cell 2 52,.tmp 3]) Tryz.func96
  (.al dg (fun g2=>.q 1<|.q 1<|.c (mM raw (35:UInt8)) []<|.q 7<|.q 13<|.br (.bd dg<|.st none<|.q 1<|.nil) (.q 2<|.c (xL ((((ae (35:UInt8) raw).1).take ((ae (35:UInt8) raw).1).length).drop 2)) []<|.q 2<|.st none<|.q 1<|.nil)))
  ((fun v1:r8=>(fun v2:Bool=>(fun v3:Bool=>(∀ g2:Nat,(mM raw (35:UInt8)).sm/\((raw.length<=4611686018427387904))/\Pk v3 true (v3==false)/\Gd ((v3||v2)==false) (Sx (0:Int) (2:Int) ((ae (35:UInt8) raw).1))/\Pk (v3||v2) true ((v3||v2)==false)/\Br ((v3||v2)||(!(((((ae (35:UInt8) raw).1).take 2).drop ((0:Int).toNat))==([47,47]:BL)))) (Z g2 0/\(g2=g2)/\Q (.tup [fY (.sl false []),bV false]) (kf raw)) (Sx (2:Int) (((ae (35:UInt8) raw).1).length:Int) ((ae (35:UInt8) raw).1)/\(xL ((((ae (35:UInt8) raw).1).take ((ae (35:UInt8) raw).1).length).drop 2)).sm/\((((((ae (35:UInt8) raw).1).take ((ae (35:UInt8) raw).1).length).drop 2).length<=1000))/\Z g2 0/\(g2=g2)/\Q (.tup [bF (v1.c5) (v1.b9) (v1.asks) (v1.ask),bV ((dA ((((ae (35:UInt8) raw).1).take ((ae (35:UInt8) raw).1).length).drop 2)).isSome)]) (kf raw)))) (s9 (raw.length:Int) 60)) (r9 ((((ae (35:UInt8) raw).1).length:Nat):Int) 2)) (oA (dA ((((ae (35:UInt8) raw).1).take ((ae (35:UInt8) raw).1).length).drop 2)))) ?_
 intro g2
 refine⟨rfl,Z5,⟨fun _=>rfl,fun h=>by rw[h] <;> rfl⟩,fun hG=>by(try simp only[nb]at hG);omega,⟨fun _=>rfl,fun h=>by rw[h] <;> rfl⟩,?_⟩
 refine bI (fun j7=>?_) fun j7=>?_
 refine⟨rfl,?_⟩
 refine⟨rfl,?_⟩
 unfold Q kf
 rw[show aw raw=none from if_neg (by grind)];rfl
 refine⟨Z9,rfl,Z5,rfl,?_⟩
 refine⟨rfl,?_⟩
 unfold Q kf
 rw[show aw raw=dA ((ae 35 raw).1.drop 2) from if_pos (by grind)];simp)
def jT(s:BL):o6 Tryz.prog:=.mk 59 [sV s] [] (s.length<=4611686018427387904) (bV (az s)) [] (by
 intro hs
 refine av (N:=17) (rs:=[.tmp 2]) Tryz.func59
  (.q 1<|.q 1<|.c (mh s) []<|.q 3<|.al dg (fun g3=>.st none<|.q 1<|.r 3 [.a8]<|.cg (js (oA (aw s)))<|.q 4<|.nil))
  ((mh s).sm/\((s.length<=4611686018427387904))/\∀ g3:Nat,Z g3 0/\Gd (((aw s).isSome)==true) (Z g3 0)/\Gd (((aw s).isSome)==true) (((dZ (oA (aw s))))/\(js (oA (aw s))).sm)/\Pk ((aw s).isSome) (((aw s).isSome)==true) true/\Q (bV (((aw s).isSome)&&((bE (oA (aw s)))==s))) (bV (az s))) ?_
 refine⟨rfl,Z5,?_⟩
 intro g3
 refine⟨rfl,fun hG=>rfl,fun hG=>⟨by(try simp only[nb]at hG);first | assumption | exact uq _ | simp_all,rfl⟩,⟨fun h=>by rw[h] <;> rfl,fun _=>rfl⟩,?_⟩
 unfold Q
 rfl)
def zT(p:BL):o6 Tryz.prog:=.mk 159 [sV p] [] (p.length<=4611686018427387904) (bV (aN p)) [] (by
 intro hs
 refine av (N:=66) (rs:=[.tmp 2]) Tryz.func159
  (.q 1<|.q 12<|.br (.q 1<|.nil) (.q 1<|.loop (Nat) (fun (i:Nat)=>⟨[(0,sV p),(3,iN i)],[]⟩) (fun (i:Nat)=>i<=p.length/\∀ j,j<i->kT p j=true) (fun (i:Nat)=>p.length-i) (fun (i:Nat)=>.q 4<|.br (.q 4<|.q 1<|.c (jV (p.getD i 0)) []<|.q 38<|.br (.q 1<|.nil) (.q 3<|.nil)) (.q 1<|.nil))))
  ((fun v1:Bool=>(Pk v1 true (v1==false)/\Gd ((v1||(p==[]))==false) (Ix 0 p)/\Pk (v1||(p==[])) true ((v1||(p==[]))==false)/\Br ((v1||(p==[]))||(A6 (((p.getD 0 0).toNat:Nat):Int) 47)) (Q (bV false) (bV (aN p))) ((∃ j6:Nat,(j6<=p.length/\∀ j,j<j6->kT p j=true)/\E (sV p)/\Q (iN 0) (iN j6)/\True)/\∀ i:Nat,(i<=p.length/\∀ j,j<i->kT p j=true)->(fun v2:Int=>(fun v3:Bool=>(fun v4:Bool=>Br (r9 (i:Int) (p.length:Int)) (Ix (i:Int) p/\(jV (p.getD i 0)).sm/\(True)/\Pk v3 (v3==true) true/\Pk (v3&&(A6 v2 47)) ((v3&&(A6 v2 47))==true) true/\Pk ((v3&&(A6 v2 47))&&(A6 v2 42)) (((v3&&(A6 v2 47))&&(A6 v2 42))==true) true/\Pk (((v3&&(A6 v2 47))&&(A6 v2 42))&&(A6 v2 63)) ((((v3&&(A6 v2 47))&&(A6 v2 42))&&(A6 v2 63))==true) true/\Gd (((((v3&&(A6 v2 47))&&(A6 v2 42))&&(A6 v2 63))&&(A6 v2 37))==true) (Pk (z6 v2 65) ((((((v3&&(A6 v2 47))&&(A6 v2 42))&&(A6 v2 63))&&(A6 v2 37))==true)&&((z6 v2 65)==true)) true)/\Pk ((((v3&&(A6 v2 47))&&(A6 v2 42))&&(A6 v2 63))&&(A6 v2 37)) (((((v3&&(A6 v2 47))&&(A6 v2 42))&&(A6 v2 63))&&(A6 v2 37))==true) true/\Gd (((((((v3&&(A6 v2 47))&&(A6 v2 42))&&(A6 v2 63))&&(A6 v2 37))&&v4)==true)&&((o9 v2 36)==true)) (m8 ((p.length:Int)-1))/\Gd ((((((v3&&(A6 v2 47))&&(A6 v2 42))&&(A6 v2 63))&&(A6 v2 37))&&v4)==true) (Pk (o9 v2 36) (((((((v3&&(A6 v2 47))&&(A6 v2 42))&&(A6 v2 63))&&(A6 v2 37))&&v4)==true)&&((o9 v2 36)==true)) true)/\Pk (((((v3&&(A6 v2 47))&&(A6 v2 42))&&(A6 v2 63))&&(A6 v2 37))&&v4) ((((((v3&&(A6 v2 47))&&(A6 v2 42))&&(A6 v2 63))&&(A6 v2 37))&&v4)==true) true/\Br ((((((v3&&(A6 v2 47))&&(A6 v2 42))&&(A6 v2 63))&&(A6 v2 37))&&v4)&&(!((o9 v2 36)&&(o9 (i:Int) ((p.length:Int)-1))))) (Q (bV false) (bV (aN p))) (m8 ((i:Int)+1)/\∃ b7:Nat,(b7<=p.length/\∀ j,j<b7->kT p j=true)/\(p.length-b7<p.length-i)/\E (sV p)/\Q (iN (i+1)) (iN b7)/\True)) (Q (bV true) (bV (aN p)))) (!((z6 v2 65)&&(D1 v2 70)))) (!(dV (p.getD i 0)))) (((p.getD i 0).toNat:Nat):Int)))) (s9 (p.length:Int) 16)) ?_
 refine⟨⟨fun _=>rfl,fun h=>by rw[h] <;> rfl⟩,fun hG=>by(try simp only[nb]at hG);grind [List.length_pos_iff],⟨fun _=>rfl,fun h=>by rw[h] <;> rfl⟩,?_⟩
 refine bI (fun j7=>?_) fun j7=>?_
 unfold Q
 refine Zq bV ?_
 unfold aN
 symm
 rw[decide_eq_false_iff_not]
 grind
 refine⟨⟨0,?_,rfl,rfl,trivial⟩,?_⟩
 simp
 rintro i ⟨h1,h2⟩
 refine bI (fun l6=>?_) fun l6=>?_
 refine⟨Z9,rfl,trivial,⟨fun h=>by rw[h] <;> rfl,fun _=>rfl⟩,⟨fun h=>by rw[h] <;> rfl,fun _=>rfl⟩,⟨fun h=>by rw[h] <;> rfl,fun _=>rfl⟩,⟨fun h=>by rw[h] <;> rfl,fun _=>rfl⟩,fun hG=>⟨fun h=>by rw[h];exact(YS _ _).mpr ⟨hG,rfl⟩,fun _=>rfl⟩,⟨fun h=>by rw[h] <;> rfl,fun _=>rfl⟩,fun hG=>by(try simp only[nb]at hG);omega,fun hG=>⟨fun h=>by rw[h];exact(YS _ _).mpr ⟨hG,rfl⟩,fun _=>rfl⟩,⟨fun h=>by rw[h] <;> rfl,fun _=>rfl⟩,?_⟩
 refine bI (fun n6=>?_) fun n6=>?_
 unfold Q
 refine Zq bV ?_
 unfold aN
 symm
 rw[decide_eq_false_iff_not]
 rintro⟨k1,k2,k3,k4⟩
 have:=k4 i Z9
 unfold kT iH at this
 grind
 refine⟨Z9,?_⟩
 refine⟨i+1,?_,?_,rfl,rfl,trivial⟩
 refine⟨Z9,bS h2 ?_⟩
 by_cases hq:dV (p.getD i 0)=true
 simp only[kT,iH,hq,Bool.true_or]
 simp only[Bool.not_eq_true]at hq
 simp only[kT,iH,hq,Bool.false_or,Bool.or_eq_true,YS,Zo]
 simp only[hq,true_and]at n6
 omega
 exact Z1
 unfold Q
 refine Zq bV ?_
 unfold aN
 symm
 rw[Zo]
 exact⟨by grind,Z9,by grind,fun j hj=>h2 j Z9⟩)
abbrev fJ(p0:BL):V:=.sl false (p0.map n0)
abbrev aq(p0:BL)(p1:Nat):V:=.agg [.sl false (p0.map n0),iN p1]
theorem FA{l:List BL}{i:Nat}(h:i<l.length):Ex (i:Int) (l.map sV) (sV (l.getD i [])):=⟨Int.natCast_nonneg _,by simp[YQ,h]⟩
theorem Hw{b:BL}{i:Nat}(h:i<(b.map n0).length):Ex (i:Int) (b.map n0) (uN (b.getD i 0).toNat):=⟨Int.natCast_nonneg _,by simp at h;simp[YQ,h,n0,uN]⟩
def zN(b:BL):G5 Tryz.prog:=.mk (BL×Nat) 28 [fJ b] [] (b.length<=9223372036854775807) (fun x=>x.1.length<=2000) (fun x=>.ptr (.key 1000) [] x.2 0) (fun x=>[(1000,(x.2,.agg [fJ x.1,iN 0]))]) (by
 intro hb
 refine fh (N:=11) (rs:=[.tmp 2]) (X:=BL×Nat) (post:=fun x=>x.1.length<=2000) (E:=fun x=>.ptr (.key 1000) [] x.2 0) (H':=fun x=>[(1000,(x.2,.agg [.sl false (x.1.map n0),iN 0]))]) Tryz.func28 Z7 rfl rfl rfl Z7 [(1000,(0,.a8))] (by intro _ k hk;simpa[lk] using hk)
  (.q 1<|.q 3<|.join BL (fun c=>⟨[(0,fJ c)],[]⟩) (fun c=>c.length<=2000) (.q 2<|.h (.o4 7 (fJ (b.take 2000)))<|.q 1<|.nil) (.nil) (fun c=>.q 1<|.bd Mu<|.bx (fun g10=>.q 1<|.h (.rk 10 1000)<|.nil)))
  (((s9 (((b.map n0).length:Nat):Int) 2000)=true->((0:Int)<=(0:Int)/\(0:Int)<=(2000:Int)/\(2000:Int)<=(b.map n0).length/\∀ x∈(b.map n0),x.n=1)/\Q (.sl false (((b.map n0).take 2000).drop ((0:Int).toNat))) (fJ (b.take 2000))/\∃ c:BL,(c.length<=2000)/\Q (fJ (b.take 2000)) (fJ c)/\True)/\((s9 (((b.map n0).length:Nat):Int) 2000)=false->∃ c:BL,(c.length<=2000)/\Q (fJ b) (fJ c)/\True)/\(∀ c:BL,(c.length<=2000)->∀ g10:Nat,∃ x:BL×Nat,(x.1.length<=2000)/\Q (.ptr (.key 1000) [] g10 0) (.ptr (.key 1000) [] x.2 0)/\Qr g10 (.agg [fJ c,iN 0]) x.2 (.agg [fJ x.1,iN 0])))
  Z7 ?_
 refine⟨fun j7=>?_,fun j7=>?_,fun c hc=>?_⟩
 try simp only[nb]at j7
 refine⟨⟨by simp <;> omega,by simp <;> omega,by simp <;> omega,all_map (fun _=>rfl)⟩,by simp[Q,List.map_take],?_⟩
 exact⟨b.take 2000,Z0,rfl,trivial⟩
 try simp only[nb]at j7
 exact⟨b,Z9,rfl,trivial⟩
 intro g10
 refine⟨(c,g10),?_,?_,?_⟩
 try dsimp only
 assumption
 first | rfl | simp_all
 first | rfl | exact⟨rfl,rfl⟩ | simp_all)
def lr:o6 Tryz.prog:=.mk 90 [] [] True (ao aP) [] (by
 intro _
 refine av (N:=2) (rs:=[.tmp 0]) Tryz.func90
  (.q 1<|.bs<|.q 1<|.nil)
  (Q (.sl false [sV ([97,98]:BL),sV ([99,100]:BL),sV ([101]:BL),sV ([102,111,120]:BL)]) (ao aP)) ?_
 unfold Q
 rfl)
def bf(b:BL)(p:Nat)(g:Nat)(n:Nat):G5 Tryz.prog:=.mk Nat 54 [.ptr (.key 1000) [] g 0,iN n] [(1000,(g,aq b p))] ((b.length<=2000)/\(p<=1000000)/\(n<=1000000)) (fun x=>n=0/\x=0\/x<n) (fun x=>iN x) (fun x=>[(1000,(g,aq b (p+1)))]) (by
 rintro⟨hb,hp,hn⟩
 refine fh (N:=99) (rs:=[.tmp 4]) (X:=Nat) (post:=fun x=>n=0/\x=0\/x<n) (E:=fun x=>iN x) (H':=fun x=>[(1000,(g,.agg [.sl false (b.map n0),iN (p+1)]))]) Tryz.func54 Z7 rfl rfl rfl Z7 [(1000,(0,.a8))] (by intro _ k hk;simpa[lk] using hk)
  (.q 1<|.r 8 [.a8]<|.st none<|.r 10 [.a8]<|.br (.q 1<|.nil) (.r 5 [.a8]<|.h (.o4 29 (iN p))<|.q 1<|.r 7 [.a8]<|.br (.r 11 [.a8,uN ((b.getD p 0).toNat)]<|.nil) (.dx 45 [0,1,2,3,4,5,6,7,8,9,10,11,12,13,14,15,16,17,18,19,20,21,22,23,24,25,26,27,28,29,30,31,32,33,34,35,36,37,38,39,40,41,42,43,44] [(3,⟨false,[],some [1000],[50],[]⟩),(8,⟨false,[],some [1000],[55],[]⟩),(12,⟨false,[],some [],[59],[]⟩),(18,⟨false,[],some [1000],[65],[]⟩),(25,⟨false,[],some [1000],[72],[]⟩),(29,⟨false,[],some [],[76],[]⟩),(40,⟨false,[],some [1000],[87],[]⟩)] []<|.q 1<|.q 1<|.q 1<|.r 1 [.a8]<|.q 1<|.q 1<|.q 1<|.q 1<|.r 1 [.a8]<|.q 1<|.q 1<|.r 1 [uN ((b.getD (p % ((b.map n0).length)) 0).toNat)]<|.q 1<|.q 1<|.q 1<|.q 1<|.q 1<|.q 1<|.r 1 [.a8]<|.q 1<|.q 1<|.q 1<|.q 1<|.q 1<|.q 1<|.r 1 [.a8]<|.q 1<|.q 1<|.r 1 [uN ((b.getD (((p*7)+3) % ((b.map n0).length)) 0).toNat)]<|.q 1<|.q 1<|.q 1<|.q 1<|.q 1<|.q 1<|.q 1<|.q 1<|.q 1<|.q 1<|.q 1<|.r 1 [.a8]<|.q 1<|.q 1<|.q 1<|.q 1<|.q 1<|.q 5<|.q 4<|.nil)))
  ((fun v1:Int=>(fun v2:Int=>(fun v3:Int=>(fun v4:Int=>(fun v5:Bool=>(fun v6:Int=>(True/\Z g 1/\m8 ((p:Int)+1)/\True/\Z g 1/\Gd (v5==false) True/\Gd (v5==false) (Z g 0)/\Pk v5 true (v5==false)/\Br (v5||(o9 v3 0)) (∃ x:Nat,(n=0/\x=0\/x<n)/\Q (iN 0) (iN x)/\Er g (aq b (p+1))) (True/\Z g 1/\m8 (((p+1:Nat):Int)-1)/\Q (iV (((p+1:Nat):Int)-1)) (iN p)/\True/\Z g 0/\Br (r9 (p:Int) v3) (True/\Z g 0/\Ex (p:Int) (b.map n0) (uN ((b.getD p 0).toNat))/\True/\m8 (((b.getD p 0).toNat:Nat):Int)/\((0:Int)<=(((b.getD p 0).toNat:Nat):Int)/\(0:Int)<(n:Int))/\∃ x:Nat,(n=0/\x=0\/x<n)/\Q (iN (((b.getD p 0).toNat) % n)) (iN x)/\Er g (aq b (p+1))) (True/\Z g 0/\True/\Z g 0/\((0:Int)<=(p:Int)/\(0:Int)<v3)/\Ex ((p % ((b.map n0).length):Nat):Int) (b.map n0) (uN ((b.getD (p % ((b.map n0).length)) 0).toNat))/\True/\m8 v6/\m8 (v6*131)/\True/\Z g 0/\m8 ((p:Int)*7)/\m8 (((p*7:Nat):Int)+3)/\True/\Z g 0/\((0:Int)<=(((p*7)+3:Nat):Int)/\(0:Int)<v3)/\Ex ((((p*7)+3) % ((b.map n0).length):Nat):Int) (b.map n0) (uN ((b.getD (((p*7)+3) % ((b.map n0).length)) 0).toNat))/\True/\m8 v4/\m8 (v4*1117)/\m8 (((((b.getD (p % ((b.map n0).length)) 0).toNat)*131:Nat):Int)+((((b.getD (((p*7)+3) % ((b.map n0).length)) 0).toNat)*1117:Nat):Int))/\m8 ((p:Int)*29)/\m8 ((((((b.getD (p % ((b.map n0).length)) 0).toNat)*131)+(((b.getD (((p*7)+3) % ((b.map n0).length)) 0).toNat)*1117):Nat):Int)+((p*29:Nat):Int))/\True/\Z g 0/\((0:Int)<=(p:Int)/\(0:Int)<v3/\m8 (p:Int))/\m8 (((p / ((b.map n0).length):Nat):Int)*53)/\m8 (((((((b.getD (p % ((b.map n0).length)) 0).toNat)*131)+(((b.getD (((p*7)+3) % ((b.map n0).length)) 0).toNat)*1117))+(p*29):Nat):Int)+(((p / ((b.map n0).length))*53:Nat):Int))/\((0:Int)<=v1/\(0:Int)<64/\m8 v1)/\((0:Int)<=v1/\(0:Int)<=v2/\m8 v1/\m8 v2)/\((0:Int)<=((((((((b.getD (p % ((b.map n0).length)) 0).toNat)*131)+(((b.getD (((p*7)+3) % ((b.map n0).length)) 0).toNat)*1117))+(p*29))+((p / ((b.map n0).length))*53)) ^^^ (((((((b.getD (p % ((b.map n0).length)) 0).toNat)*131)+(((b.getD (((p*7)+3) % ((b.map n0).length)) 0).toNat)*1117))+(p*29))+((p / ((b.map n0).length))*53)) / 64):Nat):Int)/\(0:Int)<(n:Int))/\∃ x:Nat,(n=0/\x=0\/x<n)/\Q (iN ((((((((b.getD (p % ((b.map n0).length)) 0).toNat)*131)+(((b.getD (((p*7)+3) % ((b.map n0).length)) 0).toNat)*1117))+(p*29))+((p / ((b.map n0).length))*53)) ^^^ (((((((b.getD (p % ((b.map n0).length)) 0).toNat)*131)+(((b.getD (((p*7)+3) % ((b.map n0).length)) 0).toNat)*1117))+(p*29))+((p / ((b.map n0).length))*53)) / 64)) % n)) (iN x)/\Er g (aq b (p+1)))))) (((b.getD (p % ((b.map n0).length)) 0).toNat:Nat):Int)) (r9 (n:Int) 1)) (((b.getD (((p*7)+3) % ((b.map n0).length)) 0).toNat:Nat):Int)) (((b.map n0).length:Nat):Int)) ((((((((b.getD (p % ((b.map n0).length)) 0).toNat)*131)+(((b.getD (((p*7)+3) % ((b.map n0).length)) 0).toNat)*1117))+(p*29))+((p / ((b.map n0).length))*53)) / 64:Nat):Int)) (((((((b.getD (p % ((b.map n0).length)) 0).toNat)*131)+(((b.getD (((p*7)+3) % ((b.map n0).length)) 0).toNat)*1117))+(p*29))+((p / ((b.map n0).length))*53):Nat):Int))
  Z7 ?_
 refine⟨trivial,rfl,Z9,trivial,rfl,fun hG=>trivial,fun hG=>rfl,⟨fun _=>rfl,fun h=>by rw[h] <;> rfl⟩,?_⟩
 refine bI (fun j7=>?_) fun j7=>?_
 refine⟨0,?_,?_,?_⟩
 try dsimp only
 omega
 first | rfl | simp_all
 first | rfl | exact⟨rfl,rfl⟩ | simp_all
 refine⟨trivial,rfl,Z9,by simp[Q],?_⟩
 have TX:1<=n/\1<=b.length:=Z9
 refine⟨trivial,rfl,?_⟩
 refine bI (fun l6=>?_) fun l6=>?_
 have u1:=(b.getD p 0).toNat_lt
 refine⟨trivial,rfl,⟨Z9,aj (d:=0) Z9⟩,trivial,by have:=Zh (b.getD p 0);omega,by have:=Zh (b.getD p 0);omega,?_⟩
 refine⟨(b.getD p 0).toNat % n,?_,?_,?_⟩
 try dsimp only
 exact .inr (Nat.mod_lt _ Z9)
 first | rfl | simp_all
 first | rfl | exact⟨rfl,rfl⟩ | simp_all
 have u1:=(b.getD (p % b.length) 0).toNat_lt
 have u2:=(b.getD ((p*7+3) % b.length) 0).toNat_lt
 have u3:=Nat.mod_lt p (show 0<b.length by omega)
 have u4:=Nat.mod_lt (p*7+3) (show 0<b.length by omega)
 have u5:=Nat.div_le_self p b.length
 have u6:=Int.natCast_nonneg (p / b.length)
 refine⟨trivial,rfl,trivial,rfl,Z2,Hw (by rw[Y2];exact u3),trivial,Z2,Z2,trivial,rfl,Z9,Z9,trivial,rfl,Z2,Hw (by rw[Y2];exact u4),trivial,Z2,Z2,Z2,Z9,Z2,trivial,rfl,Z2,Z2,Z2,Z2,Z2,Z2,?_⟩
 refine⟨(((((((b.getD (p % ((b.map n0).length)) 0).toNat)*131)+(((b.getD (((p*7)+3) % ((b.map n0).length)) 0).toNat)*1117))+(p*29))+((p / ((b.map n0).length))*53)) ^^^ (((((((b.getD (p % ((b.map n0).length)) 0).toNat)*131)+(((b.getD (((p*7)+3) % ((b.map n0).length)) 0).toNat)*1117))+(p*29))+((p / ((b.map n0).length))*53)) / 64)) % n,?_,?_,?_⟩
 try dsimp only
 exact .inr (Nat.mod_lt _ Z9)
 first | rfl | simp_all
 first | rfl | exact⟨rfl,rfl⟩ | simp_all)
def fb(b:BL)(p:Nat)(g:Nat)(l:List BL):G5 Tryz.prog:=.mk BL 55 [.ptr (.key 1000) [] g 0,ao l] [(1000,(g,aq b p))] ((b.length<=2000)/\(p<=1000000)/\(1<=l.length)/\(l.length<=1000)) (fun x=>x∈l) (fun x=>sV x) (fun x=>[(1000,(g,aq b (p+1)))]) (by
 rintro⟨hb,hp,hl,hn⟩
 refine fh (N:=12) (rs:=[.tmp 4]) (X:=BL) (post:=fun x=>x∈l) (E:=fun x=>sV x) (H':=fun x=>[(1000,(g,.agg [.sl false (b.map n0),iN (p+1)]))]) Tryz.func55 Z7 rfl rfl rfl Z7 [(1000,(0,.a8))] (by intro _ k hk;simpa[lk] using hk)
  (.q 1<|.q 4<|.h (.o4 8 (iN l.length))<|.cx (bf b p g l.length) [(1000,1000)] (fun (Ol:Nat)=>.r 3 [sV (l.getD Ol [])]<|.nil))
  (Q (iN ((l.map sV).length)) (iN l.length)/\(bf b p g l.length).sm/\Er g (aq b p)/\((b.length<=2000)/\(p<=1000000)/\(l.length<=1000000))/\∀ Ol:Nat,(l.length=0/\Ol=0\/Ol<l.length)->Ex (Ol:Int) (l.map sV) (sV (l.getD Ol []))/\True/\∃ x:BL,(x∈l)/\Q (sV (l.getD Ol [])) (sV x)/\Er g (aq b (p+1)))
  Z7 ?_
 refine⟨by simp[Q],rfl,rfl,⟨Z5,Z5,Z5⟩,?_⟩
 intro Ol Ye
 refine⟨FA Z9,trivial,?_⟩
 refine⟨l.getD Ol [],?_,?_,?_⟩
 try dsimp only
 rw[YQ,YX Z9];simp
 first | rfl | simp_all
 first | rfl | exact⟨rfl,rfl⟩ | simp_all)
def wR(b:BL)(p:Nat)(g:Nat):G5 Tryz.prog:=.mk BL 160 [.ptr (.key 1000) [] g 0] [(1000,(g,aq b p))] ((b.length<=2000)/\(p<=1000000)) (fun x=>x∈iY) (fun x=>sV x) (fun x=>[(1000,(g,aq b (p+1)))]) (by
 rintro⟨hb,hp⟩
 refine fh (N:=6) (rs:=[.tmp 2]) (X:=BL) (post:=fun x=>x∈iY) (E:=fun x=>sV x) (H':=fun x=>[(1000,(g,.agg [.sl false (b.map n0),iN (p+1)]))]) Tryz.func160 Z7 rfl rfl rfl Z7 [(1000,(0,.a8))] (by intro _ k hk;simpa[lk] using hk)
  (.q 1<|.q 1<|.bs<|.cx (fb b p g ([([47]:BL),([47,97]:BL),([47,98]:BL),([47,97,47]:BL),([47,42,98]:BL),([47,97,36]:BL),([47,99]:BL),([47,42,63]:BL),([47,97,47,98]:BL),([47,42,47,98,36]:BL),([47,36]:BL),([47,98,42,99]:BL),([47,110,111,116,105,99,101]:BL),([47,42]:BL)]:List BL)) [(1000,1000)] (fun (w3:BL)=>.q 1<|.nil))
  ((fun v1:BL=>(fun v2:BL=>(fun v3:BL=>(fun v4:BL=>(fun v5:BL=>(fun v6:BL=>(fun v7:BL=>(fun v8:BL=>(fun v9:BL=>(fun v10:BL=>(fun v11:BL=>(fun v12:BL=>(fun H5:BL=>(fun M':BL=>((fb b p g ([M',v9,v10,v5,v6,v7,v11,v8,v3,v2,v12,v4,v1,H5]:List BL)).sm/\Er g (aq b p)/\((b.length<=2000)/\(p<=1000000)/\(1<=([M',v9,v10,v5,v6,v7,v11,v8,v3,v2,v12,v4,v1,H5]:List BL).length)/\(([M',v9,v10,v5,v6,v7,v11,v8,v3,v2,v12,v4,v1,H5]:List BL).length<=1000))/\∀ w3:BL,(w3∈([M',v9,v10,v5,v6,v7,v11,v8,v3,v2,v12,v4,v1,H5]:List BL))->∃ x:BL,(x∈iY)/\Q (sV w3) (sV x)/\Er g (aq b (p+1)))) ([47]:BL)) ([47,42]:BL)) ([47,36]:BL)) ([47,99]:BL)) ([47,98]:BL)) ([47,97]:BL)) ([47,42,63]:BL)) ([47,97,36]:BL)) ([47,42,98]:BL)) ([47,97,47]:BL)) ([47,98,42,99]:BL)) ([47,97,47,98]:BL)) ([47,42,47,98,36]:BL)) ([47,110,111,116,105,99,101]:BL))
  Z7 ?_
 refine⟨rfl,rfl,⟨by first | assumption | omega,by first | assumption | omega,Z6,Z6⟩,?_⟩
 intro w3 O4
 refine⟨w3,?_,?_,?_⟩
 try dsimp only
 assumption
 first | rfl | simp_all
 first | rfl | exact⟨rfl,rfl⟩ | simp_all)
abbrev bZ(p0:List Pg):V:=.sl false (p0.map r5)
abbrev bh(p0:List k9):V:=.sl false (p0.map bO)
abbrev eL(p0:List s6):V:=.sl false (p0.map au)
abbrev jz(p0:V)(p1:List s6)(p2:Nat):V:=.agg [ p0,.sl false (p1.map au),iN p2]
abbrev cn(p0:BL)(p1:BL)(p2:BL)(p3:Int):V:=.agg [sV p0,sV p1,sV p2,iV p3]
abbrev eS(p0:List BL)(p1:List s6)(p2:Nat):V:=.agg [.sl false (p0.map sV),.sl false (p1.map au),iN p2]
theorem HV{k:Nat}(h:k<256):uN k=uN (UInt8.ofNat k).toNat:=by rw[UInt8.toNat_ofNat_of_lt' (by simpa using h)]
def uz(b:BL)(p:Nat)(g:Nat):G5 Tryz.prog:=.mk (List s6×Nat) 130 [.ptr (.key 1000) [] g 0] [(1000,(g,aq b p))] ((b.length<=2000)/\(p<=900000)) (fun x=>x.1.length<=4/\(∀ r,r∈x.1->r.path∈iY)/\p<=x.2/\x.2<=p+9) (fun x=>eL x.1) (fun x=>[(1000,(g,aq b x.2))]) (by
 rintro⟨hb,hp⟩
 refine fh (N:=22) (rs:=[.tmp 2]) (X:=List s6×Nat) (post:=fun x=>x.1.length<=4/\(∀ r,r∈x.1->r.path∈iY)/\p<=x.2/\x.2<=p+9) (E:=fun x=>.sl false (x.1.map au)) (H':=fun x=>[(1000,(g,.agg [.sl false (b.map n0),iN x.2]))]) Tryz.func130 Z7 rfl rfl rfl Z7 [(1000,(0,.a8))] (by intro _ k hk;simpa[lk] using hk)
  (.q 1<|.bs<|.q 1<|.q 1<|.cx (bf b p g 5) [(1000,1000)] (fun (r6:Nat)=>.q 1<|.h (.H7 3 2)<|.loop (Nat×(List s6)×Nat×Nat×Nat×Nat) (fun (n,e,q,u,f,k)=>⟨[(0,.ptr (.key 1000) [] g 0),(3,.own 2 (e.map au) u f k),(4,iN n)],[(1000,(g,aq b q))]⟩) (fun (n,e,q,u,f,k)=>e.length+n<=4/\(∀ r,r∈e->r.path∈iY)/\p<=q/\q+2*n<=p+9) (fun (n,e,q,u,f,k)=>n) (fun (n,e,q,u,f,k)=>.q 2<|.br (.q 2<|.cx (bf b q g 2) [(1000,1000)] (fun (F6:Nat)=>.q 2<|.cx (wR b (q+1) g) [(1000,1000)] (fun (w9:BL)=>.bd uB<|.bs<|.ap (fun g20 O0 Pw=>.h (.o4 20 (.own 2 ((e++[(⟨o9 (F6:Int) 0,w9⟩:s6)]).map au) g20 O0 Pw))<|.q 1<|.q 2<|.h (.o4 11 (iN (n-1)))<|.q 1<|.nil)))) (.q 2<|.h (.gZ 2)<|.h (.fz 2)<|.h (.o4 2 (eL e))<|.nil))))
  ((bf b p g 5).sm/\Er g (aq b p)/\((b.length<=2000)/\(p<=1000000)/\(5<=1000000))/\∀ r6:Nat,(5=0/\r6=0\/r6<5)->(∃ x:Nat×(List s6)×Nat×Nat×Nat×Nat,match x with | (J9,D6,z7,H6,A5,s7)=>(D6.length+J9<=4/\(∀ r,r∈D6->r.path∈iY)/\p<=z7/\z7+2*J9<=p+9)/\E (.ptr (.key 1000) [] g 0)/\Q (.own 2 ([].map au) 0 0 0) (.own 2 (D6.map au) H6 A5 s7)/\Q (iN r6) (iN J9)/\Qr g (aq b (p+1)) g (aq b z7)/\True)/\∀ x:Nat×(List s6)×Nat×Nat×Nat×Nat,match x with | (n,e,q,u,f,k)=>(e.length+n<=4/\(∀ r,r∈e->r.path∈iY)/\p<=q/\q+2*n<=p+9)->Br (s9 (n:Int) 0) ((bf b q g 2).sm/\Er g (aq b q)/\((b.length<=2000)/\(q<=1000000)/\(2<=1000000))/\∀ F6:Nat,(2=0/\F6=0\/F6<2)->(fun v1:Bool=>(wR b (q+1) g).sm/\Er g (aq b (q+1))/\((b.length<=2000)/\((q+1)<=1000000))/\∀ w9:BL,(w9∈iY)->(fun v2:List V=>((2,2,u,f,k,(e.map au).length)=(2,2,u,f,k,(e.map au).length))/\(True)/\(V.aE v2=false)/\(aJ 2 v2)/\(((e.map au).length+v2.length)*24<=140737488355328)/\∀ g20 O0 Pw:Nat,((.own 2 ((e.map au)++v2) g20 O0 Pw:V)=.own 2 ((e++[(⟨o9 (F6:Int) 0,w9⟩:s6)]).map au) g20 O0 Pw)/\m8 ((n:Int)-1)/\Q (iV ((n:Int)-1)) (iN (n-1))/\∃ x:Nat×(List s6)×Nat×Nat×Nat×Nat,match x with | (w5,x5,n9,B9,r4,k₂)=>(x5.length+w5<=4/\(∀ r,r∈x5->r.path∈iY)/\p<=n9/\n9+2*w5<=p+9)/\(w5<n)/\E (.ptr (.key 1000) [] g 0)/\Q (.own 2 ((e++[(⟨o9 (F6:Int) 0,w9⟩:s6)]).map au) g20 O0 Pw) (.own 2 (x5.map au) B9 r4 k₂)/\Q (iN (n-1)) (iN w5)/\Qr g (aq b ((q+1)+1)) g (aq b n9)/\True) ([.agg [bV v1,sV w9]]:List V)) (o9 (F6:Int) 0)) (((2,u,f,k,(e.map au).length)=(2,u,f,k,(e.map au).length))/\((.sl false (V.B8 (e.map au)):V)=eL e)/\∃ x:List s6×Nat,(x.1.length<=4/\(∀ r,r∈x.1->r.path∈iY)/\p<=x.2/\x.2<=p+9)/\Q (eL e) (eL x.1)/\Qr g (aq b q) g (aq b x.2)))
  Z7 ?_
 refine⟨rfl,rfl,⟨Z5,Z5,Z5⟩,?_⟩
 intro r6 Nt
 refine⟨⟨(r6,[],p+1,0,0,0),?_,rfl,rfl,rfl,rfl,trivial⟩,?_⟩
 simp;omega
 rintro⟨n,e,q,u,f,k⟩ ⟨h1,h2,h3,h4⟩
 refine bI (fun j7=>?_) fun j7=>?_
 refine⟨rfl,rfl,⟨Z5,Z5,Z5⟩,?_⟩
 intro F6 O3
 refine⟨rfl,rfl,⟨Z5,Z5⟩,?_⟩
 intro w9 P4
 refine⟨rfl,trivial,rfl,by simp[aJ,V.n,V.ns],Z0,?_⟩
 intro g20 O0 Pw
 refine⟨Zq (V.own 2 · g20 O0 Pw) Z8,Z9,by simp[Q];omega,?_⟩
 refine⟨(n-1,e++[(⟨o9 (F6:Int) 0,w9⟩:s6)],q+2,g20,O0,Pw),?_,?_,rfl,rfl,rfl,Z4,trivial⟩
 refine⟨Z0,?_,Z9,Z9⟩
 intro r hr
 rcases Y1.1 hr with h | h
 exact h2 r h
 rw[YZ.1 h];exact P4
 exact Z1
 refine⟨rfl,Zq (V.sl false) (aM (fun _=>rfl) _),?_⟩
 refine⟨(e,q),?_,?_,?_⟩
 try dsimp only
 exact⟨Z9,h2,Z9,Z9⟩
 first | rfl | simp_all
 first | rfl | exact⟨rfl,rfl⟩ | simp_all)
def sM(b:BL)(p:Nat)(g:Nat):G5 Tryz.prog:=.mk (List k9×Nat) 92 [.ptr (.key 1000) [] g 0] [(1000,(g,aq b p))] ((b.length<=2000)/\(p<=800000)) (fun x=>x.1.length<=4/\(∀ y,y∈x.1->C5 y)/\p<=x.2/\x.2<=p+60) (fun x=>bh x.1) (fun x=>[(1000,(g,aq b x.2))]) (by
 rintro⟨hb,hp⟩
 refine fh (N:=72) (rs:=[.tmp 2]) (X:=List k9×Nat) (post:=fun x=>x.1.length<=4/\(∀ y,y∈x.1->C5 y)/\p<=x.2/\x.2<=p+60) (E:=fun x=>.sl false (x.1.map bO)) (H':=fun x=>[(1000,(g,.agg [.sl false (b.map n0),iN x.2]))]) Tryz.func92 Z7 rfl rfl rfl Z7 [(1000,(0,.a8))] (by intro _ k hk;simpa[lk] using hk)
  (.q 1<|.bs<|.q 1<|.q 1<|.cx (bf b p g 4) [(1000,1000)] (fun (r6:Nat)=>.q 1<|.h (.H7 3 3)<|.loop (Nat×(List k9)×Nat×Nat×Nat×Nat) (fun (n,e,q,u,f,k)=>⟨[(0,.ptr (.key 1000) [] g 0),(3,.own 3 (e.map bO) u f k),(4,iN n)],[(1000,(g,aq b q))]⟩) (fun (n,e,q,u,f,k)=>e.length+n<=3/\(∀ y,y∈e->C5 y)/\p<=q/\q+15*n<=p+50) (fun (n,e,q,u,f,k)=>n) (fun (n,e,q,u,f,k)=>.q 2<|.br (.q 1<|.bs<|.cx (fb b q g ([([42]:BL),([114,111,118,101,114]:BL),([115,99,111,117,116]:BL)]:List BL)) [(1000,1000)] (fun (F6:BL)=>.bs<|.q 1<|.cx (uz b (q+1) g) [(1000,1000)] (fun (w9:List s6×Nat)=>.q 1<|.cx (bf b w9.2 g 4) [(1000,1000)] (fun (H2:Nat)=>.q 1<|.cx (bf b (w9.2+1) g 3) [(1000,1000)] (fun (G':Nat)=>.q 1<|.bd jt<|.al jt (fun g5=>.st none<|.q 1<|.cx (bf b ((w9.2+1)+1) g 4) [(1000,1000)] (fun (D5:Nat)=>.q 1<|.join (List BL×Nat) (fun y=>⟨[(0,.ptr (.key 1000) [] g 0),(3,.own 3 (e.map bO) u f k),(4,iN n),(5,.ptr (.key 5) [] g5 0)],[(1000,(g,aq b y.2)),(5,(g5,eS y.1 w9.1 (H2*G')))]⟩) (fun y=>y.1.length<=2/\(∀ x,x∈y.1->x.length<=5/\m5 x)/\q<=y.2/\y.2<=q+15) (.dx 7 [0,1,2,3,4,5,6] [(1,⟨false,[],some [5],[29],[]⟩),(4,⟨true,[],some [1000],[32],[1000]⟩),(6,⟨true,[],none,[34],[]⟩)] []<|.q 1<|.r 1 [.a8]<|.q 1<|.bs<|.cx (fb b (((w9.2+1)+1)+1) g ([([42]:BL),([114,111,118,101,114]:BL),([120]:BL)]:List BL)) [(1000,1000)] (fun (NQ:BL)=>.bs<|.ux none (fun UI Ul UN=>.h (.o4 34 (.own 1 ([F6,NQ].map sV) UI Ul UN))<|.q 1<|.h (.fz 34)<|.h (.o4 34 (.sl false ([F6,NQ].map sV)))<|.st none<|.nil))) (.nil) (fun y=>.r 9 [.a8,.a8]<|.br (.r 2 [.a8]<|.bs<|.ap (fun K9 K7 L0=>.h (.o4 48 (.own 3 ((e++[(⟨y.1,w9.1,H2*G'⟩:k9)]).map bO) K9 K7 L0))<|.q 1<|.q 2<|.h (.o4 12 (iN (n-1)))<|.q 1<|.nil)) (.q 2<|.h (.o4 12 (iN (n-1)))<|.q 1<|.nil))))))))) (.q 1<|.cx (bf b q g 24) [(1000,1000)] (fun (E5:Nat)=>.q 2<|.br (.q 1<|.bs<|.bd jt<|.h (.VX 55 (.agg [.sl false ([[120]].map sV),.sl false ([].map au),iN 0]))<|.bs<|.ap (fun Tc Sw Tp=>.h (.o4 57 (.own 3 ((e++[(⟨[[120]],[],0⟩:k9)]).map bO) Tc Sw Tp))<|.q 1<|.q 2<|.h (.gZ 2)<|.h (.fz 2)<|.h (.o4 2 (bh (e++[(⟨[[120]],[],0⟩:k9)])))<|.nil)) (.q 2<|.br (.q 1<|.bd jt<|.h (.VX 61 (.agg [.sl false ([].map sV),.sl false ([].map au),iN 2]))<|.bs<|.ap (fun Ta Su Tn=>.h (.o4 63 (.own 3 ((e++[(⟨[],[],2⟩:k9)]).map bO) Ta Su Tn))<|.q 1<|.q 2<|.h (.gZ 2)<|.h (.fz 2)<|.h (.o4 2 (bh (e++[(⟨[],[],2⟩:k9)])))<|.nil)) (.q 2<|.br (.q 1<|.bs<|.bd jt<|.h (.VX 68 (.agg [.sl false ([[88]].map sV),.sl false ([].map au),iN 2]))<|.bs<|.ap (fun S' St Tm=>.h (.o4 70 (.own 3 ((e++[(⟨[[88]],[],2⟩:k9)]).map bO) S' St Tm))<|.q 1<|.q 2<|.h (.gZ 2)<|.h (.fz 2)<|.h (.o4 2 (bh (e++[(⟨[[88]],[],2⟩:k9)])))<|.nil)) (.q 2<|.h (.gZ 2)<|.h (.fz 2)<|.h (.o4 2 (bh e))<|.nil))))))))
  ((fun v1:BL=>(fun v2:List V=>(fun v3:List V=>(fun v4:List V=>(fun v5:BL=>(fun v6:BL=>(fun v7:V=>(fun v8:BL=>((bf b p g 4).sm/\Er g (aq b p)/\((b.length<=2000)/\(p<=1000000)/\(4<=1000000))/\∀ r6:Nat,(4=0/\r6=0\/r6<4)->(∃ x:Nat×(List k9)×Nat×Nat×Nat×Nat,match x with | (J9,D6,z7,H6,A5,s7)=>(D6.length+J9<=3/\(∀ y,y∈D6->C5 y)/\p<=z7/\z7+15*J9<=p+50)/\E v7/\Q (.own 3 ([].map bO) 0 0 0) (.own 3 (D6.map bO) H6 A5 s7)/\Q (iN r6) (iN J9)/\Qr g (aq b (p+1)) g (aq b z7)/\True)/\∀ x:Nat×(List k9)×Nat×Nat×Nat×Nat,match x with | (n,e,q,u,f,k)=>(e.length+n<=3/\(∀ y,y∈e->C5 y)/\p<=q/\q+15*n<=p+50)->(fun v9:V=>(fun v10:V=>Br (s9 (n:Int) 0) ((fb b q g ([v5,v1,v6]:List BL)).sm/\Er g (aq b q)/\((b.length<=2000)/\(q<=1000000)/\(1<=([v5,v1,v6]:List BL).length)/\(([v5,v1,v6]:List BL).length<=1000))/\∀ F6:BL,(F6∈([v5,v1,v6]:List BL))->(uz b (q+1) g).sm/\Er g v9/\((b.length<=2000)/\((q+1)<=900000))/\∀ w9:List s6×Nat,(w9.1.length<=4/\(∀ r,r∈w9.1->r.path∈iY)/\(q+1)<=w9.2/\w9.2<=(q+1)+9)->(fun v11:Bool=>(bf b w9.2 g 4).sm/\Er g (aq b w9.2)/\((b.length<=2000)/\(w9.2<=1000000)/\(4<=1000000))/\∀ H2:Nat,(4=0/\H2=0\/H2<4)->(bf b (w9.2+1) g 3).sm/\Er g (aq b (w9.2+1))/\((b.length<=2000)/\((w9.2+1)<=1000000)/\(3<=1000000))/\∀ G':Nat,(3=0/\G'=0\/G'<3)->m8 ((H2:Int)*(G':Int))/\∀ g5:Nat,Z g5 0/\(bf b ((w9.2+1)+1) g 4).sm/\Er g (aq b ((w9.2+1)+1))/\((b.length<=2000)/\(((w9.2+1)+1)<=1000000)/\(4<=1000000))/\∀ D5:Nat,(4=0/\D5=0\/D5<4)->((o9 (D5:Int) 0)=true->Z g5 0/\(fb b (((w9.2+1)+1)+1) g ([v5,v1,v8]:List BL)).sm/\Er g (aq b (((w9.2+1)+1)+1))/\((b.length<=2000)/\((((w9.2+1)+1)+1)<=1000000)/\(1<=([v5,v1,v8]:List BL).length)/\(([v5,v1,v8]:List BL).length<=1000))/\∀ NQ:BL,(NQ∈([v5,v1,v8]:List BL))->(fun v12:List V=>(((aJ 1 [sV F6]/\0<v12.length))/\(V.aE v12=false)/\(aJ 1 v12)/\((([sV F6]:List V).length+v12.length)*16<=140737488355328))/\∀ UI Ul UN:Nat,((.own 1 (([sV F6]:List V)++v12) UI Ul UN:V)=.own 1 ([F6,NQ].map sV) UI Ul UN)/\((.sl false (V.B8 ([F6,NQ].map sV)):V)=.sl false ([F6,NQ].map sV))/\Z g5 0/\∃ y:List BL×Nat,(y.1.length<=2/\(∀ x,x∈y.1->x.length<=5/\m5 x)/\q<=y.2/\y.2<=q+15)/\E v7/\E v10/\E (iN n)/\E (.ptr (.key 5) [] g5 0)/\Qr g (aq b ((((w9.2+1)+1)+1)+1)) g (aq b y.2)/\Qr g5 (jz (.sl false ([F6,NQ].map sV)) w9.1 (H2*G')) g5 (eS y.1 w9.1 (H2*G'))/\True) ([sV NQ]:List V))/\((o9 (D5:Int) 0)=false->∃ y:List BL×Nat,(y.1.length<=2/\(∀ x,x∈y.1->x.length<=5/\m5 x)/\q<=y.2/\y.2<=q+15)/\E v7/\E v10/\E (iN n)/\E (.ptr (.key 5) [] g5 0)/\Qr g (aq b (((w9.2+1)+1)+1)) g (aq b y.2)/\Qr g5 (jz (.sl false [sV F6]) w9.1 (H2*G')) g5 (eS y.1 w9.1 (H2*G'))/\True)/\(∀ y:List BL×Nat,(y.1.length<=2/\(∀ x,x∈y.1->x.length<=5/\m5 x)/\q<=y.2/\y.2<=q+15)->Z g5 1/\Gd (v11==false) (Z g5 2)/\Pk v11 true (v11==false)/\Br (v11||(s9 ((H2*G':Nat):Int) 0)) (Z g5 0/\((3,3,u,f,k,(e.map bO).length)=(3,3,u,f,k,(e.map bO).length))/\(True)/\(V.aE ([eS y.1 w9.1 (H2*G')]:List V)=false)/\(aJ 3 ([eS y.1 w9.1 (H2*G')]:List V))/\(((e.map bO).length+([eS y.1 w9.1 (H2*G')]:List V).length)*56<=140737488355328)/\∀ K9 K7 L0:Nat,((.own 3 ((e.map bO)++([eS y.1 w9.1 (H2*G')]:List V)) K9 K7 L0:V)=.own 3 ((e++[(⟨y.1,w9.1,H2*G'⟩:k9)]).map bO) K9 K7 L0)/\m8 ((n:Int)-1)/\Q (iV ((n:Int)-1)) (iN (n-1))/\∃ x:Nat×(List k9)×Nat×Nat×Nat×Nat,match x with | (w5,x5,n9,B9,r4,k₂)=>(x5.length+w5<=3/\(∀ y,y∈x5->C5 y)/\p<=n9/\n9+15*w5<=p+50)/\(w5<n)/\E v7/\Q (.own 3 ((e++[(⟨y.1,w9.1,H2*G'⟩:k9)]).map bO) K9 K7 L0) (.own 3 (x5.map bO) B9 r4 k₂)/\Q (iN (n-1)) (iN w5)/\Qr g (aq b y.2) g (aq b n9)/\True) (m8 ((n:Int)-1)/\Q (iV ((n:Int)-1)) (iN (n-1))/\∃ x:Nat×(List k9)×Nat×Nat×Nat×Nat,match x with | (w5,x5,n9,B9,r4,k₂)=>(x5.length+w5<=3/\(∀ y,y∈x5->C5 y)/\p<=n9/\n9+15*w5<=p+50)/\(w5<n)/\E v7/\Q v10 (.own 3 (x5.map bO) B9 r4 k₂)/\Q (iN (n-1)) (iN w5)/\Qr g (aq b y.2) g (aq b n9)/\True))) (s9 (((w9.1.map au).length:Nat):Int) 0)) ((bf b q g 24).sm/\Er g (aq b q)/\((b.length<=2000)/\(q<=1000000)/\(24<=1000000))/\∀ E5:Nat,(24=0/\E5=0\/E5<24)->Br (o9 (E5:Int) 0) (((3,3,u,f,k,(e.map bO).length)=(3,3,u,f,k,(e.map bO).length))/\(True)/\(V.aE v2=false)/\(aJ 3 v2)/\(((e.map bO).length+v2.length)*56<=140737488355328)/\∀ Tc Sw Tp:Nat,((.own 3 ((e.map bO)++v2) Tc Sw Tp:V)=.own 3 ((e++[(⟨[[120]],[],0⟩:k9)]).map bO) Tc Sw Tp)/\((3,Tc,Sw,Tp,((e++[(⟨[[120]],[],0⟩:k9)]).map bO).length)=(3,Tc,Sw,Tp,((e++[(⟨[[120]],[],0⟩:k9)]).map bO).length))/\((.sl false (V.B8 ((e++[(⟨[[120]],[],0⟩:k9)]).map bO)):V)=bh (e++[(⟨[[120]],[],0⟩:k9)]))/\∃ x:List k9×Nat,(x.1.length<=4/\(∀ y,y∈x.1->C5 y)/\p<=x.2/\x.2<=p+60)/\Q (bh (e++[(⟨[[120]],[],0⟩:k9)])) (bh x.1)/\Qr g v9 g (aq b x.2)) (Br (o9 (E5:Int) 1) (((3,3,u,f,k,(e.map bO).length)=(3,3,u,f,k,(e.map bO).length))/\(True)/\(V.aE v4=false)/\(aJ 3 v4)/\(((e.map bO).length+v4.length)*56<=140737488355328)/\∀ Ta Su Tn:Nat,((.own 3 ((e.map bO)++v4) Ta Su Tn:V)=.own 3 ((e++[(⟨[],[],2⟩:k9)]).map bO) Ta Su Tn)/\((3,Ta,Su,Tn,((e++[(⟨[],[],2⟩:k9)]).map bO).length)=(3,Ta,Su,Tn,((e++[(⟨[],[],2⟩:k9)]).map bO).length))/\((.sl false (V.B8 ((e++[(⟨[],[],2⟩:k9)]).map bO)):V)=bh (e++[(⟨[],[],2⟩:k9)]))/\∃ x:List k9×Nat,(x.1.length<=4/\(∀ y,y∈x.1->C5 y)/\p<=x.2/\x.2<=p+60)/\Q (bh (e++[(⟨[],[],2⟩:k9)])) (bh x.1)/\Qr g v9 g (aq b x.2)) (Br (o9 (E5:Int) 2) (((3,3,u,f,k,(e.map bO).length)=(3,3,u,f,k,(e.map bO).length))/\(True)/\(V.aE v3=false)/\(aJ 3 v3)/\(((e.map bO).length+v3.length)*56<=140737488355328)/\∀ S' St Tm:Nat,((.own 3 ((e.map bO)++v3) S' St Tm:V)=.own 3 ((e++[(⟨[[88]],[],2⟩:k9)]).map bO) S' St Tm)/\((3,S',St,Tm,((e++[(⟨[[88]],[],2⟩:k9)]).map bO).length)=(3,S',St,Tm,((e++[(⟨[[88]],[],2⟩:k9)]).map bO).length))/\((.sl false (V.B8 ((e++[(⟨[[88]],[],2⟩:k9)]).map bO)):V)=bh (e++[(⟨[[88]],[],2⟩:k9)]))/\∃ x:List k9×Nat,(x.1.length<=4/\(∀ y,y∈x.1->C5 y)/\p<=x.2/\x.2<=p+60)/\Q (bh (e++[(⟨[[88]],[],2⟩:k9)])) (bh x.1)/\Qr g v9 g (aq b x.2)) (((3,u,f,k,(e.map bO).length)=(3,u,f,k,(e.map bO).length))/\((.sl false (V.B8 (e.map bO)):V)=bh e)/\∃ x:List k9×Nat,(x.1.length<=4/\(∀ y,y∈x.1->C5 y)/\p<=x.2/\x.2<=p+60)/\Q (bh e) (bh x.1)/\Qr g v9 g (aq b x.2)))))) (.own 3 (e.map bO) u f k)) (aq b (q+1)))) ([120]:BL)) (.ptr (.key 1000) [] g 0)) ([115,99,111,117,116]:BL)) ([42]:BL)) ([.agg [.sl false ([].map sV),.sl false ([].map au),iN 2]]:List V)) ([.agg [.sl false ([[88]].map sV),.sl false ([].map au),iN 2]]:List V)) ([.agg [.sl false ([[120]].map sV),.sl false ([].map au),iN 0]]:List V)) ([114,111,118,101,114]:BL))
  Z7 ?_
 refine⟨rfl,rfl,⟨Z9,Z9,Z9⟩,?_⟩
 intro r6 Nt
 refine⟨⟨(r6,[],p+1,0,0,0),?_,rfl,rfl,rfl,rfl,trivial⟩,?_⟩
 simp;omega
 rintro⟨n,e,q,u,f,k⟩ ⟨h1,h2,h3,h4⟩
 refine bI (fun j7=>?_) fun j7=>?_
 refine⟨rfl,rfl,⟨Z9,Z9,Z8,Z8⟩,?_⟩
 intro F6 O3
 refine⟨rfl,rfl,⟨Z9,Z9⟩,?_⟩
 intro w9 P4
 refine⟨rfl,rfl,⟨Z9,Z9,Z9⟩,?_⟩
 intro H2 Yb
 refine⟨rfl,rfl,⟨Z9,Z9,Z9⟩,?_⟩
 intro G' Ya
 refine⟨by have:=Nat.mul_le_mul (show H2<=3 by omega) (show G'<=2 by omega);omega,?_⟩
 intro g5
 refine⟨rfl,rfl,rfl,⟨Z9,Z9,Z9⟩,?_⟩
 intro D5 Q4
 refine⟨fun l6=>?_,fun l6=>?_,fun y hy=>?_⟩
 try simp only[nb]at l6
 refine⟨rfl,rfl,rfl,⟨Z9,Z9,Z8,Z8⟩,?_⟩
 intro NQ SL
 refine⟨⟨⟨by simp[aJ,V.n,V.ns],Z8⟩,rfl,by simp[aJ,V.n,V.ns],Z8⟩,?_⟩
 intro UI Ul UN
 refine⟨Zq (V.own 1 · UI Ul UN) Z8,Zq (V.sl false) (aM (fun _=>rfl) _),rfl,?_⟩
 exact⟨([F6,NQ],(((w9.2+1)+1)+1)+1),⟨Z8,fun x hx=>(List.mem_cons.1 hx).elim (fun h=>h ▸ ⟨bP rfl O3,dK rfl O3⟩) fun h=>YZ.1 h ▸ ⟨bP rfl SL,dK rfl SL⟩,Z9,Z9⟩,rfl,rfl,rfl,rfl,Z4,Z4,trivial⟩
 try simp only[nb]at l6
 exact⟨([F6],((w9.2+1)+1)+1),⟨Z8,fun x hx=>YZ.1 hx ▸ ⟨bP rfl O3,dK rfl O3⟩,Z9,Z9⟩,rfl,rfl,rfl,rfl,Z4,Z4,trivial⟩
 refine⟨rfl,fun hG=>rfl,⟨fun _=>rfl,fun h=>by rw[h] <;> rfl⟩,?_⟩
 refine bI (fun n6=>?_) fun n6=>?_
 refine⟨rfl,rfl,trivial,rfl,by simp[aJ,V.n,V.ns],Z0,?_⟩
 intro K9 K7 L0
 refine⟨Zq (V.own 3 · K9 K7 L0) Z8,Z9,by simp[Q];omega,?_⟩
 refine⟨(n-1,e++[(⟨y.1,w9.1,H2*G'⟩:k9)],y.2,K9,K7,L0),?_,?_,rfl,rfl,rfl,rfl,trivial⟩
 refine⟨Z0,gJ h2 ⟨hy.1,fun x hx=>(hy.2.1 x hx).1,P4.1,P4.2.1,?_,fun x hx=>(hy.2.1 x hx).2⟩,Z9,Z9⟩
 exact Nat.mul_le_mul (show H2<=3 by omega) (show G'<=2 by omega)
 exact Z1
 refine⟨Z9,by simp[Q];omega,?_⟩
 refine⟨(n-1,e,y.2,u,f,k),?_,?_,rfl,rfl,rfl,rfl,trivial⟩
 exact⟨Z9,h2,Z9,Z9⟩
 exact Z1
 refine⟨rfl,rfl,⟨Z9,Z9,Z9⟩,?_⟩
 intro E5 E7
 refine bI (fun w6=>?_) fun w6=>?_
 refine⟨rfl,trivial,rfl,by simp[aJ,V.n,V.ns],Z0,?_⟩
 intro Tc Sw Tp
 refine⟨Zq (V.own 3 · Tc Sw Tp) Z8,rfl,Zq (V.sl false) (aM (fun _=>rfl) _),?_⟩
 refine⟨(e++[(⟨[[120]],[],0⟩:k9)],q+1),?_,?_,?_⟩
 try dsimp only
 exact⟨Z0,gJ h2 ⟨Z8,Z8,Z8,Z8,Z8,by first | (solve | simp) | (intro x hx;rw[YZ.1 hx];exact bJ rfl)⟩,Z9,Z9⟩
 first | rfl | simp_all
 first | rfl | exact⟨rfl,rfl⟩ | simp_all
 refine bI (fun G8=>?_) fun G8=>?_
 refine⟨rfl,trivial,rfl,by simp[aJ,V.n,V.ns],Z0,?_⟩
 intro Ta Su Tn
 refine⟨Zq (V.own 3 · Ta Su Tn) Z8,rfl,Zq (V.sl false) (aM (fun _=>rfl) _),?_⟩
 refine⟨(e++[(⟨[],[],2⟩:k9)],q+1),?_,?_,?_⟩
 try dsimp only
 exact⟨Z0,gJ h2 ⟨Z8,Z8,Z8,Z8,Z8,by first | (solve | simp) | (intro x hx;rw[YZ.1 hx];exact bJ rfl)⟩,Z9,Z9⟩
 first | rfl | simp_all
 first | rfl | exact⟨rfl,rfl⟩ | simp_all
 refine bI (fun NK=>?_) fun NK=>?_
 refine⟨rfl,trivial,rfl,by simp[aJ,V.n,V.ns],Z0,?_⟩
 intro S' St Tm
 refine⟨Zq (V.own 3 · S' St Tm) Z8,rfl,Zq (V.sl false) (aM (fun _=>rfl) _),?_⟩
 refine⟨(e++[(⟨[[88]],[],2⟩:k9)],q+1),?_,?_,?_⟩
 try dsimp only
 exact⟨Z0,gJ h2 ⟨Z8,Z8,Z8,Z8,Z8,by first | (solve | simp) | (intro x hx;rw[YZ.1 hx];exact bJ rfl)⟩,Z9,Z9⟩
 first | rfl | simp_all
 first | rfl | exact⟨rfl,rfl⟩ | simp_all
 refine⟨rfl,Zq (V.sl false) (aM (fun _=>rfl) _),?_⟩
 refine⟨(e,q+1),?_,?_,?_⟩
 try dsimp only
 exact⟨Z9,h2,Z9,Z9⟩
 first | rfl | simp_all
 first | rfl | exact⟨rfl,rfl⟩ | simp_all)
def eH(b:BL)(p:Nat)(g:Nat):G5 Tryz.prog:=.mk (BL×Nat) 93 [.ptr (.key 1000) [] g 0] [(1000,(g,aq b p))] ((b.length<=2000)/\(p<=900000)) (fun x=>x.1.length<=25/\p<=x.2/\x.2<=p+6/\m5 x.1) (fun x=>sV x.1) (fun x=>[(1000,(g,aq b x.2))]) (by
 rintro⟨hb,hp⟩
 refine fh (N:=35) (rs:=[.tmp 2]) (X:=BL×Nat) (post:=fun x=>x.1.length<=25/\p<=x.2/\x.2<=p+6/\m5 x.1) (E:=fun x=>sV x.1) (H':=fun x=>[(1000,(g,.agg [.sl false (b.map n0),iN x.2]))]) Tryz.func93 Z7 rfl rfl rfl Z7 [(1000,(0,.a8))] (by intro _ k hk;simpa[lk] using hk)
  (.q 1<|.c (lr) []<|.q 1<|.cx (bf b p g 4) [(1000,1000)] (fun (w3:Nat)=>.r 2 [sV (aP.getD w3 [])]<|.bd dg<|.al dg (fun g3=>.st none<|.q 1<|.cx (bf b (p+1) g 3) [(1000,1000)] (fun (r6:Nat)=>.q 1<|.h (.y7 (.key 3) [1] 1)<|.loop (Nat×(List BL)×Nat×Nat×Nat×Nat) (fun (n,e,q,u,f,k)=>⟨[(0,.ptr (.key 1000) [] g 0),(3,.ptr (.key 3) [] g3 0),(4,iN n)],[(1000,(g,aq b q)),(3,(g3,.agg [sV (aP.getD w3 []),.own 1 (e.map sV) u f k,bV false,sV []]))]⟩) (fun (n,e,q,u,f,k)=>e.length+n<=2/\(∀ y,y∈e->y.length<=6/\m5 y)/\p<=q/\q+n<=p+4) (fun (n,e,q,u,f,k)=>n) (fun (n,e,q,u,f,k)=>.q 2<|.br (.dx 7 [0,1,2,3,4,5,6] [(1,⟨false,[],some [3],[18],[]⟩),(4,⟨true,[],some [1000],[21],[1000]⟩),(6,⟨true,[],none,[23],[3]⟩)] []<|.q 1<|.r 1 [.a8]<|.q 1<|.bs<|.cx (fb b q g ([([97]:BL),([98]:BL),([99]:BL),([110,111,116,105,99,101]:BL)]:List BL)) [(1000,1000)] (fun (OH:BL)=>.bs<|.ux none (fun g23 OZ Pv=>.h (.o4 23 (.own 1 ((e++[OH]).map sV) g23 OZ Pv))<|.q 1<|.st none<|.q 2<|.h (.o4 16 (iN (n-1)))<|.q 1<|.nil))) (.q 1<|.cx (bf b q g 8) [(1000,1000)] (fun (D5:Nat)=>.q 1<|.br (.q 1<|.st none<|.q 1<|.bs<|.cx (fb b (q+1) g ([[],([97]:BL),([98,37,51,68]:BL)]:List BL)) [(1000,1000)] (fun (K4:BL)=>.q 1<|.st none<|.mv<|.h (.fz 33)<|.h (.o4 33 (.agg [sV (aP.getD w3 []),ao e,bV true,sV K4]))<|.c (js (⟨(aP.getD w3 []),e,true,K4⟩:r8)) []<|.q 1<|.nil)) (.mv<|.h (.fz 33)<|.h (.o4 33 (.agg [sV (aP.getD w3 []),ao e,bV false,sV []]))<|.c (js (⟨(aP.getD w3 []),e,false,[]⟩:r8)) []<|.q 1<|.nil))))))))
  ((fun v1:BL=>(fun v2:BL=>(fun v3:BL=>(fun v4:BL=>(fun v5:BL=>((lr).sm/\(True)/\(bf b p g 4).sm/\Er g (aq b p)/\((b.length<=2000)/\(p<=1000000)/\(4<=1000000))/\∀ w3:Nat,(4=0/\w3=0\/w3<4)->Ex (w3:Int) (aP.map sV) (sV (aP.getD w3 []))/\True/\∀ g3:Nat,Z g3 0/\(bf b (p+1) g 3).sm/\Er g (aq b (p+1))/\((b.length<=2000)/\((p+1)<=1000000)/\(3<=1000000))/\∀ r6:Nat,(3=0/\r6=0\/r6<3)->(∃ x:Nat×(List BL)×Nat×Nat×Nat×Nat,match x with | (J9,D6,z7,H6,A5,s7)=>(D6.length+J9<=2/\(∀ y,y∈D6->y.length<=6/\m5 y)/\p<=z7/\z7+J9<=p+4)/\E (.ptr (.key 1000) [] g 0)/\E (.ptr (.key 3) [] g3 0)/\Q (iN r6) (iN J9)/\Qr g (aq b ((p+1)+1)) g (aq b z7)/\Qr g3 (.agg [sV (aP.getD w3 []),.own 1 ([].map sV) 0 0 0,bV false,sV []]) g3 (.agg [sV (aP.getD w3 []),.own 1 (D6.map sV) H6 A5 s7,bV false,sV []])/\True)/\∀ x:Nat×(List BL)×Nat×Nat×Nat×Nat,match x with | (n,e,q,u,f,k)=>(e.length+n<=2/\(∀ y,y∈e->y.length<=6/\m5 y)/\p<=q/\q+n<=p+4)->Br (s9 (n:Int) 0) (Z g3 1/\(fb b q g ([v2,v4,v5,v1]:List BL)).sm/\Er g (aq b q)/\((b.length<=2000)/\(q<=1000000)/\(1<=([v2,v4,v5,v1]:List BL).length)/\(([v2,v4,v5,v1]:List BL).length<=1000))/\∀ OH:BL,(OH∈([v2,v4,v5,v1]:List BL))->(fun v6:List V=>(((1,1,u,f,k,(e.map sV).length)=(1,1,u,f,k,(e.map sV).length))/\(V.aE v6=false)/\(aJ 1 v6)/\(((e.map sV).length+v6.length)*16<=140737488355328))/\∀ g23 OZ Pv:Nat,((.own 1 ((e.map sV)++v6) g23 OZ Pv:V)=.own 1 ((e++[OH]).map sV) g23 OZ Pv)/\Z g3 1/\m8 ((n:Int)-1)/\Q (iV ((n:Int)-1)) (iN (n-1))/\∃ x:Nat×(List BL)×Nat×Nat×Nat×Nat,match x with | (w5,x5,n9,B9,r4,k₂)=>(x5.length+w5<=2/\(∀ y,y∈x5->y.length<=6/\m5 y)/\p<=n9/\n9+w5<=p+4)/\(w5<n)/\E (.ptr (.key 1000) [] g 0)/\E (.ptr (.key 3) [] g3 0)/\Q (iN (n-1)) (iN w5)/\Qr g (aq b (q+1)) g (aq b n9)/\Qr g3 (.agg [sV (aP.getD w3 []),.own 1 ((e++[OH]).map sV) g23 OZ Pv,bV false,sV []]) g3 (.agg [sV (aP.getD w3 []),.own 1 (x5.map sV) B9 r4 k₂,bV false,sV []])/\True) ([sV OH]:List V)) ((bf b q g 8).sm/\Er g (aq b q)/\((b.length<=2000)/\(q<=1000000)/\(8<=1000000))/\∀ D5:Nat,(8=0/\D5=0\/D5<8)->Br (o9 (D5:Int) 0) (Z g3 2/\(fb b (q+1) g ([[],v2,v3]:List BL)).sm/\Er g (aq b (q+1))/\((b.length<=2000)/\((q+1)<=1000000)/\(1<=([[],v2,v3]:List BL).length)/\(([[],v2,v3]:List BL).length<=1000))/\∀ K4:BL,(K4∈([[],v2,v3]:List BL))->Z g3 3/\Z g3 0/\((.agg [sV (aP.getD w3 []),.sl false (V.B8 (e.map sV)),bV true,sV K4]:V)=.agg [sV (aP.getD w3 []),ao e,bV true,sV K4])/\(js (⟨(aP.getD w3 []),e,true,K4⟩:r8)).sm/\((dZ (⟨(aP.getD w3 []),e,true,K4⟩:r8)))/\∃ x:BL×Nat,(x.1.length<=25/\p<=x.2/\x.2<=p+6/\m5 x.1)/\Q (sV (bE (⟨(aP.getD w3 []),e,true,K4⟩:r8))) (sV x.1)/\Qr g (aq b ((q+1)+1)) g (aq b x.2)) (Z g3 0/\((.agg [sV (aP.getD w3 []),.sl false (V.B8 (e.map sV)),bV false,sV []]:V)=.agg [sV (aP.getD w3 []),ao e,bV false,sV []])/\(js (⟨(aP.getD w3 []),e,false,[]⟩:r8)).sm/\((dZ (⟨(aP.getD w3 []),e,false,[]⟩:r8)))/\∃ x:BL×Nat,(x.1.length<=25/\p<=x.2/\x.2<=p+6/\m5 x.1)/\Q (sV (bE (⟨(aP.getD w3 []),e,false,[]⟩:r8))) (sV x.1)/\Qr g (aq b (q+1)) g (aq b x.2))))) ([99]:BL)) ([98]:BL)) ([98,37,51,68]:BL)) ([97]:BL)) ([110,111,116,105,99,101]:BL))
  Z7 ?_
 refine⟨rfl,trivial,rfl,rfl,⟨Z9,Z9,Z9⟩,?_⟩
 intro w3 O4
 refine⟨FA (by show _<4;omega),trivial,?_⟩
 intro g3
 refine⟨rfl,rfl,rfl,⟨Z9,Z9,Z9⟩,?_⟩
 intro r6 Nt
 refine⟨⟨(r6,[],p+1+1,0,0,0),?_,rfl,rfl,rfl,Z4,rfl,trivial⟩,?_⟩
 simp;omega
 rintro⟨n,e,q,u,f,k⟩ ⟨h1,h2,h3,h4⟩
 refine bI (fun j7=>?_) fun j7=>?_
 refine⟨rfl,rfl,rfl,⟨Z9,Z9,Z8,Z8⟩,?_⟩
 intro OH SN
 refine⟨⟨rfl,rfl,by simp[aJ,V.n,V.ns],Z0⟩,?_⟩
 intro g23 OZ Pv
 refine⟨Zq (V.own 1 · g23 OZ Pv) Z8,rfl,Z9,by simp[Q];omega,?_⟩
 refine⟨(n-1,e++[OH],q+1,g23,OZ,Pv),?_,?_,rfl,rfl,rfl,rfl,rfl,trivial⟩
 exact⟨Z0,gJ h2 ⟨bP rfl SN,dK rfl SN⟩,Z9,Z9⟩
 exact Z1
 refine⟨rfl,rfl,⟨Z9,Z9,Z9⟩,?_⟩
 intro D5 Q4
 refine bI (fun l6=>?_) fun l6=>?_
 refine⟨rfl,rfl,rfl,⟨Z9,Z9,Z8,Z8⟩,?_⟩
 intro K4 Og
 refine⟨rfl,rfl,by simp only[aM (f:=sV) (fun _=>rfl)],rfl,(og (db rfl _) (by simp only;omega) (fun x hx=>(h2 x hx).1) (by first | exact bP rfl Og | simp)).1,?_⟩
 refine⟨(bE (⟨(aP.getD w3 []),e,true,K4⟩:r8),(q+1)+1),?_,?_,?_⟩
 try dsimp only
 exact⟨(og (db rfl _) (by simp only;omega) (fun x hx=>(h2 x hx).1) (bP rfl Og)).2,Z9,Z9,Be (eD rfl _) (fun x hx=>(h2 x hx).2) (dK rfl Og)⟩
 first | rfl | simp_all
 first | rfl | exact⟨rfl,rfl⟩ | simp_all
 refine⟨rfl,by simp only[aM (f:=sV) (fun _=>rfl)],rfl,(og (db rfl _) (by simp only;omega) (fun x hx=>(h2 x hx).1) (by first | exact bP rfl Og | simp)).1,?_⟩
 refine⟨(bE (⟨(aP.getD w3 []),e,false,[]⟩:r8),q+1),?_,?_,?_⟩
 try dsimp only
 exact⟨(og (db rfl _) (by simp only;omega) (fun x hx=>(h2 x hx).1) Z8).2,Z9,Z9,Be (eD rfl _) (fun x hx=>(h2 x hx).2) aZ⟩
 first | rfl | simp_all
 first | rfl | exact⟨rfl,rfl⟩ | simp_all)
def gu(b:BL)(p:Nat)(g:Nat):G5 Tryz.prog:=.mk (BL×Nat) 131 [.ptr (.key 1000) [] g 0] [(1000,(g,aq b p))] ((b.length<=2000)/\(p<=890000)) (fun x=>x.1.length<=25/\p<=x.2/\x.2<=p+7/\m5 x.1) (fun x=>sV x.1) (fun x=>[(1000,(g,aq b x.2))]) (by
 rintro⟨hb,hp⟩
 refine fh (N:=34) (rs:=[.tmp 2]) (X:=BL×Nat) (post:=fun x=>x.1.length<=25/\p<=x.2/\x.2<=p+7/\m5 x.1) (E:=fun x=>sV x.1) (H':=fun x=>[(1000,(g,.agg [.sl false (b.map n0),iN x.2]))]) Tryz.func131 Z7 rfl rfl rfl Z7 [(1000,(0,.a8))] (by intro _ k hk;simpa[lk] using hk)
  (.q 1<|.q 1<|.cx (bf b p g 8) [(1000,1000)] (fun (l5:Nat)=>.q 2<|.join (Bool) (fun c=>⟨[(0,.ptr (.key 1000) [] g 0),(4,iN l5),(5,bV c)],[(1000,(g,aq b (p+1)))]⟩) (fun c=>True) (.nil) (.q 2<|.nil) (fun c=>.br (.q 1<|.cx (eH b (p+1) g) [(1000,1000)] (fun (I2:BL×Nat)=>.q 1<|.nil)) (.q 2<|.br (.q 1<|.bs<|.cx (fb b (p+1) g ([([97]:BL),([98]:BL),([97,47,98]:BL),([99,47,46,46,47,98]:BL),[],([120,47,46,47,99]:BL)]:List BL)) [(1000,1000)] (fun (Qe:BL)=>.q 2<|.nil)) (.q 2<|.br (.q 1<|.bs<|.cx (fb b (p+1) g ([([46,46]:BL),([46,46,47,99]:BL),([46,46,47,46,46,47,46,46]:BL),([46]:BL),([46,47,97]:BL)]:List BL)) [(1000,1000)] (fun (K4:BL)=>.q 1<|.nil)) (.q 2<|.br (.q 1<|.bs<|.cx (fb b (p+1) g ([([63,97]:BL),([63]:BL),([35,116,111,112]:BL),[],([97,35,98]:BL),([98,63,97]:BL)]:List BL)) [(1000,1000)] (fun (OQ:BL)=>.q 1<|.nil)) (.q 2<|.br (.q 1<|.bs<|.cx (fb b (p+1) g ([([47,47,65,66,47,97]:BL),([47,47,99,100]:BL),([47,47,99,100,63,120]:BL),([47,47,97,98,47,37,54,49]:BL),([47,47,116,111,111,108,111,110,103,47,97]:BL),([47,47,97,49,47,98]:BL),([47,47,47,97]:BL)]:List BL)) [(1000,1000)] (fun (OP:BL)=>.q 1<|.nil)) (.q 1<|.bs<|.cx (fb b (p+1) g ([([97]:BL),([98]:BL),([99]:BL),([97,47,98]:BL)]:List BL)) [(1000,1000)] (fun (OO:BL)=>.q 1<|.nil)))))))))
  ((fun v1:BL=>(fun v2:BL=>(fun v3:BL=>(fun v4:BL=>(fun v5:BL=>(fun v6:BL=>(fun v7:BL=>(fun v8:BL=>(fun v9:BL=>(fun v10:BL=>(fun v11:BL=>(fun v12:BL=>(fun H5:V=>(fun M':BL=>(fun NS:BL=>(fun N9:BL=>(fun Py:V=>(fun OR:BL=>(fun V1:BL=>(fun v20:BL=>(fun v21:BL=>(fun v22:BL=>(fun V0:BL=>(fun v24:BL=>(fun VZ:BL=>((bf b p g 8).sm/\Er g (aq b p)/\((b.length<=2000)/\(p<=1000000)/\(8<=1000000))/\∀ l5:Nat,(8=0/\l5=0\/l5<8)->((o9 (l5:Int) 0)=true->∃ c:Bool,(True)/\E (.ptr (.key 1000) [] g 0)/\E (iN l5)/\Q (bV (o9 (l5:Int) 0)) (bV c)/\Er g H5/\True)/\((o9 (l5:Int) 0)=false->∃ c:Bool,(True)/\E (.ptr (.key 1000) [] g 0)/\E (iN l5)/\Q (bV (o9 (l5:Int) 1)) (bV c)/\Er g H5/\True)/\(∀ c:Bool,(True)->Br c ((eH b (p+1) g).sm/\Er g H5/\((b.length<=2000)/\((p+1)<=900000))/\∀ I2:BL×Nat,(I2.1.length<=25/\(p+1)<=I2.2/\I2.2<=(p+1)+6/\m5 I2.1)->∃ x:BL×Nat,(x.1.length<=25/\p<=x.2/\x.2<=p+7/\m5 x.1)/\Q (sV I2.1) (sV x.1)/\Qr g (aq b I2.2) g (aq b x.2)) (Br (o9 (l5:Int) 2) ((fb b (p+1) g ([v6,v7,v2,v8,[],v11]:List BL)).sm/\Er g H5/\((b.length<=2000)/\((p+1)<=1000000)/\(1<=([v6,v7,v2,v8,[],v11]:List BL).length)/\(([v6,v7,v2,v8,[],v11]:List BL).length<=1000))/\∀ Qe:BL,(Qe∈([v6,v7,v2,v8,[],v11]:List BL))->(([47]:BL).length+Qe.length<=4611686018427387904)/\∃ x:BL×Nat,(x.1.length<=25/\p<=x.2/\x.2<=p+7/\m5 x.1)/\Q (sV (([47]:BL)++Qe)) (sV x.1)/\Qr g Py g (aq b x.2)) (Br (o9 (l5:Int) 3) ((fb b (p+1) g ([v21,NS,v3,V0,OR]:List BL)).sm/\Er g H5/\((b.length<=2000)/\((p+1)<=1000000)/\(1<=([v21,NS,v3,V0,OR]:List BL).length)/\(([v21,NS,v3,V0,OR]:List BL).length<=1000))/\∀ K4:BL,(K4∈([v21,NS,v3,V0,OR]:List BL))->∃ x:BL×Nat,(x.1.length<=25/\p<=x.2/\x.2<=p+7/\m5 x.1)/\Q (sV K4) (sV x.1)/\Qr g Py g (aq b x.2)) (Br (o9 (l5:Int) 4) ((fb b (p+1) g ([v22,v24,v12,[],V1,v20]:List BL)).sm/\Er g H5/\((b.length<=2000)/\((p+1)<=1000000)/\(1<=([v22,v24,v12,[],V1,v20]:List BL).length)/\(([v22,v24,v12,[],V1,v20]:List BL).length<=1000))/\∀ OQ:BL,(OQ∈([v22,v24,v12,[],V1,v20]:List BL))->∃ x:BL×Nat,(x.1.length<=25/\p<=x.2/\x.2<=p+7/\m5 x.1)/\Q (sV OQ) (sV x.1)/\Qr g Py g (aq b x.2)) (Br (o9 (l5:Int) 5) ((fb b (p+1) g ([v9,M',v5,v4,v1,v10,N9]:List BL)).sm/\Er g H5/\((b.length<=2000)/\((p+1)<=1000000)/\(1<=([v9,M',v5,v4,v1,v10,N9]:List BL).length)/\(([v9,M',v5,v4,v1,v10,N9]:List BL).length<=1000))/\∀ OP:BL,(OP∈([v9,M',v5,v4,v1,v10,N9]:List BL))->∃ x:BL×Nat,(x.1.length<=25/\p<=x.2/\x.2<=p+7/\m5 x.1)/\Q (sV OP) (sV x.1)/\Qr g Py g (aq b x.2)) ((fb b (p+1) g ([v6,v7,VZ,v2]:List BL)).sm/\Er g H5/\((b.length<=2000)/\((p+1)<=1000000)/\(1<=([v6,v7,VZ,v2]:List BL).length)/\(([v6,v7,VZ,v2]:List BL).length<=1000))/\∀ OO:BL,(OO∈([v6,v7,VZ,v2]:List BL))->∃ x:BL×Nat,(x.1.length<=25/\p<=x.2/\x.2<=p+7/\m5 x.1)/\Q (sV OO) (sV x.1)/\Qr g Py g (aq b x.2))))))))) ([99]:BL)) ([63]:BL)) ([46]:BL)) ([63,97]:BL)) ([46,46]:BL)) ([98,63,97]:BL)) ([97,35,98]:BL)) ([46,47,97]:BL)) (aq b ((p+1)+1))) ([47,47,47,97]:BL)) ([46,46,47,99]:BL)) ([47,47,99,100]:BL)) (aq b (p+1))) ([35,116,111,112]:BL)) ([120,47,46,47,99]:BL)) ([47,47,97,49,47,98]:BL)) ([47,47,65,66,47,97]:BL)) ([99,47,46,46,47,98]:BL)) ([98]:BL)) ([97]:BL)) ([47,47,99,100,63,120]:BL)) ([47,47,97,98,47,37,54,49]:BL)) ([46,46,47,46,46,47,46,46]:BL)) ([97,47,98]:BL)) ([47,47,116,111,111,108,111,110,103,47,97]:BL))
  Z7 ?_
 refine⟨rfl,rfl,⟨Z9,Z9,Z9⟩,?_⟩
 intro l5 H9
 refine⟨fun j7=>?_,fun j7=>?_,fun c hc=>?_⟩
 try simp only[nb]at j7
 exact⟨o9 (l5:Int) 0,trivial,rfl,rfl,rfl,rfl,trivial⟩
 try simp only[nb]at j7
 exact⟨o9 (l5:Int) 1,trivial,rfl,rfl,rfl,rfl,trivial⟩
 refine bI (fun l6=>?_) fun l6=>?_
 · refine⟨rfl,rfl,⟨Z9,Z9⟩,?_⟩
   intro I2 Ve
   refine⟨(I2.1,I2.2),?_,?_,?_⟩
   · try dsimp only
     exact⟨Z9,Z9,Z9,by(try dsimp only);repeat (first | assumption | exact aZ | exact bJ rfl | exact dK rfl (by assumption) | exact m5.drop (by apply And.right;apply And.right;apply And.right;assumption) _ | (apply And.right;apply And.right;apply And.right;assumption) | apply m5.app)⟩
   first | rfl | simp_all
   first | rfl | exact⟨rfl,rfl⟩ | simp_all
 · refine bI (fun n6=>?_) fun n6=>?_
   · refine⟨rfl,rfl,⟨Z9,Z9,Z8,Z8⟩,?_⟩
     intro Qe SM
     refine⟨by(try have:=bP (n:=11) rfl SM);(try simp only[YT,YV,YY]);omega,?_⟩
     refine⟨(([47]:BL)++Qe,(p+1)+1),?_,?_,?_⟩
     · try dsimp only
       have:=bP (n:=11) rfl SM
       exact⟨by first | omega | (simp;omega),Z9,Z9,by(try dsimp only);repeat (first | assumption | exact aZ | exact bJ rfl | exact dK rfl (by assumption) | exact m5.drop (by apply And.right;apply And.right;apply And.right;assumption) _ | (apply And.right;apply And.right;apply And.right;assumption) | apply m5.app)⟩
     first | rfl | simp_all
     first | rfl | exact⟨rfl,rfl⟩ | simp_all
   · refine bI (fun w6=>?_) fun w6=>?_
     · refine⟨rfl,rfl,⟨Z9,Z9,Z8,Z8⟩,?_⟩
       intro K4 Og
       refine⟨(K4,(p+1)+1),?_,?_,?_⟩
       · try dsimp only
         have:=bP (n:=11) rfl Og
         exact⟨by first | omega | (simp;omega),Z9,Z9,by(try dsimp only);repeat (first | assumption | exact aZ | exact bJ rfl | exact dK rfl (by assumption) | exact m5.drop (by apply And.right;apply And.right;apply And.right;assumption) _ | (apply And.right;apply And.right;apply And.right;assumption) | apply m5.app)⟩
       first | rfl | simp_all
       first | rfl | exact⟨rfl,rfl⟩ | simp_all
     · refine bI (fun G8=>?_) fun G8=>?_
       · refine⟨rfl,rfl,⟨Z9,Z9,Z8,Z8⟩,?_⟩
         intro OQ TG
         refine⟨(OQ,(p+1)+1),?_,?_,?_⟩
         · try dsimp only
           have:=bP (n:=11) rfl TG
           exact⟨by first | omega | (simp;omega),Z9,Z9,by(try dsimp only);repeat (first | assumption | exact aZ | exact bJ rfl | exact dK rfl (by assumption) | exact m5.drop (by apply And.right;apply And.right;apply And.right;assumption) _ | (apply And.right;apply And.right;apply And.right;assumption) | apply m5.app)⟩
         first | rfl | simp_all
         first | rfl | exact⟨rfl,rfl⟩ | simp_all
       · refine bI (fun NK=>?_) fun NK=>?_
         · refine⟨rfl,rfl,⟨Z9,Z9,Z8,Z8⟩,?_⟩
           intro OP TF
           refine⟨(OP,(p+1)+1),?_,?_,?_⟩
           · try dsimp only
             have:=bP (n:=11) rfl TF
             exact⟨by first | omega | (simp;omega),Z9,Z9,by(try dsimp only);repeat (first | assumption | exact aZ | exact bJ rfl | exact dK rfl (by assumption) | exact m5.drop (by apply And.right;apply And.right;apply And.right;assumption) _ | (apply And.right;apply And.right;apply And.right;assumption) | apply m5.app)⟩
           first | rfl | simp_all
           first | rfl | exact⟨rfl,rfl⟩ | simp_all
         · refine⟨rfl,rfl,⟨Z9,Z9,Z8,Z8⟩,?_⟩
           intro OO TE
           refine⟨(OO,(p+1)+1),?_,?_,?_⟩
           · try dsimp only
             have:=bP (n:=11) rfl TE
             exact⟨by first | omega | (simp;omega),Z9,Z9,by(try dsimp only);repeat (first | assumption | exact aZ | exact bJ rfl | exact dK rfl (by assumption) | exact m5.drop (by apply And.right;apply And.right;apply And.right;assumption) _ | (apply And.right;apply And.right;apply And.right;assumption) | apply m5.app)⟩
           first | rfl | simp_all
           first | rfl | exact⟨rfl,rfl⟩ | simp_all)
def wV(b:BL)(p:Nat)(g:Nat):G5 Tryz.prog:=.mk (BL×Nat) 94 [.ptr (.key 1000) [] g 0] [(1000,(g,aq b p))] ((b.length<=2000)/\(p<=880000)) (fun x=>x.1.length<=240/\p<=x.2/\x.2<=p+70/\m5 x.1) (fun x=>sV x.1) (fun x=>[(1000,(g,aq b x.2))]) (by
 rintro⟨hb,hp⟩
 refine fh (N:=55) (rs:=[.tmp 2]) (X:=BL×Nat) (post:=fun x=>x.1.length<=240/\p<=x.2/\x.2<=p+70/\m5 x.1) (E:=fun x=>sV x.1) (H':=fun x=>[(1000,(g,.agg [.sl false (b.map n0),iN x.2]))]) Tryz.func94 Z7 rfl rfl rfl Z7 [(1000,(0,.a8))] (by intro _ k hk;simpa[lk] using hk)
  (.q 1<|.q 1<|.q 1<|.cx (bf b p g 5) [(1000,1000)] (fun (r6:Nat)=>.q 1<|.loop (Nat×BL×Nat) (fun (n,o,q)=>⟨[(0,.ptr (.key 1000) [] g 0),(3,sV o),(4,iN n)],[(1000,(g,aq b q))]⟩) (fun (n,o,q)=>o.length+60*n<=240/\p<=q/\q+16*n<=p+66/\m5 o) (fun (n,o,q)=>n) (fun (n,o,q)=>.q 2<|.br (.q 1<|.cx (bf b q g 9) [(1000,1000)] (fun (OJ:Nat)=>.q 2<|.br (.q 3<|.cx (gu b (q+1) g) [(1000,1000)] (fun (J6:BL×Nat)=>.q 3<|.cx (gu b J6.2 g) [(1000,1000)] (fun (NC:BL×Nat)=>.q 3<|.q 2<|.h (.o4 10 (iN (n-1)))<|.q 1<|.nil))) (.q 2<|.br (.q 3<|.cx (gu b (q+1) g) [(1000,1000)] (fun (J0:BL×Nat)=>.q 3<|.q 2<|.h (.o4 10 (iN (n-1)))<|.q 1<|.nil)) (.q 2<|.br (.q 3<|.cx (gu b (q+1) g) [(1000,1000)] (fun (I':BL×Nat)=>.q 3<|.q 2<|.h (.o4 10 (iN (n-1)))<|.q 1<|.nil)) (.q 2<|.br (.q 2<|.bs<|.cx (fb b (q+1) g ([([116,101,120,116,32]:BL),([60]:BL),([62]:BL),([40]:BL),([41]:BL),([60,97]:BL)]:List BL)) [(1000,1000)] (fun (E4:BL)=>.q 2<|.q 2<|.h (.o4 10 (iN (n-1)))<|.q 1<|.nil)) (.q 3<|.cx (gu b (q+1) g) [(1000,1000)] (fun (ND:BL×Nat)=>.q 3<|.q 2<|.h (.o4 10 (iN (n-1)))<|.q 1<|.nil))))))) (.q 2<|.nil))))
  ((fun v1:BL=>(fun v2:BL=>(fun v3:BL=>(fun v4:V=>(fun v5:BL=>(fun v6:BL=>(fun v7:BL=>(fun v8:BL=>(fun v9:BL=>((bf b p g 5).sm/\Er g (aq b p)/\((b.length<=2000)/\(p<=1000000)/\(5<=1000000))/\∀ r6:Nat,(5=0/\r6=0\/r6<5)->(∃ x:Nat×BL×Nat,match x with | (J9,w4,z7)=>(w4.length+60*J9<=240/\p<=z7/\z7+16*J9<=p+66/\m5 w4)/\E v4/\Q (sV []) (sV w4)/\Q (iN r6) (iN J9)/\Qr g (aq b (p+1)) g (aq b z7)/\True)/\∀ x:Nat×BL×Nat,match x with | (n,o,q)=>(o.length+60*n<=240/\p<=q/\q+16*n<=p+66/\m5 o)->(fun v10:V=>Br (s9 (n:Int) 0) ((bf b q g 9).sm/\Er g (aq b q)/\((b.length<=2000)/\(q<=1000000)/\(9<=1000000))/\∀ OJ:Nat,(9=0/\OJ=0\/OJ<9)->Br (o9 (OJ:Int) 0) ((o.length+v2.length<=4611686018427387904)/\(gu b (q+1) g).sm/\Er g v10/\((b.length<=2000)/\((q+1)<=890000))/\∀ J6:BL×Nat,(J6.1.length<=25/\(q+1)<=J6.2/\J6.2<=(q+1)+7/\m5 J6.1)->((o++v2).length+J6.1.length<=4611686018427387904)/\(((o++v2)++J6.1).length+v1.length<=4611686018427387904)/\(gu b J6.2 g).sm/\Er g (aq b J6.2)/\((b.length<=2000)/\(J6.2<=890000))/\∀ NC:BL×Nat,(NC.1.length<=25/\J6.2<=NC.2/\NC.2<=J6.2+7/\m5 NC.1)->((((o++v2)++J6.1)++v1).length+NC.1.length<=4611686018427387904)/\(((((o++v2)++J6.1)++v1)++NC.1).length+([62,41]:BL).length<=4611686018427387904)/\m8 ((n:Int)-1)/\Q (iV ((n:Int)-1)) (iN (n-1))/\∃ x:Nat×BL×Nat,match x with | (w5,l9,n9)=>(l9.length+60*w5<=240/\p<=n9/\n9+16*w5<=p+66/\m5 l9)/\(w5<n)/\E v4/\Q (sV (((((o++v2)++J6.1)++v1)++NC.1)++([62,41]:BL))) (sV l9)/\Q (iN (n-1)) (iN w5)/\Qr g (aq b NC.2) g (aq b n9)/\True) (Br (o9 (OJ:Int) 1) ((o.length+v6.length<=4611686018427387904)/\(gu b (q+1) g).sm/\Er g v10/\((b.length<=2000)/\((q+1)<=890000))/\∀ J0:BL×Nat,(J0.1.length<=25/\(q+1)<=J0.2/\J0.2<=(q+1)+7/\m5 J0.1)->((o++v6).length+J0.1.length<=4611686018427387904)/\(((o++v6)++J0.1).length+v3.length<=4611686018427387904)/\m8 ((n:Int)-1)/\Q (iV ((n:Int)-1)) (iN (n-1))/\∃ x:Nat×BL×Nat,match x with | (w5,l9,n9)=>(l9.length+60*w5<=240/\p<=n9/\n9+16*w5<=p+66/\m5 l9)/\(w5<n)/\E v4/\Q (sV (((o++v6)++J0.1)++v3)) (sV l9)/\Q (iN (n-1)) (iN w5)/\Qr g (aq b J0.2) g (aq b n9)/\True) (Br (o9 (OJ:Int) 2) ((o.length+v7.length<=4611686018427387904)/\(gu b (q+1) g).sm/\Er g v10/\((b.length<=2000)/\((q+1)<=890000))/\∀ I':BL×Nat,(I'.1.length<=25/\(q+1)<=I'.2/\I'.2<=(q+1)+7/\m5 I'.1)->((o++v7).length+I'.1.length<=4611686018427387904)/\(((o++v7)++I'.1).length+v3.length<=4611686018427387904)/\m8 ((n:Int)-1)/\Q (iV ((n:Int)-1)) (iN (n-1))/\∃ x:Nat×BL×Nat,match x with | (w5,l9,n9)=>(l9.length+60*w5<=240/\p<=n9/\n9+16*w5<=p+66/\m5 l9)/\(w5<n)/\E v4/\Q (sV (((o++v7)++I'.1)++v3)) (sV l9)/\Q (iN (n-1)) (iN w5)/\Qr g (aq b I'.2) g (aq b n9)/\True) (Br (o9 (OJ:Int) 3) ((fb b (q+1) g ([v5,v1,v3,v2,v9,v8]:List BL)).sm/\Er g v10/\((b.length<=2000)/\((q+1)<=1000000)/\(1<=([v5,v1,v3,v2,v9,v8]:List BL).length)/\(([v5,v1,v3,v2,v9,v8]:List BL).length<=1000))/\∀ E4:BL,(E4∈([v5,v1,v3,v2,v9,v8]:List BL))->(o.length+E4.length<=4611686018427387904)/\m8 ((n:Int)-1)/\Q (iV ((n:Int)-1)) (iN (n-1))/\∃ x:Nat×BL×Nat,match x with | (w5,l9,n9)=>(l9.length+60*w5<=240/\p<=n9/\n9+16*w5<=p+66/\m5 l9)/\(w5<n)/\E v4/\Q (sV (o++E4)) (sV l9)/\Q (iN (n-1)) (iN w5)/\Qr g (aq b ((q+1)+1)) g (aq b n9)/\True) ((o.length+v1.length<=4611686018427387904)/\(gu b (q+1) g).sm/\Er g v10/\((b.length<=2000)/\((q+1)<=890000))/\∀ ND:BL×Nat,(ND.1.length<=25/\(q+1)<=ND.2/\ND.2<=(q+1)+7/\m5 ND.1)->((o++v1).length+ND.1.length<=4611686018427387904)/\(((o++v1)++ND.1).length+v3.length<=4611686018427387904)/\m8 ((n:Int)-1)/\Q (iV ((n:Int)-1)) (iN (n-1))/\∃ x:Nat×BL×Nat,match x with | (w5,l9,n9)=>(l9.length+60*w5<=240/\p<=n9/\n9+16*w5<=p+66/\m5 l9)/\(w5<n)/\E v4/\Q (sV (((o++v1)++ND.1)++v3)) (sV l9)/\Q (iN (n-1)) (iN w5)/\Qr g (aq b ND.2) g (aq b n9)/\True))))) (∃ x:BL×Nat,(x.1.length<=240/\p<=x.2/\x.2<=p+70/\m5 x.1)/\Q (sV o) (sV x.1)/\Qr g (aq b q) g (aq b x.2))) (aq b (q+1)))) ([41]:BL)) ([60,97]:BL)) ([60,64]:BL)) ([60,33]:BL)) ([116,101,120,116,32]:BL)) (.ptr (.key 1000) [] g 0)) ([62]:BL)) ([40]:BL)) ([60]:BL))
  Z7 ?_
 refine⟨rfl,rfl,⟨Z9,Z9,Z9⟩,?_⟩
 intro r6 Nt
 refine⟨⟨(r6,[],p+1),?_,rfl,rfl,rfl,rfl,trivial⟩,?_⟩
 exact⟨Z0,Z9,Z9,aZ⟩
 rintro⟨n,o,q⟩ ⟨h1,h2,h3,h4⟩
 refine bI (fun j7=>?_) fun j7=>?_
 · refine⟨rfl,rfl,⟨Z9,Z9,Z9⟩,?_⟩
   intro OJ Yc
   refine bI (fun l6=>?_) fun l6=>?_
   · refine⟨by(try simp only[YT,YV,YY]);(try have:=bP (n:=11) rfl x8);omega,rfl,rfl,⟨Z9,Z9⟩,?_⟩
     intro J6 X8
     refine⟨by(try simp only[YT,YV,YY]);(try have:=bP (n:=11) rfl x8);omega,by(try simp only[YT,YV,YY]);(try have:=bP (n:=11) rfl x8);omega,rfl,rfl,⟨Z9,Z9⟩,?_⟩
     intro NC X7
     refine⟨by(try simp only[YT,YV,YY]);(try have:=bP (n:=11) rfl x8);omega,by(try simp only[YT,YV,YY]);(try have:=bP (n:=11) rfl x8);omega,Z9,by simp[Q];omega,?_⟩
     refine⟨(n-1,((((o++([40]:BL))++J6.1)++([60]:BL))++NC.1)++([62,41]:BL),NC.2),?_,?_,rfl,rfl,rfl,rfl,trivial⟩
     · try have:=bP (n:=11) rfl x8
       exact⟨by simp only[YT,YV,YY];omega,Z9,Z9,by(try dsimp only);repeat (first | assumption | exact aZ | exact bJ rfl | exact dK rfl (by assumption) | exact m5.drop (by apply And.right;apply And.right;apply And.right;assumption) _ | (apply And.right;apply And.right;apply And.right;assumption) | apply m5.app)⟩
     exact Z1
   · refine bI (fun n6=>?_) fun n6=>?_
     · refine⟨by(try simp only[YT,YV,YY]);(try have:=bP (n:=11) rfl x8);omega,rfl,rfl,⟨Z9,Z9⟩,?_⟩
       intro J0 WW
       refine⟨by(try simp only[YT,YV,YY]);(try have:=bP (n:=11) rfl x8);omega,by(try simp only[YT,YV,YY]);(try have:=bP (n:=11) rfl x8);omega,Z9,by simp[Q];omega,?_⟩
       refine⟨(n-1,((o++([60,33]:BL))++J0.1)++([62]:BL),J0.2),?_,?_,rfl,rfl,rfl,rfl,trivial⟩
       · try have:=bP (n:=11) rfl x8
         exact⟨by simp only[YT,YV,YY];omega,Z9,Z9,by(try dsimp only);repeat (first | assumption | exact aZ | exact bJ rfl | exact dK rfl (by assumption) | exact m5.drop (by apply And.right;apply And.right;apply And.right;assumption) _ | (apply And.right;apply And.right;apply And.right;assumption) | apply m5.app)⟩
       exact Z1
     · refine bI (fun w6=>?_) fun w6=>?_
       · refine⟨by(try simp only[YT,YV,YY]);(try have:=bP (n:=11) rfl x8);omega,rfl,rfl,⟨Z9,Z9⟩,?_⟩
         intro I' WV
         refine⟨by(try simp only[YT,YV,YY]);(try have:=bP (n:=11) rfl x8);omega,by(try simp only[YT,YV,YY]);(try have:=bP (n:=11) rfl x8);omega,Z9,by simp[Q];omega,?_⟩
         refine⟨(n-1,((o++([60,64]:BL))++I'.1)++([62]:BL),I'.2),?_,?_,rfl,rfl,rfl,rfl,trivial⟩
         · try have:=bP (n:=11) rfl x8
           exact⟨by simp only[YT,YV,YY];omega,Z9,Z9,by(try dsimp only);repeat (first | assumption | exact aZ | exact bJ rfl | exact dK rfl (by assumption) | exact m5.drop (by apply And.right;apply And.right;apply And.right;assumption) _ | (apply And.right;apply And.right;apply And.right;assumption) | apply m5.app)⟩
         exact Z1
       · refine bI (fun G8=>?_) fun G8=>?_
         · refine⟨rfl,rfl,⟨Z9,Z9,Z8,Z8⟩,?_⟩
           intro E4 x8
           refine⟨by(try simp only[YT,YV,YY]);(try have:=bP (n:=11) rfl x8);omega,Z9,by simp[Q];omega,?_⟩
           refine⟨(n-1,o++E4,(q+1)+1),?_,?_,rfl,rfl,rfl,rfl,trivial⟩
           · try have:=bP (n:=11) rfl x8
             exact⟨by simp only[YT,YV,YY];omega,Z9,Z9,by(try dsimp only);repeat (first | assumption | exact aZ | exact bJ rfl | exact dK rfl (by assumption) | exact m5.drop (by apply And.right;apply And.right;apply And.right;assumption) _ | (apply And.right;apply And.right;apply And.right;assumption) | apply m5.app)⟩
           exact Z1
         · refine⟨by(try simp only[YT,YV,YY]);(try have:=bP (n:=11) rfl x8);omega,rfl,rfl,⟨Z9,Z9⟩,?_⟩
           intro ND X'
           refine⟨by(try simp only[YT,YV,YY]);(try have:=bP (n:=11) rfl x8);omega,by(try simp only[YT,YV,YY]);(try have:=bP (n:=11) rfl x8);omega,Z9,by simp[Q];omega,?_⟩
           refine⟨(n-1,((o++([60]:BL))++ND.1)++([62]:BL),ND.2),?_,?_,rfl,rfl,rfl,rfl,trivial⟩
           · try have:=bP (n:=11) rfl x8
             exact⟨by simp only[YT,YV,YY];omega,Z9,Z9,by(try dsimp only);repeat (first | assumption | exact aZ | exact bJ rfl | exact dK rfl (by assumption) | exact m5.drop (by apply And.right;apply And.right;apply And.right;assumption) _ | (apply And.right;apply And.right;apply And.right;assumption) | apply m5.app)⟩
           exact Z1
 refine⟨(o,q),?_,?_,?_⟩
 try dsimp only
 exact⟨Z9,Z9,Z9,h4⟩
 first | rfl | simp_all
 first | rfl | exact⟨rfl,rfl⟩ | simp_all)
abbrev ph(w:List Pg)(a:BL):V:=.tup [cn ((B7 w a).1.addr) ((B7 w a).1.text) ((B7 w a).1.lead) ((B7 w a).1.m0),bV ((B7 w a).2)]
def Is(w:List Pg)(a:BL):o6 Tryz.prog:=.mk 95 [bZ w,sV a] [] (w.length<=1000000) (ph w a) [] (by
 intro hw
 refine av (N:=25) (rs:=[.cell 4 99,.tmp 5]) Tryz.func95
  (.al nq (fun g4=>.q 1<|.q 1<|.loop (Nat) (fun (i:Nat)=>⟨[(0,bZ w),(1,sV a),(4,.ptr (.key 4) [] g4 0),(6,iN i)],[(4,(g4,.agg [sV [],sV [],sV [],iN 0]))]⟩) (fun (i:Nat)=>i<=w.length/\B7 w a=B7 (w.drop i) a) (fun (i:Nat)=>w.length-i) (fun (i:Nat)=>.q 4<|.br (.r 7 [cn ((w.getD i m4).addr) ((w.getD i m4).text) ((w.getD i m4).lead) ((w.getD i m4).m0)]<|.br (.r 4 [cn ((w.getD i m4).addr) ((w.getD i m4).text) ((w.getD i m4).lead) ((w.getD i m4).m0)]<|.st none<|.q 1<|.nil) (.q 3<|.nil)) (.bd nq<|.st none<|.q 1<|.nil))))
  (∀ g4:Nat,(∃ j6:Nat,(j6<=w.length/\B7 w a=B7 (w.drop j6) a)/\E (bZ w)/\E (sV a)/\E (.ptr (.key 4) [] g4 0)/\Q (iN 0) (iN j6)/\Er g4 (.agg [sV [],sV [],sV [],iN 0])/\True)/\∀ i:Nat,(i<=w.length/\B7 w a=B7 (w.drop i) a)->(fun v1:Pg=>Br (r9 (i:Int) (((w.map r5).length:Nat):Int)) (Ex (i:Int) (w.map r5) (cn (v1.addr) (v1.text) (v1.lead) (v1.m0))/\True/\Br ((v1.addr)==a) (Ex (i:Int) (w.map r5) (cn (v1.addr) (v1.text) (v1.lead) (v1.m0))/\True/\Z g4 0/\(g4=g4)/\Q (.tup [cn (v1.addr) (v1.text) (v1.lead) (v1.m0),bV true]) (ph w a)) (m8 ((i:Int)+1)/\∃ b7:Nat,(b7<=w.length/\B7 w a=B7 (w.drop b7) a)/\(w.length-b7<w.length-i)/\E (bZ w)/\E (sV a)/\E (.ptr (.key 4) [] g4 0)/\Q (iN (i+1)) (iN b7)/\Er g4 (.agg [sV [],sV [],sV [],iN 0])/\True)) (Z g4 0/\(g4=g4)/\Q (.tup [.agg [sV [],sV [],sV [],iN 0],bV false]) (ph w a))) (w.getD i m4)) ?_
 intro g4
 refine⟨⟨0,?_,rfl,rfl,rfl,rfl,rfl,trivial⟩,?_⟩
 simp
 rintro i ⟨h1,h2⟩
 refine bI (fun j7=>?_) fun j7=>?_
 refine⟨⟨Z9,aj (d:=m4) Z9⟩,trivial,?_⟩
 refine bI (fun l6=>?_) fun l6=>?_
 refine⟨⟨Z9,aj (d:=m4) Z9⟩,trivial,rfl,?_⟩
 refine⟨rfl,?_⟩
 unfold Q ph
 rw[h2,drop_cons (by omega:i<w.length) m4,B7,if_pos l6]
 refine⟨Z9,?_⟩
 refine⟨i+1,?_,?_,rfl,rfl,rfl,rfl,rfl,trivial⟩
 refine⟨Z9,?_⟩
 rw[h2,drop_cons (by omega:i<w.length) m4,B7,if_neg l6]
 exact Z1
 refine⟨rfl,?_⟩
 refine⟨rfl,?_⟩
 unfold Q ph
 rw[h2,Zc Z9];rfl)
def tG(n m:Nat)(ih:∀ m,m<n->(m<=1000000)->PF Tryz.prog 56 [iN m] [] (fun r h=>r=(sV (dL m))/\h=[])):o6 Tryz.prog:={ f:=56,args:=[iN m],pre:=m<n/\(m<=1000000),res:=sV (dL m),ok:=fun h=>ih m h.1 h.2 }
theorem FR(n:Nat)(hn:n<=1000000):PF Tryz.prog 56 [iN n] [] (fun r h=>r=(sV (dL n))/\h=[]):=by
 revert hn
 induction n using Nat.strongRecOn with
 | ind n ih=>
 intro hn
 refine av (N:=28) (rs:=[.tmp 2]) Tryz.func56
  (.q 1<|.q 2<|.br (.q 1<|.nil) (.q 2<|.br (.q 2<|.c (tG n (Int.toNat (-(n:Int))) ih) []<|.q 2<|.nil) (.q 2<|.br (.q 3<|.h (.o4 15 (uN ((UInt8.ofNat (48+n)).toNat)))<|.bs<|.L1 [(UInt8.ofNat (48+n))]<|.q 1<|.nil) (.dx 9 [0,1,2,3,4,5,6,7,8] [] []<|.q 1<|.q 1<|.c (tG n (n / 10) ih) []<|.q 1<|.q 1<|.q 1<|.q 1<|.h (.o4 24 (uN ((UInt8.ofNat (48+n % 10)).toNat)))<|.bs<|.L1 [(UInt8.ofNat (48+n % 10))]<|.q 2<|.nil))))
  (Br (r9 (n:Int) (-9223372036854775807)) (Q (sV ([45,57,50,50,51,51,55,50,48,51,54,56,53,52,55,55,53,56,48,56]:BL)) (sV (dL n))) (Br (r9 (n:Int) 0) (m8 (-(n:Int))/\(([iV (-(n:Int))]:List V)=[iN (Int.toNat (-(n:Int)))])/\(((Int.toNat (-(n:Int)))<n)/\((Int.toNat (-(n:Int)))<=1000000))/\(([45]:BL).length+(dL (Int.toNat (-(n:Int)))).length<=4611686018427387904)/\Q (sV (([45]:BL)++(dL (Int.toNat (-(n:Int)))))) (sV (dL n))) (Br (r9 (n:Int) 10) (m8 (48+(n:Int))/\Px ((48+n:Nat):Int)/\Q (uN (48+n)) (uN ((UInt8.ofNat (48+n)).toNat))/\(True)/\([uN ((UInt8.ofNat (48+n)).toNat)]=[(UInt8.ofNat (48+n))].map n0)/\Q (sV [(UInt8.ofNat (48+n))]) (sV (dL n))) (((0:Int)<=(n:Int)/\(0:Int)<10/\m8 (n:Int))/\(tG n (n / 10) ih).sm/\(((n / 10)<n)/\((n / 10)<=1000000))/\((0:Int)<=(n:Int)/\(0:Int)<10)/\m8 (48+((n % 10:Nat):Int))/\Px ((48+(n % 10):Nat):Int)/\Q (uN (48+(n % 10))) (uN ((UInt8.ofNat (48+n % 10)).toNat))/\([uN ((UInt8.ofNat (48+n % 10)).toNat)]=[(UInt8.ofNat (48+n % 10))].map n0)/\((dL (n / 10)).length+([(UInt8.ofNat (48+n % 10))]:BL).length<=4611686018427387904)/\Q (sV ((dL (n / 10))++[(UInt8.ofNat (48+n % 10))])) (sV (dL n)))))) ?_
 refine bI (fun j7=>?_) fun j7=>?_
 exfalso;omega
 refine bI (fun l6=>?_) fun l6=>?_
 exfalso;omega
 refine bI (fun n6=>?_) fun n6=>?_
 refine⟨Z9,Z9,by exact HV Z9,trivial,rfl,?_⟩
 unfold Q
 rw[show dL n=[UInt8.ofNat (48+n)] from by rw[dL,if_pos Z9]]
 refine⟨Z9,rfl,⟨Z9,Z9⟩,Z9,Z9,Z9,by exact HV Z9,rfl,by have:=qm (n / 10) Z9;simp;omega,?_⟩
 unfold Q
 rw[show dL n=dL (n / 10)++[UInt8.ofNat (48+n % 10)] from by rw[dL,if_neg Z9]]
def rX(n:Nat):o6 Tryz.prog:={ f:=56,args:=[iN n],H:=[],pre:=(n<=1000000),res:=sV (dL n),H':=[],ok:=fun h=>FR n h }
theorem JL{l:List Int}{i:Nat}(h:i<l.length):Ex (i:Int) (l.map iV) (iV (l.getD i 0)):=⟨Int.natCast_nonneg _,by simp[YQ,h]⟩
def uk(gs:List k9):G5 Tryz.prog:=.mk Bool 129 [bh gs] [] ((gs.length<=4)/\(∀ y,y∈gs->C5 y)) (fun x=>True) (fun x=>bV x) (fun x=>[]) (by
 rintro⟨hl,hg⟩
 refine fh (N:=94) (rs:=[.tmp 2]) (X:=Bool) (post:=fun x=>True) (E:=fun x=>bV x) (H':=fun x=>[]) Tryz.func129 Z7 rfl rfl rfl Z7 [] (by intro _ k hk;simpa[lk] using hk)
  (.q 1<|.q 1<|.q 1<|.loop (Nat×Nat) (fun (i,m)=>⟨[(0,bh gs),(3,iN m),(4,iN i)],[]⟩) (fun (i,m)=>i<=gs.length/\m<=10*i) (fun (i,m)=>gs.length-i) (fun (i,m)=>.q 4<|.br (.r 4 [eS ((gs.getD i (⟨[],[],0⟩:k9)).na) ((gs.getD i (⟨[],[],0⟩:k9)).ru) ((gs.getD i (⟨[],[],0⟩:k9)).wa)]<|.al jt (fun g5=>.st none<|.r 24 [.a8,.a8,.a8,.a8,.a8]<|.cg (lR (((gs.getD i (⟨[],[],0⟩:k9)).wa:Nat):Int) (0:Int) (20:Int))<|.q 2<|.br (.q 1<|.nil) (.q 1<|.loop (Nat) (fun (k:Nat)=>⟨[(0,bh gs),(3,iN m),(4,iN i),(5,.ptr (.key 5) [] g5 0),(6,iN k)],[(5,(g5,eS ((gs.getD i (⟨[],[],0⟩:k9)).na) ((gs.getD i (⟨[],[],0⟩:k9)).ru) ((gs.getD i (⟨[],[],0⟩:k9)).wa)))]⟩) (fun (k:Nat)=>k<=(gs.getD i ⟨[],[],0⟩).na.length) (fun (k:Nat)=>(gs.getD i ⟨[],[],0⟩).na.length-k) (fun (k:Nat)=>.r 5 [.a8]<|.br (.r 12 [.a8,sV (((gs.getD i (⟨[],[],0⟩:k9)).na).getD k []),.a8,sV (((gs.getD i (⟨[],[],0⟩:k9)).na).getD k [])]<|.cg (qa (((gs.getD i (⟨[],[],0⟩:k9)).na).getD k []))<|.q 2<|.br (.q 1<|.nil) (.q 3<|.nil)) (.q 1<|.loop (Nat) (fun (k:Nat)=>⟨[(0,bh gs),(3,iN m),(4,iN i),(5,.ptr (.key 5) [] g5 0),(7,iN k)],[(5,(g5,eS ((gs.getD i (⟨[],[],0⟩:k9)).na) ((gs.getD i (⟨[],[],0⟩:k9)).ru) ((gs.getD i (⟨[],[],0⟩:k9)).wa)))]⟩) (fun (k:Nat)=>k<=(gs.getD i ⟨[],[],0⟩).ru.length) (fun (k:Nat)=>(gs.getD i ⟨[],[],0⟩).ru.length-k) (fun (k:Nat)=>.r 5 [.a8]<|.br (.r 6 [.a8,.agg [bV ((((gs.getD i (⟨[],[],0⟩:k9)).ru).getD k (⟨false,[]⟩:s6)).I3),sV ((((gs.getD i (⟨[],[],0⟩:k9)).ru).getD k (⟨false,[]⟩:s6)).path)]]<|.c (zT ((((gs.getD i (⟨[],[],0⟩:k9)).ru).getD k (⟨false,[]⟩:s6)).path)) []<|.q 1<|.br (.q 1<|.nil) (.q 3<|.nil)) (.r 11 [.a8,.a8]<|.q 3<|.nil))))))) (.q 3<|.nil)))
  ((fun v1:BL=>((∃ x:Nat×Nat,match x with | (j6,NX)=>(j6<=gs.length/\NX<=10*j6)/\E (bh gs)/\Q (iN 0) (iN NX)/\Q (iN 0) (iN j6)/\True)/\∀ x:Nat×Nat,match x with | (i,m)=>(i<=gs.length/\m<=10*i)->(fun v2:Int=>(fun v3:Int=>(fun v4:V=>(fun v5:Int=>(fun v6:Bool=>(fun v7:Bool=>(fun v8:Bool=>Br (r9 (i:Int) (((gs.map bO).length:Nat):Int)) (Ex (i:Int) (gs.map bO) v4/\True/\∀ g5:Nat,(fun v9:V=>Z g5 0/\Z g5 0/\Gd v7 (Z g5 1)/\Gd (v7&&((o9 v2 0)==true)) (Z g5 2)/\Gd v7 (Pk (o9 v2 0) (v7&&((o9 v2 0)==true)) true)/\Pk (o9 v3 0) true v7/\Gd v8 (Z g5 1)/\Pk ((o9 v3 0)||((o9 v2 0)&&(o9 v5 0))) true v8/\Gd v6 (Z g5 2)/\Gd v6 ((True)/\(lR v5 (0:Int) (20:Int)).sm)/\Pk (((o9 v3 0)||((o9 v2 0)&&(o9 v5 0)))||(s9 v2 6)) true v6/\Br ((((o9 v3 0)||((o9 v2 0)&&(o9 v5 0)))||(s9 v2 6))||(!(A7 v5 (0:Int) (20:Int)))) (∃ x:Bool,(True)/\Q (bV false) (bV x)) ((∃ s7:Nat,(s7<=(gs.getD i ⟨[],[],0⟩).na.length)/\E (bh gs)/\E (iN m)/\E (iN i)/\E v9/\Q (iN 0) (iN s7)/\Er g5 v4/\True)/\∀ k:Nat,(k<=(gs.getD i ⟨[],[],0⟩).na.length)->Z g5 0/\Br (r9 (k:Int) v3) (Z g5 0/\Ex (k:Int) (((gs.getD i (⟨[],[],0⟩:k9)).na).map sV) (sV (((gs.getD i (⟨[],[],0⟩:k9)).na).getD k []))/\True/\Gd ((!((((gs.getD i (⟨[],[],0⟩:k9)).na).getD k [])==v1))==true) (Z g5 0)/\Gd ((!((((gs.getD i (⟨[],[],0⟩:k9)).na).getD k [])==v1))==true) (Ex (k:Int) (((gs.getD i (⟨[],[],0⟩:k9)).na).map sV) (sV (((gs.getD i (⟨[],[],0⟩:k9)).na).getD k [])))/\Gd ((!((((gs.getD i (⟨[],[],0⟩:k9)).na).getD k [])==v1))==true) True/\Gd ((!((((gs.getD i (⟨[],[],0⟩:k9)).na).getD k [])==v1))==true) ((((((gs.getD i (⟨[],[],0⟩:k9)).na).getD k []).length<=4611686018427387904))/\(qa (((gs.getD i (⟨[],[],0⟩:k9)).na).getD k [])).sm)/\Pk (!((((gs.getD i (⟨[],[],0⟩:k9)).na).getD k [])==v1)) ((!((((gs.getD i (⟨[],[],0⟩:k9)).na).getD k [])==v1))==true) true/\Br ((!((((gs.getD i (⟨[],[],0⟩:k9)).na).getD k [])==v1))&&(!(bn (((gs.getD i (⟨[],[],0⟩:k9)).na).getD k [])))) (∃ x:Bool,(True)/\Q (bV false) (bV x)) (m8 ((k:Int)+1)/\∃ k₂:Nat,(k₂<=(gs.getD i ⟨[],[],0⟩).na.length)/\((gs.getD i ⟨[],[],0⟩).na.length-k₂<(gs.getD i ⟨[],[],0⟩).na.length-k)/\E (bh gs)/\E (iN m)/\E (iN i)/\E v9/\Q (iN (k+1)) (iN k₂)/\Er g5 v4/\True)) ((∃ s7:Nat,(s7<=(gs.getD i ⟨[],[],0⟩).ru.length)/\E (bh gs)/\E (iN m)/\E (iN i)/\E v9/\Q (iN 0) (iN s7)/\Er g5 v4/\True)/\∀ k:Nat,(k<=(gs.getD i ⟨[],[],0⟩).ru.length)->Z g5 1/\Br (r9 (k:Int) v2) (Z g5 1/\Ex (k:Int) (((gs.getD i (⟨[],[],0⟩:k9)).ru).map au) (.agg [bV ((((gs.getD i (⟨[],[],0⟩:k9)).ru).getD k (⟨false,[]⟩:s6)).I3),sV ((((gs.getD i (⟨[],[],0⟩:k9)).ru).getD k (⟨false,[]⟩:s6)).path)])/\True/\(zT ((((gs.getD i (⟨[],[],0⟩:k9)).ru).getD k (⟨false,[]⟩:s6)).path)).sm/\((((((gs.getD i (⟨[],[],0⟩:k9)).ru).getD k (⟨false,[]⟩:s6)).path).length<=4611686018427387904))/\Br (!(aN ((((gs.getD i (⟨[],[],0⟩:k9)).ru).getD k (⟨false,[]⟩:s6)).path))) (∃ x:Bool,(True)/\Q (bV false) (bV x)) (m8 ((k:Int)+1)/\∃ k₂:Nat,(k₂<=(gs.getD i ⟨[],[],0⟩).ru.length)/\((gs.getD i ⟨[],[],0⟩).ru.length-k₂<(gs.getD i ⟨[],[],0⟩).ru.length-k)/\E (bh gs)/\E (iN m)/\E (iN i)/\E v9/\Q (iN (k+1)) (iN k₂)/\Er g5 v4/\True)) (Z g5 0/\m8 ((m:Int)+v3)/\Z g5 1/\m8 (((m+((((gs.getD i (⟨[],[],0⟩:k9)).na).map sV).length):Nat):Int)+v2)/\m8 ((((m+((((gs.getD i (⟨[],[],0⟩:k9)).na).map sV).length))+((((gs.getD i (⟨[],[],0⟩:k9)).ru).map au).length):Nat):Int)+1)/\m8 ((i:Int)+1)/\∃ x:Nat×Nat,match x with | (b7,m₂)=>(b7<=gs.length/\m₂<=10*b7)/\(gs.length-b7<gs.length-i)/\E (bh gs)/\Q (iN (((m+((((gs.getD i (⟨[],[],0⟩:k9)).na).map sV).length))+((((gs.getD i (⟨[],[],0⟩:k9)).ru).map au).length))+1)) (iN m₂)/\Q (iN (i+1)) (iN b7)/\True)))) (.ptr (.key 5) [] g5 0)) (∃ x:Bool,(True)/\Q (bV (D1 (m:Int) 40)) (bV x))) (((o9 v3 0)||((o9 v2 0)&&(o9 v5 0)))==false)) ((o9 v3 0)==false)) ((((o9 v3 0)||((o9 v2 0)&&(o9 v5 0)))||(s9 v2 6))==false)) (((gs.getD i (⟨[],[],0⟩:k9)).wa:Nat):Int)) (eS ((gs.getD i (⟨[],[],0⟩:k9)).na) ((gs.getD i (⟨[],[],0⟩:k9)).ru) ((gs.getD i (⟨[],[],0⟩:k9)).wa))) (((((gs.getD i (⟨[],[],0⟩:k9)).na).map sV).length:Nat):Int)) (((((gs.getD i (⟨[],[],0⟩:k9)).ru).map au).length:Nat):Int))) ([42]:BL))
  Z7 ?_
 refine⟨⟨(0,0),?_,rfl,rfl,rfl,trivial⟩,?_⟩
 simp
 rintro⟨i,m⟩ ⟨h1,h2⟩
 have I8:=sA hg i
 have TX:=I8.nl
 have Uy:=I8.rl
 have hn3:=I8.w
 refine bI (fun j7=>?_) fun j7=>?_
 refine⟨⟨Z9,aj (d:=(⟨[],[],0⟩:k9)) Z9⟩,trivial,?_⟩
 intro g5
 refine⟨rfl,rfl,fun hG=>rfl,fun hG=>rfl,fun hG=>⟨fun h=>by rw[h];exact(YS _ _).mpr ⟨hG,rfl⟩,fun _=>rfl⟩,⟨fun _=>rfl,fun h=>by rw[h] <;> rfl⟩,fun hG=>rfl,⟨fun _=>rfl,fun h=>by rw[h] <;> rfl⟩,fun hG=>rfl,fun hG=>⟨trivial,rfl⟩,⟨fun _=>rfl,fun h=>by rw[h] <;> rfl⟩,?_⟩
 refine bI (fun l6=>?_) fun l6=>?_
 refine⟨false,?_,?_⟩
 try dsimp only
 skip
 first | rfl | simp_all
 refine⟨⟨0,?_,rfl,rfl,rfl,rfl,rfl,rfl,trivial⟩,?_⟩
 simp
 rintro k h3
 refine⟨rfl,?_⟩
 refine bI (fun n6=>?_) fun n6=>?_
 refine⟨rfl,⟨Z9,aj (d:=[]) Z9⟩,trivial,fun hG=>rfl,fun hG=>⟨Z9,aj (d:=[]) Z9⟩,fun hG=>trivial,fun hG=>⟨by(try simp only[nb]at hG);have:=fQ (gs:=gs) hg i k;omega,rfl⟩,⟨fun h=>by rw[h] <;> rfl,fun _=>rfl⟩,?_⟩
 refine bI (fun w6=>?_) fun w6=>?_
 refine⟨false,?_,?_⟩
 try dsimp only
 skip
 first | rfl | simp_all
 refine⟨Z9,?_⟩
 refine⟨k+1,?_,?_,rfl,rfl,rfl,rfl,rfl,rfl,trivial⟩
 (try simp only[YT,YV,YY,Y2]);omega
 exact Z1
 refine⟨⟨0,?_,rfl,rfl,rfl,rfl,rfl,rfl,trivial⟩,?_⟩
 simp
 rintro k h3
 refine⟨rfl,?_⟩
 refine bI (fun G8=>?_) fun G8=>?_
 refine⟨rfl,⟨Z9,aj (d:=(⟨false,[]⟩:s6)) Z9⟩,trivial,rfl,by have:=fT (gs:=gs) hg i k;omega,?_⟩
 refine bI (fun NK=>?_) fun NK=>?_
 refine⟨false,?_,?_⟩
 try dsimp only
 skip
 first | rfl | simp_all
 refine⟨Z9,?_⟩
 refine⟨k+1,?_,?_,rfl,rfl,rfl,rfl,rfl,rfl,trivial⟩
 (try simp only[YT,YV,YY,Y2]);omega
 exact Z1
 refine⟨rfl,Z2,rfl,Z2,Z2,Z9,?_⟩
 refine⟨(i+1,((m+((((gs.getD i (⟨[],[],0⟩:k9)).na).map sV).length))+((((gs.getD i (⟨[],[],0⟩:k9)).ru).map au).length))+1),?_,?_,rfl,rfl,rfl,trivial⟩
 refine⟨Z9,?_⟩
 (try simp only[YT,YV,YY,Y2]);omega
 exact Z1
 refine⟨D1 (m:Int) 40,?_,?_⟩
 try dsimp only
 skip
 first | rfl | simp_all)
def rj(gs:List k9):G5 Tryz.prog:=.mk BL 91 [bh gs] [] ((gs.length<=4)/\(∀ y,y∈gs->C5 y)) (fun x=>x.length<=1000/\m5 x) (fun x=>sV x) (fun x=>[]) (by
 rintro⟨hl,hg⟩
 refine fh (N:=89) (rs:=[.tmp 2]) (X:=BL) (post:=fun x=>x.length<=1000/\m5 x) (E:=fun x=>sV x) (H':=fun x=>[]) Tryz.func91 Z7 rfl rfl rfl Z7 [] (by intro _ k hk;simpa[lk] using hk)
  (.q 1<|.q 1<|.cx (uk gs) [] (fun (l5:Bool)=>.q 1<|.br (.q 1<|.nil) (.q 1<|.q 1<|.loop (Nat×BL) (fun (i,o)=>⟨[(0,bh gs),(3,sV o),(4,iN i)],[]⟩) (fun (i,o)=>i<=gs.length/\o.length<=200*i/\m5 o) (fun (i,o)=>gs.length-i) (fun (i,o)=>.q 4<|.br (.q 1<|.loop (Nat×BL) (fun (k,q)=>⟨[(0,bh gs),(3,sV q),(4,iN i),(5,iN k)],[]⟩) (fun (k,q)=>k<=(gs.getD i ⟨[],[],0⟩).na.length/\q.length<=200*i+20*k/\m5 q) (fun (k,q)=>(gs.getD i ⟨[],[],0⟩).na.length-k) (fun (k,q)=>.r 8 [eS ((gs.getD i (⟨[],[],0⟩:k9)).na) ((gs.getD i (⟨[],[],0⟩:k9)).ru) ((gs.getD i (⟨[],[],0⟩:k9)).wa)]<|.br (.r 13 [eS ((gs.getD i (⟨[],[],0⟩:k9)).na) ((gs.getD i (⟨[],[],0⟩:k9)).ru) ((gs.getD i (⟨[],[],0⟩:k9)).wa),sV (((gs.getD i (⟨[],[],0⟩:k9)).na).getD k [])]<|.q 3<|.nil) (.q 1<|.loop (Nat×BL) (fun (l,r)=>⟨[(0,bh gs),(3,sV r),(4,iN i),(6,iN l)],[]⟩) (fun (l,r)=>l<=(gs.getD i ⟨[],[],0⟩).ru.length/\r.length<=200*i+40+20*l/\m5 r) (fun (l,r)=>(gs.getD i ⟨[],[],0⟩).ru.length-l) (fun (l,r)=>.r 8 [eS ((gs.getD i (⟨[],[],0⟩:k9)).na) ((gs.getD i (⟨[],[],0⟩:k9)).ru) ((gs.getD i (⟨[],[],0⟩:k9)).wa)]<|.br (.q 1<|.r 9 [eS ((gs.getD i (⟨[],[],0⟩:k9)).na) ((gs.getD i (⟨[],[],0⟩:k9)).ru) ((gs.getD i (⟨[],[],0⟩:k9)).wa),.agg [bV ((((gs.getD i (⟨[],[],0⟩:k9)).ru).getD l (⟨false,[]⟩:s6)).I3),sV ((((gs.getD i (⟨[],[],0⟩:k9)).ru).getD l (⟨false,[]⟩:s6)).path)]]<|.br (.q 1<|.r 15 [eS ((gs.getD i (⟨[],[],0⟩:k9)).na) ((gs.getD i (⟨[],[],0⟩:k9)).ru) ((gs.getD i (⟨[],[],0⟩:k9)).wa),.agg [bV ((((gs.getD i (⟨[],[],0⟩:k9)).ru).getD l (⟨false,[]⟩:s6)).I3),sV ((((gs.getD i (⟨[],[],0⟩:k9)).ru).getD l (⟨false,[]⟩:s6)).path)]]<|.q 3<|.nil) (.r 15 [eS ((gs.getD i (⟨[],[],0⟩:k9)).na) ((gs.getD i (⟨[],[],0⟩:k9)).ru) ((gs.getD i (⟨[],[],0⟩:k9)).wa),.agg [bV ((((gs.getD i (⟨[],[],0⟩:k9)).ru).getD l (⟨false,[]⟩:s6)).I3),sV ((((gs.getD i (⟨[],[],0⟩:k9)).ru).getD l (⟨false,[]⟩:s6)).path)]]<|.q 3<|.nil)) (.r 6 [eS ((gs.getD i (⟨[],[],0⟩:k9)).na) ((gs.getD i (⟨[],[],0⟩:k9)).ru) ((gs.getD i (⟨[],[],0⟩:k9)).wa)]<|.br (.r 7 [eS ((gs.getD i (⟨[],[],0⟩:k9)).na) ((gs.getD i (⟨[],[],0⟩:k9)).ru) ((gs.getD i (⟨[],[],0⟩:k9)).wa)]<|.c (rX ((gs.getD i (⟨[],[],0⟩:k9)).wa)) []<|.q 3<|.q 3<|.nil) (.q 3<|.nil)))))) (.q 2<|.nil)))))
  ((fun v1:BL=>(fun v2:BL=>(fun v3:BL=>(fun v4:BL=>(fun v5:BL=>((uk gs).sm/\((gs.length<=4)/\(∀ y,y∈gs->C5 y))/\∀ l5:Bool,(True)->Br (!l5) (∃ x:BL,(x.length<=1000/\m5 x)/\Q (sV []) (sV x)) ((∃ x:Nat×BL,match x with | (j6,w4)=>(j6<=gs.length/\w4.length<=200*j6/\m5 w4)/\E (bh gs)/\Q (sV []) (sV w4)/\Q (iN 0) (iN j6)/\True)/\∀ x:Nat×BL,match x with | (i,o)=>(i<=gs.length/\o.length<=200*i/\m5 o)->(fun v6:V=>Br (r9 (i:Int) (((gs.map bO).length:Nat):Int)) ((∃ x:Nat×BL,match x with | (s7,z7)=>(s7<=(gs.getD i ⟨[],[],0⟩).na.length/\z7.length<=200*i+20*s7/\m5 z7)/\E (bh gs)/\Q (sV o) (sV z7)/\E (iN i)/\Q (iN 0) (iN s7)/\True)/\∀ x:Nat×BL,match x with | (k,q)=>(k<=(gs.getD i ⟨[],[],0⟩).na.length/\q.length<=200*i+20*k/\m5 q)->Ex (i:Int) (gs.map bO) v6/\True/\Br (r9 (k:Int) (((((gs.getD i (⟨[],[],0⟩:k9)).na).map sV).length:Nat):Int)) ((q.length+v1.length<=4611686018427387904)/\Ex (i:Int) (gs.map bO) v6/\True/\Ex (k:Int) (((gs.getD i (⟨[],[],0⟩:k9)).na).map sV) (sV (((gs.getD i (⟨[],[],0⟩:k9)).na).getD k []))/\True/\((q++v1).length+(((gs.getD i (⟨[],[],0⟩:k9)).na).getD k []).length<=4611686018427387904)/\(((q++v1)++(((gs.getD i (⟨[],[],0⟩:k9)).na).getD k [])).length+v2.length<=4611686018427387904)/\m8 ((k:Int)+1)/\∃ x:Nat×BL,match x with | (k₂,n9)=>(k₂<=(gs.getD i ⟨[],[],0⟩).na.length/\n9.length<=200*i+20*k₂/\m5 n9)/\((gs.getD i ⟨[],[],0⟩).na.length-k₂<(gs.getD i ⟨[],[],0⟩).na.length-k)/\E (bh gs)/\Q (sV (((q++v1)++(((gs.getD i (⟨[],[],0⟩:k9)).na).getD k []))++v2)) (sV n9)/\E (iN i)/\Q (iN (k+1)) (iN k₂)/\True) ((∃ x:Nat×BL,match x with | (NF,J8)=>(NF<=(gs.getD i ⟨[],[],0⟩).ru.length/\J8.length<=200*i+40+20*NF/\m5 J8)/\E (bh gs)/\Q (sV q) (sV J8)/\E (iN i)/\Q (iN 0) (iN NF)/\True)/\∀ x:Nat×BL,match x with | (l,r)=>(l<=(gs.getD i ⟨[],[],0⟩).ru.length/\r.length<=200*i+40+20*l/\m5 r)->(fun v7:V=>Ex (i:Int) (gs.map bO) v6/\True/\Br (r9 (l:Int) (((((gs.getD i (⟨[],[],0⟩:k9)).ru).map au).length:Nat):Int)) (Ex (i:Int) (gs.map bO) v6/\True/\Ex (l:Int) (((gs.getD i (⟨[],[],0⟩:k9)).ru).map au) v7/\True/\Br ((((gs.getD i (⟨[],[],0⟩:k9)).ru).getD l (⟨false,[]⟩:s6)).I3) ((r.length+v4.length<=4611686018427387904)/\Ex (i:Int) (gs.map bO) v6/\True/\Ex (l:Int) (((gs.getD i (⟨[],[],0⟩:k9)).ru).map au) v7/\True/\((r++v4).length+((((gs.getD i (⟨[],[],0⟩:k9)).ru).getD l (⟨false,[]⟩:s6)).path).length<=4611686018427387904)/\(((r++v4)++((((gs.getD i (⟨[],[],0⟩:k9)).ru).getD l (⟨false,[]⟩:s6)).path)).length+v2.length<=4611686018427387904)/\m8 ((l:Int)+1)/\∃ x:Nat×BL,match x with | (E6,w7)=>(E6<=(gs.getD i ⟨[],[],0⟩).ru.length/\w7.length<=200*i+40+20*E6/\m5 w7)/\((gs.getD i ⟨[],[],0⟩).ru.length-E6<(gs.getD i ⟨[],[],0⟩).ru.length-l)/\E (bh gs)/\Q (sV (((r++v4)++((((gs.getD i (⟨[],[],0⟩:k9)).ru).getD l (⟨false,[]⟩:s6)).path))++v2)) (sV w7)/\E (iN i)/\Q (iN (l+1)) (iN E6)/\True) ((r.length+v5.length<=4611686018427387904)/\Ex (i:Int) (gs.map bO) v6/\True/\Ex (l:Int) (((gs.getD i (⟨[],[],0⟩:k9)).ru).map au) v7/\True/\((r++v5).length+((((gs.getD i (⟨[],[],0⟩:k9)).ru).getD l (⟨false,[]⟩:s6)).path).length<=4611686018427387904)/\(((r++v5)++((((gs.getD i (⟨[],[],0⟩:k9)).ru).getD l (⟨false,[]⟩:s6)).path)).length+v2.length<=4611686018427387904)/\m8 ((l:Int)+1)/\∃ x:Nat×BL,match x with | (E6,w7)=>(E6<=(gs.getD i ⟨[],[],0⟩).ru.length/\w7.length<=200*i+40+20*E6/\m5 w7)/\((gs.getD i ⟨[],[],0⟩).ru.length-E6<(gs.getD i ⟨[],[],0⟩).ru.length-l)/\E (bh gs)/\Q (sV (((r++v5)++((((gs.getD i (⟨[],[],0⟩:k9)).ru).getD l (⟨false,[]⟩:s6)).path))++v2)) (sV w7)/\E (iN i)/\Q (iN (l+1)) (iN E6)/\True)) (Ex (i:Int) (gs.map bO) v6/\True/\Br (s9 (((gs.getD i (⟨[],[],0⟩:k9)).wa:Nat):Int) 0) ((r.length+v3.length<=4611686018427387904)/\Ex (i:Int) (gs.map bO) v6/\True/\(rX ((gs.getD i (⟨[],[],0⟩:k9)).wa)).sm/\((((gs.getD i (⟨[],[],0⟩:k9)).wa)<=1000000))/\((r++v3).length+(dL ((gs.getD i (⟨[],[],0⟩:k9)).wa)).length<=4611686018427387904)/\(((r++v3)++(dL ((gs.getD i (⟨[],[],0⟩:k9)).wa))).length+v2.length<=4611686018427387904)/\m8 ((i:Int)+1)/\∃ x:Nat×BL,match x with | (b7,l9)=>(b7<=gs.length/\l9.length<=200*b7/\m5 l9)/\(gs.length-b7<gs.length-i)/\E (bh gs)/\Q (sV (((r++v3)++(dL ((gs.getD i (⟨[],[],0⟩:k9)).wa)))++v2)) (sV l9)/\Q (iN (i+1)) (iN b7)/\True) (m8 ((i:Int)+1)/\∃ x:Nat×BL,match x with | (b7,l9)=>(b7<=gs.length/\l9.length<=200*b7/\m5 l9)/\(gs.length-b7<gs.length-i)/\E (bh gs)/\Q (sV r) (sV l9)/\Q (iN (i+1)) (iN b7)/\True))) (.agg [bV ((((gs.getD i (⟨[],[],0⟩:k9)).ru).getD l (⟨false,[]⟩:s6)).I3),sV ((((gs.getD i (⟨[],[],0⟩:k9)).ru).getD l (⟨false,[]⟩:s6)).path)]))) (∃ x:BL,(x.length<=1000/\m5 x)/\Q (sV o) (sV x))) (eS ((gs.getD i (⟨[],[],0⟩:k9)).na) ((gs.getD i (⟨[],[],0⟩:k9)).ru) ((gs.getD i (⟨[],[],0⟩:k9)).wa))))) ([98,97,114,32]:BL)) ([108,101,116,32]:BL)) ([119,97,105,116,32]:BL)) ([10]:BL)) ([99,97,108,108,101,114,32]:BL))
  Z7 ?_
 refine⟨rfl,⟨hl,hg⟩,?_⟩
 intro l5 H9
 refine bI (fun j7=>?_) fun j7=>?_
 refine⟨[],?_,?_⟩
 try dsimp only
 exact⟨Z8,aZ⟩
 first | rfl | simp_all
 · refine⟨⟨(0,[]),?_,rfl,rfl,rfl,trivial⟩,?_⟩
   exact⟨Z8,Z8,aZ⟩
   rintro⟨i,o⟩ ⟨h1,h2,YF⟩
   have I8:=sA hg i
   have TX:=I8.nl
   have Uy:=I8.rl
   have hn3:=I8.w
   have hn4:=qm (gs.getD i ⟨[],[],0⟩).wa Z9
   refine bI (fun l6=>?_) fun l6=>?_
   · refine⟨⟨(0,o),?_,rfl,rfl,rfl,rfl,trivial⟩,?_⟩
     exact⟨Z9,Z9,YF⟩
     rintro⟨k,q⟩ ⟨h3,h4,h4b⟩
     have P9:=fQ (gs:=gs) hg i k
     refine⟨⟨Z9,aj (d:=(⟨[],[],0⟩:k9)) Z9⟩,trivial,?_⟩
     refine bI (fun n6=>?_) fun n6=>?_
     · refine⟨by(try have:=fQ (gs:=gs) hg i k);(try have:=fT (gs:=gs) hg i k);(try simp only[YT,YV,YY]);omega,⟨Z9,aj (d:=(⟨[],[],0⟩:k9)) Z9⟩,trivial,⟨Z9,aj (d:=[]) Z9⟩,trivial,by(try have:=fQ (gs:=gs) hg i k);(try have:=fT (gs:=gs) hg i k);(try simp only[YT,YV,YY]);omega,by(try have:=fQ (gs:=gs) hg i k);(try have:=fT (gs:=gs) hg i k);(try simp only[YT,YV,YY]);omega,Z9,?_⟩
       refine⟨(k+1,((q++([99,97,108,108,101,114,32]:BL))++(((gs.getD i (⟨[],[],0⟩:k9)).na).getD k []))++([10]:BL)),?_,?_,rfl,rfl,rfl,rfl,trivial⟩
       · refine⟨Z9,?_,by(try dsimp only);repeat (first | assumption | exact aZ | exact bJ rfl | exact rC hg _ _ | exact qS hg _ _ | exact lj _ | apply m5.app)⟩
         (try simp only[YT,YV,YY,Y2]);omega
       exact Z1
     · refine⟨⟨(0,q),?_,rfl,rfl,rfl,rfl,trivial⟩,?_⟩
       exact⟨Z9,Z9,h4b⟩
       rintro⟨l,r⟩ ⟨h5,h6,h6b⟩
       have MT:=fT (gs:=gs) hg i l
       refine⟨⟨Z9,aj (d:=(⟨[],[],0⟩:k9)) Z9⟩,trivial,?_⟩
       refine bI (fun w6=>?_) fun w6=>?_
       · refine⟨⟨Z9,aj (d:=(⟨[],[],0⟩:k9)) Z9⟩,trivial,⟨Z9,aj (d:=(⟨false,[]⟩:s6)) Z9⟩,trivial,?_⟩
         refine bI (fun G8=>?_) fun G8=>?_
         · refine⟨by(try have:=fQ (gs:=gs) hg i k);(try have:=fT (gs:=gs) hg i k);(try simp only[YT,YV,YY]);omega,⟨Z9,aj (d:=(⟨[],[],0⟩:k9)) Z9⟩,trivial,⟨Z9,aj (d:=(⟨false,[]⟩:s6)) Z9⟩,trivial,by(try have:=fQ (gs:=gs) hg i k);(try have:=fT (gs:=gs) hg i k);(try simp only[YT,YV,YY]);omega,by(try have:=fQ (gs:=gs) hg i k);(try have:=fT (gs:=gs) hg i k);(try simp only[YT,YV,YY]);omega,Z9,?_⟩
           refine⟨(l+1,((r++([108,101,116,32]:BL))++((((gs.getD i (⟨[],[],0⟩:k9)).ru).getD l (⟨false,[]⟩:s6)).path))++([10]:BL)),?_,?_,rfl,rfl,rfl,rfl,trivial⟩
           · refine⟨Z9,?_,by(try dsimp only);repeat (first | assumption | exact aZ | exact bJ rfl | exact rC hg _ _ | exact qS hg _ _ | exact lj _ | apply m5.app)⟩
             (try simp only[YT,YV,YY,Y2]);omega
           exact Z1
         · refine⟨by(try have:=fQ (gs:=gs) hg i k);(try have:=fT (gs:=gs) hg i k);(try simp only[YT,YV,YY]);omega,⟨Z9,aj (d:=(⟨[],[],0⟩:k9)) Z9⟩,trivial,⟨Z9,aj (d:=(⟨false,[]⟩:s6)) Z9⟩,trivial,by(try have:=fQ (gs:=gs) hg i k);(try have:=fT (gs:=gs) hg i k);(try simp only[YT,YV,YY]);omega,by(try have:=fQ (gs:=gs) hg i k);(try have:=fT (gs:=gs) hg i k);(try simp only[YT,YV,YY]);omega,Z9,?_⟩
           refine⟨(l+1,((r++([98,97,114,32]:BL))++((((gs.getD i (⟨[],[],0⟩:k9)).ru).getD l (⟨false,[]⟩:s6)).path))++([10]:BL)),?_,?_,rfl,rfl,rfl,rfl,trivial⟩
           · refine⟨Z9,?_,by(try dsimp only);repeat (first | assumption | exact aZ | exact bJ rfl | exact rC hg _ _ | exact qS hg _ _ | exact lj _ | apply m5.app)⟩
             (try simp only[YT,YV,YY,Y2]);omega
           exact Z1
       · refine⟨⟨Z9,aj (d:=(⟨[],[],0⟩:k9)) Z9⟩,trivial,?_⟩
         refine bI (fun NK=>?_) fun NK=>?_
         · refine⟨by(try have:=fQ (gs:=gs) hg i k);(try have:=fT (gs:=gs) hg i k);(try simp only[YT,YV,YY]);omega,⟨Z9,aj (d:=(⟨[],[],0⟩:k9)) Z9⟩,trivial,rfl,Z9,by(try have:=fQ (gs:=gs) hg i k);(try have:=fT (gs:=gs) hg i k);(try simp only[YT,YV,YY]);omega,by(try have:=fQ (gs:=gs) hg i k);(try have:=fT (gs:=gs) hg i k);(try simp only[YT,YV,YY]);omega,Z9,?_⟩
           refine⟨(i+1,((r++([119,97,105,116,32]:BL))++(dL ((gs.getD i (⟨[],[],0⟩:k9)).wa)))++([10]:BL)),?_,?_,rfl,rfl,rfl,trivial⟩
           · refine⟨Z9,?_,by(try dsimp only);repeat (first | assumption | exact aZ | exact bJ rfl | exact rC hg _ _ | exact qS hg _ _ | exact lj _ | apply m5.app)⟩
             (try simp only[YT,YV,YY,Y2]);omega
           exact Z1
         · refine⟨Z9,?_⟩
           refine⟨(i+1,r),?_,?_,rfl,rfl,rfl,trivial⟩
           · refine⟨Z9,?_,by(try dsimp only);repeat (first | assumption | exact aZ | exact bJ rfl | exact rC hg _ _ | exact qS hg _ _ | exact lj _ | apply m5.app)⟩
             (try simp only[YT,YV,YY,Y2]);omega
           exact Z1
   refine⟨o,?_,?_⟩
   try dsimp only
   exact⟨Z9,YF⟩
   first | rfl | simp_all)
abbrev fw(b:BL)(p:Nat)(g:Nat)(n:Nat)(e':List Pg)(q':Nat)(u':Nat)(f':Nat)(k':Nat):Prop:=e'.length+n<=12/\(1<=e'.length\/2<=n)/\(∀ y,y∈e'->m9 y)/\p<=q'/\q'+100*n<=p+1300
def uP(b:BL)(p:Nat)(g:Nat):G5 Tryz.prog:=.mk (List Pg×Nat) 53 [.ptr (.key 1000) [] g 0] [(1000,(g,aq b p))] ((b.length<=2000)/\(p<=700000)) (fun x=>1<=x.1.length/\x.1.length<=12/\(∀ y,y∈x.1->m9 y)/\p<=x.2/\x.2<=p+1500) (fun x=>.ow 4 (x.1.map r5)) (fun x=>[(1000,(g,aq b x.2))]) (by
 rintro⟨hb,hp⟩
 refine fh (N:=94) (rs:=[.tmp 2]) (X:=List Pg×Nat) (post:=fun x=>1<=x.1.length/\x.1.length<=12/\(∀ y,y∈x.1->m9 y)/\p<=x.2/\x.2<=p+1500) (E:=fun x=>.ow 4 (x.1.map r5)) (H':=fun x=>[(1000,(g,.agg [.sl false (b.map n0),iN x.2]))]) Tryz.func53 Z7 rfl rfl rfl Z7 [(1000,(0,.a8))] (by intro _ k hk;simpa[lk] using hk)
  (.q 1<|.bs<|.q 1<|.c (lr) []<|.q 1<|.q 1<|.h (.H7 3 4)<|.loop (Nat×(List Pg)×Nat×Nat×Nat×Nat) (fun (i,e,q,u,f,k)=>⟨[(0,.ptr (.key 1000) [] g 0),(3,.own 4 (e.map r5) u f k),(4,ao aP),(5,iN i)],[(1000,(g,aq b q))]⟩) (fun (i,e,q,u,f,k)=>i<=4/\e.length<=i/\(∀ y,y∈e->m9 y)/\p<=q/\q<=p+90*i) (fun (i,e,q,u,f,k)=>4-i) (fun (i,e,q,u,f,k)=>.q 2<|.br (.q 1<|.cx (bf b q g 2) [(1000,1000)] (fun (D5:Nat)=>.q 1<|.br (.dx 16 [0,1,2,3,4,5,6,9,10,7,8,11,12,13,14,15] [(3,⟨false,[],some [],[23],[]⟩),(7,⟨true,[],some [1000],[27],[1000]⟩),(8,⟨true,[],some [],[28],[]⟩),(11,⟨true,[],some [1000],[31],[1000]⟩),(13,⟨false,[],some [],[33],[]⟩)] [(15,nq)]<|.q 1<|.q 1<|.r 1 [sV (aP.getD i [])]<|.q 1<|.q 1<|.q 1<|.q 1<|.bs<|.q 1<|.cx (sM b (q+1) g) [(1000,1000)] (fun (D9:List k9×Nat)=>.cx (rj D9.1) [] (fun (N8:BL)=>.cx (bf b D9.2 g 6) [(1000,1000)] (fun (C6:Nat)=>.r 1 [iV ([0,0,0,1,2,5].getD C6 0)]<|.q 1<|.bd nq<|.ua (fun g6=>.st none<|.q 1<|.cx (bf b (D9.2+1) g 12) [(1000,1000)] (fun (Ok:Nat)=>.q 1<|.join (Pg×Nat) (fun y=>⟨[(0,.ptr (.key 1000) [] g 0),(3,.own 4 (e.map r5) u f k),(4,ao aP),(5,iN i),(13,iN i),(14,bV (r9 (i:Int) 4)),(17,.ptr (.key 1000) [] g 0),(18,iN D5),(19,bV (o9 (D5:Int) 0)),(20,ao aP),(21,iN i),(22,.ep (sV (aP.getD i []))),(23,sV (aP.getD i [])),(24,sV (([47,47]:BL)++(aP.getD i []))),(25,sV ((([47,47]:BL)++(aP.getD i []))++([47,110,111,116,105,99,101]:BL))),(26,.ptr (.key 1000) [] g 0),(29,.sl true ([0,0,0,1,2,5].map iV)),(30,.ptr (.key 1000) [] g 0),(27,bh D9.1),(28,sV N8),(31,iN C6),(32,.ep (iV ([0,0,0,1,2,5].getD C6 0))),(33,iV ([0,0,0,1,2,5].getD C6 0)),(34,.agg [sV ((([47,47]:BL)++(aP.getD i []))++([47,110,111,116,105,99,101]:BL)),sV N8,sV [],iV ([0,0,0,1,2,5].getD C6 0)]),(6,.ptr (.key 6) [] g6 0),(35,.ptr (.key 1000) [] g 0),(36,iN Ok),(37,bV (o9 (Ok:Int) 0))],[(1000,(g,aq b y.2)),(6,(g6,cn y.1.addr y.1.text y.1.lead y.1.m0))]⟩) (fun y=>y.1.addr.length<=30/\y.1.lead.length<=30/\y.1.text.length<=1000/\(0<=y.1.m0/\y.1.m0<=10)/\q<=y.2/\y.2<=q+80/\m5 y.1.addr/\m5 y.1.lead/\m5 y.1.text) (.q 1<|.st none<|.q 1<|.cx (eH b ((D9.2+1)+1) g) [(1000,1000)] (fun (E5:BL×Nat)=>.q 1<|.st none<|.nil)) (.nil) (fun y=>.r 4 [.a8]<|.br (.r 2 [.a8]<|.bs<|.ap (fun Tg SB Tt=>.h (.o4 49 (.own 4 ((e++[y.1]).map r5) Tg SB Tt))<|.q 1<|.q 3<|.nil)) (.q 3<|.nil)))))))) (.q 3<|.nil))) (.q 1<|.cx (bf b q g 7) [(1000,1000)] (fun (NR:Nat)=>.q 2<|.loop (Nat×(List Pg)×Nat×Nat×Nat×Nat) (fun (n,e',q',u',f',k')=>⟨[(0,.ptr (.key 1000) [] g 0),(3,.own 4 (e'.map r5) u' f' k'),(7,iN n)],[(1000,(g,aq b q'))]⟩) (fun (n,e',q',u',f',k')=>fw b p g n e' q' u' f' k') (fun (n,e',q',u',f',k')=>n) (fun (n,e',q',u',f',k')=>.q 2<|.br (.q 1<|.cx (eH b q' g) [(1000,1000)] (fun (D4:BL×Nat)=>.q 1<|.cx (wV b D4.2 g) [(1000,1000)] (fun (z8:BL×Nat)=>.bs<|.q 1<|.cx (bf b z8.2 g 7) [(1000,1000)] (fun (C7:Nat)=>.r 2 [iV ([0,0,0,0,1,2,4].getD C7 0)]<|.bd nq<|.al nq (fun g8=>.st none<|.q 1<|.cx (bf b (z8.2+1) g 8) [(1000,1000)] (fun (MX:Nat)=>.q 1<|.join (Pg×Nat) (fun y=>⟨[(0,.ptr (.key 1000) [] g 0),(3,.own 4 (e'.map r5) u' f' k'),(7,iN n),(53,iN n),(54,bV (s9 (n:Int) 0)),(57,.ptr (.key 1000) [] g 0),(58,sV D4.1),(59,.ptr (.key 1000) [] g 0),(60,sV z8.1),(61,.sl true ([0,0,0,0,1,2,4].map iV)),(62,.ptr (.key 1000) [] g 0),(63,iN C7),(64,.ep (iV ([0,0,0,0,1,2,4].getD C7 0))),(65,iV ([0,0,0,0,1,2,4].getD C7 0)),(66,.agg [sV D4.1,sV z8.1,sV [],iV ([0,0,0,0,1,2,4].getD C7 0)]),(8,.ptr (.key 8) [] g8 0),(67,.ptr (.key 1000) [] g 0),(68,iN MX),(69,bV (o9 (MX:Int) 0))],[(1000,(g,aq b y.2)),(8,(g8,cn y.1.addr y.1.text y.1.lead y.1.m0))]⟩) (fun y=>m9 y.1/\q'<=y.2/\y.2<=q'+90) (.q 1<|.st none<|.q 1<|.cx (eH b ((z8.2+1)+1) g) [(1000,1000)] (fun (L9:BL×Nat)=>.q 1<|.st none<|.nil)) (.nil) (fun y=>.r 3 [.a8]<|.cl (Is e' y.1.addr)<|.q 3<|.al nq (fun g9=>.st none<|.q 1<|.r 8 [.a8]<|.br (.r 2 [.a8]<|.bs<|.ap (fun S9 Ss Tk=>.h (.o4 92 (.own 4 ((e'++[y.1]).map r5) S9 Ss Tk))<|.q 1<|.q 2<|.h (.o4 56 (iN (n-1)))<|.q 1<|.nil)) (.q 2<|.h (.o4 56 (iN (n-1)))<|.q 1<|.nil))))))))) (.q 2<|.h (.gZ 2)<|.nil))))))
  ((fun v1:V=>(fun v2:BL=>(fun v3:BL=>(fun v4:V=>((lr).sm/\(True)/\(∃ x:Nat×(List Pg)×Nat×Nat×Nat×Nat,match x with | (j6,D6,z7,H6,A5,s7)=>(j6<=4/\D6.length<=j6/\(∀ y,y∈D6->m9 y)/\p<=z7/\z7<=p+90*j6)/\E v1/\Q (.own 4 ([].map r5) 0 0 0) (.own 4 (D6.map r5) H6 A5 s7)/\E v4/\Q (iN 0) (iN j6)/\Qr g (aq b p) g (aq b z7)/\True)/\∀ x:Nat×(List Pg)×Nat×Nat×Nat×Nat,match x with | (i,e,q,u,f,k)=>(i<=4/\e.length<=i/\(∀ y,y∈e->m9 y)/\p<=q/\q<=p+90*i)->(fun v5:V=>(fun v6:V=>Br (r9 (i:Int) 4) ((bf b q g 2).sm/\Er g (aq b q)/\((b.length<=2000)/\(q<=1000000)/\(2<=1000000))/\∀ D5:Nat,(2=0/\D5=0\/D5<2)->Br (o9 (D5:Int) 0) (Ex (i:Int) (aP.map sV) v6/\True/\(v3.length+(aP.getD i []).length<=4611686018427387904)/\((v3++(aP.getD i [])).length+v2.length<=4611686018427387904)/\(sM b (q+1) g).sm/\Er g (aq b (q+1))/\((b.length<=2000)/\((q+1)<=800000))/\∀ D9:List k9×Nat,(D9.1.length<=4/\(∀ y,y∈D9.1->C5 y)/\(q+1)<=D9.2/\D9.2<=(q+1)+60)->(rj D9.1).sm/\((D9.1.length<=4)/\(∀ y,y∈D9.1->C5 y))/\∀ N8:BL,(N8.length<=1000/\m5 N8)->(bf b D9.2 g 6).sm/\Er g (aq b D9.2)/\((b.length<=2000)/\(D9.2<=1000000)/\(6<=1000000))/\∀ C6:Nat,(6=0/\C6=0\/C6<6)->(fun v7:V=>Ex (C6:Int) ([0,0,0,1,2,5].map iV) (iV ([0,0,0,1,2,5].getD C6 0))/\True/\∀ g6:Nat,Z g6 0/\(bf b (D9.2+1) g 12).sm/\Er g (aq b (D9.2+1))/\((b.length<=2000)/\((D9.2+1)<=1000000)/\(12<=1000000))/\∀ Ok:Nat,(12=0/\Ok=0\/Ok<12)->(fun v8:Bool=>(v8=true->Z g6 1/\(eH b ((D9.2+1)+1) g).sm/\Er g (aq b ((D9.2+1)+1))/\((b.length<=2000)/\(((D9.2+1)+1)<=900000))/\∀ E5:BL×Nat,(E5.1.length<=25/\((D9.2+1)+1)<=E5.2/\E5.2<=((D9.2+1)+1)+6/\m5 E5.1)->Z g6 2/\∃ y:Pg×Nat,(y.1.addr.length<=30/\y.1.lead.length<=30/\y.1.text.length<=1000/\(0<=y.1.m0/\y.1.m0<=10)/\q<=y.2/\y.2<=q+80/\m5 y.1.addr/\m5 y.1.lead/\m5 y.1.text)/\E v1/\E v5/\E v4/\E (iN i)/\E (iN i)/\E (bV (r9 (i:Int) 4))/\E v1/\E (iN D5)/\E (bV (o9 (D5:Int) 0))/\E v4/\E (iN i)/\E (.ep v6)/\E v6/\E (sV (v3++(aP.getD i [])))/\E (sV ((v3++(aP.getD i []))++v2))/\E v1/\E (.sl true ([0,0,0,1,2,5].map iV))/\E v1/\E (bh D9.1)/\E (sV N8)/\E (iN C6)/\E (.ep (iV ([0,0,0,1,2,5].getD C6 0)))/\E (iV ([0,0,0,1,2,5].getD C6 0))/\E v7/\E (.ptr (.key 6) [] g6 0)/\E v1/\E (iN Ok)/\E (bV v8)/\Qr g (aq b E5.2) g (aq b y.2)/\Qr g6 (.agg [sV ((v3++(aP.getD i []))++v2),sV [],sV E5.1,iV ([0,0,0,1,2,5].getD C6 0)]) g6 (cn y.1.addr y.1.text y.1.lead y.1.m0)/\True)/\(v8=false->∃ y:Pg×Nat,(y.1.addr.length<=30/\y.1.lead.length<=30/\y.1.text.length<=1000/\(0<=y.1.m0/\y.1.m0<=10)/\q<=y.2/\y.2<=q+80/\m5 y.1.addr/\m5 y.1.lead/\m5 y.1.text)/\E v1/\E v5/\E v4/\E (iN i)/\E (iN i)/\E (bV (r9 (i:Int) 4))/\E v1/\E (iN D5)/\E (bV (o9 (D5:Int) 0))/\E v4/\E (iN i)/\E (.ep v6)/\E v6/\E (sV (v3++(aP.getD i [])))/\E (sV ((v3++(aP.getD i []))++v2))/\E v1/\E (.sl true ([0,0,0,1,2,5].map iV))/\E v1/\E (bh D9.1)/\E (sV N8)/\E (iN C6)/\E (.ep (iV ([0,0,0,1,2,5].getD C6 0)))/\E (iV ([0,0,0,1,2,5].getD C6 0))/\E v7/\E (.ptr (.key 6) [] g6 0)/\E v1/\E (iN Ok)/\E (bV v8)/\Qr g (aq b ((D9.2+1)+1)) g (aq b y.2)/\Qr g6 v7 g6 (cn y.1.addr y.1.text y.1.lead y.1.m0)/\True)/\(∀ y:Pg×Nat,(y.1.addr.length<=30/\y.1.lead.length<=30/\y.1.text.length<=1000/\(0<=y.1.m0/\y.1.m0<=10)/\q<=y.2/\y.2<=q+80/\m5 y.1.addr/\m5 y.1.lead/\m5 y.1.text)->Z g6 1/\Br (D1 (y.1.text.length:Int) 300) (Z g6 0/\((4,4,u,f,k,(e.map r5).length)=(4,4,u,f,k,(e.map r5).length))/\(True)/\(V.aE ([cn y.1.addr y.1.text y.1.lead y.1.m0]:List V)=false)/\(aJ 4 ([cn y.1.addr y.1.text y.1.lead y.1.m0]:List V))/\(((e.map r5).length+([cn y.1.addr y.1.text y.1.lead y.1.m0]:List V).length)*56<=140737488355328)/\∀ Tg SB Tt:Nat,((.own 4 ((e.map r5)++([cn y.1.addr y.1.text y.1.lead y.1.m0]:List V)) Tg SB Tt:V)=.own 4 ((e++[y.1]).map r5) Tg SB Tt)/\m8 ((i:Int)+1)/\∃ x:Nat×(List Pg)×Nat×Nat×Nat×Nat,match x with | (b7,x5,n9,B9,r4,k₂)=>(b7<=4/\x5.length<=b7/\(∀ y,y∈x5->m9 y)/\p<=n9/\n9<=p+90*b7)/\(4-b7<4-i)/\E v1/\Q (.own 4 ((e++[y.1]).map r5) Tg SB Tt) (.own 4 (x5.map r5) B9 r4 k₂)/\E v4/\Q (iN (i+1)) (iN b7)/\Qr g (aq b y.2) g (aq b n9)/\True) (m8 ((i:Int)+1)/\∃ x:Nat×(List Pg)×Nat×Nat×Nat×Nat,match x with | (b7,x5,n9,B9,r4,k₂)=>(b7<=4/\x5.length<=b7/\(∀ y,y∈x5->m9 y)/\p<=n9/\n9<=p+90*b7)/\(4-b7<4-i)/\E v1/\Q v5 (.own 4 (x5.map r5) B9 r4 k₂)/\E v4/\Q (iN (i+1)) (iN b7)/\Qr g (aq b y.2) g (aq b n9)/\True))) (o9 (Ok:Int) 0)) (.agg [sV ((v3++(aP.getD i []))++v2),sV N8,sV [],iV ([0,0,0,1,2,5].getD C6 0)])) (m8 ((i:Int)+1)/\∃ x:Nat×(List Pg)×Nat×Nat×Nat×Nat,match x with | (b7,x5,n9,B9,r4,k₂)=>(b7<=4/\x5.length<=b7/\(∀ y,y∈x5->m9 y)/\p<=n9/\n9<=p+90*b7)/\(4-b7<4-i)/\E v1/\Q v5 (.own 4 (x5.map r5) B9 r4 k₂)/\E v4/\Q (iN (i+1)) (iN b7)/\Qr g (aq b (q+1)) g (aq b n9)/\True)) ((bf b q g 7).sm/\Er g (aq b q)/\((b.length<=2000)/\(q<=1000000)/\(7<=1000000))/\∀ NR:Nat,(7=0/\NR=0\/NR<7)->m8 (2+(NR:Int))/\(∃ x:Nat×(List Pg)×Nat×Nat×Nat×Nat,match x with | (J9,Tj,Sr,Sp,Ti,SJ)=>(fw b p g J9 Tj Sr Sp Ti SJ)/\E v1/\Q v5 (.own 4 (Tj.map r5) Sp Ti SJ)/\Q (iN (2+NR)) (iN J9)/\Qr g (aq b (q+1)) g (aq b Sr)/\True)/\∀ x:Nat×(List Pg)×Nat×Nat×Nat×Nat,match x with | (n,e',q',u',f',k')=>(fw b p g n e' q' u' f' k')->(fun v9:V=>Br (s9 (n:Int) 0) ((eH b q' g).sm/\Er g (aq b q')/\((b.length<=2000)/\(q'<=900000))/\∀ D4:BL×Nat,(D4.1.length<=25/\q'<=D4.2/\D4.2<=q'+6/\m5 D4.1)->(wV b D4.2 g).sm/\Er g (aq b D4.2)/\((b.length<=2000)/\(D4.2<=880000))/\∀ z8:BL×Nat,(z8.1.length<=240/\D4.2<=z8.2/\z8.2<=D4.2+70/\m5 z8.1)->(bf b z8.2 g 7).sm/\Er g (aq b z8.2)/\((b.length<=2000)/\(z8.2<=1000000)/\(7<=1000000))/\∀ C7:Nat,(7=0/\C7=0\/C7<7)->(fun v10:V=>Ex (C7:Int) ([0,0,0,0,1,2,4].map iV) (iV ([0,0,0,0,1,2,4].getD C7 0))/\True/\∀ g8:Nat,Z g8 0/\(bf b (z8.2+1) g 8).sm/\Er g (aq b (z8.2+1))/\((b.length<=2000)/\((z8.2+1)<=1000000)/\(8<=1000000))/\∀ MX:Nat,(8=0/\MX=0\/MX<8)->(fun v11:Bool=>(v11=true->Z g8 1/\(eH b ((z8.2+1)+1) g).sm/\Er g (aq b ((z8.2+1)+1))/\((b.length<=2000)/\(((z8.2+1)+1)<=900000))/\∀ L9:BL×Nat,(L9.1.length<=25/\((z8.2+1)+1)<=L9.2/\L9.2<=((z8.2+1)+1)+6/\m5 L9.1)->Z g8 2/\∃ y:Pg×Nat,(m9 y.1/\q'<=y.2/\y.2<=q'+90)/\E v1/\E v9/\E (iN n)/\E (iN n)/\E (bV (s9 (n:Int) 0))/\E v1/\E (sV D4.1)/\E v1/\E (sV z8.1)/\E (.sl true ([0,0,0,0,1,2,4].map iV))/\E v1/\E (iN C7)/\E (.ep (iV ([0,0,0,0,1,2,4].getD C7 0)))/\E (iV ([0,0,0,0,1,2,4].getD C7 0))/\E v10/\E (.ptr (.key 8) [] g8 0)/\E v1/\E (iN MX)/\E (bV v11)/\Qr g (aq b L9.2) g (aq b y.2)/\Qr g8 (.agg [sV D4.1,sV [],sV L9.1,iV ([0,0,0,0,1,2,4].getD C7 0)]) g8 (cn y.1.addr y.1.text y.1.lead y.1.m0)/\True)/\(v11=false->∃ y:Pg×Nat,(m9 y.1/\q'<=y.2/\y.2<=q'+90)/\E v1/\E v9/\E (iN n)/\E (iN n)/\E (bV (s9 (n:Int) 0))/\E v1/\E (sV D4.1)/\E v1/\E (sV z8.1)/\E (.sl true ([0,0,0,0,1,2,4].map iV))/\E v1/\E (iN C7)/\E (.ep (iV ([0,0,0,0,1,2,4].getD C7 0)))/\E (iV ([0,0,0,0,1,2,4].getD C7 0))/\E v10/\E (.ptr (.key 8) [] g8 0)/\E v1/\E (iN MX)/\E (bV v11)/\Qr g (aq b ((z8.2+1)+1)) g (aq b y.2)/\Qr g8 v10 g8 (cn y.1.addr y.1.text y.1.lead y.1.m0)/\True)/\(∀ y:Pg×Nat,(m9 y.1/\q'<=y.2/\y.2<=q'+90)->(fun v12:List V=>(fun H5:Bool=>Z g8 0/\(((4=4/\u'=u'/\f'=f')/\0+((e'.map r5).length)<=(e'.map r5).length/\V.aE (e'.map r5)=false/\aJ 4 (e'.map r5))/\True)/\(([.sl false (((e'.map r5).drop 0).take ((e'.map r5).length)),sV y.1.addr]:List V)=[bZ e',sV y.1.addr])/\((e'.length<=1000000))/\∀ g9:Nat,Z g9 0/\Gd (H5==true) (Z g8 1)/\Pk H5 (H5==true) true/\Br (H5&&(D1 (y.1.text.length:Int) 300)) (Z g8 0/\((4,4,u',f',k',(e'.map r5).length)=(4,4,u',f',k',(e'.map r5).length))/\(True)/\(V.aE v12=false)/\(aJ 4 v12)/\(((e'.map r5).length+v12.length)*56<=140737488355328)/\∀ S9 Ss Tk:Nat,((.own 4 ((e'.map r5)++v12) S9 Ss Tk:V)=.own 4 ((e'++[y.1]).map r5) S9 Ss Tk)/\m8 ((n:Int)-1)/\Q (iV ((n:Int)-1)) (iN (n-1))/\∃ x:Nat×(List Pg)×Nat×Nat×Nat×Nat,match x with | (w5,Ps,OV,OS,Pr,O2)=>(fw b p g w5 Ps OV OS Pr O2)/\(w5<n)/\E v1/\Q (.own 4 ((e'++[y.1]).map r5) S9 Ss Tk) (.own 4 (Ps.map r5) OS Pr O2)/\Q (iN (n-1)) (iN w5)/\Qr g (aq b y.2) g (aq b OV)/\True) (m8 ((n:Int)-1)/\Q (iV ((n:Int)-1)) (iN (n-1))/\∃ x:Nat×(List Pg)×Nat×Nat×Nat×Nat,match x with | (w5,Ps,OV,OS,Pr,O2)=>(fw b p g w5 Ps OV OS Pr O2)/\(w5<n)/\E v1/\Q v9 (.own 4 (Ps.map r5) OS Pr O2)/\Q (iN (n-1)) (iN w5)/\Qr g (aq b y.2) g (aq b OV)/\True)) (!((B7 e' y.1.addr).2))) ([cn y.1.addr y.1.text y.1.lead y.1.m0]:List V))) (o9 (MX:Int) 0)) (.agg [sV D4.1,sV z8.1,sV [],iV ([0,0,0,0,1,2,4].getD C7 0)])) (((4,u',f',k',(e'.map r5).length)=(4,u',f',k',(e'.map r5).length))/\∃ x:List Pg×Nat,(1<=x.1.length/\x.1.length<=12/\(∀ y,y∈x.1->m9 y)/\p<=x.2/\x.2<=p+1500)/\Q (.ow 4 (e'.map r5)) (.ow 4 (x.1.map r5))/\Qr g (aq b q') g (aq b x.2))) (.own 4 (e'.map r5) u' f' k'))) (sV (aP.getD i []))) (.own 4 (e.map r5) u f k))) (ao aP)) ([47,47]:BL)) ([47,110,111,116,105,99,101]:BL)) (.ptr (.key 1000) [] g 0))
  Z7 ?_
 refine⟨rfl,trivial,?_⟩
 refine⟨⟨(0,[],p,0,0,0),?_,rfl,rfl,rfl,rfl,rfl,trivial⟩,?_⟩
 simp
 rintro⟨i,e,q,u,f,k⟩ ⟨h1,h2,h3,h4,h5⟩
 refine bI (fun j7=>?_) fun j7=>?_
 · refine⟨rfl,rfl,⟨Z9,Z9,Z9⟩,?_⟩
   intro D5 Q4
   refine bI (fun l6=>?_) fun l6=>?_
   · refine⟨FA (by show _<4;omega),trivial,by have:=db (l:=aP) (n:=3) rfl i;simp only[YT,YV,YY];omega,by have:=db (l:=aP) (n:=3) rfl i;simp only[YT,YV,YY];omega,rfl,rfl,⟨Z9,Z9⟩,?_⟩
     intro D9 SK
     refine⟨rfl,⟨by have:=SK.1;exact this,by have:=SK.2.1;exact this⟩,?_⟩
     intro N8 J2
     refine⟨rfl,rfl,⟨Z9,Z9,Z9⟩,?_⟩
     intro C6 WR
     refine⟨JL Z0,trivial,?_⟩
     intro g6
     refine⟨rfl,rfl,rfl,⟨Z9,Z9,Z9⟩,?_⟩
     intro Ok X9
     refine⟨fun n6=>?_,fun n6=>?_,fun y hy=>?_⟩
     · try simp only[nb]at n6
       refine⟨rfl,rfl,rfl,⟨Z9,Z9⟩,?_⟩
       intro E5 E7
       refine⟨rfl,?_⟩
       exact⟨((⟨(([47,47]:BL)++(aP.getD i []))++([47,110,111,116,105,99,101]:BL),[],E5.1,([0,0,0,1,2,5].getD C6 0)⟩:Pg),E5.2),⟨by(try have:=db (l:=aP) (n:=3) rfl i);(try simp only[YT,YV,YY]);omega,by(try have:=db (l:=aP) (n:=3) rfl i);(try simp only[YT,YV,YY]);omega,by(try have:=db (l:=aP) (n:=3) rfl i);(try simp only[YT,YV,YY]);omega,qi rfl _,Z9,Z9,by(try dsimp only);repeat (first | assumption | exact E7.2.2.2 | exact F9.2.2.2 | exact F7.2.2.2 | exact aZ | exact bJ rfl | exact J2.2 | exact F8.2.2.2 | exact eD rfl i | apply m5.app),by(try dsimp only);repeat (first | assumption | exact E7.2.2.2 | exact F9.2.2.2 | exact F7.2.2.2 | exact aZ | exact bJ rfl | exact J2.2 | exact F8.2.2.2 | exact eD rfl i | apply m5.app),by(try dsimp only);repeat (first | assumption | exact E7.2.2.2 | exact F9.2.2.2 | exact F7.2.2.2 | exact aZ | exact bJ rfl | exact J2.2 | exact F8.2.2.2 | exact eD rfl i | apply m5.app)⟩,rfl,rfl,rfl,rfl,rfl,rfl,rfl,rfl,rfl,rfl,rfl,rfl,rfl,rfl,rfl,rfl,rfl,rfl,rfl,rfl,rfl,rfl,rfl,rfl,rfl,rfl,rfl,rfl,Z4,Z4,trivial⟩
     · try simp only[nb]at n6
       exact⟨((⟨(([47,47]:BL)++(aP.getD i []))++([47,110,111,116,105,99,101]:BL),N8,[],([0,0,0,1,2,5].getD C6 0)⟩:Pg),(D9.2+1)+1),⟨by(try have:=db (l:=aP) (n:=3) rfl i);(try simp only[YT,YV,YY]);omega,by(try have:=db (l:=aP) (n:=3) rfl i);(try simp only[YT,YV,YY]);omega,by(try have:=db (l:=aP) (n:=3) rfl i);(try simp only[YT,YV,YY]);omega,qi rfl _,Z9,Z9,by(try dsimp only);repeat (first | assumption | exact E7.2.2.2 | exact F9.2.2.2 | exact F7.2.2.2 | exact aZ | exact bJ rfl | exact J2.2 | exact F8.2.2.2 | exact eD rfl i | apply m5.app),by(try dsimp only);repeat (first | assumption | exact E7.2.2.2 | exact F9.2.2.2 | exact F7.2.2.2 | exact aZ | exact bJ rfl | exact J2.2 | exact F8.2.2.2 | exact eD rfl i | apply m5.app),by(try dsimp only);repeat (first | assumption | exact E7.2.2.2 | exact F9.2.2.2 | exact F7.2.2.2 | exact aZ | exact bJ rfl | exact J2.2 | exact F8.2.2.2 | exact eD rfl i | apply m5.app)⟩,rfl,rfl,rfl,rfl,rfl,rfl,rfl,rfl,rfl,rfl,rfl,rfl,rfl,rfl,rfl,rfl,rfl,rfl,rfl,rfl,rfl,rfl,rfl,rfl,rfl,rfl,rfl,rfl,Z4,Z4,trivial⟩
     refine⟨rfl,?_⟩
     refine bI (fun w6=>?_) fun w6=>?_
     refine⟨rfl,rfl,trivial,rfl,by simp[aJ,V.n,V.ns],Z0,?_⟩
     intro Tg SB Tt
     refine⟨Zq (V.own 4 · Tg SB Tt) Z8,Z9,?_⟩
     refine⟨(i+1,e++[y.1],y.2,Tg,SB,Tt),?_,?_,rfl,rfl,rfl,rfl,rfl,trivial⟩
     refine⟨Z9,by(try simp only[YT,YV,YY,Y2]);omega,gJ h3 ⟨hy.1,Z9,hy.2.1,hy.2.2.2.1,hy.2.2.2.2.2.2.1,hy.2.2.2.2.2.2.2.1,hy.2.2.2.2.2.2.2.2⟩,Z9,Z9⟩
     exact Z1
     refine⟨Z9,?_⟩
     refine⟨(i+1,e,y.2,u,f,k),?_,?_,rfl,rfl,rfl,rfl,rfl,trivial⟩
     exact⟨Z9,Z9,h3,Z9,Z9⟩
     exact Z1
   refine⟨Z9,?_⟩
   refine⟨(i+1,e,q+1,u,f,k),?_,?_,rfl,rfl,rfl,rfl,rfl,trivial⟩
   exact⟨Z9,Z9,h3,Z9,Z9⟩
   exact Z1
 · refine⟨rfl,rfl,⟨Z9,Z9,Z9⟩,?_⟩
   intro NR WU
   refine⟨Z9,?_⟩
   refine⟨⟨(2+NR,e,q+1,u,f,k),?_,rfl,rfl,rfl,rfl,trivial⟩,?_⟩
   unfold fw
   exact⟨Z9,Z9,h3,Z9,Z9⟩
   rintro⟨n,e',q',u',f',k'⟩ ⟨k1,k2,k3,k4,k5⟩
   refine bI (fun G8=>?_) fun G8=>?_
   · refine⟨rfl,rfl,⟨Z9,Z9⟩,?_⟩
     intro D4 F9
     refine⟨rfl,rfl,⟨Z9,Z9⟩,?_⟩
     intro z8 F8
     refine⟨rfl,rfl,⟨Z9,Z9,Z9⟩,?_⟩
     intro C7 WT
     refine⟨JL Z0,trivial,?_⟩
     intro g8
     refine⟨rfl,rfl,rfl,⟨Z9,Z9,Z9⟩,?_⟩
     intro MX WS
     refine⟨fun NK=>?_,fun NK=>?_,fun y hy=>?_⟩
     · try simp only[nb]at NK
       refine⟨rfl,rfl,rfl,⟨Z9,Z9⟩,?_⟩
       intro L9 F7
       refine⟨rfl,?_⟩
       exact⟨((⟨D4.1,[],L9.1,([0,0,0,0,1,2,4].getD C7 0)⟩:Pg),L9.2),⟨⟨by(try have:=db (l:=aP) (n:=3) rfl i);(try simp only[YT,YV,YY]);omega,by(try have:=db (l:=aP) (n:=3) rfl i);(try simp only[YT,YV,YY]);omega,by(try have:=db (l:=aP) (n:=3) rfl i);(try simp only[YT,YV,YY]);omega,qi rfl _,by(try dsimp only);repeat (first | assumption | exact E7.2.2.2 | exact F9.2.2.2 | exact F7.2.2.2 | exact aZ | exact bJ rfl | exact J2.2 | exact F8.2.2.2 | exact eD rfl i | apply m5.app),by(try dsimp only);repeat (first | assumption | exact E7.2.2.2 | exact F9.2.2.2 | exact F7.2.2.2 | exact aZ | exact bJ rfl | exact J2.2 | exact F8.2.2.2 | exact eD rfl i | apply m5.app),by(try dsimp only);repeat (first | assumption | exact E7.2.2.2 | exact F9.2.2.2 | exact F7.2.2.2 | exact aZ | exact bJ rfl | exact J2.2 | exact F8.2.2.2 | exact eD rfl i | apply m5.app)⟩,Z9,Z9⟩,rfl,rfl,rfl,rfl,rfl,rfl,rfl,rfl,rfl,rfl,rfl,rfl,rfl,rfl,rfl,rfl,rfl,rfl,rfl,Z4,Z4,trivial⟩
     · try simp only[nb]at NK
       exact⟨((⟨D4.1,z8.1,[],([0,0,0,0,1,2,4].getD C7 0)⟩:Pg),(z8.2+1)+1),⟨⟨by(try have:=db (l:=aP) (n:=3) rfl i);(try simp only[YT,YV,YY]);omega,by(try have:=db (l:=aP) (n:=3) rfl i);(try simp only[YT,YV,YY]);omega,by(try have:=db (l:=aP) (n:=3) rfl i);(try simp only[YT,YV,YY]);omega,qi rfl _,by(try dsimp only);repeat (first | assumption | exact E7.2.2.2 | exact F9.2.2.2 | exact F7.2.2.2 | exact aZ | exact bJ rfl | exact J2.2 | exact F8.2.2.2 | exact eD rfl i | apply m5.app),by(try dsimp only);repeat (first | assumption | exact E7.2.2.2 | exact F9.2.2.2 | exact F7.2.2.2 | exact aZ | exact bJ rfl | exact J2.2 | exact F8.2.2.2 | exact eD rfl i | apply m5.app),by(try dsimp only);repeat (first | assumption | exact E7.2.2.2 | exact F9.2.2.2 | exact F7.2.2.2 | exact aZ | exact bJ rfl | exact J2.2 | exact F8.2.2.2 | exact eD rfl i | apply m5.app)⟩,Z9,Z9⟩,rfl,rfl,rfl,rfl,rfl,rfl,rfl,rfl,rfl,rfl,rfl,rfl,rfl,rfl,rfl,rfl,rfl,rfl,rfl,Z4,Z4,trivial⟩
     refine⟨rfl,⟨⟨⟨rfl,rfl,rfl⟩,Z8,cN (f:=r5) (fun _=>rfl) _,ee (f:=r5) (fun _=>rfl) _⟩,trivial⟩,by simp[Y3],Z5,?_⟩
     intro g9
     refine⟨rfl,fun hG=>rfl,⟨fun h=>by rw[h] <;> rfl,fun _=>rfl⟩,?_⟩
     refine bI (fun Yy=>?_) fun Yy=>?_
     refine⟨rfl,rfl,trivial,rfl,by simp[aJ,V.n,V.ns],Z0,?_⟩
     intro S9 Ss Tk
     refine⟨Zq (V.own 4 · S9 Ss Tk) Z8,Z9,by simp[Q];omega,?_⟩
     refine⟨(n-1,e'++[y.1],y.2,S9,Ss,Tk),?_,?_,rfl,rfl,rfl,rfl,trivial⟩
     unfold fw
     refine⟨by(try simp only[YT,YV,YY,Y2]);omega,.inl Z8,gJ k3 hy.1,Z9,Z9⟩
     exact Z1
     refine⟨Z9,by simp[Q];omega,?_⟩
     refine⟨(n-1,e',y.2,u',f',k'),?_,?_,rfl,rfl,rfl,rfl,trivial⟩
     unfold fw
     have hyt:=hy.1.t
     have x9:(B7 e' y.fst.addr).snd=true:=by
      cases hh:(B7 e' y.fst.addr).snd with
      | true=>rfl
      | false=>have:=Yy hh;omega
     exact⟨Z9,.inl (It x9),k3,Z9,Z9⟩
     exact Z1
   refine⟨rfl,?_⟩
   refine⟨(e',q'),?_,?_,?_⟩
   try dsimp only
   exact⟨Z9,Z9,k3,Z9,Z9⟩
   first | rfl | simp_all
   first | rfl | exact⟨rfl,rfl⟩ | simp_all)
def yT(b:BL)(p:Nat)(g:Nat):G5 Tryz.prog:=.mk (List Pg×Nat) 29 [.ptr (.key 1000) [] g 0] [(1000,(g,aq b p))] ((b.length<=2000)/\(p<=600000)) (fun x=>1<=x.1.length/\x.1.length<=30/\(∀ y,y∈x.1->m9 y)/\p<=x.2/\x.2<=p+1600) (fun x=>.ow 4 (x.1.map r5)) (fun x=>[(1000,(g,aq b x.2))]) (by
 rintro⟨hb,hp⟩
 have h0:∀ (l:List Pg),(∀ y,y∈l->m9 y)->m9 (l.getD 0 m4):=fun l h=>gH h 0
 refine fh (N:=51) (rs:=[.tmp 2]) (X:=List Pg×Nat) (post:=fun x=>1<=x.1.length/\x.1.length<=30/\(∀ y,y∈x.1->m9 y)/\p<=x.2/\x.2<=p+1600) (E:=fun x=>.ow 4 (x.1.map r5)) (H':=fun x=>[(1000,(g,.agg [.sl false (b.map n0),iN x.2]))]) Tryz.func29 Z7 rfl rfl rfl Z7 [(1000,(0,.a8))] (by intro _ k hk;simpa[lk] using hk)
  (.q 1<|.q 1<|.cx (uP b p g) [(1000,1000)] (fun (l5:List Pg×Nat)=>.q 1<|.ot 3 (fun g3 o3 c3=>.q 1<|.cx (bf b l5.2 g 16) [(1000,1000)] (fun (r6:Nat)=>.q 1<|.br (.q 2<|.h (.gZ 2)<|.nil) (.q 1<|.cx (bf b (l5.2+1) g 5) [(1000,1000)] (fun (I2:Nat)=>.q 2<|.br (.r 4 [cn ((l5.1.getD 0 m4).addr) ((l5.1.getD 0 m4).text) ((l5.1.getD 0 m4).lead) ((l5.1.getD 0 m4).m0)]<|.bs<|.ap (fun UJ Um UO=>.h (.o4 31 (.own 4 ((l5.1++[(l5.1.getD 0 m4)]).map r5) UJ Um UO))<|.q 1<|.nil)) (.q 2<|.br (.q 3<|.st (some (iV ((l5.1.getD 0 m4).m0)))<|.h (.o4 3 (.own 4 ((l5.1.set 0 (⟨(l5.1.getD 0 m4).addr,(l5.1.getD 0 m4).text,(l5.1.getD 0 m4).lead,10⟩:Pg)).map r5) g3 o3 c3))<|.q 2<|.h (.gZ 2)<|.nil) (.q 2<|.br (.q 2<|.bs<|.cx (fb b ((l5.2+1)+1) g ([([47,47,65,66,47,97]:BL),[],([47,47,97,98]:BL)]:List BL)) [(1000,1000)] (fun (E4:BL)=>.q 2<|.st (some (sV ((l5.1.getD 0 m4).addr)))<|.h (.o4 3 (.own 4 ((l5.1.set 0 (⟨E4,(l5.1.getD 0 m4).text,(l5.1.getD 0 m4).lead,(l5.1.getD 0 m4).m0⟩:Pg)).map r5) g3 o3 c3))<|.q 2<|.h (.gZ 2)<|.nil)) (.q 2<|.br (.q 3<|.st (some (sV ((l5.1.getD 0 m4).lead)))<|.h (.o4 3 (.own 4 ((l5.1.set 0 (⟨(l5.1.getD 0 m4).addr,(l5.1.getD 0 m4).text,([120]:BL),(l5.1.getD 0 m4).m0⟩:Pg)).map r5) g3 o3 c3))<|.q 2<|.h (.gZ 2)<|.nil) (.q 1<|.loop (Nat×(List Pg)×Nat×Nat×Nat) (fun (j,e,u,f,k)=>⟨[(3,.own 4 (e.map r5) u f k),(4,iN j)],[(1000,(g,aq b ((l5.2+1)+1)))]⟩) (fun (j,e,u,f,k)=>j<=12/\1<=e.length/\e.length<=12+j/\(∀ y,y∈e->m9 y)) (fun (j,e,u,f,k)=>12-j) (fun (j,e,u,f,k)=>.q 2<|.br (.q 2<|.c (rX j) []<|.q 1<|.bd nq<|.bs<|.ap (fun g23 OZ Pv=>.h (.o4 23 (.own 4 ((e++[(⟨([47,47,97,98,47,122]:BL)++(dL j),[],[],0⟩:Pg)]).map r5) g23 OZ Pv))<|.q 1<|.q 3<|.nil)) (.q 2<|.h (.gZ 2)<|.nil))))))))))))
  ((fun v1:BL=>(fun v2:BL=>(fun v3:BL=>(fun v4:BL=>((uP b p g).sm/\Er g (aq b p)/\((b.length<=2000)/\(p<=700000))/\∀ l5:List Pg×Nat,(1<=l5.1.length/\l5.1.length<=12/\(∀ y,y∈l5.1->m9 y)/\p<=l5.2/\l5.2<=p+1500)->(fun v5:Pg=>(fun v6:List V=>(fun v7:V=> ∀ g3 o3 c3:Nat,(fun v8:V=>(bf b l5.2 g 16).sm/\Er g (aq b l5.2)/\((b.length<=2000)/\(l5.2<=1000000)/\(16<=1000000))/\∀ r6:Nat,(16=0/\r6=0\/r6<16)->Br (s9 (r6:Int) 0) (((4,g3,o3,c3,(l5.1.map r5).length)=(4,g3,o3,c3,(l5.1.map r5).length))/\∃ x:List Pg×Nat,(1<=x.1.length/\x.1.length<=30/\(∀ y,y∈x.1->m9 y)/\p<=x.2/\x.2<=p+1600)/\Q (.ow 4 (l5.1.map r5)) (.ow 4 (x.1.map r5))/\Qr g (aq b (l5.2+1)) g (aq b x.2)) ((bf b (l5.2+1) g 5).sm/\Er g (aq b (l5.2+1))/\((b.length<=2000)/\((l5.2+1)<=1000000)/\(5<=1000000))/\∀ I2:Nat,(5=0/\I2=0\/I2<5)->Br (o9 (I2:Int) 0) (In 0 ((l5.1.map r5).length)/\(V.at g3 o3 v8 [0+0]=some (g3,(o3+(0+0)*4),cn (v5.addr) (v5.text) (v5.lead) (v5.m0)))/\((4,4,g3,o3,c3,(l5.1.map r5).length)=(4,4,g3,o3,c3,(l5.1.map r5).length))/\(True)/\(V.aE v6=false)/\(aJ 4 v6)/\(((l5.1.map r5).length+v6.length)*56<=140737488355328)/\∀ UJ Um UO:Nat,((.own 4 ((l5.1.map r5)++v6) UJ Um UO:V)=.own 4 ((l5.1++[v5]).map r5) UJ Um UO)/\∃ x:List Pg×Nat,(1<=x.1.length/\x.1.length<=30/\(∀ y,y∈x.1->m9 y)/\p<=x.2/\x.2<=p+1600)/\Q (.ow 4 ((l5.1++[v5]).map r5)) (.ow 4 (x.1.map r5))/\Qr g v7 g (aq b x.2)) (Br (o9 (I2:Int) 1) (In 0 ((l5.1.map r5).length)/\(V.at g3 o3 v8 [0+0,3]=some (g3,(o3+(0+0)*4+3),iV (v5.m0)))/\(V.set v8 [0+0,3] (iN 10)=.own 4 ((l5.1.set 0 (⟨v5.addr,v5.text,v5.lead,10⟩:Pg)).map r5) g3 o3 c3)/\((4,g3,o3,c3,((l5.1.set 0 (⟨v5.addr,v5.text,v5.lead,10⟩:Pg)).map r5).length)=(4,g3,o3,c3,((l5.1.set 0 (⟨v5.addr,v5.text,v5.lead,10⟩:Pg)).map r5).length))/\∃ x:List Pg×Nat,(1<=x.1.length/\x.1.length<=30/\(∀ y,y∈x.1->m9 y)/\p<=x.2/\x.2<=p+1600)/\Q (.ow 4 ((l5.1.set 0 (⟨v5.addr,v5.text,v5.lead,10⟩:Pg)).map r5)) (.ow 4 (x.1.map r5))/\Qr g v7 g (aq b x.2)) (Br (o9 (I2:Int) 2) ((fb b ((l5.2+1)+1) g ([v2,[],v3]:List BL)).sm/\Er g v7/\((b.length<=2000)/\(((l5.2+1)+1)<=1000000)/\(1<=([v2,[],v3]:List BL).length)/\(([v2,[],v3]:List BL).length<=1000))/\∀ E4:BL,(E4∈([v2,[],v3]:List BL))->In 0 ((l5.1.map r5).length)/\(V.at g3 o3 v8 [0+0,0]=some (g3,(o3+(0+0)*4+0),sV (v5.addr)))/\(V.set v8 [0+0,0] (sV E4)=.own 4 ((l5.1.set 0 (⟨E4,v5.text,v5.lead,v5.m0⟩:Pg)).map r5) g3 o3 c3)/\((4,g3,o3,c3,((l5.1.set 0 (⟨E4,v5.text,v5.lead,v5.m0⟩:Pg)).map r5).length)=(4,g3,o3,c3,((l5.1.set 0 (⟨E4,v5.text,v5.lead,v5.m0⟩:Pg)).map r5).length))/\∃ x:List Pg×Nat,(1<=x.1.length/\x.1.length<=30/\(∀ y,y∈x.1->m9 y)/\p<=x.2/\x.2<=p+1600)/\Q (.ow 4 ((l5.1.set 0 (⟨E4,v5.text,v5.lead,v5.m0⟩:Pg)).map r5)) (.ow 4 (x.1.map r5))/\Qr g (aq b (((l5.2+1)+1)+1)) g (aq b x.2)) (Br (o9 (I2:Int) 3) (In 0 ((l5.1.map r5).length)/\(V.at g3 o3 v8 [0+0,2]=some (g3,(o3+(0+0)*4+2),sV (v5.lead)))/\(V.set v8 [0+0,2] (sV v4)=.own 4 ((l5.1.set 0 (⟨v5.addr,v5.text,v4,v5.m0⟩:Pg)).map r5) g3 o3 c3)/\((4,g3,o3,c3,((l5.1.set 0 (⟨v5.addr,v5.text,v4,v5.m0⟩:Pg)).map r5).length)=(4,g3,o3,c3,((l5.1.set 0 (⟨v5.addr,v5.text,v4,v5.m0⟩:Pg)).map r5).length))/\∃ x:List Pg×Nat,(1<=x.1.length/\x.1.length<=30/\(∀ y,y∈x.1->m9 y)/\p<=x.2/\x.2<=p+1600)/\Q (.ow 4 ((l5.1.set 0 (⟨v5.addr,v5.text,v4,v5.m0⟩:Pg)).map r5)) (.ow 4 (x.1.map r5))/\Qr g v7 g (aq b x.2)) ((∃ x:Nat×(List Pg)×Nat×Nat×Nat,match x with | (PH,D6,H6,A5,s7)=>(PH<=12/\1<=D6.length/\D6.length<=12+PH/\(∀ y,y∈D6->m9 y))/\Q v8 (.own 4 (D6.map r5) H6 A5 s7)/\Q (iN 0) (iN PH)/\Er g v7/\True)/\∀ x:Nat×(List Pg)×Nat×Nat×Nat,match x with | (j,e,u,f,k)=>(j<=12/\1<=e.length/\e.length<=12+j/\(∀ y,y∈e->m9 y))->(fun v9:List V=>Br (r9 (j:Int) 12) ((rX j).sm/\((j<=1000000))/\(v1.length+(dL j).length<=4611686018427387904)/\((4,4,u,f,k,(e.map r5).length)=(4,4,u,f,k,(e.map r5).length))/\(True)/\(V.aE v9=false)/\(aJ 4 v9)/\(((e.map r5).length+v9.length)*56<=140737488355328)/\∀ g23 OZ Pv:Nat,((.own 4 ((e.map r5)++v9) g23 OZ Pv:V)=.own 4 ((e++[(⟨v1++(dL j),[],[],0⟩:Pg)]).map r5) g23 OZ Pv)/\m8 ((j:Int)+1)/\∃ x:Nat×(List Pg)×Nat×Nat×Nat,match x with | (M0,x5,B9,r4,k₂)=>(M0<=12/\1<=x5.length/\x5.length<=12+M0/\(∀ y,y∈x5->m9 y))/\(12-M0<12-j)/\Q (.own 4 ((e++[(⟨v1++(dL j),[],[],0⟩:Pg)]).map r5) g23 OZ Pv) (.own 4 (x5.map r5) B9 r4 k₂)/\Q (iN (j+1)) (iN M0)/\Er g v7/\True) (((4,u,f,k,(e.map r5).length)=(4,u,f,k,(e.map r5).length))/\∃ x:List Pg×Nat,(1<=x.1.length/\x.1.length<=30/\(∀ y,y∈x.1->m9 y)/\p<=x.2/\x.2<=p+1600)/\Q (.ow 4 (e.map r5)) (.ow 4 (x.1.map r5))/\Qr g v7 g (aq b x.2))) ([.agg [sV (v1++(dL j)),sV [],sV [],iN 0]]:List V))))))) (.own 4 (l5.1.map r5) g3 o3 c3)) (aq b ((l5.2+1)+1))) ([cn (v5.addr) (v5.text) (v5.lead) (v5.m0)]:List V)) (l5.1.getD 0 m4))) ([120]:BL)) ([47,47,97,98]:BL)) ([47,47,65,66,47,97]:BL)) ([47,47,97,98,47,122]:BL))
  Z7 ?_
 refine⟨rfl,rfl,⟨Z9,Z9⟩,?_⟩
 intro l5 H9
 intro g3 o3 c3
 refine⟨rfl,rfl,⟨Z9,Z9,Z9⟩,?_⟩
 intro r6 Nt
 refine bI (fun j7=>?_) fun j7=>?_
 refine⟨rfl,?_⟩
 refine⟨(l5.1,l5.2+1),?_,?_,?_⟩
 try dsimp only
 exact⟨Z9,Z9,H9.2.2.1,Z9,Z9⟩
 first | rfl | simp_all
 first | rfl | exact⟨rfl,rfl⟩ | simp_all
 refine⟨rfl,rfl,⟨Z9,Z9,Z9⟩,?_⟩
 intro I2 Ve
 refine bI (fun l6=>?_) fun l6=>?_
 refine⟨Z2,gz (by rw[Y0];exact aj (d:=m4) Z9),rfl,trivial,rfl,by simp[aJ,V.n,V.ns],Z0,?_⟩
 intro UJ Um UO
 refine⟨Zq (V.own 4 · UJ Um UO) Z8,?_⟩
 refine⟨(l5.1++[(l5.1.getD 0 m4)],(l5.2+1)+1),?_,?_,?_⟩
 try dsimp only
 exact⟨Z8,Z0,gJ H9.2.2.1 (h0 _ H9.2.2.1),Z9,Z9⟩
 first | rfl | simp_all
 first | rfl | exact⟨rfl,rfl⟩ | simp_all
 refine bI (fun n6=>?_) fun n6=>?_
 refine⟨Z2,aI (by rw[Y0];exact aj (d:=m4) Z9) rfl,aV (x:=.agg [sV ((l5.1.getD 0 m4).addr),sV ((l5.1.getD 0 m4).text),sV ((l5.1.getD 0 m4).lead),iV ((l5.1.getD 0 m4).m0)]) (by rw[Y0];exact aj (d:=m4) Z9) (List.map_set (f:=r5) (l:=l5.1) (i:=0) (a:=(⟨(l5.1.getD 0 m4).addr,(l5.1.getD 0 m4).text,(l5.1.getD 0 m4).lead,10⟩:Pg))).symm,rfl,?_⟩
 refine⟨(l5.1.set 0 (⟨(l5.1.getD 0 m4).addr,(l5.1.getD 0 m4).text,(l5.1.getD 0 m4).lead,10⟩:Pg),(l5.2+1)+1),?_,?_,?_⟩
 try dsimp only
 have hz:=h0 _ H9.2.2.1
 exact⟨Z0,Z0,vH H9.2.2.1 ⟨hz.a,hz.t,hz.l,Z8,hz.aa,hz.la,hz.ta⟩,Z9,Z9⟩
 first | rfl | simp_all
 first | rfl | exact⟨rfl,rfl⟩ | simp_all
 refine bI (fun w6=>?_) fun w6=>?_
 refine⟨rfl,rfl,⟨Z9,Z9,Z8,Z8⟩,?_⟩
 intro E4 x8
 refine⟨Z2,aI (by rw[Y0];exact aj (d:=m4) Z9) rfl,aV (x:=.agg [sV ((l5.1.getD 0 m4).addr),sV ((l5.1.getD 0 m4).text),sV ((l5.1.getD 0 m4).lead),iV ((l5.1.getD 0 m4).m0)]) (by rw[Y0];exact aj (d:=m4) Z9) (List.map_set (f:=r5) (l:=l5.1) (i:=0) (a:=(⟨E4,(l5.1.getD 0 m4).text,(l5.1.getD 0 m4).lead,(l5.1.getD 0 m4).m0⟩:Pg))).symm,rfl,?_⟩
 refine⟨(l5.1.set 0 (⟨E4,(l5.1.getD 0 m4).text,(l5.1.getD 0 m4).lead,(l5.1.getD 0 m4).m0⟩:Pg),((l5.2+1)+1)+1),?_,?_,?_⟩
 try dsimp only
 have hz:=h0 _ H9.2.2.1
 exact⟨Z0,Z0,vH H9.2.2.1 ⟨bP rfl x8,hz.t,hz.l,hz.f,dK rfl x8,hz.la,hz.ta⟩,Z9,Z9⟩
 first | rfl | simp_all
 first | rfl | exact⟨rfl,rfl⟩ | simp_all
 refine bI (fun G8=>?_) fun G8=>?_
 refine⟨Z2,aI (by rw[Y0];exact aj (d:=m4) Z9) rfl,aV (x:=.agg [sV ((l5.1.getD 0 m4).addr),sV ((l5.1.getD 0 m4).text),sV ((l5.1.getD 0 m4).lead),iV ((l5.1.getD 0 m4).m0)]) (by rw[Y0];exact aj (d:=m4) Z9) (List.map_set (f:=r5) (l:=l5.1) (i:=0) (a:=(⟨(l5.1.getD 0 m4).addr,(l5.1.getD 0 m4).text,([120]:BL),(l5.1.getD 0 m4).m0⟩:Pg))).symm,rfl,?_⟩
 refine⟨(l5.1.set 0 (⟨(l5.1.getD 0 m4).addr,(l5.1.getD 0 m4).text,([120]:BL),(l5.1.getD 0 m4).m0⟩:Pg),(l5.2+1)+1),?_,?_,?_⟩
 try dsimp only
 have hz:=h0 _ H9.2.2.1
 exact⟨Z0,Z0,vH H9.2.2.1 ⟨hz.a,hz.t,Z8,hz.f,hz.aa,bJ rfl,hz.ta⟩,Z9,Z9⟩
 first | rfl | simp_all
 first | rfl | exact⟨rfl,rfl⟩ | simp_all
 refine⟨⟨(0,l5.1,g3,o3,c3),?_,rfl,rfl,rfl,trivial⟩,?_⟩
 exact⟨Z9,Z9,Z9,H9.2.2.1⟩
 rintro⟨j,e,u,f,k⟩ ⟨h1,h2,h3,h4⟩
 refine bI (fun NK=>?_) fun NK=>?_
 refine⟨rfl,Z9,by have:=qm j Z9;simp only[YT,YV,YY];omega,rfl,trivial,rfl,by simp[aJ,V.n,V.ns],Z0,?_⟩
 intro g23 OZ Pv
 refine⟨Zq (V.own 4 · g23 OZ Pv) Z8,Z9,?_⟩
 refine⟨(j+1,e++[(⟨([47,47,97,98,47,122]:BL)++(dL j),[],[],0⟩:Pg)],g23,OZ,Pv),?_,?_,rfl,rfl,rfl,trivial⟩
 have hd:=qm j Z9
 refine⟨Z9,Z8,Z0,gJ h4 ⟨?_,Z8,Z8,Z8,(bJ rfl).app (lj j),aZ,aZ⟩⟩
 simp only[YT,YV,YY];omega
 exact Z1
 refine⟨rfl,?_⟩
 refine⟨(e,(l5.2+1)+1),?_,?_,?_⟩
 try dsimp only
 exact⟨Z9,Z9,h4,Z9,Z9⟩
 first | rfl | simp_all
 first | rfl | exact⟨rfl,rfl⟩ | simp_all)
def xA(b:BL)(p:Nat)(g:Nat):G5 Tryz.prog:=.mk BL 30 [.ptr (.key 1000) [] g 0] [(1000,(g,aq b p))] ((b.length<=2000)/\(p<=900000)) (fun x=>x.length<=5/\bn x=true) (fun x=>sV x) (fun x=>[(1000,(g,aq b (p+1)))]) (by
 rintro⟨hb,hp⟩
 refine fh (N:=6) (rs:=[.tmp 2]) (X:=BL) (post:=fun x=>x.length<=5/\bn x=true) (E:=fun x=>sV x) (H':=fun x=>[(1000,(g,.agg [.sl false (b.map n0),iN (p+1)]))]) Tryz.func30 Z7 rfl rfl rfl Z7 [(1000,(0,.a8))] (by intro _ k hk;simpa[lk] using hk)
  (.q 1<|.q 1<|.bs<|.cx (fb b p g ([([114,111,118,101,114]:BL),([114,111,118,101,114]:BL),([115,99,111,117,116]:BL),([111,116,104,101,114]:BL)]:List BL)) [(1000,1000)] (fun (w3:BL)=>.q 1<|.nil))
  ((fun v1:BL=>(fun v2:BL=>(fun v3:BL=>((fb b p g ([v1,v1,v3,v2]:List BL)).sm/\Er g (aq b p)/\((b.length<=2000)/\(p<=1000000)/\(1<=([v1,v1,v3,v2]:List BL).length)/\(([v1,v1,v3,v2]:List BL).length<=1000))/\∀ w3:BL,(w3∈([v1,v1,v3,v2]:List BL))->∃ x:BL,(x.length<=5/\bn x=true)/\Q (sV w3) (sV x)/\Er g (aq b (p+1)))) ([115,99,111,117,116]:BL)) ([111,116,104,101,114]:BL)) ([114,111,118,101,114]:BL))
  Z7 ?_
 refine⟨rfl,rfl,⟨Z9,Z9,Z8,Z8⟩,?_⟩
 intro w3 O4
 refine⟨w3,?_,?_,?_⟩
 try dsimp only
 exact⟨bP rfl O4,Y6.1 (show (List.all _ bn)=true from rfl) _ O4⟩
 first | rfl | simp_all
 first | rfl | exact⟨rfl,rfl⟩ | simp_all)
def uy(b:BL)(p:Nat)(g:Nat)(w:List Pg):G5 Tryz.prog:=.mk (BL×Nat) 57 [.ptr (.key 1000) [] g 0,bZ w] [(1000,(g,aq b p))] ((b.length<=2000)/\(p<=800000)/\(w.length<=30)/\(∀ y,y∈w->m9 y)) (fun x=>x.1.length<=30/\p<=x.2/\x.2<=p+8/\m5 x.1) (fun x=>sV x.1) (fun x=>[(1000,(g,aq b x.2))]) (by
 rintro⟨hb,hp,hw,hy⟩
 refine fh (N:=23) (rs:=[.tmp 4]) (X:=BL×Nat) (post:=fun x=>x.1.length<=30/\p<=x.2/\x.2<=p+8/\m5 x.1) (E:=fun x=>sV x.1) (H':=fun x=>[(1000,(g,.agg [.sl false (b.map n0),iN x.2]))]) Tryz.func57 Z7 rfl rfl rfl Z7 [(1000,(0,.a8))] (by intro _ k hk;simpa[lk] using hk)
  (.q 1<|.q 3<|.sp (s9 (((w.map r5).length:Nat):Int) 0) (.h (.o4 7 (bV true))<|.q 1<|.gt<|.q 1<|.gt<|.cx (bf b p g 3) [(1000,1000)] (fun (QQ:Nat)=>.gt<|.q 2<|.br (.q 4<|.cx (bf b (p+1) g ((w.map r5).length)) [(1000,1000)] (fun (H3:Nat)=>.r 4 [cn ((w.getD H3 m4).addr) ((w.getD H3 m4).text) ((w.getD H3 m4).lead) ((w.getD H3 m4).m0)]<|.nil)) (.q 1<|.cx (eH b (p+1) g) [(1000,1000)] (fun (h9:BL×Nat)=>.q 1<|.nil)))) (.h (.o4 7 (bV false))<|.q 1<|.gf (.a8)<|.gf (.a8)<|.gf (bV false)<|.q 1<|.br (.q 4<|.cx (bf b p g ((w.map r5).length)) [(1000,1000)] (fun (H3:Nat)=>.r 4 [cn ((w.getD H3 m4).addr) ((w.getD H3 m4).text) ((w.getD H3 m4).lead) ((w.getD H3 m4).m0)]<|.nil)) (.q 1<|.cx (eH b p g) [(1000,1000)] (fun (h9:BL×Nat)=>.q 1<|.nil))))
  ((fun v1:Bool=>((v1=true->((bV v1:V)=bV true)/\(true=true)/\(true=true)/\(bf b p g 3).sm/\Er g (aq b p)/\((b.length<=2000)/\(p<=1000000)/\(3<=1000000))/\∀ QQ:Nat,(3=0/\QQ=0\/QQ<3)->(true=true)/\Pk true true true/\Br (true&&(s9 (QQ:Int) 0)) ((bf b (p+1) g ((w.map r5).length)).sm/\Er g (aq b (p+1))/\((b.length<=2000)/\((p+1)<=1000000)/\(((w.map r5).length)<=1000000))/\∀ H3:Nat,(((w.map r5).length)=0/\H3=0\/H3<((w.map r5).length))->(fun v2:Pg=>Ex (H3:Int) (w.map r5) (cn (v2.addr) (v2.text) (v2.lead) (v2.m0))/\True/\∃ x:BL×Nat,(x.1.length<=30/\p<=x.2/\x.2<=p+8/\m5 x.1)/\Q (sV (v2.addr)) (sV x.1)/\Qr g (aq b ((p+1)+1)) g (aq b x.2)) (w.getD H3 m4)) ((eH b (p+1) g).sm/\Er g (aq b (p+1))/\((b.length<=2000)/\((p+1)<=900000))/\∀ h9:BL×Nat,(h9.1.length<=25/\(p+1)<=h9.2/\h9.2<=(p+1)+6/\m5 h9.1)->∃ x:BL×Nat,(x.1.length<=30/\p<=x.2/\x.2<=p+8/\m5 x.1)/\Q (sV h9.1) (sV x.1)/\Qr g (aq b h9.2) g (aq b x.2)))/\(v1=false->((bV v1:V)=bV false)/\(false=false)/\(false=false)/\(false=false)/\Pk false false true/\Br (false&&false) ((bf b p g ((w.map r5).length)).sm/\Er g (aq b p)/\((b.length<=2000)/\(p<=1000000)/\(((w.map r5).length)<=1000000))/\∀ H3:Nat,(((w.map r5).length)=0/\H3=0\/H3<((w.map r5).length))->(fun v3:Pg=>Ex (H3:Int) (w.map r5) (cn (v3.addr) (v3.text) (v3.lead) (v3.m0))/\True/\∃ x:BL×Nat,(x.1.length<=30/\p<=x.2/\x.2<=p+8/\m5 x.1)/\Q (sV (v3.addr)) (sV x.1)/\Qr g (aq b (p+1)) g (aq b x.2)) (w.getD H3 m4)) ((eH b p g).sm/\Er g (aq b p)/\((b.length<=2000)/\(p<=900000))/\∀ h9:BL×Nat,(h9.1.length<=25/\p<=h9.2/\h9.2<=p+6/\m5 h9.1)->∃ x:BL×Nat,(x.1.length<=30/\p<=x.2/\x.2<=p+8/\m5 x.1)/\Q (sV h9.1) (sV x.1)/\Qr g (aq b h9.2) g (aq b x.2))))) (s9 (((w.map r5).length:Nat):Int) 0))
  Z7 ?_
 refine⟨fun O6=>?_,fun O6=>?_⟩
 have Rf:=O6
 try simp only[nb]at Rf
 refine⟨Zq bV O6,rfl,rfl,rfl,rfl,⟨Z9,Z9,Z9⟩,?_⟩
 intro QQ Yd
 refine⟨rfl,⟨fun h=>by first | exact h | rfl,fun _=>rfl⟩,?_⟩
 refine bI (fun j7=>?_) fun j7=>?_
 refine⟨rfl,rfl,⟨Z9,Z9,by simp only[Y2];omega⟩,?_⟩
 intro H3 Vg
 simp only[Y2]at Vg
 refine⟨⟨Z9,aj (d:=m4) Z9⟩,trivial,?_⟩
 refine⟨((w.getD H3 m4).addr,(p+1)+1),?_,?_,?_⟩
 try dsimp only
 exact⟨(gH hy _).a,Z9,Z9,(gH hy _).aa⟩
 first | rfl | simp_all
 first | rfl | exact⟨rfl,rfl⟩ | simp_all
 refine⟨rfl,rfl,⟨Z9,Z9⟩,?_⟩
 intro h9 o8
 refine⟨(h9.1,h9.2),?_,?_,?_⟩
 try dsimp only
 exact⟨Z9,Z9,Z9,by first | exact P5.2.2.2 | (rename_i hq;exact hq.2.2.2) | (apply And.right;apply And.right;apply And.right;assumption)⟩
 first | rfl | simp_all
 first | rfl | exact⟨rfl,rfl⟩ | simp_all
 · have Rf:=O6
   try simp only[nb]at Rf
   refine⟨Zq bV O6,rfl,rfl,rfl,⟨fun h=>by first | exact h | rfl,fun _=>rfl⟩,?_⟩
   refine bI (fun l6=>?_) fun l6=>?_
   · all_goals (simp at l6)
   refine⟨rfl,rfl,⟨Z9,Z9⟩,?_⟩
   intro h9 o8
   refine⟨(h9.1,h9.2),?_,?_,?_⟩
   try dsimp only
   exact⟨Z9,Z9,Z9,by first | exact P5.2.2.2 | (rename_i hq;exact hq.2.2.2) | (apply And.right;apply And.right;apply And.right;assumption)⟩
   first | rfl | simp_all
   first | rfl | exact⟨rfl,rfl⟩ | simp_all)
theorem rI{α:Type}{l:List α}(h:1<=l.length):l≠[]:=by rintro rfl;simp at h
theorem vn{P:Nat->Prop}{k:Nat}(h:∀ q,q<k->P q)(hk:P k):∀ q,q<k+1->P q:=fun q hq=>by
 rcases Nat.lt_succ_iff_lt_or_eq.1 hq with h' | rfl
 exact h q h'
 exact hk
abbrev jc(w:List Pg)(i:Nat):Prop:=i<=w.length/\∀ j,j<i->dS (w.getD j m4)=true/\∀ k,k<j->(w.getD k m4).addr≠(w.getD j m4).addr
def xp(w:List Pg):o6 Tryz.prog:=.mk 33 [bZ w] [] ((w.length<=1000)/\(∀ i,(w.getD i m4).addr.length<=1000000/\(w.getD i m4).lead.length<=1000000)) (bV (an w)) [] (by
 rintro⟨hw,hz⟩
 refine av (N:=80) (rs:=[.tmp 2]) Tryz.func33
  (.q 1<|.q 1<|.loop (Nat) (fun (i:Nat)=>⟨[(0,bZ w),(3,iN i)],[]⟩) (fun (i:Nat)=>jc w i) (fun (i:Nat)=>w.length-i) (fun (i:Nat)=>.q 4<|.br (.r 5 [cn ((w.getD i m4).addr) ((w.getD i m4).text) ((w.getD i m4).lead) ((w.getD i m4).m0)]<|.c (jT ((w.getD i m4).addr)) []<|.r 16 [cn ((w.getD i m4).addr) ((w.getD i m4).text) ((w.getD i m4).lead) ((w.getD i m4).m0),cn ((w.getD i m4).addr) ((w.getD i m4).text) ((w.getD i m4).lead) ((w.getD i m4).m0)]<|.cg (lR ((w.getD i m4).m0) (0:Int) (9:Int))<|.r 22 [cn ((w.getD i m4).addr) ((w.getD i m4).text) ((w.getD i m4).lead) ((w.getD i m4).m0),cn ((w.getD i m4).addr) ((w.getD i m4).text) ((w.getD i m4).lead) ((w.getD i m4).m0),cn ((w.getD i m4).addr) ((w.getD i m4).text) ((w.getD i m4).lead) ((w.getD i m4).m0)]<|.cg (jT ((w.getD i m4).lead))<|.q 4<|.br (.q 1<|.nil) (.q 1<|.loop (Nat) (fun (k:Nat)=>⟨[(0,bZ w),(3,iN i),(4,iN k)],[]⟩) (fun (k:Nat)=>k<=i/\∀ q,q<k->(w.getD q m4).addr≠(w.getD i m4).addr) (fun (k:Nat)=>i-k) (fun (k:Nat)=>.q 3<|.br (.dx 11 [0,1,2,3,4,5,6,7,8,9,10] [(4,⟨false,[],some [],[70],[]⟩),(9,⟨false,[],some [],[75],[]⟩)] []<|.q 1<|.q 1<|.r 1 [cn ((w.getD k m4).addr) ((w.getD k m4).text) ((w.getD k m4).lead) ((w.getD k m4).m0)]<|.q 1<|.q 1<|.q 1<|.q 1<|.r 1 [cn ((w.getD i m4).addr) ((w.getD i m4).text) ((w.getD i m4).lead) ((w.getD i m4).m0)]<|.q 1<|.q 1<|.q 1<|.br (.q 1<|.nil) (.q 3<|.nil)) (.q 3<|.nil)))) (.q 4<|.nil)))
  ((∃ j6:Nat,(jc w j6)/\E (bZ w)/\Q (iN 0) (iN j6)/\True)/\∀ i:Nat,(jc w i)->(fun v2:Pg=>(fun v9:Bool=>(fun v4:Bool=>(fun v5:Bool=>(fun v1:Bool=>(fun v3:V=>(fun v6:Bool=>(fun v7:Bool=>(fun v8:Bool=>Br (r9 (i:Int) (((w.map r5).length:Nat):Int)) (Ex (i:Int) (w.map r5) v3/\True/\(jT (v2.addr)).sm/\(((v2.addr).length<=4611686018427387904))/\Gd (v5==false) (Ex (i:Int) (w.map r5) v3)/\Gd (v5==false) True/\Pk v5 true (v5==false)/\Gd v8 (Ex (i:Int) (w.map r5) v3)/\Gd v8 True/\Gd v8 ((True)/\(lR (v2.m0) (0:Int) (9:Int)).sm)/\Pk (v5||v4) true v8/\Gd v1 (Ex (i:Int) (w.map r5) v3)/\Gd v1 True/\Gd (v1&&(v6==true)) (Ex (i:Int) (w.map r5) v3)/\Gd (v1&&(v6==true)) True/\Gd ((v1&&(v6==true))&&(v7==false)) (Ex (i:Int) (w.map r5) v3)/\Gd ((v1&&(v6==true))&&(v7==false)) True/\Gd ((v1&&(v6==true))&&(v7==false)) ((((v2.lead).length<=4611686018427387904))/\(jT (v2.lead)).sm)/\Gd (v1&&(v6==true)) (Pk v7 true ((v1&&(v6==true))&&(v7==false)))/\Gd v1 (Pk v6 (v1&&(v6==true)) true)/\Pk ((v5||v4)||v9) true v1/\Br (((v5||v4)||v9)||(v6&&(v7||(!(az (v2.lead)))))) (Q (bV false) (bV (an w))) ((∃ s7:Nat,(s7<=i/\∀ q,q<s7->(w.getD q m4).addr≠v2.addr)/\E (bZ w)/\E (iN i)/\Q (iN 0) (iN s7)/\True)/\∀ k:Nat,(k<=i/\∀ q,q<k->(w.getD q m4).addr≠v2.addr)->Br (r9 (k:Int) (i:Int)) (Ex (k:Int) (w.map r5) (cn ((w.getD k m4).addr) ((w.getD k m4).text) ((w.getD k m4).lead) ((w.getD k m4).m0))/\True/\Ex (i:Int) (w.map r5) v3/\True/\Br (((w.getD k m4).addr)==(v2.addr)) (Q (bV false) (bV (an w))) (m8 ((k:Int)+1)/\∃ k₂:Nat,(k₂<=i/\∀ q,q<k₂->(w.getD q m4).addr≠v2.addr)/\(i-k₂<i-k)/\E (bZ w)/\E (iN i)/\Q (iN (k+1)) (iN k₂)/\True)) (m8 ((i:Int)+1)/\∃ b7:Nat,(jc w b7)/\(w.length-b7<w.length-i)/\E (bZ w)/\Q (iN (i+1)) (iN b7)/\True))) (Q (bV (D1 (((w.map r5).length:Nat):Int) 12)) (bV (an w)))) ((v5||v4)==false)) (!((v2.text)==[]))) (!((v2.lead)==[]))) (cn (v2.addr) (v2.text) (v2.lead) (v2.m0))) (((v5||v4)||v9)==false)) (!(az (v2.addr)))) (s9 (((v2.text).length:Nat):Int) 300)) (!(A7 (v2.m0) (0:Int) (9:Int)))) (w.getD i m4)) ?_
 refine⟨⟨0,?_,rfl,rfl,trivial⟩,?_⟩
 unfold jc
 simp
 rintro i ⟨h1,h2⟩
 refine bI (fun j7=>?_) fun j7=>?_
 refine⟨⟨Z9,aj (d:=m4) Z9⟩,trivial,rfl,by have:=hz i;omega,fun hG=>⟨Z9,aj (d:=m4) Z9⟩,fun hG=>trivial,⟨fun _=>rfl,fun h=>by rw[h] <;> rfl⟩,fun hG=>⟨Z9,aj (d:=m4) Z9⟩,fun hG=>trivial,fun hG=>⟨trivial,rfl⟩,⟨fun _=>rfl,fun h=>by rw[h] <;> rfl⟩,fun hG=>⟨Z9,aj (d:=m4) Z9⟩,fun hG=>trivial,fun hG=>⟨Z9,aj (d:=m4) Z9⟩,fun hG=>trivial,fun hG=>⟨Z9,aj (d:=m4) Z9⟩,fun hG=>trivial,fun hG=>⟨by(try simp only[nb]at hG);have:=hz i;omega,rfl⟩,fun hG=>⟨fun _=>rfl,fun h=>by rw[h];exact(YS _ _).mpr ⟨hG,rfl⟩⟩,fun hG=>⟨fun h=>by rw[h];exact(YS _ _).mpr ⟨hG,rfl⟩,fun _=>rfl⟩,⟨fun _=>rfl,fun h=>by rw[h] <;> rfl⟩,?_⟩
 refine bI (fun l6=>?_) fun l6=>?_
 unfold Q
 rw[wW (i:=i) Z9 (fun h=>by rw[KW l6]at h;exact absurd h.1 Z6)]
 refine⟨⟨0,?_,rfl,rfl,rfl,trivial⟩,?_⟩
 simp
 rintro k ⟨h3,h4⟩
 refine bI (fun n6=>?_) fun n6=>?_
 refine⟨⟨Z9,aj (d:=m4) Z9⟩,trivial,⟨Z9,aj (d:=m4) Z9⟩,trivial,?_⟩
 refine bI (fun w6=>?_) fun w6=>?_
 unfold Q
 rw[wW (i:=i) Z9 (fun h=>h.2 k Z9 w6)]
 refine⟨Z9,?_⟩
 refine⟨k+1,?_,?_,rfl,rfl,rfl,trivial⟩
 exact⟨Z9,vn h4 w6⟩
 exact Z1
 refine⟨Z9,?_⟩
 refine⟨i+1,?_,?_,rfl,rfl,trivial⟩
 unfold jc
 exact⟨Z9,vn h2 ⟨JM l6,fun k' G7=>h4 k' Z9⟩⟩
 exact Z1
 unfold Q
 rw[CZ (fun j hj=>h2 j Z9),Y2]
 refine Zq bV ?_
 unfold D1
 rw[Za];simp;omega)
def lD(s:BL)(p:BL):o6 Tryz.prog:=.mk 150 [sV s,sV p] [] ((s.length<=4611686018427387904)/\(p.length<=4611686018427387904)) (bV (fg s p)) [] (by
 rintro⟨hs,hp⟩
 refine av (N:=18) (rs:=[.tmp 4]) Tryz.func150
  (.q 1<|.q 14<|.nil)
  ((fun v1:Bool=>(Gd (v1==true) (Sx (0:Int) (p.length:Int) s)/\Pk v1 (v1==true) true/\Q (bV (v1&&(((s.take p.length).drop ((0:Int).toNat))==p))) (bV (fg s p)))) (z6 (s.length:Int) (p.length:Int))) ?_
 refine⟨fun hG=>by(try simp only[nb]at hG);omega,⟨fun h=>by rw[h] <;> rfl,fun _=>rfl⟩,?_⟩
 unfold Q
 refine Zq bV ?_
 unfold fg
 rw[Za];simp)
def lA(s:BL)(p:BL):o6 Tryz.prog:=.mk 189 [sV s,sV p] [] ((s.length<=4611686018427387904)/\(p.length<=4611686018427387904)) (bV (gK s p)) [] (by
 rintro⟨hs,hp⟩
 refine av (N:=21) (rs:=[.tmp 4]) Tryz.func189
  (.q 1<|.q 17<|.nil)
  ((fun v1:Bool=>(Gd (v1==true) (m8 ((s.length:Int)-(p.length:Int)))/\Gd (v1==true) (Sx ((s.length:Int)-(p.length:Int)) (s.length:Int) s)/\Pk v1 (v1==true) true/\Q (bV (v1&&(((s.take s.length).drop (Int.toNat ((s.length:Int)-(p.length:Int))))==p))) (bV (gK s p)))) (z6 (s.length:Int) (p.length:Int))) ?_
 refine⟨fun hG=>by(try simp only[nb]at hG);omega,fun hG=>by(try simp only[nb]at hG);omega,⟨fun h=>by rw[h] <;> rfl,fun _=>rfl⟩,?_⟩
 unfold Q
 refine Zq bV ?_
 unfold gK
 rw[Za];simp)
def oZ(s:BL)(p:BL):o6 Tryz.prog:=.mk 186 [sV s,sV p] [] ((s.length<=4611686018427387904)/\(p.length<=4611686018427387904)) (sV (cw s p)) [] (by
 rintro⟨hs,hp⟩
 refine av (N:=16) (rs:=[.tmp 4]) Tryz.func186
  (.q 1<|.q 2<|.c (lA s p) []<|.br (.q 8<|.nil) (.q 2<|.nil))
  ((lA s p).sm/\((s.length<=4611686018427387904)/\(p.length<=4611686018427387904))/\Br (gK s p) (m8 ((s.length:Int)-(p.length:Int))/\Sx (0:Int) ((s.length:Int)-(p.length:Int)) s/\Q (sV ((s.take (Int.toNat ((s.length:Int)-(p.length:Int)))).drop ((0:Int).toNat))) (sV (cw s p))) (Q (sV s) (sV (cw s p)))) ?_
 refine⟨rfl,⟨Z5,Z5⟩,?_⟩
 refine bI (fun j7=>?_) fun j7=>?_
 refine⟨Z9,by have:=vo j7;omega,?_⟩
 unfold Q
 have:=vo j7
 rw[show cw s p=s.take (s.length-p.length) from if_pos j7]
 simp
 unfold Q
 rw[show cw s p=s from if_neg (by rw[j7];decide)])
def ff(d:BL):o6 Tryz.prog:=.mk 86 [sV d] [] (d.length<=4000000000000000000) (sV (ag d)) [] (by
 intro hh
 refine av (N:=6) (rs:=[.tmp 2]) Tryz.func86
  (.q 1<|.q 4<|.nil)
  ((([47,47]:BL).length+d.length<=4611686018427387904)/\((([47,47]:BL)++d).length+([47,110,111,116,105,99,101]:BL).length<=4611686018427387904)/\Q (sV ((([47,47]:BL)++d)++([47,110,111,116,105,99,101]:BL))) (sV (ag d))) ?_
 refine⟨Z3,Z3,?_⟩
 unfold Q
 rfl)
def rK(s:BL)(p:BL):o6 Tryz.prog:=.mk 166 [sV s,sV p] [] ((s.length<=4611686018427387904)/\(p.length<=4611686018427387904)) (sV (cw s p)) [] (by
 rintro⟨hs,hp⟩
 refine av (N:=8) (rs:=[.tmp 4]) Tryz.func166
  (.q 1<|.q 2<|.c (oZ s p) []<|.q 1<|.nil)
  ((oZ s p).sm/\((s.length<=4611686018427387904)/\(p.length<=4611686018427387904))/\Q (sV (cw s p)) (sV (cw s p))) ?_
 refine⟨rfl,⟨Z5,Z5⟩,?_⟩
 unfold Q
 rfl)
def qx(s:BL)(p:BL):o6 Tryz.prog:=.mk 171 [sV s,sV p] [] ((s.length<=4611686018427387904)/\(p.length<=4611686018427387904)) (.tup [sV (cw s p),bV (gK s p)]) [] (by
 rintro⟨hs,hp⟩
 refine av (N:=18) (rs:=[.tmp 4,.tmp 5]) Tryz.func171
  (.q 2<|.q 2<|.c (lA s p) []<|.q 1<|.br (.q 3<|.nil) (.q 9<|.nil))
  ((lA s p).sm/\((s.length<=4611686018427387904)/\(p.length<=4611686018427387904))/\Br (!(gK s p)) (Q (.tup [sV s,bV false]) (.tup [sV (cw s p),bV (gK s p)])) (m8 ((s.length:Int)-(p.length:Int))/\Sx (0:Int) ((s.length:Int)-(p.length:Int)) s/\Q (.tup [sV ((s.take (Int.toNat ((s.length:Int)-(p.length:Int)))).drop ((0:Int).toNat)),bV true]) (.tup [sV (cw s p),bV (gK s p)]))) ?_
 refine⟨rfl,⟨Z5,Z5⟩,?_⟩
 refine bI (fun j7=>?_) fun j7=>?_
 unfold Q
 have j7:gK s p=false:=by simpa using j7
 rw[show cw s p=s from if_neg (by rw[j7];decide),j7]
 refine⟨Z9,by have:=vo (s:=s) (p:=p) (by simpa using j7);omega,?_⟩
 unfold Q
 have j7:gK s p=true:=by simpa using j7
 have:=vo j7
 rw[show cw s p=s.take (s.length-p.length) from if_pos j7,j7]
 simp)
def qy(s:BL):o6 Tryz.prog:=.mk 157 [sV s] [] (s.length<=4611686018427387904) (bV ((s==[42])||bn s)) [] (by
 intro hs
 refine av (N:=9) (rs:=[.tmp 2]) Tryz.func157
  (.q 1<|.q 4<|.cg (gp s)<|.q 2<|.nil)
  ((fun v1:BL=>(Gd ((s==v1)==false) (((s.length<=4611686018427387904))/\(gp s).sm)/\Pk (s==v1) true ((s==v1)==false)/\Q (bV ((s==v1)||(bn s))) (bV ((s==[42])||bn s)))) ([42]:BL)) ?_
 refine⟨fun hG=>⟨by(try simp only[nb]at hG);first | assumption | omega | (simp;omega),rfl⟩,⟨fun _=>rfl,fun h=>by rw[h] <;> rfl⟩,?_⟩
 unfold Q
 rfl)
def sI(s:BL)(p:BL):o6 Tryz.prog:=.mk 138 [sV s,sV p] [] ((s.length<=4611686018427387904)/\(p.length<=4611686018427387904)) (.tup [sV (cw s p),bV (gK s p)]) [] (by
 rintro⟨hs,hp⟩
 refine av (N:=11) (rs:=[.tmp 4,.tmp 5]) Tryz.func138
  (.q 2<|.q 2<|.c (qx s p) []<|.q 4<|.nil)
  ((qx s p).sm/\((s.length<=4611686018427387904)/\(p.length<=4611686018427387904))/\Q (.tup [sV (cw s p),bV (gK s p)]) (.tup [sV (cw s p),bV (gK s p)])) ?_
 refine⟨rfl,⟨Z5,Z5⟩,?_⟩
 unfold Q
 rfl)
abbrev ic(s:BL)(p:BL):V:=.tup [sV (if fg s p=true then s.drop p.length else s),bV (fg s p)]
def qC(s:BL)(p:BL):o6 Tryz.prog:=.mk 116 [sV s,sV p] [] ((s.length<=4611686018427387904)/\(p.length<=4611686018427387904)) (ic s p) [] (by
 rintro⟨hs,hp⟩
 refine av (N:=15) (rs:=[.tmp 4,.tmp 5]) Tryz.func116
  (.q 2<|.q 2<|.c (lD s p) []<|.q 1<|.br (.q 3<|.nil) (.q 6<|.nil))
  ((lD s p).sm/\((s.length<=4611686018427387904)/\(p.length<=4611686018427387904))/\Br (!(fg s p)) (Q (.tup [sV s,bV false]) (ic s p)) (Sx (p.length:Int) (s.length:Int) s/\Q (.tup [sV ((s.take s.length).drop p.length),bV true]) (ic s p))) ?_
 refine⟨rfl,⟨Z5,Z5⟩,?_⟩
 refine bI (fun j7=>?_) fun j7=>?_
 unfold Q ic
 have j7:fg s p=false:=by simpa using j7
 rw[if_neg (by rw[j7];decide),j7]
 refine⟨by have:=KX (s:=s) (p:=p) (by simpa using j7);omega,?_⟩
 unfold Q ic
 have j7:fg s p=true:=by simpa using j7
 rw[if_pos j7,j7]
 simp)
abbrev ox(s:BL)(p:BL):V:=.tup [sV (if fg s p=true then s.drop p.length else s),bV (fg s p)]
def sN(s:BL)(p:BL):o6 Tryz.prog:=.mk 82 [sV s,sV p] [] ((s.length<=4611686018427387904)/\(p.length<=4611686018427387904)) (ox s p) [] (by
 rintro⟨hs,hp⟩
 refine av (N:=11) (rs:=[.tmp 4,.tmp 5]) Tryz.func82
  (.q 2<|.q 2<|.c (qC s p) []<|.q 4<|.nil)
  ((qC s p).sm/\((s.length<=4611686018427387904)/\(p.length<=4611686018427387904))/\Q (.tup [sV (if fg s p=true then s.drop p.length else s),bV (fg s p)]) (ox s p)) ?_
 refine⟨rfl,⟨Z5,Z5⟩,?_⟩
 unfold Q ox
 rfl)
def nN(b:UInt8):o6 Tryz.prog:=.mk 167 [uN b.toNat] [] True (bV (iH b)) [] (by
 intro _
 refine av (N:=19) (rs:=[.tmp 2]) Tryz.func167
  (.q 1<|.q 1<|.q 2<|.join (Bool) (fun c=>⟨[(0,uN b.toNat),(4,bV c)],[]⟩) (fun c=>c=decide (b.toNat=47\/b.toNat=42\/b.toNat=63\/b.toNat=37)) (.nil) (.q 2<|.br (.nil) (.q 2<|.br (.nil) (.q 2<|.nil))) (fun c=>.br (.q 1<|.nil) (.q 1<|.c (kR b) []<|.q 9<|.nil)))
  ((fun v1:Int=>(((o9 v1 47)=true->∃ c:Bool,(c=decide (b.toNat=47\/b.toNat=42\/b.toNat=63\/b.toNat=37))/\E (uN b.toNat)/\Q (bV (o9 v1 47)) (bV c)/\True)/\((o9 v1 47)=false->Br (o9 v1 42) (∃ c:Bool,(c=decide (b.toNat=47\/b.toNat=42\/b.toNat=63\/b.toNat=37))/\E (uN b.toNat)/\Q (bV (o9 v1 42)) (bV c)/\True) (Br (o9 v1 63) (∃ c:Bool,(c=decide (b.toNat=47\/b.toNat=42\/b.toNat=63\/b.toNat=37))/\E (uN b.toNat)/\Q (bV (o9 v1 63)) (bV c)/\True) (∃ c:Bool,(c=decide (b.toNat=47\/b.toNat=42\/b.toNat=63\/b.toNat=37))/\E (uN b.toNat)/\Q (bV (o9 v1 37)) (bV c)/\True)))/\(∀ c:Bool,(c=decide (b.toNat=47\/b.toNat=42\/b.toNat=63\/b.toNat=37))->Br c (Q (bV true) (bV (iH b))) ((kR b).sm/\(True)/\Gd ((dV b)==false) (Pk (z6 v1 65) (((dV b)==false)&&((z6 v1 65)==true)) true)/\Pk (dV b) true ((dV b)==false)/\Q (bV ((dV b)||((z6 v1 65)&&(D1 v1 70)))) (bV (iH b)))))) (b.toNat:Int)) ?_
 refine⟨fun j7=>?_,fun j7=>?_,fun c hc=>?_⟩
 try simp only[nb]at j7
 exact⟨o9 (b.toNat:Int) 47,by first | (rw[Za];simp;omega) | (rw[Za];simp),rfl,rfl,trivial⟩
 try simp only[nb]at j7
 refine bI (fun l6=>?_) fun l6=>?_
 exact⟨o9 (b.toNat:Int) 42,by first | (rw[Za];simp;omega) | (rw[Za];simp),rfl,rfl,trivial⟩
 refine bI (fun n6=>?_) fun n6=>?_
 exact⟨o9 (b.toNat:Int) 63,by first | (rw[Za];simp;omega) | (rw[Za];simp),rfl,rfl,trivial⟩
 exact⟨o9 (b.toNat:Int) 37,by first | (rw[Za];simp;omega) | (rw[Za];simp),rfl,rfl,trivial⟩
 refine bI (fun w6=>?_) fun w6=>?_
 unfold Q
 have h:b.toNat=47\/b.toNat=42\/b.toNat=63\/b.toNat=37:=by rw[hc,Zo]at w6;exact w6
 refine Zq bV ?_
 unfold iH
 rw[decide_eq_true Z9,Bool.or_true]
 refine⟨rfl,trivial,fun hG=>⟨fun h=>by rw[h];exact(YS _ _).mpr ⟨hG,rfl⟩,fun _=>rfl⟩,⟨fun _=>rfl,fun h=>by rw[h] <;> rfl⟩,?_⟩
 unfold Q
 have h: ¬ (b.toNat=47\/b.toNat=42\/b.toNat=63\/b.toNat=37):=by rw[hc,decide_eq_false_iff_not]at w6;exact w6
 refine Zq bV ?_
 unfold iH
 congr 1
 rw[Za];simp only[YS,Zo];omega)
def jI(p:BL):o6 Tryz.prog:=.mk 136 [sV p] [] (p.length<=4611686018427387904) (bV (dJ p)) [] (by
 intro hs
 have Vi:(cw p [36]).length<=p.length:=by unfold cw;split <;> simp
 refine av (N:=31) (rs:=[.tmp 2]) Tryz.func136
  (.q 1<|.q 13<|.br (.q 1<|.nil) (.q 1<|.c (rK p ([36]:BL)) []<|.q 1<|.q 1<|.loop (Nat) (fun (i:Nat)=>⟨[(3,sV (cw p [36])),(4,iN i)],[]⟩) (fun (i:Nat)=>i<=(cw p [36]).length/\∀ j,j<i->iH ((cw p [36]).getD j 0)=true) (fun (i:Nat)=>(cw p [36]).length-i) (fun (i:Nat)=>.q 4<|.br (.q 3<|.c (nN ((cw p [36]).getD i 0)) []<|.q 1<|.br (.q 1<|.nil) (.q 3<|.nil)) (.q 1<|.nil))))
  ((fun v1:Int=>(Pk (r9 v1 1) true ((r9 v1 1)==false)/\Gd (((r9 v1 1)||(s9 v1 16))==false) (Ix 0 p)/\Pk ((r9 v1 1)||(s9 v1 16)) true (((r9 v1 1)||(s9 v1 16))==false)/\Br (((r9 v1 1)||(s9 v1 16))||(A6 (((p.getD 0 0).toNat:Nat):Int) 47)) (Q (bV false) (bV (dJ p))) ((rK p ([36]:BL)).sm/\((p.length<=4611686018427387904)/\(([36]:BL).length<=4611686018427387904))/\(∃ j6:Nat,(j6<=(cw p [36]).length/\∀ j,j<j6->iH ((cw p [36]).getD j 0)=true)/\Q (sV (cw p ([36]:BL))) (sV (cw p [36]))/\Q (iN 0) (iN j6)/\True)/\∀ i:Nat,(i<=(cw p [36]).length/\∀ j,j<i->iH ((cw p [36]).getD j 0)=true)->Br (r9 (i:Int) (((cw p [36]).length:Nat):Int)) (Ix (i:Int) (cw p [36])/\(nN ((cw p [36]).getD i 0)).sm/\(True)/\Br (!(iH ((cw p [36]).getD i 0))) (Q (bV false) (bV (dJ p))) (m8 ((i:Int)+1)/\∃ b7:Nat,(b7<=(cw p [36]).length/\∀ j,j<b7->iH ((cw p [36]).getD j 0)=true)/\((cw p [36]).length-b7<(cw p [36]).length-i)/\E (sV (cw p [36]))/\Q (iN (i+1)) (iN b7)/\True)) (Q (bV true) (bV (dJ p)))))) (p.length:Int)) ?_
 refine⟨⟨fun _=>rfl,fun h=>by rw[h] <;> rfl⟩,fun hG=>by(try simp only[nb]at hG);omega,⟨fun _=>rfl,fun h=>by rw[h] <;> rfl⟩,?_⟩
 refine bI (fun j7=>?_) fun j7=>?_
 unfold Q
 refine Zq bV ?_
 unfold dJ
 rw[decide_eq_false Z9];rfl
 refine⟨rfl,⟨Z9,Z8⟩,?_⟩
 refine⟨⟨0,?_,Z4,rfl,trivial⟩,?_⟩
 simp
 rintro i ⟨h1,h2⟩
 refine bI (fun l6=>?_) fun l6=>?_
 refine⟨Z9,rfl,trivial,?_⟩
 refine bI (fun n6=>?_) fun n6=>?_
 unfold Q
 refine Zq bV ?_
 unfold dJ
 rw[all_false (i:=i) (d:=0) Z9 (by simpa using n6),Bool.and_false]
 refine⟨Z9,?_⟩
 refine⟨i+1,?_,?_,rfl,rfl,trivial⟩
 exact⟨Z9,bS h2 (by simpa using n6)⟩
 exact Z1
 unfold Q
 refine Zq bV ?_
 unfold dJ
 rw[all_true (d:=0) (fun j hj=>h2 j Z9),decide_eq_true Z9];rfl)
def cP(a:r8):Prop:=a.c5.length<=1000/\a.ask.length<=1000/\a.b9.length<=500/\∀ i,(a.b9.getD i []).length<=1000
theorem xz{ps:List BL}(h:∀ i,(ps.getD i []).length<=1000):∀ i,i<=ps.length->(ck (ps.take i)).length<=i*1001
 | 0,_=>by simp[ck]
 | i+1,hi=>by
   have:=xz h i Z9
   have h2:=h i
   rw[bg (by omega:i<ps.length) [],mi]
   split
   omega
   simp only[YT,YV,YY];omega
theorem cP.join{a:r8}(h:cP a):(ck a.b9).length<=500500:=by
 obtain⟨h1,h2,h3,h4⟩:=h
 have:=xz h4 a.b9.length (Zg _)
 rw[List.take_length]at this;omega
theorem cP.path{a:r8}(h:cP a):(bj a).length<=502000:=by
 have:=h.join
 obtain⟨h1,h2,h3,h4⟩:=h
 unfold bj
 split <;> simp <;> omega
theorem cP.text{a:r8}(h:cP a):(cJ a).length<=504000:=by
 have:=h.path
 have:=h.1
 unfold cJ
 simp;omega
theorem Mm{h q:BL}{fr ls:List BL}{k:Bool}(hh:h.length<=1000)(hf:∀ i,(fr.getD i []).length<=1000)(hl:fr.length+ls.length<=500):cP ⟨h,bX (fr++ls.map eN),k,eN q⟩:=by
 refine⟨hh,?_,?_,fun i=>?_⟩
 have:=pZ q;simp only[eN];omega
 have:=xx (fr++ls.map eN);simp only[YT,Y2]at this ⊢;omega
 refine kP (n:=1000) (fun p Vq=>?_) i
 rcases Y1.1 (wU Vq) with h | h
 obtain⟨j,hj,rfl⟩:=List.getElem_of_mem h
 have:=hf j
 rwa [YQ,YX hj]at this
 obtain⟨y,_,rfl⟩:=List.mem_map.1 h
 have:=pZ y;simp only[eN];omega
theorem qI{a:r8}(h:aG a=true):cP a:=by
 unfold aG at h
 simp only[YS,Zo]at h
 obtain⟨⟨⟨⟨⟨h1,h2⟩,h3⟩,h4⟩,h5⟩,h6⟩:=h
 refine⟨?_,?_,Z9,fun i=>kP (n:=1000) (fun p hp=>?_) i⟩
 have:a.c5.length<=(cJ a).length:=by unfold cJ;simp;omega
 omega
 have:=nQ h3;omega
 have h5:=Y6.1 h5 p hp
 unfold ej at h5
 simp only[YS]at h5
 have:=nQ h5.1.1.1;omega
theorem ra:cP (oA none):=⟨by simp[oA],by simp[oA],by simp[oA],by simp[oA]⟩
theorem Mb(h:BL)(fr:List BL)(n8:BL):cP (oA (cy h fr n8)):=by
 unfold cy
 split
 split
 rename_i h2;exact qI h2
 exact ra
 exact ra
theorem kF(s:BL):cP (oA (aw s)):=by
 unfold aw
 split
 exact Mb _ _ _
 exact ra
theorem oN{h:BL}{fr:List BL}{n8:BL}(hs:(cy h fr n8).isSome=true):aG (oA (cy h fr n8))=true:=by
 unfold cy at hs ⊢
 split
 split
 rename_i h2;exact h2
 rename_i h1 h2;rw[if_pos h1,if_neg h2]at hs;simp at hs
 rename_i h1;rw[if_neg h1]at hs;simp at hs
theorem gU{s:BL}(hs:(aw s).isSome=true):aG (oA (aw s))=true:=by
 unfold aw at hs ⊢
 split
 rename_i h;rw[if_pos h]at hs;exact oN hs
 rename_i h;rw[if_neg h]at hs;simp at hs
def dp(s:BL):Option r8:=if fg s [47,47]=true then dA (s.drop 2) else none
theorem sF{s p:BL}:fg s p=true↔p.length<=s.length/\s.take p.length=p:=by unfold fg;simp
theorem Ak{raw:BL}(h:raw.length<=60):aw raw=dp (ae 35 raw).1:=by
 unfold aw dp
 by_cases hp:fg (ae 35 raw).1 [47,47]=true
 have:=sF.1 hp
 rw[if_pos hp,if_pos ⟨h,this.1,this.2⟩]
 rw[if_neg hp,if_neg]
 rintro⟨_,h1,h2⟩
 exact hp (sF.2 ⟨h1,h2⟩)
theorem uV{raw:BL}(h: ¬ raw.length<=60):aw raw=none:=if_neg fun c=>h c.1
theorem m5.take{s:BL}(h:m5 s)(n:Nat):m5 (s.take n):=fun c hc=>h c (List.mem_of_mem_take hc)
theorem m5.drop{s:BL}(h:m5 s)(n:Nat):m5 (s.drop n):=fun c hc=>h c (List.mem_of_mem_drop hc)
theorem Bt(c:UInt8):∀ (s:BL) x,x∈(ae c s).1->x∈s
 | [],x,h=>by simp[ae]at h
 | b::l,x,h=>by
   simp only[ae]at h
   split at h
   simp at h
   simp only[List.mem_cons]at h ⊢
   exact h.imp id (Bt c l x)
theorem m5.cut{s:BL}(h:m5 s)(c:UInt8):m5 (ae c s).1:=fun x hx=>h x (Bt c s x hx)
theorem wC{s:BL}(h1:(aw s).isSome=true)(h2:cJ (oA (aw s))=s):az s=true:=by
 unfold az bE
 rw[h1,if_pos (gU h1),h2];simp
theorem IF{s:BL}(h:(aw s).isSome=false\/¬ cJ (oA (aw s))=s):az s=false:=by
 unfold az bE
 rcases Bool.eq_false_or_eq_true (aw s).isSome with h1 | h1
 rw[if_pos (gU h1),h1]
 rcases h with h | h
 rw[h1]at h;cases h
 simpa using h
 rw[h1];rfl
def ar(s:BL):Option r8:=if az s=true then aw s else none
theorem gP{s:BL}:(ar s).isSome=az s:=by
 unfold ar
 split
 rename_i h
 rw[h]
 unfold az at h
 simp only[YS]at h;exact h.1
 rename_i h;simp at h;rw[h];rfl
def lL(p:Pg):Value:=.agg #[.string (Str p.addr),.string (Str p.text),.string (Str p.lead),.int .i64 p.m0]
def E9(p:Pg):BL×Value:=(p.addr,lL p)
def wE(w:List Pg):List (BL×Value):=w.foldl (fun es p=>dC es p.addr (lL p)) []
theorem pw{w:List Pg}{i:Nat}(h:i<w.length):wE (w.take (i+1))=dC (wE (w.take i)) (w.getD i m4).addr (lL (w.getD i m4)):=by
 unfold wE;rw[bg h m4,List.foldl_append];rfl
theorem xt{k:BL}:∀ {es:List (BL×Value)},bW es k=none↔∀ p,p∈es->p.1≠k
 | []=>by simp[bW]
 | q::r=>by
   unfold bW
   split
   rename_i h;simp[h]
   rename_i h
   rw[xt (es:=r)]
   simp[h]
theorem wJ(k:BL)(y:Value):∀ (es:List (BL×Value)),(dC es k y).length=if bW es k=none then es.length+1 else es.length
 | []=>rfl
 | p::r=>by
   unfold dC bW
   split
   simp
   have:=wJ k y r
   rw[YV,this]
   split <;> simp
theorem zf(k:BL)(y:Value):∀ (es:List (BL×Value)) (a:BL),(∃ p,p∈dC es k y/\p.1=a)↔(a=k\/∃ p,p∈es/\p.1=a)
 | [],a=>by simp[dC];exact eq_comm
 | p::r,a=>by
   unfold dC
   split
   rename_i h
   simp only[List.mem_cons,exists_eq_or_imp]
   constructor
   rintro (h1 | h1)
   exact .inl h1.symm
   exact .inr (.inr h1)
   rintro (h1 | h1 | h1)
   exact .inl h1.symm
   exact .inl (by rw[<- h];exact h1)
   exact .inr h1
   have:=zf k y r a
   simp only[List.mem_cons,exists_eq_or_imp,this]
   constructor
   rintro (h1 | h1 | h1)
   exact .inr (.inl h1)
   exact .inl h1
   exact .inr (.inr h1)
   rintro (h1 | h1 | h1)
   exact .inr (.inl h1)
   exact .inl h1
   exact .inr (.inr h1)
def zq(w:List Pg)(n:Nat):Prop:= ∀ i,i<n->∀ k,k<i->(w.getD k m4).addr≠(w.getD i m4).addr
theorem AK(w:List Pg):∀ i,i<=w.length->∀ a,(∃ p,p∈wE (w.take i)/\p.1=a)↔∃ k,k<i/\(w.getD k m4).addr=a
 | 0,_,a=>by simp[wE]
 | i+1,h,a=>by
   rw[pw Z9,zf,AK w i Z9]
   constructor
   rintro (h1 | ⟨k,h1,h2⟩)
   exact⟨i,Z9,h1.symm⟩
   exact⟨k,Z9,h2⟩
   rintro⟨k,h1,h2⟩
   by_cases e:k=i
   subst e;exact .inl h2.symm
   exact .inr ⟨k,Z9,h2⟩
theorem vO{w:List Pg}{i:Nat}(h:i<=w.length){a:BL}:bW (wE (w.take i)) a=none↔∀ k,k<i->(w.getD k m4).addr≠a:=by
 rw[xt]
 have:=AK w i h a
 constructor
 intro h1 k hk c
 obtain⟨p,hp,he⟩:=this.2 ⟨k,hk,c⟩
 exact h1 p hp he
 intro h1 p hp c
 obtain⟨k,hk,he⟩:=this.1 ⟨p,hp,c⟩
 exact h1 k hk he
theorem En(w:List Pg):∀ i,i<=w.length->(wE (w.take i)).length<=i/\((wE (w.take i)).length=i↔zq w i)
 | 0,_=>by simp[wE,zq]
 | i+1,h=>by
   obtain⟨h1,h2⟩:=En w i Z9
   rw[pw Z9,wJ]
   split
   rename_i hl
   rw[vO Z9]at hl
   refine⟨Z9,?_⟩
   constructor
   intro hq j hj k hk
   by_cases e:j=i
   subst e;exact hl k hk
   exact(h2.1 Z9) j Z9 k hk
   intro hd
   have:=h2.2 fun j hj k hk=>hd j Z9 k hk
   omega
   rename_i hl
   refine⟨Z9,?_⟩
   constructor
   intro hq;omega
   intro hd;exact absurd ((vO Z9).2 fun k hk=>hd i Z9 k hk) hl
theorem Dt{w:List Pg}:∀ i,i<=w.length->zq w i->wE (w.take i)=(w.take i).map E9
 | 0,_,_=>by simp[wE]
 | i+1,h,hd=>by
   have ih:=Dt i Z9 fun j hj k hk=>hd j Z9 k hk
   rw[pw Z9,tI _ _ _ ((vO Z9).2 fun k hk=>hd i Z9 k hk),ih,bg (by omega:i<w.length) m4,Zf]
   rfl
theorem Ha{w:List Pg}(h:an w=true):w.length<=12/\(∀ i,i<w.length->dS (w.getD i m4)=true)/\zq w w.length:=by
 unfold an at h
 simp only[YS,Zo]at h
 exact⟨h.2,fun i hi=>(h.1 i hi).1,fun i hi=>(h.1 i hi).2⟩
theorem Gl{w:List Pg}(h:an w=false)(h1:w.length<=12)(h2:∀ i,i<w.length->dS (w.getD i m4)=true): ¬ zq w w.length:=fun c=>by
 have:an w=true:=by
  unfold an
  simp only[YS,Zo]
  exact⟨fun i hi=>⟨h2 i hi,c i hi⟩,h1⟩
 rw[h]at this;cases this
theorem Bn(a:BL):∀ (w:List Pg),(bW (w.map E9) a=none/\(B7 w a).2=false/\(B7 w a).1=m4)\/(bW (w.map E9) a=some (lL (B7 w a).1)/\(B7 w a).2=true)
 | []=>.inl ⟨rfl,rfl,rfl⟩
 | p::r=>by
   simp only[Zi,bW,B7,E9]
   by_cases h:p.addr=a
   simp[h]
   simp only[h,if_false]
   exact Bn a r
theorem GG{s:BL}(h:(aw s).isSome=true):s.length<=60:=by
 by_cases hl:s.length<=60
 exact hl
 rw[uV hl]at h;simp at h
def mc(e:Bool):BL->BL->Prop
 | [],t=>e=false\/t=[]
 | c::b,t=>if c=42 then ∃ k,mc e b (t.drop k) else ∃ t',t=c::t'/\mc e b t'
def pL(e:Bool):List BL->BL->Prop
 | [],t=>e=false\/t=[]
 | q::r,t=> ∃ k,q <+: t.drop k/\pL e r ((t.drop k).drop q.length)
def SP(e:Bool):List BL->BL->Prop
 | [],_=>False
 | q::r,t=>q <+: t/\pL e r (t.drop q.length)
theorem qZ(c:UInt8):∀ l,ah c l≠[]
 | []=>by simp[ah]
 | b::l=>by unfold ah;split <;> simp
theorem oK(e:Bool):∀ (b t:BL),mc e b t↔SP e (ah 42 b) t
 | [],t=>by simp[mc,ah,SP,pL]
 | c::b,t=>by
   unfold mc ah
   by_cases h:c=42
   simp only[h,if_true,SP,List.nil_prefix,true_and,YY,List.drop_zero]
   cases hs:ah 42 b with
   | nil=>exact absurd hs (qZ 42 b)
   | cons q r=>
     simp only[pL]
     constructor
     rintro⟨k,hk⟩;have:=(oK e b _).1 hk;rw[hs]at this;exact⟨k,this⟩
     rintro⟨k,hk⟩;exact⟨k,(oK e b _).2 (by rw[hs];exact hk)⟩
   simp only[h,if_false]
   cases hs:ah 42 b with
   | nil=>exact absurd hs (qZ 42 b)
   | cons q r=>
     simp only[List.headD_cons,List.tail_cons,SP]
     constructor
     rintro⟨t',rfl,hk⟩
     have:=(oK e b _).1 hk;rw[hs]at this
     exact⟨List.cons_prefix_cons.2 ⟨rfl,this.1⟩,by simpa using this.2⟩
     rintro⟨h1,h2⟩
     cases t with
     | nil=>simp at h1
     | cons x t'=>
       obtain⟨rfl,h3⟩:=List.cons_prefix_cons.1 h1
       exact⟨t',rfl,(oK e b _).2 (by rw[hs];exact⟨h3,by simpa using h2⟩)⟩
theorem Gt{e:Bool}{ps:List BL}{t:BL}{m:Nat}(h:pL e ps (t.drop m))(hn:e=false\/ps≠[]):pL e ps t:=by
 cases ps with
 | nil=>exact hn.elim .inl (fun h=>absurd rfl h)
 | cons q r=>
   obtain⟨k,h1,h2⟩:=h
   have he:(t.drop m).drop k=t.drop (m+k):=List.drop_drop ..
   rw[he]at h1 h2
   exact⟨m+k,h1,h2⟩
def V3(s p:BL)(k:Nat):Prop:=k+p.length<=s.length/\(s.drop k).take p.length=p
theorem uD(s p:BL):∀ (n f:Nat),s.length+1-f<=n->(fi s p f<0->∀ k,f<=k->¬ V3 s p k)/\(0<=fi s p f->V3 s p (fi s p f).toNat/\f<=(fi s p f).toNat/\∀ k,f<=k->V3 s p k->(fi s p f).toNat<=k)
 | 0,f,hn=>by
   rw[fi,dif_neg Z9]
   exact⟨fun _ k hk h=>by have:=h.1;omega,fun h=>by omega⟩
 | n+1,f,hn=>by
   rw[fi]
   by_cases h1:f+p.length<=s.length
   rw[dif_pos h1]
   by_cases h2:(s.drop f).take p.length=p
   rw[if_pos h2]
   exact⟨fun h=>by omega,fun _=>⟨⟨h1,h2⟩,Z8,fun k hk _=>by simpa using hk⟩⟩
   rw[if_neg h2]
   obtain⟨i1,i2⟩:=uD s p n (f+1) Z9
   refine⟨fun h k hk ho=>?_,fun h=>?_⟩
   by_cases e:k=f
   subst e;exact h2 ho.2
   exact i1 h k Z9 ho
   obtain⟨j1,j2,j3⟩:=i2 h
   refine⟨j1,Z9,fun k hk ho=>?_⟩
   by_cases e:k=f
   subst e;exact absurd ho.2 h2
   exact j3 k Z9 ho
   rw[dif_neg h1]
   exact⟨fun _ k hk h=>by have:=h.1;omega,fun h=>by omega⟩
theorem tP{p t:BL}:p <+: t↔p.length<=t.length/\t.take p.length=p:=by
 constructor
 intro h;exact⟨h.length_le,List.prefix_iff_eq_take.1 h |>.symm⟩
 rintro⟨_,h⟩;rw[<- h];exact List.take_prefix _ _
theorem go_sem(e:Bool)(s:BL):∀ (ps:List BL) (f:Nat),f<=s.length->(lI e s f ps=true↔pL e ps (s.drop f))
 | [],f,hf=>by
   simp only[lI,pL,Bool.or_eq_true,Bool.not_eq_true',Zo,List.drop_eq_nil_iff]
   constructor
   rintro (h | h)
   exact .inl h
   exact .inr Z9
   rintro (h | h)
   exact .inl h
   exact .inr Z9
 | p::r,f,hf=>by
   unfold lI
   by_cases hc:(e&&r.isEmpty)=true
   rw[if_pos hc]
   simp only[YS,List.isEmpty_iff]at hc
   obtain⟨rfl,rfl⟩:=hc
   simp only[YS,Zo,Zp,pL,Bool.true_eq_false,false_or,List.drop_drop]
   constructor
   rintro⟨h1,h2⟩
   refine⟨s.length-p.length-f,?_,?_⟩
   rw[show f+(s.length-p.length-f)=s.length-p.length from Z9,h2];exact List.prefix_refl _
   rw[Zc Z9]
   rintro⟨k,h1,h2⟩
   have hp:=tP.1 h1
   rw[List.length_drop]at hp
   have h2:=List.drop_eq_nil_iff.1 h2
   by_cases hk:f+k<=s.length
   refine⟨Z9,?_⟩
   rw[show s.length-p.length=f+k from Z9]
   rw[Y3 (by rw[List.length_drop];omega)]at hp
   exact hp.2
   have:p=[]:=Y9 Z9
   subst this
   simp;omega
   rw[if_neg hc]
   have hn:e=false\/r≠[]:=by
    cases e with
    | false=>exact .inl rfl
    | true=>exact .inr fun c=>hc (by rw[c];rfl)
   obtain⟨i1,i2⟩:=uD s p _ f (Zg _)
   have Vs:∀ k,p <+: (s.drop f).drop k->∃ m,f<=m/\V3 s p m/\(s.drop f).drop k=s.drop m:=fun k h=>by
    have hp:=tP.1 h
    rw[List.drop_drop,List.length_drop]at hp
    by_cases hk:f+k<=s.length
    exact⟨f+k,Z9,⟨Z9,hp.2⟩,by rw[List.drop_drop]⟩
    have:p=[]:=Y9 Z9
    subst this
    refine⟨s.length,hf,⟨Z8,Z8⟩,?_⟩
    rw[List.drop_drop,Zc Z9,Zc Z9]
   by_cases UD:fi s p f<0
   rw[if_pos UD]
   simp only[Bool.false_eq_true,false_iff]
   rintro⟨k,h1,h2⟩
   obtain⟨m,m1,m2,m3⟩:=Vs k h1
   exact i1 UD m m1 m2
   rw[if_neg UD]
   obtain⟨j1,j2,j3⟩:=i2 Z9
   rw[go_sem e s r _ j1.1]
   constructor
   intro h
   refine⟨(fi s p f).toNat-f,?_,?_⟩
   rw[List.drop_drop,show f+((fi s p f).toNat-f)=(fi s p f).toNat from Z9]
   exact tP.2 ⟨by rw[List.length_drop];have:=j1.1;omega,j1.2⟩
   rw[List.drop_drop,List.drop_drop,show f+((fi s p f).toNat-f+p.length)=(fi s p f).toNat+p.length from Z9];exact h
   rintro⟨k,h1,h2⟩
   obtain⟨m,m1,m2,m3⟩:=Vs k h1
   have:=j3 m m1 m2
   rw[m3,List.drop_drop]at h2
   refine Gt (m:=m-(fi s p f).toNat) ?_ hn
   rw[List.drop_drop,show (fi s p f).toNat+p.length+(m-(fi s p f).toNat)=m+p.length from Z9]
   exact h2
theorem Fh(p s:BL):tt p s=true↔mc (fe p) (bH p) s:=by
 rw[oK]
 unfold tt
 cases hs:ah 42 (bH p) with
 | nil=>exact absurd hs (qZ 42 _)
 | cons q r=>
   simp only[List.headD_cons,List.tail_cons,YS,List.isPrefixOf_iff_prefix,SP]
   constructor
   rintro⟨h1,h2⟩;exact⟨h1,(go_sem _ s r _ h1.length_le).1 h2⟩
   rintro⟨h1,h2⟩;exact⟨h1,(go_sem _ s r _ h1.length_le).2 h2⟩
def Ot(c:UInt8)(s:BL)(come:List Bool)(j:Nat):Bool:=if c=42 then (come.take (j+1)).any id else decide (0<j)&&(come.getD (j-1) false&&(s.getD (j-1) 0==c))
def ly(s:BL)(come:List Bool)(c:UInt8):List Bool:=(List.range (s.length+1)).map (Ot c s come)
def uS(s:BL):List Bool:=(List.replicate (s.length+1) false).set 0 true
def jm(s b:BL):List Bool:=b.foldl (ly s) (uS s)
theorem qG(s:BL)(come:List Bool)(c:UInt8):(ly s come c).length=s.length+1:=by simp[ly]
theorem zV(s b:BL):(jm s b).length=s.length+1:=by
 have:∀ (b:BL) (come:List Bool),come.length=s.length+1->(b.foldl (ly s) come).length=s.length+1:=by
  intro b;induction b with
  | nil=>intro come h;exact h
  | cons c b ih=>intro come _;exact ih _ (qG s come c)
 exact this b _ (by simp[uS])
theorem lX{s:BL}{come:List Bool}{c:UInt8}{j:Nat}(h:j<=s.length):(ly s come c).getD j false=Ot c s come j:=by
 simp[ly,YQ,List.getElem?_map,List.getElem?_range,Nat.lt_succ_of_le h]
def So(e:Bool)(s:BL)(come:List Bool)(b:BL):Prop:= ∃ j,j<=s.length/\come.getD j false=true/\mc e b (s.drop j)
theorem tQ{l:List Bool}{n:Nat}:(l.take n).any id=true↔∃ j,j<n/\l.getD j false=true:=by
 rw[List.any_eq_true]
 constructor
 rintro⟨x,hx,h⟩
 obtain⟨j,hj⟩:=List.mem_iff_getElem?.1 hx
 rw[List.getElem?_take]at hj
 split at hj
 rename_i hlt
 exact⟨j,hlt,by rw[YQ,hj];simpa using h⟩
 simp at hj
 rintro⟨j,hj,h⟩
 refine⟨true,?_,rfl⟩
 rw[List.mem_iff_getElem?]
 refine⟨j,?_⟩
 rw[List.getElem?_take,if_pos hj]
 rw[YQ]at h
 cases hl:l[j]? with
 | none=>rw[hl]at h;simp at h
 | some x=>rw[hl]at h;simp at h;rw[h]
theorem FF{e:Bool}{s:BL}{come:List Bool}{c:UInt8}{b:BL}:So e s come (c::b)↔So e s (ly s come c) b:=by
 unfold So
 constructor
 rintro⟨j,h1,h2,h3⟩
 unfold mc at h3
 by_cases hc:c=42
 rw[if_pos hc]at h3
 obtain⟨k,h3⟩:=h3
 by_cases hk:j+k<=s.length
 refine⟨j+k,hk,?_,by rw[List.drop_drop]at h3;exact h3⟩
 rw[lX hk,Ot,if_pos hc,tQ]
 exact⟨j,Z9,h2⟩
 refine⟨s.length,Zg _,?_,?_⟩
 rw[lX (Zg _),Ot,if_pos hc,tQ]
 exact⟨j,Z9,h2⟩
 rw[List.drop_drop,Zc Z9]at h3
 rw[Zc (Zg _)];exact h3
 rw[if_neg hc]at h3
 obtain⟨t',h3,h4⟩:=h3
 have hj:j<s.length:=by
  by_cases hj:j<s.length
  exact hj
  rw[Zc Z9]at h3;cases h3
 rw[drop_cons hj 0,List.cons.injEq]at h3
 refine⟨j+1,Z9,?_,by rw[h3.2];exact h4⟩
 rw[lX Z9,Ot,if_neg hc]
 simp only[Nat.add_sub_cancel,h2,h3.1];simp
 rintro⟨j,h1,h2,h3⟩
 rw[lX h1,Ot]at h2
 by_cases hc:c=42
 rw[if_pos hc,tQ]at h2
 obtain⟨i,hi,h2⟩:=h2
 refine⟨i,Z9,h2,?_⟩
 unfold mc;rw[if_pos hc]
 exact⟨j-i,by rw[List.drop_drop,show i+(j-i)=j from Z9];exact h3⟩
 rw[if_neg hc]at h2
 simp only[YS,Zo,Zp]at h2
 obtain⟨h4,h5,h6⟩:=h2
 refine⟨j-1,Z9,h5,?_⟩
 unfold mc;rw[if_neg hc]
 refine⟨s.drop j,?_,h3⟩
 rw[drop_cons (by omega:j-1<s.length) 0,h6,show j-1+1=j from Z9]
theorem zC{e:Bool}{s:BL}:∀ (b:BL) {come:List Bool},So e s come b↔So e s (b.foldl (ly s) come) []
 | [],come=>Iff.rfl
 | c::b,come=>by rw[FF,List.foldl_cons];exact zC b
theorem Lz{e:Bool}{s b:BL}:So e s (uS s) b↔mc e b s:=by
 unfold So uS
 constructor
 rintro⟨j,h1,h2,h3⟩
 rw[YQ,List.getElem?_set]at h2
 split at h2
 rename_i h;rw[<- h]at h3;simpa using h3
 rw[List.getElem?_replicate]at h2;split at h2 <;> simp at h2
 intro h;exact⟨0,Nat.zero_le _,by simp[YQ],by simpa using h⟩
def ym(p s:BL):Bool:=if fe p=true then (jm s (bH p)).getD s.length false else (jm s (bH p)).contains true
theorem KK(p s:BL):ym p s=tt p s:=by
 rw[Za,Fh,<- Lz,zC]
 show _↔So (fe p) s (jm s (bH p)) []
 unfold ym So mc
 cases fe p with
 | true=>
   simp only[if_true,Bool.true_eq_false,false_or,List.drop_eq_nil_iff]
   constructor
   intro h;exact⟨s.length,Zg _,h,Zg _⟩
   rintro⟨j,h1,h2,h3⟩;rw[show s.length=j from Z9];exact h2
 | false=>
   simp only[Bool.false_eq_true,if_false,true_or,and_true,List.contains_iff_mem]
   have hl:=zV s (bH p)
   constructor
   intro h
   obtain⟨j,hj⟩:=List.mem_iff_getElem?.1 h
   have:=(Y7.1 hj).1
   exact⟨j,Z9,by rw[YQ,hj];rfl⟩
   rintro⟨j,h1,h2⟩
   rw[YQ]at h2
   cases hq:(jm s (bH p))[j]? with
   | none=>rw[hq]at h2;simp at h2
   | some x=>rw[hq]at h2;simp at h2;rw[h2]at hq;exact Zb hq
theorem we{p:BL}(h:1<=p.length):gK p [36]=fe p:=by
 unfold gK fe
 rw[Zj,decide_eq_true h,Bool.true_and,drop_cons (by omega:p.length-1<p.length) 0,Zc Z9,Za]
 simp only[Zp,Zo,List.cons.injEq,and_true]
 rw[<- UInt8.toNat_inj];rfl
theorem rF{p:BL}(h:1<=p.length):cw p [36]=bH p:=by
 unfold cw bH
 rw[we h];rfl
theorem oY(p:BL):dJ p=aN p:=by
 by_cases h:1<=p.length
 have hp36:iH 36=false:=Z6
 unfold dJ aN
 rw[rF h,Za]
 simp only[YS,Zo]
 have key:(bH p).all iH=true↔∀ j,j<p.length->kT p j=true:=by
  rw[Y6]
  unfold bH
  by_cases he:fe p=true
  rw[if_pos he]
  have he:(p.getD (p.length-1) 0).toNat=36:=by unfold fe at he;simpa using he
  constructor
  intro hx j hj
  unfold kT
  by_cases e:j=p.length-1
  rw[e,he,show decide (p.length-1+1=p.length)=true from decide_eq_true Z9];simp
  have:p.getD j 0∈p.take (p.length-1):=by
   rw[List.mem_iff_getElem?]
   exact⟨j,by rw[List.getElem?_take,if_pos Z9,YQ,YX hj];rfl⟩
  rw[hx _ this];rfl
  intro hx x hm
  obtain⟨j,hj⟩:=List.mem_iff_getElem?.1 hm
  rw[List.getElem?_take]at hj
  split at hj
  rename_i hlt
  have Qn:=(Y7.1 hj).1
  have:=hx j Qn
  unfold kT at this
  rw[show decide (j+1=p.length)=false from decide_eq_false Z9,Bool.and_false,Bool.or_false,YQ,hj]at this
  exact this
  simp at hj
  rw[if_neg he]
  have he: ¬ (p.getD (p.length-1) 0).toNat=36:=by unfold fe at he;simpa using he
  constructor
  intro hx j hj
  unfold kT
  have:p.getD j 0∈p:=by
   rw[List.mem_iff_getElem?]
   exact⟨j,by rw[YQ,YX hj];rfl⟩
  rw[hx _ this];rfl
  intro hx x hm
  obtain⟨j,hj⟩:=List.mem_iff_getElem?.1 hm
  have Qn:=(Y7.1 hj).1
  have:=hx j Qn
  unfold kT at this
  have hg:p.getD j 0=x:=by rw[YQ,hj];rfl
  rw[hg]at this
  simp only[Bool.or_eq_true,YS,Zo]at this
  rcases this with h1 | ⟨h1,h2⟩
  exact h1
  exact absurd (by rw[show p.length-1=j from Z9,hg];exact h1) he
 rw[key]
 constructor
 rintro⟨⟨h1,h2,h3⟩,h4⟩;exact⟨h1,h2,h3,h4⟩
 rintro⟨h1,h2,h3,h4⟩;exact⟨⟨h1,h2,h3⟩,h4⟩
 unfold dJ aN
 rw[decide_eq_false (fun c=>h c.1),decide_eq_false (fun c=>h c.1)];rfl
def dm:List Bool->Bool->Int
 | [],_=> -1
 | x::r,b=>if x=b then 0 else if dm r b<0 then -1 else dm r b+1
theorem mu:∀ {l:List Bool} {b:Bool} {i:Nat},i<l.length->l.getD i false=b->(∀ j,j<i->l.getD j false≠b)->dm l b=i
 | [],_,_,h,_,_=>by simp at h
 | x::r,b,0,_,h,_=>by simp at h;simp[dm,h]
 | x::r,b,i+1,hl,h,hn=>by
   have h0:x≠b:=by have:=hn 0 Z9;simpa using this
   have:=mu (l:=r) (i:=i) (by simpa using hl) (by simpa using h) (fun j hj=>by have:=hn (j+1) Z9;simpa using this)
   unfold dm
   rw[if_neg h0,this,if_neg Z9];simp
theorem lH:∀ {l:List Bool} {b:Bool},(∀ j,j<l.length->l.getD j false≠b)->dm l b= -1
 | [],_,_=>rfl
 | x::r,b,hn=>by
   have h0:x≠b:=by have:=hn 0 Z8;simpa using this
   have:=lH (l:=r) (b:=b) (fun j hj=>by have:=hn (j+1) (by simpa using hj);simpa using this)
   unfold dm
   rw[if_neg h0,this];rfl
theorem mr:∀ (l:List Bool) (b:Bool),decide (0<=dm l b)=l.contains b
 | [],_=>rfl
 | x::r,b=>by
   have ih:=mr r b
   unfold dm
   by_cases h:x=b
   subst h;simp
   rw[if_neg h,List.contains_cons,show (b==x)=false from by simp;exact fun c=>h c.symm,Bool.false_or,<- ih]
   congr 1
   apply propext
   split <;> omega
theorem GM{s:BL}{come:List Bool}{j:Nat}(h:j<come.length):Ot 42 s come j=(come.getD j false||(decide (0<j)&&Ot 42 s come (j-1))):=by
 unfold Ot
 simp only[if_true]
 rw[bg h false,List.any_append]
 simp only[List.any_cons,List.any_nil,id,Bool.or_false]
 rw[Bool.or_comm]
 congr 1
 by_cases hj:0<j
 rw[show j-1+1=j from Z9,decide_eq_true hj];rfl
 rw[show j=0 from Z9];rfl
theorem BO{l:List Bool}{i:Nat}{x:Bool}(h:i<l.length):(l.set i x).getD i false=x:=by
 simp[YQ,h]
theorem By{l:List Bool}{i j:Nat}{x:Bool}(h:j≠i):(l.set i x).getD j false=l.getD j false:=by
 simp only[YQ,List.getElem?_set_ne (Ne.symm h)]
theorem Gx{s:BL}{come nx:List Bool}{c:UInt8}(h1:nx.length=s.length+1)(h2:∀ j,j<s.length+1->nx.getD j false=Ot c s come j):nx=ly s come c:=by
 apply List.ext_getElem?
 intro j
 by_cases hj:j<s.length+1
 have h3:=h2 j hj
 rw[<- lX (by omega:j<=s.length) (come:=come) (c:=c)]at h3
 have hl:=qG s come c
 rw[YQ,YQ,YX Z9,YX Z9]at h3
 rw[YX Z9,YX Z9]
 simpa using h3
 have hl:=qG s come c
 rw[List.getElem?_eq_none Z9,List.getElem?_eq_none Z9]
theorem DE{s b:BL}{i:Nat}(h:i<b.length):jm s (b.take (i+1))=ly s (jm s (b.take i)) (b.getD i 0):=by
 unfold jm;rw[bg h 0,List.foldl_append];rfl
theorem DY{p:BL}(h:dJ p=true):1<=p.length:=by
 unfold dJ at h
 simp only[YS,Zo]at h;exact h.1.1
theorem Du{p s:BL}(h:dJ p=false\/60<(s.length:Int)):cD p s=false:=by
 unfold cD
 rw[<- oY]
 rcases h with h | h
 rw[h];rfl
 rw[decide_eq_false Z9];simp
theorem xa{p s:BL}(h:dJ p=true/\(s.length:Int)<=60):cD p s=ym p s:=by
 unfold cD
 rw[<- oY,h.1,decide_eq_true Z9,KK];rfl
inductive Ln where
 | none
 | caller (n:BL)
 | PD (l:Bool) (p:BL)
 | wait (v:Nat)
def CE:Ln->Value
 | .none=>.nilIface
 | .caller n=>.iface 210 (.agg #[.string (Str n)])
 | .PD l p=>.iface 212 (.agg #[.bool l,.string (Str p)])
 | .wait v=>.iface 215 (.agg #[.int .i64 (v:Int)])
def lz(gs:List k9)(b:Bool)(n:BL):List k9×Bool:=if gs=[]\/b=true then (gs++[⟨[n],[],0⟩],false) else (cX gs fun z=>⟨z.na++[n],z.ru,z.wa⟩,b)
def jk(gs:List k9)(b:Bool)(l:Bool)(p:BL):List k9×Bool:=if gs=[] then (gs,b) else if ia gs<6 then (cX gs fun z=>⟨z.na,z.ru++[⟨l,p⟩],z.wa⟩,true) else (gs,true)
def lx(gs:List k9)(b:Bool)(v:Nat):List k9×Bool:=if gs=[] then (gs,b) else (cX gs fun z=>⟨z.na,z.ru,v⟩,true)
def fU(gs:List k9)(b:Bool):Ln->List k9×Bool
 | .none=>(gs,b)
 | .caller n=>lz gs b n
 | .PD l p=>jk gs b l p
 | .wait v=>lx gs b v
def ft(w r:BL):Ln:=if w=[99,97,108,108,101,114] then .caller r else if w=[108,101,116]\/w=[98,97,114] then .PD (w==[108,101,116]) r else if w=[119,97,105,116] then .wait (iO r 20).toNat else .none
def gT(w r:BL):Bool:=if w=[99,97,108,108,101,114] then (r==[42])||bn r else if w=[108,101,116]\/w=[98,97,114] then aN r else if w=[119,97,105,116] then true else false
def Jn(x:List k9×Bool):Prop:=0<ia x.1->x.2=true
def mE(x:List k9×Bool)(l:BL):List k9×Bool:=if gT (ae 32 l).1 (ae 32 l).2.1=true then fU x.1 x.2 (ft (ae 32 l).1 (ae 32 l).2.1) else x
theorem CV{gs:List k9}{f:k9->k9}(h:gs≠[]):ia (cX gs f)=(f (gs.getLast h)).ru.length:=by
 obtain⟨z,hz⟩:=jU h
 subst hz
 rw[dW,mB];simp
theorem step_eq{x:List k9×Bool}(hJ:Jn x)(l:BL):mE x l=cI x l/\Jn (cI x l):=by
 obtain⟨gs,b⟩:=x
 unfold mE cI
 generalize (ae 32 l).1=w
 generalize (ae 32 l).2.1=r
 unfold fm
 simp only
 by_cases h1:w=[99,97,108,108,101,114]
 subst h1
 have e1:gT [99,97,108,108,101,114] r=((r==[42])||bn r):=if_pos rfl
 have e2:ft [99,97,108,108,101,114] r=.caller r:=if_pos rfl
 rw[e1,e2]
 by_cases h2:r=[42]\/bn r=true
 have h3:((r==[42])||bn r)=true:=by simpa using h2
 rw[if_pos h3,if_pos ⟨rfl,h2⟩]
 simp only[fU,lz]
 by_cases h4:gs=[]\/b=true
 rw[if_pos h4,if_pos h4.symm]
 refine⟨rfl,?_⟩
 intro hc;simp[mB]at hc
 rw[if_neg h4,if_neg (fun c=>h4 c.symm)]
 have h5:gs≠[]/\b=false:=by simpa using h4
 refine⟨by rw[h5.2],?_⟩
 intro hc
 rw[CV h5.1]at hc
 have:0<ia gs:=by
  unfold ia
  rw[List.getLast?_eq_some_getLast h5.1];exact hc
 have:=hJ this
 simp only at this
 rw[h5.2]at this;cases this
 have h3: ¬ ((r==[42])||bn r)=true:=by simpa using h2
 rw[if_neg h3,if_neg (fun c=>h2 c.2)]
 have e3: ¬ (([99,97,108,108,101,114]:BL)=[108,101,116]\/([99,97,108,108,101,114]:BL)=[98,97,114]):=Z6
 by_cases h4:gs=[]
 rw[if_pos h4];exact⟨rfl,hJ⟩
 rw[if_neg h4,if_neg (fun c=>e3 c.1),if_neg Z6];exact⟨rfl,hJ⟩
 rw[if_neg (show ¬ (w=[99,97,108,108,101,114]/\(r=[42]\/bn r=true)) from fun c=>h1 c.1)]
 by_cases h2:w=[108,101,116]\/w=[98,97,114]
 have e1:gT w r=aN r:=by unfold gT;rw[if_neg h1,if_pos h2]
 have e2:ft w r=.PD (w==[108,101,116]) r:=by unfold ft;rw[if_neg h1,if_pos h2]
 have e3: ¬ w=[119,97,105,116]:=by rcases h2 with rfl | rfl <;> decide
 rw[e1,e2,if_neg e3]
 by_cases h4:gs=[]
 rw[if_pos h4]
 refine⟨?_,hJ⟩
 split
 simp only[fU,jk];rw[if_pos h4]
 rfl
 rw[if_neg h4]
 by_cases h5:aN r=true
 rw[if_pos h5]
 simp only[fU,jk]
 rw[if_neg h4]
 by_cases h6:ia gs<6
 rw[if_pos h6,if_pos ⟨h2,h5,h6⟩];exact⟨rfl,fun _=>rfl⟩
 rw[if_neg h6,if_neg (fun c=>h6 c.2.2)]
 have:=hJ (by simp only;omega)
 simp only at this
 rw[this];exact⟨rfl,fun _=>rfl⟩
 rw[if_neg h5,if_neg (fun c=>h5 c.2.1)];exact⟨rfl,hJ⟩
 by_cases h3:w=[119,97,105,116]
 have e1:gT w r=true:=by unfold gT;rw[if_neg h1,if_neg h2,if_pos h3]
 have e2:ft w r=.wait (iO r 20).toNat:=by unfold ft;rw[if_neg h1,if_neg h2,if_pos h3]
 rw[e1,e2,if_pos rfl]
 simp only[fU,lx]
 by_cases h4:gs=[]
 rw[if_pos h4,if_pos h4];exact⟨rfl,hJ⟩
 rw[if_neg h4,if_neg h4,if_neg (fun c=>h2 c.1),if_pos h3];exact⟨rfl,fun _=>rfl⟩
 have e1:gT w r=false:=by unfold gT;rw[if_neg h1,if_neg h2,if_neg h3]
 rw[e1,if_neg Z6]
 refine⟨?_,?_⟩
 split
 rfl
 first | rfl | (rw[if_neg (fun c=>h2 c.1)])
 split
 exact hJ
 first | exact hJ | (rw[if_neg (fun c=>h2 c.1)];exact hJ)
theorem fold_eq:∀ (ls:List BL) {x:List k9×Bool},Jn x->ls.foldl mE x=ls.foldl cI x
 | [],_,_=>rfl
 | l::ls,x,h=>by
   obtain⟨h1,h2⟩:=step_eq h l
   rw[List.foldl_cons,List.foldl_cons,h1];exact fold_eq ls h2
theorem xK(t:BL):(((ah 10 t).take 40).foldl mE ([],false)).1=cq t:=by
 unfold cq
 rw[fold_eq _ (x:=([],false)) (by intro h;simp[ia]at h)]
theorem Bx{l:List BL}{n:BL}:(l.any fun y=>y==n)=l.contains n:=by
 induction l with
 | nil=>rfl
 | cons a r ih=>rw[List.any_cons,List.contains_cons,ih,Bool.beq_comm]
theorem BN(n:BL):∀ (gs:List k9) {x:(List s6×Nat)×Bool},(gs.foldl (cm n) x).2=(x.2||gs.any fun y=>y.na.contains n)
 | [],x=>by simp
 | g::gs,x=>by
   rw[List.foldl_cons,BN n gs,List.any_cons]
   unfold cm
   rw[Bx]
   split
   rename_i h;rw[h];simp
   rename_i h;simp only[Bool.not_eq_true]at h;rw[h];simp
theorem Hs(gs:List k9)(n:BL):(OD gs n).2=gs.any fun y=>y.na.contains n:=by
 unfold OD;simp only;rw[BN];simp
def ko(gs:List k9)(n:BL):BL:=if (gs.any fun y=>y.na.contains n)=true then n else [42]
theorem Ca(gs:List k9)(n:BL):(fc gs n).ru=(gs.foldl (cm (ko gs n)) (([],0),false)).1.1/\(fc gs n).wa=(gs.foldl (cm (ko gs n)) (([],0),false)).1.2:=by
 unfold fc ko
 rw[Hs]
 split <;> exact⟨rfl,rfl⟩
theorem yF{n:BL}{x:(List s6×Nat)×Bool}{g:k9}:(cm n x g).1=if g.na.contains n=true then (x.1.1++g.ru,max x.1.2 g.wa) else x.1:=by
 unfold cm
 rw[Bx]
 split <;> rfl
theorem tZ{α:Type}{l:List α}{d:α}{p:α->Prop}(h:∀ x,x∈l->p x)(hd:p d)(i:Nat):p (l.getD i d):=by
 rw[YQ]
 cases e:l[i]? with
 | none=>exact hd
 | some x=>exact h x (Zb e)
section
variable {w w':World} {Pb Kb Pb':Nat->Prop} {N:Nat} {A A' B:AS} {a:Act} {F:l8->List Nat} {P:Program} {ops:Array Oper}
theorem fD{g o:Nat}{v:V}{vs:List V}{p:List Nat}:V.at g o (.agg (v::vs)) (0::p)=V.at g (o+0) v p:=rfl
theorem Bs{X:Type}{v:X->V}{d:Nat}{Sl Hl:List Nat}(h:d∈Sl)(fs:List Nat):Rz (fun x B=>AS.put B (some d) (v x)) fs Sl Hl where
 g:=fun g B t ht=>by rw[AS.aA,if_neg (fun c=>ht (by rw[c];exact h))]
 h:=fun g B k hk=>rfl
 c:=fun g B B' hB=>mG hB
 p:=fun g B q v' hq _=>⟨fun q2=>by
  rw[AS.aA,AS.aA,AS.aA,AS.aA]
  by_cases c:q2=d
  subst c;rw[if_pos rfl,if_neg (fun c=>hq (by rw[<- c];exact h)),if_pos rfl]
  rw[if_neg c,if_neg c],fun k=>rfl⟩
 q:=fun g B k gv hq=>⟨fun _=>rfl,fun _=>rfl⟩
def boE:Eu P where
 X:=Nat
 pre N o A Sl _:=match o.op,o.dst with
  | .buildSlice T len b9,some d=>match tD P T with
    | some (.sl e)=>match ti P e,eP A 0 b9.toList with
      | some i,some vs=>match RP P T e len i vs&&Nat.blt d N&&Nat.blt 0 len&&Sl.contains d with
        | true=>True
        | false=>False
      | _,_=>False
    | _=>False
  | _,_=>False
 U o A g B:=match o.op,o.dst with
   | .buildSlice T len b9,some d=>match tD P T with
     | some (.sl e)=>match ti P e,eP A 0 b9.toList with
       | some i,some vs=>B.put (some d) (.own i.sz vs g 0 len)
       | _,_=>B
     | _=>B
   | _,_=>B
 U0:=by
  rintro N ⟨dst,op,ty,pos,after,D2⟩ A Sl Hl hp fs
  simp only at hp
  split at hp
  rename_i T len b9 d
  split at hp
  rename_i e e1
  split at hp
  rename_i i vs e2 e3
  split at hp
  rename_i e4
  simp only[YS,Zm,Zo]at e4
  exact Bs (v:=fun g:Nat=>.own i.sz vs g 0 len) e4.2 fs
  exact hp.elim
  exact hp.elim
  exact hp.elim
  exact hp.elim
 ok:=by
  rintro N ⟨dst,op,ty,pos,after,D2⟩ A A' Sl Hl-hp hA hR
  simp only at hp
  split at hp
  rename_i T len b9 d
  split at hp
  rename_i e e1
  split at hp
  rename_i i vs e2 e3
  split at hp
  rename_i e4
  simp only[YS]at e4
  have Q8:eP A' 0 b9.toList=some vs:=by
   rw[oG b9.toList 0 fun t ht=>hA t (by simpa[Op.operands] using ht)];exact e3
  exact AI rfl rfl (bG e4.1.1.2) e1 e2 Q8 e4.1.1.1 (bG e4.1.2) fun g=>⟨g,by simp only[e1,e2,e3]⟩
  exact hp.elim
  exact hp.elim
  exact hp.elim
  exact hp.elim
theorem Dd{X:Type}{v:X->V}{d k:Nat}{p:List Nat}{Sl Hl:List Nat}(h:d∈Sl)(hk:k∈Hl)(fs:List Nat):Rz (fun x B=>AS.put (AS.setAt B (.key k) p .a8) (some d) (v x)) fs Sl Hl where
 g:=fun g B t ht=>by rw[AS.aA,if_neg (fun c=>ht (by rw[c];exact h))];exact cb
 h:=fun g B q hq=>sX (fun c=>hq (by rw[c];exact hk))
 c:=fun g B B' hB=>mG ⟨fun q=>by rw[cb,cb];exact hB.1 q,fun k=>ig hB.2⟩
 p:=fun g B q v' hq _=>⟨fun q2=>by
  rw[AS.aA,AS.aA,AS.aA]
  by_cases c:q2=d
  subst c;rw[if_pos rfl,if_neg (fun c=>hq (by rw[<- c];exact h)),if_pos rfl]
  rw[if_neg c]
  by_cases c2:q2=q
  subst c2;rw[if_pos rfl,cb,AS.aA,if_pos rfl]
  rw[if_neg c2,if_neg c,cb,cb,AS.aA,if_neg c2],fun k=>ig fun _=>rfl⟩
 q:=fun g B q gv hq=>tO (qb (fun c=>hq (by rw[c];exact hk)))
def WC(k:Nat):List Nat->List Nat
 | i::_::_=>if Nat.blt i 100=true then [100*k+i] else []
 | _=>[]
theorem IU{B:AS}{k q:Nat}{p:List Nat}{v:V}(h:q∈WC k p):MP (B.setAt (.key k) p v).h q=MP B.h q:=by
 unfold WC at h
 split at h
 rename_i i j r
 split at h
 rename_i hi
 have hi:i<100:=by simpa[Nat.blt_eq] using hi
 obtain rfl:q=100*k+i:=by simpa using h
 unfold AS.setAt
 simp only
 split
 rename_i g t e
 unfold MP
 rw[show (100*k+i) / 100=k from Z9,show (100*k+i) % 100=i from Z9]
 simp only[lk,if_true,e]
 cases t with
 | agg vs=>
   cases hx:vs[i]? with
   | none=>simp only[V.set,hx]
   | some x=>
     have hl:i<vs.length:=(Y7.1 hx).1
     have ht:∀ y,(vs.set i y).take i=vs.take i:=fun y=>List.take_set_of_le (Zg _)
     simp only[V.set,hx,V.at,List.getElem?_set_self hl,ht]
     cases x with
     | own sz xs g1 o1 c=>
       simp only[V.set]
       cases hy:xs[j]? with
       | none=>rfl
       | some y=>simp only[List.length_set]
     | agg ws=>
       simp only[V.set]
       cases hy:ws[j]? with
       | none=>rfl
       | some y=>rfl
     | _=>simp only[V.set]
 | own sz xs g1 o1 c=>
   simp only[V.set]
   cases hx:xs[i]? with
   | none=>rfl
   | some x=>
     have hl:i<xs.length:=(Y7.1 hx).1
     simp only[V.at,hx,List.getElem?_set_self hl]
     cases x with
     | own sz xs g1 o1 c=>
       simp only[V.set]
       cases hy:xs[j]? with
       | none=>rfl
       | some y=>simp only[List.length_set]
     | agg ws=>
       simp only[V.set]
       cases hy:ws[j]? with
       | none=>rfl
       | some y=>rfl
     | _=>simp only[V.set]
 | _=>simp only[V.set]
 rfl
 cases h
 cases h
def Wt(k:Nat)(p:List Nat)(xs ys:List V)(g0 o0 sz g o1 c:Nat):Eu P where
 X:=Nat×Nat×Nat
 pre N o A Sl Hl:=match o.op,o.dst with
  | .call ⟨.builtin .append,⟨[.tmp t0,x]⟩,⟨[T,T2]⟩⟩,some d=>match o.type==T&&Nat.blt d N&&Sl.contains d&&Hl.contains k,nF P T T2 with
    | true,some t=>match A.ev x with
      | .sl _ Wv=>Wv=ys/\A.get t0=.hd (.key k) p sz g o1 0 xs.length c/\A.at (.key k) p=some (g0,o0,.own sz xs g o1 c)/\sz=t.sz/\V.aE ys=false/\aJ t.sz ys/\(xs.length+ys.length)*t.L1<=140737488355328
      | _=>False
    | _,_=>False
  | _,_=>False
 U o A gh B:=match o.dst with
   | some d=>(B.setAt (.key k) p .a8).put (some d) (.own sz (xs++ys) gh.1 gh.2.1 gh.2.2)
   | none=>B
 U0:=by
  rintro N ⟨dst,op,ty,pos,after,D2⟩ A Sl Hl hp fs
  simp only at hp
  split at hp
  rename_i t0 x T T2 d
  split at hp
  rename_i t e1 e2
  simp only[YS,Zm,Zo]at e1
  exact Dd (v:=fun gh:Nat×Nat×Nat=>.own sz (xs++ys) gh.1 gh.2.1 gh.2.2) e1.1.2 e1.2 fs
  exact hp.elim
  exact hp.elim
 prom:=WC k p
 XZ:=by
  intro N o A Sl Hl _ q hq x B
  split
  exact IU hq
  rfl
 ok:=by
  rintro N ⟨dst,op,ty,pos,after,D2⟩ A A' Sl Hl-hp hA hR
  simp only at hp
  split at hp
  rename_i t0 x T T2 d
  split at hp
  rename_i t e1 e2
  split at hp
  rename_i fl Wv e3
  obtain⟨rfl,k1,k2,k3,k4,k5,k6⟩:=hp
  simp only[YS,Zp]at e1
  obtain⟨e,e',q1,q2,q3,q4,q5,q6⟩:=iI e2
  subst k3
  obtain⟨⟨⟨rfl,e5⟩,_⟩,_⟩:=e1
  have hx:A'.ev x=A.ev x:=bu fun t ht=>hA t (by subst ht;simp[Op.operands,Call.operands])
  have h0:A'.get t0=A.get t0:=hA t0 (by simp[Op.operands,Call.operands])
  refine yG rfl rfl rfl (bG e5) q1 q2 q3 (lM q4) q5 q6 (by rw[h0];exact k1) (by simp only[AS.at,hR];simpa only[AS.at] using k2) rfl rfl (by unfold Oo;rw[hx,e3]) trivial k4 k5 k6 fun g o c=>⟨(g,o,c),rfl⟩
  exact hp.elim
  exact hp.elim
  exact hp.elim
end
def DA(s:BL)(c:UInt8):o6 Tryz.prog:={ f:=115,args:=[sV s,sV [c]],pre:=True,res:=iV (Lib.indexByte s c),ok:=fun _=>Jf s c }
def HX(s:BL):o6 Tryz.prog:={ f:=83,args:=[sV s,sV [47,63]],pre:=(s.length<=1000000)/\(∀ c,c∈s->c.toNat<128),res:=iV (Lib.indexAny s [47,63]),ok:=fun h=>Kz s h.1 h.2 }
def EH(l:List BL)(sep:BL):o6 Tryz.prog:={ f:=137,args:=[ao l,sV sep],pre:=(l.length<=1000000)/\((Lib.join l sep).length<=1000000),res:=sV (Lib.join l sep),ok:=fun h=>Jq false l sep h.1 h.2 }
def nX(l:List BL)(x:BL):o6 Tryz.prog:={ f:=70,args:=[ao l,sV x],pre:=(l.length<=1000000),res:=bV (l.contains x),ok:=fun h=>JQ false l x h }
def Bc(s:BL)(c:UInt8):o6 Tryz.prog:={ f:=155,args:=[sV s,sV [c],iV 0,iV (-1)],pre:=(s.length<=1000000),res:=.sl true ((dn c s).map sV),ok:=fun h=>GN s c h }
def kb(l:List BL):o6 Tryz.prog:={ f:=106,args:=[ao l],pre:=(l.length<=1000000),res:=.ow 1 (l.map sV),ok:=fun h=>GZ false l h }
def yb(b:UInt8):o6 Tryz.prog:={ f:=178,args:=[uN b.toNat],pre:=True,res:=.tup [iV (max (cB b) 0),bV (decide (0<=cB b))],ok:=fun _=>Kh b }
abbrev oW(s:BL)(c:UInt8):V:=.tup [sV ((ae c s).1),sV ((ae c s).2.1),bV ((ae c s).2.2)]
def Bp(s:BL)(c:UInt8):o6 Tryz.prog:=.mk 81 [sV s,sV [c]] [] (s.length<=1000000) (oW s c) [] (by
 intro hs
 have Nz:([c]:BL).length=1:=rfl
 refine av (N:=23) (rs:=[.tmp 4,.tmp 5,.tmp 6]) Tryz.func81
  (.q 3<|.q 2<|.c (DA s c) []<|.q 1<|.q 2<|.br (.dx 10 [0,1,2,3,4,5,6,7,8,9] [] []<|.q 1<|.q 1<|.q 1<|.q 1<|.q 1<|.q 1<|.q 1<|.q 1<|.q 1<|.q 1<|.q 2<|.nil) (.q 4<|.nil))
  ((fun v1:Int=>((DA s c).sm/\(True)/\Br (z6 (Lib.indexByte s c) 0) (Sx (0:Int) (Lib.indexByte s c) s/\m8 ((Lib.indexByte s c)+v1)/\Sx ((Lib.indexByte s c)+v1) (s.length:Int) s/\Q (.tup [sV ((s.take (Int.toNat (Lib.indexByte s c))).drop ((0:Int).toNat)),sV ((s.take s.length).drop (Int.toNat ((Lib.indexByte s c)+v1))),bV true]) (oW s c)) (Q (.tup [sV s,sV [],bV false]) (oW s c)))) ((([c]:BL).length:Nat):Int)) ?_
 refine⟨rfl,trivial,?_⟩
 refine bI (fun j7=>?_) fun j7=>?_
 have hlt:=KG s c j7
 refine⟨Z9,Z9,Z9,?_⟩
 unfold Q oW
 rw[Hk j7,Nz,show (Lib.indexByte s c+((1:Nat):Int)).toNat=(Lib.indexByte s c).toNat+1 from Z9,List.take_length];rfl
 unfold Q oW
 rw[Jk Z9])
abbrev Cn(s:BL)(c:UInt8):V:=.tup [sV ((ae c s).1),sV ((ae c s).2.1),bV ((ae c s).2.2)]
def oe(s:BL)(c:UInt8):o6 Tryz.prog:=.mk 45 [sV s,sV [c]] [] (s.length<=1000000) (Cn s c) [] (by
 intro hs
 refine av (N:=13) (rs:=[.tmp 4,.tmp 5,.tmp 6]) Tryz.func45
  (.q 3<|.q 2<|.c (Bp s c) []<|.q 6<|.nil)
  ((Bp s c).sm/\((s.length<=1000000))/\Q (.tup [sV ((ae c s).1),sV ((ae c s).2.1),bV ((ae c s).2.2)]) (Cn s c)) ?_
 refine⟨rfl,Z5,?_⟩
 unfold Q Cn
 rfl)
def qd(s:BL)(c:UInt8):o6 Tryz.prog:=.mk 122 [sV s,sV [c]] [] (s.length<=1000000) (.sl true ((ah c s).map sV)) [] (by
 intro hs
 refine av (N:=8) (rs:=[.tmp 4]) Tryz.func122
  (.q 1<|.q 2<|.c (Bc s c) []<|.q 1<|.nil)
  ((Bc s c).sm/\((s.length<=1000000))/\Q (.sl true ((dn c s).map sV)) (.sl true ((ah c s).map sV))) ?_
 refine⟨rfl,Z5,?_⟩
 unfold Q
 rw[yr])
theorem Kj(n:Nat):(.lit (.int .u8 (Int.fdiv (n:Int) (2 ^ 4))):V)=.lit (.int .u8 ((n / 16:Nat):Int)):=by
 congr 2;rw[Int.fdiv_eq_ediv_of_nonneg _ Z6];omega
theorem HU(n:Nat):(.lit (.int .u8 ((n &&& 15:Nat):Int)):V)=.lit (.int .u8 ((n % 16:Nat):Int)):=by
 congr 3;exact Nat.and_two_pow_sub_one_eq_mod n 4
def jg(s:BL):o6 Tryz.prog:=.mk 85 [sV s] [] (s.length<=1099511627776) (sV (aT s)) [] (by
 intro hs
 refine av (N:=29) (rs:=[.tmp 2]) Tryz.func85
  (.q 1<|.q 1<|.sb s (fun g7 c7=>.q 1<|.q 3<|.loop (Nat×BL×Nat×Nat) (fun (i,l,g,k)=>⟨[(3,.own 1 (l.map n0) g 0 k),(8,.hd (.slot 3) [] 1 g 0 0 ((l.map n0).length) k),(9,iN s.length),(10,iN i)],[]⟩) (fun (i,l,g,k)=>i<=s.length/\l.length=s.length/\l=aT (s.take i)++s.drop i) (fun (i,l,g,k)=>s.length-i) (fun (i,l,g,k)=>.q 1<|.br (.r 5 [uN ((l.getD i 0).toNat)]<|.q 6<|.br (.q 4<|.h (.o4 24 (uN ((dM (l.getD i 0)).toNat)))<|.q 1<|.st (some (uN ((l.getD i 0).toNat)))<|.h (.o4 3 (.own 1 ((l.set i (dM (l.getD i 0))).map n0) g 0 k))<|.q 2<|.nil) (.q 2<|.nil)) (.q 1<|.L1 l<|.q 1<|.nil))))
  (((sV s:V)=sV s)/\∀ g7 c7:Nat,(∃ x:Nat×BL×Nat×Nat,match x with | (j6,NF,B6,s7)=>(j6<=s.length/\NF.length=s.length/\NF=aT (s.take j6)++s.drop j6)/\Q (.own 1 (s.map n0) g7 0 c7) (.own 1 (NF.map n0) B6 0 s7)/\Q (.hd (.slot 3) [] 1 g7 0 0 ((s.map n0).length) c7) (.hd (.slot 3) [] 1 B6 0 0 ((NF.map n0).length) s7)/\Q (iN ((s.map n0).length)) (iN s.length)/\Q (iN 0) (iN j6)/\True)/\∀ x:Nat×BL×Nat×Nat,match x with | (i,l,g,k)=>(i<=s.length/\l.length=s.length/\l=aT (s.take i)++s.drop i)->(fun v1:Int=>(fun v2:V=>Br (r9 (i:Int) (s.length:Int)) (In (i:Int) ((l.map n0).length)/\(V.at g 0 v2 [0+i]=some (g,(0+(0+i)*1),uN ((l.getD i 0).toNat)))/\Pk (z6 v1 65) ((z6 v1 65)==true) true/\Br ((z6 v1 65)&&(D1 v1 90)) (Px (v1+32)/\((uN (((l.getD i 0).toNat)+32):V)=uN ((dM (l.getD i 0)).toNat))/\In (i:Int) ((l.map n0).length)/\(V.at g 0 v2 [0+i]=some (g,(0+(0+i)*1),uN ((l.getD i 0).toNat)))/\(V.set v2 [0+i] (uN ((dM (l.getD i 0)).toNat))=.own 1 ((l.set i (dM (l.getD i 0))).map n0) g 0 k)/\m8 ((i:Int)+1)/\∃ x:Nat×BL×Nat×Nat,match x with | (b7,E6,s5,k₂)=>(b7<=s.length/\E6.length=s.length/\E6=aT (s.take b7)++s.drop b7)/\(s.length-b7<s.length-i)/\Q (.own 1 ((l.set i (dM (l.getD i 0))).map n0) g 0 k) (.own 1 (E6.map n0) s5 0 k₂)/\Q (.hd (.slot 3) [] 1 g 0 0 ((l.map n0).length) k) (.hd (.slot 3) [] 1 s5 0 0 ((E6.map n0).length) k₂)/\E (iN s.length)/\Q (iN (i+1)) (iN b7)/\True) (m8 ((i:Int)+1)/\∃ x:Nat×BL×Nat×Nat,match x with | (b7,E6,s5,k₂)=>(b7<=s.length/\E6.length=s.length/\E6=aT (s.take b7)++s.drop b7)/\(s.length-b7<s.length-i)/\Q v2 (.own 1 (E6.map n0) s5 0 k₂)/\Q (.hd (.slot 3) [] 1 g 0 0 ((l.map n0).length) k) (.hd (.slot 3) [] 1 s5 0 0 ((E6.map n0).length) k₂)/\E (iN s.length)/\Q (iN (i+1)) (iN b7)/\True)) (((1=1/\g=g/\0=0)/\0+((l.map n0).length)<=(l.map n0).length/\V.aE (l.map n0)=false/\aJ 1 (l.map n0))/\(((l.map n0).drop 0).take ((l.map n0).length)=l.map n0)/\Q (sV l) (sV (aT s)))) (.own 1 (l.map n0) g 0 k)) (((l.getD i 0).toNat:Nat):Int)) ?_
 refine⟨rfl,?_⟩
 intro g7 c7
 refine⟨⟨(0,s,g7,c7),?_,rfl,rfl,Z4,rfl,trivial⟩,?_⟩
 simp[aT]
 rintro⟨i,l,g,k⟩ ⟨h1,h2,h3⟩
 have hbi:=(l.getD i 0).toNat_lt
 refine bI (fun j7=>?_) fun j7=>?_
 refine⟨Z2,gz (by rw[Y0];exact aj (d:=0) Z9),⟨fun h=>by rw[h] <;> rfl,fun _=>rfl⟩,?_⟩
 refine bI (fun l6=>?_) fun l6=>?_
 refine⟨by have:=Zh (l.getD i 0);omega,(Zq uN (wX Z9).symm),Z2,gz (by rw[Y0];exact aj (d:=0) Z9),nD (by rw[Y0];exact aj (d:=0) Z9) (by rw[Y0];exact(List.map_set ..).symm),Z9,?_⟩
 refine⟨(i+1,l.set i (dM (l.getD i 0)),g,k),?_,?_,rfl,Z4,rfl,rfl,trivial⟩
 refine⟨Z9,by simp[h2],?_⟩
 exact xu Z9 h3
 exact Z1
 refine⟨Z9,?_⟩
 refine⟨(i+1,l,g,k),?_,?_,rfl,rfl,rfl,rfl,trivial⟩
 refine⟨Z9,h2,?_⟩
 exact uK Z9 h3 Z9
 exact Z1
 refine⟨⟨⟨rfl,rfl,rfl⟩,Z8,pe _,rv _⟩,by simp[Y3],?_⟩
 unfold Q
 rw[h3,Zc Z9,Y3 Z9,List.append_nil])
def uU(s:BL)(i:Nat):o6 Tryz.prog:=.mk 153 [sV s,iN i] [] ((s.length<=1000000)/\(i<s.length)) (.tup [uN ((df s i).toNat),bV (iG s i)]) [] (by
 rintro⟨hs,hi⟩
 have q1:=fL (s.getD (i+1) 0)
 have q2:=fL (s.getD (i+2) 0)
 have q3:=ik (s.getD (i+1) 0)
 have q4:=ik (s.getD (i+2) 0)
 refine av (N:=42) (rs:=[.tmp 4,.tmp 5]) Tryz.func153
  (.q 2<|.q 5<|.br (.q 2<|.nil) (.q 4<|.c (yb (s.getD (i+1) 0)) []<|.q 5<|.q 4<|.c (yb (s.getD (i+2) 0)) []<|.q 5<|.q 6<|.br (.q 2<|.nil) (.q 7<|.nil)))
  ((fun v1:V=>(fun v2:Bool=>(m8 ((s.length:Int)-(i:Int))/\Br (r9 ((s.length:Int)-(i:Int)) 3) (Q (.tup [uN 0,bV false]) v1) (m8 ((i:Int)+1)/\Ix ((i+1:Nat):Int) s/\(yb (s.getD (i+1) 0)).sm/\(True)/\m8 ((i:Int)+2)/\Ix ((i+2:Nat):Int) s/\(yb (s.getD (i+2) 0)).sm/\(True)/\Pk v2 true (v2==false)/\Br (v2||(!(decide (0<=cB (s.getD (i+2) 0))))) (Q (.tup [uN 0,bV false]) v1) (m8 ((max (cB (s.getD (i+1) 0)) 0)*16)/\m8 (((max (cB (s.getD (i+1) 0)) 0)*16)+(max (cB (s.getD (i+2) 0)) 0))/\Px (((max (cB (s.getD (i+1) 0)) 0)*16)+(max (cB (s.getD (i+2) 0)) 0))/\Q (.tup [.lit (.int .u8 (((max (cB (s.getD (i+1) 0)) 0)*16)+(max (cB (s.getD (i+2) 0)) 0))),bV true]) v1)))) (!(decide (0<=cB (s.getD (i+1) 0))))) (.tup [uN ((df s i).toNat),bV (iG s i)])) ?_
 refine⟨Z9,?_⟩
 refine bI (fun j7=>?_) fun j7=>?_
 unfold Q
 have h:iG s i=false:=by rw[<- Bool.not_eq_true,gX];omega
 rw[Aa h,h];rfl
 refine⟨Z9,Z9,rfl,trivial,Z9,Z9,rfl,trivial,⟨fun _=>rfl,fun h=>by rw[h] <;> rfl⟩,?_⟩
 refine bI (fun l6=>?_) fun l6=>?_
 unfold Q
 have h:iG s i=false:=by
  rw[<- Bool.not_eq_true,gX];grind
 rw[Aa h,h];rfl
 refine⟨by have:=fL (s.getD (i+1) 0);have:=ik (s.getD (i+1) 0);omega,by have:=fL (s.getD (i+1) 0);have:=ik (s.getD (i+1) 0);have:=fL (s.getD (i+2) 0);have:=ik (s.getD (i+2) 0);omega,by have:=fL (s.getD (i+1) 0);have:=ik (s.getD (i+1) 0);have:=fL (s.getD (i+2) 0);have:=ik (s.getD (i+2) 0);omega,?_⟩
 unfold Q
 have h:iG s i=true:=by
  rw[gX];grind
 have h1:=gX.1 h
 have h2:=tL h1.2.1 h1.2.2
 rw[qO h,h]
 show V.tup [.lit (.int .u8 _),_]=V.tup [.lit (.int .u8 _),_]
 rw[h2,Int.max_eq_left h1.2.1,Int.max_eq_left h1.2.2])
def jj(s:BL):o6 Tryz.prog:=.mk 121 [sV s] [] (s.length<=1000000) (.tup [sV ((bU s).1),bV ((bU s).2)]) [] (by
 intro hs
 have hf16:([48,49,50,51,52,53,54,55,56,57,65,66,67,68,69,70]:BL).length=16:=rfl
 refine av (N:=51) (rs:=[.tmp 2,.tmp 3]) Tryz.func121
  ((fun y1:BL=>(.q 2<|.q 3<|.br (.q 2<|.nil) (.q 1<|.q 1<|.h (.H7 4 1)<|.loop (Nat×BL×Nat×Nat×Nat) (fun (i,o,g,f,k)=>⟨[(0,sV s),(4,.own 1 (o.map n0) g f k),(5,iN i)],[]⟩) (fun (i,o,g,f,k)=>i<=s.length/\o.length<=3*i/\bN s=(bN (s.drop i)).map (o++ ·)) (fun (i,o,g,f,k)=>s.length-i) (fun (i,o,g,f,k)=>.q 4<|.br (.q 4<|.q 2<|.br (.q 2<|.c (uU s i) []<|.q 5<|.q 2<|.br (.q 2<|.nil) (.q 2<|.q 3<|.q 1<|.c (kR (df s i)) []<|.br (.q 2<|.bs<|.ap (fun NB OY Pu=>.h (.o4 39 (.own 1 ((o++[(df s i)]).map n0) NB OY Pu))<|.q 1<|.q 3<|.nil)) (.dx 8 [0,1,2,3,4,5,6,7] [] []<|.q 1<|.q 1<|.q 1<|.h (.o4 42 (uN ((df s i).toNat / 16)))<|.q 1<|.q 1<|.q 1<|.h (.o4 45 (uN ((df s i).toNat % 16)))<|.q 1<|.bs<|.ap (fun K9 K7 L0=>.h (.o4 48 (.own 1 ((o++[37,(y1.getD ((df s i).toNat / 16) 0),(y1.getD ((df s i).toNat % 16) 0)]).map n0) K9 K7 L0))<|.q 1<|.q 3<|.nil)))) (.q 1<|.c (kR (s.getD i 0)) []<|.br (.q 2<|.bs<|.ap (fun NB OY Pu=>.h (.o4 39 (.own 1 ((o++[(s.getD i 0)]).map n0) NB OY Pu))<|.q 1<|.q 3<|.nil)) (.dx 8 [0,1,2,3,4,5,6,7] [] []<|.q 1<|.q 1<|.q 1<|.h (.o4 42 (uN ((s.getD i 0).toNat / 16)))<|.q 1<|.q 1<|.q 1<|.h (.o4 45 (uN ((s.getD i 0).toNat % 16)))<|.q 1<|.bs<|.ap (fun K9 K7 L0=>.h (.o4 48 (.own 1 ((o++[37,(y1.getD ((s.getD i 0).toNat / 16) 0),(y1.getD ((s.getD i 0).toNat % 16) 0)]).map n0) K9 K7 L0))<|.q 1<|.q 3<|.nil)))) (.q 1<|.L1 o<|.q 2<|.nil))):Sc Tryz.prog)) ([48,49,50,51,52,53,54,55,56,57,65,66,67,68,69,70]:BL))
  ((fun v1:BL=>(fun v2:V=>(Br (s9 (s.length:Int) 60) (Q (.tup [sV [],bV false]) v2) ((∃ x:Nat×BL×Nat×Nat×Nat,match x with | (j6,w4,B6,A5,s7)=>(j6<=s.length/\w4.length<=3*j6/\bN s=(bN (s.drop j6)).map (w4++ ·))/\E (sV s)/\Q (.own 1 ([].map n0) 0 0 0) (.own 1 (w4.map n0) B6 A5 s7)/\Q (iN 0) (iN j6)/\True)/\∀ x:Nat×BL×Nat×Nat×Nat,match x with | (i,o,g,f,k)=>(i<=s.length/\o.length<=3*i/\bN s=(bN (s.drop i)).map (o++ ·))->(fun v3:List V=>(fun v4:List V=>(fun v5:List V=>(fun v6:List V=>(fun v7:Int=>(fun v8:Int=>Br (r9 (i:Int) (s.length:Int)) (Ix (i:Int) s/\Br (o9 v7 37) ((uU s i).sm/\((s.length<=1000000)/\(i<s.length))/\Br (!(iG s i)) (Q (.tup [sV [],bV false]) v2) (m8 ((i:Int)+2)/\(kR (df s i)).sm/\(True)/\Br (dV (df s i)) (((1,1,g,f,k,(o.map n0).length)=(1,1,g,f,k,(o.map n0).length))/\(True)/\(V.aE v6=false)/\(aJ 1 v6)/\(((o.map n0).length+v6.length)*1<=140737488355328)/\∀ NB OY Pu:Nat,((.own 1 ((o.map n0)++v6) NB OY Pu:V)=.own 1 ((o++[(df s i)]).map n0) NB OY Pu)/\m8 (((i+2:Nat):Int)+1)/\∃ x:Nat×BL×Nat×Nat×Nat,match x with | (b7,l9,s5,r4,k₂)=>(b7<=s.length/\l9.length<=3*b7/\bN s=(bN (s.drop b7)).map (l9++ ·))/\(s.length-b7<s.length-i)/\E (sV s)/\Q (.own 1 ((o++[(df s i)]).map n0) NB OY Pu) (.own 1 (l9.map n0) s5 r4 k₂)/\Q (iN ((i+2)+1)) (iN b7)/\True) (((0:Int)<=4/\(4:Int)<((8:Nat):Int))/\Q (.lit (.int .u8 (Int.fdiv v8 (2 ^ 4)))) (uN ((df s i).toNat / 16))/\Ix (((df s i).toNat / 16:Nat):Int) v1/\((0:Int)<=v8/\(0:Int)<=15/\Px v8/\Px 15)/\Q (uN (((df s i).toNat) &&& 15)) (uN ((df s i).toNat % 16))/\Ix (((df s i).toNat % 16:Nat):Int) v1/\((1,1,g,f,k,(o.map n0).length)=(1,1,g,f,k,(o.map n0).length))/\(True)/\(V.aE v4=false)/\(aJ 1 v4)/\(((o.map n0).length+v4.length)*1<=140737488355328)/\∀ K9 K7 L0:Nat,((.own 1 ((o.map n0)++v4) K9 K7 L0:V)=.own 1 ((o++[37,(v1.getD ((df s i).toNat / 16) 0),(v1.getD ((df s i).toNat % 16) 0)]).map n0) K9 K7 L0)/\m8 (((i+2:Nat):Int)+1)/\∃ x:Nat×BL×Nat×Nat×Nat,match x with | (b7,l9,s5,r4,k₂)=>(b7<=s.length/\l9.length<=3*b7/\bN s=(bN (s.drop b7)).map (l9++ ·))/\(s.length-b7<s.length-i)/\E (sV s)/\Q (.own 1 ((o++[37,(v1.getD ((df s i).toNat / 16) 0),(v1.getD ((df s i).toNat % 16) 0)]).map n0) K9 K7 L0) (.own 1 (l9.map n0) s5 r4 k₂)/\Q (iN ((i+2)+1)) (iN b7)/\True))) ((kR (s.getD i 0)).sm/\(True)/\Br (dV (s.getD i 0)) (((1,1,g,f,k,(o.map n0).length)=(1,1,g,f,k,(o.map n0).length))/\(True)/\(V.aE v5=false)/\(aJ 1 v5)/\(((o.map n0).length+v5.length)*1<=140737488355328)/\∀ NB OY Pu:Nat,((.own 1 ((o.map n0)++v5) NB OY Pu:V)=.own 1 ((o++[(s.getD i 0)]).map n0) NB OY Pu)/\m8 ((i:Int)+1)/\∃ x:Nat×BL×Nat×Nat×Nat,match x with | (b7,l9,s5,r4,k₂)=>(b7<=s.length/\l9.length<=3*b7/\bN s=(bN (s.drop b7)).map (l9++ ·))/\(s.length-b7<s.length-i)/\E (sV s)/\Q (.own 1 ((o++[(s.getD i 0)]).map n0) NB OY Pu) (.own 1 (l9.map n0) s5 r4 k₂)/\Q (iN (i+1)) (iN b7)/\True) (((0:Int)<=4/\(4:Int)<((8:Nat):Int))/\Q (.lit (.int .u8 (Int.fdiv v7 (2 ^ 4)))) (uN ((s.getD i 0).toNat / 16))/\Ix (((s.getD i 0).toNat / 16:Nat):Int) v1/\((0:Int)<=v7/\(0:Int)<=15/\Px v7/\Px 15)/\Q (uN (((s.getD i 0).toNat) &&& 15)) (uN ((s.getD i 0).toNat % 16))/\Ix (((s.getD i 0).toNat % 16:Nat):Int) v1/\((1,1,g,f,k,(o.map n0).length)=(1,1,g,f,k,(o.map n0).length))/\(True)/\(V.aE v3=false)/\(aJ 1 v3)/\(((o.map n0).length+v3.length)*1<=140737488355328)/\∀ K9 K7 L0:Nat,((.own 1 ((o.map n0)++v3) K9 K7 L0:V)=.own 1 ((o++[37,(v1.getD ((s.getD i 0).toNat / 16) 0),(v1.getD ((s.getD i 0).toNat % 16) 0)]).map n0) K9 K7 L0)/\m8 ((i:Int)+1)/\∃ x:Nat×BL×Nat×Nat×Nat,match x with | (b7,l9,s5,r4,k₂)=>(b7<=s.length/\l9.length<=3*b7/\bN s=(bN (s.drop b7)).map (l9++ ·))/\(s.length-b7<s.length-i)/\E (sV s)/\Q (.own 1 ((o++[37,(v1.getD ((s.getD i 0).toNat / 16) 0),(v1.getD ((s.getD i 0).toNat % 16) 0)]).map n0) K9 K7 L0) (.own 1 (l9.map n0) s5 r4 k₂)/\Q (iN (i+1)) (iN b7)/\True))) (((1=1/\g=g/\f=f)/\0+((o.map n0).length)<=(o.map n0).length/\V.aE (o.map n0)=false/\aJ 1 (o.map n0))/\(((o.map n0).drop 0).take ((o.map n0).length)=o.map n0)/\Q (.tup [sV o,bV true]) v2)) (((df s i).toNat:Nat):Int)) (((s.getD i 0).toNat:Nat):Int)) ([uN ((df s i).toNat)]:List V)) ([uN ((s.getD i 0).toNat)]:List V)) ([uN 37,uN ((v1.getD ((df s i).toNat / 16) 0).toNat),uN ((v1.getD ((df s i).toNat % 16) 0).toNat)]:List V)) ([uN 37,uN ((v1.getD ((s.getD i 0).toNat / 16) 0).toNat),uN ((v1.getD ((s.getD i 0).toNat % 16) 0).toNat)]:List V)))) (.tup [sV ((bU s).1),bV ((bU s).2)])) ([48,49,50,51,52,53,54,55,56,57,65,66,67,68,69,70]:BL)) ?_
 refine bI (fun j7=>?_) fun j7=>?_
 unfold Q
 rw[show bU s=([],false) from if_neg Z9]
 refine⟨⟨(0,[],0,0,0),?_,rfl,rfl,rfl,trivial⟩,?_⟩
 refine⟨Z9,Z8,?_⟩
 cases h:bN s <;> simp[h]
 rintro⟨i,o,g,f,k⟩ ⟨hi,ho,MO⟩
 refine bI (fun l6=>?_) fun l6=>?_
 refine⟨Z9,?_⟩
 refine bI (fun n6=>?_) fun n6=>?_
 refine⟨rfl,⟨Z5,Z5⟩,?_⟩
 refine bI (fun w6=>?_) fun w6=>?_
 unfold Q
 rw[show bU s=([],false) from by unfold bU;rw[MO,yL Z9 Z9 (by have:=gX (s:=s) (i:=i);grind)];simp]
 refine⟨Z9,rfl,trivial,?_⟩
 refine bI (fun G8=>?_) fun G8=>?_
 refine⟨rfl,trivial,rfl,by simp[aJ,V.n,V.ns],Z0,?_⟩
 intro NB OY Pu
 refine⟨Zq (V.own 1 · NB OY Pu) (by rw[Zf];rfl),Z9,?_⟩
 refine⟨((i+2)+1,o++[(df s i)],NB,OY,Pu),?_,?_,rfl,rfl,rfl,trivial⟩
 have sg:=gX.1 w6
 rw[qO w6]at *
 have he:eK (dh (s.getD (i+1) 0) (s.getD (i+2) 0))=[(dh (s.getD (i+1) 0) (s.getD (i+2) 0))]:=by unfold eK;rw[if_pos G8]
 have hl:=eU (dh (s.getD (i+1) 0) (s.getD (i+2) 0))
 rw[he]at hl
 refine⟨Z9,Z0,?_⟩
 rw[MO,pV Z9 Z9 Z9 Z9,he]
 cases bN (s.drop (i+3)) <;> simp[eY,kg]
 exact Z1
 refine⟨Z9,by unfold Q;exact Kj _,by have:=Zh (df s i);omega,by have:=Zh (df s i);omega,by unfold Q;exact HU _,by have:=Zh (df s i);omega,rfl,trivial,rfl,by simp[aJ,V.n,V.ns],Z0,?_⟩
 intro K9 K7 L0
 refine⟨Zq (V.own 1 · K9 K7 L0) (by rw[Zf];rfl),Z9,?_⟩
 refine⟨((i+2)+1,o++[37,(([48,49,50,51,52,53,54,55,56,57,65,66,67,68,69,70]:BL).getD ((df s i).toNat / 16) 0),(([48,49,50,51,52,53,54,55,56,57,65,66,67,68,69,70]:BL).getD ((df s i).toNat % 16) 0)],K9,K7,L0),?_,?_,rfl,rfl,rfl,trivial⟩
 have sg:=gX.1 w6
 rw[qO w6]at *
 have he:eK (dh (s.getD (i+1) 0) (s.getD (i+2) 0))=eY (dh (s.getD (i+1) 0) (s.getD (i+2) 0)):=by unfold eK;rw[if_neg (by rw[G8];decide)]
 have hl:=eU (dh (s.getD (i+1) 0) (s.getD (i+2) 0))
 rw[he]at hl
 refine⟨Z9,Z0,?_⟩
 rw[MO,pV Z9 Z9 Z9 Z9,he]
 cases bN (s.drop (i+3)) <;> simp[eY,kg]
 exact Z1
 refine⟨rfl,trivial,?_⟩
 refine bI (fun NK=>?_) fun NK=>?_
 refine⟨rfl,trivial,rfl,by simp[aJ,V.n,V.ns],Z0,?_⟩
 intro NB OY Pu
 refine⟨Zq (V.own 1 · NB OY Pu) (by rw[Zf];rfl),Z9,?_⟩
 refine⟨(i+1,o++[(s.getD i 0)],NB,OY,Pu),?_,?_,rfl,rfl,rfl,trivial⟩
 have he:eK (s.getD i 0)=[(s.getD i 0)]:=by unfold eK;rw[if_pos NK]
 have hl:=eU (s.getD i 0)
 rw[he]at hl
 refine⟨Z9,Z0,?_⟩
 rw[MO,nO Z9 Z9,he]
 cases bN (s.drop (i+1)) <;> simp[eY,kg]
 exact Z1
 refine⟨Z9,by unfold Q;exact Kj _,by have:=Zh (s.getD i 0);omega,by have:=Zh (s.getD i 0);omega,by unfold Q;exact HU _,by have:=Zh (s.getD i 0);omega,rfl,trivial,rfl,by simp[aJ,V.n,V.ns],Z0,?_⟩
 intro K9 K7 L0
 refine⟨Zq (V.own 1 · K9 K7 L0) (by rw[Zf];rfl),Z9,?_⟩
 refine⟨(i+1,o++[37,(([48,49,50,51,52,53,54,55,56,57,65,66,67,68,69,70]:BL).getD ((s.getD i 0).toNat / 16) 0),(([48,49,50,51,52,53,54,55,56,57,65,66,67,68,69,70]:BL).getD ((s.getD i 0).toNat % 16) 0)],K9,K7,L0),?_,?_,rfl,rfl,rfl,trivial⟩
 have he:eK (s.getD i 0)=eY (s.getD i 0):=by unfold eK;rw[if_neg (by rw[NK];decide)]
 have hl:=eU (s.getD i 0)
 rw[he]at hl
 refine⟨Z9,Z0,?_⟩
 rw[MO,nO Z9 Z9,he]
 cases bN (s.drop (i+1)) <;> simp[eY,kg]
 exact Z1
 refine⟨⟨⟨rfl,rfl,rfl⟩,Z8,pe _,rv _⟩,by simp[Y3],?_⟩
 unfold Q
 rw[Zc Z9]at MO
 rw[show bU s=(o,true) from by unfold bU;rw[MO,if_pos Z9];simp[bN]])
def rf(ps:List BL):o6 Tryz.prog:=.mk 123 [ao ps] [] (ps.length<=1099511627776) (ao (bX ps)) [] (by
 intro hs
 refine av (N:=32) (rs:=[.tmp 2]) Tryz.func123
  (.q 1<|.q 1<|.q 3<|.h (.H7 3 1)<|.loop (Nat×(List BL)×Nat×Nat×Nat) (fun (i,o,g,f,k)=>⟨[(6,ao ps),(7,iN ps.length),(8,iN i),(3,.own 1 (o.map sV) g f k)],[]⟩) (fun (i,o,g,f,k)=>i<=ps.length/\o=bX (ps.take i)/\o.length<=i) (fun (i,o,g,f,k)=>ps.length-i) (fun (i,o,g,f,k)=>.q 1<|.br (.r 3 [sV (ps.getD i [])]<|.q 1<|.q 2<|.join (Bool) (fun c=>⟨[(6,ao ps),(7,iN ps.length),(8,iN i),(3,.own 1 (o.map sV) g f k),(9,bV (r9 (i:Int) (ps.length:Int))),(10,.ep (sV (ps.getD i []))),(11,sV (ps.getD i [])),(5,sV (ps.getD i [])),(12,sV (ps.getD i [])),(14,bV ((ps.getD i [])==[])),(13,bV c)],[]⟩) (fun c=>c=decide (ps.getD i []=[]\/ps.getD i []=[46])) (.nil) (.q 2<|.nil) (fun c=>.br (.q 2<|.nil) (.q 2<|.br (.q 3<|.br (.q 5<|.rs<|.h (.o4 3 (.own 1 (o.dropLast.map sV) g (f+(0+((0:Int).toNat))*1) (k-((0:Int).toNat))))<|.q 2<|.nil) (.q 2<|.nil)) (.q 2<|.bs<|.ap (fun Th SC Tu=>.h (.o4 29 (.own 1 ((o++[(ps.getD i [])]).map sV) Th SC Tu))<|.q 1<|.q 2<|.nil))))) (.h (.fz 3)<|.h (.o4 3 (ao o))<|.q 2<|.nil)))
  ((∃ x:Nat×(List BL)×Nat×Nat×Nat,match x with | (j6,w4,B6,A5,s7)=>(j6<=ps.length/\w4=bX (ps.take j6)/\w4.length<=j6)/\E (ao ps)/\Q (iN ((ps.map sV).length)) (iN ps.length)/\Q (iN 0) (iN j6)/\Q (.own 1 ([].map sV) 0 0 0) (.own 1 (w4.map sV) B6 A5 s7)/\True)/\∀ x:Nat×(List BL)×Nat×Nat×Nat,match x with | (i,o,g,f,k)=>(i<=ps.length/\o=bX (ps.take i)/\o.length<=i)->(fun v1:Int=>(fun v2:V=>(fun v3:List V=>(fun v4:V=>(fun v5:Bool=>Br v5 (Ex (i:Int) (ps.map sV) v2/\True/\(((ps.getD i [])==[])=true->∃ c:Bool,(c=decide (ps.getD i []=[]\/ps.getD i []=[46]))/\E (ao ps)/\E (iN ps.length)/\E (iN i)/\E v4/\E (bV v5)/\E (.ep v2)/\E v2/\E v2/\E v2/\E (bV ((ps.getD i [])==[]))/\Q (bV ((ps.getD i [])==[])) (bV c)/\True)/\(((ps.getD i [])==[])=false->∃ c:Bool,(c=decide (ps.getD i []=[]\/ps.getD i []=[46]))/\E (ao ps)/\E (iN ps.length)/\E (iN i)/\E v4/\E (bV v5)/\E (.ep v2)/\E v2/\E v2/\E v2/\E (bV ((ps.getD i [])==[]))/\Q (bV ((ps.getD i [])==([46]:BL))) (bV c)/\True)/\(∀ c:Bool,(c=decide (ps.getD i []=[]\/ps.getD i []=[46]))->Br c (m8 ((i:Int)+1)/\∃ x:Nat×(List BL)×Nat×Nat×Nat,match x with | (b7,l9,s5,r4,k₂)=>(b7<=ps.length/\l9=bX (ps.take b7)/\l9.length<=b7)/\(ps.length-b7<ps.length-i)/\E (ao ps)/\E (iN ps.length)/\Q (iN (i+1)) (iN b7)/\Q v4 (.own 1 (l9.map sV) s5 r4 k₂)/\True) (Br ((ps.getD i [])==([46,46]:BL)) (Br (s9 v1 0) (m8 (v1-1)/\((0:Int)<=(0:Int)/\(0:Int)<=(v1-1)/\(v1-1)<=((o.map sV).length)/\1=1)/\((3,1,g,f)=(3,1,g,f))/\((0+((0:Int).toNat))+((Int.toNat (v1-1))-((0:Int).toNat))<=(o.map sV).length/\(0+((0:Int).toNat))+(k-((0:Int).toNat))<=k/\V.aE (o.map sV)=false)/\((.own 1 (((o.map sV).drop (0+((0:Int).toNat))).take ((Int.toNat (v1-1))-((0:Int).toNat))) g (f+(0+((0:Int).toNat))*1) (k-((0:Int).toNat)):V)=.own 1 (o.dropLast.map sV) g (f+(0+((0:Int).toNat))*1) (k-((0:Int).toNat)))/\m8 ((i:Int)+1)/\∃ x:Nat×(List BL)×Nat×Nat×Nat,match x with | (b7,l9,s5,r4,k₂)=>(b7<=ps.length/\l9=bX (ps.take b7)/\l9.length<=b7)/\(ps.length-b7<ps.length-i)/\E (ao ps)/\E (iN ps.length)/\Q (iN (i+1)) (iN b7)/\Q (.own 1 (o.dropLast.map sV) g (f+(0+((0:Int).toNat))*1) (k-((0:Int).toNat))) (.own 1 (l9.map sV) s5 r4 k₂)/\True) (m8 ((i:Int)+1)/\∃ x:Nat×(List BL)×Nat×Nat×Nat,match x with | (b7,l9,s5,r4,k₂)=>(b7<=ps.length/\l9=bX (ps.take b7)/\l9.length<=b7)/\(ps.length-b7<ps.length-i)/\E (ao ps)/\E (iN ps.length)/\Q (iN (i+1)) (iN b7)/\Q v4 (.own 1 (l9.map sV) s5 r4 k₂)/\True)) (((1,1,g,f,k,(o.map sV).length)=(1,1,g,f,k,(o.map sV).length))/\(True)/\(V.aE v3=false)/\(aJ 1 v3)/\(((o.map sV).length+v3.length)*16<=140737488355328)/\∀ Th SC Tu:Nat,((.own 1 ((o.map sV)++v3) Th SC Tu:V)=.own 1 ((o++[(ps.getD i [])]).map sV) Th SC Tu)/\m8 ((i:Int)+1)/\∃ x:Nat×(List BL)×Nat×Nat×Nat,match x with | (b7,l9,s5,r4,k₂)=>(b7<=ps.length/\l9=bX (ps.take b7)/\l9.length<=b7)/\(ps.length-b7<ps.length-i)/\E (ao ps)/\E (iN ps.length)/\Q (iN (i+1)) (iN b7)/\Q (.own 1 ((o++[(ps.getD i [])]).map sV) Th SC Tu) (.own 1 (l9.map sV) s5 r4 k₂)/\True)))) (((.sl false (V.B8 (o.map sV)):V)=ao o)/\Q (ao o) (ao (bX ps)))) (r9 (i:Int) (ps.length:Int))) (.own 1 (o.map sV) g f k)) ([sV (ps.getD i [])]:List V)) (sV (ps.getD i []))) (((o.map sV).length:Nat):Int)) ?_
 refine⟨⟨(0,[],0,0,0),?_,rfl,Z4,rfl,rfl,trivial⟩,?_⟩
 simp[bX]
 rintro⟨i,o,g,f,k⟩ ⟨h1,h2,h3⟩
 refine bI (fun j7=>?_) fun j7=>?_
 · refine⟨⟨Z9,aj (d:=[]) Z9⟩,trivial,?_⟩
   refine⟨fun l6=>?_,fun l6=>?_,fun c hc=>?_⟩
   · try simp only[nb]at l6
     exact⟨(ps.getD i [])==[],by first | (rw[Za];simp_all;done) | grind,rfl,rfl,rfl,rfl,rfl,rfl,rfl,rfl,rfl,rfl,rfl,trivial⟩
   · try simp only[nb]at l6
     exact⟨(ps.getD i [])==([46]:BL),by first | (rw[Za];simp_all;done) | grind,rfl,rfl,rfl,rfl,rfl,rfl,rfl,rfl,rfl,rfl,rfl,trivial⟩
   refine bI (fun n6=>?_) fun n6=>?_
   refine⟨Z9,?_⟩
   refine⟨(i+1,o,g,f,k),?_,?_,rfl,rfl,rfl,rfl,trivial⟩
   refine⟨Z9,?_,Z9⟩
   rw[gW Z9,<- h2,cR,if_pos (by grind)]
   exact Z1
   refine bI (fun w6=>?_) fun w6=>?_
   refine bI (fun G8=>?_) fun G8=>?_
   refine⟨Z2,⟨Z8,Z0,Z0,rfl⟩,rfl,⟨by simp <;> omega,Z8,cN (fun _=>rfl) _⟩,Zq (V.own 1 · g (f+(0+((0:Int).toNat))*1) (k-((0:Int).toNat))) (by rw[show (0+Int.toNat 0)=0 from rfl,List.drop_zero,<- List.map_take,List.dropLast_eq_take];congr 2;first | (solve | simp) | (simp;omega)),Z9,?_⟩
   refine⟨(i+1,o.dropLast,g,f+(0+((0:Int).toNat))*1,k-((0:Int).toNat)),?_,?_,rfl,rfl,rfl,rfl,trivial⟩
   refine⟨Z9,?_,Z0⟩
   rw[gW Z9,<- h2,cR,if_neg (by grind),if_pos (by grind)]
   exact Z1
   refine⟨Z9,?_⟩
   refine⟨(i+1,o,g,f,k),?_,?_,rfl,rfl,rfl,rfl,trivial⟩
   refine⟨Z9,?_,Z9⟩
   rw[gW Z9,<- h2,cR,if_neg (by grind),if_pos (by grind)]
   have:o=[]:=Y9 (by simp at *;omega)
   rw[this];rfl
   exact Z1
   refine⟨rfl,trivial,rfl,by simp[aJ,V.n,V.ns],Z0,?_⟩
   intro Th SC Tu
   refine⟨Zq (V.own 1 · Th SC Tu) Z8,Z9,?_⟩
   refine⟨(i+1,o++[(ps.getD i [])],Th,SC,Tu),?_,?_,rfl,rfl,rfl,rfl,trivial⟩
   refine⟨Z9,?_,Z0⟩
   rw[gW Z9,<- h2,cR,if_neg (by grind),if_neg (by grind)]
   exact Z1
 refine⟨Zq (V.sl false) (aM (fun _=>rfl) _),?_⟩
 unfold Q
 rw[h2,Y3 Z9])
def mg(s:BL):o6 Tryz.prog:=.mk 140 [sV s] [] (s.length<=1000000) (bV (eW s)) [] (by
 intro hs
 refine av (N:=16) (rs:=[.tmp 2]) Tryz.func140
  (.q 1<|.q 1<|.c (jj s) []<|.q 5<|.q 7<|.nil)
  ((jj s).sm/\((s.length<=1000000))/\Pk ((bU s).2) (((bU s).2)==true) true/\Q (bV (((bU s).2)&&(((bU s).1)==s))) (bV (eW s))) ?_
 refine⟨rfl,Z5,⟨fun h=>by rw[h] <;> rfl,fun _=>rfl⟩,?_⟩
 unfold Q
 rfl)
def lK(a:r8):o6 Tryz.prog:=.mk 101 [bF a.c5 a.b9 a.asks a.ask] [] (cP a) (sV (bj a)) [] (by
 intro ha
 have hj:=ha.join
 obtain⟨z1,z2,z3,z4⟩:=ha
 rw[<- vF]at hj
 refine av (N:=16) (rs:=[.tmp 2]) Tryz.func101
  (.bx (fun g1=>.q 1<|.r 2 [.a8]<|.c (EH a.b9 ([47]:BL)) []<|.q 2<|.r 2 [.a8]<|.br (.r 6 [.a8]<|.q 2<|.nil) (.q 2<|.nil)))
  ((fun v1:BL=>(∀ g1:Nat,Z g1 1/\(EH a.b9 v1).sm/\((a.b9.length<=1000000)/\((Lib.join a.b9 v1).length<=1000000))/\(v1.length+(Lib.join a.b9 v1).length<=4611686018427387904)/\Z g1 2/\Br a.asks (Z g1 3/\(([63]:BL).length+a.ask.length<=4611686018427387904)/\((v1++(Lib.join a.b9 v1)).length+(([63]:BL)++a.ask).length<=4611686018427387904)/\Q (sV ((v1++(Lib.join a.b9 v1))++(([63]:BL)++a.ask))) (sV (bj a))) (Q (sV (v1++(Lib.join a.b9 v1))) (sV (bj a))))) ([47]:BL)) ?_
 intro g1
 refine⟨rfl,rfl,⟨Z5,Z5⟩,Z3,rfl,?_⟩
 refine bI (fun j7=>?_) fun j7=>?_
 refine⟨rfl,Z3,Z3,?_⟩
 unfold Q
 rw[vF]
 unfold bj;rw[if_pos (by simpa using j7)] <;> simp[List.append_assoc]
 unfold Q
 rw[vF]
 unfold bj;rw[if_neg (by simpa using j7)];simp)
def iq(a:r8):o6 Tryz.prog:=.mk 68 [bF a.c5 a.b9 a.asks a.ask] [] (cP a) (sV (cJ a)) [] (by
 intro ha
 have hp:=ha.path
 have h1:=ha.1
 refine av (N:=9) (rs:=[.tmp 2]) Tryz.func68
  (.bx (fun g1=>.q 1<|.dx 6 [0,1,2,3,4,5] [(1,⟨false,[],some [1],[4],[]⟩),(3,⟨false,[],some [1],[6],[]⟩)] []<|.q 1<|.r 1 [.a8]<|.q 1<|.r 1 [.a8]<|.c (lK a) []<|.q 1<|.q 1<|.nil))
  (∀ g1:Nat,Z g1 0/\(([47,47]:BL).length+a.c5.length<=4611686018427387904)/\Z g1 0/\(lK a).sm/\((cP a))/\((([47,47]:BL)++a.c5).length+(bj a).length<=4611686018427387904)/\Q (sV ((([47,47]:BL)++a.c5)++(bj a))) (sV (cJ a))) ?_
 intro g1
 refine⟨rfl,Z3,rfl,rfl,Z5,Z3,?_⟩
 unfold Q
 rfl)
def fC(a:r8):o6 Tryz.prog:=.mk 104 [bF a.c5 a.b9 a.asks a.ask] [] (cP a) (bV (aG a)) [] (by
 intro ha
 have ht:=ha.text
 obtain⟨z1,z2,z3,z4⟩:=id ha
 refine av (N:=56) (rs:=[.tmp 2]) Tryz.func104
  (.bx (fun g1=>.q 1<|.r 2 [.a8]<|.c (oq a.c5) []<|.r 7 [.a8]<|.br (.q 1<|.nil) (.r 4 [.a8]<|.loop (Nat) (fun (i:Nat)=>⟨[(1,.ptr (.key 1) [] g1 0),(16,ao a.b9),(17,iN a.b9.length),(18,iN i)],[(1,(g1,bF a.c5 a.b9 a.asks a.ask))]⟩) (fun (i:Nat)=>i<=a.b9.length/\∀ j,j<i->ej (a.b9.getD j [])=true) (fun (i:Nat)=>a.b9.length-i) (fun (i:Nat)=>.q 1<|.br (.r 3 [sV (a.b9.getD i [])]<|.q 12<|.cg (mg (a.b9.getD i []))<|.q 2<|.br (.q 1<|.nil) (.q 2<|.nil)) (.r 2 [.a8]<|.c (mg a.ask) []<|.r 11 [.a8,.a8]<|.br (.q 1<|.nil) (.r 1 [.a8]<|.c (iq a) []<|.q 3<|.nil))))))
  ((fun v1:Bool=>(fun v2:BL=>(fun v3:BL=>(fun v4:Bool=>(∀ g1:Nat,Z g1 0/\(oq a.c5).sm/\((a.c5.length<=4611686018427387904))/\Gd (v4==false) (Z g1 1)/\Pk v4 true (v4==false)/\Br (v4||(s9 (((a.b9.map sV).length:Nat):Int) 5)) (Q (bV false) (bV (aG a))) (Z g1 1/\(∃ j6:Nat,(j6<=a.b9.length/\∀ j,j<j6->ej (a.b9.getD j [])=true)/\E (.ptr (.key 1) [] g1 0)/\E (ao a.b9)/\Q (iN ((a.b9.map sV).length)) (iN a.b9.length)/\Q (iN 0) (iN j6)/\Er g1 (bF a.c5 a.b9 a.asks a.ask)/\True)/\∀ i:Nat,(i<=a.b9.length/\∀ j,j<i->ej (a.b9.getD j [])=true)->(fun v5:Bool=>Br (r9 (i:Int) (a.b9.length:Int)) (Ex (i:Int) (a.b9.map sV) (sV (a.b9.getD i []))/\True/\Pk ((a.b9.getD i [])==[]) true (((a.b9.getD i [])==[])==false)/\Pk (((a.b9.getD i [])==[])||((a.b9.getD i [])==v2)) true ((((a.b9.getD i [])==[])||((a.b9.getD i [])==v2))==false)/\Gd v5 ((((a.b9.getD i []).length<=1000000))/\(mg (a.b9.getD i [])).sm)/\Pk ((((a.b9.getD i [])==[])||((a.b9.getD i [])==v2))||((a.b9.getD i [])==v3)) true v5/\Br (((((a.b9.getD i [])==[])||((a.b9.getD i [])==v2))||((a.b9.getD i [])==v3))||(!(eW (a.b9.getD i [])))) (Q (bV false) (bV (aG a))) (m8 ((i:Int)+1)/\∃ b7:Nat,(b7<=a.b9.length/\∀ j,j<b7->ej (a.b9.getD j [])=true)/\(a.b9.length-b7<a.b9.length-i)/\E (.ptr (.key 1) [] g1 0)/\E (ao a.b9)/\E (iN a.b9.length)/\Q (iN (i+1)) (iN b7)/\Er g1 (bF a.c5 a.b9 a.asks a.ask)/\True)) (Z g1 3/\(mg a.ask).sm/\((a.ask.length<=1000000))/\Gd v1 (Z g1 2)/\Gd (v1&&((!a.asks)==true)) (Z g1 3)/\Gd v1 (Pk (!a.asks) (v1&&((!a.asks)==true)) true)/\Pk (!(eW a.ask)) true v1/\Br ((!(eW a.ask))||((!a.asks)&&(!(a.ask==[])))) (Q (bV false) (bV (aG a))) (Z g1 0/\(iq a).sm/\((cP a))/\Q (bV (D1 (((cJ a).length:Nat):Int) 60)) (bV (aG a))))) (((((a.b9.getD i [])==[])||((a.b9.getD i [])==v2))||((a.b9.getD i [])==v3))==false)))) (!(cM a.c5))) ([46,46]:BL)) ([46]:BL)) ((!(eW a.ask))==false)) ?_
 intro g1
 refine⟨rfl,rfl,Z5,fun hG=>rfl,⟨fun _=>rfl,fun h=>by rw[h] <;> rfl⟩,?_⟩
 refine bI (fun j7=>?_) fun j7=>?_
 unfold Q
 refine Zq bV ?_
 unfold aG
 grind
 refine⟨rfl,?_⟩
 refine⟨⟨0,?_,rfl,rfl,Z4,rfl,rfl,trivial⟩,?_⟩
 simp
 rintro i ⟨h1,h2⟩
 have XV:=z4 i
 refine bI (fun l6=>?_) fun l6=>?_
 refine⟨⟨Z9,aj (d:=[]) Z9⟩,trivial,⟨fun _=>rfl,fun h=>by rw[h] <;> rfl⟩,⟨fun _=>rfl,fun h=>by rw[h] <;> rfl⟩,fun hG=>⟨by(try simp only[nb]at hG);first | assumption | omega | (simp;omega),rfl⟩,⟨fun _=>rfl,fun h=>by rw[h] <;> rfl⟩,?_⟩
 refine bI (fun n6=>?_) fun n6=>?_
 unfold Q
 refine Zq bV ?_
 unfold aG
 rw[all_false (i:=i) (d:=[]) Z9 (by simp only[ej];grind)];simp
 refine⟨Z9,?_⟩
 refine⟨i+1,?_,?_,rfl,rfl,rfl,rfl,rfl,trivial⟩
 refine⟨Z9,bS h2 ?_⟩
 simp only[ej];grind
 exact Z1
 refine⟨rfl,rfl,Z5,fun hG=>rfl,fun hG=>rfl,fun hG=>⟨fun h=>by rw[h];exact(YS _ _).mpr ⟨hG,rfl⟩,fun _=>rfl⟩,⟨fun _=>rfl,fun h=>by rw[h] <;> rfl⟩,?_⟩
 refine bI (fun w6=>?_) fun w6=>?_
 unfold Q
 refine Zq bV ?_
 unfold aG
 rw[all_true (d:=[]) (fun j hj=>h2 j Z9)]
 grind
 refine⟨rfl,rfl,by first | assumption | exact kF _,?_⟩
 unfold Q
 refine Zq bV ?_
 unfold aG
 rw[all_true (d:=[]) (fun j hj=>h2 j Z9)]
 grind)
abbrev fP(d:BL)(fr:List BL)(n8:BL):V:=.tup [bF ((oA (cy d fr n8)).c5) ((oA (cy d fr n8)).b9) ((oA (cy d fr n8)).asks) ((oA (cy d fr n8)).ask),bV ((cy d fr n8).isSome)]
abbrev jf(d:BL)(fr:List BL)(n8:BL)(i:Nat)(o:List BL)(g:Nat)(f:Nat)(k:Nat):Prop:=i<=(ah 47 (ae 63 n8).1).length/\o=fr++((ah 47 (ae 63 n8).1).take i).map eN/\((ah 47 (ae 63 n8).1).take i).all fj=true
def fA(d:BL)(fr:List BL)(n8:BL):o6 Tryz.prog:=.mk 84 [sV d,ao fr,sV n8] [] ((d.length<=1000)/\(∀ i,(fr.getD i []).length<=1000)/\(fr.length<=100)/\(n8.length<=300)) (fP d fr n8) [] (by
 rintro⟨hh,hf,hl,hw⟩
 have Ni:=lN 63 n8
 have W7:=rm 47 (ae 63 n8).1
 refine av (N:=65) (rs:=[.cell 6 52,.tmp 7]) Tryz.func84
  (.al dg (fun g6=>.q 1<|.q 1<|.c (oe n8 63) []<|.q 7<|.q 1<|.c (jj ((ae 63 n8).2.1)) []<|.q 5<|.q 2<|.br (.bd dg<|.st none<|.q 1<|.nil) (.q 1<|.c (kb fr) []<|.ot 33 (fun Wq V4 Ws=>.q 1<|.q 1<|.c (qd ((ae 63 n8).1) 47) []<|.q 2<|.loop (Nat×(List BL)×Nat×Nat×Nat) (fun (i,o,g,f,k)=>⟨[(0,sV d),(6,.ptr (.key 6) [] g6 0),(9,sV ((bU (ae 63 n8).2.1).1)),(10,bV ((ae 63 n8).2.2)),(12,.own 1 (o.map sV) g f k),(35,.sl true ((ah 47 (ae 63 n8).1).map sV)),(36,iN ((ah 47 (ae 63 n8).1).length)),(37,iN i)],[(6,(g6,fY (.sl true [])))]⟩) (fun (i,o,g,f,k)=>jf d fr n8 i o g f k) (fun (i,o,g,f,k)=>(ah 47 (ae 63 n8).1).length-i) (fun (i,o,g,f,k)=>.q 1<|.br (.r 3 [sV ((ah 47 (ae 63 n8).1).getD i [])]<|.q 1<|.c (jj ((ah 47 (ae 63 n8).1).getD i [])) []<|.q 5<|.q 2<|.br (.bd dg<|.st none<|.q 1<|.nil) (.q 2<|.bs<|.ap (fun Te Sz Tr=>.h (.o4 52 (.own 1 ((o++[(bU ((ah 47 (ae 63 n8).1).getD i [])).1]).map sV) Te Sz Tr))<|.q 1<|.q 2<|.nil))) (.h (.fz 12)<|.h (.o4 12 (ao o))<|.q 2<|.c (rf o) []<|.q 2<|.bd dg<|.al dg (fun g17=>.st none<|.r 1 [.a8]<|.c (fC (⟨d,bX o,(ae 63 n8).2.2,(bU (ae 63 n8).2.1).1⟩:r8)) []<|.q 1<|.br (.bd dg<|.st none<|.q 1<|.nil) (.r 1 [.a8]<|.st none<|.q 1<|.nil))))))))
  ((fun v1:V=>(∀ g6:Nat,(oe n8 63).sm/\((n8.length<=1000000))/\(jj ((ae 63 n8).2.1)).sm/\((((ae 63 n8).2.1).length<=1000000))/\Br (!((bU ((ae 63 n8).2.1)).2)) (Z g6 0/\(g6=g6)/\Q v1 (fP d fr n8)) ((kb fr).sm/\((fr.length<=1000000))/\∀ Wq V4 Ws:Nat,(qd ((ae 63 n8).1) 47).sm/\((((ae 63 n8).1).length<=1000000))/\(∃ x:Nat×(List BL)×Nat×Nat×Nat,match x with | (j6,w4,B6,A5,s7)=>(jf d fr n8 j6 w4 B6 A5 s7)/\E (sV d)/\E (.ptr (.key 6) [] g6 0)/\Q (sV ((bU ((ae 63 n8).2.1)).1)) (sV ((bU (ae 63 n8).2.1).1))/\E (bV ((ae 63 n8).2.2))/\Q (.own 1 (fr.map sV) Wq V4 Ws) (.own 1 (w4.map sV) B6 A5 s7)/\Q (.sl true ((ah 47 ((ae 63 n8).1)).map sV)) (.sl true ((ah 47 (ae 63 n8).1).map sV))/\Q (iN (((ah 47 ((ae 63 n8).1)).map sV).length)) (iN ((ah 47 (ae 63 n8).1).length))/\Q (iN 0) (iN j6)/\Er g6 (fY (.sl true []))/\True)/\∀ x:Nat×(List BL)×Nat×Nat×Nat,match x with | (i,o,g,f,k)=>(jf d fr n8 i o g f k)->(fun v2:List V=>Br (r9 (i:Int) (((ah 47 (ae 63 n8).1).length:Nat):Int)) (Ex (i:Int) ((ah 47 (ae 63 n8).1).map sV) (sV ((ah 47 (ae 63 n8).1).getD i []))/\True/\(jj ((ah 47 (ae 63 n8).1).getD i [])).sm/\((((ah 47 (ae 63 n8).1).getD i []).length<=1000000))/\Br (!((bU ((ah 47 (ae 63 n8).1).getD i [])).2)) (Z g6 0/\(g6=g6)/\Q v1 (fP d fr n8)) (((1,1,g,f,k,(o.map sV).length)=(1,1,g,f,k,(o.map sV).length))/\(True)/\(V.aE v2=false)/\(aJ 1 v2)/\(((o.map sV).length+v2.length)*16<=140737488355328)/\∀ Te Sz Tr:Nat,((.own 1 ((o.map sV)++v2) Te Sz Tr:V)=.own 1 ((o++[(bU ((ah 47 (ae 63 n8).1).getD i [])).1]).map sV) Te Sz Tr)/\m8 ((i:Int)+1)/\∃ x:Nat×(List BL)×Nat×Nat×Nat,match x with | (b7,l9,s5,r4,k₂)=>(jf d fr n8 b7 l9 s5 r4 k₂)/\((ah 47 (ae 63 n8).1).length-b7<(ah 47 (ae 63 n8).1).length-i)/\E (sV d)/\E (.ptr (.key 6) [] g6 0)/\E (sV ((bU (ae 63 n8).2.1).1))/\E (bV ((ae 63 n8).2.2))/\Q (.own 1 ((o++[(bU ((ah 47 (ae 63 n8).1).getD i [])).1]).map sV) Te Sz Tr) (.own 1 (l9.map sV) s5 r4 k₂)/\E (.sl true ((ah 47 (ae 63 n8).1).map sV))/\E (iN ((ah 47 (ae 63 n8).1).length))/\Q (iN (i+1)) (iN b7)/\Er g6 (fY (.sl true []))/\True)) (((.sl false (V.B8 (o.map sV)):V)=ao o)/\(rf o).sm/\((o.length<=1099511627776))/\∀ g17:Nat,Z g17 0/\Z g17 0/\(fC (⟨d,bX o,(ae 63 n8).2.2,(bU (ae 63 n8).2.1).1⟩:r8)).sm/\((cP (⟨d,bX o,(ae 63 n8).2.2,(bU (ae 63 n8).2.1).1⟩:r8)))/\Br (!(aG (⟨d,bX o,(ae 63 n8).2.2,(bU (ae 63 n8).2.1).1⟩:r8))) (Z g6 0/\(g6=g6)/\Q v1 (fP d fr n8)) (Z g17 0/\Z g6 0/\(g6=g6)/\Q (.tup [bF d (bX o) ((ae 63 n8).2.2) ((bU (ae 63 n8).2.1).1),bV true]) (fP d fr n8)))) ([sV ((bU ((ah 47 (ae 63 n8).1).getD i [])).1)]:List V)))) (.tup [fY (.sl false []),bV false])) ?_
 intro g6
 refine⟨rfl,Z9,rfl,Z9,?_⟩
 refine bI (fun j7=>?_) fun j7=>?_
 refine⟨rfl,?_⟩
 refine⟨rfl,?_⟩
 unfold Q fP
 rw[show cy d fr n8=none from by unfold cy;rw[show fj (ae 63 n8).2.1=false from j7,Bool.and_false];rfl];rfl
 refine⟨rfl,Z5,?_⟩
 intro Wq V4 Ws
 refine⟨rfl,Z9,?_⟩
 refine⟨⟨(0,fr,Wq,V4,Ws),?_,rfl,rfl,Z4,rfl,rfl,Z4,Z4,rfl,rfl,trivial⟩,?_⟩
 unfold jf
 simp
 rintro⟨i,o,g,f,k⟩ ⟨h1,h2,h3⟩
 have Rh:=qP 47 (ae 63 n8).1 i
 have S1:o.length<=100+i:=by rw[h2];simp;omega
 refine bI (fun l6=>?_) fun l6=>?_
 refine⟨⟨Z9,aj (d:=[]) Z9⟩,trivial,rfl,Z9,?_⟩
 refine bI (fun n6=>?_) fun n6=>?_
 refine⟨rfl,?_⟩
 refine⟨rfl,?_⟩
 unfold Q fP
 rw[show cy d fr n8=none from by unfold cy;rw[all_false (i:=i) (d:=[]) Z9 n6];rfl];rfl
 refine⟨rfl,trivial,rfl,by simp[aJ,V.n,V.ns],Z0,?_⟩
 intro Te Sz Tr
 refine⟨Zq (V.own 1 · Te Sz Tr) Z8,Z9,?_⟩
 refine⟨(i+1,o++[(bU ((ah 47 (ae 63 n8).1).getD i [])).1],Te,Sz,Tr),?_,?_,rfl,rfl,rfl,rfl,rfl,rfl,rfl,rfl,rfl,trivial⟩
 unfold jf
 refine⟨Z9,?_,?_⟩
 rw[h2,bg (by omega:i<(ah 47 (ae 63 n8).1).length) []];simp[eN]
 rw[bg (by omega:i<(ah 47 (ae 63 n8).1).length) []];simp only[List.all_append,h3,List.all_cons,List.all_nil,fj,Bool.and_true,Bool.true_and];exact n6
 exact Z1
 refine⟨Zq (V.sl false) (aM (fun _=>rfl) _),rfl,Z9,?_⟩
 intro g17
 refine⟨rfl,?_⟩
 have hz:cP ⟨d,bX o,(ae 63 n8).2.2,(bU (ae 63 n8).2.1).1⟩:=by
  rw[h2,Y3 Z9];exact Mm hh hf Z9
 refine⟨rfl,rfl,hz,?_⟩
 refine bI (fun w6=>?_) fun w6=>?_
 refine⟨rfl,?_⟩
 refine⟨rfl,?_⟩
 unfold Q fP
 have G4:(ah 47 (ae 63 n8).1).all fj=true:=by rw[Y3 Z9]at h3;exact h3
 rw[Y3 Z9]at h2
 subst h2
 rw[show cy d fr n8=none from by unfold cy;rw[G4];grind [fj,eN]];rfl
 refine⟨rfl,rfl,?_⟩
 refine⟨rfl,?_⟩
 unfold Q fP
 have G4:(ah 47 (ae 63 n8).1).all fj=true:=by rw[Y3 Z9]at h3;exact h3
 rw[Y3 Z9]at h2
 subst h2
 rw[show cy d fr n8=some _ from by unfold cy;rw[G4,if_pos (by grind [fj,eN]),if_pos (by grind [fj,eN])]] <;> rfl)
abbrev gx(s:BL):V:=.tup [bF ((oA (dp s)).c5) ((oA (dp s)).b9) ((oA (dp s)).asks) ((oA (dp s)).ask),bV ((dp s).isSome)]
def lJ(s:BL):o6 Tryz.prog:=.mk 46 [sV s] [] ((s.length<=300)/\(m5 s)) (gx s) [] (by
 rintro⟨hs,ha⟩
 refine av (N:=31) (rs:=[.cell 2 52,.tmp 3]) Tryz.func46
  (.al dg (fun g2=>.q 1<|.q 1<|.c (sN s ([47,47]:BL)) []<|.q 5<|.q 2<|.br (.bd dg<|.st none<|.q 1<|.nil) (.h (.o4 10 (sV (s.drop 2)))<|.h (.o4 4 (sV (s.drop 2)))<|.q 1<|.c (HX (s.drop 2)) []<|.q 1<|.q 2<|.br (.q 3<|.dx 10 [0,1,2,3,4,5,6,7,8,9] [] []<|.q 1<|.q 1<|.q 1<|.c (jg (((s.drop 2).take ((s.drop 2).length)).drop ((0:Int).toNat))) []<|.q 1<|.q 1<|.q 1<|.c (fA (aT (((s.drop 2).take ((s.drop 2).length)).drop ((0:Int).toNat))) ([]:List BL) (((s.drop 2).take (s.drop 2).length).drop ((s.drop 2).length))) []<|.q 1<|.q 1<|.st none<|.q 1<|.nil) (.dx 10 [0,1,2,3,4,5,6,7,8,9] [] []<|.q 1<|.q 1<|.q 1<|.c (jg (((s.drop 2).take (Int.toNat (Lib.indexAny (s.drop 2) [47,63]))).drop ((0:Int).toNat))) []<|.q 1<|.q 1<|.q 1<|.c (fA (aT (((s.drop 2).take (Int.toNat (Lib.indexAny (s.drop 2) [47,63]))).drop ((0:Int).toNat))) ([]:List BL) (((s.drop 2).take (s.drop 2).length).drop (Int.toNat (Lib.indexAny (s.drop 2) [47,63])))) []<|.q 1<|.q 1<|.st none<|.q 1<|.nil))))
  ((fun v1:r8=>(fun v2:r8=>(fun v3:BL=>(fun v4:V=>(∀ g2:Nat,(sN s v3).sm/\((s.length<=4611686018427387904)/\(v3.length<=4611686018427387904))/\Br (!(fg s v3)) (Z g2 0/\(g2=g2)/\Q (.tup [fY (.sl false []),bV false]) (gx s)) ((v4=sV (s.drop 2))/\(v4=sV (s.drop 2))/\(HX (s.drop 2)).sm/\(((s.drop 2).length<=1000000)/\(∀ c,c∈(s.drop 2)->c.toNat<128))/\Br (r9 (Lib.indexAny (s.drop 2) [47,63]) 0) (Sx (0:Int) (((s.drop 2).length:Nat):Int) (s.drop 2)/\(jg (((s.drop 2).take ((s.drop 2).length)).drop ((0:Int).toNat))).sm/\(((((s.drop 2).take ((s.drop 2).length)).drop ((0:Int).toNat)).length<=1099511627776))/\Sx (((s.drop 2).length:Nat):Int) ((s.drop 2).length:Int) (s.drop 2)/\(fA (aT (((s.drop 2).take ((s.drop 2).length)).drop ((0:Int).toNat))) ([]:List BL) (((s.drop 2).take (s.drop 2).length).drop ((s.drop 2).length))).sm/\(((aT (((s.drop 2).take ((s.drop 2).length)).drop ((0:Int).toNat))).length<=1000)/\(∀ i,(([]:List BL).getD i []).length<=1000)/\(([]:List BL).length<=100)/\((((s.drop 2).take (s.drop 2).length).drop ((s.drop 2).length)).length<=300))/\Z g2 0/\(g2=g2)/\Q (.tup [bF (v2.c5) (v2.b9) (v2.asks) (v2.ask),bV ((cy (aT (((s.drop 2).take ((s.drop 2).length)).drop ((0:Int).toNat))) ([]:List BL) (((s.drop 2).take (s.drop 2).length).drop ((s.drop 2).length))).isSome)]) (gx s)) (Sx (0:Int) (Lib.indexAny (s.drop 2) [47,63]) (s.drop 2)/\(jg (((s.drop 2).take (Int.toNat (Lib.indexAny (s.drop 2) [47,63]))).drop ((0:Int).toNat))).sm/\(((((s.drop 2).take (Int.toNat (Lib.indexAny (s.drop 2) [47,63]))).drop ((0:Int).toNat)).length<=1099511627776))/\Sx (Lib.indexAny (s.drop 2) [47,63]) ((s.drop 2).length:Int) (s.drop 2)/\(fA (aT (((s.drop 2).take (Int.toNat (Lib.indexAny (s.drop 2) [47,63]))).drop ((0:Int).toNat))) ([]:List BL) (((s.drop 2).take (s.drop 2).length).drop (Int.toNat (Lib.indexAny (s.drop 2) [47,63])))).sm/\(((aT (((s.drop 2).take (Int.toNat (Lib.indexAny (s.drop 2) [47,63]))).drop ((0:Int).toNat))).length<=1000)/\(∀ i,(([]:List BL).getD i []).length<=1000)/\(([]:List BL).length<=100)/\((((s.drop 2).take (s.drop 2).length).drop (Int.toNat (Lib.indexAny (s.drop 2) [47,63]))).length<=300))/\Z g2 0/\(g2=g2)/\Q (.tup [bF (v1.c5) (v1.b9) (v1.asks) (v1.ask),bV ((cy (aT (((s.drop 2).take (Int.toNat (Lib.indexAny (s.drop 2) [47,63]))).drop ((0:Int).toNat))) ([]:List BL) (((s.drop 2).take (s.drop 2).length).drop (Int.toNat (Lib.indexAny (s.drop 2) [47,63])))).isSome)]) (gx s))))) (sV (if fg s v3=true then s.drop v3.length else s):V)) ([47,47]:BL)) (oA (cy (aT (((s.drop 2).take ((s.drop 2).length)).drop ((0:Int).toNat))) ([]:List BL) (((s.drop 2).take (s.drop 2).length).drop ((s.drop 2).length))))) (oA (cy (aT (((s.drop 2).take (Int.toNat (Lib.indexAny (s.drop 2) [47,63]))).drop ((0:Int).toNat))) ([]:List BL) (((s.drop 2).take (s.drop 2).length).drop (Int.toNat (Lib.indexAny (s.drop 2) [47,63])))))) ?_
 intro g2
 refine⟨rfl,⟨Z9,Z8⟩,?_⟩
 refine bI (fun j7=>?_) fun j7=>?_
 refine⟨rfl,?_⟩
 refine⟨rfl,?_⟩
 unfold Q gx
 rw[show dp s=none from if_neg (by rw[j7];decide)] <;> rfl
 refine⟨(by rw[if_pos j7];rfl),(by rw[if_pos j7];rfl),rfl,⟨Z0,ha.drop 2⟩,?_⟩
 refine bI (fun l6=>?_) fun l6=>?_
 have hq:=(tN (s.drop 2)).1 Z9
 refine⟨Z9,rfl,Z0,Z9,rfl,⟨by simp[aT];omega,Z8,Z8,by first | (solve | simp) | (simp;omega)⟩,rfl,?_⟩
 refine⟨rfl,?_⟩
 unfold Q gx
 rw[show dp s=dA (s.drop 2) from if_pos j7]
 unfold dA;rw[hq.1,hq.2];simp[show (s.drop 2).take (s.length-2)=s.drop 2 from Y3 Z8,show s.drop (2+(s.length-2))=[] from Zc Z9]
 have hq:=(tN (s.drop 2)).2 Z9
 have hq3:=hq.2.2
 refine⟨Z9,rfl,Z0,Z9,rfl,⟨by simp[aT];omega,Z8,Z8,by first | (solve | simp) | (simp;omega)⟩,rfl,?_⟩
 refine⟨rfl,?_⟩
 unfold Q gx
 rw[show dp s=dA (s.drop 2) from if_pos j7]
 unfold dA;rw[hq.1,hq.2.1];simp[show (s.drop 2).take (s.length-2)=s.drop 2 from Y3 Z8])
abbrev jv(raw:BL):V:=.tup [bF ((oA (aw raw)).c5) ((oA (aw raw)).b9) ((oA (aw raw)).asks) ((oA (aw raw)).ask),bV ((aw raw).isSome)]
def lq(raw:BL):o6 Tryz.prog:=.mk 19 [sV raw] [] ((raw.length<=1000000)/\(m5 raw)) (jv raw) [] (by
 rintro⟨hs,ha⟩
 have Ni:=lN 35 raw
 refine av (N:=21) (rs:=[.cell 2 52,.tmp 3]) Tryz.func19
  (.al dg (fun g2=>.q 1<|.q 3<|.br (.bd dg<|.st none<|.q 1<|.nil) (.q 1<|.c (oe raw 35) []<|.q 7<|.q 1<|.c (lJ ((ae 35 raw).1)) []<|.q 2<|.st none<|.q 1<|.nil)))
  ((fun v1:r8=>(∀ g2:Nat,Br (s9 (raw.length:Int) 60) (Z g2 0/\(g2=g2)/\Q (.tup [fY (.sl false []),bV false]) (jv raw)) ((oe raw 35).sm/\((raw.length<=1000000))/\(lJ ((ae 35 raw).1)).sm/\((((ae 35 raw).1).length<=300)/\(m5 ((ae 35 raw).1)))/\Z g2 0/\(g2=g2)/\Q (.tup [bF (v1.c5) (v1.b9) (v1.asks) (v1.ask),bV ((dp ((ae 35 raw).1)).isSome)]) (jv raw)))) (oA (dp ((ae 35 raw).1)))) ?_
 intro g2
 refine bI (fun j7=>?_) fun j7=>?_
 refine⟨rfl,?_⟩
 refine⟨rfl,?_⟩
 unfold Q jv
 rw[uV Z9];rfl
 refine⟨rfl,Z9,rfl,⟨Z9,ha.cut 35⟩,rfl,?_⟩
 refine⟨rfl,?_⟩
 unfold Q jv
 rw[Ak Z9])
abbrev ib(s:BL):V:=.tup [bF ((oA (ar s)).c5) ((oA (ar s)).b9) ((oA (ar s)).asks) ((oA (ar s)).ask),bV ((ar s).isSome)]
def cv(s:BL):o6 Tryz.prog:=.mk 37 [sV s] [] ((s.length<=1000000)/\(m5 s)) (ib s) [] (by
 rintro⟨hs,ha⟩
 refine av (N:=21) (rs:=[.cell 2 52,.tmp 3]) Tryz.func37
  (.al dg (fun g2=>.q 1<|.q 1<|.c (lq s) []<|.q 3<|.al dg (fun g4=>.st none<|.q 1<|.r 4 [.a8]<|.cg (iq (oA (aw s)))<|.q 3<|.br (.bd dg<|.st none<|.q 1<|.nil) (.r 1 [.a8]<|.st none<|.q 1<|.nil))))
  ((fun v1:Bool=>(fun v2:r8=>(∀ g2:Nat,(lq s).sm/\((s.length<=1000000)/\(m5 s))/\∀ g4:Nat,Z g4 0/\Gd (v1==false) (Z g4 0)/\Gd (v1==false) (((cP v2))/\(iq v2).sm)/\Pk v1 true (v1==false)/\Br (v1||(!((cJ v2)==s))) (Z g2 0/\(g2=g2)/\Q (.tup [fY (.sl false []),bV false]) (ib s)) (Z g4 0/\Z g2 0/\(g2=g2)/\Q (.tup [bF (v2.c5) (v2.b9) (v2.asks) (v2.ask),bV true]) (ib s)))) (oA (aw s))) (!((aw s).isSome))) ?_
 intro g2
 refine⟨rfl,⟨hs,ha⟩,?_⟩
 intro g4
 refine⟨rfl,fun hG=>rfl,fun hG=>⟨by(try simp only[nb]at hG);exact kF _,rfl⟩,⟨fun _=>rfl,fun h=>by rw[h] <;> rfl⟩,?_⟩
 refine bI (fun j7=>?_) fun j7=>?_
 refine⟨rfl,?_⟩
 refine⟨rfl,?_⟩
 unfold Q ib
 rw[show ar s=none from if_neg (by rw[IF (by simpa using j7)];decide)] <;> rfl
 refine⟨rfl,rfl,?_⟩
 refine⟨rfl,?_⟩
 unfold Q ib
 rw[show ar s=aw s from if_pos (wC j7.1 j7.2),j7.1])
def fy(s:BL):o6 Tryz.prog:=.mk 99 [sV s] [] ((s.length<=1000000)/\(m5 s)) (bV (az s)) [] (by
 rintro⟨hs,ha⟩
 refine av (N:=11) (rs:=[.tmp 2]) Tryz.func99
  (.q 1<|.q 1<|.c (cv s) []<|.q 3<|.al dg (fun g3=>.st none<|.q 1<|.q 2<|.nil))
  ((cv s).sm/\((s.length<=1000000)/\(m5 s))/\∀ g3:Nat,Z g3 0/\Q (bV ((ar s).isSome)) (bV (az s))) ?_
 refine⟨rfl,⟨hs,ha⟩,?_⟩
 intro g3
 refine⟨rfl,?_⟩
 unfold Q
 rw[gP])
theorem LW(w:List Pg)(a:BL):((B7 w a).2=true/\∃ y,bW (w.map E9) a=some y/\(r5 (B7 w a).1).val? =some y)\/((B7 w a).2=false/\bW (w.map E9) a=none/\∃ y,(r5 (B7 w a).1).val? =some y/\∀ w,(zeroValue 99).run Tryz.prog w=.ok y w):=by
 rcases Bn a w with ⟨q1,q2,q3⟩ | ⟨q1,q2⟩
 exact .inr ⟨q2,q1,_,rfl,by rw[q3];exact Tryz.zeroValue99⟩
 exact .inl ⟨q2,_,q1,rfl⟩
def qo(y:Pg):o6 Tryz.prog:=.mk 62 [cn y.addr y.text y.lead y.m0] [] (m9 y) (bV (dS y)) [] (by
 intro hy
 obtain⟨y1,y2,y3,y4,y5,y6⟩:=id hy
 refine av (N:=36) (rs:=[.tmp 2]) Tryz.func62
  (.bx (fun g1=>.q 1<|.r 2 [.a8]<|.c (fy y.addr) []<|.r 17 [.a8,.a8,.a8]<|.br (.q 1<|.nil) (.r 6 [.a8,.a8]<|.cg (fy y.lead)<|.r 7 [.a8]<|.nil)))
  ((fun v1:Bool=>(fun v2:Bool=>(fun v3:Bool=>(∀ g1:Nat,Z g1 0/\(fy y.addr).sm/\((y.addr.length<=1000000)/\(m5 y.addr))/\Gd (v2==false) (Z g1 1)/\Pk v2 true (v2==false)/\Gd ((v2||v1)==false) (Z g1 3)/\Pk (v2||v1) true ((v2||v1)==false)/\Gd (((v2||v1)||(r9 y.m0 0))==false) (Z g1 3)/\Pk ((v2||v1)||(r9 y.m0 0)) true (((v2||v1)||(r9 y.m0 0))==false)/\Br (((v2||v1)||(r9 y.m0 0))||(s9 y.m0 9)) (Q (bV false) (bV (dS y))) (Z g1 2/\Gd v3 (Z g1 2)/\Gd v3 (((y.lead.length<=1000000)/\(m5 y.lead))/\(fy y.lead).sm)/\Gd (v3&&((az y.lead)==true)) (Z g1 1)/\Gd v3 (Pk (az y.lead) (v3&&((az y.lead)==true)) true)/\Pk (y.lead==[]) true v3/\Q (bV ((y.lead==[])||((az y.lead)&&(y.text==[])))) (bV (dS y))))) ((y.lead==[])==false)) (!(az y.addr))) (s9 (y.text.length:Int) 300)) ?_
 intro g1
 refine⟨rfl,rfl,⟨Z9,hy.aa⟩,fun hG=>rfl,⟨fun _=>rfl,fun h=>by rw[h] <;> rfl⟩,fun hG=>rfl,⟨fun _=>rfl,fun h=>by rw[h] <;> rfl⟩,fun hG=>rfl,⟨fun _=>rfl,fun h=>by rw[h] <;> rfl⟩,?_⟩
 refine bI (fun j7=>?_) fun j7=>?_
 unfold Q
 refine Zq bV ?_
 unfold dS A7
 grind
 refine⟨rfl,fun hG=>rfl,fun hG=>⟨⟨by(try simp only[nb]at hG);omega,hy.la⟩,rfl⟩,fun hG=>rfl,fun hG=>⟨fun h=>by rw[h];exact(YS _ _).mpr ⟨hG,rfl⟩,fun _=>rfl⟩,⟨fun _=>rfl,fun h=>by rw[h] <;> rfl⟩,?_⟩
 unfold Q
 refine Zq bV ?_
 unfold dS A7
 grind)
def iW(a:r8):o6 Tryz.prog:=.mk 73 [bF a.c5 a.b9 a.asks a.ask] [] (cP a) (sV (if aG a=true then bj a else [])) [] (by
 intro ha
 refine av (N:=8) (rs:=[.tmp 2]) Tryz.func73
  (.bx (fun g1=>.q 1<|.r 1 [.a8]<|.c (fC a) []<|.q 1<|.br (.q 1<|.nil) (.r 1 [.a8]<|.c (lK a) []<|.q 1<|.nil)))
  (∀ g1:Nat,Z g1 0/\(fC a).sm/\((cP a))/\Br (!(aG a)) (Q (sV []) (sV (if aG a=true then bj a else []))) (Z g1 0/\(lK a).sm/\((cP a))/\Q (sV (bj a)) (sV (if aG a=true then bj a else [])))) ?_
 intro g1
 refine⟨rfl,rfl,by first | assumption | exact kF _ | exact hz,?_⟩
 refine bI (fun j7=>?_) fun j7=>?_
 unfold Q
 rw[if_neg (by rw[j7];decide)]
 refine⟨rfl,rfl,Z5,?_⟩
 unfold Q
 rw[if_pos j7])
def jQ(w:List Pg):o6 Tryz.prog:=.mk 34 [bZ w] [] ((w.length<=30)/\(∀ i,m9 (w.getD i m4))/\(an w=true)) (.tup [.mp (w.map E9),bV true]) [] (by
 rintro⟨hw,hz,hk⟩
 obtain⟨k1,k2,k3⟩:=Ha hk
 have hwm:∀ i,(i:Nat)<=w.length/\w.length<=i->wE (w.take i)=w.map E9:=fun i hi=>by
  have:=Dt i hi.1 (fun j hj k hk=>k3 j Z9 k hk)
  rw[this,Y3 Z9]
 refine av (N:=31) (rs:=[.tmp 2,.tmp 3]) Tryz.func34
  (.q 2<|.q 3<|.br (.q 2<|.nil) (.cu U6 (fun g10=>.q 1<|.q 3<|.loop (Nat×Nat) (fun (i,g)=>⟨[(0,bZ w),(4,.om (wE (w.take i)) g),(11,bZ w),(12,iN w.length),(13,iN i)],[]⟩) (fun (i,g)=>i<=w.length/\∀ j,j<i->dS (w.getD j m4)=true) (fun (i,g)=>w.length-i) (fun (i,g)=>.q 1<|.br (.r 2 [cn ((w.getD i m4).addr) ((w.getD i m4).text) ((w.getD i m4).lead) ((w.getD i m4).m0)]<|.al nq (fun g6=>.st none<|.r 1 [.a8]<|.c (qo (w.getD i m4)) []<|.q 1<|.br (.q 2<|.nil) (.r 4 [.a8,.a8]<|.cu (RU 4 (wE (w.take i)) ((w.getD i m4).addr) (lL (w.getD i m4))) (fun _=>.h (.o4 4 (.om (wE (w.take (i+1))) g))<|.q 2<|.nil)))) (.h (.fz 4)<|.h (.o4 4 (.mp (w.map E9)))<|.q 2<|.cu X3 (fun _=>.q 5<|.nil))))))
  ((fun v1:V=>(Br (s9 (((w.map r5).length:Nat):Int) 12) (Q (.tup [.lit (.map none),bV false]) v1) (True/\∀ g10:Nat,(∃ x:Nat×Nat,match x with | (j6,B6)=>(j6<=w.length/\∀ j,j<j6->dS (w.getD j m4)=true)/\E (bZ w)/\Q (.om [] g10) (.om (wE (w.take j6)) B6)/\E (bZ w)/\Q (iN ((w.map r5).length)) (iN w.length)/\Q (iN 0) (iN j6)/\True)/\∀ x:Nat×Nat,match x with | (i,g)=>(i<=w.length/\∀ j,j<i->dS (w.getD j m4)=true)->(fun v2:Pg=>Br (r9 (i:Int) (w.length:Int)) (Ex (i:Int) (w.map r5) (cn (v2.addr) (v2.text) (v2.lead) (v2.m0))/\True/\∀ g6:Nat,Z g6 0/\Z g6 0/\(qo v2).sm/\((m9 v2))/\Br (!(dS v2)) (Q (.tup [.lit (.map none),bV false]) v1) (Z g6 0/\Z g6 0/\(((g:Nat)=g/\(wE (w.take i):List (BL×Value))=wE (w.take i))/\((sV (v2.addr):V)=sV (v2.addr))/\(cn (v2.addr) (v2.text) (v2.lead) (v2.m0):V).val? =some (lL v2))/\∀ _:Unit,((.om (dC (wE (w.take i)) (v2.addr) (lL v2)) g:V)=.om (wE (w.take (i+1))) g)/\m8 ((i:Int)+1)/\∃ x:Nat×Nat,match x with | (b7,s5)=>(b7<=w.length/\∀ j,j<b7->dS (w.getD j m4)=true)/\(w.length-b7<w.length-i)/\E (bZ w)/\Q (.om (wE (w.take (i+1))) g) (.om (wE (w.take b7)) s5)/\E (bZ w)/\E (iN w.length)/\Q (iN (i+1)) (iN b7)/\True)) (((.mp (wE (w.take i)):V)=.mp (w.map E9))/\True/\∀ _:Unit,Q (.tup [.mp (w.map E9),bV (o9 (((w.map E9).length:Nat):Int) (((w.map r5).length:Nat):Int))]) v1)) (w.getD i m4)))) (.tup [.mp (w.map E9),bV true])) ?_
 refine bI (fun j7=>?_) fun j7=>?_
 omega
 refine⟨trivial,?_⟩
 intro g10
 refine⟨⟨(0,g10),?_,rfl,Z4,rfl,Z4,rfl,trivial⟩,?_⟩
 simp
 rintro⟨i,g⟩ ⟨h1,h2⟩
 have hzi:=hz i
 refine bI (fun l6=>?_) fun l6=>?_
 refine⟨⟨Z9,aj (d:=m4) Z9⟩,trivial,?_⟩
 intro g6
 refine⟨rfl,rfl,rfl,hz i,?_⟩
 refine bI (fun n6=>?_) fun n6=>?_
 have:=k2 i Z9;simp_all
 refine⟨rfl,rfl,⟨⟨rfl,rfl⟩,rfl,rfl⟩,?_⟩
 intro _
 refine⟨Zq (V.om · g) ((pw Z9).symm),Z9,?_⟩
 refine⟨(i+1,g),?_,?_,rfl,rfl,rfl,rfl,rfl,trivial⟩
 exact⟨Z9,bS h2 (by simpa using n6)⟩
 exact Z1
 refine⟨Zq V.mp (hwm i Z9),trivial,?_⟩
 intro _
 unfold Q
 rw[show o9 ((w.map E9).length:Int) ((w.map r5).length:Int)=true from by unfold o9;simp])
def ml(w:List Pg):o6 Tryz.prog:=.mk 34 [bZ w] [] ((w.length<=30)/\(∀ i,m9 (w.getD i m4))/\(an w=false)) (.tup [.a8,bV false]) [] (by
 rintro⟨hw,hz,hk⟩
 refine av (N:=31) (rs:=[.tmp 2,.tmp 3]) Tryz.func34
  (.q 2<|.q 3<|.br (.q 2<|.nil) (.cu U6 (fun g10=>.q 1<|.q 3<|.loop (Nat×Nat) (fun (i,g)=>⟨[(0,bZ w),(4,.om (wE (w.take i)) g),(11,bZ w),(12,iN w.length),(13,iN i)],[]⟩) (fun (i,g)=>i<=w.length/\∀ j,j<i->dS (w.getD j m4)=true) (fun (i,g)=>w.length-i) (fun (i,g)=>.q 1<|.br (.r 2 [cn ((w.getD i m4).addr) ((w.getD i m4).text) ((w.getD i m4).lead) ((w.getD i m4).m0)]<|.al nq (fun g6=>.st none<|.r 1 [.a8]<|.c (qo (w.getD i m4)) []<|.q 1<|.br (.q 2<|.nil) (.r 4 [.a8,.a8]<|.cu (RU 4 (wE (w.take i)) ((w.getD i m4).addr) (lL (w.getD i m4))) (fun _=>.h (.o4 4 (.om (wE (w.take (i+1))) g))<|.q 2<|.nil)))) (.h (.fz 4)<|.q 2<|.cu X3 (fun _=>.q 5<|.nil))))))
  ((fun v1:V=>(Br (s9 (((w.map r5).length:Nat):Int) 12) (Q v1 v1) (True/\∀ g10:Nat,(∃ x:Nat×Nat,match x with | (j6,B6)=>(j6<=w.length/\∀ j,j<j6->dS (w.getD j m4)=true)/\E (bZ w)/\Q (.om [] g10) (.om (wE (w.take j6)) B6)/\E (bZ w)/\Q (iN ((w.map r5).length)) (iN w.length)/\Q (iN 0) (iN j6)/\True)/\∀ x:Nat×Nat,match x with | (i,g)=>(i<=w.length/\∀ j,j<i->dS (w.getD j m4)=true)->(fun v2:Pg=>Br (r9 (i:Int) (w.length:Int)) (Ex (i:Int) (w.map r5) (cn (v2.addr) (v2.text) (v2.lead) (v2.m0))/\True/\∀ g6:Nat,Z g6 0/\Z g6 0/\(qo v2).sm/\((m9 v2))/\Br (!(dS v2)) (Q v1 v1) (Z g6 0/\Z g6 0/\(((g:Nat)=g/\(wE (w.take i):List (BL×Value))=wE (w.take i))/\((sV (v2.addr):V)=sV (v2.addr))/\(cn (v2.addr) (v2.text) (v2.lead) (v2.m0):V).val? =some (lL v2))/\∀ _:Unit,((.om (dC (wE (w.take i)) (v2.addr) (lL v2)) g:V)=.om (wE (w.take (i+1))) g)/\m8 ((i:Int)+1)/\∃ x:Nat×Nat,match x with | (b7,s5)=>(b7<=w.length/\∀ j,j<b7->dS (w.getD j m4)=true)/\(w.length-b7<w.length-i)/\E (bZ w)/\Q (.om (wE (w.take (i+1))) g) (.om (wE (w.take b7)) s5)/\E (bZ w)/\E (iN w.length)/\Q (iN (i+1)) (iN b7)/\True)) (True/\∀ _:Unit,Q (.tup [.a8,bV (o9 (((wE (w.take i)).length:Nat):Int) (((w.map r5).length:Nat):Int))]) v1)) (w.getD i m4)))) (.tup [.a8,bV false])) ?_
 refine bI (fun j7=>?_) fun j7=>?_
 unfold Q
 rfl
 refine⟨trivial,?_⟩
 intro g10
 refine⟨⟨(0,g10),?_,rfl,Z4,rfl,Z4,rfl,trivial⟩,?_⟩
 simp
 rintro⟨i,g⟩ ⟨h1,h2⟩
 have hzi:=hz i
 refine bI (fun l6=>?_) fun l6=>?_
 refine⟨⟨Z9,aj (d:=m4) Z9⟩,trivial,?_⟩
 intro g6
 refine⟨rfl,rfl,rfl,hz i,?_⟩
 refine bI (fun n6=>?_) fun n6=>?_
 unfold Q
 rfl
 refine⟨rfl,rfl,⟨⟨rfl,rfl⟩,rfl,rfl⟩,?_⟩
 intro _
 refine⟨Zq (V.om · g) ((pw Z9).symm),Z9,?_⟩
 refine⟨(i+1,g),?_,?_,rfl,rfl,rfl,rfl,rfl,trivial⟩
 exact⟨Z9,bS h2 (by simpa using n6)⟩
 exact Z1
 refine⟨trivial,?_⟩
 intro _
 unfold Q
 have q1:=En w w.length (Zg _)
 have q2:=Gl hk Z9 (fun j hj=>h2 j Z9)
 rw[show i=w.length from Z9]
 have q3:(wE (w.take w.length)).length≠w.length:=fun c=>q2 (q1.2.1 c)
 rw[show o9 ((wE (w.take w.length)).length:Int) ((w.map r5).length:Int)=false from by unfold o9;exact beq_eq_false_iff_ne.2 (by rw[Y2];omega)])
def xU(w:List Pg)(a:BL)(n:Int):o6 Tryz.prog:=.mk 35 [.mp (w.map E9),sV a,iV n] [] ((0<=n)/\(n<=1000)) (.tup [iV ((af w a n).1),sV ((af w a n).2)]) [] (by
 rintro⟨hn,Uy⟩
 refine av (N:=36) (rs:=[.tmp 6,.tmp 7]) Tryz.func35
  (.q 2<|.q 2<|.cu (lkC (w.map E9) a (cn ((B7 w a).1.addr) ((B7 w a).1.text) ((B7 w a).1.lead) ((B7 w a).1.m0)) ((B7 w a).2)) (fun _=>.q 3<|.al nq (fun g8=>.st none<|.q 1<|.q 7<|.br (.q 2<|.nil) (.r 5 [.a8]<|.br (.q 2<|.nil) (.r 4 [.a8]<|.br (.dx 3 [0,1,2] [(1,⟨false,[],some [8],[33],[]⟩)] []<|.q 1<|.r 1 [.a8]<|.q 1<|.q 1<|.nil) (.dx 3 [0,1,2] [(1,⟨false,[],some [8],[35],[]⟩)] []<|.q 1<|.r 1 [.a8]<|.q 1<|.q 1<|.nil))))))
  (((w.map E9=w.map E9)/\((sV a:V)=sV a)/\((((B7 w a).2)=true/\∃ y,bW (w.map E9) a=some y/\(cn ((B7 w a).1.addr) ((B7 w a).1.text) ((B7 w a).1.lead) ((B7 w a).1.m0):V).val? =some y)\/(((B7 w a).2)=false/\bW (w.map E9) a=none/\∃ y,(cn ((B7 w a).1.addr) ((B7 w a).1.text) ((B7 w a).1.lead) ((B7 w a).1.m0):V).val? =some y/\∀ w,(zeroValue 99).run Tryz.prog w=.ok y w)))/\∀ _:Unit,(fun v1:V=> ∀ g8:Nat,Z g8 0/\Pk (!((B7 w a).2)) true ((!((B7 w a).2))==false)/\Br ((!((B7 w a).2))||(r9 n 0)) (Q (.tup [iN 0,sV []]) v1) (Z g8 3/\Br (r9 n ((B7 w a).1.m0)) (Q (.tup [iN 3,sV []]) v1) (Z g8 2/\Br (!(((B7 w a).1.lead)==[])) (Z g8 2/\Q (.tup [iN 2,sV ((B7 w a).1.lead)]) v1) (Z g8 1/\Q (.tup [iN 1,sV ((B7 w a).1.text)]) v1)))) (.tup [iV ((af w a n).1),sV ((af w a n).2)])) ?_
 refine⟨⟨rfl,rfl,LW w a⟩,?_⟩
 intro _
 intro g8
 refine⟨rfl,⟨fun _=>rfl,fun h=>by rw[h] <;> rfl⟩,?_⟩
 refine bI (fun j7=>?_) fun j7=>?_
 unfold Q
 have hx:(B7 w a).2=false:=by grind
 unfold af
 rw[if_pos hx]
 rfl
 refine⟨rfl,?_⟩
 refine bI (fun l6=>?_) fun l6=>?_
 unfold Q
 have hx:(B7 w a).2=true:=by grind
 unfold af
 rw[if_neg (by rw[hx];decide),if_pos Z9]
 rfl
 refine⟨rfl,?_⟩
 refine bI (fun n6=>?_) fun n6=>?_
 refine⟨rfl,?_⟩
 unfold Q
 have hx:(B7 w a).2=true:=by grind
 unfold af
 rw[if_neg (by rw[hx];decide),if_neg Z9,if_neg (by grind)]
 rfl
 refine⟨rfl,?_⟩
 unfold Q
 have hx:(B7 w a).2=true:=by grind
 unfold af
 rw[if_neg (by rw[hx];decide),if_neg Z9,if_pos (by grind)]
 rfl)
def sK(w:List Pg)(a:BL):o6 Tryz.prog:=.mk 87 [.mp (w.map E9),sV a] [] True (.tup [iV ((af w a 2).1),sV ((af w a 2).2)]) [] (by
 intro _
 refine av (N:=11) (rs:=[.tmp 4,.tmp 5]) Tryz.func87
  (.q 2<|.q 2<|.c (xU w a (2:Int)) []<|.q 4<|.nil)
  ((xU w a (2:Int)).sm/\((0<=(2:Int))/\((2:Int)<=1000))/\Q (.tup [iV ((af w a (2:Int)).1),sV ((af w a (2:Int)).2)]) (.tup [iV ((af w a 2).1),sV ((af w a 2).2)])) ?_
 refine⟨rfl,⟨Z5,Z5⟩,?_⟩
 unfold Q
 rfl)
end Go.Proofs.YtbjbamjffkanbaaGreatDoor