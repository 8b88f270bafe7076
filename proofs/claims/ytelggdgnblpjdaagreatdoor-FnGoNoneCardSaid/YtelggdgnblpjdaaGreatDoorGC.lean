/-
  Words and walks for the laws of pedlar's seat: what each function of the program computes, and that it does; no conditions beyond those that each statement names.
-/
import Derived.Test.YtelggdgnblpjdaaGreatDoorGB
import Derived.Test.YtelggdgnblpjdaaGreatDoorGA
set_option linter.unusedVariables false
set_option linter.unusedSimpArgs false
set_option linter.unnecessarySimpa false
set_option linter.unusedSectionVars false
namespace Go.Proofs.YtelggdgnblpjdaaGreatDoor
open Go Go.RowKit
set_option maxRecDepth 20000
abbrev ao(p0:List BL):V:=.sl false (p0.map sV)
def rO(b:UInt8):o6 Tryz.prog:=.mk 188 [iN b.toNat] [] True (sV (fQ b)) [] (by
 intro _
 have hb:=b.toNat_lt
 refine aB (N:=20) (rs:=[.tmp 2]) Tryz.func188
  (.q 1<|.q 1<|.dx 16 [0,1,2,3,4,5,6,7,8,9,10,11,12,13,14,15] [] []<|.q 1<|.q 1<|.q 1<|.q 1<|.q 1<|.q 1<|.q 1<|.q 1<|.q 1<|.q 1<|.q 1<|.q 1<|.q 1<|.q 1<|.q 1<|.q 1<|.q 1<|.nil)
  ((fun v1:BL=>(fun v2:Int=>(((0:Int)<=v2/\(0:Int)<16/\m8 v2)/\((0:Int)<=v2/\(0:Int)<16/\m8 v2)/\m8 (((b.toNat / 16:Nat):Int)+1)/\Sx ((b.toNat / 16:Nat):Int) (((b.toNat / 16)+1:Nat):Int) v1/\(([37]:BL).length+((v1.take ((b.toNat / 16)+1)).drop (b.toNat / 16)).length<=4611686018427387904)/\((0:Int)<=v2/\(0:Int)<16)/\((0:Int)<=v2/\(0:Int)<16)/\m8 (((b.toNat % 16:Nat):Int)+1)/\Sx ((b.toNat % 16:Nat):Int) (((b.toNat % 16)+1:Nat):Int) v1/\((([37]:BL)++((v1.take ((b.toNat / 16)+1)).drop (b.toNat / 16))).length+((v1.take ((b.toNat % 16)+1)).drop (b.toNat % 16)).length<=4611686018427387904)/\Q (sV ((([37]:BL)++((v1.take ((b.toNat / 16)+1)).drop (b.toNat / 16)))++((v1.take ((b.toNat % 16)+1)).drop (b.toNat % 16)))) (sV (fQ b)))) (b.toNat:Int)) ([48,49,50,51,52,53,54,55,56,57,65,66,67,68,69,70]:BL)) ?_
 refine⟨by have:=Zbb b;omega,by have:=Zbb b;omega,by have:=Zbb b;omega,by have:=Zbb b;unfold Sx;simp;omega,by have:=Zbb b;simp;omega,by have:=Zbb b;omega,by have:=Zbb b;omega,by have:=Zbb b;omega,by have:=Zbb b;unfold Sx;simp;omega,by have:=Zbb b;simp;omega,?_⟩
 unfold Q
 refine Zbk sV ?_
 show [37]++(mD.take (b.toNat / 16+1)).drop (b.toNat / 16)++(mD.take (b.toNat % 16+1)).drop (b.toNat % 16)=_
 rw[sF (by simp[mD];omega) 0,sF (by simp[mD];omega) 0];rfl)
def lS(s:BL):o6 Tryz.prog:=.mk 164 [sV s] [] (s.length<=4611686018427387904) (.tup [sV ((cw s).1),bV ((cw s).2)]) [] (by
 intro hs
 refine aB (N:=73) (rs:=[.tmp 2,.tmp 3]) Tryz.func164
  (.q 2<|.q 3<|.br (.q 2<|.nil) (.q 1<|.q 1<|.loop (Nat×BL) (fun (i,o)=>⟨[(0,sV s),(4,sV o),(5,iN i)],[]⟩) (fun (i,o)=>i<=s.length/\o.length<=3*i/\cn s=(cn (s.drop i)).map (o++ ·)) (fun (i,o)=>s.length-i) (fun (i,o)=>.q 4<|.br (.q 5<|.q 4<|.br (.q 10<|.cg (lW (s.getD (i+1) 0))<|.q 7<|.cg (lW (s.getD (i+2) 0))<|.q 2<|.br (.q 2<|.nil) (.dx 12 [0,1,2,3,4,5,6,7,8,9,10,11] [] []<|.q 1<|.q 1<|.q 1<|.q 1<|.c (lW (s.getD (i+1) 0)) []<|.q 1<|.q 1<|.q 1<|.q 1<|.q 1<|.c (lW (s.getD (i+2) 0)) []<|.q 1<|.q 1<|.h (.n8 56 (iN ((dG (s.getD (i+1) 0) (s.getD (i+2) 0)).toNat)))<|.h (.n8 6 (iN ((dG (s.getD (i+1) 0) (s.getD (i+2) 0)).toNat)))<|.q 3<|.q 2<|.c (lR (dG (s.getD (i+1) 0) (s.getD (i+2) 0))) []<|.br (.q 3<|.bs<|.Od [(dG (s.getD (i+1) 0) (s.getD (i+2) 0))]<|.q 2<|.q 3<|.nil) (.q 2<|.c (rO (dG (s.getD (i+1) 0) (s.getD (i+2) 0))) []<|.q 2<|.q 3<|.nil))) (.q 2<|.c (lR (s.getD i 0)) []<|.br (.q 3<|.bs<|.Od [(s.getD i 0)]<|.q 2<|.q 3<|.nil) (.q 2<|.c (rO (s.getD i 0)) []<|.q 2<|.q 3<|.nil))) (.q 3<|.nil))))
  ((fun v1:Int=>(fun v2:V=>(Br (w3 v1 60) (Q (.tup [sV [],bV false]) v2) ((∃ x:Nat×BL,match x with | (j7,x9)=>(j7<=s.length/\x9.length<=3*j7/\cn s=(cn (s.drop j7)).map (x9++ ·))/\E (sV s)/\Q (sV []) (sV x9)/\Q (iN 0) (iN j7)/\True)/\∀ x:Nat×BL,match x with | (i,o)=>(i<=s.length/\o.length<=3*i/\cn s=(cn (s.drop i)).map (o++ ·))->(fun v9:Int=>(fun v3:Bool=>(fun v4:Bool=>(fun v5:Int=>(fun v6:V=>(fun v7:Int=>(fun v8:Bool=>Br (r8 (i:Int) v1) (Ix (i:Int) s/\m8 v5/\Ix (i:Int) s/\Br (r6 v5 37) (m8 ((i:Int)+2)/\Gd (v3==false) (m8 ((i:Int)+1))/\Gd (v3==false) (Ix ((i+1:Nat):Int) s)/\Gd (v3==false) ((True)/\(lW (s.getD (i+1) 0)).sm)/\Pk v3 true (v3==false)/\Gd v8 (m8 ((i:Int)+2))/\Gd v8 (Ix v9 s)/\Gd v8 ((True)/\(lW (s.getD (i+2) 0)).sm)/\Pk (v3||v4) true v8/\Br ((v3||v4)||(r8 (cU (s.getD (i+2) 0)) 0)) (Q (.tup [sV [],bV false]) v2) (m8 ((i:Int)+1)/\Ix ((i+1:Nat):Int) s/\(lW (s.getD (i+1) 0)).sm/\(True)/\m8 ((cU (s.getD (i+1) 0))*16)/\m8 ((i:Int)+2)/\Ix v9 s/\(lW (s.getD (i+2) 0)).sm/\(True)/\m8 (((cU (s.getD (i+1) 0))*16)+(cU (s.getD (i+2) 0)))/\(v6=iN ((dG (s.getD (i+1) 0) (s.getD (i+2) 0)).toNat))/\(v6=iN ((dG (s.getD (i+1) 0) (s.getD (i+2) 0)).toNat))/\m8 ((i:Int)+2)/\Rh v7/\(lR (dG (s.getD (i+1) 0) (s.getD (i+2) 0))).sm/\(True)/\Br (eW (dG (s.getD (i+1) 0) (s.getD (i+2) 0))) (Rh v7/\(True)/\([uN ((dG (s.getD (i+1) 0) (s.getD (i+2) 0)).toNat)]=[(dG (s.getD (i+1) 0) (s.getD (i+2) 0))].map n7)/\(o.length+([(dG (s.getD (i+1) 0) (s.getD (i+2) 0))]:BL).length<=4611686018427387904)/\m8 (v9+1)/\∃ x:Nat×BL,match x with | (c9,m6)=>(c9<=s.length/\m6.length<=3*c9/\cn s=(cn (s.drop c9)).map (m6++ ·))/\(s.length-c9<s.length-i)/\E (sV s)/\Q (sV (o++[(dG (s.getD (i+1) 0) (s.getD (i+2) 0))])) (sV m6)/\Q (iN ((i+2)+1)) (iN c9)/\True) ((rO (dG (s.getD (i+1) 0) (s.getD (i+2) 0))).sm/\(True)/\(o.length+(fQ (dG (s.getD (i+1) 0) (s.getD (i+2) 0))).length<=4611686018427387904)/\m8 (v9+1)/\∃ x:Nat×BL,match x with | (c9,m6)=>(c9<=s.length/\m6.length<=3*c9/\cn s=(cn (s.drop c9)).map (m6++ ·))/\(s.length-c9<s.length-i)/\E (sV s)/\Q (sV (o++(fQ (dG (s.getD (i+1) 0) (s.getD (i+2) 0))))) (sV m6)/\Q (iN ((i+2)+1)) (iN c9)/\True))) (Rh v5/\(lR (s.getD i 0)).sm/\(True)/\Br (eW (s.getD i 0)) (Rh v5/\(True)/\([uN ((s.getD i 0).toNat)]=[(s.getD i 0)].map n7)/\(o.length+([(s.getD i 0)]:BL).length<=4611686018427387904)/\m8 ((i:Int)+1)/\∃ x:Nat×BL,match x with | (c9,m6)=>(c9<=s.length/\m6.length<=3*c9/\cn s=(cn (s.drop c9)).map (m6++ ·))/\(s.length-c9<s.length-i)/\E (sV s)/\Q (sV (o++[(s.getD i 0)])) (sV m6)/\Q (iN (i+1)) (iN c9)/\True) ((rO (s.getD i 0)).sm/\(True)/\(o.length+(fQ (s.getD i 0)).length<=4611686018427387904)/\m8 ((i:Int)+1)/\∃ x:Nat×BL,match x with | (c9,m6)=>(c9<=s.length/\m6.length<=3*c9/\cn s=(cn (s.drop c9)).map (m6++ ·))/\(s.length-c9<s.length-i)/\E (sV s)/\Q (sV (o++(fQ (s.getD i 0)))) (sV m6)/\Q (iN (i+1)) (iN c9)/\True))) (Q (.tup [sV o,bV true]) v2)) ((v3||v4)==false)) (((dG (s.getD (i+1) 0) (s.getD (i+2) 0)).toNat:Nat):Int)) (iV (((cU (s.getD (i+1) 0))*16)+(cU (s.getD (i+2) 0))):V)) (((s.getD i 0).toNat:Nat):Int)) (r8 (cU (s.getD (i+1) 0)) 0)) (A8 v9 v1)) ((i+2:Nat):Int)))) (.tup [sV ((cw s).1),bV ((cw s).2)])) (s.length:Int)) ?_
 refine bI (fun l3=>?_) fun l3=>?_
 unfold Q
 rw[show cw s=([],false) from if_neg Zaa]
 refine⟨⟨(0,[]),?_,rfl,rfl,rfl,trivial⟩,?_⟩
 refine⟨Zaa,Zab,?_⟩
 cases h:cn s <;> simp[h]
 rintro⟨i,o⟩ ⟨hi,ho,Ou⟩
 refine bI (fun l6=>?_) fun l6=>?_
 refine⟨Zaa,by have:=Zbb (s.getD i 0);omega,Zaa,?_⟩
 refine bI (fun n0=>?_) fun n0=>?_
 refine⟨Zaa,fun hG=>by(try simp only[nb]at hG);omega,fun hG=>by(try simp only[nb]at hG);omega,fun hG=>⟨trivial,rfl⟩,⟨fun _=>rfl,fun h=>by rw[h] <;> rfl⟩,fun hG=>by(try simp only[nb]at hG);omega,fun hG=>by(try simp only[nb]at hG);omega,fun hG=>⟨trivial,rfl⟩,⟨fun _=>rfl,fun h=>by rw[h] <;> rfl⟩,?_⟩
 refine bI (fun x7=>?_) fun x7=>?_
 unfold Q
 rw[show cw s=([],false) from by unfold cw;rw[Ou,Aj Zaa Zaa Zaa];simp]
 refine⟨Zaa,Zaa,rfl,trivial,by have:=hZ (s.getD (i+1) 0);have:=jK (s.getD (i+1) 0);omega,Zaa,Zaa,rfl,trivial,by have:=hZ (s.getD (i+1) 0);have:=jK (s.getD (i+1) 0);have:=hZ (s.getD (i+2) 0);have:=jK (s.getD (i+2) 0);omega,(Zbk iV (vO Zaa Zaa).symm),(Zbk iV (vO Zaa Zaa).symm),Zaa,by have:=Zbb (dG (s.getD (i+1) 0) (s.getD (i+2) 0));omega,rfl,trivial,?_⟩
 refine bI (fun I4=>?_) fun I4=>?_
 refine⟨by have:=Zbb (dG (s.getD (i+1) 0) (s.getD (i+2) 0));omega,trivial,rfl,Zag,Zaa,?_⟩
 refine⟨((i+2)+1,o++[(dG (s.getD (i+1) 0) (s.getD (i+2) 0))]),?_,?_,rfl,rfl,rfl,trivial⟩
 have he:fI (dG (s.getD (i+1) 0) (s.getD (i+2) 0))=[(dG (s.getD (i+1) 0) (s.getD (i+2) 0))]:=by unfold fI;rw[if_pos I4]
 have hl:=fO (dG (s.getD (i+1) 0) (s.getD (i+2) 0))
 rw[he]at hl
 refine⟨Zaa,by rw[Zan];omega,?_⟩
 rw[Ou,rv Zaa Zaa Zaa Zaa,he]
 cases cn (s.drop (i+3)) <;> simp
 exact Zai
 refine⟨rfl,trivial,by have:(fQ (dG (s.getD (i+1) 0) (s.getD (i+2) 0))).length=3:=rfl;(try simp only[Zan,Zap,Zas]);omega,Zaa,?_⟩
 refine⟨((i+2)+1,o++(fQ (dG (s.getD (i+1) 0) (s.getD (i+2) 0)))),?_,?_,rfl,rfl,rfl,trivial⟩
 have he:fI (dG (s.getD (i+1) 0) (s.getD (i+2) 0))=fQ (dG (s.getD (i+1) 0) (s.getD (i+2) 0)):=by unfold fI;rw[if_neg (by rw[I4];decide)]
 have hl:=fO (dG (s.getD (i+1) 0) (s.getD (i+2) 0))
 rw[he]at hl
 refine⟨Zaa,by rw[Zan];omega,?_⟩
 rw[Ou,rv Zaa Zaa Zaa Zaa,he]
 cases cn (s.drop (i+3)) <;> simp
 exact Zai
 refine⟨by have:=Zbb (s.getD i 0);omega,rfl,trivial,?_⟩
 refine bI (fun Pu=>?_) fun Pu=>?_
 refine⟨by have:=Zbb (s.getD i 0);omega,trivial,rfl,Zag,Zaa,?_⟩
 refine⟨(i+1,o++[(s.getD i 0)]),?_,?_,rfl,rfl,rfl,trivial⟩
 have he:fI (s.getD i 0)=[(s.getD i 0)]:=by unfold fI;rw[if_pos Pu]
 have hl:=fO (s.getD i 0)
 rw[he]at hl
 refine⟨Zaa,by rw[Zan];omega,?_⟩
 rw[Ou,pW Zaa Zaa,he]
 cases cn (s.drop (i+1)) <;> simp
 exact Zai
 refine⟨rfl,trivial,by have:(fQ (s.getD i 0)).length=3:=rfl;(try simp only[Zan,Zap,Zas]);omega,Zaa,?_⟩
 refine⟨(i+1,o++(fQ (s.getD i 0))),?_,?_,rfl,rfl,rfl,trivial⟩
 have he:fI (s.getD i 0)=fQ (s.getD i 0):=by unfold fI;rw[if_neg (by rw[Pu];decide)]
 have hl:=fO (s.getD i 0)
 rw[he]at hl
 refine⟨Zaa,by rw[Zan];omega,?_⟩
 rw[Ou,pW Zaa Zaa,he]
 cases cn (s.drop (i+1)) <;> simp
 exact Zai
 unfold Q
 rw[Za6 Zaa]at Ou
 rw[show cw s=(o,true) from by unfold cw;rw[Ou,if_pos Zaa];simp[cn]])
def si(s:BL):o6 Tryz.prog:=.mk 136 [sV s] [] (s.length<=4611686018427387904) (bV (fP s)) [] (by
 intro hs
 refine aB (N:=16) (rs:=[.tmp 2]) Tryz.func136
  (.q 1<|.q 1<|.c (lS s) []<|.q 5<|.q 7<|.nil)
  ((lS s).sm/\((s.length<=4611686018427387904))/\Pk ((cw s).2) (((cw s).2)==true) true/\Q (bV (((cw s).2)&&(((cw s).1)==s))) (bV (fP s))) ?_
 refine⟨rfl,Zae,⟨fun h=>by rw[h] <;> rfl,fun _=>rfl⟩,?_⟩
 unfold Q
 rfl)
abbrev kV(s:BL)(c:UInt8)(o:List BL)(r:BL)(m:Bool)(g:Nat)(f:Nat)(k:Nat):Prop:=(m=true->an c s=o++an c r)/\(m=false->an c s=o)/\o.length+r.length<=s.length+cond m 0 1/\r.length<=s.length
def yS(s:BL)(c:UInt8):o6 Tryz.prog:=.mk 163 [sV s,uN c.toNat] [] (s.length<=1099511627776) (ao (an c s)) [] (by
 intro hs
 refine aB (N:=24) (rs:=[.tmp 4]) Tryz.func163
  (.q 1<|.bs<|.q 1<|.q 2<|.q 1<|.h (.H9 5 1)<|.loop ((List BL)×BL×Bool×Nat×Nat×Nat) (fun (o,r,m,g,f,k)=>⟨[(0,sV s),(1,uN c.toNat),(5,.own 1 (o.map sV) g f k),(6,sV r),(7,bV m)],[]⟩) (fun (o,r,m,g,f,k)=>kV s c o r m g f k) (fun (o,r,m,g,f,k)=>cond m (r.length+1) 0) (fun (o,r,m,g,f,k)=>.q 1<|.br (.q 1<|.q 2<|.c (oN r c) []<|.q 7<|.q 2<|.bs<|.ap (fun g22 UC Vz=>.h (.n8 22 (.own 1 ((o++[(af c r).1]).map sV) g22 UC Vz))<|.q 1<|.nil)) (.h (.fz 5)<|.h (.n8 5 (ao o))<|.q 2<|.nil)))
  ((∃ x:(List BL)×BL×Bool×Nat×Nat×Nat,match x with | (x9,J5,PI,C9,B8,s7)=>(kV s c x9 J5 PI C9 B8 s7)/\E (sV s)/\E (uN c.toNat)/\Q (.own 1 ([].map sV) 0 0 0) (.own 1 (x9.map sV) C9 B8 s7)/\Q (sV s) (sV J5)/\Q (bV true) (bV PI)/\True)/\∀ x:(List BL)×BL×Bool×Nat×Nat×Nat,match x with | (o,r,m,g,f,k)=>(kV s c o r m g f k)->(fun v1:List V=>Br m ((oN r c).sm/\((r.length<=4611686018427387904))/\((1,1,g,f,k,(o.map sV).length)=(1,1,g,f,k,(o.map sV).length))/\(True)/\(V.aK v1=false)/\(aM 1 v1)/\(((o.map sV).length+v1.length)*16<=140737488355328)/\∀ g22 UC Vz:Nat,((.own 1 ((o.map sV)++v1) g22 UC Vz:V)=.own 1 ((o++[(af c r).1]).map sV) g22 UC Vz)/\∃ x:(List BL)×BL×Bool×Nat×Nat×Nat,match x with | (m6,s6,m₂,u7,r9,k₂)=>(kV s c m6 s6 m₂ u7 r9 k₂)/\(cond m₂ (s6.length+1) 0<cond m (r.length+1) 0)/\E (sV s)/\E (uN c.toNat)/\Q (.own 1 ((o++[(af c r).1]).map sV) g22 UC Vz) (.own 1 (m6.map sV) u7 r9 k₂)/\Q (sV ((af c r).2.1)) (sV s6)/\Q (bV ((af c r).2.2)) (bV m₂)/\True) (((.sl false (V.C8 (o.map sV)):V)=ao o)/\Q (ao o) (ao (an c s)))) ([sV ((af c r).1)]:List V)) ?_
 refine⟨⟨([],s,true,0,0,0),?_,rfl,rfl,rfl,rfl,rfl,trivial⟩,?_⟩
 unfold kV
 simp
 rintro⟨o,r,m,g,f,k⟩ ⟨h1,h2,h3,h4⟩
 refine bI (fun l3=>?_) fun l3=>?_
 refine⟨rfl,Zae,rfl,trivial,rfl,by simp[aM,V.n,V.ns],by rw[l3]at h3;simp at h3 ⊢;omega,?_⟩
 intro g22 UC Vz
 refine⟨Zbk (V.own 1 · g22 UC Vz) Zab,?_⟩
 refine⟨(o++[(af c r).1],(af c r).2.1,(af c r).2.2,g22,UC,Vz),?_,?_,rfl,rfl,rfl,rfl,rfl,trivial⟩
 unfold kV
 have hl:=zY c r
 subst l3
 have h1:=h1 rfl
 rw[wB c r]at h1
 have hle:=nV c r
 refine⟨fun hm=>?_,fun hm=>?_,?_,Zaa⟩
 rw[h1,hm];simp
 rw[h1,hm];simp
 simp only[Zan,Zap,Zas];cases hm:(af c r).2.2 <;> simp[hm]at hl h3 ⊢ <;> omega
 have:=zY c r
 subst l3
 cases hm:(af c r).2.2 <;> simp[hm]at this ⊢;omega
 refine⟨Zbk (V.sl false) (aT (fun _=>rfl) _),?_⟩
 unfold Q
 rw[h2 l3])
def uK(ps:List BL):o6 Tryz.prog:=.mk 165 [ao ps] [] (ps.length<=1099511627776) (ao (cy ps)) [] (by
 intro hs
 refine aB (N:=45) (rs:=[.tmp 2]) Tryz.func165
  (.q 1<|.bs<|.q 1<|.q 1<|.h (.H9 3 1)<|.loop (Nat×(List BL)×Nat×Nat×Nat) (fun (i,o,g,f,k)=>⟨[(0,ao ps),(3,.own 1 (o.map sV) g f k),(4,iN i)],[]⟩) (fun (i,o,g,f,k)=>i<=ps.length/\o=cy (ps.take i)/\o.length<=i) (fun (i,o,g,f,k)=>ps.length-i) (fun (i,o,g,f,k)=>.q 4<|.br (.r 13 [sV (ps.getD i []),sV (ps.getD i [])]<|.br (.q 3<|.nil) (.r 6 [sV (ps.getD i [])]<|.br (.q 4<|.mm<|.q 1<|.rs<|.h (.n8 3 (.own 1 (o.dropLast.map sV) g (f+(0+((0:Int).toNat))*1) (k-((0:Int).toNat))))<|.q 3<|.nil) (.r 5 [sV (ps.getD i [])]<|.bs<|.ap (fun g18 UD VA=>.h (.n8 18 (.own 1 ((o++[(ps.getD i [])]).map sV) g18 UD VA))<|.q 1<|.q 3<|.nil)))) (.h (.fz 3)<|.h (.n8 3 (ao o))<|.q 2<|.nil)))
  ((∃ x:Nat×(List BL)×Nat×Nat×Nat,match x with | (j7,x9,C9,B8,s7)=>(j7<=ps.length/\x9=cy (ps.take j7)/\x9.length<=j7)/\E (ao ps)/\Q (.own 1 ([].map sV) 0 0 0) (.own 1 (x9.map sV) C9 B8 s7)/\Q (iN 0) (iN j7)/\True)/\∀ x:Nat×(List BL)×Nat×Nat×Nat,match x with | (i,o,g,f,k)=>(i<=ps.length/\o=cy (ps.take i)/\o.length<=i)->(fun v1:Int=>(fun v2:List V=>(fun v3:Bool=>(fun v4:V=>Br (r8 (i:Int) (((ps.map sV).length:Nat):Int)) (Ex (i:Int) (ps.map sV) v4/\True/\Gd v3 (Ex (i:Int) (ps.map sV) v4)/\Gd v3 True/\Pk ((ps.getD i [])==[]) true v3/\Br (((ps.getD i [])==[])||((ps.getD i [])==([46]:BL))) (m8 ((i:Int)+1)/\∃ x:Nat×(List BL)×Nat×Nat×Nat,match x with | (c9,m6,u7,r9,k₂)=>(c9<=ps.length/\m6=cy (ps.take c9)/\m6.length<=c9)/\(ps.length-c9<ps.length-i)/\E (ao ps)/\Q (.own 1 (o.map sV) g f k) (.own 1 (m6.map sV) u7 r9 k₂)/\Q (iN (i+1)) (iN c9)/\True) (Ex (i:Int) (ps.map sV) v4/\True/\Br ((ps.getD i [])==([46,46]:BL)) (m8 (v1-1)/\(IntKind.i64=IntKind.i64)/\((0:Int)<=(0:Int)/\(0:Int)<=(max (v1-1) 0)/\(max (v1-1) 0)<=((o.map sV).length)/\1=1)/\((3,1,g,f)=(3,1,g,f))/\((0+((0:Int).toNat))+((Int.toNat (max (v1-1) 0))-((0:Int).toNat))<=(o.map sV).length/\(0+((0:Int).toNat))+(k-((0:Int).toNat))<=k/\V.aK (o.map sV)=false)/\((.own 1 (((o.map sV).drop (0+((0:Int).toNat))).take ((Int.toNat (max (v1-1) 0))-((0:Int).toNat))) g (f+(0+((0:Int).toNat))*1) (k-((0:Int).toNat)):V)=.own 1 (o.dropLast.map sV) g (f+(0+((0:Int).toNat))*1) (k-((0:Int).toNat)))/\m8 ((i:Int)+1)/\∃ x:Nat×(List BL)×Nat×Nat×Nat,match x with | (c9,m6,u7,r9,k₂)=>(c9<=ps.length/\m6=cy (ps.take c9)/\m6.length<=c9)/\(ps.length-c9<ps.length-i)/\E (ao ps)/\Q (.own 1 (o.dropLast.map sV) g (f+(0+((0:Int).toNat))*1) (k-((0:Int).toNat))) (.own 1 (m6.map sV) u7 r9 k₂)/\Q (iN (i+1)) (iN c9)/\True) (Ex (i:Int) (ps.map sV) v4/\True/\((1,1,g,f,k,(o.map sV).length)=(1,1,g,f,k,(o.map sV).length))/\(True)/\(V.aK v2=false)/\(aM 1 v2)/\(((o.map sV).length+v2.length)*16<=140737488355328)/\∀ g18 UD VA:Nat,((.own 1 ((o.map sV)++v2) g18 UD VA:V)=.own 1 ((o++[(ps.getD i [])]).map sV) g18 UD VA)/\m8 ((i:Int)+1)/\∃ x:Nat×(List BL)×Nat×Nat×Nat,match x with | (c9,m6,u7,r9,k₂)=>(c9<=ps.length/\m6=cy (ps.take c9)/\m6.length<=c9)/\(ps.length-c9<ps.length-i)/\E (ao ps)/\Q (.own 1 ((o++[(ps.getD i [])]).map sV) g18 UD VA) (.own 1 (m6.map sV) u7 r9 k₂)/\Q (iN (i+1)) (iN c9)/\True))) (((.sl false (V.C8 (o.map sV)):V)=ao o)/\Q (ao o) (ao (cy ps)))) (sV (ps.getD i []))) (((ps.getD i [])==[])==false)) ([sV (ps.getD i [])]:List V)) (((o.map sV).length:Nat):Int)) ?_
 refine⟨⟨(0,[],0,0,0),?_,rfl,rfl,rfl,trivial⟩,?_⟩
 simp[cy]
 rintro⟨i,o,g,f,k⟩ ⟨h1,h2,h3⟩
 refine bI (fun l3=>?_) fun l3=>?_
 refine⟨⟨Zaa,aq (d:=[]) Zaa⟩,trivial,fun hG=>⟨Zaa,aq (d:=[]) Zaa⟩,fun hG=>trivial,⟨fun _=>rfl,fun h=>by rw[h] <;> rfl⟩,?_⟩
 refine bI (fun l6=>?_) fun l6=>?_
 refine⟨Zaa,?_⟩
 refine⟨(i+1,o,g,f,k),?_,?_,rfl,rfl,rfl,trivial⟩
 refine⟨Zaa,?_,Zaa⟩
 rw[jr Zaa,<- h2,dt,if_pos l6]
 exact Zai
 refine⟨⟨Zaa,aq (d:=[]) Zaa⟩,trivial,?_⟩
 refine bI (fun n0=>?_) fun n0=>?_
 refine⟨Zah,rfl,⟨Zaa,Zaa,Zaa,rfl⟩,rfl,⟨by simp <;> omega,Zab,cP (fun _=>rfl) _⟩,Zbk (V.own 1 · g (f+(0+((0:Int).toNat))*1) (k-((0:Int).toNat))) (by rw[show (0+Int.toNat 0)=0 from rfl,List.drop_zero,<- List.map_take,List.dropLast_eq_take];congr 2;simp;omega),Zaa,?_⟩
 refine⟨(i+1,o.dropLast,g,f+(0+((0:Int).toNat))*1,k-((0:Int).toNat)),?_,?_,rfl,rfl,rfl,trivial⟩
 refine⟨Zaa,?_,Zaj⟩
 rw[jr Zaa,<- h2,dt,if_neg (by simpa using l6),if_pos n0]
 exact Zai
 refine⟨⟨Zaa,aq (d:=[]) Zaa⟩,trivial,rfl,trivial,rfl,by simp[aM,V.n,V.ns],Zaj,?_⟩
 intro g18 UD VA
 refine⟨Zbk (V.own 1 · g18 UD VA) Zab,Zaa,?_⟩
 refine⟨(i+1,o++[(ps.getD i [])],g18,UD,VA),?_,?_,rfl,rfl,rfl,trivial⟩
 refine⟨Zaa,?_,Zaj⟩
 rw[jr Zaa,<- h2,dt,if_neg (by simpa using l6),if_neg n0]
 exact Zai
 refine⟨Zbk (V.sl false) (aT (fun _=>rfl) _),?_⟩
 unfold Q
 rw[h2,Zax Zaa])
abbrev cb(p0:BL)(p1:List BL)(p2:Bool)(p3:BL):V:=.agg [sV p0,.sl false (p1.map sV),bV p2,sV p3]
def AP(a:s4):o6 Tryz.prog:=.mk 137 [cb a.b7 a.e9 a.asks a.ask] [] (eZ a) (sV (bz a)) [] (by
 intro ha
 obtain⟨z1,z2,z3,z4⟩:=ha
 refine aB (N:=31) (rs:=[.tmp 2]) Tryz.func137
  (.bx (fun g1=>.q 1<|.q 1<|.q 1<|.loop (Nat×BL) (fun (i,o)=>⟨[(1,.ptr (.key 1) [] g1 0),(3,sV o),(4,iN i)],[(1,(g1,cb a.b7 a.e9 a.asks a.ask))]⟩) (fun (i,o)=>i<=a.e9.length/\o=[47]++cI (a.e9.take i)) (fun (i,o)=>a.e9.length-i) (fun (i,o)=>.r 5 [.b9]<|.br (.q 2<|.br (.q 3<|.r 8 [.b9,sV (a.e9.getD i [])]<|.q 3<|.nil) (.r 8 [.b9,sV (a.e9.getD i [])]<|.q 3<|.nil)) (.r 2 [.b9]<|.br (.r 6 [.b9]<|.q 2<|.nil) (.q 2<|.nil)))))
  ((fun v1:V=>(fun v2:BL=>(∀ g1:Nat,(∃ x:Nat×BL,match x with | (j7,x9)=>(j7<=a.e9.length/\x9=[47]++cI (a.e9.take j7))/\E (.ptr (.key 1) [] g1 0)/\Q (sV v2) (sV x9)/\Q (iN 0) (iN j7)/\Er g1 v1/\True)/\∀ x:Nat×BL,match x with | (i,o)=>(i<=a.e9.length/\o=[47]++cI (a.e9.take i))->Z g1 1/\Br (r8 (i:Int) (((a.e9.map sV).length:Nat):Int)) (Br (w3 (i:Int) 0) ((o.length+v2.length<=4611686018427387904)/\Z g1 1/\Ex (i:Int) (a.e9.map sV) (sV (a.e9.getD i []))/\True/\((o++v2).length+(a.e9.getD i []).length<=4611686018427387904)/\m8 ((i:Int)+1)/\∃ x:Nat×BL,match x with | (c9,m6)=>(c9<=a.e9.length/\m6=[47]++cI (a.e9.take c9))/\(a.e9.length-c9<a.e9.length-i)/\E (.ptr (.key 1) [] g1 0)/\Q (sV ((o++v2)++(a.e9.getD i []))) (sV m6)/\Q (iN (i+1)) (iN c9)/\Er g1 v1/\True) (Z g1 1/\Ex (i:Int) (a.e9.map sV) (sV (a.e9.getD i []))/\True/\(o.length+(a.e9.getD i []).length<=4611686018427387904)/\m8 ((i:Int)+1)/\∃ x:Nat×BL,match x with | (c9,m6)=>(c9<=a.e9.length/\m6=[47]++cI (a.e9.take c9))/\(a.e9.length-c9<a.e9.length-i)/\E (.ptr (.key 1) [] g1 0)/\Q (sV (o++(a.e9.getD i []))) (sV m6)/\Q (iN (i+1)) (iN c9)/\Er g1 v1/\True)) (Z g1 2/\Br a.asks ((o.length+([63]:BL).length<=4611686018427387904)/\Z g1 3/\((o++([63]:BL)).length+a.ask.length<=4611686018427387904)/\Q (sV ((o++([63]:BL))++a.ask)) (sV (bz a))) (Q (sV o) (sV (bz a)))))) ([47]:BL)) (cb a.b7 a.e9 a.asks a.ask)) ?_
 intro g1
 refine⟨⟨(0,[47]),?_,rfl,Zaf,rfl,rfl,trivial⟩,?_⟩
 simp[cI]
 rintro⟨i,o⟩ ⟨h1,h2⟩
 have hl:=sX z4 i h1
 have UY:o.length<=1+i*1048577:=by rw[h2];simp;omega
 have ZX:=z4 i
 refine⟨rfl,?_⟩
 refine bI (fun l3=>?_) fun l3=>?_
 refine bI (fun l6=>?_) fun l6=>?_
 refine⟨Zag,rfl,⟨Zaa,aq (d:=[]) Zaa⟩,trivial,Zag,Zaa,?_⟩
 refine⟨(i+1,(o++([47]:BL))++(a.e9.getD i [])),?_,?_,rfl,rfl,rfl,rfl,trivial⟩
 refine⟨Zaa,?_⟩
 rw[h2,bA (by omega:i<a.e9.length) [],oI,if_neg (by intro h;have:=Zbk List.length h;simp only[List.length_take,Zas]at this;omega)]
 simp[List.append_assoc]
 exact Zai
 refine⟨rfl,⟨Zaa,aq (d:=[]) Zaa⟩,trivial,Zag,Zaa,?_⟩
 refine⟨(i+1,o++(a.e9.getD i [])),?_,?_,rfl,rfl,rfl,rfl,trivial⟩
 refine⟨Zaa,?_⟩
 have hi0:i=0:=Zaa
 subst hi0
 rw[h2,bA (by omega:0<a.e9.length) []];simp[cI]
 exact Zai
 refine⟨rfl,?_⟩
 refine bI (fun n0=>?_) fun n0=>?_
 refine⟨Zag,rfl,Zag,?_⟩
 unfold Q
 refine Zbk sV ?_
 rw[h2,Zax Zaa]
 unfold bz;rw[if_pos n0];simp[List.append_assoc]
 unfold Q
 refine Zbk sV ?_
 rw[h2,Zax Zaa]
 unfold bz;rw[if_neg (by rw[n0];decide)];simp)
def qX(a:s4):o6 Tryz.prog:=.mk 111 [cb a.b7 a.e9 a.asks a.ask] [] (eZ a) (sV (cX a)) [] (by
 intro ha
 have hp:=Fe ha
 have h1:=ha.1
 refine aB (N:=9) (rs:=[.tmp 2]) Tryz.func111
  (.bx (fun g1=>.q 1<|.dx 6 [0,1,2,3,4,5] [(1,⟨false,[],some [1],[4],[]⟩),(3,⟨false,[],some [1],[6],[]⟩)] []<|.q 1<|.r 1 [.b9]<|.q 1<|.r 1 [.b9]<|.c (AP a) []<|.q 1<|.q 1<|.nil))
  (∀ g1:Nat,Z g1 0/\(([47,47]:BL).length+a.b7.length<=4611686018427387904)/\Z g1 0/\(AP a).sm/\((eZ a))/\((([47,47]:BL)++a.b7).length+(bz a).length<=4611686018427387904)/\Q (sV ((([47,47]:BL)++a.b7)++(bz a))) (sV (cX a))) ?_
 intro g1
 refine⟨rfl,Zag,rfl,rfl,by first | assumption | exact wZ _ | simp_all,Zag,?_⟩
 unfold Q
 rfl)
def rh(a:s4):o6 Tryz.prog:=.mk 110 [cb a.b7 a.e9 a.asks a.ask] [] (eZ a) (bV (aO a)) [] (by
 intro ha
 obtain⟨z1,z2,z3,z4⟩:=id ha
 refine aB (N:=72) (rs:=[.tmp 2]) Tryz.func110
  (.bx (fun g1=>.q 1<|.r 2 [.b9]<|.c (ym a.b7) []<|.r 10 [.b9,.b9]<|.cg (si a.ask)<|.r 12 [.b9,.b9]<|.br (.q 1<|.nil) (.q 1<|.loop (Nat) (fun (i:Nat)=>⟨[(1,.ptr (.key 1) [] g1 0),(3,iN i)],[(1,(g1,cb a.b7 a.e9 a.asks a.ask))]⟩) (fun (i:Nat)=>i<=a.e9.length/\∀ j,j<i->fb (a.e9.getD j [])=true) (fun (i:Nat)=>a.e9.length-i) (fun (i:Nat)=>.r 5 [.b9]<|.br (.r 5 [.b9,sV (a.e9.getD i [])]<|.c (si (a.e9.getD i [])) []<|.r 25 [.b9,sV (a.e9.getD i []),.b9,sV (a.e9.getD i []),.b9,sV (a.e9.getD i [])]<|.br (.q 1<|.nil) (.q 3<|.nil)) (.r 1 [.b9]<|.c (qX a) []<|.q 3<|.nil)))))
  ((fun v1:Bool=>(fun v3:Bool=>(fun v2:Bool=>(fun v4:BL=>(∀ g1:Nat,Z g1 0/\(ym a.b7).sm/\((a.b7.length<=4611686018427387904))/\Gd (v3==false) (Z g1 1)/\Pk v3 true (v3==false)/\Gd ((v3||v1)==false) (Z g1 3)/\Gd ((v3||v1)==false) (((a.ask.length<=4611686018427387904))/\(si a.ask).sm)/\Pk (v3||v1) true ((v3||v1)==false)/\Gd v2 (Z g1 2)/\Gd (v2&&((!a.asks)==true)) (Z g1 3)/\Gd v2 (Pk (!a.asks) (v2&&((!a.asks)==true)) true)/\Pk ((v3||v1)||(!(fP a.ask))) true v2/\Br (((v3||v1)||(!(fP a.ask)))||((!a.asks)&&(!(a.ask==[])))) (Q (bV false) (bV (aO a))) ((∃ j7:Nat,(j7<=a.e9.length/\∀ j,j<j7->fb (a.e9.getD j [])=true)/\E (.ptr (.key 1) [] g1 0)/\Q (iN 0) (iN j7)/\Er g1 (cb a.b7 a.e9 a.asks a.ask)/\True)/\∀ i:Nat,(i<=a.e9.length/\∀ j,j<i->fb (a.e9.getD j [])=true)->(fun v5:Bool=>(fun v6:Bool=>(fun v7:Bool=>(fun v8:V=>Z g1 1/\Br (r8 (i:Int) (((a.e9.map sV).length:Nat):Int)) (Z g1 1/\Ex (i:Int) (a.e9.map sV) v8/\True/\(si (a.e9.getD i [])).sm/\(((a.e9.getD i []).length<=4611686018427387904))/\Gd (v5==false) (Z g1 1)/\Gd (v5==false) (Ex (i:Int) (a.e9.map sV) v8)/\Gd (v5==false) True/\Pk v5 true (v5==false)/\Gd v7 (Z g1 1)/\Gd v7 (Ex (i:Int) (a.e9.map sV) v8)/\Gd v7 True/\Pk (v5||((a.e9.getD i [])==[])) true v7/\Gd v6 (Z g1 1)/\Gd v6 (Ex (i:Int) (a.e9.map sV) v8)/\Gd v6 True/\Pk ((v5||((a.e9.getD i [])==[]))||((a.e9.getD i [])==v4)) true v6/\Br (((v5||((a.e9.getD i [])==[]))||((a.e9.getD i [])==v4))||((a.e9.getD i [])==([46,46]:BL))) (Q (bV false) (bV (aO a))) (m8 ((i:Int)+1)/\∃ c9:Nat,(c9<=a.e9.length/\∀ j,j<c9->fb (a.e9.getD j [])=true)/\(a.e9.length-c9<a.e9.length-i)/\E (.ptr (.key 1) [] g1 0)/\Q (iN (i+1)) (iN c9)/\Er g1 (cb a.b7 a.e9 a.asks a.ask)/\True)) (Z g1 0/\(qX a).sm/\((eZ a))/\Q (bV (E5 (((cX a).length:Nat):Int) 60)) (bV (aO a)))) (sV (a.e9.getD i []))) ((v5||((a.e9.getD i [])==[]))==false)) (((v5||((a.e9.getD i [])==[]))||((a.e9.getD i [])==v4))==false)) (!(fP (a.e9.getD i [])))))) ([46]:BL)) (((v3||v1)||(!(fP a.ask)))==false)) (!(cW a.b7))) (w3 (((a.e9.map sV).length:Nat):Int) 5)) ?_
 intro g1
 refine⟨rfl,rfl,Zae,fun hG=>rfl,⟨fun _=>rfl,fun h=>by rw[h] <;> rfl⟩,fun hG=>rfl,fun hG=>⟨by(try simp only[nb]at hG);first | assumption | omega | (simp;omega),rfl⟩,⟨fun _=>rfl,fun h=>by rw[h] <;> rfl⟩,fun hG=>rfl,fun hG=>rfl,fun hG=>⟨fun h=>by rw[h];exact(Zam _ _).mpr ⟨hG,rfl⟩,fun _=>rfl⟩,⟨fun _=>rfl,fun h=>by rw[h] <;> rfl⟩,?_⟩
 refine bI (fun l3=>?_) fun l3=>?_
 unfold Q
 refine Zbk bV ?_
 unfold aO
 grind
 refine⟨⟨0,?_,rfl,rfl,rfl,trivial⟩,?_⟩
 simp
 rintro i ⟨h1,h2⟩
 have ZX:=z4 i
 refine⟨rfl,?_⟩
 refine bI (fun l6=>?_) fun l6=>?_
 refine⟨rfl,⟨Zaa,aq (d:=[]) Zaa⟩,trivial,rfl,Zae,fun hG=>rfl,fun hG=>⟨Zaa,aq (d:=[]) Zaa⟩,fun hG=>trivial,⟨fun _=>rfl,fun h=>by rw[h] <;> rfl⟩,fun hG=>rfl,fun hG=>⟨Zaa,aq (d:=[]) Zaa⟩,fun hG=>trivial,⟨fun _=>rfl,fun h=>by rw[h] <;> rfl⟩,fun hG=>rfl,fun hG=>⟨Zaa,aq (d:=[]) Zaa⟩,fun hG=>trivial,⟨fun _=>rfl,fun h=>by rw[h] <;> rfl⟩,?_⟩
 refine bI (fun n0=>?_) fun n0=>?_
 unfold Q
 refine Zbk bV ?_
 unfold aO
 rw[all_false (i:=i) (d:=[]) Zaa (by simp only[fb];grind)];simp
 refine⟨Zaa,?_⟩
 refine⟨i+1,?_,?_,rfl,rfl,rfl,trivial⟩
 refine⟨Zaa,bJ h2 ?_⟩
 simp only[fb];grind
 exact Zai
 refine⟨rfl,rfl,by first | assumption | exact wZ _ | simp_all,?_⟩
 unfold Q
 refine Zbk bV ?_
 unfold aO
 rw[all_true (d:=[]) (fun j hj=>h2 j Zaa)]
 grind)
def lj(a:s4):o6 Tryz.prog:=.mk 81 [cb a.b7 a.e9 a.asks a.ask] [] (eZ a) (sV (if aO a=true then cX a else [])) [] (by
 intro ha
 refine aB (N:=8) (rs:=[.tmp 2]) Tryz.func81
  (.bx (fun g1=>.q 1<|.r 1 [.b9]<|.c (rh a) []<|.q 1<|.br (.q 1<|.nil) (.r 1 [.b9]<|.c (qX a) []<|.q 1<|.nil)))
  (∀ g1:Nat,Z g1 0/\(rh a).sm/\((eZ a))/\Br (!(aO a)) (Q (sV []) (sV (if aO a=true then cX a else []))) (Z g1 0/\(qX a).sm/\((eZ a))/\Q (sV (cX a)) (sV (if aO a=true then cX a else [])))) ?_
 intro g1
 refine⟨rfl,rfl,by first | assumption | exact wZ _ | simp_all,?_⟩
 refine bI (fun l3=>?_) fun l3=>?_
 unfold Q
 rw[if_neg (by rw[l3];decide)]
 refine⟨rfl,rfl,by first | assumption | exact wZ _ | simp_all,?_⟩
 unfold Q
 rw[if_pos l3])
def pS(s:BL):o6 Tryz.prog:=.mk 134 [sV s] [] (s.length<=1099511627776) (sV (bm s)) [] (by
 intro hs
 refine aB (N:=35) (rs:=[.tmp 2]) Tryz.func134
  (.q 1<|.q 1<|.sb s (fun g6 c6=>.q 1<|.q 1<|.loop (Nat×BL×Nat×Nat) (fun (i,l,g,k)=>⟨[(3,.own 1 (l.map n7) g 0 k),(4,iN i)],[]⟩) (fun (i,l,g,k)=>i<=s.length/\l.length=s.length/\l=bm (s.take i)++s.drop i) (fun (i,l,g,k)=>s.length-i) (fun (i,l,g,k)=>.q 4<|.br (.r 12 [uN ((l.getD i 0).toNat),uN ((l.getD i 0).toNat)]<|.br (.r 8 [uN ((l.getD i 0).toNat)]<|.h (.n8 31 (uN ((eM (l.getD i 0)).toNat)))<|.st (some (uN ((l.getD i 0).toNat)))<|.h (.n8 3 (.own 1 ((l.set i (eM (l.getD i 0))).map n7) g 0 k))<|.q 3<|.nil) (.q 3<|.nil)) (.q 1<|.Od l<|.q 1<|.nil))))
  (((sV s:V)=sV s)/\∀ g6 c6:Nat,(∃ x:Nat×BL×Nat×Nat,match x with | (j7,Pr,C9,s7)=>(j7<=s.length/\Pr.length=s.length/\Pr=bm (s.take j7)++s.drop j7)/\Q (.own 1 (s.map n7) g6 0 c6) (.own 1 (Pr.map n7) C9 0 s7)/\Q (iN 0) (iN j7)/\True)/\∀ x:Nat×BL×Nat×Nat,match x with | (i,l,g,k)=>(i<=s.length/\l.length=s.length/\l=bm (s.take i)++s.drop i)->(fun v1:Int=>(fun v2:V=>Br (r8 (i:Int) (((l.map n7).length:Nat):Int)) (In (i:Int) ((l.map n7).length)/\(V.at g 0 v2 [0+i]=some (g,(0+(0+i)*1),uN ((l.getD i 0).toNat)))/\Gd ((A8 v1 65)==true) (In (i:Int) ((l.map n7).length))/\Gd ((A8 v1 65)==true) (V.at g 0 v2 [0+i]=some (g,(0+(0+i)*1),uN ((l.getD i 0).toNat)))/\Pk (A8 v1 65) ((A8 v1 65)==true) true/\Br ((A8 v1 65)&&(E5 v1 90)) (In (i:Int) ((l.map n7).length)/\(V.at g 0 v2 [0+i]=some (g,(0+(0+i)*1),uN ((l.getD i 0).toNat)))/\Rh (v1+32)/\In (i:Int) ((l.map n7).length)/\((uN (((l.getD i 0).toNat)+32):V)=uN ((eM (l.getD i 0)).toNat))/\(V.at g 0 v2 [0+i]=some (g,(0+(0+i)*1),uN ((l.getD i 0).toNat)))/\(V.set v2 [0+i] (uN ((eM (l.getD i 0)).toNat))=.own 1 ((l.set i (eM (l.getD i 0))).map n7) g 0 k)/\m8 ((i:Int)+1)/\∃ x:Nat×BL×Nat×Nat,match x with | (c9,G6,u7,k₂)=>(c9<=s.length/\G6.length=s.length/\G6=bm (s.take c9)++s.drop c9)/\(s.length-c9<s.length-i)/\Q (.own 1 ((l.set i (eM (l.getD i 0))).map n7) g 0 k) (.own 1 (G6.map n7) u7 0 k₂)/\Q (iN (i+1)) (iN c9)/\True) (m8 ((i:Int)+1)/\∃ x:Nat×BL×Nat×Nat,match x with | (c9,G6,u7,k₂)=>(c9<=s.length/\G6.length=s.length/\G6=bm (s.take c9)++s.drop c9)/\(s.length-c9<s.length-i)/\Q v2 (.own 1 (G6.map n7) u7 0 k₂)/\Q (iN (i+1)) (iN c9)/\True)) (((1=1/\g=g/\0=0)/\0+((l.map n7).length)<=(l.map n7).length/\V.aK (l.map n7)=false/\aM 1 (l.map n7))/\(((l.map n7).drop 0).take ((l.map n7).length)=l.map n7)/\Q (sV l) (sV (bm s)))) (.own 1 (l.map n7) g 0 k)) (((l.getD i 0).toNat:Nat):Int)) ?_
 refine⟨rfl,?_⟩
 intro g6 c6
 refine⟨⟨(0,s,g6,c6),?_,rfl,rfl,trivial⟩,?_⟩
 simp[bm]
 rintro⟨i,l,g,k⟩ ⟨h1,h2,h3⟩
 have hbi:=(l.getD i 0).toNat_lt
 refine bI (fun l3=>?_) fun l3=>?_
 refine⟨Zah,ig (by rw[Zau];exact aq (d:=0) Zaa),fun hG=>by(try simp only[nb]at hG);(try simp only[Zaw]at *);omega,fun hG=>ig (by rw[Zau];exact aq (d:=0) Zaa),⟨fun h=>by rw[h] <;> rfl,fun _=>rfl⟩,?_⟩
 refine bI (fun l6=>?_) fun l6=>?_
 refine⟨Zah,ig (by rw[Zau];exact aq (d:=0) Zaa),by have:=Zbb (l.getD i 0);omega,Zah,(Zbk uN (zg Zaa).symm),ig (by rw[Zau];exact aq (d:=0) Zaa),pw (by rw[Zau];exact aq (d:=0) Zaa) (by rw[Zau];exact(List.map_set ..).symm),Zaa,?_⟩
 refine⟨(i+1,l.set i (eM (l.getD i 0)),g,k),?_,?_,rfl,rfl,trivial⟩
 refine⟨Zaa,by simp[h2],?_⟩
 exact yH Zaa h3
 exact Zai
 refine⟨Zaa,?_⟩
 refine⟨(i+1,l,g,k),?_,?_,rfl,rfl,trivial⟩
 refine⟨Zaa,h2,?_⟩
 exact wN Zaa h3 Zaa
 exact Zai
 refine⟨⟨⟨rfl,rfl,rfl⟩,Zab,qv _,tO _⟩,by simp[Zax],?_⟩
 unfold Q
 rw[h3,Za6 Zaa,Zax Zaa,List.append_nil])
abbrev ik(p0:V):V:=.agg [sV [],p0,bV false,sV []]
abbrev nf(a:s4)(o5:BL):V:=.tup [cb ((oA (cR a.b7 a.e9 o5)).b7) ((oA (cR a.b7 a.e9 o5)).e9) ((oA (cR a.b7 a.e9 o5)).asks) ((oA (cR a.b7 a.e9 o5)).ask),bV ((cR a.b7 a.e9 o5).isSome)]
abbrev mO(a:s4)(o5:BL)(i:Nat)(o:List BL)(g:Nat)(f:Nat)(k:Nat):Prop:=i<=(an 47 (af 63 o5).1).length/\o=a.e9++((an 47 (af 63 o5).1).take i).map fG/\((an 47 (af 63 o5).1).take i).all gz=true
def uo(a:s4)(o5:BL):o6 Tryz.prog:=.mk 133 [cb a.b7 a.e9 a.asks a.ask,sV o5] [] ((eZ a)/\(o5.length<=1000)/\(a.e9.length<=1000)) (nf a o5) [] (by
 rintro⟨ha,hw,hp⟩
 have O3:=nV 63 o5
 have Qy:=tt 47 (af 63 o5).1
 refine aB (N:=70) (rs:=[.cell 4 96,.tmp 5]) Tryz.func133
  (.bx (fun g2=>.al dw (fun g4=>.q 1<|.q 1<|.c (oN o5 (63:UInt8)) []<|.q 7<|.bs<|.r 2 [.b9]<|.ap (fun RQ UA Vx=>.h (.n8 25 (.own 1 (a.e9.map sV) RQ UA Vx))<|.q 1<|.q 1<|.c (yS ((af (63:UInt8) o5).1) (47:UInt8)) []<|.q 1<|.q 1<|.loop (Nat×(List BL)×Nat×Nat×Nat) (fun (i,o,g,f,k)=>⟨[(2,.ptr (.key 2) [] g2 0),(4,.ptr (.key 4) [] g4 0),(6,sV ((af 63 o5).2.1)),(7,bV ((af 63 o5).2.2)),(8,.own 1 (o.map sV) g f k),(9,ao (an 47 (af 63 o5).1)),(10,iN i)],[(2,(g2,cb a.b7 a.e9 a.asks a.ask)),(4,(g4,ik (.sl true [])))]⟩) (fun (i,o,g,f,k)=>mO a o5 i o g f k) (fun (i,o,g,f,k)=>(an 47 (af 63 o5).1).length-i) (fun (i,o,g,f,k)=>.q 4<|.br (.r 4 [sV ((an 47 (af 63 o5).1).getD i [])]<|.c (lS ((an 47 (af 63 o5).1).getD i [])) []<|.q 5<|.q 2<|.br (.bd dw<|.st none<|.q 1<|.nil) (.q 2<|.bs<|.ap (fun N9 N4 Oa=>.h (.n8 48 (.own 1 ((o++[(cw ((an 47 (af 63 o5).1).getD i [])).1]).map sV) N9 N4 Oa))<|.q 1<|.q 3<|.nil))) (.q 1<|.c (lS ((af 63 o5).2.1)) []<|.q 5<|.h (.fz 8)<|.h (.n8 8 (ao o))<|.dx 8 [0,1,2,3,4,5,6,7] [(1,⟨false,[],some [2],[55],[]⟩)] [(7,dw)]<|.q 1<|.r 1 [.b9]<|.q 1<|.c (uK o) []<|.q 1<|.q 1<|.bd dw<|.ua (fun g15=>.st none<|.r 4 [.b9]<|.cg (rh (⟨a.b7,cy o,(af 63 o5).2.2,(cw ((af 63 o5).2.1)).1⟩:s4))<|.q 2<|.br (.bd dw<|.st none<|.q 1<|.nil) (.r 1 [.b9]<|.st none<|.q 1<|.nil))))))))
  ((fun v1:Bool=>(∀ g2:Nat,∀ g4:Nat,(oN o5 (63:UInt8)).sm/\((o5.length<=4611686018427387904))/\Z g2 1/\(True)/\(True)/\(V.aK (a.e9.map sV)=false)/\(aM 1 (a.e9.map sV))/\((([]:List V).length+(a.e9.map sV).length)*16<=140737488355328)/\∀ RQ UA Vx:Nat,((.own 1 (([]:List V)++(a.e9.map sV)) RQ UA Vx:V)=.own 1 (a.e9.map sV) RQ UA Vx)/\(yS ((af (63:UInt8) o5).1) (47:UInt8)).sm/\((((af (63:UInt8) o5).1).length<=1099511627776))/\(∃ x:Nat×(List BL)×Nat×Nat×Nat,match x with | (j7,x9,C9,B8,s7)=>(mO a o5 j7 x9 C9 B8 s7)/\E (.ptr (.key 2) [] g2 0)/\E (.ptr (.key 4) [] g4 0)/\Q (sV ((af (63:UInt8) o5).2.1)) (sV ((af 63 o5).2.1))/\Q (bV ((af (63:UInt8) o5).2.2)) (bV ((af 63 o5).2.2))/\Q (.own 1 (a.e9.map sV) RQ UA Vx) (.own 1 (x9.map sV) C9 B8 s7)/\Q (ao (an (47:UInt8) ((af (63:UInt8) o5).1))) (ao (an 47 (af 63 o5).1))/\Q (iN 0) (iN j7)/\Er g2 (cb a.b7 a.e9 a.asks a.ask)/\Er g4 (ik (.sl true []))/\True)/\∀ x:Nat×(List BL)×Nat×Nat×Nat,match x with | (i,o,g,f,k)=>(mO a o5 i o g f k)->(fun v2:List V=>Br (r8 (i:Int) ((((an 47 (af 63 o5).1).map sV).length:Nat):Int)) (Ex (i:Int) ((an 47 (af 63 o5).1).map sV) (sV ((an 47 (af 63 o5).1).getD i []))/\True/\(lS ((an 47 (af 63 o5).1).getD i [])).sm/\((((an 47 (af 63 o5).1).getD i []).length<=4611686018427387904))/\Br (!((cw ((an 47 (af 63 o5).1).getD i [])).2)) (Z g4 0/\(g4=g4)/\Q (.tup [ik (.sl false []),bV false]) (nf a o5)) (((1,1,g,f,k,(o.map sV).length)=(1,1,g,f,k,(o.map sV).length))/\(True)/\(V.aK v2=false)/\(aM 1 v2)/\(((o.map sV).length+v2.length)*16<=140737488355328)/\∀ N9 N4 Oa:Nat,((.own 1 ((o.map sV)++v2) N9 N4 Oa:V)=.own 1 ((o++[(cw ((an 47 (af 63 o5).1).getD i [])).1]).map sV) N9 N4 Oa)/\m8 ((i:Int)+1)/\∃ x:Nat×(List BL)×Nat×Nat×Nat,match x with | (c9,m6,u7,r9,k₂)=>(mO a o5 c9 m6 u7 r9 k₂)/\((an 47 (af 63 o5).1).length-c9<(an 47 (af 63 o5).1).length-i)/\E (.ptr (.key 2) [] g2 0)/\E (.ptr (.key 4) [] g4 0)/\E (sV ((af 63 o5).2.1))/\E (bV ((af 63 o5).2.2))/\Q (.own 1 ((o++[(cw ((an 47 (af 63 o5).1).getD i [])).1]).map sV) N9 N4 Oa) (.own 1 (m6.map sV) u7 r9 k₂)/\E (ao (an 47 (af 63 o5).1))/\Q (iN (i+1)) (iN c9)/\Er g2 (cb a.b7 a.e9 a.asks a.ask)/\Er g4 (ik (.sl true []))/\True)) ((lS ((af 63 o5).2.1)).sm/\((((af 63 o5).2.1).length<=4611686018427387904))/\((.sl false (V.C8 (o.map sV)):V)=ao o)/\Z g2 0/\(uK o).sm/\((o.length<=1099511627776))/\∀ g15:Nat,Z g15 0/\Gd (v1==false) (Z g15 0)/\Gd (v1==false) (((eZ (⟨a.b7,cy o,(af 63 o5).2.2,(cw ((af 63 o5).2.1)).1⟩:s4)))/\(rh (⟨a.b7,cy o,(af 63 o5).2.2,(cw ((af 63 o5).2.1)).1⟩:s4)).sm)/\Pk v1 true (v1==false)/\Br (v1||(!(aO (⟨a.b7,cy o,(af 63 o5).2.2,(cw ((af 63 o5).2.1)).1⟩:s4)))) (Z g4 0/\(g4=g4)/\Q (.tup [ik (.sl false []),bV false]) (nf a o5)) (Z g15 0/\Z g4 0/\(g4=g4)/\Q (.tup [cb a.b7 (cy o) ((af 63 o5).2.2) ((cw ((af 63 o5).2.1)).1),bV true]) (nf a o5)))) ([sV ((cw ((an 47 (af 63 o5).1).getD i [])).1)]:List V))) (!((cw ((af 63 o5).2.1)).2))) ?_
 intro g2
 intro g4
 refine⟨rfl,Zae,rfl,trivial,trivial,(cP (f:=sV) (fun _=>rfl) _),(dY (f:=sV) (fun _=>rfl) _),Zaj,?_⟩
 intro RQ UA Vx
 refine⟨Zbk (V.own 1 · RQ UA Vx) (List.nil_append _),rfl,Zae,?_⟩
 refine⟨⟨(0,a.e9,RQ,UA,Vx),?_,rfl,rfl,Zaf,Zaf,rfl,Zaf,rfl,rfl,rfl,trivial⟩,?_⟩
 unfold mO
 simp
 rintro⟨i,o,g,f,k⟩ ⟨h1,h2,h3⟩
 have SZ:=tl 47 (af 63 o5).1 i
 have UY:o.length<=1000+i:=by rw[h2];simp;omega
 refine bI (fun l3=>?_) fun l3=>?_
 refine⟨⟨Zaa,aq (d:=[]) Zaa⟩,trivial,rfl,Zae,?_⟩
 refine bI (fun l6=>?_) fun l6=>?_
 refine⟨rfl,?_⟩
 refine⟨rfl,?_⟩
 unfold Q nf
 rw[show cR a.b7 a.e9 o5=none from by unfold cR;rw[all_false (i:=i) (d:=[]) Zaa l6];rfl];rfl
 refine⟨rfl,trivial,rfl,by simp[aM,V.n,V.ns],Zaj,?_⟩
 intro N9 N4 Oa
 refine⟨Zbk (V.own 1 · N9 N4 Oa) Zab,Zaa,?_⟩
 refine⟨(i+1,o++[(cw ((an 47 (af 63 o5).1).getD i [])).1],N9,N4,Oa),?_,?_,rfl,rfl,rfl,rfl,rfl,rfl,rfl,rfl,rfl,trivial⟩
 unfold mO
 refine⟨Zaa,?_,?_⟩
 rw[h2,bA (by omega:i<(an 47 (af 63 o5).1).length) []];simp[fG]
 rw[bA (by omega:i<(an 47 (af 63 o5).1).length) []];simp only[List.all_append,h3,List.all_cons,List.all_nil,gz,Bool.and_true,Bool.true_and];exact l6
 exact Zai
 refine⟨rfl,Zae,Zbk (V.sl false) (aT (fun _=>rfl) _),rfl,rfl,Zae,?_⟩
 intro g15
 refine⟨rfl,?_⟩
 have hz:eZ ⟨a.b7,cy o,(af 63 o5).2.2,(cw (af 63 o5).2.1).1⟩:=by
  rw[h2,Zax Zaa];exact LX ha hp Zaa
 refine⟨fun hG=>rfl,fun hG=>⟨hz,rfl⟩,⟨fun _=>rfl,fun h=>by rw[h] <;> rfl⟩,?_⟩
 refine bI (fun n0=>?_) fun n0=>?_
 refine⟨rfl,?_⟩
 refine⟨rfl,?_⟩
 unfold Q nf
 have G8:(an 47 (af 63 o5).1).all gz=true:=by rw[Zax Zaa]at h3;exact h3
 rw[Zax Zaa]at h2
 subst h2
 rw[show cR a.b7 a.e9 o5=none from by unfold cR;rw[G8];grind [gz,fG]];rfl
 refine⟨rfl,rfl,?_⟩
 refine⟨rfl,?_⟩
 unfold Q nf
 have G8:(an 47 (af 63 o5).1).all gz=true:=by rw[Zax Zaa]at h3;exact h3
 rw[Zax Zaa]at h2
 subst h2
 rw[show cR a.b7 a.e9 o5=some _ from by unfold cR;rw[G8,if_pos (by grind [gz,fG]),if_pos (by grind [gz,fG])]];rfl)
abbrev nX(s:BL):V:=.tup [cb ((oA (eh s)).b7) ((oA (eh s)).e9) ((oA (eh s)).asks) ((oA (eh s)).ask),bV ((eh s).isSome)]
def yo(s:BL):o6 Tryz.prog:=.mk 109 [sV s] [] (s.length<=1000) (nX s) [] (by
 intro hs
 refine aB (N:=37) (rs:=[.cell 2 96,.tmp 3]) Tryz.func109
  (.al dw (fun g2=>.q 1<|.q 2<|.q 1<|.q 1<|.loop (Nat) (fun (i:Nat)=>⟨[(0,sV s),(2,.ptr (.key 2) [] g2 0),(4,sV s),(5,sV []),(6,iN i)],[(2,(g2,ik (.sl true [])))]⟩) (fun (i:Nat)=>i<=s.length/\∀ j,j<i->jS (s.getD j 0)=true) (fun (i:Nat)=>s.length-i) (fun (i:Nat)=>.q 4<|.br (.q 10<|.br (.q 4<|.q 4<|.q 1<|.c (pS ((s.take i).drop ((0:Int).toNat))) []<|.bd dw<|.q 1<|.c (uo (⟨bm ((s.take i).drop ((0:Int).toNat)),[],false,[]⟩:s4) ((s.take s.length).drop i)) []<|.q 2<|.st none<|.q 1<|.nil) (.q 3<|.nil)) (.q 1<|.c (pS s) []<|.bd dw<|.q 1<|.c (uo (⟨bm s,[],false,[]⟩:s4) ([]:BL)) []<|.q 2<|.st none<|.q 1<|.nil))))
  ((fun v1:s4=>(∀ g2:Nat,(∃ j7:Nat,(j7<=s.length/\∀ j,j<j7->jS (s.getD j 0)=true)/\E (sV s)/\E (.ptr (.key 2) [] g2 0)/\E (sV s)/\E (sV [])/\Q (iN 0) (iN j7)/\Er g2 (ik (.sl true []))/\True)/\∀ i:Nat,(i<=s.length/\∀ j,j<i->jS (s.getD j 0)=true)->(fun v2:s4=>(fun v3:Int=>Br (r8 (i:Int) (s.length:Int)) (Ix (i:Int) s/\Gd ((r6 v3 47)==false) (Ix (i:Int) s)/\Pk (r6 v3 47) true ((r6 v3 47)==false)/\Br ((r6 v3 47)||(r6 v3 63)) (Sx (0:Int) (i:Int) s/\Sx (i:Int) (s.length:Int) s/\(pS ((s.take i).drop ((0:Int).toNat))).sm/\((((s.take i).drop ((0:Int).toNat)).length<=1099511627776))/\(uo (⟨bm ((s.take i).drop ((0:Int).toNat)),[],false,[]⟩:s4) ((s.take s.length).drop i)).sm/\((eZ (⟨bm ((s.take i).drop ((0:Int).toNat)),[],false,[]⟩:s4))/\(((s.take s.length).drop i).length<=1000)/\((⟨bm ((s.take i).drop ((0:Int).toNat)),[],false,[]⟩:s4).e9.length<=1000))/\Z g2 0/\(g2=g2)/\Q (.tup [cb (v2.b7) (v2.e9) (v2.asks) (v2.ask),bV ((cR (⟨bm ((s.take i).drop ((0:Int).toNat)),[],false,[]⟩:s4).b7 (⟨bm ((s.take i).drop ((0:Int).toNat)),[],false,[]⟩:s4).e9 ((s.take s.length).drop i)).isSome)]) (nX s)) (m8 ((i:Int)+1)/\∃ c9:Nat,(c9<=s.length/\∀ j,j<c9->jS (s.getD j 0)=true)/\(s.length-c9<s.length-i)/\E (sV s)/\E (.ptr (.key 2) [] g2 0)/\E (sV s)/\E (sV [])/\Q (iN (i+1)) (iN c9)/\Er g2 (ik (.sl true []))/\True)) ((pS s).sm/\((s.length<=1099511627776))/\(uo (⟨bm s,[],false,[]⟩:s4) ([]:BL)).sm/\((eZ (⟨bm s,[],false,[]⟩:s4))/\(([]:BL).length<=1000)/\((⟨bm s,[],false,[]⟩:s4).e9.length<=1000))/\Z g2 0/\(g2=g2)/\Q (.tup [cb (v1.b7) (v1.e9) (v1.asks) (v1.ask),bV ((cR (⟨bm s,[],false,[]⟩:s4).b7 (⟨bm s,[],false,[]⟩:s4).e9 ([]:BL)).isSome)]) (nX s))) (((s.getD i 0).toNat:Nat):Int)) (oA (cR (⟨bm ((s.take i).drop ((0:Int).toNat)),[],false,[]⟩:s4).b7 (⟨bm ((s.take i).drop ((0:Int).toNat)),[],false,[]⟩:s4).e9 ((s.take s.length).drop i))))) (oA (cR (⟨bm s,[],false,[]⟩:s4).b7 (⟨bm s,[],false,[]⟩:s4).e9 ([]:BL)))) ?_
 intro g2
 refine⟨⟨0,?_,rfl,rfl,rfl,rfl,rfl,rfl,trivial⟩,?_⟩
 simp
 rintro i ⟨h1,h2⟩
 refine bI (fun l3=>?_) fun l3=>?_
 refine⟨Zaa,fun hG=>by(try simp only[nb]at hG);omega,⟨fun _=>rfl,fun h=>by rw[h] <;> rfl⟩,?_⟩
 refine bI (fun l6=>?_) fun l6=>?_
 refine⟨Zaa,Zaa,?_⟩
 have hz:eZ ⟨bm ((s.take i).drop ((0:Int).toNat)),[],false,[]⟩:=⟨by simp only[bm,Zaw];first | omega | (simp;omega),Zab,Zab,Zab⟩
 have hw:((s.take s.length).drop i).length<=1000:=by first | (solve | simp) | (simp;omega)
 refine⟨rfl,Zae,rfl,⟨hz,hw,Zab⟩,rfl,?_⟩
 refine⟨rfl,?_⟩
 unfold Q nX
 obtain⟨k1,k2⟩:=Aa (p:=jS) h1 h2 (.inr (by simp only[jS,decide_eq_false_iff_not];omega))
 unfold eh
 rw[k1,k2];simp
 refine⟨Zaa,?_⟩
 refine⟨i+1,?_,?_,rfl,rfl,rfl,rfl,rfl,rfl,trivial⟩
 refine⟨Zaa,bJ h2 ?_⟩
 simp only[jS,Zbi];omega
 exact Zai
 have hz:eZ ⟨bm s,[],false,[]⟩:=⟨by simp only[bm,Zaw];first | omega | (simp;omega),Zab,Zab,Zab⟩
 have hw:([]:BL).length<=1000:=by first | (solve | simp) | (simp;omega)
 refine⟨rfl,Zae,rfl,⟨hz,hw,Zab⟩,rfl,?_⟩
 refine⟨rfl,?_⟩
 unfold Q nX
 obtain⟨k1,k2⟩:=Aa (p:=jS) h1 h2 (.inl Zaa)
 unfold eh
 rw[k1,k2,Zax Zaa,Za6 Zaa])
abbrev me(raw:BL):V:=.tup [cb ((oA (aC raw)).b7) ((oA (aC raw)).e9) ((oA (aC raw)).asks) ((oA (aC raw)).ask),bV ((aC raw).isSome)]
def oH(raw:BL):o6 Tryz.prog:=.mk 80 [sV raw] [] (raw.length<=4611686018427387904) (me raw) [] (by
 intro hs
 have O3:=nV 35 raw
 refine aB (N:=32) (rs:=[.cell 2 96,.tmp 3]) Tryz.func80
  (.al dw (fun g2=>.q 1<|.q 1<|.c (oN raw (35:UInt8)) []<|.q 7<|.q 13<|.br (.bd dw<|.st none<|.q 1<|.nil) (.q 2<|.c (yo ((((af (35:UInt8) raw).1).take ((af (35:UInt8) raw).1).length).drop 2)) []<|.q 2<|.st none<|.q 1<|.nil)))
  ((fun v1:s4=>(fun v2:Bool=>(fun v3:Bool=>(∀ g2:Nat,(oN raw (35:UInt8)).sm/\((raw.length<=4611686018427387904))/\Pk v3 true (v3==false)/\Gd ((v3||v2)==false) (Sx (0:Int) (2:Int) ((af (35:UInt8) raw).1))/\Pk (v3||v2) true ((v3||v2)==false)/\Br ((v3||v2)||(!(((((af (35:UInt8) raw).1).take 2).drop ((0:Int).toNat))==([47,47]:BL)))) (Z g2 0/\(g2=g2)/\Q (.tup [ik (.sl false []),bV false]) (me raw)) (Sx (2:Int) (((af (35:UInt8) raw).1).length:Int) ((af (35:UInt8) raw).1)/\(yo ((((af (35:UInt8) raw).1).take ((af (35:UInt8) raw).1).length).drop 2)).sm/\((((((af (35:UInt8) raw).1).take ((af (35:UInt8) raw).1).length).drop 2).length<=1000))/\Z g2 0/\(g2=g2)/\Q (.tup [cb (v1.b7) (v1.e9) (v1.asks) (v1.ask),bV ((eh ((((af (35:UInt8) raw).1).take ((af (35:UInt8) raw).1).length).drop 2)).isSome)]) (me raw)))) (w3 (raw.length:Int) 60)) (r8 ((((af (35:UInt8) raw).1).length:Nat):Int) 2)) (oA (eh ((((af (35:UInt8) raw).1).take ((af (35:UInt8) raw).1).length).drop 2)))) ?_
 intro g2
 refine⟨rfl,Zae,⟨fun _=>rfl,fun h=>by rw[h] <;> rfl⟩,fun hG=>by(try simp only[nb]at hG);omega,⟨fun _=>rfl,fun h=>by rw[h] <;> rfl⟩,?_⟩
 refine bI (fun l3=>?_) fun l3=>?_
 refine⟨rfl,?_⟩
 refine⟨rfl,?_⟩
 unfold Q me
 rw[show aC raw=none from if_neg (by grind)];rfl
 refine⟨Zaa,rfl,Zae,rfl,?_⟩
 refine⟨rfl,?_⟩
 unfold Q me
 rw[show aC raw=eh ((af 35 raw).1.drop 2) from if_pos (by grind)];simp)
def lU(s:BL):o6 Tryz.prog:=.mk 49 [sV s] [] (s.length<=4611686018427387904) (bV (aA s)) [] (by
 intro hs
 refine aB (N:=17) (rs:=[.tmp 2]) Tryz.func49
  (.q 1<|.q 1<|.c (oH s) []<|.q 3<|.al dw (fun g3=>.st none<|.q 1<|.r 3 [.b9]<|.cg (lj (oA (aC s)))<|.q 4<|.nil))
  ((oH s).sm/\((s.length<=4611686018427387904))/\∀ g3:Nat,Z g3 0/\Gd (((aC s).isSome)==true) (Z g3 0)/\Gd (((aC s).isSome)==true) (((eZ (oA (aC s))))/\(lj (oA (aC s))).sm)/\Pk ((aC s).isSome) (((aC s).isSome)==true) true/\Q (bV (((aC s).isSome)&&((bY (oA (aC s)))==s))) (bV (aA s))) ?_
 refine⟨rfl,Zae,?_⟩
 intro g3
 refine⟨rfl,fun hG=>rfl,fun hG=>⟨by(try simp only[nb]at hG);first | assumption | exact wZ _ | simp_all,rfl⟩,⟨fun h=>by rw[h] <;> rfl,fun _=>rfl⟩,?_⟩
 unfold Q
 rfl)
def Aq(p:BL):o6 Tryz.prog:=.mk 127 [sV p] [] (p.length<=4611686018427387904) (bV (aI p)) [] (by
 intro hs
 refine aB (N:=66) (rs:=[.tmp 2]) Tryz.func127
  (.q 1<|.q 12<|.br (.q 1<|.nil) (.q 1<|.loop (Nat) (fun (i:Nat)=>⟨[(0,sV p),(3,iN i)],[]⟩) (fun (i:Nat)=>i<=p.length/\∀ j,j<i->mG p j=true) (fun (i:Nat)=>p.length-i) (fun (i:Nat)=>.q 4<|.br (.q 4<|.q 1<|.c (lR (p.getD i 0)) []<|.q 38<|.br (.q 1<|.nil) (.q 3<|.nil)) (.q 1<|.nil))))
  ((fun v1:Bool=>(Pk v1 true (v1==false)/\Gd ((v1||(p==[]))==false) (Ix 0 p)/\Pk (v1||(p==[])) true ((v1||(p==[]))==false)/\Br ((v1||(p==[]))||(w4 (((p.getD 0 0).toNat:Nat):Int) 47)) (Q (bV false) (bV (aI p))) ((∃ j7:Nat,(j7<=p.length/\∀ j,j<j7->mG p j=true)/\E (sV p)/\Q (iN 0) (iN j7)/\True)/\∀ i:Nat,(i<=p.length/\∀ j,j<i->mG p j=true)->(fun v2:Int=>(fun v3:Bool=>(fun v4:Bool=>Br (r8 (i:Int) (p.length:Int)) (Ix (i:Int) p/\(lR (p.getD i 0)).sm/\(True)/\Pk v3 (v3==true) true/\Pk (v3&&(w4 v2 47)) ((v3&&(w4 v2 47))==true) true/\Pk ((v3&&(w4 v2 47))&&(w4 v2 42)) (((v3&&(w4 v2 47))&&(w4 v2 42))==true) true/\Pk (((v3&&(w4 v2 47))&&(w4 v2 42))&&(w4 v2 63)) ((((v3&&(w4 v2 47))&&(w4 v2 42))&&(w4 v2 63))==true) true/\Gd (((((v3&&(w4 v2 47))&&(w4 v2 42))&&(w4 v2 63))&&(w4 v2 37))==true) (Pk (A8 v2 65) ((((((v3&&(w4 v2 47))&&(w4 v2 42))&&(w4 v2 63))&&(w4 v2 37))==true)&&((A8 v2 65)==true)) true)/\Pk ((((v3&&(w4 v2 47))&&(w4 v2 42))&&(w4 v2 63))&&(w4 v2 37)) (((((v3&&(w4 v2 47))&&(w4 v2 42))&&(w4 v2 63))&&(w4 v2 37))==true) true/\Gd (((((((v3&&(w4 v2 47))&&(w4 v2 42))&&(w4 v2 63))&&(w4 v2 37))&&v4)==true)&&((r6 v2 36)==true)) (m8 ((p.length:Int)-1))/\Gd ((((((v3&&(w4 v2 47))&&(w4 v2 42))&&(w4 v2 63))&&(w4 v2 37))&&v4)==true) (Pk (r6 v2 36) (((((((v3&&(w4 v2 47))&&(w4 v2 42))&&(w4 v2 63))&&(w4 v2 37))&&v4)==true)&&((r6 v2 36)==true)) true)/\Pk (((((v3&&(w4 v2 47))&&(w4 v2 42))&&(w4 v2 63))&&(w4 v2 37))&&v4) ((((((v3&&(w4 v2 47))&&(w4 v2 42))&&(w4 v2 63))&&(w4 v2 37))&&v4)==true) true/\Br ((((((v3&&(w4 v2 47))&&(w4 v2 42))&&(w4 v2 63))&&(w4 v2 37))&&v4)&&(!((r6 v2 36)&&(r6 (i:Int) ((p.length:Int)-1))))) (Q (bV false) (bV (aI p))) (m8 ((i:Int)+1)/\∃ c9:Nat,(c9<=p.length/\∀ j,j<c9->mG p j=true)/\(p.length-c9<p.length-i)/\E (sV p)/\Q (iN (i+1)) (iN c9)/\True)) (Q (bV true) (bV (aI p)))) (!((A8 v2 65)&&(E5 v2 70)))) (!(eW (p.getD i 0)))) (((p.getD i 0).toNat:Nat):Int)))) (w3 (p.length:Int) 16)) ?_
 refine⟨⟨fun _=>rfl,fun h=>by rw[h] <;> rfl⟩,fun hG=>by(try simp only[nb]at hG);grind [List.length_pos_iff],⟨fun _=>rfl,fun h=>by rw[h] <;> rfl⟩,?_⟩
 refine bI (fun l3=>?_) fun l3=>?_
 unfold Q
 refine Zbk bV ?_
 unfold aI
 symm
 rw[decide_eq_false_iff_not]
 grind
 refine⟨⟨0,?_,rfl,rfl,trivial⟩,?_⟩
 simp
 rintro i ⟨h1,h2⟩
 refine bI (fun l6=>?_) fun l6=>?_
 refine⟨Zaa,rfl,trivial,⟨fun h=>by rw[h] <;> rfl,fun _=>rfl⟩,⟨fun h=>by rw[h] <;> rfl,fun _=>rfl⟩,⟨fun h=>by rw[h] <;> rfl,fun _=>rfl⟩,⟨fun h=>by rw[h] <;> rfl,fun _=>rfl⟩,fun hG=>⟨fun h=>by rw[h];exact(Zam _ _).mpr ⟨hG,rfl⟩,fun _=>rfl⟩,⟨fun h=>by rw[h] <;> rfl,fun _=>rfl⟩,fun hG=>by(try simp only[nb]at hG);omega,fun hG=>⟨fun h=>by rw[h];exact(Zam _ _).mpr ⟨hG,rfl⟩,fun _=>rfl⟩,⟨fun h=>by rw[h] <;> rfl,fun _=>rfl⟩,?_⟩
 refine bI (fun n0=>?_) fun n0=>?_
 unfold Q
 refine Zbk bV ?_
 unfold aI
 symm
 rw[decide_eq_false_iff_not]
 rintro⟨k1,k2,k3,k4⟩
 have:=k4 i Zaa
 unfold mG jZ at this
 grind
 refine⟨Zaa,?_⟩
 refine⟨i+1,?_,?_,rfl,rfl,trivial⟩
 refine⟨Zaa,bJ h2 ?_⟩
 by_cases hq:eW (p.getD i 0)=true
 simp only[mG,jZ,hq,Bool.true_or]
 simp only[Bool.not_eq_true]at hq
 simp only[mG,jZ,hq,Bool.false_or,Bool.or_eq_true,Zam,Zbi]
 simp only[hq,true_and]at n0
 omega
 exact Zai
 unfold Q
 refine Zbk bV ?_
 unfold aI
 symm
 rw[Zbi]
 exact⟨by grind,Zaa,by grind,fun j hj=>h2 j Zaa⟩)
abbrev gJ(p0:BL):V:=.sl false (p0.map n7)
abbrev aE(p0:BL)(p1:Nat):V:=.agg [.sl false (p0.map n7),iN p1]
theorem HJ{l:List BL}{i:Nat}(h:i<l.length):Ex (i:Int) (l.map sV) (sV (l.getD i [])):=⟨Int.natCast_nonneg _,by simp[Zak,h]⟩
theorem Jk{b:BL}{i:Nat}(h:i<(b.map n7).length):Ex (i:Int) (b.map n7) (uN (b.getD i 0).toNat):=⟨Int.natCast_nonneg _,by simp at h;simp[Zak,h,n7,uN]⟩
def zO(b:BL):I2 Tryz.prog:=.mk (BL×Nat) 20 [gJ b] [] (b.length<=9223372036854775807) (fun x=>x.1.length<=2000) (fun x=>.ptr (.key 1000) [] x.2 0) (fun x=>[(1000,(x.2,.agg [gJ x.1,iN 0]))]) (by
 intro hb
 refine fY (N:=11) (rs:=[.tmp 2]) (X:=BL×Nat) (post:=fun x=>x.1.length<=2000) (E:=fun x=>.ptr (.key 1000) [] x.2 0) (H':=fun x=>[(1000,(x.2,.agg [.sl false (x.1.map n7),iN 0]))]) Tryz.func20 Zac rfl rfl rfl Zac [(1000,(0,.b9))] (by intro _ k hk;simpa[lk] using hk)
  (.q 1<|.q 3<|.join BL (fun c=>⟨[(0,gJ c)],[]⟩) (fun c=>c.length<=2000) (.q 2<|.h (.n8 7 (gJ (b.take 2000)))<|.q 1<|.nil) (.nil) (fun c=>.q 1<|.bd NQ<|.bx (fun g10=>.q 1<|.h (.rk 10 1000)<|.nil)))
  (((w3 (((b.map n7).length:Nat):Int) 2000)=true->((0:Int)<=(0:Int)/\(0:Int)<=(2000:Int)/\(2000:Int)<=(b.map n7).length/\∀ x∈(b.map n7),x.n=1)/\Q (.sl false (((b.map n7).take 2000).drop ((0:Int).toNat))) (gJ (b.take 2000))/\∃ c:BL,(c.length<=2000)/\Q (gJ (b.take 2000)) (gJ c)/\True)/\((w3 (((b.map n7).length:Nat):Int) 2000)=false->∃ c:BL,(c.length<=2000)/\Q (gJ b) (gJ c)/\True)/\(∀ c:BL,(c.length<=2000)->∀ g10:Nat,∃ x:BL×Nat,(x.1.length<=2000)/\Q (.ptr (.key 1000) [] g10 0) (.ptr (.key 1000) [] x.2 0)/\Qr g10 (.agg [gJ c,iN 0]) x.2 (.agg [gJ x.1,iN 0])))
  Zac ?_
 refine⟨fun l3=>?_,fun l3=>?_,fun c hc=>?_⟩
 try simp only[nb]at l3
 refine⟨⟨by simp <;> omega,by simp <;> omega,by simp <;> omega,all_map (fun _=>rfl)⟩,by simp[Q,List.map_take],?_⟩
 exact⟨b.take 2000,Zaj,rfl,trivial⟩
 try simp only[nb]at l3
 exact⟨b,Zaa,rfl,trivial⟩
 intro g10
 refine⟨(c,g10),?_,?_,?_⟩
 try dsimp only
 assumption
 first | rfl | simp_all
 first | rfl | exact⟨rfl,rfl⟩ | simp_all)
def nI:o6 Tryz.prog:=.mk 71 [] [] True (ao bb) [] (by
 intro _
 refine aB (N:=2) (rs:=[.tmp 0]) Tryz.func71
  (.q 1<|.bs<|.q 1<|.nil)
  (Q (.sl false [sV ([97,98]:BL),sV ([99,100]:BL),sV ([101]:BL),sV ([102,111,120]:BL)]) (ao bb)) ?_
 unfold Q
 rfl)
def bE(b:BL)(p:Nat)(g:Nat)(n:Nat):I2 Tryz.prog:=.mk Nat 43 [.ptr (.key 1000) [] g 0,iN n] [(1000,(g,aE b p))] ((b.length<=2000)/\(p<=1000000)/\(n<=1000000)) (fun x=>n=0/\x=0\/x<n) (fun x=>iN x) (fun x=>[(1000,(g,aE b (p+1)))]) (by
 rintro⟨hb,hp,hn⟩
 refine fY (N:=99) (rs:=[.tmp 4]) (X:=Nat) (post:=fun x=>n=0/\x=0\/x<n) (E:=fun x=>iN x) (H':=fun x=>[(1000,(g,.agg [.sl false (b.map n7),iN (p+1)]))]) Tryz.func43 Zac rfl rfl rfl Zac [(1000,(0,.b9))] (by intro _ k hk;simpa[lk] using hk)
  (.q 1<|.r 8 [.b9]<|.st none<|.r 10 [.b9]<|.br (.q 1<|.nil) (.r 5 [.b9]<|.h (.n8 29 (iN p))<|.q 1<|.r 7 [.b9]<|.br (.r 11 [.b9,uN ((b.getD p 0).toNat)]<|.nil) (.dx 45 [0,1,2,3,4,5,6,7,8,9,10,11,12,13,14,15,16,17,18,19,20,21,22,23,24,25,26,27,28,29,30,31,32,33,34,35,36,37,38,39,40,41,42,43,44] [(3,⟨false,[],some [1000],[50],[]⟩),(8,⟨false,[],some [1000],[55],[]⟩),(12,⟨false,[],some [],[59],[]⟩),(18,⟨false,[],some [1000],[65],[]⟩),(25,⟨false,[],some [1000],[72],[]⟩),(29,⟨false,[],some [],[76],[]⟩),(40,⟨false,[],some [1000],[87],[]⟩)] []<|.q 1<|.q 1<|.q 1<|.r 1 [.b9]<|.q 1<|.q 1<|.q 1<|.q 1<|.r 1 [.b9]<|.q 1<|.q 1<|.r 1 [uN ((b.getD (p % ((b.map n7).length)) 0).toNat)]<|.q 1<|.q 1<|.q 1<|.q 1<|.q 1<|.q 1<|.r 1 [.b9]<|.q 1<|.q 1<|.q 1<|.q 1<|.q 1<|.q 1<|.r 1 [.b9]<|.q 1<|.q 1<|.r 1 [uN ((b.getD (((p*7)+3) % ((b.map n7).length)) 0).toNat)]<|.q 1<|.q 1<|.q 1<|.q 1<|.q 1<|.q 1<|.q 1<|.q 1<|.q 1<|.q 1<|.q 1<|.r 1 [.b9]<|.q 1<|.q 1<|.q 1<|.q 1<|.q 1<|.q 5<|.q 4<|.nil)))
  ((fun v1:Int=>(fun v2:Int=>(fun v3:Int=>(fun v4:Int=>(fun v5:Bool=>(fun v6:Int=>(True/\Z g 1/\m8 ((p:Int)+1)/\True/\Z g 1/\Gd (v5==false) True/\Gd (v5==false) (Z g 0)/\Pk v5 true (v5==false)/\Br (v5||(r6 v3 0)) (∃ x:Nat,(n=0/\x=0\/x<n)/\Q (iN 0) (iN x)/\Er g (aE b (p+1))) (True/\Z g 1/\m8 (((p+1:Nat):Int)-1)/\Q (iV (((p+1:Nat):Int)-1)) (iN p)/\True/\Z g 0/\Br (r8 (p:Int) v3) (True/\Z g 0/\Ex (p:Int) (b.map n7) (uN ((b.getD p 0).toNat))/\True/\m8 (((b.getD p 0).toNat:Nat):Int)/\((0:Int)<=(((b.getD p 0).toNat:Nat):Int)/\(0:Int)<(n:Int))/\∃ x:Nat,(n=0/\x=0\/x<n)/\Q (iN (((b.getD p 0).toNat) % n)) (iN x)/\Er g (aE b (p+1))) (True/\Z g 0/\True/\Z g 0/\((0:Int)<=(p:Int)/\(0:Int)<v3)/\Ex ((p % ((b.map n7).length):Nat):Int) (b.map n7) (uN ((b.getD (p % ((b.map n7).length)) 0).toNat))/\True/\m8 v6/\m8 (v6*131)/\True/\Z g 0/\m8 ((p:Int)*7)/\m8 (((p*7:Nat):Int)+3)/\True/\Z g 0/\((0:Int)<=(((p*7)+3:Nat):Int)/\(0:Int)<v3)/\Ex ((((p*7)+3) % ((b.map n7).length):Nat):Int) (b.map n7) (uN ((b.getD (((p*7)+3) % ((b.map n7).length)) 0).toNat))/\True/\m8 v4/\m8 (v4*1117)/\m8 (((((b.getD (p % ((b.map n7).length)) 0).toNat)*131:Nat):Int)+((((b.getD (((p*7)+3) % ((b.map n7).length)) 0).toNat)*1117:Nat):Int))/\m8 ((p:Int)*29)/\m8 ((((((b.getD (p % ((b.map n7).length)) 0).toNat)*131)+(((b.getD (((p*7)+3) % ((b.map n7).length)) 0).toNat)*1117):Nat):Int)+((p*29:Nat):Int))/\True/\Z g 0/\((0:Int)<=(p:Int)/\(0:Int)<v3/\m8 (p:Int))/\m8 (((p / ((b.map n7).length):Nat):Int)*53)/\m8 (((((((b.getD (p % ((b.map n7).length)) 0).toNat)*131)+(((b.getD (((p*7)+3) % ((b.map n7).length)) 0).toNat)*1117))+(p*29):Nat):Int)+(((p / ((b.map n7).length))*53:Nat):Int))/\((0:Int)<=v1/\(0:Int)<64/\m8 v1)/\((0:Int)<=v1/\(0:Int)<=v2/\m8 v1/\m8 v2)/\((0:Int)<=((((((((b.getD (p % ((b.map n7).length)) 0).toNat)*131)+(((b.getD (((p*7)+3) % ((b.map n7).length)) 0).toNat)*1117))+(p*29))+((p / ((b.map n7).length))*53)) ^^^ (((((((b.getD (p % ((b.map n7).length)) 0).toNat)*131)+(((b.getD (((p*7)+3) % ((b.map n7).length)) 0).toNat)*1117))+(p*29))+((p / ((b.map n7).length))*53)) / 64):Nat):Int)/\(0:Int)<(n:Int))/\∃ x:Nat,(n=0/\x=0\/x<n)/\Q (iN ((((((((b.getD (p % ((b.map n7).length)) 0).toNat)*131)+(((b.getD (((p*7)+3) % ((b.map n7).length)) 0).toNat)*1117))+(p*29))+((p / ((b.map n7).length))*53)) ^^^ (((((((b.getD (p % ((b.map n7).length)) 0).toNat)*131)+(((b.getD (((p*7)+3) % ((b.map n7).length)) 0).toNat)*1117))+(p*29))+((p / ((b.map n7).length))*53)) / 64)) % n)) (iN x)/\Er g (aE b (p+1)))))) (((b.getD (p % ((b.map n7).length)) 0).toNat:Nat):Int)) (r8 (n:Int) 1)) (((b.getD (((p*7)+3) % ((b.map n7).length)) 0).toNat:Nat):Int)) (((b.map n7).length:Nat):Int)) ((((((((b.getD (p % ((b.map n7).length)) 0).toNat)*131)+(((b.getD (((p*7)+3) % ((b.map n7).length)) 0).toNat)*1117))+(p*29))+((p / ((b.map n7).length))*53)) / 64:Nat):Int)) (((((((b.getD (p % ((b.map n7).length)) 0).toNat)*131)+(((b.getD (((p*7)+3) % ((b.map n7).length)) 0).toNat)*1117))+(p*29))+((p / ((b.map n7).length))*53):Nat):Int))
  Zac ?_
 refine⟨trivial,rfl,Zaa,trivial,rfl,fun hG=>trivial,fun hG=>rfl,⟨fun _=>rfl,fun h=>by rw[h] <;> rfl⟩,?_⟩
 refine bI (fun l3=>?_) fun l3=>?_
 refine⟨0,?_,?_,?_⟩
 try dsimp only
 omega
 first | rfl | simp_all
 first | rfl | exact⟨rfl,rfl⟩ | simp_all
 refine⟨trivial,rfl,Zaa,by simp[Q],?_⟩
 have V5:1<=n/\1<=b.length:=Zaa
 refine⟨trivial,rfl,?_⟩
 refine bI (fun l6=>?_) fun l6=>?_
 have u1:=(b.getD p 0).toNat_lt
 refine⟨trivial,rfl,⟨Zaa,aq (d:=0) Zaa⟩,trivial,by have:=Zbb (b.getD p 0);omega,by have:=Zbb (b.getD p 0);omega,?_⟩
 refine⟨(b.getD p 0).toNat % n,?_,?_,?_⟩
 try dsimp only
 exact .inr (Nat.mod_lt _ Zaa)
 first | rfl | simp_all
 first | rfl | exact⟨rfl,rfl⟩ | simp_all
 have u1:=(b.getD (p % b.length) 0).toNat_lt
 have u2:=(b.getD ((p*7+3) % b.length) 0).toNat_lt
 have u3:=Nat.mod_lt p (show 0<b.length by omega)
 have u4:=Nat.mod_lt (p*7+3) (show 0<b.length by omega)
 have u5:=Nat.div_le_self p b.length
 have u6:=Int.natCast_nonneg (p / b.length)
 refine⟨trivial,rfl,trivial,rfl,Zah,Jk (by rw[Zaw];exact u3),trivial,Zah,Zah,trivial,rfl,Zaa,Zaa,trivial,rfl,Zah,Jk (by rw[Zaw];exact u4),trivial,Zah,Zah,Zah,Zaa,Zah,trivial,rfl,Zah,Zah,Zah,Zah,Zah,Zah,?_⟩
 refine⟨(((((((b.getD (p % ((b.map n7).length)) 0).toNat)*131)+(((b.getD (((p*7)+3) % ((b.map n7).length)) 0).toNat)*1117))+(p*29))+((p / ((b.map n7).length))*53)) ^^^ (((((((b.getD (p % ((b.map n7).length)) 0).toNat)*131)+(((b.getD (((p*7)+3) % ((b.map n7).length)) 0).toNat)*1117))+(p*29))+((p / ((b.map n7).length))*53)) / 64)) % n,?_,?_,?_⟩
 try dsimp only
 exact .inr (Nat.mod_lt _ Zaa)
 first | rfl | simp_all
 first | rfl | exact⟨rfl,rfl⟩ | simp_all)
def fT(b:BL)(p:Nat)(g:Nat)(l:List BL):I2 Tryz.prog:=.mk BL 44 [.ptr (.key 1000) [] g 0,ao l] [(1000,(g,aE b p))] ((b.length<=2000)/\(p<=1000000)/\(1<=l.length)/\(l.length<=1000)) (fun x=>x∈l) (fun x=>sV x) (fun x=>[(1000,(g,aE b (p+1)))]) (by
 rintro⟨hb,hp,hl,hn⟩
 refine fY (N:=12) (rs:=[.tmp 4]) (X:=BL) (post:=fun x=>x∈l) (E:=fun x=>sV x) (H':=fun x=>[(1000,(g,.agg [.sl false (b.map n7),iN (p+1)]))]) Tryz.func44 Zac rfl rfl rfl Zac [(1000,(0,.b9))] (by intro _ k hk;simpa[lk] using hk)
  (.q 1<|.q 4<|.h (.n8 8 (iN l.length))<|.cx (bE b p g l.length) [(1000,1000)] (fun (Qc:Nat)=>.r 3 [sV (l.getD Qc [])]<|.nil))
  (Q (iN ((l.map sV).length)) (iN l.length)/\(bE b p g l.length).sm/\Er g (aE b p)/\((b.length<=2000)/\(p<=1000000)/\(l.length<=1000000))/\∀ Qc:Nat,(l.length=0/\Qc=0\/Qc<l.length)->Ex (Qc:Int) (l.map sV) (sV (l.getD Qc []))/\True/\∃ x:BL,(x∈l)/\Q (sV (l.getD Qc [])) (sV x)/\Er g (aE b (p+1)))
  Zac ?_
 refine⟨by simp[Q],rfl,rfl,⟨Zae,Zae,Zae⟩,?_⟩
 intro Qc hx1_4
 refine⟨HJ Zaa,trivial,?_⟩
 refine⟨l.getD Qc [],?_,?_,?_⟩
 try dsimp only
 rw[Zak,Zar Zaa];simp
 first | rfl | simp_all
 first | rfl | exact⟨rfl,rfl⟩ | simp_all)
def yA(b:BL)(p:Nat)(g:Nat):I2 Tryz.prog:=.mk BL 128 [.ptr (.key 1000) [] g 0] [(1000,(g,aE b p))] ((b.length<=2000)/\(p<=1000000)) (fun x=>x∈kJ) (fun x=>sV x) (fun x=>[(1000,(g,aE b (p+1)))]) (by
 rintro⟨hb,hp⟩
 refine fY (N:=6) (rs:=[.tmp 2]) (X:=BL) (post:=fun x=>x∈kJ) (E:=fun x=>sV x) (H':=fun x=>[(1000,(g,.agg [.sl false (b.map n7),iN (p+1)]))]) Tryz.func128 Zac rfl rfl rfl Zac [(1000,(0,.b9))] (by intro _ k hk;simpa[lk] using hk)
  (.q 1<|.q 1<|.bs<|.cx (fT b p g ([([47]:BL),([47,97]:BL),([47,98]:BL),([47,97,47]:BL),([47,42,98]:BL),([47,97,36]:BL),([47,99]:BL),([47,42,63]:BL),([47,97,47,98]:BL),([47,42,47,98,36]:BL),([47,36]:BL),([47,98,42,99]:BL),([47,110,111,116,105,99,101]:BL),([47,42]:BL)]:List BL)) [(1000,1000)] (fun (x8:BL)=>.q 1<|.nil))
  ((fun v1:BL=>(fun v2:BL=>(fun v3:BL=>(fun v4:BL=>(fun v5:BL=>(fun v6:BL=>(fun v7:BL=>(fun v8:BL=>(fun v9:BL=>(fun v10:BL=>(fun v11:BL=>(fun v12:BL=>(fun E4:BL=>(fun H6:BL=>((fT b p g ([H6,v9,v10,v5,v6,v7,v11,v8,v3,v2,v12,v4,v1,E4]:List BL)).sm/\Er g (aE b p)/\((b.length<=2000)/\(p<=1000000)/\(1<=([H6,v9,v10,v5,v6,v7,v11,v8,v3,v2,v12,v4,v1,E4]:List BL).length)/\(([H6,v9,v10,v5,v6,v7,v11,v8,v3,v2,v12,v4,v1,E4]:List BL).length<=1000))/\∀ x8:BL,(x8∈([H6,v9,v10,v5,v6,v7,v11,v8,v3,v2,v12,v4,v1,E4]:List BL))->∃ x:BL,(x∈kJ)/\Q (sV x8) (sV x)/\Er g (aE b (p+1)))) ([47]:BL)) ([47,42]:BL)) ([47,36]:BL)) ([47,99]:BL)) ([47,98]:BL)) ([47,97]:BL)) ([47,42,63]:BL)) ([47,97,36]:BL)) ([47,42,98]:BL)) ([47,97,47]:BL)) ([47,98,42,99]:BL)) ([47,97,47,98]:BL)) ([47,42,47,98,36]:BL)) ([47,110,111,116,105,99,101]:BL))
  Zac ?_
 refine⟨rfl,rfl,⟨by first | assumption | omega,by first | assumption | omega,Zad,Zad⟩,?_⟩
 intro x8 QT
 refine⟨x8,?_,?_,?_⟩
 try dsimp only
 assumption
 first | rfl | simp_all
 first | rfl | exact⟨rfl,rfl⟩ | simp_all)
abbrev cC(p0:List Pg):V:=.sl false (p0.map s3)
abbrev bG(p0:List l4):V:=.sl false (p0.map cq)
abbrev dQ(p0:List r7):V:=.sl false (p0.map aD)
abbrev lx(p0:V)(p1:List r7)(p2:Nat):V:=.agg [ p0,.sl false (p1.map aD),iN p2]
abbrev cO(p0:BL)(p1:BL)(p2:BL)(p3:Int):V:=.agg [sV p0,sV p1,sV p2,iV p3]
abbrev fa(p0:List BL)(p1:List r7)(p2:Nat):V:=.agg [.sl false (p0.map sV),.sl false (p1.map aD),iN p2]
theorem IU{k:Nat}(h:k<256):uN k=uN (UInt8.ofNat k).toNat:=by rw[UInt8.toNat_ofNat_of_lt' (by simpa using h)]
def wM(b:BL)(p:Nat)(g:Nat):I2 Tryz.prog:=.mk (List r7×Nat) 103 [.ptr (.key 1000) [] g 0] [(1000,(g,aE b p))] ((b.length<=2000)/\(p<=900000)) (fun x=>x.1.length<=4/\(∀ r,r∈x.1->r.path∈kJ)/\p<=x.2/\x.2<=p+9) (fun x=>dQ x.1) (fun x=>[(1000,(g,aE b x.2))]) (by
 rintro⟨hb,hp⟩
 refine fY (N:=22) (rs:=[.tmp 2]) (X:=List r7×Nat) (post:=fun x=>x.1.length<=4/\(∀ r,r∈x.1->r.path∈kJ)/\p<=x.2/\x.2<=p+9) (E:=fun x=>.sl false (x.1.map aD)) (H':=fun x=>[(1000,(g,.agg [.sl false (b.map n7),iN x.2]))]) Tryz.func103 Zac rfl rfl rfl Zac [(1000,(0,.b9))] (by intro _ k hk;simpa[lk] using hk)
  (.q 1<|.bs<|.q 1<|.q 1<|.cx (bE b p g 5) [(1000,1000)] (fun (s5:Nat)=>.q 1<|.h (.H9 3 2)<|.loop (Nat×(List r7)×Nat×Nat×Nat×Nat) (fun (n,e,q,u,f,k)=>⟨[(0,.ptr (.key 1000) [] g 0),(3,.own 2 (e.map aD) u f k),(4,iN n)],[(1000,(g,aE b q))]⟩) (fun (n,e,q,u,f,k)=>e.length+n<=4/\(∀ r,r∈e->r.path∈kJ)/\p<=q/\q+2*n<=p+9) (fun (n,e,q,u,f,k)=>n) (fun (n,e,q,u,f,k)=>.q 2<|.br (.q 2<|.cx (bE b q g 2) [(1000,1000)] (fun (H2:Nat)=>.q 2<|.cx (yA b (q+1) g) [(1000,1000)] (fun (y9:BL)=>.bd wz<|.bs<|.ap (fun g20 QQ Rg=>.h (.n8 20 (.own 2 ((e++[(⟨r6 (H2:Int) 0,y9⟩:r7)]).map aD) g20 QQ Rg))<|.q 1<|.q 2<|.h (.n8 11 (iN (n-1)))<|.q 1<|.nil)))) (.q 2<|.h (.jt 2)<|.h (.fz 2)<|.h (.n8 2 (dQ e))<|.nil))))
  ((bE b p g 5).sm/\Er g (aE b p)/\((b.length<=2000)/\(p<=1000000)/\(5<=1000000))/\∀ s5:Nat,(5=0/\s5=0\/s5<5)->(∃ x:Nat×(List r7)×Nat×Nat×Nat×Nat,match x with | (L',E8,B9,J7,B8,s7)=>(E8.length+L'<=4/\(∀ r,r∈E8->r.path∈kJ)/\p<=B9/\B9+2*L'<=p+9)/\E (.ptr (.key 1000) [] g 0)/\Q (.own 2 ([].map aD) 0 0 0) (.own 2 (E8.map aD) J7 B8 s7)/\Q (iN s5) (iN L')/\Qr g (aE b (p+1)) g (aE b B9)/\True)/\∀ x:Nat×(List r7)×Nat×Nat×Nat×Nat,match x with | (n,e,q,u,f,k)=>(e.length+n<=4/\(∀ r,r∈e->r.path∈kJ)/\p<=q/\q+2*n<=p+9)->Br (w3 (n:Int) 0) ((bE b q g 2).sm/\Er g (aE b q)/\((b.length<=2000)/\(q<=1000000)/\(2<=1000000))/\∀ H2:Nat,(2=0/\H2=0\/H2<2)->(fun v1:Bool=>(yA b (q+1) g).sm/\Er g (aE b (q+1))/\((b.length<=2000)/\((q+1)<=1000000))/\∀ y9:BL,(y9∈kJ)->(fun v2:List V=>((2,2,u,f,k,(e.map aD).length)=(2,2,u,f,k,(e.map aD).length))/\(True)/\(V.aK v2=false)/\(aM 2 v2)/\(((e.map aD).length+v2.length)*24<=140737488355328)/\∀ g20 QQ Rg:Nat,((.own 2 ((e.map aD)++v2) g20 QQ Rg:V)=.own 2 ((e++[(⟨r6 (H2:Int) 0,y9⟩:r7)]).map aD) g20 QQ Rg)/\m8 ((n:Int)-1)/\Q (iV ((n:Int)-1)) (iN (n-1))/\∃ x:Nat×(List r7)×Nat×Nat×Nat×Nat,match x with | (y7,z8,o9,D0,r9,k₂)=>(z8.length+y7<=4/\(∀ r,r∈z8->r.path∈kJ)/\p<=o9/\o9+2*y7<=p+9)/\(y7<n)/\E (.ptr (.key 1000) [] g 0)/\Q (.own 2 ((e++[(⟨r6 (H2:Int) 0,y9⟩:r7)]).map aD) g20 QQ Rg) (.own 2 (z8.map aD) D0 r9 k₂)/\Q (iN (n-1)) (iN y7)/\Qr g (aE b ((q+1)+1)) g (aE b o9)/\True) ([.agg [bV v1,sV y9]]:List V)) (r6 (H2:Int) 0)) (((2,u,f,k,(e.map aD).length)=(2,u,f,k,(e.map aD).length))/\((.sl false (V.C8 (e.map aD)):V)=dQ e)/\∃ x:List r7×Nat,(x.1.length<=4/\(∀ r,r∈x.1->r.path∈kJ)/\p<=x.2/\x.2<=p+9)/\Q (dQ e) (dQ x.1)/\Qr g (aE b q) g (aE b x.2)))
  Zac ?_
 refine⟨rfl,rfl,⟨Zae,Zae,Zae⟩,?_⟩
 intro s5 Pc
 refine⟨⟨(s5,[],p+1,0,0,0),?_,rfl,rfl,rfl,rfl,trivial⟩,?_⟩
 simp;omega
 rintro⟨n,e,q,u,f,k⟩ ⟨h1,h2,h3,h4⟩
 refine bI (fun l3=>?_) fun l3=>?_
 refine⟨rfl,rfl,⟨Zae,Zae,Zae⟩,?_⟩
 intro H2 QS
 refine⟨rfl,rfl,⟨Zae,Zae⟩,?_⟩
 intro y9 RG
 refine⟨rfl,trivial,rfl,by simp[aM,V.n,V.ns],Zaj,?_⟩
 intro g20 QQ Rg
 refine⟨Zbk (V.own 2 · g20 QQ Rg) Zab,Zaa,by simp[Q];omega,?_⟩
 refine⟨(n-1,e++[(⟨r6 (H2:Int) 0,y9⟩:r7)],q+2,g20,QQ,Rg),?_,?_,rfl,rfl,rfl,Zaf,trivial⟩
 refine⟨Zaj,?_,Zaa,Zaa⟩
 intro r hr
 rcases Zav.1 hr with h | h
 exact h2 r h
 rw[Zat.1 h];exact RG
 exact Zai
 refine⟨rfl,Zbk (V.sl false) (aT (fun _=>rfl) _),?_⟩
 refine⟨(e,q),?_,?_,?_⟩
 try dsimp only
 exact⟨Zaa,h2,Zaa,Zaa⟩
 first | rfl | simp_all
 first | rfl | exact⟨rfl,rfl⟩ | simp_all)
def uO(b:BL)(p:Nat)(g:Nat):I2 Tryz.prog:=.mk (List l4×Nat) 73 [.ptr (.key 1000) [] g 0] [(1000,(g,aE b p))] ((b.length<=2000)/\(p<=800000)) (fun x=>x.1.length<=4/\(∀ y,y∈x.1->D3 y)/\p<=x.2/\x.2<=p+60) (fun x=>bG x.1) (fun x=>[(1000,(g,aE b x.2))]) (by
 rintro⟨hb,hp⟩
 refine fY (N:=72) (rs:=[.tmp 2]) (X:=List l4×Nat) (post:=fun x=>x.1.length<=4/\(∀ y,y∈x.1->D3 y)/\p<=x.2/\x.2<=p+60) (E:=fun x=>.sl false (x.1.map cq)) (H':=fun x=>[(1000,(g,.agg [.sl false (b.map n7),iN x.2]))]) Tryz.func73 Zac rfl rfl rfl Zac [(1000,(0,.b9))] (by intro _ k hk;simpa[lk] using hk)
  (.q 1<|.bs<|.q 1<|.q 1<|.cx (bE b p g 4) [(1000,1000)] (fun (s5:Nat)=>.q 1<|.h (.H9 3 3)<|.loop (Nat×(List l4)×Nat×Nat×Nat×Nat) (fun (n,e,q,u,f,k)=>⟨[(0,.ptr (.key 1000) [] g 0),(3,.own 3 (e.map cq) u f k),(4,iN n)],[(1000,(g,aE b q))]⟩) (fun (n,e,q,u,f,k)=>e.length+n<=3/\(∀ y,y∈e->D3 y)/\p<=q/\q+15*n<=p+50) (fun (n,e,q,u,f,k)=>n) (fun (n,e,q,u,f,k)=>.q 2<|.br (.q 1<|.bs<|.cx (fT b q g ([([42]:BL),([114,111,118,101,114]:BL),([115,99,111,117,116]:BL)]:List BL)) [(1000,1000)] (fun (H2:BL)=>.bs<|.q 1<|.cx (wM b (q+1) g) [(1000,1000)] (fun (y9:List r7×Nat)=>.q 1<|.cx (bE b y9.2 g 4) [(1000,1000)] (fun (J2:Nat)=>.q 1<|.cx (bE b (y9.2+1) g 3) [(1000,1000)] (fun (J1:Nat)=>.q 1<|.bd lp<|.al lp (fun g5=>.st none<|.q 1<|.cx (bE b ((y9.2+1)+1) g 4) [(1000,1000)] (fun (E7:Nat)=>.q 1<|.join (List BL×Nat) (fun y=>⟨[(0,.ptr (.key 1000) [] g 0),(3,.own 3 (e.map cq) u f k),(4,iN n),(5,.ptr (.key 5) [] g5 0)],[(1000,(g,aE b y.2)),(5,(g5,fa y.1 y9.1 (J2*J1)))]⟩) (fun y=>y.1.length<=2/\(∀ x,x∈y.1->x.length<=5/\l8 x)/\q<=y.2/\y.2<=q+15) (.dx 7 [0,1,2,3,4,5,6] [(1,⟨false,[],some [5],[29],[]⟩),(4,⟨true,[],some [1000],[32],[1000]⟩),(6,⟨true,[],none,[34],[]⟩)] []<|.q 1<|.r 1 [.b9]<|.q 1<|.bs<|.cx (fT b (((y9.2+1)+1)+1) g ([([42]:BL),([114,111,118,101,114]:BL),([120]:BL)]:List BL)) [(1000,1000)] (fun (PD:BL)=>.bs<|.ux none (fun WT Wp WZ=>.h (.n8 34 (.own 1 ([H2,PD].map sV) WT Wp WZ))<|.q 1<|.h (.fz 34)<|.h (.n8 34 (.sl false ([H2,PD].map sV)))<|.st none<|.nil))) (.nil) (fun y=>.r 9 [.b9,.b9]<|.br (.r 2 [.b9]<|.bs<|.ap (fun N9 N4 Oa=>.h (.n8 48 (.own 3 ((e++[(⟨y.1,y9.1,J2*J1⟩:l4)]).map cq) N9 N4 Oa))<|.q 1<|.q 2<|.h (.n8 12 (iN (n-1)))<|.q 1<|.nil)) (.q 2<|.h (.n8 12 (iN (n-1)))<|.q 1<|.nil))))))))) (.q 1<|.cx (bE b q g 24) [(1000,1000)] (fun (G5:Nat)=>.q 2<|.br (.q 1<|.bs<|.bd lp<|.h (.X2 55 (.agg [.sl false ([[120]].map sV),.sl false ([].map aD),iN 0]))<|.bs<|.ap (fun Va Ut Vq=>.h (.n8 57 (.own 3 ((e++[(⟨[[120]],[],0⟩:l4)]).map cq) Va Ut Vq))<|.q 1<|.q 2<|.h (.jt 2)<|.h (.fz 2)<|.h (.n8 2 (bG (e++[(⟨[[120]],[],0⟩:l4)])))<|.nil)) (.q 2<|.br (.q 1<|.bd lp<|.h (.X2 61 (.agg [.sl false ([].map sV),.sl false ([].map aD),iN 2]))<|.bs<|.ap (fun U8 Uq Vn=>.h (.n8 63 (.own 3 ((e++[(⟨[],[],2⟩:l4)]).map cq) U8 Uq Vn))<|.q 1<|.q 2<|.h (.jt 2)<|.h (.fz 2)<|.h (.n8 2 (bG (e++[(⟨[],[],2⟩:l4)])))<|.nil)) (.q 2<|.br (.q 1<|.bs<|.bd lp<|.h (.X2 68 (.agg [.sl false ([[88]].map sV),.sl false ([].map aD),iN 2]))<|.bs<|.ap (fun U6 Uo Vl=>.h (.n8 70 (.own 3 ((e++[(⟨[[88]],[],2⟩:l4)]).map cq) U6 Uo Vl))<|.q 1<|.q 2<|.h (.jt 2)<|.h (.fz 2)<|.h (.n8 2 (bG (e++[(⟨[[88]],[],2⟩:l4)])))<|.nil)) (.q 2<|.h (.jt 2)<|.h (.fz 2)<|.h (.n8 2 (bG e))<|.nil))))))))
  ((fun v1:BL=>(fun v2:List V=>(fun v3:List V=>(fun v4:List V=>(fun v5:BL=>(fun v6:BL=>(fun v7:V=>(fun v8:BL=>((bE b p g 4).sm/\Er g (aE b p)/\((b.length<=2000)/\(p<=1000000)/\(4<=1000000))/\∀ s5:Nat,(4=0/\s5=0\/s5<4)->(∃ x:Nat×(List l4)×Nat×Nat×Nat×Nat,match x with | (L',E8,B9,J7,B8,s7)=>(E8.length+L'<=3/\(∀ y,y∈E8->D3 y)/\p<=B9/\B9+15*L'<=p+50)/\E v7/\Q (.own 3 ([].map cq) 0 0 0) (.own 3 (E8.map cq) J7 B8 s7)/\Q (iN s5) (iN L')/\Qr g (aE b (p+1)) g (aE b B9)/\True)/\∀ x:Nat×(List l4)×Nat×Nat×Nat×Nat,match x with | (n,e,q,u,f,k)=>(e.length+n<=3/\(∀ y,y∈e->D3 y)/\p<=q/\q+15*n<=p+50)->(fun v9:V=>(fun v10:V=>Br (w3 (n:Int) 0) ((fT b q g ([v5,v1,v6]:List BL)).sm/\Er g (aE b q)/\((b.length<=2000)/\(q<=1000000)/\(1<=([v5,v1,v6]:List BL).length)/\(([v5,v1,v6]:List BL).length<=1000))/\∀ H2:BL,(H2∈([v5,v1,v6]:List BL))->(wM b (q+1) g).sm/\Er g v9/\((b.length<=2000)/\((q+1)<=900000))/\∀ y9:List r7×Nat,(y9.1.length<=4/\(∀ r,r∈y9.1->r.path∈kJ)/\(q+1)<=y9.2/\y9.2<=(q+1)+9)->(fun v11:Bool=>(bE b y9.2 g 4).sm/\Er g (aE b y9.2)/\((b.length<=2000)/\(y9.2<=1000000)/\(4<=1000000))/\∀ J2:Nat,(4=0/\J2=0\/J2<4)->(bE b (y9.2+1) g 3).sm/\Er g (aE b (y9.2+1))/\((b.length<=2000)/\((y9.2+1)<=1000000)/\(3<=1000000))/\∀ J1:Nat,(3=0/\J1=0\/J1<3)->m8 ((J2:Int)*(J1:Int))/\∀ g5:Nat,Z g5 0/\(bE b ((y9.2+1)+1) g 4).sm/\Er g (aE b ((y9.2+1)+1))/\((b.length<=2000)/\(((y9.2+1)+1)<=1000000)/\(4<=1000000))/\∀ E7:Nat,(4=0/\E7=0\/E7<4)->((r6 (E7:Int) 0)=true->Z g5 0/\(fT b (((y9.2+1)+1)+1) g ([v5,v1,v8]:List BL)).sm/\Er g (aE b (((y9.2+1)+1)+1))/\((b.length<=2000)/\((((y9.2+1)+1)+1)<=1000000)/\(1<=([v5,v1,v8]:List BL).length)/\(([v5,v1,v8]:List BL).length<=1000))/\∀ PD:BL,(PD∈([v5,v1,v8]:List BL))->(fun v12:List V=>(((aM 1 [sV H2]/\0<v12.length))/\(V.aK v12=false)/\(aM 1 v12)/\((([sV H2]:List V).length+v12.length)*16<=140737488355328))/\∀ WT Wp WZ:Nat,((.own 1 (([sV H2]:List V)++v12) WT Wp WZ:V)=.own 1 ([H2,PD].map sV) WT Wp WZ)/\((.sl false (V.C8 ([H2,PD].map sV)):V)=.sl false ([H2,PD].map sV))/\Z g5 0/\∃ y:List BL×Nat,(y.1.length<=2/\(∀ x,x∈y.1->x.length<=5/\l8 x)/\q<=y.2/\y.2<=q+15)/\E v7/\E v10/\E (iN n)/\E (.ptr (.key 5) [] g5 0)/\Qr g (aE b ((((y9.2+1)+1)+1)+1)) g (aE b y.2)/\Qr g5 (lx (.sl false ([H2,PD].map sV)) y9.1 (J2*J1)) g5 (fa y.1 y9.1 (J2*J1))/\True) ([sV PD]:List V))/\((r6 (E7:Int) 0)=false->∃ y:List BL×Nat,(y.1.length<=2/\(∀ x,x∈y.1->x.length<=5/\l8 x)/\q<=y.2/\y.2<=q+15)/\E v7/\E v10/\E (iN n)/\E (.ptr (.key 5) [] g5 0)/\Qr g (aE b (((y9.2+1)+1)+1)) g (aE b y.2)/\Qr g5 (lx (.sl false [sV H2]) y9.1 (J2*J1)) g5 (fa y.1 y9.1 (J2*J1))/\True)/\(∀ y:List BL×Nat,(y.1.length<=2/\(∀ x,x∈y.1->x.length<=5/\l8 x)/\q<=y.2/\y.2<=q+15)->Z g5 1/\Gd (v11==false) (Z g5 2)/\Pk v11 true (v11==false)/\Br (v11||(w3 ((J2*J1:Nat):Int) 0)) (Z g5 0/\((3,3,u,f,k,(e.map cq).length)=(3,3,u,f,k,(e.map cq).length))/\(True)/\(V.aK ([fa y.1 y9.1 (J2*J1)]:List V)=false)/\(aM 3 ([fa y.1 y9.1 (J2*J1)]:List V))/\(((e.map cq).length+([fa y.1 y9.1 (J2*J1)]:List V).length)*56<=140737488355328)/\∀ N9 N4 Oa:Nat,((.own 3 ((e.map cq)++([fa y.1 y9.1 (J2*J1)]:List V)) N9 N4 Oa:V)=.own 3 ((e++[(⟨y.1,y9.1,J2*J1⟩:l4)]).map cq) N9 N4 Oa)/\m8 ((n:Int)-1)/\Q (iV ((n:Int)-1)) (iN (n-1))/\∃ x:Nat×(List l4)×Nat×Nat×Nat×Nat,match x with | (y7,z8,o9,D0,r9,k₂)=>(z8.length+y7<=3/\(∀ y,y∈z8->D3 y)/\p<=o9/\o9+15*y7<=p+50)/\(y7<n)/\E v7/\Q (.own 3 ((e++[(⟨y.1,y9.1,J2*J1⟩:l4)]).map cq) N9 N4 Oa) (.own 3 (z8.map cq) D0 r9 k₂)/\Q (iN (n-1)) (iN y7)/\Qr g (aE b y.2) g (aE b o9)/\True) (m8 ((n:Int)-1)/\Q (iV ((n:Int)-1)) (iN (n-1))/\∃ x:Nat×(List l4)×Nat×Nat×Nat×Nat,match x with | (y7,z8,o9,D0,r9,k₂)=>(z8.length+y7<=3/\(∀ y,y∈z8->D3 y)/\p<=o9/\o9+15*y7<=p+50)/\(y7<n)/\E v7/\Q v10 (.own 3 (z8.map cq) D0 r9 k₂)/\Q (iN (n-1)) (iN y7)/\Qr g (aE b y.2) g (aE b o9)/\True))) (w3 (((y9.1.map aD).length:Nat):Int) 0)) ((bE b q g 24).sm/\Er g (aE b q)/\((b.length<=2000)/\(q<=1000000)/\(24<=1000000))/\∀ G5:Nat,(24=0/\G5=0\/G5<24)->Br (r6 (G5:Int) 0) (((3,3,u,f,k,(e.map cq).length)=(3,3,u,f,k,(e.map cq).length))/\(True)/\(V.aK v2=false)/\(aM 3 v2)/\(((e.map cq).length+v2.length)*56<=140737488355328)/\∀ Va Ut Vq:Nat,((.own 3 ((e.map cq)++v2) Va Ut Vq:V)=.own 3 ((e++[(⟨[[120]],[],0⟩:l4)]).map cq) Va Ut Vq)/\((3,Va,Ut,Vq,((e++[(⟨[[120]],[],0⟩:l4)]).map cq).length)=(3,Va,Ut,Vq,((e++[(⟨[[120]],[],0⟩:l4)]).map cq).length))/\((.sl false (V.C8 ((e++[(⟨[[120]],[],0⟩:l4)]).map cq)):V)=bG (e++[(⟨[[120]],[],0⟩:l4)]))/\∃ x:List l4×Nat,(x.1.length<=4/\(∀ y,y∈x.1->D3 y)/\p<=x.2/\x.2<=p+60)/\Q (bG (e++[(⟨[[120]],[],0⟩:l4)])) (bG x.1)/\Qr g v9 g (aE b x.2)) (Br (r6 (G5:Int) 1) (((3,3,u,f,k,(e.map cq).length)=(3,3,u,f,k,(e.map cq).length))/\(True)/\(V.aK v4=false)/\(aM 3 v4)/\(((e.map cq).length+v4.length)*56<=140737488355328)/\∀ U8 Uq Vn:Nat,((.own 3 ((e.map cq)++v4) U8 Uq Vn:V)=.own 3 ((e++[(⟨[],[],2⟩:l4)]).map cq) U8 Uq Vn)/\((3,U8,Uq,Vn,((e++[(⟨[],[],2⟩:l4)]).map cq).length)=(3,U8,Uq,Vn,((e++[(⟨[],[],2⟩:l4)]).map cq).length))/\((.sl false (V.C8 ((e++[(⟨[],[],2⟩:l4)]).map cq)):V)=bG (e++[(⟨[],[],2⟩:l4)]))/\∃ x:List l4×Nat,(x.1.length<=4/\(∀ y,y∈x.1->D3 y)/\p<=x.2/\x.2<=p+60)/\Q (bG (e++[(⟨[],[],2⟩:l4)])) (bG x.1)/\Qr g v9 g (aE b x.2)) (Br (r6 (G5:Int) 2) (((3,3,u,f,k,(e.map cq).length)=(3,3,u,f,k,(e.map cq).length))/\(True)/\(V.aK v3=false)/\(aM 3 v3)/\(((e.map cq).length+v3.length)*56<=140737488355328)/\∀ U6 Uo Vl:Nat,((.own 3 ((e.map cq)++v3) U6 Uo Vl:V)=.own 3 ((e++[(⟨[[88]],[],2⟩:l4)]).map cq) U6 Uo Vl)/\((3,U6,Uo,Vl,((e++[(⟨[[88]],[],2⟩:l4)]).map cq).length)=(3,U6,Uo,Vl,((e++[(⟨[[88]],[],2⟩:l4)]).map cq).length))/\((.sl false (V.C8 ((e++[(⟨[[88]],[],2⟩:l4)]).map cq)):V)=bG (e++[(⟨[[88]],[],2⟩:l4)]))/\∃ x:List l4×Nat,(x.1.length<=4/\(∀ y,y∈x.1->D3 y)/\p<=x.2/\x.2<=p+60)/\Q (bG (e++[(⟨[[88]],[],2⟩:l4)])) (bG x.1)/\Qr g v9 g (aE b x.2)) (((3,u,f,k,(e.map cq).length)=(3,u,f,k,(e.map cq).length))/\((.sl false (V.C8 (e.map cq)):V)=bG e)/\∃ x:List l4×Nat,(x.1.length<=4/\(∀ y,y∈x.1->D3 y)/\p<=x.2/\x.2<=p+60)/\Q (bG e) (bG x.1)/\Qr g v9 g (aE b x.2)))))) (.own 3 (e.map cq) u f k)) (aE b (q+1)))) ([120]:BL)) (.ptr (.key 1000) [] g 0)) ([115,99,111,117,116]:BL)) ([42]:BL)) ([.agg [.sl false ([].map sV),.sl false ([].map aD),iN 2]]:List V)) ([.agg [.sl false ([[88]].map sV),.sl false ([].map aD),iN 2]]:List V)) ([.agg [.sl false ([[120]].map sV),.sl false ([].map aD),iN 0]]:List V)) ([114,111,118,101,114]:BL))
  Zac ?_
 refine⟨rfl,rfl,⟨Zaa,Zaa,Zaa⟩,?_⟩
 intro s5 Pc
 refine⟨⟨(s5,[],p+1,0,0,0),?_,rfl,rfl,rfl,rfl,trivial⟩,?_⟩
 simp;omega
 rintro⟨n,e,q,u,f,k⟩ ⟨h1,h2,h3,h4⟩
 refine bI (fun l3=>?_) fun l3=>?_
 refine⟨rfl,rfl,⟨Zaa,Zaa,Zab,Zab⟩,?_⟩
 intro H2 QS
 refine⟨rfl,rfl,⟨Zaa,Zaa⟩,?_⟩
 intro y9 RG
 refine⟨rfl,rfl,⟨Zaa,Zaa,Zaa⟩,?_⟩
 intro J2 hx5_7
 refine⟨rfl,rfl,⟨Zaa,Zaa,Zaa⟩,?_⟩
 intro J1 hx5_9
 refine⟨by have:=Nat.mul_le_mul (show J2<=3 by omega) (show J1<=2 by omega);omega,?_⟩
 intro g5
 refine⟨rfl,rfl,rfl,⟨Zaa,Zaa,Zaa⟩,?_⟩
 intro E7 SL
 refine⟨fun l6=>?_,fun l6=>?_,fun y hy=>?_⟩
 try simp only[nb]at l6
 refine⟨rfl,rfl,rfl,⟨Zaa,Zaa,Zab,Zab⟩,?_⟩
 intro PD UM
 refine⟨⟨⟨by simp[aM,V.n,V.ns],Zab⟩,rfl,by simp[aM,V.n,V.ns],Zab⟩,?_⟩
 intro WT Wp WZ
 refine⟨Zbk (V.own 1 · WT Wp WZ) Zab,Zbk (V.sl false) (aT (fun _=>rfl) _),rfl,?_⟩
 exact⟨([H2,PD],(((y9.2+1)+1)+1)+1),⟨Zab,fun x hx=>(List.mem_cons.1 hx).elim (fun h=>h ▸ ⟨cv rfl QS,eC rfl QS⟩) fun h=>Zat.1 h ▸ ⟨cv rfl UM,eC rfl UM⟩,Zaa,Zaa⟩,rfl,rfl,rfl,rfl,Zaf,Zaf,trivial⟩
 try simp only[nb]at l6
 exact⟨([H2],((y9.2+1)+1)+1),⟨Zab,fun x hx=>Zat.1 hx ▸ ⟨cv rfl QS,eC rfl QS⟩,Zaa,Zaa⟩,rfl,rfl,rfl,rfl,Zaf,Zaf,trivial⟩
 refine⟨rfl,fun hG=>rfl,⟨fun _=>rfl,fun h=>by rw[h] <;> rfl⟩,?_⟩
 refine bI (fun n0=>?_) fun n0=>?_
 refine⟨rfl,rfl,trivial,rfl,by simp[aM,V.n,V.ns],Zaj,?_⟩
 intro N9 N4 Oa
 refine⟨Zbk (V.own 3 · N9 N4 Oa) Zab,Zaa,by simp[Q];omega,?_⟩
 refine⟨(n-1,e++[(⟨y.1,y9.1,J2*J1⟩:l4)],y.2,N9,N4,Oa),?_,?_,rfl,rfl,rfl,rfl,trivial⟩
 refine⟨Zaj,iL h2 ⟨hy.1,fun x hx=>(hy.2.1 x hx).1,RG.1,RG.2.1,?_,fun x hx=>(hy.2.1 x hx).2⟩,Zaa,Zaa⟩
 exact Nat.mul_le_mul (show J2<=3 by omega) (show J1<=2 by omega)
 exact Zai
 refine⟨Zaa,by simp[Q];omega,?_⟩
 refine⟨(n-1,e,y.2,u,f,k),?_,?_,rfl,rfl,rfl,rfl,trivial⟩
 exact⟨Zaa,h2,Zaa,Zaa⟩
 exact Zai
 refine⟨rfl,rfl,⟨Zaa,Zaa,Zaa⟩,?_⟩
 intro G5 G7
 refine bI (fun x7=>?_) fun x7=>?_
 refine⟨rfl,trivial,rfl,by simp[aM,V.n,V.ns],Zaj,?_⟩
 intro Va Ut Vq
 refine⟨Zbk (V.own 3 · Va Ut Vq) Zab,rfl,Zbk (V.sl false) (aT (fun _=>rfl) _),?_⟩
 refine⟨(e++[(⟨[[120]],[],0⟩:l4)],q+1),?_,?_,?_⟩
 try dsimp only
 exact⟨Zaj,iL h2 ⟨Zab,Zab,Zab,Zab,Zab,by first | (solve | simp) | (intro x hx;rw[Zat.1 hx];exact cd rfl)⟩,Zaa,Zaa⟩
 first | rfl | simp_all
 first | rfl | exact⟨rfl,rfl⟩ | simp_all
 refine bI (fun I4=>?_) fun I4=>?_
 refine⟨rfl,trivial,rfl,by simp[aM,V.n,V.ns],Zaj,?_⟩
 intro U8 Uq Vn
 refine⟨Zbk (V.own 3 · U8 Uq Vn) Zab,rfl,Zbk (V.sl false) (aT (fun _=>rfl) _),?_⟩
 refine⟨(e++[(⟨[],[],2⟩:l4)],q+1),?_,?_,?_⟩
 try dsimp only
 exact⟨Zaj,iL h2 ⟨Zab,Zab,Zab,Zab,Zab,by first | (solve | simp) | (intro x hx;rw[Zat.1 hx];exact cd rfl)⟩,Zaa,Zaa⟩
 first | rfl | simp_all
 first | rfl | exact⟨rfl,rfl⟩ | simp_all
 refine bI (fun Pu=>?_) fun Pu=>?_
 refine⟨rfl,trivial,rfl,by simp[aM,V.n,V.ns],Zaj,?_⟩
 intro U6 Uo Vl
 refine⟨Zbk (V.own 3 · U6 Uo Vl) Zab,rfl,Zbk (V.sl false) (aT (fun _=>rfl) _),?_⟩
 refine⟨(e++[(⟨[[88]],[],2⟩:l4)],q+1),?_,?_,?_⟩
 try dsimp only
 exact⟨Zaj,iL h2 ⟨Zab,Zab,Zab,Zab,Zab,by first | (solve | simp) | (intro x hx;rw[Zat.1 hx];exact cd rfl)⟩,Zaa,Zaa⟩
 first | rfl | simp_all
 first | rfl | exact⟨rfl,rfl⟩ | simp_all
 refine⟨rfl,Zbk (V.sl false) (aT (fun _=>rfl) _),?_⟩
 refine⟨(e,q+1),?_,?_,?_⟩
 try dsimp only
 exact⟨Zaa,h2,Zaa,Zaa⟩
 first | rfl | simp_all
 first | rfl | exact⟨rfl,rfl⟩ | simp_all)
def fD(b:BL)(p:Nat)(g:Nat):I2 Tryz.prog:=.mk (BL×Nat) 74 [.ptr (.key 1000) [] g 0] [(1000,(g,aE b p))] ((b.length<=2000)/\(p<=900000)) (fun x=>x.1.length<=25/\p<=x.2/\x.2<=p+6/\l8 x.1) (fun x=>sV x.1) (fun x=>[(1000,(g,aE b x.2))]) (by
 rintro⟨hb,hp⟩
 refine fY (N:=35) (rs:=[.tmp 2]) (X:=BL×Nat) (post:=fun x=>x.1.length<=25/\p<=x.2/\x.2<=p+6/\l8 x.1) (E:=fun x=>sV x.1) (H':=fun x=>[(1000,(g,.agg [.sl false (b.map n7),iN x.2]))]) Tryz.func74 Zac rfl rfl rfl Zac [(1000,(0,.b9))] (by intro _ k hk;simpa[lk] using hk)
  (.q 1<|.c (nI) []<|.q 1<|.cx (bE b p g 4) [(1000,1000)] (fun (x8:Nat)=>.r 2 [sV (bb.getD x8 [])]<|.bd dw<|.al dw (fun g3=>.st none<|.q 1<|.cx (bE b (p+1) g 3) [(1000,1000)] (fun (s5:Nat)=>.q 1<|.h (.B3 (.key 3) [1] 1)<|.loop (Nat×(List BL)×Nat×Nat×Nat×Nat) (fun (n,e,q,u,f,k)=>⟨[(0,.ptr (.key 1000) [] g 0),(3,.ptr (.key 3) [] g3 0),(4,iN n)],[(1000,(g,aE b q)),(3,(g3,.agg [sV (bb.getD x8 []),.own 1 (e.map sV) u f k,bV false,sV []]))]⟩) (fun (n,e,q,u,f,k)=>e.length+n<=2/\(∀ y,y∈e->y.length<=6/\l8 y)/\p<=q/\q+n<=p+4) (fun (n,e,q,u,f,k)=>n) (fun (n,e,q,u,f,k)=>.q 2<|.br (.dx 7 [0,1,2,3,4,5,6] [(1,⟨false,[],some [3],[18],[]⟩),(4,⟨true,[],some [1000],[21],[1000]⟩),(6,⟨true,[],none,[23],[3]⟩)] []<|.q 1<|.r 1 [.b9]<|.q 1<|.bs<|.cx (fT b q g ([([97]:BL),([98]:BL),([99]:BL),([110,111,116,105,99,101]:BL)]:List BL)) [(1000,1000)] (fun (QC:BL)=>.bs<|.ux none (fun g23 QP Rf=>.h (.n8 23 (.own 1 ((e++[QC]).map sV) g23 QP Rf))<|.q 1<|.st none<|.q 2<|.h (.n8 16 (iN (n-1)))<|.q 1<|.nil))) (.q 1<|.cx (bE b q g 8) [(1000,1000)] (fun (E7:Nat)=>.q 1<|.br (.q 1<|.st none<|.q 1<|.bs<|.cx (fT b (q+1) g ([[],([97]:BL),([98,37,51,68]:BL)]:List BL)) [(1000,1000)] (fun (M9:BL)=>.q 1<|.st none<|.mv<|.h (.fz 33)<|.h (.n8 33 (.agg [sV (bb.getD x8 []),ao e,bV true,sV M9]))<|.c (lj (⟨(bb.getD x8 []),e,true,M9⟩:s4)) []<|.q 1<|.nil)) (.mv<|.h (.fz 33)<|.h (.n8 33 (.agg [sV (bb.getD x8 []),ao e,bV false,sV []]))<|.c (lj (⟨(bb.getD x8 []),e,false,[]⟩:s4)) []<|.q 1<|.nil))))))))
  ((fun v1:BL=>(fun v2:BL=>(fun v3:BL=>(fun v4:BL=>(fun v5:BL=>((nI).sm/\(True)/\(bE b p g 4).sm/\Er g (aE b p)/\((b.length<=2000)/\(p<=1000000)/\(4<=1000000))/\∀ x8:Nat,(4=0/\x8=0\/x8<4)->Ex (x8:Int) (bb.map sV) (sV (bb.getD x8 []))/\True/\∀ g3:Nat,Z g3 0/\(bE b (p+1) g 3).sm/\Er g (aE b (p+1))/\((b.length<=2000)/\((p+1)<=1000000)/\(3<=1000000))/\∀ s5:Nat,(3=0/\s5=0\/s5<3)->(∃ x:Nat×(List BL)×Nat×Nat×Nat×Nat,match x with | (L',E8,B9,J7,B8,s7)=>(E8.length+L'<=2/\(∀ y,y∈E8->y.length<=6/\l8 y)/\p<=B9/\B9+L'<=p+4)/\E (.ptr (.key 1000) [] g 0)/\E (.ptr (.key 3) [] g3 0)/\Q (iN s5) (iN L')/\Qr g (aE b ((p+1)+1)) g (aE b B9)/\Qr g3 (.agg [sV (bb.getD x8 []),.own 1 ([].map sV) 0 0 0,bV false,sV []]) g3 (.agg [sV (bb.getD x8 []),.own 1 (E8.map sV) J7 B8 s7,bV false,sV []])/\True)/\∀ x:Nat×(List BL)×Nat×Nat×Nat×Nat,match x with | (n,e,q,u,f,k)=>(e.length+n<=2/\(∀ y,y∈e->y.length<=6/\l8 y)/\p<=q/\q+n<=p+4)->Br (w3 (n:Int) 0) (Z g3 1/\(fT b q g ([v2,v4,v5,v1]:List BL)).sm/\Er g (aE b q)/\((b.length<=2000)/\(q<=1000000)/\(1<=([v2,v4,v5,v1]:List BL).length)/\(([v2,v4,v5,v1]:List BL).length<=1000))/\∀ QC:BL,(QC∈([v2,v4,v5,v1]:List BL))->(fun v6:List V=>(((1,1,u,f,k,(e.map sV).length)=(1,1,u,f,k,(e.map sV).length))/\(V.aK v6=false)/\(aM 1 v6)/\(((e.map sV).length+v6.length)*16<=140737488355328))/\∀ g23 QP Rf:Nat,((.own 1 ((e.map sV)++v6) g23 QP Rf:V)=.own 1 ((e++[QC]).map sV) g23 QP Rf)/\Z g3 1/\m8 ((n:Int)-1)/\Q (iV ((n:Int)-1)) (iN (n-1))/\∃ x:Nat×(List BL)×Nat×Nat×Nat×Nat,match x with | (y7,z8,o9,D0,r9,k₂)=>(z8.length+y7<=2/\(∀ y,y∈z8->y.length<=6/\l8 y)/\p<=o9/\o9+y7<=p+4)/\(y7<n)/\E (.ptr (.key 1000) [] g 0)/\E (.ptr (.key 3) [] g3 0)/\Q (iN (n-1)) (iN y7)/\Qr g (aE b (q+1)) g (aE b o9)/\Qr g3 (.agg [sV (bb.getD x8 []),.own 1 ((e++[QC]).map sV) g23 QP Rf,bV false,sV []]) g3 (.agg [sV (bb.getD x8 []),.own 1 (z8.map sV) D0 r9 k₂,bV false,sV []])/\True) ([sV QC]:List V)) ((bE b q g 8).sm/\Er g (aE b q)/\((b.length<=2000)/\(q<=1000000)/\(8<=1000000))/\∀ E7:Nat,(8=0/\E7=0\/E7<8)->Br (r6 (E7:Int) 0) (Z g3 2/\(fT b (q+1) g ([[],v2,v3]:List BL)).sm/\Er g (aE b (q+1))/\((b.length<=2000)/\((q+1)<=1000000)/\(1<=([[],v2,v3]:List BL).length)/\(([[],v2,v3]:List BL).length<=1000))/\∀ M9:BL,(M9∈([[],v2,v3]:List BL))->Z g3 3/\Z g3 0/\((.agg [sV (bb.getD x8 []),.sl false (V.C8 (e.map sV)),bV true,sV M9]:V)=.agg [sV (bb.getD x8 []),ao e,bV true,sV M9])/\(lj (⟨(bb.getD x8 []),e,true,M9⟩:s4)).sm/\((eZ (⟨(bb.getD x8 []),e,true,M9⟩:s4)))/\∃ x:BL×Nat,(x.1.length<=25/\p<=x.2/\x.2<=p+6/\l8 x.1)/\Q (sV (bY (⟨(bb.getD x8 []),e,true,M9⟩:s4))) (sV x.1)/\Qr g (aE b ((q+1)+1)) g (aE b x.2)) (Z g3 0/\((.agg [sV (bb.getD x8 []),.sl false (V.C8 (e.map sV)),bV false,sV []]:V)=.agg [sV (bb.getD x8 []),ao e,bV false,sV []])/\(lj (⟨(bb.getD x8 []),e,false,[]⟩:s4)).sm/\((eZ (⟨(bb.getD x8 []),e,false,[]⟩:s4)))/\∃ x:BL×Nat,(x.1.length<=25/\p<=x.2/\x.2<=p+6/\l8 x.1)/\Q (sV (bY (⟨(bb.getD x8 []),e,false,[]⟩:s4))) (sV x.1)/\Qr g (aE b (q+1)) g (aE b x.2))))) ([99]:BL)) ([98]:BL)) ([98,37,51,68]:BL)) ([97]:BL)) ([110,111,116,105,99,101]:BL))
  Zac ?_
 refine⟨rfl,trivial,rfl,rfl,⟨Zaa,Zaa,Zaa⟩,?_⟩
 intro x8 QT
 refine⟨HJ (by show _<4;omega),trivial,?_⟩
 intro g3
 refine⟨rfl,rfl,rfl,⟨Zaa,Zaa,Zaa⟩,?_⟩
 intro s5 Pc
 refine⟨⟨(s5,[],p+1+1,0,0,0),?_,rfl,rfl,rfl,Zaf,rfl,trivial⟩,?_⟩
 simp;omega
 rintro⟨n,e,q,u,f,k⟩ ⟨h1,h2,h3,h4⟩
 refine bI (fun l3=>?_) fun l3=>?_
 refine⟨rfl,rfl,rfl,⟨Zaa,Zaa,Zab,Zab⟩,?_⟩
 intro QC UO
 refine⟨⟨rfl,rfl,by simp[aM,V.n,V.ns],Zaj⟩,?_⟩
 intro g23 QP Rf
 refine⟨Zbk (V.own 1 · g23 QP Rf) Zab,rfl,Zaa,by simp[Q];omega,?_⟩
 refine⟨(n-1,e++[QC],q+1,g23,QP,Rf),?_,?_,rfl,rfl,rfl,rfl,rfl,trivial⟩
 exact⟨Zaj,iL h2 ⟨cv rfl UO,eC rfl UO⟩,Zaa,Zaa⟩
 exact Zai
 refine⟨rfl,rfl,⟨Zaa,Zaa,Zaa⟩,?_⟩
 intro E7 SL
 refine bI (fun l6=>?_) fun l6=>?_
 refine⟨rfl,rfl,rfl,⟨Zaa,Zaa,Zab,Zab⟩,?_⟩
 intro M9 P5
 refine⟨rfl,rfl,by simp only[aT (f:=sV) (fun _=>rfl)],rfl,(pN (dB rfl _) (by simp only;omega) (fun x hx=>(h2 x hx).1) (by first | exact cv rfl P5 | simp)).1,?_⟩
 refine⟨(bY (⟨(bb.getD x8 []),e,true,M9⟩:s4),(q+1)+1),?_,?_,?_⟩
 try dsimp only
 exact⟨(pN (dB rfl _) (by simp only;omega) (fun x hx=>(h2 x hx).1) (cv rfl P5)).2,Zaa,Zaa,Ce (fq rfl _) (fun x hx=>(h2 x hx).2) (eC rfl P5)⟩
 first | rfl | simp_all
 first | rfl | exact⟨rfl,rfl⟩ | simp_all
 refine⟨rfl,by simp only[aT (f:=sV) (fun _=>rfl)],rfl,(pN (dB rfl _) (by simp only;omega) (fun x hx=>(h2 x hx).1) (by first | exact cv rfl P5 | simp)).1,?_⟩
 refine⟨(bY (⟨(bb.getD x8 []),e,false,[]⟩:s4),q+1),?_,?_,?_⟩
 try dsimp only
 exact⟨(pN (dB rfl _) (by simp only;omega) (fun x hx=>(h2 x hx).1) Zab).2,Zaa,Zaa,Ce (fq rfl _) (fun x hx=>(h2 x hx).2) bp⟩
 first | rfl | simp_all
 first | rfl | exact⟨rfl,rfl⟩ | simp_all)
def iI(b:BL)(p:Nat)(g:Nat):I2 Tryz.prog:=.mk (BL×Nat) 104 [.ptr (.key 1000) [] g 0] [(1000,(g,aE b p))] ((b.length<=2000)/\(p<=890000)) (fun x=>x.1.length<=25/\p<=x.2/\x.2<=p+7/\l8 x.1) (fun x=>sV x.1) (fun x=>[(1000,(g,aE b x.2))]) (by
 rintro⟨hb,hp⟩
 refine fY (N:=34) (rs:=[.tmp 2]) (X:=BL×Nat) (post:=fun x=>x.1.length<=25/\p<=x.2/\x.2<=p+7/\l8 x.1) (E:=fun x=>sV x.1) (H':=fun x=>[(1000,(g,.agg [.sl false (b.map n7),iN x.2]))]) Tryz.func104 Zac rfl rfl rfl Zac [(1000,(0,.b9))] (by intro _ k hk;simpa[lk] using hk)
  (.q 1<|.q 1<|.cx (bE b p g 8) [(1000,1000)] (fun (l7:Nat)=>.q 2<|.join (Bool) (fun c=>⟨[(0,.ptr (.key 1000) [] g 0),(4,iN l7),(5,bV c)],[(1000,(g,aE b (p+1)))]⟩) (fun c=>True) (.nil) (.q 2<|.nil) (fun c=>.br (.q 1<|.cx (fD b (p+1) g) [(1000,1000)] (fun (K1:BL×Nat)=>.q 1<|.nil)) (.q 2<|.br (.q 1<|.bs<|.cx (fT b (p+1) g ([([97]:BL),([98]:BL),([97,47,98]:BL),([99,47,46,46,47,98]:BL),[],([120,47,46,47,99]:BL)]:List BL)) [(1000,1000)] (fun (RS:BL)=>.q 2<|.nil)) (.q 2<|.br (.q 1<|.bs<|.cx (fT b (p+1) g ([([46,46]:BL),([46,46,47,99]:BL),([46,46,47,46,46,47,46,46]:BL),([46]:BL),([46,47,97]:BL)]:List BL)) [(1000,1000)] (fun (M9:BL)=>.q 1<|.nil)) (.q 2<|.br (.q 1<|.bs<|.cx (fT b (p+1) g ([([63,97]:BL),([63]:BL),([35,116,111,112]:BL),[],([97,35,98]:BL),([98,63,97]:BL)]:List BL)) [(1000,1000)] (fun (QH:BL)=>.q 1<|.nil)) (.q 2<|.br (.q 1<|.bs<|.cx (fT b (p+1) g ([([47,47,65,66,47,97]:BL),([47,47,99,100]:BL),([47,47,99,100,63,120]:BL),([47,47,97,98,47,37,54,49]:BL),([47,47,116,111,111,108,111,110,103,47,97]:BL),([47,47,97,49,47,98]:BL),([47,47,47,97]:BL)]:List BL)) [(1000,1000)] (fun (QG:BL)=>.q 1<|.nil)) (.q 1<|.bs<|.cx (fT b (p+1) g ([([97]:BL),([98]:BL),([99]:BL),([97,47,98]:BL)]:List BL)) [(1000,1000)] (fun (QF:BL)=>.q 1<|.nil)))))))))
  ((fun v1:BL=>(fun v2:BL=>(fun v3:BL=>(fun v4:BL=>(fun v5:BL=>(fun v6:BL=>(fun v7:BL=>(fun v8:BL=>(fun v9:BL=>(fun v10:BL=>(fun v11:BL=>(fun v12:BL=>(fun E4:V=>(fun H6:BL=>(fun J4:BL=>(fun Ob:BL=>(fun OR:V=>(fun On:BL=>(fun X6:BL=>(fun v20:BL=>(fun v21:BL=>(fun v22:BL=>(fun X5:BL=>(fun v24:BL=>(fun X4:BL=>((bE b p g 8).sm/\Er g (aE b p)/\((b.length<=2000)/\(p<=1000000)/\(8<=1000000))/\∀ l7:Nat,(8=0/\l7=0\/l7<8)->((r6 (l7:Int) 0)=true->∃ c:Bool,(True)/\E (.ptr (.key 1000) [] g 0)/\E (iN l7)/\Q (bV (r6 (l7:Int) 0)) (bV c)/\Er g E4/\True)/\((r6 (l7:Int) 0)=false->∃ c:Bool,(True)/\E (.ptr (.key 1000) [] g 0)/\E (iN l7)/\Q (bV (r6 (l7:Int) 1)) (bV c)/\Er g E4/\True)/\(∀ c:Bool,(True)->Br c ((fD b (p+1) g).sm/\Er g E4/\((b.length<=2000)/\((p+1)<=900000))/\∀ K1:BL×Nat,(K1.1.length<=25/\(p+1)<=K1.2/\K1.2<=(p+1)+6/\l8 K1.1)->∃ x:BL×Nat,(x.1.length<=25/\p<=x.2/\x.2<=p+7/\l8 x.1)/\Q (sV K1.1) (sV x.1)/\Qr g (aE b K1.2) g (aE b x.2)) (Br (r6 (l7:Int) 2) ((fT b (p+1) g ([v6,v7,v2,v8,[],v11]:List BL)).sm/\Er g E4/\((b.length<=2000)/\((p+1)<=1000000)/\(1<=([v6,v7,v2,v8,[],v11]:List BL).length)/\(([v6,v7,v2,v8,[],v11]:List BL).length<=1000))/\∀ RS:BL,(RS∈([v6,v7,v2,v8,[],v11]:List BL))->(([47]:BL).length+RS.length<=4611686018427387904)/\∃ x:BL×Nat,(x.1.length<=25/\p<=x.2/\x.2<=p+7/\l8 x.1)/\Q (sV (([47]:BL)++RS)) (sV x.1)/\Qr g OR g (aE b x.2)) (Br (r6 (l7:Int) 3) ((fT b (p+1) g ([v21,J4,v3,X5,On]:List BL)).sm/\Er g E4/\((b.length<=2000)/\((p+1)<=1000000)/\(1<=([v21,J4,v3,X5,On]:List BL).length)/\(([v21,J4,v3,X5,On]:List BL).length<=1000))/\∀ M9:BL,(M9∈([v21,J4,v3,X5,On]:List BL))->∃ x:BL×Nat,(x.1.length<=25/\p<=x.2/\x.2<=p+7/\l8 x.1)/\Q (sV M9) (sV x.1)/\Qr g OR g (aE b x.2)) (Br (r6 (l7:Int) 4) ((fT b (p+1) g ([v22,v24,v12,[],X6,v20]:List BL)).sm/\Er g E4/\((b.length<=2000)/\((p+1)<=1000000)/\(1<=([v22,v24,v12,[],X6,v20]:List BL).length)/\(([v22,v24,v12,[],X6,v20]:List BL).length<=1000))/\∀ QH:BL,(QH∈([v22,v24,v12,[],X6,v20]:List BL))->∃ x:BL×Nat,(x.1.length<=25/\p<=x.2/\x.2<=p+7/\l8 x.1)/\Q (sV QH) (sV x.1)/\Qr g OR g (aE b x.2)) (Br (r6 (l7:Int) 5) ((fT b (p+1) g ([v9,H6,v5,v4,v1,v10,Ob]:List BL)).sm/\Er g E4/\((b.length<=2000)/\((p+1)<=1000000)/\(1<=([v9,H6,v5,v4,v1,v10,Ob]:List BL).length)/\(([v9,H6,v5,v4,v1,v10,Ob]:List BL).length<=1000))/\∀ QG:BL,(QG∈([v9,H6,v5,v4,v1,v10,Ob]:List BL))->∃ x:BL×Nat,(x.1.length<=25/\p<=x.2/\x.2<=p+7/\l8 x.1)/\Q (sV QG) (sV x.1)/\Qr g OR g (aE b x.2)) ((fT b (p+1) g ([v6,v7,X4,v2]:List BL)).sm/\Er g E4/\((b.length<=2000)/\((p+1)<=1000000)/\(1<=([v6,v7,X4,v2]:List BL).length)/\(([v6,v7,X4,v2]:List BL).length<=1000))/\∀ QF:BL,(QF∈([v6,v7,X4,v2]:List BL))->∃ x:BL×Nat,(x.1.length<=25/\p<=x.2/\x.2<=p+7/\l8 x.1)/\Q (sV QF) (sV x.1)/\Qr g OR g (aE b x.2))))))))) ([99]:BL)) ([63]:BL)) ([46]:BL)) ([63,97]:BL)) ([46,46]:BL)) ([98,63,97]:BL)) ([97,35,98]:BL)) ([46,47,97]:BL)) (aE b ((p+1)+1))) ([47,47,47,97]:BL)) ([46,46,47,99]:BL)) ([47,47,99,100]:BL)) (aE b (p+1))) ([35,116,111,112]:BL)) ([120,47,46,47,99]:BL)) ([47,47,97,49,47,98]:BL)) ([47,47,65,66,47,97]:BL)) ([99,47,46,46,47,98]:BL)) ([98]:BL)) ([97]:BL)) ([47,47,99,100,63,120]:BL)) ([47,47,97,98,47,37,54,49]:BL)) ([46,46,47,46,46,47,46,46]:BL)) ([97,47,98]:BL)) ([47,47,116,111,111,108,111,110,103,47,97]:BL))
  Zac ?_
 refine⟨rfl,rfl,⟨Zaa,Zaa,Zaa⟩,?_⟩
 intro l7 J'
 refine⟨fun l3=>?_,fun l3=>?_,fun c hc=>?_⟩
 try simp only[nb]at l3
 exact⟨r6 (l7:Int) 0,trivial,rfl,rfl,rfl,rfl,trivial⟩
 try simp only[nb]at l3
 exact⟨r6 (l7:Int) 1,trivial,rfl,rfl,rfl,rfl,trivial⟩
 refine bI (fun l6=>?_) fun l6=>?_
 · refine⟨rfl,rfl,⟨Zaa,Zaa⟩,?_⟩
   intro K1 Xq
   refine⟨(K1.1,K1.2),?_,?_,?_⟩
   · try dsimp only
     exact⟨Zaa,Zaa,Zaa,by(try dsimp only);repeat (first | assumption | exact bp | exact cd rfl | exact eC rfl (by assumption) | exact l8.drop (by apply And.right;apply And.right;apply And.right;assumption) _ | (apply And.right;apply And.right;apply And.right;assumption) | apply l8.app)⟩
   first | rfl | simp_all
   first | rfl | exact⟨rfl,rfl⟩ | simp_all
 · refine bI (fun n0=>?_) fun n0=>?_
   · refine⟨rfl,rfl,⟨Zaa,Zaa,Zab,Zab⟩,?_⟩
     intro RS UN
     refine⟨by(try have:=cv (n:=11) rfl UN);(try simp only[Zan,Zap,Zas]);omega,?_⟩
     refine⟨(([47]:BL)++RS,(p+1)+1),?_,?_,?_⟩
     · try dsimp only
       have:=cv (n:=11) rfl UN
       exact⟨by first | omega | (simp;omega),Zaa,Zaa,by(try dsimp only);repeat (first | assumption | exact bp | exact cd rfl | exact eC rfl (by assumption) | exact l8.drop (by apply And.right;apply And.right;apply And.right;assumption) _ | (apply And.right;apply And.right;apply And.right;assumption) | apply l8.app)⟩
     first | rfl | simp_all
     first | rfl | exact⟨rfl,rfl⟩ | simp_all
   · refine bI (fun x7=>?_) fun x7=>?_
     · refine⟨rfl,rfl,⟨Zaa,Zaa,Zab,Zab⟩,?_⟩
       intro M9 P5
       refine⟨(M9,(p+1)+1),?_,?_,?_⟩
       · try dsimp only
         have:=cv (n:=11) rfl P5
         exact⟨by first | omega | (simp;omega),Zaa,Zaa,by(try dsimp only);repeat (first | assumption | exact bp | exact cd rfl | exact eC rfl (by assumption) | exact l8.drop (by apply And.right;apply And.right;apply And.right;assumption) _ | (apply And.right;apply And.right;apply And.right;assumption) | apply l8.app)⟩
       first | rfl | simp_all
       first | rfl | exact⟨rfl,rfl⟩ | simp_all
     · refine bI (fun I4=>?_) fun I4=>?_
       · refine⟨rfl,rfl,⟨Zaa,Zaa,Zab,Zab⟩,?_⟩
         intro QH VP
         refine⟨(QH,(p+1)+1),?_,?_,?_⟩
         · try dsimp only
           have:=cv (n:=11) rfl VP
           exact⟨by first | omega | (simp;omega),Zaa,Zaa,by(try dsimp only);repeat (first | assumption | exact bp | exact cd rfl | exact eC rfl (by assumption) | exact l8.drop (by apply And.right;apply And.right;apply And.right;assumption) _ | (apply And.right;apply And.right;apply And.right;assumption) | apply l8.app)⟩
         first | rfl | simp_all
         first | rfl | exact⟨rfl,rfl⟩ | simp_all
       · refine bI (fun Pu=>?_) fun Pu=>?_
         · refine⟨rfl,rfl,⟨Zaa,Zaa,Zab,Zab⟩,?_⟩
           intro QG VO
           refine⟨(QG,(p+1)+1),?_,?_,?_⟩
           · try dsimp only
             have:=cv (n:=11) rfl VO
             exact⟨by first | omega | (simp;omega),Zaa,Zaa,by(try dsimp only);repeat (first | assumption | exact bp | exact cd rfl | exact eC rfl (by assumption) | exact l8.drop (by apply And.right;apply And.right;apply And.right;assumption) _ | (apply And.right;apply And.right;apply And.right;assumption) | apply l8.app)⟩
           first | rfl | simp_all
           first | rfl | exact⟨rfl,rfl⟩ | simp_all
         · refine⟨rfl,rfl,⟨Zaa,Zaa,Zab,Zab⟩,?_⟩
           intro QF VN
           refine⟨(QF,(p+1)+1),?_,?_,?_⟩
           · try dsimp only
             have:=cv (n:=11) rfl VN
             exact⟨by first | omega | (simp;omega),Zaa,Zaa,by(try dsimp only);repeat (first | assumption | exact bp | exact cd rfl | exact eC rfl (by assumption) | exact l8.drop (by apply And.right;apply And.right;apply And.right;assumption) _ | (apply And.right;apply And.right;apply And.right;assumption) | apply l8.app)⟩
           first | rfl | simp_all
           first | rfl | exact⟨rfl,rfl⟩ | simp_all)
def yG(b:BL)(p:Nat)(g:Nat):I2 Tryz.prog:=.mk (BL×Nat) 75 [.ptr (.key 1000) [] g 0] [(1000,(g,aE b p))] ((b.length<=2000)/\(p<=880000)) (fun x=>x.1.length<=240/\p<=x.2/\x.2<=p+70/\l8 x.1) (fun x=>sV x.1) (fun x=>[(1000,(g,aE b x.2))]) (by
 rintro⟨hb,hp⟩
 refine fY (N:=55) (rs:=[.tmp 2]) (X:=BL×Nat) (post:=fun x=>x.1.length<=240/\p<=x.2/\x.2<=p+70/\l8 x.1) (E:=fun x=>sV x.1) (H':=fun x=>[(1000,(g,.agg [.sl false (b.map n7),iN x.2]))]) Tryz.func75 Zac rfl rfl rfl Zac [(1000,(0,.b9))] (by intro _ k hk;simpa[lk] using hk)
  (.q 1<|.q 1<|.q 1<|.cx (bE b p g 5) [(1000,1000)] (fun (s5:Nat)=>.q 1<|.loop (Nat×BL×Nat) (fun (n,o,q)=>⟨[(0,.ptr (.key 1000) [] g 0),(3,sV o),(4,iN n)],[(1000,(g,aE b q))]⟩) (fun (n,o,q)=>o.length+60*n<=240/\p<=q/\q+16*n<=p+66/\l8 o) (fun (n,o,q)=>n) (fun (n,o,q)=>.q 2<|.br (.q 1<|.cx (bE b q g 9) [(1000,1000)] (fun (QD:Nat)=>.q 2<|.br (.q 3<|.cx (iI b (q+1) g) [(1000,1000)] (fun (L8:BL×Nat)=>.q 3<|.cx (iI b L8.2 g) [(1000,1000)] (fun (Pp:BL×Nat)=>.q 3<|.q 2<|.h (.n8 10 (iN (n-1)))<|.q 1<|.nil))) (.q 2<|.br (.q 3<|.cx (iI b (q+1) g) [(1000,1000)] (fun (L1:BL×Nat)=>.q 3<|.q 2<|.h (.n8 10 (iN (n-1)))<|.q 1<|.nil)) (.q 2<|.br (.q 3<|.cx (iI b (q+1) g) [(1000,1000)] (fun (L0:BL×Nat)=>.q 3<|.q 2<|.h (.n8 10 (iN (n-1)))<|.q 1<|.nil)) (.q 2<|.br (.q 2<|.bs<|.cx (fT b (q+1) g ([([116,101,120,116,32]:BL),([60]:BL),([62]:BL),([40]:BL),([41]:BL),([60,97]:BL)]:List BL)) [(1000,1000)] (fun (G4:BL)=>.q 2<|.q 2<|.h (.n8 10 (iN (n-1)))<|.q 1<|.nil)) (.q 3<|.cx (iI b (q+1) g) [(1000,1000)] (fun (Pq:BL×Nat)=>.q 3<|.q 2<|.h (.n8 10 (iN (n-1)))<|.q 1<|.nil))))))) (.q 2<|.nil))))
  ((fun v1:BL=>(fun v2:BL=>(fun v3:BL=>(fun v4:V=>(fun v5:BL=>(fun v6:BL=>(fun v7:BL=>(fun v8:BL=>(fun v9:BL=>((bE b p g 5).sm/\Er g (aE b p)/\((b.length<=2000)/\(p<=1000000)/\(5<=1000000))/\∀ s5:Nat,(5=0/\s5=0\/s5<5)->(∃ x:Nat×BL×Nat,match x with | (L',x9,B9)=>(x9.length+60*L'<=240/\p<=B9/\B9+16*L'<=p+66/\l8 x9)/\E v4/\Q (sV []) (sV x9)/\Q (iN s5) (iN L')/\Qr g (aE b (p+1)) g (aE b B9)/\True)/\∀ x:Nat×BL×Nat,match x with | (n,o,q)=>(o.length+60*n<=240/\p<=q/\q+16*n<=p+66/\l8 o)->(fun v10:V=>Br (w3 (n:Int) 0) ((bE b q g 9).sm/\Er g (aE b q)/\((b.length<=2000)/\(q<=1000000)/\(9<=1000000))/\∀ QD:Nat,(9=0/\QD=0\/QD<9)->Br (r6 (QD:Int) 0) ((o.length+v2.length<=4611686018427387904)/\(iI b (q+1) g).sm/\Er g v10/\((b.length<=2000)/\((q+1)<=890000))/\∀ L8:BL×Nat,(L8.1.length<=25/\(q+1)<=L8.2/\L8.2<=(q+1)+7/\l8 L8.1)->((o++v2).length+L8.1.length<=4611686018427387904)/\(((o++v2)++L8.1).length+v1.length<=4611686018427387904)/\(iI b L8.2 g).sm/\Er g (aE b L8.2)/\((b.length<=2000)/\(L8.2<=890000))/\∀ Pp:BL×Nat,(Pp.1.length<=25/\L8.2<=Pp.2/\Pp.2<=L8.2+7/\l8 Pp.1)->((((o++v2)++L8.1)++v1).length+Pp.1.length<=4611686018427387904)/\(((((o++v2)++L8.1)++v1)++Pp.1).length+([62,41]:BL).length<=4611686018427387904)/\m8 ((n:Int)-1)/\Q (iV ((n:Int)-1)) (iN (n-1))/\∃ x:Nat×BL×Nat,match x with | (y7,m6,o9)=>(m6.length+60*y7<=240/\p<=o9/\o9+16*y7<=p+66/\l8 m6)/\(y7<n)/\E v4/\Q (sV (((((o++v2)++L8.1)++v1)++Pp.1)++([62,41]:BL))) (sV m6)/\Q (iN (n-1)) (iN y7)/\Qr g (aE b Pp.2) g (aE b o9)/\True) (Br (r6 (QD:Int) 1) ((o.length+v6.length<=4611686018427387904)/\(iI b (q+1) g).sm/\Er g v10/\((b.length<=2000)/\((q+1)<=890000))/\∀ L1:BL×Nat,(L1.1.length<=25/\(q+1)<=L1.2/\L1.2<=(q+1)+7/\l8 L1.1)->((o++v6).length+L1.1.length<=4611686018427387904)/\(((o++v6)++L1.1).length+v3.length<=4611686018427387904)/\m8 ((n:Int)-1)/\Q (iV ((n:Int)-1)) (iN (n-1))/\∃ x:Nat×BL×Nat,match x with | (y7,m6,o9)=>(m6.length+60*y7<=240/\p<=o9/\o9+16*y7<=p+66/\l8 m6)/\(y7<n)/\E v4/\Q (sV (((o++v6)++L1.1)++v3)) (sV m6)/\Q (iN (n-1)) (iN y7)/\Qr g (aE b L1.2) g (aE b o9)/\True) (Br (r6 (QD:Int) 2) ((o.length+v7.length<=4611686018427387904)/\(iI b (q+1) g).sm/\Er g v10/\((b.length<=2000)/\((q+1)<=890000))/\∀ L0:BL×Nat,(L0.1.length<=25/\(q+1)<=L0.2/\L0.2<=(q+1)+7/\l8 L0.1)->((o++v7).length+L0.1.length<=4611686018427387904)/\(((o++v7)++L0.1).length+v3.length<=4611686018427387904)/\m8 ((n:Int)-1)/\Q (iV ((n:Int)-1)) (iN (n-1))/\∃ x:Nat×BL×Nat,match x with | (y7,m6,o9)=>(m6.length+60*y7<=240/\p<=o9/\o9+16*y7<=p+66/\l8 m6)/\(y7<n)/\E v4/\Q (sV (((o++v7)++L0.1)++v3)) (sV m6)/\Q (iN (n-1)) (iN y7)/\Qr g (aE b L0.2) g (aE b o9)/\True) (Br (r6 (QD:Int) 3) ((fT b (q+1) g ([v5,v1,v3,v2,v9,v8]:List BL)).sm/\Er g v10/\((b.length<=2000)/\((q+1)<=1000000)/\(1<=([v5,v1,v3,v2,v9,v8]:List BL).length)/\(([v5,v1,v3,v2,v9,v8]:List BL).length<=1000))/\∀ G4:BL,(G4∈([v5,v1,v3,v2,v9,v8]:List BL))->(o.length+G4.length<=4611686018427387904)/\m8 ((n:Int)-1)/\Q (iV ((n:Int)-1)) (iN (n-1))/\∃ x:Nat×BL×Nat,match x with | (y7,m6,o9)=>(m6.length+60*y7<=240/\p<=o9/\o9+16*y7<=p+66/\l8 m6)/\(y7<n)/\E v4/\Q (sV (o++G4)) (sV m6)/\Q (iN (n-1)) (iN y7)/\Qr g (aE b ((q+1)+1)) g (aE b o9)/\True) ((o.length+v1.length<=4611686018427387904)/\(iI b (q+1) g).sm/\Er g v10/\((b.length<=2000)/\((q+1)<=890000))/\∀ Pq:BL×Nat,(Pq.1.length<=25/\(q+1)<=Pq.2/\Pq.2<=(q+1)+7/\l8 Pq.1)->((o++v1).length+Pq.1.length<=4611686018427387904)/\(((o++v1)++Pq.1).length+v3.length<=4611686018427387904)/\m8 ((n:Int)-1)/\Q (iV ((n:Int)-1)) (iN (n-1))/\∃ x:Nat×BL×Nat,match x with | (y7,m6,o9)=>(m6.length+60*y7<=240/\p<=o9/\o9+16*y7<=p+66/\l8 m6)/\(y7<n)/\E v4/\Q (sV (((o++v1)++Pq.1)++v3)) (sV m6)/\Q (iN (n-1)) (iN y7)/\Qr g (aE b Pq.2) g (aE b o9)/\True))))) (∃ x:BL×Nat,(x.1.length<=240/\p<=x.2/\x.2<=p+70/\l8 x.1)/\Q (sV o) (sV x.1)/\Qr g (aE b q) g (aE b x.2))) (aE b (q+1)))) ([41]:BL)) ([60,97]:BL)) ([60,64]:BL)) ([60,33]:BL)) ([116,101,120,116,32]:BL)) (.ptr (.key 1000) [] g 0)) ([62]:BL)) ([40]:BL)) ([60]:BL))
  Zac ?_
 refine⟨rfl,rfl,⟨Zaa,Zaa,Zaa⟩,?_⟩
 intro s5 Pc
 refine⟨⟨(s5,[],p+1),?_,rfl,rfl,rfl,rfl,trivial⟩,?_⟩
 exact⟨Zaj,Zaa,Zaa,bp⟩
 rintro⟨n,o,q⟩ ⟨h1,h2,h3,h4⟩
 refine bI (fun l3=>?_) fun l3=>?_
 · refine⟨rfl,rfl,⟨Zaa,Zaa,Zaa⟩,?_⟩
   intro QD hx5_1
   refine bI (fun l6=>?_) fun l6=>?_
   · refine⟨by(try simp only[Zan,Zap,Zas]);(try have:=cv (n:=11) rfl A5);omega,rfl,rfl,⟨Zaa,Zaa⟩,?_⟩
     intro L8 Z'
     refine⟨by(try simp only[Zan,Zap,Zas]);(try have:=cv (n:=11) rfl A5);omega,by(try simp only[Zan,Zap,Zas]);(try have:=cv (n:=11) rfl A5);omega,rfl,rfl,⟨Zaa,Zaa⟩,?_⟩
     intro Pp Z9
     refine⟨by(try simp only[Zan,Zap,Zas]);(try have:=cv (n:=11) rfl A5);omega,by(try simp only[Zan,Zap,Zas]);(try have:=cv (n:=11) rfl A5);omega,Zaa,by simp[Q];omega,?_⟩
     refine⟨(n-1,((((o++([40]:BL))++L8.1)++([60]:BL))++Pp.1)++([62,41]:BL),Pp.2),?_,?_,rfl,rfl,rfl,rfl,trivial⟩
     · try have:=cv (n:=11) rfl A5
       exact⟨by simp only[Zan,Zap,Zas];omega,Zaa,Zaa,by(try dsimp only);repeat (first | assumption | exact bp | exact cd rfl | exact eC rfl (by assumption) | exact l8.drop (by apply And.right;apply And.right;apply And.right;assumption) _ | (apply And.right;apply And.right;apply And.right;assumption) | apply l8.app)⟩
     exact Zai
   · refine bI (fun n0=>?_) fun n0=>?_
     · refine⟨by(try simp only[Zan,Zap,Zas]);(try have:=cv (n:=11) rfl A5);omega,rfl,rfl,⟨Zaa,Zaa⟩,?_⟩
       intro L1 YZ
       refine⟨by(try simp only[Zan,Zap,Zas]);(try have:=cv (n:=11) rfl A5);omega,by(try simp only[Zan,Zap,Zas]);(try have:=cv (n:=11) rfl A5);omega,Zaa,by simp[Q];omega,?_⟩
       refine⟨(n-1,((o++([60,33]:BL))++L1.1)++([62]:BL),L1.2),?_,?_,rfl,rfl,rfl,rfl,trivial⟩
       · try have:=cv (n:=11) rfl A5
         exact⟨by simp only[Zan,Zap,Zas];omega,Zaa,Zaa,by(try dsimp only);repeat (first | assumption | exact bp | exact cd rfl | exact eC rfl (by assumption) | exact l8.drop (by apply And.right;apply And.right;apply And.right;assumption) _ | (apply And.right;apply And.right;apply And.right;assumption) | apply l8.app)⟩
       exact Zai
     · refine bI (fun x7=>?_) fun x7=>?_
       · refine⟨by(try simp only[Zan,Zap,Zas]);(try have:=cv (n:=11) rfl A5);omega,rfl,rfl,⟨Zaa,Zaa⟩,?_⟩
         intro L0 YY
         refine⟨by(try simp only[Zan,Zap,Zas]);(try have:=cv (n:=11) rfl A5);omega,by(try simp only[Zan,Zap,Zas]);(try have:=cv (n:=11) rfl A5);omega,Zaa,by simp[Q];omega,?_⟩
         refine⟨(n-1,((o++([60,64]:BL))++L0.1)++([62]:BL),L0.2),?_,?_,rfl,rfl,rfl,rfl,trivial⟩
         · try have:=cv (n:=11) rfl A5
           exact⟨by simp only[Zan,Zap,Zas];omega,Zaa,Zaa,by(try dsimp only);repeat (first | assumption | exact bp | exact cd rfl | exact eC rfl (by assumption) | exact l8.drop (by apply And.right;apply And.right;apply And.right;assumption) _ | (apply And.right;apply And.right;apply And.right;assumption) | apply l8.app)⟩
         exact Zai
       · refine bI (fun I4=>?_) fun I4=>?_
         · refine⟨rfl,rfl,⟨Zaa,Zaa,Zab,Zab⟩,?_⟩
           intro G4 A5
           refine⟨by(try simp only[Zan,Zap,Zas]);(try have:=cv (n:=11) rfl A5);omega,Zaa,by simp[Q];omega,?_⟩
           refine⟨(n-1,o++G4,(q+1)+1),?_,?_,rfl,rfl,rfl,rfl,trivial⟩
           · try have:=cv (n:=11) rfl A5
             exact⟨by simp only[Zan,Zap,Zas];omega,Zaa,Zaa,by(try dsimp only);repeat (first | assumption | exact bp | exact cd rfl | exact eC rfl (by assumption) | exact l8.drop (by apply And.right;apply And.right;apply And.right;assumption) _ | (apply And.right;apply And.right;apply And.right;assumption) | apply l8.app)⟩
           exact Zai
         · refine⟨by(try simp only[Zan,Zap,Zas]);(try have:=cv (n:=11) rfl A5);omega,rfl,rfl,⟨Zaa,Zaa⟩,?_⟩
           intro Pq hx6_3
           refine⟨by(try simp only[Zan,Zap,Zas]);(try have:=cv (n:=11) rfl A5);omega,by(try simp only[Zan,Zap,Zas]);(try have:=cv (n:=11) rfl A5);omega,Zaa,by simp[Q];omega,?_⟩
           refine⟨(n-1,((o++([60]:BL))++Pq.1)++([62]:BL),Pq.2),?_,?_,rfl,rfl,rfl,rfl,trivial⟩
           · try have:=cv (n:=11) rfl A5
             exact⟨by simp only[Zan,Zap,Zas];omega,Zaa,Zaa,by(try dsimp only);repeat (first | assumption | exact bp | exact cd rfl | exact eC rfl (by assumption) | exact l8.drop (by apply And.right;apply And.right;apply And.right;assumption) _ | (apply And.right;apply And.right;apply And.right;assumption) | apply l8.app)⟩
           exact Zai
 refine⟨(o,q),?_,?_,?_⟩
 try dsimp only
 exact⟨Zaa,Zaa,Zaa,h4⟩
 first | rfl | simp_all
 first | rfl | exact⟨rfl,rfl⟩ | simp_all)
abbrev qR(w:List Pg)(a:BL):V:=.tup [cO ((C5 w a).1.addr) ((C5 w a).1.text) ((C5 w a).1.lead) ((C5 w a).1.m5),bV ((C5 w a).2)]
def KW(w:List Pg)(a:BL):o6 Tryz.prog:=.mk 76 [cC w,sV a] [] (w.length<=1000000) (qR w a) [] (by
 intro hw
 refine aB (N:=25) (rs:=[.cell 4 82,.tmp 5]) Tryz.func76
  (.al pe (fun g4=>.q 1<|.q 1<|.loop (Nat) (fun (i:Nat)=>⟨[(0,cC w),(1,sV a),(4,.ptr (.key 4) [] g4 0),(6,iN i)],[(4,(g4,.agg [sV [],sV [],sV [],iN 0]))]⟩) (fun (i:Nat)=>i<=w.length/\C5 w a=C5 (w.drop i) a) (fun (i:Nat)=>w.length-i) (fun (i:Nat)=>.q 4<|.br (.r 7 [cO ((w.getD i l9).addr) ((w.getD i l9).text) ((w.getD i l9).lead) ((w.getD i l9).m5)]<|.br (.r 4 [cO ((w.getD i l9).addr) ((w.getD i l9).text) ((w.getD i l9).lead) ((w.getD i l9).m5)]<|.st none<|.q 1<|.nil) (.q 3<|.nil)) (.bd pe<|.st none<|.q 1<|.nil))))
  (∀ g4:Nat,(∃ j7:Nat,(j7<=w.length/\C5 w a=C5 (w.drop j7) a)/\E (cC w)/\E (sV a)/\E (.ptr (.key 4) [] g4 0)/\Q (iN 0) (iN j7)/\Er g4 (.agg [sV [],sV [],sV [],iN 0])/\True)/\∀ i:Nat,(i<=w.length/\C5 w a=C5 (w.drop i) a)->(fun v1:Pg=>Br (r8 (i:Int) (((w.map s3).length:Nat):Int)) (Ex (i:Int) (w.map s3) (cO (v1.addr) (v1.text) (v1.lead) (v1.m5))/\True/\Br ((v1.addr)==a) (Ex (i:Int) (w.map s3) (cO (v1.addr) (v1.text) (v1.lead) (v1.m5))/\True/\Z g4 0/\(g4=g4)/\Q (.tup [cO (v1.addr) (v1.text) (v1.lead) (v1.m5),bV true]) (qR w a)) (m8 ((i:Int)+1)/\∃ c9:Nat,(c9<=w.length/\C5 w a=C5 (w.drop c9) a)/\(w.length-c9<w.length-i)/\E (cC w)/\E (sV a)/\E (.ptr (.key 4) [] g4 0)/\Q (iN (i+1)) (iN c9)/\Er g4 (.agg [sV [],sV [],sV [],iN 0])/\True)) (Z g4 0/\(g4=g4)/\Q (.tup [.agg [sV [],sV [],sV [],iN 0],bV false]) (qR w a))) (w.getD i l9)) ?_
 intro g4
 refine⟨⟨0,?_,rfl,rfl,rfl,rfl,rfl,trivial⟩,?_⟩
 simp
 rintro i ⟨h1,h2⟩
 refine bI (fun l3=>?_) fun l3=>?_
 refine⟨⟨Zaa,aq (d:=l9) Zaa⟩,trivial,?_⟩
 refine bI (fun l6=>?_) fun l6=>?_
 refine⟨⟨Zaa,aq (d:=l9) Zaa⟩,trivial,rfl,?_⟩
 refine⟨rfl,?_⟩
 unfold Q qR
 rw[h2,drop_cons (by omega:i<w.length) l9,C5,if_pos l6]
 refine⟨Zaa,?_⟩
 refine⟨i+1,?_,?_,rfl,rfl,rfl,rfl,rfl,trivial⟩
 refine⟨Zaa,?_⟩
 rw[h2,drop_cons (by omega:i<w.length) l9,C5,if_neg l6]
 exact Zai
 refine⟨rfl,?_⟩
 refine⟨rfl,?_⟩
 unfold Q qR
 rw[h2,Za6 Zaa];rfl)
def vM(n m:Nat)(ih:∀ m,m<n->(m<=1000000)->PF Tryz.prog 45 [iN m] [] (fun r h=>r=(sV (eG m))/\h=[])):o6 Tryz.prog:={ f:=45,args:=[iN m],pre:=m<n/\(m<=1000000),res:=sV (eG m),ok:=fun h=>ih m h.1 h.2 }
theorem HX(n:Nat)(hn:n<=1000000):PF Tryz.prog 45 [iN n] [] (fun r h=>r=(sV (eG n))/\h=[]):=by
 revert hn
 induction n using Nat.strongRecOn with
 | ind n ih=>
 intro hn
 refine aB (N:=28) (rs:=[.tmp 2]) Tryz.func45
  (.q 1<|.q 2<|.br (.q 1<|.nil) (.q 2<|.br (.q 2<|.c (vM n (Int.toNat (-(n:Int))) ih) []<|.q 2<|.nil) (.q 2<|.br (.q 3<|.h (.n8 15 (uN ((UInt8.ofNat (48+n)).toNat)))<|.bs<|.Od [(UInt8.ofNat (48+n))]<|.q 1<|.nil) (.dx 9 [0,1,2,3,4,5,6,7,8] [] []<|.q 1<|.q 1<|.c (vM n (n / 10) ih) []<|.q 1<|.q 1<|.q 1<|.q 1<|.h (.n8 24 (uN ((UInt8.ofNat (48+n % 10)).toNat)))<|.bs<|.Od [(UInt8.ofNat (48+n % 10))]<|.q 2<|.nil))))
  (Br (r8 (n:Int) (-9223372036854775807)) (Q (sV ([45,57,50,50,51,51,55,50,48,51,54,56,53,52,55,55,53,56,48,56]:BL)) (sV (eG n))) (Br (r8 (n:Int) 0) (m8 (-(n:Int))/\(([iV (-(n:Int))]:List V)=[iN (Int.toNat (-(n:Int)))])/\(((Int.toNat (-(n:Int)))<n)/\((Int.toNat (-(n:Int)))<=1000000))/\(([45]:BL).length+(eG (Int.toNat (-(n:Int)))).length<=4611686018427387904)/\Q (sV (([45]:BL)++(eG (Int.toNat (-(n:Int)))))) (sV (eG n))) (Br (r8 (n:Int) 10) (m8 (48+(n:Int))/\Rh ((48+n:Nat):Int)/\Q (uN (48+n)) (uN ((UInt8.ofNat (48+n)).toNat))/\(True)/\([uN ((UInt8.ofNat (48+n)).toNat)]=[(UInt8.ofNat (48+n))].map n7)/\Q (sV [(UInt8.ofNat (48+n))]) (sV (eG n))) (((0:Int)<=(n:Int)/\(0:Int)<10/\m8 (n:Int))/\(vM n (n / 10) ih).sm/\(((n / 10)<n)/\((n / 10)<=1000000))/\((0:Int)<=(n:Int)/\(0:Int)<10)/\m8 (48+((n % 10:Nat):Int))/\Rh ((48+(n % 10):Nat):Int)/\Q (uN (48+(n % 10))) (uN ((UInt8.ofNat (48+n % 10)).toNat))/\([uN ((UInt8.ofNat (48+n % 10)).toNat)]=[(UInt8.ofNat (48+n % 10))].map n7)/\((eG (n / 10)).length+([(UInt8.ofNat (48+n % 10))]:BL).length<=4611686018427387904)/\Q (sV ((eG (n / 10))++[(UInt8.ofNat (48+n % 10))])) (sV (eG n)))))) ?_
 refine bI (fun l3=>?_) fun l3=>?_
 exfalso;omega
 refine bI (fun l6=>?_) fun l6=>?_
 exfalso;omega
 refine bI (fun n0=>?_) fun n0=>?_
 refine⟨Zaa,Zaa,by exact IU Zaa,trivial,rfl,?_⟩
 unfold Q
 rw[show eG n=[UInt8.ofNat (48+n)] from by rw[eG,if_pos Zaa]]
 refine⟨Zaa,rfl,⟨Zaa,Zaa⟩,Zaa,Zaa,Zaa,by exact IU Zaa,rfl,by have:=sA (n / 10) Zaa;simp;omega,?_⟩
 unfold Q
 rw[show eG n=eG (n / 10)++[UInt8.ofNat (48+n % 10)] from by rw[eG,if_neg Zaa]]
def uu(n:Nat):o6 Tryz.prog:={ f:=45,args:=[iN n],H:=[],pre:=(n<=1000000),res:=sV (eG n),H':=[],ok:=fun h=>HX n h }
theorem LM{l:List Int}{i:Nat}(h:i<l.length):Ex (i:Int) (l.map iV) (iV (l.getD i 0)):=⟨Int.natCast_nonneg _,by simp[Zak,h]⟩
def wT(gs:List l4):I2 Tryz.prog:=.mk Bool 102 [bG gs] [] ((gs.length<=4)/\(∀ y,y∈gs->D3 y)) (fun x=>True) (fun x=>bV x) (fun x=>[]) (by
 rintro⟨hl,hg⟩
 refine fY (N:=94) (rs:=[.tmp 2]) (X:=Bool) (post:=fun x=>True) (E:=fun x=>bV x) (H':=fun x=>[]) Tryz.func102 Zac rfl rfl rfl Zac [] (by intro _ k hk;simpa[lk] using hk)
  (.q 1<|.q 1<|.q 1<|.loop (Nat×Nat) (fun (i,m)=>⟨[(0,bG gs),(3,iN m),(4,iN i)],[]⟩) (fun (i,m)=>i<=gs.length/\m<=10*i) (fun (i,m)=>gs.length-i) (fun (i,m)=>.q 4<|.br (.r 4 [fa ((gs.getD i (⟨[],[],0⟩:l4)).na) ((gs.getD i (⟨[],[],0⟩:l4)).ru) ((gs.getD i (⟨[],[],0⟩:l4)).wa)]<|.al lp (fun g5=>.st none<|.r 24 [.b9,.b9,.b9,.b9,.b9]<|.cg (nR (((gs.getD i (⟨[],[],0⟩:l4)).wa:Nat):Int) (0:Int) (20:Int))<|.q 2<|.br (.q 1<|.nil) (.q 1<|.loop (Nat) (fun (k:Nat)=>⟨[(0,bG gs),(3,iN m),(4,iN i),(5,.ptr (.key 5) [] g5 0),(6,iN k)],[(5,(g5,fa ((gs.getD i (⟨[],[],0⟩:l4)).na) ((gs.getD i (⟨[],[],0⟩:l4)).ru) ((gs.getD i (⟨[],[],0⟩:l4)).wa)))]⟩) (fun (k:Nat)=>k<=(gs.getD i ⟨[],[],0⟩).na.length) (fun (k:Nat)=>(gs.getD i ⟨[],[],0⟩).na.length-k) (fun (k:Nat)=>.r 5 [.b9]<|.br (.r 12 [.b9,sV (((gs.getD i (⟨[],[],0⟩:l4)).na).getD k []),.b9,sV (((gs.getD i (⟨[],[],0⟩:l4)).na).getD k [])]<|.cg (rW (((gs.getD i (⟨[],[],0⟩:l4)).na).getD k []))<|.q 2<|.br (.q 1<|.nil) (.q 3<|.nil)) (.q 1<|.loop (Nat) (fun (k:Nat)=>⟨[(0,bG gs),(3,iN m),(4,iN i),(5,.ptr (.key 5) [] g5 0),(7,iN k)],[(5,(g5,fa ((gs.getD i (⟨[],[],0⟩:l4)).na) ((gs.getD i (⟨[],[],0⟩:l4)).ru) ((gs.getD i (⟨[],[],0⟩:l4)).wa)))]⟩) (fun (k:Nat)=>k<=(gs.getD i ⟨[],[],0⟩).ru.length) (fun (k:Nat)=>(gs.getD i ⟨[],[],0⟩).ru.length-k) (fun (k:Nat)=>.r 5 [.b9]<|.br (.r 6 [.b9,.agg [bV ((((gs.getD i (⟨[],[],0⟩:l4)).ru).getD k (⟨false,[]⟩:r7)).E1),sV ((((gs.getD i (⟨[],[],0⟩:l4)).ru).getD k (⟨false,[]⟩:r7)).path)]]<|.c (Aq ((((gs.getD i (⟨[],[],0⟩:l4)).ru).getD k (⟨false,[]⟩:r7)).path)) []<|.q 1<|.br (.q 1<|.nil) (.q 3<|.nil)) (.r 11 [.b9,.b9]<|.q 3<|.nil))))))) (.q 3<|.nil)))
  ((fun v1:BL=>((∃ x:Nat×Nat,match x with | (j7,PI)=>(j7<=gs.length/\PI<=10*j7)/\E (bG gs)/\Q (iN 0) (iN PI)/\Q (iN 0) (iN j7)/\True)/\∀ x:Nat×Nat,match x with | (i,m)=>(i<=gs.length/\m<=10*i)->(fun v2:Int=>(fun v3:Int=>(fun v4:V=>(fun v5:Int=>(fun v6:Bool=>(fun v7:Bool=>(fun v8:Bool=>Br (r8 (i:Int) (((gs.map cq).length:Nat):Int)) (Ex (i:Int) (gs.map cq) v4/\True/\∀ g5:Nat,(fun v9:V=>Z g5 0/\Z g5 0/\Gd v7 (Z g5 1)/\Gd (v7&&((r6 v2 0)==true)) (Z g5 2)/\Gd v7 (Pk (r6 v2 0) (v7&&((r6 v2 0)==true)) true)/\Pk (r6 v3 0) true v7/\Gd v8 (Z g5 1)/\Pk ((r6 v3 0)||((r6 v2 0)&&(r6 v5 0))) true v8/\Gd v6 (Z g5 2)/\Gd v6 ((True)/\(nR v5 (0:Int) (20:Int)).sm)/\Pk (((r6 v3 0)||((r6 v2 0)&&(r6 v5 0)))||(w3 v2 6)) true v6/\Br ((((r6 v3 0)||((r6 v2 0)&&(r6 v5 0)))||(w3 v2 6))||(!(x4 v5 (0:Int) (20:Int)))) (∃ x:Bool,(True)/\Q (bV false) (bV x)) ((∃ s7:Nat,(s7<=(gs.getD i ⟨[],[],0⟩).na.length)/\E (bG gs)/\E (iN m)/\E (iN i)/\E v9/\Q (iN 0) (iN s7)/\Er g5 v4/\True)/\∀ k:Nat,(k<=(gs.getD i ⟨[],[],0⟩).na.length)->Z g5 0/\Br (r8 (k:Int) v3) (Z g5 0/\Ex (k:Int) (((gs.getD i (⟨[],[],0⟩:l4)).na).map sV) (sV (((gs.getD i (⟨[],[],0⟩:l4)).na).getD k []))/\True/\Gd ((!((((gs.getD i (⟨[],[],0⟩:l4)).na).getD k [])==v1))==true) (Z g5 0)/\Gd ((!((((gs.getD i (⟨[],[],0⟩:l4)).na).getD k [])==v1))==true) (Ex (k:Int) (((gs.getD i (⟨[],[],0⟩:l4)).na).map sV) (sV (((gs.getD i (⟨[],[],0⟩:l4)).na).getD k [])))/\Gd ((!((((gs.getD i (⟨[],[],0⟩:l4)).na).getD k [])==v1))==true) True/\Gd ((!((((gs.getD i (⟨[],[],0⟩:l4)).na).getD k [])==v1))==true) ((((((gs.getD i (⟨[],[],0⟩:l4)).na).getD k []).length<=4611686018427387904))/\(rW (((gs.getD i (⟨[],[],0⟩:l4)).na).getD k [])).sm)/\Pk (!((((gs.getD i (⟨[],[],0⟩:l4)).na).getD k [])==v1)) ((!((((gs.getD i (⟨[],[],0⟩:l4)).na).getD k [])==v1))==true) true/\Br ((!((((gs.getD i (⟨[],[],0⟩:l4)).na).getD k [])==v1))&&(!(aZ (((gs.getD i (⟨[],[],0⟩:l4)).na).getD k [])))) (∃ x:Bool,(True)/\Q (bV false) (bV x)) (m8 ((k:Int)+1)/\∃ k₂:Nat,(k₂<=(gs.getD i ⟨[],[],0⟩).na.length)/\((gs.getD i ⟨[],[],0⟩).na.length-k₂<(gs.getD i ⟨[],[],0⟩).na.length-k)/\E (bG gs)/\E (iN m)/\E (iN i)/\E v9/\Q (iN (k+1)) (iN k₂)/\Er g5 v4/\True)) ((∃ s7:Nat,(s7<=(gs.getD i ⟨[],[],0⟩).ru.length)/\E (bG gs)/\E (iN m)/\E (iN i)/\E v9/\Q (iN 0) (iN s7)/\Er g5 v4/\True)/\∀ k:Nat,(k<=(gs.getD i ⟨[],[],0⟩).ru.length)->Z g5 1/\Br (r8 (k:Int) v2) (Z g5 1/\Ex (k:Int) (((gs.getD i (⟨[],[],0⟩:l4)).ru).map aD) (.agg [bV ((((gs.getD i (⟨[],[],0⟩:l4)).ru).getD k (⟨false,[]⟩:r7)).E1),sV ((((gs.getD i (⟨[],[],0⟩:l4)).ru).getD k (⟨false,[]⟩:r7)).path)])/\True/\(Aq ((((gs.getD i (⟨[],[],0⟩:l4)).ru).getD k (⟨false,[]⟩:r7)).path)).sm/\((((((gs.getD i (⟨[],[],0⟩:l4)).ru).getD k (⟨false,[]⟩:r7)).path).length<=4611686018427387904))/\Br (!(aI ((((gs.getD i (⟨[],[],0⟩:l4)).ru).getD k (⟨false,[]⟩:r7)).path))) (∃ x:Bool,(True)/\Q (bV false) (bV x)) (m8 ((k:Int)+1)/\∃ k₂:Nat,(k₂<=(gs.getD i ⟨[],[],0⟩).ru.length)/\((gs.getD i ⟨[],[],0⟩).ru.length-k₂<(gs.getD i ⟨[],[],0⟩).ru.length-k)/\E (bG gs)/\E (iN m)/\E (iN i)/\E v9/\Q (iN (k+1)) (iN k₂)/\Er g5 v4/\True)) (Z g5 0/\m8 ((m:Int)+v3)/\Z g5 1/\m8 (((m+((((gs.getD i (⟨[],[],0⟩:l4)).na).map sV).length):Nat):Int)+v2)/\m8 ((((m+((((gs.getD i (⟨[],[],0⟩:l4)).na).map sV).length))+((((gs.getD i (⟨[],[],0⟩:l4)).ru).map aD).length):Nat):Int)+1)/\m8 ((i:Int)+1)/\∃ x:Nat×Nat,match x with | (c9,m₂)=>(c9<=gs.length/\m₂<=10*c9)/\(gs.length-c9<gs.length-i)/\E (bG gs)/\Q (iN (((m+((((gs.getD i (⟨[],[],0⟩:l4)).na).map sV).length))+((((gs.getD i (⟨[],[],0⟩:l4)).ru).map aD).length))+1)) (iN m₂)/\Q (iN (i+1)) (iN c9)/\True)))) (.ptr (.key 5) [] g5 0)) (∃ x:Bool,(True)/\Q (bV (E5 (m:Int) 40)) (bV x))) (((r6 v3 0)||((r6 v2 0)&&(r6 v5 0)))==false)) ((r6 v3 0)==false)) ((((r6 v3 0)||((r6 v2 0)&&(r6 v5 0)))||(w3 v2 6))==false)) (((gs.getD i (⟨[],[],0⟩:l4)).wa:Nat):Int)) (fa ((gs.getD i (⟨[],[],0⟩:l4)).na) ((gs.getD i (⟨[],[],0⟩:l4)).ru) ((gs.getD i (⟨[],[],0⟩:l4)).wa))) (((((gs.getD i (⟨[],[],0⟩:l4)).na).map sV).length:Nat):Int)) (((((gs.getD i (⟨[],[],0⟩:l4)).ru).map aD).length:Nat):Int))) ([42]:BL))
  Zac ?_
 refine⟨⟨(0,0),?_,rfl,rfl,rfl,trivial⟩,?_⟩
 simp
 rintro⟨i,m⟩ ⟨h1,h2⟩
 have K6:=ub hg i
 have V5:=K6.nl
 have WE:=K6.rl
 have hn3:=K6.w
 refine bI (fun l3=>?_) fun l3=>?_
 refine⟨⟨Zaa,aq (d:=(⟨[],[],0⟩:l4)) Zaa⟩,trivial,?_⟩
 intro g5
 refine⟨rfl,rfl,fun hG=>rfl,fun hG=>rfl,fun hG=>⟨fun h=>by rw[h];exact(Zam _ _).mpr ⟨hG,rfl⟩,fun _=>rfl⟩,⟨fun _=>rfl,fun h=>by rw[h] <;> rfl⟩,fun hG=>rfl,⟨fun _=>rfl,fun h=>by rw[h] <;> rfl⟩,fun hG=>rfl,fun hG=>⟨trivial,rfl⟩,⟨fun _=>rfl,fun h=>by rw[h] <;> rfl⟩,?_⟩
 refine bI (fun l6=>?_) fun l6=>?_
 refine⟨false,?_,?_⟩
 try dsimp only
 skip
 first | rfl | simp_all
 refine⟨⟨0,?_,rfl,rfl,rfl,rfl,rfl,rfl,trivial⟩,?_⟩
 simp
 rintro k h3
 refine⟨rfl,?_⟩
 refine bI (fun n0=>?_) fun n0=>?_
 refine⟨rfl,⟨Zaa,aq (d:=[]) Zaa⟩,trivial,fun hG=>rfl,fun hG=>⟨Zaa,aq (d:=[]) Zaa⟩,fun hG=>trivial,fun hG=>⟨by(try simp only[nb]at hG);have:=iq (gs:=gs) hg i k;omega,rfl⟩,⟨fun h=>by rw[h] <;> rfl,fun _=>rfl⟩,?_⟩
 refine bI (fun x7=>?_) fun x7=>?_
 refine⟨false,?_,?_⟩
 try dsimp only
 skip
 first | rfl | simp_all
 refine⟨Zaa,?_⟩
 refine⟨k+1,?_,?_,rfl,rfl,rfl,rfl,rfl,rfl,trivial⟩
 (try simp only[Zan,Zap,Zas,Zaw]);omega
 exact Zai
 refine⟨⟨0,?_,rfl,rfl,rfl,rfl,rfl,rfl,trivial⟩,?_⟩
 simp
 rintro k h3
 refine⟨rfl,?_⟩
 refine bI (fun I4=>?_) fun I4=>?_
 refine⟨rfl,⟨Zaa,aq (d:=(⟨false,[]⟩:r7)) Zaa⟩,trivial,rfl,by have:=iB (gs:=gs) hg i k;omega,?_⟩
 refine bI (fun Pu=>?_) fun Pu=>?_
 refine⟨false,?_,?_⟩
 try dsimp only
 skip
 first | rfl | simp_all
 refine⟨Zaa,?_⟩
 refine⟨k+1,?_,?_,rfl,rfl,rfl,rfl,rfl,rfl,trivial⟩
 (try simp only[Zan,Zap,Zas,Zaw]);omega
 exact Zai
 refine⟨rfl,Zah,rfl,Zah,Zah,Zaa,?_⟩
 refine⟨(i+1,((m+((((gs.getD i (⟨[],[],0⟩:l4)).na).map sV).length))+((((gs.getD i (⟨[],[],0⟩:l4)).ru).map aD).length))+1),?_,?_,rfl,rfl,rfl,trivial⟩
 refine⟨Zaa,?_⟩
 (try simp only[Zan,Zap,Zas,Zaw]);omega
 exact Zai
 refine⟨E5 (m:Int) 40,?_,?_⟩
 try dsimp only
 skip
 first | rfl | simp_all)
def tz(gs:List l4):I2 Tryz.prog:=.mk BL 72 [bG gs] [] ((gs.length<=4)/\(∀ y,y∈gs->D3 y)) (fun x=>x.length<=1000/\l8 x) (fun x=>sV x) (fun x=>[]) (by
 rintro⟨hl,hg⟩
 refine fY (N:=89) (rs:=[.tmp 2]) (X:=BL) (post:=fun x=>x.length<=1000/\l8 x) (E:=fun x=>sV x) (H':=fun x=>[]) Tryz.func72 Zac rfl rfl rfl Zac [] (by intro _ k hk;simpa[lk] using hk)
  (.q 1<|.q 1<|.cx (wT gs) [] (fun (l7:Bool)=>.q 1<|.br (.q 1<|.nil) (.q 1<|.q 1<|.loop (Nat×BL) (fun (i,o)=>⟨[(0,bG gs),(3,sV o),(4,iN i)],[]⟩) (fun (i,o)=>i<=gs.length/\o.length<=200*i/\l8 o) (fun (i,o)=>gs.length-i) (fun (i,o)=>.q 4<|.br (.q 1<|.loop (Nat×BL) (fun (k,q)=>⟨[(0,bG gs),(3,sV q),(4,iN i),(5,iN k)],[]⟩) (fun (k,q)=>k<=(gs.getD i ⟨[],[],0⟩).na.length/\q.length<=200*i+20*k/\l8 q) (fun (k,q)=>(gs.getD i ⟨[],[],0⟩).na.length-k) (fun (k,q)=>.r 8 [fa ((gs.getD i (⟨[],[],0⟩:l4)).na) ((gs.getD i (⟨[],[],0⟩:l4)).ru) ((gs.getD i (⟨[],[],0⟩:l4)).wa)]<|.br (.r 13 [fa ((gs.getD i (⟨[],[],0⟩:l4)).na) ((gs.getD i (⟨[],[],0⟩:l4)).ru) ((gs.getD i (⟨[],[],0⟩:l4)).wa),sV (((gs.getD i (⟨[],[],0⟩:l4)).na).getD k [])]<|.q 3<|.nil) (.q 1<|.loop (Nat×BL) (fun (l,r)=>⟨[(0,bG gs),(3,sV r),(4,iN i),(6,iN l)],[]⟩) (fun (l,r)=>l<=(gs.getD i ⟨[],[],0⟩).ru.length/\r.length<=200*i+40+20*l/\l8 r) (fun (l,r)=>(gs.getD i ⟨[],[],0⟩).ru.length-l) (fun (l,r)=>.r 8 [fa ((gs.getD i (⟨[],[],0⟩:l4)).na) ((gs.getD i (⟨[],[],0⟩:l4)).ru) ((gs.getD i (⟨[],[],0⟩:l4)).wa)]<|.br (.q 1<|.r 9 [fa ((gs.getD i (⟨[],[],0⟩:l4)).na) ((gs.getD i (⟨[],[],0⟩:l4)).ru) ((gs.getD i (⟨[],[],0⟩:l4)).wa),.agg [bV ((((gs.getD i (⟨[],[],0⟩:l4)).ru).getD l (⟨false,[]⟩:r7)).E1),sV ((((gs.getD i (⟨[],[],0⟩:l4)).ru).getD l (⟨false,[]⟩:r7)).path)]]<|.br (.q 1<|.r 15 [fa ((gs.getD i (⟨[],[],0⟩:l4)).na) ((gs.getD i (⟨[],[],0⟩:l4)).ru) ((gs.getD i (⟨[],[],0⟩:l4)).wa),.agg [bV ((((gs.getD i (⟨[],[],0⟩:l4)).ru).getD l (⟨false,[]⟩:r7)).E1),sV ((((gs.getD i (⟨[],[],0⟩:l4)).ru).getD l (⟨false,[]⟩:r7)).path)]]<|.q 3<|.nil) (.r 15 [fa ((gs.getD i (⟨[],[],0⟩:l4)).na) ((gs.getD i (⟨[],[],0⟩:l4)).ru) ((gs.getD i (⟨[],[],0⟩:l4)).wa),.agg [bV ((((gs.getD i (⟨[],[],0⟩:l4)).ru).getD l (⟨false,[]⟩:r7)).E1),sV ((((gs.getD i (⟨[],[],0⟩:l4)).ru).getD l (⟨false,[]⟩:r7)).path)]]<|.q 3<|.nil)) (.r 6 [fa ((gs.getD i (⟨[],[],0⟩:l4)).na) ((gs.getD i (⟨[],[],0⟩:l4)).ru) ((gs.getD i (⟨[],[],0⟩:l4)).wa)]<|.br (.r 7 [fa ((gs.getD i (⟨[],[],0⟩:l4)).na) ((gs.getD i (⟨[],[],0⟩:l4)).ru) ((gs.getD i (⟨[],[],0⟩:l4)).wa)]<|.c (uu ((gs.getD i (⟨[],[],0⟩:l4)).wa)) []<|.q 3<|.q 3<|.nil) (.q 3<|.nil)))))) (.q 2<|.nil)))))
  ((fun v1:BL=>(fun v2:BL=>(fun v3:BL=>(fun v4:BL=>(fun v5:BL=>((wT gs).sm/\((gs.length<=4)/\(∀ y,y∈gs->D3 y))/\∀ l7:Bool,(True)->Br (!l7) (∃ x:BL,(x.length<=1000/\l8 x)/\Q (sV []) (sV x)) ((∃ x:Nat×BL,match x with | (j7,x9)=>(j7<=gs.length/\x9.length<=200*j7/\l8 x9)/\E (bG gs)/\Q (sV []) (sV x9)/\Q (iN 0) (iN j7)/\True)/\∀ x:Nat×BL,match x with | (i,o)=>(i<=gs.length/\o.length<=200*i/\l8 o)->(fun v6:V=>Br (r8 (i:Int) (((gs.map cq).length:Nat):Int)) ((∃ x:Nat×BL,match x with | (s7,B9)=>(s7<=(gs.getD i ⟨[],[],0⟩).na.length/\B9.length<=200*i+20*s7/\l8 B9)/\E (bG gs)/\Q (sV o) (sV B9)/\E (iN i)/\Q (iN 0) (iN s7)/\True)/\∀ x:Nat×BL,match x with | (k,q)=>(k<=(gs.getD i ⟨[],[],0⟩).na.length/\q.length<=200*i+20*k/\l8 q)->Ex (i:Int) (gs.map cq) v6/\True/\Br (r8 (k:Int) (((((gs.getD i (⟨[],[],0⟩:l4)).na).map sV).length:Nat):Int)) ((q.length+v1.length<=4611686018427387904)/\Ex (i:Int) (gs.map cq) v6/\True/\Ex (k:Int) (((gs.getD i (⟨[],[],0⟩:l4)).na).map sV) (sV (((gs.getD i (⟨[],[],0⟩:l4)).na).getD k []))/\True/\((q++v1).length+(((gs.getD i (⟨[],[],0⟩:l4)).na).getD k []).length<=4611686018427387904)/\(((q++v1)++(((gs.getD i (⟨[],[],0⟩:l4)).na).getD k [])).length+v2.length<=4611686018427387904)/\m8 ((k:Int)+1)/\∃ x:Nat×BL,match x with | (k₂,o9)=>(k₂<=(gs.getD i ⟨[],[],0⟩).na.length/\o9.length<=200*i+20*k₂/\l8 o9)/\((gs.getD i ⟨[],[],0⟩).na.length-k₂<(gs.getD i ⟨[],[],0⟩).na.length-k)/\E (bG gs)/\Q (sV (((q++v1)++(((gs.getD i (⟨[],[],0⟩:l4)).na).getD k []))++v2)) (sV o9)/\E (iN i)/\Q (iN (k+1)) (iN k₂)/\True) ((∃ x:Nat×BL,match x with | (Pr,J5)=>(Pr<=(gs.getD i ⟨[],[],0⟩).ru.length/\J5.length<=200*i+40+20*Pr/\l8 J5)/\E (bG gs)/\Q (sV q) (sV J5)/\E (iN i)/\Q (iN 0) (iN Pr)/\True)/\∀ x:Nat×BL,match x with | (l,r)=>(l<=(gs.getD i ⟨[],[],0⟩).ru.length/\r.length<=200*i+40+20*l/\l8 r)->(fun v7:V=>Ex (i:Int) (gs.map cq) v6/\True/\Br (r8 (l:Int) (((((gs.getD i (⟨[],[],0⟩:l4)).ru).map aD).length:Nat):Int)) (Ex (i:Int) (gs.map cq) v6/\True/\Ex (l:Int) (((gs.getD i (⟨[],[],0⟩:l4)).ru).map aD) v7/\True/\Br ((((gs.getD i (⟨[],[],0⟩:l4)).ru).getD l (⟨false,[]⟩:r7)).E1) ((r.length+v4.length<=4611686018427387904)/\Ex (i:Int) (gs.map cq) v6/\True/\Ex (l:Int) (((gs.getD i (⟨[],[],0⟩:l4)).ru).map aD) v7/\True/\((r++v4).length+((((gs.getD i (⟨[],[],0⟩:l4)).ru).getD l (⟨false,[]⟩:r7)).path).length<=4611686018427387904)/\(((r++v4)++((((gs.getD i (⟨[],[],0⟩:l4)).ru).getD l (⟨false,[]⟩:r7)).path)).length+v2.length<=4611686018427387904)/\m8 ((l:Int)+1)/\∃ x:Nat×BL,match x with | (G6,s6)=>(G6<=(gs.getD i ⟨[],[],0⟩).ru.length/\s6.length<=200*i+40+20*G6/\l8 s6)/\((gs.getD i ⟨[],[],0⟩).ru.length-G6<(gs.getD i ⟨[],[],0⟩).ru.length-l)/\E (bG gs)/\Q (sV (((r++v4)++((((gs.getD i (⟨[],[],0⟩:l4)).ru).getD l (⟨false,[]⟩:r7)).path))++v2)) (sV s6)/\E (iN i)/\Q (iN (l+1)) (iN G6)/\True) ((r.length+v5.length<=4611686018427387904)/\Ex (i:Int) (gs.map cq) v6/\True/\Ex (l:Int) (((gs.getD i (⟨[],[],0⟩:l4)).ru).map aD) v7/\True/\((r++v5).length+((((gs.getD i (⟨[],[],0⟩:l4)).ru).getD l (⟨false,[]⟩:r7)).path).length<=4611686018427387904)/\(((r++v5)++((((gs.getD i (⟨[],[],0⟩:l4)).ru).getD l (⟨false,[]⟩:r7)).path)).length+v2.length<=4611686018427387904)/\m8 ((l:Int)+1)/\∃ x:Nat×BL,match x with | (G6,s6)=>(G6<=(gs.getD i ⟨[],[],0⟩).ru.length/\s6.length<=200*i+40+20*G6/\l8 s6)/\((gs.getD i ⟨[],[],0⟩).ru.length-G6<(gs.getD i ⟨[],[],0⟩).ru.length-l)/\E (bG gs)/\Q (sV (((r++v5)++((((gs.getD i (⟨[],[],0⟩:l4)).ru).getD l (⟨false,[]⟩:r7)).path))++v2)) (sV s6)/\E (iN i)/\Q (iN (l+1)) (iN G6)/\True)) (Ex (i:Int) (gs.map cq) v6/\True/\Br (w3 (((gs.getD i (⟨[],[],0⟩:l4)).wa:Nat):Int) 0) ((r.length+v3.length<=4611686018427387904)/\Ex (i:Int) (gs.map cq) v6/\True/\(uu ((gs.getD i (⟨[],[],0⟩:l4)).wa)).sm/\((((gs.getD i (⟨[],[],0⟩:l4)).wa)<=1000000))/\((r++v3).length+(eG ((gs.getD i (⟨[],[],0⟩:l4)).wa)).length<=4611686018427387904)/\(((r++v3)++(eG ((gs.getD i (⟨[],[],0⟩:l4)).wa))).length+v2.length<=4611686018427387904)/\m8 ((i:Int)+1)/\∃ x:Nat×BL,match x with | (c9,m6)=>(c9<=gs.length/\m6.length<=200*c9/\l8 m6)/\(gs.length-c9<gs.length-i)/\E (bG gs)/\Q (sV (((r++v3)++(eG ((gs.getD i (⟨[],[],0⟩:l4)).wa)))++v2)) (sV m6)/\Q (iN (i+1)) (iN c9)/\True) (m8 ((i:Int)+1)/\∃ x:Nat×BL,match x with | (c9,m6)=>(c9<=gs.length/\m6.length<=200*c9/\l8 m6)/\(gs.length-c9<gs.length-i)/\E (bG gs)/\Q (sV r) (sV m6)/\Q (iN (i+1)) (iN c9)/\True))) (.agg [bV ((((gs.getD i (⟨[],[],0⟩:l4)).ru).getD l (⟨false,[]⟩:r7)).E1),sV ((((gs.getD i (⟨[],[],0⟩:l4)).ru).getD l (⟨false,[]⟩:r7)).path)]))) (∃ x:BL,(x.length<=1000/\l8 x)/\Q (sV o) (sV x))) (fa ((gs.getD i (⟨[],[],0⟩:l4)).na) ((gs.getD i (⟨[],[],0⟩:l4)).ru) ((gs.getD i (⟨[],[],0⟩:l4)).wa))))) ([98,97,114,32]:BL)) ([108,101,116,32]:BL)) ([119,97,105,116,32]:BL)) ([10]:BL)) ([99,97,108,108,101,114,32]:BL))
  Zac ?_
 refine⟨rfl,⟨hl,hg⟩,?_⟩
 intro l7 J'
 refine bI (fun l3=>?_) fun l3=>?_
 refine⟨[],?_,?_⟩
 try dsimp only
 exact⟨Zab,bp⟩
 first | rfl | simp_all
 · refine⟨⟨(0,[]),?_,rfl,rfl,rfl,trivial⟩,?_⟩
   exact⟨Zab,Zab,bp⟩
   rintro⟨i,o⟩ ⟨h1,h2,h2b⟩
   have K6:=ub hg i
   have V5:=K6.nl
   have WE:=K6.rl
   have hn3:=K6.w
   have hn4:=sA (gs.getD i ⟨[],[],0⟩).wa Zaa
   refine bI (fun l6=>?_) fun l6=>?_
   · refine⟨⟨(0,o),?_,rfl,rfl,rfl,rfl,trivial⟩,?_⟩
     exact⟨Zaa,Zaa,h2b⟩
     rintro⟨k,q⟩ ⟨h3,h4,h4b⟩
     have RM:=iq (gs:=gs) hg i k
     refine⟨⟨Zaa,aq (d:=(⟨[],[],0⟩:l4)) Zaa⟩,trivial,?_⟩
     refine bI (fun n0=>?_) fun n0=>?_
     · refine⟨by(try have:=iq (gs:=gs) hg i k);(try have:=iB (gs:=gs) hg i k);(try simp only[Zan,Zap,Zas]);omega,⟨Zaa,aq (d:=(⟨[],[],0⟩:l4)) Zaa⟩,trivial,⟨Zaa,aq (d:=[]) Zaa⟩,trivial,by(try have:=iq (gs:=gs) hg i k);(try have:=iB (gs:=gs) hg i k);(try simp only[Zan,Zap,Zas]);omega,by(try have:=iq (gs:=gs) hg i k);(try have:=iB (gs:=gs) hg i k);(try simp only[Zan,Zap,Zas]);omega,Zaa,?_⟩
       refine⟨(k+1,((q++([99,97,108,108,101,114,32]:BL))++(((gs.getD i (⟨[],[],0⟩:l4)).na).getD k []))++([10]:BL)),?_,?_,rfl,rfl,rfl,rfl,trivial⟩
       · refine⟨Zaa,?_,by(try dsimp only);repeat (first | assumption | exact bp | exact cd rfl | exact tW hg _ _ | exact sR hg _ _ | exact mE _ | apply l8.app)⟩
         (try simp only[Zan,Zap,Zas,Zaw]);omega
       exact Zai
     · refine⟨⟨(0,q),?_,rfl,rfl,rfl,rfl,trivial⟩,?_⟩
       exact⟨Zaa,Zaa,h4b⟩
       rintro⟨l,r⟩ ⟨h5,h6,h6b⟩
       have L5:=iB (gs:=gs) hg i l
       refine⟨⟨Zaa,aq (d:=(⟨[],[],0⟩:l4)) Zaa⟩,trivial,?_⟩
       refine bI (fun x7=>?_) fun x7=>?_
       · refine⟨⟨Zaa,aq (d:=(⟨[],[],0⟩:l4)) Zaa⟩,trivial,⟨Zaa,aq (d:=(⟨false,[]⟩:r7)) Zaa⟩,trivial,?_⟩
         refine bI (fun I4=>?_) fun I4=>?_
         · refine⟨by(try have:=iq (gs:=gs) hg i k);(try have:=iB (gs:=gs) hg i k);(try simp only[Zan,Zap,Zas]);omega,⟨Zaa,aq (d:=(⟨[],[],0⟩:l4)) Zaa⟩,trivial,⟨Zaa,aq (d:=(⟨false,[]⟩:r7)) Zaa⟩,trivial,by(try have:=iq (gs:=gs) hg i k);(try have:=iB (gs:=gs) hg i k);(try simp only[Zan,Zap,Zas]);omega,by(try have:=iq (gs:=gs) hg i k);(try have:=iB (gs:=gs) hg i k);(try simp only[Zan,Zap,Zas]);omega,Zaa,?_⟩
           refine⟨(l+1,((r++([108,101,116,32]:BL))++((((gs.getD i (⟨[],[],0⟩:l4)).ru).getD l (⟨false,[]⟩:r7)).path))++([10]:BL)),?_,?_,rfl,rfl,rfl,rfl,trivial⟩
           · refine⟨Zaa,?_,by(try dsimp only);repeat (first | assumption | exact bp | exact cd rfl | exact tW hg _ _ | exact sR hg _ _ | exact mE _ | apply l8.app)⟩
             (try simp only[Zan,Zap,Zas,Zaw]);omega
           exact Zai
         · refine⟨by(try have:=iq (gs:=gs) hg i k);(try have:=iB (gs:=gs) hg i k);(try simp only[Zan,Zap,Zas]);omega,⟨Zaa,aq (d:=(⟨[],[],0⟩:l4)) Zaa⟩,trivial,⟨Zaa,aq (d:=(⟨false,[]⟩:r7)) Zaa⟩,trivial,by(try have:=iq (gs:=gs) hg i k);(try have:=iB (gs:=gs) hg i k);(try simp only[Zan,Zap,Zas]);omega,by(try have:=iq (gs:=gs) hg i k);(try have:=iB (gs:=gs) hg i k);(try simp only[Zan,Zap,Zas]);omega,Zaa,?_⟩
           refine⟨(l+1,((r++([98,97,114,32]:BL))++((((gs.getD i (⟨[],[],0⟩:l4)).ru).getD l (⟨false,[]⟩:r7)).path))++([10]:BL)),?_,?_,rfl,rfl,rfl,rfl,trivial⟩
           · refine⟨Zaa,?_,by(try dsimp only);repeat (first | assumption | exact bp | exact cd rfl | exact tW hg _ _ | exact sR hg _ _ | exact mE _ | apply l8.app)⟩
             (try simp only[Zan,Zap,Zas,Zaw]);omega
           exact Zai
       · refine⟨⟨Zaa,aq (d:=(⟨[],[],0⟩:l4)) Zaa⟩,trivial,?_⟩
         refine bI (fun Pu=>?_) fun Pu=>?_
         · refine⟨by(try have:=iq (gs:=gs) hg i k);(try have:=iB (gs:=gs) hg i k);(try simp only[Zan,Zap,Zas]);omega,⟨Zaa,aq (d:=(⟨[],[],0⟩:l4)) Zaa⟩,trivial,rfl,Zaa,by(try have:=iq (gs:=gs) hg i k);(try have:=iB (gs:=gs) hg i k);(try simp only[Zan,Zap,Zas]);omega,by(try have:=iq (gs:=gs) hg i k);(try have:=iB (gs:=gs) hg i k);(try simp only[Zan,Zap,Zas]);omega,Zaa,?_⟩
           refine⟨(i+1,((r++([119,97,105,116,32]:BL))++(eG ((gs.getD i (⟨[],[],0⟩:l4)).wa)))++([10]:BL)),?_,?_,rfl,rfl,rfl,trivial⟩
           · refine⟨Zaa,?_,by(try dsimp only);repeat (first | assumption | exact bp | exact cd rfl | exact tW hg _ _ | exact sR hg _ _ | exact mE _ | apply l8.app)⟩
             (try simp only[Zan,Zap,Zas,Zaw]);omega
           exact Zai
         · refine⟨Zaa,?_⟩
           refine⟨(i+1,r),?_,?_,rfl,rfl,rfl,trivial⟩
           · refine⟨Zaa,?_,by(try dsimp only);repeat (first | assumption | exact bp | exact cd rfl | exact tW hg _ _ | exact sR hg _ _ | exact mE _ | apply l8.app)⟩
             (try simp only[Zan,Zap,Zas,Zaw]);omega
           exact Zai
   refine⟨o,?_,?_⟩
   try dsimp only
   exact⟨Zaa,h2b⟩
   first | rfl | simp_all)
abbrev gO(b:BL)(p:Nat)(g:Nat)(n:Nat)(e':List Pg)(q':Nat)(u':Nat)(f':Nat)(k':Nat):Prop:=e'.length+n<=12/\(1<=e'.length\/2<=n)/\(∀ y,y∈e'->m4 y)/\p<=q'/\q'+100*n<=p+1300
def xm(b:BL)(p:Nat)(g:Nat):I2 Tryz.prog:=.mk (List Pg×Nat) 42 [.ptr (.key 1000) [] g 0] [(1000,(g,aE b p))] ((b.length<=2000)/\(p<=700000)) (fun x=>1<=x.1.length/\x.1.length<=12/\(∀ y,y∈x.1->m4 y)/\p<=x.2/\x.2<=p+1500) (fun x=>.ow 4 (x.1.map s3)) (fun x=>[(1000,(g,aE b x.2))]) (by
 rintro⟨hb,hp⟩
 refine fY (N:=94) (rs:=[.tmp 2]) (X:=List Pg×Nat) (post:=fun x=>1<=x.1.length/\x.1.length<=12/\(∀ y,y∈x.1->m4 y)/\p<=x.2/\x.2<=p+1500) (E:=fun x=>.ow 4 (x.1.map s3)) (H':=fun x=>[(1000,(g,.agg [.sl false (b.map n7),iN x.2]))]) Tryz.func42 Zac rfl rfl rfl Zac [(1000,(0,.b9))] (by intro _ k hk;simpa[lk] using hk)
  (.q 1<|.bs<|.q 1<|.c (nI) []<|.q 1<|.q 1<|.h (.H9 3 4)<|.loop (Nat×(List Pg)×Nat×Nat×Nat×Nat) (fun (i,e,q,u,f,k)=>⟨[(0,.ptr (.key 1000) [] g 0),(3,.own 4 (e.map s3) u f k),(4,ao bb),(5,iN i)],[(1000,(g,aE b q))]⟩) (fun (i,e,q,u,f,k)=>i<=4/\e.length<=i/\(∀ y,y∈e->m4 y)/\p<=q/\q<=p+90*i) (fun (i,e,q,u,f,k)=>4-i) (fun (i,e,q,u,f,k)=>.q 2<|.br (.q 1<|.cx (bE b q g 2) [(1000,1000)] (fun (E7:Nat)=>.q 1<|.br (.dx 16 [0,1,2,3,4,5,6,9,10,7,8,11,12,13,14,15] [(3,⟨false,[],some [],[23],[]⟩),(7,⟨true,[],some [1000],[27],[1000]⟩),(8,⟨true,[],some [],[28],[]⟩),(11,⟨true,[],some [1000],[31],[1000]⟩),(13,⟨false,[],some [],[33],[]⟩)] [(15,pe)]<|.q 1<|.q 1<|.r 1 [sV (bb.getD i [])]<|.q 1<|.q 1<|.q 1<|.q 1<|.bs<|.q 1<|.cx (uO b (q+1) g) [(1000,1000)] (fun (F7:List l4×Nat)=>.cx (tz F7.1) [] (fun (PV:BL)=>.cx (bE b F7.2 g 6) [(1000,1000)] (fun (D6:Nat)=>.r 1 [iV ([0,0,0,1,2,5].getD D6 0)]<|.q 1<|.bd pe<|.ua (fun g6=>.st none<|.q 1<|.cx (bE b (F7.2+1) g 12) [(1000,1000)] (fun (Qb:Nat)=>.q 1<|.join (Pg×Nat) (fun y=>⟨[(0,.ptr (.key 1000) [] g 0),(3,.own 4 (e.map s3) u f k),(4,ao bb),(5,iN i),(13,iN i),(14,bV (r8 (i:Int) 4)),(17,.ptr (.key 1000) [] g 0),(18,iN E7),(19,bV (r6 (E7:Int) 0)),(20,ao bb),(21,iN i),(22,.ep (sV (bb.getD i []))),(23,sV (bb.getD i [])),(24,sV (([47,47]:BL)++(bb.getD i []))),(25,sV ((([47,47]:BL)++(bb.getD i []))++([47,110,111,116,105,99,101]:BL))),(26,.ptr (.key 1000) [] g 0),(29,.sl true ([0,0,0,1,2,5].map iV)),(30,.ptr (.key 1000) [] g 0),(27,bG F7.1),(28,sV PV),(31,iN D6),(32,.ep (iV ([0,0,0,1,2,5].getD D6 0))),(33,iV ([0,0,0,1,2,5].getD D6 0)),(34,.agg [sV ((([47,47]:BL)++(bb.getD i []))++([47,110,111,116,105,99,101]:BL)),sV PV,sV [],iV ([0,0,0,1,2,5].getD D6 0)]),(6,.ptr (.key 6) [] g6 0),(35,.ptr (.key 1000) [] g 0),(36,iN Qb),(37,bV (r6 (Qb:Int) 0))],[(1000,(g,aE b y.2)),(6,(g6,cO y.1.addr y.1.text y.1.lead y.1.m5))]⟩) (fun y=>y.1.addr.length<=30/\y.1.lead.length<=30/\y.1.text.length<=1000/\(0<=y.1.m5/\y.1.m5<=10)/\q<=y.2/\y.2<=q+80/\l8 y.1.addr/\l8 y.1.lead/\l8 y.1.text) (.q 1<|.st none<|.q 1<|.cx (fD b ((F7.2+1)+1) g) [(1000,1000)] (fun (G5:BL×Nat)=>.q 1<|.st none<|.nil)) (.nil) (fun y=>.r 4 [.b9]<|.br (.r 2 [.b9]<|.bs<|.ap (fun Ve Ux Vu=>.h (.n8 49 (.own 4 ((e++[y.1]).map s3) Ve Ux Vu))<|.q 1<|.q 3<|.nil)) (.q 3<|.nil)))))))) (.q 3<|.nil))) (.q 1<|.cx (bE b q g 7) [(1000,1000)] (fun (PE:Nat)=>.q 2<|.loop (Nat×(List Pg)×Nat×Nat×Nat×Nat) (fun (n,e',q',u',f',k')=>⟨[(0,.ptr (.key 1000) [] g 0),(3,.own 4 (e'.map s3) u' f' k'),(7,iN n)],[(1000,(g,aE b q'))]⟩) (fun (n,e',q',u',f',k')=>gO b p g n e' q' u' f' k') (fun (n,e',q',u',f',k')=>n) (fun (n,e',q',u',f',k')=>.q 2<|.br (.q 1<|.cx (fD b q' g) [(1000,1000)] (fun (E3:BL×Nat)=>.q 1<|.cx (yG b E3.2 g) [(1000,1000)] (fun (B5:BL×Nat)=>.bs<|.q 1<|.cx (bE b B5.2 g 7) [(1000,1000)] (fun (D7:Nat)=>.r 2 [iV ([0,0,0,0,1,2,4].getD D7 0)]<|.bd pe<|.al pe (fun g8=>.st none<|.q 1<|.cx (bE b (B5.2+1) g 8) [(1000,1000)] (fun (OB:Nat)=>.q 1<|.join (Pg×Nat) (fun y=>⟨[(0,.ptr (.key 1000) [] g 0),(3,.own 4 (e'.map s3) u' f' k'),(7,iN n),(53,iN n),(54,bV (w3 (n:Int) 0)),(57,.ptr (.key 1000) [] g 0),(58,sV E3.1),(59,.ptr (.key 1000) [] g 0),(60,sV B5.1),(61,.sl true ([0,0,0,0,1,2,4].map iV)),(62,.ptr (.key 1000) [] g 0),(63,iN D7),(64,.ep (iV ([0,0,0,0,1,2,4].getD D7 0))),(65,iV ([0,0,0,0,1,2,4].getD D7 0)),(66,.agg [sV E3.1,sV B5.1,sV [],iV ([0,0,0,0,1,2,4].getD D7 0)]),(8,.ptr (.key 8) [] g8 0),(67,.ptr (.key 1000) [] g 0),(68,iN OB),(69,bV (r6 (OB:Int) 0))],[(1000,(g,aE b y.2)),(8,(g8,cO y.1.addr y.1.text y.1.lead y.1.m5))]⟩) (fun y=>m4 y.1/\q'<=y.2/\y.2<=q'+90) (.q 1<|.st none<|.q 1<|.cx (fD b ((B5.2+1)+1) g) [(1000,1000)] (fun (Om:BL×Nat)=>.q 1<|.st none<|.nil)) (.nil) (fun y=>.r 3 [.b9]<|.cl (KW e' y.1.addr)<|.q 3<|.al pe (fun g9=>.st none<|.q 1<|.r 8 [.b9]<|.br (.r 2 [.b9]<|.bs<|.ap (fun U5 Un Vj=>.h (.n8 92 (.own 4 ((e'++[y.1]).map s3) U5 Un Vj))<|.q 1<|.q 2<|.h (.n8 56 (iN (n-1)))<|.q 1<|.nil)) (.q 2<|.h (.n8 56 (iN (n-1)))<|.q 1<|.nil))))))))) (.q 2<|.h (.jt 2)<|.nil))))))
  ((fun v1:V=>(fun v2:BL=>(fun v3:BL=>(fun v4:V=>((nI).sm/\(True)/\(∃ x:Nat×(List Pg)×Nat×Nat×Nat×Nat,match x with | (j7,E8,B9,J7,B8,s7)=>(j7<=4/\E8.length<=j7/\(∀ y,y∈E8->m4 y)/\p<=B9/\B9<=p+90*j7)/\E v1/\Q (.own 4 ([].map s3) 0 0 0) (.own 4 (E8.map s3) J7 B8 s7)/\E v4/\Q (iN 0) (iN j7)/\Qr g (aE b p) g (aE b B9)/\True)/\∀ x:Nat×(List Pg)×Nat×Nat×Nat×Nat,match x with | (i,e,q,u,f,k)=>(i<=4/\e.length<=i/\(∀ y,y∈e->m4 y)/\p<=q/\q<=p+90*i)->(fun v5:V=>(fun v6:V=>Br (r8 (i:Int) 4) ((bE b q g 2).sm/\Er g (aE b q)/\((b.length<=2000)/\(q<=1000000)/\(2<=1000000))/\∀ E7:Nat,(2=0/\E7=0\/E7<2)->Br (r6 (E7:Int) 0) (Ex (i:Int) (bb.map sV) v6/\True/\(v3.length+(bb.getD i []).length<=4611686018427387904)/\((v3++(bb.getD i [])).length+v2.length<=4611686018427387904)/\(uO b (q+1) g).sm/\Er g (aE b (q+1))/\((b.length<=2000)/\((q+1)<=800000))/\∀ F7:List l4×Nat,(F7.1.length<=4/\(∀ y,y∈F7.1->D3 y)/\(q+1)<=F7.2/\F7.2<=(q+1)+60)->(tz F7.1).sm/\((F7.1.length<=4)/\(∀ y,y∈F7.1->D3 y))/\∀ PV:BL,(PV.length<=1000/\l8 PV)->(bE b F7.2 g 6).sm/\Er g (aE b F7.2)/\((b.length<=2000)/\(F7.2<=1000000)/\(6<=1000000))/\∀ D6:Nat,(6=0/\D6=0\/D6<6)->(fun v7:V=>Ex (D6:Int) ([0,0,0,1,2,5].map iV) (iV ([0,0,0,1,2,5].getD D6 0))/\True/\∀ g6:Nat,Z g6 0/\(bE b (F7.2+1) g 12).sm/\Er g (aE b (F7.2+1))/\((b.length<=2000)/\((F7.2+1)<=1000000)/\(12<=1000000))/\∀ Qb:Nat,(12=0/\Qb=0\/Qb<12)->(fun v8:Bool=>(v8=true->Z g6 1/\(fD b ((F7.2+1)+1) g).sm/\Er g (aE b ((F7.2+1)+1))/\((b.length<=2000)/\(((F7.2+1)+1)<=900000))/\∀ G5:BL×Nat,(G5.1.length<=25/\((F7.2+1)+1)<=G5.2/\G5.2<=((F7.2+1)+1)+6/\l8 G5.1)->Z g6 2/\∃ y:Pg×Nat,(y.1.addr.length<=30/\y.1.lead.length<=30/\y.1.text.length<=1000/\(0<=y.1.m5/\y.1.m5<=10)/\q<=y.2/\y.2<=q+80/\l8 y.1.addr/\l8 y.1.lead/\l8 y.1.text)/\E v1/\E v5/\E v4/\E (iN i)/\E (iN i)/\E (bV (r8 (i:Int) 4))/\E v1/\E (iN E7)/\E (bV (r6 (E7:Int) 0))/\E v4/\E (iN i)/\E (.ep v6)/\E v6/\E (sV (v3++(bb.getD i [])))/\E (sV ((v3++(bb.getD i []))++v2))/\E v1/\E (.sl true ([0,0,0,1,2,5].map iV))/\E v1/\E (bG F7.1)/\E (sV PV)/\E (iN D6)/\E (.ep (iV ([0,0,0,1,2,5].getD D6 0)))/\E (iV ([0,0,0,1,2,5].getD D6 0))/\E v7/\E (.ptr (.key 6) [] g6 0)/\E v1/\E (iN Qb)/\E (bV v8)/\Qr g (aE b G5.2) g (aE b y.2)/\Qr g6 (.agg [sV ((v3++(bb.getD i []))++v2),sV [],sV G5.1,iV ([0,0,0,1,2,5].getD D6 0)]) g6 (cO y.1.addr y.1.text y.1.lead y.1.m5)/\True)/\(v8=false->∃ y:Pg×Nat,(y.1.addr.length<=30/\y.1.lead.length<=30/\y.1.text.length<=1000/\(0<=y.1.m5/\y.1.m5<=10)/\q<=y.2/\y.2<=q+80/\l8 y.1.addr/\l8 y.1.lead/\l8 y.1.text)/\E v1/\E v5/\E v4/\E (iN i)/\E (iN i)/\E (bV (r8 (i:Int) 4))/\E v1/\E (iN E7)/\E (bV (r6 (E7:Int) 0))/\E v4/\E (iN i)/\E (.ep v6)/\E v6/\E (sV (v3++(bb.getD i [])))/\E (sV ((v3++(bb.getD i []))++v2))/\E v1/\E (.sl true ([0,0,0,1,2,5].map iV))/\E v1/\E (bG F7.1)/\E (sV PV)/\E (iN D6)/\E (.ep (iV ([0,0,0,1,2,5].getD D6 0)))/\E (iV ([0,0,0,1,2,5].getD D6 0))/\E v7/\E (.ptr (.key 6) [] g6 0)/\E v1/\E (iN Qb)/\E (bV v8)/\Qr g (aE b ((F7.2+1)+1)) g (aE b y.2)/\Qr g6 v7 g6 (cO y.1.addr y.1.text y.1.lead y.1.m5)/\True)/\(∀ y:Pg×Nat,(y.1.addr.length<=30/\y.1.lead.length<=30/\y.1.text.length<=1000/\(0<=y.1.m5/\y.1.m5<=10)/\q<=y.2/\y.2<=q+80/\l8 y.1.addr/\l8 y.1.lead/\l8 y.1.text)->Z g6 1/\Br (E5 (y.1.text.length:Int) 300) (Z g6 0/\((4,4,u,f,k,(e.map s3).length)=(4,4,u,f,k,(e.map s3).length))/\(True)/\(V.aK ([cO y.1.addr y.1.text y.1.lead y.1.m5]:List V)=false)/\(aM 4 ([cO y.1.addr y.1.text y.1.lead y.1.m5]:List V))/\(((e.map s3).length+([cO y.1.addr y.1.text y.1.lead y.1.m5]:List V).length)*56<=140737488355328)/\∀ Ve Ux Vu:Nat,((.own 4 ((e.map s3)++([cO y.1.addr y.1.text y.1.lead y.1.m5]:List V)) Ve Ux Vu:V)=.own 4 ((e++[y.1]).map s3) Ve Ux Vu)/\m8 ((i:Int)+1)/\∃ x:Nat×(List Pg)×Nat×Nat×Nat×Nat,match x with | (c9,z8,o9,D0,r9,k₂)=>(c9<=4/\z8.length<=c9/\(∀ y,y∈z8->m4 y)/\p<=o9/\o9<=p+90*c9)/\(4-c9<4-i)/\E v1/\Q (.own 4 ((e++[y.1]).map s3) Ve Ux Vu) (.own 4 (z8.map s3) D0 r9 k₂)/\E v4/\Q (iN (i+1)) (iN c9)/\Qr g (aE b y.2) g (aE b o9)/\True) (m8 ((i:Int)+1)/\∃ x:Nat×(List Pg)×Nat×Nat×Nat×Nat,match x with | (c9,z8,o9,D0,r9,k₂)=>(c9<=4/\z8.length<=c9/\(∀ y,y∈z8->m4 y)/\p<=o9/\o9<=p+90*c9)/\(4-c9<4-i)/\E v1/\Q v5 (.own 4 (z8.map s3) D0 r9 k₂)/\E v4/\Q (iN (i+1)) (iN c9)/\Qr g (aE b y.2) g (aE b o9)/\True))) (r6 (Qb:Int) 0)) (.agg [sV ((v3++(bb.getD i []))++v2),sV PV,sV [],iV ([0,0,0,1,2,5].getD D6 0)])) (m8 ((i:Int)+1)/\∃ x:Nat×(List Pg)×Nat×Nat×Nat×Nat,match x with | (c9,z8,o9,D0,r9,k₂)=>(c9<=4/\z8.length<=c9/\(∀ y,y∈z8->m4 y)/\p<=o9/\o9<=p+90*c9)/\(4-c9<4-i)/\E v1/\Q v5 (.own 4 (z8.map s3) D0 r9 k₂)/\E v4/\Q (iN (i+1)) (iN c9)/\Qr g (aE b (q+1)) g (aE b o9)/\True)) ((bE b q g 7).sm/\Er g (aE b q)/\((b.length<=2000)/\(q<=1000000)/\(7<=1000000))/\∀ PE:Nat,(7=0/\PE=0\/PE<7)->m8 (2+(PE:Int))/\(∃ x:Nat×(List Pg)×Nat×Nat×Nat×Nat,match x with | (L',Vi,Um,Uk,Vh,UK)=>(gO b p g L' Vi Um Uk Vh UK)/\E v1/\Q v5 (.own 4 (Vi.map s3) Uk Vh UK)/\Q (iN (2+PE)) (iN L')/\Qr g (aE b (q+1)) g (aE b Um)/\True)/\∀ x:Nat×(List Pg)×Nat×Nat×Nat×Nat,match x with | (n,e',q',u',f',k')=>(gO b p g n e' q' u' f' k')->(fun v9:V=>Br (w3 (n:Int) 0) ((fD b q' g).sm/\Er g (aE b q')/\((b.length<=2000)/\(q'<=900000))/\∀ E3:BL×Nat,(E3.1.length<=25/\q'<=E3.2/\E3.2<=q'+6/\l8 E3.1)->(yG b E3.2 g).sm/\Er g (aE b E3.2)/\((b.length<=2000)/\(E3.2<=880000))/\∀ B5:BL×Nat,(B5.1.length<=240/\E3.2<=B5.2/\B5.2<=E3.2+70/\l8 B5.1)->(bE b B5.2 g 7).sm/\Er g (aE b B5.2)/\((b.length<=2000)/\(B5.2<=1000000)/\(7<=1000000))/\∀ D7:Nat,(7=0/\D7=0\/D7<7)->(fun v10:V=>Ex (D7:Int) ([0,0,0,0,1,2,4].map iV) (iV ([0,0,0,0,1,2,4].getD D7 0))/\True/\∀ g8:Nat,Z g8 0/\(bE b (B5.2+1) g 8).sm/\Er g (aE b (B5.2+1))/\((b.length<=2000)/\((B5.2+1)<=1000000)/\(8<=1000000))/\∀ OB:Nat,(8=0/\OB=0\/OB<8)->(fun v11:Bool=>(v11=true->Z g8 1/\(fD b ((B5.2+1)+1) g).sm/\Er g (aE b ((B5.2+1)+1))/\((b.length<=2000)/\(((B5.2+1)+1)<=900000))/\∀ Om:BL×Nat,(Om.1.length<=25/\((B5.2+1)+1)<=Om.2/\Om.2<=((B5.2+1)+1)+6/\l8 Om.1)->Z g8 2/\∃ y:Pg×Nat,(m4 y.1/\q'<=y.2/\y.2<=q'+90)/\E v1/\E v9/\E (iN n)/\E (iN n)/\E (bV (w3 (n:Int) 0))/\E v1/\E (sV E3.1)/\E v1/\E (sV B5.1)/\E (.sl true ([0,0,0,0,1,2,4].map iV))/\E v1/\E (iN D7)/\E (.ep (iV ([0,0,0,0,1,2,4].getD D7 0)))/\E (iV ([0,0,0,0,1,2,4].getD D7 0))/\E v10/\E (.ptr (.key 8) [] g8 0)/\E v1/\E (iN OB)/\E (bV v11)/\Qr g (aE b Om.2) g (aE b y.2)/\Qr g8 (.agg [sV E3.1,sV [],sV Om.1,iV ([0,0,0,0,1,2,4].getD D7 0)]) g8 (cO y.1.addr y.1.text y.1.lead y.1.m5)/\True)/\(v11=false->∃ y:Pg×Nat,(m4 y.1/\q'<=y.2/\y.2<=q'+90)/\E v1/\E v9/\E (iN n)/\E (iN n)/\E (bV (w3 (n:Int) 0))/\E v1/\E (sV E3.1)/\E v1/\E (sV B5.1)/\E (.sl true ([0,0,0,0,1,2,4].map iV))/\E v1/\E (iN D7)/\E (.ep (iV ([0,0,0,0,1,2,4].getD D7 0)))/\E (iV ([0,0,0,0,1,2,4].getD D7 0))/\E v10/\E (.ptr (.key 8) [] g8 0)/\E v1/\E (iN OB)/\E (bV v11)/\Qr g (aE b ((B5.2+1)+1)) g (aE b y.2)/\Qr g8 v10 g8 (cO y.1.addr y.1.text y.1.lead y.1.m5)/\True)/\(∀ y:Pg×Nat,(m4 y.1/\q'<=y.2/\y.2<=q'+90)->(fun v12:List V=>(fun E4:Bool=>Z g8 0/\(((4=4/\u'=u'/\f'=f')/\0+((e'.map s3).length)<=(e'.map s3).length/\V.aK (e'.map s3)=false/\aM 4 (e'.map s3))/\True)/\(([.sl false (((e'.map s3).drop 0).take ((e'.map s3).length)),sV y.1.addr]:List V)=[cC e',sV y.1.addr])/\((e'.length<=1000000))/\∀ g9:Nat,Z g9 0/\Gd (E4==true) (Z g8 1)/\Pk E4 (E4==true) true/\Br (E4&&(E5 (y.1.text.length:Int) 300)) (Z g8 0/\((4,4,u',f',k',(e'.map s3).length)=(4,4,u',f',k',(e'.map s3).length))/\(True)/\(V.aK v12=false)/\(aM 4 v12)/\(((e'.map s3).length+v12.length)*56<=140737488355328)/\∀ U5 Un Vj:Nat,((.own 4 ((e'.map s3)++v12) U5 Un Vj:V)=.own 4 ((e'++[y.1]).map s3) U5 Un Vj)/\m8 ((n:Int)-1)/\Q (iV ((n:Int)-1)) (iN (n-1))/\∃ x:Nat×(List Pg)×Nat×Nat×Nat×Nat,match x with | (y7,Rd,QM,QI,Rb,QR)=>(gO b p g y7 Rd QM QI Rb QR)/\(y7<n)/\E v1/\Q (.own 4 ((e'++[y.1]).map s3) U5 Un Vj) (.own 4 (Rd.map s3) QI Rb QR)/\Q (iN (n-1)) (iN y7)/\Qr g (aE b y.2) g (aE b QM)/\True) (m8 ((n:Int)-1)/\Q (iV ((n:Int)-1)) (iN (n-1))/\∃ x:Nat×(List Pg)×Nat×Nat×Nat×Nat,match x with | (y7,Rd,QM,QI,Rb,QR)=>(gO b p g y7 Rd QM QI Rb QR)/\(y7<n)/\E v1/\Q v9 (.own 4 (Rd.map s3) QI Rb QR)/\Q (iN (n-1)) (iN y7)/\Qr g (aE b y.2) g (aE b QM)/\True)) (!((C5 e' y.1.addr).2))) ([cO y.1.addr y.1.text y.1.lead y.1.m5]:List V))) (r6 (OB:Int) 0)) (.agg [sV E3.1,sV B5.1,sV [],iV ([0,0,0,0,1,2,4].getD D7 0)])) (((4,u',f',k',(e'.map s3).length)=(4,u',f',k',(e'.map s3).length))/\∃ x:List Pg×Nat,(1<=x.1.length/\x.1.length<=12/\(∀ y,y∈x.1->m4 y)/\p<=x.2/\x.2<=p+1500)/\Q (.ow 4 (e'.map s3)) (.ow 4 (x.1.map s3))/\Qr g (aE b q') g (aE b x.2))) (.own 4 (e'.map s3) u' f' k'))) (sV (bb.getD i []))) (.own 4 (e.map s3) u f k))) (ao bb)) ([47,47]:BL)) ([47,110,111,116,105,99,101]:BL)) (.ptr (.key 1000) [] g 0))
  Zac ?_
 refine⟨rfl,trivial,?_⟩
 refine⟨⟨(0,[],p,0,0,0),?_,rfl,rfl,rfl,rfl,rfl,trivial⟩,?_⟩
 simp
 rintro⟨i,e,q,u,f,k⟩ ⟨h1,h2,h3,h4,h5⟩
 refine bI (fun l3=>?_) fun l3=>?_
 · refine⟨rfl,rfl,⟨Zaa,Zaa,Zaa⟩,?_⟩
   intro E7 SL
   refine bI (fun l6=>?_) fun l6=>?_
   · refine⟨HJ (by show _<4;omega),trivial,by have:=dB (l:=bb) (n:=3) rfl i;simp only[Zan,Zap,Zas];omega,by have:=dB (l:=bb) (n:=3) rfl i;simp only[Zan,Zap,Zas];omega,rfl,rfl,⟨Zaa,Zaa⟩,?_⟩
     intro F7 UL
     refine⟨rfl,⟨by have:=UL.1;exact this,by have:=UL.2.1;exact this⟩,?_⟩
     intro PV L3
     refine⟨rfl,rfl,⟨Zaa,Zaa,Zaa⟩,?_⟩
     intro D6 YU
     refine⟨LM Zaj,trivial,?_⟩
     intro g6
     refine⟨rfl,rfl,rfl,⟨Zaa,Zaa,Zaa⟩,?_⟩
     intro Qb hx8_1
     refine⟨fun n0=>?_,fun n0=>?_,fun y hy=>?_⟩
     · try simp only[nb]at n0
       refine⟨rfl,rfl,rfl,⟨Zaa,Zaa⟩,?_⟩
       intro G5 G7
       refine⟨rfl,?_⟩
       exact⟨((⟨(([47,47]:BL)++(bb.getD i []))++([47,110,111,116,105,99,101]:BL),[],G5.1,([0,0,0,1,2,5].getD D6 0)⟩:Pg),G5.2),⟨by(try have:=dB (l:=bb) (n:=3) rfl i);(try simp only[Zan,Zap,Zas]);omega,by(try have:=dB (l:=bb) (n:=3) rfl i);(try simp only[Zan,Zap,Zas]);omega,by(try have:=dB (l:=bb) (n:=3) rfl i);(try simp only[Zan,Zap,Zas]);omega,sh rfl _,Zaa,Zaa,by(try dsimp only);repeat (first | assumption | exact G7.2.2.2 | exact H5.2.2.2 | exact H3.2.2.2 | exact bp | exact cd rfl | exact L3.2 | exact H4.2.2.2 | exact fq rfl i | apply l8.app),by(try dsimp only);repeat (first | assumption | exact G7.2.2.2 | exact H5.2.2.2 | exact H3.2.2.2 | exact bp | exact cd rfl | exact L3.2 | exact H4.2.2.2 | exact fq rfl i | apply l8.app),by(try dsimp only);repeat (first | assumption | exact G7.2.2.2 | exact H5.2.2.2 | exact H3.2.2.2 | exact bp | exact cd rfl | exact L3.2 | exact H4.2.2.2 | exact fq rfl i | apply l8.app)⟩,rfl,rfl,rfl,rfl,rfl,rfl,rfl,rfl,rfl,rfl,rfl,rfl,rfl,rfl,rfl,rfl,rfl,rfl,rfl,rfl,rfl,rfl,rfl,rfl,rfl,rfl,rfl,rfl,Zaf,Zaf,trivial⟩
     · try simp only[nb]at n0
       exact⟨((⟨(([47,47]:BL)++(bb.getD i []))++([47,110,111,116,105,99,101]:BL),PV,[],([0,0,0,1,2,5].getD D6 0)⟩:Pg),(F7.2+1)+1),⟨by(try have:=dB (l:=bb) (n:=3) rfl i);(try simp only[Zan,Zap,Zas]);omega,by(try have:=dB (l:=bb) (n:=3) rfl i);(try simp only[Zan,Zap,Zas]);omega,by(try have:=dB (l:=bb) (n:=3) rfl i);(try simp only[Zan,Zap,Zas]);omega,sh rfl _,Zaa,Zaa,by(try dsimp only);repeat (first | assumption | exact G7.2.2.2 | exact H5.2.2.2 | exact H3.2.2.2 | exact bp | exact cd rfl | exact L3.2 | exact H4.2.2.2 | exact fq rfl i | apply l8.app),by(try dsimp only);repeat (first | assumption | exact G7.2.2.2 | exact H5.2.2.2 | exact H3.2.2.2 | exact bp | exact cd rfl | exact L3.2 | exact H4.2.2.2 | exact fq rfl i | apply l8.app),by(try dsimp only);repeat (first | assumption | exact G7.2.2.2 | exact H5.2.2.2 | exact H3.2.2.2 | exact bp | exact cd rfl | exact L3.2 | exact H4.2.2.2 | exact fq rfl i | apply l8.app)⟩,rfl,rfl,rfl,rfl,rfl,rfl,rfl,rfl,rfl,rfl,rfl,rfl,rfl,rfl,rfl,rfl,rfl,rfl,rfl,rfl,rfl,rfl,rfl,rfl,rfl,rfl,rfl,rfl,Zaf,Zaf,trivial⟩
     refine⟨rfl,?_⟩
     refine bI (fun x7=>?_) fun x7=>?_
     refine⟨rfl,rfl,trivial,rfl,by simp[aM,V.n,V.ns],Zaj,?_⟩
     intro Ve Ux Vu
     refine⟨Zbk (V.own 4 · Ve Ux Vu) Zab,Zaa,?_⟩
     refine⟨(i+1,e++[y.1],y.2,Ve,Ux,Vu),?_,?_,rfl,rfl,rfl,rfl,rfl,trivial⟩
     refine⟨Zaa,by(try simp only[Zan,Zap,Zas,Zaw]);omega,iL h3 ⟨hy.1,Zaa,hy.2.1,hy.2.2.2.1,hy.2.2.2.2.2.2.1,hy.2.2.2.2.2.2.2.1,hy.2.2.2.2.2.2.2.2⟩,Zaa,Zaa⟩
     exact Zai
     refine⟨Zaa,?_⟩
     refine⟨(i+1,e,y.2,u,f,k),?_,?_,rfl,rfl,rfl,rfl,rfl,trivial⟩
     exact⟨Zaa,Zaa,h3,Zaa,Zaa⟩
     exact Zai
   refine⟨Zaa,?_⟩
   refine⟨(i+1,e,q+1,u,f,k),?_,?_,rfl,rfl,rfl,rfl,rfl,trivial⟩
   exact⟨Zaa,Zaa,h3,Zaa,Zaa⟩
   exact Zai
 · refine⟨rfl,rfl,⟨Zaa,Zaa,Zaa⟩,?_⟩
   intro PE YX
   refine⟨Zaa,?_⟩
   refine⟨⟨(2+PE,e,q+1,u,f,k),?_,rfl,rfl,rfl,rfl,trivial⟩,?_⟩
   unfold gO
   exact⟨Zaa,Zaa,h3,Zaa,Zaa⟩
   rintro⟨n,e',q',u',f',k'⟩ ⟨k1,k2,k3,k4,k5⟩
   refine bI (fun I4=>?_) fun I4=>?_
   · refine⟨rfl,rfl,⟨Zaa,Zaa⟩,?_⟩
     intro E3 H5
     refine⟨rfl,rfl,⟨Zaa,Zaa⟩,?_⟩
     intro B5 H4
     refine⟨rfl,rfl,⟨Zaa,Zaa,Zaa⟩,?_⟩
     intro D7 YW
     refine⟨LM Zaj,trivial,?_⟩
     intro g8
     refine⟨rfl,rfl,rfl,⟨Zaa,Zaa,Zaa⟩,?_⟩
     intro OB YV
     refine⟨fun Pu=>?_,fun Pu=>?_,fun y hy=>?_⟩
     · try simp only[nb]at Pu
       refine⟨rfl,rfl,rfl,⟨Zaa,Zaa⟩,?_⟩
       intro Om H3
       refine⟨rfl,?_⟩
       exact⟨((⟨E3.1,[],Om.1,([0,0,0,0,1,2,4].getD D7 0)⟩:Pg),Om.2),⟨⟨by(try have:=dB (l:=bb) (n:=3) rfl i);(try simp only[Zan,Zap,Zas]);omega,by(try have:=dB (l:=bb) (n:=3) rfl i);(try simp only[Zan,Zap,Zas]);omega,by(try have:=dB (l:=bb) (n:=3) rfl i);(try simp only[Zan,Zap,Zas]);omega,sh rfl _,by(try dsimp only);repeat (first | assumption | exact G7.2.2.2 | exact H5.2.2.2 | exact H3.2.2.2 | exact bp | exact cd rfl | exact L3.2 | exact H4.2.2.2 | exact fq rfl i | apply l8.app),by(try dsimp only);repeat (first | assumption | exact G7.2.2.2 | exact H5.2.2.2 | exact H3.2.2.2 | exact bp | exact cd rfl | exact L3.2 | exact H4.2.2.2 | exact fq rfl i | apply l8.app),by(try dsimp only);repeat (first | assumption | exact G7.2.2.2 | exact H5.2.2.2 | exact H3.2.2.2 | exact bp | exact cd rfl | exact L3.2 | exact H4.2.2.2 | exact fq rfl i | apply l8.app)⟩,Zaa,Zaa⟩,rfl,rfl,rfl,rfl,rfl,rfl,rfl,rfl,rfl,rfl,rfl,rfl,rfl,rfl,rfl,rfl,rfl,rfl,rfl,Zaf,Zaf,trivial⟩
     · try simp only[nb]at Pu
       exact⟨((⟨E3.1,B5.1,[],([0,0,0,0,1,2,4].getD D7 0)⟩:Pg),(B5.2+1)+1),⟨⟨by(try have:=dB (l:=bb) (n:=3) rfl i);(try simp only[Zan,Zap,Zas]);omega,by(try have:=dB (l:=bb) (n:=3) rfl i);(try simp only[Zan,Zap,Zas]);omega,by(try have:=dB (l:=bb) (n:=3) rfl i);(try simp only[Zan,Zap,Zas]);omega,sh rfl _,by(try dsimp only);repeat (first | assumption | exact G7.2.2.2 | exact H5.2.2.2 | exact H3.2.2.2 | exact bp | exact cd rfl | exact L3.2 | exact H4.2.2.2 | exact fq rfl i | apply l8.app),by(try dsimp only);repeat (first | assumption | exact G7.2.2.2 | exact H5.2.2.2 | exact H3.2.2.2 | exact bp | exact cd rfl | exact L3.2 | exact H4.2.2.2 | exact fq rfl i | apply l8.app),by(try dsimp only);repeat (first | assumption | exact G7.2.2.2 | exact H5.2.2.2 | exact H3.2.2.2 | exact bp | exact cd rfl | exact L3.2 | exact H4.2.2.2 | exact fq rfl i | apply l8.app)⟩,Zaa,Zaa⟩,rfl,rfl,rfl,rfl,rfl,rfl,rfl,rfl,rfl,rfl,rfl,rfl,rfl,rfl,rfl,rfl,rfl,rfl,rfl,Zaf,Zaf,trivial⟩
     refine⟨rfl,⟨⟨⟨rfl,rfl,rfl⟩,Zab,cP (f:=s3) (fun _=>rfl) _,dY (f:=s3) (fun _=>rfl) _⟩,trivial⟩,by simp[Zax],Zae,?_⟩
     intro g9
     refine⟨rfl,fun hG=>rfl,⟨fun h=>by rw[h] <;> rfl,fun _=>rfl⟩,?_⟩
     refine bI (fun hb7=>?_) fun hb7=>?_
     refine⟨rfl,rfl,trivial,rfl,by simp[aM,V.n,V.ns],Zaj,?_⟩
     intro U5 Un Vj
     refine⟨Zbk (V.own 4 · U5 Un Vj) Zab,Zaa,by simp[Q];omega,?_⟩
     refine⟨(n-1,e'++[y.1],y.2,U5,Un,Vj),?_,?_,rfl,rfl,rfl,rfl,trivial⟩
     unfold gO
     refine⟨by(try simp only[Zan,Zap,Zas,Zaw]);omega,.inl Zab,iL k3 hy.1,Zaa,Zaa⟩
     exact Zai
     refine⟨Zaa,by simp[Q];omega,?_⟩
     refine⟨(n-1,e',y.2,u',f',k'),?_,?_,rfl,rfl,rfl,rfl,trivial⟩
     unfold gO
     have hyt:=hy.1.t
     have B0:(C5 e' y.fst.addr).snd=true:=by
      cases hh:(C5 e' y.fst.addr).snd with
      | true=>rfl
      | false=>have:=hb7 hh;omega
     exact⟨Zaa,.inl (Kd B0),k3,Zaa,Zaa⟩
     exact Zai
   refine⟨rfl,?_⟩
   refine⟨(e',q'),?_,?_,?_⟩
   try dsimp only
   exact⟨Zaa,Zaa,k3,Zaa,Zaa⟩
   first | rfl | simp_all
   first | rfl | exact⟨rfl,rfl⟩ | simp_all)
def Bk(b:BL)(p:Nat)(g:Nat):I2 Tryz.prog:=.mk (List Pg×Nat) 21 [.ptr (.key 1000) [] g 0] [(1000,(g,aE b p))] ((b.length<=2000)/\(p<=600000)) (fun x=>1<=x.1.length/\x.1.length<=30/\(∀ y,y∈x.1->m4 y)/\p<=x.2/\x.2<=p+1600) (fun x=>.ow 4 (x.1.map s3)) (fun x=>[(1000,(g,aE b x.2))]) (by
 rintro⟨hb,hp⟩
 have h0:∀ (l:List Pg),(∀ y,y∈l->m4 y)->m4 (l.getD 0 l9):=fun l h=>fv h 0
 refine fY (N:=51) (rs:=[.tmp 2]) (X:=List Pg×Nat) (post:=fun x=>1<=x.1.length/\x.1.length<=30/\(∀ y,y∈x.1->m4 y)/\p<=x.2/\x.2<=p+1600) (E:=fun x=>.ow 4 (x.1.map s3)) (H':=fun x=>[(1000,(g,.agg [.sl false (b.map n7),iN x.2]))]) Tryz.func21 Zac rfl rfl rfl Zac [(1000,(0,.b9))] (by intro _ k hk;simpa[lk] using hk)
  (.q 1<|.q 1<|.cx (xm b p g) [(1000,1000)] (fun (l7:List Pg×Nat)=>.q 1<|.ot 3 (fun g3 o3 c3=>.q 1<|.cx (bE b l7.2 g 16) [(1000,1000)] (fun (s5:Nat)=>.q 1<|.br (.q 2<|.h (.jt 2)<|.nil) (.q 1<|.cx (bE b (l7.2+1) g 5) [(1000,1000)] (fun (K1:Nat)=>.q 2<|.br (.r 4 [cO ((l7.1.getD 0 l9).addr) ((l7.1.getD 0 l9).text) ((l7.1.getD 0 l9).lead) ((l7.1.getD 0 l9).m5)]<|.bs<|.ap (fun WU Wq W0=>.h (.n8 31 (.own 4 ((l7.1++[(l7.1.getD 0 l9)]).map s3) WU Wq W0))<|.q 1<|.nil)) (.q 2<|.br (.q 3<|.st (some (iV ((l7.1.getD 0 l9).m5)))<|.h (.n8 3 (.own 4 ((l7.1.set 0 (⟨(l7.1.getD 0 l9).addr,(l7.1.getD 0 l9).text,(l7.1.getD 0 l9).lead,10⟩:Pg)).map s3) g3 o3 c3))<|.q 2<|.h (.jt 2)<|.nil) (.q 2<|.br (.q 2<|.bs<|.cx (fT b ((l7.2+1)+1) g ([([47,47,65,66,47,97]:BL),[],([47,47,97,98]:BL)]:List BL)) [(1000,1000)] (fun (G4:BL)=>.q 2<|.st (some (sV ((l7.1.getD 0 l9).addr)))<|.h (.n8 3 (.own 4 ((l7.1.set 0 (⟨G4,(l7.1.getD 0 l9).text,(l7.1.getD 0 l9).lead,(l7.1.getD 0 l9).m5⟩:Pg)).map s3) g3 o3 c3))<|.q 2<|.h (.jt 2)<|.nil)) (.q 2<|.br (.q 3<|.st (some (sV ((l7.1.getD 0 l9).lead)))<|.h (.n8 3 (.own 4 ((l7.1.set 0 (⟨(l7.1.getD 0 l9).addr,(l7.1.getD 0 l9).text,([120]:BL),(l7.1.getD 0 l9).m5⟩:Pg)).map s3) g3 o3 c3))<|.q 2<|.h (.jt 2)<|.nil) (.q 1<|.loop (Nat×(List Pg)×Nat×Nat×Nat) (fun (j,e,u,f,k)=>⟨[(3,.own 4 (e.map s3) u f k),(4,iN j)],[(1000,(g,aE b ((l7.2+1)+1)))]⟩) (fun (j,e,u,f,k)=>j<=12/\1<=e.length/\e.length<=12+j/\(∀ y,y∈e->m4 y)) (fun (j,e,u,f,k)=>12-j) (fun (j,e,u,f,k)=>.q 2<|.br (.q 2<|.c (uu j) []<|.q 1<|.bd pe<|.bs<|.ap (fun g23 QP Rf=>.h (.n8 23 (.own 4 ((e++[(⟨([47,47,97,98,47,122]:BL)++(eG j),[],[],0⟩:Pg)]).map s3) g23 QP Rf))<|.q 1<|.q 3<|.nil)) (.q 2<|.h (.jt 2)<|.nil))))))))))))
  ((fun v1:BL=>(fun v2:BL=>(fun v3:BL=>(fun v4:BL=>((xm b p g).sm/\Er g (aE b p)/\((b.length<=2000)/\(p<=700000))/\∀ l7:List Pg×Nat,(1<=l7.1.length/\l7.1.length<=12/\(∀ y,y∈l7.1->m4 y)/\p<=l7.2/\l7.2<=p+1500)->(fun v5:Pg=>(fun v6:List V=>(fun v7:V=> ∀ g3 o3 c3:Nat,(fun v8:V=>(bE b l7.2 g 16).sm/\Er g (aE b l7.2)/\((b.length<=2000)/\(l7.2<=1000000)/\(16<=1000000))/\∀ s5:Nat,(16=0/\s5=0\/s5<16)->Br (w3 (s5:Int) 0) (((4,g3,o3,c3,(l7.1.map s3).length)=(4,g3,o3,c3,(l7.1.map s3).length))/\∃ x:List Pg×Nat,(1<=x.1.length/\x.1.length<=30/\(∀ y,y∈x.1->m4 y)/\p<=x.2/\x.2<=p+1600)/\Q (.ow 4 (l7.1.map s3)) (.ow 4 (x.1.map s3))/\Qr g (aE b (l7.2+1)) g (aE b x.2)) ((bE b (l7.2+1) g 5).sm/\Er g (aE b (l7.2+1))/\((b.length<=2000)/\((l7.2+1)<=1000000)/\(5<=1000000))/\∀ K1:Nat,(5=0/\K1=0\/K1<5)->Br (r6 (K1:Int) 0) (In 0 ((l7.1.map s3).length)/\(V.at g3 o3 v8 [0+0]=some (g3,(o3+(0+0)*4),cO (v5.addr) (v5.text) (v5.lead) (v5.m5)))/\((4,4,g3,o3,c3,(l7.1.map s3).length)=(4,4,g3,o3,c3,(l7.1.map s3).length))/\(True)/\(V.aK v6=false)/\(aM 4 v6)/\(((l7.1.map s3).length+v6.length)*56<=140737488355328)/\∀ WU Wq W0:Nat,((.own 4 ((l7.1.map s3)++v6) WU Wq W0:V)=.own 4 ((l7.1++[v5]).map s3) WU Wq W0)/\∃ x:List Pg×Nat,(1<=x.1.length/\x.1.length<=30/\(∀ y,y∈x.1->m4 y)/\p<=x.2/\x.2<=p+1600)/\Q (.ow 4 ((l7.1++[v5]).map s3)) (.ow 4 (x.1.map s3))/\Qr g v7 g (aE b x.2)) (Br (r6 (K1:Int) 1) (In 0 ((l7.1.map s3).length)/\(V.at g3 o3 v8 [0+0,3]=some (g3,(o3+(0+0)*4+3),iV (v5.m5)))/\(V.set v8 [0+0,3] (iN 10)=.own 4 ((l7.1.set 0 (⟨v5.addr,v5.text,v5.lead,10⟩:Pg)).map s3) g3 o3 c3)/\((4,g3,o3,c3,((l7.1.set 0 (⟨v5.addr,v5.text,v5.lead,10⟩:Pg)).map s3).length)=(4,g3,o3,c3,((l7.1.set 0 (⟨v5.addr,v5.text,v5.lead,10⟩:Pg)).map s3).length))/\∃ x:List Pg×Nat,(1<=x.1.length/\x.1.length<=30/\(∀ y,y∈x.1->m4 y)/\p<=x.2/\x.2<=p+1600)/\Q (.ow 4 ((l7.1.set 0 (⟨v5.addr,v5.text,v5.lead,10⟩:Pg)).map s3)) (.ow 4 (x.1.map s3))/\Qr g v7 g (aE b x.2)) (Br (r6 (K1:Int) 2) ((fT b ((l7.2+1)+1) g ([v2,[],v3]:List BL)).sm/\Er g v7/\((b.length<=2000)/\(((l7.2+1)+1)<=1000000)/\(1<=([v2,[],v3]:List BL).length)/\(([v2,[],v3]:List BL).length<=1000))/\∀ G4:BL,(G4∈([v2,[],v3]:List BL))->In 0 ((l7.1.map s3).length)/\(V.at g3 o3 v8 [0+0,0]=some (g3,(o3+(0+0)*4+0),sV (v5.addr)))/\(V.set v8 [0+0,0] (sV G4)=.own 4 ((l7.1.set 0 (⟨G4,v5.text,v5.lead,v5.m5⟩:Pg)).map s3) g3 o3 c3)/\((4,g3,o3,c3,((l7.1.set 0 (⟨G4,v5.text,v5.lead,v5.m5⟩:Pg)).map s3).length)=(4,g3,o3,c3,((l7.1.set 0 (⟨G4,v5.text,v5.lead,v5.m5⟩:Pg)).map s3).length))/\∃ x:List Pg×Nat,(1<=x.1.length/\x.1.length<=30/\(∀ y,y∈x.1->m4 y)/\p<=x.2/\x.2<=p+1600)/\Q (.ow 4 ((l7.1.set 0 (⟨G4,v5.text,v5.lead,v5.m5⟩:Pg)).map s3)) (.ow 4 (x.1.map s3))/\Qr g (aE b (((l7.2+1)+1)+1)) g (aE b x.2)) (Br (r6 (K1:Int) 3) (In 0 ((l7.1.map s3).length)/\(V.at g3 o3 v8 [0+0,2]=some (g3,(o3+(0+0)*4+2),sV (v5.lead)))/\(V.set v8 [0+0,2] (sV v4)=.own 4 ((l7.1.set 0 (⟨v5.addr,v5.text,v4,v5.m5⟩:Pg)).map s3) g3 o3 c3)/\((4,g3,o3,c3,((l7.1.set 0 (⟨v5.addr,v5.text,v4,v5.m5⟩:Pg)).map s3).length)=(4,g3,o3,c3,((l7.1.set 0 (⟨v5.addr,v5.text,v4,v5.m5⟩:Pg)).map s3).length))/\∃ x:List Pg×Nat,(1<=x.1.length/\x.1.length<=30/\(∀ y,y∈x.1->m4 y)/\p<=x.2/\x.2<=p+1600)/\Q (.ow 4 ((l7.1.set 0 (⟨v5.addr,v5.text,v4,v5.m5⟩:Pg)).map s3)) (.ow 4 (x.1.map s3))/\Qr g v7 g (aE b x.2)) ((∃ x:Nat×(List Pg)×Nat×Nat×Nat,match x with | (Rn,E8,J7,B8,s7)=>(Rn<=12/\1<=E8.length/\E8.length<=12+Rn/\(∀ y,y∈E8->m4 y))/\Q v8 (.own 4 (E8.map s3) J7 B8 s7)/\Q (iN 0) (iN Rn)/\Er g v7/\True)/\∀ x:Nat×(List Pg)×Nat×Nat×Nat,match x with | (j,e,u,f,k)=>(j<=12/\1<=e.length/\e.length<=12+j/\(∀ y,y∈e->m4 y))->(fun v9:List V=>Br (r8 (j:Int) 12) ((uu j).sm/\((j<=1000000))/\(v1.length+(eG j).length<=4611686018427387904)/\((4,4,u,f,k,(e.map s3).length)=(4,4,u,f,k,(e.map s3).length))/\(True)/\(V.aK v9=false)/\(aM 4 v9)/\(((e.map s3).length+v9.length)*56<=140737488355328)/\∀ g23 QP Rf:Nat,((.own 4 ((e.map s3)++v9) g23 QP Rf:V)=.own 4 ((e++[(⟨v1++(eG j),[],[],0⟩:Pg)]).map s3) g23 QP Rf)/\m8 ((j:Int)+1)/\∃ x:Nat×(List Pg)×Nat×Nat×Nat,match x with | (OE,z8,D0,r9,k₂)=>(OE<=12/\1<=z8.length/\z8.length<=12+OE/\(∀ y,y∈z8->m4 y))/\(12-OE<12-j)/\Q (.own 4 ((e++[(⟨v1++(eG j),[],[],0⟩:Pg)]).map s3) g23 QP Rf) (.own 4 (z8.map s3) D0 r9 k₂)/\Q (iN (j+1)) (iN OE)/\Er g v7/\True) (((4,u,f,k,(e.map s3).length)=(4,u,f,k,(e.map s3).length))/\∃ x:List Pg×Nat,(1<=x.1.length/\x.1.length<=30/\(∀ y,y∈x.1->m4 y)/\p<=x.2/\x.2<=p+1600)/\Q (.ow 4 (e.map s3)) (.ow 4 (x.1.map s3))/\Qr g v7 g (aE b x.2))) ([.agg [sV (v1++(eG j)),sV [],sV [],iN 0]]:List V))))))) (.own 4 (l7.1.map s3) g3 o3 c3)) (aE b ((l7.2+1)+1))) ([cO (v5.addr) (v5.text) (v5.lead) (v5.m5)]:List V)) (l7.1.getD 0 l9))) ([120]:BL)) ([47,47,97,98]:BL)) ([47,47,65,66,47,97]:BL)) ([47,47,97,98,47,122]:BL))
  Zac ?_
 refine⟨rfl,rfl,⟨Zaa,Zaa⟩,?_⟩
 intro l7 J'
 intro g3 o3 c3
 refine⟨rfl,rfl,⟨Zaa,Zaa,Zaa⟩,?_⟩
 intro s5 Pc
 refine bI (fun l3=>?_) fun l3=>?_
 refine⟨rfl,?_⟩
 refine⟨(l7.1,l7.2+1),?_,?_,?_⟩
 try dsimp only
 exact⟨Zaa,Zaa,J'.2.2.1,Zaa,Zaa⟩
 first | rfl | simp_all
 first | rfl | exact⟨rfl,rfl⟩ | simp_all
 refine⟨rfl,rfl,⟨Zaa,Zaa,Zaa⟩,?_⟩
 intro K1 Xq
 refine bI (fun l6=>?_) fun l6=>?_
 refine⟨Zah,ig (by rw[Zau];exact aq (d:=l9) Zaa),rfl,trivial,rfl,by simp[aM,V.n,V.ns],Zaj,?_⟩
 intro WU Wq W0
 refine⟨Zbk (V.own 4 · WU Wq W0) Zab,?_⟩
 refine⟨(l7.1++[(l7.1.getD 0 l9)],(l7.2+1)+1),?_,?_,?_⟩
 try dsimp only
 exact⟨Zab,Zaj,iL J'.2.2.1 (h0 _ J'.2.2.1),Zaa,Zaa⟩
 first | rfl | simp_all
 first | rfl | exact⟨rfl,rfl⟩ | simp_all
 refine bI (fun n0=>?_) fun n0=>?_
 refine⟨Zah,aS (by rw[Zau];exact aq (d:=l9) Zaa) rfl,bn (x:=.agg [sV ((l7.1.getD 0 l9).addr),sV ((l7.1.getD 0 l9).text),sV ((l7.1.getD 0 l9).lead),iV ((l7.1.getD 0 l9).m5)]) (by rw[Zau];exact aq (d:=l9) Zaa) (List.map_set (f:=s3) (l:=l7.1) (i:=0) (a:=(⟨(l7.1.getD 0 l9).addr,(l7.1.getD 0 l9).text,(l7.1.getD 0 l9).lead,10⟩:Pg))).symm,rfl,?_⟩
 refine⟨(l7.1.set 0 (⟨(l7.1.getD 0 l9).addr,(l7.1.getD 0 l9).text,(l7.1.getD 0 l9).lead,10⟩:Pg),(l7.2+1)+1),?_,?_,?_⟩
 try dsimp only
 have hz:=h0 _ J'.2.2.1
 exact⟨Zaj,Zaj,xx J'.2.2.1 ⟨hz.a,hz.t,hz.l,Zab,hz.aa,hz.la,hz.ta⟩,Zaa,Zaa⟩
 first | rfl | simp_all
 first | rfl | exact⟨rfl,rfl⟩ | simp_all
 refine bI (fun x7=>?_) fun x7=>?_
 refine⟨rfl,rfl,⟨Zaa,Zaa,Zab,Zab⟩,?_⟩
 intro G4 A5
 refine⟨Zah,aS (by rw[Zau];exact aq (d:=l9) Zaa) rfl,bn (x:=.agg [sV ((l7.1.getD 0 l9).addr),sV ((l7.1.getD 0 l9).text),sV ((l7.1.getD 0 l9).lead),iV ((l7.1.getD 0 l9).m5)]) (by rw[Zau];exact aq (d:=l9) Zaa) (List.map_set (f:=s3) (l:=l7.1) (i:=0) (a:=(⟨G4,(l7.1.getD 0 l9).text,(l7.1.getD 0 l9).lead,(l7.1.getD 0 l9).m5⟩:Pg))).symm,rfl,?_⟩
 refine⟨(l7.1.set 0 (⟨G4,(l7.1.getD 0 l9).text,(l7.1.getD 0 l9).lead,(l7.1.getD 0 l9).m5⟩:Pg),((l7.2+1)+1)+1),?_,?_,?_⟩
 try dsimp only
 have hz:=h0 _ J'.2.2.1
 exact⟨Zaj,Zaj,xx J'.2.2.1 ⟨cv rfl A5,hz.t,hz.l,hz.f,eC rfl A5,hz.la,hz.ta⟩,Zaa,Zaa⟩
 first | rfl | simp_all
 first | rfl | exact⟨rfl,rfl⟩ | simp_all
 refine bI (fun I4=>?_) fun I4=>?_
 refine⟨Zah,aS (by rw[Zau];exact aq (d:=l9) Zaa) rfl,bn (x:=.agg [sV ((l7.1.getD 0 l9).addr),sV ((l7.1.getD 0 l9).text),sV ((l7.1.getD 0 l9).lead),iV ((l7.1.getD 0 l9).m5)]) (by rw[Zau];exact aq (d:=l9) Zaa) (List.map_set (f:=s3) (l:=l7.1) (i:=0) (a:=(⟨(l7.1.getD 0 l9).addr,(l7.1.getD 0 l9).text,([120]:BL),(l7.1.getD 0 l9).m5⟩:Pg))).symm,rfl,?_⟩
 refine⟨(l7.1.set 0 (⟨(l7.1.getD 0 l9).addr,(l7.1.getD 0 l9).text,([120]:BL),(l7.1.getD 0 l9).m5⟩:Pg),(l7.2+1)+1),?_,?_,?_⟩
 try dsimp only
 have hz:=h0 _ J'.2.2.1
 exact⟨Zaj,Zaj,xx J'.2.2.1 ⟨hz.a,hz.t,Zab,hz.f,hz.aa,cd rfl,hz.ta⟩,Zaa,Zaa⟩
 first | rfl | simp_all
 first | rfl | exact⟨rfl,rfl⟩ | simp_all
 refine⟨⟨(0,l7.1,g3,o3,c3),?_,rfl,rfl,rfl,trivial⟩,?_⟩
 exact⟨Zaa,Zaa,Zaa,J'.2.2.1⟩
 rintro⟨j,e,u,f,k⟩ ⟨h1,h2,h3,h4⟩
 refine bI (fun Pu=>?_) fun Pu=>?_
 refine⟨rfl,Zaa,by have:=sA j Zaa;simp only[Zan,Zap,Zas];omega,rfl,trivial,rfl,by simp[aM,V.n,V.ns],Zaj,?_⟩
 intro g23 QP Rf
 refine⟨Zbk (V.own 4 · g23 QP Rf) Zab,Zaa,?_⟩
 refine⟨(j+1,e++[(⟨([47,47,97,98,47,122]:BL)++(eG j),[],[],0⟩:Pg)],g23,QP,Rf),?_,?_,rfl,rfl,rfl,trivial⟩
 have hd:=sA j Zaa
 refine⟨Zaa,Zab,Zaj,iL h4 ⟨?_,Zab,Zab,Zab,(cd rfl).app (mE j),bp,bp⟩⟩
 simp only[Zan,Zap,Zas];omega
 exact Zai
 refine⟨rfl,?_⟩
 refine⟨(e,(l7.2+1)+1),?_,?_,?_⟩
 try dsimp only
 exact⟨Zaa,Zaa,h4,Zaa,Zaa⟩
 first | rfl | simp_all
 first | rfl | exact⟨rfl,rfl⟩ | simp_all)
def zp(b:BL)(p:Nat)(g:Nat):I2 Tryz.prog:=.mk BL 22 [.ptr (.key 1000) [] g 0] [(1000,(g,aE b p))] ((b.length<=2000)/\(p<=900000)) (fun x=>x.length<=5/\aZ x=true) (fun x=>sV x) (fun x=>[(1000,(g,aE b (p+1)))]) (by
 rintro⟨hb,hp⟩
 refine fY (N:=6) (rs:=[.tmp 2]) (X:=BL) (post:=fun x=>x.length<=5/\aZ x=true) (E:=fun x=>sV x) (H':=fun x=>[(1000,(g,.agg [.sl false (b.map n7),iN (p+1)]))]) Tryz.func22 Zac rfl rfl rfl Zac [(1000,(0,.b9))] (by intro _ k hk;simpa[lk] using hk)
  (.q 1<|.q 1<|.bs<|.cx (fT b p g ([([114,111,118,101,114]:BL),([114,111,118,101,114]:BL),([115,99,111,117,116]:BL),([111,116,104,101,114]:BL)]:List BL)) [(1000,1000)] (fun (x8:BL)=>.q 1<|.nil))
  ((fun v1:BL=>(fun v2:BL=>(fun v3:BL=>((fT b p g ([v1,v1,v3,v2]:List BL)).sm/\Er g (aE b p)/\((b.length<=2000)/\(p<=1000000)/\(1<=([v1,v1,v3,v2]:List BL).length)/\(([v1,v1,v3,v2]:List BL).length<=1000))/\∀ x8:BL,(x8∈([v1,v1,v3,v2]:List BL))->∃ x:BL,(x.length<=5/\aZ x=true)/\Q (sV x8) (sV x)/\Er g (aE b (p+1)))) ([115,99,111,117,116]:BL)) ([111,116,104,101,114]:BL)) ([114,111,118,101,114]:BL))
  Zac ?_
 refine⟨rfl,rfl,⟨Zaa,Zaa,Zab,Zab⟩,?_⟩
 intro x8 QT
 refine⟨x8,?_,?_,?_⟩
 try dsimp only
 exact⟨cv rfl QT,Za0.1 (show (List.all _ aZ)=true from rfl) _ QT⟩
 first | rfl | simp_all
 first | rfl | exact⟨rfl,rfl⟩ | simp_all)
def wW(b:BL)(p:Nat)(g:Nat)(w:List Pg):I2 Tryz.prog:=.mk (BL×Nat) 46 [.ptr (.key 1000) [] g 0,cC w] [(1000,(g,aE b p))] ((b.length<=2000)/\(p<=800000)/\(w.length<=30)/\(∀ y,y∈w->m4 y)) (fun x=>x.1.length<=30/\p<=x.2/\x.2<=p+8/\l8 x.1) (fun x=>sV x.1) (fun x=>[(1000,(g,aE b x.2))]) (by
 rintro⟨hb,hp,hw,hy⟩
 refine fY (N:=23) (rs:=[.tmp 4]) (X:=BL×Nat) (post:=fun x=>x.1.length<=30/\p<=x.2/\x.2<=p+8/\l8 x.1) (E:=fun x=>sV x.1) (H':=fun x=>[(1000,(g,.agg [.sl false (b.map n7),iN x.2]))]) Tryz.func46 Zac rfl rfl rfl Zac [(1000,(0,.b9))] (by intro _ k hk;simpa[lk] using hk)
  (.q 1<|.q 3<|.sp (w3 (((w.map s3).length:Nat):Int) 0) (.h (.n8 7 (bV true))<|.q 1<|.gt<|.q 1<|.gt<|.cx (bE b p g 3) [(1000,1000)] (fun (Sy:Nat)=>.gt<|.q 2<|.br (.q 4<|.cx (bE b (p+1) g ((w.map s3).length)) [(1000,1000)] (fun (J3:Nat)=>.r 4 [cO ((w.getD J3 l9).addr) ((w.getD J3 l9).text) ((w.getD J3 l9).lead) ((w.getD J3 l9).m5)]<|.nil)) (.q 1<|.cx (fD b (p+1) g) [(1000,1000)] (fun (a8:BL×Nat)=>.q 1<|.nil)))) (.h (.n8 7 (bV false))<|.q 1<|.gf (.b9)<|.gf (.b9)<|.gf (bV false)<|.q 1<|.br (.q 4<|.cx (bE b p g ((w.map s3).length)) [(1000,1000)] (fun (J3:Nat)=>.r 4 [cO ((w.getD J3 l9).addr) ((w.getD J3 l9).text) ((w.getD J3 l9).lead) ((w.getD J3 l9).m5)]<|.nil)) (.q 1<|.cx (fD b p g) [(1000,1000)] (fun (a8:BL×Nat)=>.q 1<|.nil))))
  ((fun v1:Bool=>((v1=true->((bV v1:V)=bV true)/\(true=true)/\(true=true)/\(bE b p g 3).sm/\Er g (aE b p)/\((b.length<=2000)/\(p<=1000000)/\(3<=1000000))/\∀ Sy:Nat,(3=0/\Sy=0\/Sy<3)->(true=true)/\Pk true true true/\Br (true&&(w3 (Sy:Int) 0)) ((bE b (p+1) g ((w.map s3).length)).sm/\Er g (aE b (p+1))/\((b.length<=2000)/\((p+1)<=1000000)/\(((w.map s3).length)<=1000000))/\∀ J3:Nat,(((w.map s3).length)=0/\J3=0\/J3<((w.map s3).length))->(fun v2:Pg=>Ex (J3:Int) (w.map s3) (cO (v2.addr) (v2.text) (v2.lead) (v2.m5))/\True/\∃ x:BL×Nat,(x.1.length<=30/\p<=x.2/\x.2<=p+8/\l8 x.1)/\Q (sV (v2.addr)) (sV x.1)/\Qr g (aE b ((p+1)+1)) g (aE b x.2)) (w.getD J3 l9)) ((fD b (p+1) g).sm/\Er g (aE b (p+1))/\((b.length<=2000)/\((p+1)<=900000))/\∀ a8:BL×Nat,(a8.1.length<=25/\(p+1)<=a8.2/\a8.2<=(p+1)+6/\l8 a8.1)->∃ x:BL×Nat,(x.1.length<=30/\p<=x.2/\x.2<=p+8/\l8 x.1)/\Q (sV a8.1) (sV x.1)/\Qr g (aE b a8.2) g (aE b x.2)))/\(v1=false->((bV v1:V)=bV false)/\(false=false)/\(false=false)/\(false=false)/\Pk false false true/\Br (false&&false) ((bE b p g ((w.map s3).length)).sm/\Er g (aE b p)/\((b.length<=2000)/\(p<=1000000)/\(((w.map s3).length)<=1000000))/\∀ J3:Nat,(((w.map s3).length)=0/\J3=0\/J3<((w.map s3).length))->(fun v3:Pg=>Ex (J3:Int) (w.map s3) (cO (v3.addr) (v3.text) (v3.lead) (v3.m5))/\True/\∃ x:BL×Nat,(x.1.length<=30/\p<=x.2/\x.2<=p+8/\l8 x.1)/\Q (sV (v3.addr)) (sV x.1)/\Qr g (aE b (p+1)) g (aE b x.2)) (w.getD J3 l9)) ((fD b p g).sm/\Er g (aE b p)/\((b.length<=2000)/\(p<=900000))/\∀ a8:BL×Nat,(a8.1.length<=25/\p<=a8.2/\a8.2<=p+6/\l8 a8.1)->∃ x:BL×Nat,(x.1.length<=30/\p<=x.2/\x.2<=p+8/\l8 x.1)/\Q (sV a8.1) (sV x.1)/\Qr g (aE b a8.2) g (aE b x.2))))) (w3 (((w.map s3).length:Nat):Int) 0))
  Zac ?_
 refine⟨fun QV=>?_,fun QV=>?_⟩
 have SX:=QV
 try simp only[nb]at SX
 refine⟨Zbk bV QV,rfl,rfl,rfl,rfl,⟨Zaa,Zaa,Zaa⟩,?_⟩
 intro Sy hx1_5
 refine⟨rfl,⟨fun h=>by first | exact h | rfl,fun _=>rfl⟩,?_⟩
 refine bI (fun l3=>?_) fun l3=>?_
 refine⟨rfl,rfl,⟨Zaa,Zaa,by simp only[Zaw];omega⟩,?_⟩
 intro J3 Xs
 simp only[Zaw]at Xs
 refine⟨⟨Zaa,aq (d:=l9) Zaa⟩,trivial,?_⟩
 refine⟨((w.getD J3 l9).addr,(p+1)+1),?_,?_,?_⟩
 try dsimp only
 exact⟨(fv hy _).a,Zaa,Zaa,(fv hy _).aa⟩
 first | rfl | simp_all
 first | rfl | exact⟨rfl,rfl⟩ | simp_all
 refine⟨rfl,rfl,⟨Zaa,Zaa⟩,?_⟩
 intro a8 m7
 refine⟨(a8.1,a8.2),?_,?_,?_⟩
 try dsimp only
 exact⟨Zaa,Zaa,Zaa,by first | exact RH.2.2.2 | (rename_i hq;exact hq.2.2.2) | (apply And.right;apply And.right;apply And.right;assumption)⟩
 first | rfl | simp_all
 first | rfl | exact⟨rfl,rfl⟩ | simp_all
 · have SX:=QV
   try simp only[nb]at SX
   refine⟨Zbk bV QV,rfl,rfl,rfl,⟨fun h=>by first | exact h | rfl,fun _=>rfl⟩,?_⟩
   refine bI (fun l6=>?_) fun l6=>?_
   · all_goals (simp at l6)
   refine⟨rfl,rfl,⟨Zaa,Zaa⟩,?_⟩
   intro a8 m7
   refine⟨(a8.1,a8.2),?_,?_,?_⟩
   try dsimp only
   exact⟨Zaa,Zaa,Zaa,by first | exact RH.2.2.2 | (rename_i hq;exact hq.2.2.2) | (apply And.right;apply And.right;apply And.right;assumption)⟩
   first | rfl | simp_all
   first | rfl | exact⟨rfl,rfl⟩ | simp_all)
theorem tj{α:Type}{l:List α}(h:1<=l.length):l≠[]:=by rintro rfl;simp at h
theorem vT{P:Nat->Prop}{k:Nat}(h:∀ q,q<k->P q)(hk:P k):∀ q,q<k+1->P q:=fun q hq=>by
 rcases Nat.lt_succ_iff_lt_or_eq.1 hq with h' | rfl
 exact h q h'
 exact hk
abbrev kT(w:List Pg)(i:Nat):Prop:=i<=w.length/\∀ j,j<i->eI (w.getD j l9)=true/\∀ k,k<j->(w.getD k l9).addr≠(w.getD j l9).addr
def ze(w:List Pg):o6 Tryz.prog:=.mk 26 [cC w] [] ((w.length<=1000)/\(∀ i,(w.getD i l9).addr.length<=1000000/\(w.getD i l9).lead.length<=1000000)) (bV (ai w)) [] (by
 rintro⟨hw,hz⟩
 refine aB (N:=80) (rs:=[.tmp 2]) Tryz.func26
  (.q 1<|.q 1<|.loop (Nat) (fun (i:Nat)=>⟨[(0,cC w),(3,iN i)],[]⟩) (fun (i:Nat)=>kT w i) (fun (i:Nat)=>w.length-i) (fun (i:Nat)=>.q 4<|.br (.r 5 [cO ((w.getD i l9).addr) ((w.getD i l9).text) ((w.getD i l9).lead) ((w.getD i l9).m5)]<|.c (lU ((w.getD i l9).addr)) []<|.r 16 [cO ((w.getD i l9).addr) ((w.getD i l9).text) ((w.getD i l9).lead) ((w.getD i l9).m5),cO ((w.getD i l9).addr) ((w.getD i l9).text) ((w.getD i l9).lead) ((w.getD i l9).m5)]<|.cg (nR ((w.getD i l9).m5) (0:Int) (9:Int))<|.r 22 [cO ((w.getD i l9).addr) ((w.getD i l9).text) ((w.getD i l9).lead) ((w.getD i l9).m5),cO ((w.getD i l9).addr) ((w.getD i l9).text) ((w.getD i l9).lead) ((w.getD i l9).m5),cO ((w.getD i l9).addr) ((w.getD i l9).text) ((w.getD i l9).lead) ((w.getD i l9).m5)]<|.cg (lU ((w.getD i l9).lead))<|.q 4<|.br (.q 1<|.nil) (.q 1<|.loop (Nat) (fun (k:Nat)=>⟨[(0,cC w),(3,iN i),(4,iN k)],[]⟩) (fun (k:Nat)=>k<=i/\∀ q,q<k->(w.getD q l9).addr≠(w.getD i l9).addr) (fun (k:Nat)=>i-k) (fun (k:Nat)=>.q 3<|.br (.dx 11 [0,1,2,3,4,5,6,7,8,9,10] [(4,⟨false,[],some [],[70],[]⟩),(9,⟨false,[],some [],[75],[]⟩)] []<|.q 1<|.q 1<|.r 1 [cO ((w.getD k l9).addr) ((w.getD k l9).text) ((w.getD k l9).lead) ((w.getD k l9).m5)]<|.q 1<|.q 1<|.q 1<|.q 1<|.r 1 [cO ((w.getD i l9).addr) ((w.getD i l9).text) ((w.getD i l9).lead) ((w.getD i l9).m5)]<|.q 1<|.q 1<|.q 1<|.br (.q 1<|.nil) (.q 3<|.nil)) (.q 3<|.nil)))) (.q 4<|.nil)))
  ((∃ j7:Nat,(kT w j7)/\E (cC w)/\Q (iN 0) (iN j7)/\True)/\∀ i:Nat,(kT w i)->(fun v2:Pg=>(fun v9:Bool=>(fun v4:Bool=>(fun v5:Bool=>(fun v1:Bool=>(fun v3:V=>(fun v6:Bool=>(fun v7:Bool=>(fun v8:Bool=>Br (r8 (i:Int) (((w.map s3).length:Nat):Int)) (Ex (i:Int) (w.map s3) v3/\True/\(lU (v2.addr)).sm/\(((v2.addr).length<=4611686018427387904))/\Gd (v5==false) (Ex (i:Int) (w.map s3) v3)/\Gd (v5==false) True/\Pk v5 true (v5==false)/\Gd v8 (Ex (i:Int) (w.map s3) v3)/\Gd v8 True/\Gd v8 ((True)/\(nR (v2.m5) (0:Int) (9:Int)).sm)/\Pk (v5||v4) true v8/\Gd v1 (Ex (i:Int) (w.map s3) v3)/\Gd v1 True/\Gd (v1&&(v6==true)) (Ex (i:Int) (w.map s3) v3)/\Gd (v1&&(v6==true)) True/\Gd ((v1&&(v6==true))&&(v7==false)) (Ex (i:Int) (w.map s3) v3)/\Gd ((v1&&(v6==true))&&(v7==false)) True/\Gd ((v1&&(v6==true))&&(v7==false)) ((((v2.lead).length<=4611686018427387904))/\(lU (v2.lead)).sm)/\Gd (v1&&(v6==true)) (Pk v7 true ((v1&&(v6==true))&&(v7==false)))/\Gd v1 (Pk v6 (v1&&(v6==true)) true)/\Pk ((v5||v4)||v9) true v1/\Br (((v5||v4)||v9)||(v6&&(v7||(!(aA (v2.lead)))))) (Q (bV false) (bV (ai w))) ((∃ s7:Nat,(s7<=i/\∀ q,q<s7->(w.getD q l9).addr≠v2.addr)/\E (cC w)/\E (iN i)/\Q (iN 0) (iN s7)/\True)/\∀ k:Nat,(k<=i/\∀ q,q<k->(w.getD q l9).addr≠v2.addr)->Br (r8 (k:Int) (i:Int)) (Ex (k:Int) (w.map s3) (cO ((w.getD k l9).addr) ((w.getD k l9).text) ((w.getD k l9).lead) ((w.getD k l9).m5))/\True/\Ex (i:Int) (w.map s3) v3/\True/\Br (((w.getD k l9).addr)==(v2.addr)) (Q (bV false) (bV (ai w))) (m8 ((k:Int)+1)/\∃ k₂:Nat,(k₂<=i/\∀ q,q<k₂->(w.getD q l9).addr≠v2.addr)/\(i-k₂<i-k)/\E (cC w)/\E (iN i)/\Q (iN (k+1)) (iN k₂)/\True)) (m8 ((i:Int)+1)/\∃ c9:Nat,(kT w c9)/\(w.length-c9<w.length-i)/\E (cC w)/\Q (iN (i+1)) (iN c9)/\True))) (Q (bV (E5 (((w.map s3).length:Nat):Int) 12)) (bV (ai w)))) ((v5||v4)==false)) (!((v2.text)==[]))) (!((v2.lead)==[]))) (cO (v2.addr) (v2.text) (v2.lead) (v2.m5))) (((v5||v4)||v9)==false)) (!(aA (v2.addr)))) (w3 (((v2.text).length:Nat):Int) 300)) (!(x4 (v2.m5) (0:Int) (9:Int)))) (w.getD i l9)) ?_
 refine⟨⟨0,?_,rfl,rfl,trivial⟩,?_⟩
 unfold kT
 simp
 rintro i ⟨h1,h2⟩
 refine bI (fun l3=>?_) fun l3=>?_
 refine⟨⟨Zaa,aq (d:=l9) Zaa⟩,trivial,rfl,by have:=hz i;omega,fun hG=>⟨Zaa,aq (d:=l9) Zaa⟩,fun hG=>trivial,⟨fun _=>rfl,fun h=>by rw[h] <;> rfl⟩,fun hG=>⟨Zaa,aq (d:=l9) Zaa⟩,fun hG=>trivial,fun hG=>⟨trivial,rfl⟩,⟨fun _=>rfl,fun h=>by rw[h] <;> rfl⟩,fun hG=>⟨Zaa,aq (d:=l9) Zaa⟩,fun hG=>trivial,fun hG=>⟨Zaa,aq (d:=l9) Zaa⟩,fun hG=>trivial,fun hG=>⟨Zaa,aq (d:=l9) Zaa⟩,fun hG=>trivial,fun hG=>⟨by(try simp only[nb]at hG);have:=hz i;omega,rfl⟩,fun hG=>⟨fun _=>rfl,fun h=>by rw[h];exact(Zam _ _).mpr ⟨hG,rfl⟩⟩,fun hG=>⟨fun h=>by rw[h];exact(Zam _ _).mpr ⟨hG,rfl⟩,fun _=>rfl⟩,⟨fun _=>rfl,fun h=>by rw[h] <;> rfl⟩,?_⟩
 refine bI (fun l6=>?_) fun l6=>?_
 unfold Q
 rw[yE (i:=i) Zaa (fun h=>by rw[MK l6]at h;exact absurd h.1 Zad)]
 refine⟨⟨0,?_,rfl,rfl,rfl,trivial⟩,?_⟩
 simp
 rintro k ⟨h3,h4⟩
 refine bI (fun n0=>?_) fun n0=>?_
 refine⟨⟨Zaa,aq (d:=l9) Zaa⟩,trivial,⟨Zaa,aq (d:=l9) Zaa⟩,trivial,?_⟩
 refine bI (fun x7=>?_) fun x7=>?_
 unfold Q
 rw[yE (i:=i) Zaa (fun h=>h.2 k Zaa x7)]
 refine⟨Zaa,?_⟩
 refine⟨k+1,?_,?_,rfl,rfl,rfl,trivial⟩
 exact⟨Zaa,vT h4 x7⟩
 exact Zai
 refine⟨Zaa,?_⟩
 refine⟨i+1,?_,?_,rfl,rfl,trivial⟩
 unfold kT
 exact⟨Zaa,vT h2 ⟨MF l6,fun k' C3=>h4 k' Zaa⟩⟩
 exact Zai
 unfold Q
 rw[DE (fun j hj=>h2 j Zaa),Zaw]
 refine Zbk bV ?_
 unfold E5
 rw[Za4];simp;omega)
def nH(s:BL)(p:BL):o6 Tryz.prog:=.mk 178 [sV s,sV p] [] ((s.length<=4611686018427387904)/\(p.length<=4611686018427387904)) (bV (fV s p)) [] (by
 rintro⟨hs,hp⟩
 refine aB (N:=18) (rs:=[.tmp 4]) Tryz.func178
  (.q 1<|.q 14<|.nil)
  ((fun v1:Bool=>(Gd (v1==true) (Sx (0:Int) (p.length:Int) s)/\Pk v1 (v1==true) true/\Q (bV (v1&&(((s.take p.length).drop ((0:Int).toNat))==p))) (bV (fV s p)))) (A8 (s.length:Int) (p.length:Int))) ?_
 refine⟨fun hG=>by(try simp only[nb]at hG);omega,⟨fun h=>by rw[h] <;> rfl,fun _=>rfl⟩,?_⟩
 unfold Q
 refine Zbk bV ?_
 unfold fV
 rw[Za4];simp)
def nu(s:BL)(p:BL):o6 Tryz.prog:=.mk 183 [sV s,sV p] [] ((s.length<=4611686018427387904)/\(p.length<=4611686018427387904)) (bV (iY s p)) [] (by
 rintro⟨hs,hp⟩
 refine aB (N:=21) (rs:=[.tmp 4]) Tryz.func183
  (.q 1<|.q 17<|.nil)
  ((fun v1:Bool=>(Gd (v1==true) (m8 ((s.length:Int)-(p.length:Int)))/\Gd (v1==true) (Sx ((s.length:Int)-(p.length:Int)) (s.length:Int) s)/\Pk v1 (v1==true) true/\Q (bV (v1&&(((s.take s.length).drop (Int.toNat ((s.length:Int)-(p.length:Int))))==p))) (bV (iY s p)))) (A8 (s.length:Int) (p.length:Int))) ?_
 refine⟨fun hG=>by(try simp only[nb]at hG);omega,fun hG=>by(try simp only[nb]at hG);omega,⟨fun h=>by rw[h] <;> rfl,fun _=>rfl⟩,?_⟩
 unfold Q
 refine Zbk bV ?_
 unfold iY
 rw[Za4];simp)
def qQ(s:BL)(p:BL):o6 Tryz.prog:=.mk 166 [sV s,sV p] [] ((s.length<=4611686018427387904)/\(p.length<=4611686018427387904)) (sV (cQ s p)) [] (by
 rintro⟨hs,hp⟩
 refine aB (N:=16) (rs:=[.tmp 4]) Tryz.func166
  (.q 1<|.q 2<|.c (nu s p) []<|.br (.q 8<|.nil) (.q 2<|.nil))
  ((nu s p).sm/\((s.length<=4611686018427387904)/\(p.length<=4611686018427387904))/\Br (iY s p) (m8 ((s.length:Int)-(p.length:Int))/\Sx (0:Int) ((s.length:Int)-(p.length:Int)) s/\Q (sV ((s.take (Int.toNat ((s.length:Int)-(p.length:Int)))).drop ((0:Int).toNat))) (sV (cQ s p))) (Q (sV s) (sV (cQ s p)))) ?_
 refine⟨rfl,⟨Zae,Zae⟩,?_⟩
 refine bI (fun l3=>?_) fun l3=>?_
 refine⟨Zaa,by have:=wL l3;omega,?_⟩
 unfold Q
 have:=wL l3
 rw[show cQ s p=s.take (s.length-p.length) from if_pos l3]
 simp
 unfold Q
 rw[show cQ s p=s from if_neg (by rw[l3];decide)])
def dP(d:BL):o6 Tryz.prog:=.mk 58 [sV d] [] (d.length<=4000000000000000000) (sV (ag d)) [] (by
 intro hh
 refine aB (N:=6) (rs:=[.tmp 2]) Tryz.func58
  (.q 1<|.q 4<|.nil)
  ((([47,47]:BL).length+d.length<=4611686018427387904)/\((([47,47]:BL)++d).length+([47,110,111,116,105,99,101]:BL).length<=4611686018427387904)/\Q (sV ((([47,47]:BL)++d)++([47,110,111,116,105,99,101]:BL))) (sV (ag d))) ?_
 refine⟨Zag,Zag,?_⟩
 unfold Q
 rfl)
def tP(s:BL)(p:BL):o6 Tryz.prog:=.mk 138 [sV s,sV p] [] ((s.length<=4611686018427387904)/\(p.length<=4611686018427387904)) (sV (cQ s p)) [] (by
 rintro⟨hs,hp⟩
 refine aB (N:=8) (rs:=[.tmp 4]) Tryz.func138
  (.q 1<|.q 2<|.c (qQ s p) []<|.q 1<|.nil)
  ((qQ s p).sm/\((s.length<=4611686018427387904)/\(p.length<=4611686018427387904))/\Q (sV (cQ s p)) (sV (cQ s p))) ?_
 refine⟨rfl,⟨Zae,Zae⟩,?_⟩
 unfold Q
 rfl)
def sI(s:BL)(p:BL):o6 Tryz.prog:=.mk 157 [sV s,sV p] [] ((s.length<=4611686018427387904)/\(p.length<=4611686018427387904)) (.tup [sV (cQ s p),bV (iY s p)]) [] (by
 rintro⟨hs,hp⟩
 refine aB (N:=18) (rs:=[.tmp 4,.tmp 5]) Tryz.func157
  (.q 2<|.q 2<|.c (nu s p) []<|.q 1<|.br (.q 3<|.nil) (.q 9<|.nil))
  ((nu s p).sm/\((s.length<=4611686018427387904)/\(p.length<=4611686018427387904))/\Br (!(iY s p)) (Q (.tup [sV s,bV false]) (.tup [sV (cQ s p),bV (iY s p)])) (m8 ((s.length:Int)-(p.length:Int))/\Sx (0:Int) ((s.length:Int)-(p.length:Int)) s/\Q (.tup [sV ((s.take (Int.toNat ((s.length:Int)-(p.length:Int)))).drop ((0:Int).toNat)),bV true]) (.tup [sV (cQ s p),bV (iY s p)]))) ?_
 refine⟨rfl,⟨Zae,Zae⟩,?_⟩
 refine bI (fun l3=>?_) fun l3=>?_
 unfold Q
 have l3:iY s p=false:=by simpa using l3
 rw[show cQ s p=s from if_neg (by rw[l3];decide),l3]
 refine⟨Zaa,by have:=wL (s:=s) (p:=p) (by simpa using l3);omega,?_⟩
 unfold Q
 have l3:iY s p=true:=by simpa using l3
 have:=wL l3
 rw[show cQ s p=s.take (s.length-p.length) from if_pos l3,l3]
 simp)
def sD(s:BL):o6 Tryz.prog:=.mk 181 [sV s] [] (s.length<=4611686018427387904) (bV ((s==[42])||aZ s)) [] (by
 intro hs
 refine aB (N:=9) (rs:=[.tmp 2]) Tryz.func181
  (.q 1<|.q 4<|.cg (iD s)<|.q 2<|.nil)
  ((fun v1:BL=>(Gd ((s==v1)==false) (((s.length<=4611686018427387904))/\(iD s).sm)/\Pk (s==v1) true ((s==v1)==false)/\Q (bV ((s==v1)||(aZ s))) (bV ((s==[42])||aZ s)))) ([42]:BL)) ?_
 refine⟨fun hG=>⟨by(try simp only[nb]at hG);first | assumption | omega | (simp;omega),rfl⟩,⟨fun _=>rfl,fun h=>by rw[h] <;> rfl⟩,?_⟩
 unfold Q
 rfl)
def uP(s:BL)(p:BL):o6 Tryz.prog:=.mk 129 [sV s,sV p] [] ((s.length<=4611686018427387904)/\(p.length<=4611686018427387904)) (.tup [sV (cQ s p),bV (iY s p)]) [] (by
 rintro⟨hs,hp⟩
 refine aB (N:=11) (rs:=[.tmp 4,.tmp 5]) Tryz.func129
  (.q 2<|.q 2<|.c (sI s p) []<|.q 4<|.nil)
  ((sI s p).sm/\((s.length<=4611686018427387904)/\(p.length<=4611686018427387904))/\Q (.tup [sV (cQ s p),bV (iY s p)]) (.tup [sV (cQ s p),bV (iY s p)])) ?_
 refine⟨rfl,⟨Zae,Zae⟩,?_⟩
 unfold Q
 rfl)
abbrev jF(s:BL)(p:BL):V:=.tup [sV (if fV s p=true then s.drop p.length else s),bV (fV s p)]
def sE(s:BL)(p:BL):o6 Tryz.prog:=.mk 169 [sV s,sV p] [] ((s.length<=4611686018427387904)/\(p.length<=4611686018427387904)) (jF s p) [] (by
 rintro⟨hs,hp⟩
 refine aB (N:=15) (rs:=[.tmp 4,.tmp 5]) Tryz.func169
  (.q 2<|.q 2<|.c (nH s p) []<|.q 1<|.br (.q 3<|.nil) (.q 6<|.nil))
  ((nH s p).sm/\((s.length<=4611686018427387904)/\(p.length<=4611686018427387904))/\Br (!(fV s p)) (Q (.tup [sV s,bV false]) (jF s p)) (Sx (p.length:Int) (s.length:Int) s/\Q (.tup [sV ((s.take s.length).drop p.length),bV true]) (jF s p))) ?_
 refine⟨rfl,⟨Zae,Zae⟩,?_⟩
 refine bI (fun l3=>?_) fun l3=>?_
 unfold Q jF
 have l3:fV s p=false:=by simpa using l3
 rw[if_neg (by rw[l3];decide),l3]
 refine⟨by have:=My (s:=s) (p:=p) (by simpa using l3);omega,?_⟩
 unfold Q jF
 have l3:fV s p=true:=by simpa using l3
 rw[if_pos l3,l3]
 simp)
abbrev qn(s:BL)(p:BL):V:=.tup [sV (if fV s p=true then s.drop p.length else s),bV (fV s p)]
def uT(s:BL)(p:BL):o6 Tryz.prog:=.mk 141 [sV s,sV p] [] ((s.length<=4611686018427387904)/\(p.length<=4611686018427387904)) (qn s p) [] (by
 rintro⟨hs,hp⟩
 refine aB (N:=11) (rs:=[.tmp 4,.tmp 5]) Tryz.func141
  (.q 2<|.q 2<|.c (sE s p) []<|.q 4<|.nil)
  ((sE s p).sm/\((s.length<=4611686018427387904)/\(p.length<=4611686018427387904))/\Q (.tup [sV (if fV s p=true then s.drop p.length else s),bV (fV s p)]) (qn s p)) ?_
 refine⟨rfl,⟨Zae,Zae⟩,?_⟩
 unfold Q qn
 rfl)
def qb(b:UInt8):o6 Tryz.prog:=.mk 139 [uN b.toNat] [] True (bV (jZ b)) [] (by
 intro _
 refine aB (N:=19) (rs:=[.tmp 2]) Tryz.func139
  (.q 1<|.q 1<|.q 2<|.join (Bool) (fun c=>⟨[(0,uN b.toNat),(4,bV c)],[]⟩) (fun c=>c=decide (b.toNat=47\/b.toNat=42\/b.toNat=63\/b.toNat=37)) (.nil) (.q 2<|.br (.nil) (.q 2<|.br (.nil) (.q 2<|.nil))) (fun c=>.br (.q 1<|.nil) (.q 1<|.c (mT b) []<|.q 9<|.nil)))
  ((fun v1:Int=>(((r6 v1 47)=true->∃ c:Bool,(c=decide (b.toNat=47\/b.toNat=42\/b.toNat=63\/b.toNat=37))/\E (uN b.toNat)/\Q (bV (r6 v1 47)) (bV c)/\True)/\((r6 v1 47)=false->Br (r6 v1 42) (∃ c:Bool,(c=decide (b.toNat=47\/b.toNat=42\/b.toNat=63\/b.toNat=37))/\E (uN b.toNat)/\Q (bV (r6 v1 42)) (bV c)/\True) (Br (r6 v1 63) (∃ c:Bool,(c=decide (b.toNat=47\/b.toNat=42\/b.toNat=63\/b.toNat=37))/\E (uN b.toNat)/\Q (bV (r6 v1 63)) (bV c)/\True) (∃ c:Bool,(c=decide (b.toNat=47\/b.toNat=42\/b.toNat=63\/b.toNat=37))/\E (uN b.toNat)/\Q (bV (r6 v1 37)) (bV c)/\True)))/\(∀ c:Bool,(c=decide (b.toNat=47\/b.toNat=42\/b.toNat=63\/b.toNat=37))->Br c (Q (bV true) (bV (jZ b))) ((mT b).sm/\(True)/\Gd ((eW b)==false) (Pk (A8 v1 65) (((eW b)==false)&&((A8 v1 65)==true)) true)/\Pk (eW b) true ((eW b)==false)/\Q (bV ((eW b)||((A8 v1 65)&&(E5 v1 70)))) (bV (jZ b)))))) (b.toNat:Int)) ?_
 refine⟨fun l3=>?_,fun l3=>?_,fun c hc=>?_⟩
 try simp only[nb]at l3
 exact⟨r6 (b.toNat:Int) 47,by first | (rw[Za4];simp;omega) | (rw[Za4];simp),rfl,rfl,trivial⟩
 try simp only[nb]at l3
 refine bI (fun l6=>?_) fun l6=>?_
 exact⟨r6 (b.toNat:Int) 42,by first | (rw[Za4];simp;omega) | (rw[Za4];simp),rfl,rfl,trivial⟩
 refine bI (fun n0=>?_) fun n0=>?_
 exact⟨r6 (b.toNat:Int) 63,by first | (rw[Za4];simp;omega) | (rw[Za4];simp),rfl,rfl,trivial⟩
 exact⟨r6 (b.toNat:Int) 37,by first | (rw[Za4];simp;omega) | (rw[Za4];simp),rfl,rfl,trivial⟩
 refine bI (fun x7=>?_) fun x7=>?_
 unfold Q
 have h:b.toNat=47\/b.toNat=42\/b.toNat=63\/b.toNat=37:=by rw[hc,Zbi]at x7;exact x7
 refine Zbk bV ?_
 unfold jZ
 rw[decide_eq_true Zaa,Bool.or_true]
 refine⟨rfl,trivial,fun hG=>⟨fun h=>by rw[h];exact(Zam _ _).mpr ⟨hG,rfl⟩,fun _=>rfl⟩,⟨fun _=>rfl,fun h=>by rw[h] <;> rfl⟩,?_⟩
 unfold Q
 have h: ¬ (b.toNat=47\/b.toNat=42\/b.toNat=63\/b.toNat=37):=by rw[hc,decide_eq_false_iff_not]at x7;exact x7
 refine Zbk bV ?_
 unfold jZ
 congr 1
 rw[Za4];simp only[Zam,Zbi];omega)
def lP(p:BL):o6 Tryz.prog:=.mk 112 [sV p] [] (p.length<=4611686018427387904) (bV (eD p)) [] (by
 intro hs
 have Xu:(cQ p [36]).length<=p.length:=by unfold cQ;split <;> simp
 refine aB (N:=31) (rs:=[.tmp 2]) Tryz.func112
  (.q 1<|.q 13<|.br (.q 1<|.nil) (.q 1<|.c (tP p ([36]:BL)) []<|.q 1<|.q 1<|.loop (Nat) (fun (i:Nat)=>⟨[(3,sV (cQ p [36])),(4,iN i)],[]⟩) (fun (i:Nat)=>i<=(cQ p [36]).length/\∀ j,j<i->jZ ((cQ p [36]).getD j 0)=true) (fun (i:Nat)=>(cQ p [36]).length-i) (fun (i:Nat)=>.q 4<|.br (.q 3<|.c (qb ((cQ p [36]).getD i 0)) []<|.q 1<|.br (.q 1<|.nil) (.q 3<|.nil)) (.q 1<|.nil))))
  ((fun v1:Int=>(Pk (r8 v1 1) true ((r8 v1 1)==false)/\Gd (((r8 v1 1)||(w3 v1 16))==false) (Ix 0 p)/\Pk ((r8 v1 1)||(w3 v1 16)) true (((r8 v1 1)||(w3 v1 16))==false)/\Br (((r8 v1 1)||(w3 v1 16))||(w4 (((p.getD 0 0).toNat:Nat):Int) 47)) (Q (bV false) (bV (eD p))) ((tP p ([36]:BL)).sm/\((p.length<=4611686018427387904)/\(([36]:BL).length<=4611686018427387904))/\(∃ j7:Nat,(j7<=(cQ p [36]).length/\∀ j,j<j7->jZ ((cQ p [36]).getD j 0)=true)/\Q (sV (cQ p ([36]:BL))) (sV (cQ p [36]))/\Q (iN 0) (iN j7)/\True)/\∀ i:Nat,(i<=(cQ p [36]).length/\∀ j,j<i->jZ ((cQ p [36]).getD j 0)=true)->Br (r8 (i:Int) (((cQ p [36]).length:Nat):Int)) (Ix (i:Int) (cQ p [36])/\(qb ((cQ p [36]).getD i 0)).sm/\(True)/\Br (!(jZ ((cQ p [36]).getD i 0))) (Q (bV false) (bV (eD p))) (m8 ((i:Int)+1)/\∃ c9:Nat,(c9<=(cQ p [36]).length/\∀ j,j<c9->jZ ((cQ p [36]).getD j 0)=true)/\((cQ p [36]).length-c9<(cQ p [36]).length-i)/\E (sV (cQ p [36]))/\Q (iN (i+1)) (iN c9)/\True)) (Q (bV true) (bV (eD p)))))) (p.length:Int)) ?_
 refine⟨⟨fun _=>rfl,fun h=>by rw[h] <;> rfl⟩,fun hG=>by(try simp only[nb]at hG);omega,⟨fun _=>rfl,fun h=>by rw[h] <;> rfl⟩,?_⟩
 refine bI (fun l3=>?_) fun l3=>?_
 unfold Q
 refine Zbk bV ?_
 unfold eD
 rw[decide_eq_false Zaa];rfl
 refine⟨rfl,⟨Zaa,Zab⟩,?_⟩
 refine⟨⟨0,?_,Zaf,rfl,trivial⟩,?_⟩
 simp
 rintro i ⟨h1,h2⟩
 refine bI (fun l6=>?_) fun l6=>?_
 refine⟨Zaa,rfl,trivial,?_⟩
 refine bI (fun n0=>?_) fun n0=>?_
 unfold Q
 refine Zbk bV ?_
 unfold eD
 rw[all_false (i:=i) (d:=0) Zaa (by simpa using n0),Bool.and_false]
 refine⟨Zaa,?_⟩
 refine⟨i+1,?_,?_,rfl,rfl,trivial⟩
 exact⟨Zaa,bJ h2 (by simpa using n0)⟩
 exact Zai
 unfold Q
 refine Zbk bV ?_
 unfold eD
 rw[all_true (d:=0) (fun j hj=>h2 j Zaa),decide_eq_true Zaa];rfl)
def dm(a:s4):Prop:=a.b7.length<=1000/\a.ask.length<=1000/\a.e9.length<=500/\∀ i,(a.e9.getD i []).length<=1000
theorem yF{ps:List BL}(h:∀ i,(ps.getD i []).length<=1000):∀ i,i<=ps.length->(cI (ps.take i)).length<=i*1001
 | 0,_=>by simp[cI]
 | i+1,hi=>by
   have:=yF h i Zaa
   have h2:=h i
   rw[bA (by omega:i<ps.length) [],oI]
   split
   omega
   simp only[Zan,Zap,Zas];omega
theorem dm.join{a:s4}(h:dm a):(cI a.e9).length<=500500:=by
 obtain⟨h1,h2,h3,h4⟩:=h
 have:=yF h4 a.e9.length (Zba _)
 rw[List.take_length]at this;omega
theorem dm.path{a:s4}(h:dm a):(bz a).length<=502000:=by
 have:=h.join
 obtain⟨h1,h2,h3,h4⟩:=h
 unfold bz
 split <;> simp <;> omega
theorem dm.text{a:s4}(h:dm a):(cX a).length<=504000:=by
 have:=h.path
 have:=h.1
 unfold cX
 simp;omega
theorem NN{h q:BL}{fr ls:List BL}{k:Bool}(hh:h.length<=1000)(hf:∀ i,(fr.getD i []).length<=1000)(hl:fr.length+ls.length<=500):dm ⟨h,cy (fr++ls.map fG),k,fG q⟩:=by
 refine⟨hh,?_,?_,fun i=>?_⟩
 have:=rn q;simp only[fG];omega
 have:=yq (fr++ls.map fG);simp only[Zan,Zaw]at this ⊢;omega
 refine mI (n:=1000) (fun p XC=>?_) i
 rcases Zav.1 (yK XC) with h | h
 obtain⟨j,hj,rfl⟩:=List.getElem_of_mem h
 have:=hf j
 rwa [Zak,Zar hj]at this
 obtain⟨y,_,rfl⟩:=List.mem_map.1 h
 have:=rn y;simp only[fG];omega
theorem tL{a:s4}(h:aO a=true):dm a:=by
 unfold aO at h
 simp only[Zam,Zbi]at h
 obtain⟨⟨⟨⟨⟨h1,h2⟩,h3⟩,h4⟩,h5⟩,h6⟩:=h
 refine⟨?_,?_,Zaa,fun i=>mI (n:=1000) (fun p hp=>?_) i⟩
 have:a.b7.length<=(cX a).length:=by unfold cX;simp;omega
 omega
 have:=pY h3;omega
 have h5:=Za0.1 h5 p hp
 unfold fb at h5
 simp only[Zam]at h5
 have:=pY h5.1.1.1;omega
theorem sL:dm (oA none):=⟨by simp[oA],by simp[oA],by simp[oA],by simp[oA]⟩
theorem Ns(h:BL)(fr:List BL)(o5:BL):dm (oA (cR h fr o5)):=by
 unfold cR
 split
 split
 rename_i h2;exact tL h2
 exact sL
 exact sL
theorem lr(s:BL):dm (oA (aC s)):=by
 unfold aC
 split
 exact Ns _ _ _
 exact sL
theorem qo{h:BL}{fr:List BL}{o5:BL}(hs:(cR h fr o5).isSome=true):aO (oA (cR h fr o5))=true:=by
 unfold cR at hs ⊢
 split
 split
 rename_i h2;exact h2
 rename_i h1 h2;rw[if_pos h1,if_neg h2]at hs;simp at hs
 rename_i h1;rw[if_neg h1]at hs;simp at hs
theorem gX{s:BL}(hs:(aC s).isSome=true):aO (oA (aC s))=true:=by
 unfold aC at hs ⊢
 split
 rename_i h;rw[if_pos h]at hs;exact qo hs
 rename_i h;rw[if_neg h]at hs;simp at hs
def dJ(s:BL):Option s4:=if fV s [47,47]=true then eh (s.drop 2) else none
theorem uF{s p:BL}:fV s p=true↔p.length<=s.length/\s.take p.length=p:=by unfold fV;simp
theorem BK{raw:BL}(h:raw.length<=60):aC raw=dJ (af 35 raw).1:=by
 unfold aC dJ
 by_cases hp:fV (af 35 raw).1 [47,47]=true
 have:=uF.1 hp
 rw[if_pos hp,if_pos ⟨h,this.1,this.2⟩]
 rw[if_neg hp,if_neg]
 rintro⟨_,h1,h2⟩
 exact hp (uF.2 ⟨h1,h2⟩)
theorem wP{raw:BL}(h: ¬ raw.length<=60):aC raw=none:=if_neg fun c=>h c.1
theorem l8.take{s:BL}(h:l8 s)(n:Nat):l8 (s.take n):=fun c hc=>h c (List.mem_of_mem_take hc)
theorem l8.drop{s:BL}(h:l8 s)(n:Nat):l8 (s.drop n):=fun c hc=>h c (List.mem_of_mem_drop hc)
theorem CW(c:UInt8):∀ (s:BL) x,x∈(af c s).1->x∈s
 | [],x,h=>by simp[af]at h
 | b::l,x,h=>by
   simp only[af]at h
   split at h
   simp at h
   simp only[List.mem_cons]at h ⊢
   exact h.imp id (CW c l x)
theorem l8.cut{s:BL}(h:l8 s)(c:UInt8):l8 (af c s).1:=fun x hx=>h x (CW c s x hx)
theorem xJ{s:BL}(h1:(aC s).isSome=true)(h2:cX (oA (aC s))=s):aA s=true:=by
 unfold aA bY
 rw[h1,if_pos (gX h1),h2];simp
theorem Ky{s:BL}(h:(aC s).isSome=false\/¬ cX (oA (aC s))=s):aA s=false:=by
 unfold aA bY
 rcases Bool.eq_false_or_eq_true (aC s).isSome with h1 | h1
 rw[if_pos (gX h1),h1]
 rcases h with h | h
 rw[h1]at h;cases h
 simpa using h
 rw[h1];rfl
def ak(s:BL):Option s4:=if aA s=true then aC s else none
theorem fC{s:BL}:(ak s).isSome=aA s:=by
 unfold ak
 split
 rename_i h
 rw[h]
 unfold aA at h
 simp only[Zam]at h;exact h.1
 rename_i h;simp at h;rw[h];rfl
def nL(p:Pg):Value:=.agg #[.string (Str p.addr),.string (Str p.text),.string (Str p.lead),.int .i64 p.m5]
def F8(p:Pg):BL×Value:=(p.addr,nL p)
def wE(w:List Pg):List (BL×Value):=w.foldl (fun es p=>dh es p.addr (nL p)) []
theorem qI{w:List Pg}{i:Nat}(h:i<w.length):wE (w.take (i+1))=dh (wE (w.take i)) (w.getD i l9).addr (nL (w.getD i l9)):=by
 unfold wE;rw[bA h l9,List.foldl_append];rfl
theorem zf{k:BL}:∀ {es:List (BL×Value)},bD es k=none↔∀ p,p∈es->p.1≠k
 | []=>by simp[bD]
 | q::r=>by
   unfold bD
   split
   rename_i h;simp[h]
   rename_i h
   rw[zf (es:=r)]
   simp[h]
theorem yd(k:BL)(y:Value):∀ (es:List (BL×Value)),(dh es k y).length=if bD es k=none then es.length+1 else es.length
 | []=>rfl
 | p::r=>by
   unfold dh bD
   split
   simp
   have:=yd k y r
   rw[Zap,this]
   split <;> simp
theorem zV(k:BL)(y:Value):∀ (es:List (BL×Value)) (a:BL),(∃ p,p∈dh es k y/\p.1=a)↔(a=k\/∃ p,p∈es/\p.1=a)
 | [],a=>by simp[dh];exact eq_comm
 | p::r,a=>by
   unfold dh
   split
   rename_i h
   simp only[List.mem_cons,exists_eq_or_imp]
   constructor
   rintro (h1 | h1)
   exact .inl h1.symm
   exact .inr (.inr h1)
   rintro (h1 | h1 | h1)
   exact .inl h1.symm
   exact .inl (by rw[<- h];exact h1)
   exact .inr h1
   have:=zV k y r a
   simp only[List.mem_cons,exists_eq_or_imp,this]
   constructor
   rintro (h1 | h1 | h1)
   exact .inr (.inl h1)
   exact .inl h1
   exact .inr (.inr h1)
   rintro (h1 | h1 | h1)
   exact .inr (.inl h1)
   exact .inl h1
   exact .inr (.inr h1)
def Au(w:List Pg)(n:Nat):Prop:= ∀ i,i<n->∀ k,k<i->(w.getD k l9).addr≠(w.getD i l9).addr
theorem Ci(w:List Pg):∀ i,i<=w.length->∀ a,(∃ p,p∈wE (w.take i)/\p.1=a)↔∃ k,k<i/\(w.getD k l9).addr=a
 | 0,_,a=>by simp[wE]
 | i+1,h,a=>by
   rw[qI Zaa,zV,Ci w i Zaa]
   constructor
   rintro (h1 | ⟨k,h1,h2⟩)
   exact⟨i,Zaa,h1.symm⟩
   exact⟨k,Zaa,h2⟩
   rintro⟨k,h1,h2⟩
   by_cases e:k=i
   subst e;exact .inl h2.symm
   exact .inr ⟨k,Zaa,h2⟩
theorem xG{w:List Pg}{i:Nat}(h:i<=w.length){a:BL}:bD (wE (w.take i)) a=none↔∀ k,k<i->(w.getD k l9).addr≠a:=by
 rw[zf]
 have:=Ci w i h a
 constructor
 intro h1 k hk c
 obtain⟨p,hp,he⟩:=this.2 ⟨k,hk,c⟩
 exact h1 p hp he
 intro h1 p hp c
 obtain⟨k,hk,he⟩:=this.1 ⟨p,hp,c⟩
 exact h1 k hk he
theorem FM(w:List Pg):∀ i,i<=w.length->(wE (w.take i)).length<=i/\((wE (w.take i)).length=i↔Au w i)
 | 0,_=>by simp[wE,Au]
 | i+1,h=>by
   obtain⟨h1,h2⟩:=FM w i Zaa
   rw[qI Zaa,yd]
   split
   rename_i hl
   rw[xG Zaa]at hl
   refine⟨Zaa,?_⟩
   constructor
   intro hq j hj k hk
   by_cases e:j=i
   subst e;exact hl k hk
   exact(h2.1 Zaa) j Zaa k hk
   intro hd
   have:=h2.2 fun j hj k hk=>hd j Zaa k hk
   omega
   rename_i hl
   refine⟨Zaa,?_⟩
   constructor
   intro hq;omega
   intro hd;exact absurd ((xG Zaa).2 fun k hk=>hd i Zaa k hk) hl
theorem EE{w:List Pg}:∀ i,i<=w.length->Au w i->wE (w.take i)=(w.take i).map F8
 | 0,_,_=>by simp[wE]
 | i+1,h,hd=>by
   have ih:=EE i Zaa fun j hj k hk=>hd j Zaa k hk
   rw[qI Zaa,vi _ _ _ ((xG Zaa).2 fun k hk=>hd i Zaa k hk),ih,bA (by omega:i<w.length) l9,Za9]
   rfl
theorem Iu{w:List Pg}(h:ai w=true):w.length<=12/\(∀ i,i<w.length->eI (w.getD i l9)=true)/\Au w w.length:=by
 unfold ai at h
 simp only[Zam,Zbi]at h
 exact⟨h.2,fun i hi=>(h.1 i hi).1,fun i hi=>(h.1 i hi).2⟩
theorem GY{w:List Pg}(h:ai w=false)(h1:w.length<=12)(h2:∀ i,i<w.length->eI (w.getD i l9)=true): ¬ Au w w.length:=fun c=>by
 have:ai w=true:=by
  unfold ai
  simp only[Zam,Zbi]
  exact⟨fun i hi=>⟨h2 i hi,c i hi⟩,h1⟩
 rw[h]at this;cases this
theorem Cv(a:BL):∀ (w:List Pg),(bD (w.map F8) a=none/\(C5 w a).2=false/\(C5 w a).1=l9)\/(bD (w.map F8) a=some (nL (C5 w a).1)/\(C5 w a).2=true)
 | []=>.inl ⟨rfl,rfl,rfl⟩
 | p::r=>by
   simp only[Zbc,bD,C5,F8]
   by_cases h:p.addr=a
   simp[h]
   simp only[h,if_false]
   exact Cv a r
theorem Ik{s:BL}(h:(aC s).isSome=true):s.length<=60:=by
 by_cases hl:s.length<=60
 exact hl
 rw[wP hl]at h;simp at h
def nZ(e:Bool):BL->BL->Prop
 | [],t=>e=false\/t=[]
 | c::b,t=>if c=42 then ∃ k,nZ e b (t.drop k) else ∃ t',t=c::t'/\nZ e b t'
def rj(e:Bool):List BL->BL->Prop
 | [],t=>e=false\/t=[]
 | q::r,t=> ∃ k,q <+: t.drop k/\rj e r ((t.drop k).drop q.length)
def SP(e:Bool):List BL->BL->Prop
 | [],_=>False
 | q::r,t=>q <+: t/\rj e r (t.drop q.length)
theorem sU(c:UInt8):∀ l,an c l≠[]
 | []=>by simp[an]
 | b::l=>by unfold an;split <;> simp
theorem qC(e:Bool):∀ (b t:BL),nZ e b t↔SP e (an 42 b) t
 | [],t=>by simp[nZ,an,SP,rj]
 | c::b,t=>by
   unfold nZ an
   by_cases h:c=42
   simp only[h,if_true,SP,List.nil_prefix,true_and,Zas,List.drop_zero]
   cases hs:an 42 b with
   | nil=>exact absurd hs (sU 42 b)
   | cons q r=>
     simp only[rj]
     constructor
     rintro⟨k,hk⟩;have:=(qC e b _).1 hk;rw[hs]at this;exact⟨k,this⟩
     rintro⟨k,hk⟩;exact⟨k,(qC e b _).2 (by rw[hs];exact hk)⟩
   simp only[h,if_false]
   cases hs:an 42 b with
   | nil=>exact absurd hs (sU 42 b)
   | cons q r=>
     simp only[List.headD_cons,List.tail_cons,SP]
     constructor
     rintro⟨t',rfl,hk⟩
     have:=(qC e b _).1 hk;rw[hs]at this
     exact⟨List.cons_prefix_cons.2 ⟨rfl,this.1⟩,by simpa using this.2⟩
     rintro⟨h1,h2⟩
     cases t with
     | nil=>simp at h1
     | cons x t'=>
       obtain⟨rfl,h3⟩:=List.cons_prefix_cons.1 h1
       exact⟨t',rfl,(qC e b _).2 (by rw[hs];exact⟨h3,by simpa using h2⟩)⟩
theorem Hb{e:Bool}{ps:List BL}{t:BL}{m:Nat}(h:rj e ps (t.drop m))(hn:e=false\/ps≠[]):rj e ps t:=by
 cases ps with
 | nil=>exact hn.elim .inl (fun h=>absurd rfl h)
 | cons q r=>
   obtain⟨k,h1,h2⟩:=h
   have he:(t.drop m).drop k=t.drop (m+k):=List.drop_drop ..
   rw[he]at h1 h2
   exact⟨m+k,h1,h2⟩
def X8(s p:BL)(k:Nat):Prop:=k+p.length<=s.length/\(s.drop k).take p.length=p
theorem vS(s p:BL):∀ (n f:Nat),s.length+1-f<=n->(gj s p f<0->∀ k,f<=k->¬ X8 s p k)/\(0<=gj s p f->X8 s p (gj s p f).toNat/\f<=(gj s p f).toNat/\∀ k,f<=k->X8 s p k->(gj s p f).toNat<=k)
 | 0,f,hn=>by
   rw[gj,dif_neg Zaa]
   exact⟨fun _ k hk h=>by have:=h.1;omega,fun h=>by omega⟩
 | n+1,f,hn=>by
   rw[gj]
   by_cases h1:f+p.length<=s.length
   rw[dif_pos h1]
   by_cases h2:(s.drop f).take p.length=p
   rw[if_pos h2]
   exact⟨fun h=>by omega,fun _=>⟨⟨h1,h2⟩,Zab,fun k hk _=>by simpa using hk⟩⟩
   rw[if_neg h2]
   obtain⟨i1,i2⟩:=vS s p n (f+1) Zaa
   refine⟨fun h k hk ho=>?_,fun h=>?_⟩
   by_cases e:k=f
   subst e;exact h2 ho.2
   exact i1 h k Zaa ho
   obtain⟨j1,j2,j3⟩:=i2 h
   refine⟨j1,Zaa,fun k hk ho=>?_⟩
   by_cases e:k=f
   subst e;exact absurd ho.2 h2
   exact j3 k Zaa ho
   rw[dif_neg h1]
   exact⟨fun _ k hk h=>by have:=h.1;omega,fun h=>by omega⟩
theorem vw{p t:BL}:p <+: t↔p.length<=t.length/\t.take p.length=p:=by
 constructor
 intro h;exact⟨h.length_le,List.prefix_iff_eq_take.1 h |>.symm⟩
 rintro⟨_,h⟩;rw[<- h];exact List.take_prefix _ _
theorem go_sem(e:Bool)(s:BL):∀ (ps:List BL) (f:Nat),f<=s.length->(ly e s f ps=true↔rj e ps (s.drop f))
 | [],f,hf=>by
   simp only[ly,rj,Bool.or_eq_true,Bool.not_eq_true',Zbi,List.drop_eq_nil_iff]
   constructor
   rintro (h | h)
   exact .inl h
   exact .inr Zaa
   rintro (h | h)
   exact .inl h
   exact .inr Zaa
 | p::r,f,hf=>by
   unfold ly
   by_cases hc:(e&&r.isEmpty)=true
   rw[if_pos hc]
   simp only[Zam,List.isEmpty_iff]at hc
   obtain⟨rfl,rfl⟩:=hc
   simp only[Zam,Zbi,Zbj,rj,Bool.true_eq_false,false_or,List.drop_drop]
   constructor
   rintro⟨h1,h2⟩
   refine⟨s.length-p.length-f,?_,?_⟩
   rw[show f+(s.length-p.length-f)=s.length-p.length from Zaa,h2];exact List.prefix_refl _
   rw[Za6 Zaa]
   rintro⟨k,h1,h2⟩
   have hp:=vw.1 h1
   rw[List.length_drop]at hp
   have h2:=List.drop_eq_nil_iff.1 h2
   by_cases hk:f+k<=s.length
   refine⟨Zaa,?_⟩
   rw[show s.length-p.length=f+k from Zaa]
   rw[Zax (by rw[List.length_drop];omega)]at hp
   exact hp.2
   have:p=[]:=Za3 Zaa
   subst this
   simp;omega
   rw[if_neg hc]
   have hn:e=false\/r≠[]:=by
    cases e with
    | false=>exact .inl rfl
    | true=>exact .inr fun c=>hc (by rw[c];rfl)
   obtain⟨i1,i2⟩:=vS s p _ f (Zba _)
   have XE:∀ k,p <+: (s.drop f).drop k->∃ m,f<=m/\X8 s p m/\(s.drop f).drop k=s.drop m:=fun k h=>by
    have hp:=vw.1 h
    rw[List.drop_drop,List.length_drop]at hp
    by_cases hk:f+k<=s.length
    exact⟨f+k,Zaa,⟨Zaa,hp.2⟩,by rw[List.drop_drop]⟩
    have:p=[]:=Za3 Zaa
    subst this
    refine⟨s.length,hf,⟨Zab,Zab⟩,?_⟩
    rw[List.drop_drop,Za6 Zaa,Za6 Zaa]
   by_cases WM:gj s p f<0
   rw[if_pos WM]
   simp only[Bool.false_eq_true,false_iff]
   rintro⟨k,h1,h2⟩
   obtain⟨m,m1,m2,m3⟩:=XE k h1
   exact i1 WM m m1 m2
   rw[if_neg WM]
   obtain⟨j1,j2,j3⟩:=i2 Zaa
   rw[go_sem e s r _ j1.1]
   constructor
   intro h
   refine⟨(gj s p f).toNat-f,?_,?_⟩
   rw[List.drop_drop,show f+((gj s p f).toNat-f)=(gj s p f).toNat from Zaa]
   exact vw.2 ⟨by rw[List.length_drop];have:=j1.1;omega,j1.2⟩
   rw[List.drop_drop,List.drop_drop,show f+((gj s p f).toNat-f+p.length)=(gj s p f).toNat+p.length from Zaa];exact h
   rintro⟨k,h1,h2⟩
   obtain⟨m,m1,m2,m3⟩:=XE k h1
   have:=j3 m m1 m2
   rw[m3,List.drop_drop]at h2
   refine Hb (m:=m-(gj s p f).toNat) ?_ hn
   rw[List.drop_drop,show (gj s p f).toNat+p.length+(m-(gj s p f).toNat)=m+p.length from Zaa]
   exact h2
theorem It(p s:BL):ra p s=true↔nZ (fH p) (bU p) s:=by
 rw[qC]
 unfold ra
 cases hs:an 42 (bU p) with
 | nil=>exact absurd hs (sU 42 _)
 | cons q r=>
   simp only[List.headD_cons,List.tail_cons,Zam,List.isPrefixOf_iff_prefix,SP]
   constructor
   rintro⟨h1,h2⟩;exact⟨h1,(go_sem _ s r _ h1.length_le).1 h2⟩
   rintro⟨h1,h2⟩;exact⟨h1,(go_sem _ s r _ h1.length_le).2 h2⟩
def Qj(c:UInt8)(s:BL)(come:List Bool)(j:Nat):Bool:=if c=42 then (come.take (j+1)).any id else decide (0<j)&&(come.getD (j-1) false&&(s.getD (j-1) 0==c))
def nJ(s:BL)(come:List Bool)(c:UInt8):List Bool:=(List.range (s.length+1)).map (Qj c s come)
def we(s:BL):List Bool:=(List.replicate (s.length+1) false).set 0 true
def ln(s b:BL):List Bool:=b.foldl (nJ s) (we s)
theorem tq(s:BL)(come:List Bool)(c:UInt8):(nJ s come c).length=s.length+1:=by simp[nJ]
theorem AZ(s b:BL):(ln s b).length=s.length+1:=by
 have:∀ (b:BL) (come:List Bool),come.length=s.length+1->(b.foldl (nJ s) come).length=s.length+1:=by
  intro b;induction b with
  | nil=>intro come h;exact h
  | cons c b ih=>intro come _;exact ih _ (tq s come c)
 exact this b _ (by simp[we])
theorem nQ{s:BL}{come:List Bool}{c:UInt8}{j:Nat}(h:j<=s.length):(nJ s come c).getD j false=Qj c s come j:=by
 simp[nJ,Zak,List.getElem?_map,List.getElem?_range,Nat.lt_succ_of_le h]
def Ug(e:Bool)(s:BL)(come:List Bool)(b:BL):Prop:= ∃ j,j<=s.length/\come.getD j false=true/\nZ e b (s.drop j)
theorem vI{l:List Bool}{n:Nat}:(l.take n).any id=true↔∃ j,j<n/\l.getD j false=true:=by
 rw[List.any_eq_true]
 constructor
 rintro⟨x,hx,h⟩
 obtain⟨j,hj⟩:=List.mem_iff_getElem?.1 hx
 rw[List.getElem?_take]at hj
 split at hj
 rename_i hlt
 exact⟨j,hlt,by rw[Zak,hj];simpa using h⟩
 simp at hj
 rintro⟨j,hj,h⟩
 refine⟨true,?_,rfl⟩
 rw[List.mem_iff_getElem?]
 refine⟨j,?_⟩
 rw[List.getElem?_take,if_pos hj]
 rw[Zak]at h
 cases hl:l[j]? with
 | none=>rw[hl]at h;simp at h
 | some x=>rw[hl]at h;simp at h;rw[h]
theorem Iy{e:Bool}{s:BL}{come:List Bool}{c:UInt8}{b:BL}:Ug e s come (c::b)↔Ug e s (nJ s come c) b:=by
 unfold Ug
 constructor
 rintro⟨j,h1,h2,h3⟩
 unfold nZ at h3
 by_cases hc:c=42
 rw[if_pos hc]at h3
 obtain⟨k,h3⟩:=h3
 by_cases hk:j+k<=s.length
 refine⟨j+k,hk,?_,by rw[List.drop_drop]at h3;exact h3⟩
 rw[nQ hk,Qj,if_pos hc,vI]
 exact⟨j,Zaa,h2⟩
 refine⟨s.length,Zba _,?_,?_⟩
 rw[nQ (Zba _),Qj,if_pos hc,vI]
 exact⟨j,Zaa,h2⟩
 rw[List.drop_drop,Za6 Zaa]at h3
 rw[Za6 (Zba _)];exact h3
 rw[if_neg hc]at h3
 obtain⟨t',h3,h4⟩:=h3
 have hj:j<s.length:=by
  by_cases hj:j<s.length
  exact hj
  rw[Za6 Zaa]at h3;cases h3
 rw[drop_cons hj 0,List.cons.injEq]at h3
 refine⟨j+1,Zaa,?_,by rw[h3.2];exact h4⟩
 rw[nQ Zaa,Qj,if_neg hc]
 simp only[Nat.add_sub_cancel,h2,h3.1];simp
 rintro⟨j,h1,h2,h3⟩
 rw[nQ h1,Qj]at h2
 by_cases hc:c=42
 rw[if_pos hc,vI]at h2
 obtain⟨i,hi,h2⟩:=h2
 refine⟨i,Zaa,h2,?_⟩
 unfold nZ;rw[if_pos hc]
 exact⟨j-i,by rw[List.drop_drop,show i+(j-i)=j from Zaa];exact h3⟩
 rw[if_neg hc]at h2
 simp only[Zam,Zbi,Zbj]at h2
 obtain⟨h4,h5,h6⟩:=h2
 refine⟨j-1,Zaa,h5,?_⟩
 unfold nZ;rw[if_neg hc]
 refine⟨s.drop j,?_,h3⟩
 rw[drop_cons (by omega:j-1<s.length) 0,h6,show j-1+1=j from Zaa]
theorem Bt{e:Bool}{s:BL}:∀ (b:BL) {come:List Bool},Ug e s come b↔Ug e s (b.foldl (nJ s) come) []
 | [],come=>Iff.rfl
 | c::b,come=>by rw[Iy,List.foldl_cons];exact Bt b
theorem Nv{e:Bool}{s b:BL}:Ug e s (we s) b↔nZ e b s:=by
 unfold Ug we
 constructor
 rintro⟨j,h1,h2,h3⟩
 rw[Zak,List.getElem?_set]at h2
 split at h2
 rename_i h;rw[<- h]at h3;simpa using h3
 rw[List.getElem?_replicate]at h2;split at h2 <;> simp at h2
 intro h;exact⟨0,Nat.zero_le _,by simp[Zak],by simpa using h⟩
def Bj(p s:BL):Bool:=if fH p=true then (ln s (bU p)).getD s.length false else (ln s (bU p)).contains true
theorem Lc(p s:BL):Bj p s=ra p s:=by
 rw[Za4,It,<- Nv,Bt]
 show _↔Ug (fH p) s (ln s (bU p)) []
 unfold Bj Ug nZ
 cases fH p with
 | true=>
   simp only[if_true,Bool.true_eq_false,false_or,List.drop_eq_nil_iff]
   constructor
   intro h;exact⟨s.length,Zba _,h,Zba _⟩
   rintro⟨j,h1,h2,h3⟩;rw[show s.length=j from Zaa];exact h2
 | false=>
   simp only[Bool.false_eq_true,if_false,true_or,and_true,List.contains_iff_mem]
   have hl:=AZ s (bU p)
   constructor
   intro h
   obtain⟨j,hj⟩:=List.mem_iff_getElem?.1 h
   have:=(Za1.1 hj).1
   exact⟨j,Zaa,by rw[Zak,hj];rfl⟩
   rintro⟨j,h1,h2⟩
   rw[Zak]at h2
   cases hq:(ln s (bU p))[j]? with
   | none=>rw[hq]at h2;simp at h2
   | some x=>rw[hq]at h2;simp at h2;rw[h2]at hq;exact Za5 hq
theorem yh{p:BL}(h:1<=p.length):iY p [36]=fH p:=by
 unfold iY fH
 rw[Zbd,decide_eq_true h,Bool.true_and,drop_cons (by omega:p.length-1<p.length) 0,Za6 Zaa,Za4]
 simp only[Zbj,Zbi,List.cons.injEq,and_true]
 rw[<- UInt8.toNat_inj];rfl
theorem tN{p:BL}(h:1<=p.length):cQ p [36]=bU p:=by
 unfold cQ bU
 rw[yh h];rfl
theorem qs(p:BL):eD p=aI p:=by
 by_cases h:1<=p.length
 have hp36:jZ 36=false:=Zad
 unfold eD aI
 rw[tN h,Za4]
 simp only[Zam,Zbi]
 have key:(bU p).all jZ=true↔∀ j,j<p.length->mG p j=true:=by
  rw[Za0]
  unfold bU
  by_cases he:fH p=true
  rw[if_pos he]
  have he:(p.getD (p.length-1) 0).toNat=36:=by unfold fH at he;simpa using he
  constructor
  intro hx j hj
  unfold mG
  by_cases e:j=p.length-1
  rw[e,he,show decide (p.length-1+1=p.length)=true from decide_eq_true Zaa];simp
  have:p.getD j 0∈p.take (p.length-1):=by
   rw[List.mem_iff_getElem?]
   exact⟨j,by rw[List.getElem?_take,if_pos Zaa,Zak,Zar hj];rfl⟩
  rw[hx _ this];rfl
  intro hx x hm
  obtain⟨j,hj⟩:=List.mem_iff_getElem?.1 hm
  rw[List.getElem?_take]at hj
  split at hj
  rename_i hlt
  have Q1:=(Za1.1 hj).1
  have:=hx j Q1
  unfold mG at this
  rw[show decide (j+1=p.length)=false from decide_eq_false Zaa,Bool.and_false,Bool.or_false,Zak,hj]at this
  exact this
  simp at hj
  rw[if_neg he]
  have he: ¬ (p.getD (p.length-1) 0).toNat=36:=by unfold fH at he;simpa using he
  constructor
  intro hx j hj
  unfold mG
  have:p.getD j 0∈p:=by
   rw[List.mem_iff_getElem?]
   exact⟨j,by rw[Zak,Zar hj];rfl⟩
  rw[hx _ this];rfl
  intro hx x hm
  obtain⟨j,hj⟩:=List.mem_iff_getElem?.1 hm
  have Q1:=(Za1.1 hj).1
  have:=hx j Q1
  unfold mG at this
  have hg:p.getD j 0=x:=by rw[Zak,hj];rfl
  rw[hg]at this
  simp only[Bool.or_eq_true,Zam,Zbi]at this
  rcases this with h1 | ⟨h1,h2⟩
  exact h1
  exact absurd (by rw[show p.length-1=j from Zaa,hg];exact h1) he
 rw[key]
 constructor
 rintro⟨⟨h1,h2,h3⟩,h4⟩;exact⟨h1,h2,h3,h4⟩
 rintro⟨h1,h2,h3,h4⟩;exact⟨⟨h1,h2,h3⟩,h4⟩
 unfold eD aI
 rw[decide_eq_false (fun c=>h c.1),decide_eq_false (fun c=>h c.1)];rfl
def bZ:List Bool->Bool->Int
 | [],_=> -1
 | x::r,b=>if x=b then 0 else if bZ r b<0 then -1 else bZ r b+1
theorem jv:∀ {l:List Bool} {b:Bool} {i:Nat},i<l.length->l.getD i false=b->(∀ j,j<i->l.getD j false≠b)->bZ l b=i
 | [],_,_,h,_,_=>by simp at h
 | x::r,b,0,_,h,_=>by simp at h;simp[bZ,h]
 | x::r,b,i+1,hl,h,hn=>by
   have h0:x≠b:=by have:=hn 0 Zaa;simpa using this
   have:=jv (l:=r) (i:=i) (by simpa using hl) (by simpa using h) (fun j hj=>by have:=hn (j+1) Zaa;simpa using this)
   unfold bZ
   rw[if_neg h0,this,if_neg Zaa];simp
theorem iJ:∀ {l:List Bool} {b:Bool},(∀ j,j<l.length->l.getD j false≠b)->bZ l b= -1
 | [],_,_=>rfl
 | x::r,b,hn=>by
   have h0:x≠b:=by have:=hn 0 Zab;simpa using this
   have:=iJ (l:=r) (b:=b) (fun j hj=>by have:=hn (j+1) (by simpa using hj);simpa using this)
   unfold bZ
   rw[if_neg h0,this];rfl
theorem jf:∀ (l:List Bool) (b:Bool),decide (0<=bZ l b)=l.contains b
 | [],_=>rfl
 | x::r,b=>by
   have ih:=jf r b
   unfold bZ
   by_cases h:x=b
   subst h;simp
   rw[if_neg h,List.contains_cons,show (b==x)=false from by simp;exact fun c=>h c.symm,Bool.false_or,<- ih]
   congr 1
   apply propext
   split <;> omega
theorem GQ{s:BL}{come:List Bool}{j:Nat}(h:j<come.length):Qj 42 s come j=(come.getD j false||(decide (0<j)&&Qj 42 s come (j-1))):=by
 unfold Qj
 simp only[if_true]
 rw[bA h false,List.any_append]
 simp only[List.any_cons,List.any_nil,id,Bool.or_false]
 rw[Bool.or_comm]
 congr 1
 by_cases hj:0<j
 rw[show j-1+1=j from Zaa,decide_eq_true hj];rfl
 rw[show j=0 from Zaa];rfl
theorem Cz{l:List Bool}{i:Nat}{x:Bool}(h:i<l.length):(l.set i x).getD i false=x:=by
 simp[Zak,h]
theorem CX{l:List Bool}{i j:Nat}{x:Bool}(h:j≠i):(l.set i x).getD j false=l.getD j false:=by
 simp only[Zak,List.getElem?_set_ne (Ne.symm h)]
theorem IP{s:BL}{come nx:List Bool}{c:UInt8}(h1:nx.length=s.length+1)(h2:∀ j,j<s.length+1->nx.getD j false=Qj c s come j):nx=nJ s come c:=by
 apply List.ext_getElem?
 intro j
 by_cases hj:j<s.length+1
 have h3:=h2 j hj
 rw[<- nQ (by omega:j<=s.length) (come:=come) (c:=c)]at h3
 have hl:=tq s come c
 rw[Zak,Zak,Zar Zaa,Zar Zaa]at h3
 rw[Zar Zaa,Zar Zaa]
 simpa using h3
 have hl:=tq s come c
 rw[List.getElem?_eq_none Zaa,List.getElem?_eq_none Zaa]
theorem FW{s b:BL}{i:Nat}(h:i<b.length):ln s (b.take (i+1))=nJ s (ln s (b.take i)) (b.getD i 0):=by
 unfold ln;rw[bA h 0,List.foldl_append];rfl
theorem Gp{p:BL}(h:eD p=true):1<=p.length:=by
 unfold eD at h
 simp only[Zam,Zbi]at h;exact h.1.1
theorem EB{p s:BL}(h:eD p=false\/60<(s.length:Int)):cB p s=false:=by
 unfold cB
 rw[<- qs]
 rcases h with h | h
 rw[h];rfl
 rw[decide_eq_false Zaa];simp
theorem yp{p s:BL}(h:eD p=true/\(s.length:Int)<=60):cB p s=Bj p s:=by
 unfold cB
 rw[<- qs,h.1,decide_eq_true Zaa,Lc];rfl
inductive Ln where
 | none
 | caller (n:BL)
 | Rl (l:Bool) (p:BL)
 | wait (v:Nat)
def DY:Ln->Value
 | .none=>.nilIface
 | .caller n=>.iface 220 (.agg #[.string (Str n)])
 | .Rl l p=>.iface 222 (.agg #[.bool l,.string (Str p)])
 | .wait v=>.iface 225 (.agg #[.int .i64 (v:Int)])
def nA(gs:List l4)(b:Bool)(n:BL):List l4×Bool:=if gs=[]\/b=true then (gs++[⟨[n],[],0⟩],false) else (cS gs fun z=>⟨z.na++[n],z.ru,z.wa⟩,b)
def kZ(gs:List l4)(b:Bool)(l:Bool)(p:BL):List l4×Bool:=if gs=[] then (gs,b) else if jB gs<6 then (cS gs fun z=>⟨z.na,z.ru++[⟨l,p⟩],z.wa⟩,true) else (gs,true)
def nz(gs:List l4)(b:Bool)(v:Nat):List l4×Bool:=if gs=[] then (gs,b) else (cS gs fun z=>⟨z.na,z.ru,v⟩,true)
def iy(gs:List l4)(b:Bool):Ln->List l4×Bool
 | .none=>(gs,b)
 | .caller n=>nA gs b n
 | .Rl l p=>kZ gs b l p
 | .wait v=>nz gs b v
def gD(w r:BL):Ln:=if w=[99,97,108,108,101,114] then .caller r else if w=[108,101,116]\/w=[98,97,114] then .Rl (w==[108,101,116]) r else if w=[119,97,105,116] then .wait (kg r 20).toNat else .none
def jm(w r:BL):Bool:=if w=[99,97,108,108,101,114] then (r==[42])||aZ r else if w=[108,101,116]\/w=[98,97,114] then aI r else if w=[119,97,105,116] then true else false
def Jn(x:List l4×Bool):Prop:=0<jB x.1->x.2=true
def ox(x:List l4×Bool)(l:BL):List l4×Bool:=if jm (af 32 l).1 (af 32 l).2.1=true then iy x.1 x.2 (gD (af 32 l).1 (af 32 l).2.1) else x
theorem Ee{gs:List l4}{f:l4->l4}(h:gs≠[]):jB (cS gs f)=(f (gs.getLast h)).ru.length:=by
 obtain⟨z,hz⟩:=jL h
 subst hz
 rw[dv,ou];simp
theorem step_eq{x:List l4×Bool}(hJ:Jn x)(l:BL):ox x l=cf x l/\Jn (cf x l):=by
 obtain⟨gs,b⟩:=x
 unfold ox cf
 generalize (af 32 l).1=w
 generalize (af 32 l).2.1=r
 unfold ey
 simp only
 by_cases h1:w=[99,97,108,108,101,114]
 subst h1
 have e1:jm [99,97,108,108,101,114] r=((r==[42])||aZ r):=if_pos rfl
 have e2:gD [99,97,108,108,101,114] r=.caller r:=if_pos rfl
 rw[e1,e2]
 by_cases h2:r=[42]\/aZ r=true
 have h3:((r==[42])||aZ r)=true:=by simpa using h2
 rw[if_pos h3,if_pos ⟨rfl,h2⟩]
 simp only[iy,nA]
 by_cases h4:gs=[]\/b=true
 rw[if_pos h4,if_pos h4.symm]
 refine⟨rfl,?_⟩
 intro hc;simp[ou]at hc
 rw[if_neg h4,if_neg (fun c=>h4 c.symm)]
 have h5:gs≠[]/\b=false:=by simpa using h4
 refine⟨by rw[h5.2],?_⟩
 intro hc
 rw[Ee h5.1]at hc
 have:0<jB gs:=by
  unfold jB
  rw[List.getLast?_eq_some_getLast h5.1];exact hc
 have:=hJ this
 simp only at this
 rw[h5.2]at this;cases this
 have h3: ¬ ((r==[42])||aZ r)=true:=by simpa using h2
 rw[if_neg h3,if_neg (fun c=>h2 c.2)]
 have e3: ¬ (([99,97,108,108,101,114]:BL)=[108,101,116]\/([99,97,108,108,101,114]:BL)=[98,97,114]):=Zad
 by_cases h4:gs=[]
 rw[if_pos h4];exact⟨rfl,hJ⟩
 rw[if_neg h4,if_neg (fun c=>e3 c.1),if_neg Zad];exact⟨rfl,hJ⟩
 rw[if_neg (show ¬ (w=[99,97,108,108,101,114]/\(r=[42]\/aZ r=true)) from fun c=>h1 c.1)]
 by_cases h2:w=[108,101,116]\/w=[98,97,114]
 have e1:jm w r=aI r:=by unfold jm;rw[if_neg h1,if_pos h2]
 have e2:gD w r=.Rl (w==[108,101,116]) r:=by unfold gD;rw[if_neg h1,if_pos h2]
 have e3: ¬ w=[119,97,105,116]:=by rcases h2 with rfl | rfl <;> decide
 rw[e1,e2,if_neg e3]
 by_cases h4:gs=[]
 rw[if_pos h4]
 refine⟨?_,hJ⟩
 split
 simp only[iy,kZ];rw[if_pos h4]
 rfl
 rw[if_neg h4]
 by_cases h5:aI r=true
 rw[if_pos h5]
 simp only[iy,kZ]
 rw[if_neg h4]
 by_cases h6:jB gs<6
 rw[if_pos h6,if_pos ⟨h2,h5,h6⟩];exact⟨rfl,fun _=>rfl⟩
 rw[if_neg h6,if_neg (fun c=>h6 c.2.2)]
 have:=hJ (by simp only;omega)
 simp only at this
 rw[this];exact⟨rfl,fun _=>rfl⟩
 rw[if_neg h5,if_neg (fun c=>h5 c.2.1)];exact⟨rfl,hJ⟩
 by_cases h3:w=[119,97,105,116]
 have e1:jm w r=true:=by unfold jm;rw[if_neg h1,if_neg h2,if_pos h3]
 have e2:gD w r=.wait (kg r 20).toNat:=by unfold gD;rw[if_neg h1,if_neg h2,if_pos h3]
 rw[e1,e2,if_pos rfl]
 simp only[iy,nz]
 by_cases h4:gs=[]
 rw[if_pos h4,if_pos h4];exact⟨rfl,hJ⟩
 rw[if_neg h4,if_neg h4,if_neg (fun c=>h2 c.1),if_pos h3];exact⟨rfl,fun _=>rfl⟩
 have e1:jm w r=false:=by unfold jm;rw[if_neg h1,if_neg h2,if_neg h3]
 rw[e1,if_neg Zad]
 refine⟨?_,?_⟩
 split
 rfl
 first | rfl | (rw[if_neg (fun c=>h2 c.1)])
 split
 exact hJ
 first | exact hJ | (rw[if_neg (fun c=>h2 c.1)];exact hJ)
theorem fold_eq:∀ (ls:List BL) {x:List l4×Bool},Jn x->ls.foldl ox x=ls.foldl cf x
 | [],_,_=>rfl
 | l::ls,x,h=>by
   obtain⟨h1,h2⟩:=step_eq h l
   rw[List.foldl_cons,List.foldl_cons,h1];exact fold_eq ls h2
theorem yv(t:BL):(((an 10 t).take 40).foldl ox ([],false)).1=ct t:=by
 unfold ct
 rw[fold_eq _ (x:=([],false)) (by intro h;simp[jB]at h)]
theorem BX{l:List BL}{n:BL}:(l.any fun y=>y==n)=l.contains n:=by
 induction l with
 | nil=>rfl
 | cons a r ih=>rw[List.any_cons,List.contains_cons,ih,Bool.beq_comm]
theorem Ck(n:BL):∀ (gs:List l4) {x:(List r7×Nat)×Bool},(gs.foldl (bR n) x).2=(x.2||gs.any fun y=>y.na.contains n)
 | [],x=>by simp
 | g::gs,x=>by
   rw[List.foldl_cons,Ck n gs,List.any_cons]
   unfold bR
   rw[BX]
   split
   rename_i h;rw[h];simp
   rename_i h;simp only[Bool.not_eq_true]at h;rw[h];simp
theorem GO(gs:List l4)(n:BL):(Pv gs n).2=gs.any fun y=>y.na.contains n:=by
 unfold Pv;simp only;rw[Ck];simp
def lY(gs:List l4)(n:BL):BL:=if (gs.any fun y=>y.na.contains n)=true then n else [42]
theorem Ej(gs:List l4)(n:BL):(eU gs n).ru=(gs.foldl (bR (lY gs n)) (([],0),false)).1.1/\(eU gs n).wa=(gs.foldl (bR (lY gs n)) (([],0),false)).1.2:=by
 unfold eU lY
 rw[GO]
 split <;> exact⟨rfl,rfl⟩
theorem Bl{n:BL}{x:(List r7×Nat)×Bool}{g:l4}:(bR n x g).1=if g.na.contains n=true then (x.1.1++g.ru,max x.1.2 g.wa) else x.1:=by
 unfold bR
 rw[BX]
 split <;> rfl
theorem sC{α:Type}{l:List α}{d:α}{p:α->Prop}(h:∀ x,x∈l->p x)(hd:p d)(i:Nat):p (l.getD i d):=by
 rw[Zak]
 cases e:l[i]? with
 | none=>exact hd
 | some x=>exact h x (Za5 e)
section
variable {w w':World} {Pb Kb Pb':Nat->Prop} {N:Nat} {A A' B:AS} {a:Act} {F:m0->List Nat} {P:Program} {ops:Array Oper}
theorem gP{g o:Nat}{v:V}{vs:List V}{p:List Nat}:V.at g o (.agg (v::vs)) (0::p)=V.at g (o+0) v p:=rfl
theorem Cc{X:Type}{v:X->V}{d:Nat}{Sl Hl:List Nat}(h:d∈Sl)(fs:List Nat):Tk (fun x B=>AS.put B (some d) (v x)) fs Sl Hl where
 g:=fun g B t ht=>by rw[AS.aJ,if_neg (fun c=>ht (by rw[c];exact h))]
 h:=fun g B k hk=>rfl
 c:=fun g B B' hB=>oS hB
 p:=fun g B q v' hq _=>⟨fun q2=>by
  rw[AS.aJ,AS.aJ,AS.aJ,AS.aJ]
  by_cases c:q2=d
  subst c;rw[if_pos rfl,if_neg (fun c=>hq (by rw[<- c];exact h)),if_pos rfl]
  rw[if_neg c,if_neg c],fun k=>rfl⟩
 q:=fun g B k gv hq=>⟨fun _=>rfl,fun _=>rfl⟩
def boE:Eu P where
 X:=Nat
 pre N o A Sl _:=match o.op,o.dst with
  | .buildSlice T len e9,some d=>match tD P T with
    | some (.sl e)=>match ti P e,fK A 0 e9.toList with
      | some i,some vs=>match Tz P T e len i vs&&Nat.blt d N&&Nat.blt 0 len&&Sl.contains d with
        | true=>True
        | false=>False
      | _,_=>False
    | _=>False
  | _,_=>False
 U o A g B:=match o.op,o.dst with
   | .buildSlice T len e9,some d=>match tD P T with
     | some (.sl e)=>match ti P e,fK A 0 e9.toList with
       | some i,some vs=>B.put (some d) (.own i.sz vs g 0 len)
       | _,_=>B
     | _=>B
   | _,_=>B
 Xe:=by
  rintro N ⟨dst,op,ty,pos,after,D5⟩ A Sl Hl hp fs
  simp only at hp
  split at hp
  rename_i T len e9 d
  split at hp
  rename_i e e1
  split at hp
  rename_i i vs e2 e3
  split at hp
  rename_i e4
  simp only[Zam,Zbg,Zbi]at e4
  exact Cc (v:=fun g:Nat=>.own i.sz vs g 0 len) e4.2 fs
  exact hp.elim
  exact hp.elim
  exact hp.elim
  exact hp.elim
 ok:=by
  rintro N ⟨dst,op,ty,pos,after,D5⟩ A A' Sl Hl-hp hA hR
  simp only at hp
  split at hp
  rename_i T len e9 d
  split at hp
  rename_i e e1
  split at hp
  rename_i i vs e2 e3
  split at hp
  rename_i e4
  simp only[Zam]at e4
  have SN:fK A' 0 e9.toList=some vs:=by
   rw[ql e9.toList 0 fun t ht=>hA t (by simpa[Op.operands] using ht)];exact e3
  exact CY rfl rfl (bW e4.1.1.2) e1 e2 SN e4.1.1.1 (bW e4.1.2) fun g=>⟨g,by simp only[e1,e2,e3]⟩
  exact hp.elim
  exact hp.elim
  exact hp.elim
  exact hp.elim
theorem DL{X:Type}{v:X->V}{d k:Nat}{p:List Nat}{Sl Hl:List Nat}(h:d∈Sl)(hk:k∈Hl)(fs:List Nat):Tk (fun x B=>AS.put (AS.setAt B (.key k) p .b9) (some d) (v x)) fs Sl Hl where
 g:=fun g B t ht=>by rw[AS.aJ,if_neg (fun c=>ht (by rw[c];exact h))];exact cK
 h:=fun g B q hq=>vb (fun c=>hq (by rw[c];exact hk))
 c:=fun g B B' hB=>oS ⟨fun q=>by rw[cK,cK];exact hB.1 q,fun k=>jG hB.2⟩
 p:=fun g B q v' hq _=>⟨fun q2=>by
  rw[AS.aJ,AS.aJ,AS.aJ]
  by_cases c:q2=d
  subst c;rw[if_pos rfl,if_neg (fun c=>hq (by rw[<- c];exact h)),if_pos rfl]
  rw[if_neg c]
  by_cases c2:q2=q
  subst c2;rw[if_pos rfl,cK,AS.aJ,if_pos rfl]
  rw[if_neg c2,if_neg c,cK,cK,AS.aJ,if_neg c2],fun k=>jG fun _=>rfl⟩
 q:=fun g B q gv hq=>vz (sq (fun c=>hq (by rw[c];exact hk)))
def YL(k:Nat):List Nat->List Nat
 | i::_::_=>if Nat.blt i 100=true then [100*k+i] else []
 | _=>[]
theorem Jx{B:AS}{k q:Nat}{p:List Nat}{v:V}(h:q∈YL k p):Ov (B.setAt (.key k) p v).h q=Ov B.h q:=by
 unfold YL at h
 split at h
 rename_i i j r
 split at h
 rename_i hi
 have hi:i<100:=by simpa[Nat.blt_eq] using hi
 obtain rfl:q=100*k+i:=by simpa using h
 unfold AS.setAt
 simp only
 split
 rename_i g t e
 unfold Ov
 rw[show (100*k+i) / 100=k from Zaa,show (100*k+i) % 100=i from Zaa]
 simp only[lk,if_true,e]
 cases t with
 | agg vs=>
   cases hx:vs[i]? with
   | none=>simp only[V.set,hx]
   | some x=>
     have hl:i<vs.length:=(Za1.1 hx).1
     have ht:∀ y,(vs.set i y).take i=vs.take i:=fun y=>List.take_set_of_le (Zba _)
     simp only[V.set,hx,V.at,List.getElem?_set_self hl,ht]
     cases x with
     | own sz xs g1 o1 c=>
       simp only[V.set]
       cases hy:xs[j]? with
       | none=>rfl
       | some y=>simp only[List.length_set]
     | agg ws=>
       simp only[V.set]
       cases hy:ws[j]? with
       | none=>rfl
       | some y=>rfl
     | _=>simp only[V.set]
 | own sz xs g1 o1 c=>
   simp only[V.set]
   cases hx:xs[i]? with
   | none=>rfl
   | some x=>
     have hl:i<xs.length:=(Za1.1 hx).1
     simp only[V.at,hx,List.getElem?_set_self hl]
     cases x with
     | own sz xs g1 o1 c=>
       simp only[V.set]
       cases hy:xs[j]? with
       | none=>rfl
       | some y=>simp only[List.length_set]
     | agg ws=>
       simp only[V.set]
       cases hy:ws[j]? with
       | none=>rfl
       | some y=>rfl
     | _=>simp only[V.set]
 | _=>simp only[V.set]
 rfl
 cases h
 cases h
def YD(k:Nat)(p:List Nat)(xs ys:List V)(g0 o0 sz g o1 c:Nat):Eu P where
 X:=Nat×Nat×Nat
 pre N o A Sl Hl:=match o.op,o.dst with
  | .call ⟨.builtin .append,⟨[.tmp t0,x]⟩,⟨[T,T2]⟩⟩,some d=>match o.type==T&&Nat.blt d N&&Sl.contains d&&Hl.contains k,pb P T T2 with
    | true,some t=>match A.ev x with
      | .sl _ YF=>YF=ys/\A.get t0=.hd (.key k) p sz g o1 0 xs.length c/\A.at (.key k) p=some (g0,o0,.own sz xs g o1 c)/\sz=t.sz/\V.aK ys=false/\aM t.sz ys/\(xs.length+ys.length)*t.Od<=140737488355328
      | _=>False
    | _,_=>False
  | _,_=>False
 U o A gh B:=match o.dst with
   | some d=>(B.setAt (.key k) p .b9).put (some d) (.own sz (xs++ys) gh.1 gh.2.1 gh.2.2)
   | none=>B
 Xe:=by
  rintro N ⟨dst,op,ty,pos,after,D5⟩ A Sl Hl hp fs
  simp only at hp
  split at hp
  rename_i t0 x T T2 d
  split at hp
  rename_i t e1 e2
  simp only[Zam,Zbg,Zbi]at e1
  exact DL (v:=fun gh:Nat×Nat×Nat=>.own sz (xs++ys) gh.1 gh.2.1 gh.2.2) e1.1.2 e1.2 fs
  exact hp.elim
  exact hp.elim
 prom:=YL k p
 Z1:=by
  intro N o A Sl Hl _ q hq x B
  split
  exact Jx hq
  rfl
 ok:=by
  rintro N ⟨dst,op,ty,pos,after,D5⟩ A A' Sl Hl-hp hA hR
  simp only at hp
  split at hp
  rename_i t0 x T T2 d
  split at hp
  rename_i t e1 e2
  split at hp
  rename_i fl YF e3
  obtain⟨rfl,k1,k2,k3,k4,k5,k6⟩:=hp
  simp only[Zam,Zbj]at e1
  obtain⟨e,e',q1,q2,q3,q4,q5,q6⟩:=kj e2
  subst k3
  obtain⟨⟨⟨rfl,e5⟩,_⟩,_⟩:=e1
  have hx:A'.ev x=A.ev x:=bN fun t ht=>hA t (by subst ht;simp[Op.operands,Call.operands])
  have h0:A'.get t0=A.get t0:=hA t0 (by simp[Op.operands,Call.operands])
  refine Bd rfl rfl rfl (bW e5) q1 q2 q3 (nO q4) q5 q6 (by rw[h0];exact k1) (by simp only[AS.at,hR];simpa only[AS.at] using k2) rfl rfl (by unfold Qg;rw[hx,e3]) trivial k4 k5 k6 fun g o c=>⟨(g,o,c),rfl⟩
  exact hp.elim
  exact hp.elim
  exact hp.elim
end
def Ge(s:BL)(c:UInt8):o6 Tryz.prog:={ f:=168,args:=[sV s,sV [c]],pre:=True,res:=iV (Lib.indexByte s c),ok:=fun _=>KU s c }
def Jm(s:BL):o6 Tryz.prog:={ f:=142,args:=[sV s,sV [47,63]],pre:=(s.length<=1000000)/\(∀ c,c∈s->c.toNat<128),res:=iV (Lib.indexAny s [47,63]),ok:=fun h=>MG s h.1 h.2 }
def Ft(l:List BL)(sep:BL):o6 Tryz.prog:={ f:=132,args:=[ao l,sV sep],pre:=(l.length<=1000000)/\((Lib.join l sep).length<=1000000),res:=sV (Lib.join l sep),ok:=fun h=>Ka false l sep h.1 h.2 }
def nt(l:List BL)(x:BL):o6 Tryz.prog:={ f:=59,args:=[ao l,sV x],pre:=(l.length<=1000000),res:=bV (l.contains x),ok:=fun h=>LD false l x h }
def Dd(s:BL)(c:UInt8):o6 Tryz.prog:={ f:=180,args:=[sV s,sV [c],iV 0,iV (-1)],pre:=(s.length<=1000000),res:=.sl true ((dI c s).map sV),ok:=fun h=>Ho s c h }
def jI(l:List BL):o6 Tryz.prog:={ f:=40,args:=[ao l],pre:=(l.length<=1000000),res:=.ow 1 (l.map sV),ok:=fun h=>Hr false l h }
def zB(b:UInt8):o6 Tryz.prog:={ f:=198,args:=[uN b.toNat],pre:=True,res:=.tup [iV (max (cU b) 0),bV (decide (0<=cU b))],ok:=fun _=>Mi b }
abbrev qu(s:BL)(c:UInt8):V:=.tup [sV ((af c s).1),sV ((af c s).2.1),bV ((af c s).2.2)]
def Cq(s:BL)(c:UInt8):o6 Tryz.prog:=.mk 140 [sV s,sV [c]] [] (s.length<=1000000) (qu s c) [] (by
 intro hs
 have Pj:([c]:BL).length=1:=rfl
 refine aB (N:=23) (rs:=[.tmp 4,.tmp 5,.tmp 6]) Tryz.func140
  (.q 3<|.q 2<|.c (Ge s c) []<|.q 1<|.q 2<|.br (.dx 10 [0,1,2,3,4,5,6,7,8,9] [] []<|.q 1<|.q 1<|.q 1<|.q 1<|.q 1<|.q 1<|.q 1<|.q 1<|.q 1<|.q 1<|.q 2<|.nil) (.q 4<|.nil))
  ((fun v1:Int=>((Ge s c).sm/\(True)/\Br (A8 (Lib.indexByte s c) 0) (Sx (0:Int) (Lib.indexByte s c) s/\m8 ((Lib.indexByte s c)+v1)/\Sx ((Lib.indexByte s c)+v1) (s.length:Int) s/\Q (.tup [sV ((s.take (Int.toNat (Lib.indexByte s c))).drop ((0:Int).toNat)),sV ((s.take s.length).drop (Int.toNat ((Lib.indexByte s c)+v1))),bV true]) (qu s c)) (Q (.tup [sV s,sV [],bV false]) (qu s c)))) ((([c]:BL).length:Nat):Int)) ?_
 refine⟨rfl,trivial,?_⟩
 refine bI (fun l3=>?_) fun l3=>?_
 have hlt:=Mm s c l3
 refine⟨Zaa,Zaa,Zaa,?_⟩
 unfold Q qu
 rw[Hz l3,Pj,show (Lib.indexByte s c+((1:Nat):Int)).toNat=(Lib.indexByte s c).toNat+1 from Zaa,List.take_length];rfl
 unfold Q qu
 rw[JB Zaa])
abbrev Dr(s:BL)(c:UInt8):V:=.tup [sV ((af c s).1),sV ((af c s).2.1),bV ((af c s).2.2)]
def pP(s:BL)(c:UInt8):o6 Tryz.prog:=.mk 113 [sV s,sV [c]] [] (s.length<=1000000) (Dr s c) [] (by
 intro hs
 refine aB (N:=13) (rs:=[.tmp 4,.tmp 5,.tmp 6]) Tryz.func113
  (.q 3<|.q 2<|.c (Cq s c) []<|.q 6<|.nil)
  ((Cq s c).sm/\((s.length<=1000000))/\Q (.tup [sV ((af c s).1),sV ((af c s).2.1),bV ((af c s).2.2)]) (Dr s c)) ?_
 refine⟨rfl,Zae,?_⟩
 unfold Q Dr
 rfl)
def qY(s:BL)(c:UInt8):o6 Tryz.prog:=.mk 153 [sV s,sV [c]] [] (s.length<=1000000) (.sl true ((an c s).map sV)) [] (by
 intro hs
 refine aB (N:=8) (rs:=[.tmp 4]) Tryz.func153
  (.q 1<|.q 2<|.c (Dd s c) []<|.q 1<|.nil)
  ((Dd s c).sm/\((s.length<=1000000))/\Q (.sl true ((dI c s).map sV)) (.sl true ((an c s).map sV))) ?_
 refine⟨rfl,Zae,?_⟩
 unfold Q
 rw[zX])
theorem Lw(n:Nat):(.lit (.int .u8 (Int.fdiv (n:Int) (2 ^ 4))):V)=.lit (.int .u8 ((n / 16:Nat):Int)):=by
 congr 2;rw[Int.fdiv_eq_ediv_of_nonneg _ Zad];omega
theorem Js(n:Nat):(.lit (.int .u8 ((n &&& 15:Nat):Int)):V)=.lit (.int .u8 ((n % 16:Nat):Int)):=by
 congr 3;exact Nat.and_two_pow_sub_one_eq_mod n 4
def kL(s:BL):o6 Tryz.prog:=.mk 144 [sV s] [] (s.length<=1099511627776) (sV (bm s)) [] (by
 intro hs
 refine aB (N:=29) (rs:=[.tmp 2]) Tryz.func144
  (.q 1<|.q 1<|.sb s (fun g7 c7=>.q 1<|.q 3<|.loop (Nat×BL×Nat×Nat) (fun (i,l,g,k)=>⟨[(3,.own 1 (l.map n7) g 0 k),(8,.hd (.slot 3) [] 1 g 0 0 ((l.map n7).length) k),(9,iN s.length),(10,iN i)],[]⟩) (fun (i,l,g,k)=>i<=s.length/\l.length=s.length/\l=bm (s.take i)++s.drop i) (fun (i,l,g,k)=>s.length-i) (fun (i,l,g,k)=>.q 1<|.br (.r 5 [uN ((l.getD i 0).toNat)]<|.q 6<|.br (.q 4<|.h (.n8 24 (uN ((eM (l.getD i 0)).toNat)))<|.q 1<|.st (some (uN ((l.getD i 0).toNat)))<|.h (.n8 3 (.own 1 ((l.set i (eM (l.getD i 0))).map n7) g 0 k))<|.q 2<|.nil) (.q 2<|.nil)) (.q 1<|.Od l<|.q 1<|.nil))))
  (((sV s:V)=sV s)/\∀ g7 c7:Nat,(∃ x:Nat×BL×Nat×Nat,match x with | (j7,Pr,C9,s7)=>(j7<=s.length/\Pr.length=s.length/\Pr=bm (s.take j7)++s.drop j7)/\Q (.own 1 (s.map n7) g7 0 c7) (.own 1 (Pr.map n7) C9 0 s7)/\Q (.hd (.slot 3) [] 1 g7 0 0 ((s.map n7).length) c7) (.hd (.slot 3) [] 1 C9 0 0 ((Pr.map n7).length) s7)/\Q (iN ((s.map n7).length)) (iN s.length)/\Q (iN 0) (iN j7)/\True)/\∀ x:Nat×BL×Nat×Nat,match x with | (i,l,g,k)=>(i<=s.length/\l.length=s.length/\l=bm (s.take i)++s.drop i)->(fun v1:Int=>(fun v2:V=>Br (r8 (i:Int) (s.length:Int)) (In (i:Int) ((l.map n7).length)/\(V.at g 0 v2 [0+i]=some (g,(0+(0+i)*1),uN ((l.getD i 0).toNat)))/\Pk (A8 v1 65) ((A8 v1 65)==true) true/\Br ((A8 v1 65)&&(E5 v1 90)) (Rh (v1+32)/\((uN (((l.getD i 0).toNat)+32):V)=uN ((eM (l.getD i 0)).toNat))/\In (i:Int) ((l.map n7).length)/\(V.at g 0 v2 [0+i]=some (g,(0+(0+i)*1),uN ((l.getD i 0).toNat)))/\(V.set v2 [0+i] (uN ((eM (l.getD i 0)).toNat))=.own 1 ((l.set i (eM (l.getD i 0))).map n7) g 0 k)/\m8 ((i:Int)+1)/\∃ x:Nat×BL×Nat×Nat,match x with | (c9,G6,u7,k₂)=>(c9<=s.length/\G6.length=s.length/\G6=bm (s.take c9)++s.drop c9)/\(s.length-c9<s.length-i)/\Q (.own 1 ((l.set i (eM (l.getD i 0))).map n7) g 0 k) (.own 1 (G6.map n7) u7 0 k₂)/\Q (.hd (.slot 3) [] 1 g 0 0 ((l.map n7).length) k) (.hd (.slot 3) [] 1 u7 0 0 ((G6.map n7).length) k₂)/\E (iN s.length)/\Q (iN (i+1)) (iN c9)/\True) (m8 ((i:Int)+1)/\∃ x:Nat×BL×Nat×Nat,match x with | (c9,G6,u7,k₂)=>(c9<=s.length/\G6.length=s.length/\G6=bm (s.take c9)++s.drop c9)/\(s.length-c9<s.length-i)/\Q v2 (.own 1 (G6.map n7) u7 0 k₂)/\Q (.hd (.slot 3) [] 1 g 0 0 ((l.map n7).length) k) (.hd (.slot 3) [] 1 u7 0 0 ((G6.map n7).length) k₂)/\E (iN s.length)/\Q (iN (i+1)) (iN c9)/\True)) (((1=1/\g=g/\0=0)/\0+((l.map n7).length)<=(l.map n7).length/\V.aK (l.map n7)=false/\aM 1 (l.map n7))/\(((l.map n7).drop 0).take ((l.map n7).length)=l.map n7)/\Q (sV l) (sV (bm s)))) (.own 1 (l.map n7) g 0 k)) (((l.getD i 0).toNat:Nat):Int)) ?_
 refine⟨rfl,?_⟩
 intro g7 c7
 refine⟨⟨(0,s,g7,c7),?_,rfl,rfl,Zaf,rfl,trivial⟩,?_⟩
 simp[bm]
 rintro⟨i,l,g,k⟩ ⟨h1,h2,h3⟩
 have hbi:=(l.getD i 0).toNat_lt
 refine bI (fun l3=>?_) fun l3=>?_
 refine⟨Zah,ig (by rw[Zau];exact aq (d:=0) Zaa),⟨fun h=>by rw[h] <;> rfl,fun _=>rfl⟩,?_⟩
 refine bI (fun l6=>?_) fun l6=>?_
 refine⟨by have:=Zbb (l.getD i 0);omega,(Zbk uN (zg Zaa).symm),Zah,ig (by rw[Zau];exact aq (d:=0) Zaa),pw (by rw[Zau];exact aq (d:=0) Zaa) (by rw[Zau];exact(List.map_set ..).symm),Zaa,?_⟩
 refine⟨(i+1,l.set i (eM (l.getD i 0)),g,k),?_,?_,rfl,Zaf,rfl,rfl,trivial⟩
 refine⟨Zaa,by simp[h2],?_⟩
 exact yH Zaa h3
 exact Zai
 refine⟨Zaa,?_⟩
 refine⟨(i+1,l,g,k),?_,?_,rfl,rfl,rfl,rfl,trivial⟩
 refine⟨Zaa,h2,?_⟩
 exact wN Zaa h3 Zaa
 exact Zai
 refine⟨⟨⟨rfl,rfl,rfl⟩,Zab,qv _,tO _⟩,by simp[Zax],?_⟩
 unfold Q
 rw[h3,Za6 Zaa,Zax Zaa,List.append_nil])
def xl(s:BL)(i:Nat):o6 Tryz.prog:=.mk 184 [sV s,iN i] [] ((s.length<=1000000)/\(i<s.length)) (.tup [uN ((dD s i).toNat),bV (ko s i)]) [] (by
 rintro⟨hs,hi⟩
 have q1:=hZ (s.getD (i+1) 0)
 have q2:=hZ (s.getD (i+2) 0)
 have q3:=jK (s.getD (i+1) 0)
 have q4:=jK (s.getD (i+2) 0)
 refine aB (N:=42) (rs:=[.tmp 4,.tmp 5]) Tryz.func184
  (.q 2<|.q 5<|.br (.q 2<|.nil) (.q 4<|.c (zB (s.getD (i+1) 0)) []<|.q 5<|.q 4<|.c (zB (s.getD (i+2) 0)) []<|.q 5<|.q 6<|.br (.q 2<|.nil) (.q 7<|.nil)))
  ((fun v1:V=>(fun v2:Bool=>(m8 ((s.length:Int)-(i:Int))/\Br (r8 ((s.length:Int)-(i:Int)) 3) (Q (.tup [uN 0,bV false]) v1) (m8 ((i:Int)+1)/\Ix ((i+1:Nat):Int) s/\(zB (s.getD (i+1) 0)).sm/\(True)/\m8 ((i:Int)+2)/\Ix ((i+2:Nat):Int) s/\(zB (s.getD (i+2) 0)).sm/\(True)/\Pk v2 true (v2==false)/\Br (v2||(!(decide (0<=cU (s.getD (i+2) 0))))) (Q (.tup [uN 0,bV false]) v1) (m8 ((max (cU (s.getD (i+1) 0)) 0)*16)/\m8 (((max (cU (s.getD (i+1) 0)) 0)*16)+(max (cU (s.getD (i+2) 0)) 0))/\Rh (((max (cU (s.getD (i+1) 0)) 0)*16)+(max (cU (s.getD (i+2) 0)) 0))/\Q (.tup [.lit (.int .u8 (((max (cU (s.getD (i+1) 0)) 0)*16)+(max (cU (s.getD (i+2) 0)) 0))),bV true]) v1)))) (!(decide (0<=cU (s.getD (i+1) 0))))) (.tup [uN ((dD s i).toNat),bV (ko s i)])) ?_
 refine⟨Zaa,?_⟩
 refine bI (fun l3=>?_) fun l3=>?_
 unfold Q
 have h:ko s i=false:=by rw[<- Bool.not_eq_true,jw];omega
 rw[Ba h,h];rfl
 refine⟨Zaa,Zaa,rfl,trivial,Zaa,Zaa,rfl,trivial,⟨fun _=>rfl,fun h=>by rw[h] <;> rfl⟩,?_⟩
 refine bI (fun l6=>?_) fun l6=>?_
 unfold Q
 have h:ko s i=false:=by
  rw[<- Bool.not_eq_true,jw];grind
 rw[Ba h,h];rfl
 refine⟨by have:=hZ (s.getD (i+1) 0);have:=jK (s.getD (i+1) 0);omega,by have:=hZ (s.getD (i+1) 0);have:=jK (s.getD (i+1) 0);have:=hZ (s.getD (i+2) 0);have:=jK (s.getD (i+2) 0);omega,by have:=hZ (s.getD (i+1) 0);have:=jK (s.getD (i+1) 0);have:=hZ (s.getD (i+2) 0);have:=jK (s.getD (i+2) 0);omega,?_⟩
 unfold Q
 have h:ko s i=true:=by
  rw[jw];grind
 have h1:=jw.1 h
 have h2:=vO h1.2.1 h1.2.2
 rw[sP h,h]
 show V.tup [.lit (.int .u8 _),_]=V.tup [.lit (.int .u8 _),_]
 rw[h2,Int.max_eq_left h1.2.1,Int.max_eq_left h1.2.2])
def kW(s:BL):o6 Tryz.prog:=.mk 159 [sV s] [] (s.length<=1000000) (.tup [sV ((cw s).1),bV ((cw s).2)]) [] (by
 intro hs
 have hf16:([48,49,50,51,52,53,54,55,56,57,65,66,67,68,69,70]:BL).length=16:=rfl
 refine aB (N:=51) (rs:=[.tmp 2,.tmp 3]) Tryz.func159
  ((fun y1:BL=>(.q 2<|.q 3<|.br (.q 2<|.nil) (.q 1<|.q 1<|.h (.H9 4 1)<|.loop (Nat×BL×Nat×Nat×Nat) (fun (i,o,g,f,k)=>⟨[(0,sV s),(4,.own 1 (o.map n7) g f k),(5,iN i)],[]⟩) (fun (i,o,g,f,k)=>i<=s.length/\o.length<=3*i/\cn s=(cn (s.drop i)).map (o++ ·)) (fun (i,o,g,f,k)=>s.length-i) (fun (i,o,g,f,k)=>.q 4<|.br (.q 4<|.q 2<|.br (.q 2<|.c (xl s i) []<|.q 5<|.q 2<|.br (.q 2<|.nil) (.q 2<|.q 3<|.q 1<|.c (mT (dD s i)) []<|.br (.q 2<|.bs<|.ap (fun Pm QO Re=>.h (.n8 39 (.own 1 ((o++[(dD s i)]).map n7) Pm QO Re))<|.q 1<|.q 3<|.nil)) (.dx 8 [0,1,2,3,4,5,6,7] [] []<|.q 1<|.q 1<|.q 1<|.h (.n8 42 (uN ((dD s i).toNat / 16)))<|.q 1<|.q 1<|.q 1<|.h (.n8 45 (uN ((dD s i).toNat % 16)))<|.q 1<|.bs<|.ap (fun N9 N4 Oa=>.h (.n8 48 (.own 1 ((o++[37,(y1.getD ((dD s i).toNat / 16) 0),(y1.getD ((dD s i).toNat % 16) 0)]).map n7) N9 N4 Oa))<|.q 1<|.q 3<|.nil)))) (.q 1<|.c (mT (s.getD i 0)) []<|.br (.q 2<|.bs<|.ap (fun Pm QO Re=>.h (.n8 39 (.own 1 ((o++[(s.getD i 0)]).map n7) Pm QO Re))<|.q 1<|.q 3<|.nil)) (.dx 8 [0,1,2,3,4,5,6,7] [] []<|.q 1<|.q 1<|.q 1<|.h (.n8 42 (uN ((s.getD i 0).toNat / 16)))<|.q 1<|.q 1<|.q 1<|.h (.n8 45 (uN ((s.getD i 0).toNat % 16)))<|.q 1<|.bs<|.ap (fun N9 N4 Oa=>.h (.n8 48 (.own 1 ((o++[37,(y1.getD ((s.getD i 0).toNat / 16) 0),(y1.getD ((s.getD i 0).toNat % 16) 0)]).map n7) N9 N4 Oa))<|.q 1<|.q 3<|.nil)))) (.q 1<|.Od o<|.q 2<|.nil))):Sc Tryz.prog)) ([48,49,50,51,52,53,54,55,56,57,65,66,67,68,69,70]:BL))
  ((fun v1:BL=>(fun v2:V=>(Br (w3 (s.length:Int) 60) (Q (.tup [sV [],bV false]) v2) ((∃ x:Nat×BL×Nat×Nat×Nat,match x with | (j7,x9,C9,B8,s7)=>(j7<=s.length/\x9.length<=3*j7/\cn s=(cn (s.drop j7)).map (x9++ ·))/\E (sV s)/\Q (.own 1 ([].map n7) 0 0 0) (.own 1 (x9.map n7) C9 B8 s7)/\Q (iN 0) (iN j7)/\True)/\∀ x:Nat×BL×Nat×Nat×Nat,match x with | (i,o,g,f,k)=>(i<=s.length/\o.length<=3*i/\cn s=(cn (s.drop i)).map (o++ ·))->(fun v3:List V=>(fun v4:List V=>(fun v5:List V=>(fun v6:List V=>(fun v7:Int=>(fun v8:Int=>Br (r8 (i:Int) (s.length:Int)) (Ix (i:Int) s/\Br (r6 v7 37) ((xl s i).sm/\((s.length<=1000000)/\(i<s.length))/\Br (!(ko s i)) (Q (.tup [sV [],bV false]) v2) (m8 ((i:Int)+2)/\(mT (dD s i)).sm/\(True)/\Br (eW (dD s i)) (((1,1,g,f,k,(o.map n7).length)=(1,1,g,f,k,(o.map n7).length))/\(True)/\(V.aK v6=false)/\(aM 1 v6)/\(((o.map n7).length+v6.length)*1<=140737488355328)/\∀ Pm QO Re:Nat,((.own 1 ((o.map n7)++v6) Pm QO Re:V)=.own 1 ((o++[(dD s i)]).map n7) Pm QO Re)/\m8 (((i+2:Nat):Int)+1)/\∃ x:Nat×BL×Nat×Nat×Nat,match x with | (c9,m6,u7,r9,k₂)=>(c9<=s.length/\m6.length<=3*c9/\cn s=(cn (s.drop c9)).map (m6++ ·))/\(s.length-c9<s.length-i)/\E (sV s)/\Q (.own 1 ((o++[(dD s i)]).map n7) Pm QO Re) (.own 1 (m6.map n7) u7 r9 k₂)/\Q (iN ((i+2)+1)) (iN c9)/\True) (((0:Int)<=4/\(4:Int)<((8:Nat):Int))/\Q (.lit (.int .u8 (Int.fdiv v8 (2 ^ 4)))) (uN ((dD s i).toNat / 16))/\Ix (((dD s i).toNat / 16:Nat):Int) v1/\((0:Int)<=v8/\(0:Int)<=15/\Rh v8/\Rh 15)/\Q (uN (((dD s i).toNat) &&& 15)) (uN ((dD s i).toNat % 16))/\Ix (((dD s i).toNat % 16:Nat):Int) v1/\((1,1,g,f,k,(o.map n7).length)=(1,1,g,f,k,(o.map n7).length))/\(True)/\(V.aK v4=false)/\(aM 1 v4)/\(((o.map n7).length+v4.length)*1<=140737488355328)/\∀ N9 N4 Oa:Nat,((.own 1 ((o.map n7)++v4) N9 N4 Oa:V)=.own 1 ((o++[37,(v1.getD ((dD s i).toNat / 16) 0),(v1.getD ((dD s i).toNat % 16) 0)]).map n7) N9 N4 Oa)/\m8 (((i+2:Nat):Int)+1)/\∃ x:Nat×BL×Nat×Nat×Nat,match x with | (c9,m6,u7,r9,k₂)=>(c9<=s.length/\m6.length<=3*c9/\cn s=(cn (s.drop c9)).map (m6++ ·))/\(s.length-c9<s.length-i)/\E (sV s)/\Q (.own 1 ((o++[37,(v1.getD ((dD s i).toNat / 16) 0),(v1.getD ((dD s i).toNat % 16) 0)]).map n7) N9 N4 Oa) (.own 1 (m6.map n7) u7 r9 k₂)/\Q (iN ((i+2)+1)) (iN c9)/\True))) ((mT (s.getD i 0)).sm/\(True)/\Br (eW (s.getD i 0)) (((1,1,g,f,k,(o.map n7).length)=(1,1,g,f,k,(o.map n7).length))/\(True)/\(V.aK v5=false)/\(aM 1 v5)/\(((o.map n7).length+v5.length)*1<=140737488355328)/\∀ Pm QO Re:Nat,((.own 1 ((o.map n7)++v5) Pm QO Re:V)=.own 1 ((o++[(s.getD i 0)]).map n7) Pm QO Re)/\m8 ((i:Int)+1)/\∃ x:Nat×BL×Nat×Nat×Nat,match x with | (c9,m6,u7,r9,k₂)=>(c9<=s.length/\m6.length<=3*c9/\cn s=(cn (s.drop c9)).map (m6++ ·))/\(s.length-c9<s.length-i)/\E (sV s)/\Q (.own 1 ((o++[(s.getD i 0)]).map n7) Pm QO Re) (.own 1 (m6.map n7) u7 r9 k₂)/\Q (iN (i+1)) (iN c9)/\True) (((0:Int)<=4/\(4:Int)<((8:Nat):Int))/\Q (.lit (.int .u8 (Int.fdiv v7 (2 ^ 4)))) (uN ((s.getD i 0).toNat / 16))/\Ix (((s.getD i 0).toNat / 16:Nat):Int) v1/\((0:Int)<=v7/\(0:Int)<=15/\Rh v7/\Rh 15)/\Q (uN (((s.getD i 0).toNat) &&& 15)) (uN ((s.getD i 0).toNat % 16))/\Ix (((s.getD i 0).toNat % 16:Nat):Int) v1/\((1,1,g,f,k,(o.map n7).length)=(1,1,g,f,k,(o.map n7).length))/\(True)/\(V.aK v3=false)/\(aM 1 v3)/\(((o.map n7).length+v3.length)*1<=140737488355328)/\∀ N9 N4 Oa:Nat,((.own 1 ((o.map n7)++v3) N9 N4 Oa:V)=.own 1 ((o++[37,(v1.getD ((s.getD i 0).toNat / 16) 0),(v1.getD ((s.getD i 0).toNat % 16) 0)]).map n7) N9 N4 Oa)/\m8 ((i:Int)+1)/\∃ x:Nat×BL×Nat×Nat×Nat,match x with | (c9,m6,u7,r9,k₂)=>(c9<=s.length/\m6.length<=3*c9/\cn s=(cn (s.drop c9)).map (m6++ ·))/\(s.length-c9<s.length-i)/\E (sV s)/\Q (.own 1 ((o++[37,(v1.getD ((s.getD i 0).toNat / 16) 0),(v1.getD ((s.getD i 0).toNat % 16) 0)]).map n7) N9 N4 Oa) (.own 1 (m6.map n7) u7 r9 k₂)/\Q (iN (i+1)) (iN c9)/\True))) (((1=1/\g=g/\f=f)/\0+((o.map n7).length)<=(o.map n7).length/\V.aK (o.map n7)=false/\aM 1 (o.map n7))/\(((o.map n7).drop 0).take ((o.map n7).length)=o.map n7)/\Q (.tup [sV o,bV true]) v2)) (((dD s i).toNat:Nat):Int)) (((s.getD i 0).toNat:Nat):Int)) ([uN ((dD s i).toNat)]:List V)) ([uN ((s.getD i 0).toNat)]:List V)) ([uN 37,uN ((v1.getD ((dD s i).toNat / 16) 0).toNat),uN ((v1.getD ((dD s i).toNat % 16) 0).toNat)]:List V)) ([uN 37,uN ((v1.getD ((s.getD i 0).toNat / 16) 0).toNat),uN ((v1.getD ((s.getD i 0).toNat % 16) 0).toNat)]:List V)))) (.tup [sV ((cw s).1),bV ((cw s).2)])) ([48,49,50,51,52,53,54,55,56,57,65,66,67,68,69,70]:BL)) ?_
 refine bI (fun l3=>?_) fun l3=>?_
 unfold Q
 rw[show cw s=([],false) from if_neg Zaa]
 refine⟨⟨(0,[],0,0,0),?_,rfl,rfl,rfl,trivial⟩,?_⟩
 refine⟨Zaa,Zab,?_⟩
 cases h:cn s <;> simp[h]
 rintro⟨i,o,g,f,k⟩ ⟨hi,ho,Ou⟩
 refine bI (fun l6=>?_) fun l6=>?_
 refine⟨Zaa,?_⟩
 refine bI (fun n0=>?_) fun n0=>?_
 refine⟨rfl,⟨Zae,Zae⟩,?_⟩
 refine bI (fun x7=>?_) fun x7=>?_
 unfold Q
 rw[show cw s=([],false) from by unfold cw;rw[Ou,Aj Zaa Zaa (by have:=jw (s:=s) (i:=i);grind)];simp]
 refine⟨Zaa,rfl,trivial,?_⟩
 refine bI (fun I4=>?_) fun I4=>?_
 refine⟨rfl,trivial,rfl,by simp[aM,V.n,V.ns],Zaj,?_⟩
 intro Pm QO Re
 refine⟨Zbk (V.own 1 · Pm QO Re) (by rw[Za9];rfl),Zaa,?_⟩
 refine⟨((i+2)+1,o++[(dD s i)],Pm,QO,Re),?_,?_,rfl,rfl,rfl,trivial⟩
 have sg:=jw.1 x7
 rw[sP x7]at *
 have he:fI (dG (s.getD (i+1) 0) (s.getD (i+2) 0))=[(dG (s.getD (i+1) 0) (s.getD (i+2) 0))]:=by unfold fI;rw[if_pos I4]
 have hl:=fO (dG (s.getD (i+1) 0) (s.getD (i+2) 0))
 rw[he]at hl
 refine⟨Zaa,Zaj,?_⟩
 rw[Ou,rv Zaa Zaa Zaa Zaa,he]
 cases cn (s.drop (i+3)) <;> simp[fQ,mD]
 exact Zai
 refine⟨Zaa,by unfold Q;exact Lw _,by have:=Zbb (dD s i);omega,by have:=Zbb (dD s i);omega,by unfold Q;exact Js _,by have:=Zbb (dD s i);omega,rfl,trivial,rfl,by simp[aM,V.n,V.ns],Zaj,?_⟩
 intro N9 N4 Oa
 refine⟨Zbk (V.own 1 · N9 N4 Oa) (by rw[Za9];rfl),Zaa,?_⟩
 refine⟨((i+2)+1,o++[37,(([48,49,50,51,52,53,54,55,56,57,65,66,67,68,69,70]:BL).getD ((dD s i).toNat / 16) 0),(([48,49,50,51,52,53,54,55,56,57,65,66,67,68,69,70]:BL).getD ((dD s i).toNat % 16) 0)],N9,N4,Oa),?_,?_,rfl,rfl,rfl,trivial⟩
 have sg:=jw.1 x7
 rw[sP x7]at *
 have he:fI (dG (s.getD (i+1) 0) (s.getD (i+2) 0))=fQ (dG (s.getD (i+1) 0) (s.getD (i+2) 0)):=by unfold fI;rw[if_neg (by rw[I4];decide)]
 have hl:=fO (dG (s.getD (i+1) 0) (s.getD (i+2) 0))
 rw[he]at hl
 refine⟨Zaa,Zaj,?_⟩
 rw[Ou,rv Zaa Zaa Zaa Zaa,he]
 cases cn (s.drop (i+3)) <;> simp[fQ,mD]
 exact Zai
 refine⟨rfl,trivial,?_⟩
 refine bI (fun Pu=>?_) fun Pu=>?_
 refine⟨rfl,trivial,rfl,by simp[aM,V.n,V.ns],Zaj,?_⟩
 intro Pm QO Re
 refine⟨Zbk (V.own 1 · Pm QO Re) (by rw[Za9];rfl),Zaa,?_⟩
 refine⟨(i+1,o++[(s.getD i 0)],Pm,QO,Re),?_,?_,rfl,rfl,rfl,trivial⟩
 have he:fI (s.getD i 0)=[(s.getD i 0)]:=by unfold fI;rw[if_pos Pu]
 have hl:=fO (s.getD i 0)
 rw[he]at hl
 refine⟨Zaa,Zaj,?_⟩
 rw[Ou,pW Zaa Zaa,he]
 cases cn (s.drop (i+1)) <;> simp[fQ,mD]
 exact Zai
 refine⟨Zaa,by unfold Q;exact Lw _,by have:=Zbb (s.getD i 0);omega,by have:=Zbb (s.getD i 0);omega,by unfold Q;exact Js _,by have:=Zbb (s.getD i 0);omega,rfl,trivial,rfl,by simp[aM,V.n,V.ns],Zaj,?_⟩
 intro N9 N4 Oa
 refine⟨Zbk (V.own 1 · N9 N4 Oa) (by rw[Za9];rfl),Zaa,?_⟩
 refine⟨(i+1,o++[37,(([48,49,50,51,52,53,54,55,56,57,65,66,67,68,69,70]:BL).getD ((s.getD i 0).toNat / 16) 0),(([48,49,50,51,52,53,54,55,56,57,65,66,67,68,69,70]:BL).getD ((s.getD i 0).toNat % 16) 0)],N9,N4,Oa),?_,?_,rfl,rfl,rfl,trivial⟩
 have he:fI (s.getD i 0)=fQ (s.getD i 0):=by unfold fI;rw[if_neg (by rw[Pu];decide)]
 have hl:=fO (s.getD i 0)
 rw[he]at hl
 refine⟨Zaa,Zaj,?_⟩
 rw[Ou,pW Zaa Zaa,he]
 cases cn (s.drop (i+1)) <;> simp[fQ,mD]
 exact Zai
 refine⟨⟨⟨rfl,rfl,rfl⟩,Zab,qv _,tO _⟩,by simp[Zax],?_⟩
 unfold Q
 rw[Za6 Zaa]at Ou
 rw[show cw s=(o,true) from by unfold cw;rw[Ou,if_pos Zaa];simp[cn]])
def tH(ps:List BL):o6 Tryz.prog:=.mk 174 [ao ps] [] (ps.length<=1099511627776) (ao (cy ps)) [] (by
 intro hs
 refine aB (N:=32) (rs:=[.tmp 2]) Tryz.func174
  (.q 1<|.q 1<|.q 3<|.h (.H9 3 1)<|.loop (Nat×(List BL)×Nat×Nat×Nat) (fun (i,o,g,f,k)=>⟨[(6,ao ps),(7,iN ps.length),(8,iN i),(3,.own 1 (o.map sV) g f k)],[]⟩) (fun (i,o,g,f,k)=>i<=ps.length/\o=cy (ps.take i)/\o.length<=i) (fun (i,o,g,f,k)=>ps.length-i) (fun (i,o,g,f,k)=>.q 1<|.br (.r 3 [sV (ps.getD i [])]<|.q 1<|.q 2<|.join (Bool) (fun c=>⟨[(6,ao ps),(7,iN ps.length),(8,iN i),(3,.own 1 (o.map sV) g f k),(9,bV (r8 (i:Int) (ps.length:Int))),(10,.ep (sV (ps.getD i []))),(11,sV (ps.getD i [])),(5,sV (ps.getD i [])),(12,sV (ps.getD i [])),(14,bV ((ps.getD i [])==[])),(13,bV c)],[]⟩) (fun c=>c=decide (ps.getD i []=[]\/ps.getD i []=[46])) (.nil) (.q 2<|.nil) (fun c=>.br (.q 2<|.nil) (.q 2<|.br (.q 3<|.br (.q 5<|.rs<|.h (.n8 3 (.own 1 (o.dropLast.map sV) g (f+(0+((0:Int).toNat))*1) (k-((0:Int).toNat))))<|.q 2<|.nil) (.q 2<|.nil)) (.q 2<|.bs<|.ap (fun Vg Uz Vw=>.h (.n8 29 (.own 1 ((o++[(ps.getD i [])]).map sV) Vg Uz Vw))<|.q 1<|.q 2<|.nil))))) (.h (.fz 3)<|.h (.n8 3 (ao o))<|.q 2<|.nil)))
  ((∃ x:Nat×(List BL)×Nat×Nat×Nat,match x with | (j7,x9,C9,B8,s7)=>(j7<=ps.length/\x9=cy (ps.take j7)/\x9.length<=j7)/\E (ao ps)/\Q (iN ((ps.map sV).length)) (iN ps.length)/\Q (iN 0) (iN j7)/\Q (.own 1 ([].map sV) 0 0 0) (.own 1 (x9.map sV) C9 B8 s7)/\True)/\∀ x:Nat×(List BL)×Nat×Nat×Nat,match x with | (i,o,g,f,k)=>(i<=ps.length/\o=cy (ps.take i)/\o.length<=i)->(fun v1:Int=>(fun v2:V=>(fun v3:List V=>(fun v4:V=>(fun v5:Bool=>Br v5 (Ex (i:Int) (ps.map sV) v2/\True/\(((ps.getD i [])==[])=true->∃ c:Bool,(c=decide (ps.getD i []=[]\/ps.getD i []=[46]))/\E (ao ps)/\E (iN ps.length)/\E (iN i)/\E v4/\E (bV v5)/\E (.ep v2)/\E v2/\E v2/\E v2/\E (bV ((ps.getD i [])==[]))/\Q (bV ((ps.getD i [])==[])) (bV c)/\True)/\(((ps.getD i [])==[])=false->∃ c:Bool,(c=decide (ps.getD i []=[]\/ps.getD i []=[46]))/\E (ao ps)/\E (iN ps.length)/\E (iN i)/\E v4/\E (bV v5)/\E (.ep v2)/\E v2/\E v2/\E v2/\E (bV ((ps.getD i [])==[]))/\Q (bV ((ps.getD i [])==([46]:BL))) (bV c)/\True)/\(∀ c:Bool,(c=decide (ps.getD i []=[]\/ps.getD i []=[46]))->Br c (m8 ((i:Int)+1)/\∃ x:Nat×(List BL)×Nat×Nat×Nat,match x with | (c9,m6,u7,r9,k₂)=>(c9<=ps.length/\m6=cy (ps.take c9)/\m6.length<=c9)/\(ps.length-c9<ps.length-i)/\E (ao ps)/\E (iN ps.length)/\Q (iN (i+1)) (iN c9)/\Q v4 (.own 1 (m6.map sV) u7 r9 k₂)/\True) (Br ((ps.getD i [])==([46,46]:BL)) (Br (w3 v1 0) (m8 (v1-1)/\((0:Int)<=(0:Int)/\(0:Int)<=(v1-1)/\(v1-1)<=((o.map sV).length)/\1=1)/\((3,1,g,f)=(3,1,g,f))/\((0+((0:Int).toNat))+((Int.toNat (v1-1))-((0:Int).toNat))<=(o.map sV).length/\(0+((0:Int).toNat))+(k-((0:Int).toNat))<=k/\V.aK (o.map sV)=false)/\((.own 1 (((o.map sV).drop (0+((0:Int).toNat))).take ((Int.toNat (v1-1))-((0:Int).toNat))) g (f+(0+((0:Int).toNat))*1) (k-((0:Int).toNat)):V)=.own 1 (o.dropLast.map sV) g (f+(0+((0:Int).toNat))*1) (k-((0:Int).toNat)))/\m8 ((i:Int)+1)/\∃ x:Nat×(List BL)×Nat×Nat×Nat,match x with | (c9,m6,u7,r9,k₂)=>(c9<=ps.length/\m6=cy (ps.take c9)/\m6.length<=c9)/\(ps.length-c9<ps.length-i)/\E (ao ps)/\E (iN ps.length)/\Q (iN (i+1)) (iN c9)/\Q (.own 1 (o.dropLast.map sV) g (f+(0+((0:Int).toNat))*1) (k-((0:Int).toNat))) (.own 1 (m6.map sV) u7 r9 k₂)/\True) (m8 ((i:Int)+1)/\∃ x:Nat×(List BL)×Nat×Nat×Nat,match x with | (c9,m6,u7,r9,k₂)=>(c9<=ps.length/\m6=cy (ps.take c9)/\m6.length<=c9)/\(ps.length-c9<ps.length-i)/\E (ao ps)/\E (iN ps.length)/\Q (iN (i+1)) (iN c9)/\Q v4 (.own 1 (m6.map sV) u7 r9 k₂)/\True)) (((1,1,g,f,k,(o.map sV).length)=(1,1,g,f,k,(o.map sV).length))/\(True)/\(V.aK v3=false)/\(aM 1 v3)/\(((o.map sV).length+v3.length)*16<=140737488355328)/\∀ Vg Uz Vw:Nat,((.own 1 ((o.map sV)++v3) Vg Uz Vw:V)=.own 1 ((o++[(ps.getD i [])]).map sV) Vg Uz Vw)/\m8 ((i:Int)+1)/\∃ x:Nat×(List BL)×Nat×Nat×Nat,match x with | (c9,m6,u7,r9,k₂)=>(c9<=ps.length/\m6=cy (ps.take c9)/\m6.length<=c9)/\(ps.length-c9<ps.length-i)/\E (ao ps)/\E (iN ps.length)/\Q (iN (i+1)) (iN c9)/\Q (.own 1 ((o++[(ps.getD i [])]).map sV) Vg Uz Vw) (.own 1 (m6.map sV) u7 r9 k₂)/\True)))) (((.sl false (V.C8 (o.map sV)):V)=ao o)/\Q (ao o) (ao (cy ps)))) (r8 (i:Int) (ps.length:Int))) (.own 1 (o.map sV) g f k)) ([sV (ps.getD i [])]:List V)) (sV (ps.getD i []))) (((o.map sV).length:Nat):Int)) ?_
 refine⟨⟨(0,[],0,0,0),?_,rfl,Zaf,rfl,rfl,trivial⟩,?_⟩
 simp[cy]
 rintro⟨i,o,g,f,k⟩ ⟨h1,h2,h3⟩
 refine bI (fun l3=>?_) fun l3=>?_
 · refine⟨⟨Zaa,aq (d:=[]) Zaa⟩,trivial,?_⟩
   refine⟨fun l6=>?_,fun l6=>?_,fun c hc=>?_⟩
   · try simp only[nb]at l6
     exact⟨(ps.getD i [])==[],by first | (rw[Za4];simp_all;done) | grind,rfl,rfl,rfl,rfl,rfl,rfl,rfl,rfl,rfl,rfl,rfl,trivial⟩
   · try simp only[nb]at l6
     exact⟨(ps.getD i [])==([46]:BL),by first | (rw[Za4];simp_all;done) | grind,rfl,rfl,rfl,rfl,rfl,rfl,rfl,rfl,rfl,rfl,rfl,trivial⟩
   refine bI (fun n0=>?_) fun n0=>?_
   refine⟨Zaa,?_⟩
   refine⟨(i+1,o,g,f,k),?_,?_,rfl,rfl,rfl,rfl,trivial⟩
   refine⟨Zaa,?_,Zaa⟩
   rw[jr Zaa,<- h2,dt,if_pos (by grind)]
   exact Zai
   refine bI (fun x7=>?_) fun x7=>?_
   refine bI (fun I4=>?_) fun I4=>?_
   refine⟨Zah,⟨Zab,Zaj,Zaj,rfl⟩,rfl,⟨by simp <;> omega,Zab,cP (fun _=>rfl) _⟩,Zbk (V.own 1 · g (f+(0+((0:Int).toNat))*1) (k-((0:Int).toNat))) (by rw[show (0+Int.toNat 0)=0 from rfl,List.drop_zero,<- List.map_take,List.dropLast_eq_take];congr 2;first | (solve | simp) | (simp;omega)),Zaa,?_⟩
   refine⟨(i+1,o.dropLast,g,f+(0+((0:Int).toNat))*1,k-((0:Int).toNat)),?_,?_,rfl,rfl,rfl,rfl,trivial⟩
   refine⟨Zaa,?_,Zaj⟩
   rw[jr Zaa,<- h2,dt,if_neg (by grind),if_pos (by grind)]
   exact Zai
   refine⟨Zaa,?_⟩
   refine⟨(i+1,o,g,f,k),?_,?_,rfl,rfl,rfl,rfl,trivial⟩
   refine⟨Zaa,?_,Zaa⟩
   rw[jr Zaa,<- h2,dt,if_neg (by grind),if_pos (by grind)]
   have:o=[]:=Za3 (by simp at *;omega)
   rw[this];rfl
   exact Zai
   refine⟨rfl,trivial,rfl,by simp[aM,V.n,V.ns],Zaj,?_⟩
   intro Vg Uz Vw
   refine⟨Zbk (V.own 1 · Vg Uz Vw) Zab,Zaa,?_⟩
   refine⟨(i+1,o++[(ps.getD i [])],Vg,Uz,Vw),?_,?_,rfl,rfl,rfl,rfl,trivial⟩
   refine⟨Zaa,?_,Zaj⟩
   rw[jr Zaa,<- h2,dt,if_neg (by grind),if_neg (by grind)]
   exact Zai
 refine⟨Zbk (V.sl false) (aT (fun _=>rfl) _),?_⟩
 unfold Q
 rw[h2,Zax Zaa])
def oq(s:BL):o6 Tryz.prog:=.mk 131 [sV s] [] (s.length<=1000000) (bV (fP s)) [] (by
 intro hs
 refine aB (N:=16) (rs:=[.tmp 2]) Tryz.func131
  (.q 1<|.q 1<|.c (kW s) []<|.q 5<|.q 7<|.nil)
  ((kW s).sm/\((s.length<=1000000))/\Pk ((cw s).2) (((cw s).2)==true) true/\Q (bV (((cw s).2)&&(((cw s).1)==s))) (bV (fP s))) ?_
 refine⟨rfl,Zae,⟨fun h=>by rw[h] <;> rfl,fun _=>rfl⟩,?_⟩
 unfold Q
 rfl)
def nB(a:s4):o6 Tryz.prog:=.mk 107 [cb a.b7 a.e9 a.asks a.ask] [] (dm a) (sV (bz a)) [] (by
 intro ha
 have hj:=ha.join
 obtain⟨z1,z2,z3,z4⟩:=ha
 rw[<- wV]at hj
 refine aB (N:=16) (rs:=[.tmp 2]) Tryz.func107
  (.bx (fun g1=>.q 1<|.r 2 [.b9]<|.c (Ft a.e9 ([47]:BL)) []<|.q 2<|.r 2 [.b9]<|.br (.r 6 [.b9]<|.q 2<|.nil) (.q 2<|.nil)))
  ((fun v1:BL=>(∀ g1:Nat,Z g1 1/\(Ft a.e9 v1).sm/\((a.e9.length<=1000000)/\((Lib.join a.e9 v1).length<=1000000))/\(v1.length+(Lib.join a.e9 v1).length<=4611686018427387904)/\Z g1 2/\Br a.asks (Z g1 3/\(([63]:BL).length+a.ask.length<=4611686018427387904)/\((v1++(Lib.join a.e9 v1)).length+(([63]:BL)++a.ask).length<=4611686018427387904)/\Q (sV ((v1++(Lib.join a.e9 v1))++(([63]:BL)++a.ask))) (sV (bz a))) (Q (sV (v1++(Lib.join a.e9 v1))) (sV (bz a))))) ([47]:BL)) ?_
 intro g1
 refine⟨rfl,rfl,⟨Zae,Zae⟩,Zag,rfl,?_⟩
 refine bI (fun l3=>?_) fun l3=>?_
 refine⟨rfl,Zag,Zag,?_⟩
 unfold Q
 rw[wV]
 unfold bz;rw[if_pos (by simpa using l3)] <;> simp[List.append_assoc]
 unfold Q
 rw[wV]
 unfold bz;rw[if_neg (by simpa using l3)];simp)
def jR(a:s4):o6 Tryz.prog:=.mk 87 [cb a.b7 a.e9 a.asks a.ask] [] (dm a) (sV (cX a)) [] (by
 intro ha
 have hp:=ha.path
 have h1:=ha.1
 refine aB (N:=9) (rs:=[.tmp 2]) Tryz.func87
  (.bx (fun g1=>.q 1<|.dx 6 [0,1,2,3,4,5] [(1,⟨false,[],some [1],[4],[]⟩),(3,⟨false,[],some [1],[6],[]⟩)] []<|.q 1<|.r 1 [.b9]<|.q 1<|.r 1 [.b9]<|.c (nB a) []<|.q 1<|.q 1<|.nil))
  (∀ g1:Nat,Z g1 0/\(([47,47]:BL).length+a.b7.length<=4611686018427387904)/\Z g1 0/\(nB a).sm/\((dm a))/\((([47,47]:BL)++a.b7).length+(bz a).length<=4611686018427387904)/\Q (sV ((([47,47]:BL)++a.b7)++(bz a))) (sV (cX a))) ?_
 intro g1
 refine⟨rfl,Zag,rfl,rfl,Zae,Zag,?_⟩
 unfold Q
 rfl)
def gM(a:s4):o6 Tryz.prog:=.mk 106 [cb a.b7 a.e9 a.asks a.ask] [] (dm a) (bV (aO a)) [] (by
 intro ha
 have ht:=ha.text
 obtain⟨z1,z2,z3,z4⟩:=id ha
 refine aB (N:=56) (rs:=[.tmp 2]) Tryz.func106
  (.bx (fun g1=>.q 1<|.r 2 [.b9]<|.c (pZ a.b7) []<|.r 7 [.b9]<|.br (.q 1<|.nil) (.r 4 [.b9]<|.loop (Nat) (fun (i:Nat)=>⟨[(1,.ptr (.key 1) [] g1 0),(16,ao a.e9),(17,iN a.e9.length),(18,iN i)],[(1,(g1,cb a.b7 a.e9 a.asks a.ask))]⟩) (fun (i:Nat)=>i<=a.e9.length/\∀ j,j<i->fb (a.e9.getD j [])=true) (fun (i:Nat)=>a.e9.length-i) (fun (i:Nat)=>.q 1<|.br (.r 3 [sV (a.e9.getD i [])]<|.q 12<|.cg (oq (a.e9.getD i []))<|.q 2<|.br (.q 1<|.nil) (.q 2<|.nil)) (.r 2 [.b9]<|.c (oq a.ask) []<|.r 11 [.b9,.b9]<|.br (.q 1<|.nil) (.r 1 [.b9]<|.c (jR a) []<|.q 3<|.nil))))))
  ((fun v1:Bool=>(fun v2:BL=>(fun v3:BL=>(fun v4:Bool=>(∀ g1:Nat,Z g1 0/\(pZ a.b7).sm/\((a.b7.length<=4611686018427387904))/\Gd (v4==false) (Z g1 1)/\Pk v4 true (v4==false)/\Br (v4||(w3 (((a.e9.map sV).length:Nat):Int) 5)) (Q (bV false) (bV (aO a))) (Z g1 1/\(∃ j7:Nat,(j7<=a.e9.length/\∀ j,j<j7->fb (a.e9.getD j [])=true)/\E (.ptr (.key 1) [] g1 0)/\E (ao a.e9)/\Q (iN ((a.e9.map sV).length)) (iN a.e9.length)/\Q (iN 0) (iN j7)/\Er g1 (cb a.b7 a.e9 a.asks a.ask)/\True)/\∀ i:Nat,(i<=a.e9.length/\∀ j,j<i->fb (a.e9.getD j [])=true)->(fun v5:Bool=>Br (r8 (i:Int) (a.e9.length:Int)) (Ex (i:Int) (a.e9.map sV) (sV (a.e9.getD i []))/\True/\Pk ((a.e9.getD i [])==[]) true (((a.e9.getD i [])==[])==false)/\Pk (((a.e9.getD i [])==[])||((a.e9.getD i [])==v2)) true ((((a.e9.getD i [])==[])||((a.e9.getD i [])==v2))==false)/\Gd v5 ((((a.e9.getD i []).length<=1000000))/\(oq (a.e9.getD i [])).sm)/\Pk ((((a.e9.getD i [])==[])||((a.e9.getD i [])==v2))||((a.e9.getD i [])==v3)) true v5/\Br (((((a.e9.getD i [])==[])||((a.e9.getD i [])==v2))||((a.e9.getD i [])==v3))||(!(fP (a.e9.getD i [])))) (Q (bV false) (bV (aO a))) (m8 ((i:Int)+1)/\∃ c9:Nat,(c9<=a.e9.length/\∀ j,j<c9->fb (a.e9.getD j [])=true)/\(a.e9.length-c9<a.e9.length-i)/\E (.ptr (.key 1) [] g1 0)/\E (ao a.e9)/\E (iN a.e9.length)/\Q (iN (i+1)) (iN c9)/\Er g1 (cb a.b7 a.e9 a.asks a.ask)/\True)) (Z g1 3/\(oq a.ask).sm/\((a.ask.length<=1000000))/\Gd v1 (Z g1 2)/\Gd (v1&&((!a.asks)==true)) (Z g1 3)/\Gd v1 (Pk (!a.asks) (v1&&((!a.asks)==true)) true)/\Pk (!(fP a.ask)) true v1/\Br ((!(fP a.ask))||((!a.asks)&&(!(a.ask==[])))) (Q (bV false) (bV (aO a))) (Z g1 0/\(jR a).sm/\((dm a))/\Q (bV (E5 (((cX a).length:Nat):Int) 60)) (bV (aO a))))) (((((a.e9.getD i [])==[])||((a.e9.getD i [])==v2))||((a.e9.getD i [])==v3))==false)))) (!(cW a.b7))) ([46,46]:BL)) ([46]:BL)) ((!(fP a.ask))==false)) ?_
 intro g1
 refine⟨rfl,rfl,Zae,fun hG=>rfl,⟨fun _=>rfl,fun h=>by rw[h] <;> rfl⟩,?_⟩
 refine bI (fun l3=>?_) fun l3=>?_
 unfold Q
 refine Zbk bV ?_
 unfold aO
 grind
 refine⟨rfl,?_⟩
 refine⟨⟨0,?_,rfl,rfl,Zaf,rfl,rfl,trivial⟩,?_⟩
 simp
 rintro i ⟨h1,h2⟩
 have ZX:=z4 i
 refine bI (fun l6=>?_) fun l6=>?_
 refine⟨⟨Zaa,aq (d:=[]) Zaa⟩,trivial,⟨fun _=>rfl,fun h=>by rw[h] <;> rfl⟩,⟨fun _=>rfl,fun h=>by rw[h] <;> rfl⟩,fun hG=>⟨by(try simp only[nb]at hG);first | assumption | omega | (simp;omega),rfl⟩,⟨fun _=>rfl,fun h=>by rw[h] <;> rfl⟩,?_⟩
 refine bI (fun n0=>?_) fun n0=>?_
 unfold Q
 refine Zbk bV ?_
 unfold aO
 rw[all_false (i:=i) (d:=[]) Zaa (by simp only[fb];grind)];simp
 refine⟨Zaa,?_⟩
 refine⟨i+1,?_,?_,rfl,rfl,rfl,rfl,rfl,trivial⟩
 refine⟨Zaa,bJ h2 ?_⟩
 simp only[fb];grind
 exact Zai
 refine⟨rfl,rfl,Zae,fun hG=>rfl,fun hG=>rfl,fun hG=>⟨fun h=>by rw[h];exact(Zam _ _).mpr ⟨hG,rfl⟩,fun _=>rfl⟩,⟨fun _=>rfl,fun h=>by rw[h] <;> rfl⟩,?_⟩
 refine bI (fun x7=>?_) fun x7=>?_
 unfold Q
 refine Zbk bV ?_
 unfold aO
 rw[all_true (d:=[]) (fun j hj=>h2 j Zaa)]
 grind
 refine⟨rfl,rfl,by first | assumption | exact lr _,?_⟩
 unfold Q
 refine Zbk bV ?_
 unfold aO
 rw[all_true (d:=[]) (fun j hj=>h2 j Zaa)]
 grind)
abbrev il(d:BL)(fr:List BL)(o5:BL):V:=.tup [cb ((oA (cR d fr o5)).b7) ((oA (cR d fr o5)).e9) ((oA (cR d fr o5)).asks) ((oA (cR d fr o5)).ask),bV ((cR d fr o5).isSome)]
abbrev kN(d:BL)(fr:List BL)(o5:BL)(i:Nat)(o:List BL)(g:Nat)(f:Nat)(k:Nat):Prop:=i<=(an 47 (af 63 o5).1).length/\o=fr++((an 47 (af 63 o5).1).take i).map fG/\((an 47 (af 63 o5).1).take i).all gz=true
def gK(d:BL)(fr:List BL)(o5:BL):o6 Tryz.prog:=.mk 143 [sV d,ao fr,sV o5] [] ((d.length<=1000)/\(∀ i,(fr.getD i []).length<=1000)/\(fr.length<=100)/\(o5.length<=300)) (il d fr o5) [] (by
 rintro⟨hh,hf,hl,hw⟩
 have O3:=nV 63 o5
 have Qy:=tt 47 (af 63 o5).1
 refine aB (N:=65) (rs:=[.cell 6 96,.tmp 7]) Tryz.func143
  (.al dw (fun g6=>.q 1<|.q 1<|.c (pP o5 63) []<|.q 7<|.q 1<|.c (kW ((af 63 o5).2.1)) []<|.q 5<|.q 2<|.br (.bd dw<|.st none<|.q 1<|.nil) (.q 1<|.c (jI fr) []<|.ot 33 (fun Yy X9 YB=>.q 1<|.q 1<|.c (qY ((af 63 o5).1) 47) []<|.q 2<|.loop (Nat×(List BL)×Nat×Nat×Nat) (fun (i,o,g,f,k)=>⟨[(0,sV d),(6,.ptr (.key 6) [] g6 0),(9,sV ((cw (af 63 o5).2.1).1)),(10,bV ((af 63 o5).2.2)),(12,.own 1 (o.map sV) g f k),(35,.sl true ((an 47 (af 63 o5).1).map sV)),(36,iN ((an 47 (af 63 o5).1).length)),(37,iN i)],[(6,(g6,ik (.sl true [])))]⟩) (fun (i,o,g,f,k)=>kN d fr o5 i o g f k) (fun (i,o,g,f,k)=>(an 47 (af 63 o5).1).length-i) (fun (i,o,g,f,k)=>.q 1<|.br (.r 3 [sV ((an 47 (af 63 o5).1).getD i [])]<|.q 1<|.c (kW ((an 47 (af 63 o5).1).getD i [])) []<|.q 5<|.q 2<|.br (.bd dw<|.st none<|.q 1<|.nil) (.q 2<|.bs<|.ap (fun Vc Uv Vs=>.h (.n8 52 (.own 1 ((o++[(cw ((an 47 (af 63 o5).1).getD i [])).1]).map sV) Vc Uv Vs))<|.q 1<|.q 2<|.nil))) (.h (.fz 12)<|.h (.n8 12 (ao o))<|.q 2<|.c (tH o) []<|.q 2<|.bd dw<|.al dw (fun g17=>.st none<|.r 1 [.b9]<|.c (gM (⟨d,cy o,(af 63 o5).2.2,(cw (af 63 o5).2.1).1⟩:s4)) []<|.q 1<|.br (.bd dw<|.st none<|.q 1<|.nil) (.r 1 [.b9]<|.st none<|.q 1<|.nil))))))))
  ((fun v1:V=>(∀ g6:Nat,(pP o5 63).sm/\((o5.length<=1000000))/\(kW ((af 63 o5).2.1)).sm/\((((af 63 o5).2.1).length<=1000000))/\Br (!((cw ((af 63 o5).2.1)).2)) (Z g6 0/\(g6=g6)/\Q v1 (il d fr o5)) ((jI fr).sm/\((fr.length<=1000000))/\∀ Yy X9 YB:Nat,(qY ((af 63 o5).1) 47).sm/\((((af 63 o5).1).length<=1000000))/\(∃ x:Nat×(List BL)×Nat×Nat×Nat,match x with | (j7,x9,C9,B8,s7)=>(kN d fr o5 j7 x9 C9 B8 s7)/\E (sV d)/\E (.ptr (.key 6) [] g6 0)/\Q (sV ((cw ((af 63 o5).2.1)).1)) (sV ((cw (af 63 o5).2.1).1))/\E (bV ((af 63 o5).2.2))/\Q (.own 1 (fr.map sV) Yy X9 YB) (.own 1 (x9.map sV) C9 B8 s7)/\Q (.sl true ((an 47 ((af 63 o5).1)).map sV)) (.sl true ((an 47 (af 63 o5).1).map sV))/\Q (iN (((an 47 ((af 63 o5).1)).map sV).length)) (iN ((an 47 (af 63 o5).1).length))/\Q (iN 0) (iN j7)/\Er g6 (ik (.sl true []))/\True)/\∀ x:Nat×(List BL)×Nat×Nat×Nat,match x with | (i,o,g,f,k)=>(kN d fr o5 i o g f k)->(fun v2:List V=>Br (r8 (i:Int) (((an 47 (af 63 o5).1).length:Nat):Int)) (Ex (i:Int) ((an 47 (af 63 o5).1).map sV) (sV ((an 47 (af 63 o5).1).getD i []))/\True/\(kW ((an 47 (af 63 o5).1).getD i [])).sm/\((((an 47 (af 63 o5).1).getD i []).length<=1000000))/\Br (!((cw ((an 47 (af 63 o5).1).getD i [])).2)) (Z g6 0/\(g6=g6)/\Q v1 (il d fr o5)) (((1,1,g,f,k,(o.map sV).length)=(1,1,g,f,k,(o.map sV).length))/\(True)/\(V.aK v2=false)/\(aM 1 v2)/\(((o.map sV).length+v2.length)*16<=140737488355328)/\∀ Vc Uv Vs:Nat,((.own 1 ((o.map sV)++v2) Vc Uv Vs:V)=.own 1 ((o++[(cw ((an 47 (af 63 o5).1).getD i [])).1]).map sV) Vc Uv Vs)/\m8 ((i:Int)+1)/\∃ x:Nat×(List BL)×Nat×Nat×Nat,match x with | (c9,m6,u7,r9,k₂)=>(kN d fr o5 c9 m6 u7 r9 k₂)/\((an 47 (af 63 o5).1).length-c9<(an 47 (af 63 o5).1).length-i)/\E (sV d)/\E (.ptr (.key 6) [] g6 0)/\E (sV ((cw (af 63 o5).2.1).1))/\E (bV ((af 63 o5).2.2))/\Q (.own 1 ((o++[(cw ((an 47 (af 63 o5).1).getD i [])).1]).map sV) Vc Uv Vs) (.own 1 (m6.map sV) u7 r9 k₂)/\E (.sl true ((an 47 (af 63 o5).1).map sV))/\E (iN ((an 47 (af 63 o5).1).length))/\Q (iN (i+1)) (iN c9)/\Er g6 (ik (.sl true []))/\True)) (((.sl false (V.C8 (o.map sV)):V)=ao o)/\(tH o).sm/\((o.length<=1099511627776))/\∀ g17:Nat,Z g17 0/\Z g17 0/\(gM (⟨d,cy o,(af 63 o5).2.2,(cw (af 63 o5).2.1).1⟩:s4)).sm/\((dm (⟨d,cy o,(af 63 o5).2.2,(cw (af 63 o5).2.1).1⟩:s4)))/\Br (!(aO (⟨d,cy o,(af 63 o5).2.2,(cw (af 63 o5).2.1).1⟩:s4))) (Z g6 0/\(g6=g6)/\Q v1 (il d fr o5)) (Z g17 0/\Z g6 0/\(g6=g6)/\Q (.tup [cb d (cy o) ((af 63 o5).2.2) ((cw (af 63 o5).2.1).1),bV true]) (il d fr o5)))) ([sV ((cw ((an 47 (af 63 o5).1).getD i [])).1)]:List V)))) (.tup [ik (.sl false []),bV false])) ?_
 intro g6
 refine⟨rfl,Zaa,rfl,Zaa,?_⟩
 refine bI (fun l3=>?_) fun l3=>?_
 refine⟨rfl,?_⟩
 refine⟨rfl,?_⟩
 unfold Q il
 rw[show cR d fr o5=none from by unfold cR;rw[show gz (af 63 o5).2.1=false from l3,Bool.and_false];rfl];rfl
 refine⟨rfl,Zae,?_⟩
 intro Yy X9 YB
 refine⟨rfl,Zaa,?_⟩
 refine⟨⟨(0,fr,Yy,X9,YB),?_,rfl,rfl,Zaf,rfl,rfl,Zaf,Zaf,rfl,rfl,trivial⟩,?_⟩
 unfold kN
 simp
 rintro⟨i,o,g,f,k⟩ ⟨h1,h2,h3⟩
 have SZ:=tl 47 (af 63 o5).1 i
 have UY:o.length<=100+i:=by rw[h2];simp;omega
 refine bI (fun l6=>?_) fun l6=>?_
 refine⟨⟨Zaa,aq (d:=[]) Zaa⟩,trivial,rfl,Zaa,?_⟩
 refine bI (fun n0=>?_) fun n0=>?_
 refine⟨rfl,?_⟩
 refine⟨rfl,?_⟩
 unfold Q il
 rw[show cR d fr o5=none from by unfold cR;rw[all_false (i:=i) (d:=[]) Zaa n0];rfl];rfl
 refine⟨rfl,trivial,rfl,by simp[aM,V.n,V.ns],Zaj,?_⟩
 intro Vc Uv Vs
 refine⟨Zbk (V.own 1 · Vc Uv Vs) Zab,Zaa,?_⟩
 refine⟨(i+1,o++[(cw ((an 47 (af 63 o5).1).getD i [])).1],Vc,Uv,Vs),?_,?_,rfl,rfl,rfl,rfl,rfl,rfl,rfl,rfl,rfl,trivial⟩
 unfold kN
 refine⟨Zaa,?_,?_⟩
 rw[h2,bA (by omega:i<(an 47 (af 63 o5).1).length) []];simp[fG]
 rw[bA (by omega:i<(an 47 (af 63 o5).1).length) []];simp only[List.all_append,h3,List.all_cons,List.all_nil,gz,Bool.and_true,Bool.true_and];exact n0
 exact Zai
 refine⟨Zbk (V.sl false) (aT (fun _=>rfl) _),rfl,Zaa,?_⟩
 intro g17
 refine⟨rfl,?_⟩
 have hz:dm ⟨d,cy o,(af 63 o5).2.2,(cw (af 63 o5).2.1).1⟩:=by
  rw[h2,Zax Zaa];exact NN hh hf Zaa
 refine⟨rfl,rfl,hz,?_⟩
 refine bI (fun x7=>?_) fun x7=>?_
 refine⟨rfl,?_⟩
 refine⟨rfl,?_⟩
 unfold Q il
 have G8:(an 47 (af 63 o5).1).all gz=true:=by rw[Zax Zaa]at h3;exact h3
 rw[Zax Zaa]at h2
 subst h2
 rw[show cR d fr o5=none from by unfold cR;rw[G8];grind [gz,fG]];rfl
 refine⟨rfl,rfl,?_⟩
 refine⟨rfl,?_⟩
 unfold Q il
 have G8:(an 47 (af 63 o5).1).all gz=true:=by rw[Zax Zaa]at h3;exact h3
 rw[Zax Zaa]at h2
 subst h2
 rw[show cR d fr o5=some _ from by unfold cR;rw[G8,if_pos (by grind [gz,fG]),if_pos (by grind [gz,fG])]] <;> rfl)
abbrev iE(s:BL):V:=.tup [cb ((oA (dJ s)).b7) ((oA (dJ s)).e9) ((oA (dJ s)).asks) ((oA (dJ s)).ask),bV ((dJ s).isSome)]
def nE(s:BL):o6 Tryz.prog:=.mk 114 [sV s] [] ((s.length<=300)/\(l8 s)) (iE s) [] (by
 rintro⟨hs,ha⟩
 refine aB (N:=31) (rs:=[.cell 2 96,.tmp 3]) Tryz.func114
  (.al dw (fun g2=>.q 1<|.q 1<|.c (uT s ([47,47]:BL)) []<|.q 5<|.q 2<|.br (.bd dw<|.st none<|.q 1<|.nil) (.h (.n8 10 (sV (s.drop 2)))<|.h (.n8 4 (sV (s.drop 2)))<|.q 1<|.c (Jm (s.drop 2)) []<|.q 1<|.q 2<|.br (.q 3<|.dx 10 [0,1,2,3,4,5,6,7,8,9] [] []<|.q 1<|.q 1<|.q 1<|.c (kL (((s.drop 2).take ((s.drop 2).length)).drop ((0:Int).toNat))) []<|.q 1<|.q 1<|.q 1<|.c (gK (bm (((s.drop 2).take ((s.drop 2).length)).drop ((0:Int).toNat))) ([]:List BL) (((s.drop 2).take (s.drop 2).length).drop ((s.drop 2).length))) []<|.q 1<|.q 1<|.st none<|.q 1<|.nil) (.dx 10 [0,1,2,3,4,5,6,7,8,9] [] []<|.q 1<|.q 1<|.q 1<|.c (kL (((s.drop 2).take (Int.toNat (Lib.indexAny (s.drop 2) [47,63]))).drop ((0:Int).toNat))) []<|.q 1<|.q 1<|.q 1<|.c (gK (bm (((s.drop 2).take (Int.toNat (Lib.indexAny (s.drop 2) [47,63]))).drop ((0:Int).toNat))) ([]:List BL) (((s.drop 2).take (s.drop 2).length).drop (Int.toNat (Lib.indexAny (s.drop 2) [47,63])))) []<|.q 1<|.q 1<|.st none<|.q 1<|.nil))))
  ((fun v1:s4=>(fun v2:s4=>(fun v3:BL=>(fun v4:V=>(∀ g2:Nat,(uT s v3).sm/\((s.length<=4611686018427387904)/\(v3.length<=4611686018427387904))/\Br (!(fV s v3)) (Z g2 0/\(g2=g2)/\Q (.tup [ik (.sl false []),bV false]) (iE s)) ((v4=sV (s.drop 2))/\(v4=sV (s.drop 2))/\(Jm (s.drop 2)).sm/\(((s.drop 2).length<=1000000)/\(∀ c,c∈(s.drop 2)->c.toNat<128))/\Br (r8 (Lib.indexAny (s.drop 2) [47,63]) 0) (Sx (0:Int) (((s.drop 2).length:Nat):Int) (s.drop 2)/\(kL (((s.drop 2).take ((s.drop 2).length)).drop ((0:Int).toNat))).sm/\(((((s.drop 2).take ((s.drop 2).length)).drop ((0:Int).toNat)).length<=1099511627776))/\Sx (((s.drop 2).length:Nat):Int) ((s.drop 2).length:Int) (s.drop 2)/\(gK (bm (((s.drop 2).take ((s.drop 2).length)).drop ((0:Int).toNat))) ([]:List BL) (((s.drop 2).take (s.drop 2).length).drop ((s.drop 2).length))).sm/\(((bm (((s.drop 2).take ((s.drop 2).length)).drop ((0:Int).toNat))).length<=1000)/\(∀ i,(([]:List BL).getD i []).length<=1000)/\(([]:List BL).length<=100)/\((((s.drop 2).take (s.drop 2).length).drop ((s.drop 2).length)).length<=300))/\Z g2 0/\(g2=g2)/\Q (.tup [cb (v2.b7) (v2.e9) (v2.asks) (v2.ask),bV ((cR (bm (((s.drop 2).take ((s.drop 2).length)).drop ((0:Int).toNat))) ([]:List BL) (((s.drop 2).take (s.drop 2).length).drop ((s.drop 2).length))).isSome)]) (iE s)) (Sx (0:Int) (Lib.indexAny (s.drop 2) [47,63]) (s.drop 2)/\(kL (((s.drop 2).take (Int.toNat (Lib.indexAny (s.drop 2) [47,63]))).drop ((0:Int).toNat))).sm/\(((((s.drop 2).take (Int.toNat (Lib.indexAny (s.drop 2) [47,63]))).drop ((0:Int).toNat)).length<=1099511627776))/\Sx (Lib.indexAny (s.drop 2) [47,63]) ((s.drop 2).length:Int) (s.drop 2)/\(gK (bm (((s.drop 2).take (Int.toNat (Lib.indexAny (s.drop 2) [47,63]))).drop ((0:Int).toNat))) ([]:List BL) (((s.drop 2).take (s.drop 2).length).drop (Int.toNat (Lib.indexAny (s.drop 2) [47,63])))).sm/\(((bm (((s.drop 2).take (Int.toNat (Lib.indexAny (s.drop 2) [47,63]))).drop ((0:Int).toNat))).length<=1000)/\(∀ i,(([]:List BL).getD i []).length<=1000)/\(([]:List BL).length<=100)/\((((s.drop 2).take (s.drop 2).length).drop (Int.toNat (Lib.indexAny (s.drop 2) [47,63]))).length<=300))/\Z g2 0/\(g2=g2)/\Q (.tup [cb (v1.b7) (v1.e9) (v1.asks) (v1.ask),bV ((cR (bm (((s.drop 2).take (Int.toNat (Lib.indexAny (s.drop 2) [47,63]))).drop ((0:Int).toNat))) ([]:List BL) (((s.drop 2).take (s.drop 2).length).drop (Int.toNat (Lib.indexAny (s.drop 2) [47,63])))).isSome)]) (iE s))))) (sV (if fV s v3=true then s.drop v3.length else s):V)) ([47,47]:BL)) (oA (cR (bm (((s.drop 2).take ((s.drop 2).length)).drop ((0:Int).toNat))) ([]:List BL) (((s.drop 2).take (s.drop 2).length).drop ((s.drop 2).length))))) (oA (cR (bm (((s.drop 2).take (Int.toNat (Lib.indexAny (s.drop 2) [47,63]))).drop ((0:Int).toNat))) ([]:List BL) (((s.drop 2).take (s.drop 2).length).drop (Int.toNat (Lib.indexAny (s.drop 2) [47,63])))))) ?_
 intro g2
 refine⟨rfl,⟨Zaa,Zab⟩,?_⟩
 refine bI (fun l3=>?_) fun l3=>?_
 refine⟨rfl,?_⟩
 refine⟨rfl,?_⟩
 unfold Q iE
 rw[show dJ s=none from if_neg (by rw[l3];decide)] <;> rfl
 refine⟨(by rw[if_pos l3];rfl),(by rw[if_pos l3];rfl),rfl,⟨Zaj,ha.drop 2⟩,?_⟩
 refine bI (fun l6=>?_) fun l6=>?_
 have hq:=(vl (s.drop 2)).1 Zaa
 refine⟨Zaa,rfl,Zaj,Zaa,rfl,⟨by simp[bm];omega,Zab,Zab,by first | (solve | simp) | (simp;omega)⟩,rfl,?_⟩
 refine⟨rfl,?_⟩
 unfold Q iE
 rw[show dJ s=eh (s.drop 2) from if_pos l3]
 unfold eh;rw[hq.1,hq.2];simp[show (s.drop 2).take (s.length-2)=s.drop 2 from Zax Zab,show s.drop (2+(s.length-2))=[] from Za6 Zaa]
 have hq:=(vl (s.drop 2)).2 Zaa
 have hq3:=hq.2.2
 refine⟨Zaa,rfl,Zaj,Zaa,rfl,⟨by simp[bm];omega,Zab,Zab,by first | (solve | simp) | (simp;omega)⟩,rfl,?_⟩
 refine⟨rfl,?_⟩
 unfold Q iE
 rw[show dJ s=eh (s.drop 2) from if_pos l3]
 unfold eh;rw[hq.1,hq.2.1];simp[show (s.drop 2).take (s.length-2)=s.drop 2 from Zax Zab])
abbrev lq(raw:BL):V:=.tup [cb ((oA (aC raw)).b7) ((oA (aC raw)).e9) ((oA (aC raw)).asks) ((oA (aC raw)).ask),bV ((aC raw).isSome)]
def uV(raw:BL):o6 Tryz.prog:=.mk 86 [sV raw] [] ((raw.length<=1000000)/\(l8 raw)) (lq raw) [] (by
 rintro⟨hs,ha⟩
 have O3:=nV 35 raw
 refine aB (N:=21) (rs:=[.cell 2 96,.tmp 3]) Tryz.func86
  (.al dw (fun g2=>.q 1<|.q 3<|.br (.bd dw<|.st none<|.q 1<|.nil) (.q 1<|.c (pP raw 35) []<|.q 7<|.q 1<|.c (nE ((af 35 raw).1)) []<|.q 2<|.st none<|.q 1<|.nil)))
  ((fun v1:s4=>(∀ g2:Nat,Br (w3 (raw.length:Int) 60) (Z g2 0/\(g2=g2)/\Q (.tup [ik (.sl false []),bV false]) (lq raw)) ((pP raw 35).sm/\((raw.length<=1000000))/\(nE ((af 35 raw).1)).sm/\((((af 35 raw).1).length<=300)/\(l8 ((af 35 raw).1)))/\Z g2 0/\(g2=g2)/\Q (.tup [cb (v1.b7) (v1.e9) (v1.asks) (v1.ask),bV ((dJ ((af 35 raw).1)).isSome)]) (lq raw)))) (oA (dJ ((af 35 raw).1)))) ?_
 intro g2
 refine bI (fun l3=>?_) fun l3=>?_
 refine⟨rfl,?_⟩
 refine⟨rfl,?_⟩
 unfold Q lq
 rw[wP Zaa];rfl
 refine⟨rfl,Zaa,rfl,⟨Zaa,ha.cut 35⟩,rfl,?_⟩
 refine⟨rfl,?_⟩
 unfold Q lq
 rw[BK Zaa])
abbrev jD(s:BL):V:=.tup [cb ((oA (ak s)).b7) ((oA (ak s)).e9) ((oA (ak s)).asks) ((oA (ak s)).ask),bV ((ak s).isSome)]
def bS(s:BL):o6 Tryz.prog:=.mk 57 [sV s] [] ((s.length<=1000000)/\(l8 s)) (jD s) [] (by
 rintro⟨hs,ha⟩
 refine aB (N:=21) (rs:=[.cell 2 96,.tmp 3]) Tryz.func57
  (.al dw (fun g2=>.q 1<|.q 1<|.c (uV s) []<|.q 3<|.al dw (fun g4=>.st none<|.q 1<|.r 4 [.b9]<|.cg (jR (oA (aC s)))<|.q 3<|.br (.bd dw<|.st none<|.q 1<|.nil) (.r 1 [.b9]<|.st none<|.q 1<|.nil))))
  ((fun v1:Bool=>(fun v2:s4=>(∀ g2:Nat,(uV s).sm/\((s.length<=1000000)/\(l8 s))/\∀ g4:Nat,Z g4 0/\Gd (v1==false) (Z g4 0)/\Gd (v1==false) (((dm v2))/\(jR v2).sm)/\Pk v1 true (v1==false)/\Br (v1||(!((cX v2)==s))) (Z g2 0/\(g2=g2)/\Q (.tup [ik (.sl false []),bV false]) (jD s)) (Z g4 0/\Z g2 0/\(g2=g2)/\Q (.tup [cb (v2.b7) (v2.e9) (v2.asks) (v2.ask),bV true]) (jD s)))) (oA (aC s))) (!((aC s).isSome))) ?_
 intro g2
 refine⟨rfl,⟨hs,ha⟩,?_⟩
 intro g4
 refine⟨rfl,fun hG=>rfl,fun hG=>⟨by(try simp only[nb]at hG);exact lr _,rfl⟩,⟨fun _=>rfl,fun h=>by rw[h] <;> rfl⟩,?_⟩
 refine bI (fun l3=>?_) fun l3=>?_
 refine⟨rfl,?_⟩
 refine⟨rfl,?_⟩
 unfold Q jD
 rw[show ak s=none from if_neg (by rw[Ky (by simpa using l3)];decide)] <;> rfl
 refine⟨rfl,rfl,?_⟩
 refine⟨rfl,?_⟩
 unfold Q jD
 rw[show ak s=aC s from if_pos (xJ l3.1 l3.2),l3.1])
def gN(s:BL):o6 Tryz.prog:=.mk 83 [sV s] [] ((s.length<=1000000)/\(l8 s)) (bV (aA s)) [] (by
 rintro⟨hs,ha⟩
 refine aB (N:=11) (rs:=[.tmp 2]) Tryz.func83
  (.q 1<|.q 1<|.c (bS s) []<|.q 3<|.al dw (fun g3=>.st none<|.q 1<|.q 2<|.nil))
  ((bS s).sm/\((s.length<=1000000)/\(l8 s))/\∀ g3:Nat,Z g3 0/\Q (bV ((ak s).isSome)) (bV (aA s))) ?_
 refine⟨rfl,⟨hs,ha⟩,?_⟩
 intro g3
 refine⟨rfl,?_⟩
 unfold Q
 rw[fC])
theorem MX(w:List Pg)(a:BL):((C5 w a).2=true/\∃ y,bD (w.map F8) a=some y/\(s3 (C5 w a).1).val? =some y)\/((C5 w a).2=false/\bD (w.map F8) a=none/\∃ y,(s3 (C5 w a).1).val? =some y/\∀ w,(zeroValue 82).run Tryz.prog w=.ok y w):=by
 rcases Cv a w with ⟨q1,q2,q3⟩ | ⟨q1,q2⟩
 exact .inr ⟨q2,q1,_,rfl,by rw[q3];exact Tryz.zeroValue82⟩
 exact .inl ⟨q2,_,q1,rfl⟩
def sk(y:Pg):o6 Tryz.prog:=.mk 62 [cO y.addr y.text y.lead y.m5] [] (m4 y) (bV (eI y)) [] (by
 intro hy
 obtain⟨y1,y2,y3,y4,y5,y6⟩:=id hy
 refine aB (N:=36) (rs:=[.tmp 2]) Tryz.func62
  (.bx (fun g1=>.q 1<|.r 2 [.b9]<|.c (gN y.addr) []<|.r 17 [.b9,.b9,.b9]<|.br (.q 1<|.nil) (.r 6 [.b9,.b9]<|.cg (gN y.lead)<|.r 7 [.b9]<|.nil)))
  ((fun v1:Bool=>(fun v2:Bool=>(fun v3:Bool=>(∀ g1:Nat,Z g1 0/\(gN y.addr).sm/\((y.addr.length<=1000000)/\(l8 y.addr))/\Gd (v2==false) (Z g1 1)/\Pk v2 true (v2==false)/\Gd ((v2||v1)==false) (Z g1 3)/\Pk (v2||v1) true ((v2||v1)==false)/\Gd (((v2||v1)||(r8 y.m5 0))==false) (Z g1 3)/\Pk ((v2||v1)||(r8 y.m5 0)) true (((v2||v1)||(r8 y.m5 0))==false)/\Br (((v2||v1)||(r8 y.m5 0))||(w3 y.m5 9)) (Q (bV false) (bV (eI y))) (Z g1 2/\Gd v3 (Z g1 2)/\Gd v3 (((y.lead.length<=1000000)/\(l8 y.lead))/\(gN y.lead).sm)/\Gd (v3&&((aA y.lead)==true)) (Z g1 1)/\Gd v3 (Pk (aA y.lead) (v3&&((aA y.lead)==true)) true)/\Pk (y.lead==[]) true v3/\Q (bV ((y.lead==[])||((aA y.lead)&&(y.text==[])))) (bV (eI y))))) ((y.lead==[])==false)) (!(aA y.addr))) (w3 (y.text.length:Int) 300)) ?_
 intro g1
 refine⟨rfl,rfl,⟨Zaa,hy.aa⟩,fun hG=>rfl,⟨fun _=>rfl,fun h=>by rw[h] <;> rfl⟩,fun hG=>rfl,⟨fun _=>rfl,fun h=>by rw[h] <;> rfl⟩,fun hG=>rfl,⟨fun _=>rfl,fun h=>by rw[h] <;> rfl⟩,?_⟩
 refine bI (fun l3=>?_) fun l3=>?_
 unfold Q
 refine Zbk bV ?_
 unfold eI x4
 grind
 refine⟨rfl,fun hG=>rfl,fun hG=>⟨⟨by(try simp only[nb]at hG);omega,hy.la⟩,rfl⟩,fun hG=>rfl,fun hG=>⟨fun h=>by rw[h];exact(Zam _ _).mpr ⟨hG,rfl⟩,fun _=>rfl⟩,⟨fun _=>rfl,fun h=>by rw[h] <;> rfl⟩,?_⟩
 unfold Q
 refine Zbk bV ?_
 unfold eI x4
 grind)
def kX(a:s4):o6 Tryz.prog:=.mk 79 [cb a.b7 a.e9 a.asks a.ask] [] (dm a) (sV (if aO a=true then bz a else [])) [] (by
 intro ha
 refine aB (N:=8) (rs:=[.tmp 2]) Tryz.func79
  (.bx (fun g1=>.q 1<|.r 1 [.b9]<|.c (gM a) []<|.q 1<|.br (.q 1<|.nil) (.r 1 [.b9]<|.c (nB a) []<|.q 1<|.nil)))
  (∀ g1:Nat,Z g1 0/\(gM a).sm/\((dm a))/\Br (!(aO a)) (Q (sV []) (sV (if aO a=true then bz a else []))) (Z g1 0/\(nB a).sm/\((dm a))/\Q (sV (bz a)) (sV (if aO a=true then bz a else [])))) ?_
 intro g1
 refine⟨rfl,rfl,by first | assumption | exact lr _ | exact hz,?_⟩
 refine bI (fun l3=>?_) fun l3=>?_
 unfold Q
 rw[if_neg (by rw[l3];decide)]
 refine⟨rfl,rfl,Zae,?_⟩
 unfold Q
 rw[if_pos l3])
def jd(w:List Pg):o6 Tryz.prog:=.mk 30 [cC w] [] ((w.length<=30)/\(∀ i,m4 (w.getD i l9))/\(ai w=true)) (.tup [.mp (w.map F8),bV true]) [] (by
 rintro⟨hw,hz,hk⟩
 obtain⟨k1,k2,k3⟩:=Iu hk
 have hwm:∀ i,(i:Nat)<=w.length/\w.length<=i->wE (w.take i)=w.map F8:=fun i hi=>by
  have:=EE i hi.1 (fun j hj k hk=>k3 j Zaa k hk)
  rw[this,Zax Zaa]
 refine aB (N:=31) (rs:=[.tmp 2,.tmp 3]) Tryz.func30
  (.q 2<|.q 3<|.br (.q 2<|.nil) (.cu UG (fun g10=>.q 1<|.q 3<|.loop (Nat×Nat) (fun (i,g)=>⟨[(0,cC w),(4,.om (wE (w.take i)) g),(11,cC w),(12,iN w.length),(13,iN i)],[]⟩) (fun (i,g)=>i<=w.length/\∀ j,j<i->eI (w.getD j l9)=true) (fun (i,g)=>w.length-i) (fun (i,g)=>.q 1<|.br (.r 2 [cO ((w.getD i l9).addr) ((w.getD i l9).text) ((w.getD i l9).lead) ((w.getD i l9).m5)]<|.al pe (fun g6=>.st none<|.r 1 [.b9]<|.c (sk (w.getD i l9)) []<|.q 1<|.br (.q 2<|.nil) (.r 4 [.b9,.b9]<|.cu (Ri 4 (wE (w.take i)) ((w.getD i l9).addr) (nL (w.getD i l9))) (fun _=>.h (.n8 4 (.om (wE (w.take (i+1))) g))<|.q 2<|.nil)))) (.h (.fz 4)<|.h (.n8 4 (.mp (w.map F8)))<|.q 2<|.cu Z5 (fun _=>.q 5<|.nil))))))
  ((fun v1:V=>(Br (w3 (((w.map s3).length:Nat):Int) 12) (Q (.tup [.lit (.map none),bV false]) v1) (True/\∀ g10:Nat,(∃ x:Nat×Nat,match x with | (j7,C9)=>(j7<=w.length/\∀ j,j<j7->eI (w.getD j l9)=true)/\E (cC w)/\Q (.om [] g10) (.om (wE (w.take j7)) C9)/\E (cC w)/\Q (iN ((w.map s3).length)) (iN w.length)/\Q (iN 0) (iN j7)/\True)/\∀ x:Nat×Nat,match x with | (i,g)=>(i<=w.length/\∀ j,j<i->eI (w.getD j l9)=true)->(fun v2:Pg=>Br (r8 (i:Int) (w.length:Int)) (Ex (i:Int) (w.map s3) (cO (v2.addr) (v2.text) (v2.lead) (v2.m5))/\True/\∀ g6:Nat,Z g6 0/\Z g6 0/\(sk v2).sm/\((m4 v2))/\Br (!(eI v2)) (Q (.tup [.lit (.map none),bV false]) v1) (Z g6 0/\Z g6 0/\(((g:Nat)=g/\(wE (w.take i):List (BL×Value))=wE (w.take i))/\((sV (v2.addr):V)=sV (v2.addr))/\(cO (v2.addr) (v2.text) (v2.lead) (v2.m5):V).val? =some (nL v2))/\∀ _:Unit,((.om (dh (wE (w.take i)) (v2.addr) (nL v2)) g:V)=.om (wE (w.take (i+1))) g)/\m8 ((i:Int)+1)/\∃ x:Nat×Nat,match x with | (c9,u7)=>(c9<=w.length/\∀ j,j<c9->eI (w.getD j l9)=true)/\(w.length-c9<w.length-i)/\E (cC w)/\Q (.om (wE (w.take (i+1))) g) (.om (wE (w.take c9)) u7)/\E (cC w)/\E (iN w.length)/\Q (iN (i+1)) (iN c9)/\True)) (((.mp (wE (w.take i)):V)=.mp (w.map F8))/\True/\∀ _:Unit,Q (.tup [.mp (w.map F8),bV (r6 (((w.map F8).length:Nat):Int) (((w.map s3).length:Nat):Int))]) v1)) (w.getD i l9)))) (.tup [.mp (w.map F8),bV true])) ?_
 refine bI (fun l3=>?_) fun l3=>?_
 omega
 refine⟨trivial,?_⟩
 intro g10
 refine⟨⟨(0,g10),?_,rfl,Zaf,rfl,Zaf,rfl,trivial⟩,?_⟩
 simp
 rintro⟨i,g⟩ ⟨h1,h2⟩
 have hzi:=hz i
 refine bI (fun l6=>?_) fun l6=>?_
 refine⟨⟨Zaa,aq (d:=l9) Zaa⟩,trivial,?_⟩
 intro g6
 refine⟨rfl,rfl,rfl,hz i,?_⟩
 refine bI (fun n0=>?_) fun n0=>?_
 have:=k2 i Zaa;simp_all
 refine⟨rfl,rfl,⟨⟨rfl,rfl⟩,rfl,rfl⟩,?_⟩
 intro _
 refine⟨Zbk (V.om · g) ((qI Zaa).symm),Zaa,?_⟩
 refine⟨(i+1,g),?_,?_,rfl,rfl,rfl,rfl,rfl,trivial⟩
 exact⟨Zaa,bJ h2 (by simpa using n0)⟩
 exact Zai
 refine⟨Zbk V.mp (hwm i Zaa),trivial,?_⟩
 intro _
 unfold Q
 rw[show r6 ((w.map F8).length:Int) ((w.map s3).length:Int)=true from by unfold r6;simp])
def kH(w:List Pg):o6 Tryz.prog:=.mk 30 [cC w] [] ((w.length<=30)/\(∀ i,m4 (w.getD i l9))/\(ai w=false)) (.tup [.b9,bV false]) [] (by
 rintro⟨hw,hz,hk⟩
 refine aB (N:=31) (rs:=[.tmp 2,.tmp 3]) Tryz.func30
  (.q 2<|.q 3<|.br (.q 2<|.nil) (.cu UG (fun g10=>.q 1<|.q 3<|.loop (Nat×Nat) (fun (i,g)=>⟨[(0,cC w),(4,.om (wE (w.take i)) g),(11,cC w),(12,iN w.length),(13,iN i)],[]⟩) (fun (i,g)=>i<=w.length/\∀ j,j<i->eI (w.getD j l9)=true) (fun (i,g)=>w.length-i) (fun (i,g)=>.q 1<|.br (.r 2 [cO ((w.getD i l9).addr) ((w.getD i l9).text) ((w.getD i l9).lead) ((w.getD i l9).m5)]<|.al pe (fun g6=>.st none<|.r 1 [.b9]<|.c (sk (w.getD i l9)) []<|.q 1<|.br (.q 2<|.nil) (.r 4 [.b9,.b9]<|.cu (Ri 4 (wE (w.take i)) ((w.getD i l9).addr) (nL (w.getD i l9))) (fun _=>.h (.n8 4 (.om (wE (w.take (i+1))) g))<|.q 2<|.nil)))) (.h (.fz 4)<|.q 2<|.cu Z5 (fun _=>.q 5<|.nil))))))
  ((fun v1:V=>(Br (w3 (((w.map s3).length:Nat):Int) 12) (Q v1 v1) (True/\∀ g10:Nat,(∃ x:Nat×Nat,match x with | (j7,C9)=>(j7<=w.length/\∀ j,j<j7->eI (w.getD j l9)=true)/\E (cC w)/\Q (.om [] g10) (.om (wE (w.take j7)) C9)/\E (cC w)/\Q (iN ((w.map s3).length)) (iN w.length)/\Q (iN 0) (iN j7)/\True)/\∀ x:Nat×Nat,match x with | (i,g)=>(i<=w.length/\∀ j,j<i->eI (w.getD j l9)=true)->(fun v2:Pg=>Br (r8 (i:Int) (w.length:Int)) (Ex (i:Int) (w.map s3) (cO (v2.addr) (v2.text) (v2.lead) (v2.m5))/\True/\∀ g6:Nat,Z g6 0/\Z g6 0/\(sk v2).sm/\((m4 v2))/\Br (!(eI v2)) (Q v1 v1) (Z g6 0/\Z g6 0/\(((g:Nat)=g/\(wE (w.take i):List (BL×Value))=wE (w.take i))/\((sV (v2.addr):V)=sV (v2.addr))/\(cO (v2.addr) (v2.text) (v2.lead) (v2.m5):V).val? =some (nL v2))/\∀ _:Unit,((.om (dh (wE (w.take i)) (v2.addr) (nL v2)) g:V)=.om (wE (w.take (i+1))) g)/\m8 ((i:Int)+1)/\∃ x:Nat×Nat,match x with | (c9,u7)=>(c9<=w.length/\∀ j,j<c9->eI (w.getD j l9)=true)/\(w.length-c9<w.length-i)/\E (cC w)/\Q (.om (wE (w.take (i+1))) g) (.om (wE (w.take c9)) u7)/\E (cC w)/\E (iN w.length)/\Q (iN (i+1)) (iN c9)/\True)) (True/\∀ _:Unit,Q (.tup [.b9,bV (r6 (((wE (w.take i)).length:Nat):Int) (((w.map s3).length:Nat):Int))]) v1)) (w.getD i l9)))) (.tup [.b9,bV false])) ?_
 refine bI (fun l3=>?_) fun l3=>?_
 unfold Q
 rfl
 refine⟨trivial,?_⟩
 intro g10
 refine⟨⟨(0,g10),?_,rfl,Zaf,rfl,Zaf,rfl,trivial⟩,?_⟩
 simp
 rintro⟨i,g⟩ ⟨h1,h2⟩
 have hzi:=hz i
 refine bI (fun l6=>?_) fun l6=>?_
 refine⟨⟨Zaa,aq (d:=l9) Zaa⟩,trivial,?_⟩
 intro g6
 refine⟨rfl,rfl,rfl,hz i,?_⟩
 refine bI (fun n0=>?_) fun n0=>?_
 unfold Q
 rfl
 refine⟨rfl,rfl,⟨⟨rfl,rfl⟩,rfl,rfl⟩,?_⟩
 intro _
 refine⟨Zbk (V.om · g) ((qI Zaa).symm),Zaa,?_⟩
 refine⟨(i+1,g),?_,?_,rfl,rfl,rfl,rfl,rfl,trivial⟩
 exact⟨Zaa,bJ h2 (by simpa using n0)⟩
 exact Zai
 refine⟨trivial,?_⟩
 intro _
 unfold Q
 have q1:=FM w w.length (Zba _)
 have q2:=GY hk Zaa (fun j hj=>h2 j Zaa)
 rw[show i=w.length from Zaa]
 have q3:(wE (w.take w.length)).length≠w.length:=fun c=>q2 (q1.2.1 c)
 rw[show r6 ((wE (w.take w.length)).length:Int) ((w.map s3).length:Int)=false from by unfold r6;exact beq_eq_false_iff_ne.2 (by rw[Zaw];omega)])
def zH(w:List Pg)(a:BL)(n:Int):o6 Tryz.prog:=.mk 90 [.mp (w.map F8),sV a,iV n] [] ((0<=n)/\(n<=1000)) (.tup [iV ((ae w a n).1),sV ((ae w a n).2)]) [] (by
 rintro⟨hn,WE⟩
 refine aB (N:=36) (rs:=[.tmp 6,.tmp 7]) Tryz.func90
  (.q 2<|.q 2<|.cu (lkC (w.map F8) a (cO ((C5 w a).1.addr) ((C5 w a).1.text) ((C5 w a).1.lead) ((C5 w a).1.m5)) ((C5 w a).2)) (fun _=>.q 3<|.al pe (fun g8=>.st none<|.q 1<|.q 7<|.br (.q 2<|.nil) (.r 5 [.b9]<|.br (.q 2<|.nil) (.r 4 [.b9]<|.br (.dx 3 [0,1,2] [(1,⟨false,[],some [8],[33],[]⟩)] []<|.q 1<|.r 1 [.b9]<|.q 1<|.q 1<|.nil) (.dx 3 [0,1,2] [(1,⟨false,[],some [8],[35],[]⟩)] []<|.q 1<|.r 1 [.b9]<|.q 1<|.q 1<|.nil))))))
  (((w.map F8=w.map F8)/\((sV a:V)=sV a)/\((((C5 w a).2)=true/\∃ y,bD (w.map F8) a=some y/\(cO ((C5 w a).1.addr) ((C5 w a).1.text) ((C5 w a).1.lead) ((C5 w a).1.m5):V).val? =some y)\/(((C5 w a).2)=false/\bD (w.map F8) a=none/\∃ y,(cO ((C5 w a).1.addr) ((C5 w a).1.text) ((C5 w a).1.lead) ((C5 w a).1.m5):V).val? =some y/\∀ w,(zeroValue 82).run Tryz.prog w=.ok y w)))/\∀ _:Unit,(fun v1:V=> ∀ g8:Nat,Z g8 0/\Pk (!((C5 w a).2)) true ((!((C5 w a).2))==false)/\Br ((!((C5 w a).2))||(r8 n 0)) (Q (.tup [iN 0,sV []]) v1) (Z g8 3/\Br (r8 n ((C5 w a).1.m5)) (Q (.tup [iN 3,sV []]) v1) (Z g8 2/\Br (!(((C5 w a).1.lead)==[])) (Z g8 2/\Q (.tup [iN 2,sV ((C5 w a).1.lead)]) v1) (Z g8 1/\Q (.tup [iN 1,sV ((C5 w a).1.text)]) v1)))) (.tup [iV ((ae w a n).1),sV ((ae w a n).2)])) ?_
 refine⟨⟨rfl,rfl,MX w a⟩,?_⟩
 intro _
 intro g8
 refine⟨rfl,⟨fun _=>rfl,fun h=>by rw[h] <;> rfl⟩,?_⟩
 refine bI (fun l3=>?_) fun l3=>?_
 unfold Q
 have hx:(C5 w a).2=false:=by grind
 unfold ae
 rw[if_pos hx]
 rfl
 refine⟨rfl,?_⟩
 refine bI (fun l6=>?_) fun l6=>?_
 unfold Q
 have hx:(C5 w a).2=true:=by grind
 unfold ae
 rw[if_neg (by rw[hx];decide),if_pos Zaa]
 rfl
 refine⟨rfl,?_⟩
 refine bI (fun n0=>?_) fun n0=>?_
 refine⟨rfl,?_⟩
 unfold Q
 have hx:(C5 w a).2=true:=by grind
 unfold ae
 rw[if_neg (by rw[hx];decide),if_neg Zaa,if_neg (by grind)]
 rfl
 refine⟨rfl,?_⟩
 unfold Q
 have hx:(C5 w a).2=true:=by grind
 unfold ae
 rw[if_neg (by rw[hx];decide),if_neg Zaa,if_pos (by grind)]
 rfl)
def jP(w:List Pg)(a:BL):o6 Tryz.prog:=.mk 63 [.mp (w.map F8),sV a] [] True (.tup [iV ((ae w a 2).1),sV ((ae w a 2).2)]) [] (by
 intro _
 refine aB (N:=11) (rs:=[.tmp 4,.tmp 5]) Tryz.func63
  (.q 2<|.q 2<|.c (zH w a (2:Int)) []<|.q 4<|.nil)
  ((zH w a (2:Int)).sm/\((0<=(2:Int))/\((2:Int)<=1000))/\Q (.tup [iV ((ae w a (2:Int)).1),sV ((ae w a (2:Int)).2)]) (.tup [iV ((ae w a 2).1),sV ((ae w a 2).2)])) ?_
 refine⟨rfl,⟨Zae,Zae⟩,?_⟩
 unfold Q
 rfl)
end Go.Proofs.YtelggdgnblpjdaaGreatDoor