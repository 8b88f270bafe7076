/-
  Words and walks for the laws of pedlar's seat: what each function of the program computes, and that it does; no conditions beyond those that each statement names.
-/
import Derived.Test.YtelggdgnblpjdaaGreatDoorGB
import Derived.Test.YtelggdgnblpjdaaGreatDoorGA
set_option linter.unusedVariables false
set_option linter.unusedSimpArgs false
set_option linter.unnecessarySimpa false
set_option linter.unusedSectionVars false
namespace Go.Proofs.YtelggdgnblpjdaaGreatDoor
open Go Go.RowKit
set_option maxRecDepth 20000
abbrev ao(p0:List BL):V:=.sl false (p0.map sV)
def nL(b:UInt8):o8 Tryz.prog:=.mk 188 [iN b.toNat] [] True (sV (eG b)) [] (by
 intro _
 have hb:=b.toNat_lt
 refine aq (N:=20) (rs:=[.tmp 2]) Tryz.func188
  (.q 1<|.q 1<|.dx 16 [0,1,2,3,4,5,6,7,8,9,10,11,12,13,14,15] [] []<|.q 1<|.q 1<|.q 1<|.q 1<|.q 1<|.q 1<|.q 1<|.q 1<|.q 1<|.q 1<|.q 1<|.q 1<|.q 1<|.q 1<|.q 1<|.q 1<|.q 1<|.nil)
  ((fun v1:BL=>(fun v2:Int=>(((0:Int)<=v2/\(0:Int)<16/\m6 v2)/\((0:Int)<=v2/\(0:Int)<16/\m6 v2)/\m6 (((b.toNat / 16:Nat):Int)+1)/\Sx ((b.toNat / 16:Nat):Int) (((b.toNat / 16)+1:Nat):Int) v1/\(([37]:BL).length+((v1.take ((b.toNat / 16)+1)).drop (b.toNat / 16)).length<=4611686018427387904)/\((0:Int)<=v2/\(0:Int)<16)/\((0:Int)<=v2/\(0:Int)<16)/\m6 (((b.toNat % 16:Nat):Int)+1)/\Sx ((b.toNat % 16:Nat):Int) (((b.toNat % 16)+1:Nat):Int) v1/\((([37]:BL)++((v1.take ((b.toNat / 16)+1)).drop (b.toNat / 16))).length+((v1.take ((b.toNat % 16)+1)).drop (b.toNat % 16)).length<=4611686018427387904)/\Q (sV ((([37]:BL)++((v1.take ((b.toNat / 16)+1)).drop (b.toNat / 16)))++((v1.take ((b.toNat % 16)+1)).drop (b.toNat % 16)))) (sV (eG b)))) (b.toNat:Int)) ([48,49,50,51,52,53,54,55,56,57,65,66,67,68,69,70]:BL)) ?_
 refine⟨by have:=Zx b;omega,by have:=Zx b;omega,by have:=Zx b;omega,by have:=Zx b;unfold Sx;simp;omega,by have:=Zx b;simp;omega,by have:=Zx b;omega,by have:=Zx b;omega,by have:=Zx b;omega,by have:=Zx b;unfold Sx;simp;omega,by have:=Zx b;simp;omega,?_⟩
 unfold Q
 refine Zo sV ?_
 show [37]++(js.take (b.toNat / 16+1)).drop (b.toNat / 16)++(js.take (b.toNat % 16+1)).drop (b.toNat % 16)=_
 rw[pd (by simp[js];omega) 0,pd (by simp[js];omega) 0];rfl)
def ja(s:BL):o8 Tryz.prog:=.mk 164 [sV s] [] (s.length<=4611686018427387904) (.tup [sV ((bF s).1),bV ((bF s).2)]) [] (by
 intro hs
 refine aq (N:=73) (rs:=[.tmp 2,.tmp 3]) Tryz.func164
  (.q 2<|.q 3<|.br (.q 2<|.nil) (.q 1<|.q 1<|.loop (Nat×BL) (fun (i,o)=>⟨[(0,sV s),(4,sV o),(5,iN i)],[]⟩) (fun (i,o)=>i<=s.length/\o.length<=3*i/\bw s=(bw (s.drop i)).map (o++ ·)) (fun (i,o)=>s.length-i) (fun (i,o)=>.q 4<|.br (.q 5<|.q 4<|.br (.q 10<|.cg (iU (s.getD (i+1) 0))<|.q 7<|.cg (iU (s.getD (i+2) 0))<|.q 2<|.br (.q 2<|.nil) (.dx 12 [0,1,2,3,4,5,6,7,8,9,10,11] [] []<|.q 1<|.q 1<|.q 1<|.q 1<|.c (iU (s.getD (i+1) 0)) []<|.q 1<|.q 1<|.q 1<|.q 1<|.q 1<|.c (iU (s.getD (i+2) 0)) []<|.q 1<|.q 1<|.h (.o4 56 (iN ((cJ (s.getD (i+1) 0) (s.getD (i+2) 0)).toNat)))<|.h (.o4 6 (iN ((cJ (s.getD (i+1) 0) (s.getD (i+2) 0)).toNat)))<|.q 3<|.q 2<|.c (iW (cJ (s.getD (i+1) 0) (s.getD (i+2) 0))) []<|.br (.q 3<|.bs<|.J9 [(cJ (s.getD (i+1) 0) (s.getD (i+2) 0))]<|.q 2<|.q 3<|.nil) (.q 2<|.c (nL (cJ (s.getD (i+1) 0) (s.getD (i+2) 0))) []<|.q 2<|.q 3<|.nil))) (.q 2<|.c (iW (s.getD i 0)) []<|.br (.q 3<|.bs<|.J9 [(s.getD i 0)]<|.q 2<|.q 3<|.nil) (.q 2<|.c (nL (s.getD i 0)) []<|.q 2<|.q 3<|.nil))) (.q 3<|.nil))))
  ((fun v1:Int=>(fun v2:V=>(Br (s7 v1 60) (Q (.tup [sV [],bV false]) v2) ((∃ x:Nat×BL,match x with | (h9,s8)=>(h9<=s.length/\s8.length<=3*h9/\bw s=(bw (s.drop h9)).map (s8++ ·))/\E (sV s)/\Q (sV []) (sV s8)/\Q (iN 0) (iN h9)/\True)/\∀ x:Nat×BL,match x with | (i,o)=>(i<=s.length/\o.length<=3*i/\bw s=(bw (s.drop i)).map (o++ ·))->(fun v9:Int=>(fun v3:Bool=>(fun v4:Bool=>(fun v5:Int=>(fun v6:V=>(fun v7:Int=>(fun v8:Bool=>Br (s4 (i:Int) v1) (Ix (i:Int) s/\m6 v5/\Ix (i:Int) s/\Br (o6 v5 37) (m6 ((i:Int)+2)/\Gd (v3==false) (m6 ((i:Int)+1))/\Gd (v3==false) (Ix ((i+1:Nat):Int) s)/\Gd (v3==false) ((True)/\(iU (s.getD (i+1) 0)).sm)/\Pk v3 true (v3==false)/\Gd v8 (m6 ((i:Int)+2))/\Gd v8 (Ix v9 s)/\Gd v8 ((True)/\(iU (s.getD (i+2) 0)).sm)/\Pk (v3||v4) true v8/\Br ((v3||v4)||(s4 (bW (s.getD (i+2) 0)) 0)) (Q (.tup [sV [],bV false]) v2) (m6 ((i:Int)+1)/\Ix ((i+1:Nat):Int) s/\(iU (s.getD (i+1) 0)).sm/\(True)/\m6 ((bW (s.getD (i+1) 0))*16)/\m6 ((i:Int)+2)/\Ix v9 s/\(iU (s.getD (i+2) 0)).sm/\(True)/\m6 (((bW (s.getD (i+1) 0))*16)+(bW (s.getD (i+2) 0)))/\(v6=iN ((cJ (s.getD (i+1) 0) (s.getD (i+2) 0)).toNat))/\(v6=iN ((cJ (s.getD (i+1) 0) (s.getD (i+2) 0)).toNat))/\m6 ((i:Int)+2)/\Ov v7/\(iW (cJ (s.getD (i+1) 0) (s.getD (i+2) 0))).sm/\(True)/\Br (dE (cJ (s.getD (i+1) 0) (s.getD (i+2) 0))) (Ov v7/\(True)/\([uN ((cJ (s.getD (i+1) 0) (s.getD (i+2) 0)).toNat)]=[(cJ (s.getD (i+1) 0) (s.getD (i+2) 0))].map m7)/\(o.length+([(cJ (s.getD (i+1) 0) (s.getD (i+2) 0))]:BL).length<=4611686018427387904)/\m6 (v9+1)/\∃ x:Nat×BL,match x with | (b9,l7)=>(b9<=s.length/\l7.length<=3*b9/\bw s=(bw (s.drop b9)).map (l7++ ·))/\(s.length-b9<s.length-i)/\E (sV s)/\Q (sV (o++[(cJ (s.getD (i+1) 0) (s.getD (i+2) 0))])) (sV l7)/\Q (iN ((i+2)+1)) (iN b9)/\True) ((nL (cJ (s.getD (i+1) 0) (s.getD (i+2) 0))).sm/\(True)/\(o.length+(eG (cJ (s.getD (i+1) 0) (s.getD (i+2) 0))).length<=4611686018427387904)/\m6 (v9+1)/\∃ x:Nat×BL,match x with | (b9,l7)=>(b9<=s.length/\l7.length<=3*b9/\bw s=(bw (s.drop b9)).map (l7++ ·))/\(s.length-b9<s.length-i)/\E (sV s)/\Q (sV (o++(eG (cJ (s.getD (i+1) 0) (s.getD (i+2) 0))))) (sV l7)/\Q (iN ((i+2)+1)) (iN b9)/\True))) (Ov v5/\(iW (s.getD i 0)).sm/\(True)/\Br (dE (s.getD i 0)) (Ov v5/\(True)/\([uN ((s.getD i 0).toNat)]=[(s.getD i 0)].map m7)/\(o.length+([(s.getD i 0)]:BL).length<=4611686018427387904)/\m6 ((i:Int)+1)/\∃ x:Nat×BL,match x with | (b9,l7)=>(b9<=s.length/\l7.length<=3*b9/\bw s=(bw (s.drop b9)).map (l7++ ·))/\(s.length-b9<s.length-i)/\E (sV s)/\Q (sV (o++[(s.getD i 0)])) (sV l7)/\Q (iN (i+1)) (iN b9)/\True) ((nL (s.getD i 0)).sm/\(True)/\(o.length+(eG (s.getD i 0)).length<=4611686018427387904)/\m6 ((i:Int)+1)/\∃ x:Nat×BL,match x with | (b9,l7)=>(b9<=s.length/\l7.length<=3*b9/\bw s=(bw (s.drop b9)).map (l7++ ·))/\(s.length-b9<s.length-i)/\E (sV s)/\Q (sV (o++(eG (s.getD i 0)))) (sV l7)/\Q (iN (i+1)) (iN b9)/\True))) (Q (.tup [sV o,bV true]) v2)) ((v3||v4)==false)) (((cJ (s.getD (i+1) 0) (s.getD (i+2) 0)).toNat:Nat):Int)) (iV (((bW (s.getD (i+1) 0))*16)+(bW (s.getD (i+2) 0))):V)) (((s.getD i 0).toNat:Nat):Int)) (s4 (bW (s.getD (i+1) 0)) 0)) (x6 v9 v1)) ((i+2:Nat):Int)))) (.tup [sV ((bF s).1),bV ((bF s).2)])) (s.length:Int)) ?_
 refine bI (fun j7=>?_) fun j7=>?_
 unfold Q
 rw[show bF s=([],false) from if_neg Z9]
 refine⟨⟨(0,[]),?_,rfl,rfl,rfl,trivial⟩,?_⟩
 refine⟨Z9,Z8,?_⟩
 cases h:bw s <;> simp[h]
 rintro⟨i,o⟩ ⟨hi,ho,LX⟩
 refine bI (fun l4=>?_) fun l4=>?_
 refine⟨Z9,by have:=Zx (s.getD i 0);omega,Z9,?_⟩
 refine bI (fun m8=>?_) fun m8=>?_
 refine⟨Z9,fun hG=>by(try simp only[nb]at hG);omega,fun hG=>by(try simp only[nb]at hG);omega,fun hG=>⟨trivial,rfl⟩,⟨fun _=>rfl,fun h=>by rw[h] <;> rfl⟩,fun hG=>by(try simp only[nb]at hG);omega,fun hG=>by(try simp only[nb]at hG);omega,fun hG=>⟨trivial,rfl⟩,⟨fun _=>rfl,fun h=>by rw[h] <;> rfl⟩,?_⟩
 refine bI (fun w7=>?_) fun w7=>?_
 unfold Q
 rw[show bF s=([],false) from by unfold bF;rw[LX,xw Z9 Z9 Z9];simp]
 refine⟨Z9,Z9,rfl,trivial,by have:=fe (s.getD (i+1) 0);have:=gy (s.getD (i+1) 0);omega,Z9,Z9,rfl,trivial,by have:=fe (s.getD (i+1) 0);have:=gy (s.getD (i+1) 0);have:=fe (s.getD (i+2) 0);have:=gy (s.getD (i+2) 0);omega,(Zo iV (rn Z9 Z9).symm),(Zo iV (rn Z9 Z9).symm),Z9,by have:=Zx (cJ (s.getD (i+1) 0) (s.getD (i+2) 0));omega,rfl,trivial,?_⟩
 refine bI (fun G8=>?_) fun G8=>?_
 refine⟨by have:=Zx (cJ (s.getD (i+1) 0) (s.getD (i+2) 0));omega,trivial,rfl,Z3,Z9,?_⟩
 refine⟨((i+2)+1,o++[(cJ (s.getD (i+1) 0) (s.getD (i+2) 0))]),?_,?_,rfl,rfl,rfl,trivial⟩
 have he:ef (cJ (s.getD (i+1) 0) (s.getD (i+2) 0))=[(cJ (s.getD (i+1) 0) (s.getD (i+2) 0))]:=by unfold ef;rw[if_pos G8]
 have hl:=eA (cJ (s.getD (i+1) 0) (s.getD (i+2) 0))
 rw[he]at hl
 refine⟨Z9,by rw[ZW];omega,?_⟩
 rw[LX,oW Z9 Z9 Z9 Z9,he]
 cases bw (s.drop (i+3)) <;> simp
 exact Z1
 refine⟨rfl,trivial,by have:(eG (cJ (s.getD (i+1) 0) (s.getD (i+2) 0))).length=3:=rfl;(try simp only[ZW,ZU,ZQ]);omega,Z9,?_⟩
 refine⟨((i+2)+1,o++(eG (cJ (s.getD (i+1) 0) (s.getD (i+2) 0)))),?_,?_,rfl,rfl,rfl,trivial⟩
 have he:ef (cJ (s.getD (i+1) 0) (s.getD (i+2) 0))=eG (cJ (s.getD (i+1) 0) (s.getD (i+2) 0)):=by unfold ef;rw[if_neg (by rw[G8];decide)]
 have hl:=eA (cJ (s.getD (i+1) 0) (s.getD (i+2) 0))
 rw[he]at hl
 refine⟨Z9,by rw[ZW];omega,?_⟩
 rw[LX,oW Z9 Z9 Z9 Z9,he]
 cases bw (s.drop (i+3)) <;> simp
 exact Z1
 refine⟨by have:=Zx (s.getD i 0);omega,rfl,trivial,?_⟩
 refine bI (fun MN=>?_) fun MN=>?_
 refine⟨by have:=Zx (s.getD i 0);omega,trivial,rfl,Z3,Z9,?_⟩
 refine⟨(i+1,o++[(s.getD i 0)]),?_,?_,rfl,rfl,rfl,trivial⟩
 have he:ef (s.getD i 0)=[(s.getD i 0)]:=by unfold ef;rw[if_pos MN]
 have hl:=eA (s.getD i 0)
 rw[he]at hl
 refine⟨Z9,by rw[ZW];omega,?_⟩
 rw[LX,mr Z9 Z9,he]
 cases bw (s.drop (i+1)) <;> simp
 exact Z1
 refine⟨rfl,trivial,by have:(eG (s.getD i 0)).length=3:=rfl;(try simp only[ZW,ZU,ZQ]);omega,Z9,?_⟩
 refine⟨(i+1,o++(eG (s.getD i 0))),?_,?_,rfl,rfl,rfl,trivial⟩
 have he:ef (s.getD i 0)=eG (s.getD i 0):=by unfold ef;rw[if_neg (by rw[MN];decide)]
 have hl:=eA (s.getD i 0)
 rw[he]at hl
 refine⟨Z9,by rw[ZW];omega,?_⟩
 rw[LX,mr Z9 Z9,he]
 cases bw (s.drop (i+1)) <;> simp
 exact Z1
 unfold Q
 rw[ZC Z9]at LX
 rw[show bF s=(o,true) from by unfold bF;rw[LX,if_pos Z9];simp[bw]])
def oj(s:BL):o8 Tryz.prog:=.mk 136 [sV s] [] (s.length<=4611686018427387904) (bV (eF s)) [] (by
 intro hs
 refine aq (N:=16) (rs:=[.tmp 2]) Tryz.func136
  (.q 1<|.q 1<|.c (ja s) []<|.q 5<|.q 7<|.nil)
  ((ja s).sm/\((s.length<=4611686018427387904))/\Pk ((bF s).2) (((bF s).2)==true) true/\Q (bV (((bF s).2)&&(((bF s).1)==s))) (bV (eF s))) ?_
 refine⟨rfl,Z5,⟨fun h=>by rw[h] <;> rfl,fun _=>rfl⟩,?_⟩
 unfold Q
 rfl)
abbrev ir(s:BL)(c:UInt8)(o:List BL)(r:BL)(m:Bool)(g:Nat)(f:Nat)(k:Nat):Prop:=(m=true->ah c s=o++ah c r)/\(m=false->ah c s=o)/\o.length+r.length<=s.length+cond m 0 1/\r.length<=s.length
def vh(s:BL)(c:UInt8):o8 Tryz.prog:=.mk 163 [sV s,uN c.toNat] [] (s.length<=1099511627776) (ao (ah c s)) [] (by
 intro hs
 refine aq (N:=24) (rs:=[.tmp 4]) Tryz.func163
  (.q 1<|.bs<|.q 1<|.q 2<|.q 1<|.h (.H2 5 1)<|.loop ((List BL)×BL×Bool×Nat×Nat×Nat) (fun (o,r,m,g,f,k)=>⟨[(0,sV s),(1,uN c.toNat),(5,.own 1 (o.map sV) g f k),(6,sV r),(7,bV m)],[]⟩) (fun (o,r,m,g,f,k)=>ir s c o r m g f k) (fun (o,r,m,g,f,k)=>cond m (r.length+1) 0) (fun (o,r,m,g,f,k)=>.q 1<|.br (.q 1<|.q 2<|.c (lu r c) []<|.q 7<|.q 2<|.bs<|.ap (fun g22 RF SH=>.h (.o4 22 (.own 1 ((o++[(ab c r).1]).map sV) g22 RF SH))<|.q 1<|.nil)) (.h (.fz 5)<|.h (.o4 5 (ao o))<|.q 2<|.nil)))
  ((∃ x:(List BL)×BL×Bool×Nat×Nat×Nat,match x with | (s8,MJ,MX,A5,x9,r9)=>(ir s c s8 MJ MX A5 x9 r9)/\E (sV s)/\E (uN c.toNat)/\Q (.own 1 ([].map sV) 0 0 0) (.own 1 (s8.map sV) A5 x9 r9)/\Q (sV s) (sV MJ)/\Q (bV true) (bV MX)/\True)/\∀ x:(List BL)×BL×Bool×Nat×Nat×Nat,match x with | (o,r,m,g,f,k)=>(ir s c o r m g f k)->(fun v1:List V=>Br m ((lu r c).sm/\((r.length<=4611686018427387904))/\((1,1,g,f,k,(o.map sV).length)=(1,1,g,f,k,(o.map sV).length))/\(True)/\(V.ay v1=false)/\(aC 1 v1)/\(((o.map sV).length+v1.length)*16<=140737488355328)/\∀ g22 RF SH:Nat,((.own 1 ((o.map sV)++v1) g22 RF SH:V)=.own 1 ((o++[(ab c r).1]).map sV) g22 RF SH)/\∃ x:(List BL)×BL×Bool×Nat×Nat×Nat,match x with | (l7,B5,m₂,s3,o9,k₂)=>(ir s c l7 B5 m₂ s3 o9 k₂)/\(cond m₂ (B5.length+1) 0<cond m (r.length+1) 0)/\E (sV s)/\E (uN c.toNat)/\Q (.own 1 ((o++[(ab c r).1]).map sV) g22 RF SH) (.own 1 (l7.map sV) s3 o9 k₂)/\Q (sV ((ab c r).2.1)) (sV B5)/\Q (bV ((ab c r).2.2)) (bV m₂)/\True) (((.sl false (V.D5 (o.map sV)):V)=ao o)/\Q (ao o) (ao (ah c s)))) ([sV ((ab c r).1)]:List V)) ?_
 refine⟨⟨([],s,true,0,0,0),?_,rfl,rfl,rfl,rfl,rfl,trivial⟩,?_⟩
 unfold ir
 simp
 rintro⟨o,r,m,g,f,k⟩ ⟨h1,h2,h3,h4⟩
 refine bI (fun j7=>?_) fun j7=>?_
 refine⟨rfl,Z5,rfl,trivial,rfl,by simp[aC,V.n,V.ns],by rw[j7]at h3;simp at h3 ⊢;omega,?_⟩
 intro g22 RF SH
 refine⟨Zo (V.own 1 · g22 RF SH) Z8,?_⟩
 refine⟨(o++[(ab c r).1],(ab c r).2.1,(ab c r).2.2,g22,RF,SH),?_,?_,rfl,rfl,rfl,rfl,rfl,trivial⟩
 unfold ir
 have hl:=xM c r
 subst j7
 have h1:=h1 rfl
 rw[sS c r]at h1
 have hle:=kE c r
 refine⟨fun hm=>?_,fun hm=>?_,?_,Z9⟩
 rw[h1,hm];simp
 rw[h1,hm];simp
 simp only[ZW,ZU,ZQ];cases hm:(ab c r).2.2 <;> simp[hm]at hl h3 ⊢ <;> omega
 have:=xM c r
 subst j7
 cases hm:(ab c r).2.2 <;> simp[hm]at this ⊢;omega
 refine⟨Zo (V.sl false) (aM (fun _=>rfl) _),?_⟩
 unfold Q
 rw[h2 j7])
def qX(ps:List BL):o8 Tryz.prog:=.mk 165 [ao ps] [] (ps.length<=1099511627776) (ao (bG ps)) [] (by
 intro hs
 refine aq (N:=45) (rs:=[.tmp 2]) Tryz.func165
  (.q 1<|.bs<|.q 1<|.q 1<|.h (.H2 3 1)<|.loop (Nat×(List BL)×Nat×Nat×Nat) (fun (i,o,g,f,k)=>⟨[(0,ao ps),(3,.own 1 (o.map sV) g f k),(4,iN i)],[]⟩) (fun (i,o,g,f,k)=>i<=ps.length/\o=bG (ps.take i)/\o.length<=i) (fun (i,o,g,f,k)=>ps.length-i) (fun (i,o,g,f,k)=>.q 4<|.br (.r 13 [sV (ps.getD i []),sV (ps.getD i [])]<|.br (.q 3<|.nil) (.r 6 [sV (ps.getD i [])]<|.br (.q 4<|.mm<|.q 1<|.rs<|.h (.o4 3 (.own 1 (o.dropLast.map sV) g (f+(0+((0:Int).toNat))*1) (k-((0:Int).toNat))))<|.q 3<|.nil) (.r 5 [sV (ps.getD i [])]<|.bs<|.ap (fun g18 RG SI=>.h (.o4 18 (.own 1 ((o++[(ps.getD i [])]).map sV) g18 RG SI))<|.q 1<|.q 3<|.nil)))) (.h (.fz 3)<|.h (.o4 3 (ao o))<|.q 2<|.nil)))
  ((∃ x:Nat×(List BL)×Nat×Nat×Nat,match x with | (h9,s8,A5,x9,r9)=>(h9<=ps.length/\s8=bG (ps.take h9)/\s8.length<=h9)/\E (ao ps)/\Q (.own 1 ([].map sV) 0 0 0) (.own 1 (s8.map sV) A5 x9 r9)/\Q (iN 0) (iN h9)/\True)/\∀ x:Nat×(List BL)×Nat×Nat×Nat,match x with | (i,o,g,f,k)=>(i<=ps.length/\o=bG (ps.take i)/\o.length<=i)->(fun v1:Int=>(fun v2:List V=>(fun v3:Bool=>(fun v4:V=>Br (s4 (i:Int) (((ps.map sV).length:Nat):Int)) (Ex (i:Int) (ps.map sV) v4/\True/\Gd v3 (Ex (i:Int) (ps.map sV) v4)/\Gd v3 True/\Pk ((ps.getD i [])==[]) true v3/\Br (((ps.getD i [])==[])||((ps.getD i [])==([46]:BL))) (m6 ((i:Int)+1)/\∃ x:Nat×(List BL)×Nat×Nat×Nat,match x with | (b9,l7,s3,o9,k₂)=>(b9<=ps.length/\l7=bG (ps.take b9)/\l7.length<=b9)/\(ps.length-b9<ps.length-i)/\E (ao ps)/\Q (.own 1 (o.map sV) g f k) (.own 1 (l7.map sV) s3 o9 k₂)/\Q (iN (i+1)) (iN b9)/\True) (Ex (i:Int) (ps.map sV) v4/\True/\Br ((ps.getD i [])==([46,46]:BL)) (m6 (v1-1)/\(IntKind.i64=IntKind.i64)/\((0:Int)<=(0:Int)/\(0:Int)<=(max (v1-1) 0)/\(max (v1-1) 0)<=((o.map sV).length)/\1=1)/\((3,1,g,f)=(3,1,g,f))/\((0+((0:Int).toNat))+((Int.toNat (max (v1-1) 0))-((0:Int).toNat))<=(o.map sV).length/\(0+((0:Int).toNat))+(k-((0:Int).toNat))<=k/\V.ay (o.map sV)=false)/\((.own 1 (((o.map sV).drop (0+((0:Int).toNat))).take ((Int.toNat (max (v1-1) 0))-((0:Int).toNat))) g (f+(0+((0:Int).toNat))*1) (k-((0:Int).toNat)):V)=.own 1 (o.dropLast.map sV) g (f+(0+((0:Int).toNat))*1) (k-((0:Int).toNat)))/\m6 ((i:Int)+1)/\∃ x:Nat×(List BL)×Nat×Nat×Nat,match x with | (b9,l7,s3,o9,k₂)=>(b9<=ps.length/\l7=bG (ps.take b9)/\l7.length<=b9)/\(ps.length-b9<ps.length-i)/\E (ao ps)/\Q (.own 1 (o.dropLast.map sV) g (f+(0+((0:Int).toNat))*1) (k-((0:Int).toNat))) (.own 1 (l7.map sV) s3 o9 k₂)/\Q (iN (i+1)) (iN b9)/\True) (Ex (i:Int) (ps.map sV) v4/\True/\((1,1,g,f,k,(o.map sV).length)=(1,1,g,f,k,(o.map sV).length))/\(True)/\(V.ay v2=false)/\(aC 1 v2)/\(((o.map sV).length+v2.length)*16<=140737488355328)/\∀ g18 RG SI:Nat,((.own 1 ((o.map sV)++v2) g18 RG SI:V)=.own 1 ((o++[(ps.getD i [])]).map sV) g18 RG SI)/\m6 ((i:Int)+1)/\∃ x:Nat×(List BL)×Nat×Nat×Nat,match x with | (b9,l7,s3,o9,k₂)=>(b9<=ps.length/\l7=bG (ps.take b9)/\l7.length<=b9)/\(ps.length-b9<ps.length-i)/\E (ao ps)/\Q (.own 1 ((o++[(ps.getD i [])]).map sV) g18 RG SI) (.own 1 (l7.map sV) s3 o9 k₂)/\Q (iN (i+1)) (iN b9)/\True))) (((.sl false (V.D5 (o.map sV)):V)=ao o)/\Q (ao o) (ao (bG ps)))) (sV (ps.getD i []))) (((ps.getD i [])==[])==false)) ([sV (ps.getD i [])]:List V)) (((o.map sV).length:Nat):Int)) ?_
 refine⟨⟨(0,[],0,0,0),?_,rfl,rfl,rfl,trivial⟩,?_⟩
 simp[bG]
 rintro⟨i,o,g,f,k⟩ ⟨h1,h2,h3⟩
 refine bI (fun j7=>?_) fun j7=>?_
 refine⟨⟨Z9,aj (d:=[]) Z9⟩,trivial,fun hG=>⟨Z9,aj (d:=[]) Z9⟩,fun hG=>trivial,⟨fun _=>rfl,fun h=>by rw[h] <;> rfl⟩,?_⟩
 refine bI (fun l4=>?_) fun l4=>?_
 refine⟨Z9,?_⟩
 refine⟨(i+1,o,g,f,k),?_,?_,rfl,rfl,rfl,trivial⟩
 refine⟨Z9,?_,Z9⟩
 rw[fU Z9,<- h2,cv,if_pos l4]
 exact Z1
 refine⟨⟨Z9,aj (d:=[]) Z9⟩,trivial,?_⟩
 refine bI (fun m8=>?_) fun m8=>?_
 refine⟨Z2,rfl,⟨Z9,Z9,Z9,rfl⟩,rfl,⟨by simp <;> omega,Z8,ct (fun _=>rfl) _⟩,Zo (V.own 1 · g (f+(0+((0:Int).toNat))*1) (k-((0:Int).toNat))) (by rw[show (0+Int.toNat 0)=0 from rfl,List.drop_zero,<- List.map_take,List.dropLast_eq_take];congr 2;simp;omega),Z9,?_⟩
 refine⟨(i+1,o.dropLast,g,f+(0+((0:Int).toNat))*1,k-((0:Int).toNat)),?_,?_,rfl,rfl,rfl,trivial⟩
 refine⟨Z9,?_,Z0⟩
 rw[fU Z9,<- h2,cv,if_neg (by simpa using l4),if_pos m8]
 exact Z1
 refine⟨⟨Z9,aj (d:=[]) Z9⟩,trivial,rfl,trivial,rfl,by simp[aC,V.n,V.ns],Z0,?_⟩
 intro g18 RG SI
 refine⟨Zo (V.own 1 · g18 RG SI) Z8,Z9,?_⟩
 refine⟨(i+1,o++[(ps.getD i [])],g18,RG,SI),?_,?_,rfl,rfl,rfl,trivial⟩
 refine⟨Z9,?_,Z0⟩
 rw[fU Z9,<- h2,cv,if_neg (by simpa using l4),if_neg m8]
 exact Z1
 refine⟨Zo (V.sl false) (aM (fun _=>rfl) _),?_⟩
 unfold Q
 rw[h2,ZL Z9])
abbrev bq(p0:BL)(p1:List BL)(p2:Bool)(p3:BL):V:=.agg [sV p0,.sl false (p1.map sV),bV p2,sV p3]
def wQ(a:r8):o8 Tryz.prog:=.mk 137 [bq a.c9 a.a8 a.asks a.ask] [] (dH a) (sV (bD a)) [] (by
 intro ha
 obtain⟨z1,z2,z3,z4⟩:=ha
 refine aq (N:=31) (rs:=[.tmp 2]) Tryz.func137
  (.bx (fun g1=>.q 1<|.q 1<|.q 1<|.loop (Nat×BL) (fun (i,o)=>⟨[(1,.ptr (.key 1) [] g1 0),(3,sV o),(4,iN i)],[(1,(g1,bq a.c9 a.a8 a.asks a.ask))]⟩) (fun (i,o)=>i<=a.a8.length/\o=[47]++bS (a.a8.take i)) (fun (i,o)=>a.a8.length-i) (fun (i,o)=>.r 5 [.b7]<|.br (.q 2<|.br (.q 3<|.r 8 [.b7,sV (a.a8.getD i [])]<|.q 3<|.nil) (.r 8 [.b7,sV (a.a8.getD i [])]<|.q 3<|.nil)) (.r 2 [.b7]<|.br (.r 6 [.b7]<|.q 2<|.nil) (.q 2<|.nil)))))
  ((fun v1:V=>(fun v2:BL=>(∀ g1:Nat,(∃ x:Nat×BL,match x with | (h9,s8)=>(h9<=a.a8.length/\s8=[47]++bS (a.a8.take h9))/\E (.ptr (.key 1) [] g1 0)/\Q (sV v2) (sV s8)/\Q (iN 0) (iN h9)/\Er g1 v1/\True)/\∀ x:Nat×BL,match x with | (i,o)=>(i<=a.a8.length/\o=[47]++bS (a.a8.take i))->Z g1 1/\Br (s4 (i:Int) (((a.a8.map sV).length:Nat):Int)) (Br (s7 (i:Int) 0) ((o.length+v2.length<=4611686018427387904)/\Z g1 1/\Ex (i:Int) (a.a8.map sV) (sV (a.a8.getD i []))/\True/\((o++v2).length+(a.a8.getD i []).length<=4611686018427387904)/\m6 ((i:Int)+1)/\∃ x:Nat×BL,match x with | (b9,l7)=>(b9<=a.a8.length/\l7=[47]++bS (a.a8.take b9))/\(a.a8.length-b9<a.a8.length-i)/\E (.ptr (.key 1) [] g1 0)/\Q (sV ((o++v2)++(a.a8.getD i []))) (sV l7)/\Q (iN (i+1)) (iN b9)/\Er g1 v1/\True) (Z g1 1/\Ex (i:Int) (a.a8.map sV) (sV (a.a8.getD i []))/\True/\(o.length+(a.a8.getD i []).length<=4611686018427387904)/\m6 ((i:Int)+1)/\∃ x:Nat×BL,match x with | (b9,l7)=>(b9<=a.a8.length/\l7=[47]++bS (a.a8.take b9))/\(a.a8.length-b9<a.a8.length-i)/\E (.ptr (.key 1) [] g1 0)/\Q (sV (o++(a.a8.getD i []))) (sV l7)/\Q (iN (i+1)) (iN b9)/\Er g1 v1/\True)) (Z g1 2/\Br a.asks ((o.length+([63]:BL).length<=4611686018427387904)/\Z g1 3/\((o++([63]:BL)).length+a.ask.length<=4611686018427387904)/\Q (sV ((o++([63]:BL))++a.ask)) (sV (bD a))) (Q (sV o) (sV (bD a)))))) ([47]:BL)) (bq a.c9 a.a8 a.asks a.ask)) ?_
 intro g1
 refine⟨⟨(0,[47]),?_,rfl,Z4,rfl,rfl,trivial⟩,?_⟩
 simp[bS]
 rintro⟨i,o⟩ ⟨h1,h2⟩
 have hl:=qe z4 i h1
 have R5:o.length<=1+i*1048577:=by rw[h2];simp;omega
 have W9:=z4 i
 refine⟨rfl,?_⟩
 refine bI (fun j7=>?_) fun j7=>?_
 refine bI (fun l4=>?_) fun l4=>?_
 refine⟨Z3,rfl,⟨Z9,aj (d:=[]) Z9⟩,trivial,Z3,Z9,?_⟩
 refine⟨(i+1,(o++([47]:BL))++(a.a8.getD i [])),?_,?_,rfl,rfl,rfl,rfl,trivial⟩
 refine⟨Z9,?_⟩
 rw[h2,aW (by omega:i<a.a8.length) [],kX,if_neg (by intro h;have:=Zo List.length h;simp only[List.length_take,ZQ]at this;omega)]
 simp[List.append_assoc]
 exact Z1
 refine⟨rfl,⟨Z9,aj (d:=[]) Z9⟩,trivial,Z3,Z9,?_⟩
 refine⟨(i+1,o++(a.a8.getD i [])),?_,?_,rfl,rfl,rfl,rfl,trivial⟩
 refine⟨Z9,?_⟩
 have hi0:i=0:=Z9
 subst hi0
 rw[h2,aW (by omega:0<a.a8.length) []];simp[bS]
 exact Z1
 refine⟨rfl,?_⟩
 refine bI (fun m8=>?_) fun m8=>?_
 refine⟨Z3,rfl,Z3,?_⟩
 unfold Q
 refine Zo sV ?_
 rw[h2,ZL Z9]
 unfold bD;rw[if_pos m8];simp[List.append_assoc]
 unfold Q
 refine Zo sV ?_
 rw[h2,ZL Z9]
 unfold bD;rw[if_neg (by rw[m8];decide)];simp)
def od(a:r8):o8 Tryz.prog:=.mk 111 [bq a.c9 a.a8 a.asks a.ask] [] (dH a) (sV (cd a)) [] (by
 intro ha
 have hp:=DJ ha
 have h1:=ha.1
 refine aq (N:=9) (rs:=[.tmp 2]) Tryz.func111
  (.bx (fun g1=>.q 1<|.dx 6 [0,1,2,3,4,5] [(1,⟨false,[],some [1],[4],[]⟩),(3,⟨false,[],some [1],[6],[]⟩)] []<|.q 1<|.r 1 [.b7]<|.q 1<|.r 1 [.b7]<|.c (wQ a) []<|.q 1<|.q 1<|.nil))
  (∀ g1:Nat,Z g1 0/\(([47,47]:BL).length+a.c9.length<=4611686018427387904)/\Z g1 0/\(wQ a).sm/\((dH a))/\((([47,47]:BL)++a.c9).length+(bD a).length<=4611686018427387904)/\Q (sV ((([47,47]:BL)++a.c9)++(bD a))) (sV (cd a))) ?_
 intro g1
 refine⟨rfl,Z3,rfl,rfl,by first | assumption | exact si _ | simp_all,Z3,?_⟩
 unfold Q
 rfl)
def pa(a:r8):o8 Tryz.prog:=.mk 110 [bq a.c9 a.a8 a.asks a.ask] [] (dH a) (bV (aG a)) [] (by
 intro ha
 obtain⟨z1,z2,z3,z4⟩:=id ha
 refine aq (N:=72) (rs:=[.tmp 2]) Tryz.func110
  (.bx (fun g1=>.q 1<|.r 2 [.b7]<|.c (vL a.c9) []<|.r 10 [.b7,.b7]<|.cg (oj a.ask)<|.r 12 [.b7,.b7]<|.br (.q 1<|.nil) (.q 1<|.loop (Nat) (fun (i:Nat)=>⟨[(1,.ptr (.key 1) [] g1 0),(3,iN i)],[(1,(g1,bq a.c9 a.a8 a.asks a.ask))]⟩) (fun (i:Nat)=>i<=a.a8.length/\∀ j,j<i->dM (a.a8.getD j [])=true) (fun (i:Nat)=>a.a8.length-i) (fun (i:Nat)=>.r 5 [.b7]<|.br (.r 5 [.b7,sV (a.a8.getD i [])]<|.c (oj (a.a8.getD i [])) []<|.r 25 [.b7,sV (a.a8.getD i []),.b7,sV (a.a8.getD i []),.b7,sV (a.a8.getD i [])]<|.br (.q 1<|.nil) (.q 3<|.nil)) (.r 1 [.b7]<|.c (od a) []<|.q 3<|.nil)))))
  ((fun v1:Bool=>(fun v3:Bool=>(fun v2:Bool=>(fun v4:BL=>(∀ g1:Nat,Z g1 0/\(vL a.c9).sm/\((a.c9.length<=4611686018427387904))/\Gd (v3==false) (Z g1 1)/\Pk v3 true (v3==false)/\Gd ((v3||v1)==false) (Z g1 3)/\Gd ((v3||v1)==false) (((a.ask.length<=4611686018427387904))/\(oj a.ask).sm)/\Pk (v3||v1) true ((v3||v1)==false)/\Gd v2 (Z g1 2)/\Gd (v2&&((!a.asks)==true)) (Z g1 3)/\Gd v2 (Pk (!a.asks) (v2&&((!a.asks)==true)) true)/\Pk ((v3||v1)||(!(eF a.ask))) true v2/\Br (((v3||v1)||(!(eF a.ask)))||((!a.asks)&&(!(a.ask==[])))) (Q (bV false) (bV (aG a))) ((∃ h9:Nat,(h9<=a.a8.length/\∀ j,j<h9->dM (a.a8.getD j [])=true)/\E (.ptr (.key 1) [] g1 0)/\Q (iN 0) (iN h9)/\Er g1 (bq a.c9 a.a8 a.asks a.ask)/\True)/\∀ i:Nat,(i<=a.a8.length/\∀ j,j<i->dM (a.a8.getD j [])=true)->(fun v5:Bool=>(fun v6:Bool=>(fun v7:Bool=>(fun v8:V=>Z g1 1/\Br (s4 (i:Int) (((a.a8.map sV).length:Nat):Int)) (Z g1 1/\Ex (i:Int) (a.a8.map sV) v8/\True/\(oj (a.a8.getD i [])).sm/\(((a.a8.getD i []).length<=4611686018427387904))/\Gd (v5==false) (Z g1 1)/\Gd (v5==false) (Ex (i:Int) (a.a8.map sV) v8)/\Gd (v5==false) True/\Pk v5 true (v5==false)/\Gd v7 (Z g1 1)/\Gd v7 (Ex (i:Int) (a.a8.map sV) v8)/\Gd v7 True/\Pk (v5||((a.a8.getD i [])==[])) true v7/\Gd v6 (Z g1 1)/\Gd v6 (Ex (i:Int) (a.a8.map sV) v8)/\Gd v6 True/\Pk ((v5||((a.a8.getD i [])==[]))||((a.a8.getD i [])==v4)) true v6/\Br (((v5||((a.a8.getD i [])==[]))||((a.a8.getD i [])==v4))||((a.a8.getD i [])==([46,46]:BL))) (Q (bV false) (bV (aG a))) (m6 ((i:Int)+1)/\∃ b9:Nat,(b9<=a.a8.length/\∀ j,j<b9->dM (a.a8.getD j [])=true)/\(a.a8.length-b9<a.a8.length-i)/\E (.ptr (.key 1) [] g1 0)/\Q (iN (i+1)) (iN b9)/\Er g1 (bq a.c9 a.a8 a.asks a.ask)/\True)) (Z g1 0/\(od a).sm/\((dH a))/\Q (bV (C6 (((cd a).length:Nat):Int) 60)) (bV (aG a)))) (sV (a.a8.getD i []))) ((v5||((a.a8.getD i [])==[]))==false)) (((v5||((a.a8.getD i [])==[]))||((a.a8.getD i [])==v4))==false)) (!(eF (a.a8.getD i [])))))) ([46]:BL)) (((v3||v1)||(!(eF a.ask)))==false)) (!(ck a.c9))) (s7 (((a.a8.map sV).length:Nat):Int) 5)) ?_
 intro g1
 refine⟨rfl,rfl,Z5,fun hG=>rfl,⟨fun _=>rfl,fun h=>by rw[h] <;> rfl⟩,fun hG=>rfl,fun hG=>⟨by(try simp only[nb]at hG);first | assumption | omega | (simp;omega),rfl⟩,⟨fun _=>rfl,fun h=>by rw[h] <;> rfl⟩,fun hG=>rfl,fun hG=>rfl,fun hG=>⟨fun h=>by rw[h];exact(ZX _ _).mpr ⟨hG,rfl⟩,fun _=>rfl⟩,⟨fun _=>rfl,fun h=>by rw[h] <;> rfl⟩,?_⟩
 refine bI (fun j7=>?_) fun j7=>?_
 unfold Q
 refine Zo bV ?_
 unfold aG
 grind
 refine⟨⟨0,?_,rfl,rfl,rfl,trivial⟩,?_⟩
 simp
 rintro i ⟨h1,h2⟩
 have W9:=z4 i
 refine⟨rfl,?_⟩
 refine bI (fun l4=>?_) fun l4=>?_
 refine⟨rfl,⟨Z9,aj (d:=[]) Z9⟩,trivial,rfl,Z5,fun hG=>rfl,fun hG=>⟨Z9,aj (d:=[]) Z9⟩,fun hG=>trivial,⟨fun _=>rfl,fun h=>by rw[h] <;> rfl⟩,fun hG=>rfl,fun hG=>⟨Z9,aj (d:=[]) Z9⟩,fun hG=>trivial,⟨fun _=>rfl,fun h=>by rw[h] <;> rfl⟩,fun hG=>rfl,fun hG=>⟨Z9,aj (d:=[]) Z9⟩,fun hG=>trivial,⟨fun _=>rfl,fun h=>by rw[h] <;> rfl⟩,?_⟩
 refine bI (fun m8=>?_) fun m8=>?_
 unfold Q
 refine Zo bV ?_
 unfold aG
 rw[all_false (i:=i) (d:=[]) Z9 (by simp only[dM];grind)];simp
 refine⟨Z9,?_⟩
 refine⟨i+1,?_,?_,rfl,rfl,rfl,trivial⟩
 refine⟨Z9,bE h2 ?_⟩
 simp only[dM];grind
 exact Z1
 refine⟨rfl,rfl,by first | assumption | exact si _ | simp_all,?_⟩
 unfold Q
 refine Zo bV ?_
 unfold aG
 rw[all_true (d:=[]) (fun j hj=>h2 j Z9)]
 grind)
def ia(a:r8):o8 Tryz.prog:=.mk 81 [bq a.c9 a.a8 a.asks a.ask] [] (dH a) (sV (if aG a=true then cd a else [])) [] (by
 intro ha
 refine aq (N:=8) (rs:=[.tmp 2]) Tryz.func81
  (.bx (fun g1=>.q 1<|.r 1 [.b7]<|.c (pa a) []<|.q 1<|.br (.q 1<|.nil) (.r 1 [.b7]<|.c (od a) []<|.q 1<|.nil)))
  (∀ g1:Nat,Z g1 0/\(pa a).sm/\((dH a))/\Br (!(aG a)) (Q (sV []) (sV (if aG a=true then cd a else []))) (Z g1 0/\(od a).sm/\((dH a))/\Q (sV (cd a)) (sV (if aG a=true then cd a else [])))) ?_
 intro g1
 refine⟨rfl,rfl,by first | assumption | exact si _ | simp_all,?_⟩
 refine bI (fun j7=>?_) fun j7=>?_
 unfold Q
 rw[if_neg (by rw[j7];decide)]
 refine⟨rfl,rfl,by first | assumption | exact si _ | simp_all,?_⟩
 unfold Q
 rw[if_pos j7])
def mn(s:BL):o8 Tryz.prog:=.mk 134 [sV s] [] (s.length<=1099511627776) (sV (aO s)) [] (by
 intro hs
 refine aq (N:=35) (rs:=[.tmp 2]) Tryz.func134
  (.q 1<|.q 1<|.sb s (fun g6 c6=>.q 1<|.q 1<|.loop (Nat×BL×Nat×Nat) (fun (i,l,g,k)=>⟨[(3,.own 1 (l.map m7) g 0 k),(4,iN i)],[]⟩) (fun (i,l,g,k)=>i<=s.length/\l.length=s.length/\l=aO (s.take i)++s.drop i) (fun (i,l,g,k)=>s.length-i) (fun (i,l,g,k)=>.q 4<|.br (.r 12 [uN ((l.getD i 0).toNat),uN ((l.getD i 0).toNat)]<|.br (.r 8 [uN ((l.getD i 0).toNat)]<|.h (.o4 31 (uN ((du (l.getD i 0)).toNat)))<|.st (some (uN ((l.getD i 0).toNat)))<|.h (.o4 3 (.own 1 ((l.set i (du (l.getD i 0))).map m7) g 0 k))<|.q 3<|.nil) (.q 3<|.nil)) (.q 1<|.J9 l<|.q 1<|.nil))))
  (((sV s:V)=sV s)/\∀ g6 c6:Nat,(∃ x:Nat×BL×Nat×Nat,match x with | (h9,MK,A5,r9)=>(h9<=s.length/\MK.length=s.length/\MK=aO (s.take h9)++s.drop h9)/\Q (.own 1 (s.map m7) g6 0 c6) (.own 1 (MK.map m7) A5 0 r9)/\Q (iN 0) (iN h9)/\True)/\∀ x:Nat×BL×Nat×Nat,match x with | (i,l,g,k)=>(i<=s.length/\l.length=s.length/\l=aO (s.take i)++s.drop i)->(fun v1:Int=>(fun v2:V=>Br (s4 (i:Int) (((l.map m7).length:Nat):Int)) (In (i:Int) ((l.map m7).length)/\(V.at g 0 v2 [0+i]=some (g,(0+(0+i)*1),uN ((l.getD i 0).toNat)))/\Gd ((x6 v1 65)==true) (In (i:Int) ((l.map m7).length))/\Gd ((x6 v1 65)==true) (V.at g 0 v2 [0+i]=some (g,(0+(0+i)*1),uN ((l.getD i 0).toNat)))/\Pk (x6 v1 65) ((x6 v1 65)==true) true/\Br ((x6 v1 65)&&(C6 v1 90)) (In (i:Int) ((l.map m7).length)/\(V.at g 0 v2 [0+i]=some (g,(0+(0+i)*1),uN ((l.getD i 0).toNat)))/\Ov (v1+32)/\In (i:Int) ((l.map m7).length)/\((uN (((l.getD i 0).toNat)+32):V)=uN ((du (l.getD i 0)).toNat))/\(V.at g 0 v2 [0+i]=some (g,(0+(0+i)*1),uN ((l.getD i 0).toNat)))/\(V.set v2 [0+i] (uN ((du (l.getD i 0)).toNat))=.own 1 ((l.set i (du (l.getD i 0))).map m7) g 0 k)/\m6 ((i:Int)+1)/\∃ x:Nat×BL×Nat×Nat,match x with | (b9,D8,s3,k₂)=>(b9<=s.length/\D8.length=s.length/\D8=aO (s.take b9)++s.drop b9)/\(s.length-b9<s.length-i)/\Q (.own 1 ((l.set i (du (l.getD i 0))).map m7) g 0 k) (.own 1 (D8.map m7) s3 0 k₂)/\Q (iN (i+1)) (iN b9)/\True) (m6 ((i:Int)+1)/\∃ x:Nat×BL×Nat×Nat,match x with | (b9,D8,s3,k₂)=>(b9<=s.length/\D8.length=s.length/\D8=aO (s.take b9)++s.drop b9)/\(s.length-b9<s.length-i)/\Q v2 (.own 1 (D8.map m7) s3 0 k₂)/\Q (iN (i+1)) (iN b9)/\True)) (((1=1/\g=g/\0=0)/\0+((l.map m7).length)<=(l.map m7).length/\V.ay (l.map m7)=false/\aC 1 (l.map m7))/\(((l.map m7).drop 0).take ((l.map m7).length)=l.map m7)/\Q (sV l) (sV (aO s)))) (.own 1 (l.map m7) g 0 k)) (((l.getD i 0).toNat:Nat):Int)) ?_
 refine⟨rfl,?_⟩
 intro g6 c6
 refine⟨⟨(0,s,g6,c6),?_,rfl,rfl,trivial⟩,?_⟩
 simp[aO]
 rintro⟨i,l,g,k⟩ ⟨h1,h2,h3⟩
 have hbi:=(l.getD i 0).toNat_lt
 refine bI (fun j7=>?_) fun j7=>?_
 refine⟨Z2,fC (by rw[ZO];exact aj (d:=0) Z9),fun hG=>by(try simp only[nb]at hG);(try simp only[ZM]at *);omega,fun hG=>fC (by rw[ZO];exact aj (d:=0) Z9),⟨fun h=>by rw[h] <;> rfl,fun _=>rfl⟩,?_⟩
 refine bI (fun l4=>?_) fun l4=>?_
 refine⟨Z2,fC (by rw[ZO];exact aj (d:=0) Z9),by have:=Zx (l.getD i 0);omega,Z2,(Zo uN (vN Z9).symm),fC (by rw[ZO];exact aj (d:=0) Z9),lJ (by rw[ZO];exact aj (d:=0) Z9) (by rw[ZO];exact(List.map_set ..).symm),Z9,?_⟩
 refine⟨(i+1,l.set i (du (l.getD i 0)),g,k),?_,?_,rfl,rfl,trivial⟩
 refine⟨Z9,by simp[h2],?_⟩
 exact vE Z9 h3
 exact Z1
 refine⟨Z9,?_⟩
 refine⟨(i+1,l,g,k),?_,?_,rfl,rfl,trivial⟩
 refine⟨Z9,h2,?_⟩
 exact tn Z9 h3 Z9
 exact Z1
 refine⟨⟨⟨rfl,rfl,rfl⟩,Z8,nI _,qa _⟩,by simp[ZL],?_⟩
 unfold Q
 rw[h3,ZC Z9,ZL Z9,List.append_nil])
abbrev fq(p0:V):V:=.agg [sV [],p0,bV false,sV []]
abbrev jB(a:r8)(n0:BL):V:=.tup [bq ((oA (bT a.c9 a.a8 n0)).c9) ((oA (bT a.c9 a.a8 n0)).a8) ((oA (bT a.c9 a.a8 n0)).asks) ((oA (bT a.c9 a.a8 n0)).ask),bV ((bT a.c9 a.a8 n0).isSome)]
abbrev jC(a:r8)(n0:BL)(i:Nat)(o:List BL)(g:Nat)(f:Nat)(k:Nat):Prop:=i<=(ah 47 (ab 63 n0).1).length/\o=a.a8++((ah 47 (ab 63 n0).1).take i).map eg/\((ah 47 (ab 63 n0).1).take i).all eL=true
def qC(a:r8)(n0:BL):o8 Tryz.prog:=.mk 133 [bq a.c9 a.a8 a.asks a.ask,sV n0] [] ((dH a)/\(n0.length<=1000)/\(a.a8.length<=1000)) (jB a n0) [] (by
 rintro⟨ha,hw,hp⟩
 have Ms:=kE 63 n0
 have TG:=qc 47 (ab 63 n0).1
 refine aq (N:=70) (rs:=[.cell 4 96,.tmp 5]) Tryz.func133
  (.bx (fun g2=>.al cY (fun g4=>.q 1<|.q 1<|.c (lu n0 (63:UInt8)) []<|.q 7<|.bs<|.r 2 [.b7]<|.ap (fun O6 RD SF=>.h (.o4 25 (.own 1 (a.a8.map sV) O6 RD SF))<|.q 1<|.q 1<|.c (vh ((ab (63:UInt8) n0).1) (47:UInt8)) []<|.q 1<|.q 1<|.loop (Nat×(List BL)×Nat×Nat×Nat) (fun (i,o,g,f,k)=>⟨[(2,.ptr (.key 2) [] g2 0),(4,.ptr (.key 4) [] g4 0),(6,sV ((ab 63 n0).2.1)),(7,bV ((ab 63 n0).2.2)),(8,.own 1 (o.map sV) g f k),(9,ao (ah 47 (ab 63 n0).1)),(10,iN i)],[(2,(g2,bq a.c9 a.a8 a.asks a.ask)),(4,(g4,fq (.sl true [])))]⟩) (fun (i,o,g,f,k)=>jC a n0 i o g f k) (fun (i,o,g,f,k)=>(ah 47 (ab 63 n0).1).length-i) (fun (i,o,g,f,k)=>.q 4<|.br (.r 4 [sV ((ah 47 (ab 63 n0).1).getD i [])]<|.c (ja ((ah 47 (ab 63 n0).1).getD i [])) []<|.q 5<|.q 2<|.br (.bd cY<|.st none<|.q 1<|.nil) (.q 2<|.bs<|.ap (fun J7 J5 J8=>.h (.o4 48 (.own 1 ((o++[(bF ((ah 47 (ab 63 n0).1).getD i [])).1]).map sV) J7 J5 J8))<|.q 1<|.q 3<|.nil))) (.q 1<|.c (ja ((ab 63 n0).2.1)) []<|.q 5<|.h (.fz 8)<|.h (.o4 8 (ao o))<|.dx 8 [0,1,2,3,4,5,6,7] [(1,⟨false,[],some [2],[55],[]⟩)] [(7,cY)]<|.q 1<|.r 1 [.b7]<|.q 1<|.c (qX o) []<|.q 1<|.q 1<|.bd cY<|.ua (fun g15=>.st none<|.r 4 [.b7]<|.cg (pa (⟨a.c9,bG o,(ab 63 n0).2.2,(bF ((ab 63 n0).2.1)).1⟩:r8))<|.q 2<|.br (.bd cY<|.st none<|.q 1<|.nil) (.r 1 [.b7]<|.st none<|.q 1<|.nil))))))))
  ((fun v1:Bool=>(∀ g2:Nat,∀ g4:Nat,(lu n0 (63:UInt8)).sm/\((n0.length<=4611686018427387904))/\Z g2 1/\(True)/\(True)/\(V.ay (a.a8.map sV)=false)/\(aC 1 (a.a8.map sV))/\((([]:List V).length+(a.a8.map sV).length)*16<=140737488355328)/\∀ O6 RD SF:Nat,((.own 1 (([]:List V)++(a.a8.map sV)) O6 RD SF:V)=.own 1 (a.a8.map sV) O6 RD SF)/\(vh ((ab (63:UInt8) n0).1) (47:UInt8)).sm/\((((ab (63:UInt8) n0).1).length<=1099511627776))/\(∃ x:Nat×(List BL)×Nat×Nat×Nat,match x with | (h9,s8,A5,x9,r9)=>(jC a n0 h9 s8 A5 x9 r9)/\E (.ptr (.key 2) [] g2 0)/\E (.ptr (.key 4) [] g4 0)/\Q (sV ((ab (63:UInt8) n0).2.1)) (sV ((ab 63 n0).2.1))/\Q (bV ((ab (63:UInt8) n0).2.2)) (bV ((ab 63 n0).2.2))/\Q (.own 1 (a.a8.map sV) O6 RD SF) (.own 1 (s8.map sV) A5 x9 r9)/\Q (ao (ah (47:UInt8) ((ab (63:UInt8) n0).1))) (ao (ah 47 (ab 63 n0).1))/\Q (iN 0) (iN h9)/\Er g2 (bq a.c9 a.a8 a.asks a.ask)/\Er g4 (fq (.sl true []))/\True)/\∀ x:Nat×(List BL)×Nat×Nat×Nat,match x with | (i,o,g,f,k)=>(jC a n0 i o g f k)->(fun v2:List V=>Br (s4 (i:Int) ((((ah 47 (ab 63 n0).1).map sV).length:Nat):Int)) (Ex (i:Int) ((ah 47 (ab 63 n0).1).map sV) (sV ((ah 47 (ab 63 n0).1).getD i []))/\True/\(ja ((ah 47 (ab 63 n0).1).getD i [])).sm/\((((ah 47 (ab 63 n0).1).getD i []).length<=4611686018427387904))/\Br (!((bF ((ah 47 (ab 63 n0).1).getD i [])).2)) (Z g4 0/\(g4=g4)/\Q (.tup [fq (.sl false []),bV false]) (jB a n0)) (((1,1,g,f,k,(o.map sV).length)=(1,1,g,f,k,(o.map sV).length))/\(True)/\(V.ay v2=false)/\(aC 1 v2)/\(((o.map sV).length+v2.length)*16<=140737488355328)/\∀ J7 J5 J8:Nat,((.own 1 ((o.map sV)++v2) J7 J5 J8:V)=.own 1 ((o++[(bF ((ah 47 (ab 63 n0).1).getD i [])).1]).map sV) J7 J5 J8)/\m6 ((i:Int)+1)/\∃ x:Nat×(List BL)×Nat×Nat×Nat,match x with | (b9,l7,s3,o9,k₂)=>(jC a n0 b9 l7 s3 o9 k₂)/\((ah 47 (ab 63 n0).1).length-b9<(ah 47 (ab 63 n0).1).length-i)/\E (.ptr (.key 2) [] g2 0)/\E (.ptr (.key 4) [] g4 0)/\E (sV ((ab 63 n0).2.1))/\E (bV ((ab 63 n0).2.2))/\Q (.own 1 ((o++[(bF ((ah 47 (ab 63 n0).1).getD i [])).1]).map sV) J7 J5 J8) (.own 1 (l7.map sV) s3 o9 k₂)/\E (ao (ah 47 (ab 63 n0).1))/\Q (iN (i+1)) (iN b9)/\Er g2 (bq a.c9 a.a8 a.asks a.ask)/\Er g4 (fq (.sl true []))/\True)) ((ja ((ab 63 n0).2.1)).sm/\((((ab 63 n0).2.1).length<=4611686018427387904))/\((.sl false (V.D5 (o.map sV)):V)=ao o)/\Z g2 0/\(qX o).sm/\((o.length<=1099511627776))/\∀ g15:Nat,Z g15 0/\Gd (v1==false) (Z g15 0)/\Gd (v1==false) (((dH (⟨a.c9,bG o,(ab 63 n0).2.2,(bF ((ab 63 n0).2.1)).1⟩:r8)))/\(pa (⟨a.c9,bG o,(ab 63 n0).2.2,(bF ((ab 63 n0).2.1)).1⟩:r8)).sm)/\Pk v1 true (v1==false)/\Br (v1||(!(aG (⟨a.c9,bG o,(ab 63 n0).2.2,(bF ((ab 63 n0).2.1)).1⟩:r8)))) (Z g4 0/\(g4=g4)/\Q (.tup [fq (.sl false []),bV false]) (jB a n0)) (Z g15 0/\Z g4 0/\(g4=g4)/\Q (.tup [bq a.c9 (bG o) ((ab 63 n0).2.2) ((bF ((ab 63 n0).2.1)).1),bV true]) (jB a n0)))) ([sV ((bF ((ah 47 (ab 63 n0).1).getD i [])).1)]:List V))) (!((bF ((ab 63 n0).2.1)).2))) ?_
 intro g2
 intro g4
 refine⟨rfl,Z5,rfl,trivial,trivial,(ct (f:=sV) (fun _=>rfl) _),(dU (f:=sV) (fun _=>rfl) _),Z0,?_⟩
 intro O6 RD SF
 refine⟨Zo (V.own 1 · O6 RD SF) (List.nil_append _),rfl,Z5,?_⟩
 refine⟨⟨(0,a.a8,O6,RD,SF),?_,rfl,rfl,Z4,Z4,rfl,Z4,rfl,rfl,rfl,trivial⟩,?_⟩
 unfold jC
 simp
 rintro⟨i,o,g,f,k⟩ ⟨h1,h2,h3⟩
 have Qe:=pn 47 (ab 63 n0).1 i
 have R5:o.length<=1000+i:=by rw[h2];simp;omega
 refine bI (fun j7=>?_) fun j7=>?_
 refine⟨⟨Z9,aj (d:=[]) Z9⟩,trivial,rfl,Z5,?_⟩
 refine bI (fun l4=>?_) fun l4=>?_
 refine⟨rfl,?_⟩
 refine⟨rfl,?_⟩
 unfold Q jB
 rw[show bT a.c9 a.a8 n0=none from by unfold bT;rw[all_false (i:=i) (d:=[]) Z9 l4];rfl];rfl
 refine⟨rfl,trivial,rfl,by simp[aC,V.n,V.ns],Z0,?_⟩
 intro J7 J5 J8
 refine⟨Zo (V.own 1 · J7 J5 J8) Z8,Z9,?_⟩
 refine⟨(i+1,o++[(bF ((ah 47 (ab 63 n0).1).getD i [])).1],J7,J5,J8),?_,?_,rfl,rfl,rfl,rfl,rfl,rfl,rfl,rfl,rfl,trivial⟩
 unfold jC
 refine⟨Z9,?_,?_⟩
 rw[h2,aW (by omega:i<(ah 47 (ab 63 n0).1).length) []];simp[eg]
 rw[aW (by omega:i<(ah 47 (ab 63 n0).1).length) []];simp only[List.all_append,h3,List.all_cons,List.all_nil,eL,Bool.and_true,Bool.true_and];exact l4
 exact Z1
 refine⟨rfl,Z5,Zo (V.sl false) (aM (fun _=>rfl) _),rfl,rfl,Z5,?_⟩
 intro g15
 refine⟨rfl,?_⟩
 have hz:dH ⟨a.c9,bG o,(ab 63 n0).2.2,(bF (ab 63 n0).2.1).1⟩:=by
  rw[h2,ZL Z9];exact Kk ha hp Z9
 refine⟨fun hG=>rfl,fun hG=>⟨hz,rfl⟩,⟨fun _=>rfl,fun h=>by rw[h] <;> rfl⟩,?_⟩
 refine bI (fun m8=>?_) fun m8=>?_
 refine⟨rfl,?_⟩
 refine⟨rfl,?_⟩
 unfold Q jB
 have H8:(ah 47 (ab 63 n0).1).all eL=true:=by rw[ZL Z9]at h3;exact h3
 rw[ZL Z9]at h2
 subst h2
 rw[show bT a.c9 a.a8 n0=none from by unfold bT;rw[H8];grind [eL,eg]];rfl
 refine⟨rfl,rfl,?_⟩
 refine⟨rfl,?_⟩
 unfold Q jB
 have H8:(ah 47 (ab 63 n0).1).all eL=true:=by rw[ZL Z9]at h3;exact h3
 rw[ZL Z9]at h2
 subst h2
 rw[show bT a.c9 a.a8 n0=some _ from by unfold bT;rw[H8,if_pos (by grind [eL,eg]),if_pos (by grind [eL,eg])]];rfl)
abbrev kv(s:BL):V:=.tup [bq ((oA (dg s)).c9) ((oA (dg s)).a8) ((oA (dg s)).asks) ((oA (dg s)).ask),bV ((dg s).isSome)]
def vb(s:BL):o8 Tryz.prog:=.mk 109 [sV s] [] (s.length<=1000) (kv s) [] (by
 intro hs
 refine aq (N:=37) (rs:=[.cell 2 96,.tmp 3]) Tryz.func109
  (.al cY (fun g2=>.q 1<|.q 2<|.q 1<|.q 1<|.loop (Nat) (fun (i:Nat)=>⟨[(0,sV s),(2,.ptr (.key 2) [] g2 0),(4,sV s),(5,sV []),(6,iN i)],[(2,(g2,fq (.sl true [])))]⟩) (fun (i:Nat)=>i<=s.length/\∀ j,j<i->gF (s.getD j 0)=true) (fun (i:Nat)=>s.length-i) (fun (i:Nat)=>.q 4<|.br (.q 10<|.br (.q 4<|.q 4<|.q 1<|.c (mn ((s.take i).drop ((0:Int).toNat))) []<|.bd cY<|.q 1<|.c (qC (⟨aO ((s.take i).drop ((0:Int).toNat)),[],false,[]⟩:r8) ((s.take s.length).drop i)) []<|.q 2<|.st none<|.q 1<|.nil) (.q 3<|.nil)) (.q 1<|.c (mn s) []<|.bd cY<|.q 1<|.c (qC (⟨aO s,[],false,[]⟩:r8) ([]:BL)) []<|.q 2<|.st none<|.q 1<|.nil))))
  ((fun v1:r8=>(∀ g2:Nat,(∃ h9:Nat,(h9<=s.length/\∀ j,j<h9->gF (s.getD j 0)=true)/\E (sV s)/\E (.ptr (.key 2) [] g2 0)/\E (sV s)/\E (sV [])/\Q (iN 0) (iN h9)/\Er g2 (fq (.sl true []))/\True)/\∀ i:Nat,(i<=s.length/\∀ j,j<i->gF (s.getD j 0)=true)->(fun v2:r8=>(fun v3:Int=>Br (s4 (i:Int) (s.length:Int)) (Ix (i:Int) s/\Gd ((o6 v3 47)==false) (Ix (i:Int) s)/\Pk (o6 v3 47) true ((o6 v3 47)==false)/\Br ((o6 v3 47)||(o6 v3 63)) (Sx (0:Int) (i:Int) s/\Sx (i:Int) (s.length:Int) s/\(mn ((s.take i).drop ((0:Int).toNat))).sm/\((((s.take i).drop ((0:Int).toNat)).length<=1099511627776))/\(qC (⟨aO ((s.take i).drop ((0:Int).toNat)),[],false,[]⟩:r8) ((s.take s.length).drop i)).sm/\((dH (⟨aO ((s.take i).drop ((0:Int).toNat)),[],false,[]⟩:r8))/\(((s.take s.length).drop i).length<=1000)/\((⟨aO ((s.take i).drop ((0:Int).toNat)),[],false,[]⟩:r8).a8.length<=1000))/\Z g2 0/\(g2=g2)/\Q (.tup [bq (v2.c9) (v2.a8) (v2.asks) (v2.ask),bV ((bT (⟨aO ((s.take i).drop ((0:Int).toNat)),[],false,[]⟩:r8).c9 (⟨aO ((s.take i).drop ((0:Int).toNat)),[],false,[]⟩:r8).a8 ((s.take s.length).drop i)).isSome)]) (kv s)) (m6 ((i:Int)+1)/\∃ b9:Nat,(b9<=s.length/\∀ j,j<b9->gF (s.getD j 0)=true)/\(s.length-b9<s.length-i)/\E (sV s)/\E (.ptr (.key 2) [] g2 0)/\E (sV s)/\E (sV [])/\Q (iN (i+1)) (iN b9)/\Er g2 (fq (.sl true []))/\True)) ((mn s).sm/\((s.length<=1099511627776))/\(qC (⟨aO s,[],false,[]⟩:r8) ([]:BL)).sm/\((dH (⟨aO s,[],false,[]⟩:r8))/\(([]:BL).length<=1000)/\((⟨aO s,[],false,[]⟩:r8).a8.length<=1000))/\Z g2 0/\(g2=g2)/\Q (.tup [bq (v1.c9) (v1.a8) (v1.asks) (v1.ask),bV ((bT (⟨aO s,[],false,[]⟩:r8).c9 (⟨aO s,[],false,[]⟩:r8).a8 ([]:BL)).isSome)]) (kv s))) (((s.getD i 0).toNat:Nat):Int)) (oA (bT (⟨aO ((s.take i).drop ((0:Int).toNat)),[],false,[]⟩:r8).c9 (⟨aO ((s.take i).drop ((0:Int).toNat)),[],false,[]⟩:r8).a8 ((s.take s.length).drop i))))) (oA (bT (⟨aO s,[],false,[]⟩:r8).c9 (⟨aO s,[],false,[]⟩:r8).a8 ([]:BL)))) ?_
 intro g2
 refine⟨⟨0,?_,rfl,rfl,rfl,rfl,rfl,rfl,trivial⟩,?_⟩
 simp
 rintro i ⟨h1,h2⟩
 refine bI (fun j7=>?_) fun j7=>?_
 refine⟨Z9,fun hG=>by(try simp only[nb]at hG);omega,⟨fun _=>rfl,fun h=>by rw[h] <;> rfl⟩,?_⟩
 refine bI (fun l4=>?_) fun l4=>?_
 refine⟨Z9,Z9,?_⟩
 have hz:dH ⟨aO ((s.take i).drop ((0:Int).toNat)),[],false,[]⟩:=⟨by simp only[aO,ZM];first | omega | (simp;omega),Z8,Z8,Z8⟩
 have hw:((s.take s.length).drop i).length<=1000:=by first | (solve | simp) | (simp;omega)
 refine⟨rfl,Z5,rfl,⟨hz,hw,Z8⟩,rfl,?_⟩
 refine⟨rfl,?_⟩
 unfold Q kv
 obtain⟨k1,k2⟩:=xZ (p:=gF) h1 h2 (.inr (by simp only[gF,decide_eq_false_iff_not];omega))
 unfold dg
 rw[k1,k2];simp
 refine⟨Z9,?_⟩
 refine⟨i+1,?_,?_,rfl,rfl,rfl,rfl,rfl,rfl,trivial⟩
 refine⟨Z9,bE h2 ?_⟩
 simp only[gF,Zq];omega
 exact Z1
 have hz:dH ⟨aO s,[],false,[]⟩:=⟨by simp only[aO,ZM];first | omega | (simp;omega),Z8,Z8,Z8⟩
 have hw:([]:BL).length<=1000:=by first | (solve | simp) | (simp;omega)
 refine⟨rfl,Z5,rfl,⟨hz,hw,Z8⟩,rfl,?_⟩
 refine⟨rfl,?_⟩
 unfold Q kv
 obtain⟨k1,k2⟩:=xZ (p:=gF) h1 h2 (.inl Z9)
 unfold dg
 rw[k1,k2,ZL Z9,ZC Z9])
abbrev jv(raw:BL):V:=.tup [bq ((oA (aA raw)).c9) ((oA (aA raw)).a8) ((oA (aA raw)).asks) ((oA (aA raw)).ask),bV ((aA raw).isSome)]
def ln(raw:BL):o8 Tryz.prog:=.mk 80 [sV raw] [] (raw.length<=4611686018427387904) (jv raw) [] (by
 intro hs
 have Ms:=kE 35 raw
 refine aq (N:=32) (rs:=[.cell 2 96,.tmp 3]) Tryz.func80
  (.al cY (fun g2=>.q 1<|.q 1<|.c (lu raw (35:UInt8)) []<|.q 7<|.q 13<|.br (.bd cY<|.st none<|.q 1<|.nil) (.q 2<|.c (vb ((((ab (35:UInt8) raw).1).take ((ab (35:UInt8) raw).1).length).drop 2)) []<|.q 2<|.st none<|.q 1<|.nil)))
  ((fun v1:r8=>(fun v2:Bool=>(fun v3:Bool=>(∀ g2:Nat,(lu raw (35:UInt8)).sm/\((raw.length<=4611686018427387904))/\Pk v3 true (v3==false)/\Gd ((v3||v2)==false) (Sx (0:Int) (2:Int) ((ab (35:UInt8) raw).1))/\Pk (v3||v2) true ((v3||v2)==false)/\Br ((v3||v2)||(!(((((ab (35:UInt8) raw).1).take 2).drop ((0:Int).toNat))==([47,47]:BL)))) (Z g2 0/\(g2=g2)/\Q (.tup [fq (.sl false []),bV false]) (jv raw)) (Sx (2:Int) (((ab (35:UInt8) raw).1).length:Int) ((ab (35:UInt8) raw).1)/\(vb ((((ab (35:UInt8) raw).1).take ((ab (35:UInt8) raw).1).length).drop 2)).sm/\((((((ab (35:UInt8) raw).1).take ((ab (35:UInt8) raw).1).length).drop 2).length<=1000))/\Z g2 0/\(g2=g2)/\Q (.tup [bq (v1.c9) (v1.a8) (v1.asks) (v1.ask),bV ((dg ((((ab (35:UInt8) raw).1).take ((ab (35:UInt8) raw).1).length).drop 2)).isSome)]) (jv raw)))) (s7 (raw.length:Int) 60)) (s4 ((((ab (35:UInt8) raw).1).length:Nat):Int) 2)) (oA (dg ((((ab (35:UInt8) raw).1).take ((ab (35:UInt8) raw).1).length).drop 2)))) ?_
 intro g2
 refine⟨rfl,Z5,⟨fun _=>rfl,fun h=>by rw[h] <;> rfl⟩,fun hG=>by(try simp only[nb]at hG);omega,⟨fun _=>rfl,fun h=>by rw[h] <;> rfl⟩,?_⟩
 refine bI (fun j7=>?_) fun j7=>?_
 refine⟨rfl,?_⟩
 refine⟨rfl,?_⟩
 unfold Q jv
 rw[show aA raw=none from if_neg (by grind)];rfl
 refine⟨Z9,rfl,Z5,rfl,?_⟩
 refine⟨rfl,?_⟩
 unfold Q jv
 rw[show aA raw=dg ((ab 35 raw).1.drop 2) from if_pos (by grind)];simp)
def jd(s:BL):o8 Tryz.prog:=.mk 49 [sV s] [] (s.length<=4611686018427387904) (bV (aD s)) [] (by
 intro hs
 refine aq (N:=17) (rs:=[.tmp 2]) Tryz.func49
  (.q 1<|.q 1<|.c (ln s) []<|.q 3<|.al cY (fun g3=>.st none<|.q 1<|.r 3 [.b7]<|.cg (ia (oA (aA s)))<|.q 4<|.nil))
  ((ln s).sm/\((s.length<=4611686018427387904))/\∀ g3:Nat,Z g3 0/\Gd (((aA s).isSome)==true) (Z g3 0)/\Gd (((aA s).isSome)==true) (((dH (oA (aA s))))/\(ia (oA (aA s))).sm)/\Pk ((aA s).isSome) (((aA s).isSome)==true) true/\Q (bV (((aA s).isSome)&&((bj (oA (aA s)))==s))) (bV (aD s))) ?_
 refine⟨rfl,Z5,?_⟩
 intro g3
 refine⟨rfl,fun hG=>rfl,fun hG=>⟨by(try simp only[nb]at hG);first | assumption | exact si _ | simp_all,rfl⟩,⟨fun h=>by rw[h] <;> rfl,fun _=>rfl⟩,?_⟩
 unfold Q
 rfl)
def xW(p:BL):o8 Tryz.prog:=.mk 127 [sV p] [] (p.length<=4611686018427387904) (bV (aZ p)) [] (by
 intro hs
 refine aq (N:=66) (rs:=[.tmp 2]) Tryz.func127
  (.q 1<|.q 12<|.br (.q 1<|.nil) (.q 1<|.loop (Nat) (fun (i:Nat)=>⟨[(0,sV p),(3,iN i)],[]⟩) (fun (i:Nat)=>i<=p.length/\∀ j,j<i->jI p j=true) (fun (i:Nat)=>p.length-i) (fun (i:Nat)=>.q 4<|.br (.q 4<|.q 1<|.c (iW (p.getD i 0)) []<|.q 38<|.br (.q 1<|.nil) (.q 3<|.nil)) (.q 1<|.nil))))
  ((fun v1:Bool=>(Pk v1 true (v1==false)/\Gd ((v1||(p==[]))==false) (Ix 0 p)/\Pk (v1||(p==[])) true ((v1||(p==[]))==false)/\Br ((v1||(p==[]))||(A7 (((p.getD 0 0).toNat:Nat):Int) 47)) (Q (bV false) (bV (aZ p))) ((∃ h9:Nat,(h9<=p.length/\∀ j,j<h9->jI p j=true)/\E (sV p)/\Q (iN 0) (iN h9)/\True)/\∀ i:Nat,(i<=p.length/\∀ j,j<i->jI p j=true)->(fun v2:Int=>(fun v3:Bool=>(fun v4:Bool=>Br (s4 (i:Int) (p.length:Int)) (Ix (i:Int) p/\(iW (p.getD i 0)).sm/\(True)/\Pk v3 (v3==true) true/\Pk (v3&&(A7 v2 47)) ((v3&&(A7 v2 47))==true) true/\Pk ((v3&&(A7 v2 47))&&(A7 v2 42)) (((v3&&(A7 v2 47))&&(A7 v2 42))==true) true/\Pk (((v3&&(A7 v2 47))&&(A7 v2 42))&&(A7 v2 63)) ((((v3&&(A7 v2 47))&&(A7 v2 42))&&(A7 v2 63))==true) true/\Gd (((((v3&&(A7 v2 47))&&(A7 v2 42))&&(A7 v2 63))&&(A7 v2 37))==true) (Pk (x6 v2 65) ((((((v3&&(A7 v2 47))&&(A7 v2 42))&&(A7 v2 63))&&(A7 v2 37))==true)&&((x6 v2 65)==true)) true)/\Pk ((((v3&&(A7 v2 47))&&(A7 v2 42))&&(A7 v2 63))&&(A7 v2 37)) (((((v3&&(A7 v2 47))&&(A7 v2 42))&&(A7 v2 63))&&(A7 v2 37))==true) true/\Gd (((((((v3&&(A7 v2 47))&&(A7 v2 42))&&(A7 v2 63))&&(A7 v2 37))&&v4)==true)&&((o6 v2 36)==true)) (m6 ((p.length:Int)-1))/\Gd ((((((v3&&(A7 v2 47))&&(A7 v2 42))&&(A7 v2 63))&&(A7 v2 37))&&v4)==true) (Pk (o6 v2 36) (((((((v3&&(A7 v2 47))&&(A7 v2 42))&&(A7 v2 63))&&(A7 v2 37))&&v4)==true)&&((o6 v2 36)==true)) true)/\Pk (((((v3&&(A7 v2 47))&&(A7 v2 42))&&(A7 v2 63))&&(A7 v2 37))&&v4) ((((((v3&&(A7 v2 47))&&(A7 v2 42))&&(A7 v2 63))&&(A7 v2 37))&&v4)==true) true/\Br ((((((v3&&(A7 v2 47))&&(A7 v2 42))&&(A7 v2 63))&&(A7 v2 37))&&v4)&&(!((o6 v2 36)&&(o6 (i:Int) ((p.length:Int)-1))))) (Q (bV false) (bV (aZ p))) (m6 ((i:Int)+1)/\∃ b9:Nat,(b9<=p.length/\∀ j,j<b9->jI p j=true)/\(p.length-b9<p.length-i)/\E (sV p)/\Q (iN (i+1)) (iN b9)/\True)) (Q (bV true) (bV (aZ p)))) (!((x6 v2 65)&&(C6 v2 70)))) (!(dE (p.getD i 0)))) (((p.getD i 0).toNat:Nat):Int)))) (s7 (p.length:Int) 16)) ?_
 refine⟨⟨fun _=>rfl,fun h=>by rw[h] <;> rfl⟩,fun hG=>by(try simp only[nb]at hG);grind [List.length_pos_iff],⟨fun _=>rfl,fun h=>by rw[h] <;> rfl⟩,?_⟩
 refine bI (fun j7=>?_) fun j7=>?_
 unfold Q
 refine Zo bV ?_
 unfold aZ
 symm
 rw[decide_eq_false_iff_not]
 grind
 refine⟨⟨0,?_,rfl,rfl,trivial⟩,?_⟩
 simp
 rintro i ⟨h1,h2⟩
 refine bI (fun l4=>?_) fun l4=>?_
 refine⟨Z9,rfl,trivial,⟨fun h=>by rw[h] <;> rfl,fun _=>rfl⟩,⟨fun h=>by rw[h] <;> rfl,fun _=>rfl⟩,⟨fun h=>by rw[h] <;> rfl,fun _=>rfl⟩,⟨fun h=>by rw[h] <;> rfl,fun _=>rfl⟩,fun hG=>⟨fun h=>by rw[h];exact(ZX _ _).mpr ⟨hG,rfl⟩,fun _=>rfl⟩,⟨fun h=>by rw[h] <;> rfl,fun _=>rfl⟩,fun hG=>by(try simp only[nb]at hG);omega,fun hG=>⟨fun h=>by rw[h];exact(ZX _ _).mpr ⟨hG,rfl⟩,fun _=>rfl⟩,⟨fun h=>by rw[h] <;> rfl,fun _=>rfl⟩,?_⟩
 refine bI (fun m8=>?_) fun m8=>?_
 unfold Q
 refine Zo bV ?_
 unfold aZ
 symm
 rw[decide_eq_false_iff_not]
 rintro⟨k1,k2,k3,k4⟩
 have:=k4 i Z9
 unfold jI gW at this
 grind
 refine⟨Z9,?_⟩
 refine⟨i+1,?_,?_,rfl,rfl,trivial⟩
 refine⟨Z9,bE h2 ?_⟩
 by_cases hq:dE (p.getD i 0)=true
 simp only[jI,gW,hq,Bool.true_or]
 simp only[Bool.not_eq_true]at hq
 simp only[jI,gW,hq,Bool.false_or,Bool.or_eq_true,ZX,Zq]
 simp only[hq,true_and]at m8
 omega
 exact Z1
 unfold Q
 refine Zo bV ?_
 unfold aZ
 symm
 rw[Zq]
 exact⟨by grind,Z9,by grind,fun j hj=>h2 j Z9⟩)
abbrev gK(p0:BL):V:=.sl false (p0.map m7)
abbrev ak(p0:BL)(p1:Nat):V:=.agg [.sl false (p0.map m7),iN p1]
theorem FQ{l:List BL}{i:Nat}(h:i<l.length):Ex (i:Int) (l.map sV) (sV (l.getD i [])):=⟨Int.natCast_nonneg _,by simp[ZZ,h]⟩
theorem Gp{b:BL}{i:Nat}(h:i<(b.map m7).length):Ex (i:Int) (b.map m7) (uN (b.getD i 0).toNat):=⟨Int.natCast_nonneg _,by simp at h;simp[ZZ,h,m7,uN]⟩
def yv(b:BL):E7 Tryz.prog:=.mk (BL×Nat) 20 [gK b] [] (b.length<=9223372036854775807) (fun x=>x.1.length<=2000) (fun x=>.ptr (.key 1000) [] x.2 0) (fun x=>[(1000,(x.2,.agg [gK x.1,iN 0]))]) (by
 intro hb
 refine eK (N:=11) (rs:=[.tmp 2]) (X:=BL×Nat) (post:=fun x=>x.1.length<=2000) (E:=fun x=>.ptr (.key 1000) [] x.2 0) (H':=fun x=>[(1000,(x.2,.agg [.sl false (x.1.map m7),iN 0]))]) Tryz.func20 Z7 rfl rfl rfl Z7 [(1000,(0,.b7))] (by intro _ k hk;simpa[lk] using hk)
  (.q 1<|.q 3<|.join BL (fun c=>⟨[(0,gK c)],[]⟩) (fun c=>c.length<=2000) (.q 2<|.h (.o4 7 (gK (b.take 2000)))<|.q 1<|.nil) (.nil) (fun c=>.q 1<|.bd LD<|.bx (fun g10=>.q 1<|.h (.rk 10 1000)<|.nil)))
  (((s7 (((b.map m7).length:Nat):Int) 2000)=true->((0:Int)<=(0:Int)/\(0:Int)<=(2000:Int)/\(2000:Int)<=(b.map m7).length/\∀ x∈(b.map m7),x.n=1)/\Q (.sl false (((b.map m7).take 2000).drop ((0:Int).toNat))) (gK (b.take 2000))/\∃ c:BL,(c.length<=2000)/\Q (gK (b.take 2000)) (gK c)/\True)/\((s7 (((b.map m7).length:Nat):Int) 2000)=false->∃ c:BL,(c.length<=2000)/\Q (gK b) (gK c)/\True)/\(∀ c:BL,(c.length<=2000)->∀ g10:Nat,∃ x:BL×Nat,(x.1.length<=2000)/\Q (.ptr (.key 1000) [] g10 0) (.ptr (.key 1000) [] x.2 0)/\Qr g10 (.agg [gK c,iN 0]) x.2 (.agg [gK x.1,iN 0])))
  Z7 ?_
 refine⟨fun j7=>?_,fun j7=>?_,fun c hc=>?_⟩
 try simp only[nb]at j7
 refine⟨⟨by simp <;> omega,by simp <;> omega,by simp <;> omega,all_map (fun _=>rfl)⟩,by simp[Q,List.map_take],?_⟩
 exact⟨b.take 2000,Z0,rfl,trivial⟩
 try simp only[nb]at j7
 exact⟨b,Z9,rfl,trivial⟩
 intro g10
 refine⟨(c,g10),?_,?_,?_⟩
 try dsimp only
 assumption
 first | rfl | simp_all
 first | rfl | exact⟨rfl,rfl⟩ | simp_all)
def kg:o8 Tryz.prog:=.mk 71 [] [] True (ao aH) [] (by
 intro _
 refine aq (N:=2) (rs:=[.tmp 0]) Tryz.func71
  (.q 1<|.bs<|.q 1<|.nil)
  (Q (.sl false [sV ([97,98]:BL),sV ([99,100]:BL),sV ([101]:BL),sV ([102,111,120]:BL)]) (ao aH)) ?_
 unfold Q
 rfl)
def aV(b:BL)(p:Nat)(g:Nat)(n:Nat):E7 Tryz.prog:=.mk Nat 43 [.ptr (.key 1000) [] g 0,iN n] [(1000,(g,ak b p))] ((b.length<=2000)/\(p<=1000000)/\(n<=1000000)) (fun x=>n=0/\x=0\/x<n) (fun x=>iN x) (fun x=>[(1000,(g,ak b (p+1)))]) (by
 rintro⟨hb,hp,hn⟩
 refine eK (N:=99) (rs:=[.tmp 4]) (X:=Nat) (post:=fun x=>n=0/\x=0\/x<n) (E:=fun x=>iN x) (H':=fun x=>[(1000,(g,.agg [.sl false (b.map m7),iN (p+1)]))]) Tryz.func43 Z7 rfl rfl rfl Z7 [(1000,(0,.b7))] (by intro _ k hk;simpa[lk] using hk)
  (.q 1<|.r 8 [.b7]<|.st none<|.r 10 [.b7]<|.br (.q 1<|.nil) (.r 5 [.b7]<|.h (.o4 29 (iN p))<|.q 1<|.r 7 [.b7]<|.br (.r 11 [.b7,uN ((b.getD p 0).toNat)]<|.nil) (.dx 45 [0,1,2,3,4,5,6,7,8,9,10,11,12,13,14,15,16,17,18,19,20,21,22,23,24,25,26,27,28,29,30,31,32,33,34,35,36,37,38,39,40,41,42,43,44] [(3,⟨false,[],some [1000],[50],[]⟩),(8,⟨false,[],some [1000],[55],[]⟩),(12,⟨false,[],some [],[59],[]⟩),(18,⟨false,[],some [1000],[65],[]⟩),(25,⟨false,[],some [1000],[72],[]⟩),(29,⟨false,[],some [],[76],[]⟩),(40,⟨false,[],some [1000],[87],[]⟩)] []<|.q 1<|.q 1<|.q 1<|.r 1 [.b7]<|.q 1<|.q 1<|.q 1<|.q 1<|.r 1 [.b7]<|.q 1<|.q 1<|.r 1 [uN ((b.getD (p % ((b.map m7).length)) 0).toNat)]<|.q 1<|.q 1<|.q 1<|.q 1<|.q 1<|.q 1<|.r 1 [.b7]<|.q 1<|.q 1<|.q 1<|.q 1<|.q 1<|.q 1<|.r 1 [.b7]<|.q 1<|.q 1<|.r 1 [uN ((b.getD (((p*7)+3) % ((b.map m7).length)) 0).toNat)]<|.q 1<|.q 1<|.q 1<|.q 1<|.q 1<|.q 1<|.q 1<|.q 1<|.q 1<|.q 1<|.q 1<|.r 1 [.b7]<|.q 1<|.q 1<|.q 1<|.q 1<|.q 1<|.q 5<|.q 4<|.nil)))
  ((fun v1:Int=>(fun v2:Int=>(fun v3:Int=>(fun v4:Int=>(fun v5:Bool=>(fun v6:Int=>(True/\Z g 1/\m6 ((p:Int)+1)/\True/\Z g 1/\Gd (v5==false) True/\Gd (v5==false) (Z g 0)/\Pk v5 true (v5==false)/\Br (v5||(o6 v3 0)) (∃ x:Nat,(n=0/\x=0\/x<n)/\Q (iN 0) (iN x)/\Er g (ak b (p+1))) (True/\Z g 1/\m6 (((p+1:Nat):Int)-1)/\Q (iV (((p+1:Nat):Int)-1)) (iN p)/\True/\Z g 0/\Br (s4 (p:Int) v3) (True/\Z g 0/\Ex (p:Int) (b.map m7) (uN ((b.getD p 0).toNat))/\True/\m6 (((b.getD p 0).toNat:Nat):Int)/\((0:Int)<=(((b.getD p 0).toNat:Nat):Int)/\(0:Int)<(n:Int))/\∃ x:Nat,(n=0/\x=0\/x<n)/\Q (iN (((b.getD p 0).toNat) % n)) (iN x)/\Er g (ak b (p+1))) (True/\Z g 0/\True/\Z g 0/\((0:Int)<=(p:Int)/\(0:Int)<v3)/\Ex ((p % ((b.map m7).length):Nat):Int) (b.map m7) (uN ((b.getD (p % ((b.map m7).length)) 0).toNat))/\True/\m6 v6/\m6 (v6*131)/\True/\Z g 0/\m6 ((p:Int)*7)/\m6 (((p*7:Nat):Int)+3)/\True/\Z g 0/\((0:Int)<=(((p*7)+3:Nat):Int)/\(0:Int)<v3)/\Ex ((((p*7)+3) % ((b.map m7).length):Nat):Int) (b.map m7) (uN ((b.getD (((p*7)+3) % ((b.map m7).length)) 0).toNat))/\True/\m6 v4/\m6 (v4*1117)/\m6 (((((b.getD (p % ((b.map m7).length)) 0).toNat)*131:Nat):Int)+((((b.getD (((p*7)+3) % ((b.map m7).length)) 0).toNat)*1117:Nat):Int))/\m6 ((p:Int)*29)/\m6 ((((((b.getD (p % ((b.map m7).length)) 0).toNat)*131)+(((b.getD (((p*7)+3) % ((b.map m7).length)) 0).toNat)*1117):Nat):Int)+((p*29:Nat):Int))/\True/\Z g 0/\((0:Int)<=(p:Int)/\(0:Int)<v3/\m6 (p:Int))/\m6 (((p / ((b.map m7).length):Nat):Int)*53)/\m6 (((((((b.getD (p % ((b.map m7).length)) 0).toNat)*131)+(((b.getD (((p*7)+3) % ((b.map m7).length)) 0).toNat)*1117))+(p*29):Nat):Int)+(((p / ((b.map m7).length))*53:Nat):Int))/\((0:Int)<=v1/\(0:Int)<64/\m6 v1)/\((0:Int)<=v1/\(0:Int)<=v2/\m6 v1/\m6 v2)/\((0:Int)<=((((((((b.getD (p % ((b.map m7).length)) 0).toNat)*131)+(((b.getD (((p*7)+3) % ((b.map m7).length)) 0).toNat)*1117))+(p*29))+((p / ((b.map m7).length))*53)) ^^^ (((((((b.getD (p % ((b.map m7).length)) 0).toNat)*131)+(((b.getD (((p*7)+3) % ((b.map m7).length)) 0).toNat)*1117))+(p*29))+((p / ((b.map m7).length))*53)) / 64):Nat):Int)/\(0:Int)<(n:Int))/\∃ x:Nat,(n=0/\x=0\/x<n)/\Q (iN ((((((((b.getD (p % ((b.map m7).length)) 0).toNat)*131)+(((b.getD (((p*7)+3) % ((b.map m7).length)) 0).toNat)*1117))+(p*29))+((p / ((b.map m7).length))*53)) ^^^ (((((((b.getD (p % ((b.map m7).length)) 0).toNat)*131)+(((b.getD (((p*7)+3) % ((b.map m7).length)) 0).toNat)*1117))+(p*29))+((p / ((b.map m7).length))*53)) / 64)) % n)) (iN x)/\Er g (ak b (p+1)))))) (((b.getD (p % ((b.map m7).length)) 0).toNat:Nat):Int)) (s4 (n:Int) 1)) (((b.getD (((p*7)+3) % ((b.map m7).length)) 0).toNat:Nat):Int)) (((b.map m7).length:Nat):Int)) ((((((((b.getD (p % ((b.map m7).length)) 0).toNat)*131)+(((b.getD (((p*7)+3) % ((b.map m7).length)) 0).toNat)*1117))+(p*29))+((p / ((b.map m7).length))*53)) / 64:Nat):Int)) (((((((b.getD (p % ((b.map m7).length)) 0).toNat)*131)+(((b.getD (((p*7)+3) % ((b.map m7).length)) 0).toNat)*1117))+(p*29))+((p / ((b.map m7).length))*53):Nat):Int))
  Z7 ?_
 refine⟨trivial,rfl,Z9,trivial,rfl,fun hG=>trivial,fun hG=>rfl,⟨fun _=>rfl,fun h=>by rw[h] <;> rfl⟩,?_⟩
 refine bI (fun j7=>?_) fun j7=>?_
 refine⟨0,?_,?_,?_⟩
 try dsimp only
 omega
 first | rfl | simp_all
 first | rfl | exact⟨rfl,rfl⟩ | simp_all
 refine⟨trivial,rfl,Z9,by simp[Q],?_⟩
 have S8:1<=n/\1<=b.length:=Z9
 refine⟨trivial,rfl,?_⟩
 refine bI (fun l4=>?_) fun l4=>?_
 have u1:=(b.getD p 0).toNat_lt
 refine⟨trivial,rfl,⟨Z9,aj (d:=0) Z9⟩,trivial,by have:=Zx (b.getD p 0);omega,by have:=Zx (b.getD p 0);omega,?_⟩
 refine⟨(b.getD p 0).toNat % n,?_,?_,?_⟩
 try dsimp only
 exact .inr (Nat.mod_lt _ Z9)
 first | rfl | simp_all
 first | rfl | exact⟨rfl,rfl⟩ | simp_all
 have u1:=(b.getD (p % b.length) 0).toNat_lt
 have u2:=(b.getD ((p*7+3) % b.length) 0).toNat_lt
 have u3:=Nat.mod_lt p (show 0<b.length by omega)
 have u4:=Nat.mod_lt (p*7+3) (show 0<b.length by omega)
 have u5:=Nat.div_le_self p b.length
 have u6:=Int.natCast_nonneg (p / b.length)
 refine⟨trivial,rfl,trivial,rfl,Z2,Gp (by rw[ZM];exact u3),trivial,Z2,Z2,trivial,rfl,Z9,Z9,trivial,rfl,Z2,Gp (by rw[ZM];exact u4),trivial,Z2,Z2,Z2,Z9,Z2,trivial,rfl,Z2,Z2,Z2,Z2,Z2,Z2,?_⟩
 refine⟨(((((((b.getD (p % ((b.map m7).length)) 0).toNat)*131)+(((b.getD (((p*7)+3) % ((b.map m7).length)) 0).toNat)*1117))+(p*29))+((p / ((b.map m7).length))*53)) ^^^ (((((((b.getD (p % ((b.map m7).length)) 0).toNat)*131)+(((b.getD (((p*7)+3) % ((b.map m7).length)) 0).toNat)*1117))+(p*29))+((p / ((b.map m7).length))*53)) / 64)) % n,?_,?_,?_⟩
 try dsimp only
 exact .inr (Nat.mod_lt _ Z9)
 first | rfl | simp_all
 first | rfl | exact⟨rfl,rfl⟩ | simp_all)
def eH(b:BL)(p:Nat)(g:Nat)(l:List BL):E7 Tryz.prog:=.mk BL 44 [.ptr (.key 1000) [] g 0,ao l] [(1000,(g,ak b p))] ((b.length<=2000)/\(p<=1000000)/\(1<=l.length)/\(l.length<=1000)) (fun x=>x∈l) (fun x=>sV x) (fun x=>[(1000,(g,ak b (p+1)))]) (by
 rintro⟨hb,hp,hl,hn⟩
 refine eK (N:=12) (rs:=[.tmp 4]) (X:=BL) (post:=fun x=>x∈l) (E:=fun x=>sV x) (H':=fun x=>[(1000,(g,.agg [.sl false (b.map m7),iN (p+1)]))]) Tryz.func44 Z7 rfl rfl rfl Z7 [(1000,(0,.b7))] (by intro _ k hk;simpa[lk] using hk)
  (.q 1<|.q 4<|.h (.o4 8 (iN l.length))<|.cx (aV b p g l.length) [(1000,1000)] (fun (Ns:Nat)=>.r 3 [sV (l.getD Ns [])]<|.nil))
  (Q (iN ((l.map sV).length)) (iN l.length)/\(aV b p g l.length).sm/\Er g (ak b p)/\((b.length<=2000)/\(p<=1000000)/\(l.length<=1000000))/\∀ Ns:Nat,(l.length=0/\Ns=0\/Ns<l.length)->Ex (Ns:Int) (l.map sV) (sV (l.getD Ns []))/\True/\∃ x:BL,(x∈l)/\Q (sV (l.getD Ns [])) (sV x)/\Er g (ak b (p+1)))
  Z7 ?_
 refine⟨by simp[Q],rfl,rfl,⟨Z5,Z5,Z5⟩,?_⟩
 intro Ns Xu
 refine⟨FQ Z9,trivial,?_⟩
 refine⟨l.getD Ns [],?_,?_,?_⟩
 try dsimp only
 rw[ZZ,ZR Z9];simp
 first | rfl | simp_all
 first | rfl | exact⟨rfl,rfl⟩ | simp_all)
def vm(b:BL)(p:Nat)(g:Nat):E7 Tryz.prog:=.mk BL 128 [.ptr (.key 1000) [] g 0] [(1000,(g,ak b p))] ((b.length<=2000)/\(p<=1000000)) (fun x=>x∈ic) (fun x=>sV x) (fun x=>[(1000,(g,ak b (p+1)))]) (by
 rintro⟨hb,hp⟩
 refine eK (N:=6) (rs:=[.tmp 2]) (X:=BL) (post:=fun x=>x∈ic) (E:=fun x=>sV x) (H':=fun x=>[(1000,(g,.agg [.sl false (b.map m7),iN (p+1)]))]) Tryz.func128 Z7 rfl rfl rfl Z7 [(1000,(0,.b7))] (by intro _ k hk;simpa[lk] using hk)
  (.q 1<|.q 1<|.bs<|.cx (eH b p g ([([47]:BL),([47,97]:BL),([47,98]:BL),([47,97,47]:BL),([47,42,98]:BL),([47,97,36]:BL),([47,99]:BL),([47,42,63]:BL),([47,97,47,98]:BL),([47,42,47,98,36]:BL),([47,36]:BL),([47,98,42,99]:BL),([47,110,111,116,105,99,101]:BL),([47,42]:BL)]:List BL)) [(1000,1000)] (fun (y7:BL)=>.q 1<|.nil))
  ((fun v1:BL=>(fun v2:BL=>(fun v3:BL=>(fun v4:BL=>(fun v5:BL=>(fun v6:BL=>(fun v7:BL=>(fun v8:BL=>(fun v9:BL=>(fun v10:BL=>(fun v11:BL=>(fun v12:BL=>(fun G0:BL=>(fun Mi:BL=>((eH b p g ([Mi,v9,v10,v5,v6,v7,v11,v8,v3,v2,v12,v4,v1,G0]:List BL)).sm/\Er g (ak b p)/\((b.length<=2000)/\(p<=1000000)/\(1<=([Mi,v9,v10,v5,v6,v7,v11,v8,v3,v2,v12,v4,v1,G0]:List BL).length)/\(([Mi,v9,v10,v5,v6,v7,v11,v8,v3,v2,v12,v4,v1,G0]:List BL).length<=1000))/\∀ y7:BL,(y7∈([Mi,v9,v10,v5,v6,v7,v11,v8,v3,v2,v12,v4,v1,G0]:List BL))->∃ x:BL,(x∈ic)/\Q (sV y7) (sV x)/\Er g (ak b (p+1)))) ([47]:BL)) ([47,42]:BL)) ([47,36]:BL)) ([47,99]:BL)) ([47,98]:BL)) ([47,97]:BL)) ([47,42,63]:BL)) ([47,97,36]:BL)) ([47,42,98]:BL)) ([47,97,47]:BL)) ([47,98,42,99]:BL)) ([47,97,47,98]:BL)) ([47,42,47,98,36]:BL)) ([47,110,111,116,105,99,101]:BL))
  Z7 ?_
 refine⟨rfl,rfl,⟨by first | assumption | omega,by first | assumption | omega,Z6,Z6⟩,?_⟩
 intro y7 OY
 refine⟨y7,?_,?_,?_⟩
 try dsimp only
 assumption
 first | rfl | simp_all
 first | rfl | exact⟨rfl,rfl⟩ | simp_all)
abbrev bQ(p0:List Pg):V:=.sl false (p0.map r4)
abbrev aY(p0:List k9):V:=.sl false (p0.map bB)
abbrev eh(p0:List s5):V:=.sl false (p0.map an)
abbrev iH(p0:V)(p1:List s5)(p2:Nat):V:=.agg [ p0,.sl false (p1.map an),iN p2]
abbrev bR(p0:BL)(p1:BL)(p2:BL)(p3:Int):V:=.agg [sV p0,sV p1,sV p2,iV p3]
abbrev eC(p0:List BL)(p1:List s5)(p2:Nat):V:=.agg [.sl false (p0.map sV),.sl false (p1.map an),iN p2]
theorem Gw{k:Nat}(h:k<256):uN k=uN (UInt8.ofNat k).toNat:=by rw[UInt8.toNat_ofNat_of_lt' (by simpa using h)]
def tw(b:BL)(p:Nat)(g:Nat):E7 Tryz.prog:=.mk (List s5×Nat) 103 [.ptr (.key 1000) [] g 0] [(1000,(g,ak b p))] ((b.length<=2000)/\(p<=900000)) (fun x=>x.1.length<=4/\(∀ r,r∈x.1->r.path∈ic)/\p<=x.2/\x.2<=p+9) (fun x=>eh x.1) (fun x=>[(1000,(g,ak b x.2))]) (by
 rintro⟨hb,hp⟩
 refine eK (N:=22) (rs:=[.tmp 2]) (X:=List s5×Nat) (post:=fun x=>x.1.length<=4/\(∀ r,r∈x.1->r.path∈ic)/\p<=x.2/\x.2<=p+9) (E:=fun x=>.sl false (x.1.map an)) (H':=fun x=>[(1000,(g,.agg [.sl false (b.map m7),iN x.2]))]) Tryz.func103 Z7 rfl rfl rfl Z7 [(1000,(0,.b7))] (by intro _ k hk;simpa[lk] using hk)
  (.q 1<|.bs<|.q 1<|.q 1<|.cx (aV b p g 5) [(1000,1000)] (fun (r5:Nat)=>.q 1<|.h (.H2 3 2)<|.loop (Nat×(List s5)×Nat×Nat×Nat×Nat) (fun (n,e,q,u,f,k)=>⟨[(0,.ptr (.key 1000) [] g 0),(3,.own 2 (e.map an) u f k),(4,iN n)],[(1000,(g,ak b q))]⟩) (fun (n,e,q,u,f,k)=>e.length+n<=4/\(∀ r,r∈e->r.path∈ic)/\p<=q/\q+2*n<=p+9) (fun (n,e,q,u,f,k)=>n) (fun (n,e,q,u,f,k)=>.q 2<|.br (.q 2<|.cx (aV b q g 2) [(1000,1000)] (fun (E0:Nat)=>.q 2<|.cx (vm b (q+1) g) [(1000,1000)] (fun (u7:BL)=>.bd sO<|.bs<|.ap (fun g20 N5 Ou=>.h (.o4 20 (.own 2 ((e++[(⟨o6 (E0:Int) 0,u7⟩:s5)]).map an) g20 N5 Ou))<|.q 1<|.q 2<|.h (.o4 11 (iN (n-1)))<|.q 1<|.nil)))) (.q 2<|.h (.gg 2)<|.h (.fz 2)<|.h (.o4 2 (eh e))<|.nil))))
  ((aV b p g 5).sm/\Er g (ak b p)/\((b.length<=2000)/\(p<=1000000)/\(5<=1000000))/\∀ r5:Nat,(5=0/\r5=0\/r5<5)->(∃ x:Nat×(List s5)×Nat×Nat×Nat×Nat,match x with | (I8,C8,y8,G3,x9,r9)=>(C8.length+I8<=4/\(∀ r,r∈C8->r.path∈ic)/\p<=y8/\y8+2*I8<=p+9)/\E (.ptr (.key 1000) [] g 0)/\Q (.own 2 ([].map an) 0 0 0) (.own 2 (C8.map an) G3 x9 r9)/\Q (iN r5) (iN I8)/\Qr g (ak b (p+1)) g (ak b y8)/\True)/\∀ x:Nat×(List s5)×Nat×Nat×Nat×Nat,match x with | (n,e,q,u,f,k)=>(e.length+n<=4/\(∀ r,r∈e->r.path∈ic)/\p<=q/\q+2*n<=p+9)->Br (s7 (n:Int) 0) ((aV b q g 2).sm/\Er g (ak b q)/\((b.length<=2000)/\(q<=1000000)/\(2<=1000000))/\∀ E0:Nat,(2=0/\E0=0\/E0<2)->(fun v1:Bool=>(vm b (q+1) g).sm/\Er g (ak b (q+1))/\((b.length<=2000)/\((q+1)<=1000000))/\∀ u7:BL,(u7∈ic)->(fun v2:List V=>((2,2,u,f,k,(e.map an).length)=(2,2,u,f,k,(e.map an).length))/\(True)/\(V.ay v2=false)/\(aC 2 v2)/\(((e.map an).length+v2.length)*24<=140737488355328)/\∀ g20 N5 Ou:Nat,((.own 2 ((e.map an)++v2) g20 N5 Ou:V)=.own 2 ((e++[(⟨o6 (E0:Int) 0,u7⟩:s5)]).map an) g20 N5 Ou)/\m6 ((n:Int)-1)/\Q (iV ((n:Int)-1)) (iN (n-1))/\∃ x:Nat×(List s5)×Nat×Nat×Nat×Nat,match x with | (s9,w3,n9,A6,o9,k₂)=>(w3.length+s9<=4/\(∀ r,r∈w3->r.path∈ic)/\p<=n9/\n9+2*s9<=p+9)/\(s9<n)/\E (.ptr (.key 1000) [] g 0)/\Q (.own 2 ((e++[(⟨o6 (E0:Int) 0,u7⟩:s5)]).map an) g20 N5 Ou) (.own 2 (w3.map an) A6 o9 k₂)/\Q (iN (n-1)) (iN s9)/\Qr g (ak b ((q+1)+1)) g (ak b n9)/\True) ([.agg [bV v1,sV u7]]:List V)) (o6 (E0:Int) 0)) (((2,u,f,k,(e.map an).length)=(2,u,f,k,(e.map an).length))/\((.sl false (V.D5 (e.map an)):V)=eh e)/\∃ x:List s5×Nat,(x.1.length<=4/\(∀ r,r∈x.1->r.path∈ic)/\p<=x.2/\x.2<=p+9)/\Q (eh e) (eh x.1)/\Qr g (ak b q) g (ak b x.2)))
  Z7 ?_
 refine⟨rfl,rfl,⟨Z5,Z5,Z5⟩,?_⟩
 intro r5 MB
 refine⟨⟨(r5,[],p+1,0,0,0),?_,rfl,rfl,rfl,rfl,trivial⟩,?_⟩
 simp;omega
 rintro⟨n,e,q,u,f,k⟩ ⟨h1,h2,h3,h4⟩
 refine bI (fun j7=>?_) fun j7=>?_
 refine⟨rfl,rfl,⟨Z5,Z5,Z5⟩,?_⟩
 intro E0 N7
 refine⟨rfl,rfl,⟨Z5,Z5⟩,?_⟩
 intro u7 OW
 refine⟨rfl,trivial,rfl,by simp[aC,V.n,V.ns],Z0,?_⟩
 intro g20 N5 Ou
 refine⟨Zo (V.own 2 · g20 N5 Ou) Z8,Z9,by simp[Q];omega,?_⟩
 refine⟨(n-1,e++[(⟨o6 (E0:Int) 0,u7⟩:s5)],q+2,g20,N5,Ou),?_,?_,rfl,rfl,rfl,Z4,trivial⟩
 refine⟨Z0,?_,Z9,Z9⟩
 intro r hr
 rcases ZN.1 hr with h | h
 exact h2 r h
 rw[ZP.1 h];exact OW
 exact Z1
 refine⟨rfl,Zo (V.sl false) (aM (fun _=>rfl) _),?_⟩
 refine⟨(e,q),?_,?_,?_⟩
 try dsimp only
 exact⟨Z9,h2,Z9,Z9⟩
 first | rfl | simp_all
 first | rfl | exact⟨rfl,rfl⟩ | simp_all)
def qR(b:BL)(p:Nat)(g:Nat):E7 Tryz.prog:=.mk (List k9×Nat) 73 [.ptr (.key 1000) [] g 0] [(1000,(g,ak b p))] ((b.length<=2000)/\(p<=800000)) (fun x=>x.1.length<=4/\(∀ y,y∈x.1->B0 y)/\p<=x.2/\x.2<=p+60) (fun x=>aY x.1) (fun x=>[(1000,(g,ak b x.2))]) (by
 rintro⟨hb,hp⟩
 refine eK (N:=72) (rs:=[.tmp 2]) (X:=List k9×Nat) (post:=fun x=>x.1.length<=4/\(∀ y,y∈x.1->B0 y)/\p<=x.2/\x.2<=p+60) (E:=fun x=>.sl false (x.1.map bB)) (H':=fun x=>[(1000,(g,.agg [.sl false (b.map m7),iN x.2]))]) Tryz.func73 Z7 rfl rfl rfl Z7 [(1000,(0,.b7))] (by intro _ k hk;simpa[lk] using hk)
  (.q 1<|.bs<|.q 1<|.q 1<|.cx (aV b p g 4) [(1000,1000)] (fun (r5:Nat)=>.q 1<|.h (.H2 3 3)<|.loop (Nat×(List k9)×Nat×Nat×Nat×Nat) (fun (n,e,q,u,f,k)=>⟨[(0,.ptr (.key 1000) [] g 0),(3,.own 3 (e.map bB) u f k),(4,iN n)],[(1000,(g,ak b q))]⟩) (fun (n,e,q,u,f,k)=>e.length+n<=3/\(∀ y,y∈e->B0 y)/\p<=q/\q+15*n<=p+50) (fun (n,e,q,u,f,k)=>n) (fun (n,e,q,u,f,k)=>.q 2<|.br (.q 1<|.bs<|.cx (eH b q g ([([42]:BL),([114,111,118,101,114]:BL),([115,99,111,117,116]:BL)]:List BL)) [(1000,1000)] (fun (E0:BL)=>.bs<|.q 1<|.cx (tw b (q+1) g) [(1000,1000)] (fun (u7:List s5×Nat)=>.q 1<|.cx (aV b u7.2 g 4) [(1000,1000)] (fun (F8:Nat)=>.q 1<|.cx (aV b (u7.2+1) g 3) [(1000,1000)] (fun (F7:Nat)=>.q 1<|.bd iA<|.al iA (fun g5=>.st none<|.q 1<|.cx (aV b ((u7.2+1)+1) g 4) [(1000,1000)] (fun (C7:Nat)=>.q 1<|.join (List BL×Nat) (fun y=>⟨[(0,.ptr (.key 1000) [] g 0),(3,.own 3 (e.map bB) u f k),(4,iN n),(5,.ptr (.key 5) [] g5 0)],[(1000,(g,ak b y.2)),(5,(g5,eC y.1 u7.1 (F8*F7)))]⟩) (fun y=>y.1.length<=2/\(∀ x,x∈y.1->x.length<=5/\m4 x)/\q<=y.2/\y.2<=q+15) (.dx 7 [0,1,2,3,4,5,6] [(1,⟨false,[],some [5],[29],[]⟩),(4,⟨true,[],some [1000],[32],[1000]⟩),(6,⟨true,[],none,[34],[]⟩)] []<|.q 1<|.r 1 [.b7]<|.q 1<|.bs<|.cx (eH b (((u7.2+1)+1)+1) g ([([42]:BL),([114,111,118,101,114]:BL),([120]:BL)]:List BL)) [(1000,1000)] (fun (MT:BL)=>.bs<|.ux none (fun T3 Tw T9=>.h (.o4 34 (.own 1 ([E0,MT].map sV) T3 Tw T9))<|.q 1<|.h (.fz 34)<|.h (.o4 34 (.sl false ([E0,MT].map sV)))<|.st none<|.nil))) (.nil) (fun y=>.r 9 [.b7,.b7]<|.br (.r 2 [.b7]<|.bs<|.ap (fun J7 J5 J8=>.h (.o4 48 (.own 3 ((e++[(⟨y.1,u7.1,F8*F7⟩:k9)]).map bB) J7 J5 J8))<|.q 1<|.q 2<|.h (.o4 12 (iN (n-1)))<|.q 1<|.nil)) (.q 2<|.h (.o4 12 (iN (n-1)))<|.q 1<|.nil))))))))) (.q 1<|.cx (aV b q g 24) [(1000,1000)] (fun (D7:Nat)=>.q 2<|.br (.q 1<|.bs<|.bd iA<|.h (.Vb 55 (.agg [.sl false ([[120]].map sV),.sl false ([].map an),iN 0]))<|.bs<|.ap (fun Sh Rw Sy=>.h (.o4 57 (.own 3 ((e++[(⟨[[120]],[],0⟩:k9)]).map bB) Sh Rw Sy))<|.q 1<|.q 2<|.h (.gg 2)<|.h (.fz 2)<|.h (.o4 2 (aY (e++[(⟨[[120]],[],0⟩:k9)])))<|.nil)) (.q 2<|.br (.q 1<|.bd iA<|.h (.Vb 61 (.agg [.sl false ([].map sV),.sl false ([].map an),iN 2]))<|.bs<|.ap (fun Sf Ru Sv=>.h (.o4 63 (.own 3 ((e++[(⟨[],[],2⟩:k9)]).map bB) Sf Ru Sv))<|.q 1<|.q 2<|.h (.gg 2)<|.h (.fz 2)<|.h (.o4 2 (aY (e++[(⟨[],[],2⟩:k9)])))<|.nil)) (.q 2<|.br (.q 1<|.bs<|.bd iA<|.h (.Vb 68 (.agg [.sl false ([[88]].map sV),.sl false ([].map an),iN 2]))<|.bs<|.ap (fun Sd Rs St=>.h (.o4 70 (.own 3 ((e++[(⟨[[88]],[],2⟩:k9)]).map bB) Sd Rs St))<|.q 1<|.q 2<|.h (.gg 2)<|.h (.fz 2)<|.h (.o4 2 (aY (e++[(⟨[[88]],[],2⟩:k9)])))<|.nil)) (.q 2<|.h (.gg 2)<|.h (.fz 2)<|.h (.o4 2 (aY e))<|.nil))))))))
  ((fun v1:BL=>(fun v2:List V=>(fun v3:List V=>(fun v4:List V=>(fun v5:BL=>(fun v6:BL=>(fun v7:V=>(fun v8:BL=>((aV b p g 4).sm/\Er g (ak b p)/\((b.length<=2000)/\(p<=1000000)/\(4<=1000000))/\∀ r5:Nat,(4=0/\r5=0\/r5<4)->(∃ x:Nat×(List k9)×Nat×Nat×Nat×Nat,match x with | (I8,C8,y8,G3,x9,r9)=>(C8.length+I8<=3/\(∀ y,y∈C8->B0 y)/\p<=y8/\y8+15*I8<=p+50)/\E v7/\Q (.own 3 ([].map bB) 0 0 0) (.own 3 (C8.map bB) G3 x9 r9)/\Q (iN r5) (iN I8)/\Qr g (ak b (p+1)) g (ak b y8)/\True)/\∀ x:Nat×(List k9)×Nat×Nat×Nat×Nat,match x with | (n,e,q,u,f,k)=>(e.length+n<=3/\(∀ y,y∈e->B0 y)/\p<=q/\q+15*n<=p+50)->(fun v9:V=>(fun v10:V=>Br (s7 (n:Int) 0) ((eH b q g ([v5,v1,v6]:List BL)).sm/\Er g (ak b q)/\((b.length<=2000)/\(q<=1000000)/\(1<=([v5,v1,v6]:List BL).length)/\(([v5,v1,v6]:List BL).length<=1000))/\∀ E0:BL,(E0∈([v5,v1,v6]:List BL))->(tw b (q+1) g).sm/\Er g v9/\((b.length<=2000)/\((q+1)<=900000))/\∀ u7:List s5×Nat,(u7.1.length<=4/\(∀ r,r∈u7.1->r.path∈ic)/\(q+1)<=u7.2/\u7.2<=(q+1)+9)->(fun v11:Bool=>(aV b u7.2 g 4).sm/\Er g (ak b u7.2)/\((b.length<=2000)/\(u7.2<=1000000)/\(4<=1000000))/\∀ F8:Nat,(4=0/\F8=0\/F8<4)->(aV b (u7.2+1) g 3).sm/\Er g (ak b (u7.2+1))/\((b.length<=2000)/\((u7.2+1)<=1000000)/\(3<=1000000))/\∀ F7:Nat,(3=0/\F7=0\/F7<3)->m6 ((F8:Int)*(F7:Int))/\∀ g5:Nat,Z g5 0/\(aV b ((u7.2+1)+1) g 4).sm/\Er g (ak b ((u7.2+1)+1))/\((b.length<=2000)/\(((u7.2+1)+1)<=1000000)/\(4<=1000000))/\∀ C7:Nat,(4=0/\C7=0\/C7<4)->((o6 (C7:Int) 0)=true->Z g5 0/\(eH b (((u7.2+1)+1)+1) g ([v5,v1,v8]:List BL)).sm/\Er g (ak b (((u7.2+1)+1)+1))/\((b.length<=2000)/\((((u7.2+1)+1)+1)<=1000000)/\(1<=([v5,v1,v8]:List BL).length)/\(([v5,v1,v8]:List BL).length<=1000))/\∀ MT:BL,(MT∈([v5,v1,v8]:List BL))->(fun v12:List V=>(((aC 1 [sV E0]/\0<v12.length))/\(V.ay v12=false)/\(aC 1 v12)/\((([sV E0]:List V).length+v12.length)*16<=140737488355328))/\∀ T3 Tw T9:Nat,((.own 1 (([sV E0]:List V)++v12) T3 Tw T9:V)=.own 1 ([E0,MT].map sV) T3 Tw T9)/\((.sl false (V.D5 ([E0,MT].map sV)):V)=.sl false ([E0,MT].map sV))/\Z g5 0/\∃ y:List BL×Nat,(y.1.length<=2/\(∀ x,x∈y.1->x.length<=5/\m4 x)/\q<=y.2/\y.2<=q+15)/\E v7/\E v10/\E (iN n)/\E (.ptr (.key 5) [] g5 0)/\Qr g (ak b ((((u7.2+1)+1)+1)+1)) g (ak b y.2)/\Qr g5 (iH (.sl false ([E0,MT].map sV)) u7.1 (F8*F7)) g5 (eC y.1 u7.1 (F8*F7))/\True) ([sV MT]:List V))/\((o6 (C7:Int) 0)=false->∃ y:List BL×Nat,(y.1.length<=2/\(∀ x,x∈y.1->x.length<=5/\m4 x)/\q<=y.2/\y.2<=q+15)/\E v7/\E v10/\E (iN n)/\E (.ptr (.key 5) [] g5 0)/\Qr g (ak b (((u7.2+1)+1)+1)) g (ak b y.2)/\Qr g5 (iH (.sl false [sV E0]) u7.1 (F8*F7)) g5 (eC y.1 u7.1 (F8*F7))/\True)/\(∀ y:List BL×Nat,(y.1.length<=2/\(∀ x,x∈y.1->x.length<=5/\m4 x)/\q<=y.2/\y.2<=q+15)->Z g5 1/\Gd (v11==false) (Z g5 2)/\Pk v11 true (v11==false)/\Br (v11||(s7 ((F8*F7:Nat):Int) 0)) (Z g5 0/\((3,3,u,f,k,(e.map bB).length)=(3,3,u,f,k,(e.map bB).length))/\(True)/\(V.ay ([eC y.1 u7.1 (F8*F7)]:List V)=false)/\(aC 3 ([eC y.1 u7.1 (F8*F7)]:List V))/\(((e.map bB).length+([eC y.1 u7.1 (F8*F7)]:List V).length)*56<=140737488355328)/\∀ J7 J5 J8:Nat,((.own 3 ((e.map bB)++([eC y.1 u7.1 (F8*F7)]:List V)) J7 J5 J8:V)=.own 3 ((e++[(⟨y.1,u7.1,F8*F7⟩:k9)]).map bB) J7 J5 J8)/\m6 ((n:Int)-1)/\Q (iV ((n:Int)-1)) (iN (n-1))/\∃ x:Nat×(List k9)×Nat×Nat×Nat×Nat,match x with | (s9,w3,n9,A6,o9,k₂)=>(w3.length+s9<=3/\(∀ y,y∈w3->B0 y)/\p<=n9/\n9+15*s9<=p+50)/\(s9<n)/\E v7/\Q (.own 3 ((e++[(⟨y.1,u7.1,F8*F7⟩:k9)]).map bB) J7 J5 J8) (.own 3 (w3.map bB) A6 o9 k₂)/\Q (iN (n-1)) (iN s9)/\Qr g (ak b y.2) g (ak b n9)/\True) (m6 ((n:Int)-1)/\Q (iV ((n:Int)-1)) (iN (n-1))/\∃ x:Nat×(List k9)×Nat×Nat×Nat×Nat,match x with | (s9,w3,n9,A6,o9,k₂)=>(w3.length+s9<=3/\(∀ y,y∈w3->B0 y)/\p<=n9/\n9+15*s9<=p+50)/\(s9<n)/\E v7/\Q v10 (.own 3 (w3.map bB) A6 o9 k₂)/\Q (iN (n-1)) (iN s9)/\Qr g (ak b y.2) g (ak b n9)/\True))) (s7 (((u7.1.map an).length:Nat):Int) 0)) ((aV b q g 24).sm/\Er g (ak b q)/\((b.length<=2000)/\(q<=1000000)/\(24<=1000000))/\∀ D7:Nat,(24=0/\D7=0\/D7<24)->Br (o6 (D7:Int) 0) (((3,3,u,f,k,(e.map bB).length)=(3,3,u,f,k,(e.map bB).length))/\(True)/\(V.ay v2=false)/\(aC 3 v2)/\(((e.map bB).length+v2.length)*56<=140737488355328)/\∀ Sh Rw Sy:Nat,((.own 3 ((e.map bB)++v2) Sh Rw Sy:V)=.own 3 ((e++[(⟨[[120]],[],0⟩:k9)]).map bB) Sh Rw Sy)/\((3,Sh,Rw,Sy,((e++[(⟨[[120]],[],0⟩:k9)]).map bB).length)=(3,Sh,Rw,Sy,((e++[(⟨[[120]],[],0⟩:k9)]).map bB).length))/\((.sl false (V.D5 ((e++[(⟨[[120]],[],0⟩:k9)]).map bB)):V)=aY (e++[(⟨[[120]],[],0⟩:k9)]))/\∃ x:List k9×Nat,(x.1.length<=4/\(∀ y,y∈x.1->B0 y)/\p<=x.2/\x.2<=p+60)/\Q (aY (e++[(⟨[[120]],[],0⟩:k9)])) (aY x.1)/\Qr g v9 g (ak b x.2)) (Br (o6 (D7:Int) 1) (((3,3,u,f,k,(e.map bB).length)=(3,3,u,f,k,(e.map bB).length))/\(True)/\(V.ay v4=false)/\(aC 3 v4)/\(((e.map bB).length+v4.length)*56<=140737488355328)/\∀ Sf Ru Sv:Nat,((.own 3 ((e.map bB)++v4) Sf Ru Sv:V)=.own 3 ((e++[(⟨[],[],2⟩:k9)]).map bB) Sf Ru Sv)/\((3,Sf,Ru,Sv,((e++[(⟨[],[],2⟩:k9)]).map bB).length)=(3,Sf,Ru,Sv,((e++[(⟨[],[],2⟩:k9)]).map bB).length))/\((.sl false (V.D5 ((e++[(⟨[],[],2⟩:k9)]).map bB)):V)=aY (e++[(⟨[],[],2⟩:k9)]))/\∃ x:List k9×Nat,(x.1.length<=4/\(∀ y,y∈x.1->B0 y)/\p<=x.2/\x.2<=p+60)/\Q (aY (e++[(⟨[],[],2⟩:k9)])) (aY x.1)/\Qr g v9 g (ak b x.2)) (Br (o6 (D7:Int) 2) (((3,3,u,f,k,(e.map bB).length)=(3,3,u,f,k,(e.map bB).length))/\(True)/\(V.ay v3=false)/\(aC 3 v3)/\(((e.map bB).length+v3.length)*56<=140737488355328)/\∀ Sd Rs St:Nat,((.own 3 ((e.map bB)++v3) Sd Rs St:V)=.own 3 ((e++[(⟨[[88]],[],2⟩:k9)]).map bB) Sd Rs St)/\((3,Sd,Rs,St,((e++[(⟨[[88]],[],2⟩:k9)]).map bB).length)=(3,Sd,Rs,St,((e++[(⟨[[88]],[],2⟩:k9)]).map bB).length))/\((.sl false (V.D5 ((e++[(⟨[[88]],[],2⟩:k9)]).map bB)):V)=aY (e++[(⟨[[88]],[],2⟩:k9)]))/\∃ x:List k9×Nat,(x.1.length<=4/\(∀ y,y∈x.1->B0 y)/\p<=x.2/\x.2<=p+60)/\Q (aY (e++[(⟨[[88]],[],2⟩:k9)])) (aY x.1)/\Qr g v9 g (ak b x.2)) (((3,u,f,k,(e.map bB).length)=(3,u,f,k,(e.map bB).length))/\((.sl false (V.D5 (e.map bB)):V)=aY e)/\∃ x:List k9×Nat,(x.1.length<=4/\(∀ y,y∈x.1->B0 y)/\p<=x.2/\x.2<=p+60)/\Q (aY e) (aY x.1)/\Qr g v9 g (ak b x.2)))))) (.own 3 (e.map bB) u f k)) (ak b (q+1)))) ([120]:BL)) (.ptr (.key 1000) [] g 0)) ([115,99,111,117,116]:BL)) ([42]:BL)) ([.agg [.sl false ([].map sV),.sl false ([].map an),iN 2]]:List V)) ([.agg [.sl false ([[88]].map sV),.sl false ([].map an),iN 2]]:List V)) ([.agg [.sl false ([[120]].map sV),.sl false ([].map an),iN 0]]:List V)) ([114,111,118,101,114]:BL))
  Z7 ?_
 refine⟨rfl,rfl,⟨Z9,Z9,Z9⟩,?_⟩
 intro r5 MB
 refine⟨⟨(r5,[],p+1,0,0,0),?_,rfl,rfl,rfl,rfl,trivial⟩,?_⟩
 simp;omega
 rintro⟨n,e,q,u,f,k⟩ ⟨h1,h2,h3,h4⟩
 refine bI (fun j7=>?_) fun j7=>?_
 refine⟨rfl,rfl,⟨Z9,Z9,Z8,Z8⟩,?_⟩
 intro E0 N7
 refine⟨rfl,rfl,⟨Z9,Z9⟩,?_⟩
 intro u7 OW
 refine⟨rfl,rfl,⟨Z9,Z9,Z9⟩,?_⟩
 intro F8 Xr
 refine⟨rfl,rfl,⟨Z9,Z9,Z9⟩,?_⟩
 intro F7 Xq
 refine⟨by have:=Nat.mul_le_mul (show F8<=3 by omega) (show F7<=2 by omega);omega,?_⟩
 intro g5
 refine⟨rfl,rfl,rfl,⟨Z9,Z9,Z9⟩,?_⟩
 intro C7 P3
 refine⟨fun l4=>?_,fun l4=>?_,fun y hy=>?_⟩
 try simp only[nb]at l4
 refine⟨rfl,rfl,rfl,⟨Z9,Z9,Z8,Z8⟩,?_⟩
 intro MT RQ
 refine⟨⟨⟨by simp[aC,V.n,V.ns],Z8⟩,rfl,by simp[aC,V.n,V.ns],Z8⟩,?_⟩
 intro T3 Tw T9
 refine⟨Zo (V.own 1 · T3 Tw T9) Z8,Zo (V.sl false) (aM (fun _=>rfl) _),rfl,?_⟩
 exact⟨([E0,MT],(((u7.2+1)+1)+1)+1),⟨Z8,fun x hx=>(List.mem_cons.1 hx).elim (fun h=>h ▸ ⟨bC rfl N7,dp rfl N7⟩) fun h=>ZP.1 h ▸ ⟨bC rfl RQ,dp rfl RQ⟩,Z9,Z9⟩,rfl,rfl,rfl,rfl,Z4,Z4,trivial⟩
 try simp only[nb]at l4
 exact⟨([E0],((u7.2+1)+1)+1),⟨Z8,fun x hx=>ZP.1 hx ▸ ⟨bC rfl N7,dp rfl N7⟩,Z9,Z9⟩,rfl,rfl,rfl,rfl,Z4,Z4,trivial⟩
 refine⟨rfl,fun hG=>rfl,⟨fun _=>rfl,fun h=>by rw[h] <;> rfl⟩,?_⟩
 refine bI (fun m8=>?_) fun m8=>?_
 refine⟨rfl,rfl,trivial,rfl,by simp[aC,V.n,V.ns],Z0,?_⟩
 intro J7 J5 J8
 refine⟨Zo (V.own 3 · J7 J5 J8) Z8,Z9,by simp[Q];omega,?_⟩
 refine⟨(n-1,e++[(⟨y.1,u7.1,F8*F7⟩:k9)],y.2,J7,J5,J8),?_,?_,rfl,rfl,rfl,rfl,trivial⟩
 refine⟨Z0,fE h2 ⟨hy.1,fun x hx=>(hy.2.1 x hx).1,OW.1,OW.2.1,?_,fun x hx=>(hy.2.1 x hx).2⟩,Z9,Z9⟩
 exact Nat.mul_le_mul (show F8<=3 by omega) (show F7<=2 by omega)
 exact Z1
 refine⟨Z9,by simp[Q];omega,?_⟩
 refine⟨(n-1,e,y.2,u,f,k),?_,?_,rfl,rfl,rfl,rfl,trivial⟩
 exact⟨Z9,h2,Z9,Z9⟩
 exact Z1
 refine⟨rfl,rfl,⟨Z9,Z9,Z9⟩,?_⟩
 intro D7 D9
 refine bI (fun w7=>?_) fun w7=>?_
 refine⟨rfl,trivial,rfl,by simp[aC,V.n,V.ns],Z0,?_⟩
 intro Sh Rw Sy
 refine⟨Zo (V.own 3 · Sh Rw Sy) Z8,rfl,Zo (V.sl false) (aM (fun _=>rfl) _),?_⟩
 refine⟨(e++[(⟨[[120]],[],0⟩:k9)],q+1),?_,?_,?_⟩
 try dsimp only
 exact⟨Z0,fE h2 ⟨Z8,Z8,Z8,Z8,Z8,by first | (solve | simp) | (intro x hx;rw[ZP.1 hx];exact bn rfl)⟩,Z9,Z9⟩
 first | rfl | simp_all
 first | rfl | exact⟨rfl,rfl⟩ | simp_all
 refine bI (fun G8=>?_) fun G8=>?_
 refine⟨rfl,trivial,rfl,by simp[aC,V.n,V.ns],Z0,?_⟩
 intro Sf Ru Sv
 refine⟨Zo (V.own 3 · Sf Ru Sv) Z8,rfl,Zo (V.sl false) (aM (fun _=>rfl) _),?_⟩
 refine⟨(e++[(⟨[],[],2⟩:k9)],q+1),?_,?_,?_⟩
 try dsimp only
 exact⟨Z0,fE h2 ⟨Z8,Z8,Z8,Z8,Z8,by first | (solve | simp) | (intro x hx;rw[ZP.1 hx];exact bn rfl)⟩,Z9,Z9⟩
 first | rfl | simp_all
 first | rfl | exact⟨rfl,rfl⟩ | simp_all
 refine bI (fun MN=>?_) fun MN=>?_
 refine⟨rfl,trivial,rfl,by simp[aC,V.n,V.ns],Z0,?_⟩
 intro Sd Rs St
 refine⟨Zo (V.own 3 · Sd Rs St) Z8,rfl,Zo (V.sl false) (aM (fun _=>rfl) _),?_⟩
 refine⟨(e++[(⟨[[88]],[],2⟩:k9)],q+1),?_,?_,?_⟩
 try dsimp only
 exact⟨Z0,fE h2 ⟨Z8,Z8,Z8,Z8,Z8,by first | (solve | simp) | (intro x hx;rw[ZP.1 hx];exact bn rfl)⟩,Z9,Z9⟩
 first | rfl | simp_all
 first | rfl | exact⟨rfl,rfl⟩ | simp_all
 refine⟨rfl,Zo (V.sl false) (aM (fun _=>rfl) _),?_⟩
 refine⟨(e,q+1),?_,?_,?_⟩
 try dsimp only
 exact⟨Z9,h2,Z9,Z9⟩
 first | rfl | simp_all
 first | rfl | exact⟨rfl,rfl⟩ | simp_all)
def dY(b:BL)(p:Nat)(g:Nat):E7 Tryz.prog:=.mk (BL×Nat) 74 [.ptr (.key 1000) [] g 0] [(1000,(g,ak b p))] ((b.length<=2000)/\(p<=900000)) (fun x=>x.1.length<=25/\p<=x.2/\x.2<=p+6/\m4 x.1) (fun x=>sV x.1) (fun x=>[(1000,(g,ak b x.2))]) (by
 rintro⟨hb,hp⟩
 refine eK (N:=35) (rs:=[.tmp 2]) (X:=BL×Nat) (post:=fun x=>x.1.length<=25/\p<=x.2/\x.2<=p+6/\m4 x.1) (E:=fun x=>sV x.1) (H':=fun x=>[(1000,(g,.agg [.sl false (b.map m7),iN x.2]))]) Tryz.func74 Z7 rfl rfl rfl Z7 [(1000,(0,.b7))] (by intro _ k hk;simpa[lk] using hk)
  (.q 1<|.c (kg) []<|.q 1<|.cx (aV b p g 4) [(1000,1000)] (fun (y7:Nat)=>.r 2 [sV (aH.getD y7 [])]<|.bd cY<|.al cY (fun g3=>.st none<|.q 1<|.cx (aV b (p+1) g 3) [(1000,1000)] (fun (r5:Nat)=>.q 1<|.h (.A4 (.key 3) [1] 1)<|.loop (Nat×(List BL)×Nat×Nat×Nat×Nat) (fun (n,e,q,u,f,k)=>⟨[(0,.ptr (.key 1000) [] g 0),(3,.ptr (.key 3) [] g3 0),(4,iN n)],[(1000,(g,ak b q)),(3,(g3,.agg [sV (aH.getD y7 []),.own 1 (e.map sV) u f k,bV false,sV []]))]⟩) (fun (n,e,q,u,f,k)=>e.length+n<=2/\(∀ y,y∈e->y.length<=6/\m4 y)/\p<=q/\q+n<=p+4) (fun (n,e,q,u,f,k)=>n) (fun (n,e,q,u,f,k)=>.q 2<|.br (.dx 7 [0,1,2,3,4,5,6] [(1,⟨false,[],some [3],[18],[]⟩),(4,⟨true,[],some [1000],[21],[1000]⟩),(6,⟨true,[],none,[23],[3]⟩)] []<|.q 1<|.r 1 [.b7]<|.q 1<|.bs<|.cx (eH b q g ([([97]:BL),([98]:BL),([99]:BL),([110,111,116,105,99,101]:BL)]:List BL)) [(1000,1000)] (fun (NR:BL)=>.bs<|.ux none (fun g23 N4 Ot=>.h (.o4 23 (.own 1 ((e++[NR]).map sV) g23 N4 Ot))<|.q 1<|.st none<|.q 2<|.h (.o4 16 (iN (n-1)))<|.q 1<|.nil))) (.q 1<|.cx (aV b q g 8) [(1000,1000)] (fun (C7:Nat)=>.q 1<|.br (.q 1<|.st none<|.q 1<|.bs<|.cx (eH b (q+1) g ([[],([97]:BL),([98,37,51,68]:BL)]:List BL)) [(1000,1000)] (fun (J3:BL)=>.q 1<|.st none<|.mv<|.h (.fz 33)<|.h (.o4 33 (.agg [sV (aH.getD y7 []),ao e,bV true,sV J3]))<|.c (ia (⟨(aH.getD y7 []),e,true,J3⟩:r8)) []<|.q 1<|.nil)) (.mv<|.h (.fz 33)<|.h (.o4 33 (.agg [sV (aH.getD y7 []),ao e,bV false,sV []]))<|.c (ia (⟨(aH.getD y7 []),e,false,[]⟩:r8)) []<|.q 1<|.nil))))))))
  ((fun v1:BL=>(fun v2:BL=>(fun v3:BL=>(fun v4:BL=>(fun v5:BL=>((kg).sm/\(True)/\(aV b p g 4).sm/\Er g (ak b p)/\((b.length<=2000)/\(p<=1000000)/\(4<=1000000))/\∀ y7:Nat,(4=0/\y7=0\/y7<4)->Ex (y7:Int) (aH.map sV) (sV (aH.getD y7 []))/\True/\∀ g3:Nat,Z g3 0/\(aV b (p+1) g 3).sm/\Er g (ak b (p+1))/\((b.length<=2000)/\((p+1)<=1000000)/\(3<=1000000))/\∀ r5:Nat,(3=0/\r5=0\/r5<3)->(∃ x:Nat×(List BL)×Nat×Nat×Nat×Nat,match x with | (I8,C8,y8,G3,x9,r9)=>(C8.length+I8<=2/\(∀ y,y∈C8->y.length<=6/\m4 y)/\p<=y8/\y8+I8<=p+4)/\E (.ptr (.key 1000) [] g 0)/\E (.ptr (.key 3) [] g3 0)/\Q (iN r5) (iN I8)/\Qr g (ak b ((p+1)+1)) g (ak b y8)/\Qr g3 (.agg [sV (aH.getD y7 []),.own 1 ([].map sV) 0 0 0,bV false,sV []]) g3 (.agg [sV (aH.getD y7 []),.own 1 (C8.map sV) G3 x9 r9,bV false,sV []])/\True)/\∀ x:Nat×(List BL)×Nat×Nat×Nat×Nat,match x with | (n,e,q,u,f,k)=>(e.length+n<=2/\(∀ y,y∈e->y.length<=6/\m4 y)/\p<=q/\q+n<=p+4)->Br (s7 (n:Int) 0) (Z g3 1/\(eH b q g ([v2,v4,v5,v1]:List BL)).sm/\Er g (ak b q)/\((b.length<=2000)/\(q<=1000000)/\(1<=([v2,v4,v5,v1]:List BL).length)/\(([v2,v4,v5,v1]:List BL).length<=1000))/\∀ NR:BL,(NR∈([v2,v4,v5,v1]:List BL))->(fun v6:List V=>(((1,1,u,f,k,(e.map sV).length)=(1,1,u,f,k,(e.map sV).length))/\(V.ay v6=false)/\(aC 1 v6)/\(((e.map sV).length+v6.length)*16<=140737488355328))/\∀ g23 N4 Ot:Nat,((.own 1 ((e.map sV)++v6) g23 N4 Ot:V)=.own 1 ((e++[NR]).map sV) g23 N4 Ot)/\Z g3 1/\m6 ((n:Int)-1)/\Q (iV ((n:Int)-1)) (iN (n-1))/\∃ x:Nat×(List BL)×Nat×Nat×Nat×Nat,match x with | (s9,w3,n9,A6,o9,k₂)=>(w3.length+s9<=2/\(∀ y,y∈w3->y.length<=6/\m4 y)/\p<=n9/\n9+s9<=p+4)/\(s9<n)/\E (.ptr (.key 1000) [] g 0)/\E (.ptr (.key 3) [] g3 0)/\Q (iN (n-1)) (iN s9)/\Qr g (ak b (q+1)) g (ak b n9)/\Qr g3 (.agg [sV (aH.getD y7 []),.own 1 ((e++[NR]).map sV) g23 N4 Ot,bV false,sV []]) g3 (.agg [sV (aH.getD y7 []),.own 1 (w3.map sV) A6 o9 k₂,bV false,sV []])/\True) ([sV NR]:List V)) ((aV b q g 8).sm/\Er g (ak b q)/\((b.length<=2000)/\(q<=1000000)/\(8<=1000000))/\∀ C7:Nat,(8=0/\C7=0\/C7<8)->Br (o6 (C7:Int) 0) (Z g3 2/\(eH b (q+1) g ([[],v2,v3]:List BL)).sm/\Er g (ak b (q+1))/\((b.length<=2000)/\((q+1)<=1000000)/\(1<=([[],v2,v3]:List BL).length)/\(([[],v2,v3]:List BL).length<=1000))/\∀ J3:BL,(J3∈([[],v2,v3]:List BL))->Z g3 3/\Z g3 0/\((.agg [sV (aH.getD y7 []),.sl false (V.D5 (e.map sV)),bV true,sV J3]:V)=.agg [sV (aH.getD y7 []),ao e,bV true,sV J3])/\(ia (⟨(aH.getD y7 []),e,true,J3⟩:r8)).sm/\((dH (⟨(aH.getD y7 []),e,true,J3⟩:r8)))/\∃ x:BL×Nat,(x.1.length<=25/\p<=x.2/\x.2<=p+6/\m4 x.1)/\Q (sV (bj (⟨(aH.getD y7 []),e,true,J3⟩:r8))) (sV x.1)/\Qr g (ak b ((q+1)+1)) g (ak b x.2)) (Z g3 0/\((.agg [sV (aH.getD y7 []),.sl false (V.D5 (e.map sV)),bV false,sV []]:V)=.agg [sV (aH.getD y7 []),ao e,bV false,sV []])/\(ia (⟨(aH.getD y7 []),e,false,[]⟩:r8)).sm/\((dH (⟨(aH.getD y7 []),e,false,[]⟩:r8)))/\∃ x:BL×Nat,(x.1.length<=25/\p<=x.2/\x.2<=p+6/\m4 x.1)/\Q (sV (bj (⟨(aH.getD y7 []),e,false,[]⟩:r8))) (sV x.1)/\Qr g (ak b (q+1)) g (ak b x.2))))) ([99]:BL)) ([98]:BL)) ([98,37,51,68]:BL)) ([97]:BL)) ([110,111,116,105,99,101]:BL))
  Z7 ?_
 refine⟨rfl,trivial,rfl,rfl,⟨Z9,Z9,Z9⟩,?_⟩
 intro y7 OY
 refine⟨FQ (by show _<4;omega),trivial,?_⟩
 intro g3
 refine⟨rfl,rfl,rfl,⟨Z9,Z9,Z9⟩,?_⟩
 intro r5 MB
 refine⟨⟨(r5,[],p+1+1,0,0,0),?_,rfl,rfl,rfl,Z4,rfl,trivial⟩,?_⟩
 simp;omega
 rintro⟨n,e,q,u,f,k⟩ ⟨h1,h2,h3,h4⟩
 refine bI (fun j7=>?_) fun j7=>?_
 refine⟨rfl,rfl,rfl,⟨Z9,Z9,Z8,Z8⟩,?_⟩
 intro NR RS
 refine⟨⟨rfl,rfl,by simp[aC,V.n,V.ns],Z0⟩,?_⟩
 intro g23 N4 Ot
 refine⟨Zo (V.own 1 · g23 N4 Ot) Z8,rfl,Z9,by simp[Q];omega,?_⟩
 refine⟨(n-1,e++[NR],q+1,g23,N4,Ot),?_,?_,rfl,rfl,rfl,rfl,rfl,trivial⟩
 exact⟨Z0,fE h2 ⟨bC rfl RS,dp rfl RS⟩,Z9,Z9⟩
 exact Z1
 refine⟨rfl,rfl,⟨Z9,Z9,Z9⟩,?_⟩
 intro C7 P3
 refine bI (fun l4=>?_) fun l4=>?_
 refine⟨rfl,rfl,rfl,⟨Z9,Z9,Z8,Z8⟩,?_⟩
 intro J3 Nl
 refine⟨rfl,rfl,by simp only[aM (f:=sV) (fun _=>rfl)],rfl,(mG (cF rfl _) (by simp only;omega) (fun x hx=>(h2 x hx).1) (by first | exact bC rfl Nl | simp)).1,?_⟩
 refine⟨(bj (⟨(aH.getD y7 []),e,true,J3⟩:r8),(q+1)+1),?_,?_,?_⟩
 try dsimp only
 exact⟨(mG (cF rfl _) (by simp only;omega) (fun x hx=>(h2 x hx).1) (bC rfl Nl)).2,Z9,Z9,zB (dP rfl _) (fun x hx=>(h2 x hx).2) (dp rfl Nl)⟩
 first | rfl | simp_all
 first | rfl | exact⟨rfl,rfl⟩ | simp_all
 refine⟨rfl,by simp only[aM (f:=sV) (fun _=>rfl)],rfl,(mG (cF rfl _) (by simp only;omega) (fun x hx=>(h2 x hx).1) (by first | exact bC rfl Nl | simp)).1,?_⟩
 refine⟨(bj (⟨(aH.getD y7 []),e,false,[]⟩:r8),q+1),?_,?_,?_⟩
 try dsimp only
 exact⟨(mG (cF rfl _) (by simp only;omega) (fun x hx=>(h2 x hx).1) Z8).2,Z9,Z9,zB (dP rfl _) (fun x hx=>(h2 x hx).2) aT⟩
 first | rfl | simp_all
 first | rfl | exact⟨rfl,rfl⟩ | simp_all)
def fw(b:BL)(p:Nat)(g:Nat):E7 Tryz.prog:=.mk (BL×Nat) 104 [.ptr (.key 1000) [] g 0] [(1000,(g,ak b p))] ((b.length<=2000)/\(p<=890000)) (fun x=>x.1.length<=25/\p<=x.2/\x.2<=p+7/\m4 x.1) (fun x=>sV x.1) (fun x=>[(1000,(g,ak b x.2))]) (by
 rintro⟨hb,hp⟩
 refine eK (N:=34) (rs:=[.tmp 2]) (X:=BL×Nat) (post:=fun x=>x.1.length<=25/\p<=x.2/\x.2<=p+7/\m4 x.1) (E:=fun x=>sV x.1) (H':=fun x=>[(1000,(g,.agg [.sl false (b.map m7),iN x.2]))]) Tryz.func104 Z7 rfl rfl rfl Z7 [(1000,(0,.b7))] (by intro _ k hk;simpa[lk] using hk)
  (.q 1<|.q 1<|.cx (aV b p g 8) [(1000,1000)] (fun (l3:Nat)=>.q 2<|.join (Bool) (fun c=>⟨[(0,.ptr (.key 1000) [] g 0),(4,iN l3),(5,bV c)],[(1000,(g,ak b (p+1)))]⟩) (fun c=>True) (.nil) (.q 2<|.nil) (fun c=>.br (.q 1<|.cx (dY b (p+1) g) [(1000,1000)] (fun (G':BL×Nat)=>.q 1<|.nil)) (.q 2<|.br (.q 1<|.bs<|.cx (eH b (p+1) g ([([97]:BL),([98]:BL),([97,47,98]:BL),([99,47,46,46,47,98]:BL),[],([120,47,46,47,99]:BL)]:List BL)) [(1000,1000)] (fun (O8:BL)=>.q 2<|.nil)) (.q 2<|.br (.q 1<|.bs<|.cx (eH b (p+1) g ([([46,46]:BL),([46,46,47,99]:BL),([46,46,47,46,46,47,46,46]:BL),([46]:BL),([46,47,97]:BL)]:List BL)) [(1000,1000)] (fun (J3:BL)=>.q 1<|.nil)) (.q 2<|.br (.q 1<|.bs<|.cx (eH b (p+1) g ([([63,97]:BL),([63]:BL),([35,116,111,112]:BL),[],([97,35,98]:BL),([98,63,97]:BL)]:List BL)) [(1000,1000)] (fun (NW:BL)=>.q 1<|.nil)) (.q 2<|.br (.q 1<|.bs<|.cx (eH b (p+1) g ([([47,47,65,66,47,97]:BL),([47,47,99,100]:BL),([47,47,99,100,63,120]:BL),([47,47,97,98,47,37,54,49]:BL),([47,47,116,111,111,108,111,110,103,47,97]:BL),([47,47,97,49,47,98]:BL),([47,47,47,97]:BL)]:List BL)) [(1000,1000)] (fun (NV:BL)=>.q 1<|.nil)) (.q 1<|.bs<|.cx (eH b (p+1) g ([([97]:BL),([98]:BL),([99]:BL),([97,47,98]:BL)]:List BL)) [(1000,1000)] (fun (NU:BL)=>.q 1<|.nil)))))))))
  ((fun v1:BL=>(fun v2:BL=>(fun v3:BL=>(fun v4:BL=>(fun v5:BL=>(fun v6:BL=>(fun v7:BL=>(fun v8:BL=>(fun v9:BL=>(fun v10:BL=>(fun v11:BL=>(fun v12:BL=>(fun G0:V=>(fun Mi:BL=>(fun M4:BL=>(fun Nt:BL=>(fun Ow:V=>(fun NX:BL=>(fun Vf:BL=>(fun v20:BL=>(fun v21:BL=>(fun v22:BL=>(fun Ve:BL=>(fun v24:BL=>(fun Vd:BL=>((aV b p g 8).sm/\Er g (ak b p)/\((b.length<=2000)/\(p<=1000000)/\(8<=1000000))/\∀ l3:Nat,(8=0/\l3=0\/l3<8)->((o6 (l3:Int) 0)=true->∃ c:Bool,(True)/\E (.ptr (.key 1000) [] g 0)/\E (iN l3)/\Q (bV (o6 (l3:Int) 0)) (bV c)/\Er g G0/\True)/\((o6 (l3:Int) 0)=false->∃ c:Bool,(True)/\E (.ptr (.key 1000) [] g 0)/\E (iN l3)/\Q (bV (o6 (l3:Int) 1)) (bV c)/\Er g G0/\True)/\(∀ c:Bool,(True)->Br c ((dY b (p+1) g).sm/\Er g G0/\((b.length<=2000)/\((p+1)<=900000))/\∀ G':BL×Nat,(G'.1.length<=25/\(p+1)<=G'.2/\G'.2<=(p+1)+6/\m4 G'.1)->∃ x:BL×Nat,(x.1.length<=25/\p<=x.2/\x.2<=p+7/\m4 x.1)/\Q (sV G'.1) (sV x.1)/\Qr g (ak b G'.2) g (ak b x.2)) (Br (o6 (l3:Int) 2) ((eH b (p+1) g ([v6,v7,v2,v8,[],v11]:List BL)).sm/\Er g G0/\((b.length<=2000)/\((p+1)<=1000000)/\(1<=([v6,v7,v2,v8,[],v11]:List BL).length)/\(([v6,v7,v2,v8,[],v11]:List BL).length<=1000))/\∀ O8:BL,(O8∈([v6,v7,v2,v8,[],v11]:List BL))->(([47]:BL).length+O8.length<=4611686018427387904)/\∃ x:BL×Nat,(x.1.length<=25/\p<=x.2/\x.2<=p+7/\m4 x.1)/\Q (sV (([47]:BL)++O8)) (sV x.1)/\Qr g Ow g (ak b x.2)) (Br (o6 (l3:Int) 3) ((eH b (p+1) g ([v21,M4,v3,Ve,NX]:List BL)).sm/\Er g G0/\((b.length<=2000)/\((p+1)<=1000000)/\(1<=([v21,M4,v3,Ve,NX]:List BL).length)/\(([v21,M4,v3,Ve,NX]:List BL).length<=1000))/\∀ J3:BL,(J3∈([v21,M4,v3,Ve,NX]:List BL))->∃ x:BL×Nat,(x.1.length<=25/\p<=x.2/\x.2<=p+7/\m4 x.1)/\Q (sV J3) (sV x.1)/\Qr g Ow g (ak b x.2)) (Br (o6 (l3:Int) 4) ((eH b (p+1) g ([v22,v24,v12,[],Vf,v20]:List BL)).sm/\Er g G0/\((b.length<=2000)/\((p+1)<=1000000)/\(1<=([v22,v24,v12,[],Vf,v20]:List BL).length)/\(([v22,v24,v12,[],Vf,v20]:List BL).length<=1000))/\∀ NW:BL,(NW∈([v22,v24,v12,[],Vf,v20]:List BL))->∃ x:BL×Nat,(x.1.length<=25/\p<=x.2/\x.2<=p+7/\m4 x.1)/\Q (sV NW) (sV x.1)/\Qr g Ow g (ak b x.2)) (Br (o6 (l3:Int) 5) ((eH b (p+1) g ([v9,Mi,v5,v4,v1,v10,Nt]:List BL)).sm/\Er g G0/\((b.length<=2000)/\((p+1)<=1000000)/\(1<=([v9,Mi,v5,v4,v1,v10,Nt]:List BL).length)/\(([v9,Mi,v5,v4,v1,v10,Nt]:List BL).length<=1000))/\∀ NV:BL,(NV∈([v9,Mi,v5,v4,v1,v10,Nt]:List BL))->∃ x:BL×Nat,(x.1.length<=25/\p<=x.2/\x.2<=p+7/\m4 x.1)/\Q (sV NV) (sV x.1)/\Qr g Ow g (ak b x.2)) ((eH b (p+1) g ([v6,v7,Vd,v2]:List BL)).sm/\Er g G0/\((b.length<=2000)/\((p+1)<=1000000)/\(1<=([v6,v7,Vd,v2]:List BL).length)/\(([v6,v7,Vd,v2]:List BL).length<=1000))/\∀ NU:BL,(NU∈([v6,v7,Vd,v2]:List BL))->∃ x:BL×Nat,(x.1.length<=25/\p<=x.2/\x.2<=p+7/\m4 x.1)/\Q (sV NU) (sV x.1)/\Qr g Ow g (ak b x.2))))))))) ([99]:BL)) ([63]:BL)) ([46]:BL)) ([63,97]:BL)) ([46,46]:BL)) ([98,63,97]:BL)) ([97,35,98]:BL)) ([46,47,97]:BL)) (ak b ((p+1)+1))) ([47,47,47,97]:BL)) ([46,46,47,99]:BL)) ([47,47,99,100]:BL)) (ak b (p+1))) ([35,116,111,112]:BL)) ([120,47,46,47,99]:BL)) ([47,47,97,49,47,98]:BL)) ([47,47,65,66,47,97]:BL)) ([99,47,46,46,47,98]:BL)) ([98]:BL)) ([97]:BL)) ([47,47,99,100,63,120]:BL)) ([47,47,97,98,47,37,54,49]:BL)) ([46,46,47,46,46,47,46,46]:BL)) ([97,47,98]:BL)) ([47,47,116,111,111,108,111,110,103,47,97]:BL))
  Z7 ?_
 refine⟨rfl,rfl,⟨Z9,Z9,Z9⟩,?_⟩
 intro l3 G5
 refine⟨fun j7=>?_,fun j7=>?_,fun c hc=>?_⟩
 try simp only[nb]at j7
 exact⟨o6 (l3:Int) 0,trivial,rfl,rfl,rfl,rfl,trivial⟩
 try simp only[nb]at j7
 exact⟨o6 (l3:Int) 1,trivial,rfl,rfl,rfl,rfl,trivial⟩
 refine bI (fun l4=>?_) fun l4=>?_
 · refine⟨rfl,rfl,⟨Z9,Z9⟩,?_⟩
   intro G' Uy
   refine⟨(G'.1,G'.2),?_,?_,?_⟩
   · try dsimp only
     exact⟨Z9,Z9,Z9,by(try dsimp only);repeat (first | assumption | exact aT | exact bn rfl | exact dp rfl (by assumption) | exact m4.drop (by apply And.right;apply And.right;apply And.right;assumption) _ | (apply And.right;apply And.right;apply And.right;assumption) | apply m4.app)⟩
   first | rfl | simp_all
   first | rfl | exact⟨rfl,rfl⟩ | simp_all
 · refine bI (fun m8=>?_) fun m8=>?_
   · refine⟨rfl,rfl,⟨Z9,Z9,Z8,Z8⟩,?_⟩
     intro O8 RR
     refine⟨by(try have:=bC (n:=11) rfl RR);(try simp only[ZW,ZU,ZQ]);omega,?_⟩
     refine⟨(([47]:BL)++O8,(p+1)+1),?_,?_,?_⟩
     · try dsimp only
       have:=bC (n:=11) rfl RR
       exact⟨by first | omega | (simp;omega),Z9,Z9,by(try dsimp only);repeat (first | assumption | exact aT | exact bn rfl | exact dp rfl (by assumption) | exact m4.drop (by apply And.right;apply And.right;apply And.right;assumption) _ | (apply And.right;apply And.right;apply And.right;assumption) | apply m4.app)⟩
     first | rfl | simp_all
     first | rfl | exact⟨rfl,rfl⟩ | simp_all
   · refine bI (fun w7=>?_) fun w7=>?_
     · refine⟨rfl,rfl,⟨Z9,Z9,Z8,Z8⟩,?_⟩
       intro J3 Nl
       refine⟨(J3,(p+1)+1),?_,?_,?_⟩
       · try dsimp only
         have:=bC (n:=11) rfl Nl
         exact⟨by first | omega | (simp;omega),Z9,Z9,by(try dsimp only);repeat (first | assumption | exact aT | exact bn rfl | exact dp rfl (by assumption) | exact m4.drop (by apply And.right;apply And.right;apply And.right;assumption) _ | (apply And.right;apply And.right;apply And.right;assumption) | apply m4.app)⟩
       first | rfl | simp_all
       first | rfl | exact⟨rfl,rfl⟩ | simp_all
     · refine bI (fun G8=>?_) fun G8=>?_
       · refine⟨rfl,rfl,⟨Z9,Z9,Z8,Z8⟩,?_⟩
         intro NW SU
         refine⟨(NW,(p+1)+1),?_,?_,?_⟩
         · try dsimp only
           have:=bC (n:=11) rfl SU
           exact⟨by first | omega | (simp;omega),Z9,Z9,by(try dsimp only);repeat (first | assumption | exact aT | exact bn rfl | exact dp rfl (by assumption) | exact m4.drop (by apply And.right;apply And.right;apply And.right;assumption) _ | (apply And.right;apply And.right;apply And.right;assumption) | apply m4.app)⟩
         first | rfl | simp_all
         first | rfl | exact⟨rfl,rfl⟩ | simp_all
       · refine bI (fun MN=>?_) fun MN=>?_
         · refine⟨rfl,rfl,⟨Z9,Z9,Z8,Z8⟩,?_⟩
           intro NV SR
           refine⟨(NV,(p+1)+1),?_,?_,?_⟩
           · try dsimp only
             have:=bC (n:=11) rfl SR
             exact⟨by first | omega | (simp;omega),Z9,Z9,by(try dsimp only);repeat (first | assumption | exact aT | exact bn rfl | exact dp rfl (by assumption) | exact m4.drop (by apply And.right;apply And.right;apply And.right;assumption) _ | (apply And.right;apply And.right;apply And.right;assumption) | apply m4.app)⟩
           first | rfl | simp_all
           first | rfl | exact⟨rfl,rfl⟩ | simp_all
         · refine⟨rfl,rfl,⟨Z9,Z9,Z8,Z8⟩,?_⟩
           intro NU SQ
           refine⟨(NU,(p+1)+1),?_,?_,?_⟩
           · try dsimp only
             have:=bC (n:=11) rfl SQ
             exact⟨by first | omega | (simp;omega),Z9,Z9,by(try dsimp only);repeat (first | assumption | exact aT | exact bn rfl | exact dp rfl (by assumption) | exact m4.drop (by apply And.right;apply And.right;apply And.right;assumption) _ | (apply And.right;apply And.right;apply And.right;assumption) | apply m4.app)⟩
           first | rfl | simp_all
           first | rfl | exact⟨rfl,rfl⟩ | simp_all)
def vz(b:BL)(p:Nat)(g:Nat):E7 Tryz.prog:=.mk (BL×Nat) 75 [.ptr (.key 1000) [] g 0] [(1000,(g,ak b p))] ((b.length<=2000)/\(p<=880000)) (fun x=>x.1.length<=240/\p<=x.2/\x.2<=p+70/\m4 x.1) (fun x=>sV x.1) (fun x=>[(1000,(g,ak b x.2))]) (by
 rintro⟨hb,hp⟩
 refine eK (N:=55) (rs:=[.tmp 2]) (X:=BL×Nat) (post:=fun x=>x.1.length<=240/\p<=x.2/\x.2<=p+70/\m4 x.1) (E:=fun x=>sV x.1) (H':=fun x=>[(1000,(g,.agg [.sl false (b.map m7),iN x.2]))]) Tryz.func75 Z7 rfl rfl rfl Z7 [(1000,(0,.b7))] (by intro _ k hk;simpa[lk] using hk)
  (.q 1<|.q 1<|.q 1<|.cx (aV b p g 5) [(1000,1000)] (fun (r5:Nat)=>.q 1<|.loop (Nat×BL×Nat) (fun (n,o,q)=>⟨[(0,.ptr (.key 1000) [] g 0),(3,sV o),(4,iN n)],[(1000,(g,ak b q))]⟩) (fun (n,o,q)=>o.length+60*n<=240/\p<=q/\q+16*n<=p+66/\m4 o) (fun (n,o,q)=>n) (fun (n,o,q)=>.q 2<|.br (.q 1<|.cx (aV b q g 9) [(1000,1000)] (fun (NS:Nat)=>.q 2<|.br (.q 3<|.cx (fw b (q+1) g) [(1000,1000)] (fun (I6:BL×Nat)=>.q 3<|.cx (fw b I6.2 g) [(1000,1000)] (fun (MH:BL×Nat)=>.q 3<|.q 2<|.h (.o4 10 (iN (n-1)))<|.q 1<|.nil))) (.q 2<|.br (.q 3<|.cx (fw b (q+1) g) [(1000,1000)] (fun (I1:BL×Nat)=>.q 3<|.q 2<|.h (.o4 10 (iN (n-1)))<|.q 1<|.nil)) (.q 2<|.br (.q 3<|.cx (fw b (q+1) g) [(1000,1000)] (fun (I0:BL×Nat)=>.q 3<|.q 2<|.h (.o4 10 (iN (n-1)))<|.q 1<|.nil)) (.q 2<|.br (.q 2<|.bs<|.cx (eH b (q+1) g ([([116,101,120,116,32]:BL),([60]:BL),([62]:BL),([40]:BL),([41]:BL),([60,97]:BL)]:List BL)) [(1000,1000)] (fun (D6:BL)=>.q 2<|.q 2<|.h (.o4 10 (iN (n-1)))<|.q 1<|.nil)) (.q 3<|.cx (fw b (q+1) g) [(1000,1000)] (fun (MI:BL×Nat)=>.q 3<|.q 2<|.h (.o4 10 (iN (n-1)))<|.q 1<|.nil))))))) (.q 2<|.nil))))
  ((fun v1:BL=>(fun v2:BL=>(fun v3:BL=>(fun v4:V=>(fun v5:BL=>(fun v6:BL=>(fun v7:BL=>(fun v8:BL=>(fun v9:BL=>((aV b p g 5).sm/\Er g (ak b p)/\((b.length<=2000)/\(p<=1000000)/\(5<=1000000))/\∀ r5:Nat,(5=0/\r5=0\/r5<5)->(∃ x:Nat×BL×Nat,match x with | (I8,s8,y8)=>(s8.length+60*I8<=240/\p<=y8/\y8+16*I8<=p+66/\m4 s8)/\E v4/\Q (sV []) (sV s8)/\Q (iN r5) (iN I8)/\Qr g (ak b (p+1)) g (ak b y8)/\True)/\∀ x:Nat×BL×Nat,match x with | (n,o,q)=>(o.length+60*n<=240/\p<=q/\q+16*n<=p+66/\m4 o)->(fun v10:V=>Br (s7 (n:Int) 0) ((aV b q g 9).sm/\Er g (ak b q)/\((b.length<=2000)/\(q<=1000000)/\(9<=1000000))/\∀ NS:Nat,(9=0/\NS=0\/NS<9)->Br (o6 (NS:Int) 0) ((o.length+v2.length<=4611686018427387904)/\(fw b (q+1) g).sm/\Er g v10/\((b.length<=2000)/\((q+1)<=890000))/\∀ I6:BL×Nat,(I6.1.length<=25/\(q+1)<=I6.2/\I6.2<=(q+1)+7/\m4 I6.1)->((o++v2).length+I6.1.length<=4611686018427387904)/\(((o++v2)++I6.1).length+v1.length<=4611686018427387904)/\(fw b I6.2 g).sm/\Er g (ak b I6.2)/\((b.length<=2000)/\(I6.2<=890000))/\∀ MH:BL×Nat,(MH.1.length<=25/\I6.2<=MH.2/\MH.2<=I6.2+7/\m4 MH.1)->((((o++v2)++I6.1)++v1).length+MH.1.length<=4611686018427387904)/\(((((o++v2)++I6.1)++v1)++MH.1).length+([62,41]:BL).length<=4611686018427387904)/\m6 ((n:Int)-1)/\Q (iV ((n:Int)-1)) (iN (n-1))/\∃ x:Nat×BL×Nat,match x with | (s9,l7,n9)=>(l7.length+60*s9<=240/\p<=n9/\n9+16*s9<=p+66/\m4 l7)/\(s9<n)/\E v4/\Q (sV (((((o++v2)++I6.1)++v1)++MH.1)++([62,41]:BL))) (sV l7)/\Q (iN (n-1)) (iN s9)/\Qr g (ak b MH.2) g (ak b n9)/\True) (Br (o6 (NS:Int) 1) ((o.length+v6.length<=4611686018427387904)/\(fw b (q+1) g).sm/\Er g v10/\((b.length<=2000)/\((q+1)<=890000))/\∀ I1:BL×Nat,(I1.1.length<=25/\(q+1)<=I1.2/\I1.2<=(q+1)+7/\m4 I1.1)->((o++v6).length+I1.1.length<=4611686018427387904)/\(((o++v6)++I1.1).length+v3.length<=4611686018427387904)/\m6 ((n:Int)-1)/\Q (iV ((n:Int)-1)) (iN (n-1))/\∃ x:Nat×BL×Nat,match x with | (s9,l7,n9)=>(l7.length+60*s9<=240/\p<=n9/\n9+16*s9<=p+66/\m4 l7)/\(s9<n)/\E v4/\Q (sV (((o++v6)++I1.1)++v3)) (sV l7)/\Q (iN (n-1)) (iN s9)/\Qr g (ak b I1.2) g (ak b n9)/\True) (Br (o6 (NS:Int) 2) ((o.length+v7.length<=4611686018427387904)/\(fw b (q+1) g).sm/\Er g v10/\((b.length<=2000)/\((q+1)<=890000))/\∀ I0:BL×Nat,(I0.1.length<=25/\(q+1)<=I0.2/\I0.2<=(q+1)+7/\m4 I0.1)->((o++v7).length+I0.1.length<=4611686018427387904)/\(((o++v7)++I0.1).length+v3.length<=4611686018427387904)/\m6 ((n:Int)-1)/\Q (iV ((n:Int)-1)) (iN (n-1))/\∃ x:Nat×BL×Nat,match x with | (s9,l7,n9)=>(l7.length+60*s9<=240/\p<=n9/\n9+16*s9<=p+66/\m4 l7)/\(s9<n)/\E v4/\Q (sV (((o++v7)++I0.1)++v3)) (sV l7)/\Q (iN (n-1)) (iN s9)/\Qr g (ak b I0.2) g (ak b n9)/\True) (Br (o6 (NS:Int) 3) ((eH b (q+1) g ([v5,v1,v3,v2,v9,v8]:List BL)).sm/\Er g v10/\((b.length<=2000)/\((q+1)<=1000000)/\(1<=([v5,v1,v3,v2,v9,v8]:List BL).length)/\(([v5,v1,v3,v2,v9,v8]:List BL).length<=1000))/\∀ D6:BL,(D6∈([v5,v1,v3,v2,v9,v8]:List BL))->(o.length+D6.length<=4611686018427387904)/\m6 ((n:Int)-1)/\Q (iV ((n:Int)-1)) (iN (n-1))/\∃ x:Nat×BL×Nat,match x with | (s9,l7,n9)=>(l7.length+60*s9<=240/\p<=n9/\n9+16*s9<=p+66/\m4 l7)/\(s9<n)/\E v4/\Q (sV (o++D6)) (sV l7)/\Q (iN (n-1)) (iN s9)/\Qr g (ak b ((q+1)+1)) g (ak b n9)/\True) ((o.length+v1.length<=4611686018427387904)/\(fw b (q+1) g).sm/\Er g v10/\((b.length<=2000)/\((q+1)<=890000))/\∀ MI:BL×Nat,(MI.1.length<=25/\(q+1)<=MI.2/\MI.2<=(q+1)+7/\m4 MI.1)->((o++v1).length+MI.1.length<=4611686018427387904)/\(((o++v1)++MI.1).length+v3.length<=4611686018427387904)/\m6 ((n:Int)-1)/\Q (iV ((n:Int)-1)) (iN (n-1))/\∃ x:Nat×BL×Nat,match x with | (s9,l7,n9)=>(l7.length+60*s9<=240/\p<=n9/\n9+16*s9<=p+66/\m4 l7)/\(s9<n)/\E v4/\Q (sV (((o++v1)++MI.1)++v3)) (sV l7)/\Q (iN (n-1)) (iN s9)/\Qr g (ak b MI.2) g (ak b n9)/\True))))) (∃ x:BL×Nat,(x.1.length<=240/\p<=x.2/\x.2<=p+70/\m4 x.1)/\Q (sV o) (sV x.1)/\Qr g (ak b q) g (ak b x.2))) (ak b (q+1)))) ([41]:BL)) ([60,97]:BL)) ([60,64]:BL)) ([60,33]:BL)) ([116,101,120,116,32]:BL)) (.ptr (.key 1000) [] g 0)) ([62]:BL)) ([40]:BL)) ([60]:BL))
  Z7 ?_
 refine⟨rfl,rfl,⟨Z9,Z9,Z9⟩,?_⟩
 intro r5 MB
 refine⟨⟨(r5,[],p+1),?_,rfl,rfl,rfl,rfl,trivial⟩,?_⟩
 exact⟨Z0,Z9,Z9,aT⟩
 rintro⟨n,o,q⟩ ⟨h1,h2,h3,h4⟩
 refine bI (fun j7=>?_) fun j7=>?_
 · refine⟨rfl,rfl,⟨Z9,Z9,Z9⟩,?_⟩
   intro NS Xs
   refine bI (fun l4=>?_) fun l4=>?_
   · refine⟨by(try simp only[ZW,ZU,ZQ]);(try have:=bC (n:=11) rfl w6);omega,rfl,rfl,⟨Z9,Z9⟩,?_⟩
     intro I6 Xn
     refine⟨by(try simp only[ZW,ZU,ZQ]);(try have:=bC (n:=11) rfl w6);omega,by(try simp only[ZW,ZU,ZQ]);(try have:=bC (n:=11) rfl w6);omega,rfl,rfl,⟨Z9,Z9⟩,?_⟩
     intro MH Xm
     refine⟨by(try simp only[ZW,ZU,ZQ]);(try have:=bC (n:=11) rfl w6);omega,by(try simp only[ZW,ZU,ZQ]);(try have:=bC (n:=11) rfl w6);omega,Z9,by simp[Q];omega,?_⟩
     refine⟨(n-1,((((o++([40]:BL))++I6.1)++([60]:BL))++MH.1)++([62,41]:BL),MH.2),?_,?_,rfl,rfl,rfl,rfl,trivial⟩
     · try have:=bC (n:=11) rfl w6
       exact⟨by simp only[ZW,ZU,ZQ];omega,Z9,Z9,by(try dsimp only);repeat (first | assumption | exact aT | exact bn rfl | exact dp rfl (by assumption) | exact m4.drop (by apply And.right;apply And.right;apply And.right;assumption) _ | (apply And.right;apply And.right;apply And.right;assumption) | apply m4.app)⟩
     exact Z1
   · refine bI (fun m8=>?_) fun m8=>?_
     · refine⟨by(try simp only[ZW,ZU,ZQ]);(try have:=bC (n:=11) rfl w6);omega,rfl,rfl,⟨Z9,Z9⟩,?_⟩
       intro I1 V5
       refine⟨by(try simp only[ZW,ZU,ZQ]);(try have:=bC (n:=11) rfl w6);omega,by(try simp only[ZW,ZU,ZQ]);(try have:=bC (n:=11) rfl w6);omega,Z9,by simp[Q];omega,?_⟩
       refine⟨(n-1,((o++([60,33]:BL))++I1.1)++([62]:BL),I1.2),?_,?_,rfl,rfl,rfl,rfl,trivial⟩
       · try have:=bC (n:=11) rfl w6
         exact⟨by simp only[ZW,ZU,ZQ];omega,Z9,Z9,by(try dsimp only);repeat (first | assumption | exact aT | exact bn rfl | exact dp rfl (by assumption) | exact m4.drop (by apply And.right;apply And.right;apply And.right;assumption) _ | (apply And.right;apply And.right;apply And.right;assumption) | apply m4.app)⟩
       exact Z1
     · refine bI (fun w7=>?_) fun w7=>?_
       · refine⟨by(try simp only[ZW,ZU,ZQ]);(try have:=bC (n:=11) rfl w6);omega,rfl,rfl,⟨Z9,Z9⟩,?_⟩
         intro I0 V4
         refine⟨by(try simp only[ZW,ZU,ZQ]);(try have:=bC (n:=11) rfl w6);omega,by(try simp only[ZW,ZU,ZQ]);(try have:=bC (n:=11) rfl w6);omega,Z9,by simp[Q];omega,?_⟩
         refine⟨(n-1,((o++([60,64]:BL))++I0.1)++([62]:BL),I0.2),?_,?_,rfl,rfl,rfl,rfl,trivial⟩
         · try have:=bC (n:=11) rfl w6
           exact⟨by simp only[ZW,ZU,ZQ];omega,Z9,Z9,by(try dsimp only);repeat (first | assumption | exact aT | exact bn rfl | exact dp rfl (by assumption) | exact m4.drop (by apply And.right;apply And.right;apply And.right;assumption) _ | (apply And.right;apply And.right;apply And.right;assumption) | apply m4.app)⟩
         exact Z1
       · refine bI (fun G8=>?_) fun G8=>?_
         · refine⟨rfl,rfl,⟨Z9,Z9,Z8,Z8⟩,?_⟩
           intro D6 w6
           refine⟨by(try simp only[ZW,ZU,ZQ]);(try have:=bC (n:=11) rfl w6);omega,Z9,by simp[Q];omega,?_⟩
           refine⟨(n-1,o++D6,(q+1)+1),?_,?_,rfl,rfl,rfl,rfl,trivial⟩
           · try have:=bC (n:=11) rfl w6
             exact⟨by simp only[ZW,ZU,ZQ];omega,Z9,Z9,by(try dsimp only);repeat (first | assumption | exact aT | exact bn rfl | exact dp rfl (by assumption) | exact m4.drop (by apply And.right;apply And.right;apply And.right;assumption) _ | (apply And.right;apply And.right;apply And.right;assumption) | apply m4.app)⟩
           exact Z1
         · refine⟨by(try simp only[ZW,ZU,ZQ]);(try have:=bC (n:=11) rfl w6);omega,rfl,rfl,⟨Z9,Z9⟩,?_⟩
           intro MI Xp
           refine⟨by(try simp only[ZW,ZU,ZQ]);(try have:=bC (n:=11) rfl w6);omega,by(try simp only[ZW,ZU,ZQ]);(try have:=bC (n:=11) rfl w6);omega,Z9,by simp[Q];omega,?_⟩
           refine⟨(n-1,((o++([60]:BL))++MI.1)++([62]:BL),MI.2),?_,?_,rfl,rfl,rfl,rfl,trivial⟩
           · try have:=bC (n:=11) rfl w6
             exact⟨by simp only[ZW,ZU,ZQ];omega,Z9,Z9,by(try dsimp only);repeat (first | assumption | exact aT | exact bn rfl | exact dp rfl (by assumption) | exact m4.drop (by apply And.right;apply And.right;apply And.right;assumption) _ | (apply And.right;apply And.right;apply And.right;assumption) | apply m4.app)⟩
           exact Z1
 refine⟨(o,q),?_,?_,?_⟩
 try dsimp only
 exact⟨Z9,Z9,Z9,h4⟩
 first | rfl | simp_all
 first | rfl | exact⟨rfl,rfl⟩ | simp_all)
abbrev nv(w:List Pg)(a:BL):V:=.tup [bR ((A3 w a).1.addr) ((A3 w a).1.text) ((A3 w a).1.lead) ((A3 w a).1.l8),bV ((A3 w a).2)]
def GV(w:List Pg)(a:BL):o8 Tryz.prog:=.mk 76 [bQ w,sV a] [] (w.length<=1000000) (nv w a) [] (by
 intro hw
 refine aq (N:=25) (rs:=[.cell 4 82,.tmp 5]) Tryz.func76
  (.al lX (fun g4=>.q 1<|.q 1<|.loop (Nat) (fun (i:Nat)=>⟨[(0,bQ w),(1,sV a),(4,.ptr (.key 4) [] g4 0),(6,iN i)],[(4,(g4,.agg [sV [],sV [],sV [],iN 0]))]⟩) (fun (i:Nat)=>i<=w.length/\A3 w a=A3 (w.drop i) a) (fun (i:Nat)=>w.length-i) (fun (i:Nat)=>.q 4<|.br (.r 7 [bR ((w.getD i m0).addr) ((w.getD i m0).text) ((w.getD i m0).lead) ((w.getD i m0).l8)]<|.br (.r 4 [bR ((w.getD i m0).addr) ((w.getD i m0).text) ((w.getD i m0).lead) ((w.getD i m0).l8)]<|.st none<|.q 1<|.nil) (.q 3<|.nil)) (.bd lX<|.st none<|.q 1<|.nil))))
  (∀ g4:Nat,(∃ h9:Nat,(h9<=w.length/\A3 w a=A3 (w.drop h9) a)/\E (bQ w)/\E (sV a)/\E (.ptr (.key 4) [] g4 0)/\Q (iN 0) (iN h9)/\Er g4 (.agg [sV [],sV [],sV [],iN 0])/\True)/\∀ i:Nat,(i<=w.length/\A3 w a=A3 (w.drop i) a)->(fun v1:Pg=>Br (s4 (i:Int) (((w.map r4).length:Nat):Int)) (Ex (i:Int) (w.map r4) (bR (v1.addr) (v1.text) (v1.lead) (v1.l8))/\True/\Br ((v1.addr)==a) (Ex (i:Int) (w.map r4) (bR (v1.addr) (v1.text) (v1.lead) (v1.l8))/\True/\Z g4 0/\(g4=g4)/\Q (.tup [bR (v1.addr) (v1.text) (v1.lead) (v1.l8),bV true]) (nv w a)) (m6 ((i:Int)+1)/\∃ b9:Nat,(b9<=w.length/\A3 w a=A3 (w.drop b9) a)/\(w.length-b9<w.length-i)/\E (bQ w)/\E (sV a)/\E (.ptr (.key 4) [] g4 0)/\Q (iN (i+1)) (iN b9)/\Er g4 (.agg [sV [],sV [],sV [],iN 0])/\True)) (Z g4 0/\(g4=g4)/\Q (.tup [.agg [sV [],sV [],sV [],iN 0],bV false]) (nv w a))) (w.getD i m0)) ?_
 intro g4
 refine⟨⟨0,?_,rfl,rfl,rfl,rfl,rfl,trivial⟩,?_⟩
 simp
 rintro i ⟨h1,h2⟩
 refine bI (fun j7=>?_) fun j7=>?_
 refine⟨⟨Z9,aj (d:=m0) Z9⟩,trivial,?_⟩
 refine bI (fun l4=>?_) fun l4=>?_
 refine⟨⟨Z9,aj (d:=m0) Z9⟩,trivial,rfl,?_⟩
 refine⟨rfl,?_⟩
 unfold Q nv
 rw[h2,drop_cons (by omega:i<w.length) m0,A3,if_pos l4]
 refine⟨Z9,?_⟩
 refine⟨i+1,?_,?_,rfl,rfl,rfl,rfl,rfl,trivial⟩
 refine⟨Z9,?_⟩
 rw[h2,drop_cons (by omega:i<w.length) m0,A3,if_neg l4]
 exact Z1
 refine⟨rfl,?_⟩
 refine⟨rfl,?_⟩
 unfold Q nv
 rw[h2,ZC Z9];rfl)
def ry(n m:Nat)(ih:∀ m,m<n->(m<=1000000)->PF Tryz.prog 45 [iN m] [] (fun r h=>r=(sV (dt m))/\h=[])):o8 Tryz.prog:={ f:=45,args:=[iN m],pre:=m<n/\(m<=1000000),res:=sV (dt m),ok:=fun h=>ih m h.1 h.2 }
theorem DO(n:Nat)(hn:n<=1000000):PF Tryz.prog 45 [iN n] [] (fun r h=>r=(sV (dt n))/\h=[]):=by
 revert hn
 induction n using Nat.strongRecOn with
 | ind n ih=>
 intro hn
 refine aq (N:=28) (rs:=[.tmp 2]) Tryz.func45
  (.q 1<|.q 2<|.br (.q 1<|.nil) (.q 2<|.br (.q 2<|.c (ry n (Int.toNat (-(n:Int))) ih) []<|.q 2<|.nil) (.q 2<|.br (.q 3<|.h (.o4 15 (uN ((UInt8.ofNat (48+n)).toNat)))<|.bs<|.J9 [(UInt8.ofNat (48+n))]<|.q 1<|.nil) (.dx 9 [0,1,2,3,4,5,6,7,8] [] []<|.q 1<|.q 1<|.c (ry n (n / 10) ih) []<|.q 1<|.q 1<|.q 1<|.q 1<|.h (.o4 24 (uN ((UInt8.ofNat (48+n % 10)).toNat)))<|.bs<|.J9 [(UInt8.ofNat (48+n % 10))]<|.q 2<|.nil))))
  (Br (s4 (n:Int) (-9223372036854775807)) (Q (sV ([45,57,50,50,51,51,55,50,48,51,54,56,53,52,55,55,53,56,48,56]:BL)) (sV (dt n))) (Br (s4 (n:Int) 0) (m6 (-(n:Int))/\(([iV (-(n:Int))]:List V)=[iN (Int.toNat (-(n:Int)))])/\(((Int.toNat (-(n:Int)))<n)/\((Int.toNat (-(n:Int)))<=1000000))/\(([45]:BL).length+(dt (Int.toNat (-(n:Int)))).length<=4611686018427387904)/\Q (sV (([45]:BL)++(dt (Int.toNat (-(n:Int)))))) (sV (dt n))) (Br (s4 (n:Int) 10) (m6 (48+(n:Int))/\Ov ((48+n:Nat):Int)/\Q (uN (48+n)) (uN ((UInt8.ofNat (48+n)).toNat))/\(True)/\([uN ((UInt8.ofNat (48+n)).toNat)]=[(UInt8.ofNat (48+n))].map m7)/\Q (sV [(UInt8.ofNat (48+n))]) (sV (dt n))) (((0:Int)<=(n:Int)/\(0:Int)<10/\m6 (n:Int))/\(ry n (n / 10) ih).sm/\(((n / 10)<n)/\((n / 10)<=1000000))/\((0:Int)<=(n:Int)/\(0:Int)<10)/\m6 (48+((n % 10:Nat):Int))/\Ov ((48+(n % 10):Nat):Int)/\Q (uN (48+(n % 10))) (uN ((UInt8.ofNat (48+n % 10)).toNat))/\([uN ((UInt8.ofNat (48+n % 10)).toNat)]=[(UInt8.ofNat (48+n % 10))].map m7)/\((dt (n / 10)).length+([(UInt8.ofNat (48+n % 10))]:BL).length<=4611686018427387904)/\Q (sV ((dt (n / 10))++[(UInt8.ofNat (48+n % 10))])) (sV (dt n)))))) ?_
 refine bI (fun j7=>?_) fun j7=>?_
 exfalso;omega
 refine bI (fun l4=>?_) fun l4=>?_
 exfalso;omega
 refine bI (fun m8=>?_) fun m8=>?_
 refine⟨Z9,Z9,by exact Gw Z9,trivial,rfl,?_⟩
 unfold Q
 rw[show dt n=[UInt8.ofNat (48+n)] from by rw[dt,if_pos Z9]]
 refine⟨Z9,rfl,⟨Z9,Z9⟩,Z9,Z9,Z9,by exact Gw Z9,rfl,by have:=oG (n / 10) Z9;simp;omega,?_⟩
 unfold Q
 rw[show dt n=dt (n / 10)++[UInt8.ofNat (48+n % 10)] from by rw[dt,if_neg Z9]]
def qA(n:Nat):o8 Tryz.prog:={ f:=45,args:=[iN n],H:=[],pre:=(n<=1000000),res:=sV (dt n),H':=[],ok:=fun h=>DO n h }
theorem Jx{l:List Int}{i:Nat}(h:i<l.length):Ex (i:Int) (l.map iV) (iV (l.getD i 0)):=⟨Int.natCast_nonneg _,by simp[ZZ,h]⟩
def sq(gs:List k9):E7 Tryz.prog:=.mk Bool 102 [aY gs] [] ((gs.length<=4)/\(∀ y,y∈gs->B0 y)) (fun x=>True) (fun x=>bV x) (fun x=>[]) (by
 rintro⟨hl,hg⟩
 refine eK (N:=94) (rs:=[.tmp 2]) (X:=Bool) (post:=fun x=>True) (E:=fun x=>bV x) (H':=fun x=>[]) Tryz.func102 Z7 rfl rfl rfl Z7 [] (by intro _ k hk;simpa[lk] using hk)
  (.q 1<|.q 1<|.q 1<|.loop (Nat×Nat) (fun (i,m)=>⟨[(0,aY gs),(3,iN m),(4,iN i)],[]⟩) (fun (i,m)=>i<=gs.length/\m<=10*i) (fun (i,m)=>gs.length-i) (fun (i,m)=>.q 4<|.br (.r 4 [eC ((gs.getD i (⟨[],[],0⟩:k9)).na) ((gs.getD i (⟨[],[],0⟩:k9)).ru) ((gs.getD i (⟨[],[],0⟩:k9)).wa)]<|.al iA (fun g5=>.st none<|.r 24 [.b7,.b7,.b7,.b7,.b7]<|.cg (kA (((gs.getD i (⟨[],[],0⟩:k9)).wa:Nat):Int) (0:Int) (20:Int))<|.q 2<|.br (.q 1<|.nil) (.q 1<|.loop (Nat) (fun (k:Nat)=>⟨[(0,aY gs),(3,iN m),(4,iN i),(5,.ptr (.key 5) [] g5 0),(6,iN k)],[(5,(g5,eC ((gs.getD i (⟨[],[],0⟩:k9)).na) ((gs.getD i (⟨[],[],0⟩:k9)).ru) ((gs.getD i (⟨[],[],0⟩:k9)).wa)))]⟩) (fun (k:Nat)=>k<=(gs.getD i ⟨[],[],0⟩).na.length) (fun (k:Nat)=>(gs.getD i ⟨[],[],0⟩).na.length-k) (fun (k:Nat)=>.r 5 [.b7]<|.br (.r 12 [.b7,sV (((gs.getD i (⟨[],[],0⟩:k9)).na).getD k []),.b7,sV (((gs.getD i (⟨[],[],0⟩:k9)).na).getD k [])]<|.cg (ob (((gs.getD i (⟨[],[],0⟩:k9)).na).getD k []))<|.q 2<|.br (.q 1<|.nil) (.q 3<|.nil)) (.q 1<|.loop (Nat) (fun (k:Nat)=>⟨[(0,aY gs),(3,iN m),(4,iN i),(5,.ptr (.key 5) [] g5 0),(7,iN k)],[(5,(g5,eC ((gs.getD i (⟨[],[],0⟩:k9)).na) ((gs.getD i (⟨[],[],0⟩:k9)).ru) ((gs.getD i (⟨[],[],0⟩:k9)).wa)))]⟩) (fun (k:Nat)=>k<=(gs.getD i ⟨[],[],0⟩).ru.length) (fun (k:Nat)=>(gs.getD i ⟨[],[],0⟩).ru.length-k) (fun (k:Nat)=>.r 5 [.b7]<|.br (.r 6 [.b7,.agg [bV ((((gs.getD i (⟨[],[],0⟩:k9)).ru).getD k (⟨false,[]⟩:s5)).H3),sV ((((gs.getD i (⟨[],[],0⟩:k9)).ru).getD k (⟨false,[]⟩:s5)).path)]]<|.c (xW ((((gs.getD i (⟨[],[],0⟩:k9)).ru).getD k (⟨false,[]⟩:s5)).path)) []<|.q 1<|.br (.q 1<|.nil) (.q 3<|.nil)) (.r 11 [.b7,.b7]<|.q 3<|.nil))))))) (.q 3<|.nil)))
  ((fun v1:BL=>((∃ x:Nat×Nat,match x with | (h9,MX)=>(h9<=gs.length/\MX<=10*h9)/\E (aY gs)/\Q (iN 0) (iN MX)/\Q (iN 0) (iN h9)/\True)/\∀ x:Nat×Nat,match x with | (i,m)=>(i<=gs.length/\m<=10*i)->(fun v2:Int=>(fun v3:Int=>(fun v4:V=>(fun v5:Int=>(fun v6:Bool=>(fun v7:Bool=>(fun v8:Bool=>Br (s4 (i:Int) (((gs.map bB).length:Nat):Int)) (Ex (i:Int) (gs.map bB) v4/\True/\∀ g5:Nat,(fun v9:V=>Z g5 0/\Z g5 0/\Gd v7 (Z g5 1)/\Gd (v7&&((o6 v2 0)==true)) (Z g5 2)/\Gd v7 (Pk (o6 v2 0) (v7&&((o6 v2 0)==true)) true)/\Pk (o6 v3 0) true v7/\Gd v8 (Z g5 1)/\Pk ((o6 v3 0)||((o6 v2 0)&&(o6 v5 0))) true v8/\Gd v6 (Z g5 2)/\Gd v6 ((True)/\(kA v5 (0:Int) (20:Int)).sm)/\Pk (((o6 v3 0)||((o6 v2 0)&&(o6 v5 0)))||(s7 v2 6)) true v6/\Br ((((o6 v3 0)||((o6 v2 0)&&(o6 v5 0)))||(s7 v2 6))||(!(z8 v5 (0:Int) (20:Int)))) (∃ x:Bool,(True)/\Q (bV false) (bV x)) ((∃ r9:Nat,(r9<=(gs.getD i ⟨[],[],0⟩).na.length)/\E (aY gs)/\E (iN m)/\E (iN i)/\E v9/\Q (iN 0) (iN r9)/\Er g5 v4/\True)/\∀ k:Nat,(k<=(gs.getD i ⟨[],[],0⟩).na.length)->Z g5 0/\Br (s4 (k:Int) v3) (Z g5 0/\Ex (k:Int) (((gs.getD i (⟨[],[],0⟩:k9)).na).map sV) (sV (((gs.getD i (⟨[],[],0⟩:k9)).na).getD k []))/\True/\Gd ((!((((gs.getD i (⟨[],[],0⟩:k9)).na).getD k [])==v1))==true) (Z g5 0)/\Gd ((!((((gs.getD i (⟨[],[],0⟩:k9)).na).getD k [])==v1))==true) (Ex (k:Int) (((gs.getD i (⟨[],[],0⟩:k9)).na).map sV) (sV (((gs.getD i (⟨[],[],0⟩:k9)).na).getD k [])))/\Gd ((!((((gs.getD i (⟨[],[],0⟩:k9)).na).getD k [])==v1))==true) True/\Gd ((!((((gs.getD i (⟨[],[],0⟩:k9)).na).getD k [])==v1))==true) ((((((gs.getD i (⟨[],[],0⟩:k9)).na).getD k []).length<=4611686018427387904))/\(ob (((gs.getD i (⟨[],[],0⟩:k9)).na).getD k [])).sm)/\Pk (!((((gs.getD i (⟨[],[],0⟩:k9)).na).getD k [])==v1)) ((!((((gs.getD i (⟨[],[],0⟩:k9)).na).getD k [])==v1))==true) true/\Br ((!((((gs.getD i (⟨[],[],0⟩:k9)).na).getD k [])==v1))&&(!(bp (((gs.getD i (⟨[],[],0⟩:k9)).na).getD k [])))) (∃ x:Bool,(True)/\Q (bV false) (bV x)) (m6 ((k:Int)+1)/\∃ k₂:Nat,(k₂<=(gs.getD i ⟨[],[],0⟩).na.length)/\((gs.getD i ⟨[],[],0⟩).na.length-k₂<(gs.getD i ⟨[],[],0⟩).na.length-k)/\E (aY gs)/\E (iN m)/\E (iN i)/\E v9/\Q (iN (k+1)) (iN k₂)/\Er g5 v4/\True)) ((∃ r9:Nat,(r9<=(gs.getD i ⟨[],[],0⟩).ru.length)/\E (aY gs)/\E (iN m)/\E (iN i)/\E v9/\Q (iN 0) (iN r9)/\Er g5 v4/\True)/\∀ k:Nat,(k<=(gs.getD i ⟨[],[],0⟩).ru.length)->Z g5 1/\Br (s4 (k:Int) v2) (Z g5 1/\Ex (k:Int) (((gs.getD i (⟨[],[],0⟩:k9)).ru).map an) (.agg [bV ((((gs.getD i (⟨[],[],0⟩:k9)).ru).getD k (⟨false,[]⟩:s5)).H3),sV ((((gs.getD i (⟨[],[],0⟩:k9)).ru).getD k (⟨false,[]⟩:s5)).path)])/\True/\(xW ((((gs.getD i (⟨[],[],0⟩:k9)).ru).getD k (⟨false,[]⟩:s5)).path)).sm/\((((((gs.getD i (⟨[],[],0⟩:k9)).ru).getD k (⟨false,[]⟩:s5)).path).length<=4611686018427387904))/\Br (!(aZ ((((gs.getD i (⟨[],[],0⟩:k9)).ru).getD k (⟨false,[]⟩:s5)).path))) (∃ x:Bool,(True)/\Q (bV false) (bV x)) (m6 ((k:Int)+1)/\∃ k₂:Nat,(k₂<=(gs.getD i ⟨[],[],0⟩).ru.length)/\((gs.getD i ⟨[],[],0⟩).ru.length-k₂<(gs.getD i ⟨[],[],0⟩).ru.length-k)/\E (aY gs)/\E (iN m)/\E (iN i)/\E v9/\Q (iN (k+1)) (iN k₂)/\Er g5 v4/\True)) (Z g5 0/\m6 ((m:Int)+v3)/\Z g5 1/\m6 (((m+((((gs.getD i (⟨[],[],0⟩:k9)).na).map sV).length):Nat):Int)+v2)/\m6 ((((m+((((gs.getD i (⟨[],[],0⟩:k9)).na).map sV).length))+((((gs.getD i (⟨[],[],0⟩:k9)).ru).map an).length):Nat):Int)+1)/\m6 ((i:Int)+1)/\∃ x:Nat×Nat,match x with | (b9,m₂)=>(b9<=gs.length/\m₂<=10*b9)/\(gs.length-b9<gs.length-i)/\E (aY gs)/\Q (iN (((m+((((gs.getD i (⟨[],[],0⟩:k9)).na).map sV).length))+((((gs.getD i (⟨[],[],0⟩:k9)).ru).map an).length))+1)) (iN m₂)/\Q (iN (i+1)) (iN b9)/\True)))) (.ptr (.key 5) [] g5 0)) (∃ x:Bool,(True)/\Q (bV (C6 (m:Int) 40)) (bV x))) (((o6 v3 0)||((o6 v2 0)&&(o6 v5 0)))==false)) ((o6 v3 0)==false)) ((((o6 v3 0)||((o6 v2 0)&&(o6 v5 0)))||(s7 v2 6))==false)) (((gs.getD i (⟨[],[],0⟩:k9)).wa:Nat):Int)) (eC ((gs.getD i (⟨[],[],0⟩:k9)).na) ((gs.getD i (⟨[],[],0⟩:k9)).ru) ((gs.getD i (⟨[],[],0⟩:k9)).wa))) (((((gs.getD i (⟨[],[],0⟩:k9)).na).map sV).length:Nat):Int)) (((((gs.getD i (⟨[],[],0⟩:k9)).ru).map an).length:Nat):Int))) ([42]:BL))
  Z7 ?_
 refine⟨⟨(0,0),?_,rfl,rfl,rfl,trivial⟩,?_⟩
 simp
 rintro⟨i,m⟩ ⟨h1,h2⟩
 have H7:=qE hg i
 have S8:=H7.nl
 have TO:=H7.rl
 have hn3:=H7.w
 refine bI (fun j7=>?_) fun j7=>?_
 refine⟨⟨Z9,aj (d:=(⟨[],[],0⟩:k9)) Z9⟩,trivial,?_⟩
 intro g5
 refine⟨rfl,rfl,fun hG=>rfl,fun hG=>rfl,fun hG=>⟨fun h=>by rw[h];exact(ZX _ _).mpr ⟨hG,rfl⟩,fun _=>rfl⟩,⟨fun _=>rfl,fun h=>by rw[h] <;> rfl⟩,fun hG=>rfl,⟨fun _=>rfl,fun h=>by rw[h] <;> rfl⟩,fun hG=>rfl,fun hG=>⟨trivial,rfl⟩,⟨fun _=>rfl,fun h=>by rw[h] <;> rfl⟩,?_⟩
 refine bI (fun l4=>?_) fun l4=>?_
 refine⟨false,?_,?_⟩
 try dsimp only
 skip
 first | rfl | simp_all
 refine⟨⟨0,?_,rfl,rfl,rfl,rfl,rfl,rfl,trivial⟩,?_⟩
 simp
 rintro k h3
 refine⟨rfl,?_⟩
 refine bI (fun m8=>?_) fun m8=>?_
 refine⟨rfl,⟨Z9,aj (d:=[]) Z9⟩,trivial,fun hG=>rfl,fun hG=>⟨Z9,aj (d:=[]) Z9⟩,fun hG=>trivial,fun hG=>⟨by(try simp only[nb]at hG);have:=fu (gs:=gs) hg i k;omega,rfl⟩,⟨fun h=>by rw[h] <;> rfl,fun _=>rfl⟩,?_⟩
 refine bI (fun w7=>?_) fun w7=>?_
 refine⟨false,?_,?_⟩
 try dsimp only
 skip
 first | rfl | simp_all
 refine⟨Z9,?_⟩
 refine⟨k+1,?_,?_,rfl,rfl,rfl,rfl,rfl,rfl,trivial⟩
 (try simp only[ZW,ZU,ZQ,ZM]);omega
 exact Z1
 refine⟨⟨0,?_,rfl,rfl,rfl,rfl,rfl,rfl,trivial⟩,?_⟩
 simp
 rintro k h3
 refine⟨rfl,?_⟩
 refine bI (fun G8=>?_) fun G8=>?_
 refine⟨rfl,⟨Z9,aj (d:=(⟨false,[]⟩:s5)) Z9⟩,trivial,rfl,by have:=fj (gs:=gs) hg i k;omega,?_⟩
 refine bI (fun MN=>?_) fun MN=>?_
 refine⟨false,?_,?_⟩
 try dsimp only
 skip
 first | rfl | simp_all
 refine⟨Z9,?_⟩
 refine⟨k+1,?_,?_,rfl,rfl,rfl,rfl,rfl,rfl,trivial⟩
 (try simp only[ZW,ZU,ZQ,ZM]);omega
 exact Z1
 refine⟨rfl,Z2,rfl,Z2,Z2,Z9,?_⟩
 refine⟨(i+1,((m+((((gs.getD i (⟨[],[],0⟩:k9)).na).map sV).length))+((((gs.getD i (⟨[],[],0⟩:k9)).ru).map an).length))+1),?_,?_,rfl,rfl,rfl,trivial⟩
 refine⟨Z9,?_⟩
 (try simp only[ZW,ZU,ZQ,ZM]);omega
 exact Z1
 refine⟨C6 (m:Int) 40,?_,?_⟩
 try dsimp only
 skip
 first | rfl | simp_all)
def pW(gs:List k9):E7 Tryz.prog:=.mk BL 72 [aY gs] [] ((gs.length<=4)/\(∀ y,y∈gs->B0 y)) (fun x=>x.length<=1000/\m4 x) (fun x=>sV x) (fun x=>[]) (by
 rintro⟨hl,hg⟩
 refine eK (N:=89) (rs:=[.tmp 2]) (X:=BL) (post:=fun x=>x.length<=1000/\m4 x) (E:=fun x=>sV x) (H':=fun x=>[]) Tryz.func72 Z7 rfl rfl rfl Z7 [] (by intro _ k hk;simpa[lk] using hk)
  (.q 1<|.q 1<|.cx (sq gs) [] (fun (l3:Bool)=>.q 1<|.br (.q 1<|.nil) (.q 1<|.q 1<|.loop (Nat×BL) (fun (i,o)=>⟨[(0,aY gs),(3,sV o),(4,iN i)],[]⟩) (fun (i,o)=>i<=gs.length/\o.length<=200*i/\m4 o) (fun (i,o)=>gs.length-i) (fun (i,o)=>.q 4<|.br (.q 1<|.loop (Nat×BL) (fun (k,q)=>⟨[(0,aY gs),(3,sV q),(4,iN i),(5,iN k)],[]⟩) (fun (k,q)=>k<=(gs.getD i ⟨[],[],0⟩).na.length/\q.length<=200*i+20*k/\m4 q) (fun (k,q)=>(gs.getD i ⟨[],[],0⟩).na.length-k) (fun (k,q)=>.r 8 [eC ((gs.getD i (⟨[],[],0⟩:k9)).na) ((gs.getD i (⟨[],[],0⟩:k9)).ru) ((gs.getD i (⟨[],[],0⟩:k9)).wa)]<|.br (.r 13 [eC ((gs.getD i (⟨[],[],0⟩:k9)).na) ((gs.getD i (⟨[],[],0⟩:k9)).ru) ((gs.getD i (⟨[],[],0⟩:k9)).wa),sV (((gs.getD i (⟨[],[],0⟩:k9)).na).getD k [])]<|.q 3<|.nil) (.q 1<|.loop (Nat×BL) (fun (l,r)=>⟨[(0,aY gs),(3,sV r),(4,iN i),(6,iN l)],[]⟩) (fun (l,r)=>l<=(gs.getD i ⟨[],[],0⟩).ru.length/\r.length<=200*i+40+20*l/\m4 r) (fun (l,r)=>(gs.getD i ⟨[],[],0⟩).ru.length-l) (fun (l,r)=>.r 8 [eC ((gs.getD i (⟨[],[],0⟩:k9)).na) ((gs.getD i (⟨[],[],0⟩:k9)).ru) ((gs.getD i (⟨[],[],0⟩:k9)).wa)]<|.br (.q 1<|.r 9 [eC ((gs.getD i (⟨[],[],0⟩:k9)).na) ((gs.getD i (⟨[],[],0⟩:k9)).ru) ((gs.getD i (⟨[],[],0⟩:k9)).wa),.agg [bV ((((gs.getD i (⟨[],[],0⟩:k9)).ru).getD l (⟨false,[]⟩:s5)).H3),sV ((((gs.getD i (⟨[],[],0⟩:k9)).ru).getD l (⟨false,[]⟩:s5)).path)]]<|.br (.q 1<|.r 15 [eC ((gs.getD i (⟨[],[],0⟩:k9)).na) ((gs.getD i (⟨[],[],0⟩:k9)).ru) ((gs.getD i (⟨[],[],0⟩:k9)).wa),.agg [bV ((((gs.getD i (⟨[],[],0⟩:k9)).ru).getD l (⟨false,[]⟩:s5)).H3),sV ((((gs.getD i (⟨[],[],0⟩:k9)).ru).getD l (⟨false,[]⟩:s5)).path)]]<|.q 3<|.nil) (.r 15 [eC ((gs.getD i (⟨[],[],0⟩:k9)).na) ((gs.getD i (⟨[],[],0⟩:k9)).ru) ((gs.getD i (⟨[],[],0⟩:k9)).wa),.agg [bV ((((gs.getD i (⟨[],[],0⟩:k9)).ru).getD l (⟨false,[]⟩:s5)).H3),sV ((((gs.getD i (⟨[],[],0⟩:k9)).ru).getD l (⟨false,[]⟩:s5)).path)]]<|.q 3<|.nil)) (.r 6 [eC ((gs.getD i (⟨[],[],0⟩:k9)).na) ((gs.getD i (⟨[],[],0⟩:k9)).ru) ((gs.getD i (⟨[],[],0⟩:k9)).wa)]<|.br (.r 7 [eC ((gs.getD i (⟨[],[],0⟩:k9)).na) ((gs.getD i (⟨[],[],0⟩:k9)).ru) ((gs.getD i (⟨[],[],0⟩:k9)).wa)]<|.c (qA ((gs.getD i (⟨[],[],0⟩:k9)).wa)) []<|.q 3<|.q 3<|.nil) (.q 3<|.nil)))))) (.q 2<|.nil)))))
  ((fun v1:BL=>(fun v2:BL=>(fun v3:BL=>(fun v4:BL=>(fun v5:BL=>((sq gs).sm/\((gs.length<=4)/\(∀ y,y∈gs->B0 y))/\∀ l3:Bool,(True)->Br (!l3) (∃ x:BL,(x.length<=1000/\m4 x)/\Q (sV []) (sV x)) ((∃ x:Nat×BL,match x with | (h9,s8)=>(h9<=gs.length/\s8.length<=200*h9/\m4 s8)/\E (aY gs)/\Q (sV []) (sV s8)/\Q (iN 0) (iN h9)/\True)/\∀ x:Nat×BL,match x with | (i,o)=>(i<=gs.length/\o.length<=200*i/\m4 o)->(fun v6:V=>Br (s4 (i:Int) (((gs.map bB).length:Nat):Int)) ((∃ x:Nat×BL,match x with | (r9,y8)=>(r9<=(gs.getD i ⟨[],[],0⟩).na.length/\y8.length<=200*i+20*r9/\m4 y8)/\E (aY gs)/\Q (sV o) (sV y8)/\E (iN i)/\Q (iN 0) (iN r9)/\True)/\∀ x:Nat×BL,match x with | (k,q)=>(k<=(gs.getD i ⟨[],[],0⟩).na.length/\q.length<=200*i+20*k/\m4 q)->Ex (i:Int) (gs.map bB) v6/\True/\Br (s4 (k:Int) (((((gs.getD i (⟨[],[],0⟩:k9)).na).map sV).length:Nat):Int)) ((q.length+v1.length<=4611686018427387904)/\Ex (i:Int) (gs.map bB) v6/\True/\Ex (k:Int) (((gs.getD i (⟨[],[],0⟩:k9)).na).map sV) (sV (((gs.getD i (⟨[],[],0⟩:k9)).na).getD k []))/\True/\((q++v1).length+(((gs.getD i (⟨[],[],0⟩:k9)).na).getD k []).length<=4611686018427387904)/\(((q++v1)++(((gs.getD i (⟨[],[],0⟩:k9)).na).getD k [])).length+v2.length<=4611686018427387904)/\m6 ((k:Int)+1)/\∃ x:Nat×BL,match x with | (k₂,n9)=>(k₂<=(gs.getD i ⟨[],[],0⟩).na.length/\n9.length<=200*i+20*k₂/\m4 n9)/\((gs.getD i ⟨[],[],0⟩).na.length-k₂<(gs.getD i ⟨[],[],0⟩).na.length-k)/\E (aY gs)/\Q (sV (((q++v1)++(((gs.getD i (⟨[],[],0⟩:k9)).na).getD k []))++v2)) (sV n9)/\E (iN i)/\Q (iN (k+1)) (iN k₂)/\True) ((∃ x:Nat×BL,match x with | (MK,MJ)=>(MK<=(gs.getD i ⟨[],[],0⟩).ru.length/\MJ.length<=200*i+40+20*MK/\m4 MJ)/\E (aY gs)/\Q (sV q) (sV MJ)/\E (iN i)/\Q (iN 0) (iN MK)/\True)/\∀ x:Nat×BL,match x with | (l,r)=>(l<=(gs.getD i ⟨[],[],0⟩).ru.length/\r.length<=200*i+40+20*l/\m4 r)->(fun v7:V=>Ex (i:Int) (gs.map bB) v6/\True/\Br (s4 (l:Int) (((((gs.getD i (⟨[],[],0⟩:k9)).ru).map an).length:Nat):Int)) (Ex (i:Int) (gs.map bB) v6/\True/\Ex (l:Int) (((gs.getD i (⟨[],[],0⟩:k9)).ru).map an) v7/\True/\Br ((((gs.getD i (⟨[],[],0⟩:k9)).ru).getD l (⟨false,[]⟩:s5)).H3) ((r.length+v4.length<=4611686018427387904)/\Ex (i:Int) (gs.map bB) v6/\True/\Ex (l:Int) (((gs.getD i (⟨[],[],0⟩:k9)).ru).map an) v7/\True/\((r++v4).length+((((gs.getD i (⟨[],[],0⟩:k9)).ru).getD l (⟨false,[]⟩:s5)).path).length<=4611686018427387904)/\(((r++v4)++((((gs.getD i (⟨[],[],0⟩:k9)).ru).getD l (⟨false,[]⟩:s5)).path)).length+v2.length<=4611686018427387904)/\m6 ((l:Int)+1)/\∃ x:Nat×BL,match x with | (D8,B5)=>(D8<=(gs.getD i ⟨[],[],0⟩).ru.length/\B5.length<=200*i+40+20*D8/\m4 B5)/\((gs.getD i ⟨[],[],0⟩).ru.length-D8<(gs.getD i ⟨[],[],0⟩).ru.length-l)/\E (aY gs)/\Q (sV (((r++v4)++((((gs.getD i (⟨[],[],0⟩:k9)).ru).getD l (⟨false,[]⟩:s5)).path))++v2)) (sV B5)/\E (iN i)/\Q (iN (l+1)) (iN D8)/\True) ((r.length+v5.length<=4611686018427387904)/\Ex (i:Int) (gs.map bB) v6/\True/\Ex (l:Int) (((gs.getD i (⟨[],[],0⟩:k9)).ru).map an) v7/\True/\((r++v5).length+((((gs.getD i (⟨[],[],0⟩:k9)).ru).getD l (⟨false,[]⟩:s5)).path).length<=4611686018427387904)/\(((r++v5)++((((gs.getD i (⟨[],[],0⟩:k9)).ru).getD l (⟨false,[]⟩:s5)).path)).length+v2.length<=4611686018427387904)/\m6 ((l:Int)+1)/\∃ x:Nat×BL,match x with | (D8,B5)=>(D8<=(gs.getD i ⟨[],[],0⟩).ru.length/\B5.length<=200*i+40+20*D8/\m4 B5)/\((gs.getD i ⟨[],[],0⟩).ru.length-D8<(gs.getD i ⟨[],[],0⟩).ru.length-l)/\E (aY gs)/\Q (sV (((r++v5)++((((gs.getD i (⟨[],[],0⟩:k9)).ru).getD l (⟨false,[]⟩:s5)).path))++v2)) (sV B5)/\E (iN i)/\Q (iN (l+1)) (iN D8)/\True)) (Ex (i:Int) (gs.map bB) v6/\True/\Br (s7 (((gs.getD i (⟨[],[],0⟩:k9)).wa:Nat):Int) 0) ((r.length+v3.length<=4611686018427387904)/\Ex (i:Int) (gs.map bB) v6/\True/\(qA ((gs.getD i (⟨[],[],0⟩:k9)).wa)).sm/\((((gs.getD i (⟨[],[],0⟩:k9)).wa)<=1000000))/\((r++v3).length+(dt ((gs.getD i (⟨[],[],0⟩:k9)).wa)).length<=4611686018427387904)/\(((r++v3)++(dt ((gs.getD i (⟨[],[],0⟩:k9)).wa))).length+v2.length<=4611686018427387904)/\m6 ((i:Int)+1)/\∃ x:Nat×BL,match x with | (b9,l7)=>(b9<=gs.length/\l7.length<=200*b9/\m4 l7)/\(gs.length-b9<gs.length-i)/\E (aY gs)/\Q (sV (((r++v3)++(dt ((gs.getD i (⟨[],[],0⟩:k9)).wa)))++v2)) (sV l7)/\Q (iN (i+1)) (iN b9)/\True) (m6 ((i:Int)+1)/\∃ x:Nat×BL,match x with | (b9,l7)=>(b9<=gs.length/\l7.length<=200*b9/\m4 l7)/\(gs.length-b9<gs.length-i)/\E (aY gs)/\Q (sV r) (sV l7)/\Q (iN (i+1)) (iN b9)/\True))) (.agg [bV ((((gs.getD i (⟨[],[],0⟩:k9)).ru).getD l (⟨false,[]⟩:s5)).H3),sV ((((gs.getD i (⟨[],[],0⟩:k9)).ru).getD l (⟨false,[]⟩:s5)).path)]))) (∃ x:BL,(x.length<=1000/\m4 x)/\Q (sV o) (sV x))) (eC ((gs.getD i (⟨[],[],0⟩:k9)).na) ((gs.getD i (⟨[],[],0⟩:k9)).ru) ((gs.getD i (⟨[],[],0⟩:k9)).wa))))) ([98,97,114,32]:BL)) ([108,101,116,32]:BL)) ([119,97,105,116,32]:BL)) ([10]:BL)) ([99,97,108,108,101,114,32]:BL))
  Z7 ?_
 refine⟨rfl,⟨hl,hg⟩,?_⟩
 intro l3 G5
 refine bI (fun j7=>?_) fun j7=>?_
 refine⟨[],?_,?_⟩
 try dsimp only
 exact⟨Z8,aT⟩
 first | rfl | simp_all
 · refine⟨⟨(0,[]),?_,rfl,rfl,rfl,trivial⟩,?_⟩
   exact⟨Z8,Z8,aT⟩
   rintro⟨i,o⟩ ⟨h1,h2,XU⟩
   have H7:=qE hg i
   have S8:=H7.nl
   have TO:=H7.rl
   have hn3:=H7.w
   have hn4:=oG (gs.getD i ⟨[],[],0⟩).wa Z9
   refine bI (fun l4=>?_) fun l4=>?_
   · refine⟨⟨(0,o),?_,rfl,rfl,rfl,rfl,trivial⟩,?_⟩
     exact⟨Z9,Z9,XU⟩
     rintro⟨k,q⟩ ⟨h3,h4,h4b⟩
     have O3:=fu (gs:=gs) hg i k
     refine⟨⟨Z9,aj (d:=(⟨[],[],0⟩:k9)) Z9⟩,trivial,?_⟩
     refine bI (fun m8=>?_) fun m8=>?_
     · refine⟨by(try have:=fu (gs:=gs) hg i k);(try have:=fj (gs:=gs) hg i k);(try simp only[ZW,ZU,ZQ]);omega,⟨Z9,aj (d:=(⟨[],[],0⟩:k9)) Z9⟩,trivial,⟨Z9,aj (d:=[]) Z9⟩,trivial,by(try have:=fu (gs:=gs) hg i k);(try have:=fj (gs:=gs) hg i k);(try simp only[ZW,ZU,ZQ]);omega,by(try have:=fu (gs:=gs) hg i k);(try have:=fj (gs:=gs) hg i k);(try simp only[ZW,ZU,ZQ]);omega,Z9,?_⟩
       refine⟨(k+1,((q++([99,97,108,108,101,114,32]:BL))++(((gs.getD i (⟨[],[],0⟩:k9)).na).getD k []))++([10]:BL)),?_,?_,rfl,rfl,rfl,rfl,trivial⟩
       · refine⟨Z9,?_,by(try dsimp only);repeat (first | assumption | exact aT | exact bn rfl | exact qb hg _ _ | exact pB hg _ _ | exact jP _ | apply m4.app)⟩
         (try simp only[ZW,ZU,ZQ,ZM]);omega
       exact Z1
     · refine⟨⟨(0,q),?_,rfl,rfl,rfl,rfl,trivial⟩,?_⟩
       exact⟨Z9,Z9,h4b⟩
       rintro⟨l,r⟩ ⟨h5,h6,h6b⟩
       have M':=fj (gs:=gs) hg i l
       refine⟨⟨Z9,aj (d:=(⟨[],[],0⟩:k9)) Z9⟩,trivial,?_⟩
       refine bI (fun w7=>?_) fun w7=>?_
       · refine⟨⟨Z9,aj (d:=(⟨[],[],0⟩:k9)) Z9⟩,trivial,⟨Z9,aj (d:=(⟨false,[]⟩:s5)) Z9⟩,trivial,?_⟩
         refine bI (fun G8=>?_) fun G8=>?_
         · refine⟨by(try have:=fu (gs:=gs) hg i k);(try have:=fj (gs:=gs) hg i k);(try simp only[ZW,ZU,ZQ]);omega,⟨Z9,aj (d:=(⟨[],[],0⟩:k9)) Z9⟩,trivial,⟨Z9,aj (d:=(⟨false,[]⟩:s5)) Z9⟩,trivial,by(try have:=fu (gs:=gs) hg i k);(try have:=fj (gs:=gs) hg i k);(try simp only[ZW,ZU,ZQ]);omega,by(try have:=fu (gs:=gs) hg i k);(try have:=fj (gs:=gs) hg i k);(try simp only[ZW,ZU,ZQ]);omega,Z9,?_⟩
           refine⟨(l+1,((r++([108,101,116,32]:BL))++((((gs.getD i (⟨[],[],0⟩:k9)).ru).getD l (⟨false,[]⟩:s5)).path))++([10]:BL)),?_,?_,rfl,rfl,rfl,rfl,trivial⟩
           · refine⟨Z9,?_,by(try dsimp only);repeat (first | assumption | exact aT | exact bn rfl | exact qb hg _ _ | exact pB hg _ _ | exact jP _ | apply m4.app)⟩
             (try simp only[ZW,ZU,ZQ,ZM]);omega
           exact Z1
         · refine⟨by(try have:=fu (gs:=gs) hg i k);(try have:=fj (gs:=gs) hg i k);(try simp only[ZW,ZU,ZQ]);omega,⟨Z9,aj (d:=(⟨[],[],0⟩:k9)) Z9⟩,trivial,⟨Z9,aj (d:=(⟨false,[]⟩:s5)) Z9⟩,trivial,by(try have:=fu (gs:=gs) hg i k);(try have:=fj (gs:=gs) hg i k);(try simp only[ZW,ZU,ZQ]);omega,by(try have:=fu (gs:=gs) hg i k);(try have:=fj (gs:=gs) hg i k);(try simp only[ZW,ZU,ZQ]);omega,Z9,?_⟩
           refine⟨(l+1,((r++([98,97,114,32]:BL))++((((gs.getD i (⟨[],[],0⟩:k9)).ru).getD l (⟨false,[]⟩:s5)).path))++([10]:BL)),?_,?_,rfl,rfl,rfl,rfl,trivial⟩
           · refine⟨Z9,?_,by(try dsimp only);repeat (first | assumption | exact aT | exact bn rfl | exact qb hg _ _ | exact pB hg _ _ | exact jP _ | apply m4.app)⟩
             (try simp only[ZW,ZU,ZQ,ZM]);omega
           exact Z1
       · refine⟨⟨Z9,aj (d:=(⟨[],[],0⟩:k9)) Z9⟩,trivial,?_⟩
         refine bI (fun MN=>?_) fun MN=>?_
         · refine⟨by(try have:=fu (gs:=gs) hg i k);(try have:=fj (gs:=gs) hg i k);(try simp only[ZW,ZU,ZQ]);omega,⟨Z9,aj (d:=(⟨[],[],0⟩:k9)) Z9⟩,trivial,rfl,Z9,by(try have:=fu (gs:=gs) hg i k);(try have:=fj (gs:=gs) hg i k);(try simp only[ZW,ZU,ZQ]);omega,by(try have:=fu (gs:=gs) hg i k);(try have:=fj (gs:=gs) hg i k);(try simp only[ZW,ZU,ZQ]);omega,Z9,?_⟩
           refine⟨(i+1,((r++([119,97,105,116,32]:BL))++(dt ((gs.getD i (⟨[],[],0⟩:k9)).wa)))++([10]:BL)),?_,?_,rfl,rfl,rfl,trivial⟩
           · refine⟨Z9,?_,by(try dsimp only);repeat (first | assumption | exact aT | exact bn rfl | exact qb hg _ _ | exact pB hg _ _ | exact jP _ | apply m4.app)⟩
             (try simp only[ZW,ZU,ZQ,ZM]);omega
           exact Z1
         · refine⟨Z9,?_⟩
           refine⟨(i+1,r),?_,?_,rfl,rfl,rfl,trivial⟩
           · refine⟨Z9,?_,by(try dsimp only);repeat (first | assumption | exact aT | exact bn rfl | exact qb hg _ _ | exact pB hg _ _ | exact jP _ | apply m4.app)⟩
             (try simp only[ZW,ZU,ZQ,ZM]);omega
           exact Z1
   refine⟨o,?_,?_⟩
   try dsimp only
   exact⟨Z9,XU⟩
   first | rfl | simp_all)
abbrev eY(b:BL)(p:Nat)(g:Nat)(n:Nat)(e':List Pg)(q':Nat)(u':Nat)(f':Nat)(k':Nat):Prop:=e'.length+n<=12/\(1<=e'.length\/2<=n)/\(∀ y,y∈e'->n7 y)/\p<=q'/\q'+100*n<=p+1300
def sC(b:BL)(p:Nat)(g:Nat):E7 Tryz.prog:=.mk (List Pg×Nat) 42 [.ptr (.key 1000) [] g 0] [(1000,(g,ak b p))] ((b.length<=2000)/\(p<=700000)) (fun x=>1<=x.1.length/\x.1.length<=12/\(∀ y,y∈x.1->n7 y)/\p<=x.2/\x.2<=p+1500) (fun x=>.ow 4 (x.1.map r4)) (fun x=>[(1000,(g,ak b x.2))]) (by
 rintro⟨hb,hp⟩
 refine eK (N:=94) (rs:=[.tmp 2]) (X:=List Pg×Nat) (post:=fun x=>1<=x.1.length/\x.1.length<=12/\(∀ y,y∈x.1->n7 y)/\p<=x.2/\x.2<=p+1500) (E:=fun x=>.ow 4 (x.1.map r4)) (H':=fun x=>[(1000,(g,.agg [.sl false (b.map m7),iN x.2]))]) Tryz.func42 Z7 rfl rfl rfl Z7 [(1000,(0,.b7))] (by intro _ k hk;simpa[lk] using hk)
  (.q 1<|.bs<|.q 1<|.c (kg) []<|.q 1<|.q 1<|.h (.H2 3 4)<|.loop (Nat×(List Pg)×Nat×Nat×Nat×Nat) (fun (i,e,q,u,f,k)=>⟨[(0,.ptr (.key 1000) [] g 0),(3,.own 4 (e.map r4) u f k),(4,ao aH),(5,iN i)],[(1000,(g,ak b q))]⟩) (fun (i,e,q,u,f,k)=>i<=4/\e.length<=i/\(∀ y,y∈e->n7 y)/\p<=q/\q<=p+90*i) (fun (i,e,q,u,f,k)=>4-i) (fun (i,e,q,u,f,k)=>.q 2<|.br (.q 1<|.cx (aV b q g 2) [(1000,1000)] (fun (C7:Nat)=>.q 1<|.br (.dx 16 [0,1,2,3,4,5,6,9,10,7,8,11,12,13,14,15] [(3,⟨false,[],some [],[23],[]⟩),(7,⟨true,[],some [1000],[27],[1000]⟩),(8,⟨true,[],some [],[28],[]⟩),(11,⟨true,[],some [1000],[31],[1000]⟩),(13,⟨false,[],some [],[33],[]⟩)] [(15,lX)]<|.q 1<|.q 1<|.r 1 [sV (aH.getD i [])]<|.q 1<|.q 1<|.q 1<|.q 1<|.bs<|.q 1<|.cx (qR b (q+1) g) [(1000,1000)] (fun (D1:List k9×Nat)=>.cx (pW D1.1) [] (fun (Nc:BL)=>.cx (aV b D1.2 g 6) [(1000,1000)] (fun (B3:Nat)=>.r 1 [iV ([0,0,0,1,2,5].getD B3 0)]<|.q 1<|.bd lX<|.ua (fun g6=>.st none<|.q 1<|.cx (aV b (D1.2+1) g 12) [(1000,1000)] (fun (Nr:Nat)=>.q 1<|.join (Pg×Nat) (fun y=>⟨[(0,.ptr (.key 1000) [] g 0),(3,.own 4 (e.map r4) u f k),(4,ao aH),(5,iN i),(13,iN i),(14,bV (s4 (i:Int) 4)),(17,.ptr (.key 1000) [] g 0),(18,iN C7),(19,bV (o6 (C7:Int) 0)),(20,ao aH),(21,iN i),(22,.ep (sV (aH.getD i []))),(23,sV (aH.getD i [])),(24,sV (([47,47]:BL)++(aH.getD i []))),(25,sV ((([47,47]:BL)++(aH.getD i []))++([47,110,111,116,105,99,101]:BL))),(26,.ptr (.key 1000) [] g 0),(29,.sl true ([0,0,0,1,2,5].map iV)),(30,.ptr (.key 1000) [] g 0),(27,aY D1.1),(28,sV Nc),(31,iN B3),(32,.ep (iV ([0,0,0,1,2,5].getD B3 0))),(33,iV ([0,0,0,1,2,5].getD B3 0)),(34,.agg [sV ((([47,47]:BL)++(aH.getD i []))++([47,110,111,116,105,99,101]:BL)),sV Nc,sV [],iV ([0,0,0,1,2,5].getD B3 0)]),(6,.ptr (.key 6) [] g6 0),(35,.ptr (.key 1000) [] g 0),(36,iN Nr),(37,bV (o6 (Nr:Int) 0))],[(1000,(g,ak b y.2)),(6,(g6,bR y.1.addr y.1.text y.1.lead y.1.l8))]⟩) (fun y=>y.1.addr.length<=30/\y.1.lead.length<=30/\y.1.text.length<=1000/\(0<=y.1.l8/\y.1.l8<=10)/\q<=y.2/\y.2<=q+80/\m4 y.1.addr/\m4 y.1.lead/\m4 y.1.text) (.q 1<|.st none<|.q 1<|.cx (dY b ((D1.2+1)+1) g) [(1000,1000)] (fun (D7:BL×Nat)=>.q 1<|.st none<|.nil)) (.nil) (fun y=>.r 4 [.b7]<|.br (.r 2 [.b7]<|.bs<|.ap (fun Sm RA SC=>.h (.o4 49 (.own 4 ((e++[y.1]).map r4) Sm RA SC))<|.q 1<|.q 3<|.nil)) (.q 3<|.nil)))))))) (.q 3<|.nil))) (.q 1<|.cx (aV b q g 7) [(1000,1000)] (fun (MU:Nat)=>.q 2<|.loop (Nat×(List Pg)×Nat×Nat×Nat×Nat) (fun (n,e',q',u',f',k')=>⟨[(0,.ptr (.key 1000) [] g 0),(3,.own 4 (e'.map r4) u' f' k'),(7,iN n)],[(1000,(g,ak b q'))]⟩) (fun (n,e',q',u',f',k')=>eY b p g n e' q' u' f' k') (fun (n,e',q',u',f',k')=>n) (fun (n,e',q',u',f',k')=>.q 2<|.br (.q 1<|.cx (dY b q' g) [(1000,1000)] (fun (C5:BL×Nat)=>.q 1<|.cx (vz b C5.2 g) [(1000,1000)] (fun (x7:BL×Nat)=>.bs<|.q 1<|.cx (aV b x7.2 g 7) [(1000,1000)] (fun (B4:Nat)=>.r 2 [iV ([0,0,0,0,1,2,4].getD B4 0)]<|.bd lX<|.al lX (fun g8=>.st none<|.q 1<|.cx (aV b (x7.2+1) g 8) [(1000,1000)] (fun (L8:Nat)=>.q 1<|.join (Pg×Nat) (fun y=>⟨[(0,.ptr (.key 1000) [] g 0),(3,.own 4 (e'.map r4) u' f' k'),(7,iN n),(53,iN n),(54,bV (s7 (n:Int) 0)),(57,.ptr (.key 1000) [] g 0),(58,sV C5.1),(59,.ptr (.key 1000) [] g 0),(60,sV x7.1),(61,.sl true ([0,0,0,0,1,2,4].map iV)),(62,.ptr (.key 1000) [] g 0),(63,iN B4),(64,.ep (iV ([0,0,0,0,1,2,4].getD B4 0))),(65,iV ([0,0,0,0,1,2,4].getD B4 0)),(66,.agg [sV C5.1,sV x7.1,sV [],iV ([0,0,0,0,1,2,4].getD B4 0)]),(8,.ptr (.key 8) [] g8 0),(67,.ptr (.key 1000) [] g 0),(68,iN L8),(69,bV (o6 (L8:Int) 0))],[(1000,(g,ak b y.2)),(8,(g8,bR y.1.addr y.1.text y.1.lead y.1.l8))]⟩) (fun y=>n7 y.1/\q'<=y.2/\y.2<=q'+90) (.q 1<|.st none<|.q 1<|.cx (dY b ((x7.2+1)+1) g) [(1000,1000)] (fun (K8:BL×Nat)=>.q 1<|.st none<|.nil)) (.nil) (fun y=>.r 3 [.b7]<|.cl (GV e' y.1.addr)<|.q 3<|.al lX (fun g9=>.st none<|.q 1<|.r 8 [.b7]<|.br (.r 2 [.b7]<|.bs<|.ap (fun Sb Rr Sr=>.h (.o4 92 (.own 4 ((e'++[y.1]).map r4) Sb Rr Sr))<|.q 1<|.q 2<|.h (.o4 56 (iN (n-1)))<|.q 1<|.nil)) (.q 2<|.h (.o4 56 (iN (n-1)))<|.q 1<|.nil))))))))) (.q 2<|.h (.gg 2)<|.nil))))))
  ((fun v1:V=>(fun v2:BL=>(fun v3:BL=>(fun v4:V=>((kg).sm/\(True)/\(∃ x:Nat×(List Pg)×Nat×Nat×Nat×Nat,match x with | (h9,C8,y8,G3,x9,r9)=>(h9<=4/\C8.length<=h9/\(∀ y,y∈C8->n7 y)/\p<=y8/\y8<=p+90*h9)/\E v1/\Q (.own 4 ([].map r4) 0 0 0) (.own 4 (C8.map r4) G3 x9 r9)/\E v4/\Q (iN 0) (iN h9)/\Qr g (ak b p) g (ak b y8)/\True)/\∀ x:Nat×(List Pg)×Nat×Nat×Nat×Nat,match x with | (i,e,q,u,f,k)=>(i<=4/\e.length<=i/\(∀ y,y∈e->n7 y)/\p<=q/\q<=p+90*i)->(fun v5:V=>(fun v6:V=>Br (s4 (i:Int) 4) ((aV b q g 2).sm/\Er g (ak b q)/\((b.length<=2000)/\(q<=1000000)/\(2<=1000000))/\∀ C7:Nat,(2=0/\C7=0\/C7<2)->Br (o6 (C7:Int) 0) (Ex (i:Int) (aH.map sV) v6/\True/\(v3.length+(aH.getD i []).length<=4611686018427387904)/\((v3++(aH.getD i [])).length+v2.length<=4611686018427387904)/\(qR b (q+1) g).sm/\Er g (ak b (q+1))/\((b.length<=2000)/\((q+1)<=800000))/\∀ D1:List k9×Nat,(D1.1.length<=4/\(∀ y,y∈D1.1->B0 y)/\(q+1)<=D1.2/\D1.2<=(q+1)+60)->(pW D1.1).sm/\((D1.1.length<=4)/\(∀ y,y∈D1.1->B0 y))/\∀ Nc:BL,(Nc.length<=1000/\m4 Nc)->(aV b D1.2 g 6).sm/\Er g (ak b D1.2)/\((b.length<=2000)/\(D1.2<=1000000)/\(6<=1000000))/\∀ B3:Nat,(6=0/\B3=0\/B3<6)->(fun v7:V=>Ex (B3:Int) ([0,0,0,1,2,5].map iV) (iV ([0,0,0,1,2,5].getD B3 0))/\True/\∀ g6:Nat,Z g6 0/\(aV b (D1.2+1) g 12).sm/\Er g (ak b (D1.2+1))/\((b.length<=2000)/\((D1.2+1)<=1000000)/\(12<=1000000))/\∀ Nr:Nat,(12=0/\Nr=0\/Nr<12)->(fun v8:Bool=>(v8=true->Z g6 1/\(dY b ((D1.2+1)+1) g).sm/\Er g (ak b ((D1.2+1)+1))/\((b.length<=2000)/\(((D1.2+1)+1)<=900000))/\∀ D7:BL×Nat,(D7.1.length<=25/\((D1.2+1)+1)<=D7.2/\D7.2<=((D1.2+1)+1)+6/\m4 D7.1)->Z g6 2/\∃ y:Pg×Nat,(y.1.addr.length<=30/\y.1.lead.length<=30/\y.1.text.length<=1000/\(0<=y.1.l8/\y.1.l8<=10)/\q<=y.2/\y.2<=q+80/\m4 y.1.addr/\m4 y.1.lead/\m4 y.1.text)/\E v1/\E v5/\E v4/\E (iN i)/\E (iN i)/\E (bV (s4 (i:Int) 4))/\E v1/\E (iN C7)/\E (bV (o6 (C7:Int) 0))/\E v4/\E (iN i)/\E (.ep v6)/\E v6/\E (sV (v3++(aH.getD i [])))/\E (sV ((v3++(aH.getD i []))++v2))/\E v1/\E (.sl true ([0,0,0,1,2,5].map iV))/\E v1/\E (aY D1.1)/\E (sV Nc)/\E (iN B3)/\E (.ep (iV ([0,0,0,1,2,5].getD B3 0)))/\E (iV ([0,0,0,1,2,5].getD B3 0))/\E v7/\E (.ptr (.key 6) [] g6 0)/\E v1/\E (iN Nr)/\E (bV v8)/\Qr g (ak b D7.2) g (ak b y.2)/\Qr g6 (.agg [sV ((v3++(aH.getD i []))++v2),sV [],sV D7.1,iV ([0,0,0,1,2,5].getD B3 0)]) g6 (bR y.1.addr y.1.text y.1.lead y.1.l8)/\True)/\(v8=false->∃ y:Pg×Nat,(y.1.addr.length<=30/\y.1.lead.length<=30/\y.1.text.length<=1000/\(0<=y.1.l8/\y.1.l8<=10)/\q<=y.2/\y.2<=q+80/\m4 y.1.addr/\m4 y.1.lead/\m4 y.1.text)/\E v1/\E v5/\E v4/\E (iN i)/\E (iN i)/\E (bV (s4 (i:Int) 4))/\E v1/\E (iN C7)/\E (bV (o6 (C7:Int) 0))/\E v4/\E (iN i)/\E (.ep v6)/\E v6/\E (sV (v3++(aH.getD i [])))/\E (sV ((v3++(aH.getD i []))++v2))/\E v1/\E (.sl true ([0,0,0,1,2,5].map iV))/\E v1/\E (aY D1.1)/\E (sV Nc)/\E (iN B3)/\E (.ep (iV ([0,0,0,1,2,5].getD B3 0)))/\E (iV ([0,0,0,1,2,5].getD B3 0))/\E v7/\E (.ptr (.key 6) [] g6 0)/\E v1/\E (iN Nr)/\E (bV v8)/\Qr g (ak b ((D1.2+1)+1)) g (ak b y.2)/\Qr g6 v7 g6 (bR y.1.addr y.1.text y.1.lead y.1.l8)/\True)/\(∀ y:Pg×Nat,(y.1.addr.length<=30/\y.1.lead.length<=30/\y.1.text.length<=1000/\(0<=y.1.l8/\y.1.l8<=10)/\q<=y.2/\y.2<=q+80/\m4 y.1.addr/\m4 y.1.lead/\m4 y.1.text)->Z g6 1/\Br (C6 (y.1.text.length:Int) 300) (Z g6 0/\((4,4,u,f,k,(e.map r4).length)=(4,4,u,f,k,(e.map r4).length))/\(True)/\(V.ay ([bR y.1.addr y.1.text y.1.lead y.1.l8]:List V)=false)/\(aC 4 ([bR y.1.addr y.1.text y.1.lead y.1.l8]:List V))/\(((e.map r4).length+([bR y.1.addr y.1.text y.1.lead y.1.l8]:List V).length)*56<=140737488355328)/\∀ Sm RA SC:Nat,((.own 4 ((e.map r4)++([bR y.1.addr y.1.text y.1.lead y.1.l8]:List V)) Sm RA SC:V)=.own 4 ((e++[y.1]).map r4) Sm RA SC)/\m6 ((i:Int)+1)/\∃ x:Nat×(List Pg)×Nat×Nat×Nat×Nat,match x with | (b9,w3,n9,A6,o9,k₂)=>(b9<=4/\w3.length<=b9/\(∀ y,y∈w3->n7 y)/\p<=n9/\n9<=p+90*b9)/\(4-b9<4-i)/\E v1/\Q (.own 4 ((e++[y.1]).map r4) Sm RA SC) (.own 4 (w3.map r4) A6 o9 k₂)/\E v4/\Q (iN (i+1)) (iN b9)/\Qr g (ak b y.2) g (ak b n9)/\True) (m6 ((i:Int)+1)/\∃ x:Nat×(List Pg)×Nat×Nat×Nat×Nat,match x with | (b9,w3,n9,A6,o9,k₂)=>(b9<=4/\w3.length<=b9/\(∀ y,y∈w3->n7 y)/\p<=n9/\n9<=p+90*b9)/\(4-b9<4-i)/\E v1/\Q v5 (.own 4 (w3.map r4) A6 o9 k₂)/\E v4/\Q (iN (i+1)) (iN b9)/\Qr g (ak b y.2) g (ak b n9)/\True))) (o6 (Nr:Int) 0)) (.agg [sV ((v3++(aH.getD i []))++v2),sV Nc,sV [],iV ([0,0,0,1,2,5].getD B3 0)])) (m6 ((i:Int)+1)/\∃ x:Nat×(List Pg)×Nat×Nat×Nat×Nat,match x with | (b9,w3,n9,A6,o9,k₂)=>(b9<=4/\w3.length<=b9/\(∀ y,y∈w3->n7 y)/\p<=n9/\n9<=p+90*b9)/\(4-b9<4-i)/\E v1/\Q v5 (.own 4 (w3.map r4) A6 o9 k₂)/\E v4/\Q (iN (i+1)) (iN b9)/\Qr g (ak b (q+1)) g (ak b n9)/\True)) ((aV b q g 7).sm/\Er g (ak b q)/\((b.length<=2000)/\(q<=1000000)/\(7<=1000000))/\∀ MU:Nat,(7=0/\MU=0\/MU<7)->m6 (2+(MU:Int))/\(∃ x:Nat×(List Pg)×Nat×Nat×Nat×Nat,match x with | (I8,Sq,Rq,Ro,Sp,RO)=>(eY b p g I8 Sq Rq Ro Sp RO)/\E v1/\Q v5 (.own 4 (Sq.map r4) Ro Sp RO)/\Q (iN (2+MU)) (iN I8)/\Qr g (ak b (q+1)) g (ak b Rq)/\True)/\∀ x:Nat×(List Pg)×Nat×Nat×Nat×Nat,match x with | (n,e',q',u',f',k')=>(eY b p g n e' q' u' f' k')->(fun v9:V=>Br (s7 (n:Int) 0) ((dY b q' g).sm/\Er g (ak b q')/\((b.length<=2000)/\(q'<=900000))/\∀ C5:BL×Nat,(C5.1.length<=25/\q'<=C5.2/\C5.2<=q'+6/\m4 C5.1)->(vz b C5.2 g).sm/\Er g (ak b C5.2)/\((b.length<=2000)/\(C5.2<=880000))/\∀ x7:BL×Nat,(x7.1.length<=240/\C5.2<=x7.2/\x7.2<=C5.2+70/\m4 x7.1)->(aV b x7.2 g 7).sm/\Er g (ak b x7.2)/\((b.length<=2000)/\(x7.2<=1000000)/\(7<=1000000))/\∀ B4:Nat,(7=0/\B4=0\/B4<7)->(fun v10:V=>Ex (B4:Int) ([0,0,0,0,1,2,4].map iV) (iV ([0,0,0,0,1,2,4].getD B4 0))/\True/\∀ g8:Nat,Z g8 0/\(aV b (x7.2+1) g 8).sm/\Er g (ak b (x7.2+1))/\((b.length<=2000)/\((x7.2+1)<=1000000)/\(8<=1000000))/\∀ L8:Nat,(8=0/\L8=0\/L8<8)->(fun v11:Bool=>(v11=true->Z g8 1/\(dY b ((x7.2+1)+1) g).sm/\Er g (ak b ((x7.2+1)+1))/\((b.length<=2000)/\(((x7.2+1)+1)<=900000))/\∀ K8:BL×Nat,(K8.1.length<=25/\((x7.2+1)+1)<=K8.2/\K8.2<=((x7.2+1)+1)+6/\m4 K8.1)->Z g8 2/\∃ y:Pg×Nat,(n7 y.1/\q'<=y.2/\y.2<=q'+90)/\E v1/\E v9/\E (iN n)/\E (iN n)/\E (bV (s7 (n:Int) 0))/\E v1/\E (sV C5.1)/\E v1/\E (sV x7.1)/\E (.sl true ([0,0,0,0,1,2,4].map iV))/\E v1/\E (iN B4)/\E (.ep (iV ([0,0,0,0,1,2,4].getD B4 0)))/\E (iV ([0,0,0,0,1,2,4].getD B4 0))/\E v10/\E (.ptr (.key 8) [] g8 0)/\E v1/\E (iN L8)/\E (bV v11)/\Qr g (ak b K8.2) g (ak b y.2)/\Qr g8 (.agg [sV C5.1,sV [],sV K8.1,iV ([0,0,0,0,1,2,4].getD B4 0)]) g8 (bR y.1.addr y.1.text y.1.lead y.1.l8)/\True)/\(v11=false->∃ y:Pg×Nat,(n7 y.1/\q'<=y.2/\y.2<=q'+90)/\E v1/\E v9/\E (iN n)/\E (iN n)/\E (bV (s7 (n:Int) 0))/\E v1/\E (sV C5.1)/\E v1/\E (sV x7.1)/\E (.sl true ([0,0,0,0,1,2,4].map iV))/\E v1/\E (iN B4)/\E (.ep (iV ([0,0,0,0,1,2,4].getD B4 0)))/\E (iV ([0,0,0,0,1,2,4].getD B4 0))/\E v10/\E (.ptr (.key 8) [] g8 0)/\E v1/\E (iN L8)/\E (bV v11)/\Qr g (ak b ((x7.2+1)+1)) g (ak b y.2)/\Qr g8 v10 g8 (bR y.1.addr y.1.text y.1.lead y.1.l8)/\True)/\(∀ y:Pg×Nat,(n7 y.1/\q'<=y.2/\y.2<=q'+90)->(fun v12:List V=>(fun G0:Bool=>Z g8 0/\(((4=4/\u'=u'/\f'=f')/\0+((e'.map r4).length)<=(e'.map r4).length/\V.ay (e'.map r4)=false/\aC 4 (e'.map r4))/\True)/\(([.sl false (((e'.map r4).drop 0).take ((e'.map r4).length)),sV y.1.addr]:List V)=[bQ e',sV y.1.addr])/\((e'.length<=1000000))/\∀ g9:Nat,Z g9 0/\Gd (G0==true) (Z g8 1)/\Pk G0 (G0==true) true/\Br (G0&&(C6 (y.1.text.length:Int) 300)) (Z g8 0/\((4,4,u',f',k',(e'.map r4).length)=(4,4,u',f',k',(e'.map r4).length))/\(True)/\(V.ay v12=false)/\(aC 4 v12)/\(((e'.map r4).length+v12.length)*56<=140737488355328)/\∀ Sb Rr Sr:Nat,((.own 4 ((e'.map r4)++v12) Sb Rr Sr:V)=.own 4 ((e'++[y.1]).map r4) Sb Rr Sr)/\m6 ((n:Int)-1)/\Q (iV ((n:Int)-1)) (iN (n-1))/\∃ x:Nat×(List Pg)×Nat×Nat×Nat×Nat,match x with | (s9,Oo,N1,NY,On,N6)=>(eY b p g s9 Oo N1 NY On N6)/\(s9<n)/\E v1/\Q (.own 4 ((e'++[y.1]).map r4) Sb Rr Sr) (.own 4 (Oo.map r4) NY On N6)/\Q (iN (n-1)) (iN s9)/\Qr g (ak b y.2) g (ak b N1)/\True) (m6 ((n:Int)-1)/\Q (iV ((n:Int)-1)) (iN (n-1))/\∃ x:Nat×(List Pg)×Nat×Nat×Nat×Nat,match x with | (s9,Oo,N1,NY,On,N6)=>(eY b p g s9 Oo N1 NY On N6)/\(s9<n)/\E v1/\Q v9 (.own 4 (Oo.map r4) NY On N6)/\Q (iN (n-1)) (iN s9)/\Qr g (ak b y.2) g (ak b N1)/\True)) (!((A3 e' y.1.addr).2))) ([bR y.1.addr y.1.text y.1.lead y.1.l8]:List V))) (o6 (L8:Int) 0)) (.agg [sV C5.1,sV x7.1,sV [],iV ([0,0,0,0,1,2,4].getD B4 0)])) (((4,u',f',k',(e'.map r4).length)=(4,u',f',k',(e'.map r4).length))/\∃ x:List Pg×Nat,(1<=x.1.length/\x.1.length<=12/\(∀ y,y∈x.1->n7 y)/\p<=x.2/\x.2<=p+1500)/\Q (.ow 4 (e'.map r4)) (.ow 4 (x.1.map r4))/\Qr g (ak b q') g (ak b x.2))) (.own 4 (e'.map r4) u' f' k'))) (sV (aH.getD i []))) (.own 4 (e.map r4) u f k))) (ao aH)) ([47,47]:BL)) ([47,110,111,116,105,99,101]:BL)) (.ptr (.key 1000) [] g 0))
  Z7 ?_
 refine⟨rfl,trivial,?_⟩
 refine⟨⟨(0,[],p,0,0,0),?_,rfl,rfl,rfl,rfl,rfl,trivial⟩,?_⟩
 simp
 rintro⟨i,e,q,u,f,k⟩ ⟨h1,h2,h3,h4,h5⟩
 refine bI (fun j7=>?_) fun j7=>?_
 · refine⟨rfl,rfl,⟨Z9,Z9,Z9⟩,?_⟩
   intro C7 P3
   refine bI (fun l4=>?_) fun l4=>?_
   · refine⟨FQ (by show _<4;omega),trivial,by have:=cF (l:=aH) (n:=3) rfl i;simp only[ZW,ZU,ZQ];omega,by have:=cF (l:=aH) (n:=3) rfl i;simp only[ZW,ZU,ZQ];omega,rfl,rfl,⟨Z9,Z9⟩,?_⟩
     intro D1 RP
     refine⟨rfl,⟨by have:=RP.1;exact this,by have:=RP.2.1;exact this⟩,?_⟩
     intro Nc I3
     refine⟨rfl,rfl,⟨Z9,Z9,Z9⟩,?_⟩
     intro B3 V0
     refine⟨Jx Z0,trivial,?_⟩
     intro g6
     refine⟨rfl,rfl,rfl,⟨Z9,Z9,Z9⟩,?_⟩
     intro Nr Xo
     refine⟨fun m8=>?_,fun m8=>?_,fun y hy=>?_⟩
     · try simp only[nb]at m8
       refine⟨rfl,rfl,rfl,⟨Z9,Z9⟩,?_⟩
       intro D7 D9
       refine⟨rfl,?_⟩
       exact⟨((⟨(([47,47]:BL)++(aH.getD i []))++([47,110,111,116,105,99,101]:BL),[],D7.1,([0,0,0,1,2,5].getD B3 0)⟩:Pg),D7.2),⟨by(try have:=cF (l:=aH) (n:=3) rfl i);(try simp only[ZW,ZU,ZQ]);omega,by(try have:=cF (l:=aH) (n:=3) rfl i);(try simp only[ZW,ZU,ZQ]);omega,by(try have:=cF (l:=aH) (n:=3) rfl i);(try simp only[ZW,ZU,ZQ]);omega,oD rfl _,Z9,Z9,by(try dsimp only);repeat (first | assumption | exact D9.2.2.2 | exact E4.2.2.2 | exact E2.2.2.2 | exact aT | exact bn rfl | exact I3.2 | exact E3.2.2.2 | exact dP rfl i | apply m4.app),by(try dsimp only);repeat (first | assumption | exact D9.2.2.2 | exact E4.2.2.2 | exact E2.2.2.2 | exact aT | exact bn rfl | exact I3.2 | exact E3.2.2.2 | exact dP rfl i | apply m4.app),by(try dsimp only);repeat (first | assumption | exact D9.2.2.2 | exact E4.2.2.2 | exact E2.2.2.2 | exact aT | exact bn rfl | exact I3.2 | exact E3.2.2.2 | exact dP rfl i | apply m4.app)⟩,rfl,rfl,rfl,rfl,rfl,rfl,rfl,rfl,rfl,rfl,rfl,rfl,rfl,rfl,rfl,rfl,rfl,rfl,rfl,rfl,rfl,rfl,rfl,rfl,rfl,rfl,rfl,rfl,Z4,Z4,trivial⟩
     · try simp only[nb]at m8
       exact⟨((⟨(([47,47]:BL)++(aH.getD i []))++([47,110,111,116,105,99,101]:BL),Nc,[],([0,0,0,1,2,5].getD B3 0)⟩:Pg),(D1.2+1)+1),⟨by(try have:=cF (l:=aH) (n:=3) rfl i);(try simp only[ZW,ZU,ZQ]);omega,by(try have:=cF (l:=aH) (n:=3) rfl i);(try simp only[ZW,ZU,ZQ]);omega,by(try have:=cF (l:=aH) (n:=3) rfl i);(try simp only[ZW,ZU,ZQ]);omega,oD rfl _,Z9,Z9,by(try dsimp only);repeat (first | assumption | exact D9.2.2.2 | exact E4.2.2.2 | exact E2.2.2.2 | exact aT | exact bn rfl | exact I3.2 | exact E3.2.2.2 | exact dP rfl i | apply m4.app),by(try dsimp only);repeat (first | assumption | exact D9.2.2.2 | exact E4.2.2.2 | exact E2.2.2.2 | exact aT | exact bn rfl | exact I3.2 | exact E3.2.2.2 | exact dP rfl i | apply m4.app),by(try dsimp only);repeat (first | assumption | exact D9.2.2.2 | exact E4.2.2.2 | exact E2.2.2.2 | exact aT | exact bn rfl | exact I3.2 | exact E3.2.2.2 | exact dP rfl i | apply m4.app)⟩,rfl,rfl,rfl,rfl,rfl,rfl,rfl,rfl,rfl,rfl,rfl,rfl,rfl,rfl,rfl,rfl,rfl,rfl,rfl,rfl,rfl,rfl,rfl,rfl,rfl,rfl,rfl,rfl,Z4,Z4,trivial⟩
     refine⟨rfl,?_⟩
     refine bI (fun w7=>?_) fun w7=>?_
     refine⟨rfl,rfl,trivial,rfl,by simp[aC,V.n,V.ns],Z0,?_⟩
     intro Sm RA SC
     refine⟨Zo (V.own 4 · Sm RA SC) Z8,Z9,?_⟩
     refine⟨(i+1,e++[y.1],y.2,Sm,RA,SC),?_,?_,rfl,rfl,rfl,rfl,rfl,trivial⟩
     refine⟨Z9,by(try simp only[ZW,ZU,ZQ,ZM]);omega,fE h3 ⟨hy.1,Z9,hy.2.1,hy.2.2.2.1,hy.2.2.2.2.2.2.1,hy.2.2.2.2.2.2.2.1,hy.2.2.2.2.2.2.2.2⟩,Z9,Z9⟩
     exact Z1
     refine⟨Z9,?_⟩
     refine⟨(i+1,e,y.2,u,f,k),?_,?_,rfl,rfl,rfl,rfl,rfl,trivial⟩
     exact⟨Z9,Z9,h3,Z9,Z9⟩
     exact Z1
   refine⟨Z9,?_⟩
   refine⟨(i+1,e,q+1,u,f,k),?_,?_,rfl,rfl,rfl,rfl,rfl,trivial⟩
   exact⟨Z9,Z9,h3,Z9,Z9⟩
   exact Z1
 · refine⟨rfl,rfl,⟨Z9,Z9,Z9⟩,?_⟩
   intro MU V3
   refine⟨Z9,?_⟩
   refine⟨⟨(2+MU,e,q+1,u,f,k),?_,rfl,rfl,rfl,rfl,trivial⟩,?_⟩
   unfold eY
   exact⟨Z9,Z9,h3,Z9,Z9⟩
   rintro⟨n,e',q',u',f',k'⟩ ⟨k1,k2,k3,k4,k5⟩
   refine bI (fun G8=>?_) fun G8=>?_
   · refine⟨rfl,rfl,⟨Z9,Z9⟩,?_⟩
     intro C5 E4
     refine⟨rfl,rfl,⟨Z9,Z9⟩,?_⟩
     intro x7 E3
     refine⟨rfl,rfl,⟨Z9,Z9,Z9⟩,?_⟩
     intro B4 V2
     refine⟨Jx Z0,trivial,?_⟩
     intro g8
     refine⟨rfl,rfl,rfl,⟨Z9,Z9,Z9⟩,?_⟩
     intro L8 V1
     refine⟨fun MN=>?_,fun MN=>?_,fun y hy=>?_⟩
     · try simp only[nb]at MN
       refine⟨rfl,rfl,rfl,⟨Z9,Z9⟩,?_⟩
       intro K8 E2
       refine⟨rfl,?_⟩
       exact⟨((⟨C5.1,[],K8.1,([0,0,0,0,1,2,4].getD B4 0)⟩:Pg),K8.2),⟨⟨by(try have:=cF (l:=aH) (n:=3) rfl i);(try simp only[ZW,ZU,ZQ]);omega,by(try have:=cF (l:=aH) (n:=3) rfl i);(try simp only[ZW,ZU,ZQ]);omega,by(try have:=cF (l:=aH) (n:=3) rfl i);(try simp only[ZW,ZU,ZQ]);omega,oD rfl _,by(try dsimp only);repeat (first | assumption | exact D9.2.2.2 | exact E4.2.2.2 | exact E2.2.2.2 | exact aT | exact bn rfl | exact I3.2 | exact E3.2.2.2 | exact dP rfl i | apply m4.app),by(try dsimp only);repeat (first | assumption | exact D9.2.2.2 | exact E4.2.2.2 | exact E2.2.2.2 | exact aT | exact bn rfl | exact I3.2 | exact E3.2.2.2 | exact dP rfl i | apply m4.app),by(try dsimp only);repeat (first | assumption | exact D9.2.2.2 | exact E4.2.2.2 | exact E2.2.2.2 | exact aT | exact bn rfl | exact I3.2 | exact E3.2.2.2 | exact dP rfl i | apply m4.app)⟩,Z9,Z9⟩,rfl,rfl,rfl,rfl,rfl,rfl,rfl,rfl,rfl,rfl,rfl,rfl,rfl,rfl,rfl,rfl,rfl,rfl,rfl,Z4,Z4,trivial⟩
     · try simp only[nb]at MN
       exact⟨((⟨C5.1,x7.1,[],([0,0,0,0,1,2,4].getD B4 0)⟩:Pg),(x7.2+1)+1),⟨⟨by(try have:=cF (l:=aH) (n:=3) rfl i);(try simp only[ZW,ZU,ZQ]);omega,by(try have:=cF (l:=aH) (n:=3) rfl i);(try simp only[ZW,ZU,ZQ]);omega,by(try have:=cF (l:=aH) (n:=3) rfl i);(try simp only[ZW,ZU,ZQ]);omega,oD rfl _,by(try dsimp only);repeat (first | assumption | exact D9.2.2.2 | exact E4.2.2.2 | exact E2.2.2.2 | exact aT | exact bn rfl | exact I3.2 | exact E3.2.2.2 | exact dP rfl i | apply m4.app),by(try dsimp only);repeat (first | assumption | exact D9.2.2.2 | exact E4.2.2.2 | exact E2.2.2.2 | exact aT | exact bn rfl | exact I3.2 | exact E3.2.2.2 | exact dP rfl i | apply m4.app),by(try dsimp only);repeat (first | assumption | exact D9.2.2.2 | exact E4.2.2.2 | exact E2.2.2.2 | exact aT | exact bn rfl | exact I3.2 | exact E3.2.2.2 | exact dP rfl i | apply m4.app)⟩,Z9,Z9⟩,rfl,rfl,rfl,rfl,rfl,rfl,rfl,rfl,rfl,rfl,rfl,rfl,rfl,rfl,rfl,rfl,rfl,rfl,rfl,Z4,Z4,trivial⟩
     refine⟨rfl,⟨⟨⟨rfl,rfl,rfl⟩,Z8,ct (f:=r4) (fun _=>rfl) _,dU (f:=r4) (fun _=>rfl) _⟩,trivial⟩,by simp[ZL],Z5,?_⟩
     intro g9
     refine⟨rfl,fun hG=>rfl,⟨fun h=>by rw[h] <;> rfl,fun _=>rfl⟩,?_⟩
     refine bI (fun XN=>?_) fun XN=>?_
     refine⟨rfl,rfl,trivial,rfl,by simp[aC,V.n,V.ns],Z0,?_⟩
     intro Sb Rr Sr
     refine⟨Zo (V.own 4 · Sb Rr Sr) Z8,Z9,by simp[Q];omega,?_⟩
     refine⟨(n-1,e'++[y.1],y.2,Sb,Rr,Sr),?_,?_,rfl,rfl,rfl,rfl,trivial⟩
     unfold eY
     refine⟨by(try simp only[ZW,ZU,ZQ,ZM]);omega,.inl Z8,fE k3 hy.1,Z9,Z9⟩
     exact Z1
     refine⟨Z9,by simp[Q];omega,?_⟩
     refine⟨(n-1,e',y.2,u',f',k'),?_,?_,rfl,rfl,rfl,rfl,trivial⟩
     unfold eY
     have hyt:=hy.1.t
     have w8:(A3 e' y.fst.addr).snd=true:=by
      cases hh:(A3 e' y.fst.addr).snd with
      | true=>rfl
      | false=>have:=XN hh;omega
     exact⟨Z9,.inl (Hc w8),k3,Z9,Z9⟩
     exact Z1
   refine⟨rfl,?_⟩
   refine⟨(e',q'),?_,?_,?_⟩
   try dsimp only
   exact⟨Z9,Z9,k3,Z9,Z9⟩
   first | rfl | simp_all
   first | rfl | exact⟨rfl,rfl⟩ | simp_all)
def yw(b:BL)(p:Nat)(g:Nat):E7 Tryz.prog:=.mk (List Pg×Nat) 21 [.ptr (.key 1000) [] g 0] [(1000,(g,ak b p))] ((b.length<=2000)/\(p<=600000)) (fun x=>1<=x.1.length/\x.1.length<=30/\(∀ y,y∈x.1->n7 y)/\p<=x.2/\x.2<=p+1600) (fun x=>.ow 4 (x.1.map r4)) (fun x=>[(1000,(g,ak b x.2))]) (by
 rintro⟨hb,hp⟩
 have h0:∀ (l:List Pg),(∀ y,y∈l->n7 y)->n7 (l.getD 0 m0):=fun l h=>mb h 0
 refine eK (N:=51) (rs:=[.tmp 2]) (X:=List Pg×Nat) (post:=fun x=>1<=x.1.length/\x.1.length<=30/\(∀ y,y∈x.1->n7 y)/\p<=x.2/\x.2<=p+1600) (E:=fun x=>.ow 4 (x.1.map r4)) (H':=fun x=>[(1000,(g,.agg [.sl false (b.map m7),iN x.2]))]) Tryz.func21 Z7 rfl rfl rfl Z7 [(1000,(0,.b7))] (by intro _ k hk;simpa[lk] using hk)
  (.q 1<|.q 1<|.cx (sC b p g) [(1000,1000)] (fun (l3:List Pg×Nat)=>.q 1<|.ot 3 (fun g3 o3 c3=>.q 1<|.cx (aV b l3.2 g 16) [(1000,1000)] (fun (r5:Nat)=>.q 1<|.br (.q 2<|.h (.gg 2)<|.nil) (.q 1<|.cx (aV b (l3.2+1) g 5) [(1000,1000)] (fun (G':Nat)=>.q 2<|.br (.r 4 [bR ((l3.1.getD 0 m0).addr) ((l3.1.getD 0 m0).text) ((l3.1.getD 0 m0).lead) ((l3.1.getD 0 m0).l8)]<|.bs<|.ap (fun T4 Tx Ua=>.h (.o4 31 (.own 4 ((l3.1++[(l3.1.getD 0 m0)]).map r4) T4 Tx Ua))<|.q 1<|.nil)) (.q 2<|.br (.q 3<|.st (some (iV ((l3.1.getD 0 m0).l8)))<|.h (.o4 3 (.own 4 ((l3.1.set 0 (⟨(l3.1.getD 0 m0).addr,(l3.1.getD 0 m0).text,(l3.1.getD 0 m0).lead,10⟩:Pg)).map r4) g3 o3 c3))<|.q 2<|.h (.gg 2)<|.nil) (.q 2<|.br (.q 2<|.bs<|.cx (eH b ((l3.2+1)+1) g ([([47,47,65,66,47,97]:BL),[],([47,47,97,98]:BL)]:List BL)) [(1000,1000)] (fun (D6:BL)=>.q 2<|.st (some (sV ((l3.1.getD 0 m0).addr)))<|.h (.o4 3 (.own 4 ((l3.1.set 0 (⟨D6,(l3.1.getD 0 m0).text,(l3.1.getD 0 m0).lead,(l3.1.getD 0 m0).l8⟩:Pg)).map r4) g3 o3 c3))<|.q 2<|.h (.gg 2)<|.nil)) (.q 2<|.br (.q 3<|.st (some (sV ((l3.1.getD 0 m0).lead)))<|.h (.o4 3 (.own 4 ((l3.1.set 0 (⟨(l3.1.getD 0 m0).addr,(l3.1.getD 0 m0).text,([120]:BL),(l3.1.getD 0 m0).l8⟩:Pg)).map r4) g3 o3 c3))<|.q 2<|.h (.gg 2)<|.nil) (.q 1<|.loop (Nat×(List Pg)×Nat×Nat×Nat) (fun (j,e,u,f,k)=>⟨[(3,.own 4 (e.map r4) u f k),(4,iN j)],[(1000,(g,ak b ((l3.2+1)+1)))]⟩) (fun (j,e,u,f,k)=>j<=12/\1<=e.length/\e.length<=12+j/\(∀ y,y∈e->n7 y)) (fun (j,e,u,f,k)=>12-j) (fun (j,e,u,f,k)=>.q 2<|.br (.q 2<|.c (qA j) []<|.q 1<|.bd lX<|.bs<|.ap (fun g23 N4 Ot=>.h (.o4 23 (.own 4 ((e++[(⟨([47,47,97,98,47,122]:BL)++(dt j),[],[],0⟩:Pg)]).map r4) g23 N4 Ot))<|.q 1<|.q 3<|.nil)) (.q 2<|.h (.gg 2)<|.nil))))))))))))
  ((fun v1:BL=>(fun v2:BL=>(fun v3:BL=>(fun v4:BL=>((sC b p g).sm/\Er g (ak b p)/\((b.length<=2000)/\(p<=700000))/\∀ l3:List Pg×Nat,(1<=l3.1.length/\l3.1.length<=12/\(∀ y,y∈l3.1->n7 y)/\p<=l3.2/\l3.2<=p+1500)->(fun v5:Pg=>(fun v6:List V=>(fun v7:V=> ∀ g3 o3 c3:Nat,(fun v8:V=>(aV b l3.2 g 16).sm/\Er g (ak b l3.2)/\((b.length<=2000)/\(l3.2<=1000000)/\(16<=1000000))/\∀ r5:Nat,(16=0/\r5=0\/r5<16)->Br (s7 (r5:Int) 0) (((4,g3,o3,c3,(l3.1.map r4).length)=(4,g3,o3,c3,(l3.1.map r4).length))/\∃ x:List Pg×Nat,(1<=x.1.length/\x.1.length<=30/\(∀ y,y∈x.1->n7 y)/\p<=x.2/\x.2<=p+1600)/\Q (.ow 4 (l3.1.map r4)) (.ow 4 (x.1.map r4))/\Qr g (ak b (l3.2+1)) g (ak b x.2)) ((aV b (l3.2+1) g 5).sm/\Er g (ak b (l3.2+1))/\((b.length<=2000)/\((l3.2+1)<=1000000)/\(5<=1000000))/\∀ G':Nat,(5=0/\G'=0\/G'<5)->Br (o6 (G':Int) 0) (In 0 ((l3.1.map r4).length)/\(V.at g3 o3 v8 [0+0]=some (g3,(o3+(0+0)*4),bR (v5.addr) (v5.text) (v5.lead) (v5.l8)))/\((4,4,g3,o3,c3,(l3.1.map r4).length)=(4,4,g3,o3,c3,(l3.1.map r4).length))/\(True)/\(V.ay v6=false)/\(aC 4 v6)/\(((l3.1.map r4).length+v6.length)*56<=140737488355328)/\∀ T4 Tx Ua:Nat,((.own 4 ((l3.1.map r4)++v6) T4 Tx Ua:V)=.own 4 ((l3.1++[v5]).map r4) T4 Tx Ua)/\∃ x:List Pg×Nat,(1<=x.1.length/\x.1.length<=30/\(∀ y,y∈x.1->n7 y)/\p<=x.2/\x.2<=p+1600)/\Q (.ow 4 ((l3.1++[v5]).map r4)) (.ow 4 (x.1.map r4))/\Qr g v7 g (ak b x.2)) (Br (o6 (G':Int) 1) (In 0 ((l3.1.map r4).length)/\(V.at g3 o3 v8 [0+0,3]=some (g3,(o3+(0+0)*4+3),iV (v5.l8)))/\(V.set v8 [0+0,3] (iN 10)=.own 4 ((l3.1.set 0 (⟨v5.addr,v5.text,v5.lead,10⟩:Pg)).map r4) g3 o3 c3)/\((4,g3,o3,c3,((l3.1.set 0 (⟨v5.addr,v5.text,v5.lead,10⟩:Pg)).map r4).length)=(4,g3,o3,c3,((l3.1.set 0 (⟨v5.addr,v5.text,v5.lead,10⟩:Pg)).map r4).length))/\∃ x:List Pg×Nat,(1<=x.1.length/\x.1.length<=30/\(∀ y,y∈x.1->n7 y)/\p<=x.2/\x.2<=p+1600)/\Q (.ow 4 ((l3.1.set 0 (⟨v5.addr,v5.text,v5.lead,10⟩:Pg)).map r4)) (.ow 4 (x.1.map r4))/\Qr g v7 g (ak b x.2)) (Br (o6 (G':Int) 2) ((eH b ((l3.2+1)+1) g ([v2,[],v3]:List BL)).sm/\Er g v7/\((b.length<=2000)/\(((l3.2+1)+1)<=1000000)/\(1<=([v2,[],v3]:List BL).length)/\(([v2,[],v3]:List BL).length<=1000))/\∀ D6:BL,(D6∈([v2,[],v3]:List BL))->In 0 ((l3.1.map r4).length)/\(V.at g3 o3 v8 [0+0,0]=some (g3,(o3+(0+0)*4+0),sV (v5.addr)))/\(V.set v8 [0+0,0] (sV D6)=.own 4 ((l3.1.set 0 (⟨D6,v5.text,v5.lead,v5.l8⟩:Pg)).map r4) g3 o3 c3)/\((4,g3,o3,c3,((l3.1.set 0 (⟨D6,v5.text,v5.lead,v5.l8⟩:Pg)).map r4).length)=(4,g3,o3,c3,((l3.1.set 0 (⟨D6,v5.text,v5.lead,v5.l8⟩:Pg)).map r4).length))/\∃ x:List Pg×Nat,(1<=x.1.length/\x.1.length<=30/\(∀ y,y∈x.1->n7 y)/\p<=x.2/\x.2<=p+1600)/\Q (.ow 4 ((l3.1.set 0 (⟨D6,v5.text,v5.lead,v5.l8⟩:Pg)).map r4)) (.ow 4 (x.1.map r4))/\Qr g (ak b (((l3.2+1)+1)+1)) g (ak b x.2)) (Br (o6 (G':Int) 3) (In 0 ((l3.1.map r4).length)/\(V.at g3 o3 v8 [0+0,2]=some (g3,(o3+(0+0)*4+2),sV (v5.lead)))/\(V.set v8 [0+0,2] (sV v4)=.own 4 ((l3.1.set 0 (⟨v5.addr,v5.text,v4,v5.l8⟩:Pg)).map r4) g3 o3 c3)/\((4,g3,o3,c3,((l3.1.set 0 (⟨v5.addr,v5.text,v4,v5.l8⟩:Pg)).map r4).length)=(4,g3,o3,c3,((l3.1.set 0 (⟨v5.addr,v5.text,v4,v5.l8⟩:Pg)).map r4).length))/\∃ x:List Pg×Nat,(1<=x.1.length/\x.1.length<=30/\(∀ y,y∈x.1->n7 y)/\p<=x.2/\x.2<=p+1600)/\Q (.ow 4 ((l3.1.set 0 (⟨v5.addr,v5.text,v4,v5.l8⟩:Pg)).map r4)) (.ow 4 (x.1.map r4))/\Qr g v7 g (ak b x.2)) ((∃ x:Nat×(List Pg)×Nat×Nat×Nat,match x with | (OD,C8,G3,x9,r9)=>(OD<=12/\1<=C8.length/\C8.length<=12+OD/\(∀ y,y∈C8->n7 y))/\Q v8 (.own 4 (C8.map r4) G3 x9 r9)/\Q (iN 0) (iN OD)/\Er g v7/\True)/\∀ x:Nat×(List Pg)×Nat×Nat×Nat,match x with | (j,e,u,f,k)=>(j<=12/\1<=e.length/\e.length<=12+j/\(∀ y,y∈e->n7 y))->(fun v9:List V=>Br (s4 (j:Int) 12) ((qA j).sm/\((j<=1000000))/\(v1.length+(dt j).length<=4611686018427387904)/\((4,4,u,f,k,(e.map r4).length)=(4,4,u,f,k,(e.map r4).length))/\(True)/\(V.ay v9=false)/\(aC 4 v9)/\(((e.map r4).length+v9.length)*56<=140737488355328)/\∀ g23 N4 Ot:Nat,((.own 4 ((e.map r4)++v9) g23 N4 Ot:V)=.own 4 ((e++[(⟨v1++(dt j),[],[],0⟩:Pg)]).map r4) g23 N4 Ot)/\m6 ((j:Int)+1)/\∃ x:Nat×(List Pg)×Nat×Nat×Nat,match x with | (L',w3,A6,o9,k₂)=>(L'<=12/\1<=w3.length/\w3.length<=12+L'/\(∀ y,y∈w3->n7 y))/\(12-L'<12-j)/\Q (.own 4 ((e++[(⟨v1++(dt j),[],[],0⟩:Pg)]).map r4) g23 N4 Ot) (.own 4 (w3.map r4) A6 o9 k₂)/\Q (iN (j+1)) (iN L')/\Er g v7/\True) (((4,u,f,k,(e.map r4).length)=(4,u,f,k,(e.map r4).length))/\∃ x:List Pg×Nat,(1<=x.1.length/\x.1.length<=30/\(∀ y,y∈x.1->n7 y)/\p<=x.2/\x.2<=p+1600)/\Q (.ow 4 (e.map r4)) (.ow 4 (x.1.map r4))/\Qr g v7 g (ak b x.2))) ([.agg [sV (v1++(dt j)),sV [],sV [],iN 0]]:List V))))))) (.own 4 (l3.1.map r4) g3 o3 c3)) (ak b ((l3.2+1)+1))) ([bR (v5.addr) (v5.text) (v5.lead) (v5.l8)]:List V)) (l3.1.getD 0 m0))) ([120]:BL)) ([47,47,97,98]:BL)) ([47,47,65,66,47,97]:BL)) ([47,47,97,98,47,122]:BL))
  Z7 ?_
 refine⟨rfl,rfl,⟨Z9,Z9⟩,?_⟩
 intro l3 G5
 intro g3 o3 c3
 refine⟨rfl,rfl,⟨Z9,Z9,Z9⟩,?_⟩
 intro r5 MB
 refine bI (fun j7=>?_) fun j7=>?_
 refine⟨rfl,?_⟩
 refine⟨(l3.1,l3.2+1),?_,?_,?_⟩
 try dsimp only
 exact⟨Z9,Z9,G5.2.2.1,Z9,Z9⟩
 first | rfl | simp_all
 first | rfl | exact⟨rfl,rfl⟩ | simp_all
 refine⟨rfl,rfl,⟨Z9,Z9,Z9⟩,?_⟩
 intro G' Uy
 refine bI (fun l4=>?_) fun l4=>?_
 refine⟨Z2,fC (by rw[ZO];exact aj (d:=m0) Z9),rfl,trivial,rfl,by simp[aC,V.n,V.ns],Z0,?_⟩
 intro T4 Tx Ua
 refine⟨Zo (V.own 4 · T4 Tx Ua) Z8,?_⟩
 refine⟨(l3.1++[(l3.1.getD 0 m0)],(l3.2+1)+1),?_,?_,?_⟩
 try dsimp only
 exact⟨Z8,Z0,fE G5.2.2.1 (h0 _ G5.2.2.1),Z9,Z9⟩
 first | rfl | simp_all
 first | rfl | exact⟨rfl,rfl⟩ | simp_all
 refine bI (fun m8=>?_) fun m8=>?_
 refine⟨Z2,az (by rw[ZO];exact aj (d:=m0) Z9) rfl,aP (x:=.agg [sV ((l3.1.getD 0 m0).addr),sV ((l3.1.getD 0 m0).text),sV ((l3.1.getD 0 m0).lead),iV ((l3.1.getD 0 m0).l8)]) (by rw[ZO];exact aj (d:=m0) Z9) (List.map_set (f:=r4) (l:=l3.1) (i:=0) (a:=(⟨(l3.1.getD 0 m0).addr,(l3.1.getD 0 m0).text,(l3.1.getD 0 m0).lead,10⟩:Pg))).symm,rfl,?_⟩
 refine⟨(l3.1.set 0 (⟨(l3.1.getD 0 m0).addr,(l3.1.getD 0 m0).text,(l3.1.getD 0 m0).lead,10⟩:Pg),(l3.2+1)+1),?_,?_,?_⟩
 try dsimp only
 have hz:=h0 _ G5.2.2.1
 exact⟨Z0,Z0,uE G5.2.2.1 ⟨hz.a,hz.t,hz.l,Z8,hz.aa,hz.la,hz.ta⟩,Z9,Z9⟩
 first | rfl | simp_all
 first | rfl | exact⟨rfl,rfl⟩ | simp_all
 refine bI (fun w7=>?_) fun w7=>?_
 refine⟨rfl,rfl,⟨Z9,Z9,Z8,Z8⟩,?_⟩
 intro D6 w6
 refine⟨Z2,az (by rw[ZO];exact aj (d:=m0) Z9) rfl,aP (x:=.agg [sV ((l3.1.getD 0 m0).addr),sV ((l3.1.getD 0 m0).text),sV ((l3.1.getD 0 m0).lead),iV ((l3.1.getD 0 m0).l8)]) (by rw[ZO];exact aj (d:=m0) Z9) (List.map_set (f:=r4) (l:=l3.1) (i:=0) (a:=(⟨D6,(l3.1.getD 0 m0).text,(l3.1.getD 0 m0).lead,(l3.1.getD 0 m0).l8⟩:Pg))).symm,rfl,?_⟩
 refine⟨(l3.1.set 0 (⟨D6,(l3.1.getD 0 m0).text,(l3.1.getD 0 m0).lead,(l3.1.getD 0 m0).l8⟩:Pg),((l3.2+1)+1)+1),?_,?_,?_⟩
 try dsimp only
 have hz:=h0 _ G5.2.2.1
 exact⟨Z0,Z0,uE G5.2.2.1 ⟨bC rfl w6,hz.t,hz.l,hz.f,dp rfl w6,hz.la,hz.ta⟩,Z9,Z9⟩
 first | rfl | simp_all
 first | rfl | exact⟨rfl,rfl⟩ | simp_all
 refine bI (fun G8=>?_) fun G8=>?_
 refine⟨Z2,az (by rw[ZO];exact aj (d:=m0) Z9) rfl,aP (x:=.agg [sV ((l3.1.getD 0 m0).addr),sV ((l3.1.getD 0 m0).text),sV ((l3.1.getD 0 m0).lead),iV ((l3.1.getD 0 m0).l8)]) (by rw[ZO];exact aj (d:=m0) Z9) (List.map_set (f:=r4) (l:=l3.1) (i:=0) (a:=(⟨(l3.1.getD 0 m0).addr,(l3.1.getD 0 m0).text,([120]:BL),(l3.1.getD 0 m0).l8⟩:Pg))).symm,rfl,?_⟩
 refine⟨(l3.1.set 0 (⟨(l3.1.getD 0 m0).addr,(l3.1.getD 0 m0).text,([120]:BL),(l3.1.getD 0 m0).l8⟩:Pg),(l3.2+1)+1),?_,?_,?_⟩
 try dsimp only
 have hz:=h0 _ G5.2.2.1
 exact⟨Z0,Z0,uE G5.2.2.1 ⟨hz.a,hz.t,Z8,hz.f,hz.aa,bn rfl,hz.ta⟩,Z9,Z9⟩
 first | rfl | simp_all
 first | rfl | exact⟨rfl,rfl⟩ | simp_all
 refine⟨⟨(0,l3.1,g3,o3,c3),?_,rfl,rfl,rfl,trivial⟩,?_⟩
 exact⟨Z9,Z9,Z9,G5.2.2.1⟩
 rintro⟨j,e,u,f,k⟩ ⟨h1,h2,h3,h4⟩
 refine bI (fun MN=>?_) fun MN=>?_
 refine⟨rfl,Z9,by have:=oG j Z9;simp only[ZW,ZU,ZQ];omega,rfl,trivial,rfl,by simp[aC,V.n,V.ns],Z0,?_⟩
 intro g23 N4 Ot
 refine⟨Zo (V.own 4 · g23 N4 Ot) Z8,Z9,?_⟩
 refine⟨(j+1,e++[(⟨([47,47,97,98,47,122]:BL)++(dt j),[],[],0⟩:Pg)],g23,N4,Ot),?_,?_,rfl,rfl,rfl,trivial⟩
 have hd:=oG j Z9
 refine⟨Z9,Z8,Z0,fE h4 ⟨?_,Z8,Z8,Z8,(bn rfl).app (jP j),aT,aT⟩⟩
 simp only[ZW,ZU,ZQ];omega
 exact Z1
 refine⟨rfl,?_⟩
 refine⟨(e,(l3.2+1)+1),?_,?_,?_⟩
 try dsimp only
 exact⟨Z9,Z9,h4,Z9,Z9⟩
 first | rfl | simp_all
 first | rfl | exact⟨rfl,rfl⟩ | simp_all)
def vV(b:BL)(p:Nat)(g:Nat):E7 Tryz.prog:=.mk BL 22 [.ptr (.key 1000) [] g 0] [(1000,(g,ak b p))] ((b.length<=2000)/\(p<=900000)) (fun x=>x.length<=5/\bp x=true) (fun x=>sV x) (fun x=>[(1000,(g,ak b (p+1)))]) (by
 rintro⟨hb,hp⟩
 refine eK (N:=6) (rs:=[.tmp 2]) (X:=BL) (post:=fun x=>x.length<=5/\bp x=true) (E:=fun x=>sV x) (H':=fun x=>[(1000,(g,.agg [.sl false (b.map m7),iN (p+1)]))]) Tryz.func22 Z7 rfl rfl rfl Z7 [(1000,(0,.b7))] (by intro _ k hk;simpa[lk] using hk)
  (.q 1<|.q 1<|.bs<|.cx (eH b p g ([([114,111,118,101,114]:BL),([114,111,118,101,114]:BL),([115,99,111,117,116]:BL),([111,116,104,101,114]:BL)]:List BL)) [(1000,1000)] (fun (y7:BL)=>.q 1<|.nil))
  ((fun v1:BL=>(fun v2:BL=>(fun v3:BL=>((eH b p g ([v1,v1,v3,v2]:List BL)).sm/\Er g (ak b p)/\((b.length<=2000)/\(p<=1000000)/\(1<=([v1,v1,v3,v2]:List BL).length)/\(([v1,v1,v3,v2]:List BL).length<=1000))/\∀ y7:BL,(y7∈([v1,v1,v3,v2]:List BL))->∃ x:BL,(x.length<=5/\bp x=true)/\Q (sV y7) (sV x)/\Er g (ak b (p+1)))) ([115,99,111,117,116]:BL)) ([111,116,104,101,114]:BL)) ([114,111,118,101,114]:BL))
  Z7 ?_
 refine⟨rfl,rfl,⟨Z9,Z9,Z8,Z8⟩,?_⟩
 intro y7 OY
 refine⟨y7,?_,?_,?_⟩
 try dsimp only
 exact⟨bC rfl OY,ZI.1 (show (List.all _ bp)=true from rfl) _ OY⟩
 first | rfl | simp_all
 first | rfl | exact⟨rfl,rfl⟩ | simp_all)
def sf(b:BL)(p:Nat)(g:Nat)(w:List Pg):E7 Tryz.prog:=.mk (BL×Nat) 46 [.ptr (.key 1000) [] g 0,bQ w] [(1000,(g,ak b p))] ((b.length<=2000)/\(p<=800000)/\(w.length<=30)/\(∀ y,y∈w->n7 y)) (fun x=>x.1.length<=30/\p<=x.2/\x.2<=p+8/\m4 x.1) (fun x=>sV x.1) (fun x=>[(1000,(g,ak b x.2))]) (by
 rintro⟨hb,hp,hw,hy⟩
 refine eK (N:=23) (rs:=[.tmp 4]) (X:=BL×Nat) (post:=fun x=>x.1.length<=30/\p<=x.2/\x.2<=p+8/\m4 x.1) (E:=fun x=>sV x.1) (H':=fun x=>[(1000,(g,.agg [.sl false (b.map m7),iN x.2]))]) Tryz.func46 Z7 rfl rfl rfl Z7 [(1000,(0,.b7))] (by intro _ k hk;simpa[lk] using hk)
  (.q 1<|.q 3<|.sp (s7 (((w.map r4).length:Nat):Int) 0) (.h (.o4 7 (bV true))<|.q 1<|.gt<|.q 1<|.gt<|.cx (aV b p g 3) [(1000,1000)] (fun (PO:Nat)=>.gt<|.q 2<|.br (.q 4<|.cx (aV b (p+1) g ((w.map r4).length)) [(1000,1000)] (fun (F9:Nat)=>.r 4 [bR ((w.getD F9 m0).addr) ((w.getD F9 m0).text) ((w.getD F9 m0).lead) ((w.getD F9 m0).l8)]<|.nil)) (.q 1<|.cx (dY b (p+1) g) [(1000,1000)] (fun (j6:BL×Nat)=>.q 1<|.nil)))) (.h (.o4 7 (bV false))<|.q 1<|.gf (.b7)<|.gf (.b7)<|.gf (bV false)<|.q 1<|.br (.q 4<|.cx (aV b p g ((w.map r4).length)) [(1000,1000)] (fun (F9:Nat)=>.r 4 [bR ((w.getD F9 m0).addr) ((w.getD F9 m0).text) ((w.getD F9 m0).lead) ((w.getD F9 m0).l8)]<|.nil)) (.q 1<|.cx (dY b p g) [(1000,1000)] (fun (j6:BL×Nat)=>.q 1<|.nil))))
  ((fun v1:Bool=>((v1=true->((bV v1:V)=bV true)/\(true=true)/\(true=true)/\(aV b p g 3).sm/\Er g (ak b p)/\((b.length<=2000)/\(p<=1000000)/\(3<=1000000))/\∀ PO:Nat,(3=0/\PO=0\/PO<3)->(true=true)/\Pk true true true/\Br (true&&(s7 (PO:Int) 0)) ((aV b (p+1) g ((w.map r4).length)).sm/\Er g (ak b (p+1))/\((b.length<=2000)/\((p+1)<=1000000)/\(((w.map r4).length)<=1000000))/\∀ F9:Nat,(((w.map r4).length)=0/\F9=0\/F9<((w.map r4).length))->(fun v2:Pg=>Ex (F9:Int) (w.map r4) (bR (v2.addr) (v2.text) (v2.lead) (v2.l8))/\True/\∃ x:BL×Nat,(x.1.length<=30/\p<=x.2/\x.2<=p+8/\m4 x.1)/\Q (sV (v2.addr)) (sV x.1)/\Qr g (ak b ((p+1)+1)) g (ak b x.2)) (w.getD F9 m0)) ((dY b (p+1) g).sm/\Er g (ak b (p+1))/\((b.length<=2000)/\((p+1)<=900000))/\∀ j6:BL×Nat,(j6.1.length<=25/\(p+1)<=j6.2/\j6.2<=(p+1)+6/\m4 j6.1)->∃ x:BL×Nat,(x.1.length<=30/\p<=x.2/\x.2<=p+8/\m4 x.1)/\Q (sV j6.1) (sV x.1)/\Qr g (ak b j6.2) g (ak b x.2)))/\(v1=false->((bV v1:V)=bV false)/\(false=false)/\(false=false)/\(false=false)/\Pk false false true/\Br (false&&false) ((aV b p g ((w.map r4).length)).sm/\Er g (ak b p)/\((b.length<=2000)/\(p<=1000000)/\(((w.map r4).length)<=1000000))/\∀ F9:Nat,(((w.map r4).length)=0/\F9=0\/F9<((w.map r4).length))->(fun v3:Pg=>Ex (F9:Int) (w.map r4) (bR (v3.addr) (v3.text) (v3.lead) (v3.l8))/\True/\∃ x:BL×Nat,(x.1.length<=30/\p<=x.2/\x.2<=p+8/\m4 x.1)/\Q (sV (v3.addr)) (sV x.1)/\Qr g (ak b (p+1)) g (ak b x.2)) (w.getD F9 m0)) ((dY b p g).sm/\Er g (ak b p)/\((b.length<=2000)/\(p<=900000))/\∀ j6:BL×Nat,(j6.1.length<=25/\p<=j6.2/\j6.2<=p+6/\m4 j6.1)->∃ x:BL×Nat,(x.1.length<=30/\p<=x.2/\x.2<=p+8/\m4 x.1)/\Q (sV j6.1) (sV x.1)/\Qr g (ak b j6.2) g (ak b x.2))))) (s7 (((w.map r4).length:Nat):Int) 0))
  Z7 ?_
 refine⟨fun N9=>?_,fun N9=>?_⟩
 have Qb:=N9
 try simp only[nb]at Qb
 refine⟨Zo bV N9,rfl,rfl,rfl,rfl,⟨Z9,Z9,Z9⟩,?_⟩
 intro PO Xt
 refine⟨rfl,⟨fun h=>by first | exact h | rfl,fun _=>rfl⟩,?_⟩
 refine bI (fun j7=>?_) fun j7=>?_
 refine⟨rfl,rfl,⟨Z9,Z9,by simp only[ZM];omega⟩,?_⟩
 intro F9 UA
 simp only[ZM]at UA
 refine⟨⟨Z9,aj (d:=m0) Z9⟩,trivial,?_⟩
 refine⟨((w.getD F9 m0).addr,(p+1)+1),?_,?_,?_⟩
 try dsimp only
 exact⟨(mb hy _).a,Z9,Z9,(mb hy _).aa⟩
 first | rfl | simp_all
 first | rfl | exact⟨rfl,rfl⟩ | simp_all
 refine⟨rfl,rfl,⟨Z9,Z9⟩,?_⟩
 intro j6 A8
 refine⟨(j6.1,j6.2),?_,?_,?_⟩
 try dsimp only
 exact⟨Z9,Z9,Z9,by first | exact OX.2.2.2 | (rename_i hq;exact hq.2.2.2) | (apply And.right;apply And.right;apply And.right;assumption)⟩
 first | rfl | simp_all
 first | rfl | exact⟨rfl,rfl⟩ | simp_all
 · have Qb:=N9
   try simp only[nb]at Qb
   refine⟨Zo bV N9,rfl,rfl,rfl,⟨fun h=>by first | exact h | rfl,fun _=>rfl⟩,?_⟩
   refine bI (fun l4=>?_) fun l4=>?_
   · all_goals (simp at l4)
   refine⟨rfl,rfl,⟨Z9,Z9⟩,?_⟩
   intro j6 A8
   refine⟨(j6.1,j6.2),?_,?_,?_⟩
   try dsimp only
   exact⟨Z9,Z9,Z9,by first | exact OX.2.2.2 | (rename_i hq;exact hq.2.2.2) | (apply And.right;apply And.right;apply And.right;assumption)⟩
   first | rfl | simp_all
   first | rfl | exact⟨rfl,rfl⟩ | simp_all)
theorem pw{α:Type}{l:List α}(h:1<=l.length):l≠[]:=by rintro rfl;simp at h
theorem tf{P:Nat->Prop}{k:Nat}(h:∀ q,q<k->P q)(hk:P k):∀ q,q<k+1->P q:=fun q hq=>by
 rcases Nat.lt_succ_iff_lt_or_eq.1 hq with h' | rfl
 exact h q h'
 exact hk
abbrev hX(w:List Pg)(i:Nat):Prop:=i<=w.length/\∀ j,j<i->dq (w.getD j m0)=true/\∀ k,k<j->(w.getD k m0).addr≠(w.getD j m0).addr
def vW(w:List Pg):o8 Tryz.prog:=.mk 26 [bQ w] [] ((w.length<=1000)/\(∀ i,(w.getD i m0).addr.length<=1000000/\(w.getD i m0).lead.length<=1000000)) (bV (av w)) [] (by
 rintro⟨hw,hz⟩
 refine aq (N:=80) (rs:=[.tmp 2]) Tryz.func26
  (.q 1<|.q 1<|.loop (Nat) (fun (i:Nat)=>⟨[(0,bQ w),(3,iN i)],[]⟩) (fun (i:Nat)=>hX w i) (fun (i:Nat)=>w.length-i) (fun (i:Nat)=>.q 4<|.br (.r 5 [bR ((w.getD i m0).addr) ((w.getD i m0).text) ((w.getD i m0).lead) ((w.getD i m0).l8)]<|.c (jd ((w.getD i m0).addr)) []<|.r 16 [bR ((w.getD i m0).addr) ((w.getD i m0).text) ((w.getD i m0).lead) ((w.getD i m0).l8),bR ((w.getD i m0).addr) ((w.getD i m0).text) ((w.getD i m0).lead) ((w.getD i m0).l8)]<|.cg (kA ((w.getD i m0).l8) (0:Int) (9:Int))<|.r 22 [bR ((w.getD i m0).addr) ((w.getD i m0).text) ((w.getD i m0).lead) ((w.getD i m0).l8),bR ((w.getD i m0).addr) ((w.getD i m0).text) ((w.getD i m0).lead) ((w.getD i m0).l8),bR ((w.getD i m0).addr) ((w.getD i m0).text) ((w.getD i m0).lead) ((w.getD i m0).l8)]<|.cg (jd ((w.getD i m0).lead))<|.q 4<|.br (.q 1<|.nil) (.q 1<|.loop (Nat) (fun (k:Nat)=>⟨[(0,bQ w),(3,iN i),(4,iN k)],[]⟩) (fun (k:Nat)=>k<=i/\∀ q,q<k->(w.getD q m0).addr≠(w.getD i m0).addr) (fun (k:Nat)=>i-k) (fun (k:Nat)=>.q 3<|.br (.dx 11 [0,1,2,3,4,5,6,7,8,9,10] [(4,⟨false,[],some [],[70],[]⟩),(9,⟨false,[],some [],[75],[]⟩)] []<|.q 1<|.q 1<|.r 1 [bR ((w.getD k m0).addr) ((w.getD k m0).text) ((w.getD k m0).lead) ((w.getD k m0).l8)]<|.q 1<|.q 1<|.q 1<|.q 1<|.r 1 [bR ((w.getD i m0).addr) ((w.getD i m0).text) ((w.getD i m0).lead) ((w.getD i m0).l8)]<|.q 1<|.q 1<|.q 1<|.br (.q 1<|.nil) (.q 3<|.nil)) (.q 3<|.nil)))) (.q 4<|.nil)))
  ((∃ h9:Nat,(hX w h9)/\E (bQ w)/\Q (iN 0) (iN h9)/\True)/\∀ i:Nat,(hX w i)->(fun v2:Pg=>(fun v9:Bool=>(fun v4:Bool=>(fun v5:Bool=>(fun v1:Bool=>(fun v3:V=>(fun v6:Bool=>(fun v7:Bool=>(fun v8:Bool=>Br (s4 (i:Int) (((w.map r4).length:Nat):Int)) (Ex (i:Int) (w.map r4) v3/\True/\(jd (v2.addr)).sm/\(((v2.addr).length<=4611686018427387904))/\Gd (v5==false) (Ex (i:Int) (w.map r4) v3)/\Gd (v5==false) True/\Pk v5 true (v5==false)/\Gd v8 (Ex (i:Int) (w.map r4) v3)/\Gd v8 True/\Gd v8 ((True)/\(kA (v2.l8) (0:Int) (9:Int)).sm)/\Pk (v5||v4) true v8/\Gd v1 (Ex (i:Int) (w.map r4) v3)/\Gd v1 True/\Gd (v1&&(v6==true)) (Ex (i:Int) (w.map r4) v3)/\Gd (v1&&(v6==true)) True/\Gd ((v1&&(v6==true))&&(v7==false)) (Ex (i:Int) (w.map r4) v3)/\Gd ((v1&&(v6==true))&&(v7==false)) True/\Gd ((v1&&(v6==true))&&(v7==false)) ((((v2.lead).length<=4611686018427387904))/\(jd (v2.lead)).sm)/\Gd (v1&&(v6==true)) (Pk v7 true ((v1&&(v6==true))&&(v7==false)))/\Gd v1 (Pk v6 (v1&&(v6==true)) true)/\Pk ((v5||v4)||v9) true v1/\Br (((v5||v4)||v9)||(v6&&(v7||(!(aD (v2.lead)))))) (Q (bV false) (bV (av w))) ((∃ r9:Nat,(r9<=i/\∀ q,q<r9->(w.getD q m0).addr≠v2.addr)/\E (bQ w)/\E (iN i)/\Q (iN 0) (iN r9)/\True)/\∀ k:Nat,(k<=i/\∀ q,q<k->(w.getD q m0).addr≠v2.addr)->Br (s4 (k:Int) (i:Int)) (Ex (k:Int) (w.map r4) (bR ((w.getD k m0).addr) ((w.getD k m0).text) ((w.getD k m0).lead) ((w.getD k m0).l8))/\True/\Ex (i:Int) (w.map r4) v3/\True/\Br (((w.getD k m0).addr)==(v2.addr)) (Q (bV false) (bV (av w))) (m6 ((k:Int)+1)/\∃ k₂:Nat,(k₂<=i/\∀ q,q<k₂->(w.getD q m0).addr≠v2.addr)/\(i-k₂<i-k)/\E (bQ w)/\E (iN i)/\Q (iN (k+1)) (iN k₂)/\True)) (m6 ((i:Int)+1)/\∃ b9:Nat,(hX w b9)/\(w.length-b9<w.length-i)/\E (bQ w)/\Q (iN (i+1)) (iN b9)/\True))) (Q (bV (C6 (((w.map r4).length:Nat):Int) 12)) (bV (av w)))) ((v5||v4)==false)) (!((v2.text)==[]))) (!((v2.lead)==[]))) (bR (v2.addr) (v2.text) (v2.lead) (v2.l8))) (((v5||v4)||v9)==false)) (!(aD (v2.addr)))) (s7 (((v2.text).length:Nat):Int) 300)) (!(z8 (v2.l8) (0:Int) (9:Int)))) (w.getD i m0)) ?_
 refine⟨⟨0,?_,rfl,rfl,trivial⟩,?_⟩
 unfold hX
 simp
 rintro i ⟨h1,h2⟩
 refine bI (fun j7=>?_) fun j7=>?_
 refine⟨⟨Z9,aj (d:=m0) Z9⟩,trivial,rfl,by have:=hz i;omega,fun hG=>⟨Z9,aj (d:=m0) Z9⟩,fun hG=>trivial,⟨fun _=>rfl,fun h=>by rw[h] <;> rfl⟩,fun hG=>⟨Z9,aj (d:=m0) Z9⟩,fun hG=>trivial,fun hG=>⟨trivial,rfl⟩,⟨fun _=>rfl,fun h=>by rw[h] <;> rfl⟩,fun hG=>⟨Z9,aj (d:=m0) Z9⟩,fun hG=>trivial,fun hG=>⟨Z9,aj (d:=m0) Z9⟩,fun hG=>trivial,fun hG=>⟨Z9,aj (d:=m0) Z9⟩,fun hG=>trivial,fun hG=>⟨by(try simp only[nb]at hG);have:=hz i;omega,rfl⟩,fun hG=>⟨fun _=>rfl,fun h=>by rw[h];exact(ZX _ _).mpr ⟨hG,rfl⟩⟩,fun hG=>⟨fun h=>by rw[h];exact(ZX _ _).mpr ⟨hG,rfl⟩,fun _=>rfl⟩,⟨fun _=>rfl,fun h=>by rw[h] <;> rfl⟩,?_⟩
 refine bI (fun l4=>?_) fun l4=>?_
 unfold Q
 rw[vI (i:=i) Z9 (fun h=>by rw[IZ l4]at h;exact absurd h.1 Z6)]
 refine⟨⟨0,?_,rfl,rfl,rfl,trivial⟩,?_⟩
 simp
 rintro k ⟨h3,h4⟩
 refine bI (fun m8=>?_) fun m8=>?_
 refine⟨⟨Z9,aj (d:=m0) Z9⟩,trivial,⟨Z9,aj (d:=m0) Z9⟩,trivial,?_⟩
 refine bI (fun w7=>?_) fun w7=>?_
 unfold Q
 rw[vI (i:=i) Z9 (fun h=>h.2 k Z9 w7)]
 refine⟨Z9,?_⟩
 refine⟨k+1,?_,?_,rfl,rfl,rfl,trivial⟩
 exact⟨Z9,tf h4 w7⟩
 exact Z1
 refine⟨Z9,?_⟩
 refine⟨i+1,?_,?_,rfl,rfl,trivial⟩
 unfold hX
 exact⟨Z9,tf h2 ⟨Jm l4,fun k' K3=>h4 k' Z9⟩⟩
 exact Z1
 unfold Q
 rw[Bf (fun j hj=>h2 j Z9),ZM]
 refine Zo bV ?_
 unfold C6
 rw[ZE];simp;omega)
def kb(s:BL)(p:BL):o8 Tryz.prog:=.mk 178 [sV s,sV p] [] ((s.length<=4611686018427387904)/\(p.length<=4611686018427387904)) (bV (eI s p)) [] (by
 rintro⟨hs,hp⟩
 refine aq (N:=18) (rs:=[.tmp 4]) Tryz.func178
  (.q 1<|.q 14<|.nil)
  ((fun v1:Bool=>(Gd (v1==true) (Sx (0:Int) (p.length:Int) s)/\Pk v1 (v1==true) true/\Q (bV (v1&&(((s.take p.length).drop ((0:Int).toNat))==p))) (bV (eI s p)))) (x6 (s.length:Int) (p.length:Int))) ?_
 refine⟨fun hG=>by(try simp only[nb]at hG);omega,⟨fun h=>by rw[h] <;> rfl,fun _=>rfl⟩,?_⟩
 unfold Q
 refine Zo bV ?_
 unfold eI
 rw[ZE];simp)
def jU(s:BL)(p:BL):o8 Tryz.prog:=.mk 183 [sV s,sV p] [] ((s.length<=4611686018427387904)/\(p.length<=4611686018427387904)) (bV (fO s p)) [] (by
 rintro⟨hs,hp⟩
 refine aq (N:=21) (rs:=[.tmp 4]) Tryz.func183
  (.q 1<|.q 17<|.nil)
  ((fun v1:Bool=>(Gd (v1==true) (m6 ((s.length:Int)-(p.length:Int)))/\Gd (v1==true) (Sx ((s.length:Int)-(p.length:Int)) (s.length:Int) s)/\Pk v1 (v1==true) true/\Q (bV (v1&&(((s.take s.length).drop (Int.toNat ((s.length:Int)-(p.length:Int))))==p))) (bV (fO s p)))) (x6 (s.length:Int) (p.length:Int))) ?_
 refine⟨fun hG=>by(try simp only[nb]at hG);omega,fun hG=>by(try simp only[nb]at hG);omega,⟨fun h=>by rw[h] <;> rfl,fun _=>rfl⟩,?_⟩
 unfold Q
 refine Zo bV ?_
 unfold fO
 rw[ZE];simp)
def nC(s:BL)(p:BL):o8 Tryz.prog:=.mk 166 [sV s,sV p] [] ((s.length<=4611686018427387904)/\(p.length<=4611686018427387904)) (sV (bU s p)) [] (by
 rintro⟨hs,hp⟩
 refine aq (N:=16) (rs:=[.tmp 4]) Tryz.func166
  (.q 1<|.q 2<|.c (jU s p) []<|.br (.q 8<|.nil) (.q 2<|.nil))
  ((jU s p).sm/\((s.length<=4611686018427387904)/\(p.length<=4611686018427387904))/\Br (fO s p) (m6 ((s.length:Int)-(p.length:Int))/\Sx (0:Int) ((s.length:Int)-(p.length:Int)) s/\Q (sV ((s.take (Int.toNat ((s.length:Int)-(p.length:Int)))).drop ((0:Int).toNat))) (sV (bU s p))) (Q (sV s) (sV (bU s p)))) ?_
 refine⟨rfl,⟨Z5,Z5⟩,?_⟩
 refine bI (fun j7=>?_) fun j7=>?_
 refine⟨Z9,by have:=tI j7;omega,?_⟩
 unfold Q
 have:=tI j7
 rw[show bU s p=s.take (s.length-p.length) from if_pos j7]
 simp
 unfold Q
 rw[show bU s p=s from if_neg (by rw[j7];decide)])
def fJ(d:BL):o8 Tryz.prog:=.mk 58 [sV d] [] (d.length<=4000000000000000000) (sV (ai d)) [] (by
 intro hh
 refine aq (N:=6) (rs:=[.tmp 2]) Tryz.func58
  (.q 1<|.q 4<|.nil)
  ((([47,47]:BL).length+d.length<=4611686018427387904)/\((([47,47]:BL)++d).length+([47,110,111,116,105,99,101]:BL).length<=4611686018427387904)/\Q (sV ((([47,47]:BL)++d)++([47,110,111,116,105,99,101]:BL))) (sV (ai d))) ?_
 refine⟨Z3,Z3,?_⟩
 unfold Q
 rfl)
def pX(s:BL)(p:BL):o8 Tryz.prog:=.mk 138 [sV s,sV p] [] ((s.length<=4611686018427387904)/\(p.length<=4611686018427387904)) (sV (bU s p)) [] (by
 rintro⟨hs,hp⟩
 refine aq (N:=8) (rs:=[.tmp 4]) Tryz.func138
  (.q 1<|.q 2<|.c (nC s p) []<|.q 1<|.nil)
  ((nC s p).sm/\((s.length<=4611686018427387904)/\(p.length<=4611686018427387904))/\Q (sV (bU s p)) (sV (bU s p))) ?_
 refine⟨rfl,⟨Z5,Z5⟩,?_⟩
 unfold Q
 rfl)
def pf(s:BL)(p:BL):o8 Tryz.prog:=.mk 157 [sV s,sV p] [] ((s.length<=4611686018427387904)/\(p.length<=4611686018427387904)) (.tup [sV (bU s p),bV (fO s p)]) [] (by
 rintro⟨hs,hp⟩
 refine aq (N:=18) (rs:=[.tmp 4,.tmp 5]) Tryz.func157
  (.q 2<|.q 2<|.c (jU s p) []<|.q 1<|.br (.q 3<|.nil) (.q 9<|.nil))
  ((jU s p).sm/\((s.length<=4611686018427387904)/\(p.length<=4611686018427387904))/\Br (!(fO s p)) (Q (.tup [sV s,bV false]) (.tup [sV (bU s p),bV (fO s p)])) (m6 ((s.length:Int)-(p.length:Int))/\Sx (0:Int) ((s.length:Int)-(p.length:Int)) s/\Q (.tup [sV ((s.take (Int.toNat ((s.length:Int)-(p.length:Int)))).drop ((0:Int).toNat)),bV true]) (.tup [sV (bU s p),bV (fO s p)]))) ?_
 refine⟨rfl,⟨Z5,Z5⟩,?_⟩
 refine bI (fun j7=>?_) fun j7=>?_
 unfold Q
 have j7:fO s p=false:=by simpa using j7
 rw[show bU s p=s from if_neg (by rw[j7];decide),j7]
 refine⟨Z9,by have:=tI (s:=s) (p:=p) (by simpa using j7);omega,?_⟩
 unfold Q
 have j7:fO s p=true:=by simpa using j7
 have:=tI j7
 rw[show bU s p=s.take (s.length-p.length) from if_pos j7,j7]
 simp)
def pg(s:BL):o8 Tryz.prog:=.mk 181 [sV s] [] (s.length<=4611686018427387904) (bV ((s==[42])||bp s)) [] (by
 intro hs
 refine aq (N:=9) (rs:=[.tmp 2]) Tryz.func181
  (.q 1<|.q 4<|.cg (jE s)<|.q 2<|.nil)
  ((fun v1:BL=>(Gd ((s==v1)==false) (((s.length<=4611686018427387904))/\(jE s).sm)/\Pk (s==v1) true ((s==v1)==false)/\Q (bV ((s==v1)||(bp s))) (bV ((s==[42])||bp s)))) ([42]:BL)) ?_
 refine⟨fun hG=>⟨by(try simp only[nb]at hG);first | assumption | omega | (simp;omega),rfl⟩,⟨fun _=>rfl,fun h=>by rw[h] <;> rfl⟩,?_⟩
 unfold Q
 rfl)
def qQ(s:BL)(p:BL):o8 Tryz.prog:=.mk 129 [sV s,sV p] [] ((s.length<=4611686018427387904)/\(p.length<=4611686018427387904)) (.tup [sV (bU s p),bV (fO s p)]) [] (by
 rintro⟨hs,hp⟩
 refine aq (N:=11) (rs:=[.tmp 4,.tmp 5]) Tryz.func129
  (.q 2<|.q 2<|.c (pf s p) []<|.q 4<|.nil)
  ((pf s p).sm/\((s.length<=4611686018427387904)/\(p.length<=4611686018427387904))/\Q (.tup [sV (bU s p),bV (fO s p)]) (.tup [sV (bU s p),bV (fO s p)])) ?_
 refine⟨rfl,⟨Z5,Z5⟩,?_⟩
 unfold Q
 rfl)
abbrev gn(s:BL)(p:BL):V:=.tup [sV (if eI s p=true then s.drop p.length else s),bV (eI s p)]
def ph(s:BL)(p:BL):o8 Tryz.prog:=.mk 169 [sV s,sV p] [] ((s.length<=4611686018427387904)/\(p.length<=4611686018427387904)) (gn s p) [] (by
 rintro⟨hs,hp⟩
 refine aq (N:=15) (rs:=[.tmp 4,.tmp 5]) Tryz.func169
  (.q 2<|.q 2<|.c (kb s p) []<|.q 1<|.br (.q 3<|.nil) (.q 6<|.nil))
  ((kb s p).sm/\((s.length<=4611686018427387904)/\(p.length<=4611686018427387904))/\Br (!(eI s p)) (Q (.tup [sV s,bV false]) (gn s p)) (Sx (p.length:Int) (s.length:Int) s/\Q (.tup [sV ((s.take s.length).drop p.length),bV true]) (gn s p))) ?_
 refine⟨rfl,⟨Z5,Z5⟩,?_⟩
 refine bI (fun j7=>?_) fun j7=>?_
 unfold Q gn
 have j7:eI s p=false:=by simpa using j7
 rw[if_neg (by rw[j7];decide),j7]
 refine⟨by have:=Ke (s:=s) (p:=p) (by simpa using j7);omega,?_⟩
 unfold Q gn
 have j7:eI s p=true:=by simpa using j7
 rw[if_pos j7,j7]
 simp)
abbrev mM(s:BL)(p:BL):V:=.tup [sV (if eI s p=true then s.drop p.length else s),bV (eI s p)]
def qU(s:BL)(p:BL):o8 Tryz.prog:=.mk 141 [sV s,sV p] [] ((s.length<=4611686018427387904)/\(p.length<=4611686018427387904)) (mM s p) [] (by
 rintro⟨hs,hp⟩
 refine aq (N:=11) (rs:=[.tmp 4,.tmp 5]) Tryz.func141
  (.q 2<|.q 2<|.c (ph s p) []<|.q 4<|.nil)
  ((ph s p).sm/\((s.length<=4611686018427387904)/\(p.length<=4611686018427387904))/\Q (.tup [sV (if eI s p=true then s.drop p.length else s),bV (eI s p)]) (mM s p)) ?_
 refine⟨rfl,⟨Z5,Z5⟩,?_⟩
 unfold Q mM
 rfl)
def mq(b:UInt8):o8 Tryz.prog:=.mk 139 [uN b.toNat] [] True (bV (gW b)) [] (by
 intro _
 refine aq (N:=19) (rs:=[.tmp 2]) Tryz.func139
  (.q 1<|.q 1<|.q 2<|.join (Bool) (fun c=>⟨[(0,uN b.toNat),(4,bV c)],[]⟩) (fun c=>c=decide (b.toNat=47\/b.toNat=42\/b.toNat=63\/b.toNat=37)) (.nil) (.q 2<|.br (.nil) (.q 2<|.br (.nil) (.q 2<|.nil))) (fun c=>.br (.q 1<|.nil) (.q 1<|.c (jQ b) []<|.q 9<|.nil)))
  ((fun v1:Int=>(((o6 v1 47)=true->∃ c:Bool,(c=decide (b.toNat=47\/b.toNat=42\/b.toNat=63\/b.toNat=37))/\E (uN b.toNat)/\Q (bV (o6 v1 47)) (bV c)/\True)/\((o6 v1 47)=false->Br (o6 v1 42) (∃ c:Bool,(c=decide (b.toNat=47\/b.toNat=42\/b.toNat=63\/b.toNat=37))/\E (uN b.toNat)/\Q (bV (o6 v1 42)) (bV c)/\True) (Br (o6 v1 63) (∃ c:Bool,(c=decide (b.toNat=47\/b.toNat=42\/b.toNat=63\/b.toNat=37))/\E (uN b.toNat)/\Q (bV (o6 v1 63)) (bV c)/\True) (∃ c:Bool,(c=decide (b.toNat=47\/b.toNat=42\/b.toNat=63\/b.toNat=37))/\E (uN b.toNat)/\Q (bV (o6 v1 37)) (bV c)/\True)))/\(∀ c:Bool,(c=decide (b.toNat=47\/b.toNat=42\/b.toNat=63\/b.toNat=37))->Br c (Q (bV true) (bV (gW b))) ((jQ b).sm/\(True)/\Gd ((dE b)==false) (Pk (x6 v1 65) (((dE b)==false)&&((x6 v1 65)==true)) true)/\Pk (dE b) true ((dE b)==false)/\Q (bV ((dE b)||((x6 v1 65)&&(C6 v1 70)))) (bV (gW b)))))) (b.toNat:Int)) ?_
 refine⟨fun j7=>?_,fun j7=>?_,fun c hc=>?_⟩
 try simp only[nb]at j7
 exact⟨o6 (b.toNat:Int) 47,by first | (rw[ZE];simp;omega) | (rw[ZE];simp),rfl,rfl,trivial⟩
 try simp only[nb]at j7
 refine bI (fun l4=>?_) fun l4=>?_
 exact⟨o6 (b.toNat:Int) 42,by first | (rw[ZE];simp;omega) | (rw[ZE];simp),rfl,rfl,trivial⟩
 refine bI (fun m8=>?_) fun m8=>?_
 exact⟨o6 (b.toNat:Int) 63,by first | (rw[ZE];simp;omega) | (rw[ZE];simp),rfl,rfl,trivial⟩
 exact⟨o6 (b.toNat:Int) 37,by first | (rw[ZE];simp;omega) | (rw[ZE];simp),rfl,rfl,trivial⟩
 refine bI (fun w7=>?_) fun w7=>?_
 unfold Q
 have h:b.toNat=47\/b.toNat=42\/b.toNat=63\/b.toNat=37:=by rw[hc,Zq]at w7;exact w7
 refine Zo bV ?_
 unfold gW
 rw[decide_eq_true Z9,Bool.or_true]
 refine⟨rfl,trivial,fun hG=>⟨fun h=>by rw[h];exact(ZX _ _).mpr ⟨hG,rfl⟩,fun _=>rfl⟩,⟨fun _=>rfl,fun h=>by rw[h] <;> rfl⟩,?_⟩
 unfold Q
 have h: ¬ (b.toNat=47\/b.toNat=42\/b.toNat=63\/b.toNat=37):=by rw[hc,decide_eq_false_iff_not]at w7;exact w7
 refine Zo bV ?_
 unfold gW
 congr 1
 rw[ZE];simp only[ZX,Zq];omega)
def jc(p:BL):o8 Tryz.prog:=.mk 112 [sV p] [] (p.length<=4611686018427387904) (bV (dn p)) [] (by
 intro hs
 have UC:(bU p [36]).length<=p.length:=by unfold bU;split <;> simp
 refine aq (N:=31) (rs:=[.tmp 2]) Tryz.func112
  (.q 1<|.q 13<|.br (.q 1<|.nil) (.q 1<|.c (pX p ([36]:BL)) []<|.q 1<|.q 1<|.loop (Nat) (fun (i:Nat)=>⟨[(3,sV (bU p [36])),(4,iN i)],[]⟩) (fun (i:Nat)=>i<=(bU p [36]).length/\∀ j,j<i->gW ((bU p [36]).getD j 0)=true) (fun (i:Nat)=>(bU p [36]).length-i) (fun (i:Nat)=>.q 4<|.br (.q 3<|.c (mq ((bU p [36]).getD i 0)) []<|.q 1<|.br (.q 1<|.nil) (.q 3<|.nil)) (.q 1<|.nil))))
  ((fun v1:Int=>(Pk (s4 v1 1) true ((s4 v1 1)==false)/\Gd (((s4 v1 1)||(s7 v1 16))==false) (Ix 0 p)/\Pk ((s4 v1 1)||(s7 v1 16)) true (((s4 v1 1)||(s7 v1 16))==false)/\Br (((s4 v1 1)||(s7 v1 16))||(A7 (((p.getD 0 0).toNat:Nat):Int) 47)) (Q (bV false) (bV (dn p))) ((pX p ([36]:BL)).sm/\((p.length<=4611686018427387904)/\(([36]:BL).length<=4611686018427387904))/\(∃ h9:Nat,(h9<=(bU p [36]).length/\∀ j,j<h9->gW ((bU p [36]).getD j 0)=true)/\Q (sV (bU p ([36]:BL))) (sV (bU p [36]))/\Q (iN 0) (iN h9)/\True)/\∀ i:Nat,(i<=(bU p [36]).length/\∀ j,j<i->gW ((bU p [36]).getD j 0)=true)->Br (s4 (i:Int) (((bU p [36]).length:Nat):Int)) (Ix (i:Int) (bU p [36])/\(mq ((bU p [36]).getD i 0)).sm/\(True)/\Br (!(gW ((bU p [36]).getD i 0))) (Q (bV false) (bV (dn p))) (m6 ((i:Int)+1)/\∃ b9:Nat,(b9<=(bU p [36]).length/\∀ j,j<b9->gW ((bU p [36]).getD j 0)=true)/\((bU p [36]).length-b9<(bU p [36]).length-i)/\E (sV (bU p [36]))/\Q (iN (i+1)) (iN b9)/\True)) (Q (bV true) (bV (dn p)))))) (p.length:Int)) ?_
 refine⟨⟨fun _=>rfl,fun h=>by rw[h] <;> rfl⟩,fun hG=>by(try simp only[nb]at hG);omega,⟨fun _=>rfl,fun h=>by rw[h] <;> rfl⟩,?_⟩
 refine bI (fun j7=>?_) fun j7=>?_
 unfold Q
 refine Zo bV ?_
 unfold dn
 rw[decide_eq_false Z9];rfl
 refine⟨rfl,⟨Z9,Z8⟩,?_⟩
 refine⟨⟨0,?_,Z4,rfl,trivial⟩,?_⟩
 simp
 rintro i ⟨h1,h2⟩
 refine bI (fun l4=>?_) fun l4=>?_
 refine⟨Z9,rfl,trivial,?_⟩
 refine bI (fun m8=>?_) fun m8=>?_
 unfold Q
 refine Zo bV ?_
 unfold dn
 rw[all_false (i:=i) (d:=0) Z9 (by simpa using m8),Bool.and_false]
 refine⟨Z9,?_⟩
 refine⟨i+1,?_,?_,rfl,rfl,trivial⟩
 exact⟨Z9,bE h2 (by simpa using m8)⟩
 exact Z1
 unfold Q
 refine Zo bV ?_
 unfold dn
 rw[all_true (d:=0) (fun j hj=>h2 j Z9),decide_eq_true Z9];rfl)
def cy(a:r8):Prop:=a.c9.length<=1000/\a.ask.length<=1000/\a.a8.length<=500/\∀ i,(a.a8.getD i []).length<=1000
theorem vX{ps:List BL}(h:∀ i,(ps.getD i []).length<=1000):∀ i,i<=ps.length->(bS (ps.take i)).length<=i*1001
 | 0,_=>by simp[bS]
 | i+1,hi=>by
   have:=vX h i Z9
   have h2:=h i
   rw[aW (by omega:i<ps.length) [],kX]
   split
   omega
   simp only[ZW,ZU,ZQ];omega
theorem cy.join{a:r8}(h:cy a):(bS a.a8).length<=500500:=by
 obtain⟨h1,h2,h3,h4⟩:=h
 have:=vX h4 a.a8.length (Zy _)
 rw[List.take_length]at this;omega
theorem cy.path{a:r8}(h:cy a):(bD a).length<=502000:=by
 have:=h.join
 obtain⟨h1,h2,h3,h4⟩:=h
 unfold bD
 split <;> simp <;> omega
theorem cy.text{a:r8}(h:cy a):(cd a).length<=504000:=by
 have:=h.path
 have:=h.1
 unfold cd
 simp;omega
theorem Lz{h q:BL}{fr ls:List BL}{k:Bool}(hh:h.length<=1000)(hf:∀ i,(fr.getD i []).length<=1000)(hl:fr.length+ls.length<=500):cy ⟨h,bG (fr++ls.map eg),k,eg q⟩:=by
 refine⟨hh,?_,?_,fun i=>?_⟩
 have:=nO q;simp only[eg];omega
 have:=vd (fr++ls.map eg);simp only[ZW,ZM]at this ⊢;omega
 refine jH (n:=1000) (fun p UK=>?_) i
 rcases ZN.1 (vH UK) with h | h
 obtain⟨j,hj,rfl⟩:=List.getElem_of_mem h
 have:=hf j
 rwa [ZZ,ZR hj]at this
 obtain⟨y,_,rfl⟩:=List.mem_map.1 h
 have:=nO y;simp only[eg];omega
theorem pH{a:r8}(h:aG a=true):cy a:=by
 unfold aG at h
 simp only[ZX,Zq]at h
 obtain⟨⟨⟨⟨⟨h1,h2⟩,h3⟩,h4⟩,h5⟩,h6⟩:=h
 refine⟨?_,?_,Z9,fun i=>jH (n:=1000) (fun p hp=>?_) i⟩
 have:a.c9.length<=(cd a).length:=by unfold cd;simp;omega
 omega
 have:=mg h3;omega
 have h5:=ZI.1 h5 p hp
 unfold dM at h5
 simp only[ZX]at h5
 have:=mg h5.1.1.1;omega
theorem pr:cy (oA none):=⟨by simp[oA],by simp[oA],by simp[oA],by simp[oA]⟩
theorem KL(h:BL)(fr:List BL)(n0:BL):cy (oA (bT h fr n0)):=by
 unfold bT
 split
 split
 rename_i h2;exact pH h2
 exact pr
 exact pr
theorem lH(s:BL):cy (oA (aA s)):=by
 unfold aA
 split
 exact KL _ _ _
 exact pr
theorem mY{h:BL}{fr:List BL}{n0:BL}(hs:(bT h fr n0).isSome=true):aG (oA (bT h fr n0))=true:=by
 unfold bT at hs ⊢
 split
 split
 rename_i h2;exact h2
 rename_i h1 h2;rw[if_pos h1,if_neg h2]at hs;simp at hs
 rename_i h1;rw[if_neg h1]at hs;simp at hs
theorem jS{s:BL}(hs:(aA s).isSome=true):aG (oA (aA s))=true:=by
 unfold aA at hs ⊢
 split
 rename_i h;rw[if_pos h]at hs;exact mY hs
 rename_i h;rw[if_neg h]at hs;simp at hs
def cO(s:BL):Option r8:=if eI s [47,47]=true then dg (s.drop 2) else none
theorem qw{s p:BL}:eI s p=true↔p.length<=s.length/\s.take p.length=p:=by unfold eI;simp
theorem yz{raw:BL}(h:raw.length<=60):aA raw=cO (ab 35 raw).1:=by
 unfold aA cO
 by_cases hp:eI (ab 35 raw).1 [47,47]=true
 have:=qw.1 hp
 rw[if_pos hp,if_pos ⟨h,this.1,this.2⟩]
 rw[if_neg hp,if_neg]
 rintro⟨_,h1,h2⟩
 exact hp (qw.2 ⟨h1,h2⟩)
theorem tB{raw:BL}(h: ¬ raw.length<=60):aA raw=none:=if_neg fun c=>h c.1
theorem m4.take{s:BL}(h:m4 s)(n:Nat):m4 (s.take n):=fun c hc=>h c (List.mem_of_mem_take hc)
theorem m4.drop{s:BL}(h:m4 s)(n:Nat):m4 (s.drop n):=fun c hc=>h c (List.mem_of_mem_drop hc)
theorem zd(c:UInt8):∀ (s:BL) x,x∈(ab c s).1->x∈s
 | [],x,h=>by simp[ab]at h
 | b::l,x,h=>by
   simp only[ab]at h
   split at h
   simp at h
   simp only[List.mem_cons]at h ⊢
   exact h.imp id (zd c l x)
theorem m4.cut{s:BL}(h:m4 s)(c:UInt8):m4 (ab c s).1:=fun x hx=>h x (zd c s x hx)
theorem uS{s:BL}(h1:(aA s).isSome=true)(h2:cd (oA (aA s))=s):aD s=true:=by
 unfold aD bj
 rw[h1,if_pos (jS h1),h2];simp
theorem Hf{s:BL}(h:(aA s).isSome=false\/¬ cd (oA (aA s))=s):aD s=false:=by
 unfold aD bj
 rcases Bool.eq_false_or_eq_true (aA s).isSome with h1 | h1
 rw[if_pos (jS h1),h1]
 rcases h with h | h
 rw[h1]at h;cases h
 simpa using h
 rw[h1];rfl
def ar(s:BL):Option r8:=if aD s=true then aA s else none
theorem fQ{s:BL}:(ar s).isSome=aD s:=by
 unfold ar
 split
 rename_i h
 rw[h]
 unfold aD at h
 simp only[ZX]at h;exact h.1
 rename_i h;simp at h;rw[h];rfl
def ke(p:Pg):Value:=.agg #[.string (Str p.addr),.string (Str p.text),.string (Str p.lead),.int .i64 p.l8]
def E1(p:Pg):BL×Value:=(p.addr,ke p)
def wE(w:List Pg):List (BL×Value):=w.foldl (fun es p=>dI es p.addr (ke p)) []
theorem nh{w:List Pg}{i:Nat}(h:i<w.length):wE (w.take (i+1))=dI (wE (w.take i)) (w.getD i m0).addr (ke (w.getD i m0)):=by
 unfold wE;rw[aW h m0,List.foldl_append];rfl
theorem vK{k:BL}:∀ {es:List (BL×Value)},bM es k=none↔∀ p,p∈es->p.1≠k
 | []=>by simp[bM]
 | q::r=>by
   unfold bM
   split
   rename_i h;simp[h]
   rename_i h
   rw[vK (es:=r)]
   simp[h]
theorem uM(k:BL)(y:Value):∀ (es:List (BL×Value)),(dI es k y).length=if bM es k=none then es.length+1 else es.length
 | []=>rfl
 | p::r=>by
   unfold dI bM
   split
   simp
   have:=uM k y r
   rw[ZU,this]
   split <;> simp
theorem xl(k:BL)(y:Value):∀ (es:List (BL×Value)) (a:BL),(∃ p,p∈dI es k y/\p.1=a)↔(a=k\/∃ p,p∈es/\p.1=a)
 | [],a=>by simp[dI];exact eq_comm
 | p::r,a=>by
   unfold dI
   split
   rename_i h
   simp only[List.mem_cons,exists_eq_or_imp]
   constructor
   rintro (h1 | h1)
   exact .inl h1.symm
   exact .inr (.inr h1)
   rintro (h1 | h1 | h1)
   exact .inl h1.symm
   exact .inl (by rw[<- h];exact h1)
   exact .inr h1
   have:=xl k y r a
   simp only[List.mem_cons,exists_eq_or_imp,this]
   constructor
   rintro (h1 | h1 | h1)
   exact .inr (.inl h1)
   exact .inl h1
   exact .inr (.inr h1)
   rintro (h1 | h1 | h1)
   exact .inr (.inl h1)
   exact .inl h1
   exact .inr (.inr h1)
def xD(w:List Pg)(n:Nat):Prop:= ∀ i,i<n->∀ k,k<i->(w.getD k m0).addr≠(w.getD i m0).addr
theorem yV(w:List Pg):∀ i,i<=w.length->∀ a,(∃ p,p∈wE (w.take i)/\p.1=a)↔∃ k,k<i/\(w.getD k m0).addr=a
 | 0,_,a=>by simp[wE]
 | i+1,h,a=>by
   rw[nh Z9,xl,yV w i Z9]
   constructor
   rintro (h1 | ⟨k,h1,h2⟩)
   exact⟨i,Z9,h1.symm⟩
   exact⟨k,Z9,h2⟩
   rintro⟨k,h1,h2⟩
   by_cases e:k=i
   subst e;exact .inl h2.symm
   exact .inr ⟨k,Z9,h2⟩
theorem uh{w:List Pg}{i:Nat}(h:i<=w.length){a:BL}:bM (wE (w.take i)) a=none↔∀ k,k<i->(w.getD k m0).addr≠a:=by
 rw[vK]
 have:=yV w i h a
 constructor
 intro h1 k hk c
 obtain⟨p,hp,he⟩:=this.2 ⟨k,hk,c⟩
 exact h1 p hp he
 intro h1 p hp c
 obtain⟨k,hk,he⟩:=this.1 ⟨p,hp,c⟩
 exact h1 k hk he
theorem CQ(w:List Pg):∀ i,i<=w.length->(wE (w.take i)).length<=i/\((wE (w.take i)).length=i↔xD w i)
 | 0,_=>by simp[wE,xD]
 | i+1,h=>by
   obtain⟨h1,h2⟩:=CQ w i Z9
   rw[nh Z9,uM]
   split
   rename_i hl
   rw[uh Z9]at hl
   refine⟨Z9,?_⟩
   constructor
   intro hq j hj k hk
   by_cases e:j=i
   subst e;exact hl k hk
   exact(h2.1 Z9) j Z9 k hk
   intro hd
   have:=h2.2 fun j hj k hk=>hd j Z9 k hk
   omega
   rename_i hl
   refine⟨Z9,?_⟩
   constructor
   intro hq;omega
   intro hd;exact absurd ((uh Z9).2 fun k hk=>hd i Z9 k hk) hl
theorem Cp{w:List Pg}:∀ i,i<=w.length->xD w i->wE (w.take i)=(w.take i).map E1
 | 0,_,_=>by simp[wE]
 | i+1,h,hd=>by
   have ih:=Cp i Z9 fun j hj k hk=>hd j Z9 k hk
   rw[nh Z9,rz _ _ _ ((uh Z9).2 fun k hk=>hd i Z9 k hk),ih,aW (by omega:i<w.length) m0,Zz]
   rfl
theorem DN{w:List Pg}(h:av w=true):w.length<=12/\(∀ i,i<w.length->dq (w.getD i m0)=true)/\xD w w.length:=by
 unfold av at h
 simp only[ZX,Zq]at h
 exact⟨h.2,fun i hi=>(h.1 i hi).1,fun i hi=>(h.1 i hi).2⟩
theorem Ef{w:List Pg}(h:av w=false)(h1:w.length<=12)(h2:∀ i,i<w.length->dq (w.getD i m0)=true): ¬ xD w w.length:=fun c=>by
 have:av w=true:=by
  unfold av
  simp only[ZX,Zq]
  exact⟨fun i hi=>⟨h2 i hi,c i hi⟩,h1⟩
 rw[h]at this;cases this
theorem zl(a:BL):∀ (w:List Pg),(bM (w.map E1) a=none/\(A3 w a).2=false/\(A3 w a).1=m0)\/(bM (w.map E1) a=some (ke (A3 w a).1)/\(A3 w a).2=true)
 | []=>.inl ⟨rfl,rfl,rfl⟩
 | p::r=>by
   simp only[Zw,bM,A3,E1]
   by_cases h:p.addr=a
   simp[h]
   simp only[h,if_false]
   exact zl a r
theorem Fg{s:BL}(h:(aA s).isSome=true):s.length<=60:=by
 by_cases hl:s.length<=60
 exact hl
 rw[tB hl]at h;simp at h
def kG(e:Bool):BL->BL->Prop
 | [],t=>e=false\/t=[]
 | c::b,t=>if c=42 then ∃ k,kG e b (t.drop k) else ∃ t',t=c::t'/\kG e b t'
def oh(e:Bool):List BL->BL->Prop
 | [],t=>e=false\/t=[]
 | q::r,t=> ∃ k,q <+: t.drop k/\oh e r ((t.drop k).drop q.length)
def SP(e:Bool):List BL->BL->Prop
 | [],_=>False
 | q::r,t=>q <+: t/\oh e r (t.drop q.length)
theorem pz(c:UInt8):∀ l,ah c l≠[]
 | []=>by simp[ah]
 | b::l=>by unfold ah;split <;> simp
theorem mZ(e:Bool):∀ (b t:BL),kG e b t↔SP e (ah 42 b) t
 | [],t=>by simp[kG,ah,SP,oh]
 | c::b,t=>by
   unfold kG ah
   by_cases h:c=42
   simp only[h,if_true,SP,List.nil_prefix,true_and,ZQ,List.drop_zero]
   cases hs:ah 42 b with
   | nil=>exact absurd hs (pz 42 b)
   | cons q r=>
     simp only[oh]
     constructor
     rintro⟨k,hk⟩;have:=(mZ e b _).1 hk;rw[hs]at this;exact⟨k,this⟩
     rintro⟨k,hk⟩;exact⟨k,(mZ e b _).2 (by rw[hs];exact hk)⟩
   simp only[h,if_false]
   cases hs:ah 42 b with
   | nil=>exact absurd hs (pz 42 b)
   | cons q r=>
     simp only[List.headD_cons,List.tail_cons,SP]
     constructor
     rintro⟨t',rfl,hk⟩
     have:=(mZ e b _).1 hk;rw[hs]at this
     exact⟨List.cons_prefix_cons.2 ⟨rfl,this.1⟩,by simpa using this.2⟩
     rintro⟨h1,h2⟩
     cases t with
     | nil=>simp at h1
     | cons x t'=>
       obtain⟨rfl,h3⟩:=List.cons_prefix_cons.1 h1
       exact⟨t',rfl,(mZ e b _).2 (by rw[hs];exact⟨h3,by simpa using h2⟩)⟩
theorem DW{e:Bool}{ps:List BL}{t:BL}{m:Nat}(h:oh e ps (t.drop m))(hn:e=false\/ps≠[]):oh e ps t:=by
 cases ps with
 | nil=>exact hn.elim .inl (fun h=>absurd rfl h)
 | cons q r=>
   obtain⟨k,h1,h2⟩:=h
   have he:(t.drop m).drop k=t.drop (m+k):=List.drop_drop ..
   rw[he]at h1 h2
   exact⟨m+k,h1,h2⟩
def Vi(s p:BL)(k:Nat):Prop:=k+p.length<=s.length/\(s.drop k).take p.length=p
theorem tH(s p:BL):∀ (n f:Nat),s.length+1-f<=n->(eM s p f<0->∀ k,f<=k->¬ Vi s p k)/\(0<=eM s p f->Vi s p (eM s p f).toNat/\f<=(eM s p f).toNat/\∀ k,f<=k->Vi s p k->(eM s p f).toNat<=k)
 | 0,f,hn=>by
   rw[eM,dif_neg Z9]
   exact⟨fun _ k hk h=>by have:=h.1;omega,fun h=>by omega⟩
 | n+1,f,hn=>by
   rw[eM]
   by_cases h1:f+p.length<=s.length
   rw[dif_pos h1]
   by_cases h2:(s.drop f).take p.length=p
   rw[if_pos h2]
   exact⟨fun h=>by omega,fun _=>⟨⟨h1,h2⟩,Z8,fun k hk _=>by simpa using hk⟩⟩
   rw[if_neg h2]
   obtain⟨i1,i2⟩:=tH s p n (f+1) Z9
   refine⟨fun h k hk ho=>?_,fun h=>?_⟩
   by_cases e:k=f
   subst e;exact h2 ho.2
   exact i1 h k Z9 ho
   obtain⟨j1,j2,j3⟩:=i2 h
   refine⟨j1,Z9,fun k hk ho=>?_⟩
   by_cases e:k=f
   subst e;exact absurd ho.2 h2
   exact j3 k Z9 ho
   rw[dif_neg h1]
   exact⟨fun _ k hk h=>by have:=h.1;omega,fun h=>by omega⟩
theorem rL{p t:BL}:p <+: t↔p.length<=t.length/\t.take p.length=p:=by
 constructor
 intro h;exact⟨h.length_le,List.prefix_iff_eq_take.1 h |>.symm⟩
 rintro⟨_,h⟩;rw[<- h];exact List.take_prefix _ _
theorem go_sem(e:Bool)(s:BL):∀ (ps:List BL) (f:Nat),f<=s.length->(ml e s f ps=true↔oh e ps (s.drop f))
 | [],f,hf=>by
   simp only[ml,oh,Bool.or_eq_true,Bool.not_eq_true',Zq,List.drop_eq_nil_iff]
   constructor
   rintro (h | h)
   exact .inl h
   exact .inr Z9
   rintro (h | h)
   exact .inl h
   exact .inr Z9
 | p::r,f,hf=>by
   unfold ml
   by_cases hc:(e&&r.isEmpty)=true
   rw[if_pos hc]
   simp only[ZX,List.isEmpty_iff]at hc
   obtain⟨rfl,rfl⟩:=hc
   simp only[ZX,Zq,Zp,oh,Bool.true_eq_false,false_or,List.drop_drop]
   constructor
   rintro⟨h1,h2⟩
   refine⟨s.length-p.length-f,?_,?_⟩
   rw[show f+(s.length-p.length-f)=s.length-p.length from Z9,h2];exact List.prefix_refl _
   rw[ZC Z9]
   rintro⟨k,h1,h2⟩
   have hp:=rL.1 h1
   rw[List.length_drop]at hp
   have h2:=List.drop_eq_nil_iff.1 h2
   by_cases hk:f+k<=s.length
   refine⟨Z9,?_⟩
   rw[show s.length-p.length=f+k from Z9]
   rw[ZL (by rw[List.length_drop];omega)]at hp
   exact hp.2
   have:p=[]:=ZF Z9
   subst this
   simp;omega
   rw[if_neg hc]
   have hn:e=false\/r≠[]:=by
    cases e with
    | false=>exact .inl rfl
    | true=>exact .inr fun c=>hc (by rw[c];rfl)
   obtain⟨i1,i2⟩:=tH s p _ f (Zy _)
   have UM:∀ k,p <+: (s.drop f).drop k->∃ m,f<=m/\Vi s p m/\(s.drop f).drop k=s.drop m:=fun k h=>by
    have hp:=rL.1 h
    rw[List.drop_drop,List.length_drop]at hp
    by_cases hk:f+k<=s.length
    exact⟨f+k,Z9,⟨Z9,hp.2⟩,by rw[List.drop_drop]⟩
    have:p=[]:=ZF Z9
    subst this
    refine⟨s.length,hf,⟨Z8,Z8⟩,?_⟩
    rw[List.drop_drop,ZC Z9,ZC Z9]
   by_cases TW:eM s p f<0
   rw[if_pos TW]
   simp only[Bool.false_eq_true,false_iff]
   rintro⟨k,h1,h2⟩
   obtain⟨m,m1,m2,m3⟩:=UM k h1
   exact i1 TW m m1 m2
   rw[if_neg TW]
   obtain⟨j1,j2,j3⟩:=i2 Z9
   rw[go_sem e s r _ j1.1]
   constructor
   intro h
   refine⟨(eM s p f).toNat-f,?_,?_⟩
   rw[List.drop_drop,show f+((eM s p f).toNat-f)=(eM s p f).toNat from Z9]
   exact rL.2 ⟨by rw[List.length_drop];have:=j1.1;omega,j1.2⟩
   rw[List.drop_drop,List.drop_drop,show f+((eM s p f).toNat-f+p.length)=(eM s p f).toNat+p.length from Z9];exact h
   rintro⟨k,h1,h2⟩
   obtain⟨m,m1,m2,m3⟩:=UM k h1
   have:=j3 m m1 m2
   rw[m3,List.drop_drop]at h2
   refine DW (m:=m-(eM s p f).toNat) ?_ hn
   rw[List.drop_drop,show (eM s p f).toNat+p.length+(m-(eM s p f).toNat)=m+p.length from Z9]
   exact h2
theorem DK(p s:BL):ym p s=true↔kG (eT p) (bA p) s:=by
 rw[mZ]
 unfold ym
 cases hs:ah 42 (bA p) with
 | nil=>exact absurd hs (pz 42 _)
 | cons q r=>
   simp only[List.headD_cons,List.tail_cons,ZX,List.isPrefixOf_iff_prefix,SP]
   constructor
   rintro⟨h1,h2⟩;exact⟨h1,(go_sem _ s r _ h1.length_le).1 h2⟩
   rintro⟨h1,h2⟩;exact⟨h1,(go_sem _ s r _ h1.length_le).2 h2⟩
def NA(c:UInt8)(s:BL)(come:List Bool)(j:Nat):Bool:=if c=42 then (come.take (j+1)).any id else decide (0<j)&&(come.getD (j-1) false&&(s.getD (j-1) 0==c))
def kc(s:BL)(come:List Bool)(c:UInt8):List Bool:=(List.range (s.length+1)).map (NA c s come)
def sQ(s:BL):List Bool:=(List.replicate (s.length+1) false).set 0 true
def ie(s b:BL):List Bool:=b.foldl (kc s) (sQ s)
theorem px(s:BL)(come:List Bool)(c:UInt8):(kc s come c).length=s.length+1:=by simp[kc]
theorem xI(s b:BL):(ie s b).length=s.length+1:=by
 have:∀ (b:BL) (come:List Bool),come.length=s.length+1->(b.foldl (kc s) come).length=s.length+1:=by
  intro b;induction b with
  | nil=>intro come h;exact h
  | cons c b ih=>intro come _;exact ih _ (px s come c)
 exact this b _ (by simp[sQ])
theorem kz{s:BL}{come:List Bool}{c:UInt8}{j:Nat}(h:j<=s.length):(kc s come c).getD j false=NA c s come j:=by
 simp[kc,ZZ,List.getElem?_map,List.getElem?_range,Nat.lt_succ_of_le h]
def Rm(e:Bool)(s:BL)(come:List Bool)(b:BL):Prop:= ∃ j,j<=s.length/\come.getD j false=true/\kG e b (s.drop j)
theorem qZ{l:List Bool}{n:Nat}:(l.take n).any id=true↔∃ j,j<n/\l.getD j false=true:=by
 rw[List.any_eq_true]
 constructor
 rintro⟨x,hx,h⟩
 obtain⟨j,hj⟩:=List.mem_iff_getElem?.1 hx
 rw[List.getElem?_take]at hj
 split at hj
 rename_i hlt
 exact⟨j,hlt,by rw[ZZ,hj];simpa using h⟩
 simp at hj
 rintro⟨j,hj,h⟩
 refine⟨true,?_,rfl⟩
 rw[List.mem_iff_getElem?]
 refine⟨j,?_⟩
 rw[List.getElem?_take,if_pos hj]
 rw[ZZ]at h
 cases hl:l[j]? with
 | none=>rw[hl]at h;simp at h
 | some x=>rw[hl]at h;simp at h;rw[h]
theorem EF{e:Bool}{s:BL}{come:List Bool}{c:UInt8}{b:BL}:Rm e s come (c::b)↔Rm e s (kc s come c) b:=by
 unfold Rm
 constructor
 rintro⟨j,h1,h2,h3⟩
 unfold kG at h3
 by_cases hc:c=42
 rw[if_pos hc]at h3
 obtain⟨k,h3⟩:=h3
 by_cases hk:j+k<=s.length
 refine⟨j+k,hk,?_,by rw[List.drop_drop]at h3;exact h3⟩
 rw[kz hk,NA,if_pos hc,qZ]
 exact⟨j,Z9,h2⟩
 refine⟨s.length,Zy _,?_,?_⟩
 rw[kz (Zy _),NA,if_pos hc,qZ]
 exact⟨j,Z9,h2⟩
 rw[List.drop_drop,ZC Z9]at h3
 rw[ZC (Zy _)];exact h3
 rw[if_neg hc]at h3
 obtain⟨t',h3,h4⟩:=h3
 have hj:j<s.length:=by
  by_cases hj:j<s.length
  exact hj
  rw[ZC Z9]at h3;cases h3
 rw[drop_cons hj 0,List.cons.injEq]at h3
 refine⟨j+1,Z9,?_,by rw[h3.2];exact h4⟩
 rw[kz Z9,NA,if_neg hc]
 simp only[Nat.add_sub_cancel,h2,h3.1];simp
 rintro⟨j,h1,h2,h3⟩
 rw[kz h1,NA]at h2
 by_cases hc:c=42
 rw[if_pos hc,qZ]at h2
 obtain⟨i,hi,h2⟩:=h2
 refine⟨i,Z9,h2,?_⟩
 unfold kG;rw[if_pos hc]
 exact⟨j-i,by rw[List.drop_drop,show i+(j-i)=j from Z9];exact h3⟩
 rw[if_neg hc]at h2
 simp only[ZX,Zq,Zp]at h2
 obtain⟨h4,h5,h6⟩:=h2
 refine⟨j-1,Z9,h5,?_⟩
 unfold kG;rw[if_neg hc]
 refine⟨s.drop j,?_,h3⟩
 rw[drop_cons (by omega:j-1<s.length) 0,h6,show j-1+1=j from Z9]
theorem yg{e:Bool}{s:BL}:∀ (b:BL) {come:List Bool},Rm e s come b↔Rm e s (b.foldl (kc s) come) []
 | [],come=>Iff.rfl
 | c::b,come=>by rw[EF,List.foldl_cons];exact yg b
theorem KS{e:Bool}{s b:BL}:Rm e s (sQ s) b↔kG e b s:=by
 unfold Rm sQ
 constructor
 rintro⟨j,h1,h2,h3⟩
 rw[ZZ,List.getElem?_set]at h2
 split at h2
 rename_i h;rw[<- h]at h3;simpa using h3
 rw[List.getElem?_replicate]at h2;split at h2 <;> simp at h2
 intro h;exact⟨0,Nat.zero_le _,by simp[ZZ],by simpa using h⟩
def xN(p s:BL):Bool:=if eT p=true then (ie s (bA p)).getD s.length false else (ie s (bA p)).contains true
theorem IS(p s:BL):xN p s=ym p s:=by
 rw[ZE,DK,<- KS,yg]
 show _↔Rm (eT p) s (ie s (bA p)) []
 unfold xN Rm kG
 cases eT p with
 | true=>
   simp only[if_true,Bool.true_eq_false,false_or,List.drop_eq_nil_iff]
   constructor
   intro h;exact⟨s.length,Zy _,h,Zy _⟩
   rintro⟨j,h1,h2,h3⟩;rw[show s.length=j from Z9];exact h2
 | false=>
   simp only[Bool.false_eq_true,if_false,true_or,and_true,List.contains_iff_mem]
   have hl:=xI s (bA p)
   constructor
   intro h
   obtain⟨j,hj⟩:=List.mem_iff_getElem?.1 h
   have:=(ZH.1 hj).1
   exact⟨j,Z9,by rw[ZZ,hj];rfl⟩
   rintro⟨j,h1,h2⟩
   rw[ZZ]at h2
   cases hq:(ie s (bA p))[j]? with
   | none=>rw[hq]at h2;simp at h2
   | some x=>rw[hq]at h2;simp at h2;rw[h2]at hq;exact ZD hq
theorem uG{p:BL}(h:1<=p.length):fO p [36]=eT p:=by
 unfold fO eT
 rw[Zv,decide_eq_true h,Bool.true_and,drop_cons (by omega:p.length-1<p.length) 0,ZC Z9,ZE]
 simp only[Zp,Zq,List.cons.injEq,and_true]
 rw[<- UInt8.toNat_inj];rfl
theorem pE{p:BL}(h:1<=p.length):bU p [36]=bA p:=by
 unfold bU bA
 rw[uG h];rfl
theorem nA(p:BL):dn p=aZ p:=by
 by_cases h:1<=p.length
 have hp36:gW 36=false:=Z6
 unfold dn aZ
 rw[pE h,ZE]
 simp only[ZX,Zq]
 have key:(bA p).all gW=true↔∀ j,j<p.length->jI p j=true:=by
  rw[ZI]
  unfold bA
  by_cases he:eT p=true
  rw[if_pos he]
  have he:(p.getD (p.length-1) 0).toNat=36:=by unfold eT at he;simpa using he
  constructor
  intro hx j hj
  unfold jI
  by_cases e:j=p.length-1
  rw[e,he,show decide (p.length-1+1=p.length)=true from decide_eq_true Z9];simp
  have:p.getD j 0∈p.take (p.length-1):=by
   rw[List.mem_iff_getElem?]
   exact⟨j,by rw[List.getElem?_take,if_pos Z9,ZZ,ZR hj];rfl⟩
  rw[hx _ this];rfl
  intro hx x hm
  obtain⟨j,hj⟩:=List.mem_iff_getElem?.1 hm
  rw[List.getElem?_take]at hj
  split at hj
  rename_i hlt
  have Q5:=(ZH.1 hj).1
  have:=hx j Q5
  unfold jI at this
  rw[show decide (j+1=p.length)=false from decide_eq_false Z9,Bool.and_false,Bool.or_false,ZZ,hj]at this
  exact this
  simp at hj
  rw[if_neg he]
  have he: ¬ (p.getD (p.length-1) 0).toNat=36:=by unfold eT at he;simpa using he
  constructor
  intro hx j hj
  unfold jI
  have:p.getD j 0∈p:=by
   rw[List.mem_iff_getElem?]
   exact⟨j,by rw[ZZ,ZR hj];rfl⟩
  rw[hx _ this];rfl
  intro hx x hm
  obtain⟨j,hj⟩:=List.mem_iff_getElem?.1 hm
  have Q5:=(ZH.1 hj).1
  have:=hx j Q5
  unfold jI at this
  have hg:p.getD j 0=x:=by rw[ZZ,hj];rfl
  rw[hg]at this
  simp only[Bool.or_eq_true,ZX,Zq]at this
  rcases this with h1 | ⟨h1,h2⟩
  exact h1
  exact absurd (by rw[show p.length-1=j from Z9,hg];exact h1) he
 rw[key]
 constructor
 rintro⟨⟨h1,h2,h3⟩,h4⟩;exact⟨h1,h2,h3,h4⟩
 rintro⟨h1,h2,h3,h4⟩;exact⟨⟨h1,h2,h3⟩,h4⟩
 unfold dn aZ
 rw[decide_eq_false (fun c=>h c.1),decide_eq_false (fun c=>h c.1)];rfl
def cS:List Bool->Bool->Int
 | [],_=> -1
 | x::r,b=>if x=b then 0 else if cS r b<0 then -1 else cS r b+1
theorem kT:∀ {l:List Bool} {b:Bool} {i:Nat},i<l.length->l.getD i false=b->(∀ j,j<i->l.getD j false≠b)->cS l b=i
 | [],_,_,h,_,_=>by simp at h
 | x::r,b,0,_,h,_=>by simp at h;simp[cS,h]
 | x::r,b,i+1,hl,h,hn=>by
   have h0:x≠b:=by have:=hn 0 Z9;simpa using this
   have:=kT (l:=r) (i:=i) (by simpa using hl) (by simpa using h) (fun j hj=>by have:=hn (j+1) Z9;simpa using this)
   unfold cS
   rw[if_neg h0,this,if_neg Z9];simp
theorem kj:∀ {l:List Bool} {b:Bool},(∀ j,j<l.length->l.getD j false≠b)->cS l b= -1
 | [],_,_=>rfl
 | x::r,b,hn=>by
   have h0:x≠b:=by have:=hn 0 Z8;simpa using this
   have:=kj (l:=r) (b:=b) (fun j hj=>by have:=hn (j+1) (by simpa using hj);simpa using this)
   unfold cS
   rw[if_neg h0,this];rfl
theorem kN:∀ (l:List Bool) (b:Bool),decide (0<=cS l b)=l.contains b
 | [],_=>rfl
 | x::r,b=>by
   have ih:=kN r b
   unfold cS
   by_cases h:x=b
   subst h;simp
   rw[if_neg h,List.contains_cons,show (b==x)=false from by simp;exact fun c=>h c.symm,Bool.false_or,<- ih]
   congr 1
   apply propext
   split <;> omega
theorem EV{s:BL}{come:List Bool}{j:Nat}(h:j<come.length):NA 42 s come j=(come.getD j false||(decide (0<j)&&NA 42 s come (j-1))):=by
 unfold NA
 simp only[if_true]
 rw[aW h false,List.any_append]
 simp only[List.any_cons,List.any_nil,id,Bool.or_false]
 rw[Bool.or_comm]
 congr 1
 by_cases hj:0<j
 rw[show j-1+1=j from Z9,decide_eq_true hj];rfl
 rw[show j=0 from Z9];rfl
theorem zG{l:List Bool}{i:Nat}{x:Bool}(h:i<l.length):(l.set i x).getD i false=x:=by
 simp[ZZ,h]
theorem zk{l:List Bool}{i j:Nat}{x:Bool}(h:j≠i):(l.set i x).getD j false=l.getD j false:=by
 simp only[ZZ,List.getElem?_set_ne (Ne.symm h)]
theorem DQ{s:BL}{come nx:List Bool}{c:UInt8}(h1:nx.length=s.length+1)(h2:∀ j,j<s.length+1->nx.getD j false=NA c s come j):nx=kc s come c:=by
 apply List.ext_getElem?
 intro j
 by_cases hj:j<s.length+1
 have h3:=h2 j hj
 rw[<- kz (by omega:j<=s.length) (come:=come) (c:=c)]at h3
 have hl:=px s come c
 rw[ZZ,ZZ,ZR Z9,ZR Z9]at h3
 rw[ZR Z9,ZR Z9]
 simpa using h3
 have hl:=px s come c
 rw[List.getElem?_eq_none Z9,List.getElem?_eq_none Z9]
theorem Cz{s b:BL}{i:Nat}(h:i<b.length):ie s (b.take (i+1))=kc s (ie s (b.take i)) (b.getD i 0):=by
 unfold ie;rw[aW h 0,List.foldl_append];rfl
theorem Ch{p:BL}(h:dn p=true):1<=p.length:=by
 unfold dn at h
 simp only[ZX,Zq]at h;exact h.1.1
theorem Dg{p s:BL}(h:dn p=false\/60<(s.length:Int)):cQ p s=false:=by
 unfold cQ
 rw[<- nA]
 rcases h with h | h
 rw[h];rfl
 rw[decide_eq_false Z9];simp
theorem vk{p s:BL}(h:dn p=true/\(s.length:Int)<=60):cQ p s=xN p s:=by
 unfold cQ
 rw[<- nA,h.1,decide_eq_true Z9,IS];rfl
inductive Ln where
 | none
 | caller (n:BL)
 | OA (l:Bool) (p:BL)
 | wait (v:Nat)
def Ba:Ln->Value
 | .none=>.nilIface
 | .caller n=>.iface 220 (.agg #[.string (Str n)])
 | .OA l p=>.iface 222 (.agg #[.bool l,.string (Str p)])
 | .wait v=>.iface 225 (.agg #[.int .i64 (v:Int)])
def kh(gs:List k9)(b:Bool)(n:BL):List k9×Bool:=if gs=[]\/b=true then (gs++[⟨[n],[],0⟩],false) else (dB gs fun z=>⟨z.na++[n],z.ru,z.wa⟩,b)
def ib(gs:List k9)(b:Bool)(l:Bool)(p:BL):List k9×Bool:=if gs=[] then (gs,b) else if gp gs<6 then (dB gs fun z=>⟨z.na,z.ru++[⟨l,p⟩],z.wa⟩,true) else (gs,true)
def kq(gs:List k9)(b:Bool)(v:Nat):List k9×Bool:=if gs=[] then (gs,b) else (dB gs fun z=>⟨z.na,z.ru,v⟩,true)
def fp(gs:List k9)(b:Bool):Ln->List k9×Bool
 | .none=>(gs,b)
 | .caller n=>kh gs b n
 | .OA l p=>ib gs b l p
 | .wait v=>kq gs b v
def eR(w r:BL):Ln:=if w=[99,97,108,108,101,114] then .caller r else if w=[108,101,116]\/w=[98,97,114] then .OA (w==[108,101,116]) r else if w=[119,97,105,116] then .wait (gU r 20).toNat else .none
def fY(w r:BL):Bool:=if w=[99,97,108,108,101,114] then (r==[42])||bp r else if w=[108,101,116]\/w=[98,97,114] then aZ r else if w=[119,97,105,116] then true else false
def Jn(x:List k9×Bool):Prop:=0<gp x.1->x.2=true
def lb(x:List k9×Bool)(l:BL):List k9×Bool:=if fY (ab 32 l).1 (ab 32 l).2.1=true then fp x.1 x.2 (eR (ab 32 l).1 (ab 32 l).2.1) else x
theorem Bh{gs:List k9}{f:k9->k9}(h:gs≠[]):gp (dB gs f)=(f (gs.getLast h)).ru.length:=by
 obtain⟨z,hz⟩:=lr h
 subst hz
 rw[fA,kJ];simp
theorem step_eq{x:List k9×Bool}(hJ:Jn x)(l:BL):lb x l=dT x l/\Jn (dT x l):=by
 obtain⟨gs,b⟩:=x
 unfold lb dT
 generalize (ab 32 l).1=w
 generalize (ab 32 l).2.1=r
 unfold iF
 simp only
 by_cases h1:w=[99,97,108,108,101,114]
 subst h1
 have e1:fY [99,97,108,108,101,114] r=((r==[42])||bp r):=if_pos rfl
 have e2:eR [99,97,108,108,101,114] r=.caller r:=if_pos rfl
 rw[e1,e2]
 by_cases h2:r=[42]\/bp r=true
 have h3:((r==[42])||bp r)=true:=by simpa using h2
 rw[if_pos h3,if_pos ⟨rfl,h2⟩]
 simp only[fp,kh]
 by_cases h4:gs=[]\/b=true
 rw[if_pos h4,if_pos h4.symm]
 refine⟨rfl,?_⟩
 intro hc;simp[kJ]at hc
 rw[if_neg h4,if_neg (fun c=>h4 c.symm)]
 have h5:gs≠[]/\b=false:=by simpa using h4
 refine⟨by rw[h5.2],?_⟩
 intro hc
 rw[Bh h5.1]at hc
 have:0<gp gs:=by
  unfold gp
  rw[List.getLast?_eq_some_getLast h5.1];exact hc
 have:=hJ this
 simp only at this
 rw[h5.2]at this;cases this
 have h3: ¬ ((r==[42])||bp r)=true:=by simpa using h2
 rw[if_neg h3,if_neg (fun c=>h2 c.2)]
 have e3: ¬ (([99,97,108,108,101,114]:BL)=[108,101,116]\/([99,97,108,108,101,114]:BL)=[98,97,114]):=Z6
 by_cases h4:gs=[]
 rw[if_pos h4];exact⟨rfl,hJ⟩
 rw[if_neg h4,if_neg (fun c=>e3 c.1),if_neg Z6];exact⟨rfl,hJ⟩
 rw[if_neg (show ¬ (w=[99,97,108,108,101,114]/\(r=[42]\/bp r=true)) from fun c=>h1 c.1)]
 by_cases h2:w=[108,101,116]\/w=[98,97,114]
 have e1:fY w r=aZ r:=by unfold fY;rw[if_neg h1,if_pos h2]
 have e2:eR w r=.OA (w==[108,101,116]) r:=by unfold eR;rw[if_neg h1,if_pos h2]
 have e3: ¬ w=[119,97,105,116]:=by rcases h2 with rfl | rfl <;> decide
 rw[e1,e2,if_neg e3]
 by_cases h4:gs=[]
 rw[if_pos h4]
 refine⟨?_,hJ⟩
 split
 simp only[fp,ib];rw[if_pos h4]
 rfl
 rw[if_neg h4]
 by_cases h5:aZ r=true
 rw[if_pos h5]
 simp only[fp,ib]
 rw[if_neg h4]
 by_cases h6:gp gs<6
 rw[if_pos h6,if_pos ⟨h2,h5,h6⟩];exact⟨rfl,fun _=>rfl⟩
 rw[if_neg h6,if_neg (fun c=>h6 c.2.2)]
 have:=hJ (by simp only;omega)
 simp only at this
 rw[this];exact⟨rfl,fun _=>rfl⟩
 rw[if_neg h5,if_neg (fun c=>h5 c.2.1)];exact⟨rfl,hJ⟩
 by_cases h3:w=[119,97,105,116]
 have e1:fY w r=true:=by unfold fY;rw[if_neg h1,if_neg h2,if_pos h3]
 have e2:eR w r=.wait (gU r 20).toNat:=by unfold eR;rw[if_neg h1,if_neg h2,if_pos h3]
 rw[e1,e2,if_pos rfl]
 simp only[fp,kq]
 by_cases h4:gs=[]
 rw[if_pos h4,if_pos h4];exact⟨rfl,hJ⟩
 rw[if_neg h4,if_neg h4,if_neg (fun c=>h2 c.1),if_pos h3];exact⟨rfl,fun _=>rfl⟩
 have e1:fY w r=false:=by unfold fY;rw[if_neg h1,if_neg h2,if_neg h3]
 rw[e1,if_neg Z6]
 refine⟨?_,?_⟩
 split
 rfl
 first | rfl | (rw[if_neg (fun c=>h2 c.1)])
 split
 exact hJ
 first | exact hJ | (rw[if_neg (fun c=>h2 c.1)];exact hJ)
theorem fold_eq:∀ (ls:List BL) {x:List k9×Bool},Jn x->ls.foldl lb x=ls.foldl dT x
 | [],_,_=>rfl
 | l::ls,x,h=>by
   obtain⟨h1,h2⟩:=step_eq h l
   rw[List.foldl_cons,List.foldl_cons,h1];exact fold_eq ls h2
theorem vu(t:BL):(((ah 10 t).take 40).foldl lb ([],false)).1=cn t:=by
 unfold cn
 rw[fold_eq _ (x:=([],false)) (by intro h;simp[gp]at h)]
theorem zS{l:List BL}{n:BL}:(l.any fun y=>y==n)=l.contains n:=by
 induction l with
 | nil=>rfl
 | cons a r ih=>rw[List.any_cons,List.contains_cons,ih,Bool.beq_comm]
theorem zJ(n:BL):∀ (gs:List k9) {x:(List s5×Nat)×Bool},(gs.foldl (cW n) x).2=(x.2||gs.any fun y=>y.na.contains n)
 | [],x=>by simp
 | g::gs,x=>by
   rw[List.foldl_cons,zJ n gs,List.any_cons]
   unfold cW
   rw[zS]
   split
   rename_i h;rw[h];simp
   rename_i h;simp only[Bool.not_eq_true]at h;rw[h];simp
theorem Em(gs:List k9)(n:BL):(Pt gs n).2=gs.any fun y=>y.na.contains n:=by
 unfold Pt;simp only;rw[zJ];simp
def jg(gs:List k9)(n:BL):BL:=if (gs.any fun y=>y.na.contains n)=true then n else [42]
theorem AA(gs:List k9)(n:BL):(fD gs n).ru=(gs.foldl (cW (jg gs n)) (([],0),false)).1.1/\(fD gs n).wa=(gs.foldl (cW (jg gs n)) (([],0),false)).1.2:=by
 unfold fD jg
 rw[Em]
 split <;> exact⟨rfl,rfl⟩
theorem xP{n:BL}{x:(List s5×Nat)×Bool}{g:k9}:(cW n x g).1=if g.na.contains n=true then (x.1.1++g.ru,max x.1.2 g.wa) else x.1:=by
 unfold cW
 rw[zS]
 split <;> rfl
theorem xF{α:Type}{l:List α}{d:α}{p:α->Prop}(h:∀ x,x∈l->p x)(hd:p d)(i:Nat):p (l.getD i d):=by
 rw[ZZ]
 cases e:l[i]? with
 | none=>exact hd
 | some x=>exact h x (ZD e)
section
variable {w w':World} {Pb Kb Pb':Nat->Prop} {N:Nat} {A A' B:AS} {a:Act} {F:l6->List Nat} {P:Program} {ops:Array Oper}
theorem eZ{g o:Nat}{v:V}{vs:List V}{p:List Nat}:V.at g o (.agg (v::vs)) (0::p)=V.at g (o+0) v p:=rfl
theorem zq{X:Type}{v:X->V}{d:Nat}{Sl Hl:List Nat}(h:d∈Sl)(fs:List Nat):Qz (fun x B=>AS.put B (some d) (v x)) fs Sl Hl where
 g:=fun g B t ht=>by rw[AS.au,if_neg (fun c=>ht (by rw[c];exact h))]
 h:=fun g B k hk=>rfl
 c:=fun g B B' hB=>lA hB
 p:=fun g B q v' hq _=>⟨fun q2=>by
  rw[AS.au,AS.au,AS.au,AS.au]
  by_cases c:q2=d
  subst c;rw[if_pos rfl,if_neg (fun c=>hq (by rw[<- c];exact h)),if_pos rfl]
  rw[if_neg c,if_neg c],fun k=>rfl⟩
 q:=fun g B k gv hq=>⟨fun _=>rfl,fun _=>rfl⟩
def boE:Eu P where
 X:=Nat
 pre N o A Sl _:=match o.op,o.dst with
  | .buildSlice T len a8,some d=>match tD P T with
    | some (.sl e)=>match ti P e,ey A 0 a8.toList with
      | some i,some vs=>match QP P T e len i vs&&Nat.blt d N&&Nat.blt 0 len&&Sl.contains d with
        | true=>True
        | false=>False
      | _,_=>False
    | _=>False
  | _,_=>False
 U o A g B:=match o.op,o.dst with
   | .buildSlice T len a8,some d=>match tD P T with
     | some (.sl e)=>match ti P e,ey A 0 a8.toList with
       | some i,some vs=>B.put (some d) (.own i.sz vs g 0 len)
       | _,_=>B
     | _=>B
   | _,_=>B
 Ul:=by
  rintro N ⟨dst,op,ty,pos,after,B9⟩ A Sl Hl hp fs
  simp only at hp
  split at hp
  rename_i T len a8 d
  split at hp
  rename_i e e1
  split at hp
  rename_i i vs e2 e3
  split at hp
  rename_i e4
  simp only[ZX,Zs,Zq]at e4
  exact zq (v:=fun g:Nat=>.own i.sz vs g 0 len) e4.2 fs
  exact hp.elim
  exact hp.elim
  exact hp.elim
  exact hp.elim
 ok:=by
  rintro N ⟨dst,op,ty,pos,after,B9⟩ A A' Sl Hl-hp hA hR
  simp only at hp
  split at hp
  rename_i T len a8 d
  split at hp
  rename_i e e1
  split at hp
  rename_i i vs e2 e3
  split at hp
  rename_i e4
  simp only[ZX]at e4
  have P5:ey A' 0 a8.toList=some vs:=by
   rw[mU a8.toList 0 fun t ht=>hA t (by simpa[Op.operands] using ht)];exact e3
  exact yW rfl rfl (bu e4.1.1.2) e1 e2 P5 e4.1.1.1 (bu e4.1.2) fun g=>⟨g,by simp only[e1,e2,e3]⟩
  exact hp.elim
  exact hp.elim
  exact hp.elim
  exact hp.elim
theorem Bk{X:Type}{v:X->V}{d k:Nat}{p:List Nat}{Sl Hl:List Nat}(h:d∈Sl)(hk:k∈Hl)(fs:List Nat):Qz (fun x B=>AS.put (AS.setAt B (.key k) p .b7) (some d) (v x)) fs Sl Hl where
 g:=fun g B t ht=>by rw[AS.au,if_neg (fun c=>ht (by rw[c];exact h))];exact bN
 h:=fun g B q hq=>ri (fun c=>hq (by rw[c];exact hk))
 c:=fun g B B' hB=>lA ⟨fun q=>by rw[bN,bN];exact hB.1 q,fun k=>gz hB.2⟩
 p:=fun g B q v' hq _=>⟨fun q2=>by
  rw[AS.au,AS.au,AS.au]
  by_cases c:q2=d
  subst c;rw[if_pos rfl,if_neg (fun c=>hq (by rw[<- c];exact h)),if_pos rfl]
  rw[if_neg c]
  by_cases c2:q2=q
  subst c2;rw[if_pos rfl,bN,AS.au,if_pos rfl]
  rw[if_neg c2,if_neg c,bN,bN,AS.au,if_neg c2],fun k=>gz fun _=>rfl⟩
 q:=fun g B q gv hq=>rJ (oI (fun c=>hq (by rw[c];exact hk)))
def VS(k:Nat):List Nat->List Nat
 | i::_::_=>if Nat.blt i 100=true then [100*k+i] else []
 | _=>[]
theorem He{B:AS}{k q:Nat}{p:List Nat}{v:V}(h:q∈VS k p):LY (B.setAt (.key k) p v).h q=LY B.h q:=by
 unfold VS at h
 split at h
 rename_i i j r
 split at h
 rename_i hi
 have hi:i<100:=by simpa[Nat.blt_eq] using hi
 obtain rfl:q=100*k+i:=by simpa using h
 unfold AS.setAt
 simp only
 split
 rename_i g t e
 unfold LY
 rw[show (100*k+i) / 100=k from Z9,show (100*k+i) % 100=i from Z9]
 simp only[lk,if_true,e]
 cases t with
 | agg vs=>
   cases hx:vs[i]? with
   | none=>simp only[V.set,hx]
   | some x=>
     have hl:i<vs.length:=(ZH.1 hx).1
     have ht:∀ y,(vs.set i y).take i=vs.take i:=fun y=>List.take_set_of_le (Zy _)
     simp only[V.set,hx,V.at,List.getElem?_set_self hl,ht]
     cases x with
     | own sz xs g1 o1 c=>
       simp only[V.set]
       cases hy:xs[j]? with
       | none=>rfl
       | some y=>simp only[List.length_set]
     | agg ws=>
       simp only[V.set]
       cases hy:ws[j]? with
       | none=>rfl
       | some y=>rfl
     | _=>simp only[V.set]
 | own sz xs g1 o1 c=>
   simp only[V.set]
   cases hx:xs[i]? with
   | none=>rfl
   | some x=>
     have hl:i<xs.length:=(ZH.1 hx).1
     simp only[V.at,hx,List.getElem?_set_self hl]
     cases x with
     | own sz xs g1 o1 c=>
       simp only[V.set]
       cases hy:xs[j]? with
       | none=>rfl
       | some y=>simp only[List.length_set]
     | agg ws=>
       simp only[V.set]
       cases hy:ws[j]? with
       | none=>rfl
       | some y=>rfl
     | _=>simp only[V.set]
 | _=>simp only[V.set]
 rfl
 cases h
 cases h
def VK(k:Nat)(p:List Nat)(xs ys:List V)(g0 o0 sz g o1 c:Nat):Eu P where
 X:=Nat×Nat×Nat
 pre N o A Sl Hl:=match o.op,o.dst with
  | .call ⟨.builtin .append,⟨[.tmp t0,x]⟩,⟨[T,T2]⟩⟩,some d=>match o.type==T&&Nat.blt d N&&Sl.contains d&&Hl.contains k,lK P T T2 with
    | true,some t=>match A.ev x with
      | .sl _ VN=>VN=ys/\A.get t0=.hd (.key k) p sz g o1 0 xs.length c/\A.at (.key k) p=some (g0,o0,.own sz xs g o1 c)/\sz=t.sz/\V.ay ys=false/\aC t.sz ys/\(xs.length+ys.length)*t.J9<=140737488355328
      | _=>False
    | _,_=>False
  | _,_=>False
 U o A gh B:=match o.dst with
   | some d=>(B.setAt (.key k) p .b7).put (some d) (.own sz (xs++ys) gh.1 gh.2.1 gh.2.2)
   | none=>B
 Ul:=by
  rintro N ⟨dst,op,ty,pos,after,B9⟩ A Sl Hl hp fs
  simp only at hp
  split at hp
  rename_i t0 x T T2 d
  split at hp
  rename_i t e1 e2
  simp only[ZX,Zs,Zq]at e1
  exact Bk (v:=fun gh:Nat×Nat×Nat=>.own sz (xs++ys) gh.1 gh.2.1 gh.2.2) e1.1.2 e1.2 fs
  exact hp.elim
  exact hp.elim
 prom:=VS k p
 Xd:=by
  intro N o A Sl Hl _ q hq x B
  split
  exact He hq
  rfl
 ok:=by
  rintro N ⟨dst,op,ty,pos,after,B9⟩ A A' Sl Hl-hp hA hR
  simp only at hp
  split at hp
  rename_i t0 x T T2 d
  split at hp
  rename_i t e1 e2
  split at hp
  rename_i fl VN e3
  obtain⟨rfl,k1,k2,k3,k4,k5,k6⟩:=hp
  simp only[ZX,Zp]at e1
  obtain⟨e,e',q1,q2,q3,q4,q5,q6⟩:=gP e2
  subst k3
  obtain⟨⟨⟨rfl,e5⟩,_⟩,_⟩:=e1
  have hx:A'.ev x=A.ev x:=bb fun t ht=>hA t (by subst ht;simp[Op.operands,Call.operands])
  have h0:A'.get t0=A.get t0:=hA t0 (by simp[Op.operands,Call.operands])
  refine xH rfl rfl rfl (bu e5) q1 q2 q3 (kC q4) q5 q6 (by rw[h0];exact k1) (by simp only[AS.at,hR];simpa only[AS.at] using k2) rfl rfl (by unfold Nw;rw[hx,e3]) trivial k4 k5 k6 fun g o c=>⟨(g,o,c),rfl⟩
  exact hp.elim
  exact hp.elim
  exact hp.elim
end
def Dt(s:BL)(c:UInt8):o8 Tryz.prog:={ f:=168,args:=[sV s,sV [c]],pre:=True,res:=iV (Lib.indexByte s c),ok:=fun _=>HB s c }
def Gc(s:BL):o8 Tryz.prog:={ f:=142,args:=[sV s,sV [47,63]],pre:=(s.length<=1000000)/\(∀ c,c∈s->c.toNat<128),res:=iV (Lib.indexAny s [47,63]),ok:=fun h=>KA s h.1 h.2 }
def Cm(l:List BL)(sep:BL):o8 Tryz.prog:={ f:=132,args:=[ao l,sV sep],pre:=(l.length<=1000000)/\((Lib.join l sep).length<=1000000),res:=sV (Lib.join l sep),ok:=fun h=>Io false l sep h.1 h.2 }
def oU(l:List BL)(x:BL):o8 Tryz.prog:={ f:=59,args:=[ao l,sV x],pre:=(l.length<=1000000),res:=bV (l.contains x),ok:=fun h=>Js false l x h }
def zA(s:BL)(c:UInt8):o8 Tryz.prog:={ f:=180,args:=[sV s,sV [c],iV 0,iV (-1)],pre:=(s.length<=1000000),res:=.sl true ((cM c s).map sV),ok:=fun h=>FK s c h }
def iY(l:List BL):o8 Tryz.prog:={ f:=40,args:=[ao l],pre:=(l.length<=1000000),res:=.ow 1 (l.map sV),ok:=fun h=>FU false l h }
def wo(b:UInt8):o8 Tryz.prog:={ f:=198,args:=[uN b.toNat],pre:=True,res:=.tup [iV (max (bW b) 0),bV (decide (0<=bW b))],ok:=fun _=>Jd b }
abbrev mV(s:BL)(c:UInt8):V:=.tup [sV ((ab c s).1),sV ((ab c s).2.1),bV ((ab c s).2.2)]
def An(s:BL)(c:UInt8):o8 Tryz.prog:=.mk 140 [sV s,sV [c]] [] (s.length<=1000000) (mV s c) [] (by
 intro hs
 have ME:([c]:BL).length=1:=rfl
 refine aq (N:=23) (rs:=[.tmp 4,.tmp 5,.tmp 6]) Tryz.func140
  (.q 3<|.q 2<|.c (Dt s c) []<|.q 1<|.q 2<|.br (.dx 10 [0,1,2,3,4,5,6,7,8,9] [] []<|.q 1<|.q 1<|.q 1<|.q 1<|.q 1<|.q 1<|.q 1<|.q 1<|.q 1<|.q 1<|.q 2<|.nil) (.q 4<|.nil))
  ((fun v1:Int=>((Dt s c).sm/\(True)/\Br (x6 (Lib.indexByte s c) 0) (Sx (0:Int) (Lib.indexByte s c) s/\m6 ((Lib.indexByte s c)+v1)/\Sx ((Lib.indexByte s c)+v1) (s.length:Int) s/\Q (.tup [sV ((s.take (Int.toNat (Lib.indexByte s c))).drop ((0:Int).toNat)),sV ((s.take s.length).drop (Int.toNat ((Lib.indexByte s c)+v1))),bV true]) (mV s c)) (Q (.tup [sV s,sV [],bV false]) (mV s c)))) ((([c]:BL).length:Nat):Int)) ?_
 refine⟨rfl,trivial,?_⟩
 refine bI (fun j7=>?_) fun j7=>?_
 have hlt:=IK s c j7
 refine⟨Z9,Z9,Z9,?_⟩
 unfold Q mV
 rw[ER j7,ME,show (Lib.indexByte s c+((1:Nat):Int)).toNat=(Lib.indexByte s c).toNat+1 from Z9,List.take_length];rfl
 unfold Q mV
 rw[HE Z9])
abbrev AV(s:BL)(c:UInt8):V:=.tup [sV ((ab c s).1),sV ((ab c s).2.1),bV ((ab c s).2.2)]
def my(s:BL)(c:UInt8):o8 Tryz.prog:=.mk 113 [sV s,sV [c]] [] (s.length<=1000000) (AV s c) [] (by
 intro hs
 refine aq (N:=13) (rs:=[.tmp 4,.tmp 5,.tmp 6]) Tryz.func113
  (.q 3<|.q 2<|.c (An s c) []<|.q 6<|.nil)
  ((An s c).sm/\((s.length<=1000000))/\Q (.tup [sV ((ab c s).1),sV ((ab c s).2.1),bV ((ab c s).2.2)]) (AV s c)) ?_
 refine⟨rfl,Z5,?_⟩
 unfold Q AV
 rfl)
def oO(s:BL)(c:UInt8):o8 Tryz.prog:=.mk 153 [sV s,sV [c]] [] (s.length<=1000000) (.sl true ((ah c s).map sV)) [] (by
 intro hs
 refine aq (N:=8) (rs:=[.tmp 4]) Tryz.func153
  (.q 1<|.q 2<|.c (zA s c) []<|.q 1<|.nil)
  ((zA s c).sm/\((s.length<=1000000))/\Q (.sl true ((cM c s).map sV)) (.sl true ((ah c s).map sV))) ?_
 refine⟨rfl,Z5,?_⟩
 unfold Q
 rw[wL])
theorem KB(n:Nat):(.lit (.int .u8 (Int.fdiv (n:Int) (2 ^ 4))):V)=.lit (.int .u8 ((n / 16:Nat):Int)):=by
 congr 2;rw[Int.fdiv_eq_ediv_of_nonneg _ Z6];omega
theorem Gt(n:Nat):(.lit (.int .u8 ((n &&& 15:Nat):Int)):V)=.lit (.int .u8 ((n % 16:Nat):Int)):=by
 congr 3;exact Nat.and_two_pow_sub_one_eq_mod n 4
def ik(s:BL):o8 Tryz.prog:=.mk 144 [sV s] [] (s.length<=1099511627776) (sV (aO s)) [] (by
 intro hs
 refine aq (N:=29) (rs:=[.tmp 2]) Tryz.func144
  (.q 1<|.q 1<|.sb s (fun g7 c7=>.q 1<|.q 3<|.loop (Nat×BL×Nat×Nat) (fun (i,l,g,k)=>⟨[(3,.own 1 (l.map m7) g 0 k),(8,.hd (.slot 3) [] 1 g 0 0 ((l.map m7).length) k),(9,iN s.length),(10,iN i)],[]⟩) (fun (i,l,g,k)=>i<=s.length/\l.length=s.length/\l=aO (s.take i)++s.drop i) (fun (i,l,g,k)=>s.length-i) (fun (i,l,g,k)=>.q 1<|.br (.r 5 [uN ((l.getD i 0).toNat)]<|.q 6<|.br (.q 4<|.h (.o4 24 (uN ((du (l.getD i 0)).toNat)))<|.q 1<|.st (some (uN ((l.getD i 0).toNat)))<|.h (.o4 3 (.own 1 ((l.set i (du (l.getD i 0))).map m7) g 0 k))<|.q 2<|.nil) (.q 2<|.nil)) (.q 1<|.J9 l<|.q 1<|.nil))))
  (((sV s:V)=sV s)/\∀ g7 c7:Nat,(∃ x:Nat×BL×Nat×Nat,match x with | (h9,MK,A5,r9)=>(h9<=s.length/\MK.length=s.length/\MK=aO (s.take h9)++s.drop h9)/\Q (.own 1 (s.map m7) g7 0 c7) (.own 1 (MK.map m7) A5 0 r9)/\Q (.hd (.slot 3) [] 1 g7 0 0 ((s.map m7).length) c7) (.hd (.slot 3) [] 1 A5 0 0 ((MK.map m7).length) r9)/\Q (iN ((s.map m7).length)) (iN s.length)/\Q (iN 0) (iN h9)/\True)/\∀ x:Nat×BL×Nat×Nat,match x with | (i,l,g,k)=>(i<=s.length/\l.length=s.length/\l=aO (s.take i)++s.drop i)->(fun v1:Int=>(fun v2:V=>Br (s4 (i:Int) (s.length:Int)) (In (i:Int) ((l.map m7).length)/\(V.at g 0 v2 [0+i]=some (g,(0+(0+i)*1),uN ((l.getD i 0).toNat)))/\Pk (x6 v1 65) ((x6 v1 65)==true) true/\Br ((x6 v1 65)&&(C6 v1 90)) (Ov (v1+32)/\((uN (((l.getD i 0).toNat)+32):V)=uN ((du (l.getD i 0)).toNat))/\In (i:Int) ((l.map m7).length)/\(V.at g 0 v2 [0+i]=some (g,(0+(0+i)*1),uN ((l.getD i 0).toNat)))/\(V.set v2 [0+i] (uN ((du (l.getD i 0)).toNat))=.own 1 ((l.set i (du (l.getD i 0))).map m7) g 0 k)/\m6 ((i:Int)+1)/\∃ x:Nat×BL×Nat×Nat,match x with | (b9,D8,s3,k₂)=>(b9<=s.length/\D8.length=s.length/\D8=aO (s.take b9)++s.drop b9)/\(s.length-b9<s.length-i)/\Q (.own 1 ((l.set i (du (l.getD i 0))).map m7) g 0 k) (.own 1 (D8.map m7) s3 0 k₂)/\Q (.hd (.slot 3) [] 1 g 0 0 ((l.map m7).length) k) (.hd (.slot 3) [] 1 s3 0 0 ((D8.map m7).length) k₂)/\E (iN s.length)/\Q (iN (i+1)) (iN b9)/\True) (m6 ((i:Int)+1)/\∃ x:Nat×BL×Nat×Nat,match x with | (b9,D8,s3,k₂)=>(b9<=s.length/\D8.length=s.length/\D8=aO (s.take b9)++s.drop b9)/\(s.length-b9<s.length-i)/\Q v2 (.own 1 (D8.map m7) s3 0 k₂)/\Q (.hd (.slot 3) [] 1 g 0 0 ((l.map m7).length) k) (.hd (.slot 3) [] 1 s3 0 0 ((D8.map m7).length) k₂)/\E (iN s.length)/\Q (iN (i+1)) (iN b9)/\True)) (((1=1/\g=g/\0=0)/\0+((l.map m7).length)<=(l.map m7).length/\V.ay (l.map m7)=false/\aC 1 (l.map m7))/\(((l.map m7).drop 0).take ((l.map m7).length)=l.map m7)/\Q (sV l) (sV (aO s)))) (.own 1 (l.map m7) g 0 k)) (((l.getD i 0).toNat:Nat):Int)) ?_
 refine⟨rfl,?_⟩
 intro g7 c7
 refine⟨⟨(0,s,g7,c7),?_,rfl,rfl,Z4,rfl,trivial⟩,?_⟩
 simp[aO]
 rintro⟨i,l,g,k⟩ ⟨h1,h2,h3⟩
 have hbi:=(l.getD i 0).toNat_lt
 refine bI (fun j7=>?_) fun j7=>?_
 refine⟨Z2,fC (by rw[ZO];exact aj (d:=0) Z9),⟨fun h=>by rw[h] <;> rfl,fun _=>rfl⟩,?_⟩
 refine bI (fun l4=>?_) fun l4=>?_
 refine⟨by have:=Zx (l.getD i 0);omega,(Zo uN (vN Z9).symm),Z2,fC (by rw[ZO];exact aj (d:=0) Z9),lJ (by rw[ZO];exact aj (d:=0) Z9) (by rw[ZO];exact(List.map_set ..).symm),Z9,?_⟩
 refine⟨(i+1,l.set i (du (l.getD i 0)),g,k),?_,?_,rfl,Z4,rfl,rfl,trivial⟩
 refine⟨Z9,by simp[h2],?_⟩
 exact vE Z9 h3
 exact Z1
 refine⟨Z9,?_⟩
 refine⟨(i+1,l,g,k),?_,?_,rfl,rfl,rfl,rfl,trivial⟩
 refine⟨Z9,h2,?_⟩
 exact tn Z9 h3 Z9
 exact Z1
 refine⟨⟨⟨rfl,rfl,rfl⟩,Z8,nI _,qa _⟩,by simp[ZL],?_⟩
 unfold Q
 rw[h3,ZC Z9,ZL Z9,List.append_nil])
def sL(s:BL)(i:Nat):o8 Tryz.prog:=.mk 184 [sV s,iN i] [] ((s.length<=1000000)/\(i<s.length)) (.tup [uN ((cG s i).toNat),bV (gN s i)]) [] (by
 rintro⟨hs,hi⟩
 have q1:=fe (s.getD (i+1) 0)
 have q2:=fe (s.getD (i+2) 0)
 have q3:=gy (s.getD (i+1) 0)
 have q4:=gy (s.getD (i+2) 0)
 refine aq (N:=42) (rs:=[.tmp 4,.tmp 5]) Tryz.func184
  (.q 2<|.q 5<|.br (.q 2<|.nil) (.q 4<|.c (wo (s.getD (i+1) 0)) []<|.q 5<|.q 4<|.c (wo (s.getD (i+2) 0)) []<|.q 5<|.q 6<|.br (.q 2<|.nil) (.q 7<|.nil)))
  ((fun v1:V=>(fun v2:Bool=>(m6 ((s.length:Int)-(i:Int))/\Br (s4 ((s.length:Int)-(i:Int)) 3) (Q (.tup [uN 0,bV false]) v1) (m6 ((i:Int)+1)/\Ix ((i+1:Nat):Int) s/\(wo (s.getD (i+1) 0)).sm/\(True)/\m6 ((i:Int)+2)/\Ix ((i+2:Nat):Int) s/\(wo (s.getD (i+2) 0)).sm/\(True)/\Pk v2 true (v2==false)/\Br (v2||(!(decide (0<=bW (s.getD (i+2) 0))))) (Q (.tup [uN 0,bV false]) v1) (m6 ((max (bW (s.getD (i+1) 0)) 0)*16)/\m6 (((max (bW (s.getD (i+1) 0)) 0)*16)+(max (bW (s.getD (i+2) 0)) 0))/\Ov (((max (bW (s.getD (i+1) 0)) 0)*16)+(max (bW (s.getD (i+2) 0)) 0))/\Q (.tup [.lit (.int .u8 (((max (bW (s.getD (i+1) 0)) 0)*16)+(max (bW (s.getD (i+2) 0)) 0))),bV true]) v1)))) (!(decide (0<=bW (s.getD (i+1) 0))))) (.tup [uN ((cG s i).toNat),bV (gN s i)])) ?_
 refine⟨Z9,?_⟩
 refine bI (fun j7=>?_) fun j7=>?_
 unfold Q
 have h:gN s i=false:=by rw[<- Bool.not_eq_true,fW];omega
 rw[xt h,h];rfl
 refine⟨Z9,Z9,rfl,trivial,Z9,Z9,rfl,trivial,⟨fun _=>rfl,fun h=>by rw[h] <;> rfl⟩,?_⟩
 refine bI (fun l4=>?_) fun l4=>?_
 unfold Q
 have h:gN s i=false:=by
  rw[<- Bool.not_eq_true,fW];grind
 rw[xt h,h];rfl
 refine⟨by have:=fe (s.getD (i+1) 0);have:=gy (s.getD (i+1) 0);omega,by have:=fe (s.getD (i+1) 0);have:=gy (s.getD (i+1) 0);have:=fe (s.getD (i+2) 0);have:=gy (s.getD (i+2) 0);omega,by have:=fe (s.getD (i+1) 0);have:=gy (s.getD (i+1) 0);have:=fe (s.getD (i+2) 0);have:=gy (s.getD (i+2) 0);omega,?_⟩
 unfold Q
 have h:gN s i=true:=by
  rw[fW];grind
 have h1:=fW.1 h
 have h2:=rn h1.2.1 h1.2.2
 rw[pS h,h]
 show V.tup [.lit (.int .u8 _),_]=V.tup [.lit (.int .u8 _),_]
 rw[h2,Int.max_eq_left h1.2.1,Int.max_eq_left h1.2.2])
def iw(s:BL):o8 Tryz.prog:=.mk 159 [sV s] [] (s.length<=1000000) (.tup [sV ((bF s).1),bV ((bF s).2)]) [] (by
 intro hs
 have hf16:([48,49,50,51,52,53,54,55,56,57,65,66,67,68,69,70]:BL).length=16:=rfl
 refine aq (N:=51) (rs:=[.tmp 2,.tmp 3]) Tryz.func159
  ((fun y1:BL=>(.q 2<|.q 3<|.br (.q 2<|.nil) (.q 1<|.q 1<|.h (.H2 4 1)<|.loop (Nat×BL×Nat×Nat×Nat) (fun (i,o,g,f,k)=>⟨[(0,sV s),(4,.own 1 (o.map m7) g f k),(5,iN i)],[]⟩) (fun (i,o,g,f,k)=>i<=s.length/\o.length<=3*i/\bw s=(bw (s.drop i)).map (o++ ·)) (fun (i,o,g,f,k)=>s.length-i) (fun (i,o,g,f,k)=>.q 4<|.br (.q 4<|.q 2<|.br (.q 2<|.c (sL s i) []<|.q 5<|.q 2<|.br (.q 2<|.nil) (.q 2<|.q 3<|.q 1<|.c (jQ (cG s i)) []<|.br (.q 2<|.bs<|.ap (fun MG N3 Oq=>.h (.o4 39 (.own 1 ((o++[(cG s i)]).map m7) MG N3 Oq))<|.q 1<|.q 3<|.nil)) (.dx 8 [0,1,2,3,4,5,6,7] [] []<|.q 1<|.q 1<|.q 1<|.h (.o4 42 (uN ((cG s i).toNat / 16)))<|.q 1<|.q 1<|.q 1<|.h (.o4 45 (uN ((cG s i).toNat % 16)))<|.q 1<|.bs<|.ap (fun J7 J5 J8=>.h (.o4 48 (.own 1 ((o++[37,(y1.getD ((cG s i).toNat / 16) 0),(y1.getD ((cG s i).toNat % 16) 0)]).map m7) J7 J5 J8))<|.q 1<|.q 3<|.nil)))) (.q 1<|.c (jQ (s.getD i 0)) []<|.br (.q 2<|.bs<|.ap (fun MG N3 Oq=>.h (.o4 39 (.own 1 ((o++[(s.getD i 0)]).map m7) MG N3 Oq))<|.q 1<|.q 3<|.nil)) (.dx 8 [0,1,2,3,4,5,6,7] [] []<|.q 1<|.q 1<|.q 1<|.h (.o4 42 (uN ((s.getD i 0).toNat / 16)))<|.q 1<|.q 1<|.q 1<|.h (.o4 45 (uN ((s.getD i 0).toNat % 16)))<|.q 1<|.bs<|.ap (fun J7 J5 J8=>.h (.o4 48 (.own 1 ((o++[37,(y1.getD ((s.getD i 0).toNat / 16) 0),(y1.getD ((s.getD i 0).toNat % 16) 0)]).map m7) J7 J5 J8))<|.q 1<|.q 3<|.nil)))) (.q 1<|.J9 o<|.q 2<|.nil))):Sc Tryz.prog)) ([48,49,50,51,52,53,54,55,56,57,65,66,67,68,69,70]:BL))
  ((fun v1:BL=>(fun v2:V=>(Br (s7 (s.length:Int) 60) (Q (.tup [sV [],bV false]) v2) ((∃ x:Nat×BL×Nat×Nat×Nat,match x with | (h9,s8,A5,x9,r9)=>(h9<=s.length/\s8.length<=3*h9/\bw s=(bw (s.drop h9)).map (s8++ ·))/\E (sV s)/\Q (.own 1 ([].map m7) 0 0 0) (.own 1 (s8.map m7) A5 x9 r9)/\Q (iN 0) (iN h9)/\True)/\∀ x:Nat×BL×Nat×Nat×Nat,match x with | (i,o,g,f,k)=>(i<=s.length/\o.length<=3*i/\bw s=(bw (s.drop i)).map (o++ ·))->(fun v3:List V=>(fun v4:List V=>(fun v5:List V=>(fun v6:List V=>(fun v7:Int=>(fun v8:Int=>Br (s4 (i:Int) (s.length:Int)) (Ix (i:Int) s/\Br (o6 v7 37) ((sL s i).sm/\((s.length<=1000000)/\(i<s.length))/\Br (!(gN s i)) (Q (.tup [sV [],bV false]) v2) (m6 ((i:Int)+2)/\(jQ (cG s i)).sm/\(True)/\Br (dE (cG s i)) (((1,1,g,f,k,(o.map m7).length)=(1,1,g,f,k,(o.map m7).length))/\(True)/\(V.ay v6=false)/\(aC 1 v6)/\(((o.map m7).length+v6.length)*1<=140737488355328)/\∀ MG N3 Oq:Nat,((.own 1 ((o.map m7)++v6) MG N3 Oq:V)=.own 1 ((o++[(cG s i)]).map m7) MG N3 Oq)/\m6 (((i+2:Nat):Int)+1)/\∃ x:Nat×BL×Nat×Nat×Nat,match x with | (b9,l7,s3,o9,k₂)=>(b9<=s.length/\l7.length<=3*b9/\bw s=(bw (s.drop b9)).map (l7++ ·))/\(s.length-b9<s.length-i)/\E (sV s)/\Q (.own 1 ((o++[(cG s i)]).map m7) MG N3 Oq) (.own 1 (l7.map m7) s3 o9 k₂)/\Q (iN ((i+2)+1)) (iN b9)/\True) (((0:Int)<=4/\(4:Int)<((8:Nat):Int))/\Q (.lit (.int .u8 (Int.fdiv v8 (2 ^ 4)))) (uN ((cG s i).toNat / 16))/\Ix (((cG s i).toNat / 16:Nat):Int) v1/\((0:Int)<=v8/\(0:Int)<=15/\Ov v8/\Ov 15)/\Q (uN (((cG s i).toNat) &&& 15)) (uN ((cG s i).toNat % 16))/\Ix (((cG s i).toNat % 16:Nat):Int) v1/\((1,1,g,f,k,(o.map m7).length)=(1,1,g,f,k,(o.map m7).length))/\(True)/\(V.ay v4=false)/\(aC 1 v4)/\(((o.map m7).length+v4.length)*1<=140737488355328)/\∀ J7 J5 J8:Nat,((.own 1 ((o.map m7)++v4) J7 J5 J8:V)=.own 1 ((o++[37,(v1.getD ((cG s i).toNat / 16) 0),(v1.getD ((cG s i).toNat % 16) 0)]).map m7) J7 J5 J8)/\m6 (((i+2:Nat):Int)+1)/\∃ x:Nat×BL×Nat×Nat×Nat,match x with | (b9,l7,s3,o9,k₂)=>(b9<=s.length/\l7.length<=3*b9/\bw s=(bw (s.drop b9)).map (l7++ ·))/\(s.length-b9<s.length-i)/\E (sV s)/\Q (.own 1 ((o++[37,(v1.getD ((cG s i).toNat / 16) 0),(v1.getD ((cG s i).toNat % 16) 0)]).map m7) J7 J5 J8) (.own 1 (l7.map m7) s3 o9 k₂)/\Q (iN ((i+2)+1)) (iN b9)/\True))) ((jQ (s.getD i 0)).sm/\(True)/\Br (dE (s.getD i 0)) (((1,1,g,f,k,(o.map m7).length)=(1,1,g,f,k,(o.map m7).length))/\(True)/\(V.ay v5=false)/\(aC 1 v5)/\(((o.map m7).length+v5.length)*1<=140737488355328)/\∀ MG N3 Oq:Nat,((.own 1 ((o.map m7)++v5) MG N3 Oq:V)=.own 1 ((o++[(s.getD i 0)]).map m7) MG N3 Oq)/\m6 ((i:Int)+1)/\∃ x:Nat×BL×Nat×Nat×Nat,match x with | (b9,l7,s3,o9,k₂)=>(b9<=s.length/\l7.length<=3*b9/\bw s=(bw (s.drop b9)).map (l7++ ·))/\(s.length-b9<s.length-i)/\E (sV s)/\Q (.own 1 ((o++[(s.getD i 0)]).map m7) MG N3 Oq) (.own 1 (l7.map m7) s3 o9 k₂)/\Q (iN (i+1)) (iN b9)/\True) (((0:Int)<=4/\(4:Int)<((8:Nat):Int))/\Q (.lit (.int .u8 (Int.fdiv v7 (2 ^ 4)))) (uN ((s.getD i 0).toNat / 16))/\Ix (((s.getD i 0).toNat / 16:Nat):Int) v1/\((0:Int)<=v7/\(0:Int)<=15/\Ov v7/\Ov 15)/\Q (uN (((s.getD i 0).toNat) &&& 15)) (uN ((s.getD i 0).toNat % 16))/\Ix (((s.getD i 0).toNat % 16:Nat):Int) v1/\((1,1,g,f,k,(o.map m7).length)=(1,1,g,f,k,(o.map m7).length))/\(True)/\(V.ay v3=false)/\(aC 1 v3)/\(((o.map m7).length+v3.length)*1<=140737488355328)/\∀ J7 J5 J8:Nat,((.own 1 ((o.map m7)++v3) J7 J5 J8:V)=.own 1 ((o++[37,(v1.getD ((s.getD i 0).toNat / 16) 0),(v1.getD ((s.getD i 0).toNat % 16) 0)]).map m7) J7 J5 J8)/\m6 ((i:Int)+1)/\∃ x:Nat×BL×Nat×Nat×Nat,match x with | (b9,l7,s3,o9,k₂)=>(b9<=s.length/\l7.length<=3*b9/\bw s=(bw (s.drop b9)).map (l7++ ·))/\(s.length-b9<s.length-i)/\E (sV s)/\Q (.own 1 ((o++[37,(v1.getD ((s.getD i 0).toNat / 16) 0),(v1.getD ((s.getD i 0).toNat % 16) 0)]).map m7) J7 J5 J8) (.own 1 (l7.map m7) s3 o9 k₂)/\Q (iN (i+1)) (iN b9)/\True))) (((1=1/\g=g/\f=f)/\0+((o.map m7).length)<=(o.map m7).length/\V.ay (o.map m7)=false/\aC 1 (o.map m7))/\(((o.map m7).drop 0).take ((o.map m7).length)=o.map m7)/\Q (.tup [sV o,bV true]) v2)) (((cG s i).toNat:Nat):Int)) (((s.getD i 0).toNat:Nat):Int)) ([uN ((cG s i).toNat)]:List V)) ([uN ((s.getD i 0).toNat)]:List V)) ([uN 37,uN ((v1.getD ((cG s i).toNat / 16) 0).toNat),uN ((v1.getD ((cG s i).toNat % 16) 0).toNat)]:List V)) ([uN 37,uN ((v1.getD ((s.getD i 0).toNat / 16) 0).toNat),uN ((v1.getD ((s.getD i 0).toNat % 16) 0).toNat)]:List V)))) (.tup [sV ((bF s).1),bV ((bF s).2)])) ([48,49,50,51,52,53,54,55,56,57,65,66,67,68,69,70]:BL)) ?_
 refine bI (fun j7=>?_) fun j7=>?_
 unfold Q
 rw[show bF s=([],false) from if_neg Z9]
 refine⟨⟨(0,[],0,0,0),?_,rfl,rfl,rfl,trivial⟩,?_⟩
 refine⟨Z9,Z8,?_⟩
 cases h:bw s <;> simp[h]
 rintro⟨i,o,g,f,k⟩ ⟨hi,ho,LX⟩
 refine bI (fun l4=>?_) fun l4=>?_
 refine⟨Z9,?_⟩
 refine bI (fun m8=>?_) fun m8=>?_
 refine⟨rfl,⟨Z5,Z5⟩,?_⟩
 refine bI (fun w7=>?_) fun w7=>?_
 unfold Q
 rw[show bF s=([],false) from by unfold bF;rw[LX,xw Z9 Z9 (by have:=fW (s:=s) (i:=i);grind)];simp]
 refine⟨Z9,rfl,trivial,?_⟩
 refine bI (fun G8=>?_) fun G8=>?_
 refine⟨rfl,trivial,rfl,by simp[aC,V.n,V.ns],Z0,?_⟩
 intro MG N3 Oq
 refine⟨Zo (V.own 1 · MG N3 Oq) (by rw[Zz];rfl),Z9,?_⟩
 refine⟨((i+2)+1,o++[(cG s i)],MG,N3,Oq),?_,?_,rfl,rfl,rfl,trivial⟩
 have sg:=fW.1 w7
 rw[pS w7]at *
 have he:ef (cJ (s.getD (i+1) 0) (s.getD (i+2) 0))=[(cJ (s.getD (i+1) 0) (s.getD (i+2) 0))]:=by unfold ef;rw[if_pos G8]
 have hl:=eA (cJ (s.getD (i+1) 0) (s.getD (i+2) 0))
 rw[he]at hl
 refine⟨Z9,Z0,?_⟩
 rw[LX,oW Z9 Z9 Z9 Z9,he]
 cases bw (s.drop (i+3)) <;> simp[eG,js]
 exact Z1
 refine⟨Z9,by unfold Q;exact KB _,by have:=Zx (cG s i);omega,by have:=Zx (cG s i);omega,by unfold Q;exact Gt _,by have:=Zx (cG s i);omega,rfl,trivial,rfl,by simp[aC,V.n,V.ns],Z0,?_⟩
 intro J7 J5 J8
 refine⟨Zo (V.own 1 · J7 J5 J8) (by rw[Zz];rfl),Z9,?_⟩
 refine⟨((i+2)+1,o++[37,(([48,49,50,51,52,53,54,55,56,57,65,66,67,68,69,70]:BL).getD ((cG s i).toNat / 16) 0),(([48,49,50,51,52,53,54,55,56,57,65,66,67,68,69,70]:BL).getD ((cG s i).toNat % 16) 0)],J7,J5,J8),?_,?_,rfl,rfl,rfl,trivial⟩
 have sg:=fW.1 w7
 rw[pS w7]at *
 have he:ef (cJ (s.getD (i+1) 0) (s.getD (i+2) 0))=eG (cJ (s.getD (i+1) 0) (s.getD (i+2) 0)):=by unfold ef;rw[if_neg (by rw[G8];decide)]
 have hl:=eA (cJ (s.getD (i+1) 0) (s.getD (i+2) 0))
 rw[he]at hl
 refine⟨Z9,Z0,?_⟩
 rw[LX,oW Z9 Z9 Z9 Z9,he]
 cases bw (s.drop (i+3)) <;> simp[eG,js]
 exact Z1
 refine⟨rfl,trivial,?_⟩
 refine bI (fun MN=>?_) fun MN=>?_
 refine⟨rfl,trivial,rfl,by simp[aC,V.n,V.ns],Z0,?_⟩
 intro MG N3 Oq
 refine⟨Zo (V.own 1 · MG N3 Oq) (by rw[Zz];rfl),Z9,?_⟩
 refine⟨(i+1,o++[(s.getD i 0)],MG,N3,Oq),?_,?_,rfl,rfl,rfl,trivial⟩
 have he:ef (s.getD i 0)=[(s.getD i 0)]:=by unfold ef;rw[if_pos MN]
 have hl:=eA (s.getD i 0)
 rw[he]at hl
 refine⟨Z9,Z0,?_⟩
 rw[LX,mr Z9 Z9,he]
 cases bw (s.drop (i+1)) <;> simp[eG,js]
 exact Z1
 refine⟨Z9,by unfold Q;exact KB _,by have:=Zx (s.getD i 0);omega,by have:=Zx (s.getD i 0);omega,by unfold Q;exact Gt _,by have:=Zx (s.getD i 0);omega,rfl,trivial,rfl,by simp[aC,V.n,V.ns],Z0,?_⟩
 intro J7 J5 J8
 refine⟨Zo (V.own 1 · J7 J5 J8) (by rw[Zz];rfl),Z9,?_⟩
 refine⟨(i+1,o++[37,(([48,49,50,51,52,53,54,55,56,57,65,66,67,68,69,70]:BL).getD ((s.getD i 0).toNat / 16) 0),(([48,49,50,51,52,53,54,55,56,57,65,66,67,68,69,70]:BL).getD ((s.getD i 0).toNat % 16) 0)],J7,J5,J8),?_,?_,rfl,rfl,rfl,trivial⟩
 have he:ef (s.getD i 0)=eG (s.getD i 0):=by unfold ef;rw[if_neg (by rw[MN];decide)]
 have hl:=eA (s.getD i 0)
 rw[he]at hl
 refine⟨Z9,Z0,?_⟩
 rw[LX,mr Z9 Z9,he]
 cases bw (s.drop (i+1)) <;> simp[eG,js]
 exact Z1
 refine⟨⟨⟨rfl,rfl,rfl⟩,Z8,nI _,qa _⟩,by simp[ZL],?_⟩
 unfold Q
 rw[ZC Z9]at LX
 rw[show bF s=(o,true) from by unfold bF;rw[LX,if_pos Z9];simp[bw]])
def pv(ps:List BL):o8 Tryz.prog:=.mk 174 [ao ps] [] (ps.length<=1099511627776) (ao (bG ps)) [] (by
 intro hs
 refine aq (N:=32) (rs:=[.tmp 2]) Tryz.func174
  (.q 1<|.q 1<|.q 3<|.h (.H2 3 1)<|.loop (Nat×(List BL)×Nat×Nat×Nat) (fun (i,o,g,f,k)=>⟨[(6,ao ps),(7,iN ps.length),(8,iN i),(3,.own 1 (o.map sV) g f k)],[]⟩) (fun (i,o,g,f,k)=>i<=ps.length/\o=bG (ps.take i)/\o.length<=i) (fun (i,o,g,f,k)=>ps.length-i) (fun (i,o,g,f,k)=>.q 1<|.br (.r 3 [sV (ps.getD i [])]<|.q 1<|.q 2<|.join (Bool) (fun c=>⟨[(6,ao ps),(7,iN ps.length),(8,iN i),(3,.own 1 (o.map sV) g f k),(9,bV (s4 (i:Int) (ps.length:Int))),(10,.ep (sV (ps.getD i []))),(11,sV (ps.getD i [])),(5,sV (ps.getD i [])),(12,sV (ps.getD i [])),(14,bV ((ps.getD i [])==[])),(13,bV c)],[]⟩) (fun c=>c=decide (ps.getD i []=[]\/ps.getD i []=[46])) (.nil) (.q 2<|.nil) (fun c=>.br (.q 2<|.nil) (.q 2<|.br (.q 3<|.br (.q 5<|.rs<|.h (.o4 3 (.own 1 (o.dropLast.map sV) g (f+(0+((0:Int).toNat))*1) (k-((0:Int).toNat))))<|.q 2<|.nil) (.q 2<|.nil)) (.q 2<|.bs<|.ap (fun So RC SE=>.h (.o4 29 (.own 1 ((o++[(ps.getD i [])]).map sV) So RC SE))<|.q 1<|.q 2<|.nil))))) (.h (.fz 3)<|.h (.o4 3 (ao o))<|.q 2<|.nil)))
  ((∃ x:Nat×(List BL)×Nat×Nat×Nat,match x with | (h9,s8,A5,x9,r9)=>(h9<=ps.length/\s8=bG (ps.take h9)/\s8.length<=h9)/\E (ao ps)/\Q (iN ((ps.map sV).length)) (iN ps.length)/\Q (iN 0) (iN h9)/\Q (.own 1 ([].map sV) 0 0 0) (.own 1 (s8.map sV) A5 x9 r9)/\True)/\∀ x:Nat×(List BL)×Nat×Nat×Nat,match x with | (i,o,g,f,k)=>(i<=ps.length/\o=bG (ps.take i)/\o.length<=i)->(fun v1:Int=>(fun v2:V=>(fun v3:List V=>(fun v4:V=>(fun v5:Bool=>Br v5 (Ex (i:Int) (ps.map sV) v2/\True/\(((ps.getD i [])==[])=true->∃ c:Bool,(c=decide (ps.getD i []=[]\/ps.getD i []=[46]))/\E (ao ps)/\E (iN ps.length)/\E (iN i)/\E v4/\E (bV v5)/\E (.ep v2)/\E v2/\E v2/\E v2/\E (bV ((ps.getD i [])==[]))/\Q (bV ((ps.getD i [])==[])) (bV c)/\True)/\(((ps.getD i [])==[])=false->∃ c:Bool,(c=decide (ps.getD i []=[]\/ps.getD i []=[46]))/\E (ao ps)/\E (iN ps.length)/\E (iN i)/\E v4/\E (bV v5)/\E (.ep v2)/\E v2/\E v2/\E v2/\E (bV ((ps.getD i [])==[]))/\Q (bV ((ps.getD i [])==([46]:BL))) (bV c)/\True)/\(∀ c:Bool,(c=decide (ps.getD i []=[]\/ps.getD i []=[46]))->Br c (m6 ((i:Int)+1)/\∃ x:Nat×(List BL)×Nat×Nat×Nat,match x with | (b9,l7,s3,o9,k₂)=>(b9<=ps.length/\l7=bG (ps.take b9)/\l7.length<=b9)/\(ps.length-b9<ps.length-i)/\E (ao ps)/\E (iN ps.length)/\Q (iN (i+1)) (iN b9)/\Q v4 (.own 1 (l7.map sV) s3 o9 k₂)/\True) (Br ((ps.getD i [])==([46,46]:BL)) (Br (s7 v1 0) (m6 (v1-1)/\((0:Int)<=(0:Int)/\(0:Int)<=(v1-1)/\(v1-1)<=((o.map sV).length)/\1=1)/\((3,1,g,f)=(3,1,g,f))/\((0+((0:Int).toNat))+((Int.toNat (v1-1))-((0:Int).toNat))<=(o.map sV).length/\(0+((0:Int).toNat))+(k-((0:Int).toNat))<=k/\V.ay (o.map sV)=false)/\((.own 1 (((o.map sV).drop (0+((0:Int).toNat))).take ((Int.toNat (v1-1))-((0:Int).toNat))) g (f+(0+((0:Int).toNat))*1) (k-((0:Int).toNat)):V)=.own 1 (o.dropLast.map sV) g (f+(0+((0:Int).toNat))*1) (k-((0:Int).toNat)))/\m6 ((i:Int)+1)/\∃ x:Nat×(List BL)×Nat×Nat×Nat,match x with | (b9,l7,s3,o9,k₂)=>(b9<=ps.length/\l7=bG (ps.take b9)/\l7.length<=b9)/\(ps.length-b9<ps.length-i)/\E (ao ps)/\E (iN ps.length)/\Q (iN (i+1)) (iN b9)/\Q (.own 1 (o.dropLast.map sV) g (f+(0+((0:Int).toNat))*1) (k-((0:Int).toNat))) (.own 1 (l7.map sV) s3 o9 k₂)/\True) (m6 ((i:Int)+1)/\∃ x:Nat×(List BL)×Nat×Nat×Nat,match x with | (b9,l7,s3,o9,k₂)=>(b9<=ps.length/\l7=bG (ps.take b9)/\l7.length<=b9)/\(ps.length-b9<ps.length-i)/\E (ao ps)/\E (iN ps.length)/\Q (iN (i+1)) (iN b9)/\Q v4 (.own 1 (l7.map sV) s3 o9 k₂)/\True)) (((1,1,g,f,k,(o.map sV).length)=(1,1,g,f,k,(o.map sV).length))/\(True)/\(V.ay v3=false)/\(aC 1 v3)/\(((o.map sV).length+v3.length)*16<=140737488355328)/\∀ So RC SE:Nat,((.own 1 ((o.map sV)++v3) So RC SE:V)=.own 1 ((o++[(ps.getD i [])]).map sV) So RC SE)/\m6 ((i:Int)+1)/\∃ x:Nat×(List BL)×Nat×Nat×Nat,match x with | (b9,l7,s3,o9,k₂)=>(b9<=ps.length/\l7=bG (ps.take b9)/\l7.length<=b9)/\(ps.length-b9<ps.length-i)/\E (ao ps)/\E (iN ps.length)/\Q (iN (i+1)) (iN b9)/\Q (.own 1 ((o++[(ps.getD i [])]).map sV) So RC SE) (.own 1 (l7.map sV) s3 o9 k₂)/\True)))) (((.sl false (V.D5 (o.map sV)):V)=ao o)/\Q (ao o) (ao (bG ps)))) (s4 (i:Int) (ps.length:Int))) (.own 1 (o.map sV) g f k)) ([sV (ps.getD i [])]:List V)) (sV (ps.getD i []))) (((o.map sV).length:Nat):Int)) ?_
 refine⟨⟨(0,[],0,0,0),?_,rfl,Z4,rfl,rfl,trivial⟩,?_⟩
 simp[bG]
 rintro⟨i,o,g,f,k⟩ ⟨h1,h2,h3⟩
 refine bI (fun j7=>?_) fun j7=>?_
 · refine⟨⟨Z9,aj (d:=[]) Z9⟩,trivial,?_⟩
   refine⟨fun l4=>?_,fun l4=>?_,fun c hc=>?_⟩
   · try simp only[nb]at l4
     exact⟨(ps.getD i [])==[],by first | (rw[ZE];simp_all;done) | grind,rfl,rfl,rfl,rfl,rfl,rfl,rfl,rfl,rfl,rfl,rfl,trivial⟩
   · try simp only[nb]at l4
     exact⟨(ps.getD i [])==([46]:BL),by first | (rw[ZE];simp_all;done) | grind,rfl,rfl,rfl,rfl,rfl,rfl,rfl,rfl,rfl,rfl,rfl,trivial⟩
   refine bI (fun m8=>?_) fun m8=>?_
   refine⟨Z9,?_⟩
   refine⟨(i+1,o,g,f,k),?_,?_,rfl,rfl,rfl,rfl,trivial⟩
   refine⟨Z9,?_,Z9⟩
   rw[fU Z9,<- h2,cv,if_pos (by grind)]
   exact Z1
   refine bI (fun w7=>?_) fun w7=>?_
   refine bI (fun G8=>?_) fun G8=>?_
   refine⟨Z2,⟨Z8,Z0,Z0,rfl⟩,rfl,⟨by simp <;> omega,Z8,ct (fun _=>rfl) _⟩,Zo (V.own 1 · g (f+(0+((0:Int).toNat))*1) (k-((0:Int).toNat))) (by rw[show (0+Int.toNat 0)=0 from rfl,List.drop_zero,<- List.map_take,List.dropLast_eq_take];congr 2;first | (solve | simp) | (simp;omega)),Z9,?_⟩
   refine⟨(i+1,o.dropLast,g,f+(0+((0:Int).toNat))*1,k-((0:Int).toNat)),?_,?_,rfl,rfl,rfl,rfl,trivial⟩
   refine⟨Z9,?_,Z0⟩
   rw[fU Z9,<- h2,cv,if_neg (by grind),if_pos (by grind)]
   exact Z1
   refine⟨Z9,?_⟩
   refine⟨(i+1,o,g,f,k),?_,?_,rfl,rfl,rfl,rfl,trivial⟩
   refine⟨Z9,?_,Z9⟩
   rw[fU Z9,<- h2,cv,if_neg (by grind),if_pos (by grind)]
   have:o=[]:=ZF (by simp at *;omega)
   rw[this];rfl
   exact Z1
   refine⟨rfl,trivial,rfl,by simp[aC,V.n,V.ns],Z0,?_⟩
   intro So RC SE
   refine⟨Zo (V.own 1 · So RC SE) Z8,Z9,?_⟩
   refine⟨(i+1,o++[(ps.getD i [])],So,RC,SE),?_,?_,rfl,rfl,rfl,rfl,trivial⟩
   refine⟨Z9,?_,Z0⟩
   rw[fU Z9,<- h2,cv,if_neg (by grind),if_neg (by grind)]
   exact Z1
 refine⟨Zo (V.sl false) (aM (fun _=>rfl) _),?_⟩
 unfold Q
 rw[h2,ZL Z9])
def ld(s:BL):o8 Tryz.prog:=.mk 131 [sV s] [] (s.length<=1000000) (bV (eF s)) [] (by
 intro hs
 refine aq (N:=16) (rs:=[.tmp 2]) Tryz.func131
  (.q 1<|.q 1<|.c (iw s) []<|.q 5<|.q 7<|.nil)
  ((iw s).sm/\((s.length<=1000000))/\Pk ((bF s).2) (((bF s).2)==true) true/\Q (bV (((bF s).2)&&(((bF s).1)==s))) (bV (eF s))) ?_
 refine⟨rfl,Z5,⟨fun h=>by rw[h] <;> rfl,fun _=>rfl⟩,?_⟩
 unfold Q
 rfl)
def jW(a:r8):o8 Tryz.prog:=.mk 107 [bq a.c9 a.a8 a.asks a.ask] [] (cy a) (sV (bD a)) [] (by
 intro ha
 have hj:=ha.join
 obtain⟨z1,z2,z3,z4⟩:=ha
 rw[<- sv]at hj
 refine aq (N:=16) (rs:=[.tmp 2]) Tryz.func107
  (.bx (fun g1=>.q 1<|.r 2 [.b7]<|.c (Cm a.a8 ([47]:BL)) []<|.q 2<|.r 2 [.b7]<|.br (.r 6 [.b7]<|.q 2<|.nil) (.q 2<|.nil)))
  ((fun v1:BL=>(∀ g1:Nat,Z g1 1/\(Cm a.a8 v1).sm/\((a.a8.length<=1000000)/\((Lib.join a.a8 v1).length<=1000000))/\(v1.length+(Lib.join a.a8 v1).length<=4611686018427387904)/\Z g1 2/\Br a.asks (Z g1 3/\(([63]:BL).length+a.ask.length<=4611686018427387904)/\((v1++(Lib.join a.a8 v1)).length+(([63]:BL)++a.ask).length<=4611686018427387904)/\Q (sV ((v1++(Lib.join a.a8 v1))++(([63]:BL)++a.ask))) (sV (bD a))) (Q (sV (v1++(Lib.join a.a8 v1))) (sV (bD a))))) ([47]:BL)) ?_
 intro g1
 refine⟨rfl,rfl,⟨Z5,Z5⟩,Z3,rfl,?_⟩
 refine bI (fun j7=>?_) fun j7=>?_
 refine⟨rfl,Z3,Z3,?_⟩
 unfold Q
 rw[sv]
 unfold bD;rw[if_pos (by simpa using j7)] <;> simp[List.append_assoc]
 unfold Q
 rw[sv]
 unfold bD;rw[if_neg (by simpa using j7)];simp)
def gB(a:r8):o8 Tryz.prog:=.mk 87 [bq a.c9 a.a8 a.asks a.ask] [] (cy a) (sV (cd a)) [] (by
 intro ha
 have hp:=ha.path
 have h1:=ha.1
 refine aq (N:=9) (rs:=[.tmp 2]) Tryz.func87
  (.bx (fun g1=>.q 1<|.dx 6 [0,1,2,3,4,5] [(1,⟨false,[],some [1],[4],[]⟩),(3,⟨false,[],some [1],[6],[]⟩)] []<|.q 1<|.r 1 [.b7]<|.q 1<|.r 1 [.b7]<|.c (jW a) []<|.q 1<|.q 1<|.nil))
  (∀ g1:Nat,Z g1 0/\(([47,47]:BL).length+a.c9.length<=4611686018427387904)/\Z g1 0/\(jW a).sm/\((cy a))/\((([47,47]:BL)++a.c9).length+(bD a).length<=4611686018427387904)/\Q (sV ((([47,47]:BL)++a.c9)++(bD a))) (sV (cd a))) ?_
 intro g1
 refine⟨rfl,Z3,rfl,rfl,Z5,Z3,?_⟩
 unfold Q
 rfl)
def eX(a:r8):o8 Tryz.prog:=.mk 106 [bq a.c9 a.a8 a.asks a.ask] [] (cy a) (bV (aG a)) [] (by
 intro ha
 have ht:=ha.text
 obtain⟨z1,z2,z3,z4⟩:=id ha
 refine aq (N:=56) (rs:=[.tmp 2]) Tryz.func106
  (.bx (fun g1=>.q 1<|.r 2 [.b7]<|.c (mE a.c9) []<|.r 7 [.b7]<|.br (.q 1<|.nil) (.r 4 [.b7]<|.loop (Nat) (fun (i:Nat)=>⟨[(1,.ptr (.key 1) [] g1 0),(16,ao a.a8),(17,iN a.a8.length),(18,iN i)],[(1,(g1,bq a.c9 a.a8 a.asks a.ask))]⟩) (fun (i:Nat)=>i<=a.a8.length/\∀ j,j<i->dM (a.a8.getD j [])=true) (fun (i:Nat)=>a.a8.length-i) (fun (i:Nat)=>.q 1<|.br (.r 3 [sV (a.a8.getD i [])]<|.q 12<|.cg (ld (a.a8.getD i []))<|.q 2<|.br (.q 1<|.nil) (.q 2<|.nil)) (.r 2 [.b7]<|.c (ld a.ask) []<|.r 11 [.b7,.b7]<|.br (.q 1<|.nil) (.r 1 [.b7]<|.c (gB a) []<|.q 3<|.nil))))))
  ((fun v1:Bool=>(fun v2:BL=>(fun v3:BL=>(fun v4:Bool=>(∀ g1:Nat,Z g1 0/\(mE a.c9).sm/\((a.c9.length<=4611686018427387904))/\Gd (v4==false) (Z g1 1)/\Pk v4 true (v4==false)/\Br (v4||(s7 (((a.a8.map sV).length:Nat):Int) 5)) (Q (bV false) (bV (aG a))) (Z g1 1/\(∃ h9:Nat,(h9<=a.a8.length/\∀ j,j<h9->dM (a.a8.getD j [])=true)/\E (.ptr (.key 1) [] g1 0)/\E (ao a.a8)/\Q (iN ((a.a8.map sV).length)) (iN a.a8.length)/\Q (iN 0) (iN h9)/\Er g1 (bq a.c9 a.a8 a.asks a.ask)/\True)/\∀ i:Nat,(i<=a.a8.length/\∀ j,j<i->dM (a.a8.getD j [])=true)->(fun v5:Bool=>Br (s4 (i:Int) (a.a8.length:Int)) (Ex (i:Int) (a.a8.map sV) (sV (a.a8.getD i []))/\True/\Pk ((a.a8.getD i [])==[]) true (((a.a8.getD i [])==[])==false)/\Pk (((a.a8.getD i [])==[])||((a.a8.getD i [])==v2)) true ((((a.a8.getD i [])==[])||((a.a8.getD i [])==v2))==false)/\Gd v5 ((((a.a8.getD i []).length<=1000000))/\(ld (a.a8.getD i [])).sm)/\Pk ((((a.a8.getD i [])==[])||((a.a8.getD i [])==v2))||((a.a8.getD i [])==v3)) true v5/\Br (((((a.a8.getD i [])==[])||((a.a8.getD i [])==v2))||((a.a8.getD i [])==v3))||(!(eF (a.a8.getD i [])))) (Q (bV false) (bV (aG a))) (m6 ((i:Int)+1)/\∃ b9:Nat,(b9<=a.a8.length/\∀ j,j<b9->dM (a.a8.getD j [])=true)/\(a.a8.length-b9<a.a8.length-i)/\E (.ptr (.key 1) [] g1 0)/\E (ao a.a8)/\E (iN a.a8.length)/\Q (iN (i+1)) (iN b9)/\Er g1 (bq a.c9 a.a8 a.asks a.ask)/\True)) (Z g1 3/\(ld a.ask).sm/\((a.ask.length<=1000000))/\Gd v1 (Z g1 2)/\Gd (v1&&((!a.asks)==true)) (Z g1 3)/\Gd v1 (Pk (!a.asks) (v1&&((!a.asks)==true)) true)/\Pk (!(eF a.ask)) true v1/\Br ((!(eF a.ask))||((!a.asks)&&(!(a.ask==[])))) (Q (bV false) (bV (aG a))) (Z g1 0/\(gB a).sm/\((cy a))/\Q (bV (C6 (((cd a).length:Nat):Int) 60)) (bV (aG a))))) (((((a.a8.getD i [])==[])||((a.a8.getD i [])==v2))||((a.a8.getD i [])==v3))==false)))) (!(ck a.c9))) ([46,46]:BL)) ([46]:BL)) ((!(eF a.ask))==false)) ?_
 intro g1
 refine⟨rfl,rfl,Z5,fun hG=>rfl,⟨fun _=>rfl,fun h=>by rw[h] <;> rfl⟩,?_⟩
 refine bI (fun j7=>?_) fun j7=>?_
 unfold Q
 refine Zo bV ?_
 unfold aG
 grind
 refine⟨rfl,?_⟩
 refine⟨⟨0,?_,rfl,rfl,Z4,rfl,rfl,trivial⟩,?_⟩
 simp
 rintro i ⟨h1,h2⟩
 have W9:=z4 i
 refine bI (fun l4=>?_) fun l4=>?_
 refine⟨⟨Z9,aj (d:=[]) Z9⟩,trivial,⟨fun _=>rfl,fun h=>by rw[h] <;> rfl⟩,⟨fun _=>rfl,fun h=>by rw[h] <;> rfl⟩,fun hG=>⟨by(try simp only[nb]at hG);first | assumption | omega | (simp;omega),rfl⟩,⟨fun _=>rfl,fun h=>by rw[h] <;> rfl⟩,?_⟩
 refine bI (fun m8=>?_) fun m8=>?_
 unfold Q
 refine Zo bV ?_
 unfold aG
 rw[all_false (i:=i) (d:=[]) Z9 (by simp only[dM];grind)];simp
 refine⟨Z9,?_⟩
 refine⟨i+1,?_,?_,rfl,rfl,rfl,rfl,rfl,trivial⟩
 refine⟨Z9,bE h2 ?_⟩
 simp only[dM];grind
 exact Z1
 refine⟨rfl,rfl,Z5,fun hG=>rfl,fun hG=>rfl,fun hG=>⟨fun h=>by rw[h];exact(ZX _ _).mpr ⟨hG,rfl⟩,fun _=>rfl⟩,⟨fun _=>rfl,fun h=>by rw[h] <;> rfl⟩,?_⟩
 refine bI (fun w7=>?_) fun w7=>?_
 unfold Q
 refine Zo bV ?_
 unfold aG
 rw[all_true (d:=[]) (fun j hj=>h2 j Z9)]
 grind
 refine⟨rfl,rfl,by first | assumption | exact lH _,?_⟩
 unfold Q
 refine Zo bV ?_
 unfold aG
 rw[all_true (d:=[]) (fun j hj=>h2 j Z9)]
 grind)
abbrev fh(d:BL)(fr:List BL)(n0:BL):V:=.tup [bq ((oA (bT d fr n0)).c9) ((oA (bT d fr n0)).a8) ((oA (bT d fr n0)).asks) ((oA (bT d fr n0)).ask),bV ((bT d fr n0).isSome)]
abbrev iq(d:BL)(fr:List BL)(n0:BL)(i:Nat)(o:List BL)(g:Nat)(f:Nat)(k:Nat):Prop:=i<=(ah 47 (ab 63 n0).1).length/\o=fr++((ah 47 (ab 63 n0).1).take i).map eg/\((ah 47 (ab 63 n0).1).take i).all eL=true
def eU(d:BL)(fr:List BL)(n0:BL):o8 Tryz.prog:=.mk 143 [sV d,ao fr,sV n0] [] ((d.length<=1000)/\(∀ i,(fr.getD i []).length<=1000)/\(fr.length<=100)/\(n0.length<=300)) (fh d fr n0) [] (by
 rintro⟨hh,hf,hl,hw⟩
 have Ms:=kE 63 n0
 have TG:=qc 47 (ab 63 n0).1
 refine aq (N:=65) (rs:=[.cell 6 96,.tmp 7]) Tryz.func143
  (.al cY (fun g6=>.q 1<|.q 1<|.c (my n0 63) []<|.q 7<|.q 1<|.c (iw ((ab 63 n0).2.1)) []<|.q 5<|.q 2<|.br (.bd cY<|.st none<|.q 1<|.nil) (.q 1<|.c (iY fr) []<|.ot 33 (fun VH Vj VJ=>.q 1<|.q 1<|.c (oO ((ab 63 n0).1) 47) []<|.q 2<|.loop (Nat×(List BL)×Nat×Nat×Nat) (fun (i,o,g,f,k)=>⟨[(0,sV d),(6,.ptr (.key 6) [] g6 0),(9,sV ((bF (ab 63 n0).2.1).1)),(10,bV ((ab 63 n0).2.2)),(12,.own 1 (o.map sV) g f k),(35,.sl true ((ah 47 (ab 63 n0).1).map sV)),(36,iN ((ah 47 (ab 63 n0).1).length)),(37,iN i)],[(6,(g6,fq (.sl true [])))]⟩) (fun (i,o,g,f,k)=>iq d fr n0 i o g f k) (fun (i,o,g,f,k)=>(ah 47 (ab 63 n0).1).length-i) (fun (i,o,g,f,k)=>.q 1<|.br (.r 3 [sV ((ah 47 (ab 63 n0).1).getD i [])]<|.q 1<|.c (iw ((ah 47 (ab 63 n0).1).getD i [])) []<|.q 5<|.q 2<|.br (.bd cY<|.st none<|.q 1<|.nil) (.q 2<|.bs<|.ap (fun Sj Ry SA=>.h (.o4 52 (.own 1 ((o++[(bF ((ah 47 (ab 63 n0).1).getD i [])).1]).map sV) Sj Ry SA))<|.q 1<|.q 2<|.nil))) (.h (.fz 12)<|.h (.o4 12 (ao o))<|.q 2<|.c (pv o) []<|.q 2<|.bd cY<|.al cY (fun g17=>.st none<|.r 1 [.b7]<|.c (eX (⟨d,bG o,(ab 63 n0).2.2,(bF (ab 63 n0).2.1).1⟩:r8)) []<|.q 1<|.br (.bd cY<|.st none<|.q 1<|.nil) (.r 1 [.b7]<|.st none<|.q 1<|.nil))))))))
  ((fun v1:V=>(∀ g6:Nat,(my n0 63).sm/\((n0.length<=1000000))/\(iw ((ab 63 n0).2.1)).sm/\((((ab 63 n0).2.1).length<=1000000))/\Br (!((bF ((ab 63 n0).2.1)).2)) (Z g6 0/\(g6=g6)/\Q v1 (fh d fr n0)) ((iY fr).sm/\((fr.length<=1000000))/\∀ VH Vj VJ:Nat,(oO ((ab 63 n0).1) 47).sm/\((((ab 63 n0).1).length<=1000000))/\(∃ x:Nat×(List BL)×Nat×Nat×Nat,match x with | (h9,s8,A5,x9,r9)=>(iq d fr n0 h9 s8 A5 x9 r9)/\E (sV d)/\E (.ptr (.key 6) [] g6 0)/\Q (sV ((bF ((ab 63 n0).2.1)).1)) (sV ((bF (ab 63 n0).2.1).1))/\E (bV ((ab 63 n0).2.2))/\Q (.own 1 (fr.map sV) VH Vj VJ) (.own 1 (s8.map sV) A5 x9 r9)/\Q (.sl true ((ah 47 ((ab 63 n0).1)).map sV)) (.sl true ((ah 47 (ab 63 n0).1).map sV))/\Q (iN (((ah 47 ((ab 63 n0).1)).map sV).length)) (iN ((ah 47 (ab 63 n0).1).length))/\Q (iN 0) (iN h9)/\Er g6 (fq (.sl true []))/\True)/\∀ x:Nat×(List BL)×Nat×Nat×Nat,match x with | (i,o,g,f,k)=>(iq d fr n0 i o g f k)->(fun v2:List V=>Br (s4 (i:Int) (((ah 47 (ab 63 n0).1).length:Nat):Int)) (Ex (i:Int) ((ah 47 (ab 63 n0).1).map sV) (sV ((ah 47 (ab 63 n0).1).getD i []))/\True/\(iw ((ah 47 (ab 63 n0).1).getD i [])).sm/\((((ah 47 (ab 63 n0).1).getD i []).length<=1000000))/\Br (!((bF ((ah 47 (ab 63 n0).1).getD i [])).2)) (Z g6 0/\(g6=g6)/\Q v1 (fh d fr n0)) (((1,1,g,f,k,(o.map sV).length)=(1,1,g,f,k,(o.map sV).length))/\(True)/\(V.ay v2=false)/\(aC 1 v2)/\(((o.map sV).length+v2.length)*16<=140737488355328)/\∀ Sj Ry SA:Nat,((.own 1 ((o.map sV)++v2) Sj Ry SA:V)=.own 1 ((o++[(bF ((ah 47 (ab 63 n0).1).getD i [])).1]).map sV) Sj Ry SA)/\m6 ((i:Int)+1)/\∃ x:Nat×(List BL)×Nat×Nat×Nat,match x with | (b9,l7,s3,o9,k₂)=>(iq d fr n0 b9 l7 s3 o9 k₂)/\((ah 47 (ab 63 n0).1).length-b9<(ah 47 (ab 63 n0).1).length-i)/\E (sV d)/\E (.ptr (.key 6) [] g6 0)/\E (sV ((bF (ab 63 n0).2.1).1))/\E (bV ((ab 63 n0).2.2))/\Q (.own 1 ((o++[(bF ((ah 47 (ab 63 n0).1).getD i [])).1]).map sV) Sj Ry SA) (.own 1 (l7.map sV) s3 o9 k₂)/\E (.sl true ((ah 47 (ab 63 n0).1).map sV))/\E (iN ((ah 47 (ab 63 n0).1).length))/\Q (iN (i+1)) (iN b9)/\Er g6 (fq (.sl true []))/\True)) (((.sl false (V.D5 (o.map sV)):V)=ao o)/\(pv o).sm/\((o.length<=1099511627776))/\∀ g17:Nat,Z g17 0/\Z g17 0/\(eX (⟨d,bG o,(ab 63 n0).2.2,(bF (ab 63 n0).2.1).1⟩:r8)).sm/\((cy (⟨d,bG o,(ab 63 n0).2.2,(bF (ab 63 n0).2.1).1⟩:r8)))/\Br (!(aG (⟨d,bG o,(ab 63 n0).2.2,(bF (ab 63 n0).2.1).1⟩:r8))) (Z g6 0/\(g6=g6)/\Q v1 (fh d fr n0)) (Z g17 0/\Z g6 0/\(g6=g6)/\Q (.tup [bq d (bG o) ((ab 63 n0).2.2) ((bF (ab 63 n0).2.1).1),bV true]) (fh d fr n0)))) ([sV ((bF ((ah 47 (ab 63 n0).1).getD i [])).1)]:List V)))) (.tup [fq (.sl false []),bV false])) ?_
 intro g6
 refine⟨rfl,Z9,rfl,Z9,?_⟩
 refine bI (fun j7=>?_) fun j7=>?_
 refine⟨rfl,?_⟩
 refine⟨rfl,?_⟩
 unfold Q fh
 rw[show bT d fr n0=none from by unfold bT;rw[show eL (ab 63 n0).2.1=false from j7,Bool.and_false];rfl];rfl
 refine⟨rfl,Z5,?_⟩
 intro VH Vj VJ
 refine⟨rfl,Z9,?_⟩
 refine⟨⟨(0,fr,VH,Vj,VJ),?_,rfl,rfl,Z4,rfl,rfl,Z4,Z4,rfl,rfl,trivial⟩,?_⟩
 unfold iq
 simp
 rintro⟨i,o,g,f,k⟩ ⟨h1,h2,h3⟩
 have Qe:=pn 47 (ab 63 n0).1 i
 have R5:o.length<=100+i:=by rw[h2];simp;omega
 refine bI (fun l4=>?_) fun l4=>?_
 refine⟨⟨Z9,aj (d:=[]) Z9⟩,trivial,rfl,Z9,?_⟩
 refine bI (fun m8=>?_) fun m8=>?_
 refine⟨rfl,?_⟩
 refine⟨rfl,?_⟩
 unfold Q fh
 rw[show bT d fr n0=none from by unfold bT;rw[all_false (i:=i) (d:=[]) Z9 m8];rfl];rfl
 refine⟨rfl,trivial,rfl,by simp[aC,V.n,V.ns],Z0,?_⟩
 intro Sj Ry SA
 refine⟨Zo (V.own 1 · Sj Ry SA) Z8,Z9,?_⟩
 refine⟨(i+1,o++[(bF ((ah 47 (ab 63 n0).1).getD i [])).1],Sj,Ry,SA),?_,?_,rfl,rfl,rfl,rfl,rfl,rfl,rfl,rfl,rfl,trivial⟩
 unfold iq
 refine⟨Z9,?_,?_⟩
 rw[h2,aW (by omega:i<(ah 47 (ab 63 n0).1).length) []];simp[eg]
 rw[aW (by omega:i<(ah 47 (ab 63 n0).1).length) []];simp only[List.all_append,h3,List.all_cons,List.all_nil,eL,Bool.and_true,Bool.true_and];exact m8
 exact Z1
 refine⟨Zo (V.sl false) (aM (fun _=>rfl) _),rfl,Z9,?_⟩
 intro g17
 refine⟨rfl,?_⟩
 have hz:cy ⟨d,bG o,(ab 63 n0).2.2,(bF (ab 63 n0).2.1).1⟩:=by
  rw[h2,ZL Z9];exact Lz hh hf Z9
 refine⟨rfl,rfl,hz,?_⟩
 refine bI (fun w7=>?_) fun w7=>?_
 refine⟨rfl,?_⟩
 refine⟨rfl,?_⟩
 unfold Q fh
 have H8:(ah 47 (ab 63 n0).1).all eL=true:=by rw[ZL Z9]at h3;exact h3
 rw[ZL Z9]at h2
 subst h2
 rw[show bT d fr n0=none from by unfold bT;rw[H8];grind [eL,eg]];rfl
 refine⟨rfl,rfl,?_⟩
 refine⟨rfl,?_⟩
 unfold Q fh
 have H8:(ah 47 (ab 63 n0).1).all eL=true:=by rw[ZL Z9]at h3;exact h3
 rw[ZL Z9]at h2
 subst h2
 rw[show bT d fr n0=some _ from by unfold bT;rw[H8,if_pos (by grind [eL,eg]),if_pos (by grind [eL,eg])]] <;> rfl)
abbrev fB(s:BL):V:=.tup [bq ((oA (cO s)).c9) ((oA (cO s)).a8) ((oA (cO s)).asks) ((oA (cO s)).ask),bV ((cO s).isSome)]
def ko(s:BL):o8 Tryz.prog:=.mk 114 [sV s] [] ((s.length<=300)/\(m4 s)) (fB s) [] (by
 rintro⟨hs,ha⟩
 refine aq (N:=31) (rs:=[.cell 2 96,.tmp 3]) Tryz.func114
  (.al cY (fun g2=>.q 1<|.q 1<|.c (qU s ([47,47]:BL)) []<|.q 5<|.q 2<|.br (.bd cY<|.st none<|.q 1<|.nil) (.h (.o4 10 (sV (s.drop 2)))<|.h (.o4 4 (sV (s.drop 2)))<|.q 1<|.c (Gc (s.drop 2)) []<|.q 1<|.q 2<|.br (.q 3<|.dx 10 [0,1,2,3,4,5,6,7,8,9] [] []<|.q 1<|.q 1<|.q 1<|.c (ik (((s.drop 2).take ((s.drop 2).length)).drop ((0:Int).toNat))) []<|.q 1<|.q 1<|.q 1<|.c (eU (aO (((s.drop 2).take ((s.drop 2).length)).drop ((0:Int).toNat))) ([]:List BL) (((s.drop 2).take (s.drop 2).length).drop ((s.drop 2).length))) []<|.q 1<|.q 1<|.st none<|.q 1<|.nil) (.dx 10 [0,1,2,3,4,5,6,7,8,9] [] []<|.q 1<|.q 1<|.q 1<|.c (ik (((s.drop 2).take (Int.toNat (Lib.indexAny (s.drop 2) [47,63]))).drop ((0:Int).toNat))) []<|.q 1<|.q 1<|.q 1<|.c (eU (aO (((s.drop 2).take (Int.toNat (Lib.indexAny (s.drop 2) [47,63]))).drop ((0:Int).toNat))) ([]:List BL) (((s.drop 2).take (s.drop 2).length).drop (Int.toNat (Lib.indexAny (s.drop 2) [47,63])))) []<|.q 1<|.q 1<|.st none<|.q 1<|.nil))))
  ((fun v1:r8=>(fun v2:r8=>(fun v3:BL=>(fun v4:V=>(∀ g2:Nat,(qU s v3).sm/\((s.length<=4611686018427387904)/\(v3.length<=4611686018427387904))/\Br (!(eI s v3)) (Z g2 0/\(g2=g2)/\Q (.tup [fq (.sl false []),bV false]) (fB s)) ((v4=sV (s.drop 2))/\(v4=sV (s.drop 2))/\(Gc (s.drop 2)).sm/\(((s.drop 2).length<=1000000)/\(∀ c,c∈(s.drop 2)->c.toNat<128))/\Br (s4 (Lib.indexAny (s.drop 2) [47,63]) 0) (Sx (0:Int) (((s.drop 2).length:Nat):Int) (s.drop 2)/\(ik (((s.drop 2).take ((s.drop 2).length)).drop ((0:Int).toNat))).sm/\(((((s.drop 2).take ((s.drop 2).length)).drop ((0:Int).toNat)).length<=1099511627776))/\Sx (((s.drop 2).length:Nat):Int) ((s.drop 2).length:Int) (s.drop 2)/\(eU (aO (((s.drop 2).take ((s.drop 2).length)).drop ((0:Int).toNat))) ([]:List BL) (((s.drop 2).take (s.drop 2).length).drop ((s.drop 2).length))).sm/\(((aO (((s.drop 2).take ((s.drop 2).length)).drop ((0:Int).toNat))).length<=1000)/\(∀ i,(([]:List BL).getD i []).length<=1000)/\(([]:List BL).length<=100)/\((((s.drop 2).take (s.drop 2).length).drop ((s.drop 2).length)).length<=300))/\Z g2 0/\(g2=g2)/\Q (.tup [bq (v2.c9) (v2.a8) (v2.asks) (v2.ask),bV ((bT (aO (((s.drop 2).take ((s.drop 2).length)).drop ((0:Int).toNat))) ([]:List BL) (((s.drop 2).take (s.drop 2).length).drop ((s.drop 2).length))).isSome)]) (fB s)) (Sx (0:Int) (Lib.indexAny (s.drop 2) [47,63]) (s.drop 2)/\(ik (((s.drop 2).take (Int.toNat (Lib.indexAny (s.drop 2) [47,63]))).drop ((0:Int).toNat))).sm/\(((((s.drop 2).take (Int.toNat (Lib.indexAny (s.drop 2) [47,63]))).drop ((0:Int).toNat)).length<=1099511627776))/\Sx (Lib.indexAny (s.drop 2) [47,63]) ((s.drop 2).length:Int) (s.drop 2)/\(eU (aO (((s.drop 2).take (Int.toNat (Lib.indexAny (s.drop 2) [47,63]))).drop ((0:Int).toNat))) ([]:List BL) (((s.drop 2).take (s.drop 2).length).drop (Int.toNat (Lib.indexAny (s.drop 2) [47,63])))).sm/\(((aO (((s.drop 2).take (Int.toNat (Lib.indexAny (s.drop 2) [47,63]))).drop ((0:Int).toNat))).length<=1000)/\(∀ i,(([]:List BL).getD i []).length<=1000)/\(([]:List BL).length<=100)/\((((s.drop 2).take (s.drop 2).length).drop (Int.toNat (Lib.indexAny (s.drop 2) [47,63]))).length<=300))/\Z g2 0/\(g2=g2)/\Q (.tup [bq (v1.c9) (v1.a8) (v1.asks) (v1.ask),bV ((bT (aO (((s.drop 2).take (Int.toNat (Lib.indexAny (s.drop 2) [47,63]))).drop ((0:Int).toNat))) ([]:List BL) (((s.drop 2).take (s.drop 2).length).drop (Int.toNat (Lib.indexAny (s.drop 2) [47,63])))).isSome)]) (fB s))))) (sV (if eI s v3=true then s.drop v3.length else s):V)) ([47,47]:BL)) (oA (bT (aO (((s.drop 2).take ((s.drop 2).length)).drop ((0:Int).toNat))) ([]:List BL) (((s.drop 2).take (s.drop 2).length).drop ((s.drop 2).length))))) (oA (bT (aO (((s.drop 2).take (Int.toNat (Lib.indexAny (s.drop 2) [47,63]))).drop ((0:Int).toNat))) ([]:List BL) (((s.drop 2).take (s.drop 2).length).drop (Int.toNat (Lib.indexAny (s.drop 2) [47,63])))))) ?_
 intro g2
 refine⟨rfl,⟨Z9,Z8⟩,?_⟩
 refine bI (fun j7=>?_) fun j7=>?_
 refine⟨rfl,?_⟩
 refine⟨rfl,?_⟩
 unfold Q fB
 rw[show cO s=none from if_neg (by rw[j7];decide)] <;> rfl
 refine⟨(by rw[if_pos j7];rfl),(by rw[if_pos j7];rfl),rfl,⟨Z0,ha.drop 2⟩,?_⟩
 refine bI (fun l4=>?_) fun l4=>?_
 have hq:=(rS (s.drop 2)).1 Z9
 refine⟨Z9,rfl,Z0,Z9,rfl,⟨by simp[aO];omega,Z8,Z8,by first | (solve | simp) | (simp;omega)⟩,rfl,?_⟩
 refine⟨rfl,?_⟩
 unfold Q fB
 rw[show cO s=dg (s.drop 2) from if_pos j7]
 unfold dg;rw[hq.1,hq.2];simp[show (s.drop 2).take (s.length-2)=s.drop 2 from ZL Z8,show s.drop (2+(s.length-2))=[] from ZC Z9]
 have hq:=(rS (s.drop 2)).2 Z9
 have hq3:=hq.2.2
 refine⟨Z9,rfl,Z0,Z9,rfl,⟨by simp[aO];omega,Z8,Z8,by first | (solve | simp) | (simp;omega)⟩,rfl,?_⟩
 refine⟨rfl,?_⟩
 unfold Q fB
 rw[show cO s=dg (s.drop 2) from if_pos j7]
 unfold dg;rw[hq.1,hq.2.1];simp[show (s.drop 2).take (s.length-2)=s.drop 2 from ZL Z8])
abbrev iB(raw:BL):V:=.tup [bq ((oA (aA raw)).c9) ((oA (aA raw)).a8) ((oA (aA raw)).asks) ((oA (aA raw)).ask),bV ((aA raw).isSome)]
def qN(raw:BL):o8 Tryz.prog:=.mk 86 [sV raw] [] ((raw.length<=1000000)/\(m4 raw)) (iB raw) [] (by
 rintro⟨hs,ha⟩
 have Ms:=kE 35 raw
 refine aq (N:=21) (rs:=[.cell 2 96,.tmp 3]) Tryz.func86
  (.al cY (fun g2=>.q 1<|.q 3<|.br (.bd cY<|.st none<|.q 1<|.nil) (.q 1<|.c (my raw 35) []<|.q 7<|.q 1<|.c (ko ((ab 35 raw).1)) []<|.q 2<|.st none<|.q 1<|.nil)))
  ((fun v1:r8=>(∀ g2:Nat,Br (s7 (raw.length:Int) 60) (Z g2 0/\(g2=g2)/\Q (.tup [fq (.sl false []),bV false]) (iB raw)) ((my raw 35).sm/\((raw.length<=1000000))/\(ko ((ab 35 raw).1)).sm/\((((ab 35 raw).1).length<=300)/\(m4 ((ab 35 raw).1)))/\Z g2 0/\(g2=g2)/\Q (.tup [bq (v1.c9) (v1.a8) (v1.asks) (v1.ask),bV ((cO ((ab 35 raw).1)).isSome)]) (iB raw)))) (oA (cO ((ab 35 raw).1)))) ?_
 intro g2
 refine bI (fun j7=>?_) fun j7=>?_
 refine⟨rfl,?_⟩
 refine⟨rfl,?_⟩
 unfold Q iB
 rw[tB Z9];rfl
 refine⟨rfl,Z9,rfl,⟨Z9,ha.cut 35⟩,rfl,?_⟩
 refine⟨rfl,?_⟩
 unfold Q iB
 rw[yz Z9])
abbrev gu(s:BL):V:=.tup [bq ((oA (ar s)).c9) ((oA (ar s)).a8) ((oA (ar s)).asks) ((oA (ar s)).ask),bV ((ar s).isSome)]
def cI(s:BL):o8 Tryz.prog:=.mk 57 [sV s] [] ((s.length<=1000000)/\(m4 s)) (gu s) [] (by
 rintro⟨hs,ha⟩
 refine aq (N:=21) (rs:=[.cell 2 96,.tmp 3]) Tryz.func57
  (.al cY (fun g2=>.q 1<|.q 1<|.c (qN s) []<|.q 3<|.al cY (fun g4=>.st none<|.q 1<|.r 4 [.b7]<|.cg (gB (oA (aA s)))<|.q 3<|.br (.bd cY<|.st none<|.q 1<|.nil) (.r 1 [.b7]<|.st none<|.q 1<|.nil))))
  ((fun v1:Bool=>(fun v2:r8=>(∀ g2:Nat,(qN s).sm/\((s.length<=1000000)/\(m4 s))/\∀ g4:Nat,Z g4 0/\Gd (v1==false) (Z g4 0)/\Gd (v1==false) (((cy v2))/\(gB v2).sm)/\Pk v1 true (v1==false)/\Br (v1||(!((cd v2)==s))) (Z g2 0/\(g2=g2)/\Q (.tup [fq (.sl false []),bV false]) (gu s)) (Z g4 0/\Z g2 0/\(g2=g2)/\Q (.tup [bq (v2.c9) (v2.a8) (v2.asks) (v2.ask),bV true]) (gu s)))) (oA (aA s))) (!((aA s).isSome))) ?_
 intro g2
 refine⟨rfl,⟨hs,ha⟩,?_⟩
 intro g4
 refine⟨rfl,fun hG=>rfl,fun hG=>⟨by(try simp only[nb]at hG);exact lH _,rfl⟩,⟨fun _=>rfl,fun h=>by rw[h] <;> rfl⟩,?_⟩
 refine bI (fun j7=>?_) fun j7=>?_
 refine⟨rfl,?_⟩
 refine⟨rfl,?_⟩
 unfold Q gu
 rw[show ar s=none from if_neg (by rw[Hf (by simpa using j7)];decide)] <;> rfl
 refine⟨rfl,rfl,?_⟩
 refine⟨rfl,?_⟩
 unfold Q gu
 rw[show ar s=aA s from if_pos (uS j7.1 j7.2),j7.1])
def eW(s:BL):o8 Tryz.prog:=.mk 83 [sV s] [] ((s.length<=1000000)/\(m4 s)) (bV (aD s)) [] (by
 rintro⟨hs,ha⟩
 refine aq (N:=11) (rs:=[.tmp 2]) Tryz.func83
  (.q 1<|.q 1<|.c (cI s) []<|.q 3<|.al cY (fun g3=>.st none<|.q 1<|.q 2<|.nil))
  ((cI s).sm/\((s.length<=1000000)/\(m4 s))/\∀ g3:Nat,Z g3 0/\Q (bV ((ar s).isSome)) (bV (aD s))) ?_
 refine⟨rfl,⟨hs,ha⟩,?_⟩
 intro g3
 refine⟨rfl,?_⟩
 unfold Q
 rw[fQ])
theorem KN(w:List Pg)(a:BL):((A3 w a).2=true/\∃ y,bM (w.map E1) a=some y/\(r4 (A3 w a).1).val? =some y)\/((A3 w a).2=false/\bM (w.map E1) a=none/\∃ y,(r4 (A3 w a).1).val? =some y/\∀ w,(zeroValue 82).run Tryz.prog w=.ok y w):=by
 rcases zl a w with ⟨q1,q2,q3⟩ | ⟨q1,q2⟩
 exact .inr ⟨q2,q1,_,rfl,by rw[q3];exact Tryz.zeroValue82⟩
 exact .inl ⟨q2,_,q1,rfl⟩
def ov(y:Pg):o8 Tryz.prog:=.mk 62 [bR y.addr y.text y.lead y.l8] [] (n7 y) (bV (dq y)) [] (by
 intro hy
 obtain⟨y1,y2,y3,y4,y5,y6⟩:=id hy
 refine aq (N:=36) (rs:=[.tmp 2]) Tryz.func62
  (.bx (fun g1=>.q 1<|.r 2 [.b7]<|.c (eW y.addr) []<|.r 17 [.b7,.b7,.b7]<|.br (.q 1<|.nil) (.r 6 [.b7,.b7]<|.cg (eW y.lead)<|.r 7 [.b7]<|.nil)))
  ((fun v1:Bool=>(fun v2:Bool=>(fun v3:Bool=>(∀ g1:Nat,Z g1 0/\(eW y.addr).sm/\((y.addr.length<=1000000)/\(m4 y.addr))/\Gd (v2==false) (Z g1 1)/\Pk v2 true (v2==false)/\Gd ((v2||v1)==false) (Z g1 3)/\Pk (v2||v1) true ((v2||v1)==false)/\Gd (((v2||v1)||(s4 y.l8 0))==false) (Z g1 3)/\Pk ((v2||v1)||(s4 y.l8 0)) true (((v2||v1)||(s4 y.l8 0))==false)/\Br (((v2||v1)||(s4 y.l8 0))||(s7 y.l8 9)) (Q (bV false) (bV (dq y))) (Z g1 2/\Gd v3 (Z g1 2)/\Gd v3 (((y.lead.length<=1000000)/\(m4 y.lead))/\(eW y.lead).sm)/\Gd (v3&&((aD y.lead)==true)) (Z g1 1)/\Gd v3 (Pk (aD y.lead) (v3&&((aD y.lead)==true)) true)/\Pk (y.lead==[]) true v3/\Q (bV ((y.lead==[])||((aD y.lead)&&(y.text==[])))) (bV (dq y))))) ((y.lead==[])==false)) (!(aD y.addr))) (s7 (y.text.length:Int) 300)) ?_
 intro g1
 refine⟨rfl,rfl,⟨Z9,hy.aa⟩,fun hG=>rfl,⟨fun _=>rfl,fun h=>by rw[h] <;> rfl⟩,fun hG=>rfl,⟨fun _=>rfl,fun h=>by rw[h] <;> rfl⟩,fun hG=>rfl,⟨fun _=>rfl,fun h=>by rw[h] <;> rfl⟩,?_⟩
 refine bI (fun j7=>?_) fun j7=>?_
 unfold Q
 refine Zo bV ?_
 unfold dq z8
 grind
 refine⟨rfl,fun hG=>rfl,fun hG=>⟨⟨by(try simp only[nb]at hG);omega,hy.la⟩,rfl⟩,fun hG=>rfl,fun hG=>⟨fun h=>by rw[h];exact(ZX _ _).mpr ⟨hG,rfl⟩,fun _=>rfl⟩,⟨fun _=>rfl,fun h=>by rw[h] <;> rfl⟩,?_⟩
 unfold Q
 refine Zo bV ?_
 unfold dq z8
 grind)
def kM(a:r8):o8 Tryz.prog:=.mk 79 [bq a.c9 a.a8 a.asks a.ask] [] (cy a) (sV (if aG a=true then bD a else [])) [] (by
 intro ha
 refine aq (N:=8) (rs:=[.tmp 2]) Tryz.func79
  (.bx (fun g1=>.q 1<|.r 1 [.b7]<|.c (eX a) []<|.q 1<|.br (.q 1<|.nil) (.r 1 [.b7]<|.c (jW a) []<|.q 1<|.nil)))
  (∀ g1:Nat,Z g1 0/\(eX a).sm/\((cy a))/\Br (!(aG a)) (Q (sV []) (sV (if aG a=true then bD a else []))) (Z g1 0/\(jW a).sm/\((cy a))/\Q (sV (bD a)) (sV (if aG a=true then bD a else [])))) ?_
 intro g1
 refine⟨rfl,rfl,by first | assumption | exact lH _ | exact hz,?_⟩
 refine bI (fun j7=>?_) fun j7=>?_
 unfold Q
 rw[if_neg (by rw[j7];decide)]
 refine⟨rfl,rfl,Z5,?_⟩
 unfold Q
 rw[if_pos j7])
def mh(w:List Pg):o8 Tryz.prog:=.mk 30 [bQ w] [] ((w.length<=30)/\(∀ i,n7 (w.getD i m0))/\(av w=true)) (.tup [.mp (w.map E1),bV true]) [] (by
 rintro⟨hw,hz,hk⟩
 obtain⟨k1,k2,k3⟩:=DN hk
 have hwm:∀ i,(i:Nat)<=w.length/\w.length<=i->wE (w.take i)=w.map E1:=fun i hi=>by
  have:=Cp i hi.1 (fun j hj k hk=>k3 j Z9 k hk)
  rw[this,ZL Z9]
 refine aq (N:=31) (rs:=[.tmp 2,.tmp 3]) Tryz.func30
  (.q 2<|.q 3<|.br (.q 2<|.nil) (.cu Vl (fun g10=>.q 1<|.q 3<|.loop (Nat×Nat) (fun (i,g)=>⟨[(0,bQ w),(4,.om (wE (w.take i)) g),(11,bQ w),(12,iN w.length),(13,iN i)],[]⟩) (fun (i,g)=>i<=w.length/\∀ j,j<i->dq (w.getD j m0)=true) (fun (i,g)=>w.length-i) (fun (i,g)=>.q 1<|.br (.r 2 [bR ((w.getD i m0).addr) ((w.getD i m0).text) ((w.getD i m0).lead) ((w.getD i m0).l8)]<|.al lX (fun g6=>.st none<|.r 1 [.b7]<|.c (ov (w.getD i m0)) []<|.q 1<|.br (.q 2<|.nil) (.r 4 [.b7,.b7]<|.cu (TA 4 (wE (w.take i)) ((w.getD i m0).addr) (ke (w.getD i m0))) (fun _=>.h (.o4 4 (.om (wE (w.take (i+1))) g))<|.q 2<|.nil)))) (.h (.fz 4)<|.h (.o4 4 (.mp (w.map E1)))<|.q 2<|.cu Xh (fun _=>.q 5<|.nil))))))
  ((fun v1:V=>(Br (s7 (((w.map r4).length:Nat):Int) 12) (Q (.tup [.lit (.map none),bV false]) v1) (True/\∀ g10:Nat,(∃ x:Nat×Nat,match x with | (h9,A5)=>(h9<=w.length/\∀ j,j<h9->dq (w.getD j m0)=true)/\E (bQ w)/\Q (.om [] g10) (.om (wE (w.take h9)) A5)/\E (bQ w)/\Q (iN ((w.map r4).length)) (iN w.length)/\Q (iN 0) (iN h9)/\True)/\∀ x:Nat×Nat,match x with | (i,g)=>(i<=w.length/\∀ j,j<i->dq (w.getD j m0)=true)->(fun v2:Pg=>Br (s4 (i:Int) (w.length:Int)) (Ex (i:Int) (w.map r4) (bR (v2.addr) (v2.text) (v2.lead) (v2.l8))/\True/\∀ g6:Nat,Z g6 0/\Z g6 0/\(ov v2).sm/\((n7 v2))/\Br (!(dq v2)) (Q (.tup [.lit (.map none),bV false]) v1) (Z g6 0/\Z g6 0/\(((g:Nat)=g/\(wE (w.take i):List (BL×Value))=wE (w.take i))/\((sV (v2.addr):V)=sV (v2.addr))/\(bR (v2.addr) (v2.text) (v2.lead) (v2.l8):V).val? =some (ke v2))/\∀ _:Unit,((.om (dI (wE (w.take i)) (v2.addr) (ke v2)) g:V)=.om (wE (w.take (i+1))) g)/\m6 ((i:Int)+1)/\∃ x:Nat×Nat,match x with | (b9,s3)=>(b9<=w.length/\∀ j,j<b9->dq (w.getD j m0)=true)/\(w.length-b9<w.length-i)/\E (bQ w)/\Q (.om (wE (w.take (i+1))) g) (.om (wE (w.take b9)) s3)/\E (bQ w)/\E (iN w.length)/\Q (iN (i+1)) (iN b9)/\True)) (((.mp (wE (w.take i)):V)=.mp (w.map E1))/\True/\∀ _:Unit,Q (.tup [.mp (w.map E1),bV (o6 (((w.map E1).length:Nat):Int) (((w.map r4).length:Nat):Int))]) v1)) (w.getD i m0)))) (.tup [.mp (w.map E1),bV true])) ?_
 refine bI (fun j7=>?_) fun j7=>?_
 omega
 refine⟨trivial,?_⟩
 intro g10
 refine⟨⟨(0,g10),?_,rfl,Z4,rfl,Z4,rfl,trivial⟩,?_⟩
 simp
 rintro⟨i,g⟩ ⟨h1,h2⟩
 have hzi:=hz i
 refine bI (fun l4=>?_) fun l4=>?_
 refine⟨⟨Z9,aj (d:=m0) Z9⟩,trivial,?_⟩
 intro g6
 refine⟨rfl,rfl,rfl,hz i,?_⟩
 refine bI (fun m8=>?_) fun m8=>?_
 have:=k2 i Z9;simp_all
 refine⟨rfl,rfl,⟨⟨rfl,rfl⟩,rfl,rfl⟩,?_⟩
 intro _
 refine⟨Zo (V.om · g) ((nh Z9).symm),Z9,?_⟩
 refine⟨(i+1,g),?_,?_,rfl,rfl,rfl,rfl,rfl,trivial⟩
 exact⟨Z9,bE h2 (by simpa using m8)⟩
 exact Z1
 refine⟨Zo V.mp (hwm i Z9),trivial,?_⟩
 intro _
 unfold Q
 rw[show o6 ((w.map E1).length:Int) ((w.map r4).length:Int)=true from by unfold o6;simp])
def sP(w:List Pg):o8 Tryz.prog:=.mk 30 [bQ w] [] ((w.length<=30)/\(∀ i,n7 (w.getD i m0))/\(av w=false)) (.tup [.b7,bV false]) [] (by
 rintro⟨hw,hz,hk⟩
 refine aq (N:=31) (rs:=[.tmp 2,.tmp 3]) Tryz.func30
  (.q 2<|.q 3<|.br (.q 2<|.nil) (.cu Vl (fun g10=>.q 1<|.q 3<|.loop (Nat×Nat) (fun (i,g)=>⟨[(0,bQ w),(4,.om (wE (w.take i)) g),(11,bQ w),(12,iN w.length),(13,iN i)],[]⟩) (fun (i,g)=>i<=w.length/\∀ j,j<i->dq (w.getD j m0)=true) (fun (i,g)=>w.length-i) (fun (i,g)=>.q 1<|.br (.r 2 [bR ((w.getD i m0).addr) ((w.getD i m0).text) ((w.getD i m0).lead) ((w.getD i m0).l8)]<|.al lX (fun g6=>.st none<|.r 1 [.b7]<|.c (ov (w.getD i m0)) []<|.q 1<|.br (.q 2<|.nil) (.r 4 [.b7,.b7]<|.cu (TA 4 (wE (w.take i)) ((w.getD i m0).addr) (ke (w.getD i m0))) (fun _=>.h (.o4 4 (.om (wE (w.take (i+1))) g))<|.q 2<|.nil)))) (.h (.fz 4)<|.q 2<|.cu Xh (fun _=>.q 5<|.nil))))))
  ((fun v1:V=>(Br (s7 (((w.map r4).length:Nat):Int) 12) (Q v1 v1) (True/\∀ g10:Nat,(∃ x:Nat×Nat,match x with | (h9,A5)=>(h9<=w.length/\∀ j,j<h9->dq (w.getD j m0)=true)/\E (bQ w)/\Q (.om [] g10) (.om (wE (w.take h9)) A5)/\E (bQ w)/\Q (iN ((w.map r4).length)) (iN w.length)/\Q (iN 0) (iN h9)/\True)/\∀ x:Nat×Nat,match x with | (i,g)=>(i<=w.length/\∀ j,j<i->dq (w.getD j m0)=true)->(fun v2:Pg=>Br (s4 (i:Int) (w.length:Int)) (Ex (i:Int) (w.map r4) (bR (v2.addr) (v2.text) (v2.lead) (v2.l8))/\True/\∀ g6:Nat,Z g6 0/\Z g6 0/\(ov v2).sm/\((n7 v2))/\Br (!(dq v2)) (Q v1 v1) (Z g6 0/\Z g6 0/\(((g:Nat)=g/\(wE (w.take i):List (BL×Value))=wE (w.take i))/\((sV (v2.addr):V)=sV (v2.addr))/\(bR (v2.addr) (v2.text) (v2.lead) (v2.l8):V).val? =some (ke v2))/\∀ _:Unit,((.om (dI (wE (w.take i)) (v2.addr) (ke v2)) g:V)=.om (wE (w.take (i+1))) g)/\m6 ((i:Int)+1)/\∃ x:Nat×Nat,match x with | (b9,s3)=>(b9<=w.length/\∀ j,j<b9->dq (w.getD j m0)=true)/\(w.length-b9<w.length-i)/\E (bQ w)/\Q (.om (wE (w.take (i+1))) g) (.om (wE (w.take b9)) s3)/\E (bQ w)/\E (iN w.length)/\Q (iN (i+1)) (iN b9)/\True)) (True/\∀ _:Unit,Q (.tup [.b7,bV (o6 (((wE (w.take i)).length:Nat):Int) (((w.map r4).length:Nat):Int))]) v1)) (w.getD i m0)))) (.tup [.b7,bV false])) ?_
 refine bI (fun j7=>?_) fun j7=>?_
 unfold Q
 rfl
 refine⟨trivial,?_⟩
 intro g10
 refine⟨⟨(0,g10),?_,rfl,Z4,rfl,Z4,rfl,trivial⟩,?_⟩
 simp
 rintro⟨i,g⟩ ⟨h1,h2⟩
 have hzi:=hz i
 refine bI (fun l4=>?_) fun l4=>?_
 refine⟨⟨Z9,aj (d:=m0) Z9⟩,trivial,?_⟩
 intro g6
 refine⟨rfl,rfl,rfl,hz i,?_⟩
 refine bI (fun m8=>?_) fun m8=>?_
 unfold Q
 rfl
 refine⟨rfl,rfl,⟨⟨rfl,rfl⟩,rfl,rfl⟩,?_⟩
 intro _
 refine⟨Zo (V.om · g) ((nh Z9).symm),Z9,?_⟩
 refine⟨(i+1,g),?_,?_,rfl,rfl,rfl,rfl,rfl,trivial⟩
 exact⟨Z9,bE h2 (by simpa using m8)⟩
 exact Z1
 refine⟨trivial,?_⟩
 intro _
 unfold Q
 have q1:=CQ w w.length (Zy _)
 have q2:=Ef hk Z9 (fun j hj=>h2 j Z9)
 rw[show i=w.length from Z9]
 have q3:(wE (w.take w.length)).length≠w.length:=fun c=>q2 (q1.2.1 c)
 rw[show o6 ((wE (w.take w.length)).length:Int) ((w.map r4).length:Int)=false from by unfold o6;exact beq_eq_false_iff_ne.2 (by rw[ZM];omega)])
def wv(w:List Pg)(a:BL)(n:Int):o8 Tryz.prog:=.mk 90 [.mp (w.map E1),sV a,iV n] [] ((0<=n)/\(n<=1000)) (.tup [iV ((ae w a n).1),sV ((ae w a n).2)]) [] (by
 rintro⟨hn,TO⟩
 refine aq (N:=36) (rs:=[.tmp 6,.tmp 7]) Tryz.func90
  (.q 2<|.q 2<|.cu (lkC (w.map E1) a (bR ((A3 w a).1.addr) ((A3 w a).1.text) ((A3 w a).1.lead) ((A3 w a).1.l8)) ((A3 w a).2)) (fun _=>.q 3<|.al lX (fun g8=>.st none<|.q 1<|.q 7<|.br (.q 2<|.nil) (.r 5 [.b7]<|.br (.q 2<|.nil) (.r 4 [.b7]<|.br (.dx 3 [0,1,2] [(1,⟨false,[],some [8],[33],[]⟩)] []<|.q 1<|.r 1 [.b7]<|.q 1<|.q 1<|.nil) (.dx 3 [0,1,2] [(1,⟨false,[],some [8],[35],[]⟩)] []<|.q 1<|.r 1 [.b7]<|.q 1<|.q 1<|.nil))))))
  (((w.map E1=w.map E1)/\((sV a:V)=sV a)/\((((A3 w a).2)=true/\∃ y,bM (w.map E1) a=some y/\(bR ((A3 w a).1.addr) ((A3 w a).1.text) ((A3 w a).1.lead) ((A3 w a).1.l8):V).val? =some y)\/(((A3 w a).2)=false/\bM (w.map E1) a=none/\∃ y,(bR ((A3 w a).1.addr) ((A3 w a).1.text) ((A3 w a).1.lead) ((A3 w a).1.l8):V).val? =some y/\∀ w,(zeroValue 82).run Tryz.prog w=.ok y w)))/\∀ _:Unit,(fun v1:V=> ∀ g8:Nat,Z g8 0/\Pk (!((A3 w a).2)) true ((!((A3 w a).2))==false)/\Br ((!((A3 w a).2))||(s4 n 0)) (Q (.tup [iN 0,sV []]) v1) (Z g8 3/\Br (s4 n ((A3 w a).1.l8)) (Q (.tup [iN 3,sV []]) v1) (Z g8 2/\Br (!(((A3 w a).1.lead)==[])) (Z g8 2/\Q (.tup [iN 2,sV ((A3 w a).1.lead)]) v1) (Z g8 1/\Q (.tup [iN 1,sV ((A3 w a).1.text)]) v1)))) (.tup [iV ((ae w a n).1),sV ((ae w a n).2)])) ?_
 refine⟨⟨rfl,rfl,KN w a⟩,?_⟩
 intro _
 intro g8
 refine⟨rfl,⟨fun _=>rfl,fun h=>by rw[h] <;> rfl⟩,?_⟩
 refine bI (fun j7=>?_) fun j7=>?_
 unfold Q
 have hx:(A3 w a).2=false:=by grind
 unfold ae
 rw[if_pos hx]
 rfl
 refine⟨rfl,?_⟩
 refine bI (fun l4=>?_) fun l4=>?_
 unfold Q
 have hx:(A3 w a).2=true:=by grind
 unfold ae
 rw[if_neg (by rw[hx];decide),if_pos Z9]
 rfl
 refine⟨rfl,?_⟩
 refine bI (fun m8=>?_) fun m8=>?_
 refine⟨rfl,?_⟩
 unfold Q
 have hx:(A3 w a).2=true:=by grind
 unfold ae
 rw[if_neg (by rw[hx];decide),if_neg Z9,if_neg (by grind)]
 rfl
 refine⟨rfl,?_⟩
 unfold Q
 have hx:(A3 w a).2=true:=by grind
 unfold ae
 rw[if_neg (by rw[hx];decide),if_neg Z9,if_pos (by grind)]
 rfl)
def qK(w:List Pg)(a:BL):o8 Tryz.prog:=.mk 63 [.mp (w.map E1),sV a] [] True (.tup [iV ((ae w a 2).1),sV ((ae w a 2).2)]) [] (by
 intro _
 refine aq (N:=11) (rs:=[.tmp 4,.tmp 5]) Tryz.func63
  (.q 2<|.q 2<|.c (wv w a (2:Int)) []<|.q 4<|.nil)
  ((wv w a (2:Int)).sm/\((0<=(2:Int))/\((2:Int)<=1000))/\Q (.tup [iV ((ae w a (2:Int)).1),sV ((ae w a (2:Int)).2)]) (.tup [iV ((ae w a 2).1),sV ((ae w a 2).2)])) ?_
 refine⟨rfl,⟨Z5,Z5⟩,?_⟩
 unfold Q
 rfl)
end Go.Proofs.YtelggdgnblpjdaaGreatDoor