/-
  Words and walks for the laws of pedlar's seat: what each function of the program computes, and that it does; no conditions beyond those that each statement names.
-/
import Derived.Test.YtbjbamjffkanbaaGreatDoorGB
import Derived.Test.YtbjbamjffkanbaaGreatDoorGA
set_option linter.unusedVariables false
set_option linter.unusedSimpArgs false
set_option linter.unnecessarySimpa false
set_option linter.unusedSectionVars false
namespace Go.Proofs.YtbjbamjffkanbaaGreatDoor
open Go Go.Abs Go.RowKit Go.Pd
set_option maxRecDepth 20000
abbrev ay(p0:List BL):V:=.sl false (p0.map sV)
def qd(b:UInt8):o8 Tryz.prog:=.mk 198 [iN b.toNat] [] True (sV (eP b)) [] (by
 intro _
 have hb:=b.toNat_lt
 refine az (N:=20) (rs:=[.tmp 2]) Tryz.func198
  (.q 1<|.q 1<|.dx 16 [0,1,2,3,4,5,6,7,8,9,10,11,12,13,14,15] [] []<|.q 1<|.q 1<|.q 1<|.q 1<|.q 1<|.q 1<|.q 1<|.q 1<|.q 1<|.q 1<|.q 1<|.q 1<|.q 1<|.q 1<|.q 1<|.q 1<|.q 1<|.nil)
  ((fun v1:BL=>(fun v2:Int=>(((0:Int)<=v2/\(0:Int)<16/\m9 v2)/\((0:Int)<=v2/\(0:Int)<16/\m9 v2)/\m9 (((b.toNat / 16:Nat):Int)+1)/\Sx ((b.toNat / 16:Nat):Int) (((b.toNat / 16)+1:Nat):Int) v1/\(([37]:BL).length+((v1.take ((b.toNat / 16)+1)).drop (b.toNat / 16)).length<=4611686018427387904)/\((0:Int)<=v2/\(0:Int)<16)/\((0:Int)<=v2/\(0:Int)<16)/\m9 (((b.toNat % 16:Nat):Int)+1)/\Sx ((b.toNat % 16:Nat):Int) (((b.toNat % 16)+1:Nat):Int) v1/\((([37]:BL)++((v1.take ((b.toNat / 16)+1)).drop (b.toNat / 16))).length+((v1.take ((b.toNat % 16)+1)).drop (b.toNat % 16)).length<=4611686018427387904)/\Q (sV ((([37]:BL)++((v1.take ((b.toNat / 16)+1)).drop (b.toNat / 16)))++((v1.take ((b.toNat % 16)+1)).drop (b.toNat % 16)))) (sV (eP b)))) (b.toNat:Int)) ([48,49,50,51,52,53,54,55,56,57,65,66,67,68,69,70]:BL)) ?_
 refine⟨by have:=UInt8.toNat_lt b;omega,by have:=UInt8.toNat_lt b;omega,by have:=UInt8.toNat_lt b;omega,by have:=UInt8.toNat_lt b;unfold Sx;simp;omega,by have:=UInt8.toNat_lt b;simp;omega,by have:=UInt8.toNat_lt b;omega,by have:=UInt8.toNat_lt b;omega,by have:=UInt8.toNat_lt b;omega,by have:=UInt8.toNat_lt b;unfold Sx;simp;omega,by have:=UInt8.toNat_lt b;simp;omega,?_⟩
 unfold Q
 refine congrArg sV ?_
 show [37]++(km.take (b.toNat / 16+1)).drop (b.toNat / 16)++(km.take (b.toNat % 16+1)).drop (b.toNat % 16)=_
 rw[qp (by simp[km];omega) 0,qp (by simp[km];omega) 0];rfl)
def jN(s:BL):o8 Tryz.prog:=.mk 184 [sV s] [] (s.length<=4611686018427387904) (.tup [sV ((bQ s).1),bV ((bQ s).2)]) [] (by
 intro hs
 refine az (N:=73) (rs:=[.tmp 2,.tmp 3]) Tryz.func184
  (.q 2<|.q 3<|.br (.q 2<|.nil) (.q 1<|.q 1<|.loop (Nat×BL) (fun (i,o)=>⟨[(0,sV s),(4,sV o),(5,iN i)],[]⟩) (fun (i,o)=>i<=s.length/\o.length<=3*i/\bJ s=(bJ (s.drop i)).map (o++ ·)) (fun (i,o)=>s.length-i) (fun (i,o)=>.q 4<|.br (.q 5<|.q 4<|.br (.q 10<|.cg (kf (s.getD (i+1) 0))<|.q 7<|.cg (kf (s.getD (i+2) 0))<|.q 2<|.br (.q 2<|.nil) (.dx 12 [0,1,2,3,4,5,6,7,8,9,10,11] [] []<|.q 1<|.q 1<|.q 1<|.q 1<|.c (kf (s.getD (i+1) 0)) []<|.q 1<|.q 1<|.q 1<|.q 1<|.q 1<|.c (kf (s.getD (i+2) 0)) []<|.q 1<|.q 1<|.h (.o5 56 (iN ((db (s.getD (i+1) 0) (s.getD (i+2) 0)).toNat)))<|.h (.o5 6 (iN ((db (s.getD (i+1) 0) (s.getD (i+2) 0)).toNat)))<|.q 3<|.q 2<|.c (jQ (db (s.getD (i+1) 0) (s.getD (i+2) 0))) []<|.br (.q 3<|.bs<|.K6 [(db (s.getD (i+1) 0) (s.getD (i+2) 0))]<|.q 2<|.q 3<|.nil) (.q 2<|.c (qd (db (s.getD (i+1) 0) (s.getD (i+2) 0))) []<|.q 2<|.q 3<|.nil))) (.q 2<|.c (jQ (s.getD i 0)) []<|.br (.q 3<|.bs<|.K6 [(s.getD i 0)]<|.q 2<|.q 3<|.nil) (.q 2<|.c (qd (s.getD i 0)) []<|.q 2<|.q 3<|.nil))) (.q 3<|.nil))))
  ((fun v1:Int=>(fun v2:V=>(Br (s9 v1 60) (Q (.tup [sV [],bV false]) v2) ((∃ x:Nat×BL,match x with | (j7,u7)=>(j7<=s.length/\u7.length<=3*j7/\bJ s=(bJ (s.drop j7)).map (u7++ ·))/\E (sV s)/\Q (sV []) (sV u7)/\Q (iN 0) (iN j7)/\True)/\∀ x:Nat×BL,match x with | (i,o)=>(i<=s.length/\o.length<=3*i/\bJ s=(bJ (s.drop i)).map (o++ ·))->(fun v9:Int=>(fun v3:Bool=>(fun v4:Bool=>(fun v5:Int=>(fun v6:V=>(fun v7:Int=>(fun v8:Bool=>Br (s8 (i:Int) v1) (Ix (i:Int) s/\m9 v5/\Ix (i:Int) s/\Br (o6 v5 37) (m9 ((i:Int)+2)/\Gd (v3==false) (m9 ((i:Int)+1))/\Gd (v3==false) (Ix ((i+1:Nat):Int) s)/\Gd (v3==false) ((True)/\(kf (s.getD (i+1) 0)).sm)/\Pk v3 true (v3==false)/\Gd v8 (m9 ((i:Int)+2))/\Gd v8 (Ix v9 s)/\Gd v8 ((True)/\(kf (s.getD (i+2) 0)).sm)/\Pk (v3||v4) true v8/\Br ((v3||v4)||(s8 (ct (s.getD (i+2) 0)) 0)) (Q (.tup [sV [],bV false]) v2) (m9 ((i:Int)+1)/\Ix ((i+1:Nat):Int) s/\(kf (s.getD (i+1) 0)).sm/\(True)/\m9 ((ct (s.getD (i+1) 0))*16)/\m9 ((i:Int)+2)/\Ix v9 s/\(kf (s.getD (i+2) 0)).sm/\(True)/\m9 (((ct (s.getD (i+1) 0))*16)+(ct (s.getD (i+2) 0)))/\(v6=iN ((db (s.getD (i+1) 0) (s.getD (i+2) 0)).toNat))/\(v6=iN ((db (s.getD (i+1) 0) (s.getD (i+2) 0)).toNat))/\m9 ((i:Int)+2)/\Ot v7/\(jQ (db (s.getD (i+1) 0) (s.getD (i+2) 0))).sm/\(True)/\Br (dN (db (s.getD (i+1) 0) (s.getD (i+2) 0))) (Ot v7/\(True)/\([uN ((db (s.getD (i+1) 0) (s.getD (i+2) 0)).toNat)]=[(db (s.getD (i+1) 0) (s.getD (i+2) 0))].map n6)/\(o.length+([(db (s.getD (i+1) 0) (s.getD (i+2) 0))]:BL).length<=4611686018427387904)/\m9 (v9+1)/\∃ x:Nat×BL,match x with | (c5,l9)=>(c5<=s.length/\l9.length<=3*c5/\bJ s=(bJ (s.drop c5)).map (l9++ ·))/\(s.length-c5<s.length-i)/\E (sV s)/\Q (sV (o++[(db (s.getD (i+1) 0) (s.getD (i+2) 0))])) (sV l9)/\Q (iN ((i+2)+1)) (iN c5)/\True) ((qd (db (s.getD (i+1) 0) (s.getD (i+2) 0))).sm/\(True)/\(o.length+(eP (db (s.getD (i+1) 0) (s.getD (i+2) 0))).length<=4611686018427387904)/\m9 (v9+1)/\∃ x:Nat×BL,match x with | (c5,l9)=>(c5<=s.length/\l9.length<=3*c5/\bJ s=(bJ (s.drop c5)).map (l9++ ·))/\(s.length-c5<s.length-i)/\E (sV s)/\Q (sV (o++(eP (db (s.getD (i+1) 0) (s.getD (i+2) 0))))) (sV l9)/\Q (iN ((i+2)+1)) (iN c5)/\True))) (Ot v5/\(jQ (s.getD i 0)).sm/\(True)/\Br (dN (s.getD i 0)) (Ot v5/\(True)/\([uN ((s.getD i 0).toNat)]=[(s.getD i 0)].map n6)/\(o.length+([(s.getD i 0)]:BL).length<=4611686018427387904)/\m9 ((i:Int)+1)/\∃ x:Nat×BL,match x with | (c5,l9)=>(c5<=s.length/\l9.length<=3*c5/\bJ s=(bJ (s.drop c5)).map (l9++ ·))/\(s.length-c5<s.length-i)/\E (sV s)/\Q (sV (o++[(s.getD i 0)])) (sV l9)/\Q (iN (i+1)) (iN c5)/\True) ((qd (s.getD i 0)).sm/\(True)/\(o.length+(eP (s.getD i 0)).length<=4611686018427387904)/\m9 ((i:Int)+1)/\∃ x:Nat×BL,match x with | (c5,l9)=>(c5<=s.length/\l9.length<=3*c5/\bJ s=(bJ (s.drop c5)).map (l9++ ·))/\(s.length-c5<s.length-i)/\E (sV s)/\Q (sV (o++(eP (s.getD i 0)))) (sV l9)/\Q (iN (i+1)) (iN c5)/\True))) (Q (.tup [sV o,bV true]) v2)) ((v3||v4)==false)) (((db (s.getD (i+1) 0) (s.getD (i+2) 0)).toNat:Nat):Int)) (iV (((ct (s.getD (i+1) 0))*16)+(ct (s.getD (i+2) 0))):V)) (((s.getD i 0).toNat:Nat):Int)) (s8 (ct (s.getD (i+1) 0)) 0)) (z6 v9 v1)) ((i+2:Nat):Int)))) (.tup [sV ((bQ s).1),bV ((bQ s).2)])) (s.length:Int)) ?_
 refine bI (fun j9=>?_) fun j9=>?_
 unfold Q
 rw[show bQ s=([],false) from if_neg Z9]
 refine⟨⟨(0,[]),?_,rfl,rfl,rfl,trivial⟩,?_⟩
 refine⟨Z9,Z8,?_⟩
 cases h:bJ s <;> simp[h]
 rintro⟨i,o⟩ ⟨hi,ho,LW⟩
 refine bI (fun l6=>?_) fun l6=>?_
 refine⟨Z9,by have:=UInt8.toNat_lt (s.getD i 0);omega,Z9,?_⟩
 refine bI (fun n0=>?_) fun n0=>?_
 refine⟨Z9,fun hG=>by(try simp only[nb]at hG);omega,fun hG=>by(try simp only[nb]at hG);omega,fun hG=>⟨trivial,rfl⟩,⟨fun _=>rfl,fun h=>by rw[h] <;> rfl⟩,fun hG=>by(try simp only[nb]at hG);omega,fun hG=>by(try simp only[nb]at hG);omega,fun hG=>⟨trivial,rfl⟩,⟨fun _=>rfl,fun h=>by rw[h] <;> rfl⟩,?_⟩
 refine bI (fun w5=>?_) fun w5=>?_
 unfold Q
 rw[show bQ s=([],false) from by unfold bQ;rw[LW,zf Z9 Z9 Z9];simp]
 refine⟨Z9,Z9,rfl,trivial,by have:=fE (s.getD (i+1) 0);have:=ib (s.getD (i+1) 0);omega,Z9,Z9,rfl,trivial,by have:=fE (s.getD (i+1) 0);have:=ib (s.getD (i+1) 0);have:=fE (s.getD (i+2) 0);have:=ib (s.getD (i+2) 0);omega,(congrArg iV (sW Z9 Z9).symm),(congrArg iV (sW Z9 Z9).symm),Z9,by have:=UInt8.toNat_lt (db (s.getD (i+1) 0) (s.getD (i+2) 0));omega,rfl,trivial,?_⟩
 refine bI (fun G0=>?_) fun G0=>?_
 refine⟨by have:=UInt8.toNat_lt (db (s.getD (i+1) 0) (s.getD (i+2) 0));omega,trivial,rfl,Z3,Z9,?_⟩
 refine⟨((i+2)+1,o++[(db (s.getD (i+1) 0) (s.getD (i+2) 0))]),?_,?_,rfl,rfl,rfl,trivial⟩
 have he:eH (db (s.getD (i+1) 0) (s.getD (i+2) 0))=[(db (s.getD (i+1) 0) (s.getD (i+2) 0))]:=by unfold eH;rw[if_pos G0]
 have hl:=eK (db (s.getD (i+1) 0) (s.getD (i+2) 0))
 rw[he]at hl
 refine⟨Z9,by rw[List.length_append];omega,?_⟩
 rw[LW,pN Z9 Z9 Z9 Z9,he]
 cases bJ (s.drop (i+3)) <;> simp
 exact Z1
 refine⟨rfl,trivial,by have:(eP (db (s.getD (i+1) 0) (s.getD (i+2) 0))).length=3:=rfl;(try simp only[List.length_append,List.length_cons,List.length_nil]);omega,Z9,?_⟩
 refine⟨((i+2)+1,o++(eP (db (s.getD (i+1) 0) (s.getD (i+2) 0)))),?_,?_,rfl,rfl,rfl,trivial⟩
 have he:eH (db (s.getD (i+1) 0) (s.getD (i+2) 0))=eP (db (s.getD (i+1) 0) (s.getD (i+2) 0)):=by unfold eH;rw[if_neg (by rw[G0];decide)]
 have hl:=eK (db (s.getD (i+1) 0) (s.getD (i+2) 0))
 rw[he]at hl
 refine⟨Z9,by rw[List.length_append];omega,?_⟩
 rw[LW,pN Z9 Z9 Z9 Z9,he]
 cases bJ (s.drop (i+3)) <;> simp
 exact Z1
 refine⟨by have:=UInt8.toNat_lt (s.getD i 0);omega,rfl,trivial,?_⟩
 refine bI (fun Mp=>?_) fun Mp=>?_
 refine⟨by have:=UInt8.toNat_lt (s.getD i 0);omega,trivial,rfl,Z3,Z9,?_⟩
 refine⟨(i+1,o++[(s.getD i 0)]),?_,?_,rfl,rfl,rfl,trivial⟩
 have he:eH (s.getD i 0)=[(s.getD i 0)]:=by unfold eH;rw[if_pos Mp]
 have hl:=eK (s.getD i 0)
 rw[he]at hl
 refine⟨Z9,by rw[List.length_append];omega,?_⟩
 rw[LW,nE Z9 Z9,he]
 cases bJ (s.drop (i+1)) <;> simp
 exact Z1
 refine⟨rfl,trivial,by have:(eP (s.getD i 0)).length=3:=rfl;(try simp only[List.length_append,List.length_cons,List.length_nil]);omega,Z9,?_⟩
 refine⟨(i+1,o++(eP (s.getD i 0))),?_,?_,rfl,rfl,rfl,trivial⟩
 have he:eH (s.getD i 0)=eP (s.getD i 0):=by unfold eH;rw[if_neg (by rw[Mp];decide)]
 have hl:=eK (s.getD i 0)
 rw[he]at hl
 refine⟨Z9,by rw[List.length_append];omega,?_⟩
 rw[LW,nE Z9 Z9,he]
 cases bJ (s.drop (i+1)) <;> simp
 exact Z1
 unfold Q
 rw[List.drop_eq_nil_of_le Z9]at LW
 rw[show bQ s=(o,true) from by unfold bQ;rw[LW,if_pos Z9];simp[bJ]])
def pB(s:BL):o8 Tryz.prog:=.mk 164 [sV s] [] (s.length<=4611686018427387904) (bV (eS s)) [] (by
 intro hs
 refine az (N:=16) (rs:=[.tmp 2]) Tryz.func164
  (.q 1<|.q 1<|.c (jN s) []<|.q 5<|.q 7<|.nil)
  ((jN s).sm/\((s.length<=4611686018427387904))/\Pk ((bQ s).2) (((bQ s).2)==true) true/\Q (bV (((bQ s).2)&&(((bQ s).1)==s))) (bV (eS s))) ?_
 refine⟨rfl,Z5,⟨fun h=>by rw[h] <;> rfl,fun _=>rfl⟩,?_⟩
 unfold Q
 rfl)
abbrev iY(s:BL)(c:UInt8)(o:List BL)(r:BL)(m:Bool)(g:Nat)(f:Nat)(k:Nat):Prop:=(m=true->aj c s=o++aj c r)/\(m=false->aj c s=o)/\o.length+r.length<=s.length+cond m 0 1/\r.length<=s.length
def wH(s:BL)(c:UInt8):o8 Tryz.prog:=.mk 183 [sV s,uN c.toNat] [] (s.length<=1099511627776) (ay (aj c s)) [] (by
 intro hs
 refine az (N:=24) (rs:=[.tmp 4]) Tryz.func183
  (.q 1<|.bs<|.q 1<|.q 2<|.q 1<|.h (.H4 5 1)<|.loop ((List BL)×BL×Bool×Nat×Nat×Nat) (fun (o,r,m,g,f,k)=>⟨[(0,sV s),(1,uN c.toNat),(5,.own 1 (o.map sV) g f k),(6,sV r),(7,bV m)],[]⟩) (fun (o,r,m,g,f,k)=>iY s c o r m g f k) (fun (o,r,m,g,f,k)=>cond m (r.length+1) 0) (fun (o,r,m,g,f,k)=>.q 1<|.br (.q 1<|.q 2<|.c (mB r c) []<|.q 7<|.q 2<|.bs<|.ap (fun g22 RE Sz=>.h (.o5 22 (.own 1 ((o++[(ag c r).1]).map sV) g22 RE Sz))<|.q 1<|.nil)) (.h (.fz 5)<|.h (.o5 5 (ay o))<|.q 2<|.nil)))
  ((∃ x:(List BL)×BL×Bool×Nat×Nat×Nat,match x with | (u7,LS,MZ,B0,z7,s5)=>(iY s c u7 LS MZ B0 z7 s5)/\E (sV s)/\E (uN c.toNat)/\Q (.own 1 ([].map sV) 0 0 0) (.own 1 (u7.map sV) B0 z7 s5)/\Q (sV s) (sV LS)/\Q (bV true) (bV MZ)/\True)/\∀ x:(List BL)×BL×Bool×Nat×Nat×Nat,match x with | (o,r,m,g,f,k)=>(iY s c o r m g f k)->(fun v1:List V=>Br m ((mB r c).sm/\((r.length<=4611686018427387904))/\((1,1,g,f,k,(o.map sV).length)=(1,1,g,f,k,(o.map sV).length))/\(True)/\(V.aG v1=false)/\(aL 1 v1)/\(((o.map sV).length+v1.length)*16<=140737488355328)/\∀ g22 RE Sz:Nat,((.own 1 ((o.map sV)++v1) g22 RE Sz:V)=.own 1 ((o++[(ag c r).1]).map sV) g22 RE Sz)/\∃ x:(List BL)×BL×Bool×Nat×Nat×Nat,match x with | (l9,B9,m₂,s7,r4,k₂)=>(iY s c l9 B9 m₂ s7 r4 k₂)/\(cond m₂ (B9.length+1) 0<cond m (r.length+1) 0)/\E (sV s)/\E (uN c.toNat)/\Q (.own 1 ((o++[(ag c r).1]).map sV) g22 RE Sz) (.own 1 (l9.map sV) s7 r4 k₂)/\Q (sV ((ag c r).2.1)) (sV B9)/\Q (bV ((ag c r).2.2)) (bV m₂)/\True) (((.sl false (V.D5 (o.map sV)):V)=ay o)/\Q (ay o) (ay (aj c s)))) ([sV ((ag c r).1)]:List V)) ?_
 refine⟨⟨([],s,true,0,0,0),?_,rfl,rfl,rfl,rfl,rfl,trivial⟩,?_⟩
 unfold iY
 simp
 rintro⟨o,r,m,g,f,k⟩ ⟨h1,h2,h3,h4⟩
 refine bI (fun j9=>?_) fun j9=>?_
 refine⟨rfl,Z5,rfl,trivial,rfl,by simp[aL,V.n,V.ns],by rw[j9]at h3;simp at h3 ⊢;omega,?_⟩
 intro g22 RE Sz
 refine⟨congrArg (V.own 1 · g22 RE Sz) Z8,?_⟩
 refine⟨(o++[(ag c r).1],(ag c r).2.1,(ag c r).2.2,g22,RE,Sz),?_,?_,rfl,rfl,rfl,rfl,rfl,trivial⟩
 unfold iY
 have hl:=yP c r
 subst j9
 have h1:=h1 rfl
 rw[vk c r]at h1
 have hle:=lO c r
 refine⟨fun hm=>?_,fun hm=>?_,?_,Z9⟩
 rw[h1,hm];simp
 rw[h1,hm];simp
 simp only[List.length_append,List.length_cons,List.length_nil];cases hm:(ag c r).2.2 <;> simp[hm]at hl h3 ⊢ <;> omega
 have:=yP c r
 subst j9
 cases hm:(ag c r).2.2 <;> simp[hm]at this ⊢;omega
 refine⟨congrArg (V.sl false) (aR (fun _=>rfl) _),?_⟩
 unfold Q
 rw[h2 j9])
def sG(ps:List BL):o8 Tryz.prog:=.mk 185 [ay ps] [] (ps.length<=1099511627776) (ay (bR ps)) [] (by
 intro hs
 refine az (N:=45) (rs:=[.tmp 2]) Tryz.func185
  (.q 1<|.bs<|.q 1<|.q 1<|.h (.H4 3 1)<|.loop (Nat×(List BL)×Nat×Nat×Nat) (fun (i,o,g,f,k)=>⟨[(0,ay ps),(3,.own 1 (o.map sV) g f k),(4,iN i)],[]⟩) (fun (i,o,g,f,k)=>i<=ps.length/\o=bR (ps.take i)/\o.length<=i) (fun (i,o,g,f,k)=>ps.length-i) (fun (i,o,g,f,k)=>.q 4<|.br (.r 13 [sV (ps.getD i []),sV (ps.getD i [])]<|.br (.q 3<|.nil) (.r 6 [sV (ps.getD i [])]<|.br (.q 4<|.mm<|.q 1<|.rs<|.h (.o5 3 (.own 1 (o.dropLast.map sV) g (f+(0+((0:Int).toNat))*1) (k-((0:Int).toNat))))<|.q 3<|.nil) (.r 5 [sV (ps.getD i [])]<|.bs<|.ap (fun g18 RF SA=>.h (.o5 18 (.own 1 ((o++[(ps.getD i [])]).map sV) g18 RF SA))<|.q 1<|.q 3<|.nil)))) (.h (.fz 3)<|.h (.o5 3 (ay o))<|.q 2<|.nil)))
  ((∃ x:Nat×(List BL)×Nat×Nat×Nat,match x with | (j7,u7,B0,z7,s5)=>(j7<=ps.length/\u7=bR (ps.take j7)/\u7.length<=j7)/\E (ay ps)/\Q (.own 1 ([].map sV) 0 0 0) (.own 1 (u7.map sV) B0 z7 s5)/\Q (iN 0) (iN j7)/\True)/\∀ x:Nat×(List BL)×Nat×Nat×Nat,match x with | (i,o,g,f,k)=>(i<=ps.length/\o=bR (ps.take i)/\o.length<=i)->(fun v1:Int=>(fun v2:List V=>(fun v3:Bool=>(fun v4:V=>Br (s8 (i:Int) (((ps.map sV).length:Nat):Int)) (Ex (i:Int) (ps.map sV) v4/\True/\Gd v3 (Ex (i:Int) (ps.map sV) v4)/\Gd v3 True/\Pk ((ps.getD i [])==[]) true v3/\Br (((ps.getD i [])==[])||((ps.getD i [])==([46]:BL))) (m9 ((i:Int)+1)/\∃ x:Nat×(List BL)×Nat×Nat×Nat,match x with | (c5,l9,s7,r4,k₂)=>(c5<=ps.length/\l9=bR (ps.take c5)/\l9.length<=c5)/\(ps.length-c5<ps.length-i)/\E (ay ps)/\Q (.own 1 (o.map sV) g f k) (.own 1 (l9.map sV) s7 r4 k₂)/\Q (iN (i+1)) (iN c5)/\True) (Ex (i:Int) (ps.map sV) v4/\True/\Br ((ps.getD i [])==([46,46]:BL)) (m9 (v1-1)/\(IntKind.i64=IntKind.i64)/\((0:Int)<=(0:Int)/\(0:Int)<=(max (v1-1) 0)/\(max (v1-1) 0)<=((o.map sV).length)/\1=1)/\((3,1,g,f)=(3,1,g,f))/\((0+((0:Int).toNat))+((Int.toNat (max (v1-1) 0))-((0:Int).toNat))<=(o.map sV).length/\(0+((0:Int).toNat))+(k-((0:Int).toNat))<=k/\V.aG (o.map sV)=false)/\((.own 1 (((o.map sV).drop (0+((0:Int).toNat))).take ((Int.toNat (max (v1-1) 0))-((0:Int).toNat))) g (f+(0+((0:Int).toNat))*1) (k-((0:Int).toNat)):V)=.own 1 (o.dropLast.map sV) g (f+(0+((0:Int).toNat))*1) (k-((0:Int).toNat)))/\m9 ((i:Int)+1)/\∃ x:Nat×(List BL)×Nat×Nat×Nat,match x with | (c5,l9,s7,r4,k₂)=>(c5<=ps.length/\l9=bR (ps.take c5)/\l9.length<=c5)/\(ps.length-c5<ps.length-i)/\E (ay ps)/\Q (.own 1 (o.dropLast.map sV) g (f+(0+((0:Int).toNat))*1) (k-((0:Int).toNat))) (.own 1 (l9.map sV) s7 r4 k₂)/\Q (iN (i+1)) (iN c5)/\True) (Ex (i:Int) (ps.map sV) v4/\True/\((1,1,g,f,k,(o.map sV).length)=(1,1,g,f,k,(o.map sV).length))/\(True)/\(V.aG v2=false)/\(aL 1 v2)/\(((o.map sV).length+v2.length)*16<=140737488355328)/\∀ g18 RF SA:Nat,((.own 1 ((o.map sV)++v2) g18 RF SA:V)=.own 1 ((o++[(ps.getD i [])]).map sV) g18 RF SA)/\m9 ((i:Int)+1)/\∃ x:Nat×(List BL)×Nat×Nat×Nat,match x with | (c5,l9,s7,r4,k₂)=>(c5<=ps.length/\l9=bR (ps.take c5)/\l9.length<=c5)/\(ps.length-c5<ps.length-i)/\E (ay ps)/\Q (.own 1 ((o++[(ps.getD i [])]).map sV) g18 RF SA) (.own 1 (l9.map sV) s7 r4 k₂)/\Q (iN (i+1)) (iN c5)/\True))) (((.sl false (V.D5 (o.map sV)):V)=ay o)/\Q (ay o) (ay (bR ps)))) (sV (ps.getD i []))) (((ps.getD i [])==[])==false)) ([sV (ps.getD i [])]:List V)) (((o.map sV).length:Nat):Int)) ?_
 refine⟨⟨(0,[],0,0,0),?_,rfl,rfl,rfl,trivial⟩,?_⟩
 simp[bR]
 rintro⟨i,o,g,f,k⟩ ⟨h1,h2,h3⟩
 refine bI (fun j9=>?_) fun j9=>?_
 refine⟨⟨Z9,an (d:=[]) Z9⟩,trivial,fun hG=>⟨Z9,an (d:=[]) Z9⟩,fun hG=>trivial,⟨fun _=>rfl,fun h=>by rw[h] <;> rfl⟩,?_⟩
 refine bI (fun l6=>?_) fun l6=>?_
 refine⟨Z9,?_⟩
 refine⟨(i+1,o,g,f,k),?_,?_,rfl,rfl,rfl,trivial⟩
 refine⟨Z9,?_,Z9⟩
 rw[gY Z9,<- h2,cK,if_pos l6]
 exact Z1
 refine⟨⟨Z9,an (d:=[]) Z9⟩,trivial,?_⟩
 refine bI (fun n0=>?_) fun n0=>?_
 refine⟨Z2,rfl,⟨Z9,Z9,Z9,rfl⟩,rfl,⟨by simp <;> omega,Z8,cM (fun _=>rfl) _⟩,congrArg (V.own 1 · g (f+(0+((0:Int).toNat))*1) (k-((0:Int).toNat))) (by rw[show (0+Int.toNat 0)=0 from rfl,List.drop_zero,<- List.map_take,List.dropLast_eq_take];congr 2;simp;omega),Z9,?_⟩
 refine⟨(i+1,o.dropLast,g,f+(0+((0:Int).toNat))*1,k-((0:Int).toNat)),?_,?_,rfl,rfl,rfl,trivial⟩
 refine⟨Z9,?_,Z0⟩
 rw[gY Z9,<- h2,cK,if_neg (by simpa using l6),if_pos n0]
 exact Z1
 refine⟨⟨Z9,an (d:=[]) Z9⟩,trivial,rfl,trivial,rfl,by simp[aL,V.n,V.ns],Z0,?_⟩
 intro g18 RF SA
 refine⟨congrArg (V.own 1 · g18 RF SA) Z8,Z9,?_⟩
 refine⟨(i+1,o++[(ps.getD i [])],g18,RF,SA),?_,?_,rfl,rfl,rfl,trivial⟩
 refine⟨Z9,?_,Z0⟩
 rw[gY Z9,<- h2,cK,if_neg (by simpa using l6),if_neg n0]
 exact Z1
 refine⟨congrArg (V.sl false) (aR (fun _=>rfl) _),?_⟩
 unfold Q
 rw[h2,List.take_of_length_le Z9])
abbrev bC(p0:BL)(p1:List BL)(p2:Bool)(p3:BL):V:=.agg [sV p0,.sl false (p1.map sV),bV p2,sV p3]
def xW(a:s4):o8 Tryz.prog:=.mk 165 [bC a.h9 a.b9 a.asks a.ask] [] (dR a) (sV (bm a)) [] (by
 intro ha
 obtain⟨z1,z2,z3,z4⟩:=ha
 refine az (N:=31) (rs:=[.tmp 2]) Tryz.func165
  (.bx (fun g1=>.q 1<|.q 1<|.q 1<|.loop (Nat×BL) (fun (i,o)=>⟨[(1,.ptr (.key 1) [] g1 0),(3,sV o),(4,iN i)],[(1,(g1,bC a.h9 a.b9 a.asks a.ask))]⟩) (fun (i,o)=>i<=a.b9.length/\o=[47]++bZ (a.b9.take i)) (fun (i,o)=>a.b9.length-i) (fun (i,o)=>.r 5 [.c9]<|.br (.q 2<|.br (.q 3<|.r 8 [.c9,sV (a.b9.getD i [])]<|.q 3<|.nil) (.r 8 [.c9,sV (a.b9.getD i [])]<|.q 3<|.nil)) (.r 2 [.c9]<|.br (.r 6 [.c9]<|.q 2<|.nil) (.q 2<|.nil)))))
  ((fun v1:V=>(fun v2:BL=>(∀ g1:Nat,(∃ x:Nat×BL,match x with | (j7,u7)=>(j7<=a.b9.length/\u7=[47]++bZ (a.b9.take j7))/\E (.ptr (.key 1) [] g1 0)/\Q (sV v2) (sV u7)/\Q (iN 0) (iN j7)/\Er g1 v1/\True)/\∀ x:Nat×BL,match x with | (i,o)=>(i<=a.b9.length/\o=[47]++bZ (a.b9.take i))->Z g1 1/\Br (s8 (i:Int) (((a.b9.map sV).length:Nat):Int)) (Br (s9 (i:Int) 0) ((o.length+v2.length<=4611686018427387904)/\Z g1 1/\Ex (i:Int) (a.b9.map sV) (sV (a.b9.getD i []))/\True/\((o++v2).length+(a.b9.getD i []).length<=4611686018427387904)/\m9 ((i:Int)+1)/\∃ x:Nat×BL,match x with | (c5,l9)=>(c5<=a.b9.length/\l9=[47]++bZ (a.b9.take c5))/\(a.b9.length-c5<a.b9.length-i)/\E (.ptr (.key 1) [] g1 0)/\Q (sV ((o++v2)++(a.b9.getD i []))) (sV l9)/\Q (iN (i+1)) (iN c5)/\Er g1 v1/\True) (Z g1 1/\Ex (i:Int) (a.b9.map sV) (sV (a.b9.getD i []))/\True/\(o.length+(a.b9.getD i []).length<=4611686018427387904)/\m9 ((i:Int)+1)/\∃ x:Nat×BL,match x with | (c5,l9)=>(c5<=a.b9.length/\l9=[47]++bZ (a.b9.take c5))/\(a.b9.length-c5<a.b9.length-i)/\E (.ptr (.key 1) [] g1 0)/\Q (sV (o++(a.b9.getD i []))) (sV l9)/\Q (iN (i+1)) (iN c5)/\Er g1 v1/\True)) (Z g1 2/\Br a.asks ((o.length+([63]:BL).length<=4611686018427387904)/\Z g1 3/\((o++([63]:BL)).length+a.ask.length<=4611686018427387904)/\Q (sV ((o++([63]:BL))++a.ask)) (sV (bm a))) (Q (sV o) (sV (bm a)))))) ([47]:BL)) (bC a.h9 a.b9 a.asks a.ask)) ?_
 intro g1
 refine⟨⟨(0,[47]),?_,rfl,Z4,rfl,rfl,trivial⟩,?_⟩
 simp[bZ]
 rintro⟨i,o⟩ ⟨h1,h2⟩
 have hl:=qx z4 i h1
 have RZ:o.length<=1+i*1048577:=by rw[h2];simp;omega
 have W4:=z4 i
 refine⟨rfl,?_⟩
 refine bI (fun j9=>?_) fun j9=>?_
 refine bI (fun l6=>?_) fun l6=>?_
 refine⟨Z3,rfl,⟨Z9,an (d:=[]) Z9⟩,trivial,Z3,Z9,?_⟩
 refine⟨(i+1,(o++([47]:BL))++(a.b9.getD i [])),?_,?_,rfl,rfl,rfl,rfl,trivial⟩
 refine⟨Z9,?_⟩
 rw[h2,bj (by omega:i<a.b9.length) [],me,if_neg (by intro h;have:=congrArg List.length h;simp only[List.length_take,List.length_nil]at this;omega)]
 simp[List.append_assoc]
 exact Z1
 refine⟨rfl,⟨Z9,an (d:=[]) Z9⟩,trivial,Z3,Z9,?_⟩
 refine⟨(i+1,o++(a.b9.getD i [])),?_,?_,rfl,rfl,rfl,rfl,trivial⟩
 refine⟨Z9,?_⟩
 have hi0:i=0:=Z9
 subst hi0
 rw[h2,bj (by omega:0<a.b9.length) []];simp[bZ]
 exact Z1
 refine⟨rfl,?_⟩
 refine bI (fun n0=>?_) fun n0=>?_
 refine⟨Z3,rfl,Z3,?_⟩
 unfold Q
 refine congrArg sV ?_
 rw[h2,List.take_of_length_le Z9]
 unfold bm;rw[if_pos n0];simp[List.append_assoc]
 unfold Q
 refine congrArg sV ?_
 rw[h2,List.take_of_length_le Z9]
 unfold bm;rw[if_neg (by rw[n0];decide)];simp)
def pG(a:s4):o8 Tryz.prog:=.mk 135 [bC a.h9 a.b9 a.asks a.ask] [] (dR a) (sV (cC a)) [] (by
 intro ha
 have hp:=CJ ha
 have h1:=ha.1
 refine az (N:=9) (rs:=[.tmp 2]) Tryz.func135
  (.bx (fun g1=>.q 1<|.dx 6 [0,1,2,3,4,5] [(1,⟨false,[],some [1],[4],[]⟩),(3,⟨false,[],some [1],[6],[]⟩)] []<|.q 1<|.r 1 [.c9]<|.q 1<|.r 1 [.c9]<|.c (xW a) []<|.q 1<|.q 1<|.nil))
  (∀ g1:Nat,Z g1 0/\(([47,47]:BL).length+a.h9.length<=4611686018427387904)/\Z g1 0/\(xW a).sm/\((dR a))/\((([47,47]:BL)++a.h9).length+(bm a).length<=4611686018427387904)/\Q (sV ((([47,47]:BL)++a.h9)++(bm a))) (sV (cC a))) ?_
 intro g1
 refine⟨rfl,Z3,rfl,rfl,by first | assumption | exact uB _ | simp_all,Z3,?_⟩
 unfold Q
 rfl)
def pK(a:s4):o8 Tryz.prog:=.mk 134 [bC a.h9 a.b9 a.asks a.ask] [] (dR a) (bV (aI a)) [] (by
 intro ha
 obtain⟨z1,z2,z3,z4⟩:=id ha
 refine az (N:=72) (rs:=[.tmp 2]) Tryz.func134
  (.bx (fun g1=>.q 1<|.r 2 [.c9]<|.c (wY a.h9) []<|.r 10 [.c9,.c9]<|.cg (pB a.ask)<|.r 12 [.c9,.c9]<|.br (.q 1<|.nil) (.q 1<|.loop (Nat) (fun (i:Nat)=>⟨[(1,.ptr (.key 1) [] g1 0),(3,iN i)],[(1,(g1,bC a.h9 a.b9 a.asks a.ask))]⟩) (fun (i:Nat)=>i<=a.b9.length/\∀ j,j<i->dV (a.b9.getD j [])=true) (fun (i:Nat)=>a.b9.length-i) (fun (i:Nat)=>.r 5 [.c9]<|.br (.r 5 [.c9,sV (a.b9.getD i [])]<|.c (pB (a.b9.getD i [])) []<|.r 25 [.c9,sV (a.b9.getD i []),.c9,sV (a.b9.getD i []),.c9,sV (a.b9.getD i [])]<|.br (.q 1<|.nil) (.q 3<|.nil)) (.r 1 [.c9]<|.c (pG a) []<|.q 3<|.nil)))))
  ((fun v1:Bool=>(fun v3:Bool=>(fun v2:Bool=>(fun v4:BL=>(∀ g1:Nat,Z g1 0/\(wY a.h9).sm/\((a.h9.length<=4611686018427387904))/\Gd (v3==false) (Z g1 1)/\Pk v3 true (v3==false)/\Gd ((v3||v1)==false) (Z g1 3)/\Gd ((v3||v1)==false) (((a.ask.length<=4611686018427387904))/\(pB a.ask).sm)/\Pk (v3||v1) true ((v3||v1)==false)/\Gd v2 (Z g1 2)/\Gd (v2&&((!a.asks)==true)) (Z g1 3)/\Gd v2 (Pk (!a.asks) (v2&&((!a.asks)==true)) true)/\Pk ((v3||v1)||(!(eS a.ask))) true v2/\Br (((v3||v1)||(!(eS a.ask)))||((!a.asks)&&(!(a.ask==[])))) (Q (bV false) (bV (aI a))) ((∃ j7:Nat,(j7<=a.b9.length/\∀ j,j<j7->dV (a.b9.getD j [])=true)/\E (.ptr (.key 1) [] g1 0)/\Q (iN 0) (iN j7)/\Er g1 (bC a.h9 a.b9 a.asks a.ask)/\True)/\∀ i:Nat,(i<=a.b9.length/\∀ j,j<i->dV (a.b9.getD j [])=true)->(fun v5:Bool=>(fun v6:Bool=>(fun v7:Bool=>(fun v8:V=>Z g1 1/\Br (s8 (i:Int) (((a.b9.map sV).length:Nat):Int)) (Z g1 1/\Ex (i:Int) (a.b9.map sV) v8/\True/\(pB (a.b9.getD i [])).sm/\(((a.b9.getD i []).length<=4611686018427387904))/\Gd (v5==false) (Z g1 1)/\Gd (v5==false) (Ex (i:Int) (a.b9.map sV) v8)/\Gd (v5==false) True/\Pk v5 true (v5==false)/\Gd v7 (Z g1 1)/\Gd v7 (Ex (i:Int) (a.b9.map sV) v8)/\Gd v7 True/\Pk (v5||((a.b9.getD i [])==[])) true v7/\Gd v6 (Z g1 1)/\Gd v6 (Ex (i:Int) (a.b9.map sV) v8)/\Gd v6 True/\Pk ((v5||((a.b9.getD i [])==[]))||((a.b9.getD i [])==v4)) true v6/\Br (((v5||((a.b9.getD i [])==[]))||((a.b9.getD i [])==v4))||((a.b9.getD i [])==([46,46]:BL))) (Q (bV false) (bV (aI a))) (m9 ((i:Int)+1)/\∃ c5:Nat,(c5<=a.b9.length/\∀ j,j<c5->dV (a.b9.getD j [])=true)/\(a.b9.length-c5<a.b9.length-i)/\E (.ptr (.key 1) [] g1 0)/\Q (iN (i+1)) (iN c5)/\Er g1 (bC a.h9 a.b9 a.asks a.ask)/\True)) (Z g1 0/\(pG a).sm/\((dR a))/\Q (bV (D2 (((cC a).length:Nat):Int) 60)) (bV (aI a)))) (sV (a.b9.getD i []))) ((v5||((a.b9.getD i [])==[]))==false)) (((v5||((a.b9.getD i [])==[]))||((a.b9.getD i [])==v4))==false)) (!(eS (a.b9.getD i [])))))) ([46]:BL)) (((v3||v1)||(!(eS a.ask)))==false)) (!(bU a.h9))) (s9 (((a.b9.map sV).length:Nat):Int) 5)) ?_
 intro g1
 refine⟨rfl,rfl,Z5,fun hG=>rfl,⟨fun _=>rfl,fun h=>by rw[h] <;> rfl⟩,fun hG=>rfl,fun hG=>⟨by(try simp only[nb]at hG);first | assumption | omega | (simp;omega),rfl⟩,⟨fun _=>rfl,fun h=>by rw[h] <;> rfl⟩,fun hG=>rfl,fun hG=>rfl,fun hG=>⟨fun h=>by rw[h];exact(Bool.and_eq_true _ _).mpr ⟨hG,rfl⟩,fun _=>rfl⟩,⟨fun _=>rfl,fun h=>by rw[h] <;> rfl⟩,?_⟩
 refine bI (fun j9=>?_) fun j9=>?_
 unfold Q
 refine congrArg bV ?_
 unfold aI
 grind
 refine⟨⟨0,?_,rfl,rfl,rfl,trivial⟩,?_⟩
 simp
 rintro i ⟨h1,h2⟩
 have W4:=z4 i
 refine⟨rfl,?_⟩
 refine bI (fun l6=>?_) fun l6=>?_
 refine⟨rfl,⟨Z9,an (d:=[]) Z9⟩,trivial,rfl,Z5,fun hG=>rfl,fun hG=>⟨Z9,an (d:=[]) Z9⟩,fun hG=>trivial,⟨fun _=>rfl,fun h=>by rw[h] <;> rfl⟩,fun hG=>rfl,fun hG=>⟨Z9,an (d:=[]) Z9⟩,fun hG=>trivial,⟨fun _=>rfl,fun h=>by rw[h] <;> rfl⟩,fun hG=>rfl,fun hG=>⟨Z9,an (d:=[]) Z9⟩,fun hG=>trivial,⟨fun _=>rfl,fun h=>by rw[h] <;> rfl⟩,?_⟩
 refine bI (fun n0=>?_) fun n0=>?_
 unfold Q
 refine congrArg bV ?_
 unfold aI
 rw[all_false (i:=i) (d:=[]) Z9 (by simp only[dV];grind)];simp
 refine⟨Z9,?_⟩
 refine⟨i+1,?_,?_,rfl,rfl,rfl,trivial⟩
 refine⟨Z9,bP h2 ?_⟩
 simp only[dV];grind
 exact Z1
 refine⟨rfl,rfl,by first | assumption | exact uB _ | simp_all,?_⟩
 unfold Q
 refine congrArg bV ?_
 unfold aI
 rw[all_true (d:=[]) (fun j hj=>h2 j Z9)]
 grind)
def je(a:s4):o8 Tryz.prog:=.mk 97 [bC a.h9 a.b9 a.asks a.ask] [] (dR a) (sV (if aI a=true then cC a else [])) [] (by
 intro ha
 refine az (N:=8) (rs:=[.tmp 2]) Tryz.func97
  (.bx (fun g1=>.q 1<|.r 1 [.c9]<|.c (pK a) []<|.q 1<|.br (.q 1<|.nil) (.r 1 [.c9]<|.c (pG a) []<|.q 1<|.nil)))
  (∀ g1:Nat,Z g1 0/\(pK a).sm/\((dR a))/\Br (!(aI a)) (Q (sV []) (sV (if aI a=true then cC a else []))) (Z g1 0/\(pG a).sm/\((dR a))/\Q (sV (cC a)) (sV (if aI a=true then cC a else [])))) ?_
 intro g1
 refine⟨rfl,rfl,by first | assumption | exact uB _ | simp_all,?_⟩
 refine bI (fun j9=>?_) fun j9=>?_
 unfold Q
 rw[if_neg (by rw[j9];decide)]
 refine⟨rfl,rfl,by first | assumption | exact uB _ | simp_all,?_⟩
 unfold Q
 rw[if_pos j9])
def nH(s:BL):o8 Tryz.prog:=.mk 162 [sV s] [] (s.length<=1099511627776) (sV (aN s)) [] (by
 intro hs
 refine az (N:=35) (rs:=[.tmp 2]) Tryz.func162
  (.q 1<|.q 1<|.sb s (fun g6 c6=>.q 1<|.q 1<|.loop (Nat×BL×Nat×Nat) (fun (i,l,g,k)=>⟨[(3,.own 1 (l.map n6) g 0 k),(4,iN i)],[]⟩) (fun (i,l,g,k)=>i<=s.length/\l.length=s.length/\l=aN (s.take i)++s.drop i) (fun (i,l,g,k)=>s.length-i) (fun (i,l,g,k)=>.q 4<|.br (.r 12 [uN ((l.getD i 0).toNat),uN ((l.getD i 0).toNat)]<|.br (.r 8 [uN ((l.getD i 0).toNat)]<|.h (.o5 31 (uN ((dE (l.getD i 0)).toNat)))<|.st (some (uN ((l.getD i 0).toNat)))<|.h (.o5 3 (.own 1 ((l.set i (dE (l.getD i 0))).map n6) g 0 k))<|.q 3<|.nil) (.q 3<|.nil)) (.q 1<|.K6 l<|.q 1<|.nil))))
  (((sV s:V)=sV s)/\∀ g6 c6:Nat,(∃ x:Nat×BL×Nat×Nat,match x with | (j7,MI,B0,s5)=>(j7<=s.length/\MI.length=s.length/\MI=aN (s.take j7)++s.drop j7)/\Q (.own 1 (s.map n6) g6 0 c6) (.own 1 (MI.map n6) B0 0 s5)/\Q (iN 0) (iN j7)/\True)/\∀ x:Nat×BL×Nat×Nat,match x with | (i,l,g,k)=>(i<=s.length/\l.length=s.length/\l=aN (s.take i)++s.drop i)->(fun v1:Int=>(fun v2:V=>Br (s8 (i:Int) (((l.map n6).length:Nat):Int)) (In (i:Int) ((l.map n6).length)/\(V.at g 0 v2 [0+i]=some (g,(0+(0+i)*1),uN ((l.getD i 0).toNat)))/\Gd ((z6 v1 65)==true) (In (i:Int) ((l.map n6).length))/\Gd ((z6 v1 65)==true) (V.at g 0 v2 [0+i]=some (g,(0+(0+i)*1),uN ((l.getD i 0).toNat)))/\Pk (z6 v1 65) ((z6 v1 65)==true) true/\Br ((z6 v1 65)&&(D2 v1 90)) (In (i:Int) ((l.map n6).length)/\(V.at g 0 v2 [0+i]=some (g,(0+(0+i)*1),uN ((l.getD i 0).toNat)))/\Ot (v1+32)/\In (i:Int) ((l.map n6).length)/\((uN (((l.getD i 0).toNat)+32):V)=uN ((dE (l.getD i 0)).toNat))/\(V.at g 0 v2 [0+i]=some (g,(0+(0+i)*1),uN ((l.getD i 0).toNat)))/\(V.set v2 [0+i] (uN ((dE (l.getD i 0)).toNat))=.own 1 ((l.set i (dE (l.getD i 0))).map n6) g 0 k)/\m9 ((i:Int)+1)/\∃ x:Nat×BL×Nat×Nat,match x with | (c5,E5,s7,k₂)=>(c5<=s.length/\E5.length=s.length/\E5=aN (s.take c5)++s.drop c5)/\(s.length-c5<s.length-i)/\Q (.own 1 ((l.set i (dE (l.getD i 0))).map n6) g 0 k) (.own 1 (E5.map n6) s7 0 k₂)/\Q (iN (i+1)) (iN c5)/\True) (m9 ((i:Int)+1)/\∃ x:Nat×BL×Nat×Nat,match x with | (c5,E5,s7,k₂)=>(c5<=s.length/\E5.length=s.length/\E5=aN (s.take c5)++s.drop c5)/\(s.length-c5<s.length-i)/\Q v2 (.own 1 (E5.map n6) s7 0 k₂)/\Q (iN (i+1)) (iN c5)/\True)) (((1=1/\g=g/\0=0)/\0+((l.map n6).length)<=(l.map n6).length/\V.aG (l.map n6)=false/\aL 1 (l.map n6))/\(((l.map n6).drop 0).take ((l.map n6).length)=l.map n6)/\Q (sV l) (sV (aN s)))) (.own 1 (l.map n6) g 0 k)) (((l.getD i 0).toNat:Nat):Int)) ?_
 refine⟨rfl,?_⟩
 intro g6 c6
 refine⟨⟨(0,s,g6,c6),?_,rfl,rfl,trivial⟩,?_⟩
 simp[aN]
 rintro⟨i,l,g,k⟩ ⟨h1,h2,h3⟩
 have hbi:=(l.getD i 0).toNat_lt
 refine bI (fun j9=>?_) fun j9=>?_
 refine⟨Z2,gg (by rw[Nat.zero_add];exact an (d:=0) Z9),fun hG=>by(try simp only[nb]at hG);(try simp only[List.length_map]at *);omega,fun hG=>gg (by rw[Nat.zero_add];exact an (d:=0) Z9),⟨fun h=>by rw[h] <;> rfl,fun _=>rfl⟩,?_⟩
 refine bI (fun l6=>?_) fun l6=>?_
 refine⟨Z2,gg (by rw[Nat.zero_add];exact an (d:=0) Z9),by have:=UInt8.toNat_lt (l.getD i 0);omega,Z2,(congrArg uN (wI Z9).symm),gg (by rw[Nat.zero_add];exact an (d:=0) Z9),mH (by rw[Nat.zero_add];exact an (d:=0) Z9) (by rw[Nat.zero_add];exact(List.map_set ..).symm),Z9,?_⟩
 refine⟨(i+1,l.set i (dE (l.getD i 0)),g,k),?_,?_,rfl,rfl,trivial⟩
 refine⟨Z9,by simp[h2],?_⟩
 exact xk Z9 h3
 exact Z1
 refine⟨Z9,?_⟩
 refine⟨(i+1,l,g,k),?_,?_,rfl,rfl,trivial⟩
 refine⟨Z9,h2,?_⟩
 exact ue Z9 h3 Z9
 exact Z1
 refine⟨⟨⟨rfl,rfl,rfl⟩,Z8,oC _,qR _⟩,by simp[List.take_of_length_le],?_⟩
 unfold Q
 rw[h3,List.drop_eq_nil_of_le Z9,List.take_of_length_le Z9,List.append_nil])
abbrev fH(p0:V):V:=.agg [sV [],p0,bV false,sV []]
abbrev lf(a:s4)(n8:BL):V:=.tup [bC ((oA (bu a.h9 a.b9 n8)).h9) ((oA (bu a.h9 a.b9 n8)).b9) ((oA (bu a.h9 a.b9 n8)).asks) ((oA (bu a.h9 a.b9 n8)).ask),bV ((bu a.h9 a.b9 n8).isSome)]
abbrev kM(a:s4)(n8:BL)(i:Nat)(o:List BL)(g:Nat)(f:Nat)(k:Nat):Prop:=i<=(aj 47 (ag 63 n8).1).length/\o=a.b9++((aj 47 (ag 63 n8).1).take i).map eG/\((aj 47 (ag 63 n8).1).take i).all fa=true
def rF(a:s4)(n8:BL):o8 Tryz.prog:=.mk 161 [bC a.h9 a.b9 a.asks a.ask,sV n8] [] ((dR a)/\(n8.length<=1000)/\(a.b9.length<=1000)) (lf a n8) [] (by
 rintro⟨ha,hw,hp⟩
 have Mo:=lO 63 n8
 have Ve:=qU 47 (ag 63 n8).1
 refine az (N:=70) (rs:=[.cell 4 52,.tmp 5]) Tryz.func161
  (.bx (fun g2=>.al dc (fun g4=>.q 1<|.q 1<|.c (mB n8 (63:UInt8)) []<|.q 7<|.bs<|.r 2 [.c9]<|.ap (fun O6 RC Sw=>.h (.o5 25 (.own 1 (a.b9.map sV) O6 RC Sw))<|.q 1<|.q 1<|.c (wH ((ag (63:UInt8) n8).1) (47:UInt8)) []<|.q 1<|.q 1<|.loop (Nat×(List BL)×Nat×Nat×Nat) (fun (i,o,g,f,k)=>⟨[(2,.ptr (.key 2) [] g2 0),(4,.ptr (.key 4) [] g4 0),(6,sV ((ag 63 n8).2.1)),(7,bV ((ag 63 n8).2.2)),(8,.own 1 (o.map sV) g f k),(9,ay (aj 47 (ag 63 n8).1)),(10,iN i)],[(2,(g2,bC a.h9 a.b9 a.asks a.ask)),(4,(g4,fH (.sl true [])))]⟩) (fun (i,o,g,f,k)=>kM a n8 i o g f k) (fun (i,o,g,f,k)=>(aj 47 (ag 63 n8).1).length-i) (fun (i,o,g,f,k)=>.q 4<|.br (.r 4 [sV ((aj 47 (ag 63 n8).1).getD i [])]<|.c (jN ((aj 47 (ag 63 n8).1).getD i [])) []<|.q 5<|.q 2<|.br (.bd dc<|.st none<|.q 1<|.nil) (.q 2<|.bs<|.ap (fun K4 K0 K5=>.h (.o5 48 (.own 1 ((o++[(bQ ((aj 47 (ag 63 n8).1).getD i [])).1]).map sV) K4 K0 K5))<|.q 1<|.q 3<|.nil))) (.q 1<|.c (jN ((ag 63 n8).2.1)) []<|.q 5<|.h (.fz 8)<|.h (.o5 8 (ay o))<|.dx 8 [0,1,2,3,4,5,6,7] [(1,⟨false,[],some [2],[55],[]⟩)] [(7,dc)]<|.q 1<|.r 1 [.c9]<|.q 1<|.c (sG o) []<|.q 1<|.q 1<|.bd dc<|.ua (fun g15=>.st none<|.r 4 [.c9]<|.cg (pK (⟨a.h9,bR o,(ag 63 n8).2.2,(bQ ((ag 63 n8).2.1)).1⟩:s4))<|.q 2<|.br (.bd dc<|.st none<|.q 1<|.nil) (.r 1 [.c9]<|.st none<|.q 1<|.nil))))))))
  ((fun v1:Bool=>(∀ g2:Nat,∀ g4:Nat,(mB n8 (63:UInt8)).sm/\((n8.length<=4611686018427387904))/\Z g2 1/\(True)/\(True)/\(V.aG (a.b9.map sV)=false)/\(aL 1 (a.b9.map sV))/\((([]:List V).length+(a.b9.map sV).length)*16<=140737488355328)/\∀ O6 RC Sw:Nat,((.own 1 (([]:List V)++(a.b9.map sV)) O6 RC Sw:V)=.own 1 (a.b9.map sV) O6 RC Sw)/\(wH ((ag (63:UInt8) n8).1) (47:UInt8)).sm/\((((ag (63:UInt8) n8).1).length<=1099511627776))/\(∃ x:Nat×(List BL)×Nat×Nat×Nat,match x with | (j7,u7,B0,z7,s5)=>(kM a n8 j7 u7 B0 z7 s5)/\E (.ptr (.key 2) [] g2 0)/\E (.ptr (.key 4) [] g4 0)/\Q (sV ((ag (63:UInt8) n8).2.1)) (sV ((ag 63 n8).2.1))/\Q (bV ((ag (63:UInt8) n8).2.2)) (bV ((ag 63 n8).2.2))/\Q (.own 1 (a.b9.map sV) O6 RC Sw) (.own 1 (u7.map sV) B0 z7 s5)/\Q (ay (aj (47:UInt8) ((ag (63:UInt8) n8).1))) (ay (aj 47 (ag 63 n8).1))/\Q (iN 0) (iN j7)/\Er g2 (bC a.h9 a.b9 a.asks a.ask)/\Er g4 (fH (.sl true []))/\True)/\∀ x:Nat×(List BL)×Nat×Nat×Nat,match x with | (i,o,g,f,k)=>(kM a n8 i o g f k)->(fun v2:List V=>Br (s8 (i:Int) ((((aj 47 (ag 63 n8).1).map sV).length:Nat):Int)) (Ex (i:Int) ((aj 47 (ag 63 n8).1).map sV) (sV ((aj 47 (ag 63 n8).1).getD i []))/\True/\(jN ((aj 47 (ag 63 n8).1).getD i [])).sm/\((((aj 47 (ag 63 n8).1).getD i []).length<=4611686018427387904))/\Br (!((bQ ((aj 47 (ag 63 n8).1).getD i [])).2)) (Z g4 0/\(g4=g4)/\Q (.tup [fH (.sl false []),bV false]) (lf a n8)) (((1,1,g,f,k,(o.map sV).length)=(1,1,g,f,k,(o.map sV).length))/\(True)/\(V.aG v2=false)/\(aL 1 v2)/\(((o.map sV).length+v2.length)*16<=140737488355328)/\∀ K4 K0 K5:Nat,((.own 1 ((o.map sV)++v2) K4 K0 K5:V)=.own 1 ((o++[(bQ ((aj 47 (ag 63 n8).1).getD i [])).1]).map sV) K4 K0 K5)/\m9 ((i:Int)+1)/\∃ x:Nat×(List BL)×Nat×Nat×Nat,match x with | (c5,l9,s7,r4,k₂)=>(kM a n8 c5 l9 s7 r4 k₂)/\((aj 47 (ag 63 n8).1).length-c5<(aj 47 (ag 63 n8).1).length-i)/\E (.ptr (.key 2) [] g2 0)/\E (.ptr (.key 4) [] g4 0)/\E (sV ((ag 63 n8).2.1))/\E (bV ((ag 63 n8).2.2))/\Q (.own 1 ((o++[(bQ ((aj 47 (ag 63 n8).1).getD i [])).1]).map sV) K4 K0 K5) (.own 1 (l9.map sV) s7 r4 k₂)/\E (ay (aj 47 (ag 63 n8).1))/\Q (iN (i+1)) (iN c5)/\Er g2 (bC a.h9 a.b9 a.asks a.ask)/\Er g4 (fH (.sl true []))/\True)) ((jN ((ag 63 n8).2.1)).sm/\((((ag 63 n8).2.1).length<=4611686018427387904))/\((.sl false (V.D5 (o.map sV)):V)=ay o)/\Z g2 0/\(sG o).sm/\((o.length<=1099511627776))/\∀ g15:Nat,Z g15 0/\Gd (v1==false) (Z g15 0)/\Gd (v1==false) (((dR (⟨a.h9,bR o,(ag 63 n8).2.2,(bQ ((ag 63 n8).2.1)).1⟩:s4)))/\(pK (⟨a.h9,bR o,(ag 63 n8).2.2,(bQ ((ag 63 n8).2.1)).1⟩:s4)).sm)/\Pk v1 true (v1==false)/\Br (v1||(!(aI (⟨a.h9,bR o,(ag 63 n8).2.2,(bQ ((ag 63 n8).2.1)).1⟩:s4)))) (Z g4 0/\(g4=g4)/\Q (.tup [fH (.sl false []),bV false]) (lf a n8)) (Z g15 0/\Z g4 0/\(g4=g4)/\Q (.tup [bC a.h9 (bR o) ((ag 63 n8).2.2) ((bQ ((ag 63 n8).2.1)).1),bV true]) (lf a n8)))) ([sV ((bQ ((aj 47 (ag 63 n8).1).getD i [])).1)]:List V))) (!((bQ ((ag 63 n8).2.1)).2))) ?_
 intro g2
 intro g4
 refine⟨rfl,Z5,rfl,trivial,trivial,(cM (f:=sV) (fun _=>rfl) _),(ee (f:=sV) (fun _=>rfl) _),Z0,?_⟩
 intro O6 RC Sw
 refine⟨congrArg (V.own 1 · O6 RC Sw) (List.nil_append _),rfl,Z5,?_⟩
 refine⟨⟨(0,a.b9,O6,RC,Sw),?_,rfl,rfl,Z4,Z4,rfl,Z4,rfl,rfl,rfl,trivial⟩,?_⟩
 unfold kM
 simp
 rintro⟨i,o,g,f,k⟩ ⟨h1,h2,h3⟩
 have Qh:=qE 47 (ag 63 n8).1 i
 have RZ:o.length<=1000+i:=by rw[h2];simp;omega
 refine bI (fun j9=>?_) fun j9=>?_
 refine⟨⟨Z9,an (d:=[]) Z9⟩,trivial,rfl,Z5,?_⟩
 refine bI (fun l6=>?_) fun l6=>?_
 refine⟨rfl,?_⟩
 refine⟨rfl,?_⟩
 unfold Q lf
 rw[show bu a.h9 a.b9 n8=none from by unfold bu;rw[all_false (i:=i) (d:=[]) Z9 l6];rfl];rfl
 refine⟨rfl,trivial,rfl,by simp[aL,V.n,V.ns],Z0,?_⟩
 intro K4 K0 K5
 refine⟨congrArg (V.own 1 · K4 K0 K5) Z8,Z9,?_⟩
 refine⟨(i+1,o++[(bQ ((aj 47 (ag 63 n8).1).getD i [])).1],K4,K0,K5),?_,?_,rfl,rfl,rfl,rfl,rfl,rfl,rfl,rfl,rfl,trivial⟩
 unfold kM
 refine⟨Z9,?_,?_⟩
 rw[h2,bj (by omega:i<(aj 47 (ag 63 n8).1).length) []];simp[eG]
 rw[bj (by omega:i<(aj 47 (ag 63 n8).1).length) []];simp only[List.all_append,h3,List.all_cons,List.all_nil,fa,Bool.and_true,Bool.true_and];exact l6
 exact Z1
 refine⟨rfl,Z5,congrArg (V.sl false) (aR (fun _=>rfl) _),rfl,rfl,Z5,?_⟩
 intro g15
 refine⟨rfl,?_⟩
 have hz:dR ⟨a.h9,bR o,(ag 63 n8).2.2,(bQ (ag 63 n8).2.1).1⟩:=by
  rw[h2,List.take_of_length_le Z9];exact Jv ha hp Z9
 refine⟨fun hG=>rfl,fun hG=>⟨hz,rfl⟩,⟨fun _=>rfl,fun h=>by rw[h] <;> rfl⟩,?_⟩
 refine bI (fun n0=>?_) fun n0=>?_
 refine⟨rfl,?_⟩
 refine⟨rfl,?_⟩
 unfold Q lf
 have G3:(aj 47 (ag 63 n8).1).all fa=true:=by rw[List.take_of_length_le Z9]at h3;exact h3
 rw[List.take_of_length_le Z9]at h2
 subst h2
 rw[show bu a.h9 a.b9 n8=none from by unfold bu;rw[G3];grind [fa,eG]];rfl
 refine⟨rfl,rfl,?_⟩
 refine⟨rfl,?_⟩
 unfold Q lf
 have G3:(aj 47 (ag 63 n8).1).all fa=true:=by rw[List.take_of_length_le Z9]at h3;exact h3
 rw[List.take_of_length_le Z9]at h2
 subst h2
 rw[show bu a.h9 a.b9 n8=some _ from by unfold bu;rw[G3,if_pos (by grind [fa,eG]),if_pos (by grind [fa,eG])]];rfl)
abbrev lU(s:BL):V:=.tup [bC ((oA (da s)).h9) ((oA (da s)).b9) ((oA (da s)).asks) ((oA (da s)).ask),bV ((da s).isSome)]
def wv(s:BL):o8 Tryz.prog:=.mk 133 [sV s] [] (s.length<=1000) (lU s) [] (by
 intro hs
 refine az (N:=37) (rs:=[.cell 2 52,.tmp 3]) Tryz.func133
  (.al dc (fun g2=>.q 1<|.q 2<|.q 1<|.q 1<|.loop (Nat) (fun (i:Nat)=>⟨[(0,sV s),(2,.ptr (.key 2) [] g2 0),(4,sV s),(5,sV []),(6,iN i)],[(2,(g2,fH (.sl true [])))]⟩) (fun (i:Nat)=>i<=s.length/\∀ j,j<i->ir (s.getD j 0)=true) (fun (i:Nat)=>s.length-i) (fun (i:Nat)=>.q 4<|.br (.q 10<|.br (.q 4<|.q 4<|.q 1<|.c (nH ((s.take i).drop ((0:Int).toNat))) []<|.bd dc<|.q 1<|.c (rF (⟨aN ((s.take i).drop ((0:Int).toNat)),[],false,[]⟩:s4) ((s.take s.length).drop i)) []<|.q 2<|.st none<|.q 1<|.nil) (.q 3<|.nil)) (.q 1<|.c (nH s) []<|.bd dc<|.q 1<|.c (rF (⟨aN s,[],false,[]⟩:s4) ([]:BL)) []<|.q 2<|.st none<|.q 1<|.nil))))
  ((fun v1:BL=>(∀ g2:Nat,(∃ j7:Nat,(j7<=s.length/\∀ j,j<j7->ir (s.getD j 0)=true)/\E (sV s)/\E (.ptr (.key 2) [] g2 0)/\E (sV s)/\E (sV [])/\Q (iN 0) (iN j7)/\Er g2 (fH (.sl true []))/\True)/\∀ i:Nat,(i<=s.length/\∀ j,j<i->ir (s.getD j 0)=true)->(fun v2:Int=>Br (s8 (i:Int) (s.length:Int)) (Ix (i:Int) s/\Gd ((o6 v2 47)==false) (Ix (i:Int) s)/\Pk (o6 v2 47) true ((o6 v2 47)==false)/\Br ((o6 v2 47)||(o6 v2 63)) (Sx (0:Int) (i:Int) s/\Sx (i:Int) (s.length:Int) s/\(nH ((s.take i).drop ((0:Int).toNat))).sm/\((((s.take i).drop ((0:Int).toNat)).length<=1099511627776))/\(rF (⟨aN ((s.take i).drop ((0:Int).toNat)),[],false,[]⟩:s4) ((s.take s.length).drop i)).sm/\((dR (⟨aN ((s.take i).drop ((0:Int).toNat)),[],false,[]⟩:s4))/\(((s.take s.length).drop i).length<=1000)/\((⟨aN ((s.take i).drop ((0:Int).toNat)),[],false,[]⟩:s4).b9.length<=1000))/\Z g2 0/\(g2=g2)/\Q (.tup [bC ((oA (bu (⟨aN ((s.take i).drop ((0:Int).toNat)),[],false,[]⟩:s4).h9 (⟨aN ((s.take i).drop ((0:Int).toNat)),[],false,[]⟩:s4).b9 ((s.take s.length).drop i))).h9) ((oA (bu (⟨aN ((s.take i).drop ((0:Int).toNat)),[],false,[]⟩:s4).h9 (⟨aN ((s.take i).drop ((0:Int).toNat)),[],false,[]⟩:s4).b9 ((s.take s.length).drop i))).b9) ((oA (bu (⟨aN ((s.take i).drop ((0:Int).toNat)),[],false,[]⟩:s4).h9 (⟨aN ((s.take i).drop ((0:Int).toNat)),[],false,[]⟩:s4).b9 ((s.take s.length).drop i))).asks) ((oA (bu (⟨aN ((s.take i).drop ((0:Int).toNat)),[],false,[]⟩:s4).h9 (⟨aN ((s.take i).drop ((0:Int).toNat)),[],false,[]⟩:s4).b9 ((s.take s.length).drop i))).ask),bV ((bu (⟨aN ((s.take i).drop ((0:Int).toNat)),[],false,[]⟩:s4).h9 (⟨aN ((s.take i).drop ((0:Int).toNat)),[],false,[]⟩:s4).b9 ((s.take s.length).drop i)).isSome)]) (lU s)) (m9 ((i:Int)+1)/\∃ c5:Nat,(c5<=s.length/\∀ j,j<c5->ir (s.getD j 0)=true)/\(s.length-c5<s.length-i)/\E (sV s)/\E (.ptr (.key 2) [] g2 0)/\E (sV s)/\E (sV [])/\Q (iN (i+1)) (iN c5)/\Er g2 (fH (.sl true []))/\True)) ((nH s).sm/\((s.length<=1099511627776))/\(rF (⟨aN s,[],false,[]⟩:s4) v1).sm/\((dR (⟨aN s,[],false,[]⟩:s4))/\(v1.length<=1000)/\((⟨aN s,[],false,[]⟩:s4).b9.length<=1000))/\Z g2 0/\(g2=g2)/\Q (.tup [bC ((oA (bu (⟨aN s,[],false,[]⟩:s4).h9 (⟨aN s,[],false,[]⟩:s4).b9 v1)).h9) ((oA (bu (⟨aN s,[],false,[]⟩:s4).h9 (⟨aN s,[],false,[]⟩:s4).b9 v1)).b9) ((oA (bu (⟨aN s,[],false,[]⟩:s4).h9 (⟨aN s,[],false,[]⟩:s4).b9 v1)).asks) ((oA (bu (⟨aN s,[],false,[]⟩:s4).h9 (⟨aN s,[],false,[]⟩:s4).b9 v1)).ask),bV ((bu (⟨aN s,[],false,[]⟩:s4).h9 (⟨aN s,[],false,[]⟩:s4).b9 v1).isSome)]) (lU s))) (((s.getD i 0).toNat:Nat):Int))) ([]:BL)) ?_
 intro g2
 refine⟨⟨0,?_,rfl,rfl,rfl,rfl,rfl,rfl,trivial⟩,?_⟩
 simp
 rintro i ⟨h1,h2⟩
 refine bI (fun j9=>?_) fun j9=>?_
 refine⟨Z9,fun hG=>by(try simp only[nb]at hG);omega,⟨fun _=>rfl,fun h=>by rw[h] <;> rfl⟩,?_⟩
 refine bI (fun l6=>?_) fun l6=>?_
 refine⟨Z9,Z9,?_⟩
 have hz:dR ⟨aN ((s.take i).drop ((0:Int).toNat)),[],false,[]⟩:=⟨by simp only[aN,List.length_map];first | omega | (simp;omega),Z8,Z8,Z8⟩
 have hw:((s.take s.length).drop i).length<=1000:=by first | (solve | simp) | (simp;omega)
 refine⟨rfl,Z5,rfl,⟨hz,hw,Z8⟩,rfl,?_⟩
 refine⟨rfl,?_⟩
 unfold Q lU
 obtain⟨k1,k2⟩:=yv (p:=ir) h1 h2 (.inr (by simp only[ir,decide_eq_false_iff_not];omega))
 unfold da
 rw[k1,k2];simp
 refine⟨Z9,?_⟩
 refine⟨i+1,?_,?_,rfl,rfl,rfl,rfl,rfl,rfl,trivial⟩
 refine⟨Z9,bP h2 ?_⟩
 simp only[ir,decide_eq_true_eq];omega
 exact Z1
 have hz:dR ⟨aN s,[],false,[]⟩:=⟨by simp only[aN,List.length_map];first | omega | (simp;omega),Z8,Z8,Z8⟩
 have hw:([]:BL).length<=1000:=by first | (solve | simp) | (simp;omega)
 refine⟨rfl,Z5,rfl,⟨hz,hw,Z8⟩,rfl,?_⟩
 refine⟨rfl,?_⟩
 unfold Q lU
 obtain⟨k1,k2⟩:=yv (p:=ir) h1 h2 (.inl Z9)
 unfold da
 rw[k1,k2,List.take_of_length_le Z9,List.drop_eq_nil_of_le Z9])
abbrev kE(raw:BL):V:=.tup [bC ((oA (ar raw)).h9) ((oA (ar raw)).b9) ((oA (ar raw)).asks) ((oA (ar raw)).ask),bV ((ar raw).isSome)]
def mf(raw:BL):o8 Tryz.prog:=.mk 96 [sV raw] [] (raw.length<=4611686018427387904) (kE raw) [] (by
 intro hs
 have Mo:=lO 35 raw
 refine az (N:=32) (rs:=[.cell 2 52,.tmp 3]) Tryz.func96
  (.al dc (fun g2=>.q 1<|.q 1<|.c (mB raw (35:UInt8)) []<|.q 7<|.q 13<|.br (.bd dc<|.st none<|.q 1<|.nil) (.q 2<|.c (wv ((((ag (35:UInt8) raw).1).take ((ag (35:UInt8) raw).1).length).drop 2)) []<|.q 2<|.st none<|.q 1<|.nil)))
  ((fun v1:Bool=>(fun v2:Bool=>(∀ g2:Nat,(mB raw (35:UInt8)).sm/\((raw.length<=4611686018427387904))/\Pk v2 true (v2==false)/\Gd ((v2||v1)==false) (Sx (0:Int) (2:Int) ((ag (35:UInt8) raw).1))/\Pk (v2||v1) true ((v2||v1)==false)/\Br ((v2||v1)||(!(((((ag (35:UInt8) raw).1).take 2).drop ((0:Int).toNat))==([47,47]:BL)))) (Z g2 0/\(g2=g2)/\Q (.tup [fH (.sl false []),bV false]) (kE raw)) (Sx (2:Int) (((ag (35:UInt8) raw).1).length:Int) ((ag (35:UInt8) raw).1)/\(wv ((((ag (35:UInt8) raw).1).take ((ag (35:UInt8) raw).1).length).drop 2)).sm/\((((((ag (35:UInt8) raw).1).take ((ag (35:UInt8) raw).1).length).drop 2).length<=1000))/\Z g2 0/\(g2=g2)/\Q (.tup [bC ((oA (da ((((ag (35:UInt8) raw).1).take ((ag (35:UInt8) raw).1).length).drop 2))).h9) ((oA (da ((((ag (35:UInt8) raw).1).take ((ag (35:UInt8) raw).1).length).drop 2))).b9) ((oA (da ((((ag (35:UInt8) raw).1).take ((ag (35:UInt8) raw).1).length).drop 2))).asks) ((oA (da ((((ag (35:UInt8) raw).1).take ((ag (35:UInt8) raw).1).length).drop 2))).ask),bV ((da ((((ag (35:UInt8) raw).1).take ((ag (35:UInt8) raw).1).length).drop 2)).isSome)]) (kE raw)))) (s9 (raw.length:Int) 60)) (s8 ((((ag (35:UInt8) raw).1).length:Nat):Int) 2)) ?_
 intro g2
 refine⟨rfl,Z5,⟨fun _=>rfl,fun h=>by rw[h] <;> rfl⟩,fun hG=>by(try simp only[nb]at hG);omega,⟨fun _=>rfl,fun h=>by rw[h] <;> rfl⟩,?_⟩
 refine bI (fun j9=>?_) fun j9=>?_
 refine⟨rfl,?_⟩
 refine⟨rfl,?_⟩
 unfold Q kE
 rw[show ar raw=none from if_neg (by grind)];rfl
 refine⟨Z9,rfl,Z5,rfl,?_⟩
 refine⟨rfl,?_⟩
 unfold Q kE
 rw[show ar raw=da ((ag 35 raw).1.drop 2) from if_pos (by grind)];simp)
def jW(s:BL):o8 Tryz.prog:=.mk 59 [sV s] [] (s.length<=4611686018427387904) (bV (aD s)) [] (by
 intro hs
 refine az (N:=17) (rs:=[.tmp 2]) Tryz.func59
  (.q 1<|.q 1<|.c (mf s) []<|.q 3<|.al dc (fun g3=>.st none<|.q 1<|.r 3 [.c9]<|.cg (je (oA (ar s)))<|.q 4<|.nil))
  ((mf s).sm/\((s.length<=4611686018427387904))/\∀ g3:Nat,Z g3 0/\Gd (((ar s).isSome)==true) (Z g3 0)/\Gd (((ar s).isSome)==true) (((dR (oA (ar s))))/\(je (oA (ar s))).sm)/\Pk ((ar s).isSome) (((ar s).isSome)==true) true/\Q (bV (((ar s).isSome)&&((bB (oA (ar s)))==s))) (bV (aD s))) ?_
 refine⟨rfl,Z5,?_⟩
 intro g3
 refine⟨rfl,fun hG=>rfl,fun hG=>⟨by(try simp only[nb]at hG);first | assumption | exact uB _ | simp_all,rfl⟩,⟨fun h=>by rw[h] <;> rfl,fun _=>rfl⟩,?_⟩
 unfold Q
 rfl)
def yj(p:BL):o8 Tryz.prog:=.mk 159 [sV p] [] (p.length<=4611686018427387904) (bV (aO p)) [] (by
 intro hs
 refine az (N:=66) (rs:=[.tmp 2]) Tryz.func159
  (.q 1<|.q 12<|.br (.q 1<|.nil) (.q 1<|.loop (Nat) (fun (i:Nat)=>⟨[(0,sV p),(3,iN i)],[]⟩) (fun (i:Nat)=>i<=p.length/\∀ j,j<i->kN p j=true) (fun (i:Nat)=>p.length-i) (fun (i:Nat)=>.q 4<|.br (.q 4<|.q 1<|.c (jQ (p.getD i 0)) []<|.q 38<|.br (.q 1<|.nil) (.q 3<|.nil)) (.q 1<|.nil))))
  ((fun v1:Bool=>(Pk v1 true (v1==false)/\Gd ((v1||(p==[]))==false) (Ix 0 p)/\Pk (v1||(p==[])) true ((v1||(p==[]))==false)/\Br ((v1||(p==[]))||(E1 (((p.getD 0 0).toNat:Nat):Int) 47)) (Q (bV false) (bV (aO p))) ((∃ j7:Nat,(j7<=p.length/\∀ j,j<j7->kN p j=true)/\E (sV p)/\Q (iN 0) (iN j7)/\True)/\∀ i:Nat,(i<=p.length/\∀ j,j<i->kN p j=true)->(fun v2:Int=>(fun v3:Bool=>(fun v4:Bool=>Br (s8 (i:Int) (p.length:Int)) (Ix (i:Int) p/\(jQ (p.getD i 0)).sm/\(True)/\Pk v3 (v3==true) true/\Pk (v3&&(E1 v2 47)) ((v3&&(E1 v2 47))==true) true/\Pk ((v3&&(E1 v2 47))&&(E1 v2 42)) (((v3&&(E1 v2 47))&&(E1 v2 42))==true) true/\Pk (((v3&&(E1 v2 47))&&(E1 v2 42))&&(E1 v2 63)) ((((v3&&(E1 v2 47))&&(E1 v2 42))&&(E1 v2 63))==true) true/\Gd (((((v3&&(E1 v2 47))&&(E1 v2 42))&&(E1 v2 63))&&(E1 v2 37))==true) (Pk (z6 v2 65) ((((((v3&&(E1 v2 47))&&(E1 v2 42))&&(E1 v2 63))&&(E1 v2 37))==true)&&((z6 v2 65)==true)) true)/\Pk ((((v3&&(E1 v2 47))&&(E1 v2 42))&&(E1 v2 63))&&(E1 v2 37)) (((((v3&&(E1 v2 47))&&(E1 v2 42))&&(E1 v2 63))&&(E1 v2 37))==true) true/\Gd (((((((v3&&(E1 v2 47))&&(E1 v2 42))&&(E1 v2 63))&&(E1 v2 37))&&v4)==true)&&((o6 v2 36)==true)) (m9 ((p.length:Int)-1))/\Gd ((((((v3&&(E1 v2 47))&&(E1 v2 42))&&(E1 v2 63))&&(E1 v2 37))&&v4)==true) (Pk (o6 v2 36) (((((((v3&&(E1 v2 47))&&(E1 v2 42))&&(E1 v2 63))&&(E1 v2 37))&&v4)==true)&&((o6 v2 36)==true)) true)/\Pk (((((v3&&(E1 v2 47))&&(E1 v2 42))&&(E1 v2 63))&&(E1 v2 37))&&v4) ((((((v3&&(E1 v2 47))&&(E1 v2 42))&&(E1 v2 63))&&(E1 v2 37))&&v4)==true) true/\Br ((((((v3&&(E1 v2 47))&&(E1 v2 42))&&(E1 v2 63))&&(E1 v2 37))&&v4)&&(!((o6 v2 36)&&(o6 (i:Int) ((p.length:Int)-1))))) (Q (bV false) (bV (aO p))) (m9 ((i:Int)+1)/\∃ c5:Nat,(c5<=p.length/\∀ j,j<c5->kN p j=true)/\(p.length-c5<p.length-i)/\E (sV p)/\Q (iN (i+1)) (iN c5)/\True)) (Q (bV true) (bV (aO p)))) (!((z6 v2 65)&&(D2 v2 70)))) (!(dN (p.getD i 0)))) (((p.getD i 0).toNat:Nat):Int)))) (s9 (p.length:Int) 16)) ?_
 refine⟨⟨fun _=>rfl,fun h=>by rw[h] <;> rfl⟩,fun hG=>by(try simp only[nb]at hG);grind [List.length_pos_iff],⟨fun _=>rfl,fun h=>by rw[h] <;> rfl⟩,?_⟩
 refine bI (fun j9=>?_) fun j9=>?_
 unfold Q
 refine congrArg bV ?_
 unfold aO
 symm
 rw[decide_eq_false_iff_not]
 grind
 refine⟨⟨0,?_,rfl,rfl,trivial⟩,?_⟩
 simp
 rintro i ⟨h1,h2⟩
 refine bI (fun l6=>?_) fun l6=>?_
 refine⟨Z9,rfl,trivial,⟨fun h=>by rw[h] <;> rfl,fun _=>rfl⟩,⟨fun h=>by rw[h] <;> rfl,fun _=>rfl⟩,⟨fun h=>by rw[h] <;> rfl,fun _=>rfl⟩,⟨fun h=>by rw[h] <;> rfl,fun _=>rfl⟩,fun hG=>⟨fun h=>by rw[h];exact(Bool.and_eq_true _ _).mpr ⟨hG,rfl⟩,fun _=>rfl⟩,⟨fun h=>by rw[h] <;> rfl,fun _=>rfl⟩,fun hG=>by(try simp only[nb]at hG);omega,fun hG=>⟨fun h=>by rw[h];exact(Bool.and_eq_true _ _).mpr ⟨hG,rfl⟩,fun _=>rfl⟩,⟨fun h=>by rw[h] <;> rfl,fun _=>rfl⟩,?_⟩
 refine bI (fun n0=>?_) fun n0=>?_
 unfold Q
 refine congrArg bV ?_
 unfold aO
 symm
 rw[decide_eq_false_iff_not]
 rintro⟨k1,k2,k3,k4⟩
 have:=k4 i Z9
 unfold kN iQ at this
 grind
 refine⟨Z9,?_⟩
 refine⟨i+1,?_,?_,rfl,rfl,trivial⟩
 refine⟨Z9,bP h2 ?_⟩
 by_cases hq:dN (p.getD i 0)=true
 simp only[kN,iQ,hq,Bool.true_or]
 simp only[Bool.not_eq_true]at hq
 simp only[kN,iQ,hq,Bool.false_or,Bool.or_eq_true,Bool.and_eq_true,decide_eq_true_eq]
 simp only[hq,true_and]at n0
 omega
 exact Z1
 unfold Q
 refine congrArg bV ?_
 unfold aO
 symm
 rw[decide_eq_true_eq]
 exact⟨by grind,Z9,by grind,fun j hj=>h2 j Z9⟩)
abbrev fB(p0:BL):V:=.sl false (p0.map n6)
abbrev av(p0:BL)(p1:Nat):V:=.agg [.sl false (p0.map n6),iN p1]
theorem FB{l:List BL}{i:Nat}(h:i<l.length):Ex (i:Int) (l.map sV) (sV (l.getD i [])):=⟨Int.natCast_nonneg _,by simp[List.getD_eq_getElem?_getD,h]⟩
theorem GZ{b:BL}{i:Nat}(h:i<(b.map n6).length):Ex (i:Int) (b.map n6) (uN (b.getD i 0).toNat):=⟨Int.natCast_nonneg _,by simp at h;simp[List.getD_eq_getElem?_getD,h,n6,uN]⟩
def yf(b:BL):G4 Tryz.prog:=.mk (BL×Nat) 28 [fB b] [] (b.length<=9223372036854775807) (fun x=>x.1.length<=2000) (fun x=>.ptr (.key 1000) [] x.2 0) (fun x=>[(1000,(x.2,.agg [fB x.1,iN 0]))]) (by
 intro hb
 refine fc (N:=11) (rs:=[.tmp 2]) (X:=BL×Nat) (post:=fun x=>x.1.length<=2000) (E:=fun x=>.ptr (.key 1000) [] x.2 0) (H':=fun x=>[(1000,(x.2,.agg [.sl false (x.1.map n6),iN 0]))]) Tryz.func28 Z7 rfl rfl rfl Z7 [(1000,(0,.c9))] (by intro _ k hk;simpa[lk] using hk)
  (.q 1<|.q 3<|.join BL (fun c=>⟨[(0,fB c)],[]⟩) (fun c=>c.length<=2000) (.q 2<|.h (.o5 7 (fB (b.take 2000)))<|.q 1<|.nil) (.nil) (fun c=>.q 1<|.bd Lr<|.bx (fun g10=>.q 1<|.h (.rk 10 1000)<|.nil)))
  (((s9 (((b.map n6).length:Nat):Int) 2000)=true->((0:Int)<=(0:Int)/\(0:Int)<=(2000:Int)/\(2000:Int)<=(b.map n6).length/\∀ x∈(b.map n6),x.n=1)/\Q (.sl false (((b.map n6).take 2000).drop ((0:Int).toNat))) (fB (b.take 2000))/\∃ c:BL,(c.length<=2000)/\Q (fB (b.take 2000)) (fB c)/\True)/\((s9 (((b.map n6).length:Nat):Int) 2000)=false->∃ c:BL,(c.length<=2000)/\Q (fB b) (fB c)/\True)/\(∀ c:BL,(c.length<=2000)->∀ g10:Nat,∃ x:BL×Nat,(x.1.length<=2000)/\Q (.ptr (.key 1000) [] g10 0) (.ptr (.key 1000) [] x.2 0)/\Qr g10 (.agg [fB c,iN 0]) x.2 (.agg [fB x.1,iN 0])))
  Z7 ?_
 refine⟨fun j9=>?_,fun j9=>?_,fun c hc=>?_⟩
 try simp only[nb]at j9
 refine⟨⟨by simp <;> omega,by simp <;> omega,by simp <;> omega,all_map (fun _=>rfl)⟩,by simp[Q,List.map_take],?_⟩
 exact⟨b.take 2000,Z0,rfl,trivial⟩
 try simp only[nb]at j9
 exact⟨b,Z9,rfl,trivial⟩
 intro g10
 refine⟨(c,g10),?_,?_,?_⟩
 try dsimp only
 assumption
 first | rfl | simp_all
 first | rfl | exact⟨rfl,rfl⟩ | simp_all)
def lF:o8 Tryz.prog:=.mk 90 [] [] True (ay aP) [] (by
 intro _
 refine az (N:=2) (rs:=[.tmp 0]) Tryz.func90
  (.q 1<|.bs<|.q 1<|.nil)
  (Q (.sl false [sV ([97,98]:BL),sV ([99,100]:BL),sV ([101]:BL),sV ([102,111,120]:BL)]) (ay aP)) ?_
 unfold Q
 rfl)
def bf(b:BL)(p:Nat)(g:Nat)(n:Nat):G4 Tryz.prog:=.mk Nat 54 [.ptr (.key 1000) [] g 0,iN n] [(1000,(g,av b p))] ((b.length<=2000)/\(p<=1000000)/\(n<=1000000)) (fun x=>n=0/\x=0\/x<n) (fun x=>iN x) (fun x=>[(1000,(g,av b (p+1)))]) (by
 rintro⟨hb,hp,hn⟩
 refine fc (N:=99) (rs:=[.tmp 4]) (X:=Nat) (post:=fun x=>n=0/\x=0\/x<n) (E:=fun x=>iN x) (H':=fun x=>[(1000,(g,.agg [.sl false (b.map n6),iN (p+1)]))]) Tryz.func54 Z7 rfl rfl rfl Z7 [(1000,(0,.c9))] (by intro _ k hk;simpa[lk] using hk)
  (.q 1<|.r 8 [.c9]<|.st none<|.r 10 [.c9]<|.br (.q 1<|.nil) (.r 5 [.c9]<|.h (.o5 29 (iN p))<|.q 1<|.r 7 [.c9]<|.br (.r 11 [.c9,uN ((b.getD p 0).toNat)]<|.nil) (.dx 45 [0,1,2,3,4,5,6,7,8,9,10,11,12,13,14,15,16,17,18,19,20,21,22,23,24,25,26,27,28,29,30,31,32,33,34,35,36,37,38,39,40,41,42,43,44] [(3,⟨false,[],some [1000],[50],[]⟩),(8,⟨false,[],some [1000],[55],[]⟩),(12,⟨false,[],some [],[59],[]⟩),(18,⟨false,[],some [1000],[65],[]⟩),(25,⟨false,[],some [1000],[72],[]⟩),(29,⟨false,[],some [],[76],[]⟩),(40,⟨false,[],some [1000],[87],[]⟩)] []<|.q 1<|.q 1<|.q 1<|.r 1 [.c9]<|.q 1<|.q 1<|.q 1<|.q 1<|.r 1 [.c9]<|.q 1<|.q 1<|.r 1 [uN ((b.getD (p % ((b.map n6).length)) 0).toNat)]<|.q 1<|.q 1<|.q 1<|.q 1<|.q 1<|.q 1<|.r 1 [.c9]<|.q 1<|.q 1<|.q 1<|.q 1<|.q 1<|.q 1<|.r 1 [.c9]<|.q 1<|.q 1<|.r 1 [uN ((b.getD (((p*7)+3) % ((b.map n6).length)) 0).toNat)]<|.q 1<|.q 1<|.q 1<|.q 1<|.q 1<|.q 1<|.q 1<|.q 1<|.q 1<|.q 1<|.q 1<|.r 1 [.c9]<|.q 1<|.q 1<|.q 1<|.q 1<|.q 1<|.q 5<|.q 4<|.nil)))
  ((fun v1:Int=>(fun v2:Int=>(fun v3:Int=>(fun v4:Int=>(fun v5:Bool=>(fun v6:Int=>(True/\Z g 1/\m9 ((p:Int)+1)/\True/\Z g 1/\Gd (v5==false) True/\Gd (v5==false) (Z g 0)/\Pk v5 true (v5==false)/\Br (v5||(o6 v3 0)) (∃ x:Nat,(n=0/\x=0\/x<n)/\Q (iN 0) (iN x)/\Er g (av b (p+1))) (True/\Z g 1/\m9 (((p+1:Nat):Int)-1)/\Q (iV (((p+1:Nat):Int)-1)) (iN p)/\True/\Z g 0/\Br (s8 (p:Int) v3) (True/\Z g 0/\Ex (p:Int) (b.map n6) (uN ((b.getD p 0).toNat))/\True/\m9 (((b.getD p 0).toNat:Nat):Int)/\((0:Int)<=(((b.getD p 0).toNat:Nat):Int)/\(0:Int)<(n:Int))/\∃ x:Nat,(n=0/\x=0\/x<n)/\Q (iN (((b.getD p 0).toNat) % n)) (iN x)/\Er g (av b (p+1))) (True/\Z g 0/\True/\Z g 0/\((0:Int)<=(p:Int)/\(0:Int)<v3)/\Ex ((p % ((b.map n6).length):Nat):Int) (b.map n6) (uN ((b.getD (p % ((b.map n6).length)) 0).toNat))/\True/\m9 v6/\m9 (v6*131)/\True/\Z g 0/\m9 ((p:Int)*7)/\m9 (((p*7:Nat):Int)+3)/\True/\Z g 0/\((0:Int)<=(((p*7)+3:Nat):Int)/\(0:Int)<v3)/\Ex ((((p*7)+3) % ((b.map n6).length):Nat):Int) (b.map n6) (uN ((b.getD (((p*7)+3) % ((b.map n6).length)) 0).toNat))/\True/\m9 v4/\m9 (v4*1117)/\m9 (((((b.getD (p % ((b.map n6).length)) 0).toNat)*131:Nat):Int)+((((b.getD (((p*7)+3) % ((b.map n6).length)) 0).toNat)*1117:Nat):Int))/\m9 ((p:Int)*29)/\m9 ((((((b.getD (p % ((b.map n6).length)) 0).toNat)*131)+(((b.getD (((p*7)+3) % ((b.map n6).length)) 0).toNat)*1117):Nat):Int)+((p*29:Nat):Int))/\True/\Z g 0/\((0:Int)<=(p:Int)/\(0:Int)<v3/\m9 (p:Int))/\m9 (((p / ((b.map n6).length):Nat):Int)*53)/\m9 (((((((b.getD (p % ((b.map n6).length)) 0).toNat)*131)+(((b.getD (((p*7)+3) % ((b.map n6).length)) 0).toNat)*1117))+(p*29):Nat):Int)+(((p / ((b.map n6).length))*53:Nat):Int))/\((0:Int)<=v1/\(0:Int)<64/\m9 v1)/\((0:Int)<=v1/\(0:Int)<=v2/\m9 v1/\m9 v2)/\((0:Int)<=((((((((b.getD (p % ((b.map n6).length)) 0).toNat)*131)+(((b.getD (((p*7)+3) % ((b.map n6).length)) 0).toNat)*1117))+(p*29))+((p / ((b.map n6).length))*53)) ^^^ (((((((b.getD (p % ((b.map n6).length)) 0).toNat)*131)+(((b.getD (((p*7)+3) % ((b.map n6).length)) 0).toNat)*1117))+(p*29))+((p / ((b.map n6).length))*53)) / 64):Nat):Int)/\(0:Int)<(n:Int))/\∃ x:Nat,(n=0/\x=0\/x<n)/\Q (iN ((((((((b.getD (p % ((b.map n6).length)) 0).toNat)*131)+(((b.getD (((p*7)+3) % ((b.map n6).length)) 0).toNat)*1117))+(p*29))+((p / ((b.map n6).length))*53)) ^^^ (((((((b.getD (p % ((b.map n6).length)) 0).toNat)*131)+(((b.getD (((p*7)+3) % ((b.map n6).length)) 0).toNat)*1117))+(p*29))+((p / ((b.map n6).length))*53)) / 64)) % n)) (iN x)/\Er g (av b (p+1)))))) (((b.getD (p % ((b.map n6).length)) 0).toNat:Nat):Int)) (s8 (n:Int) 1)) (((b.getD (((p*7)+3) % ((b.map n6).length)) 0).toNat:Nat):Int)) (((b.map n6).length:Nat):Int)) ((((((((b.getD (p % ((b.map n6).length)) 0).toNat)*131)+(((b.getD (((p*7)+3) % ((b.map n6).length)) 0).toNat)*1117))+(p*29))+((p / ((b.map n6).length))*53)) / 64:Nat):Int)) (((((((b.getD (p % ((b.map n6).length)) 0).toNat)*131)+(((b.getD (((p*7)+3) % ((b.map n6).length)) 0).toNat)*1117))+(p*29))+((p / ((b.map n6).length))*53):Nat):Int))
  Z7 ?_
 refine⟨trivial,rfl,Z9,trivial,rfl,fun hG=>trivial,fun hG=>rfl,⟨fun _=>rfl,fun h=>by rw[h] <;> rfl⟩,?_⟩
 refine bI (fun j9=>?_) fun j9=>?_
 refine⟨0,?_,?_,?_⟩
 try dsimp only
 omega
 first | rfl | simp_all
 first | rfl | exact⟨rfl,rfl⟩ | simp_all
 refine⟨trivial,rfl,Z9,by simp[Q],?_⟩
 have S0:1<=n/\1<=b.length:=Z9
 refine⟨trivial,rfl,?_⟩
 refine bI (fun l6=>?_) fun l6=>?_
 have u1:=(b.getD p 0).toNat_lt
 refine⟨trivial,rfl,⟨Z9,an (d:=0) Z9⟩,trivial,by have:=UInt8.toNat_lt (b.getD p 0);omega,by have:=UInt8.toNat_lt (b.getD p 0);omega,?_⟩
 refine⟨(b.getD p 0).toNat % n,?_,?_,?_⟩
 try dsimp only
 exact .inr (Nat.mod_lt _ Z9)
 first | rfl | simp_all
 first | rfl | exact⟨rfl,rfl⟩ | simp_all
 have u1:=(b.getD (p % b.length) 0).toNat_lt
 have u2:=(b.getD ((p*7+3) % b.length) 0).toNat_lt
 have u3:=Nat.mod_lt p (show 0<b.length by omega)
 have u4:=Nat.mod_lt (p*7+3) (show 0<b.length by omega)
 have u5:=Nat.div_le_self p b.length
 have u6:=Int.natCast_nonneg (p / b.length)
 refine⟨trivial,rfl,trivial,rfl,Z2,GZ (by rw[List.length_map];exact u3),trivial,Z2,Z2,trivial,rfl,Z9,Z9,trivial,rfl,Z2,GZ (by rw[List.length_map];exact u4),trivial,Z2,Z2,Z2,Z9,Z2,trivial,rfl,Z2,Z2,Z2,Z2,Z2,Z2,?_⟩
 refine⟨(((((((b.getD (p % ((b.map n6).length)) 0).toNat)*131)+(((b.getD (((p*7)+3) % ((b.map n6).length)) 0).toNat)*1117))+(p*29))+((p / ((b.map n6).length))*53)) ^^^ (((((((b.getD (p % ((b.map n6).length)) 0).toNat)*131)+(((b.getD (((p*7)+3) % ((b.map n6).length)) 0).toNat)*1117))+(p*29))+((p / ((b.map n6).length))*53)) / 64)) % n,?_,?_,?_⟩
 try dsimp only
 exact .inr (Nat.mod_lt _ Z9)
 first | rfl | simp_all
 first | rfl | exact⟨rfl,rfl⟩ | simp_all)
theorem xH(b:BL)(p g:Nat)(l:List BL)(hb:b.length<=2000)(hp:p<=1000000)(hl:1<=l.length)(hn:l.length<=1000):PF Tryz.prog 55 [.ptr (.key 1000) [] g 0,ay l] [(1000,(g,av b p))] (fun r h=> ∃ x:BL,(x∈l)/\r=(sV x)/\h=[(1000,(g,av b (p+1)))]):=by
 refine fc (N:=12) (rs:=[.tmp 4]) (X:=BL) (post:=fun x=>x∈l) (E:=fun x=>sV x) (H':=fun x=>[(1000,(g,.agg [.sl false (b.map n6),iN (p+1)]))]) Tryz.func55 Z7 rfl rfl rfl Z7 [(1000,(0,.c9))] (by intro _ k hk;simpa[lk] using hk)
  (.q 1<|.q 4<|.h (.o5 8 (iN l.length))<|.cx (bf b p g l.length) [(1000,1000)] (fun (Nq:Nat)=>.r 3 [sV (l.getD Nq [])]<|.nil))
  (Q (iN ((l.map sV).length)) (iN l.length)/\(bf b p g l.length).sm/\Er g (av b p)/\((b.length<=2000)/\(p<=1000000)/\(l.length<=1000000))/\∀ Nq:Nat,(l.length=0/\Nq=0\/Nq<l.length)->Ex (Nq:Int) (l.map sV) (sV (l.getD Nq []))/\True/\∃ x:BL,(x∈l)/\Q (sV (l.getD Nq [])) (sV x)/\Er g (av b (p+1)))
  Z7 ?_
 refine⟨by simp[Q],rfl,rfl,⟨Z5,Z5,Z5⟩,?_⟩
 intro Nq Xq
 refine⟨FB Z9,trivial,?_⟩
 refine⟨l.getD Nq [],?_,?_,?_⟩
 try dsimp only
 rw[List.getD_eq_getElem?_getD,List.getElem?_eq_getElem Z9];simp
 first | rfl | simp_all
 first | rfl | exact⟨rfl,rfl⟩ | simp_all
def eT(b:BL)(p:Nat)(g:Nat)(l:List BL):G4 Tryz.prog:={ X:=BL,f:=55,args:=[.ptr (.key 1000) [] g 0,ay l],H:=[(1000,(g,av b p))],pre:=(b.length<=2000)/\(p<=1000000)/\(1<=l.length)/\(l.length<=1000),post:=fun x=>x∈l,res:=fun x=>sV x,H':=fun x=>[(1000,(g,av b (p+1)))],ok:=fun h=>xH b p g l h.1 h.2.1 h.2.2.1 h.2.2.2 }
def wP(b:BL)(p:Nat)(g:Nat):G4 Tryz.prog:=.mk BL 160 [.ptr (.key 1000) [] g 0] [(1000,(g,av b p))] ((b.length<=2000)/\(p<=1000000)) (fun x=>x∈jh) (fun x=>sV x) (fun x=>[(1000,(g,av b (p+1)))]) (by
 rintro⟨hb,hp⟩
 refine fc (N:=6) (rs:=[.tmp 2]) (X:=BL) (post:=fun x=>x∈jh) (E:=fun x=>sV x) (H':=fun x=>[(1000,(g,.agg [.sl false (b.map n6),iN (p+1)]))]) Tryz.func160 Z7 rfl rfl rfl Z7 [(1000,(0,.c9))] (by intro _ k hk;simpa[lk] using hk)
  (.q 1<|.q 1<|.bs<|.cx (eT b p g ([([47]:BL),([47,97]:BL),([47,98]:BL),([47,97,47]:BL),([47,42,98]:BL),([47,97,36]:BL),([47,99]:BL),([47,42,63]:BL),([47,97,47,98]:BL),([47,42,47,98,36]:BL),([47,36]:BL),([47,98,42,99]:BL),([47,110,111,116,105,99,101]:BL),([47,42]:BL)]:List BL)) [(1000,1000)] (fun (z8:BL)=>.q 1<|.nil))
  ((fun v1:BL=>(fun v2:BL=>(fun v3:BL=>(fun v4:BL=>(fun v5:BL=>(fun v6:BL=>(fun v7:BL=>(fun v8:BL=>(fun v9:BL=>(fun v10:BL=>(fun v11:BL=>(fun v12:BL=>(fun MM:BL=>(fun Ou:BL=>((eT b p g ([Ou,v9,v10,v5,v6,v7,v11,v8,v3,v2,v12,v4,v1,MM]:List BL)).sm/\Er g (av b p)/\((b.length<=2000)/\(p<=1000000)/\(1<=([Ou,v9,v10,v5,v6,v7,v11,v8,v3,v2,v12,v4,v1,MM]:List BL).length)/\(([Ou,v9,v10,v5,v6,v7,v11,v8,v3,v2,v12,v4,v1,MM]:List BL).length<=1000))/\∀ z8:BL,(z8∈([Ou,v9,v10,v5,v6,v7,v11,v8,v3,v2,v12,v4,v1,MM]:List BL))->∃ x:BL,(x∈jh)/\Q (sV z8) (sV x)/\Er g (av b (p+1)))) ([47]:BL)) ([47,42]:BL)) ([47,36]:BL)) ([47,99]:BL)) ([47,98]:BL)) ([47,97]:BL)) ([47,42,63]:BL)) ([47,97,36]:BL)) ([47,42,98]:BL)) ([47,97,47]:BL)) ([47,98,42,99]:BL)) ([47,97,47,98]:BL)) ([47,42,47,98,36]:BL)) ([47,110,111,116,105,99,101]:BL))
  Z7 ?_
 refine⟨rfl,rfl,⟨by first | assumption | omega,by first | assumption | omega,Z6,Z6⟩,?_⟩
 intro z8 OZ
 refine⟨z8,?_,?_,?_⟩
 try dsimp only
 assumption
 first | rfl | simp_all
 first | rfl | exact⟨rfl,rfl⟩ | simp_all)
abbrev bS(p0:List Pg):V:=.sl false (p0.map r5)
abbrev bn(p0:List l3):V:=.sl false (p0.map bM)
abbrev dk(p0:List o9):V:=.sl false (p0.map au)
abbrev iX(p0:V)(p1:List o9)(p2:Nat):V:=.agg [ p0,.sl false (p1.map au),iN p2]
abbrev cn(p0:BL)(p1:BL)(p2:BL)(p3:Int):V:=.agg [sV p0,sV p1,sV p2,iV p3]
abbrev dP(p0:List BL)(p1:List o9)(p2:Nat):V:=.agg [.sl false (p0.map sV),.sl false (p1.map au),iN p2]
theorem GP{k:Nat}(h:k<256):uN k=uN (UInt8.ofNat k).toNat:=by rw[UInt8.toNat_ofNat_of_lt' (by simpa using h)]
def uQ(b:BL)(p:Nat)(g:Nat):G4 Tryz.prog:=.mk (List o9×Nat) 130 [.ptr (.key 1000) [] g 0] [(1000,(g,av b p))] ((b.length<=2000)/\(p<=900000)) (fun x=>x.1.length<=4/\(∀ r,r∈x.1->r.path∈jh)/\p<=x.2/\x.2<=p+9) (fun x=>dk x.1) (fun x=>[(1000,(g,av b x.2))]) (by
 rintro⟨hb,hp⟩
 refine fc (N:=22) (rs:=[.tmp 2]) (X:=List o9×Nat) (post:=fun x=>x.1.length<=4/\(∀ r,r∈x.1->r.path∈jh)/\p<=x.2/\x.2<=p+9) (E:=fun x=>.sl false (x.1.map au)) (H':=fun x=>[(1000,(g,.agg [.sl false (b.map n6),iN x.2]))]) Tryz.func130 Z7 rfl rfl rfl Z7 [(1000,(0,.c9))] (by intro _ k hk;simpa[lk] using hk)
  (.q 1<|.bs<|.q 1<|.q 1<|.cx (bf b p g 5) [(1000,1000)] (fun (r6:Nat)=>.q 1<|.h (.H4 3 2)<|.loop (Nat×(List o9)×Nat×Nat×Nat×Nat) (fun (n,e,q,u,f,k)=>⟨[(0,.ptr (.key 1000) [] g 0),(3,.own 2 (e.map au) u f k),(4,iN n)],[(1000,(g,av b q))]⟩) (fun (n,e,q,u,f,k)=>e.length+n<=4/\(∀ r,r∈e->r.path∈jh)/\p<=q/\q+2*n<=p+9) (fun (n,e,q,u,f,k)=>n) (fun (n,e,q,u,f,k)=>.q 2<|.br (.q 2<|.cx (bf b q g 2) [(1000,1000)] (fun (E8:Nat)=>.q 2<|.cx (wP b (q+1) g) [(1000,1000)] (fun (w6:BL)=>.bd tO<|.bs<|.ap (fun g20 N1 Oq=>.h (.o5 20 (.own 2 ((e++[(⟨o6 (E8:Int) 0,w6⟩:o9)]).map au) g20 N1 Oq))<|.q 1<|.q 2<|.h (.o5 11 (iN (n-1)))<|.q 1<|.nil)))) (.q 2<|.h (.gM 2)<|.h (.fz 2)<|.h (.o5 2 (dk e))<|.nil))))
  ((bf b p g 5).sm/\Er g (av b p)/\((b.length<=2000)/\(p<=1000000)/\(5<=1000000))/\∀ r6:Nat,(5=0/\r6=0\/r6<5)->(∃ x:Nat×(List o9)×Nat×Nat×Nat×Nat,match x with | (J1,D4,A3,H3,z7,s5)=>(D4.length+J1<=4/\(∀ r,r∈D4->r.path∈jh)/\p<=A3/\A3+2*J1<=p+9)/\E (.ptr (.key 1000) [] g 0)/\Q (.own 2 ([].map au) 0 0 0) (.own 2 (D4.map au) H3 z7 s5)/\Q (iN r6) (iN J1)/\Qr g (av b (p+1)) g (av b A3)/\True)/\∀ x:Nat×(List o9)×Nat×Nat×Nat×Nat,match x with | (n,e,q,u,f,k)=>(e.length+n<=4/\(∀ r,r∈e->r.path∈jh)/\p<=q/\q+2*n<=p+9)->Br (s9 (n:Int) 0) ((bf b q g 2).sm/\Er g (av b q)/\((b.length<=2000)/\(q<=1000000)/\(2<=1000000))/\∀ E8:Nat,(2=0/\E8=0\/E8<2)->(fun v1:Bool=>(wP b (q+1) g).sm/\Er g (av b (q+1))/\((b.length<=2000)/\((q+1)<=1000000))/\∀ w6:BL,(w6∈jh)->(fun v2:List V=>((2,2,u,f,k,(e.map au).length)=(2,2,u,f,k,(e.map au).length))/\(True)/\(V.aG v2=false)/\(aL 2 v2)/\(((e.map au).length+v2.length)*24<=140737488355328)/\∀ g20 N1 Oq:Nat,((.own 2 ((e.map au)++v2) g20 N1 Oq:V)=.own 2 ((e++[(⟨o6 (E8:Int) 0,w6⟩:o9)]).map au) g20 N1 Oq)/\m9 ((n:Int)-1)/\Q (iV ((n:Int)-1)) (iN (n-1))/\∃ x:Nat×(List o9)×Nat×Nat×Nat×Nat,match x with | (w3,w8,o4,B4,r4,k₂)=>(w8.length+w3<=4/\(∀ r,r∈w8->r.path∈jh)/\p<=o4/\o4+2*w3<=p+9)/\(w3<n)/\E (.ptr (.key 1000) [] g 0)/\Q (.own 2 ((e++[(⟨o6 (E8:Int) 0,w6⟩:o9)]).map au) g20 N1 Oq) (.own 2 (w8.map au) B4 r4 k₂)/\Q (iN (n-1)) (iN w3)/\Qr g (av b ((q+1)+1)) g (av b o4)/\True) ([.agg [bV v1,sV w6]]:List V)) (o6 (E8:Int) 0)) (((2,u,f,k,(e.map au).length)=(2,u,f,k,(e.map au).length))/\((.sl false (V.D5 (e.map au)):V)=dk e)/\∃ x:List o9×Nat,(x.1.length<=4/\(∀ r,r∈x.1->r.path∈jh)/\p<=x.2/\x.2<=p+9)/\Q (dk e) (dk x.1)/\Qr g (av b q) g (av b x.2)))
  Z7 ?_
 refine⟨rfl,rfl,⟨Z5,Z5,Z5⟩,?_⟩
 intro r6 Mx
 refine⟨⟨(r6,[],p+1,0,0,0),?_,rfl,rfl,rfl,rfl,trivial⟩,?_⟩
 simp;omega
 rintro⟨n,e,q,u,f,k⟩ ⟨h1,h2,h3,h4⟩
 refine bI (fun j9=>?_) fun j9=>?_
 refine⟨rfl,rfl,⟨Z5,Z5,Z5⟩,?_⟩
 intro E8 N5
 refine⟨rfl,rfl,⟨Z5,Z5⟩,?_⟩
 intro w6 OX
 refine⟨rfl,trivial,rfl,by simp[aL,V.n,V.ns],Z0,?_⟩
 intro g20 N1 Oq
 refine⟨congrArg (V.own 2 · g20 N1 Oq) Z8,Z9,by simp[Q];omega,?_⟩
 refine⟨(n-1,e++[(⟨o6 (E8:Int) 0,w6⟩:o9)],q+2,g20,N1,Oq),?_,?_,rfl,rfl,rfl,Z4,trivial⟩
 refine⟨Z0,?_,Z9,Z9⟩
 intro r hr
 rcases List.mem_append.1 hr with h | h
 exact h2 r h
 rw[List.mem_singleton.1 h];exact OX
 exact Z1
 refine⟨rfl,congrArg (V.sl false) (aR (fun _=>rfl) _),?_⟩
 refine⟨(e,q),?_,?_,?_⟩
 try dsimp only
 exact⟨Z9,h2,Z9,Z9⟩
 first | rfl | simp_all
 first | rfl | exact⟨rfl,rfl⟩ | simp_all)
def sE(b:BL)(p:Nat)(g:Nat):G4 Tryz.prog:=.mk (List l3×Nat) 92 [.ptr (.key 1000) [] g 0] [(1000,(g,av b p))] ((b.length<=2000)/\(p<=800000)) (fun x=>x.1.length<=4/\(∀ y,y∈x.1->B6 y)/\p<=x.2/\x.2<=p+60) (fun x=>bn x.1) (fun x=>[(1000,(g,av b x.2))]) (by
 rintro⟨hb,hp⟩
 refine fc (N:=72) (rs:=[.tmp 2]) (X:=List l3×Nat) (post:=fun x=>x.1.length<=4/\(∀ y,y∈x.1->B6 y)/\p<=x.2/\x.2<=p+60) (E:=fun x=>.sl false (x.1.map bM)) (H':=fun x=>[(1000,(g,.agg [.sl false (b.map n6),iN x.2]))]) Tryz.func92 Z7 rfl rfl rfl Z7 [(1000,(0,.c9))] (by intro _ k hk;simpa[lk] using hk)
  (.q 1<|.bs<|.q 1<|.q 1<|.cx (bf b p g 4) [(1000,1000)] (fun (r6:Nat)=>.q 1<|.h (.H4 3 3)<|.loop (Nat×(List l3)×Nat×Nat×Nat×Nat) (fun (n,e,q,u,f,k)=>⟨[(0,.ptr (.key 1000) [] g 0),(3,.own 3 (e.map bM) u f k),(4,iN n)],[(1000,(g,av b q))]⟩) (fun (n,e,q,u,f,k)=>e.length+n<=3/\(∀ y,y∈e->B6 y)/\p<=q/\q+15*n<=p+50) (fun (n,e,q,u,f,k)=>n) (fun (n,e,q,u,f,k)=>.q 2<|.br (.q 1<|.bs<|.cx (eT b q g ([([42]:BL),([114,111,118,101,114]:BL),([115,99,111,117,116]:BL)]:List BL)) [(1000,1000)] (fun (E8:BL)=>.bs<|.q 1<|.cx (uQ b (q+1) g) [(1000,1000)] (fun (w6:List o9×Nat)=>.q 1<|.cx (bf b w6.2 g 4) [(1000,1000)] (fun (G9:Nat)=>.q 1<|.cx (bf b (w6.2+1) g 3) [(1000,1000)] (fun (G8:Nat)=>.q 1<|.bd gO<|.al gO (fun g5=>.st none<|.q 1<|.cx (bf b ((w6.2+1)+1) g 4) [(1000,1000)] (fun (D3:Nat)=>.q 1<|.join (List BL×Nat) (fun y=>⟨[(0,.ptr (.key 1000) [] g 0),(3,.own 3 (e.map bM) u f k),(4,iN n),(5,.ptr (.key 5) [] g5 0)],[(1000,(g,av b y.2)),(5,(g5,dP y.1 w6.1 (G9*G8)))]⟩) (fun y=>y.1.length<=2/\(∀ x,x∈y.1->x.length<=5/\m4 x)/\q<=y.2/\y.2<=q+15) (.dx 7 [0,1,2,3,4,5,6] [(1,⟨false,[],some [5],[29],[]⟩),(4,⟨true,[],some [1000],[32],[1000]⟩),(6,⟨true,[],none,[34],[]⟩)] []<|.q 1<|.r 1 [.c9]<|.q 1<|.bs<|.cx (eT b (((w6.2+1)+1)+1) g ([([42]:BL),([114,111,118,101,114]:BL),([120]:BL)]:List BL)) [(1000,1000)] (fun (MV:BL)=>.bs<|.ux none (fun TJ Tl TQ=>.h (.o5 34 (.own 1 ([E8,MV].map sV) TJ Tl TQ))<|.q 1<|.h (.fz 34)<|.h (.o5 34 (.sl false ([E8,MV].map sV)))<|.st none<|.nil))) (.nil) (fun y=>.r 9 [.c9,.c9]<|.br (.r 2 [.c9]<|.bs<|.ap (fun K4 K0 K5=>.h (.o5 48 (.own 3 ((e++[(⟨y.1,w6.1,G9*G8⟩:l3)]).map bM) K4 K0 K5))<|.q 1<|.q 2<|.h (.o5 12 (iN (n-1)))<|.q 1<|.nil)) (.q 2<|.h (.o5 12 (iN (n-1)))<|.q 1<|.nil))))))))) (.q 1<|.cx (bf b q g 24) [(1000,1000)] (fun (E4:Nat)=>.q 2<|.br (.q 1<|.bs<|.bd gO<|.h (.U2 55 (.agg [.sl false ([[120]].map sV),.sl false ([].map au),iN 0]))<|.bs<|.ap (fun Sa Rw Sq=>.h (.o5 57 (.own 3 ((e++[(⟨[[120]],[],0⟩:l3)]).map bM) Sa Rw Sq))<|.q 1<|.q 2<|.h (.gM 2)<|.h (.fz 2)<|.h (.o5 2 (bn (e++[(⟨[[120]],[],0⟩:l3)])))<|.nil)) (.q 2<|.br (.q 1<|.bd gO<|.h (.U2 61 (.agg [.sl false ([].map sV),.sl false ([].map au),iN 2]))<|.bs<|.ap (fun R9 Ru So=>.h (.o5 63 (.own 3 ((e++[(⟨[],[],2⟩:l3)]).map bM) R9 Ru So))<|.q 1<|.q 2<|.h (.gM 2)<|.h (.fz 2)<|.h (.o5 2 (bn (e++[(⟨[],[],2⟩:l3)])))<|.nil)) (.q 2<|.br (.q 1<|.bs<|.bd gO<|.h (.U2 68 (.agg [.sl false ([[88]].map sV),.sl false ([].map au),iN 2]))<|.bs<|.ap (fun R8 Rt Sn=>.h (.o5 70 (.own 3 ((e++[(⟨[[88]],[],2⟩:l3)]).map bM) R8 Rt Sn))<|.q 1<|.q 2<|.h (.gM 2)<|.h (.fz 2)<|.h (.o5 2 (bn (e++[(⟨[[88]],[],2⟩:l3)])))<|.nil)) (.q 2<|.h (.gM 2)<|.h (.fz 2)<|.h (.o5 2 (bn e))<|.nil))))))))
  ((fun v1:BL=>(fun v2:List V=>(fun v3:List V=>(fun v4:List V=>(fun v5:BL=>(fun v6:BL=>(fun v7:V=>(fun v8:BL=>((bf b p g 4).sm/\Er g (av b p)/\((b.length<=2000)/\(p<=1000000)/\(4<=1000000))/\∀ r6:Nat,(4=0/\r6=0\/r6<4)->(∃ x:Nat×(List l3)×Nat×Nat×Nat×Nat,match x with | (J1,D4,A3,H3,z7,s5)=>(D4.length+J1<=3/\(∀ y,y∈D4->B6 y)/\p<=A3/\A3+15*J1<=p+50)/\E v7/\Q (.own 3 ([].map bM) 0 0 0) (.own 3 (D4.map bM) H3 z7 s5)/\Q (iN r6) (iN J1)/\Qr g (av b (p+1)) g (av b A3)/\True)/\∀ x:Nat×(List l3)×Nat×Nat×Nat×Nat,match x with | (n,e,q,u,f,k)=>(e.length+n<=3/\(∀ y,y∈e->B6 y)/\p<=q/\q+15*n<=p+50)->(fun v9:V=>(fun v10:V=>Br (s9 (n:Int) 0) ((eT b q g ([v5,v1,v6]:List BL)).sm/\Er g (av b q)/\((b.length<=2000)/\(q<=1000000)/\(1<=([v5,v1,v6]:List BL).length)/\(([v5,v1,v6]:List BL).length<=1000))/\∀ E8:BL,(E8∈([v5,v1,v6]:List BL))->(uQ b (q+1) g).sm/\Er g v9/\((b.length<=2000)/\((q+1)<=900000))/\∀ w6:List o9×Nat,(w6.1.length<=4/\(∀ r,r∈w6.1->r.path∈jh)/\(q+1)<=w6.2/\w6.2<=(q+1)+9)->(fun v11:Bool=>(bf b w6.2 g 4).sm/\Er g (av b w6.2)/\((b.length<=2000)/\(w6.2<=1000000)/\(4<=1000000))/\∀ G9:Nat,(4=0/\G9=0\/G9<4)->(bf b (w6.2+1) g 3).sm/\Er g (av b (w6.2+1))/\((b.length<=2000)/\((w6.2+1)<=1000000)/\(3<=1000000))/\∀ G8:Nat,(3=0/\G8=0\/G8<3)->m9 ((G9:Int)*(G8:Int))/\∀ g5:Nat,Z g5 0/\(bf b ((w6.2+1)+1) g 4).sm/\Er g (av b ((w6.2+1)+1))/\((b.length<=2000)/\(((w6.2+1)+1)<=1000000)/\(4<=1000000))/\∀ D3:Nat,(4=0/\D3=0\/D3<4)->((o6 (D3:Int) 0)=true->Z g5 0/\(eT b (((w6.2+1)+1)+1) g ([v5,v1,v8]:List BL)).sm/\Er g (av b (((w6.2+1)+1)+1))/\((b.length<=2000)/\((((w6.2+1)+1)+1)<=1000000)/\(1<=([v5,v1,v8]:List BL).length)/\(([v5,v1,v8]:List BL).length<=1000))/\∀ MV:BL,(MV∈([v5,v1,v8]:List BL))->(fun v12:List V=>(((aL 1 [sV E8]/\0<v12.length))/\(V.aG v12=false)/\(aL 1 v12)/\((([sV E8]:List V).length+v12.length)*16<=140737488355328))/\∀ TJ Tl TQ:Nat,((.own 1 (([sV E8]:List V)++v12) TJ Tl TQ:V)=.own 1 ([E8,MV].map sV) TJ Tl TQ)/\((.sl false (V.D5 ([E8,MV].map sV)):V)=.sl false ([E8,MV].map sV))/\Z g5 0/\∃ y:List BL×Nat,(y.1.length<=2/\(∀ x,x∈y.1->x.length<=5/\m4 x)/\q<=y.2/\y.2<=q+15)/\E v7/\E v10/\E (iN n)/\E (.ptr (.key 5) [] g5 0)/\Qr g (av b ((((w6.2+1)+1)+1)+1)) g (av b y.2)/\Qr g5 (iX (.sl false ([E8,MV].map sV)) w6.1 (G9*G8)) g5 (dP y.1 w6.1 (G9*G8))/\True) ([sV MV]:List V))/\((o6 (D3:Int) 0)=false->∃ y:List BL×Nat,(y.1.length<=2/\(∀ x,x∈y.1->x.length<=5/\m4 x)/\q<=y.2/\y.2<=q+15)/\E v7/\E v10/\E (iN n)/\E (.ptr (.key 5) [] g5 0)/\Qr g (av b (((w6.2+1)+1)+1)) g (av b y.2)/\Qr g5 (iX (.sl false [sV E8]) w6.1 (G9*G8)) g5 (dP y.1 w6.1 (G9*G8))/\True)/\(∀ y:List BL×Nat,(y.1.length<=2/\(∀ x,x∈y.1->x.length<=5/\m4 x)/\q<=y.2/\y.2<=q+15)->Z g5 1/\Gd (v11==false) (Z g5 2)/\Pk v11 true (v11==false)/\Br (v11||(s9 ((G9*G8:Nat):Int) 0)) (Z g5 0/\((3,3,u,f,k,(e.map bM).length)=(3,3,u,f,k,(e.map bM).length))/\(True)/\(V.aG ([dP y.1 w6.1 (G9*G8)]:List V)=false)/\(aL 3 ([dP y.1 w6.1 (G9*G8)]:List V))/\(((e.map bM).length+([dP y.1 w6.1 (G9*G8)]:List V).length)*56<=140737488355328)/\∀ K4 K0 K5:Nat,((.own 3 ((e.map bM)++([dP y.1 w6.1 (G9*G8)]:List V)) K4 K0 K5:V)=.own 3 ((e++[(⟨y.1,w6.1,G9*G8⟩:l3)]).map bM) K4 K0 K5)/\m9 ((n:Int)-1)/\Q (iV ((n:Int)-1)) (iN (n-1))/\∃ x:Nat×(List l3)×Nat×Nat×Nat×Nat,match x with | (w3,w8,o4,B4,r4,k₂)=>(w8.length+w3<=3/\(∀ y,y∈w8->B6 y)/\p<=o4/\o4+15*w3<=p+50)/\(w3<n)/\E v7/\Q (.own 3 ((e++[(⟨y.1,w6.1,G9*G8⟩:l3)]).map bM) K4 K0 K5) (.own 3 (w8.map bM) B4 r4 k₂)/\Q (iN (n-1)) (iN w3)/\Qr g (av b y.2) g (av b o4)/\True) (m9 ((n:Int)-1)/\Q (iV ((n:Int)-1)) (iN (n-1))/\∃ x:Nat×(List l3)×Nat×Nat×Nat×Nat,match x with | (w3,w8,o4,B4,r4,k₂)=>(w8.length+w3<=3/\(∀ y,y∈w8->B6 y)/\p<=o4/\o4+15*w3<=p+50)/\(w3<n)/\E v7/\Q v10 (.own 3 (w8.map bM) B4 r4 k₂)/\Q (iN (n-1)) (iN w3)/\Qr g (av b y.2) g (av b o4)/\True))) (s9 (((w6.1.map au).length:Nat):Int) 0)) ((bf b q g 24).sm/\Er g (av b q)/\((b.length<=2000)/\(q<=1000000)/\(24<=1000000))/\∀ E4:Nat,(24=0/\E4=0\/E4<24)->Br (o6 (E4:Int) 0) (((3,3,u,f,k,(e.map bM).length)=(3,3,u,f,k,(e.map bM).length))/\(True)/\(V.aG v2=false)/\(aL 3 v2)/\(((e.map bM).length+v2.length)*56<=140737488355328)/\∀ Sa Rw Sq:Nat,((.own 3 ((e.map bM)++v2) Sa Rw Sq:V)=.own 3 ((e++[(⟨[[120]],[],0⟩:l3)]).map bM) Sa Rw Sq)/\((3,Sa,Rw,Sq,((e++[(⟨[[120]],[],0⟩:l3)]).map bM).length)=(3,Sa,Rw,Sq,((e++[(⟨[[120]],[],0⟩:l3)]).map bM).length))/\((.sl false (V.D5 ((e++[(⟨[[120]],[],0⟩:l3)]).map bM)):V)=bn (e++[(⟨[[120]],[],0⟩:l3)]))/\∃ x:List l3×Nat,(x.1.length<=4/\(∀ y,y∈x.1->B6 y)/\p<=x.2/\x.2<=p+60)/\Q (bn (e++[(⟨[[120]],[],0⟩:l3)])) (bn x.1)/\Qr g v9 g (av b x.2)) (Br (o6 (E4:Int) 1) (((3,3,u,f,k,(e.map bM).length)=(3,3,u,f,k,(e.map bM).length))/\(True)/\(V.aG v4=false)/\(aL 3 v4)/\(((e.map bM).length+v4.length)*56<=140737488355328)/\∀ R9 Ru So:Nat,((.own 3 ((e.map bM)++v4) R9 Ru So:V)=.own 3 ((e++[(⟨[],[],2⟩:l3)]).map bM) R9 Ru So)/\((3,R9,Ru,So,((e++[(⟨[],[],2⟩:l3)]).map bM).length)=(3,R9,Ru,So,((e++[(⟨[],[],2⟩:l3)]).map bM).length))/\((.sl false (V.D5 ((e++[(⟨[],[],2⟩:l3)]).map bM)):V)=bn (e++[(⟨[],[],2⟩:l3)]))/\∃ x:List l3×Nat,(x.1.length<=4/\(∀ y,y∈x.1->B6 y)/\p<=x.2/\x.2<=p+60)/\Q (bn (e++[(⟨[],[],2⟩:l3)])) (bn x.1)/\Qr g v9 g (av b x.2)) (Br (o6 (E4:Int) 2) (((3,3,u,f,k,(e.map bM).length)=(3,3,u,f,k,(e.map bM).length))/\(True)/\(V.aG v3=false)/\(aL 3 v3)/\(((e.map bM).length+v3.length)*56<=140737488355328)/\∀ R8 Rt Sn:Nat,((.own 3 ((e.map bM)++v3) R8 Rt Sn:V)=.own 3 ((e++[(⟨[[88]],[],2⟩:l3)]).map bM) R8 Rt Sn)/\((3,R8,Rt,Sn,((e++[(⟨[[88]],[],2⟩:l3)]).map bM).length)=(3,R8,Rt,Sn,((e++[(⟨[[88]],[],2⟩:l3)]).map bM).length))/\((.sl false (V.D5 ((e++[(⟨[[88]],[],2⟩:l3)]).map bM)):V)=bn (e++[(⟨[[88]],[],2⟩:l3)]))/\∃ x:List l3×Nat,(x.1.length<=4/\(∀ y,y∈x.1->B6 y)/\p<=x.2/\x.2<=p+60)/\Q (bn (e++[(⟨[[88]],[],2⟩:l3)])) (bn x.1)/\Qr g v9 g (av b x.2)) (((3,u,f,k,(e.map bM).length)=(3,u,f,k,(e.map bM).length))/\((.sl false (V.D5 (e.map bM)):V)=bn e)/\∃ x:List l3×Nat,(x.1.length<=4/\(∀ y,y∈x.1->B6 y)/\p<=x.2/\x.2<=p+60)/\Q (bn e) (bn x.1)/\Qr g v9 g (av b x.2)))))) (.own 3 (e.map bM) u f k)) (av b (q+1)))) ([120]:BL)) (.ptr (.key 1000) [] g 0)) ([115,99,111,117,116]:BL)) ([42]:BL)) ([.agg [.sl false ([].map sV),.sl false ([].map au),iN 2]]:List V)) ([.agg [.sl false ([[88]].map sV),.sl false ([].map au),iN 2]]:List V)) ([.agg [.sl false ([[120]].map sV),.sl false ([].map au),iN 0]]:List V)) ([114,111,118,101,114]:BL))
  Z7 ?_
 refine⟨rfl,rfl,⟨Z9,Z9,Z9⟩,?_⟩
 intro r6 Mx
 refine⟨⟨(r6,[],p+1,0,0,0),?_,rfl,rfl,rfl,rfl,trivial⟩,?_⟩
 simp;omega
 rintro⟨n,e,q,u,f,k⟩ ⟨h1,h2,h3,h4⟩
 refine bI (fun j9=>?_) fun j9=>?_
 refine⟨rfl,rfl,⟨Z9,Z9,Z8,Z8⟩,?_⟩
 intro E8 N5
 refine⟨rfl,rfl,⟨Z9,Z9⟩,?_⟩
 intro w6 OX
 refine⟨rfl,rfl,⟨Z9,Z9,Z9⟩,?_⟩
 intro G9 Xn
 refine⟨rfl,rfl,⟨Z9,Z9,Z9⟩,?_⟩
 intro G8 Xm
 refine⟨by have:=Nat.mul_le_mul (show G9<=3 by omega) (show G8<=2 by omega);omega,?_⟩
 intro g5
 refine⟨rfl,rfl,rfl,⟨Z9,Z9,Z9⟩,?_⟩
 intro D3 P4
 refine⟨fun l6=>?_,fun l6=>?_,fun y hy=>?_⟩
 try simp only[nb]at l6
 refine⟨rfl,rfl,rfl,⟨Z9,Z9,Z8,Z8⟩,?_⟩
 intro MV RN
 refine⟨⟨⟨by simp[aL,V.n,V.ns],Z8⟩,rfl,by simp[aL,V.n,V.ns],Z8⟩,?_⟩
 intro TJ Tl TQ
 refine⟨congrArg (V.own 1 · TJ Tl TQ) Z8,congrArg (V.sl false) (aR (fun _=>rfl) _),rfl,?_⟩
 exact⟨([E8,MV],(((w6.2+1)+1)+1)+1),⟨Z8,fun x hx=>(List.mem_cons.1 hx).elim (fun h=>h ▸ ⟨bO rfl N5,dC rfl N5⟩) fun h=>List.mem_singleton.1 h ▸ ⟨bO rfl RN,dC rfl RN⟩,Z9,Z9⟩,rfl,rfl,rfl,rfl,Z4,Z4,trivial⟩
 try simp only[nb]at l6
 exact⟨([E8],((w6.2+1)+1)+1),⟨Z8,fun x hx=>List.mem_singleton.1 hx ▸ ⟨bO rfl N5,dC rfl N5⟩,Z9,Z9⟩,rfl,rfl,rfl,rfl,Z4,Z4,trivial⟩
 refine⟨rfl,fun hG=>rfl,⟨fun _=>rfl,fun h=>by rw[h] <;> rfl⟩,?_⟩
 refine bI (fun n0=>?_) fun n0=>?_
 refine⟨rfl,rfl,trivial,rfl,by simp[aL,V.n,V.ns],Z0,?_⟩
 intro K4 K0 K5
 refine⟨congrArg (V.own 3 · K4 K0 K5) Z8,Z9,by simp[Q];omega,?_⟩
 refine⟨(n-1,e++[(⟨y.1,w6.1,G9*G8⟩:l3)],y.2,K4,K0,K5),?_,?_,rfl,rfl,rfl,rfl,trivial⟩
 refine⟨Z0,gD h2 ⟨hy.1,fun x hx=>(hy.2.1 x hx).1,OX.1,OX.2.1,?_,fun x hx=>(hy.2.1 x hx).2⟩,Z9,Z9⟩
 exact Nat.mul_le_mul (show G9<=3 by omega) (show G8<=2 by omega)
 exact Z1
 refine⟨Z9,by simp[Q];omega,?_⟩
 refine⟨(n-1,e,y.2,u,f,k),?_,?_,rfl,rfl,rfl,rfl,trivial⟩
 exact⟨Z9,h2,Z9,Z9⟩
 exact Z1
 refine⟨rfl,rfl,⟨Z9,Z9,Z9⟩,?_⟩
 intro E4 E6
 refine bI (fun w5=>?_) fun w5=>?_
 refine⟨rfl,trivial,rfl,by simp[aL,V.n,V.ns],Z0,?_⟩
 intro Sa Rw Sq
 refine⟨congrArg (V.own 3 · Sa Rw Sq) Z8,rfl,congrArg (V.sl false) (aR (fun _=>rfl) _),?_⟩
 refine⟨(e++[(⟨[[120]],[],0⟩:l3)],q+1),?_,?_,?_⟩
 try dsimp only
 exact⟨Z0,gD h2 ⟨Z8,Z8,Z8,Z8,Z8,by first | (solve | simp) | (intro x hx;rw[List.mem_singleton.1 hx];exact bF rfl)⟩,Z9,Z9⟩
 first | rfl | simp_all
 first | rfl | exact⟨rfl,rfl⟩ | simp_all
 refine bI (fun G0=>?_) fun G0=>?_
 refine⟨rfl,trivial,rfl,by simp[aL,V.n,V.ns],Z0,?_⟩
 intro R9 Ru So
 refine⟨congrArg (V.own 3 · R9 Ru So) Z8,rfl,congrArg (V.sl false) (aR (fun _=>rfl) _),?_⟩
 refine⟨(e++[(⟨[],[],2⟩:l3)],q+1),?_,?_,?_⟩
 try dsimp only
 exact⟨Z0,gD h2 ⟨Z8,Z8,Z8,Z8,Z8,by first | (solve | simp) | (intro x hx;rw[List.mem_singleton.1 hx];exact bF rfl)⟩,Z9,Z9⟩
 first | rfl | simp_all
 first | rfl | exact⟨rfl,rfl⟩ | simp_all
 refine bI (fun Mp=>?_) fun Mp=>?_
 refine⟨rfl,trivial,rfl,by simp[aL,V.n,V.ns],Z0,?_⟩
 intro R8 Rt Sn
 refine⟨congrArg (V.own 3 · R8 Rt Sn) Z8,rfl,congrArg (V.sl false) (aR (fun _=>rfl) _),?_⟩
 refine⟨(e++[(⟨[[88]],[],2⟩:l3)],q+1),?_,?_,?_⟩
 try dsimp only
 exact⟨Z0,gD h2 ⟨Z8,Z8,Z8,Z8,Z8,by first | (solve | simp) | (intro x hx;rw[List.mem_singleton.1 hx];exact bF rfl)⟩,Z9,Z9⟩
 first | rfl | simp_all
 first | rfl | exact⟨rfl,rfl⟩ | simp_all
 refine⟨rfl,congrArg (V.sl false) (aR (fun _=>rfl) _),?_⟩
 refine⟨(e,q+1),?_,?_,?_⟩
 try dsimp only
 exact⟨Z9,h2,Z9,Z9⟩
 first | rfl | simp_all
 first | rfl | exact⟨rfl,rfl⟩ | simp_all)
def eE(b:BL)(p:Nat)(g:Nat):G4 Tryz.prog:=.mk (BL×Nat) 93 [.ptr (.key 1000) [] g 0] [(1000,(g,av b p))] ((b.length<=2000)/\(p<=900000)) (fun x=>x.1.length<=25/\p<=x.2/\x.2<=p+6/\m4 x.1) (fun x=>sV x.1) (fun x=>[(1000,(g,av b x.2))]) (by
 rintro⟨hb,hp⟩
 refine fc (N:=35) (rs:=[.tmp 2]) (X:=BL×Nat) (post:=fun x=>x.1.length<=25/\p<=x.2/\x.2<=p+6/\m4 x.1) (E:=fun x=>sV x.1) (H':=fun x=>[(1000,(g,.agg [.sl false (b.map n6),iN x.2]))]) Tryz.func93 Z7 rfl rfl rfl Z7 [(1000,(0,.c9))] (by intro _ k hk;simpa[lk] using hk)
  (.q 1<|.c (lF) []<|.q 1<|.cx (bf b p g 4) [(1000,1000)] (fun (z8:Nat)=>.r 2 [sV (aP.getD z8 [])]<|.bd dc<|.al dc (fun g3=>.st none<|.q 1<|.cx (bf b (p+1) g 3) [(1000,1000)] (fun (r6:Nat)=>.q 1<|.h (.A9 (.key 3) [1] 1)<|.loop (Nat×(List BL)×Nat×Nat×Nat×Nat) (fun (n,e,q,u,f,k)=>⟨[(0,.ptr (.key 1000) [] g 0),(3,.ptr (.key 3) [] g3 0),(4,iN n)],[(1000,(g,av b q)),(3,(g3,.agg [sV (aP.getD z8 []),.own 1 (e.map sV) u f k,bV false,sV []]))]⟩) (fun (n,e,q,u,f,k)=>e.length+n<=2/\(∀ y,y∈e->y.length<=6/\m4 y)/\p<=q/\q+n<=p+4) (fun (n,e,q,u,f,k)=>n) (fun (n,e,q,u,f,k)=>.q 2<|.br (.dx 7 [0,1,2,3,4,5,6] [(1,⟨false,[],some [3],[18],[]⟩),(4,⟨true,[],some [1000],[21],[1000]⟩),(6,⟨true,[],none,[23],[3]⟩)] []<|.q 1<|.r 1 [.c9]<|.q 1<|.bs<|.cx (eT b q g ([([97]:BL),([98]:BL),([99]:BL),([110,111,116,105,99,101]:BL)]:List BL)) [(1000,1000)] (fun (NL:BL)=>.bs<|.ux none (fun g23 N0 Oo=>.h (.o5 23 (.own 1 ((e++[NL]).map sV) g23 N0 Oo))<|.q 1<|.st none<|.q 2<|.h (.o5 16 (iN (n-1)))<|.q 1<|.nil))) (.q 1<|.cx (bf b q g 8) [(1000,1000)] (fun (D3:Nat)=>.q 1<|.br (.q 1<|.st none<|.q 1<|.bs<|.cx (eT b (q+1) g ([[],([97]:BL),([98,37,51,68]:BL)]:List BL)) [(1000,1000)] (fun (J8:BL)=>.q 1<|.st none<|.mv<|.h (.fz 33)<|.h (.o5 33 (.agg [sV (aP.getD z8 []),ay e,bV true,sV J8]))<|.c (je (⟨(aP.getD z8 []),e,true,J8⟩:s4)) []<|.q 1<|.nil)) (.mv<|.h (.fz 33)<|.h (.o5 33 (.agg [sV (aP.getD z8 []),ay e,bV false,sV []]))<|.c (je (⟨(aP.getD z8 []),e,false,[]⟩:s4)) []<|.q 1<|.nil))))))))
  ((fun v1:BL=>(fun v2:BL=>(fun v3:BL=>(fun v4:BL=>(fun v5:BL=>((lF).sm/\(True)/\(bf b p g 4).sm/\Er g (av b p)/\((b.length<=2000)/\(p<=1000000)/\(4<=1000000))/\∀ z8:Nat,(4=0/\z8=0\/z8<4)->Ex (z8:Int) (aP.map sV) (sV (aP.getD z8 []))/\True/\∀ g3:Nat,Z g3 0/\(bf b (p+1) g 3).sm/\Er g (av b (p+1))/\((b.length<=2000)/\((p+1)<=1000000)/\(3<=1000000))/\∀ r6:Nat,(3=0/\r6=0\/r6<3)->(∃ x:Nat×(List BL)×Nat×Nat×Nat×Nat,match x with | (J1,D4,A3,H3,z7,s5)=>(D4.length+J1<=2/\(∀ y,y∈D4->y.length<=6/\m4 y)/\p<=A3/\A3+J1<=p+4)/\E (.ptr (.key 1000) [] g 0)/\E (.ptr (.key 3) [] g3 0)/\Q (iN r6) (iN J1)/\Qr g (av b ((p+1)+1)) g (av b A3)/\Qr g3 (.agg [sV (aP.getD z8 []),.own 1 ([].map sV) 0 0 0,bV false,sV []]) g3 (.agg [sV (aP.getD z8 []),.own 1 (D4.map sV) H3 z7 s5,bV false,sV []])/\True)/\∀ x:Nat×(List BL)×Nat×Nat×Nat×Nat,match x with | (n,e,q,u,f,k)=>(e.length+n<=2/\(∀ y,y∈e->y.length<=6/\m4 y)/\p<=q/\q+n<=p+4)->Br (s9 (n:Int) 0) (Z g3 1/\(eT b q g ([v2,v4,v5,v1]:List BL)).sm/\Er g (av b q)/\((b.length<=2000)/\(q<=1000000)/\(1<=([v2,v4,v5,v1]:List BL).length)/\(([v2,v4,v5,v1]:List BL).length<=1000))/\∀ NL:BL,(NL∈([v2,v4,v5,v1]:List BL))->(fun v6:List V=>(((1,1,u,f,k,(e.map sV).length)=(1,1,u,f,k,(e.map sV).length))/\(V.aG v6=false)/\(aL 1 v6)/\(((e.map sV).length+v6.length)*16<=140737488355328))/\∀ g23 N0 Oo:Nat,((.own 1 ((e.map sV)++v6) g23 N0 Oo:V)=.own 1 ((e++[NL]).map sV) g23 N0 Oo)/\Z g3 1/\m9 ((n:Int)-1)/\Q (iV ((n:Int)-1)) (iN (n-1))/\∃ x:Nat×(List BL)×Nat×Nat×Nat×Nat,match x with | (w3,w8,o4,B4,r4,k₂)=>(w8.length+w3<=2/\(∀ y,y∈w8->y.length<=6/\m4 y)/\p<=o4/\o4+w3<=p+4)/\(w3<n)/\E (.ptr (.key 1000) [] g 0)/\E (.ptr (.key 3) [] g3 0)/\Q (iN (n-1)) (iN w3)/\Qr g (av b (q+1)) g (av b o4)/\Qr g3 (.agg [sV (aP.getD z8 []),.own 1 ((e++[NL]).map sV) g23 N0 Oo,bV false,sV []]) g3 (.agg [sV (aP.getD z8 []),.own 1 (w8.map sV) B4 r4 k₂,bV false,sV []])/\True) ([sV NL]:List V)) ((bf b q g 8).sm/\Er g (av b q)/\((b.length<=2000)/\(q<=1000000)/\(8<=1000000))/\∀ D3:Nat,(8=0/\D3=0\/D3<8)->Br (o6 (D3:Int) 0) (Z g3 2/\(eT b (q+1) g ([[],v2,v3]:List BL)).sm/\Er g (av b (q+1))/\((b.length<=2000)/\((q+1)<=1000000)/\(1<=([[],v2,v3]:List BL).length)/\(([[],v2,v3]:List BL).length<=1000))/\∀ J8:BL,(J8∈([[],v2,v3]:List BL))->Z g3 3/\Z g3 0/\((.agg [sV (aP.getD z8 []),.sl false (V.D5 (e.map sV)),bV true,sV J8]:V)=.agg [sV (aP.getD z8 []),ay e,bV true,sV J8])/\(je (⟨(aP.getD z8 []),e,true,J8⟩:s4)).sm/\((dR (⟨(aP.getD z8 []),e,true,J8⟩:s4)))/\∃ x:BL×Nat,(x.1.length<=25/\p<=x.2/\x.2<=p+6/\m4 x.1)/\Q (sV (bB (⟨(aP.getD z8 []),e,true,J8⟩:s4))) (sV x.1)/\Qr g (av b ((q+1)+1)) g (av b x.2)) (Z g3 0/\((.agg [sV (aP.getD z8 []),.sl false (V.D5 (e.map sV)),bV false,sV []]:V)=.agg [sV (aP.getD z8 []),ay e,bV false,sV []])/\(je (⟨(aP.getD z8 []),e,false,[]⟩:s4)).sm/\((dR (⟨(aP.getD z8 []),e,false,[]⟩:s4)))/\∃ x:BL×Nat,(x.1.length<=25/\p<=x.2/\x.2<=p+6/\m4 x.1)/\Q (sV (bB (⟨(aP.getD z8 []),e,false,[]⟩:s4))) (sV x.1)/\Qr g (av b (q+1)) g (av b x.2))))) ([99]:BL)) ([98]:BL)) ([98,37,51,68]:BL)) ([97]:BL)) ([110,111,116,105,99,101]:BL))
  Z7 ?_
 refine⟨rfl,trivial,rfl,rfl,⟨Z9,Z9,Z9⟩,?_⟩
 intro z8 OZ
 refine⟨FB (by show _<4;omega),trivial,?_⟩
 intro g3
 refine⟨rfl,rfl,rfl,⟨Z9,Z9,Z9⟩,?_⟩
 intro r6 Mx
 refine⟨⟨(r6,[],p+1+1,0,0,0),?_,rfl,rfl,rfl,Z4,rfl,trivial⟩,?_⟩
 simp;omega
 rintro⟨n,e,q,u,f,k⟩ ⟨h1,h2,h3,h4⟩
 refine bI (fun j9=>?_) fun j9=>?_
 refine⟨rfl,rfl,rfl,⟨Z9,Z9,Z8,Z8⟩,?_⟩
 intro NL RP
 refine⟨⟨rfl,rfl,by simp[aL,V.n,V.ns],Z0⟩,?_⟩
 intro g23 N0 Oo
 refine⟨congrArg (V.own 1 · g23 N0 Oo) Z8,rfl,Z9,by simp[Q];omega,?_⟩
 refine⟨(n-1,e++[NL],q+1,g23,N0,Oo),?_,?_,rfl,rfl,rfl,rfl,rfl,trivial⟩
 exact⟨Z0,gD h2 ⟨bO rfl RP,dC rfl RP⟩,Z9,Z9⟩
 exact Z1
 refine⟨rfl,rfl,⟨Z9,Z9,Z9⟩,?_⟩
 intro D3 P4
 refine bI (fun l6=>?_) fun l6=>?_
 refine⟨rfl,rfl,rfl,⟨Z9,Z9,Z8,Z8⟩,?_⟩
 intro J8 Nk
 refine⟨rfl,rfl,by simp only[aR (f:=sV) (fun _=>rfl)],rfl,(nK (cX rfl _) (by simp only;omega) (fun x hx=>(h2 x hx).1) (by first | exact bO rfl Nk | simp)).1,?_⟩
 refine⟨(bB (⟨(aP.getD z8 []),e,true,J8⟩:s4),(q+1)+1),?_,?_,?_⟩
 try dsimp only
 exact⟨(nK (cX rfl _) (by simp only;omega) (fun x hx=>(h2 x hx).1) (bO rfl Nk)).2,Z9,Z9,AX (eA rfl _) (fun x hx=>(h2 x hx).2) (dC rfl Nk)⟩
 first | rfl | simp_all
 first | rfl | exact⟨rfl,rfl⟩ | simp_all
 refine⟨rfl,by simp only[aR (f:=sV) (fun _=>rfl)],rfl,(nK (cX rfl _) (by simp only;omega) (fun x hx=>(h2 x hx).1) (by first | exact bO rfl Nk | simp)).1,?_⟩
 refine⟨(bB (⟨(aP.getD z8 []),e,false,[]⟩:s4),q+1),?_,?_,?_⟩
 try dsimp only
 exact⟨(nK (cX rfl _) (by simp only;omega) (fun x hx=>(h2 x hx).1) Z8).2,Z9,Z9,AX (eA rfl _) (fun x hx=>(h2 x hx).2) bb⟩
 first | rfl | simp_all
 first | rfl | exact⟨rfl,rfl⟩ | simp_all)
def fZ(b:BL)(p:Nat)(g:Nat):G4 Tryz.prog:=.mk (BL×Nat) 131 [.ptr (.key 1000) [] g 0] [(1000,(g,av b p))] ((b.length<=2000)/\(p<=890000)) (fun x=>x.1.length<=25/\p<=x.2/\x.2<=p+7/\m4 x.1) (fun x=>sV x.1) (fun x=>[(1000,(g,av b x.2))]) (by
 rintro⟨hb,hp⟩
 refine fc (N:=34) (rs:=[.tmp 2]) (X:=BL×Nat) (post:=fun x=>x.1.length<=25/\p<=x.2/\x.2<=p+7/\m4 x.1) (E:=fun x=>sV x.1) (H':=fun x=>[(1000,(g,.agg [.sl false (b.map n6),iN x.2]))]) Tryz.func131 Z7 rfl rfl rfl Z7 [(1000,(0,.c9))] (by intro _ k hk;simpa[lk] using hk)
  (.q 1<|.q 1<|.cx (bf b p g 8) [(1000,1000)] (fun (j8:Nat)=>.q 2<|.join (Bool) (fun c=>⟨[(0,.ptr (.key 1000) [] g 0),(4,iN j8),(5,bV c)],[(1000,(g,av b (p+1)))]⟩) (fun c=>True) (.nil) (.q 2<|.nil) (fun c=>.br (.q 1<|.cx (eE b (p+1) g) [(1000,1000)] (fun (H7:BL×Nat)=>.q 1<|.nil)) (.q 2<|.br (.q 1<|.bs<|.cx (eT b (p+1) g ([([97]:BL),([98]:BL),([97,47,98]:BL),([99,47,46,46,47,98]:BL),[],([120,47,46,47,99]:BL)]:List BL)) [(1000,1000)] (fun (O9:BL)=>.q 2<|.nil)) (.q 2<|.br (.q 1<|.bs<|.cx (eT b (p+1) g ([([46,46]:BL),([46,46,47,99]:BL),([46,46,47,46,46,47,46,46]:BL),([46]:BL),([46,47,97]:BL)]:List BL)) [(1000,1000)] (fun (J8:BL)=>.q 1<|.nil)) (.q 2<|.br (.q 1<|.bs<|.cx (eT b (p+1) g ([([63,97]:BL),([63]:BL),([35,116,111,112]:BL),[],([97,35,98]:BL),([98,63,97]:BL)]:List BL)) [(1000,1000)] (fun (NT:BL)=>.q 1<|.nil)) (.q 2<|.br (.q 1<|.bs<|.cx (eT b (p+1) g ([([47,47,65,66,47,97]:BL),([47,47,99,100]:BL),([47,47,99,100,63,120]:BL),([47,47,97,98,47,37,54,49]:BL),([47,47,116,111,111,108,111,110,103,47,97]:BL),([47,47,97,49,47,98]:BL),([47,47,47,97]:BL)]:List BL)) [(1000,1000)] (fun (NS:BL)=>.q 1<|.nil)) (.q 1<|.bs<|.cx (eT b (p+1) g ([([97]:BL),([98]:BL),([99]:BL),([97,47,98]:BL)]:List BL)) [(1000,1000)] (fun (NR:BL)=>.q 1<|.nil)))))))))
  ((fun v1:BL=>(fun v2:BL=>(fun v3:BL=>(fun v4:BL=>(fun v5:BL=>(fun v6:BL=>(fun v7:BL=>(fun v8:BL=>(fun v9:BL=>(fun v10:BL=>(fun v11:BL=>(fun v12:BL=>(fun MM:V=>(fun Ou:BL=>(fun PQ:BL=>(fun QG:BL=>(fun Rn:V=>(fun U7:BL=>(fun U6:BL=>(fun v20:BL=>(fun v21:BL=>(fun v22:BL=>(fun U5:BL=>(fun v24:BL=>(fun U4:BL=>((bf b p g 8).sm/\Er g (av b p)/\((b.length<=2000)/\(p<=1000000)/\(8<=1000000))/\∀ j8:Nat,(8=0/\j8=0\/j8<8)->((o6 (j8:Int) 0)=true->∃ c:Bool,(True)/\E (.ptr (.key 1000) [] g 0)/\E (iN j8)/\Q (bV (o6 (j8:Int) 0)) (bV c)/\Er g MM/\True)/\((o6 (j8:Int) 0)=false->∃ c:Bool,(True)/\E (.ptr (.key 1000) [] g 0)/\E (iN j8)/\Q (bV (o6 (j8:Int) 1)) (bV c)/\Er g MM/\True)/\(∀ c:Bool,(True)->Br c ((eE b (p+1) g).sm/\Er g MM/\((b.length<=2000)/\((p+1)<=900000))/\∀ H7:BL×Nat,(H7.1.length<=25/\(p+1)<=H7.2/\H7.2<=(p+1)+6/\m4 H7.1)->∃ x:BL×Nat,(x.1.length<=25/\p<=x.2/\x.2<=p+7/\m4 x.1)/\Q (sV H7.1) (sV x.1)/\Qr g (av b H7.2) g (av b x.2)) (Br (o6 (j8:Int) 2) ((eT b (p+1) g ([v6,v7,v2,v8,[],v11]:List BL)).sm/\Er g MM/\((b.length<=2000)/\((p+1)<=1000000)/\(1<=([v6,v7,v2,v8,[],v11]:List BL).length)/\(([v6,v7,v2,v8,[],v11]:List BL).length<=1000))/\∀ O9:BL,(O9∈([v6,v7,v2,v8,[],v11]:List BL))->(([47]:BL).length+O9.length<=4611686018427387904)/\∃ x:BL×Nat,(x.1.length<=25/\p<=x.2/\x.2<=p+7/\m4 x.1)/\Q (sV (([47]:BL)++O9)) (sV x.1)/\Qr g Rn g (av b x.2)) (Br (o6 (j8:Int) 3) ((eT b (p+1) g ([v21,PQ,v3,U5,U7]:List BL)).sm/\Er g MM/\((b.length<=2000)/\((p+1)<=1000000)/\(1<=([v21,PQ,v3,U5,U7]:List BL).length)/\(([v21,PQ,v3,U5,U7]:List BL).length<=1000))/\∀ J8:BL,(J8∈([v21,PQ,v3,U5,U7]:List BL))->∃ x:BL×Nat,(x.1.length<=25/\p<=x.2/\x.2<=p+7/\m4 x.1)/\Q (sV J8) (sV x.1)/\Qr g Rn g (av b x.2)) (Br (o6 (j8:Int) 4) ((eT b (p+1) g ([v22,v24,v12,[],U6,v20]:List BL)).sm/\Er g MM/\((b.length<=2000)/\((p+1)<=1000000)/\(1<=([v22,v24,v12,[],U6,v20]:List BL).length)/\(([v22,v24,v12,[],U6,v20]:List BL).length<=1000))/\∀ NT:BL,(NT∈([v22,v24,v12,[],U6,v20]:List BL))->∃ x:BL×Nat,(x.1.length<=25/\p<=x.2/\x.2<=p+7/\m4 x.1)/\Q (sV NT) (sV x.1)/\Qr g Rn g (av b x.2)) (Br (o6 (j8:Int) 5) ((eT b (p+1) g ([v9,Ou,v5,v4,v1,v10,QG]:List BL)).sm/\Er g MM/\((b.length<=2000)/\((p+1)<=1000000)/\(1<=([v9,Ou,v5,v4,v1,v10,QG]:List BL).length)/\(([v9,Ou,v5,v4,v1,v10,QG]:List BL).length<=1000))/\∀ NS:BL,(NS∈([v9,Ou,v5,v4,v1,v10,QG]:List BL))->∃ x:BL×Nat,(x.1.length<=25/\p<=x.2/\x.2<=p+7/\m4 x.1)/\Q (sV NS) (sV x.1)/\Qr g Rn g (av b x.2)) ((eT b (p+1) g ([v6,v7,U4,v2]:List BL)).sm/\Er g MM/\((b.length<=2000)/\((p+1)<=1000000)/\(1<=([v6,v7,U4,v2]:List BL).length)/\(([v6,v7,U4,v2]:List BL).length<=1000))/\∀ NR:BL,(NR∈([v6,v7,U4,v2]:List BL))->∃ x:BL×Nat,(x.1.length<=25/\p<=x.2/\x.2<=p+7/\m4 x.1)/\Q (sV NR) (sV x.1)/\Qr g Rn g (av b x.2))))))))) ([99]:BL)) ([63]:BL)) ([46]:BL)) ([63,97]:BL)) ([46,46]:BL)) ([98,63,97]:BL)) ([97,35,98]:BL)) ([46,47,97]:BL)) (av b ((p+1)+1))) ([47,47,47,97]:BL)) ([46,46,47,99]:BL)) ([47,47,99,100]:BL)) (av b (p+1))) ([35,116,111,112]:BL)) ([120,47,46,47,99]:BL)) ([47,47,97,49,47,98]:BL)) ([47,47,65,66,47,97]:BL)) ([99,47,46,46,47,98]:BL)) ([98]:BL)) ([97]:BL)) ([47,47,99,100,63,120]:BL)) ([47,47,97,98,47,37,54,49]:BL)) ([46,46,47,46,46,47,46,46]:BL)) ([97,47,98]:BL)) ([47,47,116,111,111,108,111,110,103,47,97]:BL))
  Z7 ?_
 refine⟨rfl,rfl,⟨Z9,Z9,Z9⟩,?_⟩
 intro j8 H5
 refine⟨fun j9=>?_,fun j9=>?_,fun c hc=>?_⟩
 try simp only[nb]at j9
 exact⟨o6 (j8:Int) 0,trivial,rfl,rfl,rfl,rfl,trivial⟩
 try simp only[nb]at j9
 exact⟨o6 (j8:Int) 1,trivial,rfl,rfl,rfl,rfl,trivial⟩
 refine bI (fun l6=>?_) fun l6=>?_
 · refine⟨rfl,rfl,⟨Z9,Z9⟩,?_⟩
   intro H7 Uj
   refine⟨(H7.1,H7.2),?_,?_,?_⟩
   · try dsimp only
     exact⟨Z9,Z9,Z9,by(try dsimp only);repeat (first | assumption | exact bb | exact bF rfl | exact dC rfl (by assumption) | exact m4.drop (by apply And.right;apply And.right;apply And.right;assumption) _ | (apply And.right;apply And.right;apply And.right;assumption) | apply m4.app)⟩
   first | rfl | simp_all
   first | rfl | exact⟨rfl,rfl⟩ | simp_all
 · refine bI (fun n0=>?_) fun n0=>?_
   · refine⟨rfl,rfl,⟨Z9,Z9,Z8,Z8⟩,?_⟩
     intro O9 RO
     refine⟨by(try have:=bO (n:=11) rfl RO);(try simp only[List.length_append,List.length_cons,List.length_nil]);omega,?_⟩
     refine⟨(([47]:BL)++O9,(p+1)+1),?_,?_,?_⟩
     · try dsimp only
       have:=bO (n:=11) rfl RO
       exact⟨by first | omega | (simp;omega),Z9,Z9,by(try dsimp only);repeat (first | assumption | exact bb | exact bF rfl | exact dC rfl (by assumption) | exact m4.drop (by apply And.right;apply And.right;apply And.right;assumption) _ | (apply And.right;apply And.right;apply And.right;assumption) | apply m4.app)⟩
     first | rfl | simp_all
     first | rfl | exact⟨rfl,rfl⟩ | simp_all
   · refine bI (fun w5=>?_) fun w5=>?_
     · refine⟨rfl,rfl,⟨Z9,Z9,Z8,Z8⟩,?_⟩
       intro J8 Nk
       refine⟨(J8,(p+1)+1),?_,?_,?_⟩
       · try dsimp only
         have:=bO (n:=11) rfl Nk
         exact⟨by first | omega | (simp;omega),Z9,Z9,by(try dsimp only);repeat (first | assumption | exact bb | exact bF rfl | exact dC rfl (by assumption) | exact m4.drop (by apply And.right;apply And.right;apply And.right;assumption) _ | (apply And.right;apply And.right;apply And.right;assumption) | apply m4.app)⟩
       first | rfl | simp_all
       first | rfl | exact⟨rfl,rfl⟩ | simp_all
     · refine bI (fun G0=>?_) fun G0=>?_
       · refine⟨rfl,rfl,⟨Z9,Z9,Z8,Z8⟩,?_⟩
         intro NT SI
         refine⟨(NT,(p+1)+1),?_,?_,?_⟩
         · try dsimp only
           have:=bO (n:=11) rfl SI
           exact⟨by first | omega | (simp;omega),Z9,Z9,by(try dsimp only);repeat (first | assumption | exact bb | exact bF rfl | exact dC rfl (by assumption) | exact m4.drop (by apply And.right;apply And.right;apply And.right;assumption) _ | (apply And.right;apply And.right;apply And.right;assumption) | apply m4.app)⟩
         first | rfl | simp_all
         first | rfl | exact⟨rfl,rfl⟩ | simp_all
       · refine bI (fun Mp=>?_) fun Mp=>?_
         · refine⟨rfl,rfl,⟨Z9,Z9,Z8,Z8⟩,?_⟩
           intro NS SH
           refine⟨(NS,(p+1)+1),?_,?_,?_⟩
           · try dsimp only
             have:=bO (n:=11) rfl SH
             exact⟨by first | omega | (simp;omega),Z9,Z9,by(try dsimp only);repeat (first | assumption | exact bb | exact bF rfl | exact dC rfl (by assumption) | exact m4.drop (by apply And.right;apply And.right;apply And.right;assumption) _ | (apply And.right;apply And.right;apply And.right;assumption) | apply m4.app)⟩
           first | rfl | simp_all
           first | rfl | exact⟨rfl,rfl⟩ | simp_all
         · refine⟨rfl,rfl,⟨Z9,Z9,Z8,Z8⟩,?_⟩
           intro NR SG
           refine⟨(NR,(p+1)+1),?_,?_,?_⟩
           · try dsimp only
             have:=bO (n:=11) rfl SG
             exact⟨by first | omega | (simp;omega),Z9,Z9,by(try dsimp only);repeat (first | assumption | exact bb | exact bF rfl | exact dC rfl (by assumption) | exact m4.drop (by apply And.right;apply And.right;apply And.right;assumption) _ | (apply And.right;apply And.right;apply And.right;assumption) | apply m4.app)⟩
           first | rfl | simp_all
           first | rfl | exact⟨rfl,rfl⟩ | simp_all)
def wz(b:BL)(p:Nat)(g:Nat):G4 Tryz.prog:=.mk (BL×Nat) 94 [.ptr (.key 1000) [] g 0] [(1000,(g,av b p))] ((b.length<=2000)/\(p<=880000)) (fun x=>x.1.length<=240/\p<=x.2/\x.2<=p+70/\m4 x.1) (fun x=>sV x.1) (fun x=>[(1000,(g,av b x.2))]) (by
 rintro⟨hb,hp⟩
 refine fc (N:=55) (rs:=[.tmp 2]) (X:=BL×Nat) (post:=fun x=>x.1.length<=240/\p<=x.2/\x.2<=p+70/\m4 x.1) (E:=fun x=>sV x.1) (H':=fun x=>[(1000,(g,.agg [.sl false (b.map n6),iN x.2]))]) Tryz.func94 Z7 rfl rfl rfl Z7 [(1000,(0,.c9))] (by intro _ k hk;simpa[lk] using hk)
  (.q 1<|.q 1<|.q 1<|.cx (bf b p g 5) [(1000,1000)] (fun (r6:Nat)=>.q 1<|.loop (Nat×BL×Nat) (fun (n,o,q)=>⟨[(0,.ptr (.key 1000) [] g 0),(3,sV o),(4,iN n)],[(1000,(g,av b q))]⟩) (fun (n,o,q)=>o.length+60*n<=240/\p<=q/\q+16*n<=p+66/\m4 o) (fun (n,o,q)=>n) (fun (n,o,q)=>.q 2<|.br (.q 1<|.cx (bf b q g 9) [(1000,1000)] (fun (NM:Nat)=>.q 2<|.br (.q 3<|.cx (fZ b (q+1) g) [(1000,1000)] (fun (I':BL×Nat)=>.q 3<|.cx (fZ b I'.2 g) [(1000,1000)] (fun (MF:BL×Nat)=>.q 3<|.q 2<|.h (.o5 10 (iN (n-1)))<|.q 1<|.nil))) (.q 2<|.br (.q 3<|.cx (fZ b (q+1) g) [(1000,1000)] (fun (I4:BL×Nat)=>.q 3<|.q 2<|.h (.o5 10 (iN (n-1)))<|.q 1<|.nil)) (.q 2<|.br (.q 3<|.cx (fZ b (q+1) g) [(1000,1000)] (fun (I3:BL×Nat)=>.q 3<|.q 2<|.h (.o5 10 (iN (n-1)))<|.q 1<|.nil)) (.q 2<|.br (.q 2<|.bs<|.cx (eT b (q+1) g ([([116,101,120,116,32]:BL),([60]:BL),([62]:BL),([40]:BL),([41]:BL),([60,97]:BL)]:List BL)) [(1000,1000)] (fun (E3:BL)=>.q 2<|.q 2<|.h (.o5 10 (iN (n-1)))<|.q 1<|.nil)) (.q 3<|.cx (fZ b (q+1) g) [(1000,1000)] (fun (MG:BL×Nat)=>.q 3<|.q 2<|.h (.o5 10 (iN (n-1)))<|.q 1<|.nil))))))) (.q 2<|.nil))))
  ((fun v1:BL=>(fun v2:BL=>(fun v3:BL=>(fun v4:V=>(fun v5:BL=>(fun v6:BL=>(fun v7:BL=>(fun v8:BL=>(fun v9:BL=>((bf b p g 5).sm/\Er g (av b p)/\((b.length<=2000)/\(p<=1000000)/\(5<=1000000))/\∀ r6:Nat,(5=0/\r6=0\/r6<5)->(∃ x:Nat×BL×Nat,match x with | (J1,u7,A3)=>(u7.length+60*J1<=240/\p<=A3/\A3+16*J1<=p+66/\m4 u7)/\E v4/\Q (sV []) (sV u7)/\Q (iN r6) (iN J1)/\Qr g (av b (p+1)) g (av b A3)/\True)/\∀ x:Nat×BL×Nat,match x with | (n,o,q)=>(o.length+60*n<=240/\p<=q/\q+16*n<=p+66/\m4 o)->(fun v10:V=>Br (s9 (n:Int) 0) ((bf b q g 9).sm/\Er g (av b q)/\((b.length<=2000)/\(q<=1000000)/\(9<=1000000))/\∀ NM:Nat,(9=0/\NM=0\/NM<9)->Br (o6 (NM:Int) 0) ((o.length+v2.length<=4611686018427387904)/\(fZ b (q+1) g).sm/\Er g v10/\((b.length<=2000)/\((q+1)<=890000))/\∀ I':BL×Nat,(I'.1.length<=25/\(q+1)<=I'.2/\I'.2<=(q+1)+7/\m4 I'.1)->((o++v2).length+I'.1.length<=4611686018427387904)/\(((o++v2)++I'.1).length+v1.length<=4611686018427387904)/\(fZ b I'.2 g).sm/\Er g (av b I'.2)/\((b.length<=2000)/\(I'.2<=890000))/\∀ MF:BL×Nat,(MF.1.length<=25/\I'.2<=MF.2/\MF.2<=I'.2+7/\m4 MF.1)->((((o++v2)++I'.1)++v1).length+MF.1.length<=4611686018427387904)/\(((((o++v2)++I'.1)++v1)++MF.1).length+([62,41]:BL).length<=4611686018427387904)/\m9 ((n:Int)-1)/\Q (iV ((n:Int)-1)) (iN (n-1))/\∃ x:Nat×BL×Nat,match x with | (w3,l9,o4)=>(l9.length+60*w3<=240/\p<=o4/\o4+16*w3<=p+66/\m4 l9)/\(w3<n)/\E v4/\Q (sV (((((o++v2)++I'.1)++v1)++MF.1)++([62,41]:BL))) (sV l9)/\Q (iN (n-1)) (iN w3)/\Qr g (av b MF.2) g (av b o4)/\True) (Br (o6 (NM:Int) 1) ((o.length+v6.length<=4611686018427387904)/\(fZ b (q+1) g).sm/\Er g v10/\((b.length<=2000)/\((q+1)<=890000))/\∀ I4:BL×Nat,(I4.1.length<=25/\(q+1)<=I4.2/\I4.2<=(q+1)+7/\m4 I4.1)->((o++v6).length+I4.1.length<=4611686018427387904)/\(((o++v6)++I4.1).length+v3.length<=4611686018427387904)/\m9 ((n:Int)-1)/\Q (iV ((n:Int)-1)) (iN (n-1))/\∃ x:Nat×BL×Nat,match x with | (w3,l9,o4)=>(l9.length+60*w3<=240/\p<=o4/\o4+16*w3<=p+66/\m4 l9)/\(w3<n)/\E v4/\Q (sV (((o++v6)++I4.1)++v3)) (sV l9)/\Q (iN (n-1)) (iN w3)/\Qr g (av b I4.2) g (av b o4)/\True) (Br (o6 (NM:Int) 2) ((o.length+v7.length<=4611686018427387904)/\(fZ b (q+1) g).sm/\Er g v10/\((b.length<=2000)/\((q+1)<=890000))/\∀ I3:BL×Nat,(I3.1.length<=25/\(q+1)<=I3.2/\I3.2<=(q+1)+7/\m4 I3.1)->((o++v7).length+I3.1.length<=4611686018427387904)/\(((o++v7)++I3.1).length+v3.length<=4611686018427387904)/\m9 ((n:Int)-1)/\Q (iV ((n:Int)-1)) (iN (n-1))/\∃ x:Nat×BL×Nat,match x with | (w3,l9,o4)=>(l9.length+60*w3<=240/\p<=o4/\o4+16*w3<=p+66/\m4 l9)/\(w3<n)/\E v4/\Q (sV (((o++v7)++I3.1)++v3)) (sV l9)/\Q (iN (n-1)) (iN w3)/\Qr g (av b I3.2) g (av b o4)/\True) (Br (o6 (NM:Int) 3) ((eT b (q+1) g ([v5,v1,v3,v2,v9,v8]:List BL)).sm/\Er g v10/\((b.length<=2000)/\((q+1)<=1000000)/\(1<=([v5,v1,v3,v2,v9,v8]:List BL).length)/\(([v5,v1,v3,v2,v9,v8]:List BL).length<=1000))/\∀ E3:BL,(E3∈([v5,v1,v3,v2,v9,v8]:List BL))->(o.length+E3.length<=4611686018427387904)/\m9 ((n:Int)-1)/\Q (iV ((n:Int)-1)) (iN (n-1))/\∃ x:Nat×BL×Nat,match x with | (w3,l9,o4)=>(l9.length+60*w3<=240/\p<=o4/\o4+16*w3<=p+66/\m4 l9)/\(w3<n)/\E v4/\Q (sV (o++E3)) (sV l9)/\Q (iN (n-1)) (iN w3)/\Qr g (av b ((q+1)+1)) g (av b o4)/\True) ((o.length+v1.length<=4611686018427387904)/\(fZ b (q+1) g).sm/\Er g v10/\((b.length<=2000)/\((q+1)<=890000))/\∀ MG:BL×Nat,(MG.1.length<=25/\(q+1)<=MG.2/\MG.2<=(q+1)+7/\m4 MG.1)->((o++v1).length+MG.1.length<=4611686018427387904)/\(((o++v1)++MG.1).length+v3.length<=4611686018427387904)/\m9 ((n:Int)-1)/\Q (iV ((n:Int)-1)) (iN (n-1))/\∃ x:Nat×BL×Nat,match x with | (w3,l9,o4)=>(l9.length+60*w3<=240/\p<=o4/\o4+16*w3<=p+66/\m4 l9)/\(w3<n)/\E v4/\Q (sV (((o++v1)++MG.1)++v3)) (sV l9)/\Q (iN (n-1)) (iN w3)/\Qr g (av b MG.2) g (av b o4)/\True))))) (∃ x:BL×Nat,(x.1.length<=240/\p<=x.2/\x.2<=p+70/\m4 x.1)/\Q (sV o) (sV x.1)/\Qr g (av b q) g (av b x.2))) (av b (q+1)))) ([41]:BL)) ([60,97]:BL)) ([60,64]:BL)) ([60,33]:BL)) ([116,101,120,116,32]:BL)) (.ptr (.key 1000) [] g 0)) ([62]:BL)) ([40]:BL)) ([60]:BL))
  Z7 ?_
 refine⟨rfl,rfl,⟨Z9,Z9,Z9⟩,?_⟩
 intro r6 Mx
 refine⟨⟨(r6,[],p+1),?_,rfl,rfl,rfl,rfl,trivial⟩,?_⟩
 exact⟨Z0,Z9,Z9,bb⟩
 rintro⟨n,o,q⟩ ⟨h1,h2,h3,h4⟩
 refine bI (fun j9=>?_) fun j9=>?_
 · refine⟨rfl,rfl,⟨Z9,Z9,Z9⟩,?_⟩
   intro NM Xo
   refine bI (fun l6=>?_) fun l6=>?_
   · refine⟨by(try simp only[List.length_append,List.length_cons,List.length_nil]);(try have:=bO (n:=11) rfl x5);omega,rfl,rfl,⟨Z9,Z9⟩,?_⟩
     intro I' Xj
     refine⟨by(try simp only[List.length_append,List.length_cons,List.length_nil]);(try have:=bO (n:=11) rfl x5);omega,by(try simp only[List.length_append,List.length_cons,List.length_nil]);(try have:=bO (n:=11) rfl x5);omega,rfl,rfl,⟨Z9,Z9⟩,?_⟩
     intro MF Xi
     refine⟨by(try simp only[List.length_append,List.length_cons,List.length_nil]);(try have:=bO (n:=11) rfl x5);omega,by(try simp only[List.length_append,List.length_cons,List.length_nil]);(try have:=bO (n:=11) rfl x5);omega,Z9,by simp[Q];omega,?_⟩
     refine⟨(n-1,((((o++([40]:BL))++I'.1)++([60]:BL))++MF.1)++([62,41]:BL),MF.2),?_,?_,rfl,rfl,rfl,rfl,trivial⟩
     · try have:=bO (n:=11) rfl x5
       exact⟨by simp only[List.length_append,List.length_cons,List.length_nil];omega,Z9,Z9,by(try dsimp only);repeat (first | assumption | exact bb | exact bF rfl | exact dC rfl (by assumption) | exact m4.drop (by apply And.right;apply And.right;apply And.right;assumption) _ | (apply And.right;apply And.right;apply And.right;assumption) | apply m4.app)⟩
     exact Z1
   · refine bI (fun n0=>?_) fun n0=>?_
     · refine⟨by(try simp only[List.length_append,List.length_cons,List.length_nil]);(try have:=bO (n:=11) rfl x5);omega,rfl,rfl,⟨Z9,Z9⟩,?_⟩
       intro I4 V2
       refine⟨by(try simp only[List.length_append,List.length_cons,List.length_nil]);(try have:=bO (n:=11) rfl x5);omega,by(try simp only[List.length_append,List.length_cons,List.length_nil]);(try have:=bO (n:=11) rfl x5);omega,Z9,by simp[Q];omega,?_⟩
       refine⟨(n-1,((o++([60,33]:BL))++I4.1)++([62]:BL),I4.2),?_,?_,rfl,rfl,rfl,rfl,trivial⟩
       · try have:=bO (n:=11) rfl x5
         exact⟨by simp only[List.length_append,List.length_cons,List.length_nil];omega,Z9,Z9,by(try dsimp only);repeat (first | assumption | exact bb | exact bF rfl | exact dC rfl (by assumption) | exact m4.drop (by apply And.right;apply And.right;apply And.right;assumption) _ | (apply And.right;apply And.right;apply And.right;assumption) | apply m4.app)⟩
       exact Z1
     · refine bI (fun w5=>?_) fun w5=>?_
       · refine⟨by(try simp only[List.length_append,List.length_cons,List.length_nil]);(try have:=bO (n:=11) rfl x5);omega,rfl,rfl,⟨Z9,Z9⟩,?_⟩
         intro I3 V1
         refine⟨by(try simp only[List.length_append,List.length_cons,List.length_nil]);(try have:=bO (n:=11) rfl x5);omega,by(try simp only[List.length_append,List.length_cons,List.length_nil]);(try have:=bO (n:=11) rfl x5);omega,Z9,by simp[Q];omega,?_⟩
         refine⟨(n-1,((o++([60,64]:BL))++I3.1)++([62]:BL),I3.2),?_,?_,rfl,rfl,rfl,rfl,trivial⟩
         · try have:=bO (n:=11) rfl x5
           exact⟨by simp only[List.length_append,List.length_cons,List.length_nil];omega,Z9,Z9,by(try dsimp only);repeat (first | assumption | exact bb | exact bF rfl | exact dC rfl (by assumption) | exact m4.drop (by apply And.right;apply And.right;apply And.right;assumption) _ | (apply And.right;apply And.right;apply And.right;assumption) | apply m4.app)⟩
         exact Z1
       · refine bI (fun G0=>?_) fun G0=>?_
         · refine⟨rfl,rfl,⟨Z9,Z9,Z8,Z8⟩,?_⟩
           intro E3 x5
           refine⟨by(try simp only[List.length_append,List.length_cons,List.length_nil]);(try have:=bO (n:=11) rfl x5);omega,Z9,by simp[Q];omega,?_⟩
           refine⟨(n-1,o++E3,(q+1)+1),?_,?_,rfl,rfl,rfl,rfl,trivial⟩
           · try have:=bO (n:=11) rfl x5
             exact⟨by simp only[List.length_append,List.length_cons,List.length_nil];omega,Z9,Z9,by(try dsimp only);repeat (first | assumption | exact bb | exact bF rfl | exact dC rfl (by assumption) | exact m4.drop (by apply And.right;apply And.right;apply And.right;assumption) _ | (apply And.right;apply And.right;apply And.right;assumption) | apply m4.app)⟩
           exact Z1
         · refine⟨by(try simp only[List.length_append,List.length_cons,List.length_nil]);(try have:=bO (n:=11) rfl x5);omega,rfl,rfl,⟨Z9,Z9⟩,?_⟩
           intro MG Xl
           refine⟨by(try simp only[List.length_append,List.length_cons,List.length_nil]);(try have:=bO (n:=11) rfl x5);omega,by(try simp only[List.length_append,List.length_cons,List.length_nil]);(try have:=bO (n:=11) rfl x5);omega,Z9,by simp[Q];omega,?_⟩
           refine⟨(n-1,((o++([60]:BL))++MG.1)++([62]:BL),MG.2),?_,?_,rfl,rfl,rfl,rfl,trivial⟩
           · try have:=bO (n:=11) rfl x5
             exact⟨by simp only[List.length_append,List.length_cons,List.length_nil];omega,Z9,Z9,by(try dsimp only);repeat (first | assumption | exact bb | exact bF rfl | exact dC rfl (by assumption) | exact m4.drop (by apply And.right;apply And.right;apply And.right;assumption) _ | (apply And.right;apply And.right;apply And.right;assumption) | apply m4.app)⟩
           exact Z1
 refine⟨(o,q),?_,?_,?_⟩
 try dsimp only
 exact⟨Z9,Z9,Z9,h4⟩
 first | rfl | simp_all
 first | rfl | exact⟨rfl,rfl⟩ | simp_all)
abbrev oW(w:List Pg)(a:BL):V:=.tup [cn ((B3 w a).1.addr) ((B3 w a).1.text) ((B3 w a).1.lead) ((B3 w a).1.m0),bV ((B3 w a).2)]
def Hj(w:List Pg)(a:BL):o8 Tryz.prog:=.mk 95 [bS w,sV a] [] (w.length<=1000000) (oW w a) [] (by
 intro hw
 refine az (N:=25) (rs:=[.cell 4 99,.tmp 5]) Tryz.func95
  (.al mN (fun g4=>.q 1<|.q 1<|.loop (Nat) (fun (i:Nat)=>⟨[(0,bS w),(1,sV a),(4,.ptr (.key 4) [] g4 0),(6,iN i)],[(4,(g4,.agg [sV [],sV [],sV [],iN 0]))]⟩) (fun (i:Nat)=>i<=w.length/\B3 w a=B3 (w.drop i) a) (fun (i:Nat)=>w.length-i) (fun (i:Nat)=>.q 4<|.br (.r 7 [cn ((w.getD i l5).addr) ((w.getD i l5).text) ((w.getD i l5).lead) ((w.getD i l5).m0)]<|.br (.r 4 [cn ((w.getD i l5).addr) ((w.getD i l5).text) ((w.getD i l5).lead) ((w.getD i l5).m0)]<|.st none<|.q 1<|.nil) (.q 3<|.nil)) (.bd mN<|.st none<|.q 1<|.nil))))
  (∀ g4:Nat,(∃ j7:Nat,(j7<=w.length/\B3 w a=B3 (w.drop j7) a)/\E (bS w)/\E (sV a)/\E (.ptr (.key 4) [] g4 0)/\Q (iN 0) (iN j7)/\Er g4 (.agg [sV [],sV [],sV [],iN 0])/\True)/\∀ i:Nat,(i<=w.length/\B3 w a=B3 (w.drop i) a)->(fun v1:V=>Br (s8 (i:Int) (((w.map r5).length:Nat):Int)) (Ex (i:Int) (w.map r5) v1/\True/\Br (((w.getD i l5).addr)==a) (Ex (i:Int) (w.map r5) v1/\True/\Z g4 0/\(g4=g4)/\Q (.tup [cn ((w.getD i l5).addr) ((w.getD i l5).text) ((w.getD i l5).lead) ((w.getD i l5).m0),bV true]) (oW w a)) (m9 ((i:Int)+1)/\∃ c5:Nat,(c5<=w.length/\B3 w a=B3 (w.drop c5) a)/\(w.length-c5<w.length-i)/\E (bS w)/\E (sV a)/\E (.ptr (.key 4) [] g4 0)/\Q (iN (i+1)) (iN c5)/\Er g4 (.agg [sV [],sV [],sV [],iN 0])/\True)) (Z g4 0/\(g4=g4)/\Q (.tup [.agg [sV [],sV [],sV [],iN 0],bV false]) (oW w a))) (cn ((w.getD i l5).addr) ((w.getD i l5).text) ((w.getD i l5).lead) ((w.getD i l5).m0))) ?_
 intro g4
 refine⟨⟨0,?_,rfl,rfl,rfl,rfl,rfl,trivial⟩,?_⟩
 simp
 rintro i ⟨h1,h2⟩
 refine bI (fun j9=>?_) fun j9=>?_
 refine⟨⟨Z9,an (d:=l5) Z9⟩,trivial,?_⟩
 refine bI (fun l6=>?_) fun l6=>?_
 refine⟨⟨Z9,an (d:=l5) Z9⟩,trivial,rfl,?_⟩
 refine⟨rfl,?_⟩
 unfold Q oW
 rw[h2,drop_cons (by omega:i<w.length) l5,B3,if_pos l6]
 refine⟨Z9,?_⟩
 refine⟨i+1,?_,?_,rfl,rfl,rfl,rfl,rfl,trivial⟩
 refine⟨Z9,?_⟩
 rw[h2,drop_cons (by omega:i<w.length) l5,B3,if_neg l6]
 exact Z1
 refine⟨rfl,?_⟩
 refine⟨rfl,?_⟩
 unfold Q oW
 rw[h2,List.drop_eq_nil_of_le Z9];rfl)
def sR(n m:Nat)(ih:∀ m,m<n->(m<=1000000)->PF Tryz.prog 56 [iN m] [] (fun r h=>r=(sV (dw m))/\h=[])):o8 Tryz.prog:={ f:=56,args:=[iN m],pre:=m<n/\(m<=1000000),res:=sV (dw m),ok:=fun h=>ih m h.1 h.2 }
theorem FR(n:Nat)(hn:n<=1000000):PF Tryz.prog 56 [iN n] [] (fun r h=>r=(sV (dw n))/\h=[]):=by
 revert hn
 induction n using Nat.strongRecOn with
 | ind n ih=>
 intro hn
 refine az (N:=28) (rs:=[.tmp 2]) Tryz.func56
  (.q 1<|.q 2<|.br (.q 1<|.nil) (.q 2<|.br (.q 2<|.c (sR n (Int.toNat (-(n:Int))) ih) []<|.q 2<|.nil) (.q 2<|.br (.q 3<|.h (.o5 15 (uN ((UInt8.ofNat (48+n)).toNat)))<|.bs<|.K6 [(UInt8.ofNat (48+n))]<|.q 1<|.nil) (.dx 9 [0,1,2,3,4,5,6,7,8] [] []<|.q 1<|.q 1<|.c (sR n (n / 10) ih) []<|.q 1<|.q 1<|.q 1<|.q 1<|.h (.o5 24 (uN ((UInt8.ofNat (48+n % 10)).toNat)))<|.bs<|.K6 [(UInt8.ofNat (48+n % 10))]<|.q 2<|.nil))))
  (Br (s8 (n:Int) (-9223372036854775807)) (Q (sV ([45,57,50,50,51,51,55,50,48,51,54,56,53,52,55,55,53,56,48,56]:BL)) (sV (dw n))) (Br (s8 (n:Int) 0) (m9 (-(n:Int))/\(([iV (-(n:Int))]:List V)=[iN (Int.toNat (-(n:Int)))])/\(((Int.toNat (-(n:Int)))<n)/\((Int.toNat (-(n:Int)))<=1000000))/\(([45]:BL).length+(dw (Int.toNat (-(n:Int)))).length<=4611686018427387904)/\Q (sV (([45]:BL)++(dw (Int.toNat (-(n:Int)))))) (sV (dw n))) (Br (s8 (n:Int) 10) (m9 (48+(n:Int))/\Ot ((48+n:Nat):Int)/\Q (uN (48+n)) (uN ((UInt8.ofNat (48+n)).toNat))/\(True)/\([uN ((UInt8.ofNat (48+n)).toNat)]=[(UInt8.ofNat (48+n))].map n6)/\Q (sV [(UInt8.ofNat (48+n))]) (sV (dw n))) (((0:Int)<=(n:Int)/\(0:Int)<10/\m9 (n:Int))/\(sR n (n / 10) ih).sm/\(((n / 10)<n)/\((n / 10)<=1000000))/\((0:Int)<=(n:Int)/\(0:Int)<10)/\m9 (48+((n % 10:Nat):Int))/\Ot ((48+(n % 10):Nat):Int)/\Q (uN (48+(n % 10))) (uN ((UInt8.ofNat (48+n % 10)).toNat))/\([uN ((UInt8.ofNat (48+n % 10)).toNat)]=[(UInt8.ofNat (48+n % 10))].map n6)/\((dw (n / 10)).length+([(UInt8.ofNat (48+n % 10))]:BL).length<=4611686018427387904)/\Q (sV ((dw (n / 10))++[(UInt8.ofNat (48+n % 10))])) (sV (dw n)))))) ?_
 refine bI (fun j9=>?_) fun j9=>?_
 exfalso;omega
 refine bI (fun l6=>?_) fun l6=>?_
 exfalso;omega
 refine bI (fun n0=>?_) fun n0=>?_
 refine⟨Z9,Z9,by exact GP Z9,trivial,rfl,?_⟩
 unfold Q
 rw[show dw n=[UInt8.ofNat (48+n)] from by rw[dw,if_pos Z9]]
 refine⟨Z9,rfl,⟨Z9,Z9⟩,Z9,Z9,Z9,by exact GP Z9,rfl,by have:=qc (n / 10) Z9;simp;omega,?_⟩
 unfold Q
 rw[show dw n=dw (n / 10)++[UInt8.ofNat (48+n % 10)] from by rw[dw,if_neg Z9]]
def rG(n:Nat):o8 Tryz.prog:={ f:=56,args:=[iN n],H:=[],pre:=(n<=1000000),res:=sV (dw n),H':=[],ok:=fun h=>FR n h }
theorem Kn{l:List Int}{i:Nat}(h:i<l.length):Ex (i:Int) (l.map iV) (iV (l.getD i 0)):=⟨Int.natCast_nonneg _,by simp[List.getD_eq_getElem?_getD,h]⟩
def uU(gs:List l3):G4 Tryz.prog:=.mk Bool 129 [bn gs] [] ((gs.length<=4)/\(∀ y,y∈gs->B6 y)) (fun x=>True) (fun x=>bV x) (fun x=>[]) (by
 rintro⟨hl,hg⟩
 refine fc (N:=94) (rs:=[.tmp 2]) (X:=Bool) (post:=fun x=>True) (E:=fun x=>bV x) (H':=fun x=>[]) Tryz.func129 Z7 rfl rfl rfl Z7 [] (by intro _ k hk;simpa[lk] using hk)
  (.q 1<|.q 1<|.q 1<|.loop (Nat×Nat) (fun (i,m)=>⟨[(0,bn gs),(3,iN m),(4,iN i)],[]⟩) (fun (i,m)=>i<=gs.length/\m<=10*i) (fun (i,m)=>gs.length-i) (fun (i,m)=>.q 4<|.br (.r 4 [dP ((gs.getD i (⟨[],[],0⟩:l3)).na) ((gs.getD i (⟨[],[],0⟩:l3)).ru) ((gs.getD i (⟨[],[],0⟩:l3)).wa)]<|.al gO (fun g5=>.st none<|.r 24 [.c9,.c9,.c9,.c9,.c9]<|.cg (lM (((gs.getD i (⟨[],[],0⟩:l3)).wa:Nat):Int) (0:Int) (20:Int))<|.q 2<|.br (.q 1<|.nil) (.q 1<|.loop (Nat) (fun (k:Nat)=>⟨[(0,bn gs),(3,iN m),(4,iN i),(5,.ptr (.key 5) [] g5 0),(6,iN k)],[(5,(g5,dP ((gs.getD i (⟨[],[],0⟩:l3)).na) ((gs.getD i (⟨[],[],0⟩:l3)).ru) ((gs.getD i (⟨[],[],0⟩:l3)).wa)))]⟩) (fun (k:Nat)=>k<=(gs.getD i ⟨[],[],0⟩).na.length) (fun (k:Nat)=>(gs.getD i ⟨[],[],0⟩).na.length-k) (fun (k:Nat)=>.r 5 [.c9]<|.br (.r 12 [.c9,sV (((gs.getD i (⟨[],[],0⟩:l3)).na).getD k []),.c9,sV (((gs.getD i (⟨[],[],0⟩:l3)).na).getD k [])]<|.cg (pk (((gs.getD i (⟨[],[],0⟩:l3)).na).getD k []))<|.q 2<|.br (.q 1<|.nil) (.q 3<|.nil)) (.q 1<|.loop (Nat) (fun (k:Nat)=>⟨[(0,bn gs),(3,iN m),(4,iN i),(5,.ptr (.key 5) [] g5 0),(7,iN k)],[(5,(g5,dP ((gs.getD i (⟨[],[],0⟩:l3)).na) ((gs.getD i (⟨[],[],0⟩:l3)).ru) ((gs.getD i (⟨[],[],0⟩:l3)).wa)))]⟩) (fun (k:Nat)=>k<=(gs.getD i ⟨[],[],0⟩).ru.length) (fun (k:Nat)=>(gs.getD i ⟨[],[],0⟩).ru.length-k) (fun (k:Nat)=>.r 5 [.c9]<|.br (.r 6 [.c9,.agg [bV ((((gs.getD i (⟨[],[],0⟩:l3)).ru).getD k (⟨false,[]⟩:o9)).C8),sV ((((gs.getD i (⟨[],[],0⟩:l3)).ru).getD k (⟨false,[]⟩:o9)).path)]]<|.c (yj ((((gs.getD i (⟨[],[],0⟩:l3)).ru).getD k (⟨false,[]⟩:o9)).path)) []<|.q 1<|.br (.q 1<|.nil) (.q 3<|.nil)) (.r 11 [.c9,.c9]<|.q 3<|.nil))))))) (.q 3<|.nil)))
  ((fun v1:BL=>((∃ x:Nat×Nat,match x with | (j7,MZ)=>(j7<=gs.length/\MZ<=10*j7)/\E (bn gs)/\Q (iN 0) (iN MZ)/\Q (iN 0) (iN j7)/\True)/\∀ x:Nat×Nat,match x with | (i,m)=>(i<=gs.length/\m<=10*i)->(fun v2:Int=>(fun v3:Int=>(fun v4:V=>(fun v5:Int=>(fun v6:Bool=>(fun v7:Bool=>(fun v8:Bool=>Br (s8 (i:Int) (((gs.map bM).length:Nat):Int)) (Ex (i:Int) (gs.map bM) v4/\True/\∀ g5:Nat,(fun v9:V=>Z g5 0/\Z g5 0/\Gd v7 (Z g5 1)/\Gd (v7&&((o6 v2 0)==true)) (Z g5 2)/\Gd v7 (Pk (o6 v2 0) (v7&&((o6 v2 0)==true)) true)/\Pk (o6 v3 0) true v7/\Gd v8 (Z g5 1)/\Pk ((o6 v3 0)||((o6 v2 0)&&(o6 v5 0))) true v8/\Gd v6 (Z g5 2)/\Gd v6 ((True)/\(lM v5 (0:Int) (20:Int)).sm)/\Pk (((o6 v3 0)||((o6 v2 0)&&(o6 v5 0)))||(s9 v2 6)) true v6/\Br ((((o6 v3 0)||((o6 v2 0)&&(o6 v5 0)))||(s9 v2 6))||(!(y8 v5 (0:Int) (20:Int)))) (∃ x:Bool,(True)/\Q (bV false) (bV x)) ((∃ s5:Nat,(s5<=(gs.getD i ⟨[],[],0⟩).na.length)/\E (bn gs)/\E (iN m)/\E (iN i)/\E v9/\Q (iN 0) (iN s5)/\Er g5 v4/\True)/\∀ k:Nat,(k<=(gs.getD i ⟨[],[],0⟩).na.length)->Z g5 0/\Br (s8 (k:Int) v3) (Z g5 0/\Ex (k:Int) (((gs.getD i (⟨[],[],0⟩:l3)).na).map sV) (sV (((gs.getD i (⟨[],[],0⟩:l3)).na).getD k []))/\True/\Gd ((!((((gs.getD i (⟨[],[],0⟩:l3)).na).getD k [])==v1))==true) (Z g5 0)/\Gd ((!((((gs.getD i (⟨[],[],0⟩:l3)).na).getD k [])==v1))==true) (Ex (k:Int) (((gs.getD i (⟨[],[],0⟩:l3)).na).map sV) (sV (((gs.getD i (⟨[],[],0⟩:l3)).na).getD k [])))/\Gd ((!((((gs.getD i (⟨[],[],0⟩:l3)).na).getD k [])==v1))==true) True/\Gd ((!((((gs.getD i (⟨[],[],0⟩:l3)).na).getD k [])==v1))==true) ((((((gs.getD i (⟨[],[],0⟩:l3)).na).getD k []).length<=4611686018427387904))/\(pk (((gs.getD i (⟨[],[],0⟩:l3)).na).getD k [])).sm)/\Pk (!((((gs.getD i (⟨[],[],0⟩:l3)).na).getD k [])==v1)) ((!((((gs.getD i (⟨[],[],0⟩:l3)).na).getD k [])==v1))==true) true/\Br ((!((((gs.getD i (⟨[],[],0⟩:l3)).na).getD k [])==v1))&&(!(bh (((gs.getD i (⟨[],[],0⟩:l3)).na).getD k [])))) (∃ x:Bool,(True)/\Q (bV false) (bV x)) (m9 ((k:Int)+1)/\∃ k₂:Nat,(k₂<=(gs.getD i ⟨[],[],0⟩).na.length)/\((gs.getD i ⟨[],[],0⟩).na.length-k₂<(gs.getD i ⟨[],[],0⟩).na.length-k)/\E (bn gs)/\E (iN m)/\E (iN i)/\E v9/\Q (iN (k+1)) (iN k₂)/\Er g5 v4/\True)) ((∃ s5:Nat,(s5<=(gs.getD i ⟨[],[],0⟩).ru.length)/\E (bn gs)/\E (iN m)/\E (iN i)/\E v9/\Q (iN 0) (iN s5)/\Er g5 v4/\True)/\∀ k:Nat,(k<=(gs.getD i ⟨[],[],0⟩).ru.length)->Z g5 1/\Br (s8 (k:Int) v2) (Z g5 1/\Ex (k:Int) (((gs.getD i (⟨[],[],0⟩:l3)).ru).map au) (.agg [bV ((((gs.getD i (⟨[],[],0⟩:l3)).ru).getD k (⟨false,[]⟩:o9)).C8),sV ((((gs.getD i (⟨[],[],0⟩:l3)).ru).getD k (⟨false,[]⟩:o9)).path)])/\True/\(yj ((((gs.getD i (⟨[],[],0⟩:l3)).ru).getD k (⟨false,[]⟩:o9)).path)).sm/\((((((gs.getD i (⟨[],[],0⟩:l3)).ru).getD k (⟨false,[]⟩:o9)).path).length<=4611686018427387904))/\Br (!(aO ((((gs.getD i (⟨[],[],0⟩:l3)).ru).getD k (⟨false,[]⟩:o9)).path))) (∃ x:Bool,(True)/\Q (bV false) (bV x)) (m9 ((k:Int)+1)/\∃ k₂:Nat,(k₂<=(gs.getD i ⟨[],[],0⟩).ru.length)/\((gs.getD i ⟨[],[],0⟩).ru.length-k₂<(gs.getD i ⟨[],[],0⟩).ru.length-k)/\E (bn gs)/\E (iN m)/\E (iN i)/\E v9/\Q (iN (k+1)) (iN k₂)/\Er g5 v4/\True)) (Z g5 0/\m9 ((m:Int)+v3)/\Z g5 1/\m9 (((m+((((gs.getD i (⟨[],[],0⟩:l3)).na).map sV).length):Nat):Int)+v2)/\m9 ((((m+((((gs.getD i (⟨[],[],0⟩:l3)).na).map sV).length))+((((gs.getD i (⟨[],[],0⟩:l3)).ru).map au).length):Nat):Int)+1)/\m9 ((i:Int)+1)/\∃ x:Nat×Nat,match x with | (c5,m₂)=>(c5<=gs.length/\m₂<=10*c5)/\(gs.length-c5<gs.length-i)/\E (bn gs)/\Q (iN (((m+((((gs.getD i (⟨[],[],0⟩:l3)).na).map sV).length))+((((gs.getD i (⟨[],[],0⟩:l3)).ru).map au).length))+1)) (iN m₂)/\Q (iN (i+1)) (iN c5)/\True)))) (.ptr (.key 5) [] g5 0)) (∃ x:Bool,(True)/\Q (bV (D2 (m:Int) 40)) (bV x))) (((o6 v3 0)||((o6 v2 0)&&(o6 v5 0)))==false)) ((o6 v3 0)==false)) ((((o6 v3 0)||((o6 v2 0)&&(o6 v5 0)))||(s9 v2 6))==false)) (((gs.getD i (⟨[],[],0⟩:l3)).wa:Nat):Int)) (dP ((gs.getD i (⟨[],[],0⟩:l3)).na) ((gs.getD i (⟨[],[],0⟩:l3)).ru) ((gs.getD i (⟨[],[],0⟩:l3)).wa))) (((((gs.getD i (⟨[],[],0⟩:l3)).na).map sV).length:Nat):Int)) (((((gs.getD i (⟨[],[],0⟩:l3)).ru).map au).length:Nat):Int))) ([42]:BL))
  Z7 ?_
 refine⟨⟨(0,0),?_,rfl,rfl,rfl,trivial⟩,?_⟩
 simp
 rintro⟨i,m⟩ ⟨h1,h2⟩
 have I1:=rS hg i
 have S0:=I1.nl
 have SZ:=I1.rl
 have hn3:=I1.w
 refine bI (fun j9=>?_) fun j9=>?_
 refine⟨⟨Z9,an (d:=(⟨[],[],0⟩:l3)) Z9⟩,trivial,?_⟩
 intro g5
 refine⟨rfl,rfl,fun hG=>rfl,fun hG=>rfl,fun hG=>⟨fun h=>by rw[h];exact(Bool.and_eq_true _ _).mpr ⟨hG,rfl⟩,fun _=>rfl⟩,⟨fun _=>rfl,fun h=>by rw[h] <;> rfl⟩,fun hG=>rfl,⟨fun _=>rfl,fun h=>by rw[h] <;> rfl⟩,fun hG=>rfl,fun hG=>⟨trivial,rfl⟩,⟨fun _=>rfl,fun h=>by rw[h] <;> rfl⟩,?_⟩
 refine bI (fun l6=>?_) fun l6=>?_
 refine⟨false,?_,?_⟩
 try dsimp only
 skip
 first | rfl | simp_all
 refine⟨⟨0,?_,rfl,rfl,rfl,rfl,rfl,rfl,trivial⟩,?_⟩
 simp
 rintro k h3
 refine⟨rfl,?_⟩
 refine bI (fun n0=>?_) fun n0=>?_
 refine⟨rfl,⟨Z9,an (d:=[]) Z9⟩,trivial,fun hG=>rfl,fun hG=>⟨Z9,an (d:=[]) Z9⟩,fun hG=>trivial,fun hG=>⟨by(try simp only[nb]at hG);have:=fM (gs:=gs) hg i k;omega,rfl⟩,⟨fun h=>by rw[h] <;> rfl,fun _=>rfl⟩,?_⟩
 refine bI (fun w5=>?_) fun w5=>?_
 refine⟨false,?_,?_⟩
 try dsimp only
 skip
 first | rfl | simp_all
 refine⟨Z9,?_⟩
 refine⟨k+1,?_,?_,rfl,rfl,rfl,rfl,rfl,rfl,trivial⟩
 (try simp only[List.length_append,List.length_cons,List.length_nil,List.length_map]);omega
 exact Z1
 refine⟨⟨0,?_,rfl,rfl,rfl,rfl,rfl,rfl,trivial⟩,?_⟩
 simp
 rintro k h3
 refine⟨rfl,?_⟩
 refine bI (fun G0=>?_) fun G0=>?_
 refine⟨rfl,⟨Z9,an (d:=(⟨false,[]⟩:o9)) Z9⟩,trivial,rfl,by have:=fQ (gs:=gs) hg i k;omega,?_⟩
 refine bI (fun Mp=>?_) fun Mp=>?_
 refine⟨false,?_,?_⟩
 try dsimp only
 skip
 first | rfl | simp_all
 refine⟨Z9,?_⟩
 refine⟨k+1,?_,?_,rfl,rfl,rfl,rfl,rfl,rfl,trivial⟩
 (try simp only[List.length_append,List.length_cons,List.length_nil,List.length_map]);omega
 exact Z1
 refine⟨rfl,Z2,rfl,Z2,Z2,Z9,?_⟩
 refine⟨(i+1,((m+((((gs.getD i (⟨[],[],0⟩:l3)).na).map sV).length))+((((gs.getD i (⟨[],[],0⟩:l3)).ru).map au).length))+1),?_,?_,rfl,rfl,rfl,trivial⟩
 refine⟨Z9,?_⟩
 (try simp only[List.length_append,List.length_cons,List.length_nil,List.length_map]);omega
 exact Z1
 refine⟨D2 (m:Int) 40,?_,?_⟩
 try dsimp only
 skip
 first | rfl | simp_all)
def qw(gs:List l3):G4 Tryz.prog:=.mk BL 91 [bn gs] [] ((gs.length<=4)/\(∀ y,y∈gs->B6 y)) (fun x=>x.length<=1000/\m4 x) (fun x=>sV x) (fun x=>[]) (by
 rintro⟨hl,hg⟩
 refine fc (N:=89) (rs:=[.tmp 2]) (X:=BL) (post:=fun x=>x.length<=1000/\m4 x) (E:=fun x=>sV x) (H':=fun x=>[]) Tryz.func91 Z7 rfl rfl rfl Z7 [] (by intro _ k hk;simpa[lk] using hk)
  (.q 1<|.q 1<|.cx (uU gs) [] (fun (j8:Bool)=>.q 1<|.br (.q 1<|.nil) (.q 1<|.q 1<|.loop (Nat×BL) (fun (i,o)=>⟨[(0,bn gs),(3,sV o),(4,iN i)],[]⟩) (fun (i,o)=>i<=gs.length/\o.length<=200*i/\m4 o) (fun (i,o)=>gs.length-i) (fun (i,o)=>.q 4<|.br (.q 1<|.loop (Nat×BL) (fun (k,q)=>⟨[(0,bn gs),(3,sV q),(4,iN i),(5,iN k)],[]⟩) (fun (k,q)=>k<=(gs.getD i ⟨[],[],0⟩).na.length/\q.length<=200*i+20*k/\m4 q) (fun (k,q)=>(gs.getD i ⟨[],[],0⟩).na.length-k) (fun (k,q)=>.r 8 [dP ((gs.getD i (⟨[],[],0⟩:l3)).na) ((gs.getD i (⟨[],[],0⟩:l3)).ru) ((gs.getD i (⟨[],[],0⟩:l3)).wa)]<|.br (.r 13 [dP ((gs.getD i (⟨[],[],0⟩:l3)).na) ((gs.getD i (⟨[],[],0⟩:l3)).ru) ((gs.getD i (⟨[],[],0⟩:l3)).wa),sV (((gs.getD i (⟨[],[],0⟩:l3)).na).getD k [])]<|.q 3<|.nil) (.q 1<|.loop (Nat×BL) (fun (l,r)=>⟨[(0,bn gs),(3,sV r),(4,iN i),(6,iN l)],[]⟩) (fun (l,r)=>l<=(gs.getD i ⟨[],[],0⟩).ru.length/\r.length<=200*i+40+20*l/\m4 r) (fun (l,r)=>(gs.getD i ⟨[],[],0⟩).ru.length-l) (fun (l,r)=>.r 8 [dP ((gs.getD i (⟨[],[],0⟩:l3)).na) ((gs.getD i (⟨[],[],0⟩:l3)).ru) ((gs.getD i (⟨[],[],0⟩:l3)).wa)]<|.br (.q 1<|.r 9 [dP ((gs.getD i (⟨[],[],0⟩:l3)).na) ((gs.getD i (⟨[],[],0⟩:l3)).ru) ((gs.getD i (⟨[],[],0⟩:l3)).wa),.agg [bV ((((gs.getD i (⟨[],[],0⟩:l3)).ru).getD l (⟨false,[]⟩:o9)).C8),sV ((((gs.getD i (⟨[],[],0⟩:l3)).ru).getD l (⟨false,[]⟩:o9)).path)]]<|.br (.q 1<|.r 15 [dP ((gs.getD i (⟨[],[],0⟩:l3)).na) ((gs.getD i (⟨[],[],0⟩:l3)).ru) ((gs.getD i (⟨[],[],0⟩:l3)).wa),.agg [bV ((((gs.getD i (⟨[],[],0⟩:l3)).ru).getD l (⟨false,[]⟩:o9)).C8),sV ((((gs.getD i (⟨[],[],0⟩:l3)).ru).getD l (⟨false,[]⟩:o9)).path)]]<|.q 3<|.nil) (.r 15 [dP ((gs.getD i (⟨[],[],0⟩:l3)).na) ((gs.getD i (⟨[],[],0⟩:l3)).ru) ((gs.getD i (⟨[],[],0⟩:l3)).wa),.agg [bV ((((gs.getD i (⟨[],[],0⟩:l3)).ru).getD l (⟨false,[]⟩:o9)).C8),sV ((((gs.getD i (⟨[],[],0⟩:l3)).ru).getD l (⟨false,[]⟩:o9)).path)]]<|.q 3<|.nil)) (.r 6 [dP ((gs.getD i (⟨[],[],0⟩:l3)).na) ((gs.getD i (⟨[],[],0⟩:l3)).ru) ((gs.getD i (⟨[],[],0⟩:l3)).wa)]<|.br (.r 7 [dP ((gs.getD i (⟨[],[],0⟩:l3)).na) ((gs.getD i (⟨[],[],0⟩:l3)).ru) ((gs.getD i (⟨[],[],0⟩:l3)).wa)]<|.c (rG ((gs.getD i (⟨[],[],0⟩:l3)).wa)) []<|.q 3<|.q 3<|.nil) (.q 3<|.nil)))))) (.q 2<|.nil)))))
  ((fun v1:BL=>(fun v2:BL=>(fun v3:BL=>(fun v4:BL=>(fun v5:BL=>((uU gs).sm/\((gs.length<=4)/\(∀ y,y∈gs->B6 y))/\∀ j8:Bool,(True)->Br (!j8) (∃ x:BL,(x.length<=1000/\m4 x)/\Q (sV []) (sV x)) ((∃ x:Nat×BL,match x with | (j7,u7)=>(j7<=gs.length/\u7.length<=200*j7/\m4 u7)/\E (bn gs)/\Q (sV []) (sV u7)/\Q (iN 0) (iN j7)/\True)/\∀ x:Nat×BL,match x with | (i,o)=>(i<=gs.length/\o.length<=200*i/\m4 o)->(fun v6:V=>Br (s8 (i:Int) (((gs.map bM).length:Nat):Int)) ((∃ x:Nat×BL,match x with | (s5,A3)=>(s5<=(gs.getD i ⟨[],[],0⟩).na.length/\A3.length<=200*i+20*s5/\m4 A3)/\E (bn gs)/\Q (sV o) (sV A3)/\E (iN i)/\Q (iN 0) (iN s5)/\True)/\∀ x:Nat×BL,match x with | (k,q)=>(k<=(gs.getD i ⟨[],[],0⟩).na.length/\q.length<=200*i+20*k/\m4 q)->Ex (i:Int) (gs.map bM) v6/\True/\Br (s8 (k:Int) (((((gs.getD i (⟨[],[],0⟩:l3)).na).map sV).length:Nat):Int)) ((q.length+v1.length<=4611686018427387904)/\Ex (i:Int) (gs.map bM) v6/\True/\Ex (k:Int) (((gs.getD i (⟨[],[],0⟩:l3)).na).map sV) (sV (((gs.getD i (⟨[],[],0⟩:l3)).na).getD k []))/\True/\((q++v1).length+(((gs.getD i (⟨[],[],0⟩:l3)).na).getD k []).length<=4611686018427387904)/\(((q++v1)++(((gs.getD i (⟨[],[],0⟩:l3)).na).getD k [])).length+v2.length<=4611686018427387904)/\m9 ((k:Int)+1)/\∃ x:Nat×BL,match x with | (k₂,o4)=>(k₂<=(gs.getD i ⟨[],[],0⟩).na.length/\o4.length<=200*i+20*k₂/\m4 o4)/\((gs.getD i ⟨[],[],0⟩).na.length-k₂<(gs.getD i ⟨[],[],0⟩).na.length-k)/\E (bn gs)/\Q (sV (((q++v1)++(((gs.getD i (⟨[],[],0⟩:l3)).na).getD k []))++v2)) (sV o4)/\E (iN i)/\Q (iN (k+1)) (iN k₂)/\True) ((∃ x:Nat×BL,match x with | (MI,LS)=>(MI<=(gs.getD i ⟨[],[],0⟩).ru.length/\LS.length<=200*i+40+20*MI/\m4 LS)/\E (bn gs)/\Q (sV q) (sV LS)/\E (iN i)/\Q (iN 0) (iN MI)/\True)/\∀ x:Nat×BL,match x with | (l,r)=>(l<=(gs.getD i ⟨[],[],0⟩).ru.length/\r.length<=200*i+40+20*l/\m4 r)->(fun v7:V=>Ex (i:Int) (gs.map bM) v6/\True/\Br (s8 (l:Int) (((((gs.getD i (⟨[],[],0⟩:l3)).ru).map au).length:Nat):Int)) (Ex (i:Int) (gs.map bM) v6/\True/\Ex (l:Int) (((gs.getD i (⟨[],[],0⟩:l3)).ru).map au) v7/\True/\Br ((((gs.getD i (⟨[],[],0⟩:l3)).ru).getD l (⟨false,[]⟩:o9)).C8) ((r.length+v4.length<=4611686018427387904)/\Ex (i:Int) (gs.map bM) v6/\True/\Ex (l:Int) (((gs.getD i (⟨[],[],0⟩:l3)).ru).map au) v7/\True/\((r++v4).length+((((gs.getD i (⟨[],[],0⟩:l3)).ru).getD l (⟨false,[]⟩:o9)).path).length<=4611686018427387904)/\(((r++v4)++((((gs.getD i (⟨[],[],0⟩:l3)).ru).getD l (⟨false,[]⟩:o9)).path)).length+v2.length<=4611686018427387904)/\m9 ((l:Int)+1)/\∃ x:Nat×BL,match x with | (E5,B9)=>(E5<=(gs.getD i ⟨[],[],0⟩).ru.length/\B9.length<=200*i+40+20*E5/\m4 B9)/\((gs.getD i ⟨[],[],0⟩).ru.length-E5<(gs.getD i ⟨[],[],0⟩).ru.length-l)/\E (bn gs)/\Q (sV (((r++v4)++((((gs.getD i (⟨[],[],0⟩:l3)).ru).getD l (⟨false,[]⟩:o9)).path))++v2)) (sV B9)/\E (iN i)/\Q (iN (l+1)) (iN E5)/\True) ((r.length+v5.length<=4611686018427387904)/\Ex (i:Int) (gs.map bM) v6/\True/\Ex (l:Int) (((gs.getD i (⟨[],[],0⟩:l3)).ru).map au) v7/\True/\((r++v5).length+((((gs.getD i (⟨[],[],0⟩:l3)).ru).getD l (⟨false,[]⟩:o9)).path).length<=4611686018427387904)/\(((r++v5)++((((gs.getD i (⟨[],[],0⟩:l3)).ru).getD l (⟨false,[]⟩:o9)).path)).length+v2.length<=4611686018427387904)/\m9 ((l:Int)+1)/\∃ x:Nat×BL,match x with | (E5,B9)=>(E5<=(gs.getD i ⟨[],[],0⟩).ru.length/\B9.length<=200*i+40+20*E5/\m4 B9)/\((gs.getD i ⟨[],[],0⟩).ru.length-E5<(gs.getD i ⟨[],[],0⟩).ru.length-l)/\E (bn gs)/\Q (sV (((r++v5)++((((gs.getD i (⟨[],[],0⟩:l3)).ru).getD l (⟨false,[]⟩:o9)).path))++v2)) (sV B9)/\E (iN i)/\Q (iN (l+1)) (iN E5)/\True)) (Ex (i:Int) (gs.map bM) v6/\True/\Br (s9 (((gs.getD i (⟨[],[],0⟩:l3)).wa:Nat):Int) 0) ((r.length+v3.length<=4611686018427387904)/\Ex (i:Int) (gs.map bM) v6/\True/\(rG ((gs.getD i (⟨[],[],0⟩:l3)).wa)).sm/\((((gs.getD i (⟨[],[],0⟩:l3)).wa)<=1000000))/\((r++v3).length+(dw ((gs.getD i (⟨[],[],0⟩:l3)).wa)).length<=4611686018427387904)/\(((r++v3)++(dw ((gs.getD i (⟨[],[],0⟩:l3)).wa))).length+v2.length<=4611686018427387904)/\m9 ((i:Int)+1)/\∃ x:Nat×BL,match x with | (c5,l9)=>(c5<=gs.length/\l9.length<=200*c5/\m4 l9)/\(gs.length-c5<gs.length-i)/\E (bn gs)/\Q (sV (((r++v3)++(dw ((gs.getD i (⟨[],[],0⟩:l3)).wa)))++v2)) (sV l9)/\Q (iN (i+1)) (iN c5)/\True) (m9 ((i:Int)+1)/\∃ x:Nat×BL,match x with | (c5,l9)=>(c5<=gs.length/\l9.length<=200*c5/\m4 l9)/\(gs.length-c5<gs.length-i)/\E (bn gs)/\Q (sV r) (sV l9)/\Q (iN (i+1)) (iN c5)/\True))) (.agg [bV ((((gs.getD i (⟨[],[],0⟩:l3)).ru).getD l (⟨false,[]⟩:o9)).C8),sV ((((gs.getD i (⟨[],[],0⟩:l3)).ru).getD l (⟨false,[]⟩:o9)).path)]))) (∃ x:BL,(x.length<=1000/\m4 x)/\Q (sV o) (sV x))) (dP ((gs.getD i (⟨[],[],0⟩:l3)).na) ((gs.getD i (⟨[],[],0⟩:l3)).ru) ((gs.getD i (⟨[],[],0⟩:l3)).wa))))) ([98,97,114,32]:BL)) ([108,101,116,32]:BL)) ([119,97,105,116,32]:BL)) ([10]:BL)) ([99,97,108,108,101,114,32]:BL))
  Z7 ?_
 refine⟨rfl,⟨hl,hg⟩,?_⟩
 intro j8 H5
 refine bI (fun j9=>?_) fun j9=>?_
 refine⟨[],?_,?_⟩
 try dsimp only
 exact⟨Z8,bb⟩
 first | rfl | simp_all
 · refine⟨⟨(0,[]),?_,rfl,rfl,rfl,trivial⟩,?_⟩
   exact⟨Z8,Z8,bb⟩
   rintro⟨i,o⟩ ⟨h1,h2,XS⟩
   have I1:=rS hg i
   have S0:=I1.nl
   have SZ:=I1.rl
   have hn3:=I1.w
   have hn4:=qc (gs.getD i ⟨[],[],0⟩).wa Z9
   refine bI (fun l6=>?_) fun l6=>?_
   · refine⟨⟨(0,o),?_,rfl,rfl,rfl,rfl,trivial⟩,?_⟩
     exact⟨Z9,Z9,XS⟩
     rintro⟨k,q⟩ ⟨h3,h4,h4b⟩
     have O3:=fM (gs:=gs) hg i k
     refine⟨⟨Z9,an (d:=(⟨[],[],0⟩:l3)) Z9⟩,trivial,?_⟩
     refine bI (fun n0=>?_) fun n0=>?_
     · refine⟨by(try have:=fM (gs:=gs) hg i k);(try have:=fQ (gs:=gs) hg i k);(try simp only[List.length_append,List.length_cons,List.length_nil]);omega,⟨Z9,an (d:=(⟨[],[],0⟩:l3)) Z9⟩,trivial,⟨Z9,an (d:=[]) Z9⟩,trivial,by(try have:=fM (gs:=gs) hg i k);(try have:=fQ (gs:=gs) hg i k);(try simp only[List.length_append,List.length_cons,List.length_nil]);omega,by(try have:=fM (gs:=gs) hg i k);(try have:=fQ (gs:=gs) hg i k);(try simp only[List.length_append,List.length_cons,List.length_nil]);omega,Z9,?_⟩
       refine⟨(k+1,((q++([99,97,108,108,101,114,32]:BL))++(((gs.getD i (⟨[],[],0⟩:l3)).na).getD k []))++([10]:BL)),?_,?_,rfl,rfl,rfl,rfl,trivial⟩
       · refine⟨Z9,?_,by(try dsimp only);repeat (first | assumption | exact bb | exact bF rfl | exact qY hg _ _ | exact qI hg _ _ | exact kS _ | apply m4.app)⟩
         (try simp only[List.length_append,List.length_cons,List.length_nil,List.length_map]);omega
       exact Z1
     · refine⟨⟨(0,q),?_,rfl,rfl,rfl,rfl,trivial⟩,?_⟩
       exact⟨Z9,Z9,h4b⟩
       rintro⟨l,r⟩ ⟨h5,h6,h6b⟩
       have LZ:=fQ (gs:=gs) hg i l
       refine⟨⟨Z9,an (d:=(⟨[],[],0⟩:l3)) Z9⟩,trivial,?_⟩
       refine bI (fun w5=>?_) fun w5=>?_
       · refine⟨⟨Z9,an (d:=(⟨[],[],0⟩:l3)) Z9⟩,trivial,⟨Z9,an (d:=(⟨false,[]⟩:o9)) Z9⟩,trivial,?_⟩
         refine bI (fun G0=>?_) fun G0=>?_
         · refine⟨by(try have:=fM (gs:=gs) hg i k);(try have:=fQ (gs:=gs) hg i k);(try simp only[List.length_append,List.length_cons,List.length_nil]);omega,⟨Z9,an (d:=(⟨[],[],0⟩:l3)) Z9⟩,trivial,⟨Z9,an (d:=(⟨false,[]⟩:o9)) Z9⟩,trivial,by(try have:=fM (gs:=gs) hg i k);(try have:=fQ (gs:=gs) hg i k);(try simp only[List.length_append,List.length_cons,List.length_nil]);omega,by(try have:=fM (gs:=gs) hg i k);(try have:=fQ (gs:=gs) hg i k);(try simp only[List.length_append,List.length_cons,List.length_nil]);omega,Z9,?_⟩
           refine⟨(l+1,((r++([108,101,116,32]:BL))++((((gs.getD i (⟨[],[],0⟩:l3)).ru).getD l (⟨false,[]⟩:o9)).path))++([10]:BL)),?_,?_,rfl,rfl,rfl,rfl,trivial⟩
           · refine⟨Z9,?_,by(try dsimp only);repeat (first | assumption | exact bb | exact bF rfl | exact qY hg _ _ | exact qI hg _ _ | exact kS _ | apply m4.app)⟩
             (try simp only[List.length_append,List.length_cons,List.length_nil,List.length_map]);omega
           exact Z1
         · refine⟨by(try have:=fM (gs:=gs) hg i k);(try have:=fQ (gs:=gs) hg i k);(try simp only[List.length_append,List.length_cons,List.length_nil]);omega,⟨Z9,an (d:=(⟨[],[],0⟩:l3)) Z9⟩,trivial,⟨Z9,an (d:=(⟨false,[]⟩:o9)) Z9⟩,trivial,by(try have:=fM (gs:=gs) hg i k);(try have:=fQ (gs:=gs) hg i k);(try simp only[List.length_append,List.length_cons,List.length_nil]);omega,by(try have:=fM (gs:=gs) hg i k);(try have:=fQ (gs:=gs) hg i k);(try simp only[List.length_append,List.length_cons,List.length_nil]);omega,Z9,?_⟩
           refine⟨(l+1,((r++([98,97,114,32]:BL))++((((gs.getD i (⟨[],[],0⟩:l3)).ru).getD l (⟨false,[]⟩:o9)).path))++([10]:BL)),?_,?_,rfl,rfl,rfl,rfl,trivial⟩
           · refine⟨Z9,?_,by(try dsimp only);repeat (first | assumption | exact bb | exact bF rfl | exact qY hg _ _ | exact qI hg _ _ | exact kS _ | apply m4.app)⟩
             (try simp only[List.length_append,List.length_cons,List.length_nil,List.length_map]);omega
           exact Z1
       · refine⟨⟨Z9,an (d:=(⟨[],[],0⟩:l3)) Z9⟩,trivial,?_⟩
         refine bI (fun Mp=>?_) fun Mp=>?_
         · refine⟨by(try have:=fM (gs:=gs) hg i k);(try have:=fQ (gs:=gs) hg i k);(try simp only[List.length_append,List.length_cons,List.length_nil]);omega,⟨Z9,an (d:=(⟨[],[],0⟩:l3)) Z9⟩,trivial,rfl,Z9,by(try have:=fM (gs:=gs) hg i k);(try have:=fQ (gs:=gs) hg i k);(try simp only[List.length_append,List.length_cons,List.length_nil]);omega,by(try have:=fM (gs:=gs) hg i k);(try have:=fQ (gs:=gs) hg i k);(try simp only[List.length_append,List.length_cons,List.length_nil]);omega,Z9,?_⟩
           refine⟨(i+1,((r++([119,97,105,116,32]:BL))++(dw ((gs.getD i (⟨[],[],0⟩:l3)).wa)))++([10]:BL)),?_,?_,rfl,rfl,rfl,trivial⟩
           · refine⟨Z9,?_,by(try dsimp only);repeat (first | assumption | exact bb | exact bF rfl | exact qY hg _ _ | exact qI hg _ _ | exact kS _ | apply m4.app)⟩
             (try simp only[List.length_append,List.length_cons,List.length_nil,List.length_map]);omega
           exact Z1
         · refine⟨Z9,?_⟩
           refine⟨(i+1,r),?_,?_,rfl,rfl,rfl,trivial⟩
           · refine⟨Z9,?_,by(try dsimp only);repeat (first | assumption | exact bb | exact bF rfl | exact qY hg _ _ | exact qI hg _ _ | exact kS _ | apply m4.app)⟩
             (try simp only[List.length_append,List.length_cons,List.length_nil,List.length_map]);omega
           exact Z1
   refine⟨o,?_,?_⟩
   try dsimp only
   exact⟨Z9,XS⟩
   first | rfl | simp_all)
abbrev fq(b:BL)(p:Nat)(g:Nat)(n:Nat)(e':List Pg)(q':Nat)(u':Nat)(f':Nat)(k':Nat):Prop:=e'.length+n<=12/\(1<=e'.length\/2<=n)/\(∀ y,y∈e'->m8 y)/\p<=q'/\q'+100*n<=p+1300
def uD(b:BL)(p:Nat)(g:Nat):G4 Tryz.prog:=.mk (List Pg×Nat) 53 [.ptr (.key 1000) [] g 0] [(1000,(g,av b p))] ((b.length<=2000)/\(p<=700000)) (fun x=>1<=x.1.length/\x.1.length<=12/\(∀ y,y∈x.1->m8 y)/\p<=x.2/\x.2<=p+1500) (fun x=>.ow 4 (x.1.map r5)) (fun x=>[(1000,(g,av b x.2))]) (by
 rintro⟨hb,hp⟩
 refine fc (N:=94) (rs:=[.tmp 2]) (X:=List Pg×Nat) (post:=fun x=>1<=x.1.length/\x.1.length<=12/\(∀ y,y∈x.1->m8 y)/\p<=x.2/\x.2<=p+1500) (E:=fun x=>.ow 4 (x.1.map r5)) (H':=fun x=>[(1000,(g,.agg [.sl false (b.map n6),iN x.2]))]) Tryz.func53 Z7 rfl rfl rfl Z7 [(1000,(0,.c9))] (by intro _ k hk;simpa[lk] using hk)
  (.q 1<|.bs<|.q 1<|.c (lF) []<|.q 1<|.q 1<|.h (.H4 3 4)<|.loop (Nat×(List Pg)×Nat×Nat×Nat×Nat) (fun (i,e,q,u,f,k)=>⟨[(0,.ptr (.key 1000) [] g 0),(3,.own 4 (e.map r5) u f k),(4,ay aP),(5,iN i)],[(1000,(g,av b q))]⟩) (fun (i,e,q,u,f,k)=>i<=4/\e.length<=i/\(∀ y,y∈e->m8 y)/\p<=q/\q<=p+90*i) (fun (i,e,q,u,f,k)=>4-i) (fun (i,e,q,u,f,k)=>.q 2<|.br (.q 1<|.cx (bf b q g 2) [(1000,1000)] (fun (D3:Nat)=>.q 1<|.br (.dx 16 [0,1,2,3,4,5,6,9,10,7,8,11,12,13,14,15] [(3,⟨false,[],some [],[23],[]⟩),(7,⟨true,[],some [1000],[27],[1000]⟩),(8,⟨true,[],some [],[28],[]⟩),(11,⟨true,[],some [1000],[31],[1000]⟩),(13,⟨false,[],some [],[33],[]⟩)] [(15,mN)]<|.q 1<|.q 1<|.r 1 [sV (aP.getD i [])]<|.q 1<|.q 1<|.q 1<|.q 1<|.bs<|.q 1<|.cx (sE b (q+1) g) [(1000,1000)] (fun (D8:List l3×Nat)=>.cx (qw D8.1) [] (fun (Nc:BL)=>.cx (bf b D8.2 g 6) [(1000,1000)] (fun (B7:Nat)=>.r 1 [iV ([0,0,0,1,2,5].getD B7 0)]<|.q 1<|.bd mN<|.ua (fun g6=>.st none<|.q 1<|.cx (bf b (D8.2+1) g 12) [(1000,1000)] (fun (Np:Nat)=>.q 1<|.join (Pg×Nat) (fun y=>⟨[(0,.ptr (.key 1000) [] g 0),(3,.own 4 (e.map r5) u f k),(4,ay aP),(5,iN i),(13,iN i),(14,bV (s8 (i:Int) 4)),(17,.ptr (.key 1000) [] g 0),(18,iN D3),(19,bV (o6 (D3:Int) 0)),(20,ay aP),(21,iN i),(22,.ep (sV (aP.getD i []))),(23,sV (aP.getD i [])),(24,sV (([47,47]:BL)++(aP.getD i []))),(25,sV ((([47,47]:BL)++(aP.getD i []))++([47,110,111,116,105,99,101]:BL))),(26,.ptr (.key 1000) [] g 0),(29,.sl true ([0,0,0,1,2,5].map iV)),(30,.ptr (.key 1000) [] g 0),(27,bn D8.1),(28,sV Nc),(31,iN B7),(32,.ep (iV ([0,0,0,1,2,5].getD B7 0))),(33,iV ([0,0,0,1,2,5].getD B7 0)),(34,.agg [sV ((([47,47]:BL)++(aP.getD i []))++([47,110,111,116,105,99,101]:BL)),sV Nc,sV [],iV ([0,0,0,1,2,5].getD B7 0)]),(6,.ptr (.key 6) [] g6 0),(35,.ptr (.key 1000) [] g 0),(36,iN Np),(37,bV (o6 (Np:Int) 0))],[(1000,(g,av b y.2)),(6,(g6,cn y.1.addr y.1.text y.1.lead y.1.m0))]⟩) (fun y=>y.1.addr.length<=30/\y.1.lead.length<=30/\y.1.text.length<=1000/\(0<=y.1.m0/\y.1.m0<=10)/\q<=y.2/\y.2<=q+80/\m4 y.1.addr/\m4 y.1.lead/\m4 y.1.text) (.q 1<|.st none<|.q 1<|.cx (eE b ((D8.2+1)+1) g) [(1000,1000)] (fun (E4:BL×Nat)=>.q 1<|.st none<|.nil)) (.nil) (fun y=>.r 4 [.c9]<|.br (.r 2 [.c9]<|.bs<|.ap (fun Sf RA Su=>.h (.o5 49 (.own 4 ((e++[y.1]).map r5) Sf RA Su))<|.q 1<|.q 3<|.nil)) (.q 3<|.nil)))))))) (.q 3<|.nil))) (.q 1<|.cx (bf b q g 7) [(1000,1000)] (fun (MW:Nat)=>.q 2<|.loop (Nat×(List Pg)×Nat×Nat×Nat×Nat) (fun (n,e',q',u',f',k')=>⟨[(0,.ptr (.key 1000) [] g 0),(3,.own 4 (e'.map r5) u' f' k'),(7,iN n)],[(1000,(g,av b q'))]⟩) (fun (n,e',q',u',f',k')=>fq b p g n e' q' u' f' k') (fun (n,e',q',u',f',k')=>n) (fun (n,e',q',u',f',k')=>.q 2<|.br (.q 1<|.cx (eE b q' g) [(1000,1000)] (fun (D0:BL×Nat)=>.q 1<|.cx (wz b D0.2 g) [(1000,1000)] (fun (y7:BL×Nat)=>.bs<|.q 1<|.cx (bf b y7.2 g 7) [(1000,1000)] (fun (B8:Nat)=>.r 2 [iV ([0,0,0,0,1,2,4].getD B8 0)]<|.bd mN<|.al mN (fun g8=>.st none<|.q 1<|.cx (bf b (y7.2+1) g 8) [(1000,1000)] (fun (L6:Nat)=>.q 1<|.join (Pg×Nat) (fun y=>⟨[(0,.ptr (.key 1000) [] g 0),(3,.own 4 (e'.map r5) u' f' k'),(7,iN n),(53,iN n),(54,bV (s9 (n:Int) 0)),(57,.ptr (.key 1000) [] g 0),(58,sV D0.1),(59,.ptr (.key 1000) [] g 0),(60,sV y7.1),(61,.sl true ([0,0,0,0,1,2,4].map iV)),(62,.ptr (.key 1000) [] g 0),(63,iN B8),(64,.ep (iV ([0,0,0,0,1,2,4].getD B8 0))),(65,iV ([0,0,0,0,1,2,4].getD B8 0)),(66,.agg [sV D0.1,sV y7.1,sV [],iV ([0,0,0,0,1,2,4].getD B8 0)]),(8,.ptr (.key 8) [] g8 0),(67,.ptr (.key 1000) [] g 0),(68,iN L6),(69,bV (o6 (L6:Int) 0))],[(1000,(g,av b y.2)),(8,(g8,cn y.1.addr y.1.text y.1.lead y.1.m0))]⟩) (fun y=>m8 y.1/\q'<=y.2/\y.2<=q'+90) (.q 1<|.st none<|.q 1<|.cx (eE b ((y7.2+1)+1) g) [(1000,1000)] (fun (LO:BL×Nat)=>.q 1<|.st none<|.nil)) (.nil) (fun y=>.r 3 [.c9]<|.cl (Hj e' y.1.addr)<|.q 3<|.al mN (fun g9=>.st none<|.q 1<|.r 8 [.c9]<|.br (.r 2 [.c9]<|.bs<|.ap (fun R6 Rr Sj=>.h (.o5 92 (.own 4 ((e'++[y.1]).map r5) R6 Rr Sj))<|.q 1<|.q 2<|.h (.o5 56 (iN (n-1)))<|.q 1<|.nil)) (.q 2<|.h (.o5 56 (iN (n-1)))<|.q 1<|.nil))))))))) (.q 2<|.h (.gM 2)<|.nil))))))
  ((fun v1:V=>(fun v2:BL=>(fun v3:BL=>(fun v4:V=>((lF).sm/\(True)/\(∃ x:Nat×(List Pg)×Nat×Nat×Nat×Nat,match x with | (j7,D4,A3,H3,z7,s5)=>(j7<=4/\D4.length<=j7/\(∀ y,y∈D4->m8 y)/\p<=A3/\A3<=p+90*j7)/\E v1/\Q (.own 4 ([].map r5) 0 0 0) (.own 4 (D4.map r5) H3 z7 s5)/\E v4/\Q (iN 0) (iN j7)/\Qr g (av b p) g (av b A3)/\True)/\∀ x:Nat×(List Pg)×Nat×Nat×Nat×Nat,match x with | (i,e,q,u,f,k)=>(i<=4/\e.length<=i/\(∀ y,y∈e->m8 y)/\p<=q/\q<=p+90*i)->(fun v5:V=>(fun v6:V=>Br (s8 (i:Int) 4) ((bf b q g 2).sm/\Er g (av b q)/\((b.length<=2000)/\(q<=1000000)/\(2<=1000000))/\∀ D3:Nat,(2=0/\D3=0\/D3<2)->Br (o6 (D3:Int) 0) (Ex (i:Int) (aP.map sV) v6/\True/\(v3.length+(aP.getD i []).length<=4611686018427387904)/\((v3++(aP.getD i [])).length+v2.length<=4611686018427387904)/\(sE b (q+1) g).sm/\Er g (av b (q+1))/\((b.length<=2000)/\((q+1)<=800000))/\∀ D8:List l3×Nat,(D8.1.length<=4/\(∀ y,y∈D8.1->B6 y)/\(q+1)<=D8.2/\D8.2<=(q+1)+60)->(qw D8.1).sm/\((D8.1.length<=4)/\(∀ y,y∈D8.1->B6 y))/\∀ Nc:BL,(Nc.length<=1000/\m4 Nc)->(bf b D8.2 g 6).sm/\Er g (av b D8.2)/\((b.length<=2000)/\(D8.2<=1000000)/\(6<=1000000))/\∀ B7:Nat,(6=0/\B7=0\/B7<6)->(fun v7:V=>Ex (B7:Int) ([0,0,0,1,2,5].map iV) (iV ([0,0,0,1,2,5].getD B7 0))/\True/\∀ g6:Nat,Z g6 0/\(bf b (D8.2+1) g 12).sm/\Er g (av b (D8.2+1))/\((b.length<=2000)/\((D8.2+1)<=1000000)/\(12<=1000000))/\∀ Np:Nat,(12=0/\Np=0\/Np<12)->(fun v8:Bool=>(v8=true->Z g6 1/\(eE b ((D8.2+1)+1) g).sm/\Er g (av b ((D8.2+1)+1))/\((b.length<=2000)/\(((D8.2+1)+1)<=900000))/\∀ E4:BL×Nat,(E4.1.length<=25/\((D8.2+1)+1)<=E4.2/\E4.2<=((D8.2+1)+1)+6/\m4 E4.1)->Z g6 2/\∃ y:Pg×Nat,(y.1.addr.length<=30/\y.1.lead.length<=30/\y.1.text.length<=1000/\(0<=y.1.m0/\y.1.m0<=10)/\q<=y.2/\y.2<=q+80/\m4 y.1.addr/\m4 y.1.lead/\m4 y.1.text)/\E v1/\E v5/\E v4/\E (iN i)/\E (iN i)/\E (bV (s8 (i:Int) 4))/\E v1/\E (iN D3)/\E (bV (o6 (D3:Int) 0))/\E v4/\E (iN i)/\E (.ep v6)/\E v6/\E (sV (v3++(aP.getD i [])))/\E (sV ((v3++(aP.getD i []))++v2))/\E v1/\E (.sl true ([0,0,0,1,2,5].map iV))/\E v1/\E (bn D8.1)/\E (sV Nc)/\E (iN B7)/\E (.ep (iV ([0,0,0,1,2,5].getD B7 0)))/\E (iV ([0,0,0,1,2,5].getD B7 0))/\E v7/\E (.ptr (.key 6) [] g6 0)/\E v1/\E (iN Np)/\E (bV v8)/\Qr g (av b E4.2) g (av b y.2)/\Qr g6 (.agg [sV ((v3++(aP.getD i []))++v2),sV [],sV E4.1,iV ([0,0,0,1,2,5].getD B7 0)]) g6 (cn y.1.addr y.1.text y.1.lead y.1.m0)/\True)/\(v8=false->∃ y:Pg×Nat,(y.1.addr.length<=30/\y.1.lead.length<=30/\y.1.text.length<=1000/\(0<=y.1.m0/\y.1.m0<=10)/\q<=y.2/\y.2<=q+80/\m4 y.1.addr/\m4 y.1.lead/\m4 y.1.text)/\E v1/\E v5/\E v4/\E (iN i)/\E (iN i)/\E (bV (s8 (i:Int) 4))/\E v1/\E (iN D3)/\E (bV (o6 (D3:Int) 0))/\E v4/\E (iN i)/\E (.ep v6)/\E v6/\E (sV (v3++(aP.getD i [])))/\E (sV ((v3++(aP.getD i []))++v2))/\E v1/\E (.sl true ([0,0,0,1,2,5].map iV))/\E v1/\E (bn D8.1)/\E (sV Nc)/\E (iN B7)/\E (.ep (iV ([0,0,0,1,2,5].getD B7 0)))/\E (iV ([0,0,0,1,2,5].getD B7 0))/\E v7/\E (.ptr (.key 6) [] g6 0)/\E v1/\E (iN Np)/\E (bV v8)/\Qr g (av b ((D8.2+1)+1)) g (av b y.2)/\Qr g6 v7 g6 (cn y.1.addr y.1.text y.1.lead y.1.m0)/\True)/\(∀ y:Pg×Nat,(y.1.addr.length<=30/\y.1.lead.length<=30/\y.1.text.length<=1000/\(0<=y.1.m0/\y.1.m0<=10)/\q<=y.2/\y.2<=q+80/\m4 y.1.addr/\m4 y.1.lead/\m4 y.1.text)->Z g6 1/\Br (D2 (y.1.text.length:Int) 300) (Z g6 0/\((4,4,u,f,k,(e.map r5).length)=(4,4,u,f,k,(e.map r5).length))/\(True)/\(V.aG ([cn y.1.addr y.1.text y.1.lead y.1.m0]:List V)=false)/\(aL 4 ([cn y.1.addr y.1.text y.1.lead y.1.m0]:List V))/\(((e.map r5).length+([cn y.1.addr y.1.text y.1.lead y.1.m0]:List V).length)*56<=140737488355328)/\∀ Sf RA Su:Nat,((.own 4 ((e.map r5)++([cn y.1.addr y.1.text y.1.lead y.1.m0]:List V)) Sf RA Su:V)=.own 4 ((e++[y.1]).map r5) Sf RA Su)/\m9 ((i:Int)+1)/\∃ x:Nat×(List Pg)×Nat×Nat×Nat×Nat,match x with | (c5,w8,o4,B4,r4,k₂)=>(c5<=4/\w8.length<=c5/\(∀ y,y∈w8->m8 y)/\p<=o4/\o4<=p+90*c5)/\(4-c5<4-i)/\E v1/\Q (.own 4 ((e++[y.1]).map r5) Sf RA Su) (.own 4 (w8.map r5) B4 r4 k₂)/\E v4/\Q (iN (i+1)) (iN c5)/\Qr g (av b y.2) g (av b o4)/\True) (m9 ((i:Int)+1)/\∃ x:Nat×(List Pg)×Nat×Nat×Nat×Nat,match x with | (c5,w8,o4,B4,r4,k₂)=>(c5<=4/\w8.length<=c5/\(∀ y,y∈w8->m8 y)/\p<=o4/\o4<=p+90*c5)/\(4-c5<4-i)/\E v1/\Q v5 (.own 4 (w8.map r5) B4 r4 k₂)/\E v4/\Q (iN (i+1)) (iN c5)/\Qr g (av b y.2) g (av b o4)/\True))) (o6 (Np:Int) 0)) (.agg [sV ((v3++(aP.getD i []))++v2),sV Nc,sV [],iV ([0,0,0,1,2,5].getD B7 0)])) (m9 ((i:Int)+1)/\∃ x:Nat×(List Pg)×Nat×Nat×Nat×Nat,match x with | (c5,w8,o4,B4,r4,k₂)=>(c5<=4/\w8.length<=c5/\(∀ y,y∈w8->m8 y)/\p<=o4/\o4<=p+90*c5)/\(4-c5<4-i)/\E v1/\Q v5 (.own 4 (w8.map r5) B4 r4 k₂)/\E v4/\Q (iN (i+1)) (iN c5)/\Qr g (av b (q+1)) g (av b o4)/\True)) ((bf b q g 7).sm/\Er g (av b q)/\((b.length<=2000)/\(q<=1000000)/\(7<=1000000))/\∀ MW:Nat,(7=0/\MW=0\/MW<7)->m9 (2+(MW:Int))/\(∃ x:Nat×(List Pg)×Nat×Nat×Nat×Nat,match x with | (J1,Si,Rq,Ro,Sh,RJ)=>(fq b p g J1 Si Rq Ro Sh RJ)/\E v1/\Q v5 (.own 4 (Si.map r5) Ro Sh RJ)/\Q (iN (2+MW)) (iN J1)/\Qr g (av b (q+1)) g (av b Rq)/\True)/\∀ x:Nat×(List Pg)×Nat×Nat×Nat×Nat,match x with | (n,e',q',u',f',k')=>(fq b p g n e' q' u' f' k')->(fun v9:V=>Br (s9 (n:Int) 0) ((eE b q' g).sm/\Er g (av b q')/\((b.length<=2000)/\(q'<=900000))/\∀ D0:BL×Nat,(D0.1.length<=25/\q'<=D0.2/\D0.2<=q'+6/\m4 D0.1)->(wz b D0.2 g).sm/\Er g (av b D0.2)/\((b.length<=2000)/\(D0.2<=880000))/\∀ y7:BL×Nat,(y7.1.length<=240/\D0.2<=y7.2/\y7.2<=D0.2+70/\m4 y7.1)->(bf b y7.2 g 7).sm/\Er g (av b y7.2)/\((b.length<=2000)/\(y7.2<=1000000)/\(7<=1000000))/\∀ B8:Nat,(7=0/\B8=0\/B8<7)->(fun v10:V=>Ex (B8:Int) ([0,0,0,0,1,2,4].map iV) (iV ([0,0,0,0,1,2,4].getD B8 0))/\True/\∀ g8:Nat,Z g8 0/\(bf b (y7.2+1) g 8).sm/\Er g (av b (y7.2+1))/\((b.length<=2000)/\((y7.2+1)<=1000000)/\(8<=1000000))/\∀ L6:Nat,(8=0/\L6=0\/L6<8)->(fun v11:Bool=>(v11=true->Z g8 1/\(eE b ((y7.2+1)+1) g).sm/\Er g (av b ((y7.2+1)+1))/\((b.length<=2000)/\(((y7.2+1)+1)<=900000))/\∀ LO:BL×Nat,(LO.1.length<=25/\((y7.2+1)+1)<=LO.2/\LO.2<=((y7.2+1)+1)+6/\m4 LO.1)->Z g8 2/\∃ y:Pg×Nat,(m8 y.1/\q'<=y.2/\y.2<=q'+90)/\E v1/\E v9/\E (iN n)/\E (iN n)/\E (bV (s9 (n:Int) 0))/\E v1/\E (sV D0.1)/\E v1/\E (sV y7.1)/\E (.sl true ([0,0,0,0,1,2,4].map iV))/\E v1/\E (iN B8)/\E (.ep (iV ([0,0,0,0,1,2,4].getD B8 0)))/\E (iV ([0,0,0,0,1,2,4].getD B8 0))/\E v10/\E (.ptr (.key 8) [] g8 0)/\E v1/\E (iN L6)/\E (bV v11)/\Qr g (av b LO.2) g (av b y.2)/\Qr g8 (.agg [sV D0.1,sV [],sV LO.1,iV ([0,0,0,0,1,2,4].getD B8 0)]) g8 (cn y.1.addr y.1.text y.1.lead y.1.m0)/\True)/\(v11=false->∃ y:Pg×Nat,(m8 y.1/\q'<=y.2/\y.2<=q'+90)/\E v1/\E v9/\E (iN n)/\E (iN n)/\E (bV (s9 (n:Int) 0))/\E v1/\E (sV D0.1)/\E v1/\E (sV y7.1)/\E (.sl true ([0,0,0,0,1,2,4].map iV))/\E v1/\E (iN B8)/\E (.ep (iV ([0,0,0,0,1,2,4].getD B8 0)))/\E (iV ([0,0,0,0,1,2,4].getD B8 0))/\E v10/\E (.ptr (.key 8) [] g8 0)/\E v1/\E (iN L6)/\E (bV v11)/\Qr g (av b ((y7.2+1)+1)) g (av b y.2)/\Qr g8 v10 g8 (cn y.1.addr y.1.text y.1.lead y.1.m0)/\True)/\(∀ y:Pg×Nat,(m8 y.1/\q'<=y.2/\y.2<=q'+90)->(fun v12:List V=>(fun MM:Bool=>Z g8 0/\(((4=4/\u'=u'/\f'=f')/\0+((e'.map r5).length)<=(e'.map r5).length/\V.aG (e'.map r5)=false/\aL 4 (e'.map r5))/\True)/\(([.sl false (((e'.map r5).drop 0).take ((e'.map r5).length)),sV y.1.addr]:List V)=[bS e',sV y.1.addr])/\((e'.length<=1000000))/\∀ g9:Nat,Z g9 0/\Gd (MM==true) (Z g8 1)/\Pk MM (MM==true) true/\Br (MM&&(D2 (y.1.text.length:Int) 300)) (Z g8 0/\((4,4,u',f',k',(e'.map r5).length)=(4,4,u',f',k',(e'.map r5).length))/\(True)/\(V.aG v12=false)/\(aL 4 v12)/\(((e'.map r5).length+v12.length)*56<=140737488355328)/\∀ R6 Rr Sj:Nat,((.own 4 ((e'.map r5)++v12) R6 Rr Sj:V)=.own 4 ((e'++[y.1]).map r5) R6 Rr Sj)/\m9 ((n:Int)-1)/\Q (iV ((n:Int)-1)) (iN (n-1))/\∃ x:Nat×(List Pg)×Nat×Nat×Nat×Nat,match x with | (w3,Om,NX,NU,Ol,N3)=>(fq b p g w3 Om NX NU Ol N3)/\(w3<n)/\E v1/\Q (.own 4 ((e'++[y.1]).map r5) R6 Rr Sj) (.own 4 (Om.map r5) NU Ol N3)/\Q (iN (n-1)) (iN w3)/\Qr g (av b y.2) g (av b NX)/\True) (m9 ((n:Int)-1)/\Q (iV ((n:Int)-1)) (iN (n-1))/\∃ x:Nat×(List Pg)×Nat×Nat×Nat×Nat,match x with | (w3,Om,NX,NU,Ol,N3)=>(fq b p g w3 Om NX NU Ol N3)/\(w3<n)/\E v1/\Q v9 (.own 4 (Om.map r5) NU Ol N3)/\Q (iN (n-1)) (iN w3)/\Qr g (av b y.2) g (av b NX)/\True)) (!((B3 e' y.1.addr).2))) ([cn y.1.addr y.1.text y.1.lead y.1.m0]:List V))) (o6 (L6:Int) 0)) (.agg [sV D0.1,sV y7.1,sV [],iV ([0,0,0,0,1,2,4].getD B8 0)])) (((4,u',f',k',(e'.map r5).length)=(4,u',f',k',(e'.map r5).length))/\∃ x:List Pg×Nat,(1<=x.1.length/\x.1.length<=12/\(∀ y,y∈x.1->m8 y)/\p<=x.2/\x.2<=p+1500)/\Q (.ow 4 (e'.map r5)) (.ow 4 (x.1.map r5))/\Qr g (av b q') g (av b x.2))) (.own 4 (e'.map r5) u' f' k'))) (sV (aP.getD i []))) (.own 4 (e.map r5) u f k))) (ay aP)) ([47,47]:BL)) ([47,110,111,116,105,99,101]:BL)) (.ptr (.key 1000) [] g 0))
  Z7 ?_
 refine⟨rfl,trivial,?_⟩
 refine⟨⟨(0,[],p,0,0,0),?_,rfl,rfl,rfl,rfl,rfl,trivial⟩,?_⟩
 simp
 rintro⟨i,e,q,u,f,k⟩ ⟨h1,h2,h3,h4,h5⟩
 refine bI (fun j9=>?_) fun j9=>?_
 · refine⟨rfl,rfl,⟨Z9,Z9,Z9⟩,?_⟩
   intro D3 P4
   refine bI (fun l6=>?_) fun l6=>?_
   · refine⟨FB (by show _<4;omega),trivial,by have:=cX (l:=aP) (n:=3) rfl i;simp only[List.length_append,List.length_cons,List.length_nil];omega,by have:=cX (l:=aP) (n:=3) rfl i;simp only[List.length_append,List.length_cons,List.length_nil];omega,rfl,rfl,⟨Z9,Z9⟩,?_⟩
     intro D8 RM
     refine⟨rfl,⟨by have:=RM.1;exact this,by have:=RM.2.1;exact this⟩,?_⟩
     intro Nc I6
     refine⟨rfl,rfl,⟨Z9,Z9,Z9⟩,?_⟩
     intro B7 VX
     refine⟨Kn Z0,trivial,?_⟩
     intro g6
     refine⟨rfl,rfl,rfl,⟨Z9,Z9,Z9⟩,?_⟩
     intro Np Xk
     refine⟨fun n0=>?_,fun n0=>?_,fun y hy=>?_⟩
     · try simp only[nb]at n0
       refine⟨rfl,rfl,rfl,⟨Z9,Z9⟩,?_⟩
       intro E4 E6
       refine⟨rfl,?_⟩
       exact⟨((⟨(([47,47]:BL)++(aP.getD i []))++([47,110,111,116,105,99,101]:BL),[],E4.1,([0,0,0,1,2,5].getD B7 0)⟩:Pg),E4.2),⟨by(try have:=cX (l:=aP) (n:=3) rfl i);(try simp only[List.length_append,List.length_cons,List.length_nil]);omega,by(try have:=cX (l:=aP) (n:=3) rfl i);(try simp only[List.length_append,List.length_cons,List.length_nil]);omega,by(try have:=cX (l:=aP) (n:=3) rfl i);(try simp only[List.length_append,List.length_cons,List.length_nil]);omega,pE rfl _,Z9,Z9,by(try dsimp only);repeat (first | assumption | exact E6.2.2.2 | exact F7.2.2.2 | exact E'.2.2.2 | exact bb | exact bF rfl | exact I6.2 | exact F6.2.2.2 | exact eA rfl i | apply m4.app),by(try dsimp only);repeat (first | assumption | exact E6.2.2.2 | exact F7.2.2.2 | exact E'.2.2.2 | exact bb | exact bF rfl | exact I6.2 | exact F6.2.2.2 | exact eA rfl i | apply m4.app),by(try dsimp only);repeat (first | assumption | exact E6.2.2.2 | exact F7.2.2.2 | exact E'.2.2.2 | exact bb | exact bF rfl | exact I6.2 | exact F6.2.2.2 | exact eA rfl i | apply m4.app)⟩,rfl,rfl,rfl,rfl,rfl,rfl,rfl,rfl,rfl,rfl,rfl,rfl,rfl,rfl,rfl,rfl,rfl,rfl,rfl,rfl,rfl,rfl,rfl,rfl,rfl,rfl,rfl,rfl,Z4,Z4,trivial⟩
     · try simp only[nb]at n0
       exact⟨((⟨(([47,47]:BL)++(aP.getD i []))++([47,110,111,116,105,99,101]:BL),Nc,[],([0,0,0,1,2,5].getD B7 0)⟩:Pg),(D8.2+1)+1),⟨by(try have:=cX (l:=aP) (n:=3) rfl i);(try simp only[List.length_append,List.length_cons,List.length_nil]);omega,by(try have:=cX (l:=aP) (n:=3) rfl i);(try simp only[List.length_append,List.length_cons,List.length_nil]);omega,by(try have:=cX (l:=aP) (n:=3) rfl i);(try simp only[List.length_append,List.length_cons,List.length_nil]);omega,pE rfl _,Z9,Z9,by(try dsimp only);repeat (first | assumption | exact E6.2.2.2 | exact F7.2.2.2 | exact E'.2.2.2 | exact bb | exact bF rfl | exact I6.2 | exact F6.2.2.2 | exact eA rfl i | apply m4.app),by(try dsimp only);repeat (first | assumption | exact E6.2.2.2 | exact F7.2.2.2 | exact E'.2.2.2 | exact bb | exact bF rfl | exact I6.2 | exact F6.2.2.2 | exact eA rfl i | apply m4.app),by(try dsimp only);repeat (first | assumption | exact E6.2.2.2 | exact F7.2.2.2 | exact E'.2.2.2 | exact bb | exact bF rfl | exact I6.2 | exact F6.2.2.2 | exact eA rfl i | apply m4.app)⟩,rfl,rfl,rfl,rfl,rfl,rfl,rfl,rfl,rfl,rfl,rfl,rfl,rfl,rfl,rfl,rfl,rfl,rfl,rfl,rfl,rfl,rfl,rfl,rfl,rfl,rfl,rfl,rfl,Z4,Z4,trivial⟩
     refine⟨rfl,?_⟩
     refine bI (fun w5=>?_) fun w5=>?_
     refine⟨rfl,rfl,trivial,rfl,by simp[aL,V.n,V.ns],Z0,?_⟩
     intro Sf RA Su
     refine⟨congrArg (V.own 4 · Sf RA Su) Z8,Z9,?_⟩
     refine⟨(i+1,e++[y.1],y.2,Sf,RA,Su),?_,?_,rfl,rfl,rfl,rfl,rfl,trivial⟩
     refine⟨Z9,by(try simp only[List.length_append,List.length_cons,List.length_nil,List.length_map]);omega,gD h3 ⟨hy.1,Z9,hy.2.1,hy.2.2.2.1,hy.2.2.2.2.2.2.1,hy.2.2.2.2.2.2.2.1,hy.2.2.2.2.2.2.2.2⟩,Z9,Z9⟩
     exact Z1
     refine⟨Z9,?_⟩
     refine⟨(i+1,e,y.2,u,f,k),?_,?_,rfl,rfl,rfl,rfl,rfl,trivial⟩
     exact⟨Z9,Z9,h3,Z9,Z9⟩
     exact Z1
   refine⟨Z9,?_⟩
   refine⟨(i+1,e,q+1,u,f,k),?_,?_,rfl,rfl,rfl,rfl,rfl,trivial⟩
   exact⟨Z9,Z9,h3,Z9,Z9⟩
   exact Z1
 · refine⟨rfl,rfl,⟨Z9,Z9,Z9⟩,?_⟩
   intro MW V0
   refine⟨Z9,?_⟩
   refine⟨⟨(2+MW,e,q+1,u,f,k),?_,rfl,rfl,rfl,rfl,trivial⟩,?_⟩
   unfold fq
   exact⟨Z9,Z9,h3,Z9,Z9⟩
   rintro⟨n,e',q',u',f',k'⟩ ⟨k1,k2,k3,k4,k5⟩
   refine bI (fun G0=>?_) fun G0=>?_
   · refine⟨rfl,rfl,⟨Z9,Z9⟩,?_⟩
     intro D0 F7
     refine⟨rfl,rfl,⟨Z9,Z9⟩,?_⟩
     intro y7 F6
     refine⟨rfl,rfl,⟨Z9,Z9,Z9⟩,?_⟩
     intro B8 VZ
     refine⟨Kn Z0,trivial,?_⟩
     intro g8
     refine⟨rfl,rfl,rfl,⟨Z9,Z9,Z9⟩,?_⟩
     intro L6 VY
     refine⟨fun Mp=>?_,fun Mp=>?_,fun y hy=>?_⟩
     · try simp only[nb]at Mp
       refine⟨rfl,rfl,rfl,⟨Z9,Z9⟩,?_⟩
       intro LO E'
       refine⟨rfl,?_⟩
       exact⟨((⟨D0.1,[],LO.1,([0,0,0,0,1,2,4].getD B8 0)⟩:Pg),LO.2),⟨⟨by(try have:=cX (l:=aP) (n:=3) rfl i);(try simp only[List.length_append,List.length_cons,List.length_nil]);omega,by(try have:=cX (l:=aP) (n:=3) rfl i);(try simp only[List.length_append,List.length_cons,List.length_nil]);omega,by(try have:=cX (l:=aP) (n:=3) rfl i);(try simp only[List.length_append,List.length_cons,List.length_nil]);omega,pE rfl _,by(try dsimp only);repeat (first | assumption | exact E6.2.2.2 | exact F7.2.2.2 | exact E'.2.2.2 | exact bb | exact bF rfl | exact I6.2 | exact F6.2.2.2 | exact eA rfl i | apply m4.app),by(try dsimp only);repeat (first | assumption | exact E6.2.2.2 | exact F7.2.2.2 | exact E'.2.2.2 | exact bb | exact bF rfl | exact I6.2 | exact F6.2.2.2 | exact eA rfl i | apply m4.app),by(try dsimp only);repeat (first | assumption | exact E6.2.2.2 | exact F7.2.2.2 | exact E'.2.2.2 | exact bb | exact bF rfl | exact I6.2 | exact F6.2.2.2 | exact eA rfl i | apply m4.app)⟩,Z9,Z9⟩,rfl,rfl,rfl,rfl,rfl,rfl,rfl,rfl,rfl,rfl,rfl,rfl,rfl,rfl,rfl,rfl,rfl,rfl,rfl,Z4,Z4,trivial⟩
     · try simp only[nb]at Mp
       exact⟨((⟨D0.1,y7.1,[],([0,0,0,0,1,2,4].getD B8 0)⟩:Pg),(y7.2+1)+1),⟨⟨by(try have:=cX (l:=aP) (n:=3) rfl i);(try simp only[List.length_append,List.length_cons,List.length_nil]);omega,by(try have:=cX (l:=aP) (n:=3) rfl i);(try simp only[List.length_append,List.length_cons,List.length_nil]);omega,by(try have:=cX (l:=aP) (n:=3) rfl i);(try simp only[List.length_append,List.length_cons,List.length_nil]);omega,pE rfl _,by(try dsimp only);repeat (first | assumption | exact E6.2.2.2 | exact F7.2.2.2 | exact E'.2.2.2 | exact bb | exact bF rfl | exact I6.2 | exact F6.2.2.2 | exact eA rfl i | apply m4.app),by(try dsimp only);repeat (first | assumption | exact E6.2.2.2 | exact F7.2.2.2 | exact E'.2.2.2 | exact bb | exact bF rfl | exact I6.2 | exact F6.2.2.2 | exact eA rfl i | apply m4.app),by(try dsimp only);repeat (first | assumption | exact E6.2.2.2 | exact F7.2.2.2 | exact E'.2.2.2 | exact bb | exact bF rfl | exact I6.2 | exact F6.2.2.2 | exact eA rfl i | apply m4.app)⟩,Z9,Z9⟩,rfl,rfl,rfl,rfl,rfl,rfl,rfl,rfl,rfl,rfl,rfl,rfl,rfl,rfl,rfl,rfl,rfl,rfl,rfl,Z4,Z4,trivial⟩
     refine⟨rfl,⟨⟨⟨rfl,rfl,rfl⟩,Z8,cM (f:=r5) (fun _=>rfl) _,ee (f:=r5) (fun _=>rfl) _⟩,trivial⟩,by simp[List.take_of_length_le],Z5,?_⟩
     intro g9
     refine⟨rfl,fun hG=>rfl,⟨fun h=>by rw[h] <;> rfl,fun _=>rfl⟩,?_⟩
     refine bI (fun UO=>?_) fun UO=>?_
     refine⟨rfl,rfl,trivial,rfl,by simp[aL,V.n,V.ns],Z0,?_⟩
     intro R6 Rr Sj
     refine⟨congrArg (V.own 4 · R6 Rr Sj) Z8,Z9,by simp[Q];omega,?_⟩
     refine⟨(n-1,e'++[y.1],y.2,R6,Rr,Sj),?_,?_,rfl,rfl,rfl,rfl,trivial⟩
     unfold fq
     refine⟨by(try simp only[List.length_append,List.length_cons,List.length_nil,List.length_map]);omega,.inl Z8,gD k3 hy.1,Z9,Z9⟩
     exact Z1
     refine⟨Z9,by simp[Q];omega,?_⟩
     refine⟨(n-1,e',y.2,u',f',k'),?_,?_,rfl,rfl,rfl,rfl,trivial⟩
     unfold fq
     have Xe:=hy.1.t
     have x6:(B3 e' y.fst.addr).snd=true:=by
      cases hh:(B3 e' y.fst.addr).snd with
      | true=>rfl
      | false=>have:=UO hh;omega
     exact⟨Z9,.inl (Hy x6),k3,Z9,Z9⟩
     exact Z1
   refine⟨rfl,?_⟩
   refine⟨(e',q'),?_,?_,?_⟩
   try dsimp only
   exact⟨Z9,Z9,k3,Z9,Z9⟩
   first | rfl | simp_all
   first | rfl | exact⟨rfl,rfl⟩ | simp_all)
def xV(b:BL)(p:Nat)(g:Nat):G4 Tryz.prog:=.mk (List Pg×Nat) 29 [.ptr (.key 1000) [] g 0] [(1000,(g,av b p))] ((b.length<=2000)/\(p<=600000)) (fun x=>1<=x.1.length/\x.1.length<=30/\(∀ y,y∈x.1->m8 y)/\p<=x.2/\x.2<=p+1600) (fun x=>.ow 4 (x.1.map r5)) (fun x=>[(1000,(g,av b x.2))]) (by
 rintro⟨hb,hp⟩
 have h0:∀ (l:List Pg),(∀ y,y∈l->m8 y)->m8 (l.getD 0 l5):=fun l h=>iu h 0
 refine fc (N:=51) (rs:=[.tmp 2]) (X:=List Pg×Nat) (post:=fun x=>1<=x.1.length/\x.1.length<=30/\(∀ y,y∈x.1->m8 y)/\p<=x.2/\x.2<=p+1600) (E:=fun x=>.ow 4 (x.1.map r5)) (H':=fun x=>[(1000,(g,.agg [.sl false (b.map n6),iN x.2]))]) Tryz.func29 Z7 rfl rfl rfl Z7 [(1000,(0,.c9))] (by intro _ k hk;simpa[lk] using hk)
  (.q 1<|.q 1<|.cx (uD b p g) [(1000,1000)] (fun (j8:List Pg×Nat)=>.q 1<|.ot 3 (fun g3 o3 c3=>.q 1<|.cx (bf b j8.2 g 16) [(1000,1000)] (fun (r6:Nat)=>.q 1<|.br (.q 2<|.h (.gM 2)<|.nil) (.q 1<|.cx (bf b (j8.2+1) g 5) [(1000,1000)] (fun (H7:Nat)=>.q 2<|.br (.r 4 [cn ((j8.1.getD 0 l5).addr) ((j8.1.getD 0 l5).text) ((j8.1.getD 0 l5).lead) ((j8.1.getD 0 l5).m0)]<|.bs<|.ap (fun TK Tm TR=>.h (.o5 31 (.own 4 ((j8.1++[(j8.1.getD 0 l5)]).map r5) TK Tm TR))<|.q 1<|.nil)) (.q 2<|.br (.q 3<|.st (some (iV ((j8.1.getD 0 l5).m0)))<|.h (.o5 3 (.own 4 ((j8.1.set 0 (⟨(j8.1.getD 0 l5).addr,(j8.1.getD 0 l5).text,(j8.1.getD 0 l5).lead,10⟩:Pg)).map r5) g3 o3 c3))<|.q 2<|.h (.gM 2)<|.nil) (.q 2<|.br (.q 2<|.bs<|.cx (eT b ((j8.2+1)+1) g ([([47,47,65,66,47,97]:BL),[],([47,47,97,98]:BL)]:List BL)) [(1000,1000)] (fun (E3:BL)=>.q 2<|.st (some (sV ((j8.1.getD 0 l5).addr)))<|.h (.o5 3 (.own 4 ((j8.1.set 0 (⟨E3,(j8.1.getD 0 l5).text,(j8.1.getD 0 l5).lead,(j8.1.getD 0 l5).m0⟩:Pg)).map r5) g3 o3 c3))<|.q 2<|.h (.gM 2)<|.nil)) (.q 2<|.br (.q 3<|.st (some (sV ((j8.1.getD 0 l5).lead)))<|.h (.o5 3 (.own 4 ((j8.1.set 0 (⟨(j8.1.getD 0 l5).addr,(j8.1.getD 0 l5).text,([120]:BL),(j8.1.getD 0 l5).m0⟩:Pg)).map r5) g3 o3 c3))<|.q 2<|.h (.gM 2)<|.nil) (.q 1<|.loop (Nat×(List Pg)×Nat×Nat×Nat) (fun (j,e,u,f,k)=>⟨[(3,.own 4 (e.map r5) u f k),(4,iN j)],[(1000,(g,av b ((j8.2+1)+1)))]⟩) (fun (j,e,u,f,k)=>j<=12/\1<=e.length/\e.length<=12+j/\(∀ y,y∈e->m8 y)) (fun (j,e,u,f,k)=>12-j) (fun (j,e,u,f,k)=>.q 2<|.br (.q 2<|.c (rG j) []<|.q 1<|.bd mN<|.bs<|.ap (fun g23 N0 Oo=>.h (.o5 23 (.own 4 ((e++[(⟨([47,47,97,98,47,122]:BL)++(dw j),[],[],0⟩:Pg)]).map r5) g23 N0 Oo))<|.q 1<|.q 3<|.nil)) (.q 2<|.h (.gM 2)<|.nil))))))))))))
  ((fun v1:BL=>(fun v2:BL=>(fun v3:BL=>(fun v4:BL=>((uD b p g).sm/\Er g (av b p)/\((b.length<=2000)/\(p<=700000))/\∀ j8:List Pg×Nat,(1<=j8.1.length/\j8.1.length<=12/\(∀ y,y∈j8.1->m8 y)/\p<=j8.2/\j8.2<=p+1500)->(fun v5:List V=>(fun v6:V=> ∀ g3 o3 c3:Nat,(fun v7:V=>(bf b j8.2 g 16).sm/\Er g (av b j8.2)/\((b.length<=2000)/\(j8.2<=1000000)/\(16<=1000000))/\∀ r6:Nat,(16=0/\r6=0\/r6<16)->Br (s9 (r6:Int) 0) (((4,g3,o3,c3,(j8.1.map r5).length)=(4,g3,o3,c3,(j8.1.map r5).length))/\∃ x:List Pg×Nat,(1<=x.1.length/\x.1.length<=30/\(∀ y,y∈x.1->m8 y)/\p<=x.2/\x.2<=p+1600)/\Q (.ow 4 (j8.1.map r5)) (.ow 4 (x.1.map r5))/\Qr g (av b (j8.2+1)) g (av b x.2)) ((bf b (j8.2+1) g 5).sm/\Er g (av b (j8.2+1))/\((b.length<=2000)/\((j8.2+1)<=1000000)/\(5<=1000000))/\∀ H7:Nat,(5=0/\H7=0\/H7<5)->Br (o6 (H7:Int) 0) (In 0 ((j8.1.map r5).length)/\(V.at g3 o3 v7 [0+0]=some (g3,(o3+(0+0)*4),cn ((j8.1.getD 0 l5).addr) ((j8.1.getD 0 l5).text) ((j8.1.getD 0 l5).lead) ((j8.1.getD 0 l5).m0)))/\((4,4,g3,o3,c3,(j8.1.map r5).length)=(4,4,g3,o3,c3,(j8.1.map r5).length))/\(True)/\(V.aG v5=false)/\(aL 4 v5)/\(((j8.1.map r5).length+v5.length)*56<=140737488355328)/\∀ TK Tm TR:Nat,((.own 4 ((j8.1.map r5)++v5) TK Tm TR:V)=.own 4 ((j8.1++[(j8.1.getD 0 l5)]).map r5) TK Tm TR)/\∃ x:List Pg×Nat,(1<=x.1.length/\x.1.length<=30/\(∀ y,y∈x.1->m8 y)/\p<=x.2/\x.2<=p+1600)/\Q (.ow 4 ((j8.1++[(j8.1.getD 0 l5)]).map r5)) (.ow 4 (x.1.map r5))/\Qr g v6 g (av b x.2)) (Br (o6 (H7:Int) 1) (In 0 ((j8.1.map r5).length)/\(V.at g3 o3 v7 [0+0,3]=some (g3,(o3+(0+0)*4+3),iV ((j8.1.getD 0 l5).m0)))/\(V.set v7 [0+0,3] (iN 10)=.own 4 ((j8.1.set 0 (⟨(j8.1.getD 0 l5).addr,(j8.1.getD 0 l5).text,(j8.1.getD 0 l5).lead,10⟩:Pg)).map r5) g3 o3 c3)/\((4,g3,o3,c3,((j8.1.set 0 (⟨(j8.1.getD 0 l5).addr,(j8.1.getD 0 l5).text,(j8.1.getD 0 l5).lead,10⟩:Pg)).map r5).length)=(4,g3,o3,c3,((j8.1.set 0 (⟨(j8.1.getD 0 l5).addr,(j8.1.getD 0 l5).text,(j8.1.getD 0 l5).lead,10⟩:Pg)).map r5).length))/\∃ x:List Pg×Nat,(1<=x.1.length/\x.1.length<=30/\(∀ y,y∈x.1->m8 y)/\p<=x.2/\x.2<=p+1600)/\Q (.ow 4 ((j8.1.set 0 (⟨(j8.1.getD 0 l5).addr,(j8.1.getD 0 l5).text,(j8.1.getD 0 l5).lead,10⟩:Pg)).map r5)) (.ow 4 (x.1.map r5))/\Qr g v6 g (av b x.2)) (Br (o6 (H7:Int) 2) ((eT b ((j8.2+1)+1) g ([v2,[],v3]:List BL)).sm/\Er g v6/\((b.length<=2000)/\(((j8.2+1)+1)<=1000000)/\(1<=([v2,[],v3]:List BL).length)/\(([v2,[],v3]:List BL).length<=1000))/\∀ E3:BL,(E3∈([v2,[],v3]:List BL))->In 0 ((j8.1.map r5).length)/\(V.at g3 o3 v7 [0+0,0]=some (g3,(o3+(0+0)*4+0),sV ((j8.1.getD 0 l5).addr)))/\(V.set v7 [0+0,0] (sV E3)=.own 4 ((j8.1.set 0 (⟨E3,(j8.1.getD 0 l5).text,(j8.1.getD 0 l5).lead,(j8.1.getD 0 l5).m0⟩:Pg)).map r5) g3 o3 c3)/\((4,g3,o3,c3,((j8.1.set 0 (⟨E3,(j8.1.getD 0 l5).text,(j8.1.getD 0 l5).lead,(j8.1.getD 0 l5).m0⟩:Pg)).map r5).length)=(4,g3,o3,c3,((j8.1.set 0 (⟨E3,(j8.1.getD 0 l5).text,(j8.1.getD 0 l5).lead,(j8.1.getD 0 l5).m0⟩:Pg)).map r5).length))/\∃ x:List Pg×Nat,(1<=x.1.length/\x.1.length<=30/\(∀ y,y∈x.1->m8 y)/\p<=x.2/\x.2<=p+1600)/\Q (.ow 4 ((j8.1.set 0 (⟨E3,(j8.1.getD 0 l5).text,(j8.1.getD 0 l5).lead,(j8.1.getD 0 l5).m0⟩:Pg)).map r5)) (.ow 4 (x.1.map r5))/\Qr g (av b (((j8.2+1)+1)+1)) g (av b x.2)) (Br (o6 (H7:Int) 3) (In 0 ((j8.1.map r5).length)/\(V.at g3 o3 v7 [0+0,2]=some (g3,(o3+(0+0)*4+2),sV ((j8.1.getD 0 l5).lead)))/\(V.set v7 [0+0,2] (sV v4)=.own 4 ((j8.1.set 0 (⟨(j8.1.getD 0 l5).addr,(j8.1.getD 0 l5).text,v4,(j8.1.getD 0 l5).m0⟩:Pg)).map r5) g3 o3 c3)/\((4,g3,o3,c3,((j8.1.set 0 (⟨(j8.1.getD 0 l5).addr,(j8.1.getD 0 l5).text,v4,(j8.1.getD 0 l5).m0⟩:Pg)).map r5).length)=(4,g3,o3,c3,((j8.1.set 0 (⟨(j8.1.getD 0 l5).addr,(j8.1.getD 0 l5).text,v4,(j8.1.getD 0 l5).m0⟩:Pg)).map r5).length))/\∃ x:List Pg×Nat,(1<=x.1.length/\x.1.length<=30/\(∀ y,y∈x.1->m8 y)/\p<=x.2/\x.2<=p+1600)/\Q (.ow 4 ((j8.1.set 0 (⟨(j8.1.getD 0 l5).addr,(j8.1.getD 0 l5).text,v4,(j8.1.getD 0 l5).m0⟩:Pg)).map r5)) (.ow 4 (x.1.map r5))/\Qr g v6 g (av b x.2)) ((∃ x:Nat×(List Pg)×Nat×Nat×Nat,match x with | (Oz,D4,H3,z7,s5)=>(Oz<=12/\1<=D4.length/\D4.length<=12+Oz/\(∀ y,y∈D4->m8 y))/\Q v7 (.own 4 (D4.map r5) H3 z7 s5)/\Q (iN 0) (iN Oz)/\Er g v6/\True)/\∀ x:Nat×(List Pg)×Nat×Nat×Nat,match x with | (j,e,u,f,k)=>(j<=12/\1<=e.length/\e.length<=12+j/\(∀ y,y∈e->m8 y))->(fun v8:List V=>Br (s8 (j:Int) 12) ((rG j).sm/\((j<=1000000))/\(v1.length+(dw j).length<=4611686018427387904)/\((4,4,u,f,k,(e.map r5).length)=(4,4,u,f,k,(e.map r5).length))/\(True)/\(V.aG v8=false)/\(aL 4 v8)/\(((e.map r5).length+v8.length)*56<=140737488355328)/\∀ g23 N0 Oo:Nat,((.own 4 ((e.map r5)++v8) g23 N0 Oo:V)=.own 4 ((e++[(⟨v1++(dw j),[],[],0⟩:Pg)]).map r5) g23 N0 Oo)/\m9 ((j:Int)+1)/\∃ x:Nat×(List Pg)×Nat×Nat×Nat,match x with | (L9,w8,B4,r4,k₂)=>(L9<=12/\1<=w8.length/\w8.length<=12+L9/\(∀ y,y∈w8->m8 y))/\(12-L9<12-j)/\Q (.own 4 ((e++[(⟨v1++(dw j),[],[],0⟩:Pg)]).map r5) g23 N0 Oo) (.own 4 (w8.map r5) B4 r4 k₂)/\Q (iN (j+1)) (iN L9)/\Er g v6/\True) (((4,u,f,k,(e.map r5).length)=(4,u,f,k,(e.map r5).length))/\∃ x:List Pg×Nat,(1<=x.1.length/\x.1.length<=30/\(∀ y,y∈x.1->m8 y)/\p<=x.2/\x.2<=p+1600)/\Q (.ow 4 (e.map r5)) (.ow 4 (x.1.map r5))/\Qr g v6 g (av b x.2))) ([.agg [sV (v1++(dw j)),sV [],sV [],iN 0]]:List V))))))) (.own 4 (j8.1.map r5) g3 o3 c3)) (av b ((j8.2+1)+1))) ([cn ((j8.1.getD 0 l5).addr) ((j8.1.getD 0 l5).text) ((j8.1.getD 0 l5).lead) ((j8.1.getD 0 l5).m0)]:List V))) ([120]:BL)) ([47,47,97,98]:BL)) ([47,47,65,66,47,97]:BL)) ([47,47,97,98,47,122]:BL))
  Z7 ?_
 refine⟨rfl,rfl,⟨Z9,Z9⟩,?_⟩
 intro j8 H5
 intro g3 o3 c3
 refine⟨rfl,rfl,⟨Z9,Z9,Z9⟩,?_⟩
 intro r6 Mx
 refine bI (fun j9=>?_) fun j9=>?_
 refine⟨rfl,?_⟩
 refine⟨(j8.1,j8.2+1),?_,?_,?_⟩
 try dsimp only
 exact⟨Z9,Z9,H5.2.2.1,Z9,Z9⟩
 first | rfl | simp_all
 first | rfl | exact⟨rfl,rfl⟩ | simp_all
 refine⟨rfl,rfl,⟨Z9,Z9,Z9⟩,?_⟩
 intro H7 Uj
 refine bI (fun l6=>?_) fun l6=>?_
 refine⟨Z2,gg (by rw[Nat.zero_add];exact an (d:=l5) Z9),rfl,trivial,rfl,by simp[aL,V.n,V.ns],Z0,?_⟩
 intro TK Tm TR
 refine⟨congrArg (V.own 4 · TK Tm TR) Z8,?_⟩
 refine⟨(j8.1++[(j8.1.getD 0 l5)],(j8.2+1)+1),?_,?_,?_⟩
 try dsimp only
 exact⟨Z8,Z0,gD H5.2.2.1 (h0 _ H5.2.2.1),Z9,Z9⟩
 first | rfl | simp_all
 first | rfl | exact⟨rfl,rfl⟩ | simp_all
 refine bI (fun n0=>?_) fun n0=>?_
 refine⟨Z2,aJ (by rw[Nat.zero_add];exact an (d:=l5) Z9) rfl,aX (x:=.agg [sV ((j8.1.getD 0 l5).addr),sV ((j8.1.getD 0 l5).text),sV ((j8.1.getD 0 l5).lead),iV ((j8.1.getD 0 l5).m0)]) (by rw[Nat.zero_add];exact an (d:=l5) Z9) (List.map_set (f:=r5) (l:=j8.1) (i:=0) (a:=(⟨(j8.1.getD 0 l5).addr,(j8.1.getD 0 l5).text,(j8.1.getD 0 l5).lead,10⟩:Pg))).symm,rfl,?_⟩
 refine⟨(j8.1.set 0 (⟨(j8.1.getD 0 l5).addr,(j8.1.getD 0 l5).text,(j8.1.getD 0 l5).lead,10⟩:Pg),(j8.2+1)+1),?_,?_,?_⟩
 try dsimp only
 have hz:=h0 _ H5.2.2.1
 exact⟨Z0,Z0,wc H5.2.2.1 ⟨hz.a,hz.t,hz.l,Z8,hz.aa,hz.la,hz.ta⟩,Z9,Z9⟩
 first | rfl | simp_all
 first | rfl | exact⟨rfl,rfl⟩ | simp_all
 refine bI (fun w5=>?_) fun w5=>?_
 refine⟨rfl,rfl,⟨Z9,Z9,Z8,Z8⟩,?_⟩
 intro E3 x5
 refine⟨Z2,aJ (by rw[Nat.zero_add];exact an (d:=l5) Z9) rfl,aX (x:=.agg [sV ((j8.1.getD 0 l5).addr),sV ((j8.1.getD 0 l5).text),sV ((j8.1.getD 0 l5).lead),iV ((j8.1.getD 0 l5).m0)]) (by rw[Nat.zero_add];exact an (d:=l5) Z9) (List.map_set (f:=r5) (l:=j8.1) (i:=0) (a:=(⟨E3,(j8.1.getD 0 l5).text,(j8.1.getD 0 l5).lead,(j8.1.getD 0 l5).m0⟩:Pg))).symm,rfl,?_⟩
 refine⟨(j8.1.set 0 (⟨E3,(j8.1.getD 0 l5).text,(j8.1.getD 0 l5).lead,(j8.1.getD 0 l5).m0⟩:Pg),((j8.2+1)+1)+1),?_,?_,?_⟩
 try dsimp only
 have hz:=h0 _ H5.2.2.1
 exact⟨Z0,Z0,wc H5.2.2.1 ⟨bO rfl x5,hz.t,hz.l,hz.f,dC rfl x5,hz.la,hz.ta⟩,Z9,Z9⟩
 first | rfl | simp_all
 first | rfl | exact⟨rfl,rfl⟩ | simp_all
 refine bI (fun G0=>?_) fun G0=>?_
 refine⟨Z2,aJ (by rw[Nat.zero_add];exact an (d:=l5) Z9) rfl,aX (x:=.agg [sV ((j8.1.getD 0 l5).addr),sV ((j8.1.getD 0 l5).text),sV ((j8.1.getD 0 l5).lead),iV ((j8.1.getD 0 l5).m0)]) (by rw[Nat.zero_add];exact an (d:=l5) Z9) (List.map_set (f:=r5) (l:=j8.1) (i:=0) (a:=(⟨(j8.1.getD 0 l5).addr,(j8.1.getD 0 l5).text,([120]:BL),(j8.1.getD 0 l5).m0⟩:Pg))).symm,rfl,?_⟩
 refine⟨(j8.1.set 0 (⟨(j8.1.getD 0 l5).addr,(j8.1.getD 0 l5).text,([120]:BL),(j8.1.getD 0 l5).m0⟩:Pg),(j8.2+1)+1),?_,?_,?_⟩
 try dsimp only
 have hz:=h0 _ H5.2.2.1
 exact⟨Z0,Z0,wc H5.2.2.1 ⟨hz.a,hz.t,Z8,hz.f,hz.aa,bF rfl,hz.ta⟩,Z9,Z9⟩
 first | rfl | simp_all
 first | rfl | exact⟨rfl,rfl⟩ | simp_all
 refine⟨⟨(0,j8.1,g3,o3,c3),?_,rfl,rfl,rfl,trivial⟩,?_⟩
 exact⟨Z9,Z9,Z9,H5.2.2.1⟩
 rintro⟨j,e,u,f,k⟩ ⟨h1,h2,h3,h4⟩
 refine bI (fun Mp=>?_) fun Mp=>?_
 refine⟨rfl,Z9,by have:=qc j Z9;simp only[List.length_append,List.length_cons,List.length_nil];omega,rfl,trivial,rfl,by simp[aL,V.n,V.ns],Z0,?_⟩
 intro g23 N0 Oo
 refine⟨congrArg (V.own 4 · g23 N0 Oo) Z8,Z9,?_⟩
 refine⟨(j+1,e++[(⟨([47,47,97,98,47,122]:BL)++(dw j),[],[],0⟩:Pg)],g23,N0,Oo),?_,?_,rfl,rfl,rfl,trivial⟩
 have hd:=qc j Z9
 refine⟨Z9,Z8,Z0,gD h4 ⟨?_,Z8,Z8,Z8,(bF rfl).app (kS j),bb,bb⟩⟩
 simp only[List.length_append,List.length_cons,List.length_nil];omega
 exact Z1
 refine⟨rfl,?_⟩
 refine⟨(e,(j8.2+1)+1),?_,?_,?_⟩
 try dsimp only
 exact⟨Z9,Z9,h4,Z9,Z9⟩
 first | rfl | simp_all
 first | rfl | exact⟨rfl,rfl⟩ | simp_all)
def wG(b:BL)(p:Nat)(g:Nat):G4 Tryz.prog:=.mk BL 30 [.ptr (.key 1000) [] g 0] [(1000,(g,av b p))] ((b.length<=2000)/\(p<=900000)) (fun x=>x.length<=5/\bh x=true) (fun x=>sV x) (fun x=>[(1000,(g,av b (p+1)))]) (by
 rintro⟨hb,hp⟩
 refine fc (N:=6) (rs:=[.tmp 2]) (X:=BL) (post:=fun x=>x.length<=5/\bh x=true) (E:=fun x=>sV x) (H':=fun x=>[(1000,(g,.agg [.sl false (b.map n6),iN (p+1)]))]) Tryz.func30 Z7 rfl rfl rfl Z7 [(1000,(0,.c9))] (by intro _ k hk;simpa[lk] using hk)
  (.q 1<|.q 1<|.bs<|.cx (eT b p g ([([114,111,118,101,114]:BL),([114,111,118,101,114]:BL),([115,99,111,117,116]:BL),([111,116,104,101,114]:BL)]:List BL)) [(1000,1000)] (fun (z8:BL)=>.q 1<|.nil))
  ((fun v1:BL=>(fun v2:BL=>(fun v3:BL=>((eT b p g ([v1,v1,v3,v2]:List BL)).sm/\Er g (av b p)/\((b.length<=2000)/\(p<=1000000)/\(1<=([v1,v1,v3,v2]:List BL).length)/\(([v1,v1,v3,v2]:List BL).length<=1000))/\∀ z8:BL,(z8∈([v1,v1,v3,v2]:List BL))->∃ x:BL,(x.length<=5/\bh x=true)/\Q (sV z8) (sV x)/\Er g (av b (p+1)))) ([115,99,111,117,116]:BL)) ([111,116,104,101,114]:BL)) ([114,111,118,101,114]:BL))
  Z7 ?_
 refine⟨rfl,rfl,⟨Z9,Z9,Z8,Z8⟩,?_⟩
 intro z8 OZ
 refine⟨z8,?_,?_,?_⟩
 try dsimp only
 exact⟨bO rfl OZ,List.all_eq_true.1 (show (List.all _ bh)=true from rfl) _ OZ⟩
 first | rfl | simp_all
 first | rfl | exact⟨rfl,rfl⟩ | simp_all)
def ur(b:BL)(p:Nat)(g:Nat)(w:List Pg):G4 Tryz.prog:=.mk (BL×Nat) 57 [.ptr (.key 1000) [] g 0,bS w] [(1000,(g,av b p))] ((b.length<=2000)/\(p<=800000)/\(w.length<=30)/\(∀ y,y∈w->m8 y)) (fun x=>x.1.length<=30/\p<=x.2/\x.2<=p+8/\m4 x.1) (fun x=>sV x.1) (fun x=>[(1000,(g,av b x.2))]) (by
 rintro⟨hb,hp,hw,hy⟩
 refine fc (N:=23) (rs:=[.tmp 4]) (X:=BL×Nat) (post:=fun x=>x.1.length<=30/\p<=x.2/\x.2<=p+8/\m4 x.1) (E:=fun x=>sV x.1) (H':=fun x=>[(1000,(g,.agg [.sl false (b.map n6),iN x.2]))]) Tryz.func57 Z7 rfl rfl rfl Z7 [(1000,(0,.c9))] (by intro _ k hk;simpa[lk] using hk)
  (.q 1<|.q 3<|.sp (s9 (((w.map r5).length:Nat):Int) 0) (.h (.o5 7 (bV true))<|.q 1<|.gt<|.q 1<|.gt<|.cx (bf b p g 3) [(1000,1000)] (fun (PN:Nat)=>.gt<|.q 2<|.br (.q 4<|.cx (bf b (p+1) g ((w.map r5).length)) [(1000,1000)] (fun (D9:Nat)=>.r 4 [cn ((w.getD D9 l5).addr) ((w.getD D9 l5).text) ((w.getD D9 l5).lead) ((w.getD D9 l5).m0)]<|.nil)) (.q 1<|.cx (eE b (p+1) g) [(1000,1000)] (fun (a7:BL×Nat)=>.q 1<|.nil)))) (.h (.o5 7 (bV false))<|.q 1<|.gf (.c9)<|.gf (.c9)<|.gf (bV false)<|.q 1<|.br (.q 4<|.cx (bf b p g ((w.map r5).length)) [(1000,1000)] (fun (D9:Nat)=>.r 4 [cn ((w.getD D9 l5).addr) ((w.getD D9 l5).text) ((w.getD D9 l5).lead) ((w.getD D9 l5).m0)]<|.nil)) (.q 1<|.cx (eE b p g) [(1000,1000)] (fun (a7:BL×Nat)=>.q 1<|.nil))))
  ((fun v1:Bool=>((v1=true->((bV v1:V)=bV true)/\(true=true)/\(true=true)/\(bf b p g 3).sm/\Er g (av b p)/\((b.length<=2000)/\(p<=1000000)/\(3<=1000000))/\∀ PN:Nat,(3=0/\PN=0\/PN<3)->(true=true)/\Pk true true true/\Br (true&&(s9 (PN:Int) 0)) ((bf b (p+1) g ((w.map r5).length)).sm/\Er g (av b (p+1))/\((b.length<=2000)/\((p+1)<=1000000)/\(((w.map r5).length)<=1000000))/\∀ D9:Nat,(((w.map r5).length)=0/\D9=0\/D9<((w.map r5).length))->Ex (D9:Int) (w.map r5) (cn ((w.getD D9 l5).addr) ((w.getD D9 l5).text) ((w.getD D9 l5).lead) ((w.getD D9 l5).m0))/\True/\∃ x:BL×Nat,(x.1.length<=30/\p<=x.2/\x.2<=p+8/\m4 x.1)/\Q (sV ((w.getD D9 l5).addr)) (sV x.1)/\Qr g (av b ((p+1)+1)) g (av b x.2)) ((eE b (p+1) g).sm/\Er g (av b (p+1))/\((b.length<=2000)/\((p+1)<=900000))/\∀ a7:BL×Nat,(a7.1.length<=25/\(p+1)<=a7.2/\a7.2<=(p+1)+6/\m4 a7.1)->∃ x:BL×Nat,(x.1.length<=30/\p<=x.2/\x.2<=p+8/\m4 x.1)/\Q (sV a7.1) (sV x.1)/\Qr g (av b a7.2) g (av b x.2)))/\(v1=false->((bV v1:V)=bV false)/\(false=false)/\(false=false)/\(false=false)/\Pk false false true/\Br (false&&false) ((bf b p g ((w.map r5).length)).sm/\Er g (av b p)/\((b.length<=2000)/\(p<=1000000)/\(((w.map r5).length)<=1000000))/\∀ D9:Nat,(((w.map r5).length)=0/\D9=0\/D9<((w.map r5).length))->Ex (D9:Int) (w.map r5) (cn ((w.getD D9 l5).addr) ((w.getD D9 l5).text) ((w.getD D9 l5).lead) ((w.getD D9 l5).m0))/\True/\∃ x:BL×Nat,(x.1.length<=30/\p<=x.2/\x.2<=p+8/\m4 x.1)/\Q (sV ((w.getD D9 l5).addr)) (sV x.1)/\Qr g (av b (p+1)) g (av b x.2)) ((eE b p g).sm/\Er g (av b p)/\((b.length<=2000)/\(p<=900000))/\∀ a7:BL×Nat,(a7.1.length<=25/\p<=a7.2/\a7.2<=p+6/\m4 a7.1)->∃ x:BL×Nat,(x.1.length<=30/\p<=x.2/\x.2<=p+8/\m4 x.1)/\Q (sV a7.1) (sV x.1)/\Qr g (av b a7.2) g (av b x.2))))) (s9 (((w.map r5).length:Nat):Int) 0))
  Z7 ?_
 refine⟨fun N7=>?_,fun N7=>?_⟩
 have Qf:=N7
 try simp only[nb]at Qf
 refine⟨congrArg bV N7,rfl,rfl,rfl,rfl,⟨Z9,Z9,Z9⟩,?_⟩
 intro PN Xp
 refine⟨rfl,⟨fun h=>by first | exact h | rfl,fun _=>rfl⟩,?_⟩
 refine bI (fun j9=>?_) fun j9=>?_
 refine⟨rfl,rfl,⟨Z9,Z9,by simp only[List.length_map];omega⟩,?_⟩
 intro D9 Ul
 simp only[List.length_map]at Ul
 refine⟨⟨Z9,an (d:=l5) Z9⟩,trivial,?_⟩
 refine⟨((w.getD D9 l5).addr,(p+1)+1),?_,?_,?_⟩
 try dsimp only
 exact⟨(iu hy _).a,Z9,Z9,(iu hy _).aa⟩
 first | rfl | simp_all
 first | rfl | exact⟨rfl,rfl⟩ | simp_all
 refine⟨rfl,rfl,⟨Z9,Z9⟩,?_⟩
 intro a7 r9
 refine⟨(a7.1,a7.2),?_,?_,?_⟩
 try dsimp only
 exact⟨Z9,Z9,Z9,by first | exact OY.2.2.2 | (rename_i hq;exact hq.2.2.2) | (apply And.right;apply And.right;apply And.right;assumption)⟩
 first | rfl | simp_all
 first | rfl | exact⟨rfl,rfl⟩ | simp_all
 · have Qf:=N7
   try simp only[nb]at Qf
   refine⟨congrArg bV N7,rfl,rfl,rfl,⟨fun h=>by first | exact h | rfl,fun _=>rfl⟩,?_⟩
   refine bI (fun l6=>?_) fun l6=>?_
   · all_goals (simp at l6)
   refine⟨rfl,rfl,⟨Z9,Z9⟩,?_⟩
   intro a7 r9
   refine⟨(a7.1,a7.2),?_,?_,?_⟩
   try dsimp only
   exact⟨Z9,Z9,Z9,by first | exact OY.2.2.2 | (rename_i hq;exact hq.2.2.2) | (apply And.right;apply And.right;apply And.right;assumption)⟩
   first | rfl | simp_all
   first | rfl | exact⟨rfl,rfl⟩ | simp_all)
theorem qP{α:Type}{l:List α}(h:1<=l.length):l≠[]:=by rintro rfl;simp at h
theorem uM{P:Nat->Prop}{k:Nat}(h:∀ q,q<k->P q)(hk:P k):∀ q,q<k+1->P q:=fun q hq=>by
 rcases Nat.lt_succ_iff_lt_or_eq.1 hq with h' | rfl
 exact h q h'
 exact hk
abbrev js(w:List Pg)(i:Nat):Prop:=i<=w.length/\∀ j,j<i->dK (w.getD j l5)=true/\∀ k,k<j->(w.getD k l5).addr≠(w.getD j l5).addr
def xg(w:List Pg):o8 Tryz.prog:=.mk 33 [bS w] [] ((w.length<=1000)/\(∀ i,(w.getD i l5).addr.length<=1000000/\(w.getD i l5).lead.length<=1000000)) (bV (aq w)) [] (by
 rintro⟨hw,hz⟩
 refine az (N:=80) (rs:=[.tmp 2]) Tryz.func33
  (.q 1<|.q 1<|.loop (Nat) (fun (i:Nat)=>⟨[(0,bS w),(3,iN i)],[]⟩) (fun (i:Nat)=>js w i) (fun (i:Nat)=>w.length-i) (fun (i:Nat)=>.q 4<|.br (.r 5 [cn ((w.getD i l5).addr) ((w.getD i l5).text) ((w.getD i l5).lead) ((w.getD i l5).m0)]<|.c (jW ((w.getD i l5).addr)) []<|.r 16 [cn ((w.getD i l5).addr) ((w.getD i l5).text) ((w.getD i l5).lead) ((w.getD i l5).m0),cn ((w.getD i l5).addr) ((w.getD i l5).text) ((w.getD i l5).lead) ((w.getD i l5).m0)]<|.cg (lM ((w.getD i l5).m0) (0:Int) (9:Int))<|.r 22 [cn ((w.getD i l5).addr) ((w.getD i l5).text) ((w.getD i l5).lead) ((w.getD i l5).m0),cn ((w.getD i l5).addr) ((w.getD i l5).text) ((w.getD i l5).lead) ((w.getD i l5).m0),cn ((w.getD i l5).addr) ((w.getD i l5).text) ((w.getD i l5).lead) ((w.getD i l5).m0)]<|.cg (jW ((w.getD i l5).lead))<|.q 4<|.br (.q 1<|.nil) (.q 1<|.loop (Nat) (fun (k:Nat)=>⟨[(0,bS w),(3,iN i),(4,iN k)],[]⟩) (fun (k:Nat)=>k<=i/\∀ q,q<k->(w.getD q l5).addr≠(w.getD i l5).addr) (fun (k:Nat)=>i-k) (fun (k:Nat)=>.q 3<|.br (.dx 11 [0,1,2,3,4,5,6,7,8,9,10] [(4,⟨false,[],some [],[70],[]⟩),(9,⟨false,[],some [],[75],[]⟩)] []<|.q 1<|.q 1<|.r 1 [cn ((w.getD k l5).addr) ((w.getD k l5).text) ((w.getD k l5).lead) ((w.getD k l5).m0)]<|.q 1<|.q 1<|.q 1<|.q 1<|.r 1 [cn ((w.getD i l5).addr) ((w.getD i l5).text) ((w.getD i l5).lead) ((w.getD i l5).m0)]<|.q 1<|.q 1<|.q 1<|.br (.q 1<|.nil) (.q 3<|.nil)) (.q 3<|.nil)))) (.q 4<|.nil)))
  ((∃ j7:Nat,(js w j7)/\E (bS w)/\Q (iN 0) (iN j7)/\True)/\∀ i:Nat,(js w i)->(fun v3:Bool=>(fun v4:Bool=>(fun v8:Bool=>(fun v1:Bool=>(fun v2:V=>(fun v5:Bool=>(fun v6:Bool=>(fun v7:Bool=>Br (s8 (i:Int) (((w.map r5).length:Nat):Int)) (Ex (i:Int) (w.map r5) v2/\True/\(jW ((w.getD i l5).addr)).sm/\((((w.getD i l5).addr).length<=4611686018427387904))/\Gd (v4==false) (Ex (i:Int) (w.map r5) v2)/\Gd (v4==false) True/\Pk v4 true (v4==false)/\Gd v7 (Ex (i:Int) (w.map r5) v2)/\Gd v7 True/\Gd v7 ((True)/\(lM ((w.getD i l5).m0) (0:Int) (9:Int)).sm)/\Pk (v4||v3) true v7/\Gd v1 (Ex (i:Int) (w.map r5) v2)/\Gd v1 True/\Gd (v1&&(v5==true)) (Ex (i:Int) (w.map r5) v2)/\Gd (v1&&(v5==true)) True/\Gd ((v1&&(v5==true))&&(v6==false)) (Ex (i:Int) (w.map r5) v2)/\Gd ((v1&&(v5==true))&&(v6==false)) True/\Gd ((v1&&(v5==true))&&(v6==false)) (((((w.getD i l5).lead).length<=4611686018427387904))/\(jW ((w.getD i l5).lead)).sm)/\Gd (v1&&(v5==true)) (Pk v6 true ((v1&&(v5==true))&&(v6==false)))/\Gd v1 (Pk v5 (v1&&(v5==true)) true)/\Pk ((v4||v3)||v8) true v1/\Br (((v4||v3)||v8)||(v5&&(v6||(!(aD ((w.getD i l5).lead)))))) (Q (bV false) (bV (aq w))) ((∃ s5:Nat,(s5<=i/\∀ q,q<s5->(w.getD q l5).addr≠(w.getD i l5).addr)/\E (bS w)/\E (iN i)/\Q (iN 0) (iN s5)/\True)/\∀ k:Nat,(k<=i/\∀ q,q<k->(w.getD q l5).addr≠(w.getD i l5).addr)->Br (s8 (k:Int) (i:Int)) (Ex (k:Int) (w.map r5) (cn ((w.getD k l5).addr) ((w.getD k l5).text) ((w.getD k l5).lead) ((w.getD k l5).m0))/\True/\Ex (i:Int) (w.map r5) v2/\True/\Br (((w.getD k l5).addr)==((w.getD i l5).addr)) (Q (bV false) (bV (aq w))) (m9 ((k:Int)+1)/\∃ k₂:Nat,(k₂<=i/\∀ q,q<k₂->(w.getD q l5).addr≠(w.getD i l5).addr)/\(i-k₂<i-k)/\E (bS w)/\E (iN i)/\Q (iN (k+1)) (iN k₂)/\True)) (m9 ((i:Int)+1)/\∃ c5:Nat,(js w c5)/\(w.length-c5<w.length-i)/\E (bS w)/\Q (iN (i+1)) (iN c5)/\True))) (Q (bV (D2 (((w.map r5).length:Nat):Int) 12)) (bV (aq w)))) ((v4||v3)==false)) (!(((w.getD i l5).text)==[]))) (!(((w.getD i l5).lead)==[]))) (cn ((w.getD i l5).addr) ((w.getD i l5).text) ((w.getD i l5).lead) ((w.getD i l5).m0))) (((v4||v3)||v8)==false)) (!(y8 ((w.getD i l5).m0) (0:Int) (9:Int)))) (!(aD ((w.getD i l5).addr)))) (s9 ((((w.getD i l5).text).length:Nat):Int) 300)) ?_
 refine⟨⟨0,?_,rfl,rfl,trivial⟩,?_⟩
 unfold js
 simp
 rintro i ⟨h1,h2⟩
 refine bI (fun j9=>?_) fun j9=>?_
 refine⟨⟨Z9,an (d:=l5) Z9⟩,trivial,rfl,by have:=hz i;omega,fun hG=>⟨Z9,an (d:=l5) Z9⟩,fun hG=>trivial,⟨fun _=>rfl,fun h=>by rw[h] <;> rfl⟩,fun hG=>⟨Z9,an (d:=l5) Z9⟩,fun hG=>trivial,fun hG=>⟨trivial,rfl⟩,⟨fun _=>rfl,fun h=>by rw[h] <;> rfl⟩,fun hG=>⟨Z9,an (d:=l5) Z9⟩,fun hG=>trivial,fun hG=>⟨Z9,an (d:=l5) Z9⟩,fun hG=>trivial,fun hG=>⟨Z9,an (d:=l5) Z9⟩,fun hG=>trivial,fun hG=>⟨by(try simp only[nb]at hG);have:=hz i;omega,rfl⟩,fun hG=>⟨fun _=>rfl,fun h=>by rw[h];exact(Bool.and_eq_true _ _).mpr ⟨hG,rfl⟩⟩,fun hG=>⟨fun h=>by rw[h];exact(Bool.and_eq_true _ _).mpr ⟨hG,rfl⟩,fun _=>rfl⟩,⟨fun _=>rfl,fun h=>by rw[h] <;> rfl⟩,?_⟩
 refine bI (fun l6=>?_) fun l6=>?_
 unfold Q
 rw[wL (i:=i) Z9 (fun h=>by rw[Jj l6]at h;exact absurd h.1 Z6)]
 refine⟨⟨0,?_,rfl,rfl,rfl,trivial⟩,?_⟩
 simp
 rintro k ⟨h3,h4⟩
 refine bI (fun n0=>?_) fun n0=>?_
 refine⟨⟨Z9,an (d:=l5) Z9⟩,trivial,⟨Z9,an (d:=l5) Z9⟩,trivial,?_⟩
 refine bI (fun w5=>?_) fun w5=>?_
 unfold Q
 rw[wL (i:=i) Z9 (fun h=>h.2 k Z9 w5)]
 refine⟨Z9,?_⟩
 refine⟨k+1,?_,?_,rfl,rfl,rfl,trivial⟩
 exact⟨Z9,uM h4 w5⟩
 exact Z1
 refine⟨Z9,?_⟩
 refine⟨i+1,?_,?_,rfl,rfl,trivial⟩
 unfold js
 exact⟨Z9,uM h2 ⟨JC l6,fun k' E2=>h4 k' Z9⟩⟩
 exact Z1
 unfold Q
 rw[Bz (fun j hj=>h2 j Z9),List.length_map]
 refine congrArg bV ?_
 unfold D2
 rw[Bool.eq_iff_iff];simp;omega)
def lz(s:BL)(p:BL):o8 Tryz.prog:=.mk 150 [sV s,sV p] [] ((s.length<=4611686018427387904)/\(p.length<=4611686018427387904)) (bV (eX s p)) [] (by
 rintro⟨hs,hp⟩
 refine az (N:=18) (rs:=[.tmp 4]) Tryz.func150
  (.q 1<|.q 14<|.nil)
  ((fun v1:Bool=>(Gd (v1==true) (Sx (0:Int) (p.length:Int) s)/\Pk v1 (v1==true) true/\Q (bV (v1&&(((s.take p.length).drop ((0:Int).toNat))==p))) (bV (eX s p)))) (z6 (s.length:Int) (p.length:Int))) ?_
 refine⟨fun hG=>by(try simp only[nb]at hG);omega,⟨fun h=>by rw[h] <;> rfl,fun _=>rfl⟩,?_⟩
 unfold Q
 refine congrArg bV ?_
 unfold eX
 rw[Bool.eq_iff_iff];simp)
def lH(s:BL)(p:BL):o8 Tryz.prog:=.mk 189 [sV s,sV p] [] ((s.length<=4611686018427387904)/\(p.length<=4611686018427387904)) (bV (gn s p)) [] (by
 rintro⟨hs,hp⟩
 refine az (N:=21) (rs:=[.tmp 4]) Tryz.func189
  (.q 1<|.q 17<|.nil)
  ((fun v1:Bool=>(Gd (v1==true) (m9 ((s.length:Int)-(p.length:Int)))/\Gd (v1==true) (Sx ((s.length:Int)-(p.length:Int)) (s.length:Int) s)/\Pk v1 (v1==true) true/\Q (bV (v1&&(((s.take s.length).drop (Int.toNat ((s.length:Int)-(p.length:Int))))==p))) (bV (gn s p)))) (z6 (s.length:Int) (p.length:Int))) ?_
 refine⟨fun hG=>by(try simp only[nb]at hG);omega,fun hG=>by(try simp only[nb]at hG);omega,⟨fun h=>by rw[h] <;> rfl,fun _=>rfl⟩,?_⟩
 unfold Q
 refine congrArg bV ?_
 unfold gn
 rw[Bool.eq_iff_iff];simp)
def oG(s:BL)(p:BL):o8 Tryz.prog:=.mk 186 [sV s,sV p] [] ((s.length<=4611686018427387904)/\(p.length<=4611686018427387904)) (sV (cm s p)) [] (by
 rintro⟨hs,hp⟩
 refine az (N:=16) (rs:=[.tmp 4]) Tryz.func186
  (.q 1<|.q 2<|.c (lH s p) []<|.br (.q 8<|.nil) (.q 2<|.nil))
  ((lH s p).sm/\((s.length<=4611686018427387904)/\(p.length<=4611686018427387904))/\Br (gn s p) (m9 ((s.length:Int)-(p.length:Int))/\Sx (0:Int) ((s.length:Int)-(p.length:Int)) s/\Q (sV ((s.take (Int.toNat ((s.length:Int)-(p.length:Int)))).drop ((0:Int).toNat))) (sV (cm s p))) (Q (sV s) (sV (cm s p)))) ?_
 refine⟨rfl,⟨Z5,Z5⟩,?_⟩
 refine bI (fun j9=>?_) fun j9=>?_
 refine⟨Z9,by have:=uX j9;omega,?_⟩
 unfold Q
 have:=uX j9
 rw[show cm s p=s.take (s.length-p.length) from if_pos j9]
 simp
 unfold Q
 rw[show cm s p=s from if_neg (by rw[j9];decide)])
def ky(d:BL):o8 Tryz.prog:=.mk 86 [sV d] [] (d.length<=4000000000000000000) (sV (ae d)) [] (by
 intro hh
 refine az (N:=6) (rs:=[.tmp 2]) Tryz.func86
  (.q 1<|.q 4<|.nil)
  ((([47,47]:BL).length+d.length<=4611686018427387904)/\((([47,47]:BL)++d).length+([47,110,111,116,105,99,101]:BL).length<=4611686018427387904)/\Q (sV ((([47,47]:BL)++d)++([47,110,111,116,105,99,101]:BL))) (sV (ae d))) ?_
 refine⟨Z3,Z3,?_⟩
 unfold Q
 rfl)
def qV(s:BL)(p:BL):o8 Tryz.prog:=.mk 166 [sV s,sV p] [] ((s.length<=4611686018427387904)/\(p.length<=4611686018427387904)) (sV (cm s p)) [] (by
 rintro⟨hs,hp⟩
 refine az (N:=8) (rs:=[.tmp 4]) Tryz.func166
  (.q 1<|.q 2<|.c (oG s p) []<|.q 1<|.nil)
  ((oG s p).sm/\((s.length<=4611686018427387904)/\(p.length<=4611686018427387904))/\Q (sV (cm s p)) (sV (cm s p))) ?_
 refine⟨rfl,⟨Z5,Z5⟩,?_⟩
 unfold Q
 rfl)
def qk(s:BL)(p:BL):o8 Tryz.prog:=.mk 171 [sV s,sV p] [] ((s.length<=4611686018427387904)/\(p.length<=4611686018427387904)) (.tup [sV (cm s p),bV (gn s p)]) [] (by
 rintro⟨hs,hp⟩
 refine az (N:=18) (rs:=[.tmp 4,.tmp 5]) Tryz.func171
  (.q 2<|.q 2<|.c (lH s p) []<|.q 1<|.br (.q 3<|.nil) (.q 9<|.nil))
  ((lH s p).sm/\((s.length<=4611686018427387904)/\(p.length<=4611686018427387904))/\Br (!(gn s p)) (Q (.tup [sV s,bV false]) (.tup [sV (cm s p),bV (gn s p)])) (m9 ((s.length:Int)-(p.length:Int))/\Sx (0:Int) ((s.length:Int)-(p.length:Int)) s/\Q (.tup [sV ((s.take (Int.toNat ((s.length:Int)-(p.length:Int)))).drop ((0:Int).toNat)),bV true]) (.tup [sV (cm s p),bV (gn s p)]))) ?_
 refine⟨rfl,⟨Z5,Z5⟩,?_⟩
 refine bI (fun j9=>?_) fun j9=>?_
 unfold Q
 have j9:gn s p=false:=by simpa using j9
 rw[show cm s p=s from if_neg (by rw[j9];decide),j9]
 refine⟨Z9,by have:=uX (s:=s) (p:=p) (by simpa using j9);omega,?_⟩
 unfold Q
 have j9:gn s p=true:=by simpa using j9
 have:=uX j9
 rw[show cm s p=s.take (s.length-p.length) from if_pos j9,j9]
 simp)
def qq(s:BL):o8 Tryz.prog:=.mk 157 [sV s] [] (s.length<=4611686018427387904) (bV ((s==[42])||bh s)) [] (by
 intro hs
 refine az (N:=9) (rs:=[.tmp 2]) Tryz.func157
  (.q 1<|.q 4<|.cg (ew s)<|.q 2<|.nil)
  ((fun v1:BL=>(Gd ((s==v1)==false) (((s.length<=4611686018427387904))/\(ew s).sm)/\Pk (s==v1) true ((s==v1)==false)/\Q (bV ((s==v1)||(bh s))) (bV ((s==[42])||bh s)))) ([42]:BL)) ?_
 refine⟨fun hG=>⟨by(try simp only[nb]at hG);first | assumption | omega | (simp;omega),rfl⟩,⟨fun _=>rfl,fun h=>by rw[h] <;> rfl⟩,?_⟩
 unfold Q
 rfl)
def sx(s:BL)(p:BL):o8 Tryz.prog:=.mk 138 [sV s,sV p] [] ((s.length<=4611686018427387904)/\(p.length<=4611686018427387904)) (.tup [sV (cm s p),bV (gn s p)]) [] (by
 rintro⟨hs,hp⟩
 refine az (N:=11) (rs:=[.tmp 4,.tmp 5]) Tryz.func138
  (.q 2<|.q 2<|.c (qk s p) []<|.q 4<|.nil)
  ((qk s p).sm/\((s.length<=4611686018427387904)/\(p.length<=4611686018427387904))/\Q (.tup [sV (cm s p),bV (gn s p)]) (.tup [sV (cm s p),bV (gn s p)])) ?_
 refine⟨rfl,⟨Z5,Z5⟩,?_⟩
 unfold Q
 rfl)
abbrev hY(s:BL)(p:BL):V:=.tup [sV (if eX s p=true then s.drop p.length else s),bV (eX s p)]
def qo(s:BL)(p:BL):o8 Tryz.prog:=.mk 116 [sV s,sV p] [] ((s.length<=4611686018427387904)/\(p.length<=4611686018427387904)) (hY s p) [] (by
 rintro⟨hs,hp⟩
 refine az (N:=15) (rs:=[.tmp 4,.tmp 5]) Tryz.func116
  (.q 2<|.q 2<|.c (lz s p) []<|.q 1<|.br (.q 3<|.nil) (.q 6<|.nil))
  ((lz s p).sm/\((s.length<=4611686018427387904)/\(p.length<=4611686018427387904))/\Br (!(eX s p)) (Q (.tup [sV s,bV false]) (hY s p)) (Sx (p.length:Int) (s.length:Int) s/\Q (.tup [sV ((s.take s.length).drop p.length),bV true]) (hY s p))) ?_
 refine⟨rfl,⟨Z5,Z5⟩,?_⟩
 refine bI (fun j9=>?_) fun j9=>?_
 unfold Q hY
 have j9:eX s p=false:=by simpa using j9
 rw[if_neg (by rw[j9];decide),j9]
 refine⟨by have:=Jc (s:=s) (p:=p) (by simpa using j9);omega,?_⟩
 unfold Q hY
 have j9:eX s p=true:=by simpa using j9
 rw[if_pos j9,j9]
 simp)
abbrev nT(s:BL)(p:BL):V:=.tup [sV (if eX s p=true then s.drop p.length else s),bV (eX s p)]
def sC(s:BL)(p:BL):o8 Tryz.prog:=.mk 82 [sV s,sV p] [] ((s.length<=4611686018427387904)/\(p.length<=4611686018427387904)) (nT s p) [] (by
 rintro⟨hs,hp⟩
 refine az (N:=11) (rs:=[.tmp 4,.tmp 5]) Tryz.func82
  (.q 2<|.q 2<|.c (qo s p) []<|.q 4<|.nil)
  ((qo s p).sm/\((s.length<=4611686018427387904)/\(p.length<=4611686018427387904))/\Q (.tup [sV (if eX s p=true then s.drop p.length else s),bV (eX s p)]) (nT s p)) ?_
 refine⟨rfl,⟨Z5,Z5⟩,?_⟩
 unfold Q nT
 rfl)
def nR(b:UInt8):o8 Tryz.prog:=.mk 167 [uN b.toNat] [] True (bV (iQ b)) [] (by
 intro _
 refine az (N:=19) (rs:=[.tmp 2]) Tryz.func167
  (.q 1<|.q 1<|.q 2<|.join (Bool) (fun c=>⟨[(0,uN b.toNat),(4,bV c)],[]⟩) (fun c=>c=decide (b.toNat=47\/b.toNat=42\/b.toNat=63\/b.toNat=37)) (.nil) (.q 2<|.br (.nil) (.q 2<|.br (.nil) (.q 2<|.nil))) (fun c=>.br (.q 1<|.nil) (.q 1<|.c (lb b) []<|.q 9<|.nil)))
  ((fun v1:Int=>(((o6 v1 47)=true->∃ c:Bool,(c=decide (b.toNat=47\/b.toNat=42\/b.toNat=63\/b.toNat=37))/\E (uN b.toNat)/\Q (bV (o6 v1 47)) (bV c)/\True)/\((o6 v1 47)=false->Br (o6 v1 42) (∃ c:Bool,(c=decide (b.toNat=47\/b.toNat=42\/b.toNat=63\/b.toNat=37))/\E (uN b.toNat)/\Q (bV (o6 v1 42)) (bV c)/\True) (Br (o6 v1 63) (∃ c:Bool,(c=decide (b.toNat=47\/b.toNat=42\/b.toNat=63\/b.toNat=37))/\E (uN b.toNat)/\Q (bV (o6 v1 63)) (bV c)/\True) (∃ c:Bool,(c=decide (b.toNat=47\/b.toNat=42\/b.toNat=63\/b.toNat=37))/\E (uN b.toNat)/\Q (bV (o6 v1 37)) (bV c)/\True)))/\(∀ c:Bool,(c=decide (b.toNat=47\/b.toNat=42\/b.toNat=63\/b.toNat=37))->Br c (Q (bV true) (bV (iQ b))) ((lb b).sm/\(True)/\Gd ((dN b)==false) (Pk (z6 v1 65) (((dN b)==false)&&((z6 v1 65)==true)) true)/\Pk (dN b) true ((dN b)==false)/\Q (bV ((dN b)||((z6 v1 65)&&(D2 v1 70)))) (bV (iQ b)))))) (b.toNat:Int)) ?_
 refine⟨fun j9=>?_,fun j9=>?_,fun c hc=>?_⟩
 try simp only[nb]at j9
 exact⟨o6 (b.toNat:Int) 47,by first | (rw[Bool.eq_iff_iff];simp;omega) | (rw[Bool.eq_iff_iff];simp),rfl,rfl,trivial⟩
 try simp only[nb]at j9
 refine bI (fun l6=>?_) fun l6=>?_
 exact⟨o6 (b.toNat:Int) 42,by first | (rw[Bool.eq_iff_iff];simp;omega) | (rw[Bool.eq_iff_iff];simp),rfl,rfl,trivial⟩
 refine bI (fun n0=>?_) fun n0=>?_
 exact⟨o6 (b.toNat:Int) 63,by first | (rw[Bool.eq_iff_iff];simp;omega) | (rw[Bool.eq_iff_iff];simp),rfl,rfl,trivial⟩
 exact⟨o6 (b.toNat:Int) 37,by first | (rw[Bool.eq_iff_iff];simp;omega) | (rw[Bool.eq_iff_iff];simp),rfl,rfl,trivial⟩
 refine bI (fun w5=>?_) fun w5=>?_
 unfold Q
 have h:b.toNat=47\/b.toNat=42\/b.toNat=63\/b.toNat=37:=by rw[hc,decide_eq_true_eq]at w5;exact w5
 refine congrArg bV ?_
 unfold iQ
 rw[decide_eq_true Z9,Bool.or_true]
 refine⟨rfl,trivial,fun hG=>⟨fun h=>by rw[h];exact(Bool.and_eq_true _ _).mpr ⟨hG,rfl⟩,fun _=>rfl⟩,⟨fun _=>rfl,fun h=>by rw[h] <;> rfl⟩,?_⟩
 unfold Q
 have h: ¬ (b.toNat=47\/b.toNat=42\/b.toNat=63\/b.toNat=37):=by rw[hc,decide_eq_false_iff_not]at w5;exact w5
 refine congrArg bV ?_
 unfold iQ
 congr 1
 rw[Bool.eq_iff_iff];simp only[Bool.and_eq_true,decide_eq_true_eq];omega)
def kb(p:BL):o8 Tryz.prog:=.mk 136 [sV p] [] (p.length<=4611686018427387904) (bV (dA p)) [] (by
 intro hs
 have Tt:(cm p [36]).length<=p.length:=by unfold cm;split <;> simp
 refine az (N:=31) (rs:=[.tmp 2]) Tryz.func136
  (.q 1<|.q 13<|.br (.q 1<|.nil) (.q 1<|.c (qV p ([36]:BL)) []<|.q 1<|.q 1<|.loop (Nat) (fun (i:Nat)=>⟨[(3,sV (cm p [36])),(4,iN i)],[]⟩) (fun (i:Nat)=>i<=(cm p [36]).length/\∀ j,j<i->iQ ((cm p [36]).getD j 0)=true) (fun (i:Nat)=>(cm p [36]).length-i) (fun (i:Nat)=>.q 4<|.br (.q 3<|.c (nR ((cm p [36]).getD i 0)) []<|.q 1<|.br (.q 1<|.nil) (.q 3<|.nil)) (.q 1<|.nil))))
  ((fun v1:Int=>(Pk (s8 v1 1) true ((s8 v1 1)==false)/\Gd (((s8 v1 1)||(s9 v1 16))==false) (Ix 0 p)/\Pk ((s8 v1 1)||(s9 v1 16)) true (((s8 v1 1)||(s9 v1 16))==false)/\Br (((s8 v1 1)||(s9 v1 16))||(E1 (((p.getD 0 0).toNat:Nat):Int) 47)) (Q (bV false) (bV (dA p))) ((qV p ([36]:BL)).sm/\((p.length<=4611686018427387904)/\(([36]:BL).length<=4611686018427387904))/\(∃ j7:Nat,(j7<=(cm p [36]).length/\∀ j,j<j7->iQ ((cm p [36]).getD j 0)=true)/\Q (sV (cm p ([36]:BL))) (sV (cm p [36]))/\Q (iN 0) (iN j7)/\True)/\∀ i:Nat,(i<=(cm p [36]).length/\∀ j,j<i->iQ ((cm p [36]).getD j 0)=true)->Br (s8 (i:Int) (((cm p [36]).length:Nat):Int)) (Ix (i:Int) (cm p [36])/\(nR ((cm p [36]).getD i 0)).sm/\(True)/\Br (!(iQ ((cm p [36]).getD i 0))) (Q (bV false) (bV (dA p))) (m9 ((i:Int)+1)/\∃ c5:Nat,(c5<=(cm p [36]).length/\∀ j,j<c5->iQ ((cm p [36]).getD j 0)=true)/\((cm p [36]).length-c5<(cm p [36]).length-i)/\E (sV (cm p [36]))/\Q (iN (i+1)) (iN c5)/\True)) (Q (bV true) (bV (dA p)))))) (p.length:Int)) ?_
 refine⟨⟨fun _=>rfl,fun h=>by rw[h] <;> rfl⟩,fun hG=>by(try simp only[nb]at hG);omega,⟨fun _=>rfl,fun h=>by rw[h] <;> rfl⟩,?_⟩
 refine bI (fun j9=>?_) fun j9=>?_
 unfold Q
 refine congrArg bV ?_
 unfold dA
 rw[decide_eq_false Z9];rfl
 refine⟨rfl,⟨Z9,Z8⟩,?_⟩
 refine⟨⟨0,?_,Z4,rfl,trivial⟩,?_⟩
 simp
 rintro i ⟨h1,h2⟩
 refine bI (fun l6=>?_) fun l6=>?_
 refine⟨Z9,rfl,trivial,?_⟩
 refine bI (fun n0=>?_) fun n0=>?_
 unfold Q
 refine congrArg bV ?_
 unfold dA
 rw[all_false (i:=i) (d:=0) Z9 (by simpa using n0),Bool.and_false]
 refine⟨Z9,?_⟩
 refine⟨i+1,?_,?_,rfl,rfl,trivial⟩
 exact⟨Z9,bP h2 (by simpa using n0)⟩
 exact Z1
 unfold Q
 refine congrArg bV ?_
 unfold dA
 rw[all_true (d:=0) (fun j hj=>h2 j Z9),decide_eq_true Z9];rfl)
end Go.Proofs.YtbjbamjffkanbaaGreatDoor
namespace Go.Pd
def cI(a:s4):Prop:=a.h9.length<=1000/\a.ask.length<=1000/\a.b9.length<=500/\∀ i,(a.b9.getD i []).length<=1000
theorem wR{ps:List BL}(h:∀ i,(ps.getD i []).length<=1000):∀ i,i<=ps.length->(bZ (ps.take i)).length<=i*1001
 | 0,_=>by simp[bZ]
 | i+1,hi=>by
   have:=wR h i Z9
   have h2:=h i
   rw[bj (by omega:i<ps.length) [],me]
   split
   omega
   simp only[List.length_append,List.length_cons,List.length_nil];omega
theorem cI.join{a:s4}(h:cI a):(bZ a.b9).length<=500500:=by
 obtain⟨h1,h2,h3,h4⟩:=h
 have:=wR h4 a.b9.length (Nat.le_refl _)
 rw[List.take_length]at this;omega
theorem cI.path{a:s4}(h:cI a):(bm a).length<=502000:=by
 have:=h.join
 obtain⟨h1,h2,h3,h4⟩:=h
 unfold bm
 split <;> simp <;> omega
theorem cI.text{a:s4}(h:cI a):(cC a).length<=504000:=by
 have:=h.path
 have:=h.1
 unfold cC
 simp;omega
theorem LJ{h q:BL}{fr ls:List BL}{k:Bool}(hh:h.length<=1000)(hf:∀ i,(fr.getD i []).length<=1000)(hl:fr.length+ls.length<=500):cI ⟨h,bR (fr++ls.map eG),k,eG q⟩:=by
 refine⟨hh,?_,?_,fun i=>?_⟩
 have:=qa q;simp only[eG];omega
 have:=wq (fr++ls.map eG);simp only[List.length_append,List.length_map]at this ⊢;omega
 refine kQ (n:=1000) (fun p Uu=>?_) i
 rcases List.mem_append.1 (wC Uu) with h | h
 obtain⟨j,hj,rfl⟩:=List.getElem_of_mem h
 have:=hf j
 rwa [List.getD_eq_getElem?_getD,List.getElem?_eq_getElem hj]at this
 obtain⟨y,_,rfl⟩:=List.mem_map.1 h
 have:=qa y;simp only[eG];omega
theorem rh{a:s4}(h:aI a=true):cI a:=by
 unfold aI at h
 simp only[Bool.and_eq_true,decide_eq_true_eq]at h
 obtain⟨⟨⟨⟨⟨h1,h2⟩,h3⟩,h4⟩,h5⟩,h6⟩:=h
 refine⟨?_,?_,Z9,fun i=>kQ (n:=1000) (fun p hp=>?_) i⟩
 have:a.h9.length<=(cC a).length:=by unfold cC;simp;omega
 omega
 have:=nG h3;omega
 have h5:=List.all_eq_true.1 h5 p hp
 unfold dV at h5
 simp only[Bool.and_eq_true]at h5
 have:=nG h5.1.1.1;omega
theorem ri:cI (oA none):=⟨by simp[oA],by simp[oA],by simp[oA],by simp[oA]⟩
theorem KP(h:BL)(fr:List BL)(n8:BL):cI (oA (bu h fr n8)):=by
 unfold bu
 split
 split
 rename_i h2;exact rh h2
 exact ri
 exact ri
theorem mZ(s:BL):cI (oA (ar s)):=by
 unfold ar
 split
 exact KP _ _ _
 exact ri
theorem oX{h:BL}{fr:List BL}{n8:BL}(hs:(bu h fr n8).isSome=true):aI (oA (bu h fr n8))=true:=by
 unfold bu at hs ⊢
 split
 split
 rename_i h2;exact h2
 rename_i h1 h2;rw[if_pos h1,if_neg h2]at hs;simp at hs
 rename_i h1;rw[if_neg h1]at hs;simp at hs
theorem gW{s:BL}(hs:(ar s).isSome=true):aI (oA (ar s))=true:=by
 unfold ar at hs ⊢
 split
 rename_i h;rw[if_pos h]at hs;exact oX hs
 rename_i h;rw[if_neg h]at hs;simp at hs
def cq(s:BL):Option s4:=if eX s [47,47]=true then da (s.drop 2) else none
theorem rX{s p:BL}:eX s p=true↔p.length<=s.length/\s.take p.length=p:=by unfold eX;simp
theorem zW{raw:BL}(h:raw.length<=60):ar raw=cq (ag 35 raw).1:=by
 unfold ar cq
 by_cases hp:eX (ag 35 raw).1 [47,47]=true
 have:=rX.1 hp
 rw[if_pos hp,if_pos ⟨h,this.1,this.2⟩]
 rw[if_neg hp,if_neg]
 rintro⟨_,h1,h2⟩
 exact hp (rX.2 ⟨h1,h2⟩)
theorem tW{raw:BL}(h: ¬ raw.length<=60):ar raw=none:=if_neg fun c=>h c.1
theorem m4.take{s:BL}(h:m4 s)(n:Nat):m4 (s.take n):=fun c hc=>h c (List.mem_of_mem_take hc)
theorem m4.drop{s:BL}(h:m4 s)(n:Nat):m4 (s.drop n):=fun c hc=>h c (List.mem_of_mem_drop hc)
theorem AT(c:UInt8):∀ (s:BL) x,x∈(ag c s).1->x∈s
 | [],x,h=>by simp[ag]at h
 | b::l,x,h=>by
   simp only[ag]at h
   split at h
   simp at h
   simp only[List.mem_cons]at h ⊢
   exact h.imp id (AT c l x)
theorem m4.cut{s:BL}(h:m4 s)(c:UInt8):m4 (ag c s).1:=fun x hx=>h x (AT c s x hx)
theorem vR{s:BL}(h1:(ar s).isSome=true)(h2:cC (oA (ar s))=s):aD s=true:=by
 unfold aD bB
 rw[h1,if_pos (gW h1),h2];simp
theorem Hp{s:BL}(h:(ar s).isSome=false\/¬ cC (oA (ar s))=s):aD s=false:=by
 unfold aD bB
 rcases Bool.eq_false_or_eq_true (ar s).isSome with h1 | h1
 rw[if_pos (gW h1),h1]
 rcases h with h | h
 rw[h1]at h;cases h
 simpa using h
 rw[h1];rfl
def aB(s:BL):Option s4:=if aD s=true then ar s else none
theorem gH{s:BL}:(aB s).isSome=aD s:=by
 unfold aB
 split
 rename_i h
 rw[h]
 unfold aD at h
 simp only[Bool.and_eq_true]at h;exact h.1
 rename_i h;simp at h;rw[h];rfl
end Go.Pd
namespace Go.Pd
open Go.Abs
def lr(p:Pg):Value:=.agg #[.string (Str p.addr),.string (Str p.text),.string (Str p.lead),.int .i64 p.m0]
def E7(p:Pg):BL×Value:=(p.addr,lr p)
def wE(w:List Pg):List (BL×Value):=w.foldl (fun es p=>eW es p.addr (lr p)) []
theorem pd{w:List Pg}{i:Nat}(h:i<w.length):wE (w.take (i+1))=eW (wE (w.take i)) (w.getD i l5).addr (lr (w.getD i l5)):=by
 unfold wE;rw[bj h l5,List.foldl_append];rfl
theorem wV{k:BL}:∀ {es:List (BL×Value)},cv es k=none↔∀ p,p∈es->p.1≠k
 | []=>by simp[cv]
 | q::r=>by
   unfold cv
   split
   rename_i h;simp[h]
   rename_i h
   rw[wV (es:=r)]
   simp[h]
theorem vV(k:BL)(y:Value):∀ (es:List (BL×Value)),(eW es k y).length=if cv es k=none then es.length+1 else es.length
 | []=>rfl
 | p::r=>by
   unfold eW cv
   split
   simp
   have:=vV k y r
   rw[List.length_cons,this]
   split <;> simp
theorem yo(k:BL)(y:Value):∀ (es:List (BL×Value)) (a:BL),(∃ p,p∈eW es k y/\p.1=a)↔(a=k\/∃ p,p∈es/\p.1=a)
 | [],a=>by simp[eW];exact eq_comm
 | p::r,a=>by
   unfold eW
   split
   rename_i h
   simp only[List.mem_cons,exists_eq_or_imp]
   constructor
   rintro (h1 | h1)
   exact .inl h1.symm
   exact .inr (.inr h1)
   rintro (h1 | h1 | h1)
   exact .inl h1.symm
   exact .inl (by rw[<- h];exact h1)
   exact .inr h1
   have:=yo k y r a
   simp only[List.mem_cons,exists_eq_or_imp,this]
   constructor
   rintro (h1 | h1 | h1)
   exact .inr (.inl h1)
   exact .inl h1
   exact .inr (.inr h1)
   rintro (h1 | h1 | h1)
   exact .inr (.inl h1)
   exact .inl h1
   exact .inr (.inr h1)
def zB(w:List Pg)(n:Nat):Prop:= ∀ i,i<n->∀ k,k<i->(w.getD k l5).addr≠(w.getD i l5).addr
theorem Ak(w:List Pg):∀ i,i<=w.length->∀ a,(∃ p,p∈wE (w.take i)/\p.1=a)↔∃ k,k<i/\(w.getD k l5).addr=a
 | 0,_,a=>by simp[wE]
 | i+1,h,a=>by
   rw[pd Z9,yo,Ak w i Z9]
   constructor
   rintro (h1 | ⟨k,h1,h2⟩)
   exact⟨i,Z9,h1.symm⟩
   exact⟨k,Z9,h2⟩
   rintro⟨k,h1,h2⟩
   by_cases e:k=i
   subst e;exact .inl h2.symm
   exact .inr ⟨k,Z9,h2⟩
theorem vw{w:List Pg}{i:Nat}(h:i<=w.length){a:BL}:cv (wE (w.take i)) a=none↔∀ k,k<i->(w.getD k l5).addr≠a:=by
 rw[wV]
 have:=Ak w i h a
 constructor
 intro h1 k hk c
 obtain⟨p,hp,he⟩:=this.2 ⟨k,hk,c⟩
 exact h1 p hp he
 intro h1 p hp c
 obtain⟨k,hk,he⟩:=this.1 ⟨p,hp,c⟩
 exact h1 k hk he
theorem Dq(w:List Pg):∀ i,i<=w.length->(wE (w.take i)).length<=i/\((wE (w.take i)).length=i↔zB w i)
 | 0,_=>by simp[wE,zB]
 | i+1,h=>by
   obtain⟨h1,h2⟩:=Dq w i Z9
   rw[pd Z9,vV]
   split
   rename_i hl
   rw[vw Z9]at hl
   refine⟨Z9,?_⟩
   constructor
   intro hq j hj k hk
   by_cases e:j=i
   subst e;exact hl k hk
   exact(h2.1 Z9) j Z9 k hk
   intro hd
   have:=h2.2 fun j hj k hk=>hd j Z9 k hk
   omega
   rename_i hl
   refine⟨Z9,?_⟩
   constructor
   intro hq;omega
   intro hd;exact absurd ((vw Z9).2 fun k hk=>hd i Z9 k hk) hl
theorem CN{w:List Pg}:∀ i,i<=w.length->zB w i->wE (w.take i)=(w.take i).map E7
 | 0,_,_=>by simp[wE]
 | i+1,h,hd=>by
   have ih:=CN i Z9 fun j hj k hk=>hd j Z9 k hk
   rw[pd Z9,tf _ _ _ ((vw Z9).2 fun k hk=>hd i Z9 k hk),ih,bj (by omega:i<w.length) l5,List.map_append]
   rfl
theorem Ey{w:List Pg}(h:aq w=true):w.length<=12/\(∀ i,i<w.length->dK (w.getD i l5)=true)/\zB w w.length:=by
 unfold aq at h
 simp only[Bool.and_eq_true,decide_eq_true_eq]at h
 exact⟨h.2,fun i hi=>(h.1 i hi).1,fun i hi=>(h.1 i hi).2⟩
theorem EP{w:List Pg}(h:aq w=false)(h1:w.length<=12)(h2:∀ i,i<w.length->dK (w.getD i l5)=true): ¬ zB w w.length:=fun c=>by
 have:aq w=true:=by
  unfold aq
  simp only[Bool.and_eq_true,decide_eq_true_eq]
  exact⟨fun i hi=>⟨h2 i hi,c i hi⟩,h1⟩
 rw[h]at this;cases this
theorem Bc(a:BL):∀ (w:List Pg),(cv (w.map E7) a=none/\(B3 w a).2=false/\(B3 w a).1=l5)\/(cv (w.map E7) a=some (lr (B3 w a).1)/\(B3 w a).2=true)
 | []=>.inl ⟨rfl,rfl,rfl⟩
 | p::r=>by
   simp only[List.map_cons,cv,B3,E7]
   by_cases h:p.addr=a
   simp[h]
   simp only[h,if_false]
   exact Bc a r
theorem Ff{s:BL}(h:(ar s).isSome=true):s.length<=60:=by
 by_cases hl:s.length<=60
 exact hl
 rw[tW hl]at h;simp at h
end Go.Pd
namespace Go.Pd
def lY(e:Bool):BL->BL->Prop
 | [],t=>e=false\/t=[]
 | c::b,t=>if c=42 then ∃ k,lY e b (t.drop k) else ∃ t',t=c::t'/\lY e b t'
def pZ(e:Bool):List BL->BL->Prop
 | [],t=>e=false\/t=[]
 | q::r,t=> ∃ k,q <+: t.drop k/\pZ e r ((t.drop k).drop q.length)
def SP(e:Bool):List BL->BL->Prop
 | [],_=>False
 | q::r,t=>q <+: t/\pZ e r (t.drop q.length)
theorem qM(c:UInt8):∀ l,aj c l≠[]
 | []=>by simp[aj]
 | b::l=>by unfold aj;split <;> simp
theorem oF(e:Bool):∀ (b t:BL),lY e b t↔SP e (aj 42 b) t
 | [],t=>by simp[lY,aj,SP,pZ]
 | c::b,t=>by
   unfold lY aj
   by_cases h:c=42
   simp only[h,if_true,SP,List.nil_prefix,true_and,List.length_nil,List.drop_zero]
   cases hs:aj 42 b with
   | nil=>exact absurd hs (qM 42 b)
   | cons q r=>
     simp only[pZ]
     constructor
     rintro⟨k,hk⟩;have:=(oF e b _).1 hk;rw[hs]at this;exact⟨k,this⟩
     rintro⟨k,hk⟩;exact⟨k,(oF e b _).2 (by rw[hs];exact hk)⟩
   simp only[h,if_false]
   cases hs:aj 42 b with
   | nil=>exact absurd hs (qM 42 b)
   | cons q r=>
     simp only[List.headD_cons,List.tail_cons,SP]
     constructor
     rintro⟨t',rfl,hk⟩
     have:=(oF e b _).1 hk;rw[hs]at this
     exact⟨List.cons_prefix_cons.2 ⟨rfl,this.1⟩,by simpa using this.2⟩
     rintro⟨h1,h2⟩
     cases t with
     | nil=>simp at h1
     | cons x t'=>
       obtain⟨rfl,h3⟩:=List.cons_prefix_cons.1 h1
       exact⟨t',rfl,(oF e b _).2 (by rw[hs];exact⟨h3,by simpa using h2⟩)⟩
theorem FE{e:Bool}{ps:List BL}{t:BL}{m:Nat}(h:pZ e ps (t.drop m))(hn:e=false\/ps≠[]):pZ e ps t:=by
 cases ps with
 | nil=>exact hn.elim .inl (fun h=>absurd rfl h)
 | cons q r=>
   obtain⟨k,h1,h2⟩:=h
   have he:(t.drop m).drop k=t.drop (m+k):=List.drop_drop ..
   rw[he]at h1 h2
   exact⟨m+k,h1,h2⟩
def U9(s p:BL)(k:Nat):Prop:=k+p.length<=s.length/\(s.drop k).take p.length=p
theorem ui(s p:BL):∀ (n f:Nat),s.length+1-f<=n->(eY s p f<0->∀ k,f<=k->¬ U9 s p k)/\(0<=eY s p f->U9 s p (eY s p f).toNat/\f<=(eY s p f).toNat/\∀ k,f<=k->U9 s p k->(eY s p f).toNat<=k)
 | 0,f,hn=>by
   rw[eY,dif_neg Z9]
   exact⟨fun _ k hk h=>by have:=h.1;omega,fun h=>by omega⟩
 | n+1,f,hn=>by
   rw[eY]
   by_cases h1:f+p.length<=s.length
   rw[dif_pos h1]
   by_cases h2:(s.drop f).take p.length=p
   rw[if_pos h2]
   exact⟨fun h=>by omega,fun _=>⟨⟨h1,h2⟩,Z8,fun k hk _=>by simpa using hk⟩⟩
   rw[if_neg h2]
   obtain⟨i1,i2⟩:=ui s p n (f+1) Z9
   refine⟨fun h k hk ho=>?_,fun h=>?_⟩
   by_cases e:k=f
   subst e;exact h2 ho.2
   exact i1 h k Z9 ho
   obtain⟨j1,j2,j3⟩:=i2 h
   refine⟨j1,Z9,fun k hk ho=>?_⟩
   by_cases e:k=f
   subst e;exact absurd ho.2 h2
   exact j3 k Z9 ho
   rw[dif_neg h1]
   exact⟨fun _ k hk h=>by have:=h.1;omega,fun h=>by omega⟩
theorem sZ{p t:BL}:p <+: t↔p.length<=t.length/\t.take p.length=p:=by
 constructor
 intro h;exact⟨h.length_le,List.prefix_iff_eq_take.1 h |>.symm⟩
 rintro⟨_,h⟩;rw[<- h];exact List.take_prefix _ _
theorem go_sem(e:Bool)(s:BL):∀ (ps:List BL) (f:Nat),f<=s.length->(lx e s f ps=true↔pZ e ps (s.drop f))
 | [],f,hf=>by
   simp only[lx,pZ,Bool.or_eq_true,Bool.not_eq_true',decide_eq_true_eq,List.drop_eq_nil_iff]
   constructor
   rintro (h | h)
   exact .inl h
   exact .inr Z9
   rintro (h | h)
   exact .inl h
   exact .inr Z9
 | p::r,f,hf=>by
   unfold lx
   by_cases hc:(e&&r.isEmpty)=true
   rw[if_pos hc]
   simp only[Bool.and_eq_true,List.isEmpty_iff]at hc
   obtain⟨rfl,rfl⟩:=hc
   simp only[Bool.and_eq_true,decide_eq_true_eq,beq_iff_eq,pZ,Bool.true_eq_false,false_or,List.drop_drop]
   constructor
   rintro⟨h1,h2⟩
   refine⟨s.length-p.length-f,?_,?_⟩
   rw[show f+(s.length-p.length-f)=s.length-p.length from Z9,h2];exact List.prefix_refl _
   rw[List.drop_eq_nil_of_le Z9]
   rintro⟨k,h1,h2⟩
   have hp:=sZ.1 h1
   rw[List.length_drop]at hp
   have h2:=List.drop_eq_nil_iff.1 h2
   by_cases hk:f+k<=s.length
   refine⟨Z9,?_⟩
   rw[show s.length-p.length=f+k from Z9]
   rw[List.take_of_length_le (by rw[List.length_drop];omega)]at hp
   exact hp.2
   have:p=[]:=List.eq_nil_of_length_eq_zero Z9
   subst this
   simp;omega
   rw[if_neg hc]
   have hn:e=false\/r≠[]:=by
    cases e with
    | false=>exact .inl rfl
    | true=>exact .inr fun c=>hc (by rw[c];rfl)
   obtain⟨i1,i2⟩:=ui s p _ f (Nat.le_refl _)
   have Uw:∀ k,p <+: (s.drop f).drop k->∃ m,f<=m/\U9 s p m/\(s.drop f).drop k=s.drop m:=fun k h=>by
    have hp:=sZ.1 h
    rw[List.drop_drop,List.length_drop]at hp
    by_cases hk:f+k<=s.length
    exact⟨f+k,Z9,⟨Z9,hp.2⟩,by rw[List.drop_drop]⟩
    have:p=[]:=List.eq_nil_of_length_eq_zero Z9
    subst this
    refine⟨s.length,hf,⟨Z8,Z8⟩,?_⟩
    rw[List.drop_drop,List.drop_eq_nil_of_le Z9,List.drop_eq_nil_of_le Z9]
   by_cases TD:eY s p f<0
   rw[if_pos TD]
   simp only[Bool.false_eq_true,false_iff]
   rintro⟨k,h1,h2⟩
   obtain⟨m,m1,m2,m3⟩:=Uw k h1
   exact i1 TD m m1 m2
   rw[if_neg TD]
   obtain⟨j1,j2,j3⟩:=i2 Z9
   rw[go_sem e s r _ j1.1]
   constructor
   intro h
   refine⟨(eY s p f).toNat-f,?_,?_⟩
   rw[List.drop_drop,show f+((eY s p f).toNat-f)=(eY s p f).toNat from Z9]
   exact sZ.2 ⟨by rw[List.length_drop];have:=j1.1;omega,j1.2⟩
   rw[List.drop_drop,List.drop_drop,show f+((eY s p f).toNat-f+p.length)=(eY s p f).toNat+p.length from Z9];exact h
   rintro⟨k,h1,h2⟩
   obtain⟨m,m1,m2,m3⟩:=Uw k h1
   have:=j3 m m1 m2
   rw[m3,List.drop_drop]at h2
   refine FE (m:=m-(eY s p f).toNat) ?_ hn
   rw[List.drop_drop,show (eY s p f).toNat+p.length+(m-(eY s p f).toNat)=m+p.length from Z9]
   exact h2
theorem Fq(p s:BL):tw p s=true↔lY (eV p) (bE p) s:=by
 rw[oF]
 unfold tw
 cases hs:aj 42 (bE p) with
 | nil=>exact absurd hs (qM 42 _)
 | cons q r=>
   simp only[List.headD_cons,List.tail_cons,Bool.and_eq_true,List.isPrefixOf_iff_prefix,SP]
   constructor
   rintro⟨h1,h2⟩;exact⟨h1,(go_sem _ s r _ h1.length_le).1 h2⟩
   rintro⟨h1,h2⟩;exact⟨h1,(go_sem _ s r _ h1.length_le).2 h2⟩
def Nv(c:UInt8)(s:BL)(come:List Bool)(j:Nat):Bool:=if c=42 then (come.take (j+1)).any id else decide (0<j)&&(come.getD (j-1) false&&(s.getD (j-1) 0==c))
def lB(s:BL)(come:List Bool)(c:UInt8):List Bool:=(List.range (s.length+1)).map (Nv c s come)
def um(s:BL):List Bool:=(List.replicate (s.length+1) false).set 0 true
def jf(s b:BL):List Bool:=b.foldl (lB s) (um s)
theorem qv(s:BL)(come:List Bool)(c:UInt8):(lB s come c).length=s.length+1:=by simp[lB]
theorem yO(s b:BL):(jf s b).length=s.length+1:=by
 have:∀ (b:BL) (come:List Bool),come.length=s.length+1->(b.foldl (lB s) come).length=s.length+1:=by
  intro b;induction b with
  | nil=>intro come h;exact h
  | cons c b ih=>intro come _;exact ih _ (qv s come c)
 exact this b _ (by simp[um])
theorem lP{s:BL}{come:List Bool}{c:UInt8}{j:Nat}(h:j<=s.length):(lB s come c).getD j false=Nv c s come j:=by
 simp[lB,List.getD_eq_getElem?_getD,List.getElem?_map,List.getElem?_range,Nat.lt_succ_of_le h]
def Rm(e:Bool)(s:BL)(come:List Bool)(b:BL):Prop:= ∃ j,j<=s.length/\come.getD j false=true/\lY e b (s.drop j)
theorem tl{l:List Bool}{n:Nat}:(l.take n).any id=true↔∃ j,j<n/\l.getD j false=true:=by
 rw[List.any_eq_true]
 constructor
 rintro⟨x,hx,h⟩
 obtain⟨j,hj⟩:=List.mem_iff_getElem?.1 hx
 rw[List.getElem?_take]at hj
 split at hj
 rename_i hlt
 exact⟨j,hlt,by rw[List.getD_eq_getElem?_getD,hj];simpa using h⟩
 simp at hj
 rintro⟨j,hj,h⟩
 refine⟨true,?_,rfl⟩
 rw[List.mem_iff_getElem?]
 refine⟨j,?_⟩
 rw[List.getElem?_take,if_pos hj]
 rw[List.getD_eq_getElem?_getD]at h
 cases hl:l[j]? with
 | none=>rw[hl]at h;simp at h
 | some x=>rw[hl]at h;simp at h;rw[h]
theorem FV{e:Bool}{s:BL}{come:List Bool}{c:UInt8}{b:BL}:Rm e s come (c::b)↔Rm e s (lB s come c) b:=by
 unfold Rm
 constructor
 rintro⟨j,h1,h2,h3⟩
 unfold lY at h3
 by_cases hc:c=42
 rw[if_pos hc]at h3
 obtain⟨k,h3⟩:=h3
 by_cases hk:j+k<=s.length
 refine⟨j+k,hk,?_,by rw[List.drop_drop]at h3;exact h3⟩
 rw[lP hk,Nv,if_pos hc,tl]
 exact⟨j,Z9,h2⟩
 refine⟨s.length,Nat.le_refl _,?_,?_⟩
 rw[lP (Nat.le_refl _),Nv,if_pos hc,tl]
 exact⟨j,Z9,h2⟩
 rw[List.drop_drop,List.drop_eq_nil_of_le Z9]at h3
 rw[List.drop_eq_nil_of_le (Nat.le_refl _)];exact h3
 rw[if_neg hc]at h3
 obtain⟨t',h3,h4⟩:=h3
 have hj:j<s.length:=by
  by_cases hj:j<s.length
  exact hj
  rw[List.drop_eq_nil_of_le Z9]at h3;cases h3
 rw[drop_cons hj 0,List.cons.injEq]at h3
 refine⟨j+1,Z9,?_,by rw[h3.2];exact h4⟩
 rw[lP Z9,Nv,if_neg hc]
 simp only[Nat.add_sub_cancel,h2,h3.1];simp
 rintro⟨j,h1,h2,h3⟩
 rw[lP h1,Nv]at h2
 by_cases hc:c=42
 rw[if_pos hc,tl]at h2
 obtain⟨i,hi,h2⟩:=h2
 refine⟨i,Z9,h2,?_⟩
 unfold lY;rw[if_pos hc]
 exact⟨j-i,by rw[List.drop_drop,show i+(j-i)=j from Z9];exact h3⟩
 rw[if_neg hc]at h2
 simp only[Bool.and_eq_true,decide_eq_true_eq,beq_iff_eq]at h2
 obtain⟨h4,h5,h6⟩:=h2
 refine⟨j-1,Z9,h5,?_⟩
 unfold lY;rw[if_neg hc]
 refine⟨s.drop j,?_,h3⟩
 rw[drop_cons (by omega:j-1<s.length) 0,h6,show j-1+1=j from Z9]
theorem yd{e:Bool}{s:BL}:∀ (b:BL) {come:List Bool},Rm e s come b↔Rm e s (b.foldl (lB s) come) []
 | [],come=>Iff.rfl
 | c::b,come=>by rw[FV,List.foldl_cons];exact yd b
theorem KY{e:Bool}{s b:BL}:Rm e s (um s) b↔lY e b s:=by
 unfold Rm um
 constructor
 rintro⟨j,h1,h2,h3⟩
 rw[List.getD_eq_getElem?_getD,List.getElem?_set]at h2
 split at h2
 rename_i h;rw[<- h]at h3;simpa using h3
 rw[List.getElem?_replicate]at h2;split at h2 <;> simp at h2
 intro h;exact⟨0,Nat.zero_le _,by simp[List.getD_eq_getElem?_getD],by simpa using h⟩
def zJ(p s:BL):Bool:=if eV p=true then (jf s (bE p)).getD s.length false else (jf s (bE p)).contains true
theorem Ji(p s:BL):zJ p s=tw p s:=by
 rw[Bool.eq_iff_iff,Fq,<- KY,yd]
 show _↔Rm (eV p) s (jf s (bE p)) []
 unfold zJ Rm lY
 cases eV p with
 | true=>
   simp only[if_true,Bool.true_eq_false,false_or,List.drop_eq_nil_iff]
   constructor
   intro h;exact⟨s.length,Nat.le_refl _,h,Nat.le_refl _⟩
   rintro⟨j,h1,h2,h3⟩;rw[show s.length=j from Z9];exact h2
 | false=>
   simp only[Bool.false_eq_true,if_false,true_or,and_true,List.contains_iff_mem]
   have hl:=yO s (bE p)
   constructor
   intro h
   obtain⟨j,hj⟩:=List.mem_iff_getElem?.1 h
   have:=(List.getElem?_eq_some_iff.1 hj).1
   exact⟨j,Z9,by rw[List.getD_eq_getElem?_getD,hj];rfl⟩
   rintro⟨j,h1,h2⟩
   rw[List.getD_eq_getElem?_getD]at h2
   cases hq:(jf s (bE p))[j]? with
   | none=>rw[hq]at h2;simp at h2
   | some x=>rw[hq]at h2;simp at h2;rw[h2]at hq;exact List.mem_of_getElem? hq
theorem vC{p:BL}(h:1<=p.length):gn p [36]=eV p:=by
 unfold gn eV
 rw[List.length_singleton,decide_eq_true h,Bool.true_and,drop_cons (by omega:p.length-1<p.length) 0,List.drop_eq_nil_of_le Z9,Bool.eq_iff_iff]
 simp only[beq_iff_eq,decide_eq_true_eq,List.cons.injEq,and_true]
 rw[<- UInt8.toNat_inj];rfl
theorem rA{p:BL}(h:1<=p.length):cm p [36]=bE p:=by
 unfold cm bE
 rw[vC h];rfl
theorem oU(p:BL):dA p=aO p:=by
 by_cases h:1<=p.length
 have hp36:iQ 36=false:=Z6
 unfold dA aO
 rw[rA h,Bool.eq_iff_iff]
 simp only[Bool.and_eq_true,decide_eq_true_eq]
 have key:(bE p).all iQ=true↔∀ j,j<p.length->kN p j=true:=by
  rw[List.all_eq_true]
  unfold bE
  by_cases he:eV p=true
  rw[if_pos he]
  have he:(p.getD (p.length-1) 0).toNat=36:=by unfold eV at he;simpa using he
  constructor
  intro hx j hj
  unfold kN
  by_cases e:j=p.length-1
  rw[e,he,show decide (p.length-1+1=p.length)=true from decide_eq_true Z9];simp
  have:p.getD j 0∈p.take (p.length-1):=by
   rw[List.mem_iff_getElem?]
   exact⟨j,by rw[List.getElem?_take,if_pos Z9,List.getD_eq_getElem?_getD,List.getElem?_eq_getElem hj];rfl⟩
  rw[hx _ this];rfl
  intro hx x hm
  obtain⟨j,hj⟩:=List.mem_iff_getElem?.1 hm
  rw[List.getElem?_take]at hj
  split at hj
  rename_i hlt
  have Pl:=(List.getElem?_eq_some_iff.1 hj).1
  have:=hx j Pl
  unfold kN at this
  rw[show decide (j+1=p.length)=false from decide_eq_false Z9,Bool.and_false,Bool.or_false,List.getD_eq_getElem?_getD,hj]at this
  exact this
  simp at hj
  rw[if_neg he]
  have he: ¬ (p.getD (p.length-1) 0).toNat=36:=by unfold eV at he;simpa using he
  constructor
  intro hx j hj
  unfold kN
  have:p.getD j 0∈p:=by
   rw[List.mem_iff_getElem?]
   exact⟨j,by rw[List.getD_eq_getElem?_getD,List.getElem?_eq_getElem hj];rfl⟩
  rw[hx _ this];rfl
  intro hx x hm
  obtain⟨j,hj⟩:=List.mem_iff_getElem?.1 hm
  have Pl:=(List.getElem?_eq_some_iff.1 hj).1
  have:=hx j Pl
  unfold kN at this
  have hg:p.getD j 0=x:=by rw[List.getD_eq_getElem?_getD,hj];rfl
  rw[hg]at this
  simp only[Bool.or_eq_true,Bool.and_eq_true,decide_eq_true_eq]at this
  rcases this with h1 | ⟨h1,h2⟩
  exact h1
  exact absurd (by rw[show p.length-1=j from Z9,hg];exact h1) he
 rw[key]
 constructor
 rintro⟨⟨h1,h2,h3⟩,h4⟩;exact⟨h1,h2,h3,h4⟩
 rintro⟨h1,h2,h3,h4⟩;exact⟨⟨h1,h2,h3⟩,h4⟩
 unfold dA aO
 rw[decide_eq_false (fun c=>h c.1),decide_eq_false (fun c=>h c.1)];rfl
def ef:List Bool->Bool->Int
 | [],_=> -1
 | x::r,b=>if x=b then 0 else if ef r b<0 then -1 else ef r b+1
theorem pt:∀ {l:List Bool} {b:Bool} {i:Nat},i<l.length->l.getD i false=b->(∀ j,j<i->l.getD j false≠b)->ef l b=i
 | [],_,_,h,_,_=>by simp at h
 | x::r,b,0,_,h,_=>by simp at h;simp[ef,h]
 | x::r,b,i+1,hl,h,hn=>by
   have h0:x≠b:=by have:=hn 0 Z9;simpa using this
   have:=pt (l:=r) (i:=i) (by simpa using hl) (by simpa using h) (fun j hj=>by have:=hn (j+1) Z9;simpa using this)
   unfold ef
   rw[if_neg h0,this,if_neg Z9];simp
theorem oc:∀ {l:List Bool} {b:Bool},(∀ j,j<l.length->l.getD j false≠b)->ef l b= -1
 | [],_,_=>rfl
 | x::r,b,hn=>by
   have h0:x≠b:=by have:=hn 0 Z8;simpa using this
   have:=oc (l:=r) (b:=b) (fun j hj=>by have:=hn (j+1) (by simpa using hj);simpa using this)
   unfold ef
   rw[if_neg h0,this];rfl
theorem pf:∀ (l:List Bool) (b:Bool),decide (0<=ef l b)=l.contains b
 | [],_=>rfl
 | x::r,b=>by
   have ih:=pf r b
   unfold ef
   by_cases h:x=b
   subst h;simp
   rw[if_neg h,List.contains_cons,show (b==x)=false from by simp;exact fun c=>h c.symm,Bool.false_or,<- ih]
   congr 1
   apply propext
   split <;> omega
theorem EW{s:BL}{come:List Bool}{j:Nat}(h:j<come.length):Nv 42 s come j=(come.getD j false||(decide (0<j)&&Nv 42 s come (j-1))):=by
 unfold Nv
 simp only[if_true]
 rw[bj h false,List.any_append]
 simp only[List.any_cons,List.any_nil,id,Bool.or_false]
 rw[Bool.or_comm]
 congr 1
 by_cases hj:0<j
 rw[show j-1+1=j from Z9,decide_eq_true hj];rfl
 rw[show j=0 from Z9];rfl
theorem Av{l:List Bool}{i:Nat}{x:Bool}(h:i<l.length):(l.set i x).getD i false=x:=by
 simp[List.getD_eq_getElem?_getD,h]
theorem AB{l:List Bool}{i j:Nat}{x:Bool}(h:j≠i):(l.set i x).getD j false=l.getD j false:=by
 simp only[List.getD_eq_getElem?_getD,List.getElem?_set_ne (Ne.symm h)]
theorem EG{s:BL}{come nx:List Bool}{c:UInt8}(h1:nx.length=s.length+1)(h2:∀ j,j<s.length+1->nx.getD j false=Nv c s come j):nx=lB s come c:=by
 apply List.ext_getElem?
 intro j
 by_cases hj:j<s.length+1
 have h3:=h2 j hj
 rw[<- lP (by omega:j<=s.length) (come:=come) (c:=c)]at h3
 have hl:=qv s come c
 rw[List.getD_eq_getElem?_getD,List.getD_eq_getElem?_getD,List.getElem?_eq_getElem Z9,List.getElem?_eq_getElem Z9]at h3
 rw[List.getElem?_eq_getElem Z9,List.getElem?_eq_getElem Z9]
 simpa using h3
 have hl:=qv s come c
 rw[List.getElem?_eq_none Z9,List.getElem?_eq_none Z9]
theorem CZ{s b:BL}{i:Nat}(h:i<b.length):jf s (b.take (i+1))=lB s (jf s (b.take i)) (b.getD i 0):=by
 unfold jf;rw[bj h 0,List.foldl_append];rfl
theorem CG{p:BL}(h:dA p=true):1<=p.length:=by
 unfold dA at h
 simp only[Bool.and_eq_true,decide_eq_true_eq]at h;exact h.1.1
theorem Ee{p s:BL}(h:dA p=false\/60<(s.length:Int)):cw p s=false:=by
 unfold cw
 rw[<- oU]
 rcases h with h | h
 rw[h];rfl
 rw[decide_eq_false Z9];simp
theorem wW{p s:BL}(h:dA p=true/\(s.length:Int)<=60):cw p s=zJ p s:=by
 unfold cw
 rw[<- oU,h.1,decide_eq_true Z9,Ji];rfl
end Go.Pd
namespace Go.Pd
open Go.Abs
inductive Ln where
 | none
 | caller (n:BL)
 | Ox (l:Bool) (p:BL)
 | wait (v:Nat)
def Bs:Ln->Value
 | .none=>.nilIface
 | .caller n=>.iface 210 (.agg #[.string (Str n)])
 | .Ox l p=>.iface 212 (.agg #[.bool l,.string (Str p)])
 | .wait v=>.iface 215 (.agg #[.int .i64 (v:Int)])
def lu(gs:List l3)(b:Bool)(n:BL):List l3×Bool:=if gs=[]\/b=true then (gs++[⟨[n],[],0⟩],false) else (cS gs fun z=>⟨z.na++[n],z.ru,z.wa⟩,b)
def jc(gs:List l3)(b:Bool)(l:Bool)(p:BL):List l3×Bool:=if gs=[] then (gs,b) else if gZ gs<6 then (cS gs fun z=>⟨z.na,z.ru++[⟨l,p⟩],z.wa⟩,true) else (gs,true)
def lA(gs:List l3)(b:Bool)(v:Nat):List l3×Bool:=if gs=[] then (gs,b) else (cS gs fun z=>⟨z.na,z.ru,v⟩,true)
def fR(gs:List l3)(b:Bool):Ln->List l3×Bool
 | .none=>(gs,b)
 | .caller n=>lu gs b n
 | .Ox l p=>jc gs b l p
 | .wait v=>lA gs b v
def fh(w r:BL):Ln:=if w=[99,97,108,108,101,114] then .caller r else if w=[108,101,116]\/w=[98,97,114] then .Ox (w==[108,101,116]) r else if w=[119,97,105,116] then .wait (iK r 20).toNat else .none
def gT(w r:BL):Bool:=if w=[99,97,108,108,101,114] then (r==[42])||bh r else if w=[108,101,116]\/w=[98,97,114] then aO r else if w=[119,97,105,116] then true else false
def Jn(x:List l3×Bool):Prop:=0<gZ x.1->x.2=true
def mb(x:List l3×Bool)(l:BL):List l3×Bool:=if gT (ag 32 l).1 (ag 32 l).2.1=true then fR x.1 x.2 (fh (ag 32 l).1 (ag 32 l).2.1) else x
theorem Bx{gs:List l3}{f:l3->l3}(h:gs≠[]):gZ (cS gs f)=(f (gs.getLast h)).ru.length:=by
 obtain⟨z,hz⟩:=jL h
 subst hz
 rw[dQ,mc];simp
theorem step_eq{x:List l3×Bool}(hJ:Jn x)(l:BL):mb x l=cD x l/\Jn (cD x l):=by
 obtain⟨gs,b⟩:=x
 unfold mb cD
 generalize (ag 32 l).1=w
 generalize (ag 32 l).2.1=r
 unfold eZ
 simp only
 by_cases h1:w=[99,97,108,108,101,114]
 subst h1
 have e1:gT [99,97,108,108,101,114] r=((r==[42])||bh r):=if_pos rfl
 have e2:fh [99,97,108,108,101,114] r=.caller r:=if_pos rfl
 rw[e1,e2]
 by_cases h2:r=[42]\/bh r=true
 have h3:((r==[42])||bh r)=true:=by simpa using h2
 rw[if_pos h3,if_pos ⟨rfl,h2⟩]
 simp only[fR,lu]
 by_cases h4:gs=[]\/b=true
 rw[if_pos h4,if_pos h4.symm]
 refine⟨rfl,?_⟩
 intro hc;simp[mc]at hc
 rw[if_neg h4,if_neg (fun c=>h4 c.symm)]
 have h5:gs≠[]/\b=false:=by simpa using h4
 refine⟨by rw[h5.2],?_⟩
 intro hc
 rw[Bx h5.1]at hc
 have:0<gZ gs:=by
  unfold gZ
  rw[List.getLast?_eq_some_getLast h5.1];exact hc
 have:=hJ this
 simp only at this
 rw[h5.2]at this;cases this
 have h3: ¬ ((r==[42])||bh r)=true:=by simpa using h2
 rw[if_neg h3,if_neg (fun c=>h2 c.2)]
 have e3: ¬ (([99,97,108,108,101,114]:BL)=[108,101,116]\/([99,97,108,108,101,114]:BL)=[98,97,114]):=Z6
 by_cases h4:gs=[]
 rw[if_pos h4];exact⟨rfl,hJ⟩
 rw[if_neg h4,if_neg (fun c=>e3 c.1),if_neg Z6];exact⟨rfl,hJ⟩
 rw[if_neg (show ¬ (w=[99,97,108,108,101,114]/\(r=[42]\/bh r=true)) from fun c=>h1 c.1)]
 by_cases h2:w=[108,101,116]\/w=[98,97,114]
 have e1:gT w r=aO r:=by unfold gT;rw[if_neg h1,if_pos h2]
 have e2:fh w r=.Ox (w==[108,101,116]) r:=by unfold fh;rw[if_neg h1,if_pos h2]
 have e3: ¬ w=[119,97,105,116]:=by rcases h2 with rfl | rfl <;> decide
 rw[e1,e2,if_neg e3]
 by_cases h4:gs=[]
 rw[if_pos h4]
 refine⟨?_,hJ⟩
 split
 simp only[fR,jc];rw[if_pos h4]
 rfl
 rw[if_neg h4]
 by_cases h5:aO r=true
 rw[if_pos h5]
 simp only[fR,jc]
 rw[if_neg h4]
 by_cases h6:gZ gs<6
 rw[if_pos h6,if_pos ⟨h2,h5,h6⟩];exact⟨rfl,fun _=>rfl⟩
 rw[if_neg h6,if_neg (fun c=>h6 c.2.2)]
 have:=hJ (by simp only;omega)
 simp only at this
 rw[this];exact⟨rfl,fun _=>rfl⟩
 rw[if_neg h5,if_neg (fun c=>h5 c.2.1)];exact⟨rfl,hJ⟩
 by_cases h3:w=[119,97,105,116]
 have e1:gT w r=true:=by unfold gT;rw[if_neg h1,if_neg h2,if_pos h3]
 have e2:fh w r=.wait (iK r 20).toNat:=by unfold fh;rw[if_neg h1,if_neg h2,if_pos h3]
 rw[e1,e2,if_pos rfl]
 simp only[fR,lA]
 by_cases h4:gs=[]
 rw[if_pos h4,if_pos h4];exact⟨rfl,hJ⟩
 rw[if_neg h4,if_neg h4,if_neg (fun c=>h2 c.1),if_pos h3];exact⟨rfl,fun _=>rfl⟩
 have e1:gT w r=false:=by unfold gT;rw[if_neg h1,if_neg h2,if_neg h3]
 rw[e1,if_neg Z6]
 refine⟨?_,?_⟩
 split
 rfl
 first | rfl | (rw[if_neg (fun c=>h2 c.1)])
 split
 exact hJ
 first | exact hJ | (rw[if_neg (fun c=>h2 c.1)];exact hJ)
theorem fold_eq:∀ (ls:List BL) {x:List l3×Bool},Jn x->ls.foldl mb x=ls.foldl cD x
 | [],_,_=>rfl
 | l::ls,x,h=>by
   obtain⟨h1,h2⟩:=step_eq h l
   rw[List.foldl_cons,List.foldl_cons,h1];exact fold_eq ls h2
theorem wX(t:BL):(((aj 10 t).take 40).foldl mb ([],false)).1=cd t:=by
 unfold cd
 rw[fold_eq _ (x:=([],false)) (by intro h;simp[gZ]at h)]
end Go.Pd
namespace Go.Pd
theorem Ag{l:List BL}{n:BL}:(l.any fun y=>y==n)=l.contains n:=by
 induction l with
 | nil=>rfl
 | cons a r ih=>rw[List.any_cons,List.contains_cons,ih,Bool.beq_comm]
theorem zZ(n:BL):∀ (gs:List l3) {x:(List o9×Nat)×Bool},(gs.foldl (cb n) x).2=(x.2||gs.any fun y=>y.na.contains n)
 | [],x=>by simp
 | g::gs,x=>by
   rw[List.foldl_cons,zZ n gs,List.any_cons]
   unfold cb
   rw[Ag]
   split
   rename_i h;rw[h];simp
   rename_i h;simp only[Bool.not_eq_true]at h;rw[h];simp
theorem Ew(gs:List l3)(n:BL):(NG gs n).2=gs.any fun y=>y.na.contains n:=by
 unfold NG;simp only;rw[zZ];simp
def kH(gs:List l3)(n:BL):BL:=if (gs.any fun y=>y.na.contains n)=true then n else [42]
theorem BK(gs:List l3)(n:BL):(eU gs n).ru=(gs.foldl (cb (kH gs n)) (([],0),false)).1.1/\(eU gs n).wa=(gs.foldl (cb (kH gs n)) (([],0),false)).1.2:=by
 unfold eU kH
 rw[Ew]
 split <;> exact⟨rfl,rfl⟩
theorem zj{n:BL}{x:(List o9×Nat)×Bool}{g:l3}:(cb n x g).1=if g.na.contains n=true then (x.1.1++g.ru,max x.1.2 g.wa) else x.1:=by
 unfold cb
 rw[Ag]
 split <;> rfl
theorem tI{α:Type}{l:List α}{d:α}{p:α->Prop}(h:∀ x,x∈l->p x)(hd:p d)(i:Nat):p (l.getD i d):=by
 rw[List.getD_eq_getElem?_getD]
 cases e:l[i]? with
 | none=>exact hd
 | some x=>exact h x (List.mem_of_getElem? e)
end Go.Pd
namespace Go.Abs
open Go Go.RowKit
section
variable {w w':World} {Pb Kb Pb':Nat->Prop} {N:Nat} {A A' B:AS} {a:Act} {F:l7->List Nat} {P:Program} {ops:Array Oper}
theorem ft{g o:Nat}{v:V}{vs:List V}{p:List Nat}:V.at g o (.agg (v::vs)) (0::p)=V.at g (o+0) v p:=rfl
theorem AJ{X:Type}{v:X->V}{d:Nat}{Sl Hl:List Nat}(h:d∈Sl)(fs:List Nat):QC (fun x B=>AS.put B (some d) (v x)) fs Sl Hl where
 g:=fun g B t ht=>by rw[AS.aC,if_neg (fun c=>ht (by rw[c];exact h))]
 h:=fun g B k hk=>rfl
 c:=fun g B B' hB=>mz hB
 p:=fun g B q v' hq _=>⟨fun q2=>by
  rw[AS.aC,AS.aC,AS.aC,AS.aC]
  by_cases c:q2=d
  subst c;rw[if_pos rfl,if_neg (fun c=>hq (by rw[<- c];exact h)),if_pos rfl]
  rw[if_neg c,if_neg c],fun k=>rfl⟩
 q:=fun g B k gv hq=>⟨fun _=>rfl,fun _=>rfl⟩
def boE:Eu P where
 X:=Nat
 pre N o A Sl _:=match o.op,o.dst with
  | .buildSlice T len b9,some d=>match tD P T with
    | some (.sl e)=>match ti P e,eJ A 0 b9.toList with
      | some i,some vs=>match QR P T e len i vs&&Nat.blt d N&&Nat.blt 0 len&&Sl.contains d with
        | true=>True
        | false=>False
      | _,_=>False
    | _=>False
  | _,_=>False
 U o A g B:=match o.op,o.dst with
   | .buildSlice T len b9,some d=>match tD P T with
     | some (.sl e)=>match ti P e,eJ A 0 b9.toList with
       | some i,some vs=>B.put (some d) (.own i.sz vs g 0 len)
       | _,_=>B
     | _=>B
   | _,_=>B
 T5:=by
  rintro N ⟨dst,op,ty,pos,after,C7⟩ A Sl Hl hp fs
  simp only at hp
  split at hp
  rename_i T len b9 d
  split at hp
  rename_i e e1
  split at hp
  rename_i i vs e2 e3
  split at hp
  rename_i e4
  simp only[Bool.and_eq_true,List.contains_eq_mem,decide_eq_true_eq]at e4
  exact AJ (v:=fun g:Nat=>.own i.sz vs g 0 len) e4.2 fs
  exact hp.elim
  exact hp.elim
  exact hp.elim
  exact hp.elim
 ok:=by
  rintro N ⟨dst,op,ty,pos,after,C7⟩ A A' Sl Hl-hp hA hR
  simp only at hp
  split at hp
  rename_i T len b9 d
  split at hp
  rename_i e e1
  split at hp
  rename_i i vs e2 e3
  split at hp
  rename_i e4
  simp only[Bool.and_eq_true]at e4
  have P8:eJ A' 0 b9.toList=some vs:=by
   rw[nZ b9.toList 0 fun t ht=>hA t (by simpa[Op.operands] using ht)];exact e3
  exact Au rfl rfl (bD e4.1.1.2) e1 e2 P8 e4.1.1.1 (bD e4.1.2) fun g=>⟨g,by simp only[e1,e2,e3]⟩
  exact hp.elim
  exact hp.elim
  exact hp.elim
  exact hp.elim
theorem BS{X:Type}{v:X->V}{d k:Nat}{p:List Nat}{Sl Hl:List Nat}(h:d∈Sl)(hk:k∈Hl)(fs:List Nat):QC (fun x B=>AS.put (AS.setAt B (.key k) p .c9) (some d) (v x)) fs Sl Hl where
 g:=fun g B t ht=>by rw[AS.aC,if_neg (fun c=>ht (by rw[c];exact h))];exact bW
 h:=fun g B q hq=>tE (fun c=>hq (by rw[c];exact hk))
 c:=fun g B B' hB=>mz ⟨fun q=>by rw[bW,bW];exact hB.1 q,fun k=>ic hB.2⟩
 p:=fun g B q v' hq _=>⟨fun q2=>by
  rw[AS.aC,AS.aC,AS.aC]
  by_cases c:q2=d
  subst c;rw[if_pos rfl,if_neg (fun c=>hq (by rw[<- c];exact h)),if_pos rfl]
  rw[if_neg c]
  by_cases c2:q2=q
  subst c2;rw[if_pos rfl,bW,AS.aC,if_pos rfl]
  rw[if_neg c2,if_neg c,bW,bW,AS.aC,if_neg c2],fun k=>ic fun _=>rfl⟩
 q:=fun g B q gv hq=>tx (pq (fun c=>hq (by rw[c];exact hk)))
def VK(k:Nat):List Nat->List Nat
 | i::_::_=>if Nat.blt i 100=true then [100*k+i] else []
 | _=>[]
theorem II{B:AS}{k q:Nat}{p:List Nat}{v:V}(h:q∈VK k p):LX (B.setAt (.key k) p v).h q=LX B.h q:=by
 unfold VK at h
 split at h
 rename_i i j r
 split at h
 rename_i hi
 have hi:i<100:=by simpa[Nat.blt_eq] using hi
 obtain rfl:q=100*k+i:=by simpa using h
 unfold AS.setAt
 simp only
 split
 rename_i g t e
 unfold LX
 rw[show (100*k+i) / 100=k from Z9,show (100*k+i) % 100=i from Z9]
 simp only[lk,if_true,e]
 cases t with
 | agg vs=>
   cases hx:vs[i]? with
   | none=>simp only[V.set,hx]
   | some x=>
     have hl:i<vs.length:=(List.getElem?_eq_some_iff.1 hx).1
     have ht:∀ y,(vs.set i y).take i=vs.take i:=fun y=>List.take_set_of_le (Nat.le_refl _)
     simp only[V.set,hx,V.at,List.getElem?_set_self hl,ht]
     cases x with
     | own sz xs g1 o1 c=>
       simp only[V.set]
       cases hy:xs[j]? with
       | none=>rfl
       | some y=>simp only[List.length_set]
     | agg ws=>
       simp only[V.set]
       cases hy:ws[j]? with
       | none=>rfl
       | some y=>rfl
     | _=>simp only[V.set]
 | own sz xs g1 o1 c=>
   simp only[V.set]
   cases hx:xs[i]? with
   | none=>rfl
   | some x=>
     have hl:i<xs.length:=(List.getElem?_eq_some_iff.1 hx).1
     simp only[V.at,hx,List.getElem?_set_self hl]
     cases x with
     | own sz xs g1 o1 c=>
       simp only[V.set]
       cases hy:xs[j]? with
       | none=>rfl
       | some y=>simp only[List.length_set]
     | agg ws=>
       simp only[V.set]
       cases hy:ws[j]? with
       | none=>rfl
       | some y=>rfl
     | _=>simp only[V.set]
 | _=>simp only[V.set]
 rfl
 cases h
 cases h
def VA(k:Nat)(p:List Nat)(xs ys:List V)(g0 o0 sz g o1 c:Nat):Eu P where
 X:=Nat×Nat×Nat
 pre N o A Sl Hl:=match o.op,o.dst with
  | .call ⟨.builtin .append,⟨[.tmp t0,x]⟩,⟨[T,T2]⟩⟩,some d=>match o.type==T&&Nat.blt d N&&Sl.contains d&&Hl.contains k,mS P T T2 with
    | true,some t=>match A.ev x with
      | .sl _ VD=>VD=ys/\A.get t0=.hd (.key k) p sz g o1 0 xs.length c/\A.at (.key k) p=some (g0,o0,.own sz xs g o1 c)/\sz=t.sz/\V.aG ys=false/\aL t.sz ys/\(xs.length+ys.length)*t.K6<=140737488355328
      | _=>False
    | _,_=>False
  | _,_=>False
 U o A gh B:=match o.dst with
   | some d=>(B.setAt (.key k) p .c9).put (some d) (.own sz (xs++ys) gh.1 gh.2.1 gh.2.2)
   | none=>B
 T5:=by
  rintro N ⟨dst,op,ty,pos,after,C7⟩ A Sl Hl hp fs
  simp only at hp
  split at hp
  rename_i t0 x T T2 d
  split at hp
  rename_i t e1 e2
  simp only[Bool.and_eq_true,List.contains_eq_mem,decide_eq_true_eq]at e1
  exact BS (v:=fun gh:Nat×Nat×Nat=>.own sz (xs++ys) gh.1 gh.2.1 gh.2.2) e1.1.2 e1.2 fs
  exact hp.elim
  exact hp.elim
 prom:=VK k p
 W8:=by
  intro N o A Sl Hl _ q hq x B
  split
  exact II hq
  rfl
 ok:=by
  rintro N ⟨dst,op,ty,pos,after,C7⟩ A A' Sl Hl-hp hA hR
  simp only at hp
  split at hp
  rename_i t0 x T T2 d
  split at hp
  rename_i t e1 e2
  split at hp
  rename_i fl VD e3
  obtain⟨rfl,k1,k2,k3,k4,k5,k6⟩:=hp
  simp only[Bool.and_eq_true,beq_iff_eq]at e1
  obtain⟨e,e',q1,q2,q3,q4,q5,q6⟩:=iH e2
  subst k3
  obtain⟨⟨⟨rfl,e5⟩,_⟩,_⟩:=e1
  have hx:A'.ev x=A.ev x:=bw fun t ht=>hA t (by subst ht;simp[Op.operands,Call.operands])
  have h0:A'.get t0=A.get t0:=hA t0 (by simp[Op.operands,Call.operands])
  refine zC rfl rfl rfl (bD e5) q1 q2 q3 (lS q4) q5 q6 (by rw[h0];exact k1) (by simp only[AS.at,hR];simpa only[AS.at] using k2) rfl rfl (by unfold Nt;rw[hx,e3]) trivial k4 k5 k6 fun g o c=>⟨(g,o,c),rfl⟩
  exact hp.elim
  exact hp.elim
  exact hp.elim
end
end Go.Abs
namespace Go.Proofs.YtbjbamjffkanbaaGreatDoor
open Go Go.Abs Go.RowKit Go.Pd
set_option maxRecDepth 20000
def Dn(s:BL)(c:UInt8):o8 Tryz.prog:={ f:=115,args:=[sV s,sV [c]],pre:=True,res:=iV (Lib.indexByte s c),ok:=fun _=>HA s c }
def GS(s:BL):o8 Tryz.prog:={ f:=83,args:=[sV s,sV [47,63]],pre:=(s.length<=1000000)/\(∀ c,c∈s->c.toNat<128),res:=iV (Lib.indexAny s [47,63]),ok:=fun h=>JD s h.1 h.2 }
def Dd(l:List BL)(sep:BL):o8 Tryz.prog:={ f:=137,args:=[ay l,sV sep],pre:=(l.length<=1000000)/\((Lib.join l sep).length<=1000000),res:=sV (Lib.join l sep),ok:=fun h=>Hi false l sep h.1 h.2 }
def rZ(l:List BL)(x:BL):o8 Tryz.prog:={ f:=70,args:=[ay l,sV x],pre:=(l.length<=1000000),res:=bV (l.contains x),ok:=fun h=>Jr false l x h }
def AD(s:BL)(c:UInt8):o8 Tryz.prog:={ f:=155,args:=[sV s,sV [c],iV 0,iV (-1)],pre:=(s.length<=1000000),res:=.sl true ((df c s).map sV),ok:=fun h=>Gp s c h }
def jM(l:List BL):o8 Tryz.prog:={ f:=106,args:=[ay l],pre:=(l.length<=1000000),res:=.ow 1 (l.map sV),ok:=fun h=>FF false l h }
def xO(b:UInt8):o8 Tryz.prog:={ f:=178,args:=[uN b.toNat],pre:=True,res:=.tup [iV (max (ct b) 0),bV (decide (0<=ct b))],ok:=fun _=>Kk b }
abbrev oZ(s:BL)(c:UInt8):V:=.tup [sV ((ag c s).1),sV ((ag c s).2.1),bV ((ag c s).2.2)]
def Al(s:BL)(c:UInt8):o8 Tryz.prog:=.mk 81 [sV s,sV [c]] [] (s.length<=1000000) (oZ s c) [] (by
 intro hs
 have MC:([c]:BL).length=1:=rfl
 refine az (N:=23) (rs:=[.tmp 4,.tmp 5,.tmp 6]) Tryz.func81
  (.q 3<|.q 2<|.c (Dn s c) []<|.q 1<|.q 2<|.br (.dx 10 [0,1,2,3,4,5,6,7,8,9] [] []<|.q 1<|.q 1<|.q 1<|.q 1<|.q 1<|.q 1<|.q 1<|.q 1<|.q 1<|.q 1<|.q 2<|.nil) (.q 4<|.nil))
  ((fun v1:Int=>((Dn s c).sm/\(True)/\Br (z6 (Lib.indexByte s c) 0) (Sx (0:Int) (Lib.indexByte s c) s/\m9 ((Lib.indexByte s c)+v1)/\Sx ((Lib.indexByte s c)+v1) (s.length:Int) s/\Q (.tup [sV ((s.take (Int.toNat (Lib.indexByte s c))).drop ((0:Int).toNat)),sV ((s.take s.length).drop (Int.toNat ((Lib.indexByte s c)+v1))),bV true]) (oZ s c)) (Q (.tup [sV s,sV [],bV false]) (oZ s c)))) ((([c]:BL).length:Nat):Int)) ?_
 refine⟨rfl,trivial,?_⟩
 refine bI (fun j9=>?_) fun j9=>?_
 have hlt:=IT s c j9
 refine⟨Z9,Z9,Z9,?_⟩
 unfold Q oZ
 rw[EB j9,MC,show (Lib.indexByte s c+((1:Nat):Int)).toNat=(Lib.indexByte s c).toNat+1 from Z9,List.take_length];rfl
 unfold Q oZ
 rw[Hv Z9])
abbrev Cr(s:BL)(c:UInt8):V:=.tup [sV ((ag c s).1),sV ((ag c s).2.1),bV ((ag c s).2.2)]
def nS(s:BL)(c:UInt8):o8 Tryz.prog:=.mk 45 [sV s,sV [c]] [] (s.length<=1000000) (Cr s c) [] (by
 intro hs
 refine az (N:=13) (rs:=[.tmp 4,.tmp 5,.tmp 6]) Tryz.func45
  (.q 3<|.q 2<|.c (Al s c) []<|.q 6<|.nil)
  ((Al s c).sm/\((s.length<=1000000))/\Q (.tup [sV ((ag c s).1),sV ((ag c s).2.1),bV ((ag c s).2.2)]) (Cr s c)) ?_
 refine⟨rfl,Z5,?_⟩
 unfold Q Cr
 rfl)
def pP(s:BL)(c:UInt8):o8 Tryz.prog:=.mk 122 [sV s,sV [c]] [] (s.length<=1000000) (.sl true ((aj c s).map sV)) [] (by
 intro hs
 refine az (N:=8) (rs:=[.tmp 4]) Tryz.func122
  (.q 1<|.q 2<|.c (AD s c) []<|.q 1<|.nil)
  ((AD s c).sm/\((s.length<=1000000))/\Q (.sl true ((df c s).map sV)) (.sl true ((aj c s).map sV))) ?_
 refine⟨rfl,Z5,?_⟩
 unfold Q
 rw[zE])
theorem Kd(n:Nat):(.lit (.int .u8 (Int.fdiv (n:Int) (2 ^ 4))):V)=.lit (.int .u8 ((n / 16:Nat):Int)):=by
 congr 2;rw[Int.fdiv_eq_ediv_of_nonneg _ Z6];omega
theorem GN(n:Nat):(.lit (.int .u8 ((n &&& 15:Nat):Int)):V)=.lit (.int .u8 ((n % 16:Nat):Int)):=by
 congr 3;exact Nat.and_two_pow_sub_one_eq_mod n 4
def iW(s:BL):o8 Tryz.prog:=.mk 85 [sV s] [] (s.length<=1099511627776) (sV (aN s)) [] (by
 intro hs
 refine az (N:=29) (rs:=[.tmp 2]) Tryz.func85
  (.q 1<|.q 1<|.sb s (fun g7 c7=>.q 1<|.q 3<|.loop (Nat×BL×Nat×Nat) (fun (i,l,g,k)=>⟨[(3,.own 1 (l.map n6) g 0 k),(8,.hd (.slot 3) [] 1 g 0 0 ((l.map n6).length) k),(9,iN s.length),(10,iN i)],[]⟩) (fun (i,l,g,k)=>i<=s.length/\l.length=s.length/\l=aN (s.take i)++s.drop i) (fun (i,l,g,k)=>s.length-i) (fun (i,l,g,k)=>.q 1<|.br (.r 5 [uN ((l.getD i 0).toNat)]<|.q 6<|.br (.q 4<|.h (.o5 24 (uN ((dE (l.getD i 0)).toNat)))<|.q 1<|.st (some (uN ((l.getD i 0).toNat)))<|.h (.o5 3 (.own 1 ((l.set i (dE (l.getD i 0))).map n6) g 0 k))<|.q 2<|.nil) (.q 2<|.nil)) (.q 1<|.K6 l<|.q 1<|.nil))))
  (((sV s:V)=sV s)/\∀ g7 c7:Nat,(∃ x:Nat×BL×Nat×Nat,match x with | (j7,MI,B0,s5)=>(j7<=s.length/\MI.length=s.length/\MI=aN (s.take j7)++s.drop j7)/\Q (.own 1 (s.map n6) g7 0 c7) (.own 1 (MI.map n6) B0 0 s5)/\Q (.hd (.slot 3) [] 1 g7 0 0 ((s.map n6).length) c7) (.hd (.slot 3) [] 1 B0 0 0 ((MI.map n6).length) s5)/\Q (iN ((s.map n6).length)) (iN s.length)/\Q (iN 0) (iN j7)/\True)/\∀ x:Nat×BL×Nat×Nat,match x with | (i,l,g,k)=>(i<=s.length/\l.length=s.length/\l=aN (s.take i)++s.drop i)->(fun v1:Int=>(fun v2:V=>Br (s8 (i:Int) (s.length:Int)) (In (i:Int) ((l.map n6).length)/\(V.at g 0 v2 [0+i]=some (g,(0+(0+i)*1),uN ((l.getD i 0).toNat)))/\Pk (z6 v1 65) ((z6 v1 65)==true) true/\Br ((z6 v1 65)&&(D2 v1 90)) (Ot (v1+32)/\((uN (((l.getD i 0).toNat)+32):V)=uN ((dE (l.getD i 0)).toNat))/\In (i:Int) ((l.map n6).length)/\(V.at g 0 v2 [0+i]=some (g,(0+(0+i)*1),uN ((l.getD i 0).toNat)))/\(V.set v2 [0+i] (uN ((dE (l.getD i 0)).toNat))=.own 1 ((l.set i (dE (l.getD i 0))).map n6) g 0 k)/\m9 ((i:Int)+1)/\∃ x:Nat×BL×Nat×Nat,match x with | (c5,E5,s7,k₂)=>(c5<=s.length/\E5.length=s.length/\E5=aN (s.take c5)++s.drop c5)/\(s.length-c5<s.length-i)/\Q (.own 1 ((l.set i (dE (l.getD i 0))).map n6) g 0 k) (.own 1 (E5.map n6) s7 0 k₂)/\Q (.hd (.slot 3) [] 1 g 0 0 ((l.map n6).length) k) (.hd (.slot 3) [] 1 s7 0 0 ((E5.map n6).length) k₂)/\E (iN s.length)/\Q (iN (i+1)) (iN c5)/\True) (m9 ((i:Int)+1)/\∃ x:Nat×BL×Nat×Nat,match x with | (c5,E5,s7,k₂)=>(c5<=s.length/\E5.length=s.length/\E5=aN (s.take c5)++s.drop c5)/\(s.length-c5<s.length-i)/\Q v2 (.own 1 (E5.map n6) s7 0 k₂)/\Q (.hd (.slot 3) [] 1 g 0 0 ((l.map n6).length) k) (.hd (.slot 3) [] 1 s7 0 0 ((E5.map n6).length) k₂)/\E (iN s.length)/\Q (iN (i+1)) (iN c5)/\True)) (((1=1/\g=g/\0=0)/\0+((l.map n6).length)<=(l.map n6).length/\V.aG (l.map n6)=false/\aL 1 (l.map n6))/\(((l.map n6).drop 0).take ((l.map n6).length)=l.map n6)/\Q (sV l) (sV (aN s)))) (.own 1 (l.map n6) g 0 k)) (((l.getD i 0).toNat:Nat):Int)) ?_
 refine⟨rfl,?_⟩
 intro g7 c7
 refine⟨⟨(0,s,g7,c7),?_,rfl,rfl,Z4,rfl,trivial⟩,?_⟩
 simp[aN]
 rintro⟨i,l,g,k⟩ ⟨h1,h2,h3⟩
 have hbi:=(l.getD i 0).toNat_lt
 refine bI (fun j9=>?_) fun j9=>?_
 refine⟨Z2,gg (by rw[Nat.zero_add];exact an (d:=0) Z9),⟨fun h=>by rw[h] <;> rfl,fun _=>rfl⟩,?_⟩
 refine bI (fun l6=>?_) fun l6=>?_
 refine⟨by have:=UInt8.toNat_lt (l.getD i 0);omega,(congrArg uN (wI Z9).symm),Z2,gg (by rw[Nat.zero_add];exact an (d:=0) Z9),mH (by rw[Nat.zero_add];exact an (d:=0) Z9) (by rw[Nat.zero_add];exact(List.map_set ..).symm),Z9,?_⟩
 refine⟨(i+1,l.set i (dE (l.getD i 0)),g,k),?_,?_,rfl,Z4,rfl,rfl,trivial⟩
 refine⟨Z9,by simp[h2],?_⟩
 exact xk Z9 h3
 exact Z1
 refine⟨Z9,?_⟩
 refine⟨(i+1,l,g,k),?_,?_,rfl,rfl,rfl,rfl,trivial⟩
 refine⟨Z9,h2,?_⟩
 exact ue Z9 h3 Z9
 exact Z1
 refine⟨⟨⟨rfl,rfl,rfl⟩,Z8,oC _,qR _⟩,by simp[List.take_of_length_le],?_⟩
 unfold Q
 rw[h3,List.drop_eq_nil_of_le Z9,List.take_of_length_le Z9,List.append_nil])
def uh(s:BL)(i:Nat):o8 Tryz.prog:=.mk 153 [sV s,iN i] [] ((s.length<=1000000)/\(i<s.length)) (.tup [uN ((cZ s i).toNat),bV (iT s i)]) [] (by
 rintro⟨hs,hi⟩
 have q1:=fE (s.getD (i+1) 0)
 have q2:=fE (s.getD (i+2) 0)
 have q3:=ib (s.getD (i+1) 0)
 have q4:=ib (s.getD (i+2) 0)
 refine az (N:=42) (rs:=[.tmp 4,.tmp 5]) Tryz.func153
  (.q 2<|.q 5<|.br (.q 2<|.nil) (.q 4<|.c (xO (s.getD (i+1) 0)) []<|.q 5<|.q 4<|.c (xO (s.getD (i+2) 0)) []<|.q 5<|.q 6<|.br (.q 2<|.nil) (.q 7<|.nil)))
  ((fun v1:V=>(fun v2:Bool=>(m9 ((s.length:Int)-(i:Int))/\Br (s8 ((s.length:Int)-(i:Int)) 3) (Q (.tup [uN 0,bV false]) v1) (m9 ((i:Int)+1)/\Ix ((i+1:Nat):Int) s/\(xO (s.getD (i+1) 0)).sm/\(True)/\m9 ((i:Int)+2)/\Ix ((i+2:Nat):Int) s/\(xO (s.getD (i+2) 0)).sm/\(True)/\Pk v2 true (v2==false)/\Br (v2||(!(decide (0<=ct (s.getD (i+2) 0))))) (Q (.tup [uN 0,bV false]) v1) (m9 ((max (ct (s.getD (i+1) 0)) 0)*16)/\m9 (((max (ct (s.getD (i+1) 0)) 0)*16)+(max (ct (s.getD (i+2) 0)) 0))/\Ot (((max (ct (s.getD (i+1) 0)) 0)*16)+(max (ct (s.getD (i+2) 0)) 0))/\Q (.tup [.lit (.int .u8 (((max (ct (s.getD (i+1) 0)) 0)*16)+(max (ct (s.getD (i+2) 0)) 0))),bV true]) v1)))) (!(decide (0<=ct (s.getD (i+1) 0))))) (.tup [uN ((cZ s i).toNat),bV (iT s i)])) ?_
 refine⟨Z9,?_⟩
 refine bI (fun j9=>?_) fun j9=>?_
 unfold Q
 have h:iT s i=false:=by rw[<- Bool.not_eq_true,gL];omega
 rw[zy h,h];rfl
 refine⟨Z9,Z9,rfl,trivial,Z9,Z9,rfl,trivial,⟨fun _=>rfl,fun h=>by rw[h] <;> rfl⟩,?_⟩
 refine bI (fun l6=>?_) fun l6=>?_
 unfold Q
 have h:iT s i=false:=by
  rw[<- Bool.not_eq_true,gL];grind
 rw[zy h,h];rfl
 refine⟨by have:=fE (s.getD (i+1) 0);have:=ib (s.getD (i+1) 0);omega,by have:=fE (s.getD (i+1) 0);have:=ib (s.getD (i+1) 0);have:=fE (s.getD (i+2) 0);have:=ib (s.getD (i+2) 0);omega,by have:=fE (s.getD (i+1) 0);have:=ib (s.getD (i+1) 0);have:=fE (s.getD (i+2) 0);have:=ib (s.getD (i+2) 0);omega,?_⟩
 unfold Q
 have h:iT s i=true:=by
  rw[gL];grind
 have h1:=gL.1 h
 have h2:=sW h1.2.1 h1.2.2
 rw[qs h,h]
 show V.tup [.lit (.int .u8 _),_]=V.tup [.lit (.int .u8 _),_]
 rw[h2,Int.max_eq_left h1.2.1,Int.max_eq_left h1.2.2])
def jm(s:BL):o8 Tryz.prog:=.mk 121 [sV s] [] (s.length<=1000000) (.tup [sV ((bQ s).1),bV ((bQ s).2)]) [] (by
 intro hs
 have hf16:([48,49,50,51,52,53,54,55,56,57,65,66,67,68,69,70]:BL).length=16:=rfl
 refine az (N:=51) (rs:=[.tmp 2,.tmp 3]) Tryz.func121
  (.q 2<|.q 3<|.br (.q 2<|.nil) (.q 1<|.q 1<|.h (.H4 4 1)<|.loop (Nat×BL×Nat×Nat×Nat) (fun (i,o,g,f,k)=>⟨[(0,sV s),(4,.own 1 (o.map n6) g f k),(5,iN i)],[]⟩) (fun (i,o,g,f,k)=>i<=s.length/\o.length<=3*i/\bJ s=(bJ (s.drop i)).map (o++ ·)) (fun (i,o,g,f,k)=>s.length-i) (fun (i,o,g,f,k)=>.q 4<|.br (.q 4<|.q 2<|.br (.q 2<|.c (uh s i) []<|.q 5<|.q 2<|.br (.q 2<|.nil) (.q 2<|.q 3<|.q 1<|.c (lb (cZ s i)) []<|.br (.q 2<|.bs<|.ap (fun ME NZ On=>.h (.o5 39 (.own 1 ((o++[(cZ s i)]).map n6) ME NZ On))<|.q 1<|.q 3<|.nil)) (.dx 8 [0,1,2,3,4,5,6,7] [] []<|.q 1<|.q 1<|.q 1<|.h (.o5 42 (uN ((cZ s i).toNat / 16)))<|.q 1<|.q 1<|.q 1<|.h (.o5 45 (uN ((cZ s i).toNat % 16)))<|.q 1<|.bs<|.ap (fun K4 K0 K5=>.h (.o5 48 (.own 1 ((o++[37,(([48,49,50,51,52,53,54,55,56,57,65,66,67,68,69,70]:BL).getD ((cZ s i).toNat / 16) 0),(([48,49,50,51,52,53,54,55,56,57,65,66,67,68,69,70]:BL).getD ((cZ s i).toNat % 16) 0)]).map n6) K4 K0 K5))<|.q 1<|.q 3<|.nil)))) (.q 1<|.c (lb (s.getD i 0)) []<|.br (.q 2<|.bs<|.ap (fun ME NZ On=>.h (.o5 39 (.own 1 ((o++[(s.getD i 0)]).map n6) ME NZ On))<|.q 1<|.q 3<|.nil)) (.dx 8 [0,1,2,3,4,5,6,7] [] []<|.q 1<|.q 1<|.q 1<|.h (.o5 42 (uN ((s.getD i 0).toNat / 16)))<|.q 1<|.q 1<|.q 1<|.h (.o5 45 (uN ((s.getD i 0).toNat % 16)))<|.q 1<|.bs<|.ap (fun K4 K0 K5=>.h (.o5 48 (.own 1 ((o++[37,(([48,49,50,51,52,53,54,55,56,57,65,66,67,68,69,70]:BL).getD ((s.getD i 0).toNat / 16) 0),(([48,49,50,51,52,53,54,55,56,57,65,66,67,68,69,70]:BL).getD ((s.getD i 0).toNat % 16) 0)]).map n6) K4 K0 K5))<|.q 1<|.q 3<|.nil)))) (.q 1<|.K6 o<|.q 2<|.nil))))
  ((fun v1:BL=>(fun v2:V=>(Br (s9 (s.length:Int) 60) (Q (.tup [sV [],bV false]) v2) ((∃ x:Nat×BL×Nat×Nat×Nat,match x with | (j7,u7,B0,z7,s5)=>(j7<=s.length/\u7.length<=3*j7/\bJ s=(bJ (s.drop j7)).map (u7++ ·))/\E (sV s)/\Q (.own 1 ([].map n6) 0 0 0) (.own 1 (u7.map n6) B0 z7 s5)/\Q (iN 0) (iN j7)/\True)/\∀ x:Nat×BL×Nat×Nat×Nat,match x with | (i,o,g,f,k)=>(i<=s.length/\o.length<=3*i/\bJ s=(bJ (s.drop i)).map (o++ ·))->(fun v3:List V=>(fun v4:List V=>(fun v5:List V=>(fun v6:List V=>(fun v7:Int=>(fun v8:Int=>Br (s8 (i:Int) (s.length:Int)) (Ix (i:Int) s/\Br (o6 v7 37) ((uh s i).sm/\((s.length<=1000000)/\(i<s.length))/\Br (!(iT s i)) (Q (.tup [sV [],bV false]) v2) (m9 ((i:Int)+2)/\(lb (cZ s i)).sm/\(True)/\Br (dN (cZ s i)) (((1,1,g,f,k,(o.map n6).length)=(1,1,g,f,k,(o.map n6).length))/\(True)/\(V.aG v6=false)/\(aL 1 v6)/\(((o.map n6).length+v6.length)*1<=140737488355328)/\∀ ME NZ On:Nat,((.own 1 ((o.map n6)++v6) ME NZ On:V)=.own 1 ((o++[(cZ s i)]).map n6) ME NZ On)/\m9 (((i+2:Nat):Int)+1)/\∃ x:Nat×BL×Nat×Nat×Nat,match x with | (c5,l9,s7,r4,k₂)=>(c5<=s.length/\l9.length<=3*c5/\bJ s=(bJ (s.drop c5)).map (l9++ ·))/\(s.length-c5<s.length-i)/\E (sV s)/\Q (.own 1 ((o++[(cZ s i)]).map n6) ME NZ On) (.own 1 (l9.map n6) s7 r4 k₂)/\Q (iN ((i+2)+1)) (iN c5)/\True) (((0:Int)<=4/\(4:Int)<((8:Nat):Int))/\Q (.lit (.int .u8 (Int.fdiv v8 (2 ^ 4)))) (uN ((cZ s i).toNat / 16))/\Ix (((cZ s i).toNat / 16:Nat):Int) v1/\((0:Int)<=v8/\(0:Int)<=15/\Ot v8/\Ot 15)/\Q (uN (((cZ s i).toNat) &&& 15)) (uN ((cZ s i).toNat % 16))/\Ix (((cZ s i).toNat % 16:Nat):Int) v1/\((1,1,g,f,k,(o.map n6).length)=(1,1,g,f,k,(o.map n6).length))/\(True)/\(V.aG v4=false)/\(aL 1 v4)/\(((o.map n6).length+v4.length)*1<=140737488355328)/\∀ K4 K0 K5:Nat,((.own 1 ((o.map n6)++v4) K4 K0 K5:V)=.own 1 ((o++[37,(v1.getD ((cZ s i).toNat / 16) 0),(v1.getD ((cZ s i).toNat % 16) 0)]).map n6) K4 K0 K5)/\m9 (((i+2:Nat):Int)+1)/\∃ x:Nat×BL×Nat×Nat×Nat,match x with | (c5,l9,s7,r4,k₂)=>(c5<=s.length/\l9.length<=3*c5/\bJ s=(bJ (s.drop c5)).map (l9++ ·))/\(s.length-c5<s.length-i)/\E (sV s)/\Q (.own 1 ((o++[37,(v1.getD ((cZ s i).toNat / 16) 0),(v1.getD ((cZ s i).toNat % 16) 0)]).map n6) K4 K0 K5) (.own 1 (l9.map n6) s7 r4 k₂)/\Q (iN ((i+2)+1)) (iN c5)/\True))) ((lb (s.getD i 0)).sm/\(True)/\Br (dN (s.getD i 0)) (((1,1,g,f,k,(o.map n6).length)=(1,1,g,f,k,(o.map n6).length))/\(True)/\(V.aG v5=false)/\(aL 1 v5)/\(((o.map n6).length+v5.length)*1<=140737488355328)/\∀ ME NZ On:Nat,((.own 1 ((o.map n6)++v5) ME NZ On:V)=.own 1 ((o++[(s.getD i 0)]).map n6) ME NZ On)/\m9 ((i:Int)+1)/\∃ x:Nat×BL×Nat×Nat×Nat,match x with | (c5,l9,s7,r4,k₂)=>(c5<=s.length/\l9.length<=3*c5/\bJ s=(bJ (s.drop c5)).map (l9++ ·))/\(s.length-c5<s.length-i)/\E (sV s)/\Q (.own 1 ((o++[(s.getD i 0)]).map n6) ME NZ On) (.own 1 (l9.map n6) s7 r4 k₂)/\Q (iN (i+1)) (iN c5)/\True) (((0:Int)<=4/\(4:Int)<((8:Nat):Int))/\Q (.lit (.int .u8 (Int.fdiv v7 (2 ^ 4)))) (uN ((s.getD i 0).toNat / 16))/\Ix (((s.getD i 0).toNat / 16:Nat):Int) v1/\((0:Int)<=v7/\(0:Int)<=15/\Ot v7/\Ot 15)/\Q (uN (((s.getD i 0).toNat) &&& 15)) (uN ((s.getD i 0).toNat % 16))/\Ix (((s.getD i 0).toNat % 16:Nat):Int) v1/\((1,1,g,f,k,(o.map n6).length)=(1,1,g,f,k,(o.map n6).length))/\(True)/\(V.aG v3=false)/\(aL 1 v3)/\(((o.map n6).length+v3.length)*1<=140737488355328)/\∀ K4 K0 K5:Nat,((.own 1 ((o.map n6)++v3) K4 K0 K5:V)=.own 1 ((o++[37,(v1.getD ((s.getD i 0).toNat / 16) 0),(v1.getD ((s.getD i 0).toNat % 16) 0)]).map n6) K4 K0 K5)/\m9 ((i:Int)+1)/\∃ x:Nat×BL×Nat×Nat×Nat,match x with | (c5,l9,s7,r4,k₂)=>(c5<=s.length/\l9.length<=3*c5/\bJ s=(bJ (s.drop c5)).map (l9++ ·))/\(s.length-c5<s.length-i)/\E (sV s)/\Q (.own 1 ((o++[37,(v1.getD ((s.getD i 0).toNat / 16) 0),(v1.getD ((s.getD i 0).toNat % 16) 0)]).map n6) K4 K0 K5) (.own 1 (l9.map n6) s7 r4 k₂)/\Q (iN (i+1)) (iN c5)/\True))) (((1=1/\g=g/\f=f)/\0+((o.map n6).length)<=(o.map n6).length/\V.aG (o.map n6)=false/\aL 1 (o.map n6))/\(((o.map n6).drop 0).take ((o.map n6).length)=o.map n6)/\Q (.tup [sV o,bV true]) v2)) (((cZ s i).toNat:Nat):Int)) (((s.getD i 0).toNat:Nat):Int)) ([uN ((cZ s i).toNat)]:List V)) ([uN ((s.getD i 0).toNat)]:List V)) ([uN 37,uN ((v1.getD ((cZ s i).toNat / 16) 0).toNat),uN ((v1.getD ((cZ s i).toNat % 16) 0).toNat)]:List V)) ([uN 37,uN ((v1.getD ((s.getD i 0).toNat / 16) 0).toNat),uN ((v1.getD ((s.getD i 0).toNat % 16) 0).toNat)]:List V)))) (.tup [sV ((bQ s).1),bV ((bQ s).2)])) ([48,49,50,51,52,53,54,55,56,57,65,66,67,68,69,70]:BL)) ?_
 refine bI (fun j9=>?_) fun j9=>?_
 unfold Q
 rw[show bQ s=([],false) from if_neg Z9]
 refine⟨⟨(0,[],0,0,0),?_,rfl,rfl,rfl,trivial⟩,?_⟩
 refine⟨Z9,Z8,?_⟩
 cases h:bJ s <;> simp[h]
 rintro⟨i,o,g,f,k⟩ ⟨hi,ho,LW⟩
 refine bI (fun l6=>?_) fun l6=>?_
 refine⟨Z9,?_⟩
 refine bI (fun n0=>?_) fun n0=>?_
 refine⟨rfl,⟨Z5,Z5⟩,?_⟩
 refine bI (fun w5=>?_) fun w5=>?_
 unfold Q
 rw[show bQ s=([],false) from by unfold bQ;rw[LW,zf Z9 Z9 (by have:=gL (s:=s) (i:=i);grind)];simp]
 refine⟨Z9,rfl,trivial,?_⟩
 refine bI (fun G0=>?_) fun G0=>?_
 refine⟨rfl,trivial,rfl,by simp[aL,V.n,V.ns],Z0,?_⟩
 intro ME NZ On
 refine⟨congrArg (V.own 1 · ME NZ On) (by rw[List.map_append];rfl),Z9,?_⟩
 refine⟨((i+2)+1,o++[(cZ s i)],ME,NZ,On),?_,?_,rfl,rfl,rfl,trivial⟩
 have sg:=gL.1 w5
 rw[qs w5]at *
 have he:eH (db (s.getD (i+1) 0) (s.getD (i+2) 0))=[(db (s.getD (i+1) 0) (s.getD (i+2) 0))]:=by unfold eH;rw[if_pos G0]
 have hl:=eK (db (s.getD (i+1) 0) (s.getD (i+2) 0))
 rw[he]at hl
 refine⟨Z9,Z0,?_⟩
 rw[LW,pN Z9 Z9 Z9 Z9,he]
 cases bJ (s.drop (i+3)) <;> simp[eP,km]
 exact Z1
 refine⟨Z9,by unfold Q;exact Kd _,by have:=UInt8.toNat_lt (cZ s i);omega,by have:=UInt8.toNat_lt (cZ s i);omega,by unfold Q;exact GN _,by have:=UInt8.toNat_lt (cZ s i);omega,rfl,trivial,rfl,by simp[aL,V.n,V.ns],Z0,?_⟩
 intro K4 K0 K5
 refine⟨congrArg (V.own 1 · K4 K0 K5) (by rw[List.map_append];rfl),Z9,?_⟩
 refine⟨((i+2)+1,o++[37,(([48,49,50,51,52,53,54,55,56,57,65,66,67,68,69,70]:BL).getD ((cZ s i).toNat / 16) 0),(([48,49,50,51,52,53,54,55,56,57,65,66,67,68,69,70]:BL).getD ((cZ s i).toNat % 16) 0)],K4,K0,K5),?_,?_,rfl,rfl,rfl,trivial⟩
 have sg:=gL.1 w5
 rw[qs w5]at *
 have he:eH (db (s.getD (i+1) 0) (s.getD (i+2) 0))=eP (db (s.getD (i+1) 0) (s.getD (i+2) 0)):=by unfold eH;rw[if_neg (by rw[G0];decide)]
 have hl:=eK (db (s.getD (i+1) 0) (s.getD (i+2) 0))
 rw[he]at hl
 refine⟨Z9,Z0,?_⟩
 rw[LW,pN Z9 Z9 Z9 Z9,he]
 cases bJ (s.drop (i+3)) <;> simp[eP,km]
 exact Z1
 refine⟨rfl,trivial,?_⟩
 refine bI (fun Mp=>?_) fun Mp=>?_
 refine⟨rfl,trivial,rfl,by simp[aL,V.n,V.ns],Z0,?_⟩
 intro ME NZ On
 refine⟨congrArg (V.own 1 · ME NZ On) (by rw[List.map_append];rfl),Z9,?_⟩
 refine⟨(i+1,o++[(s.getD i 0)],ME,NZ,On),?_,?_,rfl,rfl,rfl,trivial⟩
 have he:eH (s.getD i 0)=[(s.getD i 0)]:=by unfold eH;rw[if_pos Mp]
 have hl:=eK (s.getD i 0)
 rw[he]at hl
 refine⟨Z9,Z0,?_⟩
 rw[LW,nE Z9 Z9,he]
 cases bJ (s.drop (i+1)) <;> simp[eP,km]
 exact Z1
 refine⟨Z9,by unfold Q;exact Kd _,by have:=UInt8.toNat_lt (s.getD i 0);omega,by have:=UInt8.toNat_lt (s.getD i 0);omega,by unfold Q;exact GN _,by have:=UInt8.toNat_lt (s.getD i 0);omega,rfl,trivial,rfl,by simp[aL,V.n,V.ns],Z0,?_⟩
 intro K4 K0 K5
 refine⟨congrArg (V.own 1 · K4 K0 K5) (by rw[List.map_append];rfl),Z9,?_⟩
 refine⟨(i+1,o++[37,(([48,49,50,51,52,53,54,55,56,57,65,66,67,68,69,70]:BL).getD ((s.getD i 0).toNat / 16) 0),(([48,49,50,51,52,53,54,55,56,57,65,66,67,68,69,70]:BL).getD ((s.getD i 0).toNat % 16) 0)],K4,K0,K5),?_,?_,rfl,rfl,rfl,trivial⟩
 have he:eH (s.getD i 0)=eP (s.getD i 0):=by unfold eH;rw[if_neg (by rw[Mp];decide)]
 have hl:=eK (s.getD i 0)
 rw[he]at hl
 refine⟨Z9,Z0,?_⟩
 rw[LW,nE Z9 Z9,he]
 cases bJ (s.drop (i+1)) <;> simp[eP,km]
 exact Z1
 refine⟨⟨⟨rfl,rfl,rfl⟩,Z8,oC _,qR _⟩,by simp[List.take_of_length_le],?_⟩
 unfold Q
 rw[List.drop_eq_nil_of_le Z9]at LW
 rw[show bQ s=(o,true) from by unfold bQ;rw[LW,if_pos Z9];simp[bJ]])
def rq(ps:List BL):o8 Tryz.prog:=.mk 123 [ay ps] [] (ps.length<=1099511627776) (ay (bR ps)) [] (by
 intro hs
 refine az (N:=32) (rs:=[.tmp 2]) Tryz.func123
  (.q 1<|.q 1<|.q 3<|.h (.H4 3 1)<|.loop (Nat×(List BL)×Nat×Nat×Nat) (fun (i,o,g,f,k)=>⟨[(6,ay ps),(7,iN ps.length),(8,iN i),(3,.own 1 (o.map sV) g f k)],[]⟩) (fun (i,o,g,f,k)=>i<=ps.length/\o=bR (ps.take i)/\o.length<=i) (fun (i,o,g,f,k)=>ps.length-i) (fun (i,o,g,f,k)=>.q 1<|.br (.r 3 [sV (ps.getD i [])]<|.q 1<|.q 2<|.join (Bool) (fun c=>⟨[(6,ay ps),(7,iN ps.length),(8,iN i),(3,.own 1 (o.map sV) g f k),(9,bV (s8 (i:Int) (ps.length:Int))),(10,.ep (sV (ps.getD i []))),(11,sV (ps.getD i [])),(5,sV (ps.getD i [])),(12,sV (ps.getD i [])),(14,bV ((ps.getD i [])==[])),(13,bV c)],[]⟩) (fun c=>c=decide (ps.getD i []=[]\/ps.getD i []=[46])) (.nil) (.q 2<|.nil) (fun c=>.br (.q 2<|.nil) (.q 2<|.br (.q 3<|.br (.q 5<|.rs<|.h (.o5 3 (.own 1 (o.dropLast.map sV) g (f+(0+((0:Int).toNat))*1) (k-((0:Int).toNat))))<|.q 2<|.nil) (.q 2<|.nil)) (.q 2<|.bs<|.ap (fun Sg RB Sv=>.h (.o5 29 (.own 1 ((o++[(ps.getD i [])]).map sV) Sg RB Sv))<|.q 1<|.q 2<|.nil))))) (.h (.fz 3)<|.h (.o5 3 (ay o))<|.q 2<|.nil)))
  ((∃ x:Nat×(List BL)×Nat×Nat×Nat,match x with | (j7,u7,B0,z7,s5)=>(j7<=ps.length/\u7=bR (ps.take j7)/\u7.length<=j7)/\E (ay ps)/\Q (iN ((ps.map sV).length)) (iN ps.length)/\Q (iN 0) (iN j7)/\Q (.own 1 ([].map sV) 0 0 0) (.own 1 (u7.map sV) B0 z7 s5)/\True)/\∀ x:Nat×(List BL)×Nat×Nat×Nat,match x with | (i,o,g,f,k)=>(i<=ps.length/\o=bR (ps.take i)/\o.length<=i)->(fun v1:Int=>(fun v2:V=>(fun v3:List V=>(fun v4:V=>(fun v5:Bool=>Br v5 (Ex (i:Int) (ps.map sV) v2/\True/\(((ps.getD i [])==[])=true->∃ c:Bool,(c=decide (ps.getD i []=[]\/ps.getD i []=[46]))/\E (ay ps)/\E (iN ps.length)/\E (iN i)/\E v4/\E (bV v5)/\E (.ep v2)/\E v2/\E v2/\E v2/\E (bV ((ps.getD i [])==[]))/\Q (bV ((ps.getD i [])==[])) (bV c)/\True)/\(((ps.getD i [])==[])=false->∃ c:Bool,(c=decide (ps.getD i []=[]\/ps.getD i []=[46]))/\E (ay ps)/\E (iN ps.length)/\E (iN i)/\E v4/\E (bV v5)/\E (.ep v2)/\E v2/\E v2/\E v2/\E (bV ((ps.getD i [])==[]))/\Q (bV ((ps.getD i [])==([46]:BL))) (bV c)/\True)/\(∀ c:Bool,(c=decide (ps.getD i []=[]\/ps.getD i []=[46]))->Br c (m9 ((i:Int)+1)/\∃ x:Nat×(List BL)×Nat×Nat×Nat,match x with | (c5,l9,s7,r4,k₂)=>(c5<=ps.length/\l9=bR (ps.take c5)/\l9.length<=c5)/\(ps.length-c5<ps.length-i)/\E (ay ps)/\E (iN ps.length)/\Q (iN (i+1)) (iN c5)/\Q v4 (.own 1 (l9.map sV) s7 r4 k₂)/\True) (Br ((ps.getD i [])==([46,46]:BL)) (Br (s9 v1 0) (m9 (v1-1)/\((0:Int)<=(0:Int)/\(0:Int)<=(v1-1)/\(v1-1)<=((o.map sV).length)/\1=1)/\((3,1,g,f)=(3,1,g,f))/\((0+((0:Int).toNat))+((Int.toNat (v1-1))-((0:Int).toNat))<=(o.map sV).length/\(0+((0:Int).toNat))+(k-((0:Int).toNat))<=k/\V.aG (o.map sV)=false)/\((.own 1 (((o.map sV).drop (0+((0:Int).toNat))).take ((Int.toNat (v1-1))-((0:Int).toNat))) g (f+(0+((0:Int).toNat))*1) (k-((0:Int).toNat)):V)=.own 1 (o.dropLast.map sV) g (f+(0+((0:Int).toNat))*1) (k-((0:Int).toNat)))/\m9 ((i:Int)+1)/\∃ x:Nat×(List BL)×Nat×Nat×Nat,match x with | (c5,l9,s7,r4,k₂)=>(c5<=ps.length/\l9=bR (ps.take c5)/\l9.length<=c5)/\(ps.length-c5<ps.length-i)/\E (ay ps)/\E (iN ps.length)/\Q (iN (i+1)) (iN c5)/\Q (.own 1 (o.dropLast.map sV) g (f+(0+((0:Int).toNat))*1) (k-((0:Int).toNat))) (.own 1 (l9.map sV) s7 r4 k₂)/\True) (m9 ((i:Int)+1)/\∃ x:Nat×(List BL)×Nat×Nat×Nat,match x with | (c5,l9,s7,r4,k₂)=>(c5<=ps.length/\l9=bR (ps.take c5)/\l9.length<=c5)/\(ps.length-c5<ps.length-i)/\E (ay ps)/\E (iN ps.length)/\Q (iN (i+1)) (iN c5)/\Q v4 (.own 1 (l9.map sV) s7 r4 k₂)/\True)) (((1,1,g,f,k,(o.map sV).length)=(1,1,g,f,k,(o.map sV).length))/\(True)/\(V.aG v3=false)/\(aL 1 v3)/\(((o.map sV).length+v3.length)*16<=140737488355328)/\∀ Sg RB Sv:Nat,((.own 1 ((o.map sV)++v3) Sg RB Sv:V)=.own 1 ((o++[(ps.getD i [])]).map sV) Sg RB Sv)/\m9 ((i:Int)+1)/\∃ x:Nat×(List BL)×Nat×Nat×Nat,match x with | (c5,l9,s7,r4,k₂)=>(c5<=ps.length/\l9=bR (ps.take c5)/\l9.length<=c5)/\(ps.length-c5<ps.length-i)/\E (ay ps)/\E (iN ps.length)/\Q (iN (i+1)) (iN c5)/\Q (.own 1 ((o++[(ps.getD i [])]).map sV) Sg RB Sv) (.own 1 (l9.map sV) s7 r4 k₂)/\True)))) (((.sl false (V.D5 (o.map sV)):V)=ay o)/\Q (ay o) (ay (bR ps)))) (s8 (i:Int) (ps.length:Int))) (.own 1 (o.map sV) g f k)) ([sV (ps.getD i [])]:List V)) (sV (ps.getD i []))) (((o.map sV).length:Nat):Int)) ?_
 refine⟨⟨(0,[],0,0,0),?_,rfl,Z4,rfl,rfl,trivial⟩,?_⟩
 simp[bR]
 rintro⟨i,o,g,f,k⟩ ⟨h1,h2,h3⟩
 refine bI (fun j9=>?_) fun j9=>?_
 · refine⟨⟨Z9,an (d:=[]) Z9⟩,trivial,?_⟩
   refine⟨fun l6=>?_,fun l6=>?_,fun c hc=>?_⟩
   · try simp only[nb]at l6
     exact⟨(ps.getD i [])==[],by first | (rw[Bool.eq_iff_iff];simp_all;done) | grind,rfl,rfl,rfl,rfl,rfl,rfl,rfl,rfl,rfl,rfl,rfl,trivial⟩
   · try simp only[nb]at l6
     exact⟨(ps.getD i [])==([46]:BL),by first | (rw[Bool.eq_iff_iff];simp_all;done) | grind,rfl,rfl,rfl,rfl,rfl,rfl,rfl,rfl,rfl,rfl,rfl,trivial⟩
   refine bI (fun n0=>?_) fun n0=>?_
   refine⟨Z9,?_⟩
   refine⟨(i+1,o,g,f,k),?_,?_,rfl,rfl,rfl,rfl,trivial⟩
   refine⟨Z9,?_,Z9⟩
   rw[gY Z9,<- h2,cK,if_pos (by grind)]
   exact Z1
   refine bI (fun w5=>?_) fun w5=>?_
   refine bI (fun G0=>?_) fun G0=>?_
   refine⟨Z2,⟨Z8,Z0,Z0,rfl⟩,rfl,⟨by simp <;> omega,Z8,cM (fun _=>rfl) _⟩,congrArg (V.own 1 · g (f+(0+((0:Int).toNat))*1) (k-((0:Int).toNat))) (by rw[show (0+Int.toNat 0)=0 from rfl,List.drop_zero,<- List.map_take,List.dropLast_eq_take];congr 2;first | (solve | simp) | (simp;omega)),Z9,?_⟩
   refine⟨(i+1,o.dropLast,g,f+(0+((0:Int).toNat))*1,k-((0:Int).toNat)),?_,?_,rfl,rfl,rfl,rfl,trivial⟩
   refine⟨Z9,?_,Z0⟩
   rw[gY Z9,<- h2,cK,if_neg (by grind),if_pos (by grind)]
   exact Z1
   refine⟨Z9,?_⟩
   refine⟨(i+1,o,g,f,k),?_,?_,rfl,rfl,rfl,rfl,trivial⟩
   refine⟨Z9,?_,Z9⟩
   rw[gY Z9,<- h2,cK,if_neg (by grind),if_pos (by grind)]
   have:o=[]:=List.eq_nil_of_length_eq_zero (by simp at *;omega)
   rw[this];rfl
   exact Z1
   refine⟨rfl,trivial,rfl,by simp[aL,V.n,V.ns],Z0,?_⟩
   intro Sg RB Sv
   refine⟨congrArg (V.own 1 · Sg RB Sv) Z8,Z9,?_⟩
   refine⟨(i+1,o++[(ps.getD i [])],Sg,RB,Sv),?_,?_,rfl,rfl,rfl,rfl,trivial⟩
   refine⟨Z9,?_,Z0⟩
   rw[gY Z9,<- h2,cK,if_neg (by grind),if_neg (by grind)]
   exact Z1
 refine⟨congrArg (V.sl false) (aR (fun _=>rfl) _),?_⟩
 unfold Q
 rw[h2,List.take_of_length_le Z9])
def mj(s:BL):o8 Tryz.prog:=.mk 140 [sV s] [] (s.length<=1000000) (bV (eS s)) [] (by
 intro hs
 refine az (N:=16) (rs:=[.tmp 2]) Tryz.func140
  (.q 1<|.q 1<|.c (jm s) []<|.q 5<|.q 7<|.nil)
  ((jm s).sm/\((s.length<=1000000))/\Pk ((bQ s).2) (((bQ s).2)==true) true/\Q (bV (((bQ s).2)&&(((bQ s).1)==s))) (bV (eS s))) ?_
 refine⟨rfl,Z5,⟨fun h=>by rw[h] <;> rfl,fun _=>rfl⟩,?_⟩
 unfold Q
 rfl)
def lI(a:s4):o8 Tryz.prog:=.mk 101 [bC a.h9 a.b9 a.asks a.ask] [] (cI a) (sV (bm a)) [] (by
 intro ha
 have hj:=ha.join
 obtain⟨z1,z2,z3,z4⟩:=ha
 rw[<- vj]at hj
 refine az (N:=16) (rs:=[.tmp 2]) Tryz.func101
  (.bx (fun g1=>.q 1<|.r 2 [.c9]<|.c (Dd a.b9 ([47]:BL)) []<|.q 2<|.r 2 [.c9]<|.br (.r 6 [.c9]<|.q 2<|.nil) (.q 2<|.nil)))
  ((fun v1:BL=>(∀ g1:Nat,Z g1 1/\(Dd a.b9 v1).sm/\((a.b9.length<=1000000)/\((Lib.join a.b9 v1).length<=1000000))/\(v1.length+(Lib.join a.b9 v1).length<=4611686018427387904)/\Z g1 2/\Br a.asks (Z g1 3/\(([63]:BL).length+a.ask.length<=4611686018427387904)/\((v1++(Lib.join a.b9 v1)).length+(([63]:BL)++a.ask).length<=4611686018427387904)/\Q (sV ((v1++(Lib.join a.b9 v1))++(([63]:BL)++a.ask))) (sV (bm a))) (Q (sV (v1++(Lib.join a.b9 v1))) (sV (bm a))))) ([47]:BL)) ?_
 intro g1
 refine⟨rfl,rfl,⟨Z5,Z5⟩,Z3,rfl,?_⟩
 refine bI (fun j9=>?_) fun j9=>?_
 refine⟨rfl,Z3,Z3,?_⟩
 unfold Q
 rw[vj]
 unfold bm;rw[if_pos (by simpa using j9)] <;> simp[List.append_assoc]
 unfold Q
 rw[vj]
 unfold bm;rw[if_neg (by simpa using j9)];simp)
def im(a:s4):o8 Tryz.prog:=.mk 68 [bC a.h9 a.b9 a.asks a.ask] [] (cI a) (sV (cC a)) [] (by
 intro ha
 have hp:=ha.path
 have h1:=ha.1
 refine az (N:=9) (rs:=[.tmp 2]) Tryz.func68
  (.bx (fun g1=>.q 1<|.dx 6 [0,1,2,3,4,5] [(1,⟨false,[],some [1],[4],[]⟩),(3,⟨false,[],some [1],[6],[]⟩)] []<|.q 1<|.r 1 [.c9]<|.q 1<|.r 1 [.c9]<|.c (lI a) []<|.q 1<|.q 1<|.nil))
  (∀ g1:Nat,Z g1 0/\(([47,47]:BL).length+a.h9.length<=4611686018427387904)/\Z g1 0/\(lI a).sm/\((cI a))/\((([47,47]:BL)++a.h9).length+(bm a).length<=4611686018427387904)/\Q (sV ((([47,47]:BL)++a.h9)++(bm a))) (sV (cC a))) ?_
 intro g1
 refine⟨rfl,Z3,rfl,rfl,Z5,Z3,?_⟩
 unfold Q
 rfl)
def fp(a:s4):o8 Tryz.prog:=.mk 104 [bC a.h9 a.b9 a.asks a.ask] [] (cI a) (bV (aI a)) [] (by
 intro ha
 have ht:=ha.text
 obtain⟨z1,z2,z3,z4⟩:=id ha
 refine az (N:=56) (rs:=[.tmp 2]) Tryz.func104
  (.bx (fun g1=>.q 1<|.r 2 [.c9]<|.c (gK a.h9) []<|.r 7 [.c9]<|.br (.q 1<|.nil) (.r 4 [.c9]<|.loop (Nat) (fun (i:Nat)=>⟨[(1,.ptr (.key 1) [] g1 0),(16,ay a.b9),(17,iN a.b9.length),(18,iN i)],[(1,(g1,bC a.h9 a.b9 a.asks a.ask))]⟩) (fun (i:Nat)=>i<=a.b9.length/\∀ j,j<i->dV (a.b9.getD j [])=true) (fun (i:Nat)=>a.b9.length-i) (fun (i:Nat)=>.q 1<|.br (.r 3 [sV (a.b9.getD i [])]<|.q 12<|.cg (mj (a.b9.getD i []))<|.q 2<|.br (.q 1<|.nil) (.q 2<|.nil)) (.r 2 [.c9]<|.c (mj a.ask) []<|.r 11 [.c9,.c9]<|.br (.q 1<|.nil) (.r 1 [.c9]<|.c (im a) []<|.q 3<|.nil))))))
  ((fun v1:Bool=>(fun v2:BL=>(fun v3:BL=>(fun v4:Bool=>(∀ g1:Nat,Z g1 0/\(gK a.h9).sm/\((a.h9.length<=4611686018427387904))/\Gd (v4==false) (Z g1 1)/\Pk v4 true (v4==false)/\Br (v4||(s9 (((a.b9.map sV).length:Nat):Int) 5)) (Q (bV false) (bV (aI a))) (Z g1 1/\(∃ j7:Nat,(j7<=a.b9.length/\∀ j,j<j7->dV (a.b9.getD j [])=true)/\E (.ptr (.key 1) [] g1 0)/\E (ay a.b9)/\Q (iN ((a.b9.map sV).length)) (iN a.b9.length)/\Q (iN 0) (iN j7)/\Er g1 (bC a.h9 a.b9 a.asks a.ask)/\True)/\∀ i:Nat,(i<=a.b9.length/\∀ j,j<i->dV (a.b9.getD j [])=true)->(fun v5:Bool=>Br (s8 (i:Int) (a.b9.length:Int)) (Ex (i:Int) (a.b9.map sV) (sV (a.b9.getD i []))/\True/\Pk ((a.b9.getD i [])==[]) true (((a.b9.getD i [])==[])==false)/\Pk (((a.b9.getD i [])==[])||((a.b9.getD i [])==v2)) true ((((a.b9.getD i [])==[])||((a.b9.getD i [])==v2))==false)/\Gd v5 ((((a.b9.getD i []).length<=1000000))/\(mj (a.b9.getD i [])).sm)/\Pk ((((a.b9.getD i [])==[])||((a.b9.getD i [])==v2))||((a.b9.getD i [])==v3)) true v5/\Br (((((a.b9.getD i [])==[])||((a.b9.getD i [])==v2))||((a.b9.getD i [])==v3))||(!(eS (a.b9.getD i [])))) (Q (bV false) (bV (aI a))) (m9 ((i:Int)+1)/\∃ c5:Nat,(c5<=a.b9.length/\∀ j,j<c5->dV (a.b9.getD j [])=true)/\(a.b9.length-c5<a.b9.length-i)/\E (.ptr (.key 1) [] g1 0)/\E (ay a.b9)/\E (iN a.b9.length)/\Q (iN (i+1)) (iN c5)/\Er g1 (bC a.h9 a.b9 a.asks a.ask)/\True)) (Z g1 3/\(mj a.ask).sm/\((a.ask.length<=1000000))/\Gd v1 (Z g1 2)/\Gd (v1&&((!a.asks)==true)) (Z g1 3)/\Gd v1 (Pk (!a.asks) (v1&&((!a.asks)==true)) true)/\Pk (!(eS a.ask)) true v1/\Br ((!(eS a.ask))||((!a.asks)&&(!(a.ask==[])))) (Q (bV false) (bV (aI a))) (Z g1 0/\(im a).sm/\((cI a))/\Q (bV (D2 (((cC a).length:Nat):Int) 60)) (bV (aI a))))) (((((a.b9.getD i [])==[])||((a.b9.getD i [])==v2))||((a.b9.getD i [])==v3))==false)))) (!(bU a.h9))) ([46,46]:BL)) ([46]:BL)) ((!(eS a.ask))==false)) ?_
 intro g1
 refine⟨rfl,rfl,Z5,fun hG=>rfl,⟨fun _=>rfl,fun h=>by rw[h] <;> rfl⟩,?_⟩
 refine bI (fun j9=>?_) fun j9=>?_
 unfold Q
 refine congrArg bV ?_
 unfold aI
 grind
 refine⟨rfl,?_⟩
 refine⟨⟨0,?_,rfl,rfl,Z4,rfl,rfl,trivial⟩,?_⟩
 simp
 rintro i ⟨h1,h2⟩
 have W4:=z4 i
 refine bI (fun l6=>?_) fun l6=>?_
 refine⟨⟨Z9,an (d:=[]) Z9⟩,trivial,⟨fun _=>rfl,fun h=>by rw[h] <;> rfl⟩,⟨fun _=>rfl,fun h=>by rw[h] <;> rfl⟩,fun hG=>⟨by(try simp only[nb]at hG);first | assumption | omega | (simp;omega),rfl⟩,⟨fun _=>rfl,fun h=>by rw[h] <;> rfl⟩,?_⟩
 refine bI (fun n0=>?_) fun n0=>?_
 unfold Q
 refine congrArg bV ?_
 unfold aI
 rw[all_false (i:=i) (d:=[]) Z9 (by simp only[dV];grind)];simp
 refine⟨Z9,?_⟩
 refine⟨i+1,?_,?_,rfl,rfl,rfl,rfl,rfl,trivial⟩
 refine⟨Z9,bP h2 ?_⟩
 simp only[dV];grind
 exact Z1
 refine⟨rfl,rfl,Z5,fun hG=>rfl,fun hG=>rfl,fun hG=>⟨fun h=>by rw[h];exact(Bool.and_eq_true _ _).mpr ⟨hG,rfl⟩,fun _=>rfl⟩,⟨fun _=>rfl,fun h=>by rw[h] <;> rfl⟩,?_⟩
 refine bI (fun w5=>?_) fun w5=>?_
 unfold Q
 refine congrArg bV ?_
 unfold aI
 rw[all_true (d:=[]) (fun j hj=>h2 j Z9)]
 grind
 refine⟨rfl,rfl,by first | assumption | exact mZ _,?_⟩
 unfold Q
 refine congrArg bV ?_
 unfold aI
 rw[all_true (d:=[]) (fun j hj=>h2 j Z9)]
 grind)
abbrev fO(d:BL)(fr:List BL)(n8:BL):V:=.tup [bC ((oA (bu d fr n8)).h9) ((oA (bu d fr n8)).b9) ((oA (bu d fr n8)).asks) ((oA (bu d fr n8)).ask),bV ((bu d fr n8).isSome)]
abbrev ji(d:BL)(fr:List BL)(n8:BL)(i:Nat)(o:List BL)(g:Nat)(f:Nat)(k:Nat):Prop:=i<=(aj 47 (ag 63 n8).1).length/\o=fr++((aj 47 (ag 63 n8).1).take i).map eG/\((aj 47 (ag 63 n8).1).take i).all fa=true
def fm(d:BL)(fr:List BL)(n8:BL):o8 Tryz.prog:=.mk 84 [sV d,ay fr,sV n8] [] ((d.length<=1000)/\(∀ i,(fr.getD i []).length<=1000)/\(fr.length<=100)/\(n8.length<=300)) (fO d fr n8) [] (by
 rintro⟨hh,hf,hl,hw⟩
 have Mo:=lO 63 n8
 have Ve:=qU 47 (ag 63 n8).1
 refine az (N:=65) (rs:=[.cell 6 52,.tmp 7]) Tryz.func84
  (.al dc (fun g6=>.q 1<|.q 1<|.c (nS n8 63) []<|.q 7<|.q 1<|.c (jm ((ag 63 n8).2.1)) []<|.q 5<|.q 2<|.br (.bd dc<|.st none<|.q 1<|.nil) (.q 1<|.c (jM fr) []<|.ot 33 (fun Vx U' Vz=>.q 1<|.q 1<|.c (pP ((ag 63 n8).1) 47) []<|.q 2<|.loop (Nat×(List BL)×Nat×Nat×Nat) (fun (i,o,g,f,k)=>⟨[(0,sV d),(6,.ptr (.key 6) [] g6 0),(9,sV ((bQ (ag 63 n8).2.1).1)),(10,bV ((ag 63 n8).2.2)),(12,.own 1 (o.map sV) g f k),(35,.sl true ((aj 47 (ag 63 n8).1).map sV)),(36,iN ((aj 47 (ag 63 n8).1).length)),(37,iN i)],[(6,(g6,fH (.sl true [])))]⟩) (fun (i,o,g,f,k)=>ji d fr n8 i o g f k) (fun (i,o,g,f,k)=>(aj 47 (ag 63 n8).1).length-i) (fun (i,o,g,f,k)=>.q 1<|.br (.r 3 [sV ((aj 47 (ag 63 n8).1).getD i [])]<|.q 1<|.c (jm ((aj 47 (ag 63 n8).1).getD i [])) []<|.q 5<|.q 2<|.br (.bd dc<|.st none<|.q 1<|.nil) (.q 2<|.bs<|.ap (fun Sd Ry Ss=>.h (.o5 52 (.own 1 ((o++[(bQ ((aj 47 (ag 63 n8).1).getD i [])).1]).map sV) Sd Ry Ss))<|.q 1<|.q 2<|.nil))) (.h (.fz 12)<|.h (.o5 12 (ay o))<|.q 2<|.c (rq o) []<|.q 2<|.bd dc<|.al dc (fun g17=>.st none<|.r 1 [.c9]<|.c (fp (⟨d,bR o,(ag 63 n8).2.2,(bQ (ag 63 n8).2.1).1⟩:s4)) []<|.q 1<|.br (.bd dc<|.st none<|.q 1<|.nil) (.r 1 [.c9]<|.st none<|.q 1<|.nil))))))))
  ((fun v1:V=>(∀ g6:Nat,(nS n8 63).sm/\((n8.length<=1000000))/\(jm ((ag 63 n8).2.1)).sm/\((((ag 63 n8).2.1).length<=1000000))/\Br (!((bQ ((ag 63 n8).2.1)).2)) (Z g6 0/\(g6=g6)/\Q v1 (fO d fr n8)) ((jM fr).sm/\((fr.length<=1000000))/\∀ Vx U' Vz:Nat,(pP ((ag 63 n8).1) 47).sm/\((((ag 63 n8).1).length<=1000000))/\(∃ x:Nat×(List BL)×Nat×Nat×Nat,match x with | (j7,u7,B0,z7,s5)=>(ji d fr n8 j7 u7 B0 z7 s5)/\E (sV d)/\E (.ptr (.key 6) [] g6 0)/\Q (sV ((bQ ((ag 63 n8).2.1)).1)) (sV ((bQ (ag 63 n8).2.1).1))/\E (bV ((ag 63 n8).2.2))/\Q (.own 1 (fr.map sV) Vx U' Vz) (.own 1 (u7.map sV) B0 z7 s5)/\Q (.sl true ((aj 47 ((ag 63 n8).1)).map sV)) (.sl true ((aj 47 (ag 63 n8).1).map sV))/\Q (iN (((aj 47 ((ag 63 n8).1)).map sV).length)) (iN ((aj 47 (ag 63 n8).1).length))/\Q (iN 0) (iN j7)/\Er g6 (fH (.sl true []))/\True)/\∀ x:Nat×(List BL)×Nat×Nat×Nat,match x with | (i,o,g,f,k)=>(ji d fr n8 i o g f k)->(fun v2:List V=>Br (s8 (i:Int) (((aj 47 (ag 63 n8).1).length:Nat):Int)) (Ex (i:Int) ((aj 47 (ag 63 n8).1).map sV) (sV ((aj 47 (ag 63 n8).1).getD i []))/\True/\(jm ((aj 47 (ag 63 n8).1).getD i [])).sm/\((((aj 47 (ag 63 n8).1).getD i []).length<=1000000))/\Br (!((bQ ((aj 47 (ag 63 n8).1).getD i [])).2)) (Z g6 0/\(g6=g6)/\Q v1 (fO d fr n8)) (((1,1,g,f,k,(o.map sV).length)=(1,1,g,f,k,(o.map sV).length))/\(True)/\(V.aG v2=false)/\(aL 1 v2)/\(((o.map sV).length+v2.length)*16<=140737488355328)/\∀ Sd Ry Ss:Nat,((.own 1 ((o.map sV)++v2) Sd Ry Ss:V)=.own 1 ((o++[(bQ ((aj 47 (ag 63 n8).1).getD i [])).1]).map sV) Sd Ry Ss)/\m9 ((i:Int)+1)/\∃ x:Nat×(List BL)×Nat×Nat×Nat,match x with | (c5,l9,s7,r4,k₂)=>(ji d fr n8 c5 l9 s7 r4 k₂)/\((aj 47 (ag 63 n8).1).length-c5<(aj 47 (ag 63 n8).1).length-i)/\E (sV d)/\E (.ptr (.key 6) [] g6 0)/\E (sV ((bQ (ag 63 n8).2.1).1))/\E (bV ((ag 63 n8).2.2))/\Q (.own 1 ((o++[(bQ ((aj 47 (ag 63 n8).1).getD i [])).1]).map sV) Sd Ry Ss) (.own 1 (l9.map sV) s7 r4 k₂)/\E (.sl true ((aj 47 (ag 63 n8).1).map sV))/\E (iN ((aj 47 (ag 63 n8).1).length))/\Q (iN (i+1)) (iN c5)/\Er g6 (fH (.sl true []))/\True)) (((.sl false (V.D5 (o.map sV)):V)=ay o)/\(rq o).sm/\((o.length<=1099511627776))/\∀ g17:Nat,Z g17 0/\Z g17 0/\(fp (⟨d,bR o,(ag 63 n8).2.2,(bQ (ag 63 n8).2.1).1⟩:s4)).sm/\((cI (⟨d,bR o,(ag 63 n8).2.2,(bQ (ag 63 n8).2.1).1⟩:s4)))/\Br (!(aI (⟨d,bR o,(ag 63 n8).2.2,(bQ (ag 63 n8).2.1).1⟩:s4))) (Z g6 0/\(g6=g6)/\Q v1 (fO d fr n8)) (Z g17 0/\Z g6 0/\(g6=g6)/\Q (.tup [bC d (bR o) ((ag 63 n8).2.2) ((bQ (ag 63 n8).2.1).1),bV true]) (fO d fr n8)))) ([sV ((bQ ((aj 47 (ag 63 n8).1).getD i [])).1)]:List V)))) (.tup [fH (.sl false []),bV false])) ?_
 intro g6
 refine⟨rfl,Z9,rfl,Z9,?_⟩
 refine bI (fun j9=>?_) fun j9=>?_
 refine⟨rfl,?_⟩
 refine⟨rfl,?_⟩
 unfold Q fO
 rw[show bu d fr n8=none from by unfold bu;rw[show fa (ag 63 n8).2.1=false from j9,Bool.and_false];rfl];rfl
 refine⟨rfl,Z5,?_⟩
 intro Vx U' Vz
 refine⟨rfl,Z9,?_⟩
 refine⟨⟨(0,fr,Vx,U',Vz),?_,rfl,rfl,Z4,rfl,rfl,Z4,Z4,rfl,rfl,trivial⟩,?_⟩
 unfold ji
 simp
 rintro⟨i,o,g,f,k⟩ ⟨h1,h2,h3⟩
 have Qh:=qE 47 (ag 63 n8).1 i
 have RZ:o.length<=100+i:=by rw[h2];simp;omega
 refine bI (fun l6=>?_) fun l6=>?_
 refine⟨⟨Z9,an (d:=[]) Z9⟩,trivial,rfl,Z9,?_⟩
 refine bI (fun n0=>?_) fun n0=>?_
 refine⟨rfl,?_⟩
 refine⟨rfl,?_⟩
 unfold Q fO
 rw[show bu d fr n8=none from by unfold bu;rw[all_false (i:=i) (d:=[]) Z9 n0];rfl];rfl
 refine⟨rfl,trivial,rfl,by simp[aL,V.n,V.ns],Z0,?_⟩
 intro Sd Ry Ss
 refine⟨congrArg (V.own 1 · Sd Ry Ss) Z8,Z9,?_⟩
 refine⟨(i+1,o++[(bQ ((aj 47 (ag 63 n8).1).getD i [])).1],Sd,Ry,Ss),?_,?_,rfl,rfl,rfl,rfl,rfl,rfl,rfl,rfl,rfl,trivial⟩
 unfold ji
 refine⟨Z9,?_,?_⟩
 rw[h2,bj (by omega:i<(aj 47 (ag 63 n8).1).length) []];simp[eG]
 rw[bj (by omega:i<(aj 47 (ag 63 n8).1).length) []];simp only[List.all_append,h3,List.all_cons,List.all_nil,fa,Bool.and_true,Bool.true_and];exact n0
 exact Z1
 refine⟨congrArg (V.sl false) (aR (fun _=>rfl) _),rfl,Z9,?_⟩
 intro g17
 refine⟨rfl,?_⟩
 have hz:cI ⟨d,bR o,(ag 63 n8).2.2,(bQ (ag 63 n8).2.1).1⟩:=by
  rw[h2,List.take_of_length_le Z9];exact LJ hh hf Z9
 refine⟨rfl,rfl,hz,?_⟩
 refine bI (fun w5=>?_) fun w5=>?_
 refine⟨rfl,?_⟩
 refine⟨rfl,?_⟩
 unfold Q fO
 have G3:(aj 47 (ag 63 n8).1).all fa=true:=by rw[List.take_of_length_le Z9]at h3;exact h3
 rw[List.take_of_length_le Z9]at h2
 subst h2
 rw[show bu d fr n8=none from by unfold bu;rw[G3];grind [fa,eG]];rfl
 refine⟨rfl,rfl,?_⟩
 refine⟨rfl,?_⟩
 unfold Q fO
 have G3:(aj 47 (ag 63 n8).1).all fa=true:=by rw[List.take_of_length_le Z9]at h3;exact h3
 rw[List.take_of_length_le Z9]at h2
 subst h2
 rw[show bu d fr n8=some _ from by unfold bu;rw[G3,if_pos (by grind [fa,eG]),if_pos (by grind [fa,eG])]] <;> rfl)
abbrev fY(s:BL):V:=.tup [bC ((oA (cq s)).h9) ((oA (cq s)).b9) ((oA (cq s)).asks) ((oA (cq s)).ask),bV ((cq s).isSome)]
def lJ(s:BL):o8 Tryz.prog:=.mk 46 [sV s] [] ((s.length<=300)/\(m4 s)) (fY s) [] (by
 rintro⟨hs,ha⟩
 refine az (N:=31) (rs:=[.cell 2 52,.tmp 3]) Tryz.func46
  (.al dc (fun g2=>.q 1<|.q 1<|.c (sC s ([47,47]:BL)) []<|.q 5<|.q 2<|.br (.bd dc<|.st none<|.q 1<|.nil) (.h (.o5 10 (sV (s.drop 2)))<|.h (.o5 4 (sV (s.drop 2)))<|.q 1<|.c (GS (s.drop 2)) []<|.q 1<|.q 2<|.br (.q 3<|.dx 10 [0,1,2,3,4,5,6,7,8,9] [] []<|.q 1<|.q 1<|.q 1<|.c (iW (((s.drop 2).take ((s.drop 2).length)).drop ((0:Int).toNat))) []<|.q 1<|.q 1<|.q 1<|.c (fm (aN (((s.drop 2).take ((s.drop 2).length)).drop ((0:Int).toNat))) ([]:List BL) (((s.drop 2).take (s.drop 2).length).drop ((s.drop 2).length))) []<|.q 1<|.q 1<|.st none<|.q 1<|.nil) (.dx 10 [0,1,2,3,4,5,6,7,8,9] [] []<|.q 1<|.q 1<|.q 1<|.c (iW (((s.drop 2).take (Int.toNat (Lib.indexAny (s.drop 2) [47,63]))).drop ((0:Int).toNat))) []<|.q 1<|.q 1<|.q 1<|.c (fm (aN (((s.drop 2).take (Int.toNat (Lib.indexAny (s.drop 2) [47,63]))).drop ((0:Int).toNat))) ([]:List BL) (((s.drop 2).take (s.drop 2).length).drop (Int.toNat (Lib.indexAny (s.drop 2) [47,63])))) []<|.q 1<|.q 1<|.st none<|.q 1<|.nil))))
  ((fun v1:BL=>(fun v2:V=>(∀ g2:Nat,(sC s v1).sm/\((s.length<=4611686018427387904)/\(v1.length<=4611686018427387904))/\Br (!(eX s v1)) (Z g2 0/\(g2=g2)/\Q (.tup [fH (.sl false []),bV false]) (fY s)) ((v2=sV (s.drop 2))/\(v2=sV (s.drop 2))/\(GS (s.drop 2)).sm/\(((s.drop 2).length<=1000000)/\(∀ c,c∈(s.drop 2)->c.toNat<128))/\Br (s8 (Lib.indexAny (s.drop 2) [47,63]) 0) (Sx (0:Int) (((s.drop 2).length:Nat):Int) (s.drop 2)/\(iW (((s.drop 2).take ((s.drop 2).length)).drop ((0:Int).toNat))).sm/\(((((s.drop 2).take ((s.drop 2).length)).drop ((0:Int).toNat)).length<=1099511627776))/\Sx (((s.drop 2).length:Nat):Int) ((s.drop 2).length:Int) (s.drop 2)/\(fm (aN (((s.drop 2).take ((s.drop 2).length)).drop ((0:Int).toNat))) ([]:List BL) (((s.drop 2).take (s.drop 2).length).drop ((s.drop 2).length))).sm/\(((aN (((s.drop 2).take ((s.drop 2).length)).drop ((0:Int).toNat))).length<=1000)/\(∀ i,(([]:List BL).getD i []).length<=1000)/\(([]:List BL).length<=100)/\((((s.drop 2).take (s.drop 2).length).drop ((s.drop 2).length)).length<=300))/\Z g2 0/\(g2=g2)/\Q (.tup [bC ((oA (bu (aN (((s.drop 2).take ((s.drop 2).length)).drop ((0:Int).toNat))) ([]:List BL) (((s.drop 2).take (s.drop 2).length).drop ((s.drop 2).length)))).h9) ((oA (bu (aN (((s.drop 2).take ((s.drop 2).length)).drop ((0:Int).toNat))) ([]:List BL) (((s.drop 2).take (s.drop 2).length).drop ((s.drop 2).length)))).b9) ((oA (bu (aN (((s.drop 2).take ((s.drop 2).length)).drop ((0:Int).toNat))) ([]:List BL) (((s.drop 2).take (s.drop 2).length).drop ((s.drop 2).length)))).asks) ((oA (bu (aN (((s.drop 2).take ((s.drop 2).length)).drop ((0:Int).toNat))) ([]:List BL) (((s.drop 2).take (s.drop 2).length).drop ((s.drop 2).length)))).ask),bV ((bu (aN (((s.drop 2).take ((s.drop 2).length)).drop ((0:Int).toNat))) ([]:List BL) (((s.drop 2).take (s.drop 2).length).drop ((s.drop 2).length))).isSome)]) (fY s)) (Sx (0:Int) (Lib.indexAny (s.drop 2) [47,63]) (s.drop 2)/\(iW (((s.drop 2).take (Int.toNat (Lib.indexAny (s.drop 2) [47,63]))).drop ((0:Int).toNat))).sm/\(((((s.drop 2).take (Int.toNat (Lib.indexAny (s.drop 2) [47,63]))).drop ((0:Int).toNat)).length<=1099511627776))/\Sx (Lib.indexAny (s.drop 2) [47,63]) ((s.drop 2).length:Int) (s.drop 2)/\(fm (aN (((s.drop 2).take (Int.toNat (Lib.indexAny (s.drop 2) [47,63]))).drop ((0:Int).toNat))) ([]:List BL) (((s.drop 2).take (s.drop 2).length).drop (Int.toNat (Lib.indexAny (s.drop 2) [47,63])))).sm/\(((aN (((s.drop 2).take (Int.toNat (Lib.indexAny (s.drop 2) [47,63]))).drop ((0:Int).toNat))).length<=1000)/\(∀ i,(([]:List BL).getD i []).length<=1000)/\(([]:List BL).length<=100)/\((((s.drop 2).take (s.drop 2).length).drop (Int.toNat (Lib.indexAny (s.drop 2) [47,63]))).length<=300))/\Z g2 0/\(g2=g2)/\Q (.tup [bC ((oA (bu (aN (((s.drop 2).take (Int.toNat (Lib.indexAny (s.drop 2) [47,63]))).drop ((0:Int).toNat))) ([]:List BL) (((s.drop 2).take (s.drop 2).length).drop (Int.toNat (Lib.indexAny (s.drop 2) [47,63]))))).h9) ((oA (bu (aN (((s.drop 2).take (Int.toNat (Lib.indexAny (s.drop 2) [47,63]))).drop ((0:Int).toNat))) ([]:List BL) (((s.drop 2).take (s.drop 2).length).drop (Int.toNat (Lib.indexAny (s.drop 2) [47,63]))))).b9) ((oA (bu (aN (((s.drop 2).take (Int.toNat (Lib.indexAny (s.drop 2) [47,63]))).drop ((0:Int).toNat))) ([]:List BL) (((s.drop 2).take (s.drop 2).length).drop (Int.toNat (Lib.indexAny (s.drop 2) [47,63]))))).asks) ((oA (bu (aN (((s.drop 2).take (Int.toNat (Lib.indexAny (s.drop 2) [47,63]))).drop ((0:Int).toNat))) ([]:List BL) (((s.drop 2).take (s.drop 2).length).drop (Int.toNat (Lib.indexAny (s.drop 2) [47,63]))))).ask),bV ((bu (aN (((s.drop 2).take (Int.toNat (Lib.indexAny (s.drop 2) [47,63]))).drop ((0:Int).toNat))) ([]:List BL) (((s.drop 2).take (s.drop 2).length).drop (Int.toNat (Lib.indexAny (s.drop 2) [47,63])))).isSome)]) (fY s))))) (sV (if eX s v1=true then s.drop v1.length else s):V)) ([47,47]:BL)) ?_
 intro g2
 refine⟨rfl,⟨Z9,Z8⟩,?_⟩
 refine bI (fun j9=>?_) fun j9=>?_
 refine⟨rfl,?_⟩
 refine⟨rfl,?_⟩
 unfold Q fY
 rw[show cq s=none from if_neg (by rw[j9];decide)] <;> rfl
 refine⟨(by rw[if_pos j9];rfl),(by rw[if_pos j9];rfl),rfl,⟨Z0,ha.drop 2⟩,?_⟩
 refine bI (fun l6=>?_) fun l6=>?_
 have hq:=(tK (s.drop 2)).1 Z9
 refine⟨Z9,rfl,Z0,Z9,rfl,⟨by simp[aN];omega,Z8,Z8,by first | (solve | simp) | (simp;omega)⟩,rfl,?_⟩
 refine⟨rfl,?_⟩
 unfold Q fY
 rw[show cq s=da (s.drop 2) from if_pos j9]
 unfold da;rw[hq.1,hq.2];simp[show (s.drop 2).take (s.length-2)=s.drop 2 from List.take_of_length_le Z8,show s.drop (2+(s.length-2))=[] from List.drop_eq_nil_of_le Z9]
 have hq:=(tK (s.drop 2)).2 Z9
 have hq3:=hq.2.2
 refine⟨Z9,rfl,Z0,Z9,rfl,⟨by simp[aN];omega,Z8,Z8,by first | (solve | simp) | (simp;omega)⟩,rfl,?_⟩
 refine⟨rfl,?_⟩
 unfold Q fY
 rw[show cq s=da (s.drop 2) from if_pos j9]
 unfold da;rw[hq.1,hq.2.1];simp[show (s.drop 2).take (s.length-2)=s.drop 2 from List.take_of_length_le Z8])
abbrev jw(raw:BL):V:=.tup [bC ((oA (ar raw)).h9) ((oA (ar raw)).b9) ((oA (ar raw)).asks) ((oA (ar raw)).ask),bV ((ar raw).isSome)]
def ik(raw:BL):o8 Tryz.prog:=.mk 19 [sV raw] [] ((raw.length<=1000000)/\(m4 raw)) (jw raw) [] (by
 rintro⟨hs,ha⟩
 have Mo:=lO 35 raw
 refine az (N:=21) (rs:=[.cell 2 52,.tmp 3]) Tryz.func19
  (.al dc (fun g2=>.q 1<|.q 3<|.br (.bd dc<|.st none<|.q 1<|.nil) (.q 1<|.c (nS raw 35) []<|.q 7<|.q 1<|.c (lJ ((ag 35 raw).1)) []<|.q 2<|.st none<|.q 1<|.nil)))
  (∀ g2:Nat,Br (s9 (raw.length:Int) 60) (Z g2 0/\(g2=g2)/\Q (.tup [fH (.sl false []),bV false]) (jw raw)) ((nS raw 35).sm/\((raw.length<=1000000))/\(lJ ((ag 35 raw).1)).sm/\((((ag 35 raw).1).length<=300)/\(m4 ((ag 35 raw).1)))/\Z g2 0/\(g2=g2)/\Q (.tup [bC ((oA (cq ((ag 35 raw).1))).h9) ((oA (cq ((ag 35 raw).1))).b9) ((oA (cq ((ag 35 raw).1))).asks) ((oA (cq ((ag 35 raw).1))).ask),bV ((cq ((ag 35 raw).1)).isSome)]) (jw raw))) ?_
 intro g2
 refine bI (fun j9=>?_) fun j9=>?_
 refine⟨rfl,?_⟩
 refine⟨rfl,?_⟩
 unfold Q jw
 rw[tW Z9];rfl
 refine⟨rfl,Z9,rfl,⟨Z9,ha.cut 35⟩,rfl,?_⟩
 refine⟨rfl,?_⟩
 unfold Q jw
 rw[zW Z9])
abbrev hZ(s:BL):V:=.tup [bC ((oA (aB s)).h9) ((oA (aB s)).b9) ((oA (aB s)).asks) ((oA (aB s)).ask),bV ((aB s).isSome)]
def cH(s:BL):o8 Tryz.prog:=.mk 37 [sV s] [] ((s.length<=1000000)/\(m4 s)) (hZ s) [] (by
 rintro⟨hs,ha⟩
 refine az (N:=21) (rs:=[.cell 2 52,.tmp 3]) Tryz.func37
  (.al dc (fun g2=>.q 1<|.q 1<|.c (ik s) []<|.q 3<|.al dc (fun g4=>.st none<|.q 1<|.r 4 [.c9]<|.cg (im (oA (ar s)))<|.q 3<|.br (.bd dc<|.st none<|.q 1<|.nil) (.r 1 [.c9]<|.st none<|.q 1<|.nil))))
  ((fun v1:Bool=>(∀ g2:Nat,(ik s).sm/\((s.length<=1000000)/\(m4 s))/\∀ g4:Nat,Z g4 0/\Gd (v1==false) (Z g4 0)/\Gd (v1==false) (((cI (oA (ar s))))/\(im (oA (ar s))).sm)/\Pk v1 true (v1==false)/\Br (v1||(!((cC (oA (ar s)))==s))) (Z g2 0/\(g2=g2)/\Q (.tup [fH (.sl false []),bV false]) (hZ s)) (Z g4 0/\Z g2 0/\(g2=g2)/\Q (.tup [bC ((oA (ar s)).h9) ((oA (ar s)).b9) ((oA (ar s)).asks) ((oA (ar s)).ask),bV true]) (hZ s)))) (!((ar s).isSome))) ?_
 intro g2
 refine⟨rfl,⟨hs,ha⟩,?_⟩
 intro g4
 refine⟨rfl,fun hG=>rfl,fun hG=>⟨by(try simp only[nb]at hG);exact mZ _,rfl⟩,⟨fun _=>rfl,fun h=>by rw[h] <;> rfl⟩,?_⟩
 refine bI (fun j9=>?_) fun j9=>?_
 refine⟨rfl,?_⟩
 refine⟨rfl,?_⟩
 unfold Q hZ
 rw[show aB s=none from if_neg (by rw[Hp (by simpa using j9)];decide)] <;> rfl
 refine⟨rfl,rfl,?_⟩
 refine⟨rfl,?_⟩
 unfold Q hZ
 rw[show aB s=ar s from if_pos (vR j9.1 j9.2),j9.1])
def fj(s:BL):o8 Tryz.prog:=.mk 99 [sV s] [] ((s.length<=1000000)/\(m4 s)) (bV (aD s)) [] (by
 rintro⟨hs,ha⟩
 refine az (N:=11) (rs:=[.tmp 2]) Tryz.func99
  (.q 1<|.q 1<|.c (cH s) []<|.q 3<|.al dc (fun g3=>.st none<|.q 1<|.q 2<|.nil))
  ((cH s).sm/\((s.length<=1000000)/\(m4 s))/\∀ g3:Nat,Z g3 0/\Q (bV ((aB s).isSome)) (bV (aD s))) ?_
 refine⟨rfl,⟨hs,ha⟩,?_⟩
 intro g3
 refine⟨rfl,?_⟩
 unfold Q
 rw[gH])
theorem KK(w:List Pg)(a:BL):((B3 w a).2=true/\∃ y,cv (w.map E7) a=some y/\(r5 (B3 w a).1).val? =some y)\/((B3 w a).2=false/\cv (w.map E7) a=none/\∃ y,(r5 (B3 w a).1).val? =some y/\∀ w,(zeroValue 99).run Tryz.prog w=.ok y w):=by
 rcases Bc a w with ⟨q1,q2,q3⟩ | ⟨q1,q2⟩
 exact .inr ⟨q2,q1,_,rfl,by rw[q3];exact Tryz.zeroValue99⟩
 exact .inl ⟨q2,_,q1,rfl⟩
def pW(y:Pg):o8 Tryz.prog:=.mk 62 [cn y.addr y.text y.lead y.m0] [] (m8 y) (bV (dK y)) [] (by
 intro hy
 obtain⟨y1,y2,y3,y4,y5,y6⟩:=id hy
 refine az (N:=36) (rs:=[.tmp 2]) Tryz.func62
  (.bx (fun g1=>.q 1<|.r 2 [.c9]<|.c (fj y.addr) []<|.r 17 [.c9,.c9,.c9]<|.br (.q 1<|.nil) (.r 6 [.c9,.c9]<|.cg (fj y.lead)<|.r 7 [.c9]<|.nil)))
  ((fun v1:Bool=>(fun v2:Bool=>(fun v3:Bool=>(∀ g1:Nat,Z g1 0/\(fj y.addr).sm/\((y.addr.length<=1000000)/\(m4 y.addr))/\Gd (v2==false) (Z g1 1)/\Pk v2 true (v2==false)/\Gd ((v2||v1)==false) (Z g1 3)/\Pk (v2||v1) true ((v2||v1)==false)/\Gd (((v2||v1)||(s8 y.m0 0))==false) (Z g1 3)/\Pk ((v2||v1)||(s8 y.m0 0)) true (((v2||v1)||(s8 y.m0 0))==false)/\Br (((v2||v1)||(s8 y.m0 0))||(s9 y.m0 9)) (Q (bV false) (bV (dK y))) (Z g1 2/\Gd v3 (Z g1 2)/\Gd v3 (((y.lead.length<=1000000)/\(m4 y.lead))/\(fj y.lead).sm)/\Gd (v3&&((aD y.lead)==true)) (Z g1 1)/\Gd v3 (Pk (aD y.lead) (v3&&((aD y.lead)==true)) true)/\Pk (y.lead==[]) true v3/\Q (bV ((y.lead==[])||((aD y.lead)&&(y.text==[])))) (bV (dK y))))) ((y.lead==[])==false)) (!(aD y.addr))) (s9 (y.text.length:Int) 300)) ?_
 intro g1
 refine⟨rfl,rfl,⟨Z9,hy.aa⟩,fun hG=>rfl,⟨fun _=>rfl,fun h=>by rw[h] <;> rfl⟩,fun hG=>rfl,⟨fun _=>rfl,fun h=>by rw[h] <;> rfl⟩,fun hG=>rfl,⟨fun _=>rfl,fun h=>by rw[h] <;> rfl⟩,?_⟩
 refine bI (fun j9=>?_) fun j9=>?_
 unfold Q
 refine congrArg bV ?_
 unfold dK y8
 grind
 refine⟨rfl,fun hG=>rfl,fun hG=>⟨⟨by(try simp only[nb]at hG);omega,hy.la⟩,rfl⟩,fun hG=>rfl,fun hG=>⟨fun h=>by rw[h];exact(Bool.and_eq_true _ _).mpr ⟨hG,rfl⟩,fun _=>rfl⟩,⟨fun _=>rfl,fun h=>by rw[h] <;> rfl⟩,?_⟩
 unfold Q
 refine congrArg bV ?_
 unfold dK y8
 grind)
def jg(a:s4):o8 Tryz.prog:=.mk 73 [bC a.h9 a.b9 a.asks a.ask] [] (cI a) (sV (if aI a=true then bm a else [])) [] (by
 intro ha
 refine az (N:=8) (rs:=[.tmp 2]) Tryz.func73
  (.bx (fun g1=>.q 1<|.r 1 [.c9]<|.c (fp a) []<|.q 1<|.br (.q 1<|.nil) (.r 1 [.c9]<|.c (lI a) []<|.q 1<|.nil)))
  (∀ g1:Nat,Z g1 0/\(fp a).sm/\((cI a))/\Br (!(aI a)) (Q (sV []) (sV (if aI a=true then bm a else []))) (Z g1 0/\(lI a).sm/\((cI a))/\Q (sV (bm a)) (sV (if aI a=true then bm a else [])))) ?_
 intro g1
 refine⟨rfl,rfl,by first | assumption | exact mZ _ | exact hz,?_⟩
 refine bI (fun j9=>?_) fun j9=>?_
 unfold Q
 rw[if_neg (by rw[j9];decide)]
 refine⟨rfl,rfl,Z5,?_⟩
 unfold Q
 rw[if_pos j9])
def fk(w:List Pg):o8 Tryz.prog:=.mk 34 [bS w] [] ((w.length<=30)/\(∀ i,m8 (w.getD i l5))/\(aq w=true)) (.tup [.mp (w.map E7),bV true]) [] (by
 rintro⟨hw,hz,hk⟩
 obtain⟨k1,k2,k3⟩:=Ey hk
 have hwm:∀ i,(i:Nat)<=w.length/\w.length<=i->wE (w.take i)=w.map E7:=fun i hi=>by
  have:=CN i hi.1 (fun j hj k hk=>k3 j Z9 k hk)
  rw[this,List.take_of_length_le Z9]
 refine az (N:=31) (rs:=[.tmp 2,.tmp 3]) Tryz.func34
  (.q 2<|.q 3<|.br (.q 2<|.nil) (.cu VP (fun g10=>.q 1<|.q 3<|.loop (Nat×Nat) (fun (i,g)=>⟨[(0,bS w),(4,.om (wE (w.take i)) g),(11,bS w),(12,iN w.length),(13,iN i)],[]⟩) (fun (i,g)=>i<=w.length/\∀ j,j<i->dK (w.getD j l5)=true) (fun (i,g)=>w.length-i) (fun (i,g)=>.q 1<|.br (.r 2 [cn ((w.getD i l5).addr) ((w.getD i l5).text) ((w.getD i l5).lead) ((w.getD i l5).m0)]<|.al mN (fun g6=>.st none<|.r 1 [.c9]<|.c (pW (w.getD i l5)) []<|.q 1<|.br (.q 2<|.nil) (.r 4 [.c9,.c9]<|.cu (VO 4 (wE (w.take i)) ((w.getD i l5).addr) (lr (w.getD i l5))) (fun _=>.h (.o5 4 (.om (wE (w.take (i+1))) g))<|.q 2<|.nil)))) (.h (.fz 4)<|.h (.o5 4 (.mp (w.map E7)))<|.q 2<|.cu Xc (fun _=>.q 5<|.nil))))))
  ((fun v1:V=>(Br (s9 (((w.map r5).length:Nat):Int) 12) (Q (.tup [.lit (.map none),bV false]) v1) (True/\∀ g10:Nat,(∃ x:Nat×Nat,match x with | (j7,B0)=>(j7<=w.length/\∀ j,j<j7->dK (w.getD j l5)=true)/\E (bS w)/\Q (.om [] g10) (.om (wE (w.take j7)) B0)/\E (bS w)/\Q (iN ((w.map r5).length)) (iN w.length)/\Q (iN 0) (iN j7)/\True)/\∀ x:Nat×Nat,match x with | (i,g)=>(i<=w.length/\∀ j,j<i->dK (w.getD j l5)=true)->Br (s8 (i:Int) (w.length:Int)) (Ex (i:Int) (w.map r5) (cn ((w.getD i l5).addr) ((w.getD i l5).text) ((w.getD i l5).lead) ((w.getD i l5).m0))/\True/\∀ g6:Nat,Z g6 0/\Z g6 0/\(pW (w.getD i l5)).sm/\((m8 (w.getD i l5)))/\Br (!(dK (w.getD i l5))) (Q (.tup [.lit (.map none),bV false]) v1) (Z g6 0/\Z g6 0/\(((g:Nat)=g/\(wE (w.take i):List (BL×Value))=wE (w.take i))/\((sV ((w.getD i l5).addr):V)=sV ((w.getD i l5).addr))/\(cn ((w.getD i l5).addr) ((w.getD i l5).text) ((w.getD i l5).lead) ((w.getD i l5).m0):V).val? =some (lr (w.getD i l5)))/\∀ _:Unit,((.om (eW (wE (w.take i)) ((w.getD i l5).addr) (lr (w.getD i l5))) g:V)=.om (wE (w.take (i+1))) g)/\m9 ((i:Int)+1)/\∃ x:Nat×Nat,match x with | (c5,s7)=>(c5<=w.length/\∀ j,j<c5->dK (w.getD j l5)=true)/\(w.length-c5<w.length-i)/\E (bS w)/\Q (.om (wE (w.take (i+1))) g) (.om (wE (w.take c5)) s7)/\E (bS w)/\E (iN w.length)/\Q (iN (i+1)) (iN c5)/\True)) (((.mp (wE (w.take i)):V)=.mp (w.map E7))/\True/\∀ _:Unit,Q (.tup [.mp (w.map E7),bV (o6 (((w.map E7).length:Nat):Int) (((w.map r5).length:Nat):Int))]) v1)))) (.tup [.mp (w.map E7),bV true])) ?_
 refine bI (fun j9=>?_) fun j9=>?_
 omega
 refine⟨trivial,?_⟩
 intro g10
 refine⟨⟨(0,g10),?_,rfl,Z4,rfl,Z4,rfl,trivial⟩,?_⟩
 simp
 rintro⟨i,g⟩ ⟨h1,h2⟩
 have hzi:=hz i
 refine bI (fun l6=>?_) fun l6=>?_
 refine⟨⟨Z9,an (d:=l5) Z9⟩,trivial,?_⟩
 intro g6
 refine⟨rfl,rfl,rfl,hz i,?_⟩
 refine bI (fun n0=>?_) fun n0=>?_
 have:=k2 i Z9;simp_all
 refine⟨rfl,rfl,⟨⟨rfl,rfl⟩,rfl,rfl⟩,?_⟩
 intro _
 refine⟨congrArg (V.om · g) ((pd Z9).symm),Z9,?_⟩
 refine⟨(i+1,g),?_,?_,rfl,rfl,rfl,rfl,rfl,trivial⟩
 exact⟨Z9,bP h2 (by simpa using n0)⟩
 exact Z1
 refine⟨congrArg V.mp (hwm i Z9),trivial,?_⟩
 intro _
 unfold Q
 rw[show o6 ((w.map E7).length:Int) ((w.map r5).length:Int)=true from by unfold o6;simp])
def fU(w:List Pg):o8 Tryz.prog:=.mk 34 [bS w] [] ((w.length<=30)/\(∀ i,m8 (w.getD i l5))/\(aq w=false)) (.tup [.c9,bV false]) [] (by
 rintro⟨hw,hz,hk⟩
 refine az (N:=31) (rs:=[.tmp 2,.tmp 3]) Tryz.func34
  (.q 2<|.q 3<|.br (.q 2<|.nil) (.cu VP (fun g10=>.q 1<|.q 3<|.loop (Nat×Nat) (fun (i,g)=>⟨[(0,bS w),(4,.om (wE (w.take i)) g),(11,bS w),(12,iN w.length),(13,iN i)],[]⟩) (fun (i,g)=>i<=w.length/\∀ j,j<i->dK (w.getD j l5)=true) (fun (i,g)=>w.length-i) (fun (i,g)=>.q 1<|.br (.r 2 [cn ((w.getD i l5).addr) ((w.getD i l5).text) ((w.getD i l5).lead) ((w.getD i l5).m0)]<|.al mN (fun g6=>.st none<|.r 1 [.c9]<|.c (pW (w.getD i l5)) []<|.q 1<|.br (.q 2<|.nil) (.r 4 [.c9,.c9]<|.cu (VO 4 (wE (w.take i)) ((w.getD i l5).addr) (lr (w.getD i l5))) (fun _=>.h (.o5 4 (.om (wE (w.take (i+1))) g))<|.q 2<|.nil)))) (.h (.fz 4)<|.q 2<|.cu Xc (fun _=>.q 5<|.nil))))))
  ((fun v1:V=>(Br (s9 (((w.map r5).length:Nat):Int) 12) (Q v1 v1) (True/\∀ g10:Nat,(∃ x:Nat×Nat,match x with | (j7,B0)=>(j7<=w.length/\∀ j,j<j7->dK (w.getD j l5)=true)/\E (bS w)/\Q (.om [] g10) (.om (wE (w.take j7)) B0)/\E (bS w)/\Q (iN ((w.map r5).length)) (iN w.length)/\Q (iN 0) (iN j7)/\True)/\∀ x:Nat×Nat,match x with | (i,g)=>(i<=w.length/\∀ j,j<i->dK (w.getD j l5)=true)->Br (s8 (i:Int) (w.length:Int)) (Ex (i:Int) (w.map r5) (cn ((w.getD i l5).addr) ((w.getD i l5).text) ((w.getD i l5).lead) ((w.getD i l5).m0))/\True/\∀ g6:Nat,Z g6 0/\Z g6 0/\(pW (w.getD i l5)).sm/\((m8 (w.getD i l5)))/\Br (!(dK (w.getD i l5))) (Q v1 v1) (Z g6 0/\Z g6 0/\(((g:Nat)=g/\(wE (w.take i):List (BL×Value))=wE (w.take i))/\((sV ((w.getD i l5).addr):V)=sV ((w.getD i l5).addr))/\(cn ((w.getD i l5).addr) ((w.getD i l5).text) ((w.getD i l5).lead) ((w.getD i l5).m0):V).val? =some (lr (w.getD i l5)))/\∀ _:Unit,((.om (eW (wE (w.take i)) ((w.getD i l5).addr) (lr (w.getD i l5))) g:V)=.om (wE (w.take (i+1))) g)/\m9 ((i:Int)+1)/\∃ x:Nat×Nat,match x with | (c5,s7)=>(c5<=w.length/\∀ j,j<c5->dK (w.getD j l5)=true)/\(w.length-c5<w.length-i)/\E (bS w)/\Q (.om (wE (w.take (i+1))) g) (.om (wE (w.take c5)) s7)/\E (bS w)/\E (iN w.length)/\Q (iN (i+1)) (iN c5)/\True)) (True/\∀ _:Unit,Q (.tup [.c9,bV (o6 (((wE (w.take i)).length:Nat):Int) (((w.map r5).length:Nat):Int))]) v1)))) (.tup [.c9,bV false])) ?_
 refine bI (fun j9=>?_) fun j9=>?_
 unfold Q
 rfl
 refine⟨trivial,?_⟩
 intro g10
 refine⟨⟨(0,g10),?_,rfl,Z4,rfl,Z4,rfl,trivial⟩,?_⟩
 simp
 rintro⟨i,g⟩ ⟨h1,h2⟩
 have hzi:=hz i
 refine bI (fun l6=>?_) fun l6=>?_
 refine⟨⟨Z9,an (d:=l5) Z9⟩,trivial,?_⟩
 intro g6
 refine⟨rfl,rfl,rfl,hz i,?_⟩
 refine bI (fun n0=>?_) fun n0=>?_
 unfold Q
 rfl
 refine⟨rfl,rfl,⟨⟨rfl,rfl⟩,rfl,rfl⟩,?_⟩
 intro _
 refine⟨congrArg (V.om · g) ((pd Z9).symm),Z9,?_⟩
 refine⟨(i+1,g),?_,?_,rfl,rfl,rfl,rfl,rfl,trivial⟩
 exact⟨Z9,bP h2 (by simpa using n0)⟩
 exact Z1
 refine⟨trivial,?_⟩
 intro _
 unfold Q
 have q1:=Dq w w.length (Nat.le_refl _)
 have q2:=EP hk Z9 (fun j hj=>h2 j Z9)
 rw[show i=w.length from Z9]
 have q3:(wE (w.take w.length)).length≠w.length:=fun c=>q2 (q1.2.1 c)
 rw[show o6 ((wE (w.take w.length)).length:Int) ((w.map r5).length:Int)=false from by unfold o6;exact beq_eq_false_iff_ne.2 (by rw[List.length_map];omega)])
def rT(w:List Pg)(a:BL)(n:Int):o8 Tryz.prog:=.mk 35 [.mp (w.map E7),sV a,iV n] [] ((0<=n)/\(n<=1000)) (.tup [iV ((ab w a n).1),sV ((ab w a n).2)]) [] (by
 rintro⟨hn,SZ⟩
 refine az (N:=36) (rs:=[.tmp 6,.tmp 7]) Tryz.func35
  (.q 2<|.q 2<|.cu (lkC (w.map E7) a (cn ((B3 w a).1.addr) ((B3 w a).1.text) ((B3 w a).1.lead) ((B3 w a).1.m0)) ((B3 w a).2)) (fun _=>.q 3<|.al mN (fun g8=>.st none<|.q 1<|.q 7<|.br (.q 2<|.nil) (.r 5 [.c9]<|.br (.q 2<|.nil) (.r 4 [.c9]<|.br (.dx 3 [0,1,2] [(1,⟨false,[],some [8],[33],[]⟩)] []<|.q 1<|.r 1 [.c9]<|.q 1<|.q 1<|.nil) (.dx 3 [0,1,2] [(1,⟨false,[],some [8],[35],[]⟩)] []<|.q 1<|.r 1 [.c9]<|.q 1<|.q 1<|.nil))))))
  (((w.map E7=w.map E7)/\((sV a:V)=sV a)/\((((B3 w a).2)=true/\∃ y,cv (w.map E7) a=some y/\(cn ((B3 w a).1.addr) ((B3 w a).1.text) ((B3 w a).1.lead) ((B3 w a).1.m0):V).val? =some y)\/(((B3 w a).2)=false/\cv (w.map E7) a=none/\∃ y,(cn ((B3 w a).1.addr) ((B3 w a).1.text) ((B3 w a).1.lead) ((B3 w a).1.m0):V).val? =some y/\∀ w,(zeroValue 99).run Tryz.prog w=.ok y w)))/\∀ _:Unit,(fun v1:V=> ∀ g8:Nat,Z g8 0/\Pk (!((B3 w a).2)) true ((!((B3 w a).2))==false)/\Br ((!((B3 w a).2))||(s8 n 0)) (Q (.tup [iN 0,sV []]) v1) (Z g8 3/\Br (s8 n ((B3 w a).1.m0)) (Q (.tup [iN 3,sV []]) v1) (Z g8 2/\Br (!(((B3 w a).1.lead)==[])) (Z g8 2/\Q (.tup [iN 2,sV ((B3 w a).1.lead)]) v1) (Z g8 1/\Q (.tup [iN 1,sV ((B3 w a).1.text)]) v1)))) (.tup [iV ((ab w a n).1),sV ((ab w a n).2)])) ?_
 refine⟨⟨rfl,rfl,KK w a⟩,?_⟩
 intro _
 intro g8
 refine⟨rfl,⟨fun _=>rfl,fun h=>by rw[h] <;> rfl⟩,?_⟩
 refine bI (fun j9=>?_) fun j9=>?_
 unfold Q
 have hx:(B3 w a).2=false:=by grind
 unfold ab
 rw[if_pos hx]
 rfl
 refine⟨rfl,?_⟩
 refine bI (fun l6=>?_) fun l6=>?_
 unfold Q
 have hx:(B3 w a).2=true:=by grind
 unfold ab
 rw[if_neg (by rw[hx];decide),if_pos Z9]
 rfl
 refine⟨rfl,?_⟩
 refine bI (fun n0=>?_) fun n0=>?_
 refine⟨rfl,?_⟩
 unfold Q
 have hx:(B3 w a).2=true:=by grind
 unfold ab
 rw[if_neg (by rw[hx];decide),if_neg Z9,if_neg (by grind)]
 rfl
 refine⟨rfl,?_⟩
 unfold Q
 have hx:(B3 w a).2=true:=by grind
 unfold ab
 rw[if_neg (by rw[hx];decide),if_neg Z9,if_pos (by grind)]
 rfl)
def sv(w:List Pg)(a:BL):o8 Tryz.prog:=.mk 87 [.mp (w.map E7),sV a] [] True (.tup [iV ((ab w a 2).1),sV ((ab w a 2).2)]) [] (by
 intro _
 refine az (N:=11) (rs:=[.tmp 4,.tmp 5]) Tryz.func87
  (.q 2<|.q 2<|.c (rT w a (2:Int)) []<|.q 4<|.nil)
  ((rT w a (2:Int)).sm/\((0<=(2:Int))/\((2:Int)<=1000))/\Q (.tup [iV ((ab w a (2:Int)).1),sV ((ab w a (2:Int)).2)]) (.tup [iV ((ab w a 2).1),sV ((ab w a 2).2)])) ?_
 refine⟨rfl,⟨Z5,Z5⟩,?_⟩
 unfold Q
 rfl)
end Go.Proofs.YtbjbamjffkanbaaGreatDoor
