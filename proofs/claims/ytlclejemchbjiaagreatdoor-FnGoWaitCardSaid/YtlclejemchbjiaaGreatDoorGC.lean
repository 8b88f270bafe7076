/-
  Words and walks for the laws of pedlar's seat: what each function of the program computes, and that it does; no conditions beyond those that each statement names.
-/
import Derived.Test.YtlclejemchbjiaaGreatDoorGA
import Derived.Test.YtlclejemchbjiaaGreatDoorGB
set_option linter.unusedVariables false
set_option linter.unusedSimpArgs false
set_option linter.unnecessarySimpa false
set_option linter.unusedSectionVars false
namespace Go.Proofs.YtlclejemchbjiaaGreatDoor
open Go Go.Abs Go.RowKit Go.Pd
set_option maxRecDepth 20000
theorem mixed:Tryz.prog.follows .mixedOrders=true:=by kernel_rfl
abbrev mU(s:BL)(c:UInt8):V:=.tup [sV ((ag c s).1),sV ((ag c s).2.1),bV ((ag c s).2.2)]
abbrev jI(s:BL)(c:UInt8)(i:Nat):Prop:=i<=s.length/\ag c s=(s.take i++(ag c (s.drop i)).1,(ag c (s.drop i)).2.1,(ag c (s.drop i)).2.2)
def ly(s:BL)(c:UInt8):r5 Tryz.prog:=.mk 108 [sV s,uN c.toNat] [] (s.length<=4611686018427387904) (mU s c) [] (by
 intro hs
 refine aw (N:=27) (rs:=[.tmp 4,.tmp 5,.tmp 6]) Tryz.func108
  (.q 3<|.q 1<|.loop (Nat) (fun (i:Nat)=>⟨[(0,sV s),(1,uN c.toNat),(7,iN i)],[]⟩) (fun (i:Nat)=>jI s c i) (fun (i:Nat)=>s.length-i) (fun (i:Nat)=>.q 4<|.br (.q 5<|.br (.dx 8 [0,1,2,3,4,5,6,7] [] []<|.q 1<|.q 1<|.q 1<|.q 1<|.q 1<|.q 1<|.q 1<|.q 1<|.q 2<|.nil) (.q 3<|.nil)) (.q 4<|.nil)))
  ((∃ j8:Nat,(jI s c j8)/\E (sV s)/\E (uN c.toNat)/\Q (iN 0) (iN j8)/\True)/\∀ i:Nat,(jI s c i)->Br (s7 (i:Int) (s.length:Int)) (Ix (i:Int) s/\Br (r4 (((s.getD i 0).toNat:Nat):Int) (c.toNat:Int)) (Sx (0:Int) (i:Int) s/\m8 ((i:Int)+1)/\Sx ((i+1:Nat):Int) (s.length:Int) s/\Q (.tup [sV ((s.take i).drop ((0:Int).toNat)),sV ((s.take s.length).drop (i+1)),bV true]) (mU s c)) (m8 ((i:Int)+1)/\∃ c9:Nat,(jI s c c9)/\(s.length-c9<s.length-i)/\E (sV s)/\E (uN c.toNat)/\Q (iN (i+1)) (iN c9)/\True)) (Q (.tup [sV s,sV [],bV false]) (mU s c))) ?_
 refine⟨⟨0,?_,rfl,rfl,rfl,trivial⟩,?_⟩
 unfold jI
 simp_all
 rintro i ⟨hi,KQ⟩
 refine⟨fun j7=>?_,fun j7=>?_⟩
 try simp only[nb]at j7
 refine⟨by omega,?_⟩
 refine⟨fun j9=>?_,fun j9=>?_⟩
 try simp only[nb]at j9
 refine⟨by omega,by omega,by omega,?_⟩
 unfold Q mU
 have he:s.getD i 0=c:=UInt8.toNat_inj.1 (by exact_mod_cast j9)
 rw[KQ,drop_cons (by omega:i<s.length) 0,ag,if_pos he]
 simp
 try simp only[nb]at j9
 refine⟨by omega,?_⟩
 refine⟨i+1,?_,?_,rfl,rfl,rfl,trivial⟩
 unfold jI
 refine⟨by omega,?_⟩
 have hne: ¬ s.getD i 0=c:=fun h=>j9 (by rw[h])
 rw[KQ,drop_cons (by omega:i<s.length) 0]
 simp only[ag,if_neg hne,aW (by omega:i<s.length) 0,List.append_assoc,List.cons_append,List.nil_append]
 first | (solve | simp) | omega | (simp;omega)
 try simp only[nb]at j7
 unfold Q mU
 have hl:s.length<=i:=by omega
 rw[KQ,List.drop_eq_nil_of_le hl,ag,List.take_of_length_le hl]
 simp)
def kE(n:Int)(lo:Int)(up:Int):r5 Tryz.prog:=.mk 47 [iV n,iV lo,iV up] [] True (bV (C3 n lo up)) [] (by
 intro _
 refine aw (N:=15) (rs:=[.tmp 6]) Tryz.func47
  (.q 1<|.q 9<|.nil)
  (Pk (y0 n lo) ((y0 n lo)==true) true/\Q (bV ((y0 n lo)&&(B5 n up))) (bV (C3 n lo up))) ?_
 refine⟨⟨fun h=>by rw[h] <;> rfl,fun _=>rfl⟩,?_⟩
 unfold Q
 refine congrArg bV ?_
 rw[Bool.eq_iff_iff]
 simp[C3])
def jd(b:UInt8):r5 Tryz.prog:=.mk 153 [uN b.toNat] [] True (bV (dw b)) [] (by
 intro _
 refine aw (N:=25) (rs:=[.tmp 2]) Tryz.func153
  (.q 1<|.q 23<|.nil)
  ((fun v1:Int=>(fun v2:Bool=>(Pk (y0 v1 97) ((y0 v1 97)==true) true/\Gd v2 (Pk (y0 v1 48) (v2&&((y0 v1 48)==true)) true)/\Pk ((y0 v1 97)&&(B5 v1 122)) true v2/\Pk (((y0 v1 97)&&(B5 v1 122))||((y0 v1 48)&&(B5 v1 57))) true ((((y0 v1 97)&&(B5 v1 122))||((y0 v1 48)&&(B5 v1 57)))==false)/\Pk ((((y0 v1 97)&&(B5 v1 122))||((y0 v1 48)&&(B5 v1 57)))||(r4 v1 46)) true (((((y0 v1 97)&&(B5 v1 122))||((y0 v1 48)&&(B5 v1 57)))||(r4 v1 46))==false)/\Q (bV (((((y0 v1 97)&&(B5 v1 122))||((y0 v1 48)&&(B5 v1 57)))||(r4 v1 46))||(r4 v1 45))) (bV (dw b)))) (((y0 v1 97)&&(B5 v1 122))==false)) (b.toNat:Int)) ?_
 refine⟨⟨fun h=>by rw[h] <;> rfl,fun _=>rfl⟩,fun hG=>⟨fun h=>by rw[h];exact(Bool.and_eq_true _ _).mpr ⟨hG,rfl⟩,fun _=>rfl⟩,⟨fun _=>rfl,fun h=>by rw[h] <;> rfl⟩,⟨fun _=>rfl,fun h=>by rw[h] <;> rfl⟩,⟨fun _=>rfl,fun h=>by rw[h] <;> rfl⟩,?_⟩
 unfold Q
 refine congrArg bV ?_
 rw[Bool.eq_iff_iff]
 simp[dw]
 try omega)
def jZ(b:UInt8):r5 Tryz.prog:=.mk 120 [uN b.toNat] [] True (bV (dw b)) [] (by
 intro _
 refine aw (N:=25) (rs:=[.tmp 2]) Tryz.func120
  (.q 1<|.q 23<|.nil)
  ((fun v1:Int=>(fun v2:Bool=>(Pk (y0 v1 97) ((y0 v1 97)==true) true/\Gd v2 (Pk (y0 v1 48) (v2&&((y0 v1 48)==true)) true)/\Pk ((y0 v1 97)&&(B5 v1 122)) true v2/\Pk (((y0 v1 97)&&(B5 v1 122))||((y0 v1 48)&&(B5 v1 57))) true ((((y0 v1 97)&&(B5 v1 122))||((y0 v1 48)&&(B5 v1 57)))==false)/\Pk ((((y0 v1 97)&&(B5 v1 122))||((y0 v1 48)&&(B5 v1 57)))||(r4 v1 46)) true (((((y0 v1 97)&&(B5 v1 122))||((y0 v1 48)&&(B5 v1 57)))||(r4 v1 46))==false)/\Q (bV (((((y0 v1 97)&&(B5 v1 122))||((y0 v1 48)&&(B5 v1 57)))||(r4 v1 46))||(r4 v1 45))) (bV (dw b)))) (((y0 v1 97)&&(B5 v1 122))==false)) (b.toNat:Int)) ?_
 refine⟨⟨fun h=>by rw[h] <;> rfl,fun _=>rfl⟩,fun hG=>⟨fun h=>by rw[h];exact(Bool.and_eq_true _ _).mpr ⟨hG,rfl⟩,fun _=>rfl⟩,⟨fun _=>rfl,fun h=>by rw[h] <;> rfl⟩,⟨fun _=>rfl,fun h=>by rw[h] <;> rfl⟩,⟨fun _=>rfl,fun h=>by rw[h] <;> rfl⟩,?_⟩
 unfold Q
 refine congrArg bV ?_
 rw[Bool.eq_iff_iff]
 simp[dw]
 try omega)
def ji(b:UInt8):r5 Tryz.prog:=.mk 178 [uN b.toNat] [] True (iV (bR b)) [] (by
 intro _
 refine aw (N:=35) (rs:=[.tmp 2]) Tryz.func178
  (.q 1<|.q 7<|.br (.q 4<|.nil) (.q 7<|.br (.q 5<|.nil) (.q 7<|.br (.q 5<|.nil) (.q 1<|.nil))))
  ((fun v1:Int=>(Pk (y0 v1 48) ((y0 v1 48)==true) true/\Br ((y0 v1 48)&&(B5 v1 57)) (MP (v1-48)/\m8 (v1-48)/\Q (iV (v1-48)) (iV (bR b))) (Pk (y0 v1 97) ((y0 v1 97)==true) true/\Br ((y0 v1 97)&&(B5 v1 102)) (MP (v1-97)/\m8 (v1-97)/\m8 ((v1-97)+10)/\Q (iV ((v1-97)+10)) (iV (bR b))) (Pk (y0 v1 65) ((y0 v1 65)==true) true/\Br ((y0 v1 65)&&(B5 v1 70)) (MP (v1-65)/\m8 (v1-65)/\m8 ((v1-65)+10)/\Q (iV ((v1-65)+10)) (iV (bR b))) (Q (iV (-1)) (iV (bR b))))))) (b.toNat:Int)) ?_
 refine⟨⟨fun h=>by rw[h] <;> rfl,fun _=>rfl⟩,?_⟩
 refine⟨fun j7=>?_,fun j7=>?_⟩
 · try simp only[nb]at j7
   refine⟨by have:=UInt8.toNat_lt b;omega,by have:=UInt8.toNat_lt b;omega,?_⟩
   unfold Q
   have:=b.toNat_lt
   refine congrArg iV ?_
   unfold bR
   repeat (split <;> try omega)
 · try simp only[nb]at j7
   refine⟨⟨fun h=>by rw[h] <;> rfl,fun _=>rfl⟩,?_⟩
   refine⟨fun j9=>?_,fun j9=>?_⟩
   · try simp only[nb]at j9
     refine⟨by have:=UInt8.toNat_lt b;omega,by have:=UInt8.toNat_lt b;omega,by have:=UInt8.toNat_lt b;omega,?_⟩
     unfold Q
     have:=b.toNat_lt
     refine congrArg iV ?_
     unfold bR
     repeat (split <;> try omega)
   · try simp only[nb]at j9
     refine⟨⟨fun h=>by rw[h] <;> rfl,fun _=>rfl⟩,?_⟩
     refine⟨fun l8=>?_,fun l8=>?_⟩
     · try simp only[nb]at l8
       refine⟨by have:=UInt8.toNat_lt b;omega,by have:=UInt8.toNat_lt b;omega,by have:=UInt8.toNat_lt b;omega,?_⟩
       unfold Q
       have:=b.toNat_lt
       refine congrArg iV ?_
       unfold bR
       repeat (split <;> try omega)
     · try simp only[nb]at l8
       unfold Q
       have:=b.toNat_lt
       refine congrArg iV ?_
       unfold bR
       repeat (split <;> try omega))
def uK(s:BL):r5 Tryz.prog:=.mk 140 [sV s] [] (s.length<=4611686018427387904) (bV (cn s)) [] (by
 intro hs
 refine aw (N:=23) (rs:=[.tmp 2]) Tryz.func140
  (.q 1<|.q 1<|.loop (Nat) (fun (i:Nat)=>⟨[(0,sV s),(3,iN i)],[]⟩) (fun (i:Nat)=>i<=s.length/\∀ j,j<i->fG (s.getD j 0)=true) (fun (i:Nat)=>s.length-i) (fun (i:Nat)=>.q 4<|.br (.q 10<|.br (.q 1<|.nil) (.q 3<|.nil)) (.q 2<|.c (kE (s.length:Int) (1:Int) (5:Int)) []<|.q 1<|.nil)))
  ((∃ j8:Nat,(j8<=s.length/\∀ j,j<j8->fG (s.getD j 0)=true)/\E (sV s)/\Q (iN 0) (iN j8)/\True)/\∀ i:Nat,(i<=s.length/\∀ j,j<i->fG (s.getD j 0)=true)->(fun v1:Int=>Br (s7 (i:Int) (s.length:Int)) (Ix (i:Int) s/\Gd ((s7 v1 97)==false) (Ix (i:Int) s)/\Pk (s7 v1 97) true ((s7 v1 97)==false)/\Br ((s7 v1 97)||(s9 v1 122)) (Q (bV false) (bV (cn s))) (m8 ((i:Int)+1)/\∃ c9:Nat,(c9<=s.length/\∀ j,j<c9->fG (s.getD j 0)=true)/\(s.length-c9<s.length-i)/\E (sV s)/\Q (iN (i+1)) (iN c9)/\True)) ((kE (s.length:Int) (1:Int) (5:Int)).sm/\(True)/\Q (bV (C3 (s.length:Int) (1:Int) (5:Int))) (bV (cn s)))) (((s.getD i 0).toNat:Nat):Int)) ?_
 refine⟨⟨0,?_,rfl,rfl,trivial⟩,?_⟩
 simp_all
 rintro i ⟨hi,Mz⟩
 refine⟨fun j7=>?_,fun j7=>?_⟩
 try simp only[nb]at j7
 refine⟨by omega,fun hG=>by(try simp only[nb]at hG);omega,⟨fun _=>rfl,fun h=>by rw[h] <;> rfl⟩,?_⟩
 refine⟨fun j9=>?_,fun j9=>?_⟩
 try simp only[nb]at j9
 unfold Q
 rw[show cn s=false from by unfold cn eZ;rw[all_false (i:=i) (d:=0) (by omega) (by simp only[fG,decide_eq_false_iff_not];omega)];rfl]
 try simp only[nb]at j9
 refine⟨by omega,?_⟩
 refine⟨i+1,?_,?_,rfl,rfl,trivial⟩
 refine⟨by omega,bF Mz ?_⟩
 simp only[fG,decide_eq_true_eq];omega
 first | (solve | simp) | omega | (simp;omega)
 try simp only[nb]at j7
 refine⟨rfl,trivial,?_⟩
 unfold Q
 unfold cn
 rw[show eZ s=true from all_true (d:=0) fun j hj=>Mz j (by omega)]
 rw[Bool.true_and])
def oJ(s:BL):r5 Tryz.prog:=.mk 44 [sV s] [] (s.length<=4611686018427387904) (bV (bq s)) [] (by
 intro hs
 refine aw (N:=23) (rs:=[.tmp 2]) Tryz.func44
  (.q 1<|.q 1<|.loop (Nat) (fun (i:Nat)=>⟨[(0,sV s),(3,iN i)],[]⟩) (fun (i:Nat)=>i<=s.length/\∀ j,j<i->fG (s.getD j 0)=true) (fun (i:Nat)=>s.length-i) (fun (i:Nat)=>.q 4<|.br (.q 10<|.br (.q 1<|.nil) (.q 3<|.nil)) (.q 2<|.c (kE (s.length:Int) (1:Int) (8:Int)) []<|.q 1<|.nil)))
  ((∃ j8:Nat,(j8<=s.length/\∀ j,j<j8->fG (s.getD j 0)=true)/\E (sV s)/\Q (iN 0) (iN j8)/\True)/\∀ i:Nat,(i<=s.length/\∀ j,j<i->fG (s.getD j 0)=true)->(fun v1:Int=>Br (s7 (i:Int) (s.length:Int)) (Ix (i:Int) s/\Gd ((s7 v1 97)==false) (Ix (i:Int) s)/\Pk (s7 v1 97) true ((s7 v1 97)==false)/\Br ((s7 v1 97)||(s9 v1 122)) (Q (bV false) (bV (bq s))) (m8 ((i:Int)+1)/\∃ c9:Nat,(c9<=s.length/\∀ j,j<c9->fG (s.getD j 0)=true)/\(s.length-c9<s.length-i)/\E (sV s)/\Q (iN (i+1)) (iN c9)/\True)) ((kE (s.length:Int) (1:Int) (8:Int)).sm/\(True)/\Q (bV (C3 (s.length:Int) (1:Int) (8:Int))) (bV (bq s)))) (((s.getD i 0).toNat:Nat):Int)) ?_
 refine⟨⟨0,?_,rfl,rfl,trivial⟩,?_⟩
 simp_all
 rintro i ⟨hi,Mz⟩
 refine⟨fun j7=>?_,fun j7=>?_⟩
 try simp only[nb]at j7
 refine⟨by omega,fun hG=>by(try simp only[nb]at hG);omega,⟨fun _=>rfl,fun h=>by rw[h] <;> rfl⟩,?_⟩
 refine⟨fun j9=>?_,fun j9=>?_⟩
 try simp only[nb]at j9
 unfold Q
 rw[show bq s=false from by unfold bq eZ;rw[all_false (i:=i) (d:=0) (by omega) (by simp only[fG,decide_eq_false_iff_not];omega)];rfl]
 try simp only[nb]at j9
 refine⟨by omega,?_⟩
 refine⟨i+1,?_,?_,rfl,rfl,trivial⟩
 refine⟨by omega,bF Mz ?_⟩
 simp only[fG,decide_eq_true_eq];omega
 first | (solve | simp) | omega | (simp;omega)
 try simp only[nb]at j7
 refine⟨rfl,trivial,?_⟩
 unfold Q
 unfold bq
 rw[show eZ s=true from all_true (d:=0) fun j hj=>Mz j (by omega)]
 rw[Bool.true_and])
def kT(s:BL):r5 Tryz.prog:=.mk 69 [sV s] [] (s.length<=4611686018427387904) (bV (eZ s)) [] (by
 intro hs
 refine aw (N:=20) (rs:=[.tmp 2]) Tryz.func69
  (.q 1<|.q 1<|.loop (Nat) (fun (i:Nat)=>⟨[(0,sV s),(3,iN i)],[]⟩) (fun (i:Nat)=>i<=s.length/\∀ j,j<i->fG (s.getD j 0)=true) (fun (i:Nat)=>s.length-i) (fun (i:Nat)=>.q 4<|.br (.q 10<|.br (.q 1<|.nil) (.q 3<|.nil)) (.q 1<|.nil)))
  ((∃ j8:Nat,(j8<=s.length/\∀ j,j<j8->fG (s.getD j 0)=true)/\E (sV s)/\Q (iN 0) (iN j8)/\True)/\∀ i:Nat,(i<=s.length/\∀ j,j<i->fG (s.getD j 0)=true)->(fun v1:Int=>Br (s7 (i:Int) (s.length:Int)) (Ix (i:Int) s/\Gd ((s7 v1 97)==false) (Ix (i:Int) s)/\Pk (s7 v1 97) true ((s7 v1 97)==false)/\Br ((s7 v1 97)||(s9 v1 122)) (Q (bV false) (bV (eZ s))) (m8 ((i:Int)+1)/\∃ c9:Nat,(c9<=s.length/\∀ j,j<c9->fG (s.getD j 0)=true)/\(s.length-c9<s.length-i)/\E (sV s)/\Q (iN (i+1)) (iN c9)/\True)) (Q (bV true) (bV (eZ s)))) (((s.getD i 0).toNat:Nat):Int)) ?_
 refine⟨⟨0,?_,rfl,rfl,trivial⟩,?_⟩
 simp_all
 rintro i ⟨hi,Mz⟩
 refine⟨fun j7=>?_,fun j7=>?_⟩
 try simp only[nb]at j7
 refine⟨by omega,fun hG=>by(try simp only[nb]at hG);omega,⟨fun _=>rfl,fun h=>by rw[h] <;> rfl⟩,?_⟩
 refine⟨fun j9=>?_,fun j9=>?_⟩
 try simp only[nb]at j9
 unfold Q
 rw[show eZ s=false from by unfold eZ;rw[all_false (i:=i) (d:=0) (by omega) (by simp only[fG,decide_eq_false_iff_not];omega)]]
 try simp only[nb]at j9
 refine⟨by omega,?_⟩
 refine⟨i+1,?_,?_,rfl,rfl,trivial⟩
 refine⟨by omega,bF Mz ?_⟩
 simp only[fG,decide_eq_true_eq];omega
 first | (solve | simp) | omega | (simp;omega)
 try simp only[nb]at j7
 unfold Q
 rw[show eZ s=true from all_true (d:=0) fun j hj=>Mz j (by omega)])
def mq(s:BL):r5 Tryz.prog:=.mk 53 [sV s] [] (s.length<=4611686018427387904) (bV (cn s)) [] (by
 intro hs
 refine aw (N:=15) (rs:=[.tmp 2]) Tryz.func53
  (.q 1<|.q 10<|.cg (kT s)<|.q 2<|.nil)
  ((fun v1:Int=>(Pk (y0 v1 1) ((y0 v1 1)==true) true/\Gd (((y0 v1 1)&&(B5 v1 5))==true) (((s.length<=4611686018427387904))/\(kT s).sm)/\Pk ((y0 v1 1)&&(B5 v1 5)) (((y0 v1 1)&&(B5 v1 5))==true) true/\Q (bV (((y0 v1 1)&&(B5 v1 5))&&(eZ s))) (bV (cn s)))) (s.length:Int)) ?_
 refine⟨⟨fun h=>by rw[h] <;> rfl,fun _=>rfl⟩,fun hG=>⟨by(try simp only[nb]at hG);first | assumption | omega | (simp;omega),rfl⟩,⟨fun h=>by rw[h] <;> rfl,fun _=>rfl⟩,?_⟩
 unfold Q
 refine congrArg bV ?_
 rw[Bool.eq_iff_iff]
 simp[cn,C3,and_comm,and_assoc]
 try omega)
def jS(s:BL):r5 Tryz.prog:=.mk 39 [sV s] [] (s.length<=4611686018427387904) (bV (bq s)) [] (by
 intro hs
 refine aw (N:=15) (rs:=[.tmp 2]) Tryz.func39
  (.q 1<|.q 10<|.cg (kT s)<|.q 2<|.nil)
  ((fun v1:Int=>(Pk (y0 v1 1) ((y0 v1 1)==true) true/\Gd (((y0 v1 1)&&(B5 v1 8))==true) (((s.length<=4611686018427387904))/\(kT s).sm)/\Pk ((y0 v1 1)&&(B5 v1 8)) (((y0 v1 1)&&(B5 v1 8))==true) true/\Q (bV (((y0 v1 1)&&(B5 v1 8))&&(eZ s))) (bV (bq s)))) (s.length:Int)) ?_
 refine⟨⟨fun h=>by rw[h] <;> rfl,fun _=>rfl⟩,fun hG=>⟨by(try simp only[nb]at hG);first | assumption | omega | (simp;omega),rfl⟩,⟨fun h=>by rw[h] <;> rfl,fun _=>rfl⟩,?_⟩
 unfold Q
 refine congrArg bV ?_
 rw[Bool.eq_iff_iff]
 simp[bq,C3,and_comm,and_assoc]
 try omega)
abbrev ax(p0:List BL):V:=.sl false (p0.map sV)
def nL(b:UInt8):r5 Tryz.prog:=.mk 179 [iN b.toNat] [] True (sV (ez b)) [] (by
 intro _
 have hb:=b.toNat_lt
 refine aw (N:=20) (rs:=[.tmp 2]) Tryz.func179
  (.q 1<|.q 1<|.dx 16 [0,1,2,3,4,5,6,7,8,9,10,11,12,13,14,15] [] []<|.q 1<|.q 1<|.q 1<|.q 1<|.q 1<|.q 1<|.q 1<|.q 1<|.q 1<|.q 1<|.q 1<|.q 1<|.q 1<|.q 1<|.q 1<|.q 1<|.q 1<|.nil)
  ((fun v1:BL=>(fun v2:Int=>(((0:Int)<=v2/\(0:Int)<16/\m8 v2)/\((0:Int)<=v2/\(0:Int)<16/\m8 v2)/\m8 (((b.toNat / 16:Nat):Int)+1)/\Sx ((b.toNat / 16:Nat):Int) (((b.toNat / 16)+1:Nat):Int) v1/\(([37]:BL).length+((v1.take ((b.toNat / 16)+1)).drop (b.toNat / 16)).length<=4611686018427387904)/\((0:Int)<=v2/\(0:Int)<16)/\((0:Int)<=v2/\(0:Int)<16)/\m8 (((b.toNat % 16:Nat):Int)+1)/\Sx ((b.toNat % 16:Nat):Int) (((b.toNat % 16)+1:Nat):Int) v1/\((([37]:BL)++((v1.take ((b.toNat / 16)+1)).drop (b.toNat / 16))).length+((v1.take ((b.toNat % 16)+1)).drop (b.toNat % 16)).length<=4611686018427387904)/\Q (sV ((([37]:BL)++((v1.take ((b.toNat / 16)+1)).drop (b.toNat / 16)))++((v1.take ((b.toNat % 16)+1)).drop (b.toNat % 16)))) (sV (ez b)))) (b.toNat:Int)) ([48,49,50,51,52,53,54,55,56,57,65,66,67,68,69,70]:BL)) ?_
 refine⟨by have:=UInt8.toNat_lt b;omega,by have:=UInt8.toNat_lt b;omega,by have:=UInt8.toNat_lt b;omega,by have:=UInt8.toNat_lt b;unfold Sx;simp;omega,by have:=UInt8.toNat_lt b;simp;omega,by have:=UInt8.toNat_lt b;omega,by have:=UInt8.toNat_lt b;omega,by have:=UInt8.toNat_lt b;omega,by have:=UInt8.toNat_lt b;unfold Sx;simp;omega,by have:=UInt8.toNat_lt b;simp;omega,?_⟩
 unfold Q
 refine congrArg sV ?_
 show [37]++(jG.take (b.toNat / 16+1)).drop (b.toNat / 16)++(jG.take (b.toNat % 16+1)).drop (b.toNat % 16)=_
 rw[pc (by simp[jG];omega) 0,pc (by simp[jG];omega) 0];rfl)
def je(s:BL):r5 Tryz.prog:=.mk 162 [sV s] [] (s.length<=4611686018427387904) (.tup [sV ((bD s).1),bV ((bD s).2)]) [] (by
 intro hs
 refine aw (N:=73) (rs:=[.tmp 2,.tmp 3]) Tryz.func162
  (.q 2<|.q 3<|.br (.q 2<|.nil) (.q 1<|.q 1<|.loop (Nat×BL) (fun (i,o)=>⟨[(0,sV s),(4,sV o),(5,iN i)],[]⟩) (fun (i,o)=>i<=s.length/\o.length<=3*i/\bp s=(bp (s.drop i)).map (o++ ·)) (fun (i,o)=>s.length-i) (fun (i,o)=>.q 4<|.br (.q 5<|.q 4<|.br (.q 10<|.cg (ji (s.getD (i+1) 0))<|.q 7<|.cg (ji (s.getD (i+2) 0))<|.q 2<|.br (.q 2<|.nil) (.dx 12 [0,1,2,3,4,5,6,7,8,9,10,11] [] []<|.q 1<|.q 1<|.q 1<|.q 1<|.c (ji (s.getD (i+1) 0)) []<|.q 1<|.q 1<|.q 1<|.q 1<|.q 1<|.c (ji (s.getD (i+2) 0)) []<|.q 1<|.q 1<|.h (.o9 56 (iN ((cH (s.getD (i+1) 0) (s.getD (i+2) 0)).toNat)))<|.h (.o9 6 (iN ((cH (s.getD (i+1) 0) (s.getD (i+2) 0)).toNat)))<|.q 3<|.q 2<|.c (jd (cH (s.getD (i+1) 0) (s.getD (i+2) 0))) []<|.br (.q 3<|.bs<|.Kg [(cH (s.getD (i+1) 0) (s.getD (i+2) 0))]<|.q 2<|.q 3<|.nil) (.q 2<|.c (nL (cH (s.getD (i+1) 0) (s.getD (i+2) 0))) []<|.q 2<|.q 3<|.nil))) (.q 2<|.c (jd (s.getD i 0)) []<|.br (.q 3<|.bs<|.Kg [(s.getD i 0)]<|.q 2<|.q 3<|.nil) (.q 2<|.c (nL (s.getD i 0)) []<|.q 2<|.q 3<|.nil))) (.q 3<|.nil))))
  ((fun v1:Int=>(fun v2:V=>(Br (s9 v1 60) (Q (.tup [sV [],bV false]) v2) ((∃ x:Nat×BL,match x with | (j8,u7)=>(j8<=s.length/\u7.length<=3*j8/\bp s=(bp (s.drop j8)).map (u7++ ·))/\E (sV s)/\Q (sV []) (sV u7)/\Q (iN 0) (iN j8)/\True)/\∀ x:Nat×BL,match x with | (i,o)=>(i<=s.length/\o.length<=3*i/\bp s=(bp (s.drop i)).map (o++ ·))->(fun v9:Int=>(fun v3:Bool=>(fun v4:Bool=>(fun v5:Int=>(fun v6:V=>(fun v7:Int=>(fun v8:Bool=>Br (s7 (i:Int) v1) (Ix (i:Int) s/\m8 v5/\Ix (i:Int) s/\Br (r4 v5 37) (m8 ((i:Int)+2)/\Gd (v3==false) (m8 ((i:Int)+1))/\Gd (v3==false) (Ix ((i+1:Nat):Int) s)/\Gd (v3==false) ((True)/\(ji (s.getD (i+1) 0)).sm)/\Pk v3 true (v3==false)/\Gd v8 (m8 ((i:Int)+2))/\Gd v8 (Ix v9 s)/\Gd v8 ((True)/\(ji (s.getD (i+2) 0)).sm)/\Pk (v3||v4) true v8/\Br ((v3||v4)||(s7 (bR (s.getD (i+2) 0)) 0)) (Q (.tup [sV [],bV false]) v2) (m8 ((i:Int)+1)/\Ix ((i+1:Nat):Int) s/\(ji (s.getD (i+1) 0)).sm/\(True)/\m8 ((bR (s.getD (i+1) 0))*16)/\m8 ((i:Int)+2)/\Ix v9 s/\(ji (s.getD (i+2) 0)).sm/\(True)/\m8 (((bR (s.getD (i+1) 0))*16)+(bR (s.getD (i+2) 0)))/\(v6=iN ((cH (s.getD (i+1) 0) (s.getD (i+2) 0)).toNat))/\(v6=iN ((cH (s.getD (i+1) 0) (s.getD (i+2) 0)).toNat))/\m8 ((i:Int)+2)/\MP v7/\(jd (cH (s.getD (i+1) 0) (s.getD (i+2) 0))).sm/\(True)/\Br (dw (cH (s.getD (i+1) 0) (s.getD (i+2) 0))) (MP v7/\(True)/\([uN ((cH (s.getD (i+1) 0) (s.getD (i+2) 0)).toNat)]=[(cH (s.getD (i+1) 0) (s.getD (i+2) 0))].map n7)/\(o.length+([(cH (s.getD (i+1) 0) (s.getD (i+2) 0))]:BL).length<=4611686018427387904)/\m8 (v9+1)/\∃ x:Nat×BL,match x with | (c9,m0)=>(c9<=s.length/\m0.length<=3*c9/\bp s=(bp (s.drop c9)).map (m0++ ·))/\(s.length-c9<s.length-i)/\E (sV s)/\Q (sV (o++[(cH (s.getD (i+1) 0) (s.getD (i+2) 0))])) (sV m0)/\Q (iN ((i+2)+1)) (iN c9)/\True) ((nL (cH (s.getD (i+1) 0) (s.getD (i+2) 0))).sm/\(True)/\(o.length+(ez (cH (s.getD (i+1) 0) (s.getD (i+2) 0))).length<=4611686018427387904)/\m8 (v9+1)/\∃ x:Nat×BL,match x with | (c9,m0)=>(c9<=s.length/\m0.length<=3*c9/\bp s=(bp (s.drop c9)).map (m0++ ·))/\(s.length-c9<s.length-i)/\E (sV s)/\Q (sV (o++(ez (cH (s.getD (i+1) 0) (s.getD (i+2) 0))))) (sV m0)/\Q (iN ((i+2)+1)) (iN c9)/\True))) (MP v5/\(jd (s.getD i 0)).sm/\(True)/\Br (dw (s.getD i 0)) (MP v5/\(True)/\([uN ((s.getD i 0).toNat)]=[(s.getD i 0)].map n7)/\(o.length+([(s.getD i 0)]:BL).length<=4611686018427387904)/\m8 ((i:Int)+1)/\∃ x:Nat×BL,match x with | (c9,m0)=>(c9<=s.length/\m0.length<=3*c9/\bp s=(bp (s.drop c9)).map (m0++ ·))/\(s.length-c9<s.length-i)/\E (sV s)/\Q (sV (o++[(s.getD i 0)])) (sV m0)/\Q (iN (i+1)) (iN c9)/\True) ((nL (s.getD i 0)).sm/\(True)/\(o.length+(ez (s.getD i 0)).length<=4611686018427387904)/\m8 ((i:Int)+1)/\∃ x:Nat×BL,match x with | (c9,m0)=>(c9<=s.length/\m0.length<=3*c9/\bp s=(bp (s.drop c9)).map (m0++ ·))/\(s.length-c9<s.length-i)/\E (sV s)/\Q (sV (o++(ez (s.getD i 0)))) (sV m0)/\Q (iN (i+1)) (iN c9)/\True))) (Q (.tup [sV o,bV true]) v2)) ((v3||v4)==false)) (((cH (s.getD (i+1) 0) (s.getD (i+2) 0)).toNat:Nat):Int)) (iV (((bR (s.getD (i+1) 0))*16)+(bR (s.getD (i+2) 0))):V)) (((s.getD i 0).toNat:Nat):Int)) (s7 (bR (s.getD (i+1) 0)) 0)) (y0 v9 v1)) ((i+2:Nat):Int)))) (.tup [sV ((bD s).1),bV ((bD s).2)])) (s.length:Int)) ?_
 refine⟨fun j7=>?_,fun j7=>?_⟩
 try simp only[nb]at j7
 unfold Q
 rw[show bD s=([],false) from if_neg (by omega)]
 try simp only[nb]at j7
 refine⟨⟨(0,[]),?_,rfl,rfl,rfl,trivial⟩,?_⟩
 refine⟨by omega,by simp,?_⟩
 cases h:bp s <;> simp[h]
 rintro⟨i,o⟩ ⟨hi,ho,Ks⟩
 refine⟨fun j9=>?_,fun j9=>?_⟩
 try simp only[nb]at j9
 refine⟨by omega,by have:=UInt8.toNat_lt (s.getD i 0);omega,by omega,?_⟩
 refine⟨fun l8=>?_,fun l8=>?_⟩
 try simp only[nb]at l8
 refine⟨by omega,fun hG=>by(try simp only[nb]at hG);omega,fun hG=>by(try simp only[nb]at hG);omega,fun hG=>⟨trivial,rfl⟩,⟨fun _=>rfl,fun h=>by rw[h] <;> rfl⟩,fun hG=>by(try simp only[nb]at hG);omega,fun hG=>by(try simp only[nb]at hG);omega,fun hG=>⟨trivial,rfl⟩,⟨fun _=>rfl,fun h=>by rw[h] <;> rfl⟩,?_⟩
 refine⟨fun o4=>?_,fun o4=>?_⟩
 try simp only[nb]at o4
 unfold Q
 rw[show bD s=([],false) from by unfold bD;rw[Ks,xg (by omega) (by omega) (by omega)];simp]
 try simp only[nb]at o4
 refine⟨by omega,by omega,rfl,trivial,by have:=fb (s.getD (i+1) 0);have:=gz (s.getD (i+1) 0);omega,by omega,by omega,rfl,trivial,by have:=fb (s.getD (i+1) 0);have:=gz (s.getD (i+1) 0);have:=fb (s.getD (i+2) 0);have:=gz (s.getD (i+2) 0);omega,(congrArg iV (rI (by omega) (by omega)).symm),(congrArg iV (rI (by omega) (by omega)).symm),by omega,by have:=UInt8.toNat_lt (cH (s.getD (i+1) 0) (s.getD (i+2) 0));omega,rfl,trivial,?_⟩
 refine⟨fun x4=>?_,fun x4=>?_⟩
 try simp only[nb]at x4
 refine⟨by have:=UInt8.toNat_lt (cH (s.getD (i+1) 0) (s.getD (i+2) 0));omega,trivial,rfl,by(try simp only[List.length_append,List.length_cons,List.length_nil]);omega,by omega,?_⟩
 refine⟨((i+2)+1,o++[(cH (s.getD (i+1) 0) (s.getD (i+2) 0))]),?_,?_,rfl,rfl,rfl,trivial⟩
 have he:dV (cH (s.getD (i+1) 0) (s.getD (i+2) 0))=[(cH (s.getD (i+1) 0) (s.getD (i+2) 0))]:=by unfold dV;rw[if_pos x4]
 have hl:=ee (cH (s.getD (i+1) 0) (s.getD (i+2) 0))
 rw[he]at hl
 refine⟨by omega,by rw[List.length_append];omega,?_⟩
 rw[Ks,ov (by omega) (by omega) (by omega) (by omega),he]
 cases bp (s.drop (i+3)) <;> simp
 first | (solve | simp) | omega | (simp;omega)
 try simp only[nb]at x4
 refine⟨rfl,trivial,by have:(ez (cH (s.getD (i+1) 0) (s.getD (i+2) 0))).length=3:=rfl;(try simp only[List.length_append,List.length_cons,List.length_nil]);omega,by omega,?_⟩
 refine⟨((i+2)+1,o++(ez (cH (s.getD (i+1) 0) (s.getD (i+2) 0)))),?_,?_,rfl,rfl,rfl,trivial⟩
 have he:dV (cH (s.getD (i+1) 0) (s.getD (i+2) 0))=ez (cH (s.getD (i+1) 0) (s.getD (i+2) 0)):=by unfold dV;rw[if_neg (by rw[x4];decide)]
 have hl:=ee (cH (s.getD (i+1) 0) (s.getD (i+2) 0))
 rw[he]at hl
 refine⟨by omega,by rw[List.length_append];omega,?_⟩
 rw[Ks,ov (by omega) (by omega) (by omega) (by omega),he]
 cases bp (s.drop (i+3)) <;> simp
 first | (solve | simp) | omega | (simp;omega)
 try simp only[nb]at l8
 refine⟨by have:=UInt8.toNat_lt (s.getD i 0);omega,rfl,trivial,?_⟩
 refine⟨fun E'=>?_,fun E'=>?_⟩
 try simp only[nb]at E'
 refine⟨by have:=UInt8.toNat_lt (s.getD i 0);omega,trivial,rfl,by(try simp only[List.length_append,List.length_cons,List.length_nil]);omega,by omega,?_⟩
 refine⟨(i+1,o++[(s.getD i 0)]),?_,?_,rfl,rfl,rfl,trivial⟩
 have he:dV (s.getD i 0)=[(s.getD i 0)]:=by unfold dV;rw[if_pos E']
 have hl:=ee (s.getD i 0)
 rw[he]at hl
 refine⟨by omega,by rw[List.length_append];omega,?_⟩
 rw[Ks,mA (by omega) (by omega),he]
 cases bp (s.drop (i+1)) <;> simp
 first | (solve | simp) | omega | (simp;omega)
 try simp only[nb]at E'
 refine⟨rfl,trivial,by have:(ez (s.getD i 0)).length=3:=rfl;(try simp only[List.length_append,List.length_cons,List.length_nil]);omega,by omega,?_⟩
 refine⟨(i+1,o++(ez (s.getD i 0))),?_,?_,rfl,rfl,rfl,trivial⟩
 have he:dV (s.getD i 0)=ez (s.getD i 0):=by unfold dV;rw[if_neg (by rw[E'];decide)]
 have hl:=ee (s.getD i 0)
 rw[he]at hl
 refine⟨by omega,by rw[List.length_append];omega,?_⟩
 rw[Ks,mA (by omega) (by omega),he]
 cases bp (s.drop (i+1)) <;> simp
 first | (solve | simp) | omega | (simp;omega)
 try simp only[nb]at j9
 unfold Q
 rw[List.drop_eq_nil_of_le (by omega)]at Ks
 rw[show bD s=(o,true) from by unfold bD;rw[Ks,if_pos (by omega)];simp[bp]])
def oB(s:BL):r5 Tryz.prog:=.mk 141 [sV s] [] (s.length<=4611686018427387904) (bV (ey s)) [] (by
 intro hs
 refine aw (N:=16) (rs:=[.tmp 2]) Tryz.func141
  (.q 1<|.q 1<|.c (je s) []<|.q 5<|.q 7<|.nil)
  ((je s).sm/\((s.length<=4611686018427387904))/\Pk ((bD s).2) (((bD s).2)==true) true/\Q (bV (((bD s).2)&&(((bD s).1)==s))) (bV (ey s))) ?_
 refine⟨rfl,by first | assumption | omega | (simp;omega),⟨fun h=>by rw[h] <;> rfl,fun _=>rfl⟩,?_⟩
 unfold Q
 rfl)
abbrev iw(s:BL)(c:UInt8)(o:List BL)(r:BL)(m:Bool)(g:Nat)(f:Nat)(k:Nat):Prop:=(m=true->an c s=o++an c r)/\(m=false->an c s=o)/\o.length+r.length<=s.length+cond m 0 1/\r.length<=s.length
def vw(s:BL)(c:UInt8):r5 Tryz.prog:=.mk 161 [sV s,uN c.toNat] [] (s.length<=1099511627776) (ax (an c s)) [] (by
 intro hs
 refine aw (N:=24) (rs:=[.tmp 4]) Tryz.func161
  (.q 1<|.bs<|.q 1<|.q 2<|.q 1<|.h (.H3 5 1)<|.loop ((List BL)×BL×Bool×Nat×Nat×Nat) (fun (o,r,m,g,f,k)=>⟨[(0,sV s),(1,uN c.toNat),(5,.own 1 (o.map sV) g f k),(6,sV r),(7,bV m)],[]⟩) (fun (o,r,m,g,f,k)=>iw s c o r m g f k) (fun (o,r,m,g,f,k)=>cond m (r.length+1) 0) (fun (o,r,m,g,f,k)=>.q 1<|.br (.q 1<|.q 2<|.c (ly r c) []<|.q 7<|.q 2<|.bs<|.ap (fun g22 P9 Q0=>.h (.o9 22 (.own 1 ((o++[(ag c r).1]).map sV) g22 P9 Q0))<|.q 1<|.nil)) (.h (.fz 5)<|.h (.o9 5 (ax o))<|.q 2<|.nil)))
  ((∃ x:(List BL)×BL×Bool×Nat×Nat×Nat,match x with | (u7,Kq,Lp,A4,y7,r6)=>(iw s c u7 Kq Lp A4 y7 r6)/\E (sV s)/\E (uN c.toNat)/\Q (.own 1 ([].map sV) 0 0 0) (.own 1 (u7.map sV) A4 y7 r6)/\Q (sV s) (sV Kq)/\Q (bV true) (bV Lp)/\True)/\∀ x:(List BL)×BL×Bool×Nat×Nat×Nat,match x with | (o,r,m,g,f,k)=>(iw s c o r m g f k)->(fun v1:List V=>Br m ((ly r c).sm/\((r.length<=4611686018427387904))/\((1,1,g,f,k,(o.map sV).length)=(1,1,g,f,k,(o.map sV).length))/\(True)/\(V.aD v1=false)/\(aG 1 v1)/\(((o.map sV).length+v1.length)*16<=140737488355328)/\∀ g22 P9 Q0:Nat,((.own 1 ((o.map sV)++v1) g22 P9 Q0:V)=.own 1 ((o++[(ag c r).1]).map sV) g22 P9 Q0)/\∃ x:(List BL)×BL×Bool×Nat×Nat×Nat,match x with | (m0,B4,m₂,s6,r7,k₂)=>(iw s c m0 B4 m₂ s6 r7 k₂)/\(cond m₂ (B4.length+1) 0<cond m (r.length+1) 0)/\E (sV s)/\E (uN c.toNat)/\Q (.own 1 ((o++[(ag c r).1]).map sV) g22 P9 Q0) (.own 1 (m0.map sV) s6 r7 k₂)/\Q (sV ((ag c r).2.1)) (sV B4)/\Q (bV ((ag c r).2.2)) (bV m₂)/\True) (((.sl false (V.A8 (o.map sV)):V)=ax o)/\Q (ax o) (ax (an c s)))) ([sV ((ag c r).1)]:List V)) ?_
 refine⟨⟨([],s,true,0,0,0),?_,rfl,rfl,rfl,rfl,rfl,trivial⟩,?_⟩
 unfold iw
 simp
 rintro⟨o,r,m,g,f,k⟩ ⟨h1,h2,h3,h4⟩
 refine⟨fun j7=>?_,fun j7=>?_⟩
 try simp only[nb]at j7
 refine⟨rfl,by first | assumption | omega | (simp;omega),rfl,trivial,rfl,by simp[aG,V.n,V.ns],by rw[j7]at h3;simp at h3 ⊢;omega,?_⟩
 intro g22 P9 Q0
 refine⟨congrArg (V.own 1 · g22 P9 Q0) (by simp),?_⟩
 refine⟨(o++[(ag c r).1],(ag c r).2.1,(ag c r).2.2,g22,P9,Q0),?_,?_,rfl,rfl,rfl,rfl,rfl,trivial⟩
 unfold iw
 have hl:=xb c r
 subst j7
 have h1:=h1 rfl
 rw[tz c r]at h1
 have hle:=kC c r
 refine⟨fun hm=>?_,fun hm=>?_,?_,by omega⟩
 rw[h1,hm];simp
 rw[h1,hm];simp
 simp only[List.length_append,List.length_cons,List.length_nil];cases hm:(ag c r).2.2 <;> simp[hm]at hl h3 ⊢ <;> omega
 have:=xb c r
 subst j7
 cases hm:(ag c r).2.2 <;> simp[hm]at this ⊢;omega
 try simp only[nb]at j7
 refine⟨congrArg (V.sl false) (aL (fun _=>rfl) _),?_⟩
 unfold Q
 rw[h2 j7])
def qH(ps:List BL):r5 Tryz.prog:=.mk 163 [ax ps] [] (ps.length<=1099511627776) (ax (bE ps)) [] (by
 intro hs
 refine aw (N:=45) (rs:=[.tmp 2]) Tryz.func163
  (.q 1<|.bs<|.q 1<|.q 1<|.h (.H3 3 1)<|.loop (Nat×(List BL)×Nat×Nat×Nat) (fun (i,o,g,f,k)=>⟨[(0,ax ps),(3,.own 1 (o.map sV) g f k),(4,iN i)],[]⟩) (fun (i,o,g,f,k)=>i<=ps.length/\o=bE (ps.take i)/\o.length<=i) (fun (i,o,g,f,k)=>ps.length-i) (fun (i,o,g,f,k)=>.q 4<|.br (.r 13 [sV (ps.getD i []),sV (ps.getD i [])]<|.br (.q 3<|.nil) (.r 6 [sV (ps.getD i [])]<|.br (.q 4<|.mm<|.q 1<|.rs<|.h (.o9 3 (.own 1 (o.dropLast.map sV) g (f+(0+((0:Int).toNat))*1) (k-((0:Int).toNat))))<|.q 3<|.nil) (.r 5 [sV (ps.getD i [])]<|.bs<|.ap (fun g18 P' Q1=>.h (.o9 18 (.own 1 ((o++[(ps.getD i [])]).map sV) g18 P' Q1))<|.q 1<|.q 3<|.nil)))) (.h (.fz 3)<|.h (.o9 3 (ax o))<|.q 2<|.nil)))
  ((∃ x:Nat×(List BL)×Nat×Nat×Nat,match x with | (j8,u7,A4,y7,r6)=>(j8<=ps.length/\u7=bE (ps.take j8)/\u7.length<=j8)/\E (ax ps)/\Q (.own 1 ([].map sV) 0 0 0) (.own 1 (u7.map sV) A4 y7 r6)/\Q (iN 0) (iN j8)/\True)/\∀ x:Nat×(List BL)×Nat×Nat×Nat,match x with | (i,o,g,f,k)=>(i<=ps.length/\o=bE (ps.take i)/\o.length<=i)->(fun v1:Int=>(fun v2:List V=>(fun v3:Bool=>(fun v4:V=>Br (s7 (i:Int) (((ps.map sV).length:Nat):Int)) (Ex (i:Int) (ps.map sV) v4/\True/\Gd v3 (Ex (i:Int) (ps.map sV) v4)/\Gd v3 True/\Pk ((ps.getD i [])==[]) true v3/\Br (((ps.getD i [])==[])||((ps.getD i [])==([46]:BL))) (m8 ((i:Int)+1)/\∃ x:Nat×(List BL)×Nat×Nat×Nat,match x with | (c9,m0,s6,r7,k₂)=>(c9<=ps.length/\m0=bE (ps.take c9)/\m0.length<=c9)/\(ps.length-c9<ps.length-i)/\E (ax ps)/\Q (.own 1 (o.map sV) g f k) (.own 1 (m0.map sV) s6 r7 k₂)/\Q (iN (i+1)) (iN c9)/\True) (Ex (i:Int) (ps.map sV) v4/\True/\Br ((ps.getD i [])==([46,46]:BL)) (m8 (v1-1)/\(IntKind.i64=IntKind.i64)/\((0:Int)<=(0:Int)/\(0:Int)<=(max (v1-1) 0)/\(max (v1-1) 0)<=((o.map sV).length)/\1=1)/\((3,1,g,f)=(3,1,g,f))/\((0+((0:Int).toNat))+((Int.toNat (max (v1-1) 0))-((0:Int).toNat))<=(o.map sV).length/\(0+((0:Int).toNat))+(k-((0:Int).toNat))<=k/\V.aD (o.map sV)=false)/\((.own 1 (((o.map sV).drop (0+((0:Int).toNat))).take ((Int.toNat (max (v1-1) 0))-((0:Int).toNat))) g (f+(0+((0:Int).toNat))*1) (k-((0:Int).toNat)):V)=.own 1 (o.dropLast.map sV) g (f+(0+((0:Int).toNat))*1) (k-((0:Int).toNat)))/\m8 ((i:Int)+1)/\∃ x:Nat×(List BL)×Nat×Nat×Nat,match x with | (c9,m0,s6,r7,k₂)=>(c9<=ps.length/\m0=bE (ps.take c9)/\m0.length<=c9)/\(ps.length-c9<ps.length-i)/\E (ax ps)/\Q (.own 1 (o.dropLast.map sV) g (f+(0+((0:Int).toNat))*1) (k-((0:Int).toNat))) (.own 1 (m0.map sV) s6 r7 k₂)/\Q (iN (i+1)) (iN c9)/\True) (Ex (i:Int) (ps.map sV) v4/\True/\((1,1,g,f,k,(o.map sV).length)=(1,1,g,f,k,(o.map sV).length))/\(True)/\(V.aD v2=false)/\(aG 1 v2)/\(((o.map sV).length+v2.length)*16<=140737488355328)/\∀ g18 P' Q1:Nat,((.own 1 ((o.map sV)++v2) g18 P' Q1:V)=.own 1 ((o++[(ps.getD i [])]).map sV) g18 P' Q1)/\m8 ((i:Int)+1)/\∃ x:Nat×(List BL)×Nat×Nat×Nat,match x with | (c9,m0,s6,r7,k₂)=>(c9<=ps.length/\m0=bE (ps.take c9)/\m0.length<=c9)/\(ps.length-c9<ps.length-i)/\E (ax ps)/\Q (.own 1 ((o++[(ps.getD i [])]).map sV) g18 P' Q1) (.own 1 (m0.map sV) s6 r7 k₂)/\Q (iN (i+1)) (iN c9)/\True))) (((.sl false (V.A8 (o.map sV)):V)=ax o)/\Q (ax o) (ax (bE ps)))) (sV (ps.getD i []))) (((ps.getD i [])==[])==false)) ([sV (ps.getD i [])]:List V)) (((o.map sV).length:Nat):Int)) ?_
 refine⟨⟨(0,[],0,0,0),?_,rfl,rfl,rfl,trivial⟩,?_⟩
 simp[bE]
 rintro⟨i,o,g,f,k⟩ ⟨h1,h2,h3⟩
 refine⟨fun j7=>?_,fun j7=>?_⟩
 try simp only[nb]at j7
 refine⟨⟨by omega,aj (d:=[]) (by omega)⟩,trivial,fun hG=>⟨by omega,aj (d:=[]) (by omega)⟩,fun hG=>trivial,⟨fun _=>rfl,fun h=>by rw[h] <;> rfl⟩,?_⟩
 refine⟨fun j9=>?_,fun j9=>?_⟩
 try simp only[nb]at j9
 refine⟨by omega,?_⟩
 refine⟨(i+1,o,g,f,k),?_,?_,rfl,rfl,rfl,trivial⟩
 refine⟨by omega,?_,by omega⟩
 rw[fQ (by omega),<- h2,cv,if_pos j9]
 first | (solve | simp) | omega | (simp;omega)
 try simp only[nb]at j9
 refine⟨⟨by omega,aj (d:=[]) (by omega)⟩,trivial,?_⟩
 refine⟨fun l8=>?_,fun l8=>?_⟩
 try simp only[nb]at l8
 refine⟨by(try simp only[List.length_map]at *);omega,rfl,⟨by omega,by omega,by omega,rfl⟩,rfl,⟨by simp <;> omega,by simp,cm (fun _=>rfl) _⟩,congrArg (V.own 1 · g (f+(0+((0:Int).toNat))*1) (k-((0:Int).toNat))) (by rw[show (0+Int.toNat 0)=0 from rfl,List.drop_zero,<- List.map_take,List.dropLast_eq_take];congr 2;simp;omega),by omega,?_⟩
 refine⟨(i+1,o.dropLast,g,f+(0+((0:Int).toNat))*1,k-((0:Int).toNat)),?_,?_,rfl,rfl,rfl,trivial⟩
 refine⟨by omega,?_,by simp;omega⟩
 rw[fQ (by omega),<- h2,cv,if_neg (by simpa using j9),if_pos l8]
 first | (solve | simp) | omega | (simp;omega)
 try simp only[nb]at l8
 refine⟨⟨by omega,aj (d:=[]) (by omega)⟩,trivial,rfl,trivial,rfl,by simp[aG,V.n,V.ns],by simp;omega,?_⟩
 intro g18 P' Q1
 refine⟨congrArg (V.own 1 · g18 P' Q1) (by simp),by omega,?_⟩
 refine⟨(i+1,o++[(ps.getD i [])],g18,P',Q1),?_,?_,rfl,rfl,rfl,trivial⟩
 refine⟨by omega,?_,by simp;omega⟩
 rw[fQ (by omega),<- h2,cv,if_neg (by simpa using j9),if_neg l8]
 first | (solve | simp) | omega | (simp;omega)
 try simp only[nb]at j7
 refine⟨congrArg (V.sl false) (aL (fun _=>rfl) _),?_⟩
 unfold Q
 rw[h2,List.take_of_length_le (by omega)])
abbrev bc(p0:BL)(p1:List BL)(p2:Bool)(p3:BL):V:=.agg [sV p0,.sl false (p1.map sV),bV p2,sV p3]
def wQ(a:s5):r5 Tryz.prog:=.mk 142 [bc a.c5 a.b7 a.asks a.ask] [] (dz a) (sV (bu a)) [] (by
 intro ha
 obtain⟨z1,z2,z3,z4⟩:=ha
 refine aw (N:=31) (rs:=[.tmp 2]) Tryz.func142
  (.bx (fun g1=>.q 1<|.q 1<|.q 1<|.loop (Nat×BL) (fun (i,o)=>⟨[(1,.ptr (.key 1) [] g1 0),(3,sV o),(4,iN i)],[(1,(g1,bc a.c5 a.b7 a.asks a.ask))]⟩) (fun (i,o)=>i<=a.b7.length/\o=[47]++bT (a.b7.take i)) (fun (i,o)=>a.b7.length-i) (fun (i,o)=>.r 5 [.b9]<|.br (.q 2<|.br (.q 3<|.r 8 [.b9,sV (a.b7.getD i [])]<|.q 3<|.nil) (.r 8 [.b9,sV (a.b7.getD i [])]<|.q 3<|.nil)) (.r 2 [.b9]<|.br (.r 6 [.b9]<|.q 2<|.nil) (.q 2<|.nil)))))
  ((fun v1:V=>(fun v2:BL=>(∀ g1:Nat,(∃ x:Nat×BL,match x with | (j8,u7)=>(j8<=a.b7.length/\u7=[47]++bT (a.b7.take j8))/\E (.ptr (.key 1) [] g1 0)/\Q (sV v2) (sV u7)/\Q (iN 0) (iN j8)/\Er g1 v1/\True)/\∀ x:Nat×BL,match x with | (i,o)=>(i<=a.b7.length/\o=[47]++bT (a.b7.take i))->Z g1 1/\Br (s7 (i:Int) (((a.b7.map sV).length:Nat):Int)) (Br (s9 (i:Int) 0) ((o.length+v2.length<=4611686018427387904)/\Z g1 1/\Ex (i:Int) (a.b7.map sV) (sV (a.b7.getD i []))/\True/\((o++v2).length+(a.b7.getD i []).length<=4611686018427387904)/\m8 ((i:Int)+1)/\∃ x:Nat×BL,match x with | (c9,m0)=>(c9<=a.b7.length/\m0=[47]++bT (a.b7.take c9))/\(a.b7.length-c9<a.b7.length-i)/\E (.ptr (.key 1) [] g1 0)/\Q (sV ((o++v2)++(a.b7.getD i []))) (sV m0)/\Q (iN (i+1)) (iN c9)/\Er g1 v1/\True) (Z g1 1/\Ex (i:Int) (a.b7.map sV) (sV (a.b7.getD i []))/\True/\(o.length+(a.b7.getD i []).length<=4611686018427387904)/\m8 ((i:Int)+1)/\∃ x:Nat×BL,match x with | (c9,m0)=>(c9<=a.b7.length/\m0=[47]++bT (a.b7.take c9))/\(a.b7.length-c9<a.b7.length-i)/\E (.ptr (.key 1) [] g1 0)/\Q (sV (o++(a.b7.getD i []))) (sV m0)/\Q (iN (i+1)) (iN c9)/\Er g1 v1/\True)) (Z g1 2/\Br a.asks ((o.length+([63]:BL).length<=4611686018427387904)/\Z g1 3/\((o++([63]:BL)).length+a.ask.length<=4611686018427387904)/\Q (sV ((o++([63]:BL))++a.ask)) (sV (bu a))) (Q (sV o) (sV (bu a)))))) ([47]:BL)) (bc a.c5 a.b7 a.asks a.ask)) ?_
 intro g1
 refine⟨⟨(0,[47]),?_,rfl,by first | rfl | simp | (simp;omega),rfl,rfl,trivial⟩,?_⟩
 simp[bT]
 rintro⟨i,o⟩ ⟨h1,h2⟩
 have hl:=pT z4 i h1
 have Qq:o.length<=1+i*1048577:=by rw[h2];simp;omega
 have Vv:=z4 i
 refine⟨rfl,?_⟩
 refine⟨fun j7=>?_,fun j7=>?_⟩
 try simp only[nb]at j7
 refine⟨fun j9=>?_,fun j9=>?_⟩
 try simp only[nb]at j9
 refine⟨by(try simp only[List.length_append,List.length_cons,List.length_nil]);omega,rfl,⟨by omega,aj (d:=[]) (by omega)⟩,trivial,by(try simp only[List.length_append,List.length_cons,List.length_nil]);omega,by omega,?_⟩
 refine⟨(i+1,(o++([47]:BL))++(a.b7.getD i [])),?_,?_,rfl,rfl,rfl,rfl,trivial⟩
 refine⟨by omega,?_⟩
 rw[h2,aW (by omega:i<a.b7.length) [],kX,if_neg (by intro h;have:=congrArg List.length h;simp only[List.length_take,List.length_nil]at this;omega)]
 simp[List.append_assoc]
 first | (solve | simp) | omega | (simp;omega)
 try simp only[nb]at j9
 refine⟨rfl,⟨by omega,aj (d:=[]) (by omega)⟩,trivial,by(try simp only[List.length_append,List.length_cons,List.length_nil]);omega,by omega,?_⟩
 refine⟨(i+1,o++(a.b7.getD i [])),?_,?_,rfl,rfl,rfl,rfl,trivial⟩
 refine⟨by omega,?_⟩
 have hi0:i=0:=by omega
 subst hi0
 rw[h2,aW (by omega:0<a.b7.length) []];simp[bT]
 first | (solve | simp) | omega | (simp;omega)
 try simp only[nb]at j7
 refine⟨rfl,?_⟩
 refine⟨fun l8=>?_,fun l8=>?_⟩
 try simp only[nb]at l8
 refine⟨by(try simp only[List.length_append,List.length_cons,List.length_nil]);omega,rfl,by(try simp only[List.length_append,List.length_cons,List.length_nil]);omega,?_⟩
 unfold Q
 refine congrArg sV ?_
 rw[h2,List.take_of_length_le (by omega)]
 unfold bu;rw[if_pos l8];simp[List.append_assoc]
 try simp only[nb]at l8
 unfold Q
 refine congrArg sV ?_
 rw[h2,List.take_of_length_le (by omega)]
 unfold bu;rw[if_neg (by rw[l8];decide)];simp)
def nO(a:s5):r5 Tryz.prog:=.mk 111 [bc a.c5 a.b7 a.asks a.ask] [] (dz a) (sV (ck a)) [] (by
 intro ha
 have hp:=Cf ha
 have h1:=ha.1
 refine aw (N:=9) (rs:=[.tmp 2]) Tryz.func111
  (.bx (fun g1=>.q 1<|.dx 6 [0,1,2,3,4,5] [(1,⟨false,[],some [1],[4],[]⟩),(3,⟨false,[],some [1],[6],[]⟩)] []<|.q 1<|.r 1 [.b9]<|.q 1<|.r 1 [.b9]<|.c (wQ a) []<|.q 1<|.q 1<|.nil))
  (∀ g1:Nat,Z g1 0/\(([47,47]:BL).length+a.c5.length<=4611686018427387904)/\Z g1 0/\(wQ a).sm/\((dz a))/\((([47,47]:BL)++a.c5).length+(bu a).length<=4611686018427387904)/\Q (sV ((([47,47]:BL)++a.c5)++(bu a))) (sV (ck a))) ?_
 intro g1
 refine⟨rfl,by(try simp only[List.length_append,List.length_cons,List.length_nil]);omega,rfl,rfl,by first | assumption | exact sD _ | simp_all,by(try simp only[List.length_append,List.length_cons,List.length_nil]);omega,?_⟩
 unfold Q
 rfl)
def oc(a:s5):r5 Tryz.prog:=.mk 110 [bc a.c5 a.b7 a.asks a.ask] [] (dz a) (bV (aH a)) [] (by
 intro ha
 obtain⟨z1,z2,z3,z4⟩:=id ha
 refine aw (N:=72) (rs:=[.tmp 2]) Tryz.func110
  (.bx (fun g1=>.q 1<|.r 2 [.b9]<|.c (uK a.c5) []<|.r 10 [.b9,.b9]<|.cg (oB a.ask)<|.r 12 [.b9,.b9]<|.br (.q 1<|.nil) (.q 1<|.loop (Nat) (fun (i:Nat)=>⟨[(1,.ptr (.key 1) [] g1 0),(3,iN i)],[(1,(g1,bc a.c5 a.b7 a.asks a.ask))]⟩) (fun (i:Nat)=>i<=a.b7.length/\∀ j,j<i->dA (a.b7.getD j [])=true) (fun (i:Nat)=>a.b7.length-i) (fun (i:Nat)=>.r 5 [.b9]<|.br (.r 5 [.b9,sV (a.b7.getD i [])]<|.c (oB (a.b7.getD i [])) []<|.r 25 [.b9,sV (a.b7.getD i []),.b9,sV (a.b7.getD i []),.b9,sV (a.b7.getD i [])]<|.br (.q 1<|.nil) (.q 3<|.nil)) (.r 1 [.b9]<|.c (nO a) []<|.q 3<|.nil)))))
  ((fun v1:Bool=>(fun v3:Bool=>(fun v2:Bool=>(fun v4:BL=>(∀ g1:Nat,Z g1 0/\(uK a.c5).sm/\((a.c5.length<=4611686018427387904))/\Gd (v3==false) (Z g1 1)/\Pk v3 true (v3==false)/\Gd ((v3||v1)==false) (Z g1 3)/\Gd ((v3||v1)==false) (((a.ask.length<=4611686018427387904))/\(oB a.ask).sm)/\Pk (v3||v1) true ((v3||v1)==false)/\Gd v2 (Z g1 2)/\Gd (v2&&((!a.asks)==true)) (Z g1 3)/\Gd v2 (Pk (!a.asks) (v2&&((!a.asks)==true)) true)/\Pk ((v3||v1)||(!(ey a.ask))) true v2/\Br (((v3||v1)||(!(ey a.ask)))||((!a.asks)&&(!(a.ask==[])))) (Q (bV false) (bV (aH a))) ((∃ j8:Nat,(j8<=a.b7.length/\∀ j,j<j8->dA (a.b7.getD j [])=true)/\E (.ptr (.key 1) [] g1 0)/\Q (iN 0) (iN j8)/\Er g1 (bc a.c5 a.b7 a.asks a.ask)/\True)/\∀ i:Nat,(i<=a.b7.length/\∀ j,j<i->dA (a.b7.getD j [])=true)->(fun v5:Bool=>(fun v6:Bool=>(fun v7:Bool=>(fun v8:V=>Z g1 1/\Br (s7 (i:Int) (((a.b7.map sV).length:Nat):Int)) (Z g1 1/\Ex (i:Int) (a.b7.map sV) v8/\True/\(oB (a.b7.getD i [])).sm/\(((a.b7.getD i []).length<=4611686018427387904))/\Gd (v5==false) (Z g1 1)/\Gd (v5==false) (Ex (i:Int) (a.b7.map sV) v8)/\Gd (v5==false) True/\Pk v5 true (v5==false)/\Gd v7 (Z g1 1)/\Gd v7 (Ex (i:Int) (a.b7.map sV) v8)/\Gd v7 True/\Pk (v5||((a.b7.getD i [])==[])) true v7/\Gd v6 (Z g1 1)/\Gd v6 (Ex (i:Int) (a.b7.map sV) v8)/\Gd v6 True/\Pk ((v5||((a.b7.getD i [])==[]))||((a.b7.getD i [])==v4)) true v6/\Br (((v5||((a.b7.getD i [])==[]))||((a.b7.getD i [])==v4))||((a.b7.getD i [])==([46,46]:BL))) (Q (bV false) (bV (aH a))) (m8 ((i:Int)+1)/\∃ c9:Nat,(c9<=a.b7.length/\∀ j,j<c9->dA (a.b7.getD j [])=true)/\(a.b7.length-c9<a.b7.length-i)/\E (.ptr (.key 1) [] g1 0)/\Q (iN (i+1)) (iN c9)/\Er g1 (bc a.c5 a.b7 a.asks a.ask)/\True)) (Z g1 0/\(nO a).sm/\((dz a))/\Q (bV (B5 (((ck a).length:Nat):Int) 60)) (bV (aH a)))) (sV (a.b7.getD i []))) ((v5||((a.b7.getD i [])==[]))==false)) (((v5||((a.b7.getD i [])==[]))||((a.b7.getD i [])==v4))==false)) (!(ey (a.b7.getD i [])))))) ([46]:BL)) (((v3||v1)||(!(ey a.ask)))==false)) (!(cn a.c5))) (s9 (((a.b7.map sV).length:Nat):Int) 5)) ?_
 intro g1
 refine⟨rfl,rfl,by first | assumption | omega | (simp;omega),fun hG=>rfl,⟨fun _=>rfl,fun h=>by rw[h] <;> rfl⟩,fun hG=>rfl,fun hG=>⟨by(try simp only[nb]at hG);first | assumption | omega | (simp;omega),rfl⟩,⟨fun _=>rfl,fun h=>by rw[h] <;> rfl⟩,fun hG=>rfl,fun hG=>rfl,fun hG=>⟨fun h=>by rw[h];exact(Bool.and_eq_true _ _).mpr ⟨hG,rfl⟩,fun _=>rfl⟩,⟨fun _=>rfl,fun h=>by rw[h] <;> rfl⟩,?_⟩
 refine⟨fun j7=>?_,fun j7=>?_⟩
 try simp only[nb]at j7
 unfold Q
 refine congrArg bV ?_
 unfold aH
 grind
 try simp only[nb]at j7
 refine⟨⟨0,?_,rfl,rfl,rfl,trivial⟩,?_⟩
 simp
 rintro i ⟨h1,h2⟩
 have Vv:=z4 i
 refine⟨rfl,?_⟩
 refine⟨fun j9=>?_,fun j9=>?_⟩
 try simp only[nb]at j9
 refine⟨rfl,⟨by omega,aj (d:=[]) (by omega)⟩,trivial,rfl,by first | assumption | omega | (simp;omega),fun hG=>rfl,fun hG=>⟨by omega,aj (d:=[]) (by omega)⟩,fun hG=>trivial,⟨fun _=>rfl,fun h=>by rw[h] <;> rfl⟩,fun hG=>rfl,fun hG=>⟨by omega,aj (d:=[]) (by omega)⟩,fun hG=>trivial,⟨fun _=>rfl,fun h=>by rw[h] <;> rfl⟩,fun hG=>rfl,fun hG=>⟨by omega,aj (d:=[]) (by omega)⟩,fun hG=>trivial,⟨fun _=>rfl,fun h=>by rw[h] <;> rfl⟩,?_⟩
 refine⟨fun l8=>?_,fun l8=>?_⟩
 try simp only[nb]at l8
 unfold Q
 refine congrArg bV ?_
 unfold aH
 rw[all_false (i:=i) (d:=[]) (by omega) (by simp only[dA];grind)];simp
 try simp only[nb]at l8
 refine⟨by omega,?_⟩
 refine⟨i+1,?_,?_,rfl,rfl,rfl,trivial⟩
 refine⟨by omega,bF h2 ?_⟩
 simp only[dA];grind
 first | (solve | simp) | omega | (simp;omega)
 try simp only[nb]at j9
 refine⟨rfl,rfl,by first | assumption | exact sD _ | simp_all,?_⟩
 unfold Q
 refine congrArg bV ?_
 unfold aH
 rw[all_true (d:=[]) (fun j hj=>h2 j (by omega))]
 grind)
def hZ(a:s5):r5 Tryz.prog:=.mk 77 [bc a.c5 a.b7 a.asks a.ask] [] (dz a) (sV (if aH a=true then ck a else [])) [] (by
 intro ha
 refine aw (N:=8) (rs:=[.tmp 2]) Tryz.func77
  (.bx (fun g1=>.q 1<|.r 1 [.b9]<|.c (oc a) []<|.q 1<|.br (.q 1<|.nil) (.r 1 [.b9]<|.c (nO a) []<|.q 1<|.nil)))
  (∀ g1:Nat,Z g1 0/\(oc a).sm/\((dz a))/\Br (!(aH a)) (Q (sV []) (sV (if aH a=true then ck a else []))) (Z g1 0/\(nO a).sm/\((dz a))/\Q (sV (ck a)) (sV (if aH a=true then ck a else [])))) ?_
 intro g1
 refine⟨rfl,rfl,by first | assumption | exact sD _ | simp_all,?_⟩
 refine⟨fun j7=>?_,fun j7=>?_⟩
 try simp only[nb]at j7
 unfold Q
 rw[if_neg (by rw[j7];decide)]
 try simp only[nb]at j7
 refine⟨rfl,rfl,by first | assumption | exact sD _ | simp_all,?_⟩
 unfold Q
 rw[if_pos j7])
def mB(s:BL):r5 Tryz.prog:=.mk 139 [sV s] [] (s.length<=1099511627776) (sV (aK s)) [] (by
 intro hs
 refine aw (N:=35) (rs:=[.tmp 2]) Tryz.func139
  (.q 1<|.q 1<|.sb s (fun g6 c6=>.q 1<|.q 1<|.loop (Nat×BL×Nat×Nat) (fun (i,l,g,k)=>⟨[(3,.own 1 (l.map n7) g 0 k),(4,iN i)],[]⟩) (fun (i,l,g,k)=>i<=s.length/\l.length=s.length/\l=aK (s.take i)++s.drop i) (fun (i,l,g,k)=>s.length-i) (fun (i,l,g,k)=>.q 4<|.br (.r 12 [uN ((l.getD i 0).toNat),uN ((l.getD i 0).toNat)]<|.br (.r 8 [uN ((l.getD i 0).toNat)]<|.h (.o9 31 (uN ((dn (l.getD i 0)).toNat)))<|.st (some (uN ((l.getD i 0).toNat)))<|.h (.o9 3 (.own 1 ((l.set i (dn (l.getD i 0))).map n7) g 0 k))<|.q 3<|.nil) (.q 3<|.nil)) (.q 1<|.Kg l<|.q 1<|.nil))))
  (((sV s:V)=sV s)/\∀ g6 c6:Nat,(∃ x:Nat×BL×Nat×Nat,match x with | (j8,K8,A4,r6)=>(j8<=s.length/\K8.length=s.length/\K8=aK (s.take j8)++s.drop j8)/\Q (.own 1 (s.map n7) g6 0 c6) (.own 1 (K8.map n7) A4 0 r6)/\Q (iN 0) (iN j8)/\True)/\∀ x:Nat×BL×Nat×Nat,match x with | (i,l,g,k)=>(i<=s.length/\l.length=s.length/\l=aK (s.take i)++s.drop i)->(fun v1:Int=>(fun v2:V=>Br (s7 (i:Int) (((l.map n7).length:Nat):Int)) (In (i:Int) ((l.map n7).length)/\(V.at g 0 v2 [0+i]=some (g,(0+(0+i)*1),uN ((l.getD i 0).toNat)))/\Gd ((y0 v1 65)==true) (In (i:Int) ((l.map n7).length))/\Gd ((y0 v1 65)==true) (V.at g 0 v2 [0+i]=some (g,(0+(0+i)*1),uN ((l.getD i 0).toNat)))/\Pk (y0 v1 65) ((y0 v1 65)==true) true/\Br ((y0 v1 65)&&(B5 v1 90)) (In (i:Int) ((l.map n7).length)/\(V.at g 0 v2 [0+i]=some (g,(0+(0+i)*1),uN ((l.getD i 0).toNat)))/\MP (v1+32)/\In (i:Int) ((l.map n7).length)/\((uN (((l.getD i 0).toNat)+32):V)=uN ((dn (l.getD i 0)).toNat))/\(V.at g 0 v2 [0+i]=some (g,(0+(0+i)*1),uN ((l.getD i 0).toNat)))/\(V.set v2 [0+i] (uN ((dn (l.getD i 0)).toNat))=.own 1 ((l.set i (dn (l.getD i 0))).map n7) g 0 k)/\m8 ((i:Int)+1)/\∃ x:Nat×BL×Nat×Nat,match x with | (c9,E0,s6,k₂)=>(c9<=s.length/\E0.length=s.length/\E0=aK (s.take c9)++s.drop c9)/\(s.length-c9<s.length-i)/\Q (.own 1 ((l.set i (dn (l.getD i 0))).map n7) g 0 k) (.own 1 (E0.map n7) s6 0 k₂)/\Q (iN (i+1)) (iN c9)/\True) (m8 ((i:Int)+1)/\∃ x:Nat×BL×Nat×Nat,match x with | (c9,E0,s6,k₂)=>(c9<=s.length/\E0.length=s.length/\E0=aK (s.take c9)++s.drop c9)/\(s.length-c9<s.length-i)/\Q v2 (.own 1 (E0.map n7) s6 0 k₂)/\Q (iN (i+1)) (iN c9)/\True)) (((1=1/\g=g/\0=0)/\0+((l.map n7).length)<=(l.map n7).length/\V.aD (l.map n7)=false/\aG 1 (l.map n7))/\(((l.map n7).drop 0).take ((l.map n7).length)=l.map n7)/\Q (sV l) (sV (aK s)))) (.own 1 (l.map n7) g 0 k)) (((l.getD i 0).toNat:Nat):Int)) ?_
 refine⟨rfl,?_⟩
 intro g6 c6
 refine⟨⟨(0,s,g6,c6),?_,rfl,rfl,trivial⟩,?_⟩
 simp[aK]
 rintro⟨i,l,g,k⟩ ⟨h1,h2,h3⟩
 have hbi:=(l.getD i 0).toNat_lt
 refine⟨fun j7=>?_,fun j7=>?_⟩
 try simp only[nb]at j7
 refine⟨by(try simp only[List.length_map]at *);omega,fD (by rw[Nat.zero_add];exact aj (d:=0) (by omega)),fun hG=>by(try simp only[nb]at hG);(try simp only[List.length_map]at *);omega,fun hG=>fD (by rw[Nat.zero_add];exact aj (d:=0) (by omega)),⟨fun h=>by rw[h] <;> rfl,fun _=>rfl⟩,?_⟩
 refine⟨fun j9=>?_,fun j9=>?_⟩
 try simp only[nb]at j9
 refine⟨by(try simp only[List.length_map]at *);omega,fD (by rw[Nat.zero_add];exact aj (d:=0) (by omega)),by have:=UInt8.toNat_lt (l.getD i 0);omega,by(try simp only[List.length_map]at *);omega,(congrArg uN (uT (by omega)).symm),fD (by rw[Nat.zero_add];exact aj (d:=0) (by omega)),lV (by rw[Nat.zero_add];exact aj (d:=0) (by omega)) (by rw[Nat.zero_add];exact(List.map_set ..).symm),by omega,?_⟩
 refine⟨(i+1,l.set i (dn (l.getD i 0)),g,k),?_,?_,rfl,rfl,trivial⟩
 refine⟨by omega,by simp[h2],?_⟩
 exact va (by omega) h3
 first | (solve | simp) | omega | (simp;omega)
 try simp only[nb]at j9
 refine⟨by omega,?_⟩
 refine⟨(i+1,l,g,k),?_,?_,rfl,rfl,trivial⟩
 refine⟨by omega,h2,?_⟩
 exact sB (by omega) h3 (by omega)
 first | (solve | simp) | omega | (simp;omega)
 try simp only[nb]at j7
 refine⟨⟨⟨rfl,rfl,rfl⟩,by simp,nh _,pY _⟩,by simp[List.take_of_length_le],?_⟩
 unfold Q
 rw[h3,List.drop_eq_nil_of_le (by omega),List.take_of_length_le (by omega),List.append_nil])
abbrev fi(p0:V):V:=.agg [sV [],p0,bV false,sV []]
abbrev jV(a:s5)(n9:BL):V:=.tup [bc ((oA (aZ a.c5 a.b7 n9)).c5) ((oA (aZ a.c5 a.b7 n9)).b7) ((oA (aZ a.c5 a.b7 n9)).asks) ((oA (aZ a.c5 a.b7 n9)).ask),bV ((aZ a.c5 a.b7 n9).isSome)]
abbrev jW(a:s5)(n9:BL)(i:Nat)(o:List BL)(g:Nat)(f:Nat)(k:Nat):Prop:=i<=(an 47 (ag 63 n9).1).length/\o=a.b7++((an 47 (ag 63 n9).1).take i).map dW/\((an 47 (ag 63 n9).1).take i).all eE=true
def qo(a:s5)(n9:BL):r5 Tryz.prog:=.mk 138 [bc a.c5 a.b7 a.asks a.ask,sV n9] [] ((dz a)/\(n9.length<=1000)/\(a.b7.length<=1000)) (jV a n9) [] (by
 rintro⟨ha,hw,hp⟩
 have KQ:=kC 63 n9
 have VS:=pK 47 (ag 63 n9).1
 refine aw (N:=70) (rs:=[.cell 4 35,.tmp 5]) Tryz.func138
  (.bx (fun g2=>.al cy (fun g4=>.q 1<|.q 1<|.c (ly n9 (63:UInt8)) []<|.q 7<|.bs<|.r 2 [.b9]<|.ap (fun Nr P7 QY=>.h (.o9 25 (.own 1 (a.b7.map sV) Nr P7 QY))<|.q 1<|.q 1<|.c (vw ((ag (63:UInt8) n9).1) (47:UInt8)) []<|.q 1<|.q 1<|.loop (Nat×(List BL)×Nat×Nat×Nat) (fun (i,o,g,f,k)=>⟨[(2,.ptr (.key 2) [] g2 0),(4,.ptr (.key 4) [] g4 0),(6,sV ((ag 63 n9).2.1)),(7,bV ((ag 63 n9).2.2)),(8,.own 1 (o.map sV) g f k),(9,ax (an 47 (ag 63 n9).1)),(10,iN i)],[(2,(g2,bc a.c5 a.b7 a.asks a.ask)),(4,(g4,fi (.sl true [])))]⟩) (fun (i,o,g,f,k)=>jW a n9 i o g f k) (fun (i,o,g,f,k)=>(an 47 (ag 63 n9).1).length-i) (fun (i,o,g,f,k)=>.q 4<|.br (.r 4 [sV ((an 47 (ag 63 n9).1).getD i [])]<|.c (je ((an 47 (ag 63 n9).1).getD i [])) []<|.q 5<|.q 2<|.br (.bd cy<|.st none<|.q 1<|.nil) (.q 2<|.bs<|.ap (fun J9 J7 J'=>.h (.o9 48 (.own 1 ((o++[(bD ((an 47 (ag 63 n9).1).getD i [])).1]).map sV) J9 J7 J'))<|.q 1<|.q 3<|.nil))) (.q 1<|.c (je ((ag 63 n9).2.1)) []<|.q 5<|.h (.fz 8)<|.h (.o9 8 (ax o))<|.dx 8 [0,1,2,3,4,5,6,7] [(1,⟨false,[],some [2],[55],[]⟩)] [(7,cy)]<|.q 1<|.r 1 [.b9]<|.q 1<|.c (qH o) []<|.q 1<|.q 1<|.bd cy<|.ua (fun g15=>.st none<|.r 4 [.b9]<|.cg (oc (⟨a.c5,bE o,(ag 63 n9).2.2,(bD ((ag 63 n9).2.1)).1⟩:s5))<|.q 2<|.br (.bd cy<|.st none<|.q 1<|.nil) (.r 1 [.b9]<|.st none<|.q 1<|.nil))))))))
  ((fun v1:Bool=>(∀ g2:Nat,∀ g4:Nat,(ly n9 (63:UInt8)).sm/\((n9.length<=4611686018427387904))/\Z g2 1/\(True)/\(True)/\(V.aD (a.b7.map sV)=false)/\(aG 1 (a.b7.map sV))/\((([]:List V).length+(a.b7.map sV).length)*16<=140737488355328)/\∀ Nr P7 QY:Nat,((.own 1 (([]:List V)++(a.b7.map sV)) Nr P7 QY:V)=.own 1 (a.b7.map sV) Nr P7 QY)/\(vw ((ag (63:UInt8) n9).1) (47:UInt8)).sm/\((((ag (63:UInt8) n9).1).length<=1099511627776))/\(∃ x:Nat×(List BL)×Nat×Nat×Nat,match x with | (j8,u7,A4,y7,r6)=>(jW a n9 j8 u7 A4 y7 r6)/\E (.ptr (.key 2) [] g2 0)/\E (.ptr (.key 4) [] g4 0)/\Q (sV ((ag (63:UInt8) n9).2.1)) (sV ((ag 63 n9).2.1))/\Q (bV ((ag (63:UInt8) n9).2.2)) (bV ((ag 63 n9).2.2))/\Q (.own 1 (a.b7.map sV) Nr P7 QY) (.own 1 (u7.map sV) A4 y7 r6)/\Q (ax (an (47:UInt8) ((ag (63:UInt8) n9).1))) (ax (an 47 (ag 63 n9).1))/\Q (iN 0) (iN j8)/\Er g2 (bc a.c5 a.b7 a.asks a.ask)/\Er g4 (fi (.sl true []))/\True)/\∀ x:Nat×(List BL)×Nat×Nat×Nat,match x with | (i,o,g,f,k)=>(jW a n9 i o g f k)->(fun v2:List V=>Br (s7 (i:Int) ((((an 47 (ag 63 n9).1).map sV).length:Nat):Int)) (Ex (i:Int) ((an 47 (ag 63 n9).1).map sV) (sV ((an 47 (ag 63 n9).1).getD i []))/\True/\(je ((an 47 (ag 63 n9).1).getD i [])).sm/\((((an 47 (ag 63 n9).1).getD i []).length<=4611686018427387904))/\Br (!((bD ((an 47 (ag 63 n9).1).getD i [])).2)) (Z g4 0/\(g4=g4)/\Q (.tup [fi (.sl false []),bV false]) (jV a n9)) (((1,1,g,f,k,(o.map sV).length)=(1,1,g,f,k,(o.map sV).length))/\(True)/\(V.aD v2=false)/\(aG 1 v2)/\(((o.map sV).length+v2.length)*16<=140737488355328)/\∀ J9 J7 J':Nat,((.own 1 ((o.map sV)++v2) J9 J7 J':V)=.own 1 ((o++[(bD ((an 47 (ag 63 n9).1).getD i [])).1]).map sV) J9 J7 J')/\m8 ((i:Int)+1)/\∃ x:Nat×(List BL)×Nat×Nat×Nat,match x with | (c9,m0,s6,r7,k₂)=>(jW a n9 c9 m0 s6 r7 k₂)/\((an 47 (ag 63 n9).1).length-c9<(an 47 (ag 63 n9).1).length-i)/\E (.ptr (.key 2) [] g2 0)/\E (.ptr (.key 4) [] g4 0)/\E (sV ((ag 63 n9).2.1))/\E (bV ((ag 63 n9).2.2))/\Q (.own 1 ((o++[(bD ((an 47 (ag 63 n9).1).getD i [])).1]).map sV) J9 J7 J') (.own 1 (m0.map sV) s6 r7 k₂)/\E (ax (an 47 (ag 63 n9).1))/\Q (iN (i+1)) (iN c9)/\Er g2 (bc a.c5 a.b7 a.asks a.ask)/\Er g4 (fi (.sl true []))/\True)) ((je ((ag 63 n9).2.1)).sm/\((((ag 63 n9).2.1).length<=4611686018427387904))/\((.sl false (V.A8 (o.map sV)):V)=ax o)/\Z g2 0/\(qH o).sm/\((o.length<=1099511627776))/\∀ g15:Nat,Z g15 0/\Gd (v1==false) (Z g15 0)/\Gd (v1==false) (((dz (⟨a.c5,bE o,(ag 63 n9).2.2,(bD ((ag 63 n9).2.1)).1⟩:s5)))/\(oc (⟨a.c5,bE o,(ag 63 n9).2.2,(bD ((ag 63 n9).2.1)).1⟩:s5)).sm)/\Pk v1 true (v1==false)/\Br (v1||(!(aH (⟨a.c5,bE o,(ag 63 n9).2.2,(bD ((ag 63 n9).2.1)).1⟩:s5)))) (Z g4 0/\(g4=g4)/\Q (.tup [fi (.sl false []),bV false]) (jV a n9)) (Z g15 0/\Z g4 0/\(g4=g4)/\Q (.tup [bc a.c5 (bE o) ((ag 63 n9).2.2) ((bD ((ag 63 n9).2.1)).1),bV true]) (jV a n9)))) ([sV ((bD ((an 47 (ag 63 n9).1).getD i [])).1)]:List V))) (!((bD ((ag 63 n9).2.1)).2))) ?_
 intro g2
 intro g4
 refine⟨rfl,by first | assumption | omega | (simp;omega),rfl,trivial,trivial,(cm (f:=sV) (fun _=>rfl) _),(dJ (f:=sV) (fun _=>rfl) _),by simp;omega,?_⟩
 intro Nr P7 QY
 refine⟨congrArg (V.own 1 · Nr P7 QY) (List.nil_append _),rfl,by first | assumption | omega | (simp;omega),?_⟩
 refine⟨⟨(0,a.b7,Nr,P7,QY),?_,rfl,rfl,by first | rfl | simp | (simp;omega),by first | rfl | simp | (simp;omega),rfl,by first | rfl | simp | (simp;omega),rfl,rfl,rfl,trivial⟩,?_⟩
 unfold jW
 simp
 rintro⟨i,o,g,f,k⟩ ⟨h1,h2,h3⟩
 have OA:=py 47 (ag 63 n9).1 i
 have Qq:o.length<=1000+i:=by rw[h2];simp;omega
 refine⟨fun j7=>?_,fun j7=>?_⟩
 try simp only[nb]at j7
 refine⟨⟨by omega,aj (d:=[]) (by omega)⟩,trivial,rfl,by first | assumption | omega | (simp;omega),?_⟩
 refine⟨fun j9=>?_,fun j9=>?_⟩
 try simp only[nb]at j9
 refine⟨rfl,?_⟩
 refine⟨rfl,?_⟩
 unfold Q jV
 rw[show aZ a.c5 a.b7 n9=none from by unfold aZ;rw[all_false (i:=i) (d:=[]) (by omega) j9];rfl];rfl
 try simp only[nb]at j9
 refine⟨rfl,trivial,rfl,by simp[aG,V.n,V.ns],by simp;omega,?_⟩
 intro J9 J7 J'
 refine⟨congrArg (V.own 1 · J9 J7 J') (by simp),by omega,?_⟩
 refine⟨(i+1,o++[(bD ((an 47 (ag 63 n9).1).getD i [])).1],J9,J7,J'),?_,?_,rfl,rfl,rfl,rfl,rfl,rfl,rfl,rfl,rfl,trivial⟩
 unfold jW
 refine⟨by omega,?_,?_⟩
 rw[h2,aW (by omega:i<(an 47 (ag 63 n9).1).length) []];simp[dW]
 rw[aW (by omega:i<(an 47 (ag 63 n9).1).length) []];simp only[List.all_append,h3,List.all_cons,List.all_nil,eE,Bool.and_true,Bool.true_and];exact j9
 first | (solve | simp) | omega | (simp;omega)
 try simp only[nb]at j7
 refine⟨rfl,by first | assumption | omega | (simp;omega),congrArg (V.sl false) (aL (fun _=>rfl) _),rfl,rfl,by first | assumption | omega | (simp;omega),?_⟩
 intro g15
 refine⟨rfl,?_⟩
 have hz:dz ⟨a.c5,bE o,(ag 63 n9).2.2,(bD (ag 63 n9).2.1).1⟩:=by
  rw[h2,List.take_of_length_le (by omega)];exact Iu ha hp (by omega)
 refine⟨fun hG=>rfl,fun hG=>⟨hz,rfl⟩,⟨fun _=>rfl,fun h=>by rw[h] <;> rfl⟩,?_⟩
 refine⟨fun l8=>?_,fun l8=>?_⟩
 try simp only[nb]at l8
 refine⟨rfl,?_⟩
 refine⟨rfl,?_⟩
 unfold Q jV
 have D4:(an 47 (ag 63 n9).1).all eE=true:=by rw[List.take_of_length_le (by omega)]at h3;exact h3
 rw[List.take_of_length_le (by omega)]at h2
 subst h2
 rw[show aZ a.c5 a.b7 n9=none from by unfold aZ;rw[D4];grind [eE,dW]];rfl
 try simp only[nb]at l8
 refine⟨rfl,rfl,?_⟩
 refine⟨rfl,?_⟩
 unfold Q jV
 have D4:(an 47 (ag 63 n9).1).all eE=true:=by rw[List.take_of_length_le (by omega)]at h3;exact h3
 rw[List.take_of_length_le (by omega)]at h2
 subst h2
 rw[show aZ a.c5 a.b7 n9=some _ from by unfold aZ;rw[D4,if_pos (by grind [eE,dW]),if_pos (by grind [eE,dW])]];rfl)
abbrev kK(s:BL):V:=.tup [bc ((oA (cI s)).c5) ((oA (cI s)).b7) ((oA (cI s)).asks) ((oA (cI s)).ask),bV ((cI s).isSome)]
def vf(s:BL):r5 Tryz.prog:=.mk 109 [sV s] [] (s.length<=1000) (kK s) [] (by
 intro hs
 refine aw (N:=37) (rs:=[.cell 2 35,.tmp 3]) Tryz.func109
  (.al cy (fun g2=>.q 1<|.q 2<|.q 1<|.q 1<|.loop (Nat) (fun (i:Nat)=>⟨[(0,sV s),(2,.ptr (.key 2) [] g2 0),(4,sV s),(5,sV []),(6,iN i)],[(2,(g2,fi (.sl true [])))]⟩) (fun (i:Nat)=>i<=s.length/\∀ j,j<i->gD (s.getD j 0)=true) (fun (i:Nat)=>s.length-i) (fun (i:Nat)=>.q 4<|.br (.q 10<|.br (.q 4<|.q 4<|.q 1<|.c (mB ((s.take i).drop ((0:Int).toNat))) []<|.bd cy<|.q 1<|.c (qo (⟨aK ((s.take i).drop ((0:Int).toNat)),[],false,[]⟩:s5) ((s.take s.length).drop i)) []<|.q 2<|.st none<|.q 1<|.nil) (.q 3<|.nil)) (.q 1<|.c (mB s) []<|.bd cy<|.q 1<|.c (qo (⟨aK s,[],false,[]⟩:s5) ([]:BL)) []<|.q 2<|.st none<|.q 1<|.nil))))
  ((fun v1:BL=>(∀ g2:Nat,(∃ j8:Nat,(j8<=s.length/\∀ j,j<j8->gD (s.getD j 0)=true)/\E (sV s)/\E (.ptr (.key 2) [] g2 0)/\E (sV s)/\E (sV [])/\Q (iN 0) (iN j8)/\Er g2 (fi (.sl true []))/\True)/\∀ i:Nat,(i<=s.length/\∀ j,j<i->gD (s.getD j 0)=true)->(fun v2:Int=>Br (s7 (i:Int) (s.length:Int)) (Ix (i:Int) s/\Gd ((r4 v2 47)==false) (Ix (i:Int) s)/\Pk (r4 v2 47) true ((r4 v2 47)==false)/\Br ((r4 v2 47)||(r4 v2 63)) (Sx (0:Int) (i:Int) s/\Sx (i:Int) (s.length:Int) s/\(mB ((s.take i).drop ((0:Int).toNat))).sm/\((((s.take i).drop ((0:Int).toNat)).length<=1099511627776))/\(qo (⟨aK ((s.take i).drop ((0:Int).toNat)),[],false,[]⟩:s5) ((s.take s.length).drop i)).sm/\((dz (⟨aK ((s.take i).drop ((0:Int).toNat)),[],false,[]⟩:s5))/\(((s.take s.length).drop i).length<=1000)/\((⟨aK ((s.take i).drop ((0:Int).toNat)),[],false,[]⟩:s5).b7.length<=1000))/\Z g2 0/\(g2=g2)/\Q (.tup [bc ((oA (aZ (⟨aK ((s.take i).drop ((0:Int).toNat)),[],false,[]⟩:s5).c5 (⟨aK ((s.take i).drop ((0:Int).toNat)),[],false,[]⟩:s5).b7 ((s.take s.length).drop i))).c5) ((oA (aZ (⟨aK ((s.take i).drop ((0:Int).toNat)),[],false,[]⟩:s5).c5 (⟨aK ((s.take i).drop ((0:Int).toNat)),[],false,[]⟩:s5).b7 ((s.take s.length).drop i))).b7) ((oA (aZ (⟨aK ((s.take i).drop ((0:Int).toNat)),[],false,[]⟩:s5).c5 (⟨aK ((s.take i).drop ((0:Int).toNat)),[],false,[]⟩:s5).b7 ((s.take s.length).drop i))).asks) ((oA (aZ (⟨aK ((s.take i).drop ((0:Int).toNat)),[],false,[]⟩:s5).c5 (⟨aK ((s.take i).drop ((0:Int).toNat)),[],false,[]⟩:s5).b7 ((s.take s.length).drop i))).ask),bV ((aZ (⟨aK ((s.take i).drop ((0:Int).toNat)),[],false,[]⟩:s5).c5 (⟨aK ((s.take i).drop ((0:Int).toNat)),[],false,[]⟩:s5).b7 ((s.take s.length).drop i)).isSome)]) (kK s)) (m8 ((i:Int)+1)/\∃ c9:Nat,(c9<=s.length/\∀ j,j<c9->gD (s.getD j 0)=true)/\(s.length-c9<s.length-i)/\E (sV s)/\E (.ptr (.key 2) [] g2 0)/\E (sV s)/\E (sV [])/\Q (iN (i+1)) (iN c9)/\Er g2 (fi (.sl true []))/\True)) ((mB s).sm/\((s.length<=1099511627776))/\(qo (⟨aK s,[],false,[]⟩:s5) v1).sm/\((dz (⟨aK s,[],false,[]⟩:s5))/\(v1.length<=1000)/\((⟨aK s,[],false,[]⟩:s5).b7.length<=1000))/\Z g2 0/\(g2=g2)/\Q (.tup [bc ((oA (aZ (⟨aK s,[],false,[]⟩:s5).c5 (⟨aK s,[],false,[]⟩:s5).b7 v1)).c5) ((oA (aZ (⟨aK s,[],false,[]⟩:s5).c5 (⟨aK s,[],false,[]⟩:s5).b7 v1)).b7) ((oA (aZ (⟨aK s,[],false,[]⟩:s5).c5 (⟨aK s,[],false,[]⟩:s5).b7 v1)).asks) ((oA (aZ (⟨aK s,[],false,[]⟩:s5).c5 (⟨aK s,[],false,[]⟩:s5).b7 v1)).ask),bV ((aZ (⟨aK s,[],false,[]⟩:s5).c5 (⟨aK s,[],false,[]⟩:s5).b7 v1).isSome)]) (kK s))) (((s.getD i 0).toNat:Nat):Int))) ([]:BL)) ?_
 intro g2
 refine⟨⟨0,?_,rfl,rfl,rfl,rfl,rfl,rfl,trivial⟩,?_⟩
 simp
 rintro i ⟨h1,h2⟩
 refine⟨fun j7=>?_,fun j7=>?_⟩
 try simp only[nb]at j7
 refine⟨by omega,fun hG=>by(try simp only[nb]at hG);omega,⟨fun _=>rfl,fun h=>by rw[h] <;> rfl⟩,?_⟩
 refine⟨fun j9=>?_,fun j9=>?_⟩
 try simp only[nb]at j9
 refine⟨by omega,by omega,?_⟩
 have hz:dz ⟨aK ((s.take i).drop ((0:Int).toNat)),[],false,[]⟩:=⟨by simp only[aK,List.length_map];first | omega | (simp;omega),by simp,by simp,by simp⟩
 have hw:((s.take s.length).drop i).length<=1000:=by first | (solve | simp) | (simp;omega)
 refine⟨rfl,by first | assumption | omega | (simp;omega),rfl,⟨hz,hw,by simp⟩,rfl,?_⟩
 refine⟨rfl,?_⟩
 unfold Q kK
 obtain⟨k1,k2⟩:=wm (p:=gD) h1 h2 (.inr (by simp only[gD,decide_eq_false_iff_not];omega))
 unfold cI
 rw[k1,k2];simp
 try simp only[nb]at j9
 refine⟨by omega,?_⟩
 refine⟨i+1,?_,?_,rfl,rfl,rfl,rfl,rfl,rfl,trivial⟩
 refine⟨by omega,bF h2 ?_⟩
 simp only[gD,decide_eq_true_eq];omega
 first | (solve | simp) | omega | (simp;omega)
 try simp only[nb]at j7
 have hz:dz ⟨aK s,[],false,[]⟩:=⟨by simp only[aK,List.length_map];first | omega | (simp;omega),by simp,by simp,by simp⟩
 have hw:([]:BL).length<=1000:=by first | (solve | simp) | (simp;omega)
 refine⟨rfl,by first | assumption | omega | (simp;omega),rfl,⟨hz,hw,by simp⟩,rfl,?_⟩
 refine⟨rfl,?_⟩
 unfold Q kK
 obtain⟨k1,k2⟩:=wm (p:=gD) h1 h2 (.inl (by omega))
 unfold cI
 rw[k1,k2,List.take_of_length_le (by omega),List.drop_eq_nil_of_le (by omega)])
abbrev jD(raw:BL):V:=.tup [bc ((oA (ai raw)).c5) ((oA (ai raw)).b7) ((oA (ai raw)).asks) ((oA (ai raw)).ask),bV ((ai raw).isSome)]
def lf(raw:BL):r5 Tryz.prog:=.mk 76 [sV raw] [] (raw.length<=4611686018427387904) (jD raw) [] (by
 intro hs
 have KQ:=kC 35 raw
 refine aw (N:=32) (rs:=[.cell 2 35,.tmp 3]) Tryz.func76
  (.al cy (fun g2=>.q 1<|.q 1<|.c (ly raw (35:UInt8)) []<|.q 7<|.q 13<|.br (.bd cy<|.st none<|.q 1<|.nil) (.q 2<|.c (vf ((((ag (35:UInt8) raw).1).take ((ag (35:UInt8) raw).1).length).drop 2)) []<|.q 2<|.st none<|.q 1<|.nil)))
  ((fun v1:Bool=>(fun v2:Bool=>(∀ g2:Nat,(ly raw (35:UInt8)).sm/\((raw.length<=4611686018427387904))/\Pk v2 true (v2==false)/\Gd ((v2||v1)==false) (Sx (0:Int) (2:Int) ((ag (35:UInt8) raw).1))/\Pk (v2||v1) true ((v2||v1)==false)/\Br ((v2||v1)||(!(((((ag (35:UInt8) raw).1).take 2).drop ((0:Int).toNat))==([47,47]:BL)))) (Z g2 0/\(g2=g2)/\Q (.tup [fi (.sl false []),bV false]) (jD raw)) (Sx (2:Int) (((ag (35:UInt8) raw).1).length:Int) ((ag (35:UInt8) raw).1)/\(vf ((((ag (35:UInt8) raw).1).take ((ag (35:UInt8) raw).1).length).drop 2)).sm/\((((((ag (35:UInt8) raw).1).take ((ag (35:UInt8) raw).1).length).drop 2).length<=1000))/\Z g2 0/\(g2=g2)/\Q (.tup [bc ((oA (cI ((((ag (35:UInt8) raw).1).take ((ag (35:UInt8) raw).1).length).drop 2))).c5) ((oA (cI ((((ag (35:UInt8) raw).1).take ((ag (35:UInt8) raw).1).length).drop 2))).b7) ((oA (cI ((((ag (35:UInt8) raw).1).take ((ag (35:UInt8) raw).1).length).drop 2))).asks) ((oA (cI ((((ag (35:UInt8) raw).1).take ((ag (35:UInt8) raw).1).length).drop 2))).ask),bV ((cI ((((ag (35:UInt8) raw).1).take ((ag (35:UInt8) raw).1).length).drop 2)).isSome)]) (jD raw)))) (s9 (raw.length:Int) 60)) (s7 ((((ag (35:UInt8) raw).1).length:Nat):Int) 2)) ?_
 intro g2
 refine⟨rfl,by first | assumption | omega | (simp;omega),⟨fun _=>rfl,fun h=>by rw[h] <;> rfl⟩,fun hG=>by(try simp only[nb]at hG);omega,⟨fun _=>rfl,fun h=>by rw[h] <;> rfl⟩,?_⟩
 refine⟨fun j7=>?_,fun j7=>?_⟩
 try simp only[nb]at j7
 refine⟨rfl,?_⟩
 refine⟨rfl,?_⟩
 unfold Q jD
 rw[show ai raw=none from if_neg (by grind)];rfl
 try simp only[nb]at j7
 refine⟨by omega,rfl,by first | assumption | omega | (simp;omega),rfl,?_⟩
 refine⟨rfl,?_⟩
 unfold Q jD
 rw[show ai raw=cI ((ag 35 raw).1.drop 2) from if_pos (by grind)];simp)
def jc(s:BL):r5 Tryz.prog:=.mk 45 [sV s] [] (s.length<=4611686018427387904) (bV (aI s)) [] (by
 intro hs
 refine aw (N:=17) (rs:=[.tmp 2]) Tryz.func45
  (.q 1<|.q 1<|.c (lf s) []<|.q 3<|.al cy (fun g3=>.st none<|.q 1<|.r 3 [.b9]<|.cg (hZ (oA (ai s)))<|.q 4<|.nil))
  ((lf s).sm/\((s.length<=4611686018427387904))/\∀ g3:Nat,Z g3 0/\Gd (((ai s).isSome)==true) (Z g3 0)/\Gd (((ai s).isSome)==true) (((dz (oA (ai s))))/\(hZ (oA (ai s))).sm)/\Pk ((ai s).isSome) (((ai s).isSome)==true) true/\Q (bV (((ai s).isSome)&&((bf (oA (ai s)))==s))) (bV (aI s))) ?_
 refine⟨rfl,by first | assumption | omega | (simp;omega),?_⟩
 intro g3
 refine⟨rfl,fun hG=>rfl,fun hG=>⟨by(try simp only[nb]at hG);first | assumption | exact sD _ | simp_all,rfl⟩,⟨fun h=>by rw[h] <;> rfl,fun _=>rfl⟩,?_⟩
 unfold Q
 rfl)
def wg(p:BL):r5 Tryz.prog:=.mk 125 [sV p] [] (p.length<=4611686018427387904) (bV (bH p)) [] (by
 intro hs
 refine aw (N:=66) (rs:=[.tmp 2]) Tryz.func125
  (.q 1<|.q 12<|.br (.q 1<|.nil) (.q 1<|.loop (Nat) (fun (i:Nat)=>⟨[(0,sV p),(3,iN i)],[]⟩) (fun (i:Nat)=>i<=p.length/\∀ j,j<i->ka p j=true) (fun (i:Nat)=>p.length-i) (fun (i:Nat)=>.q 4<|.br (.q 4<|.q 1<|.c (jd (p.getD i 0)) []<|.q 38<|.br (.q 1<|.nil) (.q 3<|.nil)) (.q 1<|.nil))))
  ((fun v1:Bool=>(Pk v1 true (v1==false)/\Gd ((v1||(p==[]))==false) (Ix 0 p)/\Pk (v1||(p==[])) true ((v1||(p==[]))==false)/\Br ((v1||(p==[]))||(B9 (((p.getD 0 0).toNat:Nat):Int) 47)) (Q (bV false) (bV (bH p))) ((∃ j8:Nat,(j8<=p.length/\∀ j,j<j8->ka p j=true)/\E (sV p)/\Q (iN 0) (iN j8)/\True)/\∀ i:Nat,(i<=p.length/\∀ j,j<i->ka p j=true)->(fun v2:Int=>(fun v3:Bool=>(fun v4:Bool=>Br (s7 (i:Int) (p.length:Int)) (Ix (i:Int) p/\(jd (p.getD i 0)).sm/\(True)/\Pk v3 (v3==true) true/\Pk (v3&&(B9 v2 47)) ((v3&&(B9 v2 47))==true) true/\Pk ((v3&&(B9 v2 47))&&(B9 v2 42)) (((v3&&(B9 v2 47))&&(B9 v2 42))==true) true/\Pk (((v3&&(B9 v2 47))&&(B9 v2 42))&&(B9 v2 63)) ((((v3&&(B9 v2 47))&&(B9 v2 42))&&(B9 v2 63))==true) true/\Gd (((((v3&&(B9 v2 47))&&(B9 v2 42))&&(B9 v2 63))&&(B9 v2 37))==true) (Pk (y0 v2 65) ((((((v3&&(B9 v2 47))&&(B9 v2 42))&&(B9 v2 63))&&(B9 v2 37))==true)&&((y0 v2 65)==true)) true)/\Pk ((((v3&&(B9 v2 47))&&(B9 v2 42))&&(B9 v2 63))&&(B9 v2 37)) (((((v3&&(B9 v2 47))&&(B9 v2 42))&&(B9 v2 63))&&(B9 v2 37))==true) true/\Gd (((((((v3&&(B9 v2 47))&&(B9 v2 42))&&(B9 v2 63))&&(B9 v2 37))&&v4)==true)&&((r4 v2 36)==true)) (m8 ((p.length:Int)-1))/\Gd ((((((v3&&(B9 v2 47))&&(B9 v2 42))&&(B9 v2 63))&&(B9 v2 37))&&v4)==true) (Pk (r4 v2 36) (((((((v3&&(B9 v2 47))&&(B9 v2 42))&&(B9 v2 63))&&(B9 v2 37))&&v4)==true)&&((r4 v2 36)==true)) true)/\Pk (((((v3&&(B9 v2 47))&&(B9 v2 42))&&(B9 v2 63))&&(B9 v2 37))&&v4) ((((((v3&&(B9 v2 47))&&(B9 v2 42))&&(B9 v2 63))&&(B9 v2 37))&&v4)==true) true/\Br ((((((v3&&(B9 v2 47))&&(B9 v2 42))&&(B9 v2 63))&&(B9 v2 37))&&v4)&&(!((r4 v2 36)&&(r4 (i:Int) ((p.length:Int)-1))))) (Q (bV false) (bV (bH p))) (m8 ((i:Int)+1)/\∃ c9:Nat,(c9<=p.length/\∀ j,j<c9->ka p j=true)/\(p.length-c9<p.length-i)/\E (sV p)/\Q (iN (i+1)) (iN c9)/\True)) (Q (bV true) (bV (bH p)))) (!((y0 v2 65)&&(B5 v2 70)))) (!(dw (p.getD i 0)))) (((p.getD i 0).toNat:Nat):Int)))) (s9 (p.length:Int) 16)) ?_
 refine⟨⟨fun _=>rfl,fun h=>by rw[h] <;> rfl⟩,fun hG=>by(try simp only[nb]at hG);grind [List.length_pos_iff],⟨fun _=>rfl,fun h=>by rw[h] <;> rfl⟩,?_⟩
 refine⟨fun j7=>?_,fun j7=>?_⟩
 try simp only[nb]at j7
 unfold Q
 refine congrArg bV ?_
 unfold bH
 symm
 rw[decide_eq_false_iff_not]
 grind
 try simp only[nb]at j7
 refine⟨⟨0,?_,rfl,rfl,trivial⟩,?_⟩
 simp
 rintro i ⟨h1,h2⟩
 refine⟨fun j9=>?_,fun j9=>?_⟩
 try simp only[nb]at j9
 refine⟨by omega,rfl,trivial,⟨fun h=>by rw[h] <;> rfl,fun _=>rfl⟩,⟨fun h=>by rw[h] <;> rfl,fun _=>rfl⟩,⟨fun h=>by rw[h] <;> rfl,fun _=>rfl⟩,⟨fun h=>by rw[h] <;> rfl,fun _=>rfl⟩,fun hG=>⟨fun h=>by rw[h];exact(Bool.and_eq_true _ _).mpr ⟨hG,rfl⟩,fun _=>rfl⟩,⟨fun h=>by rw[h] <;> rfl,fun _=>rfl⟩,fun hG=>by(try simp only[nb]at hG);omega,fun hG=>⟨fun h=>by rw[h];exact(Bool.and_eq_true _ _).mpr ⟨hG,rfl⟩,fun _=>rfl⟩,⟨fun h=>by rw[h] <;> rfl,fun _=>rfl⟩,?_⟩
 refine⟨fun l8=>?_,fun l8=>?_⟩
 try simp only[nb]at l8
 unfold Q
 refine congrArg bV ?_
 unfold bH
 symm
 rw[decide_eq_false_iff_not]
 rintro⟨k1,k2,k3,k4⟩
 have:=k4 i (by omega)
 unfold ka gL at this
 grind
 try simp only[nb]at l8
 refine⟨by omega,?_⟩
 refine⟨i+1,?_,?_,rfl,rfl,trivial⟩
 refine⟨by omega,bF h2 ?_⟩
 by_cases hq:dw (p.getD i 0)=true
 simp only[ka,gL,hq,Bool.true_or]
 simp only[Bool.not_eq_true]at hq
 simp only[ka,gL,hq,Bool.false_or,Bool.or_eq_true,Bool.and_eq_true,decide_eq_true_eq]
 simp only[hq,true_and]at l8
 omega
 first | (solve | simp) | omega | (simp;omega)
 try simp only[nb]at j9
 unfold Q
 refine congrArg bV ?_
 unfold bH
 symm
 rw[decide_eq_true_eq]
 exact⟨by grind,by omega,by grind,fun j hj=>h2 j (by omega)⟩)
abbrev eK(p0:BL):V:=.sl false (p0.map n7)
abbrev ar(p0:BL)(p1:Nat):V:=.agg [.sl false (p0.map n7),iN p1]
theorem DV{l:List BL}{i:Nat}(h:i<l.length):Ex (i:Int) (l.map sV) (sV (l.getD i [])):=⟨Int.natCast_nonneg _,by simp[List.getD_eq_getElem?_getD,h]⟩
theorem EN{b:BL}{i:Nat}(h:i<(b.map n7).length):Ex (i:Int) (b.map n7) (uN (b.getD i 0).toNat):=⟨Int.natCast_nonneg _,by simp at h;simp[List.getD_eq_getElem?_getD,h,n7,uN]⟩
def xn(b:BL):F8 Tryz.prog:=.mk (BL×Nat) 18 [eK b] [] (b.length<=9223372036854775807) (fun x=>x.1.length<=2000) (fun x=>.ptr (.key 1000) [] x.2 0) (fun x=>[(1000,(x.2,.agg [eK x.1,iN 0]))]) (by
 intro hb
 refine eG (N:=11) (rs:=[.tmp 2]) (X:=BL×Nat) (post:=fun x=>x.1.length<=2000) (E:=fun x=>.ptr (.key 1000) [] x.2 0) (H':=fun x=>[(1000,(x.2,.agg [.sl false (x.1.map n7),iN 0]))]) Tryz.func18 (by kernel_rfl) rfl rfl rfl (by kernel_rfl) [(1000,(0,.b9))] (by intro _ k hk;simpa[lk] using hk)
  (.q 1<|.q 3<|.join BL (fun c=>⟨[(0,eK c)],[]⟩) (fun c=>c.length<=2000) (.q 2<|.h (.o9 7 (eK (b.take 2000)))<|.q 1<|.nil) (.nil) (fun c=>.q 1<|.bd JI<|.bx (fun g10=>.q 1<|.h (.rk 10 1000)<|.nil)))
  (((s9 (((b.map n7).length:Nat):Int) 2000)=true->((0:Int)<=(0:Int)/\(0:Int)<=(2000:Int)/\(2000:Int)<=(b.map n7).length/\∀ x∈(b.map n7),x.n=1)/\Q (.sl false (((b.map n7).take 2000).drop ((0:Int).toNat))) (eK (b.take 2000))/\∃ c:BL,(c.length<=2000)/\Q (eK (b.take 2000)) (eK c)/\True)/\((s9 (((b.map n7).length:Nat):Int) 2000)=false->∃ c:BL,(c.length<=2000)/\Q (eK b) (eK c)/\True)/\(∀ c:BL,(c.length<=2000)->∀ g10:Nat,∃ x:BL×Nat,(x.1.length<=2000)/\Q (.ptr (.key 1000) [] g10 0) (.ptr (.key 1000) [] x.2 0)/\Qr g10 (.agg [eK c,iN 0]) x.2 (.agg [eK x.1,iN 0])))
  (by kernel_rfl) ?_
 refine⟨fun j7=>?_,fun j7=>?_,fun c hc=>?_⟩
 try simp only[nb]at j7
 refine⟨⟨by simp <;> omega,by simp <;> omega,by simp <;> omega,all_map (fun _=>rfl)⟩,by simp[Q,List.map_take],?_⟩
 exact⟨b.take 2000,by simp;omega,rfl,trivial⟩
 try simp only[nb]at j7
 exact⟨b,by omega,rfl,trivial⟩
 intro g10
 refine⟨(c,g10),?_,?_,?_⟩
 try dsimp only
 assumption
 first | rfl | simp_all
 first | rfl | exact⟨rfl,rfl⟩ | simp_all)
def kj:r5 Tryz.prog:=.mk 63 [] [] True (ax aM) [] (by
 intro _
 refine aw (N:=2) (rs:=[.tmp 0]) Tryz.func63
  (.q 1<|.bs<|.q 1<|.nil)
  (Q (.sl false [sV ([97,98]:BL),sV ([99,100]:BL),sV ([101]:BL),sV ([102,111,120]:BL)]) (ax aM)) ?_
 unfold Q
 rfl)
def aU(b:BL)(p:Nat)(g:Nat)(n:Nat):F8 Tryz.prog:=.mk Nat 35 [.ptr (.key 1000) [] g 0,iN n] [(1000,(g,ar b p))] ((b.length<=2000)/\(p<=1000000)/\(n<=1000000)) (fun x=>n=0/\x=0\/x<n) (fun x=>iN x) (fun x=>[(1000,(g,ar b (p+1)))]) (by
 rintro⟨hb,hp,hn⟩
 refine eG (N:=99) (rs:=[.tmp 4]) (X:=Nat) (post:=fun x=>n=0/\x=0\/x<n) (E:=fun x=>iN x) (H':=fun x=>[(1000,(g,.agg [.sl false (b.map n7),iN (p+1)]))]) Tryz.func35 (by kernel_rfl) rfl rfl rfl (by kernel_rfl) [(1000,(0,.b9))] (by intro _ k hk;simpa[lk] using hk)
  (.q 1<|.r 8 [.b9]<|.st none<|.r 10 [.b9]<|.br (.q 1<|.nil) (.r 5 [.b9]<|.h (.o9 29 (iN p))<|.q 1<|.r 7 [.b9]<|.br (.r 11 [.b9,uN ((b.getD p 0).toNat)]<|.nil) (.dx 45 [0,1,2,3,4,5,6,7,8,9,10,11,12,13,14,15,16,17,18,19,20,21,22,23,24,25,26,27,28,29,30,31,32,33,34,35,36,37,38,39,40,41,42,43,44] [(3,⟨false,[],some [1000],[50],[]⟩),(8,⟨false,[],some [1000],[55],[]⟩),(12,⟨false,[],some [],[59],[]⟩),(18,⟨false,[],some [1000],[65],[]⟩),(25,⟨false,[],some [1000],[72],[]⟩),(29,⟨false,[],some [],[76],[]⟩),(40,⟨false,[],some [1000],[87],[]⟩)] []<|.q 1<|.q 1<|.q 1<|.r 1 [.b9]<|.q 1<|.q 1<|.q 1<|.q 1<|.r 1 [.b9]<|.q 1<|.q 1<|.r 1 [uN ((b.getD (p % ((b.map n7).length)) 0).toNat)]<|.q 1<|.q 1<|.q 1<|.q 1<|.q 1<|.q 1<|.r 1 [.b9]<|.q 1<|.q 1<|.q 1<|.q 1<|.q 1<|.q 1<|.r 1 [.b9]<|.q 1<|.q 1<|.r 1 [uN ((b.getD (((p*7)+3) % ((b.map n7).length)) 0).toNat)]<|.q 1<|.q 1<|.q 1<|.q 1<|.q 1<|.q 1<|.q 1<|.q 1<|.q 1<|.q 1<|.q 1<|.r 1 [.b9]<|.q 1<|.q 1<|.q 1<|.q 1<|.q 1<|.q 5<|.q 4<|.nil)))
  ((fun v1:Int=>(fun v2:Int=>(fun v3:Int=>(fun v4:Int=>(fun v5:Bool=>(fun v6:Int=>(True/\Z g 1/\m8 ((p:Int)+1)/\True/\Z g 1/\Gd (v5==false) True/\Gd (v5==false) (Z g 0)/\Pk v5 true (v5==false)/\Br (v5||(r4 v3 0)) (∃ x:Nat,(n=0/\x=0\/x<n)/\Q (iN 0) (iN x)/\Er g (ar b (p+1))) (True/\Z g 1/\m8 (((p+1:Nat):Int)-1)/\Q (iV (((p+1:Nat):Int)-1)) (iN p)/\True/\Z g 0/\Br (s7 (p:Int) v3) (True/\Z g 0/\Ex (p:Int) (b.map n7) (uN ((b.getD p 0).toNat))/\True/\m8 (((b.getD p 0).toNat:Nat):Int)/\((0:Int)<=(((b.getD p 0).toNat:Nat):Int)/\(0:Int)<(n:Int))/\∃ x:Nat,(n=0/\x=0\/x<n)/\Q (iN (((b.getD p 0).toNat) % n)) (iN x)/\Er g (ar b (p+1))) (True/\Z g 0/\True/\Z g 0/\((0:Int)<=(p:Int)/\(0:Int)<v3)/\Ex ((p % ((b.map n7).length):Nat):Int) (b.map n7) (uN ((b.getD (p % ((b.map n7).length)) 0).toNat))/\True/\m8 v6/\m8 (v6*131)/\True/\Z g 0/\m8 ((p:Int)*7)/\m8 (((p*7:Nat):Int)+3)/\True/\Z g 0/\((0:Int)<=(((p*7)+3:Nat):Int)/\(0:Int)<v3)/\Ex ((((p*7)+3) % ((b.map n7).length):Nat):Int) (b.map n7) (uN ((b.getD (((p*7)+3) % ((b.map n7).length)) 0).toNat))/\True/\m8 v4/\m8 (v4*1117)/\m8 (((((b.getD (p % ((b.map n7).length)) 0).toNat)*131:Nat):Int)+((((b.getD (((p*7)+3) % ((b.map n7).length)) 0).toNat)*1117:Nat):Int))/\m8 ((p:Int)*29)/\m8 ((((((b.getD (p % ((b.map n7).length)) 0).toNat)*131)+(((b.getD (((p*7)+3) % ((b.map n7).length)) 0).toNat)*1117):Nat):Int)+((p*29:Nat):Int))/\True/\Z g 0/\((0:Int)<=(p:Int)/\(0:Int)<v3/\m8 (p:Int))/\m8 (((p / ((b.map n7).length):Nat):Int)*53)/\m8 (((((((b.getD (p % ((b.map n7).length)) 0).toNat)*131)+(((b.getD (((p*7)+3) % ((b.map n7).length)) 0).toNat)*1117))+(p*29):Nat):Int)+(((p / ((b.map n7).length))*53:Nat):Int))/\((0:Int)<=v1/\(0:Int)<64/\m8 v1)/\((0:Int)<=v1/\(0:Int)<=v2/\m8 v1/\m8 v2)/\((0:Int)<=((((((((b.getD (p % ((b.map n7).length)) 0).toNat)*131)+(((b.getD (((p*7)+3) % ((b.map n7).length)) 0).toNat)*1117))+(p*29))+((p / ((b.map n7).length))*53)) ^^^ (((((((b.getD (p % ((b.map n7).length)) 0).toNat)*131)+(((b.getD (((p*7)+3) % ((b.map n7).length)) 0).toNat)*1117))+(p*29))+((p / ((b.map n7).length))*53)) / 64):Nat):Int)/\(0:Int)<(n:Int))/\∃ x:Nat,(n=0/\x=0\/x<n)/\Q (iN ((((((((b.getD (p % ((b.map n7).length)) 0).toNat)*131)+(((b.getD (((p*7)+3) % ((b.map n7).length)) 0).toNat)*1117))+(p*29))+((p / ((b.map n7).length))*53)) ^^^ (((((((b.getD (p % ((b.map n7).length)) 0).toNat)*131)+(((b.getD (((p*7)+3) % ((b.map n7).length)) 0).toNat)*1117))+(p*29))+((p / ((b.map n7).length))*53)) / 64)) % n)) (iN x)/\Er g (ar b (p+1)))))) (((b.getD (p % ((b.map n7).length)) 0).toNat:Nat):Int)) (s7 (n:Int) 1)) (((b.getD (((p*7)+3) % ((b.map n7).length)) 0).toNat:Nat):Int)) (((b.map n7).length:Nat):Int)) ((((((((b.getD (p % ((b.map n7).length)) 0).toNat)*131)+(((b.getD (((p*7)+3) % ((b.map n7).length)) 0).toNat)*1117))+(p*29))+((p / ((b.map n7).length))*53)) / 64:Nat):Int)) (((((((b.getD (p % ((b.map n7).length)) 0).toNat)*131)+(((b.getD (((p*7)+3) % ((b.map n7).length)) 0).toNat)*1117))+(p*29))+((p / ((b.map n7).length))*53):Nat):Int))
  (by kernel_rfl) ?_
 refine⟨trivial,rfl,by omega,trivial,rfl,fun hG=>trivial,fun hG=>rfl,⟨fun _=>rfl,fun h=>by rw[h] <;> rfl⟩,?_⟩
 refine⟨fun j7=>?_,fun j7=>?_⟩
 try simp only[nb]at j7
 refine⟨0,?_,?_,?_⟩
 try dsimp only
 omega
 first | rfl | simp_all
 first | rfl | exact⟨rfl,rfl⟩ | simp_all
 try simp only[nb]at j7
 refine⟨trivial,rfl,by omega,by simp[Q],?_⟩
 have Ro:1<=n/\1<=b.length:=by omega
 refine⟨trivial,rfl,?_⟩
 refine⟨fun j9=>?_,fun j9=>?_⟩
 try simp only[nb]at j9
 have u1:=(b.getD p 0).toNat_lt
 refine⟨trivial,rfl,⟨by omega,aj (d:=0) (by omega)⟩,trivial,by have:=UInt8.toNat_lt (b.getD p 0);omega,by have:=UInt8.toNat_lt (b.getD p 0);omega,?_⟩
 refine⟨(b.getD p 0).toNat % n,?_,?_,?_⟩
 try dsimp only
 exact .inr (Nat.mod_lt _ (by omega))
 first | rfl | simp_all
 first | rfl | exact⟨rfl,rfl⟩ | simp_all
 try simp only[nb]at j9
 have u1:=(b.getD (p % b.length) 0).toNat_lt
 have u2:=(b.getD ((p*7+3) % b.length) 0).toNat_lt
 have u3:=Nat.mod_lt p (show 0<b.length by omega)
 have u4:=Nat.mod_lt (p*7+3) (show 0<b.length by omega)
 have u5:=Nat.div_le_self p b.length
 have u6:=Int.natCast_nonneg (p / b.length)
 refine⟨trivial,rfl,trivial,rfl,by(try simp only[List.length_map]at *);omega,EN (by rw[List.length_map];exact u3),trivial,by(try simp only[List.length_map]at *);omega,by(try simp only[List.length_map]at *);omega,trivial,rfl,by omega,by omega,trivial,rfl,by(try simp only[List.length_map]at *);omega,EN (by rw[List.length_map];exact u4),trivial,by(try simp only[List.length_map]at *);omega,by(try simp only[List.length_map]at *);omega,by(try simp only[List.length_map]at *);omega,by omega,by(try simp only[List.length_map]at *);omega,trivial,rfl,by(try simp only[List.length_map]at *);omega,by(try simp only[List.length_map]at *);omega,by(try simp only[List.length_map]at *);omega,by(try simp only[List.length_map]at *);omega,by(try simp only[List.length_map]at *);omega,by(try simp only[List.length_map]at *);omega,?_⟩
 refine⟨(((((((b.getD (p % ((b.map n7).length)) 0).toNat)*131)+(((b.getD (((p*7)+3) % ((b.map n7).length)) 0).toNat)*1117))+(p*29))+((p / ((b.map n7).length))*53)) ^^^ (((((((b.getD (p % ((b.map n7).length)) 0).toNat)*131)+(((b.getD (((p*7)+3) % ((b.map n7).length)) 0).toNat)*1117))+(p*29))+((p / ((b.map n7).length))*53)) / 64)) % n,?_,?_,?_⟩
 try dsimp only
 exact .inr (Nat.mod_lt _ (by omega))
 first | rfl | simp_all
 first | rfl | exact⟨rfl,rfl⟩ | simp_all)
theorem vK(b:BL)(p g:Nat)(l:List BL)(hb:b.length<=2000)(hp:p<=1000000)(hl:1<=l.length)(hn:l.length<=1000):PF Tryz.prog 36 [.ptr (.key 1000) [] g 0,ax l] [(1000,(g,ar b p))] (fun r h=> ∃ x:BL,(x∈l)/\r=(sV x)/\h=[(1000,(g,ar b (p+1)))]):=by
 refine eG (N:=12) (rs:=[.tmp 4]) (X:=BL) (post:=fun x=>x∈l) (E:=fun x=>sV x) (H':=fun x=>[(1000,(g,.agg [.sl false (b.map n7),iN (p+1)]))]) Tryz.func36 (by kernel_rfl) rfl rfl rfl (by kernel_rfl) [(1000,(0,.b9))] (by intro _ k hk;simpa[lk] using hk)
  (.q 1<|.q 4<|.h (.o9 8 (iN l.length))<|.cx (aU b p g l.length) [(1000,1000)] (fun (LW:Nat)=>.r 3 [sV (l.getD LW [])]<|.nil))
  (Q (iN ((l.map sV).length)) (iN l.length)/\(aU b p g l.length).sm/\Er g (ar b p)/\((b.length<=2000)/\(p<=1000000)/\(l.length<=1000000))/\∀ LW:Nat,(l.length=0/\LW=0\/LW<l.length)->Ex (LW:Int) (l.map sV) (sV (l.getD LW []))/\True/\∃ x:BL,(x∈l)/\Q (sV (l.getD LW [])) (sV x)/\Er g (ar b (p+1)))
  (by kernel_rfl) ?_
 refine⟨by simp[Q],rfl,rfl,⟨by first | assumption | omega | (simp;omega),by first | assumption | omega | (simp;omega),by first | assumption | omega | (simp;omega)⟩,?_⟩
 intro LW VQ
 refine⟨DV (by omega),trivial,?_⟩
 refine⟨l.getD LW [],?_,?_,?_⟩
 try dsimp only
 rw[List.getD_eq_getElem?_getD,List.getElem?_eq_getElem (by omega)];simp
 first | rfl | simp_all
 first | rfl | exact⟨rfl,rfl⟩ | simp_all
def eD(b:BL)(p:Nat)(g:Nat)(l:List BL):F8 Tryz.prog:={ X:=BL,f:=36,args:=[.ptr (.key 1000) [] g 0,ax l],H:=[(1000,(g,ar b p))],pre:=(b.length<=2000)/\(p<=1000000)/\(1<=l.length)/\(l.length<=1000),post:=fun x=>x∈l,res:=fun x=>sV x,H':=fun x=>[(1000,(g,ar b (p+1)))],ok:=fun h=>vK b p g l h.1 h.2.1 h.2.2.1 h.2.2.2 }
def vk(b:BL)(p:Nat)(g:Nat):F8 Tryz.prog:=.mk BL 126 [.ptr (.key 1000) [] g 0] [(1000,(g,ar b p))] ((b.length<=2000)/\(p<=1000000)) (fun x=>x∈iz) (fun x=>sV x) (fun x=>[(1000,(g,ar b (p+1)))]) (by
 rintro⟨hb,hp⟩
 refine eG (N:=6) (rs:=[.tmp 2]) (X:=BL) (post:=fun x=>x∈iz) (E:=fun x=>sV x) (H':=fun x=>[(1000,(g,.agg [.sl false (b.map n7),iN (p+1)]))]) Tryz.func126 (by kernel_rfl) rfl rfl rfl (by kernel_rfl) [(1000,(0,.b9))] (by intro _ k hk;simpa[lk] using hk)
  (.q 1<|.q 1<|.bs<|.cx (eD b p g ([([47]:BL),([47,97]:BL),([47,98]:BL),([47,97,47]:BL),([47,42,98]:BL),([47,97,36]:BL),([47,99]:BL),([47,42,63]:BL),([47,97,47,98]:BL),([47,42,47,98,36]:BL),([47,36]:BL),([47,98,42,99]:BL),([47,110,111,116,105,99,101]:BL),([47,42]:BL)]:List BL)) [(1000,1000)] (fun (y8:BL)=>.q 1<|.nil))
  ((fun v1:BL=>(fun v2:BL=>(fun v3:BL=>(fun v4:BL=>(fun v5:BL=>(fun v6:BL=>(fun v7:BL=>(fun v8:BL=>(fun v9:BL=>(fun v10:BL=>(fun v11:BL=>(fun v12:BL=>(fun Ld:BL=>(fun MQ:BL=>((eD b p g ([MQ,v9,v10,v5,v6,v7,v11,v8,v3,v2,v12,v4,v1,Ld]:List BL)).sm/\Er g (ar b p)/\((b.length<=2000)/\(p<=1000000)/\(1<=([MQ,v9,v10,v5,v6,v7,v11,v8,v3,v2,v12,v4,v1,Ld]:List BL).length)/\(([MQ,v9,v10,v5,v6,v7,v11,v8,v3,v2,v12,v4,v1,Ld]:List BL).length<=1000))/\∀ y8:BL,(y8∈([MQ,v9,v10,v5,v6,v7,v11,v8,v3,v2,v12,v4,v1,Ld]:List BL))->∃ x:BL,(x∈iz)/\Q (sV y8) (sV x)/\Er g (ar b (p+1)))) ([47]:BL)) ([47,42]:BL)) ([47,36]:BL)) ([47,99]:BL)) ([47,98]:BL)) ([47,97]:BL)) ([47,42,63]:BL)) ([47,97,36]:BL)) ([47,42,98]:BL)) ([47,97,47]:BL)) ([47,98,42,99]:BL)) ([47,97,47,98]:BL)) ([47,42,47,98,36]:BL)) ([47,110,111,116,105,99,101]:BL))
  (by kernel_rfl) ?_
 refine⟨rfl,rfl,⟨by first | assumption | omega,by first | assumption | omega,by decide,by decide⟩,?_⟩
 intro y8 Nk
 refine⟨y8,?_,?_,?_⟩
 try dsimp only
 assumption
 first | rfl | simp_all
 first | rfl | exact⟨rfl,rfl⟩ | simp_all)
abbrev bN(p0:List Pg):V:=.sl false (p0.map r8)
abbrev aX(p0:List l5):V:=.sl false (p0.map bw)
abbrev dU(p0:List s8):V:=.sl false (p0.map au)
abbrev iH(p0:V)(p1:List s8)(p2:Nat):V:=.agg [ p0,.sl false (p1.map au),iN p2]
abbrev bP(p0:BL)(p1:BL)(p2:BL)(p3:Int):V:=.agg [sV p0,sV p1,sV p2,iV p3]
abbrev ej(p0:List BL)(p1:List s8)(p2:Nat):V:=.agg [.sl false (p0.map sV),.sl false (p1.map au),iN p2]
theorem ES{k:Nat}(h:k<256):uN k=uN (UInt8.ofNat k).toNat:=by rw[UInt8.toNat_ofNat_of_lt' (by simpa using h)]
def sC(b:BL)(p:Nat)(g:Nat):F8 Tryz.prog:=.mk (List s8×Nat) 95 [.ptr (.key 1000) [] g 0] [(1000,(g,ar b p))] ((b.length<=2000)/\(p<=900000)) (fun x=>x.1.length<=4/\(∀ r,r∈x.1->r.path∈iz)/\p<=x.2/\x.2<=p+9) (fun x=>dU x.1) (fun x=>[(1000,(g,ar b x.2))]) (by
 rintro⟨hb,hp⟩
 refine eG (N:=22) (rs:=[.tmp 2]) (X:=List s8×Nat) (post:=fun x=>x.1.length<=4/\(∀ r,r∈x.1->r.path∈iz)/\p<=x.2/\x.2<=p+9) (E:=fun x=>.sl false (x.1.map au)) (H':=fun x=>[(1000,(g,.agg [.sl false (b.map n7),iN x.2]))]) Tryz.func95 (by kernel_rfl) rfl rfl rfl (by kernel_rfl) [(1000,(0,.b9))] (by intro _ k hk;simpa[lk] using hk)
  (.q 1<|.bs<|.q 1<|.q 1<|.cx (aU b p g 5) [(1000,1000)] (fun (r9:Nat)=>.q 1<|.h (.H3 3 2)<|.loop (Nat×(List s8)×Nat×Nat×Nat×Nat) (fun (n,e,q,u,f,k)=>⟨[(0,.ptr (.key 1000) [] g 0),(3,.own 2 (e.map au) u f k),(4,iN n)],[(1000,(g,ar b q))]⟩) (fun (n,e,q,u,f,k)=>e.length+n<=4/\(∀ r,r∈e->r.path∈iz)/\p<=q/\q+2*n<=p+9) (fun (n,e,q,u,f,k)=>n) (fun (n,e,q,u,f,k)=>.q 2<|.br (.q 2<|.cx (aU b q g 2) [(1000,1000)] (fun (E4:Nat)=>.q 2<|.cx (vk b (q+1) g) [(1000,1000)] (fun (w4:BL)=>.bd sW<|.bs<|.ap (fun g20 Ms MO=>.h (.o9 20 (.own 2 ((e++[(⟨r4 (E4:Int) 0,w4⟩:s8)]).map au) g20 Ms MO))<|.q 1<|.q 2<|.h (.o9 11 (iN (n-1)))<|.q 1<|.nil)))) (.q 2<|.h (.gg 2)<|.h (.fz 2)<|.h (.o9 2 (dU e))<|.nil))))
  ((aU b p g 5).sm/\Er g (ar b p)/\((b.length<=2000)/\(p<=1000000)/\(5<=1000000))/\∀ r9:Nat,(5=0/\r9=0\/r9<5)->(∃ x:Nat×(List s8)×Nat×Nat×Nat×Nat,match x with | (I8,C9,y9,G6,y7,r6)=>(C9.length+I8<=4/\(∀ r,r∈C9->r.path∈iz)/\p<=y9/\y9+2*I8<=p+9)/\E (.ptr (.key 1000) [] g 0)/\Q (.own 2 ([].map au) 0 0 0) (.own 2 (C9.map au) G6 y7 r6)/\Q (iN r9) (iN I8)/\Qr g (ar b (p+1)) g (ar b y9)/\True)/\∀ x:Nat×(List s8)×Nat×Nat×Nat×Nat,match x with | (n,e,q,u,f,k)=>(e.length+n<=4/\(∀ r,r∈e->r.path∈iz)/\p<=q/\q+2*n<=p+9)->Br (s9 (n:Int) 0) ((aU b q g 2).sm/\Er g (ar b q)/\((b.length<=2000)/\(q<=1000000)/\(2<=1000000))/\∀ E4:Nat,(2=0/\E4=0\/E4<2)->(fun v1:Bool=>(vk b (q+1) g).sm/\Er g (ar b (q+1))/\((b.length<=2000)/\((q+1)<=1000000))/\∀ w4:BL,(w4∈iz)->(fun v2:List V=>((2,2,u,f,k,(e.map au).length)=(2,2,u,f,k,(e.map au).length))/\(True)/\(V.aD v2=false)/\(aG 2 v2)/\(((e.map au).length+v2.length)*24<=140737488355328)/\∀ g20 Ms MO:Nat,((.own 2 ((e.map au)++v2) g20 Ms MO:V)=.own 2 ((e++[(⟨r4 (E4:Int) 0,w4⟩:s8)]).map au) g20 Ms MO)/\m8 ((n:Int)-1)/\Q (iV ((n:Int)-1)) (iN (n-1))/\∃ x:Nat×(List s8)×Nat×Nat×Nat×Nat,match x with | (u9,w6,o5,A5,r7,k₂)=>(w6.length+u9<=4/\(∀ r,r∈w6->r.path∈iz)/\p<=o5/\o5+2*u9<=p+9)/\(u9<n)/\E (.ptr (.key 1000) [] g 0)/\Q (.own 2 ((e++[(⟨r4 (E4:Int) 0,w4⟩:s8)]).map au) g20 Ms MO) (.own 2 (w6.map au) A5 r7 k₂)/\Q (iN (n-1)) (iN u9)/\Qr g (ar b ((q+1)+1)) g (ar b o5)/\True) ([.agg [bV v1,sV w4]]:List V)) (r4 (E4:Int) 0)) (((2,u,f,k,(e.map au).length)=(2,u,f,k,(e.map au).length))/\((.sl false (V.A8 (e.map au)):V)=dU e)/\∃ x:List s8×Nat,(x.1.length<=4/\(∀ r,r∈x.1->r.path∈iz)/\p<=x.2/\x.2<=p+9)/\Q (dU e) (dU x.1)/\Qr g (ar b q) g (ar b x.2)))
  (by kernel_rfl) ?_
 refine⟨rfl,rfl,⟨by first | assumption | omega | (simp;omega),by first | assumption | omega | (simp;omega),by first | assumption | omega | (simp;omega)⟩,?_⟩
 intro r9 KY
 refine⟨⟨(r9,[],p+1,0,0,0),?_,rfl,rfl,rfl,rfl,trivial⟩,?_⟩
 simp;omega
 rintro⟨n,e,q,u,f,k⟩ ⟨h1,h2,h3,h4⟩
 refine⟨fun j7=>?_,fun j7=>?_⟩
 try simp only[nb]at j7
 refine⟨rfl,rfl,⟨by first | assumption | omega | (simp;omega),by first | assumption | omega | (simp;omega),by first | assumption | omega | (simp;omega)⟩,?_⟩
 intro E4 Mu
 refine⟨rfl,rfl,⟨by first | assumption | omega | (simp;omega),by first | assumption | omega | (simp;omega)⟩,?_⟩
 intro w4 Ni
 refine⟨rfl,trivial,rfl,by simp[aG,V.n,V.ns],by simp;omega,?_⟩
 intro g20 Ms MO
 refine⟨congrArg (V.own 2 · g20 Ms MO) (by simp),by omega,by simp[Q];omega,?_⟩
 refine⟨(n-1,e++[(⟨r4 (E4:Int) 0,w4⟩:s8)],q+2,g20,Ms,MO),?_,?_,rfl,rfl,rfl,by first | rfl | simp | (simp;omega),trivial⟩
 refine⟨by simp;omega,?_,by omega,by omega⟩
 intro r hr
 rcases List.mem_append.1 hr with h | h
 exact h2 r h
 rw[List.mem_singleton.1 h];exact Ni
 first | (solve | simp) | omega | (simp;omega)
 try simp only[nb]at j7
 refine⟨rfl,congrArg (V.sl false) (aL (fun _=>rfl) _),?_⟩
 refine⟨(e,q),?_,?_,?_⟩
 try dsimp only
 exact⟨by omega,h2,by omega,by omega⟩
 first | rfl | simp_all
 first | rfl | exact⟨rfl,rfl⟩ | simp_all)
def qS(b:BL)(p:Nat)(g:Nat):F8 Tryz.prog:=.mk (List l5×Nat) 65 [.ptr (.key 1000) [] g 0] [(1000,(g,ar b p))] ((b.length<=2000)/\(p<=800000)) (fun x=>x.1.length<=4/\(∀ y,y∈x.1->A9 y)/\p<=x.2/\x.2<=p+60) (fun x=>aX x.1) (fun x=>[(1000,(g,ar b x.2))]) (by
 rintro⟨hb,hp⟩
 refine eG (N:=72) (rs:=[.tmp 2]) (X:=List l5×Nat) (post:=fun x=>x.1.length<=4/\(∀ y,y∈x.1->A9 y)/\p<=x.2/\x.2<=p+60) (E:=fun x=>.sl false (x.1.map bw)) (H':=fun x=>[(1000,(g,.agg [.sl false (b.map n7),iN x.2]))]) Tryz.func65 (by kernel_rfl) rfl rfl rfl (by kernel_rfl) [(1000,(0,.b9))] (by intro _ k hk;simpa[lk] using hk)
  (.q 1<|.bs<|.q 1<|.q 1<|.cx (aU b p g 4) [(1000,1000)] (fun (r9:Nat)=>.q 1<|.h (.H3 3 3)<|.loop (Nat×(List l5)×Nat×Nat×Nat×Nat) (fun (n,e,q,u,f,k)=>⟨[(0,.ptr (.key 1000) [] g 0),(3,.own 3 (e.map bw) u f k),(4,iN n)],[(1000,(g,ar b q))]⟩) (fun (n,e,q,u,f,k)=>e.length+n<=3/\(∀ y,y∈e->A9 y)/\p<=q/\q+15*n<=p+50) (fun (n,e,q,u,f,k)=>n) (fun (n,e,q,u,f,k)=>.q 2<|.br (.q 1<|.bs<|.cx (eD b q g ([([42]:BL),([114,111,118,101,114]:BL),([115,99,111,117,116]:BL)]:List BL)) [(1000,1000)] (fun (E4:BL)=>.bs<|.q 1<|.cx (sC b (q+1) g) [(1000,1000)] (fun (w4:List s8×Nat)=>.q 1<|.cx (aU b w4.2 g 4) [(1000,1000)] (fun (G5:Nat)=>.q 1<|.cx (aU b (w4.2+1) g 3) [(1000,1000)] (fun (G4:Nat)=>.q 1<|.bd iC<|.al iC (fun g5=>.st none<|.q 1<|.cx (aU b ((w4.2+1)+1) g 4) [(1000,1000)] (fun (C7:Nat)=>.q 1<|.join (List BL×Nat) (fun y=>⟨[(0,.ptr (.key 1000) [] g 0),(3,.own 3 (e.map bw) u f k),(4,iN n),(5,.ptr (.key 5) [] g5 0)],[(1000,(g,ar b y.2)),(5,(g5,ej y.1 w4.1 (G5*G4)))]⟩) (fun y=>y.1.length<=2/\(∀ x,x∈y.1->x.length<=5/\m6 x)/\q<=y.2/\y.2<=q+15) (.dx 7 [0,1,2,3,4,5,6] [(1,⟨false,[],some [5],[29],[]⟩),(4,⟨true,[],some [1000],[32],[1000]⟩),(6,⟨true,[],none,[34],[]⟩)] []<|.q 1<|.r 1 [.b9]<|.q 1<|.bs<|.cx (eD b (((w4.2+1)+1)+1) g ([([42]:BL),([114,111,118,101,114]:BL),([120]:BL)]:List BL)) [(1000,1000)] (fun (Lk:BL)=>.bs<|.ux none (fun R3 RG R8=>.h (.o9 34 (.own 1 ([E4,Lk].map sV) R3 RG R8))<|.q 1<|.h (.fz 34)<|.h (.o9 34 (.sl false ([E4,Lk].map sV)))<|.st none<|.nil))) (.nil) (fun y=>.r 9 [.b9,.b9]<|.br (.r 2 [.b9]<|.bs<|.ap (fun J9 J7 J'=>.h (.o9 48 (.own 3 ((e++[(⟨y.1,w4.1,G5*G4⟩:l5)]).map bw) J9 J7 J'))<|.q 1<|.q 2<|.h (.o9 12 (iN (n-1)))<|.q 1<|.nil)) (.q 2<|.h (.o9 12 (iN (n-1)))<|.q 1<|.nil))))))))) (.q 1<|.cx (aU b q g 24) [(1000,1000)] (fun (D9:Nat)=>.q 2<|.br (.q 1<|.bs<|.bd iC<|.h (.Tp 55 (.agg [.sl false ([[120]].map sV),.sl false ([].map au),iN 0]))<|.bs<|.ap (fun QD P1 QS=>.h (.o9 57 (.own 3 ((e++[(⟨[[120]],[],0⟩:l5)]).map bw) QD P1 QS))<|.q 1<|.q 2<|.h (.gg 2)<|.h (.fz 2)<|.h (.o9 2 (aX (e++[(⟨[[120]],[],0⟩:l5)])))<|.nil)) (.q 2<|.br (.q 1<|.bd iC<|.h (.Tp 61 (.agg [.sl false ([].map sV),.sl false ([].map au),iN 2]))<|.bs<|.ap (fun QB PZ QQ=>.h (.o9 63 (.own 3 ((e++[(⟨[],[],2⟩:l5)]).map bw) QB PZ QQ))<|.q 1<|.q 2<|.h (.gg 2)<|.h (.fz 2)<|.h (.o9 2 (aX (e++[(⟨[],[],2⟩:l5)])))<|.nil)) (.q 2<|.br (.q 1<|.bs<|.bd iC<|.h (.Tp 68 (.agg [.sl false ([[88]].map sV),.sl false ([].map au),iN 2]))<|.bs<|.ap (fun QA PY QP=>.h (.o9 70 (.own 3 ((e++[(⟨[[88]],[],2⟩:l5)]).map bw) QA PY QP))<|.q 1<|.q 2<|.h (.gg 2)<|.h (.fz 2)<|.h (.o9 2 (aX (e++[(⟨[[88]],[],2⟩:l5)])))<|.nil)) (.q 2<|.h (.gg 2)<|.h (.fz 2)<|.h (.o9 2 (aX e))<|.nil))))))))
  ((fun v1:BL=>(fun v2:List V=>(fun v3:List V=>(fun v4:List V=>(fun v5:BL=>(fun v6:BL=>(fun v7:V=>(fun v8:BL=>((aU b p g 4).sm/\Er g (ar b p)/\((b.length<=2000)/\(p<=1000000)/\(4<=1000000))/\∀ r9:Nat,(4=0/\r9=0\/r9<4)->(∃ x:Nat×(List l5)×Nat×Nat×Nat×Nat,match x with | (I8,C9,y9,G6,y7,r6)=>(C9.length+I8<=3/\(∀ y,y∈C9->A9 y)/\p<=y9/\y9+15*I8<=p+50)/\E v7/\Q (.own 3 ([].map bw) 0 0 0) (.own 3 (C9.map bw) G6 y7 r6)/\Q (iN r9) (iN I8)/\Qr g (ar b (p+1)) g (ar b y9)/\True)/\∀ x:Nat×(List l5)×Nat×Nat×Nat×Nat,match x with | (n,e,q,u,f,k)=>(e.length+n<=3/\(∀ y,y∈e->A9 y)/\p<=q/\q+15*n<=p+50)->(fun v9:V=>(fun v10:V=>Br (s9 (n:Int) 0) ((eD b q g ([v5,v1,v6]:List BL)).sm/\Er g (ar b q)/\((b.length<=2000)/\(q<=1000000)/\(1<=([v5,v1,v6]:List BL).length)/\(([v5,v1,v6]:List BL).length<=1000))/\∀ E4:BL,(E4∈([v5,v1,v6]:List BL))->(sC b (q+1) g).sm/\Er g v9/\((b.length<=2000)/\((q+1)<=900000))/\∀ w4:List s8×Nat,(w4.1.length<=4/\(∀ r,r∈w4.1->r.path∈iz)/\(q+1)<=w4.2/\w4.2<=(q+1)+9)->(fun v11:Bool=>(aU b w4.2 g 4).sm/\Er g (ar b w4.2)/\((b.length<=2000)/\(w4.2<=1000000)/\(4<=1000000))/\∀ G5:Nat,(4=0/\G5=0\/G5<4)->(aU b (w4.2+1) g 3).sm/\Er g (ar b (w4.2+1))/\((b.length<=2000)/\((w4.2+1)<=1000000)/\(3<=1000000))/\∀ G4:Nat,(3=0/\G4=0\/G4<3)->m8 ((G5:Int)*(G4:Int))/\∀ g5:Nat,Z g5 0/\(aU b ((w4.2+1)+1) g 4).sm/\Er g (ar b ((w4.2+1)+1))/\((b.length<=2000)/\(((w4.2+1)+1)<=1000000)/\(4<=1000000))/\∀ C7:Nat,(4=0/\C7=0\/C7<4)->((r4 (C7:Int) 0)=true->Z g5 0/\(eD b (((w4.2+1)+1)+1) g ([v5,v1,v8]:List BL)).sm/\Er g (ar b (((w4.2+1)+1)+1))/\((b.length<=2000)/\((((w4.2+1)+1)+1)<=1000000)/\(1<=([v5,v1,v8]:List BL).length)/\(([v5,v1,v8]:List BL).length<=1000))/\∀ Lk:BL,(Lk∈([v5,v1,v8]:List BL))->(fun v12:List V=>(((aG 1 [sV E4]/\0<v12.length))/\(V.aD v12=false)/\(aG 1 v12)/\((([sV E4]:List V).length+v12.length)*16<=140737488355328))/\∀ R3 RG R8:Nat,((.own 1 (([sV E4]:List V)++v12) R3 RG R8:V)=.own 1 ([E4,Lk].map sV) R3 RG R8)/\((.sl false (V.A8 ([E4,Lk].map sV)):V)=.sl false ([E4,Lk].map sV))/\Z g5 0/\∃ y:List BL×Nat,(y.1.length<=2/\(∀ x,x∈y.1->x.length<=5/\m6 x)/\q<=y.2/\y.2<=q+15)/\E v7/\E v10/\E (iN n)/\E (.ptr (.key 5) [] g5 0)/\Qr g (ar b ((((w4.2+1)+1)+1)+1)) g (ar b y.2)/\Qr g5 (iH (.sl false ([E4,Lk].map sV)) w4.1 (G5*G4)) g5 (ej y.1 w4.1 (G5*G4))/\True) ([sV Lk]:List V))/\((r4 (C7:Int) 0)=false->∃ y:List BL×Nat,(y.1.length<=2/\(∀ x,x∈y.1->x.length<=5/\m6 x)/\q<=y.2/\y.2<=q+15)/\E v7/\E v10/\E (iN n)/\E (.ptr (.key 5) [] g5 0)/\Qr g (ar b (((w4.2+1)+1)+1)) g (ar b y.2)/\Qr g5 (iH (.sl false [sV E4]) w4.1 (G5*G4)) g5 (ej y.1 w4.1 (G5*G4))/\True)/\(∀ y:List BL×Nat,(y.1.length<=2/\(∀ x,x∈y.1->x.length<=5/\m6 x)/\q<=y.2/\y.2<=q+15)->Z g5 1/\Gd (v11==false) (Z g5 2)/\Pk v11 true (v11==false)/\Br (v11||(s9 ((G5*G4:Nat):Int) 0)) (Z g5 0/\((3,3,u,f,k,(e.map bw).length)=(3,3,u,f,k,(e.map bw).length))/\(True)/\(V.aD ([ej y.1 w4.1 (G5*G4)]:List V)=false)/\(aG 3 ([ej y.1 w4.1 (G5*G4)]:List V))/\(((e.map bw).length+([ej y.1 w4.1 (G5*G4)]:List V).length)*56<=140737488355328)/\∀ J9 J7 J':Nat,((.own 3 ((e.map bw)++([ej y.1 w4.1 (G5*G4)]:List V)) J9 J7 J':V)=.own 3 ((e++[(⟨y.1,w4.1,G5*G4⟩:l5)]).map bw) J9 J7 J')/\m8 ((n:Int)-1)/\Q (iV ((n:Int)-1)) (iN (n-1))/\∃ x:Nat×(List l5)×Nat×Nat×Nat×Nat,match x with | (u9,w6,o5,A5,r7,k₂)=>(w6.length+u9<=3/\(∀ y,y∈w6->A9 y)/\p<=o5/\o5+15*u9<=p+50)/\(u9<n)/\E v7/\Q (.own 3 ((e++[(⟨y.1,w4.1,G5*G4⟩:l5)]).map bw) J9 J7 J') (.own 3 (w6.map bw) A5 r7 k₂)/\Q (iN (n-1)) (iN u9)/\Qr g (ar b y.2) g (ar b o5)/\True) (m8 ((n:Int)-1)/\Q (iV ((n:Int)-1)) (iN (n-1))/\∃ x:Nat×(List l5)×Nat×Nat×Nat×Nat,match x with | (u9,w6,o5,A5,r7,k₂)=>(w6.length+u9<=3/\(∀ y,y∈w6->A9 y)/\p<=o5/\o5+15*u9<=p+50)/\(u9<n)/\E v7/\Q v10 (.own 3 (w6.map bw) A5 r7 k₂)/\Q (iN (n-1)) (iN u9)/\Qr g (ar b y.2) g (ar b o5)/\True))) (s9 (((w4.1.map au).length:Nat):Int) 0)) ((aU b q g 24).sm/\Er g (ar b q)/\((b.length<=2000)/\(q<=1000000)/\(24<=1000000))/\∀ D9:Nat,(24=0/\D9=0\/D9<24)->Br (r4 (D9:Int) 0) (((3,3,u,f,k,(e.map bw).length)=(3,3,u,f,k,(e.map bw).length))/\(True)/\(V.aD v2=false)/\(aG 3 v2)/\(((e.map bw).length+v2.length)*56<=140737488355328)/\∀ QD P1 QS:Nat,((.own 3 ((e.map bw)++v2) QD P1 QS:V)=.own 3 ((e++[(⟨[[120]],[],0⟩:l5)]).map bw) QD P1 QS)/\((3,QD,P1,QS,((e++[(⟨[[120]],[],0⟩:l5)]).map bw).length)=(3,QD,P1,QS,((e++[(⟨[[120]],[],0⟩:l5)]).map bw).length))/\((.sl false (V.A8 ((e++[(⟨[[120]],[],0⟩:l5)]).map bw)):V)=aX (e++[(⟨[[120]],[],0⟩:l5)]))/\∃ x:List l5×Nat,(x.1.length<=4/\(∀ y,y∈x.1->A9 y)/\p<=x.2/\x.2<=p+60)/\Q (aX (e++[(⟨[[120]],[],0⟩:l5)])) (aX x.1)/\Qr g v9 g (ar b x.2)) (Br (r4 (D9:Int) 1) (((3,3,u,f,k,(e.map bw).length)=(3,3,u,f,k,(e.map bw).length))/\(True)/\(V.aD v4=false)/\(aG 3 v4)/\(((e.map bw).length+v4.length)*56<=140737488355328)/\∀ QB PZ QQ:Nat,((.own 3 ((e.map bw)++v4) QB PZ QQ:V)=.own 3 ((e++[(⟨[],[],2⟩:l5)]).map bw) QB PZ QQ)/\((3,QB,PZ,QQ,((e++[(⟨[],[],2⟩:l5)]).map bw).length)=(3,QB,PZ,QQ,((e++[(⟨[],[],2⟩:l5)]).map bw).length))/\((.sl false (V.A8 ((e++[(⟨[],[],2⟩:l5)]).map bw)):V)=aX (e++[(⟨[],[],2⟩:l5)]))/\∃ x:List l5×Nat,(x.1.length<=4/\(∀ y,y∈x.1->A9 y)/\p<=x.2/\x.2<=p+60)/\Q (aX (e++[(⟨[],[],2⟩:l5)])) (aX x.1)/\Qr g v9 g (ar b x.2)) (Br (r4 (D9:Int) 2) (((3,3,u,f,k,(e.map bw).length)=(3,3,u,f,k,(e.map bw).length))/\(True)/\(V.aD v3=false)/\(aG 3 v3)/\(((e.map bw).length+v3.length)*56<=140737488355328)/\∀ QA PY QP:Nat,((.own 3 ((e.map bw)++v3) QA PY QP:V)=.own 3 ((e++[(⟨[[88]],[],2⟩:l5)]).map bw) QA PY QP)/\((3,QA,PY,QP,((e++[(⟨[[88]],[],2⟩:l5)]).map bw).length)=(3,QA,PY,QP,((e++[(⟨[[88]],[],2⟩:l5)]).map bw).length))/\((.sl false (V.A8 ((e++[(⟨[[88]],[],2⟩:l5)]).map bw)):V)=aX (e++[(⟨[[88]],[],2⟩:l5)]))/\∃ x:List l5×Nat,(x.1.length<=4/\(∀ y,y∈x.1->A9 y)/\p<=x.2/\x.2<=p+60)/\Q (aX (e++[(⟨[[88]],[],2⟩:l5)])) (aX x.1)/\Qr g v9 g (ar b x.2)) (((3,u,f,k,(e.map bw).length)=(3,u,f,k,(e.map bw).length))/\((.sl false (V.A8 (e.map bw)):V)=aX e)/\∃ x:List l5×Nat,(x.1.length<=4/\(∀ y,y∈x.1->A9 y)/\p<=x.2/\x.2<=p+60)/\Q (aX e) (aX x.1)/\Qr g v9 g (ar b x.2)))))) (.own 3 (e.map bw) u f k)) (ar b (q+1)))) ([120]:BL)) (.ptr (.key 1000) [] g 0)) ([115,99,111,117,116]:BL)) ([42]:BL)) ([.agg [.sl false ([].map sV),.sl false ([].map au),iN 2]]:List V)) ([.agg [.sl false ([[88]].map sV),.sl false ([].map au),iN 2]]:List V)) ([.agg [.sl false ([[120]].map sV),.sl false ([].map au),iN 0]]:List V)) ([114,111,118,101,114]:BL))
  (by kernel_rfl) ?_
 refine⟨rfl,rfl,⟨by omega,by omega,by omega⟩,?_⟩
 intro r9 KY
 refine⟨⟨(r9,[],p+1,0,0,0),?_,rfl,rfl,rfl,rfl,trivial⟩,?_⟩
 simp;omega
 rintro⟨n,e,q,u,f,k⟩ ⟨h1,h2,h3,h4⟩
 refine⟨fun j7=>?_,fun j7=>?_⟩
 try simp only[nb]at j7
 refine⟨rfl,rfl,⟨by omega,by omega,by simp,by simp⟩,?_⟩
 intro E4 Mu
 refine⟨rfl,rfl,⟨by omega,by omega⟩,?_⟩
 intro w4 Ni
 refine⟨rfl,rfl,⟨by omega,by omega,by omega⟩,?_⟩
 intro G5 VN
 refine⟨rfl,rfl,⟨by omega,by omega,by omega⟩,?_⟩
 intro G4 VM
 refine⟨by have:=Nat.mul_le_mul (show G5<=3 by omega) (show G4<=2 by omega);omega,?_⟩
 intro g5
 refine⟨rfl,rfl,rfl,⟨by omega,by omega,by omega⟩,?_⟩
 intro C7 Ol
 refine⟨fun j9=>?_,fun j9=>?_,fun y hy=>?_⟩
 try simp only[nb]at j9
 refine⟨rfl,rfl,rfl,⟨by omega,by omega,by simp,by simp⟩,?_⟩
 intro Lk Qg
 refine⟨⟨⟨by simp[aG,V.n,V.ns],by simp⟩,rfl,by simp[aG,V.n,V.ns],by simp⟩,?_⟩
 intro R3 RG R8
 refine⟨congrArg (V.own 1 · R3 RG R8) (by simp),congrArg (V.sl false) (aL (fun _=>rfl) _),rfl,?_⟩
 exact⟨([E4,Lk],(((w4.2+1)+1)+1)+1),⟨by simp,fun x hx=>(List.mem_cons.1 hx).elim (fun h=>h ▸ ⟨bz rfl Mu,dg rfl Mu⟩) fun h=>List.mem_singleton.1 h ▸ ⟨bz rfl Qg,dg rfl Qg⟩,by omega,by omega⟩,rfl,rfl,rfl,rfl,by first | rfl | simp | (simp;omega),by first | rfl | simp | (simp;omega),trivial⟩
 try simp only[nb]at j9
 exact⟨([E4],((w4.2+1)+1)+1),⟨by simp,fun x hx=>List.mem_singleton.1 hx ▸ ⟨bz rfl Mu,dg rfl Mu⟩,by omega,by omega⟩,rfl,rfl,rfl,rfl,by first | rfl | simp | (simp;omega),by first | rfl | simp | (simp;omega),trivial⟩
 refine⟨rfl,fun hG=>rfl,⟨fun _=>rfl,fun h=>by rw[h] <;> rfl⟩,?_⟩
 refine⟨fun l8=>?_,fun l8=>?_⟩
 try simp only[nb]at l8
 refine⟨rfl,rfl,trivial,rfl,by simp[aG,V.n,V.ns],by simp;omega,?_⟩
 intro J9 J7 J'
 refine⟨congrArg (V.own 3 · J9 J7 J') (by simp),by omega,by simp[Q];omega,?_⟩
 refine⟨(n-1,e++[(⟨y.1,w4.1,G5*G4⟩:l5)],y.2,J9,J7,J'),?_,?_,rfl,rfl,rfl,rfl,trivial⟩
 refine⟨by simp;omega,fE h2 ⟨hy.1,fun x hx=>(hy.2.1 x hx).1,Ni.1,Ni.2.1,?_,fun x hx=>(hy.2.1 x hx).2⟩,by omega,by omega⟩
 exact Nat.mul_le_mul (show G5<=3 by omega) (show G4<=2 by omega)
 first | (solve | simp) | omega | (simp;omega)
 try simp only[nb]at l8
 refine⟨by omega,by simp[Q];omega,?_⟩
 refine⟨(n-1,e,y.2,u,f,k),?_,?_,rfl,rfl,rfl,rfl,trivial⟩
 exact⟨by omega,h2,by omega,by omega⟩
 first | (solve | simp) | omega | (simp;omega)
 try simp only[nb]at j7
 refine⟨rfl,rfl,⟨by omega,by omega,by omega⟩,?_⟩
 intro D9 E1
 refine⟨fun o4=>?_,fun o4=>?_⟩
 try simp only[nb]at o4
 refine⟨rfl,trivial,rfl,by simp[aG,V.n,V.ns],by simp;omega,?_⟩
 intro QD P1 QS
 refine⟨congrArg (V.own 3 · QD P1 QS) (by simp),rfl,congrArg (V.sl false) (aL (fun _=>rfl) _),?_⟩
 refine⟨(e++[(⟨[[120]],[],0⟩:l5)],q+1),?_,?_,?_⟩
 try dsimp only
 exact⟨by simp;omega,fE h2 ⟨by simp,by simp,by simp,by simp,by simp,by first | (solve | simp) | (intro x hx;rw[List.mem_singleton.1 hx];exact bh rfl)⟩,by omega,by omega⟩
 first | rfl | simp_all
 first | rfl | exact⟨rfl,rfl⟩ | simp_all
 try simp only[nb]at o4
 refine⟨fun x4=>?_,fun x4=>?_⟩
 try simp only[nb]at x4
 refine⟨rfl,trivial,rfl,by simp[aG,V.n,V.ns],by simp;omega,?_⟩
 intro QB PZ QQ
 refine⟨congrArg (V.own 3 · QB PZ QQ) (by simp),rfl,congrArg (V.sl false) (aL (fun _=>rfl) _),?_⟩
 refine⟨(e++[(⟨[],[],2⟩:l5)],q+1),?_,?_,?_⟩
 try dsimp only
 exact⟨by simp;omega,fE h2 ⟨by simp,by simp,by simp,by simp,by simp,by first | (solve | simp) | (intro x hx;rw[List.mem_singleton.1 hx];exact bh rfl)⟩,by omega,by omega⟩
 first | rfl | simp_all
 first | rfl | exact⟨rfl,rfl⟩ | simp_all
 try simp only[nb]at x4
 refine⟨fun E'=>?_,fun E'=>?_⟩
 try simp only[nb]at E'
 refine⟨rfl,trivial,rfl,by simp[aG,V.n,V.ns],by simp;omega,?_⟩
 intro QA PY QP
 refine⟨congrArg (V.own 3 · QA PY QP) (by simp),rfl,congrArg (V.sl false) (aL (fun _=>rfl) _),?_⟩
 refine⟨(e++[(⟨[[88]],[],2⟩:l5)],q+1),?_,?_,?_⟩
 try dsimp only
 exact⟨by simp;omega,fE h2 ⟨by simp,by simp,by simp,by simp,by simp,by first | (solve | simp) | (intro x hx;rw[List.mem_singleton.1 hx];exact bh rfl)⟩,by omega,by omega⟩
 first | rfl | simp_all
 first | rfl | exact⟨rfl,rfl⟩ | simp_all
 try simp only[nb]at E'
 refine⟨rfl,congrArg (V.sl false) (aL (fun _=>rfl) _),?_⟩
 refine⟨(e,q+1),?_,?_,?_⟩
 try dsimp only
 exact⟨by omega,h2,by omega,by omega⟩
 first | rfl | simp_all
 first | rfl | exact⟨rfl,rfl⟩ | simp_all)
def dS(b:BL)(p:Nat)(g:Nat):F8 Tryz.prog:=.mk (BL×Nat) 66 [.ptr (.key 1000) [] g 0] [(1000,(g,ar b p))] ((b.length<=2000)/\(p<=900000)) (fun x=>x.1.length<=25/\p<=x.2/\x.2<=p+6/\m6 x.1) (fun x=>sV x.1) (fun x=>[(1000,(g,ar b x.2))]) (by
 rintro⟨hb,hp⟩
 refine eG (N:=35) (rs:=[.tmp 2]) (X:=BL×Nat) (post:=fun x=>x.1.length<=25/\p<=x.2/\x.2<=p+6/\m6 x.1) (E:=fun x=>sV x.1) (H':=fun x=>[(1000,(g,.agg [.sl false (b.map n7),iN x.2]))]) Tryz.func66 (by kernel_rfl) rfl rfl rfl (by kernel_rfl) [(1000,(0,.b9))] (by intro _ k hk;simpa[lk] using hk)
  (.q 1<|.c (kj) []<|.q 1<|.cx (aU b p g 4) [(1000,1000)] (fun (y8:Nat)=>.r 2 [sV (aM.getD y8 [])]<|.bd cy<|.al cy (fun g3=>.st none<|.q 1<|.cx (aU b (p+1) g 3) [(1000,1000)] (fun (r9:Nat)=>.q 1<|.h (.A3 (.key 3) [1] 1)<|.loop (Nat×(List BL)×Nat×Nat×Nat×Nat) (fun (n,e,q,u,f,k)=>⟨[(0,.ptr (.key 1000) [] g 0),(3,.ptr (.key 3) [] g3 0),(4,iN n)],[(1000,(g,ar b q)),(3,(g3,.agg [sV (aM.getD y8 []),.own 1 (e.map sV) u f k,bV false,sV []]))]⟩) (fun (n,e,q,u,f,k)=>e.length+n<=2/\(∀ y,y∈e->y.length<=6/\m6 y)/\p<=q/\q+n<=p+4) (fun (n,e,q,u,f,k)=>n) (fun (n,e,q,u,f,k)=>.q 2<|.br (.dx 7 [0,1,2,3,4,5,6] [(1,⟨false,[],some [3],[18],[]⟩),(4,⟨true,[],some [1000],[21],[1000]⟩),(6,⟨true,[],none,[23],[3]⟩)] []<|.q 1<|.r 1 [.b9]<|.q 1<|.bs<|.cx (eD b q g ([([97]:BL),([98]:BL),([99]:BL),([110,111,116,105,99,101]:BL)]:List BL)) [(1000,1000)] (fun (Me:BL)=>.bs<|.ux none (fun g23 Mr MN=>.h (.o9 23 (.own 1 ((e++[Me]).map sV) g23 Mr MN))<|.q 1<|.st none<|.q 2<|.h (.o9 16 (iN (n-1)))<|.q 1<|.nil))) (.q 1<|.cx (aU b q g 8) [(1000,1000)] (fun (C7:Nat)=>.q 1<|.br (.q 1<|.st none<|.q 1<|.bs<|.cx (eD b (q+1) g ([[],([97]:BL),([98,37,51,68]:BL)]:List BL)) [(1000,1000)] (fun (J5:BL)=>.q 1<|.st none<|.mv<|.h (.fz 33)<|.h (.o9 33 (.agg [sV (aM.getD y8 []),ax e,bV true,sV J5]))<|.c (hZ (⟨(aM.getD y8 []),e,true,J5⟩:s5)) []<|.q 1<|.nil)) (.mv<|.h (.fz 33)<|.h (.o9 33 (.agg [sV (aM.getD y8 []),ax e,bV false,sV []]))<|.c (hZ (⟨(aM.getD y8 []),e,false,[]⟩:s5)) []<|.q 1<|.nil))))))))
  ((fun v1:BL=>(fun v2:BL=>(fun v3:BL=>(fun v4:BL=>(fun v5:BL=>((kj).sm/\(True)/\(aU b p g 4).sm/\Er g (ar b p)/\((b.length<=2000)/\(p<=1000000)/\(4<=1000000))/\∀ y8:Nat,(4=0/\y8=0\/y8<4)->Ex (y8:Int) (aM.map sV) (sV (aM.getD y8 []))/\True/\∀ g3:Nat,Z g3 0/\(aU b (p+1) g 3).sm/\Er g (ar b (p+1))/\((b.length<=2000)/\((p+1)<=1000000)/\(3<=1000000))/\∀ r9:Nat,(3=0/\r9=0\/r9<3)->(∃ x:Nat×(List BL)×Nat×Nat×Nat×Nat,match x with | (I8,C9,y9,G6,y7,r6)=>(C9.length+I8<=2/\(∀ y,y∈C9->y.length<=6/\m6 y)/\p<=y9/\y9+I8<=p+4)/\E (.ptr (.key 1000) [] g 0)/\E (.ptr (.key 3) [] g3 0)/\Q (iN r9) (iN I8)/\Qr g (ar b ((p+1)+1)) g (ar b y9)/\Qr g3 (.agg [sV (aM.getD y8 []),.own 1 ([].map sV) 0 0 0,bV false,sV []]) g3 (.agg [sV (aM.getD y8 []),.own 1 (C9.map sV) G6 y7 r6,bV false,sV []])/\True)/\∀ x:Nat×(List BL)×Nat×Nat×Nat×Nat,match x with | (n,e,q,u,f,k)=>(e.length+n<=2/\(∀ y,y∈e->y.length<=6/\m6 y)/\p<=q/\q+n<=p+4)->Br (s9 (n:Int) 0) (Z g3 1/\(eD b q g ([v2,v4,v5,v1]:List BL)).sm/\Er g (ar b q)/\((b.length<=2000)/\(q<=1000000)/\(1<=([v2,v4,v5,v1]:List BL).length)/\(([v2,v4,v5,v1]:List BL).length<=1000))/\∀ Me:BL,(Me∈([v2,v4,v5,v1]:List BL))->(fun v6:List V=>(((1,1,u,f,k,(e.map sV).length)=(1,1,u,f,k,(e.map sV).length))/\(V.aD v6=false)/\(aG 1 v6)/\(((e.map sV).length+v6.length)*16<=140737488355328))/\∀ g23 Mr MN:Nat,((.own 1 ((e.map sV)++v6) g23 Mr MN:V)=.own 1 ((e++[Me]).map sV) g23 Mr MN)/\Z g3 1/\m8 ((n:Int)-1)/\Q (iV ((n:Int)-1)) (iN (n-1))/\∃ x:Nat×(List BL)×Nat×Nat×Nat×Nat,match x with | (u9,w6,o5,A5,r7,k₂)=>(w6.length+u9<=2/\(∀ y,y∈w6->y.length<=6/\m6 y)/\p<=o5/\o5+u9<=p+4)/\(u9<n)/\E (.ptr (.key 1000) [] g 0)/\E (.ptr (.key 3) [] g3 0)/\Q (iN (n-1)) (iN u9)/\Qr g (ar b (q+1)) g (ar b o5)/\Qr g3 (.agg [sV (aM.getD y8 []),.own 1 ((e++[Me]).map sV) g23 Mr MN,bV false,sV []]) g3 (.agg [sV (aM.getD y8 []),.own 1 (w6.map sV) A5 r7 k₂,bV false,sV []])/\True) ([sV Me]:List V)) ((aU b q g 8).sm/\Er g (ar b q)/\((b.length<=2000)/\(q<=1000000)/\(8<=1000000))/\∀ C7:Nat,(8=0/\C7=0\/C7<8)->Br (r4 (C7:Int) 0) (Z g3 2/\(eD b (q+1) g ([[],v2,v3]:List BL)).sm/\Er g (ar b (q+1))/\((b.length<=2000)/\((q+1)<=1000000)/\(1<=([[],v2,v3]:List BL).length)/\(([[],v2,v3]:List BL).length<=1000))/\∀ J5:BL,(J5∈([[],v2,v3]:List BL))->Z g3 3/\Z g3 0/\((.agg [sV (aM.getD y8 []),.sl false (V.A8 (e.map sV)),bV true,sV J5]:V)=.agg [sV (aM.getD y8 []),ax e,bV true,sV J5])/\(hZ (⟨(aM.getD y8 []),e,true,J5⟩:s5)).sm/\((dz (⟨(aM.getD y8 []),e,true,J5⟩:s5)))/\∃ x:BL×Nat,(x.1.length<=25/\p<=x.2/\x.2<=p+6/\m6 x.1)/\Q (sV (bf (⟨(aM.getD y8 []),e,true,J5⟩:s5))) (sV x.1)/\Qr g (ar b ((q+1)+1)) g (ar b x.2)) (Z g3 0/\((.agg [sV (aM.getD y8 []),.sl false (V.A8 (e.map sV)),bV false,sV []]:V)=.agg [sV (aM.getD y8 []),ax e,bV false,sV []])/\(hZ (⟨(aM.getD y8 []),e,false,[]⟩:s5)).sm/\((dz (⟨(aM.getD y8 []),e,false,[]⟩:s5)))/\∃ x:BL×Nat,(x.1.length<=25/\p<=x.2/\x.2<=p+6/\m6 x.1)/\Q (sV (bf (⟨(aM.getD y8 []),e,false,[]⟩:s5))) (sV x.1)/\Qr g (ar b (q+1)) g (ar b x.2))))) ([99]:BL)) ([98]:BL)) ([98,37,51,68]:BL)) ([97]:BL)) ([110,111,116,105,99,101]:BL))
  (by kernel_rfl) ?_
 refine⟨rfl,trivial,rfl,rfl,⟨by omega,by omega,by omega⟩,?_⟩
 intro y8 Nk
 refine⟨DV (by show _<4;omega),trivial,?_⟩
 intro g3
 refine⟨rfl,rfl,rfl,⟨by omega,by omega,by omega⟩,?_⟩
 intro r9 KY
 refine⟨⟨(r9,[],p+1+1,0,0,0),?_,rfl,rfl,rfl,by first | rfl | simp | (simp;omega),rfl,trivial⟩,?_⟩
 simp;omega
 rintro⟨n,e,q,u,f,k⟩ ⟨h1,h2,h3,h4⟩
 refine⟨fun j7=>?_,fun j7=>?_⟩
 try simp only[nb]at j7
 refine⟨rfl,rfl,rfl,⟨by omega,by omega,by simp,by simp⟩,?_⟩
 intro Me Qi
 refine⟨⟨rfl,rfl,by simp[aG,V.n,V.ns],by simp;omega⟩,?_⟩
 intro g23 Mr MN
 refine⟨congrArg (V.own 1 · g23 Mr MN) (by simp),rfl,by omega,by simp[Q];omega,?_⟩
 refine⟨(n-1,e++[Me],q+1,g23,Mr,MN),?_,?_,rfl,rfl,rfl,rfl,rfl,trivial⟩
 exact⟨by simp;omega,fE h2 ⟨bz rfl Qi,dg rfl Qi⟩,by omega,by omega⟩
 first | (solve | simp) | omega | (simp;omega)
 try simp only[nb]at j7
 refine⟨rfl,rfl,⟨by omega,by omega,by omega⟩,?_⟩
 intro C7 Ol
 refine⟨fun j9=>?_,fun j9=>?_⟩
 try simp only[nb]at j9
 refine⟨rfl,rfl,rfl,⟨by omega,by omega,by simp,by simp⟩,?_⟩
 intro J5 LP
 refine⟨rfl,rfl,by simp only[aL (f:=sV) (fun _=>rfl)],rfl,(mc (cC rfl _) (by simp only;omega) (fun x hx=>(h2 x hx).1) (by first | exact bz rfl LP | simp)).1,?_⟩
 refine⟨(bf (⟨(aM.getD y8 []),e,true,J5⟩:s5),(q+1)+1),?_,?_,?_⟩
 try dsimp only
 exact⟨(mc (cC rfl _) (by simp only;omega) (fun x hx=>(h2 x hx).1) (bz rfl LP)).2,by omega,by omega,yp (dF rfl _) (fun x hx=>(h2 x hx).2) (dg rfl LP)⟩
 first | rfl | simp_all
 first | rfl | exact⟨rfl,rfl⟩ | simp_all
 try simp only[nb]at j9
 refine⟨rfl,by simp only[aL (f:=sV) (fun _=>rfl)],rfl,(mc (cC rfl _) (by simp only;omega) (fun x hx=>(h2 x hx).1) (by first | exact bz rfl LP | simp)).1,?_⟩
 refine⟨(bf (⟨(aM.getD y8 []),e,false,[]⟩:s5),q+1),?_,?_,?_⟩
 try dsimp only
 exact⟨(mc (cC rfl _) (by simp only;omega) (fun x hx=>(h2 x hx).1) (by simp)).2,by omega,by omega,yp (dF rfl _) (fun x hx=>(h2 x hx).2) aT⟩
 first | rfl | simp_all
 first | rfl | exact⟨rfl,rfl⟩ | simp_all)
def fB(b:BL)(p:Nat)(g:Nat):F8 Tryz.prog:=.mk (BL×Nat) 96 [.ptr (.key 1000) [] g 0] [(1000,(g,ar b p))] ((b.length<=2000)/\(p<=890000)) (fun x=>x.1.length<=25/\p<=x.2/\x.2<=p+7/\m6 x.1) (fun x=>sV x.1) (fun x=>[(1000,(g,ar b x.2))]) (by
 rintro⟨hb,hp⟩
 refine eG (N:=34) (rs:=[.tmp 2]) (X:=BL×Nat) (post:=fun x=>x.1.length<=25/\p<=x.2/\x.2<=p+7/\m6 x.1) (E:=fun x=>sV x.1) (H':=fun x=>[(1000,(g,.agg [.sl false (b.map n7),iN x.2]))]) Tryz.func96 (by kernel_rfl) rfl rfl rfl (by kernel_rfl) [(1000,(0,.b9))] (by intro _ k hk;simpa[lk] using hk)
  (.q 1<|.q 1<|.cx (aU b p g 8) [(1000,1000)] (fun (l3:Nat)=>.q 2<|.join (Bool) (fun c=>⟨[(0,.ptr (.key 1000) [] g 0),(4,iN l3),(5,bV c)],[(1000,(g,ar b (p+1)))]⟩) (fun c=>True) (.nil) (.q 2<|.nil) (fun c=>.br (.q 1<|.cx (dS b (p+1) g) [(1000,1000)] (fun (H2:BL×Nat)=>.q 1<|.nil)) (.q 2<|.br (.q 1<|.bs<|.cx (eD b (p+1) g ([([97]:BL),([98]:BL),([97,47,98]:BL),([99,47,46,46,47,98]:BL),[],([120,47,46,47,99]:BL)]:List BL)) [(1000,1000)] (fun (Nt:BL)=>.q 2<|.nil)) (.q 2<|.br (.q 1<|.bs<|.cx (eD b (p+1) g ([([46,46]:BL),([46,46,47,99]:BL),([46,46,47,46,46,47,46,46]:BL),([46]:BL),([46,47,97]:BL)]:List BL)) [(1000,1000)] (fun (J5:BL)=>.q 1<|.nil)) (.q 2<|.br (.q 1<|.bs<|.cx (eD b (p+1) g ([([63,97]:BL),([63]:BL),([35,116,111,112]:BL),[],([97,35,98]:BL),([98,63,97]:BL)]:List BL)) [(1000,1000)] (fun (Mj:BL)=>.q 1<|.nil)) (.q 2<|.br (.q 1<|.bs<|.cx (eD b (p+1) g ([([47,47,65,66,47,97]:BL),([47,47,99,100]:BL),([47,47,99,100,63,120]:BL),([47,47,97,98,47,37,54,49]:BL),([47,47,116,111,111,108,111,110,103,47,97]:BL),([47,47,97,49,47,98]:BL),([47,47,47,97]:BL)]:List BL)) [(1000,1000)] (fun (Mi:BL)=>.q 1<|.nil)) (.q 1<|.bs<|.cx (eD b (p+1) g ([([97]:BL),([98]:BL),([99]:BL),([97,47,98]:BL)]:List BL)) [(1000,1000)] (fun (Mh:BL)=>.q 1<|.nil)))))))))
  ((fun v1:BL=>(fun v2:BL=>(fun v3:BL=>(fun v4:BL=>(fun v5:BL=>(fun v6:BL=>(fun v7:BL=>(fun v8:BL=>(fun v9:BL=>(fun v10:BL=>(fun v11:BL=>(fun v12:BL=>(fun Ld:V=>(fun MQ:BL=>(fun N5:BL=>(fun O2:BL=>(fun PS:V=>(fun Tu:BL=>(fun Tt:BL=>(fun v20:BL=>(fun v21:BL=>(fun v22:BL=>(fun Ts:BL=>(fun v24:BL=>(fun Tr:BL=>((aU b p g 8).sm/\Er g (ar b p)/\((b.length<=2000)/\(p<=1000000)/\(8<=1000000))/\∀ l3:Nat,(8=0/\l3=0\/l3<8)->((r4 (l3:Int) 0)=true->∃ c:Bool,(True)/\E (.ptr (.key 1000) [] g 0)/\E (iN l3)/\Q (bV (r4 (l3:Int) 0)) (bV c)/\Er g Ld/\True)/\((r4 (l3:Int) 0)=false->∃ c:Bool,(True)/\E (.ptr (.key 1000) [] g 0)/\E (iN l3)/\Q (bV (r4 (l3:Int) 1)) (bV c)/\Er g Ld/\True)/\(∀ c:Bool,(True)->Br c ((dS b (p+1) g).sm/\Er g Ld/\((b.length<=2000)/\((p+1)<=900000))/\∀ H2:BL×Nat,(H2.1.length<=25/\(p+1)<=H2.2/\H2.2<=(p+1)+6/\m6 H2.1)->∃ x:BL×Nat,(x.1.length<=25/\p<=x.2/\x.2<=p+7/\m6 x.1)/\Q (sV H2.1) (sV x.1)/\Qr g (ar b H2.2) g (ar b x.2)) (Br (r4 (l3:Int) 2) ((eD b (p+1) g ([v6,v7,v2,v8,[],v11]:List BL)).sm/\Er g Ld/\((b.length<=2000)/\((p+1)<=1000000)/\(1<=([v6,v7,v2,v8,[],v11]:List BL).length)/\(([v6,v7,v2,v8,[],v11]:List BL).length<=1000))/\∀ Nt:BL,(Nt∈([v6,v7,v2,v8,[],v11]:List BL))->(([47]:BL).length+Nt.length<=4611686018427387904)/\∃ x:BL×Nat,(x.1.length<=25/\p<=x.2/\x.2<=p+7/\m6 x.1)/\Q (sV (([47]:BL)++Nt)) (sV x.1)/\Qr g PS g (ar b x.2)) (Br (r4 (l3:Int) 3) ((eD b (p+1) g ([v21,N5,v3,Ts,Tu]:List BL)).sm/\Er g Ld/\((b.length<=2000)/\((p+1)<=1000000)/\(1<=([v21,N5,v3,Ts,Tu]:List BL).length)/\(([v21,N5,v3,Ts,Tu]:List BL).length<=1000))/\∀ J5:BL,(J5∈([v21,N5,v3,Ts,Tu]:List BL))->∃ x:BL×Nat,(x.1.length<=25/\p<=x.2/\x.2<=p+7/\m6 x.1)/\Q (sV J5) (sV x.1)/\Qr g PS g (ar b x.2)) (Br (r4 (l3:Int) 4) ((eD b (p+1) g ([v22,v24,v12,[],Tt,v20]:List BL)).sm/\Er g Ld/\((b.length<=2000)/\((p+1)<=1000000)/\(1<=([v22,v24,v12,[],Tt,v20]:List BL).length)/\(([v22,v24,v12,[],Tt,v20]:List BL).length<=1000))/\∀ Mj:BL,(Mj∈([v22,v24,v12,[],Tt,v20]:List BL))->∃ x:BL×Nat,(x.1.length<=25/\p<=x.2/\x.2<=p+7/\m6 x.1)/\Q (sV Mj) (sV x.1)/\Qr g PS g (ar b x.2)) (Br (r4 (l3:Int) 5) ((eD b (p+1) g ([v9,MQ,v5,v4,v1,v10,O2]:List BL)).sm/\Er g Ld/\((b.length<=2000)/\((p+1)<=1000000)/\(1<=([v9,MQ,v5,v4,v1,v10,O2]:List BL).length)/\(([v9,MQ,v5,v4,v1,v10,O2]:List BL).length<=1000))/\∀ Mi:BL,(Mi∈([v9,MQ,v5,v4,v1,v10,O2]:List BL))->∃ x:BL×Nat,(x.1.length<=25/\p<=x.2/\x.2<=p+7/\m6 x.1)/\Q (sV Mi) (sV x.1)/\Qr g PS g (ar b x.2)) ((eD b (p+1) g ([v6,v7,Tr,v2]:List BL)).sm/\Er g Ld/\((b.length<=2000)/\((p+1)<=1000000)/\(1<=([v6,v7,Tr,v2]:List BL).length)/\(([v6,v7,Tr,v2]:List BL).length<=1000))/\∀ Mh:BL,(Mh∈([v6,v7,Tr,v2]:List BL))->∃ x:BL×Nat,(x.1.length<=25/\p<=x.2/\x.2<=p+7/\m6 x.1)/\Q (sV Mh) (sV x.1)/\Qr g PS g (ar b x.2))))))))) ([99]:BL)) ([63]:BL)) ([46]:BL)) ([63,97]:BL)) ([46,46]:BL)) ([98,63,97]:BL)) ([97,35,98]:BL)) ([46,47,97]:BL)) (ar b ((p+1)+1))) ([47,47,47,97]:BL)) ([46,46,47,99]:BL)) ([47,47,99,100]:BL)) (ar b (p+1))) ([35,116,111,112]:BL)) ([120,47,46,47,99]:BL)) ([47,47,97,49,47,98]:BL)) ([47,47,65,66,47,97]:BL)) ([99,47,46,46,47,98]:BL)) ([98]:BL)) ([97]:BL)) ([47,47,99,100,63,120]:BL)) ([47,47,97,98,47,37,54,49]:BL)) ([46,46,47,46,46,47,46,46]:BL)) ([97,47,98]:BL)) ([47,47,116,111,111,108,111,110,103,47,97]:BL))
  (by kernel_rfl) ?_
 refine⟨rfl,rfl,⟨by omega,by omega,by omega⟩,?_⟩
 intro l3 G7
 refine⟨fun j7=>?_,fun j7=>?_,fun c hc=>?_⟩
 try simp only[nb]at j7
 exact⟨r4 (l3:Int) 0,trivial,rfl,rfl,rfl,rfl,trivial⟩
 try simp only[nb]at j7
 exact⟨r4 (l3:Int) 1,trivial,rfl,rfl,rfl,rfl,trivial⟩
 refine⟨fun j9=>?_,fun j9=>?_⟩
 · try simp only[nb]at j9
   refine⟨rfl,rfl,⟨by omega,by omega⟩,?_⟩
   intro H2 SE
   refine⟨(H2.1,H2.2),?_,?_,?_⟩
   · try dsimp only
     exact⟨by omega,by omega,by omega,by(try dsimp only);repeat (first | assumption | exact aT | exact bh rfl | exact dg rfl (by assumption) | exact m6.drop (by apply And.right;apply And.right;apply And.right;assumption) _ | (apply And.right;apply And.right;apply And.right;assumption) | apply m6.app)⟩
   first | rfl | simp_all
   first | rfl | exact⟨rfl,rfl⟩ | simp_all
 · try simp only[nb]at j9
   refine⟨fun l8=>?_,fun l8=>?_⟩
   · try simp only[nb]at l8
     refine⟨rfl,rfl,⟨by omega,by omega,by simp,by simp⟩,?_⟩
     intro Nt Qh
     refine⟨by(try have:=bz (n:=11) rfl Qh);(try simp only[List.length_append,List.length_cons,List.length_nil]);omega,?_⟩
     refine⟨(([47]:BL)++Nt,(p+1)+1),?_,?_,?_⟩
     · try dsimp only
       have:=bz (n:=11) rfl Qh
       exact⟨by first | omega | (simp;omega),by omega,by omega,by(try dsimp only);repeat (first | assumption | exact aT | exact bh rfl | exact dg rfl (by assumption) | exact m6.drop (by apply And.right;apply And.right;apply And.right;assumption) _ | (apply And.right;apply And.right;apply And.right;assumption) | apply m6.app)⟩
     first | rfl | simp_all
     first | rfl | exact⟨rfl,rfl⟩ | simp_all
   · try simp only[nb]at l8
     refine⟨fun o4=>?_,fun o4=>?_⟩
     · try simp only[nb]at o4
       refine⟨rfl,rfl,⟨by omega,by omega,by simp,by simp⟩,?_⟩
       intro J5 LP
       refine⟨(J5,(p+1)+1),?_,?_,?_⟩
       · try dsimp only
         have:=bz (n:=11) rfl LP
         exact⟨by first | omega | (simp;omega),by omega,by omega,by(try dsimp only);repeat (first | assumption | exact aT | exact bh rfl | exact dg rfl (by assumption) | exact m6.drop (by apply And.right;apply And.right;apply And.right;assumption) _ | (apply And.right;apply And.right;apply And.right;assumption) | apply m6.app)⟩
       first | rfl | simp_all
       first | rfl | exact⟨rfl,rfl⟩ | simp_all
     · try simp only[nb]at o4
       refine⟨fun x4=>?_,fun x4=>?_⟩
       · try simp only[nb]at x4
         refine⟨rfl,rfl,⟨by omega,by omega,by simp,by simp⟩,?_⟩
         intro Mj Q9
         refine⟨(Mj,(p+1)+1),?_,?_,?_⟩
         · try dsimp only
           have:=bz (n:=11) rfl Q9
           exact⟨by first | omega | (simp;omega),by omega,by omega,by(try dsimp only);repeat (first | assumption | exact aT | exact bh rfl | exact dg rfl (by assumption) | exact m6.drop (by apply And.right;apply And.right;apply And.right;assumption) _ | (apply And.right;apply And.right;apply And.right;assumption) | apply m6.app)⟩
         first | rfl | simp_all
         first | rfl | exact⟨rfl,rfl⟩ | simp_all
       · try simp only[nb]at x4
         refine⟨fun E'=>?_,fun E'=>?_⟩
         · try simp only[nb]at E'
           refine⟨rfl,rfl,⟨by omega,by omega,by simp,by simp⟩,?_⟩
           intro Mi Q8
           refine⟨(Mi,(p+1)+1),?_,?_,?_⟩
           · try dsimp only
             have:=bz (n:=11) rfl Q8
             exact⟨by first | omega | (simp;omega),by omega,by omega,by(try dsimp only);repeat (first | assumption | exact aT | exact bh rfl | exact dg rfl (by assumption) | exact m6.drop (by apply And.right;apply And.right;apply And.right;assumption) _ | (apply And.right;apply And.right;apply And.right;assumption) | apply m6.app)⟩
           first | rfl | simp_all
           first | rfl | exact⟨rfl,rfl⟩ | simp_all
         · try simp only[nb]at E'
           refine⟨rfl,rfl,⟨by omega,by omega,by simp,by simp⟩,?_⟩
           intro Mh Q7
           refine⟨(Mh,(p+1)+1),?_,?_,?_⟩
           · try dsimp only
             have:=bz (n:=11) rfl Q7
             exact⟨by first | omega | (simp;omega),by omega,by omega,by(try dsimp only);repeat (first | assumption | exact aT | exact bh rfl | exact dg rfl (by assumption) | exact m6.drop (by apply And.right;apply And.right;apply And.right;assumption) _ | (apply And.right;apply And.right;apply And.right;assumption) | apply m6.app)⟩
           first | rfl | simp_all
           first | rfl | exact⟨rfl,rfl⟩ | simp_all)
def uI(b:BL)(p:Nat)(g:Nat):F8 Tryz.prog:=.mk (BL×Nat) 67 [.ptr (.key 1000) [] g 0] [(1000,(g,ar b p))] ((b.length<=2000)/\(p<=880000)) (fun x=>x.1.length<=240/\p<=x.2/\x.2<=p+70/\m6 x.1) (fun x=>sV x.1) (fun x=>[(1000,(g,ar b x.2))]) (by
 rintro⟨hb,hp⟩
 refine eG (N:=55) (rs:=[.tmp 2]) (X:=BL×Nat) (post:=fun x=>x.1.length<=240/\p<=x.2/\x.2<=p+70/\m6 x.1) (E:=fun x=>sV x.1) (H':=fun x=>[(1000,(g,.agg [.sl false (b.map n7),iN x.2]))]) Tryz.func67 (by kernel_rfl) rfl rfl rfl (by kernel_rfl) [(1000,(0,.b9))] (by intro _ k hk;simpa[lk] using hk)
  (.q 1<|.q 1<|.q 1<|.cx (aU b p g 5) [(1000,1000)] (fun (r9:Nat)=>.q 1<|.loop (Nat×BL×Nat) (fun (n,o,q)=>⟨[(0,.ptr (.key 1000) [] g 0),(3,sV o),(4,iN n)],[(1000,(g,ar b q))]⟩) (fun (n,o,q)=>o.length+60*n<=240/\p<=q/\q+16*n<=p+66/\m6 o) (fun (n,o,q)=>n) (fun (n,o,q)=>.q 2<|.br (.q 1<|.cx (aU b q g 9) [(1000,1000)] (fun (Mf:Nat)=>.q 2<|.br (.q 3<|.cx (fB b (q+1) g) [(1000,1000)] (fun (I6:BL×Nat)=>.q 3<|.cx (fB b I6.2 g) [(1000,1000)] (fun (K5:BL×Nat)=>.q 3<|.q 2<|.h (.o9 10 (iN (n-1)))<|.q 1<|.nil))) (.q 2<|.br (.q 3<|.cx (fB b (q+1) g) [(1000,1000)] (fun (I1:BL×Nat)=>.q 3<|.q 2<|.h (.o9 10 (iN (n-1)))<|.q 1<|.nil)) (.q 2<|.br (.q 3<|.cx (fB b (q+1) g) [(1000,1000)] (fun (I0:BL×Nat)=>.q 3<|.q 2<|.h (.o9 10 (iN (n-1)))<|.q 1<|.nil)) (.q 2<|.br (.q 2<|.bs<|.cx (eD b (q+1) g ([([116,101,120,116,32]:BL),([60]:BL),([62]:BL),([40]:BL),([41]:BL),([60,97]:BL)]:List BL)) [(1000,1000)] (fun (D8:BL)=>.q 2<|.q 2<|.h (.o9 10 (iN (n-1)))<|.q 1<|.nil)) (.q 3<|.cx (fB b (q+1) g) [(1000,1000)] (fun (K6:BL×Nat)=>.q 3<|.q 2<|.h (.o9 10 (iN (n-1)))<|.q 1<|.nil))))))) (.q 2<|.nil))))
  ((fun v1:BL=>(fun v2:BL=>(fun v3:BL=>(fun v4:V=>(fun v5:BL=>(fun v6:BL=>(fun v7:BL=>(fun v8:BL=>(fun v9:BL=>((aU b p g 5).sm/\Er g (ar b p)/\((b.length<=2000)/\(p<=1000000)/\(5<=1000000))/\∀ r9:Nat,(5=0/\r9=0\/r9<5)->(∃ x:Nat×BL×Nat,match x with | (I8,u7,y9)=>(u7.length+60*I8<=240/\p<=y9/\y9+16*I8<=p+66/\m6 u7)/\E v4/\Q (sV []) (sV u7)/\Q (iN r9) (iN I8)/\Qr g (ar b (p+1)) g (ar b y9)/\True)/\∀ x:Nat×BL×Nat,match x with | (n,o,q)=>(o.length+60*n<=240/\p<=q/\q+16*n<=p+66/\m6 o)->(fun v10:V=>Br (s9 (n:Int) 0) ((aU b q g 9).sm/\Er g (ar b q)/\((b.length<=2000)/\(q<=1000000)/\(9<=1000000))/\∀ Mf:Nat,(9=0/\Mf=0\/Mf<9)->Br (r4 (Mf:Int) 0) ((o.length+v2.length<=4611686018427387904)/\(fB b (q+1) g).sm/\Er g v10/\((b.length<=2000)/\((q+1)<=890000))/\∀ I6:BL×Nat,(I6.1.length<=25/\(q+1)<=I6.2/\I6.2<=(q+1)+7/\m6 I6.1)->((o++v2).length+I6.1.length<=4611686018427387904)/\(((o++v2)++I6.1).length+v1.length<=4611686018427387904)/\(fB b I6.2 g).sm/\Er g (ar b I6.2)/\((b.length<=2000)/\(I6.2<=890000))/\∀ K5:BL×Nat,(K5.1.length<=25/\I6.2<=K5.2/\K5.2<=I6.2+7/\m6 K5.1)->((((o++v2)++I6.1)++v1).length+K5.1.length<=4611686018427387904)/\(((((o++v2)++I6.1)++v1)++K5.1).length+([62,41]:BL).length<=4611686018427387904)/\m8 ((n:Int)-1)/\Q (iV ((n:Int)-1)) (iN (n-1))/\∃ x:Nat×BL×Nat,match x with | (u9,m0,o5)=>(m0.length+60*u9<=240/\p<=o5/\o5+16*u9<=p+66/\m6 m0)/\(u9<n)/\E v4/\Q (sV (((((o++v2)++I6.1)++v1)++K5.1)++([62,41]:BL))) (sV m0)/\Q (iN (n-1)) (iN u9)/\Qr g (ar b K5.2) g (ar b o5)/\True) (Br (r4 (Mf:Int) 1) ((o.length+v6.length<=4611686018427387904)/\(fB b (q+1) g).sm/\Er g v10/\((b.length<=2000)/\((q+1)<=890000))/\∀ I1:BL×Nat,(I1.1.length<=25/\(q+1)<=I1.2/\I1.2<=(q+1)+7/\m6 I1.1)->((o++v6).length+I1.1.length<=4611686018427387904)/\(((o++v6)++I1.1).length+v3.length<=4611686018427387904)/\m8 ((n:Int)-1)/\Q (iV ((n:Int)-1)) (iN (n-1))/\∃ x:Nat×BL×Nat,match x with | (u9,m0,o5)=>(m0.length+60*u9<=240/\p<=o5/\o5+16*u9<=p+66/\m6 m0)/\(u9<n)/\E v4/\Q (sV (((o++v6)++I1.1)++v3)) (sV m0)/\Q (iN (n-1)) (iN u9)/\Qr g (ar b I1.2) g (ar b o5)/\True) (Br (r4 (Mf:Int) 2) ((o.length+v7.length<=4611686018427387904)/\(fB b (q+1) g).sm/\Er g v10/\((b.length<=2000)/\((q+1)<=890000))/\∀ I0:BL×Nat,(I0.1.length<=25/\(q+1)<=I0.2/\I0.2<=(q+1)+7/\m6 I0.1)->((o++v7).length+I0.1.length<=4611686018427387904)/\(((o++v7)++I0.1).length+v3.length<=4611686018427387904)/\m8 ((n:Int)-1)/\Q (iV ((n:Int)-1)) (iN (n-1))/\∃ x:Nat×BL×Nat,match x with | (u9,m0,o5)=>(m0.length+60*u9<=240/\p<=o5/\o5+16*u9<=p+66/\m6 m0)/\(u9<n)/\E v4/\Q (sV (((o++v7)++I0.1)++v3)) (sV m0)/\Q (iN (n-1)) (iN u9)/\Qr g (ar b I0.2) g (ar b o5)/\True) (Br (r4 (Mf:Int) 3) ((eD b (q+1) g ([v5,v1,v3,v2,v9,v8]:List BL)).sm/\Er g v10/\((b.length<=2000)/\((q+1)<=1000000)/\(1<=([v5,v1,v3,v2,v9,v8]:List BL).length)/\(([v5,v1,v3,v2,v9,v8]:List BL).length<=1000))/\∀ D8:BL,(D8∈([v5,v1,v3,v2,v9,v8]:List BL))->(o.length+D8.length<=4611686018427387904)/\m8 ((n:Int)-1)/\Q (iV ((n:Int)-1)) (iN (n-1))/\∃ x:Nat×BL×Nat,match x with | (u9,m0,o5)=>(m0.length+60*u9<=240/\p<=o5/\o5+16*u9<=p+66/\m6 m0)/\(u9<n)/\E v4/\Q (sV (o++D8)) (sV m0)/\Q (iN (n-1)) (iN u9)/\Qr g (ar b ((q+1)+1)) g (ar b o5)/\True) ((o.length+v1.length<=4611686018427387904)/\(fB b (q+1) g).sm/\Er g v10/\((b.length<=2000)/\((q+1)<=890000))/\∀ K6:BL×Nat,(K6.1.length<=25/\(q+1)<=K6.2/\K6.2<=(q+1)+7/\m6 K6.1)->((o++v1).length+K6.1.length<=4611686018427387904)/\(((o++v1)++K6.1).length+v3.length<=4611686018427387904)/\m8 ((n:Int)-1)/\Q (iV ((n:Int)-1)) (iN (n-1))/\∃ x:Nat×BL×Nat,match x with | (u9,m0,o5)=>(m0.length+60*u9<=240/\p<=o5/\o5+16*u9<=p+66/\m6 m0)/\(u9<n)/\E v4/\Q (sV (((o++v1)++K6.1)++v3)) (sV m0)/\Q (iN (n-1)) (iN u9)/\Qr g (ar b K6.2) g (ar b o5)/\True))))) (∃ x:BL×Nat,(x.1.length<=240/\p<=x.2/\x.2<=p+70/\m6 x.1)/\Q (sV o) (sV x.1)/\Qr g (ar b q) g (ar b x.2))) (ar b (q+1)))) ([41]:BL)) ([60,97]:BL)) ([60,64]:BL)) ([60,33]:BL)) ([116,101,120,116,32]:BL)) (.ptr (.key 1000) [] g 0)) ([62]:BL)) ([40]:BL)) ([60]:BL))
  (by kernel_rfl) ?_
 refine⟨rfl,rfl,⟨by omega,by omega,by omega⟩,?_⟩
 intro r9 KY
 refine⟨⟨(r9,[],p+1),?_,rfl,rfl,rfl,rfl,trivial⟩,?_⟩
 exact⟨by simp;omega,by omega,by omega,aT⟩
 rintro⟨n,o,q⟩ ⟨h1,h2,h3,h4⟩
 refine⟨fun j7=>?_,fun j7=>?_⟩
 · try simp only[nb]at j7
   refine⟨rfl,rfl,⟨by omega,by omega,by omega⟩,?_⟩
   intro Mf VO
   refine⟨fun j9=>?_,fun j9=>?_⟩
   · try simp only[nb]at j9
     refine⟨by(try simp only[List.length_append,List.length_cons,List.length_nil]);(try have:=bz (n:=11) rfl w9);omega,rfl,rfl,⟨by omega,by omega⟩,?_⟩
     intro I6 VJ
     refine⟨by(try simp only[List.length_append,List.length_cons,List.length_nil]);(try have:=bz (n:=11) rfl w9);omega,by(try simp only[List.length_append,List.length_cons,List.length_nil]);(try have:=bz (n:=11) rfl w9);omega,rfl,rfl,⟨by omega,by omega⟩,?_⟩
     intro K5 VI
     refine⟨by(try simp only[List.length_append,List.length_cons,List.length_nil]);(try have:=bz (n:=11) rfl w9);omega,by(try simp only[List.length_append,List.length_cons,List.length_nil]);(try have:=bz (n:=11) rfl w9);omega,by omega,by simp[Q];omega,?_⟩
     refine⟨(n-1,((((o++([40]:BL))++I6.1)++([60]:BL))++K5.1)++([62,41]:BL),K5.2),?_,?_,rfl,rfl,rfl,rfl,trivial⟩
     · try have:=bz (n:=11) rfl w9
       exact⟨by simp only[List.length_append,List.length_cons,List.length_nil];omega,by omega,by omega,by(try dsimp only);repeat (first | assumption | exact aT | exact bh rfl | exact dg rfl (by assumption) | exact m6.drop (by apply And.right;apply And.right;apply And.right;assumption) _ | (apply And.right;apply And.right;apply And.right;assumption) | apply m6.app)⟩
     first | (solve | simp) | omega | (simp;omega)
   · try simp only[nb]at j9
     refine⟨fun l8=>?_,fun l8=>?_⟩
     · try simp only[nb]at l8
       refine⟨by(try simp only[List.length_append,List.length_cons,List.length_nil]);(try have:=bz (n:=11) rfl w9);omega,rfl,rfl,⟨by omega,by omega⟩,?_⟩
       intro I1 Us
       refine⟨by(try simp only[List.length_append,List.length_cons,List.length_nil]);(try have:=bz (n:=11) rfl w9);omega,by(try simp only[List.length_append,List.length_cons,List.length_nil]);(try have:=bz (n:=11) rfl w9);omega,by omega,by simp[Q];omega,?_⟩
       refine⟨(n-1,((o++([60,33]:BL))++I1.1)++([62]:BL),I1.2),?_,?_,rfl,rfl,rfl,rfl,trivial⟩
       · try have:=bz (n:=11) rfl w9
         exact⟨by simp only[List.length_append,List.length_cons,List.length_nil];omega,by omega,by omega,by(try dsimp only);repeat (first | assumption | exact aT | exact bh rfl | exact dg rfl (by assumption) | exact m6.drop (by apply And.right;apply And.right;apply And.right;assumption) _ | (apply And.right;apply And.right;apply And.right;assumption) | apply m6.app)⟩
       first | (solve | simp) | omega | (simp;omega)
     · try simp only[nb]at l8
       refine⟨fun o4=>?_,fun o4=>?_⟩
       · try simp only[nb]at o4
         refine⟨by(try simp only[List.length_append,List.length_cons,List.length_nil]);(try have:=bz (n:=11) rfl w9);omega,rfl,rfl,⟨by omega,by omega⟩,?_⟩
         intro I0 Ur
         refine⟨by(try simp only[List.length_append,List.length_cons,List.length_nil]);(try have:=bz (n:=11) rfl w9);omega,by(try simp only[List.length_append,List.length_cons,List.length_nil]);(try have:=bz (n:=11) rfl w9);omega,by omega,by simp[Q];omega,?_⟩
         refine⟨(n-1,((o++([60,64]:BL))++I0.1)++([62]:BL),I0.2),?_,?_,rfl,rfl,rfl,rfl,trivial⟩
         · try have:=bz (n:=11) rfl w9
           exact⟨by simp only[List.length_append,List.length_cons,List.length_nil];omega,by omega,by omega,by(try dsimp only);repeat (first | assumption | exact aT | exact bh rfl | exact dg rfl (by assumption) | exact m6.drop (by apply And.right;apply And.right;apply And.right;assumption) _ | (apply And.right;apply And.right;apply And.right;assumption) | apply m6.app)⟩
         first | (solve | simp) | omega | (simp;omega)
       · try simp only[nb]at o4
         refine⟨fun x4=>?_,fun x4=>?_⟩
         · try simp only[nb]at x4
           refine⟨rfl,rfl,⟨by omega,by omega,by simp,by simp⟩,?_⟩
           intro D8 w9
           refine⟨by(try simp only[List.length_append,List.length_cons,List.length_nil]);(try have:=bz (n:=11) rfl w9);omega,by omega,by simp[Q];omega,?_⟩
           refine⟨(n-1,o++D8,(q+1)+1),?_,?_,rfl,rfl,rfl,rfl,trivial⟩
           · try have:=bz (n:=11) rfl w9
             exact⟨by simp only[List.length_append,List.length_cons,List.length_nil];omega,by omega,by omega,by(try dsimp only);repeat (first | assumption | exact aT | exact bh rfl | exact dg rfl (by assumption) | exact m6.drop (by apply And.right;apply And.right;apply And.right;assumption) _ | (apply And.right;apply And.right;apply And.right;assumption) | apply m6.app)⟩
           first | (solve | simp) | omega | (simp;omega)
         · try simp only[nb]at x4
           refine⟨by(try simp only[List.length_append,List.length_cons,List.length_nil]);(try have:=bz (n:=11) rfl w9);omega,rfl,rfl,⟨by omega,by omega⟩,?_⟩
           intro K6 VL
           refine⟨by(try simp only[List.length_append,List.length_cons,List.length_nil]);(try have:=bz (n:=11) rfl w9);omega,by(try simp only[List.length_append,List.length_cons,List.length_nil]);(try have:=bz (n:=11) rfl w9);omega,by omega,by simp[Q];omega,?_⟩
           refine⟨(n-1,((o++([60]:BL))++K6.1)++([62]:BL),K6.2),?_,?_,rfl,rfl,rfl,rfl,trivial⟩
           · try have:=bz (n:=11) rfl w9
             exact⟨by simp only[List.length_append,List.length_cons,List.length_nil];omega,by omega,by omega,by(try dsimp only);repeat (first | assumption | exact aT | exact bh rfl | exact dg rfl (by assumption) | exact m6.drop (by apply And.right;apply And.right;apply And.right;assumption) _ | (apply And.right;apply And.right;apply And.right;assumption) | apply m6.app)⟩
           first | (solve | simp) | omega | (simp;omega)
 try simp only[nb]at j7
 refine⟨(o,q),?_,?_,?_⟩
 try dsimp only
 exact⟨by omega,by omega,by omega,h4⟩
 first | rfl | simp_all
 first | rfl | exact⟨rfl,rfl⟩ | simp_all)
abbrev nC(w:List Pg)(a:BL):V:=.tup [bP ((z8 w a).1.addr) ((z8 w a).1.text) ((z8 w a).1.lead) ((z8 w a).1.m4),bV ((z8 w a).2)]
def GD(w:List Pg)(a:BL):r5 Tryz.prog:=.mk 68 [bN w,sV a] [] (w.length<=1000000) (nC w a) [] (by
 intro hw
 refine aw (N:=25) (rs:=[.cell 4 74,.tmp 5]) Tryz.func68
  (.al lZ (fun g4=>.q 1<|.q 1<|.loop (Nat) (fun (i:Nat)=>⟨[(0,bN w),(1,sV a),(4,.ptr (.key 4) [] g4 0),(6,iN i)],[(4,(g4,.agg [sV [],sV [],sV [],iN 0]))]⟩) (fun (i:Nat)=>i<=w.length/\z8 w a=z8 (w.drop i) a) (fun (i:Nat)=>w.length-i) (fun (i:Nat)=>.q 4<|.br (.r 7 [bP ((w.getD i l4).addr) ((w.getD i l4).text) ((w.getD i l4).lead) ((w.getD i l4).m4)]<|.br (.r 4 [bP ((w.getD i l4).addr) ((w.getD i l4).text) ((w.getD i l4).lead) ((w.getD i l4).m4)]<|.st none<|.q 1<|.nil) (.q 3<|.nil)) (.bd lZ<|.st none<|.q 1<|.nil))))
  (∀ g4:Nat,(∃ j8:Nat,(j8<=w.length/\z8 w a=z8 (w.drop j8) a)/\E (bN w)/\E (sV a)/\E (.ptr (.key 4) [] g4 0)/\Q (iN 0) (iN j8)/\Er g4 (.agg [sV [],sV [],sV [],iN 0])/\True)/\∀ i:Nat,(i<=w.length/\z8 w a=z8 (w.drop i) a)->(fun v1:V=>Br (s7 (i:Int) (((w.map r8).length:Nat):Int)) (Ex (i:Int) (w.map r8) v1/\True/\Br (((w.getD i l4).addr)==a) (Ex (i:Int) (w.map r8) v1/\True/\Z g4 0/\(g4=g4)/\Q (.tup [bP ((w.getD i l4).addr) ((w.getD i l4).text) ((w.getD i l4).lead) ((w.getD i l4).m4),bV true]) (nC w a)) (m8 ((i:Int)+1)/\∃ c9:Nat,(c9<=w.length/\z8 w a=z8 (w.drop c9) a)/\(w.length-c9<w.length-i)/\E (bN w)/\E (sV a)/\E (.ptr (.key 4) [] g4 0)/\Q (iN (i+1)) (iN c9)/\Er g4 (.agg [sV [],sV [],sV [],iN 0])/\True)) (Z g4 0/\(g4=g4)/\Q (.tup [.agg [sV [],sV [],sV [],iN 0],bV false]) (nC w a))) (bP ((w.getD i l4).addr) ((w.getD i l4).text) ((w.getD i l4).lead) ((w.getD i l4).m4))) ?_
 intro g4
 refine⟨⟨0,?_,rfl,rfl,rfl,rfl,rfl,trivial⟩,?_⟩
 simp
 rintro i ⟨h1,h2⟩
 refine⟨fun j7=>?_,fun j7=>?_⟩
 try simp only[nb]at j7
 refine⟨⟨by omega,aj (d:=l4) (by omega)⟩,trivial,?_⟩
 refine⟨fun j9=>?_,fun j9=>?_⟩
 try simp only[nb]at j9
 refine⟨⟨by omega,aj (d:=l4) (by omega)⟩,trivial,rfl,?_⟩
 refine⟨rfl,?_⟩
 unfold Q nC
 rw[h2,drop_cons (by omega:i<w.length) l4,z8,if_pos j9]
 try simp only[nb]at j9
 refine⟨by omega,?_⟩
 refine⟨i+1,?_,?_,rfl,rfl,rfl,rfl,rfl,trivial⟩
 refine⟨by omega,?_⟩
 rw[h2,drop_cons (by omega:i<w.length) l4,z8,if_neg j9]
 first | (solve | simp) | omega | (simp;omega)
 try simp only[nb]at j7
 refine⟨rfl,?_⟩
 refine⟨rfl,?_⟩
 unfold Q nC
 rw[h2,List.drop_eq_nil_of_le (by omega)];rfl)
def rA(n m:Nat)(ih:∀ m,m<n->(m<=1000000)->PF Tryz.prog 37 [iN m] [] (fun r h=>r=(sV (dj m))/\h=[])):r5 Tryz.prog:={ f:=37,args:=[iN m],pre:=m<n/\(m<=1000000),res:=sV (dj m),ok:=fun h=>ih m h.1 h.2 }
theorem EC(n:Nat)(hn:n<=1000000):PF Tryz.prog 37 [iN n] [] (fun r h=>r=(sV (dj n))/\h=[]):=by
 revert hn
 induction n using Nat.strongRecOn with
 | ind n ih=>
 intro hn
 refine aw (N:=28) (rs:=[.tmp 2]) Tryz.func37
  (.q 1<|.q 2<|.br (.q 1<|.nil) (.q 2<|.br (.q 2<|.c (rA n (Int.toNat (-(n:Int))) ih) []<|.q 2<|.nil) (.q 2<|.br (.q 3<|.h (.o9 15 (uN ((UInt8.ofNat (48+n)).toNat)))<|.bs<|.Kg [(UInt8.ofNat (48+n))]<|.q 1<|.nil) (.dx 9 [0,1,2,3,4,5,6,7,8] [] []<|.q 1<|.q 1<|.c (rA n (n / 10) ih) []<|.q 1<|.q 1<|.q 1<|.q 1<|.h (.o9 24 (uN ((UInt8.ofNat (48+n % 10)).toNat)))<|.bs<|.Kg [(UInt8.ofNat (48+n % 10))]<|.q 2<|.nil))))
  (Br (s7 (n:Int) (-9223372036854775807)) (Q (sV ([45,57,50,50,51,51,55,50,48,51,54,56,53,52,55,55,53,56,48,56]:BL)) (sV (dj n))) (Br (s7 (n:Int) 0) (m8 (-(n:Int))/\(([iV (-(n:Int))]:List V)=[iN (Int.toNat (-(n:Int)))])/\(((Int.toNat (-(n:Int)))<n)/\((Int.toNat (-(n:Int)))<=1000000))/\(([45]:BL).length+(dj (Int.toNat (-(n:Int)))).length<=4611686018427387904)/\Q (sV (([45]:BL)++(dj (Int.toNat (-(n:Int)))))) (sV (dj n))) (Br (s7 (n:Int) 10) (m8 (48+(n:Int))/\MP ((48+n:Nat):Int)/\Q (uN (48+n)) (uN ((UInt8.ofNat (48+n)).toNat))/\(True)/\([uN ((UInt8.ofNat (48+n)).toNat)]=[(UInt8.ofNat (48+n))].map n7)/\Q (sV [(UInt8.ofNat (48+n))]) (sV (dj n))) (((0:Int)<=(n:Int)/\(0:Int)<10/\m8 (n:Int))/\(rA n (n / 10) ih).sm/\(((n / 10)<n)/\((n / 10)<=1000000))/\((0:Int)<=(n:Int)/\(0:Int)<10)/\m8 (48+((n % 10:Nat):Int))/\MP ((48+(n % 10):Nat):Int)/\Q (uN (48+(n % 10))) (uN ((UInt8.ofNat (48+n % 10)).toNat))/\([uN ((UInt8.ofNat (48+n % 10)).toNat)]=[(UInt8.ofNat (48+n % 10))].map n7)/\((dj (n / 10)).length+([(UInt8.ofNat (48+n % 10))]:BL).length<=4611686018427387904)/\Q (sV ((dj (n / 10))++[(UInt8.ofNat (48+n % 10))])) (sV (dj n)))))) ?_
 refine⟨fun j7=>?_,fun j7=>?_⟩
 try simp only[nb]at j7
 exfalso;omega
 try simp only[nb]at j7
 refine⟨fun j9=>?_,fun j9=>?_⟩
 try simp only[nb]at j9
 exfalso;omega
 try simp only[nb]at j9
 refine⟨fun l8=>?_,fun l8=>?_⟩
 try simp only[nb]at l8
 refine⟨by omega,by omega,by exact ES (by omega),trivial,rfl,?_⟩
 unfold Q
 rw[show dj n=[UInt8.ofNat (48+n)] from by rw[dj,if_pos (by omega)]]
 try simp only[nb]at l8
 refine⟨by omega,rfl,⟨by omega,by omega⟩,by omega,by omega,by omega,by exact ES (by omega),rfl,by have:=oQ (n / 10) (by omega);simp;omega,?_⟩
 unfold Q
 rw[show dj n=dj (n / 10)++[UInt8.ofNat (48+n % 10)] from by rw[dj,if_neg (by omega)]]
def qD(n:Nat):r5 Tryz.prog:={ f:=37,args:=[iN n],H:=[],pre:=(n<=1000000),res:=sV (dj n),H':=[],ok:=fun h=>EC n h }
theorem Hm{l:List Int}{i:Nat}(h:i<l.length):Ex (i:Int) (l.map iV) (iV (l.getD i 0)):=⟨Int.natCast_nonneg _,by simp[List.getD_eq_getElem?_getD,h]⟩
def sd(gs:List l5):F8 Tryz.prog:=.mk Bool 94 [aX gs] [] ((gs.length<=4)/\(∀ y,y∈gs->A9 y)) (fun x=>True) (fun x=>bV x) (fun x=>[]) (by
 rintro⟨hl,hg⟩
 refine eG (N:=94) (rs:=[.tmp 2]) (X:=Bool) (post:=fun x=>True) (E:=fun x=>bV x) (H':=fun x=>[]) Tryz.func94 (by kernel_rfl) rfl rfl rfl (by kernel_rfl) [] (by intro _ k hk;simpa[lk] using hk)
  (.q 1<|.q 1<|.q 1<|.loop (Nat×Nat) (fun (i,m)=>⟨[(0,aX gs),(3,iN m),(4,iN i)],[]⟩) (fun (i,m)=>i<=gs.length/\m<=10*i) (fun (i,m)=>gs.length-i) (fun (i,m)=>.q 4<|.br (.r 4 [ej ((gs.getD i (⟨[],[],0⟩:l5)).na) ((gs.getD i (⟨[],[],0⟩:l5)).ru) ((gs.getD i (⟨[],[],0⟩:l5)).wa)]<|.al iC (fun g5=>.st none<|.r 24 [.b9,.b9,.b9,.b9,.b9]<|.cg (kE (((gs.getD i (⟨[],[],0⟩:l5)).wa:Nat):Int) (0:Int) (20:Int))<|.q 2<|.br (.q 1<|.nil) (.q 1<|.loop (Nat) (fun (k:Nat)=>⟨[(0,aX gs),(3,iN m),(4,iN i),(5,.ptr (.key 5) [] g5 0),(6,iN k)],[(5,(g5,ej ((gs.getD i (⟨[],[],0⟩:l5)).na) ((gs.getD i (⟨[],[],0⟩:l5)).ru) ((gs.getD i (⟨[],[],0⟩:l5)).wa)))]⟩) (fun (k:Nat)=>k<=(gs.getD i ⟨[],[],0⟩).na.length) (fun (k:Nat)=>(gs.getD i ⟨[],[],0⟩).na.length-k) (fun (k:Nat)=>.r 5 [.b9]<|.br (.r 12 [.b9,sV (((gs.getD i (⟨[],[],0⟩:l5)).na).getD k []),.b9,sV (((gs.getD i (⟨[],[],0⟩:l5)).na).getD k [])]<|.cg (oJ (((gs.getD i (⟨[],[],0⟩:l5)).na).getD k []))<|.q 2<|.br (.q 1<|.nil) (.q 3<|.nil)) (.q 1<|.loop (Nat) (fun (k:Nat)=>⟨[(0,aX gs),(3,iN m),(4,iN i),(5,.ptr (.key 5) [] g5 0),(7,iN k)],[(5,(g5,ej ((gs.getD i (⟨[],[],0⟩:l5)).na) ((gs.getD i (⟨[],[],0⟩:l5)).ru) ((gs.getD i (⟨[],[],0⟩:l5)).wa)))]⟩) (fun (k:Nat)=>k<=(gs.getD i ⟨[],[],0⟩).ru.length) (fun (k:Nat)=>(gs.getD i ⟨[],[],0⟩).ru.length-k) (fun (k:Nat)=>.r 5 [.b9]<|.br (.r 6 [.b9,.agg [bV ((((gs.getD i (⟨[],[],0⟩:l5)).ru).getD k (⟨false,[]⟩:s8)).H4),sV ((((gs.getD i (⟨[],[],0⟩:l5)).ru).getD k (⟨false,[]⟩:s8)).path)]]<|.c (wg ((((gs.getD i (⟨[],[],0⟩:l5)).ru).getD k (⟨false,[]⟩:s8)).path)) []<|.q 1<|.br (.q 1<|.nil) (.q 3<|.nil)) (.r 11 [.b9,.b9]<|.q 3<|.nil))))))) (.q 3<|.nil)))
  ((fun v1:BL=>((∃ x:Nat×Nat,match x with | (j8,Lp)=>(j8<=gs.length/\Lp<=10*j8)/\E (aX gs)/\Q (iN 0) (iN Lp)/\Q (iN 0) (iN j8)/\True)/\∀ x:Nat×Nat,match x with | (i,m)=>(i<=gs.length/\m<=10*i)->(fun v2:Int=>(fun v3:Int=>(fun v4:V=>(fun v5:Int=>(fun v6:Bool=>(fun v7:Bool=>(fun v8:Bool=>Br (s7 (i:Int) (((gs.map bw).length:Nat):Int)) (Ex (i:Int) (gs.map bw) v4/\True/\∀ g5:Nat,(fun v9:V=>Z g5 0/\Z g5 0/\Gd v7 (Z g5 1)/\Gd (v7&&((r4 v2 0)==true)) (Z g5 2)/\Gd v7 (Pk (r4 v2 0) (v7&&((r4 v2 0)==true)) true)/\Pk (r4 v3 0) true v7/\Gd v8 (Z g5 1)/\Pk ((r4 v3 0)||((r4 v2 0)&&(r4 v5 0))) true v8/\Gd v6 (Z g5 2)/\Gd v6 ((True)/\(kE v5 (0:Int) (20:Int)).sm)/\Pk (((r4 v3 0)||((r4 v2 0)&&(r4 v5 0)))||(s9 v2 6)) true v6/\Br ((((r4 v3 0)||((r4 v2 0)&&(r4 v5 0)))||(s9 v2 6))||(!(C3 v5 (0:Int) (20:Int)))) (∃ x:Bool,(True)/\Q (bV false) (bV x)) ((∃ r6:Nat,(r6<=(gs.getD i ⟨[],[],0⟩).na.length)/\E (aX gs)/\E (iN m)/\E (iN i)/\E v9/\Q (iN 0) (iN r6)/\Er g5 v4/\True)/\∀ k:Nat,(k<=(gs.getD i ⟨[],[],0⟩).na.length)->Z g5 0/\Br (s7 (k:Int) v3) (Z g5 0/\Ex (k:Int) (((gs.getD i (⟨[],[],0⟩:l5)).na).map sV) (sV (((gs.getD i (⟨[],[],0⟩:l5)).na).getD k []))/\True/\Gd ((!((((gs.getD i (⟨[],[],0⟩:l5)).na).getD k [])==v1))==true) (Z g5 0)/\Gd ((!((((gs.getD i (⟨[],[],0⟩:l5)).na).getD k [])==v1))==true) (Ex (k:Int) (((gs.getD i (⟨[],[],0⟩:l5)).na).map sV) (sV (((gs.getD i (⟨[],[],0⟩:l5)).na).getD k [])))/\Gd ((!((((gs.getD i (⟨[],[],0⟩:l5)).na).getD k [])==v1))==true) True/\Gd ((!((((gs.getD i (⟨[],[],0⟩:l5)).na).getD k [])==v1))==true) ((((((gs.getD i (⟨[],[],0⟩:l5)).na).getD k []).length<=4611686018427387904))/\(oJ (((gs.getD i (⟨[],[],0⟩:l5)).na).getD k [])).sm)/\Pk (!((((gs.getD i (⟨[],[],0⟩:l5)).na).getD k [])==v1)) ((!((((gs.getD i (⟨[],[],0⟩:l5)).na).getD k [])==v1))==true) true/\Br ((!((((gs.getD i (⟨[],[],0⟩:l5)).na).getD k [])==v1))&&(!(bq (((gs.getD i (⟨[],[],0⟩:l5)).na).getD k [])))) (∃ x:Bool,(True)/\Q (bV false) (bV x)) (m8 ((k:Int)+1)/\∃ k₂:Nat,(k₂<=(gs.getD i ⟨[],[],0⟩).na.length)/\((gs.getD i ⟨[],[],0⟩).na.length-k₂<(gs.getD i ⟨[],[],0⟩).na.length-k)/\E (aX gs)/\E (iN m)/\E (iN i)/\E v9/\Q (iN (k+1)) (iN k₂)/\Er g5 v4/\True)) ((∃ r6:Nat,(r6<=(gs.getD i ⟨[],[],0⟩).ru.length)/\E (aX gs)/\E (iN m)/\E (iN i)/\E v9/\Q (iN 0) (iN r6)/\Er g5 v4/\True)/\∀ k:Nat,(k<=(gs.getD i ⟨[],[],0⟩).ru.length)->Z g5 1/\Br (s7 (k:Int) v2) (Z g5 1/\Ex (k:Int) (((gs.getD i (⟨[],[],0⟩:l5)).ru).map au) (.agg [bV ((((gs.getD i (⟨[],[],0⟩:l5)).ru).getD k (⟨false,[]⟩:s8)).H4),sV ((((gs.getD i (⟨[],[],0⟩:l5)).ru).getD k (⟨false,[]⟩:s8)).path)])/\True/\(wg ((((gs.getD i (⟨[],[],0⟩:l5)).ru).getD k (⟨false,[]⟩:s8)).path)).sm/\((((((gs.getD i (⟨[],[],0⟩:l5)).ru).getD k (⟨false,[]⟩:s8)).path).length<=4611686018427387904))/\Br (!(bH ((((gs.getD i (⟨[],[],0⟩:l5)).ru).getD k (⟨false,[]⟩:s8)).path))) (∃ x:Bool,(True)/\Q (bV false) (bV x)) (m8 ((k:Int)+1)/\∃ k₂:Nat,(k₂<=(gs.getD i ⟨[],[],0⟩).ru.length)/\((gs.getD i ⟨[],[],0⟩).ru.length-k₂<(gs.getD i ⟨[],[],0⟩).ru.length-k)/\E (aX gs)/\E (iN m)/\E (iN i)/\E v9/\Q (iN (k+1)) (iN k₂)/\Er g5 v4/\True)) (Z g5 0/\m8 ((m:Int)+v3)/\Z g5 1/\m8 (((m+((((gs.getD i (⟨[],[],0⟩:l5)).na).map sV).length):Nat):Int)+v2)/\m8 ((((m+((((gs.getD i (⟨[],[],0⟩:l5)).na).map sV).length))+((((gs.getD i (⟨[],[],0⟩:l5)).ru).map au).length):Nat):Int)+1)/\m8 ((i:Int)+1)/\∃ x:Nat×Nat,match x with | (c9,m₂)=>(c9<=gs.length/\m₂<=10*c9)/\(gs.length-c9<gs.length-i)/\E (aX gs)/\Q (iN (((m+((((gs.getD i (⟨[],[],0⟩:l5)).na).map sV).length))+((((gs.getD i (⟨[],[],0⟩:l5)).ru).map au).length))+1)) (iN m₂)/\Q (iN (i+1)) (iN c9)/\True)))) (.ptr (.key 5) [] g5 0)) (∃ x:Bool,(True)/\Q (bV (B5 (m:Int) 40)) (bV x))) (((r4 v3 0)||((r4 v2 0)&&(r4 v5 0)))==false)) ((r4 v3 0)==false)) ((((r4 v3 0)||((r4 v2 0)&&(r4 v5 0)))||(s9 v2 6))==false)) (((gs.getD i (⟨[],[],0⟩:l5)).wa:Nat):Int)) (ej ((gs.getD i (⟨[],[],0⟩:l5)).na) ((gs.getD i (⟨[],[],0⟩:l5)).ru) ((gs.getD i (⟨[],[],0⟩:l5)).wa))) (((((gs.getD i (⟨[],[],0⟩:l5)).na).map sV).length:Nat):Int)) (((((gs.getD i (⟨[],[],0⟩:l5)).ru).map au).length:Nat):Int))) ([42]:BL))
  (by kernel_rfl) ?_
 refine⟨⟨(0,0),?_,rfl,rfl,rfl,trivial⟩,?_⟩
 simp
 rintro⟨i,m⟩ ⟨h1,h2⟩
 have H8:=qj hg i
 have Ro:=H8.nl
 have Rn:=H8.rl
 have hn3:=H8.w
 refine⟨fun j7=>?_,fun j7=>?_⟩
 try simp only[nb]at j7
 refine⟨⟨by omega,aj (d:=(⟨[],[],0⟩:l5)) (by omega)⟩,trivial,?_⟩
 intro g5
 refine⟨rfl,rfl,fun hG=>rfl,fun hG=>rfl,fun hG=>⟨fun h=>by rw[h];exact(Bool.and_eq_true _ _).mpr ⟨hG,rfl⟩,fun _=>rfl⟩,⟨fun _=>rfl,fun h=>by rw[h] <;> rfl⟩,fun hG=>rfl,⟨fun _=>rfl,fun h=>by rw[h] <;> rfl⟩,fun hG=>rfl,fun hG=>⟨trivial,rfl⟩,⟨fun _=>rfl,fun h=>by rw[h] <;> rfl⟩,?_⟩
 refine⟨fun j9=>?_,fun j9=>?_⟩
 try simp only[nb]at j9
 refine⟨false,?_,?_⟩
 try dsimp only
 skip
 first | rfl | simp_all
 try simp only[nb]at j9
 refine⟨⟨0,?_,rfl,rfl,rfl,rfl,rfl,rfl,trivial⟩,?_⟩
 simp
 rintro k h3
 refine⟨rfl,?_⟩
 refine⟨fun l8=>?_,fun l8=>?_⟩
 try simp only[nb]at l8
 refine⟨rfl,⟨by omega,aj (d:=[]) (by omega)⟩,trivial,fun hG=>rfl,fun hG=>⟨by omega,aj (d:=[]) (by omega)⟩,fun hG=>trivial,fun hG=>⟨by(try simp only[nb]at hG);have:=fj (gs:=gs) hg i k;omega,rfl⟩,⟨fun h=>by rw[h] <;> rfl,fun _=>rfl⟩,?_⟩
 refine⟨fun o4=>?_,fun o4=>?_⟩
 try simp only[nb]at o4
 refine⟨false,?_,?_⟩
 try dsimp only
 skip
 first | rfl | simp_all
 try simp only[nb]at o4
 refine⟨by omega,?_⟩
 refine⟨k+1,?_,?_,rfl,rfl,rfl,rfl,rfl,rfl,trivial⟩
 (try simp only[List.length_append,List.length_cons,List.length_nil,List.length_map]);omega
 first | (solve | simp) | omega | (simp;omega)
 try simp only[nb]at l8
 refine⟨⟨0,?_,rfl,rfl,rfl,rfl,rfl,rfl,trivial⟩,?_⟩
 simp
 rintro k h3
 refine⟨rfl,?_⟩
 refine⟨fun x4=>?_,fun x4=>?_⟩
 try simp only[nb]at x4
 refine⟨rfl,⟨by omega,aj (d:=(⟨false,[]⟩:s8)) (by omega)⟩,trivial,rfl,by have:=fu (gs:=gs) hg i k;omega,?_⟩
 refine⟨fun E'=>?_,fun E'=>?_⟩
 try simp only[nb]at E'
 refine⟨false,?_,?_⟩
 try dsimp only
 skip
 first | rfl | simp_all
 try simp only[nb]at E'
 refine⟨by omega,?_⟩
 refine⟨k+1,?_,?_,rfl,rfl,rfl,rfl,rfl,rfl,trivial⟩
 (try simp only[List.length_append,List.length_cons,List.length_nil,List.length_map]);omega
 first | (solve | simp) | omega | (simp;omega)
 try simp only[nb]at x4
 refine⟨rfl,by(try simp only[List.length_map]at *);omega,rfl,by(try simp only[List.length_map]at *);omega,by(try simp only[List.length_map]at *);omega,by omega,?_⟩
 refine⟨(i+1,((m+((((gs.getD i (⟨[],[],0⟩:l5)).na).map sV).length))+((((gs.getD i (⟨[],[],0⟩:l5)).ru).map au).length))+1),?_,?_,rfl,rfl,rfl,trivial⟩
 refine⟨by omega,?_⟩
 (try simp only[List.length_append,List.length_cons,List.length_nil,List.length_map]);omega
 first | (solve | simp) | omega | (simp;omega)
 try simp only[nb]at j7
 refine⟨B5 (m:Int) 40,?_,?_⟩
 try dsimp only
 skip
 first | rfl | simp_all)
def pJ(gs:List l5):F8 Tryz.prog:=.mk BL 64 [aX gs] [] ((gs.length<=4)/\(∀ y,y∈gs->A9 y)) (fun x=>x.length<=1000/\m6 x) (fun x=>sV x) (fun x=>[]) (by
 rintro⟨hl,hg⟩
 refine eG (N:=89) (rs:=[.tmp 2]) (X:=BL) (post:=fun x=>x.length<=1000/\m6 x) (E:=fun x=>sV x) (H':=fun x=>[]) Tryz.func64 (by kernel_rfl) rfl rfl rfl (by kernel_rfl) [] (by intro _ k hk;simpa[lk] using hk)
  (.q 1<|.q 1<|.cx (sd gs) [] (fun (l3:Bool)=>.q 1<|.br (.q 1<|.nil) (.q 1<|.q 1<|.loop (Nat×BL) (fun (i,o)=>⟨[(0,aX gs),(3,sV o),(4,iN i)],[]⟩) (fun (i,o)=>i<=gs.length/\o.length<=200*i/\m6 o) (fun (i,o)=>gs.length-i) (fun (i,o)=>.q 4<|.br (.q 1<|.loop (Nat×BL) (fun (k,q)=>⟨[(0,aX gs),(3,sV q),(4,iN i),(5,iN k)],[]⟩) (fun (k,q)=>k<=(gs.getD i ⟨[],[],0⟩).na.length/\q.length<=200*i+20*k/\m6 q) (fun (k,q)=>(gs.getD i ⟨[],[],0⟩).na.length-k) (fun (k,q)=>.r 8 [ej ((gs.getD i (⟨[],[],0⟩:l5)).na) ((gs.getD i (⟨[],[],0⟩:l5)).ru) ((gs.getD i (⟨[],[],0⟩:l5)).wa)]<|.br (.r 13 [ej ((gs.getD i (⟨[],[],0⟩:l5)).na) ((gs.getD i (⟨[],[],0⟩:l5)).ru) ((gs.getD i (⟨[],[],0⟩:l5)).wa),sV (((gs.getD i (⟨[],[],0⟩:l5)).na).getD k [])]<|.q 3<|.nil) (.q 1<|.loop (Nat×BL) (fun (l,r)=>⟨[(0,aX gs),(3,sV r),(4,iN i),(6,iN l)],[]⟩) (fun (l,r)=>l<=(gs.getD i ⟨[],[],0⟩).ru.length/\r.length<=200*i+40+20*l/\m6 r) (fun (l,r)=>(gs.getD i ⟨[],[],0⟩).ru.length-l) (fun (l,r)=>.r 8 [ej ((gs.getD i (⟨[],[],0⟩:l5)).na) ((gs.getD i (⟨[],[],0⟩:l5)).ru) ((gs.getD i (⟨[],[],0⟩:l5)).wa)]<|.br (.q 1<|.r 9 [ej ((gs.getD i (⟨[],[],0⟩:l5)).na) ((gs.getD i (⟨[],[],0⟩:l5)).ru) ((gs.getD i (⟨[],[],0⟩:l5)).wa),.agg [bV ((((gs.getD i (⟨[],[],0⟩:l5)).ru).getD l (⟨false,[]⟩:s8)).H4),sV ((((gs.getD i (⟨[],[],0⟩:l5)).ru).getD l (⟨false,[]⟩:s8)).path)]]<|.br (.q 1<|.r 15 [ej ((gs.getD i (⟨[],[],0⟩:l5)).na) ((gs.getD i (⟨[],[],0⟩:l5)).ru) ((gs.getD i (⟨[],[],0⟩:l5)).wa),.agg [bV ((((gs.getD i (⟨[],[],0⟩:l5)).ru).getD l (⟨false,[]⟩:s8)).H4),sV ((((gs.getD i (⟨[],[],0⟩:l5)).ru).getD l (⟨false,[]⟩:s8)).path)]]<|.q 3<|.nil) (.r 15 [ej ((gs.getD i (⟨[],[],0⟩:l5)).na) ((gs.getD i (⟨[],[],0⟩:l5)).ru) ((gs.getD i (⟨[],[],0⟩:l5)).wa),.agg [bV ((((gs.getD i (⟨[],[],0⟩:l5)).ru).getD l (⟨false,[]⟩:s8)).H4),sV ((((gs.getD i (⟨[],[],0⟩:l5)).ru).getD l (⟨false,[]⟩:s8)).path)]]<|.q 3<|.nil)) (.r 6 [ej ((gs.getD i (⟨[],[],0⟩:l5)).na) ((gs.getD i (⟨[],[],0⟩:l5)).ru) ((gs.getD i (⟨[],[],0⟩:l5)).wa)]<|.br (.r 7 [ej ((gs.getD i (⟨[],[],0⟩:l5)).na) ((gs.getD i (⟨[],[],0⟩:l5)).ru) ((gs.getD i (⟨[],[],0⟩:l5)).wa)]<|.c (qD ((gs.getD i (⟨[],[],0⟩:l5)).wa)) []<|.q 3<|.q 3<|.nil) (.q 3<|.nil)))))) (.q 2<|.nil)))))
  ((fun v1:BL=>(fun v2:BL=>(fun v3:BL=>(fun v4:BL=>(fun v5:BL=>((sd gs).sm/\((gs.length<=4)/\(∀ y,y∈gs->A9 y))/\∀ l3:Bool,(True)->Br (!l3) (∃ x:BL,(x.length<=1000/\m6 x)/\Q (sV []) (sV x)) ((∃ x:Nat×BL,match x with | (j8,u7)=>(j8<=gs.length/\u7.length<=200*j8/\m6 u7)/\E (aX gs)/\Q (sV []) (sV u7)/\Q (iN 0) (iN j8)/\True)/\∀ x:Nat×BL,match x with | (i,o)=>(i<=gs.length/\o.length<=200*i/\m6 o)->(fun v6:V=>Br (s7 (i:Int) (((gs.map bw).length:Nat):Int)) ((∃ x:Nat×BL,match x with | (r6,y9)=>(r6<=(gs.getD i ⟨[],[],0⟩).na.length/\y9.length<=200*i+20*r6/\m6 y9)/\E (aX gs)/\Q (sV o) (sV y9)/\E (iN i)/\Q (iN 0) (iN r6)/\True)/\∀ x:Nat×BL,match x with | (k,q)=>(k<=(gs.getD i ⟨[],[],0⟩).na.length/\q.length<=200*i+20*k/\m6 q)->Ex (i:Int) (gs.map bw) v6/\True/\Br (s7 (k:Int) (((((gs.getD i (⟨[],[],0⟩:l5)).na).map sV).length:Nat):Int)) ((q.length+v1.length<=4611686018427387904)/\Ex (i:Int) (gs.map bw) v6/\True/\Ex (k:Int) (((gs.getD i (⟨[],[],0⟩:l5)).na).map sV) (sV (((gs.getD i (⟨[],[],0⟩:l5)).na).getD k []))/\True/\((q++v1).length+(((gs.getD i (⟨[],[],0⟩:l5)).na).getD k []).length<=4611686018427387904)/\(((q++v1)++(((gs.getD i (⟨[],[],0⟩:l5)).na).getD k [])).length+v2.length<=4611686018427387904)/\m8 ((k:Int)+1)/\∃ x:Nat×BL,match x with | (k₂,o5)=>(k₂<=(gs.getD i ⟨[],[],0⟩).na.length/\o5.length<=200*i+20*k₂/\m6 o5)/\((gs.getD i ⟨[],[],0⟩).na.length-k₂<(gs.getD i ⟨[],[],0⟩).na.length-k)/\E (aX gs)/\Q (sV (((q++v1)++(((gs.getD i (⟨[],[],0⟩:l5)).na).getD k []))++v2)) (sV o5)/\E (iN i)/\Q (iN (k+1)) (iN k₂)/\True) ((∃ x:Nat×BL,match x with | (K8,Kq)=>(K8<=(gs.getD i ⟨[],[],0⟩).ru.length/\Kq.length<=200*i+40+20*K8/\m6 Kq)/\E (aX gs)/\Q (sV q) (sV Kq)/\E (iN i)/\Q (iN 0) (iN K8)/\True)/\∀ x:Nat×BL,match x with | (l,r)=>(l<=(gs.getD i ⟨[],[],0⟩).ru.length/\r.length<=200*i+40+20*l/\m6 r)->(fun v7:V=>Ex (i:Int) (gs.map bw) v6/\True/\Br (s7 (l:Int) (((((gs.getD i (⟨[],[],0⟩:l5)).ru).map au).length:Nat):Int)) (Ex (i:Int) (gs.map bw) v6/\True/\Ex (l:Int) (((gs.getD i (⟨[],[],0⟩:l5)).ru).map au) v7/\True/\Br ((((gs.getD i (⟨[],[],0⟩:l5)).ru).getD l (⟨false,[]⟩:s8)).H4) ((r.length+v4.length<=4611686018427387904)/\Ex (i:Int) (gs.map bw) v6/\True/\Ex (l:Int) (((gs.getD i (⟨[],[],0⟩:l5)).ru).map au) v7/\True/\((r++v4).length+((((gs.getD i (⟨[],[],0⟩:l5)).ru).getD l (⟨false,[]⟩:s8)).path).length<=4611686018427387904)/\(((r++v4)++((((gs.getD i (⟨[],[],0⟩:l5)).ru).getD l (⟨false,[]⟩:s8)).path)).length+v2.length<=4611686018427387904)/\m8 ((l:Int)+1)/\∃ x:Nat×BL,match x with | (E0,B4)=>(E0<=(gs.getD i ⟨[],[],0⟩).ru.length/\B4.length<=200*i+40+20*E0/\m6 B4)/\((gs.getD i ⟨[],[],0⟩).ru.length-E0<(gs.getD i ⟨[],[],0⟩).ru.length-l)/\E (aX gs)/\Q (sV (((r++v4)++((((gs.getD i (⟨[],[],0⟩:l5)).ru).getD l (⟨false,[]⟩:s8)).path))++v2)) (sV B4)/\E (iN i)/\Q (iN (l+1)) (iN E0)/\True) ((r.length+v5.length<=4611686018427387904)/\Ex (i:Int) (gs.map bw) v6/\True/\Ex (l:Int) (((gs.getD i (⟨[],[],0⟩:l5)).ru).map au) v7/\True/\((r++v5).length+((((gs.getD i (⟨[],[],0⟩:l5)).ru).getD l (⟨false,[]⟩:s8)).path).length<=4611686018427387904)/\(((r++v5)++((((gs.getD i (⟨[],[],0⟩:l5)).ru).getD l (⟨false,[]⟩:s8)).path)).length+v2.length<=4611686018427387904)/\m8 ((l:Int)+1)/\∃ x:Nat×BL,match x with | (E0,B4)=>(E0<=(gs.getD i ⟨[],[],0⟩).ru.length/\B4.length<=200*i+40+20*E0/\m6 B4)/\((gs.getD i ⟨[],[],0⟩).ru.length-E0<(gs.getD i ⟨[],[],0⟩).ru.length-l)/\E (aX gs)/\Q (sV (((r++v5)++((((gs.getD i (⟨[],[],0⟩:l5)).ru).getD l (⟨false,[]⟩:s8)).path))++v2)) (sV B4)/\E (iN i)/\Q (iN (l+1)) (iN E0)/\True)) (Ex (i:Int) (gs.map bw) v6/\True/\Br (s9 (((gs.getD i (⟨[],[],0⟩:l5)).wa:Nat):Int) 0) ((r.length+v3.length<=4611686018427387904)/\Ex (i:Int) (gs.map bw) v6/\True/\(qD ((gs.getD i (⟨[],[],0⟩:l5)).wa)).sm/\((((gs.getD i (⟨[],[],0⟩:l5)).wa)<=1000000))/\((r++v3).length+(dj ((gs.getD i (⟨[],[],0⟩:l5)).wa)).length<=4611686018427387904)/\(((r++v3)++(dj ((gs.getD i (⟨[],[],0⟩:l5)).wa))).length+v2.length<=4611686018427387904)/\m8 ((i:Int)+1)/\∃ x:Nat×BL,match x with | (c9,m0)=>(c9<=gs.length/\m0.length<=200*c9/\m6 m0)/\(gs.length-c9<gs.length-i)/\E (aX gs)/\Q (sV (((r++v3)++(dj ((gs.getD i (⟨[],[],0⟩:l5)).wa)))++v2)) (sV m0)/\Q (iN (i+1)) (iN c9)/\True) (m8 ((i:Int)+1)/\∃ x:Nat×BL,match x with | (c9,m0)=>(c9<=gs.length/\m0.length<=200*c9/\m6 m0)/\(gs.length-c9<gs.length-i)/\E (aX gs)/\Q (sV r) (sV m0)/\Q (iN (i+1)) (iN c9)/\True))) (.agg [bV ((((gs.getD i (⟨[],[],0⟩:l5)).ru).getD l (⟨false,[]⟩:s8)).H4),sV ((((gs.getD i (⟨[],[],0⟩:l5)).ru).getD l (⟨false,[]⟩:s8)).path)]))) (∃ x:BL,(x.length<=1000/\m6 x)/\Q (sV o) (sV x))) (ej ((gs.getD i (⟨[],[],0⟩:l5)).na) ((gs.getD i (⟨[],[],0⟩:l5)).ru) ((gs.getD i (⟨[],[],0⟩:l5)).wa))))) ([98,97,114,32]:BL)) ([108,101,116,32]:BL)) ([119,97,105,116,32]:BL)) ([10]:BL)) ([99,97,108,108,101,114,32]:BL))
  (by kernel_rfl) ?_
 refine⟨rfl,⟨hl,hg⟩,?_⟩
 intro l3 G7
 refine⟨fun j7=>?_,fun j7=>?_⟩
 try simp only[nb]at j7
 refine⟨[],?_,?_⟩
 try dsimp only
 exact⟨by simp,aT⟩
 first | rfl | simp_all
 · try simp only[nb]at j7
   refine⟨⟨(0,[]),?_,rfl,rfl,rfl,trivial⟩,?_⟩
   exact⟨by simp,by simp,aT⟩
   rintro⟨i,o⟩ ⟨h1,h2,Wd⟩
   have H8:=qj hg i
   have Ro:=H8.nl
   have Rn:=H8.rl
   have hn3:=H8.w
   have hn4:=oQ (gs.getD i ⟨[],[],0⟩).wa (by omega)
   refine⟨fun j9=>?_,fun j9=>?_⟩
   · try simp only[nb]at j9
     refine⟨⟨(0,o),?_,rfl,rfl,rfl,rfl,trivial⟩,?_⟩
     exact⟨by omega,by omega,Wd⟩
     rintro⟨k,q⟩ ⟨h3,h4,h4b⟩
     have M6:=fj (gs:=gs) hg i k
     refine⟨⟨by omega,aj (d:=(⟨[],[],0⟩:l5)) (by omega)⟩,trivial,?_⟩
     refine⟨fun l8=>?_,fun l8=>?_⟩
     · try simp only[nb]at l8
       refine⟨by(try have:=fj (gs:=gs) hg i k);(try have:=fu (gs:=gs) hg i k);(try simp only[List.length_append,List.length_cons,List.length_nil]);omega,⟨by omega,aj (d:=(⟨[],[],0⟩:l5)) (by omega)⟩,trivial,⟨by omega,aj (d:=[]) (by omega)⟩,trivial,by(try have:=fj (gs:=gs) hg i k);(try have:=fu (gs:=gs) hg i k);(try simp only[List.length_append,List.length_cons,List.length_nil]);omega,by(try have:=fj (gs:=gs) hg i k);(try have:=fu (gs:=gs) hg i k);(try simp only[List.length_append,List.length_cons,List.length_nil]);omega,by omega,?_⟩
       refine⟨(k+1,((q++([99,97,108,108,101,114,32]:BL))++(((gs.getD i (⟨[],[],0⟩:l5)).na).getD k []))++([10]:BL)),?_,?_,rfl,rfl,rfl,rfl,trivial⟩
       · refine⟨by omega,?_,by(try dsimp only);repeat (first | assumption | exact aT | exact bh rfl | exact pV hg _ _ | exact pn hg _ _ | exact jL _ | apply m6.app)⟩
         (try simp only[List.length_append,List.length_cons,List.length_nil,List.length_map]);omega
       first | (solve | simp) | omega | (simp;omega)
     · try simp only[nb]at l8
       refine⟨⟨(0,q),?_,rfl,rfl,rfl,rfl,trivial⟩,?_⟩
       exact⟨by omega,by omega,h4b⟩
       rintro⟨l,r⟩ ⟨h5,h6,h6b⟩
       have Mb:=fu (gs:=gs) hg i l
       refine⟨⟨by omega,aj (d:=(⟨[],[],0⟩:l5)) (by omega)⟩,trivial,?_⟩
       refine⟨fun o4=>?_,fun o4=>?_⟩
       · try simp only[nb]at o4
         refine⟨⟨by omega,aj (d:=(⟨[],[],0⟩:l5)) (by omega)⟩,trivial,⟨by omega,aj (d:=(⟨false,[]⟩:s8)) (by omega)⟩,trivial,?_⟩
         refine⟨fun x4=>?_,fun x4=>?_⟩
         · try simp only[nb]at x4
           refine⟨by(try have:=fj (gs:=gs) hg i k);(try have:=fu (gs:=gs) hg i k);(try simp only[List.length_append,List.length_cons,List.length_nil]);omega,⟨by omega,aj (d:=(⟨[],[],0⟩:l5)) (by omega)⟩,trivial,⟨by omega,aj (d:=(⟨false,[]⟩:s8)) (by omega)⟩,trivial,by(try have:=fj (gs:=gs) hg i k);(try have:=fu (gs:=gs) hg i k);(try simp only[List.length_append,List.length_cons,List.length_nil]);omega,by(try have:=fj (gs:=gs) hg i k);(try have:=fu (gs:=gs) hg i k);(try simp only[List.length_append,List.length_cons,List.length_nil]);omega,by omega,?_⟩
           refine⟨(l+1,((r++([108,101,116,32]:BL))++((((gs.getD i (⟨[],[],0⟩:l5)).ru).getD l (⟨false,[]⟩:s8)).path))++([10]:BL)),?_,?_,rfl,rfl,rfl,rfl,trivial⟩
           · refine⟨by omega,?_,by(try dsimp only);repeat (first | assumption | exact aT | exact bh rfl | exact pV hg _ _ | exact pn hg _ _ | exact jL _ | apply m6.app)⟩
             (try simp only[List.length_append,List.length_cons,List.length_nil,List.length_map]);omega
           first | (solve | simp) | omega | (simp;omega)
         · try simp only[nb]at x4
           refine⟨by(try have:=fj (gs:=gs) hg i k);(try have:=fu (gs:=gs) hg i k);(try simp only[List.length_append,List.length_cons,List.length_nil]);omega,⟨by omega,aj (d:=(⟨[],[],0⟩:l5)) (by omega)⟩,trivial,⟨by omega,aj (d:=(⟨false,[]⟩:s8)) (by omega)⟩,trivial,by(try have:=fj (gs:=gs) hg i k);(try have:=fu (gs:=gs) hg i k);(try simp only[List.length_append,List.length_cons,List.length_nil]);omega,by(try have:=fj (gs:=gs) hg i k);(try have:=fu (gs:=gs) hg i k);(try simp only[List.length_append,List.length_cons,List.length_nil]);omega,by omega,?_⟩
           refine⟨(l+1,((r++([98,97,114,32]:BL))++((((gs.getD i (⟨[],[],0⟩:l5)).ru).getD l (⟨false,[]⟩:s8)).path))++([10]:BL)),?_,?_,rfl,rfl,rfl,rfl,trivial⟩
           · refine⟨by omega,?_,by(try dsimp only);repeat (first | assumption | exact aT | exact bh rfl | exact pV hg _ _ | exact pn hg _ _ | exact jL _ | apply m6.app)⟩
             (try simp only[List.length_append,List.length_cons,List.length_nil,List.length_map]);omega
           first | (solve | simp) | omega | (simp;omega)
       · try simp only[nb]at o4
         refine⟨⟨by omega,aj (d:=(⟨[],[],0⟩:l5)) (by omega)⟩,trivial,?_⟩
         refine⟨fun E'=>?_,fun E'=>?_⟩
         · try simp only[nb]at E'
           refine⟨by(try have:=fj (gs:=gs) hg i k);(try have:=fu (gs:=gs) hg i k);(try simp only[List.length_append,List.length_cons,List.length_nil]);omega,⟨by omega,aj (d:=(⟨[],[],0⟩:l5)) (by omega)⟩,trivial,rfl,by omega,by(try have:=fj (gs:=gs) hg i k);(try have:=fu (gs:=gs) hg i k);(try simp only[List.length_append,List.length_cons,List.length_nil]);omega,by(try have:=fj (gs:=gs) hg i k);(try have:=fu (gs:=gs) hg i k);(try simp only[List.length_append,List.length_cons,List.length_nil]);omega,by omega,?_⟩
           refine⟨(i+1,((r++([119,97,105,116,32]:BL))++(dj ((gs.getD i (⟨[],[],0⟩:l5)).wa)))++([10]:BL)),?_,?_,rfl,rfl,rfl,trivial⟩
           · refine⟨by omega,?_,by(try dsimp only);repeat (first | assumption | exact aT | exact bh rfl | exact pV hg _ _ | exact pn hg _ _ | exact jL _ | apply m6.app)⟩
             (try simp only[List.length_append,List.length_cons,List.length_nil,List.length_map]);omega
           first | (solve | simp) | omega | (simp;omega)
         · try simp only[nb]at E'
           refine⟨by omega,?_⟩
           refine⟨(i+1,r),?_,?_,rfl,rfl,rfl,trivial⟩
           · refine⟨by omega,?_,by(try dsimp only);repeat (first | assumption | exact aT | exact bh rfl | exact pV hg _ _ | exact pn hg _ _ | exact jL _ | apply m6.app)⟩
             (try simp only[List.length_append,List.length_cons,List.length_nil,List.length_map]);omega
           first | (solve | simp) | omega | (simp;omega)
   try simp only[nb]at j9
   refine⟨o,?_,?_⟩
   try dsimp only
   exact⟨by omega,Wd⟩
   first | rfl | simp_all)
abbrev eP(b:BL)(p:Nat)(g:Nat)(n:Nat)(e':List Pg)(q':Nat)(u':Nat)(f':Nat)(k':Nat):Prop:=e'.length+n<=12/\(1<=e'.length\/2<=n)/\(∀ y,y∈e'->n0 y)/\p<=q'/\q'+100*n<=p+1300
def so(b:BL)(p:Nat)(g:Nat):F8 Tryz.prog:=.mk (List Pg×Nat) 34 [.ptr (.key 1000) [] g 0] [(1000,(g,ar b p))] ((b.length<=2000)/\(p<=700000)) (fun x=>1<=x.1.length/\x.1.length<=12/\(∀ y,y∈x.1->n0 y)/\p<=x.2/\x.2<=p+1500) (fun x=>.ow 4 (x.1.map r8)) (fun x=>[(1000,(g,ar b x.2))]) (by
 rintro⟨hb,hp⟩
 refine eG (N:=94) (rs:=[.tmp 2]) (X:=List Pg×Nat) (post:=fun x=>1<=x.1.length/\x.1.length<=12/\(∀ y,y∈x.1->n0 y)/\p<=x.2/\x.2<=p+1500) (E:=fun x=>.ow 4 (x.1.map r8)) (H':=fun x=>[(1000,(g,.agg [.sl false (b.map n7),iN x.2]))]) Tryz.func34 (by kernel_rfl) rfl rfl rfl (by kernel_rfl) [(1000,(0,.b9))] (by intro _ k hk;simpa[lk] using hk)
  (.q 1<|.bs<|.q 1<|.c (kj) []<|.q 1<|.q 1<|.h (.H3 3 4)<|.loop (Nat×(List Pg)×Nat×Nat×Nat×Nat) (fun (i,e,q,u,f,k)=>⟨[(0,.ptr (.key 1000) [] g 0),(3,.own 4 (e.map r8) u f k),(4,ax aM),(5,iN i)],[(1000,(g,ar b q))]⟩) (fun (i,e,q,u,f,k)=>i<=4/\e.length<=i/\(∀ y,y∈e->n0 y)/\p<=q/\q<=p+90*i) (fun (i,e,q,u,f,k)=>4-i) (fun (i,e,q,u,f,k)=>.q 2<|.br (.q 1<|.cx (aU b q g 2) [(1000,1000)] (fun (C7:Nat)=>.q 1<|.br (.dx 16 [0,1,2,3,4,5,6,9,10,7,8,11,12,13,14,15] [(3,⟨false,[],some [],[23],[]⟩),(7,⟨true,[],some [1000],[27],[1000]⟩),(8,⟨true,[],some [],[28],[]⟩),(11,⟨true,[],some [1000],[31],[1000]⟩),(13,⟨false,[],some [],[33],[]⟩)] [(15,lZ)]<|.q 1<|.q 1<|.r 1 [sV (aM.getD i [])]<|.q 1<|.q 1<|.q 1<|.q 1<|.bs<|.q 1<|.cx (qS b (q+1) g) [(1000,1000)] (fun (D2:List l5×Nat)=>.cx (pJ D2.1) [] (fun (LH:BL)=>.cx (aU b D2.2 g 6) [(1000,1000)] (fun (B0:Nat)=>.r 1 [iV ([0,0,0,1,2,5].getD B0 0)]<|.q 1<|.bd lZ<|.ua (fun g6=>.st none<|.q 1<|.cx (aU b (D2.2+1) g 12) [(1000,1000)] (fun (LV:Nat)=>.q 1<|.join (Pg×Nat) (fun y=>⟨[(0,.ptr (.key 1000) [] g 0),(3,.own 4 (e.map r8) u f k),(4,ax aM),(5,iN i),(13,iN i),(14,bV (s7 (i:Int) 4)),(17,.ptr (.key 1000) [] g 0),(18,iN C7),(19,bV (r4 (C7:Int) 0)),(20,ax aM),(21,iN i),(22,.ep (sV (aM.getD i []))),(23,sV (aM.getD i [])),(24,sV (([47,47]:BL)++(aM.getD i []))),(25,sV ((([47,47]:BL)++(aM.getD i []))++([47,110,111,116,105,99,101]:BL))),(26,.ptr (.key 1000) [] g 0),(29,.sl true ([0,0,0,1,2,5].map iV)),(30,.ptr (.key 1000) [] g 0),(27,aX D2.1),(28,sV LH),(31,iN B0),(32,.ep (iV ([0,0,0,1,2,5].getD B0 0))),(33,iV ([0,0,0,1,2,5].getD B0 0)),(34,.agg [sV ((([47,47]:BL)++(aM.getD i []))++([47,110,111,116,105,99,101]:BL)),sV LH,sV [],iV ([0,0,0,1,2,5].getD B0 0)]),(6,.ptr (.key 6) [] g6 0),(35,.ptr (.key 1000) [] g 0),(36,iN LV),(37,bV (r4 (LV:Int) 0))],[(1000,(g,ar b y.2)),(6,(g6,bP y.1.addr y.1.text y.1.lead y.1.m4))]⟩) (fun y=>y.1.addr.length<=30/\y.1.lead.length<=30/\y.1.text.length<=1000/\(0<=y.1.m4/\y.1.m4<=10)/\q<=y.2/\y.2<=q+80/\m6 y.1.addr/\m6 y.1.lead/\m6 y.1.text) (.q 1<|.st none<|.q 1<|.cx (dS b ((D2.2+1)+1) g) [(1000,1000)] (fun (D9:BL×Nat)=>.q 1<|.st none<|.nil)) (.nil) (fun y=>.r 4 [.b9]<|.br (.r 2 [.b9]<|.bs<|.ap (fun QH P5 QW=>.h (.o9 49 (.own 4 ((e++[y.1]).map r8) QH P5 QW))<|.q 1<|.q 3<|.nil)) (.q 3<|.nil)))))))) (.q 3<|.nil))) (.q 1<|.cx (aU b q g 7) [(1000,1000)] (fun (Ll:Nat)=>.q 2<|.loop (Nat×(List Pg)×Nat×Nat×Nat×Nat) (fun (n,e',q',u',f',k')=>⟨[(0,.ptr (.key 1000) [] g 0),(3,.own 4 (e'.map r8) u' f' k'),(7,iN n)],[(1000,(g,ar b q'))]⟩) (fun (n,e',q',u',f',k')=>eP b p g n e' q' u' f' k') (fun (n,e',q',u',f',k')=>n) (fun (n,e',q',u',f',k')=>.q 2<|.br (.q 1<|.cx (dS b q' g) [(1000,1000)] (fun (C6:BL×Nat)=>.q 1<|.cx (uI b C6.2 g) [(1000,1000)] (fun (x8:BL×Nat)=>.bs<|.q 1<|.cx (aU b x8.2 g 7) [(1000,1000)] (fun (B3:Nat)=>.r 2 [iV ([0,0,0,0,1,2,4].getD B3 0)]<|.bd lZ<|.al lZ (fun g8=>.st none<|.q 1<|.cx (aU b (x8.2+1) g 8) [(1000,1000)] (fun (Kz:Nat)=>.q 1<|.join (Pg×Nat) (fun y=>⟨[(0,.ptr (.key 1000) [] g 0),(3,.own 4 (e'.map r8) u' f' k'),(7,iN n),(53,iN n),(54,bV (s9 (n:Int) 0)),(57,.ptr (.key 1000) [] g 0),(58,sV C6.1),(59,.ptr (.key 1000) [] g 0),(60,sV x8.1),(61,.sl true ([0,0,0,0,1,2,4].map iV)),(62,.ptr (.key 1000) [] g 0),(63,iN B3),(64,.ep (iV ([0,0,0,0,1,2,4].getD B3 0))),(65,iV ([0,0,0,0,1,2,4].getD B3 0)),(66,.agg [sV C6.1,sV x8.1,sV [],iV ([0,0,0,0,1,2,4].getD B3 0)]),(8,.ptr (.key 8) [] g8 0),(67,.ptr (.key 1000) [] g 0),(68,iN Kz),(69,bV (r4 (Kz:Int) 0))],[(1000,(g,ar b y.2)),(8,(g8,bP y.1.addr y.1.text y.1.lead y.1.m4))]⟩) (fun y=>n0 y.1/\q'<=y.2/\y.2<=q'+90) (.q 1<|.st none<|.q 1<|.cx (dS b ((x8.2+1)+1) g) [(1000,1000)] (fun (Kn:BL×Nat)=>.q 1<|.st none<|.nil)) (.nil) (fun y=>.r 3 [.b9]<|.cl (GD e' y.1.addr)<|.q 3<|.al lZ (fun g9=>.st none<|.q 1<|.r 8 [.b9]<|.br (.r 2 [.b9]<|.bs<|.ap (fun Qy PW QM=>.h (.o9 92 (.own 4 ((e'++[y.1]).map r8) Qy PW QM))<|.q 1<|.q 2<|.h (.o9 56 (iN (n-1)))<|.q 1<|.nil)) (.q 2<|.h (.o9 56 (iN (n-1)))<|.q 1<|.nil))))))))) (.q 2<|.h (.gg 2)<|.nil))))))
  ((fun v1:V=>(fun v2:BL=>(fun v3:BL=>(fun v4:V=>((kj).sm/\(True)/\(∃ x:Nat×(List Pg)×Nat×Nat×Nat×Nat,match x with | (j8,C9,y9,G6,y7,r6)=>(j8<=4/\C9.length<=j8/\(∀ y,y∈C9->n0 y)/\p<=y9/\y9<=p+90*j8)/\E v1/\Q (.own 4 ([].map r8) 0 0 0) (.own 4 (C9.map r8) G6 y7 r6)/\E v4/\Q (iN 0) (iN j8)/\Qr g (ar b p) g (ar b y9)/\True)/\∀ x:Nat×(List Pg)×Nat×Nat×Nat×Nat,match x with | (i,e,q,u,f,k)=>(i<=4/\e.length<=i/\(∀ y,y∈e->n0 y)/\p<=q/\q<=p+90*i)->(fun v5:V=>(fun v6:V=>Br (s7 (i:Int) 4) ((aU b q g 2).sm/\Er g (ar b q)/\((b.length<=2000)/\(q<=1000000)/\(2<=1000000))/\∀ C7:Nat,(2=0/\C7=0\/C7<2)->Br (r4 (C7:Int) 0) (Ex (i:Int) (aM.map sV) v6/\True/\(v3.length+(aM.getD i []).length<=4611686018427387904)/\((v3++(aM.getD i [])).length+v2.length<=4611686018427387904)/\(qS b (q+1) g).sm/\Er g (ar b (q+1))/\((b.length<=2000)/\((q+1)<=800000))/\∀ D2:List l5×Nat,(D2.1.length<=4/\(∀ y,y∈D2.1->A9 y)/\(q+1)<=D2.2/\D2.2<=(q+1)+60)->(pJ D2.1).sm/\((D2.1.length<=4)/\(∀ y,y∈D2.1->A9 y))/\∀ LH:BL,(LH.length<=1000/\m6 LH)->(aU b D2.2 g 6).sm/\Er g (ar b D2.2)/\((b.length<=2000)/\(D2.2<=1000000)/\(6<=1000000))/\∀ B0:Nat,(6=0/\B0=0\/B0<6)->(fun v7:V=>Ex (B0:Int) ([0,0,0,1,2,5].map iV) (iV ([0,0,0,1,2,5].getD B0 0))/\True/\∀ g6:Nat,Z g6 0/\(aU b (D2.2+1) g 12).sm/\Er g (ar b (D2.2+1))/\((b.length<=2000)/\((D2.2+1)<=1000000)/\(12<=1000000))/\∀ LV:Nat,(12=0/\LV=0\/LV<12)->(fun v8:Bool=>(v8=true->Z g6 1/\(dS b ((D2.2+1)+1) g).sm/\Er g (ar b ((D2.2+1)+1))/\((b.length<=2000)/\(((D2.2+1)+1)<=900000))/\∀ D9:BL×Nat,(D9.1.length<=25/\((D2.2+1)+1)<=D9.2/\D9.2<=((D2.2+1)+1)+6/\m6 D9.1)->Z g6 2/\∃ y:Pg×Nat,(y.1.addr.length<=30/\y.1.lead.length<=30/\y.1.text.length<=1000/\(0<=y.1.m4/\y.1.m4<=10)/\q<=y.2/\y.2<=q+80/\m6 y.1.addr/\m6 y.1.lead/\m6 y.1.text)/\E v1/\E v5/\E v4/\E (iN i)/\E (iN i)/\E (bV (s7 (i:Int) 4))/\E v1/\E (iN C7)/\E (bV (r4 (C7:Int) 0))/\E v4/\E (iN i)/\E (.ep v6)/\E v6/\E (sV (v3++(aM.getD i [])))/\E (sV ((v3++(aM.getD i []))++v2))/\E v1/\E (.sl true ([0,0,0,1,2,5].map iV))/\E v1/\E (aX D2.1)/\E (sV LH)/\E (iN B0)/\E (.ep (iV ([0,0,0,1,2,5].getD B0 0)))/\E (iV ([0,0,0,1,2,5].getD B0 0))/\E v7/\E (.ptr (.key 6) [] g6 0)/\E v1/\E (iN LV)/\E (bV v8)/\Qr g (ar b D9.2) g (ar b y.2)/\Qr g6 (.agg [sV ((v3++(aM.getD i []))++v2),sV [],sV D9.1,iV ([0,0,0,1,2,5].getD B0 0)]) g6 (bP y.1.addr y.1.text y.1.lead y.1.m4)/\True)/\(v8=false->∃ y:Pg×Nat,(y.1.addr.length<=30/\y.1.lead.length<=30/\y.1.text.length<=1000/\(0<=y.1.m4/\y.1.m4<=10)/\q<=y.2/\y.2<=q+80/\m6 y.1.addr/\m6 y.1.lead/\m6 y.1.text)/\E v1/\E v5/\E v4/\E (iN i)/\E (iN i)/\E (bV (s7 (i:Int) 4))/\E v1/\E (iN C7)/\E (bV (r4 (C7:Int) 0))/\E v4/\E (iN i)/\E (.ep v6)/\E v6/\E (sV (v3++(aM.getD i [])))/\E (sV ((v3++(aM.getD i []))++v2))/\E v1/\E (.sl true ([0,0,0,1,2,5].map iV))/\E v1/\E (aX D2.1)/\E (sV LH)/\E (iN B0)/\E (.ep (iV ([0,0,0,1,2,5].getD B0 0)))/\E (iV ([0,0,0,1,2,5].getD B0 0))/\E v7/\E (.ptr (.key 6) [] g6 0)/\E v1/\E (iN LV)/\E (bV v8)/\Qr g (ar b ((D2.2+1)+1)) g (ar b y.2)/\Qr g6 v7 g6 (bP y.1.addr y.1.text y.1.lead y.1.m4)/\True)/\(∀ y:Pg×Nat,(y.1.addr.length<=30/\y.1.lead.length<=30/\y.1.text.length<=1000/\(0<=y.1.m4/\y.1.m4<=10)/\q<=y.2/\y.2<=q+80/\m6 y.1.addr/\m6 y.1.lead/\m6 y.1.text)->Z g6 1/\Br (B5 (y.1.text.length:Int) 300) (Z g6 0/\((4,4,u,f,k,(e.map r8).length)=(4,4,u,f,k,(e.map r8).length))/\(True)/\(V.aD ([bP y.1.addr y.1.text y.1.lead y.1.m4]:List V)=false)/\(aG 4 ([bP y.1.addr y.1.text y.1.lead y.1.m4]:List V))/\(((e.map r8).length+([bP y.1.addr y.1.text y.1.lead y.1.m4]:List V).length)*56<=140737488355328)/\∀ QH P5 QW:Nat,((.own 4 ((e.map r8)++([bP y.1.addr y.1.text y.1.lead y.1.m4]:List V)) QH P5 QW:V)=.own 4 ((e++[y.1]).map r8) QH P5 QW)/\m8 ((i:Int)+1)/\∃ x:Nat×(List Pg)×Nat×Nat×Nat×Nat,match x with | (c9,w6,o5,A5,r7,k₂)=>(c9<=4/\w6.length<=c9/\(∀ y,y∈w6->n0 y)/\p<=o5/\o5<=p+90*c9)/\(4-c9<4-i)/\E v1/\Q (.own 4 ((e++[y.1]).map r8) QH P5 QW) (.own 4 (w6.map r8) A5 r7 k₂)/\E v4/\Q (iN (i+1)) (iN c9)/\Qr g (ar b y.2) g (ar b o5)/\True) (m8 ((i:Int)+1)/\∃ x:Nat×(List Pg)×Nat×Nat×Nat×Nat,match x with | (c9,w6,o5,A5,r7,k₂)=>(c9<=4/\w6.length<=c9/\(∀ y,y∈w6->n0 y)/\p<=o5/\o5<=p+90*c9)/\(4-c9<4-i)/\E v1/\Q v5 (.own 4 (w6.map r8) A5 r7 k₂)/\E v4/\Q (iN (i+1)) (iN c9)/\Qr g (ar b y.2) g (ar b o5)/\True))) (r4 (LV:Int) 0)) (.agg [sV ((v3++(aM.getD i []))++v2),sV LH,sV [],iV ([0,0,0,1,2,5].getD B0 0)])) (m8 ((i:Int)+1)/\∃ x:Nat×(List Pg)×Nat×Nat×Nat×Nat,match x with | (c9,w6,o5,A5,r7,k₂)=>(c9<=4/\w6.length<=c9/\(∀ y,y∈w6->n0 y)/\p<=o5/\o5<=p+90*c9)/\(4-c9<4-i)/\E v1/\Q v5 (.own 4 (w6.map r8) A5 r7 k₂)/\E v4/\Q (iN (i+1)) (iN c9)/\Qr g (ar b (q+1)) g (ar b o5)/\True)) ((aU b q g 7).sm/\Er g (ar b q)/\((b.length<=2000)/\(q<=1000000)/\(7<=1000000))/\∀ Ll:Nat,(7=0/\Ll=0\/Ll<7)->m8 (2+(Ll:Int))/\(∃ x:Nat×(List Pg)×Nat×Nat×Nat×Nat,match x with | (I8,QK,PV,PT,QJ,Qd)=>(eP b p g I8 QK PV PT QJ Qd)/\E v1/\Q v5 (.own 4 (QK.map r8) PT QJ Qd)/\Q (iN (2+Ll)) (iN I8)/\Qr g (ar b (q+1)) g (ar b PV)/\True)/\∀ x:Nat×(List Pg)×Nat×Nat×Nat×Nat,match x with | (n,e',q',u',f',k')=>(eP b p g n e' q' u' f' k')->(fun v9:V=>Br (s9 (n:Int) 0) ((dS b q' g).sm/\Er g (ar b q')/\((b.length<=2000)/\(q'<=900000))/\∀ C6:BL×Nat,(C6.1.length<=25/\q'<=C6.2/\C6.2<=q'+6/\m6 C6.1)->(uI b C6.2 g).sm/\Er g (ar b C6.2)/\((b.length<=2000)/\(C6.2<=880000))/\∀ x8:BL×Nat,(x8.1.length<=240/\C6.2<=x8.2/\x8.2<=C6.2+70/\m6 x8.1)->(aU b x8.2 g 7).sm/\Er g (ar b x8.2)/\((b.length<=2000)/\(x8.2<=1000000)/\(7<=1000000))/\∀ B3:Nat,(7=0/\B3=0\/B3<7)->(fun v10:V=>Ex (B3:Int) ([0,0,0,0,1,2,4].map iV) (iV ([0,0,0,0,1,2,4].getD B3 0))/\True/\∀ g8:Nat,Z g8 0/\(aU b (x8.2+1) g 8).sm/\Er g (ar b (x8.2+1))/\((b.length<=2000)/\((x8.2+1)<=1000000)/\(8<=1000000))/\∀ Kz:Nat,(8=0/\Kz=0\/Kz<8)->(fun v11:Bool=>(v11=true->Z g8 1/\(dS b ((x8.2+1)+1) g).sm/\Er g (ar b ((x8.2+1)+1))/\((b.length<=2000)/\(((x8.2+1)+1)<=900000))/\∀ Kn:BL×Nat,(Kn.1.length<=25/\((x8.2+1)+1)<=Kn.2/\Kn.2<=((x8.2+1)+1)+6/\m6 Kn.1)->Z g8 2/\∃ y:Pg×Nat,(n0 y.1/\q'<=y.2/\y.2<=q'+90)/\E v1/\E v9/\E (iN n)/\E (iN n)/\E (bV (s9 (n:Int) 0))/\E v1/\E (sV C6.1)/\E v1/\E (sV x8.1)/\E (.sl true ([0,0,0,0,1,2,4].map iV))/\E v1/\E (iN B3)/\E (.ep (iV ([0,0,0,0,1,2,4].getD B3 0)))/\E (iV ([0,0,0,0,1,2,4].getD B3 0))/\E v10/\E (.ptr (.key 8) [] g8 0)/\E v1/\E (iN Kz)/\E (bV v11)/\Qr g (ar b Kn.2) g (ar b y.2)/\Qr g8 (.agg [sV C6.1,sV [],sV Kn.1,iV ([0,0,0,0,1,2,4].getD B3 0)]) g8 (bP y.1.addr y.1.text y.1.lead y.1.m4)/\True)/\(v11=false->∃ y:Pg×Nat,(n0 y.1/\q'<=y.2/\y.2<=q'+90)/\E v1/\E v9/\E (iN n)/\E (iN n)/\E (bV (s9 (n:Int) 0))/\E v1/\E (sV C6.1)/\E v1/\E (sV x8.1)/\E (.sl true ([0,0,0,0,1,2,4].map iV))/\E v1/\E (iN B3)/\E (.ep (iV ([0,0,0,0,1,2,4].getD B3 0)))/\E (iV ([0,0,0,0,1,2,4].getD B3 0))/\E v10/\E (.ptr (.key 8) [] g8 0)/\E v1/\E (iN Kz)/\E (bV v11)/\Qr g (ar b ((x8.2+1)+1)) g (ar b y.2)/\Qr g8 v10 g8 (bP y.1.addr y.1.text y.1.lead y.1.m4)/\True)/\(∀ y:Pg×Nat,(n0 y.1/\q'<=y.2/\y.2<=q'+90)->(fun v12:List V=>(fun Ld:Bool=>Z g8 0/\(((4=4/\u'=u'/\f'=f')/\0+((e'.map r8).length)<=(e'.map r8).length/\V.aD (e'.map r8)=false/\aG 4 (e'.map r8))/\True)/\(([.sl false (((e'.map r8).drop 0).take ((e'.map r8).length)),sV y.1.addr]:List V)=[bN e',sV y.1.addr])/\((e'.length<=1000000))/\∀ g9:Nat,Z g9 0/\Gd (Ld==true) (Z g8 1)/\Pk Ld (Ld==true) true/\Br (Ld&&(B5 (y.1.text.length:Int) 300)) (Z g8 0/\((4,4,u',f',k',(e'.map r8).length)=(4,4,u',f',k',(e'.map r8).length))/\(True)/\(V.aD v12=false)/\(aG 4 v12)/\(((e'.map r8).length+v12.length)*56<=140737488355328)/\∀ Qy PW QM:Nat,((.own 4 ((e'.map r8)++v12) Qy PW QM:V)=.own 4 ((e'++[y.1]).map r8) Qy PW QM)/\m8 ((n:Int)-1)/\Q (iV ((n:Int)-1)) (iN (n-1))/\∃ x:Nat×(List Pg)×Nat×Nat×Nat×Nat,match x with | (u9,ML,Mo,Mk,MK,Mt)=>(eP b p g u9 ML Mo Mk MK Mt)/\(u9<n)/\E v1/\Q (.own 4 ((e'++[y.1]).map r8) Qy PW QM) (.own 4 (ML.map r8) Mk MK Mt)/\Q (iN (n-1)) (iN u9)/\Qr g (ar b y.2) g (ar b Mo)/\True) (m8 ((n:Int)-1)/\Q (iV ((n:Int)-1)) (iN (n-1))/\∃ x:Nat×(List Pg)×Nat×Nat×Nat×Nat,match x with | (u9,ML,Mo,Mk,MK,Mt)=>(eP b p g u9 ML Mo Mk MK Mt)/\(u9<n)/\E v1/\Q v9 (.own 4 (ML.map r8) Mk MK Mt)/\Q (iN (n-1)) (iN u9)/\Qr g (ar b y.2) g (ar b Mo)/\True)) (!((z8 e' y.1.addr).2))) ([bP y.1.addr y.1.text y.1.lead y.1.m4]:List V))) (r4 (Kz:Int) 0)) (.agg [sV C6.1,sV x8.1,sV [],iV ([0,0,0,0,1,2,4].getD B3 0)])) (((4,u',f',k',(e'.map r8).length)=(4,u',f',k',(e'.map r8).length))/\∃ x:List Pg×Nat,(1<=x.1.length/\x.1.length<=12/\(∀ y,y∈x.1->n0 y)/\p<=x.2/\x.2<=p+1500)/\Q (.ow 4 (e'.map r8)) (.ow 4 (x.1.map r8))/\Qr g (ar b q') g (ar b x.2))) (.own 4 (e'.map r8) u' f' k'))) (sV (aM.getD i []))) (.own 4 (e.map r8) u f k))) (ax aM)) ([47,47]:BL)) ([47,110,111,116,105,99,101]:BL)) (.ptr (.key 1000) [] g 0))
  (by kernel_rfl) ?_
 refine⟨rfl,trivial,?_⟩
 refine⟨⟨(0,[],p,0,0,0),?_,rfl,rfl,rfl,rfl,rfl,trivial⟩,?_⟩
 simp
 rintro⟨i,e,q,u,f,k⟩ ⟨h1,h2,h3,h4,h5⟩
 refine⟨fun j7=>?_,fun j7=>?_⟩
 · try simp only[nb]at j7
   refine⟨rfl,rfl,⟨by omega,by omega,by omega⟩,?_⟩
   intro C7 Ol
   refine⟨fun j9=>?_,fun j9=>?_⟩
   · try simp only[nb]at j9
     refine⟨DV (by show _<4;omega),trivial,by have:=cC (l:=aM) (n:=3) rfl i;simp only[List.length_append,List.length_cons,List.length_nil];omega,by have:=cC (l:=aM) (n:=3) rfl i;simp only[List.length_append,List.length_cons,List.length_nil];omega,rfl,rfl,⟨by omega,by omega⟩,?_⟩
     intro D2 Qf
     refine⟨rfl,⟨by have:=Qf.1;exact this,by have:=Qf.2.1;exact this⟩,?_⟩
     intro LH I3
     refine⟨rfl,rfl,⟨by omega,by omega,by omega⟩,?_⟩
     intro B0 Un
     refine⟨Hm (by simp;omega),trivial,?_⟩
     intro g6
     refine⟨rfl,rfl,rfl,⟨by omega,by omega,by omega⟩,?_⟩
     intro LV VK
     refine⟨fun l8=>?_,fun l8=>?_,fun y hy=>?_⟩
     · try simp only[nb]at l8
       refine⟨rfl,rfl,rfl,⟨by omega,by omega⟩,?_⟩
       intro D9 E1
       refine⟨rfl,?_⟩
       exact⟨((⟨(([47,47]:BL)++(aM.getD i []))++([47,110,111,116,105,99,101]:BL),[],D9.1,([0,0,0,1,2,5].getD B0 0)⟩:Pg),D9.2),⟨by(try have:=cC (l:=aM) (n:=3) rfl i);(try simp only[List.length_append,List.length_cons,List.length_nil]);omega,by(try have:=cC (l:=aM) (n:=3) rfl i);(try simp only[List.length_append,List.length_cons,List.length_nil]);omega,by(try have:=cC (l:=aM) (n:=3) rfl i);(try simp only[List.length_append,List.length_cons,List.length_nil]);omega,nY rfl _,by omega,by omega,by(try dsimp only);repeat (first | assumption | exact E1.2.2.2 | exact E9.2.2.2 | exact E7.2.2.2 | exact aT | exact bh rfl | exact I3.2 | exact E8.2.2.2 | exact dF rfl i | apply m6.app),by(try dsimp only);repeat (first | assumption | exact E1.2.2.2 | exact E9.2.2.2 | exact E7.2.2.2 | exact aT | exact bh rfl | exact I3.2 | exact E8.2.2.2 | exact dF rfl i | apply m6.app),by(try dsimp only);repeat (first | assumption | exact E1.2.2.2 | exact E9.2.2.2 | exact E7.2.2.2 | exact aT | exact bh rfl | exact I3.2 | exact E8.2.2.2 | exact dF rfl i | apply m6.app)⟩,rfl,rfl,rfl,rfl,rfl,rfl,rfl,rfl,rfl,rfl,rfl,rfl,rfl,rfl,rfl,rfl,rfl,rfl,rfl,rfl,rfl,rfl,rfl,rfl,rfl,rfl,rfl,rfl,by first | rfl | simp | (simp;omega),by first | rfl | simp | (simp;omega),trivial⟩
     · try simp only[nb]at l8
       exact⟨((⟨(([47,47]:BL)++(aM.getD i []))++([47,110,111,116,105,99,101]:BL),LH,[],([0,0,0,1,2,5].getD B0 0)⟩:Pg),(D2.2+1)+1),⟨by(try have:=cC (l:=aM) (n:=3) rfl i);(try simp only[List.length_append,List.length_cons,List.length_nil]);omega,by(try have:=cC (l:=aM) (n:=3) rfl i);(try simp only[List.length_append,List.length_cons,List.length_nil]);omega,by(try have:=cC (l:=aM) (n:=3) rfl i);(try simp only[List.length_append,List.length_cons,List.length_nil]);omega,nY rfl _,by omega,by omega,by(try dsimp only);repeat (first | assumption | exact E1.2.2.2 | exact E9.2.2.2 | exact E7.2.2.2 | exact aT | exact bh rfl | exact I3.2 | exact E8.2.2.2 | exact dF rfl i | apply m6.app),by(try dsimp only);repeat (first | assumption | exact E1.2.2.2 | exact E9.2.2.2 | exact E7.2.2.2 | exact aT | exact bh rfl | exact I3.2 | exact E8.2.2.2 | exact dF rfl i | apply m6.app),by(try dsimp only);repeat (first | assumption | exact E1.2.2.2 | exact E9.2.2.2 | exact E7.2.2.2 | exact aT | exact bh rfl | exact I3.2 | exact E8.2.2.2 | exact dF rfl i | apply m6.app)⟩,rfl,rfl,rfl,rfl,rfl,rfl,rfl,rfl,rfl,rfl,rfl,rfl,rfl,rfl,rfl,rfl,rfl,rfl,rfl,rfl,rfl,rfl,rfl,rfl,rfl,rfl,rfl,rfl,by first | rfl | simp | (simp;omega),by first | rfl | simp | (simp;omega),trivial⟩
     refine⟨rfl,?_⟩
     refine⟨fun o4=>?_,fun o4=>?_⟩
     try simp only[nb]at o4
     refine⟨rfl,rfl,trivial,rfl,by simp[aG,V.n,V.ns],by simp;omega,?_⟩
     intro QH P5 QW
     refine⟨congrArg (V.own 4 · QH P5 QW) (by simp),by omega,?_⟩
     refine⟨(i+1,e++[y.1],y.2,QH,P5,QW),?_,?_,rfl,rfl,rfl,rfl,rfl,trivial⟩
     refine⟨by omega,by(try simp only[List.length_append,List.length_cons,List.length_nil,List.length_map]);omega,fE h3 ⟨hy.1,by omega,hy.2.1,hy.2.2.2.1,hy.2.2.2.2.2.2.1,hy.2.2.2.2.2.2.2.1,hy.2.2.2.2.2.2.2.2⟩,by omega,by omega⟩
     first | (solve | simp) | omega | (simp;omega)
     try simp only[nb]at o4
     refine⟨by omega,?_⟩
     refine⟨(i+1,e,y.2,u,f,k),?_,?_,rfl,rfl,rfl,rfl,rfl,trivial⟩
     exact⟨by omega,by omega,h3,by omega,by omega⟩
     first | (solve | simp) | omega | (simp;omega)
   try simp only[nb]at j9
   refine⟨by omega,?_⟩
   refine⟨(i+1,e,q+1,u,f,k),?_,?_,rfl,rfl,rfl,rfl,rfl,trivial⟩
   exact⟨by omega,by omega,h3,by omega,by omega⟩
   first | (solve | simp) | omega | (simp;omega)
 · try simp only[nb]at j7
   refine⟨rfl,rfl,⟨by omega,by omega,by omega⟩,?_⟩
   intro Ll Uq
   refine⟨by omega,?_⟩
   refine⟨⟨(2+Ll,e,q+1,u,f,k),?_,rfl,rfl,rfl,rfl,trivial⟩,?_⟩
   unfold eP
   exact⟨by omega,by omega,h3,by omega,by omega⟩
   rintro⟨n,e',q',u',f',k'⟩ ⟨k1,k2,k3,k4,k5⟩
   refine⟨fun x4=>?_,fun x4=>?_⟩
   · try simp only[nb]at x4
     refine⟨rfl,rfl,⟨by omega,by omega⟩,?_⟩
     intro C6 E9
     refine⟨rfl,rfl,⟨by omega,by omega⟩,?_⟩
     intro x8 E8
     refine⟨rfl,rfl,⟨by omega,by omega,by omega⟩,?_⟩
     intro B3 Up
     refine⟨Hm (by simp;omega),trivial,?_⟩
     intro g8
     refine⟨rfl,rfl,rfl,⟨by omega,by omega,by omega⟩,?_⟩
     intro Kz Uo
     refine⟨fun E'=>?_,fun E'=>?_,fun y hy=>?_⟩
     · try simp only[nb]at E'
       refine⟨rfl,rfl,rfl,⟨by omega,by omega⟩,?_⟩
       intro Kn E7
       refine⟨rfl,?_⟩
       exact⟨((⟨C6.1,[],Kn.1,([0,0,0,0,1,2,4].getD B3 0)⟩:Pg),Kn.2),⟨⟨by(try have:=cC (l:=aM) (n:=3) rfl i);(try simp only[List.length_append,List.length_cons,List.length_nil]);omega,by(try have:=cC (l:=aM) (n:=3) rfl i);(try simp only[List.length_append,List.length_cons,List.length_nil]);omega,by(try have:=cC (l:=aM) (n:=3) rfl i);(try simp only[List.length_append,List.length_cons,List.length_nil]);omega,nY rfl _,by(try dsimp only);repeat (first | assumption | exact E1.2.2.2 | exact E9.2.2.2 | exact E7.2.2.2 | exact aT | exact bh rfl | exact I3.2 | exact E8.2.2.2 | exact dF rfl i | apply m6.app),by(try dsimp only);repeat (first | assumption | exact E1.2.2.2 | exact E9.2.2.2 | exact E7.2.2.2 | exact aT | exact bh rfl | exact I3.2 | exact E8.2.2.2 | exact dF rfl i | apply m6.app),by(try dsimp only);repeat (first | assumption | exact E1.2.2.2 | exact E9.2.2.2 | exact E7.2.2.2 | exact aT | exact bh rfl | exact I3.2 | exact E8.2.2.2 | exact dF rfl i | apply m6.app)⟩,by omega,by omega⟩,rfl,rfl,rfl,rfl,rfl,rfl,rfl,rfl,rfl,rfl,rfl,rfl,rfl,rfl,rfl,rfl,rfl,rfl,rfl,by first | rfl | simp | (simp;omega),by first | rfl | simp | (simp;omega),trivial⟩
     · try simp only[nb]at E'
       exact⟨((⟨C6.1,x8.1,[],([0,0,0,0,1,2,4].getD B3 0)⟩:Pg),(x8.2+1)+1),⟨⟨by(try have:=cC (l:=aM) (n:=3) rfl i);(try simp only[List.length_append,List.length_cons,List.length_nil]);omega,by(try have:=cC (l:=aM) (n:=3) rfl i);(try simp only[List.length_append,List.length_cons,List.length_nil]);omega,by(try have:=cC (l:=aM) (n:=3) rfl i);(try simp only[List.length_append,List.length_cons,List.length_nil]);omega,nY rfl _,by(try dsimp only);repeat (first | assumption | exact E1.2.2.2 | exact E9.2.2.2 | exact E7.2.2.2 | exact aT | exact bh rfl | exact I3.2 | exact E8.2.2.2 | exact dF rfl i | apply m6.app),by(try dsimp only);repeat (first | assumption | exact E1.2.2.2 | exact E9.2.2.2 | exact E7.2.2.2 | exact aT | exact bh rfl | exact I3.2 | exact E8.2.2.2 | exact dF rfl i | apply m6.app),by(try dsimp only);repeat (first | assumption | exact E1.2.2.2 | exact E9.2.2.2 | exact E7.2.2.2 | exact aT | exact bh rfl | exact I3.2 | exact E8.2.2.2 | exact dF rfl i | apply m6.app)⟩,by omega,by omega⟩,rfl,rfl,rfl,rfl,rfl,rfl,rfl,rfl,rfl,rfl,rfl,rfl,rfl,rfl,rfl,rfl,rfl,rfl,rfl,by first | rfl | simp | (simp;omega),by first | rfl | simp | (simp;omega),trivial⟩
     refine⟨rfl,⟨⟨⟨rfl,rfl,rfl⟩,by simp,cm (f:=r8) (fun _=>rfl) _,dJ (f:=r8) (fun _=>rfl) _⟩,trivial⟩,by simp[List.take_of_length_le],by first | assumption | omega | (simp;omega),?_⟩
     intro g9
     refine⟨rfl,fun hG=>rfl,⟨fun h=>by rw[h] <;> rfl,fun _=>rfl⟩,?_⟩
     refine⟨fun PB=>?_,fun PB=>?_⟩
     try simp only[nb]at PB
     refine⟨rfl,rfl,trivial,rfl,by simp[aG,V.n,V.ns],by simp;omega,?_⟩
     intro Qy PW QM
     refine⟨congrArg (V.own 4 · Qy PW QM) (by simp),by omega,by simp[Q];omega,?_⟩
     refine⟨(n-1,e'++[y.1],y.2,Qy,PW,QM),?_,?_,rfl,rfl,rfl,rfl,trivial⟩
     unfold eP
     refine⟨by(try simp only[List.length_append,List.length_cons,List.length_nil,List.length_map]);omega,.inl (by simp),fE k3 hy.1,by omega,by omega⟩
     first | (solve | simp) | omega | (simp;omega)
     try simp only[nb]at PB
     refine⟨by omega,by simp[Q];omega,?_⟩
     refine⟨(n-1,e',y.2,u',f',k'),?_,?_,rfl,rfl,rfl,rfl,trivial⟩
     unfold eP
     have hyt:=hy.1.t
     have x5:(z8 e' y.fst.addr).snd=true:=by
      cases hh:(z8 e' y.fst.addr).snd with
      | true=>rfl
      | false=>have:=PB hh;omega
     exact⟨by omega,.inl (FQ x5),k3,by omega,by omega⟩
     first | (solve | simp) | omega | (simp;omega)
   try simp only[nb]at x4
   refine⟨rfl,?_⟩
   refine⟨(e',q'),?_,?_,?_⟩
   try dsimp only
   exact⟨by omega,by omega,k3,by omega,by omega⟩
   first | rfl | simp_all
   first | rfl | exact⟨rfl,rfl⟩ | simp_all)
def wP(b:BL)(p:Nat)(g:Nat):F8 Tryz.prog:=.mk (List Pg×Nat) 19 [.ptr (.key 1000) [] g 0] [(1000,(g,ar b p))] ((b.length<=2000)/\(p<=600000)) (fun x=>1<=x.1.length/\x.1.length<=30/\(∀ y,y∈x.1->n0 y)/\p<=x.2/\x.2<=p+1600) (fun x=>.ow 4 (x.1.map r8)) (fun x=>[(1000,(g,ar b x.2))]) (by
 rintro⟨hb,hp⟩
 have h0:∀ (l:List Pg),(∀ y,y∈l->n0 y)->n0 (l.getD 0 l4):=fun l h=>eV h 0
 refine eG (N:=51) (rs:=[.tmp 2]) (X:=List Pg×Nat) (post:=fun x=>1<=x.1.length/\x.1.length<=30/\(∀ y,y∈x.1->n0 y)/\p<=x.2/\x.2<=p+1600) (E:=fun x=>.ow 4 (x.1.map r8)) (H':=fun x=>[(1000,(g,.agg [.sl false (b.map n7),iN x.2]))]) Tryz.func19 (by kernel_rfl) rfl rfl rfl (by kernel_rfl) [(1000,(0,.b9))] (by intro _ k hk;simpa[lk] using hk)
  (.q 1<|.q 1<|.cx (so b p g) [(1000,1000)] (fun (l3:List Pg×Nat)=>.q 1<|.ot 3 (fun g3 o3 c3=>.q 1<|.cx (aU b l3.2 g 16) [(1000,1000)] (fun (r9:Nat)=>.q 1<|.br (.q 2<|.h (.gg 2)<|.nil) (.q 1<|.cx (aU b (l3.2+1) g 5) [(1000,1000)] (fun (H2:Nat)=>.q 2<|.br (.r 4 [bP ((l3.1.getD 0 l4).addr) ((l3.1.getD 0 l4).text) ((l3.1.getD 0 l4).lead) ((l3.1.getD 0 l4).m4)]<|.bs<|.ap (fun R4 RH R9=>.h (.o9 31 (.own 4 ((l3.1++[(l3.1.getD 0 l4)]).map r8) R4 RH R9))<|.q 1<|.nil)) (.q 2<|.br (.q 3<|.st (some (iV ((l3.1.getD 0 l4).m4)))<|.h (.o9 3 (.own 4 ((l3.1.set 0 (⟨(l3.1.getD 0 l4).addr,(l3.1.getD 0 l4).text,(l3.1.getD 0 l4).lead,10⟩:Pg)).map r8) g3 o3 c3))<|.q 2<|.h (.gg 2)<|.nil) (.q 2<|.br (.q 2<|.bs<|.cx (eD b ((l3.2+1)+1) g ([([47,47,65,66,47,97]:BL),[],([47,47,97,98]:BL)]:List BL)) [(1000,1000)] (fun (D8:BL)=>.q 2<|.st (some (sV ((l3.1.getD 0 l4).addr)))<|.h (.o9 3 (.own 4 ((l3.1.set 0 (⟨D8,(l3.1.getD 0 l4).text,(l3.1.getD 0 l4).lead,(l3.1.getD 0 l4).m4⟩:Pg)).map r8) g3 o3 c3))<|.q 2<|.h (.gg 2)<|.nil)) (.q 2<|.br (.q 3<|.st (some (sV ((l3.1.getD 0 l4).lead)))<|.h (.o9 3 (.own 4 ((l3.1.set 0 (⟨(l3.1.getD 0 l4).addr,(l3.1.getD 0 l4).text,([120]:BL),(l3.1.getD 0 l4).m4⟩:Pg)).map r8) g3 o3 c3))<|.q 2<|.h (.gg 2)<|.nil) (.q 1<|.loop (Nat×(List Pg)×Nat×Nat×Nat) (fun (j,e,u,f,k)=>⟨[(3,.own 4 (e.map r8) u f k),(4,iN j)],[(1000,(g,ar b ((l3.2+1)+1)))]⟩) (fun (j,e,u,f,k)=>j<=12/\1<=e.length/\e.length<=12+j/\(∀ y,y∈e->n0 y)) (fun (j,e,u,f,k)=>12-j) (fun (j,e,u,f,k)=>.q 2<|.br (.q 2<|.c (qD j) []<|.q 1<|.bd lZ<|.bs<|.ap (fun g23 Mr MN=>.h (.o9 23 (.own 4 ((e++[(⟨([47,47,97,98,47,122]:BL)++(dj j),[],[],0⟩:Pg)]).map r8) g23 Mr MN))<|.q 1<|.q 3<|.nil)) (.q 2<|.h (.gg 2)<|.nil))))))))))))
  ((fun v1:BL=>(fun v2:BL=>(fun v3:BL=>(fun v4:BL=>((so b p g).sm/\Er g (ar b p)/\((b.length<=2000)/\(p<=700000))/\∀ l3:List Pg×Nat,(1<=l3.1.length/\l3.1.length<=12/\(∀ y,y∈l3.1->n0 y)/\p<=l3.2/\l3.2<=p+1500)->(fun v5:List V=>(fun v6:V=> ∀ g3 o3 c3:Nat,(fun v7:V=>(aU b l3.2 g 16).sm/\Er g (ar b l3.2)/\((b.length<=2000)/\(l3.2<=1000000)/\(16<=1000000))/\∀ r9:Nat,(16=0/\r9=0\/r9<16)->Br (s9 (r9:Int) 0) (((4,g3,o3,c3,(l3.1.map r8).length)=(4,g3,o3,c3,(l3.1.map r8).length))/\∃ x:List Pg×Nat,(1<=x.1.length/\x.1.length<=30/\(∀ y,y∈x.1->n0 y)/\p<=x.2/\x.2<=p+1600)/\Q (.ow 4 (l3.1.map r8)) (.ow 4 (x.1.map r8))/\Qr g (ar b (l3.2+1)) g (ar b x.2)) ((aU b (l3.2+1) g 5).sm/\Er g (ar b (l3.2+1))/\((b.length<=2000)/\((l3.2+1)<=1000000)/\(5<=1000000))/\∀ H2:Nat,(5=0/\H2=0\/H2<5)->Br (r4 (H2:Int) 0) (In 0 ((l3.1.map r8).length)/\(V.at g3 o3 v7 [0+0]=some (g3,(o3+(0+0)*4),bP ((l3.1.getD 0 l4).addr) ((l3.1.getD 0 l4).text) ((l3.1.getD 0 l4).lead) ((l3.1.getD 0 l4).m4)))/\((4,4,g3,o3,c3,(l3.1.map r8).length)=(4,4,g3,o3,c3,(l3.1.map r8).length))/\(True)/\(V.aD v5=false)/\(aG 4 v5)/\(((l3.1.map r8).length+v5.length)*56<=140737488355328)/\∀ R4 RH R9:Nat,((.own 4 ((l3.1.map r8)++v5) R4 RH R9:V)=.own 4 ((l3.1++[(l3.1.getD 0 l4)]).map r8) R4 RH R9)/\∃ x:List Pg×Nat,(1<=x.1.length/\x.1.length<=30/\(∀ y,y∈x.1->n0 y)/\p<=x.2/\x.2<=p+1600)/\Q (.ow 4 ((l3.1++[(l3.1.getD 0 l4)]).map r8)) (.ow 4 (x.1.map r8))/\Qr g v6 g (ar b x.2)) (Br (r4 (H2:Int) 1) (In 0 ((l3.1.map r8).length)/\(V.at g3 o3 v7 [0+0,3]=some (g3,(o3+(0+0)*4+3),iV ((l3.1.getD 0 l4).m4)))/\(V.set v7 [0+0,3] (iN 10)=.own 4 ((l3.1.set 0 (⟨(l3.1.getD 0 l4).addr,(l3.1.getD 0 l4).text,(l3.1.getD 0 l4).lead,10⟩:Pg)).map r8) g3 o3 c3)/\((4,g3,o3,c3,((l3.1.set 0 (⟨(l3.1.getD 0 l4).addr,(l3.1.getD 0 l4).text,(l3.1.getD 0 l4).lead,10⟩:Pg)).map r8).length)=(4,g3,o3,c3,((l3.1.set 0 (⟨(l3.1.getD 0 l4).addr,(l3.1.getD 0 l4).text,(l3.1.getD 0 l4).lead,10⟩:Pg)).map r8).length))/\∃ x:List Pg×Nat,(1<=x.1.length/\x.1.length<=30/\(∀ y,y∈x.1->n0 y)/\p<=x.2/\x.2<=p+1600)/\Q (.ow 4 ((l3.1.set 0 (⟨(l3.1.getD 0 l4).addr,(l3.1.getD 0 l4).text,(l3.1.getD 0 l4).lead,10⟩:Pg)).map r8)) (.ow 4 (x.1.map r8))/\Qr g v6 g (ar b x.2)) (Br (r4 (H2:Int) 2) ((eD b ((l3.2+1)+1) g ([v2,[],v3]:List BL)).sm/\Er g v6/\((b.length<=2000)/\(((l3.2+1)+1)<=1000000)/\(1<=([v2,[],v3]:List BL).length)/\(([v2,[],v3]:List BL).length<=1000))/\∀ D8:BL,(D8∈([v2,[],v3]:List BL))->In 0 ((l3.1.map r8).length)/\(V.at g3 o3 v7 [0+0,0]=some (g3,(o3+(0+0)*4+0),sV ((l3.1.getD 0 l4).addr)))/\(V.set v7 [0+0,0] (sV D8)=.own 4 ((l3.1.set 0 (⟨D8,(l3.1.getD 0 l4).text,(l3.1.getD 0 l4).lead,(l3.1.getD 0 l4).m4⟩:Pg)).map r8) g3 o3 c3)/\((4,g3,o3,c3,((l3.1.set 0 (⟨D8,(l3.1.getD 0 l4).text,(l3.1.getD 0 l4).lead,(l3.1.getD 0 l4).m4⟩:Pg)).map r8).length)=(4,g3,o3,c3,((l3.1.set 0 (⟨D8,(l3.1.getD 0 l4).text,(l3.1.getD 0 l4).lead,(l3.1.getD 0 l4).m4⟩:Pg)).map r8).length))/\∃ x:List Pg×Nat,(1<=x.1.length/\x.1.length<=30/\(∀ y,y∈x.1->n0 y)/\p<=x.2/\x.2<=p+1600)/\Q (.ow 4 ((l3.1.set 0 (⟨D8,(l3.1.getD 0 l4).text,(l3.1.getD 0 l4).lead,(l3.1.getD 0 l4).m4⟩:Pg)).map r8)) (.ow 4 (x.1.map r8))/\Qr g (ar b (((l3.2+1)+1)+1)) g (ar b x.2)) (Br (r4 (H2:Int) 3) (In 0 ((l3.1.map r8).length)/\(V.at g3 o3 v7 [0+0,2]=some (g3,(o3+(0+0)*4+2),sV ((l3.1.getD 0 l4).lead)))/\(V.set v7 [0+0,2] (sV v4)=.own 4 ((l3.1.set 0 (⟨(l3.1.getD 0 l4).addr,(l3.1.getD 0 l4).text,v4,(l3.1.getD 0 l4).m4⟩:Pg)).map r8) g3 o3 c3)/\((4,g3,o3,c3,((l3.1.set 0 (⟨(l3.1.getD 0 l4).addr,(l3.1.getD 0 l4).text,v4,(l3.1.getD 0 l4).m4⟩:Pg)).map r8).length)=(4,g3,o3,c3,((l3.1.set 0 (⟨(l3.1.getD 0 l4).addr,(l3.1.getD 0 l4).text,v4,(l3.1.getD 0 l4).m4⟩:Pg)).map r8).length))/\∃ x:List Pg×Nat,(1<=x.1.length/\x.1.length<=30/\(∀ y,y∈x.1->n0 y)/\p<=x.2/\x.2<=p+1600)/\Q (.ow 4 ((l3.1.set 0 (⟨(l3.1.getD 0 l4).addr,(l3.1.getD 0 l4).text,v4,(l3.1.getD 0 l4).m4⟩:Pg)).map r8)) (.ow 4 (x.1.map r8))/\Qr g v6 g (ar b x.2)) ((∃ x:Nat×(List Pg)×Nat×Nat×Nat,match x with | (MW,C9,G6,y7,r6)=>(MW<=12/\1<=C9.length/\C9.length<=12+MW/\(∀ y,y∈C9->n0 y))/\Q v7 (.own 4 (C9.map r8) G6 y7 r6)/\Q (iN 0) (iN MW)/\Er g v6/\True)/\∀ x:Nat×(List Pg)×Nat×Nat×Nat,match x with | (j,e,u,f,k)=>(j<=12/\1<=e.length/\e.length<=12+j/\(∀ y,y∈e->n0 y))->(fun v8:List V=>Br (s7 (j:Int) 12) ((qD j).sm/\((j<=1000000))/\(v1.length+(dj j).length<=4611686018427387904)/\((4,4,u,f,k,(e.map r8).length)=(4,4,u,f,k,(e.map r8).length))/\(True)/\(V.aD v8=false)/\(aG 4 v8)/\(((e.map r8).length+v8.length)*56<=140737488355328)/\∀ g23 Mr MN:Nat,((.own 4 ((e.map r8)++v8) g23 Mr MN:V)=.own 4 ((e++[(⟨v1++(dj j),[],[],0⟩:Pg)]).map r8) g23 Mr MN)/\m8 ((j:Int)+1)/\∃ x:Nat×(List Pg)×Nat×Nat×Nat,match x with | (KB,w6,A5,r7,k₂)=>(KB<=12/\1<=w6.length/\w6.length<=12+KB/\(∀ y,y∈w6->n0 y))/\(12-KB<12-j)/\Q (.own 4 ((e++[(⟨v1++(dj j),[],[],0⟩:Pg)]).map r8) g23 Mr MN) (.own 4 (w6.map r8) A5 r7 k₂)/\Q (iN (j+1)) (iN KB)/\Er g v6/\True) (((4,u,f,k,(e.map r8).length)=(4,u,f,k,(e.map r8).length))/\∃ x:List Pg×Nat,(1<=x.1.length/\x.1.length<=30/\(∀ y,y∈x.1->n0 y)/\p<=x.2/\x.2<=p+1600)/\Q (.ow 4 (e.map r8)) (.ow 4 (x.1.map r8))/\Qr g v6 g (ar b x.2))) ([.agg [sV (v1++(dj j)),sV [],sV [],iN 0]]:List V))))))) (.own 4 (l3.1.map r8) g3 o3 c3)) (ar b ((l3.2+1)+1))) ([bP ((l3.1.getD 0 l4).addr) ((l3.1.getD 0 l4).text) ((l3.1.getD 0 l4).lead) ((l3.1.getD 0 l4).m4)]:List V))) ([120]:BL)) ([47,47,97,98]:BL)) ([47,47,65,66,47,97]:BL)) ([47,47,97,98,47,122]:BL))
  (by kernel_rfl) ?_
 refine⟨rfl,rfl,⟨by omega,by omega⟩,?_⟩
 intro l3 G7
 intro g3 o3 c3
 refine⟨rfl,rfl,⟨by omega,by omega,by omega⟩,?_⟩
 intro r9 KY
 refine⟨fun j7=>?_,fun j7=>?_⟩
 try simp only[nb]at j7
 refine⟨rfl,?_⟩
 refine⟨(l3.1,l3.2+1),?_,?_,?_⟩
 try dsimp only
 exact⟨by omega,by omega,G7.2.2.1,by omega,by omega⟩
 first | rfl | simp_all
 first | rfl | exact⟨rfl,rfl⟩ | simp_all
 try simp only[nb]at j7
 refine⟨rfl,rfl,⟨by omega,by omega,by omega⟩,?_⟩
 intro H2 SE
 refine⟨fun j9=>?_,fun j9=>?_⟩
 try simp only[nb]at j9
 refine⟨by(try simp only[List.length_map]at *);omega,fD (by rw[Nat.zero_add];exact aj (d:=l4) (by omega)),rfl,trivial,rfl,by simp[aG,V.n,V.ns],by simp;omega,?_⟩
 intro R4 RH R9
 refine⟨congrArg (V.own 4 · R4 RH R9) (by simp),?_⟩
 refine⟨(l3.1++[(l3.1.getD 0 l4)],(l3.2+1)+1),?_,?_,?_⟩
 try dsimp only
 exact⟨by simp,by simp;omega,fE G7.2.2.1 (h0 _ G7.2.2.1),by omega,by omega⟩
 first | rfl | simp_all
 first | rfl | exact⟨rfl,rfl⟩ | simp_all
 try simp only[nb]at j9
 refine⟨fun l8=>?_,fun l8=>?_⟩
 try simp only[nb]at l8
 refine⟨by(try simp only[List.length_map]at *);omega,aE (by rw[Nat.zero_add];exact aj (d:=l4) (by omega)) rfl,aR (x:=.agg [sV ((l3.1.getD 0 l4).addr),sV ((l3.1.getD 0 l4).text),sV ((l3.1.getD 0 l4).lead),iV ((l3.1.getD 0 l4).m4)]) (by rw[Nat.zero_add];exact aj (d:=l4) (by omega)) (List.map_set (f:=r8) (l:=l3.1) (i:=0) (a:=(⟨(l3.1.getD 0 l4).addr,(l3.1.getD 0 l4).text,(l3.1.getD 0 l4).lead,10⟩:Pg))).symm,rfl,?_⟩
 refine⟨(l3.1.set 0 (⟨(l3.1.getD 0 l4).addr,(l3.1.getD 0 l4).text,(l3.1.getD 0 l4).lead,10⟩:Pg),(l3.2+1)+1),?_,?_,?_⟩
 try dsimp only
 have hz:=h0 _ G7.2.2.1
 exact⟨by simp;omega,by simp;omega,uo G7.2.2.1 ⟨hz.a,hz.t,hz.l,by simp,hz.aa,hz.la,hz.ta⟩,by omega,by omega⟩
 first | rfl | simp_all
 first | rfl | exact⟨rfl,rfl⟩ | simp_all
 try simp only[nb]at l8
 refine⟨fun o4=>?_,fun o4=>?_⟩
 try simp only[nb]at o4
 refine⟨rfl,rfl,⟨by omega,by omega,by simp,by simp⟩,?_⟩
 intro D8 w9
 refine⟨by(try simp only[List.length_map]at *);omega,aE (by rw[Nat.zero_add];exact aj (d:=l4) (by omega)) rfl,aR (x:=.agg [sV ((l3.1.getD 0 l4).addr),sV ((l3.1.getD 0 l4).text),sV ((l3.1.getD 0 l4).lead),iV ((l3.1.getD 0 l4).m4)]) (by rw[Nat.zero_add];exact aj (d:=l4) (by omega)) (List.map_set (f:=r8) (l:=l3.1) (i:=0) (a:=(⟨D8,(l3.1.getD 0 l4).text,(l3.1.getD 0 l4).lead,(l3.1.getD 0 l4).m4⟩:Pg))).symm,rfl,?_⟩
 refine⟨(l3.1.set 0 (⟨D8,(l3.1.getD 0 l4).text,(l3.1.getD 0 l4).lead,(l3.1.getD 0 l4).m4⟩:Pg),((l3.2+1)+1)+1),?_,?_,?_⟩
 try dsimp only
 have hz:=h0 _ G7.2.2.1
 exact⟨by simp;omega,by simp;omega,uo G7.2.2.1 ⟨bz rfl w9,hz.t,hz.l,hz.f,dg rfl w9,hz.la,hz.ta⟩,by omega,by omega⟩
 first | rfl | simp_all
 first | rfl | exact⟨rfl,rfl⟩ | simp_all
 try simp only[nb]at o4
 refine⟨fun x4=>?_,fun x4=>?_⟩
 try simp only[nb]at x4
 refine⟨by(try simp only[List.length_map]at *);omega,aE (by rw[Nat.zero_add];exact aj (d:=l4) (by omega)) rfl,aR (x:=.agg [sV ((l3.1.getD 0 l4).addr),sV ((l3.1.getD 0 l4).text),sV ((l3.1.getD 0 l4).lead),iV ((l3.1.getD 0 l4).m4)]) (by rw[Nat.zero_add];exact aj (d:=l4) (by omega)) (List.map_set (f:=r8) (l:=l3.1) (i:=0) (a:=(⟨(l3.1.getD 0 l4).addr,(l3.1.getD 0 l4).text,([120]:BL),(l3.1.getD 0 l4).m4⟩:Pg))).symm,rfl,?_⟩
 refine⟨(l3.1.set 0 (⟨(l3.1.getD 0 l4).addr,(l3.1.getD 0 l4).text,([120]:BL),(l3.1.getD 0 l4).m4⟩:Pg),(l3.2+1)+1),?_,?_,?_⟩
 try dsimp only
 have hz:=h0 _ G7.2.2.1
 exact⟨by simp;omega,by simp;omega,uo G7.2.2.1 ⟨hz.a,hz.t,by simp,hz.f,hz.aa,bh rfl,hz.ta⟩,by omega,by omega⟩
 first | rfl | simp_all
 first | rfl | exact⟨rfl,rfl⟩ | simp_all
 try simp only[nb]at x4
 refine⟨⟨(0,l3.1,g3,o3,c3),?_,rfl,rfl,rfl,trivial⟩,?_⟩
 exact⟨by omega,by omega,by omega,G7.2.2.1⟩
 rintro⟨j,e,u,f,k⟩ ⟨h1,h2,h3,h4⟩
 refine⟨fun E'=>?_,fun E'=>?_⟩
 try simp only[nb]at E'
 refine⟨rfl,by omega,by have:=oQ j (by omega);simp only[List.length_append,List.length_cons,List.length_nil];omega,rfl,trivial,rfl,by simp[aG,V.n,V.ns],by simp;omega,?_⟩
 intro g23 Mr MN
 refine⟨congrArg (V.own 4 · g23 Mr MN) (by simp),by omega,?_⟩
 refine⟨(j+1,e++[(⟨([47,47,97,98,47,122]:BL)++(dj j),[],[],0⟩:Pg)],g23,Mr,MN),?_,?_,rfl,rfl,rfl,trivial⟩
 have hd:=oQ j (by omega)
 refine⟨by omega,by simp,by simp;omega,fE h4 ⟨?_,by simp,by simp,by simp,(bh rfl).app (jL j),aT,aT⟩⟩
 simp only[List.length_append,List.length_cons,List.length_nil];omega
 first | (solve | simp) | omega | (simp;omega)
 try simp only[nb]at E'
 refine⟨rfl,?_⟩
 refine⟨(e,(l3.2+1)+1),?_,?_,?_⟩
 try dsimp only
 exact⟨by omega,by omega,h4,by omega,by omega⟩
 first | rfl | simp_all
 first | rfl | exact⟨rfl,rfl⟩ | simp_all)
def uP(b:BL)(p:Nat)(g:Nat):F8 Tryz.prog:=.mk BL 20 [.ptr (.key 1000) [] g 0] [(1000,(g,ar b p))] ((b.length<=2000)/\(p<=900000)) (fun x=>x.length<=5/\bq x=true) (fun x=>sV x) (fun x=>[(1000,(g,ar b (p+1)))]) (by
 rintro⟨hb,hp⟩
 refine eG (N:=6) (rs:=[.tmp 2]) (X:=BL) (post:=fun x=>x.length<=5/\bq x=true) (E:=fun x=>sV x) (H':=fun x=>[(1000,(g,.agg [.sl false (b.map n7),iN (p+1)]))]) Tryz.func20 (by kernel_rfl) rfl rfl rfl (by kernel_rfl) [(1000,(0,.b9))] (by intro _ k hk;simpa[lk] using hk)
  (.q 1<|.q 1<|.bs<|.cx (eD b p g ([([114,111,118,101,114]:BL),([114,111,118,101,114]:BL),([115,99,111,117,116]:BL),([111,116,104,101,114]:BL)]:List BL)) [(1000,1000)] (fun (y8:BL)=>.q 1<|.nil))
  ((fun v1:BL=>(fun v2:BL=>(fun v3:BL=>((eD b p g ([v1,v1,v3,v2]:List BL)).sm/\Er g (ar b p)/\((b.length<=2000)/\(p<=1000000)/\(1<=([v1,v1,v3,v2]:List BL).length)/\(([v1,v1,v3,v2]:List BL).length<=1000))/\∀ y8:BL,(y8∈([v1,v1,v3,v2]:List BL))->∃ x:BL,(x.length<=5/\bq x=true)/\Q (sV y8) (sV x)/\Er g (ar b (p+1)))) ([115,99,111,117,116]:BL)) ([111,116,104,101,114]:BL)) ([114,111,118,101,114]:BL))
  (by kernel_rfl) ?_
 refine⟨rfl,rfl,⟨by omega,by omega,by simp,by simp⟩,?_⟩
 intro y8 Nk
 refine⟨y8,?_,?_,?_⟩
 try dsimp only
 exact⟨bz rfl Nk,List.all_eq_true.1 (show (List.all _ bq)=true from rfl) _ Nk⟩
 first | rfl | simp_all
 first | rfl | exact⟨rfl,rfl⟩ | simp_all)
def tE(b:BL)(p:Nat)(g:Nat)(w:List Pg):F8 Tryz.prog:=.mk (BL×Nat) 38 [.ptr (.key 1000) [] g 0,bN w] [(1000,(g,ar b p))] ((b.length<=2000)/\(p<=800000)/\(w.length<=30)/\(∀ y,y∈w->n0 y)) (fun x=>x.1.length<=30/\p<=x.2/\x.2<=p+8/\m6 x.1) (fun x=>sV x.1) (fun x=>[(1000,(g,ar b x.2))]) (by
 rintro⟨hb,hp,hw,hy⟩
 refine eG (N:=23) (rs:=[.tmp 4]) (X:=BL×Nat) (post:=fun x=>x.1.length<=30/\p<=x.2/\x.2<=p+8/\m6 x.1) (E:=fun x=>sV x.1) (H':=fun x=>[(1000,(g,.agg [.sl false (b.map n7),iN x.2]))]) Tryz.func38 (by kernel_rfl) rfl rfl rfl (by kernel_rfl) [(1000,(0,.b9))] (by intro _ k hk;simpa[lk] using hk)
  (.q 1<|.q 3<|.sp (s9 (((w.map r8).length:Nat):Int) 0) (.h (.o9 7 (bV true))<|.q 1<|.gt<|.q 1<|.gt<|.cx (aU b p g 3) [(1000,1000)] (fun (N3:Nat)=>.gt<|.q 2<|.br (.q 4<|.cx (aU b (p+1) g ((w.map r8).length)) [(1000,1000)] (fun (D3:Nat)=>.r 4 [bP ((w.getD D3 l4).addr) ((w.getD D3 l4).text) ((w.getD D3 l4).lead) ((w.getD D3 l4).m4)]<|.nil)) (.q 1<|.cx (dS b (p+1) g) [(1000,1000)] (fun (a7:BL×Nat)=>.q 1<|.nil)))) (.h (.o9 7 (bV false))<|.q 1<|.gf (.b9)<|.gf (.b9)<|.gf (bV false)<|.q 1<|.br (.q 4<|.cx (aU b p g ((w.map r8).length)) [(1000,1000)] (fun (D3:Nat)=>.r 4 [bP ((w.getD D3 l4).addr) ((w.getD D3 l4).text) ((w.getD D3 l4).lead) ((w.getD D3 l4).m4)]<|.nil)) (.q 1<|.cx (dS b p g) [(1000,1000)] (fun (a7:BL×Nat)=>.q 1<|.nil))))
  ((fun v1:Bool=>((v1=true->((bV v1:V)=bV true)/\(true=true)/\(true=true)/\(aU b p g 3).sm/\Er g (ar b p)/\((b.length<=2000)/\(p<=1000000)/\(3<=1000000))/\∀ N3:Nat,(3=0/\N3=0\/N3<3)->(true=true)/\Pk true true true/\Br (true&&(s9 (N3:Int) 0)) ((aU b (p+1) g ((w.map r8).length)).sm/\Er g (ar b (p+1))/\((b.length<=2000)/\((p+1)<=1000000)/\(((w.map r8).length)<=1000000))/\∀ D3:Nat,(((w.map r8).length)=0/\D3=0\/D3<((w.map r8).length))->Ex (D3:Int) (w.map r8) (bP ((w.getD D3 l4).addr) ((w.getD D3 l4).text) ((w.getD D3 l4).lead) ((w.getD D3 l4).m4))/\True/\∃ x:BL×Nat,(x.1.length<=30/\p<=x.2/\x.2<=p+8/\m6 x.1)/\Q (sV ((w.getD D3 l4).addr)) (sV x.1)/\Qr g (ar b ((p+1)+1)) g (ar b x.2)) ((dS b (p+1) g).sm/\Er g (ar b (p+1))/\((b.length<=2000)/\((p+1)<=900000))/\∀ a7:BL×Nat,(a7.1.length<=25/\(p+1)<=a7.2/\a7.2<=(p+1)+6/\m6 a7.1)->∃ x:BL×Nat,(x.1.length<=30/\p<=x.2/\x.2<=p+8/\m6 x.1)/\Q (sV a7.1) (sV x.1)/\Qr g (ar b a7.2) g (ar b x.2)))/\(v1=false->((bV v1:V)=bV false)/\(false=false)/\(false=false)/\(false=false)/\Pk false false true/\Br (false&&false) ((aU b p g ((w.map r8).length)).sm/\Er g (ar b p)/\((b.length<=2000)/\(p<=1000000)/\(((w.map r8).length)<=1000000))/\∀ D3:Nat,(((w.map r8).length)=0/\D3=0\/D3<((w.map r8).length))->Ex (D3:Int) (w.map r8) (bP ((w.getD D3 l4).addr) ((w.getD D3 l4).text) ((w.getD D3 l4).lead) ((w.getD D3 l4).m4))/\True/\∃ x:BL×Nat,(x.1.length<=30/\p<=x.2/\x.2<=p+8/\m6 x.1)/\Q (sV ((w.getD D3 l4).addr)) (sV x.1)/\Qr g (ar b (p+1)) g (ar b x.2)) ((dS b p g).sm/\Er g (ar b p)/\((b.length<=2000)/\(p<=900000))/\∀ a7:BL×Nat,(a7.1.length<=25/\p<=a7.2/\a7.2<=p+6/\m6 a7.1)->∃ x:BL×Nat,(x.1.length<=30/\p<=x.2/\x.2<=p+8/\m6 x.1)/\Q (sV a7.1) (sV x.1)/\Qr g (ar b a7.2) g (ar b x.2))))) (s9 (((w.map r8).length:Nat):Int) 0))
  (by kernel_rfl) ?_
 refine⟨fun Mw=>?_,fun Mw=>?_⟩
 have Oy:=Mw
 try simp only[nb]at Oy
 refine⟨congrArg bV Mw,rfl,rfl,rfl,rfl,⟨by omega,by omega,by omega⟩,?_⟩
 intro N3 VP
 refine⟨rfl,⟨fun h=>by first | exact h | rfl,fun _=>rfl⟩,?_⟩
 refine⟨fun j7=>?_,fun j7=>?_⟩
 try simp only[nb]at j7
 refine⟨rfl,rfl,⟨by omega,by omega,by simp only[List.length_map];omega⟩,?_⟩
 intro D3 SG
 simp only[List.length_map]at SG
 refine⟨⟨by omega,aj (d:=l4) (by omega)⟩,trivial,?_⟩
 refine⟨((w.getD D3 l4).addr,(p+1)+1),?_,?_,?_⟩
 try dsimp only
 exact⟨(eV hy _).a,by omega,by omega,(eV hy _).aa⟩
 first | rfl | simp_all
 first | rfl | exact⟨rfl,rfl⟩ | simp_all
 try simp only[nb]at j7
 refine⟨rfl,rfl,⟨by omega,by omega⟩,?_⟩
 intro a7 n6
 refine⟨(a7.1,a7.2),?_,?_,?_⟩
 try dsimp only
 exact⟨by omega,by omega,by omega,by first | exact Nj.2.2.2 | (rename_i hq;exact hq.2.2.2) | (apply And.right;apply And.right;apply And.right;assumption)⟩
 first | rfl | simp_all
 first | rfl | exact⟨rfl,rfl⟩ | simp_all
 · have Oy:=Mw
   try simp only[nb]at Oy
   refine⟨congrArg bV Mw,rfl,rfl,rfl,⟨fun h=>by first | exact h | rfl,fun _=>rfl⟩,?_⟩
   refine⟨fun j9=>?_,fun j9=>?_⟩
   · try simp only[nb]at j9
     all_goals (simp at j9)
   try simp only[nb]at j9
   refine⟨rfl,rfl,⟨by omega,by omega⟩,?_⟩
   intro a7 n6
   refine⟨(a7.1,a7.2),?_,?_,?_⟩
   try dsimp only
   exact⟨by omega,by omega,by omega,by first | exact Nj.2.2.2 | (rename_i hq;exact hq.2.2.2) | (apply And.right;apply And.right;apply And.right;assumption)⟩
   first | rfl | simp_all
   first | rfl | exact⟨rfl,rfl⟩ | simp_all)
theorem pO{α:Type}{l:List α}(h:1<=l.length):l≠[]:=by rintro rfl;simp at h
theorem sU{P:Nat->Prop}{k:Nat}(h:∀ q,q<k->P q)(hk:P k):∀ q,q<k+1->P q:=fun q hq=>by
 rcases Nat.lt_succ_iff_lt_or_eq.1 hq with h' | rfl
 exact h q h'
 exact hk
abbrev im(w:List Pg)(i:Nat):Prop:=i<=w.length/\∀ j,j<i->di (w.getD j l4)=true/\∀ k,k<j->(w.getD k l4).addr≠(w.getD j l4).addr
def uM(w:List Pg):r5 Tryz.prog:=.mk 25 [bN w] [] ((w.length<=1000)/\(∀ i,(w.getD i l4).addr.length<=1000000/\(w.getD i l4).lead.length<=1000000)) (bV (aq w)) [] (by
 rintro⟨hw,hz⟩
 refine aw (N:=80) (rs:=[.tmp 2]) Tryz.func25
  (.q 1<|.q 1<|.loop (Nat) (fun (i:Nat)=>⟨[(0,bN w),(3,iN i)],[]⟩) (fun (i:Nat)=>im w i) (fun (i:Nat)=>w.length-i) (fun (i:Nat)=>.q 4<|.br (.r 5 [bP ((w.getD i l4).addr) ((w.getD i l4).text) ((w.getD i l4).lead) ((w.getD i l4).m4)]<|.c (jc ((w.getD i l4).addr)) []<|.r 16 [bP ((w.getD i l4).addr) ((w.getD i l4).text) ((w.getD i l4).lead) ((w.getD i l4).m4),bP ((w.getD i l4).addr) ((w.getD i l4).text) ((w.getD i l4).lead) ((w.getD i l4).m4)]<|.cg (kE ((w.getD i l4).m4) (0:Int) (9:Int))<|.r 22 [bP ((w.getD i l4).addr) ((w.getD i l4).text) ((w.getD i l4).lead) ((w.getD i l4).m4),bP ((w.getD i l4).addr) ((w.getD i l4).text) ((w.getD i l4).lead) ((w.getD i l4).m4),bP ((w.getD i l4).addr) ((w.getD i l4).text) ((w.getD i l4).lead) ((w.getD i l4).m4)]<|.cg (jc ((w.getD i l4).lead))<|.q 4<|.br (.q 1<|.nil) (.q 1<|.loop (Nat) (fun (k:Nat)=>⟨[(0,bN w),(3,iN i),(4,iN k)],[]⟩) (fun (k:Nat)=>k<=i/\∀ q,q<k->(w.getD q l4).addr≠(w.getD i l4).addr) (fun (k:Nat)=>i-k) (fun (k:Nat)=>.q 3<|.br (.dx 11 [0,1,2,3,4,5,6,7,8,9,10] [(4,⟨false,[],some [],[70],[]⟩),(9,⟨false,[],some [],[75],[]⟩)] []<|.q 1<|.q 1<|.r 1 [bP ((w.getD k l4).addr) ((w.getD k l4).text) ((w.getD k l4).lead) ((w.getD k l4).m4)]<|.q 1<|.q 1<|.q 1<|.q 1<|.r 1 [bP ((w.getD i l4).addr) ((w.getD i l4).text) ((w.getD i l4).lead) ((w.getD i l4).m4)]<|.q 1<|.q 1<|.q 1<|.br (.q 1<|.nil) (.q 3<|.nil)) (.q 3<|.nil)))) (.q 4<|.nil)))
  ((∃ j8:Nat,(im w j8)/\E (bN w)/\Q (iN 0) (iN j8)/\True)/\∀ i:Nat,(im w i)->(fun v3:Bool=>(fun v4:Bool=>(fun v8:Bool=>(fun v1:Bool=>(fun v2:V=>(fun v5:Bool=>(fun v6:Bool=>(fun v7:Bool=>Br (s7 (i:Int) (((w.map r8).length:Nat):Int)) (Ex (i:Int) (w.map r8) v2/\True/\(jc ((w.getD i l4).addr)).sm/\((((w.getD i l4).addr).length<=4611686018427387904))/\Gd (v4==false) (Ex (i:Int) (w.map r8) v2)/\Gd (v4==false) True/\Pk v4 true (v4==false)/\Gd v7 (Ex (i:Int) (w.map r8) v2)/\Gd v7 True/\Gd v7 ((True)/\(kE ((w.getD i l4).m4) (0:Int) (9:Int)).sm)/\Pk (v4||v3) true v7/\Gd v1 (Ex (i:Int) (w.map r8) v2)/\Gd v1 True/\Gd (v1&&(v5==true)) (Ex (i:Int) (w.map r8) v2)/\Gd (v1&&(v5==true)) True/\Gd ((v1&&(v5==true))&&(v6==false)) (Ex (i:Int) (w.map r8) v2)/\Gd ((v1&&(v5==true))&&(v6==false)) True/\Gd ((v1&&(v5==true))&&(v6==false)) (((((w.getD i l4).lead).length<=4611686018427387904))/\(jc ((w.getD i l4).lead)).sm)/\Gd (v1&&(v5==true)) (Pk v6 true ((v1&&(v5==true))&&(v6==false)))/\Gd v1 (Pk v5 (v1&&(v5==true)) true)/\Pk ((v4||v3)||v8) true v1/\Br (((v4||v3)||v8)||(v5&&(v6||(!(aI ((w.getD i l4).lead)))))) (Q (bV false) (bV (aq w))) ((∃ r6:Nat,(r6<=i/\∀ q,q<r6->(w.getD q l4).addr≠(w.getD i l4).addr)/\E (bN w)/\E (iN i)/\Q (iN 0) (iN r6)/\True)/\∀ k:Nat,(k<=i/\∀ q,q<k->(w.getD q l4).addr≠(w.getD i l4).addr)->Br (s7 (k:Int) (i:Int)) (Ex (k:Int) (w.map r8) (bP ((w.getD k l4).addr) ((w.getD k l4).text) ((w.getD k l4).lead) ((w.getD k l4).m4))/\True/\Ex (i:Int) (w.map r8) v2/\True/\Br (((w.getD k l4).addr)==((w.getD i l4).addr)) (Q (bV false) (bV (aq w))) (m8 ((k:Int)+1)/\∃ k₂:Nat,(k₂<=i/\∀ q,q<k₂->(w.getD q l4).addr≠(w.getD i l4).addr)/\(i-k₂<i-k)/\E (bN w)/\E (iN i)/\Q (iN (k+1)) (iN k₂)/\True)) (m8 ((i:Int)+1)/\∃ c9:Nat,(im w c9)/\(w.length-c9<w.length-i)/\E (bN w)/\Q (iN (i+1)) (iN c9)/\True))) (Q (bV (B5 (((w.map r8).length:Nat):Int) 12)) (bV (aq w)))) ((v4||v3)==false)) (!(((w.getD i l4).text)==[]))) (!(((w.getD i l4).lead)==[]))) (bP ((w.getD i l4).addr) ((w.getD i l4).text) ((w.getD i l4).lead) ((w.getD i l4).m4))) (((v4||v3)||v8)==false)) (!(C3 ((w.getD i l4).m4) (0:Int) (9:Int)))) (!(aI ((w.getD i l4).addr)))) (s9 ((((w.getD i l4).text).length:Nat):Int) 300)) ?_
 refine⟨⟨0,?_,rfl,rfl,trivial⟩,?_⟩
 unfold im
 simp
 rintro i ⟨h1,h2⟩
 refine⟨fun j7=>?_,fun j7=>?_⟩
 try simp only[nb]at j7
 refine⟨⟨by omega,aj (d:=l4) (by omega)⟩,trivial,rfl,by have:=hz i;omega,fun hG=>⟨by omega,aj (d:=l4) (by omega)⟩,fun hG=>trivial,⟨fun _=>rfl,fun h=>by rw[h] <;> rfl⟩,fun hG=>⟨by omega,aj (d:=l4) (by omega)⟩,fun hG=>trivial,fun hG=>⟨trivial,rfl⟩,⟨fun _=>rfl,fun h=>by rw[h] <;> rfl⟩,fun hG=>⟨by omega,aj (d:=l4) (by omega)⟩,fun hG=>trivial,fun hG=>⟨by omega,aj (d:=l4) (by omega)⟩,fun hG=>trivial,fun hG=>⟨by omega,aj (d:=l4) (by omega)⟩,fun hG=>trivial,fun hG=>⟨by(try simp only[nb]at hG);have:=hz i;omega,rfl⟩,fun hG=>⟨fun _=>rfl,fun h=>by rw[h];exact(Bool.and_eq_true _ _).mpr ⟨hG,rfl⟩⟩,fun hG=>⟨fun h=>by rw[h];exact(Bool.and_eq_true _ _).mpr ⟨hG,rfl⟩,fun _=>rfl⟩,⟨fun _=>rfl,fun h=>by rw[h] <;> rfl⟩,?_⟩
 refine⟨fun j9=>?_,fun j9=>?_⟩
 try simp only[nb]at j9
 unfold Q
 rw[uE (i:=i) (by omega) (fun h=>by rw[HC j9]at h;exact absurd h.1 (by decide))]
 try simp only[nb]at j9
 refine⟨⟨0,?_,rfl,rfl,rfl,trivial⟩,?_⟩
 simp
 rintro k ⟨h3,h4⟩
 refine⟨fun l8=>?_,fun l8=>?_⟩
 try simp only[nb]at l8
 refine⟨⟨by omega,aj (d:=l4) (by omega)⟩,trivial,⟨by omega,aj (d:=l4) (by omega)⟩,trivial,?_⟩
 refine⟨fun o4=>?_,fun o4=>?_⟩
 try simp only[nb]at o4
 unfold Q
 rw[uE (i:=i) (by omega) (fun h=>h.2 k (by omega) o4)]
 try simp only[nb]at o4
 refine⟨by omega,?_⟩
 refine⟨k+1,?_,?_,rfl,rfl,rfl,trivial⟩
 exact⟨by omega,sU h4 o4⟩
 first | (solve | simp) | omega | (simp;omega)
 try simp only[nb]at l8
 refine⟨by omega,?_⟩
 refine⟨i+1,?_,?_,rfl,rfl,trivial⟩
 unfold im
 exact⟨by omega,sU h2 ⟨IA j9,fun k' L4=>h4 k' (by omega)⟩⟩
 first | (solve | simp) | omega | (simp;omega)
 try simp only[nb]at j7
 unfold Q
 rw[zL (fun j hj=>h2 j (by omega)),List.length_map]
 refine congrArg bV ?_
 unfold B5
 rw[Bool.eq_iff_iff];simp;omega)
def kq(s:BL)(p:BL):r5 Tryz.prog:=.mk 116 [sV s,sV p] [] ((s.length<=4611686018427387904)/\(p.length<=4611686018427387904)) (bV (eC s p)) [] (by
 rintro⟨hs,hp⟩
 refine aw (N:=18) (rs:=[.tmp 4]) Tryz.func116
  (.q 1<|.q 14<|.nil)
  ((fun v1:Bool=>(Gd (v1==true) (Sx (0:Int) (p.length:Int) s)/\Pk v1 (v1==true) true/\Q (bV (v1&&(((s.take p.length).drop ((0:Int).toNat))==p))) (bV (eC s p)))) (y0 (s.length:Int) (p.length:Int))) ?_
 refine⟨fun hG=>by(try simp only[nb]at hG);omega,⟨fun h=>by rw[h] <;> rfl,fun _=>rfl⟩,?_⟩
 unfold Q
 refine congrArg bV ?_
 unfold eC
 rw[Bool.eq_iff_iff];simp)
def kh(s:BL)(p:BL):r5 Tryz.prog:=.mk 168 [sV s,sV p] [] ((s.length<=4611686018427387904)/\(p.length<=4611686018427387904)) (bV (fH s p)) [] (by
 rintro⟨hs,hp⟩
 refine aw (N:=21) (rs:=[.tmp 4]) Tryz.func168
  (.q 1<|.q 17<|.nil)
  ((fun v1:Bool=>(Gd (v1==true) (m8 ((s.length:Int)-(p.length:Int)))/\Gd (v1==true) (Sx ((s.length:Int)-(p.length:Int)) (s.length:Int) s)/\Pk v1 (v1==true) true/\Q (bV (v1&&(((s.take s.length).drop (Int.toNat ((s.length:Int)-(p.length:Int))))==p))) (bV (fH s p)))) (y0 (s.length:Int) (p.length:Int))) ?_
 refine⟨fun hG=>by(try simp only[nb]at hG);omega,fun hG=>by(try simp only[nb]at hG);omega,⟨fun h=>by rw[h] <;> rfl,fun _=>rfl⟩,?_⟩
 unfold Q
 refine congrArg bV ?_
 unfold fH
 rw[Bool.eq_iff_iff];simp)
def nr(s:BL)(p:BL):r5 Tryz.prog:=.mk 167 [sV s,sV p] [] ((s.length<=4611686018427387904)/\(p.length<=4611686018427387904)) (sV (bQ s p)) [] (by
 rintro⟨hs,hp⟩
 refine aw (N:=16) (rs:=[.tmp 4]) Tryz.func167
  (.q 1<|.q 2<|.c (kh s p) []<|.br (.q 8<|.nil) (.q 2<|.nil))
  ((kh s p).sm/\((s.length<=4611686018427387904)/\(p.length<=4611686018427387904))/\Br (fH s p) (m8 ((s.length:Int)-(p.length:Int))/\Sx (0:Int) ((s.length:Int)-(p.length:Int)) s/\Q (sV ((s.take (Int.toNat ((s.length:Int)-(p.length:Int)))).drop ((0:Int).toNat))) (sV (bQ s p))) (Q (sV s) (sV (bQ s p)))) ?_
 refine⟨rfl,⟨by first | assumption | omega | (simp;omega),by first | assumption | omega | (simp;omega)⟩,?_⟩
 refine⟨fun j7=>?_,fun j7=>?_⟩
 try simp only[nb]at j7
 refine⟨by omega,by have:=sE j7;omega,?_⟩
 unfold Q
 have:=sE j7
 rw[show bQ s p=s.take (s.length-p.length) from if_pos j7]
 simp
 try simp only[nb]at j7
 unfold Q
 rw[show bQ s p=s from if_neg (by rw[j7];decide)])
def jt(d:BL):r5 Tryz.prog:=.mk 132 [sV d] [] (d.length<=4000000000000000000) (sV (ae d)) [] (by
 intro hh
 refine aw (N:=6) (rs:=[.tmp 2]) Tryz.func132
  (.q 1<|.q 4<|.nil)
  ((([47,47]:BL).length+d.length<=4611686018427387904)/\((([47,47]:BL)++d).length+([47,110,111,116,105,99,101]:BL).length<=4611686018427387904)/\Q (sV ((([47,47]:BL)++d)++([47,110,111,116,105,99,101]:BL))) (sV (ae d))) ?_
 refine⟨by(try simp only[List.length_append,List.length_cons,List.length_nil]);omega,by(try simp only[List.length_append,List.length_cons,List.length_nil]);omega,?_⟩
 unfold Q
 rfl)
def pw(s:BL)(p:BL):r5 Tryz.prog:=.mk 151 [sV s,sV p] [] ((s.length<=4611686018427387904)/\(p.length<=4611686018427387904)) (sV (bQ s p)) [] (by
 rintro⟨hs,hp⟩
 refine aw (N:=8) (rs:=[.tmp 4]) Tryz.func151
  (.q 1<|.q 2<|.c (nr s p) []<|.q 1<|.nil)
  ((nr s p).sm/\((s.length<=4611686018427387904)/\(p.length<=4611686018427387904))/\Q (sV (bQ s p)) (sV (bQ s p))) ?_
 refine⟨rfl,⟨by first | assumption | omega | (simp;omega),by first | assumption | omega | (simp;omega)⟩,?_⟩
 unfold Q
 rfl)
def oX(s:BL)(p:BL):r5 Tryz.prog:=.mk 154 [sV s,sV p] [] ((s.length<=4611686018427387904)/\(p.length<=4611686018427387904)) (.tup [sV (bQ s p),bV (fH s p)]) [] (by
 rintro⟨hs,hp⟩
 refine aw (N:=18) (rs:=[.tmp 4,.tmp 5]) Tryz.func154
  (.q 2<|.q 2<|.c (kh s p) []<|.q 1<|.br (.q 3<|.nil) (.q 9<|.nil))
  ((kh s p).sm/\((s.length<=4611686018427387904)/\(p.length<=4611686018427387904))/\Br (!(fH s p)) (Q (.tup [sV s,bV false]) (.tup [sV (bQ s p),bV (fH s p)])) (m8 ((s.length:Int)-(p.length:Int))/\Sx (0:Int) ((s.length:Int)-(p.length:Int)) s/\Q (.tup [sV ((s.take (Int.toNat ((s.length:Int)-(p.length:Int)))).drop ((0:Int).toNat)),bV true]) (.tup [sV (bQ s p),bV (fH s p)]))) ?_
 refine⟨rfl,⟨by first | assumption | omega | (simp;omega),by first | assumption | omega | (simp;omega)⟩,?_⟩
 refine⟨fun j7=>?_,fun j7=>?_⟩
 try simp only[nb]at j7
 unfold Q
 have j7:fH s p=false:=by simpa using j7
 rw[show bQ s p=s from if_neg (by rw[j7];decide),j7]
 try simp only[nb]at j7
 refine⟨by omega,by have:=sE (s:=s) (p:=p) (by simpa using j7);omega,?_⟩
 unfold Q
 have j7:fH s p=true:=by simpa using j7
 have:=sE j7
 rw[show bQ s p=s.take (s.length-p.length) from if_pos j7,j7]
 simp)
def pb(s:BL):r5 Tryz.prog:=.mk 182 [sV s] [] (s.length<=4611686018427387904) (bV ((s==[42])||bq s)) [] (by
 intro hs
 refine aw (N:=9) (rs:=[.tmp 2]) Tryz.func182
  (.q 1<|.q 4<|.cg (jS s)<|.q 2<|.nil)
  ((fun v1:BL=>(Gd ((s==v1)==false) (((s.length<=4611686018427387904))/\(jS s).sm)/\Pk (s==v1) true ((s==v1)==false)/\Q (bV ((s==v1)||(bq s))) (bV ((s==[42])||bq s)))) ([42]:BL)) ?_
 refine⟨fun hG=>⟨by(try simp only[nb]at hG);first | assumption | omega | (simp;omega),rfl⟩,⟨fun _=>rfl,fun h=>by rw[h] <;> rfl⟩,?_⟩
 unfold Q
 rfl)
def qT(s:BL)(p:BL):r5 Tryz.prog:=.mk 127 [sV s,sV p] [] ((s.length<=4611686018427387904)/\(p.length<=4611686018427387904)) (.tup [sV (bQ s p),bV (fH s p)]) [] (by
 rintro⟨hs,hp⟩
 refine aw (N:=11) (rs:=[.tmp 4,.tmp 5]) Tryz.func127
  (.q 2<|.q 2<|.c (oX s p) []<|.q 4<|.nil)
  ((oX s p).sm/\((s.length<=4611686018427387904)/\(p.length<=4611686018427387904))/\Q (.tup [sV (bQ s p),bV (fH s p)]) (.tup [sV (bQ s p),bV (fH s p)])) ?_
 refine⟨rfl,⟨by first | assumption | omega | (simp;omega),by first | assumption | omega | (simp;omega)⟩,?_⟩
 unfold Q
 rfl)
abbrev gp(s:BL)(p:BL):V:=.tup [sV (if eC s p=true then s.drop p.length else s),bV (eC s p)]
def oW(s:BL)(p:BL):r5 Tryz.prog:=.mk 80 [sV s,sV p] [] ((s.length<=4611686018427387904)/\(p.length<=4611686018427387904)) (gp s p) [] (by
 rintro⟨hs,hp⟩
 refine aw (N:=15) (rs:=[.tmp 4,.tmp 5]) Tryz.func80
  (.q 2<|.q 2<|.c (kq s p) []<|.q 1<|.br (.q 3<|.nil) (.q 6<|.nil))
  ((kq s p).sm/\((s.length<=4611686018427387904)/\(p.length<=4611686018427387904))/\Br (!(eC s p)) (Q (.tup [sV s,bV false]) (gp s p)) (Sx (p.length:Int) (s.length:Int) s/\Q (.tup [sV ((s.take s.length).drop p.length),bV true]) (gp s p))) ?_
 refine⟨rfl,⟨by first | assumption | omega | (simp;omega),by first | assumption | omega | (simp;omega)⟩,?_⟩
 refine⟨fun j7=>?_,fun j7=>?_⟩
 try simp only[nb]at j7
 unfold Q gp
 have j7:eC s p=false:=by simpa using j7
 rw[if_neg (by rw[j7];decide),j7]
 try simp only[nb]at j7
 refine⟨by have:=HG (s:=s) (p:=p) (by simpa using j7);omega,?_⟩
 unfold Q gp
 have j7:eC s p=true:=by simpa using j7
 rw[if_pos j7,j7]
 simp)
abbrev mO(s:BL)(p:BL):V:=.tup [sV (if eC s p=true then s.drop p.length else s),bV (eC s p)]
def qO(s:BL)(p:BL):r5 Tryz.prog:=.mk 49 [sV s,sV p] [] ((s.length<=4611686018427387904)/\(p.length<=4611686018427387904)) (mO s p) [] (by
 rintro⟨hs,hp⟩
 refine aw (N:=11) (rs:=[.tmp 4,.tmp 5]) Tryz.func49
  (.q 2<|.q 2<|.c (oW s p) []<|.q 4<|.nil)
  ((oW s p).sm/\((s.length<=4611686018427387904)/\(p.length<=4611686018427387904))/\Q (.tup [sV (if eC s p=true then s.drop p.length else s),bV (eC s p)]) (mO s p)) ?_
 refine⟨rfl,⟨by first | assumption | omega | (simp;omega),by first | assumption | omega | (simp;omega)⟩,?_⟩
 unfold Q mO
 rfl)
def my(b:UInt8):r5 Tryz.prog:=.mk 152 [uN b.toNat] [] True (bV (gL b)) [] (by
 intro _
 refine aw (N:=19) (rs:=[.tmp 2]) Tryz.func152
  (.q 1<|.q 1<|.q 2<|.join (Bool) (fun c=>⟨[(0,uN b.toNat),(4,bV c)],[]⟩) (fun c=>c=decide (b.toNat=47\/b.toNat=42\/b.toNat=63\/b.toNat=37)) (.nil) (.q 2<|.br (.nil) (.q 2<|.br (.nil) (.q 2<|.nil))) (fun c=>.br (.q 1<|.nil) (.q 1<|.c (jZ b) []<|.q 9<|.nil)))
  ((fun v1:Int=>(((r4 v1 47)=true->∃ c:Bool,(c=decide (b.toNat=47\/b.toNat=42\/b.toNat=63\/b.toNat=37))/\E (uN b.toNat)/\Q (bV (r4 v1 47)) (bV c)/\True)/\((r4 v1 47)=false->Br (r4 v1 42) (∃ c:Bool,(c=decide (b.toNat=47\/b.toNat=42\/b.toNat=63\/b.toNat=37))/\E (uN b.toNat)/\Q (bV (r4 v1 42)) (bV c)/\True) (Br (r4 v1 63) (∃ c:Bool,(c=decide (b.toNat=47\/b.toNat=42\/b.toNat=63\/b.toNat=37))/\E (uN b.toNat)/\Q (bV (r4 v1 63)) (bV c)/\True) (∃ c:Bool,(c=decide (b.toNat=47\/b.toNat=42\/b.toNat=63\/b.toNat=37))/\E (uN b.toNat)/\Q (bV (r4 v1 37)) (bV c)/\True)))/\(∀ c:Bool,(c=decide (b.toNat=47\/b.toNat=42\/b.toNat=63\/b.toNat=37))->Br c (Q (bV true) (bV (gL b))) ((jZ b).sm/\(True)/\Gd ((dw b)==false) (Pk (y0 v1 65) (((dw b)==false)&&((y0 v1 65)==true)) true)/\Pk (dw b) true ((dw b)==false)/\Q (bV ((dw b)||((y0 v1 65)&&(B5 v1 70)))) (bV (gL b)))))) (b.toNat:Int)) ?_
 refine⟨fun j7=>?_,fun j7=>?_,fun c hc=>?_⟩
 try simp only[nb]at j7
 exact⟨r4 (b.toNat:Int) 47,by first | (rw[Bool.eq_iff_iff];simp;omega) | (rw[Bool.eq_iff_iff];simp),rfl,rfl,trivial⟩
 try simp only[nb]at j7
 refine⟨fun j9=>?_,fun j9=>?_⟩
 try simp only[nb]at j9
 exact⟨r4 (b.toNat:Int) 42,by first | (rw[Bool.eq_iff_iff];simp;omega) | (rw[Bool.eq_iff_iff];simp),rfl,rfl,trivial⟩
 try simp only[nb]at j9
 refine⟨fun l8=>?_,fun l8=>?_⟩
 try simp only[nb]at l8
 exact⟨r4 (b.toNat:Int) 63,by first | (rw[Bool.eq_iff_iff];simp;omega) | (rw[Bool.eq_iff_iff];simp),rfl,rfl,trivial⟩
 try simp only[nb]at l8
 exact⟨r4 (b.toNat:Int) 37,by first | (rw[Bool.eq_iff_iff];simp;omega) | (rw[Bool.eq_iff_iff];simp),rfl,rfl,trivial⟩
 refine⟨fun o4=>?_,fun o4=>?_⟩
 try simp only[nb]at o4
 unfold Q
 have h:b.toNat=47\/b.toNat=42\/b.toNat=63\/b.toNat=37:=by rw[hc,decide_eq_true_eq]at o4;exact o4
 refine congrArg bV ?_
 unfold gL
 rw[decide_eq_true (by omega),Bool.or_true]
 try simp only[nb]at o4
 refine⟨rfl,trivial,fun hG=>⟨fun h=>by rw[h];exact(Bool.and_eq_true _ _).mpr ⟨hG,rfl⟩,fun _=>rfl⟩,⟨fun _=>rfl,fun h=>by rw[h] <;> rfl⟩,?_⟩
 unfold Q
 have h: ¬ (b.toNat=47\/b.toNat=42\/b.toNat=63\/b.toNat=37):=by rw[hc,decide_eq_false_iff_not]at o4;exact o4
 refine congrArg bV ?_
 unfold gL
 congr 1
 rw[Bool.eq_iff_iff];simp only[Bool.and_eq_true,decide_eq_true_eq];omega)
def jf(p:BL):r5 Tryz.prog:=.mk 124 [sV p] [] (p.length<=4611686018427387904) (bV (de p)) [] (by
 intro hs
 have SJ:(bQ p [36]).length<=p.length:=by unfold bQ;split <;> simp
 refine aw (N:=31) (rs:=[.tmp 2]) Tryz.func124
  (.q 1<|.q 13<|.br (.q 1<|.nil) (.q 1<|.c (pw p ([36]:BL)) []<|.q 1<|.q 1<|.loop (Nat) (fun (i:Nat)=>⟨[(3,sV (bQ p [36])),(4,iN i)],[]⟩) (fun (i:Nat)=>i<=(bQ p [36]).length/\∀ j,j<i->gL ((bQ p [36]).getD j 0)=true) (fun (i:Nat)=>(bQ p [36]).length-i) (fun (i:Nat)=>.q 4<|.br (.q 3<|.c (my ((bQ p [36]).getD i 0)) []<|.q 1<|.br (.q 1<|.nil) (.q 3<|.nil)) (.q 1<|.nil))))
  ((fun v1:Int=>(Pk (s7 v1 1) true ((s7 v1 1)==false)/\Gd (((s7 v1 1)||(s9 v1 16))==false) (Ix 0 p)/\Pk ((s7 v1 1)||(s9 v1 16)) true (((s7 v1 1)||(s9 v1 16))==false)/\Br (((s7 v1 1)||(s9 v1 16))||(B9 (((p.getD 0 0).toNat:Nat):Int) 47)) (Q (bV false) (bV (de p))) ((pw p ([36]:BL)).sm/\((p.length<=4611686018427387904)/\(([36]:BL).length<=4611686018427387904))/\(∃ j8:Nat,(j8<=(bQ p [36]).length/\∀ j,j<j8->gL ((bQ p [36]).getD j 0)=true)/\Q (sV (bQ p ([36]:BL))) (sV (bQ p [36]))/\Q (iN 0) (iN j8)/\True)/\∀ i:Nat,(i<=(bQ p [36]).length/\∀ j,j<i->gL ((bQ p [36]).getD j 0)=true)->Br (s7 (i:Int) (((bQ p [36]).length:Nat):Int)) (Ix (i:Int) (bQ p [36])/\(my ((bQ p [36]).getD i 0)).sm/\(True)/\Br (!(gL ((bQ p [36]).getD i 0))) (Q (bV false) (bV (de p))) (m8 ((i:Int)+1)/\∃ c9:Nat,(c9<=(bQ p [36]).length/\∀ j,j<c9->gL ((bQ p [36]).getD j 0)=true)/\((bQ p [36]).length-c9<(bQ p [36]).length-i)/\E (sV (bQ p [36]))/\Q (iN (i+1)) (iN c9)/\True)) (Q (bV true) (bV (de p)))))) (p.length:Int)) ?_
 refine⟨⟨fun _=>rfl,fun h=>by rw[h] <;> rfl⟩,fun hG=>by(try simp only[nb]at hG);omega,⟨fun _=>rfl,fun h=>by rw[h] <;> rfl⟩,?_⟩
 refine⟨fun j7=>?_,fun j7=>?_⟩
 try simp only[nb]at j7
 unfold Q
 refine congrArg bV ?_
 unfold de
 rw[decide_eq_false (by omega)];rfl
 try simp only[nb]at j7
 refine⟨rfl,⟨by omega,by simp⟩,?_⟩
 refine⟨⟨0,?_,by first | rfl | simp | (simp;omega),rfl,trivial⟩,?_⟩
 simp
 rintro i ⟨h1,h2⟩
 refine⟨fun j9=>?_,fun j9=>?_⟩
 try simp only[nb]at j9
 refine⟨by omega,rfl,trivial,?_⟩
 refine⟨fun l8=>?_,fun l8=>?_⟩
 try simp only[nb]at l8
 unfold Q
 refine congrArg bV ?_
 unfold de
 rw[all_false (i:=i) (d:=0) (by omega) (by simpa using l8),Bool.and_false]
 try simp only[nb]at l8
 refine⟨by omega,?_⟩
 refine⟨i+1,?_,?_,rfl,rfl,trivial⟩
 exact⟨by omega,bF h2 (by simpa using l8)⟩
 first | (solve | simp) | omega | (simp;omega)
 try simp only[nb]at j9
 unfold Q
 refine congrArg bV ?_
 unfold de
 rw[all_true (d:=0) (fun j hj=>h2 j (by omega)),decide_eq_true (by omega)];rfl)
end Go.Proofs.YtlclejemchbjiaaGreatDoor
namespace Go.Pd
def cq(a:s5):Prop:=a.c5.length<=1000/\a.ask.length<=1000/\a.b7.length<=500/\∀ i,(a.b7.getD i []).length<=1000
theorem uV{ps:List BL}(h:∀ i,(ps.getD i []).length<=1000):∀ i,i<=ps.length->(bT (ps.take i)).length<=i*1001
 | 0,_=>by simp[bT]
 | i+1,hi=>by
   have:=uV h i (by omega)
   have h2:=h i
   rw[aW (by omega:i<ps.length) [],kX]
   split
   omega
   simp only[List.length_append,List.length_cons,List.length_nil];omega
theorem cq.join{a:s5}(h:cq a):(bT a.b7).length<=500500:=by
 obtain⟨h1,h2,h3,h4⟩:=h
 have:=uV h4 a.b7.length (Nat.le_refl _)
 rw[List.take_length]at this;omega
theorem cq.path{a:s5}(h:cq a):(bu a).length<=502000:=by
 have:=h.join
 obtain⟨h1,h2,h3,h4⟩:=h
 unfold bu
 split <;> simp <;> omega
theorem cq.text{a:s5}(h:cq a):(ck a).length<=504000:=by
 have:=h.path
 have:=h.1
 unfold ck
 simp;omega
theorem JV{h q:BL}{fr ls:List BL}{k:Bool}(hh:h.length<=1000)(hf:∀ i,(fr.getD i []).length<=1000)(hl:fr.length+ls.length<=500):cq ⟨h,bE (fr++ls.map dW),k,dW q⟩:=by
 refine⟨hh,?_,?_,fun i=>?_⟩
 have:=oI q;simp only[dW];omega
 have:=vu (fr++ls.map dW);simp only[List.length_append,List.length_map]at this ⊢;omega
 refine jU (n:=1000) (fun p SW=>?_) i
 rcases List.mem_append.1 (vm SW) with h | h
 obtain⟨j,hj,rfl⟩:=List.getElem_of_mem h
 have:=hf j
 rwa [List.getD_eq_getElem?_getD,List.getElem?_eq_getElem hj]at this
 obtain⟨y,_,rfl⟩:=List.mem_map.1 h
 have:=oI y;simp only[dW];omega
theorem pe{a:s5}(h:aH a=true):cq a:=by
 unfold aH at h
 simp only[Bool.and_eq_true,decide_eq_true_eq]at h
 obtain⟨⟨⟨⟨⟨h1,h2⟩,h3⟩,h4⟩,h5⟩,h6⟩:=h
 refine⟨?_,?_,by omega,fun i=>jU (n:=1000) (fun p hp=>?_) i⟩
 have:a.c5.length<=(ck a).length:=by unfold ck;simp;omega
 omega
 have:=mu h3;omega
 have h5:=List.all_eq_true.1 h5 p hp
 unfold dA at h5
 simp only[Bool.and_eq_true]at h5
 have:=mu h5.1.1.1;omega
theorem pz:cq (oA none):=⟨by simp[oA],by simp[oA],by simp[oA],by simp[oA]⟩
theorem Ju(h:BL)(fr:List BL)(n9:BL):cq (oA (aZ h fr n9)):=by
 unfold aZ
 split
 split
 rename_i h2;exact pe h2
 exact pz
 exact pz
theorem kF(s:BL):cq (oA (ai s)):=by
 unfold ai
 split
 exact Ju _ _ _
 exact pz
theorem nB{h:BL}{fr:List BL}{n9:BL}(hs:(aZ h fr n9).isSome=true):aH (oA (aZ h fr n9))=true:=by
 unfold aZ at hs ⊢
 split
 split
 rename_i h2;exact h2
 rename_i h1 h2;rw[if_pos h1,if_neg h2]at hs;simp at hs
 rename_i h1;rw[if_neg h1]at hs;simp at hs
theorem iS{s:BL}(hs:(ai s).isSome=true):aH (oA (ai s))=true:=by
 unfold ai at hs ⊢
 split
 rename_i h;rw[if_pos h]at hs;exact nB hs
 rename_i h;rw[if_neg h]at hs;simp at hs
def bO(s:BL):Option s5:=if eC s [47,47]=true then cI (s.drop 2) else none
theorem qt{s p:BL}:eC s p=true↔p.length<=s.length/\s.take p.length=p:=by unfold eC;simp
theorem yg{raw:BL}(h:raw.length<=60):ai raw=bO (ag 35 raw).1:=by
 unfold ai bO
 by_cases hp:eC (ag 35 raw).1 [47,47]=true
 have:=qt.1 hp
 rw[if_pos hp,if_pos ⟨h,this.1,this.2⟩]
 rw[if_neg hp,if_neg]
 rintro⟨_,h1,h2⟩
 exact hp (qt.2 ⟨h1,h2⟩)
theorem sT{raw:BL}(h: ¬ raw.length<=60):ai raw=none:=if_neg fun c=>h c.1
theorem m6.take{s:BL}(h:m6 s)(n:Nat):m6 (s.take n):=fun c hc=>h c (List.mem_of_mem_take hc)
theorem m6.drop{s:BL}(h:m6 s)(n:Nat):m6 (s.drop n):=fun c hc=>h c (List.mem_of_mem_drop hc)
theorem yP(c:UInt8):∀ (s:BL) x,x∈(ag c s).1->x∈s
 | [],x,h=>by simp[ag]at h
 | b::l,x,h=>by
   simp only[ag]at h
   split at h
   simp at h
   simp only[List.mem_cons]at h ⊢
   exact h.imp id (yP c l x)
theorem m6.cut{s:BL}(h:m6 s)(c:UInt8):m6 (ag c s).1:=fun x hx=>h x (yP c s x hx)
theorem tS{s:BL}(h1:(ai s).isSome=true)(h2:ck (oA (ai s))=s):aI s=true:=by
 unfold aI bf
 rw[h1,if_pos (iS h1),h2];simp
theorem FP{s:BL}(h:(ai s).isSome=false\/¬ ck (oA (ai s))=s):aI s=false:=by
 unfold aI bf
 rcases Bool.eq_false_or_eq_true (ai s).isSome with h1 | h1
 rw[if_pos (iS h1),h1]
 rcases h with h | h
 rw[h1]at h;cases h
 simpa using h
 rw[h1];rfl
def az(s:BL):Option s5:=if aI s=true then ai s else none
theorem fO{s:BL}:(az s).isSome=aI s:=by
 unfold az
 split
 rename_i h
 rw[h]
 unfold aI at h
 simp only[Bool.and_eq_true]at h;exact h.1
 rename_i h;simp at h;rw[h];rfl
end Go.Pd
namespace Go.Pd
open Go.Abs
def ko(p:Pg):Value:=.agg #[.string (Str p.addr),.string (Str p.text),.string (Str p.lead),.int .i64 p.m4]
def E5(p:Pg):BL×Value:=(p.addr,ko p)
def wE(w:List Pg):List (BL×Value):=w.foldl (fun es p=>eB es p.addr (ko p)) []
theorem nt{w:List Pg}{i:Nat}(h:i<w.length):wE (w.take (i+1))=eB (wE (w.take i)) (w.getD i l4).addr (ko (w.getD i l4)):=by
 unfold wE;rw[aW h l4,List.foldl_append];rfl
theorem vc{k:BL}:∀ {es:List (BL×Value)},bU es k=none↔∀ p,p∈es->p.1≠k
 | []=>by simp[bU]
 | q::r=>by
   unfold bU
   split
   rename_i h;simp[h]
   rename_i h
   rw[vc (es:=r)]
   simp[h]
theorem ue(k:BL)(y:Value):∀ (es:List (BL×Value)),(eB es k y).length=if bU es k=none then es.length+1 else es.length
 | []=>rfl
 | p::r=>by
   unfold eB bU
   split
   simp
   have:=ue k y r
   rw[List.length_cons,this]
   split <;> simp
theorem wj(k:BL)(y:Value):∀ (es:List (BL×Value)) (a:BL),(∃ p,p∈eB es k y/\p.1=a)↔(a=k\/∃ p,p∈es/\p.1=a)
 | [],a=>by simp[eB];exact eq_comm
 | p::r,a=>by
   unfold eB
   split
   rename_i h
   simp only[List.mem_cons,exists_eq_or_imp]
   constructor
   rintro (h1 | h1)
   exact .inl h1.symm
   exact .inr (.inr h1)
   rintro (h1 | h1 | h1)
   exact .inl h1.symm
   exact .inl (by rw[<- h];exact h1)
   exact .inr h1
   have:=wj k y r a
   simp only[List.mem_cons,exists_eq_or_imp,this]
   constructor
   rintro (h1 | h1 | h1)
   exact .inr (.inl h1)
   exact .inl h1
   exact .inr (.inr h1)
   rintro (h1 | h1 | h1)
   exact .inr (.inl h1)
   exact .inl h1
   exact .inr (.inr h1)
def xd(w:List Pg)(n:Nat):Prop:= ∀ i,i<n->∀ k,k<i->(w.getD k l4).addr≠(w.getD i l4).addr
theorem yJ(w:List Pg):∀ i,i<=w.length->∀ a,(∃ p,p∈wE (w.take i)/\p.1=a)↔∃ k,k<i/\(w.getD k l4).addr=a
 | 0,_,a=>by simp[wE]
 | i+1,h,a=>by
   rw[nt (by omega),wj,yJ w i (by omega)]
   constructor
   rintro (h1 | ⟨k,h1,h2⟩)
   exact⟨i,by omega,h1.symm⟩
   exact⟨k,by omega,h2⟩
   rintro⟨k,h1,h2⟩
   by_cases e:k=i
   subst e;exact .inl h2.symm
   exact .inr ⟨k,by omega,h2⟩
theorem tM{w:List Pg}{i:Nat}(h:i<=w.length){a:BL}:bU (wE (w.take i)) a=none↔∀ k,k<i->(w.getD k l4).addr≠a:=by
 rw[vc]
 have:=yJ w i h a
 constructor
 intro h1 k hk c
 obtain⟨p,hp,he⟩:=this.2 ⟨k,hk,c⟩
 exact h1 p hp he
 intro h1 p hp c
 obtain⟨k,hk,he⟩:=this.1 ⟨p,hp,c⟩
 exact h1 k hk he
theorem Bk(w:List Pg):∀ i,i<=w.length->(wE (w.take i)).length<=i/\((wE (w.take i)).length=i↔xd w i)
 | 0,_=>by simp[wE,xd]
 | i+1,h=>by
   obtain⟨h1,h2⟩:=Bk w i (by omega)
   rw[nt (by omega),ue]
   split
   rename_i hl
   rw[tM (by omega)]at hl
   refine⟨by omega,?_⟩
   constructor
   intro hq j hj k hk
   by_cases e:j=i
   subst e;exact hl k hk
   exact(h2.1 (by omega)) j (by omega) k hk
   intro hd
   have:=h2.2 fun j hj k hk=>hd j (by omega) k hk
   omega
   rename_i hl
   refine⟨by omega,?_⟩
   constructor
   intro hq;omega
   intro hd;exact absurd ((tM (by omega)).2 fun k hk=>hd i (by omega) k hk) hl
theorem Bo{w:List Pg}:∀ i,i<=w.length->xd w i->wE (w.take i)=(w.take i).map E5
 | 0,_,_=>by simp[wE]
 | i+1,h,hd=>by
   have ih:=Bo i (by omega) fun j hj k hk=>hd j (by omega) k hk
   rw[nt (by omega),qV _ _ _ ((tM (by omega)).2 fun k hk=>hd i (by omega) k hk),ih,aW (by omega:i<w.length) l4,List.map_append]
   rfl
theorem Ey{w:List Pg}(h:aq w=true):w.length<=12/\(∀ i,i<w.length->di (w.getD i l4)=true)/\xd w w.length:=by
 unfold aq at h
 simp only[Bool.and_eq_true,decide_eq_true_eq]at h
 exact⟨h.2,fun i hi=>(h.1 i hi).1,fun i hi=>(h.1 i hi).2⟩
theorem Dq{w:List Pg}(h:aq w=false)(h1:w.length<=12)(h2:∀ i,i<w.length->di (w.getD i l4)=true): ¬ xd w w.length:=fun c=>by
 have:aq w=true:=by
  unfold aq
  simp only[Bool.and_eq_true,decide_eq_true_eq]
  exact⟨fun i hi=>⟨h2 i hi,c i hi⟩,h1⟩
 rw[h]at this;cases this
theorem zB(a:BL):∀ (w:List Pg),(bU (w.map E5) a=none/\(z8 w a).2=false/\(z8 w a).1=l4)\/(bU (w.map E5) a=some (ko (z8 w a).1)/\(z8 w a).2=true)
 | []=>.inl ⟨rfl,rfl,rfl⟩
 | p::r=>by
   simp only[List.map_cons,bU,z8,E5]
   by_cases h:p.addr=a
   simp[h]
   simp only[h,if_false]
   exact zB a r
theorem Ds{s:BL}(h:(ai s).isSome=true):s.length<=60:=by
 by_cases hl:s.length<=60
 exact hl
 rw[sT hl]at h;simp at h
end Go.Pd
namespace Go.Pd
def kN(e:Bool):BL->BL->Prop
 | [],t=>e=false\/t=[]
 | c::b,t=>if c=42 then ∃ k,kN e b (t.drop k) else ∃ t',t=c::t'/\kN e b t'
def ob(e:Bool):List BL->BL->Prop
 | [],t=>e=false\/t=[]
 | q::r,t=> ∃ k,q <+: t.drop k/\ob e r ((t.drop k).drop q.length)
def SP(e:Bool):List BL->BL->Prop
 | [],_=>False
 | q::r,t=>q <+: t/\ob e r (t.drop q.length)
theorem pE(c:UInt8):∀ l,an c l≠[]
 | []=>by simp[an]
 | b::l=>by unfold an;split <;> simp
theorem nv(e:Bool):∀ (b t:BL),kN e b t↔SP e (an 42 b) t
 | [],t=>by simp[kN,an,SP,ob]
 | c::b,t=>by
   unfold kN an
   by_cases h:c=42
   simp only[h,if_true,SP,List.nil_prefix,true_and,List.length_nil,List.drop_zero]
   cases hs:an 42 b with
   | nil=>exact absurd hs (pE 42 b)
   | cons q r=>
     simp only[ob]
     constructor
     rintro⟨k,hk⟩;have:=(nv e b _).1 hk;rw[hs]at this;exact⟨k,this⟩
     rintro⟨k,hk⟩;exact⟨k,(nv e b _).2 (by rw[hs];exact hk)⟩
   simp only[h,if_false]
   cases hs:an 42 b with
   | nil=>exact absurd hs (pE 42 b)
   | cons q r=>
     simp only[List.headD_cons,List.tail_cons,SP]
     constructor
     rintro⟨t',rfl,hk⟩
     have:=(nv e b _).1 hk;rw[hs]at this
     exact⟨List.cons_prefix_cons.2 ⟨rfl,this.1⟩,by simpa using this.2⟩
     rintro⟨h1,h2⟩
     cases t with
     | nil=>simp at h1
     | cons x t'=>
       obtain⟨rfl,h3⟩:=List.cons_prefix_cons.1 h1
       exact⟨t',rfl,(nv e b _).2 (by rw[hs];exact⟨h3,by simpa using h2⟩)⟩
theorem CP{e:Bool}{ps:List BL}{t:BL}{m:Nat}(h:ob e ps (t.drop m))(hn:e=false\/ps≠[]):ob e ps t:=by
 cases ps with
 | nil=>exact hn.elim .inl (fun h=>absurd rfl h)
 | cons q r=>
   obtain⟨k,h1,h2⟩:=h
   have he:(t.drop m).drop k=t.drop (m+k):=List.drop_drop ..
   rw[he]at h1 h2
   exact⟨m+k,h1,h2⟩
def Tw(s p:BL)(k:Nat):Prop:=k+p.length<=s.length/\(s.drop k).take p.length=p
theorem tj(s p:BL):∀ (n f:Nat),s.length+1-f<=n->(eF s p f<0->∀ k,f<=k->¬ Tw s p k)/\(0<=eF s p f->Tw s p (eF s p f).toNat/\f<=(eF s p f).toNat/\∀ k,f<=k->Tw s p k->(eF s p f).toNat<=k)
 | 0,f,hn=>by
   rw[eF,dif_neg (by omega)]
   exact⟨fun _ k hk h=>by have:=h.1;omega,fun h=>by omega⟩
 | n+1,f,hn=>by
   rw[eF]
   by_cases h1:f+p.length<=s.length
   rw[dif_pos h1]
   by_cases h2:(s.drop f).take p.length=p
   rw[if_pos h2]
   exact⟨fun h=>by omega,fun _=>⟨⟨h1,h2⟩,by simp,fun k hk _=>by simpa using hk⟩⟩
   rw[if_neg h2]
   obtain⟨i1,i2⟩:=tj s p n (f+1) (by omega)
   refine⟨fun h k hk ho=>?_,fun h=>?_⟩
   by_cases e:k=f
   subst e;exact h2 ho.2
   exact i1 h k (by omega) ho
   obtain⟨j1,j2,j3⟩:=i2 h
   refine⟨j1,by omega,fun k hk ho=>?_⟩
   by_cases e:k=f
   subst e;exact absurd ho.2 h2
   exact j3 k (by omega) ho
   rw[dif_neg h1]
   exact⟨fun _ k hk h=>by have:=h.1;omega,fun h=>by omega⟩
theorem rH{p t:BL}:p <+: t↔p.length<=t.length/\t.take p.length=p:=by
 constructor
 intro h;exact⟨h.length_le,List.prefix_iff_eq_take.1 h |>.symm⟩
 rintro⟨_,h⟩;rw[<- h];exact List.take_prefix _ _
theorem go_sem(e:Bool)(s:BL):∀ (ps:List BL) (f:Nat),f<=s.length->(od e s f ps=true↔ob e ps (s.drop f))
 | [],f,hf=>by
   simp only[od,ob,Bool.or_eq_true,Bool.not_eq_true',decide_eq_true_eq,List.drop_eq_nil_iff]
   constructor
   rintro (h | h)
   exact .inl h
   exact .inr (by omega)
   rintro (h | h)
   exact .inl h
   exact .inr (by omega)
 | p::r,f,hf=>by
   unfold od
   by_cases hc:(e&&r.isEmpty)=true
   rw[if_pos hc]
   simp only[Bool.and_eq_true,List.isEmpty_iff]at hc
   obtain⟨rfl,rfl⟩:=hc
   simp only[Bool.and_eq_true,decide_eq_true_eq,beq_iff_eq,ob,Bool.true_eq_false,false_or,List.drop_drop]
   constructor
   rintro⟨h1,h2⟩
   refine⟨s.length-p.length-f,?_,?_⟩
   rw[show f+(s.length-p.length-f)=s.length-p.length from by omega,h2];exact List.prefix_refl _
   rw[List.drop_eq_nil_of_le (by omega)]
   rintro⟨k,h1,h2⟩
   have hp:=rH.1 h1
   rw[List.length_drop]at hp
   have h2:=List.drop_eq_nil_iff.1 h2
   by_cases hk:f+k<=s.length
   refine⟨by omega,?_⟩
   rw[show s.length-p.length=f+k from by omega]
   rw[List.take_of_length_le (by rw[List.length_drop];omega)]at hp
   exact hp.2
   have:p=[]:=List.eq_nil_of_length_eq_zero (by omega)
   subst this
   simp;omega
   rw[if_neg hc]
   have hn:e=false\/r≠[]:=by
    cases e with
    | false=>exact .inl rfl
    | true=>exact .inr fun c=>hc (by rw[c];rfl)
   obtain⟨i1,i2⟩:=tj s p _ f (Nat.le_refl _)
   have SY:∀ k,p <+: (s.drop f).drop k->∃ m,f<=m/\Tw s p m/\(s.drop f).drop k=s.drop m:=fun k h=>by
    have hp:=rH.1 h
    rw[List.drop_drop,List.length_drop]at hp
    by_cases hk:f+k<=s.length
    exact⟨f+k,by omega,⟨by omega,hp.2⟩,by rw[List.drop_drop]⟩
    have:p=[]:=List.eq_nil_of_length_eq_zero (by omega)
    subst this
    refine⟨s.length,hf,⟨by simp,by simp⟩,?_⟩
    rw[List.drop_drop,List.drop_eq_nil_of_le (by omega),List.drop_eq_nil_of_le (by omega)]
   by_cases RY:eF s p f<0
   rw[if_pos RY]
   simp only[Bool.false_eq_true,false_iff]
   rintro⟨k,h1,h2⟩
   obtain⟨m,m1,m2,m3⟩:=SY k h1
   exact i1 RY m m1 m2
   rw[if_neg RY]
   obtain⟨j1,j2,j3⟩:=i2 (by omega)
   rw[go_sem e s r _ j1.1]
   constructor
   intro h
   refine⟨(eF s p f).toNat-f,?_,?_⟩
   rw[List.drop_drop,show f+((eF s p f).toNat-f)=(eF s p f).toNat from by omega]
   exact rH.2 ⟨by rw[List.length_drop];have:=j1.1;omega,j1.2⟩
   rw[List.drop_drop,List.drop_drop,show f+((eF s p f).toNat-f+p.length)=(eF s p f).toNat+p.length from by omega];exact h
   rintro⟨k,h1,h2⟩
   obtain⟨m,m1,m2,m3⟩:=SY k h1
   have:=j3 m m1 m2
   rw[m3,List.drop_drop]at h2
   refine CP (m:=m-(eF s p f).toNat) ?_ hn
   rw[List.drop_drop,show (eF s p f).toNat+p.length+(m-(eF s p f).toNat)=m+p.length from by omega]
   exact h2
theorem EF(p s:BL):Av p s=true↔kN (eW p) (bA p) s:=by
 rw[nv]
 unfold Av
 cases hs:an 42 (bA p) with
 | nil=>exact absurd hs (pE 42 _)
 | cons q r=>
   simp only[List.headD_cons,List.tail_cons,Bool.and_eq_true,List.isPrefixOf_iff_prefix,SP]
   constructor
   rintro⟨h1,h2⟩;exact⟨h1,(go_sem _ s r _ h1.length_le).1 h2⟩
   rintro⟨h1,h2⟩;exact⟨h1,(go_sem _ s r _ h1.length_le).2 h2⟩
def L1(c:UInt8)(s:BL)(come:List Bool)(j:Nat):Bool:=if c=42 then (come.take (j+1)).any id else decide (0<j)&&(come.getD (j-1) false&&(s.getD (j-1) 0==c))
def kA(s:BL)(come:List Bool)(c:UInt8):List Bool:=(List.range (s.length+1)).map (L1 c s come)
def sI(s:BL):List Bool:=(List.replicate (s.length+1) false).set 0 true
def ir(s b:BL):List Bool:=b.foldl (kA s) (sI s)
theorem pB(s:BL)(come:List Bool)(c:UInt8):(kA s come c).length=s.length+1:=by simp[kA]
theorem wR(s b:BL):(ir s b).length=s.length+1:=by
 have:∀ (b:BL) (come:List Bool),come.length=s.length+1->(b.foldl (kA s) come).length=s.length+1:=by
  intro b;induction b with
  | nil=>intro come h;exact h
  | cons c b ih=>intro come _;exact ih _ (pB s come c)
 exact this b _ (by simp[sI])
theorem kB{s:BL}{come:List Bool}{c:UInt8}{j:Nat}(h:j<=s.length):(kA s come c).getD j false=L1 c s come j:=by
 simp[kA,List.getD_eq_getElem?_getD,List.getElem?_map,List.getElem?_range,Nat.lt_succ_of_le h]
def PR(e:Bool)(s:BL)(come:List Bool)(b:BL):Prop:= ∃ j,j<=s.length/\come.getD j false=true/\kN e b (s.drop j)
theorem rR{l:List Bool}{n:Nat}:(l.take n).any id=true↔∃ j,j<n/\l.getD j false=true:=by
 rw[List.any_eq_true]
 constructor
 rintro⟨x,hx,h⟩
 obtain⟨j,hj⟩:=List.mem_iff_getElem?.1 hx
 rw[List.getElem?_take]at hj
 split at hj
 rename_i hlt
 exact⟨j,hlt,by rw[List.getD_eq_getElem?_getD,hj];simpa using h⟩
 simp at hj
 rintro⟨j,hj,h⟩
 refine⟨true,?_,rfl⟩
 rw[List.mem_iff_getElem?]
 refine⟨j,?_⟩
 rw[List.getElem?_take,if_pos hj]
 rw[List.getD_eq_getElem?_getD]at h
 cases hl:l[j]? with
 | none=>rw[hl]at h;simp at h
 | some x=>rw[hl]at h;simp at h;rw[h]
theorem Ei{e:Bool}{s:BL}{come:List Bool}{c:UInt8}{b:BL}:PR e s come (c::b)↔PR e s (kA s come c) b:=by
 unfold PR
 constructor
 rintro⟨j,h1,h2,h3⟩
 unfold kN at h3
 by_cases hc:c=42
 rw[if_pos hc]at h3
 obtain⟨k,h3⟩:=h3
 by_cases hk:j+k<=s.length
 refine⟨j+k,hk,?_,by rw[List.drop_drop]at h3;exact h3⟩
 rw[kB hk,L1,if_pos hc,rR]
 exact⟨j,by omega,h2⟩
 refine⟨s.length,Nat.le_refl _,?_,?_⟩
 rw[kB (Nat.le_refl _),L1,if_pos hc,rR]
 exact⟨j,by omega,h2⟩
 rw[List.drop_drop,List.drop_eq_nil_of_le (by omega)]at h3
 rw[List.drop_eq_nil_of_le (Nat.le_refl _)];exact h3
 rw[if_neg hc]at h3
 obtain⟨t',h3,h4⟩:=h3
 have hj:j<s.length:=by
  by_cases hj:j<s.length
  exact hj
  rw[List.drop_eq_nil_of_le (by omega)]at h3;cases h3
 rw[drop_cons hj 0,List.cons.injEq]at h3
 refine⟨j+1,by omega,?_,by rw[h3.2];exact h4⟩
 rw[kB (by omega),L1,if_neg hc]
 simp only[Nat.add_sub_cancel,h2,h3.1];simp
 rintro⟨j,h1,h2,h3⟩
 rw[kB h1,L1]at h2
 by_cases hc:c=42
 rw[if_pos hc,rR]at h2
 obtain⟨i,hi,h2⟩:=h2
 refine⟨i,by omega,h2,?_⟩
 unfold kN;rw[if_pos hc]
 exact⟨j-i,by rw[List.drop_drop,show i+(j-i)=j from by omega];exact h3⟩
 rw[if_neg hc]at h2
 simp only[Bool.and_eq_true,decide_eq_true_eq,beq_iff_eq]at h2
 obtain⟨h4,h5,h6⟩:=h2
 refine⟨j-1,by omega,h5,?_⟩
 unfold kN;rw[if_neg hc]
 refine⟨s.drop j,?_,h3⟩
 rw[drop_cons (by omega:j-1<s.length) 0,h6,show j-1+1=j from by omega]
theorem wu{e:Bool}{s:BL}:∀ (b:BL) {come:List Bool},PR e s come b↔PR e s (b.foldl (kA s) come) []
 | [],come=>Iff.rfl
 | c::b,come=>by rw[Ei,List.foldl_cons];exact wu b
theorem Ji{e:Bool}{s b:BL}:PR e s (sI s) b↔kN e b s:=by
 unfold PR sI
 constructor
 rintro⟨j,h1,h2,h3⟩
 rw[List.getD_eq_getElem?_getD,List.getElem?_set]at h2
 split at h2
 rename_i h;rw[<- h]at h3;simpa using h3
 rw[List.getElem?_replicate]at h2;split at h2 <;> simp at h2
 intro h;exact⟨0,Nat.zero_le _,by simp[List.getD_eq_getElem?_getD],by simpa using h⟩
def xE(p s:BL):Bool:=if eW p=true then (ir s (bA p)).getD s.length false else (ir s (bA p)).contains true
theorem HB(p s:BL):xE p s=Av p s:=by
 rw[Bool.eq_iff_iff,EF,<- Ji,wu]
 show _↔PR (eW p) s (ir s (bA p)) []
 unfold xE PR kN
 cases eW p with
 | true=>
   simp only[if_true,Bool.true_eq_false,false_or,List.drop_eq_nil_iff]
   constructor
   intro h;exact⟨s.length,Nat.le_refl _,h,Nat.le_refl _⟩
   rintro⟨j,h1,h2,h3⟩;rw[show s.length=j from by omega];exact h2
 | false=>
   simp only[Bool.false_eq_true,if_false,true_or,and_true,List.contains_iff_mem]
   have hl:=wR s (bA p)
   constructor
   intro h
   obtain⟨j,hj⟩:=List.mem_iff_getElem?.1 h
   have:=(List.getElem?_eq_some_iff.1 hj).1
   exact⟨j,by omega,by rw[List.getD_eq_getElem?_getD,hj];rfl⟩
   rintro⟨j,h1,h2⟩
   rw[List.getD_eq_getElem?_getD]at h2
   cases hq:(ir s (bA p))[j]? with
   | none=>rw[hq]at h2;simp at h2
   | some x=>rw[hq]at h2;simp at h2;rw[h2]at hq;exact List.mem_of_getElem? hq
theorem tV{p:BL}(h:1<=p.length):fH p [36]=eW p:=by
 unfold fH eW
 rw[List.length_singleton,decide_eq_true h,Bool.true_and,drop_cons (by omega:p.length-1<p.length) 0,List.drop_eq_nil_of_le (by omega),Bool.eq_iff_iff]
 simp only[beq_iff_eq,decide_eq_true_eq,List.cons.injEq,and_true]
 rw[<- UInt8.toNat_inj];rfl
theorem pj{p:BL}(h:1<=p.length):bQ p [36]=bA p:=by
 unfold bQ bA
 rw[tV h];rfl
theorem mW(p:BL):de p=bH p:=by
 by_cases h:1<=p.length
 have hp36:gL 36=false:=by decide
 unfold de bH
 rw[pj h,Bool.eq_iff_iff]
 simp only[Bool.and_eq_true,decide_eq_true_eq]
 have key:(bA p).all gL=true↔∀ j,j<p.length->ka p j=true:=by
  rw[List.all_eq_true]
  unfold bA
  by_cases he:eW p=true
  rw[if_pos he]
  have he:(p.getD (p.length-1) 0).toNat=36:=by unfold eW at he;simpa using he
  constructor
  intro hx j hj
  unfold ka
  by_cases e:j=p.length-1
  rw[e,he,show decide (p.length-1+1=p.length)=true from decide_eq_true (by omega)];simp
  have:p.getD j 0∈p.take (p.length-1):=by
   rw[List.mem_iff_getElem?]
   exact⟨j,by rw[List.getElem?_take,if_pos (by omega),List.getD_eq_getElem?_getD,List.getElem?_eq_getElem hj];rfl⟩
  rw[hx _ this];rfl
  intro hx x hm
  obtain⟨j,hj⟩:=List.mem_iff_getElem?.1 hm
  rw[List.getElem?_take]at hj
  split at hj
  rename_i hlt
  have Rr:=(List.getElem?_eq_some_iff.1 hj).1
  have:=hx j Rr
  unfold ka at this
  rw[show decide (j+1=p.length)=false from decide_eq_false (by omega),Bool.and_false,Bool.or_false,List.getD_eq_getElem?_getD,hj]at this
  exact this
  simp at hj
  rw[if_neg he]
  have he: ¬ (p.getD (p.length-1) 0).toNat=36:=by unfold eW at he;simpa using he
  constructor
  intro hx j hj
  unfold ka
  have:p.getD j 0∈p:=by
   rw[List.mem_iff_getElem?]
   exact⟨j,by rw[List.getD_eq_getElem?_getD,List.getElem?_eq_getElem hj];rfl⟩
  rw[hx _ this];rfl
  intro hx x hm
  obtain⟨j,hj⟩:=List.mem_iff_getElem?.1 hm
  have Rr:=(List.getElem?_eq_some_iff.1 hj).1
  have:=hx j Rr
  unfold ka at this
  have hg:p.getD j 0=x:=by rw[List.getD_eq_getElem?_getD,hj];rfl
  rw[hg]at this
  simp only[Bool.or_eq_true,Bool.and_eq_true,decide_eq_true_eq]at this
  rcases this with h1 | ⟨h1,h2⟩
  exact h1
  exact absurd (by rw[show p.length-1=j from by omega,hg];exact h1) he
 rw[key]
 constructor
 rintro⟨⟨h1,h2,h3⟩,h4⟩;exact⟨h1,h2,h3,h4⟩
 rintro⟨h1,h2,h3,h4⟩;exact⟨⟨h1,h2,h3⟩,h4⟩
 unfold de bH
 rw[decide_eq_false (fun c=>h c.1),decide_eq_false (fun c=>h c.1)];rfl
def dH:List Bool->Bool->Int
 | [],_=> -1
 | x::r,b=>if x=b then 0 else if dH r b<0 then -1 else dH r b+1
theorem nU:∀ {l:List Bool} {b:Bool} {i:Nat},i<l.length->l.getD i false=b->(∀ j,j<i->l.getD j false≠b)->dH l b=i
 | [],_,_,h,_,_=>by simp at h
 | x::r,b,0,_,h,_=>by simp at h;simp[dH,h]
 | x::r,b,i+1,hl,h,hn=>by
   have h0:x≠b:=by have:=hn 0 (by omega);simpa using this
   have:=nU (l:=r) (i:=i) (by simpa using hl) (by simpa using h) (fun j hj=>by have:=hn (j+1) (by omega);simpa using this)
   unfold dH
   rw[if_neg h0,this,if_neg (by omega)];simp
theorem mG:∀ {l:List Bool} {b:Bool},(∀ j,j<l.length->l.getD j false≠b)->dH l b= -1
 | [],_,_=>rfl
 | x::r,b,hn=>by
   have h0:x≠b:=by have:=hn 0 (by simp);simpa using this
   have:=mG (l:=r) (b:=b) (fun j hj=>by have:=hn (j+1) (by simpa using hj);simpa using this)
   unfold dH
   rw[if_neg h0,this];rfl
theorem og:∀ (l:List Bool) (b:Bool),decide (0<=dH l b)=l.contains b
 | [],_=>rfl
 | x::r,b=>by
   have ih:=og r b
   unfold dH
   by_cases h:x=b
   subst h;simp
   rw[if_neg h,List.contains_cons,show (b==x)=false from by simp;exact fun c=>h c.symm,Bool.false_or,<- ih]
   congr 1
   apply propext
   split <;> omega
theorem DB{s:BL}{come:List Bool}{j:Nat}(h:j<come.length):L1 42 s come j=(come.getD j false||(decide (0<j)&&L1 42 s come (j-1))):=by
 unfold L1
 simp only[if_true]
 rw[aW h false,List.any_append]
 simp only[List.any_cons,List.any_nil,id,Bool.or_false]
 rw[Bool.or_comm]
 congr 1
 by_cases hj:0<j
 rw[show j-1+1=j from by omega,decide_eq_true hj];rfl
 rw[show j=0 from by omega];rfl
theorem yN{l:List Bool}{i:Nat}{x:Bool}(h:i<l.length):(l.set i x).getD i false=x:=by
 simp[List.getD_eq_getElem?_getD,h]
theorem ze{l:List Bool}{i j:Nat}{x:Bool}(h:j≠i):(l.set i x).getD j false=l.getD j false:=by
 simp only[List.getD_eq_getElem?_getD,List.getElem?_set_ne (Ne.symm h)]
theorem Ec{s:BL}{come nx:List Bool}{c:UInt8}(h1:nx.length=s.length+1)(h2:∀ j,j<s.length+1->nx.getD j false=L1 c s come j):nx=kA s come c:=by
 apply List.ext_getElem?
 intro j
 by_cases hj:j<s.length+1
 have h3:=h2 j hj
 rw[<- kB (by omega:j<=s.length) (come:=come) (c:=c)]at h3
 have hl:=pB s come c
 rw[List.getD_eq_getElem?_getD,List.getD_eq_getElem?_getD,List.getElem?_eq_getElem (by omega),List.getElem?_eq_getElem (by omega)]at h3
 rw[List.getElem?_eq_getElem (by omega),List.getElem?_eq_getElem (by omega)]
 simpa using h3
 have hl:=pB s come c
 rw[List.getElem?_eq_none (by omega),List.getElem?_eq_none (by omega)]
theorem Cj{s b:BL}{i:Nat}(h:i<b.length):ir s (b.take (i+1))=kA s (ir s (b.take i)) (b.getD i 0):=by
 unfold ir;rw[aW h 0,List.foldl_append];rfl
theorem BX{p:BL}(h:de p=true):1<=p.length:=by
 unfold de at h
 simp only[Bool.and_eq_true,decide_eq_true_eq]at h;exact h.1.1
theorem BC{p s:BL}(h:de p=false\/60<(s.length:Int)):dp p s=false:=by
 unfold dp
 rw[<- mW]
 rcases h with h | h
 rw[h];rfl
 rw[decide_eq_false (by omega)];simp
theorem uR{p s:BL}(h:de p=true/\(s.length:Int)<=60):dp p s=xE p s:=by
 unfold dp
 rw[<- mW,h.1,decide_eq_true (by omega),HB];rfl
end Go.Pd
namespace Go.Pd
open Go.Abs
inductive Ln where
 | none
 | caller (n:BL)
 | MT (l:Bool) (p:BL)
 | wait (v:Nat)
def zO:Ln->Value
 | .none=>.nilIface
 | .caller n=>.iface 219 (.agg #[.string (Str n)])
 | .MT l p=>.iface 221 (.agg #[.bool l,.string (Str p)])
 | .wait v=>.iface 223 (.agg #[.int .i64 (v:Int)])
def ky(gs:List l5)(b:Bool)(n:BL):List l5×Bool:=if gs=[]\/b=true then (gs++[⟨[n],[],0⟩],false) else (ef gs fun z=>⟨z.na++[n],z.ru,z.wa⟩,b)
def ig(gs:List l5)(b:Bool)(l:Bool)(p:BL):List l5×Bool:=if gs=[] then (gs,b) else if gn gs<6 then (ef gs fun z=>⟨z.na,z.ru++[⟨l,p⟩],z.wa⟩,true) else (gs,true)
def kg(gs:List l5)(b:Bool)(v:Nat):List l5×Bool:=if gs=[] then (gs,b) else (ef gs fun z=>⟨z.na,z.ru,v⟩,true)
def fq(gs:List l5)(b:Bool):Ln->List l5×Bool
 | .none=>(gs,b)
 | .caller n=>ky gs b n
 | .MT l p=>ig gs b l p
 | .wait v=>kg gs b v
def eJ(w r:BL):Ln:=if w=[99,97,108,108,101,114] then .caller r else if w=[108,101,116]\/w=[98,97,114] then .MT (w==[108,101,116]) r else if w=[119,97,105,116] then .wait (gQ r 20).toNat else .none
def fY(w r:BL):Bool:=if w=[99,97,108,108,101,114] then (r==[42])||bq r else if w=[108,101,116]\/w=[98,97,114] then bH r else if w=[119,97,105,116] then true else false
def Jn(x:List l5×Bool):Prop:=0<gn x.1->x.2=true
def kR(x:List l5×Bool)(l:BL):List l5×Bool:=if fY (ag 32 l).1 (ag 32 l).2.1=true then fq x.1 x.2 (eJ (ag 32 l).1 (ag 32 l).2.1) else x
theorem Au{gs:List l5}{f:l5->l5}(h:gs≠[]):gn (ef gs f)=(f (gs.getLast h)).ru.length:=by
 obtain⟨z,hz⟩:=nf h
 subst hz
 rw[iD,kS];simp
theorem step_eq{x:List l5×Bool}(hJ:Jn x)(l:BL):kR x l=fU x l/\Jn (fU x l):=by
 obtain⟨gs,b⟩:=x
 unfold kR fU
 generalize (ag 32 l).1=w
 generalize (ag 32 l).2.1=r
 unfold mE
 simp only
 by_cases h1:w=[99,97,108,108,101,114]
 subst h1
 have e1:fY [99,97,108,108,101,114] r=((r==[42])||bq r):=if_pos rfl
 have e2:eJ [99,97,108,108,101,114] r=.caller r:=if_pos rfl
 rw[e1,e2]
 by_cases h2:r=[42]\/bq r=true
 have h3:((r==[42])||bq r)=true:=by simpa using h2
 rw[if_pos h3,if_pos ⟨rfl,h2⟩]
 simp only[fq,ky]
 by_cases h4:gs=[]\/b=true
 rw[if_pos h4,if_pos h4.symm]
 refine⟨rfl,?_⟩
 intro hc;simp[kS]at hc
 rw[if_neg h4,if_neg (fun c=>h4 c.symm)]
 have h5:gs≠[]/\b=false:=by simpa using h4
 refine⟨by rw[h5.2],?_⟩
 intro hc
 rw[Au h5.1]at hc
 have:0<gn gs:=by
  unfold gn
  rw[List.getLast?_eq_some_getLast h5.1];exact hc
 have:=hJ this
 simp only at this
 rw[h5.2]at this;cases this
 have h3: ¬ ((r==[42])||bq r)=true:=by simpa using h2
 rw[if_neg h3,if_neg (fun c=>h2 c.2)]
 have e3: ¬ (([99,97,108,108,101,114]:BL)=[108,101,116]\/([99,97,108,108,101,114]:BL)=[98,97,114]):=by decide
 by_cases h4:gs=[]
 rw[if_pos h4];exact⟨rfl,hJ⟩
 rw[if_neg h4,if_neg (fun c=>e3 c.1),if_neg (by decide)];exact⟨rfl,hJ⟩
 rw[if_neg (show ¬ (w=[99,97,108,108,101,114]/\(r=[42]\/bq r=true)) from fun c=>h1 c.1)]
 by_cases h2:w=[108,101,116]\/w=[98,97,114]
 have e1:fY w r=bH r:=by unfold fY;rw[if_neg h1,if_pos h2]
 have e2:eJ w r=.MT (w==[108,101,116]) r:=by unfold eJ;rw[if_neg h1,if_pos h2]
 have e3: ¬ w=[119,97,105,116]:=by rcases h2 with rfl | rfl <;> decide
 rw[e1,e2,if_neg e3]
 by_cases h4:gs=[]
 rw[if_pos h4]
 refine⟨?_,hJ⟩
 split
 simp only[fq,ig];rw[if_pos h4]
 rfl
 rw[if_neg h4]
 by_cases h5:bH r=true
 rw[if_pos h5]
 simp only[fq,ig]
 rw[if_neg h4]
 by_cases h6:gn gs<6
 rw[if_pos h6,if_pos ⟨h2,h5,h6⟩];exact⟨rfl,fun _=>rfl⟩
 rw[if_neg h6,if_neg (fun c=>h6 c.2.2)]
 have:=hJ (by simp only;omega)
 simp only at this
 rw[this];exact⟨rfl,fun _=>rfl⟩
 rw[if_neg h5,if_neg (fun c=>h5 c.2.1)];exact⟨rfl,hJ⟩
 by_cases h3:w=[119,97,105,116]
 have e1:fY w r=true:=by unfold fY;rw[if_neg h1,if_neg h2,if_pos h3]
 have e2:eJ w r=.wait (gQ r 20).toNat:=by unfold eJ;rw[if_neg h1,if_neg h2,if_pos h3]
 rw[e1,e2,if_pos rfl]
 simp only[fq,kg]
 by_cases h4:gs=[]
 rw[if_pos h4,if_pos h4];exact⟨rfl,hJ⟩
 rw[if_neg h4,if_neg h4,if_neg (fun c=>h2 c.1),if_pos h3];exact⟨rfl,fun _=>rfl⟩
 have e1:fY w r=false:=by unfold fY;rw[if_neg h1,if_neg h2,if_neg h3]
 rw[e1,if_neg (by decide)]
 refine⟨?_,?_⟩
 split
 rfl
 first | rfl | (rw[if_neg (fun c=>h2 c.1)])
 split
 exact hJ
 first | exact hJ | (rw[if_neg (fun c=>h2 c.1)];exact hJ)
theorem fold_eq:∀ (ls:List BL) {x:List l5×Bool},Jn x->ls.foldl kR x=ls.foldl fU x
 | [],_,_=>rfl
 | l::ls,x,h=>by
   obtain⟨h1,h2⟩:=step_eq h l
   rw[List.foldl_cons,List.foldl_cons,h1];exact fold_eq ls h2
theorem uF(t:BL):(((an 10 t).take 40).foldl kR ([],false)).1=cL t:=by
 unfold cL
 rw[fold_eq _ (x:=([],false)) (by intro h;simp[gn]at h)]
end Go.Pd
namespace Go.Pd
theorem zC{l:List BL}{n:BL}:(l.any fun y=>y==n)=l.contains n:=by
 induction l with
 | nil=>rfl
 | cons a r ih=>rw[List.any_cons,List.contains_cons,ih,Bool.beq_comm]
theorem yF(n:BL):∀ (gs:List l5) {x:(List s8×Nat)×Bool},(gs.foldl (dM n) x).2=(x.2||gs.any fun y=>y.na.contains n)
 | [],x=>by simp
 | g::gs,x=>by
   rw[List.foldl_cons,yF n gs,List.any_cons]
   unfold dM
   rw[zC]
   split
   rename_i h;rw[h];simp
   rename_i h;simp only[Bool.not_eq_true]at h;rw[h];simp
theorem Dt(gs:List l5)(n:BL):(Pn gs n).2=gs.any fun y=>y.na.contains n:=by
 unfold Pn;simp only;rw[yF];simp
def jm(gs:List l5)(n:BL):BL:=if (gs.any fun y=>y.na.contains n)=true then n else [42]
theorem Ah(gs:List l5)(n:BL):(gP gs n).ru=(gs.foldl (dM (jm gs n)) (([],0),false)).1.1/\(gP gs n).wa=(gs.foldl (dM (jm gs n)) (([],0),false)).1.2:=by
 unfold gP jm
 rw[Dt]
 split <;> exact⟨rfl,rfl⟩
theorem vZ{n:BL}{x:(List s8×Nat)×Bool}{g:l5}:(dM n x g).1=if g.na.contains n=true then (x.1.1++g.ru,max x.1.2 g.wa) else x.1:=by
 unfold dM
 rw[zC]
 split <;> rfl
theorem xm{α:Type}{l:List α}{d:α}{p:α->Prop}(h:∀ x,x∈l->p x)(hd:p d)(i:Nat):p (l.getD i d):=by
 rw[List.getD_eq_getElem?_getD]
 cases e:l[i]? with
 | none=>exact hd
 | some x=>exact h x (List.mem_of_getElem? e)
end Go.Pd
namespace Go.Abs
open Go Go.RowKit
section
variable {w w':World} {Pb Kb Pb':Nat->Prop} {N:Nat} {A A' B:AS} {a:Act} {F:l9->List Nat} {P:Program} {ops:Array Oper}
theorem eT{g o:Nat}{v:V}{vs:List V}{p:List Nat}:V.at g o (.agg (v::vs)) (0::p)=V.at g (o+0) v p:=rfl
theorem yx{X:Type}{v:X->V}{d:Nat}{Sl Hl:List Nat}(h:d∈Sl)(fs:List Nat):OY (fun x B=>AS.put B (some d) (v x)) fs Sl Hl where
 g:=fun g B t ht=>by rw[AS.ay,if_neg (fun c=>ht (by rw[c];exact h))]
 h:=fun g B k hk=>rfl
 c:=fun g B B' hB=>lv hB
 p:=fun g B q v' hq _=>⟨fun q2=>by
  rw[AS.ay,AS.ay,AS.ay,AS.ay]
  by_cases c:q2=d
  subst c;rw[if_pos rfl,if_neg (fun c=>hq (by rw[<- c];exact h)),if_pos rfl]
  rw[if_neg c,if_neg c],fun k=>rfl⟩
 q:=fun g B k gv hq=>⟨fun _=>rfl,fun _=>rfl⟩
def boE:Eu P where
 X:=Nat
 pre N o A Sl _:=match o.op,o.dst with
  | .buildSlice T len b7,some d=>match tD P T with
    | some (.sl e)=>match ti P e,dY A 0 b7.toList with
      | some i,some vs=>match Pf P T e len i vs&&Nat.blt d N&&Nat.blt 0 len&&Sl.contains d with
        | true=>True
        | false=>False
      | _,_=>False
    | _=>False
  | _,_=>False
 U o A g B:=match o.op,o.dst with
   | .buildSlice T len b7,some d=>match tD P T with
     | some (.sl e)=>match ti P e,dY A 0 b7.toList with
       | some i,some vs=>B.put (some d) (.own i.sz vs g 0 len)
       | _,_=>B
     | _=>B
   | _,_=>B
 So:=by
  rintro N ⟨dst,op,ty,pos,after,C4⟩ A Sl Hl hp fs
  simp only at hp
  split at hp
  rename_i T len b7 d
  split at hp
  rename_i e e1
  split at hp
  rename_i i vs e2 e3
  split at hp
  rename_i e4
  simp only[Bool.and_eq_true,List.contains_eq_mem,decide_eq_true_eq]at e4
  exact yx (v:=fun g:Nat=>.own i.sz vs g 0 len) e4.2 fs
  exact hp.elim
  exact hp.elim
  exact hp.elim
  exact hp.elim
 ok:=by
  rintro N ⟨dst,op,ty,pos,after,C4⟩ A A' Sl Hl-hp hA hR
  simp only at hp
  split at hp
  rename_i T len b7 d
  split at hp
  rename_i e e1
  split at hp
  rename_i i vs e2 e3
  split at hp
  rename_i e4
  simp only[Bool.and_eq_true]at e4
  have On:dY A' 0 b7.toList=some vs:=by
   rw[mJ b7.toList 0 fun t ht=>hA t (by simpa[Op.operands] using ht)];exact e3
  exact yD rfl rfl (bn e4.1.1.2) e1 e2 On e4.1.1.1 (bn e4.1.2) fun g=>⟨g,by simp only[e1,e2,e3]⟩
  exact hp.elim
  exact hp.elim
  exact hp.elim
  exact hp.elim
theorem AG{X:Type}{v:X->V}{d k:Nat}{p:List Nat}{Sl Hl:List Nat}(h:d∈Sl)(hk:k∈Hl)(fs:List Nat):OY (fun x B=>AS.put (AS.setAt B (.key k) p .b9) (some d) (v x)) fs Sl Hl where
 g:=fun g B t ht=>by rw[AS.ay,if_neg (fun c=>ht (by rw[c];exact h))];exact bI
 h:=fun g B q hq=>rD (fun c=>hq (by rw[c];exact hk))
 c:=fun g B B' hB=>lv ⟨fun q=>by rw[bI,bI];exact hB.1 q,fun k=>gx hB.2⟩
 p:=fun g B q v' hq _=>⟨fun q2=>by
  rw[AS.ay,AS.ay,AS.ay]
  by_cases c:q2=d
  subst c;rw[if_pos rfl,if_neg (fun c=>hq (by rw[<- c];exact h)),if_pos rfl]
  rw[if_neg c]
  by_cases c2:q2=q
  subst c2;rw[if_pos rfl,bI,AS.ay,if_pos rfl]
  rw[if_neg c2,if_neg c,bI,bI,AS.ay,if_neg c2],fun k=>gx fun _=>rfl⟩
 q:=fun g B q gv hq=>qZ (oo (fun c=>hq (by rw[c];exact hk)))
def Ud(k:Nat):List Nat->List Nat
 | i::_::_=>if Nat.blt i 100=true then [100*k+i] else []
 | _=>[]
theorem Gk{B:AS}{k q:Nat}{p:List Nat}{v:V}(h:q∈Ud k p):Ku (B.setAt (.key k) p v).h q=Ku B.h q:=by
 unfold Ud at h
 split at h
 rename_i i j r
 split at h
 rename_i hi
 have hi:i<100:=by simpa[Nat.blt_eq] using hi
 obtain rfl:q=100*k+i:=by simpa using h
 unfold AS.setAt
 simp only
 split
 rename_i g t e
 unfold Ku
 rw[show (100*k+i) / 100=k from by omega,show (100*k+i) % 100=i from by omega]
 simp only[lk,if_true,e]
 cases t with
 | agg vs=>
   cases hx:vs[i]? with
   | none=>simp only[V.set,hx]
   | some x=>
     have hl:i<vs.length:=(List.getElem?_eq_some_iff.1 hx).1
     have ht:∀ y,(vs.set i y).take i=vs.take i:=fun y=>List.take_set_of_le (Nat.le_refl _)
     simp only[V.set,hx,V.at,List.getElem?_set_self hl,ht]
     cases x with
     | own sz xs g1 o1 c=>
       simp only[V.set]
       cases hy:xs[j]? with
       | none=>rfl
       | some y=>simp only[List.length_set]
     | agg ws=>
       simp only[V.set]
       cases hy:ws[j]? with
       | none=>rfl
       | some y=>rfl
     | _=>simp only[V.set]
 | own sz xs g1 o1 c=>
   simp only[V.set]
   cases hx:xs[i]? with
   | none=>rfl
   | some x=>
     have hl:i<xs.length:=(List.getElem?_eq_some_iff.1 hx).1
     simp only[V.at,hx,List.getElem?_set_self hl]
     cases x with
     | own sz xs g1 o1 c=>
       simp only[V.set]
       cases hy:xs[j]? with
       | none=>rfl
       | some y=>simp only[List.length_set]
     | agg ws=>
       simp only[V.set]
       cases hy:ws[j]? with
       | none=>rfl
       | some y=>rfl
     | _=>simp only[V.set]
 | _=>simp only[V.set]
 rfl
 cases h
 cases h
def T5(k:Nat)(p:List Nat)(xs ys:List V)(g0 o0 sz g o1 c:Nat):Eu P where
 X:=Nat×Nat×Nat
 pre N o A Sl Hl:=match o.op,o.dst with
  | .call ⟨.builtin .append,⟨[.tmp t0,x]⟩,⟨[T,T2]⟩⟩,some d=>match o.type==T&&Nat.blt d N&&Sl.contains d&&Hl.contains k,lA P T T2 with
    | true,some t=>match A.ev x with
      | .sl _ T7=>T7=ys/\A.get t0=.hd (.key k) p sz g o1 0 xs.length c/\A.at (.key k) p=some (g0,o0,.own sz xs g o1 c)/\sz=t.sz/\V.aD ys=false/\aG t.sz ys/\(xs.length+ys.length)*t.Kg<=140737488355328
      | _=>False
    | _,_=>False
  | _,_=>False
 U o A gh B:=match o.dst with
   | some d=>(B.setAt (.key k) p .b9).put (some d) (.own sz (xs++ys) gh.1 gh.2.1 gh.2.2)
   | none=>B
 So:=by
  rintro N ⟨dst,op,ty,pos,after,C4⟩ A Sl Hl hp fs
  simp only at hp
  split at hp
  rename_i t0 x T T2 d
  split at hp
  rename_i t e1 e2
  simp only[Bool.and_eq_true,List.contains_eq_mem,decide_eq_true_eq]at e1
  exact AG (v:=fun gh:Nat×Nat×Nat=>.own sz (xs++ys) gh.1 gh.2.1 gh.2.2) e1.1.2 e1.2 fs
  exact hp.elim
  exact hp.elim
 prom:=Ud k p
 Vz:=by
  intro N o A Sl Hl _ q hq x B
  split
  exact Gk hq
  rfl
 ok:=by
  rintro N ⟨dst,op,ty,pos,after,C4⟩ A A' Sl Hl-hp hA hR
  simp only at hp
  split at hp
  rename_i t0 x T T2 d
  split at hp
  rename_i t e1 e2
  split at hp
  rename_i fl T7 e3
  obtain⟨rfl,k1,k2,k3,k4,k5,k6⟩:=hp
  simp only[Bool.and_eq_true,beq_iff_eq]at e1
  obtain⟨e,e',q1,q2,q3,q4,q5,q6⟩:=gZ e2
  subst k3
  obtain⟨⟨⟨rfl,e5⟩,_⟩,_⟩:=e1
  have hx:A'.ev x=A.ev x:=bg fun t ht=>hA t (by subst ht;simp[Op.operands,Call.operands])
  have h0:A'.get t0=A.get t0:=hA t0 (by simp[Op.operands,Call.operands])
  refine xH rfl rfl rfl (bn e5) q1 q2 q3 (kH q4) q5 q6 (by rw[h0];exact k1) (by simp only[AS.at,hR];simpa only[AS.at] using k2) rfl rfl (by unfold LZ;rw[hx,e3]) trivial k4 k5 k6 fun g o c=>⟨(g,o,c),rfl⟩
  exact hp.elim
  exact hp.elim
  exact hp.elim
end
end Go.Abs
namespace Go.Proofs.YtlclejemchbjiaaGreatDoor
open Go Go.Abs Go.RowKit Go.Pd
set_option maxRecDepth 20000
def Bd(s:BL)(c:UInt8):r5 Tryz.prog:={ f:=79,args:=[sV s,sV [c]],pre:=True,res:=iV (Lib.indexByte s c),ok:=fun _=>FG s c }
def EX(s:BL):r5 Tryz.prog:={ f:=50,args:=[sV s,sV [47,63]],pre:=(s.length<=1000000)/\(∀ c,c∈s->c.toNat<128),res:=iV (Lib.indexAny s [47,63]),ok:=fun h=>Hb s h.1 h.2 }
def Cw(l:List BL)(sep:BL):r5 Tryz.prog:={ f:=56,args:=[ax l,sV sep],pre:=(l.length<=1000000)/\((Lib.join l sep).length<=1000000),res:=sV (Lib.join l sep),ok:=fun h=>GK false l sep h.1 h.2 }
def qC(l:List BL)(x:BL):r5 Tryz.prog:={ f:=70,args:=[ax l,sV x],pre:=(l.length<=1000000),res:=bV (l.contains x),ok:=fun h=>Ik false l x h }
def yM(s:BL)(c:UInt8):r5 Tryz.prog:={ f:=121,args:=[sV s,sV [c],iV 0,iV (-1)],pre:=(s.length<=1000000),res:=.sl true ((cK c s).map sV),ok:=fun h=>DG s c h }
def ja(l:List BL):r5 Tryz.prog:={ f:=86,args:=[ax l],pre:=(l.length<=1000000),res:=.ow 1 (l.map sV),ok:=fun h=>CQ false l h }
def vE(b:UInt8):r5 Tryz.prog:={ f:=145,args:=[uN b.toNat],pre:=True,res:=.tup [iV (max (bR b) 0),bV (decide (0<=bR b))],ok:=fun _=>Iy b }
abbrev ny(s:BL)(c:UInt8):V:=.tup [sV ((ag c s).1),sV ((ag c s).2.1),bV ((ag c s).2.2)]
def zg(s:BL)(c:UInt8):r5 Tryz.prog:=.mk 48 [sV s,sV [c]] [] (s.length<=1000000) (ny s c) [] (by
 intro hs
 have K1:([c]:BL).length=1:=rfl
 refine aw (N:=23) (rs:=[.tmp 4,.tmp 5,.tmp 6]) Tryz.func48
  (.q 3<|.q 2<|.c (Bd s c) []<|.q 1<|.q 2<|.br (.dx 10 [0,1,2,3,4,5,6,7,8,9] [] []<|.q 1<|.q 1<|.q 1<|.q 1<|.q 1<|.q 1<|.q 1<|.q 1<|.q 1<|.q 1<|.q 2<|.nil) (.q 4<|.nil))
  ((fun v1:Int=>((Bd s c).sm/\(True)/\Br (y0 (Lib.indexByte s c) 0) (Sx (0:Int) (Lib.indexByte s c) s/\m8 ((Lib.indexByte s c)+v1)/\Sx ((Lib.indexByte s c)+v1) (s.length:Int) s/\Q (.tup [sV ((s.take (Int.toNat (Lib.indexByte s c))).drop ((0:Int).toNat)),sV ((s.take s.length).drop (Int.toNat ((Lib.indexByte s c)+v1))),bV true]) (ny s c)) (Q (.tup [sV s,sV [],bV false]) (ny s c)))) ((([c]:BL).length:Nat):Int)) ?_
 refine⟨rfl,trivial,?_⟩
 refine⟨fun j7=>?_,fun j7=>?_⟩
 try simp only[nb]at j7
 have hlt:=HV s c j7
 refine⟨by omega,by omega,by omega,?_⟩
 unfold Q ny
 rw[DW j7,K1,show (Lib.indexByte s c+((1:Nat):Int)).toNat=(Lib.indexByte s c).toNat+1 from by omega,List.take_length];rfl
 try simp only[nb]at j7
 unfold Q ny
 rw[FV (by omega)])
abbrev zH(s:BL)(c:UInt8):V:=.tup [sV ((ag c s).1),sV ((ag c s).2.1),bV ((ag c s).2.2)]
def ml(s:BL)(c:UInt8):r5 Tryz.prog:=.mk 26 [sV s,sV [c]] [] (s.length<=1000000) (zH s c) [] (by
 intro hs
 refine aw (N:=13) (rs:=[.tmp 4,.tmp 5,.tmp 6]) Tryz.func26
  (.q 3<|.q 2<|.c (zg s c) []<|.q 6<|.nil)
  ((zg s c).sm/\((s.length<=1000000))/\Q (.tup [sV ((ag c s).1),sV ((ag c s).2.1),bV ((ag c s).2.2)]) (zH s c)) ?_
 refine⟨rfl,by first | assumption | omega | (simp;omega),?_⟩
 unfold Q zH
 rfl)
def oH(s:BL)(c:UInt8):r5 Tryz.prog:=.mk 87 [sV s,sV [c]] [] (s.length<=1000000) (.sl true ((an c s).map sV)) [] (by
 intro hs
 refine aw (N:=8) (rs:=[.tmp 4]) Tryz.func87
  (.q 1<|.q 2<|.c (yM s c) []<|.q 1<|.nil)
  ((yM s c).sm/\((s.length<=1000000))/\Q (.sl true ((cK c s).map sV)) (.sl true ((an c s).map sV))) ?_
 refine⟨rfl,by first | assumption | omega | (simp;omega),?_⟩
 unfold Q
 rw[wK])
theorem Hd(n:Nat):(.lit (.int .u8 (Int.fdiv (n:Int) (2 ^ 4))):V)=.lit (.int .u8 ((n / 16:Nat):Int)):=by
 congr 2;rw[Int.fdiv_eq_ediv_of_nonneg _ (by decide)];omega
theorem EJ(n:Nat):(.lit (.int .u8 ((n &&& 15:Nat):Int)):V)=.lit (.int .u8 ((n % 16:Nat):Int)):=by
 congr 3;exact Nat.and_two_pow_sub_one_eq_mod n 4
def ie(s:BL):r5 Tryz.prog:=.mk 52 [sV s] [] (s.length<=1099511627776) (sV (aK s)) [] (by
 intro hs
 refine aw (N:=29) (rs:=[.tmp 2]) Tryz.func52
  (.q 1<|.q 1<|.sb s (fun g7 c7=>.q 1<|.q 3<|.loop (Nat×BL×Nat×Nat) (fun (i,l,g,k)=>⟨[(3,.own 1 (l.map n7) g 0 k),(8,.hd (.slot 3) [] 1 g 0 0 ((l.map n7).length) k),(9,iN s.length),(10,iN i)],[]⟩) (fun (i,l,g,k)=>i<=s.length/\l.length=s.length/\l=aK (s.take i)++s.drop i) (fun (i,l,g,k)=>s.length-i) (fun (i,l,g,k)=>.q 1<|.br (.r 5 [uN ((l.getD i 0).toNat)]<|.q 6<|.br (.q 4<|.h (.o9 24 (uN ((dn (l.getD i 0)).toNat)))<|.q 1<|.st (some (uN ((l.getD i 0).toNat)))<|.h (.o9 3 (.own 1 ((l.set i (dn (l.getD i 0))).map n7) g 0 k))<|.q 2<|.nil) (.q 2<|.nil)) (.q 1<|.Kg l<|.q 1<|.nil))))
  (((sV s:V)=sV s)/\∀ g7 c7:Nat,(∃ x:Nat×BL×Nat×Nat,match x with | (j8,K8,A4,r6)=>(j8<=s.length/\K8.length=s.length/\K8=aK (s.take j8)++s.drop j8)/\Q (.own 1 (s.map n7) g7 0 c7) (.own 1 (K8.map n7) A4 0 r6)/\Q (.hd (.slot 3) [] 1 g7 0 0 ((s.map n7).length) c7) (.hd (.slot 3) [] 1 A4 0 0 ((K8.map n7).length) r6)/\Q (iN ((s.map n7).length)) (iN s.length)/\Q (iN 0) (iN j8)/\True)/\∀ x:Nat×BL×Nat×Nat,match x with | (i,l,g,k)=>(i<=s.length/\l.length=s.length/\l=aK (s.take i)++s.drop i)->(fun v1:Int=>(fun v2:V=>Br (s7 (i:Int) (s.length:Int)) (In (i:Int) ((l.map n7).length)/\(V.at g 0 v2 [0+i]=some (g,(0+(0+i)*1),uN ((l.getD i 0).toNat)))/\Pk (y0 v1 65) ((y0 v1 65)==true) true/\Br ((y0 v1 65)&&(B5 v1 90)) (MP (v1+32)/\((uN (((l.getD i 0).toNat)+32):V)=uN ((dn (l.getD i 0)).toNat))/\In (i:Int) ((l.map n7).length)/\(V.at g 0 v2 [0+i]=some (g,(0+(0+i)*1),uN ((l.getD i 0).toNat)))/\(V.set v2 [0+i] (uN ((dn (l.getD i 0)).toNat))=.own 1 ((l.set i (dn (l.getD i 0))).map n7) g 0 k)/\m8 ((i:Int)+1)/\∃ x:Nat×BL×Nat×Nat,match x with | (c9,E0,s6,k₂)=>(c9<=s.length/\E0.length=s.length/\E0=aK (s.take c9)++s.drop c9)/\(s.length-c9<s.length-i)/\Q (.own 1 ((l.set i (dn (l.getD i 0))).map n7) g 0 k) (.own 1 (E0.map n7) s6 0 k₂)/\Q (.hd (.slot 3) [] 1 g 0 0 ((l.map n7).length) k) (.hd (.slot 3) [] 1 s6 0 0 ((E0.map n7).length) k₂)/\E (iN s.length)/\Q (iN (i+1)) (iN c9)/\True) (m8 ((i:Int)+1)/\∃ x:Nat×BL×Nat×Nat,match x with | (c9,E0,s6,k₂)=>(c9<=s.length/\E0.length=s.length/\E0=aK (s.take c9)++s.drop c9)/\(s.length-c9<s.length-i)/\Q v2 (.own 1 (E0.map n7) s6 0 k₂)/\Q (.hd (.slot 3) [] 1 g 0 0 ((l.map n7).length) k) (.hd (.slot 3) [] 1 s6 0 0 ((E0.map n7).length) k₂)/\E (iN s.length)/\Q (iN (i+1)) (iN c9)/\True)) (((1=1/\g=g/\0=0)/\0+((l.map n7).length)<=(l.map n7).length/\V.aD (l.map n7)=false/\aG 1 (l.map n7))/\(((l.map n7).drop 0).take ((l.map n7).length)=l.map n7)/\Q (sV l) (sV (aK s)))) (.own 1 (l.map n7) g 0 k)) (((l.getD i 0).toNat:Nat):Int)) ?_
 refine⟨rfl,?_⟩
 intro g7 c7
 refine⟨⟨(0,s,g7,c7),?_,rfl,rfl,by first | rfl | simp | (simp;omega),rfl,trivial⟩,?_⟩
 simp[aK]
 rintro⟨i,l,g,k⟩ ⟨h1,h2,h3⟩
 have hbi:=(l.getD i 0).toNat_lt
 refine⟨fun j7=>?_,fun j7=>?_⟩
 try simp only[nb]at j7
 refine⟨by(try simp only[List.length_map]at *);omega,fD (by rw[Nat.zero_add];exact aj (d:=0) (by omega)),⟨fun h=>by rw[h] <;> rfl,fun _=>rfl⟩,?_⟩
 refine⟨fun j9=>?_,fun j9=>?_⟩
 try simp only[nb]at j9
 refine⟨by have:=UInt8.toNat_lt (l.getD i 0);omega,(congrArg uN (uT (by omega)).symm),by(try simp only[List.length_map]at *);omega,fD (by rw[Nat.zero_add];exact aj (d:=0) (by omega)),lV (by rw[Nat.zero_add];exact aj (d:=0) (by omega)) (by rw[Nat.zero_add];exact(List.map_set ..).symm),by omega,?_⟩
 refine⟨(i+1,l.set i (dn (l.getD i 0)),g,k),?_,?_,rfl,by first | rfl | simp | (simp;omega),rfl,rfl,trivial⟩
 refine⟨by omega,by simp[h2],?_⟩
 exact va (by omega) h3
 first | (solve | simp) | omega | (simp;omega)
 try simp only[nb]at j9
 refine⟨by omega,?_⟩
 refine⟨(i+1,l,g,k),?_,?_,rfl,rfl,rfl,rfl,trivial⟩
 refine⟨by omega,h2,?_⟩
 exact sB (by omega) h3 (by omega)
 first | (solve | simp) | omega | (simp;omega)
 try simp only[nb]at j7
 refine⟨⟨⟨rfl,rfl,rfl⟩,by simp,nh _,pY _⟩,by simp[List.take_of_length_le],?_⟩
 unfold Q
 rw[h3,List.drop_eq_nil_of_le (by omega),List.take_of_length_le (by omega),List.append_nil])
def tA(s:BL)(i:Nat):r5 Tryz.prog:=.mk 119 [sV s,iN i] [] ((s.length<=1000000)/\(i<s.length)) (.tup [uN ((cF s i).toNat),bV (gV s i)]) [] (by
 rintro⟨hs,hi⟩
 have q1:=fb (s.getD (i+1) 0)
 have q2:=fb (s.getD (i+2) 0)
 have q3:=gz (s.getD (i+1) 0)
 have q4:=gz (s.getD (i+2) 0)
 refine aw (N:=42) (rs:=[.tmp 4,.tmp 5]) Tryz.func119
  (.q 2<|.q 5<|.br (.q 2<|.nil) (.q 4<|.c (vE (s.getD (i+1) 0)) []<|.q 5<|.q 4<|.c (vE (s.getD (i+2) 0)) []<|.q 5<|.q 6<|.br (.q 2<|.nil) (.q 7<|.nil)))
  ((fun v1:V=>(fun v2:Bool=>(m8 ((s.length:Int)-(i:Int))/\Br (s7 ((s.length:Int)-(i:Int)) 3) (Q (.tup [uN 0,bV false]) v1) (m8 ((i:Int)+1)/\Ix ((i+1:Nat):Int) s/\(vE (s.getD (i+1) 0)).sm/\(True)/\m8 ((i:Int)+2)/\Ix ((i+2:Nat):Int) s/\(vE (s.getD (i+2) 0)).sm/\(True)/\Pk v2 true (v2==false)/\Br (v2||(!(decide (0<=bR (s.getD (i+2) 0))))) (Q (.tup [uN 0,bV false]) v1) (m8 ((max (bR (s.getD (i+1) 0)) 0)*16)/\m8 (((max (bR (s.getD (i+1) 0)) 0)*16)+(max (bR (s.getD (i+2) 0)) 0))/\MP (((max (bR (s.getD (i+1) 0)) 0)*16)+(max (bR (s.getD (i+2) 0)) 0))/\Q (.tup [.lit (.int .u8 (((max (bR (s.getD (i+1) 0)) 0)*16)+(max (bR (s.getD (i+2) 0)) 0))),bV true]) v1)))) (!(decide (0<=bR (s.getD (i+1) 0))))) (.tup [uN ((cF s i).toNat),bV (gV s i)])) ?_
 refine⟨by omega,?_⟩
 refine⟨fun j7=>?_,fun j7=>?_⟩
 try simp only[nb]at j7
 unfold Q
 have h:gV s i=false:=by rw[<- Bool.not_eq_true,fZ];omega
 rw[wD h,h];rfl
 try simp only[nb]at j7
 refine⟨by omega,by omega,rfl,trivial,by omega,by omega,rfl,trivial,⟨fun _=>rfl,fun h=>by rw[h] <;> rfl⟩,?_⟩
 refine⟨fun j9=>?_,fun j9=>?_⟩
 try simp only[nb]at j9
 unfold Q
 have h:gV s i=false:=by
  rw[<- Bool.not_eq_true,fZ];grind
 rw[wD h,h];rfl
 try simp only[nb]at j9
 refine⟨by have:=fb (s.getD (i+1) 0);have:=gz (s.getD (i+1) 0);omega,by have:=fb (s.getD (i+1) 0);have:=gz (s.getD (i+1) 0);have:=fb (s.getD (i+2) 0);have:=gz (s.getD (i+2) 0);omega,by have:=fb (s.getD (i+1) 0);have:=gz (s.getD (i+1) 0);have:=fb (s.getD (i+2) 0);have:=gz (s.getD (i+2) 0);omega,?_⟩
 unfold Q
 have h:gV s i=true:=by
  rw[fZ];grind
 have h1:=fZ.1 h
 have h2:=rI h1.2.1 h1.2.2
 rw[pM h,h]
 show V.tup [.lit (.int .u8 _),_]=V.tup [.lit (.int .u8 _),_]
 rw[h2,Int.max_eq_left h1.2.1,Int.max_eq_left h1.2.2])
def iB(s:BL):r5 Tryz.prog:=.mk 85 [sV s] [] (s.length<=1000000) (.tup [sV ((bD s).1),bV ((bD s).2)]) [] (by
 intro hs
 have hf16:([48,49,50,51,52,53,54,55,56,57,65,66,67,68,69,70]:BL).length=16:=rfl
 refine aw (N:=51) (rs:=[.tmp 2,.tmp 3]) Tryz.func85
  (.q 2<|.q 3<|.br (.q 2<|.nil) (.q 1<|.q 1<|.h (.H3 4 1)<|.loop (Nat×BL×Nat×Nat×Nat) (fun (i,o,g,f,k)=>⟨[(0,sV s),(4,.own 1 (o.map n7) g f k),(5,iN i)],[]⟩) (fun (i,o,g,f,k)=>i<=s.length/\o.length<=3*i/\bp s=(bp (s.drop i)).map (o++ ·)) (fun (i,o,g,f,k)=>s.length-i) (fun (i,o,g,f,k)=>.q 4<|.br (.q 4<|.q 2<|.br (.q 2<|.c (tA s i) []<|.q 5<|.q 2<|.br (.q 2<|.nil) (.q 2<|.q 3<|.q 1<|.c (jZ (cF s i)) []<|.br (.q 2<|.bs<|.ap (fun K4 Mq MM=>.h (.o9 39 (.own 1 ((o++[(cF s i)]).map n7) K4 Mq MM))<|.q 1<|.q 3<|.nil)) (.dx 8 [0,1,2,3,4,5,6,7] [] []<|.q 1<|.q 1<|.q 1<|.h (.o9 42 (uN ((cF s i).toNat / 16)))<|.q 1<|.q 1<|.q 1<|.h (.o9 45 (uN ((cF s i).toNat % 16)))<|.q 1<|.bs<|.ap (fun J9 J7 J'=>.h (.o9 48 (.own 1 ((o++[37,(([48,49,50,51,52,53,54,55,56,57,65,66,67,68,69,70]:BL).getD ((cF s i).toNat / 16) 0),(([48,49,50,51,52,53,54,55,56,57,65,66,67,68,69,70]:BL).getD ((cF s i).toNat % 16) 0)]).map n7) J9 J7 J'))<|.q 1<|.q 3<|.nil)))) (.q 1<|.c (jZ (s.getD i 0)) []<|.br (.q 2<|.bs<|.ap (fun K4 Mq MM=>.h (.o9 39 (.own 1 ((o++[(s.getD i 0)]).map n7) K4 Mq MM))<|.q 1<|.q 3<|.nil)) (.dx 8 [0,1,2,3,4,5,6,7] [] []<|.q 1<|.q 1<|.q 1<|.h (.o9 42 (uN ((s.getD i 0).toNat / 16)))<|.q 1<|.q 1<|.q 1<|.h (.o9 45 (uN ((s.getD i 0).toNat % 16)))<|.q 1<|.bs<|.ap (fun J9 J7 J'=>.h (.o9 48 (.own 1 ((o++[37,(([48,49,50,51,52,53,54,55,56,57,65,66,67,68,69,70]:BL).getD ((s.getD i 0).toNat / 16) 0),(([48,49,50,51,52,53,54,55,56,57,65,66,67,68,69,70]:BL).getD ((s.getD i 0).toNat % 16) 0)]).map n7) J9 J7 J'))<|.q 1<|.q 3<|.nil)))) (.q 1<|.Kg o<|.q 2<|.nil))))
  ((fun v1:BL=>(fun v2:V=>(Br (s9 (s.length:Int) 60) (Q (.tup [sV [],bV false]) v2) ((∃ x:Nat×BL×Nat×Nat×Nat,match x with | (j8,u7,A4,y7,r6)=>(j8<=s.length/\u7.length<=3*j8/\bp s=(bp (s.drop j8)).map (u7++ ·))/\E (sV s)/\Q (.own 1 ([].map n7) 0 0 0) (.own 1 (u7.map n7) A4 y7 r6)/\Q (iN 0) (iN j8)/\True)/\∀ x:Nat×BL×Nat×Nat×Nat,match x with | (i,o,g,f,k)=>(i<=s.length/\o.length<=3*i/\bp s=(bp (s.drop i)).map (o++ ·))->(fun v3:List V=>(fun v4:List V=>(fun v5:List V=>(fun v6:List V=>(fun v7:Int=>(fun v8:Int=>Br (s7 (i:Int) (s.length:Int)) (Ix (i:Int) s/\Br (r4 v7 37) ((tA s i).sm/\((s.length<=1000000)/\(i<s.length))/\Br (!(gV s i)) (Q (.tup [sV [],bV false]) v2) (m8 ((i:Int)+2)/\(jZ (cF s i)).sm/\(True)/\Br (dw (cF s i)) (((1,1,g,f,k,(o.map n7).length)=(1,1,g,f,k,(o.map n7).length))/\(True)/\(V.aD v6=false)/\(aG 1 v6)/\(((o.map n7).length+v6.length)*1<=140737488355328)/\∀ K4 Mq MM:Nat,((.own 1 ((o.map n7)++v6) K4 Mq MM:V)=.own 1 ((o++[(cF s i)]).map n7) K4 Mq MM)/\m8 (((i+2:Nat):Int)+1)/\∃ x:Nat×BL×Nat×Nat×Nat,match x with | (c9,m0,s6,r7,k₂)=>(c9<=s.length/\m0.length<=3*c9/\bp s=(bp (s.drop c9)).map (m0++ ·))/\(s.length-c9<s.length-i)/\E (sV s)/\Q (.own 1 ((o++[(cF s i)]).map n7) K4 Mq MM) (.own 1 (m0.map n7) s6 r7 k₂)/\Q (iN ((i+2)+1)) (iN c9)/\True) (((0:Int)<=4/\(4:Int)<((8:Nat):Int))/\Q (.lit (.int .u8 (Int.fdiv v8 (2 ^ 4)))) (uN ((cF s i).toNat / 16))/\Ix (((cF s i).toNat / 16:Nat):Int) v1/\((0:Int)<=v8/\(0:Int)<=15/\MP v8/\MP 15)/\Q (uN (((cF s i).toNat) &&& 15)) (uN ((cF s i).toNat % 16))/\Ix (((cF s i).toNat % 16:Nat):Int) v1/\((1,1,g,f,k,(o.map n7).length)=(1,1,g,f,k,(o.map n7).length))/\(True)/\(V.aD v4=false)/\(aG 1 v4)/\(((o.map n7).length+v4.length)*1<=140737488355328)/\∀ J9 J7 J':Nat,((.own 1 ((o.map n7)++v4) J9 J7 J':V)=.own 1 ((o++[37,(v1.getD ((cF s i).toNat / 16) 0),(v1.getD ((cF s i).toNat % 16) 0)]).map n7) J9 J7 J')/\m8 (((i+2:Nat):Int)+1)/\∃ x:Nat×BL×Nat×Nat×Nat,match x with | (c9,m0,s6,r7,k₂)=>(c9<=s.length/\m0.length<=3*c9/\bp s=(bp (s.drop c9)).map (m0++ ·))/\(s.length-c9<s.length-i)/\E (sV s)/\Q (.own 1 ((o++[37,(v1.getD ((cF s i).toNat / 16) 0),(v1.getD ((cF s i).toNat % 16) 0)]).map n7) J9 J7 J') (.own 1 (m0.map n7) s6 r7 k₂)/\Q (iN ((i+2)+1)) (iN c9)/\True))) ((jZ (s.getD i 0)).sm/\(True)/\Br (dw (s.getD i 0)) (((1,1,g,f,k,(o.map n7).length)=(1,1,g,f,k,(o.map n7).length))/\(True)/\(V.aD v5=false)/\(aG 1 v5)/\(((o.map n7).length+v5.length)*1<=140737488355328)/\∀ K4 Mq MM:Nat,((.own 1 ((o.map n7)++v5) K4 Mq MM:V)=.own 1 ((o++[(s.getD i 0)]).map n7) K4 Mq MM)/\m8 ((i:Int)+1)/\∃ x:Nat×BL×Nat×Nat×Nat,match x with | (c9,m0,s6,r7,k₂)=>(c9<=s.length/\m0.length<=3*c9/\bp s=(bp (s.drop c9)).map (m0++ ·))/\(s.length-c9<s.length-i)/\E (sV s)/\Q (.own 1 ((o++[(s.getD i 0)]).map n7) K4 Mq MM) (.own 1 (m0.map n7) s6 r7 k₂)/\Q (iN (i+1)) (iN c9)/\True) (((0:Int)<=4/\(4:Int)<((8:Nat):Int))/\Q (.lit (.int .u8 (Int.fdiv v7 (2 ^ 4)))) (uN ((s.getD i 0).toNat / 16))/\Ix (((s.getD i 0).toNat / 16:Nat):Int) v1/\((0:Int)<=v7/\(0:Int)<=15/\MP v7/\MP 15)/\Q (uN (((s.getD i 0).toNat) &&& 15)) (uN ((s.getD i 0).toNat % 16))/\Ix (((s.getD i 0).toNat % 16:Nat):Int) v1/\((1,1,g,f,k,(o.map n7).length)=(1,1,g,f,k,(o.map n7).length))/\(True)/\(V.aD v3=false)/\(aG 1 v3)/\(((o.map n7).length+v3.length)*1<=140737488355328)/\∀ J9 J7 J':Nat,((.own 1 ((o.map n7)++v3) J9 J7 J':V)=.own 1 ((o++[37,(v1.getD ((s.getD i 0).toNat / 16) 0),(v1.getD ((s.getD i 0).toNat % 16) 0)]).map n7) J9 J7 J')/\m8 ((i:Int)+1)/\∃ x:Nat×BL×Nat×Nat×Nat,match x with | (c9,m0,s6,r7,k₂)=>(c9<=s.length/\m0.length<=3*c9/\bp s=(bp (s.drop c9)).map (m0++ ·))/\(s.length-c9<s.length-i)/\E (sV s)/\Q (.own 1 ((o++[37,(v1.getD ((s.getD i 0).toNat / 16) 0),(v1.getD ((s.getD i 0).toNat % 16) 0)]).map n7) J9 J7 J') (.own 1 (m0.map n7) s6 r7 k₂)/\Q (iN (i+1)) (iN c9)/\True))) (((1=1/\g=g/\f=f)/\0+((o.map n7).length)<=(o.map n7).length/\V.aD (o.map n7)=false/\aG 1 (o.map n7))/\(((o.map n7).drop 0).take ((o.map n7).length)=o.map n7)/\Q (.tup [sV o,bV true]) v2)) (((cF s i).toNat:Nat):Int)) (((s.getD i 0).toNat:Nat):Int)) ([uN ((cF s i).toNat)]:List V)) ([uN ((s.getD i 0).toNat)]:List V)) ([uN 37,uN ((v1.getD ((cF s i).toNat / 16) 0).toNat),uN ((v1.getD ((cF s i).toNat % 16) 0).toNat)]:List V)) ([uN 37,uN ((v1.getD ((s.getD i 0).toNat / 16) 0).toNat),uN ((v1.getD ((s.getD i 0).toNat % 16) 0).toNat)]:List V)))) (.tup [sV ((bD s).1),bV ((bD s).2)])) ([48,49,50,51,52,53,54,55,56,57,65,66,67,68,69,70]:BL)) ?_
 refine⟨fun j7=>?_,fun j7=>?_⟩
 try simp only[nb]at j7
 unfold Q
 rw[show bD s=([],false) from if_neg (by omega)]
 try simp only[nb]at j7
 refine⟨⟨(0,[],0,0,0),?_,rfl,rfl,rfl,trivial⟩,?_⟩
 refine⟨by omega,by simp,?_⟩
 cases h:bp s <;> simp[h]
 rintro⟨i,o,g,f,k⟩ ⟨hi,ho,Ks⟩
 refine⟨fun j9=>?_,fun j9=>?_⟩
 try simp only[nb]at j9
 refine⟨by omega,?_⟩
 refine⟨fun l8=>?_,fun l8=>?_⟩
 try simp only[nb]at l8
 refine⟨rfl,⟨by first | assumption | omega | (simp;omega),by first | assumption | omega | (simp;omega)⟩,?_⟩
 refine⟨fun o4=>?_,fun o4=>?_⟩
 try simp only[nb]at o4
 unfold Q
 rw[show bD s=([],false) from by unfold bD;rw[Ks,xg (by omega) (by omega) (by have:=fZ (s:=s) (i:=i);grind)];simp]
 try simp only[nb]at o4
 refine⟨by omega,rfl,trivial,?_⟩
 refine⟨fun x4=>?_,fun x4=>?_⟩
 try simp only[nb]at x4
 refine⟨rfl,trivial,rfl,by simp[aG,V.n,V.ns],by simp;omega,?_⟩
 intro K4 Mq MM
 refine⟨congrArg (V.own 1 · K4 Mq MM) (by rw[List.map_append];rfl),by omega,?_⟩
 refine⟨((i+2)+1,o++[(cF s i)],K4,Mq,MM),?_,?_,rfl,rfl,rfl,trivial⟩
 have sg:=fZ.1 o4
 rw[pM o4]at *
 have he:dV (cH (s.getD (i+1) 0) (s.getD (i+2) 0))=[(cH (s.getD (i+1) 0) (s.getD (i+2) 0))]:=by unfold dV;rw[if_pos x4]
 have hl:=ee (cH (s.getD (i+1) 0) (s.getD (i+2) 0))
 rw[he]at hl
 refine⟨by omega,by simp;omega,?_⟩
 rw[Ks,ov (by omega) (by omega) (by omega) (by omega),he]
 cases bp (s.drop (i+3)) <;> simp[ez,jG]
 first | (solve | simp) | omega | (simp;omega)
 try simp only[nb]at x4
 refine⟨by omega,by unfold Q;exact Hd _,by have:=UInt8.toNat_lt (cF s i);omega,by have:=UInt8.toNat_lt (cF s i);omega,by unfold Q;exact EJ _,by have:=UInt8.toNat_lt (cF s i);omega,rfl,trivial,rfl,by simp[aG,V.n,V.ns],by simp;omega,?_⟩
 intro J9 J7 J'
 refine⟨congrArg (V.own 1 · J9 J7 J') (by rw[List.map_append];rfl),by omega,?_⟩
 refine⟨((i+2)+1,o++[37,(([48,49,50,51,52,53,54,55,56,57,65,66,67,68,69,70]:BL).getD ((cF s i).toNat / 16) 0),(([48,49,50,51,52,53,54,55,56,57,65,66,67,68,69,70]:BL).getD ((cF s i).toNat % 16) 0)],J9,J7,J'),?_,?_,rfl,rfl,rfl,trivial⟩
 have sg:=fZ.1 o4
 rw[pM o4]at *
 have he:dV (cH (s.getD (i+1) 0) (s.getD (i+2) 0))=ez (cH (s.getD (i+1) 0) (s.getD (i+2) 0)):=by unfold dV;rw[if_neg (by rw[x4];decide)]
 have hl:=ee (cH (s.getD (i+1) 0) (s.getD (i+2) 0))
 rw[he]at hl
 refine⟨by omega,by simp;omega,?_⟩
 rw[Ks,ov (by omega) (by omega) (by omega) (by omega),he]
 cases bp (s.drop (i+3)) <;> simp[ez,jG]
 first | (solve | simp) | omega | (simp;omega)
 try simp only[nb]at l8
 refine⟨rfl,trivial,?_⟩
 refine⟨fun E'=>?_,fun E'=>?_⟩
 try simp only[nb]at E'
 refine⟨rfl,trivial,rfl,by simp[aG,V.n,V.ns],by simp;omega,?_⟩
 intro K4 Mq MM
 refine⟨congrArg (V.own 1 · K4 Mq MM) (by rw[List.map_append];rfl),by omega,?_⟩
 refine⟨(i+1,o++[(s.getD i 0)],K4,Mq,MM),?_,?_,rfl,rfl,rfl,trivial⟩
 have he:dV (s.getD i 0)=[(s.getD i 0)]:=by unfold dV;rw[if_pos E']
 have hl:=ee (s.getD i 0)
 rw[he]at hl
 refine⟨by omega,by simp;omega,?_⟩
 rw[Ks,mA (by omega) (by omega),he]
 cases bp (s.drop (i+1)) <;> simp[ez,jG]
 first | (solve | simp) | omega | (simp;omega)
 try simp only[nb]at E'
 refine⟨by omega,by unfold Q;exact Hd _,by have:=UInt8.toNat_lt (s.getD i 0);omega,by have:=UInt8.toNat_lt (s.getD i 0);omega,by unfold Q;exact EJ _,by have:=UInt8.toNat_lt (s.getD i 0);omega,rfl,trivial,rfl,by simp[aG,V.n,V.ns],by simp;omega,?_⟩
 intro J9 J7 J'
 refine⟨congrArg (V.own 1 · J9 J7 J') (by rw[List.map_append];rfl),by omega,?_⟩
 refine⟨(i+1,o++[37,(([48,49,50,51,52,53,54,55,56,57,65,66,67,68,69,70]:BL).getD ((s.getD i 0).toNat / 16) 0),(([48,49,50,51,52,53,54,55,56,57,65,66,67,68,69,70]:BL).getD ((s.getD i 0).toNat % 16) 0)],J9,J7,J'),?_,?_,rfl,rfl,rfl,trivial⟩
 have he:dV (s.getD i 0)=ez (s.getD i 0):=by unfold dV;rw[if_neg (by rw[E'];decide)]
 have hl:=ee (s.getD i 0)
 rw[he]at hl
 refine⟨by omega,by simp;omega,?_⟩
 rw[Ks,mA (by omega) (by omega),he]
 cases bp (s.drop (i+1)) <;> simp[ez,jG]
 first | (solve | simp) | omega | (simp;omega)
 try simp only[nb]at j9
 refine⟨⟨⟨rfl,rfl,rfl⟩,by simp,nh _,pY _⟩,by simp[List.take_of_length_le],?_⟩
 unfold Q
 rw[List.drop_eq_nil_of_le (by omega)]at Ks
 rw[show bD s=(o,true) from by unfold bD;rw[Ks,if_pos (by omega)];simp[bp]])
def pf(ps:List BL):r5 Tryz.prog:=.mk 88 [ax ps] [] (ps.length<=1099511627776) (ax (bE ps)) [] (by
 intro hs
 refine aw (N:=32) (rs:=[.tmp 2]) Tryz.func88
  (.q 1<|.q 1<|.q 3<|.h (.H3 3 1)<|.loop (Nat×(List BL)×Nat×Nat×Nat) (fun (i,o,g,f,k)=>⟨[(6,ax ps),(7,iN ps.length),(8,iN i),(3,.own 1 (o.map sV) g f k)],[]⟩) (fun (i,o,g,f,k)=>i<=ps.length/\o=bE (ps.take i)/\o.length<=i) (fun (i,o,g,f,k)=>ps.length-i) (fun (i,o,g,f,k)=>.q 1<|.br (.r 3 [sV (ps.getD i [])]<|.q 1<|.q 2<|.join (Bool) (fun c=>⟨[(6,ax ps),(7,iN ps.length),(8,iN i),(3,.own 1 (o.map sV) g f k),(9,bV (s7 (i:Int) (ps.length:Int))),(10,.ep (sV (ps.getD i []))),(11,sV (ps.getD i [])),(5,sV (ps.getD i [])),(12,sV (ps.getD i [])),(14,bV ((ps.getD i [])==[])),(13,bV c)],[]⟩) (fun c=>c=decide (ps.getD i []=[]\/ps.getD i []=[46])) (.nil) (.q 2<|.nil) (fun c=>.br (.q 2<|.nil) (.q 2<|.br (.q 3<|.br (.q 5<|.rs<|.h (.o9 3 (.own 1 (o.dropLast.map sV) g (f+(0+((0:Int).toNat))*1) (k-((0:Int).toNat))))<|.q 2<|.nil) (.q 2<|.nil)) (.q 2<|.bs<|.ap (fun QI P6 QX=>.h (.o9 29 (.own 1 ((o++[(ps.getD i [])]).map sV) QI P6 QX))<|.q 1<|.q 2<|.nil))))) (.h (.fz 3)<|.h (.o9 3 (ax o))<|.q 2<|.nil)))
  ((∃ x:Nat×(List BL)×Nat×Nat×Nat,match x with | (j8,u7,A4,y7,r6)=>(j8<=ps.length/\u7=bE (ps.take j8)/\u7.length<=j8)/\E (ax ps)/\Q (iN ((ps.map sV).length)) (iN ps.length)/\Q (iN 0) (iN j8)/\Q (.own 1 ([].map sV) 0 0 0) (.own 1 (u7.map sV) A4 y7 r6)/\True)/\∀ x:Nat×(List BL)×Nat×Nat×Nat,match x with | (i,o,g,f,k)=>(i<=ps.length/\o=bE (ps.take i)/\o.length<=i)->(fun v1:Int=>(fun v2:V=>(fun v3:List V=>(fun v4:V=>(fun v5:Bool=>Br v5 (Ex (i:Int) (ps.map sV) v2/\True/\(((ps.getD i [])==[])=true->∃ c:Bool,(c=decide (ps.getD i []=[]\/ps.getD i []=[46]))/\E (ax ps)/\E (iN ps.length)/\E (iN i)/\E v4/\E (bV v5)/\E (.ep v2)/\E v2/\E v2/\E v2/\E (bV ((ps.getD i [])==[]))/\Q (bV ((ps.getD i [])==[])) (bV c)/\True)/\(((ps.getD i [])==[])=false->∃ c:Bool,(c=decide (ps.getD i []=[]\/ps.getD i []=[46]))/\E (ax ps)/\E (iN ps.length)/\E (iN i)/\E v4/\E (bV v5)/\E (.ep v2)/\E v2/\E v2/\E v2/\E (bV ((ps.getD i [])==[]))/\Q (bV ((ps.getD i [])==([46]:BL))) (bV c)/\True)/\(∀ c:Bool,(c=decide (ps.getD i []=[]\/ps.getD i []=[46]))->Br c (m8 ((i:Int)+1)/\∃ x:Nat×(List BL)×Nat×Nat×Nat,match x with | (c9,m0,s6,r7,k₂)=>(c9<=ps.length/\m0=bE (ps.take c9)/\m0.length<=c9)/\(ps.length-c9<ps.length-i)/\E (ax ps)/\E (iN ps.length)/\Q (iN (i+1)) (iN c9)/\Q v4 (.own 1 (m0.map sV) s6 r7 k₂)/\True) (Br ((ps.getD i [])==([46,46]:BL)) (Br (s9 v1 0) (m8 (v1-1)/\((0:Int)<=(0:Int)/\(0:Int)<=(v1-1)/\(v1-1)<=((o.map sV).length)/\1=1)/\((3,1,g,f)=(3,1,g,f))/\((0+((0:Int).toNat))+((Int.toNat (v1-1))-((0:Int).toNat))<=(o.map sV).length/\(0+((0:Int).toNat))+(k-((0:Int).toNat))<=k/\V.aD (o.map sV)=false)/\((.own 1 (((o.map sV).drop (0+((0:Int).toNat))).take ((Int.toNat (v1-1))-((0:Int).toNat))) g (f+(0+((0:Int).toNat))*1) (k-((0:Int).toNat)):V)=.own 1 (o.dropLast.map sV) g (f+(0+((0:Int).toNat))*1) (k-((0:Int).toNat)))/\m8 ((i:Int)+1)/\∃ x:Nat×(List BL)×Nat×Nat×Nat,match x with | (c9,m0,s6,r7,k₂)=>(c9<=ps.length/\m0=bE (ps.take c9)/\m0.length<=c9)/\(ps.length-c9<ps.length-i)/\E (ax ps)/\E (iN ps.length)/\Q (iN (i+1)) (iN c9)/\Q (.own 1 (o.dropLast.map sV) g (f+(0+((0:Int).toNat))*1) (k-((0:Int).toNat))) (.own 1 (m0.map sV) s6 r7 k₂)/\True) (m8 ((i:Int)+1)/\∃ x:Nat×(List BL)×Nat×Nat×Nat,match x with | (c9,m0,s6,r7,k₂)=>(c9<=ps.length/\m0=bE (ps.take c9)/\m0.length<=c9)/\(ps.length-c9<ps.length-i)/\E (ax ps)/\E (iN ps.length)/\Q (iN (i+1)) (iN c9)/\Q v4 (.own 1 (m0.map sV) s6 r7 k₂)/\True)) (((1,1,g,f,k,(o.map sV).length)=(1,1,g,f,k,(o.map sV).length))/\(True)/\(V.aD v3=false)/\(aG 1 v3)/\(((o.map sV).length+v3.length)*16<=140737488355328)/\∀ QI P6 QX:Nat,((.own 1 ((o.map sV)++v3) QI P6 QX:V)=.own 1 ((o++[(ps.getD i [])]).map sV) QI P6 QX)/\m8 ((i:Int)+1)/\∃ x:Nat×(List BL)×Nat×Nat×Nat,match x with | (c9,m0,s6,r7,k₂)=>(c9<=ps.length/\m0=bE (ps.take c9)/\m0.length<=c9)/\(ps.length-c9<ps.length-i)/\E (ax ps)/\E (iN ps.length)/\Q (iN (i+1)) (iN c9)/\Q (.own 1 ((o++[(ps.getD i [])]).map sV) QI P6 QX) (.own 1 (m0.map sV) s6 r7 k₂)/\True)))) (((.sl false (V.A8 (o.map sV)):V)=ax o)/\Q (ax o) (ax (bE ps)))) (s7 (i:Int) (ps.length:Int))) (.own 1 (o.map sV) g f k)) ([sV (ps.getD i [])]:List V)) (sV (ps.getD i []))) (((o.map sV).length:Nat):Int)) ?_
 refine⟨⟨(0,[],0,0,0),?_,rfl,by first | rfl | simp | (simp;omega),rfl,rfl,trivial⟩,?_⟩
 simp[bE]
 rintro⟨i,o,g,f,k⟩ ⟨h1,h2,h3⟩
 refine⟨fun j7=>?_,fun j7=>?_⟩
 · try simp only[nb]at j7
   refine⟨⟨by omega,aj (d:=[]) (by omega)⟩,trivial,?_⟩
   refine⟨fun j9=>?_,fun j9=>?_,fun c hc=>?_⟩
   · try simp only[nb]at j9
     exact⟨(ps.getD i [])==[],by first | (rw[Bool.eq_iff_iff];simp_all;done) | grind,rfl,rfl,rfl,rfl,rfl,rfl,rfl,rfl,rfl,rfl,rfl,trivial⟩
   · try simp only[nb]at j9
     exact⟨(ps.getD i [])==([46]:BL),by first | (rw[Bool.eq_iff_iff];simp_all;done) | grind,rfl,rfl,rfl,rfl,rfl,rfl,rfl,rfl,rfl,rfl,rfl,trivial⟩
   refine⟨fun l8=>?_,fun l8=>?_⟩
   try simp only[nb]at l8
   refine⟨by omega,?_⟩
   refine⟨(i+1,o,g,f,k),?_,?_,rfl,rfl,rfl,rfl,trivial⟩
   refine⟨by omega,?_,by omega⟩
   rw[fQ (by omega),<- h2,cv,if_pos (by grind)]
   first | (solve | simp) | omega | (simp;omega)
   try simp only[nb]at l8
   refine⟨fun o4=>?_,fun o4=>?_⟩
   try simp only[nb]at o4
   refine⟨fun x4=>?_,fun x4=>?_⟩
   try simp only[nb]at x4
   refine⟨by(try simp only[List.length_map]at *);omega,⟨by simp,by simp;omega,by simp;omega,rfl⟩,rfl,⟨by simp <;> omega,by simp,cm (fun _=>rfl) _⟩,congrArg (V.own 1 · g (f+(0+((0:Int).toNat))*1) (k-((0:Int).toNat))) (by rw[show (0+Int.toNat 0)=0 from rfl,List.drop_zero,<- List.map_take,List.dropLast_eq_take];congr 2;first | (solve | simp) | (simp;omega)),by omega,?_⟩
   refine⟨(i+1,o.dropLast,g,f+(0+((0:Int).toNat))*1,k-((0:Int).toNat)),?_,?_,rfl,rfl,rfl,rfl,trivial⟩
   refine⟨by omega,?_,by simp;omega⟩
   rw[fQ (by omega),<- h2,cv,if_neg (by grind),if_pos (by grind)]
   first | (solve | simp) | omega | (simp;omega)
   try simp only[nb]at x4
   refine⟨by omega,?_⟩
   refine⟨(i+1,o,g,f,k),?_,?_,rfl,rfl,rfl,rfl,trivial⟩
   refine⟨by omega,?_,by omega⟩
   rw[fQ (by omega),<- h2,cv,if_neg (by grind),if_pos (by grind)]
   have:o=[]:=List.eq_nil_of_length_eq_zero (by simp at *;omega)
   rw[this];rfl
   first | (solve | simp) | omega | (simp;omega)
   try simp only[nb]at o4
   refine⟨rfl,trivial,rfl,by simp[aG,V.n,V.ns],by simp;omega,?_⟩
   intro QI P6 QX
   refine⟨congrArg (V.own 1 · QI P6 QX) (by simp),by omega,?_⟩
   refine⟨(i+1,o++[(ps.getD i [])],QI,P6,QX),?_,?_,rfl,rfl,rfl,rfl,trivial⟩
   refine⟨by omega,?_,by simp;omega⟩
   rw[fQ (by omega),<- h2,cv,if_neg (by grind),if_neg (by grind)]
   first | (solve | simp) | omega | (simp;omega)
 try simp only[nb]at j7
 refine⟨congrArg (V.sl false) (aL (fun _=>rfl) _),?_⟩
 unfold Q
 rw[h2,List.take_of_length_le (by omega)])
end Go.Proofs.YtlclejemchbjiaaGreatDoor
