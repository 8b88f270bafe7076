/-
  Words and walks for the laws of pedlar's seat: what each function of the program computes, and that it does; no conditions beyond those that each statement names.
-/
import Derived.Test.YtlclejemchbjiaaGreatDoorGD
import Derived.Test.YtlclejemchbjiaaGreatDoorGB
import Derived.WalkKit
import Derived.LaidEql
import Derived.Stop.Asserts
import Derived.RowKitTokens
import Derived.ProofKit
import Derived.OpenShut
import Derived.ChangeOld
import Derived.Below
import Derived.LaidMore
import Derived.Lay
import Derived.SevenTiedAt
import Derived.Stop.Joined
import Derived.Stop.LaidErr
set_option linter.unusedVariables false
set_option linter.unusedSimpArgs false
set_option linter.unnecessarySimpa false
set_option linter.unusedSectionVars false
namespace Go.Proofs.YtlclejemchbjiaaGreatDoor
open Go Go.Abs Go.RowKit Go.Pd
set_option maxRecDepth 20000
abbrev km(p0:BL)(p1:Int)(p2:V)(p3:List BL)(p4:List m9):V:=.agg [sV p0,iV p1,p2,.sl false (p3.map sV),.sl false (p4.map aN)]
abbrev kz(p0:BL)(p1:Int)(p2:V)(p3:List BL)(p4:List m9):V:=.agg [sV p0,iV p1,p2,.sl false (p3.map sV),.sl false (p4.map aN)]
abbrev HZ(p0:BL)(p1:Int)(p2:Bool)(p3:List BL)(p4:List s8)(p5:Nat)(p6:Int)(p7:List w3):V:=.agg [sV p0,iV p1,bV p2,.agg [.sl false (p3.map sV),.sl false (p4.map au),iN p5],iV p6,.ow 2 (p7.map ak)]
def xG(l:List l6):r5 Tryz.prog:=.mk 99 [.sl false (l.map bY)] [] (l.length<=1000000) (.ow 8 (l.map bY)) [] (by
 intro hl
 refine aw (N:=8) (rs:=[.tmp 2]) Tryz.func99
  (.q 1<|.q 1<|.cu (Ty (l.map bY)) (fun z4=>.br (.q 1<|.h (.H3 2 8)<|.nil) (.bs<|.q 1<|.ap (fun g7 o7 c7=>.h (.o9 7 (.own 8 (l.map bY) g7 o7 c7))<|.q 1<|.nil))))
  (((l.map bY:List V)=l.map bY)/\∀ z4: {b:Bool // b=true->(l.map bY:List V)=[]},Br z4.1 (Q (.ow 8 ([].map bY)) (.ow 8 (l.map bY))) ((True)/\(True)/\(V.aD (l.map bY)=false)/\(aG 8 (l.map bY))/\((([]:List V).length+(l.map bY).length)*120<=140737488355328)/\∀ g7 o7 c7:Nat,((.own 8 (([]:List V)++(l.map bY)) g7 o7 c7:V)=.own 8 (l.map bY) g7 o7 c7)/\Q (.ow 8 (l.map bY)) (.ow 8 (l.map bY)))) ?_
 refine⟨rfl,?_⟩
 intro z4
 refine⟨fun j7=>?_,fun j7=>?_⟩
 try simp only[nb]at j7
 unfold Q
 rw[z4.2 j7];rfl
 try simp only[nb]at j7
 refine⟨trivial,trivial,(cm (f:=bY) (fun _=>rfl) _),(dJ (f:=bY) (fun _=>rfl) _),by simp;omega,?_⟩
 intro g7 o7 c7
 refine⟨congrArg (V.own 8 · g7 o7 c7) (List.nil_append _),?_⟩
 unfold Q
 rfl)
def xz(l:List s8):r5 Tryz.prog:=.mk 100 [dU l] [] (l.length<=1000000) (.ow 2 (l.map au)) [] (by
 intro hl
 refine aw (N:=8) (rs:=[.tmp 2]) Tryz.func100
  (.q 1<|.q 1<|.cu (Ty (l.map au)) (fun z4=>.br (.q 1<|.h (.H3 2 2)<|.nil) (.bs<|.q 1<|.ap (fun g7 o7 c7=>.h (.o9 7 (.own 2 (l.map au) g7 o7 c7))<|.q 1<|.nil))))
  (((l.map au:List V)=l.map au)/\∀ z4: {b:Bool // b=true->(l.map au:List V)=[]},Br z4.1 (Q (.ow 2 ([].map au)) (.ow 2 (l.map au))) ((True)/\(True)/\(V.aD (l.map au)=false)/\(aG 2 (l.map au))/\((([]:List V).length+(l.map au).length)*24<=140737488355328)/\∀ g7 o7 c7:Nat,((.own 2 (([]:List V)++(l.map au)) g7 o7 c7:V)=.own 2 (l.map au) g7 o7 c7)/\Q (.ow 2 (l.map au)) (.ow 2 (l.map au)))) ?_
 refine⟨rfl,?_⟩
 intro z4
 refine⟨fun j7=>?_,fun j7=>?_⟩
 try simp only[nb]at j7
 unfold Q
 rw[z4.2 j7];rfl
 try simp only[nb]at j7
 refine⟨trivial,trivial,(cm (f:=au) (fun _=>rfl) _),(dJ (f:=au) (fun _=>rfl) _),by simp;omega,?_⟩
 intro g7 o7 c7
 refine⟨congrArg (V.own 2 · g7 o7 c7) (List.nil_append _),?_⟩
 unfold Q
 rfl)
def xy(l:List w3):r5 Tryz.prog:=.mk 101 [me l] [] (l.length<=1000000) (.ow 2 (l.map ak)) [] (by
 intro hl
 refine aw (N:=8) (rs:=[.tmp 2]) Tryz.func101
  (.q 1<|.q 1<|.cu (Ty (l.map ak)) (fun z4=>.br (.q 1<|.h (.H3 2 2)<|.nil) (.bs<|.q 1<|.ap (fun g7 o7 c7=>.h (.o9 7 (.own 2 (l.map ak) g7 o7 c7))<|.q 1<|.nil))))
  (((l.map ak:List V)=l.map ak)/\∀ z4: {b:Bool // b=true->(l.map ak:List V)=[]},Br z4.1 (Q (.ow 2 ([].map ak)) (.ow 2 (l.map ak))) ((True)/\(True)/\(V.aD (l.map ak)=false)/\(aG 2 (l.map ak))/\((([]:List V).length+(l.map ak).length)*24<=140737488355328)/\∀ g7 o7 c7:Nat,((.own 2 (([]:List V)++(l.map ak)) g7 o7 c7:V)=.own 2 (l.map ak) g7 o7 c7)/\Q (.ow 2 (l.map ak)) (.ow 2 (l.map ak)))) ?_
 refine⟨rfl,?_⟩
 intro z4
 refine⟨fun j7=>?_,fun j7=>?_⟩
 try simp only[nb]at j7
 unfold Q
 rw[z4.2 j7];rfl
 try simp only[nb]at j7
 refine⟨trivial,trivial,(cm (f:=ak) (fun _=>rfl) _),(dJ (f:=ak) (fun _=>rfl) _),by simp;omega,?_⟩
 intro g7 o7 c7
 refine⟨congrArg (V.own 2 · g7 o7 c7) (List.nil_append _),?_⟩
 unfold Q
 rfl)
def xe(l:List m9):r5 Tryz.prog:=.mk 102 [iL l] [] (l.length<=1000000) (.ow 3 (l.map aN)) [] (by
 intro hl
 refine aw (N:=8) (rs:=[.tmp 2]) Tryz.func102
  (.q 1<|.q 1<|.cu (Ty (l.map aN)) (fun z4=>.br (.q 1<|.h (.H3 2 3)<|.nil) (.bs<|.q 1<|.ap (fun g7 o7 c7=>.h (.o9 7 (.own 3 (l.map aN) g7 o7 c7))<|.q 1<|.nil))))
  (((l.map aN:List V)=l.map aN)/\∀ z4: {b:Bool // b=true->(l.map aN:List V)=[]},Br z4.1 (Q (.ow 3 ([].map aN)) (.ow 3 (l.map aN))) ((True)/\(True)/\(V.aD (l.map aN)=false)/\(aG 3 (l.map aN))/\((([]:List V).length+(l.map aN).length)*32<=140737488355328)/\∀ g7 o7 c7:Nat,((.own 3 (([]:List V)++(l.map aN)) g7 o7 c7:V)=.own 3 (l.map aN) g7 o7 c7)/\Q (.ow 3 (l.map aN)) (.ow 3 (l.map aN)))) ?_
 refine⟨rfl,?_⟩
 intro z4
 refine⟨fun j7=>?_,fun j7=>?_⟩
 try simp only[nb]at j7
 unfold Q
 rw[z4.2 j7];rfl
 try simp only[nb]at j7
 refine⟨trivial,trivial,(cm (f:=aN) (fun _=>rfl) _),(dJ (f:=aN) (fun _=>rfl) _),by simp;omega,?_⟩
 intro g7 o7 c7
 refine⟨congrArg (V.own 3 · g7 o7 c7) (List.nil_append _),?_⟩
 unfold Q
 rfl)
abbrev oM(t:m5):V:=bj t.na t.a8 t.hs t.se t.lk
def rT(t:m5):r5 Tryz.prog:=.mk 73 [cf t.na t.a8 t.hs t.se t.lk] [] (G' t) (oM t) [] (by
 intro ht
 have Px:=ht.h
 refine aw (N:=57) (rs:=[.cell 2 30]) Tryz.func73
  (.bx (fun g1=>.al eN (fun g2=>.r 2 [.b9]<|.c (xG t.hs) []<|.q 1<|.st none<|.oR (.key 1) [2] (fun g o c=>.r 4 [.b9]<|.h (.z7 1 (kz t.na t.a8 (.own 8 ((t.hs.take 0).map aA++(t.hs.drop 0).map bY) g o c) t.se t.lk))<|.loop (Nat) (fun (i:Nat)=>⟨[(1,.ptr (.key 1) [] g1 0),(2,.ptr (.key 2) [] g2 0),(11,iN t.hs.length),(12,iN i)],[(1,(g1,kz t.na t.a8 (.own 8 ((t.hs.take i).map aA++(t.hs.drop i).map bY) g o c) t.se t.lk)),(2,(g2,.agg [sV [],iN 0,.sl true [],.sl true [],.sl true []]))]⟩) (fun (i:Nat)=>i<=t.hs.length) (fun (i:Nat)=>t.hs.length-i) (fun (i:Nat)=>.q 1<|.br (.q 2<|.h (.z7 1 (km t.na t.a8 (.own 8 ((t.hs.take i).map aA++(gI ((t.hs.getD i e9).na) ((t.hs.getD i e9).re) ((t.hs.getD i e9).kn) ((t.hs.getD i e9).gr.na) ((t.hs.getD i e9).gr.ru) ((t.hs.getD i e9).gr.wa) ((t.hs.getD i e9).tr) ((t.hs.getD i e9).td):V)::(t.hs.drop (i+1)).map bY) g o c) t.se t.lk))<|.r 5 [.b9]<|.r 6 [ax ((t.hs.getD i e9).gr.na)]<|.c (ja ((t.hs.getD i e9).gr.na)) []<|.q 3<|.h (.fz 25)<|.h (.o9 25 (ax ((t.hs.getD i e9).gr.na)))<|.st (some (ax ((t.hs.getD i e9).gr.na)))<|.h (.z7 1 (km t.na t.a8 (.own 8 ((t.hs.take i).map aA++(gI ((t.hs.getD i e9).na) ((t.hs.getD i e9).re) ((t.hs.getD i e9).kn) ((t.hs.getD i e9).gr.na) ((t.hs.getD i e9).gr.ru) ((t.hs.getD i e9).gr.wa) ((t.hs.getD i e9).tr) ((t.hs.getD i e9).td):V)::(t.hs.drop (i+1)).map bY) g o c) t.se t.lk))<|.r 6 [dU ((t.hs.getD i e9).gr.ru)]<|.c (xz ((t.hs.getD i e9).gr.ru)) []<|.q 3<|.h (.fz 35)<|.h (.o9 35 (dU ((t.hs.getD i e9).gr.ru)))<|.st (some (dU ((t.hs.getD i e9).gr.ru)))<|.h (.z7 1 (km t.na t.a8 (.own 8 ((t.hs.take i).map aA++(gI ((t.hs.getD i e9).na) ((t.hs.getD i e9).re) ((t.hs.getD i e9).kn) ((t.hs.getD i e9).gr.na) ((t.hs.getD i e9).gr.ru) ((t.hs.getD i e9).gr.wa) ((t.hs.getD i e9).tr) ((t.hs.getD i e9).td):V)::(t.hs.drop (i+1)).map bY) g o c) t.se t.lk))<|.r 5 [me ((t.hs.getD i e9).td)]<|.c (xy ((t.hs.getD i e9).td)) []<|.q 2<|.st (some (me ((t.hs.getD i e9).td)))<|.h (.z7 1 (km t.na t.a8 (.own 8 ((t.hs.take i).map aA++(HZ ((t.hs.getD i e9).na) ((t.hs.getD i e9).re) ((t.hs.getD i e9).kn) ((t.hs.getD i e9).gr.na) ((t.hs.getD i e9).gr.ru) ((t.hs.getD i e9).gr.wa) ((t.hs.getD i e9).tr) ((t.hs.getD i e9).td):V)::(t.hs.drop (i+1)).map bY) g o c) t.se t.lk))<|.h (.z7 1 (kz t.na t.a8 (.own 8 ((t.hs.take (i+1)).map aA++(t.hs.drop (i+1)).map bY) g o c) t.se t.lk))<|.q 2<|.nil) (.h (.z7 1 (.agg [sV t.na,iV t.a8,.own 8 (t.hs.map aA) g o c,ax t.se,iL t.lk]))<|.r 2 [.b9]<|.c (ja t.se) []<|.q 1<|.st none<|.r 2 [.b9]<|.c (xe t.lk) []<|.q 1<|.st none<|.mv<|.st none<|.nil))))))
  ((fun v1:V=>(∀ g1:Nat,∀ g2:Nat,Z g1 2/\(xG t.hs).sm/\((t.hs.length<=1000000))/\Z g1 2/\∀ g o c:Nat,(fun v2:V=>Z g1 2/\((.agg [sV t.na,iV t.a8,.own 8 (t.hs.map bY) g o c,ax t.se,iL t.lk]:V)=kz t.na t.a8 v2 t.se t.lk)/\(∃ j8:Nat,(j8<=t.hs.length)/\E (.ptr (.key 1) [] g1 0)/\E (.ptr (.key 2) [] g2 0)/\Q (iN ((t.hs.map bY).length)) (iN t.hs.length)/\Q (iN 0) (iN j8)/\Qr g1 (kz t.na t.a8 v2 t.se t.lk) g1 (kz t.na t.a8 (.own 8 ((t.hs.take j8).map aA++(t.hs.drop j8).map bY) g o c) t.se t.lk)/\Er g2 v1/\True)/\∀ i:Nat,(i<=t.hs.length)->(fun v3:V=>(fun v4:V=>(fun v5:V=>(fun v6:V=>(fun v7:V=>Br (s7 (i:Int) (t.hs.length:Int)) ((v6=km t.na t.a8 v3 t.se t.lk)/\Z g1 2/\In (i:Int) (((t.hs.take i).map aA++(gI ((t.hs.getD i e9).na) ((t.hs.getD i e9).re) ((t.hs.getD i e9).kn) ((t.hs.getD i e9).gr.na) ((t.hs.getD i e9).gr.ru) ((t.hs.getD i e9).gr.wa) ((t.hs.getD i e9).tr) ((t.hs.getD i e9).td):V)::(t.hs.drop (i+1)).map bY).length)/\True/\(V.at g1 0 v5 [2,0+i,3,0]=some (g,(o+(0+i)*8+3+0),ax ((t.hs.getD i e9).gr.na)))/\(ja ((t.hs.getD i e9).gr.na)).sm/\((((t.hs.getD i e9).gr.na).length<=1000000))/\True/\((.sl false (V.A8 (((t.hs.getD i e9).gr.na).map sV)):V)=ax ((t.hs.getD i e9).gr.na))/\(V.at g1 0 v5 [2,0+i,3,0]=some (g,(o+(0+i)*8+3+0),ax ((t.hs.getD i e9).gr.na)))/\(V.set v5 [2,0+i,3,0] (ax ((t.hs.getD i e9).gr.na))=km t.na t.a8 v3 t.se t.lk)/\True/\(V.at g1 0 v5 [2,0+i,3,1]=some (g,(o+(0+i)*8+3+1),dU ((t.hs.getD i e9).gr.ru)))/\(xz ((t.hs.getD i e9).gr.ru)).sm/\((((t.hs.getD i e9).gr.ru).length<=1000000))/\True/\((.sl false (V.A8 (((t.hs.getD i e9).gr.ru).map au)):V)=dU ((t.hs.getD i e9).gr.ru))/\(V.at g1 0 v5 [2,0+i,3,1]=some (g,(o+(0+i)*8+3+1),dU ((t.hs.getD i e9).gr.ru)))/\(V.set v5 [2,0+i,3,1] (dU ((t.hs.getD i e9).gr.ru))=km t.na t.a8 v3 t.se t.lk)/\True/\(V.at g1 0 v5 [2,0+i,5]=some (g,(o+(0+i)*8+7),me ((t.hs.getD i e9).td)))/\(xy ((t.hs.getD i e9).td)).sm/\((((t.hs.getD i e9).td).length<=1000000))/\True/\(V.at g1 0 v5 [2,0+i,5]=some (g,(o+(0+i)*8+7),me ((t.hs.getD i e9).td)))/\(V.set v5 [2,0+i,5] (.ow 2 (((t.hs.getD i e9).td).map ak))=km t.na t.a8 v4 t.se t.lk)/\((km t.na t.a8 v4 t.se t.lk:V)=kz t.na t.a8 v7 t.se t.lk)/\m8 ((i:Int)+1)/\∃ c9:Nat,(c9<=t.hs.length)/\(t.hs.length-c9<t.hs.length-i)/\E (.ptr (.key 1) [] g1 0)/\E (.ptr (.key 2) [] g2 0)/\E (iN t.hs.length)/\Q (iN (i+1)) (iN c9)/\Qr g1 (kz t.na t.a8 v7 t.se t.lk) g1 (kz t.na t.a8 (.own 8 ((t.hs.take c9).map aA++(t.hs.drop c9).map bY) g o c) t.se t.lk)/\Er g2 v1/\True) ((v6=.agg [sV t.na,iV t.a8,.own 8 (t.hs.map aA) g o c,ax t.se,iL t.lk])/\Z g1 3/\(ja t.se).sm/\((t.se.length<=1000000))/\Z g1 3/\Z g1 4/\(xe t.lk).sm/\((t.lk.length<=1000000))/\Z g1 4/\Z g1 0/\Z g2 0/\(g2=g2)/\Q (bj t.na t.a8 t.hs t.se t.lk) (oM t))) (.own 8 ((t.hs.take (i+1)).map aA++(t.hs.drop (i+1)).map bY) g o c)) (kz t.na t.a8 (.own 8 ((t.hs.take i).map aA++(t.hs.drop i).map bY) g o c) t.se t.lk:V)) (km t.na t.a8 v3 t.se t.lk)) (.own 8 ((t.hs.take i).map aA++(HZ ((t.hs.getD i e9).na) ((t.hs.getD i e9).re) ((t.hs.getD i e9).kn) ((t.hs.getD i e9).gr.na) ((t.hs.getD i e9).gr.ru) ((t.hs.getD i e9).gr.wa) ((t.hs.getD i e9).tr) ((t.hs.getD i e9).td):V)::(t.hs.drop (i+1)).map bY) g o c)) (.own 8 ((t.hs.take i).map aA++(gI ((t.hs.getD i e9).na) ((t.hs.getD i e9).re) ((t.hs.getD i e9).kn) ((t.hs.getD i e9).gr.na) ((t.hs.getD i e9).gr.ru) ((t.hs.getD i e9).gr.wa) ((t.hs.getD i e9).tr) ((t.hs.getD i e9).td):V)::(t.hs.drop (i+1)).map bY) g o c)) (.own 8 ((t.hs.take 0).map aA++(t.hs.drop 0).map bY) g o c))) (.agg [sV [],iN 0,.sl true [],.sl true [],.sl true []])) ?_
 intro g1
 intro g2
 refine⟨rfl,rfl,by have:=ht.h;omega,rfl,?_⟩
 intro g o c
 refine⟨rfl,LM (congrArg (V.own 8 · g o c) JG),?_⟩
 refine⟨⟨0,?_,rfl,rfl,by first | rfl | simp | (simp;omega),rfl,rfl,rfl,trivial⟩,?_⟩
 simp
 rintro i h1
 refine⟨fun j7=>?_,fun j7=>?_⟩
 try simp only[nb]at j7
 refine⟨LM (congrArg (V.own 8 · g o c) (IV (d:=e9) (by omega))),rfl,by(try simp only[List.length_map]at *);simp only[List.length_append,List.length_cons,List.length_map,List.length_take,List.length_drop];omega,?_⟩
 have Lb:=ht.ha _ (bK (d:=e9) (show i<t.hs.length by omega))
 refine⟨trivial,(aP (f:=2) rfl).trans (aE (by rw[Nat.zero_add];exact aF (by omega)) rfl),rfl,by first | (have:=Lb.g;omega) | (have:=ht.s;omega),trivial,congrArg (V.sl false) (aL (fun _=>rfl) _),(aP (f:=2) rfl).trans (aE (by rw[Nat.zero_add];exact aF (by omega)) rfl),dq (aR (by rw[Nat.zero_add];exact aF (by omega)) (by rw[Nat.zero_add];exact cD (by omega))),trivial,(aP (f:=2) rfl).trans (aE (by rw[Nat.zero_add];exact aF (by omega)) rfl),rfl,by have:=Lb.r;omega,trivial,congrArg (V.sl false) (aL (fun _=>rfl) _),(aP (f:=2) rfl).trans (aE (by rw[Nat.zero_add];exact aF (by omega)) rfl),dq (aR (by rw[Nat.zero_add];exact aF (by omega)) (by rw[Nat.zero_add];exact cD (by omega))),trivial,(aP (f:=2) rfl).trans (aE (by rw[Nat.zero_add];exact aF (by omega)) rfl),rfl,by have:=Lb.t;omega,trivial,(aP (f:=2) rfl).trans (aE (by rw[Nat.zero_add];exact aF (by omega)) rfl),dq (aR (by rw[Nat.zero_add];exact aF (by omega)) (by rw[Nat.zero_add];exact cD (by omega))),LM (congrArg (V.own 8 · g o c) (Jk (f:=aA) (d:=e9) (by omega))),by omega,?_⟩
 refine⟨i+1,?_,?_,rfl,rfl,rfl,rfl,rfl,rfl,trivial⟩
 omega
 first | (solve | simp) | omega | (simp;omega)
 try simp only[nb]at j7
 refine⟨LM (congrArg (V.own 8 · g o c) (JL (by omega))),rfl,rfl,by first | (have:=Lb.g;omega) | (have:=ht.s;omega),rfl,rfl,rfl,by have:=ht.l;omega,rfl,rfl,rfl,?_⟩
 refine⟨rfl,?_⟩
 unfold Q oM
 rfl)
end Go.Proofs.YtlclejemchbjiaaGreatDoor
namespace Go.Pd
open Go.Abs
def mQ(y:l6):Bool:=decide (y.td≠[])
theorem Gy{y:l6}:s9 (((y.td.map ak).length:Nat):Int) 0=mQ y:=by
 unfold mQ s9
 cases h:y.td <;> simp
def C8(t:m5):Nat:=((iG t).map (·.1)).getD 0
def J2(t:m5):Int:=((iG t).map (·.2)).getD 0
theorem oj{t:m5}{i:Nat}(h:i<t.hs.length):I9 t (i+1)=nF t.a8 (I9 t i) (i,t.hs.getD i e9):=by
 unfold I9
 rw[List.take_succ_eq_append_getElem (by simpa using h),List.map_append,List.foldl_append]
 simp[List.getD_eq_getElem?_getD,List.getElem?_eq_getElem h]
end Go.Pd
namespace Go.Proofs.YtlclejemchbjiaaGreatDoor
open Go Go.Abs Go.RowKit Go.Pd
set_option maxRecDepth 20000
section
variable {n:BL} {a8 b q:Int} {zs:List l6} {se:List BL} {ls:List m9} {i:Nat}
theorem zN(h:i<zs.length)(h2:b=(I9 ⟨n,a8,zs,se,ls⟩ i).1)(h3:q=(I9 ⟨n,a8,zs,se,ls⟩ i).2)(c:mQ (zs.getD i e9)=true/\(b<0\/max (zs.getD i e9).re a8<q)):I9 ⟨n,a8,zs,se,ls⟩ (i+1)=((i:Int),max (zs.getD i e9).re a8):=by
 rw[oj (t:=⟨n,a8,zs,se,ls⟩) h]
 unfold nF
 rw[<- h2,<- h3,if_pos ⟨of_decide_eq_true c.1,c.2⟩]
theorem Ao(h:i<zs.length)(h2:b=(I9 ⟨n,a8,zs,se,ls⟩ i).1)(h3:q=(I9 ⟨n,a8,zs,se,ls⟩ i).2)(c:mQ (zs.getD i e9)=true->(0<=b/\q<=max (zs.getD i e9).re a8)):I9 ⟨n,a8,zs,se,ls⟩ (i+1)=I9 ⟨n,a8,zs,se,ls⟩ i:=by
 rw[oj (t:=⟨n,a8,zs,se,ls⟩) h]
 unfold nF
 rw[<- h2,<- h3,if_neg (fun d=>?_)]
 have:=c (decide_eq_true d.1)
 have:=d.2
 simp only at this
 omega
theorem Fw{t:m5}(h:(I9 t t.hs.length).1<0\/5000<(I9 t t.hs.length).2):iG t=none:=if_pos h
theorem GG{t:m5}(h:0<=(I9 t t.hs.length).1/\(I9 t t.hs.length).2<=5000):iG t=some ((I9 t t.hs.length).1.toNat,(I9 t t.hs.length).2):=if_neg (by omega)
end
def rU(k:Int):r5 Tryz.prog:=.mk 13 [iV k] [] True (iV (cP k)) [] (by
 intro _
 refine aw (N:=10) (rs:=[.tmp 2]) Tryz.func13
  (.q 1<|.q 1<|.q 2<|.br (.q 1<|.nil) (.q 2<|.br (.q 1<|.nil) (.q 2<|.br (.q 1<|.nil) (.q 1<|.nil))))
  (Br (r4 k 1) (Q (iN 2) (iV (cP k))) (Br (r4 k 2) (Q (iN 4) (iV (cP k))) (Br (r4 k 3) (Q (iN 8) (iV (cP k))) (Q (iN 0) (iV (cP k)))))) ?_
 refine⟨fun j7=>?_,fun j7=>?_⟩
 try simp only[nb]at j7
 unfold Q
 rw[cP,if_pos j7];rfl
 try simp only[nb]at j7
 refine⟨fun j9=>?_,fun j9=>?_⟩
 try simp only[nb]at j9
 unfold Q
 rw[cP,if_neg j7,if_pos j9];rfl
 try simp only[nb]at j9
 refine⟨fun l8=>?_,fun l8=>?_⟩
 try simp only[nb]at l8
 unfold Q
 rw[cP,if_neg j7,if_neg j9,if_pos l8];rfl
 try simp only[nb]at l8
 unfold Q
 rw[cP,if_neg j7,if_neg j9,if_neg l8];rfl)
abbrev uv(n:BL)(a8:Int)(zs:List l6)(se:List BL)(ls:List m9)(gt:Nat)(g:Nat)(o:Nat)(c:Nat)(gb:Nat)(ix:Nat):V:=.tup [iV (max (zs.getD ix e9).re a8),bV (mQ (zs.getD ix e9))]
def Gv(n:BL)(a8:Int)(zs:List l6)(se:List BL)(ls:List m9)(gt:Nat)(g:Nat)(o:Nat)(c:Nat)(gb:Nat)(ix:Nat):r5 Tryz.prog:=.mk 130 [.ptr (.key 1000) [2,ix] g (o+ix*8),.ptr (.key 1001) [] gb 0] [(1001,(gb,.ptr (.key 1000) [] gt 0)),(1000,(gt,bm n a8 zs g o c se ls))] (ix<zs.length) (uv n a8 zs se ls gt g o c gb ix) [(1001,(gb,.ptr (.key 1000) [] gt 0)),(1000,(gt,bm n a8 zs g o c se ls))] (by
 intro hi
 refine aw (N:=20) (rs:=[.tmp 3,.tmp 4]) Tryz.func130
  (.q 2<|.h (.z7 1000 (cw n a8 zs ix ((zs.getD ix e9).na) ((zs.getD ix e9).re) ((zs.getD ix e9).kn) ((zs.getD ix e9).gr.na) ((zs.getD ix e9).gr.ru) ((zs.getD ix e9).gr.wa) ((zs.getD ix e9).tr) ((zs.getD ix e9).td) g o c se ls))<|.NK (.key 1000) [2,ix,5] g (o+(ix)*8+7) 2 (((zs.getD ix e9).td).map ak) (fun gA LN cA=>.h (.z7 1000 (ba n a8 zs ix ((zs.getD ix e9).na) ((zs.getD ix e9).re) ((zs.getD ix e9).kn) ((zs.getD ix e9).gr.na) ((zs.getD ix e9).gr.ru) ((zs.getD ix e9).gr.wa) ((zs.getD ix e9).tr) ((zs.getD ix e9).td) gA LN cA g o c se ls))<|.dx 16 [0,1,2,3,4,5,6,7,8,9,10,11,12,13,14,15] [(3,⟨false,[],some [1000],[8],[]⟩),(4,⟨false,[],some [1001],[9],[]⟩),(7,⟨false,[],some [1000],[12],[]⟩),(12,⟨false,[],some [1000],[17],[]⟩)] []<|.q 1<|.q 1<|.q 1<|.r 1 [iV ((zs.getD ix e9).re)]<|.r 1 [.b9]<|.q 1<|.q 1<|.r 1 [.b9]<|.mm<|.q 1<|.q 1<|.q 1<|.r 1 [.own 2 (((zs.getD ix e9).td).map ak) gA LN cA]<|.q 1<|.q 1<|.q 1<|.q 1<|.h (.Na (.key 1000) [2,ix,5] g (o+(ix)*8+7) (.own 2 (((zs.getD ix e9).td).map ak) gA LN cA) (.ow 2 (((zs.getD ix e9).td).map ak)))<|.h (.z7 1000 (cw n a8 zs ix ((zs.getD ix e9).na) ((zs.getD ix e9).re) ((zs.getD ix e9).kn) ((zs.getD ix e9).gr.na) ((zs.getD ix e9).gr.ru) ((zs.getD ix e9).gr.wa) ((zs.getD ix e9).tr) ((zs.getD ix e9).td) g o c se ls))<|.h (.z7 1000 (bm n a8 zs g o c se ls))<|.nil))
  ((fun v1:V=>(((bm n a8 zs g o c se ls:V)=cw n a8 zs ix ((zs.getD ix e9).na) ((zs.getD ix e9).re) ((zs.getD ix e9).kn) ((zs.getD ix e9).gr.na) ((zs.getD ix e9).gr.ru) ((zs.getD ix e9).gr.wa) ((zs.getD ix e9).tr) ((zs.getD ix e9).td) g o c se ls)/\(V.at gt 0 v1 [2,ix,5]=some (g,o+(ix)*8+7,.ow 2 (((zs.getD ix e9).td).map ak)))/\∀ gA LN cA:Nat,(fun v2:V=>(V.set v1 [2,ix,5] (.own 2 (((zs.getD ix e9).td).map ak) gA LN cA)=ba n a8 zs ix ((zs.getD ix e9).na) ((zs.getD ix e9).re) ((zs.getD ix e9).kn) ((zs.getD ix e9).gr.na) ((zs.getD ix e9).gr.ru) ((zs.getD ix e9).gr.wa) ((zs.getD ix e9).tr) ((zs.getD ix e9).td) gA LN cA g o c se ls)/\True/\(V.at gt 0 v2 [2,ix,1]=some (g,(o+ix*8+1),iV ((zs.getD ix e9).re)))/\Z gb 0/\True/\Z gt 1/\(IntKind.i64=IntKind.i64)/\True/\(V.at gt 0 v2 [2,ix,5]=some (g,(o+ix*8+7),.own 2 (((zs.getD ix e9).td).map ak) gA LN cA))/\(V.at gt 0 v2 [2,ix,5]=some (g,o+(ix)*8+7,.own 2 (((zs.getD ix e9).td).map ak) gA LN cA))/\(V.set v2 [2,ix,5] (.ow 2 (((zs.getD ix e9).td).map ak))=cw n a8 zs ix ((zs.getD ix e9).na) ((zs.getD ix e9).re) ((zs.getD ix e9).kn) ((zs.getD ix e9).gr.na) ((zs.getD ix e9).gr.ru) ((zs.getD ix e9).gr.wa) ((zs.getD ix e9).tr) ((zs.getD ix e9).td) g o c se ls)/\((cw n a8 zs ix ((zs.getD ix e9).na) ((zs.getD ix e9).re) ((zs.getD ix e9).kn) ((zs.getD ix e9).gr.na) ((zs.getD ix e9).gr.ru) ((zs.getD ix e9).gr.wa) ((zs.getD ix e9).tr) ((zs.getD ix e9).td) g o c se ls:V)=bm n a8 zs g o c se ls)/\Q (.tup [iV (max ((zs.getD ix e9).re) a8),bV (s9 (((((zs.getD ix e9).td).map ak).length:Nat):Int) 0)]) (uv n a8 zs se ls gt g o c gb ix)/\Er gb (.ptr (.key 1000) [] gt 0)/\Er gt (bm n a8 zs g o c se ls)) (ba n a8 zs ix ((zs.getD ix e9).na) ((zs.getD ix e9).re) ((zs.getD ix e9).kn) ((zs.getD ix e9).gr.na) ((zs.getD ix e9).gr.ru) ((zs.getD ix e9).gr.wa) ((zs.getD ix e9).tr) ((zs.getD ix e9).td) gA LN cA g o c se ls))) (cw n a8 zs ix ((zs.getD ix e9).na) ((zs.getD ix e9).re) ((zs.getD ix e9).kn) ((zs.getD ix e9).gr.na) ((zs.getD ix e9).gr.ru) ((zs.getD ix e9).gr.wa) ((zs.getD ix e9).tr) ((zs.getD ix e9).td) g o c se ls)) ?_
 refine⟨LM (congrArg (V.own 8 · g o c) (pv (d:=e9) (by omega))),(aP (f:=2) rfl).trans (aE (aF (by omega)) rfl),?_⟩
 intro gA LN cA
 refine⟨dq (aR (aF (by omega)) (cD (by omega))),trivial,(aP (f:=2) rfl).trans (aE (aF (by omega)) rfl),rfl,trivial,rfl,rfl,trivial,(aP (f:=2) rfl).trans (aE (aF (by omega)) rfl),(aP (f:=2) rfl).trans (aE (aF (by omega)) rfl),dq (aR (aF (by omega)) (cD (by omega))),LM (congrArg (V.own 8 · g o c) (pv (f:=aA) (d:=e9) (by omega)).symm),?_⟩
 refine⟨?_,rfl,rfl⟩
 unfold Q uv
 rw[Gy])
abbrev lW(n:BL)(a8:Int)(zs:List l6)(se:List BL)(ls:List m9)(gt:Nat)(g:Nat)(o:Nat)(c:Nat)(gb:Nat):V:=.tup [iV (max (I9 (⟨n,a8,zs,se,ls⟩:m5) zs.length).1 0),iV ((I9 (⟨n,a8,zs,se,ls⟩:m5) zs.length).2),bV (y0 (I9 (⟨n,a8,zs,se,ls⟩:m5) zs.length).1 0)]
abbrev dQ(n:BL)(a8:Int)(zs:List l6)(se:List BL)(ls:List m9)(gt:Nat)(g:Nat)(o:Nat)(c:Nat)(gb:Nat)(i:Nat)(b:Int)(q:Int):Prop:=i<=zs.length/\b=(I9 (⟨n,a8,zs,se,ls⟩:m5) i).1/\q=(I9 (⟨n,a8,zs,se,ls⟩:m5) i).2
def pH(n:BL)(a8:Int)(zs:List l6)(se:List BL)(ls:List m9)(gt:Nat)(g:Nat)(o:Nat)(c:Nat)(gb:Nat):r5 Tryz.prog:=.mk 129 [.hd (.key 1000) [2] 8 g o 0 ((zs.map aA).length) c,.lit (.func (.func 130) #[] #[.pointer (some ⟨gb,0,none⟩)])] [(1001,(gb,.ptr (.key 1000) [] gt 0)),(1000,(gt,bm n a8 zs g o c se ls))] (zs.length<=1000) (lW n a8 zs se ls gt g o c gb) [(1001,(gb,.ptr (.key 1000) [] gt 0)),(1000,(gt,bm n a8 zs g o c se ls))] (by
 intro hl
 refine aw (N:=43) (rs:=[.tmp 4,.tmp 5,.tmp 6]) Tryz.func129
  (.q 3<|.q 2<|.q 3<|.loop (Nat×Int×Int) (fun (i,b,q)=>⟨[(0,.hd (.key 1000) [2] 8 g o 0 ((zs.map aA).length) c),(1,.lit (.func (.func 130) #[] #[.pointer (some ⟨gb,0,none⟩)])),(7,iV b),(8,iV q),(13,iN zs.length),(14,iN i)],[(1001,(gb,.ptr (.key 1000) [] gt 0)),(1000,(gt,bm n a8 zs g o c se ls))]⟩) (fun (i,b,q)=>dQ n a8 zs se ls gt g o c gb i b q) (fun (i,b,q)=>zs.length-i) (fun (i,b,q)=>.q 1<|.br (.q 2<|.q 4<|.c (Gv n a8 zs se ls gt g o c gb i) [(1000,1000),(1001,1001)]<|.q 5<|.q 10<|.br (.q 4<|.q 2<|.nil) (.q 2<|.nil)) (.q 1<|.mm<|.q 6<|.nil)))
  ((fun v1:V=>(fun v2:V=>((∃ x:Nat×Int×Int,match x with | (j8,Lx,y9)=>(dQ n a8 zs se ls gt g o c gb j8 Lx y9)/\E (.hd (.key 1000) [2] 8 g o 0 ((zs.map aA).length) c)/\E v1/\Q (iV (-1)) (iV Lx)/\Q (iN 0) (iV y9)/\Q (iN ((zs.map aA).length)) (iN zs.length)/\Q (iN 0) (iN j8)/\Er gb v2/\Er gt (bm n a8 zs g o c se ls)/\True)/\∀ x:Nat×Int×Int,match x with | (i,b,q)=>(dQ n a8 zs se ls gt g o c gb i b q)->Br (s7 (i:Int) (zs.length:Int)) (In (i:Int) ((zs.map aA).length)/\(([.ptr (.key 1000) [2,i] g (o+(0+i)*8),.ptr (.key 1001) [] gb 0]:List V)=[.ptr (.key 1000) [2,i] g (o+i*8),.ptr (.key 1001) [] gb 0])/\Er gb v2/\Er gt (bm n a8 zs g o c se ls)/\((i<zs.length))/\Gd ((mQ (zs.getD i e9))==true) (Pk (s7 b 0) true (((mQ (zs.getD i e9))==true)&&((s7 b 0)==false)))/\Pk (mQ (zs.getD i e9)) ((mQ (zs.getD i e9))==true) true/\Br ((mQ (zs.getD i e9))&&((s7 b 0)||(s7 (max (zs.getD i e9).re a8) q))) (m8 ((i:Int)+1)/\∃ x:Nat×Int×Int,match x with | (c9,B7,o5)=>(dQ n a8 zs se ls gt g o c gb c9 B7 o5)/\(zs.length-c9<zs.length-i)/\E (.hd (.key 1000) [2] 8 g o 0 ((zs.map aA).length) c)/\E v1/\Q (iN i) (iV B7)/\Q (iV (max (zs.getD i e9).re a8)) (iV o5)/\E (iN zs.length)/\Q (iN (i+1)) (iN c9)/\Er gb v2/\Er gt (bm n a8 zs g o c se ls)/\True) (m8 ((i:Int)+1)/\∃ x:Nat×Int×Int,match x with | (c9,B7,o5)=>(dQ n a8 zs se ls gt g o c gb c9 B7 o5)/\(zs.length-c9<zs.length-i)/\E (.hd (.key 1000) [2] 8 g o 0 ((zs.map aA).length) c)/\E v1/\Q (iV b) (iV B7)/\Q (iV q) (iV o5)/\E (iN zs.length)/\Q (iN (i+1)) (iN c9)/\Er gb v2/\Er gt (bm n a8 zs g o c se ls)/\True)) ((IntKind.i64=IntKind.i64)/\Q (.tup [iV (max b 0),iV q,bV (y0 b 0)]) (lW n a8 zs se ls gt g o c gb)/\Er gb v2/\Er gt (bm n a8 zs g o c se ls)))) (.ptr (.key 1000) [] gt 0)) (.lit (.func (.func 130) #[] #[.pointer (some ⟨gb,0,none⟩)]))) ?_
 refine⟨⟨(0, -1,0),?_,rfl,rfl,rfl,by first | rfl | simp | (simp;omega),by first | rfl | simp | (simp;omega),rfl,rfl,rfl,trivial⟩,?_⟩
 unfold dQ
 exact⟨by simp,rfl,rfl⟩
 rintro⟨i,b,q⟩ ⟨h1,h2,h3⟩
 refine⟨fun j7=>?_,fun j7=>?_⟩
 try simp only[nb]at j7
 refine⟨by(try simp only[List.length_map]at *);omega,by first | rfl | (exfalso;omega) | (simp only[Nat.zero_add]) | (simp;omega),rfl,rfl,by omega,fun hG=>⟨fun _=>rfl,fun h=>by rw[h];exact(Bool.and_eq_true _ _).mpr ⟨hG,rfl⟩⟩,⟨fun h=>by rw[h] <;> rfl,fun _=>rfl⟩,?_⟩
 refine⟨fun j9=>?_,fun j9=>?_⟩
 try simp only[nb]at j9
 refine⟨by omega,?_⟩
 refine⟨(i+1,(i:Int),max (zs.getD i e9).re a8),?_,?_,rfl,rfl,by first | rfl | simp | (simp;omega),rfl,rfl,rfl,rfl,rfl,trivial⟩
 unfold dQ
 first | exact⟨by omega,by rw[zN (by omega) h2 h3 j9],by rw[zN (by omega) h2 h3 j9]⟩ | exact⟨by omega,by rw[Ao (by omega) h2 h3 j9];exact h2,by rw[Ao (by omega) h2 h3 j9];exact h3⟩
 first | (solve | simp) | omega | (simp;omega)
 try simp only[nb]at j9
 refine⟨by omega,?_⟩
 refine⟨(i+1,b,q),?_,?_,rfl,rfl,rfl,rfl,rfl,rfl,rfl,rfl,trivial⟩
 unfold dQ
 first | exact⟨by omega,by rw[zN (by omega) h2 h3 j9],by rw[zN (by omega) h2 h3 j9]⟩ | exact⟨by omega,by rw[Ao (by omega) h2 h3 j9];exact h2,by rw[Ao (by omega) h2 h3 j9];exact h3⟩
 first | (solve | simp) | omega | (simp;omega)
 try simp only[nb]at j7
 refine⟨rfl,?_⟩
 refine⟨?_,rfl,rfl⟩
 unfold Q lW
 obtain rfl:i=zs.length:=by omega
 rw[h2,h3])
abbrev pk(n:BL)(a8:Int)(zs:List l6)(se:List BL)(ls:List m9)(gt:Nat):V:=.tup [iN (C8 (⟨n,a8,zs,se,ls⟩:m5)),iV (J2 (⟨n,a8,zs,se,ls⟩:m5)),bV ((iG (⟨n,a8,zs,se,ls⟩:m5)).isSome)]
def tt(n:BL)(a8:Int)(zs:List l6)(se:List BL)(ls:List m9)(gt:Nat):r5 Tryz.prog:=.mk 105 [.ptr (.key 1000) [] gt 0] [(1000,(gt,bj n a8 zs se ls))] (zs.length<=1000) (pk n a8 zs se ls gt) [(1000,(gt,bj n a8 zs se ls))] (by
 intro hl
 refine aw (N:=26) (rs:=[.tmp 2,.tmp 3,.tmp 4]) Tryz.func105
  (.oR (.key 1000) [2] (fun g o c=>.bx (fun g1=>.q 3<|.r 4 [.b9,.b9]<|.cu Qa (fun _=>.c (pH n a8 zs se ls gt g o c g1) [(1001,1),(1000,1000)]<|.q 7<|.q 6<|.br (.q 3<|.nil) (.q 5<|.nil)))))
  ((fun v1:Bool=>(∀ g o c:Nat,∀ g1:Nat,Z g1 0/\True/\Z gt 2/\((Value.func (.func 130) #[] #[.pointer (some ⟨g1,0,none⟩)]).oneCell'=true)/\∀ _:Unit,(pH n a8 zs se ls gt g o c g1).sm/\Er g1 (.ptr (.key 1000) [] gt 0)/\Er gt (bm n a8 zs g o c se ls)/\((zs.length<=1000))/\Pk v1 true (v1==false)/\Br (v1||(s9 ((I9 (⟨n,a8,zs,se,ls⟩:m5) zs.length).2) 5000)) (Q (.tup [iN 0,iN 0,bV false]) (pk n a8 zs se ls gt)/\Er gt (bj n a8 zs se ls)) (Q (.tup [iV (max (I9 (⟨n,a8,zs,se,ls⟩:m5) zs.length).1 0),iV ((I9 (⟨n,a8,zs,se,ls⟩:m5) zs.length).2),bV true]) (pk n a8 zs se ls gt)/\Er gt (bj n a8 zs se ls)))) (!(y0 (I9 (⟨n,a8,zs,se,ls⟩:m5) zs.length).1 0))) ?_
 intro g o c
 intro g1
 refine⟨rfl,trivial,rfl,rfl,?_⟩
 intro _
 refine⟨rfl,rfl,rfl,hl,⟨fun _=>rfl,fun h=>by rw[h] <;> rfl⟩,?_⟩
 refine⟨fun j7=>?_,fun j7=>?_⟩
 try simp only[nb]at j7
 refine⟨?_,rfl⟩
 unfold Q pk
 rw[C8,J2,Fw (t:=⟨n,a8,zs,se,ls⟩) j7];rfl
 try simp only[nb]at j7
 refine⟨?_,rfl⟩
 unfold Q pk
 rw[C8,J2,GG (t:=⟨n,a8,zs,se,ls⟩) j7]
 rw[show max (I9 ⟨n,a8,zs,se,ls⟩ zs.length).1 0=((I9 ⟨n,a8,zs,se,ls⟩ zs.length).1.toNat:Int) from by omega];rfl)
end Go.Proofs.YtlclejemchbjiaaGreatDoor
namespace Go.Proofs.YtlclejemchbjiaaGreatDoor
open Go Go.Abs Go.RowKit Go.Pd
set_option maxRecDepth 20000
abbrev kc(p0:BL)(p1:Int)(p2:List l6)(p3:Nat)(p4:BL)(p5:Int)(p6:Bool)(p7:List BL)(p8:List s8)(p9:Nat)(Nv:Int)(N':List w3)(N9:Nat)(N8:Nat)(N7:Nat)(N6:List BL)(St:List m9)(Ug:Nat)(Uf:Nat)(Ue:Nat):V:=.agg [sV p0,iV p1,.own 8 ((p2.take p3).map aA++(.agg [sV p4,iV p5,bV p6,.agg [.sl false (p7.map sV),.sl false (p8.map au),iN p9],iV Nv,.ow 2 (N'.map ak)]:V)::(p2.drop (p3+1)).map aA) N9 N8 N7,.ow 1 (N6.map sV),.own 3 (St.map aN) Ug Uf Ue]
theorem Db(k:Int):0<=cP k/\cP k<=8:=by unfold cP;split <;> (try split) <;> (try split) <;> omega
theorem Fm{y:l6}{a8 k m:Int}(h:k=3):eL y a8 k m={ y with re:=a8+max (y.gr.wa:Int) 1+cP (m+1) }:=by unfold eL;rw[if_pos h]
theorem Gu{y:l6}{a8 k m:Int}(h: ¬ k=3):eL y a8 k m={ y with re:=a8+max (y.gr.wa:Int) 1 }:=by unfold eL;rw[if_neg h,Int.add_zero]
def qL(w:List Pg)(t:m5):F8 Tryz.prog:=.mk (Nat×Nat) 42 [bN w,cf t.na t.a8 t.hs t.se t.lk] [] ((w.length<=30)/\(∀ i,n0 (w.getD i l4))/\(G' t)/\(aq w=true)/\(bG t=true)) (fun x=>True) (fun x=>.tup [.ptr (.key 1001) [] x.1 0,bV true]) (fun x=>[(1001,(x.1,.agg [.mp (w.map E5),.ptr (.key 1000) [] x.2 0])),(1000,(x.2,bj t.na t.a8 t.hs t.se t.lk))]) (by
 rintro⟨hw,hz,ht,hk,Mb⟩
 refine eG (N:=26) (rs:=[.tmp 4,.tmp 5]) (X:=Nat×Nat) (post:=fun x=>True) (E:=fun x=>.tup [.ptr (.key 1001) [] x.1 0,bV true]) (H':=fun x=>[(1001,(x.1,.agg [.mp (w.map E5),.ptr (.key 1000) [] x.2 0])),(1000,(x.2,.agg [sV t.na,iV t.a8,.ow 8 (t.hs.map aA),.ow 1 (t.se.map sV),.ow 3 (t.lk.map aN)]))]) Tryz.func42 (by kernel_rfl) rfl rfl rfl (by kernel_rfl) [(1001,(0,.b9)),(1000,(0,.b9))] (by intro _ k hk;simp only[lk]at hk ⊢;repeat (split at hk <;> simp_all))
  (.bx (fun g3=>.q 2<|.q 1<|.c (iX w) []<|.q 5<|.r 4 [.b9]<|.cg (hO t)<|.q 2<|.br (.nil) (.r 1 [.b9]<|.c (rT t) []<|.al eN (fun g8=>.st none<|.q 1<|.bd JU<|.bx (fun Nr=>.q 2<|.h (.rk 25 1001)<|.h (.rk 8 1000)<|.nil)))))
  (∀ g3:Nat,(iX w).sm/\((w.length<=30)/\(∀ i,n0 (w.getD i l4))/\(aq w=true))/\Gd ((!true)==false) (Z g3 0)/\Gd ((!true)==false) (((G' t))/\(hO t).sm)/\Pk (!true) true ((!true)==false)/\Br ((!true)||(!(bG t))) (False) (Z g3 0/\(rT t).sm/\((G' t))/\∀ g8:Nat,Z g8 0/\∀ Nr:Nat,∃ x:Nat×Nat,(True)/\Q (.tup [.ptr (.key 1001) [] Nr 0,bV true]) (.tup [.ptr (.key 1001) [] x.1 0,bV true])/\Qr Nr (.agg [.mp (w.map E5),.ptr (.key 1000) [] g8 0]) x.1 (.agg [.mp (w.map E5),.ptr (.key 1000) [] x.2 0])/\Qr g8 (bj t.na t.a8 t.hs t.se t.lk) x.2 (bj t.na t.a8 t.hs t.se t.lk)))
  (by kernel_rfl) ?_
 intro g3
 refine⟨rfl,⟨hw,hz,hk⟩,fun hG=>rfl,fun hG=>⟨ht,rfl⟩,⟨fun _=>rfl,fun h=>by rw[h] <;> rfl⟩,?_⟩
 refine⟨fun j7=>?_,fun j7=>?_⟩
 · try simp only[nb]at j7
   all_goals simp_all
 · try simp only[nb]at j7
   refine⟨rfl,rfl,ht,?_⟩
   intro g8
   refine⟨rfl,?_⟩
   intro Nr
   refine⟨(Nr,g8),?_,?_,?_⟩
   · try dsimp only
     all_goals trivial
   first | rfl | simp_all
   first | rfl | exact⟨rfl,rfl⟩ | simp_all)
def pg(w:List Pg)(t:m5):r5 Tryz.prog:=.mk 42 [bN w,cf t.na t.a8 t.hs t.se t.lk] [] ((w.length<=30)/\(∀ i,n0 (w.getD i l4))/\(G' t)/\((aq w&&bG t)=false)) (.tup [.b9,bV false]) [] (by
 rintro⟨hw,hz,ht,hk⟩
 refine aw (N:=26) (rs:=[.tmp 4,.tmp 5]) Tryz.func42
  (.bx (fun g3=>.q 2<|.q 1<|.sp (aq w) (.c (iX w) []<|.q 5<|.r 4 [.b9]<|.cg (hO t)<|.q 2<|.br (.q 2<|.nil) (.nil)) (.c (kZ w) []<|.q 5<|.r 4 [.b9]<|.cg (hO t)<|.q 2<|.br (.q 2<|.nil) (.nil))))
  ((fun v1:V=>(∀ g3:Nat,((aq w)=true->(iX w).sm/\((w.length<=30)/\(∀ i,n0 (w.getD i l4))/\(aq w=true))/\Gd ((!true)==false) (Z g3 0)/\Gd ((!true)==false) (((G' t))/\(hO t).sm)/\Pk (!true) true ((!true)==false)/\Br ((!true)||(!(bG t))) (Q v1 v1) (False))/\((aq w)=false->(kZ w).sm/\((w.length<=30)/\(∀ i,n0 (w.getD i l4))/\(aq w=false))/\Gd ((!false)==false) (Z g3 0)/\Gd ((!false)==false) (((G' t))/\(hO t).sm)/\Pk (!false) true ((!false)==false)/\Br ((!false)||(!(bG t))) (Q v1 v1) (False)))) (.tup [.b9,bV false])) ?_
 intro g3
 refine⟨fun G8=>?_,fun G8=>?_⟩
 · have Lu:=G8
   try simp only[nb]at Lu
   refine⟨rfl,⟨hw,hz,G8⟩,fun hG=>rfl,fun hG=>⟨ht,rfl⟩,⟨fun _=>rfl,fun h=>by rw[h] <;> rfl⟩,?_⟩
   refine⟨fun j7=>?_,fun j7=>?_⟩
   try simp only[nb]at j7
   unfold Q
   rfl
   · try simp only[nb]at j7
     all_goals simp_all
 · have Lu:=G8
   try simp only[nb]at Lu
   refine⟨rfl,⟨hw,hz,G8⟩,fun hG=>rfl,fun hG=>⟨ht,rfl⟩,⟨fun _=>rfl,fun h=>by rw[h] <;> rfl⟩,?_⟩
   refine⟨fun j9=>?_,fun j9=>?_⟩
   try simp only[nb]at j9
   unfold Q
   rfl
   · try simp only[nb]at j9
     all_goals simp_all)
def xj(n:BL)(a8:Int)(zs:List l6)(se:List BL)(ls:List m9)(gt:Nat)(g:Nat)(o:Nat)(c:Nat)(gw:Nat)(ix:Nat)(w:List Pg)(a:BL)(k:Int)(y:l6):r5 Tryz.prog:=.mk 131 [.ptr (.key 1001) [] gw 0,.ptr (.key 1000) [2,ix] g (o+ix*8),sV a,iV k] [(1001,(gw,.agg [.mp (w.map E5),.ptr (.key 1000) [] gt 0])),(1000,(gt,bm n a8 zs g o c se ls))] ((ix<zs.length)/\(ls.length<=1000)/\(0<=k/\k<=1000)/\(0<=a8/\a8<=100000)/\(zs.getD ix e9=y)/\(y.gr.wa<=1000)) (.tup [iV ((ab w a k).1),sV ((ab w a k).2)]) [(1001,(gw,.agg [.mp (w.map E5),.ptr (.key 1000) [] gt 0])),(1000,(gt,bm n a8 (zs.set ix (eL y a8 (ab w a k).1 k)) g o c se (ls++[(⟨a8,a,(ab w a k).1⟩:m9)])))] (by
 rintro⟨hi,hl,hk,hn,hyy,hy⟩
 refine aw (N:=71) (rs:=[.tmp 8,.tmp 9]) Tryz.func131
  (.oR (.key 1000) [4] (fun gl Oa cl=>.q 2<|.r 5 [.b9]<|.r 6 [.b9]<|.c (qe w a k) []<|.q 5<|.dx 14 [0,1,2,3,4,5,6,7,8,9,10,11,12,13] [(4,⟨false,[],some [1000],[31],[]⟩),(8,⟨false,[],some [1000],[35],[]⟩),(13,⟨true,[],none,[40],[1000]⟩)] []<|.q 1<|.q 1<|.q 1<|.q 1<|.r 1 [.b9]<|.q 1<|.q 1<|.q 1<|.r 1 [.b9]<|.q 1<|.q 1<|.bd Dh<|.bs<|.ux none (fun D1 D0 F7=>.h (.o9 40 (.own 3 ((ls++[(⟨a8,a,(ab w a k).1⟩:m9)]).map aN) D1 D0 F7))<|.q 2<|.st none<|.h (.z7 1000 (kc n a8 zs ix (y.na) (y.re) (y.kn) (y.gr.na) (y.gr.ru) (y.gr.wa) (y.tr) (y.td) g o c se (ls++[(⟨a8,a,(ab w a k).1⟩:m9)]) D1 D0 F7))<|.dx 12 [0,1,2,3,4,5,6,7,8,9,10,11] [(4,⟨false,[],some [1000],[47],[]⟩),(9,⟨false,[],some [1000],[52],[]⟩)] []<|.q 1<|.q 1<|.q 1<|.q 1<|.r 1 [.b9]<|.q 1<|.q 1<|.q 1<|.q 1<|.r 1 [iN (y.gr.wa)]<|.mm<|.q 1<|.q 2<|.st (some (iV (y.re)))<|.h (.z7 1000 (kc n a8 zs ix (y.na) (a8+(max ((y.gr.wa:Nat):Int) 1)) (y.kn) (y.gr.na) (y.gr.ru) (y.gr.wa) (y.tr) (y.td) g o c se (ls++[(⟨a8,a,(ab w a k).1⟩:m9)]) D1 D0 F7))<|.q 2<|.br (.dx 7 [0,1,2,3,4,5,6] [(3,⟨false,[],some [1000],[62],[]⟩)] []<|.q 1<|.q 1<|.q 1<|.r 1 [iV (a8+(max ((y.gr.wa:Nat):Int) 1))]<|.q 1<|.q 1<|.c (rU (k+1)) []<|.q 3<|.st (some (iV (a8+(max ((y.gr.wa:Nat):Int) 1))))<|.h (.z7 1000 (kc n a8 zs ix (y.na) ((a8+(max ((y.gr.wa:Nat):Int) 1))+(cP (k+1))) (y.kn) (y.gr.na) (y.gr.ru) (y.gr.wa) (y.tr) (y.td) g o c se (ls++[(⟨a8,a,(ab w a k).1⟩:m9)]) D1 D0 F7))<|.q 4<|.h (.z7 1000 (.agg [sV n,iV a8,.own 8 ((zs.set ix ({ y with re:=(a8+(max ((y.gr.wa:Nat):Int) 1))+(cP (k+1)) }:l6)).map aA) g o c,.ow 1 (se.map sV),.own 3 ((ls++[(⟨a8,a,(ab w a k).1⟩:m9)]).map aN) D1 D0 F7]))<|.nil) (.q 4<|.h (.z7 1000 (.agg [sV n,iV a8,.own 8 ((zs.set ix ({ y with re:=a8+(max ((y.gr.wa:Nat):Int) 1) }:l6)).map aA) g o c,.ow 1 (se.map sV),.own 3 ((ls++[(⟨a8,a,(ab w a k).1⟩:m9)]).map aN) D1 D0 F7]))<|.nil))))
  ((fun v1:Int=>(fun v2:List V=>(fun v3:V=>(fun v4:V=>(fun v5:V=>(∀ gl Oa cl:Nat,True/\Z gw 1/\True/\Z gw 0/\(qe w a k).sm/\((0<=k)/\(k<=1000))/\True/\Z gt 4/\True/\Z gt 1/\(((3,3,gl,Oa,cl,(ls.map aN).length)=(3,3,gl,Oa,cl,(ls.map aN).length))/\(V.aD v2=false)/\(aG 3 v2)/\(((ls.map aN).length+v2.length)*32<=140737488355328))/\∀ D1 D0 F7:Nat,(fun v6:V=>(fun v7:V=>((.own 3 ((ls.map aN)++v2) D1 D0 F7:V)=.own 3 ((ls++[(⟨a8,a,(ab w a k).1⟩:m9)]).map aN) D1 D0 F7)/\True/\Z gt 4/\((.agg [sV n,iV a8,.own 8 (zs.map aA) g o c,.ow 1 (se.map sV),.own 3 ((ls++[(⟨a8,a,(ab w a k).1⟩:m9)]).map aN) D1 D0 F7]:V)=kc n a8 zs ix (y.na) (y.re) (y.kn) (y.gr.na) (y.gr.ru) (y.gr.wa) (y.tr) (y.td) g o c se (ls++[(⟨a8,a,(ab w a k).1⟩:m9)]) D1 D0 F7)/\True/\Z gt 1/\True/\(V.at gt 0 v7 [2,ix,3,2]=some (g,(o+ix*8+3+2),iN (y.gr.wa)))/\(IntKind.i64=IntKind.i64)/\m8 (a8+(max v1 1))/\True/\(V.at gt 0 v7 [2,ix,1]=some (g,(o+ix*8+1),iV (y.re)))/\(V.set v7 [2,ix,1] (iV (a8+(max v1 1)))=kc n a8 zs ix (y.na) (a8+(max v1 1)) (y.kn) (y.gr.na) (y.gr.ru) (y.gr.wa) (y.tr) (y.td) g o c se (ls++[(⟨a8,a,(ab w a k).1⟩:m9)]) D1 D0 F7)/\Br (r4 ((ab w a k).1) 3) (True/\(V.at gt 0 v6 [2,ix,1]=some (g,(o+ix*8+1),iV (a8+(max v1 1))))/\m8 (k+1)/\(rU (k+1)).sm/\(True)/\m8 ((a8+(max v1 1))+(cP (k+1)))/\True/\(V.at gt 0 v6 [2,ix,1]=some (g,(o+ix*8+1),iV (a8+(max v1 1))))/\(V.set v6 [2,ix,1] (iV ((a8+(max v1 1))+(cP (k+1))))=kc n a8 zs ix (y.na) ((a8+(max v1 1))+(cP (k+1))) (y.kn) (y.gr.na) (y.gr.ru) (y.gr.wa) (y.tr) (y.td) g o c se (ls++[(⟨a8,a,(ab w a k).1⟩:m9)]) D1 D0 F7)/\((kc n a8 zs ix (y.na) ((a8+(max v1 1))+(cP (k+1))) (y.kn) (y.gr.na) (y.gr.ru) (y.gr.wa) (y.tr) (y.td) g o c se (ls++[(⟨a8,a,(ab w a k).1⟩:m9)]) D1 D0 F7:V)=.agg [sV n,iV a8,.own 8 ((zs.set ix ({ y with re:=(a8+(max v1 1))+(cP (k+1)) }:l6)).map aA) g o c,.ow 1 (se.map sV),.own 3 ((ls++[(⟨a8,a,(ab w a k).1⟩:m9)]).map aN) D1 D0 F7])/\Q v3 v3/\Er gw v5/\Qr gt (bm n a8 (zs.set ix ({ y with re:=(a8+(max v1 1))+(cP (k+1)) }:l6)) g o c se (ls++[(⟨a8,a,(ab w a k).1⟩:m9)])) gt v4) (((kc n a8 zs ix (y.na) (a8+(max v1 1)) (y.kn) (y.gr.na) (y.gr.ru) (y.gr.wa) (y.tr) (y.td) g o c se (ls++[(⟨a8,a,(ab w a k).1⟩:m9)]) D1 D0 F7:V)=.agg [sV n,iV a8,.own 8 ((zs.set ix ({ y with re:=a8+(max v1 1) }:l6)).map aA) g o c,.ow 1 (se.map sV),.own 3 ((ls++[(⟨a8,a,(ab w a k).1⟩:m9)]).map aN) D1 D0 F7])/\Q v3 v3/\Er gw v5/\Qr gt (bm n a8 (zs.set ix ({ y with re:=a8+(max v1 1) }:l6)) g o c se (ls++[(⟨a8,a,(ab w a k).1⟩:m9)])) gt v4)) (kc n a8 zs ix (y.na) (y.re) (y.kn) (y.gr.na) (y.gr.ru) (y.gr.wa) (y.tr) (y.td) g o c se (ls++[(⟨a8,a,(ab w a k).1⟩:m9)]) D1 D0 F7)) (kc n a8 zs ix (y.na) (a8+(max v1 1)) (y.kn) (y.gr.na) (y.gr.ru) (y.gr.wa) (y.tr) (y.td) g o c se (ls++[(⟨a8,a,(ab w a k).1⟩:m9)]) D1 D0 F7))) (.agg [.mp (w.map E5),.ptr (.key 1000) [] gt 0])) (bm n a8 (zs.set ix (eL y a8 (ab w a k).1 k)) g o c se (ls++[(⟨a8,a,(ab w a k).1⟩:m9)]))) (.tup [iV ((ab w a k).1),sV ((ab w a k).2)])) ([.agg [iV a8,sV a,iV ((ab w a k).1)]]:List V)) ((y.gr.wa:Nat):Int)) ?_
 subst hyy
 intro gl Oa cl
 refine⟨trivial,rfl,trivial,rfl,rfl,⟨hk.1,hk.2⟩,trivial,rfl,trivial,rfl,⟨rfl,rfl,by simp[aG,V.n,V.ns],by simp;omega⟩,?_⟩
 intro D1 D0 F7
 refine⟨congrArg (V.own 3 · D1 D0 F7) (by simp),trivial,rfl,LM (congrArg (V.own 8 · g o c) (pv (d:=e9) (by omega))),trivial,rfl,trivial,(aP (f:=2) rfl).trans (aE (aF (by omega)) rfl),rfl,by omega,trivial,(aP (f:=2) rfl).trans (aE (aF (by omega)) rfl),dq (aR (aF (by omega)) (cD (by omega))),?_⟩
 refine⟨fun j7=>?_,fun j7=>?_⟩
 try simp only[nb]at j7
 refine⟨trivial,(aP (f:=2) rfl).trans (aE (aF (by omega)) rfl),by omega,rfl,trivial,by have:=Db (k+1);omega,trivial,(aP (f:=2) rfl).trans (aE (aF (by omega)) rfl),dq (aR (aF (by omega)) (cD (by omega))),LM (congrArg (V.own 8 · g o c) (kr (f:=aA) (x:=({ (zs.getD ix e9) with re:=(a8+(max (((zs.getD ix e9).gr.wa:Nat):Int) 1))+(cP (k+1)) }:l6)) (by omega))),?_⟩
 refine⟨?_,rfl,by rw[Fm j7]⟩
 unfold Q
 rfl
 try simp only[nb]at j7
 refine⟨LM (congrArg (V.own 8 · g o c) (kr (f:=aA) (x:=({ (zs.getD ix e9) with re:=a8+(max (((zs.getD ix e9).gr.wa:Nat):Int) 1) }:l6)) (by omega))),?_⟩
 refine⟨?_,rfl,by rw[Gu j7]⟩
 unfold Q
 rfl)
end Go.Proofs.YtlclejemchbjiaaGreatDoor
namespace Go.Abs
open Go Go.RowKit
section
variable {P:Program} {w w':World} {Pb Kb:Nat->Prop} {N:Nat} {A:AS} {a:Act} {F:l9->List Nat}
theorem set_set:∀ (p:List Nat) (v x y:V),(v.set p x).set p y=v.set p y
 | [],_,_,_=>rfl
 | j::p,v,x,y=>by
   cases v with
   | agg vs=>
     simp only[V.set]
     cases h:vs[j]? with
     | none=>simp only[h]
     | some u=>
       have hj:=(List.getElem?_eq_some_iff.1 h).1
       simp only[List.getElem?_set_self hj,List.set_set,set_set p u x y]
   | own sz xs g o c=>
     simp only[V.set]
     cases h:xs[j]? with
     | none=>simp only[h]
     | some u=>
       have hj:=(List.getElem?_eq_some_iff.1 h).1
       simp only[List.getElem?_set_self hj,List.set_set,set_set p u x y]
   | _=>rfl
theorem sA:∀ (p:List Nat) {v u x:V} {g o g' o':Nat},V.at g o v p=some (g',o',u)->V.at g o (v.set p x) p=some (g',o',x)
 | [],v,u,x,g,o,g',o',h=>by
   simp only[V.at,Option.some.injEq,Prod.mk.injEq]at h ⊢
   exact⟨h.1,h.2.1,rfl⟩
 | j::p,v,u,x,g,o,g',o',h=>by
   simp only[V.at]at h
   split at h
   rename_i vs
   split at h
   rename_i y hy
   have hj:=(List.getElem?_eq_some_iff.1 hy).1
   simp only[V.set,hy,V.at,List.getElem?_set_self hj]
   rw[List.take_set_of_le (Nat.le_refl _)]
   exact sA p h
   simp at h
   rename_i sz xs g1 o1 c1
   split at h
   rename_i y hy
   have hj:=(List.getElem?_eq_some_iff.1 hy).1
   simp only[V.set,hy,V.at,List.getElem?_set_self hj]
   exact sA p h
   simp at h
   simp at h
theorem lT:∀ (xs ys:List V) {cs:List Value},RL w Pb (xs++ys) cs []->RL w Pb xs (cs.take (V.ns xs)) []/\RL w Pb ys (cs.drop (V.ns xs)) []
 | [],ys,cs,h=>⟨⟨by simp[V.ns],rfl⟩,by simpa[V.ns] using h⟩
 | x::xs,ys,cs,h=>by
   obtain⟨c1,c2,F1,F2,rfl,hF,h1,h2⟩:=h
   obtain⟨rfl,rfl⟩:=List.append_eq_nil_iff.1 hF.symm
   obtain⟨k1,k2⟩:=lT xs ys h2
   have hl:=dK x h1
   have e:V.ns (x::xs)=c1.length+V.ns xs:=by simp only[V.ns];omega
   rw[e,List.take_length_add_append,List.drop_length_add_append]
   exact⟨⟨c1,_,[],[],rfl,rfl,h1,k1⟩,k2⟩
theorem z6.same{g o:Nat}{cs:List Value}{cells:Array Value}(hb:Blk w g cells)(h:∀ j u,cs[j]? =some u->cells[o+j]? =some u):z6 w w g o cs where
 os:=rfl
 tape:=rfl
 output:=rfl
 size:=rfl
 KS:=fun _ _=>rfl
 shape:=Shp.refl _
 LI:=fun n8 J0=>by
  obtain⟨e,fr,h1,h2⟩:=hb
  obtain⟨e',T3,Pa,TY⟩:=J0
  rw[h1]at Pa
  simp only[Option.some.injEq,Obj.cells.injEq]at Pa
  obtain⟨rfl,_,_⟩:=Pa
  exact⟨cells,⟨e',T3,by rw[h1];simp_all,TY⟩,rfl,fun _ _=>rfl,h⟩
theorem s4.zE(hs:s4 N Pb Kb A a w F) {k g1 o1 sz g o c lo:Nat} {p:List Nat} {xs xs':List V} {new:List Value} (x5:A.at (.key k) p=some (g1,o1,.own sz xs g o c)) (hc:0<c) (H6:V.aD xs=false)
 (hlo:lo+new.length<=xs.length*sz) (hlen:xs'.length=xs.length) (hN:aG sz xs') (h1:∀ v,v∈new->v.oneCell'=true)
 (L3:∀ flat,RL w Pb xs flat []->RL w Pb xs' (flat.take lo++new++flat.drop (lo+new.length)) []):
 ∃ w' F',(storeCells ⟨g,o+lo,none⟩ new 0).run P w=.ok () w'/\s4 N Pb Kb (A.setAt (.key k) p (.own sz xs' g o c)) a w' F'/\w8 Kb w w':=by
 obtain⟨Fr,Fu,K0,⟨cs,cells,hb,Kh,s3⟩,hnd,u0,hfr⟩:=hs.split x5
 rcases Kh with ⟨h0,_⟩ | ⟨Pa,hsz,hle,hcs,Ve,Rw,flat,F',L7,R0,hr,j9,Rb,OM⟩
 omega
 have hF0:=fc xs H6 hr
 subst hF0
 subst R0
 have hfl:flat.length=xs.length*sz:=by rw[gW _ hr,mX _ Ve]
 have PA:xs.length*sz<=c*sz:=Nat.mul_le_mul_right _ hle
 obtain⟨w',x9,x6⟩:=fN (P:=P) (g:=g) (o:=o+lo) new 0 w L7 j9 (by omega) h1
 rw[Nat.add_zero]at x6
 have hg:=hfr g (by simp)
 have J3:s4 N Pb Kb (A.setAt (.key k) p .b9) a w' (bL F (.key k) Fr):=K0.KS (fun r=>u0 r g (by simp)) hg.1 x6.KS x6.size
 have TL:∀ x,Pb x->w'.heap[x]? =w.heap[x]? :=fun x hx=>x6.KS x (by rintro rfl;exact Rw hx)
 obtain⟨n8,J0,VU,Lc,OB⟩:=x6.LI L7 j9
 have hnl:=L3 flat hr
 have hR:R w' Pb (.own sz xs' g o c) cs [g]:=by
  refine .inr ⟨Pa,hsz,by omega,by rw[hlen];exact hcs,hN,Rw,_,[],n8,rfl,dB xs' hnl TL (by simp) (fun _ h=>h) (by simp),J0,by omega,fun j u hu=>?_⟩
  by_cases j1:j<lo
  rw[List.append_assoc,List.getElem?_append_left (by simp;omega),List.getElem?_take_of_lt j1]at hu
  rw[Lc _ (.inl (by omega))]
  exact OM j u hu
  by_cases j2:j<lo+new.length
  rw[List.append_assoc,List.getElem?_append_right (by simp;omega),List.getElem?_append_left (by simp;omega)]at hu
  have:=OB _ _ hu
  have e:(flat.take lo).length=lo:=by rw[List.length_take];omega
  rw[e,show o+lo+(j-lo)=o+j from by omega]at this
  exact this
  have e:(flat.take lo++new).length=lo+new.length:=by rw[List.length_append,List.length_take];omega
  rw[List.getElem?_append_right (by omega),e,List.getElem?_drop,show lo+new.length+(j-(lo+new.length))=j from by omega]at hu
  rw[Lc _ (.inr (by omega))]
  exact OM j u hu
 have PD:(A.setAt (.key k) p .b9).at (.key k) p=some (g1,o1,.b9):=by
  simp only[AS.at]at x5
  split at x5
  rename_i g0 t hk
  simp only[AS.setAt,hk,AS.at,lk,if_true]
  exact sA p x5
  simp at x5
 have O7:g1≠g:=by
  have hh:=PD
  simp only[AS.at]at hh
  split at hh
  rename_i g0 t hk
  obtain⟨KH,e,hA⟩:=K0.root k g0 t hk
  have hin:g1∈bL F (.key k) Fr (.key k):=by
   rw[e]
   rcases fR p hA hh with ⟨h,_⟩ | h
   rw[h];simp
   simp[h]
  rintro rfl
  exact u0 (.key k) g1 (by simp) hin
  simp at hh
 have UD:z6 w' w' g1 o1 cs:=by
  obtain⟨e,fr,Te,hf⟩:=hb
  exact z6.same (cells:=cells) ⟨e,fr,(x6.KS g1 O7).trans Te,hf⟩ s3
 obtain⟨F3,Kr,_⟩:=J3.store PD hR (by rfl) hnd (fun r x hx=>u0 r x hx) (fun x hx=>by rw[x6.size];exact hfr x hx) UD
 refine⟨w',F3,x9,Kr.eqv ⟨fun i=>?_,fun q=>?_⟩,⟨x6.os,x6.tape,x6.output,by rw[x6.size];omega,fun x hx=>x6.KS x (by rintro rfl;exact hg.1 hx),x6.shape⟩⟩
 simp only[AS.at]at x5
 split at x5
 rename_i g0 t hk
 simp only[AS.setAt,hk,lk,if_true];rfl
 simp at x5
 simp only[AS.at]at x5
 split at x5
 rename_i g0 t hk
 simp only[AS.setAt,hk,lk,if_true,set_set]
 split <;> rfl
 simp at x5
end
end Go.Abs
namespace Go.Abs
open Go Go.RowKit
section
variable {P:Program} {w w':World} {Pb Kb:Nat->Prop} {N:Nat} {A:AS} {a:Act} {F:l9->List Nat}
theorem GC{zc:Array Value}(h:0<zc.size)(n:Nat):(Builtin.zeroCells zc (n+1)).toList=zc.toList++(Builtin.zeroCells zc n).toList:=by
 apply List.ext_getElem
 simp[Builtin.zeroCells,Nat.add_mul];omega
 intro i h1 h2
 by_cases hi:i<zc.size
 rw[List.getElem_append_left (by simpa using hi)]
 simp[Builtin.zeroCells,Nat.mod_eq_of_lt hi,hi]
 rw[List.getElem_append_right (by simpa using hi)]
 simp only[Builtin.zeroCells,Array.getElem_toList,Array.getElem_map,Array.getElem_range,Array.length_toList]
 rw[Nat.mod_eq_sub_mod (by omega)]
theorem zU{v:V}{zc:Array Value}(h:0<zc.size)(hr:R w Pb v zc.toList []):∀ n,RL w Pb (List.replicate n v) (Builtin.zeroCells zc n).toList []
 | 0=>⟨by simp[Builtin.zeroCells],rfl⟩
 | n+1=>by
   rw[GC h,List.replicate_succ]
   exact⟨_,_,[],[],rfl,rfl,hr,zU h hr n⟩
theorem AY{zc:Array Value}(n:Nat):(Builtin.zeroCells zc n).toList.length=n*zc.size:=by simp[Builtin.zeroCells]
theorem Hn{v:V}{zc:Array Value}(h:0<zc.size)(hr:R w Pb v zc.toList [])(n:Nat):∀ x,x∈(Builtin.zeroCells zc n).toList->x.oneCell'=true:=pD _ (zU h hr n)
theorem sv:∀ (xs:List V) (k:Nat),V.aD xs=false->V.aD (xs.take k)=false
 | xs,0,h=>by simp[V.aD]
 | [],k+1,h=>by simpa using h
 | v::vs,k+1,h=>by
   simp only[V.aD,Bool.or_eq_false_iff]at h
   simp only[List.take_succ_cons,V.aD,Bool.or_eq_false_iff]
   exact⟨h.1,sv vs k h.2⟩
def Wj(k:Nat)(p:List Nat)(lo n sz:Nat)(xs:List V)(g q c g1 o1:Nat)(z:ZT P):Cu P where
 X:=Unit
 pre _ o A:=match o.op,o.dst with
  | .call ⟨.builtin .clear,⟨[x]⟩,⟨[T]⟩⟩,none=>match tD P T,A.ev x with
    | some (.sl e),.hd r p' I2 g' o' Kv n' _=>((e,r,p',I2,g',o',Kv,n')=(z.T,l9.key k,p,sz,g,q,lo,n))/\A.at (.key k) p=some (g1,o1,.own sz xs g q c)/\lo+n<=xs.length/\V.aD xs=false/\aG sz xs/\z.v.n=sz
    | _,_=>False
  | _,_=>False
 post _ _ A:=A.setAt (.key k) p (.own sz (xs.take lo++List.replicate n z.v++xs.drop (lo+n)) g q c)
 ok:=by
  rintro N ⟨dst,op,ty,pos,after,C4⟩ A K-hp hK
  replace hK:=hK ()
  simp only at hp
  split at hp
  rename_i x T
  split at hp
  rename_i e r p' I2 g' o' Kv n' c' e1 e2
  obtain⟨h1,x5,hlo,H6,hN,Sy⟩:=hp
  simp only[Prod.mk.injEq]at h1
  obtain⟨rfl,rfl,rfl,rfl,rfl,rfl,rfl,rfl⟩:=h1
  intro Pb Kb a w F Q hs
  obtain⟨_,hx⟩:=df hs x
  rw[e2]at hx
  obtain⟨_,hle,B,hv,hB⟩:=hx
  have hv:a.eval x=.slice B n' c':=(List.cons.inj hv).1
  have hu:=gG e1
  unfold Oper.wp
  by_cases hn:n'=0
  subst hn
  have x9:(execOp a.eval ⟨none,.call ⟨.builtin .clear,⟨[x]⟩,⟨[T]⟩⟩,ty,pos,after,C4⟩).run P w=.ok (.value (.tuple #[])) w:=by
   cases B <;> simp[execOp,resolve,Deferred.ofValue,invoke,builtin,Builtin.clear_,hv,aC hu]
  rw[x9,Oper.upon_value]
  obtain⟨cu,Fu,q1,q2⟩:=hs.qp x5
  have:=q2 _ rfl q1
  have t2:s4 N Pb Kb (A.setAt (.key k) p' (.own I2 (xs.take Kv++List.replicate 0 z.v++xs.drop (Kv+0)) g' o' c)) a w F:=by simpa using this
  exact⟨_,Pb,Kb,F,hK,t2,fun _ h=>h,fun _ h=>h,fun _ h=>.inl h,w8.refl _ _⟩
  obtain rfl:=hB (by omega)
  obtain⟨inf,zv,z1,z2,z3⟩:=z.ok
  have RQ:R w Pb z.v zv.cells.toList []:=pG z.v z3
  have Sz:zv.cells.size=z.v.n:=by have:=dK _ RQ;simpa using this
  obtain⟨Fr,Fu,_,⟨cs,cells,_,Kh,_⟩,_⟩:=hs.split x5
  have hc:0<c/\0<z.v.n:=by
   rcases Kh with ⟨_,rfl,_⟩ | ⟨h,h2,_⟩
   simp at hlo;omega
   exact⟨h,by rw[Sy];exact h2⟩
  have e9:0<zv.cells.size:=by rw[Sz];exact hc.2
  have OA:n'*zv.cells.size=n'*I2:=by rw[Sz,Sy]
  have U9:Kv*I2+n'*I2<=xs.length*I2:=by rw[<- Nat.add_mul];exact Nat.mul_le_mul_right _ hlo
  obtain⟨w',F',x9,x7,hk⟩:=hs.zE (P:=P) (lo:=Kv*I2) (xs':=xs.take Kv++List.replicate n' z.v++xs.drop (Kv+n')) (new:=(Builtin.zeroCells zv.cells n').toList) x5 hc.1 H6 (by rw[AY,OA];exact U9)
   (by simp;omega) (fun v hv=>by
    rcases List.mem_append.1 hv with h | h
    rcases List.mem_append.1 h with h | h
    exact hN v (List.mem_of_mem_take h)
    rw[(List.mem_replicate.1 h).2,Sy]
    exact hN v (List.mem_of_mem_drop h)) (Hn e9 RQ n') (fun flat hf=>by
    have k1:=(lT (xs.take Kv) (xs.drop Kv) (cs:=flat) (by rw[List.take_append_drop];exact hf)).1
    have k2:=(lT (xs.take (Kv+n')) (xs.drop (Kv+n')) (cs:=flat) (by rw[List.take_append_drop];exact hf)).2
    rw[du xs Kv hN (by omega)]at k1
    rw[du xs _ hN hlo,Nat.add_mul]at k2
    rw[AY,OA]
    exact gM _ _ (gM _ _ k1 (zU e9 RQ n')) k2)
  have Mx:(execOp a.eval ⟨none,.call ⟨.builtin .clear,⟨[x]⟩,⟨[T]⟩⟩,ty,pos,after,C4⟩).run P w=.ok (.value (.tuple #[])) w':=by
   have hcl:(Builtin.clear_ #[T] ty #[a.eval x]).run P w=.ok (.tuple #[]) w':=by
    rw[hv]
    unfold Builtin.clear_
    simp only[List.getElem?_toArray,List.getElem?_cons_zero,Sem.run_bind,aC hu,Result.andThen_ok]
    obtain⟨m,rfl⟩:∃ m,n'=m+1:=⟨n'-1,by omega⟩
    simp only[Sem.run_bind,zeroValue,typeInfo,Result.andThen_ok]
    simp[z1,z2,x9]
   simp[execOp,resolve,Deferred.ofValue,invoke,builtin,hcl]
  rw[Mx,Oper.upon_value]
  exact⟨_,Pb,Kb,F',hK,x7,fun _ h=>h,fun _ h=>h,fun _ h=>.inl h,hk⟩
  exact hp.elim
  exact hp.elim
def saC(k:Nat)(p:List Nat)(lo n sz:Nat)(xs:List V)(g q c g1 o1:Nat):Cu P where
 X:=Unit
 pre N o A:=match o.op,o.dst with
  | .call ⟨.builtin .append,⟨[s,x]⟩,⟨[T,T2]⟩⟩,some d=>match o.type==T&&Nat.blt d N,lA P T T2 with
    | true,some t=>match A.ev x with
      | .hd r p' I2 g' q' Kv n' c'=>((r,p',I2,g',q',Kv,n')=(l9.key k,p,sz,g,q,lo,n))/\A.ev s=.hd (.key k) p sz g q 0 0 c/\A.at (.key k) p=some (g1,o1,.own sz xs g q c)/\sz=t.sz/\0<xs.length/\lo+n<=xs.length/\V.aD xs=false/\aG sz xs/\c'=c'
      | _=>False
    | _,_=>False
  | _,_=>False
 post _ o A:=(A.setAt (.key k) p (.own sz ((xs.drop lo).take n++xs.drop n) g q c)).put o.dst (.hd (.key k) p sz g q 0 n c)
 ok:=by
  rintro N ⟨dst,op,ty,pos,after,C4⟩ A K-hp hK
  replace hK:=hK ()
  simp only at hp
  split at hp
  rename_i s x T T2 d
  split at hp
  rename_i t e1 e2
  split at hp
  rename_i r p' I2 g' q' Kv n' c' e3
  obtain⟨h1,es,x5,hsz,h0,hlo,H6,hN,_⟩:=hp
  simp only[Prod.mk.injEq]at h1
  obtain⟨rfl,rfl,rfl,rfl,rfl,rfl,rfl⟩:=h1
  simp only[Bool.and_eq_true,beq_iff_eq]at e1
  obtain⟨e,e',q1,q2,q3,q4,q5,q6⟩:=gZ e2
  subst hsz
  intro Pb Kb a w F Q hs
  obtain⟨_,hx⟩:=df hs s
  rw[es]at hx
  obtain⟨_,hle,B,hv,hB⟩:=hx
  have hv:a.eval s=.slice B 0 c:=(List.cons.inj hv).1
  have hrd:LZ A x=some (((t.sz=t.sz/\g'=g'/\q'=q')/\Kv+n'<=xs.length/\V.aD xs=false/\aG t.sz xs),(xs.drop Kv).take n'):=by
   unfold LZ
   rw[e3]
   show (match A.at (.key k) p' with | some (_,_,u)=>ju Kv n' t.sz g' q' u | none=>none)=_
   rw[x5]
   rfl
  have OQ:aG t.sz ((xs.drop Kv).take n'):=fun v hv=>hN v (List.mem_of_mem_drop (List.mem_of_mem_take hv))
  have Rj:V.aD ((xs.drop Kv).take n')=false:=sv _ _ (nQ _ _ H6)
  obtain⟨B2,c2,A7,LQ,Ko,MD,hl2⟩:=lF (P:=P) hs hrd ⟨⟨rfl,rfl,rfl⟩,hlo,H6,hN⟩ OQ Rj
  have hyl:((xs.drop Kv).take n').length=n':=by simp;omega
  rw[hyl]at hl2 LQ MD
  obtain⟨Fr,Fu,_,⟨cs,cells,_,Kh,_⟩,_⟩:=hs.split x5
  have hc:0<c/\xs.length<=c:=by
   rcases Kh with ⟨_,rfl,_⟩ | ⟨h,_,h2,_⟩
   simp at h0
   exact⟨h,h2⟩
  obtain rfl:=hB hc.1
  have U9:n'*t.sz<=xs.length*t.sz:=Nat.mul_le_mul_right _ (by omega)
  obtain⟨w',F',x9,x7,hk⟩:=hs.zE (P:=P) (lo:=0) (xs':=(xs.drop Kv).take n'++xs.drop n') (new:=A7) x5 hc.1 H6 (by rw[hl2];omega)
   (by simp;omega) (fun v hv=>by
    rcases List.mem_append.1 hv with h | h
    exact OQ v h
    exact hN v (List.mem_of_mem_drop h)) (pD _ Ko) (fun flat hf=>by
    have k2:=(lT (xs.take n') (xs.drop n') (cs:=flat) (by rw[List.take_append_drop];exact hf)).2
    rw[du xs _ hN (by omega)]at k2
    rw[hl2,List.take_zero,List.nil_append,Nat.zero_add]
    exact gM _ _ Ko k2)
  have Mx:(execOp a.eval ⟨some d,.call ⟨.builtin .append,⟨[s,x]⟩,⟨[T,T2]⟩⟩,ty,pos,after,C4⟩).run P w=.ok (.value (.slice (some ⟨g',q'+0*t.sz,none⟩) n' c)) w':=by
   have NQ:(Builtin.append_ #[T,T2] ty #[a.eval s,a.eval x]).run P w=.ok (.slice (some ⟨g',q'+0*t.sz,none⟩) n' c) w':=by
    have MA:(Builtin.lenOf (a.eval x)).run P w=.ok n' w:=by rw[LQ];rfl
    rw[hv]
    unfold Builtin.append_
    simp only[List.getElem?_toArray,List.getElem?_cons_zero,List.getElem?_cons_succ,Sem.run_bind,aC (gG q1),Result.andThen_ok]
    simp only[ct q3,Result.andThen_ok]
    simp only[aC (gG q2),Result.andThen_ok,Sem.run_pure]
    rw[if_neg (show ¬ (false=true) by decide)]
    rw[Sem.run_bind,MA]
    simp only[Result.andThen_ok]
    rw[if_pos (by omega)]
    simp only[Sem.run_bind,Bool.not_false,if_true,MD w (fun _=>rfl),Result.andThen_ok]
    simp only[dr,Nat.zero_mul,Nat.add_zero]at x9 ⊢
    rw[x9]
    simp
   have e:((⟨[s,x]⟩:Array Operand).map a.eval)= #[a.eval s,a.eval x]:=by simp
   simp only[execOp,resolve,invoke,builtin,Sem.run_bind,Sem.run_pure,Result.andThen_ok,e,NQ]
  obtain⟨F2,J3⟩:=x7.ou (d:=some d) (v:=.hd (.key k) p' t.sz g' q' 0 n' c) (x:=.slice (some ⟨g',q'+0*t.sz,none⟩) n' c) (bn e1.2) ⟨rfl,by omega,_,rfl,fun _=>rfl⟩
  unfold Oper.wp
  rw[Mx,Oper.upon_value]
  exact⟨_,Pb,Kb,F2,hK,J3,fun _ h=>h,fun _ h=>h,fun _ h=>.inl h,hk⟩
  exact hp.elim
  exact hp.elim
  exact hp.elim
def VA(k:Nat)(p:List Nat)(n sz:Nat)(xs:List V)(g q c g1 o1:Nat):Cu P where
 X:=Unit
 pre _ o A:=match o.op,o.dst with
  | .store T x y,none=>match ti P T,A.ev y with
    | some i,.hd r p' I2 g' q' Kv n' c'=>((r,p',I2,g',q',Kv,n',c')=(l9.key k,p,sz,g,q,0,n,c))/\A.ev x=.ptr (.key k) p g1 o1/\A.at (.key k) p=some (g1,o1,.own sz xs g q c)/\i.sz=1/\n<=xs.length/\V.aD xs=false
    | _,_=>False
  | _,_=>False
 post _ _ A:=A.setAt (.key k) p (.own sz (xs.take n) g q c)
 ok:=by
  rintro N ⟨dst,op,ty,pos,after,C4⟩ A K-hp hK
  replace hK:=hK ()
  simp only at hp
  split at hp
  rename_i T x y
  split at hp
  rename_i i r p' I2 g' q' Kv n' c' e1 e2
  obtain⟨h1,ex,x5,hi,hn,H6⟩:=hp
  simp only[Prod.mk.injEq]at h1
  obtain⟨rfl,rfl,rfl,rfl,rfl,rfl,rfl,rfl⟩:=h1
  intro Pb Kb a w F Q hs
  obtain⟨_,hx⟩:=df hs y
  rw[e2]at hx
  obtain⟨_,hle,B,hv,hB⟩:=hx
  have hv:a.eval y=.slice B n' c':=(List.cons.inj hv).1
  obtain⟨_,Qp⟩:=df hs x
  rw[ex]at Qp
  have hp:a.eval x=.pointer (some ⟨g1,o1,none⟩):=by have:=Qp.2;simpa using this
  obtain⟨Fr,Fu,K0,⟨cs,cells,hb,Kh,s3⟩,hnd,u0,hfr⟩:=hs.split x5
  have hR:R w Pb (.own I2 (xs.take n') g' q' c') [a.eval y] Fu:=by
   rw[hv]
   rcases Kh with ⟨rfl,rfl,rfl,A0,_⟩ | ⟨Pa,hsz,hlx,hcs,Ve,Rw,flat,F',L7,R0,hr,j9,Rb,OM⟩
   have:n'=0:=by simpa using hn
   subst this
   exact .inl ⟨rfl,rfl,rfl,B,rfl⟩
   have hF0:=fc xs H6 hr
   subst hF0
   obtain rfl:=hB Pa
   have hl:(xs.take n').length=n':=by rw[List.length_take];omega
   refine .inr ⟨Pa,hsz,by omega,by rw[hl,Nat.zero_mul,Nat.add_zero],fun v hv=>Ve v (List.mem_of_mem_take hv),Rw,flat.take (V.ns (xs.take n')),[],L7,R0,?_,j9,Rb,fun j u hu=>OM j u ?_⟩
   exact(lT (xs.take n') (xs.drop n') (cs:=flat) (by rw[List.take_append_drop];exact hr)).1
   rw[List.getElem?_take]at hu
   split at hu
   exact hu
   simp at hu
  have PD:(A.setAt (.key k) p' .b9).at (.key k) p'=some (g1,o1,.b9):=by
   simp only[AS.at]at x5
   split at x5
   rename_i g0 t hk
   simp only[AS.setAt,hk,AS.at,lk,if_true]
   exact sA p' x5
   simp at x5
  have hcs:cs.length=1:=dK _ Kh
  obtain⟨w',x9,x6⟩:=fN (P:=P) (g:=g1) (o:=o1) [a.eval y] 0 w cells hb (by
   have:cs[0]? =some (cs[0]'(by omega)):=List.getElem?_eq_getElem (by omega)
   have:=(Array.getElem?_eq_some_iff.1 (s3 0 _ this)).1
   simp only[List.length_cons,List.length_nil];omega) (fun v h=>by rw[List.mem_singleton.1 h,hv];rfl)
  rw[Nat.add_zero]at x6
  have Mx:(execOp a.eval ⟨none,.store T x y,ty,pos,after,C4⟩).run P w=.ok .skip w':=by
   have K1:(a.eval y).cells= #[a.eval y]:=by rw[hv];rfl
   have hsz:(a.eval y).cells.size=i.sz:=by rw[K1,hi];rfl
   have SQ:(storeCells ⟨g1,o1,none⟩ (a.eval y).cells.toList 0).run P w=.ok () w':=by rw[K1];exact x9
   simp only[execOp,Instr.storeAt,hp,Instr.sureAddr,Sem.run_bind,Sem.run_pure,Result.andThen_ok,storeVar,ct e1,hsz,ne_eq,not_true_eq_false,if_false,SQ]
  obtain⟨F2,J3,hg⟩:=K0.store PD hR (by rfl) hnd u0 hfr x6
  have Kr:s4 N Pb Kb (A.setAt (.key k) p' (.own I2 (xs.take n') g' q' c')) a w' F2:=by
   simp only[AS.at]at x5
   split at x5
   rename_i g0 t hk
   refine J3.eqv ⟨fun i=>?_,fun q=>?_⟩
   simp only[AS.setAt,hk,lk,if_true];rfl
   simp only[AS.setAt,hk,lk,if_true,set_set]
   split <;> rfl
   simp at x5
  unfold Oper.wp
  rw[Mx,Oper.upon_skip]
  exact⟨_,Pb,Kb,F2,hK,Kr,fun _ h=>h,fun _ h=>h,fun _ h=>.inl h,⟨x6.os,x6.tape,x6.output,by rw[x6.size];omega,fun x hx=>x6.KS x (fun c=>hg (c ▸ hx)),x6.shape⟩⟩
  exact hp.elim
  exact hp.elim
end
end Go.Abs
namespace Go.Abs
open Go Go.RowKit
theorem FO{xs ys:List V}{j sz g o c:Nat}{x x' v:V}{p:List Nat}(h:xs[j]? =some x)(hx:V.set x p v=x')(e:xs.set j x'=ys):V.set (.own sz xs g o c) (j::p) v=.own sz ys g o c:=by simp only[V.set,h,hx,e]
section
variable {P:Program}
def sdC(n:Nat)(l h m:Int):Cu P where
 X:=Unit
 pre N o A:=match o.op,o.dst with
  | .slice T x (some lo) (some hi) (some mx),some d=>match tD P T,Nat.blt d N with
    | some (.sl e),true=>match ti P e,A.ev x with
      | some _,.hd _ _ _ _ _ _ n' _=>A.ev lo=.lit (.int .i64 l)/\A.ev hi=.lit (.int .i64 h)/\A.ev mx=.lit (.int .i64 m)/\n'=n/\0<=l/\l<=h/\h<=m/\m<=n
      | _,_=>False
    | _,_=>False
  | _,_=>False
 post _ o A:=A.put o.dst .b9
 ok:=by
  rintro N ⟨dst,op,ty,pos,after,C4⟩ A K-hp hK
  replace hK:=hK ()
  simp only at hp hK
  split at hp
  rename_i T x lo hi mx d
  split at hp
  rename_i e e1 e2
  split at hp
  rename_i t r p sz g q Kv n' c e3 e4
  obtain⟨h1,h2,h3,rfl,k1,k2,k3,k4⟩:=hp
  refine fK (v:=.b9) rfl (bn e2) hK fun Pb Kb a w F hs=>?_
  obtain⟨_,hx⟩:=df hs x
  rw[e4]at hx
  obtain⟨_,hle,B,hv,hB⟩:=hx
  have hv:a.eval x=.slice B n' c:=(List.cons.inj hv).1
  have b1:=bJ hs h1
  have b2:=bJ hs h2
  have b3:=bJ hs h3
  refine⟨.slice (if m.toNat=l.toNat then B else B.map (·.add (l.toNat*t.sz))) (h.toNat-l.toNat) (m.toNat-l.toNat),?_,rfl⟩
  have q1:(Instr.sliceBounds true n' c (some (.int .i64 l)) (some (.int .i64 h)) (some (.int .i64 m))).run P w=.ok (l.toNat,h.toNat,m.toNat) w:=by
   simp only[Instr.sliceBounds,Instr.sliceBound,asIntOf,Sem.run_bind,Sem.run_pure,Result.andThen_ok]
   rw[if_pos (by omega)]
   simp only[Sem.run_pure,Result.andThen_ok]
   rw[if_pos (by omega)]
   simp only[Sem.run_pure,Result.andThen_ok]
   rw[if_pos (by omega)]
   simp only[Sem.run_pure,Result.andThen_ok]
  simp only[execOp,Option.map_some,Instr.sliceAt,Instr.slice,Sem.run_bind,aC (gG e1),Result.andThen_ok,hv,b1,b2,b3,q1,ct e3,Sem.run_pure]
  exact hp.elim
  exact hp.elim
  exact hp.elim
def sbC(k:Nat)(p:List Nat)(sz:Nat)(xs:List V)(g q c n g1 o1:Nat)(l h:Nat):Cu P where
 X:=Unit
 pre N o A:=match o.op,o.dst with
  | .slice T x (some lo) (some hi) none,some d=>match tD P T,Nat.blt d N with
    | some (.sl e),true=>match ti P e with
      | some t=>A.ev x=.hd (.key k) p sz g q 0 n c/\A.at (.key k) p=some (g1,o1,.own sz xs g q c)/\A.ev lo=.lit (.int .i64 (l:Int))/\A.ev hi=.lit (.int .i64 (h:Int))/\sz=t.sz/\l<=h/\h<=xs.length
      | none=>False
    | _,_=>False
  | _,_=>False
 post _ o A:=A.put o.dst (.hd (.key k) p sz g q l (h-l) (c-l))
 ok:=by
  rintro N ⟨dst,op,ty,pos,after,C4⟩ A K-hp hK
  replace hK:=hK ()
  simp only at hp hK
  split at hp
  rename_i T x lo hi d
  split at hp
  rename_i e e1 e2
  split at hp
  rename_i t e3
  obtain⟨ex,x5,h1,h2,hsz,k1,k2⟩:=hp
  subst hsz
  refine fK (v:=.hd (.key k) p t.sz g q l (h-l) (c-l)) rfl (bn e2) hK fun Pb Kb a w F hs=>?_
  obtain⟨_,hx⟩:=df hs x
  rw[ex]at hx
  obtain⟨_,hle,B,hv,hB⟩:=hx
  have hv:a.eval x=.slice B n c:=(List.cons.inj hv).1
  have b1:=bJ hs h1
  have b2:=bJ hs h2
  obtain⟨_,cs,cells,_,Kh,_⟩:=iu hs x5
  have hc:xs.length<=c:=by
   rcases Kh with ⟨_,rfl,_⟩ | ⟨_,_,h,_⟩
   simp
   exact h
  refine⟨.slice (if c=l then B else B.map (·.add (l*t.sz))) (h-l) (c-l),?_,rfl,by omega,_,rfl,fun h0=>?_⟩
  have q1:(Instr.sliceBounds true n c (some (.int .i64 (l:Int))) (some (.int .i64 (h:Int))) none).run P w=.ok (l,h,c) w:=by
   simp only[Instr.sliceBounds,Instr.sliceBound,asIntOf,Sem.run_bind,Sem.run_pure,Result.andThen_ok]
   rw[if_pos (by omega)]
   simp only[Sem.run_pure,Result.andThen_ok]
   rw[if_pos (by omega)]
   simp only[Sem.run_pure,Result.andThen_ok,Int.toNat_natCast]
  simp only[execOp,Option.map_some,Option.map_none,Instr.sliceAt,Instr.slice,Sem.run_bind,aC (gG e1),Result.andThen_ok,hv,b1,b2,q1,ct e3,Sem.run_pure]
  rw[if_neg (by omega),hB (by omega)]
  simp[dr]
  exact hp.elim
  exact hp.elim
  exact hp.elim
def mfE:Eu P where
 X:=Unit
 pre N o A Sl _:=match o.op,o.dst with
  | .makeFunc fn first w7,some d=>match Nat.blt d N&&Sl.contains d,hY (first.toList.map A.ev),hY (w7.toList.map A.ev) with
    | true,some l1,some l2=>(Value.func fn l1.toArray l2.toArray).oneCell'=true
    | _,_,_=>False
  | _,_=>False
 U o A _ B:=match o.op,o.dst with
   | .makeFunc fn first w7,some d=>match hY (first.toList.map A.ev),hY (w7.toList.map A.ev) with
     | some l1,some l2=>B.put (some d) (.lit (.func fn l1.toArray l2.toArray))
     | _,_=>B
   | _,_=>B
 So:=by
  rintro N ⟨dst,op,ty,pos,after,C4⟩ A Sl Hl hp fs
  simp only at hp
  split at hp
  rename_i fn first w7 d
  split at hp
  rename_i l1 l2 e1 e2 e3
  simp only[Bool.and_eq_true,List.contains_eq_mem,decide_eq_true_eq]at e1
  simp only[e2,e3]
  exact yx (v:=fun _:Unit=>.lit (.func fn l1.toArray l2.toArray)) e1.2 fs
  exact hp.elim
  exact hp.elim
 ok:=by
  rintro N ⟨dst,op,ty,pos,after,C4⟩ A A' Sl Hl hg hp hA hR
  simp only at hp
  split at hp
  rename_i fn first w7 d
  split at hp
  rename_i l1 l2 e1 e2 e3
  simp only[Bool.and_eq_true]at e1
  have q1:first.toList.map A'.ev=first.toList.map A.ev:=List.map_congr_left fun x hx=>bg fun t ht=>hA t (by subst ht;simp[Op.operands];left;simpa using hx)
  have q2:w7.toList.map A'.ev=w7.toList.map A.ev:=List.map_congr_left fun x hx=>bg fun t ht=>hA t (by subst ht;simp[Op.operands];right;simpa using hx)
  refine(Qa (P:=P)).ok hg ?_ fun _=>⟨(),?_⟩
  simp only[Qa,q1,q2,e1.1,e2,e3];exact hp
  simp only[Qa,q1,q2,e2,e3]
  exact hp.elim
  exact hp.elim
end
end Go.Abs
namespace Go.Pd
open Go.Abs
theorem GV(s:BL):gQ s 20<=20:=by
 have key:∀ (l:BL) (n:Int),n<=20->l.foldl (iv 20) n<=20:=fun l=>by
  induction l with
  | nil=>exact fun n h=>h
  | cons c l ih=>exact fun n _=>ih _ (by unfold iv;omega)
 unfold gQ
 split
 exact key s 0 (by omega)
 omega
def lJ(gs:List l5):Prop:= ∀ y,y∈gs->y.wa<=20
theorem lJ.set{gs:List l5}{f:l5->l5}(h:lJ gs)(hf:∀ z,gs.getLast? =some z->(f z).wa<=20):lJ (ef gs f):=by
 by_cases hn:gs=[]
 subst hn;simp[ef,lJ]
 obtain⟨⟨l,z⟩,rfl⟩:=nf hn
 rw[iD]
 intro y hy
 rcases List.mem_append.1 hy with hy | hy
 exact h y (by simp[hy])
 rw[List.mem_singleton.1 hy];exact hf z (by simp)
theorem Fz{gs:List l5}{w d:BL}{b:Bool}(h:lJ gs):lJ (mE gs w d b).1:=by
 have hl:∀ z,gs.getLast? =some z->z.wa<=20:=fun z hz=>h z (List.mem_of_getLast? hz)
 unfold mE
 split
 split
 intro y hy
 rcases List.mem_append.1 hy with hy | hy
 exact h y hy
 rw[List.mem_singleton.1 hy];simp
 exact h.set fun z hz=>hl z hz
 split
 exact h
 split
 exact h.set fun z hz=>hl z hz
 split
 exact h.set fun z hz=>by have:=GV d;simp only;omega
 exact h
theorem CM(t:BL):lJ (cL t):=by
 have:∀ (l:List BL) (x:List l5×Bool),lJ x.1->lJ (l.foldl fU x).1:=by
  intro l
  induction l with
  | nil=>exact fun x h=>h
  | cons a l ih=>exact fun x h=>ih _ (Fz h)
 exact this _ _ (by intro y hy;simp at hy)
theorem Fc(n:BL):∀ (gs:List l5) {x:(List s8×Nat)×Bool},x.1.2<=20->lJ gs->(gs.foldl (dM n) x).1.2<=20
 | [],x,h,_=>h
 | g::gs,x,h,h2=>by
   refine Fc n gs ?_ (fun y hy=>h2 y (by simp[hy]))
   unfold dM
   split
   have:=h2 g (by simp);simp only;omega
   exact h
theorem zh{gs:List l5}(n:BL)(h:lJ gs):(gP gs n).wa<=20:=by
 have key:∀ q,(Pn gs q).1.wa<=20:=fun q=>Fc q gs (by simp) h
 unfold gP
 split <;> exact key _
theorem yG(k:Int)(t n:BL):(ah k t n).wa<=20:=by
 unfold ah
 split
 exact zh n (CM t)
 split
 simp
 exact zh n (fun y hy=>by simp at hy)
def LO(ru:List s8)(x:w3):Bool:=aI x.ad&&dP ru (pathOf x.ad)
def KX(y:l6)(s:BL):Bool:=aI s&&dP y.gr.ru (pathOf s)
def KL(y:l6)(x:w3):Bool:=KX y x.ad
def J4(y:l6)(l:List w3):Int:=if (l.findIdx fun x=>!(KX y x.ad))<l.length then ((l.findIdx fun x=>!(KX y x.ad):Nat):Int) else -1
def cM(w:List Pg)(n d:BL):l5:=⟨[n],(ah (ab w (ae d) 2).1 (ab w (ae d) 2).2 n).ru,(ah (ab w (ae d) 2).1 (ab w (ae d) 2).2 n).wa⟩
def o6(w:List Pg)(y:l6)(a8:Int):l6:=eL y a8 (ab w (ae y.na) y.tr).1 y.tr
def Oc(w:List Pg)(n:BL)(y:l6)(a8:Int):l6:=
 if (ab w (ae y.na) y.tr).1=3/\y.tr+1<3 then { o6 w y a8 with tr:=y.tr+1 }
 else { o6 w y a8 with kn:=true,gr:=cM w n y.na,re:=max (o6 w y a8).re (a8+((cM w n y.na).wa:Int)),td:=y.td.filter (LO (cM w n y.na).ru) }
def E2(w:List Pg)(y:l6)(a8:Int):l6:=eL { y with td:=y.td.drop 1 } a8 (ab w (y.td.getD 0 k9).ad (y.td.getD 0 k9).tr).1 (y.td.getD 0 k9).tr
def Sv(w:List Pg)(t:m5)(i:Nat):m5:=
 { t with hs:=t.hs.set i (Oc w t.na (t.hs.getD i e9) t.a8),lk:=t.lk++[⟨t.a8,ae (t.hs.getD i e9).na,(ab w (ae (t.hs.getD i e9).na) (t.hs.getD i e9).tr).1⟩] }
def Lw(w:List Pg)(t:m5)(i:Nat):m5:=
 let y:=t.hs.getD i e9
 let it:=y.td.getD 0 k9
 let g:=ab w it.ad it.tr
 let t1:m5:={ t with hs:=t.hs.set i (E2 w y t.a8),lk:=t.lk++[⟨t.a8,it.ad,g.1⟩] }
 if g.1=3/\it.tr+1<3 then { t1 with hs:=t.hs.set i { E2 w y t.a8 with td:=y.td.drop 1++[⟨it.ad,it.tr+1⟩] } }
 else if aI it.ad=true then (Cr it.ad g.1 g.2).foldl aV t1 else t1
theorem np(l:List BL):∀ t:m5,(l.foldl aV t).na=t.na/\(l.foldl aV t).a8=t.a8/\(l.foldl aV t).lk=t.lk:=by
 induction l with
 | nil=>exact fun t=>⟨rfl,rfl,rfl⟩
 | cons a l ih=>exact fun t=>ih (aV t a)
structure HS (m:Nat) (y:l6):Prop where
 n:y.na.length<=1000
 r:y.gr.ru.length<=1000
 rp:∀ i,(y.gr.ru.getD i ⟨false,[]⟩).path.length<=1000
 w:y.gr.wa<=1000
 t:y.td.length+60<=1000+m
 ta:∀ x,x∈y.td->x.ad.length<=1000/\m6 x.ad/\0<=x.tr/\x.tr<=1000
 k:0<=y.tr/\y.tr<=1000
theorem HS.mono{m k:Nat}{y:l6}(h:HS m y)(hm:m<=k):HS k y:=⟨h.n,h.r,h.rp,h.w,by have:=h.t;omega,h.ta,h.k⟩
structure TS (t:m5):Prop where
 s:t.se.length<=60
 h:t.hs.length+60<=1000+t.se.length
 sa:∀ x,x∈t.se->x.length<=1000/\m6 x
 ha:∀ y,y∈t.hs->HS t.se.length y
theorem GA{t:m5}{s:BL}(h:TS t)(hn:t.na.length<=1000)(hs:s.length<=1000)(hc:m6 s)(hd:(av s).length<=1000):TS (aV t s):=by
 have e1:(aV t s).se=dZ t.se s:=rfl
 have e2:(aV t s).hs=bS t.na t.hs t.se s:=rfl
 by_cases hr:eY t.se s
 have e3:dZ t.se s=t.se++[s]:=if_pos hr
 have e4:bS t.na t.hs t.se s=(bC t.hs (av s) t.na).set (A6 t.hs (av s)) (fW ((bC t.hs (av s) t.na).getD (A6 t.hs (av s)) e9) s):=if_pos hr
 have hl:(bC t.hs (av s) t.na).length<=t.hs.length+1:=rM _ _ _
 have hin:∀ y,y∈bC t.hs (av s) t.na->HS t.se.length y:=fun y hy=>by
  unfold bC at hy
  split at hy
  exact h.ha y hy
  rcases List.mem_append.1 hy with hy | hy
  exact h.ha y hy
  rw[List.mem_singleton.1 hy]
  exact⟨hd,by simp[db],by simp[db],by simp[db],by show 0+60<=1000+t.se.length;omega,by simp[db],by simp[db]⟩
 have h2:=hr.2.1
 refine⟨by rw[e1,e3];simp;omega,?_,fun x hx=>?_,fun y hy=>?_⟩
 rw[e1,e2,e3,e4,List.length_set];have:=h.h;simp;omega
 rw[e1,e3]at hx
 rcases List.mem_append.1 hx with hx | hx
 exact h.sa x hx
 rw[List.mem_singleton.1 hx];exact⟨hs,hc⟩
 rw[e1,e3]
 rw[e2,e4]at hy
 have hm:(t.se++[s]).length=t.se.length+1:=by simp
 rw[hm]
 rcases qy hy with e | hy
 have hm:(bC t.hs (av s) t.na).getD (A6 t.hs (av s)) e9∈bC t.hs (av s) t.na:=by
  rw[List.getD_eq_getElem?_getD,List.getElem?_eq_getElem (pX ..)];exact List.getElem_mem _
 have KC:=hin _ hm
 rw[e]
 unfold fW
 split
 exact KC.mono (by omega)
 refine⟨KC.n,KC.r,KC.rp,KC.w,?_,fun x hx=>?_,KC.k⟩
 show (_++[_]).length+60<=_
 have:=KC.t
 rw[List.length_append,List.length_singleton];omega
 rcases List.mem_append.1 hx with hx | hx
 exact KC.ta x hx
 rw[List.mem_singleton.1 hx];exact⟨hs,hc,by simp,by simp⟩
 exact(hin y hy).mono (by omega)
 have e3:dZ t.se s=t.se:=if_neg hr
 have e4:bS t.na t.hs t.se s=t.hs:=if_neg hr
 exact⟨by rw[e1,e3];exact h.s,by rw[e1,e2,e3,e4];exact h.h,by rw[e1,e3];exact h.sa,by rw[e1,e2,e3,e4];exact h.ha⟩
theorem qk:∀ (l:List BL) {t:m5},TS t->t.na.length<=1000->(∀ s,s∈l->s.length<=1000/\m6 s/\(av s).length<=1000)->TS (l.foldl aV t)
 | [],t,h,_,_=>h
 | a::l,t,h,hn,hl=>by
   have:=hl a (by simp)
   exact qk l (GA h hn this.1 this.2.1 this.2.2) hn (fun s hs=>hl s (by simp[hs]))
end Go.Pd
namespace Go.Pd
def fy(y:l6)(l:List w3):List w3:=l.filter (KL y)++List.replicate (l.length-(l.filter (KL y)).length) k9
end Go.Pd
namespace Go.Proofs.YtlclejemchbjiaaGreatDoor
open Go Go.Abs Go.RowKit Go.Pd
set_option maxRecDepth 20000
theorem IT{y:l6}{s:BL}:(!((az s).isSome)||!(dP y.gr.ru (if aH (oA (az s))=true then bu (oA (az s)) else [])))=!(KX y s):=by
 unfold KX
 rw[fO]
 by_cases h:aI s=true
 have e:az s=ai s:=if_pos h
 have hs:(ai s).isSome=true:=by have:=h;unfold aI at this;rw[Bool.and_eq_true]at this;exact this.1
 rw[h,e,if_pos (iS hs)];rfl
 rw[Bool.not_eq_true]at h
 rw[h];rfl
section
variable {y:l6} {l u:List w3} {i w:Nat}
theorem Ae{p:w3->Bool}(hi:i<l.length)(e:p (l.getD i k9)=true)(h:∀ j,j<i->p (l.getD j k9)=false):l.findIdx p=i:=by
 rw[List.findIdx_eq hi]
 simp only[List.getD_eq_getElem?_getD,List.getElem?_eq_getElem hi]at e
 refine⟨by simpa using e,fun j hj=>?_⟩
 have:=h j hj
 simp only[List.getD_eq_getElem?_getD,List.getElem?_eq_getElem (show j<l.length by omega)]at this
 simpa using this
theorem IE(hi:i<l.length)(e:KX y (l.getD i k9).ad=false)(h:∀ j,j<i->KX y (l.getD j k9).ad=true):J4 y l=i:=by
 unfold J4
 rw[Ae (p:=fun x=>!(KX y x.ad)) hi (by simp only[e];rfl) (fun j hj=>by simp only[h j hj];rfl),if_pos hi]
theorem Ga{p:w3->Bool}(h:∀ j,j<l.length->p (l.getD j k9)=false):l.findIdx p=l.length:=by
 rw[List.findIdx_eq_length]
 intro x hx
 obtain⟨j,hj,rfl⟩:=List.mem_iff_getElem.1 hx
 have:=h j hj
 simp only[List.getD_eq_getElem?_getD,List.getElem?_eq_getElem hj]at this
 simpa using this
theorem HE(h:∀ j,j<l.length->KX y (l.getD j k9).ad=true):J4 y l= -1:=by
 unfold J4
 rw[Ga (p:=fun x=>!(KX y x.ad)) (fun j hj=>by simp only[h j hj];rfl),if_neg (by omega)]
theorem vP(y:l6)(l:List w3): -1<=J4 y l/\J4 y l<=l.length/\(J4 y l≠ -1->0<=J4 y l/\J4 y l<l.length):=by
 unfold J4;split <;> omega
theorem pS(h:u.drop i=l.drop i):u.getD i k9=l.getD i k9:=by
 have:=congrArg (fun r=>r[0]?) h
 simp only[List.getElem?_drop,Nat.add_zero]at this
 rw[List.getD_eq_getElem?_getD,List.getD_eq_getElem?_getD,this]
theorem Bv(h:J4 y l= -1):l.filter (KL y)=l:=by
 unfold J4 at h
 split at h
 omega
 rename_i hn
 have he:(l.findIdx fun x=>!(KX y x.ad))=l.length:=by
  have:(l.findIdx fun x=>!(KX y x.ad))<=l.length:=List.findIdx_le_length
  omega
 rw[List.findIdx_eq_length]at he
 rw[List.filter_eq_self]
 intro x hx
 simpa[KL] using he x hx
theorem Kd(h: ¬ J4 y l= -1):(J4 y l).toNat<(J4 y l).toNat+1/\(J4 y l).toNat+1<=l.length/\l.length=l.length/\l.take (J4 y l).toNat=(l.take ((J4 y l).toNat+1)).filter (KL y)/\l.drop ((J4 y l).toNat+1)=l.drop ((J4 y l).toNat+1):=by
 obtain⟨b1,b2⟩:=(vP y l).2.2 h
 have hk:(J4 y l).toNat=l.findIdx fun x=>!(KX y x.ad):=by
  unfold J4 at b1 b2 ⊢
  split
  exact Int.toNat_natCast _
  rename_i hn
  rw[if_neg hn]at b1;omega
 have hlt:(J4 y l).toNat<l.length:=by omega
 refine⟨by omega,by omega,rfl,?_,rfl⟩
 rw[List.take_succ_eq_append_getElem hlt,List.filter_append]
 have e1:(l.take (J4 y l).toNat).filter (KL y)=l.take (J4 y l).toNat:=by
  rw[List.filter_eq_self]
  intro x hx
  obtain⟨j,hj,rfl⟩:=List.mem_iff_getElem.1 hx
  rw[List.length_take]at hj
  rw[List.getElem_take]
  have:=List.not_of_lt_findIdx (p:=fun x=>!(KX y x.ad)) (xs:=l) (i:=j) (by omega)
  simpa[KL] using this
 have e2:KL y l[(J4 y l).toNat]=false:=by
  have:=List.findIdx_getElem (p:=fun x=>!(KX y x.ad)) (xs:=l) (w:=by rw[<- hk];exact hlt)
  simp only[<- hk]at this
  simpa[KL] using this
 rw[e1]
 simp[e2]
theorem Il(hi:i<l.length)(h1:w<i)(h3:u.length=l.length)(h4:u.take w=(l.take i).filter (KL y))(h5:u.drop i=l.drop i)(hk:KX y (u.getD i k9).ad=true):
 w+1<i+1/\i+1<=l.length/\(u.set w (⟨(u.getD i k9).ad,(u.getD i k9).tr⟩:w3)).length=l.length/\(u.set w (⟨(u.getD i k9).ad,(u.getD i k9).tr⟩:w3)).take (w+1)=(l.take (i+1)).filter (KL y)/\
  (u.set w (⟨(u.getD i k9).ad,(u.getD i k9).tr⟩:w3)).drop (i+1)=l.drop (i+1):=by
 have e:=pS h5
 have hw:w<u.length:=by omega
 refine⟨by omega,by omega,by simpa using h3,?_,?_⟩
 rw[List.take_succ_eq_append_getElem (by simpa using hw),List.getElem_set_self,List.take_set_of_le (Nat.le_refl _),h4,List.take_succ_eq_append_getElem hi,List.filter_append]
 have e2:(⟨(u.getD i k9).ad,(u.getD i k9).tr⟩:w3)=l[i]:=by
  show u.getD i k9=l[i]
  rw[e,List.getD_eq_getElem?_getD,List.getElem?_eq_getElem hi];rfl
 have e3:KL y l[i]=true:=by rw[<- e2];exact hk
 rw[e2]
 simp[e3]
 rw[List.drop_set_of_lt (by omega)]
 have:=congrArg (List.drop 1) h5
 simpa[List.drop_drop] using this
theorem HD(hi:i<l.length)(h1:w<i)(h3:u.length=l.length)(h4:u.take w=(l.take i).filter (KL y))(h5:u.drop i=l.drop i)(hk:KX y (u.getD i k9).ad=false):
 w<i+1/\i+1<=l.length/\u.length=l.length/\u.take w=(l.take (i+1)).filter (KL y)/\u.drop (i+1)=l.drop (i+1):=by
 refine⟨by omega,by omega,h3,?_,?_⟩
 rw[h4,List.take_succ_eq_append_getElem hi,List.filter_append]
 have e3:KL y l[i]=false:=by
  have:=pS h5
  rw[List.getD_eq_getElem?_getD (l:=l),List.getElem?_eq_getElem hi]at this
  show KX y l[i].ad=false
  rw[<- hk,this];rfl
 simp[e3]
 have:=congrArg (List.drop 1) h5
 simpa[List.drop_drop] using this
theorem Ip(hi:l.length<=i)(h1:w<i)(h2:i<=l.length)(h3:u.length=l.length)(h4:u.take w=(l.take i).filter (KL y)):w=(l.filter (KL y)).length:=by
 have:=congrArg List.length h4
 rw[List.length_take,List.take_of_length_le hi]at this
 omega
theorem Hy(h:J4 y l= -1):fy y l=l:=by unfold fy;rw[Bv h];simp
theorem IK(hi:l.length<=i)(h1:w<i)(h2:i<=l.length)(h3:u.length=l.length)(h4:u.take w=(l.take i).filter (KL y)):fy y l=u.take w++List.replicate (l.length-w) k9:=by
 unfold fy
 rw[<- Ip hi h1 h2 h3 h4,h4,List.take_of_length_le hi]
theorem Hw(h3:u.length=l.length):(u.map ak).take w++List.replicate (l.length-w) (.agg [sV [],iN 0]:V)++(u.map ak).drop (w+(l.length-w))=(u.take w++List.replicate (l.length-w) k9).map ak:=by
 rw[List.drop_eq_nil_of_le (by simp;omega),List.append_nil,List.map_append,List.map_take,List.map_replicate];rfl
theorem IY:((l.map ak).drop 1).take (l.length-1)++(l.map ak).drop (l.length-1)=(l.drop 1++l.drop (l.length-1)).map ak:=by
 rw[List.map_append,List.map_drop,List.map_drop,List.take_of_length_le (by simp)]
theorem HO(h:0<l.length):((l.drop 1++l.drop (l.length-1)).map ak).take (l.length-1)++List.replicate 1 (.agg [sV [],iN 0]:V)++((l.drop 1++l.drop (l.length-1)).map ak).drop (l.length-1+1)=(l.drop 1++[k9]).map ak:=by
 rw[show ((l.drop 1++l.drop (l.length-1)).map ak).drop (l.length-1+1)=[] from List.drop_eq_nil_of_le (by simp;omega),List.append_nil,<- List.map_take,List.take_append_of_le_length (by simp),List.take_of_length_le (by simp),List.map_append];rfl
end
def qx(n:BL)(a8:Int)(zs:List l6)(se:List BL)(ls:List m9)(gt:Nat)(g:Nat)(o:Nat)(c:Nat)(ix:Nat)(y:l6)(ga:Nat)(oa:Nat)(ca:Nat)(l:List w3)(gb:Nat)(s:BL)(v:Int):r5 Tryz.prog:=.mk 135 [.agg [sV s,iV v],.ptr (.key 1002) [] gb 0] [(1002,(gb,.ptr (.key 1000) [2,ix] g (o+ix*8))),(1000,(gt,ba n a8 zs ix y.na y.re y.kn y.gr.na y.gr.ru y.gr.wa y.tr l ga oa ca g o c se ls))] ((ix<zs.length)/\(s.length<=1000)/\(m6 s)/\(y.gr.ru.length<=1000)/\(∀ i,(y.gr.ru.getD i ⟨false,[]⟩).path.length<=1000)) (bV (!(KX y s))) [(1002,(gb,.ptr (.key 1000) [2,ix] g (o+ix*8))),(1000,(gt,ba n a8 zs ix y.na y.re y.kn y.gr.na y.gr.ru y.gr.wa y.tr l ga oa ca g o c se ls))] (by
 rintro⟨hi,hs,hc,hr,RR⟩
 refine aw (N:=25) (rs:=[.tmp 3]) Tryz.func135
  (.bx (fun g2=>.q 1<|.r 2 [.b9]<|.c (cG s) []<|.q 3<|.al cy (fun g4=>.st none<|.q 1<|.dx 13 [0,1,2,3,4,5,6,7,8,9,10,11,12] [(3,⟨false,[],some [1002],[15],[]⟩),(7,⟨false,[],some [1000],[19],[]⟩),(8,⟨false,[],some [4],[20],[]⟩)] []<|.q 1<|.q 1<|.q 1<|.r 1 [.b9]<|.q 1<|.q 1<|.q 1<|.r 1 [dU y.gr.ru]<|.r 1 [.b9]<|.cg (fg (oA (az s)))<|.cg (ke y.gr.ru (if aH (oA (az s))=true then bu (oA (az s)) else []))<|.q 1<|.q 1<|.q 1<|.nil)))
  ((fun v1:Bool=>(fun v2:V=>(∀ g2:Nat,Z g2 0/\(cG s).sm/\((s.length<=1000000)/\(m6 s))/\∀ g4:Nat,Z g4 0/\Gd v1 (Z gb 0)/\Gd v1 (v1=true)/\Gd v1 True/\Gd v1 (v1=true)/\Gd v1 (v1=true)/\Gd v1 (v1=true)/\Gd v1 (V.at gt 0 v2 [2,ix,3,1]=some (g,(o+ix*8+3+1),dU y.gr.ru))/\Gd v1 (Z g4 0)/\Gd v1 (v1=true)/\Gd v1 (((cq (oA (az s))))/\(fg (oA (az s))).sm)/\Gd v1 (v1=true)/\Gd v1 (v1=true)/\Gd v1 (((y.gr.ru.length<=1000000)/\(∀ i,(y.gr.ru.getD i ⟨false,[]⟩).path.length<=1000000)/\((if aH (oA (az s))=true then bu (oA (az s)) else []).length<=1000000))/\(ke y.gr.ru (if aH (oA (az s))=true then bu (oA (az s)) else [])).sm)/\Gd v1 (v1=true)/\Pk (!((az s).isSome)) true v1/\Q (bV ((!((az s).isSome))||(!(dP y.gr.ru (if aH (oA (az s))=true then bu (oA (az s)) else []))))) (bV (!(KX y s)))/\Er gb (.ptr (.key 1000) [2,ix] g (o+ix*8))/\Er gt v2)) (ba n a8 zs ix y.na y.re y.kn y.gr.na y.gr.ru y.gr.wa y.tr l ga oa ca g o c se ls)) ((!((az s).isSome))==false)) ?_
 intro g2
 refine⟨rfl,rfl,⟨by omega,hc⟩,?_⟩
 intro g4
 refine⟨rfl,fun hG=>rfl,fun h=>h,fun hG=>trivial,fun h=>h,fun h=>h,fun h=>h,fun hG=>(aP (f:=2) rfl).trans (aE (aF (by omega)) rfl),fun hG=>rfl,fun h=>h,fun hG=>⟨by(try simp only[nb]at hG);exact pR _,rfl⟩,fun h=>h,fun h=>h,fun hG=>⟨⟨by(try simp only[nb]at hG);omega,fun i=>by have:=RR i;omega,by(try simp only[nb]at hG);have:=(pR s).path;split <;> simp <;> omega⟩,rfl⟩,fun h=>h,⟨fun _=>rfl,fun h=>by rw[h] <;> rfl⟩,?_⟩
 refine⟨?_,rfl,rfl⟩
 unfold Q
 rw[IT])
def BH(n:BL)(a8:Int)(zs:List l6)(se:List BL)(ls:List m9)(gt:Nat)(g:Nat)(o:Nat)(c:Nat)(ix:Nat)(y:l6)(ga:Nat)(oa:Nat)(ca:Nat)(l:List w3)(gb:Nat):r5 Tryz.prog:=.mk 159 [.hd (.key 1000) [2,ix,5] 2 ga oa 0 ((l.map ak).length) ca,.lit (.func (.func 135) #[] #[.pointer (some ⟨gb,0,none⟩)])] [(1002,(gb,.ptr (.key 1000) [2,ix] g (o+ix*8))),(1000,(gt,ba n a8 zs ix y.na y.re y.kn y.gr.na y.gr.ru y.gr.wa y.tr l ga oa ca g o c se ls))] ((ix<zs.length)/\(l.length<=1000)/\(∀ x,x∈l->x.ad.length<=1000/\m6 x.ad)/\(y.gr.ru.length<=1000)/\(∀ i,(y.gr.ru.getD i ⟨false,[]⟩).path.length<=1000)) (iV (J4 y l)) [(1002,(gb,.ptr (.key 1000) [2,ix] g (o+ix*8))),(1000,(gt,ba n a8 zs ix y.na y.re y.kn y.gr.na y.gr.ru y.gr.wa y.tr l ga oa ca g o c se ls))] (by
 rintro⟨hi,hl,hx,hr,RR⟩
 refine aw (N:=19) (rs:=[.tmp 4]) Tryz.func159
  (.q 1<|.q 3<|.loop (Nat) (fun (i:Nat)=>⟨[(0,.hd (.key 1000) [2,ix,5] 2 ga oa 0 ((l.map ak).length) ca),(1,.lit (.func (.func 135) #[] #[.pointer (some ⟨gb,0,none⟩)])),(7,iN l.length),(8,iN i)],[(1002,(gb,.ptr (.key 1000) [2,ix] g (o+ix*8))),(1000,(gt,ba n a8 zs ix y.na y.re y.kn y.gr.na y.gr.ru y.gr.wa y.tr l ga oa ca g o c se ls))]⟩) (fun (i:Nat)=>i<=l.length/\∀ j,j<i->KX y (l.getD j k9).ad=true) (fun (i:Nat)=>l.length-i) (fun (i:Nat)=>.q 1<|.br (.q 2<|.r 5 [.agg [sV ((l.getD i k9).ad),iV ((l.getD i k9).tr)]]<|.c (qx n a8 zs se ls gt g o c ix y ga oa ca l gb ((l.getD i k9).ad) ((l.getD i k9).tr)) [(1002,1002),(1000,1000)]<|.br (.q 2<|.nil) (.q 2<|.nil)) (.q 1<|.nil)))
  ((fun v1:V=>(fun v2:V=>(fun v3:V=>((∃ j8:Nat,(j8<=l.length/\∀ j,j<j8->KX y (l.getD j k9).ad=true)/\E (.hd (.key 1000) [2,ix,5] 2 ga oa 0 ((l.map ak).length) ca)/\E v3/\Q (iN ((l.map ak).length)) (iN l.length)/\Q (iN 0) (iN j8)/\Er gb v2/\Er gt v1/\True)/\∀ i:Nat,(i<=l.length/\∀ j,j<i->KX y (l.getD j k9).ad=true)->Br (s7 (i:Int) (l.length:Int)) (In (i:Int) ((l.map ak).length)/\(V.at gt 0 v1 [2,ix,5,0+i]=some (ga,(oa+(0+i)*2),.agg [sV ((l.getD i k9).ad),iV ((l.getD i k9).tr)]))/\(qx n a8 zs se ls gt g o c ix y ga oa ca l gb ((l.getD i k9).ad) ((l.getD i k9).tr)).sm/\Er gb v2/\Er gt v1/\((ix<zs.length)/\(((l.getD i k9).ad).length<=1000)/\(m6 ((l.getD i k9).ad))/\(y.gr.ru.length<=1000)/\(∀ i,(y.gr.ru.getD i ⟨false,[]⟩).path.length<=1000))/\Br (!(KX y ((l.getD i k9).ad))) (Q (iN i) (iV (J4 y l))/\Er gb v2/\Er gt v1) (m8 ((i:Int)+1)/\∃ c9:Nat,(c9<=l.length/\∀ j,j<c9->KX y (l.getD j k9).ad=true)/\(l.length-c9<l.length-i)/\E (.hd (.key 1000) [2,ix,5] 2 ga oa 0 ((l.map ak).length) ca)/\E v3/\E (iN l.length)/\Q (iN (i+1)) (iN c9)/\Er gb v2/\Er gt v1/\True)) (Q (iV (-1)) (iV (J4 y l))/\Er gb v2/\Er gt v1))) (.lit (.func (.func 135) #[] #[.pointer (some ⟨gb,0,none⟩)]))) (.ptr (.key 1000) [2,ix] g (o+ix*8))) (ba n a8 zs ix y.na y.re y.kn y.gr.na y.gr.ru y.gr.wa y.tr l ga oa ca g o c se ls)) ?_
 refine⟨⟨0,?_,rfl,rfl,by first | rfl | simp | (simp;omega),rfl,rfl,rfl,trivial⟩,?_⟩
 simp
 rintro i ⟨h1,h2⟩
 refine⟨fun j7=>?_,fun j7=>?_⟩
 try simp only[nb]at j7
 have Lb:=hx _ (bK (d:=k9) (show i<l.length by omega))
 refine⟨by(try simp only[List.length_map]at *);omega,(aP (f:=2) rfl).trans (aE (aF (by omega)) ((aP (f:=5) rfl).trans (aE (by rw[Nat.zero_add];exact aj (d:=k9) (by omega)) rfl))),rfl,rfl,rfl,⟨hi,Lb.1,Lb.2,hr,RR⟩,?_⟩
 refine⟨fun j9=>?_,fun j9=>?_⟩
 try simp only[nb]at j9
 refine⟨?_,rfl,rfl⟩
 unfold Q
 rw[IE (i:=i) (by omega) (by simpa using j9) h2]
 try simp only[nb]at j9
 refine⟨by omega,?_⟩
 refine⟨i+1,?_,?_,rfl,rfl,rfl,rfl,rfl,rfl,trivial⟩
 exact⟨by omega,bF h2 (by simpa using j9)⟩
 first | (solve | simp) | omega | (simp;omega)
 try simp only[nb]at j7
 refine⟨?_,rfl,rfl⟩
 unfold Q
 rw[HE (fun j hj=>h2 j (by omega))])
abbrev pd(n:BL)(a8:Int)(zs:List l6)(se:List BL)(ls:List m9)(gt:Nat)(g:Nat)(o:Nat)(c:Nat)(ix:Nat)(y:l6)(ga:Nat)(oa:Nat)(ca:Nat)(l:List w3)(gb:Nat):V:=.hd (.key 1000) [2,ix,5] 2 ga oa 0 ((l.filter (KL y)).length) ca
abbrev iY(n:BL)(a8:Int)(zs:List l6)(se:List BL)(ls:List m9)(gt:Nat)(g:Nat)(o:Nat)(c:Nat)(ix:Nat)(y:l6)(ga:Nat)(oa:Nat)(ca:Nat)(l:List w3)(gb:Nat)(w:Nat)(i:Nat)(u:List w3):Prop:=w<i/\i<=l.length/\u.length=l.length/\u.take w=(l.take i).filter (KL y)/\u.drop i=l.drop i
def Bs(n:BL)(a8:Int)(zs:List l6)(se:List BL)(ls:List m9)(gt:Nat)(g:Nat)(o:Nat)(c:Nat)(ix:Nat)(y:l6)(ga:Nat)(oa:Nat)(ca:Nat)(l:List w3)(gb:Nat):r5 Tryz.prog:=.mk 134 [.hd (.key 1000) [2,ix,5] 2 ga oa 0 ((l.map ak).length) ca,.lit (.func (.func 135) #[] #[.pointer (some ⟨gb,0,none⟩)])] [(1002,(gb,.ptr (.key 1000) [2,ix] g (o+ix*8))),(1000,(gt,ba n a8 zs ix y.na y.re y.kn y.gr.na y.gr.ru y.gr.wa y.tr l ga oa ca g o c se ls))] ((ix<zs.length)/\(l.length<=1000)/\(∀ x,x∈l->x.ad.length<=1000/\m6 x.ad)/\(y.gr.ru.length<=1000)/\(∀ i,(y.gr.ru.getD i ⟨false,[]⟩).path.length<=1000)) (pd n a8 zs se ls gt g o c ix y ga oa ca l gb) [(1002,(gb,.ptr (.key 1000) [2,ix] g (o+ix*8))),(1000,(gt,ba n a8 zs ix y.na y.re y.kn y.gr.na y.gr.ru y.gr.wa y.tr (fy y l) ga oa ca g o c se ls))] (by
 rintro⟨hi,hl,hx,hr,RR⟩
 refine aw (N:=42) (rs:=[.tmp 4]) Tryz.func134
  (.q 1<|.q 2<|.c (BH n a8 zs se ls gt g o c ix y ga oa ca l gb) [(1002,1002),(1000,1000)]<|.q 1<|.q 2<|.br (.q 2<|.nil) (.q 3<|.loop (Nat×Nat×(List w3)) (fun (w,i,u)=>⟨[(0,.hd (.key 1000) [2,ix,5] 2 ga oa 0 ((l.map ak).length) ca),(1,.lit (.func (.func 135) #[] #[.pointer (some ⟨gb,0,none⟩)])),(5,iN w),(6,iN i)],[(1002,(gb,.ptr (.key 1000) [2,ix] g (o+ix*8))),(1000,(gt,ba n a8 zs ix y.na y.re y.kn y.gr.na y.gr.ru y.gr.wa y.tr u ga oa ca g o c se ls))]⟩) (fun (w,i,u)=>iY n a8 zs se ls gt g o c ix y ga oa ca l gb w i u) (fun (w,i,u)=>l.length-i) (fun (w,i,u)=>.q 4<|.br (.r 4 [.agg [sV ((u.getD i k9).ad),iV ((u.getD i k9).tr)]]<|.al nS (fun g7=>.st none<|.r 2 [.b9]<|.c (qx n a8 zs se ls gt g o c ix y ga oa ca u gb ((u.getD i k9).ad) ((u.getD i k9).tr)) [(1002,1002),(1000,1000)]<|.q 1<|.br (.r 4 [.b9]<|.st (some (.agg [sV ((u.getD w k9).ad),iV ((u.getD w k9).tr)]))<|.h (.z7 1000 (ba n a8 zs ix y.na y.re y.kn y.gr.na y.gr.ru y.gr.wa y.tr (u.set w (⟨(u.getD i k9).ad,(u.getD i k9).tr⟩:w3)) ga oa ca g o c se ls))<|.q 3<|.q 3<|.nil) (.q 3<|.nil))) (.q 3<|.cu (Wj 1000 [2,ix,5] w (l.length-w) 2 (u.map ak) ga oa ca g (o+(ix)*8+7) nS) (fun _=>.h (.z7 1000 (ba n a8 zs ix y.na y.re y.kn y.gr.na y.gr.ru y.gr.wa y.tr (u.take w++List.replicate (l.length-w) k9) ga oa ca g o c se ls))<|.q 4<|.nil)))))
  ((fun v1:V=>(fun v2:V=>(fun v3:V=>(fun v4:V=>((BH n a8 zs se ls gt g o c ix y ga oa ca l gb).sm/\Er gb v1/\Er gt v2/\((ix<zs.length)/\(l.length<=1000)/\(∀ x,x∈l->x.ad.length<=1000/\m6 x.ad)/\(y.gr.ru.length<=1000)/\(∀ i,(y.gr.ru.getD i ⟨false,[]⟩).path.length<=1000))/\Br (r4 (J4 y l) (-1)) (Q (.hd (.key 1000) [2,ix,5] 2 ga oa 0 ((l.map ak).length) ca) (pd n a8 zs se ls gt g o c ix y ga oa ca l gb)/\Er gb v1/\Qr gt v2 gt v4) (m8 ((J4 y l)+1)/\(∃ x:Nat×Nat×(List w3),match x with | (Sm,j8,G6)=>(iY n a8 zs se ls gt g o c ix y ga oa ca l gb Sm j8 G6)/\E (.hd (.key 1000) [2,ix,5] 2 ga oa 0 ((l.map ak).length) ca)/\E v3/\Q (iV (J4 y l)) (iN Sm)/\Q (iV ((J4 y l)+1)) (iN j8)/\Er gb v1/\Qr gt v2 gt (ba n a8 zs ix y.na y.re y.kn y.gr.na y.gr.ru y.gr.wa y.tr G6 ga oa ca g o c se ls)/\True)/\∀ x:Nat×Nat×(List w3),match x with | (w,i,u)=>(iY n a8 zs se ls gt g o c ix y ga oa ca l gb w i u)->(fun v5:V=>Br (s7 (i:Int) (((l.map ak).length:Nat):Int)) (In (i:Int) ((l.map ak).length)/\(V.at gt 0 v5 [2,ix,5,0+i]=some (ga,(oa+(0+i)*2),.agg [sV ((u.getD i k9).ad),iV ((u.getD i k9).tr)]))/\∀ g7:Nat,Z g7 0/\Z g7 0/\(qx n a8 zs se ls gt g o c ix y ga oa ca u gb ((u.getD i k9).ad) ((u.getD i k9).tr)).sm/\Er gb v1/\Er gt v5/\((ix<zs.length)/\(((u.getD i k9).ad).length<=1000)/\(m6 ((u.getD i k9).ad))/\(y.gr.ru.length<=1000)/\(∀ i,(y.gr.ru.getD i ⟨false,[]⟩).path.length<=1000))/\Br (!(!(KX y ((u.getD i k9).ad)))) (Z g7 0/\In (w:Int) ((l.map ak).length)/\(V.at gt 0 v5 [2,ix,5,0+w]=some (ga,(oa+(0+w)*2),.agg [sV ((u.getD w k9).ad),iV ((u.getD w k9).tr)]))/\(V.set v5 [2,ix,5,0+w] (.agg [sV ((u.getD i k9).ad),iV ((u.getD i k9).tr)])=ba n a8 zs ix y.na y.re y.kn y.gr.na y.gr.ru y.gr.wa y.tr (u.set w (⟨(u.getD i k9).ad,(u.getD i k9).tr⟩:w3)) ga oa ca g o c se ls)/\m8 ((w:Int)+1)/\m8 ((i:Int)+1)/\∃ x:Nat×Nat×(List w3),match x with | (MS,c9,A5)=>(iY n a8 zs se ls gt g o c ix y ga oa ca l gb MS c9 A5)/\(l.length-c9<l.length-i)/\E (.hd (.key 1000) [2,ix,5] 2 ga oa 0 ((l.map ak).length) ca)/\E v3/\Q (iN (w+1)) (iN MS)/\Q (iN (i+1)) (iN c9)/\Er gb v1/\Qr gt (ba n a8 zs ix y.na y.re y.kn y.gr.na y.gr.ru y.gr.wa y.tr (u.set w (⟨(u.getD i k9).ad,(u.getD i k9).tr⟩:w3)) ga oa ca g o c se ls) gt (ba n a8 zs ix y.na y.re y.kn y.gr.na y.gr.ru y.gr.wa y.tr A5 ga oa ca g o c se ls)/\True) (m8 ((i:Int)+1)/\∃ x:Nat×Nat×(List w3),match x with | (MS,c9,A5)=>(iY n a8 zs se ls gt g o c ix y ga oa ca l gb MS c9 A5)/\(l.length-c9<l.length-i)/\E (.hd (.key 1000) [2,ix,5] 2 ga oa 0 ((l.map ak).length) ca)/\E v3/\Q (iN w) (iN MS)/\Q (iN (i+1)) (iN c9)/\Er gb v1/\Qr gt v5 gt (ba n a8 zs ix y.na y.re y.kn y.gr.na y.gr.ru y.gr.wa y.tr A5 ga oa ca g o c se ls)/\True)) (((0:Int)<=(w:Int)/\(w:Int)<=((l.map ak).length:Int)/\((l.map ak).length:Int)<=((l.map ak).length)/\2=2)/\((((109:Nat),(.key 1000:l9),([2,ix,5]:List Nat),2,ga,oa,(0+w),(((l.map ak).length)-w))=((109:Nat),(.key 1000:l9),([2,ix,5]:List Nat),2,ga,oa,w,(l.length-w)))/\(V.at gt 0 v5 [2,ix,5]=some (g,o+(ix)*8+7,.own 2 (u.map ak) ga oa ca))/\(w+(l.length-w)<=(u.map ak).length)/\(V.aD (u.map ak)=false)/\(aG 2 (u.map ak))/\((.agg [sV [],iN 0]:V).n=2))/\∀ _:Unit,(V.set v5 [2,ix,5] (.own 2 ((u.map ak).take w++List.replicate (l.length-w) (.agg [sV [],iN 0]:V)++(u.map ak).drop (w+(l.length-w))) ga oa ca)=ba n a8 zs ix y.na y.re y.kn y.gr.na y.gr.ru y.gr.wa y.tr (u.take w++List.replicate (l.length-w) k9) ga oa ca g o c se ls)/\((0:Int)<=(0:Int)/\(0:Int)<=(w:Int)/\(w:Int)<=((l.map ak).length)/\2=2)/\Q (.hd (.key 1000) [2,ix,5] 2 ga oa (0+((0:Int).toNat)) (w-((0:Int).toNat)) (ca-((0:Int).toNat))) (pd n a8 zs se ls gt g o c ix y ga oa ca l gb)/\Er gb v1/\Qr gt (ba n a8 zs ix y.na y.re y.kn y.gr.na y.gr.ru y.gr.wa y.tr (u.take w++List.replicate (l.length-w) k9) ga oa ca g o c se ls) gt v4)) (ba n a8 zs ix y.na y.re y.kn y.gr.na y.gr.ru y.gr.wa y.tr u ga oa ca g o c se ls)))) (ba n a8 zs ix y.na y.re y.kn y.gr.na y.gr.ru y.gr.wa y.tr (fy y l) ga oa ca g o c se ls)) (.lit (.func (.func 135) #[] #[.pointer (some ⟨gb,0,none⟩)]))) (ba n a8 zs ix y.na y.re y.kn y.gr.na y.gr.ru y.gr.wa y.tr l ga oa ca g o c se ls)) (.ptr (.key 1000) [2,ix] g (o+ix*8))) ?_
 refine⟨rfl,rfl,rfl,⟨hi,hl,hx,hr,RR⟩,?_⟩
 refine⟨fun j7=>?_,fun j7=>?_⟩
 try simp only[nb]at j7
 refine⟨?_,rfl,by rw[Hy j7]⟩
 unfold Q pd
 rw[Bv j7,List.length_map]
 try simp only[nb]at j7
 refine⟨by have:=vP y l;omega,?_⟩
 refine⟨⟨((J4 y l).toNat,(J4 y l).toNat+1,l),?_,rfl,rfl,by refine congrArg iV ?_;have:=vP y l;omega,by refine congrArg iV ?_;have:=vP y l;omega,rfl,rfl,trivial⟩,?_⟩
 unfold iY
 exact Kd j7
 rintro⟨w,i,u⟩ ⟨h1,h2,h3,h4,h5⟩
 refine⟨fun j9=>?_,fun j9=>?_⟩
 try simp only[nb]at j9
 have Lb:=hx _ (bK (d:=k9) (show i<l.length by omega))
 have hu:u.getD i k9=l.getD i k9:=pS h5
 refine⟨by(try simp only[List.length_map]at *);omega,(aP (f:=2) rfl).trans (aE (aF (by omega)) ((aP (f:=5) rfl).trans (aE (by rw[Nat.zero_add];exact aj (d:=k9) (by omega)) rfl))),?_⟩
 intro g7
 refine⟨rfl,rfl,rfl,rfl,rfl,⟨hi,by rw[hu];exact Lb.1,by rw[hu];exact Lb.2,hr,RR⟩,?_⟩
 refine⟨fun l8=>?_,fun l8=>?_⟩
 try simp only[nb]at l8
 refine⟨rfl,by(try simp only[List.length_map]at *);omega,(aP (f:=2) rfl).trans (aE (aF (by omega)) ((aP (f:=5) rfl).trans (aE (by rw[Nat.zero_add];exact aj (d:=k9) (by omega)) rfl))),dq (FO (aF (by omega)) (Ka (aR (x:=.agg [sV ((u.getD w k9).ad),iV ((u.getD w k9).tr)]) (by rw[Nat.zero_add];exact aj (d:=k9) (by omega)) (by rw[Nat.zero_add];exact(List.map_set (f:=ak) (l:=u) (i:=w) (a:=(⟨(u.getD i k9).ad,(u.getD i k9).tr⟩:w3))).symm))) (cD (by omega))),by omega,by omega,?_⟩
 refine⟨(w+1,i+1,u.set w (⟨(u.getD i k9).ad,(u.getD i k9).tr⟩:w3)),?_,?_,rfl,rfl,rfl,rfl,rfl,rfl,trivial⟩
 unfold iY
 first | exact Il (by simpa using j9) h1 h3 h4 h5 (by simpa using l8) | exact HD (by simpa using j9) h1 h3 h4 h5 (by simpa using l8)
 first | (solve | simp) | omega | (simp;omega)
 try simp only[nb]at l8
 refine⟨by omega,?_⟩
 refine⟨(w,i+1,u),?_,?_,rfl,rfl,rfl,rfl,rfl,rfl,trivial⟩
 unfold iY
 first | exact Il (by simpa using j9) h1 h3 h4 h5 (by simpa using l8) | exact HD (by simpa using j9) h1 h3 h4 h5 (by simpa using l8)
 first | (solve | simp) | omega | (simp;omega)
 try simp only[nb]at j9
 refine⟨⟨by omega,by simp only[List.length_map];omega,by omega,rfl⟩,⟨by simp,(aP (f:=2) rfl).trans (aE (aF (by omega)) rfl),by simp only[List.length_map];omega,cm (f:=ak) (fun _=>rfl) _,dJ (f:=ak) (fun _=>rfl) _,rfl⟩,?_⟩
 intro _
 refine⟨(congrArg (fun r:V=>V.set (.agg [sV n,iV a8,.own 8 ((zs.take ix).map aA++(.agg [sV y.na,iV y.re,bV y.kn,.agg [.sl false (y.gr.na.map sV),.sl false (y.gr.ru.map au),iN y.gr.wa],iV y.tr,.own 2 (u.map ak) ga oa ca]:V)::(zs.drop (ix+1)).map aA) g o c,.ow 1 (se.map sV),.ow 3 (ls.map aN)]) [2,ix,5] r) (congrArg (V.own 2 · ga oa ca) (Hw h3))).trans (dq (aR (aF (by omega)) (cD (by omega)))),⟨by omega,by omega,by simp only[List.length_map];omega,rfl⟩,?_⟩
 refine⟨?_,rfl,by rw[IK (by simpa using j9) h1 h2 h3 h4]⟩
 unfold Q pd
 rw[Ip (by simpa using j9) h1 h2 h3 h4];rfl)
def Bp(n:BL)(a8:Int)(zs:List l6)(se:List BL)(ls:List m9)(gt:Nat)(g:Nat)(o:Nat)(c:Nat)(ix:Nat)(y:l6)(ga:Nat)(oa:Nat)(ca:Nat)(l:List w3):r5 Tryz.prog:=.mk 136 [.hd (.key 1000) [2,ix,5] 2 ga oa 0 ((l.map ak).length) ca,iV 0,iV 1] [(1000,(gt,ba n a8 zs ix y.na y.re y.kn y.gr.na y.gr.ru y.gr.wa y.tr l ga oa ca g o c se ls))] ((ix<zs.length)/\(0<l.length/\l.length<=1000)) (.hd (.key 1000) [2,ix,5] 2 ga oa 0 (l.length-1) ca) [(1000,(gt,ba n a8 zs ix y.na y.re y.kn y.gr.na y.gr.ru y.gr.wa y.tr (l.drop 1++[k9]) ga oa ca g o c se ls))] (by
 rintro⟨hi,hl⟩
 refine aw (N:=33) (rs:=[.tmp 6]) Tryz.func136
  (.q 1<|.q 5<|.cu (sdC ((l.map ak).length) (0:Int) (1:Int) (((l.map ak).length:Nat):Int)) (fun _=>.q 3<|.br (.nil) (.q 3<|.dx 6 [0,1,2,3,4,5] [] []<|.q 1<|.q 1<|.q 1<|.q 1<|.q 1<|.q 1<|.cu (saC 1000 [2,ix,5] 1 (l.length-1) 2 (l.map ak) ga oa ca g (o+(ix)*8+7)) (fun _=>.h (.z7 1000 (ba n a8 zs ix y.na y.re y.kn y.gr.na y.gr.ru y.gr.wa y.tr (l.drop 1++l.drop (l.length-1)) ga oa ca g o c se ls))<|.q 1<|.q 4<|.cu (sbC 1000 [2,ix,5] 2 ((l.drop 1++l.drop (l.length-1)).map ak) ga oa ca (l.length-1) g (o+(ix)*8+7) (l.length-1) ((l.map ak).length)) (fun _=>.cu (Wj 1000 [2,ix,5] (l.length-1) 1 2 ((l.drop 1++l.drop (l.length-1)).map ak) ga oa ca g (o+(ix)*8+7) nS) (fun _=>.h (.z7 1000 (ba n a8 zs ix y.na y.re y.kn y.gr.na y.gr.ru y.gr.wa y.tr (l.drop 1++[k9]) ga oa ca g o c se ls))<|.q 2<|.nil))))))
  ((fun v1:V=>(fun v2:V=>(fun v3:Int=>((((iV 0):V)=.lit (.int .i64 (0:Int))/\((iV 1):V)=.lit (.int .i64 (1:Int))/\((iN ((l.map ak).length)):V)=.lit (.int .i64 v3)/\((l.map ak).length)=((l.map ak).length)/\(0:Int)<=(0:Int)/\(0:Int)<=(1:Int)/\(1:Int)<=v3/\v3<=((l.map ak).length))/\∀ _:Unit,Br (r4 0 1) (False) (((0:Int)<=(0:Int)/\(0:Int)<=(0:Int)/\(0:Int)<=((l.map ak).length)/\2=2)/\((0:Int)<=(1:Int)/\(1:Int)<=((l.map ak).length:Int)/\((l.map ak).length:Int)<=((l.map ak).length)/\2=2)/\((((.key 1000:l9),([2,ix,5]:List Nat),2,ga,oa,(0+(Int.toNat 1)),(((l.map ak).length)-(Int.toNat 1)))=((.key 1000:l9),([2,ix,5]:List Nat),2,ga,oa,1,(l.length-1)))/\((.hd (.key 1000) [2,ix,5] 2 ga oa (0+((0:Int).toNat)) ((Int.toNat 0)-((0:Int).toNat)) (ca-((0:Int).toNat)):V)=.hd (.key 1000) [2,ix,5] 2 ga oa 0 0 ca)/\(V.at gt 0 v2 [2,ix,5]=some (g,o+(ix)*8+7,.own 2 (l.map ak) ga oa ca))/\((2:Nat)=2)/\(0<(l.map ak).length)/\(1+(l.length-1)<=(l.map ak).length)/\(V.aD (l.map ak)=false)/\(aG 2 (l.map ak))/\(ca-(Int.toNat 1))=(ca-(Int.toNat 1)))/\∀ _:Unit,(V.set v2 [2,ix,5] (.own 2 (((l.map ak).drop 1).take (l.length-1)++(l.map ak).drop (l.length-1)) ga oa ca)=ba n a8 zs ix y.na y.re y.kn y.gr.na y.gr.ru y.gr.wa y.tr (l.drop 1++l.drop (l.length-1)) ga oa ca g o c se ls)/\(((.hd (.key 1000) [2,ix,5] 2 ga oa 0 (l.length-1) ca):V)=.hd (.key 1000) [2,ix,5] 2 ga oa 0 (l.length-1) ca/\(V.at gt 0 v1 [2,ix,5]=some (g,o+(ix)*8+7,.own 2 ((l.drop 1++l.drop (l.length-1)).map ak) ga oa ca))/\((iN (l.length-1)):V)=.lit (.int .i64 (((l.length-1):Nat):Int))/\((iN ((l.map ak).length)):V)=.lit (.int .i64 ((((l.map ak).length):Nat):Int))/\((2:Nat)=2)/\(l.length-1)<=((l.map ak).length)/\((l.map ak).length)<=((l.drop 1++l.drop (l.length-1)).map ak).length)/\∀ _:Unit,((((109:Nat),(.key 1000:l9),([2,ix,5]:List Nat),2,ga,oa,(l.length-1),(((l.map ak).length)-(l.length-1)))=((109:Nat),(.key 1000:l9),([2,ix,5]:List Nat),2,ga,oa,(l.length-1),1))/\(V.at gt 0 v1 [2,ix,5]=some (g,o+(ix)*8+7,.own 2 ((l.drop 1++l.drop (l.length-1)).map ak) ga oa ca))/\((l.length-1)+1<=((l.drop 1++l.drop (l.length-1)).map ak).length)/\(V.aD ((l.drop 1++l.drop (l.length-1)).map ak)=false)/\(aG 2 ((l.drop 1++l.drop (l.length-1)).map ak))/\((.agg [sV [],iN 0]:V).n=2))/\∀ _:Unit,(V.set v1 [2,ix,5] (.own 2 (((l.drop 1++l.drop (l.length-1)).map ak).take (l.length-1)++List.replicate 1 (.agg [sV [],iN 0]:V)++((l.drop 1++l.drop (l.length-1)).map ak).drop ((l.length-1)+1)) ga oa ca)=ba n a8 zs ix y.na y.re y.kn y.gr.na y.gr.ru y.gr.wa y.tr (l.drop 1++[k9]) ga oa ca g o c se ls)/\Q (.hd (.key 1000) [2,ix,5] 2 ga oa 0 (l.length-1) ca) (.hd (.key 1000) [2,ix,5] 2 ga oa 0 (l.length-1) ca)/\Er gt (ba n a8 zs ix y.na y.re y.kn y.gr.na y.gr.ru y.gr.wa y.tr (l.drop 1++[k9]) ga oa ca g o c se ls)))) (((l.map ak).length:Nat):Int)) (ba n a8 zs ix y.na y.re y.kn y.gr.na y.gr.ru y.gr.wa y.tr l ga oa ca g o c se ls)) (ba n a8 zs ix y.na y.re y.kn y.gr.na y.gr.ru y.gr.wa y.tr (l.drop 1++l.drop (l.length-1)) ga oa ca g o c se ls)) ?_
 refine⟨⟨rfl,rfl,rfl,rfl,by omega,by omega,by(try simp only[List.length_map]);omega,by(try simp only[List.length_map]);omega⟩,?_⟩
 intro _
 refine⟨fun j7=>?_,fun j7=>?_⟩
 try simp only[nb]at j7
 exact absurd j7 (by decide)
 try simp only[nb]at j7
 refine⟨⟨by omega,by omega,by omega,rfl⟩,⟨by omega,by simp only[List.length_map];omega,by omega,rfl⟩,⟨by simp,rfl,(aP (f:=2) rfl).trans (aE (aF (by omega)) rfl),rfl,by simp;omega,by simp;omega,cm (f:=ak) (fun _=>rfl) _,dJ (f:=ak) (fun _=>rfl) _,rfl⟩,?_⟩
 intro _
 refine⟨(congrArg (fun r:V=>V.set (.agg [sV n,iV a8,.own 8 ((zs.take ix).map aA++(.agg [sV y.na,iV y.re,bV y.kn,.agg [.sl false (y.gr.na.map sV),.sl false (y.gr.ru.map au),iN y.gr.wa],iV y.tr,.own 2 (l.map ak) ga oa ca]:V)::(zs.drop (ix+1)).map aA) g o c,.ow 1 (se.map sV),.ow 3 (ls.map aN)]) [2,ix,5] r) (congrArg (V.own 2 · ga oa ca) (IY))).trans (dq (aR (aF (by omega)) (cD (by omega)))),⟨rfl,(aP (f:=2) rfl).trans (aE (aF (by omega)) rfl),rfl,by simp,rfl,by simp,by simp <;> omega⟩,?_⟩
 intro _
 refine⟨⟨by simp;omega,(aP (f:=2) rfl).trans (aE (aF (by omega)) rfl),by simp;omega,cm (f:=ak) (fun _=>rfl) _,dJ (f:=ak) (fun _=>rfl) _,rfl⟩,?_⟩
 intro _
 refine⟨(congrArg (fun r:V=>V.set (.agg [sV n,iV a8,.own 8 ((zs.take ix).map aA++(.agg [sV y.na,iV y.re,bV y.kn,.agg [.sl false (y.gr.na.map sV),.sl false (y.gr.ru.map au),iN y.gr.wa],iV y.tr,.own 2 ((l.drop 1++l.drop (l.length-1)).map ak) ga oa ca]:V)::(zs.drop (ix+1)).map aA) g o c,.ow 1 (se.map sV),.ow 3 (ls.map aN)]) [2,ix,5] r) (congrArg (V.own 2 · ga oa ca) (HO (by omega)))).trans (dq (aR (aF (by omega)) (cD (by omega)))),?_⟩
 refine⟨?_,rfl⟩
 unfold Q
 rfl)
end Go.Proofs.YtlclejemchbjiaaGreatDoor
namespace Go.Abs
open Go Go.RowKit
section
variable {P:Program} {N:Nat} {A A' B:AS}
theorem Gb{o:Oper}{K K':AS->Prop}(h:D5 P N o A K)(hK:∀ B,K B->∃ B',B8 B B'/\K' B'):D5 P N o A K':=
 fun Pb Kb a w F Q hs=>Oper.wp_mono (fun a' w' ⟨B,Pb',C5,F',hk,x7,h1⟩=>by
  obtain⟨B',e,L4⟩:=hK B hk
  exact⟨B',Pb',C5,F',L4,x7.eqv e,h1⟩) (h Pb Kb a w F Q hs)
def tC(A:AS)(ρ:l9->l9)(H:List (Nat×(Nat×V)))(q gq:Nat)(vq:V):List (Nat×Nat)->Prop
 | []=>True
 | (k,q')::r=>(match lk k H with
    | some (g,v)=>(match q'==q with
      | true=>(g,v.LY ρ)=(gq,vq)
      | false=>(match lk q' A.h with
        | some (g2,v2)=>(g,v.LY ρ)=(g2,v2)
        | none=>False))
    | none=>False)/\tC A ρ H q gq vq r
theorem vz{ρ:l9->l9}{H:List (Nat×(Nat×V))}{q gq:Nat}{vq:V}:∀ {ks:List (Nat×Nat)} {k q':Nat},tC A ρ H q gq vq ks->(k,q')∈ks->(lk k H).map (fun gv=>(gv.1,gv.2.LY ρ))=if q'=q then some (gq,vq) else lk q' A.h
 | [],_,_,_,h=>by simp at h
 | (k0,q0)::ks,k,q',h,hm=>by
   rcases List.mem_cons.1 hm with e | hm
   cases e
   have h1:=h.1
   split at h1
   rename_i g v hk
   rw[hk]
   split at h1
   rename_i e
   rw[if_pos (by simpa using e)]
   simp only[Option.map_some,Option.some.injEq]
   exact h1
   rename_i e
   rw[if_neg (by simpa using e)]
   split at h1
   rename_i g2 v2 e2
   rw[e2]
   simp only[Option.map_some,Option.some.injEq]
   exact h1
   exact h1.elim
   exact h1.elim
   exact vz h.2 hm
theorem DC{H:List (Nat×(Nat×V))}{q gq:Nat}{vq:V}{ks:List (Nat×Nat)}(h1:KK (ks.map (·.1))=true)(hn:KK (ks.map (·.2))=true)(h:tC A (jw ks) H q gq vq ks)(hq:q∈ks.map (·.2))(k:Nat):
 lk k (A.back ks H).h=if k=q then some (gq,vq) else lk k A.h:=by
 by_cases hk:k∈ks.map (·.2)
 obtain⟨⟨k0,q0⟩,hm,rfl⟩:=List.mem_map.1 hk
 have hs:lk q0 (LX ks)=some k0:=(nz h1 hn).1 (mg h1 hm)
 have:=vz h hm
 simp only[AS.back]
 rw[jM,nE hn,hs]
 simp only[Option.bind_some]
 rw[this]
 split
 rename_i v e;rw[<- e]
 rename_i e
 split at e
 cases e
 rename_i hne
 rw[gB,hs,if_neg hne,e];rfl
 rw[zD hn hk,if_neg (by rintro rfl;exact hk hq)]
def Vm(c:r5 P)(ks:List (Nat×Nat))(q gq:Nat)(vq:V):Eu P where
 X:=Unit
 pre N o A Sl Hl:=match o.op,o.dst with
  | .call ⟨.value fx,xs,_⟩,some d=>match A.ev fx,A.tk xs.toList with
    | .lit (.func (.func f) first w7),(vs,_)=>match f==c.f&&Nat.blt d N&&KK (ks.map (·.1))&&KK (ks.map (·.2))&&c.args.length==(first.toList.map cV++vs++w7.toList.map cV).length&&(ew A xs.toList).isEmpty&&Sl.contains d&&Hl.contains q&&(ks.map (·.2)).contains q with
      | true=>KU (first.toList.map cV++vs++w7.toList.map cV) c.args=c.args/\lO A ks c.H (c.pre/\tC A (jw ks) c.H' q gq vq ks)
      | false=>False
    | _,_=>False
  | _,_=>False
 U o _ _ B:=⟨(B.put o.dst (c.res.LY (jw ks))).t,(q,(gq,vq))::B.h⟩
 So:=by
  rintro N ⟨dst,op,ty,pos,after,C4⟩ A Sl Hl hp fs
  simp only at hp
  split at hp
  rename_i fx xs J6 d
  split at hp
  rename_i f first w7 vs A2 e1 e2
  split at hp
  rename_i e3
  simp only[Bool.and_eq_true,List.contains_eq_mem,decide_eq_true_eq]at e3
  have hd:d∈Sl:=e3.1.1.2
  have hq:q∈Hl:=e3.1.2
  refine⟨fun g B t ht=>?_,fun g B k hk=>?_,fun g B B' hB=>?_,fun g B q2 v' hq2 _=>?_,fun g B k gv hk=>?_⟩
  show (B.put (some d) _).get t=_
  rw[AS.ay,if_neg (fun c=>ht (by rw[c];exact hd))]
  simp only[lk]
  rw[if_neg (fun c=>hk (by rw[c];exact hq))]
  refine⟨fun t=>?_,fun k=>?_⟩
  show (B.put (some d) _).get t=(B'.put (some d) _).get t
  rw[AS.ay,AS.ay,hB.1 t]
  simp only[lk,hB.2 k]
  refine⟨fun t=>?_,fun k=>rfl⟩
  show ((B.put (some q2) v').put (some d) _).get t=((B.put (some d) _).put (some q2) v').get t
  rw[AS.ay,AS.ay,AS.ay,AS.ay]
  by_cases c:t=d
  subst c;rw[if_pos rfl,if_neg (fun c=>hq2 (by rw[<- c];exact hd)),if_pos rfl]
  rw[if_neg c,if_neg c]
  refine⟨fun _=>rfl,fun k2=>?_⟩
  simp only[lk]
  by_cases c:k2=q
  subst c;rw[if_pos rfl,if_neg (fun c=>hk (by rw[<- c];exact hq)),if_pos rfl]
  rw[if_neg c,if_neg c]
  exact hp.elim
  exact hp.elim
  exact hp.elim
 ok:=by
  rintro N ⟨dst,op,ty,pos,after,C4⟩ A A' Sl Hl hg hp hA hR
  simp only at hg
  subst hg
  simp only at hp
  split at hp
  rename_i fx xs J6 d
  split at hp
  rename_i f first w7 vs A2 e1 e2
  split at hp
  rename_i e3
  simp only[Bool.and_eq_true,List.contains_eq_mem,decide_eq_true_eq,beq_iff_eq,List.isEmpty_iff]at e3
  obtain⟨⟨⟨⟨⟨⟨⟨⟨rfl,Pz⟩,k1⟩,k2⟩,hlen⟩,H6⟩,hd⟩,hq⟩,TE⟩:=e3
  obtain⟨hargs,hrj⟩:=hp
  obtain⟨M0,Oz,Tf⟩:=iA hrj
  have Ru:A'.ev fx=A.ev fx:=bg fun t ht=>hA t (by subst ht;simp[Op.operands,Call.operands])
  obtain⟨t1,t2⟩:=rm xs.toList (A:=A) (A':=A') fun t ht=>hA t (by simp only[Op.operands,Call.operands];simp;right;simpa using ht)
  have Ql:=ri xs.toList (A:=A')
  rw[t2,H6]at Ql
  have R6:(A.tk xs.toList).1=vs:=by rw[e2]
  refine Gb (mj (A:=A') (K:=fun B=>B=((A'.tk xs.toList).2.back ks c.H').put (some d) (c.res.LY (jw ks))) ks rfl (by rw[Ru];exact e1) (bn Pz) k1 k2 (c.ok Oz) (by rw[t1,R6];exact hargs) (by rw[t1,R6];exact hlen)
   (kO (fun k _=>(Ql.2 k).trans (hR k)) M0) ?_) ?_
  rintro r H0 ⟨rfl,rfl⟩;rfl
  rintro B rfl
  refine⟨_,⟨fun t=>?_,fun k=>?_⟩,(),rfl⟩
  show (AS.put _ (some d) _).get t=(A'.put (some d) _).get t
  rw[AS.ay,AS.ay]
  split
  rfl
  exact Ql.1 t
  show lk k ((A'.tk xs.toList).2.back ks c.H').h=lk k ((q,(gq,vq))::A'.h)
  rw[oK (B:=A) (fun k=>(Ql.2 k).trans (hR k)),DC k1 k2 Tf TE]
  simp only[lk,hR k]
  exact hp.elim
  exact hp.elim
  exact hp.elim
end
end Go.Abs
namespace Go.Proofs.YtlclejemchbjiaaGreatDoor
open Go Go.Abs Go.RowKit Go.Pd
set_option maxRecDepth 20000
abbrev qc(p0:BL)(p1:Int)(p2:List l6)(p3:Nat)(p4:BL)(p5:Int)(p6:V)(p7:List s8)(p8:Nat)(p9:Int)(Nv:List w3)(N':Nat)(N9:Nat)(N8:Nat)(N7:List BL)(N6:List m9):V:=.agg [sV p0,iV p1,.own 8 ((p2.take p3).map aA++(.agg [sV p4,iV p5,bV true,.agg [ p6,.sl false (p7.map au),iN p8],iV p9,.ow 2 (Nv.map ak)]:V)::(p2.drop (p3+1)).map aA) N' N9 N8,.ow 1 (N7.map sV),.ow 3 (N6.map aN)]
abbrev zQ(p0:BL)(p1:Int)(p2:List l6)(p3:Nat)(p4:BL)(p5:Int)(p6:List BL)(p7:List s8)(p8:Nat)(p9:Int)(Nv:List w3)(N':Nat)(N9:Nat)(N8:Nat)(N7:List BL)(N6:List m9):V:=.agg [sV p0,iV p1,.own 8 ((p2.take p3).map aA++(.agg [sV p4,iV p5,bV true,.agg [.sl false (p6.map sV),.sl false (p7.map au),iN p8],iV p9,.ow 2 (Nv.map ak)]:V)::(p2.drop (p3+1)).map aA) N' N9 N8,.ow 1 (N7.map sV),.ow 3 (N6.map aN)]
theorem CD{y:l6}{l:List w3}:((fy y l).map ak).take (l.filter (KL y)).length=(l.filter (KL y)).map ak:=by
 unfold fy;rw[<- List.map_take,List.take_left'];rfl
theorem DP{y:l6}{l:List w3}:(fy y l).length=l.length:=by
 have:=List.length_filter_le (KL y) l
 unfold fy;simp;omega
theorem Be{α:Type}{l:List α}{f:α->V}{a:α}{i:Nat}(h:i<l.length):(l.set i a).map f=(l.take i).map f++f a::(l.drop (i+1)).map f:=(kr (f:=f) (x:=a) h).symm
theorem Jz{w:List Pg}{n:BL}{y:l6}{a8:Int}(h:(ab w (ae y.na) y.tr).1=3/\y.tr+1<3):Oc w n y a8={ o6 w y a8 with tr:=y.tr+1 }:=if_pos h
theorem Jd{w:List Pg}{n:BL}{y:l6}{a8:Int}(h:(ab w (ae y.na) y.tr).1=3->3<=y.tr+1):Oc w n y a8={ o6 w y a8 with kn:=true,gr:=cM w n y.na,re:=max (o6 w y a8).re (a8+((cM w n y.na).wa:Int)),td:=y.td.filter (LO (cM w n y.na).ru) }:=if_neg fun c=>by have:=h c.1;omega
def wX(n:BL)(a8:Int)(zs:List l6)(se:List BL)(ls:List m9)(gt:Nat)(g:Nat)(o:Nat)(c:Nat)(gw:Nat)(ix:Nat)(w:List Pg):r5 Tryz.prog:=.mk 106 [.ptr (.key 1001) [] gw 0,.ptr (.key 1000) [2,ix] g (o+ix*8)] [(1001,(gw,.agg [.mp (w.map E5),.ptr (.key 1000) [] gt 0])),(1000,(gt,bm n a8 zs g o c se ls))] ((ix<zs.length)/\(ls.length<=1000)/\(0<=a8/\a8<=100000)/\(HS 60 (zs.getD ix e9))/\(∀ i,n0 (w.getD i l4))) (.tup []) [(1001,(gw,.agg [.mp (w.map E5),.ptr (.key 1000) [] gt 0])),(1000,(gt,bm n a8 (zs.set ix (Oc w n (zs.getD ix e9) a8)) g o c se (ls++[(⟨a8,ae (zs.getD ix e9).na,(ab w (ae (zs.getD ix e9).na) (zs.getD ix e9).tr).1⟩:m9)])))] (by
 rintro⟨hi,hl,hn,hy,hz⟩
 generalize Vc:zs.getD ix e9=y
 refine aw (N:=89) (rs:=[]) Tryz.func106
  (.bx (fun g3=>.r 5 [.b9]<|.dx 16 [0,1,2,3,4,5,6,7,8,9,10,11,12,13,14,15] [(1,⟨false,[],some [3],[13],[]⟩),(2,⟨false,[],some [3],[14],[]⟩),(5,⟨false,[],some [1000],[17],[]⟩),(7,⟨false,[],some [3],[19],[]⟩),(10,⟨false,[],some [1000],[22],[]⟩),(11,⟨true,[],some [1000,1001],[23],[1000,1001]⟩)] []<|.q 1<|.r 1 [.b9]<|.r 1 [.b9]<|.q 1<|.q 1<|.r 1 [sV (y.na)]<|.c (jt (y.na)) []<|.r 1 [.b9]<|.q 1<|.q 1<|.r 1 [iV (y.tr)]<|.c (xj n a8 zs se ls gt g o c gw ix w (ae (y.na)) (y.tr) y) [(1001,1001),(1000,1000)]<|.q 1<|.q 1<|.q 1<|.q 1<|.q 1<|.h (.z7 1000 (cw n a8 zs ix (y.na) ((o6 w y a8).re) (y.kn) (y.gr.na) (y.gr.ru) (y.gr.wa) (y.tr) (y.td) g o c se (ls++[(⟨a8,(ae (y.na)),(ab w (ae (y.na)) (y.tr)).1⟩:m9)])))<|.r 10 [.b9,iV (y.tr)]<|.br (.r 7 [.b9,iV (y.tr)]<|.st (some (iV (y.tr)))<|.h (.z7 1000 (cw n a8 zs ix (y.na) ((o6 w y a8).re) (y.kn) (y.gr.na) (y.gr.ru) (y.gr.wa) ((y.tr)+1) (y.td) g o c se (ls++[(⟨a8,(ae (y.na)),(ab w (ae (y.na)) (y.tr)).1⟩:m9)])))<|.h (.z7 1000 (bm n a8 (zs.set ix ({ o6 w y a8 with tr:=y.tr+1 }:l6)) g o c se (ls++[(⟨a8,(ae (y.na)),(ab w (ae (y.na)) (y.tr)).1⟩:m9)])))<|.nil) (.r 3 [.b9]<|.st (some (bV (y.kn)))<|.h (.z7 1000 (zQ n a8 zs ix (y.na) ((o6 w y a8).re) (y.gr.na) (y.gr.ru) (y.gr.wa) (y.tr) (y.td) g o c se (ls++[(⟨a8,(ae (y.na)),(ab w (ae (y.na)) (y.tr)).1⟩:m9)])))<|.dx 14 [0,1,2,3,4,5,6,7,8,9,10,11,12,13] [(0,⟨false,[],some [3],[46],[]⟩),(4,⟨false,[],some [1001],[50],[]⟩),(5,⟨false,[],some [3],[51],[]⟩),(8,⟨false,[],some [1000],[54],[]⟩),(12,⟨false,[],some [1000],[58],[]⟩)] []<|.r 1 [.b9]<|.q 1<|.q 1<|.q 1<|.r 1 [.b9]<|.r 1 [.b9]<|.q 1<|.q 1<|.r 1 [sV (y.na)]<|.q 1<|.q 1<|.q 1<|.r 1 [.b9]<|.c (vv w (y.na) n) []<|.q 2<|.st (some (ej (y.gr.na) (y.gr.ru) (y.gr.wa)))<|.h (.z7 1000 (qc n a8 zs ix (y.na) ((o6 w y a8).re) (.sl false ([n].map sV)) ((ah (ab w (ae (y.na)) 2).1 (ab w (ae (y.na)) 2).2 n).ru) ((ah (ab w (ae (y.na)) 2).1 (ab w (ae (y.na)) 2).2 n).wa) (y.tr) (y.td) g o c se (ls++[(⟨a8,(ae (y.na)),(ab w (ae (y.na)) (y.tr)).1⟩:m9)])))<|.dx 16 [0,1,2,3,4,5,6,7,8,9,10,11,12,13,14,15] [(0,⟨false,[],some [3],[62],[]⟩),(1,⟨false,[],some [3],[63],[]⟩),(4,⟨false,[],some [1000],[66],[]⟩),(8,⟨false,[],some [1000],[70],[]⟩),(9,⟨false,[],some [3],[71],[]⟩),(13,⟨false,[],some [1000],[75],[]⟩)] []<|.r 1 [.b9]<|.r 1 [.b9]<|.q 1<|.q 1<|.r 1 [iV ((o6 w y a8).re)]<|.q 1<|.q 1<|.q 1<|.r 1 [.b9]<|.r 1 [.b9]<|.q 1<|.q 1<|.q 1<|.r 1 [iN ((ah (ab w (ae (y.na)) 2).1 (ab w (ae (y.na)) 2).2 n).wa)]<|.q 1<|.mm<|.q 2<|.st (some (iV ((o6 w y a8).re)))<|.h (.z7 1000 (qc n a8 zs ix (y.na) (max ((o6 w y a8).re) (a8+(((ah (ab w (ae (y.na)) 2).1 (ab w (ae (y.na)) 2).2 n).wa:Nat):Int))) (.sl false ([n].map sV)) ((ah (ab w (ae (y.na)) 2).1 (ab w (ae (y.na)) 2).2 n).ru) ((ah (ab w (ae (y.na)) 2).1 (ab w (ae (y.na)) 2).2 n).wa) (y.tr) (y.td) g o c se (ls++[(⟨a8,(ae (y.na)),(ab w (ae (y.na)) (y.tr)).1⟩:m9)])))<|.NK (.key 1000) [2,ix,5] g (o+(ix)*8+7) 2 ((y.td).map ak) (fun ga oa ca=>.h (.z7 1000 (.agg [sV n,iV a8,.own 8 ((zs.take ix).map aA++(.agg [sV (y.na),iV (max ((o6 w y a8).re) (a8+(((ah (ab w (ae (y.na)) 2).1 (ab w (ae (y.na)) 2).2 n).wa:Nat):Int))),bV true,iH (.sl false ([n].map sV)) ((ah (ab w (ae (y.na)) 2).1 (ab w (ae (y.na)) 2).2 n).ru) ((ah (ab w (ae (y.na)) 2).1 (ab w (ae (y.na)) 2).2 n).wa),iV (y.tr),.own 2 ((y.td).map ak) ga oa ca]:V)::(zs.drop (ix+1)).map aA) g o c,.ow 1 (se.map sV),.ow 3 ((ls++[(⟨a8,(ae (y.na)),(ab w (ae (y.na)) (y.tr)).1⟩:m9)]).map aN)]))<|.dx 7 [0,1,2,3,4,5,6] [(0,⟨false,[],some [3],[80],[]⟩),(1,⟨false,[],some [3],[81],[]⟩),(4,⟨false,[],some [1000],[84],[]⟩),(5,⟨true,[],none,[85],[]⟩),(6,⟨true,[],none,[86],[1000]⟩)] []<|.r 1 [.b9]<|.r 1 [.b9]<|.q 1<|.q 1<|.r 1 [.own 2 ((y.td).map ak) ga oa ca]<|.eu mfE (fun _=>.eu (Vm (Bs n a8 zs se (ls++[(⟨a8,(ae (y.na)),(ab w (ae (y.na)) (y.tr)).1⟩:m9)]) gt g o c ix (⟨y.na,max ((o6 w y a8).re) (a8+(((ah (ab w (ae (y.na)) 2).1 (ab w (ae (y.na)) 2).2 n).wa:Nat):Int)),true,⟨[n],(ah (ab w (ae (y.na)) 2).1 (ab w (ae (y.na)) 2).2 n).ru,(ah (ab w (ae (y.na)) 2).1 (ab w (ae (y.na)) 2).2 n).wa⟩,y.tr,[]⟩:l6) ga oa ca (y.td) g3) [(1002,3),(1000,1000)] 1000 gt (ba n a8 zs ix ((⟨y.na,max ((o6 w y a8).re) (a8+(((ah (ab w (ae (y.na)) 2).1 (ab w (ae (y.na)) 2).2 n).wa:Nat):Int)),true,⟨[n],(ah (ab w (ae (y.na)) 2).1 (ab w (ae (y.na)) 2).2 n).ru,(ah (ab w (ae (y.na)) 2).1 (ab w (ae (y.na)) 2).2 n).wa⟩,y.tr,[]⟩:l6).na) ((⟨y.na,max ((o6 w y a8).re) (a8+(((ah (ab w (ae (y.na)) 2).1 (ab w (ae (y.na)) 2).2 n).wa:Nat):Int)),true,⟨[n],(ah (ab w (ae (y.na)) 2).1 (ab w (ae (y.na)) 2).2 n).ru,(ah (ab w (ae (y.na)) 2).1 (ab w (ae (y.na)) 2).2 n).wa⟩,y.tr,[]⟩:l6).re) ((⟨y.na,max ((o6 w y a8).re) (a8+(((ah (ab w (ae (y.na)) 2).1 (ab w (ae (y.na)) 2).2 n).wa:Nat):Int)),true,⟨[n],(ah (ab w (ae (y.na)) 2).1 (ab w (ae (y.na)) 2).2 n).ru,(ah (ab w (ae (y.na)) 2).1 (ab w (ae (y.na)) 2).2 n).wa⟩,y.tr,[]⟩:l6).kn) ((⟨y.na,max ((o6 w y a8).re) (a8+(((ah (ab w (ae (y.na)) 2).1 (ab w (ae (y.na)) 2).2 n).wa:Nat):Int)),true,⟨[n],(ah (ab w (ae (y.na)) 2).1 (ab w (ae (y.na)) 2).2 n).ru,(ah (ab w (ae (y.na)) 2).1 (ab w (ae (y.na)) 2).2 n).wa⟩,y.tr,[]⟩:l6).gr.na) ((⟨y.na,max ((o6 w y a8).re) (a8+(((ah (ab w (ae (y.na)) 2).1 (ab w (ae (y.na)) 2).2 n).wa:Nat):Int)),true,⟨[n],(ah (ab w (ae (y.na)) 2).1 (ab w (ae (y.na)) 2).2 n).ru,(ah (ab w (ae (y.na)) 2).1 (ab w (ae (y.na)) 2).2 n).wa⟩,y.tr,[]⟩:l6).gr.ru) ((⟨y.na,max ((o6 w y a8).re) (a8+(((ah (ab w (ae (y.na)) 2).1 (ab w (ae (y.na)) 2).2 n).wa:Nat):Int)),true,⟨[n],(ah (ab w (ae (y.na)) 2).1 (ab w (ae (y.na)) 2).2 n).ru,(ah (ab w (ae (y.na)) 2).1 (ab w (ae (y.na)) 2).2 n).wa⟩,y.tr,[]⟩:l6).gr.wa) ((⟨y.na,max ((o6 w y a8).re) (a8+(((ah (ab w (ae (y.na)) 2).1 (ab w (ae (y.na)) 2).2 n).wa:Nat):Int)),true,⟨[n],(ah (ab w (ae (y.na)) 2).1 (ab w (ae (y.na)) 2).2 n).ru,(ah (ab w (ae (y.na)) 2).1 (ab w (ae (y.na)) 2).2 n).wa⟩,y.tr,[]⟩:l6).tr) (fy (⟨y.na,max ((o6 w y a8).re) (a8+(((ah (ab w (ae (y.na)) 2).1 (ab w (ae (y.na)) 2).2 n).wa:Nat):Int)),true,⟨[n],(ah (ab w (ae (y.na)) 2).1 (ab w (ae (y.na)) 2).2 n).ru,(ah (ab w (ae (y.na)) 2).1 (ab w (ae (y.na)) 2).2 n).wa⟩,y.tr,[]⟩:l6) (y.td)) ga oa ca g o c se (ls++[(⟨a8,(ae (y.na)),(ab w (ae (y.na)) (y.tr)).1⟩:m9)]))) (fun _=>.q 2<|.cu (VA 1000 [2,ix,5] (((y.td).filter (KL (⟨y.na,max ((o6 w y a8).re) (a8+(((ah (ab w (ae (y.na)) 2).1 (ab w (ae (y.na)) 2).2 n).wa:Nat):Int)),true,⟨[n],(ah (ab w (ae (y.na)) 2).1 (ab w (ae (y.na)) 2).2 n).ru,(ah (ab w (ae (y.na)) 2).1 (ab w (ae (y.na)) 2).2 n).wa⟩,y.tr,[]⟩:l6))).length) 2 ((fy (⟨y.na,max ((o6 w y a8).re) (a8+(((ah (ab w (ae (y.na)) 2).1 (ab w (ae (y.na)) 2).2 n).wa:Nat):Int)),true,⟨[n],(ah (ab w (ae (y.na)) 2).1 (ab w (ae (y.na)) 2).2 n).ru,(ah (ab w (ae (y.na)) 2).1 (ab w (ae (y.na)) 2).2 n).wa⟩,y.tr,[]⟩:l6) (y.td)).map ak) ga oa ca g (o+(ix)*8+7)) (fun _=>.h (.z7 1000 (ba n a8 zs ix ((⟨y.na,max ((o6 w y a8).re) (a8+(((ah (ab w (ae (y.na)) 2).1 (ab w (ae (y.na)) 2).2 n).wa:Nat):Int)),true,⟨[n],(ah (ab w (ae (y.na)) 2).1 (ab w (ae (y.na)) 2).2 n).ru,(ah (ab w (ae (y.na)) 2).1 (ab w (ae (y.na)) 2).2 n).wa⟩,y.tr,[]⟩:l6).na) ((⟨y.na,max ((o6 w y a8).re) (a8+(((ah (ab w (ae (y.na)) 2).1 (ab w (ae (y.na)) 2).2 n).wa:Nat):Int)),true,⟨[n],(ah (ab w (ae (y.na)) 2).1 (ab w (ae (y.na)) 2).2 n).ru,(ah (ab w (ae (y.na)) 2).1 (ab w (ae (y.na)) 2).2 n).wa⟩,y.tr,[]⟩:l6).re) ((⟨y.na,max ((o6 w y a8).re) (a8+(((ah (ab w (ae (y.na)) 2).1 (ab w (ae (y.na)) 2).2 n).wa:Nat):Int)),true,⟨[n],(ah (ab w (ae (y.na)) 2).1 (ab w (ae (y.na)) 2).2 n).ru,(ah (ab w (ae (y.na)) 2).1 (ab w (ae (y.na)) 2).2 n).wa⟩,y.tr,[]⟩:l6).kn) ((⟨y.na,max ((o6 w y a8).re) (a8+(((ah (ab w (ae (y.na)) 2).1 (ab w (ae (y.na)) 2).2 n).wa:Nat):Int)),true,⟨[n],(ah (ab w (ae (y.na)) 2).1 (ab w (ae (y.na)) 2).2 n).ru,(ah (ab w (ae (y.na)) 2).1 (ab w (ae (y.na)) 2).2 n).wa⟩,y.tr,[]⟩:l6).gr.na) ((⟨y.na,max ((o6 w y a8).re) (a8+(((ah (ab w (ae (y.na)) 2).1 (ab w (ae (y.na)) 2).2 n).wa:Nat):Int)),true,⟨[n],(ah (ab w (ae (y.na)) 2).1 (ab w (ae (y.na)) 2).2 n).ru,(ah (ab w (ae (y.na)) 2).1 (ab w (ae (y.na)) 2).2 n).wa⟩,y.tr,[]⟩:l6).gr.ru) ((⟨y.na,max ((o6 w y a8).re) (a8+(((ah (ab w (ae (y.na)) 2).1 (ab w (ae (y.na)) 2).2 n).wa:Nat):Int)),true,⟨[n],(ah (ab w (ae (y.na)) 2).1 (ab w (ae (y.na)) 2).2 n).ru,(ah (ab w (ae (y.na)) 2).1 (ab w (ae (y.na)) 2).2 n).wa⟩,y.tr,[]⟩:l6).gr.wa) ((⟨y.na,max ((o6 w y a8).re) (a8+(((ah (ab w (ae (y.na)) 2).1 (ab w (ae (y.na)) 2).2 n).wa:Nat):Int)),true,⟨[n],(ah (ab w (ae (y.na)) 2).1 (ab w (ae (y.na)) 2).2 n).ru,(ah (ab w (ae (y.na)) 2).1 (ab w (ae (y.na)) 2).2 n).wa⟩,y.tr,[]⟩:l6).tr) (y.td.filter (LO (cM w n y.na).ru)) ga oa ca g o c se (ls++[(⟨a8,(ae (y.na)),(ab w (ae (y.na)) (y.tr)).1⟩:m9)])))<|.h (.Na (.key 1000) [2,ix,5] g (o+(ix)*8+7) (.own 2 ((y.td.filter (LO (cM w n y.na).ru)).map ak) ga oa ca) (.ow 2 ((y.td.filter (LO (cM w n y.na).ru)).map ak)))<|.h (.z7 1000 (cw n a8 zs ix ((⟨y.na,max ((o6 w y a8).re) (a8+(((ah (ab w (ae (y.na)) 2).1 (ab w (ae (y.na)) 2).2 n).wa:Nat):Int)),true,⟨[n],(ah (ab w (ae (y.na)) 2).1 (ab w (ae (y.na)) 2).2 n).ru,(ah (ab w (ae (y.na)) 2).1 (ab w (ae (y.na)) 2).2 n).wa⟩,y.tr,[]⟩:l6).na) ((⟨y.na,max ((o6 w y a8).re) (a8+(((ah (ab w (ae (y.na)) 2).1 (ab w (ae (y.na)) 2).2 n).wa:Nat):Int)),true,⟨[n],(ah (ab w (ae (y.na)) 2).1 (ab w (ae (y.na)) 2).2 n).ru,(ah (ab w (ae (y.na)) 2).1 (ab w (ae (y.na)) 2).2 n).wa⟩,y.tr,[]⟩:l6).re) ((⟨y.na,max ((o6 w y a8).re) (a8+(((ah (ab w (ae (y.na)) 2).1 (ab w (ae (y.na)) 2).2 n).wa:Nat):Int)),true,⟨[n],(ah (ab w (ae (y.na)) 2).1 (ab w (ae (y.na)) 2).2 n).ru,(ah (ab w (ae (y.na)) 2).1 (ab w (ae (y.na)) 2).2 n).wa⟩,y.tr,[]⟩:l6).kn) ((⟨y.na,max ((o6 w y a8).re) (a8+(((ah (ab w (ae (y.na)) 2).1 (ab w (ae (y.na)) 2).2 n).wa:Nat):Int)),true,⟨[n],(ah (ab w (ae (y.na)) 2).1 (ab w (ae (y.na)) 2).2 n).ru,(ah (ab w (ae (y.na)) 2).1 (ab w (ae (y.na)) 2).2 n).wa⟩,y.tr,[]⟩:l6).gr.na) ((⟨y.na,max ((o6 w y a8).re) (a8+(((ah (ab w (ae (y.na)) 2).1 (ab w (ae (y.na)) 2).2 n).wa:Nat):Int)),true,⟨[n],(ah (ab w (ae (y.na)) 2).1 (ab w (ae (y.na)) 2).2 n).ru,(ah (ab w (ae (y.na)) 2).1 (ab w (ae (y.na)) 2).2 n).wa⟩,y.tr,[]⟩:l6).gr.ru) ((⟨y.na,max ((o6 w y a8).re) (a8+(((ah (ab w (ae (y.na)) 2).1 (ab w (ae (y.na)) 2).2 n).wa:Nat):Int)),true,⟨[n],(ah (ab w (ae (y.na)) 2).1 (ab w (ae (y.na)) 2).2 n).ru,(ah (ab w (ae (y.na)) 2).1 (ab w (ae (y.na)) 2).2 n).wa⟩,y.tr,[]⟩:l6).gr.wa) ((⟨y.na,max ((o6 w y a8).re) (a8+(((ah (ab w (ae (y.na)) 2).1 (ab w (ae (y.na)) 2).2 n).wa:Nat):Int)),true,⟨[n],(ah (ab w (ae (y.na)) 2).1 (ab w (ae (y.na)) 2).2 n).ru,(ah (ab w (ae (y.na)) 2).1 (ab w (ae (y.na)) 2).2 n).wa⟩,y.tr,[]⟩:l6).tr) (y.td.filter (LO (cM w n y.na).ru)) g o c se (ls++[(⟨a8,(ae (y.na)),(ab w (ae (y.na)) (y.tr)).1⟩:m9)])))<|.h (.z7 1000 (bm n a8 (zs.set ix ({ o6 w y a8 with kn:=true,gr:=(cM w n y.na),re:=max (o6 w y a8).re (a8+((cM w n y.na).wa:Int)),td:=y.td.filter (LO (cM w n y.na).ru) }:l6)) g o c se (ls++[(⟨a8,(ae (y.na)),(ab w (ae (y.na)) (y.tr)).1⟩:m9)])))<|.nil)))))))
  ((fun v1:Int=>(fun v9:V=>(fun v2:V=>(fun v3:V=>(fun v4:V=>(fun v5:V=>(fun v6:Bool=>(fun v7:V=>(fun v8:V=>(fun v10:V=>(∀ g3:Nat,True/\Z gw 1/\Z g3 0/\Z g3 0/\True/\(V.at gt 0 v10 [2,ix,0]=some (g,(o+ix*8+0),sV (y.na)))/\(jt (y.na)).sm/\(((y.na).length<=4000000000000000000))/\Z g3 0/\True/\(V.at gt 0 v10 [2,ix,4]=some (g,(o+ix*8+6),iV (y.tr)))/\(([.ptr (.key 1001) [] gw 0,.ptr (.key 1000) [2,ix] g (o+ix*8),sV (ae (y.na)),iV (y.tr)]:List V)=[.ptr (.key 1001) [] gw 0,.ptr (.key 1000) [2,ix] g (o+ix*8),sV (ae (y.na)),iV (y.tr)])/\Er gw v8/\Er gt v10/\((ix<zs.length)/\(ls.length<=1000)/\(0<=(y.tr)/\(y.tr)<=1000)/\(0<=a8/\a8<=100000)/\(y=y)/\(y.gr.wa<=1000))/\((bm n a8 (zs.set ix (eL y a8 (ab w (ae (y.na)) (y.tr)).1 (y.tr))) g o c se (ls++[(⟨a8,(ae (y.na)),(ab w (ae (y.na)) (y.tr)).1⟩:m9)]):V)=cw n a8 zs ix (y.na) ((o6 w y a8).re) (y.kn) (y.gr.na) (y.gr.ru) (y.gr.wa) (y.tr) (y.td) g o c se (ls++[(⟨a8,(ae (y.na)),(ab w (ae (y.na)) (y.tr)).1⟩:m9)]))/\Gd (v6==true) (Z g3 0)/\Gd (v6==true) True/\Gd (v6==true) (V.at gt 0 v3 [2,ix,4]=some (g,(o+ix*8+6),iV (y.tr)))/\Gd (v6==true) (m8 ((y.tr)+1))/\Pk v6 (v6==true) true/\Br (v6&&(s7 ((y.tr)+1) 3)) (Z g3 0/\True/\(V.at gt 0 v3 [2,ix,4]=some (g,(o+ix*8+6),iV (y.tr)))/\m8 ((y.tr)+1)/\True/\(V.at gt 0 v3 [2,ix,4]=some (g,(o+ix*8+6),iV (y.tr)))/\(V.set v3 [2,ix,4] (iV ((y.tr)+1))=cw n a8 zs ix (y.na) ((o6 w y a8).re) (y.kn) (y.gr.na) (y.gr.ru) (y.gr.wa) ((y.tr)+1) (y.td) g o c se (ls++[(⟨a8,(ae (y.na)),(ab w (ae (y.na)) (y.tr)).1⟩:m9)]))/\((cw n a8 zs ix (y.na) ((o6 w y a8).re) (y.kn) (y.gr.na) (y.gr.ru) (y.gr.wa) ((y.tr)+1) (y.td) g o c se (ls++[(⟨a8,(ae (y.na)),(ab w (ae (y.na)) (y.tr)).1⟩:m9)]):V)=bm n a8 (zs.set ix ({ o6 w y a8 with tr:=y.tr+1 }:l6)) g o c se (ls++[(⟨a8,(ae (y.na)),(ab w (ae (y.na)) (y.tr)).1⟩:m9)]))/\Q (.tup []) (.tup [])/\Er gw v8/\Qr gt (bm n a8 (zs.set ix ({ o6 w y a8 with tr:=y.tr+1 }:l6)) g o c se (ls++[(⟨a8,(ae (y.na)),(ab w (ae (y.na)) (y.tr)).1⟩:m9)])) gt v7) (Z g3 0/\True/\(V.at gt 0 v3 [2,ix,2]=some (g,(o+ix*8+2),bV (y.kn)))/\(V.set v3 [2,ix,2] (bV true)=zQ n a8 zs ix (y.na) ((o6 w y a8).re) (y.gr.na) (y.gr.ru) (y.gr.wa) (y.tr) (y.td) g o c se (ls++[(⟨a8,(ae (y.na)),(ab w (ae (y.na)) (y.tr)).1⟩:m9)]))/\Z g3 0/\True/\Z gw 0/\Z g3 0/\True/\(V.at gt 0 v4 [2,ix,0]=some (g,(o+ix*8+0),sV (y.na)))/\True/\Z gt 0/\(vv w (y.na) n).sm/\(((y.na).length<=1000)/\((ab w (ae (y.na)) 2).2.length<=1000000))/\True/\(V.at gt 0 v4 [2,ix,3]=some (g,(o+ix*8+3),ej (y.gr.na) (y.gr.ru) (y.gr.wa)))/\(V.set v4 [2,ix,3] (iH v9 ((ah (ab w (ae (y.na)) 2).1 (ab w (ae (y.na)) 2).2 n).ru) ((ah (ab w (ae (y.na)) 2).1 (ab w (ae (y.na)) 2).2 n).wa))=qc n a8 zs ix (y.na) ((o6 w y a8).re) v9 ((ah (ab w (ae (y.na)) 2).1 (ab w (ae (y.na)) 2).2 n).ru) ((ah (ab w (ae (y.na)) 2).1 (ab w (ae (y.na)) 2).2 n).wa) (y.tr) (y.td) g o c se (ls++[(⟨a8,(ae (y.na)),(ab w (ae (y.na)) (y.tr)).1⟩:m9)]))/\Z g3 0/\Z g3 0/\True/\(V.at gt 0 v2 [2,ix,1]=some (g,(o+ix*8+1),iV ((o6 w y a8).re)))/\True/\Z gt 1/\Z g3 0/\True/\(V.at gt 0 v2 [2,ix,3,2]=some (g,(o+ix*8+3+2),iN ((ah (ab w (ae (y.na)) 2).1 (ab w (ae (y.na)) 2).2 n).wa)))/\m8 (a8+v1)/\(IntKind.i64=IntKind.i64)/\True/\(V.at gt 0 v2 [2,ix,1]=some (g,(o+ix*8+1),iV ((o6 w y a8).re)))/\(V.set v2 [2,ix,1] (iV (max ((o6 w y a8).re) (a8+v1)))=qc n a8 zs ix (y.na) (max ((o6 w y a8).re) (a8+v1)) v9 ((ah (ab w (ae (y.na)) 2).1 (ab w (ae (y.na)) 2).2 n).ru) ((ah (ab w (ae (y.na)) 2).1 (ab w (ae (y.na)) 2).2 n).wa) (y.tr) (y.td) g o c se (ls++[(⟨a8,(ae (y.na)),(ab w (ae (y.na)) (y.tr)).1⟩:m9)]))/\(V.at gt 0 v5 [2,ix,5]=some (g,o+(ix)*8+7,.ow 2 ((y.td).map ak)))/\∀ ga oa ca:Nat,(fun v11:V=>(V.set v5 [2,ix,5] (.own 2 ((y.td).map ak) ga oa ca)=.agg [sV n,iV a8,.own 8 ((zs.take ix).map aA++v11::(zs.drop (ix+1)).map aA) g o c,.ow 1 (se.map sV),.ow 3 ((ls++[(⟨a8,(ae (y.na)),(ab w (ae (y.na)) (y.tr)).1⟩:m9)]).map aN)])/\Z g3 0/\Z g3 0/\True/\(V.at gt 0 (.agg [sV n,iV a8,.own 8 ((zs.take ix).map aA++v11::(zs.drop (ix+1)).map aA) g o c,.ow 1 (se.map sV),.ow 3 ((ls++[(⟨a8,(ae (y.na)),(ab w (ae (y.na)) (y.tr)).1⟩:m9)]).map aN)]) [2,ix,5]=some (g,(o+ix*8+7),.own 2 ((y.td).map ak) ga oa ca))/\((Value.func (.func 135) #[] #[.pointer (some ⟨g3,0,none⟩)]).oneCell'=true)/\∀ _:Unit,((Bs n a8 zs se (ls++[(⟨a8,(ae (y.na)),(ab w (ae (y.na)) (y.tr)).1⟩:m9)]) gt g o c ix (⟨y.na,max ((o6 w y a8).re) (a8+v1),true,⟨[n],(ah (ab w (ae (y.na)) 2).1 (ab w (ae (y.na)) 2).2 n).ru,(ah (ab w (ae (y.na)) 2).1 (ab w (ae (y.na)) 2).2 n).wa⟩,y.tr,[]⟩:l6) ga oa ca (y.td) g3).sm/\Er g3 (.ptr (.key 1000) [2,ix] g (o+ix*8))/\Er gt (ba n a8 zs ix ((⟨y.na,max ((o6 w y a8).re) (a8+v1),true,⟨[n],(ah (ab w (ae (y.na)) 2).1 (ab w (ae (y.na)) 2).2 n).ru,(ah (ab w (ae (y.na)) 2).1 (ab w (ae (y.na)) 2).2 n).wa⟩,y.tr,[]⟩:l6).na) ((⟨y.na,max ((o6 w y a8).re) (a8+v1),true,⟨[n],(ah (ab w (ae (y.na)) 2).1 (ab w (ae (y.na)) 2).2 n).ru,(ah (ab w (ae (y.na)) 2).1 (ab w (ae (y.na)) 2).2 n).wa⟩,y.tr,[]⟩:l6).re) ((⟨y.na,max ((o6 w y a8).re) (a8+v1),true,⟨[n],(ah (ab w (ae (y.na)) 2).1 (ab w (ae (y.na)) 2).2 n).ru,(ah (ab w (ae (y.na)) 2).1 (ab w (ae (y.na)) 2).2 n).wa⟩,y.tr,[]⟩:l6).kn) ((⟨y.na,max ((o6 w y a8).re) (a8+v1),true,⟨[n],(ah (ab w (ae (y.na)) 2).1 (ab w (ae (y.na)) 2).2 n).ru,(ah (ab w (ae (y.na)) 2).1 (ab w (ae (y.na)) 2).2 n).wa⟩,y.tr,[]⟩:l6).gr.na) ((⟨y.na,max ((o6 w y a8).re) (a8+v1),true,⟨[n],(ah (ab w (ae (y.na)) 2).1 (ab w (ae (y.na)) 2).2 n).ru,(ah (ab w (ae (y.na)) 2).1 (ab w (ae (y.na)) 2).2 n).wa⟩,y.tr,[]⟩:l6).gr.ru) ((⟨y.na,max ((o6 w y a8).re) (a8+v1),true,⟨[n],(ah (ab w (ae (y.na)) 2).1 (ab w (ae (y.na)) 2).2 n).ru,(ah (ab w (ae (y.na)) 2).1 (ab w (ae (y.na)) 2).2 n).wa⟩,y.tr,[]⟩:l6).gr.wa) ((⟨y.na,max ((o6 w y a8).re) (a8+v1),true,⟨[n],(ah (ab w (ae (y.na)) 2).1 (ab w (ae (y.na)) 2).2 n).ru,(ah (ab w (ae (y.na)) 2).1 (ab w (ae (y.na)) 2).2 n).wa⟩,y.tr,[]⟩:l6).tr) (y.td) ga oa ca g o c se (ls++[(⟨a8,(ae (y.na)),(ab w (ae (y.na)) (y.tr)).1⟩:m9)]))/\(((ix<zs.length)/\((y.td).length<=1000)/\(∀ x,x∈(y.td)->x.ad.length<=1000/\m6 x.ad)/\((⟨y.na,max ((o6 w y a8).re) (a8+v1),true,⟨[n],(ah (ab w (ae (y.na)) 2).1 (ab w (ae (y.na)) 2).2 n).ru,(ah (ab w (ae (y.na)) 2).1 (ab w (ae (y.na)) 2).2 n).wa⟩,y.tr,[]⟩:l6).gr.ru.length<=1000)/\(∀ i,((⟨y.na,max ((o6 w y a8).re) (a8+v1),true,⟨[n],(ah (ab w (ae (y.na)) 2).1 (ab w (ae (y.na)) 2).2 n).ru,(ah (ab w (ae (y.na)) 2).1 (ab w (ae (y.na)) 2).2 n).wa⟩,y.tr,[]⟩:l6).gr.ru.getD i ⟨false,[]⟩).path.length<=1000))/\(((g3,.ptr (.key 1000) [2,ix] g (o+ix*8)):Nat×V)=(g3,.ptr (.key 1000) [2,ix] g (o+ix*8)))/\(((gt,ba n a8 zs ix ((⟨y.na,max ((o6 w y a8).re) (a8+v1),true,⟨[n],(ah (ab w (ae (y.na)) 2).1 (ab w (ae (y.na)) 2).2 n).ru,(ah (ab w (ae (y.na)) 2).1 (ab w (ae (y.na)) 2).2 n).wa⟩,y.tr,[]⟩:l6).na) ((⟨y.na,max ((o6 w y a8).re) (a8+v1),true,⟨[n],(ah (ab w (ae (y.na)) 2).1 (ab w (ae (y.na)) 2).2 n).ru,(ah (ab w (ae (y.na)) 2).1 (ab w (ae (y.na)) 2).2 n).wa⟩,y.tr,[]⟩:l6).re) ((⟨y.na,max ((o6 w y a8).re) (a8+v1),true,⟨[n],(ah (ab w (ae (y.na)) 2).1 (ab w (ae (y.na)) 2).2 n).ru,(ah (ab w (ae (y.na)) 2).1 (ab w (ae (y.na)) 2).2 n).wa⟩,y.tr,[]⟩:l6).kn) ((⟨y.na,max ((o6 w y a8).re) (a8+v1),true,⟨[n],(ah (ab w (ae (y.na)) 2).1 (ab w (ae (y.na)) 2).2 n).ru,(ah (ab w (ae (y.na)) 2).1 (ab w (ae (y.na)) 2).2 n).wa⟩,y.tr,[]⟩:l6).gr.na) ((⟨y.na,max ((o6 w y a8).re) (a8+v1),true,⟨[n],(ah (ab w (ae (y.na)) 2).1 (ab w (ae (y.na)) 2).2 n).ru,(ah (ab w (ae (y.na)) 2).1 (ab w (ae (y.na)) 2).2 n).wa⟩,y.tr,[]⟩:l6).gr.ru) ((⟨y.na,max ((o6 w y a8).re) (a8+v1),true,⟨[n],(ah (ab w (ae (y.na)) 2).1 (ab w (ae (y.na)) 2).2 n).ru,(ah (ab w (ae (y.na)) 2).1 (ab w (ae (y.na)) 2).2 n).wa⟩,y.tr,[]⟩:l6).gr.wa) ((⟨y.na,max ((o6 w y a8).re) (a8+v1),true,⟨[n],(ah (ab w (ae (y.na)) 2).1 (ab w (ae (y.na)) 2).2 n).ru,(ah (ab w (ae (y.na)) 2).1 (ab w (ae (y.na)) 2).2 n).wa⟩,y.tr,[]⟩:l6).tr) (fy (⟨y.na,max ((o6 w y a8).re) (a8+v1),true,⟨[n],(ah (ab w (ae (y.na)) 2).1 (ab w (ae (y.na)) 2).2 n).ru,(ah (ab w (ae (y.na)) 2).1 (ab w (ae (y.na)) 2).2 n).wa⟩,y.tr,[]⟩:l6) (y.td)) ga oa ca g o c se (ls++[(⟨a8,(ae (y.na)),(ab w (ae (y.na)) (y.tr)).1⟩:m9)])):Nat×V)=(gt,ba n a8 zs ix ((⟨y.na,max ((o6 w y a8).re) (a8+v1),true,⟨[n],(ah (ab w (ae (y.na)) 2).1 (ab w (ae (y.na)) 2).2 n).ru,(ah (ab w (ae (y.na)) 2).1 (ab w (ae (y.na)) 2).2 n).wa⟩,y.tr,[]⟩:l6).na) ((⟨y.na,max ((o6 w y a8).re) (a8+v1),true,⟨[n],(ah (ab w (ae (y.na)) 2).1 (ab w (ae (y.na)) 2).2 n).ru,(ah (ab w (ae (y.na)) 2).1 (ab w (ae (y.na)) 2).2 n).wa⟩,y.tr,[]⟩:l6).re) ((⟨y.na,max ((o6 w y a8).re) (a8+v1),true,⟨[n],(ah (ab w (ae (y.na)) 2).1 (ab w (ae (y.na)) 2).2 n).ru,(ah (ab w (ae (y.na)) 2).1 (ab w (ae (y.na)) 2).2 n).wa⟩,y.tr,[]⟩:l6).kn) ((⟨y.na,max ((o6 w y a8).re) (a8+v1),true,⟨[n],(ah (ab w (ae (y.na)) 2).1 (ab w (ae (y.na)) 2).2 n).ru,(ah (ab w (ae (y.na)) 2).1 (ab w (ae (y.na)) 2).2 n).wa⟩,y.tr,[]⟩:l6).gr.na) ((⟨y.na,max ((o6 w y a8).re) (a8+v1),true,⟨[n],(ah (ab w (ae (y.na)) 2).1 (ab w (ae (y.na)) 2).2 n).ru,(ah (ab w (ae (y.na)) 2).1 (ab w (ae (y.na)) 2).2 n).wa⟩,y.tr,[]⟩:l6).gr.ru) ((⟨y.na,max ((o6 w y a8).re) (a8+v1),true,⟨[n],(ah (ab w (ae (y.na)) 2).1 (ab w (ae (y.na)) 2).2 n).ru,(ah (ab w (ae (y.na)) 2).1 (ab w (ae (y.na)) 2).2 n).wa⟩,y.tr,[]⟩:l6).gr.wa) ((⟨y.na,max ((o6 w y a8).re) (a8+v1),true,⟨[n],(ah (ab w (ae (y.na)) 2).1 (ab w (ae (y.na)) 2).2 n).ru,(ah (ab w (ae (y.na)) 2).1 (ab w (ae (y.na)) 2).2 n).wa⟩,y.tr,[]⟩:l6).tr) (fy (⟨y.na,max ((o6 w y a8).re) (a8+v1),true,⟨[n],(ah (ab w (ae (y.na)) 2).1 (ab w (ae (y.na)) 2).2 n).ru,(ah (ab w (ae (y.na)) 2).1 (ab w (ae (y.na)) 2).2 n).wa⟩,y.tr,[]⟩:l6) (y.td)) ga oa ca g o c se (ls++[(⟨a8,(ae (y.na)),(ab w (ae (y.na)) (y.tr)).1⟩:m9)])))/\True))/\∀ _:Unit,True/\((((.key 1000:l9),([2,ix,5]:List Nat),2,ga,oa,(0:Nat),(((y.td).filter (KL (⟨y.na,max ((o6 w y a8).re) (a8+v1),true,⟨[n],(ah (ab w (ae (y.na)) 2).1 (ab w (ae (y.na)) 2).2 n).ru,(ah (ab w (ae (y.na)) 2).1 (ab w (ae (y.na)) 2).2 n).wa⟩,y.tr,[]⟩:l6))).length),ca)=((.key 1000:l9),([2,ix,5]:List Nat),2,ga,oa,(0:Nat),(((y.td).filter (KL (⟨y.na,max ((o6 w y a8).re) (a8+v1),true,⟨[n],(ah (ab w (ae (y.na)) 2).1 (ab w (ae (y.na)) 2).2 n).ru,(ah (ab w (ae (y.na)) 2).1 (ab w (ae (y.na)) 2).2 n).wa⟩,y.tr,[]⟩:l6))).length),ca))/\((.ptr (.key 1000) [2,ix,5] g (o+ix*8+7):V)=.ptr (.key 1000) [2,ix,5] g (o+(ix)*8+7))/\(V.at gt 0 (ba n a8 zs ix ((⟨y.na,max ((o6 w y a8).re) (a8+v1),true,⟨[n],(ah (ab w (ae (y.na)) 2).1 (ab w (ae (y.na)) 2).2 n).ru,(ah (ab w (ae (y.na)) 2).1 (ab w (ae (y.na)) 2).2 n).wa⟩,y.tr,[]⟩:l6).na) ((⟨y.na,max ((o6 w y a8).re) (a8+v1),true,⟨[n],(ah (ab w (ae (y.na)) 2).1 (ab w (ae (y.na)) 2).2 n).ru,(ah (ab w (ae (y.na)) 2).1 (ab w (ae (y.na)) 2).2 n).wa⟩,y.tr,[]⟩:l6).re) ((⟨y.na,max ((o6 w y a8).re) (a8+v1),true,⟨[n],(ah (ab w (ae (y.na)) 2).1 (ab w (ae (y.na)) 2).2 n).ru,(ah (ab w (ae (y.na)) 2).1 (ab w (ae (y.na)) 2).2 n).wa⟩,y.tr,[]⟩:l6).kn) ((⟨y.na,max ((o6 w y a8).re) (a8+v1),true,⟨[n],(ah (ab w (ae (y.na)) 2).1 (ab w (ae (y.na)) 2).2 n).ru,(ah (ab w (ae (y.na)) 2).1 (ab w (ae (y.na)) 2).2 n).wa⟩,y.tr,[]⟩:l6).gr.na) ((⟨y.na,max ((o6 w y a8).re) (a8+v1),true,⟨[n],(ah (ab w (ae (y.na)) 2).1 (ab w (ae (y.na)) 2).2 n).ru,(ah (ab w (ae (y.na)) 2).1 (ab w (ae (y.na)) 2).2 n).wa⟩,y.tr,[]⟩:l6).gr.ru) ((⟨y.na,max ((o6 w y a8).re) (a8+v1),true,⟨[n],(ah (ab w (ae (y.na)) 2).1 (ab w (ae (y.na)) 2).2 n).ru,(ah (ab w (ae (y.na)) 2).1 (ab w (ae (y.na)) 2).2 n).wa⟩,y.tr,[]⟩:l6).gr.wa) ((⟨y.na,max ((o6 w y a8).re) (a8+v1),true,⟨[n],(ah (ab w (ae (y.na)) 2).1 (ab w (ae (y.na)) 2).2 n).ru,(ah (ab w (ae (y.na)) 2).1 (ab w (ae (y.na)) 2).2 n).wa⟩,y.tr,[]⟩:l6).tr) (fy (⟨y.na,max ((o6 w y a8).re) (a8+v1),true,⟨[n],(ah (ab w (ae (y.na)) 2).1 (ab w (ae (y.na)) 2).2 n).ru,(ah (ab w (ae (y.na)) 2).1 (ab w (ae (y.na)) 2).2 n).wa⟩,y.tr,[]⟩:l6) (y.td)) ga oa ca g o c se (ls++[(⟨a8,(ae (y.na)),(ab w (ae (y.na)) (y.tr)).1⟩:m9)])) [2,ix,5]=some (g,o+(ix)*8+7,.own 2 ((fy (⟨y.na,max ((o6 w y a8).re) (a8+v1),true,⟨[n],(ah (ab w (ae (y.na)) 2).1 (ab w (ae (y.na)) 2).2 n).ru,(ah (ab w (ae (y.na)) 2).1 (ab w (ae (y.na)) 2).2 n).wa⟩,y.tr,[]⟩:l6) (y.td)).map ak) ga oa ca))/\((1:Nat)=1)/\((((y.td).filter (KL (⟨y.na,max ((o6 w y a8).re) (a8+v1),true,⟨[n],(ah (ab w (ae (y.na)) 2).1 (ab w (ae (y.na)) 2).2 n).ru,(ah (ab w (ae (y.na)) 2).1 (ab w (ae (y.na)) 2).2 n).wa⟩,y.tr,[]⟩:l6))).length)<=((fy (⟨y.na,max ((o6 w y a8).re) (a8+v1),true,⟨[n],(ah (ab w (ae (y.na)) 2).1 (ab w (ae (y.na)) 2).2 n).ru,(ah (ab w (ae (y.na)) 2).1 (ab w (ae (y.na)) 2).2 n).wa⟩,y.tr,[]⟩:l6) (y.td)).map ak).length)/\(V.aD ((fy (⟨y.na,max ((o6 w y a8).re) (a8+v1),true,⟨[n],(ah (ab w (ae (y.na)) 2).1 (ab w (ae (y.na)) 2).2 n).ru,(ah (ab w (ae (y.na)) 2).1 (ab w (ae (y.na)) 2).2 n).wa⟩,y.tr,[]⟩:l6) (y.td)).map ak)=false))/\∀ _:Unit,(V.set (ba n a8 zs ix ((⟨y.na,max ((o6 w y a8).re) (a8+v1),true,⟨[n],(ah (ab w (ae (y.na)) 2).1 (ab w (ae (y.na)) 2).2 n).ru,(ah (ab w (ae (y.na)) 2).1 (ab w (ae (y.na)) 2).2 n).wa⟩,y.tr,[]⟩:l6).na) ((⟨y.na,max ((o6 w y a8).re) (a8+v1),true,⟨[n],(ah (ab w (ae (y.na)) 2).1 (ab w (ae (y.na)) 2).2 n).ru,(ah (ab w (ae (y.na)) 2).1 (ab w (ae (y.na)) 2).2 n).wa⟩,y.tr,[]⟩:l6).re) ((⟨y.na,max ((o6 w y a8).re) (a8+v1),true,⟨[n],(ah (ab w (ae (y.na)) 2).1 (ab w (ae (y.na)) 2).2 n).ru,(ah (ab w (ae (y.na)) 2).1 (ab w (ae (y.na)) 2).2 n).wa⟩,y.tr,[]⟩:l6).kn) ((⟨y.na,max ((o6 w y a8).re) (a8+v1),true,⟨[n],(ah (ab w (ae (y.na)) 2).1 (ab w (ae (y.na)) 2).2 n).ru,(ah (ab w (ae (y.na)) 2).1 (ab w (ae (y.na)) 2).2 n).wa⟩,y.tr,[]⟩:l6).gr.na) ((⟨y.na,max ((o6 w y a8).re) (a8+v1),true,⟨[n],(ah (ab w (ae (y.na)) 2).1 (ab w (ae (y.na)) 2).2 n).ru,(ah (ab w (ae (y.na)) 2).1 (ab w (ae (y.na)) 2).2 n).wa⟩,y.tr,[]⟩:l6).gr.ru) ((⟨y.na,max ((o6 w y a8).re) (a8+v1),true,⟨[n],(ah (ab w (ae (y.na)) 2).1 (ab w (ae (y.na)) 2).2 n).ru,(ah (ab w (ae (y.na)) 2).1 (ab w (ae (y.na)) 2).2 n).wa⟩,y.tr,[]⟩:l6).gr.wa) ((⟨y.na,max ((o6 w y a8).re) (a8+v1),true,⟨[n],(ah (ab w (ae (y.na)) 2).1 (ab w (ae (y.na)) 2).2 n).ru,(ah (ab w (ae (y.na)) 2).1 (ab w (ae (y.na)) 2).2 n).wa⟩,y.tr,[]⟩:l6).tr) (fy (⟨y.na,max ((o6 w y a8).re) (a8+v1),true,⟨[n],(ah (ab w (ae (y.na)) 2).1 (ab w (ae (y.na)) 2).2 n).ru,(ah (ab w (ae (y.na)) 2).1 (ab w (ae (y.na)) 2).2 n).wa⟩,y.tr,[]⟩:l6) (y.td)) ga oa ca g o c se (ls++[(⟨a8,(ae (y.na)),(ab w (ae (y.na)) (y.tr)).1⟩:m9)])) [2,ix,5] (.own 2 (((fy (⟨y.na,max ((o6 w y a8).re) (a8+v1),true,⟨[n],(ah (ab w (ae (y.na)) 2).1 (ab w (ae (y.na)) 2).2 n).ru,(ah (ab w (ae (y.na)) 2).1 (ab w (ae (y.na)) 2).2 n).wa⟩,y.tr,[]⟩:l6) (y.td)).map ak).take (((y.td).filter (KL (⟨y.na,max ((o6 w y a8).re) (a8+v1),true,⟨[n],(ah (ab w (ae (y.na)) 2).1 (ab w (ae (y.na)) 2).2 n).ru,(ah (ab w (ae (y.na)) 2).1 (ab w (ae (y.na)) 2).2 n).wa⟩,y.tr,[]⟩:l6))).length)) ga oa ca)=ba n a8 zs ix ((⟨y.na,max ((o6 w y a8).re) (a8+v1),true,⟨[n],(ah (ab w (ae (y.na)) 2).1 (ab w (ae (y.na)) 2).2 n).ru,(ah (ab w (ae (y.na)) 2).1 (ab w (ae (y.na)) 2).2 n).wa⟩,y.tr,[]⟩:l6).na) ((⟨y.na,max ((o6 w y a8).re) (a8+v1),true,⟨[n],(ah (ab w (ae (y.na)) 2).1 (ab w (ae (y.na)) 2).2 n).ru,(ah (ab w (ae (y.na)) 2).1 (ab w (ae (y.na)) 2).2 n).wa⟩,y.tr,[]⟩:l6).re) ((⟨y.na,max ((o6 w y a8).re) (a8+v1),true,⟨[n],(ah (ab w (ae (y.na)) 2).1 (ab w (ae (y.na)) 2).2 n).ru,(ah (ab w (ae (y.na)) 2).1 (ab w (ae (y.na)) 2).2 n).wa⟩,y.tr,[]⟩:l6).kn) ((⟨y.na,max ((o6 w y a8).re) (a8+v1),true,⟨[n],(ah (ab w (ae (y.na)) 2).1 (ab w (ae (y.na)) 2).2 n).ru,(ah (ab w (ae (y.na)) 2).1 (ab w (ae (y.na)) 2).2 n).wa⟩,y.tr,[]⟩:l6).gr.na) ((⟨y.na,max ((o6 w y a8).re) (a8+v1),true,⟨[n],(ah (ab w (ae (y.na)) 2).1 (ab w (ae (y.na)) 2).2 n).ru,(ah (ab w (ae (y.na)) 2).1 (ab w (ae (y.na)) 2).2 n).wa⟩,y.tr,[]⟩:l6).gr.ru) ((⟨y.na,max ((o6 w y a8).re) (a8+v1),true,⟨[n],(ah (ab w (ae (y.na)) 2).1 (ab w (ae (y.na)) 2).2 n).ru,(ah (ab w (ae (y.na)) 2).1 (ab w (ae (y.na)) 2).2 n).wa⟩,y.tr,[]⟩:l6).gr.wa) ((⟨y.na,max ((o6 w y a8).re) (a8+v1),true,⟨[n],(ah (ab w (ae (y.na)) 2).1 (ab w (ae (y.na)) 2).2 n).ru,(ah (ab w (ae (y.na)) 2).1 (ab w (ae (y.na)) 2).2 n).wa⟩,y.tr,[]⟩:l6).tr) (y.td.filter (LO (cM w n y.na).ru)) ga oa ca g o c se (ls++[(⟨a8,(ae (y.na)),(ab w (ae (y.na)) (y.tr)).1⟩:m9)]))/\(V.at gt 0 (ba n a8 zs ix ((⟨y.na,max ((o6 w y a8).re) (a8+v1),true,⟨[n],(ah (ab w (ae (y.na)) 2).1 (ab w (ae (y.na)) 2).2 n).ru,(ah (ab w (ae (y.na)) 2).1 (ab w (ae (y.na)) 2).2 n).wa⟩,y.tr,[]⟩:l6).na) ((⟨y.na,max ((o6 w y a8).re) (a8+v1),true,⟨[n],(ah (ab w (ae (y.na)) 2).1 (ab w (ae (y.na)) 2).2 n).ru,(ah (ab w (ae (y.na)) 2).1 (ab w (ae (y.na)) 2).2 n).wa⟩,y.tr,[]⟩:l6).re) ((⟨y.na,max ((o6 w y a8).re) (a8+v1),true,⟨[n],(ah (ab w (ae (y.na)) 2).1 (ab w (ae (y.na)) 2).2 n).ru,(ah (ab w (ae (y.na)) 2).1 (ab w (ae (y.na)) 2).2 n).wa⟩,y.tr,[]⟩:l6).kn) ((⟨y.na,max ((o6 w y a8).re) (a8+v1),true,⟨[n],(ah (ab w (ae (y.na)) 2).1 (ab w (ae (y.na)) 2).2 n).ru,(ah (ab w (ae (y.na)) 2).1 (ab w (ae (y.na)) 2).2 n).wa⟩,y.tr,[]⟩:l6).gr.na) ((⟨y.na,max ((o6 w y a8).re) (a8+v1),true,⟨[n],(ah (ab w (ae (y.na)) 2).1 (ab w (ae (y.na)) 2).2 n).ru,(ah (ab w (ae (y.na)) 2).1 (ab w (ae (y.na)) 2).2 n).wa⟩,y.tr,[]⟩:l6).gr.ru) ((⟨y.na,max ((o6 w y a8).re) (a8+v1),true,⟨[n],(ah (ab w (ae (y.na)) 2).1 (ab w (ae (y.na)) 2).2 n).ru,(ah (ab w (ae (y.na)) 2).1 (ab w (ae (y.na)) 2).2 n).wa⟩,y.tr,[]⟩:l6).gr.wa) ((⟨y.na,max ((o6 w y a8).re) (a8+v1),true,⟨[n],(ah (ab w (ae (y.na)) 2).1 (ab w (ae (y.na)) 2).2 n).ru,(ah (ab w (ae (y.na)) 2).1 (ab w (ae (y.na)) 2).2 n).wa⟩,y.tr,[]⟩:l6).tr) (y.td.filter (LO (cM w n y.na).ru)) ga oa ca g o c se (ls++[(⟨a8,(ae (y.na)),(ab w (ae (y.na)) (y.tr)).1⟩:m9)])) [2,ix,5]=some (g,o+(ix)*8+7,.own 2 ((y.td.filter (LO (cM w n y.na).ru)).map ak) ga oa ca))/\(V.set (ba n a8 zs ix ((⟨y.na,max ((o6 w y a8).re) (a8+v1),true,⟨[n],(ah (ab w (ae (y.na)) 2).1 (ab w (ae (y.na)) 2).2 n).ru,(ah (ab w (ae (y.na)) 2).1 (ab w (ae (y.na)) 2).2 n).wa⟩,y.tr,[]⟩:l6).na) ((⟨y.na,max ((o6 w y a8).re) (a8+v1),true,⟨[n],(ah (ab w (ae (y.na)) 2).1 (ab w (ae (y.na)) 2).2 n).ru,(ah (ab w (ae (y.na)) 2).1 (ab w (ae (y.na)) 2).2 n).wa⟩,y.tr,[]⟩:l6).re) ((⟨y.na,max ((o6 w y a8).re) (a8+v1),true,⟨[n],(ah (ab w (ae (y.na)) 2).1 (ab w (ae (y.na)) 2).2 n).ru,(ah (ab w (ae (y.na)) 2).1 (ab w (ae (y.na)) 2).2 n).wa⟩,y.tr,[]⟩:l6).kn) ((⟨y.na,max ((o6 w y a8).re) (a8+v1),true,⟨[n],(ah (ab w (ae (y.na)) 2).1 (ab w (ae (y.na)) 2).2 n).ru,(ah (ab w (ae (y.na)) 2).1 (ab w (ae (y.na)) 2).2 n).wa⟩,y.tr,[]⟩:l6).gr.na) ((⟨y.na,max ((o6 w y a8).re) (a8+v1),true,⟨[n],(ah (ab w (ae (y.na)) 2).1 (ab w (ae (y.na)) 2).2 n).ru,(ah (ab w (ae (y.na)) 2).1 (ab w (ae (y.na)) 2).2 n).wa⟩,y.tr,[]⟩:l6).gr.ru) ((⟨y.na,max ((o6 w y a8).re) (a8+v1),true,⟨[n],(ah (ab w (ae (y.na)) 2).1 (ab w (ae (y.na)) 2).2 n).ru,(ah (ab w (ae (y.na)) 2).1 (ab w (ae (y.na)) 2).2 n).wa⟩,y.tr,[]⟩:l6).gr.wa) ((⟨y.na,max ((o6 w y a8).re) (a8+v1),true,⟨[n],(ah (ab w (ae (y.na)) 2).1 (ab w (ae (y.na)) 2).2 n).ru,(ah (ab w (ae (y.na)) 2).1 (ab w (ae (y.na)) 2).2 n).wa⟩,y.tr,[]⟩:l6).tr) (y.td.filter (LO (cM w n y.na).ru)) ga oa ca g o c se (ls++[(⟨a8,(ae (y.na)),(ab w (ae (y.na)) (y.tr)).1⟩:m9)])) [2,ix,5] (.ow 2 ((y.td.filter (LO (cM w n y.na).ru)).map ak))=cw n a8 zs ix ((⟨y.na,max ((o6 w y a8).re) (a8+v1),true,⟨[n],(ah (ab w (ae (y.na)) 2).1 (ab w (ae (y.na)) 2).2 n).ru,(ah (ab w (ae (y.na)) 2).1 (ab w (ae (y.na)) 2).2 n).wa⟩,y.tr,[]⟩:l6).na) ((⟨y.na,max ((o6 w y a8).re) (a8+v1),true,⟨[n],(ah (ab w (ae (y.na)) 2).1 (ab w (ae (y.na)) 2).2 n).ru,(ah (ab w (ae (y.na)) 2).1 (ab w (ae (y.na)) 2).2 n).wa⟩,y.tr,[]⟩:l6).re) ((⟨y.na,max ((o6 w y a8).re) (a8+v1),true,⟨[n],(ah (ab w (ae (y.na)) 2).1 (ab w (ae (y.na)) 2).2 n).ru,(ah (ab w (ae (y.na)) 2).1 (ab w (ae (y.na)) 2).2 n).wa⟩,y.tr,[]⟩:l6).kn) ((⟨y.na,max ((o6 w y a8).re) (a8+v1),true,⟨[n],(ah (ab w (ae (y.na)) 2).1 (ab w (ae (y.na)) 2).2 n).ru,(ah (ab w (ae (y.na)) 2).1 (ab w (ae (y.na)) 2).2 n).wa⟩,y.tr,[]⟩:l6).gr.na) ((⟨y.na,max ((o6 w y a8).re) (a8+v1),true,⟨[n],(ah (ab w (ae (y.na)) 2).1 (ab w (ae (y.na)) 2).2 n).ru,(ah (ab w (ae (y.na)) 2).1 (ab w (ae (y.na)) 2).2 n).wa⟩,y.tr,[]⟩:l6).gr.ru) ((⟨y.na,max ((o6 w y a8).re) (a8+v1),true,⟨[n],(ah (ab w (ae (y.na)) 2).1 (ab w (ae (y.na)) 2).2 n).ru,(ah (ab w (ae (y.na)) 2).1 (ab w (ae (y.na)) 2).2 n).wa⟩,y.tr,[]⟩:l6).gr.wa) ((⟨y.na,max ((o6 w y a8).re) (a8+v1),true,⟨[n],(ah (ab w (ae (y.na)) 2).1 (ab w (ae (y.na)) 2).2 n).ru,(ah (ab w (ae (y.na)) 2).1 (ab w (ae (y.na)) 2).2 n).wa⟩,y.tr,[]⟩:l6).tr) (y.td.filter (LO (cM w n y.na).ru)) g o c se (ls++[(⟨a8,(ae (y.na)),(ab w (ae (y.na)) (y.tr)).1⟩:m9)]))/\((cw n a8 zs ix ((⟨y.na,max ((o6 w y a8).re) (a8+v1),true,⟨[n],(ah (ab w (ae (y.na)) 2).1 (ab w (ae (y.na)) 2).2 n).ru,(ah (ab w (ae (y.na)) 2).1 (ab w (ae (y.na)) 2).2 n).wa⟩,y.tr,[]⟩:l6).na) ((⟨y.na,max ((o6 w y a8).re) (a8+v1),true,⟨[n],(ah (ab w (ae (y.na)) 2).1 (ab w (ae (y.na)) 2).2 n).ru,(ah (ab w (ae (y.na)) 2).1 (ab w (ae (y.na)) 2).2 n).wa⟩,y.tr,[]⟩:l6).re) ((⟨y.na,max ((o6 w y a8).re) (a8+v1),true,⟨[n],(ah (ab w (ae (y.na)) 2).1 (ab w (ae (y.na)) 2).2 n).ru,(ah (ab w (ae (y.na)) 2).1 (ab w (ae (y.na)) 2).2 n).wa⟩,y.tr,[]⟩:l6).kn) ((⟨y.na,max ((o6 w y a8).re) (a8+v1),true,⟨[n],(ah (ab w (ae (y.na)) 2).1 (ab w (ae (y.na)) 2).2 n).ru,(ah (ab w (ae (y.na)) 2).1 (ab w (ae (y.na)) 2).2 n).wa⟩,y.tr,[]⟩:l6).gr.na) ((⟨y.na,max ((o6 w y a8).re) (a8+v1),true,⟨[n],(ah (ab w (ae (y.na)) 2).1 (ab w (ae (y.na)) 2).2 n).ru,(ah (ab w (ae (y.na)) 2).1 (ab w (ae (y.na)) 2).2 n).wa⟩,y.tr,[]⟩:l6).gr.ru) ((⟨y.na,max ((o6 w y a8).re) (a8+v1),true,⟨[n],(ah (ab w (ae (y.na)) 2).1 (ab w (ae (y.na)) 2).2 n).ru,(ah (ab w (ae (y.na)) 2).1 (ab w (ae (y.na)) 2).2 n).wa⟩,y.tr,[]⟩:l6).gr.wa) ((⟨y.na,max ((o6 w y a8).re) (a8+v1),true,⟨[n],(ah (ab w (ae (y.na)) 2).1 (ab w (ae (y.na)) 2).2 n).ru,(ah (ab w (ae (y.na)) 2).1 (ab w (ae (y.na)) 2).2 n).wa⟩,y.tr,[]⟩:l6).tr) (y.td.filter (LO (cM w n y.na).ru)) g o c se (ls++[(⟨a8,(ae (y.na)),(ab w (ae (y.na)) (y.tr)).1⟩:m9)]):V)=bm n a8 (zs.set ix ({ o6 w y a8 with kn:=true,gr:=(cM w n y.na),re:=max (o6 w y a8).re (a8+((cM w n y.na).wa:Int)),td:=y.td.filter (LO (cM w n y.na).ru) }:l6)) g o c se (ls++[(⟨a8,(ae (y.na)),(ab w (ae (y.na)) (y.tr)).1⟩:m9)]))/\Q (.tup []) (.tup [])/\Er gw v8/\Qr gt (bm n a8 (zs.set ix ({ o6 w y a8 with kn:=true,gr:=(cM w n y.na),re:=max (o6 w y a8).re (a8+((cM w n y.na).wa:Int)),td:=y.td.filter (LO (cM w n y.na).ru) }:l6)) g o c se (ls++[(⟨a8,(ae (y.na)),(ab w (ae (y.na)) (y.tr)).1⟩:m9)])) gt v7) (.agg [sV (y.na),iV (max ((o6 w y a8).re) (a8+v1)),bV true,iH v9 ((ah (ab w (ae (y.na)) 2).1 (ab w (ae (y.na)) 2).2 n).ru) ((ah (ab w (ae (y.na)) 2).1 (ab w (ae (y.na)) 2).2 n).wa),iV (y.tr),.own 2 ((y.td).map ak) ga oa ca]:V)))) (bm n a8 zs g o c se ls)) (.agg [.mp (w.map E5),.ptr (.key 1000) [] gt 0])) (bm n a8 (zs.set ix (Oc w n y a8)) g o c se (ls++[(⟨a8,ae y.na,(ab w (ae y.na) y.tr).1⟩:m9)]))) (r4 ((ab w (ae (y.na)) (y.tr)).1) 3)) (qc n a8 zs ix (y.na) (max ((o6 w y a8).re) (a8+v1)) v9 ((ah (ab w (ae (y.na)) 2).1 (ab w (ae (y.na)) 2).2 n).ru) ((ah (ab w (ae (y.na)) 2).1 (ab w (ae (y.na)) 2).2 n).wa) (y.tr) (y.td) g o c se (ls++[(⟨a8,(ae (y.na)),(ab w (ae (y.na)) (y.tr)).1⟩:m9)]))) (zQ n a8 zs ix (y.na) ((o6 w y a8).re) (y.gr.na) (y.gr.ru) (y.gr.wa) (y.tr) (y.td) g o c se (ls++[(⟨a8,(ae (y.na)),(ab w (ae (y.na)) (y.tr)).1⟩:m9)]))) (cw n a8 zs ix (y.na) ((o6 w y a8).re) (y.kn) (y.gr.na) (y.gr.ru) (y.gr.wa) (y.tr) (y.td) g o c se (ls++[(⟨a8,(ae (y.na)),(ab w (ae (y.na)) (y.tr)).1⟩:m9)]))) (qc n a8 zs ix (y.na) ((o6 w y a8).re) v9 ((ah (ab w (ae (y.na)) 2).1 (ab w (ae (y.na)) 2).2 n).ru) ((ah (ab w (ae (y.na)) 2).1 (ab w (ae (y.na)) 2).2 n).wa) (y.tr) (y.td) g o c se (ls++[(⟨a8,(ae (y.na)),(ab w (ae (y.na)) (y.tr)).1⟩:m9)]))) (.sl false ([n].map sV))) (((ah (ab w (ae (y.na)) 2).1 (ab w (ae (y.na)) 2).2 n).wa:Nat):Int)) ?_
 subst Vc
 intro g3
 refine⟨trivial,rfl,rfl,rfl,trivial,(aP (f:=2) rfl).trans (aE (aj (d:=e9) (by omega)) rfl),rfl,by have:=hy.n;omega,rfl,trivial,(aP (f:=2) rfl).trans (aE (aj (d:=e9) (by omega)) rfl),by first | rfl | (exfalso;omega) | (simp only[Nat.zero_add]) | (simp;omega),rfl,rfl,⟨hi,hl,by have:=hy.k;omega,hn,rfl,hy.w⟩,LM (congrArg (V.own 8 · g o c) (Be (f:=aA) (a:=o6 w (zs.getD ix e9) a8) hi)),fun hG=>rfl,fun hG=>trivial,fun hG=>(aP (f:=2) rfl).trans (aE (aF (by omega)) rfl),fun hG=>by(try simp only[nb]at hG);have:=hy.k;omega,⟨fun h=>by rw[h] <;> rfl,fun _=>rfl⟩,?_⟩
 refine⟨fun j7=>?_,fun j7=>?_⟩
 try simp only[nb]at j7
 refine⟨rfl,trivial,(aP (f:=2) rfl).trans (aE (aF (by omega)) rfl),by have:=hy.k;omega,trivial,(aP (f:=2) rfl).trans (aE (aF (by omega)) rfl),dq (aR (aF (by omega)) (cD (by omega))),LM (congrArg (V.own 8 · g o c) (kr (f:=aA) (x:=({ o6 w (zs.getD ix e9) a8 with tr:=(zs.getD ix e9).tr+1 }:l6)) (by omega))),?_⟩
 refine⟨?_,rfl,by rw[Jz j7]⟩
 unfold Q
 rfl
 try simp only[nb]at j7
 refine⟨rfl,trivial,(aP (f:=2) rfl).trans (aE (aF (by omega)) rfl),dq (aR (aF (by omega)) (cD (by omega))),rfl,trivial,rfl,rfl,trivial,(aP (f:=2) rfl).trans (aE (aF (by omega)) rfl),trivial,rfl,rfl,⟨by have:=hy.n;omega,by have:=we (w:=w) (a:=ae (zs.getD ix e9).na) (k:=2) (m:=300) (fun i=>⟨(hz i).t,by have:=(hz i).l;omega⟩);omega⟩,trivial,(aP (f:=2) rfl).trans (aE (aF (by omega)) rfl),dq (aR (aF (by omega)) (cD (by omega))),rfl,rfl,trivial,(aP (f:=2) rfl).trans (aE (aF (by omega)) rfl),trivial,rfl,rfl,trivial,(aP (f:=2) rfl).trans (aE (aF (by omega)) rfl),by have:=yG (ab w (ae (zs.getD ix e9).na) 2).1 (ab w (ae (zs.getD ix e9).na) 2).2 n;omega,rfl,trivial,(aP (f:=2) rfl).trans (aE (aF (by omega)) rfl),dq (aR (aF (by omega)) (cD (by omega))),(aP (f:=2) rfl).trans (aE (aF (by omega)) rfl),?_⟩
 intro ga oa ca
 refine⟨dq (aR (aF (by omega)) (cD (by omega))),rfl,rfl,trivial,(aP (f:=2) rfl).trans (aE (aF (by omega)) rfl),rfl,?_⟩
 intro _
 refine⟨⟨rfl,rfl,rfl,⟨⟨hi,by have:=hy.t;omega,fun x hx=>⟨(hy.ta x hx).1,(hy.ta x hx).2.1⟩,Nat.le_trans (tH _ _ _).1 (by omega),fun i=>xm (p:=fun r:s8=>r.path.length<=1000) (fun r hr=>by have:=(tH (ab w (ae (zs.getD ix e9).na) 2).1 (ab w (ae (zs.getD ix e9).na) 2).2 n).2 r hr;omega) (by simp) i⟩,rfl,rfl,trivial⟩⟩,?_⟩
 intro _
 refine⟨trivial,⟨rfl,rfl,(aP (f:=2) rfl).trans (aE (aF (by omega)) rfl),rfl,by rw[List.length_map,DP];exact List.length_filter_le ..,cm (f:=ak) (fun _=>rfl) _⟩,?_⟩
 intro _
 refine⟨(congrArg (fun r:V=>V.set (.agg [sV n,iV a8,.own 8 ((zs.take ix).map aA++(.agg [sV ((⟨(zs.getD ix e9).na,max ((o6 w (zs.getD ix e9) a8).re) (a8+(((ah (ab w (ae ((zs.getD ix e9).na)) 2).1 (ab w (ae ((zs.getD ix e9).na)) 2).2 n).wa:Nat):Int)),true,⟨[n],(ah (ab w (ae ((zs.getD ix e9).na)) 2).1 (ab w (ae ((zs.getD ix e9).na)) 2).2 n).ru,(ah (ab w (ae ((zs.getD ix e9).na)) 2).1 (ab w (ae ((zs.getD ix e9).na)) 2).2 n).wa⟩,(zs.getD ix e9).tr,[]⟩:l6).na),iV ((⟨(zs.getD ix e9).na,max ((o6 w (zs.getD ix e9) a8).re) (a8+(((ah (ab w (ae ((zs.getD ix e9).na)) 2).1 (ab w (ae ((zs.getD ix e9).na)) 2).2 n).wa:Nat):Int)),true,⟨[n],(ah (ab w (ae ((zs.getD ix e9).na)) 2).1 (ab w (ae ((zs.getD ix e9).na)) 2).2 n).ru,(ah (ab w (ae ((zs.getD ix e9).na)) 2).1 (ab w (ae ((zs.getD ix e9).na)) 2).2 n).wa⟩,(zs.getD ix e9).tr,[]⟩:l6).re),bV ((⟨(zs.getD ix e9).na,max ((o6 w (zs.getD ix e9) a8).re) (a8+(((ah (ab w (ae ((zs.getD ix e9).na)) 2).1 (ab w (ae ((zs.getD ix e9).na)) 2).2 n).wa:Nat):Int)),true,⟨[n],(ah (ab w (ae ((zs.getD ix e9).na)) 2).1 (ab w (ae ((zs.getD ix e9).na)) 2).2 n).ru,(ah (ab w (ae ((zs.getD ix e9).na)) 2).1 (ab w (ae ((zs.getD ix e9).na)) 2).2 n).wa⟩,(zs.getD ix e9).tr,[]⟩:l6).kn),.agg [.sl false (((⟨(zs.getD ix e9).na,max ((o6 w (zs.getD ix e9) a8).re) (a8+(((ah (ab w (ae ((zs.getD ix e9).na)) 2).1 (ab w (ae ((zs.getD ix e9).na)) 2).2 n).wa:Nat):Int)),true,⟨[n],(ah (ab w (ae ((zs.getD ix e9).na)) 2).1 (ab w (ae ((zs.getD ix e9).na)) 2).2 n).ru,(ah (ab w (ae ((zs.getD ix e9).na)) 2).1 (ab w (ae ((zs.getD ix e9).na)) 2).2 n).wa⟩,(zs.getD ix e9).tr,[]⟩:l6).gr.na).map sV),.sl false (((⟨(zs.getD ix e9).na,max ((o6 w (zs.getD ix e9) a8).re) (a8+(((ah (ab w (ae ((zs.getD ix e9).na)) 2).1 (ab w (ae ((zs.getD ix e9).na)) 2).2 n).wa:Nat):Int)),true,⟨[n],(ah (ab w (ae ((zs.getD ix e9).na)) 2).1 (ab w (ae ((zs.getD ix e9).na)) 2).2 n).ru,(ah (ab w (ae ((zs.getD ix e9).na)) 2).1 (ab w (ae ((zs.getD ix e9).na)) 2).2 n).wa⟩,(zs.getD ix e9).tr,[]⟩:l6).gr.ru).map au),iN ((⟨(zs.getD ix e9).na,max ((o6 w (zs.getD ix e9) a8).re) (a8+(((ah (ab w (ae ((zs.getD ix e9).na)) 2).1 (ab w (ae ((zs.getD ix e9).na)) 2).2 n).wa:Nat):Int)),true,⟨[n],(ah (ab w (ae ((zs.getD ix e9).na)) 2).1 (ab w (ae ((zs.getD ix e9).na)) 2).2 n).ru,(ah (ab w (ae ((zs.getD ix e9).na)) 2).1 (ab w (ae ((zs.getD ix e9).na)) 2).2 n).wa⟩,(zs.getD ix e9).tr,[]⟩:l6).gr.wa)],iV ((⟨(zs.getD ix e9).na,max ((o6 w (zs.getD ix e9) a8).re) (a8+(((ah (ab w (ae ((zs.getD ix e9).na)) 2).1 (ab w (ae ((zs.getD ix e9).na)) 2).2 n).wa:Nat):Int)),true,⟨[n],(ah (ab w (ae ((zs.getD ix e9).na)) 2).1 (ab w (ae ((zs.getD ix e9).na)) 2).2 n).ru,(ah (ab w (ae ((zs.getD ix e9).na)) 2).1 (ab w (ae ((zs.getD ix e9).na)) 2).2 n).wa⟩,(zs.getD ix e9).tr,[]⟩:l6).tr),.own 2 ((fy (⟨(zs.getD ix e9).na,max ((o6 w (zs.getD ix e9) a8).re) (a8+(((ah (ab w (ae ((zs.getD ix e9).na)) 2).1 (ab w (ae ((zs.getD ix e9).na)) 2).2 n).wa:Nat):Int)),true,⟨[n],(ah (ab w (ae ((zs.getD ix e9).na)) 2).1 (ab w (ae ((zs.getD ix e9).na)) 2).2 n).ru,(ah (ab w (ae ((zs.getD ix e9).na)) 2).1 (ab w (ae ((zs.getD ix e9).na)) 2).2 n).wa⟩,(zs.getD ix e9).tr,[]⟩:l6) ((zs.getD ix e9).td)).map ak) ga oa ca]:V)::(zs.drop (ix+1)).map aA) g o c,.ow 1 (se.map sV),.ow 3 ((ls++[(⟨a8,(ae ((zs.getD ix e9).na)),(ab w (ae ((zs.getD ix e9).na)) ((zs.getD ix e9).tr)).1⟩:m9)]).map aN)]) [2,ix,5] r) (congrArg (V.own 2 · ga oa ca) (CD.trans rfl))).trans (dq (aR (aF (by omega)) (cD (by omega)))),(aP (f:=2) rfl).trans (aE (aF (by omega)) rfl),dq (aR (aF (by omega)) (cD (by omega))),LM (congrArg (V.own 8 · g o c) (kr (f:=aA) (x:=({ o6 w (zs.getD ix e9) a8 with kn:=true,gr:=(cM w n (zs.getD ix e9).na),re:=max (o6 w (zs.getD ix e9) a8).re (a8+((cM w n (zs.getD ix e9).na).wa:Int)),td:=(zs.getD ix e9).td.filter (LO (cM w n (zs.getD ix e9).na).ru) }:l6)) (by omega))),?_⟩
 refine⟨?_,rfl,by rw[Jd j7]⟩
 unfold Q
 rfl)
end Go.Proofs.YtlclejemchbjiaaGreatDoor
namespace Go.Proofs.YtlclejemchbjiaaGreatDoor
open Go Go.Abs Go.RowKit Go.Pd
set_option maxRecDepth 20000
theorem Ew{α:Type}{l:List α}{i:Nat}{a d:α}(h:i<l.length):(l.set i a).getD i d=a:=by
 rw[List.getD_eq_getElem?_getD,List.getElem?_set_self h];rfl
theorem FA{α:Type}{l:List α}{f:α->V}{a b:α}{i:Nat}(hi:i<l.length):((l.set i a).set i b).map f=(l.take i).map f++f b::(l.drop (i+1)).map f:=by
 rw[List.set_set];exact Be hi
theorem JQ{l:List w3}(h:0<l.length):((l.drop 1++[k9]).map ak).take (l.length-1)=(l.drop 1).map ak:=by
 rw[<- List.map_take,List.take_left' (by simp)]
theorem Ih{w:List Pg}{a:BL}{k:Int}(hz:∀ i,n0 (w.getD i l4)):(ab w a k).2.length<=4611686018427387904:=by
 have:=we (w:=w) (a:=a) (k:=k) (m:=300) (fun i=>⟨(hz i).t,by have:=(hz i).l;omega⟩);omega
theorem Ev{w:List Pg}{a:BL}{k:Int}(hz:∀ i,n0 (w.getD i l4)):m6 (ab w a k).2:=by
 unfold ab
 split
 exact aT
 rename_i h1
 obtain⟨i,hi⟩:=nA w a (by simpa using h1)
 rw[hi]
 split
 exact aT
 split
 exact(hz i).ta
 exact(hz i).la
theorem ED{w:List Pg}{a:BL}{k:Int}(hw:aq w=true)(hz:∀ i,n0 (w.getD i l4))(h:(ab w a k).1=2):aI (ab w a k).2=true/\m6 (ab w a k).2:=by
 unfold ab at h ⊢
 split at h
 cases h
 rename_i h1
 rw[if_neg h1]
 split at h
 cases h
 rename_i h2
 rw[if_neg h2]
 split at h
 cases h
 rename_i h3
 rw[if_neg h3]
 obtain⟨i,hi⟩:=nA w a (by simpa using h1)
 simp only
 rw[hi]at h3 ⊢
 have hl:i<w.length:=by
  rcases Nat.lt_or_ge i w.length with c | c
  exact c
  exact absurd (by rw[List.getD_eq_getElem?_getD,List.getElem?_eq_none c];rfl) h3
 unfold aq at hw
 simp only[Bool.and_eq_true,decide_eq_true_eq]at hw
 have hp:=(hw.1 i hl).1
 unfold di at hp
 simp only[Bool.and_eq_true,Bool.or_eq_true,beq_iff_eq]at hp
 rcases hp.2 with c | c
 exact absurd c h3
 exact⟨c.2,(hz i).la⟩
theorem HP{s:BL}(h:aI s=true):s.length<=1000:=by
 unfold aI at h
 rw[Bool.and_eq_true]at h
 have:=Ds h.1;omega
theorem pU{w:List Pg}{a:BL}{k:Int}{b:s5}(hw:aq w=true)(hz:∀ i,n0 (w.getD i l4)):∀ m,m∈(if (ab w a k).1=1 then bb b (ab w a k).2 else if (ab w a k).1=2 then [(ab w a k).2] else [])->m.length<=1000/\m6 m/\(av m).length<=1000:=by
 intro m hm
 have key:aI m=true/\m6 m:=by
  split at hm
  exact BI m hm
  split at hm
  rename_i h2
  rw[List.mem_singleton.1 hm]
  exact ED hw hz h2
  simp at hm
 exact⟨HP key.1,key.2,(kF m).1⟩
theorem Cc{k:Int}{b:s5}{t:BL}:(if k=1 then bb b t else if k=2 then [t] else []).length<=300:=by
 split
 exact(zw b t).1
 split <;> simp
theorem Je{n:BL}{a8:Int}{zs:List l6}{se:List BL}{ls0 ls:List m9}{ix:Nat}{w:List Pg}(hi:ix<zs.length)(hy:HS 60 (zs.getD ix e9))(ht:TS ⟨n,a8,zs,se,ls0⟩):TS ⟨n,a8,zs.set ix (E2 w (zs.getD ix e9) a8),se,ls⟩:=by
 refine⟨ht.s,by rw[List.length_set];exact ht.h,ht.sa,fun y h=>?_⟩
 rcases qy h with e | h
 have q:HS se.length (zs.getD ix e9):=ht.ha _ (bK (d:=e9) hi)
 rw[e]
 refine⟨q.n,q.r,q.rp,q.w,?_,fun x hx=>?_,q.k⟩
 show ((zs.getD ix e9).td.drop 1).length+60<=1000+se.length
 have:=q.t
 rw[List.length_drop];omega
 exact q.ta x (List.mem_of_mem_drop hx)
 exact ht.ha y h
section
variable {w:List Pg} {n:BL} {a8:Int} {zs:List l6} {se:List BL} {ls:List m9} {ix:Nat}
theorem JE(h:(ab w ((zs.getD ix e9).td.getD 0 k9).ad ((zs.getD ix e9).td.getD 0 k9).tr).1=3/\((zs.getD ix e9).td.getD 0 k9).tr+1<3):Lw w ⟨n,a8,zs,se,ls⟩ ix=⟨n,a8,zs.set ix { E2 w (zs.getD ix e9) a8 with td:=(zs.getD ix e9).td.drop 1++[⟨((zs.getD ix e9).td.getD 0 k9).ad,((zs.getD ix e9).td.getD 0 k9).tr+1⟩] },se,ls++[⟨a8,((zs.getD ix e9).td.getD 0 k9).ad,(ab w ((zs.getD ix e9).td.getD 0 k9).ad ((zs.getD ix e9).td.getD 0 k9).tr).1⟩]⟩:=if_pos h
theorem JM(h:(ab w ((zs.getD ix e9).td.getD 0 k9).ad ((zs.getD ix e9).td.getD 0 k9).tr).1=3->3<=((zs.getD ix e9).td.getD 0 k9).tr+1)(h2:(az ((zs.getD ix e9).td.getD 0 k9).ad).isSome=false):Lw w ⟨n,a8,zs,se,ls⟩ ix=⟨n,a8,zs.set ix (E2 w (zs.getD ix e9) a8),se,ls++[⟨a8,((zs.getD ix e9).td.getD 0 k9).ad,(ab w ((zs.getD ix e9).td.getD 0 k9).ad ((zs.getD ix e9).td.getD 0 k9).tr).1⟩]⟩:=by
 unfold Lw
 simp only
 rw[if_neg (fun c=>by have:=h c.1;omega),if_neg (by rw[<- fO,h2];decide)]
theorem JN(h:(ab w ((zs.getD ix e9).td.getD 0 k9).ad ((zs.getD ix e9).td.getD 0 k9).tr).1=3->3<=((zs.getD ix e9).td.getD 0 k9).tr+1)(h2:(az ((zs.getD ix e9).td.getD 0 k9).ad).isSome=true):Lw w ⟨n,a8,zs,se,ls⟩ ix=(if (ab w ((zs.getD ix e9).td.getD 0 k9).ad ((zs.getD ix e9).td.getD 0 k9).tr).1=1 then bb (oA (az ((zs.getD ix e9).td.getD 0 k9).ad)) (ab w ((zs.getD ix e9).td.getD 0 k9).ad ((zs.getD ix e9).td.getD 0 k9).tr).2 else if (ab w ((zs.getD ix e9).td.getD 0 k9).ad ((zs.getD ix e9).td.getD 0 k9).tr).1=2 then [(ab w ((zs.getD ix e9).td.getD 0 k9).ad ((zs.getD ix e9).td.getD 0 k9).tr).2] else []).foldl aV ⟨n,a8,zs.set ix (E2 w (zs.getD ix e9) a8),se,ls++[⟨a8,((zs.getD ix e9).td.getD 0 k9).ad,(ab w ((zs.getD ix e9).td.getD 0 k9).ad ((zs.getD ix e9).td.getD 0 k9).tr).1⟩]⟩:=by
 rw[fO]at h2
 have e:az ((zs.getD ix e9).td.getD 0 k9).ad=ai ((zs.getD ix e9).td.getD 0 k9).ad:=if_pos h2
 unfold Lw
 simp only
 rw[if_neg (fun c=>by have:=h c.1;omega),if_pos h2,e];rfl
end
def ya(n:BL)(a8:Int)(zs:List l6)(se:List BL)(ls:List m9)(gt:Nat)(g:Nat)(o:Nat)(c:Nat)(gw:Nat)(ix:Nat)(w:List Pg):r5 Tryz.prog:=.mk 107 [.ptr (.key 1001) [] gw 0,.ptr (.key 1000) [2,ix] g (o+ix*8)] [(1001,(gw,.agg [.mp (w.map E5),.ptr (.key 1000) [] gt 0])),(1000,(gt,bm n a8 zs g o c se ls))] ((ix<zs.length)/\(ls.length<=1000)/\(0<=a8/\a8<=100000)/\(HS 60 (zs.getD ix e9))/\(aq w=true)/\(∀ i,n0 (w.getD i l4))/\(0<(zs.getD ix e9).td.length)/\(TS ⟨n,a8,zs,se,ls⟩)/\(n.length<=1000)) (.tup []) [(1001,(gw,.agg [.mp (w.map E5),.ptr (.key 1000) [] gt 0])),(1000,(gt,bj n a8 ((Lw w (⟨n,a8,zs,se,ls⟩:m5) ix).hs) ((Lw w (⟨n,a8,zs,se,ls⟩:m5) ix).se) ((Lw w (⟨n,a8,zs,se,ls⟩:m5) ix).lk)))] (by
 rintro⟨hi,hl,hn,hy,hw,hz,hne,ht,hnn⟩
 have hit:=hy.ta _ (bK (d:=k9) hne)
 have hyt:=hy.t
 generalize Vd:(zs.getD ix e9).td.getD 0 k9=x0
 generalize Vc:zs.getD ix e9=y
 refine aw (N:=81) (rs:=[]) Tryz.func107
  (.h (.z7 1000 (cw n a8 zs ix (y.na) (y.re) (y.kn) (y.gr.na) (y.gr.ru) (y.gr.wa) (y.tr) (y.td) g o c se ls))<|.NK (.key 1000) [2,ix,5] g (o+(ix)*8+7) 2 ((y.td).map ak) (fun ga oa ca=>.h (.z7 1000 (ba n a8 zs ix (y.na) (y.re) (y.kn) (y.gr.na) (y.gr.ru) (y.gr.wa) (y.tr) (y.td) ga oa ca g o c se ls))<|.r 6 [.own 2 ((y.td).map ak) ga oa ca,.agg [sV (((y.td).getD 0 k9).ad),iV (((y.td).getD 0 k9).tr)]]<|.al nS (fun g4=>.st none<|.r 5 [.own 2 ((y.td).map ak) ga oa ca]<|.c (Bp n a8 zs se ls gt g o c ix y ga oa ca (y.td)) [(1000,1000)]<|.q 2<|.cu (VA 1000 [2,ix,5] ((y.td).length-1) 2 (((y.td).drop 1++[k9]).map ak) ga oa ca g (o+(ix)*8+7)) (fun _=>.h (.z7 1000 (ba n a8 zs ix (y.na) (y.re) (y.kn) (y.gr.na) (y.gr.ru) (y.gr.wa) (y.tr) (y.td.drop 1) ga oa ca g o c se ls))<|.h (.Na (.key 1000) [2,ix,5] g (o+(ix)*8+7) (.own 2 ((y.td.drop 1).map ak) ga oa ca) (.ow 2 ((y.td.drop 1).map ak)))<|.h (.z7 1000 (cw n a8 zs ix (y.na) (y.re) (y.kn) (y.gr.na) (y.gr.ru) (y.gr.wa) (y.tr) (y.td.drop 1) g o c se ls))<|.h (.z7 1000 (bm n a8 (zs.set ix ({ y with td:=y.td.drop 1 }:l6)) g o c se ls))<|.r 6 [.b9,.b9]<|.c (xj n a8 (zs.set ix ({ y with td:=y.td.drop 1 }:l6)) se ls gt g o c gw ix w (((y.td).getD 0 k9).ad) (((y.td).getD 0 k9).tr) ({ y with td:=y.td.drop 1 }:l6)) [(1001,1001),(1000,1000)]<|.q 5<|.h (.z7 1000 (cw n a8 zs ix (y.na) ((E2 w y a8).re) (y.kn) (y.gr.na) (y.gr.ru) (y.gr.wa) (y.tr) (y.td.drop 1) g o c se (ls++[(⟨a8,(((y.td).getD 0 k9).ad),(ab w (((y.td).getD 0 k9).ad) (((y.td).getD 0 k9).tr)).1⟩:m9)])))<|.r 8 [.b9]<|.br (.r 4 [.b9]<|.st none<|.NK (.key 1000) [2,ix,5] g (o+(ix)*8+7) 2 ((y.td.drop 1).map ak) (fun NR NJ NV=>.h (.z7 1000 (ba n a8 zs ix (y.na) ((E2 w y a8).re) (y.kn) (y.gr.na) (y.gr.ru) (y.gr.wa) (y.tr) (y.td.drop 1) NR NJ NV g o c se (ls++[(⟨a8,(((y.td).getD 0 k9).ad),(ab w (((y.td).getD 0 k9).ad) (((y.td).getD 0 k9).tr)).1⟩:m9)])))<|.dx 8 [0,1,2,3,4,5,6,7] [(4,⟨false,[],some [1000],[51],[]⟩),(5,⟨false,[],some [4],[52],[]⟩),(7,⟨true,[],none,[54],[1000]⟩)] []<|.q 1<|.q 1<|.q 1<|.q 1<|.r 1 [.own 2 ((y.td.drop 1).map ak) NR NJ NV]<|.r 1 [.b9]<|.bs<|.eu (T5 1000 [2,ix,5] ((y.td.drop 1).map ak) ([.agg [sV (((y.td).getD 0 k9).ad),iV ((((y.td).getD 0 k9).tr)+1)]]:List V) g (o+(ix)*8+7) 2 NR NJ NV) (fun Km=>.h (.z7 1000 (kW n a8 zs ix (y.na) ((E2 w y a8).re) (y.kn) (y.gr.na) (y.gr.ru) (y.gr.wa) (y.tr) g o c se (ls++[(⟨a8,(((y.td).getD 0 k9).ad),(ab w (((y.td).getD 0 k9).ad) (((y.td).getD 0 k9).tr)).1⟩:m9)])))<|.h (.o9 54 (.own 2 (((y.td.drop 1)++[(⟨((y.td).getD 0 k9).ad,(((y.td).getD 0 k9).tr)+1⟩:w3)]).map ak) Km.1 Km.2.1 Km.2.2))<|.q 2<|.st (some (.b9))<|.h (.z7 1000 (ba n a8 zs ix (y.na) ((E2 w y a8).re) (y.kn) (y.gr.na) (y.gr.ru) (y.gr.wa) (y.tr) ((y.td.drop 1)++[(⟨((y.td).getD 0 k9).ad,(((y.td).getD 0 k9).tr)+1⟩:w3)]) Km.1 Km.2.1 Km.2.2 g o c se (ls++[(⟨a8,(((y.td).getD 0 k9).ad),(ab w (((y.td).getD 0 k9).ad) (((y.td).getD 0 k9).tr)).1⟩:m9)])))<|.h (.Na (.key 1000) [2,ix,5] g (o+(ix)*8+7) (.own 2 (((y.td.drop 1)++[(⟨((y.td).getD 0 k9).ad,(((y.td).getD 0 k9).tr)+1⟩:w3)]).map ak) Km.1 Km.2.1 Km.2.2) (.ow 2 (((y.td.drop 1)++[(⟨((y.td).getD 0 k9).ad,(((y.td).getD 0 k9).tr)+1⟩:w3)]).map ak)))<|.h (.z7 1000 (cw n a8 zs ix (y.na) ((E2 w y a8).re) (y.kn) (y.gr.na) (y.gr.ru) (y.gr.wa) (y.tr) ((y.td.drop 1)++[(⟨((y.td).getD 0 k9).ad,(((y.td).getD 0 k9).tr)+1⟩:w3)]) g o c se (ls++[(⟨a8,(((y.td).getD 0 k9).ad),(ab w (((y.td).getD 0 k9).ad) (((y.td).getD 0 k9).tr)).1⟩:m9)])))<|.h (.z7 1000 (bm n a8 (zs.set ix ({ (E2 w y a8) with td:=y.td.drop 1++[(⟨x0.ad,x0.tr+1⟩:w3)] }:l6)) g o c se (ls++[(⟨a8,(((y.td).getD 0 k9).ad),(ab w (((y.td).getD 0 k9).ad) (((y.td).getD 0 k9).tr)).1⟩:m9)])))<|.nil))) (.r 2 [.b9]<|.c (cG (((y.td).getD 0 k9).ad)) []<|.q 3<|.al cy (fun g7=>.st none<|.q 1<|.h (.z7 1000 (bm n a8 (zs.set ix (E2 w y a8)) g o c se (ls++[(⟨a8,(((y.td).getD 0 k9).ad),(ab w (((y.td).getD 0 k9).ad) (((y.td).getD 0 k9).tr)).1⟩:m9)])))<|.q 2<|.br (.nil) (.r 3 [.b9]<|.c (yV (oA (az (((y.td).getD 0 k9).ad))) ((ab w (((y.td).getD 0 k9).ad) (((y.td).getD 0 k9).tr)).1) ((ab w (((y.td).getD 0 k9).ad) (((y.td).getD 0 k9).tr)).2)) []<|.q 2<|.loop (Nat×(List l6)×(List BL)) (fun (i,zz,ss)=>⟨[(0,.ptr (.key 1001) [] gw 0),(68,ax (if (ab w x0.ad x0.tr).1=1 then bb (oA (az x0.ad)) (ab w x0.ad x0.tr).2 else if (ab w x0.ad x0.tr).1=2 then [(ab w x0.ad x0.tr).2] else [])),(69,iN (((if (ab w x0.ad x0.tr).1=1 then bb (oA (az x0.ad)) (ab w x0.ad x0.tr).2 else if (ab w x0.ad x0.tr).1=2 then [(ab w x0.ad x0.tr).2] else [])).length)),(70,iN i)],[(1001,(gw,.agg [.mp (w.map E5),.ptr (.key 1000) [] gt 0])),(1000,(gt,bj n a8 zz ss (ls++[(⟨a8,x0.ad,(ab w x0.ad x0.tr).1⟩:m9)])))]⟩) (fun (i,zz,ss)=>i<=((if (ab w x0.ad x0.tr).1=1 then bb (oA (az x0.ad)) (ab w x0.ad x0.tr).2 else if (ab w x0.ad x0.tr).1=2 then [(ab w x0.ad x0.tr).2] else [])).length/\zz=((((if (ab w x0.ad x0.tr).1=1 then bb (oA (az x0.ad)) (ab w x0.ad x0.tr).2 else if (ab w x0.ad x0.tr).1=2 then [(ab w x0.ad x0.tr).2] else [])).take i).foldl aV (⟨n,a8,zs.set ix (E2 w y a8),se,ls++[(⟨a8,x0.ad,(ab w x0.ad x0.tr).1⟩:m9)]⟩:m5)).hs/\ss=((((if (ab w x0.ad x0.tr).1=1 then bb (oA (az x0.ad)) (ab w x0.ad x0.tr).2 else if (ab w x0.ad x0.tr).1=2 then [(ab w x0.ad x0.tr).2] else [])).take i).foldl aV (⟨n,a8,zs.set ix (E2 w y a8),se,ls++[(⟨a8,x0.ad,(ab w x0.ad x0.tr).1⟩:m9)]⟩:m5)).se) (fun (i,zz,ss)=>((if (ab w x0.ad x0.tr).1=1 then bb (oA (az x0.ad)) (ab w x0.ad x0.tr).2 else if (ab w x0.ad x0.tr).1=2 then [(ab w x0.ad x0.tr).2] else [])).length-i) (fun (i,zz,ss)=>.q 1<|.br (.r 3 [sV ((if (ab w x0.ad x0.tr).1=1 then bb (oA (az x0.ad)) (ab w x0.ad x0.tr).2 else if (ab w x0.ad x0.tr).1=2 then [(ab w x0.ad x0.tr).2] else []).getD i [])]<|.r 5 [.b9]<|.c (tF n a8 zz ss (ls++[(⟨a8,x0.ad,(ab w x0.ad x0.tr).1⟩:m9)]) gt ((if (ab w x0.ad x0.tr).1=1 then bb (oA (az x0.ad)) (ab w x0.ad x0.tr).2 else if (ab w x0.ad x0.tr).1=2 then [(ab w x0.ad x0.tr).2] else []).getD i [])) [(1000,1000)]<|.q 2<|.nil) (.nil)))))))))
  ((fun v1:V=>(fun v2:V=>(fun v3:V=>(((bm n a8 zs g o c se ls:V)=cw n a8 zs ix (y.na) (y.re) (y.kn) (y.gr.na) (y.gr.ru) (y.gr.wa) (y.tr) (y.td) g o c se ls)/\(V.at gt 0 (cw n a8 zs ix (y.na) (y.re) (y.kn) (y.gr.na) (y.gr.ru) (y.gr.wa) (y.tr) (y.td) g o c se ls) [2,ix,5]=some (g,o+(ix)*8+7,.ow 2 ((y.td).map ak)))/\∀ ga oa ca:Nat,(V.set (cw n a8 zs ix (y.na) (y.re) (y.kn) (y.gr.na) (y.gr.ru) (y.gr.wa) (y.tr) (y.td) g o c se ls) [2,ix,5] (.own 2 ((y.td).map ak) ga oa ca)=ba n a8 zs ix (y.na) (y.re) (y.kn) (y.gr.na) (y.gr.ru) (y.gr.wa) (y.tr) (y.td) ga oa ca g o c se ls)/\True/\(V.at gt 0 (ba n a8 zs ix (y.na) (y.re) (y.kn) (y.gr.na) (y.gr.ru) (y.gr.wa) (y.tr) (y.td) ga oa ca g o c se ls) [2,ix,5]=some (g,(o+ix*8+7),.own 2 ((y.td).map ak) ga oa ca))/\In 0 (((y.td).map ak).length)/\(V.at gt 0 (ba n a8 zs ix (y.na) (y.re) (y.kn) (y.gr.na) (y.gr.ru) (y.gr.wa) (y.tr) (y.td) ga oa ca g o c se ls) [2,ix,5,0+0]=some (ga,(oa+(0+0)*2),.agg [sV (((y.td).getD 0 k9).ad),iV (((y.td).getD 0 k9).tr)]))/\∀ g4:Nat,Z g4 0/\True/\(V.at gt 0 (ba n a8 zs ix (y.na) (y.re) (y.kn) (y.gr.na) (y.gr.ru) (y.gr.wa) (y.tr) (y.td) ga oa ca g o c se ls) [2,ix,5]=some (g,(o+ix*8+7),.own 2 ((y.td).map ak) ga oa ca))/\(Bp n a8 zs se ls gt g o c ix y ga oa ca (y.td)).sm/\Er gt (ba n a8 zs ix (y.na) (y.re) (y.kn) (y.gr.na) (y.gr.ru) (y.gr.wa) (y.tr) (y.td) ga oa ca g o c se ls)/\((ix<zs.length)/\(0<(y.td).length/\(y.td).length<=1000))/\True/\((((.key 1000:l9),([2,ix,5]:List Nat),2,ga,oa,(0:Nat),((y.td).length-1),ca)=((.key 1000:l9),([2,ix,5]:List Nat),2,ga,oa,(0:Nat),((y.td).length-1),ca))/\((.ptr (.key 1000) [2,ix,5] g (o+ix*8+7):V)=.ptr (.key 1000) [2,ix,5] g (o+(ix)*8+7))/\(V.at gt 0 (ba n a8 zs ix (y.na) (y.re) (y.kn) (y.gr.na) (y.gr.ru) (y.gr.wa) (y.tr) ((y.td).drop 1++[k9]) ga oa ca g o c se ls) [2,ix,5]=some (g,o+(ix)*8+7,.own 2 (((y.td).drop 1++[k9]).map ak) ga oa ca))/\((1:Nat)=1)/\(((y.td).length-1)<=(((y.td).drop 1++[k9]).map ak).length)/\(V.aD (((y.td).drop 1++[k9]).map ak)=false))/\∀ _:Unit,(V.set (ba n a8 zs ix (y.na) (y.re) (y.kn) (y.gr.na) (y.gr.ru) (y.gr.wa) (y.tr) ((y.td).drop 1++[k9]) ga oa ca g o c se ls) [2,ix,5] (.own 2 ((((y.td).drop 1++[k9]).map ak).take ((y.td).length-1)) ga oa ca)=ba n a8 zs ix (y.na) (y.re) (y.kn) (y.gr.na) (y.gr.ru) (y.gr.wa) (y.tr) (y.td.drop 1) ga oa ca g o c se ls)/\(V.at gt 0 (ba n a8 zs ix (y.na) (y.re) (y.kn) (y.gr.na) (y.gr.ru) (y.gr.wa) (y.tr) (y.td.drop 1) ga oa ca g o c se ls) [2,ix,5]=some (g,o+(ix)*8+7,.own 2 ((y.td.drop 1).map ak) ga oa ca))/\(V.set (ba n a8 zs ix (y.na) (y.re) (y.kn) (y.gr.na) (y.gr.ru) (y.gr.wa) (y.tr) (y.td.drop 1) ga oa ca g o c se ls) [2,ix,5] (.ow 2 ((y.td.drop 1).map ak))=cw n a8 zs ix (y.na) (y.re) (y.kn) (y.gr.na) (y.gr.ru) (y.gr.wa) (y.tr) (y.td.drop 1) g o c se ls)/\((cw n a8 zs ix (y.na) (y.re) (y.kn) (y.gr.na) (y.gr.ru) (y.gr.wa) (y.tr) (y.td.drop 1) g o c se ls:V)=bm n a8 (zs.set ix ({ y with td:=y.td.drop 1 }:l6)) g o c se ls)/\Z g4 0/\Z g4 1/\(([.ptr (.key 1001) [] gw 0,.ptr (.key 1000) [2,ix] g (o+ix*8),sV (((y.td).getD 0 k9).ad),iV (((y.td).getD 0 k9).tr)]:List V)=[.ptr (.key 1001) [] gw 0,.ptr (.key 1000) [2,ix] g (o+ix*8),sV (((y.td).getD 0 k9).ad),iV (((y.td).getD 0 k9).tr)])/\Er gw v2/\Er gt (bm n a8 (zs.set ix ({ y with td:=y.td.drop 1 }:l6)) g o c se ls)/\((ix<(zs.set ix ({ y with td:=y.td.drop 1 }:l6)).length)/\(ls.length<=1000)/\(0<=(((y.td).getD 0 k9).tr)/\(((y.td).getD 0 k9).tr)<=1000)/\(0<=a8/\a8<=100000)/\((zs.set ix ({ y with td:=y.td.drop 1 }:l6)).getD ix e9=({ y with td:=y.td.drop 1 }:l6))/\(({ y with td:=y.td.drop 1 }:l6).gr.wa<=1000))/\((bm n a8 ((zs.set ix ({ y with td:=y.td.drop 1 }:l6)).set ix (eL ({ y with td:=y.td.drop 1 }:l6) a8 (ab w (((y.td).getD 0 k9).ad) (((y.td).getD 0 k9).tr)).1 (((y.td).getD 0 k9).tr))) g o c se (ls++[(⟨a8,(((y.td).getD 0 k9).ad),(ab w (((y.td).getD 0 k9).ad) (((y.td).getD 0 k9).tr)).1⟩:m9)]):V)=cw n a8 zs ix (y.na) ((E2 w y a8).re) (y.kn) (y.gr.na) (y.gr.ru) (y.gr.wa) (y.tr) (y.td.drop 1) g o c se (ls++[(⟨a8,(((y.td).getD 0 k9).ad),(ab w (((y.td).getD 0 k9).ad) (((y.td).getD 0 k9).tr)).1⟩:m9)]))/\Gd ((r4 ((ab w (((y.td).getD 0 k9).ad) (((y.td).getD 0 k9).tr)).1) 3)==true) (Z g4 1)/\Gd ((r4 ((ab w (((y.td).getD 0 k9).ad) (((y.td).getD 0 k9).tr)).1) 3)==true) (m8 ((((y.td).getD 0 k9).tr)+1))/\Pk (r4 ((ab w (((y.td).getD 0 k9).ad) (((y.td).getD 0 k9).tr)).1) 3) ((r4 ((ab w (((y.td).getD 0 k9).ad) (((y.td).getD 0 k9).tr)).1) 3)==true) true/\Br ((r4 ((ab w (((y.td).getD 0 k9).ad) (((y.td).getD 0 k9).tr)).1) 3)&&(s7 ((((y.td).getD 0 k9).tr)+1) 3)) (Z g4 1/\m8 ((((y.td).getD 0 k9).tr)+1)/\Z g4 1/\(V.at gt 0 (cw n a8 zs ix (y.na) ((E2 w y a8).re) (y.kn) (y.gr.na) (y.gr.ru) (y.gr.wa) (y.tr) (y.td.drop 1) g o c se (ls++[(⟨a8,(((y.td).getD 0 k9).ad),(ab w (((y.td).getD 0 k9).ad) (((y.td).getD 0 k9).tr)).1⟩:m9)])) [2,ix,5]=some (g,o+(ix)*8+7,.ow 2 ((y.td.drop 1).map ak)))/\∀ NR NJ NV:Nat,(fun v4:V=>(fun v5:List V=>(fun v6:V=>(V.set (cw n a8 zs ix (y.na) ((E2 w y a8).re) (y.kn) (y.gr.na) (y.gr.ru) (y.gr.wa) (y.tr) (y.td.drop 1) g o c se (ls++[(⟨a8,(((y.td).getD 0 k9).ad),(ab w (((y.td).getD 0 k9).ad) (((y.td).getD 0 k9).tr)).1⟩:m9)])) [2,ix,5] (.own 2 ((y.td.drop 1).map ak) NR NJ NV)=ba n a8 zs ix (y.na) ((E2 w y a8).re) (y.kn) (y.gr.na) (y.gr.ru) (y.gr.wa) (y.tr) (y.td.drop 1) NR NJ NV g o c se (ls++[(⟨a8,(((y.td).getD 0 k9).ad),(ab w (((y.td).getD 0 k9).ad) (((y.td).getD 0 k9).tr)).1⟩:m9)]))/\True/\(V.at gt 0 v4 [2,ix,5]=some (g,(o+ix*8+7),.own 2 ((y.td.drop 1).map ak) NR NJ NV))/\Z g4 0/\(v5=v5/\((.hd (.key 1000) [2,ix,5] 2 NR NJ 0 (((y.td.drop 1).map ak).length) NV:V)=.hd (.key 1000) [2,ix,5] 2 NR NJ 0 (((y.td.drop 1).map ak).length) NV)/\(V.at gt 0 v4 [2,ix,5]=some (g,o+(ix)*8+7,.own 2 ((y.td.drop 1).map ak) NR NJ NV))/\((2:Nat)=2)/\(V.aD v5=false)/\(aG 2 v5)/\((((y.td.drop 1).map ak).length+v5.length)*24<=140737488355328))/\∀ Km:Nat×Nat×Nat,(fun v7:V=>(V.set v4 [2,ix,5] (.b9)=kW n a8 zs ix (y.na) ((E2 w y a8).re) (y.kn) (y.gr.na) (y.gr.ru) (y.gr.wa) (y.tr) g o c se (ls++[(⟨a8,(((y.td).getD 0 k9).ad),(ab w (((y.td).getD 0 k9).ad) (((y.td).getD 0 k9).tr)).1⟩:m9)]))/\((.own 2 (((y.td.drop 1).map ak)++v5) Km.1 Km.2.1 Km.2.2:V)=.own 2 (((y.td.drop 1)++[(⟨((y.td).getD 0 k9).ad,(((y.td).getD 0 k9).tr)+1⟩:w3)]).map ak) Km.1 Km.2.1 Km.2.2)/\True/\(V.at gt 0 v6 [2,ix,5]=some (g,(o+ix*8+7),.b9))/\(V.set v6 [2,ix,5] (.own 2 (((y.td.drop 1)++[(⟨((y.td).getD 0 k9).ad,(((y.td).getD 0 k9).tr)+1⟩:w3)]).map ak) Km.1 Km.2.1 Km.2.2)=ba n a8 zs ix (y.na) ((E2 w y a8).re) (y.kn) (y.gr.na) (y.gr.ru) (y.gr.wa) (y.tr) ((y.td.drop 1)++[(⟨((y.td).getD 0 k9).ad,(((y.td).getD 0 k9).tr)+1⟩:w3)]) Km.1 Km.2.1 Km.2.2 g o c se (ls++[(⟨a8,(((y.td).getD 0 k9).ad),(ab w (((y.td).getD 0 k9).ad) (((y.td).getD 0 k9).tr)).1⟩:m9)]))/\(V.at gt 0 v7 [2,ix,5]=some (g,o+(ix)*8+7,.own 2 (((y.td.drop 1)++[(⟨((y.td).getD 0 k9).ad,(((y.td).getD 0 k9).tr)+1⟩:w3)]).map ak) Km.1 Km.2.1 Km.2.2))/\(V.set v7 [2,ix,5] (.ow 2 (((y.td.drop 1)++[(⟨((y.td).getD 0 k9).ad,(((y.td).getD 0 k9).tr)+1⟩:w3)]).map ak))=cw n a8 zs ix (y.na) ((E2 w y a8).re) (y.kn) (y.gr.na) (y.gr.ru) (y.gr.wa) (y.tr) ((y.td.drop 1)++[(⟨((y.td).getD 0 k9).ad,(((y.td).getD 0 k9).tr)+1⟩:w3)]) g o c se (ls++[(⟨a8,(((y.td).getD 0 k9).ad),(ab w (((y.td).getD 0 k9).ad) (((y.td).getD 0 k9).tr)).1⟩:m9)]))/\((cw n a8 zs ix (y.na) ((E2 w y a8).re) (y.kn) (y.gr.na) (y.gr.ru) (y.gr.wa) (y.tr) ((y.td.drop 1)++[(⟨((y.td).getD 0 k9).ad,(((y.td).getD 0 k9).tr)+1⟩:w3)]) g o c se (ls++[(⟨a8,(((y.td).getD 0 k9).ad),(ab w (((y.td).getD 0 k9).ad) (((y.td).getD 0 k9).tr)).1⟩:m9)]):V)=bm n a8 (zs.set ix ({ (E2 w y a8) with td:=y.td.drop 1++[(⟨x0.ad,x0.tr+1⟩:w3)] }:l6)) g o c se (ls++[(⟨a8,(((y.td).getD 0 k9).ad),(ab w (((y.td).getD 0 k9).ad) (((y.td).getD 0 k9).tr)).1⟩:m9)]))/\Q (.tup []) (.tup [])/\Er gw v2/\Qr gt (bj n a8 (zs.set ix ({ (E2 w y a8) with td:=y.td.drop 1++[(⟨x0.ad,x0.tr+1⟩:w3)] }:l6)) se (ls++[(⟨a8,(((y.td).getD 0 k9).ad),(ab w (((y.td).getD 0 k9).ad) (((y.td).getD 0 k9).tr)).1⟩:m9)])) gt v1) (ba n a8 zs ix (y.na) ((E2 w y a8).re) (y.kn) (y.gr.na) (y.gr.ru) (y.gr.wa) (y.tr) ((y.td.drop 1)++[(⟨((y.td).getD 0 k9).ad,(((y.td).getD 0 k9).tr)+1⟩:w3)]) Km.1 Km.2.1 Km.2.2 g o c se (ls++[(⟨a8,(((y.td).getD 0 k9).ad),(ab w (((y.td).getD 0 k9).ad) (((y.td).getD 0 k9).tr)).1⟩:m9)]))) (kW n a8 zs ix (y.na) ((E2 w y a8).re) (y.kn) (y.gr.na) (y.gr.ru) (y.gr.wa) (y.tr) g o c se (ls++[(⟨a8,(((y.td).getD 0 k9).ad),(ab w (((y.td).getD 0 k9).ad) (((y.td).getD 0 k9).tr)).1⟩:m9)]))) ([.agg [sV (((y.td).getD 0 k9).ad),iV ((((y.td).getD 0 k9).tr)+1)]]:List V)) (ba n a8 zs ix (y.na) ((E2 w y a8).re) (y.kn) (y.gr.na) (y.gr.ru) (y.gr.wa) (y.tr) (y.td.drop 1) NR NJ NV g o c se (ls++[(⟨a8,(((y.td).getD 0 k9).ad),(ab w (((y.td).getD 0 k9).ad) (((y.td).getD 0 k9).tr)).1⟩:m9)]))) (Z g4 0/\(cG (((y.td).getD 0 k9).ad)).sm/\(((((y.td).getD 0 k9).ad).length<=1000000)/\(m6 (((y.td).getD 0 k9).ad)))/\∀ g7:Nat,Z g7 0/\((cw n a8 zs ix (y.na) ((E2 w y a8).re) (y.kn) (y.gr.na) (y.gr.ru) (y.gr.wa) (y.tr) (y.td.drop 1) g o c se (ls++[(⟨a8,(((y.td).getD 0 k9).ad),(ab w (((y.td).getD 0 k9).ad) (((y.td).getD 0 k9).tr)).1⟩:m9)]):V)=bm n a8 (zs.set ix (E2 w y a8)) g o c se (ls++[(⟨a8,(((y.td).getD 0 k9).ad),(ab w (((y.td).getD 0 k9).ad) (((y.td).getD 0 k9).tr)).1⟩:m9)]))/\Br (!((az (((y.td).getD 0 k9).ad)).isSome)) (Q (.tup []) (.tup [])/\Er gw v2/\Qr gt (bj n a8 (zs.set ix (E2 w y a8)) se (ls++[(⟨a8,(((y.td).getD 0 k9).ad),(ab w (((y.td).getD 0 k9).ad) (((y.td).getD 0 k9).tr)).1⟩:m9)])) gt v1) (Z g7 0/\(yV (oA (az (((y.td).getD 0 k9).ad))) ((ab w (((y.td).getD 0 k9).ad) (((y.td).getD 0 k9).tr)).1) ((ab w (((y.td).getD 0 k9).ad) (((y.td).getD 0 k9).tr)).2)).sm/\((cq (oA (az (((y.td).getD 0 k9).ad))))/\(((ab w (((y.td).getD 0 k9).ad) (((y.td).getD 0 k9).tr)).2).length<=4611686018427387904)/\(m6 ((ab w (((y.td).getD 0 k9).ad) (((y.td).getD 0 k9).tr)).2)))/\(∃ x:Nat×(List l6)×(List BL),match x with | (j8,Lj,Lo)=>(j8<=((if (ab w x0.ad x0.tr).1=1 then bb (oA (az x0.ad)) (ab w x0.ad x0.tr).2 else if (ab w x0.ad x0.tr).1=2 then [(ab w x0.ad x0.tr).2] else [])).length/\Lj=((((if (ab w x0.ad x0.tr).1=1 then bb (oA (az x0.ad)) (ab w x0.ad x0.tr).2 else if (ab w x0.ad x0.tr).1=2 then [(ab w x0.ad x0.tr).2] else [])).take j8).foldl aV (⟨n,a8,zs.set ix (E2 w y a8),se,ls++[(⟨a8,x0.ad,(ab w x0.ad x0.tr).1⟩:m9)]⟩:m5)).hs/\Lo=((((if (ab w x0.ad x0.tr).1=1 then bb (oA (az x0.ad)) (ab w x0.ad x0.tr).2 else if (ab w x0.ad x0.tr).1=2 then [(ab w x0.ad x0.tr).2] else [])).take j8).foldl aV (⟨n,a8,zs.set ix (E2 w y a8),se,ls++[(⟨a8,x0.ad,(ab w x0.ad x0.tr).1⟩:m9)]⟩:m5)).se)/\E (.ptr (.key 1001) [] gw 0)/\Q (ax (if ((ab w (((y.td).getD 0 k9).ad) (((y.td).getD 0 k9).tr)).1)=1 then bb (oA (az (((y.td).getD 0 k9).ad))) ((ab w (((y.td).getD 0 k9).ad) (((y.td).getD 0 k9).tr)).2) else if ((ab w (((y.td).getD 0 k9).ad) (((y.td).getD 0 k9).tr)).1)=2 then [((ab w (((y.td).getD 0 k9).ad) (((y.td).getD 0 k9).tr)).2)] else [])) v3/\Q (iN (((if ((ab w (((y.td).getD 0 k9).ad) (((y.td).getD 0 k9).tr)).1)=1 then bb (oA (az (((y.td).getD 0 k9).ad))) ((ab w (((y.td).getD 0 k9).ad) (((y.td).getD 0 k9).tr)).2) else if ((ab w (((y.td).getD 0 k9).ad) (((y.td).getD 0 k9).tr)).1)=2 then [((ab w (((y.td).getD 0 k9).ad) (((y.td).getD 0 k9).tr)).2)] else []).map sV).length)) (iN (((if (ab w x0.ad x0.tr).1=1 then bb (oA (az x0.ad)) (ab w x0.ad x0.tr).2 else if (ab w x0.ad x0.tr).1=2 then [(ab w x0.ad x0.tr).2] else [])).length))/\Q (iN 0) (iN j8)/\Er gw v2/\Qr gt (bj n a8 (zs.set ix (E2 w y a8)) se (ls++[(⟨a8,(((y.td).getD 0 k9).ad),(ab w (((y.td).getD 0 k9).ad) (((y.td).getD 0 k9).tr)).1⟩:m9)])) gt (bj n a8 Lj Lo (ls++[(⟨a8,x0.ad,(ab w x0.ad x0.tr).1⟩:m9)]))/\True)/\∀ x:Nat×(List l6)×(List BL),match x with | (i,zz,ss)=>(i<=((if (ab w x0.ad x0.tr).1=1 then bb (oA (az x0.ad)) (ab w x0.ad x0.tr).2 else if (ab w x0.ad x0.tr).1=2 then [(ab w x0.ad x0.tr).2] else [])).length/\zz=((((if (ab w x0.ad x0.tr).1=1 then bb (oA (az x0.ad)) (ab w x0.ad x0.tr).2 else if (ab w x0.ad x0.tr).1=2 then [(ab w x0.ad x0.tr).2] else [])).take i).foldl aV (⟨n,a8,zs.set ix (E2 w y a8),se,ls++[(⟨a8,x0.ad,(ab w x0.ad x0.tr).1⟩:m9)]⟩:m5)).hs/\ss=((((if (ab w x0.ad x0.tr).1=1 then bb (oA (az x0.ad)) (ab w x0.ad x0.tr).2 else if (ab w x0.ad x0.tr).1=2 then [(ab w x0.ad x0.tr).2] else [])).take i).foldl aV (⟨n,a8,zs.set ix (E2 w y a8),se,ls++[(⟨a8,x0.ad,(ab w x0.ad x0.tr).1⟩:m9)]⟩:m5)).se)->(fun v8:V=>Br (s7 (i:Int) ((((if (ab w x0.ad x0.tr).1=1 then bb (oA (az x0.ad)) (ab w x0.ad x0.tr).2 else if (ab w x0.ad x0.tr).1=2 then [(ab w x0.ad x0.tr).2] else [])).length:Nat):Int)) (Ex (i:Int) ((if (ab w x0.ad x0.tr).1=1 then bb (oA (az x0.ad)) (ab w x0.ad x0.tr).2 else if (ab w x0.ad x0.tr).1=2 then [(ab w x0.ad x0.tr).2] else []).map sV) (sV ((if (ab w x0.ad x0.tr).1=1 then bb (oA (az x0.ad)) (ab w x0.ad x0.tr).2 else if (ab w x0.ad x0.tr).1=2 then [(ab w x0.ad x0.tr).2] else []).getD i []))/\True/\True/\Z gw 1/\(tF n a8 zz ss (ls++[(⟨a8,x0.ad,(ab w x0.ad x0.tr).1⟩:m9)]) gt ((if (ab w x0.ad x0.tr).1=1 then bb (oA (az x0.ad)) (ab w x0.ad x0.tr).2 else if (ab w x0.ad x0.tr).1=2 then [(ab w x0.ad x0.tr).2] else []).getD i [])).sm/\Er gt v8/\((zz.length<=1000)/\(ss.length<=1000)/\(((if (ab w x0.ad x0.tr).1=1 then bb (oA (az x0.ad)) (ab w x0.ad x0.tr).2 else if (ab w x0.ad x0.tr).1=2 then [(ab w x0.ad x0.tr).2] else []).getD i []).length<=1000000)/\(m6 ((if (ab w x0.ad x0.tr).1=1 then bb (oA (az x0.ad)) (ab w x0.ad x0.tr).2 else if (ab w x0.ad x0.tr).1=2 then [(ab w x0.ad x0.tr).2] else []).getD i []))/\(∀ y,y∈zz->y.td.length<=1000/\y.gr.ru.length<=1000/\∀ i,(y.gr.ru.getD i ⟨false,[]⟩).path.length<=1000))/\m8 ((i:Int)+1)/\∃ x:Nat×(List l6)×(List BL),match x with | (c9,Li,Lm)=>(c9<=((if (ab w x0.ad x0.tr).1=1 then bb (oA (az x0.ad)) (ab w x0.ad x0.tr).2 else if (ab w x0.ad x0.tr).1=2 then [(ab w x0.ad x0.tr).2] else [])).length/\Li=((((if (ab w x0.ad x0.tr).1=1 then bb (oA (az x0.ad)) (ab w x0.ad x0.tr).2 else if (ab w x0.ad x0.tr).1=2 then [(ab w x0.ad x0.tr).2] else [])).take c9).foldl aV (⟨n,a8,zs.set ix (E2 w y a8),se,ls++[(⟨a8,x0.ad,(ab w x0.ad x0.tr).1⟩:m9)]⟩:m5)).hs/\Lm=((((if (ab w x0.ad x0.tr).1=1 then bb (oA (az x0.ad)) (ab w x0.ad x0.tr).2 else if (ab w x0.ad x0.tr).1=2 then [(ab w x0.ad x0.tr).2] else [])).take c9).foldl aV (⟨n,a8,zs.set ix (E2 w y a8),se,ls++[(⟨a8,x0.ad,(ab w x0.ad x0.tr).1⟩:m9)]⟩:m5)).se)/\(((if (ab w x0.ad x0.tr).1=1 then bb (oA (az x0.ad)) (ab w x0.ad x0.tr).2 else if (ab w x0.ad x0.tr).1=2 then [(ab w x0.ad x0.tr).2] else [])).length-c9<((if (ab w x0.ad x0.tr).1=1 then bb (oA (az x0.ad)) (ab w x0.ad x0.tr).2 else if (ab w x0.ad x0.tr).1=2 then [(ab w x0.ad x0.tr).2] else [])).length-i)/\E (.ptr (.key 1001) [] gw 0)/\E v3/\E (iN (((if (ab w x0.ad x0.tr).1=1 then bb (oA (az x0.ad)) (ab w x0.ad x0.tr).2 else if (ab w x0.ad x0.tr).1=2 then [(ab w x0.ad x0.tr).2] else [])).length))/\Q (iN (i+1)) (iN c9)/\Er gw v2/\Qr gt (bj n a8 (bS n zz ss ((if (ab w x0.ad x0.tr).1=1 then bb (oA (az x0.ad)) (ab w x0.ad x0.tr).2 else if (ab w x0.ad x0.tr).1=2 then [(ab w x0.ad x0.tr).2] else []).getD i [])) (dZ ss ((if (ab w x0.ad x0.tr).1=1 then bb (oA (az x0.ad)) (ab w x0.ad x0.tr).2 else if (ab w x0.ad x0.tr).1=2 then [(ab w x0.ad x0.tr).2] else []).getD i [])) (ls++[(⟨a8,x0.ad,(ab w x0.ad x0.tr).1⟩:m9)])) gt (bj n a8 Li Lm (ls++[(⟨a8,x0.ad,(ab w x0.ad x0.tr).1⟩:m9)]))/\True) (Q (.tup []) (.tup [])/\Er gw v2/\Qr gt v8 gt v1)) (bj n a8 zz ss (ls++[(⟨a8,x0.ad,(ab w x0.ad x0.tr).1⟩:m9)])))))) (ax (if (ab w x0.ad x0.tr).1=1 then bb (oA (az x0.ad)) (ab w x0.ad x0.tr).2 else if (ab w x0.ad x0.tr).1=2 then [(ab w x0.ad x0.tr).2] else []))) (.agg [.mp (w.map E5),.ptr (.key 1000) [] gt 0])) (bj n a8 ((Lw w (⟨n,a8,zs,se,ls⟩:m5) ix).hs) ((Lw w (⟨n,a8,zs,se,ls⟩:m5) ix).se) ((Lw w (⟨n,a8,zs,se,ls⟩:m5) ix).lk))) ?_
 subst Vc
 subst Vd
 refine⟨LM (congrArg (V.own 8 · g o c) (pv (d:=e9) (by omega))),(aP (f:=2) rfl).trans (aE (aF (by omega)) rfl),?_⟩
 intro ga oa ca
 refine⟨dq (aR (aF (by omega)) (cD (by omega))),trivial,(aP (f:=2) rfl).trans (aE (aF (by omega)) rfl),by(try simp only[List.length_map]at *);omega,(aP (f:=2) rfl).trans (aE (aF (by omega)) ((aP (f:=5) rfl).trans (aE (by rw[Nat.zero_add];exact aj (d:=k9) (by omega)) rfl))),?_⟩
 intro g4
 refine⟨rfl,trivial,(aP (f:=2) rfl).trans (aE (aF (by omega)) rfl),rfl,rfl,⟨hi,by have:=hy.t;omega⟩,trivial,⟨rfl,rfl,(aP (f:=2) rfl).trans (aE (aF (by omega)) rfl),rfl,by simp,cm (f:=ak) (fun _=>rfl) _⟩,?_⟩
 intro _
 refine⟨(congrArg (fun r:V=>V.set (.agg [sV n,iV a8,.own 8 ((zs.take ix).map aA++(.agg [sV ((zs.getD ix e9).na),iV ((zs.getD ix e9).re),bV ((zs.getD ix e9).kn),.agg [.sl false (((zs.getD ix e9).gr.na).map sV),.sl false (((zs.getD ix e9).gr.ru).map au),iN ((zs.getD ix e9).gr.wa)],iV ((zs.getD ix e9).tr),.own 2 ((((zs.getD ix e9).td).drop 1++[k9]).map ak) ga oa ca]:V)::(zs.drop (ix+1)).map aA) g o c,.ow 1 (se.map sV),.ow 3 (ls.map aN)]) [2,ix,5] r) (congrArg (V.own 2 · ga oa ca) (JQ (by omega)))).trans (dq (aR (aF (by omega)) (cD (by omega)))),(aP (f:=2) rfl).trans (aE (aF (by omega)) rfl),dq (aR (aF (by omega)) (cD (by omega))),LM (congrArg (V.own 8 · g o c) (kr (f:=aA) (x:=({ (zs.getD ix e9) with td:=(zs.getD ix e9).td.drop 1 }:l6)) (by omega))),rfl,rfl,by first | rfl | (exfalso;omega) | (simp only[Nat.zero_add]) | (simp;omega),rfl,rfl,⟨by rw[List.length_set];exact hi,hl,by have:=hy.ta _ (bK (d:=k9) hne);omega,hn,Ew hi,hy.w⟩,LM (congrArg (V.own 8 · g o c) (FA hi)),fun hG=>rfl,fun hG=>by(try simp only[nb]at hG);omega,⟨fun h=>by rw[h] <;> rfl,fun _=>rfl⟩,?_⟩
 refine⟨fun j7=>?_,fun j7=>?_⟩
 try simp only[nb]at j7
 refine⟨rfl,by omega,rfl,(aP (f:=2) rfl).trans (aE (aF (by omega)) rfl),?_⟩
 intro NR NJ NV
 refine⟨dq (aR (aF (by omega)) (cD (by omega))),trivial,(aP (f:=2) rfl).trans (aE (aF (by omega)) rfl),rfl,⟨rfl,rfl,(aP (f:=2) rfl).trans (aE (aF (by omega)) rfl),rfl,rfl,by simp[aG,V.n,V.ns],by(try simp only[List.length_append,List.length_map,List.length_cons,List.length_nil,List.length_drop]);omega⟩,?_⟩
 intro Km
 refine⟨dq (aR (aF (by omega)) (cD (by omega))),congrArg (V.own 2 · Km.1 Km.2.1 Km.2.2) (by simp),trivial,(aP (f:=2) rfl).trans (aE (aF (by omega)) rfl),dq (aR (aF (by omega)) (cD (by omega))),(aP (f:=2) rfl).trans (aE (aF (by omega)) rfl),dq (aR (aF (by omega)) (cD (by omega))),LM (congrArg (V.own 8 · g o c) (kr (f:=aA) (x:=({ (E2 w (zs.getD ix e9) a8) with td:=(zs.getD ix e9).td.drop 1++[(⟨((zs.getD ix e9).td.getD 0 k9).ad,((zs.getD ix e9).td.getD 0 k9).tr+1⟩:w3)] }:l6)) (by omega))),?_⟩
 refine⟨?_,rfl,by rw[JE j7]⟩
 unfold Q
 rfl
 try simp only[nb]at j7
 refine⟨rfl,rfl,⟨by have:=hy.ta _ (bK (d:=k9) hne);omega,(hy.ta _ (bK (d:=k9) hne)).2.1⟩,?_⟩
 intro g7
 refine⟨rfl,LM (congrArg (V.own 8 · g o c) (kr (f:=aA) (x:=(E2 w (zs.getD ix e9) a8)) (by omega))),?_⟩
 refine⟨fun j9=>?_,fun j9=>?_⟩
 try simp only[nb]at j9
 refine⟨?_,rfl,by rw[JM j7 (by simpa using j9)]⟩
 unfold Q
 rfl
 try simp only[nb]at j9
 refine⟨rfl,rfl,⟨by exact pR _,Ih hz,Ev hz⟩,?_⟩
 refine⟨⟨(0,zs.set ix (E2 w (zs.getD ix e9) a8),se),?_,rfl,by first | rfl | simp | (simp;omega),by first | rfl | simp | (simp;omega),rfl,rfl,by first | rfl | simp | (simp;omega),trivial⟩,?_⟩
 exact⟨by simp,rfl,rfl⟩
 rintro⟨i,zz,ss⟩ ⟨h1,h2,h3⟩
 have hll:=Cc (k:=(ab w ((zs.getD ix e9).td.getD 0 k9).ad ((zs.getD ix e9).td.getD 0 k9).tr).1) (b:=oA (az ((zs.getD ix e9).td.getD 0 k9).ad)) (t:=(ab w ((zs.getD ix e9).td.getD 0 k9).ad ((zs.getD ix e9).td.getD 0 k9).tr).2)
 have SI:=qk (((if (ab w ((zs.getD ix e9).td.getD 0 k9).ad ((zs.getD ix e9).td.getD 0 k9).tr).1=1 then bb (oA (az ((zs.getD ix e9).td.getD 0 k9).ad)) (ab w ((zs.getD ix e9).td.getD 0 k9).ad ((zs.getD ix e9).td.getD 0 k9).tr).2 else if (ab w ((zs.getD ix e9).td.getD 0 k9).ad ((zs.getD ix e9).td.getD 0 k9).tr).1=2 then [(ab w ((zs.getD ix e9).td.getD 0 k9).ad ((zs.getD ix e9).td.getD 0 k9).tr).2] else [])).take i) (Je (w:=w) (ls:=ls++[(⟨a8,((zs.getD ix e9).td.getD 0 k9).ad,(ab w ((zs.getD ix e9).td.getD 0 k9).ad ((zs.getD ix e9).td.getD 0 k9).tr).1⟩:m9)]) hi hy ht) hnn (fun s hs=>pU hw hz s (List.mem_of_mem_take hs))
 have hx:=np (((if (ab w ((zs.getD ix e9).td.getD 0 k9).ad ((zs.getD ix e9).td.getD 0 k9).tr).1=1 then bb (oA (az ((zs.getD ix e9).td.getD 0 k9).ad)) (ab w ((zs.getD ix e9).td.getD 0 k9).ad ((zs.getD ix e9).td.getD 0 k9).tr).2 else if (ab w ((zs.getD ix e9).td.getD 0 k9).ad ((zs.getD ix e9).td.getD 0 k9).tr).1=2 then [(ab w ((zs.getD ix e9).td.getD 0 k9).ad ((zs.getD ix e9).td.getD 0 k9).tr).2] else [])).take i) (⟨n,a8,zs.set ix (E2 w (zs.getD ix e9) a8),se,ls++[(⟨a8,((zs.getD ix e9).td.getD 0 k9).ad,(ab w ((zs.getD ix e9).td.getD 0 k9).ad ((zs.getD ix e9).td.getD 0 k9).tr).1⟩:m9)]⟩:m5)
 refine⟨fun l8=>?_,fun l8=>?_⟩
 try simp only[nb]at l8
 have Lb:=pU (b:=oA (az ((zs.getD ix e9).td.getD 0 k9).ad)) hw hz _ (oV (l:=(if (ab w ((zs.getD ix e9).td.getD 0 k9).ad ((zs.getD ix e9).td.getD 0 k9).tr).1=1 then bb (oA (az ((zs.getD ix e9).td.getD 0 k9).ad)) (ab w ((zs.getD ix e9).td.getD 0 k9).ad ((zs.getD ix e9).td.getD 0 k9).tr).2 else if (ab w ((zs.getD ix e9).td.getD 0 k9).ad ((zs.getD ix e9).td.getD 0 k9).tr).1=2 then [(ab w ((zs.getD ix e9).td.getD 0 k9).ad ((zs.getD ix e9).td.getD 0 k9).tr).2] else [])) (i:=i) (by omega))
 refine⟨⟨by omega,aj (d:=[]) (by omega)⟩,trivial,trivial,rfl,rfl,rfl,⟨by rw[h2];have:=SI.h;have:=SI.s;omega,by rw[h3];have:=SI.s;omega,by have:=Lb.1;omega,Lb.2.1,fun y hy=>by rw[h2]at hy;have q:=SI.ha y hy;have:=SI.s;exact⟨by have:=q.t;omega,q.r,q.rp⟩⟩,by omega,?_⟩
 refine⟨(i+1,bS n zz ss ((if (ab w ((zs.getD ix e9).td.getD 0 k9).ad ((zs.getD ix e9).td.getD 0 k9).tr).1=1 then bb (oA (az ((zs.getD ix e9).td.getD 0 k9).ad)) (ab w ((zs.getD ix e9).td.getD 0 k9).ad ((zs.getD ix e9).td.getD 0 k9).tr).2 else if (ab w ((zs.getD ix e9).td.getD 0 k9).ad ((zs.getD ix e9).td.getD 0 k9).tr).1=2 then [(ab w ((zs.getD ix e9).td.getD 0 k9).ad ((zs.getD ix e9).td.getD 0 k9).tr).2] else []).getD i []),dZ ss ((if (ab w ((zs.getD ix e9).td.getD 0 k9).ad ((zs.getD ix e9).td.getD 0 k9).tr).1=1 then bb (oA (az ((zs.getD ix e9).td.getD 0 k9).ad)) (ab w ((zs.getD ix e9).td.getD 0 k9).ad ((zs.getD ix e9).td.getD 0 k9).tr).2 else if (ab w ((zs.getD ix e9).td.getD 0 k9).ad ((zs.getD ix e9).td.getD 0 k9).tr).1=2 then [(ab w ((zs.getD ix e9).td.getD 0 k9).ad ((zs.getD ix e9).td.getD 0 k9).tr).2] else []).getD i [])),?_,?_,rfl,rfl,rfl,rfl,rfl,rfl,trivial⟩
 rw[foldl_succ (d:=[]) (by omega),h2,h3]
 have hq:=np (((if (ab w ((zs.getD ix e9).td.getD 0 k9).ad ((zs.getD ix e9).td.getD 0 k9).tr).1=1 then bb (oA (az ((zs.getD ix e9).td.getD 0 k9).ad)) (ab w ((zs.getD ix e9).td.getD 0 k9).ad ((zs.getD ix e9).td.getD 0 k9).tr).2 else if (ab w ((zs.getD ix e9).td.getD 0 k9).ad ((zs.getD ix e9).td.getD 0 k9).tr).1=2 then [(ab w ((zs.getD ix e9).td.getD 0 k9).ad ((zs.getD ix e9).td.getD 0 k9).tr).2] else [])).take i) (⟨n,a8,zs.set ix (E2 w (zs.getD ix e9) a8),se,ls++[(⟨a8,((zs.getD ix e9).td.getD 0 k9).ad,(ab w ((zs.getD ix e9).td.getD 0 k9).ad ((zs.getD ix e9).td.getD 0 k9).tr).1⟩:m9)]⟩:m5)
 exact⟨by omega,by show _=bS ((((if (ab w ((zs.getD ix e9).td.getD 0 k9).ad ((zs.getD ix e9).td.getD 0 k9).tr).1=1 then bb (oA (az ((zs.getD ix e9).td.getD 0 k9).ad)) (ab w ((zs.getD ix e9).td.getD 0 k9).ad ((zs.getD ix e9).td.getD 0 k9).tr).2 else if (ab w ((zs.getD ix e9).td.getD 0 k9).ad ((zs.getD ix e9).td.getD 0 k9).tr).1=2 then [(ab w ((zs.getD ix e9).td.getD 0 k9).ad ((zs.getD ix e9).td.getD 0 k9).tr).2] else [])).take i).foldl aV (⟨n,a8,zs.set ix (E2 w (zs.getD ix e9) a8),se,ls++[(⟨a8,((zs.getD ix e9).td.getD 0 k9).ad,(ab w ((zs.getD ix e9).td.getD 0 k9).ad ((zs.getD ix e9).td.getD 0 k9).tr).1⟩:m9)]⟩:m5)).na ((((if (ab w ((zs.getD ix e9).td.getD 0 k9).ad ((zs.getD ix e9).td.getD 0 k9).tr).1=1 then bb (oA (az ((zs.getD ix e9).td.getD 0 k9).ad)) (ab w ((zs.getD ix e9).td.getD 0 k9).ad ((zs.getD ix e9).td.getD 0 k9).tr).2 else if (ab w ((zs.getD ix e9).td.getD 0 k9).ad ((zs.getD ix e9).td.getD 0 k9).tr).1=2 then [(ab w ((zs.getD ix e9).td.getD 0 k9).ad ((zs.getD ix e9).td.getD 0 k9).tr).2] else [])).take i).foldl aV (⟨n,a8,zs.set ix (E2 w (zs.getD ix e9) a8),se,ls++[(⟨a8,((zs.getD ix e9).td.getD 0 k9).ad,(ab w ((zs.getD ix e9).td.getD 0 k9).ad ((zs.getD ix e9).td.getD 0 k9).tr).1⟩:m9)]⟩:m5)).hs ((((if (ab w ((zs.getD ix e9).td.getD 0 k9).ad ((zs.getD ix e9).td.getD 0 k9).tr).1=1 then bb (oA (az ((zs.getD ix e9).td.getD 0 k9).ad)) (ab w ((zs.getD ix e9).td.getD 0 k9).ad ((zs.getD ix e9).td.getD 0 k9).tr).2 else if (ab w ((zs.getD ix e9).td.getD 0 k9).ad ((zs.getD ix e9).td.getD 0 k9).tr).1=2 then [(ab w ((zs.getD ix e9).td.getD 0 k9).ad ((zs.getD ix e9).td.getD 0 k9).tr).2] else [])).take i).foldl aV (⟨n,a8,zs.set ix (E2 w (zs.getD ix e9) a8),se,ls++[(⟨a8,((zs.getD ix e9).td.getD 0 k9).ad,(ab w ((zs.getD ix e9).td.getD 0 k9).ad ((zs.getD ix e9).td.getD 0 k9).tr).1⟩:m9)]⟩:m5)).se _;rw[hq.1],rfl⟩
 first | (solve | simp) | omega | (simp;omega)
 try simp only[nb]at l8
 refine⟨?_,rfl,by rw[JN j7 (by simpa using j9),h2,h3,List.take_of_length_le (by omega),(np _ _).2.2]⟩
 unfold Q
 rfl)
end Go.Proofs.YtlclejemchbjiaaGreatDoor
namespace Go.Proofs.YtlclejemchbjiaaGreatDoor
open Go.RowKit Go.Extern.Stop Go.Stop Go.Extern
theorem Eh(v:Value)(w:World):(Extern.ReflectliteType.typeOf #[.iface 234 v]).run Tryz.prog w=.ok (.iface 167 (.agg #[.pointer (some ⟨4,234,none⟩)])) w:=by kernel_rfl
theorem wb(w:World):((Extern.ReflectliteType.method fun t=>do Rtype.noPackHeld "Comparable" t;(fun a=>Value.bool a.comparable) <$> typeInfo t) #[.agg #[.pointer (some ⟨4,234,none⟩)]]).run Tryz.prog w=.ok (.bool true) w:=by kernel_rfl
theorem Ee(v:Value)(w:World):(Go.method 368 167 v "Comparable").run Tryz.prog w=.ok (209,v) w:=by kernel_rfl
theorem Iq:(Tryz.prog.info? 234).map (·.comparable)=some true:=by kernel_rfl
theorem Ic:(Tryz.prog.info? 257).map (·.size)=some 1:=by kernel_rfl
theorem zS(a:Addr)(w:World):
 Calls Tryz.prog 74 #[.iface 234 (.pointer (some a)),.iface 234 (.pointer (some a))] w fun e w'=>e=.returned (.bool true)/\w'=w:=by
 obtain⟨i,hi,hcmp⟩:=Option.map_eq_some_iff.1 Iq
 obtain⟨j,hj,hjs⟩:=Option.map_eq_some_iff.1 Ic
 have h8:= @run_callFunc_extern Tryz.prog 103 _ Extern.ReflectliteType.typeOf Tryz.func103 (by kernel_rfl) (by kernel_rfl) (by kernel_rfl) (by kernel_rfl)
 have h32:= @run_callFunc_extern Tryz.prog 209 _ (Extern.ReflectliteType.method fun t=>do Rtype.noPackHeld "Comparable" t;pure (.bool (<- typeInfo t).comparable)) Tryz.func209 (by kernel_rfl) (by kernel_rfl) (by kernel_rfl) (by kernel_rfl)
 have tT:=Eh
 have cT:=wb
 have mR:=Ee
 have heq:=run_eql_iface_ptr_same (P:=Tryz.prog) w a Tryz.underlying113 Tryz.underlying234 hi hcmp hj
 go_enter Tryz.func74,Tryz.ntmps74
 go_wp2
 refine wp_loop_rounds 1 ?_
 rw[rounds_succ]
 go_wp2
 go_ret
 exact⟨rfl,rfl⟩
theorem Bb(b:Addr)(w:World):
 Calls Tryz.prog 74 #[.nilIface,.iface 234 (.pointer (some b))] w fun e w'=>e=.returned (.bool false)/\w'=w:=by
 have hn:=run_eql_iface_nil_left (P:=Tryz.prog) w 234 (.pointer (some b)) Tryz.underlying113
 go_enter Tryz.func74,Tryz.ntmps74
 go_wp2
 go_ret
 exact⟨rfl,rfl⟩
open Go.Abs
theorem EE(a:Addr):PC Tryz.prog 74 [.lit (.iface 234 (.pointer (some a))),.lit (.iface 234 (.pointer (some a)))] (fun r=>r=bV true):=by
 refine⟨dv Tryz.func74 (by kernel_rfl) (by kernel_rfl),fun w Pb cargs hP hargs=>?_⟩
 obtain⟨x,xs,F1,F2,rfl,hF,h1,h2⟩:=hargs
 obtain⟨y,ys,F3,F4,rfl,hF2,h3,h4⟩:=h2
 obtain⟨rfl,_⟩:=h4
 have e1:x=.iface 234 (.pointer (some a)):=by have:=h1.2.1;simpa using this
 have e2:y=.iface 234 (.pointer (some a)):=by have:=h3.2.1;simpa using this
 subst e1;subst e2
 refine(zS a w).mono ?_
 rintro e w' ⟨rfl,rfl⟩
 exact⟨_,_,[],Pb,rfl,rfl,cZ rfl,List.nodup_nil,by simp,fun _ h=>h,fun _ h=>.inl h,Below.refl _ _⟩
theorem CR(a:Addr):PF Tryz.prog 74 [.lit (.iface 234 (.pointer (some a))),.lit (.iface 234 (.pointer (some a)))] [] (fun r h=>r=bV true/\h=[]):=gi rfl rfl (EE a)
theorem BG(a:Addr):PC Tryz.prog 74 [.lit .nilIface,.lit (.iface 234 (.pointer (some a)))] (fun r=>r=bV false):=by
 refine⟨dv Tryz.func74 (by kernel_rfl) (by kernel_rfl),fun w Pb cargs hP hargs=>?_⟩
 obtain⟨x,xs,F1,F2,rfl,hF,h1,h2⟩:=hargs
 obtain⟨y,ys,F3,F4,rfl,hF2,h3,h4⟩:=h2
 obtain⟨rfl,_⟩:=h4
 have e1:x=.nilIface:=by have:=h1.2.1;simpa using this
 have e2:y=.iface 234 (.pointer (some a)):=by have:=h3.2.1;simpa using this
 subst e1;subst e2
 refine(Bb a w).mono ?_
 rintro e w' ⟨rfl,rfl⟩
 exact⟨_,_,[],Pb,rfl,rfl,cZ rfl,List.nodup_nil,by simp,fun _ h=>h,fun _ h=>.inl h,Below.refl _ _⟩
theorem Bl(a:Addr):PF Tryz.prog 74 [.lit .nilIface,.lit (.iface 234 (.pointer (some a)))] [] (fun r h=>r=bV false/\h=[]):=gi rfl rfl (BG a)
end Go.Proofs.YtlclejemchbjiaaGreatDoor
namespace Go.Abs
open Go Go.RowKit
section
variable {P:Program}
def baC(v:V):Cu P where
 X:=Unit
 pre N o A:=match o.op,o.dst with
  | .build T b7,some d=>match Nat.blt d N,hY ((b7.toList.map (·.2)).map A.ev) with
    | true,some l=> ∃ y,v.val? =some y/\∀ w,(Instr.build T ((b7.toList.map (·.1)).zip l).toArray).run P w=.ok y w
    | _,_=>False
  | _,_=>False
 post _ o A:=A.put o.dst v
 ok:=by
  rintro N ⟨dst,op,ty,pos,after,C4⟩ A K-hp hK
  replace hK:=hK ()
  simp only at hp hK
  split at hp
  rename_i T b7 d
  split at hp
  rename_i l e1 e2
  obtain⟨y,hv,hr⟩:=hp
  refine fK rfl (bn e1) hK fun Pb Kb a w F hs=>⟨y,?_,sR hv⟩
  have h1:=ln hs _ e2
  have key:∀ q:List (Nat×Operand),q.map (fun p=>(p.1,a.eval p.2))=(q.map (·.1)).zip ((q.map (·.2)).map a.eval):=fun q=>by
   induction q with
   | nil=>rfl
   | cons p q ih=>simp only[List.map_cons,List.zip_cons_cons,ih]
  have h2:(b7.map fun p=>(p.1,a.eval p.2))=((b7.toList.map (·.1)).zip l).toArray:=by
   rw[<- h1,<- key];apply Array.ext';simp
  have h3:=hr w
  rw[<- h2]at h3
  simp only[execOp,Sem.run_bind,h3,Result.andThen_ok,Sem.run_pure]
  exact hp.elim
  exact hp.elim
end
end Go.Abs
namespace Go.Abs
open Go Go.RowKit
section
variable {P:Program}
def bmC:Cu P where
 X:=Nat
 pre N o A:=match o.op,o.dst with
  | .box _ x,some d=>Nat.blt d N=true/\(A.ev x).isVal=true
  | _,_=>False
 post g o A:=match o.op,o.dst with
  | .box _ x,some d=>⟨((A.drop x).put (some d) (.ptr (.key d) [] g 0)).t,(d,(g,A.ev x))::(A.drop x).h⟩
  | _,_=>A
 ok:=by
  rintro N ⟨dst,op,ty,pos,after,C4⟩ A K-hp hK
  simp only at hp hK
  split at hp
  rename_i T x d
  obtain⟨e1,hv⟩:=hp
  intro Pb Kb a w F Q hs
  obtain⟨Fx,F',hr,x7,hnd,u0,hfr,_⟩:=hs.take x
  have hR:=xh hr hv
  have h1:=x7.mf (.cells (a.eval x).cells T)
  have h2:=h1.put (d:=d) (v:=.ptr (.key d) [] w.heap.size 0) (x:=.pointer (some ⟨w.heap.size,0,none⟩)) (F':=[]) (bn e1) ⟨rfl,rfl⟩ (by simp) (by simp) (by simp)
  have hA:At (w.alloc (.cells (a.eval x).cells T)) Pb (A.ev x) w.heap.size 0 Fx:=
   ⟨(a.eval x).cells.toList,(a.eval x).cells,⟨T,(0,0),fv w _,fun i _ h=>by omega⟩,fm (A.ev x) hR (fun g hg=>alloc_old w _ g (hs.bound g (hs.sub g hg))) (fun g hg=>alloc_old w _ g (hfr g hg).2) (fun _ h=>h) (fun g hg c=>(hfr g hg).1 (hs.sub g c)),fun j u hu=>by simpa using hu⟩
  have h3:=h2.zk (k:=d) hA (List.nodup_cons.2 ⟨fun c=>by have:=(hfr _ c).2;omega,hnd⟩) (fun r y hy c=>by
   simp only[bL]at c
   rcases List.mem_cons.1 hy with rfl | hy
   split at c
   simp at c
   have:=(x7.free r _ c).2;omega
   split at c
   simp at c
   exact u0 r y hy c) (fun y hy=>by
   rcases List.mem_cons.1 hy with rfl | hy
   exact⟨fun c=>by have:=hs.bound _ c;omega,by rw[cY];omega⟩
   exact⟨(hfr y hy).1,by rw[cY];have:=(hfr y hy).2;omega⟩)
  have x9:(execOp a.eval ⟨some d,.box T x,ty,pos,after,C4⟩).run P w=.ok (.value (.pointer (some ⟨w.heap.size,0,none⟩))) (w.alloc (.cells (a.eval x).cells T)):=by
   simp[execOp,Instr.box,newVar,ij]
  unfold Oper.wp
  rw[x9,Oper.upon_value]
  exact⟨_,Pb,Kb,_,hK w.heap.size,h3,fun _ h=>h,fun _ h=>h,fun _ h=>.inl h,w8.alloc hs.bound _⟩
  exact hp.elim
end
end Go.Abs
namespace Go.Pd
open Go.Abs
def LF(t:m5):Bool:=(iG t).isSome&&decide (t.lk.length<400)
def D'(w:List Pg)(t:m5):m5:=if (t.hs.getD (C8 t) e9).kn=true then Lw w { t with a8:=J2 t } (C8 t) else Sv w { t with a8:=J2 t } (C8 t)
structure LU (t:m5):Prop where
 t0:TS t
 n:t.na.length<=1000
 l:t.lk.length<=400
 w:0<=t.a8/\t.a8<=5000
theorem xc(w:List Pg)(t:m5)(i:Nat):(Lw w t i).na=t.na/\(Lw w t i).a8=t.a8:=by
 unfold Lw
 simp only
 split
 exact⟨rfl,rfl⟩
 split
 have:=np (Cr ((t.hs.getD i e9).td.getD 0 k9).ad (ab w ((t.hs.getD i e9).td.getD 0 k9).ad ((t.hs.getD i e9).td.getD 0 k9).tr).1 (ab w ((t.hs.getD i e9).td.getD 0 k9).ad ((t.hs.getD i e9).td.getD 0 k9).tr).2) { t with hs:=t.hs.set i (E2 w (t.hs.getD i e9) t.a8),lk:=t.lk++[⟨t.a8,((t.hs.getD i e9).td.getD 0 k9).ad,(ab w ((t.hs.getD i e9).td.getD 0 k9).ad ((t.hs.getD i e9).td.getD 0 k9).tr).1⟩] }
 exact⟨this.1,this.2.1⟩
 exact⟨rfl,rfl⟩
theorem IB(t:m5):∀ i,i<=t.hs.length->(I9 t i=(-1,0))\/∃ j:Nat,(I9 t i).1=(j:Int)/\j<i/\(t.hs.getD j e9).td≠[]/\t.a8<=(I9 t i).2
 | 0,_=>.inl rfl
 | i+1,hi=>by
   rw[oj (by omega)]
   unfold nF
   split
   rename_i c
   exact .inr ⟨i,rfl,by omega,c.1,by simp only;omega⟩
   rcases IB t i (by omega) with h | ⟨j,h1,h2,h3,h4⟩
   exact .inl h
   exact .inr ⟨j,h1,by omega,h3,h4⟩
theorem AN{t:m5}(h:LF t=true):C8 t<t.hs.length/\(t.hs.getD (C8 t) e9).td≠[]/\t.a8<=J2 t/\J2 t<=5000:=by
 unfold LF at h
 rw[Bool.and_eq_true]at h
 have h1:=h.1
 unfold C8 J2
 unfold iG at h1 ⊢
 split at h1
 cases h1
 rename_i c
 rw[if_neg c]
 rcases IB t _ (Nat.le_refl _) with e | ⟨j,e1,e2,e3,e4⟩
 rw[e]at c;exact absurd (.inl (by decide)) c
 simp only[Option.map_some,Option.getD_some,e1,Int.toNat_natCast]
 exact⟨e2,e3,e4,by omega⟩
end Go.Pd
namespace Go.Proofs.YtlclejemchbjiaaGreatDoor
open Go Go.Abs Go.RowKit Go.Pd
set_option maxRecDepth 20000
theorem Jq{t:m5}(h:(iG t).isSome=false\/(400:Int)<=(t.lk.length:Int)): ¬ LF t=true:=fun c=>by
 unfold LF at c
 rw[Bool.and_eq_true,decide_eq_true_eq]at c
 rcases h with h | h
 rw[h]at c;exact absurd c.1 (by decide)
 omega
theorem IW{t:m5}(h:(iG t).isSome=true/\(t.lk.length:Int)<400): ¬ LF t=false:=fun c=>by
 unfold LF at c
 rw[h.1,decide_eq_true (by omega)]at c;cases c
theorem Jp{t:m5}(h:LU t){i:Nat}(hi:i<t.hs.length):HS 60 (t.hs.getD i e9):=(h.t0.ha _ (bK (d:=e9) hi)).mono h.t0.s
theorem JS{w:List Pg}{n:BL}{a8:Int}{zs:List l6}{se:List BL}{ls:List m9}(h:(zs.getD (C8 ⟨n,a8,zs,se,ls⟩) e9).kn=true):D' w ⟨n,a8,zs,se,ls⟩=Lw w ⟨n,J2 ⟨n,a8,zs,se,ls⟩,zs,se,ls⟩ (C8 ⟨n,a8,zs,se,ls⟩):=if_pos h
theorem JW{w:List Pg}{n:BL}{a8:Int}{zs:List l6}{se:List BL}{ls:List m9}(h:(zs.getD (C8 ⟨n,a8,zs,se,ls⟩) e9).kn=false):D' w ⟨n,a8,zs,se,ls⟩=Sv w ⟨n,J2 ⟨n,a8,zs,se,ls⟩,zs,se,ls⟩ (C8 ⟨n,a8,zs,se,ls⟩):=if_neg (by rw[h];decide)
def yW(ea:Addr):r5 Tryz.prog:={ f:=74,args:=[.lit (.iface 234 (.pointer (some ea))),.lit (.iface 234 (.pointer (some ea)))],H:=[],pre:=True,res:=bV true,H':=[],ok:=fun _=>CR ea }
def wy(ea:Addr):r5 Tryz.prog:={ f:=74,args:=[.lit .nilIface,.lit (.iface 234 (.pointer (some ea)))],H:=[],pre:=True,res:=bV false,H':=[],ok:=fun _=>Bl ea }
def BO(n:BL)(a8:Int)(zs:List l6)(se:List BL)(ls:List m9)(gt:Nat)(gw:Nat)(ea:Addr)(w:List Pg):r5 Tryz.prog:=.mk 75 [.ptr (.key 1001) [] gw 0] [(1001,(gw,.agg [.mp (w.map E5),.ptr (.key 1000) [] gt 0])),(1000,(gt,bj n a8 zs se ls)),(9000,(0,.lit (.iface 234 (.pointer (some ea)))))] ((aq w=true)/\(∀ i,n0 (w.getD i l4))/\(LU (⟨n,a8,zs,se,ls⟩:m5))/\(LF (⟨n,a8,zs,se,ls⟩:m5)=true)) (.lit .nilIface) [(1001,(gw,.agg [.mp (w.map E5),.ptr (.key 1000) [] gt 0])),(1000,(gt,bj n ((D' w (⟨n,a8,zs,se,ls⟩:m5)).a8) ((D' w (⟨n,a8,zs,se,ls⟩:m5)).hs) ((D' w (⟨n,a8,zs,se,ls⟩:m5)).se) ((D' w (⟨n,a8,zs,se,ls⟩:m5)).lk))),(9000,(0,.lit (.iface 234 (.pointer (some ea)))))] (by
 rintro⟨hw,hz,ht,hg⟩
 have SD:=AN hg
 have SB:=Jp ht SD.1
 simp only at SD SB
 refine aw (N:=52) (rs:=[.tmp 2]) Tryz.func75
  (.q 1<|.r 5 [.b9]<|.q 1<|.c (tt n a8 zs se ls gt) [(1000,1000)]<|.q 7<|.oR (.key 1000) [4] (fun gl Oa cl=>.r 10 [.b9]<|.br (.nil) (.q 4<|.st none<|.oR (.key 1000) [2] (fun g o c=>.r 7 [.b9]<|.cu (baC (.agg [.lit (.func (.func 106) #[] #[]),.lit (.func (.func 107) #[] #[])])) (fun _=>.al Jo (fun g8=>.st none<|.q 1<|.r 4 [bV ((zs.getD (C8 (⟨n,a8,zs,se,ls⟩:m5)) e9).kn)]<|.br (.q 1<|.r 5 [.b9]<|.c (ya n (J2 (⟨n,a8,zs,se,ls⟩:m5)) zs se ls gt g o c gw (C8 (⟨n,a8,zs,se,ls⟩:m5)) w) [(1001,1001),(1000,1000)]<|.q 1<|.nil) (.r 5 [.b9]<|.c (wX n (J2 (⟨n,a8,zs,se,ls⟩:m5)) zs se ls gt g o c gw (C8 (⟨n,a8,zs,se,ls⟩:m5)) w) [(1001,1001),(1000,1000)]<|.q 1<|.nil)))))))
  ((fun v1:Bool=>(True/\Z gw 1/\(tt n a8 zs se ls gt).sm/\Er gt (bj n a8 zs se ls)/\((zs.length<=1000))/\∀ gl Oa cl:Nat,Gd (v1==false) True/\Gd (v1==false) (Z gt 4)/\Pk v1 true (v1==false)/\Br (v1||(y0 (((ls.map aN).length:Nat):Int) 400)) (False) (True/\Z gt 1/\∀ g o c:Nat,(fun v2:List V=>(fun v3:V=>True/\Z gt 2/\In (((C8 (⟨n,a8,zs,se,ls⟩:m5)):Nat):Int) ((zs.map aA).length)/\(∃ y,(.agg [.lit (.func (.func 106) #[] #[]),.lit (.func (.func 107) #[] #[])]:V).val? =some y/\∀ w,(Instr.build 154 ([(0,.func (.func 106) #[] #[]),(1,.func (.func 107) #[] #[])]:List (Nat×Value)).toArray).run Tryz.prog w=.ok y w)/\∀ _:Unit,(fun v4:V=>(fun v5:V=> ∀ g8:Nat,Z g8 0/\True/\(V.at gt 0 (.agg [sV n,iV (J2 (⟨n,a8,zs,se,ls⟩:m5)),.own 8 (zs.map aA) g o c,.ow 1 (se.map sV),.own 3 (ls.map aN) gl Oa cl]) [2,0+(C8 (⟨n,a8,zs,se,ls⟩:m5)),2]=some (g,(o+(0+(C8 (⟨n,a8,zs,se,ls⟩:m5)))*8+2),bV ((zs.getD (C8 (⟨n,a8,zs,se,ls⟩:m5)) e9).kn)))/\Br ((zs.getD (C8 (⟨n,a8,zs,se,ls⟩:m5)) e9).kn) (((0:Int)<=1/\(1:Int)<2)/\Z g8 1/\(v2=[.ptr (.key 1001) [] gw 0,.ptr (.key 1000) [2,(C8 (⟨n,a8,zs,se,ls⟩:m5))] g (o+(C8 (⟨n,a8,zs,se,ls⟩:m5))*8)])/\Er gw v5/\Er gt v3/\(((C8 (⟨n,a8,zs,se,ls⟩:m5))<zs.length)/\(ls.length<=1000)/\(0<=(J2 (⟨n,a8,zs,se,ls⟩:m5))/\(J2 (⟨n,a8,zs,se,ls⟩:m5))<=100000)/\(HS 60 (zs.getD (C8 (⟨n,a8,zs,se,ls⟩:m5)) e9))/\(aq w=true)/\(∀ i,n0 (w.getD i l4))/\(0<(zs.getD (C8 (⟨n,a8,zs,se,ls⟩:m5)) e9).td.length)/\(TS ⟨n,(J2 (⟨n,a8,zs,se,ls⟩:m5)),zs,se,ls⟩)/\(n.length<=1000))/\Q (.lit .nilIface) (.lit .nilIface)/\Er gw v5/\Qr gt (bj n (J2 (⟨n,a8,zs,se,ls⟩:m5)) ((Lw w (⟨n,(J2 (⟨n,a8,zs,se,ls⟩:m5)),zs,se,ls⟩:m5) (C8 (⟨n,a8,zs,se,ls⟩:m5))).hs) ((Lw w (⟨n,(J2 (⟨n,a8,zs,se,ls⟩:m5)),zs,se,ls⟩:m5) (C8 (⟨n,a8,zs,se,ls⟩:m5))).se) ((Lw w (⟨n,(J2 (⟨n,a8,zs,se,ls⟩:m5)),zs,se,ls⟩:m5) (C8 (⟨n,a8,zs,se,ls⟩:m5))).lk)) gt v4/\Er 0 (.lit (.iface 234 (.pointer (some ea))))) (((0:Int)<=0/\(0:Int)<2)/\Z g8 0/\(v2=[.ptr (.key 1001) [] gw 0,.ptr (.key 1000) [2,(C8 (⟨n,a8,zs,se,ls⟩:m5))] g (o+(C8 (⟨n,a8,zs,se,ls⟩:m5))*8)])/\Er gw v5/\Er gt v3/\(((C8 (⟨n,a8,zs,se,ls⟩:m5))<zs.length)/\(ls.length<=1000)/\(0<=(J2 (⟨n,a8,zs,se,ls⟩:m5))/\(J2 (⟨n,a8,zs,se,ls⟩:m5))<=100000)/\(HS 60 (zs.getD (C8 (⟨n,a8,zs,se,ls⟩:m5)) e9))/\(∀ i,n0 (w.getD i l4)))/\Q (.lit .nilIface) (.lit .nilIface)/\Er gw v5/\Qr gt (bj n (J2 (⟨n,a8,zs,se,ls⟩:m5)) (zs.set (C8 (⟨n,a8,zs,se,ls⟩:m5)) (Oc w n (zs.getD (C8 (⟨n,a8,zs,se,ls⟩:m5)) e9) (J2 (⟨n,a8,zs,se,ls⟩:m5)))) se (ls++[(⟨(J2 (⟨n,a8,zs,se,ls⟩:m5)),ae (zs.getD (C8 (⟨n,a8,zs,se,ls⟩:m5)) e9).na,(ab w (ae (zs.getD (C8 (⟨n,a8,zs,se,ls⟩:m5)) e9).na) (zs.getD (C8 (⟨n,a8,zs,se,ls⟩:m5)) e9).tr).1⟩:m9)])) gt v4/\Er 0 (.lit (.iface 234 (.pointer (some ea)))))) (.agg [.mp (w.map E5),.ptr (.key 1000) [] gt 0])) (bj n ((D' w (⟨n,a8,zs,se,ls⟩:m5)).a8) ((D' w (⟨n,a8,zs,se,ls⟩:m5)).hs) ((D' w (⟨n,a8,zs,se,ls⟩:m5)).se) ((D' w (⟨n,a8,zs,se,ls⟩:m5)).lk))) (bm n (J2 (⟨n,a8,zs,se,ls⟩:m5)) zs g o c se ls)) ([.ptr (.key 1001) [] gw 0,.ptr (.key 1000) [2,(C8 (⟨n,a8,zs,se,ls⟩:m5))] g (o+(0+(C8 (⟨n,a8,zs,se,ls⟩:m5)))*8)]:List V)))) (!((iG (⟨n,a8,zs,se,ls⟩:m5)).isSome))) ?_
 refine⟨trivial,rfl,rfl,rfl,by have:=ht.t0.h;have:=ht.t0.s;simp only at *;omega,?_⟩
 intro gl Oa cl
 refine⟨fun hG=>trivial,fun hG=>rfl,⟨fun _=>rfl,fun h=>by rw[h] <;> rfl⟩,?_⟩
 refine⟨fun j7=>?_,fun j7=>?_⟩
 · try simp only[nb]at j7
   all_goals exact absurd hg (Jq j7)
 try simp only[nb]at j7
 refine⟨trivial,rfl,?_⟩
 intro g o c
 refine⟨trivial,rfl,by(try simp only[List.length_map]at *);omega,⟨_,rfl,fun _=>by kernel_rfl⟩,?_⟩
 intro _
 intro g8
 refine⟨rfl,trivial,(aP (f:=2) rfl).trans (aE (by rw[Nat.zero_add];exact aj (d:=e9) (by omega)) rfl),?_⟩
 refine⟨fun j9=>?_,fun j9=>?_⟩
 try simp only[nb]at j9
 refine⟨by omega,rfl,by first | rfl | (exfalso;omega) | (simp only[Nat.zero_add]) | (simp;omega),rfl,rfl,⟨SD.1,by have:=ht.l;simp only at *;omega,by have:=ht.w;simp only at *;omega,SB,hw,hz,List.length_pos_iff.2 SD.2.1,⟨ht.t0.s,ht.t0.h,ht.t0.sa,ht.t0.ha⟩,ht.n⟩,?_⟩
 refine⟨?_,rfl,by rw[JS j9,(xc w _ _).2],rfl⟩
 unfold Q
 rfl
 try simp only[nb]at j9
 refine⟨by omega,rfl,by first | rfl | (exfalso;omega) | (simp only[Nat.zero_add]) | (simp;omega),rfl,rfl,⟨SD.1,by have:=ht.l;simp only at *;omega,by have:=ht.w;simp only at *;omega,SB,hz⟩,?_⟩
 refine⟨?_,rfl,by rw[JW j9];rfl,rfl⟩
 unfold Q
 rfl)
def za(n:BL)(a8:Int)(zs:List l6)(se:List BL)(ls:List m9)(gt:Nat)(gw:Nat)(ea:Addr)(w:List Pg):r5 Tryz.prog:=.mk 75 [.ptr (.key 1001) [] gw 0] [(1001,(gw,.agg [.mp (w.map E5),.ptr (.key 1000) [] gt 0])),(1000,(gt,bj n a8 zs se ls)),(9000,(0,.lit (.iface 234 (.pointer (some ea)))))] ((aq w=true)/\(∀ i,n0 (w.getD i l4))/\(LU (⟨n,a8,zs,se,ls⟩:m5))/\(LF (⟨n,a8,zs,se,ls⟩:m5)=false)) (.lit (.iface 234 (.pointer (some ea)))) [(1001,(gw,.agg [.mp (w.map E5),.ptr (.key 1000) [] gt 0])),(1000,(gt,bj n a8 zs se ls)),(9000,(0,.lit (.iface 234 (.pointer (some ea)))))] (by
 rintro⟨hw,hz,ht,hg⟩
 refine aw (N:=52) (rs:=[.tmp 2]) Tryz.func75
  (.q 1<|.r 5 [.b9]<|.q 1<|.c (tt n a8 zs se ls gt) [(1000,1000)]<|.q 7<|.oR (.key 1000) [4] (fun gl Oa cl=>.r 10 [.b9]<|.br (.r 2 [.b9]<|.nil) (.nil)))
  ((fun v1:Bool=>(fun v2:V=>(True/\Z gw 1/\(tt n a8 zs se ls gt).sm/\Er gt (bj n a8 zs se ls)/\((zs.length<=1000))/\∀ gl Oa cl:Nat,Gd (v1==false) True/\Gd (v1==false) (Z gt 4)/\Pk v1 true (v1==false)/\Br (v1||(y0 (((ls.map aN).length:Nat):Int) 400)) (Z 0 0/\Q v2 v2/\Er gw (.agg [.mp (w.map E5),.ptr (.key 1000) [] gt 0])/\Er gt (bj n a8 zs se ls)/\Er 0 v2) (False))) (.lit (.iface 234 (.pointer (some ea))))) (!((iG (⟨n,a8,zs,se,ls⟩:m5)).isSome))) ?_
 refine⟨trivial,rfl,rfl,rfl,by have:=ht.t0.h;have:=ht.t0.s;simp only at *;omega,?_⟩
 intro gl Oa cl
 refine⟨fun hG=>trivial,fun hG=>rfl,⟨fun _=>rfl,fun h=>by rw[h] <;> rfl⟩,?_⟩
 refine⟨fun j7=>?_,fun j7=>?_⟩
 try simp only[nb]at j7
 refine⟨rfl,?_⟩
 refine⟨?_,rfl,rfl,rfl⟩
 unfold Q
 rfl
 · try simp only[nb]at j7
   all_goals exact absurd hg (IW j7))
end Go.Proofs.YtlclejemchbjiaaGreatDoor
namespace Go.Pd
open Go.Abs
def F9(w:List Pg):Nat->m5->m5
 | 0,t=>t
 | n+1,t=>if LF t=true then F9 w n (D' w t) else t
def Le(w:List Pg):Nat->m5->Nat
 | 0,_=>0
 | n+1,t=>if LF t=true then Le w n (D' w t)+1 else 0
end Go.Pd
namespace Go.Proofs.YtlclejemchbjiaaGreatDoor
open Go Go.Abs Go.RowKit Go.Pd
set_option maxRecDepth 20000
theorem xB{w:List Pg}{t:m5}(hw:aq w=true)(hz:∀ i,n0 (w.getD i l4))(h:LU t)(hg:LF t=true):LU (D' w t):=by
 have hx:=AN hg
 have SB:=h.t0.ha _ (bK (d:=e9) hx.1)
 have hl:t.lk.length<400:=by
  unfold LF at hg
  rw[Bool.and_eq_true,decide_eq_true_eq]at hg
  exact hg.2
 have TC:=h.t0
 have LK:∀ y:l6,HS t.se.length y->∀ ls,TS ⟨t.na,J2 t,t.hs.set (C8 t) y,t.se,ls⟩:=fun y hy ls=>by
  refine⟨TC.s,by rw[List.length_set];exact TC.h,TC.sa,fun z hz=>?_⟩
  rcases qy hz with e | hz
  rw[e];exact hy
  exact TC.ha z hz
 obtain⟨q1,q2,q3,q4,q5,q6,q7⟩:=SB
 unfold D'
 split
 ·
  have I':=List.length_pos_iff.2 hx.2.1
  have hit:=q6 _ (bK (d:=k9) I')
  have hF:HS t.se.length (E2 w (t.hs.getD (C8 t) e9) (J2 t)):=by
   refine⟨q1,q2,q3,q4,?_,fun x hx=>q6 x (List.mem_of_mem_drop hx),q7⟩
   show ((t.hs.getD (C8 t) e9).td.drop 1).length+60<=_
   rw[List.length_drop];omega
  have e:=xc w { t with a8:=J2 t } (C8 t)
  refine⟨?_,by rw[e.1];exact h.n,?_,by rw[e.2];have:=h.w;exact⟨by simp only;omega,hx.2.2.2⟩⟩
  unfold Lw
  simp only
  split
  rename_i hc
  refine LK { E2 w (t.hs.getD (C8 t) e9) (J2 t) with td:=(t.hs.getD (C8 t) e9).td.drop 1++[⟨((t.hs.getD (C8 t) e9).td.getD 0 k9).ad,((t.hs.getD (C8 t) e9).td.getD 0 k9).tr+1⟩] } ⟨q1,q2,q3,q4,?_,fun x hx=>?_,q7⟩ _
  show (_++[_]).length+60<=_
  rw[List.length_append,List.length_drop,List.length_singleton];omega
  rcases List.mem_append.1 hx with hx | hx
  exact q6 x (List.mem_of_mem_drop hx)
  rw[List.mem_singleton.1 hx];exact⟨hit.1,hit.2.1,by simp only;omega,by simp only;omega⟩
  split
  rename_i ha
  have ei:az ((t.hs.getD (C8 t) e9).td.getD 0 k9).ad=ai ((t.hs.getD (C8 t) e9).td.getD 0 k9).ad:=if_pos ha
  exact qk _ (LK _ hF _) h.n (fun s hs=>pU (b:=oA (ai ((t.hs.getD (C8 t) e9).td.getD 0 k9).ad)) hw hz s hs)
  exact LK _ hF _
  unfold Lw
  simp only
  split
  simp;omega
  split
  rw[(np _ _).2.2];simp;omega
  simp;omega
 refine⟨LK _ ?_ _,h.n,by simp[Sv];omega,by have:=h.w;exact⟨by show 0<=J2 t;omega,hx.2.2.2⟩⟩
 show HS t.se.length (Oc w t.na (t.hs.getD (C8 t) e9) (J2 t))
 unfold Oc
 split
 rename_i hc
 exact⟨q1,q2,q3,q4,q5,q6,⟨by simp only;omega,by simp only;omega⟩⟩
 have s1:=tH (ab w (ae (t.hs.getD (C8 t) e9).na) 2).1 (ab w (ae (t.hs.getD (C8 t) e9).na) 2).2 t.na
 have s2:=yG (ab w (ae (t.hs.getD (C8 t) e9).na) 2).1 (ab w (ae (t.hs.getD (C8 t) e9).na) 2).2 t.na
 refine⟨q1,Nat.le_trans s1.1 (by omega),fun i=>xm (p:=fun r:s8=>r.path.length<=1000) (fun r hr=>by have:=s1.2 r hr;omega) (by simp) i,Nat.le_trans s2 (by omega),?_,fun x hx=>q6 x (List.mem_filter.1 hx).1,q7⟩
 show ((t.hs.getD (C8 t) e9).td.filter _).length+60<=_
 have:=List.length_filter_le (LO (cM w t.na (t.hs.getD (C8 t) e9).na).ru) (t.hs.getD (C8 t) e9).td
 omega
theorem BU(w:List Pg)(t:m5):(D' w t).na=t.na:=by
 unfold D'
 split
 exact(xc w _ _).1
 rfl
theorem Gx{w:List Pg} {n:BL} {no:Int} {zz:List l6} {ss:List BL} {ll:List m9} {m:Int} {i:Nat} {t0:m5} (hw:aq w=true) (hz:∀ i,n0 (w.getD i l4)) (hg:LF ⟨n,no,zz,ss,ll⟩=true) (hi:(i:Int)<m) (h2:LU ⟨n,no,zz,ss,ll⟩)
 (h3:F9 w m.toNat t0=F9 w (m.toNat-i) ⟨n,no,zz,ss,ll⟩) (h4:Le w m.toNat t0=i+Le w (m.toNat-i) ⟨n,no,zz,ss,ll⟩):
 ((i+1:Nat):Int)<=m/\LU ⟨n,(D' w ⟨n,no,zz,ss,ll⟩).a8,(D' w ⟨n,no,zz,ss,ll⟩).hs,(D' w ⟨n,no,zz,ss,ll⟩).se,(D' w ⟨n,no,zz,ss,ll⟩).lk⟩/\
   F9 w m.toNat t0=F9 w (m.toNat-(i+1)) ⟨n,(D' w ⟨n,no,zz,ss,ll⟩).a8,(D' w ⟨n,no,zz,ss,ll⟩).hs,(D' w ⟨n,no,zz,ss,ll⟩).se,(D' w ⟨n,no,zz,ss,ll⟩).lk⟩/\
   Le w m.toNat t0=i+1+Le w (m.toNat-(i+1)) ⟨n,(D' w ⟨n,no,zz,ss,ll⟩).a8,(D' w ⟨n,no,zz,ss,ll⟩).hs,(D' w ⟨n,no,zz,ss,ll⟩).se,(D' w ⟨n,no,zz,ss,ll⟩).lk⟩:=by
 have e:(⟨n,(D' w ⟨n,no,zz,ss,ll⟩).a8,(D' w ⟨n,no,zz,ss,ll⟩).hs,(D' w ⟨n,no,zz,ss,ll⟩).se,(D' w ⟨n,no,zz,ss,ll⟩).lk⟩:m5)=D' w ⟨n,no,zz,ss,ll⟩:=by
  have:=BU w ⟨n,no,zz,ss,ll⟩
  generalize D' w ⟨n,no,zz,ss,ll⟩=q at this ⊢
  cases q;simp only at this;rw[this]
 rw[e]
 have ek:m.toNat-i=(m.toNat-(i+1))+1:=by omega
 rw[ek]at h3 h4
 simp only[F9,Le,hg,if_true]at h3 h4
 exact⟨by omega,xB hw hz h2 hg,h3,by omega⟩
theorem xU{w:List Pg}{m i:Nat}{t t0:m5}(hi:m-i=0)(h3:F9 w m t0=F9 w (m-i) t)(h4:Le w m t0=i+Le w (m-i) t):F9 w m t0=t/\Le w m t0=i:=by
 rw[hi]at h3 h4;exact⟨h3,h4⟩
theorem Fe{w:List Pg}{m i:Nat}{t t0:m5}(hg:LF t=false)(h3:F9 w m t0=F9 w (m-i) t)(h4:Le w m t0=i+Le w (m-i) t):F9 w m t0=t/\Le w m t0=i:=by
 cases hk:m-i with
 | zero=>exact xU hk h3 h4
 | succ k=>
   rw[hk]at h3 h4
   simp only[F9,Le,hg,Bool.false_eq_true,if_false]at h3 h4
   exact⟨h3,h4⟩
def zG(n:BL)(a8:Int)(zs:List l6)(se:List BL)(ls:List m9)(gt:Nat)(gw:Nat)(ea:Addr)(w:List Pg)(m:Int):r5 Tryz.prog:=.mk 43 [.ptr (.key 1001) [] gw 0,iV m] [(1001,(gw,.agg [.mp (w.map E5),.ptr (.key 1000) [] gt 0])),(1000,(gt,bj n a8 zs se ls)),(9000,(0,.lit (.iface 234 (.pointer (some ea)))))] ((aq w=true)/\(∀ i,n0 (w.getD i l4))/\(LU (⟨n,a8,zs,se,ls⟩:m5))/\(0<=m/\m<=1000)) (iN (Le w m.toNat (⟨n,a8,zs,se,ls⟩:m5))) [(1001,(gw,.agg [.mp (w.map E5),.ptr (.key 1000) [] gt 0])),(1000,(gt,bj n ((F9 w m.toNat (⟨n,a8,zs,se,ls⟩:m5)).a8) ((F9 w m.toNat (⟨n,a8,zs,se,ls⟩:m5)).hs) ((F9 w m.toNat (⟨n,a8,zs,se,ls⟩:m5)).se) ((F9 w m.toNat (⟨n,a8,zs,se,ls⟩:m5)).lk))),(9000,(0,.lit (.iface 234 (.pointer (some ea)))))] (by
 rintro⟨hw,hz,ht,hm⟩
 refine aw (N:=17) (rs:=[.tmp 4]) Tryz.func43
  (.q 1<|.q 2<|.loop (Nat×Int×(List l6)×(List BL)×(List m9)) (fun (i,no,zz,ss,ll)=>⟨[(0,.ptr (.key 1001) [] gw 0),(1,iV m),(6,iV m),(7,iN i)],[(1001,(gw,.agg [.mp (w.map E5),.ptr (.key 1000) [] gt 0])),(1000,(gt,bj n no zz ss ll)),(9000,(0,.lit (.iface 234 (.pointer (some ea)))))]⟩) (fun (i,no,zz,ss,ll)=>(i:Int)<=m/\LU (⟨n,no,zz,ss,ll⟩:m5)/\F9 w m.toNat (⟨n,a8,zs,se,ls⟩:m5)=F9 w (m.toNat-i) (⟨n,no,zz,ss,ll⟩:m5)/\Le w m.toNat (⟨n,a8,zs,se,ls⟩:m5)=i+Le w (m.toNat-i) (⟨n,no,zz,ss,ll⟩:m5)) (fun (i,no,zz,ss,ll)=>m.toNat-i) (fun (i,no,zz,ss,ll)=>.q 1<|.br (.sp (LF (⟨n,no,zz,ss,ll⟩:m5)) (.q 2<|.dx 3 [0,2,1] [(2,⟨false,[],some [9000],[12],[]⟩),(1,⟨true,[],none,[11],[1000]⟩)] []<|.q 1<|.r 1 [.b9]<|.eu (Vm (BO n no zz ss ll gt gw ea w) [(1001,1001),(1000,1000),(9000,9000)] 1000 gt (bj n ((D' w (⟨n,no,zz,ss,ll⟩:m5)).a8) ((D' w (⟨n,no,zz,ss,ll⟩:m5)).hs) ((D' w (⟨n,no,zz,ss,ll⟩:m5)).se) ((D' w (⟨n,no,zz,ss,ll⟩:m5)).lk))) (fun _=>.c (wy ea) []<|.br (.nil) (.q 2<|.nil))) (.q 2<|.dx 3 [0,2,1] [(2,⟨false,[],some [9000],[12],[]⟩),(1,⟨true,[],none,[11],[1000]⟩)] []<|.q 1<|.r 1 [.b9]<|.eu (Vm (za n no zz ss ll gt gw ea w) [(1001,1001),(1000,1000),(9000,9000)] 1000 gt (bj n no zz ss ll)) (fun _=>.c (yW ea) []<|.br (.q 2<|.nil) (.nil)))) (.q 2<|.nil)))
  ((fun v1:V=>(fun v2:V=>(fun v3:V=>((∃ x:Nat×Int×(List l6)×(List BL)×(List m9),match x with | (j8,Nf,Lj,Lo,Nh)=>((j8:Int)<=m/\LU (⟨n,Nf,Lj,Lo,Nh⟩:m5)/\F9 w m.toNat (⟨n,a8,zs,se,ls⟩:m5)=F9 w (m.toNat-j8) (⟨n,Nf,Lj,Lo,Nh⟩:m5)/\Le w m.toNat (⟨n,a8,zs,se,ls⟩:m5)=j8+Le w (m.toNat-j8) (⟨n,Nf,Lj,Lo,Nh⟩:m5))/\E (.ptr (.key 1001) [] gw 0)/\E (iV m)/\E (iV m)/\Q (iN 0) (iN j8)/\Er gw v1/\Qr gt (bj n a8 zs se ls) gt (bj n Nf Lj Lo Nh)/\Er 0 v3/\True)/\∀ x:Nat×Int×(List l6)×(List BL)×(List m9),match x with | (i,no,zz,ss,ll)=>((i:Int)<=m/\LU (⟨n,no,zz,ss,ll⟩:m5)/\F9 w m.toNat (⟨n,a8,zs,se,ls⟩:m5)=F9 w (m.toNat-i) (⟨n,no,zz,ss,ll⟩:m5)/\Le w m.toNat (⟨n,a8,zs,se,ls⟩:m5)=i+Le w (m.toNat-i) (⟨n,no,zz,ss,ll⟩:m5))->(fun v4:V=>Br (s7 (i:Int) m) (((LF (⟨n,no,zz,ss,ll⟩:m5))=true->Z 0 0/\((BO n no zz ss ll gt gw ea w).sm/\Er gw v1/\Er gt v4/\Er 0 v3/\(((aq w=true)/\(∀ i,n0 (w.getD i l4))/\(LU (⟨n,no,zz,ss,ll⟩:m5))/\(LF (⟨n,no,zz,ss,ll⟩:m5)=true))/\(((gw,.agg [.mp (w.map E5),.ptr (.key 1000) [] gt 0]):Nat×V)=(gw,.agg [.mp (w.map E5),.ptr (.key 1000) [] gt 0]))/\(((gt,bj n ((D' w (⟨n,no,zz,ss,ll⟩:m5)).a8) ((D' w (⟨n,no,zz,ss,ll⟩:m5)).hs) ((D' w (⟨n,no,zz,ss,ll⟩:m5)).se) ((D' w (⟨n,no,zz,ss,ll⟩:m5)).lk)):Nat×V)=(gt,bj n ((D' w (⟨n,no,zz,ss,ll⟩:m5)).a8) ((D' w (⟨n,no,zz,ss,ll⟩:m5)).hs) ((D' w (⟨n,no,zz,ss,ll⟩:m5)).se) ((D' w (⟨n,no,zz,ss,ll⟩:m5)).lk)))/\(((0,.lit (.iface 234 (.pointer (some ea)))):Nat×V)=(0,.lit (.iface 234 (.pointer (some ea)))))/\True))/\∀ _:Unit,(wy ea).sm/\(True)/\Br false (False) (m8 ((i:Int)+1)/\∃ x:Nat×Int×(List l6)×(List BL)×(List m9),match x with | (c9,Nd,Li,Lm,Ng)=>((c9:Int)<=m/\LU (⟨n,Nd,Li,Lm,Ng⟩:m5)/\F9 w m.toNat (⟨n,a8,zs,se,ls⟩:m5)=F9 w (m.toNat-c9) (⟨n,Nd,Li,Lm,Ng⟩:m5)/\Le w m.toNat (⟨n,a8,zs,se,ls⟩:m5)=c9+Le w (m.toNat-c9) (⟨n,Nd,Li,Lm,Ng⟩:m5))/\(m.toNat-c9<m.toNat-i)/\E (.ptr (.key 1001) [] gw 0)/\E (iV m)/\E (iV m)/\Q (iN (i+1)) (iN c9)/\Er gw v1/\Qr gt (bj n ((D' w (⟨n,no,zz,ss,ll⟩:m5)).a8) ((D' w (⟨n,no,zz,ss,ll⟩:m5)).hs) ((D' w (⟨n,no,zz,ss,ll⟩:m5)).se) ((D' w (⟨n,no,zz,ss,ll⟩:m5)).lk)) gt (bj n Nd Li Lm Ng)/\Er 0 v3/\True))/\((LF (⟨n,no,zz,ss,ll⟩:m5))=false->Z 0 0/\((za n no zz ss ll gt gw ea w).sm/\Er gw v1/\Er gt v4/\Er 0 v3/\(((aq w=true)/\(∀ i,n0 (w.getD i l4))/\(LU (⟨n,no,zz,ss,ll⟩:m5))/\(LF (⟨n,no,zz,ss,ll⟩:m5)=false))/\(((gw,.agg [.mp (w.map E5),.ptr (.key 1000) [] gt 0]):Nat×V)=(gw,.agg [.mp (w.map E5),.ptr (.key 1000) [] gt 0]))/\(((gt,bj n no zz ss ll):Nat×V)=(gt,bj n no zz ss ll))/\(((0,.lit (.iface 234 (.pointer (some ea)))):Nat×V)=(0,.lit (.iface 234 (.pointer (some ea)))))/\True))/\∀ _:Unit,(yW ea).sm/\(True)/\Br true (Q (iN i) (iN (Le w m.toNat (⟨n,a8,zs,se,ls⟩:m5)))/\Er gw v1/\Qr gt v4 gt v2/\Er 0 v3) (False))) (Q (iV m) (iN (Le w m.toNat (⟨n,a8,zs,se,ls⟩:m5)))/\Er gw v1/\Qr gt v4 gt v2/\Er 0 v3)) (bj n no zz ss ll))) (.lit (.iface 234 (.pointer (some ea))))) (bj n ((F9 w m.toNat (⟨n,a8,zs,se,ls⟩:m5)).a8) ((F9 w m.toNat (⟨n,a8,zs,se,ls⟩:m5)).hs) ((F9 w m.toNat (⟨n,a8,zs,se,ls⟩:m5)).se) ((F9 w m.toNat (⟨n,a8,zs,se,ls⟩:m5)).lk))) (.agg [.mp (w.map E5),.ptr (.key 1000) [] gt 0])) ?_
 refine⟨⟨(0,a8,zs,se,ls),?_,rfl,rfl,rfl,rfl,rfl,rfl,rfl,trivial⟩,?_⟩
 exact⟨by omega,ht,rfl,by simp⟩
 rintro⟨i,no,zz,ss,ll⟩ ⟨h1,h2,h3,h4⟩
 refine⟨fun j7=>?_,fun j7=>?_⟩
 · try simp only[nb]at j7
   refine⟨fun KZ=>?_,fun KZ=>?_⟩
   · have Ox:=KZ
     try simp only[nb]at Ox
     refine⟨rfl,⟨rfl,rfl,rfl,rfl,⟨⟨hw,hz,h2,KZ⟩,rfl,rfl,rfl,trivial⟩⟩,?_⟩
     intro _
     refine⟨rfl,trivial,?_⟩
     refine⟨fun j9=>?_,fun j9=>?_⟩
     · try simp only[nb]at j9
       all_goals (first | exact absurd j9 (by decide) | simp_all)
     try simp only[nb]at j9
     refine⟨by omega,?_⟩
     refine⟨(i+1,(D' w (⟨n,no,zz,ss,ll⟩:m5)).a8,(D' w (⟨n,no,zz,ss,ll⟩:m5)).hs,(D' w (⟨n,no,zz,ss,ll⟩:m5)).se,(D' w (⟨n,no,zz,ss,ll⟩:m5)).lk),?_,?_,rfl,rfl,rfl,rfl,rfl,rfl,rfl,trivial⟩
     exact Gx hw hz KZ (by omega) h2 h3 h4
     first | (solve | simp) | omega | (simp;omega)
   · have Ox:=KZ
     try simp only[nb]at Ox
     refine⟨rfl,⟨rfl,rfl,rfl,rfl,⟨⟨hw,hz,h2,KZ⟩,rfl,rfl,rfl,trivial⟩⟩,?_⟩
     intro _
     refine⟨rfl,trivial,?_⟩
     refine⟨fun l8=>?_,fun l8=>?_⟩
     try simp only[nb]at l8
     refine⟨?_,rfl,by rw[(Fe KZ h3 h4).1],rfl⟩
     unfold Q
     rw[(Fe KZ h3 h4).2]
     · try simp only[nb]at l8
       all_goals (first | exact absurd l8 (by decide) | simp_all)
 try simp only[nb]at j7
 refine⟨?_,rfl,by rw[(xU (by omega) h3 h4).1],rfl⟩
 unfold Q
 rw[(xU (by omega) h3 h4).2]
 refine congrArg iV ?_;omega)
end Go.Proofs.YtlclejemchbjiaaGreatDoor
namespace Go.Pd
open Go.Abs
def aB(w:List Pg)(t:m5)(m:Int):Option m5:=if C3 m 0 400=true/\(aq w&&bG t)=true then some (F9 w m.toNat t) else none
end Go.Pd
namespace Go.Proofs.YtlclejemchbjiaaGreatDoor
open Go Go.Abs Go.RowKit Go.Pd
set_option maxRecDepth 20000
theorem BT{t:m5}(ht:G' t)(hh:t.hs.length<=900)(hk:bG t=true):LU t:=by
 unfold bG at hk
 simp only[Bool.and_eq_true,List.all_eq_true,decide_eq_true_eq]at hk
 obtain⟨⟨⟨⟨⟨k1,k2⟩,k3⟩,k4⟩,k5⟩,k6⟩:=hk
 have ks:t.se.length<=60:=by
  unfold cQ at k3
  simp only[Bool.and_eq_true,decide_eq_true_eq]at k3
  exact k3.1.1
 have kl:t.lk.length<=400:=by
  unfold da at k4
  simp only[Bool.and_eq_true,decide_eq_true_eq]at k4
  exact k4.1
 refine⟨⟨ks,by omega,ht.sa,fun y hy=>?_⟩,ht.n,kl,of_decide_eq_true k2⟩
 have hz:=ht.ha y hy
 obtain⟨a1,a2⟩:=k5 y hy
 unfold dm at a1
 unfold cW at a2
 simp only[Bool.and_eq_true,List.all_eq_true,decide_eq_true_eq]at a1 a2
 obtain⟨⟨⟨⟨b1,b2⟩,b3⟩,b4⟩,b5⟩:=a1
 obtain⟨⟨c1,c2⟩,c3⟩:=a2
 have b3:=of_decide_eq_true b3
 refine⟨hz.n,hz.r,hz.rp,?_,by omega,fun x hx=>?_,by omega⟩
 split at b5
 simp only[Bool.and_eq_true,decide_eq_true_eq]at b5
 have:=of_decide_eq_true b5.2
 omega
 rw[decide_eq_true_eq]at b5
 rw[b5.2];omega
 have d1:=hz.ta x hx
 have d2:=of_decide_eq_true (c2 x hx).2
 exact⟨d1.1,d1.2,by omega,by omega⟩
theorem Cs(w:List Pg):∀ (k:Nat) (t:m5),(F9 w k t).na=t.na
 | 0,_=>rfl
 | k+1,t=>by
   unfold F9
   split
   rw[Cs w k,BU]
   rfl
theorem JD{m:Int}(h:C3 m 0 400=true):0<=m/\m<=400:=of_decide_eq_true h
theorem HX{w:List Pg}{t:m5}{m:Int}(h:C3 m 0 400=false):aB w t m=none:=if_neg fun c=>by rw[h]at c;exact absurd c.1 (by decide)
theorem kM{w:List Pg}{t:m5}{m:Int}(h:C3 m 0 400=true)(h1:aq w=true)(h2:bG t=true):aB w t m=some (F9 w m.toNat t):=if_pos ⟨h,by rw[h1,h2];rfl⟩
theorem Hp{w:List Pg}{t:m5}{m:Int}(h:(aq w&&bG t)=false):aB w t m=none:=if_neg fun c=>by rw[h]at c;exact absurd c.2 (by decide)
abbrev gT(w:List Pg)(t:m5)(m:Int)(ea:Addr):V:=.tup [bj ((oT (aB w t m)).na) ((oT (aB w t m)).a8) ((oT (aB w t m)).hs) ((oT (aB w t m)).se) ((oT (aB w t m)).lk),bV ((aB w t m).isSome)]
def uO(w:List Pg)(t:m5)(m:Int)(ea:Addr):r5 Tryz.prog:=.mk 23 [bN w,cf t.na t.a8 t.hs t.se t.lk,iV m] [(9000,(0,.lit (.iface 234 (.pointer (some ea)))))] ((w.length<=30)/\(∀ i,n0 (w.getD i l4))/\(G' t)/\(t.hs.length<=900)) (gT w t m ea) [(9000,(0,.lit (.iface 234 (.pointer (some ea)))))] (by
 rintro⟨hw,hz,ht,hh⟩
 refine aw (N:=32) (rs:=[.cell 6 30,.tmp 7]) Tryz.func23
  (.bx (fun g4=>.al eN (fun g6=>.q 1<|.q 1<|.c (cS (0:Int) m (400:Int)) []<|.q 1<|.br (.bd eN<|.st none<|.q 1<|.h (.A3 (.key 6) [2] 8)<|.h (.A3 (.key 6) [3] 1)<|.h (.A3 (.key 6) [4] 3)<|.nil) (.r 2 [.b9]<|.sp (aq w&&bG t) (.cx (qL w t) [(1001,17),(1000,3017)] (fun (I7:Nat×Nat)=>.q 5<|.q 2<|.br (.nil) (.q 2<|.c (zG t.na t.a8 t.hs t.se t.lk I7.2 I7.1 ea w m) [(1001,17),(1000,3017),(9000,9000)]<|.r 5 [.b9]<|.mv<|.st none<|.q 1<|.nil))) (.c (pg w t) []<|.q 5<|.q 2<|.br (.bd eN<|.st none<|.q 1<|.h (.A3 (.key 6) [2] 8)<|.h (.A3 (.key 6) [3] 1)<|.h (.A3 (.key 6) [4] 3)<|.nil) (.nil))))))
  ((fun v1:V=>(fun v2:V=>(∀ g4:Nat,∀ g6:Nat,(cS (0:Int) m (400:Int)).sm/\(True)/\Br (!(C3 m (0:Int) (400:Int))) (Z g6 0/\(g6=g6)/\Q v2 (gT w t m ea)/\Er 0 v1) (Z g4 0/\((aq w&&bG t)=true->(qL w t).sm/\((w.length<=30)/\(∀ i,n0 (w.getD i l4))/\(G' t)/\(aq w=true)/\(bG t=true))/\∀ I7:Nat×Nat,(True)->Br (!true) (False) ((zG t.na t.a8 t.hs t.se t.lk I7.2 I7.1 ea w m).sm/\Er I7.1 (.agg [.mp (w.map E5),.ptr (.key 1000) [] I7.2 0])/\Er I7.2 (bj t.na t.a8 t.hs t.se t.lk)/\Er 0 v1/\((aq w=true)/\(∀ i,n0 (w.getD i l4))/\(LU (⟨t.na,t.a8,t.hs,t.se,t.lk⟩:m5))/\(0<=m/\m<=1000))/\True/\Z I7.1 1/\True/\Z I7.2 0/\Z g6 0/\(g6=g6)/\Q (.tup [bj t.na ((F9 w m.toNat (⟨t.na,t.a8,t.hs,t.se,t.lk⟩:m5)).a8) ((F9 w m.toNat (⟨t.na,t.a8,t.hs,t.se,t.lk⟩:m5)).hs) ((F9 w m.toNat (⟨t.na,t.a8,t.hs,t.se,t.lk⟩:m5)).se) ((F9 w m.toNat (⟨t.na,t.a8,t.hs,t.se,t.lk⟩:m5)).lk),bV true]) (gT w t m ea)/\Er 0 v1))/\((aq w&&bG t)=false->(pg w t).sm/\((w.length<=30)/\(∀ i,n0 (w.getD i l4))/\(G' t)/\((aq w&&bG t)=false))/\Br (!false) (Z g6 0/\(g6=g6)/\Q v2 (gT w t m ea)/\Er 0 v1) (False))))) (.tup [.agg [sV [],iN 0,.ow 8 ([].map aA),.ow 1 ([].map sV),.ow 3 ([].map aN)],bV false])) (.lit (.iface 234 (.pointer (some ea))))) ?_
 intro g4
 intro g6
 refine⟨rfl,trivial,?_⟩
 refine⟨fun j7=>?_,fun j7=>?_⟩
 try simp only[nb]at j7
 refine⟨rfl,?_⟩
 refine⟨rfl,?_,rfl⟩
 unfold Q gT
 rw[HX j7];rfl
 · try simp only[nb]at j7
   refine⟨rfl,?_⟩
   refine⟨fun Mv=>?_,fun Mv=>?_⟩
   · have KD:=Mv
     try simp only[nb]at KD
     refine⟨rfl,⟨hw,hz,ht,KD.1,KD.2⟩,?_⟩
     intro I7 Nj
     refine⟨fun j9=>?_,fun j9=>?_⟩
     · try simp only[nb]at j9
       all_goals (first | exact absurd j9 (by decide) | simp_all)
     try simp only[nb]at j9
     refine⟨rfl,rfl,rfl,rfl,⟨KD.1,hz,BT ht hh KD.2,by have:=JD j7;omega⟩,trivial,rfl,trivial,rfl,rfl,?_⟩
     refine⟨rfl,?_,rfl⟩
     unfold Q gT
     rw[kM (by simpa using j7) KD.1 KD.2]
     exact congrArg (fun s:BL=>V.tup [V.agg [sV s,iV (F9 w m.toNat t).a8,V.ow 8 ((F9 w m.toNat t).hs.map aA),V.ow 1 ((F9 w m.toNat t).se.map sV),V.ow 3 ((F9 w m.toNat t).lk.map aN)],bV true]) (Cs w m.toNat t).symm
   · have KD:=Mv
     try simp only[nb]at KD
     refine⟨rfl,⟨hw,hz,ht,Mv⟩,?_⟩
     refine⟨fun l8=>?_,fun l8=>?_⟩
     try simp only[nb]at l8
     refine⟨rfl,?_⟩
     refine⟨rfl,?_,rfl⟩
     unfold Q gT
     rw[Hp Mv];rfl
     · try simp only[nb]at l8
       all_goals (first | exact absurd l8 (by decide) | simp_all))
theorem gY:∀ l:List l6,V.A8 (l.map aA)=l.map bY
 | []=>rfl
 | y::l=>by
   simp only[List.map_cons,V.A8,gY l]
   rw[show (aA y).er=bY y from by
    show V.agg (V.A8 [sV y.na,iV y.re,bV y.kn,bw y.gr,iV y.tr,.ow 2 (y.td.map ak)])=_
    simp only[V.A8,V.er]
    rw[aL (f:=ak) (fun _=>rfl)]]
theorem Bi{n:BL}{j6:List BL}(hl:j6.length<=400):(oT (ao n j6)).hs.length<=900:=by
 unfold ao
 split
 have:=(jX n j6 (kD n)).hl
 show (j6.foldl aV (bB n)).hs.length<=900
 omega
 simp[oT]
theorem BJ{n:BL}{j6:List BL}(hn:n.length<=1000)(hl:j6.length<=400)(ha:∀ x,x∈j6->x.length<=1000/\m6 x):G' (oT (ao n j6)):=by
 unfold ao
 split
 have h1:=jX n j6 (kD n)
 have h2:TS (j6.foldl aV (bB n)):=qk j6 ⟨by simp[bB],by simp[bB],by simp[bB],by simp[bB]⟩ hn (fun s hs=>⟨(ha s hs).1,(ha s hs).2,(kF s).1⟩)
 show G' (j6.foldl aV (bB n))
 refine⟨by rw[h1.na];exact hn,by have:=h2.h;have:=h2.s;omega,by have:=h2.s;omega,by rw[h1.lk];simp,h2.sa,by rw[h1.lk];simp,fun y hy=>?_⟩
 have q:=h2.ha y hy
 have e:=(h1.hs y hy).2.1
 have:=h2.s
 exact⟨q.n,q.r,q.rp,by rw[e];simp,by have:=q.t;omega,fun x hx=>⟨(q.ta x hx).1,(q.ta x hx).2.1⟩⟩
 exact⟨by simp[oT],by simp[oT],by simp[oT],by simp[oT],by simp[oT],by simp[oT],by simp[oT]⟩
abbrev rz(w:List Pg)(n:BL)(j6:List BL)(m:Int)(ea:Addr):V:=.tup [bj ((oT (aB w (oT (ao n j6)) m)).na) ((oT (aB w (oT (ao n j6)) m)).a8) ((oT (aB w (oT (ao n j6)) m)).hs) ((oT (aB w (oT (ao n j6)) m)).se) ((oT (aB w (oT (ao n j6)) m)).lk),bV ((ao n j6).isSome&&(aB w (oT (ao n j6)) m).isSome)]
def eH(w:List Pg)(n:BL)(j6:List BL)(m:Int)(ea:Addr):r5 Tryz.prog:=.mk 10 [bN w,sV n,ax j6,iV m] [(9000,(0,.lit (.iface 234 (.pointer (some ea)))))] ((w.length<=30)/\(∀ i,n0 (w.getD i l4))/\(n.length<=1000)/\(j6.length<=400)/\(∀ x,x∈j6->x.length<=1000/\m6 x)) (rz w n j6 m ea) [(9000,(0,.lit (.iface 234 (.pointer (some ea)))))] (by
 rintro⟨hw,hz,hn,hl,ha⟩
 refine aw (N:=32) (rs:=[.cell 8 30,.tmp 9]) Tryz.func10
  (.al eN (fun g8=>.q 1<|.q 2<|.c (uU n j6) []<|.mv<|.mv<|.q 1<|.al eN (fun g10=>.st none<|.q 1<|.q 1<|.mv<|.h (.fz 22)<|.h (.o9 22 (cf ((oT (ao n j6)).na) ((oT (ao n j6)).a8) ((oT (ao n j6)).hs) ((oT (ao n j6)).se) ((oT (ao n j6)).lk)))<|.q 1<|.c (uO w (oT (ao n j6)) m ea) [(9000,9000)]<|.mv<|.mv<|.q 1<|.al eN (fun g12=>.st none<|.q 1<|.mv<|.q 4<|.st none<|.q 1<|.nil))))
  (∀ g8:Nat,(uU n j6).sm/\((n.length<=1000)/\(j6.length<=1000)/\(∀ x,x∈j6->x.length<=1000/\m6 x))/\∀ g10:Nat,Z g10 0/\Z g10 0/\((.agg [sV ((oT (ao n j6)).na),iV ((oT (ao n j6)).a8),.sl false (V.A8 (((oT (ao n j6)).hs).map aA)),.sl false (V.A8 (((oT (ao n j6)).se).map sV)),.sl false (V.A8 (((oT (ao n j6)).lk).map aN))]:V)=cf ((oT (ao n j6)).na) ((oT (ao n j6)).a8) ((oT (ao n j6)).hs) ((oT (ao n j6)).se) ((oT (ao n j6)).lk))/\(uO w (oT (ao n j6)) m ea).sm/\Er 0 (.lit (.iface 234 (.pointer (some ea))))/\((w.length<=30)/\(∀ i,n0 (w.getD i l4))/\(G' (oT (ao n j6)))/\((oT (ao n j6)).hs.length<=900))/\∀ g12:Nat,Z g12 0/\Z g12 0/\Pk ((ao n j6).isSome) (((ao n j6).isSome)==true) true/\Z g8 0/\(g8=g8)/\Q (.tup [bj ((oT (aB w (oT (ao n j6)) m)).na) ((oT (aB w (oT (ao n j6)) m)).a8) ((oT (aB w (oT (ao n j6)) m)).hs) ((oT (aB w (oT (ao n j6)) m)).se) ((oT (aB w (oT (ao n j6)) m)).lk),bV (((ao n j6).isSome)&&((aB w (oT (ao n j6)) m).isSome))]) (rz w n j6 m ea)/\Er 0 (.lit (.iface 234 (.pointer (some ea))))) ?_
 intro g8
 refine⟨rfl,⟨hn,by omega,ha⟩,?_⟩
 intro g10
 refine⟨rfl,rfl,by rw[gY,aL (f:=sV) (fun _=>rfl),aL (f:=aN) (fun _=>rfl)],rfl,rfl,⟨hw,hz,BJ hn hl ha,Bi hl⟩,?_⟩
 intro g12
 refine⟨rfl,rfl,⟨fun h=>by rw[h] <;> rfl,fun _=>rfl⟩,rfl,?_⟩
 refine⟨rfl,?_,rfl⟩
 unfold Q rz
 rfl)
end Go.Proofs.YtlclejemchbjiaaGreatDoor
namespace Go.Pd
open Go.Abs
def fX(zs:List l6)(d:BL):Int:=if A6 zs d<zs.length then ((A6 zs d:Nat):Int) else -1
end Go.Pd
namespace Go.Proofs.YtlclejemchbjiaaGreatDoor
open Go Go.Abs Go.RowKit Go.Pd
set_option maxRecDepth 20000
theorem Gp{zs:List l6}{d:BL}{i:Nat}(hi:i<zs.length)(e:(zs.getD i e9).na=d)(h:∀ j,j<i->((zs.getD j e9).na==d)=false):fX zs d=i:=by
 unfold fX;rw[sh hi e h,if_pos hi]
theorem GO{zs:List l6}{d:BL}(h:∀ j,j<zs.length->((zs.getD j e9).na==d)=false):fX zs d= -1:=by
 unfold fX;rw[sk h,if_neg (by omega)]
def sZ(n:BL)(a8:Int)(zs:List l6)(se:List BL)(ls:List m9)(gt:Nat)(g:Nat)(o:Nat)(c:Nat)(d:BL):r5 Tryz.prog:=.mk 78 [.agg [sV n,iV a8,.hd (.key 1000) [2] 8 g o 0 ((zs.map aA).length) c,.b9,.b9],sV d] [(1000,(gt,bm n a8 zs g o c se ls))] (zs.length<=1000) (iV (fX zs d)) [(1000,(gt,bm n a8 zs g o c se ls))] (by
 intro hl
 refine aw (N:=22) (rs:=[.tmp 4]) Tryz.func78
  (.bx (fun g2=>.q 1<|.q 1<|.loop (Nat) (fun (i:Nat)=>⟨[(1,sV d),(2,.ptr (.key 2) [] g2 0),(5,iN i)],[(2,(g2,.agg [sV n,iV a8,.hd (.key 1000) [2] 8 g o 0 ((zs.map aA).length) c,.b9,.b9])),(1000,(gt,bm n a8 zs g o c se ls))]⟩) (fun (i:Nat)=>i<=zs.length/\∀ j,j<i->((zs.getD j e9).na==d)=false) (fun (i:Nat)=>zs.length-i) (fun (i:Nat)=>.r 5 [.b9]<|.br (.r 8 [.b9,sV ((zs.getD i e9).na)]<|.br (.q 2<|.nil) (.q 3<|.nil)) (.q 1<|.nil))))
  ((fun v1:V=>(fun v2:V=>(∀ g2:Nat,(∃ j8:Nat,(j8<=zs.length/\∀ j,j<j8->((zs.getD j e9).na==d)=false)/\E (sV d)/\E (.ptr (.key 2) [] g2 0)/\Q (iN 0) (iN j8)/\Er g2 v2/\Er gt v1/\True)/\∀ i:Nat,(i<=zs.length/\∀ j,j<i->((zs.getD j e9).na==d)=false)->Z g2 2/\Br (s7 (i:Int) (((zs.map aA).length:Nat):Int)) (Z g2 2/\In (i:Int) ((zs.map aA).length)/\(V.at gt 0 v1 [2,0+i,0]=some (g,(o+(0+i)*8+0),sV ((zs.getD i e9).na)))/\Br (((zs.getD i e9).na)==d) (Q (iN i) (iV (fX zs d))/\Er gt v1) (m8 ((i:Int)+1)/\∃ c9:Nat,(c9<=zs.length/\∀ j,j<c9->((zs.getD j e9).na==d)=false)/\(zs.length-c9<zs.length-i)/\E (sV d)/\E (.ptr (.key 2) [] g2 0)/\Q (iN (i+1)) (iN c9)/\Er g2 v2/\Er gt v1/\True)) (Q (iV (-1)) (iV (fX zs d))/\Er gt v1))) (.agg [sV n,iV a8,.hd (.key 1000) [2] 8 g o 0 ((zs.map aA).length) c,.b9,.b9])) (bm n a8 zs g o c se ls)) ?_
 intro g2
 refine⟨⟨0,?_,rfl,rfl,rfl,rfl,rfl,trivial⟩,?_⟩
 simp
 rintro i ⟨h1,h2⟩
 refine⟨rfl,?_⟩
 refine⟨fun j7=>?_,fun j7=>?_⟩
 try simp only[nb]at j7
 refine⟨rfl,by(try simp only[List.length_map]at *);omega,(aP (f:=2) rfl).trans (aE (by rw[Nat.zero_add];exact aj (d:=e9) (by omega)) rfl),?_⟩
 refine⟨fun j9=>?_,fun j9=>?_⟩
 try simp only[nb]at j9
 refine⟨?_,rfl⟩
 unfold Q
 rw[Gp (by omega) j9 h2]
 try simp only[nb]at j9
 refine⟨by omega,?_⟩
 refine⟨i+1,?_,?_,rfl,rfl,rfl,rfl,rfl,trivial⟩
 exact⟨by omega,bF h2 (by simpa using j9)⟩
 first | (solve | simp) | omega | (simp;omega)
 try simp only[nb]at j7
 refine⟨?_,rfl⟩
 unfold Q
 rw[GO (fun j hj=>h2 j (by omega))])
abbrev JK(p0:BL)(p1:Int)(p2:Bool)(p3:List BL)(p4:List s8)(p5:Nat)(p6:Int)(p7:List w3)(p8:Nat)(p9:Nat)(Nv:Nat):V:=.agg [sV p0,iV p1,bV p2,.agg [.sl false (p3.map sV),.sl false (p4.map au),iN p5],iV p6,.own 2 (p7.map ak) p8 p9 Nv]
theorem vS{zs:List l6}{d:BL}(h:0<=fX zs d):A6 zs d<zs.length:=by
 unfold fX at h
 split at h
 assumption
 omega
theorem Jl{se:List BL}{a:BL}(h:(ai a).isSome=false\/60<=(se.length:Int)): ¬ eY se a:=fun c=>by
 rcases h with e | e
 have:=c.1;unfold aI at this;rw[e]at this;cases this
 have:=c.2.1;omega
theorem HR{se:List BL}{a:BL}{i:Nat}(h:∀ j,j<i->((se.getD j [])==a)=false)(hi:se.length<=i):a ∉ se:=fun hm=>by
 obtain⟨j,hj,e⟩:=List.mem_iff_getElem.1 hm
 have:=h j (by omega)
 rw[List.getD_eq_getElem?_getD,List.getElem?_eq_getElem hj]at this
 simp[e]at this
theorem Hv{zs:List l6}{n a:BL}{se:List BL}(hr:eY se a)(h:((bC zs (av a) n).getD (A6 zs (av a)) e9).kn=false):bS n zs se a=(bC zs (av a) n).set (A6 zs (av a)) { (bC zs (av a) n).getD (A6 zs (av a)) e9 with td:=((bC zs (av a) n).getD (A6 zs (av a)) e9).td++[⟨a,0⟩] }:=by
 unfold bS
 rw[if_pos hr]
 unfold fW
 rw[if_neg (fun c=>by rw[h]at c;cases c.1)]
theorem lh3{zs:List l6}{n a:BL}{se:List BL}(hr:eY se a)(h:fX zs (oA (ai a)).c5<0):bS n zs se a=(zs++[(db (oA (ai a)).c5 n)]).set zs.length { (zs++[(db (oA (ai a)).c5 n)]).getD zs.length e9 with td:=((zs++[(db (oA (ai a)).c5 n)]).getD zs.length e9).td++[⟨a,0⟩] }:=by
 have e1:bC zs (av a) n=zs++[db (oA (ai a)).c5 n]:=by
  unfold bC fX at *
  split at h
  omega
  rw[if_neg (by assumption)];rfl
 have e2:A6 zs (av a)=zs.length:=by
  have:=List.findIdx_le_length (p:=fun h:l6=>h.na==(oA (ai a)).c5) (xs:=zs)
  unfold fX at h
  split at h
  omega
  rename_i c;show A6 zs (oA (ai a)).c5=_;unfold A6 at *;omega
 rw[Hv hr (by rw[e1,e2];simp[db]),e1,e2]
theorem lh4{zs:List l6}{n a:BL}{se:List BL}(hr:eY se a)(h:0<=fX zs (oA (ai a)).c5)(hk:(zs.getD (A6 zs (oA (ai a)).c5) e9).kn=false):bS n zs se a=zs.set (A6 zs (oA (ai a)).c5) { zs.getD (A6 zs (oA (ai a)).c5) e9 with td:=(zs.getD (A6 zs (oA (ai a)).c5) e9).td++[⟨a,0⟩] }:=by
 have hl:A6 zs (av a)<zs.length:=vS h
 have e1:bC zs (av a) n=zs:=by unfold bC;rw[if_pos hl]
 rw[Hv hr (by rw[e1];exact hk),e1]
 rfl
theorem Aj{zs:List l6}{d:BL}(h:0<=fX zs d):iV (fX zs d)=iV ((A6 zs d:Nat):Int):=by
 unfold fX at h ⊢
 split at h
 rename_i c;rw[if_pos c]
 omega
abbrev gX(n:BL)(a8:Int)(zs:List l6)(se:List BL)(ls:List m9)(a:BL):V:=bj n a8 (bS n zs se a) (dZ se a) ls
def vy(n:BL)(a8:Int)(zs:List l6)(se:List BL)(ls:List m9)(a:BL):r5 Tryz.prog:=.mk 46 [bj n a8 zs se ls,sV a] [] ((zs.length<=1000)/\(se.length<=1000)/\(a.length<=1000)/\(aI a=true)/\(∀ y,y∈zs->y.td.length<=1000/\y.kn=false)) (gX n a8 zs se ls a) [] (by
 rintro⟨hl,LB,ha,hk,hg⟩
 refine aw (N:=83) (rs:=[.cell 4 30]) Tryz.func46
  (.cu bmC (fun g2=>.al eN (fun g4=>.oR (.key 2) [3] (fun gs os cs=>.oR (.key 2) [2] (fun g o c=>.q 1<|.loop (Nat) (fun (i:Nat)=>⟨[(1,sV a),(2,.ptr (.key 2) [] g2 0),(4,.ptr (.key 4) [] g4 0),(5,iN i)],[(2,(g2,.agg [sV n,iV a8,.own 8 (zs.map aA) g o c,.own 1 (se.map sV) gs os cs,.ow 3 (ls.map aN)])),(4,(g4,.agg [sV [],iN 0,.sl true [],.sl true [],.sl true []]))]⟩) (fun (i:Nat)=>i<=se.length/\∀ j,j<i->((se.getD j [])==a)=false) (fun (i:Nat)=>se.length-i) (fun (i:Nat)=>.r 5 [.b9]<|.br (.r 7 [.b9,sV (se.getD i [])]<|.br (.mv<|.st none<|.nil) (.q 3<|.nil)) (.q 1<|.c (lf a) []<|.q 3<|.al cy (fun g6=>.st none<|.q 1<|.r 8 [.b9]<|.br (.mv<|.st none<|.nil) (.r 3 [.b9]<|.bs<|.ap (fun R2 RF R7=>.h (.o9 42 (.own 1 ((se++[a]).map sV) R2 RF R7))<|.q 1<|.st none<|.r 3 [.b9,.b9]<|.c (sZ n a8 zs (se++[a]) ls g2 g o c ((oA (ai a)).c5)) [(1000,2)]<|.q 1<|.q 2<|.join ((List l6×Nat)×Nat×Nat×Nat) (fun x=>⟨[(1,sV a),(2,.ptr (.key 2) [] g2 0),(4,.ptr (.key 4) [] g4 0),(8,iN x.1.2)],[(2,(g2,bm n a8 x.1.1 x.2.1 x.2.2.1 x.2.2.2 (se++[a]) ls)),(4,(g4,.agg [sV [],iN 0,.sl true [],.sl true [],.sl true []]))]⟩) (fun x=>x.1.2<x.1.1.length/\(x.1.1.getD x.1.2 e9).td.length<=1000/\bS n zs se a=x.1.1.set x.1.2 { x.1.1.getD x.1.2 e9 with td:=(x.1.1.getD x.1.2 e9).td++[⟨a,0⟩] }) (.r 6 [.b9,.b9,.b9]<|.bs<|.bs<|.bd iC<|.bd Es<|.bs<|.ap (fun K3 KW LR=>.h (.o9 61 (.own 8 (zs.map aA++[(.agg [sV ((oA (ai a)).c5),iN 0,bV false,.agg [.sl true [sV n],.sl true [],iN 0],iN 0,.sl true []]:V)]) K3 KW LR))<|.h (.Nb (.slot 61) [zs.length,5] K3 (KW+(zs.length)*8+7) 2)<|.h (.o9 61 (.own 8 (zs.map aA++[(.agg [sV ((oA (ai a)).c5),iN 0,bV false,.agg [.sl true [sV n],.sl true [],iN 0],iN 0,.own 2 ([].map ak) 0 0 0]:V)]) K3 KW LR))<|.h (.Na (.slot 61) [zs.length] K3 (KW+(zs.length)*8) (.agg [sV ((oA (ai a)).c5),iN 0,bV false,.agg [.sl true [sV n],.sl true [],iN 0],iN 0,.own 2 ([].map ak) 0 0 0]) (.agg [sV ((oA (ai a)).c5),iV 0,bV false,.agg [.sl false ([n].map sV),.sl false ([].map au),iN 0],iV 0,.ow 2 ([].map ak)]))<|.h (.o9 61 (.own 8 (zs.map aA++[(.agg [sV ((oA (ai a)).c5),iV 0,bV false,.agg [.sl false ([n].map sV),.sl false ([].map au),iN 0],iV 0,.ow 2 ([].map ak)]:V)]) K3 KW LR))<|.h (.o9 61 (.own 8 ((zs++[(db (oA (ai a)).c5 n)]).map aA) K3 KW LR))<|.q 1<|.st none<|.r 4 [.b9]<|.h (.o9 66 (iN zs.length))<|.q 1<|.nil)) (.h (.o9 47 (iN (A6 zs (oA (ai a)).c5)))<|.h (.o9 8 (iN (A6 zs (oA (ai a)).c5)))<|.h (.o9 48 (iN (A6 zs (oA (ai a)).c5)))<|.nil) (fun x=>.ex (l6) (fun y=>(x.1.1.getD x.1.2 e9)=y) (fun (y:l6)=>.h (.z7 2 (cw n a8 x.1.1 x.1.2 y.na y.re y.kn y.gr.na y.gr.ru y.gr.wa y.tr y.td x.2.1 x.2.2.1 x.2.2.2 (se++[a]) ls))<|.NK (.key 2) [2,x.1.2,5] x.2.1 (x.2.2.1+(x.1.2)*8+7) 2 (y.td.map ak) (fun ga Nw ca=>.h (.z7 2 (ba n a8 x.1.1 x.1.2 y.na y.re y.kn y.gr.na y.gr.ru y.gr.wa y.tr y.td ga Nw ca x.2.1 x.2.2.1 x.2.2.2 (se++[a]) ls))<|.dx 13 [0,1,2,3,4,5,6,7,8,9,10,11,12] [(1,⟨false,[],some [1000202],[68],[]⟩),(4,⟨false,[],some [2],[71],[]⟩),(8,⟨false,[],some [2],[75],[]⟩),(12,⟨true,[],none,[79],[2,1000202]⟩)] []<|.q 1<|.r 1 [.b9]<|.q 1<|.q 1<|.r 1 [.b9]<|.q 1<|.q 1<|.q 1<|.r 1 [.own 2 (y.td.map ak) ga Nw ca]<|.q 1<|.bd nS<|.bs<|.eu (T5 2 [2,0+x.1.2,5] (y.td.map ak) ([.agg [sV a,iN 0]]:List V) x.2.1 (x.2.2.1+(0+x.1.2)*8+7) 2 ga Nw ca) (fun Kl=>.h (.z7 2 (kW n a8 x.1.1 x.1.2 y.na y.re y.kn y.gr.na y.gr.ru y.gr.wa y.tr x.2.1 x.2.2.1 x.2.2.2 (se++[a]) ls))<|.h (.o9 79 (.own 2 ((y.td++[(⟨a,0⟩:w3)]).map ak) Kl.1 Kl.2.1 Kl.2.2))<|.q 2<|.st (some (.b9))<|.h (.z7 2 (ba n a8 x.1.1 x.1.2 y.na y.re y.kn y.gr.na y.gr.ru y.gr.wa y.tr (y.td++[(⟨a,0⟩:w3)]) Kl.1 Kl.2.1 Kl.2.2 x.2.1 x.2.2.1 x.2.2.2 (se++[a]) ls))<|.h (.Na (.key 2) [2,x.1.2,5] x.2.1 (x.2.2.1+(x.1.2)*8+7) (.own 2 ((y.td++[(⟨a,0⟩:w3)]).map ak) Kl.1 Kl.2.1 Kl.2.2) (.ow 2 ((y.td++[(⟨a,0⟩:w3)]).map ak)))<|.h (.z7 2 (cw n a8 x.1.1 x.1.2 y.na y.re y.kn y.gr.na y.gr.ru y.gr.wa y.tr (y.td++[(⟨a,0⟩:w3)]) x.2.1 x.2.2.1 x.2.2.2 (se++[a]) ls))<|.h (.z7 2 (bm n a8 (x.1.1.set x.1.2 ({ y with td:=y.td++[⟨a,0⟩] }:l6)) x.2.1 x.2.2.1 x.2.2.2 (se++[a]) ls))<|.mv<|.st none<|.nil))))))))))))))
  ((fun v1:List V=>(fun v2:V=>(fun v3:V=>(fun v4:V=>(fun v5:V=>(fun v6:List V=>(fun v7:V=>(fun v8:Int=>(fun v9:Bool=>(((true=true)/\((bj n a8 zs se ls):V).isVal=true)/\∀ g2:Nat,(fun v10:V=> ∀ g4:Nat,(fun v11:V=> ∀ gs os cs:Nat,∀ g o c:Nat,(fun v12:V=>(∃ j8:Nat,(j8<=se.length/\∀ j,j<j8->((se.getD j [])==a)=false)/\E (sV a)/\E v10/\E v11/\Q (iN 0) (iN j8)/\Er g2 v12/\Er g4 v4/\True)/\∀ i:Nat,(i<=se.length/\∀ j,j<i->((se.getD j [])==a)=false)->Z g2 3/\Br (s7 (i:Int) (((se.map sV).length:Nat):Int)) (Z g2 3/\In (i:Int) ((se.map sV).length)/\(V.at g2 0 v12 [3,0+i]=some (gs,(os+(0+i)*1),sV (se.getD i [])))/\Br ((se.getD i [])==a) (Z g2 0/\Z g4 0/\(g4=g4)/\Q (bj n a8 zs se ls) (gX n a8 zs se ls a)) (m8 ((i:Int)+1)/\∃ c9:Nat,(c9<=se.length/\∀ j,j<c9->((se.getD j [])==a)=false)/\(se.length-c9<se.length-i)/\E (sV a)/\E v10/\E v11/\Q (iN (i+1)) (iN c9)/\Er g2 v12/\Er g4 v4/\True)) ((lf a).sm/\((a.length<=4611686018427387904))/\∀ g6:Nat,Z g6 0/\Gd (v9==false) (Z g2 3)/\Pk v9 true (v9==false)/\Br (v9||(y0 (((se.map sV).length:Nat):Int) 60)) (Z g2 0/\Z g4 0/\(g4=g4)/\Q (bj n a8 zs se ls) (gX n a8 zs se ls a)) (Z g2 3/\((1,1,gs,os,cs,(se.map sV).length)=(1,1,gs,os,cs,(se.map sV).length))/\(True)/\(V.aD ([sV a]:List V)=false)/\(aG 1 ([sV a]:List V))/\(((se.map sV).length+([sV a]:List V).length)*16<=140737488355328)/\∀ R2 RF R7:Nat,((.own 1 ((se.map sV)++([sV a]:List V)) R2 RF R7:V)=.own 1 ((se++[a]).map sV) R2 RF R7)/\Z g2 3/\Z g2 0/\Z g6 0/\(sZ n a8 zs (se++[a]) ls g2 g o c ((oA (ai a)).c5)).sm/\Er g2 (bm n a8 zs g o c (se++[a]) ls)/\((zs.length<=1000))/\((s7 (fX zs ((oA (ai a)).c5)) 0)=true->Z g2 2/\Z g6 0/\Z g2 0/\((8,8,g,o,c,(zs.map aA).length)=(8,8,g,o,c,(zs.map aA).length))/\(True)/\(V.aD v1=false)/\(aG 8 v1)/\(((zs.map aA).length+v1.length)*120<=140737488355328)/\∀ K3 KW LR:Nat,((.own 8 ((zs.map aA)++v1) K3 KW LR:V)=.own 8 (zs.map aA++[v3]) K3 KW LR)/\(V.at K3 KW (.own 8 (zs.map aA++[v3]) K3 KW LR) [zs.length,5]=some (K3,KW+(zs.length)*8+7,.sl true []))/\(V.set (.own 8 (zs.map aA++[v3]) K3 KW LR) [zs.length,5] (.own 2 ([].map ak) 0 0 0)=.own 8 (zs.map aA++[v2]) K3 KW LR)/\(V.at K3 KW (.own 8 (zs.map aA++[v2]) K3 KW LR) [zs.length]=some (K3,KW+(zs.length)*8,.agg [sV ((oA (ai a)).c5),iN 0,bV false,.agg [.sl true [sV n],.sl true [],iN 0],iN 0,.own 2 ([].map ak) 0 0 0]))/\(V.set (.own 8 (zs.map aA++[v2]) K3 KW LR) [zs.length] (.agg [sV ((oA (ai a)).c5),iV 0,bV false,.agg [.sl false ([n].map sV),.sl false ([].map au),iN 0],iV 0,.ow 2 ([].map ak)])=.own 8 (zs.map aA++[v5]) K3 KW LR)/\((.own 8 (zs.map aA++[v5]) K3 KW LR:V)=.own 8 ((zs++[(db (oA (ai a)).c5 n)]).map aA) K3 KW LR)/\Z g2 2/\Z g2 2/\m8 (v8-1)/\Q (iV (v8-1)) (iN zs.length)/\∃ x:(List l6×Nat)×Nat×Nat×Nat,(x.1.2<x.1.1.length/\(x.1.1.getD x.1.2 e9).td.length<=1000/\bS n zs se a=x.1.1.set x.1.2 { x.1.1.getD x.1.2 e9 with td:=(x.1.1.getD x.1.2 e9).td++[⟨a,0⟩] })/\E (sV a)/\E v10/\E v11/\Q (iN zs.length) (iN x.1.2)/\Qr g2 (bm n a8 (zs++[(db (oA (ai a)).c5 n)]) K3 KW LR (se++[a]) ls) g2 (bm n a8 x.1.1 x.2.1 x.2.2.1 x.2.2.2 (se++[a]) ls)/\Er g4 v4/\True)/\((s7 (fX zs ((oA (ai a)).c5)) 0)=false->(v7=iN (A6 zs (oA (ai a)).c5))/\(v7=iN (A6 zs (oA (ai a)).c5))/\(v7=iN (A6 zs (oA (ai a)).c5))/\∃ x:(List l6×Nat)×Nat×Nat×Nat,(x.1.2<x.1.1.length/\(x.1.1.getD x.1.2 e9).td.length<=1000/\bS n zs se a=x.1.1.set x.1.2 { x.1.1.getD x.1.2 e9 with td:=(x.1.1.getD x.1.2 e9).td++[⟨a,0⟩] })/\E (sV a)/\E v10/\E v11/\Q (iN (A6 zs (oA (ai a)).c5)) (iN x.1.2)/\Qr g2 (bm n a8 zs g o c (se++[a]) ls) g2 (bm n a8 x.1.1 x.2.1 x.2.2.1 x.2.2.2 (se++[a]) ls)/\Er g4 v4/\True)/\(∀ x:(List l6×Nat)×Nat×Nat×Nat,(x.1.2<x.1.1.length/\(x.1.1.getD x.1.2 e9).td.length<=1000/\bS n zs se a=x.1.1.set x.1.2 { x.1.1.getD x.1.2 e9 with td:=(x.1.1.getD x.1.2 e9).td++[⟨a,0⟩] })->(∃ y:l6,(x.1.1.getD x.1.2 e9)=y)/\∀ y:l6,((x.1.1.getD x.1.2 e9)=y)->(fun Ld:V=>(fun MQ:V=>((bm n a8 x.1.1 x.2.1 x.2.2.1 x.2.2.2 (se++[a]) ls:V)=cw n a8 x.1.1 x.1.2 y.na y.re y.kn y.gr.na y.gr.ru y.gr.wa y.tr y.td x.2.1 x.2.2.1 x.2.2.2 (se++[a]) ls)/\(V.at g2 0 Ld [2,x.1.2,5]=some (x.2.1,x.2.2.1+(x.1.2)*8+7,.ow 2 (y.td.map ak)))/\∀ ga Nw ca:Nat,(fun N5:V=>(fun O2:V=>(V.set Ld [2,x.1.2,5] (.own 2 (y.td.map ak) ga Nw ca)=ba n a8 x.1.1 x.1.2 y.na y.re y.kn y.gr.na y.gr.ru y.gr.wa y.tr y.td ga Nw ca x.2.1 x.2.2.1 x.2.2.2 (se++[a]) ls)/\Z g2 2/\Z g2 2/\In (x.1.2:Int) (((x.1.1.take x.1.2).map aA++O2::(x.1.1.drop (x.1.2+1)).map aA).length)/\(V.at g2 0 N5 [2,0+x.1.2,5]=some (x.2.1,(x.2.2.1+(0+x.1.2)*8+7),.own 2 (y.td.map ak) ga Nw ca))/\(v6=v6/\((.hd (.key 2) [2,0+x.1.2,5] 2 ga Nw 0 ((y.td.map ak).length) ca:V)=.hd (.key 2) [2,0+x.1.2,5] 2 ga Nw 0 ((y.td.map ak).length) ca)/\(V.at g2 0 N5 [2,0+x.1.2,5]=some (x.2.1,x.2.2.1+(0+x.1.2)*8+7,.own 2 (y.td.map ak) ga Nw ca))/\((2:Nat)=2)/\(V.aD v6=false)/\(aG 2 v6)/\(((y.td.map ak).length+v6.length)*24<=140737488355328))/\∀ Kl:Nat×Nat×Nat,(fun PS:V=>(V.set N5 [2,0+x.1.2,5] (.b9)=kW n a8 x.1.1 x.1.2 y.na y.re y.kn y.gr.na y.gr.ru y.gr.wa y.tr x.2.1 x.2.2.1 x.2.2.2 (se++[a]) ls)/\((.own 2 ((y.td.map ak)++v6) Kl.1 Kl.2.1 Kl.2.2:V)=.own 2 ((y.td++[(⟨a,0⟩:w3)]).map ak) Kl.1 Kl.2.1 Kl.2.2)/\In (x.1.2:Int) (((x.1.1.take x.1.2).map aA++O2::(x.1.1.drop (x.1.2+1)).map aA).length)/\(V.at g2 0 MQ [2,0+x.1.2,5]=some (x.2.1,(x.2.2.1+(0+x.1.2)*8+7),.b9))/\(V.set MQ [2,0+x.1.2,5] (.own 2 ((y.td++[(⟨a,0⟩:w3)]).map ak) Kl.1 Kl.2.1 Kl.2.2)=ba n a8 x.1.1 x.1.2 y.na y.re y.kn y.gr.na y.gr.ru y.gr.wa y.tr (y.td++[(⟨a,0⟩:w3)]) Kl.1 Kl.2.1 Kl.2.2 x.2.1 x.2.2.1 x.2.2.2 (se++[a]) ls)/\(V.at g2 0 PS [2,x.1.2,5]=some (x.2.1,x.2.2.1+(x.1.2)*8+7,.own 2 ((y.td++[(⟨a,0⟩:w3)]).map ak) Kl.1 Kl.2.1 Kl.2.2))/\(V.set PS [2,x.1.2,5] (.ow 2 ((y.td++[(⟨a,0⟩:w3)]).map ak))=cw n a8 x.1.1 x.1.2 y.na y.re y.kn y.gr.na y.gr.ru y.gr.wa y.tr (y.td++[(⟨a,0⟩:w3)]) x.2.1 x.2.2.1 x.2.2.2 (se++[a]) ls)/\((cw n a8 x.1.1 x.1.2 y.na y.re y.kn y.gr.na y.gr.ru y.gr.wa y.tr (y.td++[(⟨a,0⟩:w3)]) x.2.1 x.2.2.1 x.2.2.2 (se++[a]) ls:V)=bm n a8 (x.1.1.set x.1.2 ({ y with td:=y.td++[⟨a,0⟩] }:l6)) x.2.1 x.2.2.1 x.2.2.2 (se++[a]) ls)/\Z g2 0/\Z g4 0/\(g4=g4)/\Q (bj n a8 (x.1.1.set x.1.2 ({ y with td:=y.td++[⟨a,0⟩] }:l6)) (se++[a]) ls) (gX n a8 zs se ls a)) (ba n a8 x.1.1 x.1.2 y.na y.re y.kn y.gr.na y.gr.ru y.gr.wa y.tr (y.td++[(⟨a,0⟩:w3)]) Kl.1 Kl.2.1 Kl.2.2 x.2.1 x.2.2.1 x.2.2.2 (se++[a]) ls)) (JK y.na y.re y.kn y.gr.na y.gr.ru y.gr.wa y.tr y.td ga Nw ca:V)) (ba n a8 x.1.1 x.1.2 y.na y.re y.kn y.gr.na y.gr.ru y.gr.wa y.tr y.td ga Nw ca x.2.1 x.2.2.1 x.2.2.2 (se++[a]) ls)) (kW n a8 x.1.1 x.1.2 y.na y.re y.kn y.gr.na y.gr.ru y.gr.wa y.tr x.2.1 x.2.2.1 x.2.2.2 (se++[a]) ls)) (cw n a8 x.1.1 x.1.2 y.na y.re y.kn y.gr.na y.gr.ru y.gr.wa y.tr y.td x.2.1 x.2.2.1 x.2.2.2 (se++[a]) ls))))) (.agg [sV n,iV a8,.own 8 (zs.map aA) g o c,.own 1 (se.map sV) gs os cs,.ow 3 (ls.map aN)])) (.ptr (.key 4) [] g4 0)) (.ptr (.key 2) [] g2 0))) (!((ai a).isSome))) ((((zs++[(db (oA (ai a)).c5 n)]).map aA).length:Nat):Int)) (iV (fX zs ((oA (ai a)).c5)):V)) ([.agg [sV a,iN 0]]:List V)) (.agg [sV ((oA (ai a)).c5),iV 0,bV false,.agg [.sl false ([n].map sV),.sl false ([].map au),iN 0],iV 0,.ow 2 ([].map ak)]:V)) (.agg [sV [],iN 0,.sl true [],.sl true [],.sl true []])) (.agg [sV ((oA (ai a)).c5),iN 0,bV false,.agg [.sl true [sV n],.sl true [],iN 0],iN 0,.sl true []]:V)) (.agg [sV ((oA (ai a)).c5),iN 0,bV false,.agg [.sl true [sV n],.sl true [],iN 0],iN 0,.own 2 ([].map ak) 0 0 0]:V)) ([.agg [sV ((oA (ai a)).c5),iN 0,bV false,.agg [.sl true [sV n],.sl true [],iN 0],iN 0,.sl true []]]:List V)) ?_
 refine⟨⟨rfl,rfl⟩,?_⟩
 intro g2
 intro g4
 intro gs os cs
 intro g o c
 refine⟨⟨0,?_,rfl,rfl,rfl,rfl,rfl,rfl,trivial⟩,?_⟩
 simp
 rintro i ⟨h1,h2⟩
 refine⟨rfl,?_⟩
 refine⟨fun j7=>?_,fun j7=>?_⟩
 try simp only[nb]at j7
 refine⟨rfl,by(try simp only[List.length_map]at *);omega,(aP (f:=3) rfl).trans (aE (by rw[Nat.zero_add];exact aj (d:=[]) (by omega)) rfl),?_⟩
 refine⟨fun j9=>?_,fun j9=>?_⟩
 try simp only[nb]at j9
 refine⟨rfl,rfl,?_⟩
 refine⟨rfl,?_⟩
 unfold Q gX
 have hr: ¬ eY se a:=fun c=>c.2.2 (by rw[<- j9];exact bK (by omega))
 rw[mZ hr,ni hr]
 try simp only[nb]at j9
 refine⟨by omega,?_⟩
 refine⟨i+1,?_,?_,rfl,rfl,rfl,rfl,rfl,rfl,trivial⟩
 exact⟨by omega,bF h2 (by simpa using j9)⟩
 first | (solve | simp) | omega | (simp;omega)
 try simp only[nb]at j7
 refine⟨rfl,by omega,?_⟩
 intro g6
 refine⟨rfl,fun hG=>rfl,⟨fun _=>rfl,fun h=>by rw[h] <;> rfl⟩,?_⟩
 refine⟨fun l8=>?_,fun l8=>?_⟩
 try simp only[nb]at l8
 refine⟨rfl,rfl,?_⟩
 refine⟨rfl,?_⟩
 unfold Q gX
 have hr: ¬ eY se a:=Jl l8
 rw[mZ hr,ni hr]
 try simp only[nb]at l8
 refine⟨rfl,rfl,trivial,rfl,by simp[aG,V.n,V.ns],by(try simp only[List.length_append,List.length_map,List.length_cons,List.length_nil]);(try have:=TQ);omega,?_⟩
 intro R2 RF R7
 refine⟨congrArg (V.own 1 · R2 RF R7) (by simp),rfl,?_⟩
 have hr:eY se a:=⟨hk,by have:=l8.2;omega,HR h2 (by omega)⟩
 refine⟨rfl,rfl,rfl,rfl,hl,?_⟩
 refine⟨fun o4=>?_,fun o4=>?_,fun x hx=>?_⟩
 try simp only[nb]at o4
 refine⟨rfl,rfl,rfl,rfl,trivial,rfl,by simp[aG,V.n,V.ns],by(try simp only[List.length_append,List.length_map,List.length_cons,List.length_nil]);(try have:=TQ);omega,?_⟩
 intro K3 KW LR
 refine⟨congrArg (V.own 8 · K3 KW LR) (rfl),aE (aS) rfl,aR (aS) (cU),fD aS,lV (aS) (cU),congrArg (V.own 8 · K3 KW LR) (by rw[List.map_append (f:=aA)];rfl),rfl,?_⟩
 have V1:(zs++[(db (oA (ai a)).c5 n)]).length=zs.length+1:=by simp
 refine⟨rfl,by(try simp only[List.length_map]at *);omega,by unfold Q;refine congrArg iV ?_;simp,?_⟩
 exact⟨((zs++[(db (oA (ai a)).c5 n)],zs.length),K3,KW,LR),⟨by simp,by simp[db],lh3 hr o4⟩,rfl,rfl,rfl,by first | rfl | simp | (simp;omega),by first | rfl | simp | (simp;omega),rfl,trivial⟩
 try simp only[nb]at o4
 refine⟨(Aj o4),(Aj o4),(Aj o4),?_⟩
 exact⟨((zs,(A6 zs (oA (ai a)).c5)),g,o,c),⟨vS o4,(hg _ (bK (d:=e9) (vS o4))).1,lh4 hr o4 (hg _ (bK (d:=e9) (vS o4))).2⟩,rfl,rfl,rfl,by first | rfl | simp | (simp;omega),by first | rfl | simp | (simp;omega),rfl,trivial⟩
 have hlt:=hx.1
 have TQ:=hx.2.1
 refine⟨⟨_,rfl⟩,?_⟩
 intro y hy
 rw[hy]at TQ
 refine⟨LM (congrArg (V.own 8 · x.2.1 x.2.2.1 x.2.2.2) (splitN hy (by omega))),(aP (f:=2) rfl).trans (aE (aF (by omega)) rfl),?_⟩
 intro ga Nw ca
 refine⟨dq (aR (aF (by omega)) (cD (by omega))),rfl,rfl,by(try simp only[List.length_map]at *);try simp only[List.length_append,List.length_cons,List.length_map,List.length_take,List.length_drop,List.length_nil]at *;omega,(aP (f:=2) rfl).trans (aE (by rw[Nat.zero_add];exact aF (by omega)) rfl),⟨rfl,rfl,(aP (f:=2) rfl).trans (aE (by rw[Nat.zero_add];exact aF (by omega)) rfl),rfl,rfl,by simp[aG,V.n,V.ns],by(try simp only[List.length_append,List.length_map,List.length_cons,List.length_nil]);(try have:=TQ);omega⟩,?_⟩
 intro Kl
 refine⟨dq (aR (by rw[Nat.zero_add];exact aF (by omega)) (by rw[Nat.zero_add];exact cD (by omega))),congrArg (V.own 2 · Kl.1 Kl.2.1 Kl.2.2) (by simp),by(try simp only[List.length_map]at *);try simp only[List.length_append,List.length_cons,List.length_map,List.length_take,List.length_drop,List.length_nil]at *;omega,(aP (f:=2) rfl).trans (aE (by rw[Nat.zero_add];exact aF (by omega)) rfl),dq (aR (by rw[Nat.zero_add];exact aF (by omega)) (by rw[Nat.zero_add];exact cD (by omega))),(aP (f:=2) rfl).trans (aE (aF (by omega)) rfl),dq (aR (aF (by omega)) (cD (by omega))),LM (congrArg (V.own 8 · x.2.1 x.2.2.1 x.2.2.2) (kr (f:=aA) (x:=({ y with td:=y.td++[⟨a,0⟩] }:l6)) (by omega))),rfl,rfl,?_⟩
 refine⟨rfl,?_⟩
 unfold Q gX
 rw[uy hr,hx.2.2,hy])
theorem wc{t:m5}{s:BL}(h:aI s=false):aV t s=t:=by
 have hr: ¬ eY t.se s:=fun c=>by have:=c.1;rw[h]at this;cases this
 unfold aV
 rw[mZ hr,ni hr]
abbrev jB(n:BL)(j6:List BL):V:=.tup [bj ((oT (ao n j6)).na) ((oT (ao n j6)).a8) ((oT (ao n j6)).hs) ((oT (ao n j6)).se) ((oT (ao n j6)).lk),bV ((ao n j6).isSome)]
def sJ(n:BL)(j6:List BL):r5 Tryz.prog:=.mk 24 [sV n,ax j6] [] ((n.length<=1000)/\(j6.length<=1000)/\(∀ x,x∈j6->x.length<=1000/\m6 x)) (jB n j6) [] (by
 rintro⟨hn,hl,ha⟩
 refine aw (N:=40) (rs:=[.cell 4 30,.tmp 5]) Tryz.func24
  (.al eN (fun g4=>.q 1<|.q 1<|.c (oJ n) []<|.q 6<|.br (.bd eN<|.st none<|.q 1<|.h (.A3 (.key 4) [2] 8)<|.h (.A3 (.key 4) [3] 1)<|.h (.A3 (.key 4) [4] 3)<|.nil) (.q 1<|.bs<|.bs<|.bs<|.bd eN<|.al eN (fun g6=>.st none<|.h (.A3 (.key 6) [2] 8)<|.h (.A3 (.key 6) [3] 1)<|.h (.A3 (.key 6) [4] 3)<|.q 1<|.loop (Nat×(List l6)×(List BL)) (fun (i,zs,se)=>⟨[(1,ax j6),(4,.ptr (.key 4) [] g4 0),(6,.ptr (.key 6) [] g6 0),(7,iN i)],[(4,(g4,.agg [sV [],iN 0,.sl true [],.sl true [],.sl true []])),(6,(g6,kf n zs se (.ow 3 ([].map aN))))]⟩) (fun (i,zs,se)=>i<=j6.length/\zs=((j6.take i).foldl aV (bB n)).hs/\se=((j6.take i).foldl aV (bB n)).se) (fun (i,zs,se)=>j6.length-i) (fun (i,zs,se)=>.q 4<|.br (.r 4 [sV (j6.getD i [])]<|.c (jc (j6.getD i [])) []<|.br (.dx 5 [1,2,3,4,0] [(4,⟨false,[],some [],[37],[]⟩),(0,⟨true,[],none,[33],[6]⟩)] []<|.q 1<|.q 1<|.r 1 [sV (j6.getD i [])]<|.q 1<|.ux none (fun _ _ _=>.c (vy n (0:Int) zs se ([]:List m9) (j6.getD i [])) []<|.st none<|.q 3<|.nil)) (.q 3<|.nil)) (.mv<|.st none<|.q 1<|.nil))))))
  ((fun v1:V=>(fun v2:V=>(∀ g4:Nat,(oJ n).sm/\((n.length<=4611686018427387904))/\Pk (!(bq n)) true ((!(bq n))==false)/\Br ((!(bq n))||(s9 (((j6.map sV).length:Nat):Int) 12)) (Z g4 0/\(g4=g4)/\Q (.tup [.agg [sV [],iN 0,.ow 8 ([].map aA),.ow 1 ([].map sV),.ow 3 ([].map aN)],bV false]) (jB n j6)) (∀ g6:Nat,Z g6 0/\(∃ x:Nat×(List l6)×(List BL),match x with | (j8,Md,Mn)=>(j8<=j6.length/\Md=((j6.take j8).foldl aV (bB n)).hs/\Mn=((j6.take j8).foldl aV (bB n)).se)/\E (ax j6)/\E (.ptr (.key 4) [] g4 0)/\E (.ptr (.key 6) [] g6 0)/\Q (iN 0) (iN j8)/\Er g4 v1/\Qr g6 (.agg [sV n,iN 0,.ow 8 ([].map aA),.ow 1 ([].map sV),.ow 3 ([].map aN)]) g6 (kf n Md Mn v2)/\True)/\∀ x:Nat×(List l6)×(List BL),match x with | (i,zs,se)=>(i<=j6.length/\zs=((j6.take i).foldl aV (bB n)).hs/\se=((j6.take i).foldl aV (bB n)).se)->Br (s7 (i:Int) (((j6.map sV).length:Nat):Int)) (Ex (i:Int) (j6.map sV) (sV (j6.getD i []))/\True/\(jc (j6.getD i [])).sm/\(((j6.getD i []).length<=4611686018427387904))/\Br (aI (j6.getD i [])) (Ex (i:Int) (j6.map sV) (sV (j6.getD i []))/\True/\(((g6:Nat),(0:Nat))=(g6,0))/\∀ _ _ _:Nat,(vy n (0:Int) zs se ([]:List m9) (j6.getD i [])).sm/\((zs.length<=1000)/\(se.length<=1000)/\((j6.getD i []).length<=1000)/\(aI (j6.getD i [])=true)/\(∀ y,y∈zs->y.td.length<=1000/\y.kn=false))/\Z g6 0/\m8 ((i:Int)+1)/\∃ x:Nat×(List l6)×(List BL),match x with | (c9,KT,KV)=>(c9<=j6.length/\KT=((j6.take c9).foldl aV (bB n)).hs/\KV=((j6.take c9).foldl aV (bB n)).se)/\(j6.length-c9<j6.length-i)/\E (ax j6)/\E (.ptr (.key 4) [] g4 0)/\E (.ptr (.key 6) [] g6 0)/\Q (iN (i+1)) (iN c9)/\Er g4 v1/\Qr g6 (bj n (0:Int) (bS n zs se (j6.getD i [])) (dZ se (j6.getD i [])) ([]:List m9)) g6 (kf n KT KV v2)/\True) (m8 ((i:Int)+1)/\∃ x:Nat×(List l6)×(List BL),match x with | (c9,KT,KV)=>(c9<=j6.length/\KT=((j6.take c9).foldl aV (bB n)).hs/\KV=((j6.take c9).foldl aV (bB n)).se)/\(j6.length-c9<j6.length-i)/\E (ax j6)/\E (.ptr (.key 4) [] g4 0)/\E (.ptr (.key 6) [] g6 0)/\Q (iN (i+1)) (iN c9)/\Er g4 v1/\Qr g6 (kf n zs se v2) g6 (kf n KT KV v2)/\True)) (Z g6 0/\Z g4 0/\(g4=g4)/\Q (.tup [kf n zs se v2,bV true]) (jB n j6))))) (.ow 3 ([].map aN))) (.agg [sV [],iN 0,.sl true [],.sl true [],.sl true []])) ?_
 intro g4
 refine⟨rfl,by omega,⟨fun _=>rfl,fun h=>by rw[h] <;> rfl⟩,?_⟩
 refine⟨fun j7=>?_,fun j7=>?_⟩
 try simp only[nb]at j7
 refine⟨rfl,?_⟩
 refine⟨rfl,?_⟩
 unfold Q jB
 rw[AW j7];rfl
 try simp only[nb]at j7
 intro g6
 refine⟨rfl,?_⟩
 refine⟨⟨(0,[],[]),?_,rfl,rfl,rfl,rfl,rfl,by first | rfl | simp | (simp;omega),trivial⟩,?_⟩
 exact⟨by simp,rfl,rfl⟩
 rintro⟨i,zs,se⟩ ⟨h1,h2,h3⟩
 have KP:=jX n (j6.take i) (kD n)
 rw[List.length_take]at KP
 refine⟨fun j9=>?_,fun j9=>?_⟩
 try simp only[nb]at j9
 have hm:=ha _ (oV (show i<j6.length by omega))
 refine⟨⟨by omega,aj (d:=[]) (by omega)⟩,trivial,rfl,by first | assumption | omega | (simp;omega),?_⟩
 refine⟨fun l8=>?_,fun l8=>?_⟩
 try simp only[nb]at l8
 refine⟨⟨by omega,aj (d:=[]) (by omega)⟩,trivial,rfl,?_⟩
 intro _ _ _
 refine⟨rfl,⟨by rw[h2];have:=KP.hl;omega,by rw[h3];have:=KP.sl;omega,hm.1,l8,fun y hy=>by rw[h2]at hy;obtain⟨a1,a2,a3,_⟩:=KP.hs y hy;exact⟨by omega,a1⟩⟩,rfl,by omega,?_⟩
 refine⟨(i+1,(bS n zs se (j6.getD i [])),(dZ se (j6.getD i []))),?_,?_,rfl,rfl,rfl,rfl,rfl,by first | rfl | simp | (simp;omega),trivial⟩
 rw[foldl_succ (d:=[]) (by omega)]
 first
 | (rw[h2,h3];exact⟨by omega,by show _=bS ((j6.take i).foldl aV (bB n)).na ((j6.take i).foldl aV (bB n)).hs ((j6.take i).foldl aV (bB n)).se _;rw[KP.na],rfl⟩)
 | (rw[wc l8];exact⟨by omega,h2,h3⟩)
 first | (solve | simp) | omega | (simp;omega)
 try simp only[nb]at l8
 refine⟨by omega,?_⟩
 refine⟨(i+1,zs,se),?_,?_,rfl,rfl,rfl,rfl,rfl,rfl,trivial⟩
 rw[foldl_succ (d:=[]) (by omega)]
 first
 | (rw[h2,h3];exact⟨by omega,by show _=bS ((j6.take i).foldl aV (bB n)).na ((j6.take i).foldl aV (bB n)).hs ((j6.take i).foldl aV (bB n)).se _;rw[KP.na],rfl⟩)
 | (rw[wc l8];exact⟨by omega,h2,h3⟩)
 first | (solve | simp) | omega | (simp;omega)
 try simp only[nb]at j9
 refine⟨rfl,rfl,?_⟩
 refine⟨rfl,?_⟩
 unfold Q jB
 rw[List.take_of_length_le (by omega)]at h2 h3 KP
 rw[Cm j7,h2,h3]
 refine congrArg (fun r:V=>V.tup [r,bV true]) ?_
 show V.agg _=vJ (j6.foldl aV (bB n))
 rw[vJ,KP.na,KP.a8,KP.lk])
end Go.Proofs.YtlclejemchbjiaaGreatDoor
namespace Go.Pd
open Go.Abs Go.Proofs.YtlclejemchbjiaaGreatDoor
def fe:BL:=[47,110,111,116,105,99,101]
theorem mo{d:BL}(h:cn d=true):ai (ae d)=some ⟨d,[[110,111,116,105,99,101]],false,[]⟩:=by
 have hl:d.length<=5:=by
  unfold cn C3 at h
  rw[Bool.and_eq_true]at h
  have:=of_decide_eq_true h.2
  omega
 have e:aH ⟨d,[[110,111,116,105,99,101]],false,[]⟩=true:=by
  unfold aH
  simp only[h,Bool.and_eq_true,decide_eq_true_eq]
  refine⟨⟨⟨⟨⟨trivial,by simp⟩,by decide⟩,by decide⟩,by decide⟩,?_⟩
  simp[ck,bu,bT];omega
 have:=pQ e
 rw[<- this]
 congr 1
theorem Ef{d:BL}(h:cn d=true):aI (ae d)=true:=tS (by rw[mo h];rfl) (by rw[mo h];rfl)
theorem zV{d:BL}(h:cn d=true):av (ae d)=d:=by unfold av;rw[mo h];rfl
theorem BZ{d:BL}(h:cn d=true):pathOf (ae d)=fe:=by unfold pathOf;rw[mo h];rfl
theorem fA{s:BL}(h:aI s=true):(ai s).isSome=true:=by unfold aI at h;rw[Bool.and_eq_true]at h;exact h.1
theorem AZ{s:BL}(h:aI s=true):cn (av s)=true:=(fP (iS (fA h))).1
def cls(L:List m9)(d:BL):List Int:=(L.filter fun l=>av l.ad==d).map (·.ti)
def L8(L:List m9)(a:BL):List m9:=L.filter fun l=>l.ad==a
structure QL (w:List Pg) (L:List m9) (l:m9):Prop where
 once:pathOf l.ad≠fe->(∀ q,q∈L->q.ad=l.ad->q.ki=3)/\(L8 L l.ad).length<3
 Vl:(∀ q,q∈L->av q.ad≠av l.ad)->pathOf l.ad=fe
 fail:∀ q,q∈L->av q.ad=av l.ad->q.ki=3->q.ti+3<=l.ti
 kind:∃ m,l.ki=(ab w l.ad m).1
 rd:aI l.ad=true
 tm:0<=l.ti/\l.ti<=5000
def AO(w:List Pg)(L:List m9):Prop:= ∀ k,k<L.length->QL w (L.take k) (L.getD k l7)
theorem AO.snoc{w:List Pg}{L:List m9}{l:m9}(h:AO w L)(q:QL w L l):AO w (L++[l]):=fun k hk=>by
 rw[List.length_append,List.length_singleton]at hk
 rcases Nat.lt_or_ge k L.length with c | c
 have:=h k c
 rw[List.take_append_of_le_length (by omega),List.getD_eq_getElem?_getD,List.getElem?_append_left c,<- List.getD_eq_getElem?_getD]
 exact this
 have e:k=L.length:=by omega
 subst e
 rw[List.take_left,List.getD_eq_getElem?_getD,List.getElem?_append_right (Nat.le_refl _)]
 simpa using q
structure HI (L:List m9) (se:List BL) (y:l6):Prop where
 hn:cn y.na=true
 it:∀ x,x∈y.td->aI x.ad=true/\av x.ad=y.na/\x.ad∈se/\0<=x.tr/\x.tr<=2/\(pathOf x.ad≠fe->(∀ q,q∈L->q.ad=x.ad->q.ki=3)/\((L8 L x.ad).length:Int)=x.tr)
 nd:(y.td.map (·.ad)).Nodup
 gl:y.gr.na.length<=1
 un:y.kn=false->0<=y.tr/\y.tr<=2/\y.gr.wa=0/\y.gr.ru=[]/\((cls L y.na).length:Int)=y.tr
 kn:y.kn=true->cls L y.na≠[]
 re:∀ q,q∈L->av q.ad=y.na->q.ti+1<=y.re/\(q.ki=3->q.ti+3<=y.re)/\q.ti+(y.gr.wa:Int)<=y.re
 wt:∀ k,k+1<(cls L y.na).length->(cls L y.na).getD k 0+1<=(cls L y.na).getD (k+1) 0/\(3<=k->(cls L y.na).getD k 0+(y.gr.wa:Int)<=(cls L y.na).getD (k+1) 0)
def K9(l:List w3):Int:=(l.map fun x=>3-x.tr).sum
def hp(y:l6):Int:=(if y.kn=true then 0 else 3-y.tr)+K9 y.td
structure GI (w:List Pg) (n:BL) (t:m5):Prop where
 na:t.na=n
 al:AO w t.lk
 se:∀ s,s∈t.se->aI s=true
 sn:t.se.Nodup/\t.se.length<=60
 nd:(t.hs.map (·.na)).Nodup
 hi:∀ y,y∈t.hs->HI t.lk t.se y
 lh:∀ q,q∈t.lk->(∃ y,y∈t.hs/\y.na=av q.ad)/\(pathOf q.ad=fe\/q.ad∈t.se)
 po:(t.lk.length:Int)+(t.hs.map hp).sum<=3*((t.se.length:Int)+t.hs.length)
 hl:t.hs.length<=t.se.length
 no:0<=t.a8
theorem nq{l:List w3}(h:∀ x,x∈l->x.tr<=2):0<=K9 l:=by
 induction l with
 | nil=>simp[K9]
 | cons a l ih=>
   have h1:=ih fun x hx=>h x (List.mem_cons_of_mem _ hx)
   have h2:=h a (by simp)
   simp only[K9,List.map_cons,List.sum_cons]at h1 ⊢
   omega
theorem Aq{l:List w3}(p:w3->Bool)(h:∀ x,x∈l->x.tr<=2):K9 (l.filter p)<=K9 l:=by
 induction l with
 | nil=>simp[K9]
 | cons a l ih=>
   have h1:=ih fun x hx=>h x (List.mem_cons_of_mem _ hx)
   have h2:=h a (by simp)
   rw[List.filter_cons]
   split
   simp only[K9,List.map_cons,List.sum_cons]at h1 ⊢;omega
   simp only[K9,List.map_cons,List.sum_cons]at h1 ⊢;omega
theorem zo(l r:List w3):K9 (l++r)=K9 l+K9 r:=by
 unfold K9
 rw[List.map_append,List.sum_append]
theorem Cg{l:List w3}(h:l≠[]):K9 l=(3-(l.getD 0 k9).tr)+K9 (l.drop 1):=by
 cases l with
 | nil=>exact absurd rfl h
 | cons a l=>simp[K9]
theorem um{f:l6->Int}{a:l6}:∀ {l:List l6} {i:Nat},i<l.length->((l.set i a).map f).sum=(l.map f).sum-f (l.getD i e9)+f a
 | [],i,h=>by simp at h
 | b::l,0,h=>by simp;omega
 | b::l,i+1,h=>by
   have:=um (f:=f) (a:=a) (l:=l) (i:=i) (by simpa using h)
   simp only[List.set_cons_succ,List.map_cons,List.sum_cons,List.getD_cons_succ,this];omega
theorem lI{f:l6->Int}:∀ {l:List l6},(∀ y,y∈l->0<=f y)->0<=(l.map f).sum
 | [],_=>by simp
 | a::l,h=>by
   have h1:=lI (f:=f) (l:=l) fun y hy=>h y (List.mem_cons_of_mem _ hy)
   have h2:=h a (by simp)
   simp only[List.map_cons,List.sum_cons];omega
theorem xC{l:List l6}{i:Nat}{a y:l6}(hn:(l.map (·.na)).Nodup)(hi:i<l.length)(h:y∈l.set i a):y=a\/(y∈l/\y.na≠(l.getD i e9).na):=by
 obtain⟨j,hj,e⟩:=List.mem_iff_getElem.1 h
 rw[List.getElem_set]at e
 split at e
 exact .inl e.symm
 rename_i hne
 rw[List.length_set]at hj
 refine .inr ⟨by rw[<- e];exact List.getElem_mem _,fun c=>hne ?_⟩
 rw[List.getD_eq_getElem?_getD,List.getElem?_eq_getElem hi]at c
 have:=(List.getElem_inj (h₀:=by simpa using hi) (h₁:=by simpa using hj) hn).1
 exact this (by rw[List.getElem_map,List.getElem_map,e];exact c.symm)
theorem oS{l:List l6}{i:Nat}{a:l6}(hi:i<l.length)(h:a.na=(l.getD i e9).na):(l.set i a).map (·.na)=l.map (·.na):=by
 rw[List.map_set,h]
 apply List.ext_getElem (by simp)
 intro j h1 h2
 rw[List.getElem_set]
 split
 rename_i e;subst e;rw[List.getElem_map,List.getD_eq_getElem?_getD,List.getElem?_eq_getElem hi];rfl
 rfl
theorem lK{L:List m9}{l:m9}{d:BL}:cls (L++[l]) d=cls L d++(if av l.ad=d then [l.ti] else []):=by
 unfold cls
 rw[List.filter_append,List.map_append,List.filter_cons]
 by_cases h:av l.ad=d
 rw[if_pos (by simpa using h),if_pos h];rfl
 rw[if_neg (by simpa using h),if_neg h];rfl
theorem lz{L:List m9}{l:m9}{a:BL}:L8 (L++[l]) a=L8 L a++(if l.ad=a then [l] else []):=by
 unfold L8
 rw[List.filter_append,List.filter_cons]
 by_cases h:l.ad=a
 rw[if_pos (by simpa using h),if_pos h];rfl
 rw[if_neg (by simpa using h),if_neg h];rfl
theorem tZ{L:List m9}{d:BL}{x:Int}(h:x∈cls L d):∃ q,q∈L/\av q.ad=d/\q.ti=x:=by
 unfold cls at h
 obtain⟨q,h1,h2⟩:=List.mem_map.1 h
 obtain⟨h3,h4⟩:=List.mem_filter.1 h1
 exact⟨q,h3,by simpa using h4,h2⟩
theorem HI.other{L:List m9}{se:List BL}{y:l6}{l:m9}(h:HI L se y)(hne:y.na≠av l.ad):HI (L++[l]) se y:=by
 have ec:cls (L++[l]) y.na=cls L y.na:=by rw[lK,if_neg (Ne.symm hne),List.append_nil]
 refine⟨h.hn,fun x hx=>?_,h.nd,h.gl,fun hk=>by rw[ec];exact h.un hk,fun hk=>by rw[ec];exact h.kn hk,fun q hq he=>?_,by rw[ec];exact h.wt⟩
 obtain⟨a1,a2,a3,a4,a5,a6⟩:=h.it x hx
 have hx:l.ad≠x.ad:=fun c=>hne (by rw[c,a2])
 refine⟨a1,a2,a3,a4,a5,fun hp=>⟨fun q hq he=>?_,?_⟩⟩
 rcases List.mem_append.1 hq with hq | hq
 exact(a6 hp).1 q hq he
 rw[List.mem_singleton.1 hq]at he;exact absurd he hx
 rw[lz,if_neg hx,List.append_nil];exact(a6 hp).2
 rcases List.mem_append.1 hq with hq | hq
 exact h.re q hq he
 rw[List.mem_singleton.1 hq]at he;exact absurd he.symm hne
theorem HI.more{L:List m9}{se Vy:List BL}{y:l6}(h:HI L se y)(hs:∀ s,s∈se->s∈Vy):HI L Vy y:=
 ⟨h.hn,fun x hx=>by obtain⟨a1,a2,a3,a4⟩:=h.it x hx;exact⟨a1,a2,hs _ a3,a4⟩,h.nd,h.gl,h.un,h.kn,h.re,h.wt⟩
theorem HI.core{L:List m9} {se:List BL} {y y':l6} {l:m9} (h:HI L se y) (hl:av l.ad=y.na) (Qs:y'.na=y.na) (hr:y.re<=l.ti) (r1:l.ti+1<=y'.re) (r3:l.ki=3->l.ti+3<=y'.re)
 (rw_:l.ti+(y'.gr.wa:Int)<=y'.re) (hw:y.kn=true->y'.gr.wa=y.gr.wa):
 (∀ q,q∈L++[l]->av q.ad=y'.na->q.ti+1<=y'.re/\(q.ki=3->q.ti+3<=y'.re)/\q.ti+(y'.gr.wa:Int)<=y'.re)/\
 (∀ k,k+1<(cls (L++[l]) y'.na).length->(cls (L++[l]) y'.na).getD k 0+1<=(cls (L++[l]) y'.na).getD (k+1) 0/\(3<=k->(cls (L++[l]) y'.na).getD k 0+(y'.gr.wa:Int)<=(cls (L++[l]) y'.na).getD (k+1) 0)):=by
 constructor
 intro q hq he
 rcases List.mem_append.1 hq with hq | hq
 have:=h.re q hq (by rw[he,Qs])
 exact⟨by omega,fun hk=>by have:=this.2.1 hk;omega,by omega⟩
 rw[List.mem_singleton.1 hq]
 exact⟨r1,r3,rw_⟩
 intro k hk
 have ec:cls (L++[l]) y'.na=cls L y.na++[l.ti]:=by rw[lK,if_pos (by rw[hl,Qs]),Qs]
 rw[ec]at hk ⊢
 rw[List.length_append,List.length_singleton]at hk
 have SH:y.kn=false->(cls L y.na).length<=2:=fun hk=>by have:=h.un hk;omega
 have e1:∀ j,j<(cls L y.na).length->(cls L y.na++[l.ti]).getD j 0=(cls L y.na).getD j 0:=fun j hj=>by
  rw[List.getD_eq_getElem?_getD,List.getElem?_append_left hj,<- List.getD_eq_getElem?_getD]
 rcases Nat.lt_or_ge (k+1) (cls L y.na).length with c | c
 rw[e1 k (by omega),e1 _ c]
 have:=h.wt k c
 refine⟨this.1,fun h3=>?_⟩
 cases hk:y.kn with
 | false=>have:=SH hk;omega
 | true=>rw[hw hk];exact this.2 h3
 have ek:k+1=(cls L y.na).length:=by omega
 have e2:(cls L y.na++[l.ti]).getD (k+1) 0=l.ti:=by
  rw[List.getD_eq_getElem?_getD,List.getElem?_append_right (by omega),ek,Nat.sub_self];rfl
 rw[e2,e1 k (by omega)]
 have hm:(cls L y.na).getD k 0∈cls L y.na:=by
  rw[List.getD_eq_getElem?_getD,List.getElem?_eq_getElem (by omega)];exact List.getElem_mem _
 obtain⟨q,q1,q2,q3⟩:=tZ hm
 have:=h.re q q1 q2
 rw[<- q3]
 refine⟨by omega,fun h3=>?_⟩
 cases hk:y.kn with
 | false=>have:=SH hk;omega
 | true=>rw[hw hk];omega
end Go.Pd
namespace Go.Pd
open Go.Abs Go.Proofs.YtlclejemchbjiaaGreatDoor
variable {w:List Pg} {n:BL}
theorem Gl(hs:List l6)(d n:BL):((bC hs d n).getD (A6 hs d) e9).na=d:=by
 unfold bC
 split
 rename_i h
 rw[List.getD_eq_getElem?_getD,List.getElem?_eq_getElem h]
 unfold A6 at h ⊢
 have:=List.findIdx_getElem (w:=h)
 simpa using this
 rename_i h
 have e:A6 hs d=hs.length:=by
  have:A6 hs d<=hs.length:=List.findIdx_le_length
  omega
 rw[e,List.getD_eq_getElem?_getD,List.getElem?_append_right (Nat.le_refl _),Nat.sub_self]
 rfl
theorem Gq{hs:List l6}{d n:BL}(h:(hs.map (·.na)).Nodup):((bC hs d n).map (·.na)).Nodup:=by
 unfold bC
 split
 exact h
 rename_i hc
 rw[List.map_append,List.nodup_append]
 refine⟨h,by simp,fun a ha b hb e=>hc ?_⟩
 subst e
 have hb:a=d:=by simpa[db] using hb
 subst hb
 obtain⟨y,hy,e⟩:=List.mem_map.1 ha
 exact List.findIdx_lt_length_of_exists ⟨y,hy,by simpa using e⟩
theorem Dw(y:l6)(s:BL):hp (fW y s)<=hp y+3:=by
 unfold fW
 split
 omega
 unfold hp
 simp only[zo]
 have:K9 [⟨s,0⟩]=3:=by simp[K9]
 omega
theorem xM(y:l6)(s:BL):(fW y s).na=y.na:=by unfold fW;split <;> rfl
theorem GI.JF{t:m5}{s:BL}(h:GI w n t):GI w n (aV t s):=by
 by_cases hr:eY t.se s
 case neg=>
  have e3:dZ t.se s=t.se:=if_neg hr
  have e4:bS t.na t.hs t.se s=t.hs:=if_neg hr
  have:aV t s=t:=by unfold aV;rw[e3,e4]
  rw[this];exact h
 have e3:(aV t s).se=t.se++[s]:=if_pos hr
 have e4:(aV t s).hs=(bC t.hs (av s) t.na).set (A6 t.hs (av s)) (fW ((bC t.hs (av s) t.na).getD (A6 t.hs (av s)) e9) s):=if_pos hr
 have hlt:=pX t.hs (av s) t.na
 have Qs:=Gl t.hs (av s) t.na
 have hnd:=Gq (d:=av s) (n:=t.na) h.nd
 have hno:∀ q,q∈t.lk->pathOf s≠fe->q.ad≠s:=fun q hq hp c=>by
  rcases (h.lh q hq).2 with e | e
  rw[c]at e;exact hp e
  rw[c]at e;exact hr.2.2 e
 have hin:∀ y,y∈bC t.hs (av s) t.na->HI t.lk t.se y:=fun y hy=>by
  unfold bC at hy
  split at hy
  exact h.hi y hy
  rename_i hc
  rcases List.mem_append.1 hy with hy | hy
  exact h.hi y hy
  rw[List.mem_singleton.1 hy]
  have hz:∀ q,q∈t.lk->av q.ad≠av s:=fun q hq c=>by
   obtain⟨z,z1,z2⟩:=(h.lh q hq).1
   exact hc (List.findIdx_lt_length_of_exists ⟨z,z1,by simp[z2,c]⟩)
  have ec:cls t.lk (av s)=[]:=by
   unfold cls
   rw[List.filter_eq_nil_iff.2 (fun q hq=>by simpa using hz q hq)];rfl
  refine⟨AZ hr.1,fun x hx=>by simp[db]at hx,by simp[db],by simp[db],fun _=>⟨by simp[db],by simp[db],rfl,rfl,?_⟩,fun c=>by simp[db]at c,fun q hq c=>absurd c (hz q hq),fun k hk=>?_⟩
  show ((cls t.lk (av s)).length:Int)=0
  rw[ec];rfl
  exfalso
  have hk:k+1<(cls t.lk (av s)).length:=hk
  rw[ec]at hk;simp at hk
 have LJ:∀ q,q∈t.se->q∈t.se++[s]:=fun q hq=>List.mem_append_left _ hq
 have KC:=hin _ (bK (d:=e9) hlt)
 generalize hy:(bC t.hs (av s) t.na).getD (A6 t.hs (av s)) e9=y at *
 have hH:HI t.lk (t.se++[s]) (fW y s):=by
  unfold fW
  split
  exact KC.more LJ
  have Pp:=KC.more LJ
  refine⟨Pp.hn,fun x hx=>?_,?_,Pp.gl,Pp.un,Pp.kn,Pp.re,Pp.wt⟩
  rcases List.mem_append.1 hx with hx | hx
  exact Pp.it x hx
  rw[List.mem_singleton.1 hx]
  refine⟨hr.1,Qs.symm,by simp,by simp,by simp,fun hp=>⟨fun q hq c=>absurd c (hno q hq hp),?_⟩⟩
  show ((L8 t.lk s).length:Int)=0
  unfold L8
  rw[List.filter_eq_nil_iff.2 (fun q hq=>by simpa using hno q hq hp)];rfl
  show ((y.td++[(⟨s,0⟩:w3)]).map (·.ad)).Nodup
  rw[List.map_append,List.nodup_append]
  refine⟨KC.nd,by simp,fun a ha b hb e=>?_⟩
  subst e
  have hb:a=s:=by simpa using hb
  subst hb
  obtain⟨x,hx,e⟩:=List.mem_map.1 ha
  exact hr.2.2 (by rw[<- e];exact(KC.it x hx).2.2.1)
 have LB:((bC t.hs (av s) t.na).map hp).sum<=(t.hs.map hp).sum+3*(((bC t.hs (av s) t.na).length:Int)-t.hs.length)/\(bC t.hs (av s) t.na).length<=t.hs.length+1:=by
  unfold bC
  split
  omega
  simp only[List.map_append,List.map_cons,List.map_nil,List.sum_append,List.sum_cons,List.sum_nil,List.length_append,List.length_singleton]
  have:hp (db (av s) t.na)=3:=by simp[hp,db,K9]
  omega
 refine⟨h.na,h.al,fun q hq=>?_,⟨?_,?_⟩,?_,fun z hz=>?_,fun q hq=>?_,?_,?_,h.no⟩
 rw[e3]at hq
 rcases List.mem_append.1 hq with hq | hq
 exact h.se q hq
 rw[List.mem_singleton.1 hq];exact hr.1
 rw[e3,List.nodup_append]
 refine⟨h.sn.1,by simp,fun a ha b hb e=>?_⟩
 subst e
 have hb:a=s:=by simpa using hb
 subst hb
 exact hr.2.2 ha
 rw[e3,List.length_append,List.length_singleton];have:=hr.2.1;omega
 rw[e4,oS hlt (by rw[xM,hy])]
 exact hnd
 rw[e4]at hz
 rw[e3]
 rcases xC hnd hlt hz with e | ⟨e,_⟩
 rw[e];exact hH
 exact(hin z e).more LJ
 obtain⟨⟨z,z1,z2⟩,z3⟩:=h.lh q hq
 refine⟨?_,by rw[e3];exact z3.imp_right (LJ _)⟩
 rw[e4]
 have hz:z∈bC t.hs (av s) t.na:=by
  unfold bC
  split
  exact z1
  exact List.mem_append_left _ z1
 by_cases c:z.na=y.na
 exact⟨fW y s,List.mem_set hlt _,by rw[xM,<- c];exact z2⟩
 obtain⟨j,hj,e⟩:=List.mem_iff_getElem.1 hz
 refine⟨z,?_,z2⟩
 have hne:A6 t.hs (av s)≠j:=by
  rintro rfl
  rw[List.getD_eq_getElem?_getD,List.getElem?_eq_getElem hj]at hy
  exact c (by rw[<- e,<- hy];rfl)
 refine List.mem_iff_getElem.2 ⟨j,by simpa using hj,?_⟩
 rw[List.getElem_set,if_neg hne];exact e
 rw[e3,e4,um hlt,hy,List.length_set,List.length_append,List.length_singleton]
 have:=Dw y s
 have:=h.po
 show (t.lk.length:Int)+_<=_
 omega
 rw[e3,e4,List.length_set,List.length_append,List.length_singleton]
 have:=h.hl
 omega
theorem GI.EW{l:List BL}:∀ {t:m5},GI w n t->GI w n (l.foldl aV t):=by
 induction l with
 | nil=>exact fun h=>h
 | cons a l ih=>exact fun h=>ih h.JF
theorem GI.zero:GI w n (bB n):=⟨rfl,fun k hk=>by simp[bB]at hk,fun s hs=>by simp[bB]at hs,by simp[bB],by simp[bB],fun y hy=>by simp[bB]at hy,fun q hq=>by simp[bB]at hq,by simp[bB],by simp[bB],by simp[bB]⟩
theorem GI.call{t:m5} {i:Nat} {y':l6} {l:m9} {a8:Int} (h:GI w n t) (hi:i<t.hs.length) (hl:av l.ad=(t.hs.getD i e9).na) (q:QL w t.lk l) (Qs:y'.na=(t.hs.getD i e9).na) (hH:HI (t.lk++[l]) t.se y')
 (ho:pathOf l.ad=fe\/l.ad∈t.se) (hp1:hp y'+1<=hp (t.hs.getD i e9)) (UJ:0<=a8):GI w n ⟨t.na,a8,t.hs.set i y',t.se,t.lk++[l]⟩:=by
 refine⟨h.na,h.al.snoc q,h.se,h.sn,?_,fun z hz=>?_,fun z hz=>?_,?_,by simpa using h.hl,UJ⟩
 show ((t.hs.set i y').map (·.na)).Nodup
 rw[oS hi Qs];exact h.nd
 rcases xC h.nd hi hz with e | ⟨e,e2⟩
 rw[e];exact hH
 exact(h.hi z e).other (by rw[hl];exact e2)
 show (∃ y,y∈t.hs.set i y'/\y.na=av z.ad)/\_
 have key:∀ d,(∃ y,y∈t.hs/\y.na=d)->∃ y,y∈t.hs.set i y'/\y.na=d:=fun d ⟨y,y1,y2⟩=>by
  have:d∈(t.hs.set i y').map (·.na):=by
   rw[oS hi Qs];exact List.mem_map.2 ⟨y,y1,y2⟩
  obtain⟨y,y1,y2⟩:=List.mem_map.1 this
  exact⟨y,y1,y2⟩
 rcases List.mem_append.1 hz with hz | hz
 exact⟨key _ (h.lh z hz).1,(h.lh z hz).2⟩
 rw[List.mem_singleton.1 hz]
 exact⟨key _ ⟨_,bK (d:=e9) hi,hl.symm⟩,ho⟩
 show ((t.lk++[l]).length:Int)+((t.hs.set i y').map hp).sum<=3*((t.se.length:Int)+(t.hs.set i y').length)
 rw[um hi,List.length_set,List.length_append,List.length_singleton]
 have:=h.po
 omega
theorem Dg{k:Int}(h:0<=k/\k<=2):2<=cP (k+1):=by
 unfold cP
 split
 omega
 split
 omega
 split <;> omega
theorem wZ{y:l6}{a8 k m:Int}(hm:0<=m/\m<=2):a8+1<=(eL y a8 k m).re/\(k=3->a8+3<=(eL y a8 k m).re)/\a8+(y.gr.wa:Int)<=(eL y a8 k m).re:=by
 have:=Dg hm
 unfold eL
 simp only
 split
 exact⟨by omega,fun _=>by omega,by omega⟩
 rename_i c;exact⟨by omega,fun h=>absurd h c,by omega⟩
theorem Ia{t:m5}{i:Nat}(h:GI w n t)(hi:i<t.hs.length)(hk:(t.hs.getD i e9).kn=false)(hr:(t.hs.getD i e9).re<=t.a8)(KP:0<=t.a8/\t.a8<=5000):GI w n (Sv w t i):=by
 have hy:=h.hi _ (bK (d:=e9) hi)
 unfold Sv
 generalize KC:t.hs.getD i e9=y at *
 have Tb:=zV hy.hn
 have TU:=BZ hy.hn
 obtain⟨u1,u2,u3,u4,u5⟩:=hy.un hk
 have NP:=wZ (y:=y) (a8:=t.a8) (k:=(ab w (ae y.na) y.tr).1) (m:=y.tr) ⟨u1,u2⟩
 have hq:QL w t.lk ⟨t.a8,ae y.na,(ab w (ae y.na) y.tr).1⟩:=by
  refine⟨fun c=>absurd TU c,fun _=>TU,fun q hq he h3=>?_,⟨_,rfl⟩,Ef hy.hn,KP⟩
  have:=(hy.re q hq (by rw[he];exact Tb)).2.1 h3
  show q.ti+3<=t.a8
  omega
 have hit:∀ x,x∈y.td->pathOf x.ad≠fe->ae y.na≠x.ad:=fun x _ hp c=>hp (by rw[<- c];exact TU)
 have Tg:∀ x,x∈y.td->aI x.ad=true/\av x.ad=y.na/\x.ad∈t.se/\0<=x.tr/\x.tr<=2/\(pathOf x.ad≠fe->(∀ q,q∈t.lk++[⟨t.a8,ae y.na,(ab w (ae y.na) y.tr).1⟩]->q.ad=x.ad->q.ki=3)/\((L8 (t.lk++[⟨t.a8,ae y.na,(ab w (ae y.na) y.tr).1⟩]) x.ad).length:Int)=x.tr):=fun x hx=>by
  obtain⟨a1,a2,a3,a4,a5,a6⟩:=hy.it x hx
  refine⟨a1,a2,a3,a4,a5,fun hp=>⟨fun q hq he=>?_,?_⟩⟩
  rcases List.mem_append.1 hq with hq | hq
  exact(a6 hp).1 q hq he
  rw[List.mem_singleton.1 hq]at he;exact absurd he (hit x hx hp)
  rw[lz,if_neg (hit x hx hp),List.append_nil];exact(a6 hp).2
 have hcl:cls (t.lk++[⟨t.a8,ae y.na,(ab w (ae y.na) y.tr).1⟩]) y.na=cls t.lk y.na++[t.a8]:=by rw[lK,if_pos Tb]
 refine h.call hi (by rw[KC];exact Tb) hq ?_ ?_ (.inl TU) ?_ KP.1
 rw[KC];unfold Oc;split <;> rfl
 unfold Oc
 split
 rename_i hc
 obtain⟨k1,k2⟩:=hy.core (y':={ o6 w y t.a8 with tr:=y.tr+1 }) (l:=⟨t.a8,ae y.na,(ab w (ae y.na) y.tr).1⟩) Tb rfl hr NP.1 NP.2.1 NP.2.2 (fun c=>by rw[hk]at c;cases c)
 refine⟨hy.hn,Tg,hy.nd,hy.gl,fun _=>⟨by show 0<=y.tr+1;omega,by show y.tr+1<=2;omega,u3,u4,?_⟩,fun c=>?_,k1,k2⟩
 show ((cls _ y.na).length:Int)=y.tr+1
 rw[hcl,List.length_append,List.length_singleton];omega
 have c:y.kn=true:=c
 rw[hk]at c;cases c
 have VX:(o6 w y t.a8).re=(eL y t.a8 (ab w (ae y.na) y.tr).1 y.tr).re:=rfl
 obtain⟨k1,k2⟩:=hy.core (y':={ o6 w y t.a8 with kn:=true,gr:=cM w t.na y.na,re:=max (o6 w y t.a8).re (t.a8+((cM w t.na y.na).wa:Int)),td:=y.td.filter (LO (cM w t.na y.na).ru) }) (l:=⟨t.a8,ae y.na,(ab w (ae y.na) y.tr).1⟩) Tb rfl hr
  (by show t.a8+1<=max (o6 w y t.a8).re (t.a8+((cM w t.na y.na).wa:Int));rw[VX];have:=NP.1;omega)
  (fun h3=>by show t.a8+3<=max (o6 w y t.a8).re (t.a8+((cM w t.na y.na).wa:Int));rw[VX];have:=NP.2.1 h3;omega)
  (by show t.a8+((cM w t.na y.na).wa:Int)<=max (o6 w y t.a8).re (t.a8+((cM w t.na y.na).wa:Int));omega) (fun c=>by rw[hk]at c;cases c)
 refine⟨hy.hn,fun x hx=>Tg x (List.mem_filter.1 hx).1,List.Nodup.sublist (List.filter_sublist.map _) hy.nd,Nat.le_refl 1,(fun c=>by cases c),fun _=>?_,k1,k2⟩
 show cls _ y.na≠[]
 rw[hcl];simp
 rw[KC]
 unfold Oc
 split
 show (if y.kn=true then 0 else 3-(y.tr+1))+K9 y.td+1<=hp y
 unfold hp
 rw[hk]
 simp only[Bool.false_eq_true,if_false];omega
 show (if true=true then 0 else _)+K9 (y.td.filter _)+1<=hp y
 have:=Aq (LO (cM w t.na y.na).ru) (l:=y.td) fun x hx=>(hy.it x hx).2.2.2.2.1
 unfold hp
 rw[hk]
 simp only[Bool.false_eq_true,if_false,if_true];omega
theorem IJ{t:m5}{i:Nat}(h:GI w n t)(hi:i<t.hs.length)(hk:(t.hs.getD i e9).kn=true)(hne:(t.hs.getD i e9).td≠[])(hr:(t.hs.getD i e9).re<=t.a8)(KP:0<=t.a8/\t.a8<=5000):GI w n (Lw w t i):=by
 have hy:=h.hi _ (bK (d:=e9) hi)
 unfold Lw
 simp only
 generalize KC:t.hs.getD i e9=y at *
 have I':=List.length_pos_iff.2 hne
 have hit:=hy.it _ (bK (d:=k9) I')
 have VS:=Cg hne
 have NB:(y.td.getD 0 k9).ad ∉ (y.td.drop 1).map (·.ad)/\((y.td.drop 1).map (·.ad)).Nodup:=by
  have:=hy.nd
  cases SK:y.td with
  | nil=>exact absurd SK hne
  | cons a r=>rw[SK]at this;simpa using List.nodup_cons.1 this
 generalize TB:y.td.getD 0 k9=x0 at *
 obtain⟨a1,a2,a3,a4,a5,a6⟩:=hit
 have NP:=wZ (y:={ y with td:=y.td.drop 1 }) (a8:=t.a8) (k:=(ab w x0.ad x0.tr).1) (m:=x0.tr) ⟨a4,a5⟩
 have hq:QL w t.lk ⟨t.a8,x0.ad,(ab w x0.ad x0.tr).1⟩:=by
  refine⟨fun c=>⟨(a6 c).1,by have:=(a6 c).2;show (L8 t.lk x0.ad).length<3;omega⟩,fun hc=>?_,fun q hq he h3=>?_,⟨_,rfl⟩,a1,KP⟩
  exfalso
  have:=hy.kn hk
  obtain⟨z,hz⟩:=List.exists_mem_of_ne_nil _ this
  obtain⟨q,q1,q2,_⟩:=tZ hz
  exact hc q q1 (by rw[q2];exact a2.symm)
  have:=(hy.re q hq (by rw[he];exact a2)).2.1 h3
  show q.ti+3<=t.a8
  omega
 have hcl:cls (t.lk++[⟨t.a8,x0.ad,(ab w x0.ad x0.tr).1⟩]) y.na=cls t.lk y.na++[t.a8]:=by rw[lK,if_pos a2]
 have Tg:∀ x,x∈y.td.drop 1->aI x.ad=true/\av x.ad=y.na/\x.ad∈t.se/\0<=x.tr/\x.tr<=2/\(pathOf x.ad≠fe->(∀ q,q∈t.lk++[⟨t.a8,x0.ad,(ab w x0.ad x0.tr).1⟩]->q.ad=x.ad->q.ki=3)/\((L8 (t.lk++[⟨t.a8,x0.ad,(ab w x0.ad x0.tr).1⟩]) x.ad).length:Int)=x.tr):=fun x hx=>by
  have SC:x0.ad≠x.ad:=fun c=>NB.1 (by rw[c];exact List.mem_map.2 ⟨x,hx,rfl⟩)
  obtain⟨b1,b2,b3,b4,b5,b6⟩:=hy.it x (List.mem_of_mem_drop hx)
  refine⟨b1,b2,b3,b4,b5,fun hp=>⟨fun q hq he=>?_,?_⟩⟩
  rcases List.mem_append.1 hq with hq | hq
  exact(b6 hp).1 q hq he
  rw[List.mem_singleton.1 hq]at he;exact absurd he SC
  rw[lz,if_neg SC,List.append_nil];exact(b6 hp).2
 have SH:∀ {P:Prop},(y.kn=false->P):=fun c=>by rw[hk]at c;cases c
 have TK:cls (t.lk++[⟨t.a8,x0.ad,(ab w x0.ad x0.tr).1⟩]) y.na≠[]:=by rw[hcl];simp
 have c1:GI w n ⟨t.na,t.a8,t.hs.set i (E2 w y t.a8),t.se,t.lk++[⟨t.a8,x0.ad,(ab w x0.ad x0.tr).1⟩]⟩:=by
  have U3:E2 w y t.a8=eL { y with td:=y.td.drop 1 } t.a8 (ab w x0.ad x0.tr).1 x0.tr:=by unfold E2;rw[TB]
  rw[U3]
  obtain⟨k1,k2⟩:=hy.core (y':=eL { y with td:=y.td.drop 1 } t.a8 (ab w x0.ad x0.tr).1 x0.tr) (l:=⟨t.a8,x0.ad,(ab w x0.ad x0.tr).1⟩) a2 rfl hr NP.1 NP.2.1 NP.2.2 (fun _=>rfl)
  refine h.call hi (by rw[KC];exact a2) hq (by rw[KC];rfl) ⟨hy.hn,Tg,NB.2,hy.gl,SH,fun _=>TK,k1,k2⟩ (.inr a3) ?_ KP.1
  rw[KC]
  show (if y.kn=true then 0 else 3-y.tr)+K9 (y.td.drop 1)+1<=hp y
  unfold hp
  omega
 split
 rename_i hc
 have U3:({ E2 w y t.a8 with td:=y.td.drop 1++[⟨x0.ad,x0.tr+1⟩] }:l6)={ eL { y with td:=y.td.drop 1 } t.a8 (ab w x0.ad x0.tr).1 x0.tr with td:=y.td.drop 1++[⟨x0.ad,x0.tr+1⟩] }:=by unfold E2;rw[TB]
 rw[U3]
 obtain⟨k1,k2⟩:=hy.core (y':={ eL { y with td:=y.td.drop 1 } t.a8 (ab w x0.ad x0.tr).1 x0.tr with td:=y.td.drop 1++[⟨x0.ad,x0.tr+1⟩] }) (l:=⟨t.a8,x0.ad,(ab w x0.ad x0.tr).1⟩) a2 rfl hr NP.1 NP.2.1 NP.2.2 (fun _=>rfl)
 refine h.call hi (by rw[KC];exact a2) hq (by rw[KC];rfl) ⟨hy.hn,fun x hx=>?_,?_,hy.gl,SH,fun _=>TK,k1,k2⟩ (.inr a3) ?_ KP.1
 rcases List.mem_append.1 hx with hx | hx
 exact Tg x hx
 rw[List.mem_singleton.1 hx]
 refine⟨a1,a2,a3,by show 0<=x0.tr+1;omega,by show x0.tr+1<=2;omega,fun hp=>⟨fun q hq he=>?_,?_⟩⟩
 rcases List.mem_append.1 hq with hq | hq
 exact(a6 hp).1 q hq he
 rw[List.mem_singleton.1 hq];exact hc.1
 show ((L8 _ x0.ad).length:Int)=x0.tr+1
 rw[lz,if_pos rfl,List.length_append,List.length_singleton]
 have:=(a6 hp).2
 omega
 show ((y.td.drop 1++[(⟨x0.ad,x0.tr+1⟩:w3)]).map (·.ad)).Nodup
 rw[List.map_append,List.nodup_append]
 refine⟨NB.2,by simp,fun a ha b hb e=>?_⟩
 subst e
 have hb:a=x0.ad:=by simpa using hb
 subst hb
 exact NB.1 ha
 rw[KC]
 show (if y.kn=true then 0 else 3-y.tr)+K9 (y.td.drop 1++[⟨x0.ad,x0.tr+1⟩])+1<=hp y
 have:K9 [⟨x0.ad,x0.tr+1⟩]=3-(x0.tr+1):=by simp[K9]
 unfold hp
 rw[zo]
 omega
 exact c1.EW
theorem EH(t:m5):∀ i,i<=t.hs.length->(I9 t i=(-1,0))\/∃ j:Nat,(I9 t i).1=(j:Int)/\(I9 t i).2=max (t.hs.getD j e9).re t.a8
 | 0,_=>.inl rfl
 | i+1,hi=>by
   rw[oj (by omega)]
   unfold nF
   split
   exact .inr ⟨i,rfl,rfl⟩
   exact EH t i (by omega)
theorem Jg{t:m5}(h:LF t=true):(t.hs.getD (C8 t) e9).re<=J2 t:=by
 unfold LF at h
 rw[Bool.and_eq_true]at h
 have h1:=h.1
 unfold C8 J2
 unfold iG at h1 ⊢
 split at h1
 cases h1
 rename_i c
 rw[if_neg c]
 rcases EH t _ (Nat.le_refl _) with e | ⟨j,e1,e2⟩
 rw[e]at c;exact absurd (.inl (by decide)) c
 simp only[Option.map_some,Option.getD_some,e1,e2,Int.toNat_natCast]
 omega
theorem GI.at_{t:m5}{a8:Int}(h:GI w n t)(hn:0<=a8):GI w n { t with a8:=a8 }:=⟨h.na,h.al,h.se,h.sn,h.nd,h.hi,h.lh,h.po,h.hl,hn⟩
theorem Ie{t:m5}(h:GI w n t)(hg:LF t=true):GI w n (D' w t):=by
 have hx:=AN hg
 have hr:=Jg hg
 have hno:=h.no
 have hw:0<=J2 t/\J2 t<=5000:=⟨by omega,hx.2.2.2⟩
 unfold D'
 split
 rename_i hk
 exact IJ (h.at_ hw.1) hx.1 hk hx.2.1 hr hw
 rename_i hk
 exact Ia (h.at_ hw.1) hx.1 (by simpa using hk) hr hw
theorem lM:∀ (k:Nat) {t:m5},GI w n t->GI w n (F9 w k t)
 | 0,_,h=>h
 | k+1,t,h=>by
   unfold F9
   split
   rename_i hg;exact lM k (Ie h hg)
   exact h
theorem lN{j6:List BL}{t:m5}(h:ao n j6=some t):GI w n t:=by
 unfold ao at h
 split at h
 cases h;exact GI.zero.EW
 cases h
theorem fk{j6:List BL}{t:m5}(h:ao n j6=some t):bG t=true:=by
 have hg:=lN (w:=[]) h
 unfold ao at h
 split at h
 case isFalse=>cases h
 rename_i hc
 have hn:=jX n j6 (kD n)
 rw[Option.some.inj h]at hn
 have hI:∀ {a b c:Int},a<=b->b<=c->C3 b a c=true:=fun h1 h2=>decide_eq_true ⟨h1,h2⟩
 unfold bG
 simp only[Bool.and_eq_true,List.all_eq_true,decide_eq_true_eq]
 refine⟨⟨⟨⟨⟨by rw[hn.na];exact hc.1,by rw[hn.a8];decide⟩,?_⟩,by rw[hn.lk];rfl⟩,fun y hy=>⟨?_,?_⟩⟩,hg.nd⟩
 unfold cQ
 simp only[Bool.and_eq_true,List.all_eq_true,decide_eq_true_eq]
 exact⟨⟨hg.sn.2,hg.sn.1⟩,hg.se⟩
 obtain⟨b1,b2,_,b4,b5⟩:=hn.hs y hy
 unfold dm
 rw[b1,b2,b4,b5,hn.na]
 simp only[Bool.and_eq_true,Bool.false_eq_true,if_false,decide_eq_true_eq]
 exact⟨⟨⟨⟨(hg.hi y hy).hn,by decide⟩,by decide⟩,by simp⟩,by simp⟩
 have hI:=hg.hi y hy
 unfold cW
 simp only[Bool.and_eq_true,List.all_eq_true,decide_eq_true_eq]
 refine⟨⟨?_,fun x hx=>?_⟩,hI.nd⟩
 have:=mD (u:=t.se) hI.nd fun a ha=>by
  obtain⟨x,hx,e⟩:=List.mem_map.1 ha
  rw[<- e];exact(hI.it x hx).2.2.1
 simpa using this
 obtain⟨a1,a2,a3,a4,a5,_⟩:=hI.it x hx
 exact⟨⟨⟨a1,by simpa using a2⟩,by simpa using a3⟩,decide_eq_true ⟨a4,a5⟩⟩
end Go.Pd
namespace Go.Proofs.YtlclejemchbjiaaGreatDoor
open Go Go.Abs Go.RowKit Go.Pd
set_option maxRecDepth 20000
def bZ(w:List Pg)(n:BL)(j6:List BL):r5 Tryz.prog:=.mk 11 [bN w,sV n,ax j6] [] ((w.length<=30)/\(∀ i,n0 (w.getD i l4))/\(n.length<=1000)/\(j6.length<=400)/\(∀ x,x∈j6->x.length<=1000/\m6 x)) (bV ((ao n j6).isSome&&aq w)) [] (by
 rintro⟨hw,hz,hn,hl,ha⟩
 refine aw (N:=20) (rs:=[.tmp 6]) Tryz.func11
  (.q 1<|.q 2<|.c (sJ n j6) []<|.mv<|.mv<|.q 1<|.al eN (fun g7=>.st none<|.q 1<|.q 3<|.cg (uM w)<|.q 2<|.nil))
  ((sJ n j6).sm/\((n.length<=1000)/\(j6.length<=1000)/\(∀ x,x∈j6->x.length<=1000/\m6 x))/\∀ g7:Nat,Z g7 0/\Gd (((ao n j6).isSome)==true) (((w.length<=1000)/\(∀ i,(w.getD i l4).addr.length<=1000000/\(w.getD i l4).lead.length<=1000000))/\(uM w).sm)/\Pk ((ao n j6).isSome) (((ao n j6).isSome)==true) true/\Q (bV (((ao n j6).isSome)&&(aq w))) (bV ((ao n j6).isSome&&aq w))) ?_
 refine⟨rfl,⟨hn,by omega,ha⟩,?_⟩
 intro g7
 refine⟨rfl,fun hG=>⟨⟨by(try simp only[nb]at hG);omega,fun i=>⟨by have:=(hz i).a;omega,by have:=(hz i).l;omega⟩⟩,rfl⟩,⟨fun h=>by rw[h] <;> rfl,fun _=>rfl⟩,?_⟩
 unfold Q
 rfl)
end Go.Proofs.YtlclejemchbjiaaGreatDoor
namespace Go.Abs
open Go Go.ChangeShapes Go.RowKit
theorem jJ{H:Type} {enc:TypeId×Value->H} {P:Program} {t e:TypeId} (ht:P.underlying t=some (.slice e)) (he:P.underlying e=some (.int .u8)) (hc:P.cellsOf e=1) {W:World} {a0:Option Addr} {len cap:Nat} {d0:DataW H} {p:List MemPlace}
 (h0:DataW.Trod enc P W 0 (fun _=>true) true t (.slice a0 len cap) d0 p):∃ b:BL,b.length=len/\len<=9223372036854775807/\RVs W (· < W.heap.size) [.sl false (b.map n7)] [.slice a0 len cap] []:=by
 have mk:∀ (b:BL),b.length=len->len<=cap->(b=[]\/∃ g o,a0=some ⟨g,o,none⟩/\g<W.heap.size/\∀ j u,(b.map fun c=>Value.int .u8 c.toNat)[j]? =some u->W.cell? ⟨g,o+j,none⟩=some u)->RVs W (· < W.heap.size) [.sl false (b.map n7)] [.slice a0 len cap] []:=by
  intro b hb hl hx
  refine⟨_,[],[],[],rfl,rfl,?_,rfl,rfl⟩
  refine⟨rfl,a0,cap,by rw[List.length_map,hb],by rw[List.length_map,hb];exact hl,(fun h=>by cases h),?_⟩
  rcases hx with rfl | ⟨g,o,rfl,hg,s3⟩
  exact .inl rfl
  refine .inr ⟨g,o,1,b.map (fun c=>Value.int .u8 c.toNat),rfl,hg,by omega,?_,?_,s3⟩
  intro x hx
  obtain⟨c,_,rfl⟩:=List.mem_map.1 hx
  rfl
  clear s3 hb
  induction b with
  | nil=>exact⟨rfl,rfl⟩
  | cons c r ih=>exact⟨[.int .u8 c.toNat],r.map (fun c=>Value.int .u8 c.toNat),[],[],rfl,rfl,⟨rfl,rfl,rfl⟩,ih⟩
 obtain⟨fuel,hf⟩:=h0
 rcases open_ints ht he hc hf with ⟨hcs,hx⟩ | ⟨a,len',cap',zs,hcs,_,hl,hm,hz,hx,s3,hwz⟩
 simp[Value.cells]at hcs
 obtain⟨rfl,rfl,rfl⟩:=hcs
 exact⟨[],rfl,by omega,mk [] rfl (Nat.le_refl _) (.inl rfl)⟩
 simp[Value.cells]at hcs
 obtain⟨rfl,rfl,rfl⟩:=hcs
 simp only[if_true]at hz
 have Pv:maxLen=9223372036854775807:=rfl
 have hb:((zs.take len).map fun z=>UInt8.ofNat z.toNat).length=len:=by simp;omega
 refine⟨(zs.take len).map fun z=>UInt8.ofNat z.toNat,hb,by omega,mk _ hb hl ?_⟩
 by_cases h0:len=0
 left;exact List.eq_nil_of_length_eq_zero (by omega)
 right
 obtain⟨g,o,s⟩:=a
 have MR:=s3 0 (by omega)
 obtain rfl:s=none:=by simpa[Addr.add] using World.cell?_spot MR
 refine⟨g,o,rfl,by have:=World.block_lt_of_cell? _ _ MR;simpa[Addr.add] using this,fun j u hu=>?_⟩
 rw[List.getElem?_map,List.getElem?_map,List.getElem?_take]at hu
 split at hu
 rename_i hj
 have TN:j<zs.length:=by omega
 rw[List.getElem?_eq_getElem TN]at hu
 simp only[Option.map_some,Option.some.injEq]at hu
 have hw:=hwz zs[j] (List.getElem_mem TN)
 have U9:0<=zs[j]/\zs[j]<256:=by
  have h1:IntKind.u8.min=0:=rfl
  have h2:IntKind.u8.max=255:=rfl
  simp only[Lit.wf,Bool.and_eq_true,decide_eq_true_eq]at hw
  omega
 have V7:=s3 j TN
 have ea:(⟨g,o,none⟩:Addr).add j=⟨g,o+j,none⟩:=by unfold Addr.add;by_cases h0:j=0 <;> simp[h0]
 rw[ea]at V7
 rw[V7,<- hu]
 simp only[List.getD_eq_getElem?_getD,List.getElem?_eq_getElem TN,Option.getD_some,Option.some.injEq,Value.int.injEq,true_and]
 rw[UInt8.toNat_ofNat_of_lt' (by show zs[j].toNat<256;omega)]
 omega
 simp at hu
theorem il{P:Program}{n:String}{d:DataW Unit}{r:List (String×DataW Unit)}{W:World}{g:Nat}{x:Value}(h:laidMet P ((n,d)::r) W)(hg:P.globalNamed n=some g)(hv:W.var? P n=some #[x]):∃ t,W.heap[g]? =some (.cells #[x] t (0,0)):=by
 obtain⟨ps,⟨g0,t0,Wi,f0,p0,q0,U0,_,hv0,_,_,e0⟩,_,SR⟩:=h
 obtain rfl:=Option.some.inj (hg.symm.trans U0)
 obtain rfl:=Option.some.inj (hv.symm.trans hv0)
 subst e0
 obtain⟨c,t,hc⟩:=(SR g 0 (by simp[MemPlace.row])).1
 refine⟨t,?_⟩
 unfold World.var? at hv
 rw[hg,Option.bind_some,hc]at hv
 rw[hc]
 simpa using hv
theorem vn{w:World}{Pb Pb':Nat->Prop}:∀ {b:BL} {cs:List Value},RL w Pb (b.map n7) cs []->RL w Pb' (b.map n7) cs []/\∀ c r,b=c::r->∃ k,cs[0]? =some (.int .u8 k)
 | [],cs,h=>⟨h,fun c r e=>by cases e⟩
 | c::b,cs,h=>by
   obtain⟨c1,c2,F1,F2,rfl,e,h1,h2⟩:=h
   obtain⟨rfl,rfl⟩:=List.append_eq_nil_iff.1 e.symm
   obtain⟨k1,k2,_⟩:=h1
   subst k2
   exact⟨⟨_,c2,[],[],rfl,rfl,⟨k1,rfl,rfl⟩,(vn h2).1⟩,fun c r e=>⟨_,rfl⟩⟩
theorem ic{P:Program} {f:FuncId} {T:TypeId}
 (h:∀ (b:BL) (ea:Addr),b.length<=9223372036854775807->PF P f [.sl false (b.map n7)] [(9000,(0,.lit (.iface T (.pointer (some ea)))))] (fun r h=>r=bV true/\h=[(9000,(0,.lit (.iface T (.pointer (some ea)))))]))
 {W:World} {v:Value} {b:BL} {ea:Addr} {t:TypeId} (hb:b.length<=9223372036854775807) (hv:RVs W (· < W.heap.size) [.sl false (b.map n7)] [v] []) (h0:W.heap[0]? =some (.cells #[.iface T (.pointer (some ea))] t (0,0))):
 Calls P f #[v] W fun e W'=>e=.returned (.bool true)/\Below W.heap.size W W':=by
 have e9:0<W.heap.size:=(Array.getElem?_eq_some_iff.1 h0).1
 let F:l9->List Nat:=fun r=>match r with
  | .key k=>if k=9000 then [0] else []
  | .slot _=>[]
 have hi:T6 W (fun g=>g<W.heap.size/\g≠0) (fun g=>g<W.heap.size/\g≠0) [.sl false (b.map n7)] [v] [(9000,(0,.lit (.iface T (.pointer (some ea)))))] F:=by
  have hF:∀ r g,g∈F r->r=.key 9000/\g=0:=fun r g hg=>by
   cases r with
   | slot i=>simp[F]at hg
   | key k=>
     simp only[F]at hg
     split at hg
     rename_i e;exact⟨by rw[e],by simpa using hg⟩
     simp at hg
  refine⟨rfl,fun i w x hx hy=>?_,fun k g w hk=>?_,fun i hi=>rfl,fun r r' hne g h1 h2=>?_,fun r=>?_,fun r g hg=>?_,fun _ h=>h,fun _ h=>h.1⟩
  cases i with
  | succ i=>simp at hx
  | zero=>
    simp only[List.getElem?_cons_zero,Option.some.injEq]at hx hy
    subst hx hy
    obtain⟨x,xs,Fa,Fb,e1,e2,k1,k2⟩:=(sO _).1 hv
    simp only[List.cons.injEq]at e1
    obtain⟨rfl,rfl⟩:=e1
    have e3:Fa=[]:=(List.append_eq_nil_iff.1 e2.symm).1
    subst e3
    have k1:R W (· < W.heap.size) (.sl false (b.map n7)) [v] []:=k1
    show R W _ (.sl false (b.map n7)) [v] []
    obtain⟨_,A,c,hA,hl,hf,hx⟩:=k1
    refine⟨rfl,A,c,hA,hl,hf,?_⟩
    rcases hx with hx | ⟨bl,o,sz,flat,q1,q2,q3,q4,q5,q6⟩
    exact .inl hx
    obtain⟨r1,r2⟩:=vn (Pb':=fun g=>g<W.heap.size/\g≠0) q5
    cases Te:b with
    | nil=>exact .inl rfl
    | cons c0 b0=>
      obtain⟨k,hk⟩:=r2 c0 b0 Te
      refine .inr ⟨bl,o,sz,flat,q1,⟨q2,?_⟩,q3,by rw[<- Te];exact q4,by rw[<- Te];exact r1,q6⟩
      rintro rfl
      have:=q6 0 _ hk
      rw[Nat.add_zero]at this
      simp only[World.cell?,h0]at this
      cases o with
      | zero=>simp at this
      | succ o=>simp at this
  simp only[lk]at hk
  split at hk
  rename_i e
  subst e
  simp only[Option.some.injEq,Prod.mk.injEq]at hk
  obtain⟨rfl,rfl⟩:=hk
  refine⟨[],by simp[F],[.iface T (.pointer (some ea))],#[.iface T (.pointer (some ea))],⟨t,(0,0),h0,fun i _ h=>by omega⟩,⟨rfl,rfl,rfl⟩,fun j u hu=>?_⟩
  cases j with
  | zero=>simpa using hu
  | succ j=>simp at hu
  cases hk
  exact hne ((hF r g h1).1.trans (hF r' g h2).1.symm)
  cases r with
  | slot i=>exact List.nodup_nil
  | key k=>simp only[F];split <;> simp
  obtain⟨_,rfl⟩:=hF r g hg
  exact⟨fun c=>c.2 rfl,e9⟩
 refine((h b ea hb).2 W _ _ [v] F hi).mono ?_
 rintro e W' ⟨r,x,H',Pb',C5,F',rfl,⟨rfl,rfl⟩,hf⟩
 have D7:=hf.val
 obtain⟨_,e1,_⟩:=D7
 simp only[List.cons.injEq,and_true]at e1
 refine⟨by rw[e1],hf.dT.os,hf.dT.tape,hf.dT.output,hf.dT.size,fun k hk=>?_⟩
 by_cases No:k=0
 subst No
 obtain⟨c',k1,k2⟩:=hf.dT.shape 0 _ _ _ h0
 obtain⟨F1,_,cs,cells,⟨e',T3,k3,_⟩,⟨_,k4,_⟩,k5⟩:=hf.root 9000 0 (.lit (.iface T (.pointer (some ea)))) rfl
 subst k4
 rw[k1]at k3
 simp only[Option.some.injEq,Obj.cells.injEq]at k3
 obtain⟨rfl,_,_⟩:=k3
 have k6:=k5 0 _ rfl
 rw[h0,k1]
 congr 1
 congr 1
 apply Array.ext
 simpa using k2
 intro i h1 h2
 have hi:i=0:=by simp at h2;exact h2
 subst hi
 have:c'[0]? =some (Value.iface T (.pointer (some ea))):=by simpa using k6
 rw[Array.getElem?_eq_getElem h1]at this
 simpa using this
 exact hf.dT.block k ⟨hk,No⟩
end Go.Abs
