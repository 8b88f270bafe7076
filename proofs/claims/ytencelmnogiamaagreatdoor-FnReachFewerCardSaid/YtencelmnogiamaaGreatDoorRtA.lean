/-
  Words and walks for the laws of pedlar's seat: what each function of the program computes, and that it does; no conditions beyond those that each statement names.
-/
import Derived.Calls
import Derived.Below
import Derived.LoopN
import Derived.Tactics
import Derived.Laws.Sem
import Derived.IntWalk
import Derived.Laws.Cells
import Derived.Orders
import Derived.KernelRfl
import Derived.Lib.Strings
import Derived.Great.BuildSlice
import Derived.Laws.Append
set_option linter.unusedVariables false
set_option linter.unusedSimpArgs false
set_option linter.unnecessarySimpa false
set_option linter.unusedSectionVars false
namespace Go.Abs
open Go
inductive Root where
 | slot (i:Nat)
 | key (k:Nat)
deriving DecidableEq
inductive V where
 | lit (x:Value)
 | agg (vs:List V)
 | tup (vs:List V)
 | sl (full:Bool) (xs:List V)
 | own (sz:Nat) (xs:List V) (g o c:Nat)
 | ow (sz:Nat) (xs:List V)
 | om (es:List (List UInt8×Value)) (g:Nat)
 | mp (es:List (List UInt8×Value))
 | hd (r:Root) (p:List Nat) (sz g o lo n c:Nat)
 | ptr (r:Root) (p:List Nat) (g o:Nat)
 | ep (v:V)
 | dead
 | gv (b:Bool) (v:V)
mutual
def V.n:V→Nat
 | .agg vs=>V.ns vs
 | _=>1
def V.ns:List V→Nat
 | []=>0
 | v :: vs=>v.n+V.ns vs
end
def aas (sz:Nat) (xs:List V):Prop:= ∀ x∈xs,x.n=sz
def Blk (w:World) (g:Nat) (cells:Array Value):Prop:=
 ∃ e fr,w.heap[g]? =some (.cells cells e fr)∧∀ i,i < cells.size→¬ (fr.1≤i∧i < fr.2)
def aok (w:World) (g:Nat) (es:List (List UInt8×Value)):Prop:=
 ∃ en cl,w.heap[g]? =some (.map en cl)∧en.toList.map (fun e=>(e.key,e.val))=es.map (fun p=>(.string ⟨p.1.toArray⟩,p.2))∧(en.toList.map (·.born)).Nodup∧∀ e∈en.toList,e.born < cl
mutual
def R (w:World) (Pb:Nat→Prop):V→List Value→List Nat→Prop
 | .lit x,cs,F=>x.oneCell'=true∧cs=[x]∧F=[]
 | .agg vs,cs,F=>RL w Pb vs cs F
 | .tup _,_,_=>False
 | .gv _ _,_,_=>False
 | .sl full xs,cs,F=>F=[]∧∃ A c,cs=[.slice A xs.length c]∧xs.length≤c∧(full=true→c=xs.length)∧
  (xs=[]∨∃ b o sz flat,A=some ⟨b,o,none⟩∧Pb b∧0 < sz∧aas sz xs∧RL w Pb xs flat []∧
   ∀ j u,flat[j]? =some u→w.cell? ⟨b,o+j,none⟩=some u)
 | .own sz xs g o c,cs,F=>(c=0∧xs=[]∧F=[]∧∃ A,cs=[.slice A 0 0])∨
  (0 < c∧0 < sz∧xs.length≤c∧cs=[.slice (some ⟨g,o,none⟩) xs.length c]∧aas sz xs∧¬ Pb g∧
   ∃ flat F' cells,F=g :: F'∧RL w Pb xs flat F'∧Blk w g cells∧o+c * sz≤cells.size∧
     ∀ j u,flat[j]? =some u→cells[o+j]? =some u)
 | .ow sz xs,cs,F=> ∃ g o c,(c=0∧xs=[]∧F=[]∧∃ A,cs=[.slice A 0 0])∨
  (0 < c∧0 < sz∧xs.length≤c∧cs=[.slice (some ⟨g,o,none⟩) xs.length c]∧aas sz xs∧¬ Pb g∧
   ∃ flat F' cells,F=g :: F'∧RL w Pb xs flat F'∧Blk w g cells∧o+c * sz≤cells.size∧
     ∀ j u,flat[j]? =some u→cells[o+j]? =some u)
 | .om es g,cs,F=>F=[g]∧cs=[.map (some g)]∧¬ Pb g∧aok w g es
 | .mp es,cs,F=>F=[]∧∃ g,cs=[.map (some g)]∧Pb g∧aok w g es
 | .hd _ _ sz g o lo n c,cs,F=>F=[]∧n≤c∧∃ A,cs=[.slice A n c]∧(0 < c→A=some ⟨g,o+lo * sz,none⟩)
 | .ptr _ _ g o,cs,F=>F=[]∧cs=[.pointer (some ⟨g,o,none⟩)]
 | .ep v,cs,F=>F=[]∧∃ b o flat,cs=[.pointer (some ⟨b,o,none⟩)]∧Pb b∧R w Pb v flat []∧
  ∀ j u,flat[j]? =some u→w.cell? ⟨b,o+j,none⟩=some u
 | .dead,cs,F=>F=[]∧∃ x,cs=[x]∧x.oneCell'=true
def RL (w:World) (Pb:Nat→Prop):List V→List Value→List Nat→Prop
 | [],cs,F=>cs=[]∧F=[]
 | v :: vs,cs,F=> ∃ c1 c2 F1 F2,cs=c1++c2∧F=F1++F2∧R w Pb v c1 F1∧RL w Pb vs c2 F2
end
section
variable {w w':World} {Pb Pb':Nat→Prop}
theorem azm {sz:Nat} {xs:List V} {cs:List Value} {F:List Nat}:R w Pb (.ow sz xs) cs F↔∃ g o c,R w Pb (.own sz xs g o c) cs F:=by simp only [R]
theorem aok.aef {g:Nat} {es:List (List UInt8×Value)} (h:aok w g es) (k:w'.heap[g]? =w.heap[g]?):aok w' g es:=by
 obtain ⟨en,cl,h1,h2⟩:=h
 exact ⟨en,cl,k.trans h1,h2⟩
mutual
theorem adm:∀ (v:V) {cs F},R w Pb v cs F→cs.length=v.n
 | .lit x,cs,F,h=>by obtain ⟨_,rfl,_⟩:=h; rfl
 | .agg vs,cs,F,h=>by simp only [R] at h; simpa [V.n] using afX vs h
 | .tup _,_,_,h=>by simp [R] at h
 | .gv _ _,_,_,h=>by simp [R] at h
 | .sl _ xs,cs,F,h=>by obtain ⟨_,A,c,rfl,_⟩:=h; rfl
 | .own sz xs g o c,cs,F,h=>by
  rcases h with ⟨_,_,_,A,rfl⟩ | ⟨_,_,_,rfl,_⟩ <;> rfl
 | .ow sz xs,cs,F,h=>by
  obtain ⟨g,o,c,h⟩:=h
  rcases h with ⟨_,_,_,A,rfl⟩ | ⟨_,_,_,rfl,_⟩ <;> rfl
 | .om ..,cs,F,h=>by obtain ⟨_,rfl,_⟩:=h; rfl
 | .mp _,cs,F,h=>by obtain ⟨_,g,rfl,_⟩:=h; rfl
 | .hd ..,cs,F,h=>by obtain ⟨_,_,A,rfl,_⟩:=h; rfl
 | .ptr ..,cs,F,h=>by obtain ⟨_,rfl⟩:=h; rfl
 | .ep v,cs,F,h=>by obtain ⟨_,b,o,flat,rfl,_⟩:=h; rfl
 | .dead,cs,F,h=>by obtain ⟨_,x,rfl,_⟩:=h; rfl
theorem afX:∀ (vs:List V) {cs F},RL w Pb vs cs F→cs.length=V.ns vs
 | [],cs,F,h=>by obtain ⟨rfl,_⟩:=h; rfl
 | v :: vs,cs,F,h=>by
     obtain ⟨c1,c2,F1,F2,rfl,_,h1,h2⟩:=h
     simp [V.ns,adm v h1,afX vs h2]
end
mutual
theorem aep:∀ (v:V) {cs F},R w Pb v cs F→(∀ g,Pb g→w'.heap[g]? =w.heap[g]?)→(∀ g,g∈F→w'.heap[g]? =w.heap[g]?)→
 (∀ g,Pb g→Pb' g)→(∀ g,g∈F→¬ Pb' g)→R w' Pb' v cs F
 | .lit x,cs,F,h,_,_,_,_=>h
 | .agg vs,cs,F,h,k1,k2,k3,k4=>by simp only [R] at h ⊢; exact acG vs h k1 k2 k3 k4
 | .tup _,_,_,h,_,_,_,_=>by simp [R] at h
 | .gv _ _,_,_,h,_,_,_,_=>by simp [R] at h
 | .sl full xs,cs,F,h,k1,_,k3,_=>by
  obtain ⟨hF,A,c,hc,hl,hf,hx⟩:=h
  refine ⟨hF,A,c,hc,hl,hf,?_⟩
  rcases hx with hx | ⟨b,o,sz,flat,hA,hb,hs,hn,hr,hcell⟩
  exact .inl hx
  exact .inr ⟨b,o,sz,flat,hA,k3 b hb,hs,hn,acG xs hr k1 (by simp) k3 (by simp),fun j u hu=>by
   rw [← hcell j u hu]; exact World.cell?_of_block (w:=w) (k1 b hb)⟩
 | .own sz xs g o c,cs,F,h,k1,k2,k3,k4=>by
  rcases h with h | ⟨h1,h2,h3,h4,h5,h6,flat,F',cells,hF,hr,⟨e,fr,hb,hfr⟩,hsz,hcell⟩
  exact .inl h
  subst hF
  exact .inr ⟨h1,h2,h3,h4,h5,k4 g (by simp),flat,F',cells,rfl,acG xs hr k1 (fun g hg=>k2 g (by simp [hg])) k3 (fun g hg=>k4 g (by simp [hg])),
   ⟨e,fr,(k2 g (by simp)).trans hb,hfr⟩,hsz,hcell⟩
 | .ow sz xs,cs,F,h,k1,k2,k3,k4=>by
  obtain ⟨g,o,c,h⟩:=h
  refine ⟨g,o,c,?_⟩
  rcases h with h | ⟨h1,h2,h3,h4,h5,h6,flat,F',cells,hF,hr,⟨e,fr,hb,hfr⟩,hsz,hcell⟩
  exact .inl h
  subst hF
  exact .inr ⟨h1,h2,h3,h4,h5,k4 g (by simp),flat,F',cells,rfl,acG xs hr k1 (fun g hg=>k2 g (by simp [hg])) k3 (fun g hg=>k4 g (by simp [hg])),
   ⟨e,fr,(k2 g (by simp)).trans hb,hfr⟩,hsz,hcell⟩
 | .om es g,cs,F,h,_,k2,_,k4=>by
  obtain ⟨rfl,h1,h2,h3⟩:=h
  exact ⟨rfl,h1,k4 g (by simp),h3.aef (k2 g (by simp))⟩
 | .mp es,cs,F,h,k1,_,k3,_=>by
  obtain ⟨h0,g,h1,h2,h3⟩:=h
  exact ⟨h0,g,h1,k3 g h2,h3.aef (k1 g h2)⟩
 | .hd ..,cs,F,h,_,_,_,_=>h
 | .ptr ..,cs,F,h,_,_,_,_=>h
 | .ep v,cs,F,h,k1,_,k3,_=>by
  obtain ⟨hF,b,o,flat,hc,hb,hr,hcell⟩:=h
  exact ⟨hF,b,o,flat,hc,k3 b hb,aep v hr k1 (by simp) k3 (by simp),fun j u hu=>by
   rw [← hcell j u hu]; exact World.cell?_of_block (w:=w) (k1 b hb)⟩
 | .dead,cs,F,h,_,_,_,_=>h
theorem acG:∀ (vs:List V) {cs F},RL w Pb vs cs F→(∀ g,Pb g→w'.heap[g]? =w.heap[g]?)→(∀ g,g∈F→w'.heap[g]? =w.heap[g]?)→
 (∀ g,Pb g→Pb' g)→(∀ g,g∈F→¬ Pb' g)→RL w' Pb' vs cs F
 | [],cs,F,h,_,_,_,_=>h
 | v :: vs,cs,F,h,k1,k2,k3,k4=>by
     obtain ⟨c1,c2,F1,F2,hc,rfl,h1,h2⟩:=h
     exact ⟨c1,c2,F1,F2,hc,rfl,aep v h1 k1 (fun g hg=>k2 g (by simp [hg])) k3 (fun g hg=>k4 g (by simp [hg])),
      acG vs h2 k1 (fun g hg=>k2 g (by simp [hg])) k3 (fun g hg=>k4 g (by simp [hg]))⟩
end
end
end Go.Abs
namespace Go.Abs
open Go
structure AS where
 t:List (Nat×V)
 h:List (Nat×(Nat×V))
def lk {α:Type} (i:Nat):List (Nat×α)→Option α
 | []=>none
 | (k,v) :: r=>if i=k then some v else lk i r
def AS.get (A:AS) (i:Nat):V:=(lk i A.t).getD .dead
def AS.put (A:AS) (d:Option Nat) (v:V):AS:=match d with | some d=>{ A with t:=(d,v) :: A.t } | none=>A
theorem AS.aaq (A:AS) (d i:Nat) (v:V):(A.put (some d) v).get i=if i=d then v else A.get i:=by
 simp only [AS.get,AS.put,lk]; split <;> rfl
def RVs (w:World) (Pb:Nat→Prop):List V→List Value→List Nat→Prop
 | [],xs,F=>xs=[]∧F=[]
 | v :: vs,xs,F=> ∃ x xs' F1 F2,xs=x :: xs'∧F=F1++F2∧(match v with
     | .agg us=> ∃ cs,x=.agg cs∧RL w Pb us cs.toList F1
     | .dead=>F1=[]
     | v=>R w Pb v [x] F1)∧RVs w Pb vs xs' F2
def RV0 (w:World) (Pb:Nat→Prop) (v:V) (x:Value) (F:List Nat):Prop:=
 match v with
 | .tup vs=> ∃ xs:Array Value,x=.tuple xs∧RVs w Pb vs xs.toList F
 | .agg us=> ∃ cs,x=.agg cs∧RL w Pb us cs.toList F
 | .dead=>F=[]
 | v=>R w Pb v [x] F
def RV (w:World) (Pb:Nat→Prop) (v:V) (x:Value) (F:List Nat):Prop:=
 match v with
 | .gv b u=>F=[]∧(b=true→RV0 w Pb u x [])∧(b=false→x=undef)
 | v=>RV0 w Pb v x F
theorem anz {w w':World} {Pb Pb':Nat→Prop}:∀ (vs:List V) {xs F},RVs w Pb vs xs F→(∀ g,Pb g→w'.heap[g]? =w.heap[g]?)→(∀ g,g∈F→w'.heap[g]? =w.heap[g]?)→
 (∀ g,Pb g→Pb' g)→(∀ g,g∈F→¬ Pb' g)→RVs w' Pb' vs xs F
 | [],_,_,h,_,_,_,_=>h
 | v :: vs,xs,F,h,k1,k2,k3,k4=>by
   obtain ⟨x,xs',F1,F2,hx,rfl,h1,h2⟩:=h
   refine ⟨x,xs',F1,F2,hx,rfl,?_,anz vs h2 k1 (fun g hg=>k2 g (by simp [hg])) k3 (fun g hg=>k4 g (by simp [hg]))⟩
   cases v with
   | agg us=>obtain ⟨cs,e,h1⟩:=h1; exact ⟨cs,e,acG us h1 k1 (fun g hg=>k2 g (by simp [hg])) k3 (fun g hg=>k4 g (by simp [hg]))⟩
   | dead=>exact h1
   | _=>exact aep _ h1 k1 (fun g hg=>k2 g (by simp [hg])) k3 (fun g hg=>k4 g (by simp [hg]))
theorem adr {w w':World} {Pb Pb':Nat→Prop} (v:V) {x F} (h:RV0 w Pb v x F) (k1:∀ g,Pb g→w'.heap[g]? =w.heap[g]?) (k2:∀ g,g∈F→w'.heap[g]? =w.heap[g]?)
 (k3:∀ g,Pb g→Pb' g) (k4:∀ g,g∈F→¬ Pb' g):RV0 w' Pb' v x F:=by
 cases v with
 | tup vs=>obtain ⟨xs,e,h⟩:=h; exact ⟨xs,e,anz vs h k1 k2 k3 k4⟩
 | agg us=>obtain ⟨cs,e,h⟩:=h; exact ⟨cs,e,acG us h k1 k2 k3 k4⟩
 | dead=>exact h
 | _=>exact aep _ h k1 k2 k3 k4
theorem aiw {w w':World} {Pb Pb':Nat→Prop} (v:V) {x F} (h:RV w Pb v x F) (k1:∀ g,Pb g→w'.heap[g]? =w.heap[g]?) (k2:∀ g,g∈F→w'.heap[g]? =w.heap[g]?)
 (k3:∀ g,Pb g→Pb' g) (k4:∀ g,g∈F→¬ Pb' g):RV w' Pb' v x F:=by
 cases v with
 | gv b u=>obtain ⟨hF,h1,h2⟩:=h; exact ⟨hF,fun hb=>adr u (h1 hb) k1 (by simp) k3 (by simp),h2⟩
 | tup vs=>exact adr (.tup vs) h k1 k2 k3 k4
 | agg us=>exact adr (.agg us) h k1 k2 k3 k4
 | dead=>exact h
 | own sz xs g o c=>exact adr (.own sz xs g o c) h k1 k2 k3 k4
 | ow sz xs=>exact adr (.ow sz xs) h k1 k2 k3 k4
 | om es g=>exact adr (.om es g) h k1 k2 k3 k4
 | mp es=>exact adr (.mp es) h k1 k2 k3 k4
 | lit x=>exact adr (.lit x) h k1 k2 k3 k4
 | sl f xs=>exact adr (.sl f xs) h k1 k2 k3 k4
 | hd r p sz g o lo n c=>exact adr (.hd r p sz g o lo n c) h k1 k2 k3 k4
 | ptr r p g o=>exact adr (.ptr r p g o) h k1 k2 k3 k4
 | ep v=>exact adr (.ep v) h k1 k2 k3 k4
structure Keep (Pb:Nat→Prop) (w w':World):Prop where
 os:w'.os=w.os
 tape:w'.tape=w.tape
 output:w'.output=w.output
 size:w.heap.size≤w'.heap.size
 block:∀ g,Pb g→w'.heap[g]? =w.heap[g]?
theorem Keep.refl (Pb:Nat→Prop) (w:World):Keep Pb w w:=⟨rfl,rfl,rfl,Nat.le_refl _,fun _ _=>rfl⟩
theorem Keep.trans {Pb Pb':Nat→Prop} {a b c:World} (h:Keep Pb a b) (k:Keep Pb' b c) (hp:∀ g,Pb g→Pb' g):Keep Pb a c:=
 ⟨k.os.trans h.os,k.tape.trans h.tape,k.output.trans h.output,Nat.le_trans h.size k.size,fun g hg=>(k.block g (hp g hg)).trans (h.block g hg)⟩
def At (w:World) (Pb:Nat→Prop) (v:V) (g o:Nat) (F:List Nat):Prop:=
 ∃ cs cells,Blk w g cells∧R w Pb v cs F∧∀ j u,cs[j]? =some u→cells[o+j]? =some u
structure SIM (N:Nat) (Pb Kb:Nat→Prop) (A:AS) (a:Act) (w:World) (F:Root→List Nat):Prop where
 size:a.tmps.size=N
 defers:a.defers=[]
 slot:∀ i,RV w Pb (A.get i) (a.tmps.getD i undef) (F (.slot i))
 root:∀ k g v,lk k A.h=some (g,v)→∃ F',F (.key k)=g :: F'∧At w Pb v g 0 F'
 aaW:∀ r r',r≠r'→∀ g,g∈F r→g ∉ F r'
 nodup:∀ r,(F r).Nodup
 free:∀ r g,g∈F r→¬ Kb g∧g < w.heap.size
 sub:∀ g,Pb g→Kb g
 bound:∀ g,Kb g→g < w.heap.size
def Nx (N:Nat) (Pb Kb:Nat→Prop) (w:World) (K:AS→Prop) (a':Act) (w':World):Prop:=
 ∃ A' Pb' Kb' F',K A'∧SIM N Pb' Kb' A' a' w' F'∧(∀ g,Pb g→Pb' g)∧(∀ g,Kb g→Kb' g)∧(∀ g,Pb' g→Pb g∨¬ Kb g)∧Keep Kb w w'
def abe (F:Root→List Nat) (r:Root) (l:List Nat):Root→List Nat:=fun r'=>if r'=r then l else F r'
theorem SIM.put {N:Nat} {Pb Kb:Nat→Prop} {A:AS} {a:Act} {w:World} {F:Root→List Nat} (h:SIM N Pb Kb A a w F) {d:Nat} {v:V} {x:Value} {F':List Nat}
 (hd:d < N) (hv:RV w Pb v x F') (h1:∀ r,r≠.slot d→∀ g,g∈F'→g ∉ F r) (h2:F'.Nodup) (h3:∀ g,g∈F'→¬ Kb g∧g < w.heap.size):
 SIM N Pb Kb (A.put (some d) v) (a.put (some d) x) w (abe F (.slot d) F') where
 size:=by simp [Act.put,h.size]
 defers:=by simpa [Act.put] using h.defers
 slot:=fun i=>by
  rw [AS.aaq]
  by_cases e:i=d
  subst e
  simp only [if_true,abe]
  have hx:(a.put (some i) x).tmps.getD i undef=x:=by simp [Act.put,h.size,hd]
  rw [hx]; exact hv
  have hne:Root.slot i≠Root.slot d:=fun c=>e (by injection c)
  simp only [if_neg e,abe,if_neg hne]
  have hx:(a.put (some d) x).tmps.getD i undef=a.tmps.getD i undef:=by
   simp [Act.put,Array.getElem?_setIfInBounds_ne (Ne.symm e)]
  rw [hx]; exact h.slot i
 root:=fun k g v hk=>by
  obtain ⟨F'',e,hr⟩:=h.root k g v hk
  exact ⟨F'',by simpa [abe] using e,hr⟩
 aaW:=fun r r' hne g hg=>by
  simp only [abe] at hg ⊢
  by_cases e:r=.slot d
  subst e
  rw [if_neg (Ne.symm hne)]
  simp only [if_true] at hg
  exact h1 r' (Ne.symm hne) g hg
  rw [if_neg e] at hg
  by_cases e':r'=.slot d
  rw [if_pos e']
  exact fun hg'=>h1 r e g hg' hg
  rw [if_neg e']
  exact h.aaW r r' hne g hg
 nodup:=fun r=>by
  simp only [abe]; split
  exact h2
  exact h.nodup r
 free:=fun r g hg=>by
  simp only [abe] at hg
  split at hg
  exact h3 g hg
  exact h.free r g hg
 sub:=h.sub
 bound:=h.bound
def aaT (N:Nat) (d:Option Nat):Prop:=match d with | some d=>d < N | none=>True
theorem SIM.akV {N:Nat} {Pb Kb:Nat→Prop} {A:AS} {a:Act} {w:World} {F:Root→List Nat} (h:SIM N Pb Kb A a w F) {d:Option Nat} {v:V} {x:Value}
 (hd:aaT N d) (hv:RV w Pb v x []):∃ F',SIM N Pb Kb (A.put d v) (a.put d x) w F':=by
 cases d with
 | none=>exact ⟨F,h⟩
 | some d=>exact ⟨_,h.put hd hv (by simp) (by simp) (by simp)⟩
def opT (P:Program) (N:Nat) (o:Oper) (A:AS) (K:AS→Prop):Prop:=
 ∀ Pb Kb a w F Q,SIM N Pb Kb A a w F→o.wp P a w (Nx N Pb Kb w K) Q
theorem aew {P:Program} {N:Nat} {o:Oper} {A:AS} {K:AS→Prop} {v:V} (hd:aaT N o.dst) (hK:K (A.put o.dst v))
 (h:∀ Pb Kb a w F,SIM N Pb Kb A a w F→∃ x,(execOp a.eval o).run P w=.ok (.value x) w∧RV w Pb v x []):opT P N o A K:=by
 intro Pb Kb a w F Q hs
 obtain ⟨x,hx,hr⟩:=h Pb Kb a w F hs
 unfold Oper.wp
 rw [hx,Oper.upon_value]
 obtain ⟨F',hs'⟩:=hs.akV hd hr
 exact ⟨_,Pb,Kb,F',hK,hs',fun _ h=>h,fun _ h=>h,fun _ h=>.inl h,Keep.refl _ _⟩
end Go.Abs
namespace Go.Abs
open Go
inductive D where
 | int (k:IntKind) | bool | str | ptr (e:Nat) | sl (e:Nat) | arr (n e:Nat) | map (k e:Nat) | st (fs:List (Nat×Nat)) | other
deriving DecidableEq
structure TI where
 sz:Nat
 by_:Nat
 d:D
def abZ:TypeDesc→D
 | .int k=>.int k | .bool=>.bool | .string=>.str | .pointer e=>.ptr e | .slice e=>.sl e | .array n e=>.arr n e | .map k e=>.map k e
 | .struct fs=>.st (fs.toList.map fun f=>(f.offset,f.type))
 | _=>.other
def ti (P:Program) (T:Nat):Option TI:=match P.info? T,P.underlying T with | some i,some d=>some ⟨i.size,i.bytes,abZ d⟩ | _,_=>none
def D.agg:D→Bool | .st _ | .arr _ _=>true | _=>false
theorem afB {P:Program} {T:Nat} {i:TI} (h:ti P T=some i):∃ inf d,P.info? T=some inf∧P.underlying T=some d∧inf.size=i.sz∧inf.bytes=i.by_∧abZ d=i.d:=by
 unfold ti at h
 cases h1:P.info? T with
 | none=>simp [h1] at h
 | some inf=>cases h2:P.underlying T with
   | none=>simp [h1,h2] at h
   | some d=>simp [h1,h2] at h; subst h; exact ⟨inf,d,rfl,rfl,rfl,rfl,rfl⟩
def cV1:Value→V
 | .slice none 0 0=>.sl true []
 | x=>.lit x
def cV:Value→V
 | .agg cs=>if cs.toList.all (·.oneCell') then .agg (cs.toList.map cV1) else .dead
 | .tuple _=>.dead
 | x=>cV1 x
def AS.ev (A:AS):Operand→V
 | .tmp i=>A.get i
 | .const v=>cV v
 | .global g=>.lit (.pointer (some ⟨g,0,none⟩))
 | .func f=>.lit (.func (.func f) #[] #[])
mutual
def V.cpy (r:Root) (p:List Nat):V→V
 | .own sz xs g o c=>.hd r p sz g o 0 xs.length c
 | .ow .. =>.dead
 | .om _ g=>.lit (.map (some g))
 | .agg vs=>.agg (V.azh r p 0 vs)
 | v=>v
def V.azh (r:Root) (p:List Nat) (j:Nat):List V→List V
 | []=>[]
 | v :: vs=>v.cpy r (p++[j]) :: V.azh r p (j+1) vs
end
mutual
def V.abt:V→Bool
 | .own .. =>true
 | .ow .. =>true
 | .om .. =>true
 | .agg vs=>V.aat vs
 | .tup vs=>V.aat vs
 | _=>false
def V.aat:List V→Bool
 | []=>false
 | v :: vs=>v.abt||V.aat vs
end
def V.cp (r:Root):V→V
 | .tup _=>.dead
 | .gv _ _=>.dead
 | v=>v.cpy r []
def ary (A:AS) (x:Operand) (y:V):V:=
 match A.ev x with
 | .tup vs=>if V.aat vs=true then .dead else .tup vs
 | _=>y
def AS.cp (A:AS):Operand→V
 | .tmp i=>(A.get i).cp (.slot i)
 | x=>A.ev x
def agi (op:BinOp) (k:IntKind) (a b:Int):Option (Prop×V):=
 match op with
 | .add=>some (True,.lit (.int k (k.wrap (a+b))))
 | .sub=>some (True,.lit (.int k (k.wrap (a - b))))
 | .mul=>some (True,.lit (.int k (k.wrap (a * b))))
 | .quo=>some (b≠0,.lit (.int k (k.wrap (a.tdiv b))))
 | .rem=>some (b≠0,.lit (.int k (a.tmod b)))
 | .eql=>some (True,.lit (.bool (a==b)))
 | .neq=>some (True,.lit (.bool (a != b)))
 | .lss=>some (True,.lit (.bool (decide (a < b))))
 | .leq=>some (True,.lit (.bool (decide (a≤b))))
 | .gtr=>some (True,.lit (.bool (decide (a > b))))
 | .geq=>some (True,.lit (.bool (decide (a≥b))))
 | .and=>some (True,.lit (.int k (k.wrap ((BitVec.ofInt k.bits a &&& BitVec.ofInt k.bits b).toNat))))
 | .xor=>some (True,.lit (.int k (k.wrap ((BitVec.ofInt k.bits a ^^^ BitVec.ofInt k.bits b).toNat))))
 | .shr=>some (0≤b,.lit (.int k (a.fdiv (2 ^ min b.toNat k.bits))))
 | .shl=>some (0≤b,.lit (.int k (k.wrap (a * 2 ^ min b.toNat k.bits))))
 | _=>none
def inR (k:IntKind) (n:Int):Prop:=
 match k with
 | .i64=> -9223372036854775808≤n∧n≤9223372036854775807
 | .i32=> -2147483648≤n∧n≤2147483647
 | .u8=>0≤n∧n≤255
 | k=>k.wrap n=n
def apE (op:BinOp) (k:IntKind) (a b:Int):Option (Prop×V):=
 match op with
 | .add=>some (inR k (a+b),.lit (.int k (a+b)))
 | .sub=>some (inR k (a - b),.lit (.int k (a - b)))
 | .mul=>some (inR k (a * b),.lit (.int k (a * b)))
 | .quo=>some (0≤a∧0 < b∧inR k a,.lit (.int k (a / b)))
 | .rem=>some (0≤a∧0 < b,.lit (.int k (a % b)))
 | .and=>some (0≤a∧0≤b∧inR k a∧inR k b,.lit (.int k ((a.toNat &&& b.toNat:Nat):Int)))
 | .xor=>some (0≤a∧0≤b∧inR k a∧inR k b,.lit (.int k ((a.toNat ^^^ b.toNat:Nat):Int)))
 | .shr=>some (0≤b∧b < k.bits,.lit (.int k (a.fdiv (2 ^ b.toNat))))
 | op=>agi op k a b
def apI (op:BinOp) (a b:ByteArray):Option (Prop×V):=
 match op with
 | .add=>some (a.size+b.size≤4611686018427387904,.lit (.string (a++b)))
 | .eql=>some (True,.lit (.bool (a.toList==b.toList)))
 | .neq=>some (True,.lit (.bool (!(a.toList==b.toList))))
 | _=>none
def awb (op:BinOp) (a b:Bool):Option (Prop×V):=
 match op with
 | .eql=>some (True,.lit (.bool (a==b)))
 | .neq=>some (True,.lit (.bool (!(a==b))))
 | _=>none
def anC (op:BinOp) (d:Option D) (x y:V):Option (Prop×V):=
 match d,x,y with
 | some (.int _),.lit (.int k a),.lit (.int k' b)=>if op=.shr∨op=.shl then apE op k a b else if k=k' then apE op k a b else none
 | some .str,.lit (.string a),.lit (.string b)=>apI op a b
 | some .bool,.lit (.bool a),.lit (.bool b)=>awb op a b
 | _,_,_=>none
def unV (op:UnOp) (x:V):Option (Prop×V):=
 match op,x with
 | .not,.lit (.bool b)=>some (True,.lit (.bool (!b)))
 | .neg,.lit (.int k n)=>some (inR k (-n),.lit (.int k (-n)))
 | _,_=>none
def tD (P:Program) (T:Nat):Option D:=(ti P T).map (·.d)
def gvS:V→Bool×V
 | .gv b v=>(b,v)
 | v=>(true,v)
def aro (A:AS) (a b:Operand):V→Option (Prop×V)
 | .lit (.bool c)=>match gvS (A.ev a),gvS (A.ev b) with
   | (ga,.lit (.bool x)),(gb,.lit (.bool y))=>some ((c=true→ga=true)∧(c=false→gb=true),.lit (.bool (cond c x y)))
   | _,_=>none
 | _=>none
def aAz:Option D→Option D→V→Option (Prop×V)
 | some (.int _),some (.int k),.lit (.int _ n)=>some (inR k n,.lit (.int k n))
 | some .str,some .str,.lit (.string s)=>some (True,.lit (.string s))
 | _,_,_=>none
def btV (s:ByteArray) (i:Int):V:=.lit (.int .u8 (s.data.getD i.toNat 0).toNat)
def aAg:Option D→V→V→Option (Prop×V)
 | some .str,.lit (.string s),.lit (.int _ i)=>some (0≤i∧i < s.size,btV s i)
 | _,_,_=>none
def loI:Option V→Option Int
 | none=>some 0
 | some (.lit (.int _ l))=>some l
 | _=>none
def hiI (n:Nat):Option V→Option Int
 | none=>some n
 | some (.lit (.int _ l))=>some l
 | _=>none
def aAr (s:ByteArray) (lo hi:Option V):Option (Prop×V):=
 match loI lo,hiI s.size hi with
 | some l,some h=>some (0≤l∧l≤h∧h≤s.size,.lit (.string (s.extract l.toNat h.toNat)))
 | _,_=>none
def awg (d:Option D) (x:V) (lo hi:Option V):Option (Prop×V):=
 match d,x with
 | some .str,.lit (.string s)=>aAr s lo hi
 | _,_=>none
def asy:Option D→V→Option (Prop×V)
 | some .str,.lit (.string s)=>some (True,.lit (.int .i64 s.size))
 | some (.sl _),.sl _ xs=>some (True,.lit (.int .i64 xs.length))
 | some (.sl _),.own _ xs _ _ _=>some (True,.lit (.int .i64 xs.length))
 | some (.sl _),.hd _ _ _ _ _ _ n _=>some (True,.lit (.int .i64 n))
 | _,_=>none
def azW:V→Nat→Option (Prop×V)
 | .tup vs,i=>match vs[i]? with
   | some v=>if v.abt then none else some (True,v)
   | none=>none
 | _,_=>none
def aoR (P:Program) (A:AS) (c:Call):Option (Prop×V):=
 match c.callee with
 | .builtin .len=>match c.args.toList,c.argTypes.toList with
   | [x],[T]=>asy (tD P T) (A.ev x)
   | _,_=>none
 | _=>none
def stV (P:Program) (A:AS):Op→Option (Prop×V)
 | .move x=>some (True,ary A x (A.cp x))
 | .pick c a b=>aro A a b (A.ev c)
 | .binOp op T x y _=>anC op (tD P T) (A.ev x) (A.ev y)
 | .unOp op _ x=>unV op (A.ev x)
 | .convert s d x=>aAz (tD P s) (tD P d) (A.ev x)
 | .index T x i=>aAg (tD P T) (A.ev x) (A.ev i)
 | .slice T x lo hi none=>awg (tD P T) (A.ev x) (lo.map A.ev) (hi.map A.ev)
 | .call c=>aoR P A c
 | .extract x i=>azW (A.ev x) i
 | _=>none
end Go.Abs
namespace Go.Abs
open Go
section
variable {w:World} {Pb:Nat→Prop}
mutual
theorem agT (r:Root):∀ (v:V) (p:List Nat) {cs F},R w Pb v cs F→R w Pb (v.cpy r p) cs []
 | .own sz xs g o c,p,cs,F,h=>by
   rcases h with ⟨h1,h2,h3,A,h4⟩ | ⟨h1,h2,h3,h4,_⟩
   subst h1 h2; exact ⟨rfl,Nat.le_refl _,A,h4,fun h=>absurd h (by omega)⟩
   exact ⟨rfl,h3,_,h4,fun _=>by simp⟩
 | .ow ..,_,_,_,h=>by
   obtain ⟨g,o,c,h⟩:=h
   rcases h with ⟨h1,h2,h3,A,h4⟩ | ⟨h1,h2,h3,h4,_⟩
   exact ⟨rfl,_,h4,rfl⟩
   exact ⟨rfl,_,h4,rfl⟩
 | .om ..,_,_,_,h=>⟨rfl,h.2.1,rfl⟩
 | .mp ..,_,_,_,h=>⟨rfl,h.2⟩
 | .agg vs,p,cs,F,h=>by simp only [R,V.cpy] at h ⊢; exact asb r vs p 0 h
 | .tup _,_,_,_,h=>by simp [R] at h
 | .gv _ _,_,_,_,h=>by simp [R] at h
 | .lit x,_,_,_,h=>⟨h.1,h.2.1,rfl⟩
 | .sl ..,_,_,_,h=>⟨rfl,h.2⟩
 | .hd ..,_,_,_,h=>⟨rfl,h.2⟩
 | .ptr ..,_,_,_,h=>⟨rfl,h.2⟩
 | .ep _,_,_,_,h=>⟨rfl,h.2⟩
 | .dead,_,_,_,h=>⟨rfl,h.2⟩
theorem asb (r:Root):∀ (vs:List V) (p:List Nat) (j:Nat) {cs F},RL w Pb vs cs F→RL w Pb (V.azh r p j vs) cs []
 | [],_,_,_,_,h=>⟨h.1,rfl⟩
 | v :: vs,p,j,cs,F,h=>by
   obtain ⟨c1,c2,F1,F2,rfl,_,h1,h2⟩:=h
   exact ⟨c1,c2,[],[],rfl,rfl,agT r v _ h1,asb r vs p (j+1) h2⟩
end
mutual
theorem afi:∀ (v:V) {cs F},v.abt=false→R w Pb v cs F→F=[]
 | .own ..,_,_,ho,_=>by simp [V.abt] at ho
 | .ow ..,_,_,ho,_=>by simp [V.abt] at ho
 | .om ..,_,_,ho,_=>by simp [V.abt] at ho
 | .mp ..,_,_,_,h=>h.1
 | .agg vs,_,_,ho,h=>by simp only [R] at h; exact aeY vs (by simpa [V.abt] using ho) h
 | .tup _,_,_,_,h=>by simp [R] at h
 | .gv _ _,_,_,_,h=>by simp [R] at h
 | .lit x,_,_,_,h=>h.2.2
 | .sl ..,_,_,_,h=>h.1
 | .hd ..,_,_,_,h=>h.1
 | .ptr ..,_,_,_,h=>h.1
 | .ep _,_,_,_,h=>h.1
 | .dead,_,_,_,h=>h.1
theorem aeY:∀ (vs:List V) {cs F},V.aat vs=false→RL w Pb vs cs F→F=[]
 | [],_,_,_,h=>h.2
 | v :: vs,_,_,ho,h=>by
   obtain ⟨c1,c2,F1,F2,_,rfl,h1,h2⟩:=h
   simp only [V.aat,Bool.or_eq_false_iff] at ho
   rw [afi v ho.1 h1,aeY vs ho.2 h2]; rfl
end
theorem anx:∀ (vs:List V) {xs F},V.aat vs=false→RVs w Pb vs xs F→F=[]
 | [],_,_,_,h=>h.2
 | v :: vs,_,_,ho,h=>by
   obtain ⟨x,xs',F1,F2,_,rfl,h1,h2⟩:=h
   simp only [V.aat,Bool.or_eq_false_iff] at ho
   rw [anx vs ho.2 h2]
   cases v with
   | agg us=>obtain ⟨cs,_,h1⟩:=h1; rw [aeY us (by simpa [V.abt] using ho.1) h1]; rfl
   | dead=>rw [h1]; rfl
   | tup _=>simp [R] at h1
   | gv _ _=>simp [R] at h1
   | _=>rw [afi _ ho.1 h1]; rfl
theorem aCq {v:V} {x:Value} {F:List Nat} (r:Root) (h:RV w Pb v x F):RV w Pb (v.cp r) x []:=by
 cases v with
 | tup _=>rfl
 | gv _ _=>rfl
 | agg us=>obtain ⟨cs,e,h⟩:=h; exact ⟨cs,e,asb r us [] 0 h⟩
 | dead=>rfl
 | own sz xs g o c=>exact agT (w:=w) (Pb:=Pb) r (.own sz xs g o c) [] h
 | ow sz xs=>rfl
 | om es g=>exact agT (w:=w) (Pb:=Pb) r (.om es g) [] h
 | mp es=>exact agT (w:=w) (Pb:=Pb) r (.mp es) [] h
 | lit x=>exact agT (w:=w) (Pb:=Pb) r (.lit x) [] h
 | sl f xs=>exact agT (w:=w) (Pb:=Pb) r (.sl f xs) [] h
 | hd r' p sz g o lo n c=>exact agT (w:=w) (Pb:=Pb) r (.hd r' p sz g o lo n c) [] h
 | ptr r' p g o=>exact agT (w:=w) (Pb:=Pb) r (.ptr r' p g o) [] h
 | ep v=>exact agT (w:=w) (Pb:=Pb) r (.ep v) [] h
theorem aAt {x:Value} (h:x.oneCell'=true):R w Pb (cV1 x) [x] []:=by
 unfold cV1
 split
 exact ⟨rfl,none,0,rfl,Nat.le_refl _,fun _=>rfl,.inl rfl⟩
 exact ⟨h,rfl,rfl⟩
theorem ayz:∀ (l:List Value),l.all (·.oneCell')=true→RL w Pb (l.map cV1) l []
 | [],_=>⟨rfl,rfl⟩
 | x :: l,h=>by
   simp only [List.all_cons,Bool.and_eq_true] at h
   exact ⟨[x],l,[],[],rfl,rfl,aAt h.1,ayz l h.2⟩
theorem amu (x:Value):RV w Pb (cV x) x []:=by
 cases x with
 | agg cs=>
   unfold cV
   by_cases h:cs.toList.all (·.oneCell')=true
   simp only [h,if_true]; exact ⟨cs,rfl,ayz _ h⟩
   simp only [h]; rfl
 | tuple _=>rfl
 | slice a n c=>
   have h:=aAt (w:=w) (Pb:=Pb) (x:=.slice a n c) rfl
   unfold cV; simp only
   revert h
   unfold cV1
   split <;> exact fun h=>h
 | _=>exact ⟨rfl,rfl,rfl⟩
variable {N:Nat} {Kb:Nat→Prop} {A:AS} {a:Act} {F:Root→List Nat}
theorem adp (h:SIM N Pb Kb A a w F) (x:Operand):∃ Fx,RV w Pb (A.ev x) (a.eval x) Fx:=by
 cases x with
 | tmp i=>exact ⟨_,h.slot i⟩
 | const v=>exact ⟨[],amu v⟩
 | global g=>exact ⟨[],rfl,rfl,rfl⟩
 | func f=>exact ⟨[],rfl,rfl,rfl⟩
theorem abq (h:SIM N Pb Kb A a w F) {x:Operand} {y:Value} (e:A.ev x=.lit y):a.eval x=y:=by
 obtain ⟨Fx,hr⟩:=adp h x
 rw [e] at hr
 have:=hr.2.1
 simpa using this
theorem akI (h:SIM N Pb Kb A a w F) (x:Operand):RV w Pb (A.cp x) (a.eval x) []:=by
 cases x with
 | tmp i=>exact aCq (.slot i) (h.slot i)
 | const v=>exact amu v
 | global g=>exact ⟨rfl,rfl,rfl⟩
 | func f=>exact ⟨rfl,rfl,rfl⟩
variable {P:Program}
theorem aau {T:Nat} {d:TypeDesc} (h:P.underlying T=some d):(underlying T).run P w=.ok d w:=by
 simp [underlying,h]
theorem aby {T:Nat} {d:D} (h:tD P T=some d):∃ td,P.underlying T=some td∧abZ td=d:=by
 unfold tD at h
 cases hi:ti P T with
 | none=>simp [hi] at h
 | some i=>
   obtain ⟨inf,td,_,h2,_,_,h5⟩:=afB hi
   simp [hi] at h
   exact ⟨td,h2,h5.trans h⟩
theorem atK (op:BinOp) (T:Nat) (x y:Operand) {u v:Value} (hu:∀ cs,u≠.agg cs) (hn:u≠.nilIface):(eqGuard op T x y u v).run P w=.ok () w:=by
 unfold eqGuard
 cases op <;> first | rfl | (cases u <;> first | (exact absurd rfl hn) | (exact absurd rfl (hu _)) | rfl)
theorem ayZ {op:BinOp} {k:IntKind} {p q:Int} {C:Prop} {v:V} (h:agi op k p q=some (C,v)) (hC:C) {T:Nat} (hs:op=.shr∨op=.shl→∀ yk,∃ x,(binOp op T (.int k p) (.int yk q)).run P w=.ok x w∧v=.lit x∧x.oneCell'=true):
 ∃ x,(binOp op T (.int k p) (.int k q)).run P w=.ok x w∧v=.lit x∧x.oneCell'=true:=by
 cases op <;> simp only [agi,Option.some.injEq,Prod.mk.injEq,reduceCtorEq] at h <;> obtain ⟨rfl,rfl⟩:=h
 all_goals first
  | exact hs (.inl rfl) k
  | exact hs (.inr rfl) k
  | (refine ⟨_,?_,rfl,rfl⟩
     simp only [binOp,ne_eq,not_true_eq_false,if_false]
     first | rfl | (unfold Op.intDiv; rw [if_neg hC]; rfl))
theorem ayt {op:BinOp} (ho:op=.shr∨op=.shl) {k yk:IntKind} {p q:Int} {C:Prop} {v:V} (h:agi op k p q=some (C,v)) (hC:C) {T:Nat}:
 ∃ x,(binOp op T (.int k p) (.int yk q)).run P w=.ok x w∧v=.lit x∧x.oneCell'=true:=by
 rcases ho with rfl | rfl <;> simp only [agi,Option.some.injEq,Prod.mk.injEq] at h <;> obtain ⟨rfl,rfl⟩:=h <;>
  exact ⟨_,by simp [binOp,Op.shift,Int.not_lt.2 hC],rfl,rfl⟩
theorem aoT {T:Nat} (hu:P.underlying T=some .bool) (p q:Bool):(Op.equal T (.bool p) (.bool q)).run P w=.ok (p==q) w:=by
 obtain ⟨n,hn⟩:∃ n,Op.maxDepth=n+1:=⟨9999,rfl⟩
 unfold Op.equal
 rw [hn]
 simp only [Op.equalIn,Sem.run_bind,aau hu,Result.andThen_ok,Sem.run_pure]
theorem ahk {k:IntKind} {n:Int} (h:inR k n):k.wrap n=n:=by
 cases k <;> simp only [inR] at h <;> first | exact h | (simp only [IntKind.wrap,IntKind.bits,IntKind.signed,Bool.true_and,Bool.false_and]; split <;> simp_all <;> omega)
def hiB (k:IntKind):Nat:=if k.signed then k.bits - 1 else k.bits
theorem ayj (k:IntKind):2 ^ hiB k≤2 ^ k.bits:=Nat.pow_le_pow_right (by decide) (by unfold hiB; split <;> omega)
theorem anN {k:IntKind} {m:Nat} (h:m < 2 ^ hiB k):k.wrap (m:Int)=m:=by
 unfold IntKind.wrap
 cases k <;> simp [hiB,IntKind.bits,IntKind.signed] at h ⊢ <;> omega
theorem aiP {k:IntKind} {n:Int} (h:inR k n) (h0:0≤n):n.toNat < 2 ^ hiB k:=by
 have hw:=ahk h
 obtain ⟨q,rfl⟩:=Int.eq_ofNat_of_zero_le h0
 unfold IntKind.wrap at hw
 cases k <;> simp [IntKind.bits,IntKind.signed,hiB] at hw ⊢ <;> (try split at hw) <;> omega
theorem aqn {op:BinOp} {k:IntKind} {p q:Int} {C:Prop} {v:V} (h:apE op k p q=some (C,v)) (hC:C):∃ C',agi op k p q=some (C',v)∧C':=by
 cases op <;> simp only [apE,Option.some.injEq,Prod.mk.injEq] at h
 case add=>obtain ⟨rfl,rfl⟩:=h; exact ⟨_,by simp only [agi,ahk hC],trivial⟩
 case sub=>obtain ⟨rfl,rfl⟩:=h; exact ⟨_,by simp only [agi,ahk hC],trivial⟩
 case mul=>obtain ⟨rfl,rfl⟩:=h; exact ⟨_,by simp only [agi,ahk hC],trivial⟩
 case quo=>
  obtain ⟨rfl,rfl⟩:=h
  obtain ⟨h0,h1,h2⟩:=hC
  refine ⟨_,?_,show q≠0 by omega⟩
  have e:p.tdiv q=p / q:=Int.tdiv_eq_ediv_of_nonneg h0
  have hd:0≤p / q:=Int.ediv_nonneg h0 (by omega)
  have hle:p / q≤p:=Int.ediv_le_self _ h0
  have hb:=aiP h2 h0
  have:=anN (k:=k) (m:=(p / q).toNat) (by omega)
  rw [Int.toNat_of_nonneg hd] at this
  simp only [agi,e,this]
 case rem=>
  obtain ⟨rfl,rfl⟩:=h
  obtain ⟨h0,h1⟩:=hC
  refine ⟨_,?_,show q≠0 by omega⟩
  simp only [agi,Int.tmod_eq_emod_of_nonneg h0]
 case and=>
  obtain ⟨rfl,rfl⟩:=h
  obtain ⟨h0,h1,h2,h3⟩:=hC
  refine ⟨_,?_,trivial⟩
  obtain ⟨a,rfl⟩:=Int.eq_ofNat_of_zero_le h0
  obtain ⟨b,rfl⟩:=Int.eq_ofNat_of_zero_le h1
  have ha:=aiP h2 h0
  have hb:=aiP h3 h1
  have hk:=ayj k
  simp only [Int.toNat_natCast] at ha hb
  have e:(BitVec.ofInt k.bits (a:Int) &&& BitVec.ofInt k.bits (b:Int)).toNat=a &&& b:=by
   simp only [BitVec.toNat_and,BitVec.toNat_ofInt]
   rw [Int.emod_eq_of_lt (by omega) (by exact_mod_cast Nat.lt_of_lt_of_le ha hk),Int.emod_eq_of_lt (by omega) (by exact_mod_cast Nat.lt_of_lt_of_le hb hk)]; rfl
  have:=anN (k:=k) (m:=a &&& b) (Nat.lt_of_le_of_lt Nat.and_le_left ha)
  simp only [agi,e,this,Int.toNat_natCast]
 case xor=>
  obtain ⟨rfl,rfl⟩:=h
  obtain ⟨h0,h1,h2,h3⟩:=hC
  refine ⟨_,?_,trivial⟩
  obtain ⟨a,rfl⟩:=Int.eq_ofNat_of_zero_le h0
  obtain ⟨b,rfl⟩:=Int.eq_ofNat_of_zero_le h1
  have ha:=aiP h2 h0
  have hb:=aiP h3 h1
  have hk:=ayj k
  simp only [Int.toNat_natCast] at ha hb
  have e:(BitVec.ofInt k.bits (a:Int) ^^^ BitVec.ofInt k.bits (b:Int)).toNat=a ^^^ b:=by
   simp only [BitVec.toNat_xor,BitVec.toNat_ofInt]
   rw [Int.emod_eq_of_lt (by omega) (by exact_mod_cast Nat.lt_of_lt_of_le ha hk),Int.emod_eq_of_lt (by omega) (by exact_mod_cast Nat.lt_of_lt_of_le hb hk)]; rfl
  have:=anN (k:=k) (m:=a ^^^ b) (Nat.xor_lt_two_pow ha hb)
  simp only [agi,e,this,Int.toNat_natCast]
 case shr=>
  obtain ⟨rfl,rfl⟩:=h
  obtain ⟨h1,h2⟩:=hC
  refine ⟨_,?_,h1⟩
  have:min q.toNat k.bits=q.toNat:=by omega
  simp only [agi,this]
 all_goals exact ⟨_,h,hC⟩
theorem azH {op:BinOp} {x y:V} {C:Prop} {v:V} {T:Nat} (h:anC op (tD P T) x y=some (C,v)) (hC:C):
 ∃ u u',x=.lit u∧y=.lit u'∧(∀ cs,u≠.agg cs)∧u≠.nilIface∧∃ z,(binOp op T u u').run P w=.ok z w∧v=.lit z∧z.oneCell'=true:=by
 unfold anC at h
 split at h
 rename_i k p k' q _
 refine ⟨_,_,rfl,rfl,by simp,by simp,?_⟩
 split at h
 rename_i ho; obtain ⟨C',h',hC'⟩:=aqn h hC; exact ayt ho h' hC'
 rename_i ho
 split at h
 rename_i hk; subst hk; obtain ⟨C',h',hC'⟩:=aqn h hC; exact ayZ h' hC' (fun h=>absurd h ho)
 simp at h
 rename_i p q _
 refine ⟨_,_,rfl,rfl,by simp,by simp,?_⟩
 cases op <;> simp only [apI,Option.some.injEq,Prod.mk.injEq,reduceCtorEq] at h <;> obtain ⟨rfl,rfl⟩:=h
 refine ⟨_,?_,rfl,rfl⟩
 have: ¬ (((p.size+q.size:Nat):Int) > IntKind.i64.max):=by
  have:IntKind.i64.max=9223372036854775807:=by decide
  omega
 simp only [binOp,Op.stringOp,if_neg this,Sem.run_pure]
 exact ⟨_,rfl,rfl,rfl⟩
 exact ⟨_,rfl,rfl,rfl⟩
 rename_i p q hT
 refine ⟨_,_,rfl,rfl,by simp,by simp,?_⟩
 obtain ⟨td,hu,hd⟩:=aby hT
 have htd:td=.bool:=by cases td <;> simp [abZ] at hd ⊢
 subst htd
 cases op <;> simp only [awb,Option.some.injEq,Prod.mk.injEq,reduceCtorEq] at h <;> obtain ⟨rfl,rfl⟩:=h
 exact ⟨_,by simp only [binOp,Sem.run_bind,aoT hu,Result.andThen_ok,Sem.run_pure],rfl,rfl⟩
 exact ⟨_,by simp only [binOp,Sem.run_bind,aoT hu,Result.andThen_ok,Sem.run_pure],rfl,rfl⟩
 simp at h
theorem acw {x:Value} (h:x.oneCell'=true):RV w Pb (.lit x) x []:=⟨h,rfl,rfl⟩
theorem arS (h:SIM N Pb Kb A a w F) {lo:Option Operand} {l:Int} (hl:loI (lo.map A.ev)=some l):(lo=none∧l=0)∨∃ k,(lo.map a.eval)=some (.int k l):=by
 cases lo with
 | none=>simp [loI] at hl; exact .inl ⟨rfl,hl.symm⟩
 | some x=>
   right
   simp only [Option.map_some,loI] at hl
   cases hx:A.ev x with
   | lit y=>
     cases y with
     | int k l'=>rw [hx] at hl; simp at hl; subst hl; exact ⟨k,by simp [abq h hx]⟩
     | _=>rw [hx] at hl; simp at hl
   | _=>rw [hx] at hl; simp at hl
theorem apG (h:SIM N Pb Kb A a w F) {n:Nat} {hi:Option Operand} {l:Int} (hl:hiI n (hi.map A.ev)=some l):(hi=none∧l=n)∨∃ k,(hi.map a.eval)=some (.int k l):=by
 cases hi with
 | none=>simp [hiI] at hl; exact .inl ⟨rfl,hl.symm⟩
 | some x=>
   right
   simp only [Option.map_some,hiI] at hl
   cases hx:A.ev x with
   | lit y=>
     cases y with
     | int k l'=>rw [hx] at hl; simp at hl; subst hl; exact ⟨k,by simp [abq h hx]⟩
     | _=>rw [hx] at hl; simp at hl
   | _=>rw [hx] at hl; simp at hl
theorem afK {k:IntKind} {i:Int} {y:Nat} {code:BoundsCode} (h0:0≤i) (h1:i≤y):(Instr.sliceBound (.int k i) y code).run P w=.ok i.toNat w:=by
 simp [Instr.sliceBound,asIntOf,h0,h1]
theorem agZ {sl:Bool} {n c:Nat} {lo hi:Option Value} {l h:Int} (hlo:(lo=none∧l=0)∨∃ k,lo=some (.int k l)) (hhi:(hi=none∧h=n)∨∃ k,hi=some (.int k h))
 (h0:0≤l) (h1:l≤h) (h2:h≤(c:Nat)) (hn:n≤c):(Instr.sliceBounds sl n c lo hi none).run P w=.ok (l.toNat,h.toNat,c) w:=by
 have hb:(h.toNat:Int)=h:=Int.toNat_of_nonneg (by omega)
 rcases hlo with ⟨rfl,rfl⟩ | ⟨k,rfl⟩ <;> rcases hhi with ⟨rfl,rfl⟩ | ⟨k',rfl⟩
 simp [Instr.sliceBounds]
 simp only [Instr.sliceBounds,Sem.run_bind,Sem.run_pure,Result.andThen_ok,afK (w:=w) (P:=P) (k:=k') (code:=if sl then .sliceAcap else .sliceAlen) (show 0≤h by omega) h2]; rfl
 simp only [Instr.sliceBounds,Sem.run_bind,Sem.run_pure,Result.andThen_ok,Option.isSome,Bool.false_eq_true,if_false,afK (w:=w) (P:=P) (k:=k) (y:=n) (code:=.sliceB) h0 h1]; rfl
 simp only [Instr.sliceBounds,Sem.run_bind,Sem.run_pure,Result.andThen_ok,Option.isSome,Bool.false_eq_true,if_false,afK (w:=w) (P:=P) (k:=k') (code:=if sl then .sliceAcap else .sliceAlen) (show 0≤h by omega) h2,
  afK (w:=w) (P:=P) (k:=k) (y:=h.toNat) (code:=.sliceB) h0 (by omega)]
theorem avc:∀ (vs:List V) {xs:List Value} {F:List Nat} {i:Nat} {v:V},RVs w Pb vs xs F→vs[i]? =some v→v.abt=false→∃ x,xs[i]? =some x∧RV w Pb v x []
 | [],_,_,_,_,_,h,_=>by simp at h
 | v :: vs,xs,F,0,u,h,hi,ho=>by
     obtain ⟨x,xs',F1,F2,rfl,rfl,h1,h2⟩:=h
     simp at hi; subst hi
     refine ⟨x,rfl,?_⟩
     cases v with
     | agg us=>obtain ⟨cs,e,h1⟩:=h1; exact ⟨cs,e,by rw [aeY us (by simpa [V.abt] using ho) h1] at h1; exact h1⟩
     | dead=>rfl
     | tup us=>simp [R] at h1
     | gv _ _=>simp [R] at h1
     | own=>simp [V.abt] at ho
     | ow=>simp [V.abt] at ho
     | om=>simp [V.abt] at ho
     | mp=>exact ⟨rfl,h1.2⟩
     | lit=>exact ⟨h1.1,h1.2.1,rfl⟩
     | sl=>exact ⟨rfl,h1.2⟩
     | hd=>exact ⟨rfl,h1.2⟩
     | ptr=>exact ⟨rfl,h1.2⟩
     | ep=>exact ⟨rfl,h1.2⟩
 | v :: vs,xs,F,i+1,u,h,hi,ho=>by
     obtain ⟨x,xs',F1,F2,rfl,rfl,h1,h2⟩:=h
     obtain ⟨y,hy,hr⟩:=avc vs h2 (by simpa using hi) ho
     exact ⟨y,by simpa using hy,hr⟩
theorem avB {op:Op} {C:Prop} {v:V} (h:stV P A op=some (C,v)) (hC:C) (hs:SIM N Pb Kb A a w F) {o:Oper} (ho:o.op=op):
 ∃ x,(execOp a.eval o).run P w=.ok (.value x) w∧RV w Pb v x []:=by
 obtain ⟨dst,op',ty,pos,after,guard⟩:=o
 subst ho
 unfold stV at h
 split at h
 rename_i x hop; subst hop
 simp at h; obtain ⟨_,rfl⟩:=h
 refine ⟨_,rfl,?_⟩
 unfold ary
 split
 rename_i vs e
 obtain ⟨Fx,hr⟩:=adp hs x
 rw [e] at hr
 split
 rfl
 rename_i ho
 obtain ⟨xs,hx,hr⟩:=hr
 have hF:=anx vs (by simpa using ho) hr
 subst hF
 exact ⟨xs,hx,hr⟩
 exact akI hs x
 · rename_i c p q hop; subst hop
   unfold aro at h
   split at h
   case h_2=>simp at h
   · rename_i c' e
     split at h
     case h_2=>simp at h
     rename_i ga x gb y ea eb
     simp only [Option.some.injEq,Prod.mk.injEq] at h
     obtain ⟨rfl,rfl⟩:=h
     have ex:∀ (z:Operand) (g b:Bool),gvS (A.ev z)=(g,.lit (.bool b))→g=true→a.eval z=.bool b:=fun z g b hz hg=>by
      obtain ⟨Fx,hr⟩:=adp hs z
      unfold gvS at hz
      split at hz
      rename_i b' v' e'
      simp only [Prod.mk.injEq] at hz
      obtain ⟨rfl,rfl⟩:=hz
      rw [e'] at hr
      have:=(hr.2.1 hg).2.1
      simpa using this
      simp only [Prod.mk.injEq] at hz
      rw [hz.2] at hr
      have:=hr.2.1
      simpa using this
     simp only [execOp,abq hs e,asBool,Sem.run_bind,Sem.run_pure,Result.andThen_ok]
     cases c'
     exact ⟨.bool y,by simp [ex q gb y eb (hC.2 rfl)],acw rfl⟩
     exact ⟨.bool x,by simp [ex p ga x ea (hC.1 rfl)],acw rfl⟩
 rename_i op T x y _ hop; subst hop
 obtain ⟨u,u',hx,hy,hu,hn,z,hz,rfl,h1⟩:=azH (w:=w) (P:=P) h hC
 refine ⟨z,?_,acw h1⟩
 simp only [execOp,abq hs hx,abq hs hy,Sem.run_bind,atK op T x y hu hn,Result.andThen_ok,hz,Sem.run_pure]
 rename_i op T x hop; subst hop
 unfold unV at h
 split at h <;> simp only [Option.some.injEq,Prod.mk.injEq,reduceCtorEq] at h
 rename_i b e; obtain ⟨_,rfl⟩:=h
 exact ⟨_,by simp only [execOp,abq hs e]; rfl,acw rfl⟩
 rename_i k n e; obtain ⟨rfl,rfl⟩:=h
 exact ⟨_,by simp only [execOp,abq hs e]; rw [show -n=IntKind.wrap k (0 - n) by rw [Int.zero_sub]; exact (ahk hC).symm]; rfl,acw rfl⟩
 rename_i s d x hop; subst hop
 unfold aAz at h
 split at h <;> simp only [Option.some.injEq,Prod.mk.injEq,reduceCtorEq] at h
 rename_i k0 k k1 n hs' hd' e; obtain ⟨rfl,rfl⟩:=h
 obtain ⟨td,hu,hd⟩:=aby hs'
 obtain ⟨td',hu',hd'⟩:=aby hd'
 cases td <;> simp [abZ] at hd
 cases td' <;> simp [abZ] at hd'
 subst hd hd'
 exact ⟨.int _ (IntKind.wrap _ n),by simp only [execOp,abq hs e,convert,Sem.run_bind,aau hu,aau hu',Result.andThen_ok]; rfl,by rw [ahk hC]; exact acw rfl⟩
 rename_i s' hs' hd' e; obtain ⟨_,rfl⟩:=h
 obtain ⟨td,hu,hd⟩:=aby hs'
 obtain ⟨td',hu',hd'⟩:=aby hd'
 cases td <;> simp [abZ] at hd
 cases td' <;> simp [abZ] at hd'
 exact ⟨_,by simp only [execOp,abq hs e,convert,Sem.run_bind,aau hu,aau hu',Result.andThen_ok]; rfl,acw rfl⟩
 rename_i T x i hop; subst hop
 unfold aAg at h
 split at h <;> simp only [Option.some.injEq,Prod.mk.injEq,reduceCtorEq] at h
 rename_i s k i' hs' e e'; obtain ⟨rfl,rfl⟩:=h
 obtain ⟨td,hu,hd⟩:=aby hs'
 cases td <;> simp [abZ] at hd
 obtain ⟨h0,h1⟩:=hC
 have hlt:i'.toNat < s.size:=by omega
 refine ⟨.int .u8 (s.data.getD i'.toNat 0).toNat,?_,acw rfl⟩
 have hg:s[i'.toNat]? =some (s.data.getD i'.toNat 0):=by
  rw [getElem?_pos s i'.toNat hlt]
  have hlt':i'.toNat < s.data.size:=hlt
  simp only [Array.getD,dif_pos hlt']; rfl
 simp only [execOp,abq hs e,abq hs e',Instr.index,asIntOf,Sem.run_bind,aau hu,Sem.run_pure,Result.andThen_ok,if_pos h0,hg]
 rename_i T x lo hi hop; subst hop
 unfold awg at h
 split at h
 rename_i s hs' e
 unfold aAr at h
 obtain ⟨td,hu,hd⟩:=aby hs'
 cases td <;> simp [abZ] at hd
 split at h
 rename_i l h' hl hh
 simp only [Option.some.injEq,Prod.mk.injEq] at h; obtain ⟨rfl,rfl⟩:=h
 obtain ⟨h0,h1,h2⟩:=hC
 have b1:=arS hs hl
 have b2:=apG hs hh
 have b1':(lo.map a.eval=none∧l=0)∨∃ k,lo.map a.eval=some (.int k l):=b1.imp (fun ⟨e,f⟩=>⟨by simp [e],f⟩) id
 have b2':(hi.map a.eval=none∧h'=s.size)∨∃ k,hi.map a.eval=some (.int k h'):=b2.imp (fun ⟨e,f⟩=>⟨by simp [e],f⟩) id
 refine ⟨_,?_,acw rfl⟩
 simp only [execOp,Instr.sliceAt,abq hs e,Sem.run_bind,aau hu,Result.andThen_ok,Instr.slice,Option.map_none,Option.isSome,Bool.false_eq_true,if_false,Sem.run_pure,
  agZ (w:=w) (P:=P) (sl:=false) b1' b2' h0 h1 h2 (Nat.le_refl _)]
 simp at h
 simp at h
 · rename_i c hop; subst hop
   unfold aoR at h
   split at h
   case h_2=>simp at h
   rename_i hcal
   split at h
   case h_2=>simp at h
   rename_i x T hargs htys
   obtain ⟨callee,args,argTypes⟩:=c
   obtain rfl:callee=.builtin .len:=hcal
   obtain rfl:args= #[x]:=by rw [← Array.toArray_toList (xs:=args)]; exact congrArg _ hargs
   obtain rfl:argTypes= #[T]:=by rw [← Array.toArray_toList (xs:=argTypes)]; exact congrArg _ htys
   unfold asy at h
   split at h <;> simp only [Option.some.injEq,Prod.mk.injEq,reduceCtorEq] at h <;> (obtain ⟨hCe,rfl⟩:=h; clear hCe)
   rename_i s hs' e
   obtain ⟨td,hu,hd⟩:=aby hs'
   cases td <;> simp [abZ] at hd
   exact ⟨_,by simp [execOp,resolve,invoke,builtin,Builtin.len_,abq hs e,aau hu,goInt],acw rfl⟩
   all_goals
    rename_i hs' e
    obtain ⟨td,hu,hd⟩:=aby hs'
    cases td <;> simp [abZ] at hd
    obtain ⟨Fx,hr⟩:=adp hs x
    rw [e] at hr
   obtain ⟨_,A',c,hc,_⟩:=hr
   simp at hc
   exact ⟨_,by simp [execOp,resolve,invoke,builtin,Builtin.len_,hc,aau hu,goInt],acw rfl⟩
   rcases hr with ⟨_,rfl,_,A',hc⟩ | ⟨_,_,_,hc,_⟩ <;> simp at hc <;>
    exact ⟨_,by simp [execOp,resolve,invoke,builtin,Builtin.len_,hc,aau hu,goInt],acw rfl⟩
   obtain ⟨_,_,A',hc,_⟩:=hr
   simp at hc
   exact ⟨_,by simp [execOp,resolve,invoke,builtin,Builtin.len_,hc,aau hu,goInt],acw rfl⟩
 rename_i x i hop; subst hop
 unfold azW at h
 split at h
 rename_i i _ _ vs e
 split at h
 rename_i v' hv
 split at h
 simp at h
 rename_i ho
 simp at h; obtain ⟨_,rfl⟩:=h
 obtain ⟨Fx,hr⟩:=adp hs x
 rw [e] at hr
 obtain ⟨xs,hxs,hr⟩:=hr
 obtain ⟨x',hx',hr'⟩:=avc vs hr hv (by simpa using ho)
 refine ⟨x',?_,hr'⟩
 have hx'':xs[i]? =some x':=by simpa using hx'
 simp only [execOp,hxs,Instr.extract,hx'',Sem.run_bind,Sem.run_pure,Result.andThen_ok]
 simp at h
 simp at h
 simp at h
end
end Go.Abs
namespace Go.Abs
open Go
def V.at (g o:Nat) (v:V):List Nat→Option (Nat×Nat×V)
 | []=>some (g,o,v)
 | j :: p=>match v with
   | .agg vs=>match vs[j]? with
     | some u=>V.at g (o+V.ns (vs.take j)) u p
     | none=>none
   | .own sz xs g' o' _=>match xs[j]? with
     | some u=>V.at g' (o'+j * sz) u p
     | none=>none
   | _=>none
def V.sub (v:V):List Nat→Option V
 | []=>some v
 | j :: p=>match v with
   | .agg vs=>match vs[j]? with
     | some u=>V.sub u p
     | none=>none
   | .own _ xs _ _ _=>match xs[j]? with
     | some u=>V.sub u p
     | none=>none
   | _=>none
def AS.at (A:AS) (r:Root) (p:List Nat):Option (Nat×Nat×V):=
 match r with
 | .key k=>match lk k A.h with
   | some (g,v)=>V.at g 0 v p
   | none=>none
 | .slot i=>match A.get i,p with
   | .own sz xs g o c,j :: p=>V.at 0 0 (.own sz xs g o c) (j :: p)
   | _,_=>none
def AS.sub (A:AS) (r:Root) (p:List Nat):Option V:=
 match r with
 | .key k=>match lk k A.h with
   | some (_,v)=>V.sub v p
   | none=>none
 | .slot i=>match A.get i with
   | .tup _=>none
   | v=>V.sub v p
def V.isAgg:V→Bool | .agg _=>true | _=>false
section
variable {w:World} {Pb Kb:Nat→Prop}
theorem adU:∀ (vs:List V) {cs F} {j:Nat} {v:V},RL w Pb vs cs F→vs[j]? =some v→
 ∃ c F',R w Pb v c F'∧(∀ g,g∈F'→g∈F)∧∀ i u,c[i]? =some u→cs[V.ns (vs.take j)+i]? =some u
 | [],_,_,_,_,_,h=>by simp at h
 | v :: vs,cs,F,0,u,h,hj=>by
   obtain ⟨c1,c2,F1,F2,rfl,rfl,h1,h2⟩:=h
   simp at hj; subst hj
   refine ⟨c1,F1,h1,by simp_all,fun i u hu=>?_⟩
   simp only [List.take_zero,V.ns,Nat.zero_add]
   rw [List.getElem?_append_left (List.getElem?_eq_some_iff.1 hu).1]; exact hu
 | v :: vs,cs,F,j+1,u,h,hj=>by
   obtain ⟨c1,c2,F1,F2,rfl,rfl,h1,h2⟩:=h
   obtain ⟨c,F',hr,hF,hc⟩:=adU vs h2 (by simpa using hj)
   refine ⟨c,F',hr,fun g hg=>by simp [hF g hg],fun i u hu=>?_⟩
   have hl:=adm v h1
   simp only [List.take_succ_cons,V.ns]
   rw [← hl,Nat.add_assoc,List.getElem?_append_right (by omega)]
   have e:c1.length+(V.ns (vs.take j)+i) - c1.length=V.ns (vs.take j)+i:=by omega
   rw [e]; exact hc i u hu
theorem acU {sz:Nat}:∀ (xs:List V) (j:Nat),aas sz xs→j≤xs.length→V.ns (xs.take j)=j * sz
 | _,0,_,_=>by simp [V.ns]
 | [],j+1,_,h=>by simp at h
 | v :: vs,j+1,ha,h=>by
   simp only [List.take_succ_cons,V.ns,ha v (by simp)]
   rw [acU vs j (fun x hx=>ha x (by simp [hx])) (by simpa using h)]
   rw [Nat.add_mul]; omega
theorem aks:∀ (p:List Nat) {v u:V} {g o g' o':Nat} {F},At w Pb v g o F→V.at g o v p=some (g',o',u)→∃ F',At w Pb u g' o' F'∧∀ x,x∈F'→x∈F
 | [],v,u,g,o,g',o',F,h,e=>by
   simp only [V.at,Option.some.injEq,Prod.mk.injEq] at e
   obtain ⟨rfl,rfl,rfl⟩:=e
   exact ⟨F,h,fun _ h=>h⟩
 | j :: p,v,u,g,o,g',o',F,h,e=>by
   simp only [V.at] at e
   obtain ⟨cs,cells,hb,hr,hc⟩:=h
   split at e
   rename_i vs
   split at e
   rename_i x hx
   simp only [R] at hr
   obtain ⟨c,F',hr',hF,hc'⟩:=adU vs hr hx
   obtain ⟨F'',h2,hF2⟩:=aks p (v:=x) ⟨c,cells,hb,hr',fun i u hu=>by rw [Nat.add_assoc]; exact hc _ _ (hc' i u hu)⟩ e
   exact ⟨F'',h2,fun y hy=>hF y (hF2 y hy)⟩
   simp at e
   rename_i sz xs g1 o1 c1
   split at e
   rename_i x hx
   rcases hr with ⟨_,rfl,_⟩ | ⟨_,_,_,_,ha,_,flat,F',cells',rfl,hr,hb',_,hc'⟩
   simp at hx
   obtain ⟨c,F'',hr',hF,hc''⟩:=adU xs hr hx
   have hj:j≤xs.length:=by have:=(List.getElem?_eq_some_iff.1 hx).1; omega
   rw [acU xs j ha hj] at hc''
   obtain ⟨F3,h3,hF3⟩:=aks p (v:=x) ⟨c,cells',hb',hr',fun i u hu=>by rw [Nat.add_assoc]; exact hc' _ _ (hc'' i u hu)⟩ e
   exact ⟨F3,h3,fun y hy=>by simp [hF y (hF3 y hy)]⟩
   simp at e
   simp at e
theorem acn {g o:Nat} {cells:Array Value} (h:Blk w g cells):w.cell? ⟨g,o,none⟩=cells[o]? :=by
 obtain ⟨e,fr,hb,_⟩:=h
 simp [World.cell?,hb]
theorem acF (g o j:Nat):(⟨g,o,none⟩:Addr).add j=⟨g,o+j,none⟩:=by unfold Addr.add; split <;> simp_all
theorem aqP {P:Program} {T:Nat} {i:TI} (h:ti P T=some i):(isAgg T).run P w=.ok i.d.agg w:=by
 obtain ⟨inf,d,_,h2,_,_,h5⟩:=afB h
 unfold isAgg
 simp only [Sem.run_bind,aau h2,Result.andThen_ok]
 rw [← h5]
 cases d <;> rfl
theorem acg {P:Program} {T:Nat} {i:TI} (h:ti P T=some i):(sizeOf T).run P w=.ok i.sz w:=by
 obtain ⟨inf,d,h1,_,h3,_,_⟩:=afB h
 simp [sizeOf,typeInfo,h1,h3]
theorem ail {P:Program} {T:Nat} {i:TI} (h:ti P T=some i) {v:V} {cs:List Value} {g o:Nat} {F} (hr:R w Pb v cs F) (hn:v.n=i.sz) (ha:i.d.agg=v.isAgg)
 (hc:∀ j u,cs[j]? =some u→w.cell? ⟨g,o+j,none⟩=some u):∃ x,(loadVar T ⟨g,o,none⟩).run P w=.ok x w∧RV w Pb v x F:=by
 unfold loadVar
 simp only [Sem.run_bind,aqP h,Result.andThen_ok]
 have hl:=adm v hr
 cases v with
 | agg vs=>
   simp only [V.isAgg] at ha
   rw [ha]
   simp only [if_true,Sem.run_bind,acg h,Result.andThen_ok]
   rw [← hn,← hl,run_loadCells_list w _ cs (fun j v hv=>by rw [acF]; exact hc j v hv)]
   exact ⟨_,rfl,_,rfl,hr⟩
 | tup _=>simp [R] at hr
 | gv _ _=>simp [R] at hr
 | dead=>
   simp only [V.isAgg] at ha
   rw [ha]
   obtain ⟨hF,x,rfl,hx⟩:=hr
   have:=hc 0 x rfl
   simp only [Nat.add_zero] at this
   exact ⟨x,by simp [this],hF⟩
 | _=>
   simp only [V.isAgg] at ha
   rw [ha]
   simp only [V.n] at hl
   obtain ⟨x,rfl⟩:=List.length_eq_one_iff.1 hl
   have:=hc 0 x rfl
   simp only [Nat.add_zero] at this
   exact ⟨x,by simp [this],hr⟩
end
end Go.Abs
namespace Go.Abs
open Go
def agF (P:Program) (d:Option D) (x:V) (j:Nat):Option (Prop×V):=
 match d with
 | some (.st fs)=>match fs[j]? with
   | some (off,T)=>match ti P T with
     | some i=>match x with
       | .ptr r p g o=>some (i.sz≠0,.ptr r (p++[j]) g (o+off))
       | .ep (.agg vs)=>match vs[j]? with
         | some v=>some (i.sz≠0∧V.ns (vs.take j)=off,.ep v)
         | none=>none
       | _=>none
     | none=>none
   | none=>none
 | _=>none
def aol (P:Program) (d:Option D) (x:V) (j:Nat):Option (Prop×V):=
 match d with
 | some (.st fs)=>match fs[j]? with
   | some (off,T)=>match ti P T with
     | some i=>match x with
       | .agg vs=>match vs[j]? with
         | some v=>some (V.ns (vs.take j)=off∧i.sz=v.n∧i.d.agg=v.isAgg,v)
         | none=>none
       | _=>none
     | none=>none
   | none=>none
 | _=>none
def ajs (A:AS) (i:Option TI) (x:V):Option (Prop×V):=
 match i with
 | some i=>match x with
   | .ptr r p g o=>match A.at r p with
     | some (g',o',v)=>some (g'=g∧o'=o∧v.n=i.sz∧i.d.agg=v.isAgg,v.cpy r p)
     | none=>none
   | .ep v=>some (v.n=i.sz∧i.d.agg=v.isAgg,v)
   | _=>none
 | none=>none
def afz (P:Program) (d:Option D) (x i:V):Option (Prop×V):=
 match d,i with
 | some (.sl e),.lit (.int _ i)=>match ti P e with
   | some t=>match x with
     | .sl _ xs=>some (0≤i∧i < xs.length∧(xs.getD i.toNat .dead).n=t.sz,.ep (xs.getD i.toNat .dead))
     | .hd r p sz g o lo n _=>some (0≤i∧i < n∧sz=t.sz,.ptr r (p++[lo+i.toNat]) g (o+(lo+i.toNat) * sz))
     | _=>none
   | none=>none
 | some (.arr n e),.lit (.int _ i)=>match ti P e with
   | some t=>match x with
     | .ptr r p g o=>some (0≤i∧i < n,.ptr r (p++[i.toNat]) g (o+i.toNat * t.sz))
     | _=>none
   | none=>none
 | _,_=>none
def awA (P:Program) (d:Option D) (x:V) (lo hi:Option V):Option (Prop×V):=
 match d with
 | some (.sl e)=>match ti P e with
   | some t=>match x with
     | .sl _ xs=>match loI lo,hiI xs.length hi with
       | some l,some h=>some (0≤l∧l≤h∧h≤xs.length∧∀ x∈xs,x.n=t.sz,.sl false ((xs.take h.toNat).drop l.toNat))
       | _,_=>none
     | .hd r p sz g o lo' n c=>match loI lo,hiI n hi with
       | some l,some h=>some (0≤l∧l≤h∧h≤n∧sz=t.sz,.hd r p sz g o (lo'+l.toNat) (h.toNat - l.toNat) (c - l.toNat))
       | _,_=>none
     | _=>none
   | none=>none
 | _=>none
def aje:V→Option Value
 | .lit x=>some x
 | .ptr _ _ g o=>some (.pointer (some ⟨g,o,none⟩))
 | _=>none
def afW:List V→Option (List Value)
 | []=>some []
 | v :: vs=>match aje v,afW vs with
   | some x,some xs=>some (x :: xs)
   | _,_=>none
def valOf:V→Option Value
 | .agg vs=>match afW vs with
   | some xs=>some (.agg xs.toArray)
   | none=>none
 | v=>aje v
def aCv:V→Option (Prop×V)
 | .ptr r p g o=>some (True,.ptr r p g o)
 | .ep v=>some (True,.ep v)
 | _=>none
def avU:Option TypeDesc→Bool
 | some (.interface _)=>true
 | none=>true
 | _=>false
def aCD (P:Program) (T:Nat) (x:V):Option (Prop×V):=
 if avU (P.underlying T)=true then none else match valOf x with
  | some y=>some (True,.lit (.iface T y))
  | none=>none
def zeroV (P:Program) (T:Nat):Option V:=match P.info? T with
 | some i=>i.zero.map cV
 | none=>none
def aDi (P:Program) (T:Nat) (x:V):Option (Prop×V):=
 if avU (P.underlying T)=true then none else match x,zeroV P T with
  | .lit (.iface t v),some z=>some (True,if t=T then .tup [cV v,.lit (.bool true)] else .tup [z,.lit (.bool false)])
  | .lit .nilIface,some z=>some (True,.tup [z,.lit (.bool false)])
  | _,_=>none
def aCY (fn:Fn) (a b:List V):Option (Prop×V):=match afW a,afW b with
 | some x,some y=>some (True,.lit (.func fn x.toArray y.toArray))
 | _,_=>none
def stX (P:Program) (A:AS) (op:Op):Option (Prop×V):=
 match op with
 | .load T x=>ajs A (ti P T) (A.ev x)
 | .fieldAddr T x j=>agF P (tD P T) (A.ev x) j
 | .field T x j=>aol P (tD P T) (A.cp x) j
 | .indexAddr T x i=>afz P (tD P T) (A.ev x) (A.ev i)
 | .slice T x lo hi none=>match tD P T with
   | some .str=>awg (some .str) (A.ev x) (lo.map A.ev) (hi.map A.ev)
   | d=>awA P d (A.ev x) (lo.map A.ev) (hi.map A.ev)
 | .nilCheck x=>aCv (A.ev x)
 | .makeInterface T x=>aCD P T (A.cp x)
 | .typeAssert x _ T true=>aDi P T (A.ev x)
 | .makeFunc fn a b=>aCY fn (a.toList.map A.ev) (b.toList.map A.ev)
 | op=>stV P A op
section
variable {w:World} {Pb Kb:Nat→Prop} {N:Nat} {A:AS} {a:Act} {F:Root→List Nat} {P:Program}
theorem agV (h:SIM N Pb Kb A a w F) {r:Root} {p:List Nat} {g o:Nat} {v:V} (e:A.at r p=some (g,o,v)):∃ F',At w Pb v g o F':=by
 unfold AS.at at e
 split at e
 rename_i k
 split at e
 rename_i g' v' hk
 obtain ⟨F',_,hr⟩:=h.root k g' v' hk
 obtain ⟨F'',h2,_⟩:=aks p (v:=v') (g:=g') (o:=0) hr e
 exact ⟨F'',h2⟩
 simp at e
 rename_i i
 split at e
 rename_i sz xs g' o' c j p hi
 have hr:=h.slot i
 rw [hi] at hr
 simp only [V.at] at e
 split at e
 rename_i x hx
 rcases hr with ⟨_,rfl,_⟩ | ⟨_,_,_,_,ha,_,flat,F',cells',_,hr,hb',_,hc'⟩
 simp at hx
 obtain ⟨c,F'',hr',hF,hc''⟩:=adU xs hr hx
 have hj:j≤xs.length:=by have:=(List.getElem?_eq_some_iff.1 hx).1; omega
 rw [acU xs j ha hj] at hc''
 obtain ⟨F3,h3,_⟩:=aks p (v:=x) ⟨c,cells',hb',hr',fun i u hu=>by rw [Nat.add_assoc]; exact hc' _ _ (hc'' i u hu)⟩ e
 exact ⟨F3,h3⟩
 simp at e
 simp at e
theorem aym (hs:SIM N Pb Kb A a w F) {T:Nat} {x:Operand} {C:Prop} {v:V} (h:ajs A (ti P T) (A.ev x)=some (C,v)) (hC:C):
 ∃ y,(Instr.loadAt T (a.eval x)).run P w=.ok y w∧RV w Pb v y []:=by
 unfold ajs at h
 split at h
 case h_2=>simp at h
 rename_i i hi
 obtain ⟨Fx,hr⟩:=adp hs x
 split at h
 rename_i r p g o e
 rw [e] at hr
 split at h
 rename_i g' o' u hat
 simp only [Option.some.injEq,Prod.mk.injEq] at h
 obtain ⟨rfl,rfl⟩:=h
 obtain ⟨rfl,rfl,hn,ha⟩:=hC
 obtain ⟨F',cs,cells,hb,hru,hcell⟩:=agV hs hat
 have hx:a.eval x=.pointer (some ⟨g',o',none⟩):=by have:=hr.2; simpa using this
 obtain ⟨y,hy,hr'⟩:=ail (w:=w) hi (agT r u p hru) (g:=g') (o:=o') (by
  have:(u.cpy r p).n=u.n:=by
   have h1:=adm _ (agT r u p hru); have h2:=adm _ hru; omega
  omega) (by rw [ha]; cases u <;> rfl) (fun j u hu=>by rw [acn hb]; exact hcell j u hu)
 exact ⟨y,by simp only [Instr.loadAt,hx,Instr.sureAddr,Sem.run_bind,Sem.run_pure,Result.andThen_ok,hy],hr'⟩
 simp at h
 rename_i u e
 rw [e] at hr
 simp only [Option.some.injEq,Prod.mk.injEq] at h
 obtain ⟨rfl,rfl⟩:=h
 obtain ⟨hn,ha⟩:=hC
 obtain ⟨_,b,o,flat,hx,hb,hru,hcell⟩:=hr
 have hx:a.eval x=.pointer (some ⟨b,o,none⟩):=by simpa using hx
 obtain ⟨y,hy,hr'⟩:=ail (w:=w) hi hru hn ha hcell
 exact ⟨y,by simp only [Instr.loadAt,hx,Instr.sureAddr,Sem.run_bind,Sem.run_pure,Result.andThen_ok,hy],hr'⟩
 simp at h
theorem avY {T:Nat} {fs:List (Nat×Nat)} (h:tD P T=some (.st fs)):∃ fl:Array Field,P.underlying T=some (.struct fl)∧fl.toList.map (fun f=>(f.offset,f.type))=fs:=by
 obtain ⟨td,hu,hd⟩:=aby h
 cases td <;> simp [abZ] at hd
 rename_i fl
 exact ⟨fl,hu,hd⟩
theorem atm {fl:Array Field} {fs:List (Nat×Nat)} (h:fl.toList.map (fun f=>(f.offset,f.type))=fs) {j off T:Nat} (e:fs[j]? =some (off,T)):∃ f,fl[j]? =some f∧f.offset=off∧f.type=T:=by
 subst h
 simp only [List.getElem?_map] at e
 cases hf:fl.toList[j]? with
 | none=>rw [hf] at e; simp at e
 | some f=>rw [hf] at e; simp at e; exact ⟨f,by simpa using hf,e⟩
theorem apt (hs:SIM N Pb Kb A a w F) {T:Nat} {x:Operand} {j:Nat} {C:Prop} {v:V} (h:agF P (tD P T) (A.ev x) j=some (C,v)) (hC:C):
 ∃ y,(Instr.fieldAt T (a.eval x) j).run P w=.ok y w∧RV w Pb v y []:=by
 unfold agF at h
 split at h
 case h_2=>simp at h
 rename_i fs hT
 split at h
 case h_2=>simp at h
 rename_i off T' hj
 split at h
 case h_2=>simp at h
 rename_i i hi
 obtain ⟨fl,hu,hfl⟩:=avY hT
 obtain ⟨f,hf,ho,ht⟩:=atm hfl hj
 obtain ⟨Fx,hr⟩:=adp hs x
 split at h
 rename_i r p g o e
 rw [e] at hr
 simp only [Option.some.injEq,Prod.mk.injEq] at h
 obtain ⟨rfl,rfl⟩:=h
 have hx:a.eval x=.pointer (some ⟨g,o,none⟩):=by have:=hr.2; simpa using this
 refine ⟨.pointer (some ⟨g,o+off,none⟩),?_,rfl,rfl⟩
 simp only [Instr.fieldAt,Sem.run_bind,aau hu,Result.andThen_ok,hf,hx,Instr.sureAddr,Sem.run_pure,fieldPlace,ht,acg hi,if_neg hC,ho,acF]
 · rename_i vs e
   rw [e] at hr
   split at h
   case h_2=>simp at h
   rename_i u hu'
   simp only [Option.some.injEq,Prod.mk.injEq] at h
   obtain ⟨rfl,rfl⟩:=h
   obtain ⟨h0,hoff⟩:=hC
   obtain ⟨_,b,o,flat,hx,hb,hru,hcell⟩:=hr
   have hx:a.eval x=.pointer (some ⟨b,o,none⟩):=by simpa using hx
   simp only [R] at hru
   obtain ⟨c,F',hr',hF,hc'⟩:=adU vs hru hu'
   have hF':F'=[]:=List.eq_nil_iff_forall_not_mem.2 fun g hg=>by simpa using hF g hg
   subst hF'
   refine ⟨.pointer (some ⟨b,o+off,none⟩),?_,rfl,b,o+off,c,rfl,hb,hr',fun i u hu=>by rw [← hoff,Nat.add_assoc]; exact hcell _ _ (hc' i u hu)⟩
   simp only [Instr.fieldAt,Sem.run_bind,aau hu,Result.andThen_ok,hf,hx,Instr.sureAddr,Sem.run_pure,fieldPlace,ht,acg hi,if_neg h0,ho,acF]
 simp at h
theorem awP (hs:SIM N Pb Kb A a w F) {T:Nat} {x:Operand} {j:Nat} {C:Prop} {v:V} (h:aol P (tD P T) (A.cp x) j=some (C,v)) (hC:C):
 ∃ y,(Instr.field T (a.eval x) j).run P w=.ok y w∧RV w Pb v y []:=by
 unfold aol at h
 split at h
 case h_2=>simp at h
 rename_i fs hT
 split at h
 case h_2=>simp at h
 rename_i off T' hj
 split at h
 case h_2=>simp at h
 rename_i i hi
 obtain ⟨fl,hu,hfl⟩:=avY hT
 obtain ⟨f,hf,ho,ht⟩:=atm hfl hj
 have hr:=akI hs x
 split at h
 case h_2=>simp at h
 rename_i vs e
 rw [e] at hr
 split at h
 case h_2=>simp at h
 rename_i u hu'
 simp only [Option.some.injEq,Prod.mk.injEq] at h
 obtain ⟨rfl,rfl⟩:=h
 obtain ⟨hoff,hn,ha⟩:=hC
 obtain ⟨cs,hx,hr⟩:=hr
 obtain ⟨c,F',hr',hF,hc'⟩:=adU vs hr hu'
 have hF':F'=[]:=List.eq_nil_iff_forall_not_mem.2 fun g hg=>by simpa using hF g hg
 subst hF'
 have hl:=adm _ hr'
 simp only [Instr.field,Sem.run_bind,aau hu,Result.andThen_ok,hf,hx,asAgg,Sem.run_pure,part,ht,aqP hi,ho]
 rw [hoff] at hc'
 cases u with
 | agg us=>
   simp only [V.isAgg] at ha
   rw [ha]
   simp only [if_true,Sem.run_bind,acg hi,Result.andThen_ok,Sem.run_pure]
   refine ⟨_,rfl,_,rfl,?_⟩
   have hcs:(cs.extract off (off+i.sz)).toList=c:=by
    apply List.ext_getElem?
    intro k
    by_cases hk:k < c.length
    have h1:=hc' k _ (List.getElem?_eq_getElem hk)
    rw [List.getElem?_eq_getElem hk]
    simp only [Array.getElem?_toList] at h1 ⊢
    rw [Array.getElem?_extract]
    have hlt:=(Array.getElem?_eq_some_iff.1 h1).1
    rw [if_pos (by omega)]; exact h1
    have hz:(cs.extract off (off+i.sz)).toList.length≤i.sz:=by
     rw [Array.length_toList,Array.size_extract]; omega
    rw [List.getElem?_eq_none (by omega),List.getElem?_eq_none (by omega)]
   rw [hcs]
   simp only [R] at hr'; exact hr'
 | tup _=>simp [R] at hr'
 | gv _ _=>simp [R] at hr'
 | dead=>
   simp only [V.isAgg] at ha
   rw [ha]
   obtain ⟨_,y,rfl,hy⟩:=hr'
   have h1:=hc' 0 y rfl
   simp only [Nat.add_zero,Array.getElem?_toList] at h1
   exact ⟨y,by simp [h1],rfl⟩
 | _=>
   simp only [V.isAgg] at ha
   rw [ha]
   simp only [V.n] at hl
   obtain ⟨y,rfl⟩:=List.length_eq_one_iff.1 hl
   have h1:=hc' 0 y rfl
   simp only [Nat.add_zero,Array.getElem?_toList] at h1
   exact ⟨y,by simp [h1],hr'⟩
theorem ait {T e:Nat} (h:tD P T=some (.sl e)):P.underlying T=some (.slice e):=by
 obtain ⟨td,hu,hd⟩:=aby h
 cases td <;> simp [abZ] at hd
 subst hd; exact hu
theorem getD_some {xs:List V} {i:Nat} (h:i < xs.length):xs[i]? =some (xs.getD i .dead):=by
 simp [List.getD,List.getElem?_eq_getElem h]
theorem aDc {T n e:Nat} (h:tD P T=some (.arr n e)):P.underlying T=some (.array n e):=by
 obtain ⟨td,hu,hd⟩:=aby h
 cases td <;> simp [abZ] at hd
 obtain ⟨rfl,rfl⟩:=hd; exact hu
theorem apS (hs:SIM N Pb Kb A a w F) {T:Nat} {x ix:Operand} {C:Prop} {v:V} (h:afz P (tD P T) (A.ev x) (A.ev ix)=some (C,v)) (hC:C):
 ∃ y,(Instr.indexAt T (a.eval x) (a.eval ix)).run P w=.ok y w∧RV w Pb v y []:=by
 unfold afz at h
 split at h
 case h_3=>simp at h
 case h_2=>
  rename_i n e k i hT hi
  have hu:=aDc hT
  split at h
  case h_2=>simp at h
  rename_i t ht
  obtain ⟨Fx,hr⟩:=adp hs x
  split at h
  case h_2=>simp at h
  rename_i r p g o hx
  rw [hx] at hr
  simp only [Option.some.injEq,Prod.mk.injEq] at h
  obtain ⟨rfl,rfl⟩:=h
  have hv:a.eval x=.pointer (some ⟨g,o,none⟩):=by have:=hr.2; simpa using this
  refine ⟨.pointer (some ⟨g,o+i.toNat * t.sz,none⟩),?_,rfl,rfl⟩
  simp only [Instr.indexAt,abq hs hi,asIntOf,Sem.run_bind,Sem.run_pure,Result.andThen_ok,aau hu,hv,Instr.sureAddr,if_pos (⟨hC.1,hC.2⟩:0≤i∧i < (n:Int)),acg ht,acF]
 rename_i e k i hT hi
 have hu:=ait hT
 split at h
 case h_2=>simp at h
 rename_i t ht
 obtain ⟨Fx,hr⟩:=adp hs x
 split at h
 rename_i full xs hx
 rw [hx] at hr
 simp only [Option.some.injEq,Prod.mk.injEq] at h
 obtain ⟨rfl,rfl⟩:=h
 obtain ⟨h0,h1,hn⟩:=hC
 have hlt:i.toNat < xs.length:=by omega
 obtain ⟨_,A',c,hv,hl,_,hz⟩:=hr
 have hv:a.eval x=.slice A' xs.length c:=by simpa using hv
 rcases hz with rfl | ⟨b,o,sz,flat,rfl,hb,_,hN,hrl,hcell⟩
 simp at hlt
 obtain ⟨cu,F',hr',hF,hc'⟩:=adU xs hrl (getD_some hlt)
 have hF':F'=[]:=List.eq_nil_iff_forall_not_mem.2 fun g hg=>by simpa using hF g hg
 subst hF'
 rw [acU xs _ hN (by omega)] at hc'
 have hsz:sz=t.sz:=by rw [← hn]; exact (hN _ (List.mem_of_getElem? (getD_some hlt))).symm
 refine ⟨.pointer (some ⟨b,o+i.toNat * t.sz,none⟩),?_,rfl,b,o+i.toNat * t.sz,cu,rfl,hb,hr',fun j u hu=>by rw [← hsz,Nat.add_assoc]; exact hcell _ _ (hc' j u hu)⟩
 simp only [Instr.indexAt,abq hs hi,asIntOf,Sem.run_bind,Sem.run_pure,Result.andThen_ok,aau hu,hv,if_pos (⟨h0,h1⟩:0≤i∧i < (xs.length:Int)),acg ht,acF]
 rename_i r p sz g o lo n c hx
 rw [hx] at hr
 simp only [Option.some.injEq,Prod.mk.injEq] at h
 obtain ⟨rfl,rfl⟩:=h
 obtain ⟨h0,h1,hn⟩:=hC
 obtain ⟨_,hnc,A',hv,hA⟩:=hr
 have hv:a.eval x=.slice A' n c:=by simpa using hv
 obtain rfl:=hA (by omega)
 refine ⟨.pointer (some ⟨g,o+(lo+i.toNat) * sz,none⟩),?_,rfl,rfl⟩
 simp only [Instr.indexAt,abq hs hi,asIntOf,Sem.run_bind,Sem.run_pure,Result.andThen_ok,aau hu,hv,if_pos (⟨h0,h1⟩:0≤i∧i < (n:Int)),acg ht,acF]
 subst hn
 rw [Nat.add_assoc,← Nat.add_mul]
 simp at h
theorem ajT:∀ (vs:List V) (k:Nat) {cs:List Value},RL w Pb vs cs []→∃ c':List Value,RL w Pb (vs.drop k) c' []∧∀ i u,c'[i]? =some u→cs[V.ns (vs.take k)+i]? =some u
 | vs,0,cs,h=>⟨cs,h,fun i u hu=>by simpa [V.ns] using hu⟩
 | [],k+1,cs,h=>⟨[],by simpa using ⟨rfl,rfl⟩,fun i u hu=>by simp at hu⟩
 | v :: vs,k+1,cs,h=>by
   obtain ⟨c1,c2,F1,F2,rfl,hF,h1,h2⟩:=h
   have hF2:F2=[]:=by have:=hF.symm; simp at this; exact this.2
   subst hF2
   obtain ⟨c',hr,hc⟩:=ajT vs k h2
   refine ⟨c',by simpa using hr,fun i u hu=>?_⟩
   have hl:=adm v h1
   simp only [List.take_succ_cons,V.ns]
   rw [← hl,Nat.add_assoc,List.getElem?_append_right (by omega)]
   have e:c1.length+(V.ns (vs.take k)+i) - c1.length=V.ns (vs.take k)+i:=by omega
   rw [e]; exact hc i u hu
theorem ajV:∀ (vs:List V) (k:Nat) {cs:List Value},RL w Pb vs cs []→∃ c':List Value,RL w Pb (vs.take k) c' []∧∀ (i:Nat) u,c'[i]? =some u→cs[i]? =some u
 | vs,0,cs,h=>⟨[],by simpa using ⟨rfl,rfl⟩,fun i u hu=>by simp at hu⟩
 | [],k+1,cs,h=>⟨[],by simpa using ⟨rfl,rfl⟩,fun i u hu=>by simp at hu⟩
 | v :: vs,k+1,cs,h=>by
   obtain ⟨c1,c2,F1,F2,rfl,hF,h1,h2⟩:=h
   have hF':=hF.symm
   simp at hF'
   obtain ⟨rfl,rfl⟩:=hF'
   obtain ⟨c',hr,hc⟩:=ajV vs k h2
   refine ⟨c1++c',⟨c1,c',[],[],rfl,rfl,h1,hr⟩,fun i u hu=>?_⟩
   by_cases hi:i < c1.length
   rw [List.getElem?_append_left hi] at hu ⊢; exact hu
   rw [List.getElem?_append_right (by omega)] at hu ⊢; exact hc _ _ hu
theorem aze (hs:SIM N Pb Kb A a w F) {T:Nat} {x:Operand} {lo hi:Option Operand} {C:Prop} {v:V} (h:awA P (tD P T) (A.ev x) (lo.map A.ev) (hi.map A.ev)=some (C,v)) (hC:C):
 ∃ y,(Instr.sliceAt T (a.eval x) (lo.map a.eval) (hi.map a.eval) none).run P w=.ok y w∧RV w Pb v y []:=by
 unfold awA at h
 split at h
 case h_2=>simp at h
 rename_i e hT
 have hu:=ait hT
 split at h
 case h_2=>simp at h
 rename_i t ht
 obtain ⟨Fx,hr⟩:=adp hs x
 split at h
 · rename_i full xs hx
   rw [hx] at hr
   split at h
   case h_2=>simp at h
   rename_i l h' hl hh
   simp only [Option.some.injEq,Prod.mk.injEq] at h
   obtain ⟨rfl,rfl⟩:=h
   obtain ⟨h0,h1,h2,hn⟩:=hC
   have b1:(lo.map a.eval=none∧l=0)∨∃ k,lo.map a.eval=some (.int k l):=(arS hs hl).imp (fun ⟨e,f⟩=>⟨by simp [e],f⟩) id
   have b2:(hi.map a.eval=none∧h'=xs.length)∨∃ k,hi.map a.eval=some (.int k h'):=(apG hs hh).imp (fun ⟨e,f⟩=>⟨by simp [e],f⟩) id
   obtain ⟨_,A',c,hv,hlc,_,hz⟩:=hr
   have hv:a.eval x=.slice A' xs.length c:=by simpa using hv
   have hlen:((xs.take h'.toNat).drop l.toNat).length=h'.toNat - l.toNat:=by simp; omega
   refine ⟨.slice (if c=l.toNat then A' else A'.map (·.add (l.toNat * t.sz))) (h'.toNat - l.toNat) (c - l.toNat),?_,?_⟩
   simp only [Instr.sliceAt,Instr.slice,Sem.run_bind,aau hu,Result.andThen_ok,hv,agZ (w:=w) (P:=P) (sl:=true) b1 b2 h0 h1 (show h'≤(c:Nat) by omega) hlc,acg ht,Sem.run_pure]
   refine ⟨rfl,_,c - l.toNat,by rw [hlen],by omega,by simp,?_⟩
   by_cases he:h'.toNat - l.toNat=0
   left; exact List.eq_nil_of_length_eq_zero (by omega)
   right
   rcases hz with rfl | ⟨b,o,sz,flat,rfl,hb,hsz0,hN,hrl,hcell⟩
   simp at h2; omega
   have hsz:sz=t.sz:=by
    cases xs with
    | nil=>simp at h2; omega
    | cons x0 xs=>rw [← hn x0 (by simp)]; exact (hN x0 (by simp)).symm
   obtain ⟨c1,hr1,hc1⟩:=ajV xs h'.toNat hrl
   obtain ⟨c2,hr2,hc2⟩:=ajT _ l.toNat hr1
   have hN':aas sz (xs.take h'.toNat):=fun x hx=>hN x (List.mem_of_mem_take hx)
   rw [acU _ _ hN' (by simp; omega)] at hc2
   rw [if_neg (by omega)]
   refine ⟨b,o+l.toNat * t.sz,sz,c2,by simp [acF],hb,hsz0,fun x hx=>hN' x (List.mem_of_mem_drop hx),hr2,fun j u hu=>?_⟩
   rw [← hsz,Nat.add_assoc]; exact hcell _ _ (hc1 _ _ (hc2 j u hu))
 · rename_i r p sz g o lo' n c hx
   rw [hx] at hr
   split at h
   case h_2=>simp at h
   rename_i l h' hl hh
   simp only [Option.some.injEq,Prod.mk.injEq] at h
   obtain ⟨rfl,rfl⟩:=h
   obtain ⟨h0,h1,h2,hn⟩:=hC
   have b1:(lo.map a.eval=none∧l=0)∨∃ k,lo.map a.eval=some (.int k l):=(arS hs hl).imp (fun ⟨e,f⟩=>⟨by simp [e],f⟩) id
   have b2:(hi.map a.eval=none∧h'=n)∨∃ k,hi.map a.eval=some (.int k h'):=(apG hs hh).imp (fun ⟨e,f⟩=>⟨by simp [e],f⟩) id
   obtain ⟨_,hnc,A',hv,hA⟩:=hr
   have hv:a.eval x=.slice A' n c:=by simpa using hv
   refine ⟨.slice (if c=l.toNat then A' else A'.map (·.add (l.toNat * t.sz))) (h'.toNat - l.toNat) (c - l.toNat),?_,?_⟩
   simp only [Instr.sliceAt,Instr.slice,Sem.run_bind,aau hu,Result.andThen_ok,hv,agZ (w:=w) (P:=P) (sl:=true) b1 b2 h0 h1 (show h'≤(c:Nat) by omega) hnc,acg ht,Sem.run_pure]
   refine ⟨rfl,by omega,_,rfl,fun hc=>?_⟩
   rw [if_neg (by omega),hA (by omega)]
   subst hn
   simp only [Option.map_some,acF,Nat.add_mul,Nat.add_assoc]
 simp at h
theorem anE {v:V} {y:Value} {cs:List Value} {F1:List Nat} (hy:aje v=some y) (h:R w Pb v cs F1):cs=[y]∧y.oneCell'=true:=by
 cases v <;> simp only [aje,Option.some.injEq,reduceCtorEq] at hy
 subst hy; exact ⟨h.2.1,h.1⟩
 subst hy; exact ⟨h.2,rfl⟩
theorem asx:∀ {vs:List V} {xs cs:List Value} {F1:List Nat},afW vs=some xs→RL w Pb vs cs F1→cs=xs
 | [],xs,cs,F1,h,hr=>by simp only [afW,Option.some.injEq] at h; rw [← h,hr.1]
 | v :: vs,xs,cs,F1,h,hr=>by
   simp only [afW] at h
   split at h
   rename_i y ys e1 e2
   simp only [Option.some.injEq] at h; subst h
   obtain ⟨c1,c2,Fa,Fb,rfl,_,h1,h2⟩:=hr
   rw [(anE e1 h1).1,asx e2 h2]; rfl
   simp at h
theorem atf {v:V} {y x:Value} {F1:List Nat} (hy:valOf v=some y) (h:RV w Pb v x F1):x=y:=by
 cases v with
 | agg vs=>
   simp only [valOf] at hy
   split at hy
   rename_i xs e
   simp only [Option.some.injEq] at hy
   obtain ⟨cs,rfl,hr⟩:=h
   rw [← hy,← asx e hr]
   simp at hy
 | lit z=>have:=(anE (w:=w) (Pb:=Pb) (v:=.lit z) (y:=y) (cs:=[x]) hy h).1; simpa using this
 | ptr r p g o=>have:=(anE (w:=w) (Pb:=Pb) (v:=.ptr r p g o) (y:=y) (cs:=[x]) hy h).1; simpa using this
 | _=>simp [valOf,aje] at hy
theorem alR (hs:SIM N Pb Kb A a w F):∀ (l:List Operand) {xs:List Value},afW (l.map A.ev)=some xs→l.map a.eval=xs
 | [],xs,h=>by simpa [afW] using h
 | x :: l,xs,h=>by
   simp only [List.map_cons,afW] at h
   split at h
   rename_i y ys e1 e2
   simp only [Option.some.injEq] at h; subst h
   obtain ⟨Fx,hr⟩:=adp hs x
   have:valOf (A.ev x)=some y:=by
    cases hv:A.ev x <;> rw [hv] at e1 <;> simp only [aje,reduceCtorEq,Option.some.injEq] at e1 <;> simp [valOf,aje,e1]
   rw [List.map_cons,atf this hr,alR hs l e2]
   simp at h
theorem aqN {T:Nat} (h: ¬ avU (P.underlying T)=true):∃ d,P.underlying T=some d∧∀ m,d≠.interface m:=by
 cases e:P.underlying T with
 | none=>rw [e] at h; exact absurd rfl h
 | some d=>exact ⟨d,rfl,fun m c=>by rw [e,c] at h; exact h rfl⟩
theorem amO {op:Op} {C:Prop} {v:V} (h:stX P A op=some (C,v)) (hC:C) (hs:SIM N Pb Kb A a w F) {o:Oper} (ho:o.op=op):
 ∃ x,(execOp a.eval o).run P w=.ok (.value x) w∧RV w Pb v x []:=by
 unfold stX at h
 split at h
 obtain ⟨y,hy,hr⟩:=aym hs h hC
 exact ⟨y,by simp only [execOp,ho,Sem.run_bind,hy,Result.andThen_ok,Sem.run_pure],hr⟩
 obtain ⟨y,hy,hr⟩:=apt hs h hC
 exact ⟨y,by simp only [execOp,ho,Sem.run_bind,hy,Result.andThen_ok,Sem.run_pure],hr⟩
 obtain ⟨y,hy,hr⟩:=awP hs h hC
 exact ⟨y,by simp only [execOp,ho,Sem.run_bind,hy,Result.andThen_ok,Sem.run_pure],hr⟩
 obtain ⟨y,hy,hr⟩:=apS hs h hC
 exact ⟨y,by simp only [execOp,ho,Sem.run_bind,hy,Result.andThen_ok,Sem.run_pure],hr⟩
 rename_i T x lo hi
 split at h
 rename_i hT
 refine avB (op:=.slice T x lo hi none) (C:=C) (v:=v) ?_ hC hs ho
 unfold stV; simp only [hT]; exact h
 obtain ⟨y,hy,hr⟩:=aze hs h hC
 exact ⟨y,by simp only [execOp,ho,Sem.run_bind,hy,Option.map_none,Result.andThen_ok,Sem.run_pure],hr⟩
 rename_i x
 unfold aCv at h
 obtain ⟨Fx,hr⟩:=adp hs x
 split at h <;> rename_i e <;> simp only [Option.some.injEq,Prod.mk.injEq,reduceCtorEq] at h <;> obtain ⟨_,rfl⟩:=h <;> rw [e] at hr
 have hx:=(List.cons.inj hr.2).1
 have hx:a.eval x=.pointer (some ⟨_,_,none⟩):=hx
 exact ⟨_,by simp only [execOp,ho,hx]; rfl,⟨rfl,rfl⟩⟩
 have h1:=hr.1
 obtain ⟨_,b,o',flat,hx,h2⟩:=hr
 have hx:=(List.cons.inj hx).1
 exact ⟨_,by simp only [execOp,ho,hx]; rfl,⟨rfl,b,o',flat,rfl,h2⟩⟩
 rename_i T x
 unfold aCD at h
 split at h
 simp at h
 rename_i hi
 obtain ⟨d,hd,hn⟩:=aqN hi
 split at h
 rename_i y e
 simp only [Option.some.injEq,Prod.mk.injEq] at h
 obtain ⟨_,rfl⟩:=h
 have hx:=atf e (akI hs x)
 refine ⟨.iface T y,?_,acw rfl⟩
 have:(Instr.makeInterface T (a.eval x)).run P w=.ok (.iface T y) w:=by
  rw [hx]
  simp only [Instr.makeInterface,Sem.run_bind,aau hd,Result.andThen_ok]
  cases d <;> first | rfl | exact absurd rfl (hn _)
 simp only [execOp,ho,Sem.run_bind,this,Result.andThen_ok,Sem.run_pure]
 simp at h
 · rename_i x xT T
   unfold aDi at h
   split at h
   simp at h
   rename_i hi
   obtain ⟨d,hd,hn⟩:=aqN hi
   have zr:∀ z,zeroV P T=some z→∃ y,(zeroValue T).run P w=.ok y w∧RV w Pb z y []:=fun z hz=>by
    unfold zeroV at hz
    split at hz
    rename_i i hi
    simp only [Option.map_eq_some_iff] at hz
    obtain ⟨y,hy,rfl⟩:=hz
    exact ⟨y,by simp [zeroValue,typeInfo,hi,hy],amu y⟩
    simp at hz
   have tu:∀ (v1:V) (x1:Value) (b:Bool),RV w Pb v1 x1 []→((∀ us,v1≠.tup us)∧∀ b u,v1≠.gv b u)→RV w Pb (.tup [v1,.lit (.bool b)]) (.tuple #[x1,.bool b]) []:=fun v1 x1 b h1 hn1=>by
    refine ⟨_,rfl,x1,[.bool b],[],[],rfl,rfl,?_,.bool b,[],[],[],rfl,rfl,⟨rfl,rfl,rfl⟩,rfl,rfl⟩
    cases v1 with
    | tup us=>exact absurd rfl (hn1.1 us)
    | gv b u=>exact absurd rfl (hn1.2 b u)
    | _=>exact h1
   have cvn:∀ y:Value,(∀ us,cV y≠.tup us)∧∀ b u,cV y≠.gv b u:=fun y=>by
    constructor <;> intros <;> unfold cV <;> repeat' split
    all_goals first | (solve | simp) | (unfold cV1; split <;> simp)
   have zn:∀ z,zeroV P T=some z→(∀ us,z≠.tup us)∧∀ b u,z≠.gv b u:=fun z hz=>by
    unfold zeroV at hz
    split at hz
    simp only [Option.map_eq_some_iff] at hz
    obtain ⟨y,hy,rfl⟩:=hz
    exact cvn y
    simp at hz
   split at h
   rename_i t v z hx hz
   simp only [Option.some.injEq,Prod.mk.injEq] at h
   obtain ⟨_,rfl⟩:=h
   have hx:=abq hs hx
   obtain ⟨y,hy,hry⟩:=zr z hz
   by_cases ht:t=T
   refine ⟨.tuple #[v,.bool true],?_,by rw [if_pos ht]; exact tu _ _ _ (amu v) (cvn v)⟩
   have:(Instr.typeAssert (a.eval x) xT T true).run P w=.ok (.tuple #[v,.bool true]) w:=by
    rw [hx]
    simp only [Instr.typeAssert,Sem.run_bind,aau hd,Result.andThen_ok]
    cases d <;> first | exact absurd rfl (hn _) | simp [ht]
   simp only [execOp,ho,Sem.run_bind,this,Result.andThen_ok,Sem.run_pure]
   refine ⟨.tuple #[y,.bool false],?_,by rw [if_neg ht]; exact tu _ _ _ hry (zn z hz)⟩
   have:(Instr.typeAssert (a.eval x) xT T true).run P w=.ok (.tuple #[y,.bool false]) w:=by
    rw [hx]
    simp only [Instr.typeAssert,Sem.run_bind,aau hd,Result.andThen_ok]
    cases d <;> first | exact absurd rfl (hn _) | simp [ht,hy]
   simp only [execOp,ho,Sem.run_bind,this,Result.andThen_ok,Sem.run_pure]
   rename_i z hx hz
   simp only [Option.some.injEq,Prod.mk.injEq] at h
   obtain ⟨_,rfl⟩:=h
   have hx:=abq hs hx
   obtain ⟨y,hy,hry⟩:=zr z hz
   refine ⟨.tuple #[y,.bool false],?_,tu _ _ _ hry (zn z hz)⟩
   have:(Instr.typeAssert (a.eval x) xT T true).run P w=.ok (.tuple #[y,.bool false]) w:=by
    rw [hx]
    simp only [Instr.typeAssert,Sem.run_bind,aau hd,Result.andThen_ok]
    cases d <;> first | exact absurd rfl (hn _) | simp [hy]
   simp only [execOp,ho,Sem.run_bind,this,Result.andThen_ok,Sem.run_pure]
   simp at h
 rename_i fn p q
 unfold aCY at h
 split at h
 rename_i xs ys e1 e2
 simp only [Option.some.injEq,Prod.mk.injEq] at h
 obtain ⟨_,rfl⟩:=h
 refine ⟨.func fn xs.toArray ys.toArray,?_,acw rfl⟩
 have h1:p.map a.eval=xs.toArray:=by apply Array.ext'; simpa using alR hs _ e1
 have h2:q.map a.eval=ys.toArray:=by apply Array.ext'; simpa using alR hs _ e2
 simp only [execOp,ho,h1,h2]; rfl
 simp at h
 exact avB h hC hs ho
end
end Go.Abs
namespace Go.Abs
open Go
section
variable {w:World} {Pb Kb:Nat→Prop} {N:Nat} {A A':AS} {a:Act} {F:Root→List Nat} {P:Program}
theorem apz {v:V} {x:Value} {F:List Nat} (ho:v.abt=false) (h:RV w Pb v x F):F=[]:=by
 cases v with
 | tup vs=>obtain ⟨xs,_,h⟩:=h; exact anx vs (by simpa [V.abt] using ho) h
 | gv _ _=>exact h.1
 | agg us=>obtain ⟨cs,_,h⟩:=h; exact aeY us (by simpa [V.abt] using ho) h
 | dead=>exact h
 | own sz xs g o c=>exact afi (w:=w) (Pb:=Pb) _ ho h
 | ow sz xs=>exact afi (w:=w) (Pb:=Pb) _ ho h
 | om es g=>exact afi (w:=w) (Pb:=Pb) _ ho h
 | mp es=>exact afi (w:=w) (Pb:=Pb) _ ho h
 | lit x=>exact afi (w:=w) (Pb:=Pb) _ ho h
 | sl f xs=>exact afi (w:=w) (Pb:=Pb) _ ho h
 | hd r p sz g o lo n c=>exact afi (w:=w) (Pb:=Pb) _ ho h
 | ptr r p g o=>exact afi (w:=w) (Pb:=Pb) _ ho h
 | ep v=>exact afi (w:=w) (Pb:=Pb) _ ho h
def AS.drop (A:AS):Operand→AS
 | .tmp i=>if (A.get i).abt then A.put (some i) .dead else A
 | _=>A
def AS.le (A' A:AS):Prop:=(∀ i,A'.get i=.dead∨A'.get i=A.get i)∧(∀ k,lk k A'.h=none∨lk k A'.h=lk k A.h)
open Classical in
theorem SIM.le (hs:SIM N Pb Kb A a w F) (h:A'.le A):∃ F',SIM N Pb Kb A' a w F'∧∀ r g,g∈F' r→g∈F r:=by
 refine ⟨fun r=>match r with | .slot i=>if A'.get i=.dead then [] else F (.slot i) | .key k=>if lk k A'.h=none then [] else F (.key k),?_,?_⟩
 have key:∀ r g,g∈(match r with | .slot i=>if A'.get i=.dead then [] else F (.slot i) | .key k=>if lk k A'.h=none then [] else F (.key k):List Nat)→g∈F r:=by
  intro r g hg
  cases r <;> simp only at hg <;> split at hg <;> simp_all
 refine ⟨hs.size,hs.defers,fun i=>?_,fun k g v hk=>?_,fun r r' hne g hg=>?_,fun r=>?_,fun r g hg=>hs.free r g (key r g hg),hs.sub,hs.bound⟩
 rcases h.1 i with e | e
 simp only [e,if_true]; rfl
 simp only
 split
 rename_i e'; rw [e']; rfl
 rw [e]; exact hs.slot i
 simp only
 rw [if_neg (by rw [hk]; simp)]
 rcases h.2 k with e | e
 rw [e] at hk; simp at hk
 rw [e] at hk; exact hs.root k g v hk
 exact fun hg'=>hs.aaW r r' hne g (key r g hg) (key r' g hg')
 cases r <;> simp only <;> split <;> first | exact List.nodup_nil | exact hs.nodup _
 intro r g hg
 cases r <;> simp only at hg <;> split at hg <;> simp_all
theorem SIM.take (hs:SIM N Pb Kb A a w F) (x:Operand):∃ Fx F',RV w Pb (A.ev x) (a.eval x) Fx∧SIM N Pb Kb (A.drop x) a w F'∧Fx.Nodup∧
 (∀ r g,g∈Fx→g ∉ F' r)∧(∀ g,g∈Fx→¬ Kb g∧g < w.heap.size)∧(∀ r g,g∈F' r→g∈F r)∧∀ g,g∈Fx→∃ r,g∈F r:=by
 cases x with
 | tmp i=>
   by_cases ho:(A.get i).abt=true
   have hn:(A.drop (.tmp i))=A.put (some i) .dead:=by simp [AS.drop,ho]
   refine ⟨F (.slot i),abe F (.slot i) [],hs.slot i,?_,hs.nodup _,fun r g hg=>?_,fun g hg=>hs.free _ g hg,fun r g hg=>?_,fun g hg=>⟨_,hg⟩⟩
   rw [hn]
   refine ⟨hs.size,hs.defers,fun j=>?_,fun k g v hk=>?_,fun r r' hne g hg=>?_,fun r=>?_,fun r g hg=>?_,hs.sub,hs.bound⟩
   rw [AS.aaq]
   by_cases e:j=i
   subst e; simp [abe,RV,RV0]
   have:Root.slot j≠Root.slot i:=fun c=>e (by injection c)
   simp only [if_neg e,abe,if_neg this]; exact hs.slot j
   obtain ⟨F',e,hr⟩:=hs.root k g v hk
   exact ⟨F',by simpa [abe] using e,hr⟩
   simp only [abe] at hg ⊢
   split at hg
   simp at hg
   split
   simp
   exact hs.aaW r r' hne g hg
   simp only [abe]; split
   exact List.nodup_nil
   exact hs.nodup r
   simp only [abe] at hg; split at hg
   simp at hg
   exact hs.free r g hg
   simp only [abe]; split
   simp
   rename_i hne; exact hs.aaW _ r (Ne.symm hne) g hg
   simp only [abe] at hg; split at hg
   simp at hg
   exact hg
   have ho':(A.get i).abt=false:=by simpa using ho
   have hF:=apz ho' (hs.slot i)
   refine ⟨[],F,by have:=hs.slot i; rw [hF] at this; exact this,by simp [AS.drop,ho']; exact hs,List.nodup_nil,by simp,by simp,fun _ _ h=>h,by simp⟩
 | const v=>exact ⟨[],F,amu v,hs,List.nodup_nil,by simp,by simp,fun _ _ h=>h,by simp⟩
 | global g=>exact ⟨[],F,⟨rfl,rfl,rfl⟩,hs,List.nodup_nil,by simp,by simp,fun _ _ h=>h,by simp⟩
 | func f=>exact ⟨[],F,⟨rfl,rfl,rfl⟩,hs,List.nodup_nil,by simp,by simp,fun _ _ h=>h,by simp⟩
theorem ajY {o:Oper} {K:AS→Prop} {C:Prop} {v:V} (h:stX P A o.op=some (C,v)) (hC:C) (hd:aaT N o.dst) (hK:K (A.put o.dst v)):opT P N o A K:=
 aew hd hK fun _ _ _ _ _ hs=>amO h hC hs rfl
theorem akE {o:Oper} {K:AS→Prop} {x:Operand} (ho:o.op=.assign x) (hd:aaT N o.dst) (hK:K ((A.drop x).put o.dst (A.ev x))):opT P N o A K:=by
 intro Pb Kb a w F Q hs
 obtain ⟨Fx,F',hr,hs',hnd,hdis,hfr,_⟩:=hs.take x
 unfold Oper.wp
 have:(execOp a.eval o).run P w=.ok (.value (a.eval x)) w:=by simp only [execOp,ho]; rfl
 rw [this,Oper.upon_value]
 cases hdst:o.dst with
 | none=>exact ⟨_,Pb,Kb,F',hK,by rw [hdst]; exact hs',fun _ h=>h,fun _ h=>h,fun _ h=>.inl h,Keep.refl _ _⟩
 | some d=>
   rw [hdst] at hd hK
   exact ⟨_,Pb,Kb,_,hK,hs'.put hd hr (fun r _ g hg=>hdis r g hg) hnd hfr,fun _ h=>h,fun _ h=>h,fun _ h=>.inl h,Keep.refl _ _⟩
def gd (ops:Array Oper) (o:Oper) (A:AS) (x y:Prop):Prop:=
 match o.guard with
 | none=>x
 | some (j,b)=>match ((ops[j]?).bind (·.dst)).map A.get with
   | some (.lit (.bool b'))=>if b'=b then x else y
   | some (.gv c (.lit (.bool b')))=>if (c&&(b'==b))=true then x else y
   | _=>False
def WL (P:Program) (N:Nat) (ops:Array Oper):List Oper→AS→(AS→Prop)→Prop
 | [],A,K=>K A
 | o :: rest,A,K=>gd ops o A (opT P N o A fun A'=>WL P N ops rest A' K) (aaT N o.dst∧∃ u,(∀ w Pb,RV w Pb u undef [])∧WL P N ops rest (A.put o.dst u) K)
theorem ajc {ops:Array Oper} {o:Oper} {x y:Prop} (h:gd ops o A x y) (hs:SIM N Pb Kb A a w F):
 (Region.wanted o (yielded ops a.tmps)=true∧x)∨(Region.wanted o (yielded ops a.tmps)=false∧y):=by
 unfold gd at h
 unfold Region.wanted
 split at h
 rename_i hg; rw [hg]; exact .inl ⟨rfl,h⟩
 rename_i j b hg
 rw [hg]
 split at h
 rename_i b' hd
 simp only [Option.map_eq_some_iff] at hd
 obtain ⟨d,hd1,hd2⟩:=hd
 have hr:=hs.slot d
 rw [hd2] at hr
 have hx:a.tmps.getD d undef=.bool b':=by have:=hr.2.1; simpa using this
 have hy:yielded ops a.tmps j=some b':=by
  unfold yielded
  rw [hd1]
  simp only [Option.bind_some]
  cases ht:a.tmps[d]? with
  | none=>simp [ht,undef] at hx
  | some u=>simp [ht] at hx; subst hx; rfl
 simp only [hy]
 split at h
 rename_i e; subst e; exact .inl ⟨by simp,h⟩
 rename_i e; exact .inr ⟨by simp [e],h⟩
 rename_i c b' hd
 simp only [Option.map_eq_some_iff] at hd
 obtain ⟨d,hd1,hd2⟩:=hd
 have hr:=hs.slot d
 rw [hd2] at hr
 obtain ⟨_,hr1,hr2⟩:=hr
 cases c with
 | false=>
   have hx:=hr2 rfl
   have hy:yielded ops a.tmps j=none:=by
    unfold yielded
    rw [hd1]
    simp only [Option.bind_some]
    cases ht:a.tmps[d]? with
    | none=>simp
    | some u=>simp [ht] at hx; subst hx; rfl
   simp only [hy]
   simp only [Bool.false_and,Bool.false_eq_true,if_false] at h
   exact .inr ⟨by simp,h⟩
 | true=>
   have hx:a.tmps.getD d undef=.bool b':=by have:=(hr1 rfl).2.1; simpa using this
   have hy:yielded ops a.tmps j=some b':=by
    unfold yielded
    rw [hd1]
    simp only [Option.bind_some]
    cases ht:a.tmps[d]? with
    | none=>simp [ht,undef] at hx
    | some u=>simp [ht] at hx; subst hx; rfl
   simp only [hy]
   simp only [Bool.true_and,beq_iff_eq] at h
   split at h
   rename_i e; subst e; exact .inl ⟨by simp,h⟩
   rename_i e; exact .inr ⟨by simp [e],h⟩
 exact h.elim
theorem Nx.mono {K K':AS→Prop} {a':Act} {w':World} (h:Nx N Pb Kb w K a' w') (hK:∀ A,K A→K' A):Nx N Pb Kb w K' a' w':=by
 obtain ⟨A',Pb',Kb',F',h1,h2⟩:=h
 exact ⟨A',Pb',Kb',F',hK _ h1,h2⟩
theorem Nx.step {K:AS→Prop} {Pb' Kb':Nat→Prop} {a'':Act} {w' w'':World} (h3:∀ g,Pb g→Pb' g) (h4:∀ g,Kb g→Kb' g) (h5:∀ g,Pb' g→Pb g∨¬ Kb g) (h6:Keep Kb w w')
 (h:Nx N Pb' Kb' w' K a'' w''):Nx N Pb Kb w K a'' w'':=by
 obtain ⟨A2,Pb2,Kb2,F2,k1,k2,k3,k4,k5,k6⟩:=h
 refine ⟨A2,Pb2,Kb2,F2,k1,k2,fun g hg=>k3 g (h3 g hg),fun g hg=>k4 g (h4 g hg),fun g hg=>?_,h6.trans k6 h4⟩
 rcases k5 g hg with h | h
 exact h5 g h
 exact .inr fun c=>h (h4 g c)
theorem alX {ops:Array Oper} {Q:Exit→Act→World→Prop}:∀ (l:List Oper) {A:AS} {K:AS→Prop} {Pb Kb:Nat→Prop} {a:Act} {w:World} {F:Root→List Nat},
 WL P N ops l A K→SIM N Pb Kb A a w F→(∀ a' w',Nx N Pb Kb w K a' w'→Q .normal a' w')→wpList P ops Q l a w
 | [],A,K,Pb,Kb,a,w,F,h,hs,hQ=>hQ _ _ ⟨A,Pb,Kb,F,h,hs,fun _ h=>h,fun _ h=>h,fun _ h=>.inl h,Keep.refl _ _⟩
 | o :: rest,A,K,Pb,Kb,a,w,F,h,hs,hQ=>by
   unfold wpList
   rcases ajc h hs with ⟨hw,h⟩ | ⟨hw,hd,u,hu,h⟩
   rw [if_pos hw]
   refine .inl (Oper.wp_mono (K:=Nx N Pb Kb w fun A'=>WL P N ops rest A' K) ?_ (h Pb Kb a w F Q hs))
   intro a' w' ⟨A',Pb',Kb',F',h1,h2,h3,h4,h5,h6⟩
   exact alX rest h1 h2 fun a'' w'' hn=>hQ a'' w'' (Nx.step h3 h4 h5 h6 hn)
   rw [if_neg (by simp [hw])]
   obtain ⟨F',hs'⟩:=hs.akV (d:=o.dst) (v:=u) (x:=undef) hd (hu w Pb)
   exact alX rest h hs' hQ
def T (P:Program) (N:Nat) (c:Code) (A:AS) (Q:Exit→AS→Prop):Prop:=
 ∀ Pb Kb a w F,SIM N Pb Kb A a w F→c.wp P (fun e a' w'=>Nx N Pb Kb w (Q e) a' w') a w
theorem ahU {c:Code} {Q Q':Exit→AS→Prop} (h:T P N c A Q) (hQ:∀ e A,Q e A→Q' e A):T P N c A Q':=
 fun Pb Kb a w F hs=>wp_mono (h Pb Kb a w F hs) fun e _ _ hn=>hn.mono (hQ e)
theorem aBY {Q:Exit→AS→Prop} (h:Q .normal A):T P N .skip A Q:=
 fun Pb Kb _ _ F hs=>wp_skip ⟨A,Pb,Kb,F,h,hs,fun _ h=>h,fun _ h=>h,fun _ h=>.inl h,Keep.refl _ _⟩
theorem aAN {l:Nat} {Q:Exit→AS→Prop} (h:Q .normal A):T P N (.label l) A Q:=
 fun Pb Kb _ _ F hs=>wp_label ⟨A,Pb,Kb,F,h,hs,fun _ h=>h,fun _ h=>h,fun _ h=>.inl h,Keep.refl _ _⟩
theorem aCi {i:Nat} {Q:Exit→AS→Prop} (h:Q (.exit i) A):T P N (.exit i) A Q:=
 fun Pb Kb _ _ F hs=>wp_exit ⟨A,Pb,Kb,F,h,hs,fun _ h=>h,fun _ h=>h,fun _ h=>.inl h,Keep.refl _ _⟩
theorem aDf {i:Nat} {Q:Exit→AS→Prop} (h:Q (.goto i) A):T P N (.goto i) A Q:=
 fun Pb Kb _ _ F hs=>wp_goto ⟨A,Pb,Kb,F,h,hs,fun _ h=>h,fun _ h=>h,fun _ h=>.inl h,Keep.refl _ _⟩
theorem aDz {Q:Exit→AS→Prop} (h:Q .ret A):T P N .ret A Q:=
 fun Pb Kb _ _ F hs=>wp_ret ⟨A,Pb,Kb,F,h,hs,fun _ h=>h,fun _ h=>h,fun _ h=>.inl h,Keep.refl _ _⟩
def thn (f:AS→Prop) (Q:Exit→AS→Prop):Exit→AS→Prop
 | .normal,A=>f A
 | e,A=>Q e A
theorem aDw {x y:Code} {Q:Exit→AS→Prop} (h:T P N x A (thn (fun A'=>T P N y A' Q) Q)):T P N (.seq x y) A Q:=by
 intro Pb Kb a w F hs
 refine wp_seq (wp_mono (h Pb Kb a w F hs) fun e a' w' hn=>?_)
 cases e with
 | normal=>
   obtain ⟨A',Pb',Kb',F',h1,h2,h3,h4,h5,h6⟩:=hn
   exact wp_mono (h1 Pb' Kb' a' w' F' h2) fun e _ _ hn=>Nx.step h3 h4 h5 h6 hn
 | _=>exact hn
theorem awZ {c:Operand} {x y:Code} {Q:Exit→AS→Prop} {b:Bool} (hc:A.ev c=.lit (.bool b)) (ht:b=true→T P N x A Q) (hf:b=false→T P N y A Q):T P N (.cond c x y) A Q:=
 fun Pb Kb a w F hs=>wp_cond_split (abq hs hc) (fun h=>ht h Pb Kb a w F hs) (fun h=>hf h Pb Kb a w F hs)
def blk (id:Nat) (Q:Exit→AS→Prop):Exit→AS→Prop
 | .exit id',A=>if id'=id then Q .normal A else Q (.exit id') A
 | e,A=>Q e A
theorem aBI {id:Nat} {c:Code} {Q:Exit→AS→Prop} (h:T P N c A (blk id Q)):T P N (.block id c) A Q:=by
 intro Pb Kb a w F hs
 refine wp_block (wp_mono (h Pb Kb a w F hs) fun e a' w' hn=>?_)
 cases e with
 | exit id'=>
   simp only [Exit.inBlock]
   have hb:∀ A,blk id Q (.exit id') A=if id'=id then Q .normal A else Q (.exit id') A:=fun _=>rfl
   by_cases e:id'=id
   rw [if_pos e]; exact hn.mono fun A h=>by rw [hb,if_pos e] at h; exact h
   rw [if_neg e]; exact hn.mono fun A h=>by rw [hb,if_neg e] at h; exact h
 | _=>exact hn
theorem aCg {c:Code} {Q:Exit→AS→Prop} (I:Nat→AS→Prop) (n:Nat) (h0:I n A)
 (round:∀ n A,I n A→T P N c A (thn (fun A'=> ∃ m,m < n∧I m A') Q)):T P N (.loop c) A Q:=by
 have key:∀ n A (Pb Kb:Nat→Prop) a w F,I n A→SIM N Pb Kb A a w F→∀ (b:Frame) (k:List Item) (cs:List Frame),
  ∃ e a' w',Nx N Pb Kb w (Q e) a' w'∧Arrives P (lone (b.at a (.code c :: .inLoop c :: k)) cs w) b k cs e a' w':=by
  intro n
  induction n using Nat.strongRecOn with
  | _ n ih=>
    intro A Pb Kb a w F hI hs b k cs
    obtain ⟨e,a₁,w₁,hq,harr⟩:=round n A hI Pb Kb a w F hs b (.inLoop c :: k) cs
    cases e with
    | normal=>
      obtain ⟨A',Pb',Kb',F',⟨m,hm,hI'⟩,h2,h3,h4,h5,h6⟩:=hq
      obtain ⟨e₂,a₂,w₂,hq₂,harr₂⟩:=ih m hm A' Pb' Kb' a₁ w₁ F' hI' h2 b k cs
      exact ⟨e₂,a₂,w₂,Nx.step h3 h4 h5 h6 hq₂,.of_steps (Steps.trans harr (.one step_inLoop)) harr₂⟩
    | exit id=>exact ⟨_,a₁,w₁,hq,.pass (x:=.inLoop c) rfl (fun _ _=>.inl (by simp)) harr⟩
    | goto l=>exact ⟨_,a₁,w₁,hq,.pass (x:=.inLoop c) rfl (fun _ _=>.inl (by simp)) harr⟩
    | ret=>exact ⟨_,a₁,w₁,hq,.pass (x:=.inLoop c) rfl (fun _ _=>.inl (by simp)) harr⟩
    | panic ch=>exact ⟨_,a₁,w₁,hq,.pass (x:=.inLoop c) rfl (fun _ _=>.inl (by simp)) harr⟩
    | outgrown=>exact ⟨_,a₁,w₁,hq,.pass (x:=.inLoop c) rfl (fun _ _=>.inl (by simp)) harr⟩
 intro Pb Kb a w F hs b k cs
 obtain ⟨e,a',w',hq,harr⟩:=key n A Pb Kb a w F h0 hs b k cs
 exact ⟨e,a',w',hq,.of_steps (.one step_loop) harr⟩
theorem azt {id:Nat} {ops:Array Oper} {Q:Exit→AS→Prop} (h:WL P N ops ops.toList A (Q .normal)):T P N (.region id ops false) A Q:=
 fun _ _ _ _ _ hs=>wp_region_list (alX _ h hs fun _ _ hn=>hn)
end
end Go.Abs
namespace Go.Abs
open Go Go.RowKit
mutual
def V.er:V→V
 | .own _ xs _ _ _=>.sl false (V.erL xs)
 | .ow _ xs=>.sl false (V.erL xs)
 | .om es _=>.mp es
 | .agg vs=>.agg (V.erL vs)
 | .tup vs=>.tup (V.erL vs)
 | .gv _ _=>.dead
 | v=>v
def V.erL:List V→List V
 | []=>[]
 | v :: vs=>v.er :: V.erL vs
end
def aiW (P:Program) (f:FuncId):Prop:= ∀ args w,(callFunc f args).run P w=.ok (.enter f args) w
def PC (P:Program) (f:FuncId) (args:List V) (Q:V→Prop):Prop:=
 aiW P f∧∀ (w:World) (Pb:Nat→Prop) (cargs:List Value),(∀ g,Pb g→g < w.heap.size)→RVs w Pb args cargs []→
  Calls P f cargs.toArray w fun e w'=> ∃ r x F Pb',e=.returned x∧Q r∧RV w' Pb' r x F∧F.Nodup∧(∀ g,g∈F→w.heap.size≤g∧g < w'.heap.size∧¬ Pb' g)∧
   (∀ g,Pb g→Pb' g)∧(∀ g,Pb' g→Pb g∨(w.heap.size≤g∧g < w'.heap.size))∧Below w.heap.size w w'
theorem PC.mono {P:Program} {f:FuncId} {args:List V} {Q Q':V→Prop} (h:PC P f args Q) (hQ:∀ r,Q r→Q' r):PC P f args Q':=
 ⟨h.1,fun w Pb cargs h1 h2=>(h.2 w Pb cargs h1 h2).mono fun _ _ ⟨r,x,F,Pb',e,q,rest⟩=>⟨r,x,F,Pb',e,hQ r q,rest⟩⟩
section
variable {w w':World} {Pb Kb Pb':Nat→Prop} {N:Nat} {A A':AS} {a:Act} {F:Root→List Nat} {P:Program}
mutual
theorem azl:∀ v:V,v.er.n=v.n
 | .own .. =>rfl | .ow .. =>rfl | .om .. =>rfl | .mp .. =>rfl | .agg vs=>by simp only [V.er,V.n]; exact aAJ vs
 | .tup _=>rfl | .gv _ _=>rfl | .lit _=>rfl | .sl .. =>rfl | .hd .. =>rfl | .ptr .. =>rfl | .ep _=>rfl | .dead=>rfl
theorem aAJ:∀ vs:List V,V.ns (V.erL vs)=V.ns vs
 | []=>rfl | v :: vs=>by simp only [V.erL,V.ns,azl v,aAJ vs]
end
theorem aho:∀ vs:List V,V.erL vs=vs.map V.er
 | []=>rfl | v :: vs=>by simp [V.erL,aho vs]
mutual
theorem aeC:∀ (v:V) {cs F},R w Pb v cs F→(∀ g,Pb g→Pb' g)→(∀ g,g∈F→Pb' g)→R w Pb' v.er cs []
 | .lit x,_,_,h,_,_=>⟨h.1,h.2.1,rfl⟩
 | .agg vs,_,_,h,k1,k2=>by simp only [R,V.er] at h ⊢; exact amC vs h k1 k2
 | .tup _,_,_,h,_,_=>by simp [R] at h
 | .gv _ _,_,_,h,_,_=>by simp [R] at h
 | .sl full xs,cs,F,h,k1,k2=>by
   have hF:=h.1
   subst hF
   exact aep (w:=w) (.sl full xs) h (fun _ _=>rfl) (by simp) k1 (by simp)
 | .own sz xs g o c,cs,F,h,k1,k2=>by
   rcases h with ⟨rfl,rfl,rfl,A,rfl⟩ | ⟨h1,h2,h3,rfl,h5,h6,flat,F',cells,rfl,hr,hb,hsz,hcell⟩
   exact ⟨rfl,A,0,rfl,Nat.le_refl _,fun h=>by simp at h,.inl rfl⟩
   refine ⟨rfl,some ⟨g,o,none⟩,c,by rw [aho]; simp,by rw [aho]; simpa using h3,fun h=>by simp at h,?_⟩
   by_cases hx:xs=[]
   subst hx; exact .inl rfl
   refine .inr ⟨g,o,sz,flat,rfl,k2 g (by simp),h2,?_,amC xs hr k1 (fun g hg=>k2 g (by simp [hg])),fun j u hu=>by rw [acn hb]; exact hcell j u hu⟩
   intro v hv
   rw [aho] at hv
   obtain ⟨u,hu,rfl⟩:=List.mem_map.1 hv
   rw [azl]; exact h5 u hu
 | .ow sz xs,cs,F,h,k1,k2=>by
   obtain ⟨g,o,c,h⟩:=h
   rcases h with ⟨rfl,rfl,rfl,A,rfl⟩ | ⟨h1,h2,h3,rfl,h5,h6,flat,F',cells,rfl,hr,hb,hsz,hcell⟩
   exact ⟨rfl,A,0,rfl,Nat.le_refl _,fun h=>by simp at h,.inl rfl⟩
   refine ⟨rfl,some ⟨g,o,none⟩,c,by rw [aho]; simp,by rw [aho]; simpa using h3,fun h=>by simp at h,?_⟩
   by_cases hx:xs=[]
   subst hx; exact .inl rfl
   refine .inr ⟨g,o,sz,flat,rfl,k2 g (by simp),h2,?_,amC xs hr k1 (fun g hg=>k2 g (by simp [hg])),fun j u hu=>by rw [acn hb]; exact hcell j u hu⟩
   intro v hv
   rw [aho] at hv
   obtain ⟨u,hu,rfl⟩:=List.mem_map.1 hv
   rw [azl]; exact h5 u hu
 | .om es g,cs,F,h,k1,k2=>⟨rfl,g,h.2.1,k2 g (by rw [h.1]; simp),h.2.2.2⟩
 | .mp es,cs,F,h,k1,_=>by obtain ⟨_,g,h1,h2,h3⟩:=h; exact ⟨rfl,g,h1,k1 g h2,h3⟩
 | .hd ..,_,_,h,_,_=>⟨rfl,h.2⟩
 | .ptr ..,_,_,h,_,_=>⟨rfl,h.2⟩
 | .ep v,cs,F,h,k1,k2=>by
   have hF:=h.1
   subst hF
   exact aep (w:=w) (.ep v) h (fun _ _=>rfl) (by simp) k1 (by simp)
 | .dead,_,_,h,_,_=>⟨rfl,h.2⟩
theorem amC:∀ (vs:List V) {cs F},RL w Pb vs cs F→(∀ g,Pb g→Pb' g)→(∀ g,g∈F→Pb' g)→RL w Pb' (V.erL vs) cs []
 | [],_,_,h,_,_=>⟨h.1,rfl⟩
 | v :: vs,_,_,h,k1,k2=>by
   obtain ⟨c1,c2,F1,F2,rfl,rfl,h1,h2⟩:=h
   exact ⟨c1,c2,[],[],rfl,rfl,aeC v h1 k1 (fun g hg=>k2 g (by simp [hg])),amC vs h2 k1 (fun g hg=>k2 g (by simp [hg]))⟩
end
theorem ayw:∀ (vs:List V) {xs F},RVs w Pb vs xs F→(∀ g,Pb g→Pb' g)→(∀ g,g∈F→Pb' g)→RVs w Pb' (V.erL vs) xs []
 | [],_,_,h,_,_=>⟨h.1,rfl⟩
 | v :: vs,_,_,h,k1,k2=>by
   obtain ⟨x,xs',F1,F2,rfl,rfl,h1,h2⟩:=h
   refine ⟨x,xs',[],[],rfl,rfl,?_,ayw vs h2 k1 (fun g hg=>k2 g (by simp [hg]))⟩
   have k2':∀ g,g∈F1→Pb' g:=fun g hg=>k2 g (by simp [hg])
   cases v with
   | agg us=>obtain ⟨cs,e,h1⟩:=h1; exact ⟨cs,e,amC us h1 k1 k2'⟩
   | dead=>rfl
   | tup _=>simp [R] at h1
   | gv _ _=>simp [R] at h1
   | own sz xs g o c=>exact aeC (w:=w) (Pb:=Pb) (.own sz xs g o c) h1 k1 k2'
   | ow sz xs=>exact aeC (w:=w) (Pb:=Pb) (.ow sz xs) h1 k1 k2'
   | om es g=>exact aeC (w:=w) (Pb:=Pb) (.om es g) h1 k1 k2'
   | mp es=>exact aeC (w:=w) (Pb:=Pb) (.mp es) h1 k1 k2'
   | lit x=>exact aeC (w:=w) (Pb:=Pb) (.lit x) h1 k1 k2'
   | sl f xs=>exact aeC (w:=w) (Pb:=Pb) (.sl f xs) h1 k1 k2'
   | hd r p sz g o lo n c=>exact aeC (w:=w) (Pb:=Pb) (.hd r p sz g o lo n c) h1 k1 k2'
   | ptr r p g o=>exact aeC (w:=w) (Pb:=Pb) (.ptr r p g o) h1 k1 k2'
   | ep v=>exact aeC (w:=w) (Pb:=Pb) (.ep v) h1 k1 k2'
theorem awd {v:V} {x:Value} {F:List Nat} (h:RV w Pb v x F) (k1:∀ g,Pb g→Pb' g) (k2:∀ g,g∈F→Pb' g):RV w Pb' v.er x []:=by
 cases v with
 | tup vs=>obtain ⟨xs,e,h⟩:=h; exact ⟨xs,e,ayw vs h k1 k2⟩
 | gv _ _=>rfl
 | agg us=>obtain ⟨cs,e,h⟩:=h; exact ⟨cs,e,amC us h k1 k2⟩
 | dead=>rfl
 | own sz xs g o c=>exact aeC (w:=w) (Pb:=Pb) (.own sz xs g o c) h k1 k2
 | ow sz xs=>exact aeC (w:=w) (Pb:=Pb) (.ow sz xs) h k1 k2
 | om es g=>exact aeC (w:=w) (Pb:=Pb) (.om es g) h k1 k2
 | mp es=>exact aeC (w:=w) (Pb:=Pb) (.mp es) h k1 k2
 | lit x=>exact aeC (w:=w) (Pb:=Pb) (.lit x) h k1 k2
 | sl f xs=>exact aeC (w:=w) (Pb:=Pb) (.sl f xs) h k1 k2
 | hd r p sz g o lo n c=>exact aeC (w:=w) (Pb:=Pb) (.hd r p sz g o lo n c) h k1 k2
 | ptr r p g o=>exact aeC (w:=w) (Pb:=Pb) (.ptr r p g o) h k1 k2
 | ep v=>exact aeC (w:=w) (Pb:=Pb) (.ep v) h k1 k2
theorem SIM.grow {Pb2 Kb2:Nat→Prop} (hs:SIM N Pb Kb A a w F) (hb:∀ k,k < w.heap.size→w'.heap[k]? =w.heap[k]?) (hsz:w.heap.size≤w'.heap.size) (h1:∀ g,Pb g→Pb2 g)
 (h4:∀ g,Kb2 g→Kb g∨(w.heap.size≤g∧g < w'.heap.size)) (h5:∀ g,Pb2 g→Kb2 g):SIM N Pb2 Kb2 A a w' F where
 size:=hs.size
 defers:=hs.defers
 slot:=fun i=>aiw _ (hs.slot i) (fun g hg=>hb g (hs.bound g (hs.sub g hg))) (fun g hg=>hb g (hs.free _ g hg).2) h1 (fun g hg c=>by
  have hf:=hs.free _ g hg
  rcases h4 g (h5 g c) with h | h
  exact hf.1 h
  omega)
 root:=fun k g v hk=>by
  obtain ⟨F',e,cs,cells,⟨e',fr,hb',hfr⟩,hr,hc⟩:=hs.root k g v hk
  have hin:∀ x,x∈g :: F'→x < w.heap.size∧¬ Pb2 x:=fun x hx=>by
   have hf:=hs.free (.key k) x (by rw [e]; exact hx)
   refine ⟨hf.2,fun c=>?_⟩
   rcases h4 x (h5 x c) with h | h
   exact hf.1 h
   omega
  exact ⟨F',e,cs,cells,⟨e',fr,(hb g (hin g (by simp)).1).trans hb',hfr⟩,aep _ hr (fun g hg=>hb g (hs.bound g (hs.sub g hg))) (fun x hx=>hb x (hin x (by simp [hx])).1) h1 (fun x hx=>(hin x (by simp [hx])).2),hc⟩
 aaW:=hs.aaW
 nodup:=hs.nodup
 free:=fun r g hg=>by
  have hf:=hs.free r g hg
  refine ⟨fun c=>?_,by omega⟩
  rcases h4 g c with h | h
  exact hf.1 h
  omega
 sub:=h5
 bound:=fun g hg=>by
  rcases h4 g hg with h | h
  have:=hs.bound g h; omega
  exact h.2
theorem Keep.atu (h:Below w.heap.size w w') (hK:∀ g,Kb g→g < w.heap.size):Keep Kb w w':=
 ⟨h.os,h.tape,h.output,h.size,fun g hg=>h.block g (hK g hg)⟩
theorem anS (hs:SIM N Pb Kb A a w F):∀ xs:List Operand,RVs w Pb (xs.map A.cp) (xs.map a.eval) []
 | []=>⟨rfl,rfl⟩
 | x :: xs=>by
   refine ⟨a.eval x,xs.map a.eval,[],[],rfl,rfl,?_,anS hs xs⟩
   have h:=akI hs x
   cases hv:A.cp x with
   | tup vs=>
     exfalso
     cases x with
     | tmp i=>
       simp only [AS.cp] at hv
       cases hg:A.get i <;> rw [hg] at hv <;> first | (solve | simp only [V.cp,V.cpy,reduceCtorEq] at hv) | (unfold V.cp at hv; simp only [V.cpy,reduceCtorEq] at hv)
     | const c=>
       simp only [AS.cp,AS.ev] at hv
       cases c <;> simp [cV,cV1] at hv
       split at hv <;> simp at hv
       split at hv <;> simp at hv
     | _=>simp [AS.cp,AS.ev] at hv
   | gv b u=>
     exfalso
     cases x with
     | tmp i=>
       simp only [AS.cp] at hv
       cases hg:A.get i <;> rw [hg] at hv <;> first | (solve | simp only [V.cp,V.cpy,reduceCtorEq] at hv) | (unfold V.cp at hv; simp only [V.cpy,reduceCtorEq] at hv)
     | const c=>
       simp only [AS.cp,AS.ev] at hv
       cases c <;> simp [cV,cV1] at hv
       split at hv <;> simp at hv
       split at hv <;> simp at hv
     | _=>simp [AS.cp,AS.ev] at hv
   | agg us=>rw [hv] at h; exact h
   | dead=>rfl
   | own sz xs g o c=>rw [hv] at h; exact h
   | ow sz xs=>rw [hv] at h; exact h
   | om es g=>rw [hv] at h; exact h
   | mp es=>rw [hv] at h; exact h
   | lit x=>rw [hv] at h; exact h
   | sl f xs=>rw [hv] at h; exact h
   | hd r p sz g o lo n c=>rw [hv] at h; exact h
   | ptr r p g o=>rw [hv] at h; exact h
   | ep v=>rw [hv] at h; exact h
theorem azy {o:Oper} {K:AS→Prop} {f:FuncId} {xs:Array Operand} {tys:Array TypeId} {Q:V→Prop} (ho:o.op=.call { callee:=.value (.func f),args:=xs,argTypes:=tys })
 (hd:aaT N o.dst) (hc:PC P f (xs.toList.map A.cp) Q) (hK:∀ r,Q r→K (A.put o.dst r)):opT P N o A K:=by
 intro Pb Kb a w F Q' hs
 unfold Oper.wp
 have hrun:(execOp a.eval o).run P w=.ok (.enter f (xs.map a.eval)) w:=by
  simp only [execOp,ho,resolve,Act.eval,Deferred.ofValue,Sem.run_bind,Sem.run_pure,Result.andThen_ok,invoke]
  have:=hc.1 (xs.map a.eval) w
  simpa using this
 rw [hrun,Oper.upon_enter]
 have hargs:=anS hs xs.toList
 have hcall:=hc.2 w Pb (xs.toList.map a.eval) (fun g hg=>hs.bound g (hs.sub g hg)) hargs
 have e:(xs.toList.map a.eval).toArray=xs.map a.eval:=by rw [← Array.toList_map,Array.toArray_toList]
 rw [e] at hcall
 refine hcall.mono ?_
 rintro e w' ⟨r,x,Fr,Pb',rfl,hq,hr,hnd,hfr,h1,h2,hb⟩
 have hs':SIM N Pb' (fun g=>Kb g∨Pb' g) A a w' F:=hs.grow hb.block hb.size h1 (fun g hg=>by
  rcases hg with h | h
  exact .inl h
  rcases h2 g h with h | h
  exact .inl (hs.sub g h)
  exact .inr h) (fun g hg=>.inr hg)
 have hfree:∀ g,g∈Fr→¬ (Kb g∨Pb' g)∧g < w'.heap.size:=fun g hg=>by
  obtain ⟨f1,f2,f3⟩:=hfr g hg
  refine ⟨fun c=>?_,f2⟩
  rcases c with c | c
  have:=hs.bound g c; omega
  exact f3 c
 have hnx:∀ A' a' F',K A'→SIM N Pb' (fun g=>Kb g∨Pb' g) A' a' w' F'→Nx N Pb Kb w K a' w':=fun A' a' F' hk hs''=>
  ⟨A',Pb',_,F',hk,hs'',h1,fun g hg=>.inl hg,fun g hg=>by
   rcases h2 g hg with h | h
   exact .inl h
   exact .inr fun c=>by have:=hs.bound g c; omega,Keep.atu hb hs.bound⟩
 cases hdst:o.dst with
 | none=>exact hnx _ _ F (hK r hq) (by rw [hdst]; exact hs')
 | some d=>
   rw [hdst] at hd
   refine hnx _ _ (abe F (.slot d) Fr) (hK r hq) ?_
   rw [hdst]
   refine hs'.put hd hr (fun rt _ g hg=>?_) hnd hfree
   intro hc'
   have:=(hs.free rt g hc').2
   have:=(hfr g hg).1
   omega
theorem ahL {o:Oper} {K:AS→Prop} {f:FuncId} {xs:Array Operand} {tys:Array TypeId} {Q:V→Prop} {E:V} (ho:o.op=.call { callee:=.value (.func f),args:=xs,argTypes:=tys })
 (hd:aaT N o.dst) (hc:PC P f (xs.toList.map A.cp) Q) (hE:∀ r,Q r→r.er=E) (hK:K (A.put o.dst E)):opT P N o A K:=by
 have hc':PC P f (xs.toList.map A.cp) (fun r=>r=E):=by
  refine ⟨hc.1,fun w Pb cargs h1 h2=>(hc.2 w Pb cargs h1 h2).mono ?_⟩
  rintro e w' ⟨r,x,Fr,Pb',rfl,hq,hr,hnd,hfr,k1,k2,hb⟩
  refine ⟨E,x,[],fun g=>Pb' g∨g∈Fr,rfl,rfl,?_,List.nodup_nil,by simp,fun g hg=>.inl (k1 g hg),fun g hg=>?_,hb⟩
  rw [← hE r hq]; exact awd hr (fun g hg=>.inl hg) (fun g hg=>.inr hg)
  rcases hg with h | h
  exact k2 g h
  obtain ⟨f1,f2,_⟩:=hfr g h; exact .inr ⟨f1,f2⟩
 exact azy ho hd hc' fun r hr=>by rw [hr]; exact hK
def enum (k:Nat):List V→List (Nat×V)
 | []=>[]
 | v :: vs=>(k,v) :: enum (k+1) vs
def asP (A:AS):ResultVar→Option (Root×V)
 | .tmp t=>some (.slot t,A.get t)
 | .cell t _=>match A.get t with
   | .ptr (.key k) [] g 0=>match lk k A.h with
     | some (g',v)=>if g'=g then some (.key k,v) else none
     | none=>none
   | _=>none
def ako (A:AS):List ResultVar→Option (List (Root×V))
 | []=>some []
 | r :: rs=>match asP A r,ako A rs with
   | some x,some xs=>some (x :: xs)
   | _,_=>none
def akq (P:Program):List ResultVar→List (Root×V)→Prop
 | .cell _ T :: rs,(_,v) :: xs=>(match ti P T with | some i=>v.n=i.sz∧i.d.agg=v.isAgg | none=>False)∧akq P rs xs
 | .tmp _ :: rs,(_,v) :: xs=>(match v with | .tup _=>False | .gv _ _=>False | _=>True)∧akq P rs xs
 | [],[]=>True
 | _,_=>False
def one (vs:List V):V:=match vs with | [v]=>v | vs=>.tup vs
theorem avz:∀ (vs:List V) (k i:Nat),lk i (enum k vs)=if k≤i then vs[i - k]? else none
 | [],k,i=>by simp [enum,lk]
 | v :: vs,k,i=>by
   simp only [enum,lk]
   by_cases h:i=k
   subst h; simp
   rw [if_neg h,avz vs (k+1) i]
   by_cases h':k+1≤i
   rw [if_pos h',if_pos (by omega)]
   have:i - k=(i - (k+1))+1:=by omega
   rw [this]; rfl
   rw [if_neg h',if_neg (by omega)]
theorem axb:∀ (vs:List V) {xs:List Value} {i:Nat} {v:V},RVs w Pb vs xs []→vs[i]? =some v→∃ x,xs[i]? =some x∧RV w Pb v x []
 | [],_,_,_,_,h=>by simp at h
 | v :: vs,xs,0,u,h,hi=>by
     obtain ⟨x,xs',F1,F2,rfl,hF,h1,h2⟩:=h
     have hF1:F1=[]:=by have:=hF.symm; simp at this; exact this.1
     subst hF1
     simp at hi; subst hi
     refine ⟨x,rfl,?_⟩
     cases v with
     | agg us=>exact h1
     | dead=>exact h1
     | tup us=>simp [R] at h1
     | gv _ _=>simp [R] at h1
     | _=>exact h1
 | v :: vs,xs,i+1,u,h,hi=>by
     obtain ⟨x,xs',F1,F2,rfl,hF,h1,h2⟩:=h
     have hF2:F2=[]:=by have:=hF.symm; simp at this; exact this.2
     subst hF2
     obtain ⟨y,hy,hr⟩:=axb vs h2 (by simpa using hi)
     exact ⟨y,by simpa using hy,hr⟩
theorem api:∀ (vs:List V) {xs:List Value} {F},RVs w Pb vs xs F→xs.length=vs.length
 | [],_,_,h=>by rw [h.1]; rfl
 | v :: vs,_,_,h=>by
   obtain ⟨x,xs',F1,F2,rfl,_,_,h2⟩:=h
   simp [api vs h2]
def rd1 (a:Act):ResultVar→Sem Value
 | .tmp t=>pure (a.tmps.getD t undef)
 | .cell t T=>do loadVar T (← asAddr (a.tmps.getD t undef))
def RVc (w:World) (Pb:Nat→Prop) (v:V) (x:Value) (F:List Nat):Prop:=match v with
 | .agg us=> ∃ cs,x=.agg cs∧RL w Pb us cs.toList F
 | .dead=>F=[]
 | v=>R w Pb v [x] F
theorem ayr {v:V} {x:Value} {F1:List Nat} (h:RV w Pb v x F1) (hn:(∀ us,v≠.tup us)∧∀ b u,v≠.gv b u):RVc w Pb v x F1:=by
 cases v with
 | tup us=>exact absurd rfl (hn.1 us)
 | gv b u=>exact absurd rfl (hn.2 b u)
 | _=>exact h
theorem aCT {i:Option TI} {v:V} (h:match i with | some i=>v.n=i.sz∧i.d.agg=v.isAgg | none=>False):∃ j,i=some j∧v.n=j.sz∧j.d.agg=v.isAgg:=by
 cases i with
 | none=>exact h.elim
 | some j=>exact ⟨j,rfl,h⟩
instance:LawfulMonad Sem:=LawfulMonad.mk' Sem (id_map:=fun x=>by
 show x.bind (fun a=>Sem.pure (id a))=x
 exact Sem.bind_pure' x)
 (pure_bind:=fun _ _=>rfl) (bind_assoc:=fun x f g=>Sem.bind_assoc' x f g)
theorem aqK (hs:SIM N Pb Kb A a w F):∀ (rs:List ResultVar) {xs:List (Root×V)},ako A rs=some xs→akq P rs xs→(xs.map (·.1)).Nodup→
 ∃ (vs:List Value) (Fr:List Nat),(rs.mapM (rd1 a)).run P w=.ok vs w∧
   RVs w Pb (xs.map (·.2)) vs Fr∧Fr.Nodup∧(∀ g,g∈Fr→∃ r,r∈xs.map (·.1)∧g∈F r)
 | [],xs,h,_,_=>by
   simp [ako] at h; subst h
   exact ⟨[],[],rfl,⟨rfl,rfl⟩,List.nodup_nil,by simp⟩
 | r :: rs,xs,h,hok,hnd=>by
   simp only [ako] at h
   split at h
   case h_2=>simp at h
   rename_i x xs' hx hxs
   simp only [Option.some.injEq] at h
   subst h
   simp only [List.map_cons,List.nodup_cons] at hnd
   have hok2:akq P rs xs':=by
    obtain ⟨xr,xv⟩:=x
    cases r <;> exact hok.2
   obtain ⟨vs,Fr,hrun,hrv,hnd',hin⟩:=aqK hs rs hxs hok2 hnd.2
   have h1:∃ (v:Value) (F1:List Nat),(rd1 a r).run P w=.ok v w∧RV w Pb x.2 v F1∧((∀ us,x.2≠.tup us)∧∀ b u,x.2≠.gv b u)∧F1.Nodup∧∀ g,g∈F1→g∈F x.1:=by
    cases r with
    | tmp t=>
      simp only [asP,Option.some.injEq] at hx
      subst hx
      have hok:=hok.1
      exact ⟨_,F (.slot t),rfl,hs.slot t,⟨fun us e=>by have e':A.get t=.tup us:=e; rw [e'] at hok; exact hok,fun b u e=>by have e':A.get t=.gv b u:=e; rw [e'] at hok; exact hok⟩,hs.nodup _,fun _ h=>h⟩
    | cell t T=>
      simp only [asP] at hx
      split at hx
      case h_2=>simp at hx
      rename_i k g hg
      split at hx
      case h_2=>simp at hx
      rename_i g' v hk
      split at hx
      case isFalse=>simp at hx
      rename_i e
      subst e
      simp only [Option.some.injEq] at hx
      subst hx
      have hok1:=hok.1
      obtain ⟨i,hi,hok1⟩:=aCT hok1
      obtain ⟨F',e,cs,cells,hb,hr,hc⟩:=hs.root k g' v hk
      have hp:=hs.slot t
      rw [hg] at hp
      have hp:a.tmps.getD t undef=.pointer (some ⟨g',0,none⟩):=by have:=hp.2; simpa using this
      obtain ⟨y,hy,hry⟩:=ail (w:=w) hi hr hok1.1 hok1.2 (g:=g') (o:=0) (fun j u hu=>by rw [acn hb]; exact hc j u hu)
      refine ⟨y,F',by simp only [rd1,hp,asAddr,Sem.run_bind,Sem.run_pure,Result.andThen_ok,hy],hry,?_,?_,?_⟩
      exact ⟨fun us e=>by simp only at e; subst e; simp [R] at hr,fun b u e=>by simp only at e; subst e; simp [R] at hr⟩
      have:=hs.nodup (.key k); rw [e] at this; exact (List.nodup_cons.1 this).2
      intro g hg; rw [e]; simp [hg]
   obtain ⟨v,F1,hv,hr1,hnt,hnd1,hin1⟩:=h1
   refine ⟨v :: vs,F1++Fr,?_,?_,?_,?_⟩
   rw [List.mapM_cons]
   simp only [Sem.run_bind,Sem.run_pure]
   rw [hv]
   simp only [Result.andThen_ok,hrun]
   exact ⟨v,vs,F1,Fr,rfl,rfl,ayr hr1 hnt,hrv⟩
   refine List.nodup_append.2 ⟨hnd1,hnd',fun p hp q hq e=>?_⟩
   subst e
   obtain ⟨r',hr',hg'⟩:=hin p hq
   exact hs.aaW x.1 r' (fun c=>hnd.1 (by rw [c]; exact hr')) p (hin1 p hp) hg'
   intro g hg
   rcases List.mem_append.1 hg with h | h
   exact ⟨x.1,by simp,hin1 g h⟩
   obtain ⟨r',hr',hg'⟩:=hin g h
   exact ⟨r',by simp only [List.map_cons,List.mem_cons]; exact .inr hr',hg'⟩
theorem axM:∀ (us:List V) {vs:List Value} {Fr:List Nat},RVs w Pb us vs Fr→RV w Pb (one us) (if h:vs.toArray.size=1 then vs.toArray[0] else .tuple vs.toArray) Fr
 | [],vs,Fr,h=>by obtain ⟨rfl,rfl⟩:=h; exact ⟨#[],rfl,rfl,rfl⟩
 | [v],vs,Fr,h=>by
   obtain ⟨x,xs',F1,F2,rfl,rfl,h1,h2⟩:=h
   obtain ⟨rfl,rfl⟩:=h2
   simp only [List.append_nil]
   show RV w Pb v x F1
   cases v with
   | tup _=>simp [R] at h1
   | gv _ _=>simp [R] at h1
   | _=>exact h1
 | v :: v' :: us,vs,Fr,h=>by
   have hl:=api _ h
   rw [dif_neg (by simp at hl ⊢; omega)]
   exact ⟨vs.toArray,rfl,by simpa using h⟩
theorem atM (hs:SIM N Pb Kb A a w F) {fn:Func} {xs:List (Root×V)} (h1:ako A fn.results.toList=some xs) (h2:akq P fn.results.toList xs) (h3:(xs.map (·.1)).Nodup):
 ∃ x Fr,(results fn a.tmps).run P w=.ok x w∧RV w Pb (one (xs.map (·.2))) x Fr∧Fr.Nodup∧∀ g,g∈Fr→∃ r,r∈xs.map (·.1)∧g∈F r:=by
 obtain ⟨vs,Fr,hrun,hrv,hnd,hin⟩:=aqK hs _ h1 h2 h3
 have hm:(fn.results.mapM (rd1 a)).run P w=.ok vs.toArray w:=by
  rw [← Array.toArray_toList (xs:=fn.results),List.mapM_toArray,Sem.run_map,hrun]; rfl
 have hfun:(results fn a.tmps).run P w=.ok (if h:vs.toArray.size=1 then vs.toArray[0] else .tuple vs.toArray) w:=by
  show ((fn.results.mapM (rd1 a)).bind _).run P w=_
  have:=Sem.run_bind (P:=P) (w:=w) (x:=fn.results.mapM (rd1 a)) (f:=fun vs=>(pure (if h:vs.size=1 then vs[0] else .tuple vs):Sem Value))
  rw [hm] at this
  exact this
 exact ⟨_,Fr,hfun,axM _ hrv,hnd,hin⟩
end
end Go.Abs
namespace Go.Abs
open Go Go.RowKit
def Str (l:List UInt8):ByteArray:=⟨l.toArray⟩
theorem aeJ (l:List UInt8):(Str l).size=l.length:=by simp [Str,ByteArray.size]
theorem aBh (a b:List UInt8):Str a++Str b=Str (a++b):=by
 apply ByteArray.ext; simp [Str]
theorem aAL (l:List UInt8) (i j:Nat):(Str l).extract i j=Str ((l.take j).drop i):=by
 apply ByteArray.ext
 rw [ByteArray.data_extract]
 simp [Str,List.extract,List.drop_take]
theorem aDp (l:List UInt8) (i:Int):btV (Str l) i=.lit (.int .u8 (l.getD i.toNat 0).toNat):=by
 unfold btV Str; simp [Array.getD,List.getD]
 split <;> simp_all
def stN (P:Program) (N:Nat):List Oper→AS→Prop×AS×List Oper
 | [],A=>(True,A,[])
 | o :: rest,A=>match o.guard with
   | some _=>(True,A,o :: rest)
   | none=>match o.op with
     | .assign x=>match stN P N rest ((A.drop x).put o.dst (A.ev x)) with
       | (C,r)=>(aaT N o.dst∧C,r)
     | op=>match stX P A op with
       | some (C,v)=>match stN P N rest (A.put o.dst v) with
         | (C',r)=>(aaT N o.dst∧C∧C',r)
       | none=>(True,A,o :: rest)
theorem acX {P:Program} {f:FuncId} {fn:Func} (hf:P.funcs[f]? =some fn) (hn:(fn.name== "runtime.NumGoroutine")=false) (hb:fn.body.isNone=false):aiW P f:=by
 intro args w
 unfold callFunc
 simp only [Sem.run_bind,run_program,Result.andThen_ok,hf,hn,hb,Bool.false_eq_true,if_false,Sem.run_pure]
end Go.Abs
namespace Go.Abs
open Go Go.RowKit
def V.set (v:V):List Nat→V→V
 | [],u=>u
 | j :: p,u=>match v with
   | .agg vs=>match vs[j]? with
     | some x=>.agg (vs.set j (V.set x p u))
     | none=>v
   | .own sz xs g o c=>match xs[j]? with
     | some x=>.own sz (xs.set j (V.set x p u)) g o c
     | none=>v
   | _=>v
section
variable {w w':World} {Pb Kb:Nat→Prop}
def AtL (w:World) (Pb:Nat→Prop) (vs:List V) (g o:Nat) (F:List Nat):Prop:=
 ∃ cs cells,Blk w g cells∧RL w Pb vs cs F∧∀ j u,cs[j]? =some u→cells[o+j]? =some u
theorem anD {v:V} {vs:List V} {g o:Nat} {F:List Nat}:AtL w Pb (v :: vs) g o F↔∃ F1 F2,F=F1++F2∧At w Pb v g o F1∧AtL w Pb vs g (o+v.n) F2:=by
 constructor
 rintro ⟨cs,cells,hb,⟨c1,c2,F1,F2,rfl,rfl,h1,h2⟩,hc⟩
 refine ⟨F1,F2,rfl,⟨c1,cells,hb,h1,fun j u hu=>hc j u ?_⟩,⟨c2,cells,hb,h2,fun j u hu=>?_⟩⟩
 rw [List.getElem?_append_left (List.getElem?_eq_some_iff.1 hu).1]; exact hu
 have hl:=adm v h1
 rw [← hl,Nat.add_assoc]
 refine hc _ u ?_
 rw [List.getElem?_append_right (by omega)]
 have e:c1.length+j - c1.length=j:=by omega
 rw [e]; exact hu
 rintro ⟨F1,F2,rfl,⟨c1,cells,⟨e1,f1,hb,hf⟩,h1,hc1⟩,⟨c2,cells',⟨e2,f2,hb',_⟩,h2,hc2⟩⟩
 rw [hb] at hb'
 simp only [Option.some.injEq,Obj.cells.injEq] at hb'
 obtain ⟨rfl,_,_⟩:=hb'
 refine ⟨c1++c2,cells,⟨e1,f1,hb,hf⟩,⟨c1,c2,F1,F2,rfl,rfl,h1,h2⟩,fun j u hu=>?_⟩
 have hl:=adm v h1
 by_cases hj:j < c1.length
 rw [List.getElem?_append_left hj] at hu; exact hc1 j u hu
 rw [List.getElem?_append_right (by omega)] at hu
 have:=hc2 _ u hu
 rw [← hl] at this
 have e:o+c1.length+(j - c1.length)=o+j:=by omega
 rwa [e] at this
theorem asM {vs:List V} {g o:Nat} {F:List Nat}:At w Pb (.agg vs) g o F↔AtL w Pb vs g o F:=by
 constructor
 rintro ⟨cs,cells,hb,h,hc⟩; exact ⟨cs,cells,hb,by simpa only [R] using h,hc⟩
 rintro ⟨cs,cells,hb,h,hc⟩; exact ⟨cs,cells,hb,by simpa only [R] using h,hc⟩
theorem aqC {l:List Value} {cells:Array Value} {o:Nat} (h:∀ j u,l[j]? =some u→cells[o+j]? =some u) (hl:l≠[]):o+l.length≤cells.size:=by
 have hpos:0 < l.length:=List.length_pos_iff.2 hl
 have:=h (l.length - 1) _ (List.getElem?_eq_getElem (by omega))
 have:=(Array.getElem?_eq_some_iff.1 this).1
 omega
theorem alj {v:V} {g o:Nat} {F:List Nat} (h:At w Pb v g o F) (k1:∀ x,Pb x→w'.heap[x]? =w.heap[x]?) (k2:∀ x,x∈F→w'.heap[x]? =w.heap[x]?) (k3:∀ x,x∈F→¬ Pb x)
 (k4:∀ cells,Blk w g cells→∃ cells',Blk w' g cells'∧∀ j,o≤j→j < o+v.n→cells'[j]? =cells[j]?):At w' Pb v g o F:=by
 obtain ⟨cs,cells,hb,hr,hc⟩:=h
 obtain ⟨cells',hb',he⟩:=k4 cells hb
 refine ⟨cs,cells',hb',aep v hr k1 k2 (fun _ h=>h) k3,fun j u hu=>?_⟩
 have hl:=adm v hr
 have hj:=(List.getElem?_eq_some_iff.1 hu).1
 rw [he _ (by omega) (by omega)]; exact hc j u hu
theorem axW {vs:List V} {g o:Nat} {F:List Nat} (h:AtL w Pb vs g o F) (k1:∀ x,Pb x→w'.heap[x]? =w.heap[x]?) (k2:∀ x,x∈F→w'.heap[x]? =w.heap[x]?) (k3:∀ x,x∈F→¬ Pb x)
 (k4:∀ cells,Blk w g cells→∃ cells',Blk w' g cells'∧∀ j,o≤j→j < o+V.ns vs→cells'[j]? =cells[j]?):AtL w' Pb vs g o F:=by
 rw [← asM] at h ⊢
 exact alj h k1 k2 k3 k4
structure Stored (w w':World) (g o:Nat) (cs:List Value):Prop where
 os:w'.os=w.os
 tape:w'.tape=w.tape
 output:w'.output=w.output
 size:w'.heap.size=w.heap.size
 far:∀ k,k≠g→w'.heap[k]? =w.heap[k]?
 near:∀ cells,Blk w g cells→∃ cells',Blk w' g cells'∧cells'.size=cells.size∧(∀ j,j < o∨o+cs.length≤j→cells'[j]? =cells[j]?)∧(∀ j u,cs[j]? =some u→cells'[o+j]? =some u)
theorem afq:∀ (p:List Nat) {v u:V} {g o g' o':Nat} {F},At w Pb v g o F→V.at g o v p=some (g',o',u)→(g'=g∧o≤o'∧o'+u.n≤o+v.n)∨g'∈F
 | [],v,u,g,o,g',o',F,h,e=>by
   simp only [V.at,Option.some.injEq,Prod.mk.injEq] at e
   obtain ⟨rfl,rfl,rfl⟩:=e
   exact .inl ⟨rfl,Nat.le_refl _,Nat.le_refl _⟩
 | j :: p,v,u,g,o,g',o',F,h,e=>by
   simp only [V.at] at e
   split at e
   rename_i vs
   split at e
   rename_i x hx
   obtain ⟨cs,cells,hb,hr,hc⟩:=h
   simp only [R] at hr
   obtain ⟨c,F',hr',hF,hc'⟩:=adU vs hr hx
   rcases afq p (v:=x) ⟨c,cells,hb,hr',fun i u hu=>by rw [Nat.add_assoc]; exact hc _ _ (hc' i u hu)⟩ e with ⟨h1,h2,h3⟩ | h1
   left
   refine ⟨h1,by omega,?_⟩
   have hle:V.ns (vs.take j)+x.n≤V.ns vs:=by
    clear e hr hc hr' hc' hF h3 h2
    induction vs generalizing j with
    | nil=>simp at hx
    | cons v0 vs ih=>
      cases j with
      | zero=>simp at hx; subst hx; simp [V.ns]
      | succ j=>have:=ih (j:=j) (by simpa using hx); simp only [List.take_succ_cons,V.ns]; omega
   simp only [V.n]; omega
   exact .inr (hF _ h1)
   simp at e
   rename_i sz xs g1 o1 c1
   split at e
   rename_i x hx
   obtain ⟨cs,cells,hb,hr,hc⟩:=h
   rcases hr with ⟨_,rfl,_⟩ | ⟨_,_,_,_,ha,_,flat,F',cells',rfl,hr,hb',_,hc'⟩
   simp at hx
   obtain ⟨c,F'',hr',hF,hc''⟩:=adU xs hr hx
   have hj:j≤xs.length:=by have:=(List.getElem?_eq_some_iff.1 hx).1; omega
   rw [acU xs j ha hj] at hc''
   rcases afq p (v:=x) ⟨c,cells',hb',hr',fun i u hu=>by rw [Nat.add_assoc]; exact hc' _ _ (hc'' i u hu)⟩ e with ⟨h1,_⟩ | h1
   right; simp [h1]
   right; simp [hF _ h1]
   simp at e
   simp at e
theorem aiE:∀ (p:List Nat) {v u u':V} {g o g' o':Nat},V.at g o v p=some (g',o',u)→u'.n=u.n→(v.set p u').n=v.n
 | [],v,u,u',g,o,g',o',e,h=>by
   simp only [V.at,Option.some.injEq,Prod.mk.injEq] at e
   obtain ⟨_,_,rfl⟩:=e; exact h
 | j :: p,v,u,u',g,o,g',o',e,h=>by
   simp only [V.at] at e
   simp only [V.set]
   split at e
   rename_i vs
   split at e
   rename_i x hx
   have ih:=aiE p e h
   simp only [hx,V.n]
   clear e
   induction vs generalizing j with
   | nil=>simp at hx
   | cons v0 vs ihv=>
     cases j with
     | zero=>simp at hx; subst hx; simp [V.ns,ih]
     | succ j=>simp only [List.set_cons_succ,V.ns]; rw [ihv j (by simpa using hx)]
   simp at e
   split at e
   rename_i x hx; (try simp only [hx]); rfl
   simp at e
   simp at e
def SS (w w':World) (Pb:Nat→Prop) (p:List Nat):Prop:= ∀ (v u u':V) (g o g' o':Nat) (F F'':List Nat) (cs':List Value),At w Pb v g o F→(g :: F).Nodup→(∀ x,x∈g :: F→¬ Pb x)→V.at g o v p=some (g',o',u)→
    R w' Pb u' cs' F''→u'.n=u.n→F''.Nodup→(∀ x,x∈F''→x ∉ g :: F)→Stored w w' g' o' cs'→(∀ x,Pb x→w'.heap[x]? =w.heap[x]?)→
    ∃ F1,At w' Pb (v.set p u') g o F1∧(g :: F1).Nodup∧∀ x,x∈F1→x∈F∨x∈F''
theorem apq {w w':World} {Pb:Nat→Prop} {p:List Nat} (IH:SS w w' Pb p) {x u u':V} {g g' o':Nat} {F'':List Nat} {cs':List Value} (hr:R w' Pb u' cs' F'') (hn:u'.n=u.n) (hnd':F''.Nodup)
 (hst:Stored w w' g' o' cs') (k1:∀ x,Pb x→w'.heap[x]? =w.heap[x]?):
 ∀ (vs:List V) (o:Nat) (F:List Nat) (j:Nat),AtL w Pb vs g o F→(g :: F).Nodup→(∀ x,x∈g :: F→¬ Pb x)→(∀ x,x∈F''→x ∉ g :: F)→vs[j]? =some x→V.at g (o+V.ns (vs.take j)) x p=some (g',o',u)→
   ∃ F1,AtL w' Pb (vs.set j (x.set p u')) g o F1∧(g :: F1).Nodup∧∀ y,y∈F1→y∈F∨y∈F'':=by
 have hcs':=adm u' hr
 intro vs
 induction vs with
 | nil=>intro o F j _ _ _ _ hx; simp at hx
 | cons v0 vs ih=>
   intro o F j h hnd hP hdis hx e
   rw [anD] at h
   obtain ⟨F1,F2,rfl,h1,h2⟩:=h
   have hnd2:=List.nodup_cons.1 hnd
   have hap:=List.nodup_append.1 hnd2.2
   have hg1:g ∉ F1:=fun c=>hnd2.1 (by simp [c])
   have hg2:g ∉ F2:=fun c=>hnd2.1 (by simp [c])
   cases j with
   | zero=>
     simp at hx; subst hx
     simp only [List.take_zero,V.ns,Nat.add_zero] at e
     have hnd1:(g :: F1).Nodup:=List.nodup_cons.2 ⟨hg1,hap.1⟩
     obtain ⟨F1',hA,hN,hI⟩:=IH _ _ _ _ _ _ _ _ _ _ h1 hnd1 (fun x hx=>hP x (by simp at hx ⊢; rcases hx with h | h <;> simp [h])) e hr hn hnd' (fun x hx c=>hdis x hx (by simp at c ⊢; rcases c with h | h <;> simp [h])) hst k1
     have hrg:=afq p h1 e
     have hA2:AtL w' Pb vs g (o+v0.n) F2:=by
      refine axW h2 k1 (fun x hx=>hst.far x ?_) (fun x hx=>hP x (by simp [hx])) (fun cells hb=>?_)
      rintro rfl
      rcases hrg with ⟨rfl,_⟩ | h
      exact hg2 hx
      exact hap.2.2 _ h _ hx rfl
      rcases hrg with ⟨rfl,hr1,hr2⟩ | h
      obtain ⟨cells',hb',_,hfar,_⟩:=hst.near cells hb
      exact ⟨cells',hb',fun j hj1 _=>hfar j (.inr (by omega))⟩
      have hne:g≠g':=fun c=>hg1 (by rw [c]; exact h)
      obtain ⟨e',fr,hb,hf⟩:=hb
      exact ⟨cells,⟨e',fr,(hst.far g hne).trans hb,hf⟩,fun _ _ _=>rfl⟩
     refine ⟨F1'++F2,?_,?_,?_⟩
     simp only [List.set_cons_zero]
     rw [anD]
     refine ⟨F1',F2,rfl,hA,?_⟩
     rw [aiE p e hn]; exact hA2
     have hN':=List.nodup_cons.1 hN
     refine List.nodup_cons.2 ⟨fun c=>?_,List.nodup_append.2 ⟨hN'.2,hap.2.1,fun x hx y hy c=>?_⟩⟩
     rcases List.mem_append.1 c with c | c
     exact hN'.1 c
     exact hg2 c
     subst c
     rcases hI x hx with h | h
     exact hap.2.2 _ h _ hy rfl
     exact hdis x h (by simp [hy])
     intro y hy
     rcases List.mem_append.1 hy with h | h
     rcases hI y h with h | h
     left; simp [h]
     right; exact h
     left; simp [h]
   | succ j=>
     simp only [List.take_succ_cons,V.ns,← Nat.add_assoc] at e
     have hx':vs[j]? =some x:=by simpa using hx
     obtain ⟨F2',hA,hN,hI⟩:=ih (o+v0.n) F2 j h2 (List.nodup_cons.2 ⟨hg2,hap.2.1⟩) (fun x hx=>hP x (by simp at hx ⊢; rcases hx with h | h <;> simp [h])) (fun x hx c=>hdis x hx (by simp at c ⊢; rcases c with h | h <;> simp [h])) hx' e
     have hrg:(g'=g∧o+v0.n≤o')∨g'∈F2:=by
      obtain ⟨cs,cells,hb,hr2,hc2⟩:=h2
      obtain ⟨c,F',hr',hF,hc'⟩:=adU vs hr2 hx'
      rcases afq p (v:=x) ⟨c,cells,hb,hr',fun i u hu=>by rw [Nat.add_assoc]; exact hc2 _ _ (hc' i u hu)⟩ e with ⟨h1,h2,h3⟩ | h1
      exact .inl ⟨h1,by omega⟩
      exact .inr (hF _ h1)
     have hA1:At w' Pb v0 g o F1:=by
      refine alj h1 k1 (fun x hx=>hst.far x ?_) (fun x hx=>hP x (by simp [hx])) (fun cells hb=>?_)
      rintro rfl
      rcases hrg with ⟨rfl,_⟩ | h
      exact hg1 hx
      exact hap.2.2 _ hx _ h rfl
      rcases hrg with ⟨rfl,hr1⟩ | h
      obtain ⟨cells',hb',_,hfar,_⟩:=hst.near cells hb
      exact ⟨cells',hb',fun j _ hj=>hfar j (.inl (by omega))⟩
      have hne:g≠g':=fun c=>hg2 (by rw [c]; exact h)
      obtain ⟨e',fr,hb,hf⟩:=hb
      exact ⟨cells,⟨e',fr,(hst.far g hne).trans hb,hf⟩,fun _ _ _=>rfl⟩
     refine ⟨F1++F2',?_,?_,?_⟩
     simp only [List.set_cons_succ]
     rw [anD]
     exact ⟨F1,F2',rfl,hA1,hA⟩
     have hN':=List.nodup_cons.1 hN
     refine List.nodup_cons.2 ⟨fun c=>?_,List.nodup_append.2 ⟨hap.1,hN'.2,fun x hx y hy c=>?_⟩⟩
     rcases List.mem_append.1 c with c | c
     exact hg1 c
     exact hN'.1 c
     subst c
     rcases hI x hy with h | h
     exact hap.2.2 _ hx _ h rfl
     exact hdis x h (by simp [hx])
     intro y hy
     rcases List.mem_append.1 hy with h | h
     left; simp [h]
     rcases hI y h with h | h
     left; simp [h]
     right; exact h
theorem asQ {w w':World} {Pb:Nat→Prop}:∀ p,SS w w' Pb p
 | []=>fun v u u' g o g' o' F F'' cs' h hnd hP e hr hn hnd' hdis hst k1=>by
   simp only [V.at,Option.some.injEq,Prod.mk.injEq] at e
   obtain ⟨rfl,rfl,rfl⟩:=e
   obtain ⟨cs,cells,hb,_,_⟩:=h
   obtain ⟨cells',hb',_,_,hc'⟩:=hst.near cells hb
   exact ⟨F'',⟨cs',cells',hb',hr,hc'⟩,List.nodup_cons.2 ⟨fun hg=>hdis g hg (by simp),hnd'⟩,fun x hx=>.inr hx⟩
 | j :: p=>fun v u u' g o g' o' F F'' cs' h hnd hP e hr hn hnd' hdis hst k1=>by
   have IH:SS w w' Pb p:=asQ p
   simp only [V.at] at e
   simp only [V.set]
   split at e
   rename_i vs
   split at e
   rename_i x hx
   (try simp only [hx])
   rw [asM] at h
   obtain ⟨F1,h1,h2,h3⟩:=apq IH hr hn hnd' hst k1 vs o F j h hnd hP hdis hx e
   exact ⟨F1,asM.2 h1,h2,h3⟩
   simp at e
   rename_i sz xs g1 o1 c1
   split at e
   rename_i x hx
   (try simp only [hx])
   obtain ⟨cs,cells,hb,hr0,hc⟩:=h
   rcases hr0 with ⟨_,rfl,_⟩ | ⟨hc0,hs0,hlc,hcs,ha,hg1,flat,F',cells1,rfl,hrl,hb1,hsz,hc1⟩
   simp at hx
   have hnd2:=List.nodup_cons.1 hnd
   have hj:j≤xs.length:=by have:=(List.getElem?_eq_some_iff.1 hx).1; omega
   have e':V.at g1 (o1+V.ns (xs.take j)) x p=some (g',o',u):=by rw [acU xs j ha hj]; exact e
   obtain ⟨F1,⟨flat',cells1',hb1',hrl',hc1'⟩,hN,hI⟩:=apq IH hr hn hnd' hst k1 xs o1 F' j ⟨flat,cells1,hb1,hrl,hc1⟩ hnd2.2 (fun x hx=>hP x (by simp at hx ⊢; rcases hx with h | h <;> simp [h])) (fun x hx c=>hdis x hx (by simp at c ⊢; rcases c with h | h <;> simp [h])) hx e'
   have hg':g'=g1∨g'∈F':=by
    obtain ⟨c,F2,hr',hF,hc'⟩:=adU xs hrl hx
    rcases afq p (v:=x) ⟨c,cells1,hb1,hr',fun i u hu=>by rw [Nat.add_assoc]; exact hc1 _ _ (hc' i u hu)⟩ e' with ⟨h1,_⟩ | h1
    exact .inl h1
    exact .inr (hF _ h1)
   have hne:g≠g':=by
    rintro rfl
    rcases hg' with h | h
    exact hnd2.1 (by simp [h])
    exact hnd2.1 (by simp [h])
   obtain ⟨e1,fr,hbg,hfr⟩:=hb
   have hsz':cells1'.size=cells1.size:=by
    by_cases hg1':g1=g'
    subst hg1'
    obtain ⟨c2,⟨e2,f2,hb2,_⟩,hs2,_⟩:=hst.near cells1 hb1
    obtain ⟨e3,f3,hb3,_⟩:=hb1'
    rw [hb2] at hb3
    simp only [Option.some.injEq,Obj.cells.injEq] at hb3
    obtain ⟨rfl,_,_⟩:=hb3
    exact hs2
    obtain ⟨e2,f2,hb2,_⟩:=hb1
    obtain ⟨e3,f3,hb3,_⟩:=hb1'
    rw [hst.far g1 hg1',hb2] at hb3
    simp only [Option.some.injEq,Obj.cells.injEq] at hb3
    rw [hb3.1]
   refine ⟨g1 :: F1,⟨cs,cells,⟨e1,fr,(hst.far g hne).trans hbg,hfr⟩,.inr ⟨hc0,hs0,by simpa using hlc,by simpa using hcs,?_,hg1,flat',F1,cells1',rfl,hrl',hb1',by omega,hc1'⟩,hc⟩,?_,?_⟩
   intro y hy
   rcases List.mem_or_eq_of_mem_set hy with h | h
   exact ha y h
   rw [h,aiE p e' hn]; exact ha x (List.mem_of_getElem? hx)
   refine List.nodup_cons.2 ⟨fun c=>?_,hN⟩
   rcases List.mem_cons.1 c with h | h
   exact hnd2.1 (by simp [h])
   rcases hI g h with h | h
   exact hnd2.1 (by simp [h])
   exact hdis g h (by simp)
   intro y hy
   rcases List.mem_cons.1 hy with h | h
   left; simp [h]
   rcases hI y h with h | h
   left; simp [h]
   right; exact h
   simp at e
   simp at e
end
end Go.Abs
namespace Go.Abs
open Go Go.RowKit
section
variable {w w':World} {Pb Kb:Nat→Prop} {N:Nat} {A A':AS} {a:Act} {F:Root→List Nat} {P:Program}
mutual
theorem agG:∀ (v:V) {cs F},R w Pb v cs F→∀ c,c∈cs→c.oneCell'=true
 | .lit x,_,_,h=>by obtain ⟨h1,rfl,_⟩:=h; simpa using h1
 | .agg vs,_,_,h=>by simp only [R] at h; exact asG vs h
 | .tup _,_,_,h=>by simp [R] at h
 | .gv _ _,_,_,h=>by simp [R] at h
 | .sl ..,_,_,h=>by obtain ⟨_,A,c,rfl,_⟩:=h; simp [Value.oneCell']
 | .own ..,_,_,h=>by rcases h with ⟨_,_,_,A,rfl⟩ | ⟨_,_,_,rfl,_⟩ <;> simp [Value.oneCell']
 | .hd ..,_,_,h=>by obtain ⟨_,_,A,rfl,_⟩:=h; simp [Value.oneCell']
 | .ow ..,_,_,h=>by obtain ⟨g,o,c,h⟩:=h; rcases h with ⟨_,_,_,A,rfl⟩ | ⟨_,_,_,rfl,_⟩ <;> simp [Value.oneCell']
 | .om ..,_,_,h=>by obtain ⟨_,rfl,_⟩:=h; simp [Value.oneCell']
 | .mp ..,_,_,h=>by obtain ⟨_,g,rfl,_⟩:=h; simp [Value.oneCell']
 | .ptr ..,_,_,h=>by obtain ⟨_,rfl⟩:=h; simp [Value.oneCell']
 | .ep _,_,_,h=>by obtain ⟨_,b,o,flat,rfl,_⟩:=h; simp [Value.oneCell']
 | .dead,_,_,h=>by obtain ⟨_,x,rfl,hx⟩:=h; simpa using hx
theorem asG:∀ (vs:List V) {cs F},RL w Pb vs cs F→∀ c,c∈cs→c.oneCell'=true
 | [],_,_,h=>by rw [h.1]; simp
 | v :: vs,_,_,h=>by
   obtain ⟨c1,c2,F1,F2,rfl,_,h1,h2⟩:=h
   intro c hc
   rcases List.mem_append.1 hc with h | h
   exact agG v h1 c h
   exact asG vs h2 c h
end
def V.isVal:V→Bool | .tup _=>false | .gv _ _=>false | .dead=>false | _=>true
theorem adW {x:Value} (h:x.oneCell'=true):x.cells= #[x]:=by cases x <;> simp [Value.oneCell'] at h <;> rfl
theorem avE {v:V} {x:Value} {Fv:List Nat} (h:RV w Pb v x Fv) (hv:v.isVal=true):R w Pb v x.cells.toList Fv:=by
 cases v with
 | tup _=>simp [V.isVal] at hv
 | gv _ _=>simp [V.isVal] at hv
 | dead=>simp [V.isVal] at hv
 | agg us=>obtain ⟨cs,rfl,h⟩:=h; simp only [R,Value.cells]; exact h
 | own sz xs g o c=>have h:R w Pb (.own sz xs g o c) [x] Fv:=h; rw [adW (agG _ h x (by simp))]; exact h
 | ow sz xs=>have h:R w Pb (.ow sz xs) [x] Fv:=h; rw [adW (agG _ h x (by simp))]; exact h
 | om es g=>have h:R w Pb (.om es g) [x] Fv:=h; rw [adW (agG _ h x (by simp))]; exact h
 | mp es=>have h:R w Pb (.mp es) [x] Fv:=h; rw [adW (agG _ h x (by simp))]; exact h
 | lit y=>have h:R w Pb (.lit y) [x] Fv:=h; rw [adW (agG _ h x (by simp))]; exact h
 | sl f xs=>have h:R w Pb (.sl f xs) [x] Fv:=h; rw [adW (agG _ h x (by simp))]; exact h
 | hd r p sz g o lo n c=>have h:R w Pb (.hd r p sz g o lo n c) [x] Fv:=h; rw [adW (agG _ h x (by simp))]; exact h
 | ptr r p g o=>have h:R w Pb (.ptr r p g o) [x] Fv:=h; rw [adW (agG _ h x (by simp))]; exact h
 | ep v=>have h:R w Pb (.ep v) [x] Fv:=h; rw [adW (agG _ h x (by simp))]; exact h
theorem Stored.nil (w:World) (g o:Nat):Stored w w g o []:=
 ⟨rfl,rfl,rfl,rfl,fun _ _=>rfl,fun cells hb=>⟨cells,hb,rfl,fun _ _=>rfl,fun j u hu=>by simp at hu⟩⟩
theorem Stored.cons {w1 w2:World} {g o:Nat} {v:Value} {vs:List Value} (h1:Stored w w1 g o [v]) (h2:Stored w1 w2 g (o+1) vs):Stored w w2 g o (v :: vs):=by
 refine ⟨h2.os.trans h1.os,h2.tape.trans h1.tape,h2.output.trans h1.output,h2.size.trans h1.size,fun k hk=>(h2.far k hk).trans (h1.far k hk),fun cells hb=>?_⟩
 obtain ⟨c1,hb1,hs1,hf1,hn1⟩:=h1.near cells hb
 obtain ⟨c2,hb2,hs2,hf2,hn2⟩:=h2.near c1 hb1
 refine ⟨c2,hb2,hs2.trans hs1,fun j hj=>?_,fun j u hu=>?_⟩
 simp only [List.length_cons] at hj
 rw [hf2 j (by omega),hf1 j (by simp; omega)]
 cases j with
 | zero=>
   simp at hu; subst hu
   rw [hf2 _ (by omega)]; exact hn1 0 v rfl
 | succ j=>
   have:=hn2 j u (by simpa using hu)
   rw [← this]; congr 1; omega
theorem ahh {g o:Nat}:∀ (vs:List Value) (i:Nat) (w:World) (cells:Array Value),Blk w g cells→o+i+vs.length≤cells.size→(∀ v,v∈vs→v.oneCell'=true)→
 ∃ w',(storeCells ⟨g,o,none⟩ vs i).run P w=.ok () w'∧Stored w w' g (o+i) vs
 | [],i,w,cells,_,_,_=>⟨w,rfl,Stored.nil w g _⟩
 | v :: vs,i,w,cells,hb,hl,h1=>by
   obtain ⟨e,fr,hb0,hfr⟩:=hb
   simp only [List.length_cons] at hl
   have hlt:o+i < cells.size:=by omega
   have hc:w.cell? ⟨g,o+i,none⟩=some cells[o+i]:=by simp [World.cell?,hb0,hlt]
   have hf:w.frozen? ⟨g,o+i,none⟩=false:=by
    have:=hfr (o+i) (by omega)
    simp only [World.frozen?,hb0,Bool.and_eq_false_iff,decide_eq_false_iff_not]
    by_cases h:fr.1≤o+i
    right; exact fun c=>this ⟨h,c⟩
    left; exact h
   have hst:Stored w (w.setCell ⟨g,o+i,none⟩ v) g (o+i) [v]:=by
    refine ⟨rfl,rfl,rfl,by simp [World.setCell],fun k hk=>Below.heap_setCell _ _ _ _ hk,fun cells' hb'=>?_⟩
    obtain ⟨e',fr',hb',hfr'⟩:=hb'
    refine ⟨cells'.setIfInBounds (o+i) v,⟨e',fr',?_,by simpa using hfr'⟩,by simp,fun j hj=>?_,fun j u hu=>?_⟩
    simp [World.setCell,Array.getElem?_modify,hb']
    rw [Array.getElem?_setIfInBounds_ne]; simp at hj; omega
    cases j with
    | zero=>
      simp at hu; subst hu
      rw [hb0] at hb'
      simp only [Option.some.injEq,Obj.cells.injEq] at hb'
      obtain ⟨rfl,_,_⟩:=hb'
      simp [hlt]
    | succ j=>simp at hu
   have hb1:Blk (w.setCell ⟨g,o+i,none⟩ v) g (cells.setIfInBounds (o+i) v):=
    ⟨e,fr,by simp [World.setCell,Array.getElem?_modify,hb0],by simpa using hfr⟩
   obtain ⟨w',hr,hst'⟩:=ahh (g:=g) (o:=o) vs (i+1) _ _ hb1 (by rw [Array.size_setIfInBounds]; omega) (fun u hu=>h1 u (by simp [hu]))
   refine ⟨w',?_,hst.cons (by rw [Nat.add_assoc]; exact hst')⟩
   simp only [storeCells,Sem.run_bind,acF,run_store P w _ v .plain (h1 v (by simp)),hc,hf,Bool.false_eq_true,if_false,Result.andThen_ok]
   exact hr
theorem aBu {p:List Nat} {x u u':V} {sz j g1 o1 c1 g' o':Nat} {xs:List V} {cs cs':List Value} {F1 F'':List Nat} (hr0:R w Pb (.own sz xs g1 o1 c1) cs F1) (hnd:F1.Nodup) (hP:∀ x,x∈F1→¬ Pb x)
 (hx:xs[j]? =some x) (e:V.at g1 (o1+j * sz) x p=some (g',o',u)) (hr:R w' Pb u' cs' F'') (hn:u'.n=u.n) (hnd':F''.Nodup) (hdis:∀ x,x∈F''→x ∉ F1) (hst:Stored w w' g' o' cs')
 (k1:∀ x,Pb x→w'.heap[x]? =w.heap[x]?):∃ F2,R w' Pb (.own sz (xs.set j (x.set p u')) g1 o1 c1) cs F2∧F2.Nodup∧(∀ y,y∈F2→y∈F1∨y∈F'')∧g'∈F1:=by
 rcases hr0 with ⟨_,rfl,_⟩ | ⟨hc0,hs0,hlc,hcs,ha,hg1,flat,F',cells1,rfl,hrl,hb1,hsz,hc1⟩
 simp at hx
 have hj:j≤xs.length:=by have:=(List.getElem?_eq_some_iff.1 hx).1; omega
 have e':V.at g1 (o1+V.ns (xs.take j)) x p=some (g',o',u):=by rw [acU xs j ha hj]; exact e
 obtain ⟨F2,⟨flat',cells1',hb1',hrl',hc1'⟩,hN,hI⟩:=apq (asQ p) hr hn hnd' hst k1 xs o1 F' j ⟨flat,cells1,hb1,hrl,hc1⟩ hnd hP hdis hx e'
 have hg':g'=g1∨g'∈F':=by
  obtain ⟨c,F2,hr',hF,hc'⟩:=adU xs hrl hx
  rcases afq p (v:=x) ⟨c,cells1,hb1,hr',fun i u hu=>by rw [Nat.add_assoc]; exact hc1 _ _ (hc' i u hu)⟩ e' with ⟨h1,_⟩ | h1
  exact .inl h1
  exact .inr (hF _ h1)
 have hsz':cells1'.size=cells1.size:=by
  by_cases hg1':g1=g'
  subst hg1'
  obtain ⟨c2,⟨e2,f2,hb2,_⟩,hs2,_⟩:=hst.near cells1 hb1
  obtain ⟨e3,f3,hb3,_⟩:=hb1'
  rw [hb2] at hb3
  simp only [Option.some.injEq,Obj.cells.injEq] at hb3
  obtain ⟨rfl,_,_⟩:=hb3
  exact hs2
  obtain ⟨e2,f2,hb2,_⟩:=hb1
  obtain ⟨e3,f3,hb3,_⟩:=hb1'
  rw [hst.far g1 hg1',hb2] at hb3
  simp only [Option.some.injEq,Obj.cells.injEq] at hb3
  rw [hb3.1]
 refine ⟨g1 :: F2,.inr ⟨hc0,hs0,by simpa using hlc,by simpa using hcs,?_,hg1,flat',F2,cells1',rfl,hrl',hb1',by omega,hc1'⟩,hN,?_,?_⟩
 intro y hy
 rcases List.mem_or_eq_of_mem_set hy with h | h
 exact ha y h
 rw [h,aiE p e' hn]; exact ha x (List.mem_of_getElem? hx)
 intro y hy
 rcases List.mem_cons.1 hy with h | h
 left; simp [h]
 rcases hI y h with h | h
 left; simp [h]
 right; exact h
 rcases hg' with h | h <;> simp [h]
def AS.setAt (A:AS) (r:Root) (p:List Nat) (v:V):AS:=
 match r with
 | .key k=>match lk k A.h with
   | some (g,t)=>{ A with h:=(k,(g,t.set p v)) :: A.h }
   | none=>A
 | .slot i=>{ A with t:=(i,(A.get i).set p v) :: A.t }
theorem SIM.store (hs:SIM N Pb Kb A a w F) {r:Root} {p:List Nat} {g o:Nat} {old v:V} {cs:List Value} {Fv:List Nat} (hat:A.at r p=some (g,o,old)) (hr:R w Pb v cs Fv) (hn:v.n=old.n)
 (hnd:Fv.Nodup) (hdis:∀ r g,g∈Fv→g ∉ F r) (hfr:∀ g,g∈Fv→¬ Kb g∧g < w.heap.size) (hst:Stored w w' g o cs):∃ F',SIM N Pb Kb (A.setAt r p v) a w' F'∧¬ Kb g:=by
 have hPF:∀ r g,g∈F r→¬ Pb g:=fun r g hg c=>(hs.free r g hg).1 (hs.sub g c)
 have main:∃ Fr,g∈F r∧(∀ x,Pb x→w'.heap[x]? =w.heap[x]?)∧Fr.Nodup∧(∀ y,y∈Fr→y∈F r∨y∈Fv)∧
  (match r with
   | .key k=> ∀ g0 t,lk k A.h=some (g0,t)→∃ F',Fr=g0 :: F'∧At w' Pb (t.set p v) g0 0 F'
   | .slot i=>RV w' Pb ((A.get i).set p v) (a.tmps.getD i undef) Fr):=by
  have kk:∀ r,g∈F r→∀ x,Pb x→w'.heap[x]? =w.heap[x]? :=fun r hg x hx=>hst.far x (by rintro rfl; exact hPF r _ hg hx)
  have hr':∀ r,g∈F r→R w' Pb v cs Fv:=fun r hg=>aep v hr (kk r hg) (fun x hx=>hst.far x (by rintro rfl; exact hdis r _ hx hg)) (fun _ h=>h) (fun x hx c=>(hfr x hx).1 (hs.sub x c))
  cases r with
  | key k=>
    simp only [AS.at] at hat
    split at hat
    case h_2=>simp at hat
    rename_i g0 t hk
    obtain ⟨F',e,hA⟩:=hs.root k g0 t hk
    have hgF:g∈F (.key k):=by
     rw [e]
     rcases afq p hA hat with ⟨rfl,_⟩ | h
     simp
     simp [h]
    have hnd0:=hs.nodup (.key k)
    rw [e] at hnd0
    obtain ⟨F1,h1,h2,h3⟩:=asQ (w:=w) (w':=w') p _ _ _ _ _ _ _ _ _ _ hA hnd0 (fun x hx=>hPF (.key k) x (by rw [e]; exact hx)) hat (hr' _ hgF) hn hnd (fun x hx c=>hdis (.key k) x hx (by rw [e]; exact c)) hst (kk _ hgF)
    refine ⟨g0 :: F1,hgF,kk _ hgF,h2,fun y hy=>?_,fun g0' t' hk'=>?_⟩
    rw [e]
    rcases List.mem_cons.1 hy with h | h
    left; simp [h]
    rcases h3 y h with h | h
    left; simp [h]
    exact .inr h
    rw [hk] at hk'
    simp only [Option.some.injEq,Prod.mk.injEq] at hk'
    obtain ⟨rfl,rfl⟩:=hk'
    exact ⟨F1,rfl,h1⟩
  | slot i=>
    simp only [AS.at] at hat
    split at hat
    case h_2=>simp at hat
    rename_i sz xs g1 o1 c1 j p hi
    have hrv:=hs.slot i
    rw [hi] at hrv
    simp only [V.at] at hat
    split at hat
    case h_2=>simp at hat
    rename_i x hx
    have hgF:g∈F (.slot i):=by
     rcases hrv with ⟨_,rfl,_⟩ | ⟨_,_,_,_,ha,_,flat,F',cells',hF,hrl,hb',_,hc'⟩
     simp at hx
     obtain ⟨c,F'',hr',hF',hc''⟩:=adU xs hrl hx
     have hj:j≤xs.length:=by have:=(List.getElem?_eq_some_iff.1 hx).1; omega
     rw [acU xs j ha hj] at hc''
     rw [hF]
     rcases afq p (v:=x) ⟨c,cells',hb',hr',fun i u hu=>by rw [Nat.add_assoc]; exact hc' _ _ (hc'' i u hu)⟩ hat with ⟨rfl,_⟩ | h
     simp
     simp [hF' _ h]
    obtain ⟨F2,h1,h2,h3,_⟩:=aBu (w:=w) (w':=w') hrv (hs.nodup _) (hPF _) hx hat (hr' _ hgF) hn hnd (hdis _) hst (kk _ hgF)
    refine ⟨F2,hgF,kk _ hgF,h2,h3,?_⟩
    simp only [hi,V.set,hx]
    exact h1
 obtain ⟨Fr,hgF,kk,hndr,hinr,hm⟩:=main
 have hfree:∀ y,y∈Fr→¬ Kb y∧y < w.heap.size:=fun y hy=>by
  rcases hinr y hy with h | h
  exact hs.free r y h
  exact hfr y h
 have hfar:∀ r' x,r'≠r→x∈F r'→w'.heap[x]? =w.heap[x]? :=fun r' x hne hx=>hst.far x (by rintro rfl; exact hs.aaW r' r hne _ hx hgF)
 refine ⟨abe F r Fr,⟨?_,?_,fun i=>?_,fun k g0 t hk=>?_,fun r1 r2 hne y hy=>?_,fun r1=>?_,fun r1 y hy=>?_,hs.sub,fun y hy=>by rw [hst.size]; exact hs.bound y hy⟩,(hs.free r g hgF).1⟩
 exact hs.size
 exact hs.defers
 by_cases hri:r=.slot i
 subst hri
 simp only [abe,if_true,AS.setAt,AS.get,lk,Option.getD_some]
 exact hm
 simp only [abe,if_neg (Ne.symm hri)]
 have:(A.setAt r p v).get i=A.get i:=by
  cases r with
  | key k=>simp only [AS.setAt]; split <;> rfl
  | slot j=>simp only [AS.setAt,AS.get,lk]; rw [if_neg (fun c=>hri (by rw [c]))]
 rw [this]
 exact aiw _ (hs.slot i) kk (fun x hx=>hfar _ x (Ne.symm hri) hx) (fun _ h=>h) (fun x hx=>hPF _ x hx)
 by_cases hrk:r=.key k
 subst hrk
 simp only [AS.setAt] at hk
 have hk0:∃ g1 t1,lk k A.h=some (g1,t1):=by
  simp only [AS.at] at hat
  split at hat
  rename_i g1 t1 h; exact ⟨g1,t1,h⟩
  simp at hat
 obtain ⟨g1,t1,hk0⟩:=hk0
 rw [hk0] at hk
 simp only [lk,if_true,Option.some.injEq,Prod.mk.injEq] at hk
 obtain ⟨rfl,rfl⟩:=hk
 obtain ⟨F',e,hA⟩:=hm _ _ hk0
 exact ⟨F',by simp [abe,e],hA⟩
 have hk':lk k A.h=some (g0,t):=by
  cases r with
  | slot j=>exact hk
  | key k'=>
    simp only [AS.setAt] at hk
    split at hk
    simp only [lk] at hk; rwa [if_neg (fun c=>hrk (by rw [c]))] at hk
    exact hk
 obtain ⟨F',e,hA⟩:=hs.root k g0 t hk'
 refine ⟨F',by simp only [abe,if_neg (Ne.symm hrk)]; exact e,alj hA kk (fun x hx=>hfar (.key k) x (Ne.symm hrk) (by rw [e]; simp [hx])) (fun x hx=>hPF (.key k) x (by rw [e]; simp [hx])) (fun cells hb=>?_)⟩
 obtain ⟨e',fr,hb,hf⟩:=hb
 exact ⟨cells,⟨e',fr,(hfar (.key k) g0 (Ne.symm hrk) (by rw [e]; simp)).trans hb,hf⟩,fun _ _ _=>rfl⟩
 simp only [abe] at hy ⊢
 split at hy
 rename_i h1
 rw [if_neg (fun c=>hne (h1.trans c.symm))]
 subst h1
 rcases hinr y hy with h | h
 exact hs.aaW _ _ hne y h
 exact hdis r2 y h
 rename_i h1
 split
 rename_i h2
 subst h2
 intro c
 rcases hinr y c with h | h
 exact hs.aaW _ _ hne y hy h
 exact hdis r1 y h hy
 exact hs.aaW r1 r2 hne y hy
 simp only [abe]; split
 exact hndr
 exact hs.nodup r1
 simp only [abe] at hy
 rw [hst.size]
 split at hy
 exact hfree y hy
 exact hs.free r1 y hy
end
end Go.Abs
namespace Go.Abs
open Go Go.RowKit
mutual
def V.flat:V→Option (List Value)
 | .lit x=>if x.oneCell' then some [x] else none
 | .sl true []=>some [.slice none 0 0]
 | .agg vs=>V.aor vs
 | _=>none
def V.aor:List V→Option (List Value)
 | []=>some []
 | v :: vs=>match v.flat,V.aor vs with
   | some a,some b=>some (a++b)
   | _,_=>none
end
def aia (P:Program) (T:Nat) (v:V):Prop:= ∃ inf z,P.info? T=some inf∧inf.zero=some z∧v.flat=some z.cells.toList
section
variable {w w':World} {Pb Kb:Nat→Prop} {N:Nat} {A A':AS} {a:Act} {F:Root→List Nat} {P:Program}
mutual
theorem apa:∀ (v:V) {cs},v.flat=some cs→R w Pb v cs []
 | .lit x,cs,h=>by
   simp only [V.flat] at h
   split at h
   rename_i hx; simp at h; subst h; exact ⟨hx,rfl,rfl⟩
   simp at h
 | .sl true [],cs,h=>by simp [V.flat] at h; subst h; exact ⟨rfl,none,0,rfl,Nat.le_refl _,fun _=>rfl,.inl rfl⟩
 | .sl true (x :: xs),cs,h=>by simp [V.flat] at h
 | .sl false xs,cs,h=>by simp [V.flat] at h
 | .agg vs,cs,h=>by simp only [V.flat] at h; simp only [R]; exact auV vs h
 | .tup _,_,h=>by simp [V.flat] at h
 | .gv _ _,_,h=>by simp [V.flat] at h
 | .own ..,_,h=>by simp [V.flat] at h
 | .hd ..,_,h=>by simp [V.flat] at h
 | .ow ..,_,h=>by simp [V.flat] at h
 | .om ..,_,h=>by simp [V.flat] at h
 | .mp ..,_,h=>by simp [V.flat] at h
 | .ptr ..,_,h=>by simp [V.flat] at h
 | .ep _,_,h=>by simp [V.flat] at h
 | .dead,_,h=>by simp [V.flat] at h
theorem auV:∀ (vs:List V) {cs},V.aor vs=some cs→RL w Pb vs cs []
 | [],cs,h=>by simp [V.aor] at h; subst h; exact ⟨rfl,rfl⟩
 | v :: vs,cs,h=>by
   simp only [V.aor] at h
   split at h
   rename_i a b h1 h2
   simp at h; subst h
   exact ⟨a,b,[],[],rfl,rfl,apa v h1,auV vs h2⟩
   simp at h
end
theorem alloc_old (w:World) (o:Obj) (k:Nat) (h:k < w.heap.size):(w.alloc o).heap[k]? =w.heap[k]? :=Below.heap_alloc w o k h
theorem acr (w:World) (o:Obj):(w.alloc o).heap.size=w.heap.size+1:=by simp
theorem aev (w:World) (o:Obj):(w.alloc o).heap[w.heap.size]? =some o:=heap_alloc_new w o
theorem SIM.akx (hs:SIM N Pb Kb A a w F) (o:Obj):SIM N Pb Kb A a (w.alloc o) F:=
 hs.grow (fun k hk=>alloc_old w o k hk) (by rw [acr]; omega) (fun _ h=>h) (fun g hg=>.inl hg) hs.sub
theorem SIM.aDr (hs:SIM N Pb Kb A a w F) (o:Obj):SIM N (fun g=>Pb g∨g=w.heap.size) (fun g=>Kb g∨g=w.heap.size) A a (w.alloc o) F:=
 hs.grow (fun k hk=>alloc_old w o k hk) (by rw [acr]; omega) (fun _ h=>.inl h) (fun g hg=>hg.imp id fun h=>by rw [acr]; omega) (fun g hg=>hg.imp (hs.sub g) id)
theorem SIM.aBj (hs:SIM N Pb Kb A a w F) {k g:Nat} {v:V} {Fv:List Nat} (hA:At w Pb v g 0 Fv) (hnd:(g :: Fv).Nodup) (hdis:∀ r x,x∈g :: Fv→x ∉ F r) (hfr:∀ x,x∈g :: Fv→¬ Kb x∧x < w.heap.size):
 SIM N Pb Kb { A with h:=(k,(g,v)) :: A.h } a w (abe F (.key k) (g :: Fv)) where
 size:=hs.size
 defers:=hs.defers
 slot:=fun i=>by simp only [abe,reduceCtorEq,if_false]; exact hs.slot i
 root:=fun k' g' v' hk=>by
  simp only [lk] at hk
  by_cases e:k'=k
  subst e
  simp only [if_true,Option.some.injEq,Prod.mk.injEq] at hk
  obtain ⟨rfl,rfl⟩:=hk
  exact ⟨Fv,by simp [abe],hA⟩
  rw [if_neg e] at hk
  obtain ⟨F',e',hA'⟩:=hs.root k' g' v' hk
  exact ⟨F',by simp only [abe]; rw [if_neg (fun c=>e (by injection c))]; exact e',hA'⟩
 aaW:=fun r r' hne x hx=>by
  simp only [abe] at hx ⊢
  split at hx
  rename_i h1; rw [if_neg (fun c=>hne (h1.trans c.symm))]; exact hdis r' x hx
  split
  exact fun c=>hdis r x c hx
  exact hs.aaW r r' hne x hx
 nodup:=fun r=>by
  simp only [abe]; split
  exact hnd
  exact hs.nodup r
 free:=fun r x hx=>by
  simp only [abe] at hx
  split at hx
  exact hfr x hx
  exact hs.free r x hx
 sub:=hs.sub
 bound:=hs.bound
theorem Keep.alloc (hK:∀ g,Kb g→g < w.heap.size) (o:Obj):Keep Kb w (w.alloc o):=
 ⟨rfl,rfl,rfl,by rw [acr]; omega,fun g hg=>alloc_old w o g (hK g hg)⟩
theorem SIM.aBM (hs:SIM N Pb Kb A a w F) {d:Nat} (hd:d < N) {v:V} {cs:Array Value} {e:TypeId} (hr:R w Pb v cs.toList []):
 ∃ F',SIM N Pb Kb ⟨(A.put (some d) (.ptr (.key d) [] w.heap.size 0)).t,(d,(w.heap.size,v)) :: A.h⟩ (a.put (some d) (.pointer (some ⟨w.heap.size,0,none⟩))) (w.alloc (.cells cs e)) F':=by
 have h1:=hs.akx (.cells cs e)
 have h2:=h1.put (d:=d) (v:=.ptr (.key d) [] w.heap.size 0) (x:=.pointer (some ⟨w.heap.size,0,none⟩)) (F':=[]) hd ⟨rfl,rfl⟩ (by simp) (by simp) (by simp)
 have hA:At (w.alloc (.cells cs e)) Pb v w.heap.size 0 []:=
  ⟨cs.toList,cs,⟨e,(0,0),aev w _,fun i _ h=>by omega⟩,aep v hr (fun g hg=>alloc_old w _ g (hs.bound g (hs.sub g hg))) (by simp) (fun _ h=>h) (by simp),fun j u hu=>by simpa using hu⟩
 refine ⟨_,h2.aBj (k:=d) hA (by simp) (fun r x hx c=>?_) (fun x hx=>?_)⟩
 simp at hx; subst hx
 simp only [abe] at c
 split at c
 simp at c
 have:=(hs.free r _ c).2; omega
 simp at hx; subst hx
 refine ⟨fun c=>?_,by rw [acr]; omega⟩
 have:=hs.bound _ c; omega
theorem anf {o:Oper} {K:AS→Prop} {d:Nat} {v:V} (hd:o.dst=some d) (hN:d < N)
 (hrun:∀ Pb Kb a w F,SIM N Pb Kb A a w F→∃ cs e,(execOp a.eval o).run P w=.ok (.value (.pointer (some ⟨w.heap.size,0,none⟩))) (w.alloc (.cells cs e))∧R w Pb v cs.toList [])
 (hK:∀ g,K ⟨(A.put (some d) (.ptr (.key d) [] g 0)).t,(d,(g,v)) :: A.h⟩):opT P N o A K:=by
 intro Pb Kb a w F Q hs
 obtain ⟨cs,e,hx,hr⟩:=hrun Pb Kb a w F hs
 unfold Oper.wp
 rw [hx,Oper.upon_value,hd]
 obtain ⟨F',hs'⟩:=hs.aBM hN (e:=e) hr
 exact ⟨_,Pb,Kb,F',hK _,hs',fun _ h=>h,fun _ h=>h,fun _ h=>.inl h,Keep.alloc hs.bound _⟩
theorem ahb (e:TypeId) (cs:Array Value):(newRow e cs).run P w=.ok ⟨w.heap.size,0,none⟩ (w.alloc (.cells cs e)):=rfl
theorem alM {o:Oper} {K:AS→Prop} {d T:Nat} {v:V} (ho:o.op=.alloc T) (hd:o.dst=some d) (hN:d < N) (hz:aia P T v)
 (hK:∀ g,K ⟨(A.put (some d) (.ptr (.key d) [] g 0)).t,(d,(g,v)) :: A.h⟩):opT P N o A K:=by
 refine anf hd hN (fun Pb Kb a w F hs=>?_) hK
 obtain ⟨inf,z,h1,h2,h3⟩:=hz
 refine ⟨z.cells,T,?_,apa v h3⟩
 simp [execOp,ho,Instr.alloc,zeroValue,typeInfo,h1,h2,newVar,ahb]
theorem aBC {o:Oper} {K:AS→Prop} {d T:Nat} {x:Operand} (ho:o.op=.box T x) (hd:o.dst=some d) (hN:d < N) (hv:(A.cp x).isVal=true)
 (hK:∀ g,K ⟨(A.put (some d) (.ptr (.key d) [] g 0)).t,(d,(g,A.cp x)) :: A.h⟩):opT P N o A K:=by
 refine anf hd hN (fun Pb Kb a w F hs=>?_) hK
 exact ⟨(a.eval x).cells,T,by simp [execOp,ho,Instr.box,newVar,ahb],avE (akI hs x) hv⟩
theorem amh {o:Oper} {K:AS→Prop} {T:Nat} {x y:Operand} {r:Root} {p:List Nat} {g g':Nat} {i:TI} {old:V} (ho:o.op=.store T x y) (hd:o.dst=none) (hi:ti P T=some i)
 (hx:A.ev x=.ptr r p g g') (hat:(A.drop y).at r p=some (g,g',old)) (hv:(A.ev y).isVal=true) (hn:(A.ev y).n=old.n) (hn':(A.ev y).n=i.sz) (hK:K ((A.drop y).setAt r p (A.ev y))):opT P N o A K:=by
 intro Pb Kb a w F Q hs
 obtain ⟨Fx,F',hr,hs',hnd,hdis,hfr,_⟩:=hs.take y
 obtain ⟨_,hpt⟩:=adp hs x
 rw [hx] at hpt
 have hp:a.eval x=.pointer (some ⟨g,g',none⟩):=by have:=hpt.2; simpa using this
 have hR:=avE hr hv
 obtain ⟨_,cs0,cells,hb,hr0,hc0⟩:=agV hs' hat
 have hl0:=adm _ hr0
 have hl:=adm _ hR
 have hle:g'+(a.eval y).cells.toList.length≤cells.size∨(a.eval y).cells.toList=[]:=by
  by_cases hne:cs0=[]
  right; exact List.eq_nil_of_length_eq_zero (by rw [hl,hn,← hl0,hne]; rfl)
  left; have:=aqC hc0 hne; omega
 have hst:∃ w',(storeCells ⟨g,g',none⟩ (a.eval y).cells.toList 0).run P w=.ok () w'∧Stored w w' g g' (a.eval y).cells.toList:=by
  rcases hle with h | h
  obtain ⟨w',h1,h2⟩:=ahh (P:=P) (g:=g) (o:=g') (a.eval y).cells.toList 0 w cells hb (by omega) (agG _ hR)
  exact ⟨w',h1,h2⟩
  rw [h]; exact ⟨w,rfl,Stored.nil w g g'⟩
 obtain ⟨w',hrun,hst⟩:=hst
 have hx:(execOp a.eval o).run P w=.ok .skip w':=by
  have hsz:(a.eval y).cells.size=i.sz:=by rw [← hn',← hl]; simp
  simp only [execOp,ho,Instr.storeAt,hp,Instr.sureAddr,Sem.run_bind,Sem.run_pure,Result.andThen_ok,storeVar,acg hi,hsz,ne_eq,not_true_eq_false,if_false,hrun]
 unfold Oper.wp
 rw [hx,Oper.upon_skip,hd]
 obtain ⟨F2,hs2,hg⟩:=hs'.store hat hR hn hnd hdis hfr hst
 exact ⟨_,Pb,Kb,F2,hK,hs2,fun _ h=>h,fun _ h=>h,fun _ h=>.inl h,⟨hst.os,hst.tape,hst.output,by rw [hst.size]; omega,fun k hk=>hst.far k (fun c=>hg (c ▸ hk))⟩⟩
def acv (A:AS) (k:Nat):List (Nat×Operand)→Option (List V)
 | []=>some []
 | (i,x) :: r=>if i=k then match acv A (k+1) r with | some vs=>some (A.cp x :: vs) | none=>none else none
theorem ajg (hs:SIM N Pb Kb A a w F) {s:Nat}:∀ (parts:List (Nat×Operand)) (k:Nat) {vs:List V},acv A k parts=some vs→(∀ v,v∈vs→v.isVal=true∧v.n=s)→
 ∃ xs:List Value,(parts.map fun (i,x)=>(i,a.eval x))=(xs.zipIdx k).map (fun x=>(x.2,x.1))∧(∀ x,x∈xs→x.cells.size=s)∧RL w Pb vs (xs.flatMap fun v=>v.cells.toList) []∧xs.length=vs.length
 | [],k,vs,h,_=>by simp [acv] at h; subst h; exact ⟨[],rfl,by simp,⟨rfl,rfl⟩,rfl⟩
 | (i,x) :: r,k,vs,h,hv=>by
   simp only [acv] at h
   split at h
   case isFalse=>simp at h
   rename_i e
   subst e
   split at h
   case h_2=>simp at h
   rename_i vs' hr
   simp at h; subst h
   obtain ⟨xs,h1,h2,h3,h4⟩:=ajg hs r (i+1) hr (fun v hv'=>hv v (by simp [hv']))
   have hR:=avE (akI hs x) (hv (A.cp x) (by simp)).1
   have hl:=adm _ hR
   refine ⟨a.eval x :: xs,by simp [h1],?_,⟨_,_,[],[],by simp,rfl,hR,h3⟩,by simp [h4]⟩
   intro y hy
   rcases List.mem_cons.1 hy with rfl | h
   rw [← (hv (A.cp x) (by simp)).2,← hl]; simp
   exact h2 y h
theorem apV {o:Oper} {K:AS→Prop} {T e len:Nat} {parts:Array (Nat×Operand)} {i:TI} {vs:List V} (ho:o.op=.buildSlice T len parts) (hd:aaT N o.dst) (hT:tD P T=some (.sl e)) (hi:ti P e=some i)
 (hz:∃ inf z,P.info? e=some inf∧inf.zero=some z) (hvs:acv A 0 parts.toList=some vs) (hlen:vs.length=len) (hsmall:len * i.sz≤16777216) (hpos:0 < i.sz) (hv:∀ v,v∈vs→v.isVal=true∧v.n=i.sz)
 (hK:K (A.put o.dst (.sl true vs))):opT P N o A K:=by
 intro Pb Kb a w F Q hs
 obtain ⟨inf,z,hinf,hzero⟩:=hz
 obtain ⟨xs,h1,h2,h3,h4⟩:=ajg hs parts.toList 0 hvs hv
 have hu:=ait hT
 obtain ⟨inf',_,hinf',_,hsz,_,_⟩:=afB hi
 rw [hinf] at hinf'
 obtain rfl:=Option.some.inj hinf'
 by_cases h0:len=0
 have hvs0:vs=[]:=List.eq_nil_of_length_eq_zero (by omega)
 subst hvs0
 subst h0
 have hp0:parts.toList=[]:=by
  cases hpl:parts.toList with
  | nil=>rfl
  | cons p ps=>rw [hpl] at h1; rw [List.eq_nil_of_length_eq_zero h4] at h1; simp at h1
 have hp:parts= #[]:=by rw [← Array.toArray_toList (xs:=parts),hp0]
 subst hp
 have hx:(execOp a.eval o).run P w=.ok (.value (.slice (some ⟨w.heap.size,0,none⟩) 0 0)) (w.alloc (.cells #[] e)):=by
  simp [execOp,ho,Instr.buildSlice,aau hu,acg hi,Instr.fill,ahb]
  congr 2; apply Array.ext'; simp
 unfold Oper.wp
 rw [hx,Oper.upon_value]
 obtain ⟨F',hs'⟩:=(hs.akx (.cells #[] e)).akV (d:=o.dst) (v:=.sl true []) (x:=.slice (some ⟨w.heap.size,0,none⟩) 0 0) hd ⟨rfl,_,0,rfl,Nat.le_refl _,fun _=>rfl,.inl rfl⟩
 exact ⟨_,Pb,Kb,F',hK,hs',fun _ h=>h,fun _ h=>h,fun _ h=>.inl h,Keep.alloc hs.bound _⟩
 have hfl:=Great.fill_whole hpos xs ((Array.range (len * i.sz)).map (z.cells[· % z.cells.size]!)) h2 (by simp [h4,hlen])
 have hmul: ¬ len * inf.size=0:=by rw [hsz]; exact Nat.mul_ne_zero h0 (by omega)
 have hb:=run_buildSlice (P:=P) w T e len (parts.map fun (i,x)=>(i,a.eval x)) _ inf z hu hinf hzero (by rw [hsz]; omega) hmul (by rw [Array.toList_map,h1,hsz]; exact hfl)
 have hx:(execOp a.eval o).run P w=.ok (.value (.slice (some ⟨w.heap.size,0,none⟩) len len)) (w.alloc (.cells (xs.flatMap fun v=>v.cells.toList).toArray e)):=by
  simp only [execOp,ho,Sem.run_bind,hb,Result.andThen_ok,Sem.run_pure]
 unfold Oper.wp
 rw [hx,Oper.upon_value]
 have hs1:=hs.aDr (.cells (xs.flatMap fun v=>v.cells.toList).toArray e)
 have hrl:=acG (w':=w.alloc (.cells (xs.flatMap fun v=>v.cells.toList).toArray e)) (Pb':=fun g=>Pb g∨g=w.heap.size) vs h3 (fun g hg=>alloc_old w _ g (hs.bound g (hs.sub g hg))) (by simp) (fun g hg=>.inl hg) (by simp)
 obtain ⟨F',hs'⟩:=hs1.akV (d:=o.dst) (v:=.sl true vs) (x:=.slice (some ⟨w.heap.size,0,none⟩) len len) hd ⟨rfl,some ⟨w.heap.size,0,none⟩,len,by rw [hlen],by omega,fun _=>hlen.symm,
  .inr ⟨w.heap.size,0,i.sz,_,rfl,.inr rfl,hpos,fun v hv'=>(hv v hv').2,hrl,fun j u hu=>by
   rw [acn (cells:=(xs.flatMap fun v=>v.cells.toList).toArray) ⟨e,(0,0),aev w _,fun i _ h=>by omega⟩]; simpa using hu⟩⟩
 exact ⟨_,_,_,F',hK,hs',fun _ h=>.inl h,fun _ h=>.inl h,fun g hg=>by
  rcases hg with h | h
  exact .inl h
  right; intro c; have:=hs.bound g c; omega,Keep.alloc hs.bound _⟩
end
end Go.Abs
namespace Go.Abs
open Go Go.RowKit
section
variable {w w':World} {Pb Kb:Nat→Prop} {N:Nat} {A A':AS} {a:Act} {F:Root→List Nat} {P:Program}
def aiA (P:Program):List (Nat×Nat)→Option (List (Nat×Nat))
 | []=>some []
 | (off,T) :: r=>match ti P T,aiA P r with
   | some i,some ps=>some ((off,i.sz) :: ps)
   | _,_=>none
def akp (places:List (Nat×Nat)):List V→List (Nat×V)→Option (Prop×List V)
 | zs,[]=>some (True,zs)
 | zs,(i,v) :: r=>match places[i]?,zs[i]? with
   | some (off,sz),some z=>match akp places (zs.set i v) r with
     | some (C,zs')=>some (V.ns (zs.take i)=off∧v.n=sz∧z.n=sz∧v.isVal=true∧C,zs')
     | none=>none
   | _,_=>none
def alE (P:Program) (A:AS) (T:Nat) (zs:List V) (parts:List (Nat×Operand)):Option (Prop×V):=
 match tD P T with
 | some (.st fs)=>match aiA P fs with
   | some places=>match akp places zs (parts.map fun (i,x)=>(i,A.cp x)) with
     | some (C,vs)=>some (C,.agg vs)
     | none=>none
   | none=>none
 | _=>none
theorem aqc:∀ (zs:List V) {cs:List Value} {i:Nat} {z v:V} {c:List Value},RL w Pb zs cs []→zs[i]? =some z→R w Pb v c []→c.length=z.n→
 RL w Pb (zs.set i v) (cs.take (V.ns (zs.take i))++c++cs.drop (V.ns (zs.take i)+z.n)) []
 | [],_,_,_,_,_,_,h,_,_=>by simp at h
 | z0 :: zs,cs,0,z,v,c,h,hi,hr,hn=>by
   obtain ⟨c1,c2,F1,F2,rfl,hF,h1,h2⟩:=h
   have hF':=hF.symm; simp at hF'; obtain ⟨rfl,rfl⟩:=hF'
   simp at hi; subst hi
   have hl:=adm _ h1
   simp only [List.take_zero,V.ns,Nat.zero_add,List.nil_append,List.set_cons_zero]
   rw [← hl,List.drop_left]
   exact ⟨c,c2,[],[],rfl,rfl,hr,h2⟩
 | z0 :: zs,cs,i+1,z,v,c,h,hi,hr,hn=>by
   obtain ⟨c1,c2,F1,F2,rfl,hF,h1,h2⟩:=h
   have hF':=hF.symm; simp at hF'; obtain ⟨rfl,rfl⟩:=hF'
   have hl:=adm _ h1
   have ih:=aqc zs h2 (by simpa using hi) hr hn
   simp only [List.take_succ_cons,V.ns,List.set_cons_succ]
   refine ⟨c1,_,[],[],?_,rfl,h1,ih⟩
   rw [← hl,List.take_append,List.drop_append]
   have e1:(List.take (c1.length+V.ns (zs.take i)) c1)=c1:=List.take_of_length_le (by omega)
   have e2:(List.drop (c1.length+V.ns (zs.take i)+z.n) c1)=[]:=List.drop_eq_nil_of_le (by omega)
   rw [e1,e2]
   have e3:c1.length+V.ns (zs.take i) - c1.length=V.ns (zs.take i):=by omega
   have e4:c1.length+V.ns (zs.take i)+z.n - c1.length=V.ns (zs.take i)+z.n:=by omega
   rw [e3,e4]; simp
theorem awj (cells:Array Value) (off:Nat) (c:List Value) (h:off+c.length≤cells.size) {r:Array Value} (hs:r.size=cells.size)
 (hk:∀ k,r[k]? =if off+0≤k∧k < off+0+c.length∧k < cells.size then c[k - (off+0)]? else cells[k]?):r.toList=cells.toList.take off++c++cells.toList.drop (off+c.length):=by
 apply List.ext_getElem?
 intro k
 rw [Array.getElem?_toList,hk k]
 simp only [Nat.add_zero]
 by_cases h1:k < off
 rw [if_neg (by omega),List.append_assoc,List.getElem?_append_left (by simp; omega),List.getElem?_take,if_pos h1]; simp
 by_cases h2:k < off+c.length
 rw [if_pos ⟨by omega,h2,by omega⟩,List.append_assoc,List.getElem?_append_right (by simp; omega),List.getElem?_append_left (by simp; omega)]
 congr 1; simp; omega
 rw [if_neg (by omega),List.getElem?_append_right (by simp; omega),List.getElem?_drop]
 have:off+c.length+(k - (cells.toList.take off++c).length)=k:=by simp; omega
 rw [this]; simp
theorem amX (hs:SIM N Pb Kb A a w F) {places:List (Nat×Nat)}:∀ (parts:List (Nat×Operand)) {zs:List V} {C:Prop} {vs:List V} {cells:Array Value},akp places zs (parts.map fun (i,x)=>(i,A.cp x))=some (C,vs)→C→
 RL w Pb zs cells.toList []→∃ cells',Instr.fill (places.toArray[·]?) cells (parts.map fun (i,x)=>(i,a.eval x))=some cells'∧RL w Pb vs cells'.toList []
 | [],zs,C,vs,cells,h,_,hr=>by simp [akp] at h; obtain ⟨_,rfl⟩:=h; exact ⟨cells,rfl,hr⟩
 | (i,x) :: r,zs,C,vs,cells,h,hC,hr=>by
   simp only [List.map_cons,akp] at h
   split at h
   case h_2=>simp at h
   rename_i off sz z hp hz
   split at h
   case h_2=>simp at h
   rename_i C' zs' hf
   simp only [Option.some.injEq,Prod.mk.injEq] at h
   obtain ⟨rfl,rfl⟩:=h
   obtain ⟨h1,h2,h3,h4,h5⟩:=hC
   have hR:=avE (akI hs x) h4
   have hl:=adm _ hR
   obtain ⟨cz,F',hrz,_,hcz⟩:=adU zs hr hz
   have hlz:=adm _ hrz
   have hle:off+(a.eval x).cells.toList.length≤cells.size:=by
    by_cases hne:cz=[]
    have:sz=0:=by rw [← h3,← hlz,hne]; rfl
    have hns:V.ns (zs.take i)≤cells.size:=by
     have hl0:=afX _ hr
     have:V.ns (zs.take i)≤V.ns zs:=by
      clear hf hr hcz hrz hp hl0 h1
      induction zs generalizing i with
      | nil=>simp [V.ns]
      | cons z0 zs ih=>cases i with
        | zero=>simp [V.ns]
        | succ i=>simp only [List.take_succ_cons,V.ns]; have:=ih (i:=i) (by simpa using hz); omega
     simpa [← hl0] using this
    rw [hl,h2]; omega
    have:=aqC (cells:=cells) (o:=off) (l:=cz) (fun j u hu=>by rw [← h1]; have:=hcz j u hu; simpa using this) hne
    omega
   obtain ⟨g1,g2⟩:=Great.foldl_set off (a.eval x).cells.toList 0 cells
   have hseg:=awj cells off (a.eval x).cells.toList hle g1 g2
   have hr2:=aqc zs hr hz hR (by rw [hl,h2,h3])
   rw [h1,h3,← h2,← hl,← hseg] at hr2
   obtain ⟨cells',hfill,hr'⟩:=amX hs r hf h5 hr2
   refine ⟨cells',?_,hr'⟩
   simp only [List.map_cons]
   unfold Instr.fill
   have hp':places.toArray[i]? =some (off,sz):=by simpa using hp
   simp only [hp']
   rw [if_neg (by
    have e1:(a.eval x).cells.size=sz:=by rw [← h2,← hl]; simp
    simp only [e1,ne_eq,not_true_eq_false,decide_false,Bool.false_or,decide_eq_true_eq]
    rw [← e1]; simpa using hle)]
   rw [← hfill]; congr 1
   rw [← Array.foldl_toList,Array.toList_zipIdx]
theorem ayo {fl:Array Field} {fs:List (Nat×Nat)} (h:fl.toList.map (fun f=>(f.offset,f.type))=fs) {places:List (Nat×Nat)} (hp:aiA P fs=some places):
 fl.toList.mapM (fun f=>(P.info? f.type).map fun i=>(f.offset,i.size))=some places:=by
 subst h
 generalize fl.toList=l at hp
 induction l generalizing places with
 | nil=>simp [aiA] at hp; subst hp; rfl
 | cons f l ih=>
   simp only [List.map_cons,aiA] at hp
   split at hp
   case h_2=>simp at hp
   rename_i i ps hi hps
   simp at hp; subst hp
   obtain ⟨inf,_,h1,_,h3,_,_⟩:=afB hi
   simp [List.mapM_cons,h1,ih hps,h3]
theorem awi (hs:SIM N Pb Kb A a w F) {T:Nat} {parts:Array (Nat×Operand)} {zs:List V} {C:Prop} {v:V} (hz:aia P T (.agg zs)) (h:alE P A T zs parts.toList=some (C,v)) (hC:C):
 ∃ y,(Instr.build T (parts.map fun (i,x)=>(i,a.eval x))).run P w=.ok y w∧RV w Pb v y []:=by
 unfold alE at h
 split at h
 case h_2=>simp at h
 rename_i fs hT
 split at h
 case h_2=>simp at h
 rename_i places hp
 split at h
 case h_2=>simp at h
 rename_i C' vs hf
 simp only [Option.some.injEq,Prod.mk.injEq] at h
 obtain ⟨rfl,rfl⟩:=h
 obtain ⟨fl,hu,hfl⟩:=avY hT
 obtain ⟨inf,z,h1,h2,h3⟩:=hz
 have hr:=apa (w:=w) (Pb:=Pb) _ h3
 simp only [R] at hr
 obtain ⟨cells',hfill,hr'⟩:=amX hs parts.toList hf hC hr
 refine ⟨.agg cells',run_build w T _ cells' ?_,cells',rfl,hr'⟩
 unfold Program.built
 simp only [h1,hu,h2,ayo hfl hp]
 rw [Array.toList_map]; exact hfill
theorem amc {o:Oper} {K:AS→Prop} {T:Nat} {parts:Array (Nat×Operand)} {zs:List V} {C:Prop} {v:V} (ho:o.op=.build T parts) (hd:aaT N o.dst) (hz:aia P T (.agg zs))
 (h:alE P A T zs parts.toList=some (C,v)) (hC:C) (hK:K (A.put o.dst v)):opT P N o A K:=
 aew hd hK fun Pb Kb a w F hs=>by
  obtain ⟨y,hy,hr⟩:=awi hs hz h hC
  exact ⟨y,by simp only [execOp,ho,Sem.run_bind,hy,Result.andThen_ok,Sem.run_pure],hr⟩
theorem SIM.freeze (hs:SIM N Pb Kb A a w F) {i:Nat} (hi:(A.get i).abt=true) (hi':i < N):∃ Pb' Kb' F',SIM N Pb' Kb' (A.put (some i) (A.get i).er) a w F'∧(∀ g,Pb g→Pb' g)∧(∀ g,Kb g→Kb' g)∧(∀ g,Pb' g→Pb g∨¬ Kb g):=by
 refine ⟨fun g=>Pb g∨g∈F (.slot i),fun g=>Kb g∨g∈F (.slot i),abe F (.slot i) [],?_,fun g h=>.inl h,fun g h=>.inl h,fun g h=>h.imp id fun h=>(hs.free _ g h).1⟩
 have hnot:∀ r,r≠.slot i→∀ g,g∈F r→¬ (Pb g∨g∈F (.slot i))∧¬ (Kb g∨g∈F (.slot i)):=fun r hr g hg=>by
  refine ⟨fun c=>?_,fun c=>?_⟩ <;> rcases c with c | c
  exact (hs.free r g hg).1 (hs.sub g c)
  exact hs.aaW r _ hr g hg c
  exact (hs.free r g hg).1 c
  exact hs.aaW r _ hr g hg c
 refine ⟨hs.size,hs.defers,fun j=>?_,fun k g v hk=>?_,fun r r' hne g hg=>?_,fun r=>?_,fun r g hg=>?_,fun g h=>h.imp (hs.sub g) id,fun g h=>?_⟩
 rw [AS.aaq]
 by_cases e:j=i
 subst e
 simp only [if_true,abe]
 exact awd (hs.slot j) (fun g h=>.inl h) (fun g h=>.inr h)
 have hne:Root.slot j≠Root.slot i:=fun c=>e (by injection c)
 simp only [if_neg e,abe,if_neg hne]
 exact aiw _ (hs.slot j) (fun _ _=>rfl) (fun _ _=>rfl) (fun g h=>.inl h) (fun g hg=>(hnot _ hne g hg).1)
 obtain ⟨F',e,hA⟩:=hs.root k g v hk
 refine ⟨F',by simpa [abe] using e,?_⟩
 obtain ⟨cs,cells,hb,hr,hc⟩:=hA
 exact ⟨cs,cells,hb,aep _ hr (fun _ _=>rfl) (fun _ _=>rfl) (fun g h=>.inl h) (fun x hx=>(hnot (.key k) (by simp) x (by rw [e]; simp [hx])).1),hc⟩
 simp only [abe] at hg ⊢
 split at hg
 simp at hg
 split
 simp
 exact hs.aaW r r' hne g hg
 simp only [abe]; split
 exact List.nodup_nil
 exact hs.nodup r
 simp only [abe] at hg
 split at hg
 simp at hg
 rename_i hne
 exact ⟨(hnot r hne g hg).2,(hs.free r g hg).2⟩
 rcases h with h | h
 exact hs.bound g h
 exact (hs.free _ g h).2
end
end Go.Abs
namespace Go.Abs
open Go Go.RowKit
section
variable {w w':World} {Pb Kb:Nat→Prop} {N:Nat} {A A':AS} {a:Act} {F:Root→List Nat} {P:Program}
theorem SIM.far (hs:SIM N Pb Kb A a w F) {g:Nat} (hg:∀ r,g ∉ F r) (hK: ¬ Kb g) (hf:∀ k,k≠g→w'.heap[k]? =w.heap[k]?) (hsz:w'.heap.size=w.heap.size):SIM N Pb Kb A a w' F where
 size:=hs.size
 defers:=hs.defers
 slot:=fun i=>aiw _ (hs.slot i) (fun x hx=>hf x (by rintro rfl; exact hK (hs.sub _ hx))) (fun x hx=>hf x (by rintro rfl; exact hg _ hx)) (fun _ h=>h) (fun x hx c=>(hs.free _ x hx).1 (hs.sub x c))
 root:=fun k g0 v hk=>by
  obtain ⟨F',e,hA⟩:=hs.root k g0 v hk
  have hg0:g0≠g:=by rintro rfl; exact hg (.key k) (by rw [e]; simp)
  refine ⟨F',e,alj hA (fun x hx=>hf x (by rintro rfl; exact hK (hs.sub _ hx))) (fun x hx=>hf x (by rintro rfl; exact hg (.key k) (by rw [e]; simp [hx]))) (fun x hx c=>(hs.free (.key k) x (by rw [e]; simp [hx])).1 (hs.sub x c)) (fun cells hb=>?_)⟩
  obtain ⟨e',fr,hb,hfr⟩:=hb
  exact ⟨cells,⟨e',fr,(hf g0 hg0).trans hb,hfr⟩,fun _ _ _=>rfl⟩
 aaW:=hs.aaW
 nodup:=hs.nodup
 free:=fun r x hx=>by rw [hsz]; exact hs.free r x hx
 sub:=hs.sub
 bound:=fun x hx=>by rw [hsz]; exact hs.bound x hx
theorem ajk:∀ (xs ys:List V) {c1 c2:List Value} {F1 F2:List Nat},RL w Pb xs c1 F1→RL w Pb ys c2 F2→RL w Pb (xs++ys) (c1++c2) (F1++F2)
 | [],ys,c1,c2,F1,F2,h1,h2=>by obtain ⟨rfl,rfl⟩:=h1; exact h2
 | x :: xs,ys,c1,c2,F1,F2,h1,h2=>by
   obtain ⟨d1,d2,G1,G2,rfl,rfl,k1,k2⟩:=h1
   exact ⟨d1,d2++c2,G1,G2++F2,by simp,by simp,k1,ajk xs ys k2 h2⟩
theorem amg {sz:Nat} (xs:List V) (h:aas sz xs):V.ns xs=xs.length * sz:=by
 have:=acU xs xs.length h (Nat.le_refl _); simpa using this
theorem atx {full:Bool} {ys:List V} {x:Value} (h:R w Pb (.sl full ys) [x] []) {s:Nat} (hs:aas s ys):∃ (B:Option Addr) (c:Nat) (flat:List Value),x=.slice B ys.length c∧RL w Pb ys flat []∧
 (∀ w1:World,(∀ ad,w1.cell? ad=w.cell? ad)→(Builtin.firstCells s ys.length x).run P w1=.ok flat.toArray w1)∧flat.length=ys.length * s:=by
 obtain ⟨_,A,c,hx,hl,_,hz⟩:=h
 have hx:x=.slice A ys.length c:=by simpa using hx
 subst hx
 rcases hz with rfl | ⟨b,o,sz,flat,rfl,hb,hsz,hN,hr,hc⟩
 refine ⟨A,c,[],rfl,⟨rfl,rfl⟩,fun w1 _=>?_,by simp⟩
 cases A with
 | none=>rfl
 | some ad=>simp only [Builtin.firstCells,List.length_nil,Nat.zero_mul]; rfl
 have hl2:=afX _ hr
 by_cases he:ys=[]
 subst he
 obtain ⟨rfl,_⟩:=hr
 exact ⟨_,c,[],rfl,⟨rfl,rfl⟩,fun w1 _=>by simp only [Builtin.firstCells,List.length_nil,Nat.zero_mul]; rfl,by simp⟩
 rw [amg ys hs] at hl2
 exact ⟨_,c,flat,rfl,hr,fun w1 h1=>by simp only [Builtin.firstCells]; rw [← hl2]; exact run_loadCells_list w1 _ flat (fun j v hv=>by rw [acF,h1]; exact hc j v hv),hl2⟩
theorem aqi {sz g o c:Nat} {xs:List V} {x:Value} {Fx:List Nat} (h:R w Pb (.own sz xs g o c) [x] Fx):∃ (B:Option Addr) (flat:List Value) (F':List Nat),x=.slice B xs.length c∧RL w Pb xs flat F'∧
 (∀ w1:World,(∀ ad,w1.cell? ad=w.cell? ad)→(Builtin.firstCells sz xs.length x).run P w1=.ok flat.toArray w1)∧(0 < c→B=some ⟨g,o,none⟩∧aas sz xs∧0 < sz∧Fx=g :: F'∧flat.length=xs.length * sz)∧(c=0→xs=[]∧Fx=[]∧F'=[]∧flat=[])∧xs.length≤c:=by
 rcases h with ⟨rfl,rfl,rfl,A,hx⟩ | ⟨h1,h2,h3,hx,hN,_,flat,F',cells,rfl,hr,hb,hsz,hc⟩
 have hx:x=.slice A 0 0:=by simpa using hx
 subst hx
 refine ⟨A,[],[],rfl,⟨rfl,rfl⟩,fun w1 _=>?_,fun h=>absurd h (by omega),fun _=>⟨rfl,rfl,rfl,rfl⟩,Nat.le_refl _⟩
 cases A with
 | none=>rfl
 | some ad=>simp only [Builtin.firstCells,List.length_nil,Nat.zero_mul]; rfl
 have hx:x=.slice (some ⟨g,o,none⟩) xs.length c:=by simpa using hx
 subst hx
 have hl:=afX _ hr
 rw [amg xs hN] at hl
 refine ⟨_,flat,F',rfl,hr,fun w1 h1=>?_,fun _=>⟨rfl,hN,h2,rfl,hl⟩,fun h=>absurd h (by omega),h3⟩
 simp only [Builtin.firstCells]
 rw [← hl]
 exact run_loadCells_list w1 _ flat (fun j v hv=>by rw [acF,h1,acn hb]; exact hc j v hv)
theorem alw {e:Nat} {inf:TypeInfo} {z:Value} (h1:P.info? e=some inf) (h2:inf.zero=some z):(zeroValue e).run P w=.ok z w:=by simp [zeroValue,typeInfo,h1,h2]
theorem amY {T T2 e e2:Nat} {t:TI} (hT:tD P T=some (.sl e)) (hT2:tD P T2=some (.sl e2)) (ht:ti P e=some t) (hz:∃ inf z,P.info? e=some inf∧inf.zero=some z∧z.cells.size=t.sz) (hsz:0 < t.sz) (hby:0 < t.by_)
 (hs:SIM N Pb Kb A a w F) {xs ys:List V} {g o c:Nat} {s x:Value} {Fx:List Nat} {B2:Option Addr} {c2:Nat} {flat2:List Value} (hown:R w Pb (.own t.sz xs g o c) [s] Fx) (hdis:∀ r g,g∈Fx→g ∉ F r) (hfr:∀ g,g∈Fx→¬ Kb g∧g < w.heap.size) {Fy:List Nat} (hnd:(Fx++Fy).Nodup) (hyd:∀ r g,g∈Fy→g ∉ F r) (hyf:∀ g,g∈Fy→¬ Kb g∧g < w.heap.size)
 (hx2:x=.slice B2 ys.length c2) (hr2:RL w Pb ys flat2 Fy) (hfirst2:∀ w1:World,(∀ ad,w1.cell? ad=w.cell? ad)→(Builtin.firstCells t.sz ys.length x).run P w1=.ok flat2.toArray w1) (hl2:flat2.length=ys.length * t.sz) (hN:aas t.sz ys) (hbig:(xs.length+ys.length) * t.by_≤140737488355328):
 ∃ v w' F2 g' o' c',(Builtin.append_ #[T,T2] T #[s,x]).run P w=.ok v w'∧SIM N Pb Kb A a w' F∧R w' Pb (.own t.sz (xs++ys) g' o' c') [v] F2∧F2.Nodup∧(∀ r g,g∈F2→g ∉ F r)∧(∀ g,g∈F2→¬ Kb g∧g < w'.heap.size)∧Keep Kb w w':=by
 have hu:=ait hT
 have hu2:=ait hT2
 obtain ⟨inf,z,hinf,hzero,hzs⟩:=hz
 obtain ⟨inf',_,hinf',_,hsz',hby',_⟩:=afB ht
 rw [hinf] at hinf'
 obtain rfl:=Option.some.inj hinf'
 obtain ⟨B,flat,F',rfl,hr,hfirst,hpos,hzer,hle⟩:=aqi (P:=P) hown
 subst hx2
 have hlen2:(Builtin.lenOf (.slice B2 ys.length c2)).run P w=.ok ys.length w:=rfl
 have hPF:∀ r g,g∈F r→¬ Pb g:=fun r g hg c=>(hs.free r g hg).1 (hs.sub g c)
 have hneed:xs.length+ys.length≤140737488355328:=Nat.le_trans (Nat.le_mul_of_pos_right _ hby) hbig
 unfold Builtin.append_
 simp only [List.getElem?_toArray,List.getElem?_cons_zero,List.getElem?_cons_succ,Sem.run_bind,aau hu,Result.andThen_ok]
 simp only [acg ht,Result.andThen_ok]
 simp only [aau hu2,Result.andThen_ok,Sem.run_pure]
 rw [if_neg (show ¬ (false=true) by decide)]
 rw [Sem.run_bind,hlen2]
 simp only [Result.andThen_ok]
 by_cases hroom:xs.length+ys.length≤c
 ·
  rw [if_pos hroom]
  simp only [Sem.run_bind,Bool.not_false,if_true,hfirst2 w (fun _=>rfl),Result.andThen_ok]
  by_cases hc:c=0
  obtain ⟨rfl,rfl,rfl,rfl⟩:=hzer hc
  have hy0:ys=[]:=List.eq_nil_of_length_eq_zero (by omega)
  subst hy0
  have hf2:flat2=[]:=List.eq_nil_of_length_eq_zero (by simpa using hl2)
  subst hf2
  refine ⟨.slice B 0 c,w,[],g,o,0,?_,hs,.inl ⟨rfl,rfl,rfl,B,by rw [hc]⟩,List.nodup_nil,by simp,by simp,Keep.refl _ _⟩
  cases B with
  | none=>simp
  | some ad=>simp [storeCells]
  obtain ⟨rfl,hNx,_,rfl,hl1⟩:=hpos (by omega)
  rcases hown with ⟨h0,_⟩ | ⟨_,_,_,_,_,hPg,flat',F'',cells,hFe,hr',hb,hszc,hcell⟩
  exact absurd h0 hc
  simp only [List.cons.injEq,true_and] at hFe
  subst hFe
  have hle':o+xs.length * t.sz+flat2.length≤cells.size:=by
   rw [hl2]
   have:(xs.length+ys.length) * t.sz≤c * t.sz:=Nat.mul_le_mul_right _ hroom
   rw [Nat.add_mul] at this; omega
  obtain ⟨w',hst,hst'⟩:=ahh (P:=P) (g:=g) (o:=o+xs.length * t.sz) flat2 0 w cells hb (by omega) (asG _ hr2)
  have hg:=hfr g (by simp)
  have hs':SIM N Pb Kb A a w' F:=hs.far (fun r=>hdis r g (by simp)) hg.1 hst'.far hst'.size
  have hkP:∀ k,Pb k→w'.heap[k]? =w.heap[k]? :=fun k hk=>hst'.far k (by rintro rfl; exact hPg hk)
  have hgA:g ∉ F'++Fy:=(List.nodup_cons.1 hnd).1
  have hgF:g ∉ F':=fun c=>hgA (by simp [c])
  have hgY:g ∉ Fy:=fun c=>hgA (by simp [c])
  have hkF:∀ k,k∈F'→w'.heap[k]? =w.heap[k]? :=fun k hk=>hst'.far k (by rintro rfl; exact hgF hk)
  obtain ⟨cells',hb',hs2,hfar,hnear⟩:=hst'.near cells hb
  have hr1':=acG (w':=w') (Pb':=Pb) xs hr hkP hkF (fun _ h=>h) (fun k hk c=>(hfr k (by simp [hk])).1 (hs.sub k c))
  have hr2':=acG (w':=w') (Pb':=Pb) ys hr2 hkP (fun k hk=>hst'.far k (by rintro rfl; exact hgY hk)) (fun _ h=>h) (fun k hk c=>(hyf k hk).1 (hs.sub k c))
  have hflat:flat'=flat∨True:=.inr trivial
  have hgy:∀ k,k∈g :: (F'++Fy)→(¬ Kb k∧k < w.heap.size)∧∀ r,k ∉ F r:=fun k hk=>by
   rcases List.mem_append.1 (show k∈(g :: F')++Fy from hk) with h | h
   exact ⟨hfr k h,fun r=>hdis r k h⟩
   exact ⟨hyf k h,fun r=>hyd r k h⟩
  refine ⟨.slice (some ⟨g,o,none⟩) (xs.length+ys.length) c,w',g :: (F'++Fy),g,o,c,?_,hs',.inr ⟨by omega,hsz,by simp; omega,by simp,?_,hPg,flat++flat2,F'++Fy,cells',rfl,ajk xs ys hr1' hr2',hb',by omega,?_⟩,hnd,fun r k hk=>(hgy k hk).2 r,fun k hk=>by rw [hst'.size]; exact (hgy k hk).1,⟨hst'.os,hst'.tape,hst'.output,by rw [hst'.size]; omega,fun k hk=>hst'.far k (by rintro rfl; exact hg.1 hk)⟩⟩
  have e1:(Array.toList flat2.toArray)=flat2:=by simp
  simp only [acF,Sem.run_bind]
  rw [hst]
  simp only [Result.andThen_ok,Sem.run_pure]
  intro v hv
  rcases List.mem_append.1 hv with h | h
  exact hNx v h
  exact hN v h
  intro j u hu
  by_cases hj:j < flat.length
  rw [List.getElem?_append_left hj] at hu
  rw [hfar _ (by omega)]
  have h1:(loadCells ⟨g,o,none⟩ flat'.length).run P w=.ok flat'.toArray w:=run_loadCells_list w _ flat' (fun j v hv=>by rw [acF,acn hb]; exact hcell j v hv)
  have hl1':flat'.length=xs.length * t.sz:=by rw [afX _ hr',amg xs hNx]
  have h2:=hfirst w (fun _=>rfl)
  simp only [Builtin.firstCells] at h2
  rw [← hl1',h1] at h2
  simp only [Result.ok.injEq,and_true] at h2
  have:flat'=flat:=by have:=congrArg Array.toList h2; simpa using this
  subst this
  exact hcell j u hu
  rw [List.getElem?_append_right (by omega)] at hu
  have:=hnear _ u hu
  rw [← this]; congr 1; omega
 ·
  rw [if_neg hroom]
  have hlt:c < xs.length+ys.length:=by omega
  have hmx:IntKind.i64.max=9223372036854775807:=by decide
  have hmax: ¬ (((xs.length+ys.length:Nat):Int) > IntKind.i64.max∧((false=true)∨inf.bytes=0)):=by
   rw [hmx]; rintro ⟨h1,_⟩; omega
  have hcap: ¬ Builtin.nextslicecap (xs.length+ys.length) c * inf.bytes > 281474976710656:=by
   have:=growslice_fits (bytes:=t.by_) hlt hbig
   rw [hby']; omega
  have hti:∀ w,(typeInfo e).run P w=.ok inf w:=fun w=>by simp [typeInfo,hinf]
  obtain ⟨nc,hnc,hch⟩:∃ nc,xs.length+ys.length≤nc∧(choose (.appendCap (xs.length+ys.length) c e)).run P w=.ok nc { w with drawn:=w.drawn+1 }:=by
   exact ⟨(Question.appendCap (xs.length+ys.length) c e).cut (w.tape w.drawn (Question.appendCap (xs.length+ys.length) c e)),by simp only [Question.cut]; exact Nat.le_add_right _ _,by rw [run_choose,if_neg (by simp [Question.forced])]⟩
  obtain ⟨w1,hw1⟩:∃ w1:World,w1={ w with drawn:=w.drawn+1 }:=⟨_,rfl⟩
  rw [← hw1] at hch
  have hheap:w1.heap=w.heap:=by rw [hw1]
  have hc1:∀ ad,w1.cell? ad=w.cell? ad:=fun ad=>by rw [hw1]; rfl
  have hf1:=hfirst w1 hc1
  have hf2:=hfirst2 w1 hc1
  have hzv:=fun w=>alw (w:=w) hinf hzero
  obtain ⟨cells,hcells⟩:∃ cells:Array Value,cells=flat.toArray++flat2.toArray++Builtin.zeroCells z.cells (nc - (xs.length+ys.length)):=⟨_,rfl⟩
  have hlf:flat.length=xs.length * t.sz:=by
   by_cases hc:c=0
   obtain ⟨rfl,_,_,rfl⟩:=hzer hc; simp
   exact (hpos (by omega)).2.2.2.2
  have hcsz:cells.size=nc * t.sz:=by
   rw [hcells]
   simp only [Array.size_append,List.size_toArray,Builtin.zeroCells,Array.size_map,Array.size_range,hzs,hlf,hl2]
   rw [← Nat.add_mul,← Nat.add_mul]; congr 1; omega
  have hdr:SIM N Pb Kb A a w1 F:=hs.grow (fun k _=>by rw [hheap]) (by rw [hheap]; exact Nat.le_refl _) (fun _ h=>h) (fun g h=>.inl h) hs.sub
  have hFx':∀ k,k∈F'→k∈Fx:=fun k hk=>by
   by_cases hc:c=0
   rw [(hzer hc).2.2.1] at hk; simp at hk
   rw [(hpos (by omega)).2.2.2.1]; simp [hk]
  have hFn:(F'++Fy).Nodup:=by
   by_cases hc:c=0
   rw [(hzer hc).2.2.1]; exact (List.nodup_append.1 hnd).2.1
   have:=hnd; rw [(hpos (by omega)).2.2.2.1] at this; exact (List.nodup_cons.1 this).2
  have hNx:aas t.sz xs:=by
   by_cases hc:c=0
   rw [(hzer hc).1]; intro v hv; simp at hv
   exact (hpos (by omega)).2.1
  have hold:∀ k,k < w.heap.size→(w1.alloc (.cells cells e)).heap[k]? =w.heap[k]? :=fun k hk=>by
   rw [alloc_old w1 _ k (by rw [hheap]; exact hk),hheap]
  have hsz1:(w1.alloc (.cells cells e)).heap.size=w.heap.size+1:=by rw [acr,hheap]
  have hnew:w.heap.size=w1.heap.size:=by rw [hheap]
  have hr1':=acG (w':=w1.alloc (.cells cells e)) (Pb':=Pb) xs hr (fun k hk=>hold k (hs.bound k (hs.sub k hk))) (fun k hk=>hold k (hfr k (hFx' k hk)).2) (fun _ h=>h) (fun k hk cc=>(hfr k (hFx' k hk)).1 (hs.sub k cc))
  have hr2':=acG (w':=w1.alloc (.cells cells e)) (Pb':=Pb) ys hr2 (fun k hk=>hold k (hs.bound k (hs.sub k hk))) (fun k hk=>hold k (hyf k hk).2) (fun _ h=>h) (fun k hk cc=>(hyf k hk).1 (hs.sub k cc))
  have hFy':∀ k,k∈F'++Fy→(¬ Kb k∧k < w.heap.size)∧∀ r,k ∉ F r:=fun k hk=>by
   rcases List.mem_append.1 hk with h | h
   exact ⟨hfr k (hFx' k h),fun r=>hdis r k (hFx' k h)⟩
   exact ⟨hyf k h,fun r=>hyd r k h⟩
  have hKn: ¬ Kb w.heap.size:=fun cc=>by have:=hs.bound _ cc; omega
  refine ⟨.slice (some ⟨w.heap.size,0,none⟩) (xs.length+ys.length) nc,w1.alloc (.cells cells e),w.heap.size :: (F'++Fy),w.heap.size,0,nc,?_,hdr.akx _,.inr ⟨by omega,hsz,by simpa using hnc,by simp,?_,fun cc=>hKn (hs.sub _ cc),flat++flat2,F'++Fy,cells,rfl,
   ajk xs ys hr1' hr2',⟨e,(0,0),by rw [hnew]; exact aev w1 _,fun i _ h=>by omega⟩,by rw [hcsz]; omega,fun j u hu=>?_⟩,?_,?_,?_,⟨?_,?_,?_,by rw [hsz1]; omega,fun k hk=>hold k (hs.bound k hk)⟩⟩
  simp only [Sem.run_ite,Sem.run_bind,hti,Result.andThen_ok,if_neg hmax,if_neg hcap,Sem.run_pure,hch,hf1,hf2,Bool.not_false,if_true,run_askRoom,hzv,ahb]
  rw [hcells,hnew]
  intro v hv
  rcases List.mem_append.1 hv with h | h
  exact hNx v h
  exact hN v h
  rw [hcells,Nat.zero_add]
  have hj:=(List.getElem?_eq_some_iff.1 hu).1
  rw [Array.getElem?_append_left (by simpa using hj)]
  simpa using hu
  refine List.nodup_cons.2 ⟨fun cc=>?_,hFn⟩
  have:=(hFy' _ cc).1.2; omega
  intro r k hk cc
  rcases List.mem_cons.1 hk with rfl | h
  have:=(hs.free r _ cc).2; omega
  exact (hFy' k h).2 r cc
  intro k hk
  rw [hsz1]
  rcases List.mem_cons.1 hk with rfl | h
  exact ⟨hKn,by omega⟩
  have:=(hFy' k h).1; exact ⟨this.1,by omega⟩
  rw [hw1]; rfl
  rw [hw1]; rfl
  rw [hw1]; rfl
theorem atP {T T2 e e2:Nat} {t:TI} (hT:tD P T=some (.sl e)) (hT2:tD P T2=some (.sl e2)) (ht:ti P e=some t) (hz:∃ inf z,P.info? e=some inf∧inf.zero=some z∧z.cells.size=t.sz) (hsz:0 < t.sz) (hby:0 < t.by_)
 (hs:SIM N Pb Kb A a w F) {xs ys:List V} {s x:Value} {B2:Option Addr} {c2:Nat} {flat2:List Value} (hown:R w Pb (.sl true xs) [s] []) (hNx:aas t.sz xs) (hy0:0 < ys.length)
 (hx2:x=.slice B2 ys.length c2) (hr2:RL w Pb ys flat2 []) (hfirst2:∀ w1:World,(∀ ad,w1.cell? ad=w.cell? ad)→(Builtin.firstCells t.sz ys.length x).run P w1=.ok flat2.toArray w1) (hl2:flat2.length=ys.length * t.sz) (hN:aas t.sz ys) (hbig:(xs.length+ys.length) * t.by_≤140737488355328):
 ∃ v w' F2 g' o' c',(Builtin.append_ #[T,T2] T #[s,x]).run P w=.ok v w'∧SIM N Pb Kb A a w' F∧R w' Pb (.own t.sz (xs++ys) g' o' c') [v] F2∧F2.Nodup∧(∀ r g,g∈F2→g ∉ F r)∧(∀ g,g∈F2→¬ Kb g∧g < w'.heap.size)∧Keep Kb w w':=by
 have hu:=ait hT
 have hu2:=ait hT2
 obtain ⟨inf,z,hinf,hzero,hzs⟩:=hz
 obtain ⟨inf',_,hinf',_,hsz',hby',_⟩:=afB ht
 rw [hinf] at hinf'
 obtain rfl:=Option.some.inj hinf'
 obtain ⟨B,c,flat,rfl,hr,hfirst,hlf⟩:=atx (P:=P) hown hNx
 have hcx:c=xs.length:=by
  obtain ⟨_,A0,c0,h1,_,h2,_⟩:=hown
  have h1:=(List.cons.inj h1).1
  simp only [Value.slice.injEq] at h1
  rw [h1.2.2]; exact h2 rfl
 subst hx2
 have hlen2:(Builtin.lenOf (.slice B2 ys.length c2)).run P w=.ok ys.length w:=rfl
 have hneed:xs.length+ys.length≤140737488355328:=Nat.le_trans (Nat.le_mul_of_pos_right _ hby) hbig
 unfold Builtin.append_
 simp only [List.getElem?_toArray,List.getElem?_cons_zero,List.getElem?_cons_succ,Sem.run_bind,aau hu,Result.andThen_ok]
 simp only [acg ht,Result.andThen_ok]
 simp only [aau hu2,Result.andThen_ok,Sem.run_pure]
 rw [if_neg (show ¬ (false=true) by decide)]
 rw [Sem.run_bind,hlen2]
 simp only [Result.andThen_ok]
 have hroom: ¬ (xs.length+ys.length≤c):=by omega
 rw [if_neg hroom]
 have hlt:c < xs.length+ys.length:=by omega
 have hmx:IntKind.i64.max=9223372036854775807:=by decide
 have hmax: ¬ (((xs.length+ys.length:Nat):Int) > IntKind.i64.max∧((false=true)∨inf.bytes=0)):=by
  rw [hmx]; rintro ⟨h1,_⟩; omega
 have hcap: ¬ Builtin.nextslicecap (xs.length+ys.length) c * inf.bytes > 281474976710656:=by
  have:=growslice_fits (bytes:=t.by_) hlt hbig
  rw [hby']; omega
 have hti:∀ w,(typeInfo e).run P w=.ok inf w:=fun w=>by simp [typeInfo,hinf]
 obtain ⟨nc,hnc,hch⟩:∃ nc,xs.length+ys.length≤nc∧(choose (.appendCap (xs.length+ys.length) c e)).run P w=.ok nc { w with drawn:=w.drawn+1 }:=by
  exact ⟨(Question.appendCap (xs.length+ys.length) c e).cut (w.tape w.drawn (Question.appendCap (xs.length+ys.length) c e)),by simp only [Question.cut]; exact Nat.le_add_right _ _,by rw [run_choose,if_neg (by simp [Question.forced])]⟩
 obtain ⟨w1,hw1⟩:∃ w1:World,w1={ w with drawn:=w.drawn+1 }:=⟨_,rfl⟩
 rw [← hw1] at hch
 have hheap:w1.heap=w.heap:=by rw [hw1]
 have hc1:∀ ad,w1.cell? ad=w.cell? ad:=fun ad=>by rw [hw1]; rfl
 have hf1:=hfirst w1 hc1
 have hf2:=hfirst2 w1 hc1
 have hzv:=fun w=>alw (w:=w) hinf hzero
 obtain ⟨cells,hcells⟩:∃ cells:Array Value,cells=flat.toArray++flat2.toArray++Builtin.zeroCells z.cells (nc - (xs.length+ys.length)):=⟨_,rfl⟩
 have hcsz:cells.size=nc * t.sz:=by
  rw [hcells]
  simp only [Array.size_append,List.size_toArray,Builtin.zeroCells,Array.size_map,Array.size_range,hzs,hlf,hl2]
  rw [← Nat.add_mul,← Nat.add_mul]; congr 1; omega
 have hdr:SIM N Pb Kb A a w1 F:=hs.grow (fun k _=>by rw [hheap]) (by rw [hheap]; exact Nat.le_refl _) (fun _ h=>h) (fun g h=>.inl h) hs.sub
 have hold:∀ k,k < w.heap.size→(w1.alloc (.cells cells e)).heap[k]? =w.heap[k]? :=fun k hk=>by
  rw [alloc_old w1 _ k (by rw [hheap]; exact hk),hheap]
 have hsz1:(w1.alloc (.cells cells e)).heap.size=w.heap.size+1:=by rw [acr,hheap]
 have hnew:w.heap.size=w1.heap.size:=by rw [hheap]
 have hr1':=acG (w':=w1.alloc (.cells cells e)) (Pb':=Pb) xs hr (fun k hk=>hold k (hs.bound k (hs.sub k hk))) (by simp) (fun _ h=>h) (by simp)
 have hr2':=acG (w':=w1.alloc (.cells cells e)) (Pb':=Pb) ys hr2 (fun k hk=>hold k (hs.bound k (hs.sub k hk))) (by simp) (fun _ h=>h) (by simp)
 have hKn: ¬ Kb w.heap.size:=fun cc=>by have:=hs.bound _ cc; omega
 refine ⟨.slice (some ⟨w.heap.size,0,none⟩) (xs.length+ys.length) nc,w1.alloc (.cells cells e),[w.heap.size],w.heap.size,0,nc,?_,hdr.akx _,.inr ⟨by omega,hsz,by simpa using hnc,by simp,?_,fun cc=>hKn (hs.sub _ cc),flat++flat2,[],cells,rfl,
  ajk xs ys hr1' hr2',⟨e,(0,0),by rw [hnew]; exact aev w1 _,fun i _ h=>by omega⟩,by rw [hcsz]; omega,fun j u hu=>?_⟩,?_,?_,?_,⟨?_,?_,?_,by rw [hsz1]; omega,fun k hk=>hold k (hs.bound k hk)⟩⟩
 simp only [Sem.run_ite,Sem.run_bind,hti,Result.andThen_ok,if_neg hmax,if_neg hcap,Sem.run_pure,hch,hf1,hf2,Bool.not_false,if_true,run_askRoom,hzv,ahb]
 rw [hcells,hnew]
 intro v hv
 rcases List.mem_append.1 hv with h | h
 exact hNx v h
 exact hN v h
 rw [hcells,Nat.zero_add]
 have hj:=(List.getElem?_eq_some_iff.1 hu).1
 rw [Array.getElem?_append_left (by simpa using hj)]
 simpa using hu
 simp
 intro r k hk cc
 obtain rfl:=List.mem_singleton.1 hk
 have:=(hs.free r _ cc).2; omega
 intro k hk
 rw [hsz1]
 obtain rfl:=List.mem_singleton.1 hk
 exact ⟨hKn,by omega⟩
 rw [hw1]; rfl
 rw [hw1]; rfl
 rw [hw1]; rfl
def ahI (lo n:Nat) (sz g o:Nat):V→Option (Prop×List V)
 | .own sz2 xs g2 o2 _=>some ((sz=sz2∧g=g2∧o=o2)∧lo+n≤xs.length∧V.aat xs=false∧aas sz2 xs,(xs.drop lo).take n)
 | _=>none
def rdL (A:AS) (x:Operand):Option (Prop×List V):=
 match A.ev x with
 | .sl _ xs=>some (True,xs)
 | .own _ xs _ _ _=>some (True,xs)
 | .hd r p sz g o lo n _=>match r,p with
   | .slot i,[]=>ahI lo n sz g o (A.get i)
   | .key k,p=>match A.at (.key k) p with
     | some (_,_,u)=>ahI lo n sz g o u
     | none=>none
   | _,_=>none
 | _=>none
theorem anY:∀ (xs:List V) (k:Nat),V.aat xs=false→V.aat (xs.drop k)=false
 | xs,0,h=>h
 | [],k+1,h=>by simpa using h
 | v :: vs,k+1,h=>by
   simp only [V.aat,Bool.or_eq_false_iff] at h
   exact anY vs k h.2
theorem azb {Fo:List Nat} {sz2 g2 o2 c2 lo n c:Nat} {xs:List V} {cso:List Value} (hr:R w Pb (.own sz2 xs g2 o2 c2) cso Fo) (hle:n≤c) {B:Option Addr} (hB:0 < c→B=some ⟨g2,o2+lo * sz2,none⟩) (hn:lo+n≤xs.length) (ho:V.aat xs=false) {s:Nat} (hs:aas s ((xs.drop lo).take n)):
 ∃ (flat:List Value),RL w Pb ((xs.drop lo).take n) flat []∧(∀ w1:World,(∀ ad,w1.cell? ad=w.cell? ad)→(Builtin.firstCells s n (.slice B n c)).run P w1=.ok flat.toArray w1)∧flat.length=n * s:=by
 by_cases hn0:n=0
 subst hn0
 refine ⟨[],by simp [RL],fun w1 _=>?_,by simp⟩
 cases B with
 | none=>rfl
 | some ad=>simp only [Builtin.firstCells,Nat.zero_mul]; rfl
 rcases hr with ⟨_,rfl,_⟩ | ⟨h1,h2,h3,hx,hN,_,flat,F',cells,_,hr,hb,hsz,hc⟩
 simp at hn; omega
 have hF:=aeY xs ho hr
 subst hF
 have hs2:s=sz2:=by
  have hne:(xs.drop lo).take n≠[]:=by
   intro e
   have:=congrArg List.length e
   simp at this; omega
  obtain ⟨v,hv⟩:=List.exists_mem_of_ne_nil _ hne
  rw [← hs v hv,← hN v (List.mem_of_mem_drop (List.mem_of_mem_take hv))]
 subst hs2
 obtain ⟨c1,hr1,hc1⟩:=ajT xs lo hr
 obtain ⟨c3,hr3,hc3⟩:=ajV _ n hr1
 have hl:c3.length=n * s:=by
  rw [afX _ hr3,amg _ (fun x hx=>hN x (List.mem_of_mem_drop (List.mem_of_mem_take hx)))]
  have:((xs.drop lo).take n).length=n:=by simp; omega
  rw [this]
 refine ⟨c3,hr3,fun w1 hw1=>?_,hl⟩
 have hB':=hB (by omega)
 subst hB'
 simp only [Builtin.firstCells]
 rw [← hl]
 refine run_loadCells_list w1 _ c3 (fun j v hv=>?_)
 rw [acF,hw1,acn hb]
 have:=hc1 j v (hc3 j v hv)
 rw [acU xs lo hN (by omega)] at this
 have:=hc _ _ this
 simpa [Nat.add_assoc] using this
theorem akZ (hs:SIM N Pb Kb A a w F) {x:Operand} {C:Prop} {ys:List V} (h:rdL A x=some (C,ys)) (hC:C) {s:Nat} (hall:aas s ys) (ho:V.aat ys=false):
 ∃ (B:Option Addr) (c:Nat) (flat:List Value),a.eval x=.slice B ys.length c∧RL w Pb ys flat []∧
   (∀ w1:World,(∀ ad,w1.cell? ad=w.cell? ad)→(Builtin.firstCells s ys.length (a.eval x)).run P w1=.ok flat.toArray w1)∧flat.length=ys.length * s:=by
 obtain ⟨Fx,hr⟩:=adp hs x
 unfold rdL at h
 split at h
 rename_i full xs e
 simp only [Option.some.injEq,Prod.mk.injEq] at h
 obtain ⟨_,rfl⟩:=h
 rw [e] at hr
 have hr:R w Pb (.sl full xs) [a.eval x] Fx:=hr
 have hF:Fx=[]:=hr.1
 subst hF
 obtain ⟨B,c,flat,h1,h2,h3,h4⟩:=atx (P:=P) hr hall
 exact ⟨B,c,flat,h1,h2,h3,h4⟩
 rename_i sz xs g o c e
 simp only [Option.some.injEq,Prod.mk.injEq] at h
 obtain ⟨_,rfl⟩:=h
 rw [e] at hr
 have hr:R w Pb (.own sz xs g o c) [a.eval x] Fx:=hr
 have hr0:=hr
 obtain ⟨B,flat,F',h1,h2,h3,h4,h5,h6⟩:=aqi (P:=P) hr
 have hF:=aeY xs ho h2
 subst hF
 by_cases hc:0 < c
 obtain ⟨_,hN',_,_,hl⟩:=h4 hc
 by_cases he:xs=[]
 subst he
 exact ⟨B,c,flat,h1,h2,fun w1 hw1=>by
  have:=h3 w1 hw1
  simpa [Builtin.firstCells,h1] using this,by simpa using hl⟩
 obtain ⟨v,vs,rfl⟩:=List.exists_cons_of_ne_nil he
 have hs2:s=sz:=by rw [← hall v (by simp),← hN' v (by simp)]
 subst hs2
 exact ⟨B,c,flat,h1,h2,h3,hl⟩
 obtain ⟨rfl,_,_,rfl⟩:=h5 (by omega)
 exact ⟨B,c,[],h1,h2,fun w1 hw1=>by
  have:=h3 w1 hw1
  simpa [Builtin.firstCells,h1] using this,by simp⟩
 rename_i r p sz g o lo n c e
 rw [e] at hr
 obtain ⟨_,hle,B,hv,hB⟩:=hr
 have hv:a.eval x=.slice B n c:=(List.cons.inj hv).1
 have key:∀ u Fo cso,R w Pb u cso Fo→ahI lo n sz g o u=some (C,ys)→∃ (B:Option Addr) (c:Nat) (flat:List Value),a.eval x=.slice B ys.length c∧RL w Pb ys flat []∧
  (∀ w1:World,(∀ ad,w1.cell? ad=w.cell? ad)→(Builtin.firstCells s ys.length (a.eval x)).run P w1=.ok flat.toArray w1)∧flat.length=ys.length * s:=by
  intro u Fo cso hru hu
  unfold ahI at hu
  split at hu
  rename_i sz2 xs g2 o2 c2
  simp only [Option.some.injEq,Prod.mk.injEq] at hu
  obtain ⟨rfl,rfl⟩:=hu
  obtain ⟨⟨rfl,rfl,rfl⟩,hln,hol,_⟩:=hC
  obtain ⟨flat,k1,k2,k3⟩:=azb (P:=P) hru hle hB hln hol hall
  have hlen:((xs.drop lo).take n).length=n:=by simp; omega
  rw [hlen]
  exact ⟨B,c,flat,hv,k1,by rw [hv]; exact k2,k3⟩
  simp at hu
 split at h
 rename_i i
 have hsl:=hs.slot i
 unfold ahI at h
 split at h
 rename_i sz2 xs g2 o2 c2 hg
 rw [hg] at hsl
 exact key (.own sz2 xs g2 o2 c2) _ _ hsl (by unfold ahI; exact h)
 simp at h
 rename_i k p'
 split at h
 rename_i a0 b0 u hat
 obtain ⟨F',cs,cells,hb,hru,hcell⟩:=agV hs hat
 exact key u F' cs hru h
 simp at h
 simp at h
 simp at h
theorem akA {t:Nat} {sz:Nat} {xs:List V} {g o c:Nat} (h:A.get t=.own sz xs g o c):A.drop (.tmp t)=A.put (some t) .dead:=by simp [AS.drop,h,V.abt]
end
end Go.Abs
namespace Go.Abs
open Go Go.RowKit
def AEq (A B:AS):Prop:=(∀ i,A.get i=B.get i)∧∀ k,lk k A.h=lk k B.h
theorem AEq.le {A B:AS} (h:AEq A B):A.le B:=⟨fun i=>.inr (h.1 i),fun k=>.inr (h.2 k)⟩
theorem AEq.symm {A B:AS} (h:AEq A B):AEq B A:=⟨fun i=>(h.1 i).symm,fun k=>(h.2 k).symm⟩
theorem AEq.trans {A B C:AS} (h:AEq A B) (k:AEq B C):AEq A C:=⟨fun i=>(h.1 i).trans (k.1 i),fun i=>(h.2 i).trans (k.2 i)⟩
def amr (P:Program) (N:Nat) (ops:Array Oper) (o:Oper) (A:AS) (v:V):Prop:=
 ∀ A':AS,(∀ t,(t∈o.looksAt ops∨∀ o'∈ops.toList,o'.dst≠some t)→A'.get t=A.get t)→(∀ k,lk k A'.h=lk k A.h)→
   gd ops o A' (opT P N o A' (fun B=>AEq B (A'.put o.dst v))) (aaT N o.dst∧∀ w Pb,RV w Pb v undef [])
def DL (P:Program) (N:Nat) (ops:Array Oper):List Oper→AS→List V→Prop
 | [],_,vs=>vs=[]
 | o :: rest,A,vs=> ∃ v vs',vs=v :: vs'∧amr P N ops o A v∧DL P N ops rest (A.put o.dst v) vs'
def akR:List Oper→List V→AS→AS
 | o :: l,v :: vs,A=>akR l vs (A.put o.dst v)
 | _,_,A=>A
def DW (P:Program) (N:Nat) (ops:Array Oper) (l:List Oper) (A:AS) (K:AS→Prop):Prop:= ∃ vs,DL P N ops l A vs∧K (akR l vs A)
def edg (o:Oper):List Nat:=(o.after.toList.filter (Region.binds .any)).map (·.on)
def asv (ops:List Oper) (i:Nat) (o:Oper) (lk:List Nat):Bool:=
 (edg o).all (· < i)&&
 (List.range ops.length).all fun k=>match ops[k]? with
  | some o'=>match o'.dst with
    | some t=>(k==i)||!(lk.contains t||o.dst==some t)||(if k < i then (edg o).contains k else (edg o').contains i)
    | none=>true
  | none=>true
def agv (ops:Array Oper) (m:Nat):Bool:=
 (ops.toList.zipIdx.all fun (o,i)=>asv ops.toList i o (o.looksAt ops))&&
 (ops.toList.zipIdx.all fun (o,i)=>decide (i < m)||(List.range i).all fun k=>(edg o).contains k)
section
variable {P:Program} {N:Nat} {ops:Array Oper}
theorem anK {m i:Nat} {o:Oper} (h:agv ops m=true) (ho:ops[i]? =some o) {k:Nat} (hk:k∈edg o):k < i:=by
 unfold agv at h
 simp only [Bool.and_eq_true,List.all_eq_true] at h
 have hm:(o,i)∈ops.toList.zipIdx:=by rw [List.mk_mem_zipIdx_iff_getElem?]; simpa using ho
 have:=h.1 (o,i) hm
 unfold asv at this
 simp only [Bool.and_eq_true,List.all_eq_true] at this
 simpa using this.1 k hk
theorem ayD {m i k:Nat} {o o':Oper} {t:Nat} (h:agv ops m=true) (ho:ops[i]? =some o) (ho':ops[k]? =some o') (hd:o'.dst=some t) (hne:k≠i) (ht:t∈o.looksAt ops∨o.dst=some t):
 (k < i→k∈edg o)∧(i < k→i∈edg o'):=by
 unfold agv at h
 simp only [Bool.and_eq_true,List.all_eq_true] at h
 have hm:(o,i)∈ops.toList.zipIdx:=by rw [List.mk_mem_zipIdx_iff_getElem?]; simpa using ho
 have:=h.1 (o,i) hm
 unfold asv at this
 simp only [Bool.and_eq_true,List.all_eq_true] at this
 have hkl:k < ops.toList.length:=by have:=(Array.getElem?_eq_some_iff.1 ho').1; simpa using this
 have h2:=this.2 k (by simpa using hkl)
 have ho2:ops.toList[k]? =some o':=by simpa using ho'
 rw [ho2] at h2
 simp only [hd] at h2
 have hc:((o.looksAt ops).contains t||o.dst==some t)=true:=by
  rcases ht with h | h
  simp [h]
  simp [h]
 simp only [hc,Bool.not_true,Bool.or_false,Bool.or_eq_true,beq_iff_eq] at h2
 rcases h2 with h2 | h2
 exact absurd h2 hne
 constructor
 intro hlt; rw [if_pos hlt] at h2; simpa using h2
 intro hlt; rw [if_neg (by omega)] at h2; simpa using h2
theorem anu {m i:Nat} {o:Oper} (h:agv ops m=true) (ho:ops[i]? =some o) (hi:m≤i) {k:Nat} (hk:k < i):k∈edg o:=by
 unfold agv at h
 simp only [Bool.and_eq_true,List.all_eq_true] at h
 have hm:(o,i)∈ops.toList.zipIdx:=by rw [List.mk_mem_zipIdx_iff_getElem?]; simpa using ho
 have:=h.2 (o,i) hm
 simp only [Bool.or_eq_true,decide_eq_true_eq,List.all_eq_true,List.mem_range] at this
 rcases this with h | h
 omega
 simpa using h k hk
def wr (ops:Array Oper) (vs:List V) (k:Nat):List (Nat×V):=match (ops[k]?).bind (·.dst),vs[k]? with
 | some d,some v=>[(d,v)]
 | _,_=>[]
def TLs (ops:Array Oper) (vs:List V) (L:Nat→Bool) (n:Nat):List (Nat×V):=((List.range n).reverse.filter L).flatMap (wr ops vs)
theorem ajb {α:Type} (t:Nat):∀ (l1 l2:List (Nat×α)),lk t (l1++l2)=match lk t l1 with | some v=>some v | none=>lk t l2
 | [],l2=>rfl
 | (k,v) :: l1,l2=>by
   simp only [List.cons_append,lk]
   by_cases h:t=k
   rw [if_pos h,if_pos h]
   rw [if_neg h,if_neg h]; exact ajb t l1 l2
def wt (ops:Array Oper) (t k:Nat):Bool:=(ops[k]?).bind (·.dst)==some t
theorem alH (t:Nat) (vs:List V):∀ (l:List Nat),lk t (l.flatMap (wr ops vs))=lk t ((l.filter (wt ops t)).flatMap (wr ops vs))
 | []=>rfl
 | k :: l=>by
   rw [List.flatMap_cons,ajb,alH t vs l]
   by_cases h:wt ops t k=true
   rw [List.filter_cons_of_pos h,List.flatMap_cons,ajb]
   rw [List.filter_cons_of_neg h]
   have:lk t (wr ops vs k)=none:=by
    unfold wr
    split
    rename_i d v hd hv
    simp only [lk]
    rw [if_neg]
    rintro rfl
    exact h (by simp [wt,hd])
    rfl
   rw [this]
theorem agE (t:Nat) (vs:List V) (n:Nat) {L L':Nat→Bool} (h:∀ k,k < n→(ops[k]?).bind (·.dst)=some t→L k=L' k):lk t (TLs ops vs L n)=lk t (TLs ops vs L' n):=by
 unfold TLs
 rw [alH,alH (l:=List.filter L' _),List.filter_filter,List.filter_filter]
 congr 2
 apply List.filter_congr
 intro k hk
 simp only [List.mem_reverse,List.mem_range] at hk
 by_cases hw:wt ops t k=true
 have:(ops[k]?).bind (·.dst)=some t:=by simpa [wt] using hw
 rw [h k hk this]
 simp only [hw,Bool.false_and]
theorem atc (vs:List V) (n i:Nat) (hi:i < n):TLs ops vs (fun k=>decide (k < i+1)) n=wr ops vs i++TLs ops vs (fun k=>decide (k < i)) n:=by
 unfold TLs
 have h:∀ n j,j≤n→(List.range n).reverse.filter (fun k=>decide (k < j))=(List.range j).reverse:=by
  intro n
  induction n with
  | zero=>intro j hj; have:j=0:=by omega
          subst this; rfl
  | succ n ih=>
    intro j hj
    rw [List.range_succ,List.reverse_append]
    simp only [List.reverse_cons,List.reverse_nil,List.nil_append,List.singleton_append]
    by_cases hjn:j=n+1
    subst hjn
    rw [List.filter_eq_self.2]
    rw [List.range_succ]; simp
    intro a ha
    simp only [List.mem_cons,List.mem_reverse,List.mem_range] at ha
    simp; omega
    rw [List.filter_cons_of_neg (by simp; omega)]
    exact ih j (by omega)
 rw [h n (i+1) (by omega),h n i (by omega),List.range_succ]
 simp
def AL (ops:Array Oper) (vs:List V) (A:AS) (L:Nat→Bool) (n:Nat):AS:=⟨TLs ops vs L n++A.t,A.h⟩
theorem afh (vs:List V) (A:AS) (n t:Nat) (L:Nat→Bool):(AL ops vs A L n).get t=match lk t (TLs ops vs L n) with | some v=>v | none=>A.get t:=by
 simp only [AL,AS.get,ajb]
 cases lk t (TLs ops vs L n) <;> rfl
theorem auA (A:AS) (vs:List V) (n:Nat):∀ (l:List Oper) (us:List V) (i:Nat) (B:AS),(∀ j,j < l.length→ops[i+j]? =l[j]?)→(∀ j,j < us.length→vs[i+j]? =us[j]?)→l.length=us.length→i+l.length≤n→AEq B (AL ops vs A (fun k=>decide (k < i)) n)→
 AEq (akR l us B) (AL ops vs A (fun k=>decide (k < i+l.length)) n)
 | [],us,i,B,_,_,_,_,h=>h
 | o :: l,[],i,B,_,_,hl,_,_=>by simp at hl
 | o :: l,u :: us,i,B,h1,h2,hl,hn,h=>by
   simp only [List.length_cons] at hn hl
   have ho:ops[i]? =some o:=by have:=h1 0 (by simp); simpa using this
   have hu:vs[i]? =some u:=by have:=h2 0 (by simp); simpa using this
   have:=auA A vs n l us (i+1) (B.put o.dst u) (fun j hj=>by have:=h1 (j+1) (by simp; omega); rw [← show i+(j+1)=i+1+j by omega]; simpa using this)
    (fun j hj=>by have:=h2 (j+1) (by simp; omega); rw [← show i+(j+1)=i+1+j by omega]; simpa using this) (by omega) (by omega) (by
     refine ⟨fun t=>?_,fun k=>by
      have e:(B.put o.dst u).h=B.h:=by cases o.dst <;> rfl
      rw [e]; exact h.2 k⟩
     rw [afh,atc vs n i (by omega),ajb]
     have hw:wr ops vs i=match o.dst with | some d=>[(d,u)] | none=>[]:=by
      unfold wr; rw [ho,hu]; simp only [Option.bind_some]; cases o.dst <;> rfl
     have hB:=h.1 t
     rw [afh] at hB
     rw [hw]
     cases hd:o.dst with
     | none=>simp only [lk]; exact hB
     | some d=>
       rw [AS.aaq]
       simp only [lk]
       by_cases e:t=d
       rw [if_pos e,if_pos e]
       rw [if_neg e,if_neg e]; exact hB)
   have e:i+1+l.length=i+(l.length+1):=by omega
   rw [e] at this
   simpa [akR] using this
theorem ayp:∀ (l:List Oper) {A:AS} {vs:List V},DL P N ops l A vs→vs.length=l.length
 | [],_,_,h=>by have h:_=[]:=h; rw [h]; rfl
 | o :: l,_,_,h=>by obtain ⟨v,vs',rfl,_,h⟩:=h; simp [ayp l h]
theorem axR:∀ (l:List Oper) {A:AS} {vs:List V} {i:Nat} {o:Oper},DL P N ops l A vs→l[i]? =some o→∃ v,vs[i]? =some v∧amr P N ops o (akR (l.take i) (vs.take i) A) v
 | [],_,_,_,_,_,h=>by simp at h
 | o :: l,A,vs,0,o',h,hi=>by
   obtain ⟨v,vs',rfl,h1,_⟩:=h
   simp at hi; subst hi
   exact ⟨v,rfl,h1⟩
 | o :: l,A,vs,i+1,o',h,hi=>by
   obtain ⟨v,vs',rfl,_,h2⟩:=h
   obtain ⟨u,hu,hd⟩:=axR l h2 (by simpa using hi)
   exact ⟨u,by simpa using hu,by simpa [akR] using hd⟩
def unl (listed:Array Bool) (n:Nat):Nat:=((List.range n).filter fun i=>!listed.getD i true).length
theorem arW {listed:Array Bool} {n:Nat} (h:unl listed n=0):∀ j,j < n→listed.getD j true=true:=by
 intro j hj
 unfold unl at h
 have:=List.eq_nil_of_length_eq_zero h
 rw [List.filter_eq_nil_iff] at this
 simpa using this j (by simpa using hj)
theorem ave {listed:Array Bool} {n i:Nat} (hi:i < n) (hs:listed.size=n) (hu:listed.getD i true=false):unl (listed.setIfInBounds i true) n+1=unl listed n:=by
 unfold unl
 have h:∀ m,m≤n→((List.range m).filter fun j=>!(listed.setIfInBounds i true).getD j true).length+(if i < m then 1 else 0)=((List.range m).filter fun j=>!listed.getD j true).length:=by
  intro m
  induction m with
  | zero=>simp
  | succ m ih=>
    intro hm
    have ih:=ih (by omega)
    rw [List.range_succ,List.filter_append,List.filter_append,List.length_append,List.length_append]
    by_cases he:m=i
    subst he
    have e1:(listed.setIfInBounds m true).getD m true=true:=by simp [Array.getD]
    rw [if_neg (by omega)] at ih
    rw [List.filter_cons_of_neg (by rw [e1]; decide),List.filter_cons_of_pos (by rw [hu]; rfl),if_pos (by omega)]
    simp only [List.filter_nil,List.length_cons,List.length_nil]; omega
    have e1:(listed.setIfInBounds i true).getD m true=listed.getD m true:=getD_set_ne true (Ne.symm he)
    have e2:([m].filter fun j=>!(listed.setIfInBounds i true).getD j true).length=([m].filter fun j=>!listed.getD j true).length:=by
     cases hb:listed.getD m true with
     | true=>rw [List.filter_cons_of_neg (by rw [e1,hb]; decide),List.filter_cons_of_neg (by rw [hb]; decide)]; rfl
     | false=>rw [List.filter_cons_of_pos (by rw [e1,hb]; rfl),List.filter_cons_of_pos (by rw [hb]; rfl)]; rfl
    rw [e2]
    by_cases hlt:i < m
    rw [if_pos hlt] at ih; rw [if_pos (by omega)]; omega
    rw [if_neg hlt] at ih; rw [if_neg (by omega)]; omega
 have:=h n (Nat.le_refl _)
 rw [if_pos hi] at this
 exact this
theorem arh {id m:Nat} {A:AS} {Q:Exit→AS→Prop} (hm:P.follows .mixedOrders=true) (hc:agv ops m=true) (hml:m≤ops.size)
 (h:DW P N ops (ops.toList.take m) A (fun B=>WL P N ops (ops.toList.drop m) B (Q .normal))):T P N (.region id ops true) A Q:=by
 obtain ⟨vs,hdl,hwl⟩:=h
 have hvl:vs.length=m:=by rw [ayp _ hdl]; simp; omega
 intro Pb Kb a w F hs
 refine wp_region_any hm ?_
 have hs0:SIM N Pb Kb A a { w with drawn:=w.drawn+1 } F:=hs.grow (fun _ _=>rfl) (Nat.le_refl _) (fun _ h=>h) (fun g h=>.inl h) hs.sub
 obtain ⟨w0,hw0⟩:∃ w0:World,w0={ w with drawn:=w.drawn+1 }:=⟨_,rfl⟩
 have hk0:Keep Kb w w0:=by rw [hw0]; exact ⟨rfl,rfl,rfl,Nat.le_refl _,fun _ _=>rfl⟩
 rw [← hw0] at hs0 ⊢
 let Am:=akR (ops.toList.take m) vs A
 have hAi:∀ i,i≤m→AEq (akR ((ops.toList.take m).take i) (vs.take i) A) (AL ops vs A (fun k=>decide (k < i)) ops.size):=fun i hi=>by
  have hlen:((ops.toList.take m).take i).length=i:=by simp; omega
  have:=auA (ops:=ops) A vs ops.size ((ops.toList.take m).take i) (vs.take i) 0 A (fun j hj=>by
   rw [hlen] at hj
   rw [Nat.zero_add,List.getElem?_take_of_lt hj,List.getElem?_take_of_lt (by omega)]; simp)
   (fun j hj=>by simp at hj; rw [Nat.zero_add,List.getElem?_take_of_lt (by omega)]) (by rw [hlen]; simp; omega) (by rw [hlen]; omega) (by
    refine ⟨fun t=>?_,fun _=>rfl⟩
    rw [afh]
    have:TLs ops vs (fun k=>decide (k < 0)) ops.size=[]:=by
     unfold TLs; rw [List.filter_eq_nil_iff.2 (by simp)]; rfl
    rw [this]; rfl)
  rw [hlen,Nat.zero_add] at this
  exact this
 have hAm:AEq Am (AL ops vs A (fun k=>decide (k < m)) ops.size):=by
  have:=hAi m (Nat.le_refl _)
  have e1:(ops.toList.take m).take m=ops.toList.take m:=by rw [List.take_take,Nat.min_self]
  have e2:vs.take m=vs:=List.take_of_length_le (by omega)
  rw [e1,e2] at this
  exact this
 let Ph (listed:Array Bool) (A':AS):Prop:=
  ((∃ j,j < m∧listed.getD j true=false)∧AEq A' (AL ops vs A (fun k=>listed.getD k true) ops.size))∨
  (∃ k,m≤k∧k≤ops.size∧(∀ j,j < ops.size→listed.getD j true=decide (j < k))∧WL P N ops (ops.toList.drop k) A' (Q .normal))
 have key:∀ fuel (listed:Array Bool) a w',listed.size=ops.size→unl listed ops.size=fuel→
  (∀ k o,ops[k]? =some o→listed.getD k true=true→∀ j,j∈edg o→listed.getD j true=true)→Nx N Pb Kb w0 (Ph listed) a w'→
  wpAny P .any ops (fun e a' w'=>Nx N Pb Kb w (Q e) a' w') fuel listed a w':=by
  intro fuel
  induction fuel with
  | zero=>
    intro listed a w' hsz hu hcl hn
    have hall:=arW hu
    refine ⟨?_,(Nx.step (fun _ h=>h) (fun _ h=>h) (fun _ h=>.inl h) hk0 hn).mono fun A' hA'=>?_⟩
    rw [List.eq_nil_iff_forall_not_mem]
    intro j hj
    rw [mem_ready] at hj
    obtain ⟨h0,o,ho,_⟩:=hj
    have:=hall j (Array.getElem?_eq_some_iff.1 ho).1
    rw [h0] at this; cases this
    rcases hA' with ⟨⟨j,hj,hf⟩,_⟩ | ⟨k,hk1,hk2,hk3,hw⟩
    rw [hall j (by omega)] at hf; cases hf
    have:k=ops.size:=by
     rcases Nat.lt_or_ge k ops.size with h | h
     have:=hk3 k h; rw [hall k h] at this; simp at this
     omega
    subst this
    rw [List.drop_eq_nil_of_le (by simp)] at hw
    exact hw
  | succ fuel ih=>
    intro listed a w' hsz hu hcl hn
    have hlt':∀ j,j < ops.size→listed.getD j false=listed.getD j true:=fun j hj=>by
     have hj':j < listed.size:=by omega
     simp [Array.getD,hj']
    constructor
    intro hr
    exfalso
    have hex:∃ j,j < ops.size∧listed.getD j true=false:=by
     refine Classical.byContradiction fun hne=>?_
     have:unl listed ops.size=0:=by
      unfold unl
      rw [List.filter_eq_nil_iff.2]
      rfl
      intro j hj
      simp only [List.mem_range] at hj
      cases hb:listed.getD j true with
      | true=>simp
      | false=>exact absurd ⟨j,hj,hb⟩ hne
     omega
    have hmin:∀ n,∀ j,j≤n→j < ops.size→listed.getD j true=false→∃ j',j' < ops.size∧listed.getD j' true=false∧∀ i,i < j'→listed.getD i true=true:=by
     intro n
     induction n with
     | zero=>intro j hj h1 h2; exact ⟨j,h1,h2,fun i hi=>by omega⟩
     | succ n ihn=>
       intro j hj h1 h2
       by_cases hsm:∃ i,i < j∧listed.getD i true=false
       obtain ⟨i,hi,hf⟩:=hsm; exact ihn i (by omega) (by omega) hf
       exact ⟨j,h1,h2,fun i hi=>by
        cases hb:listed.getD i true with
        | true=>rfl
        | false=>exact absurd ⟨i,hi,hb⟩ hsm⟩
    obtain ⟨j,hj1,hj2⟩:=hex
    obtain ⟨j',h1,h2,h3⟩:=hmin j j (Nat.le_refl _) hj1 hj2
    have ho:ops[j']? =some ops[j']:=by simp [h1]
    have:j'∈Region.ready .any ops listed:=by
     rw [mem_ready]
     refine ⟨h2,_,ho,fun e he hb=>?_⟩
     have hlt:=anK hc ho (k:=e.on) (by simp only [edg,List.mem_map,List.mem_filter]; exact ⟨e,⟨by simpa using he,hb⟩,rfl⟩)
     rw [hlt' _ (by omega)]; exact h3 _ hlt
    rw [hr] at this; cases this
    intro i hi
    rw [mem_ready] at hi
    obtain ⟨hi0,o,ho,hed⟩:=hi
    have hin:i < ops.size:=(Array.getElem?_eq_some_iff.1 ho).1
    have hed':∀ k,k∈edg o→listed.getD k true=true:=fun k hk=>by
     simp only [edg,List.mem_map,List.mem_filter] at hk
     obtain ⟨e,⟨he,hb⟩,rfl⟩:=hk
     have hlt:=anK hc ho (k:=e.on) (by simp only [edg,List.mem_map,List.mem_filter]; exact ⟨e,⟨he,hb⟩,rfl⟩)
     rw [← hlt' _ (by omega)]
     exact hed e (by simpa using he) hb
    have hset:∀ k,k < ops.size→(listed.setIfInBounds i true).getD k true=(if k=i then true else listed.getD k true):=fun k hk=>by
     by_cases e:k=i
     subst e; simp [Array.getD,hsz,hin]
     rw [if_neg e]; exact getD_set_ne true (Ne.symm e)
    have hcl':∀ k o,ops[k]? =some o→(listed.setIfInBounds i true).getD k true=true→∀ j,j∈edg o→(listed.setIfInBounds i true).getD j true=true:=fun k o' ho' hk j hj=>by
     have hkn:=(Array.getElem?_eq_some_iff.1 ho').1
     have hjk:=anK hc ho' hj
     rw [hset k hkn] at hk
     rw [hset j (by omega)]
     split
     rfl
     split at hk
     rename_i e; subst e; rw [ho] at ho'; obtain rfl:=Option.some.inj ho'; exact hed' j hj
     exact hcl k o' ho' hk j hj
    have hun':unl (listed.setIfInBounds i true) ops.size=fuel:=by have:=ave hin hsz hi0; omega
    have goOn:∀ a'' w'',Nx N Pb Kb w0 (Ph (listed.setIfInBounds i true)) a'' w''→wpAny P .any ops (fun e a' w'=>Nx N Pb Kb w (Q e) a' w') fuel (listed.setIfInBounds i true) a'' w'':=
     fun a'' w'' hn'=>ih _ a'' w'' (by simpa using hsz) hun' hcl' hn'
    obtain ⟨A',Pb',Kb',F',hA',h2,h3,h4,h5,h6⟩:=hn
    rcases hA' with ⟨⟨j0,hj0,hf0⟩,hAe⟩ | ⟨k,hk1,hk2,hk3,hw⟩
    ·
     have him:i < m:=by
      rcases Nat.lt_or_ge i m with h | h
      exact h
      have:=hed' j0 (anu hc ho h (by omega)); rw [hf0] at this; cases this
     obtain ⟨v,hv,hdet⟩:=axR (ops:=ops) _ hdl (i:=i) (o:=o) (by rw [List.getElem?_take_of_lt him]; simpa using ho)
     have hwrit:∀ t,(t∈o.looksAt ops∨o.dst=some t)→∀ k,k < ops.size→k≠i→(ops[k]?).bind (·.dst)=some t→listed.getD k true=decide (k < i):=fun t ht k hk hne hb=>by
      have hok:ops[k]? =some ops[k]:=by simp [hk]
      rw [hok] at hb
      obtain ⟨c1,c2⟩:=ayD hc ho hok hb hne ht
      rcases Nat.lt_or_ge k i with h | h
      rw [hed' k (c1 h)]; simp [h]
      have hgt:i < k:=by omega
      have:listed.getD k true=false:=by
       cases hb':listed.getD k true with
       | false=>rfl
       | true=>have:=hcl k _ hok hb' i (c2 hgt); rw [hi0] at this; cases this
      rw [this]; simp; omega
     have hdet':=hdet A' (fun t ht=>by
      rw [hAe.1 t,(hAi i (by omega)).1 t,afh,afh]
      rw [agE t vs ops.size (L':=fun k=>decide (k < i)) (fun k hk hb=>?_)]
      by_cases e:k=i
      subst e; rw [hi0]; simp
      rcases ht with ht | ht
      exact hwrit t (.inl ht) k hk e hb
      exfalso
      have hok:ops[k]? =some ops[k]:=by simp [hk]
      rw [hok] at hb
      exact ht ops[k] (by simp) hb)
      (fun k=>(hAe.2 k).trans ((hAi i (by omega)).2 k).symm)
     have hnext:∀ B,AEq B (A'.put o.dst v)→AEq B (AL ops vs A (fun k=>(listed.setIfInBounds i true).getD k true) ops.size):=fun B hB=>by
      refine ⟨fun t=>?_,fun k=>?_⟩
      rw [hB.1 t,afh]
      cases hd:o.dst with
      | none=>
        show A'.get t=_
        rw [hAe.1 t,afh]
        rw [agE t vs ops.size (L':=fun k=>(listed.setIfInBounds i true).getD k true) (fun k hk hb=>?_)]
        rw [hset k hk]
        split
        rename_i e; subst e; rw [ho] at hb; simp [hd] at hb
        rfl
      | some d=>
        rw [AS.aaq]
        by_cases e:t=d
        subst e
        rw [if_pos rfl]
        rw [agE t vs ops.size (L:=fun k=>(listed.setIfInBounds i true).getD k true) (L':=fun k=>decide (k < i+1)) (fun k hk hb=>?_),atc vs ops.size i hin,ajb]
        have:wr ops vs i=[(t,v)]:=by unfold wr; rw [ho,hv]; simp [hd]
        rw [this]; simp [lk]
        rw [hset k hk]
        split
        rename_i e; subst e; simp
        rename_i e
        rw [hwrit t (.inr hd) k hk e hb]
        have:(k < i)↔(k < i+1):=by omega
        simp [this]
        rw [if_neg e,hAe.1 t,afh]
        rw [agE t vs ops.size (L':=fun k=>(listed.setIfInBounds i true).getD k true) (fun k hk hb=>?_)]
        rw [hset k hk]
        split
        rename_i e'; subst e'; rw [ho] at hb; simp [hd] at hb; exact absurd hb.symm e
        rfl
      rw [hB.2 k]
      have:(A'.put o.dst v).h=A'.h:=by cases o.dst <;> rfl
      rw [this,hAe.2 k]; rfl
     have hph:∀ B Pb2 Kb2 a2 w2 F2,AEq B (A'.put o.dst v)→SIM N Pb2 Kb2 B a2 w2 F2→∃ B' F3,Ph (listed.setIfInBounds i true) B'∧SIM N Pb2 Kb2 B' a2 w2 F3:=fun B Pb2 Kb2 a2 w2 F2 hB hsB=>by
      have hBL:=hnext B hB
      by_cases hleft:∃ j,j < m∧(listed.setIfInBounds i true).getD j true=false
      exact ⟨B,F2,.inl ⟨hleft,hBL⟩,hsB⟩
      have hall:∀ j,j < ops.size→(listed.setIfInBounds i true).getD j true=decide (j < m):=fun j hj=>by
       rcases Nat.lt_or_ge j m with h | h
       cases hb:(listed.setIfInBounds i true).getD j true with
       | true=>simp [h]
       | false=>exact absurd ⟨j,h,hb⟩ hleft
       have hoj:ops[j]? =some ops[j]:=by simp [hj]
       rw [hset j hj,if_neg (by omega)]
       cases hb:listed.getD j true with
       | false=>simp; omega
       | true=>
         have:=hcl j _ hoj hb j0 (anu hc hoj h (by omega))
         rw [hf0] at this; cases this
      have hBm:AEq B Am:=by
       refine hBL.trans (AEq.trans ?_ hAm.symm)
       refine ⟨fun t=>?_,fun _=>rfl⟩
       rw [afh,afh,agE t vs ops.size (L':=fun k=>decide (k < m)) (fun k hk _=>hall k hk)]
      obtain ⟨F3,hs3,_⟩:=hsB.le hBm.symm.le
      exact ⟨Am,F3,.inr ⟨m,Nat.le_refl _,hml,hall,hwl⟩,hs3⟩
     unfold Go.wpOp
     simp only [ho]
     rcases ajc hdet' h2 with ⟨hwn,hop⟩ | ⟨hwn,hd,hvd⟩
     rw [if_pos hwn]
     refine .inl (Oper.wp_mono ?_ (hop Pb' Kb' a w' F' _ h2))
     rintro a2 w2 ⟨B,Pb2,Kb2,F2,k1,k2,k3,k4,k5,k6⟩
     obtain ⟨B',F3,hp,hs3⟩:=hph B Pb2 Kb2 a2 w2 F2 k1 k2
     exact goOn a2 w2 (Nx.step h3 h4 h5 h6 ⟨B',Pb2,Kb2,F3,hp,hs3,k3,k4,k5,k6⟩)
     rw [if_neg (by simp [hwn])]
     obtain ⟨F2,hs2⟩:=h2.akV (d:=o.dst) (v:=v) (x:=undef) hd (hvd w' Pb')
     obtain ⟨B',F3,hp,hs3⟩:=hph _ Pb' Kb' _ w' F2 ⟨fun _=>rfl,fun _=>rfl⟩ hs2
     exact goOn _ w' ⟨B',Pb',Kb',F3,hp,hs3,h3,h4,h5,h6⟩
    ·
     have hik:i=k:=by
      rw [hk3 i hin] at hi0
      simp only [decide_eq_false_iff_not] at hi0
      rcases Nat.lt_or_ge k i with h | h
      have:=hed' k (anu hc ho (by omega) h)
      rw [hk3 k (by omega)] at this; simp at this
      omega
     subst hik
     have hdrop:ops.toList.drop i=o :: ops.toList.drop (i+1):=by
      rw [List.drop_eq_getElem_cons (by simpa using hin)]
      have:ops[i]=o:=by have:=Array.getElem?_eq_some_iff.1 ho; exact this.2
      simp [this]
     rw [hdrop] at hw
     have hph:∀ B,WL P N ops (ops.toList.drop (i+1)) B (Q .normal)→Ph (listed.setIfInBounds i true) B:=fun B hB=>
      .inr ⟨i+1,by omega,by omega,fun j hj=>by
       rw [hset j hj]
       split
       rename_i e; subst e; simp
       rename_i e; rw [hk3 j hj]
       have:(j < i)↔(j < i+1):=by omega
       simp [this],hB⟩
     unfold Go.wpOp
     simp only [ho]
     rcases ajc hw h2 with ⟨hwn,hop⟩ | ⟨hwn,hd,u,hu,hw'⟩
     rw [if_pos hwn]
     refine .inl (Oper.wp_mono ?_ (hop Pb' Kb' a w' F' _ h2))
     intro a2 w2 hn2
     exact goOn a2 w2 (Nx.step h3 h4 h5 h6 (hn2.mono hph))
     rw [if_neg (by simp [hwn])]
     obtain ⟨F2,hs2⟩:=h2.akV (d:=o.dst) (v:=u) (x:=undef) hd (hu w' Pb')
     exact goOn _ w' ⟨_,Pb',Kb',F2,hph _ hw',hs2,h3,h4,h5,h6⟩
 have hrep:∀ k,k < ops.size→(Array.replicate ops.size false).getD k true=false:=fun k hk=>by simp [Array.getD,hk]
 have hstart:Ph (Array.replicate ops.size false) A∨m=0:=by
  by_cases hm0:m=0
  exact .inr hm0
  refine .inl (.inl ⟨⟨0,by omega,hrep 0 (by omega)⟩,⟨fun t=>?_,fun _=>rfl⟩⟩)
  rw [afh]
  rw [agE t vs ops.size (L':=fun _=>false) (fun k hk _=>hrep k hk)]
  have:TLs ops vs (fun _=>false) ops.size=[]:=by unfold TLs; rw [List.filter_eq_nil_iff.2 (by simp)]; rfl
  rw [this]; rfl
 have hst:Ph (Array.replicate ops.size false) A:=by
  rcases hstart with h | h
  exact h
  subst h
  refine .inr ⟨0,Nat.le_refl _,Nat.zero_le _,fun j hj=>by rw [hrep j hj]; simp,?_⟩
  have:vs=[]:=List.eq_nil_of_length_eq_zero hvl
  subst this
  simpa [akR] using hwl
 exact key ops.size (Array.replicate ops.size false) a w0 (by simp) (by
  unfold unl
  rw [List.filter_eq_self.2]
  simp
  intro j hj; simp only [List.mem_range] at hj; rw [hrep j hj]; rfl)
  (fun k o ho hk=>by rw [hrep k (Array.getElem?_eq_some_iff.1 ho).1] at hk; cases hk) ⟨A,Pb,Kb,F,hst,hs0,fun _ h=>h,fun _ h=>h,fun _ h=>.inl h,Keep.refl _ _⟩
end
end Go.Abs
namespace Go.Abs
open Go Go.RowKit
def aDD (P:Program) (N:Nat) (ops:Array Oper) (El:List Nat) (U:Nat×Nat×Nat→AS→AS) (o:Oper) (A:AS):Prop:=
 ∀ A':AS,(∀ t,t∈o.looksAt ops∨t∈El→A'.get t=A.get t)→(∀ k,lk k A'.h=lk k A.h)→∀ K:AS→Prop,(∀ gh,K (U gh A'))→opT P N o A' K
def afe (ops:Array Oper):Nat→Nat→Nat→Bool
 | 0,_,_=>false
 | n+1,j,i=>match ops[j]? with
   | some o=>(edg o).any fun k=>k==i||afe ops n k i
   | none=>false
theorem agJ {ops:Array Oper} {L:Nat→Bool} (hcl:∀ k o,ops[k]? =some o→L k=true→∀ j,j∈edg o→L j=true):∀ (n j i:Nat),afe ops n j i=true→L j=true→L i=true
 | 0,_,_,h,_=>by simp [afe] at h
 | n+1,j,i,h,hj=>by
   simp only [afe] at h
   split at h
   rename_i o ho
   rw [List.any_eq_true] at h
   obtain ⟨k,hk,h⟩:=h
   have hk':=hcl j o ho hj k hk
   rw [Bool.or_eq_true,beq_iff_eq] at h
   rcases h with rfl | h
   exact hk'
   exact agJ hcl n k i h hk'
   simp at h
structure UOk (U:Nat×Nat×Nat→AS→AS) (Sl Hl:List Nat) (d:Nat):Prop where
 g:∀ gh B t,t ∉ Sl→(U gh B).get t=B.get t
 h:∀ gh B k,k ∉ Hl→lk k (U gh B).h=lk k B.h
 c:∀ gh B B',AEq B B'→AEq (U gh B) (U gh B')
 p:∀ gh B t v,t ∉ Sl→AEq (U gh (B.put (some t) v)) ((U gh B).put (some t) v)
 d:∀ gh B v,AEq (U gh (B.put (some d) v)) (U gh B)
 q:∀ gh B k gv,k ∉ Hl→AEq (U gh ⟨B.t,(k,gv) :: B.h⟩) ⟨(U gh B).t,(k,gv) :: (U gh B).h⟩
section
variable {P:Program} {N:Nat} {ops:Array Oper}
end
end Go.Abs
namespace Go.Abs
open Go Go.RowKit
structure Ent where
 eff:Bool
 El:List Nat
 fr:Option (List Nat)
 Sl:List Nat
 Hl:List Nat
structure ZT (P:Program) where
 T:Nat
 v:V
 ok:aia P T v
def alU (d:Nat) (v:V) (g:Nat) (B:AS):AS:=⟨(d,.ptr (.key d) [] g 0) :: B.t,(d,(g,v)) :: B.h⟩
def aaM (ops:Array Oper) (tb:List (Nat×Ent)) (i:Nat):Ent:=match lk i tb with
 | some e=>e
 | none=>match ops[i]? with
   | some o=>⟨false,[],(match o.op with | .load _ _=>none | _=>some []),o.dst.toList,[]⟩
   | none=>⟨false,[],none,[],[]⟩
def aed (ops:Array Oper) (tb:List (Nat×Ent)) (i:Nat):List Nat:=(match ops[i]? with | some o=>o.looksAt ops | none=>[])++(aaM ops tb i).El
def agS (A' A:AS) (fs:List Nat):Prop:= ∀ t,t∈fs→A'.get t=A.get t
def agR (A' A:AS):Option (List Nat)→Prop
 | none=> ∀ k,lk k A'.h=lk k A.h
 | some fr=> ∀ k,k∈fr→lk k A'.h=lk k A.h
def VOk (P:Program) (N:Nat) (ops:Array Oper) (o:Oper) (A:AS) (v:V) (fs:List Nat) (fr:Option (List Nat)):Prop:=
 ∀ A':AS,agS A' A fs→agR A' A fr→gd ops o A' (opT P N o A' (fun B=>AEq B (A'.put o.dst v))) (aaT N o.dst∧∀ w Pb,RV w Pb v undef [])
def EOk (P:Program) (N:Nat) (o:Oper) (A:AS) {G:Type} (U:G→AS→AS) (fs:List Nat) (fr:Option (List Nat)):Prop:=
 o.guard=none∧∀ A':AS,agS A' A fs→agR A' A fr→opT P N o A' (fun B=> ∃ g,AEq B (U g A'))
structure UOkX {G:Type} (U:G→AS→AS) (fs Sl Hl:List Nat):Prop where
 g:∀ g B t,t ∉ Sl→(U g B).get t=B.get t
 h:∀ g B k,k ∉ Hl→lk k (U g B).h=lk k B.h
 c:∀ g B B',AEq B B'→AEq (U g B) (U g B')
 p:∀ g B t v,t ∉ Sl→t ∉ fs→AEq (U g (B.put (some t) v)) ((U g B).put (some t) v)
 q:∀ g B k gv,k ∉ Hl→AEq (U g ⟨B.t,(k,gv) :: B.h⟩) ⟨(U g B).t,(k,gv) :: (U g B).h⟩
def DWx (P:Program) (N:Nat) (ops:Array Oper) (tb:List (Nat×Ent)) (zs:List (Nat×ZT P)):List Nat→AS→(AS→Prop)→Prop
 | [],A,K=>K A
 | i :: l,A,K=> ∃ o,ops[i]? =some o∧match lk i zs with
  | some z=> ∀ g,DWx P N ops tb zs l (alU (o.dst.getD 0) z.v g A) K
  | none=>match (aaM ops tb i).eff with
   | false=>(aaM ops tb i).Sl=o.dst.toList∧(aaM ops tb i).Hl=[]∧∃ v,VOk P N ops o A v (aed ops tb i) (aaM ops tb i).fr∧DWx P N ops tb zs l (A.put o.dst v) K
   | true=> ∃ (G:Type) (U:G→AS→AS),EOk P N o A U (aed ops tb i) (aaM ops tb i).fr∧UOkX U (aed ops tb i) (aaM ops tb i).Sl (aaM ops tb i).Hl∧∀ g,DWx P N ops tb zs l (U g A) K
def aaW (a b:List Nat):Bool:=a.all fun x=>!b.contains x
def aAG (a:List Nat):Option (List Nat)→Bool
 | none=>a.isEmpty
 | some b=>aaW a b
def indep (ops:Array Oper) (tb:List (Nat×Ent)) {P:Program} (zs:List (Nat×ZT P)) (p i:Nat):Bool:=
 (lk i zs).isNone&&!(aaM ops tb p).eff&&aaW (aaM ops tb p).Sl (aed ops tb i)&&aaW (aaM ops tb i).Sl (aed ops tb p)&&aaW (aaM ops tb p).Sl (aaM ops tb i).Sl&&aAG (aaM ops tb i).Hl (aaM ops tb p).fr
def ajQ (ops:Array Oper) (tb:List (Nat×Ent)) {P:Program} (zs:List (Nat×ZT P)) (p i:Nat):Bool:=
 match lk i zs,ops[i]? with
 | some _,some o=>match lk p zs,ops[p]? with
   | some _,some o'=>o'.dst.getD 0 != o.dst.getD 0
   | none,_=>!(aaM ops tb p).Sl.contains (o.dst.getD 0)&&!(aed ops tb p).contains (o.dst.getD 0)&&!(aaM ops tb p).Hl.contains (o.dst.getD 0)&&(match (aaM ops tb p).fr with | some l=>!l.contains (o.dst.getD 0) | none=>false)
   | _,none=>false
 | _,_=>false
def akj (ops:Array Oper) (m:Nat) (tb:List (Nat×Ent)) {P:Program} (zs:List (Nat×ZT P)):List Nat→Bool
 | []=>true
 | p :: l=>(l.all fun i=>(match lk p zs with | none=>indep ops tb zs p i | some _=>false)||afe ops 64 i p||ajQ ops tb zs p i)&&akj ops m tb zs l
def awf (N:Nat) (ops:Array Oper) {P:Program} (zs:List (Nat×ZT P)):Bool:=zs.all fun x=>match ops[x.1]? with
 | some o=>(match o.op,o.dst with | .alloc T,some d=>T==x.2.T&&Nat.blt d N | _,_=>false)&&o.guard.isNone
 | none=>false
def ndk (l:List Nat):Bool:=match l with
 | []=>true
 | k :: r=>!r.contains k&&ndk r
def avQ (ops:Array Oper) (m:Nat) (pl:List Nat):Bool:=
 (pl.all fun i=>Nat.blt i m)&&ndk pl&&((List.range m).all fun i=>pl.contains i)&&Nat.ble m ops.size&&
 (ops.toList.zipIdx.all fun (o,i)=>(edg o).all (fun k=>Nat.blt k i))&&
 ((List.range (ops.size - m)).all fun q=>match ops[m+q]? with
   | some _=>(List.range (m+q)).all fun k=>afe ops 64 (m+q) k
   | none=>false)
section
variable {P:Program} {N:Nat} {ops:Array Oper} {tb:List (Nat×Ent)} {zs:List (Nat×ZT P)}
theorem amH {a b:List Nat} (h:aaW a b=true):∀ x,x∈a→x ∉ b:=fun x hx=>by
 unfold aaW at h
 rw [List.all_eq_true] at h
 simpa using h x hx
theorem AEq.agM {A:AS}:AEq A A:=⟨fun _=>rfl,fun _=>rfl⟩
theorem aCc {A B:AS} {d:Option Nat} {v:V} (h:AEq A B):AEq (A.put d v) (B.put d v):=by
 cases d with
 | none=>exact h
 | some d'=>exact ⟨fun t=>by rw [AS.aaq,AS.aaq]; split
                             rfl
                             exact h.1 t,h.2⟩
theorem VOk.congr {o:Oper} {A B:AS} {v:V} {fs:List Nat} {fr:Option (List Nat)} (h:VOk P N ops o A v fs fr) (h1:agS B A fs) (h2:agR B A fr):VOk P N ops o B v fs fr:=fun A' k1 k2=>
 h A' (fun t ht=>(k1 t ht).trans (h1 t ht)) (by
   cases fr with
   | none=>exact fun k=>(k2 k).trans (h2 k)
   | some l=>exact fun k hk=>(k2 k hk).trans (h2 k hk))
theorem EOk.congr {G:Type} {U:G→AS→AS} {o:Oper} {A B:AS} {fs:List Nat} {fr:Option (List Nat)} (h:EOk P N o A U fs fr) (h1:agS B A fs) (h2:agR B A fr):EOk P N o B U fs fr:=⟨h.1,fun A' k1 k2=>
 h.2 A' (fun t ht=>(k1 t ht).trans (h1 t ht)) (by
  cases fr with
  | none=>exact fun k=>(k2 k).trans (h2 k)
  | some l=>exact fun k hk=>(k2 k hk).trans (h2 k hk))⟩
theorem aoq {A B:AS} (h:A.h=B.h) (fr:Option (List Nat)):agR A B fr:=by
 cases fr with
 | none=>exact fun k=>by rw [h]
 | some l=>exact fun k _=>by rw [h]
theorem awW {A B:AS} (h:AEq A B) (fr:Option (List Nat)):agR A B fr:=by
 cases fr with
 | none=>exact h.2
 | some l=>exact fun k _=>h.2 k
theorem ajA {A:AS} {d:Option Nat} {v:V}:(A.put d v).h=A.h:=by cases d <;> rfl
theorem agf {A:AS} {d:Option Nat} {v:V} {t:Nat} (h:t ∉ d.toList):(A.put d v).get t=A.get t:=by
 cases d with
 | none=>rfl
 | some d'=>rw [AS.aaq,if_neg (by simpa using h)]
theorem axJ {d:Nat} {v:V} {g:Nat} {A B:AS} (h:AEq A B):AEq (alU d v g A) (alU d v g B):=
 ⟨fun t=>by simp only [alU,AS.get,lk]; split
            rfl
            exact h.1 t,fun k=>by simp only [alU,lk]; split
                                  rfl
                                  exact h.2 k⟩
theorem acI {K:AS→Prop} (hK:∀ A B,AEq A B→K A→K B):∀ (l:List Nat) {A B:AS},AEq A B→DWx P N ops tb zs l A K→DWx P N ops tb zs l B K
 | [],A,B,h,hA=>hK A B h hA
 | i :: l,A,B,h,hA=>by
   obtain ⟨o,ho,hA⟩:=hA
   refine ⟨o,ho,?_⟩
   split at hA
   exact fun g=>acI hK l (axJ h) (hA g)
   split at hA
   obtain ⟨e1,e2,v,h1,h2⟩:=hA
   exact ⟨e1,e2,v,h1.congr (fun t _=>(h.1 t).symm) (awW h.symm _),acI hK l (aCc h) h2⟩
   obtain ⟨G,U,h1,h2,h3⟩:=hA
   exact ⟨G,U,h1.congr (fun t _=>(h.1 t).symm) (awW h.symm _),h2,fun g=>acI hK l (h2.c g _ _ h) (h3 g)⟩
theorem ayI {K:AS→Prop} (hK:∀ A B,AEq A B→K A→K B) {p i:Nat} {l:List Nat} {A:AS} (hp:lk p zs=none) (hi:indep ops tb zs p i=true) (h:DWx P N ops tb zs (p :: i :: l) A K):DWx P N ops tb zs (i :: p :: l) A K:=by
 unfold indep at hi
 simp only [Bool.and_eq_true,Bool.not_eq_true'] at hi
 obtain ⟨⟨⟨⟨⟨hz,h1⟩,h2⟩,h3⟩,h4⟩,h5⟩:=hi
 have hz:lk i zs=none:=by simpa using hz
 have h2:=amH h2
 have h3:=amH h3
 have h4:=amH h4
 obtain ⟨op,hop,h⟩:=h
 rw [hp] at h
 simp only at h
 rw [h1] at h
 obtain ⟨e1,e2,v,k1,oi,hoi,h⟩:=h
 refine ⟨oi,hoi,?_⟩
 rw [hz] at h ⊢
 simp only at h ⊢
 rw [e1] at h2 h4
 have g1:agS A (A.put op.dst v) (aed ops tb i):=fun t ht=>(agf (fun c=>h2 t c ht)).symm
 split at h
 rename_i he
 obtain ⟨f1,f2,v',k2,k3⟩:=h
 rw [f1] at h3 h4
 refine ⟨f1,f2,v',k2.congr g1 (aoq ajA.symm _),op,hop,?_⟩
 rw [hp]
 simp only
 rw [h1]
 refine ⟨e1,e2,v,k1.congr (fun t ht=>agf (fun c=>h3 t c ht)) (aoq ajA _),?_⟩
 refine acI hK l ⟨fun t=>?_,fun k=>by rw [ajA,ajA,ajA,ajA]⟩ k3
 by_cases c1:t∈oi.dst.toList
 cases hd:oi.dst with
 | none=>rw [hd] at c1; simp at c1
 | some d=>
   rw [hd] at c1
   have c1:t=d:=by simpa using c1
   subst c1
   have hn:t ∉ op.dst.toList:=fun c=>h4 t c (by rw [hd]; simp)
   rw [AS.aaq,if_pos rfl,agf hn,AS.aaq,if_pos rfl]
 rw [agf c1]
 by_cases c2:t∈op.dst.toList
 cases hd:op.dst with
 | none=>rw [hd] at c2; simp at c2
 | some d=>
   rw [hd] at c2
   have c2:t=d:=by simpa using c2
   subst c2
   rw [AS.aaq,if_pos rfl,AS.aaq,if_pos rfl]
 rw [agf c2,agf c2,agf c1]
 obtain ⟨G,U,k2,k3,k4⟩:=h
 refine ⟨G,U,k2.congr g1 (aoq ajA.symm _),k3,fun g=>⟨op,hop,?_⟩⟩
 rw [hp]
 simp only
 rw [h1]
 refine ⟨e1,e2,v,k1.congr (fun t ht=>k3.g g A t (fun c=>h3 t c ht)) ?_,?_⟩
 cases hf:(aaM ops tb p).fr with
 | none=>
   rw [hf] at h5
   have:(aaM ops tb i).Hl=[]:=by simpa [aAG] using h5
   exact fun k=>k3.h g A k (by rw [this]; simp)
 | some fr=>
   rw [hf] at h5
   exact fun k hk=>k3.h g A k (fun c=>amH h5 k c hk)
 refine acI hK l ?_ (k4 g)
 cases hd:op.dst with
 | none=>exact AEq.agM
 | some d=>exact k3.p g A d v (fun c=>h4 d (by rw [hd]; simp) c) (fun c=>h2 d (by rw [hd]; simp) c)
theorem apM {d:Nat} {v:V} {g t:Nat} {A:AS} (h:t≠d):(alU d v g A).get t=A.get t:=by simp only [alU,AS.get,lk]; rw [if_neg h]
theorem aCd {d:Nat} {v:V} {g k:Nat} {A:AS} (h:k≠d):lk k (alU d v g A).h=lk k A.h:=by simp only [alU,lk]; rw [if_neg h]
theorem aBd {d:Nat} {v:V} {g:Nat} {A:AS} {dd:Option Nat} {u:V} (h:d ∉ dd.toList):AEq (alU d v g (A.put dd u)) ((alU d v g A).put dd u):=by
 cases dd with
 | none=>exact AEq.agM
 | some d'=>
   have hne:d≠d':=by simpa using h
   refine ⟨fun t=>?_,fun k=>rfl⟩
   rw [AS.aaq]
   by_cases c:t=d
   subst c
   rw [if_neg hne]; simp only [alU,AS.get,lk,if_true]
   rw [apM c,apM c,AS.aaq]
theorem axL {K:AS→Prop} (hK:∀ A B,AEq A B→K A→K B) {p i:Nat} {l:List Nat} {A:AS} (hi:ajQ ops tb zs p i=true) (h:DWx P N ops tb zs (p :: i :: l) A K):DWx P N ops tb zs (i :: p :: l) A K:=by
 unfold ajQ at hi
 split at hi
 case h_2=>simp at hi
 rename_i z o hz ho
 obtain ⟨op,hop,h⟩:=h
 have inner:∀ {B:AS},DWx P N ops tb zs (i :: l) B K→∀ g,DWx P N ops tb zs l (alU (o.dst.getD 0) z.v g B) K:=fun h g=>by
  obtain ⟨o',ho',h⟩:=h
  rw [ho] at ho'; obtain rfl:=Option.some.inj ho'
  rw [hz] at h
  exact h g
 refine ⟨o,ho,?_⟩
 rw [hz]
 refine fun g=>⟨op,hop,?_⟩
 split at hi
 rename_i z' o' hz' hop'
 rw [hop] at hop'; obtain rfl:=Option.some.inj hop'
 rw [hz'] at h ⊢
 intro g'
 have hne:op.dst.getD 0≠o.dst.getD 0:=by simpa using hi
 refine acI hK l ⟨fun t=>?_,fun k=>?_⟩ (inner (h g') g)
 simp only [alU,AS.get,lk]
 by_cases c:t=o.dst.getD 0
 rw [if_pos c,if_neg (fun c2=>hne (c2.symm.trans c)),if_pos c]
 rw [if_neg c,if_neg c]
 simp only [alU,lk]
 by_cases c:k=o.dst.getD 0
 rw [if_pos c,if_neg (fun c2=>hne (c2.symm.trans c)),if_pos c]
 rw [if_neg c,if_neg c]
 rename_i hz'
 simp only [Bool.and_eq_true,Bool.not_eq_true',List.contains_eq_mem,decide_eq_false_iff_not] at hi
 obtain ⟨⟨⟨i1,i2⟩,i3⟩,i4⟩:=hi
 rw [hz'] at h ⊢
 simp only at h ⊢
 have gS:agS (alU (o.dst.getD 0) z.v g A) A (aed ops tb p):=fun t ht=>apM fun c=>i2 (by rw [← c]; exact ht)
 have gR:agR (alU (o.dst.getD 0) z.v g A) A (aaM ops tb p).fr:=by
  split at i4
  rename_i l' hl
  rw [hl]
  intro k hk
  refine aCd fun c=>?_
  simp only [Bool.not_eq_true',List.contains_eq_mem,decide_eq_false_iff_not] at i4
  exact i4 (by rw [← c]; exact hk)
  simp at i4
 split at h
 obtain ⟨e1,e2,v,k1,h⟩:=h
 refine ⟨e1,e2,v,k1.congr gS gR,?_⟩
 exact acI hK l (aBd (by rw [← e1]; exact i1)) (inner h g)
 obtain ⟨G,U,k1,k2,h⟩:=h
 refine ⟨G,U,k1.congr gS gR,k2,fun x=>acI hK l ?_ (inner (h x) g)⟩
 have e1:=k2.q x ⟨(o.dst.getD 0,.ptr (.key (o.dst.getD 0)) [] g 0) :: A.t,A.h⟩ (o.dst.getD 0) (g,z.v) i3
 have e2:=k2.p x A (o.dst.getD 0) (.ptr (.key (o.dst.getD 0)) [] g 0) i1 i2
 refine AEq.trans ?_ e1.symm
 refine ⟨fun t=>?_,fun k=>?_⟩
 exact (e2.1 t).symm
 simp only [alU,lk]
 split
 rfl
 exact (e2.2 k).symm
 simp at hi
theorem asf {K:AS→Prop} (hK:∀ A B,AEq A B→K A→K B) {i:Nat} {l2:List Nat}:∀ (l1:List Nat) {A:AS},(∀ p,p∈l1→(lk p zs=none∧indep ops tb zs p i=true)∨ajQ ops tb zs p i=true)→DWx P N ops tb zs (l1++i :: l2) A K→DWx P N ops tb zs (i :: (l1++l2)) A K
 | [],A,_,h=>h
 | p :: l1,A,hi,h=>by
   have ih:∀ A,DWx P N ops tb zs (l1++i :: l2) A K→DWx P N ops tb zs (i :: (l1++l2)) A K:=fun A=>asf hK l1 (fun q hq=>hi q (by simp [hq]))
   have h2:DWx P N ops tb zs (p :: i :: (l1++l2)) A K:=by
    obtain ⟨o,ho,h⟩:=h
    refine ⟨o,ho,?_⟩
    split at h
    exact fun g=>ih _ (h g)
    split at h
    obtain ⟨e1,e2,v,h1,h2⟩:=h; exact ⟨e1,e2,v,h1,ih _ h2⟩
    obtain ⟨G,U,h1,h2,h3⟩:=h; exact ⟨G,U,h1,h2,fun g=>ih _ (h3 g)⟩
   rcases hi p (by simp) with h | h
   exact ayI hK h.1 h.2 h2
   exact axL hK h h2
theorem auQ {α:Type}:∀ {l:List (Nat×α)} {k:Nat} {v:α},lk k l=some v→(k,v)∈l
 | [],_,_,h=>by simp [lk] at h
 | (k0,v0) :: l,k,v,h=>by
   simp only [lk] at h
   split at h
   rename_i e; subst e; cases h; simp
   exact List.mem_cons_of_mem _ (auQ h)
theorem avl {m:Nat}:∀ {pl l1 l2:List Nat} {i p:Nat},akj ops m tb zs pl=true→pl=l1++i :: l2→p∈l1→((lk p zs=none∧indep ops tb zs p i=true)∨ajQ ops tb zs p i=true)∨afe ops 64 i p=true
 | [],l1,l2,i,p,_,e,_=>by simp at e
 | q :: pl,[],l2,i,p,_,_,hp=>by simp at hp
 | q :: pl,x :: l1,l2,i,p,h,e,hp=>by
   simp only [List.cons_append,List.cons.injEq] at e
   obtain ⟨rfl,rfl⟩:=e
   simp only [akj,Bool.and_eq_true,List.all_eq_true] at h
   rcases List.mem_cons.1 hp with rfl | hp
   have:=h.1 i (by simp)
   rw [Bool.or_eq_true,Bool.or_eq_true] at this
   rcases this with (h | h) | h
   split at h
   exact .inl (.inl ⟨by assumption,h⟩)
   simp at h
   exact .inr h
   exact .inl (.inr h)
   exact avl h.2 rfl hp
theorem ajI {m:Nat} (f:Nat→Bool):∀ {pl:List Nat},akj ops m tb zs pl=true→akj ops m tb zs (pl.filter f)=true
 | [],_=>rfl
 | p :: pl,h=>by
   simp only [akj,Bool.and_eq_true,List.all_eq_true] at h
   simp only [List.filter_cons]
   split
   simp only [akj,Bool.and_eq_true,List.all_eq_true]
   exact ⟨fun i hi=>h.1 i (List.mem_filter.1 hi).1,ajI f h.2⟩
   exact ajI f h.2
theorem atn {L:Nat→Bool} (hcl:∀ k o,ops[k]? =some o→L k=true→∀ j,j∈edg o→L j=true) {i k:Nat} {o:Oper} (ho:ops[i]? =some o) (hed:∀ j,j∈edg o→L j=true) (h:afe ops 64 i k=true):L k=true:=by
 have h:afe ops (63+1) i k=true:=h
 generalize (63:Nat)=n at h
 simp only [afe,ho] at h
 rw [List.any_eq_true] at h
 obtain ⟨q,hq,h⟩:=h
 rw [Bool.or_eq_true,beq_iff_eq] at h
 rcases h with rfl | h
 exact hed _ hq
 exact agJ hcl n q k h (hed _ hq)
theorem apC {id m:Nat} {pl:List Nat} {A:AS} {Q:Exit→AS→Prop} (hm:P.follows .mixedOrders=true) (hc:akj ops m tb zs pl=true) (hal:awf N ops zs=true) (hpl:avQ ops m pl=true)
 (h:DWx P N ops tb zs pl A (fun B=> ∃ B',AEq B B'∧WL P N ops (ops.toList.drop m) B' (Q .normal))):T P N (.region id ops true) A Q:=by
 unfold avQ at hpl
 simp only [Bool.and_eq_true,List.all_eq_true] at hpl
 obtain ⟨⟨⟨⟨⟨p1,p2⟩,p3⟩,p4⟩,p5⟩,p6⟩:=hpl
 have hml:=Nat.le_of_ble_eq_true p4
 have hpm:∀ i,i∈pl↔i < m:=fun i=>⟨fun hi=>Nat.lt_of_succ_le (Nat.le_of_ble_eq_true (p1 i hi)),fun hi=>by have:=p3 i (List.mem_range.2 hi); simpa using this⟩
 have hnd:pl.Nodup:=by
  have:∀ l:List Nat,ndk l=true→l.Nodup:=by
   intro l
   induction l with
   | nil=>intro _; exact List.nodup_nil
   | cons a l ih=>
     intro h
     simp only [ndk,Bool.and_eq_true,Bool.not_eq_true',List.contains_eq_mem,decide_eq_false_iff_not] at h
     exact List.nodup_cons.2 ⟨h.1,ih h.2⟩
  exact this pl p2
 have hedge:∀ i o,ops[i]? =some o→∀ k,k∈edg o→k < i:=fun i o ho k hk=>by
  have hmz:(o,i)∈ops.toList.zipIdx:=by rw [List.mk_mem_zipIdx_iff_getElem?]; simpa using ho
  have:=p5 (o,i) hmz
  simp only [List.all_eq_true] at this
  exact Nat.lt_of_succ_le (Nat.le_of_ble_eq_true (this k hk))
 have htl:∀ i o,ops[i]? =some o→m≤i→∀ k,k < i→afe ops 64 i k=true:=fun i o ho hi k hk=>by
  have hin:i < ops.size:=(Array.getElem?_eq_some_iff.1 ho).1
  have:=p6 (i - m) (List.mem_range.2 (by omega))
  rw [show m+(i - m)=i from by omega,ho] at this
  simp only [List.all_eq_true] at this
  simpa using this k (List.mem_range.2 hk)
 let Kt:AS→Prop:=fun B=> ∃ B',AEq B B'∧WL P N ops (ops.toList.drop m) B' (Q .normal)
 have hKt:∀ A B,AEq A B→Kt A→Kt B:=fun A B hAB ⟨B',h1,h2⟩=>⟨B',hAB.symm.trans h1,h2⟩
 intro Pb Kb a w F hs
 refine wp_region_any hm ?_
 have hs0:SIM N Pb Kb A a { w with drawn:=w.drawn+1 } F:=hs.grow (fun _ _=>rfl) (Nat.le_refl _) (fun _ h=>h) (fun g h=>.inl h) hs.sub
 obtain ⟨w0,hw0⟩:∃ w0:World,w0={ w with drawn:=w.drawn+1 }:=⟨_,rfl⟩
 have hk0:Keep Kb w w0:=by rw [hw0]; exact ⟨rfl,rfl,rfl,Nat.le_refl _,fun _ _=>rfl⟩
 rw [← hw0] at hs0 ⊢
 let rem (listed:Array Bool):List Nat:=pl.filter fun j=>!listed.getD j true
 let Ph (listed:Array Bool) (A':AS):Prop:=
  (rem listed≠[]∧DWx P N ops tb zs (rem listed) A' Kt)∨
  (∃ k,m≤k∧k≤ops.size∧(∀ j,j < ops.size→listed.getD j true=decide (j < k))∧WL P N ops (ops.toList.drop k) A' (Q .normal))
 have key:∀ fuel (listed:Array Bool) a w',listed.size=ops.size→unl listed ops.size=fuel→
  (∀ k o,ops[k]? =some o→listed.getD k true=true→∀ j,j∈edg o→listed.getD j true=true)→Nx N Pb Kb w0 (Ph listed) a w'→
  wpAny P .any ops (fun e a' w'=>Nx N Pb Kb w (Q e) a' w') fuel listed a w':=by
  intro fuel
  induction fuel with
  | zero=>
    intro listed a w' hsz hu hcl hn
    have hall:=arW hu
    refine ⟨?_,(Nx.step (fun _ h=>h) (fun _ h=>h) (fun _ h=>.inl h) hk0 hn).mono fun A' hA'=>?_⟩
    rw [List.eq_nil_iff_forall_not_mem]
    intro j hj
    rw [mem_ready] at hj
    obtain ⟨h0,o,ho,_⟩:=hj
    have:=hall j (Array.getElem?_eq_some_iff.1 ho).1
    rw [h0] at this; cases this
    rcases hA' with ⟨hne,_⟩ | ⟨k,hk1,hk2,hk3,hw⟩
    exfalso
    apply hne
    rw [List.filter_eq_nil_iff]
    intro j hj
    rw [hall j (by have:=(hpm j).1 hj; omega)]; simp
    have:k=ops.size:=by
     rcases Nat.lt_or_ge k ops.size with h | h
     have:=hk3 k h; rw [hall k h] at this; simp at this
     omega
    subst this
    rw [List.drop_eq_nil_of_le (by simp)] at hw
    exact hw
  | succ fuel ih=>
    intro listed a w' hsz hu hcl hn
    have hlt':∀ j,j < ops.size→listed.getD j false=listed.getD j true:=fun j hj=>by
     have hj':j < listed.size:=by omega
     simp [Array.getD,hj']
    constructor
    intro hr
    exfalso
    have hex:∃ j,j < ops.size∧listed.getD j true=false:=by
     refine Classical.byContradiction fun hne=>?_
     have:unl listed ops.size=0:=by
      unfold unl
      rw [List.filter_eq_nil_iff.2]
      rfl
      intro j hj
      simp only [List.mem_range] at hj
      cases hb:listed.getD j true with
      | true=>simp
      | false=>exact absurd ⟨j,hj,hb⟩ hne
     omega
    have hmin:∀ n,∀ j,j≤n→j < ops.size→listed.getD j true=false→∃ j',j' < ops.size∧listed.getD j' true=false∧∀ i,i < j'→listed.getD i true=true:=by
     intro n
     induction n with
     | zero=>intro j hj h1 h2; exact ⟨j,h1,h2,fun i hi=>by omega⟩
     | succ n ihn=>
       intro j hj h1 h2
       by_cases hsm:∃ i,i < j∧listed.getD i true=false
       obtain ⟨i,hi,hf⟩:=hsm; exact ihn i (by omega) (by omega) hf
       exact ⟨j,h1,h2,fun i hi=>by
        cases hb:listed.getD i true with
        | true=>rfl
        | false=>exact absurd ⟨i,hi,hb⟩ hsm⟩
    obtain ⟨j,hj1,hj2⟩:=hex
    obtain ⟨j',h1,h2,h3⟩:=hmin j j (Nat.le_refl _) hj1 hj2
    have ho:ops[j']? =some ops[j']:=by simp [h1]
    have:j'∈Region.ready .any ops listed:=by
     rw [mem_ready]
     refine ⟨h2,_,ho,fun e he hb=>?_⟩
     have hlt:=hedge j' _ ho e.on (by simp only [edg,List.mem_map,List.mem_filter]; exact ⟨e,⟨by simpa using he,hb⟩,rfl⟩)
     rw [hlt' _ (by omega)]; exact h3 _ hlt
    rw [hr] at this; cases this
    intro i hi
    rw [mem_ready] at hi
    obtain ⟨hi0,o,ho,hed⟩:=hi
    have hin:i < ops.size:=(Array.getElem?_eq_some_iff.1 ho).1
    have hed':∀ k,k∈edg o→listed.getD k true=true:=fun k hk=>by
     have hlt:=hedge i o ho k hk
     simp only [edg,List.mem_map,List.mem_filter] at hk
     obtain ⟨e,⟨he,hb⟩,rfl⟩:=hk
     rw [← hlt' _ (by omega)]
     exact hed e (by simpa using he) hb
    have hset:∀ k,k < ops.size→(listed.setIfInBounds i true).getD k true=(if k=i then true else listed.getD k true):=fun k hk=>by
     by_cases e:k=i
     subst e; simp [Array.getD,hsz,hin]
     rw [if_neg e]; exact getD_set_ne true (Ne.symm e)
    have hcl':∀ k o,ops[k]? =some o→(listed.setIfInBounds i true).getD k true=true→∀ j,j∈edg o→(listed.setIfInBounds i true).getD j true=true:=fun k o' ho' hk j hj=>by
     have hkn:=(Array.getElem?_eq_some_iff.1 ho').1
     have hjk:=hedge k o' ho' j hj
     rw [hset k hkn] at hk
     rw [hset j (by omega)]
     split
     rfl
     split at hk
     rename_i e; subst e; rw [ho] at ho'; obtain rfl:=Option.some.inj ho'; exact hed' j hj
     exact hcl k o' ho' hk j hj
    have hun':unl (listed.setIfInBounds i true) ops.size=fuel:=by have:=ave hin hsz hi0; omega
    have goOn:∀ a'' w'',Nx N Pb Kb w0 (Ph (listed.setIfInBounds i true)) a'' w''→wpAny P .any ops (fun e a' w'=>Nx N Pb Kb w (Q e) a' w') fuel (listed.setIfInBounds i true) a'' w'':=
     fun a'' w'' hn'=>ih _ a'' w'' (by simpa using hsz) hun' hcl' hn'
    obtain ⟨A',Pb',Kb',F',hA',h2,h3,h4,h5,h6⟩:=hn
    rcases hA' with ⟨hne,hD⟩ | ⟨k,hk1,hk2,hk3,hw⟩
    ·
     obtain ⟨j0,hj0⟩:=List.exists_mem_of_ne_nil _ hne
     obtain ⟨hj1,hj2⟩:=List.mem_filter.1 hj0
     have hj0m:=(hpm j0).1 hj1
     have hf0:listed.getD j0 true=false:=by simpa using hj2
     have him:i < m:=by
      rcases Nat.lt_or_ge i m with h | h
      exact h
      have:=atn hcl ho hed' (htl i o ho h j0 (by omega)); rw [hf0] at this; cases this
     have hir:i∈rem listed:=List.mem_filter.2 ⟨(hpm i).2 him,by rw [hi0]; rfl⟩
     obtain ⟨l1,l2,hl⟩:=List.append_of_mem hir
     have hrnd:(rem listed).Nodup:=hnd.filter _
     have hrem':rem (listed.setIfInBounds i true)=l1++l2:=by
      have e1:rem (listed.setIfInBounds i true)=(rem listed).filter fun j=>j != i:=by
       show pl.filter _=(pl.filter _).filter _
       rw [List.filter_filter]
       apply List.filter_congr
       intro j hj
       rw [hset j (by have:=(hpm j).1 hj; omega)]
       by_cases e:j=i
       subst e; simp
       simp [e]
      rw [e1,hl]
      rw [hl] at hrnd
      rw [List.nodup_append] at hrnd
      obtain ⟨n1,n2,n3⟩:=hrnd
      rw [List.filter_append,List.filter_cons]
      simp only [bne_self_eq_false,Bool.false_eq_true,if_false]
      have f1:l1.filter (fun j=>j != i)=l1:=List.filter_eq_self.2 fun j hj=>by
       have:=n3 j hj i (by simp); simpa using this
      have f2:l2.filter (fun j=>j != i)=l2:=List.filter_eq_self.2 fun j hj=>by
       have:=(List.nodup_cons.1 n2).1
       simp only [bne_iff_ne,ne_eq]
       rintro rfl; exact this hj
      rw [f1,f2]
     have hind:∀ p,p∈l1→(lk p zs=none∧indep ops tb zs p i=true)∨ajQ ops tb zs p i=true:=fun p hp=>by
      rcases avl (ajI _ hc) hl hp with h | h
      exact h
      exfalso
      have hpr:p∈rem listed:=by rw [hl]; simp [hp]
      have hp0:listed.getD p true=false:=by have:=(List.mem_filter.1 hpr).2; simpa using this
      have hanc:∀ (n j:Nat),afe ops n i j=true→listed.getD j true=true:=by
       intro n j hj
       cases n with
       | zero=>simp [afe] at hj
       | succ n=>
         simp only [afe,ho] at hj
         rw [List.any_eq_true] at hj
         obtain ⟨q,hq,hj⟩:=hj
         have hql:=hed' q hq
         rw [Bool.or_eq_true,beq_iff_eq] at hj
         rcases hj with rfl | hj
         exact hql
         exact agJ (L:=fun k=>listed.getD k true) hcl n q j hj hql
      have:=hanc 64 p h
      rw [hp0] at this; cases this
     rw [hl] at hD
     obtain ⟨o',ho',hD⟩:=asf hKt l1 hind hD
     rw [ho] at ho'
     obtain rfl:=Option.some.inj ho'
     have hph:∀ B Pb2 Kb2 a2 w2 F2,DWx P N ops tb zs (l1++l2) B Kt→SIM N Pb2 Kb2 B a2 w2 F2→∃ B' F3,Ph (listed.setIfInBounds i true) B'∧SIM N Pb2 Kb2 B' a2 w2 F3:=fun B Pb2 Kb2 a2 w2 F2 hB hsB=>by
      by_cases hleft:rem (listed.setIfInBounds i true)=[]
      rw [← hrem',hleft] at hB
      obtain ⟨B',e1,e2⟩:=hB
      obtain ⟨F3,hs3,_⟩:=hsB.le e1.symm.le
      refine ⟨B',F3,.inr ⟨m,Nat.le_refl _,hml,fun j hj=>?_,e2⟩,hs3⟩
      rcases Nat.lt_or_ge j m with h | h
      have:j ∉ rem (listed.setIfInBounds i true):=by rw [hleft]; simp
      have: ¬ ((!(listed.setIfInBounds i true).getD j true)=true):=fun c=>this (List.mem_filter.2 ⟨(hpm j).2 h,c⟩)
      simp only [Bool.not_eq_true',Bool.not_eq_false] at this
      rw [this]; simp [h]
      have hoj:ops[j]? =some ops[j]:=by simp [hj]
      rw [hset j hj,if_neg (by omega)]
      cases hb:listed.getD j true with
      | false=>simp; omega
      | true=>
        have:=agJ hcl 64 j j0 (htl j _ hoj h j0 (by omega)) hb
        rw [hf0] at this; cases this
      exact ⟨B,F2,.inl ⟨hleft,by rw [hrem']; exact hB⟩,hsB⟩
     unfold Go.wpOp
     simp only [ho]
     split at hD
     rename_i z hz
     unfold awf at hal
     rw [List.all_eq_true] at hal
     have hz2:=hal _ (auQ hz)
     simp only [ho] at hz2
     rw [Bool.and_eq_true] at hz2
     obtain ⟨hz2,hz3⟩:=hz2
     split at hz2
     rename_i T d hop hdst
     simp only [Bool.and_eq_true,beq_iff_eq] at hz2
     have hwn:Region.wanted o (yielded ops a.tmps)=true:=by unfold Region.wanted; rw [show o.guard=none from by simpa using hz3]
     rw [if_pos hwn]
     rw [hdst] at hD
     refine .inl (Oper.wp_mono ?_ (alM (K:=fun B=>DWx P N ops tb zs (l1++l2) B Kt) hop hdst (Nat.lt_of_succ_le (Nat.le_of_ble_eq_true hz2.2)) (by rw [hz2.1]; exact z.ok) hD Pb' Kb' a w' F' _ h2))
     rintro a2 w2 ⟨B,Pb2,Kb2,F2,k1,k2,k3,k4,k5,k6⟩
     obtain ⟨B',F3,hp,hs3⟩:=hph B Pb2 Kb2 a2 w2 F2 k1 k2
     exact goOn a2 w2 (Nx.step h3 h4 h5 h6 ⟨B',Pb2,Kb2,F3,hp,hs3,k3,k4,k5,k6⟩)
     simp at hz2
     split at hD
     obtain ⟨_,_,v,hv,hD⟩:=hD
     rcases ajc (hv A' (fun _ _=>rfl) (aoq rfl _)) h2 with ⟨hwn,hop⟩ | ⟨hwn,hd,hvd⟩
     rw [if_pos hwn]
     refine .inl (Oper.wp_mono ?_ (hop Pb' Kb' a w' F' _ h2))
     rintro a2 w2 ⟨B,Pb2,Kb2,F2,k1,k2,k3,k4,k5,k6⟩
     obtain ⟨B',F3,hp,hs3⟩:=hph B Pb2 Kb2 a2 w2 F2 (acI hKt _ k1.symm hD) k2
     exact goOn a2 w2 (Nx.step h3 h4 h5 h6 ⟨B',Pb2,Kb2,F3,hp,hs3,k3,k4,k5,k6⟩)
     rw [if_neg (by simp [hwn])]
     obtain ⟨F2,hs2⟩:=h2.akV (d:=o.dst) (v:=v) (x:=undef) hd (hvd w' Pb')
     obtain ⟨B',F3,hp,hs3⟩:=hph _ Pb' Kb' _ w' F2 hD hs2
     exact goOn _ w' ⟨B',Pb',Kb',F3,hp,hs3,h3,h4,h5,h6⟩
     obtain ⟨G,U,hE,_,hD⟩:=hD
     have hwn:Region.wanted o (yielded ops a.tmps)=true:=by unfold Region.wanted; rw [hE.1]
     rw [if_pos hwn]
     refine .inl (Oper.wp_mono ?_ (hE.2 A' (fun _ _=>rfl) (aoq rfl _) Pb' Kb' a w' F' _ h2))
     rintro a2 w2 ⟨B,Pb2,Kb2,F2,⟨g,k1⟩,k2,k3,k4,k5,k6⟩
     obtain ⟨B',F3,hp,hs3⟩:=hph B Pb2 Kb2 a2 w2 F2 (acI hKt _ k1.symm (hD g)) k2
     exact goOn a2 w2 (Nx.step h3 h4 h5 h6 ⟨B',Pb2,Kb2,F3,hp,hs3,k3,k4,k5,k6⟩)
    ·
     have hik:i=k:=by
      rw [hk3 i hin] at hi0
      simp only [decide_eq_false_iff_not] at hi0
      rcases Nat.lt_or_ge k i with h | h
      have:=atn hcl ho hed' (htl i o ho (by omega) k h)
      rw [hk3 k (by omega)] at this; simp at this
      omega
     subst hik
     have hdrop:ops.toList.drop i=o :: ops.toList.drop (i+1):=by
      rw [List.drop_eq_getElem_cons (by simpa using hin)]
      have:ops[i]=o:=by have:=Array.getElem?_eq_some_iff.1 ho; exact this.2
      simp [this]
     rw [hdrop] at hw
     have hph:∀ B,WL P N ops (ops.toList.drop (i+1)) B (Q .normal)→Ph (listed.setIfInBounds i true) B:=fun B hB=>
      .inr ⟨i+1,by omega,by omega,fun j hj=>by
       rw [hset j hj]
       split
       rename_i e; subst e; simp
       rename_i e; rw [hk3 j hj]
       have:(j < i)↔(j < i+1):=by omega
       simp [this],hB⟩
     unfold Go.wpOp
     simp only [ho]
     rcases ajc hw h2 with ⟨hwn,hop⟩ | ⟨hwn,hd,u,hu,hw'⟩
     rw [if_pos hwn]
     refine .inl (Oper.wp_mono ?_ (hop Pb' Kb' a w' F' _ h2))
     intro a2 w2 hn2
     exact goOn a2 w2 (Nx.step h3 h4 h5 h6 (hn2.mono hph))
     rw [if_neg (by simp [hwn])]
     obtain ⟨F2,hs2⟩:=h2.akV (d:=o.dst) (v:=u) (x:=undef) hd (hu w' Pb')
     exact goOn _ w' ⟨_,Pb',Kb',F2,hph _ hw',hs2,h3,h4,h5,h6⟩
 have hrep:∀ k,k < ops.size→(Array.replicate ops.size false).getD k true=false:=fun k hk=>by simp [Array.getD,hk]
 have hrem0:rem (Array.replicate ops.size false)=pl:=List.filter_eq_self.2 fun j hj=>by rw [hrep j (by have:=(hpm j).1 hj; omega)]; rfl
 have hst:∃ A1 F1,Ph (Array.replicate ops.size false) A1∧SIM N Pb Kb A1 a w0 F1:=by
  by_cases hp:pl=[]
  subst hp
  obtain ⟨B',e1,e2⟩:=h
  obtain ⟨F3,hs3,_⟩:=hs0.le e1.symm.le
  have hm0:m=0:=by
   rcases Nat.eq_zero_or_pos m with h | h
   exact h
   have:=(hpm 0).2 h; simp at this
  exact ⟨B',F3,.inr ⟨m,Nat.le_refl _,hml,fun j hj=>by rw [hrep j hj,hm0]; simp,e2⟩,hs3⟩
  exact ⟨A,F,.inl ⟨by rw [hrem0]; exact hp,by rw [hrem0]; exact h⟩,hs0⟩
 obtain ⟨A1,F1,hP1,hs1⟩:=hst
 exact key ops.size (Array.replicate ops.size false) a w0 (by simp) (by
  unfold unl
  rw [List.filter_eq_self.2]
  simp
  intro j hj; simp only [List.mem_range] at hj; rw [hrep j hj]; rfl)
  (fun k o ho hk=>by rw [hrep k (Array.getElem?_eq_some_iff.1 ho).1] at hk; cases hk) ⟨A1,Pb,Kb,F1,hP1,hs1,fun _ h=>h,fun _ h=>h,fun _ h=>.inl h,Keep.refl _ _⟩
end
end Go.Abs
namespace Go.Abs
open Go Go.RowKit
section
variable {P:Program} {N:Nat} {ops:Array Oper} {A A':AS}
theorem aDg {w:World} {Pb:Nat→Prop} {v:V} {x:Value} {F:List Nat} (h:RV0 w Pb v x F):RV w Pb v x F:=by
 cases v with
 | gv b u=>simp [RV0,R] at h
 | _=>exact h
def V.adH:V→Bool | .gv _ _=>true | _=>false
theorem aoU {w:World} {Pb:Nat→Prop} {v:V} {x:Value} {F:List Nat} (h:RV w Pb v x F) (hn:v.adH=false):RV0 w Pb v x F:=by
 cases v with
 | gv b u=>simp [V.adH] at hn
 | _=>exact h
theorem akY {a:Act} {t:Nat}:a.put (some t) (a.tmps.getD t undef)=a:=by
 cases a with
 | mk tmps defers=>
   simp only [Act.put]
   congr 1
   apply Array.ext_getElem?
   intro i
   by_cases e:t=i
   subst e
   by_cases h:t < tmps.size
   simp [h,Array.getElem?_setIfInBounds_self]
   simp [h,Array.getElem?_setIfInBounds]
   rw [Array.getElem?_setIfInBounds_ne e]
def akc (G b:Bool) (v:V):Prop:=match v.abt||v.adH with
 | false=>G=true→b=true
 | true=>False
theorem aqR {G b:Bool} {v:V} (h:akc G b v) (hG:G=true):b=true∧v.abt=false∧v.adH=false:=by
 unfold akc at h
 split at h
 rename_i e; rw [Bool.or_eq_false_iff] at e; exact ⟨h hG,e.1,e.2⟩
 exact h.elim
def AS.un (G:Bool):List Operand→AS→Prop×AS
 | [],A=>(True,A)
 | .tmp t :: r,A=>match A.get t with
   | .gv b v=>match AS.un G r (A.put (some t) v) with
     | (C,B)=>(akc G b v∧C,B)
   | _=>AS.un G r A
 | _ :: r,A=>AS.un G r A
theorem afl {w:World} {Pb Kb:Nat→Prop} {a:Act} {G:Bool} (hG:G=true):∀ (xs:List Operand) {A B:AS} {F:Root→List Nat} {C:Prop},AS.un G xs A=(C,B)→C→SIM N Pb Kb A a w F→(∀ t,Operand.tmp t∈xs→t < N)→∃ F',SIM N Pb Kb B a w F'
 | [],A,B,F,C,h,hC,hs,_=>by simp only [AS.un,Prod.mk.injEq] at h; obtain ⟨_,rfl⟩:=h; exact ⟨F,hs⟩
 | x :: xs,A,B,F,C,h,hC,hs,hN=>by
   have hN':∀ t,Operand.tmp t∈xs→t < N:=fun t ht=>hN t (by simp [ht])
   cases x with
   | tmp t=>
     simp only [AS.un] at h
     split at h
     rename_i b v hg
     cases hu:AS.un G xs (A.put (some t) v) with
     | mk C1 B1=>
       rw [hu] at h
       simp only [Prod.mk.injEq] at h
       obtain ⟨rfl,rfl⟩:=h
       have hr:=hs.slot t
       rw [hg] at hr
       have hs':=hs.put (d:=t) (v:=v) (x:=a.tmps.getD t undef) (F':=[]) (hN t (by simp)) (aDg (hr.2.1 (aqR hC.1 hG).1)) (by simp) (by simp) (by simp)
       rw [akY] at hs'
       exact afl hG xs hu hC.2 hs' hN'
     exact afl hG xs h hC hs hN'
   | _=>exact afl hG xs h hC hs hN'
def aAy (A B:AS):Prop:=(∀ i,A.get i=B.get i∨∃ b,A.get i=.gv b (B.get i)∧b=true∧(B.get i).abt=false∧(B.get i).adH=false)∧A.h=B.h
theorem SIM.wrap {w:World} {Pb Kb:Nat→Prop} {a:Act} {F:Root→List Nat} {B:AS} (hs:SIM N Pb Kb B a w F) (h:aAy A B):SIM N Pb Kb A a w F where
 size:=hs.size
 defers:=hs.defers
 slot:=fun i=>by
  rcases h.1 i with e | ⟨b,e,hb,ho,hg⟩
  rw [e]; exact hs.slot i
  have hr:=hs.slot i
  rw [e]
  have hF:=apz ho hr
  rw [hF] at hr ⊢
  exact ⟨rfl,fun _=>aoU hr hg,fun c=>by rw [hb] at c; cases c⟩
 root:=fun k g v hk=>hs.root k g v (by rw [← h.2]; exact hk)
 aaW:=hs.aaW
 nodup:=hs.nodup
 free:=hs.free
 sub:=hs.sub
 bound:=hs.bound
theorem aiQ {G:Bool} (hG:G=true):∀ (xs:List Operand) {A B:AS} {C:Prop},AS.un G xs A=(C,B)→C→aAy A B
 | [],A,B,C,h,hC=>by simp only [AS.un,Prod.mk.injEq] at h; obtain ⟨_,rfl⟩:=h; exact ⟨fun _=>.inl rfl,rfl⟩
 | x :: xs,A,B,C,h,hC=>by
   cases x with
   | tmp t=>
     simp only [AS.un] at h
     split at h
     rename_i b v hg
     cases hu:AS.un G xs (A.put (some t) v) with
     | mk C1 B1=>
       rw [hu] at h
       simp only [Prod.mk.injEq] at h
       obtain ⟨rfl,rfl⟩:=h
       obtain ⟨k1,k2⟩:=aiQ hG xs hu hC.2
       obtain ⟨hb,ho,hv⟩:=aqR hC.1 hG
       refine ⟨fun i=>?_,k2⟩
       have:=k1 i
       rw [AS.aaq] at this
       by_cases e:i=t
       subst e
       rw [if_pos rfl] at this
       rcases this with e' | ⟨b',e',_⟩
       exact .inr ⟨b,by rw [hg,← e'],hb,by rw [← e']; exact ho,by rw [← e']; exact hv⟩
       rw [e'] at hv; simp [V.adH] at hv
       rw [if_neg e] at this; exact this
     exact aiQ hG xs h hC
   | _=>exact aiQ hG xs h hC
def gdV (A:AS) (ops:Array Oper) (j:Nat) (b:Bool):Option Bool:=
 match ((ops[j]?).bind (·.dst)).map A.get with
 | some (.lit (.bool g))=>some (g==b)
 | some (.gv c (.lit (.bool g)))=>some (c&&(g==b))
 | _=>none
theorem ajC {A:AS} {o:Oper} {j:Nat} {b G:Bool} {x y:Prop} (hg:o.guard=some (j,b)) (h:gdV A ops j b=some G) (hx:G=true→x) (hy:G=false→y):gd ops o A x y:=by
 unfold gdV at h
 unfold gd
 rw [hg]
 simp only
 split at h
 rename_i g e
 try rw [e]
 simp only [Option.some.injEq] at h ⊢
 subst h
 split
 rename_i e'; exact hx (by simp [e'])
 rename_i e'; exact hy (by simp [e'])
 rename_i c g e
 try rw [e]
 simp only [Option.some.injEq] at h ⊢
 subst h
 split
 rename_i e'; exact hx e'
 rename_i e'; exact hy (by simpa using e')
 simp at h
def okT (N:Nat):List Operand→Bool
 | []=>true
 | .tmp t :: r=>decide (t < N)&&okT N r
 | _ :: r=>okT N r
theorem aiZ:∀ {xs:List Operand},okT N xs=true→∀ t,Operand.tmp t∈xs→t < N
 | [],_,t,ht=>by simp at ht
 | x :: xs,h,t,ht=>by
   cases x with
   | tmp t'=>
     simp only [okT,Bool.and_eq_true,decide_eq_true_eq] at h
     simp only [List.mem_cons] at ht
     rcases ht with e | ht
     injection e with e; subst e; exact h.1
     exact aiZ h.2 t ht
   | _=>
     simp only [List.mem_cons,reduceCtorEq,false_or] at ht
     exact aiZ (xs:=xs) (by simpa [okT] using h) t ht
theorem azI {o:Oper} {l:List Oper} {K:AS→Prop} {j:Nat} {b G:Bool} {C C':Prop} {B:AS} {v:V} {xs:List Operand} (hg:o.guard=some (j,b)) (hG:gdV A ops j b=some G) (hu:AS.un G xs A=(C,B))
 (hst:stX P B o.op=some (C',v)) (hok:okT N xs=true) (hd:aaT N o.dst) (hC:G=true→C∧C'∧v.adH=false)
 (hK:WL P N ops l (A.put o.dst (.gv G v)) K):WL P N ops (o :: l) A K:=by
 refine ajC hg hG (fun hGt=>?_) (fun hGf=>?_)
 obtain ⟨h1,h2,h3⟩:=hC hGt
 refine aew (v:=.gv G v) hd hK fun Pb Kb a w F hs=>?_
 obtain ⟨F',hs'⟩:=afl hGt _ hu h1 hs (aiZ hok)
 obtain ⟨x,hx,hr⟩:=amO hst h2 hs' rfl
 exact ⟨x,hx,rfl,fun _=>aoU hr h3,fun h=>by rw [hGt] at h; cases h⟩
 exact ⟨hd,.gv G v,fun _ _=>⟨rfl,(fun h=>by rw [hGf] at h; cases h),fun _=>rfl⟩,hK⟩
theorem aax {x:Operand} (h:∀ t,x=.tmp t→A'.get t=A.get t):A'.ev x=A.ev x:=by
 cases x with
 | tmp t=>exact h t rfl
 | _=>rfl
theorem aej {x:Operand} (h:∀ t,x=.tmp t→A'.get t=A.get t):A'.cp x=A.cp x:=by
 cases x with
 | tmp t=>simp only [AS.cp,h t rfl]
 | _=>rfl
def aeE (ops:Array Oper) (A:AS):Op→Bool
 | .load _ x=>match A.ev x with
   | .ptr (.slot i) _ _ _=>ops.toList.all fun o=>o.dst != some i
   | _=>true
 | _=>true
theorem aik {x:Option Operand} (h:∀ t,x=some (.tmp t)→A'.get t=A.get t):x.map A'.ev=x.map A.ev:=by
 cases x with
 | none=>rfl
 | some y=>simp only [Option.map_some,aax (x:=y) fun t e=>h t (by rw [e])]
theorem aqx {op:Op} (h:∀ t,Operand.tmp t∈op.operands.toList→A'.get t=A.get t) (hk:∀ k,lk k A'.h=lk k A.h) (hr:∀ i,aeE ops A op=true→(∀ o∈ops.toList,o.dst≠some i)→A'.get i=A.get i)
 (hf:aeE ops A op=true):stX P A' op=stX P A op:=by
 cases op with
 | move x=>simp only [stX,stV,ary,aej (x:=x) fun t e=>h t (by simp [Op.operands,e]),aax (x:=x) fun t e=>h t (by simp [Op.operands,e])]
 | pick c a b=>
   have h1:=aax (x:=c) fun t e=>h t (by simp [Op.operands,e])
   have h2:=aax (x:=a) fun t e=>h t (by simp [Op.operands,e])
   have h3:=aax (x:=b) fun t e=>h t (by simp [Op.operands,e])
   simp only [stX,stV,aro,h1,h2,h3]
 | binOp op T x y T'=>simp only [stX,stV,aax (x:=x) fun t e=>h t (by simp [Op.operands,e]),aax (x:=y) fun t e=>h t (by simp [Op.operands,e])]
 | unOp op T x=>simp only [stX,stV,aax (x:=x) fun t e=>h t (by simp [Op.operands,e])]
 | convert s d x=>simp only [stX,stV,aax (x:=x) fun t e=>h t (by simp [Op.operands,e])]
 | index T x y=>simp only [stX,stV,aax (x:=x) fun t e=>h t (by simp [Op.operands,e]),aax (x:=y) fun t e=>h t (by simp [Op.operands,e])]
 | slice T x lo hi m=>
   have h1:=aax (x:=x) fun t e=>h t (by simp [Op.operands,e])
   have h2:=aik (x:=lo) fun t e=>h t (by simp [Op.operands,e])
   have h3:=aik (x:=hi) fun t e=>h t (by simp [Op.operands,e])
   cases m with
   | none=>simp only [stX,h1,h2,h3]
   | some m=>rfl
 | extract x i=>simp only [stX,stV,aax (x:=x) fun t e=>h t (by simp [Op.operands,e])]
 | call c=>
   simp only [stX,stV,aoR]
   split
   split
   rename_i x T hx _
   rw [aax (x:=x) fun t e=>h t (by simp [Op.operands,Call.operands,hx,e])]
   rfl
   rfl
 | fieldAddr T x j=>simp only [stX,aax (x:=x) fun t e=>h t (by simp [Op.operands,e])]
 | field T x j=>simp only [stX,aej (x:=x) fun t e=>h t (by simp [Op.operands,e])]
 | indexAddr T x y=>simp only [stX,aax (x:=x) fun t e=>h t (by simp [Op.operands,e]),aax (x:=y) fun t e=>h t (by simp [Op.operands,e])]
 | load T x=>
   have h1:=aax (x:=x) fun t e=>h t (by simp [Op.operands,e])
   simp only [stX,h1,ajs]
   split
   split
   rename_i r p g o e
   have:A'.at r p=A.at r p:=by
    unfold AS.at
    cases r with
    | key k=>simp only [hk]
    | slot i=>
      have hf':=hf
      simp only [aeE,e,List.all_eq_true,bne_iff_ne] at hf'
      simp only [hr i hf hf']
   rw [this]
   rfl
   rfl
   rfl
 | nilCheck x=>simp only [stX,aax (x:=x) fun t e=>h t (by simp [Op.operands,e])]
 | makeInterface T x=>simp only [stX,aej (x:=x) fun t e=>h t (by simp [Op.operands,e])]
 | typeAssert x xT T b=>
   cases b with
   | true=>simp only [stX,aax (x:=x) fun t e=>h t (by simp [Op.operands,e])]
   | false=>rfl
 | makeFunc fn p q=>
   have e1:p.toList.map A'.ev=p.toList.map A.ev:=List.map_congr_left fun x hx=>aax fun t e=>h t (by subst e; simp only [Op.operands,Array.toList_append,List.mem_append]; exact .inl hx)
   have e2:q.toList.map A'.ev=q.toList.map A.ev:=List.map_congr_left fun x hx=>aax fun t e=>h t (by subst e; simp only [Op.operands,Array.toList_append,List.mem_append]; exact .inr hx)
   simp only [stX,e1,e2]
 | _=>rfl
theorem afk {G:Bool}:∀ (xs:List Operand) {A A' B:AS} {C:Prop},AS.un G xs A=(C,B)→(∀ t,Operand.tmp t∈xs→A'.get t=A.get t)→
 ∃ B',AS.un G xs A'=(C,B')∧(∀ t,A'.get t=A.get t→B'.get t=B.get t)∧B'.h=A'.h∧B.h=A.h
 | [],A,A',B,C,h,_=>by
   simp only [AS.un,Prod.mk.injEq] at h; obtain ⟨rfl,rfl⟩:=h
   exact ⟨A',rfl,fun _ h=>h,rfl,rfl⟩
 | x :: xs,A,A',B,C,h,hx=>by
   have hx':∀ t,Operand.tmp t∈xs→A'.get t=A.get t:=fun t ht=>hx t (by simp [ht])
   cases x with
   | tmp t=>
     have ht:=hx t (by simp)
     simp only [AS.un] at h ⊢
     rw [ht]
     split at h
     rename_i b v hg
     cases hu:AS.un G xs (A.put (some t) v) with
     | mk C1 B1=>
       rw [hu] at h
       simp only [Prod.mk.injEq] at h
       obtain ⟨rfl,rfl⟩:=h
       obtain ⟨B',k1,k2,k3,k4⟩:=afk xs (A':=A'.put (some t) v) hu (fun t' ht'=>by
        rw [AS.aaq,AS.aaq]; split
        rfl
        exact hx' t' ht')
       refine ⟨B',by simp only [k1],fun t' ht'=>k2 t' ?_,by rw [k3]; rfl,by rw [k4]; rfl⟩
       rw [AS.aaq,AS.aaq]; split
       rfl
       exact ht'
     exact afk xs h hx'
   | const c=>exact afk xs h hx'
   | global g=>exact afk xs h hx'
   | func f=>exact afk xs h hx'
theorem aul {o:Oper} {xs:List Operand} {j:Nat} {b G:Bool} {C:Prop} {B:AS} {v:V} (hg:o.guard=some (j,b)) (hG:gdV A ops j b=some G) (hu:AS.un G xs A=(C,B))
 (hxs:∀ t,Operand.tmp t∈xs→Operand.tmp t∈o.op.operands.toList) (hok:okT N xs=true) (hd:aaT N o.dst) (hf:aeE ops B o.op=true) (hC:G=true→C∧v.adH=false∧∃ C',stX P B o.op=some (C',v)∧C'):amr P N ops o A (.gv G v):=by
 intro A' h1 hk
 have hlk:∀ t,Operand.tmp t∈o.op.operands.toList→t∈o.looksAt ops:=fun t ht=>by unfold Oper.looksAt; rw [List.mem_append]; exact .inl (List.mem_filterMap.2 ⟨_,ht,rfl⟩)
 have hG':gdV A' ops j b=some G:=by
  rw [← hG]
  unfold gdV
  cases hj:(ops[j]?).bind (·.dst) with
  | none=>rfl
  | some d=>
    simp only [Option.map_some]
    rw [h1 d (.inl (by unfold Oper.looksAt; rw [List.mem_append]; right; rw [hg]; simp [hj]))]
 obtain ⟨B',k1,k2,k3,k4⟩:=afk xs (A':=A') hu (fun t ht=>h1 t (.inl (hlk t (hxs t ht))))
 have hst':stX P B' o.op=stX P B o.op:=by
  rw [aqx (ops:=ops) (A:=B) (fun t ht=>k2 t (h1 t (.inl (hlk t ht)))) (fun k=>by rw [k3,k4]; exact hk k) (fun i _ hi=>k2 i (h1 i (.inr hi))) hf]
 refine ajC hg hG' (fun hGt=>?_) (fun hGf=>⟨hd,fun _ _=>⟨rfl,(fun h=>by rw [hGf] at h; cases h),fun _=>rfl⟩⟩)
 obtain ⟨c1,c3,C',hst,c2⟩:=hC hGt
 rw [← hst'] at hst
 refine aew (v:=.gv G v) hd ⟨fun _=>rfl,fun _=>rfl⟩ fun Pb Kb a w F hs=>?_
 obtain ⟨F',hs'⟩:=afl hGt _ k1 c1 hs (aiZ hok)
 obtain ⟨x,hx,hr⟩:=amO hst c2 hs' rfl
 exact ⟨x,hx,rfl,fun _=>aoU hr c3,fun h=>by rw [hGt] at h; cases h⟩
theorem aft {o:Oper} {l:List Oper} {v:V} {K:AS→Prop} (h:amr P N ops o A v) (hK:DW P N ops l (A.put o.dst v) K):DW P N ops (o :: l) A K:=by
 obtain ⟨vs,h1,h2⟩:=hK
 exact ⟨v :: vs,⟨v,vs,rfl,h,h1⟩,h2⟩
theorem aiL {K:AS→Prop} (h:K A):DW P N ops [] A K:=⟨[],rfl,h⟩
theorem aqh {o:Oper} {C:Prop} {v:V} (hg:o.guard=none) (h:stX P A o.op=some (C,v)) (hC:C) (hd:aaT N o.dst) (hf:aeE ops A o.op=true):amr P N ops o A v:=by
 intro A' h1 hk
 unfold gd
 rw [hg]
 simp only
 refine ajY (C:=C) (v:=v) ?_ hC hd ⟨fun _=>rfl,fun _=>rfl⟩
 rw [aqx (ops:=ops) (A:=A) (fun t ht=>h1 t (.inl (by unfold Oper.looksAt; rw [List.mem_append]; exact .inl (List.mem_filterMap.2 ⟨_,ht,rfl⟩)))) hk (fun i _ hi=>h1 i (.inr hi)) hf]
 exact h
theorem abJ {o:Oper} {t:Nat} (h:Operand.tmp t∈o.op.operands.toList):t∈o.looksAt ops:=by
 unfold Oper.looksAt; rw [List.mem_append]; exact .inl (List.mem_filterMap.2 ⟨_,h,rfl⟩)
theorem asL {o:Oper} {x:Operand} (hg:o.guard=none) (ho:o.op=.assign x) (hd:aaT N o.dst) (hn:(A.ev x).abt=false):amr P N ops o A (A.ev x):=by
 intro A' h1 hk
 unfold gd
 rw [hg]
 simp only
 have e:A'.ev x=A.ev x:=aax fun t ht=>h1 t (.inl (abJ (by rw [ho,ht]; simp [Op.operands])))
 refine akE ho hd ?_
 have hdr:A'.drop x=A':=by
  cases x with
  | tmp t=>
    have:A'.get t=A.get t:=e
    have hn':(A'.get t).abt=false:=by rw [this]; exact hn
    simp [AS.drop,hn']
  | _=>rfl
 rw [hdr,e]
 exact ⟨fun _=>rfl,fun _=>rfl⟩
theorem aiY {xs:List Operand} (h:∀ t,Operand.tmp t∈xs→A'.get t=A.get t):xs.map A'.cp=xs.map A.cp:=by
 apply List.map_congr_left
 intro x hx
 exact aej fun t e=>h t (by rw [← e]; exact hx)
theorem aBl {K:AS→Prop} {d:Option Nat} {f:FuncId} {xs:Array Operand} {tys:Array TypeId} {ty:TypeId} {pos:String} {after:Array Edge} {rest:List Oper}
 {Q:V→Prop} {E:V} (hd:aaT N d) (hc:PC P f (xs.toList.map A.cp) Q) (hE:∀ r,Q r→r.er=E) (hK:DW P N ops rest (A.put d E) K):
 DW P N ops (⟨d,.call { callee:=.value (.func f),args:=xs,argTypes:=tys },ty,pos,after,none⟩ :: rest) A K:=by
 refine aft (v:=E) (fun A' h1 hk=>?_) hK
 unfold gd
 refine ahL rfl hd ?_ hE ⟨fun _=>rfl,fun _=>rfl⟩
 rw [aiY fun t ht=>h1 t (.inl (abJ (by simp [Op.operands,Call.operands]; simpa using ht)))]
 exact hc
end
end Go.Abs
namespace Go.Abs
open Go Go.RowKit
section
variable {P:Program} {N:Nat} {ops:Array Oper} {A A':AS}
theorem PC.er {f:FuncId} {L:List V} {Q:V→Prop} (h:PC P f L Q):PC P f L (fun r=> ∃ r',Q r'∧r=r'.er):=by
 refine ⟨h.1,fun w Pb cargs h1 h2=>(h.2 w Pb cargs h1 h2).mono ?_⟩
 rintro e w' ⟨r,x,F,Pb',rfl,q,hr,hnd,hF,k1,k2,hb⟩
 refine ⟨r.er,x,[],fun g=>Pb' g∨g∈F,rfl,⟨r,q,rfl⟩,awd hr (fun g hg=>.inl hg) (fun g hg=>.inr hg),List.nodup_nil,by simp,fun g hg=>.inl (k1 g hg),fun g hg=>?_,hb⟩
 rcases hg with hg | hg
 exact k2 g hg
 exact .inr ⟨(hF g hg).1,(hF g hg).2.1⟩
theorem azn {K:AS→Prop} {d:Option Nat} {f:FuncId} {xs:Array Operand} {tys:Array TypeId} {ty:TypeId} {pos:String} {after:Array Edge} {rest:List Oper}
 {j:Nat} {b G:Bool} {C:Prop} {B:AS} {L:List V} {E:V} (hd:aaT N d) (hG:gdV A ops j b=some G) (hu:AS.un G xs.toList A=(C,B)) (hok:okT N xs.toList=true)
 (hL:xs.toList.map B.cp=L) (hc:G=true→C∧PC P f L (fun r=>r.er=E)∧E.adH=false∧E.abt=false) (hK:WL P N ops rest (A.put d (.gv G E)) K):
 WL P N ops (⟨d,.call { callee:=.value (.func f),args:=xs,argTypes:=tys },ty,pos,after,some (j,b)⟩ :: rest) A K:=by
 subst hL
 refine ajC (j:=j) (b:=b) rfl hG (fun hGt=>?_) (fun hGf=>⟨hd,.gv G E,fun _ _=>⟨rfl,(fun h=>by rw [hGf] at h; cases h),fun _=>rfl⟩,hK⟩)
 obtain ⟨h1,h2,h3,h4⟩:=hc hGt
 intro Pb Kb a w F Q' hs
 obtain ⟨F',hs'⟩:=afl hGt _ hu h1 hs (aiZ hok)
 have hw:=aiQ hGt _ hu h1
 have hcall:=ahL (N:=N) (o:=⟨d,.call { callee:=.value (.func f),args:=xs,argTypes:=tys },ty,pos,after,some (j,b)⟩) (K:=fun A'=>A'=B.put d E) (A:=B) rfl hd h2 (fun _ h=>h) rfl
 refine Oper.wp_mono ?_ (hcall Pb Kb a w F' Q' hs')
 rintro a' w' ⟨A',Pb',Kb',F2,rfl,hs2,k3,k4,k5,k6⟩
 refine ⟨_,Pb',Kb',F2,hK,hs2.wrap ?_,k3,k4,k5,k6⟩
 cases d with
 | none=>exact hw
 | some d=>
   refine ⟨fun i=>?_,hw.2⟩
   rw [AS.aaq,AS.aaq]
   by_cases e:i=d
   rw [if_pos e,if_pos e]; exact .inr ⟨G,rfl,hGt,h4,h3⟩
   rw [if_neg e,if_neg e]; exact hw.1 i
end
end Go.Abs
namespace Go.Abs
open Go Go.RowKit
def ayW (op:BinOp) (a b:List UInt8):Option (Prop×V):=
 match op with
 | .add=>some (a.length+b.length≤4611686018427387904,.lit (.string (Str (a++b))))
 | .eql=>some (True,.lit (.bool (a==b)))
 | .neq=>some (True,.lit (.bool (!(a==b))))
 | _=>none
def awK (op:BinOp) (d:Option D) (x y:V):Option (Prop×V):=
 match d,x,y with
 | some .str,.lit (.string a),.lit (.string b)=>ayW op a.data.toList b.data.toList
 | d,x,y=>anC op d x y
def aCt:Option D→V→V→Option (Prop×V)
 | some .str,.lit (.string s),.lit (.int _ i)=>some (0≤i∧i < s.data.toList.length,.lit (.int .u8 (s.data.toList.getD i.toNat 0).toNat))
 | _,_,_=>none
def aAF (s:List UInt8) (lo hi:Option V):Option (Prop×V):=
 match loI lo,hiI s.length hi with
 | some l,some h=>some (0≤l∧l≤h∧h≤s.length,.lit (.string (Str ((s.take h.toNat).drop l.toNat))))
 | _,_=>none
def aCV (x:V) (lo hi:Option V):Option (Prop×V):=
 match x with
 | .lit (.string s)=>aAF s.data.toList lo hi
 | _=>none
def azx:Option D→V→Option (Prop×V)
 | some .str,.lit (.string s)=>some (True,.lit (.int .i64 s.data.toList.length))
 | d,x=>asy d x
def avL (P:Program) (A:AS) (c:Call):Option (Prop×V):=
 match c.callee with
 | .builtin .len=>match c.args.toList,c.argTypes.toList with
   | [x],[T]=>azx (tD P T) (A.ev x)
   | _,_=>none
 | _=>none
def asq (P:Program) (d:Option D) (x:V) (j:Nat):Option (Prop×V):=
 match d with
 | some (.st fs)=>match fs[j]? with
   | some (off,T)=>match ti P T with
     | some i=>match x with
       | .agg vs=>match vs[j]? with
         | some v=>if (V.ns (vs.take j)==off&&(i.sz==v.n&&i.d.agg==v.isAgg))=true then some (True,v) else none
         | none=>none
       | _=>none
     | none=>none
   | none=>none
 | _=>none
def akO (P:Program) (d:Option D) (x:V) (j:Nat):Option (Prop×V):=
 match d with
 | some (.st fs)=>match fs[j]? with
   | some (off,T)=>match ti P T with
     | some i=>match x with
       | .ptr r p g o=>if (i.sz != 0)=true then some (True,.ptr r (p++[j]) g (o+off)) else none
       | .ep (.agg vs)=>match vs[j]? with
         | some v=>if (i.sz != 0&&V.ns (vs.take j)==off)=true then some (True,.ep v) else none
         | none=>none
       | _=>none
     | none=>none
   | none=>none
 | _=>none
def aAv (A:AS) (i:Option TI) (x:V) (orc:List V):Option (Prop×V×List V):=
 match i with
 | some i=>match x with
   | .ptr r p g o=>match orc with
     | []=>none
     | .dead :: orc=>match A.at r p with
       | some (g',o',v)=>if (v.n==i.sz&&i.d.agg==v.isAgg)=true then some ((g',o')=(g,o),v.cpy r p,orc) else none
       | none=>none
     | v :: orc=>if (v.n==i.sz&&i.d.agg==v.isAgg)=true then some (A.at r p=some (g,o,v),v.cpy r p,orc) else none
   | .ep v=>if (v.n==i.sz&&i.d.agg==v.isAgg)=true then some (True,v,orc) else none
   | _=>none
 | none=>none
def wO (orc:List V):Option (Prop×V)→Option (Prop×V×List V)
 | some (C,v)=>some (C,v,orc)
 | none=>none
def apd (P:Program) (d:Option D) (x i:V) (orc:List V):Option (Prop×V×List V):=
 match d,i with
 | some (.sl e),.lit (.int _ i)=>match ti P e with
   | some t=>match x with
     | .sl _ xs=>match orc with
       | v :: orc=>if (v.n==t.sz)=true then some (0≤i∧xs[i.toNat]? =some v,.ep v,orc) else none
       | []=>none
     | .hd r p sz g o lo n _=>if (sz==t.sz)=true then some (0≤i∧i < n,.ptr r (p++[lo+i.toNat]) g (o+(lo+i.toNat) * sz),orc) else none
     | _=>none
   | none=>none
 | d,i=>wO orc (afz P d x i)
def sY (P:Program) (A:AS) (op:Op) (orc:List V):Option (Prop×V×List V):=
 match op with
 | .binOp o T x y _=>wO orc (awK o (tD P T) (A.ev x) (A.ev y))
 | .index T x i=>wO orc (aCt (tD P T) (A.ev x) (A.ev i))
 | .slice T x lo hi none=>match tD P T with
   | some .str=>wO orc (aCV (A.ev x) (lo.map A.ev) (hi.map A.ev))
   | d=>wO orc (awA P d (A.ev x) (lo.map A.ev) (hi.map A.ev))
 | .call c=>wO orc (avL P A c)
 | .field T x j=>wO orc (asq P (tD P T) (A.cp x) j)
 | .fieldAddr T x j=>wO orc (akO P (tD P T) (A.ev x) j)
 | .load T x=>aAv A (ti P T) (A.ev x) orc
 | .indexAddr T x i=>apd P (tD P T) (A.ev x) (A.ev i) orc
 | op=>wO orc (stX P A op)
section
variable {P:Program} {N:Nat} {ops:Array Oper} {A A':AS}
theorem akC (s:ByteArray):Str s.data.toList=s:=by apply ByteArray.ext; simp [Str]
theorem acH {orc orc':List V} {x:Option (Prop×V)} {C:Prop} {v:V} (h:wO orc x=some (C,v,orc')):x=some (C,v):=by
 cases x with
 | none=>simp [wO] at h
 | some y=>obtain ⟨a,b⟩:=y; simp only [wO,Option.some.injEq,Prod.mk.injEq] at h; obtain ⟨rfl,rfl,_⟩:=h; rfl
theorem aAY {op:BinOp} {d:Option D} {x y:V} {C:Prop} {v:V} (h:awK op d x y=some (C,v)) (hC:C):∃ C',anC op d x y=some (C',v)∧C':=by
 unfold awK at h
 split at h
 rename_i a b
 simp only [anC]
 cases op <;> simp only [ayW,Option.some.injEq,Prod.mk.injEq,reduceCtorEq] at h <;> obtain ⟨rfl,rfl⟩:=h
 refine ⟨a.size+b.size≤4611686018427387904,?_,by rw [Array.length_toList,Array.length_toList] at hC; exact hC⟩
 simp only [apI]; rw [← aBh,akC,akC]
 refine ⟨True,?_,trivial⟩
 simp only [apI,Lib.toList_data]
 refine ⟨True,?_,trivial⟩
 simp only [apI,Lib.toList_data]
 exact ⟨C,h,hC⟩
theorem ain {op:Op} {orc orc':List V} {C:Prop} {v:V} (h:sY P A op orc=some (C,v,orc')) (hC:C):∃ C',stX P A op=some (C',v)∧C':=by
 unfold sY at h
 split at h
 exact aAY (acH h) hC
 rename_i T x i
 have h:=acH h
 unfold aCt at h
 split at h
 rename_i s k i' e1 e2 e3
 simp only [Option.some.injEq,Prod.mk.injEq] at h
 obtain ⟨rfl,rfl⟩:=h
 refine ⟨0≤i'∧i' < s.size,?_,by rw [Array.length_toList] at hC; exact hC⟩
 simp only [stX,stV,aAg,e1,e2,e3]
 rw [← akC s,aDp]; rfl
 simp at h
 rename_i T x lo hi
 split at h
 rename_i e
 have h:=acH h
 simp only [stX,e]
 unfold aCV at h
 split at h
 rename_i s e'
 unfold aAF at h
 split at h
 rename_i l hh e1 e2
 simp only [Option.some.injEq,Prod.mk.injEq] at h
 obtain ⟨rfl,rfl⟩:=h
 have e2':hiI s.size (hi.map A.ev)=some hh:=by
  rw [← e2,Array.length_toList]; rfl
 refine ⟨0≤l∧l≤hh∧hh≤s.size,?_,by rw [Array.length_toList] at hC; exact hC⟩
 simp only [awg,e',aAr,e1,e2']
 rw [← aAL,akC]
 simp at h
 simp at h
 rename_i d hd
 have h:=acH h
 refine ⟨C,?_,hC⟩
 simp only [stX]
 exact h
 rename_i c
 have h:=acH h
 unfold avL at h
 split at h
 rename_i hc
 split at h
 rename_i x T hx hT
 simp only [stX,stV,aoR,hc,hx,hT]
 unfold azx at h
 split at h
 rename_i s e1 e2
 simp only [Option.some.injEq,Prod.mk.injEq] at h
 obtain ⟨rfl,rfl⟩:=h
 exact ⟨True,by simp only [asy,e1,e2,ByteArray.size,Array.length_toList],trivial⟩
 exact ⟨C,h,hC⟩
 simp at h
 simp at h
 rename_i T x j
 have h:=acH h
 simp only [stX]
 unfold asq at h
 split at h
 rename_i fs e1
 split at h
 rename_i off T' e2
 split at h
 rename_i i e3
 split at h
 rename_i vs e4
 split at h
 rename_i u e5
 split at h
 rename_i hb
 simp only [Option.some.injEq,Prod.mk.injEq] at h
 obtain ⟨_,rfl⟩:=h
 simp only [Bool.and_eq_true,beq_iff_eq] at hb
 exact ⟨_,by simp only [aol,e1,e2,e3,e4,e5],hb⟩
 simp at h
 simp at h
 simp at h
 simp at h
 simp at h
 simp at h
 rename_i T x j
 have h:=acH h
 simp only [stX]
 unfold akO at h
 split at h
 rename_i fs e1
 split at h
 rename_i off T' e2
 split at h
 rename_i i e3
 split at h
 rename_i r p g o e4
 split at h
 rename_i hb
 simp only [Option.some.injEq,Prod.mk.injEq] at h
 obtain ⟨_,rfl⟩:=h
 exact ⟨i.sz≠0,by simp only [agF,e1,e2,e3,e4],by simpa using hb⟩
 simp at h
 rename_i vs e4
 split at h
 rename_i u e5
 split at h
 rename_i hb
 simp only [Option.some.injEq,Prod.mk.injEq] at h
 obtain ⟨_,rfl⟩:=h
 simp only [Bool.and_eq_true,beq_iff_eq,bne_iff_ne] at hb
 exact ⟨_,by simp only [agF,e1,e2,e3,e4,e5],hb⟩
 simp at h
 simp at h
 simp at h
 simp at h
 simp at h
 simp at h
 rename_i T x
 simp only [stX]
 unfold aAv at h
 split at h
 rename_i i e1
 split at h
 rename_i r p g o e2
 split at h
 simp at h
 split at h
 rename_i g1 o1 u e3
 split at h
 rename_i hb
 simp only [Option.some.injEq] at h
 obtain ⟨h1,h2⟩:=Prod.mk.inj h
 obtain ⟨rfl,_⟩:=Prod.mk.inj h2
 subst h1
 obtain ⟨rfl,rfl⟩:=Prod.mk.inj hC
 simp only [Bool.and_eq_true,beq_iff_eq] at hb
 exact ⟨g1=g1∧o1=o1∧u.n=i.sz∧i.d.agg=u.isAgg,by simp only [ajs,e1,e2,e3],rfl,rfl,hb.1,hb.2⟩
 simp at h
 simp at h
 rename_i u orc2 _
 split at h
 rename_i hb
 simp only [Option.some.injEq,Prod.mk.injEq] at h
 obtain ⟨rfl,rfl,_⟩:=h
 simp only [Bool.and_eq_true,beq_iff_eq] at hb
 exact ⟨g=g∧o=o∧u.n=i.sz∧i.d.agg=u.isAgg,by simp only [ajs,e1,e2,hC],rfl,rfl,hb.1,hb.2⟩
 simp at h
 rename_i u e2
 split at h
 rename_i hb
 simp only [Option.some.injEq,Prod.mk.injEq] at h
 obtain ⟨_,rfl,_⟩:=h
 simp only [Bool.and_eq_true,beq_iff_eq] at hb
 exact ⟨_,by simp only [ajs,e1,e2],hb⟩
 simp at h
 simp at h
 simp at h
 rename_i T x i
 simp only [stX]
 unfold apd at h
 split at h
 rename_i e k i' e1 e2
 split at h
 rename_i t e3
 split at h
 rename_i full xs e4
 split at h
 rename_i u orc2
 split at h
 rename_i hb
 simp only [Option.some.injEq,Prod.mk.injEq] at h
 obtain ⟨rfl,rfl,_⟩:=h
 obtain ⟨h0,hx⟩:=hC
 have hlt:=(List.getElem?_eq_some_iff.1 hx).1
 have hv:xs.getD i'.toNat .dead=u:=by rw [List.getD_eq_getElem?_getD,hx]; rfl
 exact ⟨0≤i'∧i' < xs.length∧u.n=t.sz,by simp only [afz,e1,e2,e3,e4,hv],h0,by omega,by simpa using hb⟩
 simp at h
 simp at h
 rename_i r p sz g o lo n c e4
 split at h
 rename_i hb
 simp only [Option.some.injEq,Prod.mk.injEq] at h
 obtain ⟨rfl,rfl,_⟩:=h
 exact ⟨0≤i'∧i' < n∧sz=t.sz,by simp only [afz,e1,e2,e3,e4],hC.1,hC.2,by simpa using hb⟩
 simp at h
 simp at h
 simp at h
 exact ⟨C,acH h,hC⟩
 exact ⟨C,acH h,hC⟩
theorem AS.le_refl (A:AS):A.le A:=⟨fun _=>.inr rfl,fun _=>.inr rfl⟩
theorem AS.le_trans {A B C:AS} (h:A.le B) (k:B.le C):A.le C:=
 ⟨fun i=>by
  rcases h.1 i with e | e
  exact .inl e
  rw [e]; exact k.1 i,
  fun i=>by
   rcases h.2 i with e | e
   exact .inl e
   rw [e]; exact k.2 i⟩
theorem azJ {o:Oper} {K K':AS→Prop} (h:opT P N o A K) (hK:∀ B,K B→K' B):opT P N o A K':=
 fun Pb Kb a w F Q hs=>Oper.wp_mono (fun _ _ hn=>hn.mono hK) (h Pb Kb a w F Q hs)
def aww (A:AS):List Nat→List (Nat×(Nat×V))
 | []=>[]
 | k :: ks=>match lk k A.h with
   | some v=>(k,v) :: aww A ks
   | none=>aww A ks
def aef (ks hs:List Nat) (A:AS):AS:=⟨ks.map fun k=>(k,A.get k),aww A hs⟩
def afV:Op→Bool
 | .move _ | .extract _ _ | .call _ | .field _ _ _ | .fieldAddr _ _ _=>true
 | .binOp o _ _ _ _=>match o with
   | .eql | .neq | .lss | .leq | .gtr | .geq=>true
   | _=>false
 | .unOp o _ _=>match o with
   | .not=>true
   | _=>false
 | _=>false
theorem afM {op:Op} {orc orc':List V} {C:Prop} {v:V} (ht:afV op=true) (h:sY P A op orc=some (C,v,orc')):C:=by
 have hB:∀ {o:BinOp} {k:IntKind} {a b:Int} {C:Prop} {v:V},(o=.eql∨o=.neq∨o=.lss∨o=.leq∨o=.gtr∨o=.geq)→apE o k a b=some (C,v)→C:=by
  intro o k a b C v ho h
  rcases ho with rfl | rfl | rfl | rfl | rfl | rfl <;> (simp only [apE,agi,Option.some.injEq,Prod.mk.injEq] at h; rw [← h.1]; trivial)
 cases op with
 | move x=>have h:=acH (show wO orc (stX P A (.move x))=_ from h); simp only [stX,stV,Option.some.injEq,Prod.mk.injEq] at h; rw [← h.1]; trivial
 | extract x i=>
   have h:=acH (show wO orc (stX P A (.extract x i))=_ from h)
   simp only [stX,stV] at h
   unfold azW at h
   repeat (split at h <;> try (solve | simp at h))
   all_goals (simp only [Option.some.injEq,Prod.mk.injEq] at h; rw [← h.1]; trivial)
 | call c=>
   have h:=acH h
   unfold avL at h
   repeat (split at h <;> try (solve | simp at h))
   unfold azx at h
   split at h
   simp only [Option.some.injEq,Prod.mk.injEq] at h; rw [← h.1]; trivial
   unfold asy at h
   split at h <;> first | (solve | simp at h) | (simp only [Option.some.injEq,Prod.mk.injEq] at h; rw [← h.1]; trivial)
 | field T x j=>
   have h:=acH h
   unfold asq at h
   repeat (split at h <;> try (solve | simp at h))
   all_goals (simp only [Option.some.injEq,Prod.mk.injEq] at h; rw [← h.1]; trivial)
 | fieldAddr T x j=>
   have h:=acH h
   unfold akO at h
   repeat (first | (solve | simp at h) | split at h)
   all_goals first | (solve | simp at h) | (obtain ⟨rfl,_⟩:=h; trivial) | (simp only [Option.some.injEq,Prod.mk.injEq] at h; rw [← h.1]; trivial) | (split at h <;> first | (solve | simp at h) | (split at h <;> first | (solve | simp at h) | (simp only [Option.some.injEq,Prod.mk.injEq] at h; rw [← h.1]; trivial)))
 | binOp o T x y pos=>
   have h:=acH h
   have ho:o=.eql∨o=.neq∨o=.lss∨o=.leq∨o=.gtr∨o=.geq:=by cases o <;> simp [afV] at ht ⊢
   unfold awK at h
   split at h
   rcases ho with rfl | rfl | rfl | rfl | rfl | rfl <;> simp only [ayW,Option.some.injEq,Prod.mk.injEq,reduceCtorEq] at h <;> (rw [← h.1]; trivial)
   unfold anC at h
   split at h
   split at h
   exact hB ho h
   split at h
   exact hB ho h
   simp at h
   rcases ho with rfl | rfl | rfl | rfl | rfl | rfl <;> simp only [apI,Option.some.injEq,Prod.mk.injEq,reduceCtorEq] at h <;> (rw [← h.1]; trivial)
   rcases ho with rfl | rfl | rfl | rfl | rfl | rfl <;> simp only [awb,Option.some.injEq,Prod.mk.injEq,reduceCtorEq] at h <;> (rw [← h.1]; trivial)
   simp at h
 | unOp o T x=>
   have h:=acH (show wO orc (stX P A (.unOp o T x))=_ from h)
   have ho:o=.not:=by cases o <;> simp [afV] at ht ⊢
   subst ho
   simp only [stX,stV] at h
   unfold unV at h
   split at h
   all_goals first | (solve | simp at h) | (simp only [Option.some.injEq,Prod.mk.injEq] at h; rw [← h.1]; trivial) | (simp_all; done)
 | _=>simp [afV] at ht
def ado:Op→List Operand
 | .pick c _ _=>[c]
 | op=>op.operands.toList
def aiX (P:Program) (N:Nat) (ops:Array Oper):Nat→List Oper→List V→AS→Option (Prop×AS)
 | 0,_,_,A=>some (True,A)
 | _+1,[],_,A=>some (True,A)
 | n+1,o :: rest,orc,A=>
   match o.dst with
   | none=>none
   | some d=>if d < N then
     match o.guard with
     | some (j,b)=>match gdV A ops j b with
       | some G=>match AS.un G (ado o.op) A with
         | (C0,B)=>match sY P B o.op orc with
           | some (C,v,orc)=>if (okT N (ado o.op)&&!v.adH)=true then match aiX P N ops n rest orc (A.put (some d) (.gv G v)) with
             | some (C',A')=>some ((G=true→C0∧C)∧C',A')
             | none=>none else none
           | none=>none
       | none=>none
     | none=>match o.op with
       | .assign x=>aiX P N ops n rest orc ((A.drop x).put (some d) (A.ev x))
       | op=>match sY P A op orc with
         | some (C,v,orc)=>match aiX P N ops n rest orc (A.put (some d) v) with
           | some (C',A')=>if afV op=true then some (C',A') else some (C∧C',A')
           | none=>none
         | none=>none
     else none
theorem aka {K:AS→Prop}:∀ (n:Nat) {l:List Oper} {orc:List V} {A A':AS} {C:Prop},
 aiX P N ops n l orc A=some (C,A')→C→WL P N ops (l.drop n) A' K→WL P N ops l A K
 | 0,l,orc,A,A',C,h,hC,hK=>by
   simp only [aiX,Option.some.injEq,Prod.mk.injEq] at h; obtain ⟨_,rfl⟩:=h; exact hK
 | n+1,[],orc,A,A',C,h,hC,hK=>by
   simp only [aiX,Option.some.injEq,Prod.mk.injEq] at h; obtain ⟨_,rfl⟩:=h; exact hK
 | n+1,o :: l,orc,A,A',C,h,hC,hK=>by
   have hdrop:(o :: l).drop (n+1)=l.drop n:=rfl
   rw [hdrop] at hK
   unfold aiX at h
   split at h
   simp at h
   rename_i d hd
   split at h
   case isFalse=>simp at h
   rename_i hdN
   have hdok:aaT N o.dst:=by rw [hd]; exact hdN
   cases hg:o.guard with
   | some jb=>
     obtain ⟨j,b⟩:=jb
     rw [hg] at h
     simp only at h
     split at h
     case h_2=>simp at h
     rename_i G hG
     cases hu:AS.un G (ado o.op) A with
     | mk C0 B=>
       rw [hu] at h
       simp only at h
       split at h
       case h_2=>simp at h
       rename_i C1 v orc2 hst
       split at h
       case isFalse=>simp at h
       rename_i hok
       simp only [Bool.and_eq_true,Bool.not_eq_true'] at hok
       split at h
       case h_2=>simp at h
       rename_i C2 A2 hr
       simp only [Option.some.injEq,Prod.mk.injEq] at h
       obtain ⟨rfl,rfl⟩:=h
       by_cases hGt:G=true
       obtain ⟨C',h1,h2⟩:=ain hst (hC.1 hGt).2
       exact azI hg hG hu h1 hok.1 hdok (fun _=>⟨(hC.1 hGt).1,h2,hok.2⟩) (by rw [hd]; exact aka n hr hC.2 hK)
       refine ajC hg hG (fun c=>absurd c hGt) (fun hGf=>⟨hdok,.gv G v,fun _ _=>⟨rfl,(fun h=>absurd h hGt),fun _=>rfl⟩,?_⟩)
       rw [hd]; exact aka n hr hC.2 hK
   | none=>
     rw [hg] at h
     simp only at h
     show gd ops o A _ _
     unfold gd
     rw [hg]
     simp only
     split at h
     rename_i x hop
     exact akE hop hdok (by rw [hd]; exact aka n h hC hK)
     · split at h
       case h_2=>simp at h
       rename_i C1 v orc2 hst
       split at h
       case h_2=>simp at h
       rename_i C2 A2 hr
       split at h
       rename_i ht
       simp only [Option.some.injEq,Prod.mk.injEq] at h
       obtain ⟨rfl,rfl⟩:=h
       obtain ⟨C',h1,h2⟩:=ain hst (afM ht hst)
       exact ajY h1 h2 hdok (by rw [hd]; exact aka n hr hC hK)
       simp only [Option.some.injEq,Prod.mk.injEq] at h
       obtain ⟨rfl,rfl⟩:=h
       obtain ⟨C',h1,h2⟩:=ain hst hC.1
       exact ajY h1 h2 hdok (by rw [hd]; exact aka n hr hC.2 hK)
theorem aqQ (op:Op):∀ t,Operand.tmp t∈ado op→Operand.tmp t∈op.operands.toList:=by
 intro t ht
 cases op with
 | pick c a b=>simp only [ado,List.mem_singleton] at ht; simp [Op.operands,ht]
 | _=>exact ht
def ajf (P:Program) (N:Nat) (ops:Array Oper):Nat→List Oper→List V→AS→Option (Prop×AS)
 | 0,_,_,A=>some (True,A)
 | _+1,[],_,A=>some (True,A)
 | n+1,o :: rest,orc,A=>
   match o.dst with
   | none=>none
   | some d=>if d < N then
     match o.guard with
     | some (j,b)=>match gdV A ops j b with
       | some G=>match AS.un G (ado o.op) A with
         | (C0,B)=>match sY P B o.op orc with
           | some (C,v,orc)=>if (okT N (ado o.op)&&!v.adH&&aeE ops B o.op)=true then match ajf P N ops n rest orc (A.put (some d) (.gv G v)) with
             | some (C',A')=>some ((G=true→C0∧C)∧C',A')
             | none=>none else none
           | none=>none
       | none=>none
     | none=>match o.op with
       | .assign x=>if (A.ev x).abt=false then ajf P N ops n rest orc (A.put (some d) (A.ev x)) else none
       | op=>if aeE ops A op=true then match sY P A op orc with
         | some (C,v,orc)=>match ajf P N ops n rest orc (A.put (some d) v) with
           | some (C',A')=>if afV op=true then some (C',A') else some (C∧C',A')
           | none=>none
         | none=>none else none
     else none
theorem alz {K:AS→Prop}:∀ (n:Nat) {l:List Oper} (orc:List V) {A:AS} (C:Prop) (A':AS),
 ajf P N ops n l orc A=some (C,A')→C→DW P N ops (l.drop n) A' K→DW P N ops l A K
 | 0,l,orc,A,C,A',h,hC,hK=>by
   simp only [ajf,Option.some.injEq,Prod.mk.injEq] at h; obtain ⟨_,rfl⟩:=h; exact hK
 | n+1,[],orc,A,C,A',h,hC,hK=>by
   simp only [ajf,Option.some.injEq,Prod.mk.injEq] at h; obtain ⟨_,rfl⟩:=h; exact hK
 | n+1,o :: l,orc,A,C,A',h,hC,hK=>by
   have hdrop:(o :: l).drop (n+1)=l.drop n:=rfl
   rw [hdrop] at hK
   unfold ajf at h
   split at h
   simp at h
   rename_i d hd
   split at h
   case isFalse=>simp at h
   rename_i hdN
   have hdok:aaT N o.dst:=by rw [hd]; exact hdN
   cases hg:o.guard with
   | some jb=>
     obtain ⟨j,b⟩:=jb
     rw [hg] at h
     simp only at h
     split at h
     case h_2=>simp at h
     rename_i G hG
     cases hu:AS.un G (ado o.op) A with
     | mk C0 B=>
       rw [hu] at h
       simp only at h
       split at h
       case h_2=>simp at h
       rename_i C1 v orc2 hst
       split at h
       case isFalse=>simp at h
       rename_i hok
       simp only [Bool.and_eq_true,Bool.not_eq_true'] at hok
       split at h
       case h_2=>simp at h
       rename_i C2 A2 hr
       simp only [Option.some.injEq,Prod.mk.injEq] at h
       obtain ⟨rfl,rfl⟩:=h
       refine aft (v:=.gv G v) (aul hg hG hu (aqQ _) hok.1.1 hdok hok.2 (fun hGt=>⟨(hC.1 hGt).1,hok.1.2,ain hst (hC.1 hGt).2⟩)) (by rw [hd]; exact alz n orc2 C2 A2 hr hC.2 hK)
   | none=>
     rw [hg] at h
     simp only at h
     split at h
     · rename_i x hop
       split at h
       case isFalse=>simp at h
       rename_i hown
       exact aft (asL hg hop hdok hown) (by rw [hd]; exact alz n orc C A' h hC hK)
     · split at h
       case isFalse=>simp at h
       rename_i hrf
       split at h
       case h_2=>simp at h
       rename_i C1 v orc2 hst
       split at h
       case h_2=>simp at h
       rename_i C2 A2 hr
       split at h
       rename_i ht
       simp only [Option.some.injEq,Prod.mk.injEq] at h
       obtain ⟨rfl,rfl⟩:=h
       obtain ⟨C',h1,h2⟩:=ain hst (afM ht hst)
       exact aft (aqh hg h1 h2 hdok hrf) (by rw [hd]; exact alz n orc2 C2 A2 hr hC hK)
       simp only [Option.some.injEq,Prod.mk.injEq] at h
       obtain ⟨rfl,rfl⟩:=h
       obtain ⟨C',h1,h2⟩:=ain hst hC.1
       exact aft (aqh hg h1 h2 hdok hrf) (by rw [hd]; exact alz n orc2 C2 A2 hr hC.2 hK)
def agI (P:Program):List ResultVar→List (Root×V)→Bool
 | .cell _ T :: rs,(_,v) :: xs=>(match ti P T with | some i=>v.n==i.sz&&i.d.agg==v.isAgg | none=>false)&&agI P rs xs
 | .tmp _ :: rs,(_,v) :: xs=>(match v with | .tup _=>false | .gv _ _=>false | _=>true)&&agI P rs xs
 | [],[]=>true
 | _,_=>false
theorem akX:∀ {rs:List ResultVar} {xs:List (Root×V)},agI P rs xs=true→akq P rs xs
 | [],[],_=>trivial
 | .cell t T :: rs,(r,v) :: xs,h=>by
   simp only [agI,Bool.and_eq_true] at h
   refine ⟨?_,akX h.2⟩
   have h1:=h.1
   cases ht:ti P T with
   | none=>rw [ht] at h1; simp at h1
   | some i=>rw [ht] at h1; simpa using h1
 | .tmp t :: rs,(r,v) :: xs,h=>by
   simp only [agI,Bool.and_eq_true] at h
   refine ⟨?_,akX h.2⟩
   have h1:=h.1
   cases v <;> first | trivial | simp at h1
 | [],_ :: _,h=>by simp [agI] at h
 | .cell _ _ :: _,[],h=>by simp [agI] at h
 | .tmp _ :: _,[],h=>by simp [agI] at h
def nodupB:List Root→Bool
 | []=>true
 | r :: rs=>!(rs.any fun x=>decide (x=r))&&nodupB rs
theorem ant:∀ {l:List Root},nodupB l=true→l.Nodup
 | [],_=>List.nodup_nil
 | r :: rs,h=>by
   simp only [nodupB,Bool.and_eq_true,Bool.not_eq_true',List.any_eq_false,decide_eq_true_eq] at h
   exact List.nodup_cons.2 ⟨fun c=>h.1 r c rfl,ant h.2⟩
abbrev iN (n:Nat):V:=.lit (.int .i64 n)
abbrev iV (x:Int):V:=.lit (.int .i64 x)
abbrev uN (n:Nat):V:=.lit (.int .u8 n)
abbrev bV (b:Bool):V:=.lit (.bool b)
abbrev sV (l:List UInt8):V:=.lit (.string (Str l))
theorem aaf {α:Type} {f:α→V} {l:List α} {i:Nat} {d:α} (h:i < l.length):(l.map f)[i]? =some (f (l.getD i d)):=by
 rw [List.getElem?_map,List.getElem?_eq_getElem h,List.getD_eq_getElem?_getD,List.getElem?_eq_getElem h]; rfl
theorem all_map {α:Type} {f:α→V} {l:List α} {n:Nat} (h:∀ x,(f x).n=n):∀ x∈l.map f,x.n=n:=by
 intro x hx
 obtain ⟨y,_,rfl⟩:=List.mem_map.1 hx
 exact h y
end
end Go.Abs
namespace Go.Abs
open Go Go.RowKit
section
variable {P:Program} {N:Nat} {ops:Array Oper} {A A' A1:AS}
theorem azi {K:AS→Prop} {d:Option Nat} {f:FuncId} {xs:Array Operand} {tys:Array TypeId} {ty:TypeId} {pos:String} {after:Array Edge} {rest:List Oper}
 {L:List V} {E0:V} (E:V) (hd:aaT N d) (hL:xs.toList.map A.cp=L) (hc:PC P f L (fun r=>r=E0)) (hE:E0.er=E) (hK:DW P N ops rest (A.put d E) K):
 DW P N ops (⟨d,.call { callee:=.value (.func f),args:=xs,argTypes:=tys },ty,pos,after,none⟩ :: rest) A K:=by
 subst hL hE
 exact aBl hd hc (by rintro r rfl; rfl) hK
def zOk (P:Program) (e:Nat) (sz:Nat):Bool:=match P.info? e with
 | some inf=>match inf.zero with
   | some z=>z.cells.size==sz
   | none=>false
 | none=>false
theorem ahX {e sz:Nat} (h:zOk P e sz=true):∃ inf z,P.info? e=some inf∧inf.zero=some z∧z.cells.size=sz:=by
 unfold zOk at h
 split at h
 rename_i inf h1
 split at h
 rename_i z h2; exact ⟨inf,z,h1,h2,by simpa using h⟩
 simp at h
 simp at h
def aAu (P:Program) (T:Nat):Option (List Value):=match P.info? T with
 | some inf=>match inf.zero with
   | some z=>some z.cells.toList
   | none=>none
 | none=>none
theorem adE {T:Nat} {v:V} {cs:List Value} (h:aAu P T=some cs) (hv:v.flat=some cs):aia P T v:=by
 unfold aAu at h
 split at h
 rename_i inf h1
 split at h
 rename_i z h2; exact ⟨inf,z,h1,h2,by rw [hv,h]⟩
 simp at h
 simp at h
def awO (sz:Nat):List V→Bool
 | []=>true
 | v :: vs=>v.isVal&&v.n==sz&&awO sz vs
theorem apZ {sz:Nat}:∀ {vs:List V},awO sz vs=true→∀ v,v∈vs→v.isVal=true∧v.n=sz
 | [],_,v,hv=>by simp at hv
 | u :: us,h,v,hv=>by
   simp only [awO,Bool.and_eq_true,beq_iff_eq] at h
   simp only [List.mem_cons] at hv
   rcases hv with rfl | hv
   exact h.1
   exact apZ h.2 v hv
def bsB (P:Program) (T e len:Nat) (i:TI) (vs:List V):Bool:=zOk P e i.sz&&vs.length==len&&Nat.ble (len * i.sz) 16777216&&Nat.blt 0 i.sz&&awO i.sz vs
theorem arT {o:Oper} {K:AS→Prop} {T e len:Nat} {parts:Array (Nat×Operand)} {i:TI} {vs:List V} (ho:o.op=.buildSlice T len parts) (hd:aaT N o.dst) (hT:tD P T=some (.sl e)) (hi:ti P e=some i)
 (hvs:acv A 0 parts.toList=some vs) (hB:bsB P T e len i vs=true) (hK:K (A.put o.dst (.sl true vs))):opT P N o A K:=by
 simp only [bsB,Bool.and_eq_true,beq_iff_eq] at hB
 obtain ⟨⟨⟨⟨h1,h2⟩,h3⟩,h4⟩,h5⟩:=hB
 obtain ⟨inf,z,k1,k2,_⟩:=ahX h1
 exact apV ho hd hT hi ⟨inf,z,k1,k2⟩ hvs h2 (Nat.le_of_ble_eq_true h3) (Nat.lt_of_succ_le (Nat.le_of_ble_eq_true h4)) (apZ h5) hK
theorem ark {K:AS→Prop} {d:Option Nat} {T len ty:Nat} {parts:Array (Nat×Operand)} {pos:String} {after:Array Edge} {rest:List Oper} (e:Nat) (i:TI) (vs:List V)
 (hty:tD P T=some (.sl e)∧ti P e=some i) (hd:aaT N d) (hvs:acv A 0 parts.toList=some vs) (hB:bsB P T e len i vs=true) (hK:WL P N ops rest (A.put d (.sl true vs)) K):
 WL P N ops (⟨d,.buildSlice T len parts,ty,pos,after,none⟩ :: rest) A K:=by
 show opT P N _ A _
 exact arT rfl hd hty.1 hty.2 hvs hB hK
theorem ahz:∀ (ps:List (Nat×Operand)) (k:Nat),(∀ t,Operand.tmp t∈ps.map (·.2)→A'.get t=A.get t)→acv A' k ps=acv A k ps
 | [],_,_=>rfl
 | (i,x) :: r,k,h=>by
   simp only [acv]
   rw [ahz r (k+1) (fun t ht=>h t (by simp [ht])),aej (x:=x) (fun t e=>h t (by simp [e]))]
theorem aqY {K:AS→Prop} {d:Option Nat} {T len ty:Nat} {parts:Array (Nat×Operand)} {pos:String} {after:Array Edge} {rest:List Oper} (e:Nat) (i:TI) (vs:List V)
 (hty:tD P T=some (.sl e)∧ti P e=some i) (hd:aaT N d) (hvs:acv A 0 parts.toList=some vs) (hB:bsB P T e len i vs=true) (hK:DW P N ops rest (A.put d (.sl true vs)) K):
 DW P N ops (⟨d,.buildSlice T len parts,ty,pos,after,none⟩ :: rest) A K:=by
 refine aft (v:=.sl true vs) (fun A' h1 hk=>?_) hK
 show opT P N _ A' _
 refine arT rfl hd hty.1 hty.2 ?_ hB ⟨fun _=>rfl,fun _=>rfl⟩
 rw [ahz (A:=A) _ _ (fun t ht=>h1 t (.inl (abJ (by simpa [Op.operands] using ht))))]
 exact hvs
def ape (places:List (Nat×Nat)):List V→List (Nat×V)→Option (List V)
 | zs,[]=>some zs
 | zs,(i,v) :: r=>match places[i]?,zs[i]? with
   | some (off,sz),some z=>if (V.ns (zs.take i)==off&&v.n==sz&&z.n==sz&&v.isVal)=true then ape places (zs.set i v) r else none
   | _,_=>none
theorem arD {places:List (Nat×Nat)}:∀ {ps:List (Nat×V)} {zs vs:List V},ape places zs ps=some vs→∃ C,akp places zs ps=some (C,vs)∧C
 | [],zs,vs,h=>by simp only [ape,Option.some.injEq] at h; subst h; exact ⟨True,rfl,trivial⟩
 | (i,v) :: r,zs,vs,h=>by
   simp only [ape] at h
   split at h
   rename_i off sz z h1 h2
   split at h
   rename_i hb
   simp only [Bool.and_eq_true,beq_iff_eq] at hb
   obtain ⟨C,hf,hC⟩:=arD h
   exact ⟨V.ns (zs.take i)=off∧v.n=sz∧z.n=sz∧v.isVal=true∧C,by simp only [akp,h1,h2,hf],hb.1.1.1,hb.1.1.2,hb.1.2,hb.2,hC⟩
   simp at h
   simp at h
def aeL (P:Program) (A:AS) (T:Nat) (zs:List V) (parts:List (Nat×Operand)):Option V:=
 match tD P T with
 | some (.st fs)=>match aiA P fs with
   | some places=>match ape places zs (parts.map fun (i,x)=>(i,A.cp x)) with
     | some vs=>some (.agg vs)
     | none=>none
   | none=>none
 | _=>none
theorem amf {T:Nat} {zs:List V} {parts:List (Nat×Operand)} {v:V} (h:aeL P A T zs parts=some v):∃ C,alE P A T zs parts=some (C,v)∧C:=by
 unfold aeL at h
 split at h
 rename_i fs h1
 split at h
 rename_i places h2
 split at h
 rename_i vs h3
 simp only [Option.some.injEq] at h
 subst h
 obtain ⟨C,hf,hC⟩:=arD h3
 exact ⟨C,by simp only [alE,h1,h2,hf],hC⟩
 simp at h
 simp at h
 simp at h
theorem azT {K:AS→Prop} {d:Option Nat} {T ty:Nat} {parts:Array (Nat×Operand)} {pos:String} {after:Array Edge} {rest:List Oper} (zs:List V) (v:V)
 (hz:aia P T (.agg zs)) (hd:aaT N d) (hb:aeL P A T zs parts.toList=some v) (hK:WL P N ops rest (A.put d v) K):
 WL P N ops (⟨d,.build T parts,ty,pos,after,none⟩ :: rest) A K:=by
 obtain ⟨C,h1,h2⟩:=amf hb
 show opT P N _ A _
 exact amc rfl hd hz h1 h2 hK
theorem azZ {K:AS→Prop} {d:Option Nat} {T ty:Nat} {parts:Array (Nat×Operand)} {pos:String} {after:Array Edge} {rest:List Oper} (zs:List V) (v:V)
 (hz:aia P T (.agg zs)) (hd:aaT N d) (hb:aeL P A T zs parts.toList=some v) (hK:DW P N ops rest (A.put d v) K):
 DW P N ops (⟨d,.build T parts,ty,pos,after,none⟩ :: rest) A K:=by
 refine aft (v:=v) (fun A' h1 hk=>?_) hK
 show opT P N _ A' _
 have e:aeL P A' T zs parts.toList=some v:=by
  rw [← hb]
  unfold aeL
  have:(parts.toList.map fun (i,x)=>(i,A'.cp x))=parts.toList.map fun (i,x)=>(i,A.cp x):=by
   apply List.map_congr_left
   rintro ⟨i,x⟩ hx
   simp only
   rw [aej (x:=x) fun t ht=>h1 t (.inl (abJ (by
    subst ht
    simp only [Op.operands,List.mem_map]
    exact ⟨(i,.tmp t),hx,rfl⟩)))]
  rw [this]
 obtain ⟨C,k1,k2⟩:=amf e
 exact amc rfl hd hz k1 k2 ⟨fun _=>rfl,fun _=>rfl⟩
end
end Go.Abs
