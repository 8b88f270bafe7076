/-
  Words and walks for the laws of pedlar's seat: what each function of the program computes, and that it does; no conditions beyond those that each statement names.
-/
import Derived.Calls
import Derived.Below
import Derived.LoopN
import Derived.Tactics
import Derived.Laws.Sem
import Derived.IntWalk
import Derived.Laws.Cells
import Derived.Orders
import Derived.KernelRfl
import Derived.Lib.Strings
import Derived.Great.BuildSlice
import Derived.Laws.Append
import Derived.Laws.BytesString
import Derived.Lib.ConvBytes
import Derived.Lib.MinMax
set_option linter.unusedVariables false
set_option linter.unusedSimpArgs false
set_option linter.unnecessarySimpa false
set_option linter.unusedSectionVars false
namespace Go
abbrev BL:=List UInt8
end Go
namespace Go.Abs
open Go
inductive l9 where
 | slot (i:Nat)
 | key (k:Nat)
 deriving DecidableEq
inductive V where
 | lit (x:Value)
 | agg (vs:List V)
 | tup (vs:List V)
 | sl (full:Bool) (xs:List V)
 | own (sz:Nat) (xs:List V) (g o c:Nat)
 | ow (sz:Nat) (xs:List V)
 | om (es:List (BL×Value)) (g:Nat)
 | mp (es:List (BL×Value))
 | hd (r:l9) (p:List Nat) (sz g o lo n c:Nat)
 | ptr (r:l9) (p:List Nat) (g o:Nat)
 | ep (v:V)
 | b9
 | gv (b:Bool) (v:V)
mutual
def V.n:V->Nat
 | .agg vs=>V.ns vs
 | _=>1
def V.ns:List V->Nat
 | []=>0
 | v::vs=>v.n+V.ns vs
end
def aG(sz:Nat)(xs:List V):Prop:= ∀ x∈xs,x.n=sz
def Blk(w:World)(g:Nat)(cells:Array Value):Prop:=
 ∃ e fr,w.heap[g]? =some (.cells cells e fr)/\∀ i,i<cells.size->¬ (fr.1<=i/\i<fr.2)
def sj(w:World)(g:Nat)(es:List (BL×Value)):Prop:=
 ∃ en cl,w.heap[g]? =some (.map en cl)/\en.toList.map (fun e=>(e.key,e.val))=es.map (fun p=>(.string ⟨p.1.toArray⟩,p.2))/\(en.toList.map (·.born)).Nodup/\∀ e∈en.toList,e.born<cl
mutual
def R(w:World)(Pb:Nat->Prop):V->List Value->List Nat->Prop
 | .lit x,cs,F=>x.oneCell'=true/\cs=[x]/\F=[]
 | .agg vs,cs,F=>RL w Pb vs cs F
 | .tup _,_,_=>False
 | .gv _ _,_,_=>False
 | .sl full xs,cs,F=>F=[]/\∃ A c,cs=[.slice A xs.length c]/\xs.length<=c/\(full=true->c=xs.length)/\
  (xs=[]\/∃ b o sz flat,A=some ⟨b,o,none⟩/\Pb b/\0<sz/\aG sz xs/\RL w Pb xs flat []/\
   ∀ j u,flat[j]? =some u->w.cell? ⟨b,o+j,none⟩=some u)
 | .own sz xs g o c,cs,F=>(c=0/\xs=[]/\F=[]/\∃ A,cs=[.slice A 0 0])\/
  (0<c/\0<sz/\xs.length<=c/\cs=[.slice (some ⟨g,o,none⟩) xs.length c]/\aG sz xs/\¬ Pb g/\
   ∃ flat F' cells,F=g::F'/\RL w Pb xs flat F'/\Blk w g cells/\o+c*sz<=cells.size/\
     ∀ j u,flat[j]? =some u->cells[o+j]? =some u)
 | .ow sz xs,cs,F=> ∃ g o c,(c=0/\xs=[]/\F=[]/\∃ A,cs=[.slice A 0 0])\/
  (0<c/\0<sz/\xs.length<=c/\cs=[.slice (some ⟨g,o,none⟩) xs.length c]/\aG sz xs/\¬ Pb g/\
   ∃ flat F' cells,F=g::F'/\RL w Pb xs flat F'/\Blk w g cells/\o+c*sz<=cells.size/\
     ∀ j u,flat[j]? =some u->cells[o+j]? =some u)
 | .om es g,cs,F=>F=[g]/\cs=[.map (some g)]/\¬ Pb g/\sj w g es
 | .mp es,cs,F=>F=[]/\∃ g,cs=[.map (some g)]/\Pb g/\sj w g es
 | .hd _ _ sz g o lo n c,cs,F=>F=[]/\n<=c/\∃ A,cs=[.slice A n c]/\(0<c->A=some ⟨g,o+lo*sz,none⟩)
 | .ptr _ _ g o,cs,F=>F=[]/\cs=[.pointer (some ⟨g,o,none⟩)]
 | .ep v,cs,F=>F=[]/\∃ b o flat,cs=[.pointer (some ⟨b,o,none⟩)]/\Pb b/\R w Pb v flat []/\
  ∀ j u,flat[j]? =some u->w.cell? ⟨b,o+j,none⟩=some u
 | .b9,cs,F=>F=[]/\∃ x,cs=[x]/\x.oneCell'=true
def RL(w:World)(Pb:Nat->Prop):List V->List Value->List Nat->Prop
 | [],cs,F=>cs=[]/\F=[]
 | v::vs,cs,F=> ∃ c1 c2 F1 F2,cs=c1++c2/\F=F1++F2/\R w Pb v c1 F1/\RL w Pb vs c2 F2
end
section
variable {w w':World} {Pb Pb':Nat->Prop}
theorem CS{sz:Nat}{xs:List V}{cs:List Value}{F:List Nat}:R w Pb (.ow sz xs) cs F↔∃ g o c,R w Pb (.own sz xs g o c) cs F:=by simp only[R]
theorem sj.dT{g:Nat}{es:List (BL×Value)}(h:sj w g es)(k:w'.heap[g]? =w.heap[g]?):sj w' g es:=by
 obtain⟨en,cl,h1,h2⟩:=h
 exact⟨en,cl,k.trans h1,h2⟩
mutual
theorem dK:∀ (v:V) {cs F},R w Pb v cs F->cs.length=v.n
 | .lit x,cs,F,h=>by obtain⟨_,rfl,_⟩:=h;rfl
 | .agg vs,cs,F,h=>by simp only[R]at h;simpa[V.n] using gW vs h
 | .tup _,_,_,h=>by simp[R]at h
 | .gv _ _,_,_,h=>by simp[R]at h
 | .sl _ xs,cs,F,h=>by obtain⟨_,A,c,rfl,_⟩:=h;rfl
 | .own sz xs g o c,cs,F,h=>by
  rcases h with ⟨_,_,_,A,rfl⟩ | ⟨_,_,_,rfl,_⟩ <;> rfl
 | .ow sz xs,cs,F,h=>by
  obtain⟨g,o,c,h⟩:=h
  rcases h with ⟨_,_,_,A,rfl⟩ | ⟨_,_,_,rfl,_⟩ <;> rfl
 | .om ..,cs,F,h=>by obtain⟨_,rfl,_⟩:=h;rfl
 | .mp _,cs,F,h=>by obtain⟨_,g,rfl,_⟩:=h;rfl
 | .hd ..,cs,F,h=>by obtain⟨_,_,A,rfl,_⟩:=h;rfl
 | .ptr ..,cs,F,h=>by obtain⟨_,rfl⟩:=h;rfl
 | .ep v,cs,F,h=>by obtain⟨_,b,o,flat,rfl,_⟩:=h;rfl
 | .b9,cs,F,h=>by obtain⟨_,x,rfl,_⟩:=h;rfl
theorem gW:∀ (vs:List V) {cs F},RL w Pb vs cs F->cs.length=V.ns vs
 | [],cs,F,h=>by obtain⟨rfl,_⟩:=h;rfl
 | v::vs,cs,F,h=>by
     obtain⟨c1,c2,F1,F2,rfl,_,h1,h2⟩:=h
     simp[V.ns,dK v h1,gW vs h2]
end
mutual
theorem fm:∀ (v:V) {cs F},R w Pb v cs F->(∀ g,Pb g->w'.heap[g]? =w.heap[g]?)->(∀ g,g∈F->w'.heap[g]? =w.heap[g]?)->
 (∀ g,Pb g->Pb' g)->(∀ g,g∈F->¬ Pb' g)->R w' Pb' v cs F
 | .lit x,cs,F,h,_,_,_,_=>h
 | .agg vs,cs,F,h,k1,k2,k3,k4=>by simp only[R]at h ⊢;exact dB vs h k1 k2 k3 k4
 | .tup _,_,_,h,_,_,_,_=>by simp[R]at h
 | .gv _ _,_,_,h,_,_,_,_=>by simp[R]at h
 | .sl full xs,cs,F,h,k1,_,k3,_=>by
  obtain⟨hF,A,c,hc,hl,hf,hx⟩:=h
  refine⟨hF,A,c,hc,hl,hf,?_⟩
  rcases hx with hx | ⟨b,o,sz,flat,hA,hb,hs,hn,hr,s3⟩
  exact .inl hx
  exact .inr ⟨b,o,sz,flat,hA,k3 b hb,hs,hn,dB xs hr k1 (by simp) k3 (by simp),fun j u hu=>by
   rw[<- s3 j u hu];exact World.cell?_of_block (w:=w) (k1 b hb)⟩
 | .own sz xs g o c,cs,F,h,k1,k2,k3,k4=>by
  rcases h with h | ⟨h1,h2,h3,h4,h5,h6,flat,F',cells,hF,hr,⟨e,fr,hb,hfr⟩,hsz,s3⟩
  exact .inl h
  subst hF
  exact .inr ⟨h1,h2,h3,h4,h5,k4 g (by simp),flat,F',cells,rfl,dB xs hr k1 (fun g hg=>k2 g (by simp[hg])) k3 (fun g hg=>k4 g (by simp[hg])),
   ⟨e,fr,(k2 g (by simp)).trans hb,hfr⟩,hsz,s3⟩
 | .ow sz xs,cs,F,h,k1,k2,k3,k4=>by
  obtain⟨g,o,c,h⟩:=h
  refine⟨g,o,c,?_⟩
  rcases h with h | ⟨h1,h2,h3,h4,h5,h6,flat,F',cells,hF,hr,⟨e,fr,hb,hfr⟩,hsz,s3⟩
  exact .inl h
  subst hF
  exact .inr ⟨h1,h2,h3,h4,h5,k4 g (by simp),flat,F',cells,rfl,dB xs hr k1 (fun g hg=>k2 g (by simp[hg])) k3 (fun g hg=>k4 g (by simp[hg])),
   ⟨e,fr,(k2 g (by simp)).trans hb,hfr⟩,hsz,s3⟩
 | .om es g,cs,F,h,_,k2,_,k4=>by
  obtain⟨rfl,h1,h2,h3⟩:=h
  exact⟨rfl,h1,k4 g (by simp),h3.dT (k2 g (by simp))⟩
 | .mp es,cs,F,h,k1,_,k3,_=>by
  obtain⟨h0,g,h1,h2,h3⟩:=h
  exact⟨h0,g,h1,k3 g h2,h3.dT (k1 g h2)⟩
 | .hd ..,cs,F,h,_,_,_,_=>h
 | .ptr ..,cs,F,h,_,_,_,_=>h
 | .ep v,cs,F,h,k1,_,k3,_=>by
  obtain⟨hF,b,o,flat,hc,hb,hr,s3⟩:=h
  exact⟨hF,b,o,flat,hc,k3 b hb,fm v hr k1 (by simp) k3 (by simp),fun j u hu=>by
   rw[<- s3 j u hu];exact World.cell?_of_block (w:=w) (k1 b hb)⟩
 | .b9,cs,F,h,_,_,_,_=>h
theorem dB:∀ (vs:List V) {cs F},RL w Pb vs cs F->(∀ g,Pb g->w'.heap[g]? =w.heap[g]?)->(∀ g,g∈F->w'.heap[g]? =w.heap[g]?)->
 (∀ g,Pb g->Pb' g)->(∀ g,g∈F->¬ Pb' g)->RL w' Pb' vs cs F
 | [],cs,F,h,_,_,_,_=>h
 | v::vs,cs,F,h,k1,k2,k3,k4=>by
     obtain⟨c1,c2,F1,F2,hc,rfl,h1,h2⟩:=h
     exact⟨c1,c2,F1,F2,hc,rfl,fm v h1 k1 (fun g hg=>k2 g (by simp[hg])) k3 (fun g hg=>k4 g (by simp[hg])),
      dB vs h2 k1 (fun g hg=>k2 g (by simp[hg])) k3 (fun g hg=>k4 g (by simp[hg]))⟩
end
end
end Go.Abs
namespace Go.Abs
open Go
structure AS where
 t:List (Nat×V)
 h:List (Nat×(Nat×V))
def lk{α:Type}(i:Nat):List (Nat×α)->Option α
 | []=>none
 | (k,v)::r=>if i=k then some v else lk i r
def AS.get(A:AS)(i:Nat):V:=(lk i A.t).getD .b9
def AS.put(A:AS)(d:Option Nat)(v:V):AS:=match d with | some d=>{ A with t:=(d,v)::A.t } | none=>A
theorem AS.ay(A:AS)(d i:Nat)(v:V):(A.put (some d) v).get i=if i=d then v else A.get i:=by
 simp only[AS.get,AS.put,lk];split <;> rfl
def RVs(w:World)(Pb:Nat->Prop):List V->List Value->List Nat->Prop
 | [],xs,F=>xs=[]/\F=[]
 | v::vs,xs,F=> ∃ x xs' F1 F2,xs=x::xs'/\F=F1++F2/\(match v with
     | .agg us=> ∃ cs,x=.agg cs/\RL w Pb us cs.toList F1
     | .b9=>F1=[]
     | v=>R w Pb v [x] F1)/\RVs w Pb vs xs' F2
def Q2(w:World)(Pb:Nat->Prop)(v:V)(x:Value)(F:List Nat):Prop:=
 match v with
 | .tup vs=> ∃ xs:Array Value,x=.tuple xs/\RVs w Pb vs xs.toList F
 | .agg us=> ∃ cs,x=.agg cs/\RL w Pb us cs.toList F
 | .b9=>F=[]
 | v=>R w Pb v [x] F
def RV(w:World)(Pb:Nat->Prop)(v:V)(x:Value)(F:List Nat):Prop:=
 match v with
 | .gv b u=>F=[]/\(b=true->Q2 w Pb u x [])/\(b=false->x=undef)
 | v=>Q2 w Pb v x F
theorem rj{w w':World}{Pb Pb':Nat->Prop}:∀ (vs:List V) {xs F},RVs w Pb vs xs F->(∀ g,Pb g->w'.heap[g]? =w.heap[g]?)->(∀ g,g∈F->w'.heap[g]? =w.heap[g]?)->
 (∀ g,Pb g->Pb' g)->(∀ g,g∈F->¬ Pb' g)->RVs w' Pb' vs xs F
 | [],_,_,h,_,_,_,_=>h
 | v::vs,xs,F,h,k1,k2,k3,k4=>by
   obtain⟨x,xs',F1,F2,hx,rfl,h1,h2⟩:=h
   refine⟨x,xs',F1,F2,hx,rfl,?_,rj vs h2 k1 (fun g hg=>k2 g (by simp[hg])) k3 (fun g hg=>k4 g (by simp[hg]))⟩
   cases v with
   | agg us=>obtain⟨cs,e,h1⟩:=h1;exact⟨cs,e,dB us h1 k1 (fun g hg=>k2 g (by simp[hg])) k3 (fun g hg=>k4 g (by simp[hg]))⟩
   | b9=>exact h1
   | _=>exact fm _ h1 k1 (fun g hg=>k2 g (by simp[hg])) k3 (fun g hg=>k4 g (by simp[hg]))
theorem eI{w w':World} {Pb Pb':Nat->Prop} (v:V) {x F} (h:Q2 w Pb v x F) (k1:∀ g,Pb g->w'.heap[g]? =w.heap[g]?) (k2:∀ g,g∈F->w'.heap[g]? =w.heap[g]?)
 (k3:∀ g,Pb g->Pb' g) (k4:∀ g,g∈F->¬ Pb' g):Q2 w' Pb' v x F:=by
 cases v with
 | tup vs=>obtain⟨xs,e,h⟩:=h;exact⟨xs,e,rj vs h k1 k2 k3 k4⟩
 | agg us=>obtain⟨cs,e,h⟩:=h;exact⟨cs,e,dB us h k1 k2 k3 k4⟩
 | b9=>exact h
 | _=>exact fm _ h k1 k2 k3 k4
theorem lq{w w':World} {Pb Pb':Nat->Prop} (v:V) {x F} (h:RV w Pb v x F) (k1:∀ g,Pb g->w'.heap[g]? =w.heap[g]?) (k2:∀ g,g∈F->w'.heap[g]? =w.heap[g]?)
 (k3:∀ g,Pb g->Pb' g) (k4:∀ g,g∈F->¬ Pb' g):RV w' Pb' v x F:=by
 cases v with
 | gv b u=>obtain⟨hF,h1,h2⟩:=h;exact⟨hF,fun hb=>eI u (h1 hb) k1 (by simp) k3 (by simp),h2⟩
 | tup vs=>exact eI (.tup vs) h k1 k2 k3 k4
 | agg us=>exact eI (.agg us) h k1 k2 k3 k4
 | b9=>exact h
 | own sz xs g o c=>exact eI (.own sz xs g o c) h k1 k2 k3 k4
 | ow sz xs=>exact eI (.ow sz xs) h k1 k2 k3 k4
 | om es g=>exact eI (.om es g) h k1 k2 k3 k4
 | mp es=>exact eI (.mp es) h k1 k2 k3 k4
 | lit x=>exact eI (.lit x) h k1 k2 k3 k4
 | sl f xs=>exact eI (.sl f xs) h k1 k2 k3 k4
 | hd r p sz g o lo n c=>exact eI (.hd r p sz g o lo n c) h k1 k2 k3 k4
 | ptr r p g o=>exact eI (.ptr r p g o) h k1 k2 k3 k4
 | ep v=>exact eI (.ep v) h k1 k2 k3 k4
def Shp(w w':World):Prop:= ∀ (g:Nat) (c:Array Value) (e:TypeId) (fr:Nat×Nat),w.heap[g]? =some (.cells c e fr)->∃ c':Array Value,w'.heap[g]? =some (.cells c' e fr)/\c'.size=c.size
theorem Shp.refl(w:World):Shp w w:=fun _ c _ _ h=>⟨c,h,rfl⟩
theorem Shp.trans{a b c:World}(h:Shp a b)(k:Shp b c):Shp a c:=fun g x e fr hx=>by
 obtain⟨y,h1,h2⟩:=h g x e fr hx
 obtain⟨z,k1,k2⟩:=k g y e fr h1
 exact⟨z,k1,k2.trans h2⟩
theorem Shp.of_eq{w w':World}(h:∀ g:Nat,g<w.heap.size->w'.heap[g]? =w.heap[g]?):Shp w w':=fun g c e fr hc=>by
 have hl:g<w.heap.size:=(Array.getElem?_eq_some_iff.1 hc).1
 exact⟨c,(h g hl).trans hc,rfl⟩
structure w8 (Pb:Nat->Prop) (w w':World):Prop where
 os:w'.os=w.os
 tape:w'.tape=w.tape
 output:w'.output=w.output
 size:w.heap.size<=w'.heap.size
 block:∀ g,Pb g->w'.heap[g]? =w.heap[g]?
 shape:Shp w w'
theorem w8.refl(Pb:Nat->Prop)(w:World):w8 Pb w w:=⟨rfl,rfl,rfl,Nat.le_refl _,fun _ _=>rfl,Shp.refl _⟩
theorem w8.trans{Pb Pb':Nat->Prop}{a b c:World}(h:w8 Pb a b)(k:w8 Pb' b c)(hp:∀ g,Pb g->Pb' g):w8 Pb a c:=
 ⟨k.os.trans h.os,k.tape.trans h.tape,k.output.trans h.output,Nat.le_trans h.size k.size,fun g hg=>(k.block g (hp g hg)).trans (h.block g hg),h.shape.trans k.shape⟩
def At(w:World)(Pb:Nat->Prop)(v:V)(g o:Nat)(F:List Nat):Prop:=
 ∃ cs cells,Blk w g cells/\R w Pb v cs F/\∀ j u,cs[j]? =some u->cells[o+j]? =some u
structure s4 (N:Nat) (Pb Kb:Nat->Prop) (A:AS) (a:Act) (w:World) (F:l9->List Nat):Prop where
 size:a.tmps.size=N
 defers:a.defers=[]
 slot:∀ i,RV w Pb (A.get i) (a.tmps.getD i undef) (F (.slot i))
 root:∀ k g v,lk k A.h=some (g,v)->∃ F',F (.key k)=g::F'/\At w Pb v g 0 F'
 bM:∀ r r',r≠r'->∀ g,g∈F r->g ∉ F r'
 nodup:∀ r,(F r).Nodup
 free:∀ r g,g∈F r->¬ Kb g/\g<w.heap.size
 sub:∀ g,Pb g->Kb g
 bound:∀ g,Kb g->g<w.heap.size
def Nx(N:Nat)(Pb Kb:Nat->Prop)(w:World)(K:AS->Prop)(a':Act)(w':World):Prop:=
 ∃ A' Pb' C5 F',K A'/\s4 N Pb' C5 A' a' w' F'/\(∀ g,Pb g->Pb' g)/\(∀ g,Kb g->C5 g)/\(∀ g,Pb' g->Pb g\/¬ Kb g)/\w8 Kb w w'
def bL(F:l9->List Nat)(r:l9)(l:List Nat):l9->List Nat:=fun r'=>if r'=r then l else F r'
theorem s4.put{N:Nat} {Pb Kb:Nat->Prop} {A:AS} {a:Act} {w:World} {F:l9->List Nat} (h:s4 N Pb Kb A a w F) {d:Nat} {v:V} {x:Value} {F':List Nat}
 (hd:d<N) (hv:RV w Pb v x F') (h1:∀ r,r≠.slot d->∀ g,g∈F'->g ∉ F r) (h2:F'.Nodup) (h3:∀ g,g∈F'->¬ Kb g/\g<w.heap.size):
 s4 N Pb Kb (A.put (some d) v) (a.put (some d) x) w (bL F (.slot d) F') where
 size:=by simp[Act.put,h.size]
 defers:=by simpa[Act.put] using h.defers
 slot:=fun i=>by
  rw[AS.ay]
  by_cases e:i=d
  subst e
  simp only[if_true,bL]
  have hx:(a.put (some i) x).tmps.getD i undef=x:=by simp[Act.put,h.size,hd]
  rw[hx];exact hv
  have hne:l9.slot i≠l9.slot d:=fun c=>e (by injection c)
  simp only[if_neg e,bL,if_neg hne]
  have hx:(a.put (some d) x).tmps.getD i undef=a.tmps.getD i undef:=by
   simp[Act.put,Array.getElem?_setIfInBounds_ne (Ne.symm e)]
  rw[hx];exact h.slot i
 root:=fun k g v hk=>by
  obtain⟨KH,e,hr⟩:=h.root k g v hk
  exact⟨KH,by simpa[bL] using e,hr⟩
 bM:=fun r r' hne g hg=>by
  simp only[bL]at hg ⊢
  by_cases e:r=.slot d
  subst e
  rw[if_neg (Ne.symm hne)]
  simp only[if_true]at hg
  exact h1 r' (Ne.symm hne) g hg
  rw[if_neg e]at hg
  by_cases e':r'=.slot d
  rw[if_pos e']
  exact fun MB=>h1 r e g MB hg
  rw[if_neg e']
  exact h.bM r r' hne g hg
 nodup:=fun r=>by
  simp only[bL];split
  exact h2
  exact h.nodup r
 free:=fun r g hg=>by
  simp only[bL]at hg
  split at hg
  exact h3 g hg
  exact h.free r g hg
 sub:=h.sub
 bound:=h.bound
def bX(N:Nat)(d:Option Nat):Prop:=match d with | some d=>d<N | none=>True
theorem s4.ou{N:Nat} {Pb Kb:Nat->Prop} {A:AS} {a:Act} {w:World} {F:l9->List Nat} (h:s4 N Pb Kb A a w F) {d:Option Nat} {v:V} {x:Value}
 (hd:bX N d) (hv:RV w Pb v x []):∃ F',s4 N Pb Kb (A.put d v) (a.put d x) w F':=by
 cases d with
 | none=>exact⟨F,h⟩
 | some d=>exact⟨_,h.put hd hv (by simp) (by simp) (by simp)⟩
def D5(P:Program)(N:Nat)(o:Oper)(A:AS)(K:AS->Prop):Prop:=
 ∀ Pb Kb a w F Q,s4 N Pb Kb A a w F->o.wp P a w (Nx N Pb Kb w K) Q
theorem gN{P:Program} {N:Nat} {o:Oper} {A:AS} {K:AS->Prop} {v:V} (hd:bX N o.dst) (hK:K (A.put o.dst v))
 (h:∀ Pb Kb a w F,s4 N Pb Kb A a w F->∃ x,(execOp a.eval o).run P w=.ok (.value x) w/\RV w Pb v x []):D5 P N o A K:=by
 intro Pb Kb a w F Q hs
 obtain⟨x,hx,hr⟩:=h Pb Kb a w F hs
 unfold Oper.wp
 rw[hx,Oper.upon_value]
 obtain⟨F',x7⟩:=hs.ou hd hr
 exact⟨_,Pb,Kb,F',hK,x7,fun _ h=>h,fun _ h=>h,fun _ h=>.inl h,w8.refl _ _⟩
inductive D where
 | int (k:IntKind) | bool | str | ptr (e:Nat) | sl (e:Nat) | arr (n e:Nat) | map (k e:Nat) | st (fs:List (Nat×Nat)) | other
 deriving DecidableEq
structure TI where
 sz:Nat
 Kg:Nat
 d:D
def cO:TypeDesc->D
 | .int k=>.int k | .bool=>.bool | .string=>.str | .pointer e=>.ptr e | .slice e=>.sl e | .array n e=>.arr n e | .map k e=>.map k e
 | .struct fs=>.st (fs.toList.map fun f=>(f.offset,f.type))
 | _=>.other
def ti(P:Program)(T:Nat):Option TI:=match P.info? T,P.underlying T with | some i,some d=>some ⟨i.size,i.bytes,cO d⟩ | _,_=>none
def D.agg:D->Bool | .st _ | .arr _ _=>true | _=>false
theorem ib{P:Program}{T:Nat}{i:TI}(h:ti P T=some i):∃ inf d,P.info? T=some inf/\P.underlying T=some d/\inf.size=i.sz/\inf.bytes=i.Kg/\cO d=i.d:=by
 unfold ti at h
 cases h1:P.info? T with
 | none=>simp[h1]at h
 | some inf=>cases h2:P.underlying T with
   | none=>simp[h1,h2]at h
   | some d=>simp[h1,h2]at h;subst h;exact⟨inf,d,rfl,rfl,rfl,rfl,rfl⟩
def PM:Value->V
 | .slice none 0 0=>.sl true []
 | x=>.lit x
def cV:Value->V
 | .agg cs=>if cs.toList.all (·.oneCell') then .agg (cs.toList.map PM) else .b9
 | .tuple _=>.b9
 | x=>PM x
def AS.ev(A:AS):Operand->V
 | .tmp i=>A.get i
 | .const v=>cV v
 | .global g=>.ptr (.key (9000+g)) [] g 0
 | .func f=>.lit (.func (.func f) #[] #[])
mutual
def V.NG(r:l9)(p:List Nat):V->V
 | .own sz xs g o c=>.hd r p sz g o 0 xs.length c
 | .ow .. =>.b9
 | .om _ g=>.lit (.map (some g))
 | .agg vs=>.agg (V.Dd r p 0 vs)
 | v=>v
def V.Dd(r:l9)(p:List Nat)(j:Nat):List V->List V
 | []=>[]
 | v::vs=>v.NG r (p++[j])::V.Dd r p (j+1) vs
end
mutual
def V.cB:V->Bool
 | .own .. =>true
 | .ow .. =>true
 | .om .. =>true
 | .agg vs=>V.aD vs
 | .tup vs=>V.aD vs
 | _=>false
def V.aD:List V->Bool
 | []=>false
 | v::vs=>v.cB||V.aD vs
end
def V.cp(r:l9):V->V
 | .tup _=>.b9
 | .gv _ _=>.b9
 | v=>v.NG r []
def Ai(A:AS)(x:Operand)(y:V):V:=
 match A.ev x with
 | .tup vs=>if V.aD vs=true then .b9 else .tup vs
 | _=>y
def AS.cp(A:AS):Operand->V
 | .tmp i=>(A.get i).cp (.slot i)
 | x=>A.ev x
def iT(op:BinOp)(k:IntKind)(a b:Int):Option (Prop×V):=
 match op with
 | .add=>some (True,.lit (.int k (k.wrap (a+b))))
 | .sub=>some (True,.lit (.int k (k.wrap (a-b))))
 | .mul=>some (True,.lit (.int k (k.wrap (a*b))))
 | .quo=>some (b≠0,.lit (.int k (k.wrap (a.tdiv b))))
 | .rem=>some (b≠0,.lit (.int k (a.tmod b)))
 | .eql=>some (True,.lit (.bool (a==b)))
 | .neq=>some (True,.lit (.bool (a != b)))
 | .lss=>some (True,.lit (.bool (decide (a<b))))
 | .leq=>some (True,.lit (.bool (decide (a<=b))))
 | .gtr=>some (True,.lit (.bool (decide (a>b))))
 | .geq=>some (True,.lit (.bool (decide (a>=b))))
 | .and=>some (True,.lit (.int k (k.wrap ((BitVec.ofInt k.bits a &&& BitVec.ofInt k.bits b).toNat))))
 | .xor=>some (True,.lit (.int k (k.wrap ((BitVec.ofInt k.bits a ^^^ BitVec.ofInt k.bits b).toNat))))
 | .shr=>some (0<=b,.lit (.int k (a.fdiv (2 ^ min b.toNat k.bits))))
 | .shl=>some (0<=b,.lit (.int k (k.wrap (a*2 ^ min b.toNat k.bits))))
 | _=>none
def Nz(k:IntKind)(n:Int):Prop:=
 match k with
 | .i64=> -9223372036854775808<=n/\n<=9223372036854775807
 | .i32=> -2147483648<=n/\n<=2147483647
 | .u8=>0<=n/\n<=255
 | k=>k.wrap n=n
def uB(op:BinOp)(k:IntKind)(a b:Int):Option (Prop×V):=
 match op with
 | .add=>some (Nz k (a+b),.lit (.int k (a+b)))
 | .sub=>some (Nz k (a-b),.lit (.int k (a-b)))
 | .mul=>some (Nz k (a*b),.lit (.int k (a*b)))
 | .quo=>some (0<=a/\0<b/\Nz k a,.lit (.int k (a / b)))
 | .rem=>some (0<=a/\0<b,.lit (.int k (a % b)))
 | .and=>some (0<=a/\0<=b/\Nz k a/\Nz k b,.lit (.int k ((a.toNat &&& b.toNat:Nat):Int)))
 | .xor=>some (0<=a/\0<=b/\Nz k a/\Nz k b,.lit (.int k ((a.toNat ^^^ b.toNat:Nat):Int)))
 | .shr=>some (0<=b/\b<k.bits,.lit (.int k (a.fdiv (2 ^ b.toNat))))
 | op=>iT op k a b
def uc(op:BinOp)(a b:ByteArray):Option (Prop×V):=
 match op with
 | .add=>some (a.size+b.size<=4611686018427387904,.lit (.string (a++b)))
 | .eql=>some (True,.lit (.bool (a.toList==b.toList)))
 | .neq=>some (True,.lit (.bool (!(a.toList==b.toList))))
 | _=>none
def AA(op:BinOp)(a b:Bool):Option (Prop×V):=
 match op with
 | .eql=>some (True,.lit (.bool (a==b)))
 | .neq=>some (True,.lit (.bool (!(a==b))))
 | _=>none
def ry(op:BinOp)(d:Option D)(x y:V):Option (Prop×V):=
 match d,x,y with
 | some (.int _),.lit (.int k a),.lit (.int k' b)=>if op=.shr\/op=.shl then uB op k a b else if k=k' then uB op k a b else none
 | some .str,.lit (.string a),.lit (.string b)=>uc op a b
 | some .bool,.lit (.bool a),.lit (.bool b)=>AA op a b
 | _,_,_=>none
def T8(op:UnOp)(x:V):Option (Prop×V):=
 match op,x with
 | .not,.lit (.bool b)=>some (True,.lit (.bool (!b)))
 | .neg,.lit (.int k n)=>some (Nz k (-n),.lit (.int k (-n)))
 | _,_=>none
def tD(P:Program)(T:Nat):Option D:=(ti P T).map (·.d)
def TZ:V->Bool×V
 | .gv b v=>(b,v)
 | v=>(true,v)
def Ap(A:AS)(a b:Operand):V->Option (Prop×V)
 | .lit (.bool c)=>match TZ (A.ev a),TZ (A.ev b) with
   | (ga,.lit (.bool x)),(gb,.lit (.bool y))=>some ((c=true->ga=true)/\(c=false->gb=true),.lit (.bool (cond c x y)))
   | _,_=>none
 | _=>none
def EM:Option D->Option D->V->Option (Prop×V)
 | some (.int _),some (.int k),.lit (.int _ n)=>some (Nz k n,.lit (.int k n))
 | some .str,some .str,.lit (.string s)=>some (True,.lit (.string s))
 | _,_,_=>none
def Vn(s:ByteArray)(i:Int):V:=.lit (.int .u8 (s.data.getD i.toNat 0).toNat)
def DT:Option D->V->V->Option (Prop×V)
 | some .str,.lit (.string s),.lit (.int _ i)=>some (0<=i/\i<s.size,Vn s i)
 | _,_,_=>none
def Q5:Option V->Option Int
 | none=>some 0
 | some (.lit (.int _ l))=>some l
 | _=>none
def Qt(n:Nat):Option V->Option Int
 | none=>some n
 | some (.lit (.int _ l))=>some l
 | _=>none
def Dv(s:ByteArray)(lo hi:Option V):Option (Prop×V):=
 match Q5 lo,Qt s.size hi with
 | some l,some h=>some (0<=l/\l<=h/\h<=s.size,.lit (.string (s.extract l.toNat h.toNat)))
 | _,_=>none
def AK(d:Option D)(x:V)(lo hi:Option V):Option (Prop×V):=
 match d,x with
 | some .str,.lit (.string s)=>Dv s lo hi
 | _,_=>none
def xP:Option D->V->Option (Prop×V)
 | some .str,.lit (.string s)=>some (True,.lit (.int .i64 s.size))
 | some (.sl _),.sl _ xs=>some (True,.lit (.int .i64 xs.length))
 | some (.sl _),.own _ xs _ _ _=>some (True,.lit (.int .i64 xs.length))
 | some (.sl _),.hd _ _ _ _ _ _ n _=>some (True,.lit (.int .i64 n))
 | _,_=>none
def EA:V->Nat->Option (Prop×V)
 | .tup vs,i=>match vs[i]? with
   | some v=>if v.cB then none else some (True,v)
   | none=>none
 | _,_=>none
def vG(P:Program)(A:AS)(c:Call):Option (Prop×V):=
 match c.callee with
 | .builtin .len=>match c.args.toList,c.argTypes.toList with
   | [x],[T]=>xP (tD P T) (A.ev x)
   | _,_=>none
 | _=>none
def Mm(P:Program)(A:AS):Op->Option (Prop×V)
 | .move x=>some (True,Ai A x (A.cp x))
 | .pick c a b=>Ap A a b (A.ev c)
 | .binOp op T x y _=>ry op (tD P T) (A.ev x) (A.ev y)
 | .unOp op _ x=>T8 op (A.ev x)
 | .convert s d x=>EM (tD P s) (tD P d) (A.ev x)
 | .index T x i=>DT (tD P T) (A.ev x) (A.ev i)
 | .slice T x lo hi none=>AK (tD P T) (A.ev x) (lo.map A.ev) (hi.map A.ev)
 | .call c=>vG P A c
 | .extract x i=>EA (A.ev x) i
 | _=>none
end Go.Abs
namespace Go.Abs
open Go
section
variable {w:World} {Pb:Nat->Prop}
mutual
theorem jA(r:l9):∀ (v:V) (p:List Nat) {cs F},R w Pb v cs F->R w Pb (v.NG r p) cs []
 | .own sz xs g o c,p,cs,F,h=>by
   rcases h with ⟨h1,h2,h3,A,h4⟩ | ⟨h1,h2,h3,h4,_⟩
   subst h1 h2;exact⟨rfl,Nat.le_refl _,A,h4,fun h=>absurd h (by omega)⟩
   exact⟨rfl,h3,_,h4,fun _=>by simp⟩
 | .ow ..,_,_,_,h=>by
   obtain⟨g,o,c,h⟩:=h
   rcases h with ⟨h1,h2,h3,A,h4⟩ | ⟨h1,h2,h3,h4,_⟩
   exact⟨rfl,_,h4,rfl⟩
   exact⟨rfl,_,h4,rfl⟩
 | .om ..,_,_,_,h=>⟨rfl,h.2.1,rfl⟩
 | .mp ..,_,_,_,h=>⟨rfl,h.2⟩
 | .agg vs,p,cs,F,h=>by simp only[R,V.NG]at h ⊢;exact xx r vs p 0 h
 | .tup _,_,_,_,h=>by simp[R]at h
 | .gv _ _,_,_,_,h=>by simp[R]at h
 | .lit x,_,_,_,h=>⟨h.1,h.2.1,rfl⟩
 | .sl ..,_,_,_,h=>⟨rfl,h.2⟩
 | .hd ..,_,_,_,h=>⟨rfl,h.2⟩
 | .ptr ..,_,_,_,h=>⟨rfl,h.2⟩
 | .ep _,_,_,_,h=>⟨rfl,h.2⟩
 | .b9,_,_,_,h=>⟨rfl,h.2⟩
theorem xx(r:l9):∀ (vs:List V) (p:List Nat) (j:Nat) {cs F},RL w Pb vs cs F->RL w Pb (V.Dd r p j vs) cs []
 | [],_,_,_,_,h=>⟨h.1,rfl⟩
 | v::vs,p,j,cs,F,h=>by
   obtain⟨c1,c2,F1,F2,rfl,_,h1,h2⟩:=h
   exact⟨c1,c2,[],[],rfl,rfl,jA r v _ h1,xx r vs p (j+1) h2⟩
end
mutual
theorem hX:∀ (v:V) {cs F},v.cB=false->R w Pb v cs F->F=[]
 | .own ..,_,_,ho,_=>by simp[V.cB]at ho
 | .ow ..,_,_,ho,_=>by simp[V.cB]at ho
 | .om ..,_,_,ho,_=>by simp[V.cB]at ho
 | .mp ..,_,_,_,h=>h.1
 | .agg vs,_,_,ho,h=>by simp only[R]at h;exact fc vs (by simpa[V.cB] using ho) h
 | .tup _,_,_,_,h=>by simp[R]at h
 | .gv _ _,_,_,_,h=>by simp[R]at h
 | .lit x,_,_,_,h=>h.2.2
 | .sl ..,_,_,_,h=>h.1
 | .hd ..,_,_,_,h=>h.1
 | .ptr ..,_,_,_,h=>h.1
 | .ep _,_,_,_,h=>h.1
 | .b9,_,_,_,h=>h.1
theorem fc:∀ (vs:List V) {cs F},V.aD vs=false->RL w Pb vs cs F->F=[]
 | [],_,_,_,h=>h.2
 | v::vs,_,_,ho,h=>by
   obtain⟨c1,c2,F1,F2,_,rfl,h1,h2⟩:=h
   simp only[V.aD,Bool.or_eq_false_iff]at ho
   rw[hX v ho.1 h1,fc vs ho.2 h2];rfl
end
theorem rQ:∀ (vs:List V) {xs F},V.aD vs=false->RVs w Pb vs xs F->F=[]
 | [],_,_,_,h=>h.2
 | v::vs,_,_,ho,h=>by
   obtain⟨x,xs',F1,F2,_,rfl,h1,h2⟩:=h
   simp only[V.aD,Bool.or_eq_false_iff]at ho
   rw[rQ vs ho.2 h2]
   cases v with
   | agg us=>obtain⟨cs,_,h1⟩:=h1;rw[fc us (by simpa[V.cB] using ho.1) h1];rfl
   | b9=>rw[h1];rfl
   | tup _=>simp[R]at h1
   | gv _ _=>simp[R]at h1
   | _=>rw[hX _ ho.1 h1];rfl
theorem IS{v:V}{x:Value}{F:List Nat}(r:l9)(h:RV w Pb v x F):RV w Pb (v.cp r) x []:=by
 cases v with
 | tup _=>rfl
 | gv _ _=>rfl
 | agg us=>obtain⟨cs,e,h⟩:=h;exact⟨cs,e,xx r us [] 0 h⟩
 | b9=>rfl
 | own sz xs g o c=>exact jA (w:=w) (Pb:=Pb) r (.own sz xs g o c) [] h
 | ow sz xs=>rfl
 | om es g=>exact jA (w:=w) (Pb:=Pb) r (.om es g) [] h
 | mp es=>exact jA (w:=w) (Pb:=Pb) r (.mp es) [] h
 | lit x=>exact jA (w:=w) (Pb:=Pb) r (.lit x) [] h
 | sl f xs=>exact jA (w:=w) (Pb:=Pb) r (.sl f xs) [] h
 | hd r' p sz g o lo n c=>exact jA (w:=w) (Pb:=Pb) r (.hd r' p sz g o lo n c) [] h
 | ptr r' p g o=>exact jA (w:=w) (Pb:=Pb) r (.ptr r' p g o) [] h
 | ep v=>exact jA (w:=w) (Pb:=Pb) r (.ep v) [] h
theorem EK{x:Value}(h:x.oneCell'=true):R w Pb (PM x) [x] []:=by
 unfold PM
 split
 exact⟨rfl,none,0,rfl,Nat.le_refl _,fun _=>rfl,.inl rfl⟩
 exact⟨h,rfl,rfl⟩
theorem CB:∀ (l:List Value),l.all (·.oneCell')=true->RL w Pb (l.map PM) l []
 | [],_=>⟨rfl,rfl⟩
 | x::l,h=>by
   simp only[List.all_cons,Bool.and_eq_true]at h
   exact⟨[x],l,[],[],rfl,rfl,EK h.1,CB l h.2⟩
theorem qv(x:Value):RV w Pb (cV x) x []:=by
 cases x with
 | agg cs=>
   unfold cV
   by_cases h:cs.toList.all (·.oneCell')=true
   simp only[h,if_true];exact⟨cs,rfl,CB _ h⟩
   simp only[h];rfl
 | tuple _=>rfl
 | slice a n c=>
   have h:=EK (w:=w) (Pb:=Pb) (x:=.slice a n c) rfl
   unfold cV;simp only
   revert h
   unfold PM
   split <;> exact fun h=>h
 | _=>exact⟨rfl,rfl,rfl⟩
variable {N:Nat} {Kb:Nat->Prop} {A:AS} {a:Act} {F:l9->List Nat}
theorem df(h:s4 N Pb Kb A a w F)(x:Operand):∃ Fx,RV w Pb (A.ev x) (a.eval x) Fx:=by
 cases x with
 | tmp i=>exact⟨_,h.slot i⟩
 | const v=>exact⟨[],qv v⟩
 | global g=>exact⟨[],rfl,rfl⟩
 | func f=>exact⟨[],rfl,rfl,rfl⟩
theorem bJ(h:s4 N Pb Kb A a w F){x:Operand}{y:Value}(e:A.ev x=.lit y):a.eval x=y:=by
 obtain⟨Fx,hr⟩:=df h x
 rw[e]at hr
 have:=hr.2.1
 simpa using this
theorem nM(h:s4 N Pb Kb A a w F)(x:Operand):RV w Pb (A.cp x) (a.eval x) []:=by
 cases x with
 | tmp i=>exact IS (.slot i) (h.slot i)
 | const v=>exact qv v
 | global g=>exact⟨rfl,rfl⟩
 | func f=>exact⟨rfl,rfl,rfl⟩
variable {P:Program}
theorem aC{T:Nat}{d:TypeDesc}(h:P.underlying T=some d):(underlying T).run P w=.ok d w:=by
 simp[underlying,h]
theorem cd{T:Nat}{d:D}(h:tD P T=some d):∃ td,P.underlying T=some td/\cO td=d:=by
 unfold tD at h
 cases hi:ti P T with
 | none=>simp[hi]at h
 | some i=>
   obtain⟨inf,td,_,h2,_,_,h5⟩:=ib hi
   simp[hi]at h
   exact⟨td,h2,h5.trans h⟩
theorem qP(op:BinOp)(T:Nat)(x y:Operand){u v:Value}(hu:∀ cs,u≠.agg cs)(hn:u≠.nilIface):(eqGuard op T x y u v).run P w=.ok () w:=by
 unfold eqGuard
 cases op <;> first | rfl | (cases u <;> first | (exact absurd rfl hn) | (exact absurd rfl (hu _)) | rfl)
theorem DA{op:BinOp}{k:IntKind}{p q:Int}{C:Prop}{v:V}(h:iT op k p q=some (C,v))(hC:C){T:Nat}(hs:op=.shr\/op=.shl->∀ yk,∃ x,(binOp op T (.int k p) (.int yk q)).run P w=.ok x w/\v=.lit x/\x.oneCell'=true):
 ∃ x,(binOp op T (.int k p) (.int k q)).run P w=.ok x w/\v=.lit x/\x.oneCell'=true:=by
 cases op <;> simp only[iT,Option.some.injEq,Prod.mk.injEq,reduceCtorEq]at h <;> obtain⟨rfl,rfl⟩:=h
 all_goals first
  | exact hs (.inl rfl) k
  | exact hs (.inr rfl) k
  | (refine⟨_,?_,rfl,rfl⟩
     simp only[binOp,ne_eq,not_true_eq_false,if_false]
     first | rfl | (unfold Op.intDiv;rw[if_neg hC];rfl))
theorem CI{op:BinOp}(ho:op=.shr\/op=.shl){k yk:IntKind}{p q:Int}{C:Prop}{v:V}(h:iT op k p q=some (C,v))(hC:C){T:Nat}:
 ∃ x,(binOp op T (.int k p) (.int yk q)).run P w=.ok x w/\v=.lit x/\x.oneCell'=true:=by
 rcases ho with rfl | rfl <;> simp only[iT,Option.some.injEq,Prod.mk.injEq]at h <;> obtain⟨rfl,rfl⟩:=h <;>
  exact⟨_,by simp[binOp,Op.shift,Int.not_lt.2 hC],rfl,rfl⟩
theorem sw{T:Nat}(hu:P.underlying T=some .bool)(p q:Bool):(Op.equal T (.bool p) (.bool q)).run P w=.ok (p==q) w:=by
 obtain⟨n,hn⟩:∃ n,Op.maxDepth=n+1:=⟨9999,rfl⟩
 unfold Op.equal
 rw[hn]
 simp only[Op.equalIn,Sem.run_bind,aC hu,Result.andThen_ok,Sem.run_pure]
theorem jP{k:IntKind}{n:Int}(h:Nz k n):k.wrap n=n:=by
 cases k <;> simp only[Nz]at h <;> first | exact h | (simp only[IntKind.wrap,IntKind.bits,IntKind.signed,Bool.true_and,Bool.false_and];split <;> simp_all <;> omega)
def RW(k:IntKind):Nat:=if k.signed then k.bits-1 else k.bits
theorem Bw(k:IntKind):2 ^ RW k<=2 ^ k.bits:=Nat.pow_le_pow_right (by decide) (by unfold RW;split <;> omega)
theorem rF{k:IntKind}{m:Nat}(h:m<2 ^ RW k):k.wrap (m:Int)=m:=by
 unfold IntKind.wrap
 cases k <;> simp[RW,IntKind.bits,IntKind.signed]at h ⊢ <;> omega
theorem lB{k:IntKind}{n:Int}(h:Nz k n)(h0:0<=n):n.toNat<2 ^ RW k:=by
 have hw:=jP h
 obtain⟨q,rfl⟩:=Int.eq_ofNat_of_zero_le h0
 unfold IntKind.wrap at hw
 cases k <;> simp[IntKind.bits,IntKind.signed,RW]at hw ⊢ <;> (try split at hw) <;> omega
theorem uJ{op:BinOp}{k:IntKind}{p q:Int}{C:Prop}{v:V}(h:uB op k p q=some (C,v))(hC:C):∃ C',iT op k p q=some (C',v)/\C':=by
 cases op <;> simp only[uB,Option.some.injEq,Prod.mk.injEq]at h
 case add=>obtain⟨rfl,rfl⟩:=h;exact⟨_,by simp only[iT,jP hC],trivial⟩
 case sub=>obtain⟨rfl,rfl⟩:=h;exact⟨_,by simp only[iT,jP hC],trivial⟩
 case mul=>obtain⟨rfl,rfl⟩:=h;exact⟨_,by simp only[iT,jP hC],trivial⟩
 case quo=>
  obtain⟨rfl,rfl⟩:=h
  obtain⟨h0,h1,h2⟩:=hC
  refine⟨_,?_,show q≠0 by omega⟩
  have e:p.tdiv q=p / q:=Int.tdiv_eq_ediv_of_nonneg h0
  have hd:0<=p / q:=Int.ediv_nonneg h0 (by omega)
  have hle:p / q<=p:=Int.ediv_le_self _ h0
  have hb:=lB h2 h0
  have:=rF (k:=k) (m:=(p / q).toNat) (by omega)
  rw[Int.toNat_of_nonneg hd]at this
  simp only[iT,e,this]
 case rem=>
  obtain⟨rfl,rfl⟩:=h
  obtain⟨h0,h1⟩:=hC
  refine⟨_,?_,show q≠0 by omega⟩
  simp only[iT,Int.tmod_eq_emod_of_nonneg h0]
 case and=>
  obtain⟨rfl,rfl⟩:=h
  obtain⟨h0,h1,h2,h3⟩:=hC
  refine⟨_,?_,trivial⟩
  obtain⟨a,rfl⟩:=Int.eq_ofNat_of_zero_le h0
  obtain⟨b,rfl⟩:=Int.eq_ofNat_of_zero_le h1
  have ha:=lB h2 h0
  have hb:=lB h3 h1
  have hk:=Bw k
  simp only[Int.toNat_natCast]at ha hb
  have e:(BitVec.ofInt k.bits (a:Int) &&& BitVec.ofInt k.bits (b:Int)).toNat=a &&& b:=by
   simp only[BitVec.toNat_and,BitVec.toNat_ofInt]
   rw[Int.emod_eq_of_lt (by omega) (by exact_mod_cast Nat.lt_of_lt_of_le ha hk),Int.emod_eq_of_lt (by omega) (by exact_mod_cast Nat.lt_of_lt_of_le hb hk)];rfl
  have:=rF (k:=k) (m:=a &&& b) (Nat.lt_of_le_of_lt Nat.and_le_left ha)
  simp only[iT,e,this,Int.toNat_natCast]
 case xor=>
  obtain⟨rfl,rfl⟩:=h
  obtain⟨h0,h1,h2,h3⟩:=hC
  refine⟨_,?_,trivial⟩
  obtain⟨a,rfl⟩:=Int.eq_ofNat_of_zero_le h0
  obtain⟨b,rfl⟩:=Int.eq_ofNat_of_zero_le h1
  have ha:=lB h2 h0
  have hb:=lB h3 h1
  have hk:=Bw k
  simp only[Int.toNat_natCast]at ha hb
  have e:(BitVec.ofInt k.bits (a:Int) ^^^ BitVec.ofInt k.bits (b:Int)).toNat=a ^^^ b:=by
   simp only[BitVec.toNat_xor,BitVec.toNat_ofInt]
   rw[Int.emod_eq_of_lt (by omega) (by exact_mod_cast Nat.lt_of_lt_of_le ha hk),Int.emod_eq_of_lt (by omega) (by exact_mod_cast Nat.lt_of_lt_of_le hb hk)];rfl
  have:=rF (k:=k) (m:=a ^^^ b) (Nat.xor_lt_two_pow ha hb)
  simp only[iT,e,this,Int.toNat_natCast]
 case shr=>
  obtain⟨rfl,rfl⟩:=h
  obtain⟨h1,h2⟩:=hC
  refine⟨_,?_,h1⟩
  have:min q.toNat k.bits=q.toNat:=by omega
  simp only[iT,this]
 all_goals exact⟨_,h,hC⟩
theorem Et{op:BinOp}{x y:V}{C:Prop}{v:V}{T:Nat}(h:ry op (tD P T) x y=some (C,v))(hC:C):
 ∃ u u',x=.lit u/\y=.lit u'/\(∀ cs,u≠.agg cs)/\u≠.nilIface/\∃ z,(binOp op T u u').run P w=.ok z w/\v=.lit z/\z.oneCell'=true:=by
 unfold ry at h
 split at h
 rename_i k p k' q _
 refine⟨_,_,rfl,rfl,by simp,by simp,?_⟩
 split at h
 rename_i ho;obtain⟨C',h',Vj⟩:=uJ h hC;exact CI ho h' Vj
 rename_i ho
 split at h
 rename_i hk;subst hk;obtain⟨C',h',Vj⟩:=uJ h hC;exact DA h' Vj (fun h=>absurd h ho)
 simp at h
 rename_i p q _
 refine⟨_,_,rfl,rfl,by simp,by simp,?_⟩
 cases op <;> simp only[uc,Option.some.injEq,Prod.mk.injEq,reduceCtorEq]at h <;> obtain⟨rfl,rfl⟩:=h
 refine⟨_,?_,rfl,rfl⟩
 have: ¬ (((p.size+q.size:Nat):Int)>IntKind.i64.max):=by
  have:IntKind.i64.max=9223372036854775807:=by decide
  omega
 simp only[binOp,Op.stringOp,if_neg this,Sem.run_pure]
 exact⟨_,rfl,rfl,rfl⟩
 exact⟨_,rfl,rfl,rfl⟩
 rename_i p q hT
 refine⟨_,_,rfl,rfl,by simp,by simp,?_⟩
 obtain⟨td,hu,hd⟩:=cd hT
 have SK:td=.bool:=by cases td <;> simp[cO]at hd ⊢
 subst SK
 cases op <;> simp only[AA,Option.some.injEq,Prod.mk.injEq,reduceCtorEq]at h <;> obtain⟨rfl,rfl⟩:=h
 exact⟨_,by simp only[binOp,Sem.run_bind,sw hu,Result.andThen_ok,Sem.run_pure],rfl,rfl⟩
 exact⟨_,by simp only[binOp,Sem.run_bind,sw hu,Result.andThen_ok,Sem.run_pure],rfl,rfl⟩
 simp at h
theorem cZ{x:Value}(h:x.oneCell'=true):RV w Pb (.lit x) x []:=⟨h,rfl,rfl⟩
theorem vV(h:s4 N Pb Kb A a w F){lo:Option Operand}{l:Int}(hl:Q5 (lo.map A.ev)=some l):(lo=none/\l=0)\/∃ k,(lo.map a.eval)=some (.int k l):=by
 cases lo with
 | none=>simp[Q5]at hl;exact .inl ⟨rfl,hl.symm⟩
 | some x=>
   right
   simp only[Option.map_some,Q5]at hl
   cases hx:A.ev x with
   | lit y=>
     cases y with
     | int k l'=>rw[hx]at hl;simp at hl;subst hl;exact⟨k,by simp[bJ h hx]⟩
     | _=>rw[hx]at hl;simp at hl
   | _=>rw[hx]at hl;simp at hl
theorem uu(h:s4 N Pb Kb A a w F){n:Nat}{hi:Option Operand}{l:Int}(hl:Qt n (hi.map A.ev)=some l):(hi=none/\l=n)\/∃ k,(hi.map a.eval)=some (.int k l):=by
 cases hi with
 | none=>simp[Qt]at hl;exact .inl ⟨rfl,hl.symm⟩
 | some x=>
   right
   simp only[Option.map_some,Qt]at hl
   cases hx:A.ev x with
   | lit y=>
     cases y with
     | int k l'=>rw[hx]at hl;simp at hl;subst hl;exact⟨k,by simp[bJ h hx]⟩
     | _=>rw[hx]at hl;simp at hl
   | _=>rw[hx]at hl;simp at hl
theorem iy{k:IntKind}{i:Int}{y:Nat}{code:BoundsCode}(h0:0<=i)(h1:i<=y):(Instr.sliceBound (.int k i) y code).run P w=.ok i.toNat w:=by
 simp[Instr.sliceBound,asIntOf,h0,h1]
theorem jq{sl:Bool} {n c:Nat} {lo hi:Option Value} {l h:Int} (hlo:(lo=none/\l=0)\/∃ k,lo=some (.int k l)) (hhi:(hi=none/\h=n)\/∃ k,hi=some (.int k h))
 (h0:0<=l) (h1:l<=h) (h2:h<=(c:Nat)) (hn:n<=c):(Instr.sliceBounds sl n c lo hi none).run P w=.ok (l.toNat,h.toNat,c) w:=by
 have hb:(h.toNat:Int)=h:=Int.toNat_of_nonneg (by omega)
 rcases hlo with ⟨rfl,rfl⟩ | ⟨k,rfl⟩ <;> rcases hhi with ⟨rfl,rfl⟩ | ⟨k',rfl⟩
 simp[Instr.sliceBounds]
 simp only[Instr.sliceBounds,Sem.run_bind,Sem.run_pure,Result.andThen_ok,iy (w:=w) (P:=P) (k:=k') (code:=if sl then .sliceAcap else .sliceAlen) (show 0<=h by omega) h2];rfl
 simp only[Instr.sliceBounds,Sem.run_bind,Sem.run_pure,Result.andThen_ok,Option.isSome,Bool.false_eq_true,if_false,iy (w:=w) (P:=P) (k:=k) (y:=n) (code:=.sliceB) h0 h1];rfl
 simp only[Instr.sliceBounds,Sem.run_bind,Sem.run_pure,Result.andThen_ok,Option.isSome,Bool.false_eq_true,if_false,iy (w:=w) (P:=P) (k:=k') (code:=if sl then .sliceAcap else .sliceAlen) (show 0<=h by omega) h2,
  iy (w:=w) (P:=P) (k:=k) (y:=h.toNat) (code:=.sliceB) h0 (by omega)]
theorem zp:∀ (vs:List V) {xs:List Value} {F:List Nat} {i:Nat} {v:V},RVs w Pb vs xs F->vs[i]? =some v->v.cB=false->∃ x,xs[i]? =some x/\RV w Pb v x []
 | [],_,_,_,_,_,h,_=>by simp at h
 | v::vs,xs,F,0,u,h,hi,ho=>by
     obtain⟨x,xs',F1,F2,rfl,rfl,h1,h2⟩:=h
     simp at hi;subst hi
     refine⟨x,rfl,?_⟩
     cases v with
     | agg us=>obtain⟨cs,e,h1⟩:=h1;exact⟨cs,e,by rw[fc us (by simpa[V.cB] using ho) h1]at h1;exact h1⟩
     | b9=>rfl
     | tup us=>simp[R]at h1
     | gv _ _=>simp[R]at h1
     | own=>simp[V.cB]at ho
     | ow=>simp[V.cB]at ho
     | om=>simp[V.cB]at ho
     | mp=>exact⟨rfl,h1.2⟩
     | lit=>exact⟨h1.1,h1.2.1,rfl⟩
     | sl=>exact⟨rfl,h1.2⟩
     | hd=>exact⟨rfl,h1.2⟩
     | ptr=>exact⟨rfl,h1.2⟩
     | ep=>exact⟨rfl,h1.2⟩
 | v::vs,xs,F,i+1,u,h,hi,ho=>by
     obtain⟨x,xs',F1,F2,rfl,rfl,h1,h2⟩:=h
     obtain⟨y,hy,hr⟩:=zp vs h2 (by simpa using hi) ho
     exact⟨y,by simpa using hy,hr⟩
theorem zx{op:Op}{C:Prop}{v:V}(h:Mm P A op=some (C,v))(hC:C)(hs:s4 N Pb Kb A a w F){o:Oper}(ho:o.op=op):
 ∃ x,(execOp a.eval o).run P w=.ok (.value x) w/\RV w Pb v x []:=by
 obtain⟨dst,op',ty,pos,after,guard⟩:=o
 subst ho
 unfold Mm at h
 split at h
 rename_i x Ki;subst Ki
 simp at h;obtain⟨_,rfl⟩:=h
 refine⟨_,rfl,?_⟩
 unfold Ai
 split
 rename_i vs e
 obtain⟨Fx,hr⟩:=df hs x
 rw[e]at hr
 split
 rfl
 rename_i ho
 obtain⟨xs,hx,hr⟩:=hr
 have hF:=rQ vs (by simpa using ho) hr
 subst hF
 exact⟨xs,hx,hr⟩
 exact nM hs x
 · rename_i c p q Ki;subst Ki
   unfold Ap at h
   split at h
   case h_2=>simp at h
   · rename_i c' e
     split at h
     case h_2=>simp at h
     rename_i ga x gb y ea eb
     simp only[Option.some.injEq,Prod.mk.injEq]at h
     obtain⟨rfl,rfl⟩:=h
     have ex:∀ (z:Operand) (g b:Bool),TZ (A.ev z)=(g,.lit (.bool b))->g=true->a.eval z=.bool b:=fun z g b hz hg=>by
      obtain⟨Fx,hr⟩:=df hs z
      unfold TZ at hz
      split at hz
      rename_i b' v' e'
      simp only[Prod.mk.injEq]at hz
      obtain⟨rfl,rfl⟩:=hz
      rw[e']at hr
      have:=(hr.2.1 hg).2.1
      simpa using this
      simp only[Prod.mk.injEq]at hz
      rw[hz.2]at hr
      have:=hr.2.1
      simpa using this
     simp only[execOp,bJ hs e,asBool,Sem.run_bind,Sem.run_pure,Result.andThen_ok]
     cases c'
     exact⟨.bool y,by simp[ex q gb y eb (hC.2 rfl)],cZ rfl⟩
     exact⟨.bool x,by simp[ex p ga x ea (hC.1 rfl)],cZ rfl⟩
 rename_i op T x y _ Ki;subst Ki
 obtain⟨u,u',hx,hy,hu,hn,z,hz,rfl,h1⟩:=Et (w:=w) (P:=P) h hC
 refine⟨z,?_,cZ h1⟩
 simp only[execOp,bJ hs hx,bJ hs hy,Sem.run_bind,qP op T x y hu hn,Result.andThen_ok,hz,Sem.run_pure]
 rename_i op T x Ki;subst Ki
 unfold T8 at h
 split at h <;> simp only[Option.some.injEq,Prod.mk.injEq,reduceCtorEq]at h
 rename_i b e;obtain⟨_,rfl⟩:=h
 exact⟨_,by simp only[execOp,bJ hs e];rfl,cZ rfl⟩
 rename_i k n e;obtain⟨rfl,rfl⟩:=h
 exact⟨_,by simp only[execOp,bJ hs e];rw[show -n=IntKind.wrap k (0-n) by rw[Int.zero_sub];exact(jP hC).symm];rfl,cZ rfl⟩
 rename_i s d x Ki;subst Ki
 unfold EM at h
 split at h <;> simp only[Option.some.injEq,Prod.mk.injEq,reduceCtorEq]at h
 rename_i k0 k k1 n x7 Qu e;obtain⟨rfl,rfl⟩:=h
 obtain⟨td,hu,hd⟩:=cd x7
 obtain⟨Ub,Ra,Qu⟩:=cd Qu
 cases td <;> simp[cO]at hd
 cases Ub <;> simp[cO]at Qu
 subst hd Qu
 exact⟨.int _ (IntKind.wrap _ n),by simp only[execOp,bJ hs e,convert,Sem.run_bind,aC hu,aC Ra,Result.andThen_ok];rfl,by rw[jP hC];exact cZ rfl⟩
 rename_i s' x7 Qu e;obtain⟨_,rfl⟩:=h
 obtain⟨td,hu,hd⟩:=cd x7
 obtain⟨Ub,Ra,Qu⟩:=cd Qu
 cases td <;> simp[cO]at hd
 cases Ub <;> simp[cO]at Qu
 exact⟨_,by simp only[execOp,bJ hs e,convert,Sem.run_bind,aC hu,aC Ra,Result.andThen_ok];rfl,cZ rfl⟩
 rename_i T x i Ki;subst Ki
 unfold DT at h
 split at h <;> simp only[Option.some.injEq,Prod.mk.injEq,reduceCtorEq]at h
 rename_i s k i' x7 e e';obtain⟨rfl,rfl⟩:=h
 obtain⟨td,hu,hd⟩:=cd x7
 cases td <;> simp[cO]at hd
 obtain⟨h0,h1⟩:=hC
 have hlt:i'.toNat<s.size:=by omega
 refine⟨.int .u8 (s.data.getD i'.toNat 0).toNat,?_,cZ rfl⟩
 have hg:s[i'.toNat]? =some (s.data.getD i'.toNat 0):=by
  rw[getElem?_pos s i'.toNat hlt]
  have Pw:i'.toNat<s.data.size:=hlt
  simp only[Array.getD,dif_pos Pw];rfl
 simp only[execOp,bJ hs e,bJ hs e',Instr.index,asIntOf,Sem.run_bind,aC hu,Sem.run_pure,Result.andThen_ok,if_pos h0,hg]
 rename_i T x lo hi Ki;subst Ki
 unfold AK at h
 split at h
 rename_i s x7 e
 unfold Dv at h
 obtain⟨td,hu,hd⟩:=cd x7
 cases td <;> simp[cO]at hd
 split at h
 rename_i l h' hl hh
 simp only[Option.some.injEq,Prod.mk.injEq]at h;obtain⟨rfl,rfl⟩:=h
 obtain⟨h0,h1,h2⟩:=hC
 have b1:=vV hs hl
 have b2:=uu hs hh
 have b1':(lo.map a.eval=none/\l=0)\/∃ k,lo.map a.eval=some (.int k l):=b1.imp (fun⟨e,f⟩=>⟨by simp[e],f⟩) id
 have b2':(hi.map a.eval=none/\h'=s.size)\/∃ k,hi.map a.eval=some (.int k h'):=b2.imp (fun⟨e,f⟩=>⟨by simp[e],f⟩) id
 refine⟨_,?_,cZ rfl⟩
 simp only[execOp,Instr.sliceAt,bJ hs e,Sem.run_bind,aC hu,Result.andThen_ok,Instr.slice,Option.map_none,Option.isSome,Bool.false_eq_true,if_false,Sem.run_pure,
  jq (w:=w) (P:=P) (sl:=false) b1' b2' h0 h1 h2 (Nat.le_refl _)]
 simp at h
 simp at h
 · rename_i c Ki;subst Ki
   unfold vG at h
   split at h
   case h_2=>simp at h
   rename_i U8
   split at h
   case h_2=>simp at h
   rename_i x T hargs UA
   obtain⟨callee,args,argTypes⟩:=c
   obtain rfl:callee=.builtin .len:=U8
   obtain rfl:args= #[x]:=by rw[<- Array.toArray_toList (xs:=args)];exact congrArg _ hargs
   obtain rfl:argTypes= #[T]:=by rw[<- Array.toArray_toList (xs:=argTypes)];exact congrArg _ UA
   unfold xP at h
   split at h <;> simp only[Option.some.injEq,Prod.mk.injEq,reduceCtorEq]at h <;> (obtain⟨hCe,rfl⟩:=h;clear hCe)
   rename_i s x7 e
   obtain⟨td,hu,hd⟩:=cd x7
   cases td <;> simp[cO]at hd
   exact⟨_,by simp[execOp,resolve,invoke,builtin,Builtin.len_,bJ hs e,aC hu,goInt],cZ rfl⟩
   all_goals
    rename_i x7 e
    obtain⟨td,hu,hd⟩:=cd x7
    cases td <;> simp[cO]at hd
    obtain⟨Fx,hr⟩:=df hs x
    rw[e]at hr
   obtain⟨_,A',c,hc,_⟩:=hr
   simp at hc
   exact⟨_,by simp[execOp,resolve,invoke,builtin,Builtin.len_,hc,aC hu,goInt],cZ rfl⟩
   rcases hr with ⟨_,rfl,_,A',hc⟩ | ⟨_,_,_,hc,_⟩ <;> simp at hc <;>
    exact⟨_,by simp[execOp,resolve,invoke,builtin,Builtin.len_,hc,aC hu,goInt],cZ rfl⟩
   obtain⟨_,_,A',hc,_⟩:=hr
   simp at hc
   exact⟨_,by simp[execOp,resolve,invoke,builtin,Builtin.len_,hc,aC hu,goInt],cZ rfl⟩
 rename_i x i Ki;subst Ki
 unfold EA at h
 split at h
 rename_i i _ _ vs e
 split at h
 rename_i v' hv
 split at h
 simp at h
 rename_i ho
 simp at h;obtain⟨_,rfl⟩:=h
 obtain⟨Fx,hr⟩:=df hs x
 rw[e]at hr
 obtain⟨xs,Pq,hr⟩:=hr
 obtain⟨x',Lf,D6⟩:=zp vs hr hv (by simpa using ho)
 refine⟨x',?_,D6⟩
 have Uu:xs[i]? =some x':=by simpa using Lf
 simp only[execOp,Pq,Instr.extract,Uu,Sem.run_bind,Sem.run_pure,Result.andThen_ok]
 simp at h
 simp at h
 simp at h
end
end Go.Abs
namespace Go.Abs
open Go
def V.at(g o:Nat)(v:V):List Nat->Option (Nat×Nat×V)
 | []=>some (g,o,v)
 | j::p=>match v with
   | .agg vs=>match vs[j]? with
     | some u=>V.at g (o+V.ns (vs.take j)) u p
     | none=>none
   | .own sz xs g' o' _=>match xs[j]? with
     | some u=>V.at g' (o'+j*sz) u p
     | none=>none
   | _=>none
def V.sub(v:V):List Nat->Option V
 | []=>some v
 | j::p=>match v with
   | .agg vs=>match vs[j]? with
     | some u=>V.sub u p
     | none=>none
   | .own _ xs _ _ _=>match xs[j]? with
     | some u=>V.sub u p
     | none=>none
   | _=>none
def AS.at(A:AS)(r:l9)(p:List Nat):Option (Nat×Nat×V):=
 match r with
 | .key k=>match lk k A.h with
   | some (g,v)=>V.at g 0 v p
   | none=>none
 | .slot i=>match A.get i,p with
   | .own sz xs g o c,j::p=>V.at 0 0 (.own sz xs g o c) (j::p)
   | _,_=>none
def AS.sub(A:AS)(r:l9)(p:List Nat):Option V:=
 match r with
 | .key k=>match lk k A.h with
   | some (_,v)=>V.sub v p
   | none=>none
 | .slot i=>match A.get i with
   | .tup _=>none
   | v=>V.sub v p
def V.isAgg:V->Bool | .agg _=>true | _=>false
section
variable {w:World} {Pb Kb:Nat->Prop}
theorem fp:∀ (vs:List V) {cs F} {j:Nat} {v:V},RL w Pb vs cs F->vs[j]? =some v->
 ∃ c F',R w Pb v c F'/\(∀ g,g∈F'->g∈F)/\∀ i u,c[i]? =some u->cs[V.ns (vs.take j)+i]? =some u
 | [],_,_,_,_,_,h=>by simp at h
 | v::vs,cs,F,0,u,h,hj=>by
   obtain⟨c1,c2,F1,F2,rfl,rfl,h1,h2⟩:=h
   simp at hj;subst hj
   refine⟨c1,F1,h1,by simp_all,fun i u hu=>?_⟩
   simp only[List.take_zero,V.ns,Nat.zero_add]
   rw[List.getElem?_append_left (List.getElem?_eq_some_iff.1 hu).1];exact hu
 | v::vs,cs,F,j+1,u,h,hj=>by
   obtain⟨c1,c2,F1,F2,rfl,rfl,h1,h2⟩:=h
   obtain⟨c,F',hr,hF,hc⟩:=fp vs h2 (by simpa using hj)
   refine⟨c,F',hr,fun g hg=>by simp[hF g hg],fun i u hu=>?_⟩
   have hl:=dK v h1
   simp only[List.take_succ_cons,V.ns]
   rw[<- hl,Nat.add_assoc,List.getElem?_append_right (by omega)]
   have e:c1.length+(V.ns (vs.take j)+i)-c1.length=V.ns (vs.take j)+i:=by omega
   rw[e];exact hc i u hu
theorem du{sz:Nat}:∀ (xs:List V) (j:Nat),aG sz xs->j<=xs.length->V.ns (xs.take j)=j*sz
 | _,0,_,_=>by simp[V.ns]
 | [],j+1,_,h=>by simp at h
 | v::vs,j+1,ha,h=>by
   simp only[List.take_succ_cons,V.ns,ha v (by simp)]
   rw[du vs j (fun x hx=>ha x (by simp[hx])) (by simpa using h)]
   rw[Nat.add_mul];omega
theorem oD:∀ (p:List Nat) {v u:V} {g o g' o':Nat} {F},At w Pb v g o F->V.at g o v p=some (g',o',u)->∃ F',At w Pb u g' o' F'/\∀ x,x∈F'->x∈F
 | [],v,u,g,o,g',o',F,h,e=>by
   simp only[V.at,Option.some.injEq,Prod.mk.injEq]at e
   obtain⟨rfl,rfl,rfl⟩:=e
   exact⟨F,h,fun _ h=>h⟩
 | j::p,v,u,g,o,g',o',F,h,e=>by
   simp only[V.at]at e
   obtain⟨cs,cells,hb,hr,hc⟩:=h
   split at e
   rename_i vs
   split at e
   rename_i x hx
   simp only[R]at hr
   obtain⟨c,F',D6,hF,I5⟩:=fp vs hr hx
   obtain⟨KH,h2,hF2⟩:=oD p (v:=x) ⟨c,cells,hb,D6,fun i u hu=>by rw[Nat.add_assoc];exact hc _ _ (I5 i u hu)⟩ e
   exact⟨KH,h2,fun y hy=>hF y (hF2 y hy)⟩
   simp at e
   rename_i sz xs g1 o1 c1
   split at e
   rename_i x hx
   rcases hr with ⟨_,rfl,_⟩ | ⟨_,_,_,_,ha,_,flat,F',n8,rfl,hr,J0,_,I5⟩
   simp at hx
   obtain⟨c,KH,D6,hF,Lv⟩:=fp xs hr hx
   have hj:j<=xs.length:=by have:=(List.getElem?_eq_some_iff.1 hx).1;omega
   rw[du xs j ha hj]at Lv
   obtain⟨F3,h3,hF3⟩:=oD p (v:=x) ⟨c,n8,J0,D6,fun i u hu=>by rw[Nat.add_assoc];exact I5 _ _ (Lv i u hu)⟩ e
   exact⟨F3,h3,fun y hy=>by simp[hF y (hF3 y hy)]⟩
   simp at e
   simp at e
theorem dy{g o:Nat}{cells:Array Value}(h:Blk w g cells):w.cell? ⟨g,o,none⟩=cells[o]? :=by
 obtain⟨e,fr,hb,_⟩:=h
 simp[World.cell?,hb]
theorem dr(g o j:Nat):(⟨g,o,none⟩:Addr).add j=⟨g,o+j,none⟩:=by unfold Addr.add;split <;> simp_all
theorem uQ{P:Program}{T:Nat}{i:TI}(h:ti P T=some i):(isAgg T).run P w=.ok i.d.agg w:=by
 obtain⟨inf,d,_,h2,_,_,h5⟩:=ib h
 unfold isAgg
 simp only[Sem.run_bind,aC h2,Result.andThen_ok]
 rw[<- h5]
 cases d <;> rfl
theorem ct{P:Program}{T:Nat}{i:TI}(h:ti P T=some i):(sizeOf T).run P w=.ok i.sz w:=by
 obtain⟨inf,d,h1,_,h3,_,_⟩:=ib h
 simp[sizeOf,typeInfo,h1,h3]
theorem lp{P:Program} {T:Nat} {i:TI} (h:ti P T=some i) {v:V} {cs:List Value} {g o:Nat} {F} (hr:R w Pb v cs F) (hn:v.n=i.sz) (ha:i.d.agg=v.isAgg)
 (hc:∀ j u,cs[j]? =some u->w.cell? ⟨g,o+j,none⟩=some u):∃ x,(loadVar T ⟨g,o,none⟩).run P w=.ok x w/\RV w Pb v x F:=by
 unfold loadVar
 simp only[Sem.run_bind,uQ h,Result.andThen_ok]
 have hl:=dK v hr
 cases v with
 | agg vs=>
   simp only[V.isAgg]at ha
   rw[ha]
   simp only[if_true,Sem.run_bind,ct h,Result.andThen_ok]
   rw[<- hn,<- hl,run_loadCells_list w _ cs (fun j v hv=>by rw[dr];exact hc j v hv)]
   exact⟨_,rfl,_,rfl,hr⟩
 | tup _=>simp[R]at hr
 | gv _ _=>simp[R]at hr
 | b9=>
   simp only[V.isAgg]at ha
   rw[ha]
   obtain⟨hF,x,rfl,hx⟩:=hr
   have:=hc 0 x rfl
   simp only[Nat.add_zero]at this
   exact⟨x,by simp[this],hF⟩
 | _=>
   simp only[V.isAgg]at ha
   rw[ha]
   simp only[V.n]at hl
   obtain⟨x,rfl⟩:=List.length_eq_one_iff.1 hl
   have:=hc 0 x rfl
   simp only[Nat.add_zero]at this
   exact⟨x,by simp[this],hr⟩
end
end Go.Abs
namespace Go.Abs
open Go
def jk(P:Program)(d:Option D)(x:V)(j:Nat):Option (Prop×V):=
 match d with
 | some (.st fs)=>match fs[j]? with
   | some (off,T)=>match ti P T with
     | some i=>match x with
       | .ptr r p g o=>some (i.sz≠0,.ptr r (p++[j]) g (o+off))
       | .ep (.agg vs)=>match vs[j]? with
         | some v=>some (i.sz≠0/\V.ns (vs.take j)=off,.ep v)
         | none=>none
       | _=>none
     | none=>none
   | none=>none
 | _=>none
def sq(P:Program)(d:Option D)(x:V)(j:Nat):Option (Prop×V):=
 match d with
 | some (.st fs)=>match fs[j]? with
   | some (off,T)=>match ti P T with
     | some i=>match x with
       | .agg vs=>match vs[j]? with
         | some v=>some (V.ns (vs.take j)=off/\i.sz=v.n/\i.d.agg=v.isAgg,v)
         | none=>none
       | _=>none
     | none=>none
   | none=>none
 | _=>none
def jF(A:AS)(i:Option TI)(x:V):Option (Prop×V):=
 match i with
 | some i=>match x with
   | .ptr r p g o=>match A.at r p with
     | some (g',o',v)=>some (g'=g/\o'=o/\v.n=i.sz/\i.d.agg=v.isAgg,v.NG r p)
     | none=>none
   | .ep v=>some (v.n=i.sz/\i.d.agg=v.isAgg,v)
   | _=>none
 | none=>none
def ia(P:Program)(d:Option D)(x i:V):Option (Prop×V):=
 match d,i with
 | some (.sl e),.lit (.int _ i)=>match ti P e with
   | some t=>match x with
     | .sl _ xs=>some (0<=i/\i<xs.length/\(xs.getD i.toNat .b9).n=t.sz,.ep (xs.getD i.toNat .b9))
     | .hd r p sz g o lo n _=>some (0<=i/\i<n/\sz=t.sz,.ptr r (p++[lo+i.toNat]) g (o+(lo+i.toNat)*sz))
     | _=>none
   | none=>none
 | some (.arr n e),.lit (.int _ i)=>match ti P e with
   | some t=>match x with
     | .ptr r p g o=>some (0<=i/\i<n,.ptr r (p++[i.toNat]) g (o+i.toNat*t.sz))
     | _=>none
   | none=>none
 | _,_=>none
def Aw(P:Program)(d:Option D)(x:V)(lo hi:Option V):Option (Prop×V):=
 match d with
 | some (.sl e)=>match ti P e with
   | some t=>match x with
     | .sl _ xs=>match Q5 lo,Qt xs.length hi with
       | some l,some h=>some (0<=l/\l<=h/\h<=xs.length/\∀ x∈xs,x.n=t.sz,.sl false ((xs.take h.toNat).drop l.toNat))
       | _,_=>none
     | .hd r p sz g o Kv n c=>match Q5 lo,Qt n hi with
       | some l,some h=>some (0<=l/\l<=h/\h<=n/\sz=t.sz,.hd r p sz g o (Kv+l.toNat) (h.toNat-l.toNat) (c-l.toNat))
       | _,_=>none
     | _=>none
   | none=>none
 | _=>none
def lQ:V->Option Value
 | .lit x=>some x
 | .ptr _ _ g o=>some (.pointer (some ⟨g,o,none⟩))
 | _=>none
def iF:List V->Option (List Value)
 | []=>some []
 | v::vs=>match lQ v,iF vs with
   | some x,some xs=>some (x::xs)
   | _,_=>none
def valOf:V->Option Value
 | .agg vs=>match iF vs with
   | some xs=>some (.agg xs.toArray)
   | none=>none
 | v=>lQ v
def Ib:V->Option (Prop×V)
 | .ptr r p g o=>some (True,.ptr r p g o)
 | .ep v=>some (True,.ep v)
 | _=>none
def Al:Option TypeDesc->Bool
 | some (.interface _)=>true
 | none=>true
 | _=>false
def Hi(P:Program)(T:Nat)(x:V):Option (Prop×V):=
 if Al (P.underlying T)=true then none else match valOf x with
  | some y=>some (True,.lit (.iface T y))
  | none=>none
def zeroV(P:Program)(T:Nat):Option V:=match P.info? T with
 | some i=>i.zero.map cV
 | none=>none
def Hs(P:Program)(T:Nat)(x:V):Option (Prop×V):=
 if Al (P.underlying T)=true then none else match x,zeroV P T with
  | .lit (.iface t v),some z=>some (True,if t=T then .tup [cV v,.lit (.bool true)] else .tup [z,.lit (.bool false)])
  | .lit .nilIface,some z=>some (True,.tup [z,.lit (.bool false)])
  | _,_=>none
def Hg(fn:Fn)(a b:List V):Option (Prop×V):=match iF a,iF b with
 | some x,some y=>some (True,.lit (.func fn x.toArray y.toArray))
 | _,_=>none
def G0(P:Program)(A:AS)(op:Op):Option (Prop×V):=
 match op with
 | .load T x=>jF A (ti P T) (A.ev x)
 | .fieldAddr T x j=>jk P (tD P T) (A.ev x) j
 | .field T x j=>sq P (tD P T) (A.cp x) j
 | .indexAddr T x i=>ia P (tD P T) (A.ev x) (A.ev i)
 | .slice T x lo hi none=>match tD P T with
   | some .str=>AK (some .str) (A.ev x) (lo.map A.ev) (hi.map A.ev)
   | d=>Aw P d (A.ev x) (lo.map A.ev) (hi.map A.ev)
 | .nilCheck x=>Ib (A.ev x)
 | .makeInterface T x=>Hi P T (A.cp x)
 | .typeAssert x _ T true=>Hs P T (A.ev x)
 | .makeFunc fn a b=>Hg fn (a.toList.map A.ev) (b.toList.map A.ev)
 | op=>Mm P A op
section
variable {w:World} {Pb Kb:Nat->Prop} {N:Nat} {A:AS} {a:Act} {F:l9->List Nat} {P:Program}
theorem iu(h:s4 N Pb Kb A a w F){r:l9}{p:List Nat}{g o:Nat}{v:V}(e:A.at r p=some (g,o,v)):∃ F',At w Pb v g o F':=by
 unfold AS.at at e
 split at e
 rename_i k
 split at e
 rename_i g' v' hk
 obtain⟨F',_,hr⟩:=h.root k g' v' hk
 obtain⟨KH,h2,_⟩:=oD p (v:=v') (g:=g') (o:=0) hr e
 exact⟨KH,h2⟩
 simp at e
 rename_i i
 split at e
 rename_i sz xs g' o' c j p hi
 have hr:=h.slot i
 rw[hi]at hr
 simp only[V.at]at e
 split at e
 rename_i x hx
 rcases hr with ⟨_,rfl,_⟩ | ⟨_,_,_,_,ha,_,flat,F',n8,_,hr,J0,_,I5⟩
 simp at hx
 obtain⟨c,KH,D6,hF,Lv⟩:=fp xs hr hx
 have hj:j<=xs.length:=by have:=(List.getElem?_eq_some_iff.1 hx).1;omega
 rw[du xs j ha hj]at Lv
 obtain⟨F3,h3,_⟩:=oD p (v:=x) ⟨c,n8,J0,D6,fun i u hu=>by rw[Nat.add_assoc];exact I5 _ _ (Lv i u hu)⟩ e
 exact⟨F3,h3⟩
 simp at e
 simp at e
theorem Cy(hs:s4 N Pb Kb A a w F){T:Nat}{x:Operand}{C:Prop}{v:V}(h:jF A (ti P T) (A.ev x)=some (C,v))(hC:C):
 ∃ y,(Instr.loadAt T (a.eval x)).run P w=.ok y w/\RV w Pb v y []:=by
 unfold jF at h
 split at h
 case h_2=>simp at h
 rename_i i hi
 obtain⟨Fx,hr⟩:=df hs x
 split at h
 rename_i r p g o e
 rw[e]at hr
 split at h
 rename_i g' o' u x5
 simp only[Option.some.injEq,Prod.mk.injEq]at h
 obtain⟨rfl,rfl⟩:=h
 obtain⟨rfl,rfl,hn,ha⟩:=hC
 obtain⟨F',cs,cells,hb,Kh,s3⟩:=iu hs x5
 have hx:a.eval x=.pointer (some ⟨g',o',none⟩):=by have:=hr.2;simpa using this
 obtain⟨y,hy,D6⟩:=lp (w:=w) hi (jA r u p Kh) (g:=g') (o:=o') (by
  have:(u.NG r p).n=u.n:=by
   have h1:=dK _ (jA r u p Kh);have h2:=dK _ Kh;omega
  omega) (by rw[ha];cases u <;> rfl) (fun j u hu=>by rw[dy hb];exact s3 j u hu)
 exact⟨y,by simp only[Instr.loadAt,hx,Instr.sureAddr,Sem.run_bind,Sem.run_pure,Result.andThen_ok,hy],D6⟩
 simp at h
 rename_i u e
 rw[e]at hr
 simp only[Option.some.injEq,Prod.mk.injEq]at h
 obtain⟨rfl,rfl⟩:=h
 obtain⟨hn,ha⟩:=hC
 obtain⟨_,b,o,flat,hx,hb,Kh,s3⟩:=hr
 have hx:a.eval x=.pointer (some ⟨b,o,none⟩):=by simpa using hx
 obtain⟨y,hy,D6⟩:=lp (w:=w) hi Kh hn ha s3
 exact⟨y,by simp only[Instr.loadAt,hx,Instr.sureAddr,Sem.run_bind,Sem.run_pure,Result.andThen_ok,hy],D6⟩
 simp at h
theorem zW{T:Nat}{fs:List (Nat×Nat)}(h:tD P T=some (.st fs)):∃ fl:Array Field,P.underlying T=some (.struct fl)/\fl.toList.map (fun f=>(f.offset,f.type))=fs:=by
 obtain⟨td,hu,hd⟩:=cd h
 cases td <;> simp[cO]at hd
 rename_i fl
 exact⟨fl,hu,hd⟩
theorem vX{fl:Array Field}{fs:List (Nat×Nat)}(h:fl.toList.map (fun f=>(f.offset,f.type))=fs){j off T:Nat}(e:fs[j]? =some (off,T)):∃ f,fl[j]? =some f/\f.offset=off/\f.type=T:=by
 subst h
 simp only[List.getElem?_map]at e
 cases hf:fl.toList[j]? with
 | none=>rw[hf]at e;simp at e
 | some f=>rw[hf]at e;simp at e;exact⟨f,by simpa using hf,e⟩
theorem tN(hs:s4 N Pb Kb A a w F){T:Nat}{x:Operand}{j:Nat}{C:Prop}{v:V}(h:jk P (tD P T) (A.ev x) j=some (C,v))(hC:C):
 ∃ y,(Instr.fieldAt T (a.eval x) j).run P w=.ok y w/\RV w Pb v y []:=by
 unfold jk at h
 split at h
 case h_2=>simp at h
 rename_i fs hT
 split at h
 case h_2=>simp at h
 rename_i off T' hj
 split at h
 case h_2=>simp at h
 rename_i i hi
 obtain⟨fl,hu,hfl⟩:=zW hT
 obtain⟨f,hf,ho,ht⟩:=vX hfl hj
 obtain⟨Fx,hr⟩:=df hs x
 split at h
 rename_i r p g o e
 rw[e]at hr
 simp only[Option.some.injEq,Prod.mk.injEq]at h
 obtain⟨rfl,rfl⟩:=h
 have hx:a.eval x=.pointer (some ⟨g,o,none⟩):=by have:=hr.2;simpa using this
 refine⟨.pointer (some ⟨g,o+off,none⟩),?_,rfl,rfl⟩
 simp only[Instr.fieldAt,Sem.run_bind,aC hu,Result.andThen_ok,hf,hx,Instr.sureAddr,Sem.run_pure,fieldPlace,ht,ct hi,if_neg hC,ho,dr]
 · rename_i vs e
   rw[e]at hr
   split at h
   case h_2=>simp at h
   rename_i u Ra
   simp only[Option.some.injEq,Prod.mk.injEq]at h
   obtain⟨rfl,rfl⟩:=h
   obtain⟨h0,Rk⟩:=hC
   obtain⟨_,b,o,flat,hx,hb,Kh,s3⟩:=hr
   have hx:a.eval x=.pointer (some ⟨b,o,none⟩):=by simpa using hx
   simp only[R]at Kh
   obtain⟨c,F',D6,hF,I5⟩:=fp vs Kh Ra
   have LD:F'=[]:=List.eq_nil_iff_forall_not_mem.2 fun g hg=>by simpa using hF g hg
   subst LD
   refine⟨.pointer (some ⟨b,o+off,none⟩),?_,rfl,b,o+off,c,rfl,hb,D6,fun i u hu=>by rw[<- Rk,Nat.add_assoc];exact s3 _ _ (I5 i u hu)⟩
   simp only[Instr.fieldAt,Sem.run_bind,aC hu,Result.andThen_ok,hf,hx,Instr.sureAddr,Sem.run_pure,fieldPlace,ht,ct hi,if_neg h0,ho,dr]
 simp at h
theorem zM(hs:s4 N Pb Kb A a w F){T:Nat}{x:Operand}{j:Nat}{C:Prop}{v:V}(h:sq P (tD P T) (A.cp x) j=some (C,v))(hC:C):
 ∃ y,(Instr.field T (a.eval x) j).run P w=.ok y w/\RV w Pb v y []:=by
 unfold sq at h
 split at h
 case h_2=>simp at h
 rename_i fs hT
 split at h
 case h_2=>simp at h
 rename_i off T' hj
 split at h
 case h_2=>simp at h
 rename_i i hi
 obtain⟨fl,hu,hfl⟩:=zW hT
 obtain⟨f,hf,ho,ht⟩:=vX hfl hj
 have hr:=nM hs x
 split at h
 case h_2=>simp at h
 rename_i vs e
 rw[e]at hr
 split at h
 case h_2=>simp at h
 rename_i u Ra
 simp only[Option.some.injEq,Prod.mk.injEq]at h
 obtain⟨rfl,rfl⟩:=h
 obtain⟨Rk,hn,ha⟩:=hC
 obtain⟨cs,hx,hr⟩:=hr
 obtain⟨c,F',D6,hF,I5⟩:=fp vs hr Ra
 have LD:F'=[]:=List.eq_nil_iff_forall_not_mem.2 fun g hg=>by simpa using hF g hg
 subst LD
 have hl:=dK _ D6
 simp only[Instr.field,Sem.run_bind,aC hu,Result.andThen_ok,hf,hx,asAgg,Sem.run_pure,part,ht,uQ hi,ho]
 rw[Rk]at I5
 cases u with
 | agg us=>
   simp only[V.isAgg]at ha
   rw[ha]
   simp only[if_true,Sem.run_bind,ct hi,Result.andThen_ok,Sem.run_pure]
   refine⟨_,rfl,_,rfl,?_⟩
   have hcs:(cs.extract off (off+i.sz)).toList=c:=by
    apply List.ext_getElem?
    intro k
    by_cases hk:k<c.length
    have h1:=I5 k _ (List.getElem?_eq_getElem hk)
    rw[List.getElem?_eq_getElem hk]
    simp only[Array.getElem?_toList]at h1 ⊢
    rw[Array.getElem?_extract]
    have hlt:=(Array.getElem?_eq_some_iff.1 h1).1
    rw[if_pos (by omega)];exact h1
    have hz:(cs.extract off (off+i.sz)).toList.length<=i.sz:=by
     rw[Array.length_toList,Array.size_extract];omega
    rw[List.getElem?_eq_none (by omega),List.getElem?_eq_none (by omega)]
   rw[hcs]
   simp only[R]at D6;exact D6
 | tup _=>simp[R]at D6
 | gv _ _=>simp[R]at D6
 | b9=>
   simp only[V.isAgg]at ha
   rw[ha]
   obtain⟨_,y,rfl,hy⟩:=D6
   have h1:=I5 0 y rfl
   simp only[Nat.add_zero,Array.getElem?_toList]at h1
   exact⟨y,by simp[h1],rfl⟩
 | _=>
   simp only[V.isAgg]at ha
   rw[ha]
   simp only[V.n]at hl
   obtain⟨y,rfl⟩:=List.length_eq_one_iff.1 hl
   have h1:=I5 0 y rfl
   simp only[Nat.add_zero,Array.getElem?_toList]at h1
   exact⟨y,by simp[h1],D6⟩
theorem gG{T e:Nat}(h:tD P T=some (.sl e)):P.underlying T=some (.slice e):=by
 obtain⟨td,hu,hd⟩:=cd h
 cases td <;> simp[cO]at hd
 subst hd;exact hu
theorem getD_some{xs:List V}{i:Nat}(h:i<xs.length):xs[i]? =some (xs.getD i .b9):=by
 simp[List.getD,List.getElem?_eq_getElem h]
theorem Iv{T n e:Nat}(h:tD P T=some (.arr n e)):P.underlying T=some (.array n e):=by
 obtain⟨td,hu,hd⟩:=cd h
 cases td <;> simp[cO]at hd
 obtain⟨rfl,rfl⟩:=hd;exact hu
theorem ur(hs:s4 N Pb Kb A a w F){T:Nat}{x ix:Operand}{C:Prop}{v:V}(h:ia P (tD P T) (A.ev x) (A.ev ix)=some (C,v))(hC:C):
 ∃ y,(Instr.indexAt T (a.eval x) (a.eval ix)).run P w=.ok y w/\RV w Pb v y []:=by
 unfold ia at h
 split at h
 case h_3=>simp at h
 case h_2=>
  rename_i n e k i hT hi
  have hu:=Iv hT
  split at h
  case h_2=>simp at h
  rename_i t ht
  obtain⟨Fx,hr⟩:=df hs x
  split at h
  case h_2=>simp at h
  rename_i r p g o hx
  rw[hx]at hr
  simp only[Option.some.injEq,Prod.mk.injEq]at h
  obtain⟨rfl,rfl⟩:=h
  have hv:a.eval x=.pointer (some ⟨g,o,none⟩):=by have:=hr.2;simpa using this
  refine⟨.pointer (some ⟨g,o+i.toNat*t.sz,none⟩),?_,rfl,rfl⟩
  simp only[Instr.indexAt,bJ hs hi,asIntOf,Sem.run_bind,Sem.run_pure,Result.andThen_ok,aC hu,hv,Instr.sureAddr,if_pos (⟨hC.1,hC.2⟩:0<=i/\i<(n:Int)),ct ht,dr]
 rename_i e k i hT hi
 have hu:=gG hT
 split at h
 case h_2=>simp at h
 rename_i t ht
 obtain⟨Fx,hr⟩:=df hs x
 split at h
 rename_i full xs hx
 rw[hx]at hr
 simp only[Option.some.injEq,Prod.mk.injEq]at h
 obtain⟨rfl,rfl⟩:=h
 obtain⟨h0,h1,hn⟩:=hC
 have hlt:i.toNat<xs.length:=by omega
 obtain⟨_,A',c,hv,hl,_,hz⟩:=hr
 have hv:a.eval x=.slice A' xs.length c:=by simpa using hv
 rcases hz with rfl | ⟨b,o,sz,flat,rfl,hb,_,hN,LC,s3⟩
 simp at hlt
 obtain⟨cu,F',D6,hF,I5⟩:=fp xs LC (getD_some hlt)
 have LD:F'=[]:=List.eq_nil_iff_forall_not_mem.2 fun g hg=>by simpa using hF g hg
 subst LD
 rw[du xs _ hN (by omega)]at I5
 have hsz:sz=t.sz:=by rw[<- hn];exact(hN _ (List.mem_of_getElem? (getD_some hlt))).symm
 refine⟨.pointer (some ⟨b,o+i.toNat*t.sz,none⟩),?_,rfl,b,o+i.toNat*t.sz,cu,rfl,hb,D6,fun j u hu=>by rw[<- hsz,Nat.add_assoc];exact s3 _ _ (I5 j u hu)⟩
 simp only[Instr.indexAt,bJ hs hi,asIntOf,Sem.run_bind,Sem.run_pure,Result.andThen_ok,aC hu,hv,if_pos (⟨h0,h1⟩:0<=i/\i<(xs.length:Int)),ct ht,dr]
 rename_i r p sz g o lo n c hx
 rw[hx]at hr
 simp only[Option.some.injEq,Prod.mk.injEq]at h
 obtain⟨rfl,rfl⟩:=h
 obtain⟨h0,h1,hn⟩:=hC
 obtain⟨_,RT,A',hv,hA⟩:=hr
 have hv:a.eval x=.slice A' n c:=by simpa using hv
 obtain rfl:=hA (by omega)
 refine⟨.pointer (some ⟨g,o+(lo+i.toNat)*sz,none⟩),?_,rfl,rfl⟩
 simp only[Instr.indexAt,bJ hs hi,asIntOf,Sem.run_bind,Sem.run_pure,Result.andThen_ok,aC hu,hv,if_pos (⟨h0,h1⟩:0<=i/\i<(n:Int)),ct ht,dr]
 subst hn
 rw[Nat.add_assoc,<- Nat.add_mul]
 simp at h
theorem ng:∀ (vs:List V) (k:Nat) {cs:List Value},RL w Pb vs cs []->∃ c':List Value,RL w Pb (vs.drop k) c' []/\∀ i u,c'[i]? =some u->cs[V.ns (vs.take k)+i]? =some u
 | vs,0,cs,h=>⟨cs,h,fun i u hu=>by simpa[V.ns] using hu⟩
 | [],k+1,cs,h=>⟨[],by simpa using⟨rfl,rfl⟩,fun i u hu=>by simp at hu⟩
 | v::vs,k+1,cs,h=>by
   obtain⟨c1,c2,F1,F2,rfl,hF,h1,h2⟩:=h
   have hF2:F2=[]:=by have:=hF.symm;simp at this;exact this.2
   subst hF2
   obtain⟨c',hr,hc⟩:=ng vs k h2
   refine⟨c',by simpa using hr,fun i u hu=>?_⟩
   have hl:=dK v h1
   simp only[List.take_succ_cons,V.ns]
   rw[<- hl,Nat.add_assoc,List.getElem?_append_right (by omega)]
   have e:c1.length+(V.ns (vs.take k)+i)-c1.length=V.ns (vs.take k)+i:=by omega
   rw[e];exact hc i u hu
theorem nj:∀ (vs:List V) (k:Nat) {cs:List Value},RL w Pb vs cs []->∃ c':List Value,RL w Pb (vs.take k) c' []/\∀ (i:Nat) u,c'[i]? =some u->cs[i]? =some u
 | vs,0,cs,h=>⟨[],by simpa using⟨rfl,rfl⟩,fun i u hu=>by simp at hu⟩
 | [],k+1,cs,h=>⟨[],by simpa using⟨rfl,rfl⟩,fun i u hu=>by simp at hu⟩
 | v::vs,k+1,cs,h=>by
   obtain⟨c1,c2,F1,F2,rfl,hF,h1,h2⟩:=h
   have LD:=hF.symm
   simp at LD
   obtain⟨rfl,rfl⟩:=LD
   obtain⟨c',hr,hc⟩:=nj vs k h2
   refine⟨c1++c',⟨c1,c',[],[],rfl,rfl,h1,hr⟩,fun i u hu=>?_⟩
   by_cases hi:i<c1.length
   rw[List.getElem?_append_left hi]at hu ⊢;exact hu
   rw[List.getElem?_append_right (by omega)]at hu ⊢;exact hc _ _ hu
theorem De(hs:s4 N Pb Kb A a w F){T:Nat}{x:Operand}{lo hi:Option Operand}{C:Prop}{v:V}(h:Aw P (tD P T) (A.ev x) (lo.map A.ev) (hi.map A.ev)=some (C,v))(hC:C):
 ∃ y,(Instr.sliceAt T (a.eval x) (lo.map a.eval) (hi.map a.eval) none).run P w=.ok y w/\RV w Pb v y []:=by
 unfold Aw at h
 split at h
 case h_2=>simp at h
 rename_i e hT
 have hu:=gG hT
 split at h
 case h_2=>simp at h
 rename_i t ht
 obtain⟨Fx,hr⟩:=df hs x
 split at h
 · rename_i full xs hx
   rw[hx]at hr
   split at h
   case h_2=>simp at h
   rename_i l h' hl hh
   simp only[Option.some.injEq,Prod.mk.injEq]at h
   obtain⟨rfl,rfl⟩:=h
   obtain⟨h0,h1,h2,hn⟩:=hC
   have b1:(lo.map a.eval=none/\l=0)\/∃ k,lo.map a.eval=some (.int k l):=(vV hs hl).imp (fun⟨e,f⟩=>⟨by simp[e],f⟩) id
   have b2:(hi.map a.eval=none/\h'=xs.length)\/∃ k,hi.map a.eval=some (.int k h'):=(uu hs hh).imp (fun⟨e,f⟩=>⟨by simp[e],f⟩) id
   obtain⟨_,A',c,hv,S4,_,hz⟩:=hr
   have hv:a.eval x=.slice A' xs.length c:=by simpa using hv
   have hlen:((xs.take h'.toNat).drop l.toNat).length=h'.toNat-l.toNat:=by simp;omega
   refine⟨.slice (if c=l.toNat then A' else A'.map (·.add (l.toNat*t.sz))) (h'.toNat-l.toNat) (c-l.toNat),?_,?_⟩
   simp only[Instr.sliceAt,Instr.slice,Sem.run_bind,aC hu,Result.andThen_ok,hv,jq (w:=w) (P:=P) (sl:=true) b1 b2 h0 h1 (show h'<=(c:Nat) by omega) S4,ct ht,Sem.run_pure]
   refine⟨rfl,_,c-l.toNat,by rw[hlen],by omega,by simp,?_⟩
   by_cases he:h'.toNat-l.toNat=0
   left;exact List.eq_nil_of_length_eq_zero (by omega)
   right
   rcases hz with rfl | ⟨b,o,sz,flat,rfl,hb,UC,hN,LC,s3⟩
   simp at h2;omega
   have hsz:sz=t.sz:=by
    cases xs with
    | nil=>simp at h2;omega
    | cons x0 xs=>rw[<- hn x0 (by simp)];exact(hN x0 (by simp)).symm
   obtain⟨c1,M1,K1⟩:=nj xs h'.toNat LC
   obtain⟨c2,Ko,OM⟩:=ng _ l.toNat M1
   have Nq:aG sz (xs.take h'.toNat):=fun x hx=>hN x (List.mem_of_mem_take hx)
   rw[du _ _ Nq (by simp;omega)]at OM
   rw[if_neg (by omega)]
   refine⟨b,o+l.toNat*t.sz,sz,c2,by simp[dr],hb,UC,fun x hx=>Nq x (List.mem_of_mem_drop hx),Ko,fun j u hu=>?_⟩
   rw[<- hsz,Nat.add_assoc];exact s3 _ _ (K1 _ _ (OM j u hu))
 · rename_i r p sz g o Kv n c hx
   rw[hx]at hr
   split at h
   case h_2=>simp at h
   rename_i l h' hl hh
   simp only[Option.some.injEq,Prod.mk.injEq]at h
   obtain⟨rfl,rfl⟩:=h
   obtain⟨h0,h1,h2,hn⟩:=hC
   have b1:(lo.map a.eval=none/\l=0)\/∃ k,lo.map a.eval=some (.int k l):=(vV hs hl).imp (fun⟨e,f⟩=>⟨by simp[e],f⟩) id
   have b2:(hi.map a.eval=none/\h'=n)\/∃ k,hi.map a.eval=some (.int k h'):=(uu hs hh).imp (fun⟨e,f⟩=>⟨by simp[e],f⟩) id
   obtain⟨_,RT,A',hv,hA⟩:=hr
   have hv:a.eval x=.slice A' n c:=by simpa using hv
   refine⟨.slice (if c=l.toNat then A' else A'.map (·.add (l.toNat*t.sz))) (h'.toNat-l.toNat) (c-l.toNat),?_,?_⟩
   simp only[Instr.sliceAt,Instr.slice,Sem.run_bind,aC hu,Result.andThen_ok,hv,jq (w:=w) (P:=P) (sl:=true) b1 b2 h0 h1 (show h'<=(c:Nat) by omega) RT,ct ht,Sem.run_pure]
   refine⟨rfl,by omega,_,rfl,fun hc=>?_⟩
   rw[if_neg (by omega),hA (by omega)]
   subst hn
   simp only[Option.map_some,dr,Nat.add_mul,Nat.add_assoc]
 simp at h
theorem rn{v:V}{y:Value}{cs:List Value}{F1:List Nat}(hy:lQ v=some y)(h:R w Pb v cs F1):cs=[y]/\y.oneCell'=true:=by
 cases v <;> simp only[lQ,Option.some.injEq,reduceCtorEq]at hy
 subst hy;exact⟨h.2.1,h.1⟩
 subst hy;exact⟨h.2,rfl⟩
theorem xu:∀ {vs:List V} {xs cs:List Value} {F1:List Nat},iF vs=some xs->RL w Pb vs cs F1->cs=xs
 | [],xs,cs,F1,h,hr=>by simp only[iF,Option.some.injEq]at h;rw[<- h,hr.1]
 | v::vs,xs,cs,F1,h,hr=>by
   simp only[iF]at h
   split at h
   rename_i y ys e1 e2
   simp only[Option.some.injEq]at h;subst h
   obtain⟨c1,c2,Fa,Fb,rfl,_,h1,h2⟩:=hr
   rw[(rn e1 h1).1,xu e2 h2];rfl
   simp at h
theorem wT{v:V}{y x:Value}{F1:List Nat}(hy:valOf v=some y)(h:RV w Pb v x F1):x=y:=by
 cases v with
 | agg vs=>
   simp only[valOf]at hy
   split at hy
   rename_i xs e
   simp only[Option.some.injEq]at hy
   obtain⟨cs,rfl,hr⟩:=h
   rw[<- hy,<- xu e hr]
   simp at hy
 | lit z=>have:=(rn (w:=w) (Pb:=Pb) (v:=.lit z) (y:=y) (cs:=[x]) hy h).1;simpa using this
 | ptr r p g o=>have:=(rn (w:=w) (Pb:=Pb) (v:=.ptr r p g o) (y:=y) (cs:=[x]) hy h).1;simpa using this
 | _=>simp[valOf,lQ]at hy
theorem pA(hs:s4 N Pb Kb A a w F):∀ (l:List Operand) {xs:List Value},iF (l.map A.ev)=some xs->l.map a.eval=xs
 | [],xs,h=>by simpa[iF] using h
 | x::l,xs,h=>by
   simp only[List.map_cons,iF]at h
   split at h
   rename_i y ys e1 e2
   simp only[Option.some.injEq]at h;subst h
   obtain⟨Fx,hr⟩:=df hs x
   have:valOf (A.ev x)=some y:=by
    cases hv:A.ev x <;> rw[hv]at e1 <;> simp only[lQ,reduceCtorEq,Option.some.injEq]at e1 <;> simp[valOf,lQ,e1]
   rw[List.map_cons,wT this hr,pA hs l e2]
   simp at h
theorem uZ{T:Nat}(h: ¬ Al (P.underlying T)=true):∃ d,P.underlying T=some d/\∀ m,d≠.interface m:=by
 cases e:P.underlying T with
 | none=>rw[e]at h;exact absurd rfl h
 | some d=>exact⟨d,rfl,fun m c=>by rw[e,c]at h;exact h rfl⟩
theorem ud{op:Op}{C:Prop}{v:V}(h:G0 P A op=some (C,v))(hC:C)(hs:s4 N Pb Kb A a w F){o:Oper}(ho:o.op=op):
 ∃ x,(execOp a.eval o).run P w=.ok (.value x) w/\RV w Pb v x []:=by
 unfold G0 at h
 split at h
 obtain⟨y,hy,hr⟩:=Cy hs h hC
 exact⟨y,by simp only[execOp,ho,Sem.run_bind,hy,Result.andThen_ok,Sem.run_pure],hr⟩
 obtain⟨y,hy,hr⟩:=tN hs h hC
 exact⟨y,by simp only[execOp,ho,Sem.run_bind,hy,Result.andThen_ok,Sem.run_pure],hr⟩
 obtain⟨y,hy,hr⟩:=zM hs h hC
 exact⟨y,by simp only[execOp,ho,Sem.run_bind,hy,Result.andThen_ok,Sem.run_pure],hr⟩
 obtain⟨y,hy,hr⟩:=ur hs h hC
 exact⟨y,by simp only[execOp,ho,Sem.run_bind,hy,Result.andThen_ok,Sem.run_pure],hr⟩
 rename_i T x lo hi
 split at h
 rename_i hT
 refine zx (op:=.slice T x lo hi none) (C:=C) (v:=v) ?_ hC hs ho
 unfold Mm;simp only[hT];exact h
 obtain⟨y,hy,hr⟩:=De hs h hC
 exact⟨y,by simp only[execOp,ho,Sem.run_bind,hy,Option.map_none,Result.andThen_ok,Sem.run_pure],hr⟩
 rename_i x
 unfold Ib at h
 obtain⟨Fx,hr⟩:=df hs x
 split at h <;> rename_i e <;> simp only[Option.some.injEq,Prod.mk.injEq,reduceCtorEq]at h <;> obtain⟨_,rfl⟩:=h <;> rw[e]at hr
 have hx:=(List.cons.inj hr.2).1
 have hx:a.eval x=.pointer (some ⟨_,_,none⟩):=hx
 exact⟨_,by simp only[execOp,ho,hx];rfl,⟨rfl,rfl⟩⟩
 have h1:=hr.1
 obtain⟨_,b,o',flat,hx,h2⟩:=hr
 have hx:=(List.cons.inj hx).1
 exact⟨_,by simp only[execOp,ho,hx];rfl,⟨rfl,b,o',flat,rfl,h2⟩⟩
 rename_i T x
 unfold Hi at h
 split at h
 simp at h
 rename_i hi
 obtain⟨d,hd,hn⟩:=uZ hi
 split at h
 rename_i y e
 simp only[Option.some.injEq,Prod.mk.injEq]at h
 obtain⟨_,rfl⟩:=h
 have hx:=wT e (nM hs x)
 refine⟨.iface T y,?_,cZ rfl⟩
 have:(Instr.makeInterface T (a.eval x)).run P w=.ok (.iface T y) w:=by
  rw[hx]
  simp only[Instr.makeInterface,Sem.run_bind,aC hd,Result.andThen_ok]
  cases d <;> first | rfl | exact absurd rfl (hn _)
 simp only[execOp,ho,Sem.run_bind,this,Result.andThen_ok,Sem.run_pure]
 simp at h
 · rename_i x xT T
   unfold Hs at h
   split at h
   simp at h
   rename_i hi
   obtain⟨d,hd,hn⟩:=uZ hi
   have zr:∀ z,zeroV P T=some z->∃ y,(zeroValue T).run P w=.ok y w/\RV w Pb z y []:=fun z hz=>by
    unfold zeroV at hz
    split at hz
    rename_i i hi
    simp only[Option.map_eq_some_iff]at hz
    obtain⟨y,hy,rfl⟩:=hz
    exact⟨y,by simp[zeroValue,typeInfo,hi,hy],qv y⟩
    simp at hz
   have tu:∀ (v1:V) (x1:Value) (b:Bool),RV w Pb v1 x1 []->((∀ us,v1≠.tup us)/\∀ b u,v1≠.gv b u)->RV w Pb (.tup [v1,.lit (.bool b)]) (.tuple #[x1,.bool b]) []:=fun v1 x1 b h1 Ro=>by
    refine⟨_,rfl,x1,[.bool b],[],[],rfl,rfl,?_,.bool b,[],[],[],rfl,rfl,⟨rfl,rfl,rfl⟩,rfl,rfl⟩
    cases v1 with
    | tup us=>exact absurd rfl (Ro.1 us)
    | gv b u=>exact absurd rfl (Ro.2 b u)
    | _=>exact h1
   have Wh:∀ y:Value,(∀ us,cV y≠.tup us)/\∀ b u,cV y≠.gv b u:=fun y=>by
    constructor <;> intros <;> unfold cV <;> repeat' split
    all_goals first | (solve | simp) | (unfold PM;split <;> simp)
   have zn:∀ z,zeroV P T=some z->(∀ us,z≠.tup us)/\∀ b u,z≠.gv b u:=fun z hz=>by
    unfold zeroV at hz
    split at hz
    simp only[Option.map_eq_some_iff]at hz
    obtain⟨y,hy,rfl⟩:=hz
    exact Wh y
    simp at hz
   split at h
   rename_i t v z hx hz
   simp only[Option.some.injEq,Prod.mk.injEq]at h
   obtain⟨_,rfl⟩:=h
   have hx:=bJ hs hx
   obtain⟨y,hy,SO⟩:=zr z hz
   by_cases ht:t=T
   refine⟨.tuple #[v,.bool true],?_,by rw[if_pos ht];exact tu _ _ _ (qv v) (Wh v)⟩
   have:(Instr.typeAssert (a.eval x) xT T true).run P w=.ok (.tuple #[v,.bool true]) w:=by
    rw[hx]
    simp only[Instr.typeAssert,Sem.run_bind,aC hd,Result.andThen_ok]
    cases d <;> first | exact absurd rfl (hn _) | simp[ht]
   simp only[execOp,ho,Sem.run_bind,this,Result.andThen_ok,Sem.run_pure]
   refine⟨.tuple #[y,.bool false],?_,by rw[if_neg ht];exact tu _ _ _ SO (zn z hz)⟩
   have:(Instr.typeAssert (a.eval x) xT T true).run P w=.ok (.tuple #[y,.bool false]) w:=by
    rw[hx]
    simp only[Instr.typeAssert,Sem.run_bind,aC hd,Result.andThen_ok]
    cases d <;> first | exact absurd rfl (hn _) | simp[ht,hy]
   simp only[execOp,ho,Sem.run_bind,this,Result.andThen_ok,Sem.run_pure]
   rename_i z hx hz
   simp only[Option.some.injEq,Prod.mk.injEq]at h
   obtain⟨_,rfl⟩:=h
   have hx:=bJ hs hx
   obtain⟨y,hy,SO⟩:=zr z hz
   refine⟨.tuple #[y,.bool false],?_,tu _ _ _ SO (zn z hz)⟩
   have:(Instr.typeAssert (a.eval x) xT T true).run P w=.ok (.tuple #[y,.bool false]) w:=by
    rw[hx]
    simp only[Instr.typeAssert,Sem.run_bind,aC hd,Result.andThen_ok]
    cases d <;> first | exact absurd rfl (hn _) | simp[hy]
   simp only[execOp,ho,Sem.run_bind,this,Result.andThen_ok,Sem.run_pure]
   simp at h
 rename_i fn p q
 unfold Hg at h
 split at h
 rename_i xs ys e1 e2
 simp only[Option.some.injEq,Prod.mk.injEq]at h
 obtain⟨_,rfl⟩:=h
 refine⟨.func fn xs.toArray ys.toArray,?_,cZ rfl⟩
 have h1:p.map a.eval=xs.toArray:=by apply Array.ext';simpa using pA hs _ e1
 have h2:q.map a.eval=ys.toArray:=by apply Array.ext';simpa using pA hs _ e2
 simp only[execOp,ho,h1,h2];rfl
 simp at h
 exact zx h hC hs ho
end
end Go.Abs
namespace Go.Abs
open Go
section
variable {w:World} {Pb Kb:Nat->Prop} {N:Nat} {A A':AS} {a:Act} {F:l9->List Nat} {P:Program}
theorem tY{v:V}{x:Value}{F:List Nat}(ho:v.cB=false)(h:RV w Pb v x F):F=[]:=by
 cases v with
 | tup vs=>obtain⟨xs,_,h⟩:=h;exact rQ vs (by simpa[V.cB] using ho) h
 | gv _ _=>exact h.1
 | agg us=>obtain⟨cs,_,h⟩:=h;exact fc us (by simpa[V.cB] using ho) h
 | b9=>exact h
 | own sz xs g o c=>exact hX (w:=w) (Pb:=Pb) _ ho h
 | ow sz xs=>exact hX (w:=w) (Pb:=Pb) _ ho h
 | om es g=>exact hX (w:=w) (Pb:=Pb) _ ho h
 | mp es=>exact hX (w:=w) (Pb:=Pb) _ ho h
 | lit x=>exact hX (w:=w) (Pb:=Pb) _ ho h
 | sl f xs=>exact hX (w:=w) (Pb:=Pb) _ ho h
 | hd r p sz g o lo n c=>exact hX (w:=w) (Pb:=Pb) _ ho h
 | ptr r p g o=>exact hX (w:=w) (Pb:=Pb) _ ho h
 | ep v=>exact hX (w:=w) (Pb:=Pb) _ ho h
def AS.drop(A:AS):Operand->AS
 | .tmp i=>if (A.get i).cB then A.put (some i) .b9 else A
 | _=>A
def AS.le(A' A:AS):Prop:=(∀ i,A'.get i=.b9\/A'.get i=A.get i)/\(∀ k,lk k A'.h=none\/lk k A'.h=lk k A.h)
open Classical in
theorem s4.le(hs:s4 N Pb Kb A a w F)(h:A'.le A):∃ F',s4 N Pb Kb A' a w F'/\∀ r g,g∈F' r->g∈F r:=by
 refine⟨fun r=>match r with | .slot i=>if A'.get i=.b9 then [] else F (.slot i) | .key k=>if lk k A'.h=none then [] else F (.key k),?_,?_⟩
 have key:∀ r g,g∈(match r with | .slot i=>if A'.get i=.b9 then [] else F (.slot i) | .key k=>if lk k A'.h=none then [] else F (.key k):List Nat)->g∈F r:=by
  intro r g hg
  cases r <;> simp only at hg <;> split at hg <;> simp_all
 refine⟨hs.size,hs.defers,fun i=>?_,fun k g v hk=>?_,fun r r' hne g hg=>?_,fun r=>?_,fun r g hg=>hs.free r g (key r g hg),hs.sub,hs.bound⟩
 rcases h.1 i with e | e
 simp only[e,if_true];rfl
 simp only
 split
 rename_i e';rw[e'];rfl
 rw[e];exact hs.slot i
 simp only
 rw[if_neg (by rw[hk];simp)]
 rcases h.2 k with e | e
 rw[e]at hk;simp at hk
 rw[e]at hk;exact hs.root k g v hk
 exact fun MB=>hs.bM r r' hne g (key r g hg) (key r' g MB)
 cases r <;> simp only <;> split <;> first | exact List.nodup_nil | exact hs.nodup _
 intro r g hg
 cases r <;> simp only at hg <;> split at hg <;> simp_all
theorem s4.take(hs:s4 N Pb Kb A a w F)(x:Operand):∃ Fx F',RV w Pb (A.ev x) (a.eval x) Fx/\s4 N Pb Kb (A.drop x) a w F'/\Fx.Nodup/\
 (∀ r g,g∈Fx->g ∉ F' r)/\(∀ g,g∈Fx->¬ Kb g/\g<w.heap.size)/\(∀ r g,g∈F' r->g∈F r)/\∀ g,g∈Fx->∃ r,g∈F r:=by
 cases x with
 | tmp i=>
   by_cases ho:(A.get i).cB=true
   have hn:(A.drop (.tmp i))=A.put (some i) .b9:=by simp[AS.drop,ho]
   refine⟨F (.slot i),bL F (.slot i) [],hs.slot i,?_,hs.nodup _,fun r g hg=>?_,fun g hg=>hs.free _ g hg,fun r g hg=>?_,fun g hg=>⟨_,hg⟩⟩
   rw[hn]
   refine⟨hs.size,hs.defers,fun j=>?_,fun k g v hk=>?_,fun r r' hne g hg=>?_,fun r=>?_,fun r g hg=>?_,hs.sub,hs.bound⟩
   rw[AS.ay]
   by_cases e:j=i
   subst e;simp[bL,RV,Q2]
   have:l9.slot j≠l9.slot i:=fun c=>e (by injection c)
   simp only[if_neg e,bL,if_neg this];exact hs.slot j
   obtain⟨F',e,hr⟩:=hs.root k g v hk
   exact⟨F',by simpa[bL] using e,hr⟩
   simp only[bL]at hg ⊢
   split at hg
   simp at hg
   split
   simp
   exact hs.bM r r' hne g hg
   simp only[bL];split
   exact List.nodup_nil
   exact hs.nodup r
   simp only[bL]at hg;split at hg
   simp at hg
   exact hs.free r g hg
   simp only[bL];split
   simp
   rename_i hne;exact hs.bM _ r (Ne.symm hne) g hg
   simp only[bL]at hg;split at hg
   simp at hg
   exact hg
   have Nl:(A.get i).cB=false:=by simpa using ho
   have hF:=tY Nl (hs.slot i)
   refine⟨[],F,by have:=hs.slot i;rw[hF]at this;exact this,by simp[AS.drop,Nl];exact hs,List.nodup_nil,by simp,by simp,fun _ _ h=>h,by simp⟩
 | const v=>exact⟨[],F,qv v,hs,List.nodup_nil,by simp,by simp,fun _ _ h=>h,by simp⟩
 | global g=>exact⟨[],F,⟨rfl,rfl⟩,hs,List.nodup_nil,by simp,by simp,fun _ _ h=>h,by simp⟩
 | func f=>exact⟨[],F,⟨rfl,rfl,rfl⟩,hs,List.nodup_nil,by simp,by simp,fun _ _ h=>h,by simp⟩
theorem tR{o:Oper}{K:AS->Prop}{C:Prop}{v:V}(h:G0 P A o.op=some (C,v))(hC:C)(hd:bX N o.dst)(hK:K (A.put o.dst v)):D5 P N o A K:=
 gN hd hK fun _ _ _ _ _ hs=>ud h hC hs rfl
theorem tv{o:Oper}{K:AS->Prop}{x:Operand}(ho:o.op=.assign x)(hd:bX N o.dst)(hK:K ((A.drop x).put o.dst (A.ev x))):D5 P N o A K:=by
 intro Pb Kb a w F Q hs
 obtain⟨Fx,F',hr,x7,hnd,u0,hfr,_⟩:=hs.take x
 unfold Oper.wp
 have:(execOp a.eval o).run P w=.ok (.value (a.eval x)) w:=by simp only[execOp,ho];rfl
 rw[this,Oper.upon_value]
 cases Kk:o.dst with
 | none=>exact⟨_,Pb,Kb,F',hK,by rw[Kk];exact x7,fun _ h=>h,fun _ h=>h,fun _ h=>.inl h,w8.refl _ _⟩
 | some d=>
   rw[Kk]at hd hK
   exact⟨_,Pb,Kb,_,hK,x7.put hd hr (fun r _ g hg=>u0 r g hg) hnd hfr,fun _ h=>h,fun _ h=>h,fun _ h=>.inl h,w8.refl _ _⟩
def gd(ops:Array Oper)(o:Oper)(A:AS)(x y:Prop):Prop:=
 match o.guard with
 | none=>x
 | some (j,b)=>match ((ops[j]?).bind (·.dst)).map A.get with
   | some (.lit (.bool b'))=>if b'=b then x else y
   | some (.gv c (.lit (.bool b')))=>if (c&&(b'==b))=true then x else y
   | _=>False
def WL(P:Program)(N:Nat)(ops:Array Oper):List Oper->AS->(AS->Prop)->Prop
 | [],A,K=>K A
 | o::rest,A,K=>gd ops o A (D5 P N o A fun A'=>WL P N ops rest A' K) (bX N o.dst/\∃ u,(∀ w Pb,RV w Pb u undef [])/\WL P N ops rest (A.put o.dst u) K)
theorem rB{ops:Array Oper}{o:Oper}{x y:Prop}(h:gd ops o A x y)(hs:s4 N Pb Kb A a w F):
 (Region.wanted o (yielded ops a.tmps)=true/\x)\/(Region.wanted o (yielded ops a.tmps)=false/\y):=by
 unfold gd at h
 unfold Region.wanted
 split at h
 rename_i hg;rw[hg];exact .inl ⟨rfl,h⟩
 rename_i j b hg
 rw[hg]
 split at h
 rename_i b' hd
 simp only[Option.map_eq_some_iff]at hd
 obtain⟨d,Ku,NO⟩:=hd
 have hr:=hs.slot d
 rw[NO]at hr
 have hx:a.tmps.getD d undef=.bool b':=by have:=hr.2.1;simpa using this
 have hy:yielded ops a.tmps j=some b':=by
  unfold yielded
  rw[Ku]
  simp only[Option.bind_some]
  cases ht:a.tmps[d]? with
  | none=>simp[ht,undef]at hx
  | some u=>simp[ht]at hx;subst hx;rfl
 simp only[hy]
 split at h
 rename_i e;subst e;exact .inl ⟨by simp,h⟩
 rename_i e;exact .inr ⟨by simp[e],h⟩
 rename_i c b' hd
 simp only[Option.map_eq_some_iff]at hd
 obtain⟨d,Ku,NO⟩:=hd
 have hr:=hs.slot d
 rw[NO]at hr
 obtain⟨_,M1,Ko⟩:=hr
 cases c with
 | false=>
   have hx:=Ko rfl
   have hy:yielded ops a.tmps j=none:=by
    unfold yielded
    rw[Ku]
    simp only[Option.bind_some]
    cases ht:a.tmps[d]? with
    | none=>simp
    | some u=>simp[ht]at hx;subst hx;rfl
   simp only[hy]
   simp only[Bool.false_and,Bool.false_eq_true,if_false]at h
   exact .inr ⟨by simp,h⟩
 | true=>
   have hx:a.tmps.getD d undef=.bool b':=by have:=(M1 rfl).2.1;simpa using this
   have hy:yielded ops a.tmps j=some b':=by
    unfold yielded
    rw[Ku]
    simp only[Option.bind_some]
    cases ht:a.tmps[d]? with
    | none=>simp[ht,undef]at hx
    | some u=>simp[ht]at hx;subst hx;rfl
   simp only[hy]
   simp only[Bool.true_and,beq_iff_eq]at h
   split at h
   rename_i e;subst e;exact .inl ⟨by simp,h⟩
   rename_i e;exact .inr ⟨by simp[e],h⟩
 exact h.elim
theorem Nx.mono{K K':AS->Prop}{a':Act}{w':World}(h:Nx N Pb Kb w K a' w')(hK:∀ A,K A->K' A):Nx N Pb Kb w K' a' w':=by
 obtain⟨A',Pb',C5,F',h1,h2⟩:=h
 exact⟨A',Pb',C5,F',hK _ h1,h2⟩
theorem Nx.step{K:AS->Prop} {Pb' C5:Nat->Prop} {PO:Act} {w' Pj:World} (h3:∀ g,Pb g->Pb' g) (h4:∀ g,Kb g->C5 g) (h5:∀ g,Pb' g->Pb g\/¬ Kb g) (h6:w8 Kb w w')
 (h:Nx N Pb' C5 w' K PO Pj):Nx N Pb Kb w K PO Pj:=by
 obtain⟨A2,Lz,LG,F2,k1,k2,k3,k4,k5,k6⟩:=h
 refine⟨A2,Lz,LG,F2,k1,k2,fun g hg=>k3 g (h3 g hg),fun g hg=>k4 g (h4 g hg),fun g hg=>?_,h6.trans k6 h4⟩
 rcases k5 g hg with h | h
 exact h5 g h
 exact .inr fun c=>h (h4 g c)
theorem pP{ops:Array Oper}{Q:Exit->Act->World->Prop}:∀ (l:List Oper) {A:AS} {K:AS->Prop} {Pb Kb:Nat->Prop} {a:Act} {w:World} {F:l9->List Nat},
 WL P N ops l A K->s4 N Pb Kb A a w F->(∀ a' w',Nx N Pb Kb w K a' w'->Q .normal a' w')->wpList P ops Q l a w
 | [],A,K,Pb,Kb,a,w,F,h,hs,hQ=>hQ _ _ ⟨A,Pb,Kb,F,h,hs,fun _ h=>h,fun _ h=>h,fun _ h=>.inl h,w8.refl _ _⟩
 | o::rest,A,K,Pb,Kb,a,w,F,h,hs,hQ=>by
   unfold wpList
   rcases rB h hs with ⟨hw,h⟩ | ⟨hw,hd,u,hu,h⟩
   rw[if_pos hw]
   refine .inl (Oper.wp_mono (K:=Nx N Pb Kb w fun A'=>WL P N ops rest A' K) ?_ (h Pb Kb a w F Q hs))
   intro a' w' ⟨A',Pb',C5,F',h1,h2,h3,h4,h5,h6⟩
   exact pP rest h1 h2 fun PO Pj hn=>hQ PO Pj (Nx.step h3 h4 h5 h6 hn)
   rw[if_neg (by simp[hw])]
   obtain⟨F',x7⟩:=hs.ou (d:=o.dst) (v:=u) (x:=undef) hd (hu w Pb)
   exact pP rest h x7 hQ
def T(P:Program)(N:Nat)(c:Code)(A:AS)(Q:Exit->AS->Prop):Prop:=
 ∀ Pb Kb a w F,s4 N Pb Kb A a w F->c.wp P (fun e a' w'=>Nx N Pb Kb w (Q e) a' w') a w
theorem kJ{c:Code}{Q Q':Exit->AS->Prop}(h:T P N c A Q)(hQ:∀ e A,Q e A->Q' e A):T P N c A Q':=
 fun Pb Kb a w F hs=>wp_mono (h Pb Kb a w F hs) fun e _ _ hn=>hn.mono (hQ e)
theorem IU{Q:Exit->AS->Prop}(h:Q .normal A):T P N .skip A Q:=
 fun Pb Kb _ _ F hs=>wp_skip ⟨A,Pb,Kb,F,h,hs,fun _ h=>h,fun _ h=>h,fun _ h=>.inl h,w8.refl _ _⟩
theorem FH{l:Nat}{Q:Exit->AS->Prop}(h:Q .normal A):T P N (.label l) A Q:=
 fun Pb Kb _ _ F hs=>wp_label ⟨A,Pb,Kb,F,h,hs,fun _ h=>h,fun _ h=>h,fun _ h=>.inl h,w8.refl _ _⟩
theorem He{i:Nat}{Q:Exit->AS->Prop}(h:Q (.exit i) A):T P N (.exit i) A Q:=
 fun Pb Kb _ _ F hs=>wp_exit ⟨A,Pb,Kb,F,h,hs,fun _ h=>h,fun _ h=>h,fun _ h=>.inl h,w8.refl _ _⟩
theorem Is{i:Nat}{Q:Exit->AS->Prop}(h:Q (.goto i) A):T P N (.goto i) A Q:=
 fun Pb Kb _ _ F hs=>wp_goto ⟨A,Pb,Kb,F,h,hs,fun _ h=>h,fun _ h=>h,fun _ h=>.inl h,w8.refl _ _⟩
theorem Jt{Q:Exit->AS->Prop}(h:Q .ret A):T P N .ret A Q:=
 fun Pb Kb _ _ F hs=>wp_ret ⟨A,Pb,Kb,F,h,hs,fun _ h=>h,fun _ h=>h,fun _ h=>.inl h,w8.refl _ _⟩
def Vx(f:AS->Prop)(Q:Exit->AS->Prop):Exit->AS->Prop
 | .normal,A=>f A
 | e,A=>Q e A
theorem Ja{x y:Code}{Q:Exit->AS->Prop}(h:T P N x A (Vx (fun A'=>T P N y A' Q) Q)):T P N (.seq x y) A Q:=by
 intro Pb Kb a w F hs
 refine wp_seq (wp_mono (h Pb Kb a w F hs) fun e a' w' hn=>?_)
 cases e with
 | normal=>
   obtain⟨A',Pb',C5,F',h1,h2,h3,h4,h5,h6⟩:=hn
   exact wp_mono (h1 Pb' C5 a' w' F' h2) fun e _ _ hn=>Nx.step h3 h4 h5 h6 hn
 | _=>exact hn
theorem Bh{c:Operand}{x y:Code}{Q:Exit->AS->Prop}{b:Bool}(hc:A.ev c=.lit (.bool b))(ht:b=true->T P N x A Q)(hf:b=false->T P N y A Q):T P N (.cond c x y) A Q:=
 fun Pb Kb a w F hs=>wp_cond_split (bJ hs hc) (fun h=>ht h Pb Kb a w F hs) (fun h=>hf h Pb Kb a w F hs)
def Vo(id:Nat)(Q:Exit->AS->Prop):Exit->AS->Prop
 | .exit Q6,A=>if Q6=id then Q .normal A else Q (.exit Q6) A
 | e,A=>Q e A
theorem GN{id:Nat}{c:Code}{Q:Exit->AS->Prop}(h:T P N c A (Vo id Q)):T P N (.block id c) A Q:=by
 intro Pb Kb a w F hs
 refine wp_block (wp_mono (h Pb Kb a w F hs) fun e a' w' hn=>?_)
 cases e with
 | exit Q6=>
   simp only[Exit.inBlock]
   have hb:∀ A,Vo id Q (.exit Q6) A=if Q6=id then Q .normal A else Q (.exit Q6) A:=fun _=>rfl
   by_cases e:Q6=id
   rw[if_pos e];exact hn.mono fun A h=>by rw[hb,if_pos e]at h;exact h
   rw[if_neg e];exact hn.mono fun A h=>by rw[hb,if_neg e]at h;exact h
 | _=>exact hn
theorem Ii{c:Code} {Q:Exit->AS->Prop} (I:Nat->AS->Prop) (n:Nat) (h0:I n A)
 (round:∀ n A,I n A->T P N c A (Vx (fun A'=> ∃ m,m<n/\I m A') Q)):T P N (.loop c) A Q:=by
 have key:∀ n A (Pb Kb:Nat->Prop) a w F,I n A->s4 N Pb Kb A a w F->∀ (b:Frame) (k:List Item) (cs:List Frame),
  ∃ e a' w',Nx N Pb Kb w (Q e) a' w'/\Arrives P (lone (b.at a (.code c :: .inLoop c::k)) cs w) b k cs e a' w':=by
  intro n
  induction n using Nat.strongRecOn with
  | _ n ih=>
    intro A Pb Kb a w F hI hs b k cs
    obtain⟨e,NH,Nu,hq,MG⟩:=round n A hI Pb Kb a w F hs b (.inLoop c::k) cs
    cases e with
    | normal=>
      obtain⟨A',Pb',C5,F',⟨m,hm,hI'⟩,h2,h3,h4,h5,h6⟩:=hq
      obtain⟨w6,Vp,MS,SV,PE⟩:=ih m hm A' Pb' C5 NH Nu F' hI' h2 b k cs
      exact⟨w6,Vp,MS,Nx.step h3 h4 h5 h6 SV,.of_steps (Steps.trans MG (.one step_inLoop)) PE⟩
    | exit id=>exact⟨_,NH,Nu,hq,.pass (x:=.inLoop c) rfl (fun _ _=>.inl (by simp)) MG⟩
    | goto l=>exact⟨_,NH,Nu,hq,.pass (x:=.inLoop c) rfl (fun _ _=>.inl (by simp)) MG⟩
    | ret=>exact⟨_,NH,Nu,hq,.pass (x:=.inLoop c) rfl (fun _ _=>.inl (by simp)) MG⟩
    | panic ch=>exact⟨_,NH,Nu,hq,.pass (x:=.inLoop c) rfl (fun _ _=>.inl (by simp)) MG⟩
    | outgrown=>exact⟨_,NH,Nu,hq,.pass (x:=.inLoop c) rfl (fun _ _=>.inl (by simp)) MG⟩
 intro Pb Kb a w F hs b k cs
 obtain⟨e,a',w',hq,MG⟩:=key n A Pb Kb a w F h0 hs b k cs
 exact⟨e,a',w',hq,.of_steps (.one step_loop) MG⟩
theorem Dr{id:Nat}{ops:Array Oper}{Q:Exit->AS->Prop}(h:WL P N ops ops.toList A (Q .normal)):T P N (.region id ops false) A Q:=
 fun _ _ _ _ _ hs=>wp_region_list (pP _ h hs fun _ _ hn=>hn)
end
end Go.Abs
namespace Go.Abs
open Go Go.RowKit
mutual
def V.er:V->V
 | .own _ xs _ _ _=>.sl false (V.A8 xs)
 | .ow _ xs=>.sl false (V.A8 xs)
 | .om es _=>.mp es
 | .agg vs=>.agg (V.A8 vs)
 | .tup vs=>.tup (V.A8 vs)
 | .gv _ _=>.b9
 | v=>v
def V.A8:List V->List V
 | []=>[]
 | v::vs=>v.er::V.A8 vs
end
def lC(P:Program)(f:FuncId):Prop:= ∀ args w,(callFunc f args).run P w=.ok (.enter f args) w
def PC(P:Program)(f:FuncId)(args:List V)(Q:V->Prop):Prop:=
 lC P f/\∀ (w:World) (Pb:Nat->Prop) (cargs:List Value),(∀ g,Pb g->g<w.heap.size)->RVs w Pb args cargs []->
  Calls P f cargs.toArray w fun e w'=> ∃ r x F Pb',e=.returned x/\Q r/\RV w' Pb' r x F/\F.Nodup/\(∀ g,g∈F->w.heap.size<=g/\g<w'.heap.size/\¬ Pb' g)/\
   (∀ g,Pb g->Pb' g)/\(∀ g,Pb' g->Pb g\/(w.heap.size<=g/\g<w'.heap.size))/\Below w.heap.size w w'
theorem PC.mono{P:Program}{f:FuncId}{args:List V}{Q Q':V->Prop}(h:PC P f args Q)(hQ:∀ r,Q r->Q' r):PC P f args Q':=
 ⟨h.1,fun w Pb cargs h1 h2=>(h.2 w Pb cargs h1 h2).mono fun _ _ ⟨r,x,F,Pb',e,q,rest⟩=>⟨r,x,F,Pb',e,hQ r q,rest⟩⟩
section
variable {w w':World} {Pb Kb Pb':Nat->Prop} {N:Nat} {A A':AS} {a:Act} {F:l9->List Nat} {P:Program}
mutual
theorem CW:∀ v:V,v.er.n=v.n
 | .own .. =>rfl | .ow .. =>rfl | .om .. =>rfl | .mp .. =>rfl | .agg vs=>by simp only[V.er,V.n];exact EY vs
 | .tup _=>rfl | .gv _ _=>rfl | .lit _=>rfl | .sl .. =>rfl | .hd .. =>rfl | .ptr .. =>rfl | .ep _=>rfl | .b9=>rfl
theorem EY:∀ vs:List V,V.ns (V.A8 vs)=V.ns vs
 | []=>rfl | v::vs=>by simp only[V.A8,V.ns,CW v,EY vs]
end
theorem jN:∀ vs:List V,V.A8 vs=vs.map V.er
 | []=>rfl | v::vs=>by simp[V.A8,jN vs]
mutual
theorem fT:∀ (v:V) {cs F},R w Pb v cs F->(∀ g,Pb g->Pb' g)->(∀ g,g∈F->Pb' g)->R w Pb' v.er cs []
 | .lit x,_,_,h,_,_=>⟨h.1,h.2.1,rfl⟩
 | .agg vs,_,_,h,k1,k2=>by simp only[R,V.er]at h ⊢;exact qf vs h k1 k2
 | .tup _,_,_,h,_,_=>by simp[R]at h
 | .gv _ _,_,_,h,_,_=>by simp[R]at h
 | .sl full xs,cs,F,h,k1,k2=>by
   have hF:=h.1
   subst hF
   exact fm (w:=w) (.sl full xs) h (fun _ _=>rfl) (by simp) k1 (by simp)
 | .own sz xs g o c,cs,F,h,k1,k2=>by
   rcases h with ⟨rfl,rfl,rfl,A,rfl⟩ | ⟨h1,h2,h3,rfl,h5,h6,flat,F',cells,rfl,hr,hb,hsz,s3⟩
   exact⟨rfl,A,0,rfl,Nat.le_refl _,fun h=>by simp at h,.inl rfl⟩
   refine⟨rfl,some ⟨g,o,none⟩,c,by rw[jN];simp,by rw[jN];simpa using h3,fun h=>by simp at h,?_⟩
   by_cases hx:xs=[]
   subst hx;exact .inl rfl
   refine .inr ⟨g,o,sz,flat,rfl,k2 g (by simp),h2,?_,qf xs hr k1 (fun g hg=>k2 g (by simp[hg])),fun j u hu=>by rw[dy hb];exact s3 j u hu⟩
   intro v hv
   rw[jN]at hv
   obtain⟨u,hu,rfl⟩:=List.mem_map.1 hv
   rw[CW];exact h5 u hu
 | .ow sz xs,cs,F,h,k1,k2=>by
   obtain⟨g,o,c,h⟩:=h
   rcases h with ⟨rfl,rfl,rfl,A,rfl⟩ | ⟨h1,h2,h3,rfl,h5,h6,flat,F',cells,rfl,hr,hb,hsz,s3⟩
   exact⟨rfl,A,0,rfl,Nat.le_refl _,fun h=>by simp at h,.inl rfl⟩
   refine⟨rfl,some ⟨g,o,none⟩,c,by rw[jN];simp,by rw[jN];simpa using h3,fun h=>by simp at h,?_⟩
   by_cases hx:xs=[]
   subst hx;exact .inl rfl
   refine .inr ⟨g,o,sz,flat,rfl,k2 g (by simp),h2,?_,qf xs hr k1 (fun g hg=>k2 g (by simp[hg])),fun j u hu=>by rw[dy hb];exact s3 j u hu⟩
   intro v hv
   rw[jN]at hv
   obtain⟨u,hu,rfl⟩:=List.mem_map.1 hv
   rw[CW];exact h5 u hu
 | .om es g,cs,F,h,k1,k2=>⟨rfl,g,h.2.1,k2 g (by rw[h.1];simp),h.2.2.2⟩
 | .mp es,cs,F,h,k1,_=>by obtain⟨_,g,h1,h2,h3⟩:=h;exact⟨rfl,g,h1,k1 g h2,h3⟩
 | .hd ..,_,_,h,_,_=>⟨rfl,h.2⟩
 | .ptr ..,_,_,h,_,_=>⟨rfl,h.2⟩
 | .ep v,cs,F,h,k1,k2=>by
   have hF:=h.1
   subst hF
   exact fm (w:=w) (.ep v) h (fun _ _=>rfl) (by simp) k1 (by simp)
 | .b9,_,_,h,_,_=>⟨rfl,h.2⟩
theorem qf:∀ (vs:List V) {cs F},RL w Pb vs cs F->(∀ g,Pb g->Pb' g)->(∀ g,g∈F->Pb' g)->RL w Pb' (V.A8 vs) cs []
 | [],_,_,h,_,_=>⟨h.1,rfl⟩
 | v::vs,_,_,h,k1,k2=>by
   obtain⟨c1,c2,F1,F2,rfl,rfl,h1,h2⟩:=h
   exact⟨c1,c2,[],[],rfl,rfl,fT v h1 k1 (fun g hg=>k2 g (by simp[hg])),qf vs h2 k1 (fun g hg=>k2 g (by simp[hg]))⟩
end
theorem Ch:∀ (vs:List V) {xs F},RVs w Pb vs xs F->(∀ g,Pb g->Pb' g)->(∀ g,g∈F->Pb' g)->RVs w Pb' (V.A8 vs) xs []
 | [],_,_,h,_,_=>⟨h.1,rfl⟩
 | v::vs,_,_,h,k1,k2=>by
   obtain⟨x,xs',F1,F2,rfl,rfl,h1,h2⟩:=h
   refine⟨x,xs',[],[],rfl,rfl,?_,Ch vs h2 k1 (fun g hg=>k2 g (by simp[hg]))⟩
   have O4:∀ g,g∈F1->Pb' g:=fun g hg=>k2 g (by simp[hg])
   cases v with
   | agg us=>obtain⟨cs,e,h1⟩:=h1;exact⟨cs,e,qf us h1 k1 O4⟩
   | b9=>rfl
   | tup _=>simp[R]at h1
   | gv _ _=>simp[R]at h1
   | own sz xs g o c=>exact fT (w:=w) (Pb:=Pb) (.own sz xs g o c) h1 k1 O4
   | ow sz xs=>exact fT (w:=w) (Pb:=Pb) (.ow sz xs) h1 k1 O4
   | om es g=>exact fT (w:=w) (Pb:=Pb) (.om es g) h1 k1 O4
   | mp es=>exact fT (w:=w) (Pb:=Pb) (.mp es) h1 k1 O4
   | lit x=>exact fT (w:=w) (Pb:=Pb) (.lit x) h1 k1 O4
   | sl f xs=>exact fT (w:=w) (Pb:=Pb) (.sl f xs) h1 k1 O4
   | hd r p sz g o lo n c=>exact fT (w:=w) (Pb:=Pb) (.hd r p sz g o lo n c) h1 k1 O4
   | ptr r p g o=>exact fT (w:=w) (Pb:=Pb) (.ptr r p g o) h1 k1 O4
   | ep v=>exact fT (w:=w) (Pb:=Pb) (.ep v) h1 k1 O4
theorem AB{v:V}{x:Value}{F:List Nat}(h:RV w Pb v x F)(k1:∀ g,Pb g->Pb' g)(k2:∀ g,g∈F->Pb' g):RV w Pb' v.er x []:=by
 cases v with
 | tup vs=>obtain⟨xs,e,h⟩:=h;exact⟨xs,e,Ch vs h k1 k2⟩
 | gv _ _=>rfl
 | agg us=>obtain⟨cs,e,h⟩:=h;exact⟨cs,e,qf us h k1 k2⟩
 | b9=>rfl
 | own sz xs g o c=>exact fT (w:=w) (Pb:=Pb) (.own sz xs g o c) h k1 k2
 | ow sz xs=>exact fT (w:=w) (Pb:=Pb) (.ow sz xs) h k1 k2
 | om es g=>exact fT (w:=w) (Pb:=Pb) (.om es g) h k1 k2
 | mp es=>exact fT (w:=w) (Pb:=Pb) (.mp es) h k1 k2
 | lit x=>exact fT (w:=w) (Pb:=Pb) (.lit x) h k1 k2
 | sl f xs=>exact fT (w:=w) (Pb:=Pb) (.sl f xs) h k1 k2
 | hd r p sz g o lo n c=>exact fT (w:=w) (Pb:=Pb) (.hd r p sz g o lo n c) h k1 k2
 | ptr r p g o=>exact fT (w:=w) (Pb:=Pb) (.ptr r p g o) h k1 k2
 | ep v=>exact fT (w:=w) (Pb:=Pb) (.ep v) h k1 k2
theorem s4.grow{Lz LG:Nat->Prop} (hs:s4 N Pb Kb A a w F) (hb:∀ k,k<w.heap.size->w'.heap[k]? =w.heap[k]?) (hsz:w.heap.size<=w'.heap.size) (h1:∀ g,Pb g->Lz g)
 (h4:∀ g,LG g->Kb g\/(w.heap.size<=g/\g<w'.heap.size)) (h5:∀ g,Lz g->LG g):s4 N Lz LG A a w' F where
 size:=hs.size
 defers:=hs.defers
 slot:=fun i=>lq _ (hs.slot i) (fun g hg=>hb g (hs.bound g (hs.sub g hg))) (fun g hg=>hb g (hs.free _ g hg).2) h1 (fun g hg c=>by
  have hf:=hs.free _ g hg
  rcases h4 g (h5 g c) with h | h
  exact hf.1 h
  omega)
 root:=fun k g v hk=>by
  obtain⟨F',e,cs,cells,⟨e',fr,J0,hfr⟩,hr,hc⟩:=hs.root k g v hk
  have hin:∀ x,x∈g::F'->x<w.heap.size/\¬ Lz x:=fun x hx=>by
   have hf:=hs.free (.key k) x (by rw[e];exact hx)
   refine⟨hf.2,fun c=>?_⟩
   rcases h4 x (h5 x c) with h | h
   exact hf.1 h
   omega
  exact⟨F',e,cs,cells,⟨e',fr,(hb g (hin g (by simp)).1).trans J0,hfr⟩,fm _ hr (fun g hg=>hb g (hs.bound g (hs.sub g hg))) (fun x hx=>hb x (hin x (by simp[hx])).1) h1 (fun x hx=>(hin x (by simp[hx])).2),hc⟩
 bM:=hs.bM
 nodup:=hs.nodup
 free:=fun r g hg=>by
  have hf:=hs.free r g hg
  refine⟨fun c=>?_,by omega⟩
  rcases h4 g c with h | h
  exact hf.1 h
  omega
 sub:=h5
 bound:=fun g hg=>by
  rcases h4 g hg with h | h
  have:=hs.bound g h;omega
  exact h.2
theorem w8.xi(h:Below w.heap.size w w')(hK:∀ g,Kb g->g<w.heap.size):w8 Kb w w':=
 ⟨h.os,h.tape,h.output,h.size,fun g hg=>h.block g (hK g hg),Shp.of_eq h.block⟩
theorem rf(hs:s4 N Pb Kb A a w F):∀ xs:List Operand,RVs w Pb (xs.map A.cp) (xs.map a.eval) []
 | []=>⟨rfl,rfl⟩
 | x::xs=>by
   refine⟨a.eval x,xs.map a.eval,[],[],rfl,rfl,?_,rf hs xs⟩
   have h:=nM hs x
   cases hv:A.cp x with
   | tup vs=>
     exfalso
     cases x with
     | tmp i=>
       simp only[AS.cp]at hv
       cases hg:A.get i <;> rw[hg]at hv <;> first | (solve | simp only[V.cp,V.NG,reduceCtorEq]at hv) | (unfold V.cp at hv;simp only[V.NG,reduceCtorEq]at hv)
     | const c=>
       simp only[AS.cp,AS.ev]at hv
       cases c <;> simp[cV,PM]at hv
       split at hv <;> simp at hv
       split at hv <;> simp at hv
     | _=>simp[AS.cp,AS.ev]at hv
   | gv b u=>
     exfalso
     cases x with
     | tmp i=>
       simp only[AS.cp]at hv
       cases hg:A.get i <;> rw[hg]at hv <;> first | (solve | simp only[V.cp,V.NG,reduceCtorEq]at hv) | (unfold V.cp at hv;simp only[V.NG,reduceCtorEq]at hv)
     | const c=>
       simp only[AS.cp,AS.ev]at hv
       cases c <;> simp[cV,PM]at hv
       split at hv <;> simp at hv
       split at hv <;> simp at hv
     | _=>simp[AS.cp,AS.ev]at hv
   | agg us=>rw[hv]at h;exact h
   | b9=>rfl
   | own sz xs g o c=>rw[hv]at h;exact h
   | ow sz xs=>rw[hv]at h;exact h
   | om es g=>rw[hv]at h;exact h
   | mp es=>rw[hv]at h;exact h
   | lit x=>rw[hv]at h;exact h
   | sl f xs=>rw[hv]at h;exact h
   | hd r p sz g o lo n c=>rw[hv]at h;exact h
   | ptr r p g o=>rw[hv]at h;exact h
   | ep v=>rw[hv]at h;exact h
theorem Ep{o:Oper} {K:AS->Prop} {f:FuncId} {xs:Array Operand} {J6:Array TypeId} {Q:V->Prop} (ho:o.op=.call { callee:=.value (.func f),args:=xs,argTypes:=J6 })
 (hd:bX N o.dst) (hc:PC P f (xs.toList.map A.cp) Q) (hK:∀ r,Q r->K (A.put o.dst r)):D5 P N o A K:=by
 intro Pb Kb a w F Q' hs
 unfold Oper.wp
 have x9:(execOp a.eval o).run P w=.ok (.enter f (xs.map a.eval)) w:=by
  simp only[execOp,ho,resolve,Act.eval,Deferred.ofValue,Sem.run_bind,Sem.run_pure,Result.andThen_ok,invoke]
  have:=hc.1 (xs.map a.eval) w
  simpa using this
 rw[x9,Oper.upon_enter]
 have hargs:=rf hs xs.toList
 have I4:=hc.2 w Pb (xs.toList.map a.eval) (fun g hg=>hs.bound g (hs.sub g hg)) hargs
 have e:(xs.toList.map a.eval).toArray=xs.map a.eval:=by rw[<- Array.toList_map,Array.toArray_toList]
 rw[e]at I4
 refine I4.mono ?_
 rintro e w' ⟨r,x,Fr,Pb',rfl,hq,hr,hnd,hfr,h1,h2,hb⟩
 have x7:s4 N Pb' (fun g=>Kb g\/Pb' g) A a w' F:=hs.grow hb.block hb.size h1 (fun g hg=>by
  rcases hg with h | h
  exact .inl h
  rcases h2 g h with h | h
  exact .inl (hs.sub g h)
  exact .inr h) (fun g hg=>.inr hg)
 have OE:∀ g,g∈Fr->¬ (Kb g\/Pb' g)/\g<w'.heap.size:=fun g hg=>by
  obtain⟨f1,f2,f3⟩:=hfr g hg
  refine⟨fun c=>?_,f2⟩
  rcases c with c | c
  have:=hs.bound g c;omega
  exact f3 c
 have hnx:∀ A' a' F',K A'->s4 N Pb' (fun g=>Kb g\/Pb' g) A' a' w' F'->Nx N Pb Kb w K a' w':=fun A' a' F' hk Rc=>
  ⟨A',Pb',_,F',hk,Rc,h1,fun g hg=>.inl hg,fun g hg=>by
   rcases h2 g hg with h | h
   exact .inl h
   exact .inr fun c=>by have:=hs.bound g c;omega,w8.xi hb hs.bound⟩
 cases Kk:o.dst with
 | none=>exact hnx _ _ F (hK r hq) (by rw[Kk];exact x7)
 | some d=>
   rw[Kk]at hd
   refine hnx _ _ (bL F (.slot d) Fr) (hK r hq) ?_
   rw[Kk]
   refine x7.put hd hr (fun rt _ g hg=>?_) hnd OE
   intro I5
   have:=(hs.free rt g I5).2
   have:=(hfr g hg).1
   omega
theorem mL{o:Oper} {K:AS->Prop} {f:FuncId} {xs:Array Operand} {J6:Array TypeId} {Q:V->Prop} {E:V} (ho:o.op=.call { callee:=.value (.func f),args:=xs,argTypes:=J6 })
 (hd:bX N o.dst) (hc:PC P f (xs.toList.map A.cp) Q) (hE:∀ r,Q r->r.er=E) (hK:K (A.put o.dst E)):D5 P N o A K:=by
 have I5:PC P f (xs.toList.map A.cp) (fun r=>r=E):=by
  refine⟨hc.1,fun w Pb cargs h1 h2=>(hc.2 w Pb cargs h1 h2).mono ?_⟩
  rintro e w' ⟨r,x,Fr,Pb',rfl,hq,hr,hnd,hfr,k1,k2,hb⟩
  refine⟨E,x,[],fun g=>Pb' g\/g∈Fr,rfl,rfl,?_,List.nodup_nil,by simp,fun g hg=>.inl (k1 g hg),fun g hg=>?_,hb⟩
  rw[<- hE r hq];exact AB hr (fun g hg=>.inl hg) (fun g hg=>.inr hg)
  rcases hg with h | h
  exact k2 g h
  obtain⟨f1,f2,_⟩:=hfr g h;exact .inr ⟨f1,f2⟩
 exact Ep ho hd I5 fun r hr=>by rw[hr];exact hK
def enum(k:Nat):List V->List (Nat×V)
 | []=>[]
 | v::vs=>(k,v)::enum (k+1) vs
def wh(A:AS):ResultVar->Option (l9×V)
 | .tmp t=>some (.slot t,A.get t)
 | .cell t _=>match A.get t with
   | .ptr (.key k) [] g 0=>match lk k A.h with
     | some (g',v)=>if g'=g then some (.key k,v) else none
     | none=>none
   | _=>none
def nP(A:AS):List ResultVar->Option (List (l9×V))
 | []=>some []
 | r::rs=>match wh A r,nP A rs with
   | some x,some xs=>some (x::xs)
   | _,_=>none
def oq(P:Program):List ResultVar->List (l9×V)->Prop
 | .cell _ T::rs,(_,v)::xs=>(match ti P T with | some i=>v.n=i.sz/\i.d.agg=v.isAgg | none=>False)/\oq P rs xs
 | .tmp _::rs,(_,v)::xs=>(match v with | .tup _=>False | .gv _ _=>False | _=>True)/\oq P rs xs
 | [],[]=>True
 | _,_=>False
def one(vs:List V):V:=match vs with | [v]=>v | vs=>.tup vs
theorem yL:∀ (vs:List V) (k i:Nat),lk i (enum k vs)=if k<=i then vs[i-k]? else none
 | [],k,i=>by simp[enum,lk]
 | v::vs,k,i=>by
   simp only[enum,lk]
   by_cases h:i=k
   subst h;simp
   rw[if_neg h,yL vs (k+1) i]
   by_cases h':k+1<=i
   rw[if_pos h',if_pos (by omega)]
   have:i-k=(i-(k+1))+1:=by omega
   rw[this];rfl
   rw[if_neg h',if_neg (by omega)]
theorem Cq:∀ (vs:List V) {xs:List Value} {i:Nat} {v:V},RVs w Pb vs xs []->vs[i]? =some v->∃ x,xs[i]? =some x/\RV w Pb v x []
 | [],_,_,_,_,h=>by simp at h
 | v::vs,xs,0,u,h,hi=>by
     obtain⟨x,xs',F1,F2,rfl,hF,h1,h2⟩:=h
     have hF1:F1=[]:=by have:=hF.symm;simp at this;exact this.1
     subst hF1
     simp at hi;subst hi
     refine⟨x,rfl,?_⟩
     cases v with
     | agg us=>exact h1
     | b9=>exact h1
     | tup us=>simp[R]at h1
     | gv _ _=>simp[R]at h1
     | _=>exact h1
 | v::vs,xs,i+1,u,h,hi=>by
     obtain⟨x,xs',F1,F2,rfl,hF,h1,h2⟩:=h
     have hF2:F2=[]:=by have:=hF.symm;simp at this;exact this.2
     subst hF2
     obtain⟨y,hy,hr⟩:=Cq vs h2 (by simpa using hi)
     exact⟨y,by simpa using hy,hr⟩
theorem tI:∀ (vs:List V) {xs:List Value} {F},RVs w Pb vs xs F->xs.length=vs.length
 | [],_,_,h=>by rw[h.1];rfl
 | v::vs,_,_,h=>by
   obtain⟨x,xs',F1,F2,rfl,_,_,h2⟩:=h
   simp[tI vs h2]
def RE(a:Act):ResultVar->Sem Value
 | .tmp t=>pure (a.tmps.getD t undef)
 | .cell t T=>do loadVar T (<- asAddr (a.tmps.getD t undef))
def L'(w:World)(Pb:Nat->Prop)(v:V)(x:Value)(F:List Nat):Prop:=match v with
 | .agg us=> ∃ cs,x=.agg cs/\RL w Pb us cs.toList F
 | .b9=>F=[]
 | v=>R w Pb v [x] F
theorem Ca{v:V}{x:Value}{F1:List Nat}(h:RV w Pb v x F1)(hn:(∀ us,v≠.tup us)/\∀ b u,v≠.gv b u):L' w Pb v x F1:=by
 cases v with
 | tup us=>exact absurd rfl (hn.1 us)
 | gv b u=>exact absurd rfl (hn.2 b u)
 | _=>exact h
theorem Hh{i:Option TI}{v:V}(h:match i with | some i=>v.n=i.sz/\i.d.agg=v.isAgg | none=>False):∃ j,i=some j/\v.n=j.sz/\j.d.agg=v.isAgg:=by
 cases i with
 | none=>exact h.elim
 | some j=>exact⟨j,rfl,h⟩
instance:LawfulMonad Sem:=LawfulMonad.mk' Sem (id_map:=fun x=>by
 show x.bind (fun a=>Sem.pure (id a))=x
 exact Sem.bind_pure' x)
 (pure_bind:=fun _ _=>rfl) (bind_assoc:=fun x f g=>Sem.bind_assoc' x f g)
theorem vi(hs:s4 N Pb Kb A a w F):∀ (rs:List ResultVar) {xs:List (l9×V)},nP A rs=some xs->oq P rs xs->(xs.map (·.1)).Nodup->
 ∃ (vs:List Value) (Fr:List Nat),(rs.mapM (RE a)).run P w=.ok vs w/\
   RVs w Pb (xs.map (·.2)) vs Fr/\Fr.Nodup/\(∀ g,g∈Fr->∃ r,r∈xs.map (·.1)/\g∈F r)
 | [],xs,h,_,_=>by
   simp[nP]at h;subst h
   exact⟨[],[],rfl,⟨rfl,rfl⟩,List.nodup_nil,by simp⟩
 | r::rs,xs,h,KO,hnd=>by
   simp only[nP]at h
   split at h
   case h_2=>simp at h
   rename_i x xs' hx Pq
   simp only[Option.some.injEq]at h
   subst h
   simp only[List.map_cons,List.nodup_cons]at hnd
   have UI:oq P rs xs':=by
    obtain⟨xr,xv⟩:=x
    cases r <;> exact KO.2
   obtain⟨vs,Fr,x9,hrv,La,hin⟩:=vi hs rs Pq UI hnd.2
   have h1:∃ (v:Value) (F1:List Nat),(RE a r).run P w=.ok v w/\RV w Pb x.2 v F1/\((∀ us,x.2≠.tup us)/\∀ b u,x.2≠.gv b u)/\F1.Nodup/\∀ g,g∈F1->g∈F x.1:=by
    cases r with
    | tmp t=>
      simp only[wh,Option.some.injEq]at hx
      subst hx
      have KO:=KO.1
      exact⟨_,F (.slot t),rfl,hs.slot t,⟨fun us e=>by have e':A.get t=.tup us:=e;rw[e']at KO;exact KO,fun b u e=>by have e':A.get t=.gv b u:=e;rw[e']at KO;exact KO⟩,hs.nodup _,fun _ h=>h⟩
    | cell t T=>
      simp only[wh]at hx
      split at hx
      case h_2=>simp at hx
      rename_i k g hg
      split at hx
      case h_2=>simp at hx
      rename_i g' v hk
      split at hx
      case isFalse=>simp at hx
      rename_i e
      subst e
      simp only[Option.some.injEq]at hx
      subst hx
      have Pu:=KO.1
      obtain⟨i,hi,Pu⟩:=Hh Pu
      obtain⟨F',e,cs,cells,hb,hr,hc⟩:=hs.root k g' v hk
      have hp:=hs.slot t
      rw[hg]at hp
      have hp:a.tmps.getD t undef=.pointer (some ⟨g',0,none⟩):=by have:=hp.2;simpa using this
      obtain⟨y,hy,SO⟩:=lp (w:=w) hi hr Pu.1 Pu.2 (g:=g') (o:=0) (fun j u hu=>by rw[dy hb];exact hc j u hu)
      refine⟨y,F',by simp only[RE,hp,asAddr,Sem.run_bind,Sem.run_pure,Result.andThen_ok,hy],SO,?_,?_,?_⟩
      exact⟨fun us e=>by simp only at e;subst e;simp[R]at hr,fun b u e=>by simp only at e;subst e;simp[R]at hr⟩
      have:=hs.nodup (.key k);rw[e]at this;exact(List.nodup_cons.1 this).2
      intro g hg;rw[e];simp[hg]
   obtain⟨v,F1,hv,M1,hnt,Rm,S7⟩:=h1
   refine⟨v::vs,F1++Fr,?_,?_,?_,?_⟩
   rw[List.mapM_cons]
   simp only[Sem.run_bind,Sem.run_pure]
   rw[hv]
   simp only[Result.andThen_ok,x9]
   exact⟨v,vs,F1,Fr,rfl,rfl,Ca M1 hnt,hrv⟩
   refine List.nodup_append.2 ⟨Rm,La,fun p hp q hq e=>?_⟩
   subst e
   obtain⟨r',D6,MB⟩:=hin p hq
   exact hs.bM x.1 r' (fun c=>hnd.1 (by rw[c];exact D6)) p (S7 p hp) MB
   intro g hg
   rcases List.mem_append.1 hg with h | h
   exact⟨x.1,by simp,S7 g h⟩
   obtain⟨r',D6,MB⟩:=hin g h
   exact⟨r',by simp only[List.map_cons,List.mem_cons];exact .inr D6,MB⟩
theorem BV:∀ (us:List V) {vs:List Value} {Fr:List Nat},RVs w Pb us vs Fr->RV w Pb (one us) (if h:vs.toArray.size=1 then vs.toArray[0] else .tuple vs.toArray) Fr
 | [],vs,Fr,h=>by obtain⟨rfl,rfl⟩:=h;exact⟨#[],rfl,rfl,rfl⟩
 | [v],vs,Fr,h=>by
   obtain⟨x,xs',F1,F2,rfl,rfl,h1,h2⟩:=h
   obtain⟨rfl,rfl⟩:=h2
   simp only[List.append_nil]
   show RV w Pb v x F1
   cases v with
   | tup _=>simp[R]at h1
   | gv _ _=>simp[R]at h1
   | _=>exact h1
 | v::v'::us,vs,Fr,h=>by
   have hl:=tI _ h
   rw[dif_neg (by simp at hl ⊢;omega)]
   exact⟨vs.toArray,rfl,by simpa using h⟩
theorem ym(hs:s4 N Pb Kb A a w F){fn:Func}{xs:List (l9×V)}(h1:nP A fn.results.toList=some xs)(h2:oq P fn.results.toList xs)(h3:(xs.map (·.1)).Nodup):
 ∃ x Fr,(results fn a.tmps).run P w=.ok x w/\RV w Pb (one (xs.map (·.2))) x Fr/\Fr.Nodup/\∀ g,g∈Fr->∃ r,r∈xs.map (·.1)/\g∈F r:=by
 obtain⟨vs,Fr,x9,hrv,hnd,hin⟩:=vi hs _ h1 h2 h3
 have hm:(fn.results.mapM (RE a)).run P w=.ok vs.toArray w:=by
  rw[<- Array.toArray_toList (xs:=fn.results),List.mapM_toArray,Sem.run_map,x9];rfl
 have U2:(results fn a.tmps).run P w=.ok (if h:vs.toArray.size=1 then vs.toArray[0] else .tuple vs.toArray) w:=by
  show ((fn.results.mapM (RE a)).bind _).run P w=_
  have:=Sem.run_bind (P:=P) (w:=w) (x:=fn.results.mapM (RE a)) (f:=fun vs=>(pure (if h:vs.size=1 then vs[0] else .tuple vs):Sem Value))
  rw[hm]at this
  exact this
 exact⟨_,Fr,U2,BV _ hrv,hnd,hin⟩
end
end Go.Abs
namespace Go.Abs
open Go Go.RowKit
def Str(l:BL):ByteArray:=⟨l.toArray⟩
theorem fV(l:BL):(Str l).size=l.length:=by simp[Str,ByteArray.size]
theorem FY(a b:BL):Str a++Str b=Str (a++b):=by
 apply ByteArray.ext;simp[Str]
theorem GQ(l:BL)(i j:Nat):(Str l).extract i j=Str ((l.take j).drop i):=by
 apply ByteArray.ext
 rw[ByteArray.data_extract]
 simp[Str,List.extract,List.drop_take]
theorem IF(l:BL)(i:Int):Vn (Str l) i=.lit (.int .u8 (l.getD i.toNat 0).toNat):=by
 unfold Vn Str;simp[Array.getD,List.getD]
 split <;> simp_all
def K7(P:Program)(N:Nat):List Oper->AS->Prop×AS×List Oper
 | [],A=>(True,A,[])
 | o::rest,A=>match o.guard with
   | some _=>(True,A,o::rest)
   | none=>match o.op with
     | .assign x=>match K7 P N rest ((A.drop x).put o.dst (A.ev x)) with
       | (C,r)=>(bX N o.dst/\C,r)
     | op=>match G0 P A op with
       | some (C,v)=>match K7 P N rest (A.put o.dst v) with
         | (C',r)=>(bX N o.dst/\C/\C',r)
       | none=>(True,A,o::rest)
theorem dv{P:Program} {f:FuncId} {fn:Func} (hf:P.funcs[f]? =some fn) (hn:(fn.name== "runtime.NumGoroutine")=false) (hb:fn.body.isNone=false):lC P f:=by
 intro args w
 unfold callFunc
 simp only[Sem.run_bind,run_program,Result.andThen_ok,hf,hn,hb,Bool.false_eq_true,if_false,Sem.run_pure]
end Go.Abs
namespace Go.Abs
open Go Go.RowKit
def V.set(v:V):List Nat->V->V
 | [],u=>u
 | j::p,u=>match v with
   | .agg vs=>match vs[j]? with
     | some x=>.agg (vs.set j (V.set x p u))
     | none=>v
   | .own sz xs g o c=>match xs[j]? with
     | some x=>.own sz (xs.set j (V.set x p u)) g o c
     | none=>v
   | _=>v
section
variable {w w':World} {Pb Kb:Nat->Prop}
def Q3(w:World)(Pb:Nat->Prop)(vs:List V)(g o:Nat)(F:List Nat):Prop:=
 ∃ cs cells,Blk w g cells/\RL w Pb vs cs F/\∀ j u,cs[j]? =some u->cells[o+j]? =some u
theorem qX{v:V}{vs:List V}{g o:Nat}{F:List Nat}:Q3 w Pb (v::vs) g o F↔∃ F1 F2,F=F1++F2/\At w Pb v g o F1/\Q3 w Pb vs g (o+v.n) F2:=by
 constructor
 rintro⟨cs,cells,hb,⟨c1,c2,F1,F2,rfl,rfl,h1,h2⟩,hc⟩
 refine⟨F1,F2,rfl,⟨c1,cells,hb,h1,fun j u hu=>hc j u ?_⟩,⟨c2,cells,hb,h2,fun j u hu=>?_⟩⟩
 rw[List.getElem?_append_left (List.getElem?_eq_some_iff.1 hu).1];exact hu
 have hl:=dK v h1
 rw[<- hl,Nat.add_assoc]
 refine hc _ u ?_
 rw[List.getElem?_append_right (by omega)]
 have e:c1.length+j-c1.length=j:=by omega
 rw[e];exact hu
 rintro⟨F1,F2,rfl,⟨c1,cells,⟨e1,f1,hb,hf⟩,h1,K1⟩,⟨c2,n8,⟨e2,f2,J0,_⟩,h2,OM⟩⟩
 rw[hb]at J0
 simp only[Option.some.injEq,Obj.cells.injEq]at J0
 obtain⟨rfl,_,_⟩:=J0
 refine⟨c1++c2,cells,⟨e1,f1,hb,hf⟩,⟨c1,c2,F1,F2,rfl,rfl,h1,h2⟩,fun j u hu=>?_⟩
 have hl:=dK v h1
 by_cases hj:j<c1.length
 rw[List.getElem?_append_left hj]at hu;exact K1 j u hu
 rw[List.getElem?_append_right (by omega)]at hu
 have:=OM _ u hu
 rw[<- hl]at this
 have e:o+c1.length+(j-c1.length)=o+j:=by omega
 rwa [e]at this
theorem xo{vs:List V}{g o:Nat}{F:List Nat}:At w Pb (.agg vs) g o F↔Q3 w Pb vs g o F:=by
 constructor
 rintro⟨cs,cells,hb,h,hc⟩;exact⟨cs,cells,hb,by simpa only[R] using h,hc⟩
 rintro⟨cs,cells,hb,h,hc⟩;exact⟨cs,cells,hb,by simpa only[R] using h,hc⟩
theorem vg{l:List Value}{cells:Array Value}{o:Nat}(h:∀ j u,l[j]? =some u->cells[o+j]? =some u)(hl:l≠[]):o+l.length<=cells.size:=by
 have I':0<l.length:=List.length_pos_iff.2 hl
 have:=h (l.length-1) _ (List.getElem?_eq_getElem (by omega))
 have:=(Array.getElem?_eq_some_iff.1 this).1
 omega
theorem oL{v:V} {g o:Nat} {F:List Nat} (h:At w Pb v g o F) (k1:∀ x,Pb x->w'.heap[x]? =w.heap[x]?) (k2:∀ x,x∈F->w'.heap[x]? =w.heap[x]?) (k3:∀ x,x∈F->¬ Pb x)
 (k4:∀ cells,Blk w g cells->∃ n8,Blk w' g n8/\∀ j,o<=j->j<o+v.n->n8[j]? =cells[j]?):At w' Pb v g o F:=by
 obtain⟨cs,cells,hb,hr,hc⟩:=h
 obtain⟨n8,J0,he⟩:=k4 cells hb
 refine⟨cs,n8,J0,fm v hr k1 k2 (fun _ h=>h) k3,fun j u hu=>?_⟩
 have hl:=dK v hr
 have hj:=(List.getElem?_eq_some_iff.1 hu).1
 rw[he _ (by omega) (by omega)];exact hc j u hu
theorem Bq{vs:List V} {g o:Nat} {F:List Nat} (h:Q3 w Pb vs g o F) (k1:∀ x,Pb x->w'.heap[x]? =w.heap[x]?) (k2:∀ x,x∈F->w'.heap[x]? =w.heap[x]?) (k3:∀ x,x∈F->¬ Pb x)
 (k4:∀ cells,Blk w g cells->∃ n8,Blk w' g n8/\∀ j,o<=j->j<o+V.ns vs->n8[j]? =cells[j]?):Q3 w' Pb vs g o F:=by
 rw[<- xo]at h ⊢
 exact oL h k1 k2 k3 k4
structure z6 (w w':World) (g o:Nat) (cs:List Value):Prop where
 os:w'.os=w.os
 tape:w'.tape=w.tape
 output:w'.output=w.output
 size:w'.heap.size=w.heap.size
 KS:∀ k,k≠g->w'.heap[k]? =w.heap[k]?
 shape:Shp w w'
 LI:∀ cells,Blk w g cells->∃ n8,Blk w' g n8/\n8.size=cells.size/\(∀ j,j<o\/o+cs.length<=j->n8[j]? =cells[j]?)/\(∀ j u,cs[j]? =some u->n8[o+j]? =some u)
theorem fR:∀ (p:List Nat) {v u:V} {g o g' o':Nat} {F},At w Pb v g o F->V.at g o v p=some (g',o',u)->(g'=g/\o<=o'/\o'+u.n<=o+v.n)\/g'∈F
 | [],v,u,g,o,g',o',F,h,e=>by
   simp only[V.at,Option.some.injEq,Prod.mk.injEq]at e
   obtain⟨rfl,rfl,rfl⟩:=e
   exact .inl ⟨rfl,Nat.le_refl _,Nat.le_refl _⟩
 | j::p,v,u,g,o,g',o',F,h,e=>by
   simp only[V.at]at e
   split at e
   rename_i vs
   split at e
   rename_i x hx
   obtain⟨cs,cells,hb,hr,hc⟩:=h
   simp only[R]at hr
   obtain⟨c,F',D6,hF,I5⟩:=fp vs hr hx
   rcases fR p (v:=x) ⟨c,cells,hb,D6,fun i u hu=>by rw[Nat.add_assoc];exact hc _ _ (I5 i u hu)⟩ e with ⟨h1,h2,h3⟩ | h1
   left
   refine⟨h1,by omega,?_⟩
   have hle:V.ns (vs.take j)+x.n<=V.ns vs:=by
    clear e hr hc D6 I5 hF h3 h2
    induction vs generalizing j with
    | nil=>simp at hx
    | cons v0 vs ih=>
      cases j with
      | zero=>simp at hx;subst hx;simp[V.ns]
      | succ j=>have:=ih (j:=j) (by simpa using hx);simp only[List.take_succ_cons,V.ns];omega
   simp only[V.n];omega
   exact .inr (hF _ h1)
   simp at e
   rename_i sz xs g1 o1 c1
   split at e
   rename_i x hx
   obtain⟨cs,cells,hb,hr,hc⟩:=h
   rcases hr with ⟨_,rfl,_⟩ | ⟨_,_,_,_,ha,_,flat,F',n8,rfl,hr,J0,_,I5⟩
   simp at hx
   obtain⟨c,KH,D6,hF,Lv⟩:=fp xs hr hx
   have hj:j<=xs.length:=by have:=(List.getElem?_eq_some_iff.1 hx).1;omega
   rw[du xs j ha hj]at Lv
   rcases fR p (v:=x) ⟨c,n8,J0,D6,fun i u hu=>by rw[Nat.add_assoc];exact I5 _ _ (Lv i u hu)⟩ e with ⟨h1,_⟩ | h1
   right;simp[h1]
   right;simp[hF _ h1]
   simp at e
   simp at e
theorem lr:∀ (p:List Nat) {v u u':V} {g o g' o':Nat},V.at g o v p=some (g',o',u)->u'.n=u.n->(v.set p u').n=v.n
 | [],v,u,u',g,o,g',o',e,h=>by
   simp only[V.at,Option.some.injEq,Prod.mk.injEq]at e
   obtain⟨_,_,rfl⟩:=e;exact h
 | j::p,v,u,u',g,o,g',o',e,h=>by
   simp only[V.at]at e
   simp only[V.set]
   split at e
   rename_i vs
   split at e
   rename_i x hx
   have ih:=lr p e h
   simp only[hx,V.n]
   clear e
   induction vs generalizing j with
   | nil=>simp at hx
   | cons v0 vs ihv=>
     cases j with
     | zero=>simp at hx;subst hx;simp[V.ns,ih]
     | succ j=>simp only[List.set_cons_succ,V.ns];rw[ihv j (by simpa using hx)]
   simp at e
   split at e
   rename_i x hx;(try simp only[hx]);rfl
   simp at e
   simp at e
def SS(w w':World)(Pb:Nat->Prop)(p:List Nat):Prop:= ∀ (v u u':V) (g o g' o':Nat) (F KH:List Nat) (OU:List Value),At w Pb v g o F->(g::F).Nodup->(∀ x,x∈g::F->¬ Pb x)->V.at g o v p=some (g',o',u)->
    R w' Pb u' OU KH->u'.n=u.n->KH.Nodup->(∀ x,x∈KH->x ∉ g::F)->z6 w w' g' o' OU->(∀ x,Pb x->w'.heap[x]? =w.heap[x]?)->
    ∃ F1,At w' Pb (v.set p u') g o F1/\(g::F1).Nodup/\∀ x,x∈F1->x∈F\/x∈KH
theorem ug{w w':World} {Pb:Nat->Prop} {p:List Nat} (IH:SS w w' Pb p) {x u u':V} {g g' o':Nat} {KH:List Nat} {OU:List Value} (hr:R w' Pb u' OU KH) (hn:u'.n=u.n) (La:KH.Nodup)
 (x6:z6 w w' g' o' OU) (k1:∀ x,Pb x->w'.heap[x]? =w.heap[x]?):
 ∀ (vs:List V) (o:Nat) (F:List Nat) (j:Nat),Q3 w Pb vs g o F->(g::F).Nodup->(∀ x,x∈g::F->¬ Pb x)->(∀ x,x∈KH->x ∉ g::F)->vs[j]? =some x->V.at g (o+V.ns (vs.take j)) x p=some (g',o',u)->
   ∃ F1,Q3 w' Pb (vs.set j (x.set p u')) g o F1/\(g::F1).Nodup/\∀ y,y∈F1->y∈F\/y∈KH:=by
 have hcs':=dK u' hr
 intro vs
 induction vs with
 | nil=>intro o F j _ _ _ _ hx;simp at hx
 | cons v0 vs ih=>
   intro o F j h hnd hP u0 hx e
   rw[qX]at h
   obtain⟨F1,F2,rfl,h1,h2⟩:=h
   have H7:=List.nodup_cons.1 hnd
   have NQ:=List.nodup_append.1 H7.2
   have O7:g ∉ F1:=fun c=>H7.1 (by simp[c])
   have TR:g ∉ F2:=fun c=>H7.1 (by simp[c])
   cases j with
   | zero=>
     simp at hx;subst hx
     simp only[List.take_zero,V.ns,Nat.add_zero]at e
     have Rm:(g::F1).Nodup:=List.nodup_cons.2 ⟨O7,NQ.1⟩
     obtain⟨Wn,hA,hN,hI⟩:=IH _ _ _ _ _ _ _ _ _ _ h1 Rm (fun x hx=>hP x (by simp at hx ⊢;rcases hx with h | h <;> simp[h])) e hr hn La (fun x hx c=>u0 x hx (by simp at c ⊢;rcases c with h | h <;> simp[h])) x6 k1
     have SU:=fR p h1 e
     have hA2:Q3 w' Pb vs g (o+v0.n) F2:=by
      refine Bq h2 k1 (fun x hx=>x6.KS x ?_) (fun x hx=>hP x (by simp[hx])) (fun cells hb=>?_)
      rintro rfl
      rcases SU with ⟨rfl,_⟩ | h
      exact TR hx
      exact NQ.2.2 _ h _ hx rfl
      rcases SU with ⟨rfl,M1,Ko⟩ | h
      obtain⟨n8,J0,_,Lc,_⟩:=x6.LI cells hb
      exact⟨n8,J0,fun j TO _=>Lc j (.inr (by omega))⟩
      have hne:g≠g':=fun c=>O7 (by rw[c];exact h)
      obtain⟨e',fr,hb,hf⟩:=hb
      exact⟨cells,⟨e',fr,(x6.KS g hne).trans hb,hf⟩,fun _ _ _=>rfl⟩
     refine⟨Wn++F2,?_,?_,?_⟩
     simp only[List.set_cons_zero]
     rw[qX]
     refine⟨Wn,F2,rfl,hA,?_⟩
     rw[lr p e hn];exact hA2
     have Nq:=List.nodup_cons.1 hN
     refine List.nodup_cons.2 ⟨fun c=>?_,List.nodup_append.2 ⟨Nq.2,NQ.2.1,fun x hx y hy c=>?_⟩⟩
     rcases List.mem_append.1 c with c | c
     exact Nq.1 c
     exact TR c
     subst c
     rcases hI x hx with h | h
     exact NQ.2.2 _ h _ hy rfl
     exact u0 x h (by simp[hy])
     intro y hy
     rcases List.mem_append.1 hy with h | h
     rcases hI y h with h | h
     left;simp[h]
     right;exact h
     left;simp[h]
   | succ j=>
     simp only[List.take_succ_cons,V.ns,<- Nat.add_assoc]at e
     have Lf:vs[j]? =some x:=by simpa using hx
     obtain⟨Wm,hA,hN,hI⟩:=ih (o+v0.n) F2 j h2 (List.nodup_cons.2 ⟨TR,NQ.2.1⟩) (fun x hx=>hP x (by simp at hx ⊢;rcases hx with h | h <;> simp[h])) (fun x hx c=>u0 x hx (by simp at c ⊢;rcases c with h | h <;> simp[h])) Lf e
     have SU:(g'=g/\o+v0.n<=o')\/g'∈F2:=by
      obtain⟨cs,cells,hb,Ko,OM⟩:=h2
      obtain⟨c,F',D6,hF,I5⟩:=fp vs Ko Lf
      rcases fR p (v:=x) ⟨c,cells,hb,D6,fun i u hu=>by rw[Nat.add_assoc];exact OM _ _ (I5 i u hu)⟩ e with ⟨h1,h2,h3⟩ | h1
      exact .inl ⟨h1,by omega⟩
      exact .inr (hF _ h1)
     have hA1:At w' Pb v0 g o F1:=by
      refine oL h1 k1 (fun x hx=>x6.KS x ?_) (fun x hx=>hP x (by simp[hx])) (fun cells hb=>?_)
      rintro rfl
      rcases SU with ⟨rfl,_⟩ | h
      exact O7 hx
      exact NQ.2.2 _ hx _ h rfl
      rcases SU with ⟨rfl,M1⟩ | h
      obtain⟨n8,J0,_,Lc,_⟩:=x6.LI cells hb
      exact⟨n8,J0,fun j _ hj=>Lc j (.inl (by omega))⟩
      have hne:g≠g':=fun c=>TR (by rw[c];exact h)
      obtain⟨e',fr,hb,hf⟩:=hb
      exact⟨cells,⟨e',fr,(x6.KS g hne).trans hb,hf⟩,fun _ _ _=>rfl⟩
     refine⟨F1++Wm,?_,?_,?_⟩
     simp only[List.set_cons_succ]
     rw[qX]
     exact⟨F1,Wm,rfl,hA1,hA⟩
     have Nq:=List.nodup_cons.1 hN
     refine List.nodup_cons.2 ⟨fun c=>?_,List.nodup_append.2 ⟨NQ.1,Nq.2,fun x hx y hy c=>?_⟩⟩
     rcases List.mem_append.1 c with c | c
     exact O7 c
     exact Nq.1 c
     subst c
     rcases hI x hy with h | h
     exact NQ.2.2 _ hx _ h rfl
     exact u0 x h (by simp[hx])
     intro y hy
     rcases List.mem_append.1 hy with h | h
     left;simp[h]
     rcases hI y h with h | h
     left;simp[h]
     right;exact h
theorem wq{w w':World}{Pb:Nat->Prop}:∀ p,SS w w' Pb p
 | []=>fun v u u' g o g' o' F KH OU h hnd hP e hr hn La u0 x6 k1=>by
   simp only[V.at,Option.some.injEq,Prod.mk.injEq]at e
   obtain⟨rfl,rfl,rfl⟩:=e
   obtain⟨cs,cells,hb,_,_⟩:=h
   obtain⟨n8,J0,_,_,I5⟩:=x6.LI cells hb
   exact⟨KH,⟨OU,n8,J0,hr,I5⟩,List.nodup_cons.2 ⟨fun hg=>u0 g hg (by simp),La⟩,fun x hx=>.inr hx⟩
 | j::p=>fun v u u' g o g' o' F KH OU h hnd hP e hr hn La u0 x6 k1=>by
   have IH:SS w w' Pb p:=wq p
   simp only[V.at]at e
   simp only[V.set]
   split at e
   rename_i vs
   split at e
   rename_i x hx
   (try simp only[hx])
   rw[xo]at h
   obtain⟨F1,h1,h2,h3⟩:=ug IH hr hn La x6 k1 vs o F j h hnd hP u0 hx e
   exact⟨F1,xo.2 h1,h2,h3⟩
   simp at e
   rename_i sz xs g1 o1 c1
   split at e
   rename_i x hx
   (try simp only[hx])
   obtain⟨cs,cells,hb,Rf,hc⟩:=h
   rcases Rf with ⟨_,rfl,_⟩ | ⟨MR,e9,S4,hcs,ha,O7,flat,F',H9,rfl,LC,j7,hsz,K1⟩
   simp at hx
   have H7:=List.nodup_cons.1 hnd
   have hj:j<=xs.length:=by have:=(List.getElem?_eq_some_iff.1 hx).1;omega
   have e':V.at g1 (o1+V.ns (xs.take j)) x p=some (g',o',u):=by rw[du xs j ha hj];exact e
   obtain⟨F1,⟨Kp,KG,M7,Re,Rv⟩,hN,hI⟩:=ug IH hr hn La x6 k1 xs o1 F' j ⟨flat,H9,j7,LC,K1⟩ H7.2 (fun x hx=>hP x (by simp at hx ⊢;rcases hx with h | h <;> simp[h])) (fun x hx c=>u0 x hx (by simp at c ⊢;rcases c with h | h <;> simp[h])) hx e'
   have MB:g'=g1\/g'∈F':=by
    obtain⟨c,F2,D6,hF,I5⟩:=fp xs LC hx
    rcases fR p (v:=x) ⟨c,H9,j7,D6,fun i u hu=>by rw[Nat.add_assoc];exact K1 _ _ (I5 i u hu)⟩ e' with ⟨h1,_⟩ | h1
    exact .inl h1
    exact .inr (hF _ h1)
   have hne:g≠g':=by
    rintro rfl
    rcases MB with h | h
    exact H7.1 (by simp[h])
    exact H7.1 (by simp[h])
   obtain⟨e1,fr,hbg,hfr⟩:=hb
   have Ot:KG.size=H9.size:=by
    by_cases OD:g1=g'
    subst OD
    obtain⟨c2,⟨e2,f2,j9,_⟩,J3,_⟩:=x6.LI H9 j7
    obtain⟨e3,f3,l8,_⟩:=M7
    rw[j9]at l8
    simp only[Option.some.injEq,Obj.cells.injEq]at l8
    obtain⟨rfl,_,_⟩:=l8
    exact J3
    obtain⟨e2,f2,j9,_⟩:=j7
    obtain⟨e3,f3,l8,_⟩:=M7
    rw[x6.KS g1 OD,j9]at l8
    simp only[Option.some.injEq,Obj.cells.injEq]at l8
    rw[l8.1]
   refine⟨g1::F1,⟨cs,cells,⟨e1,fr,(x6.KS g hne).trans hbg,hfr⟩,.inr ⟨MR,e9,by simpa using S4,by simpa using hcs,?_,O7,Kp,F1,KG,rfl,Re,M7,by omega,Rv⟩,hc⟩,?_,?_⟩
   intro y hy
   rcases List.mem_or_eq_of_mem_set hy with h | h
   exact ha y h
   rw[h,lr p e' hn];exact ha x (List.mem_of_getElem? hx)
   refine List.nodup_cons.2 ⟨fun c=>?_,hN⟩
   rcases List.mem_cons.1 c with h | h
   exact H7.1 (by simp[h])
   rcases hI g h with h | h
   exact H7.1 (by simp[h])
   exact u0 g h (by simp)
   intro y hy
   rcases List.mem_cons.1 hy with h | h
   left;simp[h]
   rcases hI y h with h | h
   left;simp[h]
   right;exact h
   simp at e
   simp at e
end
end Go.Abs
namespace Go.Abs
open Go Go.RowKit
section
variable {w w':World} {Pb Kb:Nat->Prop} {N:Nat} {A A':AS} {a:Act} {F:l9->List Nat} {P:Program}
mutual
theorem jn:∀ (v:V) {cs F},R w Pb v cs F->∀ c,c∈cs->c.oneCell'=true
 | .lit x,_,_,h=>by obtain⟨h1,rfl,_⟩:=h;simpa using h1
 | .agg vs,_,_,h=>by simp only[R]at h;exact pD vs h
 | .tup _,_,_,h=>by simp[R]at h
 | .gv _ _,_,_,h=>by simp[R]at h
 | .sl ..,_,_,h=>by obtain⟨_,A,c,rfl,_⟩:=h;simp[Value.oneCell']
 | .own ..,_,_,h=>by rcases h with ⟨_,_,_,A,rfl⟩ | ⟨_,_,_,rfl,_⟩ <;> simp[Value.oneCell']
 | .hd ..,_,_,h=>by obtain⟨_,_,A,rfl,_⟩:=h;simp[Value.oneCell']
 | .ow ..,_,_,h=>by obtain⟨g,o,c,h⟩:=h;rcases h with ⟨_,_,_,A,rfl⟩ | ⟨_,_,_,rfl,_⟩ <;> simp[Value.oneCell']
 | .om ..,_,_,h=>by obtain⟨_,rfl,_⟩:=h;simp[Value.oneCell']
 | .mp ..,_,_,h=>by obtain⟨_,g,rfl,_⟩:=h;simp[Value.oneCell']
 | .ptr ..,_,_,h=>by obtain⟨_,rfl⟩:=h;simp[Value.oneCell']
 | .ep _,_,_,h=>by obtain⟨_,b,o,flat,rfl,_⟩:=h;simp[Value.oneCell']
 | .b9,_,_,h=>by obtain⟨_,x,rfl,hx⟩:=h;simpa using hx
theorem pD:∀ (vs:List V) {cs F},RL w Pb vs cs F->∀ c,c∈cs->c.oneCell'=true
 | [],_,_,h=>by rw[h.1];simp
 | v::vs,_,_,h=>by
   obtain⟨c1,c2,F1,F2,rfl,_,h1,h2⟩:=h
   intro c hc
   rcases List.mem_append.1 hc with h | h
   exact jn v h1 c h
   exact pD vs h2 c h
end
def V.isVal:V->Bool | .tup _=>false | .gv _ _=>false | .b9=>false | _=>true
theorem fh{x:Value}(h:x.oneCell'=true):x.cells= #[x]:=by cases x <;> simp[Value.oneCell']at h <;> rfl
theorem xh{v:V}{x:Value}{Fv:List Nat}(h:RV w Pb v x Fv)(hv:v.isVal=true):R w Pb v x.cells.toList Fv:=by
 cases v with
 | tup _=>simp[V.isVal]at hv
 | gv _ _=>simp[V.isVal]at hv
 | b9=>simp[V.isVal]at hv
 | agg us=>obtain⟨cs,rfl,h⟩:=h;simp only[R,Value.cells];exact h
 | own sz xs g o c=>have h:R w Pb (.own sz xs g o c) [x] Fv:=h;rw[fh (jn _ h x (by simp))];exact h
 | ow sz xs=>have h:R w Pb (.ow sz xs) [x] Fv:=h;rw[fh (jn _ h x (by simp))];exact h
 | om es g=>have h:R w Pb (.om es g) [x] Fv:=h;rw[fh (jn _ h x (by simp))];exact h
 | mp es=>have h:R w Pb (.mp es) [x] Fv:=h;rw[fh (jn _ h x (by simp))];exact h
 | lit y=>have h:R w Pb (.lit y) [x] Fv:=h;rw[fh (jn _ h x (by simp))];exact h
 | sl f xs=>have h:R w Pb (.sl f xs) [x] Fv:=h;rw[fh (jn _ h x (by simp))];exact h
 | hd r p sz g o lo n c=>have h:R w Pb (.hd r p sz g o lo n c) [x] Fv:=h;rw[fh (jn _ h x (by simp))];exact h
 | ptr r p g o=>have h:R w Pb (.ptr r p g o) [x] Fv:=h;rw[fh (jn _ h x (by simp))];exact h
 | ep v=>have h:R w Pb (.ep v) [x] Fv:=h;rw[fh (jn _ h x (by simp))];exact h
theorem z6.nil(w:World)(g o:Nat):z6 w w g o []:=
 ⟨rfl,rfl,rfl,rfl,fun _ _=>rfl,Shp.refl _,fun cells hb=>⟨cells,hb,rfl,fun _ _=>rfl,fun j u hu=>by simp at hu⟩⟩
theorem z6.cons{w1 w2:World}{g o:Nat}{v:Value}{vs:List Value}(h1:z6 w w1 g o [v])(h2:z6 w1 w2 g (o+1) vs):z6 w w2 g o (v::vs):=by
 refine⟨h2.os.trans h1.os,h2.tape.trans h1.tape,h2.output.trans h1.output,h2.size.trans h1.size,fun k hk=>(h2.KS k hk).trans (h1.KS k hk),h1.shape.trans h2.shape,fun cells hb=>?_⟩
 obtain⟨c1,j7,K0,S',Ro⟩:=h1.LI cells hb
 obtain⟨c2,j9,J3,MD,Rn⟩:=h2.LI c1 j7
 refine⟨c2,j9,J3.trans K0,fun j hj=>?_,fun j u hu=>?_⟩
 simp only[List.length_cons]at hj
 rw[MD j (by omega),S' j (by simp;omega)]
 cases j with
 | zero=>
   simp at hu;subst hu
   rw[MD _ (by omega)];exact Ro 0 v rfl
 | succ j=>
   have:=Rn j u (by simpa using hu)
   rw[<- this];congr 1;omega
theorem fN{g o:Nat}:∀ (vs:List Value) (i:Nat) (w:World) (cells:Array Value),Blk w g cells->o+i+vs.length<=cells.size->(∀ v,v∈vs->v.oneCell'=true)->
 ∃ w',(storeCells ⟨g,o,none⟩ vs i).run P w=.ok () w'/\z6 w w' g (o+i) vs
 | [],i,w,cells,_,_,_=>⟨w,rfl,z6.nil w g _⟩
 | v::vs,i,w,cells,hb,hl,h1=>by
   obtain⟨e,fr,O',hfr⟩:=hb
   simp only[List.length_cons]at hl
   have hlt:o+i<cells.size:=by omega
   have hc:w.cell? ⟨g,o+i,none⟩=some cells[o+i]:=by simp[World.cell?,O',hlt]
   have hf:w.frozen? ⟨g,o+i,none⟩=false:=by
    have:=hfr (o+i) (by omega)
    simp only[World.frozen?,O',Bool.and_eq_false_iff,decide_eq_false_iff_not]
    by_cases h:fr.1<=o+i
    right;exact fun c=>this ⟨h,c⟩
    left;exact h
   have x6:z6 w (w.setCell ⟨g,o+i,none⟩ v) g (o+i) [v]:=by
    refine⟨rfl,rfl,rfl,by simp[World.setCell],fun k hk=>Below.heap_setCell _ _ _ _ hk,fun k c e2 fr2 hk=>?_,fun n8 J0=>?_⟩
    by_cases V2:k=g
    subst V2
    exact⟨c.setIfInBounds (o+i) v,by simp[World.setCell,Array.getElem?_modify,hk],by simp⟩
    exact⟨c,(Below.heap_setCell _ _ _ _ V2).trans hk,rfl⟩
    obtain⟨e',T3,J0,U4⟩:=J0
    refine⟨n8.setIfInBounds (o+i) v,⟨e',T3,?_,by simpa using U4⟩,by simp,fun j hj=>?_,fun j u hu=>?_⟩
    simp[World.setCell,Array.getElem?_modify,J0]
    rw[Array.getElem?_setIfInBounds_ne];simp at hj;omega
    cases j with
    | zero=>
      simp at hu;subst hu
      rw[O']at J0
      simp only[Option.some.injEq,Obj.cells.injEq]at J0
      obtain⟨rfl,_,_⟩:=J0
      simp[hlt]
    | succ j=>simp at hu
   have j7:Blk (w.setCell ⟨g,o+i,none⟩ v) g (cells.setIfInBounds (o+i) v):=
    ⟨e,fr,by simp[World.setCell,Array.getElem?_modify,O'],by simpa using hfr⟩
   obtain⟨w',hr,J8⟩:=fN (g:=g) (o:=o) vs (i+1) _ _ j7 (by rw[Array.size_setIfInBounds];omega) (fun u hu=>h1 u (by simp[hu]))
   refine⟨w',?_,x6.cons (by rw[Nat.add_assoc];exact J8)⟩
   simp only[storeCells,Sem.run_bind,dr,run_store P w _ v .plain (h1 v (by simp)),hc,hf,Bool.false_eq_true,if_false,Result.andThen_ok]
   exact hr
theorem FN{p:List Nat} {x u u':V} {sz j g1 o1 c1 g' o':Nat} {xs:List V} {cs OU:List Value} {F1 KH:List Nat} (Rf:R w Pb (.own sz xs g1 o1 c1) cs F1) (hnd:F1.Nodup) (hP:∀ x,x∈F1->¬ Pb x)
 (hx:xs[j]? =some x) (e:V.at g1 (o1+j*sz) x p=some (g',o',u)) (hr:R w' Pb u' OU KH) (hn:u'.n=u.n) (La:KH.Nodup) (u0:∀ x,x∈KH->x ∉ F1) (x6:z6 w w' g' o' OU)
 (k1:∀ x,Pb x->w'.heap[x]? =w.heap[x]?):∃ F2,R w' Pb (.own sz (xs.set j (x.set p u')) g1 o1 c1) cs F2/\F2.Nodup/\(∀ y,y∈F2->y∈F1\/y∈KH)/\g'∈F1:=by
 rcases Rf with ⟨_,rfl,_⟩ | ⟨MR,e9,S4,hcs,ha,O7,flat,F',H9,rfl,LC,j7,hsz,K1⟩
 simp at hx
 have hj:j<=xs.length:=by have:=(List.getElem?_eq_some_iff.1 hx).1;omega
 have e':V.at g1 (o1+V.ns (xs.take j)) x p=some (g',o',u):=by rw[du xs j ha hj];exact e
 obtain⟨F2,⟨Kp,KG,M7,Re,Rv⟩,hN,hI⟩:=ug (wq p) hr hn La x6 k1 xs o1 F' j ⟨flat,H9,j7,LC,K1⟩ hnd hP u0 hx e'
 have MB:g'=g1\/g'∈F':=by
  obtain⟨c,F2,D6,hF,I5⟩:=fp xs LC hx
  rcases fR p (v:=x) ⟨c,H9,j7,D6,fun i u hu=>by rw[Nat.add_assoc];exact K1 _ _ (I5 i u hu)⟩ e' with ⟨h1,_⟩ | h1
  exact .inl h1
  exact .inr (hF _ h1)
 have Ot:KG.size=H9.size:=by
  by_cases OD:g1=g'
  subst OD
  obtain⟨c2,⟨e2,f2,j9,_⟩,J3,_⟩:=x6.LI H9 j7
  obtain⟨e3,f3,l8,_⟩:=M7
  rw[j9]at l8
  simp only[Option.some.injEq,Obj.cells.injEq]at l8
  obtain⟨rfl,_,_⟩:=l8
  exact J3
  obtain⟨e2,f2,j9,_⟩:=j7
  obtain⟨e3,f3,l8,_⟩:=M7
  rw[x6.KS g1 OD,j9]at l8
  simp only[Option.some.injEq,Obj.cells.injEq]at l8
  rw[l8.1]
 refine⟨g1::F2,.inr ⟨MR,e9,by simpa using S4,by simpa using hcs,?_,O7,Kp,F2,KG,rfl,Re,M7,by omega,Rv⟩,hN,?_,?_⟩
 intro y hy
 rcases List.mem_or_eq_of_mem_set hy with h | h
 exact ha y h
 rw[h,lr p e' hn];exact ha x (List.mem_of_getElem? hx)
 intro y hy
 rcases List.mem_cons.1 hy with h | h
 left;simp[h]
 rcases hI y h with h | h
 left;simp[h]
 right;exact h
 rcases MB with h | h <;> simp[h]
def AS.setAt(A:AS)(r:l9)(p:List Nat)(v:V):AS:=
 match r with
 | .key k=>match lk k A.h with
   | some (g,t)=>{ A with h:=(k,(g,t.set p v))::A.h }
   | none=>A
 | .slot i=>{ A with t:=(i,(A.get i).set p v)::A.t }
theorem s4.store(hs:s4 N Pb Kb A a w F) {r:l9} {p:List Nat} {g o:Nat} {Pm v:V} {cs:List Value} {Fv:List Nat} (x5:A.at r p=some (g,o,Pm)) (hr:R w Pb v cs Fv) (hn:v.n=Pm.n)
 (hnd:Fv.Nodup) (u0:∀ r g,g∈Fv->g ∉ F r) (hfr:∀ g,g∈Fv->¬ Kb g/\g<w.heap.size) (x6:z6 w w' g o cs):∃ F',s4 N Pb Kb (A.setAt r p v) a w' F'/\¬ Kb g:=by
 have RZ:∀ r g,g∈F r->¬ Pb g:=fun r g hg c=>(hs.free r g hg).1 (hs.sub g c)
 have main:∃ Fr,g∈F r/\(∀ x,Pb x->w'.heap[x]? =w.heap[x]?)/\Fr.Nodup/\(∀ y,y∈Fr->y∈F r\/y∈Fv)/\
  (match r with
   | .key k=> ∀ g0 t,lk k A.h=some (g0,t)->∃ F',Fr=g0::F'/\At w' Pb (t.set p v) g0 0 F'
   | .slot i=>RV w' Pb ((A.get i).set p v) (a.tmps.getD i undef) Fr):=by
  have kk:∀ r,g∈F r->∀ x,Pb x->w'.heap[x]? =w.heap[x]? :=fun r hg x hx=>x6.KS x (by rintro rfl;exact RZ r _ hg hx)
  have D6:∀ r,g∈F r->R w' Pb v cs Fv:=fun r hg=>fm v hr (kk r hg) (fun x hx=>x6.KS x (by rintro rfl;exact u0 r _ hx hg)) (fun _ h=>h) (fun x hx c=>(hfr x hx).1 (hs.sub x c))
  cases r with
  | key k=>
    simp only[AS.at]at x5
    split at x5
    case h_2=>simp at x5
    rename_i g0 t hk
    obtain⟨F',e,hA⟩:=hs.root k g0 t hk
    have Np:g∈F (.key k):=by
     rw[e]
     rcases fR p hA x5 with ⟨rfl,_⟩ | h
     simp
     simp[h]
    have S2:=hs.nodup (.key k)
    rw[e]at S2
    obtain⟨F1,h1,h2,h3⟩:=wq (w:=w) (w':=w') p _ _ _ _ _ _ _ _ _ _ hA S2 (fun x hx=>RZ (.key k) x (by rw[e];exact hx)) x5 (D6 _ Np) hn hnd (fun x hx c=>u0 (.key k) x hx (by rw[e];exact c)) x6 (kk _ Np)
    refine⟨g0::F1,Np,kk _ Np,h2,fun y hy=>?_,fun g0' t' L4=>?_⟩
    rw[e]
    rcases List.mem_cons.1 hy with h | h
    left;simp[h]
    rcases h3 y h with h | h
    left;simp[h]
    exact .inr h
    rw[hk]at L4
    simp only[Option.some.injEq,Prod.mk.injEq]at L4
    obtain⟨rfl,rfl⟩:=L4
    exact⟨F1,rfl,h1⟩
  | slot i=>
    simp only[AS.at]at x5
    split at x5
    case h_2=>simp at x5
    rename_i sz xs g1 o1 c1 j p hi
    have hrv:=hs.slot i
    rw[hi]at hrv
    simp only[V.at]at x5
    split at x5
    case h_2=>simp at x5
    rename_i x hx
    have Np:g∈F (.slot i):=by
     rcases hrv with ⟨_,rfl,_⟩ | ⟨_,_,_,_,ha,_,flat,F',n8,hF,LC,J0,_,I5⟩
     simp at hx
     obtain⟨c,KH,D6,LD,Lv⟩:=fp xs LC hx
     have hj:j<=xs.length:=by have:=(List.getElem?_eq_some_iff.1 hx).1;omega
     rw[du xs j ha hj]at Lv
     rw[hF]
     rcases fR p (v:=x) ⟨c,n8,J0,D6,fun i u hu=>by rw[Nat.add_assoc];exact I5 _ _ (Lv i u hu)⟩ x5 with ⟨rfl,_⟩ | h
     simp
     simp[LD _ h]
    obtain⟨F2,h1,h2,h3,_⟩:=FN (w:=w) (w':=w') hrv (hs.nodup _) (RZ _) hx x5 (D6 _ Np) hn hnd (u0 _) x6 (kk _ Np)
    refine⟨F2,Np,kk _ Np,h2,h3,?_⟩
    simp only[hi,V.set,hx]
    exact h1
 obtain⟨Fr,Np,kk,NB,Rs,hm⟩:=main
 have OE:∀ y,y∈Fr->¬ Kb y/\y<w.heap.size:=fun y hy=>by
  rcases Rs y hy with h | h
  exact hs.free r y h
  exact hfr y h
 have Lc:∀ r' x,r'≠r->x∈F r'->w'.heap[x]? =w.heap[x]? :=fun r' x hne hx=>x6.KS x (by rintro rfl;exact hs.bM r' r hne _ hx Np)
 refine⟨bL F r Fr,⟨?_,?_,fun i=>?_,fun k g0 t hk=>?_,fun r1 r2 hne y hy=>?_,fun r1=>?_,fun r1 y hy=>?_,hs.sub,fun y hy=>by rw[x6.size];exact hs.bound y hy⟩,(hs.free r g Np).1⟩
 exact hs.size
 exact hs.defers
 by_cases Ps:r=.slot i
 subst Ps
 simp only[bL,if_true,AS.setAt,AS.get,lk,Option.getD_some]
 exact hm
 simp only[bL,if_neg (Ne.symm Ps)]
 have:(A.setAt r p v).get i=A.get i:=by
  cases r with
  | key k=>simp only[AS.setAt];split <;> rfl
  | slot j=>simp only[AS.setAt,AS.get,lk];rw[if_neg (fun c=>Ps (by rw[c]))]
 rw[this]
 exact lq _ (hs.slot i) kk (fun x hx=>Lc _ x (Ne.symm Ps) hx) (fun _ h=>h) (fun x hx=>RZ _ x hx)
 by_cases O6:r=.key k
 subst O6
 simp only[AS.setAt]at hk
 have No:∃ g1 t1,lk k A.h=some (g1,t1):=by
  simp only[AS.at]at x5
  split at x5
  rename_i g1 t1 h;exact⟨g1,t1,h⟩
  simp at x5
 obtain⟨g1,t1,No⟩:=No
 rw[No]at hk
 simp only[lk,if_true,Option.some.injEq,Prod.mk.injEq]at hk
 obtain⟨rfl,rfl⟩:=hk
 obtain⟨F',e,hA⟩:=hm _ _ No
 exact⟨F',by simp[bL,e],hA⟩
 have L4:lk k A.h=some (g0,t):=by
  cases r with
  | slot j=>exact hk
  | key k'=>
    simp only[AS.setAt]at hk
    split at hk
    simp only[lk]at hk;rwa [if_neg (fun c=>O6 (by rw[c]))]at hk
    exact hk
 obtain⟨F',e,hA⟩:=hs.root k g0 t L4
 refine⟨F',by simp only[bL,if_neg (Ne.symm O6)];exact e,oL hA kk (fun x hx=>Lc (.key k) x (Ne.symm O6) (by rw[e];simp[hx])) (fun x hx=>RZ (.key k) x (by rw[e];simp[hx])) (fun cells hb=>?_)⟩
 obtain⟨e',fr,hb,hf⟩:=hb
 exact⟨cells,⟨e',fr,(Lc (.key k) g0 (Ne.symm O6) (by rw[e];simp)).trans hb,hf⟩,fun _ _ _=>rfl⟩
 simp only[bL]at hy ⊢
 split at hy
 rename_i h1
 rw[if_neg (fun c=>hne (h1.trans c.symm))]
 subst h1
 rcases Rs y hy with h | h
 exact hs.bM _ _ hne y h
 exact u0 r2 y h
 rename_i h1
 split
 rename_i h2
 subst h2
 intro c
 rcases Rs y c with h | h
 exact hs.bM _ _ hne y hy h
 exact u0 r1 y h hy
 exact hs.bM r1 r2 hne y hy
 simp only[bL];split
 exact NB
 exact hs.nodup r1
 simp only[bL]at hy
 rw[x6.size]
 split at hy
 exact OE y hy
 exact hs.free r1 y hy
end
end Go.Abs
namespace Go.Abs
open Go Go.RowKit
mutual
def V.flat:V->Option (List Value)
 | .lit x=>if x.oneCell' then some [x] else none
 | .sl true []=>some [.slice none 0 0]
 | .agg vs=>V.tB vs
 | _=>none
def V.tB:List V->Option (List Value)
 | []=>some []
 | v::vs=>match v.flat,V.tB vs with
   | some a,some b=>some (a++b)
   | _,_=>none
end
def lH(P:Program)(T:Nat)(v:V):Prop:= ∃ inf z,P.info? T=some inf/\inf.zero=some z/\v.flat=some z.cells.toList
section
variable {w w':World} {Pb Kb:Nat->Prop} {N:Nat} {A A':AS} {a:Act} {F:l9->List Nat} {P:Program}
mutual
theorem pG:∀ (v:V) {cs},v.flat=some cs->R w Pb v cs []
 | .lit x,cs,h=>by
   simp only[V.flat]at h
   split at h
   rename_i hx;simp at h;subst h;exact⟨hx,rfl,rfl⟩
   simp at h
 | .sl true [],cs,h=>by simp[V.flat]at h;subst h;exact⟨rfl,none,0,rfl,Nat.le_refl _,fun _=>rfl,.inl rfl⟩
 | .sl true (x::xs),cs,h=>by simp[V.flat]at h
 | .sl false xs,cs,h=>by simp[V.flat]at h
 | .agg vs,cs,h=>by simp only[V.flat]at h;simp only[R];exact yv vs h
 | .tup _,_,h=>by simp[V.flat]at h
 | .gv _ _,_,h=>by simp[V.flat]at h
 | .own ..,_,h=>by simp[V.flat]at h
 | .hd ..,_,h=>by simp[V.flat]at h
 | .ow ..,_,h=>by simp[V.flat]at h
 | .om ..,_,h=>by simp[V.flat]at h
 | .mp ..,_,h=>by simp[V.flat]at h
 | .ptr ..,_,h=>by simp[V.flat]at h
 | .ep _,_,h=>by simp[V.flat]at h
 | .b9,_,h=>by simp[V.flat]at h
theorem yv:∀ (vs:List V) {cs},V.tB vs=some cs->RL w Pb vs cs []
 | [],cs,h=>by simp[V.tB]at h;subst h;exact⟨rfl,rfl⟩
 | v::vs,cs,h=>by
   simp only[V.tB]at h
   split at h
   rename_i a b h1 h2
   simp at h;subst h
   exact⟨a,b,[],[],rfl,rfl,pG v h1,yv vs h2⟩
   simp at h
end
theorem alloc_old(w:World)(o:Obj)(k:Nat)(h:k<w.heap.size):(w.alloc o).heap[k]? =w.heap[k]? :=Below.heap_alloc w o k h
theorem cY(w:World)(o:Obj):(w.alloc o).heap.size=w.heap.size+1:=by simp
theorem fv(w:World)(o:Obj):(w.alloc o).heap[w.heap.size]? =some o:=heap_alloc_new w o
theorem s4.mf(hs:s4 N Pb Kb A a w F)(o:Obj):s4 N Pb Kb A a (w.alloc o) F:=
 hs.grow (fun k hk=>alloc_old w o k hk) (by rw[cY];omega) (fun _ h=>h) (fun g hg=>.inl hg) hs.sub
theorem s4.Jm(hs:s4 N Pb Kb A a w F)(o:Obj):s4 N (fun g=>Pb g\/g=w.heap.size) (fun g=>Kb g\/g=w.heap.size) A a (w.alloc o) F:=
 hs.grow (fun k hk=>alloc_old w o k hk) (by rw[cY];omega) (fun _ h=>.inl h) (fun g hg=>hg.imp id fun h=>by rw[cY];omega) (fun g hg=>hg.imp (hs.sub g) id)
theorem s4.zk(hs:s4 N Pb Kb A a w F){k g:Nat}{v:V}{Fv:List Nat}(hA:At w Pb v g 0 Fv)(hnd:(g::Fv).Nodup)(u0:∀ r x,x∈g::Fv->x ∉ F r)(hfr:∀ x,x∈g::Fv->¬ Kb x/\x<w.heap.size):
 s4 N Pb Kb { A with h:=(k,(g,v))::A.h } a w (bL F (.key k) (g::Fv)) where
 size:=hs.size
 defers:=hs.defers
 slot:=fun i=>by simp only[bL,reduceCtorEq,if_false];exact hs.slot i
 root:=fun k' g' v' hk=>by
  simp only[lk]at hk
  by_cases e:k'=k
  subst e
  simp only[if_true,Option.some.injEq,Prod.mk.injEq]at hk
  obtain⟨rfl,rfl⟩:=hk
  exact⟨Fv,by simp[bL],hA⟩
  rw[if_neg e]at hk
  obtain⟨F',e',Tj⟩:=hs.root k' g' v' hk
  exact⟨F',by simp only[bL];rw[if_neg (fun c=>e (by injection c))];exact e',Tj⟩
 bM:=fun r r' hne x hx=>by
  simp only[bL]at hx ⊢
  split at hx
  rename_i h1;rw[if_neg (fun c=>hne (h1.trans c.symm))];exact u0 r' x hx
  split
  exact fun c=>u0 r x c hx
  exact hs.bM r r' hne x hx
 nodup:=fun r=>by
  simp only[bL];split
  exact hnd
  exact hs.nodup r
 free:=fun r x hx=>by
  simp only[bL]at hx
  split at hx
  exact hfr x hx
  exact hs.free r x hx
 sub:=hs.sub
 bound:=hs.bound
theorem w8.alloc(hK:∀ g,Kb g->g<w.heap.size)(o:Obj):w8 Kb w (w.alloc o):=
 ⟨rfl,rfl,rfl,by rw[cY];omega,fun g hg=>alloc_old w o g (hK g hg),Shp.of_eq fun g hg=>alloc_old w o g hg⟩
theorem s4.FR(hs:s4 N Pb Kb A a w F){d:Nat}(hd:d<N){v:V}{cs:Array Value}{e:TypeId}(hr:R w Pb v cs.toList []):
 ∃ F',s4 N Pb Kb ⟨(A.put (some d) (.ptr (.key d) [] w.heap.size 0)).t,(d,(w.heap.size,v))::A.h⟩ (a.put (some d) (.pointer (some ⟨w.heap.size,0,none⟩))) (w.alloc (.cells cs e)) F':=by
 have h1:=hs.mf (.cells cs e)
 have h2:=h1.put (d:=d) (v:=.ptr (.key d) [] w.heap.size 0) (x:=.pointer (some ⟨w.heap.size,0,none⟩)) (F':=[]) hd ⟨rfl,rfl⟩ (by simp) (by simp) (by simp)
 have hA:At (w.alloc (.cells cs e)) Pb v w.heap.size 0 []:=
  ⟨cs.toList,cs,⟨e,(0,0),fv w _,fun i _ h=>by omega⟩,fm v hr (fun g hg=>alloc_old w _ g (hs.bound g (hs.sub g hg))) (by simp) (fun _ h=>h) (by simp),fun j u hu=>by simpa using hu⟩
 refine⟨_,h2.zk (k:=d) hA (by simp) (fun r x hx c=>?_) (fun x hx=>?_)⟩
 simp at hx;subst hx
 simp only[bL]at c
 split at c
 simp at c
 have:=(hs.free r _ c).2;omega
 simp at hx;subst hx
 refine⟨fun c=>?_,by rw[cY];omega⟩
 have:=hs.bound _ c;omega
theorem qM{o:Oper} {K:AS->Prop} {d:Nat} {v:V} (hd:o.dst=some d) (hN:d<N)
 (x9:∀ Pb Kb a w F,s4 N Pb Kb A a w F->∃ cs e,(execOp a.eval o).run P w=.ok (.value (.pointer (some ⟨w.heap.size,0,none⟩))) (w.alloc (.cells cs e))/\R w Pb v cs.toList [])
 (hK:∀ g,K ⟨(A.put (some d) (.ptr (.key d) [] g 0)).t,(d,(g,v))::A.h⟩):D5 P N o A K:=by
 intro Pb Kb a w F Q hs
 obtain⟨cs,e,hx,hr⟩:=x9 Pb Kb a w F hs
 unfold Oper.wp
 rw[hx,Oper.upon_value,hd]
 obtain⟨F',x7⟩:=hs.FR hN (e:=e) hr
 exact⟨_,Pb,Kb,F',hK _,x7,fun _ h=>h,fun _ h=>h,fun _ h=>.inl h,w8.alloc hs.bound _⟩
theorem ij(e:TypeId)(cs:Array Value):(newRow e cs).run P w=.ok ⟨w.heap.size,0,none⟩ (w.alloc (.cells cs e)):=rfl
theorem pF{o:Oper} {K:AS->Prop} {d T:Nat} {v:V} (ho:o.op=.alloc T) (hd:o.dst=some d) (hN:d<N) (hz:lH P T v)
 (hK:∀ g,K ⟨(A.put (some d) (.ptr (.key d) [] g 0)).t,(d,(g,v))::A.h⟩):D5 P N o A K:=by
 refine qM hd hN (fun Pb Kb a w F hs=>?_) hK
 obtain⟨inf,z,h1,h2,h3⟩:=hz
 refine⟨z.cells,T,?_,pG v h3⟩
 simp[execOp,ho,Instr.alloc,zeroValue,typeInfo,h1,h2,newVar,ij]
theorem GR{o:Oper} {K:AS->Prop} {d T:Nat} {x:Operand} (ho:o.op=.box T x) (hd:o.dst=some d) (hN:d<N) (hv:(A.cp x).isVal=true)
 (hK:∀ g,K ⟨(A.put (some d) (.ptr (.key d) [] g 0)).t,(d,(g,A.cp x))::A.h⟩):D5 P N o A K:=by
 refine qM hd hN (fun Pb Kb a w F hs=>?_) hK
 exact⟨(a.eval x).cells,T,by simp[execOp,ho,Instr.box,newVar,ij],xh (nM hs x) hv⟩
theorem uL{o:Oper} {K:AS->Prop} {T:Nat} {x y:Operand} {r:l9} {p:List Nat} {g g':Nat} {i:TI} {Pm:V} (ho:o.op=.store T x y) (hd:o.dst=none) (hi:ti P T=some i)
 (hx:A.ev x=.ptr r p g g') (x5:(A.drop y).at r p=some (g,g',Pm)) (hv:(A.ev y).isVal=true) (hn:(A.ev y).n=Pm.n) (NC:(A.ev y).n=i.sz) (hK:K ((A.drop y).setAt r p (A.ev y))):D5 P N o A K:=by
 intro Pb Kb a w F Q hs
 obtain⟨Fx,F',hr,x7,hnd,u0,hfr,_⟩:=hs.take y
 obtain⟨_,Qp⟩:=df hs x
 rw[hx]at Qp
 have hp:a.eval x=.pointer (some ⟨g,g',none⟩):=by have:=Qp.2;simpa using this
 have hR:=xh hr hv
 obtain⟨_,Wi,cells,hb,Rf,MR⟩:=iu x7 x5
 have RU:=dK _ Rf
 have hl:=dK _ hR
 have hle:g'+(a.eval y).cells.toList.length<=cells.size\/(a.eval y).cells.toList=[]:=by
  by_cases hne:Wi=[]
  right;exact List.eq_nil_of_length_eq_zero (by rw[hl,hn,<- RU,hne];rfl)
  left;have:=vg MR hne;omega
 have x6:∃ w',(storeCells ⟨g,g',none⟩ (a.eval y).cells.toList 0).run P w=.ok () w'/\z6 w w' g g' (a.eval y).cells.toList:=by
  rcases hle with h | h
  obtain⟨w',h1,h2⟩:=fN (P:=P) (g:=g) (o:=g') (a.eval y).cells.toList 0 w cells hb (by omega) (jn _ hR)
  exact⟨w',h1,h2⟩
  rw[h];exact⟨w,rfl,z6.nil w g g'⟩
 obtain⟨w',x9,x6⟩:=x6
 have hx:(execOp a.eval o).run P w=.ok .skip w':=by
  have hsz:(a.eval y).cells.size=i.sz:=by rw[<- NC,<- hl];simp
  simp only[execOp,ho,Instr.storeAt,hp,Instr.sureAddr,Sem.run_bind,Sem.run_pure,Result.andThen_ok,storeVar,ct hi,hsz,ne_eq,not_true_eq_false,if_false,x9]
 unfold Oper.wp
 rw[hx,Oper.upon_skip,hd]
 obtain⟨F2,J3,hg⟩:=x7.store x5 hR hn hnd u0 hfr x6
 exact⟨_,Pb,Kb,F2,hK,J3,fun _ h=>h,fun _ h=>h,fun _ h=>.inl h,⟨x6.os,x6.tape,x6.output,by rw[x6.size];omega,fun k hk=>x6.KS k (fun c=>hg (c ▸ hk)),x6.shape⟩⟩
def dY(A:AS)(k:Nat):List (Nat×Operand)->Option (List V)
 | []=>some []
 | (i,x)::r=>if i=k then match dY A (k+1) r with | some vs=>some (A.cp x::vs) | none=>none else none
theorem lD(hs:s4 N Pb Kb A a w F){s:Nat}:∀ (b7:List (Nat×Operand)) (k:Nat) {vs:List V},dY A k b7=some vs->(∀ v,v∈vs->v.isVal=true/\v.n=s)->
 ∃ xs:List Value,(b7.map fun (i,x)=>(i,a.eval x))=(xs.zipIdx k).map (fun x=>(x.2,x.1))/\(∀ x,x∈xs->x.cells.size=s)/\RL w Pb vs (xs.flatMap fun v=>v.cells.toList) []/\xs.length=vs.length
 | [],k,vs,h,_=>by simp[dY]at h;subst h;exact⟨[],rfl,by simp,⟨rfl,rfl⟩,rfl⟩
 | (i,x)::r,k,vs,h,hv=>by
   simp only[dY]at h
   split at h
   case isFalse=>simp at h
   rename_i e
   subst e
   split at h
   case h_2=>simp at h
   rename_i Tq hr
   simp at h;subst h
   obtain⟨xs,h1,h2,h3,h4⟩:=lD hs r (i+1) hr (fun v Pr=>hv v (by simp[Pr]))
   have hR:=xh (nM hs x) (hv (A.cp x) (by simp)).1
   have hl:=dK _ hR
   refine⟨a.eval x::xs,by simp[h1],?_,⟨_,_,[],[],by simp,rfl,hR,h3⟩,by simp[h4]⟩
   intro y hy
   rcases List.mem_cons.1 hy with rfl | h
   rw[<- (hv (A.cp x) (by simp)).2,<- hl];simp
   exact h2 y h
theorem ui{o:Oper} {K:AS->Prop} {T e len:Nat} {b7:Array (Nat×Operand)} {i:TI} {vs:List V} (ho:o.op=.buildSlice T len b7) (hd:bX N o.dst) (hT:tD P T=some (.sl e)) (hi:ti P e=some i)
 (hz:∃ inf z,P.info? e=some inf/\inf.zero=some z) (On:dY A 0 b7.toList=some vs) (hlen:vs.length=len) (MX:len*i.sz<=16777216) (I':0<i.sz) (hv:∀ v,v∈vs->v.isVal=true/\v.n=i.sz)
 (hK:K (A.put o.dst (.sl true vs))):D5 P N o A K:=by
 intro Pb Kb a w F Q hs
 obtain⟨inf,z,Kj,hzero⟩:=hz
 obtain⟨xs,h1,h2,h3,h4⟩:=lD hs b7.toList 0 On hv
 have hu:=gG hT
 obtain⟨Po,_,G3,_,hsz,_,_⟩:=ib hi
 rw[Kj]at G3
 obtain rfl:=Option.some.inj G3
 by_cases h0:len=0
 have Uw:vs=[]:=List.eq_nil_of_length_eq_zero (by omega)
 subst Uw
 subst h0
 have UH:b7.toList=[]:=by
  cases OA:b7.toList with
  | nil=>rfl
  | cons p ps=>rw[OA]at h1;rw[List.eq_nil_of_length_eq_zero h4]at h1;simp at h1
 have hp:b7= #[]:=by rw[<- Array.toArray_toList (xs:=b7),UH]
 subst hp
 have hx:(execOp a.eval o).run P w=.ok (.value (.slice (some ⟨w.heap.size,0,none⟩) 0 0)) (w.alloc (.cells #[] e)):=by
  simp[execOp,ho,Instr.buildSlice,aC hu,ct hi,Instr.fill,ij]
  congr 2;apply Array.ext';simp
 unfold Oper.wp
 rw[hx,Oper.upon_value]
 obtain⟨F',x7⟩:=(hs.mf (.cells #[] e)).ou (d:=o.dst) (v:=.sl true []) (x:=.slice (some ⟨w.heap.size,0,none⟩) 0 0) hd ⟨rfl,_,0,rfl,Nat.le_refl _,fun _=>rfl,.inl rfl⟩
 exact⟨_,Pb,Kb,F',hK,x7,fun _ h=>h,fun _ h=>h,fun _ h=>.inl h,w8.alloc hs.bound _⟩
 have hfl:=Great.fill_whole I' xs ((Array.range (len*i.sz)).map (z.cells[· % z.cells.size]!)) h2 (by simp[h4,hlen])
 have hmul: ¬ len*inf.size=0:=by rw[hsz];exact Nat.mul_ne_zero h0 (by omega)
 have hb:=run_buildSlice (P:=P) w T e len (b7.map fun (i,x)=>(i,a.eval x)) _ inf z hu Kj hzero (by rw[hsz];omega) hmul (by rw[Array.toList_map,h1,hsz];exact hfl)
 have hx:(execOp a.eval o).run P w=.ok (.value (.slice (some ⟨w.heap.size,0,none⟩) len len)) (w.alloc (.cells (xs.flatMap fun v=>v.cells.toList).toArray e)):=by
  simp only[execOp,ho,Sem.run_bind,hb,Result.andThen_ok,Sem.run_pure]
 unfold Oper.wp
 rw[hx,Oper.upon_value]
 have K0:=hs.Jm (.cells (xs.flatMap fun v=>v.cells.toList).toArray e)
 have LC:=dB (w':=w.alloc (.cells (xs.flatMap fun v=>v.cells.toList).toArray e)) (Pb':=fun g=>Pb g\/g=w.heap.size) vs h3 (fun g hg=>alloc_old w _ g (hs.bound g (hs.sub g hg))) (by simp) (fun g hg=>.inl hg) (by simp)
 obtain⟨F',x7⟩:=K0.ou (d:=o.dst) (v:=.sl true vs) (x:=.slice (some ⟨w.heap.size,0,none⟩) len len) hd ⟨rfl,some ⟨w.heap.size,0,none⟩,len,by rw[hlen],by omega,fun _=>hlen.symm,
  .inr ⟨w.heap.size,0,i.sz,_,rfl,.inr rfl,I',fun v Pr=>(hv v Pr).2,LC,fun j u hu=>by
   rw[dy (cells:=(xs.flatMap fun v=>v.cells.toList).toArray) ⟨e,(0,0),fv w _,fun i _ h=>by omega⟩];simpa using hu⟩⟩
 exact⟨_,_,_,F',hK,x7,fun _ h=>.inl h,fun _ h=>.inl h,fun g hg=>by
  rcases hg with h | h
  exact .inl h
  right;intro c;have:=hs.bound g c;omega,w8.alloc hs.bound _⟩
end
end Go.Abs
namespace Go.Abs
open Go Go.RowKit
section
variable {w w':World} {Pb Kb:Nat->Prop} {N:Nat} {A A':AS} {a:Act} {F:l9->List Nat} {P:Program}
def lu(P:Program):List (Nat×Nat)->Option (List (Nat×Nat))
 | []=>some []
 | (off,T)::r=>match ti P T,lu P r with
   | some i,some ps=>some ((off,i.sz)::ps)
   | _,_=>none
def ox(places:List (Nat×Nat)):List V->List (Nat×V)->Option (Prop×List V)
 | zs,[]=>some (True,zs)
 | zs,(i,v)::r=>match places[i]?,zs[i]? with
   | some (off,sz),some z=>match ox places (zs.set i v) r with
     | some (C,Vu)=>some (V.ns (zs.take i)=off/\v.n=sz/\z.n=sz/\v.isVal=true/\C,Vu)
     | none=>none
   | _,_=>none
def pW(P:Program)(A:AS)(T:Nat)(zs:List V)(b7:List (Nat×Operand)):Option (Prop×V):=
 match tD P T with
 | some (.st fs)=>match lu P fs with
   | some places=>match ox places zs (b7.map fun (i,x)=>(i,A.cp x)) with
     | some (C,vs)=>some (C,.agg vs)
     | none=>none
   | none=>none
 | _=>none
theorem vp:∀ (zs:List V) {cs:List Value} {i:Nat} {z v:V} {c:List Value},RL w Pb zs cs []->zs[i]? =some z->R w Pb v c []->c.length=z.n->
 RL w Pb (zs.set i v) (cs.take (V.ns (zs.take i))++c++cs.drop (V.ns (zs.take i)+z.n)) []
 | [],_,_,_,_,_,_,h,_,_=>by simp at h
 | z0::zs,cs,0,z,v,c,h,hi,hr,hn=>by
   obtain⟨c1,c2,F1,F2,rfl,hF,h1,h2⟩:=h
   have LD:=hF.symm;simp at LD;obtain⟨rfl,rfl⟩:=LD
   simp at hi;subst hi
   have hl:=dK _ h1
   simp only[List.take_zero,V.ns,Nat.zero_add,List.nil_append,List.set_cons_zero]
   rw[<- hl,List.drop_left]
   exact⟨c,c2,[],[],rfl,rfl,hr,h2⟩
 | z0::zs,cs,i+1,z,v,c,h,hi,hr,hn=>by
   obtain⟨c1,c2,F1,F2,rfl,hF,h1,h2⟩:=h
   have LD:=hF.symm;simp at LD;obtain⟨rfl,rfl⟩:=LD
   have hl:=dK _ h1
   have ih:=vp zs h2 (by simpa using hi) hr hn
   simp only[List.take_succ_cons,V.ns,List.set_cons_succ]
   refine⟨c1,_,[],[],?_,rfl,h1,ih⟩
   rw[<- hl,List.take_append,List.drop_append]
   have e1:(List.take (c1.length+V.ns (zs.take i)) c1)=c1:=List.take_of_length_le (by omega)
   have e2:(List.drop (c1.length+V.ns (zs.take i)+z.n) c1)=[]:=List.drop_eq_nil_of_le (by omega)
   rw[e1,e2]
   have e3:c1.length+V.ns (zs.take i)-c1.length=V.ns (zs.take i):=by omega
   have e4:c1.length+V.ns (zs.take i)+z.n-c1.length=V.ns (zs.take i)+z.n:=by omega
   rw[e3,e4];simp
theorem AF(cells:Array Value) (off:Nat) (c:List Value) (h:off+c.length<=cells.size) {r:Array Value} (hs:r.size=cells.size)
 (hk:∀ k,r[k]? =if off+0<=k/\k<off+0+c.length/\k<cells.size then c[k-(off+0)]? else cells[k]?):r.toList=cells.toList.take off++c++cells.toList.drop (off+c.length):=by
 apply List.ext_getElem?
 intro k
 rw[Array.getElem?_toList,hk k]
 simp only[Nat.add_zero]
 by_cases h1:k<off
 rw[if_neg (by omega),List.append_assoc,List.getElem?_append_left (by simp;omega),List.getElem?_take,if_pos h1];simp
 by_cases h2:k<off+c.length
 rw[if_pos ⟨by omega,h2,by omega⟩,List.append_assoc,List.getElem?_append_right (by simp;omega),List.getElem?_append_left (by simp;omega)]
 congr 1;simp;omega
 rw[if_neg (by omega),List.getElem?_append_right (by simp;omega),List.getElem?_drop]
 have:off+c.length+(k-(cells.toList.take off++c).length)=k:=by simp;omega
 rw[this];simp
theorem qF(hs:s4 N Pb Kb A a w F){places:List (Nat×Nat)}:∀ (b7:List (Nat×Operand)) {zs:List V} {C:Prop} {vs:List V} {cells:Array Value},ox places zs (b7.map fun (i,x)=>(i,A.cp x))=some (C,vs)->C->
 RL w Pb zs cells.toList []->∃ n8,Instr.fill (places.toArray[·]?) cells (b7.map fun (i,x)=>(i,a.eval x))=some n8/\RL w Pb vs n8.toList []
 | [],zs,C,vs,cells,h,_,hr=>by simp[ox]at h;obtain⟨_,rfl⟩:=h;exact⟨cells,rfl,hr⟩
 | (i,x)::r,zs,C,vs,cells,h,hC,hr=>by
   simp only[List.map_cons,ox]at h
   split at h
   case h_2=>simp at h
   rename_i off sz z hp hz
   split at h
   case h_2=>simp at h
   rename_i C' Vu hf
   simp only[Option.some.injEq,Prod.mk.injEq]at h
   obtain⟨rfl,rfl⟩:=h
   obtain⟨h1,h2,h3,h4,h5⟩:=hC
   have hR:=xh (nM hs x) h4
   have hl:=dK _ hR
   obtain⟨cz,F',RQ,_,V6⟩:=fp zs hr hz
   have V1:=dK _ RQ
   have hle:off+(a.eval x).cells.toList.length<=cells.size:=by
    by_cases hne:cz=[]
    have:sz=0:=by rw[<- h3,<- V1,hne];rfl
    have hns:V.ns (zs.take i)<=cells.size:=by
     have RU:=gW _ hr
     have:V.ns (zs.take i)<=V.ns zs:=by
      clear hf hr V6 RQ hp RU h1
      induction zs generalizing i with
      | nil=>simp[V.ns]
      | cons z0 zs ih=>cases i with
        | zero=>simp[V.ns]
        | succ i=>simp only[List.take_succ_cons,V.ns];have:=ih (i:=i) (by simpa using hz);omega
     simpa[<- RU] using this
    rw[hl,h2];omega
    have:=vg (cells:=cells) (o:=off) (l:=cz) (fun j u hu=>by rw[<- h1];have:=V6 j u hu;simpa using this) hne
    omega
   obtain⟨g1,g2⟩:=Great.foldl_set off (a.eval x).cells.toList 0 cells
   have UE:=AF cells off (a.eval x).cells.toList hle g1 g2
   have Ko:=vp zs hr hz hR (by rw[hl,h2,h3])
   rw[h1,h3,<- h2,<- hl,<- UE]at Ko
   obtain⟨n8,OJ,D6⟩:=qF hs r hf h5 Ko
   refine⟨n8,?_,D6⟩
   simp only[List.map_cons]
   unfold Instr.fill
   have SW:places.toArray[i]? =some (off,sz):=by simpa using hp
   simp only[SW]
   rw[if_neg (by
    have e1:(a.eval x).cells.size=sz:=by rw[<- h2,<- hl];simp
    simp only[e1,ne_eq,not_true_eq_false,decide_false,Bool.false_or,decide_eq_true_eq]
    rw[<- e1];simpa using hle)]
   rw[<- OJ];congr 1
   rw[<- Array.foldl_toList,Array.toList_zipIdx]
theorem CH{fl:Array Field}{fs:List (Nat×Nat)}(h:fl.toList.map (fun f=>(f.offset,f.type))=fs){places:List (Nat×Nat)}(hp:lu P fs=some places):
 fl.toList.mapM (fun f=>(P.info? f.type).map fun i=>(f.offset,i.size))=some places:=by
 subst h
 generalize fl.toList=l at hp
 induction l generalizing places with
 | nil=>simp[lu]at hp;subst hp;rfl
 | cons f l ih=>
   simp only[List.map_cons,lu]at hp
   split at hp
   case h_2=>simp at hp
   rename_i i ps hi hps
   simp at hp;subst hp
   obtain⟨inf,_,h1,_,h3,_,_⟩:=ib hi
   simp[List.mapM_cons,h1,ih hps,h3]
theorem Aa(hs:s4 N Pb Kb A a w F){T:Nat}{b7:Array (Nat×Operand)}{zs:List V}{C:Prop}{v:V}(hz:lH P T (.agg zs))(h:pW P A T zs b7.toList=some (C,v))(hC:C):
 ∃ y,(Instr.build T (b7.map fun (i,x)=>(i,a.eval x))).run P w=.ok y w/\RV w Pb v y []:=by
 unfold pW at h
 split at h
 case h_2=>simp at h
 rename_i fs hT
 split at h
 case h_2=>simp at h
 rename_i places hp
 split at h
 case h_2=>simp at h
 rename_i C' vs hf
 simp only[Option.some.injEq,Prod.mk.injEq]at h
 obtain⟨rfl,rfl⟩:=h
 obtain⟨fl,hu,hfl⟩:=zW hT
 obtain⟨inf,z,h1,h2,h3⟩:=hz
 have hr:=pG (w:=w) (Pb:=Pb) _ h3
 simp only[R]at hr
 obtain⟨n8,OJ,D6⟩:=qF hs b7.toList hf hC hr
 refine⟨.agg n8,run_build w T _ n8 ?_,n8,rfl,D6⟩
 unfold Program.built
 simp only[h1,hu,h2,CH hfl hp]
 rw[Array.toList_map];exact OJ
theorem uW{o:Oper} {K:AS->Prop} {T:Nat} {b7:Array (Nat×Operand)} {zs:List V} {C:Prop} {v:V} (ho:o.op=.build T b7) (hd:bX N o.dst) (hz:lH P T (.agg zs))
 (h:pW P A T zs b7.toList=some (C,v)) (hC:C) (hK:K (A.put o.dst v)):D5 P N o A K:=
 gN hd hK fun Pb Kb a w F hs=>by
  obtain⟨y,hy,hr⟩:=Aa hs hz h hC
  exact⟨y,by simp only[execOp,ho,Sem.run_bind,hy,Result.andThen_ok,Sem.run_pure],hr⟩
theorem s4.freeze(hs:s4 N Pb Kb A a w F){i:Nat}(hi:(A.get i).cB=true)(UZ:i<N):∃ Pb' C5 F',s4 N Pb' C5 (A.put (some i) (A.get i).er) a w F'/\(∀ g,Pb g->Pb' g)/\(∀ g,Kb g->C5 g)/\(∀ g,Pb' g->Pb g\/¬ Kb g):=by
 refine⟨fun g=>Pb g\/g∈F (.slot i),fun g=>Kb g\/g∈F (.slot i),bL F (.slot i) [],?_,fun g h=>.inl h,fun g h=>.inl h,fun g h=>h.imp id fun h=>(hs.free _ g h).1⟩
 have Rl:∀ r,r≠.slot i->∀ g,g∈F r->¬ (Pb g\/g∈F (.slot i))/\¬ (Kb g\/g∈F (.slot i)):=fun r hr g hg=>by
  refine⟨fun c=>?_,fun c=>?_⟩ <;> rcases c with c | c
  exact(hs.free r g hg).1 (hs.sub g c)
  exact hs.bM r _ hr g hg c
  exact(hs.free r g hg).1 c
  exact hs.bM r _ hr g hg c
 refine⟨hs.size,hs.defers,fun j=>?_,fun k g v hk=>?_,fun r r' hne g hg=>?_,fun r=>?_,fun r g hg=>?_,fun g h=>h.imp (hs.sub g) id,fun g h=>?_⟩
 rw[AS.ay]
 by_cases e:j=i
 subst e
 simp only[if_true,bL]
 exact AB (hs.slot j) (fun g h=>.inl h) (fun g h=>.inr h)
 have hne:l9.slot j≠l9.slot i:=fun c=>e (by injection c)
 simp only[if_neg e,bL,if_neg hne]
 exact lq _ (hs.slot j) (fun _ _=>rfl) (fun _ _=>rfl) (fun g h=>.inl h) (fun g hg=>(Rl _ hne g hg).1)
 obtain⟨F',e,hA⟩:=hs.root k g v hk
 refine⟨F',by simpa[bL] using e,?_⟩
 obtain⟨cs,cells,hb,hr,hc⟩:=hA
 exact⟨cs,cells,hb,fm _ hr (fun _ _=>rfl) (fun _ _=>rfl) (fun g h=>.inl h) (fun x hx=>(Rl (.key k) (by simp) x (by rw[e];simp[hx])).1),hc⟩
 simp only[bL]at hg ⊢
 split at hg
 simp at hg
 split
 simp
 exact hs.bM r r' hne g hg
 simp only[bL];split
 exact List.nodup_nil
 exact hs.nodup r
 simp only[bL]at hg
 split at hg
 simp at hg
 rename_i hne
 exact⟨(Rl r hne g hg).2,(hs.free r g hg).2⟩
 rcases h with h | h
 exact hs.bound g h
 exact(hs.free _ g h).2
end
end Go.Abs
namespace Go.Abs
open Go Go.RowKit
section
variable {w w':World} {Pb Kb:Nat->Prop} {N:Nat} {A A':AS} {a:Act} {F:l9->List Nat} {P:Program}
theorem s4.KS(hs:s4 N Pb Kb A a w F){g:Nat}(hg:∀ r,g ∉ F r)(hK: ¬ Kb g)(hf:∀ k,k≠g->w'.heap[k]? =w.heap[k]?)(hsz:w'.heap.size=w.heap.size):s4 N Pb Kb A a w' F where
 size:=hs.size
 defers:=hs.defers
 slot:=fun i=>lq _ (hs.slot i) (fun x hx=>hf x (by rintro rfl;exact hK (hs.sub _ hx))) (fun x hx=>hf x (by rintro rfl;exact hg _ hx)) (fun _ h=>h) (fun x hx c=>(hs.free _ x hx).1 (hs.sub x c))
 root:=fun k g0 v hk=>by
  obtain⟨F',e,hA⟩:=hs.root k g0 v hk
  have U0:g0≠g:=by rintro rfl;exact hg (.key k) (by rw[e];simp)
  refine⟨F',e,oL hA (fun x hx=>hf x (by rintro rfl;exact hK (hs.sub _ hx))) (fun x hx=>hf x (by rintro rfl;exact hg (.key k) (by rw[e];simp[hx]))) (fun x hx c=>(hs.free (.key k) x (by rw[e];simp[hx])).1 (hs.sub x c)) (fun cells hb=>?_)⟩
  obtain⟨e',fr,hb,hfr⟩:=hb
  exact⟨cells,⟨e',fr,(hf g0 U0).trans hb,hfr⟩,fun _ _ _=>rfl⟩
 bM:=hs.bM
 nodup:=hs.nodup
 free:=fun r x hx=>by rw[hsz];exact hs.free r x hx
 sub:=hs.sub
 bound:=fun x hx=>by rw[hsz];exact hs.bound x hx
theorem gM:∀ (xs ys:List V) {c1 c2:List Value} {F1 F2:List Nat},RL w Pb xs c1 F1->RL w Pb ys c2 F2->RL w Pb (xs++ys) (c1++c2) (F1++F2)
 | [],ys,c1,c2,F1,F2,h1,h2=>by obtain⟨rfl,rfl⟩:=h1;exact h2
 | x::xs,ys,c1,c2,F1,F2,h1,h2=>by
   obtain⟨d1,d2,G1,G2,rfl,rfl,k1,k2⟩:=h1
   exact⟨d1,d2++c2,G1,G2++F2,by simp,by simp,k1,gM xs ys k2 h2⟩
theorem mX{sz:Nat}(xs:List V)(h:aG sz xs):V.ns xs=xs.length*sz:=by
 have:=du xs xs.length h (Nat.le_refl _);simpa using this
theorem xR{full:Bool}{ys:List V}{x:Value}(h:R w Pb (.sl full ys) [x] []){s:Nat}(hs:aG s ys):∃ (B:Option Addr) (c:Nat) (flat:List Value),x=.slice B ys.length c/\RL w Pb ys flat []/\
 (∀ w1:World,(∀ ad,w1.cell? ad=w.cell? ad)->(Builtin.firstCells s ys.length x).run P w1=.ok flat.toArray w1)/\flat.length=ys.length*s:=by
 obtain⟨_,A,c,hx,hl,_,hz⟩:=h
 have hx:x=.slice A ys.length c:=by simpa using hx
 subst hx
 rcases hz with rfl | ⟨b,o,sz,flat,rfl,hb,hsz,hN,hr,hc⟩
 refine⟨A,c,[],rfl,⟨rfl,rfl⟩,fun w1 _=>?_,by simp⟩
 cases A with
 | none=>rfl
 | some ad=>simp only[Builtin.firstCells,List.length_nil,Nat.zero_mul];rfl
 have hl2:=gW _ hr
 by_cases he:ys=[]
 subst he
 obtain⟨rfl,_⟩:=hr
 exact⟨_,c,[],rfl,⟨rfl,rfl⟩,fun w1 _=>by simp only[Builtin.firstCells,List.length_nil,Nat.zero_mul];rfl,by simp⟩
 rw[mX ys hs]at hl2
 exact⟨_,c,flat,rfl,hr,fun w1 h1=>by simp only[Builtin.firstCells];rw[<- hl2];exact run_loadCells_list w1 _ flat (fun j v hv=>by rw[dr,h1];exact hc j v hv),hl2⟩
theorem vj{sz g o c:Nat}{xs:List V}{x:Value}{Fx:List Nat}(h:R w Pb (.own sz xs g o c) [x] Fx):∃ (B:Option Addr) (flat:List Value) (F':List Nat),x=.slice B xs.length c/\RL w Pb xs flat F'/\
 (∀ w1:World,(∀ ad,w1.cell? ad=w.cell? ad)->(Builtin.firstCells sz xs.length x).run P w1=.ok flat.toArray w1)/\(0<c->B=some ⟨g,o,none⟩/\aG sz xs/\0<sz/\Fx=g::F'/\flat.length=xs.length*sz)/\(c=0->xs=[]/\Fx=[]/\F'=[]/\flat=[])/\xs.length<=c:=by
 rcases h with ⟨rfl,rfl,rfl,A,hx⟩ | ⟨h1,h2,h3,hx,hN,_,flat,F',cells,rfl,hr,hb,hsz,hc⟩
 have hx:x=.slice A 0 0:=by simpa using hx
 subst hx
 refine⟨A,[],[],rfl,⟨rfl,rfl⟩,fun w1 _=>?_,fun h=>absurd h (by omega),fun _=>⟨rfl,rfl,rfl,rfl⟩,Nat.le_refl _⟩
 cases A with
 | none=>rfl
 | some ad=>simp only[Builtin.firstCells,List.length_nil,Nat.zero_mul];rfl
 have hx:x=.slice (some ⟨g,o,none⟩) xs.length c:=by simpa using hx
 subst hx
 have hl:=gW _ hr
 rw[mX xs hN]at hl
 refine⟨_,flat,F',rfl,hr,fun w1 h1=>?_,fun _=>⟨rfl,hN,h2,rfl,hl⟩,fun h=>absurd h (by omega),h3⟩
 simp only[Builtin.firstCells]
 rw[<- hl]
 exact run_loadCells_list w1 _ flat (fun j v hv=>by rw[dr,h1,dy hb];exact hc j v hv)
theorem pa{e:Nat}{inf:TypeInfo}{z:Value}(h1:P.info? e=some inf)(h2:inf.zero=some z):(zeroValue e).run P w=.ok z w:=by simp[zeroValue,typeInfo,h1,h2]
theorem qK{T T2 e e2:Nat} {t:TI} (hT:tD P T=some (.sl e)) (PG:tD P T2=some (.sl e2)) (ht:ti P e=some t) (hz:∃ inf z,P.info? e=some inf/\inf.zero=some z/\z.cells.size=t.sz) (hsz:0<t.sz) (O9:0<t.Kg)
 (hs:s4 N Pb Kb A a w F) {xs ys:List V} {g o c:Nat} {s x:Value} {Fx:List Nat} {B2:Option Addr} {c2:Nat} {A7:List Value} (H6:R w Pb (.own t.sz xs g o c) [s] Fx) (u0:∀ r g,g∈Fx->g ∉ F r) (hfr:∀ g,g∈Fx->¬ Kb g/\g<w.heap.size) {Fy:List Nat} (hnd:(Fx++Fy).Nodup) (VG:∀ r g,g∈Fy->g ∉ F r) (SA:∀ g,g∈Fy->¬ Kb g/\g<w.heap.size)
 (LQ:x=.slice B2 ys.length c2) (Ko:RL w Pb ys A7 Fy) (Lg:∀ w1:World,(∀ ad,w1.cell? ad=w.cell? ad)->(Builtin.firstCells t.sz ys.length x).run P w1=.ok A7.toArray w1) (hl2:A7.length=ys.length*t.sz) (hN:aG t.sz ys) (hbig:(xs.length+ys.length)*t.Kg<=140737488355328):
 ∃ v w' F2 g' o' c',(Builtin.append_ #[T,T2] T #[s,x]).run P w=.ok v w'/\s4 N Pb Kb A a w' F/\R w' Pb (.own t.sz (xs++ys) g' o' c') [v] F2/\F2.Nodup/\(∀ r g,g∈F2->g ∉ F r)/\(∀ g,g∈F2->¬ Kb g/\g<w'.heap.size)/\w8 Kb w w':=by
 have hu:=gG hT
 have LA:=gG PG
 obtain⟨inf,z,Kj,hzero,Ul⟩:=hz
 obtain⟨Po,_,G3,_,Ot,ON,_⟩:=ib ht
 rw[Kj]at G3
 obtain rfl:=Option.some.inj G3
 obtain⟨B,flat,F',rfl,hr,L5,I',Ok,hle⟩:=vj (P:=P) H6
 subst LQ
 have MA:(Builtin.lenOf (.slice B2 ys.length c2)).run P w=.ok ys.length w:=rfl
 have RZ:∀ r g,g∈F r->¬ Pb g:=fun r g hg c=>(hs.free r g hg).1 (hs.sub g c)
 have S1:xs.length+ys.length<=140737488355328:=Nat.le_trans (Nat.le_mul_of_pos_right _ O9) hbig
 unfold Builtin.append_
 simp only[List.getElem?_toArray,List.getElem?_cons_zero,List.getElem?_cons_succ,Sem.run_bind,aC hu,Result.andThen_ok]
 simp only[ct ht,Result.andThen_ok]
 simp only[aC LA,Result.andThen_ok,Sem.run_pure]
 rw[if_neg (show ¬ (false=true) by decide)]
 rw[Sem.run_bind,MA]
 simp only[Result.andThen_ok]
 by_cases My:xs.length+ys.length<=c
 ·
  rw[if_pos My]
  simp only[Sem.run_bind,Bool.not_false,if_true,Lg w (fun _=>rfl),Result.andThen_ok]
  by_cases hc:c=0
  obtain⟨rfl,rfl,rfl,rfl⟩:=Ok hc
  have KC:ys=[]:=List.eq_nil_of_length_eq_zero (by omega)
  subst KC
  have MD:A7=[]:=List.eq_nil_of_length_eq_zero (by simpa using hl2)
  subst MD
  refine⟨.slice B 0 c,w,[],g,o,0,?_,hs,.inl ⟨rfl,rfl,rfl,B,by rw[hc]⟩,List.nodup_nil,by simp,by simp,w8.refl _ _⟩
  cases B with
  | none=>simp
  | some ad=>simp[storeCells]
  obtain⟨rfl,Rx,_,rfl,hl1⟩:=I' (by omega)
  rcases H6 with ⟨h0,_⟩ | ⟨_,_,_,_,_,Rw,Kp,KH,cells,R0,D6,hb,Rb,s3⟩
  exact absurd h0 hc
  simp only[List.cons.injEq,true_and]at R0
  subst R0
  have hle':o+xs.length*t.sz+A7.length<=cells.size:=by
   rw[hl2]
   have:(xs.length+ys.length)*t.sz<=c*t.sz:=Nat.mul_le_mul_right _ My
   rw[Nat.add_mul]at this;omega
  obtain⟨w',x6,J8⟩:=fN (P:=P) (g:=g) (o:=o+xs.length*t.sz) A7 0 w cells hb (by omega) (pD _ Ko)
  have hg:=hfr g (by simp)
  have x7:s4 N Pb Kb A a w' F:=hs.KS (fun r=>u0 r g (by simp)) hg.1 J8.KS J8.size
  have TL:∀ k,Pb k->w'.heap[k]? =w.heap[k]? :=fun k hk=>J8.KS k (by rintro rfl;exact Rw hk)
  have V4:g ∉ F'++Fy:=(List.nodup_cons.1 hnd).1
  have Np:g ∉ F':=fun c=>V4 (by simp[c])
  have hgY:g ∉ Fy:=fun c=>V4 (by simp[c])
  have hkF:∀ k,k∈F'->w'.heap[k]? =w.heap[k]? :=fun k hk=>J8.KS k (by rintro rfl;exact Np hk)
  obtain⟨n8,J0,J3,Lc,OB⟩:=J8.LI cells hb
  have Ow:=dB (w':=w') (Pb':=Pb) xs hr TL hkF (fun _ h=>h) (fun k hk c=>(hfr k (by simp[hk])).1 (hs.sub k c))
  have Ov:=dB (w':=w') (Pb':=Pb) ys Ko TL (fun k hk=>J8.KS k (by rintro rfl;exact hgY hk)) (fun _ h=>h) (fun k hk c=>(SA k hk).1 (hs.sub k c))
  have OH:Kp=flat\/True:=.inr trivial
  have V3:∀ k,k∈g::(F'++Fy)->(¬ Kb k/\k<w.heap.size)/\∀ r,k ∉ F r:=fun k hk=>by
   rcases List.mem_append.1 (show k∈(g::F')++Fy from hk) with h | h
   exact⟨hfr k h,fun r=>u0 r k h⟩
   exact⟨SA k h,fun r=>VG r k h⟩
  refine⟨.slice (some ⟨g,o,none⟩) (xs.length+ys.length) c,w',g::(F'++Fy),g,o,c,?_,x7,.inr ⟨by omega,hsz,by simp;omega,by simp,?_,Rw,flat++A7,F'++Fy,n8,rfl,gM xs ys Ow Ov,J0,by omega,?_⟩,hnd,fun r k hk=>(V3 k hk).2 r,fun k hk=>by rw[J8.size];exact(V3 k hk).1,⟨J8.os,J8.tape,J8.output,by rw[J8.size];omega,fun k hk=>J8.KS k (by rintro rfl;exact hg.1 hk),J8.shape⟩⟩
  have e1:(Array.toList A7.toArray)=A7:=by simp
  simp only[dr,Sem.run_bind]
  rw[x6]
  simp only[Result.andThen_ok,Sem.run_pure]
  intro v hv
  rcases List.mem_append.1 hv with h | h
  exact Rx v h
  exact hN v h
  intro j u hu
  by_cases hj:j<flat.length
  rw[List.getElem?_append_left hj]at hu
  rw[Lc _ (by omega)]
  have h1:(loadCells ⟨g,o,none⟩ Kp.length).run P w=.ok Kp.toArray w:=run_loadCells_list w _ Kp (fun j v hv=>by rw[dr,dy hb];exact s3 j v hv)
  have UU:Kp.length=xs.length*t.sz:=by rw[gW _ D6,mX xs Rx]
  have h2:=L5 w (fun _=>rfl)
  simp only[Builtin.firstCells]at h2
  rw[<- UU,h1]at h2
  simp only[Result.ok.injEq,and_true]at h2
  have:Kp=flat:=by have:=congrArg Array.toList h2;simpa using this
  subst this
  exact s3 j u hu
  rw[List.getElem?_append_right (by omega)]at hu
  have:=OB _ u hu
  rw[<- this];congr 1;omega
 ·
  rw[if_neg My]
  have hlt:c<xs.length+ys.length:=by omega
  have UN:IntKind.i64.max=9223372036854775807:=by decide
  have Pv: ¬ (((xs.length+ys.length:Nat):Int)>IntKind.i64.max/\((false=true)\/inf.bytes=0)):=by
   rw[UN];rintro⟨h1,_⟩;omega
  have hcap: ¬ Builtin.nextslicecap (xs.length+ys.length) c*inf.bytes>281474976710656:=by
   have:=growslice_fits (bytes:=t.Kg) hlt hbig
   rw[ON];omega
  have O5:∀ w,(typeInfo e).run P w=.ok inf w:=fun w=>by simp[typeInfo,Kj]
  obtain⟨nc,RT,Tc⟩:∃ nc,xs.length+ys.length<=nc/\(choose (.appendCap (xs.length+ys.length) c e)).run P w=.ok nc { w with drawn:=w.drawn+1 }:=by
   exact⟨(Question.appendCap (xs.length+ys.length) c e).cut (w.tape w.drawn (Question.appendCap (xs.length+ys.length) c e)),by simp only[Question.cut];exact Nat.le_add_right _ _,by rw[run_choose,if_neg (by simp[Question.forced])]⟩
  obtain⟨w1,L2⟩:∃ w1:World,w1={ w with drawn:=w.drawn+1 }:=⟨_,rfl⟩
  rw[<- L2]at Tc
  have G9:w1.heap=w.heap:=by rw[L2]
  have K1:∀ ad,w1.cell? ad=w.cell? ad:=fun ad=>by rw[L2];rfl
  have S':=L5 w1 K1
  have MD:=Lg w1 K1
  have Uk:=fun w=>pa (w:=w) Kj hzero
  obtain⟨cells,hcells⟩:∃ cells:Array Value,cells=flat.toArray++A7.toArray++Builtin.zeroCells z.cells (nc-(xs.length+ys.length)):=⟨_,rfl⟩
  have UT:flat.length=xs.length*t.sz:=by
   by_cases hc:c=0
   obtain⟨rfl,_,_,rfl⟩:=Ok hc;simp
   exact(I' (by omega)).2.2.2.2
  have PA:cells.size=nc*t.sz:=by
   rw[hcells]
   simp only[Array.size_append,List.size_toArray,Builtin.zeroCells,Array.size_map,Array.size_range,Ul,UT,hl2]
   rw[<- Nat.add_mul,<- Nat.add_mul];congr 1;omega
  have U6:s4 N Pb Kb A a w1 F:=hs.grow (fun k _=>by rw[G9]) (by rw[G9];exact Nat.le_refl _) (fun _ h=>h) (fun g h=>.inl h) hs.sub
  have PH:∀ k,k∈F'->k∈Fx:=fun k hk=>by
   by_cases hc:c=0
   rw[(Ok hc).2.2.1]at hk;simp at hk
   rw[(I' (by omega)).2.2.2.1];simp[hk]
  have hFn:(F'++Fy).Nodup:=by
   by_cases hc:c=0
   rw[(Ok hc).2.2.1];exact(List.nodup_append.1 hnd).2.1
   have:=hnd;rw[(I' (by omega)).2.2.2.1]at this;exact(List.nodup_cons.1 this).2
  have Rx:aG t.sz xs:=by
   by_cases hc:c=0
   rw[(Ok hc).1];intro v hv;simp at hv
   exact(I' (by omega)).2.1
  have hold:∀ k,k<w.heap.size->(w1.alloc (.cells cells e)).heap[k]? =w.heap[k]? :=fun k hk=>by
   rw[alloc_old w1 _ k (by rw[G9];exact hk),G9]
  have Oq:(w1.alloc (.cells cells e)).heap.size=w.heap.size+1:=by rw[cY,G9]
  have L3:w.heap.size=w1.heap.size:=by rw[G9]
  have Ow:=dB (w':=w1.alloc (.cells cells e)) (Pb':=Pb) xs hr (fun k hk=>hold k (hs.bound k (hs.sub k hk))) (fun k hk=>hold k (hfr k (PH k hk)).2) (fun _ h=>h) (fun k hk cc=>(hfr k (PH k hk)).1 (hs.sub k cc))
  have Ov:=dB (w':=w1.alloc (.cells cells e)) (Pb':=Pb) ys Ko (fun k hk=>hold k (hs.bound k (hs.sub k hk))) (fun k hk=>hold k (SA k hk).2) (fun _ h=>h) (fun k hk cc=>(SA k hk).1 (hs.sub k cc))
  have Ry:∀ k,k∈F'++Fy->(¬ Kb k/\k<w.heap.size)/\∀ r,k ∉ F r:=fun k hk=>by
   rcases List.mem_append.1 hk with h | h
   exact⟨hfr k (PH k h),fun r=>u0 r k (PH k h)⟩
   exact⟨SA k h,fun r=>VG r k h⟩
  have MH: ¬ Kb w.heap.size:=fun cc=>by have:=hs.bound _ cc;omega
  refine⟨.slice (some ⟨w.heap.size,0,none⟩) (xs.length+ys.length) nc,w1.alloc (.cells cells e),w.heap.size::(F'++Fy),w.heap.size,0,nc,?_,U6.mf _,.inr ⟨by omega,hsz,by simpa using RT,by simp,?_,fun cc=>MH (hs.sub _ cc),flat++A7,F'++Fy,cells,rfl,
   gM xs ys Ow Ov,⟨e,(0,0),by rw[L3];exact fv w1 _,fun i _ h=>by omega⟩,by rw[PA];omega,fun j u hu=>?_⟩,?_,?_,?_,⟨?_,?_,?_,by rw[Oq];omega,fun k hk=>hold k (hs.bound k hk),Shp.of_eq hold⟩⟩
  simp only[Sem.run_ite,Sem.run_bind,O5,Result.andThen_ok,if_neg Pv,if_neg hcap,Sem.run_pure,Tc,S',MD,Bool.not_false,if_true,run_askRoom,Uk,ij]
  rw[hcells,L3]
  intro v hv
  rcases List.mem_append.1 hv with h | h
  exact Rx v h
  exact hN v h
  rw[hcells,Nat.zero_add]
  have hj:=(List.getElem?_eq_some_iff.1 hu).1
  rw[Array.getElem?_append_left (by simpa using hj)]
  simpa using hu
  refine List.nodup_cons.2 ⟨fun cc=>?_,hFn⟩
  have:=(Ry _ cc).1.2;omega
  intro r k hk cc
  rcases List.mem_cons.1 hk with rfl | h
  have:=(hs.free r _ cc).2;omega
  exact(Ry k h).2 r cc
  intro k hk
  rw[Oq]
  rcases List.mem_cons.1 hk with rfl | h
  exact⟨MH,by omega⟩
  have:=(Ry k h).1;exact⟨this.1,by omega⟩
  rw[L2];rfl
  rw[L2];rfl
  rw[L2];rfl
theorem yi{T T2 e e2:Nat} {t:TI} (hT:tD P T=some (.sl e)) (PG:tD P T2=some (.sl e2)) (ht:ti P e=some t) (hz:∃ inf z,P.info? e=some inf/\inf.zero=some z/\z.cells.size=t.sz) (hsz:0<t.sz) (O9:0<t.Kg)
 (hs:s4 N Pb Kb A a w F) {xs ys:List V} {s x:Value} {B2:Option Addr} {c2:Nat} {A7:List Value} (H6:R w Pb (.sl true xs) [s] []) (Rx:aG t.sz xs) (KC:0<ys.length)
 (LQ:x=.slice B2 ys.length c2) (Ko:RL w Pb ys A7 []) (Lg:∀ w1:World,(∀ ad,w1.cell? ad=w.cell? ad)->(Builtin.firstCells t.sz ys.length x).run P w1=.ok A7.toArray w1) (hl2:A7.length=ys.length*t.sz) (hN:aG t.sz ys) (hbig:(xs.length+ys.length)*t.Kg<=140737488355328):
 ∃ v w' F2 g' o' c',(Builtin.append_ #[T,T2] T #[s,x]).run P w=.ok v w'/\s4 N Pb Kb A a w' F/\R w' Pb (.own t.sz (xs++ys) g' o' c') [v] F2/\F2.Nodup/\(∀ r g,g∈F2->g ∉ F r)/\(∀ g,g∈F2->¬ Kb g/\g<w'.heap.size)/\w8 Kb w w':=by
 have hu:=gG hT
 have LA:=gG PG
 obtain⟨inf,z,Kj,hzero,Ul⟩:=hz
 obtain⟨Po,_,G3,_,Ot,ON,_⟩:=ib ht
 rw[Kj]at G3
 obtain rfl:=Option.some.inj G3
 obtain⟨B,c,flat,rfl,hr,L5,UT⟩:=xR (P:=P) H6 Rx
 have hcx:c=xs.length:=by
  obtain⟨_,A0,c0,h1,_,h2,_⟩:=H6
  have h1:=(List.cons.inj h1).1
  simp only[Value.slice.injEq]at h1
  rw[h1.2.2];exact h2 rfl
 subst LQ
 have MA:(Builtin.lenOf (.slice B2 ys.length c2)).run P w=.ok ys.length w:=rfl
 have S1:xs.length+ys.length<=140737488355328:=Nat.le_trans (Nat.le_mul_of_pos_right _ O9) hbig
 unfold Builtin.append_
 simp only[List.getElem?_toArray,List.getElem?_cons_zero,List.getElem?_cons_succ,Sem.run_bind,aC hu,Result.andThen_ok]
 simp only[ct ht,Result.andThen_ok]
 simp only[aC LA,Result.andThen_ok,Sem.run_pure]
 rw[if_neg (show ¬ (false=true) by decide)]
 rw[Sem.run_bind,MA]
 simp only[Result.andThen_ok]
 have My: ¬ (xs.length+ys.length<=c):=by omega
 rw[if_neg My]
 have hlt:c<xs.length+ys.length:=by omega
 have UN:IntKind.i64.max=9223372036854775807:=by decide
 have Pv: ¬ (((xs.length+ys.length:Nat):Int)>IntKind.i64.max/\((false=true)\/inf.bytes=0)):=by
  rw[UN];rintro⟨h1,_⟩;omega
 have hcap: ¬ Builtin.nextslicecap (xs.length+ys.length) c*inf.bytes>281474976710656:=by
  have:=growslice_fits (bytes:=t.Kg) hlt hbig
  rw[ON];omega
 have O5:∀ w,(typeInfo e).run P w=.ok inf w:=fun w=>by simp[typeInfo,Kj]
 obtain⟨nc,RT,Tc⟩:∃ nc,xs.length+ys.length<=nc/\(choose (.appendCap (xs.length+ys.length) c e)).run P w=.ok nc { w with drawn:=w.drawn+1 }:=by
  exact⟨(Question.appendCap (xs.length+ys.length) c e).cut (w.tape w.drawn (Question.appendCap (xs.length+ys.length) c e)),by simp only[Question.cut];exact Nat.le_add_right _ _,by rw[run_choose,if_neg (by simp[Question.forced])]⟩
 obtain⟨w1,L2⟩:∃ w1:World,w1={ w with drawn:=w.drawn+1 }:=⟨_,rfl⟩
 rw[<- L2]at Tc
 have G9:w1.heap=w.heap:=by rw[L2]
 have K1:∀ ad,w1.cell? ad=w.cell? ad:=fun ad=>by rw[L2];rfl
 have S':=L5 w1 K1
 have MD:=Lg w1 K1
 have Uk:=fun w=>pa (w:=w) Kj hzero
 obtain⟨cells,hcells⟩:∃ cells:Array Value,cells=flat.toArray++A7.toArray++Builtin.zeroCells z.cells (nc-(xs.length+ys.length)):=⟨_,rfl⟩
 have PA:cells.size=nc*t.sz:=by
  rw[hcells]
  simp only[Array.size_append,List.size_toArray,Builtin.zeroCells,Array.size_map,Array.size_range,Ul,UT,hl2]
  rw[<- Nat.add_mul,<- Nat.add_mul];congr 1;omega
 have U6:s4 N Pb Kb A a w1 F:=hs.grow (fun k _=>by rw[G9]) (by rw[G9];exact Nat.le_refl _) (fun _ h=>h) (fun g h=>.inl h) hs.sub
 have hold:∀ k,k<w.heap.size->(w1.alloc (.cells cells e)).heap[k]? =w.heap[k]? :=fun k hk=>by
  rw[alloc_old w1 _ k (by rw[G9];exact hk),G9]
 have Oq:(w1.alloc (.cells cells e)).heap.size=w.heap.size+1:=by rw[cY,G9]
 have L3:w.heap.size=w1.heap.size:=by rw[G9]
 have Ow:=dB (w':=w1.alloc (.cells cells e)) (Pb':=Pb) xs hr (fun k hk=>hold k (hs.bound k (hs.sub k hk))) (by simp) (fun _ h=>h) (by simp)
 have Ov:=dB (w':=w1.alloc (.cells cells e)) (Pb':=Pb) ys Ko (fun k hk=>hold k (hs.bound k (hs.sub k hk))) (by simp) (fun _ h=>h) (by simp)
 have MH: ¬ Kb w.heap.size:=fun cc=>by have:=hs.bound _ cc;omega
 refine⟨.slice (some ⟨w.heap.size,0,none⟩) (xs.length+ys.length) nc,w1.alloc (.cells cells e),[w.heap.size],w.heap.size,0,nc,?_,U6.mf _,.inr ⟨by omega,hsz,by simpa using RT,by simp,?_,fun cc=>MH (hs.sub _ cc),flat++A7,[],cells,rfl,
  gM xs ys Ow Ov,⟨e,(0,0),by rw[L3];exact fv w1 _,fun i _ h=>by omega⟩,by rw[PA];omega,fun j u hu=>?_⟩,?_,?_,?_,⟨?_,?_,?_,by rw[Oq];omega,fun k hk=>hold k (hs.bound k hk),Shp.of_eq hold⟩⟩
 simp only[Sem.run_ite,Sem.run_bind,O5,Result.andThen_ok,if_neg Pv,if_neg hcap,Sem.run_pure,Tc,S',MD,Bool.not_false,if_true,run_askRoom,Uk,ij]
 rw[hcells,L3]
 intro v hv
 rcases List.mem_append.1 hv with h | h
 exact Rx v h
 exact hN v h
 rw[hcells,Nat.zero_add]
 have hj:=(List.getElem?_eq_some_iff.1 hu).1
 rw[Array.getElem?_append_left (by simpa using hj)]
 simpa using hu
 simp
 intro r k hk cc
 obtain rfl:=List.mem_singleton.1 hk
 have:=(hs.free r _ cc).2;omega
 intro k hk
 rw[Oq]
 obtain rfl:=List.mem_singleton.1 hk
 exact⟨MH,by omega⟩
 rw[L2];rfl
 rw[L2];rfl
 rw[L2];rfl
def ju(lo n:Nat)(sz g o:Nat):V->Option (Prop×List V)
 | .own KJ xs g2 o2 _=>some ((sz=KJ/\g=g2/\o=o2)/\lo+n<=xs.length/\V.aD xs=false/\aG KJ xs,(xs.drop lo).take n)
 | _=>none
def LZ(A:AS)(x:Operand):Option (Prop×List V):=
 match A.ev x with
 | .sl _ xs=>some (True,xs)
 | .own _ xs _ _ _=>some (True,xs)
 | .hd r p sz g o lo n _=>match r,p with
   | .slot i,[]=>ju lo n sz g o (A.get i)
   | .key k,p=>match A.at (.key k) p with
     | some (_,_,u)=>ju lo n sz g o u
     | none=>none
   | _,_=>none
 | _=>none
theorem nQ:∀ (xs:List V) (k:Nat),V.aD xs=false->V.aD (xs.drop k)=false
 | xs,0,h=>h
 | [],k+1,h=>by simpa using h
 | v::vs,k+1,h=>by
   simp only[V.aD,Bool.or_eq_false_iff]at h
   exact nQ vs k h.2
theorem DR{Fo:List Nat}{KJ g2 o2 c2 lo n c:Nat}{xs:List V}{PL:List Value}(hr:R w Pb (.own KJ xs g2 o2 c2) PL Fo)(hle:n<=c){B:Option Addr}(hB:0<c->B=some ⟨g2,o2+lo*KJ,none⟩)(hn:lo+n<=xs.length)(ho:V.aD xs=false){s:Nat}(hs:aG s ((xs.drop lo).take n)):
 ∃ (flat:List Value),RL w Pb ((xs.drop lo).take n) flat []/\(∀ w1:World,(∀ ad,w1.cell? ad=w.cell? ad)->(Builtin.firstCells s n (.slice B n c)).run P w1=.ok flat.toArray w1)/\flat.length=n*s:=by
 by_cases UM:n=0
 subst UM
 refine⟨[],by simp[RL],fun w1 _=>?_,by simp⟩
 cases B with
 | none=>rfl
 | some ad=>simp only[Builtin.firstCells,Nat.zero_mul];rfl
 rcases hr with ⟨_,rfl,_⟩ | ⟨h1,h2,h3,hx,hN,_,flat,F',cells,_,hr,hb,hsz,hc⟩
 simp at hn;omega
 have hF:=fc xs ho hr
 subst hF
 have J3:s=KJ:=by
  have hne:(xs.drop lo).take n≠[]:=by
   intro e
   have:=congrArg List.length e
   simp at this;omega
  obtain⟨v,hv⟩:=List.exists_mem_of_ne_nil _ hne
  rw[<- hs v hv,<- hN v (List.mem_of_mem_drop (List.mem_of_mem_take hv))]
 subst J3
 obtain⟨c1,M1,K1⟩:=ng xs lo hr
 obtain⟨c3,RS,Td⟩:=nj _ n M1
 have hl:c3.length=n*s:=by
  rw[gW _ RS,mX _ (fun x hx=>hN x (List.mem_of_mem_drop (List.mem_of_mem_take hx)))]
  have:((xs.drop lo).take n).length=n:=by simp;omega
  rw[this]
 refine⟨c3,RS,fun w1 L2=>?_,hl⟩
 have Vk:=hB (by omega)
 subst Vk
 simp only[Builtin.firstCells]
 rw[<- hl]
 refine run_loadCells_list w1 _ c3 (fun j v hv=>?_)
 rw[dr,L2,dy hb]
 have:=K1 j v (Td j v hv)
 rw[du xs lo hN (by omega)]at this
 have:=hc _ _ this
 simpa[Nat.add_assoc] using this
theorem lF(hs:s4 N Pb Kb A a w F){x:Operand}{C:Prop}{ys:List V}(h:LZ A x=some (C,ys))(hC:C){s:Nat}(D4:aG s ys)(ho:V.aD ys=false):
 ∃ (B:Option Addr) (c:Nat) (flat:List Value),a.eval x=.slice B ys.length c/\RL w Pb ys flat []/\
   (∀ w1:World,(∀ ad,w1.cell? ad=w.cell? ad)->(Builtin.firstCells s ys.length (a.eval x)).run P w1=.ok flat.toArray w1)/\flat.length=ys.length*s:=by
 obtain⟨Fx,hr⟩:=df hs x
 unfold LZ at h
 split at h
 rename_i full xs e
 simp only[Option.some.injEq,Prod.mk.injEq]at h
 obtain⟨_,rfl⟩:=h
 rw[e]at hr
 have hr:R w Pb (.sl full xs) [a.eval x] Fx:=hr
 have hF:Fx=[]:=hr.1
 subst hF
 obtain⟨B,c,flat,h1,h2,h3,h4⟩:=xR (P:=P) hr D4
 exact⟨B,c,flat,h1,h2,h3,h4⟩
 rename_i sz xs g o c e
 simp only[Option.some.injEq,Prod.mk.injEq]at h
 obtain⟨_,rfl⟩:=h
 rw[e]at hr
 have hr:R w Pb (.own sz xs g o c) [a.eval x] Fx:=hr
 have Rf:=hr
 obtain⟨B,flat,F',h1,h2,h3,h4,h5,h6⟩:=vj (P:=P) hr
 have hF:=fc xs ho h2
 subst hF
 by_cases hc:0<c
 obtain⟨_,Nq,_,_,hl⟩:=h4 hc
 by_cases he:xs=[]
 subst he
 exact⟨B,c,flat,h1,h2,fun w1 L2=>by
  have:=h3 w1 L2
  simpa[Builtin.firstCells,h1] using this,by simpa using hl⟩
 obtain⟨v,vs,rfl⟩:=List.exists_cons_of_ne_nil he
 have J3:s=sz:=by rw[<- D4 v (by simp),<- Nq v (by simp)]
 subst J3
 exact⟨B,c,flat,h1,h2,h3,hl⟩
 obtain⟨rfl,_,_,rfl⟩:=h5 (by omega)
 exact⟨B,c,[],h1,h2,fun w1 L2=>by
  have:=h3 w1 L2
  simpa[Builtin.firstCells,h1] using this,by simp⟩
 rename_i r p sz g o lo n c e
 rw[e]at hr
 obtain⟨_,hle,B,hv,hB⟩:=hr
 have hv:a.eval x=.slice B n c:=(List.cons.inj hv).1
 have key:∀ u Fo PL,R w Pb u PL Fo->ju lo n sz g o u=some (C,ys)->∃ (B:Option Addr) (c:Nat) (flat:List Value),a.eval x=.slice B ys.length c/\RL w Pb ys flat []/\
  (∀ w1:World,(∀ ad,w1.cell? ad=w.cell? ad)->(Builtin.firstCells s ys.length (a.eval x)).run P w1=.ok flat.toArray w1)/\flat.length=ys.length*s:=by
  intro u Fo PL Kh hu
  unfold ju at hu
  split at hu
  rename_i KJ xs g2 o2 c2
  simp only[Option.some.injEq,Prod.mk.injEq]at hu
  obtain⟨rfl,rfl⟩:=hu
  obtain⟨⟨rfl,rfl,rfl⟩,UR,Qq,_⟩:=hC
  obtain⟨flat,k1,k2,k3⟩:=DR (P:=P) Kh hle hB UR Qq D4
  have hlen:((xs.drop lo).take n).length=n:=by simp;omega
  rw[hlen]
  exact⟨B,c,flat,hv,k1,by rw[hv];exact k2,k3⟩
  simp at hu
 split at h
 rename_i i
 have LB:=hs.slot i
 unfold ju at h
 split at h
 rename_i KJ xs g2 o2 c2 hg
 rw[hg]at LB
 exact key (.own KJ xs g2 o2 c2) _ _ LB (by unfold ju;exact h)
 simp at h
 rename_i k p'
 split at h
 rename_i a0 b0 u x5
 obtain⟨F',cs,cells,hb,Kh,s3⟩:=iu hs x5
 exact key u F' cs Kh h
 simp at h
 simp at h
 simp at h
theorem nK{t:Nat}{sz:Nat}{xs:List V}{g o c:Nat}(h:A.get t=.own sz xs g o c):A.drop (.tmp t)=A.put (some t) .b9:=by simp[AS.drop,h,V.cB]
end
end Go.Abs
namespace Go.Abs
open Go Go.RowKit
def B8(A B:AS):Prop:=(∀ i,A.get i=B.get i)/\∀ k,lk k A.h=lk k B.h
theorem B8.le{A B:AS}(h:B8 A B):A.le B:=⟨fun i=>.inr (h.1 i),fun k=>.inr (h.2 k)⟩
theorem B8.symm{A B:AS}(h:B8 A B):B8 B A:=⟨fun i=>(h.1 i).symm,fun k=>(h.2 k).symm⟩
theorem B8.trans{A B C:AS}(h:B8 A B)(k:B8 B C):B8 A C:=⟨fun i=>(h.1 i).trans (k.1 i),fun i=>(h.2 i).trans (k.2 i)⟩
def OT(o:Oper):List Nat:=(o.after.toList.filter (Region.binds .any)).map (·.on)
section
variable {P:Program} {N:Nat} {ops:Array Oper}
theorem CF{α:Type}(t:Nat):∀ (l1 l2:List (Nat×α)),lk t (l1++l2)=match lk t l1 with | some v=>some v | none=>lk t l2
 | [],l2=>rfl
 | (k,v)::l1,l2=>by
   simp only[List.cons_append,lk]
   by_cases h:t=k
   rw[if_pos h,if_pos h]
   rw[if_neg h,if_neg h];exact CF t l1 l2
def wt(ops:Array Oper)(t k:Nat):Bool:=(ops[k]?).bind (·.dst)==some t
def O3(listed:Array Bool)(n:Nat):Nat:=((List.range n).filter fun i=>!listed.getD i true).length
theorem DQ{listed:Array Bool}{n:Nat}(h:O3 listed n=0):∀ j,j<n->listed.getD j true=true:=by
 intro j hj
 unfold O3 at h
 have:=List.eq_nil_of_length_eq_zero h
 rw[List.filter_eq_nil_iff]at this
 simpa using this j (by simpa using hj)
theorem Gf{listed:Array Bool}{n i:Nat}(hi:i<n)(hs:listed.size=n)(hu:listed.getD i true=false):O3 (listed.setIfInBounds i true) n+1=O3 listed n:=by
 unfold O3
 have h:∀ m,m<=n->((List.range m).filter fun j=>!(listed.setIfInBounds i true).getD j true).length+(if i<m then 1 else 0)=((List.range m).filter fun j=>!listed.getD j true).length:=by
  intro m
  induction m with
  | zero=>simp
  | succ m ih=>
    intro hm
    have ih:=ih (by omega)
    rw[List.range_succ,List.filter_append,List.filter_append,List.length_append,List.length_append]
    by_cases he:m=i
    subst he
    have e1:(listed.setIfInBounds m true).getD m true=true:=by simp[Array.getD]
    rw[if_neg (by omega)]at ih
    rw[List.filter_cons_of_neg (by rw[e1];decide),List.filter_cons_of_pos (by rw[hu];rfl),if_pos (by omega)]
    simp only[List.filter_nil,List.length_cons,List.length_nil];omega
    have e1:(listed.setIfInBounds i true).getD m true=listed.getD m true:=getD_set_ne true (Ne.symm he)
    have e2:([m].filter fun j=>!(listed.setIfInBounds i true).getD j true).length=([m].filter fun j=>!listed.getD j true).length:=by
     cases hb:listed.getD m true with
     | true=>rw[List.filter_cons_of_neg (by rw[e1,hb];decide),List.filter_cons_of_neg (by rw[hb];decide)];rfl
     | false=>rw[List.filter_cons_of_pos (by rw[e1,hb];rfl),List.filter_cons_of_pos (by rw[hb];rfl)];rfl
    rw[e2]
    by_cases hlt:i<m
    rw[if_pos hlt]at ih;rw[if_pos (by omega)];omega
    rw[if_neg hlt]at ih;rw[if_neg (by omega)];omega
 have:=h n (Nat.le_refl _)
 rw[if_pos hi]at this
 exact this
end
end Go.Abs
namespace Go.Abs
open Go Go.RowKit
def IX(P:Program)(N:Nat)(ops:Array Oper)(El:List Nat)(U:Nat×Nat×Nat->AS->AS)(o:Oper)(A:AS):Prop:=
 ∀ A':AS,(∀ t,t∈o.looksAt ops\/t∈El->A'.get t=A.get t)->(∀ k,lk k A'.h=lk k A.h)->∀ K:AS->Prop,(∀ gh,K (U gh A'))->D5 P N o A' K
def gJ(ops:Array Oper):Nat->Nat->Nat->Bool
 | 0,_,_=>false
 | n+1,j,i=>match ops[j]? with
   | some o=>(OT o).any fun k=>k==i||gJ ops n k i
   | none=>false
theorem jy{ops:Array Oper}{L:Nat->Bool}(hcl:∀ k o,ops[k]? =some o->L k=true->∀ j,j∈OT o->L j=true):∀ (n j i:Nat),gJ ops n j i=true->L j=true->L i=true
 | 0,_,_,h,_=>by simp[gJ]at h
 | n+1,j,i,h,hj=>by
   simp only[gJ]at h
   split at h
   rename_i o ho
   rw[List.any_eq_true]at h
   obtain⟨k,hk,h⟩:=h
   have L4:=hcl j o ho hj k hk
   rw[Bool.or_eq_true,beq_iff_eq]at h
   rcases h with rfl | h
   exact L4
   exact jy hcl n k i h L4
   simp at h
structure UOk (U:Nat×Nat×Nat->AS->AS) (Sl Hl:List Nat) (d:Nat):Prop where
 g:∀ gh B t,t ∉ Sl->(U gh B).get t=B.get t
 h:∀ gh B k,k ∉ Hl->lk k (U gh B).h=lk k B.h
 c:∀ gh B B',B8 B B'->B8 (U gh B) (U gh B')
 p:∀ gh B t v,t ∉ Sl->B8 (U gh (B.put (some t) v)) ((U gh B).put (some t) v)
 d:∀ gh B v,B8 (U gh (B.put (some d) v)) (U gh B)
 q:∀ gh B k gv,k ∉ Hl->B8 (U gh ⟨B.t,(k,gv)::B.h⟩) ⟨(U gh B).t,(k,gv)::(U gh B).h⟩
section
variable {P:Program} {N:Nat} {ops:Array Oper}
end
end Go.Abs
namespace Go.Abs
open Go Go.RowKit
structure M' where
 Tn:Bool
 El:List Nat
 fr:Option (List Nat)
 Sl:List Nat
 Hl:List Nat
structure ZT (P:Program) where
 T:Nat
 v:V
 ok:lH P T v
def L9(d:Nat)(v:V)(g:Nat)(B:AS):AS:=⟨(d,.ptr (.key d) [] g 0)::B.t,(d,(g,v))::B.h⟩
def aY(ops:Array Oper)(tb:List (Nat×M'))(i:Nat):M':=match lk i tb with
 | some e=>e
 | none=>match ops[i]? with
   | some o=>⟨false,[],(match o.op with | .load _ _=>none | _=>some []),o.dst.toList,[]⟩
   | none=>⟨false,[],none,[],[]⟩
def fa(ops:Array Oper)(tb:List (Nat×M'))(i:Nat):List Nat:=(match ops[i]? with | some o=>o.looksAt ops | none=>[])++(aY ops tb i).El
def Se(A' A:AS)(fs:List Nat):Prop:= ∀ t,t∈fs->A'.get t=A.get t
def hM:Nat:=1000000
def Ku(h:List (Nat×(Nat×V)))(q:Nat):Option (Nat×Nat×V×Nat):=match lk (q / 100) h with
 | some (g,v)=>match V.at g 0 v [q % 100] with
   | some (g',o',.own sz xs g1 o1 c)=>some (g',o',.own sz [] g1 o1 c,xs.length)
   | _=>none
 | none=>none
theorem vY{h h':List (Nat×(Nat×V))}{q:Nat}(e:lk (q / 100) h'=lk (q / 100) h):Ku h' q=Ku h q:=by unfold Ku;rw[e]
def Ns(A' A:AS)(k:Nat):Prop:=if Nat.blt k hM=true then lk k A'.h=lk k A.h else Ku A'.h (k-hM)=Ku A.h (k-hM)
theorem sQ{A' A:AS}(h:∀ k,lk k A'.h=lk k A.h)(k:Nat):Ns A' A k:=by
 unfold Ns
 split
 exact h k
 exact vY (h _)
theorem Ns.trans{A B C:AS}{k:Nat}(h1:Ns A B k)(h2:Ns B C k):Ns A C k:=by
 unfold Ns at *
 split
 rename_i c;rw[if_pos c]at h1 h2;exact Eq.trans h1 h2
 rename_i c;rw[if_neg c]at h1 h2;exact Eq.trans h1 h2
def PN(A' A:AS):Option (List Nat)->Prop
 | none=> ∀ k,lk k A'.h=lk k A.h
 | some fr=> ∀ k,k∈fr->Ns A' A k
def PQ(P:Program)(N:Nat)(ops:Array Oper)(o:Oper)(A:AS)(v:V)(fs:List Nat)(fr:Option (List Nat)):Prop:=
 ∀ A':AS,Se A' A fs->PN A' A fr->gd ops o A' (D5 P N o A' (fun B=>B8 B (A'.put o.dst v))) (bX N o.dst/\∀ w Pb,RV w Pb v undef [])
def Sf(P:Program)(N:Nat)(o:Oper)(A:AS){G:Type}(U:G->AS->AS)(fs:List Nat)(fr:Option (List Nat)):Prop:=
 o.guard=none/\∀ A':AS,Se A' A fs->PN A' A fr->D5 P N o A' (fun B=> ∃ g,B8 B (U g A'))
structure OY {G:Type} (U:G->AS->AS) (fs Sl Hl:List Nat):Prop where
 g:∀ g B t,t ∉ Sl->(U g B).get t=B.get t
 h:∀ g B k,k ∉ Hl->lk k (U g B).h=lk k B.h
 c:∀ g B B',B8 B B'->B8 (U g B) (U g B')
 p:∀ g B t v,t ∉ Sl->t ∉ fs->B8 (U g (B.put (some t) v)) ((U g B).put (some t) v)
 q:∀ g B k gv,k ∉ Hl->B8 (U g ⟨B.t,(k,gv)::B.h⟩) ⟨(U g B).t,(k,gv)::(U g B).h⟩
structure RB {G:Type} (U:G->AS->AS) (fs Sl Hl:List Nat):Prop extends OY U fs Sl Hl where
 s:∀ q,hM+q∈Hl->∀ g B,Ku (U g B).h q=Ku B.h q
def KI(P:Program)(N:Nat)(ops:Array Oper)(tb:List (Nat×M'))(zs:List (Nat×ZT P)):List Nat->AS->(AS->Prop)->Prop
 | [],A,K=>K A
 | i::l,A,K=> ∃ o,ops[i]? =some o/\match lk i zs with
  | some z=> ∀ g,KI P N ops tb zs l (L9 (o.dst.getD 0) z.v g A) K
  | none=>match (aY ops tb i).Tn with
   | false=>(aY ops tb i).Sl=o.dst.toList/\(aY ops tb i).Hl=[]/\∃ v,PQ P N ops o A v (fa ops tb i) (aY ops tb i).fr/\KI P N ops tb zs l (A.put o.dst v) K
   | true=> ∃ (G:Type) (U:G->AS->AS),Sf P N o A U (fa ops tb i) (aY ops tb i).fr/\RB U (fa ops tb i) (aY ops tb i).Sl (aY ops tb i).Hl/\∀ g,KI P N ops tb zs l (U g A) K
def bM(a b:List Nat):Bool:=a.all fun x=>!b.contains x
def Ad(a:List Nat):Option (List Nat)->Bool
 | none=>a.isEmpty
 | some b=>b.all fun x=>if Nat.blt x hM=true then !a.contains x else !a.contains ((x-hM) / 100)||a.contains x
def indep(ops:Array Oper)(tb:List (Nat×M')){P:Program}(zs:List (Nat×ZT P))(p i:Nat):Bool:=
 (lk i zs).isNone&&!(aY ops tb p).Tn&&bM (aY ops tb p).Sl (fa ops tb i)&&bM (aY ops tb i).Sl (fa ops tb p)&&bM (aY ops tb p).Sl (aY ops tb i).Sl&&Ad (aY ops tb i).Hl (aY ops tb p).fr
def nn(ops:Array Oper)(tb:List (Nat×M')){P:Program}(zs:List (Nat×ZT P))(p i:Nat):Bool:=
 match lk i zs,ops[i]? with
 | some _,some o=>match lk p zs,ops[p]? with
   | some _,some o'=>o'.dst.getD 0 != o.dst.getD 0
   | none,_=>!(aY ops tb p).Sl.contains (o.dst.getD 0)&&!(fa ops tb p).contains (o.dst.getD 0)&&!(aY ops tb p).Hl.contains (o.dst.getD 0)&&(match (aY ops tb p).fr with | some l=>l.all (fun x=>if Nat.blt x hM=true then x != o.dst.getD 0 else (x-hM) / 100 != o.dst.getD 0) | none=>false)
   | _,none=>false
 | _,_=>false
def oN(ops:Array Oper)(m:Nat)(tb:List (Nat×M')){P:Program}(zs:List (Nat×ZT P)):List Nat->Bool
 | []=>true
 | p::l=>(l.all fun i=>(match lk p zs with | none=>indep ops tb zs p i | some _=>false)||gJ ops 64 i p||nn ops tb zs p i)&&oN ops m tb zs l
def An(N:Nat)(ops:Array Oper){P:Program}(zs:List (Nat×ZT P)):Bool:=zs.all fun x=>match ops[x.1]? with
 | some o=>(match o.op,o.dst with | .alloc T,some d=>T==x.2.T&&Nat.blt d N | _,_=>false)&&o.guard.isNone
 | none=>false
def KK(l:List Nat):Bool:=match l with
 | []=>true
 | k::r=>!r.contains k&&KK r
def Ab(ops:Array Oper)(m:Nat)(pl:List Nat):Bool:=
 (pl.all fun i=>Nat.blt i m)&&KK pl&&((List.range m).all fun i=>pl.contains i)&&Nat.ble m ops.size&&
 (ops.toList.zipIdx.all fun (o,i)=>(OT o).all (fun k=>Nat.blt k i))&&
 ((List.range (ops.size-m)).all fun q=>match ops[m+q]? with
   | some _=>(List.range (m+q)).all fun k=>gJ ops 64 (m+q) k
   | none=>false)
section
variable {P:Program} {N:Nat} {ops:Array Oper} {tb:List (Nat×M')} {zs:List (Nat×ZT P)}
theorem tJ{a b:List Nat}(h:bM a b=true):∀ x,x∈a->x ∉ b:=fun x hx=>by
 unfold bM at h
 rw[List.all_eq_true]at h
 simpa using h x hx
theorem B8.iP{A:AS}:B8 A A:=⟨fun _=>rfl,fun _=>rfl⟩
theorem Hf{A B:AS}{d:Option Nat}{v:V}(h:B8 A B):B8 (A.put d v) (B.put d v):=by
 cases d with
 | none=>exact h
 | some d'=>exact⟨fun t=>by rw[AS.ay,AS.ay];split
                            rfl
                            exact h.1 t,h.2⟩
theorem PQ.congr{o:Oper}{A B:AS}{v:V}{fs:List Nat}{fr:Option (List Nat)}(h:PQ P N ops o A v fs fr)(h1:Se B A fs)(h2:PN B A fr):PQ P N ops o B v fs fr:=fun A' k1 k2=>
 h A' (fun t ht=>(k1 t ht).trans (h1 t ht)) (by
   cases fr with
   | none=>exact fun k=>(k2 k).trans (h2 k)
   | some l=>exact fun k hk=>(k2 k hk).trans (h2 k hk))
theorem Sf.congr{G:Type}{U:G->AS->AS}{o:Oper}{A B:AS}{fs:List Nat}{fr:Option (List Nat)}(h:Sf P N o A U fs fr)(h1:Se B A fs)(h2:PN B A fr):Sf P N o B U fs fr:=⟨h.1,fun A' k1 k2=>
 h.2 A' (fun t ht=>(k1 t ht).trans (h1 t ht)) (by
  cases fr with
  | none=>exact fun k=>(k2 k).trans (h2 k)
  | some l=>exact fun k hk=>(k2 k hk).trans (h2 k hk))⟩
theorem sy{A B:AS}(h:A.h=B.h)(fr:Option (List Nat)):PN A B fr:=by
 cases fr with
 | none=>exact fun k=>by rw[h]
 | some l=>exact fun k _=>sQ (fun k=>by rw[h]) k
theorem Ci{A B:AS}(h:B8 A B)(fr:Option (List Nat)):PN A B fr:=by
 cases fr with
 | none=>exact h.2
 | some l=>exact fun k _=>sQ h.2 k
theorem GZ{G:Type}{U:G->AS->AS}{fs Sl Hl fr:List Nat}(hU:RB U fs Sl Hl)(hd:Ad Hl (some fr)=true){k:Nat}(hk:k∈fr)(g:G)(B:AS):Ns (U g B) B k:=by
 have hx:=List.all_eq_true.1 hd k hk
 unfold Ns
 split
 rename_i c
 rw[if_pos c]at hx
 exact hU.h g B k (by simpa using hx)
 rename_i c
 rw[if_neg c,Bool.or_eq_true]at hx
 have RX:hM+(k-hM)=k:=by
  have: ¬ k<hM:=fun h=>c (by simpa[Nat.blt_eq] using h)
  omega
 rcases hx with hx | hx
 exact vY (hU.h g B _ (by simpa using hx))
 exact hU.s _ (by rw[RX];simpa using hx) g B
theorem mF{A:AS}{d:Option Nat}{v:V}:(A.put d v).h=A.h:=by cases d <;> rfl
theorem iQ{A:AS}{d:Option Nat}{v:V}{t:Nat}(h:t ∉ d.toList):(A.put d v).get t=A.get t:=by
 cases d with
 | none=>rfl
 | some d'=>rw[AS.ay,if_neg (by simpa using h)]
theorem Bu{d:Nat}{v:V}{g:Nat}{A B:AS}(h:B8 A B):B8 (L9 d v g A) (L9 d v g B):=
 ⟨fun t=>by simp only[L9,AS.get,lk];split
            rfl
            exact h.1 t,fun k=>by simp only[L9,lk];split
                                  rfl
                                  exact h.2 k⟩
theorem dR{K:AS->Prop}(hK:∀ A B,B8 A B->K A->K B):∀ (l:List Nat) {A B:AS},B8 A B->KI P N ops tb zs l A K->KI P N ops tb zs l B K
 | [],A,B,h,hA=>hK A B h hA
 | i::l,A,B,h,hA=>by
   obtain⟨o,ho,hA⟩:=hA
   refine⟨o,ho,?_⟩
   split at hA
   exact fun g=>dR hK l (Bu h) (hA g)
   split at hA
   obtain⟨e1,e2,v,h1,h2⟩:=hA
   exact⟨e1,e2,v,h1.congr (fun t _=>(h.1 t).symm) (Ci h.symm _),dR hK l (Hf h) h2⟩
   obtain⟨G,U,h1,h2,h3⟩:=hA
   exact⟨G,U,h1.congr (fun t _=>(h.1 t).symm) (Ci h.symm _),h2,fun g=>dR hK l (h2.c g _ _ h) (h3 g)⟩
theorem CZ{K:AS->Prop}(hK:∀ A B,B8 A B->K A->K B){p i:Nat}{l:List Nat}{A:AS}(hp:lk p zs=none)(hi:indep ops tb zs p i=true)(h:KI P N ops tb zs (p::i::l) A K):KI P N ops tb zs (i::p::l) A K:=by
 unfold indep at hi
 simp only[Bool.and_eq_true,Bool.not_eq_true']at hi
 obtain⟨⟨⟨⟨⟨hz,h1⟩,h2⟩,h3⟩,h4⟩,h5⟩:=hi
 have hz:lk i zs=none:=by simpa using hz
 have h2:=tJ h2
 have h3:=tJ h3
 have h4:=tJ h4
 obtain⟨op,Ki,h⟩:=h
 rw[hp]at h
 simp only at h
 rw[h1]at h
 obtain⟨e1,e2,v,k1,oi,hoi,h⟩:=h
 refine⟨oi,hoi,?_⟩
 rw[hz]at h ⊢
 simp only at h ⊢
 rw[e1]at h2 h4
 have g1:Se A (A.put op.dst v) (fa ops tb i):=fun t ht=>(iQ (fun c=>h2 t c ht)).symm
 split at h
 rename_i he
 obtain⟨f1,f2,v',k2,k3⟩:=h
 rw[f1]at h3 h4
 refine⟨f1,f2,v',k2.congr g1 (sy mF.symm _),op,Ki,?_⟩
 rw[hp]
 simp only
 rw[h1]
 refine⟨e1,e2,v,k1.congr (fun t ht=>iQ (fun c=>h3 t c ht)) (sy mF _),?_⟩
 refine dR hK l ⟨fun t=>?_,fun k=>by rw[mF,mF,mF,mF]⟩ k3
 by_cases c1:t∈oi.dst.toList
 cases hd:oi.dst with
 | none=>rw[hd]at c1;simp at c1
 | some d=>
   rw[hd]at c1
   have c1:t=d:=by simpa using c1
   subst c1
   have hn:t ∉ op.dst.toList:=fun c=>h4 t c (by rw[hd];simp)
   rw[AS.ay,if_pos rfl,iQ hn,AS.ay,if_pos rfl]
 rw[iQ c1]
 by_cases c2:t∈op.dst.toList
 cases hd:op.dst with
 | none=>rw[hd]at c2;simp at c2
 | some d=>
   rw[hd]at c2
   have c2:t=d:=by simpa using c2
   subst c2
   rw[AS.ay,if_pos rfl,AS.ay,if_pos rfl]
 rw[iQ c2,iQ c2,iQ c1]
 obtain⟨G,U,k2,k3,k4⟩:=h
 refine⟨G,U,k2.congr g1 (sy mF.symm _),k3,fun g=>⟨op,Ki,?_⟩⟩
 rw[hp]
 simp only
 rw[h1]
 refine⟨e1,e2,v,k1.congr (fun t ht=>k3.g g A t (fun c=>h3 t c ht)) ?_,?_⟩
 cases hf:(aY ops tb p).fr with
 | none=>
   rw[hf]at h5
   have:(aY ops tb i).Hl=[]:=by simpa[Ad] using h5
   exact fun k=>k3.h g A k (by rw[this];simp)
 | some fr=>
   rw[hf]at h5
   exact fun k hk=>GZ k3 h5 hk g A
 refine dR hK l ?_ (k4 g)
 cases hd:op.dst with
 | none=>exact B8.iP
 | some d=>exact k3.p g A d v (fun c=>h4 d (by rw[hd];simp) c) (fun c=>h2 d (by rw[hd];simp) c)
theorem uh{d:Nat}{v:V}{g t:Nat}{A:AS}(h:t≠d):(L9 d v g A).get t=A.get t:=by simp only[L9,AS.get,lk];rw[if_neg h]
theorem BN{d:Nat}{v:V}{g k:Nat}{A:AS}(h:k≠d):lk k (L9 d v g A).h=lk k A.h:=by simp only[L9,lk];rw[if_neg h]
theorem Gm{d:Nat}{v:V}{g:Nat}{A:AS}{dd:Option Nat}{u:V}(h:d ∉ dd.toList):B8 (L9 d v g (A.put dd u)) ((L9 d v g A).put dd u):=by
 cases dd with
 | none=>exact B8.iP
 | some d'=>
   have hne:d≠d':=by simpa using h
   refine⟨fun t=>?_,fun k=>rfl⟩
   rw[AS.ay]
   by_cases c:t=d
   subst c
   rw[if_neg hne];simp only[L9,AS.get,lk,if_true]
   rw[uh c,uh c,AS.ay]
theorem BA{K:AS->Prop}(hK:∀ A B,B8 A B->K A->K B){p i:Nat}{l:List Nat}{A:AS}(hi:nn ops tb zs p i=true)(h:KI P N ops tb zs (p::i::l) A K):KI P N ops tb zs (i::p::l) A K:=by
 unfold nn at hi
 split at hi
 case h_2=>simp at hi
 rename_i z o hz ho
 obtain⟨op,Ki,h⟩:=h
 have inner:∀ {B:AS},KI P N ops tb zs (i::l) B K->∀ g,KI P N ops tb zs l (L9 (o.dst.getD 0) z.v g B) K:=fun h g=>by
  obtain⟨o',Nl,h⟩:=h
  rw[ho]at Nl;obtain rfl:=Option.some.inj Nl
  rw[hz]at h
  exact h g
 refine⟨o,ho,?_⟩
 rw[hz]
 refine fun g=>⟨op,Ki,?_⟩
 split at hi
 rename_i z' o' Um SX
 rw[Ki]at SX;obtain rfl:=Option.some.inj SX
 rw[Um]at h ⊢
 intro g'
 have hne:op.dst.getD 0≠o.dst.getD 0:=by simpa using hi
 refine dR hK l ⟨fun t=>?_,fun k=>?_⟩ (inner (h g') g)
 simp only[L9,AS.get,lk]
 by_cases c:t=o.dst.getD 0
 rw[if_pos c,if_neg (fun c2=>hne (c2.symm.trans c)),if_pos c]
 rw[if_neg c,if_neg c]
 simp only[L9,lk]
 by_cases c:k=o.dst.getD 0
 rw[if_pos c,if_neg (fun c2=>hne (c2.symm.trans c)),if_pos c]
 rw[if_neg c,if_neg c]
 rename_i Um
 simp only[Bool.and_eq_true,Bool.not_eq_true',List.contains_eq_mem,decide_eq_false_iff_not]at hi
 obtain⟨⟨⟨i1,i2⟩,i3⟩,i4⟩:=hi
 rw[Um]at h ⊢
 simp only at h ⊢
 have gS:Se (L9 (o.dst.getD 0) z.v g A) A (fa ops tb p):=fun t ht=>uh fun c=>i2 (by rw[<- c];exact ht)
 have gR:PN (L9 (o.dst.getD 0) z.v g A) A (aY ops tb p).fr:=by
  split at i4
  rename_i l' hl
  rw[hl]
  intro k hk
  have i5:=List.all_eq_true.1 i4 k hk
  unfold Ns
  split
  rename_i c
  rw[if_pos c]at i5
  exact BN (by simpa using i5)
  rename_i c
  rw[if_neg c]at i5
  exact vY (BN (by simpa using i5))
  simp at i4
 split at h
 obtain⟨e1,e2,v,k1,h⟩:=h
 refine⟨e1,e2,v,k1.congr gS gR,?_⟩
 exact dR hK l (Gm (by rw[<- e1];exact i1)) (inner h g)
 obtain⟨G,U,k1,k2,h⟩:=h
 refine⟨G,U,k1.congr gS gR,k2,fun x=>dR hK l ?_ (inner (h x) g)⟩
 have e1:=k2.q x ⟨(o.dst.getD 0,.ptr (.key (o.dst.getD 0)) [] g 0)::A.t,A.h⟩ (o.dst.getD 0) (g,z.v) i3
 have e2:=k2.p x A (o.dst.getD 0) (.ptr (.key (o.dst.getD 0)) [] g 0) i1 i2
 refine B8.trans ?_ e1.symm
 refine⟨fun t=>?_,fun k=>?_⟩
 exact(e2.1 t).symm
 simp only[L9,lk]
 split
 rfl
 exact(e2.2 k).symm
 simp at hi
theorem wi{K:AS->Prop}(hK:∀ A B,B8 A B->K A->K B){i:Nat}{l2:List Nat}:∀ (l1:List Nat) {A:AS},(∀ p,p∈l1->(lk p zs=none/\indep ops tb zs p i=true)\/nn ops tb zs p i=true)->KI P N ops tb zs (l1++i::l2) A K->KI P N ops tb zs (i::(l1++l2)) A K
 | [],A,_,h=>h
 | p::l1,A,hi,h=>by
   have ih:∀ A,KI P N ops tb zs (l1++i::l2) A K->KI P N ops tb zs (i::(l1++l2)) A K:=fun A=>wi hK l1 (fun q hq=>hi q (by simp[hq]))
   have h2:KI P N ops tb zs (p::i::(l1++l2)) A K:=by
    obtain⟨o,ho,h⟩:=h
    refine⟨o,ho,?_⟩
    split at h
    exact fun g=>ih _ (h g)
    split at h
    obtain⟨e1,e2,v,h1,h2⟩:=h;exact⟨e1,e2,v,h1,ih _ h2⟩
    obtain⟨G,U,h1,h2,h3⟩:=h;exact⟨G,U,h1,h2,fun g=>ih _ (h3 g)⟩
   rcases hi p (by simp) with h | h
   exact CZ hK h.1 h.2 h2
   exact BA hK h h2
theorem yU{α:Type}:∀ {l:List (Nat×α)} {k:Nat} {v:α},lk k l=some v->(k,v)∈l
 | [],_,_,h=>by simp[lk]at h
 | (k0,v0)::l,k,v,h=>by
   simp only[lk]at h
   split at h
   rename_i e;subst e;cases h;simp
   exact List.mem_cons_of_mem _ (yU h)
theorem yC{m:Nat}:∀ {pl l1 l2:List Nat} {i p:Nat},oN ops m tb zs pl=true->pl=l1++i::l2->p∈l1->((lk p zs=none/\indep ops tb zs p i=true)\/nn ops tb zs p i=true)\/gJ ops 64 i p=true
 | [],l1,l2,i,p,_,e,_=>by simp at e
 | q::pl,[],l2,i,p,_,_,hp=>by simp at hp
 | q::pl,x::l1,l2,i,p,h,e,hp=>by
   simp only[List.cons_append,List.cons.injEq]at e
   obtain⟨rfl,rfl⟩:=e
   simp only[oN,Bool.and_eq_true,List.all_eq_true]at h
   rcases List.mem_cons.1 hp with rfl | hp
   have:=h.1 i (by simp)
   rw[Bool.or_eq_true,Bool.or_eq_true]at this
   rcases this with (h | h) | h
   split at h
   exact .inl (.inl ⟨by assumption,h⟩)
   simp at h
   exact .inr h
   exact .inl (.inr h)
   exact yC h.2 rfl hp
theorem mS{m:Nat}(f:Nat->Bool):∀ {pl:List Nat},oN ops m tb zs pl=true->oN ops m tb zs (pl.filter f)=true
 | [],_=>rfl
 | p::pl,h=>by
   simp only[oN,Bool.and_eq_true,List.all_eq_true]at h
   simp only[List.filter_cons]
   split
   simp only[oN,Bool.and_eq_true,List.all_eq_true]
   exact⟨fun i hi=>h.1 i (List.mem_filter.1 hi).1,mS f h.2⟩
   exact mS f h.2
theorem wN{L:Nat->Bool}(hcl:∀ k o,ops[k]? =some o->L k=true->∀ j,j∈OT o->L j=true){i k:Nat}{o:Oper}(ho:ops[i]? =some o)(TT:∀ j,j∈OT o->L j=true)(h:gJ ops 64 i k=true):L k=true:=by
 have h:gJ ops (63+1) i k=true:=h
 generalize (63:Nat)=n at h
 simp only[gJ,ho]at h
 rw[List.any_eq_true]at h
 obtain⟨q,hq,h⟩:=h
 rw[Bool.or_eq_true,beq_iff_eq]at h
 rcases h with rfl | h
 exact TT _ hq
 exact jy hcl n q k h (TT _ hq)
theorem uz{id m:Nat} {pl:List Nat} {A:AS} {Q:Exit->AS->Prop} (hm:P.follows .mixedOrders=true) (hc:oN ops m tb zs pl=true) (Vb:An N ops zs=true) (OA:Ab ops m pl=true)
 (h:KI P N ops tb zs pl A (fun B=> ∃ B',B8 B B'/\WL P N ops (ops.toList.drop m) B' (Q .normal))):T P N (.region id ops true) A Q:=by
 unfold Ab at OA
 simp only[Bool.and_eq_true,List.all_eq_true]at OA
 obtain⟨⟨⟨⟨⟨p1,p2⟩,p3⟩,p4⟩,p5⟩,p6⟩:=OA
 have VZ:=Nat.le_of_ble_eq_true p4
 have Rh:∀ i,i∈pl↔i<m:=fun i=>⟨fun hi=>Nat.lt_of_succ_le (Nat.le_of_ble_eq_true (p1 i hi)),fun hi=>by have:=p3 i (List.mem_range.2 hi);simpa using this⟩
 have hnd:pl.Nodup:=by
  have:∀ l:List Nat,KK l=true->l.Nodup:=by
   intro l
   induction l with
   | nil=>intro _;exact List.nodup_nil
   | cons a l ih=>
     intro h
     simp only[KK,Bool.and_eq_true,Bool.not_eq_true',List.contains_eq_mem,decide_eq_false_iff_not]at h
     exact List.nodup_cons.2 ⟨h.1,ih h.2⟩
  exact this pl p2
 have OK:∀ i o,ops[i]? =some o->∀ k,k∈OT o->k<i:=fun i o ho k hk=>by
  have hmz:(o,i)∈ops.toList.zipIdx:=by rw[List.mk_mem_zipIdx_iff_getElem?];simpa using ho
  have:=p5 (o,i) hmz
  simp only[List.all_eq_true]at this
  exact Nat.lt_of_succ_le (Nat.le_of_ble_eq_true (this k hk))
 have SJ:∀ i o,ops[i]? =some o->m<=i->∀ k,k<i->gJ ops 64 i k=true:=fun i o ho hi k hk=>by
  have hin:i<ops.size:=(Array.getElem?_eq_some_iff.1 ho).1
  have:=p6 (i-m) (List.mem_range.2 (by omega))
  rw[show m+(i-m)=i from by omega,ho]at this
  simp only[List.all_eq_true]at this
  simpa using this k (List.mem_range.2 hk)
 let Kt:AS->Prop:=fun B=> ∃ B',B8 B B'/\WL P N ops (ops.toList.drop m) B' (Q .normal)
 have Vf:∀ A B,B8 A B->Kt A->Kt B:=fun A B hAB ⟨B',h1,h2⟩=>⟨B',hAB.symm.trans h1,h2⟩
 intro Pb Kb a w F hs
 refine wp_region_any hm ?_
 have e9:s4 N Pb Kb A a { w with drawn:=w.drawn+1 } F:=hs.grow (fun _ _=>rfl) (Nat.le_refl _) (fun _ h=>h) (fun g h=>.inl h) hs.sub
 obtain⟨w0,VR⟩:∃ w0:World,w0={ w with drawn:=w.drawn+1 }:=⟨_,rfl⟩
 have No:w8 Kb w w0:=by rw[VR];exact⟨rfl,rfl,rfl,Nat.le_refl _,fun _ _=>rfl,fun _ c _ _ h=>⟨c,h,rfl⟩⟩
 rw[<- VR]at e9 ⊢
 let rem (listed:Array Bool):List Nat:=pl.filter fun j=>!listed.getD j true
 let Ph (listed:Array Bool) (A':AS):Prop:=
  (rem listed≠[]/\KI P N ops tb zs (rem listed) A' Kt)\/
  (∃ k,m<=k/\k<=ops.size/\(∀ j,j<ops.size->listed.getD j true=decide (j<k))/\WL P N ops (ops.toList.drop k) A' (Q .normal))
 have key:∀ fuel (listed:Array Bool) a w',listed.size=ops.size->O3 listed ops.size=fuel->
  (∀ k o,ops[k]? =some o->listed.getD k true=true->∀ j,j∈OT o->listed.getD j true=true)->Nx N Pb Kb w0 (Ph listed) a w'->
  wpAny P .any ops (fun e a' w'=>Nx N Pb Kb w (Q e) a' w') fuel listed a w':=by
  intro fuel
  induction fuel with
  | zero=>
    intro listed a w' hsz hu hcl hn
    have D4:=DQ hu
    refine⟨?_,(Nx.step (fun _ h=>h) (fun _ h=>h) (fun _ h=>.inl h) No hn).mono fun A' Tj=>?_⟩
    rw[List.eq_nil_iff_forall_not_mem]
    intro j hj
    rw[mem_ready]at hj
    obtain⟨h0,o,ho,_⟩:=hj
    have:=D4 j (Array.getElem?_eq_some_iff.1 ho).1
    rw[h0]at this;cases this
    rcases Tj with ⟨hne,_⟩ | ⟨k,M6,Mb,S6,hw⟩
    exfalso
    apply hne
    rw[List.filter_eq_nil_iff]
    intro j hj
    rw[D4 j (by have:=(Rh j).1 hj;omega)];simp
    have:k=ops.size:=by
     rcases Nat.lt_or_ge k ops.size with h | h
     have:=S6 k h;rw[D4 k h]at this;simp at this
     omega
    subst this
    rw[List.drop_eq_nil_of_le (by simp)]at hw
    exact hw
  | succ fuel ih=>
    intro listed a w' hsz hu hcl hn
    have Pw:∀ j,j<ops.size->listed.getD j false=listed.getD j true:=fun j hj=>by
     have hj':j<listed.size:=by omega
     simp[Array.getD,hj']
    constructor
    intro hr
    exfalso
    have hex:∃ j,j<ops.size/\listed.getD j true=false:=by
     refine Classical.byContradiction fun hne=>?_
     have:O3 listed ops.size=0:=by
      unfold O3
      rw[List.filter_eq_nil_iff.2]
      rfl
      intro j hj
      simp only[List.mem_range]at hj
      cases hb:listed.getD j true with
      | true=>simp
      | false=>exact absurd ⟨j,hj,hb⟩ hne
     omega
    have UO:∀ n,∀ j,j<=n->j<ops.size->listed.getD j true=false->∃ j',j'<ops.size/\listed.getD j' true=false/\∀ i,i<j'->listed.getD i true=true:=by
     intro n
     induction n with
     | zero=>intro j hj h1 h2;exact⟨j,h1,h2,fun i hi=>by omega⟩
     | succ n ihn=>
       intro j hj h1 h2
       by_cases VT:∃ i,i<j/\listed.getD i true=false
       obtain⟨i,hi,hf⟩:=VT;exact ihn i (by omega) (by omega) hf
       exact⟨j,h1,h2,fun i hi=>by
        cases hb:listed.getD i true with
        | true=>rfl
        | false=>exact absurd ⟨i,hi,hb⟩ VT⟩
    obtain⟨j,TO,Rr⟩:=hex
    obtain⟨j',h1,h2,h3⟩:=UO j j (Nat.le_refl _) TO Rr
    have ho:ops[j']? =some ops[j']:=by simp[h1]
    have:j'∈Region.ready .any ops listed:=by
     rw[mem_ready]
     refine⟨h2,_,ho,fun e he hb=>?_⟩
     have hlt:=OK j' _ ho e.on (by simp only[OT,List.mem_map,List.mem_filter];exact⟨e,⟨by simpa using he,hb⟩,rfl⟩)
     rw[Pw _ (by omega)];exact h3 _ hlt
    rw[hr]at this;cases this
    intro i hi
    rw[mem_ready]at hi
    obtain⟨hi0,o,ho,TT⟩:=hi
    have hin:i<ops.size:=(Array.getElem?_eq_some_iff.1 ho).1
    have Py:∀ k,k∈OT o->listed.getD k true=true:=fun k hk=>by
     have hlt:=OK i o ho k hk
     simp only[OT,List.mem_map,List.mem_filter]at hk
     obtain⟨e,⟨he,hb⟩,rfl⟩:=hk
     rw[<- Pw _ (by omega)]
     exact TT e (by simpa using he) hb
    have LK:∀ k,k<ops.size->(listed.setIfInBounds i true).getD k true=(if k=i then true else listed.getD k true):=fun k hk=>by
     by_cases e:k=i
     subst e;simp[Array.getD,hsz,hin]
     rw[if_neg e];exact getD_set_ne true (Ne.symm e)
    have U7:∀ k o,ops[k]? =some o->(listed.setIfInBounds i true).getD k true=true->∀ j,j∈OT o->(listed.setIfInBounds i true).getD j true=true:=fun k o' Nl hk j hj=>by
     have TK:=(Array.getElem?_eq_some_iff.1 Nl).1
     have hjk:=OK k o' Nl j hj
     rw[LK k TK]at hk
     rw[LK j (by omega)]
     split
     rfl
     split at hk
     rename_i e;subst e;rw[ho]at Nl;obtain rfl:=Option.some.inj Nl;exact Py j hj
     exact hcl k o' Nl hk j hj
    have Ux:O3 (listed.setIfInBounds i true) ops.size=fuel:=by have:=Gf hin hsz hi0;omega
    have ND:∀ PO Pj,Nx N Pb Kb w0 (Ph (listed.setIfInBounds i true)) PO Pj->wpAny P .any ops (fun e a' w'=>Nx N Pb Kb w (Q e) a' w') fuel (listed.setIfInBounds i true) PO Pj:=
     fun PO Pj NC=>ih _ PO Pj (by simpa using hsz) Ux U7 NC
    obtain⟨A',Pb',C5,F',Tj,h2,h3,h4,h5,h6⟩:=hn
    rcases Tj with ⟨hne,hD⟩ | ⟨k,M6,Mb,S6,hw⟩
    ·
     obtain⟨j0,hj0⟩:=List.exists_mem_of_ne_nil _ hne
     obtain⟨TO,Rr⟩:=List.mem_filter.1 hj0
     have hj0m:=(Rh j0).1 TO
     have RY:listed.getD j0 true=false:=by simpa using Rr
     have him:i<m:=by
      rcases Nat.lt_or_ge i m with h | h
      exact h
      have:=wN hcl ho Py (SJ i o ho h j0 (by omega));rw[RY]at this;cases this
     have hir:i∈rem listed:=List.mem_filter.2 ⟨(Rh i).2 him,by rw[hi0];rfl⟩
     obtain⟨l1,l2,hl⟩:=List.append_of_mem hir
     have Rd:(rem listed).Nodup:=hnd.filter _
     have Qo:rem (listed.setIfInBounds i true)=l1++l2:=by
      have e1:rem (listed.setIfInBounds i true)=(rem listed).filter fun j=>j != i:=by
       show pl.filter _=(pl.filter _).filter _
       rw[List.filter_filter]
       apply List.filter_congr
       intro j hj
       rw[LK j (by have:=(Rh j).1 hj;omega)]
       by_cases e:j=i
       subst e;simp
       simp[e]
      rw[e1,hl]
      rw[hl]at Rd
      rw[List.nodup_append]at Rd
      obtain⟨n1,n2,n3⟩:=Rd
      rw[List.filter_append,List.filter_cons]
      simp only[bne_self_eq_false,Bool.false_eq_true,if_false]
      have f1:l1.filter (fun j=>j != i)=l1:=List.filter_eq_self.2 fun j hj=>by
       have:=n3 j hj i (by simp);simpa using this
      have f2:l2.filter (fun j=>j != i)=l2:=List.filter_eq_self.2 fun j hj=>by
       have:=(List.nodup_cons.1 n2).1
       simp only[bne_iff_ne,ne_eq]
       rintro rfl;exact this hj
      rw[f1,f2]
     have UX:∀ p,p∈l1->(lk p zs=none/\indep ops tb zs p i=true)\/nn ops tb zs p i=true:=fun p hp=>by
      rcases yC (mS _ hc) hl hp with h | h
      exact h
      exfalso
      have hpr:p∈rem listed:=by rw[hl];simp[hp]
      have UH:listed.getD p true=false:=by have:=(List.mem_filter.1 hpr).2;simpa using this
      have Va:∀ (n j:Nat),gJ ops n i j=true->listed.getD j true=true:=by
       intro n j hj
       cases n with
       | zero=>simp[gJ]at hj
       | succ n=>
         simp only[gJ,ho]at hj
         rw[List.any_eq_true]at hj
         obtain⟨q,hq,hj⟩:=hj
         have VY:=Py q hq
         rw[Bool.or_eq_true,beq_iff_eq]at hj
         rcases hj with rfl | hj
         exact VY
         exact jy (L:=fun k=>listed.getD k true) hcl n q j hj VY
      have:=Va 64 p h
      rw[UH]at this;cases this
     rw[hl]at hD
     obtain⟨o',Nl,hD⟩:=wi Vf l1 UX hD
     rw[ho]at Nl
     obtain rfl:=Option.some.inj Nl
     have Ri:∀ B Lz LG a2 w2 F2,KI P N ops tb zs (l1++l2) B Kt->s4 N Lz LG B a2 w2 F2->∃ B' F3,Ph (listed.setIfInBounds i true) B'/\s4 N Lz LG B' a2 w2 F3:=fun B Lz LG a2 w2 F2 hB VV=>by
      by_cases OC:rem (listed.setIfInBounds i true)=[]
      rw[<- Qo,OC]at hB
      obtain⟨B',e1,e2⟩:=hB
      obtain⟨F3,Kr,_⟩:=VV.le e1.symm.le
      refine⟨B',F3,.inr ⟨m,Nat.le_refl _,VZ,fun j hj=>?_,e2⟩,Kr⟩
      rcases Nat.lt_or_ge j m with h | h
      have:j ∉ rem (listed.setIfInBounds i true):=by rw[OC];simp
      have: ¬ ((!(listed.setIfInBounds i true).getD j true)=true):=fun c=>this (List.mem_filter.2 ⟨(Rh j).2 h,c⟩)
      simp only[Bool.not_eq_true',Bool.not_eq_false]at this
      rw[this];simp[h]
      have hoj:ops[j]? =some ops[j]:=by simp[hj]
      rw[LK j hj,if_neg (by omega)]
      cases hb:listed.getD j true with
      | false=>simp;omega
      | true=>
        have:=jy hcl 64 j j0 (SJ j _ hoj h j0 (by omega)) hb
        rw[RY]at this;cases this
      exact⟨B,F2,.inl ⟨OC,by rw[Qo];exact hB⟩,VV⟩
     unfold Go.wpOp
     simp only[ho]
     split at hD
     rename_i z hz
     unfold An at Vb
     rw[List.all_eq_true]at Vb
     have NA:=Vb _ (yU hz)
     simp only[ho]at NA
     rw[Bool.and_eq_true]at NA
     obtain⟨NA,hz3⟩:=NA
     split at NA
     rename_i T d Ki Kk
     simp only[Bool.and_eq_true,beq_iff_eq]at NA
     have Om:Region.wanted o (yielded ops a.tmps)=true:=by unfold Region.wanted;rw[show o.guard=none from by simpa using hz3]
     rw[if_pos Om]
     rw[Kk]at hD
     refine .inl (Oper.wp_mono ?_ (pF (K:=fun B=>KI P N ops tb zs (l1++l2) B Kt) Ki Kk (Nat.lt_of_succ_le (Nat.le_of_ble_eq_true NA.2)) (by rw[NA.1];exact z.ok) hD Pb' C5 a w' F' _ h2))
     rintro a2 w2 ⟨B,Lz,LG,F2,k1,k2,k3,k4,k5,k6⟩
     obtain⟨B',F3,hp,Kr⟩:=Ri B Lz LG a2 w2 F2 k1 k2
     exact ND a2 w2 (Nx.step h3 h4 h5 h6 ⟨B',Lz,LG,F3,hp,Kr,k3,k4,k5,k6⟩)
     simp at NA
     split at hD
     obtain⟨_,_,v,hv,hD⟩:=hD
     rcases rB (hv A' (fun _ _=>rfl) (sy rfl _)) h2 with ⟨Om,Ki⟩ | ⟨Om,hd,hvd⟩
     rw[if_pos Om]
     refine .inl (Oper.wp_mono ?_ (Ki Pb' C5 a w' F' _ h2))
     rintro a2 w2 ⟨B,Lz,LG,F2,k1,k2,k3,k4,k5,k6⟩
     obtain⟨B',F3,hp,Kr⟩:=Ri B Lz LG a2 w2 F2 (dR Vf _ k1.symm hD) k2
     exact ND a2 w2 (Nx.step h3 h4 h5 h6 ⟨B',Lz,LG,F3,hp,Kr,k3,k4,k5,k6⟩)
     rw[if_neg (by simp[Om])]
     obtain⟨F2,J3⟩:=h2.ou (d:=o.dst) (v:=v) (x:=undef) hd (hvd w' Pb')
     obtain⟨B',F3,hp,Kr⟩:=Ri _ Pb' C5 _ w' F2 hD J3
     exact ND _ w' ⟨B',Pb',C5,F3,hp,Kr,h3,h4,h5,h6⟩
     obtain⟨G,U,hE,_,hD⟩:=hD
     have Om:Region.wanted o (yielded ops a.tmps)=true:=by unfold Region.wanted;rw[hE.1]
     rw[if_pos Om]
     refine .inl (Oper.wp_mono ?_ (hE.2 A' (fun _ _=>rfl) (sy rfl _) Pb' C5 a w' F' _ h2))
     rintro a2 w2 ⟨B,Lz,LG,F2,⟨g,k1⟩,k2,k3,k4,k5,k6⟩
     obtain⟨B',F3,hp,Kr⟩:=Ri B Lz LG a2 w2 F2 (dR Vf _ k1.symm (hD g)) k2
     exact ND a2 w2 (Nx.step h3 h4 h5 h6 ⟨B',Lz,LG,F3,hp,Kr,k3,k4,k5,k6⟩)
    ·
     have hik:i=k:=by
      rw[S6 i hin]at hi0
      simp only[decide_eq_false_iff_not]at hi0
      rcases Nat.lt_or_ge k i with h | h
      have:=wN hcl ho Py (SJ i o ho (by omega) k h)
      rw[S6 k (by omega)]at this;simp at this
      omega
     subst hik
     have ME:ops.toList.drop i=o::ops.toList.drop (i+1):=by
      rw[List.drop_eq_getElem_cons (by simpa using hin)]
      have:ops[i]=o:=by have:=Array.getElem?_eq_some_iff.1 ho;exact this.2
      simp[this]
     rw[ME]at hw
     have Ri:∀ B,WL P N ops (ops.toList.drop (i+1)) B (Q .normal)->Ph (listed.setIfInBounds i true) B:=fun B hB=>
      .inr ⟨i+1,by omega,by omega,fun j hj=>by
       rw[LK j hj]
       split
       rename_i e;subst e;simp
       rename_i e;rw[S6 j hj]
       have:(j<i)↔(j<i+1):=by omega
       simp[this],hB⟩
     unfold Go.wpOp
     simp only[ho]
     rcases rB hw h2 with ⟨Om,Ki⟩ | ⟨Om,hd,u,hu,NN⟩
     rw[if_pos Om]
     refine .inl (Oper.wp_mono ?_ (Ki Pb' C5 a w' F' _ h2))
     intro a2 w2 Rn
     exact ND a2 w2 (Nx.step h3 h4 h5 h6 (Rn.mono Ri))
     rw[if_neg (by simp[Om])]
     obtain⟨F2,J3⟩:=h2.ou (d:=o.dst) (v:=u) (x:=undef) hd (hu w' Pb')
     exact ND _ w' ⟨_,Pb',C5,F2,Ri _ NN,J3,h3,h4,h5,h6⟩
 have Pt:∀ k,k<ops.size->(Array.replicate ops.size false).getD k true=false:=fun k hk=>by simp[Array.getD,hk]
 have Qn:rem (Array.replicate ops.size false)=pl:=List.filter_eq_self.2 fun j hj=>by rw[Pt j (by have:=(Rh j).1 hj;omega)];rfl
 have x6:∃ A1 F1,Ph (Array.replicate ops.size false) A1/\s4 N Pb Kb A1 a w0 F1:=by
  by_cases hp:pl=[]
  subst hp
  obtain⟨B',e1,e2⟩:=h
  obtain⟨F3,Kr,_⟩:=e9.le e1.symm.le
  have hm0:m=0:=by
   rcases Nat.eq_zero_or_pos m with h | h
   exact h
   have:=(Rh 0).2 h;simp at this
  exact⟨B',F3,.inr ⟨m,Nat.le_refl _,VZ,fun j hj=>by rw[Pt j hj,hm0];simp,e2⟩,Kr⟩
  exact⟨A,F,.inl ⟨by rw[Qn];exact hp,by rw[Qn];exact h⟩,e9⟩
 obtain⟨A1,F1,hP1,K0⟩:=x6
 exact key ops.size (Array.replicate ops.size false) a w0 (by simp) (by
  unfold O3
  rw[List.filter_eq_self.2]
  simp
  intro j hj;simp only[List.mem_range]at hj;rw[Pt j hj];rfl)
  (fun k o ho hk=>by rw[Pt k (Array.getElem?_eq_some_iff.1 ho).1]at hk;cases hk) ⟨A1,Pb,Kb,F1,hP1,K0,fun _ h=>h,fun _ h=>h,fun _ h=>.inl h,w8.refl _ _⟩
end
end Go.Abs
namespace Go.Abs
open Go Go.RowKit
section
variable {P:Program} {N:Nat} {ops:Array Oper} {A A':AS}
theorem Hq{w:World}{Pb:Nat->Prop}{v:V}{x:Value}{F:List Nat}(h:Q2 w Pb v x F):RV w Pb v x F:=by
 cases v with
 | gv b u=>simp[Q2,R]at h
 | _=>exact h
def V.fL:V->Bool | .gv _ _=>true | _=>false
theorem wV{w:World}{Pb:Nat->Prop}{v:V}{x:Value}{F:List Nat}(h:RV w Pb v x F)(hn:v.fL=false):Q2 w Pb v x F:=by
 cases v with
 | gv b u=>simp[V.fL]at hn
 | _=>exact h
theorem nR{a:Act}{t:Nat}:a.put (some t) (a.tmps.getD t undef)=a:=by
 cases a with
 | mk tmps defers=>
   simp only[Act.put]
   congr 1
   apply Array.ext_getElem?
   intro i
   by_cases e:t=i
   subst e
   by_cases h:t<tmps.size
   simp[h,Array.getElem?_setIfInBounds_self]
   simp[h,Array.getElem?_setIfInBounds]
   rw[Array.getElem?_setIfInBounds_ne e]
def mY(G b:Bool)(v:V):Prop:=match v.cB||v.fL with
 | false=>G=true->b=true
 | true=>False
theorem uS{G b:Bool}{v:V}(h:mY G b v)(hG:G=true):b=true/\v.cB=false/\v.fL=false:=by
 unfold mY at h
 split at h
 rename_i e;rw[Bool.or_eq_false_iff]at e;exact⟨h hG,e.1,e.2⟩
 exact h.elim
def AS.un(G:Bool):List Operand->AS->Prop×AS
 | [],A=>(True,A)
 | .tmp t::r,A=>match A.get t with
   | .gv b v=>match AS.un G r (A.put (some t) v) with
     | (C,B)=>(mY G b v/\C,B)
   | _=>AS.un G r A
 | _::r,A=>AS.un G r A
theorem iM{w:World}{Pb Kb:Nat->Prop}{a:Act}{G:Bool}(hG:G=true):∀ (xs:List Operand) {A B:AS} {F:l9->List Nat} {C:Prop},AS.un G xs A=(C,B)->C->s4 N Pb Kb A a w F->(∀ t,Operand.tmp t∈xs->t<N)->∃ F',s4 N Pb Kb B a w F'
 | [],A,B,F,C,h,hC,hs,_=>by simp only[AS.un,Prod.mk.injEq]at h;obtain⟨_,rfl⟩:=h;exact⟨F,hs⟩
 | x::xs,A,B,F,C,h,hC,hs,hN=>by
   have Nq:∀ t,Operand.tmp t∈xs->t<N:=fun t ht=>hN t (by simp[ht])
   cases x with
   | tmp t=>
     simp only[AS.un]at h
     split at h
     rename_i b v hg
     cases hu:AS.un G xs (A.put (some t) v) with
     | mk C1 B1=>
       rw[hu]at h
       simp only[Prod.mk.injEq]at h
       obtain⟨rfl,rfl⟩:=h
       have hr:=hs.slot t
       rw[hg]at hr
       have x7:=hs.put (d:=t) (v:=v) (x:=a.tmps.getD t undef) (F':=[]) (hN t (by simp)) (Hq (hr.2.1 (uS hC.1 hG).1)) (by simp) (by simp) (by simp)
       rw[nR]at x7
       exact iM hG xs hu hC.2 x7 Nq
     exact iM hG xs h hC hs Nq
   | _=>exact iM hG xs h hC hs Nq
def EI(A B:AS):Prop:=(∀ i,A.get i=B.get i\/∃ b,A.get i=.gv b (B.get i)/\b=true/\(B.get i).cB=false/\(B.get i).fL=false)/\A.h=B.h
theorem s4.wrap{w:World}{Pb Kb:Nat->Prop}{a:Act}{F:l9->List Nat}{B:AS}(hs:s4 N Pb Kb B a w F)(h:EI A B):s4 N Pb Kb A a w F where
 size:=hs.size
 defers:=hs.defers
 slot:=fun i=>by
  rcases h.1 i with e | ⟨b,e,hb,ho,hg⟩
  rw[e];exact hs.slot i
  have hr:=hs.slot i
  rw[e]
  have hF:=tY ho hr
  rw[hF]at hr ⊢
  exact⟨rfl,fun _=>wV hr hg,fun c=>by rw[hb]at c;cases c⟩
 root:=fun k g v hk=>hs.root k g v (by rw[<- h.2];exact hk)
 bM:=hs.bM
 nodup:=hs.nodup
 free:=hs.free
 sub:=hs.sub
 bound:=hs.bound
theorem lX{G:Bool}(hG:G=true):∀ (xs:List Operand) {A B:AS} {C:Prop},AS.un G xs A=(C,B)->C->EI A B
 | [],A,B,C,h,hC=>by simp only[AS.un,Prod.mk.injEq]at h;obtain⟨_,rfl⟩:=h;exact⟨fun _=>.inl rfl,rfl⟩
 | x::xs,A,B,C,h,hC=>by
   cases x with
   | tmp t=>
     simp only[AS.un]at h
     split at h
     rename_i b v hg
     cases hu:AS.un G xs (A.put (some t) v) with
     | mk C1 B1=>
       rw[hu]at h
       simp only[Prod.mk.injEq]at h
       obtain⟨rfl,rfl⟩:=h
       obtain⟨k1,k2⟩:=lX hG xs hu hC.2
       obtain⟨hb,ho,hv⟩:=uS hC.1 hG
       refine⟨fun i=>?_,k2⟩
       have:=k1 i
       rw[AS.ay]at this
       by_cases e:i=t
       subst e
       rw[if_pos rfl]at this
       rcases this with e' | ⟨b',e',_⟩
       exact .inr ⟨b,by rw[hg,<- e'],hb,by rw[<- e'];exact ho,by rw[<- e'];exact hv⟩
       rw[e']at hv;simp[V.fL]at hv
       rw[if_neg e]at this;exact this
     exact lX hG xs h hC
   | _=>exact lX hG xs h hC
def Lh(A:AS)(ops:Array Oper)(j:Nat)(b:Bool):Option Bool:=
 match ((ops[j]?).bind (·.dst)).map A.get with
 | some (.lit (.bool g))=>some (g==b)
 | some (.gv c (.lit (.bool g)))=>some (c&&(g==b))
 | _=>none
theorem oC{A:AS}{o:Oper}{j:Nat}{b G:Bool}{x y:Prop}(hg:o.guard=some (j,b))(h:Lh A ops j b=some G)(hx:G=true->x)(hy:G=false->y):gd ops o A x y:=by
 unfold Lh at h
 unfold gd
 rw[hg]
 simp only
 split at h
 rename_i g e
 try rw[e]
 simp only[Option.some.injEq]at h ⊢
 subst h
 split
 rename_i e';exact hx (by simp[e'])
 rename_i e';exact hy (by simp[e'])
 rename_i c g e
 try rw[e]
 simp only[Option.some.injEq]at h ⊢
 subst h
 split
 rename_i e';exact hx e'
 rename_i e';exact hy (by simpa using e')
 simp at h
def MU(N:Nat):List Operand->Bool
 | []=>true
 | .tmp t::r=>decide (t<N)&&MU N r
 | _::r=>MU N r
theorem nG:∀ {xs:List Operand},MU N xs=true->∀ t,Operand.tmp t∈xs->t<N
 | [],_,t,ht=>by simp at ht
 | x::xs,h,t,ht=>by
   cases x with
   | tmp t'=>
     simp only[MU,Bool.and_eq_true,decide_eq_true_eq]at h
     simp only[List.mem_cons]at ht
     rcases ht with e | ht
     injection e with e;subst e;exact h.1
     exact nG h.2 t ht
   | _=>
     simp only[List.mem_cons,reduceCtorEq,false_or]at ht
     exact nG (xs:=xs) (by simpa[MU] using h) t ht
theorem CV{o:Oper} {l:List Oper} {K:AS->Prop} {j:Nat} {b G:Bool} {C C':Prop} {B:AS} {v:V} {xs:List Operand} (hg:o.guard=some (j,b)) (hG:Lh A ops j b=some G) (hu:AS.un G xs A=(C,B))
 (x6:G0 P B o.op=some (C',v)) (KO:MU N xs=true) (hd:bX N o.dst) (hC:G=true->C/\C'/\v.fL=false)
 (hK:WL P N ops l (A.put o.dst (.gv G v)) K):WL P N ops (o::l) A K:=by
 refine oC hg hG (fun KE=>?_) (fun Qw=>?_)
 obtain⟨h1,h2,h3⟩:=hC KE
 refine gN (v:=.gv G v) hd hK fun Pb Kb a w F hs=>?_
 obtain⟨F',x7⟩:=iM KE _ hu h1 hs (nG KO)
 obtain⟨x,hx,hr⟩:=ud x6 h2 x7 rfl
 exact⟨x,hx,rfl,fun _=>wV hr h3,fun h=>by rw[KE]at h;cases h⟩
 exact⟨hd,.gv G v,fun _ _=>⟨rfl,(fun h=>by rw[Qw]at h;cases h),fun _=>rfl⟩,hK⟩
theorem bg{x:Operand}(h:∀ t,x=.tmp t->A'.get t=A.get t):A'.ev x=A.ev x:=by
 cases x with
 | tmp t=>exact h t rfl
 | _=>rfl
theorem jQ{x:Operand}(h:∀ t,x=.tmp t->A'.get t=A.get t):A'.cp x=A.cp x:=by
 cases x with
 | tmp t=>simp only[AS.cp,h t rfl]
 | _=>rfl
theorem sX{x:Option Operand}(h:∀ t,x=some (.tmp t)->A'.get t=A.get t):x.map A'.ev=x.map A.ev:=by
 cases x with
 | none=>rfl
 | some y=>simp only[Option.map_some,bg (x:=y) fun t e=>h t (by rw[e])]
theorem iU{G:Bool}:∀ (xs:List Operand) {A A' B:AS} {C:Prop},AS.un G xs A=(C,B)->(∀ t,Operand.tmp t∈xs->A'.get t=A.get t)->
 ∃ B',AS.un G xs A'=(C,B')/\(∀ t,A'.get t=A.get t->B'.get t=B.get t)/\B'.h=A'.h/\B.h=A.h
 | [],A,A',B,C,h,_=>by
   simp only[AS.un,Prod.mk.injEq]at h;obtain⟨rfl,rfl⟩:=h
   exact⟨A',rfl,fun _ h=>h,rfl,rfl⟩
 | x::xs,A,A',B,C,h,hx=>by
   have Lf:∀ t,Operand.tmp t∈xs->A'.get t=A.get t:=fun t ht=>hx t (by simp[ht])
   cases x with
   | tmp t=>
     have ht:=hx t (by simp)
     simp only[AS.un]at h ⊢
     rw[ht]
     split at h
     rename_i b v hg
     cases hu:AS.un G xs (A.put (some t) v) with
     | mk C1 B1=>
       rw[hu]at h
       simp only[Prod.mk.injEq]at h
       obtain⟨rfl,rfl⟩:=h
       obtain⟨B',k1,k2,k3,k4⟩:=iU xs (A':=A'.put (some t) v) hu (fun t' UB=>by
        rw[AS.ay,AS.ay];split
        rfl
        exact Lf t' UB)
       refine⟨B',by simp only[k1],fun t' UB=>k2 t' ?_,by rw[k3];rfl,by rw[k4];rfl⟩
       rw[AS.ay,AS.ay];split
       rfl
       exact UB
     exact iU xs h Lf
   | const c=>exact iU xs h Lf
   | global g=>exact iU xs h Lf
   | func f=>exact iU xs h Lf
theorem dN{o:Oper}{t:Nat}(h:Operand.tmp t∈o.op.operands.toList):t∈o.looksAt ops:=by
 unfold Oper.looksAt;rw[List.mem_append];exact .inl (List.mem_filterMap.2 ⟨_,h,rfl⟩)
theorem pq{xs:List Operand}(h:∀ t,Operand.tmp t∈xs->A'.get t=A.get t):xs.map A'.cp=xs.map A.cp:=by
 apply List.map_congr_left
 intro x hx
 exact jQ fun t e=>h t (by rw[<- e];exact hx)
end
end Go.Abs
namespace Go.Abs
open Go Go.RowKit
section
variable {P:Program} {N:Nat} {ops:Array Oper} {A A':AS}
theorem PC.er{f:FuncId}{L:List V}{Q:V->Prop}(h:PC P f L Q):PC P f L (fun r=> ∃ r',Q r'/\r=r'.er):=by
 refine⟨h.1,fun w Pb cargs h1 h2=>(h.2 w Pb cargs h1 h2).mono ?_⟩
 rintro e w' ⟨r,x,F,Pb',rfl,q,hr,hnd,hF,k1,k2,hb⟩
 refine⟨r.er,x,[],fun g=>Pb' g\/g∈F,rfl,⟨r,q,rfl⟩,AB hr (fun g hg=>.inl hg) (fun g hg=>.inr hg),List.nodup_nil,by simp,fun g hg=>.inl (k1 g hg),fun g hg=>?_,hb⟩
 rcases hg with hg | hg
 exact k2 g hg
 exact .inr ⟨(hF g hg).1,(hF g hg).2.1⟩
theorem DU{K:AS->Prop} {d:Option Nat} {f:FuncId} {xs:Array Operand} {J6:Array TypeId} {ty:TypeId} {pos:String} {after:Array Edge} {rest:List Oper}
 {j:Nat} {b G:Bool} {C:Prop} {B:AS} {L:List V} {E:V} (hd:bX N d) (hG:Lh A ops j b=some G) (hu:AS.un G xs.toList A=(C,B)) (KO:MU N xs.toList=true)
 (hL:xs.toList.map B.cp=L) (hc:G=true->C/\PC P f L (fun r=>r.er=E)/\E.fL=false/\E.cB=false) (hK:WL P N ops rest (A.put d (.gv G E)) K):
 WL P N ops (⟨d,.call { callee:=.value (.func f),args:=xs,argTypes:=J6 },ty,pos,after,some (j,b)⟩ :: rest) A K:=by
 subst hL
 refine oC (j:=j) (b:=b) rfl hG (fun KE=>?_) (fun Qw=>⟨hd,.gv G E,fun _ _=>⟨rfl,(fun h=>by rw[Qw]at h;cases h),fun _=>rfl⟩,hK⟩)
 obtain⟨h1,h2,h3,h4⟩:=hc KE
 intro Pb Kb a w F Q' hs
 obtain⟨F',x7⟩:=iM KE _ hu h1 hs (nG KO)
 have hw:=lX KE _ hu h1
 have I4:=mL (N:=N) (o:=⟨d,.call { callee:=.value (.func f),args:=xs,argTypes:=J6 },ty,pos,after,some (j,b)⟩) (K:=fun A'=>A'=B.put d E) (A:=B) rfl hd h2 (fun _ h=>h) rfl
 refine Oper.wp_mono ?_ (I4 Pb Kb a w F' Q' x7)
 rintro a' w' ⟨A',Pb',C5,F2,rfl,J3,k3,k4,k5,k6⟩
 refine⟨_,Pb',C5,F2,hK,J3.wrap ?_,k3,k4,k5,k6⟩
 cases d with
 | none=>exact hw
 | some d=>
   refine⟨fun i=>?_,hw.2⟩
   rw[AS.ay,AS.ay]
   by_cases e:i=d
   rw[if_pos e,if_pos e];exact .inr ⟨G,rfl,KE,h4,h3⟩
   rw[if_neg e,if_neg e];exact hw.1 i
end
end Go.Abs
namespace Go.Abs
open Go Go.RowKit
def DY(op:BinOp)(a b:BL):Option (Prop×V):=
 match op with
 | .add=>some (a.length+b.length<=4611686018427387904,.lit (.string (Str (a++b))))
 | .eql=>some (True,.lit (.bool (a==b)))
 | .neq=>some (True,.lit (.bool (!(a==b))))
 | _=>none
def zJ(op:BinOp)(d:Option D)(x y:V):Option (Prop×V):=
 match d,x,y with
 | some .str,.lit (.string a),.lit (.string b)=>DY op a.data.toList b.data.toList
 | d,x,y=>ry op d x y
def IC:Option D->V->V->Option (Prop×V)
 | some .str,.lit (.string s),.lit (.int _ i)=>some (0<=i/\i<s.data.toList.length,.lit (.int .u8 (s.data.toList.getD i.toNat 0).toNat))
 | _,_,_=>none
def EL(s:BL)(lo hi:Option V):Option (Prop×V):=
 match Q5 lo,Qt s.length hi with
 | some l,some h=>some (0<=l/\l<=h/\h<=s.length,.lit (.string (Str ((s.take h.toNat).drop l.toNat))))
 | _,_=>none
def IN(x:V)(lo hi:Option V):Option (Prop×V):=
 match x with
 | .lit (.string s)=>EL s.data.toList lo hi
 | _=>none
def DO:Option D->V->Option (Prop×V)
 | some .str,.lit (.string s)=>some (True,.lit (.int .i64 s.data.toList.length))
 | d,x=>xP d x
def Ak(P:Program)(A:AS)(c:Call):Option (Prop×V):=
 match c.callee with
 | .builtin .len=>match c.args.toList,c.argTypes.toList with
   | [x],[T]=>DO (tD P T) (A.ev x)
   | _,_=>none
 | _=>none
def xt(P:Program)(d:Option D)(x:V)(j:Nat):Option (Prop×V):=
 match d with
 | some (.st fs)=>match fs[j]? with
   | some (off,T)=>match ti P T with
     | some i=>match x with
       | .agg vs=>match vs[j]? with
         | some v=>if (V.ns (vs.take j)==off&&(i.sz==v.n&&i.d.agg==v.isAgg))=true then some (True,v) else none
         | none=>none
       | _=>none
     | none=>none
   | none=>none
 | _=>none
def nI(P:Program)(d:Option D)(x:V)(j:Nat):Option (Prop×V):=
 match d with
 | some (.st fs)=>match fs[j]? with
   | some (off,T)=>match ti P T with
     | some i=>match x with
       | .ptr r p g o=>if (i.sz != 0)=true then some (True,.ptr r (p++[j]) g (o+off)) else none
       | .ep (.agg vs)=>match vs[j]? with
         | some v=>if (i.sz != 0&&V.ns (vs.take j)==off)=true then some (True,.ep v) else none
         | none=>none
       | _=>none
     | none=>none
   | none=>none
 | _=>none
def Ff(A:AS)(i:Option TI)(x:V)(w5:List V):Option (Prop×V×List V):=
 match i with
 | some i=>match x with
   | .ptr r p g o=>match w5 with
     | []=>none
     | .b9::w5=>match A.at r p with
       | some (g',o',v)=>if (v.n==i.sz&&i.d.agg==v.isAgg)=true then some ((g',o')=(g,o),v.NG r p,w5) else none
       | none=>none
     | v::w5=>if (v.n==i.sz&&i.d.agg==v.isAgg)=true then some (A.at r p=some (g,o,v),v.NG r p,w5) else none
   | .ep v=>if (v.n==i.sz&&i.d.agg==v.isAgg)=true then some (True,v,w5) else none
   | _=>none
 | none=>none
def wO(w5:List V):Option (Prop×V)->Option (Prop×V×List V)
 | some (C,v)=>some (C,v,w5)
 | none=>none
def rS(P:Program)(d:Option D)(x i:V)(w5:List V):Option (Prop×V×List V):=
 match d,i with
 | some (.sl e),.lit (.int _ i)=>match ti P e with
   | some t=>match x with
     | .sl _ xs=>match w5 with
       | v::w5=>if (v.n==t.sz)=true then some (0<=i/\xs[i.toNat]? =some v,.ep v,w5) else none
       | []=>none
     | .hd r p sz g o lo n _=>if (sz==t.sz)=true then some (0<=i/\i<n,.ptr r (p++[lo+i.toNat]) g (o+(lo+i.toNat)*sz),w5) else none
     | _=>none
   | none=>none
 | d,i=>wO w5 (ia P d x i)
def sY(P:Program)(A:AS)(op:Op)(w5:List V):Option (Prop×V×List V):=
 match op with
 | .binOp o T x y _=>wO w5 (zJ o (tD P T) (A.ev x) (A.ev y))
 | .index T x i=>wO w5 (IC (tD P T) (A.ev x) (A.ev i))
 | .slice T x lo hi none=>match tD P T with
   | some .str=>wO w5 (IN (A.ev x) (lo.map A.ev) (hi.map A.ev))
   | d=>wO w5 (Aw P d (A.ev x) (lo.map A.ev) (hi.map A.ev))
 | .call c=>wO w5 (Ak P A c)
 | .field T x j=>wO w5 (xt P (tD P T) (A.cp x) j)
 | .fieldAddr T x j=>wO w5 (nI P (tD P T) (A.ev x) j)
 | .load T x=>Ff A (ti P T) (A.ev x) w5
 | .indexAddr T x i=>rS P (tD P T) (A.ev x) (A.ev i) w5
 | op=>wO w5 (G0 P A op)
section
variable {P:Program} {N:Nat} {ops:Array Oper} {A A':AS}
theorem oh(s:ByteArray):Str s.data.toList=s:=by apply ByteArray.ext;simp[Str]
theorem dO{w5 L0:List V}{x:Option (Prop×V)}{C:Prop}{v:V}(h:wO w5 x=some (C,v,L0)):x=some (C,v):=by
 cases x with
 | none=>simp[wO]at h
 | some y=>obtain⟨a,b⟩:=y;simp only[wO,Option.some.injEq,Prod.mk.injEq]at h;obtain⟨rfl,rfl,_⟩:=h;rfl
theorem FJ{op:BinOp}{d:Option D}{x y:V}{C:Prop}{v:V}(h:zJ op d x y=some (C,v))(hC:C):∃ C',ry op d x y=some (C',v)/\C':=by
 unfold zJ at h
 split at h
 rename_i a b
 simp only[ry]
 cases op <;> simp only[DY,Option.some.injEq,Prod.mk.injEq,reduceCtorEq]at h <;> obtain⟨rfl,rfl⟩:=h
 refine⟨a.size+b.size<=4611686018427387904,?_,by rw[Array.length_toList,Array.length_toList]at hC;exact hC⟩
 simp only[uc];rw[<- FY,oh,oh]
 refine⟨True,?_,trivial⟩
 simp only[uc,Lib.toList_data]
 refine⟨True,?_,trivial⟩
 simp only[uc,Lib.toList_data]
 exact⟨C,h,hC⟩
theorem ql{op:Op}{w5 L0:List V}{C:Prop}{v:V}(h:sY P A op w5=some (C,v,L0))(hC:C):∃ C',G0 P A op=some (C',v)/\C':=by
 unfold sY at h
 split at h
 exact FJ (dO h) hC
 rename_i T x i
 have h:=dO h
 unfold IC at h
 split at h
 rename_i s k i' e1 e2 e3
 simp only[Option.some.injEq,Prod.mk.injEq]at h
 obtain⟨rfl,rfl⟩:=h
 refine⟨0<=i'/\i'<s.size,?_,by rw[Array.length_toList]at hC;exact hC⟩
 simp only[G0,Mm,DT,e1,e2,e3]
 rw[<- oh s,IF];rfl
 simp at h
 rename_i T x lo hi
 split at h
 rename_i e
 have h:=dO h
 simp only[G0,e]
 unfold IN at h
 split at h
 rename_i s e'
 unfold EL at h
 split at h
 rename_i l hh e1 e2
 simp only[Option.some.injEq,Prod.mk.injEq]at h
 obtain⟨rfl,rfl⟩:=h
 have R6:Qt s.size (hi.map A.ev)=some hh:=by
  rw[<- e2,Array.length_toList];rfl
 refine⟨0<=l/\l<=hh/\hh<=s.size,?_,by rw[Array.length_toList]at hC;exact hC⟩
 simp only[AK,e',Dv,e1,R6]
 rw[<- GQ,oh]
 simp at h
 simp at h
 rename_i d hd
 have h:=dO h
 refine⟨C,?_,hC⟩
 simp only[G0]
 exact h
 rename_i c
 have h:=dO h
 unfold Ak at h
 split at h
 rename_i hc
 split at h
 rename_i x T hx hT
 simp only[G0,Mm,vG,hc,hx,hT]
 unfold DO at h
 split at h
 rename_i s e1 e2
 simp only[Option.some.injEq,Prod.mk.injEq]at h
 obtain⟨rfl,rfl⟩:=h
 exact⟨True,by simp only[xP,e1,e2,ByteArray.size,Array.length_toList],trivial⟩
 exact⟨C,h,hC⟩
 simp at h
 simp at h
 rename_i T x j
 have h:=dO h
 simp only[G0]
 unfold xt at h
 split at h
 rename_i fs e1
 split at h
 rename_i off T' e2
 split at h
 rename_i i e3
 split at h
 rename_i vs e4
 split at h
 rename_i u e5
 split at h
 rename_i hb
 simp only[Option.some.injEq,Prod.mk.injEq]at h
 obtain⟨_,rfl⟩:=h
 simp only[Bool.and_eq_true,beq_iff_eq]at hb
 exact⟨_,by simp only[sq,e1,e2,e3,e4,e5],hb⟩
 simp at h
 simp at h
 simp at h
 simp at h
 simp at h
 simp at h
 rename_i T x j
 have h:=dO h
 simp only[G0]
 unfold nI at h
 split at h
 rename_i fs e1
 split at h
 rename_i off T' e2
 split at h
 rename_i i e3
 split at h
 rename_i r p g o e4
 split at h
 rename_i hb
 simp only[Option.some.injEq,Prod.mk.injEq]at h
 obtain⟨_,rfl⟩:=h
 exact⟨i.sz≠0,by simp only[jk,e1,e2,e3,e4],by simpa using hb⟩
 simp at h
 rename_i vs e4
 split at h
 rename_i u e5
 split at h
 rename_i hb
 simp only[Option.some.injEq,Prod.mk.injEq]at h
 obtain⟨_,rfl⟩:=h
 simp only[Bool.and_eq_true,beq_iff_eq,bne_iff_ne]at hb
 exact⟨_,by simp only[jk,e1,e2,e3,e4,e5],hb⟩
 simp at h
 simp at h
 simp at h
 simp at h
 simp at h
 simp at h
 rename_i T x
 simp only[G0]
 unfold Ff at h
 split at h
 rename_i i e1
 split at h
 rename_i r p g o e2
 split at h
 simp at h
 split at h
 rename_i g1 o1 u e3
 split at h
 rename_i hb
 simp only[Option.some.injEq]at h
 obtain⟨h1,h2⟩:=Prod.mk.inj h
 obtain⟨rfl,_⟩:=Prod.mk.inj h2
 subst h1
 obtain⟨rfl,rfl⟩:=Prod.mk.inj hC
 simp only[Bool.and_eq_true,beq_iff_eq]at hb
 exact⟨g1=g1/\o1=o1/\u.n=i.sz/\i.d.agg=u.isAgg,by simp only[jF,e1,e2,e3],rfl,rfl,hb.1,hb.2⟩
 simp at h
 simp at h
 rename_i u Mp _
 split at h
 rename_i hb
 simp only[Option.some.injEq,Prod.mk.injEq]at h
 obtain⟨rfl,rfl,_⟩:=h
 simp only[Bool.and_eq_true,beq_iff_eq]at hb
 exact⟨g=g/\o=o/\u.n=i.sz/\i.d.agg=u.isAgg,by simp only[jF,e1,e2,hC],rfl,rfl,hb.1,hb.2⟩
 simp at h
 rename_i u e2
 split at h
 rename_i hb
 simp only[Option.some.injEq,Prod.mk.injEq]at h
 obtain⟨_,rfl,_⟩:=h
 simp only[Bool.and_eq_true,beq_iff_eq]at hb
 exact⟨_,by simp only[jF,e1,e2],hb⟩
 simp at h
 simp at h
 simp at h
 rename_i T x i
 simp only[G0]
 unfold rS at h
 split at h
 rename_i e k i' e1 e2
 split at h
 rename_i t e3
 split at h
 rename_i full xs e4
 split at h
 rename_i u Mp
 split at h
 rename_i hb
 simp only[Option.some.injEq,Prod.mk.injEq]at h
 obtain⟨rfl,rfl,_⟩:=h
 obtain⟨h0,hx⟩:=hC
 have hlt:=(List.getElem?_eq_some_iff.1 hx).1
 have hv:xs.getD i'.toNat .b9=u:=by rw[List.getD_eq_getElem?_getD,hx];rfl
 exact⟨0<=i'/\i'<xs.length/\u.n=t.sz,by simp only[ia,e1,e2,e3,e4,hv],h0,by omega,by simpa using hb⟩
 simp at h
 simp at h
 rename_i r p sz g o lo n c e4
 split at h
 rename_i hb
 simp only[Option.some.injEq,Prod.mk.injEq]at h
 obtain⟨rfl,rfl,_⟩:=h
 exact⟨0<=i'/\i'<n/\sz=t.sz,by simp only[ia,e1,e2,e3,e4],hC.1,hC.2,by simpa using hb⟩
 simp at h
 simp at h
 simp at h
 exact⟨C,dO h,hC⟩
 exact⟨C,dO h,hC⟩
theorem AS.le_refl(A:AS):A.le A:=⟨fun _=>.inr rfl,fun _=>.inr rfl⟩
theorem AS.le_trans{A B C:AS}(h:A.le B)(k:B.le C):A.le C:=
 ⟨fun i=>by
  rcases h.1 i with e | e
  exact .inl e
  rw[e];exact k.1 i,
  fun i=>by
   rcases h.2 i with e | e
   exact .inl e
   rw[e];exact k.2 i⟩
theorem Dp{o:Oper}{K K':AS->Prop}(h:D5 P N o A K)(hK:∀ B,K B->K' B):D5 P N o A K':=
 fun Pb Kb a w F Q hs=>Oper.wp_mono (fun _ _ hn=>hn.mono hK) (h Pb Kb a w F Q hs)
def zK(A:AS):List Nat->List (Nat×(Nat×V))
 | []=>[]
 | k::ks=>match lk k A.h with
   | some v=>(k,v)::zK A ks
   | none=>zK A ks
def dT(ks hs:List Nat)(A:AS):AS:=⟨ks.map fun k=>(k,A.get k),zK A hs⟩
def kP:Op->Bool
 | .move _ | .extract _ _ | .call _ | .field _ _ _ | .fieldAddr _ _ _=>true
 | .binOp o _ _ _ _=>match o with
   | .eql | .neq | .lss | .leq | .gtr | .geq=>true
   | _=>false
 | .unOp o _ _=>match o with
   | .not=>true
   | _=>false
 | _=>false
theorem lx{op:Op}{w5 L0:List V}{C:Prop}{v:V}(ht:kP op=true)(h:sY P A op w5=some (C,v,L0)):C:=by
 have hB:∀ {o:BinOp} {k:IntKind} {a b:Int} {C:Prop} {v:V},(o=.eql\/o=.neq\/o=.lss\/o=.leq\/o=.gtr\/o=.geq)->uB o k a b=some (C,v)->C:=by
  intro o k a b C v ho h
  rcases ho with rfl | rfl | rfl | rfl | rfl | rfl <;> (simp only[uB,iT,Option.some.injEq,Prod.mk.injEq]at h;rw[<- h.1];trivial)
 cases op with
 | move x=>have h:=dO (show wO w5 (G0 P A (.move x))=_ from h);simp only[G0,Mm,Option.some.injEq,Prod.mk.injEq]at h;rw[<- h.1];trivial
 | extract x i=>
   have h:=dO (show wO w5 (G0 P A (.extract x i))=_ from h)
   simp only[G0,Mm]at h
   unfold EA at h
   repeat (split at h <;> try (solve | simp at h))
   all_goals (simp only[Option.some.injEq,Prod.mk.injEq]at h;rw[<- h.1];trivial)
 | call c=>
   have h:=dO h
   unfold Ak at h
   repeat (split at h <;> try (solve | simp at h))
   unfold DO at h
   split at h
   simp only[Option.some.injEq,Prod.mk.injEq]at h;rw[<- h.1];trivial
   unfold xP at h
   split at h <;> first | (solve | simp at h) | (simp only[Option.some.injEq,Prod.mk.injEq]at h;rw[<- h.1];trivial)
 | field T x j=>
   have h:=dO h
   unfold xt at h
   repeat (split at h <;> try (solve | simp at h))
   all_goals (simp only[Option.some.injEq,Prod.mk.injEq]at h;rw[<- h.1];trivial)
 | fieldAddr T x j=>
   have h:=dO h
   unfold nI at h
   repeat (first | (solve | simp at h) | split at h)
   all_goals first | (solve | simp at h) | (obtain⟨rfl,_⟩:=h;trivial) | (simp only[Option.some.injEq,Prod.mk.injEq]at h;rw[<- h.1];trivial) | (split at h <;> first | (solve | simp at h) | (split at h <;> first | (solve | simp at h) | (simp only[Option.some.injEq,Prod.mk.injEq]at h;rw[<- h.1];trivial)))
 | binOp o T x y pos=>
   have h:=dO h
   have ho:o=.eql\/o=.neq\/o=.lss\/o=.leq\/o=.gtr\/o=.geq:=by cases o <;> simp[kP]at ht ⊢
   unfold zJ at h
   split at h
   rcases ho with rfl | rfl | rfl | rfl | rfl | rfl <;> simp only[DY,Option.some.injEq,Prod.mk.injEq,reduceCtorEq]at h <;> (rw[<- h.1];trivial)
   unfold ry at h
   split at h
   split at h
   exact hB ho h
   split at h
   exact hB ho h
   simp at h
   rcases ho with rfl | rfl | rfl | rfl | rfl | rfl <;> simp only[uc,Option.some.injEq,Prod.mk.injEq,reduceCtorEq]at h <;> (rw[<- h.1];trivial)
   rcases ho with rfl | rfl | rfl | rfl | rfl | rfl <;> simp only[AA,Option.some.injEq,Prod.mk.injEq,reduceCtorEq]at h <;> (rw[<- h.1];trivial)
   simp at h
 | unOp o T x=>
   have h:=dO (show wO w5 (G0 P A (.unOp o T x))=_ from h)
   have ho:o=.not:=by cases o <;> simp[kP]at ht ⊢
   subst ho
   simp only[G0,Mm]at h
   unfold T8 at h
   split at h
   all_goals first | (solve | simp at h) | (simp only[Option.some.injEq,Prod.mk.injEq]at h;rw[<- h.1];trivial) | (simp_all;done)
 | _=>simp[kP]at ht
def gH:Op->List Operand
 | .pick c _ _=>[c]
 | op=>op.operands.toList
def lU(P:Program)(N:Nat)(ops:Array Oper):Nat->List Oper->List V->AS->Option (Prop×AS)
 | 0,_,_,A=>some (True,A)
 | _+1,[],_,A=>some (True,A)
 | n+1,o::rest,w5,A=>
   match o.dst with
   | none=>none
   | some d=>if d<N then
     match o.guard with
     | some (j,b)=>match Lh A ops j b with
       | some G=>match AS.un G (gH o.op) A with
         | (C0,B)=>match sY P B o.op w5 with
           | some (C,v,w5)=>if (MU N (gH o.op)&&!v.fL)=true then match lU P N ops n rest w5 (A.put (some d) (.gv G v)) with
             | some (C',A')=>some ((G=true->C0/\C)/\C',A')
             | none=>none else none
           | none=>none
       | none=>none
     | none=>match o.op with
       | .assign x=>lU P N ops n rest w5 ((A.drop x).put (some d) (A.ev x))
       | op=>match sY P A op w5 with
         | some (C,v,w5)=>match lU P N ops n rest w5 (A.put (some d) v) with
           | some (C',A')=>if kP op=true then some (C',A') else some (C/\C',A')
           | none=>none
         | none=>none
     else none
theorem mV{K:AS->Prop}:∀ (n:Nat) {l:List Oper} {w5:List V} {A A':AS} {C:Prop},
 lU P N ops n l w5 A=some (C,A')->C->WL P N ops (l.drop n) A' K->WL P N ops l A K
 | 0,l,w5,A,A',C,h,hC,hK=>by
   simp only[lU,Option.some.injEq,Prod.mk.injEq]at h;obtain⟨_,rfl⟩:=h;exact hK
 | n+1,[],w5,A,A',C,h,hC,hK=>by
   simp only[lU,Option.some.injEq,Prod.mk.injEq]at h;obtain⟨_,rfl⟩:=h;exact hK
 | n+1,o::l,w5,A,A',C,h,hC,hK=>by
   have ME:(o::l).drop (n+1)=l.drop n:=rfl
   rw[ME]at hK
   unfold lU at h
   split at h
   simp at h
   rename_i d hd
   split at h
   case isFalse=>simp at h
   rename_i Pz
   have LL:bX N o.dst:=by rw[hd];exact Pz
   cases hg:o.guard with
   | some jb=>
     obtain⟨j,b⟩:=jb
     rw[hg]at h
     simp only at h
     split at h
     case h_2=>simp at h
     rename_i G hG
     cases hu:AS.un G (gH o.op) A with
     | mk C0 B=>
       rw[hu]at h
       simp only at h
       split at h
       case h_2=>simp at h
       rename_i C1 v Mp x6
       split at h
       case isFalse=>simp at h
       rename_i KO
       simp only[Bool.and_eq_true,Bool.not_eq_true']at KO
       split at h
       case h_2=>simp at h
       rename_i C2 A2 hr
       simp only[Option.some.injEq,Prod.mk.injEq]at h
       obtain⟨rfl,rfl⟩:=h
       by_cases KE:G=true
       obtain⟨C',h1,h2⟩:=ql x6 (hC.1 KE).2
       exact CV hg hG hu h1 KO.1 LL (fun _=>⟨(hC.1 KE).1,h2,KO.2⟩) (by rw[hd];exact mV n hr hC.2 hK)
       refine oC hg hG (fun c=>absurd c KE) (fun Qw=>⟨LL,.gv G v,fun _ _=>⟨rfl,(fun h=>absurd h KE),fun _=>rfl⟩,?_⟩)
       rw[hd];exact mV n hr hC.2 hK
   | none=>
     rw[hg]at h
     simp only at h
     show gd ops o A _ _
     unfold gd
     rw[hg]
     simp only
     split at h
     rename_i x Ki
     exact tv Ki LL (by rw[hd];exact mV n h hC hK)
     · split at h
       case h_2=>simp at h
       rename_i C1 v Mp x6
       split at h
       case h_2=>simp at h
       rename_i C2 A2 hr
       split at h
       rename_i ht
       simp only[Option.some.injEq,Prod.mk.injEq]at h
       obtain⟨rfl,rfl⟩:=h
       obtain⟨C',h1,h2⟩:=ql x6 (lx ht x6)
       exact tR h1 h2 LL (by rw[hd];exact mV n hr hC hK)
       simp only[Option.some.injEq,Prod.mk.injEq]at h
       obtain⟨rfl,rfl⟩:=h
       obtain⟨C',h1,h2⟩:=ql x6 hC.1
       exact tR h1 h2 LL (by rw[hd];exact mV n hr hC.2 hK)
theorem CL(op:Op):∀ t,Operand.tmp t∈gH op->Operand.tmp t∈op.operands.toList:=by
 intro t ht
 cases op with
 | pick c a b=>simp only[gH,List.mem_singleton]at ht;simp[Op.operands,ht]
 | _=>exact ht
def js(P:Program):List ResultVar->List (l9×V)->Bool
 | .cell _ T::rs,(_,v)::xs=>(match ti P T with | some i=>v.n==i.sz&&i.d.agg==v.isAgg | none=>false)&&js P rs xs
 | .tmp _::rs,(_,v)::xs=>(match v with | .tup _=>false | .gv _ _=>false | _=>true)&&js P rs xs
 | [],[]=>true
 | _,_=>false
theorem nV:∀ {rs:List ResultVar} {xs:List (l9×V)},js P rs xs=true->oq P rs xs
 | [],[],_=>trivial
 | .cell t T::rs,(r,v)::xs,h=>by
   simp only[js,Bool.and_eq_true]at h
   refine⟨?_,nV h.2⟩
   have h1:=h.1
   cases ht:ti P T with
   | none=>rw[ht]at h1;simp at h1
   | some i=>rw[ht]at h1;simpa using h1
 | .tmp t::rs,(r,v)::xs,h=>by
   simp only[js,Bool.and_eq_true]at h
   refine⟨?_,nV h.2⟩
   have h1:=h.1
   cases v <;> first | trivial | simp at h1
 | [],_::_,h=>by simp[js]at h
 | .cell _ _::_,[],h=>by simp[js]at h
 | .tmp _::_,[],h=>by simp[js]at h
def nodupB:List l9->Bool
 | []=>true
 | r::rs=>!(rs.any fun x=>decide (x=r))&&nodupB rs
theorem rO:∀ {l:List l9},nodupB l=true->l.Nodup
 | [],_=>List.nodup_nil
 | r::rs,h=>by
   simp only[nodupB,Bool.and_eq_true,Bool.not_eq_true',List.any_eq_false,decide_eq_true_eq]at h
   exact List.nodup_cons.2 ⟨fun c=>h.1 r c rfl,rO h.2⟩
abbrev iN(n:Nat):V:=.lit (.int .i64 n)
abbrev iV(x:Int):V:=.lit (.int .i64 x)
abbrev uN(n:Nat):V:=.lit (.int .u8 n)
abbrev bV(b:Bool):V:=.lit (.bool b)
abbrev sV(l:BL):V:=.lit (.string (Str l))
theorem aj{α:Type}{f:α->V}{l:List α}{i:Nat}{d:α}(h:i<l.length):(l.map f)[i]? =some (f (l.getD i d)):=by
 rw[List.getElem?_map,List.getElem?_eq_getElem h,List.getD_eq_getElem?_getD,List.getElem?_eq_getElem h];rfl
theorem all_map{α:Type}{f:α->V}{l:List α}{n:Nat}(h:∀ x,(f x).n=n):∀ x∈l.map f,x.n=n:=by
 intro x hx
 obtain⟨y,_,rfl⟩:=List.mem_map.1 hx
 exact h y
end
end Go.Abs
namespace Go.Abs
open Go Go.RowKit
section
variable {P:Program} {N:Nat} {ops:Array Oper} {A A' A1:AS}
def Sh(P:Program)(e:Nat)(sz:Nat):Bool:=match P.info? e with
 | some inf=>match inf.zero with
   | some z=>z.cells.size==sz
   | none=>false
 | none=>false
theorem kH{e sz:Nat}(h:Sh P e sz=true):∃ inf z,P.info? e=some inf/\inf.zero=some z/\z.cells.size=sz:=by
 unfold Sh at h
 split at h
 rename_i inf h1
 split at h
 rename_i z h2;exact⟨inf,z,h1,h2,by simpa using h⟩
 simp at h
 simp at h
def ET(P:Program)(T:Nat):Option (List Value):=match P.info? T with
 | some inf=>match inf.zero with
   | some z=>some z.cells.toList
   | none=>none
 | none=>none
theorem dh{T:Nat}{v:V}{cs:List Value}(h:ET P T=some cs)(hv:v.flat=some cs):lH P T v:=by
 unfold ET at h
 split at h
 rename_i inf h1
 split at h
 rename_i z h2;exact⟨inf,z,h1,h2,by rw[hv,h]⟩
 simp at h
 simp at h
def AL(sz:Nat):List V->Bool
 | []=>true
 | v::vs=>v.isVal&&v.n==sz&&AL sz vs
theorem tW{sz:Nat}:∀ {vs:List V},AL sz vs=true->∀ v,v∈vs->v.isVal=true/\v.n=sz
 | [],_,v,hv=>by simp at hv
 | u::us,h,v,hv=>by
   simp only[AL,Bool.and_eq_true,beq_iff_eq]at h
   simp only[List.mem_cons]at hv
   rcases hv with rfl | hv
   exact h.1
   exact tW h.2 v hv
def Pf(P:Program)(T e len:Nat)(i:TI)(vs:List V):Bool:=Sh P e i.sz&&vs.length==len&&Nat.ble (len*i.sz) 16777216&&Nat.blt 0 i.sz&&AL i.sz vs
theorem Bg{o:Oper} {K:AS->Prop} {T e len:Nat} {b7:Array (Nat×Operand)} {i:TI} {vs:List V} (ho:o.op=.buildSlice T len b7) (hd:bX N o.dst) (hT:tD P T=some (.sl e)) (hi:ti P e=some i)
 (On:dY A 0 b7.toList=some vs) (hB:Pf P T e len i vs=true) (hK:K (A.put o.dst (.sl true vs))):D5 P N o A K:=by
 simp only[Pf,Bool.and_eq_true,beq_iff_eq]at hB
 obtain⟨⟨⟨⟨h1,h2⟩,h3⟩,h4⟩,h5⟩:=hB
 obtain⟨inf,z,k1,k2,_⟩:=kH h1
 exact ui ho hd hT hi ⟨inf,z,k1,k2⟩ On h2 (Nat.le_of_ble_eq_true h3) (Nat.lt_of_succ_le (Nat.le_of_ble_eq_true h4)) (tW h5) hK
theorem vC{K:AS->Prop} {d:Option Nat} {T len ty:Nat} {b7:Array (Nat×Operand)} {pos:String} {after:Array Edge} {rest:List Oper} (e:Nat) (i:TI) (vs:List V)
 (Oo:tD P T=some (.sl e)/\ti P e=some i) (hd:bX N d) (On:dY A 0 b7.toList=some vs) (hB:Pf P T e len i vs=true) (hK:WL P N ops rest (A.put d (.sl true vs)) K):
 WL P N ops (⟨d,.buildSlice T len b7,ty,pos,after,none⟩ :: rest) A K:=by
 show D5 P N _ A _
 exact Bg rfl hd Oo.1 Oo.2 On hB hK
theorem mJ:∀ (ps:List (Nat×Operand)) (k:Nat),(∀ t,Operand.tmp t∈ps.map (·.2)->A'.get t=A.get t)->dY A' k ps=dY A k ps
 | [],_,_=>rfl
 | (i,x)::r,k,h=>by
   simp only[dY]
   rw[mJ r (k+1) (fun t ht=>h t (by simp[ht])),jQ (x:=x) (fun t e=>h t (by simp[e]))]
def tw(places:List (Nat×Nat)):List V->List (Nat×V)->Option (List V)
 | zs,[]=>some zs
 | zs,(i,v)::r=>match places[i]?,zs[i]? with
   | some (off,sz),some z=>if (V.ns (zs.take i)==off&&v.n==sz&&z.n==sz&&v.isVal)=true then tw places (zs.set i v) r else none
   | _,_=>none
theorem wM{places:List (Nat×Nat)}:∀ {ps:List (Nat×V)} {zs vs:List V},tw places zs ps=some vs->∃ C,ox places zs ps=some (C,vs)/\C
 | [],zs,vs,h=>by simp only[tw,Option.some.injEq]at h;subst h;exact⟨True,rfl,trivial⟩
 | (i,v)::r,zs,vs,h=>by
   simp only[tw]at h
   split at h
   rename_i off sz z h1 h2
   split at h
   rename_i hb
   simp only[Bool.and_eq_true,beq_iff_eq]at hb
   obtain⟨C,hf,hC⟩:=wM h
   exact⟨V.ns (zs.take i)=off/\v.n=sz/\z.n=sz/\v.isVal=true/\C,by simp only[ox,h1,h2,hf],hb.1.1.1,hb.1.1.2,hb.1.2,hb.2,hC⟩
   simp at h
   simp at h
def kG(P:Program)(A:AS)(T:Nat)(zs:List V)(b7:List (Nat×Operand)):Option V:=
 match tD P T with
 | some (.st fs)=>match lu P fs with
   | some places=>match tw places zs (b7.map fun (i,x)=>(i,A.cp x)) with
     | some vs=>some (.agg vs)
     | none=>none
   | none=>none
 | _=>none
theorem vb{T:Nat}{zs:List V}{b7:List (Nat×Operand)}{v:V}(h:kG P A T zs b7=some v):∃ C,pW P A T zs b7=some (C,v)/\C:=by
 unfold kG at h
 split at h
 rename_i fs h1
 split at h
 rename_i places h2
 split at h
 rename_i vs h3
 simp only[Option.some.injEq]at h
 subst h
 obtain⟨C,hf,hC⟩:=wM h3
 exact⟨C,by simp only[pW,h1,h2,hf],hC⟩
 simp at h
 simp at h
 simp at h
theorem Di{K:AS->Prop} {d:Option Nat} {T ty:Nat} {b7:Array (Nat×Operand)} {pos:String} {after:Array Edge} {rest:List Oper} (zs:List V) (v:V)
 (hz:lH P T (.agg zs)) (hd:bX N d) (hb:kG P A T zs b7.toList=some v) (hK:WL P N ops rest (A.put d v) K):
 WL P N ops (⟨d,.build T b7,ty,pos,after,none⟩ :: rest) A K:=by
 obtain⟨C,h1,h2⟩:=vb hb
 show D5 P N _ A _
 exact uW rfl hd hz h1 h2 hK
end
end Go.Abs
namespace Go.Abs
open Go Go.RowKit
section
variable {P:Program} {N:Nat} {ops:Array Oper} {A A' A1:AS}
variable {w:World} {Pb Kb:Nat->Prop} {a:Act} {F:l9->List Nat}
def n7(b:UInt8):V:=.lit (.int .u8 b.toNat)
theorem EU:∀ (bs:BL) {cs:List Value} {F:List Nat},RL w Pb (bs.map n7) cs F->cs=bs.map fun b=>Value.int .u8 (b.toNat:Int)
 | [],cs,F,h=>h.1
 | b::bs,cs,F,h=>by
   obtain⟨c1,c2,F1,F2,rfl,rfl,h1,h2⟩:=h
   rw[EU bs h2,h1.2.1];rfl
theorem xL:∀ (l:BL),RL w Pb (l.map n7) (l.map fun b=>Value.int .u8 (b.toNat:Int)) []
 | []=>⟨rfl,rfl⟩
 | b::l=>⟨[.int .u8 (b.toNat:Int)],_,[],[],rfl,rfl,⟨rfl,rfl,rfl⟩,xL l⟩
theorem nh:∀ (bs:BL),V.aD (bs.map n7)=false
 | []=>rfl
 | b::bs=>by simp[V.aD,n7,V.cB,nh bs]
theorem pY(bs:BL):aG 1 (bs.map n7):=fun x hx=>by
 obtain⟨b,_,rfl⟩:=List.mem_map.1 hx;rfl
theorem zi:∀ (bs l:BL),(bs.map fun b=>(b.toNat:Int)).foldl (fun (r:ByteArray) n=>r.push (UInt8.ofNat n.toNat)) (Str l)=Str (l++bs)
 | [],l=>by simp
 | b::bs,l=>by
   simp only[List.map_cons,List.foldl_cons]
   have:(Str l).push (UInt8.ofNat (b.toNat:Int).toNat)=Str (l++[b]):=by
    apply ByteArray.ext
    simp[Str,ByteArray.push]
   rw[this,zi bs];simp
theorem pN{o:Oper} {K:AS->Prop} {src dst e:Nat} {x:Operand} {C:Prop} {bs:BL} (ho:o.op=.convert src dst x) (hd:bX N o.dst) (h1:tD P src=some (.sl e)) (h2:tD P e=some (.int .u8)) (h3:tD P dst=some .str)
 (hx:LZ A x=some (C,bs.map n7)) (hC:C) (hK:K (A.put o.dst (sV bs))):D5 P N o A K:=by
 refine gN hd hK fun Pb Kb a w F hs=>?_
 obtain⟨B,c,flat,hv,hr,hf,hl⟩:=lF (P:=P) hs hx hC (pY bs) (nh bs)
 obtain⟨td,Uz,Ku⟩:=cd h1
 obtain⟨Pl,LA,NO⟩:=cd h2
 obtain⟨Ua,Uy,TW⟩:=cd h3
 cases td <;> simp[cO]at Ku
 cases Pl <;> simp[cO]at NO
 cases Ua <;> simp[cO]at TW
 subst Ku NO
 refine⟨.string (Str bs),?_,cZ rfl⟩
 have OH:=EU bs hr
 simp only[execOp,ho,hv,Sem.run_bind,run_convert_bytes_string w src dst _ B _ c Uz LA Uy]
 have x9:(Conv.bytesToString (.slice B (bs.map n7).length c)).run P w=.ok (.string (Str bs)) w:=by
  cases B with
  | none=>
    have:=hf w (fun _=>rfl)
    rw[hv]at this
    simp only[Builtin.firstCells]at this
    have hb:flat=[]:=by
     have h:=this
     simp at h
     exact h
    rw[OH]at hb
    have:bs=[]:=by simpa using hb
    subst this
    rfl
  | some ad=>
    have:=hf w (fun _=>rfl)
    rw[hv]at this
    simp only[Builtin.firstCells,Nat.mul_one]at this
    rw[run_bytesToString w ad _ c (bs.map fun b=>(b.toNat:Int)) (by rw[this,OH];simp[List.map_map,Function.comp_def])]
    have:=zi bs []
    simp only[List.nil_append]at this
    rw[<- this];rfl
 rw[x9];rfl
theorem xp{o:Oper} {K:AS->Prop} {src dst e d:Nat} {x:Operand} {l:BL} (ho:o.op=.convert src dst x) (hd:o.dst=some d) (hN:d<N) (h1:tD P src=some .str) (h2:tD P dst=some (.sl e)) (h3:tD P e=some (.int .u8))
 (hx:A.ev x=sV l) (hK:∀ g c,K (A.put (some d) (.own 1 (l.map n7) g 0 c))):D5 P N o A K:=by
 intro Pb Kb a w F Q hs
 obtain⟨td,Uz,Ku⟩:=cd h1
 obtain⟨Pl,LA,NO⟩:=cd h2
 obtain⟨Ua,Uy,TW⟩:=cd h3
 cases td <;> simp[cO]at Ku
 cases Pl <;> simp[cO]at NO
 cases Ua <;> simp[cO]at TW
 obtain rfl:=NO
 subst TW
 rename_i el
 have Ru:=bJ hs hx
 have x9:=Lib.run_convert_string_bytes (P:=P) w src dst _ (Str l) Uz LA Uy
 unfold Oper.wp
 have Lf:(execOp a.eval o).run P w=.ok (.value (.slice (some ⟨w.heap.size,0,none⟩) (Str l).size (grownCap w (Str l).size 0 el))) (Lib.bytesWorld w el (Str l)):=by
  simp only[execOp,ho,Ru,Sem.run_bind,x9,Result.andThen_ok];rfl
 rw[Lf,Oper.upon_value,hd]
 have hold:=fun j (hj:j<w.heap.size)=>Lib.bytesWorld_at_old w el (Str l) j hj
 have hsz:=Lib.bytesWorld_size w el (Str l)
 have L3:=Lib.bytesWorld_at_new w el (Str l)
 obtain⟨w',NN⟩:∃ w',w'=Lib.bytesWorld w el (Str l):=⟨_,rfl⟩
 obtain⟨c,hc⟩:∃ c,c=grownCap w (Str l).size 0 el:=⟨_,rfl⟩
 have hcap:l.length<=c:=by
  rw[hc,<- fV]
  simp only[grownCap,Question.cut];exact Nat.le_add_right _ _
 have Nn:w8 Kb w w':=by
  rw[NN];exact⟨rfl,rfl,rfl,by omega,fun g hg=>hold g (hs.bound g hg),Shp.of_eq hold⟩
 have x7:s4 N Pb Kb A a w' F:=hs.grow (by rw[NN];exact hold) (by rw[NN];omega) (fun _ h=>h) (fun g h=>.inl h) hs.sub
 rw[<- NN,<- hc]
 have Rt:∀ r g,g∈F r->g≠w.heap.size:=fun r g hg=>by have:=(hs.free r g hg).2;omega
 have MH: ¬ Kb w.heap.size:=fun h=>by have:=hs.bound _ h;omega
 by_cases h0:c=0
 have RU:l=[]:=List.eq_nil_of_length_eq_zero (by omega)
 subst RU
 have hrv:RV w' Pb (.own 1 (([]:BL).map n7) 0 0 0) (.slice (some ⟨w.heap.size,0,none⟩) (Str []).size c) []:=.inl ⟨rfl,rfl,rfl,some ⟨w.heap.size,0,none⟩,by rw[h0];rfl⟩
 exact⟨_,Pb,Kb,_,hK 0 0,x7.put hN (F':=[]) hrv (by simp) List.nodup_nil (by simp),fun _ h=>h,fun _ h=>h,fun _ h=>.inl h,Nn⟩
 have hrv:RV w' Pb (.own 1 (l.map n7) w.heap.size 0 c) (.slice (some ⟨w.heap.size,0,none⟩) (Str l).size c) [w.heap.size]:=by
  refine .inr ⟨by omega,by omega,by simpa using hcap,?_,pY l,fun h=>MH (hs.sub _ h),l.map (fun b=>Value.int .u8 (b.toNat:Int)),[],Lib.bytesCells w el (Str l),rfl,xL l,?_,?_,?_⟩
  simp[fV]
  exact⟨el,((Lib.bytesCells w el (Str l)).size,(Lib.bytesCells w el (Str l)).size+1),by rw[NN];exact L3,fun i hi=>by simp;omega⟩
  simp only[Lib.bytesCells,Array.size_append,Array.size_map,Array.size_replicate,<- hc]
  have:(Str l).data.size=l.length:=by simp[Str]
  rw[this,fV];omega
  intro j u hu
  simp only[List.getElem?_map,Option.map_eq_some_iff]at hu
  obtain⟨b,hb,rfl⟩:=hu
  have hj:j<l.length:=(List.getElem?_eq_some_iff.1 hb).1
  simp only[Lib.bytesCells,Nat.zero_add]
  rw[Array.getElem?_append_left (by simp[Str];exact hj)]
  simp[Str,hb]
 refine⟨_,Pb,Kb,_,hK w.heap.size c,x7.put hN (F':=[w.heap.size]) hrv ?_ (by simp) ?_,fun _ h=>h,fun _ h=>h,fun _ h=>.inl h,Nn⟩
 intro r _ g hg MB
 simp only[List.mem_singleton]at hg
 exact Rt r g MB hg
 intro g hg
 simp only[List.mem_singleton]at hg
 subst hg
 exact⟨MH,by rw[NN];omega⟩
theorem yj{K:AS->Prop} {d:Option Nat} {src dst ty:Nat} {x:Operand} {pos:String} {after:Array Edge} {rest:List Oper} (e:Nat) (C:Prop) (bs:BL)
 (ht:tD P src=some (.sl e)/\tD P e=some (.int .u8)/\tD P dst=some .str) (hd:bX N d) (hx:LZ A x=some (C,bs.map n7)) (hC:C) (hK:WL P N ops rest (A.put d (sV bs)) K):
 WL P N ops (⟨d,.convert src dst x,ty,pos,after,none⟩ :: rest) A K:=by
 show D5 P N _ A _
 exact pN rfl hd ht.1 ht.2.1 ht.2.2 hx hC hK
theorem yd{K:AS->Prop} {d src dst ty:Nat} {x:Operand} {pos:String} {after:Array Edge} {rest:List Oper} (e:Nat) (l:BL)
 (ht:tD P src=some .str/\tD P dst=some (.sl e)/\tD P e=some (.int .u8)) (hN:d<N) (hx:A.ev x=sV l) (hK:∀ g c,WL P N ops rest (A.put (some d) (.own 1 (l.map n7) g 0 c)) K):
 WL P N ops (⟨some d,.convert src dst x,ty,pos,after,none⟩ :: rest) A K:=by
 show D5 P N _ A _
 exact xp rfl rfl hN ht.1 ht.2.1 ht.2.2 hx hK
end
end Go.Abs
namespace Go.Abs
open Go Go.RowKit
section
variable {P:Program} {N:Nat} {ops:Array Oper} {A A' A1:AS}
variable {w:World} {Pb Kb:Nat->Prop} {a:Act} {F:l9->List Nat}
theorem s4.xQ(hs:s4 N Pb Kb A a w F){t:Nat}{v:V}(ht:t<N)(h:RV w Pb v (a.tmps.getD t undef) (F (.slot t))):s4 N Pb Kb (A.put (some t) v) a w F:=by
 have h2:=hs.put (d:=t) (v:=v) (x:=a.tmps.getD t undef) (F':=F (.slot t)) ht h (fun r hr g hg=>hs.bM _ _ (Ne.symm hr) g hg) (hs.nodup _) (fun g hg=>hs.free _ g hg)
 rw[nR]at h2
 have e:bL F (.slot t) (F (.slot t))=F:=by
  funext r;unfold bL;split
  rename_i e;rw[e]
  rfl
 rw[e]at h2
 exact h2
theorem s4.gg(hs:s4 N Pb Kb A a w F){t i sz n g o c:Nat}{xs:List V}(ht:t<N)(hi:i<N)(O5:t≠i)(h1:A.get t=.hd (.slot i) [] sz g o 0 n c)(h2:A.get i=.own sz xs g o c)(hn:n=xs.length):
 ∃ F',s4 N Pb Kb ((A.put (some i) .b9).put (some t) (.own sz xs g o c)) a w F':=by
 subst hn
 obtain⟨Fx,F1,hr,K0,hnd,u0,hfr,_⟩:=hs.take (.tmp i)
 rw[nK h2]at K0
 have hr:RV w Pb (A.get i) (a.tmps.getD i undef) Fx:=hr
 rw[h2]at hr
 have hh:=hs.slot t
 rw[h1]at hh
 obtain⟨_,hle,B,hv,hB⟩:=hh
 have hv:a.tmps.getD t undef=.slice B xs.length c:=(List.cons.inj hv).1
 have D6:RV w Pb (.own sz xs g o c) (a.tmps.getD t undef) Fx:=by
  rw[hv]
  rcases hr with ⟨rfl,rfl,rfl,A0,_⟩ | ⟨k1,k2,k3,k4,k5⟩
  exact .inl ⟨rfl,rfl,rfl,B,rfl⟩
  have:=hB k1
  rw[Nat.zero_mul,Nat.add_zero]at this
  subst this
  exact .inr ⟨k1,k2,k3,rfl,k5⟩
 have h3:=K0.put (d:=t) (v:=.own sz xs g o c) (x:=a.tmps.getD t undef) (F':=Fx) ht D6 (fun r _ g hg=>u0 r g hg) hnd hfr
 rw[nR]at h3
 exact⟨_,h3⟩
theorem cm{α:Type}{f:α->V}(hf:∀ x,(f x).cB=false):∀ (l:List α),V.aD (l.map f)=false
 | []=>rfl
 | x::l=>by simp only[List.map_cons,V.aD,hf x,cm hf l,Bool.or_self]
theorem dJ{α:Type}{f:α->V}{n:Nat}(hf:∀ x,(f x).n=n)(l:List α):aG n (l.map f):=fun x hx=>by
 obtain⟨y,_,rfl⟩:=List.mem_map.1 hx;exact hf y
theorem aL{α:Type}{f:α->V}(hf:∀ x,(f x).er=f x):∀ (l:List α),V.A8 (l.map f)=l.map f
 | []=>rfl
 | x::l=>by simp only[List.map_cons,V.A8,hf x,aL hf l]
end
end Go.Abs
namespace Go.Abs
open Go Go.RowKit
section
variable {P:Program} {N:Nat} {ops:Array Oper} {A A' A1:AS}
variable {w:World} {Pb Kb:Nat->Prop} {a:Act} {F:l9->List Nat}
theorem wI{o:Oper} {K:AS->Prop} {x y:Operand} {J6:Array TypeId} {k:IntKind} {p q r:Int} {b:Builtin} (ho:o.op=.call { callee:=.builtin b,args:= #[x,y],argTypes:=J6 }) (hd:bX N o.dst)
 (hx:A.ev x=.lit (.int k p)) (hy:A.ev y=.lit (.int k q)) (hb:(b=.max/\r=max p q)\/(b=.min/\r=min p q)) (hK:K (A.put o.dst (.lit (.int k r)))):D5 P N o A K:=by
 refine gN hd hK fun Pb Kb a w F hs=>⟨.int k r,?_,cZ rfl⟩
 have e:(#[x,y].map a.eval)= #[.int k p,.int k q]:=by simp[bJ hs hx,bJ hs hy]
 rcases hb with ⟨rfl,rfl⟩ | ⟨rfl,rfl⟩
 simp only[execOp,ho,resolve,invoke,builtin,Sem.run_bind,Sem.run_pure,Result.andThen_ok,e,Lib.run_max_ints]
 simp only[execOp,ho,resolve,invoke,builtin,Sem.run_bind,Sem.run_pure,Result.andThen_ok,e,Lib.run_min_ints]
theorem Ho{K:AS->Prop} {d:Option Nat} {x y:Operand} {J6:Array TypeId} {ty:TypeId} {pos:String} {after:Array Edge} {rest:List Oper} (k:IntKind) (p q:Int) (hd:bX N d)
 (hx:A.ev x=.lit (.int k p)) (hy:A.ev y=.lit (.int k q)) (hK:WL P N ops rest (A.put d (.lit (.int k (max p q)))) K):
 WL P N ops (⟨d,.call { callee:=.builtin .max,args:= #[x,y],argTypes:=J6 },ty,pos,after,none⟩ :: rest) A K:=by
 show D5 P N _ A _
 exact wI rfl hd hx hy (.inl ⟨rfl,rfl⟩) hK
theorem HA{K:AS->Prop} {d:Option Nat} {x y:Operand} {J6:Array TypeId} {ty:TypeId} {pos:String} {after:Array Edge} {rest:List Oper} (k:IntKind) (p q:Int) (hd:bX N d)
 (hx:A.ev x=.lit (.int k p)) (hy:A.ev y=.lit (.int k q)) (hK:WL P N ops rest (A.put d (.lit (.int k (min p q)))) K):
 WL P N ops (⟨d,.call { callee:=.builtin .min,args:= #[x,y],argTypes:=J6 },ty,pos,after,none⟩ :: rest) A K:=by
 show D5 P N _ A _
 exact wI rfl hd hx hy (.inr ⟨rfl,rfl⟩) hK
theorem BP{sz g o c lo n c':Nat} {xs:List V} {x y:Value} {Fx:List Nat} (hr:R w Pb (.own sz xs g o c) [x] Fx) (hle:n<=c') {B:Option Addr} (hy:y=.slice B n c') (hB:0<c'->B=some ⟨g,o+lo*sz,none⟩)
 (hn:lo+n<=xs.length) (hc:lo+c'<=c) (ho:V.aD xs=false):∃ F',R w Pb (.own sz ((xs.drop lo).take n) g (o+lo*sz) c') [y] F'/\∀ z,z∈F'->z∈Fx:=by
 subst hy
 by_cases h0:c'=0
 subst h0
 have:n=0:=by omega
 subst this
 exact⟨[],.inl ⟨rfl,by simp,rfl,B,rfl⟩,by simp⟩
 rcases hr with ⟨rfl,_⟩ | ⟨h1,h2,h3,_,hN,hP,flat,F',cells,hF,LC,hb,hsz,s3⟩
 omega
 have hF0:=fc xs ho LC
 subst hF0
 obtain⟨c1,M1,K1⟩:=ng xs lo LC
 obtain⟨c3,RS,Td⟩:=nj _ n M1
 have hlen:((xs.drop lo).take n).length=n:=by simp;omega
 refine⟨[g],.inr ⟨by omega,h2,by omega,?_,fun z hz=>hN z (List.mem_of_mem_drop (List.mem_of_mem_take hz)),hP,c3,[],cells,rfl,RS,hb,?_,fun j u hu=>?_⟩,by rw[hF];simp⟩
 rw[hlen,hB (by omega)]
 have:(lo+c')*sz<=c*sz:=Nat.mul_le_mul_right _ hc
 rw[Nat.add_mul]at this;omega
 have:=K1 j u (Td j u hu)
 rw[du xs lo hN (by omega)]at this
 have:=s3 _ _ this
 rw[Nat.add_assoc];exact this
theorem zX{K:AS->Prop} {i:Nat} {x:Operand} {ty:TypeId} {pos:String} {after:Array Edge} {rest:List Oper} (lo n c':Nat) {sz g o c:Nat} (xs:List V) (hi:i<N)
 (hx:A.ev x=.hd (.slot i) [] sz g o lo n c') (h2:A.get i=.own sz xs g o c) (hn:lo+n<=xs.length) (hc:lo+c'<=c) (ho:V.aD xs=false)
 (hK:WL P N ops rest (A.put (some i) (.own sz ((xs.drop lo).take n) g (o+lo*sz) c')) K):WL P N ops (⟨some i,.assign x,ty,pos,after,none⟩ :: rest) A K:=by
 show D5 P N _ A _
 intro Pb Kb a w F Q hs
 obtain⟨_,hr⟩:=df hs x
 rw[hx]at hr
 obtain⟨_,hle,B,hv,hB⟩:=hr
 have hv:a.eval x=.slice B n c':=(List.cons.inj hv).1
 have LB:=hs.slot i
 rw[h2]at LB
 obtain⟨F',D6,LJ⟩:=BP (w:=w) (Pb:=Pb) LB hle hv hB hn hc ho
 have hnd:F'.Nodup:=by
  rcases D6 with ⟨_,_,rfl,_⟩ | ⟨_,_,_,_,_,_,flat,F2,cells,hF,LC,_⟩
  exact List.nodup_nil
  have:=fc _ (by
   have:=nQ xs lo ho
   have h3:∀ (l:List V) (k:Nat),V.aD l=false->V.aD (l.take k)=false:=by
    intro l
    induction l with
    | nil=>intro k _;simp[V.aD]
    | cons v l ih=>
      intro k h
      cases k with
      | zero=>rfl
      | succ k=>simp only[List.take_succ_cons,V.aD,Bool.or_eq_false_iff]at h ⊢;exact⟨h.1,ih k h.2⟩
   exact h3 _ n this) LC
  subst this
  rw[hF];simp
 unfold Oper.wp
 have:(execOp a.eval ⟨some i,.assign x,ty,pos,after,none⟩).run P w=.ok (.value (a.eval x)) w:=rfl
 rw[this,Oper.upon_value]
 exact⟨_,Pb,Kb,_,hK,hs.put hi D6 (fun r hr g hg=>fun MB=>hs.bM _ _ (Ne.symm hr) g (LJ g hg) MB) hnd (fun g hg=>hs.free _ g (LJ g hg)),fun _ h=>h,fun _ h=>h,fun _ h=>.inl h,w8.refl _ _⟩
end
end Go.Abs
namespace Go.Abs
open Go Go.RowKit
section
variable {P:Program} {N:Nat} {ops:Array Oper} {A A' A1:AS}
variable {w:World} {Pb Kb:Nat->Prop} {a:Act} {F:l9->List Nat}
end
end Go.Abs
namespace Go.Abs
open Go Go.RowKit
section
variable {P:Program} {N:Nat} {ops:Array Oper} {A A' A1:AS}
def tL(A:AS):List ResultVar->Option (Prop×List (l9×V))
 | []=>some (True,[])
 | r::rs=>match tL A rs with
   | some (C,xs)=>match r with
     | .tmp t=>some (C,(.slot t,A.get t)::xs)
     | .cell t _=>match A.get t with
       | .ptr (.key k) [] g 0=>match lk k A.h with
         | some (g',v)=>some (g'=g/\C,(.key k,v)::xs)
         | none=>none
       | _=>none
   | none=>none
theorem qa:∀ {rs:List ResultVar} {C:Prop} {xs:List (l9×V)},tL A rs=some (C,xs)->C->nP A rs=some xs
 | [],C,xs,h,_=>by simp only[tL,Option.some.injEq,Prod.mk.injEq]at h;rw[<- h.2];rfl
 | r::rs,C,xs,h,hC=>by
   simp only[tL]at h
   split at h
   case h_2=>simp at h
   rename_i C1 xs1 hr
   cases r with
   | tmp t=>
     simp only[Option.some.injEq,Prod.mk.injEq]at h
     obtain⟨rfl,rfl⟩:=h
     simp only[nP,wh,qa hr hC]
   | cell t T=>
     simp only at h
     split at h
     rename_i k g hg
     split at h
     rename_i g' v hk
     simp only[Option.some.injEq,Prod.mk.injEq]at h
     obtain⟨rfl,rfl⟩:=h
     obtain⟨rfl,hC⟩:=hC
     simp only[nP,wh,hg,hk,if_true,qa hr hC]
     simp at h
     simp at h
end
end Go.Abs
namespace Go.Abs
open Go Go.RowKit
mutual
def V.kill:V->V
 | .own .. =>.b9
 | .ow .. =>.b9
 | .om .. =>.b9
 | .agg vs=>.agg (V.iJ vs)
 | v=>v
def V.iJ:List V->List V
 | []=>[]
 | v::vs=>v.kill::V.iJ vs
end
section
variable {P:Program} {N:Nat} {ops:Array Oper} {A A' A1:AS}
variable {w:World} {Pb Kb:Nat->Prop} {a:Act} {F:l9->List Nat}
mutual
theorem wS:∀ v:V,v.kill.n=v.n
 | .own .. =>rfl
 | .ow .. =>rfl
 | .om .. =>rfl
 | .mp .. =>rfl
 | .agg vs=>by simp only[V.kill,V.n];exact yX vs
 | .tup _=>rfl | .gv _ _=>rfl | .lit _=>rfl | .sl .. =>rfl | .hd .. =>rfl | .ptr .. =>rfl | .ep _=>rfl | .b9=>rfl
theorem yX:∀ vs:List V,V.ns (V.iJ vs)=V.ns vs
 | []=>rfl
 | v::vs=>by simp only[V.iJ,V.ns,wS v,yX vs]
end
mutual
theorem BS:∀ (v:V) {cs F},R w Pb v cs F->R w Pb v.kill cs []
 | .own sz xs g o c,cs,F,h=>by
   rcases h with ⟨_,_,_,B,rfl⟩ | ⟨_,_,_,rfl,_⟩ <;> exact⟨rfl,_,rfl,rfl⟩
 | .ow sz xs,cs,F,h=>by
   obtain⟨g,o,c,h⟩:=h
   rcases h with ⟨_,_,_,B,rfl⟩ | ⟨_,_,_,rfl,_⟩ <;> exact⟨rfl,_,rfl,rfl⟩
 | .om ..,_,_,h=>⟨rfl,_,h.2.1,rfl⟩
 | .mp ..,_,_,h=>⟨rfl,h.2⟩
 | .agg vs,cs,F,h=>by simp only[R,V.kill]at h ⊢;exact yH vs h
 | .tup _,_,_,h=>by simp[R]at h
 | .gv _ _,_,_,h=>by simp[R]at h
 | .lit x,_,_,h=>⟨h.1,h.2.1,rfl⟩
 | .sl ..,_,_,h=>⟨rfl,h.2⟩
 | .hd ..,_,_,h=>⟨rfl,h.2⟩
 | .ptr ..,_,_,h=>⟨rfl,h.2⟩
 | .ep _,_,_,h=>⟨rfl,h.2⟩
 | .b9,_,_,h=>⟨rfl,h.2⟩
theorem yH:∀ (vs:List V) {cs F},RL w Pb vs cs F->RL w Pb (V.iJ vs) cs []
 | [],_,_,h=>⟨h.1,rfl⟩
 | v::vs,_,_,h=>by
   obtain⟨c1,c2,F1,F2,rfl,rfl,h1,h2⟩:=h
   exact⟨c1,c2,[],[],rfl,rfl,BS v h1,yH vs h2⟩
end
def iK(F F1 F2:List Nat):Prop:=(∀ y,y∈F1->y∈F)/\(∀ y,y∈F2->y∈F)/\(F.Nodup->F1.Nodup/\F2.Nodup/\∀ y,y∈F1->y ∉ F2)
theorem iK.Tz{X F Y F1 F2:List Nat}(h:iK F F1 F2):iK (X++F++Y) (X++F1++Y) F2:=by
 obtain⟨h1,h2,h3⟩:=h
 refine⟨fun y hy=>?_,fun y hy=>by simp[h2 y hy],fun hnd=>?_⟩
 simp only[List.mem_append]at hy ⊢
 rcases hy with (hy | hy) | hy
 exact .inl (.inl hy)
 exact .inl (.inr (h1 y hy))
 exact .inr hy
 simp only[List.nodup_append,List.mem_append]at hnd ⊢
 obtain⟨⟨n1,n2,n3⟩,n4,n5⟩:=hnd
 obtain⟨k1,k2,k3⟩:=h3 n2
 refine⟨⟨⟨n1,k1,fun p hp q hq=>n3 p hp q (h1 q hq)⟩,n4,fun p hp q hq=>?_⟩,k2,fun y hy RP=>?_⟩
 rcases hp with hp | hp
 exact n5 p (.inl hp) q hq
 exact n5 p (.inr (h1 p hp)) q hq
 rcases hy with (hy | hy) | hy
 exact n3 y hy y (h2 y RP) rfl
 exact k3 y hy RP
 exact n5 y (.inr (h2 y RP)) y hy rfl
theorem ld:∀ (vs:List V) {cs F} {j:Nat} {u u':V},RL w Pb vs cs F->vs[j]? =some u->∃ c Fa Fj Fb,F=Fa++Fj++Fb/\R w Pb u c Fj/\(∀ i x,c[i]? =some x->cs[V.ns (vs.take j)+i]? =some x)/\
 ∀ RD,R w Pb u' c RD->RL w Pb (vs.set j u') cs (Fa++RD++Fb)
 | [],_,_,_,_,_,_,h=>by simp at h
 | v::vs,cs,F,0,u,u',h,hj=>by
   obtain⟨c1,c2,F1,F2,rfl,rfl,h1,h2⟩:=h
   simp at hj;subst hj
   refine⟨c1,[],F1,F2,by simp,h1,fun i x hx=>?_,fun RD hr=>⟨c1,c2,RD,F2,rfl,by simp,hr,h2⟩⟩
   simp only[List.take_zero,V.ns,Nat.zero_add]
   rw[List.getElem?_append_left (List.getElem?_eq_some_iff.1 hx).1];exact hx
 | v::vs,cs,F,j+1,u,u',h,hj=>by
   obtain⟨c1,c2,F1,F2,rfl,rfl,h1,h2⟩:=h
   obtain⟨c,Fa,Fj,Fb,rfl,k1,k2,k3⟩:=ld vs (u':=u') h2 (by simpa using hj)
   refine⟨c,F1++Fa,Fj,Fb,by simp,k1,fun i x hx=>?_,fun RD hr=>⟨c1,c2,F1,Fa++RD++Fb,rfl,by simp,h1,k3 RD hr⟩⟩
   have hl:=dK _ h1
   simp only[List.take_succ_cons,V.ns]
   rw[List.getElem?_append_right (by omega)]
   rw[show v.n+V.ns (vs.take j)+i-c1.length=V.ns (vs.take j)+i by omega]
   exact k2 i x hx
theorem iK.refl(F:List Nat):iK F [] F:=⟨by simp,fun _ h=>h,fun h=>⟨List.nodup_nil,h,by simp⟩⟩
theorem qm:∀ (p:List Nat) {v u:V} {g o g' o':Nat} {cs:List Value} {F:List Nat} {cells:Array Value},R w Pb v cs F->Blk w g cells->(∀ j x,cs[j]? =some x->cells[o+j]? =some x)->V.at g o v p=some (g',o',u)->
 ∃ F1 Fu,R w Pb (v.set p u.kill) cs F1/\At w Pb u g' o' Fu/\iK F F1 Fu
 | [],v,u,g,o,g',o',cs,F,cells,h,hb,hc,e=>by
   simp only[V.at,Option.some.injEq,Prod.mk.injEq]at e
   obtain⟨rfl,rfl,rfl⟩:=e
   exact⟨[],F,by simpa only[V.set] using BS v h,⟨cs,cells,hb,h,hc⟩,iK.refl F⟩
 | j::p,v,u,g,o,g',o',cs,F,cells,h,hb,hc,e=>by
   cases v with
   | agg vs=>
     simp only[V.at]at e
     split at e
     case h_2=>simp at e
     rename_i x hx
     simp only[R]at h
     obtain⟨c,Fa,Fj,Fb,rfl,k1,k2,k3⟩:=ld vs (u':=x.set p u.kill) h hx
     obtain⟨F1,Fu,m1,m2,m3⟩:=qm p k1 hb (o:=o+V.ns (vs.take j)) (fun i y hy=>by rw[Nat.add_assoc];exact hc _ _ (k2 i y hy)) e
     exact⟨Fa++F1++Fb,Fu,by simp only[V.set,hx,R];exact k3 F1 m1,m2,m3.Tz⟩
   | own sz xs g0 o0 c0=>
     simp only[V.at]at e
     split at e
     case h_2=>simp at e
     rename_i x hx
     rcases h with ⟨_,rfl,_⟩ | ⟨h1,h2,h3,h4,hN,h5,flat,F',M8,rfl,hr,O',hsz,s3⟩
     simp at hx
     obtain⟨c,Fa,Fj,Fb,rfl,k1,k2,k3⟩:=ld xs (u':=x.set p u.kill) hr hx
     have hj:j<xs.length:=(List.getElem?_eq_some_iff.1 hx).1
     rw[du xs j hN (by omega)]at k2
     obtain⟨F1,Fu,m1,m2,m3⟩:=qm p k1 O' (o:=o0+j*sz) (fun i y hy=>by rw[Nat.add_assoc];exact s3 _ _ (k2 i y hy)) e
     have hn:(x.set p u.kill).n=x.n:=lr p e (wS u)
     refine⟨g0::(Fa++F1++Fb),Fu,?_,m2,?_⟩
     simp only[V.set,hx]
     refine .inr ⟨h1,h2,by simpa using h3,by simpa using h4,fun y hy=>?_,h5,flat,_,M8,rfl,k3 F1 m1,O',hsz,s3⟩
     rcases List.mem_or_eq_of_mem_set hy with hy | rfl
     exact hN y hy
     rw[hn];exact hN x (List.mem_of_getElem? hx)
     have:=iK.Tz (X:=g0::Fa) (Y:=Fb) m3
     simpa using this
   | _=>simp[V.at]at e
theorem Cl{j:Nat}{p:List Nat}{u:V}{g o g' o' sz g0 o0 c0:Nat}{xs:List V}{cs:List Value}{F:List Nat}(h:R w Pb (.own sz xs g0 o0 c0) cs F)(e:V.at g o (.own sz xs g0 o0 c0) (j::p)=some (g',o',u)):
 ∃ F1 Fu,R w Pb ((V.own sz xs g0 o0 c0).set (j::p) u.kill) cs F1/\At w Pb u g' o' Fu/\iK F F1 Fu:=by
 simp only[V.at]at e
 split at e
 case h_2=>simp at e
 rename_i x hx
 rcases h with ⟨_,rfl,_⟩ | ⟨h1,h2,h3,h4,hN,h5,flat,F',M8,rfl,hr,O',hsz,s3⟩
 simp at hx
 obtain⟨c,Fa,Fj,Fb,rfl,k1,k2,k3⟩:=ld xs (u':=x.set p u.kill) hr hx
 have hj:j<xs.length:=(List.getElem?_eq_some_iff.1 hx).1
 rw[du xs j hN (by omega)]at k2
 obtain⟨F1,Fu,m1,m2,m3⟩:=qm p k1 O' (o:=o0+j*sz) (fun i y hy=>by rw[Nat.add_assoc];exact s3 _ _ (k2 i y hy)) e
 have hn:(x.set p u.kill).n=x.n:=lr p e (wS u)
 refine⟨g0::(Fa++F1++Fb),Fu,?_,m2,?_⟩
 simp only[V.set,hx]
 refine .inr ⟨h1,h2,by simpa using h3,by simpa using h4,fun y hy=>?_,h5,flat,_,M8,rfl,k3 F1 m1,O',hsz,s3⟩
 rcases List.mem_or_eq_of_mem_set hy with hy | rfl
 exact hN y hy
 rw[hn];exact hN x (List.mem_of_getElem? hx)
 have:=iK.Tz (X:=g0::Fa) (Y:=Fb) m3
 simpa using this
theorem s4.split(hs:s4 N Pb Kb A a w F){r:l9}{p:List Nat}{g o:Nat}{u:V}(x5:A.at r p=some (g,o,u)):
 ∃ Fr Fu,s4 N Pb Kb (A.setAt r p u.kill) a w (bL F r Fr)/\At w Pb u g o Fu/\Fu.Nodup/\(∀ r' y,y∈Fu->y ∉ bL F r Fr r')/\(∀ y,y∈Fu->¬ Kb y/\y<w.heap.size):=by
 have main:∃ Fr Fu,At w Pb u g o Fu/\iK (F r) Fr Fu/\(match r with
      | .key k=> ∀ g0 t,lk k A.h=some (g0,t)->∃ F',Fr=g0::F'/\At w Pb (t.set p u.kill) g0 0 F'
      | .slot i=>RV w Pb ((A.get i).set p u.kill) (a.tmps.getD i undef) Fr):=by
  cases r with
  | key k=>
    simp only[AS.at]at x5
    split at x5
    rename_i g0 t hk
    obtain⟨F0,hF,cs,cells,hb,hr,hc⟩:=hs.root k g0 t hk
    obtain⟨F1,Fu,m1,m2,m3⟩:=qm p hr hb hc x5
    refine⟨g0::F1,Fu,m2,?_,fun g1 t1 M6=>?_⟩
    rw[hF]
    have:=iK.Tz (X:=[g0]) (Y:=[]) m3
    simpa using this
    rw[hk]at M6
    simp only[Option.some.injEq,Prod.mk.injEq]at M6
    obtain⟨rfl,rfl⟩:=M6
    exact⟨F1,rfl,cs,cells,hb,m1,hc⟩
    simp at x5
  | slot i=>
    simp only[AS.at]at x5
    split at x5
    rename_i sz xs g0 o0 c0 j p' hg _
    have hr:=hs.slot i
    rw[hg]at hr
    obtain⟨F1,Fu,m1,m2,m3⟩:=Cl (w:=w) (Pb:=Pb) hr x5
    refine⟨F1,Fu,m2,m3,?_⟩
    simp only[hg]
    have e:∃ ys,(V.own sz xs g0 o0 c0).set (j::p') u.kill=.own sz ys g0 o0 c0:=by
     simp only[V.set];split
     exact⟨_,rfl⟩
     exact⟨_,rfl⟩
    obtain⟨ys,e⟩:=e
    rw[e]at m1 ⊢
    exact m1
    simp at x5
 obtain⟨Fr,Fu,hA,hP,hm⟩:=main
 obtain⟨p1,p2,p3⟩:=hP
 obtain⟨n1,n2,n3⟩:=p3 (hs.nodup r)
 refine⟨Fr,Fu,⟨hs.size,hs.defers,fun i=>?_,fun k g0 t hk=>?_,fun r1 r2 hne y hy=>?_,fun r1=>?_,fun r1 y hy=>?_,hs.sub,hs.bound⟩,hA,n2,fun r' y hy=>?_,fun y hy=>hs.free r y (p2 y hy)⟩
 by_cases Ps:r=.slot i
 subst Ps
 simp only[bL,if_true,AS.setAt,AS.get,lk,Option.getD_some]
 exact hm
 simp only[bL,if_neg (Ne.symm Ps)]
 have:(A.setAt r p u.kill).get i=A.get i:=by
  cases r with
  | key k=>simp only[AS.setAt];split <;> rfl
  | slot j=>simp only[AS.setAt,AS.get,lk];rw[if_neg (fun c=>Ps (by rw[c]))]
 rw[this]
 exact hs.slot i
 by_cases O6:r=.key k
 subst O6
 simp only[bL,if_true]
 cases No:lk k A.h with
 | none=>
   simp only[AS.setAt,No]at hk
   cases hk
 | some gt=>
   obtain⟨g1,t1⟩:=gt
   simp only[AS.setAt,No,lk,if_true,Option.some.injEq,Prod.mk.injEq]at hk
   obtain⟨rfl,rfl⟩:=hk
   exact hm g1 t1 No
 simp only[bL,if_neg (Ne.symm O6)]
 refine hs.root k g0 t ?_
 rw[<- hk]
 cases r with
 | key k'=>
   have hne:k≠k':=fun c=>O6 (by rw[c])
   simp only[AS.setAt]
   split
   simp only[lk];rw[if_neg hne]
   rfl
 | slot j=>rfl
 simp only[bL]at hy ⊢
 by_cases e1:r1=r
 subst e1
 rw[if_pos rfl]at hy
 rw[if_neg (Ne.symm hne)]
 exact hs.bM r1 r2 hne y (p1 y hy)
 rw[if_neg e1]at hy
 by_cases e2:r2=r
 subst e2
 rw[if_pos rfl]
 exact fun c=>hs.bM r1 r2 hne y hy (p1 y c)
 rw[if_neg e2];exact hs.bM r1 r2 hne y hy
 simp only[bL];split
 exact n1
 exact hs.nodup r1
 simp only[bL]at hy;split at hy
 exact hs.free r y (p1 y hy)
 exact hs.free r1 y hy
 simp only[bL];split
 exact fun c=>n3 y c hy
 rename_i hne;exact fun c=>hs.bM r r' (Ne.symm hne) y (p2 y hy) c
end
end Go.Abs
namespace Go.Abs
open Go Go.RowKit
mutual
def wk:V->V->V
 | .own sz xs g o c,u=>match u with | .ow _ _=>.ow sz xs | _=>.own sz xs g o c
 | .sl f xs,u=>match u with | .sl false _=>.sl false xs | .b9=>.b9 | _=>.sl f xs
 | .ptr r p g o,u=>match u with | .ptr r' p' _ _=>.ptr r' p' g o | .b9=>.b9 | _=>.ptr r p g o
 | .lit x,u=>match u with
   | .ptr r' p' _ _=>match x with
     | .pointer (some ⟨g,o,none⟩)=>.ptr r' p' g o
     | _=>.lit x
   | .b9=>if x.oneCell' then .b9 else .lit x
   | _=>.lit x
 | .hd r p sz g o lo n c,u=>match u with | .hd r' p' _ _ _ _ _ _=>.hd r' p' sz g o lo n c | .b9=>.b9 | _=>.hd r p sz g o lo n c
 | .mp es,u=>match u with | .b9=>.b9 | _=>.mp es
 | .agg vs,u=>match u with | .agg us=>.agg (KU vs us) | _=>.agg vs
 | .tup vs,u=>match u with | .tup us=>.tup (KU vs us) | _=>.tup vs
 | v,_=>v
def KU:List V->List V->List V
 | v::vs,u::us=>wk v u::KU vs us
 | vs,_=>vs
end
section
variable {w w':World} {Pb Kb Pb':Nat->Prop} {N:Nat} {A A' B:AS} {a:Act} {F:l9->List Nat} {P:Program} {ops:Array Oper}
mutual
theorem nX:∀ (v u:V) {cs F},R w Pb v cs F->R w Pb (wk v u) cs F
 | .own sz xs g o c,u,cs,F,h=>by
   simp only[wk];split
   exact CS.2 ⟨_,_,_,h⟩
   exact h
 | .sl f xs,u,cs,F,h=>by
   simp only[wk];split
   obtain⟨hF,B,c,hc,hl,_,hx⟩:=h
   exact⟨hF,B,c,hc,hl,(fun h=>by cases h),hx⟩
   obtain⟨hF,B,c,rfl,_⟩:=h;exact⟨hF,_,rfl,rfl⟩
   exact h
 | .ptr r p g o,u,cs,F,h=>by
   simp only[wk];split
   exact h
   obtain⟨hF,rfl⟩:=h;exact⟨hF,_,rfl,rfl⟩
   exact h
 | .lit x,u,cs,F,h=>by
   simp only[wk];split
   split
   obtain⟨_,rfl,hF⟩:=h;exact⟨hF,rfl⟩
   exact h
   split
   rename_i hx;obtain⟨_,rfl,hF⟩:=h;exact⟨hF,x,rfl,hx⟩
   exact h
   exact h
 | .hd r p sz g o lo n c,u,cs,F,h=>by
   simp only[wk];split
   exact h
   obtain⟨hF,_,B,rfl,_⟩:=h;exact⟨hF,_,rfl,rfl⟩
   exact h
 | .mp es,u,cs,F,h=>by
   simp only[wk];split
   obtain⟨hF,g,rfl,_⟩:=h;exact⟨hF,_,rfl,rfl⟩
   exact h
 | .agg vs,u,cs,F,h=>by
   simp only[wk];split
   rename_i us;simp only[R]at h ⊢;exact As vs us h
   exact h
 | .tup vs,_,_,_,h=>by simp[R]at h
 | .gv _ _,_,_,_,h=>by simp[R]at h
 | .ow ..,u,_,_,h=>by simpa[wk] using h
 | .om ..,u,_,_,h=>by simpa[wk] using h
 | .ep _,u,_,_,h=>by simpa[wk] using h
 | .b9,u,_,_,h=>by simpa[wk] using h
theorem As:∀ (vs us:List V) {cs F},RL w Pb vs cs F->RL w Pb (KU vs us) cs F
 | [],us,_,_,h=>by simpa[KU] using h
 | v::vs,[],_,_,h=>by simpa[KU] using h
 | v::vs,u::us,cs,F,h=>by
   obtain⟨c1,c2,F1,F2,rfl,rfl,h1,h2⟩:=h
   exact⟨c1,c2,F1,F2,rfl,rfl,nX v u h1,As vs us h2⟩
end
theorem CK{v:V}(u:V){x:Value}{F1:List Nat}(h:L' w Pb v x F1):L' w Pb (wk v u) x F1:=by
 cases v with
 | agg us=>
   obtain⟨cs,rfl,h⟩:=h
   simp only[wk];split
   exact⟨cs,rfl,As _ _ h⟩
   exact⟨cs,rfl,h⟩
 | b9=>simpa[wk] using h
 | tup vs=>simp[L',R]at h
 | gv b u=>simp[L',R]at h
 | ow sz xs=>simpa[wk] using h
 | om es g=>simpa[wk] using h
 | ep v=>simpa[wk] using h
 | own sz xs g o c=>
   have:=nX (w:=w) (Pb:=Pb) (.own sz xs g o c) u h
   simp only[wk]at this ⊢
   split at this <;> simpa[L'] using this
 | lit y=>
   have h:R w Pb (.lit y) [x] F1:=h
   have hh:=h
   obtain⟨ho,e,hF⟩:=hh
   simp only[List.cons.injEq,and_true]at e
   subst e hF
   cases u with
   | ptr r' p' g' o'=>
     have:=nX (w:=w) (Pb:=Pb) (.lit x) (.ptr r' p' g' o') h
     simp only[wk]at this ⊢
     split at this
     exact this
     exact this
   | b9=>simp only[wk,ho,if_true];rfl
   | _=>exact h
 | sl f xs=>
   have:=nX (w:=w) (Pb:=Pb) (.sl f xs) u h
   simp only[wk]at this ⊢
   split at this
   all_goals first | simpa[L'] using this | (simp only[L'];exact this.1)
 | ptr r p g o=>
   have:=nX (w:=w) (Pb:=Pb) (.ptr r p g o) u h
   simp only[wk]at this ⊢
   split at this
   all_goals first | simpa[L'] using this | (simp only[L'];exact this.1)
 | hd r p sz g o lo n c=>
   have:=nX (w:=w) (Pb:=Pb) (.hd r p sz g o lo n c) u h
   simp only[wk]at this ⊢
   split at this
   all_goals first | simpa[L'] using this | (simp only[L'];exact this.1)
 | mp es=>
   have:=nX (w:=w) (Pb:=Pb) (.mp es) u h
   simp only[wk]at this ⊢
   split at this
   all_goals first | simpa[L'] using this | (simp only[L'];exact this.1)
theorem sO:∀ (vs:List V) {xs:List Value} {F1:List Nat},RVs w Pb vs xs F1↔match vs with | []=>xs=[]/\F1=[] | v::vs=> ∃ x xs' Fa Fb,xs=x::xs'/\F1=Fa++Fb/\L' w Pb v x Fa/\RVs w Pb vs xs' Fb
 | [],_,_=>Iff.rfl
 | v::vs,_,_=>Iff.rfl
theorem nD:∀ (vs us:List V) {xs F1},RVs w Pb vs xs F1->RVs w Pb (KU vs us) xs F1
 | [],us,_,_,h=>by simpa[KU] using h
 | v::vs,[],_,_,h=>by simpa[KU] using h
 | v::vs,u::us,xs,F1,h=>by
   obtain⟨x,xs',Fa,Fb,rfl,rfl,h1,h2⟩:=(sO (v::vs)).1 h
   exact(sO (wk v u::KU vs us)).2 ⟨x,xs',Fa,Fb,rfl,rfl,CK u h1,nD vs us h2⟩
theorem vM{v:V}(u:V){x:Value}{F1:List Nat}(h:RV w Pb v x F1):RV w Pb (wk v u) x F1:=by
 by_cases ht:∃ vs,v=.tup vs
 obtain⟨vs,rfl⟩:=ht
 obtain⟨xs,rfl,h⟩:=h
 simp only[wk];split
 exact⟨xs,rfl,nD _ _ h⟩
 exact⟨xs,rfl,h⟩
 by_cases hg:∃ b u',v=.gv b u'
 obtain⟨b,u',rfl⟩:=hg;simpa[wk] using h
 have h1:=Ca h ⟨fun us e=>ht ⟨us,e⟩,fun b u e=>hg ⟨b,u,e⟩⟩
 have h2:=CK u h1
 have back:∀ z:V,(∀ us,z≠.tup us)->(∀ b u,z≠.gv b u)->L' w Pb z x F1->RV w Pb z x F1:=by
  intro z z1 z2 hz
  cases z with
  | tup us=>exact absurd rfl (z1 us)
  | gv b u=>exact absurd rfl (z2 b u)
  | _=>exact hz
 refine back _ (fun us e=>?_) (fun b u e=>?_) h2
 · cases v <;> simp only[wk]at e <;> (repeat' split at e) <;> simp_all
 · cases v <;> simp only[wk]at e <;> (repeat' split at e) <;> simp_all
theorem Az{v:V}(u:V){g o:Nat}{F1:List Nat}(h:At w Pb v g o F1):At w Pb (wk v u) g o F1:=by
 obtain⟨cs,cells,hb,hr,hc⟩:=h
 exact⟨cs,cells,hb,nX v u hr,hc⟩
def Oh(A:AS):List (Nat×V)->Prop
 | []=>True
 | (k,v)::r=>wk (A.get k) v=v/\Oh A r
def Ny(A:AS):List (Nat×(Nat×V))->Prop
 | []=>True
 | (k,(g,v))::r=>(match lk k A.h with | some (g',v')=>(g',wk v' v)=(g,v) | none=>False)/\Ny A r
theorem Bz:∀ (l:List (Nat×V)) {i:Nat} {v:V},Oh A l->lk i l=some v->wk (A.get i) v=v
 | [],_,_,_,h=>by simp[lk]at h
 | (k,u)::r,i,v,h,e=>by
   simp only[lk]at e
   split at e
   rename_i e';subst e';cases e;exact h.1
   exact Bz r h.2 e
theorem vW:∀ (l:List (Nat×(Nat×V))) {i g:Nat} {v:V},Ny A l->lk i l=some (g,v)->∃ v',lk i A.h=some (g,v')/\wk v' v=v
 | [],_,_,_,_,h=>by simp[lk]at h
 | (k,(g0,u))::r,i,g,v,h,e=>by
   simp only[lk]at e
   split at e
   rename_i e';subst e';cases e
   have h1:=h.1
   split at h1
   rename_i g' v' hk
   simp only[Prod.mk.injEq]at h1
   exact⟨v',by rw[hk,h1.1],h1.2⟩
   exact h1.elim
   exact vW r h.2 e
open Classical in
theorem s4.VF(hs:s4 N Pb Kb A a w F)(h:Oh A B.t)(k:Ny A B.h):∃ F',s4 N Pb Kb B a w F':=by
 refine⟨fun r=>match r with | .slot i=>if lk i B.t=none then [] else F (.slot i) | .key k=>if lk k B.h=none then [] else F (.key k),?_⟩
 have key:∀ r g,g∈(match r with | .slot i=>if lk i B.t=none then [] else F (.slot i) | .key k=>if lk k B.h=none then [] else F (.key k):List Nat)->g∈F r:=by
  intro r g hg
  cases r <;> simp only at hg <;> split at hg <;> simp_all
 refine⟨hs.size,hs.defers,fun i=>?_,fun k0 g v hk=>?_,fun r r' hne g hg=>?_,fun r=>?_,fun r g hg=>hs.free r g (key r g hg),hs.sub,hs.bound⟩
 simp only
 cases e:lk i B.t with
 | none=>simp only[if_true,AS.get,e];rfl
 | some v=>
   rw[if_neg (by simp)]
   have:=vM v (hs.slot i)
   rw[Bz _ h e]at this
   simpa[AS.get,e] using this
 simp only
 rw[if_neg (by rw[hk];simp)]
 obtain⟨v',e1,e2⟩:=vW _ k hk
 obtain⟨F',hF,hA⟩:=hs.root k0 g v' e1
 exact⟨F',hF,by have:=Az v hA;rw[e2]at this;exact this⟩
 exact fun MB=>hs.bM r r' hne g (key r g hg) (key r' g MB)
 cases r <;> simp only <;> split <;> first | exact List.nodup_nil | exact hs.nodup _
def Hx(N:Nat)(A:AS)(K:AS->Prop):Prop:=
 ∀ Pb Kb a w F,s4 N Pb Kb A a w F->∃ B Pb' C5 F',K B/\s4 N Pb' C5 B a w F'/\(∀ g,Pb g->Pb' g)/\(∀ g,Kb g->C5 g)/\(∀ g,Pb' g->Pb g\/¬ Kb g)
theorem Hx.of{K:AS->Prop}(h:K A):Hx N A K:=fun Pb Kb _ _ F hs=>⟨A,Pb,Kb,F,h,hs,fun _ h=>h,fun _ h=>h,fun _ h=>.inl h⟩
theorem Hx.mono{K K':AS->Prop}(h:Hx N A K)(hK:∀ B,K B->K' B):Hx N A K':=fun Pb Kb a w F hs=>by
 obtain⟨B,Pb',C5,F',h1,h2⟩:=h Pb Kb a w F hs
 exact⟨B,Pb',C5,F',hK B h1,h2⟩
theorem Hx.bind{K K':AS->Prop}(h:Hx N A K)(hK:∀ B,K B->Hx N B K'):Hx N A K':=fun Pb Kb a w F hs=>by
 obtain⟨B,Pb',C5,F',h1,h2,h3,h4,h5⟩:=h Pb Kb a w F hs
 obtain⟨C,Lz,LG,F2,k1,k2,k3,k4,k5⟩:=hK B h1 Pb' C5 a w F' h2
 exact⟨C,Lz,LG,F2,k1,k2,fun g hg=>k3 g (h3 g hg),fun g hg=>k4 g (h4 g hg),fun g hg=>by
  rcases k5 g hg with h | h
  exact h5 g h
  exact .inr fun c=>h (h4 g c)⟩
theorem Hx.simple{K:AS->Prop}(hK:K B)(h:∀ Pb Kb a w F,s4 N Pb Kb A a w F->∃ F',s4 N Pb Kb B a w F'):Hx N A K:=fun Pb Kb a w F hs=>by
 obtain⟨F',x7⟩:=h Pb Kb a w F hs
 exact⟨B,Pb,Kb,F',hK,x7,fun _ h=>h,fun _ h=>h,fun _ h=>.inl h⟩
theorem Nx.hint{K:AS->Prop}{a':Act}(h:Nx N Pb Kb w (fun B=>Hx N B K) a' w'):Nx N Pb Kb w K a' w':=by
 obtain⟨A',Pb',C5,F',h1,h2,h3,h4,h5,h6⟩:=h
 obtain⟨B,Lz,LG,F2,k1,k2,k3,k4,k5⟩:=h1 Pb' C5 a' w' F' h2
 exact⟨B,Lz,LG,F2,k1,k2,fun g hg=>k3 g (h3 g hg),fun g hg=>k4 g (h4 g hg),fun g hg=>by
  rcases k5 g hg with h | h
  exact h5 g h
  exact .inr fun c=>h (h4 g c),h6⟩
theorem nk{c:Code}{Q:Exit->AS->Prop}(h:Hx N A fun B=>T P N c B Q):T P N c A Q:=by
 intro Pb Kb a w F hs
 obtain⟨B,Pb',C5,F',h1,h2,h3,h4,h5⟩:=h Pb Kb a w F hs
 exact wp_mono (h1 Pb' C5 a w F' h2) fun e a' w' hn=>Nx.step h3 h4 h5 (w8.refl _ _) hn
theorem lb{c:Code}{Q:Exit->AS->Prop}(h:T P N c A fun e B=>Hx N B (Q e)):T P N c A Q:=
 fun Pb Kb a w F hs=>wp_mono (h Pb Kb a w F hs) fun _ _ _ hn=>hn.hint
theorem qh{o:Oper}{l:List Oper}{K:AS->Prop}(hg:o.guard=none)(h:Hx N A fun B=>WL P N ops (o::l) B K):WL P N ops (o::l) A K:=by
 simp only[WL,gd,hg]at h ⊢
 intro Pb Kb a w F Q hs
 obtain⟨B,Pb',C5,F',h1,h2,h3,h4,h5⟩:=h Pb Kb a w F hs
 refine Oper.wp_mono (fun a' w' hn=>?_) (h1 Pb' C5 a w F' Q h2)
 exact Nx.step h3 h4 h5 (w8.refl _ _) hn
theorem JA{c:Code}{Q:Exit->AS->Prop}(h:Oh A B.t)(k:Ny A B.h)(hT:T P N c B Q):T P N c A Q:=
 nk (Hx.simple hT fun _ _ _ _ _ hs=>hs.VF h k)
end
end Go.Abs
namespace Go.Abs
open Go Go.RowKit
section
variable {w w':World} {Pb Kb Pb':Nat->Prop} {N:Nat} {A A' B:AS} {a:Act} {F:l9->List Nat} {P:Program} {ops:Array Oper}
structure T6 (w:World) (Pb Kb:Nat->Prop) (args:List V) (cargs:List Value) (H:List (Nat×(Nat×V))) (F:l9->List Nat):Prop where
 len:cargs.length=args.length
 slot:∀ i v x,args[i]? =some v->cargs[i]? =some x->RV w Pb v x (F (.slot i))
 root:∀ k g v,lk k H=some (g,v)->∃ F',F (.key k)=g::F'/\At w Pb v g 0 F'
 rest:∀ i,args.length<=i->F (.slot i)=[]
 bM:∀ r r',r≠r'->∀ g,g∈F r->g ∉ F r'
 nodup:∀ r,(F r).Nodup
 free:∀ r g,g∈F r->¬ Kb g/\g<w.heap.size
 sub:∀ g,Pb g->Kb g
 bound:∀ g,Kb g->g<w.heap.size
structure Fin (w w':World) (Pb Kb:Nat->Prop) (r:V) (x:Value) (H:List (Nat×(Nat×V))) (Pb' C5:Nat->Prop) (F:l9->List Nat):Prop where
 val:RV w' Pb' r x (F (.slot 0))
 root:∀ k g v,lk k H=some (g,v)->∃ F',F (.key k)=g::F'/\At w' Pb' v g 0 F'
 bM:∀ r r',r≠r'->∀ g,g∈F r->g ∉ F r'
 nodup:∀ r,(F r).Nodup
 free:∀ r g,g∈F r->¬ C5 g/\g<w'.heap.size
 sub:∀ g,Pb' g->C5 g
 bound:∀ g,C5 g->g<w'.heap.size
 mP:∀ g,Pb g->Pb' g
 mK:∀ g,Kb g->C5 g
 Od:∀ g,Pb' g->Pb g\/¬ Kb g
 dT:w8 Kb w w'
def PF(P:Program)(f:FuncId)(args:List V)(H:List (Nat×(Nat×V)))(Q:V->List (Nat×(Nat×V))->Prop):Prop:=
 lC P f/\∀ (w:World) (Pb Kb:Nat->Prop) (cargs:List Value) (F:l9->List Nat),T6 w Pb Kb args cargs H F->
  Calls P f cargs.toArray w fun e w'=> ∃ r x H' Pb' C5 F',e=.returned x/\Q r H'/\Fin w w' Pb Kb r x H' Pb' C5 F'
theorem PF.mono{f:FuncId}{args:List V}{H:List (Nat×(Nat×V))}{Q Q':V->List (Nat×(Nat×V))->Prop}(h:PF P f args H Q)(hQ:∀ r H,Q r H->Q' r H):PF P f args H Q':=
 ⟨h.1,fun w Pb Kb cargs F hi=>(h.2 w Pb Kb cargs F hi).mono fun _ _ ⟨r,x,H',Pb',C5,F',e,q,rest⟩=>⟨r,x,H',Pb',C5,F',e,hQ r H' q,rest⟩⟩
def Eg(P:Program)(rs:List ResultVar)(Q:V->List (Nat×(Nat×V))->Prop):Exit->AS->Prop:=fun e A=>
 (e=.normal\/e=.ret)/\∃ xs H,nP A rs=some xs/\oq P rs xs/\(xs.map (·.1)).Nodup/\Ny A H/\(∀ k,lk k H≠none->l9.key k ∉ xs.map (·.1))/\Q (one (xs.map (·.2))) H
open Classical in
theorem yQ{f:FuncId} {fn:Func} {c:Code} {args:List V} {H:List (Nat×(Nat×V))} {Q:V->List (Nat×(Nat×V))->Prop} (hf:P.funcs[f]? =some fn) (hb:fn.body=some c) (he:lC P f) (hN:args.length<=fn.ntmps)
 (h:T P fn.ntmps c ⟨enum 0 args,H⟩ (Eg P fn.results.toList Q)):PF P f args H Q:=by
 refine⟨he,fun w Pb Kb cargs F hi=>?_⟩
 have hlen:=hi.len
 refine calls_of_wp hf hb ?_
 have hs:s4 fn.ntmps Pb Kb ⟨enum 0 args,H⟩ { tmps:=cargs.toArray++Array.replicate (fn.ntmps-cargs.toArray.size) undef,defers:=[] } w F:=by
  refine⟨by simp;omega,rfl,fun i=>?_,hi.root,hi.bM,hi.nodup,hi.free,hi.sub,hi.bound⟩
  simp only[AS.get,yL,Nat.zero_le,if_true,Nat.sub_zero]
  cases S8:args[i]? with
  | none=>
    have:args.length<=i:=by simpa using S8
    rw[hi.rest i this];rfl
  | some v=>
    have hlt:i<args.length:=(List.getElem?_eq_some_iff.1 S8).1
    have hx:cargs[i]? =some (cargs[i]'(by omega)):=List.getElem?_eq_getElem (by omega)
    have hr:=hi.slot i v _ S8 hx
    have e:(cargs.toArray++Array.replicate (fn.ntmps-cargs.toArray.size) undef).getD i undef=cargs[i]'(by omega):=by
     rw[Array.getD_eq_getD_getElem?,Array.getElem?_append_left (by simp;omega)]
     simp[hx]
    simp only[Option.getD_some]
    rw[e];exact hr
 refine wp_mono (h _ _ _ _ _ hs) ?_
 rintro e a' w' ⟨A',Pb',C5,F',⟨he',xs,H',Pq,KO,hnd,hH,Rq,hQ⟩,x7,k1,k2,k3,k4⟩
 obtain⟨x,Fr,x9,hr,La,hin⟩:=ym x7 Pq KO hnd
 have OI:a'.defers=[]/\∃ v,(results fn a'.tmps).run P w'=.ok v w'/\(∃ r x H' Pb' C5 F',Ending.returned v=.returned x/\Q r H'/\Fin w w' Pb Kb r x H' Pb' C5 F'):=by
  refine⟨x7.defers,x,x9,_,x,H',Pb',C5,(fun r=>match r with | .slot i=>if i=0 then Fr else [] | .key k=>if lk k H'=none then [] else F' (.key k)),rfl,hQ,?_⟩
  have hk:∀ k g,lk k H'≠none->g∈Fr->g ∉ F' (.key k):=fun k g hk hg c=>by
   obtain⟨r,M1,Ko⟩:=hin g hg
   have hne:r≠.key k:=fun c=>Rq k hk (by rw[<- c];exact M1)
   exact x7.bM r _ hne g Ko c
  refine⟨by simpa using hr,fun k g v S5=>?_,fun r r' hne g hg=>?_,fun r=>?_,fun r g hg=>?_,x7.sub,x7.bound,k1,k2,k3,k4⟩
  obtain⟨v',e1,e2⟩:=vW _ hH S5
  obtain⟨F1,hF,hA⟩:=x7.root k g v' e1
  refine⟨F1,?_,by have:=Az v hA;rw[e2]at this;exact this⟩
  simp only;rw[if_neg (by rw[S5];simp)];exact hF
  cases r with
  | slot i=>
    simp only at hg
    split at hg
    rename_i hi0
    cases r' with
    | slot j=>simp only;rw[if_neg (fun c=>hne (by rw[hi0,c]))];simp
    | key k=>simp only;split
             simp
             rename_i Rp;exact hk k g Rp hg
    simp at hg
  | key k=>
    simp only at hg
    split at hg
    simp at hg
    rename_i Rp
    cases r' with
    | slot j=>simp only;split
              exact fun c=>hk k g Rp c hg
              simp
    | key k'=>simp only;split
              simp
              exact x7.bM _ _ hne g hg
  cases r <;> simp only <;> split <;> first | exact La | exact List.nodup_nil | exact x7.nodup _
  cases r with
  | slot i=>
    simp only at hg;split at hg
    obtain⟨r,_,h⟩:=hin g hg;exact x7.free r g h
    simp at hg
  | key k=>
    simp only at hg;split at hg
    simp at hg
    exact x7.free _ g hg
 rcases he' with rfl | rfl
 exact OI
 exact OI
theorem PF.Am{f:FuncId}{args:List V}{Q:V->List (Nat×(Nat×V))->Prop}(h:PF P f args [] Q):PC P f args (fun r=> ∃ H,Q r H):=by
 refine⟨h.1,fun w Pb cargs hP hargs=>?_⟩
 have hi:T6 w Pb (fun g=>g<w.heap.size) args cargs [] (fun _=>[]):=by
  refine⟨tI _ hargs,fun i v x hv hx=>?_,fun k g v hk=>by simp[lk]at hk,fun _ _=>rfl,fun _ _ _ _ hg=>by simp at hg,fun _=>List.nodup_nil,fun _ _ hg=>by simp at hg,hP,fun _ h=>h⟩
  obtain⟨y,hy,hr⟩:=Cq args hargs hv
  rw[hx]at hy;cases hy;exact hr
 refine(h.2 w Pb _ cargs _ hi).mono ?_
 rintro e w' ⟨r,x,H',Pb',C5,F',rfl,hq,hf⟩
 refine⟨r,x,F' (.slot 0),Pb',rfl,⟨H',hq⟩,hf.val,hf.nodup _,fun g hg=>?_,hf.mP,fun g hg=>?_,⟨hf.dT.os,hf.dT.tape,hf.dT.output,hf.dT.size,fun k hk=>hf.dT.block k hk⟩⟩
 have:=hf.free _ g hg
 refine⟨Nat.le_of_not_lt fun c=>this.1 (hf.mK g c),this.2,fun c=>this.1 (hf.sub g c)⟩
 rcases hf.Od g hg with h | h
 exact .inl h
 exact .inr ⟨Nat.le_of_not_lt h,hf.bound g (hf.sub g hg)⟩
end
end Go.Abs
