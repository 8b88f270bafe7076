/-
  Words and walks for the laws of pedlar's seat: what each function of the program computes, and that it does; no conditions beyond those that each statement names.
-/
import Derived.Calls
import Derived.Below
import Derived.LoopN
import Derived.Tactics
import Derived.Laws.Sem
import Derived.IntWalk
import Derived.Lib.MinMax
import Derived.Laws.Cells
import Derived.Orders
import Derived.KernelRfl
import Derived.Lib.Strings
import Derived.Great.BuildSlice
import Derived.Laws.Append
import Derived.Laws.BytesString
import Derived.Lib.ConvBytes
set_option linter.unusedVariables false
set_option linter.unusedSimpArgs false
set_option linter.unnecessarySimpa false
set_option linter.unusedSectionVars false
namespace Go
abbrev BL:=List UInt8
theorem Z9{p:Prop}(h:p:=by omega):p:=h
theorem Z8{p:Prop}(h:p:=by simp):p:=h
theorem Z7{p:Prop}(h:p:=by kernel_rfl):p:=h
theorem Z6{p:Prop}(h:p:=by decide):p:=h
theorem Z5{p:Prop}(h:p:=by first | assumption | omega | (simp; omega)):p:=h
theorem Z4{p:Prop}(h:p:=by first | rfl | simp | (simp; omega)):p:=h
theorem Z3{p:Prop}(h:p:=by (try simp only [List.length_append, List.length_cons, List.length_nil]); omega):p:=h
theorem Z2{p:Prop}(h:p:=by (try simp only [List.length_map] at *); omega):p:=h
theorem Z1{p:Prop}(h:p:=by first | (solve | simp) | omega | (simp; omega)):p:=h
theorem Z0{p:Prop}(h:p:=by simp; omega):p:=h
end Go
namespace Go.Abs
open Go
inductive l7 where
 | slot (i:Nat)
 | key (k:Nat)
 deriving DecidableEq
inductive V where
 | lit (x:Value)
 | agg (vs:List V)
 | tup (vs:List V)
 | sl (full:Bool) (xs:List V)
 | own (sz:Nat) (xs:List V) (g o c:Nat)
 | ow (sz:Nat) (xs:List V)
 | om (es:List (BL×Value)) (g:Nat)
 | mp (es:List (BL×Value))
 | hd (r:l7) (p:List Nat) (sz g o lo n c:Nat)
 | ptr (r:l7) (p:List Nat) (g o:Nat)
 | ep (v:V)
 | c9
 | gv (b:Bool) (v:V)
mutual
def V.n:V->Nat
 | .agg vs=>V.ns vs
 | _=>1
def V.ns:List V->Nat
 | []=>0
 | v::vs=>v.n+V.ns vs
end
def aL(sz:Nat)(xs:List V):Prop:= ∀ x∈xs,x.n=sz
def Blk(w:World)(g:Nat)(cells:Array Value):Prop:=
 ∃ e fr,w.heap[g]? =some (.cells cells e fr)/\∀ i,i<cells.size->¬ (fr.1<=i/\i<fr.2)
def tY(w:World)(g:Nat)(es:List (BL×Value)):Prop:=
 ∃ en cl,w.heap[g]? =some (.map en cl)/\en.toList.map (fun e=>(e.key,e.val))=es.map (fun p=>(.string ⟨p.1.toArray⟩,p.2))/\(en.toList.map (·.born)).Nodup/\∀ e∈en.toList,e.born<cl
mutual
def R(w:World)(Pb:Nat->Prop):V->List Value->List Nat->Prop
 | .lit x,cs,F=>x.oneCell'=true/\cs=[x]/\F=[]
 | .agg vs,cs,F=>RL w Pb vs cs F
 | .tup _,_,_=>False
 | .gv _ _,_,_=>False
 | .sl full xs,cs,F=>F=[]/\∃ A c,cs=[.slice A xs.length c]/\xs.length<=c/\(full=true->c=xs.length)/\
  (xs=[]\/∃ b o sz flat,A=some ⟨b,o,none⟩/\Pb b/\0<sz/\aL sz xs/\RL w Pb xs flat []/\
   ∀ j u,flat[j]? =some u->w.cell? ⟨b,o+j,none⟩=some u)
 | .own sz xs g o c,cs,F=>(c=0/\xs=[]/\F=[]/\∃ A,cs=[.slice A 0 0])\/
  (0<c/\0<sz/\xs.length<=c/\cs=[.slice (some ⟨g,o,none⟩) xs.length c]/\aL sz xs/\¬ Pb g/\
   ∃ flat F' cells,F=g::F'/\RL w Pb xs flat F'/\Blk w g cells/\o+c*sz<=cells.size/\
     ∀ j u,flat[j]? =some u->cells[o+j]? =some u)
 | .ow sz xs,cs,F=> ∃ g o c,(c=0/\xs=[]/\F=[]/\∃ A,cs=[.slice A 0 0])\/
  (0<c/\0<sz/\xs.length<=c/\cs=[.slice (some ⟨g,o,none⟩) xs.length c]/\aL sz xs/\¬ Pb g/\
   ∃ flat F' cells,F=g::F'/\RL w Pb xs flat F'/\Blk w g cells/\o+c*sz<=cells.size/\
     ∀ j u,flat[j]? =some u->cells[o+j]? =some u)
 | .om es g,cs,F=>F=[g]/\cs=[.map (some g)]/\¬ Pb g/\tY w g es
 | .mp es,cs,F=>F=[]/\∃ g,cs=[.map (some g)]/\Pb g/\tY w g es
 | .hd _ _ sz g o lo n c,cs,F=>F=[]/\n<=c/\∃ A,cs=[.slice A n c]/\(0<c->A=some ⟨g,o+lo*sz,none⟩)
 | .ptr _ _ g o,cs,F=>F=[]/\cs=[.pointer (some ⟨g,o,none⟩)]
 | .ep v,cs,F=>F=[]/\∃ b o flat,cs=[.pointer (some ⟨b,o,none⟩)]/\Pb b/\R w Pb v flat []/\
  ∀ j u,flat[j]? =some u->w.cell? ⟨b,o+j,none⟩=some u
 | .c9,cs,F=>F=[]/\∃ x,cs=[x]/\x.oneCell'=true
def RL(w:World)(Pb:Nat->Prop):List V->List Value->List Nat->Prop
 | [],cs,F=>cs=[]/\F=[]
 | v::vs,cs,F=> ∃ c1 c2 F1 F2,cs=c1++c2/\F=F1++F2/\R w Pb v c1 F1/\RL w Pb vs c2 F2
end
section
variable {w w':World} {Pb Pb':Nat->Prop}
theorem Gz{sz:Nat}{xs:List V}{cs:List Value}{F:List Nat}:R w Pb (.ow sz xs) cs F↔∃ g o c,R w Pb (.own sz xs g o c) cs F:=by simp only[R]
theorem tY.eF{g:Nat}{es:List (BL×Value)}(h:tY w g es)(k:w'.heap[g]? =w.heap[g]?):tY w' g es:=by
 obtain⟨en,cl,h1,h2⟩:=h
 exact⟨en,cl,k.trans h1,h2⟩
mutual
theorem eg:∀ (v:V) {cs F},R w Pb v cs F->cs.length=v.n
 | .lit x,cs,F,h=>by obtain⟨_,rfl,_⟩:=h;rfl
 | .agg vs,cs,F,h=>by simp only[R]at h;simpa[V.n] using iE vs h
 | .tup _,_,_,h=>by simp[R]at h
 | .gv _ _,_,_,h=>by simp[R]at h
 | .sl _ xs,cs,F,h=>by obtain⟨_,A,c,rfl,_⟩:=h;rfl
 | .own sz xs g o c,cs,F,h=>by
  rcases h with ⟨_,_,_,A,rfl⟩ | ⟨_,_,_,rfl,_⟩ <;> rfl
 | .ow sz xs,cs,F,h=>by
  obtain⟨g,o,c,h⟩:=h
  rcases h with ⟨_,_,_,A,rfl⟩ | ⟨_,_,_,rfl,_⟩ <;> rfl
 | .om ..,cs,F,h=>by obtain⟨_,rfl,_⟩:=h;rfl
 | .mp _,cs,F,h=>by obtain⟨_,g,rfl,_⟩:=h;rfl
 | .hd ..,cs,F,h=>by obtain⟨_,_,A,rfl,_⟩:=h;rfl
 | .ptr ..,cs,F,h=>by obtain⟨_,rfl⟩:=h;rfl
 | .ep v,cs,F,h=>by obtain⟨_,b,o,flat,rfl,_⟩:=h;rfl
 | .c9,cs,F,h=>by obtain⟨_,x,rfl,_⟩:=h;rfl
theorem iE:∀ (vs:List V) {cs F},RL w Pb vs cs F->cs.length=V.ns vs
 | [],cs,F,h=>by obtain⟨rfl,_⟩:=h;rfl
 | v::vs,cs,F,h=>by
     obtain⟨c1,c2,F1,F2,rfl,_,h1,h2⟩:=h
     simp[V.ns,eg v h1,iE vs h2]
end
mutual
theorem fP:∀ (v:V) {cs F},R w Pb v cs F->(∀ g,Pb g->w'.heap[g]? =w.heap[g]?)->(∀ g,g∈F->w'.heap[g]? =w.heap[g]?)->
 (∀ g,Pb g->Pb' g)->(∀ g,g∈F->¬ Pb' g)->R w' Pb' v cs F
 | .lit x,cs,F,h,_,_,_,_=>h
 | .agg vs,cs,F,h,k1,k2,k3,k4=>by simp only[R]at h ⊢;exact dT vs h k1 k2 k3 k4
 | .tup _,_,_,h,_,_,_,_=>by simp[R]at h
 | .gv _ _,_,_,h,_,_,_,_=>by simp[R]at h
 | .sl full xs,cs,F,h,k1,_,k3,_=>by
  obtain⟨hF,A,c,hc,hl,hf,hx⟩:=h
  refine⟨hF,A,c,hc,hl,hf,?_⟩
  rcases hx with hx | ⟨b,o,sz,flat,hA,hb,hs,hn,hr,r8⟩
  exact .inl hx
  exact .inr ⟨b,o,sz,flat,hA,k3 b hb,hs,hn,dT xs hr k1 Z8 k3 Z8,fun j u hu=>by
   rw[<- r8 j u hu];exact World.cell?_of_block (w:=w) (k1 b hb)⟩
 | .own sz xs g o c,cs,F,h,k1,k2,k3,k4=>by
  rcases h with h | ⟨h1,h2,h3,h4,h5,h6,flat,F',cells,hF,hr,⟨e,fr,hb,hfr⟩,hsz,r8⟩
  exact .inl h
  subst hF
  exact .inr ⟨h1,h2,h3,h4,h5,k4 g Z8,flat,F',cells,rfl,dT xs hr k1 (fun g hg=>k2 g (by simp[hg])) k3 (fun g hg=>k4 g (by simp[hg])),
   ⟨e,fr,(k2 g Z8).trans hb,hfr⟩,hsz,r8⟩
 | .ow sz xs,cs,F,h,k1,k2,k3,k4=>by
  obtain⟨g,o,c,h⟩:=h
  refine⟨g,o,c,?_⟩
  rcases h with h | ⟨h1,h2,h3,h4,h5,h6,flat,F',cells,hF,hr,⟨e,fr,hb,hfr⟩,hsz,r8⟩
  exact .inl h
  subst hF
  exact .inr ⟨h1,h2,h3,h4,h5,k4 g Z8,flat,F',cells,rfl,dT xs hr k1 (fun g hg=>k2 g (by simp[hg])) k3 (fun g hg=>k4 g (by simp[hg])),
   ⟨e,fr,(k2 g Z8).trans hb,hfr⟩,hsz,r8⟩
 | .om es g,cs,F,h,_,k2,_,k4=>by
  obtain⟨rfl,h1,h2,h3⟩:=h
  exact⟨rfl,h1,k4 g Z8,h3.eF (k2 g Z8)⟩
 | .mp es,cs,F,h,k1,_,k3,_=>by
  obtain⟨h0,g,h1,h2,h3⟩:=h
  exact⟨h0,g,h1,k3 g h2,h3.eF (k1 g h2)⟩
 | .hd ..,cs,F,h,_,_,_,_=>h
 | .ptr ..,cs,F,h,_,_,_,_=>h
 | .ep v,cs,F,h,k1,_,k3,_=>by
  obtain⟨hF,b,o,flat,hc,hb,hr,r8⟩:=h
  exact⟨hF,b,o,flat,hc,k3 b hb,fP v hr k1 Z8 k3 Z8,fun j u hu=>by
   rw[<- r8 j u hu];exact World.cell?_of_block (w:=w) (k1 b hb)⟩
 | .c9,cs,F,h,_,_,_,_=>h
theorem dT:∀ (vs:List V) {cs F},RL w Pb vs cs F->(∀ g,Pb g->w'.heap[g]? =w.heap[g]?)->(∀ g,g∈F->w'.heap[g]? =w.heap[g]?)->
 (∀ g,Pb g->Pb' g)->(∀ g,g∈F->¬ Pb' g)->RL w' Pb' vs cs F
 | [],cs,F,h,_,_,_,_=>h
 | v::vs,cs,F,h,k1,k2,k3,k4=>by
     obtain⟨c1,c2,F1,F2,hc,rfl,h1,h2⟩:=h
     exact⟨c1,c2,F1,F2,hc,rfl,fP v h1 k1 (fun g hg=>k2 g (by simp[hg])) k3 (fun g hg=>k4 g (by simp[hg])),
      dT vs h2 k1 (fun g hg=>k2 g (by simp[hg])) k3 (fun g hg=>k4 g (by simp[hg]))⟩
end
end
end Go.Abs
namespace Go.Abs
open Go
structure AS where
 t:List (Nat×V)
 h:List (Nat×(Nat×V))
def lk{α:Type}(i:Nat):List (Nat×α)->Option α
 | []=>none
 | (k,v)::r=>if i=k then some v else lk i r
def AS.get(A:AS)(i:Nat):V:=(lk i A.t).getD .c9
def AS.put(A:AS)(d:Option Nat)(v:V):AS:=match d with | some d=>{ A with t:=(d,v)::A.t } | none=>A
theorem AS.aC(A:AS)(d i:Nat)(v:V):(A.put (some d) v).get i=if i=d then v else A.get i:=by
 simp only[AS.get,AS.put,lk];split <;> rfl
def RVs(w:World)(Pb:Nat->Prop):List V->List Value->List Nat->Prop
 | [],xs,F=>xs=[]/\F=[]
 | v::vs,xs,F=> ∃ x xs' F1 F2,xs=x::xs'/\F=F1++F2/\(match v with
     | .agg us=> ∃ cs,x=.agg cs/\RL w Pb us cs.toList F1
     | .c9=>F1=[]
     | v=>R w Pb v [x] F1)/\RVs w Pb vs xs' F2
def SB(w:World)(Pb:Nat->Prop)(v:V)(x:Value)(F:List Nat):Prop:=
 match v with
 | .tup vs=> ∃ xs:Array Value,x=.tuple xs/\RVs w Pb vs xs.toList F
 | .agg us=> ∃ cs,x=.agg cs/\RL w Pb us cs.toList F
 | .c9=>F=[]
 | v=>R w Pb v [x] F
def RV(w:World)(Pb:Nat->Prop)(v:V)(x:Value)(F:List Nat):Prop:=
 match v with
 | .gv b u=>F=[]/\(b=true->SB w Pb u x [])/\(b=false->x=undef)
 | v=>SB w Pb v x F
theorem tJ{w w':World}{Pb Pb':Nat->Prop}:∀ (vs:List V) {xs F},RVs w Pb vs xs F->(∀ g,Pb g->w'.heap[g]? =w.heap[g]?)->(∀ g,g∈F->w'.heap[g]? =w.heap[g]?)->
 (∀ g,Pb g->Pb' g)->(∀ g,g∈F->¬ Pb' g)->RVs w' Pb' vs xs F
 | [],_,_,h,_,_,_,_=>h
 | v::vs,xs,F,h,k1,k2,k3,k4=>by
   obtain⟨x,xs',F1,F2,hx,rfl,h1,h2⟩:=h
   refine⟨x,xs',F1,F2,hx,rfl,?_,tJ vs h2 k1 (fun g hg=>k2 g (by simp[hg])) k3 (fun g hg=>k4 g (by simp[hg]))⟩
   cases v with
   | agg us=>obtain⟨cs,e,h1⟩:=h1;exact⟨cs,e,dT us h1 k1 (fun g hg=>k2 g (by simp[hg])) k3 (fun g hg=>k4 g (by simp[hg]))⟩
   | c9=>exact h1
   | _=>exact fP _ h1 k1 (fun g hg=>k2 g (by simp[hg])) k3 (fun g hg=>k4 g (by simp[hg]))
theorem ff{w w':World} {Pb Pb':Nat->Prop} (v:V) {x F} (h:SB w Pb v x F) (k1:∀ g,Pb g->w'.heap[g]? =w.heap[g]?) (k2:∀ g,g∈F->w'.heap[g]? =w.heap[g]?)
 (k3:∀ g,Pb g->Pb' g) (k4:∀ g,g∈F->¬ Pb' g):SB w' Pb' v x F:=by
 cases v with
 | tup vs=>obtain⟨xs,e,h⟩:=h;exact⟨xs,e,tJ vs h k1 k2 k3 k4⟩
 | agg us=>obtain⟨cs,e,h⟩:=h;exact⟨cs,e,dT us h k1 k2 k3 k4⟩
 | c9=>exact h
 | _=>exact fP _ h k1 k2 k3 k4
theorem mA{w w':World} {Pb Pb':Nat->Prop} (v:V) {x F} (h:RV w Pb v x F) (k1:∀ g,Pb g->w'.heap[g]? =w.heap[g]?) (k2:∀ g,g∈F->w'.heap[g]? =w.heap[g]?)
 (k3:∀ g,Pb g->Pb' g) (k4:∀ g,g∈F->¬ Pb' g):RV w' Pb' v x F:=by
 cases v with
 | gv b u=>obtain⟨hF,h1,h2⟩:=h;exact⟨hF,fun hb=>ff u (h1 hb) k1 Z8 k3 Z8,h2⟩
 | tup vs=>exact ff (.tup vs) h k1 k2 k3 k4
 | agg us=>exact ff (.agg us) h k1 k2 k3 k4
 | c9=>exact h
 | own sz xs g o c=>exact ff (.own sz xs g o c) h k1 k2 k3 k4
 | ow sz xs=>exact ff (.ow sz xs) h k1 k2 k3 k4
 | om es g=>exact ff (.om es g) h k1 k2 k3 k4
 | mp es=>exact ff (.mp es) h k1 k2 k3 k4
 | lit x=>exact ff (.lit x) h k1 k2 k3 k4
 | sl f xs=>exact ff (.sl f xs) h k1 k2 k3 k4
 | hd r p sz g o lo n c=>exact ff (.hd r p sz g o lo n c) h k1 k2 k3 k4
 | ptr r p g o=>exact ff (.ptr r p g o) h k1 k2 k3 k4
 | ep v=>exact ff (.ep v) h k1 k2 k3 k4
def Shp(w w':World):Prop:= ∀ (g:Nat) (c:Array Value) (e:TypeId) (fr:Nat×Nat),w.heap[g]? =some (.cells c e fr)->∃ c':Array Value,w'.heap[g]? =some (.cells c' e fr)/\c'.size=c.size
theorem Shp.refl(w:World):Shp w w:=fun _ c _ _ h=>⟨c,h,rfl⟩
theorem Shp.trans{a b c:World}(h:Shp a b)(k:Shp b c):Shp a c:=fun g x e fr hx=>by
 obtain⟨y,h1,h2⟩:=h g x e fr hx
 obtain⟨z,k1,k2⟩:=k g y e fr h1
 exact⟨z,k1,k2.trans h2⟩
theorem Shp.of_eq{w w':World}(h:∀ g:Nat,g<w.heap.size->w'.heap[g]? =w.heap[g]?):Shp w w':=fun g c e fr hc=>by
 have hl:g<w.heap.size:=(Array.getElem?_eq_some_iff.1 hc).1
 exact⟨c,(h g hl).trans hc,rfl⟩
structure x4 (Pb:Nat->Prop) (w w':World):Prop where
 os:w'.os=w.os
 tape:w'.tape=w.tape
 output:w'.output=w.output
 size:w.heap.size<=w'.heap.size
 block:∀ g,Pb g->w'.heap[g]? =w.heap[g]?
 shape:Shp w w'
theorem x4.refl(Pb:Nat->Prop)(w:World):x4 Pb w w:=⟨rfl,rfl,rfl,Nat.le_refl _,fun _ _=>rfl,Shp.refl _⟩
theorem x4.trans{Pb Pb':Nat->Prop}{a b c:World}(h:x4 Pb a b)(k:x4 Pb' b c)(hp:∀ g,Pb g->Pb' g):x4 Pb a c:=
 ⟨k.os.trans h.os,k.tape.trans h.tape,k.output.trans h.output,Nat.le_trans h.size k.size,fun g hg=>(k.block g (hp g hg)).trans (h.block g hg),h.shape.trans k.shape⟩
def At(w:World)(Pb:Nat->Prop)(v:V)(g o:Nat)(F:List Nat):Prop:=
 ∃ cs cells,Blk w g cells/\R w Pb v cs F/\∀ j u,cs[j]? =some u->cells[o+j]? =some u
structure s3 (N:Nat) (Pb Kb:Nat->Prop) (A:AS) (a:Act) (w:World) (F:l7->List Nat):Prop where
 size:a.tmps.size=N
 defers:a.defers=[]
 slot:∀ i,RV w Pb (A.get i) (a.tmps.getD i undef) (F (.slot i))
 root:∀ k g v,lk k A.h=some (g,v)->∃ F',F (.key k)=g::F'/\At w Pb v g 0 F'
 bX:∀ r r',r≠r'->∀ g,g∈F r->g ∉ F r'
 nodup:∀ r,(F r).Nodup
 free:∀ r g,g∈F r->¬ Kb g/\g<w.heap.size
 sub:∀ g,Pb g->Kb g
 bound:∀ g,Kb g->g<w.heap.size
def Nx(N:Nat)(Pb Kb:Nat->Prop)(w:World)(K:AS->Prop)(a':Act)(w':World):Prop:=
 ∃ A' Pb' C9 F',K A'/\s3 N Pb' C9 A' a' w' F'/\(∀ g,Pb g->Pb' g)/\(∀ g,Kb g->C9 g)/\(∀ g,Pb' g->Pb g\/¬ Kb g)/\x4 Kb w w'
def bY(F:l7->List Nat)(r:l7)(l:List Nat):l7->List Nat:=fun r'=>if r'=r then l else F r'
theorem s3.put{N:Nat} {Pb Kb:Nat->Prop} {A:AS} {a:Act} {w:World} {F:l7->List Nat} (h:s3 N Pb Kb A a w F) {d:Nat} {v:V} {x:Value} {F':List Nat}
 (hd:d<N) (hv:RV w Pb v x F') (h1:∀ r,r≠.slot d->∀ g,g∈F'->g ∉ F r) (h2:F'.Nodup) (h3:∀ g,g∈F'->¬ Kb g/\g<w.heap.size):
 s3 N Pb Kb (A.put (some d) v) (a.put (some d) x) w (bY F (.slot d) F') where
 size:=by simp[Act.put,h.size]
 defers:=by simpa[Act.put] using h.defers
 slot:=fun i=>by
  rw[AS.aC]
  by_cases e:i=d
  subst e
  simp only[if_true,bY]
  have hx:(a.put (some i) x).tmps.getD i undef=x:=by simp[Act.put,h.size,hd]
  rw[hx];exact hv
  have hne:l7.slot i≠l7.slot d:=fun c=>e (by injection c)
  simp only[if_neg e,bY,if_neg hne]
  have hx:(a.put (some d) x).tmps.getD i undef=a.tmps.getD i undef:=by
   simp[Act.put,Array.getElem?_setIfInBounds_ne (Ne.symm e)]
  rw[hx];exact h.slot i
 root:=fun k g v hk=>by
  obtain⟨Mc,e,hr⟩:=h.root k g v hk
  exact⟨Mc,by simpa[bY] using e,hr⟩
 bX:=fun r r' hne g hg=>by
  simp only[bY]at hg ⊢
  by_cases e:r=.slot d
  subst e
  rw[if_neg (Ne.symm hne)]
  simp only[if_true]at hg
  exact h1 r' (Ne.symm hne) g hg
  rw[if_neg e]at hg
  by_cases e':r'=.slot d
  rw[if_pos e']
  exact fun Od=>h1 r e g Od hg
  rw[if_neg e']
  exact h.bX r r' hne g hg
 nodup:=fun r=>by
  simp only[bY];split
  exact h2
  exact h.nodup r
 free:=fun r g hg=>by
  simp only[bY]at hg
  split at hg
  exact h3 g hg
  exact h.free r g hg
 sub:=h.sub
 bound:=h.bound
def cy(N:Nat)(d:Option Nat):Prop:=match d with | some d=>d<N | none=>True
theorem s3.pS{N:Nat} {Pb Kb:Nat->Prop} {A:AS} {a:Act} {w:World} {F:l7->List Nat} (h:s3 N Pb Kb A a w F) {d:Option Nat} {v:V} {x:Value}
 (hd:cy N d) (hv:RV w Pb v x []):∃ F',s3 N Pb Kb (A.put d v) (a.put d x) w F':=by
 cases d with
 | none=>exact⟨F,h⟩
 | some d=>exact⟨_,h.put hd hv Z8 Z8 Z8⟩
def D'(P:Program)(N:Nat)(o:Oper)(A:AS)(K:AS->Prop):Prop:=
 ∀ Pb Kb a w F Q,s3 N Pb Kb A a w F->o.wp P a w (Nx N Pb Kb w K) Q
theorem iB{P:Program} {N:Nat} {o:Oper} {A:AS} {K:AS->Prop} {v:V} (hd:cy N o.dst) (hK:K (A.put o.dst v))
 (h:∀ Pb Kb a w F,s3 N Pb Kb A a w F->∃ x,(execOp a.eval o).run P w=.ok (.value x) w/\RV w Pb v x []):D' P N o A K:=by
 intro Pb Kb a w F Q hs
 obtain⟨x,hx,hr⟩:=h Pb Kb a w F hs
 unfold Oper.wp
 rw[hx,Oper.upon_value]
 obtain⟨F',x8⟩:=hs.pS hd hr
 exact⟨_,Pb,Kb,F',hK,x8,fun _ h=>h,fun _ h=>h,fun _ h=>.inl h,x4.refl _ _⟩
inductive D where
 | int (k:IntKind) | bool | str | ptr (e:Nat) | sl (e:Nat) | arr (n e:Nat) | map (k e:Nat) | st (fs:List (Nat×Nat)) | other
 deriving DecidableEq
structure TI where
 sz:Nat
 K6:Nat
 d:D
def dm:TypeDesc->D
 | .int k=>.int k | .bool=>.bool | .string=>.str | .pointer e=>.ptr e | .slice e=>.sl e | .array n e=>.arr n e | .map k e=>.map k e
 | .struct fs=>.st (fs.toList.map fun f=>(f.offset,f.type))
 | _=>.other
def ti(P:Program)(T:Nat):Option TI:=match P.info? T,P.underlying T with | some i,some d=>some ⟨i.size,i.bytes,dm d⟩ | _,_=>none
def D.agg:D->Bool | .st _ | .arr _ _=>true | _=>false
theorem jr{P:Program}{T:Nat}{i:TI}(h:ti P T=some i):∃ inf d,P.info? T=some inf/\P.underlying T=some d/\inf.size=i.sz/\inf.bytes=i.K6/\dm d=i.d:=by
 unfold ti at h
 cases h1:P.info? T with
 | none=>simp[h1]at h
 | some inf=>cases h2:P.underlying T with
   | none=>simp[h1,h2]at h
   | some d=>simp[h1,h2]at h;subst h;exact⟨inf,d,rfl,rfl,rfl,rfl,rfl⟩
def Ri:Value->V
 | .slice none 0 0=>.sl true []
 | x=>.lit x
def cV:Value->V
 | .agg cs=>if cs.toList.all (·.oneCell') then .agg (cs.toList.map Ri) else .c9
 | .tuple _=>.c9
 | x=>Ri x
def AS.ev(A:AS):Operand->V
 | .tmp i=>A.get i
 | .const v=>cV v
 | .global g=>.ptr (.key (9000+g)) [] g 0
 | .func f=>.lit (.func (.func f) #[] #[])
mutual
def V.Pq(r:l7)(p:List Nat):V->V
 | .own sz xs g o c=>.hd r p sz g o 0 xs.length c
 | .ow .. =>.c9
 | .om _ g=>.lit (.map (some g))
 | .agg vs=>.agg (V.EK r p 0 vs)
 | v=>v
def V.EK(r:l7)(p:List Nat)(j:Nat):List V->List V
 | []=>[]
 | v::vs=>v.Pq r (p++[j])::V.EK r p (j+1) vs
end
mutual
def V.cW:V->Bool
 | .own .. =>true
 | .ow .. =>true
 | .om .. =>true
 | .agg vs=>V.aG vs
 | .tup vs=>V.aG vs
 | _=>false
def V.aG:List V->Bool
 | []=>false
 | v::vs=>v.cW||V.aG vs
end
def V.cp(r:l7):V->V
 | .tup _=>.c9
 | .gv _ _=>.c9
 | v=>v.Pq r []
def Bp(A:AS)(x:Operand)(y:V):V:=
 match A.ev x with
 | .tup vs=>if V.aG vs=true then .c9 else .tup vs
 | _=>y
def AS.cp(A:AS):Operand->V
 | .tmp i=>(A.get i).cp (.slot i)
 | x=>A.ev x
def jF(op:BinOp)(k:IntKind)(a b:Int):Option (Prop×V):=
 match op with
 | .add=>some (True,.lit (.int k (k.wrap (a+b))))
 | .sub=>some (True,.lit (.int k (k.wrap (a-b))))
 | .mul=>some (True,.lit (.int k (k.wrap (a*b))))
 | .quo=>some (b≠0,.lit (.int k (k.wrap (a.tdiv b))))
 | .rem=>some (b≠0,.lit (.int k (a.tmod b)))
 | .eql=>some (True,.lit (.bool (a==b)))
 | .neq=>some (True,.lit (.bool (a != b)))
 | .lss=>some (True,.lit (.bool (decide (a<b))))
 | .leq=>some (True,.lit (.bool (decide (a<=b))))
 | .gtr=>some (True,.lit (.bool (decide (a>b))))
 | .geq=>some (True,.lit (.bool (decide (a>=b))))
 | .and=>some (True,.lit (.int k (k.wrap ((BitVec.ofInt k.bits a &&& BitVec.ofInt k.bits b).toNat))))
 | .xor=>some (True,.lit (.int k (k.wrap ((BitVec.ofInt k.bits a ^^^ BitVec.ofInt k.bits b).toNat))))
 | .shr=>some (0<=b,.lit (.int k (a.fdiv (2 ^ min b.toNat k.bits))))
 | .shl=>some (0<=b,.lit (.int k (k.wrap (a*2 ^ min b.toNat k.bits))))
 | _=>none
def Pf(k:IntKind)(n:Int):Prop:=
 match k with
 | .i64=> -9223372036854775808<=n/\n<=9223372036854775807
 | .i32=> -2147483648<=n/\n<=2147483647
 | .u8=>0<=n/\n<=255
 | k=>k.wrap n=n
def vu(op:BinOp)(k:IntKind)(a b:Int):Option (Prop×V):=
 match op with
 | .add=>some (Pf k (a+b),.lit (.int k (a+b)))
 | .sub=>some (Pf k (a-b),.lit (.int k (a-b)))
 | .mul=>some (Pf k (a*b),.lit (.int k (a*b)))
 | .quo=>some (0<=a/\0<b/\Pf k a,.lit (.int k (a / b)))
 | .rem=>some (0<=a/\0<b,.lit (.int k (a % b)))
 | .and=>some (0<=a/\0<=b/\Pf k a/\Pf k b,.lit (.int k ((a.toNat &&& b.toNat:Nat):Int)))
 | .xor=>some (0<=a/\0<=b/\Pf k a/\Pf k b,.lit (.int k ((a.toNat ^^^ b.toNat:Nat):Int)))
 | .shr=>some (0<=b/\b<k.bits,.lit (.int k (a.fdiv (2 ^ b.toNat))))
 | op=>jF op k a b
def vT(op:BinOp)(a b:ByteArray):Option (Prop×V):=
 match op with
 | .add=>some (a.size+b.size<=4611686018427387904,.lit (.string (a++b)))
 | .eql=>some (True,.lit (.bool (a.toList==b.toList)))
 | .neq=>some (True,.lit (.bool (!(a.toList==b.toList))))
 | _=>none
def Bt(op:BinOp)(a b:Bool):Option (Prop×V):=
 match op with
 | .eql=>some (True,.lit (.bool (a==b)))
 | .neq=>some (True,.lit (.bool (!(a==b))))
 | _=>none
def sS(op:BinOp)(d:Option D)(x y:V):Option (Prop×V):=
 match d,x,y with
 | some (.int _),.lit (.int k a),.lit (.int k' b)=>if op=.shr\/op=.shl then vu op k a b else if k=k' then vu op k a b else none
 | some .str,.lit (.string a),.lit (.string b)=>vT op a b
 | some .bool,.lit (.bool a),.lit (.bool b)=>Bt op a b
 | _,_,_=>none
def VE(op:UnOp)(x:V):Option (Prop×V):=
 match op,x with
 | .not,.lit (.bool b)=>some (True,.lit (.bool (!b)))
 | .neg,.lit (.int k n)=>some (Pf k (-n),.lit (.int k (-n)))
 | _,_=>none
def tD(P:Program)(T:Nat):Option D:=(ti P T).map (·.d)
def Vw:V->Bool×V
 | .gv b v=>(b,v)
 | v=>(true,v)
def Cq(A:AS)(a b:Operand):V->Option (Prop×V)
 | .lit (.bool c)=>match Vw (A.ev a),Vw (A.ev b) with
   | (ga,.lit (.bool x)),(gb,.lit (.bool y))=>some ((c=true->ga=true)/\(c=false->gb=true),.lit (.bool (cond c x y)))
   | _,_=>none
 | _=>none
def GH:Option D->Option D->V->Option (Prop×V)
 | some (.int _),some (.int k),.lit (.int _ n)=>some (Pf k n,.lit (.int k n))
 | some .str,some .str,.lit (.string s)=>some (True,.lit (.string s))
 | _,_,_=>none
def WW(s:ByteArray)(i:Int):V:=.lit (.int .u8 (s.data.getD i.toNat 0).toNat)
def EF:Option D->V->V->Option (Prop×V)
 | some .str,.lit (.string s),.lit (.int _ i)=>some (0<=i/\i<s.size,WW s i)
 | _,_,_=>none
def SE:Option V->Option Int
 | none=>some 0
 | some (.lit (.int _ l))=>some l
 | _=>none
def R0(n:Nat):Option V->Option Int
 | none=>some n
 | some (.lit (.int _ l))=>some l
 | _=>none
def Gi(s:ByteArray)(lo hi:Option V):Option (Prop×V):=
 match SE lo,R0 s.size hi with
 | some l,some h=>some (0<=l/\l<=h/\h<=s.size,.lit (.string (s.extract l.toNat h.toNat)))
 | _,_=>none
def Ce(d:Option D)(x:V)(lo hi:Option V):Option (Prop×V):=
 match d,x with
 | some .str,.lit (.string s)=>Gi s lo hi
 | _,_=>none
def yS:Option D->V->Option (Prop×V)
 | some .str,.lit (.string s)=>some (True,.lit (.int .i64 s.size))
 | some (.sl _),.sl _ xs=>some (True,.lit (.int .i64 xs.length))
 | some (.sl _),.own _ xs _ _ _=>some (True,.lit (.int .i64 xs.length))
 | some (.sl _),.hd _ _ _ _ _ _ n _=>some (True,.lit (.int .i64 n))
 | _,_=>none
def Gr:V->Nat->Option (Prop×V)
 | .tup vs,i=>match vs[i]? with
   | some v=>if v.cW then none else some (True,v)
   | none=>none
 | _,_=>none
def Cj:V->V->Option (Prop×V)
 | .lit (.int k a),.lit (.int k' b)=>if k=k' then some (True,.lit (.int k (max a b))) else none
 | _,_=>none
def uc(P:Program)(A:AS)(c:Call):Option (Prop×V):=
 match c.callee with
 | .builtin .len=>match c.args.toList,c.argTypes.toList with
   | [x],[T]=>yS (tD P T) (A.ev x)
   | _,_=>none
 | .builtin .max=>match c.args.toList with
   | [x,y]=>Cj (A.ev x) (A.ev y)
   | _=>none
 | _=>none
def NF(P:Program)(A:AS):Op->Option (Prop×V)
 | .move x=>some (True,Bp A x (A.cp x))
 | .pick c a b=>Cq A a b (A.ev c)
 | .binOp op T x y _=>sS op (tD P T) (A.ev x) (A.ev y)
 | .unOp op _ x=>VE op (A.ev x)
 | .convert s d x=>GH (tD P s) (tD P d) (A.ev x)
 | .index T x i=>EF (tD P T) (A.ev x) (A.ev i)
 | .slice T x lo hi none=>Ce (tD P T) (A.ev x) (lo.map A.ev) (hi.map A.ev)
 | .call c=>uc P A c
 | .extract x i=>Gr (A.ev x) i
 | _=>none
end Go.Abs
namespace Go.Abs
open Go
section
variable {w:World} {Pb:Nat->Prop}
mutual
theorem kv(r:l7):∀ (v:V) (p:List Nat) {cs F},R w Pb v cs F->R w Pb (v.Pq r p) cs []
 | .own sz xs g o c,p,cs,F,h=>by
   rcases h with ⟨h1,h2,h3,A,h4⟩ | ⟨h1,h2,h3,h4,_⟩
   subst h1 h2;exact⟨rfl,Nat.le_refl _,A,h4,fun h=>absurd h Z9⟩
   exact⟨rfl,h3,_,h4,fun _=>by simp⟩
 | .ow ..,_,_,_,h=>by
   obtain⟨g,o,c,h⟩:=h
   rcases h with ⟨h1,h2,h3,A,h4⟩ | ⟨h1,h2,h3,h4,_⟩
   exact⟨rfl,_,h4,rfl⟩
   exact⟨rfl,_,h4,rfl⟩
 | .om ..,_,_,_,h=>⟨rfl,h.2.1,rfl⟩
 | .mp ..,_,_,_,h=>⟨rfl,h.2⟩
 | .agg vs,p,cs,F,h=>by simp only[R,V.Pq]at h ⊢;exact yi r vs p 0 h
 | .tup _,_,_,_,h=>by simp[R]at h
 | .gv _ _,_,_,_,h=>by simp[R]at h
 | .lit x,_,_,_,h=>⟨h.1,h.2.1,rfl⟩
 | .sl ..,_,_,_,h=>⟨rfl,h.2⟩
 | .hd ..,_,_,_,h=>⟨rfl,h.2⟩
 | .ptr ..,_,_,_,h=>⟨rfl,h.2⟩
 | .ep _,_,_,_,h=>⟨rfl,h.2⟩
 | .c9,_,_,_,h=>⟨rfl,h.2⟩
theorem yi(r:l7):∀ (vs:List V) (p:List Nat) (j:Nat) {cs F},RL w Pb vs cs F->RL w Pb (V.EK r p j vs) cs []
 | [],_,_,_,_,h=>⟨h.1,rfl⟩
 | v::vs,p,j,cs,F,h=>by
   obtain⟨c1,c2,F1,F2,rfl,_,h1,h2⟩:=h
   exact⟨c1,c2,[],[],rfl,rfl,kv r v _ h1,yi r vs p (j+1) h2⟩
end
mutual
theorem iU:∀ (v:V) {cs F},v.cW=false->R w Pb v cs F->F=[]
 | .own ..,_,_,ho,_=>by simp[V.cW]at ho
 | .ow ..,_,_,ho,_=>by simp[V.cW]at ho
 | .om ..,_,_,ho,_=>by simp[V.cW]at ho
 | .mp ..,_,_,_,h=>h.1
 | .agg vs,_,_,ho,h=>by simp only[R]at h;exact fG vs (by simpa[V.cW] using ho) h
 | .tup _,_,_,_,h=>by simp[R]at h
 | .gv _ _,_,_,_,h=>by simp[R]at h
 | .lit x,_,_,_,h=>h.2.2
 | .sl ..,_,_,_,h=>h.1
 | .hd ..,_,_,_,h=>h.1
 | .ptr ..,_,_,_,h=>h.1
 | .ep _,_,_,_,h=>h.1
 | .c9,_,_,_,h=>h.1
theorem fG:∀ (vs:List V) {cs F},V.aG vs=false->RL w Pb vs cs F->F=[]
 | [],_,_,_,h=>h.2
 | v::vs,_,_,ho,h=>by
   obtain⟨c1,c2,F1,F2,_,rfl,h1,h2⟩:=h
   simp only[V.aG,Bool.or_eq_false_iff]at ho
   rw[iU v ho.1 h1,fG vs ho.2 h2];rfl
end
theorem sJ:∀ (vs:List V) {xs F},V.aG vs=false->RVs w Pb vs xs F->F=[]
 | [],_,_,_,h=>h.2
 | v::vs,_,_,ho,h=>by
   obtain⟨x,xs',F1,F2,_,rfl,h1,h2⟩:=h
   simp only[V.aG,Bool.or_eq_false_iff]at ho
   rw[sJ vs ho.2 h2]
   cases v with
   | agg us=>obtain⟨cs,_,h1⟩:=h1;rw[fG us (by simpa[V.cW] using ho.1) h1];rfl
   | c9=>rw[h1];rfl
   | tup _=>simp[R]at h1
   | gv _ _=>simp[R]at h1
   | _=>rw[iU _ ho.1 h1];rfl
theorem JY{v:V}{x:Value}{F:List Nat}(r:l7)(h:RV w Pb v x F):RV w Pb (v.cp r) x []:=by
 cases v with
 | tup _=>rfl
 | gv _ _=>rfl
 | agg us=>obtain⟨cs,e,h⟩:=h;exact⟨cs,e,yi r us [] 0 h⟩
 | c9=>rfl
 | own sz xs g o c=>exact kv (w:=w) (Pb:=Pb) r (.own sz xs g o c) [] h
 | ow sz xs=>rfl
 | om es g=>exact kv (w:=w) (Pb:=Pb) r (.om es g) [] h
 | mp es=>exact kv (w:=w) (Pb:=Pb) r (.mp es) [] h
 | lit x=>exact kv (w:=w) (Pb:=Pb) r (.lit x) [] h
 | sl f xs=>exact kv (w:=w) (Pb:=Pb) r (.sl f xs) [] h
 | hd r' p sz g o lo n c=>exact kv (w:=w) (Pb:=Pb) r (.hd r' p sz g o lo n c) [] h
 | ptr r' p g o=>exact kv (w:=w) (Pb:=Pb) r (.ptr r' p g o) [] h
 | ep v=>exact kv (w:=w) (Pb:=Pb) r (.ep v) [] h
theorem GX{x:Value}(h:x.oneCell'=true):R w Pb (Ri x) [x] []:=by
 unfold Ri
 split
 exact⟨rfl,none,0,rfl,Nat.le_refl _,fun _=>rfl,.inl rfl⟩
 exact⟨h,rfl,rfl⟩
theorem CQ:∀ (l:List Value),l.all (·.oneCell')=true->RL w Pb (l.map Ri) l []
 | [],_=>⟨rfl,rfl⟩
 | x::l,h=>by
   simp only[List.all_cons,Bool.and_eq_true]at h
   exact⟨[x],l,[],[],rfl,rfl,GX h.1,CQ l h.2⟩
theorem rV(x:Value):RV w Pb (cV x) x []:=by
 cases x with
 | agg cs=>
   unfold cV
   by_cases h:cs.toList.all (·.oneCell')=true
   simp only[h,if_true];exact⟨cs,rfl,CQ _ h⟩
   simp only[h];rfl
 | tuple _=>rfl
 | slice a n c=>
   have h:=GX (w:=w) (Pb:=Pb) (x:=.slice a n c) rfl
   unfold cV;simp only
   revert h
   unfold Ri
   split <;> exact fun h=>h
 | _=>exact⟨rfl,rfl,rfl⟩
variable {N:Nat} {Kb:Nat->Prop} {A:AS} {a:Act} {F:l7->List Nat}
theorem dy(h:s3 N Pb Kb A a w F)(x:Operand):∃ Fx,RV w Pb (A.ev x) (a.eval x) Fx:=by
 cases x with
 | tmp i=>exact⟨_,h.slot i⟩
 | const v=>exact⟨[],rV v⟩
 | global g=>exact⟨[],rfl,rfl⟩
 | func f=>exact⟨[],rfl,rfl,rfl⟩
theorem bT(h:s3 N Pb Kb A a w F){x:Operand}{y:Value}(e:A.ev x=.lit y):a.eval x=y:=by
 obtain⟨Fx,hr⟩:=dy h x
 rw[e]at hr
 have:=hr.2.1
 simpa using this
theorem qg(h:s3 N Pb Kb A a w F)(x:Operand):RV w Pb (A.cp x) (a.eval x) []:=by
 cases x with
 | tmp i=>exact JY (.slot i) (h.slot i)
 | const v=>exact rV v
 | global g=>exact⟨rfl,rfl⟩
 | func f=>exact⟨rfl,rfl,rfl⟩
variable {P:Program}
theorem aF{T:Nat}{d:TypeDesc}(h:P.underlying T=some d):(underlying T).run P w=.ok d w:=by
 simp[underlying,h]
theorem cG{T:Nat}{d:D}(h:tD P T=some d):∃ td,P.underlying T=some td/\dm td=d:=by
 unfold tD at h
 cases hi:ti P T with
 | none=>simp[hi]at h
 | some i=>
   obtain⟨inf,td,_,h2,_,_,h5⟩:=jr hi
   simp[hi]at h
   exact⟨td,h2,h5.trans h⟩
theorem sB(op:BinOp)(T:Nat)(x y:Operand){u v:Value}(hu:∀ cs,u≠.agg cs)(hn:u≠.nilIface):(eqGuard op T x y u v).run P w=.ok () w:=by
 unfold eqGuard
 cases op <;> first | rfl | (cases u <;> first | (exact absurd rfl hn) | (exact absurd rfl (hu _)) | rfl)
theorem EN{op:BinOp}{k:IntKind}{p q:Int}{C:Prop}{v:V}(h:jF op k p q=some (C,v))(hC:C){T:Nat}(hs:op=.shr\/op=.shl->∀ yk,∃ x,(binOp op T (.int k p) (.int yk q)).run P w=.ok x w/\v=.lit x/\x.oneCell'=true):
 ∃ x,(binOp op T (.int k p) (.int k q)).run P w=.ok x w/\v=.lit x/\x.oneCell'=true:=by
 cases op <;> simp only[jF,Option.some.injEq,Prod.mk.injEq,reduceCtorEq]at h <;> obtain⟨rfl,rfl⟩:=h
 all_goals first
  | exact hs (.inl rfl) k
  | exact hs (.inr rfl) k
  | (refine⟨_,?_,rfl,rfl⟩
     simp only[binOp,ne_eq,not_true_eq_false,if_false]
     first | rfl | (unfold Op.intDiv;rw[if_neg hC];rfl))
theorem Ds{op:BinOp}(ho:op=.shr\/op=.shl){k yk:IntKind}{p q:Int}{C:Prop}{v:V}(h:jF op k p q=some (C,v))(hC:C){T:Nat}:
 ∃ x,(binOp op T (.int k p) (.int yk q)).run P w=.ok x w/\v=.lit x/\x.oneCell'=true:=by
 rcases ho with rfl | rfl <;> simp only[jF,Option.some.injEq,Prod.mk.injEq]at h <;> obtain⟨rfl,rfl⟩:=h <;>
  exact⟨_,by simp[binOp,Op.shift,Int.not_lt.2 hC],rfl,rfl⟩
theorem uA{T:Nat}(hu:P.underlying T=some .bool)(p q:Bool):(Op.equal T (.bool p) (.bool q)).run P w=.ok (p==q) w:=by
 obtain⟨n,hn⟩:∃ n,Op.maxDepth=n+1:=⟨9999,rfl⟩
 unfold Op.equal
 rw[hn]
 simp only[Op.equalIn,Sem.run_bind,aF hu,Result.andThen_ok,Sem.run_pure]
theorem kR{k:IntKind}{n:Int}(h:Pf k n):k.wrap n=n:=by
 cases k <;> simp only[Pf]at h <;> first | exact h | (simp only[IntKind.wrap,IntKind.bits,IntKind.signed,Bool.true_and,Bool.false_and];split <;> simp_all <;> omega)
def TA(k:IntKind):Nat:=if k.signed then k.bits-1 else k.bits
theorem CX(k:IntKind):2 ^ TA k<=2 ^ k.bits:=Nat.pow_le_pow_right Z6 (by unfold TA;split <;> omega)
theorem tM{k:IntKind}{m:Nat}(h:m<2 ^ TA k):k.wrap (m:Int)=m:=by
 unfold IntKind.wrap
 cases k <;> simp[TA,IntKind.bits,IntKind.signed]at h ⊢ <;> omega
theorem nu{k:IntKind}{n:Int}(h:Pf k n)(h0:0<=n):n.toNat<2 ^ TA k:=by
 have hw:=kR h
 obtain⟨q,rfl⟩:=Int.eq_ofNat_of_zero_le h0
 unfold IntKind.wrap at hw
 cases k <;> simp[IntKind.bits,IntKind.signed,TA]at hw ⊢ <;> (try split at hw) <;> omega
theorem xq{op:BinOp}{k:IntKind}{p q:Int}{C:Prop}{v:V}(h:vu op k p q=some (C,v))(hC:C):∃ C',jF op k p q=some (C',v)/\C':=by
 cases op <;> simp only[vu,Option.some.injEq,Prod.mk.injEq]at h
 case add=>obtain⟨rfl,rfl⟩:=h;exact⟨_,by simp only[jF,kR hC],trivial⟩
 case sub=>obtain⟨rfl,rfl⟩:=h;exact⟨_,by simp only[jF,kR hC],trivial⟩
 case mul=>obtain⟨rfl,rfl⟩:=h;exact⟨_,by simp only[jF,kR hC],trivial⟩
 case quo=>
  obtain⟨rfl,rfl⟩:=h
  obtain⟨h0,h1,h2⟩:=hC
  refine⟨_,?_,show q≠0 by omega⟩
  have e:p.tdiv q=p / q:=Int.tdiv_eq_ediv_of_nonneg h0
  have hd:0<=p / q:=Int.ediv_nonneg h0 Z9
  have hle:p / q<=p:=Int.ediv_le_self _ h0
  have hb:=nu h2 h0
  have:=tM (k:=k) (m:=(p / q).toNat) Z9
  rw[Int.toNat_of_nonneg hd]at this
  simp only[jF,e,this]
 case rem=>
  obtain⟨rfl,rfl⟩:=h
  obtain⟨h0,h1⟩:=hC
  refine⟨_,?_,show q≠0 by omega⟩
  simp only[jF,Int.tmod_eq_emod_of_nonneg h0]
 case and=>
  obtain⟨rfl,rfl⟩:=h
  obtain⟨h0,h1,h2,h3⟩:=hC
  refine⟨_,?_,trivial⟩
  obtain⟨a,rfl⟩:=Int.eq_ofNat_of_zero_le h0
  obtain⟨b,rfl⟩:=Int.eq_ofNat_of_zero_le h1
  have ha:=nu h2 h0
  have hb:=nu h3 h1
  have hk:=CX k
  simp only[Int.toNat_natCast]at ha hb
  have e:(BitVec.ofInt k.bits (a:Int) &&& BitVec.ofInt k.bits (b:Int)).toNat=a &&& b:=by
   simp only[BitVec.toNat_and,BitVec.toNat_ofInt]
   rw[Int.emod_eq_of_lt Z9 (by exact_mod_cast Nat.lt_of_lt_of_le ha hk),Int.emod_eq_of_lt Z9 (by exact_mod_cast Nat.lt_of_lt_of_le hb hk)];rfl
  have:=tM (k:=k) (m:=a &&& b) (Nat.lt_of_le_of_lt Nat.and_le_left ha)
  simp only[jF,e,this,Int.toNat_natCast]
 case xor=>
  obtain⟨rfl,rfl⟩:=h
  obtain⟨h0,h1,h2,h3⟩:=hC
  refine⟨_,?_,trivial⟩
  obtain⟨a,rfl⟩:=Int.eq_ofNat_of_zero_le h0
  obtain⟨b,rfl⟩:=Int.eq_ofNat_of_zero_le h1
  have ha:=nu h2 h0
  have hb:=nu h3 h1
  have hk:=CX k
  simp only[Int.toNat_natCast]at ha hb
  have e:(BitVec.ofInt k.bits (a:Int) ^^^ BitVec.ofInt k.bits (b:Int)).toNat=a ^^^ b:=by
   simp only[BitVec.toNat_xor,BitVec.toNat_ofInt]
   rw[Int.emod_eq_of_lt Z9 (by exact_mod_cast Nat.lt_of_lt_of_le ha hk),Int.emod_eq_of_lt Z9 (by exact_mod_cast Nat.lt_of_lt_of_le hb hk)];rfl
  have:=tM (k:=k) (m:=a ^^^ b) (Nat.xor_lt_two_pow ha hb)
  simp only[jF,e,this,Int.toNat_natCast]
 case shr=>
  obtain⟨rfl,rfl⟩:=h
  obtain⟨h1,h2⟩:=hC
  refine⟨_,?_,h1⟩
  have:min q.toNat k.bits=q.toNat:=Z9
  simp only[jF,this]
 all_goals exact⟨_,h,hC⟩
theorem EE{op:BinOp}{x y:V}{C:Prop}{v:V}{T:Nat}(h:sS op (tD P T) x y=some (C,v))(hC:C):
 ∃ u u',x=.lit u/\y=.lit u'/\(∀ cs,u≠.agg cs)/\u≠.nilIface/\∃ z,(binOp op T u u').run P w=.ok z w/\v=.lit z/\z.oneCell'=true:=by
 unfold sS at h
 split at h
 rename_i k p k' q _
 refine⟨_,_,rfl,rfl,Z8,Z8,?_⟩
 split at h
 rename_i ho;obtain⟨C',h',WS⟩:=xq h hC;exact Ds ho h' WS
 rename_i ho
 split at h
 rename_i hk;subst hk;obtain⟨C',h',WS⟩:=xq h hC;exact EN h' WS (fun h=>absurd h ho)
 simp at h
 rename_i p q _
 refine⟨_,_,rfl,rfl,Z8,Z8,?_⟩
 cases op <;> simp only[vT,Option.some.injEq,Prod.mk.injEq,reduceCtorEq]at h <;> obtain⟨rfl,rfl⟩:=h
 refine⟨_,?_,rfl,rfl⟩
 have: ¬ (((p.size+q.size:Nat):Int)>IntKind.i64.max):=by
  have:IntKind.i64.max=9223372036854775807:=Z6
  omega
 simp only[binOp,Op.stringOp,if_neg this,Sem.run_pure]
 exact⟨_,rfl,rfl,rfl⟩
 exact⟨_,rfl,rfl,rfl⟩
 rename_i p q hT
 refine⟨_,_,rfl,rfl,Z8,Z8,?_⟩
 obtain⟨td,hu,hd⟩:=cG hT
 have P':td=.bool:=by cases td <;> simp[dm]at hd ⊢
 subst P'
 cases op <;> simp only[Bt,Option.some.injEq,Prod.mk.injEq,reduceCtorEq]at h <;> obtain⟨rfl,rfl⟩:=h
 exact⟨_,by simp only[binOp,Sem.run_bind,uA hu,Result.andThen_ok,Sem.run_pure],rfl,rfl⟩
 exact⟨_,by simp only[binOp,Sem.run_bind,uA hu,Result.andThen_ok,Sem.run_pure],rfl,rfl⟩
 simp at h
theorem de{x:Value}(h:x.oneCell'=true):RV w Pb (.lit x) x []:=⟨h,rfl,rfl⟩
theorem yK(h:s3 N Pb Kb A a w F){lo:Option Operand}{l:Int}(hl:SE (lo.map A.ev)=some l):(lo=none/\l=0)\/∃ k,(lo.map a.eval)=some (.int k l):=by
 cases lo with
 | none=>simp[SE]at hl;exact .inl ⟨rfl,hl.symm⟩
 | some x=>
   right
   simp only[Option.map_some,SE]at hl
   cases hx:A.ev x with
   | lit y=>
     cases y with
     | int k l'=>rw[hx]at hl;simp at hl;subst hl;exact⟨k,by simp[bT h hx]⟩
     | _=>rw[hx]at hl;simp at hl
   | _=>rw[hx]at hl;simp at hl
theorem vv(h:s3 N Pb Kb A a w F){n:Nat}{hi:Option Operand}{l:Int}(hl:R0 n (hi.map A.ev)=some l):(hi=none/\l=n)\/∃ k,(hi.map a.eval)=some (.int k l):=by
 cases hi with
 | none=>simp[R0]at hl;exact .inl ⟨rfl,hl.symm⟩
 | some x=>
   right
   simp only[Option.map_some,R0]at hl
   cases hx:A.ev x with
   | lit y=>
     cases y with
     | int k l'=>rw[hx]at hl;simp at hl;subst hl;exact⟨k,by simp[bT h hx]⟩
     | _=>rw[hx]at hl;simp at hl
   | _=>rw[hx]at hl;simp at hl
theorem jn{k:IntKind}{i:Int}{y:Nat}{code:BoundsCode}(h0:0<=i)(h1:i<=y):(Instr.sliceBound (.int k i) y code).run P w=.ok i.toNat w:=by
 simp[Instr.sliceBound,asIntOf,h0,h1]
theorem kK{sl:Bool} {n c:Nat} {lo hi:Option Value} {l h:Int} (hlo:(lo=none/\l=0)\/∃ k,lo=some (.int k l)) (hhi:(hi=none/\h=n)\/∃ k,hi=some (.int k h))
 (h0:0<=l) (h1:l<=h) (h2:h<=(c:Nat)) (hn:n<=c):(Instr.sliceBounds sl n c lo hi none).run P w=.ok (l.toNat,h.toNat,c) w:=by
 have hb:(h.toNat:Int)=h:=Int.toNat_of_nonneg Z9
 rcases hlo with ⟨rfl,rfl⟩ | ⟨k,rfl⟩ <;> rcases hhi with ⟨rfl,rfl⟩ | ⟨k',rfl⟩
 simp[Instr.sliceBounds]
 simp only[Instr.sliceBounds,Sem.run_bind,Sem.run_pure,Result.andThen_ok,jn (w:=w) (P:=P) (k:=k') (code:=if sl then .sliceAcap else .sliceAlen) (show 0<=h by omega) h2];rfl
 simp only[Instr.sliceBounds,Sem.run_bind,Sem.run_pure,Result.andThen_ok,Option.isSome,Bool.false_eq_true,if_false,jn (w:=w) (P:=P) (k:=k) (y:=n) (code:=.sliceB) h0 h1];rfl
 simp only[Instr.sliceBounds,Sem.run_bind,Sem.run_pure,Result.andThen_ok,Option.isSome,Bool.false_eq_true,if_false,jn (w:=w) (P:=P) (k:=k') (code:=if sl then .sliceAcap else .sliceAlen) (show 0<=h by omega) h2,
  jn (w:=w) (P:=P) (k:=k) (y:=h.toNat) (code:=.sliceB) h0 Z9]
theorem Ar:∀ (vs:List V) {xs:List Value} {F:List Nat} {i:Nat} {v:V},RVs w Pb vs xs F->vs[i]? =some v->v.cW=false->∃ x,xs[i]? =some x/\RV w Pb v x []
 | [],_,_,_,_,_,h,_=>by simp at h
 | v::vs,xs,F,0,u,h,hi,ho=>by
     obtain⟨x,xs',F1,F2,rfl,rfl,h1,h2⟩:=h
     simp at hi;subst hi
     refine⟨x,rfl,?_⟩
     cases v with
     | agg us=>obtain⟨cs,e,h1⟩:=h1;exact⟨cs,e,by rw[fG us (by simpa[V.cW] using ho) h1]at h1;exact h1⟩
     | c9=>rfl
     | tup us=>simp[R]at h1
     | gv _ _=>simp[R]at h1
     | own=>simp[V.cW]at ho
     | ow=>simp[V.cW]at ho
     | om=>simp[V.cW]at ho
     | mp=>exact⟨rfl,h1.2⟩
     | lit=>exact⟨h1.1,h1.2.1,rfl⟩
     | sl=>exact⟨rfl,h1.2⟩
     | hd=>exact⟨rfl,h1.2⟩
     | ptr=>exact⟨rfl,h1.2⟩
     | ep=>exact⟨rfl,h1.2⟩
 | v::vs,xs,F,i+1,u,h,hi,ho=>by
     obtain⟨x,xs',F1,F2,rfl,rfl,h1,h2⟩:=h
     obtain⟨y,hy,hr⟩:=Ar vs h2 (by simpa using hi) ho
     exact⟨y,by simpa using hy,hr⟩
theorem Am{op:Op}{C:Prop}{v:V}(h:NF P A op=some (C,v))(hC:C)(hs:s3 N Pb Kb A a w F){o:Oper}(ho:o.op=op):
 ∃ x,(execOp a.eval o).run P w=.ok (.value x) w/\RV w Pb v x []:=by
 obtain⟨dst,op',ty,pos,after,guard⟩:=o
 subst ho
 unfold NF at h
 split at h
 rename_i x K8;subst K8
 simp at h;obtain⟨_,rfl⟩:=h
 refine⟨_,rfl,?_⟩
 unfold Bp
 split
 rename_i vs e
 obtain⟨Fx,hr⟩:=dy hs x
 rw[e]at hr
 split
 rfl
 rename_i ho
 obtain⟨xs,hx,hr⟩:=hr
 have hF:=sJ vs (by simpa using ho) hr
 subst hF
 exact⟨xs,hx,hr⟩
 exact qg hs x
 · rename_i c p q K8;subst K8
   unfold Cq at h
   split at h
   case h_2=>simp at h
   · rename_i c' e
     split at h
     case h_2=>simp at h
     rename_i ga x gb y ea eb
     simp only[Option.some.injEq,Prod.mk.injEq]at h
     obtain⟨rfl,rfl⟩:=h
     have ex:∀ (z:Operand) (g b:Bool),Vw (A.ev z)=(g,.lit (.bool b))->g=true->a.eval z=.bool b:=fun z g b hz hg=>by
      obtain⟨Fx,hr⟩:=dy hs z
      unfold Vw at hz
      split at hz
      rename_i b' v' e'
      simp only[Prod.mk.injEq]at hz
      obtain⟨rfl,rfl⟩:=hz
      rw[e']at hr
      have:=(hr.2.1 hg).2.1
      simpa using this
      simp only[Prod.mk.injEq]at hz
      rw[hz.2]at hr
      have:=hr.2.1
      simpa using this
     simp only[execOp,bT hs e,asBool,Sem.run_bind,Sem.run_pure,Result.andThen_ok]
     cases c'
     exact⟨.bool y,by simp[ex q gb y eb (hC.2 rfl)],de rfl⟩
     exact⟨.bool x,by simp[ex p ga x ea (hC.1 rfl)],de rfl⟩
 rename_i op T x y _ K8;subst K8
 obtain⟨u,u',hx,hy,hu,hn,z,hz,rfl,h1⟩:=EE (w:=w) (P:=P) h hC
 refine⟨z,?_,de h1⟩
 simp only[execOp,bT hs hx,bT hs hy,Sem.run_bind,sB op T x y hu hn,Result.andThen_ok,hz,Sem.run_pure]
 rename_i op T x K8;subst K8
 unfold VE at h
 split at h <;> simp only[Option.some.injEq,Prod.mk.injEq,reduceCtorEq]at h
 rename_i b e;obtain⟨_,rfl⟩:=h
 exact⟨_,by simp only[execOp,bT hs e];rfl,de rfl⟩
 rename_i k n e;obtain⟨rfl,rfl⟩:=h
 exact⟨_,by simp only[execOp,bT hs e];rw[show -n=IntKind.wrap k (0-n) by rw[Int.zero_sub];exact(kR hC).symm];rfl,de rfl⟩
 rename_i s d x K8;subst K8
 unfold GH at h
 split at h <;> simp only[Option.some.injEq,Prod.mk.injEq,reduceCtorEq]at h
 rename_i k0 k k1 n x8 R1 e;obtain⟨rfl,rfl⟩:=h
 obtain⟨td,hu,hd⟩:=cG x8
 obtain⟨VH,SJ,R1⟩:=cG R1
 cases td <;> simp[dm]at hd
 cases VH <;> simp[dm]at R1
 subst hd R1
 exact⟨.int _ (IntKind.wrap _ n),by simp only[execOp,bT hs e,convert,Sem.run_bind,aF hu,aF SJ,Result.andThen_ok];rfl,by rw[kR hC];exact de rfl⟩
 rename_i s' x8 R1 e;obtain⟨_,rfl⟩:=h
 obtain⟨td,hu,hd⟩:=cG x8
 obtain⟨VH,SJ,R1⟩:=cG R1
 cases td <;> simp[dm]at hd
 cases VH <;> simp[dm]at R1
 exact⟨_,by simp only[execOp,bT hs e,convert,Sem.run_bind,aF hu,aF SJ,Result.andThen_ok];rfl,de rfl⟩
 rename_i T x i K8;subst K8
 unfold EF at h
 split at h <;> simp only[Option.some.injEq,Prod.mk.injEq,reduceCtorEq]at h
 rename_i s k i' x8 e e';obtain⟨rfl,rfl⟩:=h
 obtain⟨td,hu,hd⟩:=cG x8
 cases td <;> simp[dm]at hd
 obtain⟨h0,h1⟩:=hC
 have hlt:i'.toNat<s.size:=Z9
 refine⟨.int .u8 (s.data.getD i'.toNat 0).toNat,?_,de rfl⟩
 have hg:s[i'.toNat]? =some (s.data.getD i'.toNat 0):=by
  rw[getElem?_pos s i'.toNat hlt]
  have Q5:i'.toNat<s.data.size:=hlt
  simp only[Array.getD,dif_pos Q5];rfl
 simp only[execOp,bT hs e,bT hs e',Instr.index,asIntOf,Sem.run_bind,aF hu,Sem.run_pure,Result.andThen_ok,if_pos h0,hg]
 rename_i T x lo hi K8;subst K8
 unfold Ce at h
 split at h
 rename_i s x8 e
 unfold Gi at h
 obtain⟨td,hu,hd⟩:=cG x8
 cases td <;> simp[dm]at hd
 split at h
 rename_i l h' hl hh
 simp only[Option.some.injEq,Prod.mk.injEq]at h;obtain⟨rfl,rfl⟩:=h
 obtain⟨h0,h1,h2⟩:=hC
 have b1:=yK hs hl
 have b2:=vv hs hh
 have b1':(lo.map a.eval=none/\l=0)\/∃ k,lo.map a.eval=some (.int k l):=b1.imp (fun⟨e,f⟩=>⟨by simp[e],f⟩) id
 have b2':(hi.map a.eval=none/\h'=s.size)\/∃ k,hi.map a.eval=some (.int k h'):=b2.imp (fun⟨e,f⟩=>⟨by simp[e],f⟩) id
 refine⟨_,?_,de rfl⟩
 simp only[execOp,Instr.sliceAt,bT hs e,Sem.run_bind,aF hu,Result.andThen_ok,Instr.slice,Option.map_none,Option.isSome,Bool.false_eq_true,if_false,Sem.run_pure,
  kK (w:=w) (P:=P) (sl:=false) b1' b2' h0 h1 h2 (Nat.le_refl _)]
 simp at h
 simp at h
 · rename_i c K8;subst K8
   unfold uc at h
   split at h
   case h_3=>simp at h
   case h_2=>
    rename_i S'
    split at h
    case h_2=>simp at h
    rename_i x y hargs
    obtain⟨callee,args,argTypes⟩:=c
    obtain rfl:callee=.builtin .max:=S'
    obtain rfl:args= #[x,y]:=by rw[<- Array.toArray_toList (xs:=args)];exact congrArg _ hargs
    unfold Cj at h
    split at h
    rename_i k p k' q e1 e2
    split at h
    rename_i hk
    subst hk
    simp only[Option.some.injEq,Prod.mk.injEq]at h;obtain⟨WR,rfl⟩:=h;clear WR
    have e:(#[x,y].map a.eval)= #[.int k p,.int k q]:=by simp[bT hs e1,bT hs e2]
    exact⟨_,by simp only[execOp,resolve,invoke,builtin,Sem.run_bind,Sem.run_pure,Result.andThen_ok,e,Lib.run_max_ints],de rfl⟩
    simp at h
    simp at h
   rename_i S'
   split at h
   case h_2=>simp at h
   rename_i x T hargs V'
   obtain⟨callee,args,argTypes⟩:=c
   obtain rfl:callee=.builtin .len:=S'
   obtain rfl:args= #[x]:=by rw[<- Array.toArray_toList (xs:=args)];exact congrArg _ hargs
   obtain rfl:argTypes= #[T]:=by rw[<- Array.toArray_toList (xs:=argTypes)];exact congrArg _ V'
   unfold yS at h
   split at h <;> simp only[Option.some.injEq,Prod.mk.injEq,reduceCtorEq]at h <;> (obtain⟨WR,rfl⟩:=h;clear WR)
   rename_i s x8 e
   obtain⟨td,hu,hd⟩:=cG x8
   cases td <;> simp[dm]at hd
   exact⟨_,by simp[execOp,resolve,invoke,builtin,Builtin.len_,bT hs e,aF hu,goInt],de rfl⟩
   all_goals
    rename_i x8 e
    obtain⟨td,hu,hd⟩:=cG x8
    cases td <;> simp[dm]at hd
    obtain⟨Fx,hr⟩:=dy hs x
    rw[e]at hr
   obtain⟨_,A',c,hc,_⟩:=hr
   simp at hc
   exact⟨_,by simp[execOp,resolve,invoke,builtin,Builtin.len_,hc,aF hu,goInt],de rfl⟩
   rcases hr with ⟨_,rfl,_,A',hc⟩ | ⟨_,_,_,hc,_⟩ <;> simp at hc <;>
    exact⟨_,by simp[execOp,resolve,invoke,builtin,Builtin.len_,hc,aF hu,goInt],de rfl⟩
   obtain⟨_,_,A',hc,_⟩:=hr
   simp at hc
   exact⟨_,by simp[execOp,resolve,invoke,builtin,Builtin.len_,hc,aF hu,goInt],de rfl⟩
 rename_i x i K8;subst K8
 unfold Gr at h
 split at h
 rename_i i _ _ vs e
 split at h
 rename_i v' hv
 split at h
 simp at h
 rename_i ho
 simp at h;obtain⟨_,rfl⟩:=h
 obtain⟨Fx,hr⟩:=dy hs x
 rw[e]at hr
 obtain⟨xs,QX,hr⟩:=hr
 obtain⟨x',Mh,E0⟩:=Ar vs hr hv (by simpa using ho)
 refine⟨x',?_,E0⟩
 have V4:xs[i]? =some x':=by simpa using Mh
 simp only[execOp,QX,Instr.extract,V4,Sem.run_bind,Sem.run_pure,Result.andThen_ok]
 simp at h
 simp at h
 simp at h
end
end Go.Abs
namespace Go.Abs
open Go
def V.at(g o:Nat)(v:V):List Nat->Option (Nat×Nat×V)
 | []=>some (g,o,v)
 | j::p=>match v with
   | .agg vs=>match vs[j]? with
     | some u=>V.at g (o+V.ns (vs.take j)) u p
     | none=>none
   | .own sz xs g' o' _=>match xs[j]? with
     | some u=>V.at g' (o'+j*sz) u p
     | none=>none
   | _=>none
def V.sub(v:V):List Nat->Option V
 | []=>some v
 | j::p=>match v with
   | .agg vs=>match vs[j]? with
     | some u=>V.sub u p
     | none=>none
   | .own _ xs _ _ _=>match xs[j]? with
     | some u=>V.sub u p
     | none=>none
   | _=>none
def AS.at(A:AS)(r:l7)(p:List Nat):Option (Nat×Nat×V):=
 match r with
 | .key k=>match lk k A.h with
   | some (g,v)=>V.at g 0 v p
   | none=>none
 | .slot i=>match A.get i,p with
   | .own sz xs g o c,j::p=>V.at 0 0 (.own sz xs g o c) (j::p)
   | _,_=>none
def AS.sub(A:AS)(r:l7)(p:List Nat):Option V:=
 match r with
 | .key k=>match lk k A.h with
   | some (_,v)=>V.sub v p
   | none=>none
 | .slot i=>match A.get i with
   | .tup _=>none
   | v=>V.sub v p
def V.isAgg:V->Bool | .agg _=>true | _=>false
section
variable {w:World} {Pb Kb:Nat->Prop}
theorem fK:∀ (vs:List V) {cs F} {j:Nat} {v:V},RL w Pb vs cs F->vs[j]? =some v->
 ∃ c F',R w Pb v c F'/\(∀ g,g∈F'->g∈F)/\∀ i u,c[i]? =some u->cs[V.ns (vs.take j)+i]? =some u
 | [],_,_,_,_,_,h=>by simp at h
 | v::vs,cs,F,0,u,h,hj=>by
   obtain⟨c1,c2,F1,F2,rfl,rfl,h1,h2⟩:=h
   simp at hj;subst hj
   refine⟨c1,F1,h1,by simp_all,fun i u hu=>?_⟩
   simp only[List.take_zero,V.ns,Nat.zero_add]
   rw[List.getElem?_append_left (List.getElem?_eq_some_iff.1 hu).1];exact hu
 | v::vs,cs,F,j+1,u,h,hj=>by
   obtain⟨c1,c2,F1,F2,rfl,rfl,h1,h2⟩:=h
   obtain⟨c,F',hr,hF,hc⟩:=fK vs h2 (by simpa using hj)
   refine⟨c,F',hr,fun g hg=>by simp[hF g hg],fun i u hu=>?_⟩
   have hl:=eg v h1
   simp only[List.take_succ_cons,V.ns]
   rw[<- hl,Nat.add_assoc,List.getElem?_append_right Z9]
   have e:c1.length+(V.ns (vs.take j)+i)-c1.length=V.ns (vs.take j)+i:=Z9
   rw[e];exact hc i u hu
theorem dL{sz:Nat}:∀ (xs:List V) (j:Nat),aL sz xs->j<=xs.length->V.ns (xs.take j)=j*sz
 | _,0,_,_=>by simp[V.ns]
 | [],j+1,_,h=>by simp at h
 | v::vs,j+1,ha,h=>by
   simp only[List.take_succ_cons,V.ns,ha v Z8]
   rw[dL vs j (fun x hx=>ha x (by simp[hx])) (by simpa using h)]
   rw[Nat.add_mul];omega
theorem pV:∀ (p:List Nat) {v u:V} {g o g' o':Nat} {F},At w Pb v g o F->V.at g o v p=some (g',o',u)->∃ F',At w Pb u g' o' F'/\∀ x,x∈F'->x∈F
 | [],v,u,g,o,g',o',F,h,e=>by
   simp only[V.at,Option.some.injEq,Prod.mk.injEq]at e
   obtain⟨rfl,rfl,rfl⟩:=e
   exact⟨F,h,fun _ h=>h⟩
 | j::p,v,u,g,o,g',o',F,h,e=>by
   simp only[V.at]at e
   obtain⟨cs,cells,hb,hr,hc⟩:=h
   split at e
   rename_i vs
   split at e
   rename_i x hx
   simp only[R]at hr
   obtain⟨c,F',E0,hF,I8⟩:=fK vs hr hx
   obtain⟨Mc,h2,hF2⟩:=pV p (v:=x) ⟨c,cells,hb,E0,fun i u hu=>by rw[Nat.add_assoc];exact hc _ _ (I8 i u hu)⟩ e
   exact⟨Mc,h2,fun y hy=>hF y (hF2 y hy)⟩
   simp at e
   rename_i sz xs g1 o1 c1
   split at e
   rename_i x hx
   rcases hr with ⟨_,rfl,_⟩ | ⟨_,_,_,_,ha,_,flat,F',n7,rfl,hr,J3,_,I8⟩
   simp at hx
   obtain⟨c,Mc,E0,hF,M5⟩:=fK xs hr hx
   have hj:j<=xs.length:=by have:=(List.getElem?_eq_some_iff.1 hx).1;omega
   rw[dL xs j ha hj]at M5
   obtain⟨F3,h3,hF3⟩:=pV p (v:=x) ⟨c,n7,J3,E0,fun i u hu=>by rw[Nat.add_assoc];exact I8 _ _ (M5 i u hu)⟩ e
   exact⟨F3,h3,fun y hy=>by simp[hF y (hF3 y hy)]⟩
   simp at e
   simp at e
theorem dM{g o:Nat}{cells:Array Value}(h:Blk w g cells):w.cell? ⟨g,o,none⟩=cells[o]? :=by
 obtain⟨e,fr,hb,_⟩:=h
 simp[World.cell?,hb]
theorem dG(g o j:Nat):(⟨g,o,none⟩:Addr).add j=⟨g,o+j,none⟩:=by unfold Addr.add;split <;> simp_all
theorem xw{P:Program}{T:Nat}{i:TI}(h:ti P T=some i):(isAgg T).run P w=.ok i.d.agg w:=by
 obtain⟨inf,d,_,h2,_,_,h5⟩:=jr h
 unfold isAgg
 simp only[Sem.run_bind,aF h2,Result.andThen_ok]
 rw[<- h5]
 cases d <;> rfl
theorem cJ{P:Program}{T:Nat}{i:TI}(h:ti P T=some i):(sizeOf T).run P w=.ok i.sz w:=by
 obtain⟨inf,d,h1,_,h3,_,_⟩:=jr h
 simp[sizeOf,typeInfo,h1,h3]
theorem mr{P:Program} {T:Nat} {i:TI} (h:ti P T=some i) {v:V} {cs:List Value} {g o:Nat} {F} (hr:R w Pb v cs F) (hn:v.n=i.sz) (ha:i.d.agg=v.isAgg)
 (hc:∀ j u,cs[j]? =some u->w.cell? ⟨g,o+j,none⟩=some u):∃ x,(loadVar T ⟨g,o,none⟩).run P w=.ok x w/\RV w Pb v x F:=by
 unfold loadVar
 simp only[Sem.run_bind,xw h,Result.andThen_ok]
 have hl:=eg v hr
 cases v with
 | agg vs=>
   simp only[V.isAgg]at ha
   rw[ha]
   simp only[if_true,Sem.run_bind,cJ h,Result.andThen_ok]
   rw[<- hn,<- hl,run_loadCells_list w _ cs (fun j v hv=>by rw[dG];exact hc j v hv)]
   exact⟨_,rfl,_,rfl,hr⟩
 | tup _=>simp[R]at hr
 | gv _ _=>simp[R]at hr
 | c9=>
   simp only[V.isAgg]at ha
   rw[ha]
   obtain⟨hF,x,rfl,hx⟩:=hr
   have:=hc 0 x rfl
   simp only[Nat.add_zero]at this
   exact⟨x,by simp[this],hF⟩
 | _=>
   simp only[V.isAgg]at ha
   rw[ha]
   simp only[V.n]at hl
   obtain⟨x,rfl⟩:=List.length_eq_one_iff.1 hl
   have:=hc 0 x rfl
   simp only[Nat.add_zero]at this
   exact⟨x,by simp[this],hr⟩
end
end Go.Abs
namespace Go.Abs
open Go
def kL(P:Program)(d:Option D)(x:V)(j:Nat):Option (Prop×V):=
 match d with
 | some (.st fs)=>match fs[j]? with
   | some (off,T)=>match ti P T with
     | some i=>match x with
       | .ptr r p g o=>some (i.sz≠0,.ptr r (p++[j]) g (o+off))
       | .ep (.agg vs)=>match vs[j]? with
         | some v=>some (i.sz≠0/\V.ns (vs.take j)=off,.ep v)
         | none=>none
       | _=>none
     | none=>none
   | none=>none
 | _=>none
def tX(P:Program)(d:Option D)(x:V)(j:Nat):Option (Prop×V):=
 match d with
 | some (.st fs)=>match fs[j]? with
   | some (off,T)=>match ti P T with
     | some i=>match x with
       | .agg vs=>match vs[j]? with
         | some v=>some (V.ns (vs.take j)=off/\i.sz=v.n/\i.d.agg=v.isAgg,v)
         | none=>none
       | _=>none
     | none=>none
   | none=>none
 | _=>none
def kC(A:AS)(i:Option TI)(x:V):Option (Prop×V):=
 match i with
 | some i=>match x with
   | .ptr r p g o=>match A.at r p with
     | some (g',o',v)=>some (g'=g/\o'=o/\v.n=i.sz/\i.d.agg=v.isAgg,v.Pq r p)
     | none=>none
   | .ep v=>some (v.n=i.sz/\i.d.agg=v.isAgg,v)
   | _=>none
 | none=>none
def jk(P:Program)(d:Option D)(x i:V):Option (Prop×V):=
 match d,i with
 | some (.sl e),.lit (.int _ i)=>match ti P e with
   | some t=>match x with
     | .sl _ xs=>some (0<=i/\i<xs.length/\(xs.getD i.toNat .c9).n=t.sz,.ep (xs.getD i.toNat .c9))
     | .hd r p sz g o lo n _=>some (0<=i/\i<n/\sz=t.sz,.ptr r (p++[lo+i.toNat]) g (o+(lo+i.toNat)*sz))
     | _=>none
   | none=>none
 | some (.arr n e),.lit (.int _ i)=>match ti P e with
   | some t=>match x with
     | .ptr r p g o=>some (0<=i/\i<n,.ptr r (p++[i.toNat]) g (o+i.toNat*t.sz))
     | _=>none
   | none=>none
 | _,_=>none
def BZ(P:Program)(d:Option D)(x:V)(lo hi:Option V):Option (Prop×V):=
 match d with
 | some (.sl e)=>match ti P e with
   | some t=>match x with
     | .sl _ xs=>match SE lo,R0 xs.length hi with
       | some l,some h=>some (0<=l/\l<=h/\h<=xs.length/\∀ x∈xs,x.n=t.sz,.sl false ((xs.take h.toNat).drop l.toNat))
       | _,_=>none
     | .hd r p sz g o LY n c=>match SE lo,R0 n hi with
       | some l,some h=>some (0<=l/\l<=h/\h<=n/\sz=t.sz,.hd r p sz g o (LY+l.toNat) (h.toNat-l.toNat) (c-l.toNat))
       | _,_=>none
     | _=>none
   | none=>none
 | _=>none
def nq:V->Option Value
 | .lit x=>some x
 | .ptr _ _ g o=>some (.pointer (some ⟨g,o,none⟩))
 | _=>none
def jv:List V->Option (List Value)
 | []=>some []
 | v::vs=>match nq v,jv vs with
   | some x,some xs=>some (x::xs)
   | _,_=>none
def valOf:V->Option Value
 | .agg vs=>match jv vs with
   | some xs=>some (.agg xs.toArray)
   | none=>none
 | v=>nq v
def JK:V->Option (Prop×V)
 | .ptr r p g o=>some (True,.ptr r p g o)
 | .ep v=>some (True,.ep v)
 | _=>none
def By:Option TypeDesc->Bool
 | some (.interface _)=>true
 | none=>true
 | _=>false
def Kf(P:Program)(T:Nat)(x:V):Option (Prop×V):=
 if By (P.underlying T)=true then none else match valOf x with
  | some y=>some (True,.lit (.iface T y))
  | none=>none
def zeroV(P:Program)(T:Nat):Option V:=match P.info? T with
 | some i=>i.zero.map cV
 | none=>none
def JU(P:Program)(T:Nat)(x:V):Option (Prop×V):=
 if By (P.underlying T)=true then none else match x,zeroV P T with
  | .lit (.iface t v),some z=>some (True,if t=T then .tup [cV v,.lit (.bool true)] else .tup [z,.lit (.bool false)])
  | .lit .nilIface,some z=>some (True,.tup [z,.lit (.bool false)])
  | _,_=>none
def Kg(fn:Fn)(a b:List V):Option (Prop×V):=match jv a,jv b with
 | some x,some y=>some (True,.lit (.func fn x.toArray y.toArray))
 | _,_=>none
def G5(P:Program)(A:AS)(op:Op):Option (Prop×V):=
 match op with
 | .load T x=>kC A (ti P T) (A.ev x)
 | .fieldAddr T x j=>kL P (tD P T) (A.ev x) j
 | .field T x j=>tX P (tD P T) (A.cp x) j
 | .indexAddr T x i=>jk P (tD P T) (A.ev x) (A.ev i)
 | .slice T x lo hi none=>match tD P T with
   | some .str=>Ce (some .str) (A.ev x) (lo.map A.ev) (hi.map A.ev)
   | d=>BZ P d (A.ev x) (lo.map A.ev) (hi.map A.ev)
 | .nilCheck x=>JK (A.ev x)
 | .makeInterface T x=>Kf P T (A.cp x)
 | .typeAssert x _ T true=>JU P T (A.ev x)
 | .makeFunc fn a b=>Kg fn (a.toList.map A.ev) (b.toList.map A.ev)
 | op=>NF P A op
section
variable {w:World} {Pb Kb:Nat->Prop} {N:Nat} {A:AS} {a:Act} {F:l7->List Nat} {P:Program}
theorem jt(h:s3 N Pb Kb A a w F){r:l7}{p:List Nat}{g o:Nat}{v:V}(e:A.at r p=some (g,o,v)):∃ F',At w Pb v g o F':=by
 unfold AS.at at e
 split at e
 rename_i k
 split at e
 rename_i g' v' hk
 obtain⟨F',_,hr⟩:=h.root k g' v' hk
 obtain⟨Mc,h2,_⟩:=pV p (v:=v') (g:=g') (o:=0) hr e
 exact⟨Mc,h2⟩
 simp at e
 rename_i i
 split at e
 rename_i sz xs g' o' c j p hi
 have hr:=h.slot i
 rw[hi]at hr
 simp only[V.at]at e
 split at e
 rename_i x hx
 rcases hr with ⟨_,rfl,_⟩ | ⟨_,_,_,_,ha,_,flat,F',n7,_,hr,J3,_,I8⟩
 simp at hx
 obtain⟨c,Mc,E0,hF,M5⟩:=fK xs hr hx
 have hj:j<=xs.length:=by have:=(List.getElem?_eq_some_iff.1 hx).1;omega
 rw[dL xs j ha hj]at M5
 obtain⟨F3,h3,_⟩:=pV p (v:=x) ⟨c,n7,J3,E0,fun i u hu=>by rw[Nat.add_assoc];exact I8 _ _ (M5 i u hu)⟩ e
 exact⟨F3,h3⟩
 simp at e
 simp at e
theorem DX(hs:s3 N Pb Kb A a w F){T:Nat}{x:Operand}{C:Prop}{v:V}(h:kC A (ti P T) (A.ev x)=some (C,v))(hC:C):
 ∃ y,(Instr.loadAt T (a.eval x)).run P w=.ok y w/\RV w Pb v y []:=by
 unfold kC at h
 split at h
 case h_2=>simp at h
 rename_i i hi
 obtain⟨Fx,hr⟩:=dy hs x
 split at h
 rename_i r p g o e
 rw[e]at hr
 split at h
 rename_i g' o' u x6
 simp only[Option.some.injEq,Prod.mk.injEq]at h
 obtain⟨rfl,rfl⟩:=h
 obtain⟨rfl,rfl,hn,ha⟩:=hC
 obtain⟨F',cs,cells,hb,J6,r8⟩:=jt hs x6
 have hx:a.eval x=.pointer (some ⟨g',o',none⟩):=by have:=hr.2;simpa using this
 obtain⟨y,hy,E0⟩:=mr (w:=w) hi (kv r u p J6) (g:=g') (o:=o') (by
  have:(u.Pq r p).n=u.n:=by
   have h1:=eg _ (kv r u p J6);have h2:=eg _ J6;omega
  omega) (by rw[ha];cases u <;> rfl) (fun j u hu=>by rw[dM hb];exact r8 j u hu)
 exact⟨y,by simp only[Instr.loadAt,hx,Instr.sureAddr,Sem.run_bind,Sem.run_pure,Result.andThen_ok,hy],E0⟩
 simp at h
 rename_i u e
 rw[e]at hr
 simp only[Option.some.injEq,Prod.mk.injEq]at h
 obtain⟨rfl,rfl⟩:=h
 obtain⟨hn,ha⟩:=hC
 obtain⟨_,b,o,flat,hx,hb,J6,r8⟩:=hr
 have hx:a.eval x=.pointer (some ⟨b,o,none⟩):=by simpa using hx
 obtain⟨y,hy,E0⟩:=mr (w:=w) hi J6 hn ha r8
 exact⟨y,by simp only[Instr.loadAt,hx,Instr.sureAddr,Sem.run_bind,Sem.run_pure,Result.andThen_ok,hy],E0⟩
 simp at h
theorem Cf{T:Nat}{fs:List (Nat×Nat)}(h:tD P T=some (.st fs)):∃ fl:Array Field,P.underlying T=some (.struct fl)/\fl.toList.map (fun f=>(f.offset,f.type))=fs:=by
 obtain⟨td,hu,hd⟩:=cG h
 cases td <;> simp[dm]at hd
 rename_i fl
 exact⟨fl,hu,hd⟩
theorem zk{fl:Array Field}{fs:List (Nat×Nat)}(h:fl.toList.map (fun f=>(f.offset,f.type))=fs){j off T:Nat}(e:fs[j]? =some (off,T)):∃ f,fl[j]? =some f/\f.offset=off/\f.type=T:=by
 subst h
 simp only[List.getElem?_map]at e
 cases hf:fl.toList[j]? with
 | none=>rw[hf]at e;simp at e
 | some f=>rw[hf]at e;simp at e;exact⟨f,by simpa using hf,e⟩
theorem vU(hs:s3 N Pb Kb A a w F){T:Nat}{x:Operand}{j:Nat}{C:Prop}{v:V}(h:kL P (tD P T) (A.ev x) j=some (C,v))(hC:C):
 ∃ y,(Instr.fieldAt T (a.eval x) j).run P w=.ok y w/\RV w Pb v y []:=by
 unfold kL at h
 split at h
 case h_2=>simp at h
 rename_i fs hT
 split at h
 case h_2=>simp at h
 rename_i off T' hj
 split at h
 case h_2=>simp at h
 rename_i i hi
 obtain⟨fl,hu,hfl⟩:=Cf hT
 obtain⟨f,hf,ho,ht⟩:=zk hfl hj
 obtain⟨Fx,hr⟩:=dy hs x
 split at h
 rename_i r p g o e
 rw[e]at hr
 simp only[Option.some.injEq,Prod.mk.injEq]at h
 obtain⟨rfl,rfl⟩:=h
 have hx:a.eval x=.pointer (some ⟨g,o,none⟩):=by have:=hr.2;simpa using this
 refine⟨.pointer (some ⟨g,o+off,none⟩),?_,rfl,rfl⟩
 simp only[Instr.fieldAt,Sem.run_bind,aF hu,Result.andThen_ok,hf,hx,Instr.sureAddr,Sem.run_pure,fieldPlace,ht,cJ hi,if_neg hC,ho,dG]
 · rename_i vs e
   rw[e]at hr
   split at h
   case h_2=>simp at h
   rename_i u SJ
   simp only[Option.some.injEq,Prod.mk.injEq]at h
   obtain⟨rfl,rfl⟩:=h
   obtain⟨h0,SW⟩:=hC
   obtain⟨_,b,o,flat,hx,hb,J6,r8⟩:=hr
   have hx:a.eval x=.pointer (some ⟨b,o,none⟩):=by simpa using hx
   simp only[R]at J6
   obtain⟨c,F',E0,hF,I8⟩:=fK vs J6 SJ
   have Na:F'=[]:=List.eq_nil_iff_forall_not_mem.2 fun g hg=>by simpa using hF g hg
   subst Na
   refine⟨.pointer (some ⟨b,o+off,none⟩),?_,rfl,b,o+off,c,rfl,hb,E0,fun i u hu=>by rw[<- SW,Nat.add_assoc];exact r8 _ _ (I8 i u hu)⟩
   simp only[Instr.fieldAt,Sem.run_bind,aF hu,Result.andThen_ok,hf,hx,Instr.sureAddr,Sem.run_pure,fieldPlace,ht,cJ hi,if_neg h0,ho,dG]
 simp at h
theorem Cc(hs:s3 N Pb Kb A a w F){T:Nat}{x:Operand}{j:Nat}{C:Prop}{v:V}(h:tX P (tD P T) (A.cp x) j=some (C,v))(hC:C):
 ∃ y,(Instr.field T (a.eval x) j).run P w=.ok y w/\RV w Pb v y []:=by
 unfold tX at h
 split at h
 case h_2=>simp at h
 rename_i fs hT
 split at h
 case h_2=>simp at h
 rename_i off T' hj
 split at h
 case h_2=>simp at h
 rename_i i hi
 obtain⟨fl,hu,hfl⟩:=Cf hT
 obtain⟨f,hf,ho,ht⟩:=zk hfl hj
 have hr:=qg hs x
 split at h
 case h_2=>simp at h
 rename_i vs e
 rw[e]at hr
 split at h
 case h_2=>simp at h
 rename_i u SJ
 simp only[Option.some.injEq,Prod.mk.injEq]at h
 obtain⟨rfl,rfl⟩:=h
 obtain⟨SW,hn,ha⟩:=hC
 obtain⟨cs,hx,hr⟩:=hr
 obtain⟨c,F',E0,hF,I8⟩:=fK vs hr SJ
 have Na:F'=[]:=List.eq_nil_iff_forall_not_mem.2 fun g hg=>by simpa using hF g hg
 subst Na
 have hl:=eg _ E0
 simp only[Instr.field,Sem.run_bind,aF hu,Result.andThen_ok,hf,hx,asAgg,Sem.run_pure,part,ht,xw hi,ho]
 rw[SW]at I8
 cases u with
 | agg us=>
   simp only[V.isAgg]at ha
   rw[ha]
   simp only[if_true,Sem.run_bind,cJ hi,Result.andThen_ok,Sem.run_pure]
   refine⟨_,rfl,_,rfl,?_⟩
   have hcs:(cs.extract off (off+i.sz)).toList=c:=by
    apply List.ext_getElem?
    intro k
    by_cases hk:k<c.length
    have h1:=I8 k _ (List.getElem?_eq_getElem hk)
    rw[List.getElem?_eq_getElem hk]
    simp only[Array.getElem?_toList]at h1 ⊢
    rw[Array.getElem?_extract]
    have hlt:=(Array.getElem?_eq_some_iff.1 h1).1
    rw[if_pos Z9];exact h1
    have hz:(cs.extract off (off+i.sz)).toList.length<=i.sz:=by
     rw[Array.length_toList,Array.size_extract];omega
    rw[List.getElem?_eq_none Z9,List.getElem?_eq_none Z9]
   rw[hcs]
   simp only[R]at E0;exact E0
 | tup _=>simp[R]at E0
 | gv _ _=>simp[R]at E0
 | c9=>
   simp only[V.isAgg]at ha
   rw[ha]
   obtain⟨_,y,rfl,hy⟩:=E0
   have h1:=I8 0 y rfl
   simp only[Nat.add_zero,Array.getElem?_toList]at h1
   exact⟨y,by simp[h1],rfl⟩
 | _=>
   simp only[V.isAgg]at ha
   rw[ha]
   simp only[V.n]at hl
   obtain⟨y,rfl⟩:=List.length_eq_one_iff.1 hl
   have h1:=I8 0 y rfl
   simp only[Nat.add_zero,Array.getElem?_toList]at h1
   exact⟨y,by simp[h1],E0⟩
theorem iA{T e:Nat}(h:tD P T=some (.sl e)):P.underlying T=some (.slice e):=by
 obtain⟨td,hu,hd⟩:=cG h
 cases td <;> simp[dm]at hd
 subst hd;exact hu
theorem getD_some{xs:List V}{i:Nat}(h:i<xs.length):xs[i]? =some (xs.getD i .c9):=by
 simp[List.getD,List.getElem?_eq_getElem h]
theorem Js{T n e:Nat}(h:tD P T=some (.arr n e)):P.underlying T=some (.array n e):=by
 obtain⟨td,hu,hd⟩:=cG h
 cases td <;> simp[dm]at hd
 obtain⟨rfl,rfl⟩:=hd;exact hu
theorem wj(hs:s3 N Pb Kb A a w F){T:Nat}{x ix:Operand}{C:Prop}{v:V}(h:jk P (tD P T) (A.ev x) (A.ev ix)=some (C,v))(hC:C):
 ∃ y,(Instr.indexAt T (a.eval x) (a.eval ix)).run P w=.ok y w/\RV w Pb v y []:=by
 unfold jk at h
 split at h
 case h_3=>simp at h
 case h_2=>
  rename_i n e k i hT hi
  have hu:=Js hT
  split at h
  case h_2=>simp at h
  rename_i t ht
  obtain⟨Fx,hr⟩:=dy hs x
  split at h
  case h_2=>simp at h
  rename_i r p g o hx
  rw[hx]at hr
  simp only[Option.some.injEq,Prod.mk.injEq]at h
  obtain⟨rfl,rfl⟩:=h
  have hv:a.eval x=.pointer (some ⟨g,o,none⟩):=by have:=hr.2;simpa using this
  refine⟨.pointer (some ⟨g,o+i.toNat*t.sz,none⟩),?_,rfl,rfl⟩
  simp only[Instr.indexAt,bT hs hi,asIntOf,Sem.run_bind,Sem.run_pure,Result.andThen_ok,aF hu,hv,Instr.sureAddr,if_pos (⟨hC.1,hC.2⟩:0<=i/\i<(n:Int)),cJ ht,dG]
 rename_i e k i hT hi
 have hu:=iA hT
 split at h
 case h_2=>simp at h
 rename_i t ht
 obtain⟨Fx,hr⟩:=dy hs x
 split at h
 rename_i full xs hx
 rw[hx]at hr
 simp only[Option.some.injEq,Prod.mk.injEq]at h
 obtain⟨rfl,rfl⟩:=h
 obtain⟨h0,h1,hn⟩:=hC
 have hlt:i.toNat<xs.length:=Z9
 obtain⟨_,A',c,hv,hl,_,hz⟩:=hr
 have hv:a.eval x=.slice A' xs.length c:=by simpa using hv
 rcases hz with rfl | ⟨b,o,sz,flat,rfl,hb,_,hN,M3,r8⟩
 simp at hlt
 obtain⟨cu,F',E0,hF,I8⟩:=fK xs M3 (getD_some hlt)
 have Na:F'=[]:=List.eq_nil_iff_forall_not_mem.2 fun g hg=>by simpa using hF g hg
 subst Na
 rw[dL xs _ hN Z9]at I8
 have hsz:sz=t.sz:=by rw[<- hn];exact(hN _ (List.mem_of_getElem? (getD_some hlt))).symm
 refine⟨.pointer (some ⟨b,o+i.toNat*t.sz,none⟩),?_,rfl,b,o+i.toNat*t.sz,cu,rfl,hb,E0,fun j u hu=>by rw[<- hsz,Nat.add_assoc];exact r8 _ _ (I8 j u hu)⟩
 simp only[Instr.indexAt,bT hs hi,asIntOf,Sem.run_bind,Sem.run_pure,Result.andThen_ok,aF hu,hv,if_pos (⟨h0,h1⟩:0<=i/\i<(xs.length:Int)),cJ ht,dG]
 rename_i r p sz g o lo n c hx
 rw[hx]at hr
 simp only[Option.some.injEq,Prod.mk.injEq]at h
 obtain⟨rfl,rfl⟩:=h
 obtain⟨h0,h1,hn⟩:=hC
 obtain⟨_,Ty,A',hv,hA⟩:=hr
 have hv:a.eval x=.slice A' n c:=by simpa using hv
 obtain rfl:=hA Z9
 refine⟨.pointer (some ⟨g,o+(lo+i.toNat)*sz,none⟩),?_,rfl,rfl⟩
 simp only[Instr.indexAt,bT hs hi,asIntOf,Sem.run_bind,Sem.run_pure,Result.andThen_ok,aF hu,hv,if_pos (⟨h0,h1⟩:0<=i/\i<(n:Int)),cJ ht,dG]
 subst hn
 rw[Nat.add_assoc,<- Nat.add_mul]
 simp at h
theorem oy:∀ (vs:List V) (k:Nat) {cs:List Value},RL w Pb vs cs []->∃ c':List Value,RL w Pb (vs.drop k) c' []/\∀ i u,c'[i]? =some u->cs[V.ns (vs.take k)+i]? =some u
 | vs,0,cs,h=>⟨cs,h,fun i u hu=>by simpa[V.ns] using hu⟩
 | [],k+1,cs,h=>⟨[],by simpa using⟨rfl,rfl⟩,fun i u hu=>by simp at hu⟩
 | v::vs,k+1,cs,h=>by
   obtain⟨c1,c2,F1,F2,rfl,hF,h1,h2⟩:=h
   have hF2:F2=[]:=by have:=hF.symm;simp at this;exact this.2
   subst hF2
   obtain⟨c',hr,hc⟩:=oy vs k h2
   refine⟨c',by simpa using hr,fun i u hu=>?_⟩
   have hl:=eg v h1
   simp only[List.take_succ_cons,V.ns]
   rw[<- hl,Nat.add_assoc,List.getElem?_append_right Z9]
   have e:c1.length+(V.ns (vs.take k)+i)-c1.length=V.ns (vs.take k)+i:=Z9
   rw[e];exact hc i u hu
theorem pb:∀ (vs:List V) (k:Nat) {cs:List Value},RL w Pb vs cs []->∃ c':List Value,RL w Pb (vs.take k) c' []/\∀ (i:Nat) u,c'[i]? =some u->cs[i]? =some u
 | vs,0,cs,h=>⟨[],by simpa using⟨rfl,rfl⟩,fun i u hu=>by simp at hu⟩
 | [],k+1,cs,h=>⟨[],by simpa using⟨rfl,rfl⟩,fun i u hu=>by simp at hu⟩
 | v::vs,k+1,cs,h=>by
   obtain⟨c1,c2,F1,F2,rfl,hF,h1,h2⟩:=h
   have Na:=hF.symm
   simp at Na
   obtain⟨rfl,rfl⟩:=Na
   obtain⟨c',hr,hc⟩:=pb vs k h2
   refine⟨c1++c',⟨c1,c',[],[],rfl,rfl,h1,hr⟩,fun i u hu=>?_⟩
   by_cases hi:i<c1.length
   rw[List.getElem?_append_left hi]at hu ⊢;exact hu
   rw[List.getElem?_append_right Z9]at hu ⊢;exact hc _ _ hu
theorem Ep(hs:s3 N Pb Kb A a w F){T:Nat}{x:Operand}{lo hi:Option Operand}{C:Prop}{v:V}(h:BZ P (tD P T) (A.ev x) (lo.map A.ev) (hi.map A.ev)=some (C,v))(hC:C):
 ∃ y,(Instr.sliceAt T (a.eval x) (lo.map a.eval) (hi.map a.eval) none).run P w=.ok y w/\RV w Pb v y []:=by
 unfold BZ at h
 split at h
 case h_2=>simp at h
 rename_i e hT
 have hu:=iA hT
 split at h
 case h_2=>simp at h
 rename_i t ht
 obtain⟨Fx,hr⟩:=dy hs x
 split at h
 · rename_i full xs hx
   rw[hx]at hr
   split at h
   case h_2=>simp at h
   rename_i l h' hl hh
   simp only[Option.some.injEq,Prod.mk.injEq]at h
   obtain⟨rfl,rfl⟩:=h
   obtain⟨h0,h1,h2,hn⟩:=hC
   have b1:(lo.map a.eval=none/\l=0)\/∃ k,lo.map a.eval=some (.int k l):=(yK hs hl).imp (fun⟨e,f⟩=>⟨by simp[e],f⟩) id
   have b2:(hi.map a.eval=none/\h'=xs.length)\/∃ k,hi.map a.eval=some (.int k h'):=(vv hs hh).imp (fun⟨e,f⟩=>⟨by simp[e],f⟩) id
   obtain⟨_,A',c,hv,UC,_,hz⟩:=hr
   have hv:a.eval x=.slice A' xs.length c:=by simpa using hv
   have hlen:((xs.take h'.toNat).drop l.toNat).length=h'.toNat-l.toNat:=Z0
   refine⟨.slice (if c=l.toNat then A' else A'.map (·.add (l.toNat*t.sz))) (h'.toNat-l.toNat) (c-l.toNat),?_,?_⟩
   simp only[Instr.sliceAt,Instr.slice,Sem.run_bind,aF hu,Result.andThen_ok,hv,kK (w:=w) (P:=P) (sl:=true) b1 b2 h0 h1 (show h'<=(c:Nat) by omega) UC,cJ ht,Sem.run_pure]
   refine⟨rfl,_,c-l.toNat,by rw[hlen],Z9,Z8,?_⟩
   by_cases he:h'.toNat-l.toNat=0
   left;exact List.eq_nil_of_length_eq_zero Z9
   right
   rcases hz with rfl | ⟨b,o,sz,flat,rfl,hb,Wb,hN,M3,r8⟩
   simp at h2;omega
   have hsz:sz=t.sz:=by
    cases xs with
    | nil=>simp at h2;omega
    | cons x0 xs=>rw[<- hn x0 Z8];exact(hN x0 Z8).symm
   obtain⟨c1,OE,MC⟩:=pb xs h'.toNat M3
   obtain⟨c2,LP,Qu⟩:=oy _ l.toNat OE
   have O5:aL sz (xs.take h'.toNat):=fun x hx=>hN x (List.mem_of_mem_take hx)
   rw[dL _ _ O5 Z0]at Qu
   rw[if_neg Z9]
   refine⟨b,o+l.toNat*t.sz,sz,c2,by simp[dG],hb,Wb,fun x hx=>O5 x (List.mem_of_mem_drop hx),LP,fun j u hu=>?_⟩
   rw[<- hsz,Nat.add_assoc];exact r8 _ _ (MC _ _ (Qu j u hu))
 · rename_i r p sz g o LY n c hx
   rw[hx]at hr
   split at h
   case h_2=>simp at h
   rename_i l h' hl hh
   simp only[Option.some.injEq,Prod.mk.injEq]at h
   obtain⟨rfl,rfl⟩:=h
   obtain⟨h0,h1,h2,hn⟩:=hC
   have b1:(lo.map a.eval=none/\l=0)\/∃ k,lo.map a.eval=some (.int k l):=(yK hs hl).imp (fun⟨e,f⟩=>⟨by simp[e],f⟩) id
   have b2:(hi.map a.eval=none/\h'=n)\/∃ k,hi.map a.eval=some (.int k h'):=(vv hs hh).imp (fun⟨e,f⟩=>⟨by simp[e],f⟩) id
   obtain⟨_,Ty,A',hv,hA⟩:=hr
   have hv:a.eval x=.slice A' n c:=by simpa using hv
   refine⟨.slice (if c=l.toNat then A' else A'.map (·.add (l.toNat*t.sz))) (h'.toNat-l.toNat) (c-l.toNat),?_,?_⟩
   simp only[Instr.sliceAt,Instr.slice,Sem.run_bind,aF hu,Result.andThen_ok,hv,kK (w:=w) (P:=P) (sl:=true) b1 b2 h0 h1 (show h'<=(c:Nat) by omega) Ty,cJ ht,Sem.run_pure]
   refine⟨rfl,Z9,_,rfl,fun hc=>?_⟩
   rw[if_neg Z9,hA Z9]
   subst hn
   simp only[Option.map_some,dG,Nat.add_mul,Nat.add_assoc]
 simp at h
theorem sN{v:V}{y:Value}{cs:List Value}{F1:List Nat}(hy:nq v=some y)(h:R w Pb v cs F1):cs=[y]/\y.oneCell'=true:=by
 cases v <;> simp only[nq,Option.some.injEq,reduceCtorEq]at hy
 subst hy;exact⟨h.2.1,h.1⟩
 subst hy;exact⟨h.2,rfl⟩
theorem yA:∀ {vs:List V} {xs cs:List Value} {F1:List Nat},jv vs=some xs->RL w Pb vs cs F1->cs=xs
 | [],xs,cs,F1,h,hr=>by simp only[jv,Option.some.injEq]at h;rw[<- h,hr.1]
 | v::vs,xs,cs,F1,h,hr=>by
   simp only[jv]at h
   split at h
   rename_i y ys e1 e2
   simp only[Option.some.injEq]at h;subst h
   obtain⟨c1,c2,Fa,Fb,rfl,_,h1,h2⟩:=hr
   rw[(sN e1 h1).1,yA e2 h2];rfl
   simp at h
theorem yV{v:V}{y x:Value}{F1:List Nat}(hy:valOf v=some y)(h:RV w Pb v x F1):x=y:=by
 cases v with
 | agg vs=>
   simp only[valOf]at hy
   split at hy
   rename_i xs e
   simp only[Option.some.injEq]at hy
   obtain⟨cs,rfl,hr⟩:=h
   rw[<- hy,<- yA e hr]
   simp at hy
 | lit z=>have:=(sN (w:=w) (Pb:=Pb) (v:=.lit z) (y:=y) (cs:=[x]) hy h).1;simpa using this
 | ptr r p g o=>have:=(sN (w:=w) (Pb:=Pb) (v:=.ptr r p g o) (y:=y) (cs:=[x]) hy h).1;simpa using this
 | _=>simp[valOf,nq]at hy
theorem qB(hs:s3 N Pb Kb A a w F):∀ (l:List Operand) {xs:List Value},jv (l.map A.ev)=some xs->l.map a.eval=xs
 | [],xs,h=>by simpa[jv] using h
 | x::l,xs,h=>by
   simp only[List.map_cons,jv]at h
   split at h
   rename_i y ys e1 e2
   simp only[Option.some.injEq]at h;subst h
   obtain⟨Fx,hr⟩:=dy hs x
   have:valOf (A.ev x)=some y:=by
    cases hv:A.ev x <;> rw[hv]at e1 <;> simp only[nq,reduceCtorEq,Option.some.injEq]at e1 <;> simp[valOf,nq,e1]
   rw[List.map_cons,yV this hr,qB hs l e2]
   simp at h
theorem xn{T:Nat}(h: ¬ By (P.underlying T)=true):∃ d,P.underlying T=some d/\∀ m,d≠.interface m:=by
 cases e:P.underlying T with
 | none=>rw[e]at h;exact absurd rfl h
 | some d=>exact⟨d,rfl,fun m c=>by rw[e,c]at h;exact h rfl⟩
theorem vt{op:Op}{C:Prop}{v:V}(h:G5 P A op=some (C,v))(hC:C)(hs:s3 N Pb Kb A a w F){o:Oper}(ho:o.op=op):
 ∃ x,(execOp a.eval o).run P w=.ok (.value x) w/\RV w Pb v x []:=by
 unfold G5 at h
 split at h
 obtain⟨y,hy,hr⟩:=DX hs h hC
 exact⟨y,by simp only[execOp,ho,Sem.run_bind,hy,Result.andThen_ok,Sem.run_pure],hr⟩
 obtain⟨y,hy,hr⟩:=vU hs h hC
 exact⟨y,by simp only[execOp,ho,Sem.run_bind,hy,Result.andThen_ok,Sem.run_pure],hr⟩
 obtain⟨y,hy,hr⟩:=Cc hs h hC
 exact⟨y,by simp only[execOp,ho,Sem.run_bind,hy,Result.andThen_ok,Sem.run_pure],hr⟩
 obtain⟨y,hy,hr⟩:=wj hs h hC
 exact⟨y,by simp only[execOp,ho,Sem.run_bind,hy,Result.andThen_ok,Sem.run_pure],hr⟩
 rename_i T x lo hi
 split at h
 rename_i hT
 refine Am (op:=.slice T x lo hi none) (C:=C) (v:=v) ?_ hC hs ho
 unfold NF;simp only[hT];exact h
 obtain⟨y,hy,hr⟩:=Ep hs h hC
 exact⟨y,by simp only[execOp,ho,Sem.run_bind,hy,Option.map_none,Result.andThen_ok,Sem.run_pure],hr⟩
 rename_i x
 unfold JK at h
 obtain⟨Fx,hr⟩:=dy hs x
 split at h <;> rename_i e <;> simp only[Option.some.injEq,Prod.mk.injEq,reduceCtorEq]at h <;> obtain⟨_,rfl⟩:=h <;> rw[e]at hr
 have hx:=(List.cons.inj hr.2).1
 have hx:a.eval x=.pointer (some ⟨_,_,none⟩):=hx
 exact⟨_,by simp only[execOp,ho,hx];rfl,⟨rfl,rfl⟩⟩
 have h1:=hr.1
 obtain⟨_,b,o',flat,hx,h2⟩:=hr
 have hx:=(List.cons.inj hx).1
 exact⟨_,by simp only[execOp,ho,hx];rfl,⟨rfl,b,o',flat,rfl,h2⟩⟩
 rename_i T x
 unfold Kf at h
 split at h
 simp at h
 rename_i hi
 obtain⟨d,hd,hn⟩:=xn hi
 split at h
 rename_i y e
 simp only[Option.some.injEq,Prod.mk.injEq]at h
 obtain⟨_,rfl⟩:=h
 have hx:=yV e (qg hs x)
 refine⟨.iface T y,?_,de rfl⟩
 have:(Instr.makeInterface T (a.eval x)).run P w=.ok (.iface T y) w:=by
  rw[hx]
  simp only[Instr.makeInterface,Sem.run_bind,aF hd,Result.andThen_ok]
  cases d <;> first | rfl | exact absurd rfl (hn _)
 simp only[execOp,ho,Sem.run_bind,this,Result.andThen_ok,Sem.run_pure]
 simp at h
 · rename_i x xT T
   unfold JU at h
   split at h
   simp at h
   rename_i hi
   obtain⟨d,hd,hn⟩:=xn hi
   have zr:∀ z,zeroV P T=some z->∃ y,(zeroValue T).run P w=.ok y w/\RV w Pb z y []:=fun z hz=>by
    unfold zeroV at hz
    split at hz
    rename_i i hi
    simp only[Option.map_eq_some_iff]at hz
    obtain⟨y,hy,rfl⟩:=hz
    exact⟨y,by simp[zeroValue,typeInfo,hi,hy],rV y⟩
    simp at hz
   have tu:∀ (v1:V) (x1:Value) (b:Bool),RV w Pb v1 x1 []->((∀ us,v1≠.tup us)/\∀ b u,v1≠.gv b u)->RV w Pb (.tup [v1,.lit (.bool b)]) (.tuple #[x1,.bool b]) []:=fun v1 x1 b h1 S0=>by
    refine⟨_,rfl,x1,[.bool b],[],[],rfl,rfl,?_,.bool b,[],[],[],rfl,rfl,⟨rfl,rfl,rfl⟩,rfl,rfl⟩
    cases v1 with
    | tup us=>exact absurd rfl (S0.1 us)
    | gv b u=>exact absurd rfl (S0.2 b u)
    | _=>exact h1
   have XW:∀ y:Value,(∀ us,cV y≠.tup us)/\∀ b u,cV y≠.gv b u:=fun y=>by
    constructor <;> intros <;> unfold cV <;> repeat' split
    all_goals first | (solve | simp) | (unfold Ri;split <;> simp)
   have zn:∀ z,zeroV P T=some z->(∀ us,z≠.tup us)/\∀ b u,z≠.gv b u:=fun z hz=>by
    unfold zeroV at hz
    split at hz
    simp only[Option.map_eq_some_iff]at hz
    obtain⟨y,hy,rfl⟩:=hz
    exact XW y
    simp at hz
   split at h
   rename_i t v z hx hz
   simp only[Option.some.injEq,Prod.mk.injEq]at h
   obtain⟨_,rfl⟩:=h
   have hx:=bT hs hx
   obtain⟨y,hy,Up⟩:=zr z hz
   by_cases ht:t=T
   refine⟨.tuple #[v,.bool true],?_,by rw[if_pos ht];exact tu _ _ _ (rV v) (XW v)⟩
   have:(Instr.typeAssert (a.eval x) xT T true).run P w=.ok (.tuple #[v,.bool true]) w:=by
    rw[hx]
    simp only[Instr.typeAssert,Sem.run_bind,aF hd,Result.andThen_ok]
    cases d <;> first | exact absurd rfl (hn _) | simp[ht]
   simp only[execOp,ho,Sem.run_bind,this,Result.andThen_ok,Sem.run_pure]
   refine⟨.tuple #[y,.bool false],?_,by rw[if_neg ht];exact tu _ _ _ Up (zn z hz)⟩
   have:(Instr.typeAssert (a.eval x) xT T true).run P w=.ok (.tuple #[y,.bool false]) w:=by
    rw[hx]
    simp only[Instr.typeAssert,Sem.run_bind,aF hd,Result.andThen_ok]
    cases d <;> first | exact absurd rfl (hn _) | simp[ht,hy]
   simp only[execOp,ho,Sem.run_bind,this,Result.andThen_ok,Sem.run_pure]
   rename_i z hx hz
   simp only[Option.some.injEq,Prod.mk.injEq]at h
   obtain⟨_,rfl⟩:=h
   have hx:=bT hs hx
   obtain⟨y,hy,Up⟩:=zr z hz
   refine⟨.tuple #[y,.bool false],?_,tu _ _ _ Up (zn z hz)⟩
   have:(Instr.typeAssert (a.eval x) xT T true).run P w=.ok (.tuple #[y,.bool false]) w:=by
    rw[hx]
    simp only[Instr.typeAssert,Sem.run_bind,aF hd,Result.andThen_ok]
    cases d <;> first | exact absurd rfl (hn _) | simp[hy]
   simp only[execOp,ho,Sem.run_bind,this,Result.andThen_ok,Sem.run_pure]
   simp at h
 rename_i fn p q
 unfold Kg at h
 split at h
 rename_i xs ys e1 e2
 simp only[Option.some.injEq,Prod.mk.injEq]at h
 obtain⟨_,rfl⟩:=h
 refine⟨.func fn xs.toArray ys.toArray,?_,de rfl⟩
 have h1:p.map a.eval=xs.toArray:=by apply Array.ext';simpa using qB hs _ e1
 have h2:q.map a.eval=ys.toArray:=by apply Array.ext';simpa using qB hs _ e2
 simp only[execOp,ho,h1,h2];rfl
 simp at h
 exact Am h hC hs ho
end
end Go.Abs
namespace Go.Abs
open Go
section
variable {w:World} {Pb Kb:Nat->Prop} {N:Nat} {A A':AS} {a:Act} {F:l7->List Nat} {P:Program}
theorem vF{v:V}{x:Value}{F:List Nat}(ho:v.cW=false)(h:RV w Pb v x F):F=[]:=by
 cases v with
 | tup vs=>obtain⟨xs,_,h⟩:=h;exact sJ vs (by simpa[V.cW] using ho) h
 | gv _ _=>exact h.1
 | agg us=>obtain⟨cs,_,h⟩:=h;exact fG us (by simpa[V.cW] using ho) h
 | c9=>exact h
 | own sz xs g o c=>exact iU (w:=w) (Pb:=Pb) _ ho h
 | ow sz xs=>exact iU (w:=w) (Pb:=Pb) _ ho h
 | om es g=>exact iU (w:=w) (Pb:=Pb) _ ho h
 | mp es=>exact iU (w:=w) (Pb:=Pb) _ ho h
 | lit x=>exact iU (w:=w) (Pb:=Pb) _ ho h
 | sl f xs=>exact iU (w:=w) (Pb:=Pb) _ ho h
 | hd r p sz g o lo n c=>exact iU (w:=w) (Pb:=Pb) _ ho h
 | ptr r p g o=>exact iU (w:=w) (Pb:=Pb) _ ho h
 | ep v=>exact iU (w:=w) (Pb:=Pb) _ ho h
def AS.drop(A:AS):Operand->AS
 | .tmp i=>if (A.get i).cW then A.put (some i) .c9 else A
 | _=>A
def AS.le(A' A:AS):Prop:=(∀ i,A'.get i=.c9\/A'.get i=A.get i)/\(∀ k,lk k A'.h=none\/lk k A'.h=lk k A.h)
open Classical in
theorem s3.le(hs:s3 N Pb Kb A a w F)(h:A'.le A):∃ F',s3 N Pb Kb A' a w F'/\∀ r g,g∈F' r->g∈F r:=by
 refine⟨fun r=>match r with | .slot i=>if A'.get i=.c9 then [] else F (.slot i) | .key k=>if lk k A'.h=none then [] else F (.key k),?_,?_⟩
 have key:∀ r g,g∈(match r with | .slot i=>if A'.get i=.c9 then [] else F (.slot i) | .key k=>if lk k A'.h=none then [] else F (.key k):List Nat)->g∈F r:=by
  intro r g hg
  cases r <;> simp only at hg <;> split at hg <;> simp_all
 refine⟨hs.size,hs.defers,fun i=>?_,fun k g v hk=>?_,fun r r' hne g hg=>?_,fun r=>?_,fun r g hg=>hs.free r g (key r g hg),hs.sub,hs.bound⟩
 rcases h.1 i with e | e
 simp only[e,if_true];rfl
 simp only
 split
 rename_i e';rw[e'];rfl
 rw[e];exact hs.slot i
 simp only
 rw[if_neg (by rw[hk];simp)]
 rcases h.2 k with e | e
 rw[e]at hk;simp at hk
 rw[e]at hk;exact hs.root k g v hk
 exact fun Od=>hs.bX r r' hne g (key r g hg) (key r' g Od)
 cases r <;> simp only <;> split <;> first | exact List.nodup_nil | exact hs.nodup _
 intro r g hg
 cases r <;> simp only at hg <;> split at hg <;> simp_all
theorem s3.take(hs:s3 N Pb Kb A a w F)(x:Operand):∃ Fx F',RV w Pb (A.ev x) (a.eval x) Fx/\s3 N Pb Kb (A.drop x) a w F'/\Fx.Nodup/\
 (∀ r g,g∈Fx->g ∉ F' r)/\(∀ g,g∈Fx->¬ Kb g/\g<w.heap.size)/\(∀ r g,g∈F' r->g∈F r)/\∀ g,g∈Fx->∃ r,g∈F r:=by
 cases x with
 | tmp i=>
   by_cases ho:(A.get i).cW=true
   have hn:(A.drop (.tmp i))=A.put (some i) .c9:=by simp[AS.drop,ho]
   refine⟨F (.slot i),bY F (.slot i) [],hs.slot i,?_,hs.nodup _,fun r g hg=>?_,fun g hg=>hs.free _ g hg,fun r g hg=>?_,fun g hg=>⟨_,hg⟩⟩
   rw[hn]
   refine⟨hs.size,hs.defers,fun j=>?_,fun k g v hk=>?_,fun r r' hne g hg=>?_,fun r=>?_,fun r g hg=>?_,hs.sub,hs.bound⟩
   rw[AS.aC]
   by_cases e:j=i
   subst e;simp[bY,RV,SB]
   have:l7.slot j≠l7.slot i:=fun c=>e (by injection c)
   simp only[if_neg e,bY,if_neg this];exact hs.slot j
   obtain⟨F',e,hr⟩:=hs.root k g v hk
   exact⟨F',by simpa[bY] using e,hr⟩
   simp only[bY]at hg ⊢
   split at hg
   simp at hg
   split
   simp
   exact hs.bX r r' hne g hg
   simp only[bY];split
   exact List.nodup_nil
   exact hs.nodup r
   simp only[bY]at hg;split at hg
   simp at hg
   exact hs.free r g hg
   simp only[bY];split
   simp
   rename_i hne;exact hs.bX _ r (Ne.symm hne) g hg
   simp only[bY]at hg;split at hg
   simp at hg
   exact hg
   have O0:(A.get i).cW=false:=by simpa using ho
   have hF:=vF O0 (hs.slot i)
   refine⟨[],F,by have:=hs.slot i;rw[hF]at this;exact this,by simp[AS.drop,O0];exact hs,List.nodup_nil,Z8,Z8,fun _ _ h=>h,Z8⟩
 | const v=>exact⟨[],F,rV v,hs,List.nodup_nil,Z8,Z8,fun _ _ h=>h,Z8⟩
 | global g=>exact⟨[],F,⟨rfl,rfl⟩,hs,List.nodup_nil,Z8,Z8,fun _ _ h=>h,Z8⟩
 | func f=>exact⟨[],F,⟨rfl,rfl,rfl⟩,hs,List.nodup_nil,Z8,Z8,fun _ _ h=>h,Z8⟩
theorem vS{o:Oper}{K:AS->Prop}{C:Prop}{v:V}(h:G5 P A o.op=some (C,v))(hC:C)(hd:cy N o.dst)(hK:K (A.put o.dst v)):D' P N o A K:=
 iB hd hK fun _ _ _ _ _ hs=>vt h hC hs rfl
theorem ve{o:Oper}{K:AS->Prop}{x:Operand}(ho:o.op=.assign x)(hd:cy N o.dst)(hK:K ((A.drop x).put o.dst (A.ev x))):D' P N o A K:=by
 intro Pb Kb a w F Q hs
 obtain⟨Fx,F',hr,x8,hnd,u0,hfr,_⟩:=hs.take x
 unfold Oper.wp
 have:(execOp a.eval o).run P w=.ok (.value (a.eval x)) w:=by simp only[execOp,ho];rfl
 rw[this,Oper.upon_value]
 cases LL:o.dst with
 | none=>exact⟨_,Pb,Kb,F',hK,by rw[LL];exact x8,fun _ h=>h,fun _ h=>h,fun _ h=>.inl h,x4.refl _ _⟩
 | some d=>
   rw[LL]at hd hK
   exact⟨_,Pb,Kb,_,hK,x8.put hd hr (fun r _ g hg=>u0 r g hg) hnd hfr,fun _ h=>h,fun _ h=>h,fun _ h=>.inl h,x4.refl _ _⟩
def gd(ops:Array Oper)(o:Oper)(A:AS)(x y:Prop):Prop:=
 match o.guard with
 | none=>x
 | some (j,b)=>match ((ops[j]?).bind (·.dst)).map A.get with
   | some (.lit (.bool b'))=>if b'=b then x else y
   | some (.gv c (.lit (.bool b')))=>if (c&&(b'==b))=true then x else y
   | _=>False
def WL(P:Program)(N:Nat)(ops:Array Oper):List Oper->AS->(AS->Prop)->Prop
 | [],A,K=>K A
 | o::rest,A,K=>gd ops o A (D' P N o A fun A'=>WL P N ops rest A' K) (cy N o.dst/\∃ u,(∀ w Pb,RV w Pb u undef [])/\WL P N ops rest (A.put o.dst u) K)
theorem tv{ops:Array Oper}{o:Oper}{x y:Prop}(h:gd ops o A x y)(hs:s3 N Pb Kb A a w F):
 (Region.wanted o (yielded ops a.tmps)=true/\x)\/(Region.wanted o (yielded ops a.tmps)=false/\y):=by
 unfold gd at h
 unfold Region.wanted
 split at h
 rename_i hg;rw[hg];exact .inl ⟨rfl,h⟩
 rename_i j b hg
 rw[hg]
 split at h
 rename_i b' hd
 simp only[Option.map_eq_some_iff]at hd
 obtain⟨d,LX,PA⟩:=hd
 have hr:=hs.slot d
 rw[PA]at hr
 have hx:a.tmps.getD d undef=.bool b':=by have:=hr.2.1;simpa using this
 have hy:yielded ops a.tmps j=some b':=by
  unfold yielded
  rw[LX]
  simp only[Option.bind_some]
  cases ht:a.tmps[d]? with
  | none=>simp[ht,undef]at hx
  | some u=>simp[ht]at hx;subst hx;rfl
 simp only[hy]
 split at h
 rename_i e;subst e;exact .inl ⟨Z8,h⟩
 rename_i e;exact .inr ⟨by simp[e],h⟩
 rename_i c b' hd
 simp only[Option.map_eq_some_iff]at hd
 obtain⟨d,LX,PA⟩:=hd
 have hr:=hs.slot d
 rw[PA]at hr
 obtain⟨_,OE,LP⟩:=hr
 cases c with
 | false=>
   have hx:=LP rfl
   have hy:yielded ops a.tmps j=none:=by
    unfold yielded
    rw[LX]
    simp only[Option.bind_some]
    cases ht:a.tmps[d]? with
    | none=>simp
    | some u=>simp[ht]at hx;subst hx;rfl
   simp only[hy]
   simp only[Bool.false_and,Bool.false_eq_true,if_false]at h
   exact .inr ⟨Z8,h⟩
 | true=>
   have hx:a.tmps.getD d undef=.bool b':=by have:=(OE rfl).2.1;simpa using this
   have hy:yielded ops a.tmps j=some b':=by
    unfold yielded
    rw[LX]
    simp only[Option.bind_some]
    cases ht:a.tmps[d]? with
    | none=>simp[ht,undef]at hx
    | some u=>simp[ht]at hx;subst hx;rfl
   simp only[hy]
   simp only[Bool.true_and,beq_iff_eq]at h
   split at h
   rename_i e;subst e;exact .inl ⟨Z8,h⟩
   rename_i e;exact .inr ⟨by simp[e],h⟩
 exact h.elim
theorem Nx.mono{K K':AS->Prop}{a':Act}{w':World}(h:Nx N Pb Kb w K a' w')(hK:∀ A,K A->K' A):Nx N Pb Kb w K' a' w':=by
 obtain⟨A',Pb',C9,F',h1,h2⟩:=h
 exact⟨A',Pb',C9,F',hK _ h1,h2⟩
theorem Nx.step{K:AS->Prop} {Pb' C9:Nat->Prop} {Rk:Act} {w' QS:World} (h3:∀ g,Pb g->Pb' g) (h4:∀ g,Kb g->C9 g) (h5:∀ g,Pb' g->Pb g\/¬ Kb g) (h6:x4 Kb w w')
 (h:Nx N Pb' C9 w' K Rk QS):Nx N Pb Kb w K Rk QS:=by
 obtain⟨A2,M7,Nb,F2,k1,k2,k3,k4,k5,k6⟩:=h
 refine⟨A2,M7,Nb,F2,k1,k2,fun g hg=>k3 g (h3 g hg),fun g hg=>k4 g (h4 g hg),fun g hg=>?_,h6.trans k6 h4⟩
 rcases k5 g hg with h | h
 exact h5 g h
 exact .inr fun c=>h (h4 g c)
theorem ry{ops:Array Oper}{Q:Exit->Act->World->Prop}:∀ (l:List Oper) {A:AS} {K:AS->Prop} {Pb Kb:Nat->Prop} {a:Act} {w:World} {F:l7->List Nat},
 WL P N ops l A K->s3 N Pb Kb A a w F->(∀ a' w',Nx N Pb Kb w K a' w'->Q .normal a' w')->wpList P ops Q l a w
 | [],A,K,Pb,Kb,a,w,F,h,hs,hQ=>hQ _ _ ⟨A,Pb,Kb,F,h,hs,fun _ h=>h,fun _ h=>h,fun _ h=>.inl h,x4.refl _ _⟩
 | o::rest,A,K,Pb,Kb,a,w,F,h,hs,hQ=>by
   unfold wpList
   rcases tv h hs with ⟨hw,h⟩ | ⟨hw,hd,u,hu,h⟩
   rw[if_pos hw]
   refine .inl (Oper.wp_mono (K:=Nx N Pb Kb w fun A'=>WL P N ops rest A' K) ?_ (h Pb Kb a w F Q hs))
   intro a' w' ⟨A',Pb',C9,F',h1,h2,h3,h4,h5,h6⟩
   exact ry rest h1 h2 fun Rk QS hn=>hQ Rk QS (Nx.step h3 h4 h5 h6 hn)
   rw[if_neg (by simp[hw])]
   obtain⟨F',x8⟩:=hs.pS (d:=o.dst) (v:=u) (x:=undef) hd (hu w Pb)
   exact ry rest h x8 hQ
def T(P:Program)(N:Nat)(c:Code)(A:AS)(Q:Exit->AS->Prop):Prop:=
 ∀ Pb Kb a w F,s3 N Pb Kb A a w F->c.wp P (fun e a' w'=>Nx N Pb Kb w (Q e) a' w') a w
theorem lL{c:Code}{Q Q':Exit->AS->Prop}(h:T P N c A Q)(hQ:∀ e A,Q e A->Q' e A):T P N c A Q':=
 fun Pb Kb a w F hs=>wp_mono (h Pb Kb a w F hs) fun e _ _ hn=>hn.mono (hQ e)
theorem Jx{Q:Exit->AS->Prop}(h:Q .normal A):T P N .skip A Q:=
 fun Pb Kb _ _ F hs=>wp_skip ⟨A,Pb,Kb,F,h,hs,fun _ h=>h,fun _ h=>h,fun _ h=>.inl h,x4.refl _ _⟩
theorem IK{l:Nat}{Q:Exit->AS->Prop}(h:Q .normal A):T P N (.label l) A Q:=
 fun Pb Kb _ _ F hs=>wp_label ⟨A,Pb,Kb,F,h,hs,fun _ h=>h,fun _ h=>h,fun _ h=>.inl h,x4.refl _ _⟩
theorem KB{i:Nat}{Q:Exit->AS->Prop}(h:Q (.exit i) A):T P N (.exit i) A Q:=
 fun Pb Kb _ _ F hs=>wp_exit ⟨A,Pb,Kb,F,h,hs,fun _ h=>h,fun _ h=>h,fun _ h=>.inl h,x4.refl _ _⟩
theorem Kl{i:Nat}{Q:Exit->AS->Prop}(h:Q (.goto i) A):T P N (.goto i) A Q:=
 fun Pb Kb _ _ F hs=>wp_goto ⟨A,Pb,Kb,F,h,hs,fun _ h=>h,fun _ h=>h,fun _ h=>.inl h,x4.refl _ _⟩
theorem KG{Q:Exit->AS->Prop}(h:Q .ret A):T P N .ret A Q:=
 fun Pb Kb _ _ F hs=>wp_ret ⟨A,Pb,Kb,F,h,hs,fun _ h=>h,fun _ h=>h,fun _ h=>.inl h,x4.refl _ _⟩
def W6(f:AS->Prop)(Q:Exit->AS->Prop):Exit->AS->Prop
 | .normal,A=>f A
 | e,A=>Q e A
theorem Lb{x y:Code}{Q:Exit->AS->Prop}(h:T P N x A (W6 (fun A'=>T P N y A' Q) Q)):T P N (.seq x y) A Q:=by
 intro Pb Kb a w F hs
 refine wp_seq (wp_mono (h Pb Kb a w F hs) fun e a' w' hn=>?_)
 cases e with
 | normal=>
   obtain⟨A',Pb',C9,F',h1,h2,h3,h4,h5,h6⟩:=hn
   exact wp_mono (h1 Pb' C9 a' w' F' h2) fun e _ _ hn=>Nx.step h3 h4 h5 h6 hn
 | _=>exact hn
theorem Dr{c:Operand}{x y:Code}{Q:Exit->AS->Prop}{b:Bool}(hc:A.ev c=.lit (.bool b))(ht:b=true->T P N x A Q)(hf:b=false->T P N y A Q):T P N (.cond c x y) A Q:=
 fun Pb Kb a w F hs=>wp_cond_split (bT hs hc) (fun h=>ht h Pb Kb a w F hs) (fun h=>hf h Pb Kb a w F hs)
def WX(id:Nat)(Q:Exit->AS->Prop):Exit->AS->Prop
 | .exit SF,A=>if SF=id then Q .normal A else Q (.exit SF) A
 | e,A=>Q e A
theorem Iu{id:Nat}{c:Code}{Q:Exit->AS->Prop}(h:T P N c A (WX id Q)):T P N (.block id c) A Q:=by
 intro Pb Kb a w F hs
 refine wp_block (wp_mono (h Pb Kb a w F hs) fun e a' w' hn=>?_)
 cases e with
 | exit SF=>
   simp only[Exit.inBlock]
   have hb:∀ A,WX id Q (.exit SF) A=if SF=id then Q .normal A else Q (.exit SF) A:=fun _=>rfl
   by_cases e:SF=id
   rw[if_pos e];exact hn.mono fun A h=>by rw[hb,if_pos e]at h;exact h
   rw[if_neg e];exact hn.mono fun A h=>by rw[hb,if_neg e]at h;exact h
 | _=>exact hn
theorem IS{c:Code} {Q:Exit->AS->Prop} (I:Nat->AS->Prop) (n:Nat) (h0:I n A)
 (round:∀ n A,I n A->T P N c A (W6 (fun A'=> ∃ m,m<n/\I m A') Q)):T P N (.loop c) A Q:=by
 have key:∀ n A (Pb Kb:Nat->Prop) a w F,I n A->s3 N Pb Kb A a w F->∀ (b:Frame) (k:List Item) (cs:List Frame),
  ∃ e a' w',Nx N Pb Kb w (Q e) a' w'/\Arrives P (lone (b.at a (.code c :: .inLoop c::k)) cs w) b k cs e a' w':=by
  intro n
  induction n using Nat.strongRecOn with
  | _ n ih=>
    intro A Pb Kb a w F hI hs b k cs
    obtain⟨e,Ps,O',hq,Oi⟩:=round n A hI Pb Kb a w F hs b (.inLoop c::k) cs
    cases e with
    | normal=>
      obtain⟨A',Pb',C9,F',⟨m,hm,hI'⟩,h2,h3,h4,h5,h6⟩:=hq
      obtain⟨w8,WY,Ow,Ut,Ra⟩:=ih m hm A' Pb' C9 Ps O' F' hI' h2 b k cs
      exact⟨w8,WY,Ow,Nx.step h3 h4 h5 h6 Ut,.of_steps (Steps.trans Oi (.one step_inLoop)) Ra⟩
    | exit id=>exact⟨_,Ps,O',hq,.pass (x:=.inLoop c) rfl (fun _ _=>.inl Z8) Oi⟩
    | goto l=>exact⟨_,Ps,O',hq,.pass (x:=.inLoop c) rfl (fun _ _=>.inl Z8) Oi⟩
    | ret=>exact⟨_,Ps,O',hq,.pass (x:=.inLoop c) rfl (fun _ _=>.inl Z8) Oi⟩
    | panic ch=>exact⟨_,Ps,O',hq,.pass (x:=.inLoop c) rfl (fun _ _=>.inl Z8) Oi⟩
    | outgrown=>exact⟨_,Ps,O',hq,.pass (x:=.inLoop c) rfl (fun _ _=>.inl Z8) Oi⟩
 intro Pb Kb a w F hs b k cs
 obtain⟨e,a',w',hq,Oi⟩:=key n A Pb Kb a w F h0 hs b k cs
 exact⟨e,a',w',hq,.of_steps (.one step_loop) Oi⟩
theorem Ge{id:Nat}{ops:Array Oper}{Q:Exit->AS->Prop}(h:WL P N ops ops.toList A (Q .normal)):T P N (.region id ops false) A Q:=
 fun _ _ _ _ _ hs=>wp_region_list (ry _ h hs fun _ _ hn=>hn)
end
end Go.Abs
namespace Go.Abs
open Go Go.RowKit
mutual
def V.er:V->V
 | .own _ xs _ _ _=>.sl false (V.D5 xs)
 | .ow _ xs=>.sl false (V.D5 xs)
 | .om es _=>.mp es
 | .agg vs=>.agg (V.D5 vs)
 | .tup vs=>.tup (V.D5 vs)
 | .gv _ _=>.c9
 | v=>v
def V.D5:List V->List V
 | []=>[]
 | v::vs=>v.er::V.D5 vs
end
def ng(P:Program)(f:FuncId):Prop:= ∀ args w,(callFunc f args).run P w=.ok (.enter f args) w
def PC(P:Program)(f:FuncId)(args:List V)(Q:V->Prop):Prop:=
 ng P f/\∀ (w:World) (Pb:Nat->Prop) (cargs:List Value),(∀ g,Pb g->g<w.heap.size)->RVs w Pb args cargs []->
  Calls P f cargs.toArray w fun e w'=> ∃ r x F Pb',e=.returned x/\Q r/\RV w' Pb' r x F/\F.Nodup/\(∀ g,g∈F->w.heap.size<=g/\g<w'.heap.size/\¬ Pb' g)/\
   (∀ g,Pb g->Pb' g)/\(∀ g,Pb' g->Pb g\/(w.heap.size<=g/\g<w'.heap.size))/\Below w.heap.size w w'
theorem PC.mono{P:Program}{f:FuncId}{args:List V}{Q Q':V->Prop}(h:PC P f args Q)(hQ:∀ r,Q r->Q' r):PC P f args Q':=
 ⟨h.1,fun w Pb cargs h1 h2=>(h.2 w Pb cargs h1 h2).mono fun _ _ ⟨r,x,F,Pb',e,q,rest⟩=>⟨r,x,F,Pb',e,hQ r q,rest⟩⟩
section
variable {w w':World} {Pb Kb Pb':Nat->Prop} {N:Nat} {A A':AS} {a:Act} {F:l7->List Nat} {P:Program}
mutual
theorem Gc:∀ v:V,v.er.n=v.n
 | .own .. =>rfl | .ow .. =>rfl | .om .. =>rfl | .mp .. =>rfl | .agg vs=>by simp only[V.er,V.n];exact GJ vs
 | .tup _=>rfl | .gv _ _=>rfl | .lit _=>rfl | .sl .. =>rfl | .hd .. =>rfl | .ptr .. =>rfl | .ep _=>rfl | .c9=>rfl
theorem GJ:∀ vs:List V,V.ns (V.D5 vs)=V.ns vs
 | []=>rfl | v::vs=>by simp only[V.D5,V.ns,Gc v,GJ vs]
end
theorem lp:∀ vs:List V,V.D5 vs=vs.map V.er
 | []=>rfl | v::vs=>by simp[V.D5,lp vs]
mutual
theorem gN:∀ (v:V) {cs F},R w Pb v cs F->(∀ g,Pb g->Pb' g)->(∀ g,g∈F->Pb' g)->R w Pb' v.er cs []
 | .lit x,_,_,h,_,_=>⟨h.1,h.2.1,rfl⟩
 | .agg vs,_,_,h,k1,k2=>by simp only[R,V.er]at h ⊢;exact sd vs h k1 k2
 | .tup _,_,_,h,_,_=>by simp[R]at h
 | .gv _ _,_,_,h,_,_=>by simp[R]at h
 | .sl full xs,cs,F,h,k1,k2=>by
   have hF:=h.1
   subst hF
   exact fP (w:=w) (.sl full xs) h (fun _ _=>rfl) Z8 k1 Z8
 | .own sz xs g o c,cs,F,h,k1,k2=>by
   rcases h with ⟨rfl,rfl,rfl,A,rfl⟩ | ⟨h1,h2,h3,rfl,h5,h6,flat,F',cells,rfl,hr,hb,hsz,r8⟩
   exact⟨rfl,A,0,rfl,Nat.le_refl _,fun h=>by simp at h,.inl rfl⟩
   refine⟨rfl,some ⟨g,o,none⟩,c,by rw[lp];simp,by rw[lp];simpa using h3,fun h=>by simp at h,?_⟩
   by_cases hx:xs=[]
   subst hx;exact .inl rfl
   refine .inr ⟨g,o,sz,flat,rfl,k2 g Z8,h2,?_,sd xs hr k1 (fun g hg=>k2 g (by simp[hg])),fun j u hu=>by rw[dM hb];exact r8 j u hu⟩
   intro v hv
   rw[lp]at hv
   obtain⟨u,hu,rfl⟩:=List.mem_map.1 hv
   rw[Gc];exact h5 u hu
 | .ow sz xs,cs,F,h,k1,k2=>by
   obtain⟨g,o,c,h⟩:=h
   rcases h with ⟨rfl,rfl,rfl,A,rfl⟩ | ⟨h1,h2,h3,rfl,h5,h6,flat,F',cells,rfl,hr,hb,hsz,r8⟩
   exact⟨rfl,A,0,rfl,Nat.le_refl _,fun h=>by simp at h,.inl rfl⟩
   refine⟨rfl,some ⟨g,o,none⟩,c,by rw[lp];simp,by rw[lp];simpa using h3,fun h=>by simp at h,?_⟩
   by_cases hx:xs=[]
   subst hx;exact .inl rfl
   refine .inr ⟨g,o,sz,flat,rfl,k2 g Z8,h2,?_,sd xs hr k1 (fun g hg=>k2 g (by simp[hg])),fun j u hu=>by rw[dM hb];exact r8 j u hu⟩
   intro v hv
   rw[lp]at hv
   obtain⟨u,hu,rfl⟩:=List.mem_map.1 hv
   rw[Gc];exact h5 u hu
 | .om es g,cs,F,h,k1,k2=>⟨rfl,g,h.2.1,k2 g (by rw[h.1];simp),h.2.2.2⟩
 | .mp es,cs,F,h,k1,_=>by obtain⟨_,g,h1,h2,h3⟩:=h;exact⟨rfl,g,h1,k1 g h2,h3⟩
 | .hd ..,_,_,h,_,_=>⟨rfl,h.2⟩
 | .ptr ..,_,_,h,_,_=>⟨rfl,h.2⟩
 | .ep v,cs,F,h,k1,k2=>by
   have hF:=h.1
   subst hF
   exact fP (w:=w) (.ep v) h (fun _ _=>rfl) Z8 k1 Z8
 | .c9,_,_,h,_,_=>⟨rfl,h.2⟩
theorem sd:∀ (vs:List V) {cs F},RL w Pb vs cs F->(∀ g,Pb g->Pb' g)->(∀ g,g∈F->Pb' g)->RL w Pb' (V.D5 vs) cs []
 | [],_,_,h,_,_=>⟨h.1,rfl⟩
 | v::vs,_,_,h,k1,k2=>by
   obtain⟨c1,c2,F1,F2,rfl,rfl,h1,h2⟩:=h
   exact⟨c1,c2,[],[],rfl,rfl,gN v h1 k1 (fun g hg=>k2 g (by simp[hg])),sd vs h2 k1 (fun g hg=>k2 g (by simp[hg]))⟩
end
theorem DK:∀ (vs:List V) {xs F},RVs w Pb vs xs F->(∀ g,Pb g->Pb' g)->(∀ g,g∈F->Pb' g)->RVs w Pb' (V.D5 vs) xs []
 | [],_,_,h,_,_=>⟨h.1,rfl⟩
 | v::vs,_,_,h,k1,k2=>by
   obtain⟨x,xs',F1,F2,rfl,rfl,h1,h2⟩:=h
   refine⟨x,xs',[],[],rfl,rfl,?_,DK vs h2 k1 (fun g hg=>k2 g (by simp[hg]))⟩
   have QI:∀ g,g∈F1->Pb' g:=fun g hg=>k2 g (by simp[hg])
   cases v with
   | agg us=>obtain⟨cs,e,h1⟩:=h1;exact⟨cs,e,sd us h1 k1 QI⟩
   | c9=>rfl
   | tup _=>simp[R]at h1
   | gv _ _=>simp[R]at h1
   | own sz xs g o c=>exact gN (w:=w) (Pb:=Pb) (.own sz xs g o c) h1 k1 QI
   | ow sz xs=>exact gN (w:=w) (Pb:=Pb) (.ow sz xs) h1 k1 QI
   | om es g=>exact gN (w:=w) (Pb:=Pb) (.om es g) h1 k1 QI
   | mp es=>exact gN (w:=w) (Pb:=Pb) (.mp es) h1 k1 QI
   | lit x=>exact gN (w:=w) (Pb:=Pb) (.lit x) h1 k1 QI
   | sl f xs=>exact gN (w:=w) (Pb:=Pb) (.sl f xs) h1 k1 QI
   | hd r p sz g o lo n c=>exact gN (w:=w) (Pb:=Pb) (.hd r p sz g o lo n c) h1 k1 QI
   | ptr r p g o=>exact gN (w:=w) (Pb:=Pb) (.ptr r p g o) h1 k1 QI
   | ep v=>exact gN (w:=w) (Pb:=Pb) (.ep v) h1 k1 QI
theorem Co{v:V}{x:Value}{F:List Nat}(h:RV w Pb v x F)(k1:∀ g,Pb g->Pb' g)(k2:∀ g,g∈F->Pb' g):RV w Pb' v.er x []:=by
 cases v with
 | tup vs=>obtain⟨xs,e,h⟩:=h;exact⟨xs,e,DK vs h k1 k2⟩
 | gv _ _=>rfl
 | agg us=>obtain⟨cs,e,h⟩:=h;exact⟨cs,e,sd us h k1 k2⟩
 | c9=>rfl
 | own sz xs g o c=>exact gN (w:=w) (Pb:=Pb) (.own sz xs g o c) h k1 k2
 | ow sz xs=>exact gN (w:=w) (Pb:=Pb) (.ow sz xs) h k1 k2
 | om es g=>exact gN (w:=w) (Pb:=Pb) (.om es g) h k1 k2
 | mp es=>exact gN (w:=w) (Pb:=Pb) (.mp es) h k1 k2
 | lit x=>exact gN (w:=w) (Pb:=Pb) (.lit x) h k1 k2
 | sl f xs=>exact gN (w:=w) (Pb:=Pb) (.sl f xs) h k1 k2
 | hd r p sz g o lo n c=>exact gN (w:=w) (Pb:=Pb) (.hd r p sz g o lo n c) h k1 k2
 | ptr r p g o=>exact gN (w:=w) (Pb:=Pb) (.ptr r p g o) h k1 k2
 | ep v=>exact gN (w:=w) (Pb:=Pb) (.ep v) h k1 k2
theorem s3.grow{M7 Nb:Nat->Prop} (hs:s3 N Pb Kb A a w F) (hb:∀ k,k<w.heap.size->w'.heap[k]? =w.heap[k]?) (hsz:w.heap.size<=w'.heap.size) (h1:∀ g,Pb g->M7 g)
 (h4:∀ g,Nb g->Kb g\/(w.heap.size<=g/\g<w'.heap.size)) (h5:∀ g,M7 g->Nb g):s3 N M7 Nb A a w' F where
 size:=hs.size
 defers:=hs.defers
 slot:=fun i=>mA _ (hs.slot i) (fun g hg=>hb g (hs.bound g (hs.sub g hg))) (fun g hg=>hb g (hs.free _ g hg).2) h1 (fun g hg c=>by
  have hf:=hs.free _ g hg
  rcases h4 g (h5 g c) with h | h
  exact hf.1 h
  omega)
 root:=fun k g v hk=>by
  obtain⟨F',e,cs,cells,⟨e',fr,J3,hfr⟩,hr,hc⟩:=hs.root k g v hk
  have hin:∀ x,x∈g::F'->x<w.heap.size/\¬ M7 x:=fun x hx=>by
   have hf:=hs.free (.key k) x (by rw[e];exact hx)
   refine⟨hf.2,fun c=>?_⟩
   rcases h4 x (h5 x c) with h | h
   exact hf.1 h
   omega
  exact⟨F',e,cs,cells,⟨e',fr,(hb g (hin g Z8).1).trans J3,hfr⟩,fP _ hr (fun g hg=>hb g (hs.bound g (hs.sub g hg))) (fun x hx=>hb x (hin x (by simp[hx])).1) h1 (fun x hx=>(hin x (by simp[hx])).2),hc⟩
 bX:=hs.bX
 nodup:=hs.nodup
 free:=fun r g hg=>by
  have hf:=hs.free r g hg
  refine⟨fun c=>?_,Z9⟩
  rcases h4 g c with h | h
  exact hf.1 h
  omega
 sub:=h5
 bound:=fun g hg=>by
  rcases h4 g hg with h | h
  have:=hs.bound g h;omega
  exact h.2
theorem x4.yp(h:Below w.heap.size w w')(hK:∀ g,Kb g->g<w.heap.size):x4 Kb w w':=
 ⟨h.os,h.tape,h.output,h.size,fun g hg=>h.block g (hK g hg),Shp.of_eq h.block⟩
theorem sU(hs:s3 N Pb Kb A a w F):∀ xs:List Operand,RVs w Pb (xs.map A.cp) (xs.map a.eval) []
 | []=>⟨rfl,rfl⟩
 | x::xs=>by
   refine⟨a.eval x,xs.map a.eval,[],[],rfl,rfl,?_,sU hs xs⟩
   have h:=qg hs x
   cases hv:A.cp x with
   | tup vs=>
     exfalso
     cases x with
     | tmp i=>
       simp only[AS.cp]at hv
       cases hg:A.get i <;> rw[hg]at hv <;> first | (solve | simp only[V.cp,V.Pq,reduceCtorEq]at hv) | (unfold V.cp at hv;simp only[V.Pq,reduceCtorEq]at hv)
     | const c=>
       simp only[AS.cp,AS.ev]at hv
       cases c <;> simp[cV,Ri]at hv
       split at hv <;> simp at hv
       split at hv <;> simp at hv
     | _=>simp[AS.cp,AS.ev]at hv
   | gv b u=>
     exfalso
     cases x with
     | tmp i=>
       simp only[AS.cp]at hv
       cases hg:A.get i <;> rw[hg]at hv <;> first | (solve | simp only[V.cp,V.Pq,reduceCtorEq]at hv) | (unfold V.cp at hv;simp only[V.Pq,reduceCtorEq]at hv)
     | const c=>
       simp only[AS.cp,AS.ev]at hv
       cases c <;> simp[cV,Ri]at hv
       split at hv <;> simp at hv
       split at hv <;> simp at hv
     | _=>simp[AS.cp,AS.ev]at hv
   | agg us=>rw[hv]at h;exact h
   | c9=>rfl
   | own sz xs g o c=>rw[hv]at h;exact h
   | ow sz xs=>rw[hv]at h;exact h
   | om es g=>rw[hv]at h;exact h
   | mp es=>rw[hv]at h;exact h
   | lit x=>rw[hv]at h;exact h
   | sl f xs=>rw[hv]at h;exact h
   | hd r p sz g o lo n c=>rw[hv]at h;exact h
   | ptr r p g o=>rw[hv]at h;exact h
   | ep v=>rw[hv]at h;exact h
theorem Gw{o:Oper} {K:AS->Prop} {f:FuncId} {xs:Array Operand} {J9:Array TypeId} {Q:V->Prop} (ho:o.op=.call { callee:=.value (.func f),args:=xs,argTypes:=J9 })
 (hd:cy N o.dst) (hc:PC P f (xs.toList.map A.cp) Q) (hK:∀ r,Q r->K (A.put o.dst r)):D' P N o A K:=by
 intro Pb Kb a w F Q' hs
 unfold Oper.wp
 have y9:(execOp a.eval o).run P w=.ok (.enter f (xs.map a.eval)) w:=by
  simp only[execOp,ho,resolve,Act.eval,Deferred.ofValue,Sem.run_bind,Sem.run_pure,Result.andThen_ok,invoke]
  have:=hc.1 (xs.map a.eval) w
  simpa using this
 rw[y9,Oper.upon_enter]
 have hargs:=sU hs xs.toList
 have I7:=hc.2 w Pb (xs.toList.map a.eval) (fun g hg=>hs.bound g (hs.sub g hg)) hargs
 have e:(xs.toList.map a.eval).toArray=xs.map a.eval:=by rw[<- Array.toList_map,Array.toArray_toList]
 rw[e]at I7
 refine I7.mono ?_
 rintro e w' ⟨r,x,Fr,Pb',rfl,hq,hr,hnd,hfr,h1,h2,hb⟩
 have x8:s3 N Pb' (fun g=>Kb g\/Pb' g) A a w' F:=hs.grow hb.block hb.size h1 (fun g hg=>by
  rcases hg with h | h
  exact .inl h
  rcases h2 g h with h | h
  exact .inl (hs.sub g h)
  exact .inr h) (fun g hg=>.inr hg)
 have Qm:∀ g,g∈Fr->¬ (Kb g\/Pb' g)/\g<w'.heap.size:=fun g hg=>by
  obtain⟨f1,f2,f3⟩:=hfr g hg
  refine⟨fun c=>?_,f2⟩
  rcases c with c | c
  have:=hs.bound g c;omega
  exact f3 c
 have hnx:∀ A' a' F',K A'->s3 N Pb' (fun g=>Kb g\/Pb' g) A' a' w' F'->Nx N Pb Kb w K a' w':=fun A' a' F' hk SL=>
  ⟨A',Pb',_,F',hk,SL,h1,fun g hg=>.inl hg,fun g hg=>by
   rcases h2 g hg with h | h
   exact .inl h
   exact .inr fun c=>by have:=hs.bound g c;omega,x4.yp hb hs.bound⟩
 cases LL:o.dst with
 | none=>exact hnx _ _ F (hK r hq) (by rw[LL];exact x8)
 | some d=>
   rw[LL]at hd
   refine hnx _ _ (bY F (.slot d) Fr) (hK r hq) ?_
   rw[LL]
   refine x8.put hd hr (fun rt _ g hg=>?_) hnd Qm
   intro I8
   have:=(hs.free rt g I8).2
   have:=(hfr g hg).1
   omega
theorem nX{o:Oper} {K:AS->Prop} {f:FuncId} {xs:Array Operand} {J9:Array TypeId} {Q:V->Prop} {E:V} (ho:o.op=.call { callee:=.value (.func f),args:=xs,argTypes:=J9 })
 (hd:cy N o.dst) (hc:PC P f (xs.toList.map A.cp) Q) (hE:∀ r,Q r->r.er=E) (hK:K (A.put o.dst E)):D' P N o A K:=by
 have I8:PC P f (xs.toList.map A.cp) (fun r=>r=E):=by
  refine⟨hc.1,fun w Pb cargs h1 h2=>(hc.2 w Pb cargs h1 h2).mono ?_⟩
  rintro e w' ⟨r,x,Fr,Pb',rfl,hq,hr,hnd,hfr,k1,k2,hb⟩
  refine⟨E,x,[],fun g=>Pb' g\/g∈Fr,rfl,rfl,?_,List.nodup_nil,Z8,fun g hg=>.inl (k1 g hg),fun g hg=>?_,hb⟩
  rw[<- hE r hq];exact Co hr (fun g hg=>.inl hg) (fun g hg=>.inr hg)
  rcases hg with h | h
  exact k2 g h
  obtain⟨f1,f2,_⟩:=hfr g h;exact .inr ⟨f1,f2⟩
 exact Gw ho hd I8 fun r hr=>by rw[hr];exact hK
def enum(k:Nat):List V->List (Nat×V)
 | []=>[]
 | v::vs=>(k,v)::enum (k+1) vs
def zF(A:AS):ResultVar->Option (l7×V)
 | .tmp t=>some (.slot t,A.get t)
 | .cell t _=>match A.get t with
   | .ptr (.key k) [] g 0=>match lk k A.h with
     | some (g',v)=>if g'=g then some (.key k,v) else none
     | none=>none
   | _=>none
def pw(A:AS):List ResultVar->Option (List (l7×V))
 | []=>some []
 | r::rs=>match zF A r,pw A rs with
   | some x,some xs=>some (x::xs)
   | _,_=>none
def pR(P:Program):List ResultVar->List (l7×V)->Prop
 | .cell _ T::rs,(_,v)::xs=>(match ti P T with | some i=>v.n=i.sz/\i.d.agg=v.isAgg | none=>False)/\pR P rs xs
 | .tmp _::rs,(_,v)::xs=>(match v with | .tup _=>False | .gv _ _=>False | _=>True)/\pR P rs xs
 | [],[]=>True
 | _,_=>False
def one(vs:List V):V:=match vs with | [v]=>v | vs=>.tup vs
theorem Ax:∀ (vs:List V) (k i:Nat),lk i (enum k vs)=if k<=i then vs[i-k]? else none
 | [],k,i=>by simp[enum,lk]
 | v::vs,k,i=>by
   simp only[enum,lk]
   by_cases h:i=k
   subst h;simp
   rw[if_neg h,Ax vs (k+1) i]
   by_cases h':k+1<=i
   rw[if_pos h',if_pos Z9]
   have:i-k=(i-(k+1))+1:=Z9
   rw[this];rfl
   rw[if_neg h',if_neg Z9]
theorem Dw:∀ (vs:List V) {xs:List Value} {i:Nat} {v:V},RVs w Pb vs xs []->vs[i]? =some v->∃ x,xs[i]? =some x/\RV w Pb v x []
 | [],_,_,_,_,h=>by simp at h
 | v::vs,xs,0,u,h,hi=>by
     obtain⟨x,xs',F1,F2,rfl,hF,h1,h2⟩:=h
     have hF1:F1=[]:=by have:=hF.symm;simp at this;exact this.1
     subst hF1
     simp at hi;subst hi
     refine⟨x,rfl,?_⟩
     cases v with
     | agg us=>exact h1
     | c9=>exact h1
     | tup us=>simp[R]at h1
     | gv _ _=>simp[R]at h1
     | _=>exact h1
 | v::vs,xs,i+1,u,h,hi=>by
     obtain⟨x,xs',F1,F2,rfl,hF,h1,h2⟩:=h
     have hF2:F2=[]:=by have:=hF.symm;simp at this;exact this.2
     subst hF2
     obtain⟨y,hy,hr⟩:=Dw vs h2 (by simpa using hi)
     exact⟨y,by simpa using hy,hr⟩
theorem wm:∀ (vs:List V) {xs:List Value} {F},RVs w Pb vs xs F->xs.length=vs.length
 | [],_,_,h=>by rw[h.1];rfl
 | v::vs,_,_,h=>by
   obtain⟨x,xs',F1,F2,rfl,_,_,h2⟩:=h
   simp[wm vs h2]
def Tj(a:Act):ResultVar->Sem Value
 | .tmp t=>pure (a.tmps.getD t undef)
 | .cell t T=>do loadVar T (<- asAddr (a.tmps.getD t undef))
def ND(w:World)(Pb:Nat->Prop)(v:V)(x:Value)(F:List Nat):Prop:=match v with
 | .agg us=> ∃ cs,x=.agg cs/\RL w Pb us cs.toList F
 | .c9=>F=[]
 | v=>R w Pb v [x] F
theorem DR{v:V}{x:Value}{F1:List Nat}(h:RV w Pb v x F1)(hn:(∀ us,v≠.tup us)/\∀ b u,v≠.gv b u):ND w Pb v x F1:=by
 cases v with
 | tup us=>exact absurd rfl (hn.1 us)
 | gv b u=>exact absurd rfl (hn.2 b u)
 | _=>exact h
theorem Ko{i:Option TI}{v:V}(h:match i with | some i=>v.n=i.sz/\i.d.agg=v.isAgg | none=>False):∃ j,i=some j/\v.n=j.sz/\j.d.agg=v.isAgg:=by
 cases i with
 | none=>exact h.elim
 | some j=>exact⟨j,rfl,h⟩
instance:LawfulMonad Sem:=LawfulMonad.mk' Sem (id_map:=fun x=>by
 show x.bind (fun a=>Sem.pure (id a))=x
 exact Sem.bind_pure' x)
 (pure_bind:=fun _ _=>rfl) (bind_assoc:=fun x f g=>Sem.bind_assoc' x f g)
theorem wJ(hs:s3 N Pb Kb A a w F):∀ (rs:List ResultVar) {xs:List (l7×V)},pw A rs=some xs->pR P rs xs->(xs.map (·.1)).Nodup->
 ∃ (vs:List Value) (Fr:List Nat),(rs.mapM (Tj a)).run P w=.ok vs w/\
   RVs w Pb (xs.map (·.2)) vs Fr/\Fr.Nodup/\(∀ g,g∈Fr->∃ r,r∈xs.map (·.1)/\g∈F r)
 | [],xs,h,_,_=>by
   simp[pw]at h;subst h
   exact⟨[],[],rfl,⟨rfl,rfl⟩,List.nodup_nil,Z8⟩
 | r::rs,xs,h,Mn,hnd=>by
   simp only[pw]at h
   split at h
   case h_2=>simp at h
   rename_i x xs' hx QX
   simp only[Option.some.injEq]at h
   subst h
   simp only[List.map_cons,List.nodup_cons]at hnd
   have Wh:pR P rs xs':=by
    obtain⟨xr,xv⟩:=x
    cases r <;> exact Mn.2
   obtain⟨vs,Fr,y9,hrv,MK,hin⟩:=wJ hs rs QX Wh hnd.2
   have h1:∃ (v:Value) (F1:List Nat),(Tj a r).run P w=.ok v w/\RV w Pb x.2 v F1/\((∀ us,x.2≠.tup us)/\∀ b u,x.2≠.gv b u)/\F1.Nodup/\∀ g,g∈F1->g∈F x.1:=by
    cases r with
    | tmp t=>
      simp only[zF,Option.some.injEq]at hx
      subst hx
      have Mn:=Mn.1
      exact⟨_,F (.slot t),rfl,hs.slot t,⟨fun us e=>by have e':A.get t=.tup us:=e;rw[e']at Mn;exact Mn,fun b u e=>by have e':A.get t=.gv b u:=e;rw[e']at Mn;exact Mn⟩,hs.nodup _,fun _ h=>h⟩
    | cell t T=>
      simp only[zF]at hx
      split at hx
      case h_2=>simp at hx
      rename_i k g hg
      split at hx
      case h_2=>simp at hx
      rename_i g' v hk
      split at hx
      case isFalse=>simp at hx
      rename_i e
      subst e
      simp only[Option.some.injEq]at hx
      subst hx
      have Q2:=Mn.1
      obtain⟨i,hi,Q2⟩:=Ko Q2
      obtain⟨F',e,cs,cells,hb,hr,hc⟩:=hs.root k g' v hk
      have hp:=hs.slot t
      rw[hg]at hp
      have hp:a.tmps.getD t undef=.pointer (some ⟨g',0,none⟩):=by have:=hp.2;simpa using this
      obtain⟨y,hy,Up⟩:=mr (w:=w) hi hr Q2.1 Q2.2 (g:=g') (o:=0) (fun j u hu=>by rw[dM hb];exact hc j u hu)
      refine⟨y,F',by simp only[Tj,hp,asAddr,Sem.run_bind,Sem.run_pure,Result.andThen_ok,hy],Up,?_,?_,?_⟩
      exact⟨fun us e=>by simp only at e;subst e;simp[R]at hr,fun b u e=>by simp only at e;subst e;simp[R]at hr⟩
      have:=hs.nodup (.key k);rw[e]at this;exact(List.nodup_cons.1 this).2
      intro g hg;rw[e];simp[hg]
   obtain⟨v,F1,hv,OE,hnt,SY,UF⟩:=h1
   refine⟨v::vs,F1++Fr,?_,?_,?_,?_⟩
   rw[List.mapM_cons]
   simp only[Sem.run_bind,Sem.run_pure]
   rw[hv]
   simp only[Result.andThen_ok,y9]
   exact⟨v,vs,F1,Fr,rfl,rfl,DR OE hnt,hrv⟩
   refine List.nodup_append.2 ⟨SY,MK,fun p hp q hq e=>?_⟩
   subst e
   obtain⟨r',E0,Od⟩:=hin p hq
   exact hs.bX x.1 r' (fun c=>hnd.1 (by rw[c];exact E0)) p (UF p hp) Od
   intro g hg
   rcases List.mem_append.1 hg with h | h
   exact⟨x.1,Z8,UF g h⟩
   obtain⟨r',E0,Od⟩:=hin g h
   exact⟨r',by simp only[List.map_cons,List.mem_cons];exact .inr E0,Od⟩
theorem CY:∀ (us:List V) {vs:List Value} {Fr:List Nat},RVs w Pb us vs Fr->RV w Pb (one us) (if h:vs.toArray.size=1 then vs.toArray[0] else .tuple vs.toArray) Fr
 | [],vs,Fr,h=>by obtain⟨rfl,rfl⟩:=h;exact⟨#[],rfl,rfl,rfl⟩
 | [v],vs,Fr,h=>by
   obtain⟨x,xs',F1,F2,rfl,rfl,h1,h2⟩:=h
   obtain⟨rfl,rfl⟩:=h2
   simp only[List.append_nil]
   show RV w Pb v x F1
   cases v with
   | tup _=>simp[R]at h1
   | gv _ _=>simp[R]at h1
   | _=>exact h1
 | v::v'::us,vs,Fr,h=>by
   have hl:=wm _ h
   rw[dif_neg (by simp at hl ⊢;omega)]
   exact⟨vs.toArray,rfl,by simpa using h⟩
theorem zP(hs:s3 N Pb Kb A a w F){fn:Func}{xs:List (l7×V)}(h1:pw A fn.results.toList=some xs)(h2:pR P fn.results.toList xs)(h3:(xs.map (·.1)).Nodup):
 ∃ x Fr,(results fn a.tmps).run P w=.ok x w/\RV w Pb (one (xs.map (·.2))) x Fr/\Fr.Nodup/\∀ g,g∈Fr->∃ r,r∈xs.map (·.1)/\g∈F r:=by
 obtain⟨vs,Fr,y9,hrv,hnd,hin⟩:=wJ hs _ h1 h2 h3
 have hm:(fn.results.mapM (Tj a)).run P w=.ok vs.toArray w:=by
  rw[<- Array.toArray_toList (xs:=fn.results),List.mapM_toArray,Sem.run_map,y9];rfl
 have WA:(results fn a.tmps).run P w=.ok (if h:vs.toArray.size=1 then vs.toArray[0] else .tuple vs.toArray) w:=by
  show ((fn.results.mapM (Tj a)).bind _).run P w=_
  have:=Sem.run_bind (P:=P) (w:=w) (x:=fn.results.mapM (Tj a)) (f:=fun vs=>(pure (if h:vs.size=1 then vs[0] else .tuple vs):Sem Value))
  rw[hm]at this
  exact this
 exact⟨_,Fr,WA,CY _ hrv,hnd,hin⟩
end
end Go.Abs
namespace Go.Abs
open Go Go.RowKit
def Str(l:BL):ByteArray:=⟨l.toArray⟩
theorem gV(l:BL):(Str l).size=l.length:=by simp[Str,ByteArray.size]
theorem HW(a b:BL):Str a++Str b=Str (a++b):=by
 apply ByteArray.ext;simp[Str]
theorem Is(l:BL)(i j:Nat):(Str l).extract i j=Str ((l.take j).drop i):=by
 apply ByteArray.ext
 rw[ByteArray.data_extract]
 simp[Str,List.extract,List.drop_take]
theorem JH(l:BL)(i:Int):WW (Str l) i=.lit (.int .u8 (l.getD i.toNat 0).toNat):=by
 unfold WW Str;simp[Array.getD,List.getD]
 split <;> simp_all
def MH(P:Program)(N:Nat):List Oper->AS->Prop×AS×List Oper
 | [],A=>(True,A,[])
 | o::rest,A=>match o.guard with
   | some _=>(True,A,o::rest)
   | none=>match o.op with
     | .assign x=>match MH P N rest ((A.drop x).put o.dst (A.ev x)) with
       | (C,r)=>(cy N o.dst/\C,r)
     | op=>match G5 P A op with
       | some (C,v)=>match MH P N rest (A.put o.dst v) with
         | (C',r)=>(cy N o.dst/\C/\C',r)
       | none=>(True,A,o::rest)
theorem dO{P:Program} {f:FuncId} {fn:Func} (hf:P.funcs[f]? =some fn) (hn:(fn.name== "runtime.NumGoroutine")=false) (hb:fn.body.isNone=false):ng P f:=by
 intro args w
 unfold callFunc
 simp only[Sem.run_bind,run_program,Result.andThen_ok,hf,hn,hb,Bool.false_eq_true,if_false,Sem.run_pure]
end Go.Abs
namespace Go.Abs
open Go Go.RowKit
def V.set(v:V):List Nat->V->V
 | [],u=>u
 | j::p,u=>match v with
   | .agg vs=>match vs[j]? with
     | some x=>.agg (vs.set j (V.set x p u))
     | none=>v
   | .own sz xs g o c=>match xs[j]? with
     | some x=>.own sz (xs.set j (V.set x p u)) g o c
     | none=>v
   | _=>v
section
variable {w w':World} {Pb Kb:Nat->Prop}
def SC(w:World)(Pb:Nat->Prop)(vs:List V)(g o:Nat)(F:List Nat):Prop:=
 ∃ cs cells,Blk w g cells/\RL w Pb vs cs F/\∀ j u,cs[j]? =some u->cells[o+j]? =some u
theorem tq{v:V}{vs:List V}{g o:Nat}{F:List Nat}:SC w Pb (v::vs) g o F↔∃ F1 F2,F=F1++F2/\At w Pb v g o F1/\SC w Pb vs g (o+v.n) F2:=by
 constructor
 rintro⟨cs,cells,hb,⟨c1,c2,F1,F2,rfl,rfl,h1,h2⟩,hc⟩
 refine⟨F1,F2,rfl,⟨c1,cells,hb,h1,fun j u hu=>hc j u ?_⟩,⟨c2,cells,hb,h2,fun j u hu=>?_⟩⟩
 rw[List.getElem?_append_left (List.getElem?_eq_some_iff.1 hu).1];exact hu
 have hl:=eg v h1
 rw[<- hl,Nat.add_assoc]
 refine hc _ u ?_
 rw[List.getElem?_append_right Z9]
 have e:c1.length+j-c1.length=j:=Z9
 rw[e];exact hu
 rintro⟨F1,F2,rfl,⟨c1,cells,⟨e1,f1,hb,hf⟩,h1,MC⟩,⟨c2,n7,⟨e2,f2,J3,_⟩,h2,Qu⟩⟩
 rw[hb]at J3
 simp only[Option.some.injEq,Obj.cells.injEq]at J3
 obtain⟨rfl,_,_⟩:=J3
 refine⟨c1++c2,cells,⟨e1,f1,hb,hf⟩,⟨c1,c2,F1,F2,rfl,rfl,h1,h2⟩,fun j u hu=>?_⟩
 have hl:=eg v h1
 by_cases hj:j<c1.length
 rw[List.getElem?_append_left hj]at hu;exact MC j u hu
 rw[List.getElem?_append_right Z9]at hu
 have:=Qu _ u hu
 rw[<- hl]at this
 have e:o+c1.length+(j-c1.length)=o+j:=Z9
 rwa [e]at this
theorem yI{vs:List V}{g o:Nat}{F:List Nat}:At w Pb (.agg vs) g o F↔SC w Pb vs g o F:=by
 constructor
 rintro⟨cs,cells,hb,h,hc⟩;exact⟨cs,cells,hb,by simpa only[R] using h,hc⟩
 rintro⟨cs,cells,hb,h,hc⟩;exact⟨cs,cells,hb,by simpa only[R] using h,hc⟩
theorem wQ{l:List Value}{cells:Array Value}{o:Nat}(h:∀ j u,l[j]? =some u->cells[o+j]? =some u)(hl:l≠[]):o+l.length<=cells.size:=by
 have G6:0<l.length:=List.length_pos_iff.2 hl
 have:=h (l.length-1) _ (List.getElem?_eq_getElem Z9)
 have:=(Array.getElem?_eq_some_iff.1 this).1
 omega
theorem pe{v:V} {g o:Nat} {F:List Nat} (h:At w Pb v g o F) (k1:∀ x,Pb x->w'.heap[x]? =w.heap[x]?) (k2:∀ x,x∈F->w'.heap[x]? =w.heap[x]?) (k3:∀ x,x∈F->¬ Pb x)
 (k4:∀ cells,Blk w g cells->∃ n7,Blk w' g n7/\∀ j,o<=j->j<o+v.n->n7[j]? =cells[j]?):At w' Pb v g o F:=by
 obtain⟨cs,cells,hb,hr,hc⟩:=h
 obtain⟨n7,J3,he⟩:=k4 cells hb
 refine⟨cs,n7,J3,fP v hr k1 k2 (fun _ h=>h) k3,fun j u hu=>?_⟩
 have hl:=eg v hr
 have hj:=(List.getElem?_eq_some_iff.1 hu).1
 rw[he _ Z9 Z9];exact hc j u hu
theorem Da{vs:List V} {g o:Nat} {F:List Nat} (h:SC w Pb vs g o F) (k1:∀ x,Pb x->w'.heap[x]? =w.heap[x]?) (k2:∀ x,x∈F->w'.heap[x]? =w.heap[x]?) (k3:∀ x,x∈F->¬ Pb x)
 (k4:∀ cells,Blk w g cells->∃ n7,Blk w' g n7/\∀ j,o<=j->j<o+V.ns vs->n7[j]? =cells[j]?):SC w' Pb vs g o F:=by
 rw[<- yI]at h ⊢
 exact pe h k1 k2 k3 k4
structure A5 (w w':World) (g o:Nat) (cs:List Value):Prop where
 os:w'.os=w.os
 tape:w'.tape=w.tape
 output:w'.output=w.output
 size:w'.heap.size=w.heap.size
 Mr:∀ k,k≠g->w'.heap[k]? =w.heap[k]?
 shape:Shp w w'
 Nd:∀ cells,Blk w g cells->∃ n7,Blk w' g n7/\n7.size=cells.size/\(∀ j,j<o\/o+cs.length<=j->n7[j]? =cells[j]?)/\(∀ j u,cs[j]? =some u->n7[o+j]? =some u)
theorem gX:∀ (p:List Nat) {v u:V} {g o g' o':Nat} {F},At w Pb v g o F->V.at g o v p=some (g',o',u)->(g'=g/\o<=o'/\o'+u.n<=o+v.n)\/g'∈F
 | [],v,u,g,o,g',o',F,h,e=>by
   simp only[V.at,Option.some.injEq,Prod.mk.injEq]at e
   obtain⟨rfl,rfl,rfl⟩:=e
   exact .inl ⟨rfl,Nat.le_refl _,Nat.le_refl _⟩
 | j::p,v,u,g,o,g',o',F,h,e=>by
   simp only[V.at]at e
   split at e
   rename_i vs
   split at e
   rename_i x hx
   obtain⟨cs,cells,hb,hr,hc⟩:=h
   simp only[R]at hr
   obtain⟨c,F',E0,hF,I8⟩:=fK vs hr hx
   rcases gX p (v:=x) ⟨c,cells,hb,E0,fun i u hu=>by rw[Nat.add_assoc];exact hc _ _ (I8 i u hu)⟩ e with ⟨h1,h2,h3⟩ | h1
   left
   refine⟨h1,Z9,?_⟩
   have hle:V.ns (vs.take j)+x.n<=V.ns vs:=by
    clear e hr hc E0 I8 hF h3 h2
    induction vs generalizing j with
    | nil=>simp at hx
    | cons v0 vs ih=>
      cases j with
      | zero=>simp at hx;subst hx;simp[V.ns]
      | succ j=>have:=ih (j:=j) (by simpa using hx);simp only[List.take_succ_cons,V.ns];omega
   simp only[V.n];omega
   exact .inr (hF _ h1)
   simp at e
   rename_i sz xs g1 o1 c1
   split at e
   rename_i x hx
   obtain⟨cs,cells,hb,hr,hc⟩:=h
   rcases hr with ⟨_,rfl,_⟩ | ⟨_,_,_,_,ha,_,flat,F',n7,rfl,hr,J3,_,I8⟩
   simp at hx
   obtain⟨c,Mc,E0,hF,M5⟩:=fK xs hr hx
   have hj:j<=xs.length:=by have:=(List.getElem?_eq_some_iff.1 hx).1;omega
   rw[dL xs j ha hj]at M5
   rcases gX p (v:=x) ⟨c,n7,J3,E0,fun i u hu=>by rw[Nat.add_assoc];exact I8 _ _ (M5 i u hu)⟩ e with ⟨h1,_⟩ | h1
   right;simp[h1]
   right;simp[hF _ h1]
   simp at e
   simp at e
theorem mC:∀ (p:List Nat) {v u u':V} {g o g' o':Nat},V.at g o v p=some (g',o',u)->u'.n=u.n->(v.set p u').n=v.n
 | [],v,u,u',g,o,g',o',e,h=>by
   simp only[V.at,Option.some.injEq,Prod.mk.injEq]at e
   obtain⟨_,_,rfl⟩:=e;exact h
 | j::p,v,u,u',g,o,g',o',e,h=>by
   simp only[V.at]at e
   simp only[V.set]
   split at e
   rename_i vs
   split at e
   rename_i x hx
   have ih:=mC p e h
   simp only[hx,V.n]
   clear e
   induction vs generalizing j with
   | nil=>simp at hx
   | cons v0 vs ihv=>
     cases j with
     | zero=>simp at hx;subst hx;simp[V.ns,ih]
     | succ j=>simp only[List.set_cons_succ,V.ns];rw[ihv j (by simpa using hx)]
   simp at e
   split at e
   rename_i x hx;(try simp only[hx]);rfl
   simp at e
   simp at e
def SS(w w':World)(Pb:Nat->Prop)(p:List Nat):Prop:= ∀ (v u u':V) (g o g' o':Nat) (F Mc:List Nat) (Qy:List Value),At w Pb v g o F->(g::F).Nodup->(∀ x,x∈g::F->¬ Pb x)->V.at g o v p=some (g',o',u)->
    R w' Pb u' Qy Mc->u'.n=u.n->Mc.Nodup->(∀ x,x∈Mc->x ∉ g::F)->A5 w w' g' o' Qy->(∀ x,Pb x->w'.heap[x]? =w.heap[x]?)->
    ∃ F1,At w' Pb (v.set p u') g o F1/\(g::F1).Nodup/\∀ x,x∈F1->x∈F\/x∈Mc
theorem vL{w w':World} {Pb:Nat->Prop} {p:List Nat} (IH:SS w w' Pb p) {x u u':V} {g g' o':Nat} {Mc:List Nat} {Qy:List Value} (hr:R w' Pb u' Qy Mc) (hn:u'.n=u.n) (MK:Mc.Nodup)
 (x7:A5 w w' g' o' Qy) (k1:∀ x,Pb x->w'.heap[x]? =w.heap[x]?):
 ∀ (vs:List V) (o:Nat) (F:List Nat) (j:Nat),SC w Pb vs g o F->(g::F).Nodup->(∀ x,x∈g::F->¬ Pb x)->(∀ x,x∈Mc->x ∉ g::F)->vs[j]? =some x->V.at g (o+V.ns (vs.take j)) x p=some (g',o',u)->
   ∃ F1,SC w' Pb (vs.set j (x.set p u')) g o F1/\(g::F1).Nodup/\∀ y,y∈F1->y∈F\/y∈Mc:=by
 have hcs':=eg u' hr
 intro vs
 induction vs with
 | nil=>intro o F j _ _ _ _ hx;simp at hx
 | cons v0 vs ih=>
   intro o F j h hnd hP u0 hx e
   rw[tq]at h
   obtain⟨F1,F2,rfl,h1,h2⟩:=h
   have I0:=List.nodup_cons.1 hnd
   have PB:=List.nodup_append.1 I0.2
   have QJ:g ∉ F1:=fun c=>I0.1 (by simp[c])
   have Vn:g ∉ F2:=fun c=>I0.1 (by simp[c])
   cases j with
   | zero=>
     simp at hx;subst hx
     simp only[List.take_zero,V.ns,Nat.add_zero]at e
     have SY:(g::F1).Nodup:=List.nodup_cons.2 ⟨QJ,PB.1⟩
     obtain⟨X2,hA,hN,hI⟩:=IH _ _ _ _ _ _ _ _ _ _ h1 SY (fun x hx=>hP x (by simp at hx ⊢;rcases hx with h | h <;> simp[h])) e hr hn MK (fun x hx c=>u0 x hx (by simp at c ⊢;rcases c with h | h <;> simp[h])) x7 k1
     have Us:=gX p h1 e
     have hA2:SC w' Pb vs g (o+v0.n) F2:=by
      refine Da h2 k1 (fun x hx=>x7.Mr x ?_) (fun x hx=>hP x (by simp[hx])) (fun cells hb=>?_)
      rintro rfl
      rcases Us with ⟨rfl,_⟩ | h
      exact Vn hx
      exact PB.2.2 _ h _ hx rfl
      rcases Us with ⟨rfl,OE,LP⟩ | h
      obtain⟨n7,J3,_,ML,_⟩:=x7.Nd cells hb
      exact⟨n7,J3,fun j Vl _=>ML j (.inr Z9)⟩
      have hne:g≠g':=fun c=>QJ (by rw[c];exact h)
      obtain⟨e',fr,hb,hf⟩:=hb
      exact⟨cells,⟨e',fr,(x7.Mr g hne).trans hb,hf⟩,fun _ _ _=>rfl⟩
     refine⟨X2++F2,?_,?_,?_⟩
     simp only[List.set_cons_zero]
     rw[tq]
     refine⟨X2,F2,rfl,hA,?_⟩
     rw[mC p e hn];exact hA2
     have O5:=List.nodup_cons.1 hN
     refine List.nodup_cons.2 ⟨fun c=>?_,List.nodup_append.2 ⟨O5.2,PB.2.1,fun x hx y hy c=>?_⟩⟩
     rcases List.mem_append.1 c with c | c
     exact O5.1 c
     exact Vn c
     subst c
     rcases hI x hx with h | h
     exact PB.2.2 _ h _ hy rfl
     exact u0 x h (by simp[hy])
     intro y hy
     rcases List.mem_append.1 hy with h | h
     rcases hI y h with h | h
     left;simp[h]
     right;exact h
     left;simp[h]
   | succ j=>
     simp only[List.take_succ_cons,V.ns,<- Nat.add_assoc]at e
     have Mh:vs[j]? =some x:=by simpa using hx
     obtain⟨X1,hA,hN,hI⟩:=ih (o+v0.n) F2 j h2 (List.nodup_cons.2 ⟨Vn,PB.2.1⟩) (fun x hx=>hP x (by simp at hx ⊢;rcases hx with h | h <;> simp[h])) (fun x hx c=>u0 x hx (by simp at c ⊢;rcases c with h | h <;> simp[h])) Mh e
     have Us:(g'=g/\o+v0.n<=o')\/g'∈F2:=by
      obtain⟨cs,cells,hb,LP,Qu⟩:=h2
      obtain⟨c,F',E0,hF,I8⟩:=fK vs LP Mh
      rcases gX p (v:=x) ⟨c,cells,hb,E0,fun i u hu=>by rw[Nat.add_assoc];exact Qu _ _ (I8 i u hu)⟩ e with ⟨h1,h2,h3⟩ | h1
      exact .inl ⟨h1,Z9⟩
      exact .inr (hF _ h1)
     have hA1:At w' Pb v0 g o F1:=by
      refine pe h1 k1 (fun x hx=>x7.Mr x ?_) (fun x hx=>hP x (by simp[hx])) (fun cells hb=>?_)
      rintro rfl
      rcases Us with ⟨rfl,_⟩ | h
      exact QJ hx
      exact PB.2.2 _ hx _ h rfl
      rcases Us with ⟨rfl,OE⟩ | h
      obtain⟨n7,J3,_,ML,_⟩:=x7.Nd cells hb
      exact⟨n7,J3,fun j _ hj=>ML j (.inl Z9)⟩
      have hne:g≠g':=fun c=>Vn (by rw[c];exact h)
      obtain⟨e',fr,hb,hf⟩:=hb
      exact⟨cells,⟨e',fr,(x7.Mr g hne).trans hb,hf⟩,fun _ _ _=>rfl⟩
     refine⟨F1++X1,?_,?_,?_⟩
     simp only[List.set_cons_succ]
     rw[tq]
     exact⟨F1,X1,rfl,hA1,hA⟩
     have O5:=List.nodup_cons.1 hN
     refine List.nodup_cons.2 ⟨fun c=>?_,List.nodup_append.2 ⟨PB.1,O5.2,fun x hx y hy c=>?_⟩⟩
     rcases List.mem_append.1 c with c | c
     exact QJ c
     exact O5.1 c
     subst c
     rcases hI x hy with h | h
     exact PB.2.2 _ hx _ h rfl
     exact u0 x h (by simp[hx])
     intro y hy
     rcases List.mem_append.1 hy with h | h
     left;simp[h]
     rcases hI y h with h | h
     left;simp[h]
     right;exact h
theorem yh{w w':World}{Pb:Nat->Prop}:∀ p,SS w w' Pb p
 | []=>fun v u u' g o g' o' F Mc Qy h hnd hP e hr hn MK u0 x7 k1=>by
   simp only[V.at,Option.some.injEq,Prod.mk.injEq]at e
   obtain⟨rfl,rfl,rfl⟩:=e
   obtain⟨cs,cells,hb,_,_⟩:=h
   obtain⟨n7,J3,_,_,I8⟩:=x7.Nd cells hb
   exact⟨Mc,⟨Qy,n7,J3,hr,I8⟩,List.nodup_cons.2 ⟨fun hg=>u0 g hg Z8,MK⟩,fun x hx=>.inr hx⟩
 | j::p=>fun v u u' g o g' o' F Mc Qy h hnd hP e hr hn MK u0 x7 k1=>by
   have IH:SS w w' Pb p:=yh p
   simp only[V.at]at e
   simp only[V.set]
   split at e
   rename_i vs
   split at e
   rename_i x hx
   (try simp only[hx])
   rw[yI]at h
   obtain⟨F1,h1,h2,h3⟩:=vL IH hr hn MK x7 k1 vs o F j h hnd hP u0 hx e
   exact⟨F1,yI.2 h1,h2,h3⟩
   simp at e
   rename_i sz xs g1 o1 c1
   split at e
   rename_i x hx
   (try simp only[hx])
   obtain⟨cs,cells,hb,SO,hc⟩:=h
   rcases SO with ⟨_,rfl,_⟩ | ⟨Ov,b7,UC,hcs,ha,QJ,flat,F',I2,rfl,M3,j9,hsz,MC⟩
   simp at hx
   have I0:=List.nodup_cons.1 hnd
   have hj:j<=xs.length:=by have:=(List.getElem?_eq_some_iff.1 hx).1;omega
   have e':V.at g1 (o1+V.ns (xs.take j)) x p=some (g',o',u):=by rw[dL xs j ha hj];exact e
   obtain⟨F1,⟨LR,Mb,OH,SN,Ta⟩,hN,hI⟩:=vL IH hr hn MK x7 k1 xs o1 F' j ⟨flat,I2,j9,M3,MC⟩ I0.2 (fun x hx=>hP x (by simp at hx ⊢;rcases hx with h | h <;> simp[h])) (fun x hx c=>u0 x hx (by simp at c ⊢;rcases c with h | h <;> simp[h])) hx e'
   have Od:g'=g1\/g'∈F':=by
    obtain⟨c,F2,E0,hF,I8⟩:=fK xs M3 hx
    rcases gX p (v:=x) ⟨c,I2,j9,E0,fun i u hu=>by rw[Nat.add_assoc];exact MC _ _ (I8 i u hu)⟩ e' with ⟨h1,_⟩ | h1
    exact .inl h1
    exact .inr (hF _ h1)
   have hne:g≠g':=by
    rintro rfl
    rcases Od with h | h
    exact I0.1 (by simp[h])
    exact I0.1 (by simp[h])
   obtain⟨e1,fr,hbg,hfr⟩:=hb
   have Qb:Mb.size=I2.size:=by
    by_cases Ql:g1=g'
    subst Ql
    obtain⟨c2,⟨e2,f2,l6,_⟩,J5,_⟩:=x7.Nd I2 j9
    obtain⟨e3,f3,n0,_⟩:=OH
    rw[l6]at n0
    simp only[Option.some.injEq,Obj.cells.injEq]at n0
    obtain⟨rfl,_,_⟩:=n0
    exact J5
    obtain⟨e2,f2,l6,_⟩:=j9
    obtain⟨e3,f3,n0,_⟩:=OH
    rw[x7.Mr g1 Ql,l6]at n0
    simp only[Option.some.injEq,Obj.cells.injEq]at n0
    rw[n0.1]
   refine⟨g1::F1,⟨cs,cells,⟨e1,fr,(x7.Mr g hne).trans hbg,hfr⟩,.inr ⟨Ov,b7,by simpa using UC,by simpa using hcs,?_,QJ,LR,F1,Mb,rfl,SN,OH,Z9,Ta⟩,hc⟩,?_,?_⟩
   intro y hy
   rcases List.mem_or_eq_of_mem_set hy with h | h
   exact ha y h
   rw[h,mC p e' hn];exact ha x (List.mem_of_getElem? hx)
   refine List.nodup_cons.2 ⟨fun c=>?_,hN⟩
   rcases List.mem_cons.1 c with h | h
   exact I0.1 (by simp[h])
   rcases hI g h with h | h
   exact I0.1 (by simp[h])
   exact u0 g h Z8
   intro y hy
   rcases List.mem_cons.1 hy with h | h
   left;simp[h]
   rcases hI y h with h | h
   left;simp[h]
   right;exact h
   simp at e
   simp at e
end
end Go.Abs
namespace Go.Abs
open Go Go.RowKit
section
variable {w w':World} {Pb Kb:Nat->Prop} {N:Nat} {A A':AS} {a:Act} {F:l7->List Nat} {P:Program}
mutual
theorem kI:∀ (v:V) {cs F},R w Pb v cs F->∀ c,c∈cs->c.oneCell'=true
 | .lit x,_,_,h=>by obtain⟨h1,rfl,_⟩:=h;simpa using h1
 | .agg vs,_,_,h=>by simp only[R]at h;exact qD vs h
 | .tup _,_,_,h=>by simp[R]at h
 | .gv _ _,_,_,h=>by simp[R]at h
 | .sl ..,_,_,h=>by obtain⟨_,A,c,rfl,_⟩:=h;simp[Value.oneCell']
 | .own ..,_,_,h=>by rcases h with ⟨_,_,_,A,rfl⟩ | ⟨_,_,_,rfl,_⟩ <;> simp[Value.oneCell']
 | .hd ..,_,_,h=>by obtain⟨_,_,A,rfl,_⟩:=h;simp[Value.oneCell']
 | .ow ..,_,_,h=>by obtain⟨g,o,c,h⟩:=h;rcases h with ⟨_,_,_,A,rfl⟩ | ⟨_,_,_,rfl,_⟩ <;> simp[Value.oneCell']
 | .om ..,_,_,h=>by obtain⟨_,rfl,_⟩:=h;simp[Value.oneCell']
 | .mp ..,_,_,h=>by obtain⟨_,g,rfl,_⟩:=h;simp[Value.oneCell']
 | .ptr ..,_,_,h=>by obtain⟨_,rfl⟩:=h;simp[Value.oneCell']
 | .ep _,_,_,h=>by obtain⟨_,b,o,flat,rfl,_⟩:=h;simp[Value.oneCell']
 | .c9,_,_,h=>by obtain⟨_,x,rfl,hx⟩:=h;simpa using hx
theorem qD:∀ (vs:List V) {cs F},RL w Pb vs cs F->∀ c,c∈cs->c.oneCell'=true
 | [],_,_,h=>by rw[h.1];simp
 | v::vs,_,_,h=>by
   obtain⟨c1,c2,F1,F2,rfl,_,h1,h2⟩:=h
   intro c hc
   rcases List.mem_append.1 hc with h | h
   exact kI v h1 c h
   exact qD vs h2 c h
end
def V.isVal:V->Bool | .tup _=>false | .gv _ _=>false | .c9=>false | _=>true
theorem fT{x:Value}(h:x.oneCell'=true):x.cells= #[x]:=by cases x <;> simp[Value.oneCell']at h <;> rfl
theorem zH{v:V}{x:Value}{Fv:List Nat}(h:RV w Pb v x Fv)(hv:v.isVal=true):R w Pb v x.cells.toList Fv:=by
 cases v with
 | tup _=>simp[V.isVal]at hv
 | gv _ _=>simp[V.isVal]at hv
 | c9=>simp[V.isVal]at hv
 | agg us=>obtain⟨cs,rfl,h⟩:=h;simp only[R,Value.cells];exact h
 | own sz xs g o c=>have h:R w Pb (.own sz xs g o c) [x] Fv:=h;rw[fT (kI _ h x Z8)];exact h
 | ow sz xs=>have h:R w Pb (.ow sz xs) [x] Fv:=h;rw[fT (kI _ h x Z8)];exact h
 | om es g=>have h:R w Pb (.om es g) [x] Fv:=h;rw[fT (kI _ h x Z8)];exact h
 | mp es=>have h:R w Pb (.mp es) [x] Fv:=h;rw[fT (kI _ h x Z8)];exact h
 | lit y=>have h:R w Pb (.lit y) [x] Fv:=h;rw[fT (kI _ h x Z8)];exact h
 | sl f xs=>have h:R w Pb (.sl f xs) [x] Fv:=h;rw[fT (kI _ h x Z8)];exact h
 | hd r p sz g o lo n c=>have h:R w Pb (.hd r p sz g o lo n c) [x] Fv:=h;rw[fT (kI _ h x Z8)];exact h
 | ptr r p g o=>have h:R w Pb (.ptr r p g o) [x] Fv:=h;rw[fT (kI _ h x Z8)];exact h
 | ep v=>have h:R w Pb (.ep v) [x] Fv:=h;rw[fT (kI _ h x Z8)];exact h
theorem A5.nil(w:World)(g o:Nat):A5 w w g o []:=
 ⟨rfl,rfl,rfl,rfl,fun _ _=>rfl,Shp.refl _,fun cells hb=>⟨cells,hb,rfl,fun _ _=>rfl,fun j u hu=>by simp at hu⟩⟩
theorem A5.cons{w1 w2:World}{g o:Nat}{v:Value}{vs:List Value}(h1:A5 w w1 g o [v])(h2:A5 w1 w2 g (o+1) vs):A5 w w2 g o (v::vs):=by
 refine⟨h2.os.trans h1.os,h2.tape.trans h1.tape,h2.output.trans h1.output,h2.size.trans h1.size,fun k hk=>(h2.Mr k hk).trans (h1.Mr k hk),h1.shape.trans h2.shape,fun cells hb=>?_⟩
 obtain⟨c1,j9,MA,UI,S0⟩:=h1.Nd cells hb
 obtain⟨c2,l6,J5,Of,SZ⟩:=h2.Nd c1 j9
 refine⟨c2,l6,J5.trans MA,fun j hj=>?_,fun j u hu=>?_⟩
 simp only[List.length_cons]at hj
 rw[Of j Z9,UI j Z0]
 cases j with
 | zero=>
   simp at hu;subst hu
   rw[Of _ Z9];exact S0 0 v rfl
 | succ j=>
   have:=SZ j u (by simpa using hu)
   rw[<- this];congr 1;omega
theorem gy{g o:Nat}:∀ (vs:List Value) (i:Nat) (w:World) (cells:Array Value),Blk w g cells->o+i+vs.length<=cells.size->(∀ v,v∈vs->v.oneCell'=true)->
 ∃ w',(storeCells ⟨g,o,none⟩ vs i).run P w=.ok () w'/\A5 w w' g (o+i) vs
 | [],i,w,cells,_,_,_=>⟨w,rfl,A5.nil w g _⟩
 | v::vs,i,w,cells,hb,hl,h1=>by
   obtain⟨e,fr,QN,hfr⟩:=hb
   simp only[List.length_cons]at hl
   have hlt:o+i<cells.size:=Z9
   have hc:w.cell? ⟨g,o+i,none⟩=some cells[o+i]:=by simp[World.cell?,QN,hlt]
   have hf:w.frozen? ⟨g,o+i,none⟩=false:=by
    have:=hfr (o+i) Z9
    simp only[World.frozen?,QN,Bool.and_eq_false_iff,decide_eq_false_iff_not]
    by_cases h:fr.1<=o+i
    right;exact fun c=>this ⟨h,c⟩
    left;exact h
   have x7:A5 w (w.setCell ⟨g,o+i,none⟩ v) g (o+i) [v]:=by
    refine⟨rfl,rfl,rfl,by simp[World.setCell],fun k hk=>Below.heap_setCell _ _ _ _ hk,fun k c e2 fr2 hk=>?_,fun n7 J3=>?_⟩
    by_cases XG:k=g
    subst XG
    exact⟨c.setIfInBounds (o+i) v,by simp[World.setCell,Array.getElem?_modify,hk],Z8⟩
    exact⟨c,(Below.heap_setCell _ _ _ _ XG).trans hk,rfl⟩
    obtain⟨e',Vy,J3,WB⟩:=J3
    refine⟨n7.setIfInBounds (o+i) v,⟨e',Vy,?_,by simpa using WB⟩,Z8,fun j hj=>?_,fun j u hu=>?_⟩
    simp[World.setCell,Array.getElem?_modify,J3]
    rw[Array.getElem?_setIfInBounds_ne];simp at hj;omega
    cases j with
    | zero=>
      simp at hu;subst hu
      rw[QN]at J3
      simp only[Option.some.injEq,Obj.cells.injEq]at J3
      obtain⟨rfl,_,_⟩:=J3
      simp[hlt]
    | succ j=>simp at hu
   have j9:Blk (w.setCell ⟨g,o+i,none⟩ v) g (cells.setIfInBounds (o+i) v):=
    ⟨e,fr,by simp[World.setCell,Array.getElem?_modify,QN],by simpa using hfr⟩
   obtain⟨w',hr,K1⟩:=gy (g:=g) (o:=o) vs (i+1) _ _ j9 (by rw[Array.size_setIfInBounds];omega) (fun u hu=>h1 u (by simp[hu]))
   refine⟨w',?_,x7.cons (by rw[Nat.add_assoc];exact K1)⟩
   simp only[storeCells,Sem.run_bind,dG,run_store P w _ v .plain (h1 v Z8),hc,hf,Bool.false_eq_true,if_false,Result.andThen_ok]
   exact hr
theorem HP{p:List Nat} {x u u':V} {sz j g1 o1 c1 g' o':Nat} {xs:List V} {cs Qy:List Value} {F1 Mc:List Nat} (SO:R w Pb (.own sz xs g1 o1 c1) cs F1) (hnd:F1.Nodup) (hP:∀ x,x∈F1->¬ Pb x)
 (hx:xs[j]? =some x) (e:V.at g1 (o1+j*sz) x p=some (g',o',u)) (hr:R w' Pb u' Qy Mc) (hn:u'.n=u.n) (MK:Mc.Nodup) (u0:∀ x,x∈Mc->x ∉ F1) (x7:A5 w w' g' o' Qy)
 (k1:∀ x,Pb x->w'.heap[x]? =w.heap[x]?):∃ F2,R w' Pb (.own sz (xs.set j (x.set p u')) g1 o1 c1) cs F2/\F2.Nodup/\(∀ y,y∈F2->y∈F1\/y∈Mc)/\g'∈F1:=by
 rcases SO with ⟨_,rfl,_⟩ | ⟨Ov,b7,UC,hcs,ha,QJ,flat,F',I2,rfl,M3,j9,hsz,MC⟩
 simp at hx
 have hj:j<=xs.length:=by have:=(List.getElem?_eq_some_iff.1 hx).1;omega
 have e':V.at g1 (o1+V.ns (xs.take j)) x p=some (g',o',u):=by rw[dL xs j ha hj];exact e
 obtain⟨F2,⟨LR,Mb,OH,SN,Ta⟩,hN,hI⟩:=vL (yh p) hr hn MK x7 k1 xs o1 F' j ⟨flat,I2,j9,M3,MC⟩ hnd hP u0 hx e'
 have Od:g'=g1\/g'∈F':=by
  obtain⟨c,F2,E0,hF,I8⟩:=fK xs M3 hx
  rcases gX p (v:=x) ⟨c,I2,j9,E0,fun i u hu=>by rw[Nat.add_assoc];exact MC _ _ (I8 i u hu)⟩ e' with ⟨h1,_⟩ | h1
  exact .inl h1
  exact .inr (hF _ h1)
 have Qb:Mb.size=I2.size:=by
  by_cases Ql:g1=g'
  subst Ql
  obtain⟨c2,⟨e2,f2,l6,_⟩,J5,_⟩:=x7.Nd I2 j9
  obtain⟨e3,f3,n0,_⟩:=OH
  rw[l6]at n0
  simp only[Option.some.injEq,Obj.cells.injEq]at n0
  obtain⟨rfl,_,_⟩:=n0
  exact J5
  obtain⟨e2,f2,l6,_⟩:=j9
  obtain⟨e3,f3,n0,_⟩:=OH
  rw[x7.Mr g1 Ql,l6]at n0
  simp only[Option.some.injEq,Obj.cells.injEq]at n0
  rw[n0.1]
 refine⟨g1::F2,.inr ⟨Ov,b7,by simpa using UC,by simpa using hcs,?_,QJ,LR,F2,Mb,rfl,SN,OH,Z9,Ta⟩,hN,?_,?_⟩
 intro y hy
 rcases List.mem_or_eq_of_mem_set hy with h | h
 exact ha y h
 rw[h,mC p e' hn];exact ha x (List.mem_of_getElem? hx)
 intro y hy
 rcases List.mem_cons.1 hy with h | h
 left;simp[h]
 rcases hI y h with h | h
 left;simp[h]
 right;exact h
 rcases Od with h | h <;> simp[h]
def AS.setAt(A:AS)(r:l7)(p:List Nat)(v:V):AS:=
 match r with
 | .key k=>match lk k A.h with
   | some (g,t)=>{ A with h:=(k,(g,t.set p v))::A.h }
   | none=>A
 | .slot i=>{ A with t:=(i,(A.get i).set p v)::A.t }
theorem s3.store(hs:s3 N Pb Kb A a w F) {r:l7} {p:List Nat} {g o:Nat} {QU v:V} {cs:List Value} {Fv:List Nat} (x6:A.at r p=some (g,o,QU)) (hr:R w Pb v cs Fv) (hn:v.n=QU.n)
 (hnd:Fv.Nodup) (u0:∀ r g,g∈Fv->g ∉ F r) (hfr:∀ g,g∈Fv->¬ Kb g/\g<w.heap.size) (x7:A5 w w' g o cs):∃ F',s3 N Pb Kb (A.setAt r p v) a w' F'/\¬ Kb g:=by
 have TE:∀ r g,g∈F r->¬ Pb g:=fun r g hg c=>(hs.free r g hg).1 (hs.sub g c)
 have main:∃ Fr,g∈F r/\(∀ x,Pb x->w'.heap[x]? =w.heap[x]?)/\Fr.Nodup/\(∀ y,y∈Fr->y∈F r\/y∈Fv)/\
  (match r with
   | .key k=> ∀ g0 t,lk k A.h=some (g0,t)->∃ F',Fr=g0::F'/\At w' Pb (t.set p v) g0 0 F'
   | .slot i=>RV w' Pb ((A.get i).set p v) (a.tmps.getD i undef) Fr):=by
  have kk:∀ r,g∈F r->∀ x,Pb x->w'.heap[x]? =w.heap[x]? :=fun r hg x hx=>x7.Mr x (by rintro rfl;exact TE r _ hg hx)
  have E0:∀ r,g∈F r->R w' Pb v cs Fv:=fun r hg=>fP v hr (kk r hg) (fun x hx=>x7.Mr x (by rintro rfl;exact u0 r _ hx hg)) (fun _ h=>h) (fun x hx c=>(hfr x hx).1 (hs.sub x c))
  cases r with
  | key k=>
    simp only[AS.at]at x6
    split at x6
    case h_2=>simp at x6
    rename_i g0 t hk
    obtain⟨F',e,hA⟩:=hs.root k g0 t hk
    have O4:g∈F (.key k):=by
     rw[e]
     rcases gX p hA x6 with ⟨rfl,_⟩ | h
     simp
     simp[h]
    have UA:=hs.nodup (.key k)
    rw[e]at UA
    obtain⟨F1,h1,h2,h3⟩:=yh (w:=w) (w':=w') p _ _ _ _ _ _ _ _ _ _ hA UA (fun x hx=>TE (.key k) x (by rw[e];exact hx)) x6 (E0 _ O4) hn hnd (fun x hx c=>u0 (.key k) x hx (by rw[e];exact c)) x7 (kk _ O4)
    refine⟨g0::F1,O4,kk _ O4,h2,fun y hy=>?_,fun g0' t' E2=>?_⟩
    rw[e]
    rcases List.mem_cons.1 hy with h | h
    left;simp[h]
    rcases h3 y h with h | h
    left;simp[h]
    exact .inr h
    rw[hk]at E2
    simp only[Option.some.injEq,Prod.mk.injEq]at E2
    obtain⟨rfl,rfl⟩:=E2
    exact⟨F1,rfl,h1⟩
  | slot i=>
    simp only[AS.at]at x6
    split at x6
    case h_2=>simp at x6
    rename_i sz xs g1 o1 c1 j p hi
    have hrv:=hs.slot i
    rw[hi]at hrv
    simp only[V.at]at x6
    split at x6
    case h_2=>simp at x6
    rename_i x hx
    have O4:g∈F (.slot i):=by
     rcases hrv with ⟨_,rfl,_⟩ | ⟨_,_,_,_,ha,_,flat,F',n7,hF,M3,J3,_,I8⟩
     simp at hx
     obtain⟨c,Mc,E0,Na,M5⟩:=fK xs M3 hx
     have hj:j<=xs.length:=by have:=(List.getElem?_eq_some_iff.1 hx).1;omega
     rw[dL xs j ha hj]at M5
     rw[hF]
     rcases gX p (v:=x) ⟨c,n7,J3,E0,fun i u hu=>by rw[Nat.add_assoc];exact I8 _ _ (M5 i u hu)⟩ x6 with ⟨rfl,_⟩ | h
     simp
     simp[Na _ h]
    obtain⟨F2,h1,h2,h3,_⟩:=HP (w:=w) (w':=w') hrv (hs.nodup _) (TE _) hx x6 (E0 _ O4) hn hnd (u0 _) x7 (kk _ O4)
    refine⟨F2,O4,kk _ O4,h2,h3,?_⟩
    simp only[hi,V.set,hx]
    exact h1
 obtain⟨Fr,O4,kk,MJ,S4,hm⟩:=main
 have Qm:∀ y,y∈Fr->¬ Kb y/\y<w.heap.size:=fun y hy=>by
  rcases S4 y hy with h | h
  exact hs.free r y h
  exact hfr y h
 have ML:∀ r' x,r'≠r->x∈F r'->w'.heap[x]? =w.heap[x]? :=fun r' x hne hx=>x7.Mr x (by rintro rfl;exact hs.bX r' r hne _ hx O4)
 refine⟨bY F r Fr,⟨?_,?_,fun i=>?_,fun k g0 t hk=>?_,fun r1 r2 hne y hy=>?_,fun r1=>?_,fun r1 y hy=>?_,hs.sub,fun y hy=>by rw[x7.size];exact hs.bound y hy⟩,(hs.free r g O4).1⟩
 exact hs.size
 exact hs.defers
 by_cases Q0:r=.slot i
 subst Q0
 simp only[bY,if_true,AS.setAt,AS.get,lk,Option.getD_some]
 exact hm
 simp only[bY,if_neg (Ne.symm Q0)]
 have:(A.setAt r p v).get i=A.get i:=by
  cases r with
  | key k=>simp only[AS.setAt];split <;> rfl
  | slot j=>simp only[AS.setAt,AS.get,lk];rw[if_neg (fun c=>Q0 (by rw[c]))]
 rw[this]
 exact mA _ (hs.slot i) kk (fun x hx=>ML _ x (Ne.symm Q0) hx) (fun _ h=>h) (fun x hx=>TE _ x hx)
 by_cases QZ:r=.key k
 subst QZ
 simp only[AS.setAt]at hk
 have Pj:∃ g1 t1,lk k A.h=some (g1,t1):=by
  simp only[AS.at]at x6
  split at x6
  rename_i g1 t1 h;exact⟨g1,t1,h⟩
  simp at x6
 obtain⟨g1,t1,Pj⟩:=Pj
 rw[Pj]at hk
 simp only[lk,if_true,Option.some.injEq,Prod.mk.injEq]at hk
 obtain⟨rfl,rfl⟩:=hk
 obtain⟨F',e,hA⟩:=hm _ _ Pj
 exact⟨F',by simp[bY,e],hA⟩
 have E2:lk k A.h=some (g0,t):=by
  cases r with
  | slot j=>exact hk
  | key k'=>
    simp only[AS.setAt]at hk
    split at hk
    simp only[lk]at hk;rwa [if_neg (fun c=>QZ (by rw[c]))]at hk
    exact hk
 obtain⟨F',e,hA⟩:=hs.root k g0 t E2
 refine⟨F',by simp only[bY,if_neg (Ne.symm QZ)];exact e,pe hA kk (fun x hx=>ML (.key k) x (Ne.symm QZ) (by rw[e];simp[hx])) (fun x hx=>TE (.key k) x (by rw[e];simp[hx])) (fun cells hb=>?_)⟩
 obtain⟨e',fr,hb,hf⟩:=hb
 exact⟨cells,⟨e',fr,(ML (.key k) g0 (Ne.symm QZ) (by rw[e];simp)).trans hb,hf⟩,fun _ _ _=>rfl⟩
 simp only[bY]at hy ⊢
 split at hy
 rename_i h1
 rw[if_neg (fun c=>hne (h1.trans c.symm))]
 subst h1
 rcases S4 y hy with h | h
 exact hs.bX _ _ hne y h
 exact u0 r2 y h
 rename_i h1
 split
 rename_i h2
 subst h2
 intro c
 rcases S4 y c with h | h
 exact hs.bX _ _ hne y hy h
 exact u0 r1 y h hy
 exact hs.bX r1 r2 hne y hy
 simp only[bY];split
 exact MJ
 exact hs.nodup r1
 simp only[bY]at hy
 rw[x7.size]
 split at hy
 exact Qm y hy
 exact hs.free r1 y hy
end
end Go.Abs
namespace Go.Abs
open Go Go.RowKit
mutual
def V.flat:V->Option (List Value)
 | .lit x=>if x.oneCell' then some [x] else none
 | .sl true []=>some [.slice none 0 0]
 | .agg vs=>V.uz vs
 | _=>none
def V.uz:List V->Option (List Value)
 | []=>some []
 | v::vs=>match v.flat,V.uz vs with
   | some a,some b=>some (a++b)
   | _,_=>none
end
def nh(P:Program)(T:Nat)(v:V):Prop:= ∃ inf z,P.info? T=some inf/\inf.zero=some z/\v.flat=some z.cells.toList
section
variable {w w':World} {Pb Kb:Nat->Prop} {N:Nat} {A A':AS} {a:Act} {F:l7->List Nat} {P:Program}
mutual
theorem rj:∀ (v:V) {cs},v.flat=some cs->R w Pb v cs []
 | .lit x,cs,h=>by
   simp only[V.flat]at h
   split at h
   rename_i hx;simp at h;subst h;exact⟨hx,rfl,rfl⟩
   simp at h
 | .sl true [],cs,h=>by simp[V.flat]at h;subst h;exact⟨rfl,none,0,rfl,Nat.le_refl _,fun _=>rfl,.inl rfl⟩
 | .sl true (x::xs),cs,h=>by simp[V.flat]at h
 | .sl false xs,cs,h=>by simp[V.flat]at h
 | .agg vs,cs,h=>by simp only[V.flat]at h;simp only[R];exact Ao vs h
 | .tup _,_,h=>by simp[V.flat]at h
 | .gv _ _,_,h=>by simp[V.flat]at h
 | .own ..,_,h=>by simp[V.flat]at h
 | .hd ..,_,h=>by simp[V.flat]at h
 | .ow ..,_,h=>by simp[V.flat]at h
 | .om ..,_,h=>by simp[V.flat]at h
 | .mp ..,_,h=>by simp[V.flat]at h
 | .ptr ..,_,h=>by simp[V.flat]at h
 | .ep _,_,h=>by simp[V.flat]at h
 | .c9,_,h=>by simp[V.flat]at h
theorem Ao:∀ (vs:List V) {cs},V.uz vs=some cs->RL w Pb vs cs []
 | [],cs,h=>by simp[V.uz]at h;subst h;exact⟨rfl,rfl⟩
 | v::vs,cs,h=>by
   simp only[V.uz]at h
   split at h
   rename_i a b h1 h2
   simp at h;subst h
   exact⟨a,b,[],[],rfl,rfl,rj v h1,Ao vs h2⟩
   simp at h
end
theorem alloc_old(w:World)(o:Obj)(k:Nat)(h:k<w.heap.size):(w.alloc o).heap[k]? =w.heap[k]? :=Below.heap_alloc w o k h
theorem dt(w:World)(o:Obj):(w.alloc o).heap.size=w.heap.size+1:=Z8
theorem fI(w:World)(o:Obj):(w.alloc o).heap[w.heap.size]? =some o:=heap_alloc_new w o
theorem s3.nN(hs:s3 N Pb Kb A a w F)(o:Obj):s3 N Pb Kb A a (w.alloc o) F:=
 hs.grow (fun k hk=>alloc_old w o k hk) (by rw[dt];omega) (fun _ h=>h) (fun g hg=>.inl hg) hs.sub
theorem s3.KZ(hs:s3 N Pb Kb A a w F)(o:Obj):s3 N (fun g=>Pb g\/g=w.heap.size) (fun g=>Kb g\/g=w.heap.size) A a (w.alloc o) F:=
 hs.grow (fun k hk=>alloc_old w o k hk) (by rw[dt];omega) (fun _ h=>.inl h) (fun g hg=>hg.imp id fun h=>by rw[dt];omega) (fun g hg=>hg.imp (hs.sub g) id)
theorem s3.Ay(hs:s3 N Pb Kb A a w F){k g:Nat}{v:V}{Fv:List Nat}(hA:At w Pb v g 0 Fv)(hnd:(g::Fv).Nodup)(u0:∀ r x,x∈g::Fv->x ∉ F r)(hfr:∀ x,x∈g::Fv->¬ Kb x/\x<w.heap.size):
 s3 N Pb Kb { A with h:=(k,(g,v))::A.h } a w (bY F (.key k) (g::Fv)) where
 size:=hs.size
 defers:=hs.defers
 slot:=fun i=>by simp only[bY,reduceCtorEq,if_false];exact hs.slot i
 root:=fun k' g' v' hk=>by
  simp only[lk]at hk
  by_cases e:k'=k
  subst e
  simp only[if_true,Option.some.injEq,Prod.mk.injEq]at hk
  obtain⟨rfl,rfl⟩:=hk
  exact⟨Fv,by simp[bY],hA⟩
  rw[if_neg e]at hk
  obtain⟨F',e',UW⟩:=hs.root k' g' v' hk
  exact⟨F',by simp only[bY];rw[if_neg (fun c=>e (by injection c))];exact e',UW⟩
 bX:=fun r r' hne x hx=>by
  simp only[bY]at hx ⊢
  split at hx
  rename_i h1;rw[if_neg (fun c=>hne (h1.trans c.symm))];exact u0 r' x hx
  split
  exact fun c=>u0 r x c hx
  exact hs.bX r r' hne x hx
 nodup:=fun r=>by
  simp only[bY];split
  exact hnd
  exact hs.nodup r
 free:=fun r x hx=>by
  simp only[bY]at hx
  split at hx
  exact hfr x hx
  exact hs.free r x hx
 sub:=hs.sub
 bound:=hs.bound
theorem x4.alloc(hK:∀ g,Kb g->g<w.heap.size)(o:Obj):x4 Kb w (w.alloc o):=
 ⟨rfl,rfl,rfl,by rw[dt];omega,fun g hg=>alloc_old w o g (hK g hg),Shp.of_eq fun g hg=>alloc_old w o g hg⟩
theorem s3.HH(hs:s3 N Pb Kb A a w F){d:Nat}(hd:d<N){v:V}{cs:Array Value}{e:TypeId}(hr:R w Pb v cs.toList []):
 ∃ F',s3 N Pb Kb ⟨(A.put (some d) (.ptr (.key d) [] w.heap.size 0)).t,(d,(w.heap.size,v))::A.h⟩ (a.put (some d) (.pointer (some ⟨w.heap.size,0,none⟩))) (w.alloc (.cells cs e)) F':=by
 have h1:=hs.nN (.cells cs e)
 have h2:=h1.put (d:=d) (v:=.ptr (.key d) [] w.heap.size 0) (x:=.pointer (some ⟨w.heap.size,0,none⟩)) (F':=[]) hd ⟨rfl,rfl⟩ Z8 Z8 Z8
 have hA:At (w.alloc (.cells cs e)) Pb v w.heap.size 0 []:=
  ⟨cs.toList,cs,⟨e,(0,0),fI w _,fun i _ h=>by omega⟩,fP v hr (fun g hg=>alloc_old w _ g (hs.bound g (hs.sub g hg))) Z8 (fun _ h=>h) Z8,fun j u hu=>by simpa using hu⟩
 refine⟨_,h2.Ay (k:=d) hA Z8 (fun r x hx c=>?_) (fun x hx=>?_)⟩
 simp at hx;subst hx
 simp only[bY]at c
 split at c
 simp at c
 have:=(hs.free r _ c).2;omega
 simp at hx;subst hx
 refine⟨fun c=>?_,by rw[dt];omega⟩
 have:=hs.bound _ c;omega
theorem sF{o:Oper} {K:AS->Prop} {d:Nat} {v:V} (hd:o.dst=some d) (hN:d<N)
 (y9:∀ Pb Kb a w F,s3 N Pb Kb A a w F->∃ cs e,(execOp a.eval o).run P w=.ok (.value (.pointer (some ⟨w.heap.size,0,none⟩))) (w.alloc (.cells cs e))/\R w Pb v cs.toList [])
 (hK:∀ g,K ⟨(A.put (some d) (.ptr (.key d) [] g 0)).t,(d,(g,v))::A.h⟩):D' P N o A K:=by
 intro Pb Kb a w F Q hs
 obtain⟨cs,e,hx,hr⟩:=y9 Pb Kb a w F hs
 unfold Oper.wp
 rw[hx,Oper.upon_value,hd]
 obtain⟨F',x8⟩:=hs.HH hN (e:=e) hr
 exact⟨_,Pb,Kb,F',hK _,x8,fun _ h=>h,fun _ h=>h,fun _ h=>.inl h,x4.alloc hs.bound _⟩
theorem jo(e:TypeId)(cs:Array Value):(newRow e cs).run P w=.ok ⟨w.heap.size,0,none⟩ (w.alloc (.cells cs e)):=rfl
theorem qu{o:Oper} {K:AS->Prop} {d T:Nat} {v:V} (ho:o.op=.alloc T) (hd:o.dst=some d) (hN:d<N) (hz:nh P T v)
 (hK:∀ g,K ⟨(A.put (some d) (.ptr (.key d) [] g 0)).t,(d,(g,v))::A.h⟩):D' P N o A K:=by
 refine sF hd hN (fun Pb Kb a w F hs=>?_) hK
 obtain⟨inf,z,h1,h2,h3⟩:=hz
 refine⟨z.cells,T,?_,rj v h3⟩
 simp[execOp,ho,Instr.alloc,zeroValue,typeInfo,h1,h2,newVar,jo]
theorem IG{o:Oper} {K:AS->Prop} {d T:Nat} {x:Operand} (ho:o.op=.box T x) (hd:o.dst=some d) (hN:d<N) (hv:(A.cp x).isVal=true)
 (hK:∀ g,K ⟨(A.put (some d) (.ptr (.key d) [] g 0)).t,(d,(g,A.cp x))::A.h⟩):D' P N o A K:=by
 refine sF hd hN (fun Pb Kb a w F hs=>?_) hK
 exact⟨(a.eval x).cells,T,by simp[execOp,ho,Instr.box,newVar,jo],zH (qg hs x) hv⟩
theorem wy{o:Oper} {K:AS->Prop} {T:Nat} {x y:Operand} {r:l7} {p:List Nat} {g g':Nat} {i:TI} {QU:V} (ho:o.op=.store T x y) (hd:o.dst=none) (hi:ti P T=some i)
 (hx:A.ev x=.ptr r p g g') (x6:(A.drop y).at r p=some (g,g',QU)) (hv:(A.ev y).isVal=true) (hn:(A.ev y).n=QU.n) (Oa:(A.ev y).n=i.sz) (hK:K ((A.drop y).setAt r p (A.ev y))):D' P N o A K:=by
 intro Pb Kb a w F Q hs
 obtain⟨Fx,F',hr,x8,hnd,u0,hfr,_⟩:=hs.take y
 obtain⟨_,RY⟩:=dy hs x
 rw[hx]at RY
 have hp:a.eval x=.pointer (some ⟨g,g',none⟩):=by have:=RY.2;simpa using this
 have hR:=zH hr hv
 obtain⟨_,XX,cells,hb,SO,Ov⟩:=jt x8 x6
 have Tz:=eg _ SO
 have hl:=eg _ hR
 have hle:g'+(a.eval y).cells.toList.length<=cells.size\/(a.eval y).cells.toList=[]:=by
  by_cases hne:XX=[]
  right;exact List.eq_nil_of_length_eq_zero (by rw[hl,hn,<- Tz,hne];rfl)
  left;have:=wQ Ov hne;omega
 have x7:∃ w',(storeCells ⟨g,g',none⟩ (a.eval y).cells.toList 0).run P w=.ok () w'/\A5 w w' g g' (a.eval y).cells.toList:=by
  rcases hle with h | h
  obtain⟨w',h1,h2⟩:=gy (P:=P) (g:=g) (o:=g') (a.eval y).cells.toList 0 w cells hb Z9 (kI _ hR)
  exact⟨w',h1,h2⟩
  rw[h];exact⟨w,rfl,A5.nil w g g'⟩
 obtain⟨w',y9,x7⟩:=x7
 have hx:(execOp a.eval o).run P w=.ok .skip w':=by
  have hsz:(a.eval y).cells.size=i.sz:=by rw[<- Oa,<- hl];simp
  simp only[execOp,ho,Instr.storeAt,hp,Instr.sureAddr,Sem.run_bind,Sem.run_pure,Result.andThen_ok,storeVar,cJ hi,hsz,ne_eq,not_true_eq_false,if_false,y9]
 unfold Oper.wp
 rw[hx,Oper.upon_skip,hd]
 obtain⟨F2,J5,hg⟩:=x8.store x6 hR hn hnd u0 hfr x7
 exact⟨_,Pb,Kb,F2,hK,J5,fun _ h=>h,fun _ h=>h,fun _ h=>.inl h,⟨x7.os,x7.tape,x7.output,by rw[x7.size];omega,fun k hk=>x7.Mr k (fun c=>hg (c ▸ hk)),x7.shape⟩⟩
def eJ(A:AS)(k:Nat):List (Nat×Operand)->Option (List V)
 | []=>some []
 | (i,x)::r=>if i=k then match eJ A (k+1) r with | some vs=>some (A.cp x::vs) | none=>none else none
theorem mU(hs:s3 N Pb Kb A a w F){s:Nat}:∀ (b9:List (Nat×Operand)) (k:Nat) {vs:List V},eJ A k b9=some vs->(∀ v,v∈vs->v.isVal=true/\v.n=s)->
 ∃ xs:List Value,(b9.map fun (i,x)=>(i,a.eval x))=(xs.zipIdx k).map (fun x=>(x.2,x.1))/\(∀ x,x∈xs->x.cells.size=s)/\RL w Pb vs (xs.flatMap fun v=>v.cells.toList) []/\xs.length=vs.length
 | [],k,vs,h,_=>by simp[eJ]at h;subst h;exact⟨[],rfl,Z8,⟨rfl,rfl⟩,rfl⟩
 | (i,x)::r,k,vs,h,hv=>by
   simp only[eJ]at h
   split at h
   case isFalse=>simp at h
   rename_i e
   subst e
   split at h
   case h_2=>simp at h
   rename_i U3 hr
   simp at h;subst h
   obtain⟨xs,h1,h2,h3,h4⟩:=mU hs r (i+1) hr (fun v QY=>hv v (by simp[QY]))
   have hR:=zH (qg hs x) (hv (A.cp x) Z8).1
   have hl:=eg _ hR
   refine⟨a.eval x::xs,by simp[h1],?_,⟨_,_,[],[],Z8,rfl,hR,h3⟩,by simp[h4]⟩
   intro y hy
   rcases List.mem_cons.1 hy with rfl | h
   rw[<- (hv (A.cp x) Z8).2,<- hl];simp
   exact h2 y h
theorem vQ{o:Oper} {K:AS->Prop} {T e len:Nat} {b9:Array (Nat×Operand)} {i:TI} {vs:List V} (ho:o.op=.buildSlice T len b9) (hd:cy N o.dst) (hT:tD P T=some (.sl e)) (hi:ti P e=some i)
 (hz:∃ inf z,P.info? e=some inf/\inf.zero=some z) (P8:eJ A 0 b9.toList=some vs) (hlen:vs.length=len) (OA:len*i.sz<=16777216) (G6:0<i.sz) (hv:∀ v,v∈vs->v.isVal=true/\v.n=i.sz)
 (hK:K (A.put o.dst (.sl true vs))):D' P N o A K:=by
 intro Pb Kb a w F Q hs
 obtain⟨inf,z,LK,hzero⟩:=hz
 obtain⟨xs,h1,h2,h3,h4⟩:=mU hs b9.toList 0 P8 hv
 have hu:=iA hT
 obtain⟨QV,_,G7,_,hsz,_,_⟩:=jr hi
 rw[LK]at G7
 obtain rfl:=Option.some.inj G7
 by_cases h0:len=0
 have V5:vs=[]:=List.eq_nil_of_length_eq_zero Z9
 subst V5
 subst h0
 have Wg:b9.toList=[]:=by
  cases Qh:b9.toList with
  | nil=>rfl
  | cons p ps=>rw[Qh]at h1;rw[List.eq_nil_of_length_eq_zero h4]at h1;simp at h1
 have hp:b9= #[]:=by rw[<- Array.toArray_toList (xs:=b9),Wg]
 subst hp
 have hx:(execOp a.eval o).run P w=.ok (.value (.slice (some ⟨w.heap.size,0,none⟩) 0 0)) (w.alloc (.cells #[] e)):=by
  simp[execOp,ho,Instr.buildSlice,aF hu,cJ hi,Instr.fill,jo]
  congr 2;apply Array.ext';simp
 unfold Oper.wp
 rw[hx,Oper.upon_value]
 obtain⟨F',x8⟩:=(hs.nN (.cells #[] e)).pS (d:=o.dst) (v:=.sl true []) (x:=.slice (some ⟨w.heap.size,0,none⟩) 0 0) hd ⟨rfl,_,0,rfl,Nat.le_refl _,fun _=>rfl,.inl rfl⟩
 exact⟨_,Pb,Kb,F',hK,x8,fun _ h=>h,fun _ h=>h,fun _ h=>.inl h,x4.alloc hs.bound _⟩
 have hfl:=Great.fill_whole G6 xs ((Array.range (len*i.sz)).map (z.cells[· % z.cells.size]!)) h2 (by simp[h4,hlen])
 have hmul: ¬ len*inf.size=0:=by rw[hsz];exact Nat.mul_ne_zero h0 Z9
 have hb:=run_buildSlice (P:=P) w T e len (b9.map fun (i,x)=>(i,a.eval x)) _ inf z hu LK hzero (by rw[hsz];omega) hmul (by rw[Array.toList_map,h1,hsz];exact hfl)
 have hx:(execOp a.eval o).run P w=.ok (.value (.slice (some ⟨w.heap.size,0,none⟩) len len)) (w.alloc (.cells (xs.flatMap fun v=>v.cells.toList).toArray e)):=by
  simp only[execOp,ho,Sem.run_bind,hb,Result.andThen_ok,Sem.run_pure]
 unfold Oper.wp
 rw[hx,Oper.upon_value]
 have MA:=hs.KZ (.cells (xs.flatMap fun v=>v.cells.toList).toArray e)
 have M3:=dT (w':=w.alloc (.cells (xs.flatMap fun v=>v.cells.toList).toArray e)) (Pb':=fun g=>Pb g\/g=w.heap.size) vs h3 (fun g hg=>alloc_old w _ g (hs.bound g (hs.sub g hg))) Z8 (fun g hg=>.inl hg) Z8
 obtain⟨F',x8⟩:=MA.pS (d:=o.dst) (v:=.sl true vs) (x:=.slice (some ⟨w.heap.size,0,none⟩) len len) hd ⟨rfl,some ⟨w.heap.size,0,none⟩,len,by rw[hlen],Z9,fun _=>hlen.symm,
  .inr ⟨w.heap.size,0,i.sz,_,rfl,.inr rfl,G6,fun v QY=>(hv v QY).2,M3,fun j u hu=>by
   rw[dM (cells:=(xs.flatMap fun v=>v.cells.toList).toArray) ⟨e,(0,0),fI w _,fun i _ h=>by omega⟩];simpa using hu⟩⟩
 exact⟨_,_,_,F',hK,x8,fun _ h=>.inl h,fun _ h=>.inl h,fun g hg=>by
  rcases hg with h | h
  exact .inl h
  right;intro c;have:=hs.bound g c;omega,x4.alloc hs.bound _⟩
end
end Go.Abs
namespace Go.Abs
open Go Go.RowKit
section
variable {w w':World} {Pb Kb:Nat->Prop} {N:Nat} {A A':AS} {a:Act} {F:l7->List Nat} {P:Program}
def mD(P:Program):List (Nat×Nat)->Option (List (Nat×Nat))
 | []=>some []
 | (off,T)::r=>match ti P T,mD P r with
   | some i,some ps=>some ((off,i.sz)::ps)
   | _,_=>none
def pU(places:List (Nat×Nat)):List V->List (Nat×V)->Option (Prop×List V)
 | zs,[]=>some (True,zs)
 | zs,(i,v)::r=>match places[i]?,zs[i]? with
   | some (off,sz),some z=>match pU places (zs.set i v) r with
     | some (C,W3)=>some (V.ns (zs.take i)=off/\v.n=sz/\z.n=sz/\v.isVal=true/\C,W3)
     | none=>none
   | _,_=>none
def qA(P:Program)(A:AS)(T:Nat)(zs:List V)(b9:List (Nat×Operand)):Option (Prop×V):=
 match tD P T with
 | some (.st fs)=>match mD P fs with
   | some places=>match pU places zs (b9.map fun (i,x)=>(i,A.cp x)) with
     | some (C,vs)=>some (C,.agg vs)
     | none=>none
   | none=>none
 | _=>none
theorem wK:∀ (zs:List V) {cs:List Value} {i:Nat} {z v:V} {c:List Value},RL w Pb zs cs []->zs[i]? =some z->R w Pb v c []->c.length=z.n->
 RL w Pb (zs.set i v) (cs.take (V.ns (zs.take i))++c++cs.drop (V.ns (zs.take i)+z.n)) []
 | [],_,_,_,_,_,_,h,_,_=>by simp at h
 | z0::zs,cs,0,z,v,c,h,hi,hr,hn=>by
   obtain⟨c1,c2,F1,F2,rfl,hF,h1,h2⟩:=h
   have Na:=hF.symm;simp at Na;obtain⟨rfl,rfl⟩:=Na
   simp at hi;subst hi
   have hl:=eg _ h1
   simp only[List.take_zero,V.ns,Nat.zero_add,List.nil_append,List.set_cons_zero]
   rw[<- hl,List.drop_left]
   exact⟨c,c2,[],[],rfl,rfl,hr,h2⟩
 | z0::zs,cs,i+1,z,v,c,h,hi,hr,hn=>by
   obtain⟨c1,c2,F1,F2,rfl,hF,h1,h2⟩:=h
   have Na:=hF.symm;simp at Na;obtain⟨rfl,rfl⟩:=Na
   have hl:=eg _ h1
   have ih:=wK zs h2 (by simpa using hi) hr hn
   simp only[List.take_succ_cons,V.ns,List.set_cons_succ]
   refine⟨c1,_,[],[],?_,rfl,h1,ih⟩
   rw[<- hl,List.take_append,List.drop_append]
   have e1:(List.take (c1.length+V.ns (zs.take i)) c1)=c1:=List.take_of_length_le Z9
   have e2:(List.drop (c1.length+V.ns (zs.take i)+z.n) c1)=[]:=List.drop_eq_nil_of_le Z9
   rw[e1,e2]
   have e3:c1.length+V.ns (zs.take i)-c1.length=V.ns (zs.take i):=Z9
   have e4:c1.length+V.ns (zs.take i)+z.n-c1.length=V.ns (zs.take i)+z.n:=Z9
   rw[e3,e4];simp
theorem BN(cells:Array Value) (off:Nat) (c:List Value) (h:off+c.length<=cells.size) {r:Array Value} (hs:r.size=cells.size)
 (hk:∀ k,r[k]? =if off+0<=k/\k<off+0+c.length/\k<cells.size then c[k-(off+0)]? else cells[k]?):r.toList=cells.toList.take off++c++cells.toList.drop (off+c.length):=by
 apply List.ext_getElem?
 intro k
 rw[Array.getElem?_toList,hk k]
 simp only[Nat.add_zero]
 by_cases h1:k<off
 rw[if_neg Z9,List.append_assoc,List.getElem?_append_left Z0,List.getElem?_take,if_pos h1];simp
 by_cases h2:k<off+c.length
 rw[if_pos ⟨Z9,h2,Z9⟩,List.append_assoc,List.getElem?_append_right Z0,List.getElem?_append_left Z0]
 congr 1;simp;omega
 rw[if_neg Z9,List.getElem?_append_right Z0,List.getElem?_drop]
 have:off+c.length+(k-(cells.toList.take off++c).length)=k:=Z0
 rw[this];simp
theorem sA(hs:s3 N Pb Kb A a w F){places:List (Nat×Nat)}:∀ (b9:List (Nat×Operand)) {zs:List V} {C:Prop} {vs:List V} {cells:Array Value},pU places zs (b9.map fun (i,x)=>(i,A.cp x))=some (C,vs)->C->
 RL w Pb zs cells.toList []->∃ n7,Instr.fill (places.toArray[·]?) cells (b9.map fun (i,x)=>(i,a.eval x))=some n7/\RL w Pb vs n7.toList []
 | [],zs,C,vs,cells,h,_,hr=>by simp[pU]at h;obtain⟨_,rfl⟩:=h;exact⟨cells,rfl,hr⟩
 | (i,x)::r,zs,C,vs,cells,h,hC,hr=>by
   simp only[List.map_cons,pU]at h
   split at h
   case h_2=>simp at h
   rename_i off sz z hp hz
   split at h
   case h_2=>simp at h
   rename_i C' W3 hf
   simp only[Option.some.injEq,Prod.mk.injEq]at h
   obtain⟨rfl,rfl⟩:=h
   obtain⟨h1,h2,h3,h4,h5⟩:=hC
   have hR:=zH (qg hs x) h4
   have hl:=eg _ hR
   obtain⟨cz,F',Tv,_,XL⟩:=fK zs hr hz
   have XD:=eg _ Tv
   have hle:off+(a.eval x).cells.toList.length<=cells.size:=by
    by_cases hne:cz=[]
    have:sz=0:=by rw[<- h3,<- XD,hne];rfl
    have hns:V.ns (zs.take i)<=cells.size:=by
     have Tz:=iE _ hr
     have:V.ns (zs.take i)<=V.ns zs:=by
      clear hf hr XL Tv hp Tz h1
      induction zs generalizing i with
      | nil=>simp[V.ns]
      | cons z0 zs ih=>cases i with
        | zero=>simp[V.ns]
        | succ i=>simp only[List.take_succ_cons,V.ns];have:=ih (i:=i) (by simpa using hz);omega
     simpa[<- Tz] using this
    rw[hl,h2];omega
    have:=wQ (cells:=cells) (o:=off) (l:=cz) (fun j u hu=>by rw[<- h1];have:=XL j u hu;simpa using this) hne
    omega
   obtain⟨g1,g2⟩:=Great.foldl_set off (a.eval x).cells.toList 0 cells
   have Wd:=BN cells off (a.eval x).cells.toList hle g1 g2
   have LP:=wK zs hr hz hR (by rw[hl,h2,h3])
   rw[h1,h3,<- h2,<- hl,<- Wd]at LP
   obtain⟨n7,Qq,E0⟩:=sA hs r hf h5 LP
   refine⟨n7,?_,E0⟩
   simp only[List.map_cons]
   unfold Instr.fill
   have Uu:places.toArray[i]? =some (off,sz):=by simpa using hp
   simp only[Uu]
   rw[if_neg (by
    have e1:(a.eval x).cells.size=sz:=by rw[<- h2,<- hl];simp
    simp only[e1,ne_eq,not_true_eq_false,decide_false,Bool.false_or,decide_eq_true_eq]
    rw[<- e1];simpa using hle)]
   rw[<- Qq];congr 1
   rw[<- Array.foldl_toList,Array.toList_zipIdx]
theorem Dk{fl:Array Field}{fs:List (Nat×Nat)}(h:fl.toList.map (fun f=>(f.offset,f.type))=fs){places:List (Nat×Nat)}(hp:mD P fs=some places):
 fl.toList.mapM (fun f=>(P.info? f.type).map fun i=>(f.offset,i.size))=some places:=by
 subst h
 generalize fl.toList=l at hp
 induction l generalizing places with
 | nil=>simp[mD]at hp;subst hp;rfl
 | cons f l ih=>
   simp only[List.map_cons,mD]at hp
   split at hp
   case h_2=>simp at hp
   rename_i i ps hi hps
   simp at hp;subst hp
   obtain⟨inf,_,h1,_,h3,_,_⟩:=jr hi
   simp[List.mapM_cons,h1,ih hps,h3]
theorem Bm(hs:s3 N Pb Kb A a w F){T:Nat}{b9:Array (Nat×Operand)}{zs:List V}{C:Prop}{v:V}(hz:nh P T (.agg zs))(h:qA P A T zs b9.toList=some (C,v))(hC:C):
 ∃ y,(Instr.build T (b9.map fun (i,x)=>(i,a.eval x))).run P w=.ok y w/\RV w Pb v y []:=by
 unfold qA at h
 split at h
 case h_2=>simp at h
 rename_i fs hT
 split at h
 case h_2=>simp at h
 rename_i places hp
 split at h
 case h_2=>simp at h
 rename_i C' vs hf
 simp only[Option.some.injEq,Prod.mk.injEq]at h
 obtain⟨rfl,rfl⟩:=h
 obtain⟨fl,hu,hfl⟩:=Cf hT
 obtain⟨inf,z,h1,h2,h3⟩:=hz
 have hr:=rj (w:=w) (Pb:=Pb) _ h3
 simp only[R]at hr
 obtain⟨n7,Qq,E0⟩:=sA hs b9.toList hf hC hr
 refine⟨.agg n7,run_build w T _ n7 ?_,n7,rfl,E0⟩
 unfold Program.built
 simp only[h1,hu,h2,Dk hfl hp]
 rw[Array.toList_map];exact Qq
theorem xa{o:Oper} {K:AS->Prop} {T:Nat} {b9:Array (Nat×Operand)} {zs:List V} {C:Prop} {v:V} (ho:o.op=.build T b9) (hd:cy N o.dst) (hz:nh P T (.agg zs))
 (h:qA P A T zs b9.toList=some (C,v)) (hC:C) (hK:K (A.put o.dst v)):D' P N o A K:=
 iB hd hK fun Pb Kb a w F hs=>by
  obtain⟨y,hy,hr⟩:=Bm hs hz h hC
  exact⟨y,by simp only[execOp,ho,Sem.run_bind,hy,Result.andThen_ok,Sem.run_pure],hr⟩
theorem s3.freeze(hs:s3 N Pb Kb A a w F){i:Nat}(hi:(A.get i).cW=true)(Wy:i<N):∃ Pb' C9 F',s3 N Pb' C9 (A.put (some i) (A.get i).er) a w F'/\(∀ g,Pb g->Pb' g)/\(∀ g,Kb g->C9 g)/\(∀ g,Pb' g->Pb g\/¬ Kb g):=by
 refine⟨fun g=>Pb g\/g∈F (.slot i),fun g=>Kb g\/g∈F (.slot i),bY F (.slot i) [],?_,fun g h=>.inl h,fun g h=>.inl h,fun g h=>h.imp id fun h=>(hs.free _ g h).1⟩
 have SX:∀ r,r≠.slot i->∀ g,g∈F r->¬ (Pb g\/g∈F (.slot i))/\¬ (Kb g\/g∈F (.slot i)):=fun r hr g hg=>by
  refine⟨fun c=>?_,fun c=>?_⟩ <;> rcases c with c | c
  exact(hs.free r g hg).1 (hs.sub g c)
  exact hs.bX r _ hr g hg c
  exact(hs.free r g hg).1 c
  exact hs.bX r _ hr g hg c
 refine⟨hs.size,hs.defers,fun j=>?_,fun k g v hk=>?_,fun r r' hne g hg=>?_,fun r=>?_,fun r g hg=>?_,fun g h=>h.imp (hs.sub g) id,fun g h=>?_⟩
 rw[AS.aC]
 by_cases e:j=i
 subst e
 simp only[if_true,bY]
 exact Co (hs.slot j) (fun g h=>.inl h) (fun g h=>.inr h)
 have hne:l7.slot j≠l7.slot i:=fun c=>e (by injection c)
 simp only[if_neg e,bY,if_neg hne]
 exact mA _ (hs.slot j) (fun _ _=>rfl) (fun _ _=>rfl) (fun g h=>.inl h) (fun g hg=>(SX _ hne g hg).1)
 obtain⟨F',e,hA⟩:=hs.root k g v hk
 refine⟨F',by simpa[bY] using e,?_⟩
 obtain⟨cs,cells,hb,hr,hc⟩:=hA
 exact⟨cs,cells,hb,fP _ hr (fun _ _=>rfl) (fun _ _=>rfl) (fun g h=>.inl h) (fun x hx=>(SX (.key k) Z8 x (by rw[e];simp[hx])).1),hc⟩
 simp only[bY]at hg ⊢
 split at hg
 simp at hg
 split
 simp
 exact hs.bX r r' hne g hg
 simp only[bY];split
 exact List.nodup_nil
 exact hs.nodup r
 simp only[bY]at hg
 split at hg
 simp at hg
 rename_i hne
 exact⟨(SX r hne g hg).2,(hs.free r g hg).2⟩
 rcases h with h | h
 exact hs.bound g h
 exact(hs.free _ g h).2
end
end Go.Abs
namespace Go.Abs
open Go Go.RowKit
section
variable {w w':World} {Pb Kb:Nat->Prop} {N:Nat} {A A':AS} {a:Act} {F:l7->List Nat} {P:Program}
theorem s3.Mr(hs:s3 N Pb Kb A a w F){g:Nat}(hg:∀ r,g ∉ F r)(hK: ¬ Kb g)(hf:∀ k,k≠g->w'.heap[k]? =w.heap[k]?)(hsz:w'.heap.size=w.heap.size):s3 N Pb Kb A a w' F where
 size:=hs.size
 defers:=hs.defers
 slot:=fun i=>mA _ (hs.slot i) (fun x hx=>hf x (by rintro rfl;exact hK (hs.sub _ hx))) (fun x hx=>hf x (by rintro rfl;exact hg _ hx)) (fun _ h=>h) (fun x hx c=>(hs.free _ x hx).1 (hs.sub x c))
 root:=fun k g0 v hk=>by
  obtain⟨F',e,hA⟩:=hs.root k g0 v hk
  have S6:g0≠g:=by rintro rfl;exact hg (.key k) (by rw[e];simp)
  refine⟨F',e,pe hA (fun x hx=>hf x (by rintro rfl;exact hK (hs.sub _ hx))) (fun x hx=>hf x (by rintro rfl;exact hg (.key k) (by rw[e];simp[hx]))) (fun x hx c=>(hs.free (.key k) x (by rw[e];simp[hx])).1 (hs.sub x c)) (fun cells hb=>?_)⟩
  obtain⟨e',fr,hb,hfr⟩:=hb
  exact⟨cells,⟨e',fr,(hf g0 S6).trans hb,hfr⟩,fun _ _ _=>rfl⟩
 bX:=hs.bX
 nodup:=hs.nodup
 free:=fun r x hx=>by rw[hsz];exact hs.free r x hx
 sub:=hs.sub
 bound:=fun x hx=>by rw[hsz];exact hs.bound x hx
theorem iL:∀ (xs ys:List V) {c1 c2:List Value} {F1 F2:List Nat},RL w Pb xs c1 F1->RL w Pb ys c2 F2->RL w Pb (xs++ys) (c1++c2) (F1++F2)
 | [],ys,c1,c2,F1,F2,h1,h2=>by obtain⟨rfl,rfl⟩:=h1;exact h2
 | x::xs,ys,c1,c2,F1,F2,h1,h2=>by
   obtain⟨d1,d2,G1,G2,rfl,rfl,k1,k2⟩:=h1
   exact⟨d1,d2++c2,G1,G2++F2,Z8,Z8,k1,iL xs ys k2 h2⟩
theorem ov{sz:Nat}(xs:List V)(h:aL sz xs):V.ns xs=xs.length*sz:=by
 have:=dL xs xs.length h (Nat.le_refl _);simpa using this
theorem ya{full:Bool}{ys:List V}{x:Value}(h:R w Pb (.sl full ys) [x] []){s:Nat}(hs:aL s ys):∃ (B:Option Addr) (c:Nat) (flat:List Value),x=.slice B ys.length c/\RL w Pb ys flat []/\
 (∀ w1:World,(∀ ad,w1.cell? ad=w.cell? ad)->(Builtin.firstCells s ys.length x).run P w1=.ok flat.toArray w1)/\flat.length=ys.length*s:=by
 obtain⟨_,A,c,hx,hl,_,hz⟩:=h
 have hx:x=.slice A ys.length c:=by simpa using hx
 subst hx
 rcases hz with rfl | ⟨b,o,sz,flat,rfl,hb,hsz,hN,hr,hc⟩
 refine⟨A,c,[],rfl,⟨rfl,rfl⟩,fun w1 _=>?_,Z8⟩
 cases A with
 | none=>rfl
 | some ad=>simp only[Builtin.firstCells,List.length_nil,Nat.zero_mul];rfl
 have hl2:=iE _ hr
 by_cases he:ys=[]
 subst he
 obtain⟨rfl,_⟩:=hr
 exact⟨_,c,[],rfl,⟨rfl,rfl⟩,fun w1 _=>by simp only[Builtin.firstCells,List.length_nil,Nat.zero_mul];rfl,Z8⟩
 rw[ov ys hs]at hl2
 exact⟨_,c,flat,rfl,hr,fun w1 h1=>by simp only[Builtin.firstCells];rw[<- hl2];exact run_loadCells_list w1 _ flat (fun j v hv=>by rw[dG,h1];exact hc j v hv),hl2⟩
theorem wo{sz g o c:Nat}{xs:List V}{x:Value}{Fx:List Nat}(h:R w Pb (.own sz xs g o c) [x] Fx):∃ (B:Option Addr) (flat:List Value) (F':List Nat),x=.slice B xs.length c/\RL w Pb xs flat F'/\
 (∀ w1:World,(∀ ad,w1.cell? ad=w.cell? ad)->(Builtin.firstCells sz xs.length x).run P w1=.ok flat.toArray w1)/\(0<c->B=some ⟨g,o,none⟩/\aL sz xs/\0<sz/\Fx=g::F'/\flat.length=xs.length*sz)/\(c=0->xs=[]/\Fx=[]/\F'=[]/\flat=[])/\xs.length<=c:=by
 rcases h with ⟨rfl,rfl,rfl,A,hx⟩ | ⟨h1,h2,h3,hx,hN,_,flat,F',cells,rfl,hr,hb,hsz,hc⟩
 have hx:x=.slice A 0 0:=by simpa using hx
 subst hx
 refine⟨A,[],[],rfl,⟨rfl,rfl⟩,fun w1 _=>?_,fun h=>absurd h Z9,fun _=>⟨rfl,rfl,rfl,rfl⟩,Nat.le_refl _⟩
 cases A with
 | none=>rfl
 | some ad=>simp only[Builtin.firstCells,List.length_nil,Nat.zero_mul];rfl
 have hx:x=.slice (some ⟨g,o,none⟩) xs.length c:=by simpa using hx
 subst hx
 have hl:=iE _ hr
 rw[ov xs hN]at hl
 refine⟨_,flat,F',rfl,hr,fun w1 h1=>?_,fun _=>⟨rfl,hN,h2,rfl,hl⟩,fun h=>absurd h Z9,h3⟩
 simp only[Builtin.firstCells]
 rw[<- hl]
 exact run_loadCells_list w1 _ flat (fun j v hv=>by rw[dG,h1,dM hb];exact hc j v hv)
theorem qn{e:Nat}{inf:TypeInfo}{z:Value}(h1:P.info? e=some inf)(h2:inf.zero=some z):(zeroValue e).run P w=.ok z w:=by simp[zeroValue,typeInfo,h1,h2]
theorem sw{T T2 e e2:Nat} {t:TI} (hT:tD P T=some (.sl e)) (Rb:tD P T2=some (.sl e2)) (ht:ti P e=some t) (hz:∃ inf z,P.info? e=some inf/\inf.zero=some z/\z.cells.size=t.sz) (hsz:0<t.sz) (QM:0<t.K6)
 (hs:s3 N Pb Kb A a w F) {xs ys:List V} {g o c:Nat} {s x:Value} {Fx:List Nat} {B2:Option Addr} {c2:Nat} {B5:List Value} (H9:R w Pb (.own t.sz xs g o c) [s] Fx) (u0:∀ r g,g∈Fx->g ∉ F r) (hfr:∀ g,g∈Fx->¬ Kb g/\g<w.heap.size) {Fy:List Nat} (hnd:(Fx++Fy).Nodup) (Xf:∀ r g,g∈Fy->g ∉ F r) (Ug:∀ g,g∈Fy->¬ Kb g/\g<w.heap.size)
 (H2:x=.slice B2 ys.length c2) (LP:RL w Pb ys B5 Fy) (MQ:∀ w1:World,(∀ ad,w1.cell? ad=w.cell? ad)->(Builtin.firstCells t.sz ys.length x).run P w1=.ok B5.toArray w1) (hl2:B5.length=ys.length*t.sz) (hN:aL t.sz ys) (hbig:(xs.length+ys.length)*t.K6<=140737488355328):
 ∃ v w' F2 g' o' c',(Builtin.append_ #[T,T2] T #[s,x]).run P w=.ok v w'/\s3 N Pb Kb A a w' F/\R w' Pb (.own t.sz (xs++ys) g' o' c') [v] F2/\F2.Nodup/\(∀ r g,g∈F2->g ∉ F r)/\(∀ g,g∈F2->¬ Kb g/\g<w'.heap.size)/\x4 Kb w w':=by
 have hu:=iA hT
 have M9:=iA Rb
 obtain⟨inf,z,LK,hzero,VU⟩:=hz
 obtain⟨QV,_,G7,_,Qb,Qv,_⟩:=jr ht
 rw[LK]at G7
 obtain rfl:=Option.some.inj G7
 obtain⟨B,flat,F',rfl,hr,Nz,G6,P3,hle⟩:=wo (P:=P) H9
 subst H2
 have Oc:(Builtin.lenOf (.slice B2 ys.length c2)).run P w=.ok ys.length w:=rfl
 have TE:∀ r g,g∈F r->¬ Pb g:=fun r g hg c=>(hs.free r g hg).1 (hs.sub g c)
 have Uz:xs.length+ys.length<=140737488355328:=Nat.le_trans (Nat.le_mul_of_pos_right _ QM) hbig
 unfold Builtin.append_
 simp only[List.getElem?_toArray,List.getElem?_cons_zero,List.getElem?_cons_succ,Sem.run_bind,aF hu,Result.andThen_ok]
 simp only[cJ ht,Result.andThen_ok]
 simp only[aF M9,Result.andThen_ok,Sem.run_pure]
 rw[if_neg (show ¬ (false=true) by decide)]
 rw[Sem.run_bind,Oc]
 simp only[Result.andThen_ok]
 by_cases N':xs.length+ys.length<=c
 ·
  rw[if_pos N']
  simp only[Sem.run_bind,Bool.not_false,if_true,MQ w (fun _=>rfl),Result.andThen_ok]
  by_cases hc:c=0
  obtain⟨rfl,rfl,rfl,rfl⟩:=P3 hc
  have x9:ys=[]:=List.eq_nil_of_length_eq_zero Z9
  subst x9
  have Of:B5=[]:=List.eq_nil_of_length_eq_zero (by simpa using hl2)
  subst Of
  refine⟨.slice B 0 c,w,[],g,o,0,?_,hs,.inl ⟨rfl,rfl,rfl,B,by rw[hc]⟩,List.nodup_nil,Z8,Z8,x4.refl _ _⟩
  cases B with
  | none=>simp
  | some ad=>simp[storeCells]
  obtain⟨rfl,Tc,_,rfl,hl1⟩:=G6 Z9
  rcases H9 with ⟨h0,_⟩ | ⟨_,_,_,_,_,Tb,LR,Mc,cells,TF,E0,hb,SK,r8⟩
  exact absurd h0 hc
  simp only[List.cons.injEq,true_and]at TF
  subst TF
  have hle':o+xs.length*t.sz+B5.length<=cells.size:=by
   rw[hl2]
   have:(xs.length+ys.length)*t.sz<=c*t.sz:=Nat.mul_le_mul_right _ N'
   rw[Nat.add_mul]at this;omega
  obtain⟨w',x7,K1⟩:=gy (P:=P) (g:=g) (o:=o+xs.length*t.sz) B5 0 w cells hb Z9 (qD _ LP)
  have hg:=hfr g Z8
  have x8:s3 N Pb Kb A a w' F:=hs.Mr (fun r=>u0 r g Z8) hg.1 K1.Mr K1.size
  have Vi:∀ k,Pb k->w'.heap[k]? =w.heap[k]? :=fun k hk=>K1.Mr k (by rintro rfl;exact Tb hk)
  have XI:g ∉ F'++Fy:=(List.nodup_cons.1 hnd).1
  have O4:g ∉ F':=fun c=>XI (by simp[c])
  have hgY:g ∉ Fy:=fun c=>XI (by simp[c])
  have hkF:∀ k,k∈F'->w'.heap[k]? =w.heap[k]? :=fun k hk=>K1.Mr k (by rintro rfl;exact O4 hk)
  obtain⟨n7,J3,J5,ML,Qi⟩:=K1.Nd cells hb
  have Qd:=dT (w':=w') (Pb':=Pb) xs hr Vi hkF (fun _ h=>h) (fun k hk c=>(hfr k (by simp[hk])).1 (hs.sub k c))
  have Qc:=dT (w':=w') (Pb':=Pb) ys LP Vi (fun k hk=>K1.Mr k (by rintro rfl;exact hgY hk)) (fun _ h=>h) (fun k hk c=>(Ug k hk).1 (hs.sub k c))
  have Qo:LR=flat\/True:=.inr trivial
  have XH:∀ k,k∈g::(F'++Fy)->(¬ Kb k/\k<w.heap.size)/\∀ r,k ∉ F r:=fun k hk=>by
   rcases List.mem_append.1 (show k∈(g::F')++Fy from hk) with h | h
   exact⟨hfr k h,fun r=>u0 r k h⟩
   exact⟨Ug k h,fun r=>Xf r k h⟩
  refine⟨.slice (some ⟨g,o,none⟩) (xs.length+ys.length) c,w',g::(F'++Fy),g,o,c,?_,x8,.inr ⟨Z9,hsz,Z0,Z8,?_,Tb,flat++B5,F'++Fy,n7,rfl,iL xs ys Qd Qc,J3,Z9,?_⟩,hnd,fun r k hk=>(XH k hk).2 r,fun k hk=>by rw[K1.size];exact(XH k hk).1,⟨K1.os,K1.tape,K1.output,by rw[K1.size];omega,fun k hk=>K1.Mr k (by rintro rfl;exact hg.1 hk),K1.shape⟩⟩
  have e1:(Array.toList B5.toArray)=B5:=Z8
  simp only[dG,Sem.run_bind]
  rw[x7]
  simp only[Result.andThen_ok,Sem.run_pure]
  intro v hv
  rcases List.mem_append.1 hv with h | h
  exact Tc v h
  exact hN v h
  intro j u hu
  by_cases hj:j<flat.length
  rw[List.getElem?_append_left hj]at hu
  rw[ML _ Z9]
  have h1:(loadCells ⟨g,o,none⟩ LR.length).run P w=.ok LR.toArray w:=run_loadCells_list w _ LR (fun j v hv=>by rw[dG,dM hb];exact r8 j v hv)
  have Wv:LR.length=xs.length*t.sz:=by rw[iE _ E0,ov xs Tc]
  have h2:=Nz w (fun _=>rfl)
  simp only[Builtin.firstCells]at h2
  rw[<- Wv,h1]at h2
  simp only[Result.ok.injEq,and_true]at h2
  have:LR=flat:=by have:=congrArg Array.toList h2;simpa using this
  subst this
  exact r8 j u hu
  rw[List.getElem?_append_right Z9]at hu
  have:=Qi _ u hu
  rw[<- this];congr 1;omega
 ·
  rw[if_neg N']
  have hlt:c<xs.length+ys.length:=Z9
  have Wo:IntKind.i64.max=9223372036854775807:=Z6
  have Q4: ¬ (((xs.length+ys.length:Nat):Int)>IntKind.i64.max/\((false=true)\/inf.bytes=0)):=by
   rw[Wo];rintro⟨h1,_⟩;omega
  have hcap: ¬ Builtin.nextslicecap (xs.length+ys.length) c*inf.bytes>281474976710656:=by
   have:=growslice_fits (bytes:=t.K6) hlt hbig
   rw[Qv];omega
  have Tu:∀ w,(typeInfo e).run P w=.ok inf w:=fun w=>by simp[typeInfo,LK]
  obtain⟨nc,Ty,UK⟩:∃ nc,xs.length+ys.length<=nc/\(choose (.appendCap (xs.length+ys.length) c e)).run P w=.ok nc { w with drawn:=w.drawn+1 }:=by
   exact⟨(Question.appendCap (xs.length+ys.length) c e).cut (w.tape w.drawn (Question.appendCap (xs.length+ys.length) c e)),by simp only[Question.cut];exact Nat.le_add_right _ _,by rw[run_choose,if_neg (by simp[Question.forced])]⟩
  obtain⟨w1,Nw⟩:∃ w1:World,w1={ w with drawn:=w.drawn+1 }:=⟨_,rfl⟩
  rw[<- Nw]at UK
  have H6:w1.heap=w.heap:=by rw[Nw]
  have MC:∀ ad,w1.cell? ad=w.cell? ad:=fun ad=>by rw[Nw];rfl
  have UI:=Nz w1 MC
  have Of:=MQ w1 MC
  have VT:=fun w=>qn (w:=w) LK hzero
  obtain⟨cells,hcells⟩:∃ cells:Array Value,cells=flat.toArray++B5.toArray++Builtin.zeroCells z.cells (nc-(xs.length+ys.length)):=⟨_,rfl⟩
  have Wu:flat.length=xs.length*t.sz:=by
   by_cases hc:c=0
   obtain⟨rfl,_,_,rfl⟩:=P3 hc;simp
   exact(G6 Z9).2.2.2.2
  have Q8:cells.size=nc*t.sz:=by
   rw[hcells]
   simp only[Array.size_append,List.size_toArray,Builtin.zeroCells,Array.size_map,Array.size_range,VU,Wu,hl2]
   rw[<- Nat.add_mul,<- Nat.add_mul];congr 1;omega
  have WD:s3 N Pb Kb A a w1 F:=hs.grow (fun k _=>by rw[H6]) (by rw[H6];exact Nat.le_refl _) (fun _ h=>h) (fun g h=>.inl h) hs.sub
  have Rd:∀ k,k∈F'->k∈Fx:=fun k hk=>by
   by_cases hc:c=0
   rw[(P3 hc).2.2.1]at hk;simp at hk
   rw[(G6 Z9).2.2.2.1];simp[hk]
  have hFn:(F'++Fy).Nodup:=by
   by_cases hc:c=0
   rw[(P3 hc).2.2.1];exact(List.nodup_append.1 hnd).2.1
   have:=hnd;rw[(G6 Z9).2.2.2.1]at this;exact(List.nodup_cons.1 this).2
  have Tc:aL t.sz xs:=by
   by_cases hc:c=0
   rw[(P3 hc).1];intro v hv;simp at hv
   exact(G6 Z9).2.1
  have hold:∀ k,k<w.heap.size->(w1.alloc (.cells cells e)).heap[k]? =w.heap[k]? :=fun k hk=>by
   rw[alloc_old w1 _ k (by rw[H6];exact hk),H6]
  have Qa:(w1.alloc (.cells cells e)).heap.size=w.heap.size+1:=by rw[dt,H6]
  have Ny:w.heap.size=w1.heap.size:=by rw[H6]
  have Qd:=dT (w':=w1.alloc (.cells cells e)) (Pb':=Pb) xs hr (fun k hk=>hold k (hs.bound k (hs.sub k hk))) (fun k hk=>hold k (hfr k (Rd k hk)).2) (fun _ h=>h) (fun k hk cc=>(hfr k (Rd k hk)).1 (hs.sub k cc))
  have Qc:=dT (w':=w1.alloc (.cells cells e)) (Pb':=Pb) ys LP (fun k hk=>hold k (hs.bound k (hs.sub k hk))) (fun k hk=>hold k (Ug k hk).2) (fun _ h=>h) (fun k hk cc=>(Ug k hk).1 (hs.sub k cc))
  have Td:∀ k,k∈F'++Fy->(¬ Kb k/\k<w.heap.size)/\∀ r,k ∉ F r:=fun k hk=>by
   rcases List.mem_append.1 hk with h | h
   exact⟨hfr k (Rd k h),fun r=>u0 r k (Rd k h)⟩
   exact⟨Ug k h,fun r=>Xf r k h⟩
  have Oj: ¬ Kb w.heap.size:=fun cc=>by have:=hs.bound _ cc;omega
  refine⟨.slice (some ⟨w.heap.size,0,none⟩) (xs.length+ys.length) nc,w1.alloc (.cells cells e),w.heap.size::(F'++Fy),w.heap.size,0,nc,?_,WD.nN _,.inr ⟨Z9,hsz,by simpa using Ty,Z8,?_,fun cc=>Oj (hs.sub _ cc),flat++B5,F'++Fy,cells,rfl,
   iL xs ys Qd Qc,⟨e,(0,0),by rw[Ny];exact fI w1 _,fun i _ h=>by omega⟩,by rw[Q8];omega,fun j u hu=>?_⟩,?_,?_,?_,⟨?_,?_,?_,by rw[Qa];omega,fun k hk=>hold k (hs.bound k hk),Shp.of_eq hold⟩⟩
  simp only[Sem.run_ite,Sem.run_bind,Tu,Result.andThen_ok,if_neg Q4,if_neg hcap,Sem.run_pure,UK,UI,Of,Bool.not_false,if_true,run_askRoom,VT,jo]
  rw[hcells,Ny]
  intro v hv
  rcases List.mem_append.1 hv with h | h
  exact Tc v h
  exact hN v h
  rw[hcells,Nat.zero_add]
  have hj:=(List.getElem?_eq_some_iff.1 hu).1
  rw[Array.getElem?_append_left (by simpa using hj)]
  simpa using hu
  refine List.nodup_cons.2 ⟨fun cc=>?_,hFn⟩
  have:=(Td _ cc).1.2;omega
  intro r k hk cc
  rcases List.mem_cons.1 hk with rfl | h
  have:=(hs.free r _ cc).2;omega
  exact(Td k h).2 r cc
  intro k hk
  rw[Qa]
  rcases List.mem_cons.1 hk with rfl | h
  exact⟨Oj,Z9⟩
  have:=(Td k h).1;exact⟨this.1,Z9⟩
  rw[Nw];rfl
  rw[Nw];rfl
  rw[Nw];rfl
theorem zX{T T2 e e2:Nat} {t:TI} (hT:tD P T=some (.sl e)) (Rb:tD P T2=some (.sl e2)) (ht:ti P e=some t) (hz:∃ inf z,P.info? e=some inf/\inf.zero=some z/\z.cells.size=t.sz) (hsz:0<t.sz) (QM:0<t.K6)
 (hs:s3 N Pb Kb A a w F) {xs ys:List V} {s x:Value} {B2:Option Addr} {c2:Nat} {B5:List Value} (H9:R w Pb (.sl true xs) [s] []) (Tc:aL t.sz xs) (x9:0<ys.length)
 (H2:x=.slice B2 ys.length c2) (LP:RL w Pb ys B5 []) (MQ:∀ w1:World,(∀ ad,w1.cell? ad=w.cell? ad)->(Builtin.firstCells t.sz ys.length x).run P w1=.ok B5.toArray w1) (hl2:B5.length=ys.length*t.sz) (hN:aL t.sz ys) (hbig:(xs.length+ys.length)*t.K6<=140737488355328):
 ∃ v w' F2 g' o' c',(Builtin.append_ #[T,T2] T #[s,x]).run P w=.ok v w'/\s3 N Pb Kb A a w' F/\R w' Pb (.own t.sz (xs++ys) g' o' c') [v] F2/\F2.Nodup/\(∀ r g,g∈F2->g ∉ F r)/\(∀ g,g∈F2->¬ Kb g/\g<w'.heap.size)/\x4 Kb w w':=by
 have hu:=iA hT
 have M9:=iA Rb
 obtain⟨inf,z,LK,hzero,VU⟩:=hz
 obtain⟨QV,_,G7,_,Qb,Qv,_⟩:=jr ht
 rw[LK]at G7
 obtain rfl:=Option.some.inj G7
 obtain⟨B,c,flat,rfl,hr,Nz,Wu⟩:=ya (P:=P) H9 Tc
 have hcx:c=xs.length:=by
  obtain⟨_,A0,c0,h1,_,h2,_⟩:=H9
  have h1:=(List.cons.inj h1).1
  simp only[Value.slice.injEq]at h1
  rw[h1.2.2];exact h2 rfl
 subst H2
 have Oc:(Builtin.lenOf (.slice B2 ys.length c2)).run P w=.ok ys.length w:=rfl
 have Uz:xs.length+ys.length<=140737488355328:=Nat.le_trans (Nat.le_mul_of_pos_right _ QM) hbig
 unfold Builtin.append_
 simp only[List.getElem?_toArray,List.getElem?_cons_zero,List.getElem?_cons_succ,Sem.run_bind,aF hu,Result.andThen_ok]
 simp only[cJ ht,Result.andThen_ok]
 simp only[aF M9,Result.andThen_ok,Sem.run_pure]
 rw[if_neg (show ¬ (false=true) by decide)]
 rw[Sem.run_bind,Oc]
 simp only[Result.andThen_ok]
 have N': ¬ (xs.length+ys.length<=c):=Z9
 rw[if_neg N']
 have hlt:c<xs.length+ys.length:=Z9
 have Wo:IntKind.i64.max=9223372036854775807:=Z6
 have Q4: ¬ (((xs.length+ys.length:Nat):Int)>IntKind.i64.max/\((false=true)\/inf.bytes=0)):=by
  rw[Wo];rintro⟨h1,_⟩;omega
 have hcap: ¬ Builtin.nextslicecap (xs.length+ys.length) c*inf.bytes>281474976710656:=by
  have:=growslice_fits (bytes:=t.K6) hlt hbig
  rw[Qv];omega
 have Tu:∀ w,(typeInfo e).run P w=.ok inf w:=fun w=>by simp[typeInfo,LK]
 obtain⟨nc,Ty,UK⟩:∃ nc,xs.length+ys.length<=nc/\(choose (.appendCap (xs.length+ys.length) c e)).run P w=.ok nc { w with drawn:=w.drawn+1 }:=by
  exact⟨(Question.appendCap (xs.length+ys.length) c e).cut (w.tape w.drawn (Question.appendCap (xs.length+ys.length) c e)),by simp only[Question.cut];exact Nat.le_add_right _ _,by rw[run_choose,if_neg (by simp[Question.forced])]⟩
 obtain⟨w1,Nw⟩:∃ w1:World,w1={ w with drawn:=w.drawn+1 }:=⟨_,rfl⟩
 rw[<- Nw]at UK
 have H6:w1.heap=w.heap:=by rw[Nw]
 have MC:∀ ad,w1.cell? ad=w.cell? ad:=fun ad=>by rw[Nw];rfl
 have UI:=Nz w1 MC
 have Of:=MQ w1 MC
 have VT:=fun w=>qn (w:=w) LK hzero
 obtain⟨cells,hcells⟩:∃ cells:Array Value,cells=flat.toArray++B5.toArray++Builtin.zeroCells z.cells (nc-(xs.length+ys.length)):=⟨_,rfl⟩
 have Q8:cells.size=nc*t.sz:=by
  rw[hcells]
  simp only[Array.size_append,List.size_toArray,Builtin.zeroCells,Array.size_map,Array.size_range,VU,Wu,hl2]
  rw[<- Nat.add_mul,<- Nat.add_mul];congr 1;omega
 have WD:s3 N Pb Kb A a w1 F:=hs.grow (fun k _=>by rw[H6]) (by rw[H6];exact Nat.le_refl _) (fun _ h=>h) (fun g h=>.inl h) hs.sub
 have hold:∀ k,k<w.heap.size->(w1.alloc (.cells cells e)).heap[k]? =w.heap[k]? :=fun k hk=>by
  rw[alloc_old w1 _ k (by rw[H6];exact hk),H6]
 have Qa:(w1.alloc (.cells cells e)).heap.size=w.heap.size+1:=by rw[dt,H6]
 have Ny:w.heap.size=w1.heap.size:=by rw[H6]
 have Qd:=dT (w':=w1.alloc (.cells cells e)) (Pb':=Pb) xs hr (fun k hk=>hold k (hs.bound k (hs.sub k hk))) Z8 (fun _ h=>h) Z8
 have Qc:=dT (w':=w1.alloc (.cells cells e)) (Pb':=Pb) ys LP (fun k hk=>hold k (hs.bound k (hs.sub k hk))) Z8 (fun _ h=>h) Z8
 have Oj: ¬ Kb w.heap.size:=fun cc=>by have:=hs.bound _ cc;omega
 refine⟨.slice (some ⟨w.heap.size,0,none⟩) (xs.length+ys.length) nc,w1.alloc (.cells cells e),[w.heap.size],w.heap.size,0,nc,?_,WD.nN _,.inr ⟨Z9,hsz,by simpa using Ty,Z8,?_,fun cc=>Oj (hs.sub _ cc),flat++B5,[],cells,rfl,
  iL xs ys Qd Qc,⟨e,(0,0),by rw[Ny];exact fI w1 _,fun i _ h=>by omega⟩,by rw[Q8];omega,fun j u hu=>?_⟩,?_,?_,?_,⟨?_,?_,?_,by rw[Qa];omega,fun k hk=>hold k (hs.bound k hk),Shp.of_eq hold⟩⟩
 simp only[Sem.run_ite,Sem.run_bind,Tu,Result.andThen_ok,if_neg Q4,if_neg hcap,Sem.run_pure,UK,UI,Of,Bool.not_false,if_true,run_askRoom,VT,jo]
 rw[hcells,Ny]
 intro v hv
 rcases List.mem_append.1 hv with h | h
 exact Tc v h
 exact hN v h
 rw[hcells,Nat.zero_add]
 have hj:=(List.getElem?_eq_some_iff.1 hu).1
 rw[Array.getElem?_append_left (by simpa using hj)]
 simpa using hu
 simp
 intro r k hk cc
 obtain rfl:=List.mem_singleton.1 hk
 have:=(hs.free r _ cc).2;omega
 intro k hk
 rw[Qa]
 obtain rfl:=List.mem_singleton.1 hk
 exact⟨Oj,Z9⟩
 rw[Nw];rfl
 rw[Nw];rfl
 rw[Nw];rfl
def kF(lo n:Nat)(sz g o:Nat):V->Option (Prop×List V)
 | .own Me xs g2 o2 _=>some ((sz=Me/\g=g2/\o=o2)/\lo+n<=xs.length/\V.aG xs=false/\aL Me xs,(xs.drop lo).take n)
 | _=>none
def Nt(A:AS)(x:Operand):Option (Prop×List V):=
 match A.ev x with
 | .sl _ xs=>some (True,xs)
 | .own _ xs _ _ _=>some (True,xs)
 | .hd r p sz g o lo n _=>match r,p with
   | .slot i,[]=>kF lo n sz g o (A.get i)
   | .key k,p=>match A.at (.key k) p with
     | some (_,_,u)=>kF lo n sz g o u
     | none=>none
   | _,_=>none
 | _=>none
theorem qf:∀ (xs:List V) (k:Nat),V.aG xs=false->V.aG (xs.drop k)=false
 | xs,0,h=>h
 | [],k+1,h=>by simpa using h
 | v::vs,k+1,h=>by
   simp only[V.aG,Bool.or_eq_false_iff]at h
   exact qf vs k h.2
theorem Gv{Fo:List Nat}{Me g2 o2 c2 lo n c:Nat}{xs:List V}{Rh:List Value}(hr:R w Pb (.own Me xs g2 o2 c2) Rh Fo)(hle:n<=c){B:Option Addr}(hB:0<c->B=some ⟨g2,o2+lo*Me,none⟩)(hn:lo+n<=xs.length)(ho:V.aG xs=false){s:Nat}(hs:aL s ((xs.drop lo).take n)):
 ∃ (flat:List Value),RL w Pb ((xs.drop lo).take n) flat []/\(∀ w1:World,(∀ ad,w1.cell? ad=w.cell? ad)->(Builtin.firstCells s n (.slice B n c)).run P w1=.ok flat.toArray w1)/\flat.length=n*s:=by
 by_cases Wn:n=0
 subst Wn
 refine⟨[],by simp[RL],fun w1 _=>?_,Z8⟩
 cases B with
 | none=>rfl
 | some ad=>simp only[Builtin.firstCells,Nat.zero_mul];rfl
 rcases hr with ⟨_,rfl,_⟩ | ⟨h1,h2,h3,hx,hN,_,flat,F',cells,_,hr,hb,hsz,hc⟩
 simp at hn;omega
 have hF:=fG xs ho hr
 subst hF
 have J5:s=Me:=by
  have hne:(xs.drop lo).take n≠[]:=by
   intro e
   have:=congrArg List.length e
   simp at this;omega
  obtain⟨v,hv⟩:=List.exists_mem_of_ne_nil _ hne
  rw[<- hs v hv,<- hN v (List.mem_of_mem_drop (List.mem_of_mem_take hv))]
 subst J5
 obtain⟨c1,OE,MC⟩:=oy xs lo hr
 obtain⟨c3,Tx,UL⟩:=pb _ n OE
 have hl:c3.length=n*s:=by
  rw[iE _ Tx,ov _ (fun x hx=>hN x (List.mem_of_mem_drop (List.mem_of_mem_take hx)))]
  have:((xs.drop lo).take n).length=n:=Z0
  rw[this]
 refine⟨c3,Tx,fun w1 Nw=>?_,hl⟩
 have WT:=hB Z9
 subst WT
 simp only[Builtin.firstCells]
 rw[<- hl]
 refine run_loadCells_list w1 _ c3 (fun j v hv=>?_)
 rw[dG,Nw,dM hb]
 have:=MC j v (UL j v hv)
 rw[dL xs lo hN Z9]at this
 have:=hc _ _ this
 simpa[Nat.add_assoc] using this
theorem nj(hs:s3 N Pb Kb A a w F){x:Operand}{C:Prop}{ys:List V}(h:Nt A x=some (C,ys))(hC:C){s:Nat}(G3:aL s ys)(ho:V.aG ys=false):
 ∃ (B:Option Addr) (c:Nat) (flat:List Value),a.eval x=.slice B ys.length c/\RL w Pb ys flat []/\
   (∀ w1:World,(∀ ad,w1.cell? ad=w.cell? ad)->(Builtin.firstCells s ys.length (a.eval x)).run P w1=.ok flat.toArray w1)/\flat.length=ys.length*s:=by
 obtain⟨Fx,hr⟩:=dy hs x
 unfold Nt at h
 split at h
 rename_i full xs e
 simp only[Option.some.injEq,Prod.mk.injEq]at h
 obtain⟨_,rfl⟩:=h
 rw[e]at hr
 have hr:R w Pb (.sl full xs) [a.eval x] Fx:=hr
 have hF:Fx=[]:=hr.1
 subst hF
 obtain⟨B,c,flat,h1,h2,h3,h4⟩:=ya (P:=P) hr G3
 exact⟨B,c,flat,h1,h2,h3,h4⟩
 rename_i sz xs g o c e
 simp only[Option.some.injEq,Prod.mk.injEq]at h
 obtain⟨_,rfl⟩:=h
 rw[e]at hr
 have hr:R w Pb (.own sz xs g o c) [a.eval x] Fx:=hr
 have SO:=hr
 obtain⟨B,flat,F',h1,h2,h3,h4,h5,h6⟩:=wo (P:=P) hr
 have hF:=fG xs ho h2
 subst hF
 by_cases hc:0<c
 obtain⟨_,O5,_,_,hl⟩:=h4 hc
 by_cases he:xs=[]
 subst he
 exact⟨B,c,flat,h1,h2,fun w1 Nw=>by
  have:=h3 w1 Nw
  simpa[Builtin.firstCells,h1] using this,by simpa using hl⟩
 obtain⟨v,vs,rfl⟩:=List.exists_cons_of_ne_nil he
 have J5:s=sz:=by rw[<- G3 v Z8,<- O5 v Z8]
 subst J5
 exact⟨B,c,flat,h1,h2,h3,hl⟩
 obtain⟨rfl,_,_,rfl⟩:=h5 Z9
 exact⟨B,c,[],h1,h2,fun w1 Nw=>by
  have:=h3 w1 Nw
  simpa[Builtin.firstCells,h1] using this,Z8⟩
 rename_i r p sz g o lo n c e
 rw[e]at hr
 obtain⟨_,hle,B,hv,hB⟩:=hr
 have hv:a.eval x=.slice B n c:=(List.cons.inj hv).1
 have key:∀ u Fo Rh,R w Pb u Rh Fo->kF lo n sz g o u=some (C,ys)->∃ (B:Option Addr) (c:Nat) (flat:List Value),a.eval x=.slice B ys.length c/\RL w Pb ys flat []/\
  (∀ w1:World,(∀ ad,w1.cell? ad=w.cell? ad)->(Builtin.firstCells s ys.length (a.eval x)).run P w1=.ok flat.toArray w1)/\flat.length=ys.length*s:=by
  intro u Fo Rh J6 hu
  unfold kF at hu
  split at hu
  rename_i Me xs g2 o2 c2
  simp only[Option.some.injEq,Prod.mk.injEq]at hu
  obtain⟨rfl,rfl⟩:=hu
  obtain⟨⟨rfl,rfl,rfl⟩,Ws,RZ,_⟩:=hC
  obtain⟨flat,k1,k2,k3⟩:=Gv (P:=P) J6 hle hB Ws RZ G3
  have hlen:((xs.drop lo).take n).length=n:=Z0
  rw[hlen]
  exact⟨B,c,flat,hv,k1,by rw[hv];exact k2,k3⟩
  simp at hu
 split at h
 rename_i i
 have M':=hs.slot i
 unfold kF at h
 split at h
 rename_i Me xs g2 o2 c2 hg
 rw[hg]at M'
 exact key (.own Me xs g2 o2 c2) _ _ M' (by unfold kF;exact h)
 simp at h
 rename_i k p'
 split at h
 rename_i a0 b0 u x6
 obtain⟨F',cs,cells,hb,J6,r8⟩:=jt hs x6
 exact key u F' cs J6 h
 simp at h
 simp at h
 simp at h
theorem py{t:Nat}{sz:Nat}{xs:List V}{g o c:Nat}(h:A.get t=.own sz xs g o c):A.drop (.tmp t)=A.put (some t) .c9:=by simp[AS.drop,h,V.cW]
end
end Go.Abs
namespace Go.Abs
open Go Go.RowKit
def C6(A B:AS):Prop:=(∀ i,A.get i=B.get i)/\∀ k,lk k A.h=lk k B.h
theorem C6.le{A B:AS}(h:C6 A B):A.le B:=⟨fun i=>.inr (h.1 i),fun k=>.inr (h.2 k)⟩
theorem C6.symm{A B:AS}(h:C6 A B):C6 B A:=⟨fun i=>(h.1 i).symm,fun k=>(h.2 k).symm⟩
theorem C6.trans{A B C:AS}(h:C6 A B)(k:C6 B C):C6 A C:=⟨fun i=>(h.1 i).trans (k.1 i),fun i=>(h.2 i).trans (k.2 i)⟩
def Qx(o:Oper):List Nat:=(o.after.toList.filter (Region.binds .any)).map (·.on)
section
variable {P:Program} {N:Nat} {ops:Array Oper}
theorem CP{α:Type}(t:Nat):∀ (l1 l2:List (Nat×α)),lk t (l1++l2)=match lk t l1 with | some v=>some v | none=>lk t l2
 | [],l2=>rfl
 | (k,v)::l1,l2=>by
   simp only[List.cons_append,lk]
   by_cases h:t=k
   rw[if_pos h,if_pos h]
   rw[if_neg h,if_neg h];exact CP t l1 l2
def wt(ops:Array Oper)(t k:Nat):Bool:=(ops[k]?).bind (·.dst)==some t
def QH(listed:Array Bool)(n:Nat):Nat:=((List.range n).filter fun i=>!listed.getD i true).length
theorem EM{listed:Array Bool}{n:Nat}(h:QH listed n=0):∀ j,j<n->listed.getD j true=true:=by
 intro j hj
 unfold QH at h
 have:=List.eq_nil_of_length_eq_zero h
 rw[List.filter_eq_nil_iff]at this
 simpa using this j (by simpa using hj)
theorem Ir{listed:Array Bool}{n i:Nat}(hi:i<n)(hs:listed.size=n)(hu:listed.getD i true=false):QH (listed.setIfInBounds i true) n+1=QH listed n:=by
 unfold QH
 have h:∀ m,m<=n->((List.range m).filter fun j=>!(listed.setIfInBounds i true).getD j true).length+(if i<m then 1 else 0)=((List.range m).filter fun j=>!listed.getD j true).length:=by
  intro m
  induction m with
  | zero=>simp
  | succ m ih=>
    intro hm
    have ih:=ih Z9
    rw[List.range_succ,List.filter_append,List.filter_append,List.length_append,List.length_append]
    by_cases he:m=i
    subst he
    have e1:(listed.setIfInBounds m true).getD m true=true:=by simp[Array.getD]
    rw[if_neg Z9]at ih
    rw[List.filter_cons_of_neg (by rw[e1];decide),List.filter_cons_of_pos (by rw[hu];rfl),if_pos Z9]
    simp only[List.filter_nil,List.length_cons,List.length_nil];omega
    have e1:(listed.setIfInBounds i true).getD m true=listed.getD m true:=getD_set_ne true (Ne.symm he)
    have e2:([m].filter fun j=>!(listed.setIfInBounds i true).getD j true).length=([m].filter fun j=>!listed.getD j true).length:=by
     cases hb:listed.getD m true with
     | true=>rw[List.filter_cons_of_neg (by rw[e1,hb];decide),List.filter_cons_of_neg (by rw[hb];decide)];rfl
     | false=>rw[List.filter_cons_of_pos (by rw[e1,hb];rfl),List.filter_cons_of_pos (by rw[hb];rfl)];rfl
    rw[e2]
    by_cases hlt:i<m
    rw[if_pos hlt]at ih;rw[if_pos Z9];omega
    rw[if_neg hlt]at ih;rw[if_neg Z9];omega
 have:=h n (Nat.le_refl _)
 rw[if_pos hi]at this
 exact this
end
end Go.Abs
namespace Go.Abs
open Go Go.RowKit
def KN(P:Program)(N:Nat)(ops:Array Oper)(El:List Nat)(U:Nat×Nat×Nat->AS->AS)(o:Oper)(A:AS):Prop:=
 ∀ A':AS,(∀ t,t∈o.looksAt ops\/t∈El->A'.get t=A.get t)->(∀ k,lk k A'.h=lk k A.h)->∀ K:AS->Prop,(∀ gh,K (U gh A'))->D' P N o A' K
def iz(ops:Array Oper):Nat->Nat->Nat->Bool
 | 0,_,_=>false
 | n+1,j,i=>match ops[j]? with
   | some o=>(Qx o).any fun k=>k==i||iz ops n k i
   | none=>false
theorem kB{ops:Array Oper}{L:Nat->Bool}(hcl:∀ k o,ops[k]? =some o->L k=true->∀ j,j∈Qx o->L j=true):∀ (n j i:Nat),iz ops n j i=true->L j=true->L i=true
 | 0,_,_,h,_=>by simp[iz]at h
 | n+1,j,i,h,hj=>by
   simp only[iz]at h
   split at h
   rename_i o ho
   rw[List.any_eq_true]at h
   obtain⟨k,hk,h⟩:=h
   have E2:=hcl j o ho hj k hk
   rw[Bool.or_eq_true,beq_iff_eq]at h
   rcases h with rfl | h
   exact E2
   exact kB hcl n k i h E2
   simp at h
structure UOk (U:Nat×Nat×Nat->AS->AS) (Sl Hl:List Nat) (d:Nat):Prop where
 g:∀ gh B t,t ∉ Sl->(U gh B).get t=B.get t
 h:∀ gh B k,k ∉ Hl->lk k (U gh B).h=lk k B.h
 c:∀ gh B B',C6 B B'->C6 (U gh B) (U gh B')
 p:∀ gh B t v,t ∉ Sl->C6 (U gh (B.put (some t) v)) ((U gh B).put (some t) v)
 d:∀ gh B v,C6 (U gh (B.put (some d) v)) (U gh B)
 q:∀ gh B k gv,k ∉ Hl->C6 (U gh ⟨B.t,(k,gv)::B.h⟩) ⟨(U gh B).t,(k,gv)::(U gh B).h⟩
section
variable {P:Program} {N:Nat} {ops:Array Oper}
end
end Go.Abs
namespace Go.Abs
open Go Go.RowKit
structure OM where
 UZ:Bool
 El:List Nat
 fr:Option (List Nat)
 Sl:List Nat
 Hl:List Nat
structure ZT (P:Program) where
 T:Nat
 v:V
 ok:nh P T v
def NC(d:Nat)(v:V)(g:Nat)(B:AS):AS:=⟨(d,.ptr (.key d) [] g 0)::B.t,(d,(g,v))::B.h⟩
def bq(ops:Array Oper)(tb:List (Nat×OM))(i:Nat):OM:=match lk i tb with
 | some e=>e
 | none=>match ops[i]? with
   | some o=>⟨false,[],(match o.op with | .load _ _=>none | _=>some []),o.dst.toList,[]⟩
   | none=>⟨false,[],none,[],[]⟩
def fC(ops:Array Oper)(tb:List (Nat×OM))(i:Nat):List Nat:=(match ops[i]? with | some o=>o.looksAt ops | none=>[])++(bq ops tb i).El
def TX(A' A:AS)(fs:List Nat):Prop:= ∀ t,t∈fs->A'.get t=A.get t
def hM:Nat:=1000000
def LX(h:List (Nat×(Nat×V)))(q:Nat):Option (Nat×Nat×V×Nat):=match lk (q / 100) h with
 | some (g,v)=>match V.at g 0 v [q % 100] with
   | some (g',o',.own sz xs g1 o1 c)=>some (g',o',.own sz [] g1 o1 c,xs.length)
   | _=>none
 | none=>none
theorem yM{h h':List (Nat×(Nat×V))}{q:Nat}(e:lk (q / 100) h'=lk (q / 100) h):LX h' q=LX h q:=by unfold LX;rw[e]
def O7(A' A:AS)(k:Nat):Prop:=if Nat.blt k hM=true then lk k A'.h=lk k A.h else LX A'.h (k-hM)=LX A.h (k-hM)
theorem uF{A' A:AS}(h:∀ k,lk k A'.h=lk k A.h)(k:Nat):O7 A' A k:=by
 unfold O7
 split
 exact h k
 exact yM (h _)
theorem O7.trans{A B C:AS}{k:Nat}(h1:O7 A B k)(h2:O7 B C k):O7 A C k:=by
 unfold O7 at *
 split
 rename_i c;rw[if_pos c]at h1 h2;exact Eq.trans h1 h2
 rename_i c;rw[if_neg c]at h1 h2;exact Eq.trans h1 h2
def Rj(A' A:AS):Option (List Nat)->Prop
 | none=> ∀ k,lk k A'.h=lk k A.h
 | some fr=> ∀ k,k∈fr->O7 A' A k
def Rl(P:Program)(N:Nat)(ops:Array Oper)(o:Oper)(A:AS)(v:V)(fs:List Nat)(fr:Option (List Nat)):Prop:=
 ∀ A':AS,TX A' A fs->Rj A' A fr->gd ops o A' (D' P N o A' (fun B=>C6 B (A'.put o.dst v))) (cy N o.dst/\∀ w Pb,RV w Pb v undef [])
def TY(P:Program)(N:Nat)(o:Oper)(A:AS){G:Type}(U:G->AS->AS)(fs:List Nat)(fr:Option (List Nat)):Prop:=
 o.guard=none/\∀ A':AS,TX A' A fs->Rj A' A fr->D' P N o A' (fun B=> ∃ g,C6 B (U g A'))
structure QC {G:Type} (U:G->AS->AS) (fs Sl Hl:List Nat):Prop where
 g:∀ g B t,t ∉ Sl->(U g B).get t=B.get t
 h:∀ g B k,k ∉ Hl->lk k (U g B).h=lk k B.h
 c:∀ g B B',C6 B B'->C6 (U g B) (U g B')
 p:∀ g B t v,t ∉ Sl->t ∉ fs->C6 (U g (B.put (some t) v)) ((U g B).put (some t) v)
 q:∀ g B k gv,k ∉ Hl->C6 (U g ⟨B.t,(k,gv)::B.h⟩) ⟨(U g B).t,(k,gv)::(U g B).h⟩
structure Tg {G:Type} (U:G->AS->AS) (fs Sl Hl:List Nat):Prop extends QC U fs Sl Hl where
 s:∀ q,hM+q∈Hl->∀ g B,LX (U g B).h q=LX B.h q
def Md(P:Program)(N:Nat)(ops:Array Oper)(tb:List (Nat×OM))(zs:List (Nat×ZT P)):List Nat->AS->(AS->Prop)->Prop
 | [],A,K=>K A
 | i::l,A,K=> ∃ o,ops[i]? =some o/\match lk i zs with
  | some z=> ∀ g,Md P N ops tb zs l (NC (o.dst.getD 0) z.v g A) K
  | none=>match (bq ops tb i).UZ with
   | false=>(bq ops tb i).Sl=o.dst.toList/\(bq ops tb i).Hl=[]/\∃ v,Rl P N ops o A v (fC ops tb i) (bq ops tb i).fr/\Md P N ops tb zs l (A.put o.dst v) K
   | true=> ∃ (G:Type) (U:G->AS->AS),TY P N o A U (fC ops tb i) (bq ops tb i).fr/\Tg U (fC ops tb i) (bq ops tb i).Sl (bq ops tb i).Hl/\∀ g,Md P N ops tb zs l (U g A) K
def bX(a b:List Nat):Bool:=a.all fun x=>!b.contains x
def Bv(a:List Nat):Option (List Nat)->Bool
 | none=>a.isEmpty
 | some b=>b.all fun x=>if Nat.blt x hM=true then !a.contains x else !a.contains ((x-hM) / 100)||a.contains x
def indep(ops:Array Oper)(tb:List (Nat×OM)){P:Program}(zs:List (Nat×ZT P))(p i:Nat):Bool:=
 (lk i zs).isNone&&!(bq ops tb p).UZ&&bX (bq ops tb p).Sl (fC ops tb i)&&bX (bq ops tb i).Sl (fC ops tb p)&&bX (bq ops tb p).Sl (bq ops tb i).Sl&&Bv (bq ops tb i).Hl (bq ops tb p).fr
def oK(ops:Array Oper)(tb:List (Nat×OM)){P:Program}(zs:List (Nat×ZT P))(p i:Nat):Bool:=
 match lk i zs,ops[i]? with
 | some _,some o=>match lk p zs,ops[p]? with
   | some _,some o'=>o'.dst.getD 0 != o.dst.getD 0
   | none,_=>!(bq ops tb p).Sl.contains (o.dst.getD 0)&&!(fC ops tb p).contains (o.dst.getD 0)&&!(bq ops tb p).Hl.contains (o.dst.getD 0)&&(match (bq ops tb p).fr with | some l=>l.all (fun x=>if Nat.blt x hM=true then x != o.dst.getD 0 else (x-hM) / 100 != o.dst.getD 0) | none=>false)
   | _,none=>false
 | _,_=>false
def pA(ops:Array Oper)(m:Nat)(tb:List (Nat×OM)){P:Program}(zs:List (Nat×ZT P)):List Nat->Bool
 | []=>true
 | p::l=>(l.all fun i=>(match lk p zs with | none=>indep ops tb zs p i | some _=>false)||iz ops 64 i p||oK ops tb zs p i)&&pA ops m tb zs l
def Bk(N:Nat)(ops:Array Oper){P:Program}(zs:List (Nat×ZT P)):Bool:=zs.all fun x=>match ops[x.1]? with
 | some o=>(match o.op,o.dst with | .alloc T,some d=>T==x.2.T&&Nat.blt d N | _,_=>false)&&o.guard.isNone
 | none=>false
def Mf(l:List Nat):Bool:=match l with
 | []=>true
 | k::r=>!r.contains k&&Mf r
def BX(ops:Array Oper)(m:Nat)(pl:List Nat):Bool:=
 (pl.all fun i=>Nat.blt i m)&&Mf pl&&((List.range m).all fun i=>pl.contains i)&&Nat.ble m ops.size&&
 (ops.toList.zipIdx.all fun (o,i)=>(Qx o).all (fun k=>Nat.blt k i))&&
 ((List.range (ops.size-m)).all fun q=>match ops[m+q]? with
   | some _=>(List.range (m+q)).all fun k=>iz ops 64 (m+q) k
   | none=>false)
section
variable {P:Program} {N:Nat} {ops:Array Oper} {tb:List (Nat×OM)} {zs:List (Nat×ZT P)}
theorem vp{a b:List Nat}(h:bX a b=true):∀ x,x∈a->x ∉ b:=fun x hx=>by
 unfold bX at h
 rw[List.all_eq_true]at h
 simpa using h x hx
theorem C6.jD{A:AS}:C6 A A:=⟨fun _=>rfl,fun _=>rfl⟩
theorem JZ{A B:AS}{d:Option Nat}{v:V}(h:C6 A B):C6 (A.put d v) (B.put d v):=by
 cases d with
 | none=>exact h
 | some d'=>exact⟨fun t=>by rw[AS.aC,AS.aC];split
                            rfl
                            exact h.1 t,h.2⟩
theorem Rl.congr{o:Oper}{A B:AS}{v:V}{fs:List Nat}{fr:Option (List Nat)}(h:Rl P N ops o A v fs fr)(h1:TX B A fs)(h2:Rj B A fr):Rl P N ops o B v fs fr:=fun A' k1 k2=>
 h A' (fun t ht=>(k1 t ht).trans (h1 t ht)) (by
   cases fr with
   | none=>exact fun k=>(k2 k).trans (h2 k)
   | some l=>exact fun k hk=>(k2 k hk).trans (h2 k hk))
theorem TY.congr{G:Type}{U:G->AS->AS}{o:Oper}{A B:AS}{fs:List Nat}{fr:Option (List Nat)}(h:TY P N o A U fs fr)(h1:TX B A fs)(h2:Rj B A fr):TY P N o B U fs fr:=⟨h.1,fun A' k1 k2=>
 h.2 A' (fun t ht=>(k1 t ht).trans (h1 t ht)) (by
  cases fr with
  | none=>exact fun k=>(k2 k).trans (h2 k)
  | some l=>exact fun k hk=>(k2 k hk).trans (h2 k hk))⟩
theorem uC{A B:AS}(h:A.h=B.h)(fr:Option (List Nat)):Rj A B fr:=by
 cases fr with
 | none=>exact fun k=>by rw[h]
 | some l=>exact fun k _=>uF (fun k=>by rw[h]) k
theorem Ea{A B:AS}(h:C6 A B)(fr:Option (List Nat)):Rj A B fr:=by
 cases fr with
 | none=>exact h.2
 | some l=>exact fun k _=>uF h.2 k
theorem Iy{G:Type}{U:G->AS->AS}{fs Sl Hl fr:List Nat}(hU:Tg U fs Sl Hl)(hd:Bv Hl (some fr)=true){k:Nat}(hk:k∈fr)(g:G)(B:AS):O7 (U g B) B k:=by
 have hx:=List.all_eq_true.1 hd k hk
 unfold O7
 split
 rename_i c
 rw[if_pos c]at hx
 exact hU.h g B k (by simpa using hx)
 rename_i c
 rw[if_neg c,Bool.or_eq_true]at hx
 have TC:hM+(k-hM)=k:=by
  have: ¬ k<hM:=fun h=>c (by simpa[Nat.blt_eq] using h)
  omega
 rcases hx with hx | hx
 exact yM (hU.h g B _ (by simpa using hx))
 exact hU.s _ (by rw[TC];simpa using hx) g B
theorem nL{A:AS}{d:Option Nat}{v:V}:(A.put d v).h=A.h:=by cases d <;> rfl
theorem jE{A:AS}{d:Option Nat}{v:V}{t:Nat}(h:t ∉ d.toList):(A.put d v).get t=A.get t:=by
 cases d with
 | none=>rfl
 | some d'=>rw[AS.aC,if_neg (by simpa using h)]
theorem CS{d:Nat}{v:V}{g:Nat}{A B:AS}(h:C6 A B):C6 (NC d v g A) (NC d v g B):=
 ⟨fun t=>by simp only[NC,AS.get,lk];split
            rfl
            exact h.1 t,fun k=>by simp only[NC,lk];split
                                  rfl
                                  exact h.2 k⟩
theorem eC{K:AS->Prop}(hK:∀ A B,C6 A B->K A->K B):∀ (l:List Nat) {A B:AS},C6 A B->Md P N ops tb zs l A K->Md P N ops tb zs l B K
 | [],A,B,h,hA=>hK A B h hA
 | i::l,A,B,h,hA=>by
   obtain⟨o,ho,hA⟩:=hA
   refine⟨o,ho,?_⟩
   split at hA
   exact fun g=>eC hK l (CS h) (hA g)
   split at hA
   obtain⟨e1,e2,v,h1,h2⟩:=hA
   exact⟨e1,e2,v,h1.congr (fun t _=>(h.1 t).symm) (Ea h.symm _),eC hK l (JZ h) h2⟩
   obtain⟨G,U,h1,h2,h3⟩:=hA
   exact⟨G,U,h1.congr (fun t _=>(h.1 t).symm) (Ea h.symm _),h2,fun g=>eC hK l (h2.c g _ _ h) (h3 g)⟩
theorem ES{K:AS->Prop}(hK:∀ A B,C6 A B->K A->K B){p i:Nat}{l:List Nat}{A:AS}(hp:lk p zs=none)(hi:indep ops tb zs p i=true)(h:Md P N ops tb zs (p::i::l) A K):Md P N ops tb zs (i::p::l) A K:=by
 unfold indep at hi
 simp only[Bool.and_eq_true,Bool.not_eq_true']at hi
 obtain⟨⟨⟨⟨⟨hz,h1⟩,h2⟩,h3⟩,h4⟩,h5⟩:=hi
 have hz:lk i zs=none:=by simpa using hz
 have h2:=vp h2
 have h3:=vp h3
 have h4:=vp h4
 obtain⟨op,K8,h⟩:=h
 rw[hp]at h
 simp only at h
 rw[h1]at h
 obtain⟨e1,e2,v,k1,oi,hoi,h⟩:=h
 refine⟨oi,hoi,?_⟩
 rw[hz]at h ⊢
 simp only at h ⊢
 rw[e1]at h2 h4
 have g1:TX A (A.put op.dst v) (fC ops tb i):=fun t ht=>(jE (fun c=>h2 t c ht)).symm
 split at h
 rename_i he
 obtain⟨f1,f2,v',k2,k3⟩:=h
 rw[f1]at h3 h4
 refine⟨f1,f2,v',k2.congr g1 (uC nL.symm _),op,K8,?_⟩
 rw[hp]
 simp only
 rw[h1]
 refine⟨e1,e2,v,k1.congr (fun t ht=>jE (fun c=>h3 t c ht)) (uC nL _),?_⟩
 refine eC hK l ⟨fun t=>?_,fun k=>by rw[nL,nL,nL,nL]⟩ k3
 by_cases c1:t∈oi.dst.toList
 cases hd:oi.dst with
 | none=>rw[hd]at c1;simp at c1
 | some d=>
   rw[hd]at c1
   have c1:t=d:=by simpa using c1
   subst c1
   have hn:t ∉ op.dst.toList:=fun c=>h4 t c (by rw[hd];simp)
   rw[AS.aC,if_pos rfl,jE hn,AS.aC,if_pos rfl]
 rw[jE c1]
 by_cases c2:t∈op.dst.toList
 cases hd:op.dst with
 | none=>rw[hd]at c2;simp at c2
 | some d=>
   rw[hd]at c2
   have c2:t=d:=by simpa using c2
   subst c2
   rw[AS.aC,if_pos rfl,AS.aC,if_pos rfl]
 rw[jE c2,jE c2,jE c1]
 obtain⟨G,U,k2,k3,k4⟩:=h
 refine⟨G,U,k2.congr g1 (uC nL.symm _),k3,fun g=>⟨op,K8,?_⟩⟩
 rw[hp]
 simp only
 rw[h1]
 refine⟨e1,e2,v,k1.congr (fun t ht=>k3.g g A t (fun c=>h3 t c ht)) ?_,?_⟩
 cases hf:(bq ops tb p).fr with
 | none=>
   rw[hf]at h5
   have:(bq ops tb i).Hl=[]:=by simpa[Bv] using h5
   exact fun k=>k3.h g A k (by rw[this];simp)
 | some fr=>
   rw[hf]at h5
   exact fun k hk=>Iy k3 h5 hk g A
 refine eC hK l ?_ (k4 g)
 cases hd:op.dst with
 | none=>exact C6.jD
 | some d=>exact k3.p g A d v (fun c=>h4 d (by rw[hd];simp) c) (fun c=>h2 d (by rw[hd];simp) c)
theorem vz{d:Nat}{v:V}{g t:Nat}{A:AS}(h:t≠d):(NC d v g A).get t=A.get t:=by simp only[NC,AS.get,lk];rw[if_neg h]
theorem Ef{d:Nat}{v:V}{g k:Nat}{A:AS}(h:k≠d):lk k (NC d v g A).h=lk k A.h:=by simp only[NC,lk];rw[if_neg h]
theorem Im{d:Nat}{v:V}{g:Nat}{A:AS}{dd:Option Nat}{u:V}(h:d ∉ dd.toList):C6 (NC d v g (A.put dd u)) ((NC d v g A).put dd u):=by
 cases dd with
 | none=>exact C6.jD
 | some d'=>
   have hne:d≠d':=by simpa using h
   refine⟨fun t=>?_,fun k=>rfl⟩
   rw[AS.aC]
   by_cases c:t=d
   subst c
   rw[if_neg hne];simp only[NC,AS.get,lk,if_true]
   rw[vz c,vz c,AS.aC]
theorem Dx{K:AS->Prop}(hK:∀ A B,C6 A B->K A->K B){p i:Nat}{l:List Nat}{A:AS}(hi:oK ops tb zs p i=true)(h:Md P N ops tb zs (p::i::l) A K):Md P N ops tb zs (i::p::l) A K:=by
 unfold oK at hi
 split at hi
 case h_2=>simp at hi
 rename_i z o hz ho
 obtain⟨op,K8,h⟩:=h
 have inner:∀ {B:AS},Md P N ops tb zs (i::l) B K->∀ g,Md P N ops tb zs l (NC (o.dst.getD 0) z.v g B) K:=fun h g=>by
  obtain⟨o',O0,h⟩:=h
  rw[ho]at O0;obtain rfl:=Option.some.inj O0
  rw[hz]at h
  exact h g
 refine⟨o,ho,?_⟩
 rw[hz]
 refine fun g=>⟨op,K8,?_⟩
 split at hi
 rename_i z' o' VV Uv
 rw[K8]at Uv;obtain rfl:=Option.some.inj Uv
 rw[VV]at h ⊢
 intro g'
 have hne:op.dst.getD 0≠o.dst.getD 0:=by simpa using hi
 refine eC hK l ⟨fun t=>?_,fun k=>?_⟩ (inner (h g') g)
 simp only[NC,AS.get,lk]
 by_cases c:t=o.dst.getD 0
 rw[if_pos c,if_neg (fun c2=>hne (c2.symm.trans c)),if_pos c]
 rw[if_neg c,if_neg c]
 simp only[NC,lk]
 by_cases c:k=o.dst.getD 0
 rw[if_pos c,if_neg (fun c2=>hne (c2.symm.trans c)),if_pos c]
 rw[if_neg c,if_neg c]
 rename_i VV
 simp only[Bool.and_eq_true,Bool.not_eq_true',List.contains_eq_mem,decide_eq_false_iff_not]at hi
 obtain⟨⟨⟨i1,i2⟩,i3⟩,i4⟩:=hi
 rw[VV]at h ⊢
 simp only at h ⊢
 have gS:TX (NC (o.dst.getD 0) z.v g A) A (fC ops tb p):=fun t ht=>vz fun c=>i2 (by rw[<- c];exact ht)
 have gR:Rj (NC (o.dst.getD 0) z.v g A) A (bq ops tb p).fr:=by
  split at i4
  rename_i l' hl
  rw[hl]
  intro k hk
  have i5:=List.all_eq_true.1 i4 k hk
  unfold O7
  split
  rename_i c
  rw[if_pos c]at i5
  exact Ef (by simpa using i5)
  rename_i c
  rw[if_neg c]at i5
  exact yM (Ef (by simpa using i5))
  simp at i4
 split at h
 obtain⟨e1,e2,v,k1,h⟩:=h
 refine⟨e1,e2,v,k1.congr gS gR,?_⟩
 exact eC hK l (Im (by rw[<- e1];exact i1)) (inner h g)
 obtain⟨G,U,k1,k2,h⟩:=h
 refine⟨G,U,k1.congr gS gR,k2,fun x=>eC hK l ?_ (inner (h x) g)⟩
 have e1:=k2.q x ⟨(o.dst.getD 0,.ptr (.key (o.dst.getD 0)) [] g 0)::A.t,A.h⟩ (o.dst.getD 0) (g,z.v) i3
 have e2:=k2.p x A (o.dst.getD 0) (.ptr (.key (o.dst.getD 0)) [] g 0) i1 i2
 refine C6.trans ?_ e1.symm
 refine⟨fun t=>?_,fun k=>?_⟩
 exact(e2.1 t).symm
 simp only[NC,lk]
 split
 rfl
 exact(e2.2 k).symm
 simp at hi
theorem zw{K:AS->Prop}(hK:∀ A B,C6 A B->K A->K B){i:Nat}{l2:List Nat}:∀ (l1:List Nat) {A:AS},(∀ p,p∈l1->(lk p zs=none/\indep ops tb zs p i=true)\/oK ops tb zs p i=true)->Md P N ops tb zs (l1++i::l2) A K->Md P N ops tb zs (i::(l1++l2)) A K
 | [],A,_,h=>h
 | p::l1,A,hi,h=>by
   have ih:∀ A,Md P N ops tb zs (l1++i::l2) A K->Md P N ops tb zs (i::(l1++l2)) A K:=fun A=>zw hK l1 (fun q hq=>hi q (by simp[hq]))
   have h2:Md P N ops tb zs (p::i::(l1++l2)) A K:=by
    obtain⟨o,ho,h⟩:=h
    refine⟨o,ho,?_⟩
    split at h
    exact fun g=>ih _ (h g)
    split at h
    obtain⟨e1,e2,v,h1,h2⟩:=h;exact⟨e1,e2,v,h1,ih _ h2⟩
    obtain⟨G,U,h1,h2,h3⟩:=h;exact⟨G,U,h1,h2,fun g=>ih _ (h3 g)⟩
   rcases hi p Z8 with h | h
   exact ES hK h.1 h.2 h2
   exact Dx hK h h2
theorem Ab{α:Type}:∀ {l:List (Nat×α)} {k:Nat} {v:α},lk k l=some v->(k,v)∈l
 | [],_,_,h=>by simp[lk]at h
 | (k0,v0)::l,k,v,h=>by
   simp only[lk]at h
   split at h
   rename_i e;subst e;cases h;simp
   exact List.mem_cons_of_mem _ (Ab h)
theorem AV{m:Nat}:∀ {pl l1 l2:List Nat} {i p:Nat},pA ops m tb zs pl=true->pl=l1++i::l2->p∈l1->((lk p zs=none/\indep ops tb zs p i=true)\/oK ops tb zs p i=true)\/iz ops 64 i p=true
 | [],l1,l2,i,p,_,e,_=>by simp at e
 | q::pl,[],l2,i,p,_,_,hp=>by simp at hp
 | q::pl,x::l1,l2,i,p,h,e,hp=>by
   simp only[List.cons_append,List.cons.injEq]at e
   obtain⟨rfl,rfl⟩:=e
   simp only[pA,Bool.and_eq_true,List.all_eq_true]at h
   rcases List.mem_cons.1 hp with rfl | hp
   have:=h.1 i Z8
   rw[Bool.or_eq_true,Bool.or_eq_true]at this
   rcases this with (h | h) | h
   split at h
   exact .inl (.inl ⟨by assumption,h⟩)
   simp at h
   exact .inr h
   exact .inl (.inr h)
   exact AV h.2 rfl hp
theorem nW{m:Nat}(f:Nat->Bool):∀ {pl:List Nat},pA ops m tb zs pl=true->pA ops m tb zs (pl.filter f)=true
 | [],_=>rfl
 | p::pl,h=>by
   simp only[pA,Bool.and_eq_true,List.all_eq_true]at h
   simp only[List.filter_cons]
   split
   simp only[pA,Bool.and_eq_true,List.all_eq_true]
   exact⟨fun i hi=>h.1 i (List.mem_filter.1 hi).1,nW f h.2⟩
   exact nW f h.2
theorem zm{L:Nat->Bool}(hcl:∀ k o,ops[k]? =some o->L k=true->∀ j,j∈Qx o->L j=true){i k:Nat}{o:Oper}(ho:ops[i]? =some o)(Vo:∀ j,j∈Qx o->L j=true)(h:iz ops 64 i k=true):L k=true:=by
 have h:iz ops (63+1) i k=true:=h
 generalize (63:Nat)=n at h
 simp only[iz,ho]at h
 rw[List.any_eq_true]at h
 obtain⟨q,hq,h⟩:=h
 rw[Bool.or_eq_true,beq_iff_eq]at h
 rcases h with rfl | h
 exact Vo _ hq
 exact kB hcl n q k h (Vo _ hq)
theorem vY{id m:Nat} {pl:List Nat} {A:AS} {Q:Exit->AS->Prop} (hm:P.follows .mixedOrders=true) (hc:pA ops m tb zs pl=true) (Vr:Bk N ops zs=true) (Qh:BX ops m pl=true)
 (h:Md P N ops tb zs pl A (fun B=> ∃ B',C6 B B'/\WL P N ops (ops.toList.drop m) B' (Q .normal))):T P N (.region id ops true) A Q:=by
 unfold BX at Qh
 simp only[Bool.and_eq_true,List.all_eq_true]at Qh
 obtain⟨⟨⟨⟨⟨p1,p2⟩,p3⟩,p4⟩,p5⟩,p6⟩:=Qh
 have XB:=Nat.le_of_ble_eq_true p4
 have SR:∀ i,i∈pl↔i<m:=fun i=>⟨fun hi=>Nat.lt_of_succ_le (Nat.le_of_ble_eq_true (p1 i hi)),fun hi=>by have:=p3 i (List.mem_range.2 hi);simpa using this⟩
 have hnd:pl.Nodup:=by
  have:∀ l:List Nat,Mf l=true->l.Nodup:=by
   intro l
   induction l with
   | nil=>intro _;exact List.nodup_nil
   | cons a l ih=>
     intro h
     simp only[Mf,Bool.and_eq_true,Bool.not_eq_true',List.contains_eq_mem,decide_eq_false_iff_not]at h
     exact List.nodup_cons.2 ⟨h.1,ih h.2⟩
  exact this pl p2
 have Qs:∀ i o,ops[i]? =some o->∀ k,k∈Qx o->k<i:=fun i o ho k hk=>by
  have hmz:(o,i)∈ops.toList.zipIdx:=by rw[List.mk_mem_zipIdx_iff_getElem?];simpa using ho
  have:=p5 (o,i) hmz
  simp only[List.all_eq_true]at this
  exact Nat.lt_of_succ_le (Nat.le_of_ble_eq_true (this k hk))
 have Tt:∀ i o,ops[i]? =some o->m<=i->∀ k,k<i->iz ops 64 i k=true:=fun i o ho hi k hk=>by
  have hin:i<ops.size:=(Array.getElem?_eq_some_iff.1 ho).1
  have:=p6 (i-m) (List.mem_range.2 Z9)
  rw[show m+(i-m)=i from Z9,ho]at this
  simp only[List.all_eq_true]at this
  simpa using this k (List.mem_range.2 hk)
 let Kt:AS->Prop:=fun B=> ∃ B',C6 B B'/\WL P N ops (ops.toList.drop m) B' (Q .normal)
 have WM:∀ A B,C6 A B->Kt A->Kt B:=fun A B hAB ⟨B',h1,h2⟩=>⟨B',hAB.symm.trans h1,h2⟩
 intro Pb Kb a w F hs
 refine wp_region_any hm ?_
 have b7:s3 N Pb Kb A a { w with drawn:=w.drawn+1 } F:=hs.grow (fun _ _=>rfl) (Nat.le_refl _) (fun _ h=>h) (fun g h=>.inl h) hs.sub
 obtain⟨w0,Xr⟩:∃ w0:World,w0={ w with drawn:=w.drawn+1 }:=⟨_,rfl⟩
 have Pj:x4 Kb w w0:=by rw[Xr];exact⟨rfl,rfl,rfl,Nat.le_refl _,fun _ _=>rfl,fun _ c _ _ h=>⟨c,h,rfl⟩⟩
 rw[<- Xr]at b7 ⊢
 let rem (listed:Array Bool):List Nat:=pl.filter fun j=>!listed.getD j true
 let Ph (listed:Array Bool) (A':AS):Prop:=
  (rem listed≠[]/\Md P N ops tb zs (rem listed) A' Kt)\/
  (∃ k,m<=k/\k<=ops.size/\(∀ j,j<ops.size->listed.getD j true=decide (j<k))/\WL P N ops (ops.toList.drop k) A' (Q .normal))
 have key:∀ fuel (listed:Array Bool) a w',listed.size=ops.size->QH listed ops.size=fuel->
  (∀ k o,ops[k]? =some o->listed.getD k true=true->∀ j,j∈Qx o->listed.getD j true=true)->Nx N Pb Kb w0 (Ph listed) a w'->
  wpAny P .any ops (fun e a' w'=>Nx N Pb Kb w (Q e) a' w') fuel listed a w':=by
  intro fuel
  induction fuel with
  | zero=>
    intro listed a w' hsz hu hcl hn
    have G3:=EM hu
    refine⟨?_,(Nx.step (fun _ h=>h) (fun _ h=>h) (fun _ h=>.inl h) Pj hn).mono fun A' UW=>?_⟩
    rw[List.eq_nil_iff_forall_not_mem]
    intro j hj
    rw[mem_ready]at hj
    obtain⟨h0,o,ho,_⟩:=hj
    have:=G3 j (Array.getElem?_eq_some_iff.1 ho).1
    rw[h0]at this;cases this
    rcases UW with ⟨hne,_⟩ | ⟨k,O3,LZ,UE,hw⟩
    exfalso
    apply hne
    rw[List.filter_eq_nil_iff]
    intro j hj
    rw[G3 j (by have:=(SR j).1 hj;omega)];simp
    have:k=ops.size:=by
     rcases Nat.lt_or_ge k ops.size with h | h
     have:=UE k h;rw[G3 k h]at this;simp at this
     omega
    subst this
    rw[List.drop_eq_nil_of_le Z8]at hw
    exact hw
  | succ fuel ih=>
    intro listed a w' hsz hu hcl hn
    have Q5:∀ j,j<ops.size->listed.getD j false=listed.getD j true:=fun j hj=>by
     have hj':j<listed.size:=Z9
     simp[Array.getD,hj']
    constructor
    intro hr
    exfalso
    have hex:∃ j,j<ops.size/\listed.getD j true=false:=by
     refine Classical.byContradiction fun hne=>?_
     have:QH listed ops.size=0:=by
      unfold QH
      rw[List.filter_eq_nil_iff.2]
      rfl
      intro j hj
      simp only[List.mem_range]at hj
      cases hb:listed.getD j true with
      | true=>simp
      | false=>exact absurd ⟨j,hj,hb⟩ hne
     omega
    have Wp:∀ n,∀ j,j<=n->j<ops.size->listed.getD j true=false->∃ j',j'<ops.size/\listed.getD j' true=false/\∀ i,i<j'->listed.getD i true=true:=by
     intro n
     induction n with
     | zero=>intro j hj h1 h2;exact⟨j,h1,h2,fun i hi=>by omega⟩
     | succ n ihn=>
       intro j hj h1 h2
       by_cases Xu:∃ i,i<j/\listed.getD i true=false
       obtain⟨i,hi,hf⟩:=Xu;exact ihn i Z9 Z9 hf
       exact⟨j,h1,h2,fun i hi=>by
        cases hb:listed.getD i true with
        | true=>rfl
        | false=>exact absurd ⟨i,hi,hb⟩ Xu⟩
    obtain⟨j,Vl,Pl⟩:=hex
    obtain⟨j',h1,h2,h3⟩:=Wp j j (Nat.le_refl _) Vl Pl
    have ho:ops[j']? =some ops[j']:=by simp[h1]
    have:j'∈Region.ready .any ops listed:=by
     rw[mem_ready]
     refine⟨h2,_,ho,fun e he hb=>?_⟩
     have hlt:=Qs j' _ ho e.on (by simp only[Qx,List.mem_map,List.mem_filter];exact⟨e,⟨by simpa using he,hb⟩,rfl⟩)
     rw[Q5 _ Z9];exact h3 _ hlt
    rw[hr]at this;cases this
    intro i hi
    rw[mem_ready]at hi
    obtain⟨hi0,o,ho,Vo⟩:=hi
    have hin:i<ops.size:=(Array.getElem?_eq_some_iff.1 ho).1
    have Q6:∀ k,k∈Qx o->listed.getD k true=true:=fun k hk=>by
     have hlt:=Qs i o ho k hk
     simp only[Qx,List.mem_map,List.mem_filter]at hk
     obtain⟨e,⟨he,hb⟩,rfl⟩:=hk
     rw[<- Q5 _ Z9]
     exact Vo e (by simpa using he) hb
    have Ng:∀ k,k<ops.size->(listed.setIfInBounds i true).getD k true=(if k=i then true else listed.getD k true):=fun k hk=>by
     by_cases e:k=i
     subst e;simp[Array.getD,hsz,hin]
     rw[if_neg e];exact getD_set_ne true (Ne.symm e)
    have WE:∀ k o,ops[k]? =some o->(listed.setIfInBounds i true).getD k true=true->∀ j,j∈Qx o->(listed.setIfInBounds i true).getD j true=true:=fun k o' O0 hk j hj=>by
     have O1:=(Array.getElem?_eq_some_iff.1 O0).1
     have hjk:=Qs k o' O0 j hj
     rw[Ng k O1]at hk
     rw[Ng j Z9]
     split
     rfl
     split at hk
     rename_i e;subst e;rw[ho]at O0;obtain rfl:=Option.some.inj O0;exact Q6 j hj
     exact hcl k o' O0 hk j hj
    have V6:QH (listed.setIfInBounds i true) ops.size=fuel:=by have:=Ir hin hsz hi0;omega
    have Po:∀ Rk QS,Nx N Pb Kb w0 (Ph (listed.setIfInBounds i true)) Rk QS->wpAny P .any ops (fun e a' w'=>Nx N Pb Kb w (Q e) a' w') fuel (listed.setIfInBounds i true) Rk QS:=
     fun Rk QS Oa=>ih _ Rk QS (by simpa using hsz) V6 WE Oa
    obtain⟨A',Pb',C9,F',UW,h2,h3,h4,h5,h6⟩:=hn
    rcases UW with ⟨hne,hD⟩ | ⟨k,O3,LZ,UE,hw⟩
    ·
     obtain⟨j0,hj0⟩:=List.exists_mem_of_ne_nil _ hne
     obtain⟨Vl,Pl⟩:=List.mem_filter.1 hj0
     have hj0m:=(SR j0).1 Vl
     have TD:listed.getD j0 true=false:=by simpa using Pl
     have him:i<m:=by
      rcases Nat.lt_or_ge i m with h | h
      exact h
      have:=zm hcl ho Q6 (Tt i o ho h j0 Z9);rw[TD]at this;cases this
     have hir:i∈rem listed:=List.mem_filter.2 ⟨(SR i).2 him,by rw[hi0];rfl⟩
     obtain⟨l1,l2,hl⟩:=List.append_of_mem hir
     have SM:(rem listed).Nodup:=hnd.filter _
     have RX:rem (listed.setIfInBounds i true)=l1++l2:=by
      have e1:rem (listed.setIfInBounds i true)=(rem listed).filter fun j=>j != i:=by
       show pl.filter _=(pl.filter _).filter _
       rw[List.filter_filter]
       apply List.filter_congr
       intro j hj
       rw[Ng j (by have:=(SR j).1 hj;omega)]
       by_cases e:j=i
       subst e;simp
       simp[e]
      rw[e1,hl]
      rw[hl]at SM
      rw[List.nodup_append]at SM
      obtain⟨n1,n2,n3⟩:=SM
      rw[List.filter_append,List.filter_cons]
      simp only[bne_self_eq_false,Bool.false_eq_true,if_false]
      have f1:l1.filter (fun j=>j != i)=l1:=List.filter_eq_self.2 fun j hj=>by
       have:=n3 j hj i Z8;simpa using this
      have f2:l2.filter (fun j=>j != i)=l2:=List.filter_eq_self.2 fun j hj=>by
       have:=(List.nodup_cons.1 n2).1
       simp only[bne_iff_ne,ne_eq]
       rintro rfl;exact this hj
      rw[f1,f2]
     have Wx:∀ p,p∈l1->(lk p zs=none/\indep ops tb zs p i=true)\/oK ops tb zs p i=true:=fun p hp=>by
      rcases AV (nW _ hc) hl hp with h | h
      exact h
      exfalso
      have hpr:p∈rem listed:=by rw[hl];simp[hp]
      have Wg:listed.getD p true=false:=by have:=(List.mem_filter.1 hpr).2;simpa using this
      have WH:∀ (n j:Nat),iz ops n i j=true->listed.getD j true=true:=by
       intro n j hj
       cases n with
       | zero=>simp[iz]at hj
       | succ n=>
         simp only[iz,ho]at hj
         rw[List.any_eq_true]at hj
         obtain⟨q,hq,hj⟩:=hj
         have Xz:=Q6 q hq
         rw[Bool.or_eq_true,beq_iff_eq]at hj
         rcases hj with rfl | hj
         exact Xz
         exact kB (L:=fun k=>listed.getD k true) hcl n q j hj Xz
      have:=WH 64 p h
      rw[Wg]at this;cases this
     rw[hl]at hD
     obtain⟨o',O0,hD⟩:=zw WM l1 Wx hD
     rw[ho]at O0
     obtain rfl:=Option.some.inj O0
     have SU:∀ B M7 Nb a2 w2 F2,Md P N ops tb zs (l1++l2) B Kt->s3 N M7 Nb B a2 w2 F2->∃ B' F3,Ph (listed.setIfInBounds i true) B'/\s3 N M7 Nb B' a2 w2 F3:=fun B M7 Nb a2 w2 F2 hB Xw=>by
      by_cases Qk:rem (listed.setIfInBounds i true)=[]
      rw[<- RX,Qk]at hB
      obtain⟨B',e1,e2⟩:=hB
      obtain⟨F3,LV,_⟩:=Xw.le e1.symm.le
      refine⟨B',F3,.inr ⟨m,Nat.le_refl _,XB,fun j hj=>?_,e2⟩,LV⟩
      rcases Nat.lt_or_ge j m with h | h
      have:j ∉ rem (listed.setIfInBounds i true):=by rw[Qk];simp
      have: ¬ ((!(listed.setIfInBounds i true).getD j true)=true):=fun c=>this (List.mem_filter.2 ⟨(SR j).2 h,c⟩)
      simp only[Bool.not_eq_true',Bool.not_eq_false]at this
      rw[this];simp[h]
      have hoj:ops[j]? =some ops[j]:=by simp[hj]
      rw[Ng j hj,if_neg Z9]
      cases hb:listed.getD j true with
      | false=>simp;omega
      | true=>
        have:=kB hcl 64 j j0 (Tt j _ hoj h j0 Z9) hb
        rw[TD]at this;cases this
      exact⟨B,F2,.inl ⟨Qk,by rw[RX];exact hB⟩,Xw⟩
     unfold Go.wpOp
     simp only[ho]
     split at hD
     rename_i z hz
     unfold Bk at Vr
     rw[List.all_eq_true]at Vr
     have LU:=Vr _ (Ab hz)
     simp only[ho]at LU
     rw[Bool.and_eq_true]at LU
     obtain⟨LU,hz3⟩:=LU
     split at LU
     rename_i T d K8 LL
     simp only[Bool.and_eq_true,beq_iff_eq]at LU
     have P5:Region.wanted o (yielded ops a.tmps)=true:=by unfold Region.wanted;rw[show o.guard=none from by simpa using hz3]
     rw[if_pos P5]
     rw[LL]at hD
     refine .inl (Oper.wp_mono ?_ (qu (K:=fun B=>Md P N ops tb zs (l1++l2) B Kt) K8 LL (Nat.lt_of_succ_le (Nat.le_of_ble_eq_true LU.2)) (by rw[LU.1];exact z.ok) hD Pb' C9 a w' F' _ h2))
     rintro a2 w2 ⟨B,M7,Nb,F2,k1,k2,k3,k4,k5,k6⟩
     obtain⟨B',F3,hp,LV⟩:=SU B M7 Nb a2 w2 F2 k1 k2
     exact Po a2 w2 (Nx.step h3 h4 h5 h6 ⟨B',M7,Nb,F3,hp,LV,k3,k4,k5,k6⟩)
     simp at LU
     split at hD
     obtain⟨_,_,v,hv,hD⟩:=hD
     rcases tv (hv A' (fun _ _=>rfl) (uC rfl _)) h2 with ⟨P5,K8⟩ | ⟨P5,hd,hvd⟩
     rw[if_pos P5]
     refine .inl (Oper.wp_mono ?_ (K8 Pb' C9 a w' F' _ h2))
     rintro a2 w2 ⟨B,M7,Nb,F2,k1,k2,k3,k4,k5,k6⟩
     obtain⟨B',F3,hp,LV⟩:=SU B M7 Nb a2 w2 F2 (eC WM _ k1.symm hD) k2
     exact Po a2 w2 (Nx.step h3 h4 h5 h6 ⟨B',M7,Nb,F3,hp,LV,k3,k4,k5,k6⟩)
     rw[if_neg (by simp[P5])]
     obtain⟨F2,J5⟩:=h2.pS (d:=o.dst) (v:=v) (x:=undef) hd (hvd w' Pb')
     obtain⟨B',F3,hp,LV⟩:=SU _ Pb' C9 _ w' F2 hD J5
     exact Po _ w' ⟨B',Pb',C9,F3,hp,LV,h3,h4,h5,h6⟩
     obtain⟨G,U,hE,_,hD⟩:=hD
     have P5:Region.wanted o (yielded ops a.tmps)=true:=by unfold Region.wanted;rw[hE.1]
     rw[if_pos P5]
     refine .inl (Oper.wp_mono ?_ (hE.2 A' (fun _ _=>rfl) (uC rfl _) Pb' C9 a w' F' _ h2))
     rintro a2 w2 ⟨B,M7,Nb,F2,⟨g,k1⟩,k2,k3,k4,k5,k6⟩
     obtain⟨B',F3,hp,LV⟩:=SU B M7 Nb a2 w2 F2 (eC WM _ k1.symm (hD g)) k2
     exact Po a2 w2 (Nx.step h3 h4 h5 h6 ⟨B',M7,Nb,F3,hp,LV,k3,k4,k5,k6⟩)
    ·
     have hik:i=k:=by
      rw[UE i hin]at hi0
      simp only[decide_eq_false_iff_not]at hi0
      rcases Nat.lt_or_ge k i with h | h
      have:=zm hcl ho Q6 (Tt i o ho Z9 k h)
      rw[UE k Z9]at this;simp at this
      omega
     subst hik
     have Og:ops.toList.drop i=o::ops.toList.drop (i+1):=by
      rw[List.drop_eq_getElem_cons (by simpa using hin)]
      have:ops[i]=o:=by have:=Array.getElem?_eq_some_iff.1 ho;exact this.2
      simp[this]
     rw[Og]at hw
     have SU:∀ B,WL P N ops (ops.toList.drop (i+1)) B (Q .normal)->Ph (listed.setIfInBounds i true) B:=fun B hB=>
      .inr ⟨i+1,Z9,Z9,fun j hj=>by
       rw[Ng j hj]
       split
       rename_i e;subst e;simp
       rename_i e;rw[UE j hj]
       have:(j<i)↔(j<i+1):=Z9
       simp[this],hB⟩
     unfold Go.wpOp
     simp only[ho]
     rcases tv hw h2 with ⟨P5,K8⟩ | ⟨P5,hd,u,hu,RS⟩
     rw[if_pos P5]
     refine .inl (Oper.wp_mono ?_ (K8 Pb' C9 a w' F' _ h2))
     intro a2 w2 SZ
     exact Po a2 w2 (Nx.step h3 h4 h5 h6 (SZ.mono SU))
     rw[if_neg (by simp[P5])]
     obtain⟨F2,J5⟩:=h2.pS (d:=o.dst) (v:=u) (x:=undef) hd (hu w' Pb')
     exact Po _ w' ⟨_,Pb',C9,F2,SU _ RS,J5,h3,h4,h5,h6⟩
 have Q1:∀ k,k<ops.size->(Array.replicate ops.size false).getD k true=false:=fun k hk=>by simp[Array.getD,hk]
 have RW:rem (Array.replicate ops.size false)=pl:=List.filter_eq_self.2 fun j hj=>by rw[Q1 j (by have:=(SR j).1 hj;omega)];rfl
 have x7:∃ A1 F1,Ph (Array.replicate ops.size false) A1/\s3 N Pb Kb A1 a w0 F1:=by
  by_cases hp:pl=[]
  subst hp
  obtain⟨B',e1,e2⟩:=h
  obtain⟨F3,LV,_⟩:=b7.le e1.symm.le
  have hm0:m=0:=by
   rcases Nat.eq_zero_or_pos m with h | h
   exact h
   have:=(SR 0).2 h;simp at this
  exact⟨B',F3,.inr ⟨m,Nat.le_refl _,XB,fun j hj=>by rw[Q1 j hj,hm0];simp,e2⟩,LV⟩
  exact⟨A,F,.inl ⟨by rw[RW];exact hp,by rw[RW];exact h⟩,b7⟩
 obtain⟨A1,F1,hP1,MA⟩:=x7
 exact key ops.size (Array.replicate ops.size false) a w0 Z8 (by
  unfold QH
  rw[List.filter_eq_self.2]
  simp
  intro j hj;simp only[List.mem_range]at hj;rw[Q1 j hj];rfl)
  (fun k o ho hk=>by rw[Q1 k (Array.getElem?_eq_some_iff.1 ho).1]at hk;cases hk) ⟨A1,Pb,Kb,F1,hP1,MA,fun _ h=>h,fun _ h=>h,fun _ h=>.inl h,x4.refl _ _⟩
end
end Go.Abs
namespace Go.Abs
open Go Go.RowKit
section
variable {P:Program} {N:Nat} {ops:Array Oper} {A A':AS}
theorem JR{w:World}{Pb:Nat->Prop}{v:V}{x:Value}{F:List Nat}(h:SB w Pb v x F):RV w Pb v x F:=by
 cases v with
 | gv b u=>simp[SB,R]at h
 | _=>exact h
def V.gC:V->Bool | .gv _ _=>true | _=>false
theorem za{w:World}{Pb:Nat->Prop}{v:V}{x:Value}{F:List Nat}(h:RV w Pb v x F)(hn:v.gC=false):SB w Pb v x F:=by
 cases v with
 | gv b u=>simp[V.gC]at hn
 | _=>exact h
theorem pJ{a:Act}{t:Nat}:a.put (some t) (a.tmps.getD t undef)=a:=by
 cases a with
 | mk tmps defers=>
   simp only[Act.put]
   congr 1
   apply Array.ext_getElem?
   intro i
   by_cases e:t=i
   subst e
   by_cases h:t<tmps.size
   simp[h,Array.getElem?_setIfInBounds_self]
   simp[h,Array.getElem?_setIfInBounds]
   rw[Array.getElem?_setIfInBounds_ne e]
def oI(G b:Bool)(v:V):Prop:=match v.cW||v.gC with
 | false=>G=true->b=true
 | true=>False
theorem wT{G b:Bool}{v:V}(h:oI G b v)(hG:G=true):b=true/\v.cW=false/\v.gC=false:=by
 unfold oI at h
 split at h
 rename_i e;rw[Bool.or_eq_false_iff]at e;exact⟨h hG,e.1,e.2⟩
 exact h.elim
def AS.un(G:Bool):List Operand->AS->Prop×AS
 | [],A=>(True,A)
 | .tmp t::r,A=>match A.get t with
   | .gv b v=>match AS.un G r (A.put (some t) v) with
     | (C,B)=>(oI G b v/\C,B)
   | _=>AS.un G r A
 | _::r,A=>AS.un G r A
theorem jI{w:World}{Pb Kb:Nat->Prop}{a:Act}{G:Bool}(hG:G=true):∀ (xs:List Operand) {A B:AS} {F:l7->List Nat} {C:Prop},AS.un G xs A=(C,B)->C->s3 N Pb Kb A a w F->(∀ t,Operand.tmp t∈xs->t<N)->∃ F',s3 N Pb Kb B a w F'
 | [],A,B,F,C,h,hC,hs,_=>by simp only[AS.un,Prod.mk.injEq]at h;obtain⟨_,rfl⟩:=h;exact⟨F,hs⟩
 | x::xs,A,B,F,C,h,hC,hs,hN=>by
   have O5:∀ t,Operand.tmp t∈xs->t<N:=fun t ht=>hN t (by simp[ht])
   cases x with
   | tmp t=>
     simp only[AS.un]at h
     split at h
     rename_i b v hg
     cases hu:AS.un G xs (A.put (some t) v) with
     | mk C1 B1=>
       rw[hu]at h
       simp only[Prod.mk.injEq]at h
       obtain⟨rfl,rfl⟩:=h
       have hr:=hs.slot t
       rw[hg]at hr
       have x8:=hs.put (d:=t) (v:=v) (x:=a.tmps.getD t undef) (F':=[]) (hN t Z8) (JR (hr.2.1 (wT hC.1 hG).1)) Z8 Z8 Z8
       rw[pJ]at x8
       exact jI hG xs hu hC.2 x8 O5
     exact jI hG xs h hC hs O5
   | _=>exact jI hG xs h hC hs O5
def Hb(A B:AS):Prop:=(∀ i,A.get i=B.get i\/∃ b,A.get i=.gv b (B.get i)/\b=true/\(B.get i).cW=false/\(B.get i).gC=false)/\A.h=B.h
theorem s3.wrap{w:World}{Pb Kb:Nat->Prop}{a:Act}{F:l7->List Nat}{B:AS}(hs:s3 N Pb Kb B a w F)(h:Hb A B):s3 N Pb Kb A a w F where
 size:=hs.size
 defers:=hs.defers
 slot:=fun i=>by
  rcases h.1 i with e | ⟨b,e,hb,ho,hg⟩
  rw[e];exact hs.slot i
  have hr:=hs.slot i
  rw[e]
  have hF:=vF ho hr
  rw[hF]at hr ⊢
  exact⟨rfl,fun _=>za hr hg,fun c=>by rw[hb]at c;cases c⟩
 root:=fun k g v hk=>hs.root k g v (by rw[<- h.2];exact hk)
 bX:=hs.bX
 nodup:=hs.nodup
 free:=hs.free
 sub:=hs.sub
 bound:=hs.bound
theorem mX{G:Bool}(hG:G=true):∀ (xs:List Operand) {A B:AS} {C:Prop},AS.un G xs A=(C,B)->C->Hb A B
 | [],A,B,C,h,hC=>by simp only[AS.un,Prod.mk.injEq]at h;obtain⟨_,rfl⟩:=h;exact⟨fun _=>.inl rfl,rfl⟩
 | x::xs,A,B,C,h,hC=>by
   cases x with
   | tmp t=>
     simp only[AS.un]at h
     split at h
     rename_i b v hg
     cases hu:AS.un G xs (A.put (some t) v) with
     | mk C1 B1=>
       rw[hu]at h
       simp only[Prod.mk.injEq]at h
       obtain⟨rfl,rfl⟩:=h
       obtain⟨k1,k2⟩:=mX hG xs hu hC.2
       obtain⟨hb,ho,hv⟩:=wT hC.1 hG
       refine⟨fun i=>?_,k2⟩
       have:=k1 i
       rw[AS.aC]at this
       by_cases e:i=t
       subst e
       rw[if_pos rfl]at this
       rcases this with e' | ⟨b',e',_⟩
       exact .inr ⟨b,by rw[hg,<- e'],hb,by rw[<- e'];exact ho,by rw[<- e'];exact hv⟩
       rw[e']at hv;simp[V.gC]at hv
       rw[if_neg e]at this;exact this
     exact mX hG xs h hC
   | _=>exact mX hG xs h hC
def MR(A:AS)(ops:Array Oper)(j:Nat)(b:Bool):Option Bool:=
 match ((ops[j]?).bind (·.dst)).map A.get with
 | some (.lit (.bool g))=>some (g==b)
 | some (.gv c (.lit (.bool g)))=>some (c&&(g==b))
 | _=>none
theorem pY{A:AS}{o:Oper}{j:Nat}{b G:Bool}{x y:Prop}(hg:o.guard=some (j,b))(h:MR A ops j b=some G)(hx:G=true->x)(hy:G=false->y):gd ops o A x y:=by
 unfold MR at h
 unfold gd
 rw[hg]
 simp only
 split at h
 rename_i g e
 try rw[e]
 simp only[Option.some.injEq]at h ⊢
 subst h
 split
 rename_i e';exact hx (by simp[e'])
 rename_i e';exact hy (by simp[e'])
 rename_i c g e
 try rw[e]
 simp only[Option.some.injEq]at h ⊢
 subst h
 split
 rename_i e';exact hx e'
 rename_i e';exact hy (by simpa using e')
 simp at h
def Oy(N:Nat):List Operand->Bool
 | []=>true
 | .tmp t::r=>decide (t<N)&&Oy N r
 | _::r=>Oy N r
theorem oQ:∀ {xs:List Operand},Oy N xs=true->∀ t,Operand.tmp t∈xs->t<N
 | [],_,t,ht=>by simp at ht
 | x::xs,h,t,ht=>by
   cases x with
   | tmp t'=>
     simp only[Oy,Bool.and_eq_true,decide_eq_true_eq]at h
     simp only[List.mem_cons]at ht
     rcases ht with e | ht
     injection e with e;subst e;exact h.1
     exact oQ h.2 t ht
   | _=>
     simp only[List.mem_cons,reduceCtorEq,false_or]at ht
     exact oQ (xs:=xs) (by simpa[Oy] using h) t ht
theorem FI{o:Oper} {l:List Oper} {K:AS->Prop} {j:Nat} {b G:Bool} {C C':Prop} {B:AS} {v:V} {xs:List Operand} (hg:o.guard=some (j,b)) (hG:MR A ops j b=some G) (hu:AS.un G xs A=(C,B))
 (x7:G5 P B o.op=some (C',v)) (Mn:Oy N xs=true) (hd:cy N o.dst) (hC:G=true->C/\C'/\v.gC=false)
 (hK:WL P N ops l (A.put o.dst (.gv G v)) K):WL P N ops (o::l) A K:=by
 refine pY hg hG (fun Ma=>?_) (fun R3=>?_)
 obtain⟨h1,h2,h3⟩:=hC Ma
 refine iB (v:=.gv G v) hd hK fun Pb Kb a w F hs=>?_
 obtain⟨F',x8⟩:=jI Ma _ hu h1 hs (oQ Mn)
 obtain⟨x,hx,hr⟩:=vt x7 h2 x8 rfl
 exact⟨x,hx,rfl,fun _=>za hr h3,fun h=>by rw[Ma]at h;cases h⟩
 exact⟨hd,.gv G v,fun _ _=>⟨rfl,(fun h=>by rw[R3]at h;cases h),fun _=>rfl⟩,hK⟩
theorem bw{x:Operand}(h:∀ t,x=.tmp t->A'.get t=A.get t):A'.ev x=A.ev x:=by
 cases x with
 | tmp t=>exact h t rfl
 | _=>rfl
theorem kP{x:Operand}(h:∀ t,x=.tmp t->A'.get t=A.get t):A'.cp x=A.cp x:=by
 cases x with
 | tmp t=>simp only[AS.cp,h t rfl]
 | _=>rfl
theorem uV{x:Option Operand}(h:∀ t,x=some (.tmp t)->A'.get t=A.get t):x.map A'.ev=x.map A.ev:=by
 cases x with
 | none=>rfl
 | some y=>simp only[Option.map_some,bw (x:=y) fun t e=>h t (by rw[e])]
theorem jG{G:Bool}:∀ (xs:List Operand) {A A' B:AS} {C:Prop},AS.un G xs A=(C,B)->(∀ t,Operand.tmp t∈xs->A'.get t=A.get t)->
 ∃ B',AS.un G xs A'=(C,B')/\(∀ t,A'.get t=A.get t->B'.get t=B.get t)/\B'.h=A'.h/\B.h=A.h
 | [],A,A',B,C,h,_=>by
   simp only[AS.un,Prod.mk.injEq]at h;obtain⟨rfl,rfl⟩:=h
   exact⟨A',rfl,fun _ h=>h,rfl,rfl⟩
 | x::xs,A,A',B,C,h,hx=>by
   have Mh:∀ t,Operand.tmp t∈xs->A'.get t=A.get t:=fun t ht=>hx t (by simp[ht])
   cases x with
   | tmp t=>
     have ht:=hx t Z8
     simp only[AS.un]at h ⊢
     rw[ht]
     split at h
     rename_i b v hg
     cases hu:AS.un G xs (A.put (some t) v) with
     | mk C1 B1=>
       rw[hu]at h
       simp only[Prod.mk.injEq]at h
       obtain⟨rfl,rfl⟩:=h
       obtain⟨B',k1,k2,k3,k4⟩:=jG xs (A':=A'.put (some t) v) hu (fun t' Wa=>by
        rw[AS.aC,AS.aC];split
        rfl
        exact Mh t' Wa)
       refine⟨B',by simp only[k1],fun t' Wa=>k2 t' ?_,by rw[k3];rfl,by rw[k4];rfl⟩
       rw[AS.aC,AS.aC];split
       rfl
       exact Wa
     exact jG xs h Mh
   | const c=>exact jG xs h Mh
   | global g=>exact jG xs h Mh
   | func f=>exact jG xs h Mh
theorem ej{o:Oper}{t:Nat}(h:Operand.tmp t∈o.op.operands.toList):t∈o.looksAt ops:=by
 unfold Oper.looksAt;rw[List.mem_append];exact .inl (List.mem_filterMap.2 ⟨_,h,rfl⟩)
theorem qF{xs:List Operand}(h:∀ t,Operand.tmp t∈xs->A'.get t=A.get t):xs.map A'.cp=xs.map A.cp:=by
 apply List.map_congr_left
 intro x hx
 exact kP fun t e=>h t (by rw[<- e];exact hx)
end
end Go.Abs
namespace Go.Abs
open Go Go.RowKit
section
variable {P:Program} {N:Nat} {ops:Array Oper} {A A':AS}
theorem PC.er{f:FuncId}{L:List V}{Q:V->Prop}(h:PC P f L Q):PC P f L (fun r=> ∃ r',Q r'/\r=r'.er):=by
 refine⟨h.1,fun w Pb cargs h1 h2=>(h.2 w Pb cargs h1 h2).mono ?_⟩
 rintro e w' ⟨r,x,F,Pb',rfl,q,hr,hnd,hF,k1,k2,hb⟩
 refine⟨r.er,x,[],fun g=>Pb' g\/g∈F,rfl,⟨r,q,rfl⟩,Co hr (fun g hg=>.inl hg) (fun g hg=>.inr hg),List.nodup_nil,Z8,fun g hg=>.inl (k1 g hg),fun g hg=>?_,hb⟩
 rcases hg with hg | hg
 exact k2 g hg
 exact .inr ⟨(hF g hg).1,(hF g hg).2.1⟩
theorem FT{K:AS->Prop} {d:Option Nat} {f:FuncId} {xs:Array Operand} {J9:Array TypeId} {ty:TypeId} {pos:String} {after:Array Edge} {rest:List Oper}
 {j:Nat} {b G:Bool} {C:Prop} {B:AS} {L:List V} {E:V} (hd:cy N d) (hG:MR A ops j b=some G) (hu:AS.un G xs.toList A=(C,B)) (Mn:Oy N xs.toList=true)
 (hL:xs.toList.map B.cp=L) (hc:G=true->C/\PC P f L (fun r=>r.er=E)/\E.gC=false/\E.cW=false) (hK:WL P N ops rest (A.put d (.gv G E)) K):
 WL P N ops (⟨d,.call { callee:=.value (.func f),args:=xs,argTypes:=J9 },ty,pos,after,some (j,b)⟩ :: rest) A K:=by
 subst hL
 refine pY (j:=j) (b:=b) rfl hG (fun Ma=>?_) (fun R3=>⟨hd,.gv G E,fun _ _=>⟨rfl,(fun h=>by rw[R3]at h;cases h),fun _=>rfl⟩,hK⟩)
 obtain⟨h1,h2,h3,h4⟩:=hc Ma
 intro Pb Kb a w F Q' hs
 obtain⟨F',x8⟩:=jI Ma _ hu h1 hs (oQ Mn)
 have hw:=mX Ma _ hu h1
 have I7:=nX (N:=N) (o:=⟨d,.call { callee:=.value (.func f),args:=xs,argTypes:=J9 },ty,pos,after,some (j,b)⟩) (K:=fun A'=>A'=B.put d E) (A:=B) rfl hd h2 (fun _ h=>h) rfl
 refine Oper.wp_mono ?_ (I7 Pb Kb a w F' Q' x8)
 rintro a' w' ⟨A',Pb',C9,F2,rfl,J5,k3,k4,k5,k6⟩
 refine⟨_,Pb',C9,F2,hK,J5.wrap ?_,k3,k4,k5,k6⟩
 cases d with
 | none=>exact hw
 | some d=>
   refine⟨fun i=>?_,hw.2⟩
   rw[AS.aC,AS.aC]
   by_cases e:i=d
   rw[if_pos e,if_pos e];exact .inr ⟨G,rfl,Ma,h4,h3⟩
   rw[if_neg e,if_neg e];exact hw.1 i
end
end Go.Abs
namespace Go.Abs
open Go Go.RowKit
def FH(op:BinOp)(a b:BL):Option (Prop×V):=
 match op with
 | .add=>some (a.length+b.length<=4611686018427387904,.lit (.string (Str (a++b))))
 | .eql=>some (True,.lit (.bool (a==b)))
 | .neq=>some (True,.lit (.bool (!(a==b))))
 | _=>none
def Bn(op:BinOp)(d:Option D)(x y:V):Option (Prop×V):=
 match d,x,y with
 | some .str,.lit (.string a),.lit (.string b)=>FH op a.data.toList b.data.toList
 | d,x,y=>sS op d x y
def JQ:Option D->V->V->Option (Prop×V)
 | some .str,.lit (.string s),.lit (.int _ i)=>some (0<=i/\i<s.data.toList.length,.lit (.int .u8 (s.data.toList.getD i.toNat 0).toNat))
 | _,_,_=>none
def GC(s:BL)(lo hi:Option V):Option (Prop×V):=
 match SE lo,R0 s.length hi with
 | some l,some h=>some (0<=l/\l<=h/\h<=s.length,.lit (.string (Str ((s.take h.toNat).drop l.toNat))))
 | _,_=>none
def JO(x:V)(lo hi:Option V):Option (Prop×V):=
 match x with
 | .lit (.string s)=>GC s.data.toList lo hi
 | _=>none
def Gx:Option D->V->Option (Prop×V)
 | some .str,.lit (.string s)=>some (True,.lit (.int .i64 s.data.toList.length))
 | d,x=>yS d x
def Ci(P:Program)(A:AS)(c:Call):Option (Prop×V):=
 match c.callee with
 | .builtin .len=>match c.args.toList,c.argTypes.toList with
   | [x],[T]=>Gx (tD P T) (A.ev x)
   | _,_=>none
 | .builtin .max=>match c.args.toList with
   | [x,y]=>Cj (A.ev x) (A.ev y)
   | _=>none
 | _=>none
def yF(P:Program)(d:Option D)(x:V)(j:Nat):Option (Prop×V):=
 match d with
 | some (.st fs)=>match fs[j]? with
   | some (off,T)=>match ti P T with
     | some i=>match x with
       | .agg vs=>match vs[j]? with
         | some v=>if (V.ns (vs.take j)==off&&(i.sz==v.n&&i.d.agg==v.isAgg))=true then some (True,v) else none
         | none=>none
       | _=>none
     | none=>none
   | none=>none
 | _=>none
def pX(P:Program)(d:Option D)(x:V)(j:Nat):Option (Prop×V):=
 match d with
 | some (.st fs)=>match fs[j]? with
   | some (off,T)=>match ti P T with
     | some i=>match x with
       | .ptr r p g o=>if (i.sz != 0)=true then some (True,.ptr r (p++[j]) g (o+off)) else none
       | .ep (.agg vs)=>match vs[j]? with
         | some v=>if (i.sz != 0&&V.ns (vs.take j)==off)=true then some (True,.ep v) else none
         | none=>none
       | _=>none
     | none=>none
   | none=>none
 | _=>none
def GL(A:AS)(i:Option TI)(x:V)(w7:List V):Option (Prop×V×List V):=
 match i with
 | some i=>match x with
   | .ptr r p g o=>match w7 with
     | []=>none
     | .c9::w7=>match A.at r p with
       | some (g',o',v)=>if (v.n==i.sz&&i.d.agg==v.isAgg)=true then some ((g',o')=(g,o),v.Pq r p,w7) else none
       | none=>none
     | v::w7=>if (v.n==i.sz&&i.d.agg==v.isAgg)=true then some (A.at r p=some (g,o,v),v.Pq r p,w7) else none
   | .ep v=>if (v.n==i.sz&&i.d.agg==v.isAgg)=true then some (True,v,w7) else none
   | _=>none
 | none=>none
def wO(w7:List V):Option (Prop×V)->Option (Prop×V×List V)
 | some (C,v)=>some (C,v,w7)
 | none=>none
def uq(P:Program)(d:Option D)(x i:V)(w7:List V):Option (Prop×V×List V):=
 match d,i with
 | some (.sl e),.lit (.int _ i)=>match ti P e with
   | some t=>match x with
     | .sl _ xs=>match w7 with
       | v::w7=>if (v.n==t.sz)=true then some (0<=i/\xs[i.toNat]? =some v,.ep v,w7) else none
       | []=>none
     | .hd r p sz g o lo n _=>if (sz==t.sz)=true then some (0<=i/\i<n,.ptr r (p++[lo+i.toNat]) g (o+(lo+i.toNat)*sz),w7) else none
     | _=>none
   | none=>none
 | d,i=>wO w7 (jk P d x i)
def sY(P:Program)(A:AS)(op:Op)(w7:List V):Option (Prop×V×List V):=
 match op with
 | .binOp o T x y _=>wO w7 (Bn o (tD P T) (A.ev x) (A.ev y))
 | .index T x i=>wO w7 (JQ (tD P T) (A.ev x) (A.ev i))
 | .slice T x lo hi none=>match tD P T with
   | some .str=>wO w7 (JO (A.ev x) (lo.map A.ev) (hi.map A.ev))
   | d=>wO w7 (BZ P d (A.ev x) (lo.map A.ev) (hi.map A.ev))
 | .call c=>wO w7 (Ci P A c)
 | .field T x j=>wO w7 (yF P (tD P T) (A.cp x) j)
 | .fieldAddr T x j=>wO w7 (pX P (tD P T) (A.ev x) j)
 | .load T x=>GL A (ti P T) (A.ev x) w7
 | .indexAddr T x i=>uq P (tD P T) (A.ev x) (A.ev i) w7
 | op=>wO w7 (G5 P A op)
section
variable {P:Program} {N:Nat} {ops:Array Oper} {A A':AS}
theorem pQ(s:ByteArray):Str s.data.toList=s:=by apply ByteArray.ext;simp[Str]
theorem eB{w7 Nu:List V}{x:Option (Prop×V)}{C:Prop}{v:V}(h:wO w7 x=some (C,v,Nu)):x=some (C,v):=by
 cases x with
 | none=>simp[wO]at h
 | some y=>obtain⟨a,b⟩:=y;simp only[wO,Option.some.injEq,Prod.mk.injEq]at h;obtain⟨rfl,rfl,_⟩:=h;rfl
theorem Ii{op:BinOp}{d:Option D}{x y:V}{C:Prop}{v:V}(h:Bn op d x y=some (C,v))(hC:C):∃ C',sS op d x y=some (C',v)/\C':=by
 unfold Bn at h
 split at h
 rename_i a b
 simp only[sS]
 cases op <;> simp only[FH,Option.some.injEq,Prod.mk.injEq,reduceCtorEq]at h <;> obtain⟨rfl,rfl⟩:=h
 refine⟨a.size+b.size<=4611686018427387904,?_,by rw[Array.length_toList,Array.length_toList]at hC;exact hC⟩
 simp only[vT];rw[<- HW,pQ,pQ]
 refine⟨True,?_,trivial⟩
 simp only[vT,Lib.toList_data]
 refine⟨True,?_,trivial⟩
 simp only[vT,Lib.toList_data]
 exact⟨C,h,hC⟩
theorem rY{op:Op}{w7 Nu:List V}{C:Prop}{v:V}(h:sY P A op w7=some (C,v,Nu))(hC:C):∃ C',G5 P A op=some (C',v)/\C':=by
 unfold sY at h
 split at h
 exact Ii (eB h) hC
 rename_i T x i
 have h:=eB h
 unfold JQ at h
 split at h
 rename_i s k i' e1 e2 e3
 simp only[Option.some.injEq,Prod.mk.injEq]at h
 obtain⟨rfl,rfl⟩:=h
 refine⟨0<=i'/\i'<s.size,?_,by rw[Array.length_toList]at hC;exact hC⟩
 simp only[G5,NF,EF,e1,e2,e3]
 rw[<- pQ s,JH];rfl
 simp at h
 rename_i T x lo hi
 split at h
 rename_i e
 have h:=eB h
 simp only[G5,e]
 unfold JO at h
 split at h
 rename_i s e'
 unfold GC at h
 split at h
 rename_i l hh e1 e2
 simp only[Option.some.injEq,Prod.mk.injEq]at h
 obtain⟨rfl,rfl⟩:=h
 have TN:R0 s.size (hi.map A.ev)=some hh:=by
  rw[<- e2,Array.length_toList];rfl
 refine⟨0<=l/\l<=hh/\hh<=s.size,?_,by rw[Array.length_toList]at hC;exact hC⟩
 simp only[Ce,e',Gi,e1,TN]
 rw[<- Is,pQ]
 simp at h
 simp at h
 rename_i d hd
 have h:=eB h
 refine⟨C,?_,hC⟩
 simp only[G5]
 exact h
 rename_i c
 have h:=eB h
 unfold Ci at h
 split at h
 rename_i hc
 split at h
 rename_i x T hx hT
 simp only[G5,NF,uc,hc,hx,hT]
 unfold Gx at h
 split at h
 rename_i s e1 e2
 simp only[Option.some.injEq,Prod.mk.injEq]at h
 obtain⟨rfl,rfl⟩:=h
 exact⟨True,by simp only[yS,e1,e2,ByteArray.size,Array.length_toList],trivial⟩
 exact⟨C,h,hC⟩
 simp at h
 rename_i hc
 split at h
 rename_i x y hx
 simp only[G5,NF,uc,hc,hx]
 exact⟨C,h,hC⟩
 simp at h
 simp at h
 rename_i T x j
 have h:=eB h
 simp only[G5]
 unfold yF at h
 split at h
 rename_i fs e1
 split at h
 rename_i off T' e2
 split at h
 rename_i i e3
 split at h
 rename_i vs e4
 split at h
 rename_i u e5
 split at h
 rename_i hb
 simp only[Option.some.injEq,Prod.mk.injEq]at h
 obtain⟨_,rfl⟩:=h
 simp only[Bool.and_eq_true,beq_iff_eq]at hb
 exact⟨_,by simp only[tX,e1,e2,e3,e4,e5],hb⟩
 simp at h
 simp at h
 simp at h
 simp at h
 simp at h
 simp at h
 rename_i T x j
 have h:=eB h
 simp only[G5]
 unfold pX at h
 split at h
 rename_i fs e1
 split at h
 rename_i off T' e2
 split at h
 rename_i i e3
 split at h
 rename_i r p g o e4
 split at h
 rename_i hb
 simp only[Option.some.injEq,Prod.mk.injEq]at h
 obtain⟨_,rfl⟩:=h
 exact⟨i.sz≠0,by simp only[kL,e1,e2,e3,e4],by simpa using hb⟩
 simp at h
 rename_i vs e4
 split at h
 rename_i u e5
 split at h
 rename_i hb
 simp only[Option.some.injEq,Prod.mk.injEq]at h
 obtain⟨_,rfl⟩:=h
 simp only[Bool.and_eq_true,beq_iff_eq,bne_iff_ne]at hb
 exact⟨_,by simp only[kL,e1,e2,e3,e4,e5],hb⟩
 simp at h
 simp at h
 simp at h
 simp at h
 simp at h
 simp at h
 rename_i T x
 simp only[G5]
 unfold GL at h
 split at h
 rename_i i e1
 split at h
 rename_i r p g o e2
 split at h
 simp at h
 split at h
 rename_i g1 o1 u e3
 split at h
 rename_i hb
 simp only[Option.some.injEq]at h
 obtain⟨h1,h2⟩:=Prod.mk.inj h
 obtain⟨rfl,_⟩:=Prod.mk.inj h2
 subst h1
 obtain⟨rfl,rfl⟩:=Prod.mk.inj hC
 simp only[Bool.and_eq_true,beq_iff_eq]at hb
 exact⟨g1=g1/\o1=o1/\u.n=i.sz/\i.d.agg=u.isAgg,by simp only[kC,e1,e2,e3],rfl,rfl,hb.1,hb.2⟩
 simp at h
 simp at h
 rename_i u NY _
 split at h
 rename_i hb
 simp only[Option.some.injEq,Prod.mk.injEq]at h
 obtain⟨rfl,rfl,_⟩:=h
 simp only[Bool.and_eq_true,beq_iff_eq]at hb
 exact⟨g=g/\o=o/\u.n=i.sz/\i.d.agg=u.isAgg,by simp only[kC,e1,e2,hC],rfl,rfl,hb.1,hb.2⟩
 simp at h
 rename_i u e2
 split at h
 rename_i hb
 simp only[Option.some.injEq,Prod.mk.injEq]at h
 obtain⟨_,rfl,_⟩:=h
 simp only[Bool.and_eq_true,beq_iff_eq]at hb
 exact⟨_,by simp only[kC,e1,e2],hb⟩
 simp at h
 simp at h
 simp at h
 rename_i T x i
 simp only[G5]
 unfold uq at h
 split at h
 rename_i e k i' e1 e2
 split at h
 rename_i t e3
 split at h
 rename_i full xs e4
 split at h
 rename_i u NY
 split at h
 rename_i hb
 simp only[Option.some.injEq,Prod.mk.injEq]at h
 obtain⟨rfl,rfl,_⟩:=h
 obtain⟨h0,hx⟩:=hC
 have hlt:=(List.getElem?_eq_some_iff.1 hx).1
 have hv:xs.getD i'.toNat .c9=u:=by rw[List.getD_eq_getElem?_getD,hx];rfl
 exact⟨0<=i'/\i'<xs.length/\u.n=t.sz,by simp only[jk,e1,e2,e3,e4,hv],h0,Z9,by simpa using hb⟩
 simp at h
 simp at h
 rename_i r p sz g o lo n c e4
 split at h
 rename_i hb
 simp only[Option.some.injEq,Prod.mk.injEq]at h
 obtain⟨rfl,rfl,_⟩:=h
 exact⟨0<=i'/\i'<n/\sz=t.sz,by simp only[jk,e1,e2,e3,e4],hC.1,hC.2,by simpa using hb⟩
 simp at h
 simp at h
 simp at h
 exact⟨C,eB h,hC⟩
 exact⟨C,eB h,hC⟩
theorem AS.le_refl(A:AS):A.le A:=⟨fun _=>.inr rfl,fun _=>.inr rfl⟩
theorem AS.le_trans{A B C:AS}(h:A.le B)(k:B.le C):A.le C:=
 ⟨fun i=>by
  rcases h.1 i with e | e
  exact .inl e
  rw[e];exact k.1 i,
  fun i=>by
   rcases h.2 i with e | e
   exact .inl e
   rw[e];exact k.2 i⟩
theorem FK{o:Oper}{K K':AS->Prop}(h:D' P N o A K)(hK:∀ B,K B->K' B):D' P N o A K':=
 fun Pb Kb a w F Q hs=>Oper.wp_mono (fun _ _ hn=>hn.mono hK) (h Pb Kb a w F Q hs)
def BH(A:AS):List Nat->List (Nat×(Nat×V))
 | []=>[]
 | k::ks=>match lk k A.h with
   | some v=>(k,v)::BH A ks
   | none=>BH A ks
def eF(ks hs:List Nat)(A:AS):AS:=⟨ks.map fun k=>(k,A.get k),BH A hs⟩
def lW:Op->Bool
 | .move _ | .extract _ _ | .call _ | .field _ _ _ | .fieldAddr _ _ _=>true
 | .binOp o _ _ _ _=>match o with
   | .eql | .neq | .lss | .leq | .gtr | .geq=>true
   | _=>false
 | .unOp o _ _=>match o with
   | .not=>true
   | _=>false
 | _=>false
theorem my{op:Op}{w7 Nu:List V}{C:Prop}{v:V}(ht:lW op=true)(h:sY P A op w7=some (C,v,Nu)):C:=by
 have hB:∀ {o:BinOp} {k:IntKind} {a b:Int} {C:Prop} {v:V},(o=.eql\/o=.neq\/o=.lss\/o=.leq\/o=.gtr\/o=.geq)->vu o k a b=some (C,v)->C:=by
  intro o k a b C v ho h
  rcases ho with rfl | rfl | rfl | rfl | rfl | rfl <;> (simp only[vu,jF,Option.some.injEq,Prod.mk.injEq]at h;rw[<- h.1];trivial)
 cases op with
 | move x=>have h:=eB (show wO w7 (G5 P A (.move x))=_ from h);simp only[G5,NF,Option.some.injEq,Prod.mk.injEq]at h;rw[<- h.1];trivial
 | extract x i=>
   have h:=eB (show wO w7 (G5 P A (.extract x i))=_ from h)
   simp only[G5,NF]at h
   unfold Gr at h
   repeat (split at h <;> try (solve | simp at h))
   all_goals (simp only[Option.some.injEq,Prod.mk.injEq]at h;rw[<- h.1];trivial)
 | call c=>
   have h:=eB h
   unfold Ci at h
   split at h
   split at h
   unfold Gx at h
   split at h
   simp only[Option.some.injEq,Prod.mk.injEq]at h;rw[<- h.1];trivial
   unfold yS at h
   split at h <;> first | (solve | simp at h) | (simp only[Option.some.injEq,Prod.mk.injEq]at h;rw[<- h.1];trivial)
   simp at h
   split at h
   unfold Cj at h
   split at h
   split at h
   simp only[Option.some.injEq,Prod.mk.injEq]at h;rw[<- h.1];trivial
   simp at h
   simp at h
   simp at h
   simp at h
 | field T x j=>
   have h:=eB h
   unfold yF at h
   repeat (split at h <;> try (solve | simp at h))
   all_goals (simp only[Option.some.injEq,Prod.mk.injEq]at h;rw[<- h.1];trivial)
 | fieldAddr T x j=>
   have h:=eB h
   unfold pX at h
   repeat (first | (solve | simp at h) | split at h)
   all_goals first | (solve | simp at h) | (obtain⟨rfl,_⟩:=h;trivial) | (simp only[Option.some.injEq,Prod.mk.injEq]at h;rw[<- h.1];trivial) | (split at h <;> first | (solve | simp at h) | (split at h <;> first | (solve | simp at h) | (simp only[Option.some.injEq,Prod.mk.injEq]at h;rw[<- h.1];trivial)))
 | binOp o T x y pos=>
   have h:=eB h
   have ho:o=.eql\/o=.neq\/o=.lss\/o=.leq\/o=.gtr\/o=.geq:=by cases o <;> simp[lW]at ht ⊢
   unfold Bn at h
   split at h
   rcases ho with rfl | rfl | rfl | rfl | rfl | rfl <;> simp only[FH,Option.some.injEq,Prod.mk.injEq,reduceCtorEq]at h <;> (rw[<- h.1];trivial)
   unfold sS at h
   split at h
   split at h
   exact hB ho h
   split at h
   exact hB ho h
   simp at h
   rcases ho with rfl | rfl | rfl | rfl | rfl | rfl <;> simp only[vT,Option.some.injEq,Prod.mk.injEq,reduceCtorEq]at h <;> (rw[<- h.1];trivial)
   rcases ho with rfl | rfl | rfl | rfl | rfl | rfl <;> simp only[Bt,Option.some.injEq,Prod.mk.injEq,reduceCtorEq]at h <;> (rw[<- h.1];trivial)
   simp at h
 | unOp o T x=>
   have h:=eB (show wO w7 (G5 P A (.unOp o T x))=_ from h)
   have ho:o=.not:=by cases o <;> simp[lW]at ht ⊢
   subst ho
   simp only[G5,NF]at h
   unfold VE at h
   split at h
   all_goals first | (solve | simp at h) | (simp only[Option.some.injEq,Prod.mk.injEq]at h;rw[<- h.1];trivial) | (simp_all;done)
 | _=>simp[lW]at ht
def iv:Op->List Operand
 | .pick c _ _=>[c]
 | op=>op.operands.toList
def mG(P:Program)(N:Nat)(ops:Array Oper):Nat->List Oper->List V->AS->Option (Prop×AS)
 | 0,_,_,A=>some (True,A)
 | _+1,[],_,A=>some (True,A)
 | n+1,o::rest,w7,A=>
   match o.dst with
   | none=>none
   | some d=>if d<N then
     match o.guard with
     | some (j,b)=>match MR A ops j b with
       | some G=>match AS.un G (iv o.op) A with
         | (C0,B)=>match sY P B o.op w7 with
           | some (C,v,w7)=>if (Oy N (iv o.op)&&!v.gC)=true then match mG P N ops n rest w7 (A.put (some d) (.gv G v)) with
             | some (C',A')=>some ((G=true->C0/\C)/\C',A')
             | none=>none else none
           | none=>none
       | none=>none
     | none=>match o.op with
       | .assign x=>mG P N ops n rest w7 ((A.drop x).put (some d) (A.ev x))
       | op=>match sY P A op w7 with
         | some (C,v,w7)=>match mG P N ops n rest w7 (A.put (some d) v) with
           | some (C',A')=>if lW op=true then some (C',A') else some (C/\C',A')
           | none=>none
         | none=>none
     else none
theorem oo{K:AS->Prop}:∀ (n:Nat) {l:List Oper} {w7:List V} {A A':AS} {C:Prop},
 mG P N ops n l w7 A=some (C,A')->C->WL P N ops (l.drop n) A' K->WL P N ops l A K
 | 0,l,w7,A,A',C,h,hC,hK=>by
   simp only[mG,Option.some.injEq,Prod.mk.injEq]at h;obtain⟨_,rfl⟩:=h;exact hK
 | n+1,[],w7,A,A',C,h,hC,hK=>by
   simp only[mG,Option.some.injEq,Prod.mk.injEq]at h;obtain⟨_,rfl⟩:=h;exact hK
 | n+1,o::l,w7,A,A',C,h,hC,hK=>by
   have Og:(o::l).drop (n+1)=l.drop n:=rfl
   rw[Og]at hK
   unfold mG at h
   split at h
   simp at h
   rename_i d hd
   split at h
   case isFalse=>simp at h
   rename_i Q7
   have Nh:cy N o.dst:=by rw[hd];exact Q7
   cases hg:o.guard with
   | some jb=>
     obtain⟨j,b⟩:=jb
     rw[hg]at h
     simp only at h
     split at h
     case h_2=>simp at h
     rename_i G hG
     cases hu:AS.un G (iv o.op) A with
     | mk C0 B=>
       rw[hu]at h
       simp only at h
       split at h
       case h_2=>simp at h
       rename_i C1 v NY x7
       split at h
       case isFalse=>simp at h
       rename_i Mn
       simp only[Bool.and_eq_true,Bool.not_eq_true']at Mn
       split at h
       case h_2=>simp at h
       rename_i C2 A2 hr
       simp only[Option.some.injEq,Prod.mk.injEq]at h
       obtain⟨rfl,rfl⟩:=h
       by_cases Ma:G=true
       obtain⟨C',h1,h2⟩:=rY x7 (hC.1 Ma).2
       exact FI hg hG hu h1 Mn.1 Nh (fun _=>⟨(hC.1 Ma).1,h2,Mn.2⟩) (by rw[hd];exact oo n hr hC.2 hK)
       refine pY hg hG (fun c=>absurd c Ma) (fun R3=>⟨Nh,.gv G v,fun _ _=>⟨rfl,(fun h=>absurd h Ma),fun _=>rfl⟩,?_⟩)
       rw[hd];exact oo n hr hC.2 hK
   | none=>
     rw[hg]at h
     simp only at h
     show gd ops o A _ _
     unfold gd
     rw[hg]
     simp only
     split at h
     rename_i x K8
     exact ve K8 Nh (by rw[hd];exact oo n h hC hK)
     · split at h
       case h_2=>simp at h
       rename_i C1 v NY x7
       split at h
       case h_2=>simp at h
       rename_i C2 A2 hr
       split at h
       rename_i ht
       simp only[Option.some.injEq,Prod.mk.injEq]at h
       obtain⟨rfl,rfl⟩:=h
       obtain⟨C',h1,h2⟩:=rY x7 (my ht x7)
       exact vS h1 h2 Nh (by rw[hd];exact oo n hr hC hK)
       simp only[Option.some.injEq,Prod.mk.injEq]at h
       obtain⟨rfl,rfl⟩:=h
       obtain⟨C',h1,h2⟩:=rY x7 hC.1
       exact vS h1 h2 Nh (by rw[hd];exact oo n hr hC.2 hK)
theorem DP(op:Op):∀ t,Operand.tmp t∈iv op->Operand.tmp t∈op.operands.toList:=by
 intro t ht
 cases op with
 | pick c a b=>simp only[iv,List.mem_singleton]at ht;simp[Op.operands,ht]
 | _=>exact ht
def kz(P:Program):List ResultVar->List (l7×V)->Bool
 | .cell _ T::rs,(_,v)::xs=>(match ti P T with | some i=>v.n==i.sz&&i.d.agg==v.isAgg | none=>false)&&kz P rs xs
 | .tmp _::rs,(_,v)::xs=>(match v with | .tup _=>false | .gv _ _=>false | _=>true)&&kz P rs xs
 | [],[]=>true
 | _,_=>false
theorem qb:∀ {rs:List ResultVar} {xs:List (l7×V)},kz P rs xs=true->pR P rs xs
 | [],[],_=>trivial
 | .cell t T::rs,(r,v)::xs,h=>by
   simp only[kz,Bool.and_eq_true]at h
   refine⟨?_,qb h.2⟩
   have h1:=h.1
   cases ht:ti P T with
   | none=>rw[ht]at h1;simp at h1
   | some i=>rw[ht]at h1;simpa using h1
 | .tmp t::rs,(r,v)::xs,h=>by
   simp only[kz,Bool.and_eq_true]at h
   refine⟨?_,qb h.2⟩
   have h1:=h.1
   cases v <;> first | trivial | simp at h1
 | [],_::_,h=>by simp[kz]at h
 | .cell _ _::_,[],h=>by simp[kz]at h
 | .tmp _::_,[],h=>by simp[kz]at h
def nodupB:List l7->Bool
 | []=>true
 | r::rs=>!(rs.any fun x=>decide (x=r))&&nodupB rs
theorem sP:∀ {l:List l7},nodupB l=true->l.Nodup
 | [],_=>List.nodup_nil
 | r::rs,h=>by
   simp only[nodupB,Bool.and_eq_true,Bool.not_eq_true',List.any_eq_false,decide_eq_true_eq]at h
   exact List.nodup_cons.2 ⟨fun c=>h.1 r c rfl,sP h.2⟩
abbrev iN(n:Nat):V:=.lit (.int .i64 n)
abbrev iV(x:Int):V:=.lit (.int .i64 x)
abbrev uN(n:Nat):V:=.lit (.int .u8 n)
abbrev bV(b:Bool):V:=.lit (.bool b)
abbrev sV(l:BL):V:=.lit (.string (Str l))
theorem an{α:Type}{f:α->V}{l:List α}{i:Nat}{d:α}(h:i<l.length):(l.map f)[i]? =some (f (l.getD i d)):=by
 rw[List.getElem?_map,List.getElem?_eq_getElem h,List.getD_eq_getElem?_getD,List.getElem?_eq_getElem h];rfl
theorem all_map{α:Type}{f:α->V}{l:List α}{n:Nat}(h:∀ x,(f x).n=n):∀ x∈l.map f,x.n=n:=by
 intro x hx
 obtain⟨y,_,rfl⟩:=List.mem_map.1 hx
 exact h y
end
end Go.Abs
namespace Go.Abs
open Go Go.RowKit
section
variable {P:Program} {N:Nat} {ops:Array Oper} {A A' A1:AS}
def T0(P:Program)(e:Nat)(sz:Nat):Bool:=match P.info? e with
 | some inf=>match inf.zero with
   | some z=>z.cells.size==sz
   | none=>false
 | none=>false
theorem lS{e sz:Nat}(h:T0 P e sz=true):∃ inf z,P.info? e=some inf/\inf.zero=some z/\z.cells.size=sz:=by
 unfold T0 at h
 split at h
 rename_i inf h1
 split at h
 rename_i z h2;exact⟨inf,z,h1,h2,by simpa using h⟩
 simp at h
 simp at h
def Ha(P:Program)(T:Nat):Option (List Value):=match P.info? T with
 | some inf=>match inf.zero with
   | some z=>some z.cells.toList
   | none=>none
 | none=>none
theorem dz{T:Nat}{v:V}{cs:List Value}(h:Ha P T=some cs)(hv:v.flat=some cs):nh P T v:=by
 unfold Ha at h
 split at h
 rename_i inf h1
 split at h
 rename_i z h2;exact⟨inf,z,h1,h2,by rw[hv,h]⟩
 simp at h
 simp at h
def BP(sz:Nat):List V->Bool
 | []=>true
 | v::vs=>v.isVal&&v.n==sz&&BP sz vs
theorem vE{sz:Nat}:∀ {vs:List V},BP sz vs=true->∀ v,v∈vs->v.isVal=true/\v.n=sz
 | [],_,v,hv=>by simp at hv
 | u::us,h,v,hv=>by
   simp only[BP,Bool.and_eq_true,beq_iff_eq]at h
   simp only[List.mem_cons]at hv
   rcases hv with rfl | hv
   exact h.1
   exact vE h.2 v hv
def QR(P:Program)(T e len:Nat)(i:TI)(vs:List V):Bool:=T0 P e i.sz&&vs.length==len&&Nat.ble (len*i.sz) 16777216&&Nat.blt 0 i.sz&&BP i.sz vs
theorem DA{o:Oper} {K:AS->Prop} {T e len:Nat} {b9:Array (Nat×Operand)} {i:TI} {vs:List V} (ho:o.op=.buildSlice T len b9) (hd:cy N o.dst) (hT:tD P T=some (.sl e)) (hi:ti P e=some i)
 (P8:eJ A 0 b9.toList=some vs) (hB:QR P T e len i vs=true) (hK:K (A.put o.dst (.sl true vs))):D' P N o A K:=by
 simp only[QR,Bool.and_eq_true,beq_iff_eq]at hB
 obtain⟨⟨⟨⟨h1,h2⟩,h3⟩,h4⟩,h5⟩:=hB
 obtain⟨inf,z,k1,k2,_⟩:=lS h1
 exact vQ ho hd hT hi ⟨inf,z,k1,k2⟩ P8 h2 (Nat.le_of_ble_eq_true h3) (Nat.lt_of_succ_le (Nat.le_of_ble_eq_true h4)) (vE h5) hK
theorem xA{K:AS->Prop} {d:Option Nat} {T len ty:Nat} {b9:Array (Nat×Operand)} {pos:String} {after:Array Edge} {rest:List Oper} (e:Nat) (i:TI) (vs:List V)
 (P9:tD P T=some (.sl e)/\ti P e=some i) (hd:cy N d) (P8:eJ A 0 b9.toList=some vs) (hB:QR P T e len i vs=true) (hK:WL P N ops rest (A.put d (.sl true vs)) K):
 WL P N ops (⟨d,.buildSlice T len b9,ty,pos,after,none⟩ :: rest) A K:=by
 show D' P N _ A _
 exact DA rfl hd P9.1 P9.2 P8 hB hK
theorem nZ:∀ (ps:List (Nat×Operand)) (k:Nat),(∀ t,Operand.tmp t∈ps.map (·.2)->A'.get t=A.get t)->eJ A' k ps=eJ A k ps
 | [],_,_=>rfl
 | (i,x)::r,k,h=>by
   simp only[eJ]
   rw[nZ r (k+1) (fun t ht=>h t (by simp[ht])),kP (x:=x) (fun t e=>h t (by simp[e]))]
def uY(places:List (Nat×Nat)):List V->List (Nat×V)->Option (List V)
 | zs,[]=>some zs
 | zs,(i,v)::r=>match places[i]?,zs[i]? with
   | some (off,sz),some z=>if (V.ns (zs.take i)==off&&v.n==sz&&z.n==sz&&v.isVal)=true then uY places (zs.set i v) r else none
   | _,_=>none
theorem yW{places:List (Nat×Nat)}:∀ {ps:List (Nat×V)} {zs vs:List V},uY places zs ps=some vs->∃ C,pU places zs ps=some (C,vs)/\C
 | [],zs,vs,h=>by simp only[uY,Option.some.injEq]at h;subst h;exact⟨True,rfl,trivial⟩
 | (i,v)::r,zs,vs,h=>by
   simp only[uY]at h
   split at h
   rename_i off sz z h1 h2
   split at h
   rename_i hb
   simp only[Bool.and_eq_true,beq_iff_eq]at hb
   obtain⟨C,hf,hC⟩:=yW h
   exact⟨V.ns (zs.take i)=off/\v.n=sz/\z.n=sz/\v.isVal=true/\C,by simp only[pU,h1,h2,hf],hb.1.1.1,hb.1.1.2,hb.1.2,hb.2,hC⟩
   simp at h
   simp at h
def lR(P:Program)(A:AS)(T:Nat)(zs:List V)(b9:List (Nat×Operand)):Option V:=
 match tD P T with
 | some (.st fs)=>match mD P fs with
   | some places=>match uY places zs (b9.map fun (i,x)=>(i,A.cp x)) with
     | some vs=>some (.agg vs)
     | none=>none
   | none=>none
 | _=>none
theorem xh{T:Nat}{zs:List V}{b9:List (Nat×Operand)}{v:V}(h:lR P A T zs b9=some v):∃ C,qA P A T zs b9=some (C,v)/\C:=by
 unfold lR at h
 split at h
 rename_i fs h1
 split at h
 rename_i places h2
 split at h
 rename_i vs h3
 simp only[Option.some.injEq]at h
 subst h
 obtain⟨C,hf,hC⟩:=yW h3
 exact⟨C,by simp only[qA,h1,h2,hf],hC⟩
 simp at h
 simp at h
 simp at h
theorem EX{K:AS->Prop} {d:Option Nat} {T ty:Nat} {b9:Array (Nat×Operand)} {pos:String} {after:Array Edge} {rest:List Oper} (zs:List V) (v:V)
 (hz:nh P T (.agg zs)) (hd:cy N d) (hb:lR P A T zs b9.toList=some v) (hK:WL P N ops rest (A.put d v) K):
 WL P N ops (⟨d,.build T b9,ty,pos,after,none⟩ :: rest) A K:=by
 obtain⟨C,h1,h2⟩:=xh hb
 show D' P N _ A _
 exact xa rfl hd hz h1 h2 hK
end
end Go.Abs
namespace Go.Abs
open Go Go.RowKit
section
variable {P:Program} {N:Nat} {ops:Array Oper} {A A' A1:AS}
variable {w:World} {Pb Kb:Nat->Prop} {a:Act} {F:l7->List Nat}
def n6(b:UInt8):V:=.lit (.int .u8 b.toNat)
theorem GW:∀ (bs:BL) {cs:List Value} {F:List Nat},RL w Pb (bs.map n6) cs F->cs=bs.map fun b=>Value.int .u8 (b.toNat:Int)
 | [],cs,F,h=>h.1
 | b::bs,cs,F,h=>by
   obtain⟨c1,c2,F1,F2,rfl,rfl,h1,h2⟩:=h
   rw[GW bs h2,h1.2.1];rfl
theorem yb:∀ (l:BL),RL w Pb (l.map n6) (l.map fun b=>Value.int .u8 (b.toNat:Int)) []
 | []=>⟨rfl,rfl⟩
 | b::l=>⟨[.int .u8 (b.toNat:Int)],_,[],[],rfl,rfl,⟨rfl,rfl,rfl⟩,yb l⟩
theorem oC:∀ (bs:BL),V.aG (bs.map n6)=false
 | []=>rfl
 | b::bs=>by simp[V.aG,n6,V.cW,oC bs]
theorem qR(bs:BL):aL 1 (bs.map n6):=fun x hx=>by
 obtain⟨b,_,rfl⟩:=List.mem_map.1 hx;rfl
theorem AQ:∀ (bs l:BL),(bs.map fun b=>(b.toNat:Int)).foldl (fun (r:ByteArray) n=>r.push (UInt8.ofNat n.toNat)) (Str l)=Str (l++bs)
 | [],l=>by simp
 | b::bs,l=>by
   simp only[List.map_cons,List.foldl_cons]
   have:(Str l).push (UInt8.ofNat (b.toNat:Int).toNat)=Str (l++[b]):=by
    apply ByteArray.ext
    simp[Str,ByteArray.push]
   rw[this,AQ bs];simp
theorem rz{o:Oper} {K:AS->Prop} {src dst e:Nat} {x:Operand} {C:Prop} {bs:BL} (ho:o.op=.convert src dst x) (hd:cy N o.dst) (h1:tD P src=some (.sl e)) (h2:tD P e=some (.int .u8)) (h3:tD P dst=some .str)
 (hx:Nt A x=some (C,bs.map n6)) (hC:C) (hK:K (A.put o.dst (sV bs))):D' P N o A K:=by
 refine iB hd hK fun Pb Kb a w F hs=>?_
 obtain⟨B,c,flat,hv,hr,hf,hl⟩:=nj (P:=P) hs hx hC (qR bs) (oC bs)
 obtain⟨td,V8,LX⟩:=cG h1
 obtain⟨QT,M9,PA⟩:=cG h2
 obtain⟨VG,V7,Vq⟩:=cG h3
 cases td <;> simp[dm]at LX
 cases QT <;> simp[dm]at PA
 cases VG <;> simp[dm]at Vq
 subst LX PA
 refine⟨.string (Str bs),?_,de rfl⟩
 have Qo:=GW bs hr
 simp only[execOp,ho,hv,Sem.run_bind,run_convert_bytes_string w src dst _ B _ c V8 M9 V7]
 have y9:(Conv.bytesToString (.slice B (bs.map n6).length c)).run P w=.ok (.string (Str bs)) w:=by
  cases B with
  | none=>
    have:=hf w (fun _=>rfl)
    rw[hv]at this
    simp only[Builtin.firstCells]at this
    have hb:flat=[]:=by
     have h:=this
     simp at h
     exact h
    rw[Qo]at hb
    have:bs=[]:=by simpa using hb
    subst this
    rfl
  | some ad=>
    have:=hf w (fun _=>rfl)
    rw[hv]at this
    simp only[Builtin.firstCells,Nat.mul_one]at this
    rw[run_bytesToString w ad _ c (bs.map fun b=>(b.toNat:Int)) (by rw[this,Qo];simp[List.map_map,Function.comp_def])]
    have:=AQ bs []
    simp only[List.nil_append]at this
    rw[<- this];rfl
 rw[y9];rfl
theorem zA{o:Oper} {K:AS->Prop} {src dst e d:Nat} {x:Operand} {l:BL} (ho:o.op=.convert src dst x) (hd:o.dst=some d) (hN:d<N) (h1:tD P src=some .str) (h2:tD P dst=some (.sl e)) (h3:tD P e=some (.int .u8))
 (hx:A.ev x=sV l) (hK:∀ g c,K (A.put (some d) (.own 1 (l.map n6) g 0 c))):D' P N o A K:=by
 intro Pb Kb a w F Q hs
 obtain⟨td,V8,LX⟩:=cG h1
 obtain⟨QT,M9,PA⟩:=cG h2
 obtain⟨VG,V7,Vq⟩:=cG h3
 cases td <;> simp[dm]at LX
 cases QT <;> simp[dm]at PA
 cases VG <;> simp[dm]at Vq
 obtain rfl:=PA
 subst Vq
 rename_i el
 have S9:=bT hs hx
 have y9:=Lib.run_convert_string_bytes (P:=P) w src dst _ (Str l) V8 M9 V7
 unfold Oper.wp
 have Mh:(execOp a.eval o).run P w=.ok (.value (.slice (some ⟨w.heap.size,0,none⟩) (Str l).size (grownCap w (Str l).size 0 el))) (Lib.bytesWorld w el (Str l)):=by
  simp only[execOp,ho,S9,Sem.run_bind,y9,Result.andThen_ok];rfl
 rw[Mh,Oper.upon_value,hd]
 have hold:=fun j (hj:j<w.heap.size)=>Lib.bytesWorld_at_old w el (Str l) j hj
 have hsz:=Lib.bytesWorld_size w el (Str l)
 have Ny:=Lib.bytesWorld_at_new w el (Str l)
 obtain⟨w',RS⟩:∃ w',w'=Lib.bytesWorld w el (Str l):=⟨_,rfl⟩
 obtain⟨c,hc⟩:∃ c,c=grownCap w (Str l).size 0 el:=⟨_,rfl⟩
 have hcap:l.length<=c:=by
  rw[hc,<- gV]
  simp only[grownCap,Question.cut];exact Nat.le_add_right _ _
 have O2:x4 Kb w w':=by
  rw[RS];exact⟨rfl,rfl,rfl,Z9,fun g hg=>hold g (hs.bound g hg),Shp.of_eq hold⟩
 have x8:s3 N Pb Kb A a w' F:=hs.grow (by rw[RS];exact hold) (by rw[RS];omega) (fun _ h=>h) (fun g h=>.inl h) hs.sub
 rw[<- RS,<- hc]
 have S8:∀ r g,g∈F r->g≠w.heap.size:=fun r g hg=>by have:=(hs.free r g hg).2;omega
 have Oj: ¬ Kb w.heap.size:=fun h=>by have:=hs.bound _ h;omega
 by_cases h0:c=0
 have Tz:l=[]:=List.eq_nil_of_length_eq_zero Z9
 subst Tz
 have hrv:RV w' Pb (.own 1 (([]:BL).map n6) 0 0 0) (.slice (some ⟨w.heap.size,0,none⟩) (Str []).size c) []:=.inl ⟨rfl,rfl,rfl,some ⟨w.heap.size,0,none⟩,by rw[h0];rfl⟩
 exact⟨_,Pb,Kb,_,hK 0 0,x8.put hN (F':=[]) hrv Z8 List.nodup_nil Z8,fun _ h=>h,fun _ h=>h,fun _ h=>.inl h,O2⟩
 have hrv:RV w' Pb (.own 1 (l.map n6) w.heap.size 0 c) (.slice (some ⟨w.heap.size,0,none⟩) (Str l).size c) [w.heap.size]:=by
  refine .inr ⟨Z9,Z9,by simpa using hcap,?_,qR l,fun h=>Oj (hs.sub _ h),l.map (fun b=>Value.int .u8 (b.toNat:Int)),[],Lib.bytesCells w el (Str l),rfl,yb l,?_,?_,?_⟩
  simp[gV]
  exact⟨el,((Lib.bytesCells w el (Str l)).size,(Lib.bytesCells w el (Str l)).size+1),by rw[RS];exact Ny,fun i hi=>by simp;omega⟩
  simp only[Lib.bytesCells,Array.size_append,Array.size_map,Array.size_replicate,<- hc]
  have:(Str l).data.size=l.length:=by simp[Str]
  rw[this,gV];omega
  intro j u hu
  simp only[List.getElem?_map,Option.map_eq_some_iff]at hu
  obtain⟨b,hb,rfl⟩:=hu
  have hj:j<l.length:=(List.getElem?_eq_some_iff.1 hb).1
  simp only[Lib.bytesCells,Nat.zero_add]
  rw[Array.getElem?_append_left (by simp[Str];exact hj)]
  simp[Str,hb]
 refine⟨_,Pb,Kb,_,hK w.heap.size c,x8.put hN (F':=[w.heap.size]) hrv ?_ Z8 ?_,fun _ h=>h,fun _ h=>h,fun _ h=>.inl h,O2⟩
 intro r _ g hg Od
 simp only[List.mem_singleton]at hg
 exact S8 r g Od hg
 intro g hg
 simp only[List.mem_singleton]at hg
 subst hg
 exact⟨Oj,by rw[RS];omega⟩
theorem zQ{K:AS->Prop} {d:Option Nat} {src dst ty:Nat} {x:Operand} {pos:String} {after:Array Edge} {rest:List Oper} (e:Nat) (C:Prop) (bs:BL)
 (ht:tD P src=some (.sl e)/\tD P e=some (.int .u8)/\tD P dst=some .str) (hd:cy N d) (hx:Nt A x=some (C,bs.map n6)) (hC:C) (hK:WL P N ops rest (A.put d (sV bs)) K):
 WL P N ops (⟨d,.convert src dst x,ty,pos,after,none⟩ :: rest) A K:=by
 show D' P N _ A _
 exact rz rfl hd ht.1 ht.2.1 ht.2.2 hx hC hK
theorem zT{K:AS->Prop} {d src dst ty:Nat} {x:Operand} {pos:String} {after:Array Edge} {rest:List Oper} (e:Nat) (l:BL)
 (ht:tD P src=some .str/\tD P dst=some (.sl e)/\tD P e=some (.int .u8)) (hN:d<N) (hx:A.ev x=sV l) (hK:∀ g c,WL P N ops rest (A.put (some d) (.own 1 (l.map n6) g 0 c)) K):
 WL P N ops (⟨some d,.convert src dst x,ty,pos,after,none⟩ :: rest) A K:=by
 show D' P N _ A _
 exact zA rfl rfl hN ht.1 ht.2.1 ht.2.2 hx hK
end
end Go.Abs
namespace Go.Abs
open Go Go.RowKit
section
variable {P:Program} {N:Nat} {ops:Array Oper} {A A' A1:AS}
variable {w:World} {Pb Kb:Nat->Prop} {a:Act} {F:l7->List Nat}
theorem s3.ym(hs:s3 N Pb Kb A a w F){t:Nat}{v:V}(ht:t<N)(h:RV w Pb v (a.tmps.getD t undef) (F (.slot t))):s3 N Pb Kb (A.put (some t) v) a w F:=by
 have h2:=hs.put (d:=t) (v:=v) (x:=a.tmps.getD t undef) (F':=F (.slot t)) ht h (fun r hr g hg=>hs.bX _ _ (Ne.symm hr) g hg) (hs.nodup _) (fun g hg=>hs.free _ g hg)
 rw[pJ]at h2
 have e:bY F (.slot t) (F (.slot t))=F:=by
  funext r;unfold bY;split
  rename_i e;rw[e]
  rfl
 rw[e]at h2
 exact h2
theorem s3.gM(hs:s3 N Pb Kb A a w F){t i sz n g o c:Nat}{xs:List V}(ht:t<N)(hi:i<N)(Tu:t≠i)(h1:A.get t=.hd (.slot i) [] sz g o 0 n c)(h2:A.get i=.own sz xs g o c)(hn:n=xs.length):
 ∃ F',s3 N Pb Kb ((A.put (some i) .c9).put (some t) (.own sz xs g o c)) a w F':=by
 subst hn
 obtain⟨Fx,F1,hr,MA,hnd,u0,hfr,_⟩:=hs.take (.tmp i)
 rw[py h2]at MA
 have hr:RV w Pb (A.get i) (a.tmps.getD i undef) Fx:=hr
 rw[h2]at hr
 have hh:=hs.slot t
 rw[h1]at hh
 obtain⟨_,hle,B,hv,hB⟩:=hh
 have hv:a.tmps.getD t undef=.slice B xs.length c:=(List.cons.inj hv).1
 have E0:RV w Pb (.own sz xs g o c) (a.tmps.getD t undef) Fx:=by
  rw[hv]
  rcases hr with ⟨rfl,rfl,rfl,A0,_⟩ | ⟨k1,k2,k3,k4,k5⟩
  exact .inl ⟨rfl,rfl,rfl,B,rfl⟩
  have:=hB k1
  rw[Nat.zero_mul,Nat.add_zero]at this
  subst this
  exact .inr ⟨k1,k2,k3,rfl,k5⟩
 have h3:=MA.put (d:=t) (v:=.own sz xs g o c) (x:=a.tmps.getD t undef) (F':=Fx) ht E0 (fun r _ g hg=>u0 r g hg) hnd hfr
 rw[pJ]at h3
 exact⟨_,h3⟩
theorem cM{α:Type}{f:α->V}(hf:∀ x,(f x).cW=false):∀ (l:List α),V.aG (l.map f)=false
 | []=>rfl
 | x::l=>by simp only[List.map_cons,V.aG,hf x,cM hf l,Bool.or_self]
theorem ee{α:Type}{f:α->V}{n:Nat}(hf:∀ x,(f x).n=n)(l:List α):aL n (l.map f):=fun x hx=>by
 obtain⟨y,_,rfl⟩:=List.mem_map.1 hx;exact hf y
theorem aR{α:Type}{f:α->V}(hf:∀ x,(f x).er=f x):∀ (l:List α),V.D5 (l.map f)=l.map f
 | []=>rfl
 | x::l=>by simp only[List.map_cons,V.D5,hf x,aR hf l]
end
end Go.Abs
namespace Go.Abs
open Go Go.RowKit
section
variable {P:Program} {N:Nat} {ops:Array Oper} {A A' A1:AS}
variable {w:World} {Pb Kb:Nat->Prop} {a:Act} {F:l7->List Nat}
theorem yZ{o:Oper} {K:AS->Prop} {x y:Operand} {J9:Array TypeId} {k:IntKind} {p q r:Int} {b:Builtin} (ho:o.op=.call { callee:=.builtin b,args:= #[x,y],argTypes:=J9 }) (hd:cy N o.dst)
 (hx:A.ev x=.lit (.int k p)) (hy:A.ev y=.lit (.int k q)) (hb:(b=.max/\r=max p q)\/(b=.min/\r=min p q)) (hK:K (A.put o.dst (.lit (.int k r)))):D' P N o A K:=by
 refine iB hd hK fun Pb Kb a w F hs=>⟨.int k r,?_,de rfl⟩
 have e:(#[x,y].map a.eval)= #[.int k p,.int k q]:=by simp[bT hs hx,bT hs hy]
 rcases hb with ⟨rfl,rfl⟩ | ⟨rfl,rfl⟩
 simp only[execOp,ho,resolve,invoke,builtin,Sem.run_bind,Sem.run_pure,Result.andThen_ok,e,Lib.run_max_ints]
 simp only[execOp,ho,resolve,invoke,builtin,Sem.run_bind,Sem.run_pure,Result.andThen_ok,e,Lib.run_min_ints]
theorem Jp{K:AS->Prop} {d:Option Nat} {x y:Operand} {J9:Array TypeId} {ty:TypeId} {pos:String} {after:Array Edge} {rest:List Oper} (k:IntKind) (p q:Int) (hd:cy N d)
 (hx:A.ev x=.lit (.int k p)) (hy:A.ev y=.lit (.int k q)) (hK:WL P N ops rest (A.put d (.lit (.int k (max p q)))) K):
 WL P N ops (⟨d,.call { callee:=.builtin .max,args:= #[x,y],argTypes:=J9 },ty,pos,after,none⟩ :: rest) A K:=by
 show D' P N _ A _
 exact yZ rfl hd hx hy (.inl ⟨rfl,rfl⟩) hK
theorem IY{K:AS->Prop} {d:Option Nat} {x y:Operand} {J9:Array TypeId} {ty:TypeId} {pos:String} {after:Array Edge} {rest:List Oper} (k:IntKind) (p q:Int) (hd:cy N d)
 (hx:A.ev x=.lit (.int k p)) (hy:A.ev y=.lit (.int k q)) (hK:WL P N ops rest (A.put d (.lit (.int k (min p q)))) K):
 WL P N ops (⟨d,.call { callee:=.builtin .min,args:= #[x,y],argTypes:=J9 },ty,pos,after,none⟩ :: rest) A K:=by
 show D' P N _ A _
 exact yZ rfl hd hx hy (.inr ⟨rfl,rfl⟩) hK
theorem DB{sz g o c lo n c':Nat} {xs:List V} {x y:Value} {Fx:List Nat} (hr:R w Pb (.own sz xs g o c) [x] Fx) (hle:n<=c') {B:Option Addr} (hy:y=.slice B n c') (hB:0<c'->B=some ⟨g,o+lo*sz,none⟩)
 (hn:lo+n<=xs.length) (hc:lo+c'<=c) (ho:V.aG xs=false):∃ F',R w Pb (.own sz ((xs.drop lo).take n) g (o+lo*sz) c') [y] F'/\∀ z,z∈F'->z∈Fx:=by
 subst hy
 by_cases h0:c'=0
 subst h0
 have:n=0:=Z9
 subst this
 exact⟨[],.inl ⟨rfl,Z8,rfl,B,rfl⟩,Z8⟩
 rcases hr with ⟨rfl,_⟩ | ⟨h1,h2,h3,_,hN,hP,flat,F',cells,hF,M3,hb,hsz,r8⟩
 omega
 have hF0:=fG xs ho M3
 subst hF0
 obtain⟨c1,OE,MC⟩:=oy xs lo M3
 obtain⟨c3,Tx,UL⟩:=pb _ n OE
 have hlen:((xs.drop lo).take n).length=n:=Z0
 refine⟨[g],.inr ⟨Z9,h2,Z9,?_,fun z hz=>hN z (List.mem_of_mem_drop (List.mem_of_mem_take hz)),hP,c3,[],cells,rfl,Tx,hb,?_,fun j u hu=>?_⟩,by rw[hF];simp⟩
 rw[hlen,hB Z9]
 have:(lo+c')*sz<=c*sz:=Nat.mul_le_mul_right _ hc
 rw[Nat.add_mul]at this;omega
 have:=MC j u (UL j u hu)
 rw[dL xs lo hN Z9]at this
 have:=r8 _ _ this
 rw[Nat.add_assoc];exact this
theorem Cw{K:AS->Prop} {i:Nat} {x:Operand} {ty:TypeId} {pos:String} {after:Array Edge} {rest:List Oper} (lo n c':Nat) {sz g o c:Nat} (xs:List V) (hi:i<N)
 (hx:A.ev x=.hd (.slot i) [] sz g o lo n c') (h2:A.get i=.own sz xs g o c) (hn:lo+n<=xs.length) (hc:lo+c'<=c) (ho:V.aG xs=false)
 (hK:WL P N ops rest (A.put (some i) (.own sz ((xs.drop lo).take n) g (o+lo*sz) c')) K):WL P N ops (⟨some i,.assign x,ty,pos,after,none⟩ :: rest) A K:=by
 show D' P N _ A _
 intro Pb Kb a w F Q hs
 obtain⟨_,hr⟩:=dy hs x
 rw[hx]at hr
 obtain⟨_,hle,B,hv,hB⟩:=hr
 have hv:a.eval x=.slice B n c':=(List.cons.inj hv).1
 have M':=hs.slot i
 rw[h2]at M'
 obtain⟨F',E0,Nf⟩:=DB (w:=w) (Pb:=Pb) M' hle hv hB hn hc ho
 have hnd:F'.Nodup:=by
  rcases E0 with ⟨_,_,rfl,_⟩ | ⟨_,_,_,_,_,_,flat,F2,cells,hF,M3,_⟩
  exact List.nodup_nil
  have:=fG _ (by
   have:=qf xs lo ho
   have h3:∀ (l:List V) (k:Nat),V.aG l=false->V.aG (l.take k)=false:=by
    intro l
    induction l with
    | nil=>intro k _;simp[V.aG]
    | cons v l ih=>
      intro k h
      cases k with
      | zero=>rfl
      | succ k=>simp only[List.take_succ_cons,V.aG,Bool.or_eq_false_iff]at h ⊢;exact⟨h.1,ih k h.2⟩
   exact h3 _ n this) M3
  subst this
  rw[hF];simp
 unfold Oper.wp
 have:(execOp a.eval ⟨some i,.assign x,ty,pos,after,none⟩).run P w=.ok (.value (a.eval x)) w:=rfl
 rw[this,Oper.upon_value]
 exact⟨_,Pb,Kb,_,hK,hs.put hi E0 (fun r hr g hg=>fun Od=>hs.bX _ _ (Ne.symm hr) g (Nf g hg) Od) hnd (fun g hg=>hs.free _ g (Nf g hg)),fun _ h=>h,fun _ h=>h,fun _ h=>.inl h,x4.refl _ _⟩
end
end Go.Abs
namespace Go.Abs
open Go Go.RowKit
section
variable {P:Program} {N:Nat} {ops:Array Oper} {A A' A1:AS}
variable {w:World} {Pb Kb:Nat->Prop} {a:Act} {F:l7->List Nat}
end
end Go.Abs
namespace Go.Abs
open Go Go.RowKit
section
variable {P:Program} {N:Nat} {ops:Array Oper} {A A' A1:AS}
def vZ(A:AS):List ResultVar->Option (Prop×List (l7×V))
 | []=>some (True,[])
 | r::rs=>match vZ A rs with
   | some (C,xs)=>match r with
     | .tmp t=>some (C,(.slot t,A.get t)::xs)
     | .cell t _=>match A.get t with
       | .ptr (.key k) [] g 0=>match lk k A.h with
         | some (g',v)=>some (g'=g/\C,(.key k,v)::xs)
         | none=>none
       | _=>none
   | none=>none
theorem rI:∀ {rs:List ResultVar} {C:Prop} {xs:List (l7×V)},vZ A rs=some (C,xs)->C->pw A rs=some xs
 | [],C,xs,h,_=>by simp only[vZ,Option.some.injEq,Prod.mk.injEq]at h;rw[<- h.2];rfl
 | r::rs,C,xs,h,hC=>by
   simp only[vZ]at h
   split at h
   case h_2=>simp at h
   rename_i C1 xs1 hr
   cases r with
   | tmp t=>
     simp only[Option.some.injEq,Prod.mk.injEq]at h
     obtain⟨rfl,rfl⟩:=h
     simp only[pw,zF,rI hr hC]
   | cell t T=>
     simp only at h
     split at h
     rename_i k g hg
     split at h
     rename_i g' v hk
     simp only[Option.some.injEq,Prod.mk.injEq]at h
     obtain⟨rfl,rfl⟩:=h
     obtain⟨rfl,hC⟩:=hC
     simp only[pw,zF,hg,hk,if_true,rI hr hC]
     simp at h
     simp at h
end
end Go.Abs
namespace Go.Abs
open Go Go.RowKit
mutual
def V.kill:V->V
 | .own .. =>.c9
 | .ow .. =>.c9
 | .om .. =>.c9
 | .agg vs=>.agg (V.jz vs)
 | v=>v
def V.jz:List V->List V
 | []=>[]
 | v::vs=>v.kill::V.jz vs
end
section
variable {P:Program} {N:Nat} {ops:Array Oper} {A A' A1:AS}
variable {w:World} {Pb Kb:Nat->Prop} {a:Act} {F:l7->List Nat}
mutual
theorem yY:∀ v:V,v.kill.n=v.n
 | .own .. =>rfl
 | .ow .. =>rfl
 | .om .. =>rfl
 | .mp .. =>rfl
 | .agg vs=>by simp only[V.kill,V.n];exact Az vs
 | .tup _=>rfl | .gv _ _=>rfl | .lit _=>rfl | .sl .. =>rfl | .hd .. =>rfl | .ptr .. =>rfl | .ep _=>rfl | .c9=>rfl
theorem Az:∀ vs:List V,V.ns (V.jz vs)=V.ns vs
 | []=>rfl
 | v::vs=>by simp only[V.jz,V.ns,yY v,Az vs]
end
mutual
theorem CH:∀ (v:V) {cs F},R w Pb v cs F->R w Pb v.kill cs []
 | .own sz xs g o c,cs,F,h=>by
   rcases h with ⟨_,_,_,B,rfl⟩ | ⟨_,_,_,rfl,_⟩ <;> exact⟨rfl,_,rfl,rfl⟩
 | .ow sz xs,cs,F,h=>by
   obtain⟨g,o,c,h⟩:=h
   rcases h with ⟨_,_,_,B,rfl⟩ | ⟨_,_,_,rfl,_⟩ <;> exact⟨rfl,_,rfl,rfl⟩
 | .om ..,_,_,h=>⟨rfl,_,h.2.1,rfl⟩
 | .mp ..,_,_,h=>⟨rfl,h.2⟩
 | .agg vs,cs,F,h=>by simp only[R,V.kill]at h ⊢;exact Bf vs h
 | .tup _,_,_,h=>by simp[R]at h
 | .gv _ _,_,_,h=>by simp[R]at h
 | .lit x,_,_,h=>⟨h.1,h.2.1,rfl⟩
 | .sl ..,_,_,h=>⟨rfl,h.2⟩
 | .hd ..,_,_,h=>⟨rfl,h.2⟩
 | .ptr ..,_,_,h=>⟨rfl,h.2⟩
 | .ep _,_,_,h=>⟨rfl,h.2⟩
 | .c9,_,_,h=>⟨rfl,h.2⟩
theorem Bf:∀ (vs:List V) {cs F},RL w Pb vs cs F->RL w Pb (V.jz vs) cs []
 | [],_,_,h=>⟨h.1,rfl⟩
 | v::vs,_,_,h=>by
   obtain⟨c1,c2,F1,F2,rfl,rfl,h1,h2⟩:=h
   exact⟨c1,c2,[],[],rfl,rfl,CH v h1,Bf vs h2⟩
end
def jx(F F1 F2:List Nat):Prop:=(∀ y,y∈F1->y∈F)/\(∀ y,y∈F2->y∈F)/\(F.Nodup->F1.Nodup/\F2.Nodup/\∀ y,y∈F1->y ∉ F2)
theorem jx.Vb{X F Y F1 F2:List Nat}(h:jx F F1 F2):jx (X++F++Y) (X++F1++Y) F2:=by
 obtain⟨h1,h2,h3⟩:=h
 refine⟨fun y hy=>?_,fun y hy=>by simp[h2 y hy],fun hnd=>?_⟩
 simp only[List.mem_append]at hy ⊢
 rcases hy with (hy | hy) | hy
 exact .inl (.inl hy)
 exact .inl (.inr (h1 y hy))
 exact .inr hy
 simp only[List.nodup_append,List.mem_append]at hnd ⊢
 obtain⟨⟨n1,n2,n3⟩,n4,n5⟩:=hnd
 obtain⟨k1,k2,k3⟩:=h3 n2
 refine⟨⟨⟨n1,k1,fun p hp q hq=>n3 p hp q (h1 q hq)⟩,n4,fun p hp q hq=>?_⟩,k2,fun y hy Ts=>?_⟩
 rcases hp with hp | hp
 exact n5 p (.inl hp) q hq
 exact n5 p (.inr (h1 p hp)) q hq
 rcases hy with (hy | hy) | hy
 exact n3 y hy y (h2 y Ts) rfl
 exact k3 y hy Ts
 exact n5 y (.inr (h2 y Ts)) y hy rfl
theorem ml:∀ (vs:List V) {cs F} {j:Nat} {u u':V},RL w Pb vs cs F->vs[j]? =some u->∃ c Fa Fj Fb,F=Fa++Fj++Fb/\R w Pb u c Fj/\(∀ i x,c[i]? =some x->cs[V.ns (vs.take j)+i]? =some x)/\
 ∀ Ti,R w Pb u' c Ti->RL w Pb (vs.set j u') cs (Fa++Ti++Fb)
 | [],_,_,_,_,_,_,h=>by simp at h
 | v::vs,cs,F,0,u,u',h,hj=>by
   obtain⟨c1,c2,F1,F2,rfl,rfl,h1,h2⟩:=h
   simp at hj;subst hj
   refine⟨c1,[],F1,F2,Z8,h1,fun i x hx=>?_,fun Ti hr=>⟨c1,c2,Ti,F2,rfl,Z8,hr,h2⟩⟩
   simp only[List.take_zero,V.ns,Nat.zero_add]
   rw[List.getElem?_append_left (List.getElem?_eq_some_iff.1 hx).1];exact hx
 | v::vs,cs,F,j+1,u,u',h,hj=>by
   obtain⟨c1,c2,F1,F2,rfl,rfl,h1,h2⟩:=h
   obtain⟨c,Fa,Fj,Fb,rfl,k1,k2,k3⟩:=ml vs (u':=u') h2 (by simpa using hj)
   refine⟨c,F1++Fa,Fj,Fb,Z8,k1,fun i x hx=>?_,fun Ti hr=>⟨c1,c2,F1,Fa++Ti++Fb,rfl,Z8,h1,k3 Ti hr⟩⟩
   have hl:=eg _ h1
   simp only[List.take_succ_cons,V.ns]
   rw[List.getElem?_append_right Z9]
   rw[show v.n+V.ns (vs.take j)+i-c1.length=V.ns (vs.take j)+i by omega]
   exact k2 i x hx
theorem jx.refl(F:List Nat):jx F [] F:=⟨Z8,fun _ h=>h,fun h=>⟨List.nodup_nil,h,Z8⟩⟩
theorem rO:∀ (p:List Nat) {v u:V} {g o g' o':Nat} {cs:List Value} {F:List Nat} {cells:Array Value},R w Pb v cs F->Blk w g cells->(∀ j x,cs[j]? =some x->cells[o+j]? =some x)->V.at g o v p=some (g',o',u)->
 ∃ F1 Fu,R w Pb (v.set p u.kill) cs F1/\At w Pb u g' o' Fu/\jx F F1 Fu
 | [],v,u,g,o,g',o',cs,F,cells,h,hb,hc,e=>by
   simp only[V.at,Option.some.injEq,Prod.mk.injEq]at e
   obtain⟨rfl,rfl,rfl⟩:=e
   exact⟨[],F,by simpa only[V.set] using CH v h,⟨cs,cells,hb,h,hc⟩,jx.refl F⟩
 | j::p,v,u,g,o,g',o',cs,F,cells,h,hb,hc,e=>by
   cases v with
   | agg vs=>
     simp only[V.at]at e
     split at e
     case h_2=>simp at e
     rename_i x hx
     simp only[R]at h
     obtain⟨c,Fa,Fj,Fb,rfl,k1,k2,k3⟩:=ml vs (u':=x.set p u.kill) h hx
     obtain⟨F1,Fu,m1,m2,m3⟩:=rO p k1 hb (o:=o+V.ns (vs.take j)) (fun i y hy=>by rw[Nat.add_assoc];exact hc _ _ (k2 i y hy)) e
     exact⟨Fa++F1++Fb,Fu,by simp only[V.set,hx,R];exact k3 F1 m1,m2,m3.Vb⟩
   | own sz xs g0 o0 c0=>
     simp only[V.at]at e
     split at e
     case h_2=>simp at e
     rename_i x hx
     rcases h with ⟨_,rfl,_⟩ | ⟨h1,h2,h3,h4,hN,h5,flat,F',OK,rfl,hr,QN,hsz,r8⟩
     simp at hx
     obtain⟨c,Fa,Fj,Fb,rfl,k1,k2,k3⟩:=ml xs (u':=x.set p u.kill) hr hx
     have hj:j<xs.length:=(List.getElem?_eq_some_iff.1 hx).1
     rw[dL xs j hN Z9]at k2
     obtain⟨F1,Fu,m1,m2,m3⟩:=rO p k1 QN (o:=o0+j*sz) (fun i y hy=>by rw[Nat.add_assoc];exact r8 _ _ (k2 i y hy)) e
     have hn:(x.set p u.kill).n=x.n:=mC p e (yY u)
     refine⟨g0::(Fa++F1++Fb),Fu,?_,m2,?_⟩
     simp only[V.set,hx]
     refine .inr ⟨h1,h2,by simpa using h3,by simpa using h4,fun y hy=>?_,h5,flat,_,OK,rfl,k3 F1 m1,QN,hsz,r8⟩
     rcases List.mem_or_eq_of_mem_set hy with hy | rfl
     exact hN y hy
     rw[hn];exact hN x (List.mem_of_getElem? hx)
     have:=jx.Vb (X:=g0::Fa) (Y:=Fb) m3
     simpa using this
   | _=>simp[V.at]at e
theorem Dv{j:Nat}{p:List Nat}{u:V}{g o g' o' sz g0 o0 c0:Nat}{xs:List V}{cs:List Value}{F:List Nat}(h:R w Pb (.own sz xs g0 o0 c0) cs F)(e:V.at g o (.own sz xs g0 o0 c0) (j::p)=some (g',o',u)):
 ∃ F1 Fu,R w Pb ((V.own sz xs g0 o0 c0).set (j::p) u.kill) cs F1/\At w Pb u g' o' Fu/\jx F F1 Fu:=by
 simp only[V.at]at e
 split at e
 case h_2=>simp at e
 rename_i x hx
 rcases h with ⟨_,rfl,_⟩ | ⟨h1,h2,h3,h4,hN,h5,flat,F',OK,rfl,hr,QN,hsz,r8⟩
 simp at hx
 obtain⟨c,Fa,Fj,Fb,rfl,k1,k2,k3⟩:=ml xs (u':=x.set p u.kill) hr hx
 have hj:j<xs.length:=(List.getElem?_eq_some_iff.1 hx).1
 rw[dL xs j hN Z9]at k2
 obtain⟨F1,Fu,m1,m2,m3⟩:=rO p k1 QN (o:=o0+j*sz) (fun i y hy=>by rw[Nat.add_assoc];exact r8 _ _ (k2 i y hy)) e
 have hn:(x.set p u.kill).n=x.n:=mC p e (yY u)
 refine⟨g0::(Fa++F1++Fb),Fu,?_,m2,?_⟩
 simp only[V.set,hx]
 refine .inr ⟨h1,h2,by simpa using h3,by simpa using h4,fun y hy=>?_,h5,flat,_,OK,rfl,k3 F1 m1,QN,hsz,r8⟩
 rcases List.mem_or_eq_of_mem_set hy with hy | rfl
 exact hN y hy
 rw[hn];exact hN x (List.mem_of_getElem? hx)
 have:=jx.Vb (X:=g0::Fa) (Y:=Fb) m3
 simpa using this
theorem s3.split(hs:s3 N Pb Kb A a w F){r:l7}{p:List Nat}{g o:Nat}{u:V}(x6:A.at r p=some (g,o,u)):
 ∃ Fr Fu,s3 N Pb Kb (A.setAt r p u.kill) a w (bY F r Fr)/\At w Pb u g o Fu/\Fu.Nodup/\(∀ r' y,y∈Fu->y ∉ bY F r Fr r')/\(∀ y,y∈Fu->¬ Kb y/\y<w.heap.size):=by
 have main:∃ Fr Fu,At w Pb u g o Fu/\jx (F r) Fr Fu/\(match r with
      | .key k=> ∀ g0 t,lk k A.h=some (g0,t)->∃ F',Fr=g0::F'/\At w Pb (t.set p u.kill) g0 0 F'
      | .slot i=>RV w Pb ((A.get i).set p u.kill) (a.tmps.getD i undef) Fr):=by
  cases r with
  | key k=>
    simp only[AS.at]at x6
    split at x6
    rename_i g0 t hk
    obtain⟨F0,hF,cs,cells,hb,hr,hc⟩:=hs.root k g0 t hk
    obtain⟨F1,Fu,m1,m2,m3⟩:=rO p hr hb hc x6
    refine⟨g0::F1,Fu,m2,?_,fun g1 t1 O3=>?_⟩
    rw[hF]
    have:=jx.Vb (X:=[g0]) (Y:=[]) m3
    simpa using this
    rw[hk]at O3
    simp only[Option.some.injEq,Prod.mk.injEq]at O3
    obtain⟨rfl,rfl⟩:=O3
    exact⟨F1,rfl,cs,cells,hb,m1,hc⟩
    simp at x6
  | slot i=>
    simp only[AS.at]at x6
    split at x6
    rename_i sz xs g0 o0 c0 j p' hg _
    have hr:=hs.slot i
    rw[hg]at hr
    obtain⟨F1,Fu,m1,m2,m3⟩:=Dv (w:=w) (Pb:=Pb) hr x6
    refine⟨F1,Fu,m2,m3,?_⟩
    simp only[hg]
    have e:∃ ys,(V.own sz xs g0 o0 c0).set (j::p') u.kill=.own sz ys g0 o0 c0:=by
     simp only[V.set];split
     exact⟨_,rfl⟩
     exact⟨_,rfl⟩
    obtain⟨ys,e⟩:=e
    rw[e]at m1 ⊢
    exact m1
    simp at x6
 obtain⟨Fr,Fu,hA,hP,hm⟩:=main
 obtain⟨p1,p2,p3⟩:=hP
 obtain⟨n1,n2,n3⟩:=p3 (hs.nodup r)
 refine⟨Fr,Fu,⟨hs.size,hs.defers,fun i=>?_,fun k g0 t hk=>?_,fun r1 r2 hne y hy=>?_,fun r1=>?_,fun r1 y hy=>?_,hs.sub,hs.bound⟩,hA,n2,fun r' y hy=>?_,fun y hy=>hs.free r y (p2 y hy)⟩
 by_cases Q0:r=.slot i
 subst Q0
 simp only[bY,if_true,AS.setAt,AS.get,lk,Option.getD_some]
 exact hm
 simp only[bY,if_neg (Ne.symm Q0)]
 have:(A.setAt r p u.kill).get i=A.get i:=by
  cases r with
  | key k=>simp only[AS.setAt];split <;> rfl
  | slot j=>simp only[AS.setAt,AS.get,lk];rw[if_neg (fun c=>Q0 (by rw[c]))]
 rw[this]
 exact hs.slot i
 by_cases QZ:r=.key k
 subst QZ
 simp only[bY,if_true]
 cases Pj:lk k A.h with
 | none=>
   simp only[AS.setAt,Pj]at hk
   cases hk
 | some gt=>
   obtain⟨g1,t1⟩:=gt
   simp only[AS.setAt,Pj,lk,if_true,Option.some.injEq,Prod.mk.injEq]at hk
   obtain⟨rfl,rfl⟩:=hk
   exact hm g1 t1 Pj
 simp only[bY,if_neg (Ne.symm QZ)]
 refine hs.root k g0 t ?_
 rw[<- hk]
 cases r with
 | key k'=>
   have hne:k≠k':=fun c=>QZ (by rw[c])
   simp only[AS.setAt]
   split
   simp only[lk];rw[if_neg hne]
   rfl
 | slot j=>rfl
 simp only[bY]at hy ⊢
 by_cases e1:r1=r
 subst e1
 rw[if_pos rfl]at hy
 rw[if_neg (Ne.symm hne)]
 exact hs.bX r1 r2 hne y (p1 y hy)
 rw[if_neg e1]at hy
 by_cases e2:r2=r
 subst e2
 rw[if_pos rfl]
 exact fun c=>hs.bX r1 r2 hne y hy (p1 y c)
 rw[if_neg e2];exact hs.bX r1 r2 hne y hy
 simp only[bY];split
 exact n1
 exact hs.nodup r1
 simp only[bY]at hy;split at hy
 exact hs.free r y (p1 y hy)
 exact hs.free r1 y hy
 simp only[bY];split
 exact fun c=>n3 y c hy
 rename_i hne;exact fun c=>hs.bX r r' (Ne.symm hne) y (p2 y hy) c
end
end Go.Abs
namespace Go.Abs
open Go Go.RowKit
mutual
def wk:V->V->V
 | .own sz xs g o c,u=>match u with | .ow _ _=>.ow sz xs | _=>.own sz xs g o c
 | .sl f xs,u=>match u with | .sl false _=>.sl false xs | .c9=>.c9 | _=>.sl f xs
 | .ptr r p g o,u=>match u with | .ptr r' p' _ _=>.ptr r' p' g o | .c9=>.c9 | _=>.ptr r p g o
 | .lit x,u=>match u with
   | .ptr r' p' _ _=>match x with
     | .pointer (some ⟨g,o,none⟩)=>.ptr r' p' g o
     | _=>.lit x
   | .c9=>if x.oneCell' then .c9 else .lit x
   | _=>.lit x
 | .hd r p sz g o lo n c,u=>match u with | .hd r' p' _ _ _ _ _ _=>.hd r' p' sz g o lo n c | .c9=>.c9 | _=>.hd r p sz g o lo n c
 | .mp es,u=>match u with | .c9=>.c9 | _=>.mp es
 | .agg vs,u=>match u with | .agg us=>.agg (Mt vs us) | _=>.agg vs
 | .tup vs,u=>match u with | .tup us=>.tup (Mt vs us) | _=>.tup vs
 | v,_=>v
def Mt:List V->List V->List V
 | v::vs,u::us=>wk v u::Mt vs us
 | vs,_=>vs
end
section
variable {w w':World} {Pb Kb Pb':Nat->Prop} {N:Nat} {A A' B:AS} {a:Act} {F:l7->List Nat} {P:Program} {ops:Array Oper}
mutual
theorem pT:∀ (v u:V) {cs F},R w Pb v cs F->R w Pb (wk v u) cs F
 | .own sz xs g o c,u,cs,F,h=>by
   simp only[wk];split
   exact Gz.2 ⟨_,_,_,h⟩
   exact h
 | .sl f xs,u,cs,F,h=>by
   simp only[wk];split
   obtain⟨hF,B,c,hc,hl,_,hx⟩:=h
   exact⟨hF,B,c,hc,hl,(fun h=>by cases h),hx⟩
   obtain⟨hF,B,c,rfl,_⟩:=h;exact⟨hF,_,rfl,rfl⟩
   exact h
 | .ptr r p g o,u,cs,F,h=>by
   simp only[wk];split
   exact h
   obtain⟨hF,rfl⟩:=h;exact⟨hF,_,rfl,rfl⟩
   exact h
 | .lit x,u,cs,F,h=>by
   simp only[wk];split
   split
   obtain⟨_,rfl,hF⟩:=h;exact⟨hF,rfl⟩
   exact h
   split
   rename_i hx;obtain⟨_,rfl,hF⟩:=h;exact⟨hF,x,rfl,hx⟩
   exact h
   exact h
 | .hd r p sz g o lo n c,u,cs,F,h=>by
   simp only[wk];split
   exact h
   obtain⟨hF,_,B,rfl,_⟩:=h;exact⟨hF,_,rfl,rfl⟩
   exact h
 | .mp es,u,cs,F,h=>by
   simp only[wk];split
   obtain⟨hF,g,rfl,_⟩:=h;exact⟨hF,_,rfl,rfl⟩
   exact h
 | .agg vs,u,cs,F,h=>by
   simp only[wk];split
   rename_i us;simp only[R]at h ⊢;exact Ca vs us h
   exact h
 | .tup vs,_,_,_,h=>by simp[R]at h
 | .gv _ _,_,_,_,h=>by simp[R]at h
 | .ow ..,u,_,_,h=>by simpa[wk] using h
 | .om ..,u,_,_,h=>by simpa[wk] using h
 | .ep _,u,_,_,h=>by simpa[wk] using h
 | .c9,u,_,_,h=>by simpa[wk] using h
theorem Ca:∀ (vs us:List V) {cs F},RL w Pb vs cs F->RL w Pb (Mt vs us) cs F
 | [],us,_,_,h=>by simpa[Mt] using h
 | v::vs,[],_,_,h=>by simpa[Mt] using h
 | v::vs,u::us,cs,F,h=>by
   obtain⟨c1,c2,F1,F2,rfl,rfl,h1,h2⟩:=h
   exact⟨c1,c2,F1,F2,rfl,rfl,pT v u h1,Ca vs us h2⟩
end
theorem Db{v:V}(u:V){x:Value}{F1:List Nat}(h:ND w Pb v x F1):ND w Pb (wk v u) x F1:=by
 cases v with
 | agg us=>
   obtain⟨cs,rfl,h⟩:=h
   simp only[wk];split
   exact⟨cs,rfl,Ca _ _ h⟩
   exact⟨cs,rfl,h⟩
 | c9=>simpa[wk] using h
 | tup vs=>simp[ND,R]at h
 | gv b u=>simp[ND,R]at h
 | ow sz xs=>simpa[wk] using h
 | om es g=>simpa[wk] using h
 | ep v=>simpa[wk] using h
 | own sz xs g o c=>
   have:=pT (w:=w) (Pb:=Pb) (.own sz xs g o c) u h
   simp only[wk]at this ⊢
   split at this <;> simpa[ND] using this
 | lit y=>
   have h:R w Pb (.lit y) [x] F1:=h
   have hh:=h
   obtain⟨ho,e,hF⟩:=hh
   simp only[List.cons.injEq,and_true]at e
   subst e hF
   cases u with
   | ptr r' p' g' o'=>
     have:=pT (w:=w) (Pb:=Pb) (.lit x) (.ptr r' p' g' o') h
     simp only[wk]at this ⊢
     split at this
     exact this
     exact this
   | c9=>simp only[wk,ho,if_true];rfl
   | _=>exact h
 | sl f xs=>
   have:=pT (w:=w) (Pb:=Pb) (.sl f xs) u h
   simp only[wk]at this ⊢
   split at this
   all_goals first | simpa[ND] using this | (simp only[ND];exact this.1)
 | ptr r p g o=>
   have:=pT (w:=w) (Pb:=Pb) (.ptr r p g o) u h
   simp only[wk]at this ⊢
   split at this
   all_goals first | simpa[ND] using this | (simp only[ND];exact this.1)
 | hd r p sz g o lo n c=>
   have:=pT (w:=w) (Pb:=Pb) (.hd r p sz g o lo n c) u h
   simp only[wk]at this ⊢
   split at this
   all_goals first | simpa[ND] using this | (simp only[ND];exact this.1)
 | mp es=>
   have:=pT (w:=w) (Pb:=Pb) (.mp es) u h
   simp only[wk]at this ⊢
   split at this
   all_goals first | simpa[ND] using this | (simp only[ND];exact this.1)
theorem tP:∀ (vs:List V) {xs:List Value} {F1:List Nat},RVs w Pb vs xs F1↔match vs with | []=>xs=[]/\F1=[] | v::vs=> ∃ x xs' Fa Fb,xs=x::xs'/\F1=Fa++Fb/\ND w Pb v x Fa/\RVs w Pb vs xs' Fb
 | [],_,_=>Iff.rfl
 | v::vs,_,_=>Iff.rfl
theorem oB:∀ (vs us:List V) {xs F1},RVs w Pb vs xs F1->RVs w Pb (Mt vs us) xs F1
 | [],us,_,_,h=>by simpa[Mt] using h
 | v::vs,[],_,_,h=>by simpa[Mt] using h
 | v::vs,u::us,xs,F1,h=>by
   obtain⟨x,xs',Fa,Fb,rfl,rfl,h1,h2⟩:=(tP (v::vs)).1 h
   exact(tP (wk v u::Mt vs us)).2 ⟨x,xs',Fa,Fb,rfl,rfl,Db u h1,oB vs us h2⟩
theorem xE{v:V}(u:V){x:Value}{F1:List Nat}(h:RV w Pb v x F1):RV w Pb (wk v u) x F1:=by
 by_cases ht:∃ vs,v=.tup vs
 obtain⟨vs,rfl⟩:=ht
 obtain⟨xs,rfl,h⟩:=h
 simp only[wk];split
 exact⟨xs,rfl,oB _ _ h⟩
 exact⟨xs,rfl,h⟩
 by_cases hg:∃ b u',v=.gv b u'
 obtain⟨b,u',rfl⟩:=hg;simpa[wk] using h
 have h1:=DR h ⟨fun us e=>ht ⟨us,e⟩,fun b u e=>hg ⟨b,u,e⟩⟩
 have h2:=Db u h1
 have back:∀ z:V,(∀ us,z≠.tup us)->(∀ b u,z≠.gv b u)->ND w Pb z x F1->RV w Pb z x F1:=by
  intro z z1 z2 hz
  cases z with
  | tup us=>exact absurd rfl (z1 us)
  | gv b u=>exact absurd rfl (z2 b u)
  | _=>exact hz
 refine back _ (fun us e=>?_) (fun b u e=>?_) h2
 · cases v <;> simp only[wk]at e <;> (repeat' split at e) <;> simp_all
 · cases v <;> simp only[wk]at e <;> (repeat' split at e) <;> simp_all
theorem Cg{v:V}(u:V){g o:Nat}{F1:List Nat}(h:At w Pb v g o F1):At w Pb (wk v u) g o F1:=by
 obtain⟨cs,cells,hb,hr,hc⟩:=h
 exact⟨cs,cells,hb,pT v u hr,hc⟩
def P0(A:AS):List (Nat×V)->Prop
 | []=>True
 | (k,v)::r=>wk (A.get k) v=v/\P0 A r
def Pe(A:AS):List (Nat×(Nat×V))->Prop
 | []=>True
 | (k,(g,v))::r=>(match lk k A.h with | some (g',v')=>(g',wk v' v)=(g,v) | none=>False)/\Pe A r
theorem DN:∀ (l:List (Nat×V)) {i:Nat} {v:V},P0 A l->lk i l=some v->wk (A.get i) v=v
 | [],_,_,_,h=>by simp[lk]at h
 | (k,u)::r,i,v,h,e=>by
   simp only[lk]at e
   split at e
   rename_i e';subst e';cases e;exact h.1
   exact DN r h.2 e
theorem zt:∀ (l:List (Nat×(Nat×V))) {i g:Nat} {v:V},Pe A l->lk i l=some (g,v)->∃ v',lk i A.h=some (g,v')/\wk v' v=v
 | [],_,_,_,_,h=>by simp[lk]at h
 | (k,(g0,u))::r,i,g,v,h,e=>by
   simp only[lk]at e
   split at e
   rename_i e';subst e';cases e
   have h1:=h.1
   split at h1
   rename_i g' v' hk
   simp only[Prod.mk.injEq]at h1
   exact⟨v',by rw[hk,h1.1],h1.2⟩
   exact h1.elim
   exact zt r h.2 e
open Classical in
theorem s3.Xd(hs:s3 N Pb Kb A a w F)(h:P0 A B.t)(k:Pe A B.h):∃ F',s3 N Pb Kb B a w F':=by
 refine⟨fun r=>match r with | .slot i=>if lk i B.t=none then [] else F (.slot i) | .key k=>if lk k B.h=none then [] else F (.key k),?_⟩
 have key:∀ r g,g∈(match r with | .slot i=>if lk i B.t=none then [] else F (.slot i) | .key k=>if lk k B.h=none then [] else F (.key k):List Nat)->g∈F r:=by
  intro r g hg
  cases r <;> simp only at hg <;> split at hg <;> simp_all
 refine⟨hs.size,hs.defers,fun i=>?_,fun k0 g v hk=>?_,fun r r' hne g hg=>?_,fun r=>?_,fun r g hg=>hs.free r g (key r g hg),hs.sub,hs.bound⟩
 simp only
 cases e:lk i B.t with
 | none=>simp only[if_true,AS.get,e];rfl
 | some v=>
   rw[if_neg Z8]
   have:=xE v (hs.slot i)
   rw[DN _ h e]at this
   simpa[AS.get,e] using this
 simp only
 rw[if_neg (by rw[hk];simp)]
 obtain⟨v',e1,e2⟩:=zt _ k hk
 obtain⟨F',hF,hA⟩:=hs.root k0 g v' e1
 exact⟨F',hF,by have:=Cg v hA;rw[e2]at this;exact this⟩
 exact fun Od=>hs.bX r r' hne g (key r g hg) (key r' g Od)
 cases r <;> simp only <;> split <;> first | exact List.nodup_nil | exact hs.nodup _
def Hx(N:Nat)(A:AS)(K:AS->Prop):Prop:=
 ∀ Pb Kb a w F,s3 N Pb Kb A a w F->∃ B Pb' C9 F',K B/\s3 N Pb' C9 B a w F'/\(∀ g,Pb g->Pb' g)/\(∀ g,Kb g->C9 g)/\(∀ g,Pb' g->Pb g\/¬ Kb g)
theorem Hx.of{K:AS->Prop}(h:K A):Hx N A K:=fun Pb Kb _ _ F hs=>⟨A,Pb,Kb,F,h,hs,fun _ h=>h,fun _ h=>h,fun _ h=>.inl h⟩
theorem Hx.mono{K K':AS->Prop}(h:Hx N A K)(hK:∀ B,K B->K' B):Hx N A K':=fun Pb Kb a w F hs=>by
 obtain⟨B,Pb',C9,F',h1,h2⟩:=h Pb Kb a w F hs
 exact⟨B,Pb',C9,F',hK B h1,h2⟩
theorem Hx.bind{K K':AS->Prop}(h:Hx N A K)(hK:∀ B,K B->Hx N B K'):Hx N A K':=fun Pb Kb a w F hs=>by
 obtain⟨B,Pb',C9,F',h1,h2,h3,h4,h5⟩:=h Pb Kb a w F hs
 obtain⟨C,M7,Nb,F2,k1,k2,k3,k4,k5⟩:=hK B h1 Pb' C9 a w F' h2
 exact⟨C,M7,Nb,F2,k1,k2,fun g hg=>k3 g (h3 g hg),fun g hg=>k4 g (h4 g hg),fun g hg=>by
  rcases k5 g hg with h | h
  exact h5 g h
  exact .inr fun c=>h (h4 g c)⟩
theorem Hx.simple{K:AS->Prop}(hK:K B)(h:∀ Pb Kb a w F,s3 N Pb Kb A a w F->∃ F',s3 N Pb Kb B a w F'):Hx N A K:=fun Pb Kb a w F hs=>by
 obtain⟨F',x8⟩:=h Pb Kb a w F hs
 exact⟨B,Pb,Kb,F',hK,x8,fun _ h=>h,fun _ h=>h,fun _ h=>.inl h⟩
theorem Nx.hint{K:AS->Prop}{a':Act}(h:Nx N Pb Kb w (fun B=>Hx N B K) a' w'):Nx N Pb Kb w K a' w':=by
 obtain⟨A',Pb',C9,F',h1,h2,h3,h4,h5,h6⟩:=h
 obtain⟨B,M7,Nb,F2,k1,k2,k3,k4,k5⟩:=h1 Pb' C9 a' w' F' h2
 exact⟨B,M7,Nb,F2,k1,k2,fun g hg=>k3 g (h3 g hg),fun g hg=>k4 g (h4 g hg),fun g hg=>by
  rcases k5 g hg with h | h
  exact h5 g h
  exact .inr fun c=>h (h4 g c),h6⟩
theorem pa{c:Code}{Q:Exit->AS->Prop}(h:Hx N A fun B=>T P N c B Q):T P N c A Q:=by
 intro Pb Kb a w F hs
 obtain⟨B,Pb',C9,F',h1,h2,h3,h4,h5⟩:=h Pb Kb a w F hs
 exact wp_mono (h1 Pb' C9 a w F' h2) fun e a' w' hn=>Nx.step h3 h4 h5 (x4.refl _ _) hn
theorem mn{c:Code}{Q:Exit->AS->Prop}(h:T P N c A fun e B=>Hx N B (Q e)):T P N c A Q:=
 fun Pb Kb a w F hs=>wp_mono (h Pb Kb a w F hs) fun _ _ _ hn=>hn.hint
theorem rW{o:Oper}{l:List Oper}{K:AS->Prop}(hg:o.guard=none)(h:Hx N A fun B=>WL P N ops (o::l) B K):WL P N ops (o::l) A K:=by
 simp only[WL,gd,hg]at h ⊢
 intro Pb Kb a w F Q hs
 obtain⟨B,Pb',C9,F',h1,h2,h3,h4,h5⟩:=h Pb Kb a w F hs
 refine Oper.wp_mono (fun a' w' hn=>?_) (h1 Pb' C9 a w F' Q h2)
 exact Nx.step h3 h4 h5 (x4.refl _ _) hn
theorem KW{c:Code}{Q:Exit->AS->Prop}(h:P0 A B.t)(k:Pe A B.h)(hT:T P N c B Q):T P N c A Q:=
 pa (Hx.simple hT fun _ _ _ _ _ hs=>hs.Xd h k)
end
end Go.Abs
namespace Go.Abs
open Go Go.RowKit
section
variable {w w':World} {Pb Kb Pb':Nat->Prop} {N:Nat} {A A' B:AS} {a:Act} {F:l7->List Nat} {P:Program} {ops:Array Oper}
structure VB (w:World) (Pb Kb:Nat->Prop) (args:List V) (cargs:List Value) (H:List (Nat×(Nat×V))) (F:l7->List Nat):Prop where
 len:cargs.length=args.length
 slot:∀ i v x,args[i]? =some v->cargs[i]? =some x->RV w Pb v x (F (.slot i))
 root:∀ k g v,lk k H=some (g,v)->∃ F',F (.key k)=g::F'/\At w Pb v g 0 F'
 rest:∀ i,args.length<=i->F (.slot i)=[]
 bX:∀ r r',r≠r'->∀ g,g∈F r->g ∉ F r'
 nodup:∀ r,(F r).Nodup
 free:∀ r g,g∈F r->¬ Kb g/\g<w.heap.size
 sub:∀ g,Pb g->Kb g
 bound:∀ g,Kb g->g<w.heap.size
structure Fin (w w':World) (Pb Kb:Nat->Prop) (r:V) (x:Value) (H:List (Nat×(Nat×V))) (Pb' C9:Nat->Prop) (F:l7->List Nat):Prop where
 val:RV w' Pb' r x (F (.slot 0))
 root:∀ k g v,lk k H=some (g,v)->∃ F',F (.key k)=g::F'/\At w' Pb' v g 0 F'
 bX:∀ r r',r≠r'->∀ g,g∈F r->g ∉ F r'
 nodup:∀ r,(F r).Nodup
 free:∀ r g,g∈F r->¬ C9 g/\g<w'.heap.size
 sub:∀ g,Pb' g->C9 g
 bound:∀ g,C9 g->g<w'.heap.size
 mP:∀ g,Pb g->Pb' g
 mK:∀ g,Kb g->C9 g
 PX:∀ g,Pb' g->Pb g\/¬ Kb g
 eF:x4 Kb w w'
def PF(P:Program)(f:FuncId)(args:List V)(H:List (Nat×(Nat×V)))(Q:V->List (Nat×(Nat×V))->Prop):Prop:=
 ng P f/\∀ (w:World) (Pb Kb:Nat->Prop) (cargs:List Value) (F:l7->List Nat),VB w Pb Kb args cargs H F->
  Calls P f cargs.toArray w fun e w'=> ∃ r x H' Pb' C9 F',e=.returned x/\Q r H'/\Fin w w' Pb Kb r x H' Pb' C9 F'
theorem PF.mono{f:FuncId}{args:List V}{H:List (Nat×(Nat×V))}{Q Q':V->List (Nat×(Nat×V))->Prop}(h:PF P f args H Q)(hQ:∀ r H,Q r H->Q' r H):PF P f args H Q':=
 ⟨h.1,fun w Pb Kb cargs F hi=>(h.2 w Pb Kb cargs F hi).mono fun _ _ ⟨r,x,H',Pb',C9,F',e,q,rest⟩=>⟨r,x,H',Pb',C9,F',e,hQ r H' q,rest⟩⟩
def EA(P:Program)(rs:List ResultVar)(Q:V->List (Nat×(Nat×V))->Prop):Exit->AS->Prop:=fun e A=>
 (e=.normal\/e=.ret)/\∃ xs H,pw A rs=some xs/\pR P rs xs/\(xs.map (·.1)).Nodup/\Pe A H/\(∀ k,lk k H≠none->l7.key k ∉ xs.map (·.1))/\Q (one (xs.map (·.2))) H
open Classical in
theorem Be{f:FuncId} {fn:Func} {c:Code} {args:List V} {H:List (Nat×(Nat×V))} {Q:V->List (Nat×(Nat×V))->Prop} (hf:P.funcs[f]? =some fn) (hb:fn.body=some c) (he:ng P f) (hN:args.length<=fn.ntmps)
 (h:T P fn.ntmps c ⟨enum 0 args,H⟩ (EA P fn.results.toList Q)):PF P f args H Q:=by
 refine⟨he,fun w Pb Kb cargs F hi=>?_⟩
 have hlen:=hi.len
 refine calls_of_wp hf hb ?_
 have hs:s3 fn.ntmps Pb Kb ⟨enum 0 args,H⟩ { tmps:=cargs.toArray++Array.replicate (fn.ntmps-cargs.toArray.size) undef,defers:=[] } w F:=by
  refine⟨Z0,rfl,fun i=>?_,hi.root,hi.bX,hi.nodup,hi.free,hi.sub,hi.bound⟩
  simp only[AS.get,Ax,Nat.zero_le,if_true,Nat.sub_zero]
  cases UG:args[i]? with
  | none=>
    have:args.length<=i:=by simpa using UG
    rw[hi.rest i this];rfl
  | some v=>
    have hlt:i<args.length:=(List.getElem?_eq_some_iff.1 UG).1
    have hx:cargs[i]? =some (cargs[i]'Z9):=List.getElem?_eq_getElem Z9
    have hr:=hi.slot i v _ UG hx
    have e:(cargs.toArray++Array.replicate (fn.ntmps-cargs.toArray.size) undef).getD i undef=cargs[i]'Z9:=by
     rw[Array.getD_eq_getD_getElem?,Array.getElem?_append_left Z0]
     simp[hx]
    simp only[Option.getD_some]
    rw[e];exact hr
 refine wp_mono (h _ _ _ _ _ hs) ?_
 rintro e a' w' ⟨A',Pb',C9,F',⟨he',xs,H',QX,Mn,hnd,hH,S3,hQ⟩,x8,k1,k2,k3,k4⟩
 obtain⟨x,Fr,y9,hr,MK,hin⟩:=zP x8 QX Mn hnd
 have Qp:a'.defers=[]/\∃ v,(results fn a'.tmps).run P w'=.ok v w'/\(∃ r x H' Pb' C9 F',Ending.returned v=.returned x/\Q r H'/\Fin w w' Pb Kb r x H' Pb' C9 F'):=by
  refine⟨x8.defers,x,y9,_,x,H',Pb',C9,(fun r=>match r with | .slot i=>if i=0 then Fr else [] | .key k=>if lk k H'=none then [] else F' (.key k)),rfl,hQ,?_⟩
  have hk:∀ k g,lk k H'≠none->g∈Fr->g ∉ F' (.key k):=fun k g hk hg c=>by
   obtain⟨r,OE,LP⟩:=hin g hg
   have hne:r≠.key k:=fun c=>S3 k hk (by rw[<- c];exact OE)
   exact x8.bX r _ hne g LP c
  refine⟨by simpa using hr,fun k g v UD=>?_,fun r r' hne g hg=>?_,fun r=>?_,fun r g hg=>?_,x8.sub,x8.bound,k1,k2,k3,k4⟩
  obtain⟨v',e1,e2⟩:=zt _ hH UD
  obtain⟨F1,hF,hA⟩:=x8.root k g v' e1
  refine⟨F1,?_,by have:=Cg v hA;rw[e2]at this;exact this⟩
  simp only;rw[if_neg (by rw[UD];simp)];exact hF
  cases r with
  | slot i=>
    simp only at hg
    split at hg
    rename_i hi0
    cases r' with
    | slot j=>simp only;rw[if_neg (fun c=>hne (by rw[hi0,c]))];simp
    | key k=>simp only;split
             simp
             rename_i S2;exact hk k g S2 hg
    simp at hg
  | key k=>
    simp only at hg
    split at hg
    simp at hg
    rename_i S2
    cases r' with
    | slot j=>simp only;split
              exact fun c=>hk k g S2 c hg
              simp
    | key k'=>simp only;split
              simp
              exact x8.bX _ _ hne g hg
  cases r <;> simp only <;> split <;> first | exact MK | exact List.nodup_nil | exact x8.nodup _
  cases r with
  | slot i=>
    simp only at hg;split at hg
    obtain⟨r,_,h⟩:=hin g hg;exact x8.free r g h
    simp at hg
  | key k=>
    simp only at hg;split at hg
    simp at hg
    exact x8.free _ g hg
 rcases he' with rfl | rfl
 exact Qp
 exact Qp
theorem PF.Cs{f:FuncId}{args:List V}{Q:V->List (Nat×(Nat×V))->Prop}(h:PF P f args [] Q):PC P f args (fun r=> ∃ H,Q r H):=by
 refine⟨h.1,fun w Pb cargs hP hargs=>?_⟩
 have hi:VB w Pb (fun g=>g<w.heap.size) args cargs [] (fun _=>[]):=by
  refine⟨wm _ hargs,fun i v x hv hx=>?_,fun k g v hk=>by simp[lk]at hk,fun _ _=>rfl,fun _ _ _ _ hg=>by simp at hg,fun _=>List.nodup_nil,fun _ _ hg=>by simp at hg,hP,fun _ h=>h⟩
  obtain⟨y,hy,hr⟩:=Dw args hargs hv
  rw[hx]at hy;cases hy;exact hr
 refine(h.2 w Pb _ cargs _ hi).mono ?_
 rintro e w' ⟨r,x,H',Pb',C9,F',rfl,hq,hf⟩
 refine⟨r,x,F' (.slot 0),Pb',rfl,⟨H',hq⟩,hf.val,hf.nodup _,fun g hg=>?_,hf.mP,fun g hg=>?_,⟨hf.eF.os,hf.eF.tape,hf.eF.output,hf.eF.size,fun k hk=>hf.eF.block k hk⟩⟩
 have:=hf.free _ g hg
 refine⟨Nat.le_of_not_lt fun c=>this.1 (hf.mK g c),this.2,fun c=>this.1 (hf.sub g c)⟩
 rcases hf.PX g hg with h | h
 exact .inl h
 exact .inr ⟨Nat.le_of_not_lt h,hf.bound g (hf.sub g hg)⟩
end
end Go.Abs
