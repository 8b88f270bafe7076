/-
  Words and walks for the laws of pedlar's seat: what each function of the program computes, and that it does; no conditions beyond those that each statement names.
-/
import Derived.Calls
import Derived.Below
import Derived.LoopN
import Derived.Tactics
import Derived.Laws.Sem
import Derived.IntWalk
import Derived.Lib.MinMax
import Derived.Laws.Cells
import Derived.Orders
import Derived.KernelRfl
import Derived.Lib.Strings
import Derived.Great.BuildSlice
import Derived.Laws.Append
import Derived.Laws.BytesString
import Derived.Lib.ConvBytes
set_option linter.unusedVariables false
set_option linter.unusedSimpArgs false
set_option linter.unnecessarySimpa false
set_option linter.unusedSectionVars false
namespace Go
abbrev BL:=List UInt8
theorem Zaa{p:Prop}(h:p:=by omega):p:=h
theorem Zab{p:Prop}(h:p:=by simp):p:=h
theorem Zac{p:Prop}(h:p:=by kernel_rfl):p:=h
theorem Zad{p:Prop}(h:p:=by decide):p:=h
theorem Zae{p:Prop}(h:p:=by first | assumption | omega | (simp; omega)):p:=h
theorem Zaf{p:Prop}(h:p:=by first | rfl | simp | (simp; omega)):p:=h
theorem Zag{p:Prop}(h:p:=by (try simp only [List.length_append, List.length_cons, List.length_nil]); omega):p:=h
theorem Zah{p:Prop}(h:p:=by (try simp only [List.length_map] at *); omega):p:=h
theorem Zai{p:Prop}(h:p:=by first | (solve | simp) | omega | (simp; omega)):p:=h
theorem Zaj{p:Prop}(h:p:=by simp; omega):p:=h
theorem Zak{α:Type _}{l:List α}{i:Nat}{a:α}:l.getD i a=l[i]?.getD a:=List.getD_eq_getElem?_getD ..
theorem Zal{α:Type _}(a b:α):(some a=some b)=(a=b):=Option.some.injEq ..
theorem Zam(a b:Bool):((a&&b)=true)=(a=true/\b=true):=Bool.and_eq_true ..
theorem Zan{α:Type _}{as bs:List α}:(as++bs).length=as.length+bs.length:=List.length_append ..
theorem Zao{α:Type _}{β:Type _}(a:α)(b:β)(c:α)(d:β):((a,b)=(c,d))=(a=c/\b=d):=Prod.mk.injEq ..
theorem Zap{α:Type _}{a:α}{as:List α}:(a::as).length=as.length+1:=List.length_cons ..
theorem Zaq{α β:Type}(a:α)(w:World)(f:α->World->Result β):(Result.ok a w).andThen f=f a w:=Result.andThen_ok ..
theorem Zar{α:Type _}{l:List α}{i:Nat}(h:i<l.length):l[i]?=some l[i]:=List.getElem?_eq_getElem h
theorem Zas{α:Type _}:([]:List α).length=0:=List.length_nil
theorem Zat{α:Type _}{a b:α}:a∈[b]↔a=b:=List.mem_singleton ..
theorem Zau(n:Nat):0+n=n:=Nat.zero_add ..
theorem Zav{α:Type _}{a:α}{s t:List α}:a∈s++t↔a∈s\/a∈t:=List.mem_append ..
theorem Zaw{α:Type _}{β:Type _}{as:List α}(f:α->β):(as.map f).length=as.length:=List.length_map ..
theorem Zax{α:Type _}{i:Nat}{l:List α}(h:l.length<=i):l.take i=l:=List.take_of_length_le h
theorem Zay{α β:Type}(P:Program)(w:World)(x:Sem α)(f:α->Sem β):(x>>=f).run P w=(x.run P w).andThen fun a w=>(f a).run P w:=Sem.run_bind ..
theorem Zaz{α:Type}(P:Program)(w:World)(a:α):(pure a:Sem α).run P w=.ok a w:=Sem.run_pure ..
theorem Za0{α:Type _}{p:α->Bool}{l:List α}:l.all p=true↔∀x,x∈l->p x=true:=List.all_eq_true ..
theorem Za1{α:Type _}{i:Nat}{a:α}{l:List α}:l[i]?=some a↔∃h:i<l.length,l[i]=a:=List.getElem?_eq_some_iff ..
theorem Za2{α:Type _}{l₁ l₂:List α}{i:Nat}:l₁.length<=i->(l₁++l₂)[i]?=l₂[i-l₁.length]?:=List.getElem?_append_right
theorem Za3{α:Type _}{l:List α}:l.length=0->l=[]:=List.eq_nil_of_length_eq_zero
theorem Za4{a b:Bool}:a=b↔(a=true↔b=true):=Bool.eq_iff_iff ..
theorem Za5{α:Type _}{l:List α}{i:Nat}{a:α}(e:l[i]?=some a):a∈l:=List.mem_of_getElem? e
theorem Za6{α:Type _}{as:List α}{i:Nat}(h:as.length<=i):as.drop i=[]:=List.drop_eq_nil_of_le h
theorem Za7{α:Type _}{l₁ l₂:List α}{i:Nat}(hn:i<l₁.length):(l₁++l₂)[i]?=l₁[i]?:=List.getElem?_append_left hn
theorem Za8{α:Type _}:([]:List α).Nodup:=List.nodup_nil
theorem Za9{α:Type _}{β:Type _}{f:α->β}{l₁ l₂:List α}:(l₁++l₂).map f=l₁.map f++l₂.map f:=List.map_append ..
theorem Zba(n:Nat):n<=n:=Nat.le_refl ..
theorem Zbb(n:UInt8):n.toNat<2^8:=UInt8.toNat_lt ..
theorem Zbc{α:Type _}{β:Type _}{f:α->β}{a:α}{l:List α}:(a::l).map f=f a::l.map f:=List.map_cons ..
theorem Zbd{α:Type _}{a:α}:[a].length=1:=List.length_singleton ..
theorem Zbe{α:Type _}{a:α}{l:List α}:a∈l↔∃(i:Nat)(h:i<l.length),l[i]=a:=List.mem_iff_getElem ..
theorem Zbf{α:Type _}{i:Nat}{b:α}{xs:Array α}:xs[i]?=some b↔∃h:i<xs.size,xs[i]=b:=Array.getElem?_eq_some_iff ..
theorem Zbg{α:Type _}[BEq α][LawfulBEq α](a:α)(as:List α):as.contains a=decide (a∈as):=List.contains_eq_mem ..
theorem Zbh(n m k:Nat):n+m+k=n+(m+k):=Nat.add_assoc ..
theorem Zbi{p:Prop}[Decidable p]:(decide p=true)=p:=decide_eq_true_eq ..
theorem Zbj{α:Type _}[BEq α][LawfulBEq α]{a b:α}:(a==b)=true↔a=b:=beq_iff_eq ..
theorem Zbk{α:Type _}{β:Type _}{a b:α}(f:α->β)(h:a=b):f a=f b:=congrArg f h
end Go
namespace Go.Proofs.YtelggdgnblpjdaaGreatDoor
open Go Go.RowKit
set_option maxRecDepth 20000
inductive m0 where
 | slot (i:Nat)
 | key (k:Nat)
 deriving DecidableEq
inductive V where
 | lit (x:Value)
 | agg (vs:List V)
 | tup (vs:List V)
 | sl (full:Bool) (xs:List V)
 | own (sz:Nat) (xs:List V) (g o c:Nat)
 | ow (sz:Nat) (xs:List V)
 | om (es:List (BL×Value)) (g:Nat)
 | mp (es:List (BL×Value))
 | hd (r:m0) (p:List Nat) (sz g o lo n c:Nat)
 | ptr (r:m0) (p:List Nat) (g o:Nat)
 | ep (v:V)
 | b9
 | gv (b:Bool) (v:V)
mutual
def V.n:V->Nat
 | .agg vs=>V.ns vs
 | _=>1
def V.ns:List V->Nat
 | []=>0
 | v::vs=>v.n+V.ns vs
end
def aM(sz:Nat)(xs:List V):Prop:= ∀ x∈xs,x.n=sz
def Blk(w:World)(g:Nat)(cells:Array Value):Prop:=
 ∃ e fr,w.heap[g]? =some (.cells cells e fr)/\∀ i,i<cells.size->¬ (fr.1<=i/\i<fr.2)
def vQ(w:World)(g:Nat)(es:List (BL×Value)):Prop:=
 ∃ en cl,w.heap[g]? =some (.map en cl)/\en.toList.map (fun e=>(e.key,e.val))=es.map (fun p=>(.string ⟨p.1.toArray⟩,p.2))/\(en.toList.map (·.born)).Nodup/\∀ e∈en.toList,e.born<cl
mutual
def R(w:World)(Pb:Nat->Prop):V->List Value->List Nat->Prop
 | .lit x,cs,F=>x.oneCell'=true/\cs=[x]/\F=[]
 | .agg vs,cs,F=>RL w Pb vs cs F
 | .tup _,_,_=>False
 | .gv _ _,_,_=>False
 | .sl full xs,cs,F=>F=[]/\∃ A c,cs=[.slice A xs.length c]/\xs.length<=c/\(full=true->c=xs.length)/\
  (xs=[]\/∃ b o sz flat,A=some ⟨b,o,none⟩/\Pb b/\0<sz/\aM sz xs/\RL w Pb xs flat []/\
   ∀ j u,flat[j]? =some u->w.cell? ⟨b,o+j,none⟩=some u)
 | .own sz xs g o c,cs,F=>(c=0/\xs=[]/\F=[]/\∃ A,cs=[.slice A 0 0])\/
  (0<c/\0<sz/\xs.length<=c/\cs=[.slice (some ⟨g,o,none⟩) xs.length c]/\aM sz xs/\¬ Pb g/\
   ∃ flat F' cells,F=g::F'/\RL w Pb xs flat F'/\Blk w g cells/\o+c*sz<=cells.size/\
     ∀ j u,flat[j]? =some u->cells[o+j]? =some u)
 | .ow sz xs,cs,F=> ∃ g o c,(c=0/\xs=[]/\F=[]/\∃ A,cs=[.slice A 0 0])\/
  (0<c/\0<sz/\xs.length<=c/\cs=[.slice (some ⟨g,o,none⟩) xs.length c]/\aM sz xs/\¬ Pb g/\
   ∃ flat F' cells,F=g::F'/\RL w Pb xs flat F'/\Blk w g cells/\o+c*sz<=cells.size/\
     ∀ j u,flat[j]? =some u->cells[o+j]? =some u)
 | .om es g,cs,F=>F=[g]/\cs=[.map (some g)]/\¬ Pb g/\vQ w g es
 | .mp es,cs,F=>F=[]/\∃ g,cs=[.map (some g)]/\Pb g/\vQ w g es
 | .hd _ _ sz g o lo n c,cs,F=>F=[]/\n<=c/\∃ A,cs=[.slice A n c]/\(0<c->A=some ⟨g,o+lo*sz,none⟩)
 | .ptr _ _ g o,cs,F=>F=[]/\cs=[.pointer (some ⟨g,o,none⟩)]
 | .ep v,cs,F=>F=[]/\∃ b o flat,cs=[.pointer (some ⟨b,o,none⟩)]/\Pb b/\R w Pb v flat []/\
  ∀ j u,flat[j]? =some u->w.cell? ⟨b,o+j,none⟩=some u
 | .b9,cs,F=>F=[]/\∃ x,cs=[x]/\x.oneCell'=true
def RL(w:World)(Pb:Nat->Prop):List V->List Value->List Nat->Prop
 | [],cs,F=>cs=[]/\F=[]
 | v::vs,cs,F=> ∃ c1 c2 F1 F2,cs=c1++c2/\F=F1++F2/\R w Pb v c1 F1/\RL w Pb vs c2 F2
end
section
variable {w w':World} {Pb Pb':Nat->Prop}
theorem Hq{sz:Nat}{xs:List V}{cs:List Value}{F:List Nat}:R w Pb (.ow sz xs) cs F↔∃ g o c,R w Pb (.own sz xs g o c) cs F:=by simp only[R]
theorem vQ.fF{g:Nat}{es:List (BL×Value)}(h:vQ w g es)(k:w'.heap[g]? =w.heap[g]?):vQ w' g es:=by
 obtain⟨en,cl,h1,h2⟩:=h
 exact⟨en,cl,k.trans h1,h2⟩
mutual
theorem fk:∀ (v:V) {cs F},R w Pb v cs F->cs.length=v.n
 | .lit x,cs,F,h=>by obtain⟨_,rfl,_⟩:=h;rfl
 | .agg vs,cs,F,h=>by simp only[R]at h;simpa[V.n] using kq vs h
 | .tup _,_,_,h=>by simp[R]at h
 | .gv _ _,_,_,h=>by simp[R]at h
 | .sl _ xs,cs,F,h=>by obtain⟨_,A,c,rfl,_⟩:=h;rfl
 | .own sz xs g o c,cs,F,h=>by
  rcases h with ⟨_,_,_,A,rfl⟩ | ⟨_,_,_,rfl,_⟩ <;> rfl
 | .ow sz xs,cs,F,h=>by
  obtain⟨g,o,c,h⟩:=h
  rcases h with ⟨_,_,_,A,rfl⟩ | ⟨_,_,_,rfl,_⟩ <;> rfl
 | .om ..,cs,F,h=>by obtain⟨_,rfl,_⟩:=h;rfl
 | .mp _,cs,F,h=>by obtain⟨_,g,rfl,_⟩:=h;rfl
 | .hd ..,cs,F,h=>by obtain⟨_,_,A,rfl,_⟩:=h;rfl
 | .ptr ..,cs,F,h=>by obtain⟨_,rfl⟩:=h;rfl
 | .ep v,cs,F,h=>by obtain⟨_,b,o,flat,rfl,_⟩:=h;rfl
 | .b9,cs,F,h=>by obtain⟨_,x,rfl,_⟩:=h;rfl
theorem kq:∀ (vs:List V) {cs F},RL w Pb vs cs F->cs.length=V.ns vs
 | [],cs,F,h=>by obtain⟨rfl,_⟩:=h;rfl
 | v::vs,cs,F,h=>by
     obtain⟨c1,c2,F1,F2,rfl,_,h1,h2⟩:=h
     simp[V.ns,fk v h1,kq vs h2]
end
mutual
theorem iu:∀ (v:V) {cs F},R w Pb v cs F->(∀ g,Pb g->w'.heap[g]? =w.heap[g]?)->(∀ g,g∈F->w'.heap[g]? =w.heap[g]?)->
 (∀ g,Pb g->Pb' g)->(∀ g,g∈F->¬ Pb' g)->R w' Pb' v cs F
 | .lit x,cs,F,h,_,_,_,_=>h
 | .agg vs,cs,F,h,k1,k2,k3,k4=>by simp only[R]at h ⊢;exact fg vs h k1 k2 k3 k4
 | .tup _,_,_,h,_,_,_,_=>by simp[R]at h
 | .gv _ _,_,_,h,_,_,_,_=>by simp[R]at h
 | .sl full xs,cs,F,h,k1,_,k3,_=>by
  obtain⟨hF,A,c,hc,hl,hf,hx⟩:=h
  refine⟨hF,A,c,hc,hl,hf,?_⟩
  rcases hx with hx | ⟨b,o,sz,flat,hA,hb,hs,hn,hr,s8⟩
  exact .inl hx
  exact .inr ⟨b,o,sz,flat,hA,k3 b hb,hs,hn,fg xs hr k1 Zab k3 Zab,fun j u hu=>by
   rw[<- s8 j u hu];exact World.cell?_of_block (w:=w) (k1 b hb)⟩
 | .own sz xs g o c,cs,F,h,k1,k2,k3,k4=>by
  rcases h with h | ⟨h1,h2,h3,h4,h5,h6,flat,F',cells,hF,hr,⟨e,fr,hb,hfr⟩,hsz,s8⟩
  exact .inl h
  subst hF
  exact .inr ⟨h1,h2,h3,h4,h5,k4 g Zab,flat,F',cells,rfl,fg xs hr k1 (fun g hg=>k2 g (by simp[hg])) k3 (fun g hg=>k4 g (by simp[hg])),
   ⟨e,fr,(k2 g Zab).trans hb,hfr⟩,hsz,s8⟩
 | .ow sz xs,cs,F,h,k1,k2,k3,k4=>by
  obtain⟨g,o,c,h⟩:=h
  refine⟨g,o,c,?_⟩
  rcases h with h | ⟨h1,h2,h3,h4,h5,h6,flat,F',cells,hF,hr,⟨e,fr,hb,hfr⟩,hsz,s8⟩
  exact .inl h
  subst hF
  exact .inr ⟨h1,h2,h3,h4,h5,k4 g Zab,flat,F',cells,rfl,fg xs hr k1 (fun g hg=>k2 g (by simp[hg])) k3 (fun g hg=>k4 g (by simp[hg])),
   ⟨e,fr,(k2 g Zab).trans hb,hfr⟩,hsz,s8⟩
 | .om es g,cs,F,h,_,k2,_,k4=>by
  obtain⟨rfl,h1,h2,h3⟩:=h
  exact⟨rfl,h1,k4 g Zab,h3.fF (k2 g Zab)⟩
 | .mp es,cs,F,h,k1,_,k3,_=>by
  obtain⟨h0,g,h1,h2,h3⟩:=h
  exact⟨h0,g,h1,k3 g h2,h3.fF (k1 g h2)⟩
 | .hd ..,cs,F,h,_,_,_,_=>h
 | .ptr ..,cs,F,h,_,_,_,_=>h
 | .ep v,cs,F,h,k1,_,k3,_=>by
  obtain⟨hF,b,o,flat,hc,hb,hr,s8⟩:=h
  exact⟨hF,b,o,flat,hc,k3 b hb,iu v hr k1 Zab k3 Zab,fun j u hu=>by
   rw[<- s8 j u hu];exact World.cell?_of_block (w:=w) (k1 b hb)⟩
 | .b9,cs,F,h,_,_,_,_=>h
theorem fg:∀ (vs:List V) {cs F},RL w Pb vs cs F->(∀ g,Pb g->w'.heap[g]? =w.heap[g]?)->(∀ g,g∈F->w'.heap[g]? =w.heap[g]?)->
 (∀ g,Pb g->Pb' g)->(∀ g,g∈F->¬ Pb' g)->RL w' Pb' vs cs F
 | [],cs,F,h,_,_,_,_=>h
 | v::vs,cs,F,h,k1,k2,k3,k4=>by
     obtain⟨c1,c2,F1,F2,hc,rfl,h1,h2⟩:=h
     exact⟨c1,c2,F1,F2,hc,rfl,iu v h1 k1 (fun g hg=>k2 g (by simp[hg])) k3 (fun g hg=>k4 g (by simp[hg])),
      fg vs h2 k1 (fun g hg=>k2 g (by simp[hg])) k3 (fun g hg=>k4 g (by simp[hg]))⟩
end
end
structure AS where
 t:List (Nat×V)
 h:List (Nat×(Nat×V))
def lk{α:Type}(i:Nat):List (Nat×α)->Option α
 | []=>none
 | (k,v)::r=>if i=k then some v else lk i r
def AS.get(A:AS)(i:Nat):V:=(lk i A.t).getD .b9
def AS.put(A:AS)(d:Option Nat)(v:V):AS:=match d with | some d=>{ A with t:=(d,v)::A.t } | none=>A
theorem AS.aJ(A:AS)(d i:Nat)(v:V):(A.put (some d) v).get i=if i=d then v else A.get i:=by
 simp only[AS.get,AS.put,lk];split <;> rfl
def RVs(w:World)(Pb:Nat->Prop):List V->List Value->List Nat->Prop
 | [],xs,F=>xs=[]/\F=[]
 | v::vs,xs,F=> ∃ x xs' F1 F2,xs=x::xs'/\F=F1++F2/\(match v with
     | .agg us=> ∃ cs,x=.agg cs/\RL w Pb us cs.toList F1
     | .b9=>F1=[]
     | v=>R w Pb v [x] F1)/\RVs w Pb vs xs' F2
def VE(w:World)(Pb:Nat->Prop)(v:V)(x:Value)(F:List Nat):Prop:=
 match v with
 | .tup vs=> ∃ xs:Array Value,x=.tuple xs/\RVs w Pb vs xs.toList F
 | .agg us=> ∃ cs,x=.agg cs/\RL w Pb us cs.toList F
 | .b9=>F=[]
 | v=>R w Pb v [x] F
def RV(w:World)(Pb:Nat->Prop)(v:V)(x:Value)(F:List Nat):Prop:=
 match v with
 | .gv b u=>F=[]/\(b=true->VE w Pb u x [])/\(b=false->x=undef)
 | v=>VE w Pb v x F
theorem vL{w w':World}{Pb Pb':Nat->Prop}:∀ (vs:List V) {xs F},RVs w Pb vs xs F->(∀ g,Pb g->w'.heap[g]? =w.heap[g]?)->(∀ g,g∈F->w'.heap[g]? =w.heap[g]?)->
 (∀ g,Pb g->Pb' g)->(∀ g,g∈F->¬ Pb' g)->RVs w' Pb' vs xs F
 | [],_,_,h,_,_,_,_=>h
 | v::vs,xs,F,h,k1,k2,k3,k4=>by
   obtain⟨x,xs',F1,F2,hx,rfl,h1,h2⟩:=h
   refine⟨x,xs',F1,F2,hx,rfl,?_,vL vs h2 k1 (fun g hg=>k2 g (by simp[hg])) k3 (fun g hg=>k4 g (by simp[hg]))⟩
   cases v with
   | agg us=>obtain⟨cs,e,h1⟩:=h1;exact⟨cs,e,fg us h1 k1 (fun g hg=>k2 g (by simp[hg])) k3 (fun g hg=>k4 g (by simp[hg]))⟩
   | b9=>exact h1
   | _=>exact iu _ h1 k1 (fun g hg=>k2 g (by simp[hg])) k3 (fun g hg=>k4 g (by simp[hg]))
theorem gC{w w':World} {Pb Pb':Nat->Prop} (v:V) {x F} (h:VE w Pb v x F) (k1:∀ g,Pb g->w'.heap[g]? =w.heap[g]?) (k2:∀ g,g∈F->w'.heap[g]? =w.heap[g]?)
 (k3:∀ g,Pb g->Pb' g) (k4:∀ g,g∈F->¬ Pb' g):VE w' Pb' v x F:=by
 cases v with
 | tup vs=>obtain⟨xs,e,h⟩:=h;exact⟨xs,e,vL vs h k1 k2 k3 k4⟩
 | agg us=>obtain⟨cs,e,h⟩:=h;exact⟨cs,e,fg us h k1 k2 k3 k4⟩
 | b9=>exact h
 | _=>exact iu _ h k1 k2 k3 k4
theorem oO{w w':World} {Pb Pb':Nat->Prop} (v:V) {x F} (h:RV w Pb v x F) (k1:∀ g,Pb g->w'.heap[g]? =w.heap[g]?) (k2:∀ g,g∈F->w'.heap[g]? =w.heap[g]?)
 (k3:∀ g,Pb g->Pb' g) (k4:∀ g,g∈F->¬ Pb' g):RV w' Pb' v x F:=by
 cases v with
 | gv b u=>obtain⟨hF,h1,h2⟩:=h;exact⟨hF,fun hb=>gC u (h1 hb) k1 Zab k3 Zab,h2⟩
 | tup vs=>exact gC (.tup vs) h k1 k2 k3 k4
 | agg us=>exact gC (.agg us) h k1 k2 k3 k4
 | b9=>exact h
 | own sz xs g o c=>exact gC (.own sz xs g o c) h k1 k2 k3 k4
 | ow sz xs=>exact gC (.ow sz xs) h k1 k2 k3 k4
 | om es g=>exact gC (.om es g) h k1 k2 k3 k4
 | mp es=>exact gC (.mp es) h k1 k2 k3 k4
 | lit x=>exact gC (.lit x) h k1 k2 k3 k4
 | sl f xs=>exact gC (.sl f xs) h k1 k2 k3 k4
 | hd r p sz g o lo n c=>exact gC (.hd r p sz g o lo n c) h k1 k2 k3 k4
 | ptr r p g o=>exact gC (.ptr r p g o) h k1 k2 k3 k4
 | ep v=>exact gC (.ep v) h k1 k2 k3 k4
def Shp(w w':World):Prop:= ∀ (g:Nat) (c:Array Value) (e:TypeId) (fr:Nat×Nat),w.heap[g]? =some (.cells c e fr)->∃ c':Array Value,w'.heap[g]? =some (.cells c' e fr)/\c'.size=c.size
theorem Shp.refl(w:World):Shp w w:=fun _ c _ _ h=>⟨c,h,rfl⟩
theorem Shp.trans{a b c:World}(h:Shp a b)(k:Shp b c):Shp a c:=fun g x e fr hx=>by
 obtain⟨y,h1,h2⟩:=h g x e fr hx
 obtain⟨z,k1,k2⟩:=k g y e fr h1
 exact⟨z,k1,k2.trans h2⟩
theorem Shp.of_eq{w w':World}(h:∀ g:Nat,g<w.heap.size->w'.heap[g]? =w.heap[g]?):Shp w w':=fun g c e fr hc=>by
 have hl:g<w.heap.size:=(Zbf.1 hc).1
 exact⟨c,(h g hl).trans hc,rfl⟩
structure A4 (Pb:Nat->Prop) (w w':World):Prop where
 os:w'.os=w.os
 tape:w'.tape=w.tape
 output:w'.output=w.output
 size:w.heap.size<=w'.heap.size
 block:∀ g,Pb g->w'.heap[g]? =w.heap[g]?
 shape:Shp w w'
theorem A4.refl(Pb:Nat->Prop)(w:World):A4 Pb w w:=⟨rfl,rfl,rfl,Zba _,fun _ _=>rfl,Shp.refl _⟩
theorem A4.trans{Pb Pb':Nat->Prop}{a b c:World}(h:A4 Pb a b)(k:A4 Pb' b c)(hp:∀ g,Pb g->Pb' g):A4 Pb a c:=
 ⟨k.os.trans h.os,k.tape.trans h.tape,k.output.trans h.output,Nat.le_trans h.size k.size,fun g hg=>(k.block g (hp g hg)).trans (h.block g hg),h.shape.trans k.shape⟩
def At(w:World)(Pb:Nat->Prop)(v:V)(g o:Nat)(F:List Nat):Prop:=
 ∃ cs cells,Blk w g cells/\R w Pb v cs F/\∀ j u,cs[j]? =some u->cells[o+j]? =some u
structure s9 (N:Nat) (Pb Kb:Nat->Prop) (A:AS) (a:Act) (w:World) (F:m0->List Nat):Prop where
 size:a.tmps.size=N
 defers:a.defers=[]
 slot:∀ i,RV w Pb (A.get i) (a.tmps.getD i undef) (F (.slot i))
 root:∀ k g v,lk k A.h=some (g,v)->∃ F',F (.key k)=g::F'/\At w Pb v g 0 F'
 cL:∀ r r',r≠r'->∀ g,g∈F r->g ∉ F r'
 nodup:∀ r,(F r).Nodup
 free:∀ r g,g∈F r->¬ Kb g/\g<w.heap.size
 sub:∀ g,Pb g->Kb g
 bound:∀ g,Kb g->g<w.heap.size
def Nx(N:Nat)(Pb Kb:Nat->Prop)(w:World)(K:AS->Prop)(a':Act)(w':World):Prop:=
 ∃ A' Pb' E2 F',K A'/\s9 N Pb' E2 A' a' w' F'/\(∀ g,Pb g->Pb' g)/\(∀ g,Kb g->E2 g)/\(∀ g,Pb' g->Pb g\/¬ Kb g)/\A4 Kb w w'
def cM(F:m0->List Nat)(r:m0)(l:List Nat):m0->List Nat:=fun r'=>if r'=r then l else F r'
theorem s9.put{N:Nat} {Pb Kb:Nat->Prop} {A:AS} {a:Act} {w:World} {F:m0->List Nat} (h:s9 N Pb Kb A a w F) {d:Nat} {v:V} {x:Value} {F':List Nat}
 (hd:d<N) (hv:RV w Pb v x F') (h1:∀ r,r≠.slot d->∀ g,g∈F'->g ∉ F r) (h2:F'.Nodup) (h3:∀ g,g∈F'->¬ Kb g/\g<w.heap.size):
 s9 N Pb Kb (A.put (some d) v) (a.put (some d) x) w (cM F (.slot d) F') where
 size:=by simp[Act.put,h.size]
 defers:=by simpa[Act.put] using h.defers
 slot:=fun i=>by
  rw[AS.aJ]
  by_cases e:i=d
  subst e
  simp only[if_true,cM]
  have hx:(a.put (some i) x).tmps.getD i undef=x:=by simp[Act.put,h.size,hd]
  rw[hx];exact hv
  have hne:m0.slot i≠m0.slot d:=fun c=>e (by injection c)
  simp only[if_neg e,cM,if_neg hne]
  have hx:(a.put (some d) x).tmps.getD i undef=a.tmps.getD i undef:=by
   simp[Act.put,Array.getElem?_setIfInBounds_ne (Ne.symm e)]
  rw[hx];exact h.slot i
 root:=fun k g v hk=>by
  obtain⟨OP,e,hr⟩:=h.root k g v hk
  exact⟨OP,by simpa[cM] using e,hr⟩
 cL:=fun r r' hne g hg=>by
  simp only[cM]at hg ⊢
  by_cases e:r=.slot d
  subst e
  rw[if_neg (Ne.symm hne)]
  simp only[if_true]at hg
  exact h1 r' (Ne.symm hne) g hg
  rw[if_neg e]at hg
  by_cases e':r'=.slot d
  rw[if_pos e']
  exact fun Q2=>h1 r e g Q2 hg
  rw[if_neg e']
  exact h.cL r r' hne g hg
 nodup:=fun r=>by
  simp only[cM];split
  exact h2
  exact h.nodup r
 free:=fun r g hg=>by
  simp only[cM]at hg
  split at hg
  exact h3 g hg
  exact h.free r g hg
 sub:=h.sub
 bound:=h.bound
def cZ(N:Nat)(d:Option Nat):Prop:=match d with | some d=>d<N | none=>True
theorem s9.rX{N:Nat} {Pb Kb:Nat->Prop} {A:AS} {a:Act} {w:World} {F:m0->List Nat} (h:s9 N Pb Kb A a w F) {d:Option Nat} {v:V} {x:Value}
 (hd:cZ N d) (hv:RV w Pb v x []):∃ F',s9 N Pb Kb (A.put d v) (a.put d x) w F':=by
 cases d with
 | none=>exact⟨F,h⟩
 | some d=>exact⟨_,h.put hd hv Zab Zab Zab⟩
def F9(P:Program)(N:Nat)(o:Oper)(A:AS)(K:AS->Prop):Prop:=
 ∀ Pb Kb a w F Q,s9 N Pb Kb A a w F->o.wp P a w (Nx N Pb Kb w K) Q
theorem ky{P:Program} {N:Nat} {o:Oper} {A:AS} {K:AS->Prop} {v:V} (hd:cZ N o.dst) (hK:K (A.put o.dst v))
 (h:∀ Pb Kb a w F,s9 N Pb Kb A a w F->∃ x,(execOp a.eval o).run P w=.ok (.value x) w/\RV w Pb v x []):F9 P N o A K:=by
 intro Pb Kb a w F Q hs
 obtain⟨x,hx,hr⟩:=h Pb Kb a w F hs
 unfold Oper.wp
 rw[hx,Oper.upon_value]
 obtain⟨F',B4⟩:=hs.rX hd hr
 exact⟨_,Pb,Kb,F',hK,B4,fun _ h=>h,fun _ h=>h,fun _ h=>.inl h,A4.refl _ _⟩
inductive D where
 | int (k:IntKind) | bool | str | ptr (e:Nat) | sl (e:Nat) | arr (n e:Nat) | map (k e:Nat) | st (fs:List (Nat×Nat)) | other
 deriving DecidableEq
structure TI where
 sz:Nat
 Od:Nat
 d:D
def dS:TypeDesc->D
 | .int k=>.int k | .bool=>.bool | .string=>.str | .pointer e=>.ptr e | .slice e=>.sl e | .array n e=>.arr n e | .map k e=>.map k e
 | .struct fs=>.st (fs.toList.map fun f=>(f.offset,f.type))
 | _=>.other
def ti(P:Program)(T:Nat):Option TI:=match P.info? T,P.underlying T with | some i,some d=>some ⟨i.size,i.bytes,dS d⟩ | _,_=>none
def D.agg:D->Bool | .st _ | .arr _ _=>true | _=>false
theorem kP{P:Program}{T:Nat}{i:TI}(h:ti P T=some i):∃ inf d,P.info? T=some inf/\P.underlying T=some d/\inf.size=i.sz/\inf.bytes=i.Od/\dS d=i.d:=by
 unfold ti at h
 cases h1:P.info? T with
 | none=>simp[h1]at h
 | some inf=>cases h2:P.underlying T with
   | none=>simp[h1,h2]at h
   | some d=>simp[h1,h2]at h;subst h;exact⟨inf,d,rfl,rfl,rfl,rfl,rfl⟩
def Uc:Value->V
 | .slice none 0 0=>.sl true []
 | x=>.lit x
def cV:Value->V
 | .agg cs=>if cs.toList.all (·.oneCell') then .agg (cs.toList.map Uc) else .b9
 | .tuple _=>.b9
 | x=>Uc x
def AS.ev(A:AS):Operand->V
 | .tmp i=>A.get i
 | .const v=>cV v
 | .global g=>.ptr (.key (9000+g)) [] g 0
 | .func f=>.lit (.func (.func f) #[] #[])
mutual
def V.R4(r:m0)(p:List Nat):V->V
 | .own sz xs g o c=>.hd r p sz g o 0 xs.length c
 | .ow .. =>.b9
 | .om _ g=>.lit (.map (some g))
 | .agg vs=>.agg (V.IN r p 0 vs)
 | v=>v
def V.IN(r:m0)(p:List Nat)(j:Nat):List V->List V
 | []=>[]
 | v::vs=>v.R4 r (p++[j])::V.IN r p (j+1) vs
end
mutual
def V.dz:V->Bool
 | .own .. =>true
 | .ow .. =>true
 | .om .. =>true
 | .agg vs=>V.aK vs
 | .tup vs=>V.aK vs
 | _=>false
def V.aK:List V->Bool
 | []=>false
 | v::vs=>v.dz||V.aK vs
end
def V.cp(r:m0):V->V
 | .tup _=>.b9
 | .gv _ _=>.b9
 | v=>v.R4 r []
def Dv(A:AS)(x:Operand)(y:V):V:=
 match A.ev x with
 | .tup vs=>if V.aK vs=true then .b9 else .tup vs
 | _=>y
def AS.cp(A:AS):Operand->V
 | .tmp i=>(A.get i).cp (.slot i)
 | x=>A.ev x
def lI(op:BinOp)(k:IntKind)(a b:Int):Option (Prop×V):=
 match op with
 | .add=>some (True,.lit (.int k (k.wrap (a+b))))
 | .sub=>some (True,.lit (.int k (k.wrap (a-b))))
 | .mul=>some (True,.lit (.int k (k.wrap (a*b))))
 | .quo=>some (b≠0,.lit (.int k (k.wrap (a.tdiv b))))
 | .rem=>some (b≠0,.lit (.int k (a.tmod b)))
 | .eql=>some (True,.lit (.bool (a==b)))
 | .neq=>some (True,.lit (.bool (a != b)))
 | .lss=>some (True,.lit (.bool (decide (a<b))))
 | .leq=>some (True,.lit (.bool (decide (a<=b))))
 | .gtr=>some (True,.lit (.bool (decide (a>b))))
 | .geq=>some (True,.lit (.bool (decide (a>=b))))
 | .and=>some (True,.lit (.int k (k.wrap ((BitVec.ofInt k.bits a &&& BitVec.ofInt k.bits b).toNat))))
 | .xor=>some (True,.lit (.int k (k.wrap ((BitVec.ofInt k.bits a ^^^ BitVec.ofInt k.bits b).toNat))))
 | .shr=>some (0<=b,.lit (.int k (a.fdiv (2 ^ min b.toNat k.bits))))
 | .shl=>some (0<=b,.lit (.int k (k.wrap (a*2 ^ min b.toNat k.bits))))
 | _=>none
def RY(k:IntKind)(n:Int):Prop:=
 match k with
 | .i64=> -9223372036854775808<=n/\n<=9223372036854775807
 | .i32=> -2147483648<=n/\n<=2147483647
 | .u8=>0<=n/\n<=255
 | k=>k.wrap n=n
def xD(op:BinOp)(k:IntKind)(a b:Int):Option (Prop×V):=
 match op with
 | .add=>some (RY k (a+b),.lit (.int k (a+b)))
 | .sub=>some (RY k (a-b),.lit (.int k (a-b)))
 | .mul=>some (RY k (a*b),.lit (.int k (a*b)))
 | .quo=>some (0<=a/\0<b/\RY k a,.lit (.int k (a / b)))
 | .rem=>some (0<=a/\0<b,.lit (.int k (a % b)))
 | .and=>some (0<=a/\0<=b/\RY k a/\RY k b,.lit (.int k ((a.toNat &&& b.toNat:Nat):Int)))
 | .xor=>some (0<=a/\0<=b/\RY k a/\RY k b,.lit (.int k ((a.toNat ^^^ b.toNat:Nat):Int)))
 | .shr=>some (0<=b/\b<k.bits,.lit (.int k (a.fdiv (2 ^ b.toNat))))
 | op=>lI op k a b
def xN(op:BinOp)(a b:ByteArray):Option (Prop×V):=
 match op with
 | .add=>some (a.size+b.size<=4611686018427387904,.lit (.string (a++b)))
 | .eql=>some (True,.lit (.bool (a.toList==b.toList)))
 | .neq=>some (True,.lit (.bool (!(a.toList==b.toList))))
 | _=>none
def Ei(op:BinOp)(a b:Bool):Option (Prop×V):=
 match op with
 | .eql=>some (True,.lit (.bool (a==b)))
 | .neq=>some (True,.lit (.bool (!(a==b))))
 | _=>none
def vn(op:BinOp)(d:Option D)(x y:V):Option (Prop×V):=
 match d,x,y with
 | some (.int _),.lit (.int k a),.lit (.int k' b)=>if op=.shr\/op=.shl then xD op k a b else if k=k' then xD op k a b else none
 | some .str,.lit (.string a),.lit (.string b)=>xN op a b
 | some .bool,.lit (.bool a),.lit (.bool b)=>Ei op a b
 | _,_,_=>none
def YG(op:UnOp)(x:V):Option (Prop×V):=
 match op,x with
 | .not,.lit (.bool b)=>some (True,.lit (.bool (!b)))
 | .neg,.lit (.int k n)=>some (RY k (-n),.lit (.int k (-n)))
 | _,_=>none
def tD(P:Program)(T:Nat):Option D:=(ti P T).map (·.d)
def Yx:V->Bool×V
 | .gv b v=>(b,v)
 | v=>(true,v)
def DA(A:AS)(a b:Operand):V->Option (Prop×V)
 | .lit (.bool c)=>match Yx (A.ev a),Yx (A.ev b) with
   | (ga,.lit (.bool x)),(gb,.lit (.bool y))=>some ((c=true->ga=true)/\(c=false->gb=true),.lit (.bool (cond c x y)))
   | _,_=>none
 | _=>none
def Jd:Option D->Option D->V->Option (Prop×V)
 | some (.int _),some (.int k),.lit (.int _ n)=>some (RY k n,.lit (.int k n))
 | some .str,some .str,.lit (.string s)=>some (True,.lit (.string s))
 | _,_,_=>none
def ZO(s:ByteArray)(i:Int):V:=.lit (.int .u8 (s.data.getD i.toNat 0).toNat)
def Hn:Option D->V->V->Option (Prop×V)
 | some .str,.lit (.string s),.lit (.int _ i)=>some (0<=i/\i<s.size,ZO s i)
 | _,_,_=>none
def VK:Option V->Option Int
 | none=>some 0
 | some (.lit (.int _ l))=>some l
 | _=>none
def U0(n:Nat):Option V->Option Int
 | none=>some n
 | some (.lit (.int _ l))=>some l
 | _=>none
def Hu(s:ByteArray)(lo hi:Option V):Option (Prop×V):=
 match VK lo,U0 s.size hi with
 | some l,some h=>some (0<=l/\l<=h/\h<=s.size,.lit (.string (s.extract l.toNat h.toNat)))
 | _,_=>none
def Dj(d:Option D)(x:V)(lo hi:Option V):Option (Prop×V):=
 match d,x with
 | some .str,.lit (.string s)=>Hu s lo hi
 | _,_=>none
def Bi:Option D->V->Option (Prop×V)
 | some .str,.lit (.string s)=>some (True,.lit (.int .i64 s.size))
 | some (.sl _),.sl _ xs=>some (True,.lit (.int .i64 xs.length))
 | some (.sl _),.own _ xs _ _ _=>some (True,.lit (.int .i64 xs.length))
 | some (.sl _),.hd _ _ _ _ _ _ n _=>some (True,.lit (.int .i64 n))
 | _,_=>none
def Iv:V->Nat->Option (Prop×V)
 | .tup vs,i=>match vs[i]? with
   | some v=>if v.dz then none else some (True,v)
   | none=>none
 | _,_=>none
def Ek:V->V->Option (Prop×V)
 | .lit (.int k a),.lit (.int k' b)=>if k=k' then some (True,.lit (.int k (max a b))) else none
 | _,_=>none
def wG(P:Program)(A:AS)(c:Call):Option (Prop×V):=
 match c.callee with
 | .builtin .len=>match c.args.toList,c.argTypes.toList with
   | [x],[T]=>Bi (tD P T) (A.ev x)
   | _,_=>none
 | .builtin .max=>match c.args.toList with
   | [x,y]=>Ek (A.ev x) (A.ev y)
   | _=>none
 | _=>none
def Qx(P:Program)(A:AS):Op->Option (Prop×V)
 | .move x=>some (True,Dv A x (A.cp x))
 | .pick c a b=>DA A a b (A.ev c)
 | .binOp op T x y _=>vn op (tD P T) (A.ev x) (A.ev y)
 | .unOp op _ x=>YG op (A.ev x)
 | .convert s d x=>Jd (tD P s) (tD P d) (A.ev x)
 | .index T x i=>Hn (tD P T) (A.ev x) (A.ev i)
 | .slice T x lo hi none=>Dj (tD P T) (A.ev x) (lo.map A.ev) (hi.map A.ev)
 | .call c=>wG P A c
 | .extract x i=>Iv (A.ev x) i
 | _=>none
section
variable {w:World} {Pb:Nat->Prop}
mutual
theorem ml(r:m0):∀ (v:V) (p:List Nat) {cs F},R w Pb v cs F->R w Pb (v.R4 r p) cs []
 | .own sz xs g o c,p,cs,F,h=>by
   rcases h with ⟨h1,h2,h3,A,h4⟩ | ⟨h1,h2,h3,h4,_⟩
   subst h1 h2;exact⟨rfl,Zba _,A,h4,fun h=>absurd h Zaa⟩
   exact⟨rfl,h3,_,h4,fun _=>by simp⟩
 | .ow ..,_,_,_,h=>by
   obtain⟨g,o,c,h⟩:=h
   rcases h with ⟨h1,h2,h3,A,h4⟩ | ⟨h1,h2,h3,h4,_⟩
   exact⟨rfl,_,h4,rfl⟩
   exact⟨rfl,_,h4,rfl⟩
 | .om ..,_,_,_,h=>⟨rfl,h.2.1,rfl⟩
 | .mp ..,_,_,_,h=>⟨rfl,h.2⟩
 | .agg vs,p,cs,F,h=>by simp only[R,V.R4]at h ⊢;exact Bz r vs p 0 h
 | .tup _,_,_,_,h=>by simp[R]at h
 | .gv _ _,_,_,_,h=>by simp[R]at h
 | .lit x,_,_,_,h=>⟨h.1,h.2.1,rfl⟩
 | .sl ..,_,_,_,h=>⟨rfl,h.2⟩
 | .hd ..,_,_,_,h=>⟨rfl,h.2⟩
 | .ptr ..,_,_,_,h=>⟨rfl,h.2⟩
 | .ep _,_,_,_,h=>⟨rfl,h.2⟩
 | .b9,_,_,_,h=>⟨rfl,h.2⟩
theorem Bz(r:m0):∀ (vs:List V) (p:List Nat) (j:Nat) {cs F},RL w Pb vs cs F->RL w Pb (V.IN r p j vs) cs []
 | [],_,_,_,_,h=>⟨h.1,rfl⟩
 | v::vs,p,j,cs,F,h=>by
   obtain⟨c1,c2,F1,F2,rfl,_,h1,h2⟩:=h
   exact⟨c1,c2,[],[],rfl,rfl,ml r v _ h1,Bz r vs p (j+1) h2⟩
end
mutual
theorem kz:∀ (v:V) {cs F},v.dz=false->R w Pb v cs F->F=[]
 | .own ..,_,_,ho,_=>by simp[V.dz]at ho
 | .ow ..,_,_,ho,_=>by simp[V.dz]at ho
 | .om ..,_,_,ho,_=>by simp[V.dz]at ho
 | .mp ..,_,_,_,h=>h.1
 | .agg vs,_,_,ho,h=>by simp only[R]at h;exact ia vs (by simpa[V.dz] using ho) h
 | .tup _,_,_,_,h=>by simp[R]at h
 | .gv _ _,_,_,_,h=>by simp[R]at h
 | .lit x,_,_,_,h=>h.2.2
 | .sl ..,_,_,_,h=>h.1
 | .hd ..,_,_,_,h=>h.1
 | .ptr ..,_,_,_,h=>h.1
 | .ep _,_,_,_,h=>h.1
 | .b9,_,_,_,h=>h.1
theorem ia:∀ (vs:List V) {cs F},V.aK vs=false->RL w Pb vs cs F->F=[]
 | [],_,_,_,h=>h.2
 | v::vs,_,_,ho,h=>by
   obtain⟨c1,c2,F1,F2,_,rfl,h1,h2⟩:=h
   simp only[V.aK,Bool.or_eq_false_iff]at ho
   rw[kz v ho.1 h1,ia vs ho.2 h2];rfl
end
theorem vC:∀ (vs:List V) {xs F},V.aK vs=false->RVs w Pb vs xs F->F=[]
 | [],_,_,_,h=>h.2
 | v::vs,_,_,ho,h=>by
   obtain⟨x,xs',F1,F2,_,rfl,h1,h2⟩:=h
   simp only[V.aK,Bool.or_eq_false_iff]at ho
   rw[vC vs ho.2 h2]
   cases v with
   | agg us=>obtain⟨cs,_,h1⟩:=h1;rw[ia us (by simpa[V.dz] using ho.1) h1];rfl
   | b9=>rw[h1];rfl
   | tup _=>simp[R]at h1
   | gv _ _=>simp[R]at h1
   | _=>rw[kz _ ho.1 h1];rfl
theorem Lk{v:V}{x:Value}{F:List Nat}(r:m0)(h:RV w Pb v x F):RV w Pb (v.cp r) x []:=by
 cases v with
 | tup _=>rfl
 | gv _ _=>rfl
 | agg us=>obtain⟨cs,e,h⟩:=h;exact⟨cs,e,Bz r us [] 0 h⟩
 | b9=>rfl
 | own sz xs g o c=>exact ml (w:=w) (Pb:=Pb) r (.own sz xs g o c) [] h
 | ow sz xs=>rfl
 | om es g=>exact ml (w:=w) (Pb:=Pb) r (.om es g) [] h
 | mp es=>exact ml (w:=w) (Pb:=Pb) r (.mp es) [] h
 | lit x=>exact ml (w:=w) (Pb:=Pb) r (.lit x) [] h
 | sl f xs=>exact ml (w:=w) (Pb:=Pb) r (.sl f xs) [] h
 | hd r' p sz g o lo n c=>exact ml (w:=w) (Pb:=Pb) r (.hd r' p sz g o lo n c) [] h
 | ptr r' p g o=>exact ml (w:=w) (Pb:=Pb) r (.ptr r' p g o) [] h
 | ep v=>exact ml (w:=w) (Pb:=Pb) r (.ep v) [] h
theorem Jg{x:Value}(h:x.oneCell'=true):R w Pb (Uc x) [x] []:=by
 unfold Uc
 split
 exact⟨rfl,none,0,rfl,Zba _,fun _=>rfl,.inl rfl⟩
 exact⟨h,rfl,rfl⟩
theorem FH:∀ (l:List Value),l.all (·.oneCell')=true->RL w Pb (l.map Uc) l []
 | [],_=>⟨rfl,rfl⟩
 | x::l,h=>by
   simp only[List.all_cons,Zam]at h
   exact⟨[x],l,[],[],rfl,rfl,Jg h.1,FH l h.2⟩
theorem uh(x:Value):RV w Pb (cV x) x []:=by
 cases x with
 | agg cs=>
   unfold cV
   by_cases h:cs.toList.all (·.oneCell')=true
   simp only[h,if_true];exact⟨cs,rfl,FH _ h⟩
   simp only[h];rfl
 | tuple _=>rfl
 | slice a n c=>
   have h:=Jg (w:=w) (Pb:=Pb) (x:=.slice a n c) rfl
   unfold cV;simp only
   revert h
   unfold Uc
   split <;> exact fun h=>h
 | _=>exact⟨rfl,rfl,rfl⟩
variable {N:Nat} {Kb:Nat->Prop} {A:AS} {a:Act} {F:m0->List Nat}
theorem eE(h:s9 N Pb Kb A a w F)(x:Operand):∃ Fx,RV w Pb (A.ev x) (a.eval x) Fx:=by
 cases x with
 | tmp i=>exact⟨_,h.slot i⟩
 | const v=>exact⟨[],uh v⟩
 | global g=>exact⟨[],rfl,rfl⟩
 | func f=>exact⟨[],rfl,rfl,rfl⟩
theorem cF(h:s9 N Pb Kb A a w F){x:Operand}{y:Value}(e:A.ev x=.lit y):a.eval x=y:=by
 obtain⟨Fx,hr⟩:=eE h x
 rw[e]at hr
 have:=hr.2.1
 simpa using this
theorem rq(h:s9 N Pb Kb A a w F)(x:Operand):RV w Pb (A.cp x) (a.eval x) []:=by
 cases x with
 | tmp i=>exact Lk (.slot i) (h.slot i)
 | const v=>exact uh v
 | global g=>exact⟨rfl,rfl⟩
 | func f=>exact⟨rfl,rfl,rfl⟩
variable {P:Program}
theorem aQ{T:Nat}{d:TypeDesc}(h:P.underlying T=some d):(underlying T).run P w=.ok d w:=by
 simp[underlying,h]
theorem df{T:Nat}{d:D}(h:tD P T=some d):∃ td,P.underlying T=some td/\dS td=d:=by
 unfold tD at h
 cases hi:ti P T with
 | none=>simp[hi]at h
 | some i=>
   obtain⟨inf,td,_,h2,_,_,h5⟩:=kP hi
   simp[hi]at h
   exact⟨td,h2,h5.trans h⟩
theorem uX(op:BinOp)(T:Nat)(x y:Operand){u v:Value}(hu:∀ cs,u≠.agg cs)(hn:u≠.nilIface):(eqGuard op T x y u v).run P w=.ok () w:=by
 unfold eqGuard
 cases op <;> first | rfl | (cases u <;> first | (exact absurd rfl hn) | (exact absurd rfl (hu _)) | rfl)
theorem Hg{op:BinOp}{k:IntKind}{p q:Int}{C:Prop}{v:V}(h:lI op k p q=some (C,v))(hC:C){T:Nat}(hs:op=.shr\/op=.shl->∀ yk,∃ x,(binOp op T (.int k p) (.int yk q)).run P w=.ok x w/\v=.lit x/\x.oneCell'=true):
 ∃ x,(binOp op T (.int k p) (.int k q)).run P w=.ok x w/\v=.lit x/\x.oneCell'=true:=by
 cases op <;> simp only[lI,Zal,Zao,reduceCtorEq]at h <;> obtain⟨rfl,rfl⟩:=h
 all_goals first
  | exact hs (.inl rfl) k
  | exact hs (.inr rfl) k
  | (refine⟨_,?_,rfl,rfl⟩
     simp only[binOp,ne_eq,not_true_eq_false,if_false]
     first | rfl | (unfold Op.intDiv;rw[if_neg hC];rfl))
theorem EM{op:BinOp}(ho:op=.shr\/op=.shl){k yk:IntKind}{p q:Int}{C:Prop}{v:V}(h:lI op k p q=some (C,v))(hC:C){T:Nat}:
 ∃ x,(binOp op T (.int k p) (.int yk q)).run P w=.ok x w/\v=.lit x/\x.oneCell'=true:=by
 rcases ho with rfl | rfl <;> simp only[lI,Zal,Zao]at h <;> obtain⟨rfl,rfl⟩:=h <;>
  exact⟨_,by simp[binOp,Op.shift,Int.not_lt.2 hC],rfl,rfl⟩
theorem wH{T:Nat}(hu:P.underlying T=some .bool)(p q:Bool):(Op.equal T (.bool p) (.bool q)).run P w=.ok (p==q) w:=by
 obtain⟨n,hn⟩:∃ n,Op.maxDepth=n+1:=⟨9999,rfl⟩
 unfold Op.equal
 rw[hn]
 simp only[Op.equalIn,Zay,aQ hu,Zaq,Zaz]
theorem mV{k:IntKind}{n:Int}(h:RY k n):k.wrap n=n:=by
 cases k <;> simp only[RY]at h <;> first | exact h | (simp only[IntKind.wrap,IntKind.bits,IntKind.signed,Bool.true_and,Bool.false_and];split <;> simp_all <;> omega)
def WI(k:IntKind):Nat:=if k.signed then k.bits-1 else k.bits
theorem EZ(k:IntKind):2 ^ WI k<=2 ^ k.bits:=Nat.pow_le_pow_right Zad (by unfold WI;split <;> omega)
theorem vu{k:IntKind}{m:Nat}(h:m<2 ^ WI k):k.wrap (m:Int)=m:=by
 unfold IntKind.wrap
 cases k <;> simp[WI,IntKind.bits,IntKind.signed]at h ⊢ <;> omega
theorem pn{k:IntKind}{n:Int}(h:RY k n)(h0:0<=n):n.toNat<2 ^ WI k:=by
 have hw:=mV h
 obtain⟨q,rfl⟩:=Int.eq_ofNat_of_zero_le h0
 unfold IntKind.wrap at hw
 cases k <;> simp[IntKind.bits,IntKind.signed,WI]at hw ⊢ <;> (try split at hw) <;> omega
theorem yY{op:BinOp}{k:IntKind}{p q:Int}{C:Prop}{v:V}(h:xD op k p q=some (C,v))(hC:C):∃ C',lI op k p q=some (C',v)/\C':=by
 cases op <;> simp only[xD,Zal,Zao]at h
 case add=>obtain⟨rfl,rfl⟩:=h;exact⟨_,by simp only[lI,mV hC],trivial⟩
 case sub=>obtain⟨rfl,rfl⟩:=h;exact⟨_,by simp only[lI,mV hC],trivial⟩
 case mul=>obtain⟨rfl,rfl⟩:=h;exact⟨_,by simp only[lI,mV hC],trivial⟩
 case quo=>
  obtain⟨rfl,rfl⟩:=h
  obtain⟨h0,h1,h2⟩:=hC
  refine⟨_,?_,show q≠0 by omega⟩
  have e:p.tdiv q=p / q:=Int.tdiv_eq_ediv_of_nonneg h0
  have hd:0<=p / q:=Int.ediv_nonneg h0 Zaa
  have hle:p / q<=p:=Int.ediv_le_self _ h0
  have hb:=pn h2 h0
  have:=vu (k:=k) (m:=(p / q).toNat) Zaa
  rw[Int.toNat_of_nonneg hd]at this
  simp only[lI,e,this]
 case rem=>
  obtain⟨rfl,rfl⟩:=h
  obtain⟨h0,h1⟩:=hC
  refine⟨_,?_,show q≠0 by omega⟩
  simp only[lI,Int.tmod_eq_emod_of_nonneg h0]
 case and=>
  obtain⟨rfl,rfl⟩:=h
  obtain⟨h0,h1,h2,h3⟩:=hC
  refine⟨_,?_,trivial⟩
  obtain⟨a,rfl⟩:=Int.eq_ofNat_of_zero_le h0
  obtain⟨b,rfl⟩:=Int.eq_ofNat_of_zero_le h1
  have ha:=pn h2 h0
  have hb:=pn h3 h1
  have hk:=EZ k
  simp only[Int.toNat_natCast]at ha hb
  have e:(BitVec.ofInt k.bits (a:Int) &&& BitVec.ofInt k.bits (b:Int)).toNat=a &&& b:=by
   simp only[BitVec.toNat_and,BitVec.toNat_ofInt]
   rw[Int.emod_eq_of_lt Zaa (by exact_mod_cast Nat.lt_of_lt_of_le ha hk),Int.emod_eq_of_lt Zaa (by exact_mod_cast Nat.lt_of_lt_of_le hb hk)];rfl
  have:=vu (k:=k) (m:=a &&& b) (Nat.lt_of_le_of_lt Nat.and_le_left ha)
  simp only[lI,e,this,Int.toNat_natCast]
 case xor=>
  obtain⟨rfl,rfl⟩:=h
  obtain⟨h0,h1,h2,h3⟩:=hC
  refine⟨_,?_,trivial⟩
  obtain⟨a,rfl⟩:=Int.eq_ofNat_of_zero_le h0
  obtain⟨b,rfl⟩:=Int.eq_ofNat_of_zero_le h1
  have ha:=pn h2 h0
  have hb:=pn h3 h1
  have hk:=EZ k
  simp only[Int.toNat_natCast]at ha hb
  have e:(BitVec.ofInt k.bits (a:Int) ^^^ BitVec.ofInt k.bits (b:Int)).toNat=a ^^^ b:=by
   simp only[BitVec.toNat_xor,BitVec.toNat_ofInt]
   rw[Int.emod_eq_of_lt Zaa (by exact_mod_cast Nat.lt_of_lt_of_le ha hk),Int.emod_eq_of_lt Zaa (by exact_mod_cast Nat.lt_of_lt_of_le hb hk)];rfl
  have:=vu (k:=k) (m:=a ^^^ b) (Nat.xor_lt_two_pow ha hb)
  simp only[lI,e,this,Int.toNat_natCast]
 case shr=>
  obtain⟨rfl,rfl⟩:=h
  obtain⟨h1,h2⟩:=hC
  refine⟨_,?_,h1⟩
  have:min q.toNat k.bits=q.toNat:=Zaa
  simp only[lI,this]
 all_goals exact⟨_,h,hC⟩
theorem Ip{op:BinOp}{x y:V}{C:Prop}{v:V}{T:Nat}(h:vn op (tD P T) x y=some (C,v))(hC:C):
 ∃ u u',x=.lit u/\y=.lit u'/\(∀ cs,u≠.agg cs)/\u≠.nilIface/\∃ z,(binOp op T u u').run P w=.ok z w/\v=.lit z/\z.oneCell'=true:=by
 unfold vn at h
 split at h
 rename_i k p k' q _
 refine⟨_,_,rfl,rfl,Zab,Zab,?_⟩
 split at h
 rename_i ho;obtain⟨C',h',ZL⟩:=yY h hC;exact EM ho h' ZL
 rename_i ho
 split at h
 rename_i hk;subst hk;obtain⟨C',h',ZL⟩:=yY h hC;exact Hg h' ZL (fun h=>absurd h ho)
 simp at h
 rename_i p q _
 refine⟨_,_,rfl,rfl,Zab,Zab,?_⟩
 cases op <;> simp only[xN,Zal,Zao,reduceCtorEq]at h <;> obtain⟨rfl,rfl⟩:=h
 refine⟨_,?_,rfl,rfl⟩
 have: ¬ (((p.size+q.size:Nat):Int)>IntKind.i64.max):=by
  have:IntKind.i64.max=9223372036854775807:=Zad
  omega
 simp only[binOp,Op.stringOp,if_neg this,Zaz]
 exact⟨_,rfl,rfl,rfl⟩
 exact⟨_,rfl,rfl,rfl⟩
 rename_i p q hT
 refine⟨_,_,rfl,rfl,Zab,Zab,?_⟩
 obtain⟨td,hu,hd⟩:=df hT
 have PX:td=.bool:=by cases td <;> simp[dS]at hd ⊢
 subst PX
 cases op <;> simp only[Ei,Zal,Zao,reduceCtorEq]at h <;> obtain⟨rfl,rfl⟩:=h
 exact⟨_,by simp only[binOp,Zay,wH hu,Zaq,Zaz],rfl,rfl⟩
 exact⟨_,by simp only[binOp,Zay,wH hu,Zaq,Zaz],rfl,rfl⟩
 simp at h
theorem dH{x:Value}(h:x.oneCell'=true):RV w Pb (.lit x) x []:=⟨h,rfl,rfl⟩
theorem By(h:s9 N Pb Kb A a w F){lo:Option Operand}{l:Int}(hl:VK (lo.map A.ev)=some l):(lo=none/\l=0)\/∃ k,(lo.map a.eval)=some (.int k l):=by
 cases lo with
 | none=>simp[VK]at hl;exact .inl ⟨rfl,hl.symm⟩
 | some x=>
   right
   simp only[Option.map_some,VK]at hl
   cases hx:A.ev x with
   | lit y=>
     cases y with
     | int k l'=>rw[hx]at hl;simp at hl;subst hl;exact⟨k,by simp[cF h hx]⟩
     | _=>rw[hx]at hl;simp at hl
   | _=>rw[hx]at hl;simp at hl
theorem xU(h:s9 N Pb Kb A a w F){n:Nat}{hi:Option Operand}{l:Int}(hl:U0 n (hi.map A.ev)=some l):(hi=none/\l=n)\/∃ k,(hi.map a.eval)=some (.int k l):=by
 cases hi with
 | none=>simp[U0]at hl;exact .inl ⟨rfl,hl.symm⟩
 | some x=>
   right
   simp only[Option.map_some,U0]at hl
   cases hx:A.ev x with
   | lit y=>
     cases y with
     | int k l'=>rw[hx]at hl;simp at hl;subst hl;exact⟨k,by simp[cF h hx]⟩
     | _=>rw[hx]at hl;simp at hl
   | _=>rw[hx]at hl;simp at hl
theorem lf{k:IntKind}{i:Int}{y:Nat}{code:BoundsCode}(h0:0<=i)(h1:i<=y):(Instr.sliceBound (.int k i) y code).run P w=.ok i.toNat w:=by
 simp[Instr.sliceBound,asIntOf,h0,h1]
theorem mu{sl:Bool} {n c:Nat} {lo hi:Option Value} {l h:Int} (hlo:(lo=none/\l=0)\/∃ k,lo=some (.int k l)) (hhi:(hi=none/\h=n)\/∃ k,hi=some (.int k h))
 (h0:0<=l) (h1:l<=h) (h2:h<=(c:Nat)) (hn:n<=c):(Instr.sliceBounds sl n c lo hi none).run P w=.ok (l.toNat,h.toNat,c) w:=by
 have hb:(h.toNat:Int)=h:=Int.toNat_of_nonneg Zaa
 rcases hlo with ⟨rfl,rfl⟩ | ⟨k,rfl⟩ <;> rcases hhi with ⟨rfl,rfl⟩ | ⟨k',rfl⟩
 simp[Instr.sliceBounds]
 simp only[Instr.sliceBounds,Zay,Zaz,Zaq,lf (w:=w) (P:=P) (k:=k') (code:=if sl then .sliceAcap else .sliceAlen) (show 0<=h by omega) h2];rfl
 simp only[Instr.sliceBounds,Zay,Zaz,Zaq,Option.isSome,Bool.false_eq_true,if_false,lf (w:=w) (P:=P) (k:=k) (y:=n) (code:=.sliceB) h0 h1];rfl
 simp only[Instr.sliceBounds,Zay,Zaz,Zaq,Option.isSome,Bool.false_eq_true,if_false,lf (w:=w) (P:=P) (k:=k') (code:=if sl then .sliceAcap else .sliceAlen) (show 0<=h by omega) h2,
  lf (w:=w) (P:=P) (k:=k) (y:=h.toNat) (code:=.sliceB) h0 Zaa]
theorem Ct:∀ (vs:List V) {xs:List Value} {F:List Nat} {i:Nat} {v:V},RVs w Pb vs xs F->vs[i]? =some v->v.dz=false->∃ x,xs[i]? =some x/\RV w Pb v x []
 | [],_,_,_,_,_,h,_=>by simp at h
 | v::vs,xs,F,0,u,h,hi,ho=>by
     obtain⟨x,xs',F1,F2,rfl,rfl,h1,h2⟩:=h
     simp at hi;subst hi
     refine⟨x,rfl,?_⟩
     cases v with
     | agg us=>obtain⟨cs,e,h1⟩:=h1;exact⟨cs,e,by rw[ia us (by simpa[V.dz] using ho) h1]at h1;exact h1⟩
     | b9=>rfl
     | tup us=>simp[R]at h1
     | gv _ _=>simp[R]at h1
     | own=>simp[V.dz]at ho
     | ow=>simp[V.dz]at ho
     | om=>simp[V.dz]at ho
     | mp=>exact⟨rfl,h1.2⟩
     | lit=>exact⟨h1.1,h1.2.1,rfl⟩
     | sl=>exact⟨rfl,h1.2⟩
     | hd=>exact⟨rfl,h1.2⟩
     | ptr=>exact⟨rfl,h1.2⟩
     | ep=>exact⟨rfl,h1.2⟩
 | v::vs,xs,F,i+1,u,h,hi,ho=>by
     obtain⟨x,xs',F1,F2,rfl,rfl,h1,h2⟩:=h
     obtain⟨y,hy,hr⟩:=Ct vs h2 (by simpa using hi) ho
     exact⟨y,by simpa using hy,hr⟩
theorem Cm{op:Op}{C:Prop}{v:V}(h:Qx P A op=some (C,v))(hC:C)(hs:s9 N Pb Kb A a w F){o:Oper}(ho:o.op=op):
 ∃ x,(execOp a.eval o).run P w=.ok (.value x) w/\RV w Pb v x []:=by
 obtain⟨dst,op',ty,pos,after,guard⟩:=o
 subst ho
 unfold Qx at h
 split at h
 rename_i x Og;subst Og
 simp at h;obtain⟨_,rfl⟩:=h
 refine⟨_,rfl,?_⟩
 unfold Dv
 split
 rename_i vs e
 obtain⟨Fx,hr⟩:=eE hs x
 rw[e]at hr
 split
 rfl
 rename_i ho
 obtain⟨xs,hx,hr⟩:=hr
 have hF:=vC vs (by simpa using ho) hr
 subst hF
 exact⟨xs,hx,hr⟩
 exact rq hs x
 · rename_i c p q Og;subst Og
   unfold DA at h
   split at h
   case h_2=>simp at h
   · rename_i c' e
     split at h
     case h_2=>simp at h
     rename_i ga x gb y ea eb
     simp only[Zal,Zao]at h
     obtain⟨rfl,rfl⟩:=h
     have ex:∀ (z:Operand) (g b:Bool),Yx (A.ev z)=(g,.lit (.bool b))->g=true->a.eval z=.bool b:=fun z g b hz hg=>by
      obtain⟨Fx,hr⟩:=eE hs z
      unfold Yx at hz
      split at hz
      rename_i b' v' e'
      simp only[Zao]at hz
      obtain⟨rfl,rfl⟩:=hz
      rw[e']at hr
      have:=(hr.2.1 hg).2.1
      simpa using this
      simp only[Zao]at hz
      rw[hz.2]at hr
      have:=hr.2.1
      simpa using this
     simp only[execOp,cF hs e,asBool,Zay,Zaz,Zaq]
     cases c'
     exact⟨.bool y,by simp[ex q gb y eb (hC.2 rfl)],dH rfl⟩
     exact⟨.bool x,by simp[ex p ga x ea (hC.1 rfl)],dH rfl⟩
 rename_i op T x y _ Og;subst Og
 obtain⟨u,u',hx,hy,hu,hn,z,hz,rfl,h1⟩:=Ip (w:=w) (P:=P) h hC
 refine⟨z,?_,dH h1⟩
 simp only[execOp,cF hs hx,cF hs hy,Zay,uX op T x y hu hn,Zaq,hz,Zaz]
 rename_i op T x Og;subst Og
 unfold YG at h
 split at h <;> simp only[Zal,Zao,reduceCtorEq]at h
 rename_i b e;obtain⟨_,rfl⟩:=h
 exact⟨_,by simp only[execOp,cF hs e];rfl,dH rfl⟩
 rename_i k n e;obtain⟨rfl,rfl⟩:=h
 exact⟨_,by simp only[execOp,cF hs e];rw[show -n=IntKind.wrap k (0-n) by rw[Int.zero_sub];exact(mV hC).symm];rfl,dH rfl⟩
 rename_i s d x Og;subst Og
 unfold Jd at h
 split at h <;> simp only[Zal,Zao,reduceCtorEq]at h
 rename_i k0 k k1 n B4 U1 e;obtain⟨rfl,rfl⟩:=h
 obtain⟨td,hu,hd⟩:=df B4
 obtain⟨YJ,VR,U1⟩:=df U1
 cases td <;> simp[dS]at hd
 cases YJ <;> simp[dS]at U1
 subst hd U1
 exact⟨.int _ (IntKind.wrap _ n),by simp only[execOp,cF hs e,convert,Zay,aQ hu,aQ VR,Zaq];rfl,by rw[mV hC];exact dH rfl⟩
 rename_i s' B4 U1 e;obtain⟨_,rfl⟩:=h
 obtain⟨td,hu,hd⟩:=df B4
 obtain⟨YJ,VR,U1⟩:=df U1
 cases td <;> simp[dS]at hd
 cases YJ <;> simp[dS]at U1
 exact⟨_,by simp only[execOp,cF hs e,convert,Zay,aQ hu,aQ VR,Zaq];rfl,dH rfl⟩
 rename_i T x i Og;subst Og
 unfold Hn at h
 split at h <;> simp only[Zal,Zao,reduceCtorEq]at h
 rename_i s k i' B4 e e';obtain⟨rfl,rfl⟩:=h
 obtain⟨td,hu,hd⟩:=df B4
 cases td <;> simp[dS]at hd
 obtain⟨h0,h1⟩:=hC
 have hlt:i'.toNat<s.size:=Zaa
 refine⟨.int .u8 (s.data.getD i'.toNat 0).toNat,?_,dH rfl⟩
 have hg:s[i'.toNat]? =some (s.data.getD i'.toNat 0):=by
  rw[getElem?_pos s i'.toNat hlt]
  have TU:i'.toNat<s.data.size:=hlt
  simp only[Array.getD,dif_pos TU];rfl
 simp only[execOp,cF hs e,cF hs e',Instr.index,asIntOf,Zay,aQ hu,Zaz,Zaq,if_pos h0,hg]
 rename_i T x lo hi Og;subst Og
 unfold Dj at h
 split at h
 rename_i s B4 e
 unfold Hu at h
 obtain⟨td,hu,hd⟩:=df B4
 cases td <;> simp[dS]at hd
 split at h
 rename_i l h' hl hh
 simp only[Zal,Zao]at h;obtain⟨rfl,rfl⟩:=h
 obtain⟨h0,h1,h2⟩:=hC
 have b1:=By hs hl
 have b2:=xU hs hh
 have b1':(lo.map a.eval=none/\l=0)\/∃ k,lo.map a.eval=some (.int k l):=b1.imp (fun⟨e,f⟩=>⟨by simp[e],f⟩) id
 have b2':(hi.map a.eval=none/\h'=s.size)\/∃ k,hi.map a.eval=some (.int k h'):=b2.imp (fun⟨e,f⟩=>⟨by simp[e],f⟩) id
 refine⟨_,?_,dH rfl⟩
 simp only[execOp,Instr.sliceAt,cF hs e,Zay,aQ hu,Zaq,Instr.slice,Option.map_none,Option.isSome,Bool.false_eq_true,if_false,Zaz,
  mu (w:=w) (P:=P) (sl:=false) b1' b2' h0 h1 h2 (Zba _)]
 simp at h
 simp at h
 · rename_i c Og;subst Og
   unfold wG at h
   split at h
   case h_3=>simp at h
   case h_2=>
    rename_i Wb
    split at h
    case h_2=>simp at h
    rename_i x y hargs
    obtain⟨callee,args,argTypes⟩:=c
    obtain rfl:callee=.builtin .max:=Wb
    obtain rfl:args= #[x,y]:=by rw[<- Array.toArray_toList (xs:=args)];exact Zbk _ hargs
    unfold Ek at h
    split at h
    rename_i k p k' q e1 e2
    split at h
    rename_i hk
    subst hk
    simp only[Zal,Zao]at h;obtain⟨ZK,rfl⟩:=h;clear ZK
    have e:(#[x,y].map a.eval)= #[.int k p,.int k q]:=by simp[cF hs e1,cF hs e2]
    exact⟨_,by simp only[execOp,resolve,invoke,builtin,Zay,Zaz,Zaq,e,Lib.run_max_ints],dH rfl⟩
    simp at h
    simp at h
   rename_i Wb
   split at h
   case h_2=>simp at h
   rename_i x T hargs Y6
   obtain⟨callee,args,argTypes⟩:=c
   obtain rfl:callee=.builtin .len:=Wb
   obtain rfl:args= #[x]:=by rw[<- Array.toArray_toList (xs:=args)];exact Zbk _ hargs
   obtain rfl:argTypes= #[T]:=by rw[<- Array.toArray_toList (xs:=argTypes)];exact Zbk _ Y6
   unfold Bi at h
   split at h <;> simp only[Zal,Zao,reduceCtorEq]at h <;> (obtain⟨ZK,rfl⟩:=h;clear ZK)
   rename_i s B4 e
   obtain⟨td,hu,hd⟩:=df B4
   cases td <;> simp[dS]at hd
   exact⟨_,by simp[execOp,resolve,invoke,builtin,Builtin.len_,cF hs e,aQ hu,goInt],dH rfl⟩
   all_goals
    rename_i B4 e
    obtain⟨td,hu,hd⟩:=df B4
    cases td <;> simp[dS]at hd
    obtain⟨Fx,hr⟩:=eE hs x
    rw[e]at hr
   obtain⟨_,A',c,hc,_⟩:=hr
   simp at hc
   exact⟨_,by simp[execOp,resolve,invoke,builtin,Builtin.len_,hc,aQ hu,goInt],dH rfl⟩
   rcases hr with ⟨_,rfl,_,A',hc⟩ | ⟨_,_,_,hc,_⟩ <;> simp at hc <;>
    exact⟨_,by simp[execOp,resolve,invoke,builtin,Builtin.len_,hc,aQ hu,goInt],dH rfl⟩
   obtain⟨_,_,A',hc,_⟩:=hr
   simp at hc
   exact⟨_,by simp[execOp,resolve,invoke,builtin,Builtin.len_,hc,aQ hu,goInt],dH rfl⟩
 rename_i x i Og;subst Og
 unfold Iv at h
 split at h
 rename_i i _ _ vs e
 split at h
 rename_i v' hv
 split at h
 simp at h
 rename_i ho
 simp at h;obtain⟨_,rfl⟩:=h
 obtain⟨Fx,hr⟩:=eE hs x
 rw[e]at hr
 obtain⟨xs,TJ,hr⟩:=hr
 obtain⟨x',OW,G0⟩:=Ct vs hr hv (by simpa using ho)
 refine⟨x',?_,G0⟩
 have Y1:xs[i]? =some x':=by simpa using OW
 simp only[execOp,TJ,Instr.extract,Y1,Zay,Zaz,Zaq]
 simp at h
 simp at h
 simp at h
end
def V.at(g o:Nat)(v:V):List Nat->Option (Nat×Nat×V)
 | []=>some (g,o,v)
 | j::p=>match v with
   | .agg vs=>match vs[j]? with
     | some u=>V.at g (o+V.ns (vs.take j)) u p
     | none=>none
   | .own sz xs g' o' _=>match xs[j]? with
     | some u=>V.at g' (o'+j*sz) u p
     | none=>none
   | _=>none
def V.sub(v:V):List Nat->Option V
 | []=>some v
 | j::p=>match v with
   | .agg vs=>match vs[j]? with
     | some u=>V.sub u p
     | none=>none
   | .own _ xs _ _ _=>match xs[j]? with
     | some u=>V.sub u p
     | none=>none
   | _=>none
def AS.at(A:AS)(r:m0)(p:List Nat):Option (Nat×Nat×V):=
 match r with
 | .key k=>match lk k A.h with
   | some (g,v)=>V.at g 0 v p
   | none=>none
 | .slot i=>match A.get i,p with
   | .own sz xs g o c,j::p=>V.at 0 0 (.own sz xs g o c) (j::p)
   | _,_=>none
def AS.sub(A:AS)(r:m0)(p:List Nat):Option V:=
 match r with
 | .key k=>match lk k A.h with
   | some (_,v)=>V.sub v p
   | none=>none
 | .slot i=>match A.get i with
   | .tup _=>none
   | v=>V.sub v p
def V.isAgg:V->Bool | .agg _=>true | _=>false
section
variable {w:World} {Pb Kb:Nat->Prop}
theorem iA:∀ (vs:List V) {cs F} {j:Nat} {v:V},RL w Pb vs cs F->vs[j]? =some v->
 ∃ c F',R w Pb v c F'/\(∀ g,g∈F'->g∈F)/\∀ i u,c[i]? =some u->cs[V.ns (vs.take j)+i]? =some u
 | [],_,_,_,_,_,h=>by simp at h
 | v::vs,cs,F,0,u,h,hj=>by
   obtain⟨c1,c2,F1,F2,rfl,rfl,h1,h2⟩:=h
   simp at hj;subst hj
   refine⟨c1,F1,h1,by simp_all,fun i u hu=>?_⟩
   simp only[List.take_zero,V.ns,Zau]
   rw[Za7 (Za1.1 hu).1];exact hu
 | v::vs,cs,F,j+1,u,h,hj=>by
   obtain⟨c1,c2,F1,F2,rfl,rfl,h1,h2⟩:=h
   obtain⟨c,F',hr,hF,hc⟩:=iA vs h2 (by simpa using hj)
   refine⟨c,F',hr,fun g hg=>by simp[hF g hg],fun i u hu=>?_⟩
   have hl:=fk v h1
   simp only[List.take_succ_cons,V.ns]
   rw[<- hl,Zbh,Za2 Zaa]
   have e:c1.length+(V.ns (vs.take j)+i)-c1.length=V.ns (vs.take j)+i:=Zaa
   rw[e];exact hc i u hu
theorem eT{sz:Nat}:∀ (xs:List V) (j:Nat),aM sz xs->j<=xs.length->V.ns (xs.take j)=j*sz
 | _,0,_,_=>by simp[V.ns]
 | [],j+1,_,h=>by simp at h
 | v::vs,j+1,ha,h=>by
   simp only[List.take_succ_cons,V.ns,ha v Zab]
   rw[eT vs j (fun x hx=>ha x (by simp[hx])) (by simpa using h)]
   rw[Nat.add_mul];omega
theorem sy:∀ (p:List Nat) {v u:V} {g o g' o':Nat} {F},At w Pb v g o F->V.at g o v p=some (g',o',u)->∃ F',At w Pb u g' o' F'/\∀ x,x∈F'->x∈F
 | [],v,u,g,o,g',o',F,h,e=>by
   simp only[V.at,Zal,Zao]at e
   obtain⟨rfl,rfl,rfl⟩:=e
   exact⟨F,h,fun _ h=>h⟩
 | j::p,v,u,g,o,g',o',F,h,e=>by
   simp only[V.at]at e
   obtain⟨cs,cells,hb,hr,hc⟩:=h
   split at e
   rename_i vs
   split at e
   rename_i x hx
   simp only[R]at hr
   obtain⟨c,F',G0,hF,L7⟩:=iA vs hr hx
   obtain⟨OP,h2,hF2⟩:=sy p (v:=x) ⟨c,cells,hb,G0,fun i u hu=>by rw[Zbh];exact hc _ _ (L7 i u hu)⟩ e
   exact⟨OP,h2,fun y hy=>hF y (hF2 y hy)⟩
   simp at e
   rename_i sz xs g1 o1 c1
   split at e
   rename_i x hx
   rcases hr with ⟨_,rfl,_⟩ | ⟨_,_,_,_,ha,_,flat,F',o4,rfl,hr,M4,_,L7⟩
   simp at hx
   obtain⟨c,OP,G0,hF,PN⟩:=iA xs hr hx
   have hj:j<=xs.length:=by have:=(Za1.1 hx).1;omega
   rw[eT xs j ha hj]at PN
   obtain⟨F3,h3,hF3⟩:=sy p (v:=x) ⟨c,o4,M4,G0,fun i u hu=>by rw[Zbh];exact L7 _ _ (PN i u hu)⟩ e
   exact⟨F3,h3,fun y hy=>by simp[hF y (hF3 y hy)]⟩
   simp at e
   simp at e
theorem eX{g o:Nat}{cells:Array Value}(h:Blk w g cells):w.cell? ⟨g,o,none⟩=cells[o]? :=by
 obtain⟨e,fr,hb,_⟩:=h
 simp[World.cell?,hb]
theorem eO(g o j:Nat):(⟨g,o,none⟩:Addr).add j=⟨g,o+j,none⟩:=by unfold Addr.add;split <;> simp_all
theorem zt{P:Program}{T:Nat}{i:TI}(h:ti P T=some i):(isAgg T).run P w=.ok i.d.agg w:=by
 obtain⟨inf,d,_,h2,_,_,h5⟩:=kP h
 unfold isAgg
 simp only[Zay,aQ h2,Zaq]
 rw[<- h5]
 cases d <;> rfl
theorem dq{P:Program}{T:Nat}{i:TI}(h:ti P T=some i):(sizeOf T).run P w=.ok i.sz w:=by
 obtain⟨inf,d,h1,_,h3,_,_⟩:=kP h
 simp[sizeOf,typeInfo,h1,h3]
theorem oC{P:Program} {T:Nat} {i:TI} (h:ti P T=some i) {v:V} {cs:List Value} {g o:Nat} {F} (hr:R w Pb v cs F) (hn:v.n=i.sz) (ha:i.d.agg=v.isAgg)
 (hc:∀ j u,cs[j]? =some u->w.cell? ⟨g,o+j,none⟩=some u):∃ x,(loadVar T ⟨g,o,none⟩).run P w=.ok x w/\RV w Pb v x F:=by
 unfold loadVar
 simp only[Zay,zt h,Zaq]
 have hl:=fk v hr
 cases v with
 | agg vs=>
   simp only[V.isAgg]at ha
   rw[ha]
   simp only[if_true,Zay,dq h,Zaq]
   rw[<- hn,<- hl,run_loadCells_list w _ cs (fun j v hv=>by rw[eO];exact hc j v hv)]
   exact⟨_,rfl,_,rfl,hr⟩
 | tup _=>simp[R]at hr
 | gv _ _=>simp[R]at hr
 | b9=>
   simp only[V.isAgg]at ha
   rw[ha]
   obtain⟨hF,x,rfl,hx⟩:=hr
   have:=hc 0 x rfl
   simp only[Nat.add_zero]at this
   exact⟨x,by simp[this],hF⟩
 | _=>
   simp only[V.isAgg]at ha
   rw[ha]
   simp only[V.n]at hl
   obtain⟨x,rfl⟩:=List.length_eq_one_iff.1 hl
   have:=hc 0 x rfl
   simp only[Nat.add_zero]at this
   exact⟨x,by simp[this],hr⟩
end
def mn(P:Program)(d:Option D)(x:V)(j:Nat):Option (Prop×V):=
 match d with
 | some (.st fs)=>match fs[j]? with
   | some (off,T)=>match ti P T with
     | some i=>match x with
       | .ptr r p g o=>some (i.sz≠0,.ptr r (p++[j]) g (o+off))
       | .ep (.agg vs)=>match vs[j]? with
         | some v=>some (i.sz≠0/\V.ns (vs.take j)=off,.ep v)
         | none=>none
       | _=>none
     | none=>none
   | none=>none
 | _=>none
def vU(P:Program)(d:Option D)(x:V)(j:Nat):Option (Prop×V):=
 match d with
 | some (.st fs)=>match fs[j]? with
   | some (off,T)=>match ti P T with
     | some i=>match x with
       | .agg vs=>match vs[j]? with
         | some v=>some (V.ns (vs.take j)=off/\i.sz=v.n/\i.d.agg=v.isAgg,v)
         | none=>none
       | _=>none
     | none=>none
   | none=>none
 | _=>none
def mi(A:AS)(i:Option TI)(x:V):Option (Prop×V):=
 match i with
 | some i=>match x with
   | .ptr r p g o=>match A.at r p with
     | some (g',o',v)=>some (g'=g/\o'=o/\v.n=i.sz/\i.d.agg=v.isAgg,v.R4 r p)
     | none=>none
   | .ep v=>some (v.n=i.sz/\i.d.agg=v.isAgg,v)
   | _=>none
 | none=>none
def lg(P:Program)(d:Option D)(x i:V):Option (Prop×V):=
 match d,i with
 | some (.sl e),.lit (.int _ i)=>match ti P e with
   | some t=>match x with
     | .sl _ xs=>some (0<=i/\i<xs.length/\(xs.getD i.toNat .b9).n=t.sz,.ep (xs.getD i.toNat .b9))
     | .hd r p sz g o lo n _=>some (0<=i/\i<n/\sz=t.sz,.ptr r (p++[lo+i.toNat]) g (o+(lo+i.toNat)*sz))
     | _=>none
   | none=>none
 | some (.arr n e),.lit (.int _ i)=>match ti P e with
   | some t=>match x with
     | .ptr r p g o=>some (0<=i/\i<n,.ptr r (p++[i.toNat]) g (o+i.toNat*t.sz))
     | _=>none
   | none=>none
 | _,_=>none
def DW(P:Program)(d:Option D)(x:V)(lo hi:Option V):Option (Prop×V):=
 match d with
 | some (.sl e)=>match ti P e with
   | some t=>match x with
     | .sl _ xs=>match VK lo,U0 xs.length hi with
       | some l,some h=>some (0<=l/\l<=h/\h<=xs.length/\∀ x∈xs,x.n=t.sz,.sl false ((xs.take h.toNat).drop l.toNat))
       | _,_=>none
     | .hd r p sz g o Ox n c=>match VK lo,U0 n hi with
       | some l,some h=>some (0<=l/\l<=h/\h<=n/\sz=t.sz,.hd r p sz g o (Ox+l.toNat) (h.toNat-l.toNat) (c-l.toNat))
       | _,_=>none
     | _=>none
   | none=>none
 | _=>none
def pF:V->Option Value
 | .lit x=>some x
 | .ptr _ _ g o=>some (.pointer (some ⟨g,o,none⟩))
 | _=>none
def lu:List V->Option (List Value)
 | []=>some []
 | v::vs=>match pF v,lu vs with
   | some x,some xs=>some (x::xs)
   | _,_=>none
def valOf:V->Option Value
 | .agg vs=>match lu vs with
   | some xs=>some (.agg xs.toArray)
   | none=>none
 | v=>pF v
def Lg:V->Option (Prop×V)
 | .ptr r p g o=>some (True,.ptr r p g o)
 | .ep v=>some (True,.ep v)
 | _=>none
def Ep:Option TypeDesc->Bool
 | some (.interface _)=>true
 | none=>true
 | _=>false
def MP(P:Program)(T:Nat)(x:V):Option (Prop×V):=
 if Ep (P.underlying T)=true then none else match valOf x with
  | some y=>some (True,.lit (.iface T y))
  | none=>none
def zeroV(P:Program)(T:Nat):Option V:=match P.info? T with
 | some i=>i.zero.map cV
 | none=>none
def Mz(P:Program)(T:Nat)(x:V):Option (Prop×V):=
 if Ep (P.underlying T)=true then none else match x,zeroV P T with
  | .lit (.iface t v),some z=>some (True,if t=T then .tup [cV v,.lit (.bool true)] else .tup [z,.lit (.bool false)])
  | .lit .nilIface,some z=>some (True,.tup [z,.lit (.bool false)])
  | _,_=>none
def LO(fn:Fn)(a b:List V):Option (Prop×V):=match lu a,lu b with
 | some x,some y=>some (True,.lit (.func fn x.toArray y.toArray))
 | _,_=>none
def H8(P:Program)(A:AS)(op:Op):Option (Prop×V):=
 match op with
 | .load T x=>mi A (ti P T) (A.ev x)
 | .fieldAddr T x j=>mn P (tD P T) (A.ev x) j
 | .field T x j=>vU P (tD P T) (A.cp x) j
 | .indexAddr T x i=>lg P (tD P T) (A.ev x) (A.ev i)
 | .slice T x lo hi none=>match tD P T with
   | some .str=>Dj (some .str) (A.ev x) (lo.map A.ev) (hi.map A.ev)
   | d=>DW P d (A.ev x) (lo.map A.ev) (hi.map A.ev)
 | .nilCheck x=>Lg (A.ev x)
 | .makeInterface T x=>MP P T (A.cp x)
 | .typeAssert x _ T true=>Mz P T (A.ev x)
 | .makeFunc fn a b=>LO fn (a.toList.map A.ev) (b.toList.map A.ev)
 | op=>Qx P A op
section
variable {w:World} {Pb Kb:Nat->Prop} {N:Nat} {A:AS} {a:Act} {F:m0->List Nat} {P:Program}
theorem kF(h:s9 N Pb Kb A a w F){r:m0}{p:List Nat}{g o:Nat}{v:V}(e:A.at r p=some (g,o,v)):∃ F',At w Pb v g o F':=by
 unfold AS.at at e
 split at e
 rename_i k
 split at e
 rename_i g' v' hk
 obtain⟨F',_,hr⟩:=h.root k g' v' hk
 obtain⟨OP,h2,_⟩:=sy p (v:=v') (g:=g') (o:=0) hr e
 exact⟨OP,h2⟩
 simp at e
 rename_i i
 split at e
 rename_i sz xs g' o' c j p hi
 have hr:=h.slot i
 rw[hi]at hr
 simp only[V.at]at e
 split at e
 rename_i x hx
 rcases hr with ⟨_,rfl,_⟩ | ⟨_,_,_,_,ha,_,flat,F',o4,_,hr,M4,_,L7⟩
 simp at hx
 obtain⟨c,OP,G0,hF,PN⟩:=iA xs hr hx
 have hj:j<=xs.length:=by have:=(Za1.1 hx).1;omega
 rw[eT xs j ha hj]at PN
 obtain⟨F3,h3,_⟩:=sy p (v:=x) ⟨c,o4,M4,G0,fun i u hu=>by rw[Zbh];exact L7 _ _ (PN i u hu)⟩ e
 exact⟨F3,h3⟩
 simp at e
 simp at e
theorem EX(hs:s9 N Pb Kb A a w F){T:Nat}{x:Operand}{C:Prop}{v:V}(h:mi A (ti P T) (A.ev x)=some (C,v))(hC:C):
 ∃ y,(Instr.loadAt T (a.eval x)).run P w=.ok y w/\RV w Pb v y []:=by
 unfold mi at h
 split at h
 case h_2=>simp at h
 rename_i i hi
 obtain⟨Fx,hr⟩:=eE hs x
 split at h
 rename_i r p g o e
 rw[e]at hr
 split at h
 rename_i g' o' u B0
 simp only[Zal,Zao]at h
 obtain⟨rfl,rfl⟩:=h
 obtain⟨rfl,rfl,hn,ha⟩:=hC
 obtain⟨F',cs,cells,hb,Of,s8⟩:=kF hs B0
 have hx:a.eval x=.pointer (some ⟨g',o',none⟩):=by have:=hr.2;simpa using this
 obtain⟨y,hy,G0⟩:=oC (w:=w) hi (ml r u p Of) (g:=g') (o:=o') (by
  have:(u.R4 r p).n=u.n:=by
   have h1:=fk _ (ml r u p Of);have h2:=fk _ Of;omega
  omega) (by rw[ha];cases u <;> rfl) (fun j u hu=>by rw[eX hb];exact s8 j u hu)
 exact⟨y,by simp only[Instr.loadAt,hx,Instr.sureAddr,Zay,Zaz,Zaq,hy],G0⟩
 simp at h
 rename_i u e
 rw[e]at hr
 simp only[Zal,Zao]at h
 obtain⟨rfl,rfl⟩:=h
 obtain⟨hn,ha⟩:=hC
 obtain⟨_,b,o,flat,hx,hb,Of,s8⟩:=hr
 have hx:a.eval x=.pointer (some ⟨b,o,none⟩):=by simpa using hx
 obtain⟨y,hy,G0⟩:=oC (w:=w) hi Of hn ha s8
 exact⟨y,by simp only[Instr.loadAt,hx,Instr.sureAddr,Zay,Zaz,Zaq,hy],G0⟩
 simp at h
theorem Eh{T:Nat}{fs:List (Nat×Nat)}(h:tD P T=some (.st fs)):∃ fl:Array Field,P.underlying T=some (.struct fl)/\fl.toList.map (fun f=>(f.offset,f.type))=fs:=by
 obtain⟨td,hu,hd⟩:=df h
 cases td <;> simp[dS]at hd
 rename_i fl
 exact⟨fl,hu,hd⟩
theorem Bq{fl:Array Field}{fs:List (Nat×Nat)}(h:fl.toList.map (fun f=>(f.offset,f.type))=fs){j off T:Nat}(e:fs[j]? =some (off,T)):∃ f,fl[j]? =some f/\f.offset=off/\f.type=T:=by
 subst h
 simp only[List.getElem?_map]at e
 cases hf:fl.toList[j]? with
 | none=>rw[hf]at e;simp at e
 | some f=>rw[hf]at e;simp at e;exact⟨f,by simpa using hf,e⟩
theorem xK(hs:s9 N Pb Kb A a w F){T:Nat}{x:Operand}{j:Nat}{C:Prop}{v:V}(h:mn P (tD P T) (A.ev x) j=some (C,v))(hC:C):
 ∃ y,(Instr.fieldAt T (a.eval x) j).run P w=.ok y w/\RV w Pb v y []:=by
 unfold mn at h
 split at h
 case h_2=>simp at h
 rename_i fs hT
 split at h
 case h_2=>simp at h
 rename_i off T' hj
 split at h
 case h_2=>simp at h
 rename_i i hi
 obtain⟨fl,hu,hfl⟩:=Eh hT
 obtain⟨f,hf,ho,ht⟩:=Bq hfl hj
 obtain⟨Fx,hr⟩:=eE hs x
 split at h
 rename_i r p g o e
 rw[e]at hr
 simp only[Zal,Zao]at h
 obtain⟨rfl,rfl⟩:=h
 have hx:a.eval x=.pointer (some ⟨g,o,none⟩):=by have:=hr.2;simpa using this
 refine⟨.pointer (some ⟨g,o+off,none⟩),?_,rfl,rfl⟩
 simp only[Instr.fieldAt,Zay,aQ hu,Zaq,hf,hx,Instr.sureAddr,Zaz,fieldPlace,ht,dq hi,if_neg hC,ho,eO]
 · rename_i vs e
   rw[e]at hr
   split at h
   case h_2=>simp at h
   rename_i u VR
   simp only[Zal,Zao]at h
   obtain⟨rfl,rfl⟩:=h
   obtain⟨h0,V1⟩:=hC
   obtain⟨_,b,o,flat,hx,hb,Of,s8⟩:=hr
   have hx:a.eval x=.pointer (some ⟨b,o,none⟩):=by simpa using hx
   simp only[R]at Of
   obtain⟨c,F',G0,hF,L7⟩:=iA vs Of VR
   have PT:F'=[]:=List.eq_nil_iff_forall_not_mem.2 fun g hg=>by simpa using hF g hg
   subst PT
   refine⟨.pointer (some ⟨b,o+off,none⟩),?_,rfl,b,o+off,c,rfl,hb,G0,fun i u hu=>by rw[<- V1,Zbh];exact s8 _ _ (L7 i u hu)⟩
   simp only[Instr.fieldAt,Zay,aQ hu,Zaq,hf,hx,Instr.sureAddr,Zaz,fieldPlace,ht,dq hi,if_neg h0,ho,eO]
 simp at h
theorem Dg(hs:s9 N Pb Kb A a w F){T:Nat}{x:Operand}{j:Nat}{C:Prop}{v:V}(h:vU P (tD P T) (A.cp x) j=some (C,v))(hC:C):
 ∃ y,(Instr.field T (a.eval x) j).run P w=.ok y w/\RV w Pb v y []:=by
 unfold vU at h
 split at h
 case h_2=>simp at h
 rename_i fs hT
 split at h
 case h_2=>simp at h
 rename_i off T' hj
 split at h
 case h_2=>simp at h
 rename_i i hi
 obtain⟨fl,hu,hfl⟩:=Eh hT
 obtain⟨f,hf,ho,ht⟩:=Bq hfl hj
 have hr:=rq hs x
 split at h
 case h_2=>simp at h
 rename_i vs e
 rw[e]at hr
 split at h
 case h_2=>simp at h
 rename_i u VR
 simp only[Zal,Zao]at h
 obtain⟨rfl,rfl⟩:=h
 obtain⟨V1,hn,ha⟩:=hC
 obtain⟨cs,hx,hr⟩:=hr
 obtain⟨c,F',G0,hF,L7⟩:=iA vs hr VR
 have PT:F'=[]:=List.eq_nil_iff_forall_not_mem.2 fun g hg=>by simpa using hF g hg
 subst PT
 have hl:=fk _ G0
 simp only[Instr.field,Zay,aQ hu,Zaq,hf,hx,asAgg,Zaz,part,ht,zt hi,ho]
 rw[V1]at L7
 cases u with
 | agg us=>
   simp only[V.isAgg]at ha
   rw[ha]
   simp only[if_true,Zay,dq hi,Zaq,Zaz]
   refine⟨_,rfl,_,rfl,?_⟩
   have hcs:(cs.extract off (off+i.sz)).toList=c:=by
    apply List.ext_getElem?
    intro k
    by_cases hk:k<c.length
    have h1:=L7 k _ (Zar hk)
    rw[Zar hk]
    simp only[Array.getElem?_toList]at h1 ⊢
    rw[Array.getElem?_extract]
    have hlt:=(Zbf.1 h1).1
    rw[if_pos Zaa];exact h1
    have hz:(cs.extract off (off+i.sz)).toList.length<=i.sz:=by
     rw[Array.length_toList,Array.size_extract];omega
    rw[List.getElem?_eq_none Zaa,List.getElem?_eq_none Zaa]
   rw[hcs]
   simp only[R]at G0;exact G0
 | tup _=>simp[R]at G0
 | gv _ _=>simp[R]at G0
 | b9=>
   simp only[V.isAgg]at ha
   rw[ha]
   obtain⟨_,y,rfl,hy⟩:=G0
   have h1:=L7 0 y rfl
   simp only[Nat.add_zero,Array.getElem?_toList]at h1
   exact⟨y,by simp[h1],rfl⟩
 | _=>
   simp only[V.isAgg]at ha
   rw[ha]
   simp only[V.n]at hl
   obtain⟨y,rfl⟩:=List.length_eq_one_iff.1 hl
   have h1:=L7 0 y rfl
   simp only[Nat.add_zero,Array.getElem?_toList]at h1
   exact⟨y,by simp[h1],G0⟩
theorem jU{T e:Nat}(h:tD P T=some (.sl e)):P.underlying T=some (.slice e):=by
 obtain⟨td,hu,hd⟩:=df h
 cases td <;> simp[dS]at hd
 subst hd;exact hu
theorem getD_some{xs:List V}{i:Nat}(h:i<xs.length):xs[i]? =some (xs.getD i .b9):=by
 simp[List.getD,Zar h]
theorem Mh{T n e:Nat}(h:tD P T=some (.arr n e)):P.underlying T=some (.array n e):=by
 obtain⟨td,hu,hd⟩:=df h
 cases td <;> simp[dS]at hd
 obtain⟨rfl,rfl⟩:=hd;exact hu
theorem xM(hs:s9 N Pb Kb A a w F){T:Nat}{x ix:Operand}{C:Prop}{v:V}(h:lg P (tD P T) (A.ev x) (A.ev ix)=some (C,v))(hC:C):
 ∃ y,(Instr.indexAt T (a.eval x) (a.eval ix)).run P w=.ok y w/\RV w Pb v y []:=by
 unfold lg at h
 split at h
 case h_3=>simp at h
 case h_2=>
  rename_i n e k i hT hi
  have hu:=Mh hT
  split at h
  case h_2=>simp at h
  rename_i t ht
  obtain⟨Fx,hr⟩:=eE hs x
  split at h
  case h_2=>simp at h
  rename_i r p g o hx
  rw[hx]at hr
  simp only[Zal,Zao]at h
  obtain⟨rfl,rfl⟩:=h
  have hv:a.eval x=.pointer (some ⟨g,o,none⟩):=by have:=hr.2;simpa using this
  refine⟨.pointer (some ⟨g,o+i.toNat*t.sz,none⟩),?_,rfl,rfl⟩
  simp only[Instr.indexAt,cF hs hi,asIntOf,Zay,Zaz,Zaq,aQ hu,hv,Instr.sureAddr,if_pos (⟨hC.1,hC.2⟩:0<=i/\i<(n:Int)),dq ht,eO]
 rename_i e k i hT hi
 have hu:=jU hT
 split at h
 case h_2=>simp at h
 rename_i t ht
 obtain⟨Fx,hr⟩:=eE hs x
 split at h
 rename_i full xs hx
 rw[hx]at hr
 simp only[Zal,Zao]at h
 obtain⟨rfl,rfl⟩:=h
 obtain⟨h0,h1,hn⟩:=hC
 have hlt:i.toNat<xs.length:=Zaa
 obtain⟨_,A',c,hv,hl,_,hz⟩:=hr
 have hv:a.eval x=.slice A' xs.length c:=by simpa using hv
 rcases hz with rfl | ⟨b,o,sz,flat,rfl,hb,_,hN,O1,s8⟩
 simp at hlt
 obtain⟨cu,F',G0,hF,L7⟩:=iA xs O1 (getD_some hlt)
 have PT:F'=[]:=List.eq_nil_iff_forall_not_mem.2 fun g hg=>by simpa using hF g hg
 subst PT
 rw[eT xs _ hN Zaa]at L7
 have hsz:sz=t.sz:=by rw[<- hn];exact(hN _ (Za5 (getD_some hlt))).symm
 refine⟨.pointer (some ⟨b,o+i.toNat*t.sz,none⟩),?_,rfl,b,o+i.toNat*t.sz,cu,rfl,hb,G0,fun j u hu=>by rw[<- hsz,Zbh];exact s8 _ _ (L7 j u hu)⟩
 simp only[Instr.indexAt,cF hs hi,asIntOf,Zay,Zaz,Zaq,aQ hu,hv,if_pos (⟨h0,h1⟩:0<=i/\i<(xs.length:Int)),dq ht,eO]
 rename_i r p sz g o lo n c hx
 rw[hx]at hr
 simp only[Zal,Zao]at h
 obtain⟨rfl,rfl⟩:=h
 obtain⟨h0,h1,hn⟩:=hC
 obtain⟨_,WD,A',hv,hA⟩:=hr
 have hv:a.eval x=.slice A' n c:=by simpa using hv
 obtain rfl:=hA Zaa
 refine⟨.pointer (some ⟨g,o+(lo+i.toNat)*sz,none⟩),?_,rfl,rfl⟩
 simp only[Instr.indexAt,cF hs hi,asIntOf,Zay,Zaz,Zaq,aQ hu,hv,if_pos (⟨h0,h1⟩:0<=i/\i<(n:Int)),dq ht,eO]
 subst hn
 rw[Zbh,<- Nat.add_mul]
 simp at h
theorem qK:∀ (vs:List V) (k:Nat) {cs:List Value},RL w Pb vs cs []->∃ c':List Value,RL w Pb (vs.drop k) c' []/\∀ i u,c'[i]? =some u->cs[V.ns (vs.take k)+i]? =some u
 | vs,0,cs,h=>⟨cs,h,fun i u hu=>by simpa[V.ns] using hu⟩
 | [],k+1,cs,h=>⟨[],by simpa using⟨rfl,rfl⟩,fun i u hu=>by simp at hu⟩
 | v::vs,k+1,cs,h=>by
   obtain⟨c1,c2,F1,F2,rfl,hF,h1,h2⟩:=h
   have hF2:F2=[]:=by have:=hF.symm;simp at this;exact this.2
   subst hF2
   obtain⟨c',hr,hc⟩:=qK vs k h2
   refine⟨c',by simpa using hr,fun i u hu=>?_⟩
   have hl:=fk v h1
   simp only[List.take_succ_cons,V.ns]
   rw[<- hl,Zbh,Za2 Zaa]
   have e:c1.length+(V.ns (vs.take k)+i)-c1.length=V.ns (vs.take k)+i:=Zaa
   rw[e];exact hc i u hu
theorem qO:∀ (vs:List V) (k:Nat) {cs:List Value},RL w Pb vs cs []->∃ c':List Value,RL w Pb (vs.take k) c' []/\∀ (i:Nat) u,c'[i]? =some u->cs[i]? =some u
 | vs,0,cs,h=>⟨[],by simpa using⟨rfl,rfl⟩,fun i u hu=>by simp at hu⟩
 | [],k+1,cs,h=>⟨[],by simpa using⟨rfl,rfl⟩,fun i u hu=>by simp at hu⟩
 | v::vs,k+1,cs,h=>by
   obtain⟨c1,c2,F1,F2,rfl,hF,h1,h2⟩:=h
   have PT:=hF.symm
   simp at PT
   obtain⟨rfl,rfl⟩:=PT
   obtain⟨c',hr,hc⟩:=qO vs k h2
   refine⟨c1++c',⟨c1,c',[],[],rfl,rfl,h1,hr⟩,fun i u hu=>?_⟩
   by_cases hi:i<c1.length
   rw[Za7 hi]at hu ⊢;exact hu
   rw[Za2 Zaa]at hu ⊢;exact hc _ _ hu
theorem HB(hs:s9 N Pb Kb A a w F){T:Nat}{x:Operand}{lo hi:Option Operand}{C:Prop}{v:V}(h:DW P (tD P T) (A.ev x) (lo.map A.ev) (hi.map A.ev)=some (C,v))(hC:C):
 ∃ y,(Instr.sliceAt T (a.eval x) (lo.map a.eval) (hi.map a.eval) none).run P w=.ok y w/\RV w Pb v y []:=by
 unfold DW at h
 split at h
 case h_2=>simp at h
 rename_i e hT
 have hu:=jU hT
 split at h
 case h_2=>simp at h
 rename_i t ht
 obtain⟨Fx,hr⟩:=eE hs x
 split at h
 · rename_i full xs hx
   rw[hx]at hr
   split at h
   case h_2=>simp at h
   rename_i l h' hl hh
   simp only[Zal,Zao]at h
   obtain⟨rfl,rfl⟩:=h
   obtain⟨h0,h1,h2,hn⟩:=hC
   have b1:(lo.map a.eval=none/\l=0)\/∃ k,lo.map a.eval=some (.int k l):=(By hs hl).imp (fun⟨e,f⟩=>⟨by simp[e],f⟩) id
   have b2:(hi.map a.eval=none/\h'=xs.length)\/∃ k,hi.map a.eval=some (.int k h'):=(xU hs hh).imp (fun⟨e,f⟩=>⟨by simp[e],f⟩) id
   obtain⟨_,A',c,hv,XL,_,hz⟩:=hr
   have hv:a.eval x=.slice A' xs.length c:=by simpa using hv
   have hlen:((xs.take h'.toNat).drop l.toNat).length=h'.toNat-l.toNat:=Zaj
   refine⟨.slice (if c=l.toNat then A' else A'.map (·.add (l.toNat*t.sz))) (h'.toNat-l.toNat) (c-l.toNat),?_,?_⟩
   simp only[Instr.sliceAt,Instr.slice,Zay,aQ hu,Zaq,hv,mu (w:=w) (P:=P) (sl:=true) b1 b2 h0 h1 (show h'<=(c:Nat) by omega) XL,dq ht,Zaz]
   refine⟨rfl,_,c-l.toNat,by rw[hlen],Zaa,Zab,?_⟩
   by_cases he:h'.toNat-l.toNat=0
   left;exact Za3 Zaa
   right
   rcases hz with rfl | ⟨b,o,sz,flat,rfl,hb,Y8,hN,O1,s8⟩
   simp at h2;omega
   have hsz:sz=t.sz:=by
    cases xs with
    | nil=>simp at h2;omega
    | cons x0 xs=>rw[<- hn x0 Zab];exact(hN x0 Zab).symm
   obtain⟨c1,Rs,Pj⟩:=qO xs h'.toNat O1
   obtain⟨c2,M0,Td⟩:=qK _ l.toNat Rs
   have RO:aM sz (xs.take h'.toNat):=fun x hx=>hN x (List.mem_of_mem_take hx)
   rw[eT _ _ RO Zaj]at Td
   rw[if_neg Zaa]
   refine⟨b,o+l.toNat*t.sz,sz,c2,by simp[eO],hb,Y8,fun x hx=>RO x (List.mem_of_mem_drop hx),M0,fun j u hu=>?_⟩
   rw[<- hsz,Zbh];exact s8 _ _ (Pj _ _ (Td j u hu))
 · rename_i r p sz g o Ox n c hx
   rw[hx]at hr
   split at h
   case h_2=>simp at h
   rename_i l h' hl hh
   simp only[Zal,Zao]at h
   obtain⟨rfl,rfl⟩:=h
   obtain⟨h0,h1,h2,hn⟩:=hC
   have b1:(lo.map a.eval=none/\l=0)\/∃ k,lo.map a.eval=some (.int k l):=(By hs hl).imp (fun⟨e,f⟩=>⟨by simp[e],f⟩) id
   have b2:(hi.map a.eval=none/\h'=n)\/∃ k,hi.map a.eval=some (.int k h'):=(xU hs hh).imp (fun⟨e,f⟩=>⟨by simp[e],f⟩) id
   obtain⟨_,WD,A',hv,hA⟩:=hr
   have hv:a.eval x=.slice A' n c:=by simpa using hv
   refine⟨.slice (if c=l.toNat then A' else A'.map (·.add (l.toNat*t.sz))) (h'.toNat-l.toNat) (c-l.toNat),?_,?_⟩
   simp only[Instr.sliceAt,Instr.slice,Zay,aQ hu,Zaq,hv,mu (w:=w) (P:=P) (sl:=true) b1 b2 h0 h1 (show h'<=(c:Nat) by omega) WD,dq ht,Zaz]
   refine⟨rfl,Zaa,_,rfl,fun hc=>?_⟩
   rw[if_neg Zaa,hA Zaa]
   subst hn
   simp only[Option.map_some,eO,Nat.add_mul,Zbh]
 simp at h
theorem vB{v:V}{y:Value}{cs:List Value}{F1:List Nat}(hy:pF v=some y)(h:R w Pb v cs F1):cs=[y]/\y.oneCell'=true:=by
 cases v <;> simp only[pF,Zal,reduceCtorEq]at hy
 subst hy;exact⟨h.2.1,h.1⟩
 subst hy;exact⟨h.2,rfl⟩
theorem Bm:∀ {vs:List V} {xs cs:List Value} {F1:List Nat},lu vs=some xs->RL w Pb vs cs F1->cs=xs
 | [],xs,cs,F1,h,hr=>by simp only[lu,Zal]at h;rw[<- h,hr.1]
 | v::vs,xs,cs,F1,h,hr=>by
   simp only[lu]at h
   split at h
   rename_i y ys e1 e2
   simp only[Zal]at h;subst h
   obtain⟨c1,c2,Fa,Fb,rfl,_,h1,h2⟩:=hr
   rw[(vB e1 h1).1,Bm e2 h2];rfl
   simp at h
theorem Bu{v:V}{y x:Value}{F1:List Nat}(hy:valOf v=some y)(h:RV w Pb v x F1):x=y:=by
 cases v with
 | agg vs=>
   simp only[valOf]at hy
   split at hy
   rename_i xs e
   simp only[Zal]at hy
   obtain⟨cs,rfl,hr⟩:=h
   rw[<- hy,<- Bm e hr]
   simp at hy
 | lit z=>have:=(vB (w:=w) (Pb:=Pb) (v:=.lit z) (y:=y) (cs:=[x]) hy h).1;simpa using this
 | ptr r p g o=>have:=(vB (w:=w) (Pb:=Pb) (v:=.ptr r p g o) (y:=y) (cs:=[x]) hy h).1;simpa using this
 | _=>simp[valOf,pF]at hy
theorem tn(hs:s9 N Pb Kb A a w F):∀ (l:List Operand) {xs:List Value},lu (l.map A.ev)=some xs->l.map a.eval=xs
 | [],xs,h=>by simpa[lu] using h
 | x::l,xs,h=>by
   simp only[Zbc,lu]at h
   split at h
   rename_i y ys e1 e2
   simp only[Zal]at h;subst h
   obtain⟨Fx,hr⟩:=eE hs x
   have:valOf (A.ev x)=some y:=by
    cases hv:A.ev x <;> rw[hv]at e1 <;> simp only[pF,reduceCtorEq,Zal]at e1 <;> simp[valOf,pF,e1]
   rw[Zbc,Bu this hr,tn hs l e2]
   simp at h
theorem yM{T:Nat}(h: ¬ Ep (P.underlying T)=true):∃ d,P.underlying T=some d/\∀ m,d≠.interface m:=by
 cases e:P.underlying T with
 | none=>rw[e]at h;exact absurd rfl h
 | some d=>exact⟨d,rfl,fun m c=>by rw[e,c]at h;exact h rfl⟩
theorem xH{op:Op}{C:Prop}{v:V}(h:H8 P A op=some (C,v))(hC:C)(hs:s9 N Pb Kb A a w F){o:Oper}(ho:o.op=op):
 ∃ x,(execOp a.eval o).run P w=.ok (.value x) w/\RV w Pb v x []:=by
 unfold H8 at h
 split at h
 obtain⟨y,hy,hr⟩:=EX hs h hC
 exact⟨y,by simp only[execOp,ho,Zay,hy,Zaq,Zaz],hr⟩
 obtain⟨y,hy,hr⟩:=xK hs h hC
 exact⟨y,by simp only[execOp,ho,Zay,hy,Zaq,Zaz],hr⟩
 obtain⟨y,hy,hr⟩:=Dg hs h hC
 exact⟨y,by simp only[execOp,ho,Zay,hy,Zaq,Zaz],hr⟩
 obtain⟨y,hy,hr⟩:=xM hs h hC
 exact⟨y,by simp only[execOp,ho,Zay,hy,Zaq,Zaz],hr⟩
 rename_i T x lo hi
 split at h
 rename_i hT
 refine Cm (op:=.slice T x lo hi none) (C:=C) (v:=v) ?_ hC hs ho
 unfold Qx;simp only[hT];exact h
 obtain⟨y,hy,hr⟩:=HB hs h hC
 exact⟨y,by simp only[execOp,ho,Zay,hy,Option.map_none,Zaq,Zaz],hr⟩
 rename_i x
 unfold Lg at h
 obtain⟨Fx,hr⟩:=eE hs x
 split at h <;> rename_i e <;> simp only[Zal,Zao,reduceCtorEq]at h <;> obtain⟨_,rfl⟩:=h <;> rw[e]at hr
 have hx:=(List.cons.inj hr.2).1
 have hx:a.eval x=.pointer (some ⟨_,_,none⟩):=hx
 exact⟨_,by simp only[execOp,ho,hx];rfl,⟨rfl,rfl⟩⟩
 have h1:=hr.1
 obtain⟨_,b,o',flat,hx,h2⟩:=hr
 have hx:=(List.cons.inj hx).1
 exact⟨_,by simp only[execOp,ho,hx];rfl,⟨rfl,b,o',flat,rfl,h2⟩⟩
 rename_i T x
 unfold MP at h
 split at h
 simp at h
 rename_i hi
 obtain⟨d,hd,hn⟩:=yM hi
 split at h
 rename_i y e
 simp only[Zal,Zao]at h
 obtain⟨_,rfl⟩:=h
 have hx:=Bu e (rq hs x)
 refine⟨.iface T y,?_,dH rfl⟩
 have:(Instr.makeInterface T (a.eval x)).run P w=.ok (.iface T y) w:=by
  rw[hx]
  simp only[Instr.makeInterface,Zay,aQ hd,Zaq]
  cases d <;> first | rfl | exact absurd rfl (hn _)
 simp only[execOp,ho,Zay,this,Zaq,Zaz]
 simp at h
 · rename_i x xT T
   unfold Mz at h
   split at h
   simp at h
   rename_i hi
   obtain⟨d,hd,hn⟩:=yM hi
   have zr:∀ z,zeroV P T=some z->∃ y,(zeroValue T).run P w=.ok y w/\RV w Pb z y []:=fun z hz=>by
    unfold zeroV at hz
    split at hz
    rename_i i hi
    simp only[Option.map_eq_some_iff]at hz
    obtain⟨y,hy,rfl⟩:=hz
    exact⟨y,by simp[zeroValue,typeInfo,hi,hy],uh y⟩
    simp at hz
   have tu:∀ (v1:V) (x1:Value) (b:Bool),RV w Pb v1 x1 []->((∀ us,v1≠.tup us)/\∀ b u,v1≠.gv b u)->RV w Pb (.tup [v1,.lit (.bool b)]) (.tuple #[x1,.bool b]) []:=fun v1 x1 b h1 V5=>by
    refine⟨_,rfl,x1,[.bool b],[],[],rfl,rfl,?_,.bool b,[],[],[],rfl,rfl,⟨rfl,rfl,rfl⟩,rfl,rfl⟩
    cases v1 with
    | tup us=>exact absurd rfl (V5.1 us)
    | gv b u=>exact absurd rfl (V5.2 b u)
    | _=>exact h1
   have cvn:∀ y:Value,(∀ us,cV y≠.tup us)/\∀ b u,cV y≠.gv b u:=fun y=>by
    constructor <;> intros <;> unfold cV <;> repeat' split
    all_goals first | (solve | simp) | (unfold Uc;split <;> simp)
   have zn:∀ z,zeroV P T=some z->(∀ us,z≠.tup us)/\∀ b u,z≠.gv b u:=fun z hz=>by
    unfold zeroV at hz
    split at hz
    simp only[Option.map_eq_some_iff]at hz
    obtain⟨y,hy,rfl⟩:=hz
    exact cvn y
    simp at hz
   split at h
   rename_i t v z hx hz
   simp only[Zal,Zao]at h
   obtain⟨_,rfl⟩:=h
   have hx:=cF hs hx
   obtain⟨y,hy,Xx⟩:=zr z hz
   by_cases ht:t=T
   refine⟨.tuple #[v,.bool true],?_,by rw[if_pos ht];exact tu _ _ _ (uh v) (cvn v)⟩
   have:(Instr.typeAssert (a.eval x) xT T true).run P w=.ok (.tuple #[v,.bool true]) w:=by
    rw[hx]
    simp only[Instr.typeAssert,Zay,aQ hd,Zaq]
    cases d <;> first | exact absurd rfl (hn _) | simp[ht]
   simp only[execOp,ho,Zay,this,Zaq,Zaz]
   refine⟨.tuple #[y,.bool false],?_,by rw[if_neg ht];exact tu _ _ _ Xx (zn z hz)⟩
   have:(Instr.typeAssert (a.eval x) xT T true).run P w=.ok (.tuple #[y,.bool false]) w:=by
    rw[hx]
    simp only[Instr.typeAssert,Zay,aQ hd,Zaq]
    cases d <;> first | exact absurd rfl (hn _) | simp[ht,hy]
   simp only[execOp,ho,Zay,this,Zaq,Zaz]
   rename_i z hx hz
   simp only[Zal,Zao]at h
   obtain⟨_,rfl⟩:=h
   have hx:=cF hs hx
   obtain⟨y,hy,Xx⟩:=zr z hz
   refine⟨.tuple #[y,.bool false],?_,tu _ _ _ Xx (zn z hz)⟩
   have:(Instr.typeAssert (a.eval x) xT T true).run P w=.ok (.tuple #[y,.bool false]) w:=by
    rw[hx]
    simp only[Instr.typeAssert,Zay,aQ hd,Zaq]
    cases d <;> first | exact absurd rfl (hn _) | simp[hy]
   simp only[execOp,ho,Zay,this,Zaq,Zaz]
   simp at h
 rename_i fn p q
 unfold LO at h
 split at h
 rename_i xs ys e1 e2
 simp only[Zal,Zao]at h
 obtain⟨_,rfl⟩:=h
 refine⟨.func fn xs.toArray ys.toArray,?_,dH rfl⟩
 have h1:p.map a.eval=xs.toArray:=by apply Array.ext';simpa using tn hs _ e1
 have h2:q.map a.eval=ys.toArray:=by apply Array.ext';simpa using tn hs _ e2
 simp only[execOp,ho,h1,h2];rfl
 simp at h
 exact Cm h hC hs ho
end
section
variable {w:World} {Pb Kb:Nat->Prop} {N:Nat} {A A':AS} {a:Act} {F:m0->List Nat} {P:Program}
theorem yc{v:V}{x:Value}{F:List Nat}(ho:v.dz=false)(h:RV w Pb v x F):F=[]:=by
 cases v with
 | tup vs=>obtain⟨xs,_,h⟩:=h;exact vC vs (by simpa[V.dz] using ho) h
 | gv _ _=>exact h.1
 | agg us=>obtain⟨cs,_,h⟩:=h;exact ia us (by simpa[V.dz] using ho) h
 | b9=>exact h
 | own sz xs g o c=>exact kz (w:=w) (Pb:=Pb) _ ho h
 | ow sz xs=>exact kz (w:=w) (Pb:=Pb) _ ho h
 | om es g=>exact kz (w:=w) (Pb:=Pb) _ ho h
 | mp es=>exact kz (w:=w) (Pb:=Pb) _ ho h
 | lit x=>exact kz (w:=w) (Pb:=Pb) _ ho h
 | sl f xs=>exact kz (w:=w) (Pb:=Pb) _ ho h
 | hd r p sz g o lo n c=>exact kz (w:=w) (Pb:=Pb) _ ho h
 | ptr r p g o=>exact kz (w:=w) (Pb:=Pb) _ ho h
 | ep v=>exact kz (w:=w) (Pb:=Pb) _ ho h
def AS.drop(A:AS):Operand->AS
 | .tmp i=>if (A.get i).dz then A.put (some i) .b9 else A
 | _=>A
def AS.le(A' A:AS):Prop:=(∀ i,A'.get i=.b9\/A'.get i=A.get i)/\(∀ k,lk k A'.h=none\/lk k A'.h=lk k A.h)
open Classical in
theorem s9.le(hs:s9 N Pb Kb A a w F)(h:A'.le A):∃ F',s9 N Pb Kb A' a w F'/\∀ r g,g∈F' r->g∈F r:=by
 refine⟨fun r=>match r with | .slot i=>if A'.get i=.b9 then [] else F (.slot i) | .key k=>if lk k A'.h=none then [] else F (.key k),?_,?_⟩
 have key:∀ r g,g∈(match r with | .slot i=>if A'.get i=.b9 then [] else F (.slot i) | .key k=>if lk k A'.h=none then [] else F (.key k):List Nat)->g∈F r:=by
  intro r g hg
  cases r <;> simp only at hg <;> split at hg <;> simp_all
 refine⟨hs.size,hs.defers,fun i=>?_,fun k g v hk=>?_,fun r r' hne g hg=>?_,fun r=>?_,fun r g hg=>hs.free r g (key r g hg),hs.sub,hs.bound⟩
 rcases h.1 i with e | e
 simp only[e,if_true];rfl
 simp only
 split
 rename_i e';rw[e'];rfl
 rw[e];exact hs.slot i
 simp only
 rw[if_neg (by rw[hk];simp)]
 rcases h.2 k with e | e
 rw[e]at hk;simp at hk
 rw[e]at hk;exact hs.root k g v hk
 exact fun Q2=>hs.cL r r' hne g (key r g hg) (key r' g Q2)
 cases r <;> simp only <;> split <;> first | exact Za8 | exact hs.nodup _
 intro r g hg
 cases r <;> simp only at hg <;> split at hg <;> simp_all
theorem s9.take(hs:s9 N Pb Kb A a w F)(x:Operand):∃ Fx F',RV w Pb (A.ev x) (a.eval x) Fx/\s9 N Pb Kb (A.drop x) a w F'/\Fx.Nodup/\
 (∀ r g,g∈Fx->g ∉ F' r)/\(∀ g,g∈Fx->¬ Kb g/\g<w.heap.size)/\(∀ r g,g∈F' r->g∈F r)/\∀ g,g∈Fx->∃ r,g∈F r:=by
 cases x with
 | tmp i=>
   by_cases ho:(A.get i).dz=true
   have hn:(A.drop (.tmp i))=A.put (some i) .b9:=by simp[AS.drop,ho]
   refine⟨F (.slot i),cM F (.slot i) [],hs.slot i,?_,hs.nodup _,fun r g hg=>?_,fun g hg=>hs.free _ g hg,fun r g hg=>?_,fun g hg=>⟨_,hg⟩⟩
   rw[hn]
   refine⟨hs.size,hs.defers,fun j=>?_,fun k g v hk=>?_,fun r r' hne g hg=>?_,fun r=>?_,fun r g hg=>?_,hs.sub,hs.bound⟩
   rw[AS.aJ]
   by_cases e:j=i
   subst e;simp[cM,RV,VE]
   have:m0.slot j≠m0.slot i:=fun c=>e (by injection c)
   simp only[if_neg e,cM,if_neg this];exact hs.slot j
   obtain⟨F',e,hr⟩:=hs.root k g v hk
   exact⟨F',by simpa[cM] using e,hr⟩
   simp only[cM]at hg ⊢
   split at hg
   simp at hg
   split
   simp
   exact hs.cL r r' hne g hg
   simp only[cM];split
   exact Za8
   exact hs.nodup r
   simp only[cM]at hg;split at hg
   simp at hg
   exact hs.free r g hg
   simp only[cM];split
   simp
   rename_i hne;exact hs.cL _ r (Ne.symm hne) g hg
   simp only[cM]at hg;split at hg
   simp at hg
   exact hg
   have RI:(A.get i).dz=false:=by simpa using ho
   have hF:=yc RI (hs.slot i)
   refine⟨[],F,by have:=hs.slot i;rw[hF]at this;exact this,by simp[AS.drop,RI];exact hs,Za8,Zab,Zab,fun _ _ h=>h,Zab⟩
 | const v=>exact⟨[],F,uh v,hs,Za8,Zab,Zab,fun _ _ h=>h,Zab⟩
 | global g=>exact⟨[],F,⟨rfl,rfl⟩,hs,Za8,Zab,Zab,fun _ _ h=>h,Zab⟩
 | func f=>exact⟨[],F,⟨rfl,rfl,rfl⟩,hs,Za8,Zab,Zab,fun _ _ h=>h,Zab⟩
theorem uq{o:Oper}{K:AS->Prop}{C:Prop}{v:V}(h:H8 P A o.op=some (C,v))(hC:C)(hd:cZ N o.dst)(hK:K (A.put o.dst v)):F9 P N o A K:=
 ky hd hK fun _ _ _ _ _ hs=>xH h hC hs rfl
theorem xa{o:Oper}{K:AS->Prop}{x:Operand}(ho:o.op=.assign x)(hd:cZ N o.dst)(hK:K ((A.drop x).put o.dst (A.ev x))):F9 P N o A K:=by
 intro Pb Kb a w F Q hs
 obtain⟨Fx,F',hr,B4,hnd,x6,hfr,_⟩:=hs.take x
 unfold Oper.wp
 have:(execOp a.eval o).run P w=.ok (.value (a.eval x)) w:=by simp only[execOp,ho];rfl
 rw[this,Oper.upon_value]
 cases Oj:o.dst with
 | none=>exact⟨_,Pb,Kb,F',hK,by rw[Oj];exact B4,fun _ h=>h,fun _ h=>h,fun _ h=>.inl h,A4.refl _ _⟩
 | some d=>
   rw[Oj]at hd hK
   exact⟨_,Pb,Kb,_,hK,B4.put hd hr (fun r _ g hg=>x6 r g hg) hnd hfr,fun _ h=>h,fun _ h=>h,fun _ h=>.inl h,A4.refl _ _⟩
def gd(ops:Array Oper)(o:Oper)(A:AS)(x y:Prop):Prop:=
 match o.guard with
 | none=>x
 | some (j,b)=>match ((ops[j]?).bind (·.dst)).map A.get with
   | some (.lit (.bool b'))=>if b'=b then x else y
   | some (.gv c (.lit (.bool b')))=>if (c&&(b'==b))=true then x else y
   | _=>False
def WL(P:Program)(N:Nat)(ops:Array Oper):List Oper->AS->(AS->Prop)->Prop
 | [],A,K=>K A
 | o::rest,A,K=>gd ops o A (F9 P N o A fun A'=>WL P N ops rest A' K) (cZ N o.dst/\∃ u,(∀ w Pb,RV w Pb u undef [])/\WL P N ops rest (A.put o.dst u) K)
theorem vt{ops:Array Oper}{o:Oper}{x y:Prop}(h:gd ops o A x y)(hs:s9 N Pb Kb A a w F):
 (Region.wanted o (yielded ops a.tmps)=true/\x)\/(Region.wanted o (yielded ops a.tmps)=false/\y):=by
 unfold gd at h
 unfold Region.wanted
 split at h
 rename_i hg;rw[hg];exact .inl ⟨rfl,h⟩
 rename_i j b hg
 rw[hg]
 split at h
 rename_i b' hd
 simp only[Option.map_eq_some_iff]at hd
 obtain⟨d,Ov,Se⟩:=hd
 have hr:=hs.slot d
 rw[Se]at hr
 have hx:a.tmps.getD d undef=.bool b':=by have:=hr.2.1;simpa using this
 have hy:yielded ops a.tmps j=some b':=by
  unfold yielded
  rw[Ov]
  simp only[Option.bind_some]
  cases ht:a.tmps[d]? with
  | none=>simp[ht,undef]at hx
  | some u=>simp[ht]at hx;subst hx;rfl
 simp only[hy]
 split at h
 rename_i e;subst e;exact .inl ⟨Zab,h⟩
 rename_i e;exact .inr ⟨by simp[e],h⟩
 rename_i c b' hd
 simp only[Option.map_eq_some_iff]at hd
 obtain⟨d,Ov,Se⟩:=hd
 have hr:=hs.slot d
 rw[Se]at hr
 obtain⟨_,Rs,M0⟩:=hr
 cases c with
 | false=>
   have hx:=M0 rfl
   have hy:yielded ops a.tmps j=none:=by
    unfold yielded
    rw[Ov]
    simp only[Option.bind_some]
    cases ht:a.tmps[d]? with
    | none=>simp
    | some u=>simp[ht]at hx;subst hx;rfl
   simp only[hy]
   simp only[Bool.false_and,Bool.false_eq_true,if_false]at h
   exact .inr ⟨Zab,h⟩
 | true=>
   have hx:a.tmps.getD d undef=.bool b':=by have:=(Rs rfl).2.1;simpa using this
   have hy:yielded ops a.tmps j=some b':=by
    unfold yielded
    rw[Ov]
    simp only[Option.bind_some]
    cases ht:a.tmps[d]? with
    | none=>simp[ht,undef]at hx
    | some u=>simp[ht]at hx;subst hx;rfl
   simp only[hy]
   simp only[Bool.true_and,Zbj]at h
   split at h
   rename_i e;subst e;exact .inl ⟨Zab,h⟩
   rename_i e;exact .inr ⟨by simp[e],h⟩
 exact h.elim
theorem Nx.mono{K K':AS->Prop}{a':Act}{w':World}(h:Nx N Pb Kb w K a' w')(hK:∀ A,K A->K' A):Nx N Pb Kb w K' a' w':=by
 obtain⟨A',Pb',E2,F',h1,h2⟩:=h
 exact⟨A',Pb',E2,F',hK _ h1,h2⟩
theorem Nx.step{K:AS->Prop} {Pb' E2:Nat->Prop} {Ue:Act} {w' TB:World} (h3:∀ g,Pb g->Pb' g) (h4:∀ g,Kb g->E2 g) (h5:∀ g,Pb' g->Pb g\/¬ Kb g) (h6:A4 Kb w w')
 (h:Nx N Pb' E2 w' K Ue TB):Nx N Pb Kb w K Ue TB:=by
 obtain⟨A2,PQ,PU,F2,k1,k2,k3,k4,k5,k6⟩:=h
 refine⟨A2,PQ,PU,F2,k1,k2,fun g hg=>k3 g (h3 g hg),fun g hg=>k4 g (h4 g hg),fun g hg=>?_,h6.trans k6 h4⟩
 rcases k5 g hg with h | h
 exact h5 g h
 exact .inr fun c=>h (h4 g c)
theorem sT{ops:Array Oper}{Q:Exit->Act->World->Prop}:∀ (l:List Oper) {A:AS} {K:AS->Prop} {Pb Kb:Nat->Prop} {a:Act} {w:World} {F:m0->List Nat},
 WL P N ops l A K->s9 N Pb Kb A a w F->(∀ a' w',Nx N Pb Kb w K a' w'->Q .normal a' w')->wpList P ops Q l a w
 | [],A,K,Pb,Kb,a,w,F,h,hs,hQ=>hQ _ _ ⟨A,Pb,Kb,F,h,hs,fun _ h=>h,fun _ h=>h,fun _ h=>.inl h,A4.refl _ _⟩
 | o::rest,A,K,Pb,Kb,a,w,F,h,hs,hQ=>by
   unfold wpList
   rcases vt h hs with ⟨hw,h⟩ | ⟨hw,hd,u,hu,h⟩
   rw[if_pos hw]
   refine .inl (Oper.wp_mono (K:=Nx N Pb Kb w fun A'=>WL P N ops rest A' K) ?_ (h Pb Kb a w F Q hs))
   intro a' w' ⟨A',Pb',E2,F',h1,h2,h3,h4,h5,h6⟩
   exact sT rest h1 h2 fun Ue TB hn=>hQ Ue TB (Nx.step h3 h4 h5 h6 hn)
   rw[if_neg (by simp[hw])]
   obtain⟨F',B4⟩:=hs.rX (d:=o.dst) (v:=u) (x:=undef) hd (hu w Pb)
   exact sT rest h B4 hQ
def T(P:Program)(N:Nat)(c:Code)(A:AS)(Q:Exit->AS->Prop):Prop:=
 ∀ Pb Kb a w F,s9 N Pb Kb A a w F->c.wp P (fun e a' w'=>Nx N Pb Kb w (Q e) a' w') a w
theorem nM{c:Code}{Q Q':Exit->AS->Prop}(h:T P N c A Q)(hQ:∀ e A,Q e A->Q' e A):T P N c A Q':=
 fun Pb Kb a w F hs=>wp_mono (h Pb Kb a w F hs) fun e _ _ hn=>hn.mono (hQ e)
theorem Lp{Q:Exit->AS->Prop}(h:Q .normal A):T P N .skip A Q:=
 fun Pb Kb _ _ F hs=>wp_skip ⟨A,Pb,Kb,F,h,hs,fun _ h=>h,fun _ h=>h,fun _ h=>.inl h,A4.refl _ _⟩
theorem JU{l:Nat}{Q:Exit->AS->Prop}(h:Q .normal A):T P N (.label l) A Q:=
 fun Pb Kb _ _ F hs=>wp_label ⟨A,Pb,Kb,F,h,hs,fun _ h=>h,fun _ h=>h,fun _ h=>.inl h,A4.refl _ _⟩
theorem Mr{i:Nat}{Q:Exit->AS->Prop}(h:Q (.exit i) A):T P N (.exit i) A Q:=
 fun Pb Kb _ _ F hs=>wp_exit ⟨A,Pb,Kb,F,h,hs,fun _ h=>h,fun _ h=>h,fun _ h=>.inl h,A4.refl _ _⟩
theorem Mx{i:Nat}{Q:Exit->AS->Prop}(h:Q (.goto i) A):T P N (.goto i) A Q:=
 fun Pb Kb _ _ F hs=>wp_goto ⟨A,Pb,Kb,F,h,hs,fun _ h=>h,fun _ h=>h,fun _ h=>.inl h,A4.refl _ _⟩
theorem Nr{Q:Exit->AS->Prop}(h:Q .ret A):T P N .ret A Q:=
 fun Pb Kb _ _ F hs=>wp_ret ⟨A,Pb,Kb,F,h,hs,fun _ h=>h,fun _ h=>h,fun _ h=>.inl h,A4.refl _ _⟩
def ZZ(f:AS->Prop)(Q:Exit->AS->Prop):Exit->AS->Prop
 | .normal,A=>f A
 | e,A=>Q e A
theorem Nb{x y:Code}{Q:Exit->AS->Prop}(h:T P N x A (ZZ (fun A'=>T P N y A' Q) Q)):T P N (.seq x y) A Q:=by
 intro Pb Kb a w F hs
 refine wp_seq (wp_mono (h Pb Kb a w F hs) fun e a' w' hn=>?_)
 cases e with
 | normal=>
   obtain⟨A',Pb',E2,F',h1,h2,h3,h4,h5,h6⟩:=hn
   exact wp_mono (h1 Pb' E2 a' w' F' h2) fun e _ _ hn=>Nx.step h3 h4 h5 h6 hn
 | _=>exact hn
theorem Fq{c:Operand}{x y:Code}{Q:Exit->AS->Prop}{b:Bool}(hc:A.ev c=.lit (.bool b))(ht:b=true->T P N x A Q)(hf:b=false->T P N y A Q):T P N (.cond c x y) A Q:=
 fun Pb Kb a w F hs=>wp_cond_split (cF hs hc) (fun h=>ht h Pb Kb a w F hs) (fun h=>hf h Pb Kb a w F hs)
def ZP(id:Nat)(Q:Exit->AS->Prop):Exit->AS->Prop
 | .exit VM,A=>if VM=id then Q .normal A else Q (.exit VM) A
 | e,A=>Q e A
theorem KX{id:Nat}{c:Code}{Q:Exit->AS->Prop}(h:T P N c A (ZP id Q)):T P N (.block id c) A Q:=by
 intro Pb Kb a w F hs
 refine wp_block (wp_mono (h Pb Kb a w F hs) fun e a' w' hn=>?_)
 cases e with
 | exit VM=>
   simp only[Exit.inBlock]
   have hb:∀ A,ZP id Q (.exit VM) A=if VM=id then Q .normal A else Q (.exit VM) A:=fun _=>rfl
   by_cases e:VM=id
   rw[if_pos e];exact hn.mono fun A h=>by rw[hb,if_pos e]at h;exact h
   rw[if_neg e];exact hn.mono fun A h=>by rw[hb,if_neg e]at h;exact h
 | _=>exact hn
theorem MQ{c:Code} {Q:Exit->AS->Prop} (I:Nat->AS->Prop) (n:Nat) (h0:I n A)
 (round:∀ n A,I n A->T P N c A (ZZ (fun A'=> ∃ m,m<n/\I m A') Q)):T P N (.loop c) A Q:=by
 have key:∀ n A (Pb Kb:Nat->Prop) a w F,I n A->s9 N Pb Kb A a w F->∀ (b:Frame) (k:List Item) (cs:List Frame),
  ∃ e a' w',Nx N Pb Kb w (Q e) a' w'/\Arrives P (lone (b.at a (.code c :: .inLoop c::k)) cs w) b k cs e a' w':=by
  intro n
  induction n using Nat.strongRecOn with
  | _ n ih=>
    intro A Pb Kb a w F hI hs b k cs
    obtain⟨e,R5,RT,hq,Q7⟩:=round n A hI Pb Kb a w F hs b (.inLoop c::k) cs
    cases e with
    | normal=>
      obtain⟨A',Pb',E2,F',⟨m,hm,hI'⟩,h2,h3,h4,h5,h6⟩:=hq
      obtain⟨z8,ZQ,Rk,XB,TZ⟩:=ih m hm A' Pb' E2 R5 RT F' hI' h2 b k cs
      exact⟨z8,ZQ,Rk,Nx.step h3 h4 h5 h6 XB,.of_steps (Steps.trans Q7 (.one step_inLoop)) TZ⟩
    | exit id=>exact⟨_,R5,RT,hq,.pass (x:=.inLoop c) rfl (fun _ _=>.inl Zab) Q7⟩
    | goto l=>exact⟨_,R5,RT,hq,.pass (x:=.inLoop c) rfl (fun _ _=>.inl Zab) Q7⟩
    | ret=>exact⟨_,R5,RT,hq,.pass (x:=.inLoop c) rfl (fun _ _=>.inl Zab) Q7⟩
    | panic ch=>exact⟨_,R5,RT,hq,.pass (x:=.inLoop c) rfl (fun _ _=>.inl Zab) Q7⟩
    | outgrown=>exact⟨_,R5,RT,hq,.pass (x:=.inLoop c) rfl (fun _ _=>.inl Zab) Q7⟩
 intro Pb Kb a w F hs b k cs
 obtain⟨e,a',w',hq,Q7⟩:=key n A Pb Kb a w F h0 hs b k cs
 exact⟨e,a',w',hq,.of_steps (.one step_loop) Q7⟩
theorem II{id:Nat}{ops:Array Oper}{Q:Exit->AS->Prop}(h:WL P N ops ops.toList A (Q .normal)):T P N (.region id ops false) A Q:=
 fun _ _ _ _ _ hs=>wp_region_list (sT _ h hs fun _ _ hn=>hn)
end
mutual
def V.er:V->V
 | .own _ xs _ _ _=>.sl false (V.C8 xs)
 | .ow _ xs=>.sl false (V.C8 xs)
 | .om es _=>.mp es
 | .agg vs=>.agg (V.C8 vs)
 | .tup vs=>.tup (V.C8 vs)
 | .gv _ _=>.b9
 | v=>v
def V.C8:List V->List V
 | []=>[]
 | v::vs=>v.er::V.C8 vs
end
def pr(P:Program)(f:FuncId):Prop:= ∀ args w,(callFunc f args).run P w=.ok (.enter f args) w
def PC(P:Program)(f:FuncId)(args:List V)(Q:V->Prop):Prop:=
 pr P f/\∀ (w:World) (Pb:Nat->Prop) (cargs:List Value),(∀ g,Pb g->g<w.heap.size)->RVs w Pb args cargs []->
  Calls P f cargs.toArray w fun e w'=> ∃ r x F Pb',e=.returned x/\Q r/\RV w' Pb' r x F/\F.Nodup/\(∀ g,g∈F->w.heap.size<=g/\g<w'.heap.size/\¬ Pb' g)/\
   (∀ g,Pb g->Pb' g)/\(∀ g,Pb' g->Pb g\/(w.heap.size<=g/\g<w'.heap.size))/\Below w.heap.size w w'
theorem PC.mono{P:Program}{f:FuncId}{args:List V}{Q Q':V->Prop}(h:PC P f args Q)(hQ:∀ r,Q r->Q' r):PC P f args Q':=
 ⟨h.1,fun w Pb cargs h1 h2=>(h.2 w Pb cargs h1 h2).mono fun _ _ ⟨r,x,F,Pb',e,q,rest⟩=>⟨r,x,F,Pb',e,hQ r q,rest⟩⟩
section
variable {w w':World} {Pb Kb Pb':Nat->Prop} {N:Nat} {A A':AS} {a:Act} {F:m0->List Nat} {P:Program}
mutual
theorem IM:∀ v:V,v.er.n=v.n
 | .own .. =>rfl | .ow .. =>rfl | .om .. =>rfl | .mp .. =>rfl | .agg vs=>by simp only[V.er,V.n];exact IZ vs
 | .tup _=>rfl | .gv _ _=>rfl | .lit _=>rfl | .sl .. =>rfl | .hd .. =>rfl | .ptr .. =>rfl | .ep _=>rfl | .b9=>rfl
theorem IZ:∀ vs:List V,V.ns (V.C8 vs)=V.ns vs
 | []=>rfl | v::vs=>by simp only[V.C8,V.ns,IM v,IZ vs]
end
theorem mN:∀ vs:List V,V.C8 vs=vs.map V.er
 | []=>rfl | v::vs=>by simp[V.C8,mN vs]
mutual
theorem jn:∀ (v:V) {cs F},R w Pb v cs F->(∀ g,Pb g->Pb' g)->(∀ g,g∈F->Pb' g)->R w Pb' v.er cs []
 | .lit x,_,_,h,_,_=>⟨h.1,h.2.1,rfl⟩
 | .agg vs,_,_,h,k1,k2=>by simp only[R,V.er]at h ⊢;exact ug vs h k1 k2
 | .tup _,_,_,h,_,_=>by simp[R]at h
 | .gv _ _,_,_,h,_,_=>by simp[R]at h
 | .sl full xs,cs,F,h,k1,k2=>by
   have hF:=h.1
   subst hF
   exact iu (w:=w) (.sl full xs) h (fun _ _=>rfl) Zab k1 Zab
 | .own sz xs g o c,cs,F,h,k1,k2=>by
   rcases h with ⟨rfl,rfl,rfl,A,rfl⟩ | ⟨h1,h2,h3,rfl,h5,h6,flat,F',cells,rfl,hr,hb,hsz,s8⟩
   exact⟨rfl,A,0,rfl,Zba _,fun h=>by simp at h,.inl rfl⟩
   refine⟨rfl,some ⟨g,o,none⟩,c,by rw[mN];simp,by rw[mN];simpa using h3,fun h=>by simp at h,?_⟩
   by_cases hx:xs=[]
   subst hx;exact .inl rfl
   refine .inr ⟨g,o,sz,flat,rfl,k2 g Zab,h2,?_,ug xs hr k1 (fun g hg=>k2 g (by simp[hg])),fun j u hu=>by rw[eX hb];exact s8 j u hu⟩
   intro v hv
   rw[mN]at hv
   obtain⟨u,hu,rfl⟩:=List.mem_map.1 hv
   rw[IM];exact h5 u hu
 | .ow sz xs,cs,F,h,k1,k2=>by
   obtain⟨g,o,c,h⟩:=h
   rcases h with ⟨rfl,rfl,rfl,A,rfl⟩ | ⟨h1,h2,h3,rfl,h5,h6,flat,F',cells,rfl,hr,hb,hsz,s8⟩
   exact⟨rfl,A,0,rfl,Zba _,fun h=>by simp at h,.inl rfl⟩
   refine⟨rfl,some ⟨g,o,none⟩,c,by rw[mN];simp,by rw[mN];simpa using h3,fun h=>by simp at h,?_⟩
   by_cases hx:xs=[]
   subst hx;exact .inl rfl
   refine .inr ⟨g,o,sz,flat,rfl,k2 g Zab,h2,?_,ug xs hr k1 (fun g hg=>k2 g (by simp[hg])),fun j u hu=>by rw[eX hb];exact s8 j u hu⟩
   intro v hv
   rw[mN]at hv
   obtain⟨u,hu,rfl⟩:=List.mem_map.1 hv
   rw[IM];exact h5 u hu
 | .om es g,cs,F,h,k1,k2=>⟨rfl,g,h.2.1,k2 g (by rw[h.1];simp),h.2.2.2⟩
 | .mp es,cs,F,h,k1,_=>by obtain⟨_,g,h1,h2,h3⟩:=h;exact⟨rfl,g,h1,k1 g h2,h3⟩
 | .hd ..,_,_,h,_,_=>⟨rfl,h.2⟩
 | .ptr ..,_,_,h,_,_=>⟨rfl,h.2⟩
 | .ep v,cs,F,h,k1,k2=>by
   have hF:=h.1
   subst hF
   exact iu (w:=w) (.ep v) h (fun _ _=>rfl) Zab k1 Zab
 | .b9,_,_,h,_,_=>⟨rfl,h.2⟩
theorem ug:∀ (vs:List V) {cs F},RL w Pb vs cs F->(∀ g,Pb g->Pb' g)->(∀ g,g∈F->Pb' g)->RL w Pb' (V.C8 vs) cs []
 | [],_,_,h,_,_=>⟨h.1,rfl⟩
 | v::vs,_,_,h,k1,k2=>by
   obtain⟨c1,c2,F1,F2,rfl,rfl,h1,h2⟩:=h
   exact⟨c1,c2,[],[],rfl,rfl,jn v h1 k1 (fun g hg=>k2 g (by simp[hg])),ug vs h2 k1 (fun g hg=>k2 g (by simp[hg]))⟩
end
theorem Fk:∀ (vs:List V) {xs F},RVs w Pb vs xs F->(∀ g,Pb g->Pb' g)->(∀ g,g∈F->Pb' g)->RVs w Pb' (V.C8 vs) xs []
 | [],_,_,h,_,_=>⟨h.1,rfl⟩
 | v::vs,_,_,h,k1,k2=>by
   obtain⟨x,xs',F1,F2,rfl,rfl,h1,h2⟩:=h
   refine⟨x,xs',[],[],rfl,rfl,?_,Fk vs h2 k1 (fun g hg=>k2 g (by simp[hg]))⟩
   have Tr:∀ g,g∈F1->Pb' g:=fun g hg=>k2 g (by simp[hg])
   cases v with
   | agg us=>obtain⟨cs,e,h1⟩:=h1;exact⟨cs,e,ug us h1 k1 Tr⟩
   | b9=>rfl
   | tup _=>simp[R]at h1
   | gv _ _=>simp[R]at h1
   | own sz xs g o c=>exact jn (w:=w) (Pb:=Pb) (.own sz xs g o c) h1 k1 Tr
   | ow sz xs=>exact jn (w:=w) (Pb:=Pb) (.ow sz xs) h1 k1 Tr
   | om es g=>exact jn (w:=w) (Pb:=Pb) (.om es g) h1 k1 Tr
   | mp es=>exact jn (w:=w) (Pb:=Pb) (.mp es) h1 k1 Tr
   | lit x=>exact jn (w:=w) (Pb:=Pb) (.lit x) h1 k1 Tr
   | sl f xs=>exact jn (w:=w) (Pb:=Pb) (.sl f xs) h1 k1 Tr
   | hd r p sz g o lo n c=>exact jn (w:=w) (Pb:=Pb) (.hd r p sz g o lo n c) h1 k1 Tr
   | ptr r p g o=>exact jn (w:=w) (Pb:=Pb) (.ptr r p g o) h1 k1 Tr
   | ep v=>exact jn (w:=w) (Pb:=Pb) (.ep v) h1 k1 Tr
theorem DN{v:V}{x:Value}{F:List Nat}(h:RV w Pb v x F)(k1:∀ g,Pb g->Pb' g)(k2:∀ g,g∈F->Pb' g):RV w Pb' v.er x []:=by
 cases v with
 | tup vs=>obtain⟨xs,e,h⟩:=h;exact⟨xs,e,Fk vs h k1 k2⟩
 | gv _ _=>rfl
 | agg us=>obtain⟨cs,e,h⟩:=h;exact⟨cs,e,ug us h k1 k2⟩
 | b9=>rfl
 | own sz xs g o c=>exact jn (w:=w) (Pb:=Pb) (.own sz xs g o c) h k1 k2
 | ow sz xs=>exact jn (w:=w) (Pb:=Pb) (.ow sz xs) h k1 k2
 | om es g=>exact jn (w:=w) (Pb:=Pb) (.om es g) h k1 k2
 | mp es=>exact jn (w:=w) (Pb:=Pb) (.mp es) h k1 k2
 | lit x=>exact jn (w:=w) (Pb:=Pb) (.lit x) h k1 k2
 | sl f xs=>exact jn (w:=w) (Pb:=Pb) (.sl f xs) h k1 k2
 | hd r p sz g o lo n c=>exact jn (w:=w) (Pb:=Pb) (.hd r p sz g o lo n c) h k1 k2
 | ptr r p g o=>exact jn (w:=w) (Pb:=Pb) (.ptr r p g o) h k1 k2
 | ep v=>exact jn (w:=w) (Pb:=Pb) (.ep v) h k1 k2
theorem s9.grow{PQ PU:Nat->Prop} (hs:s9 N Pb Kb A a w F) (hb:∀ k,k<w.heap.size->w'.heap[k]? =w.heap[k]?) (hsz:w.heap.size<=w'.heap.size) (h1:∀ g,Pb g->PQ g)
 (h4:∀ g,PU g->Kb g\/(w.heap.size<=g/\g<w'.heap.size)) (h5:∀ g,PQ g->PU g):s9 N PQ PU A a w' F where
 size:=hs.size
 defers:=hs.defers
 slot:=fun i=>oO _ (hs.slot i) (fun g hg=>hb g (hs.bound g (hs.sub g hg))) (fun g hg=>hb g (hs.free _ g hg).2) h1 (fun g hg c=>by
  have hf:=hs.free _ g hg
  rcases h4 g (h5 g c) with h | h
  exact hf.1 h
  omega)
 root:=fun k g v hk=>by
  obtain⟨F',e,cs,cells,⟨e',fr,M4,hfr⟩,hr,hc⟩:=hs.root k g v hk
  have hin:∀ x,x∈g::F'->x<w.heap.size/\¬ PQ x:=fun x hx=>by
   have hf:=hs.free (.key k) x (by rw[e];exact hx)
   refine⟨hf.2,fun c=>?_⟩
   rcases h4 x (h5 x c) with h | h
   exact hf.1 h
   omega
  exact⟨F',e,cs,cells,⟨e',fr,(hb g (hin g Zab).1).trans M4,hfr⟩,iu _ hr (fun g hg=>hb g (hs.bound g (hs.sub g hg))) (fun x hx=>hb x (hin x (by simp[hx])).1) h1 (fun x hx=>(hin x (by simp[hx])).2),hc⟩
 cL:=hs.cL
 nodup:=hs.nodup
 free:=fun r g hg=>by
  have hf:=hs.free r g hg
  refine⟨fun c=>?_,Zaa⟩
  rcases h4 g c with h | h
  exact hf.1 h
  omega
 sub:=h5
 bound:=fun g hg=>by
  rcases h4 g hg with h | h
  have:=hs.bound g h;omega
  exact h.2
theorem A4.zZ(h:Below w.heap.size w w')(hK:∀ g,Kb g->g<w.heap.size):A4 Kb w w':=
 ⟨h.os,h.tape,h.output,h.size,fun g hg=>h.block g (hK g hg),Shp.of_eq h.block⟩
theorem uZ(hs:s9 N Pb Kb A a w F):∀ xs:List Operand,RVs w Pb (xs.map A.cp) (xs.map a.eval) []
 | []=>⟨rfl,rfl⟩
 | x::xs=>by
   refine⟨a.eval x,xs.map a.eval,[],[],rfl,rfl,?_,uZ hs xs⟩
   have h:=rq hs x
   cases hv:A.cp x with
   | tup vs=>
     exfalso
     cases x with
     | tmp i=>
       simp only[AS.cp]at hv
       cases hg:A.get i <;> rw[hg]at hv <;> first | (solve | simp only[V.cp,V.R4,reduceCtorEq]at hv) | (unfold V.cp at hv;simp only[V.R4,reduceCtorEq]at hv)
     | const c=>
       simp only[AS.cp,AS.ev]at hv
       cases c <;> simp[cV,Uc]at hv
       split at hv <;> simp at hv
       split at hv <;> simp at hv
     | _=>simp[AS.cp,AS.ev]at hv
   | gv b u=>
     exfalso
     cases x with
     | tmp i=>
       simp only[AS.cp]at hv
       cases hg:A.get i <;> rw[hg]at hv <;> first | (solve | simp only[V.cp,V.R4,reduceCtorEq]at hv) | (unfold V.cp at hv;simp only[V.R4,reduceCtorEq]at hv)
     | const c=>
       simp only[AS.cp,AS.ev]at hv
       cases c <;> simp[cV,Uc]at hv
       split at hv <;> simp at hv
       split at hv <;> simp at hv
     | _=>simp[AS.cp,AS.ev]at hv
   | agg us=>rw[hv]at h;exact h
   | b9=>rfl
   | own sz xs g o c=>rw[hv]at h;exact h
   | ow sz xs=>rw[hv]at h;exact h
   | om es g=>rw[hv]at h;exact h
   | mp es=>rw[hv]at h;exact h
   | lit x=>rw[hv]at h;exact h
   | sl f xs=>rw[hv]at h;exact h
   | hd r p sz g o lo n c=>rw[hv]at h;exact h
   | ptr r p g o=>rw[hv]at h;exact h
   | ep v=>rw[hv]at h;exact h
theorem Ih{o:Oper} {K:AS->Prop} {f:FuncId} {xs:Array Operand} {N2:Array TypeId} {Q:V->Prop} (ho:o.op=.call { callee:=.value (.func f),args:=xs,argTypes:=N2 })
 (hd:cZ N o.dst) (hc:PC P f (xs.toList.map A.cp) Q) (hK:∀ r,Q r->K (A.put o.dst r)):F9 P N o A K:=by
 intro Pb Kb a w F Q' hs
 unfold Oper.wp
 have B6:(execOp a.eval o).run P w=.ok (.enter f (xs.map a.eval)) w:=by
  simp only[execOp,ho,resolve,Act.eval,Deferred.ofValue,Zay,Zaz,Zaq,invoke]
  have:=hc.1 (xs.map a.eval) w
  simpa using this
 rw[B6,Oper.upon_enter]
 have hargs:=uZ hs xs.toList
 have L6:=hc.2 w Pb (xs.toList.map a.eval) (fun g hg=>hs.bound g (hs.sub g hg)) hargs
 have e:(xs.toList.map a.eval).toArray=xs.map a.eval:=by rw[<- Array.toList_map,Array.toArray_toList]
 rw[e]at L6
 refine L6.mono ?_
 rintro e w' ⟨r,x,Fr,Pb',rfl,hq,hr,hnd,hfr,h1,h2,hb⟩
 have B4:s9 N Pb' (fun g=>Kb g\/Pb' g) A a w' F:=hs.grow hb.block hb.size h1 (fun g hg=>by
  rcases hg with h | h
  exact .inl h
  rcases h2 g h with h | h
  exact .inl (hs.sub g h)
  exact .inr h) (fun g hg=>.inr hg)
 have S5:∀ g,g∈Fr->¬ (Kb g\/Pb' g)/\g<w'.heap.size:=fun g hg=>by
  obtain⟨f1,f2,f3⟩:=hfr g hg
  refine⟨fun c=>?_,f2⟩
  rcases c with c | c
  have:=hs.bound g c;omega
  exact f3 c
 have hnx:∀ A' a' F',K A'->s9 N Pb' (fun g=>Kb g\/Pb' g) A' a' w' F'->Nx N Pb Kb w K a' w':=fun A' a' F' hk VT=>
  ⟨A',Pb',_,F',hk,VT,h1,fun g hg=>.inl hg,fun g hg=>by
   rcases h2 g hg with h | h
   exact .inl h
   exact .inr fun c=>by have:=hs.bound g c;omega,A4.zZ hb hs.bound⟩
 cases Oj:o.dst with
 | none=>exact hnx _ _ F (hK r hq) (by rw[Oj];exact B4)
 | some d=>
   rw[Oj]at hd
   refine hnx _ _ (cM F (.slot d) Fr) (hK r hq) ?_
   rw[Oj]
   refine B4.put hd hr (fun rt _ g hg=>?_) hnd S5
   intro L7
   have:=(hs.free rt g L7).2
   have:=(hfr g hg).1
   omega
theorem qm{o:Oper} {K:AS->Prop} {f:FuncId} {xs:Array Operand} {N2:Array TypeId} {Q:V->Prop} {E:V} (ho:o.op=.call { callee:=.value (.func f),args:=xs,argTypes:=N2 })
 (hd:cZ N o.dst) (hc:PC P f (xs.toList.map A.cp) Q) (hE:∀ r,Q r->r.er=E) (hK:K (A.put o.dst E)):F9 P N o A K:=by
 have L7:PC P f (xs.toList.map A.cp) (fun r=>r=E):=by
  refine⟨hc.1,fun w Pb cargs h1 h2=>(hc.2 w Pb cargs h1 h2).mono ?_⟩
  rintro e w' ⟨r,x,Fr,Pb',rfl,hq,hr,hnd,hfr,k1,k2,hb⟩
  refine⟨E,x,[],fun g=>Pb' g\/g∈Fr,rfl,rfl,?_,Za8,Zab,fun g hg=>.inl (k1 g hg),fun g hg=>?_,hb⟩
  rw[<- hE r hq];exact DN hr (fun g hg=>.inl hg) (fun g hg=>.inr hg)
  rcases hg with h | h
  exact k2 g h
  obtain⟨f1,f2,_⟩:=hfr g h;exact .inr ⟨f1,f2⟩
 exact Ih ho hd L7 fun r hr=>by rw[hr];exact hK
def enum(k:Nat):List V->List (Nat×V)
 | []=>[]
 | v::vs=>(k,v)::enum (k+1) vs
def Ar(A:AS):ResultVar->Option (m0×V)
 | .tmp t=>some (.slot t,A.get t)
 | .cell t _=>match A.get t with
   | .ptr (.key k) [] g 0=>match lk k A.h with
     | some (g',v)=>if g'=g then some (.key k,v) else none
     | none=>none
   | _=>none
def rm(A:AS):List ResultVar->Option (List (m0×V))
 | []=>some []
 | r::rs=>match Ar A r,rm A rs with
   | some x,some xs=>some (x::xs)
   | _,_=>none
def rY(P:Program):List ResultVar->List (m0×V)->Prop
 | .cell _ T::rs,(_,v)::xs=>(match ti P T with | some i=>v.n=i.sz/\i.d.agg=v.isAgg | none=>False)/\rY P rs xs
 | .tmp _::rs,(_,v)::xs=>(match v with | .tup _=>False | .gv _ _=>False | _=>True)/\rY P rs xs
 | [],[]=>True
 | _,_=>False
def one(vs:List V):V:=match vs with | [v]=>v | vs=>.tup vs
theorem CL:∀ (vs:List V) (k i:Nat),lk i (enum k vs)=if k<=i then vs[i-k]? else none
 | [],k,i=>by simp[enum,lk]
 | v::vs,k,i=>by
   simp only[enum,lk]
   by_cases h:i=k
   subst h;simp
   rw[if_neg h,CL vs (k+1) i]
   by_cases h':k+1<=i
   rw[if_pos h',if_pos Zaa]
   have:i-k=(i-(k+1))+1:=Zaa
   rw[this];rfl
   rw[if_neg h',if_neg Zaa]
theorem Fw:∀ (vs:List V) {xs:List Value} {i:Nat} {v:V},RVs w Pb vs xs []->vs[i]? =some v->∃ x,xs[i]? =some x/\RV w Pb v x []
 | [],_,_,_,_,h=>by simp at h
 | v::vs,xs,0,u,h,hi=>by
     obtain⟨x,xs',F1,F2,rfl,hF,h1,h2⟩:=h
     have hF1:F1=[]:=by have:=hF.symm;simp at this;exact this.1
     subst hF1
     simp at hi;subst hi
     refine⟨x,rfl,?_⟩
     cases v with
     | agg us=>exact h1
     | b9=>exact h1
     | tup us=>simp[R]at h1
     | gv _ _=>simp[R]at h1
     | _=>exact h1
 | v::vs,xs,i+1,u,h,hi=>by
     obtain⟨x,xs',F1,F2,rfl,hF,h1,h2⟩:=h
     have hF2:F2=[]:=by have:=hF.symm;simp at this;exact this.2
     subst hF2
     obtain⟨y,hy,hr⟩:=Fw vs h2 (by simpa using hi)
     exact⟨y,by simpa using hy,hr⟩
theorem xu:∀ (vs:List V) {xs:List Value} {F},RVs w Pb vs xs F->xs.length=vs.length
 | [],_,_,h=>by rw[h.1];rfl
 | v::vs,_,_,h=>by
   obtain⟨x,xs',F1,F2,rfl,_,_,h2⟩:=h
   simp[xu vs h2]
def Wm(a:Act):ResultVar->Sem Value
 | .tmp t=>pure (a.tmps.getD t undef)
 | .cell t T=>do loadVar T (<- asAddr (a.tmps.getD t undef))
def Qw(w:World)(Pb:Nat->Prop)(v:V)(x:Value)(F:List Nat):Prop:=match v with
 | .agg us=> ∃ cs,x=.agg cs/\RL w Pb us cs.toList F
 | .b9=>F=[]
 | v=>R w Pb v [x] F
theorem FX{v:V}{x:Value}{F1:List Nat}(h:RV w Pb v x F1)(hn:(∀ us,v≠.tup us)/\∀ b u,v≠.gv b u):Qw w Pb v x F1:=by
 cases v with
 | tup us=>exact absurd rfl (hn.1 us)
 | gv b u=>exact absurd rfl (hn.2 b u)
 | _=>exact h
theorem Mf{i:Option TI}{v:V}(h:match i with | some i=>v.n=i.sz/\i.d.agg=v.isAgg | none=>False):∃ j,i=some j/\v.n=j.sz/\j.d.agg=v.isAgg:=by
 cases i with
 | none=>exact h.elim
 | some j=>exact⟨j,rfl,h⟩
instance:LawfulMonad Sem:=LawfulMonad.mk' Sem (id_map:=fun x=>by
 show x.bind (fun a=>Sem.pure (id a))=x
 exact Sem.bind_pure' x)
 (pure_bind:=fun _ _=>rfl) (bind_assoc:=fun x f g=>Sem.bind_assoc' x f g)
theorem yO(hs:s9 N Pb Kb A a w F):∀ (rs:List ResultVar) {xs:List (m0×V)},rm A rs=some xs->rY P rs xs->(xs.map (·.1)).Nodup->
 ∃ (vs:List Value) (Fr:List Nat),(rs.mapM (Wm a)).run P w=.ok vs w/\
   RVs w Pb (xs.map (·.2)) vs Fr/\Fr.Nodup/\(∀ g,g∈Fr->∃ r,r∈xs.map (·.1)/\g∈F r)
 | [],xs,h,_,_=>by
   simp[rm]at h;subst h
   exact⟨[],[],rfl,⟨rfl,rfl⟩,Za8,Zab⟩
 | r::rs,xs,h,M1,hnd=>by
   simp only[rm]at h
   split at h
   case h_2=>simp at h
   rename_i x xs' hx TJ
   simp only[Zal]at h
   subst h
   simp only[Zbc,List.nodup_cons]at hnd
   have Zd:rY P rs xs':=by
    obtain⟨xr,xv⟩:=x
    cases r <;> exact M1.2
   obtain⟨vs,Fr,B6,hrv,Ps,hin⟩:=yO hs rs TJ Zd hnd.2
   have h1:∃ (v:Value) (F1:List Nat),(Wm a r).run P w=.ok v w/\RV w Pb x.2 v F1/\((∀ us,x.2≠.tup us)/\∀ b u,x.2≠.gv b u)/\F1.Nodup/\∀ g,g∈F1->g∈F x.1:=by
    cases r with
    | tmp t=>
      simp only[Ar,Zal]at hx
      subst hx
      have M1:=M1.1
      exact⟨_,F (.slot t),rfl,hs.slot t,⟨fun us e=>by have e':A.get t=.tup us:=e;rw[e']at M1;exact M1,fun b u e=>by have e':A.get t=.gv b u:=e;rw[e']at M1;exact M1⟩,hs.nodup _,fun _ h=>h⟩
    | cell t T=>
      simp only[Ar]at hx
      split at hx
      case h_2=>simp at hx
      rename_i k g hg
      split at hx
      case h_2=>simp at hx
      rename_i g' v hk
      split at hx
      case isFalse=>simp at hx
      rename_i e
      subst e
      simp only[Zal]at hx
      subst hx
      have TR:=M1.1
      obtain⟨i,hi,TR⟩:=Mf TR
      obtain⟨F',e,cs,cells,hb,hr,hc⟩:=hs.root k g' v hk
      have hp:=hs.slot t
      rw[hg]at hp
      have hp:a.tmps.getD t undef=.pointer (some ⟨g',0,none⟩):=by have:=hp.2;simpa using this
      obtain⟨y,hy,Xx⟩:=oC (w:=w) hi hr TR.1 TR.2 (g:=g') (o:=0) (fun j u hu=>by rw[eX hb];exact hc j u hu)
      refine⟨y,F',by simp only[Wm,hp,asAddr,Zay,Zaz,Zaq,hy],Xx,?_,?_,?_⟩
      exact⟨fun us e=>by simp only at e;subst e;simp[R]at hr,fun b u e=>by simp only at e;subst e;simp[R]at hr⟩
      have:=hs.nodup (.key k);rw[e]at this;exact(List.nodup_cons.1 this).2
      intro g hg;rw[e];simp[hg]
   obtain⟨v,F1,hv,Rs,hnt,V4,XO⟩:=h1
   refine⟨v::vs,F1++Fr,?_,?_,?_,?_⟩
   rw[List.mapM_cons]
   simp only[Zay,Zaz]
   rw[hv]
   simp only[Zaq,B6]
   exact⟨v,vs,F1,Fr,rfl,rfl,FX Rs hnt,hrv⟩
   refine List.nodup_append.2 ⟨V4,Ps,fun p hp q hq e=>?_⟩
   subst e
   obtain⟨r',G0,Q2⟩:=hin p hq
   exact hs.cL x.1 r' (fun c=>hnd.1 (by rw[c];exact G0)) p (XO p hp) Q2
   intro g hg
   rcases Zav.1 hg with h | h
   exact⟨x.1,Zab,XO g h⟩
   obtain⟨r',G0,Q2⟩:=hin g h
   exact⟨r',by simp only[Zbc,List.mem_cons];exact .inr G0,Q2⟩
theorem EO:∀ (us:List V) {vs:List Value} {Fr:List Nat},RVs w Pb us vs Fr->RV w Pb (one us) (if h:vs.toArray.size=1 then vs.toArray[0] else .tuple vs.toArray) Fr
 | [],vs,Fr,h=>by obtain⟨rfl,rfl⟩:=h;exact⟨#[],rfl,rfl,rfl⟩
 | [v],vs,Fr,h=>by
   obtain⟨x,xs',F1,F2,rfl,rfl,h1,h2⟩:=h
   obtain⟨rfl,rfl⟩:=h2
   simp only[List.append_nil]
   show RV w Pb v x F1
   cases v with
   | tup _=>simp[R]at h1
   | gv _ _=>simp[R]at h1
   | _=>exact h1
 | v::v'::us,vs,Fr,h=>by
   have hl:=xu _ h
   rw[dif_neg (by simp at hl ⊢;omega)]
   exact⟨vs.toArray,rfl,by simpa using h⟩
theorem BM(hs:s9 N Pb Kb A a w F){fn:Func}{xs:List (m0×V)}(h1:rm A fn.results.toList=some xs)(h2:rY P fn.results.toList xs)(h3:(xs.map (·.1)).Nodup):
 ∃ x Fr,(results fn a.tmps).run P w=.ok x w/\RV w Pb (one (xs.map (·.2))) x Fr/\Fr.Nodup/\∀ g,g∈Fr->∃ r,r∈xs.map (·.1)/\g∈F r:=by
 obtain⟨vs,Fr,B6,hrv,hnd,hin⟩:=yO hs _ h1 h2 h3
 have hm:(fn.results.mapM (Wm a)).run P w=.ok vs.toArray w:=by
  rw[<- Array.toArray_toList (xs:=fn.results),List.mapM_toArray,Sem.run_map,B6];rfl
 have Zv:(results fn a.tmps).run P w=.ok (if h:vs.toArray.size=1 then vs.toArray[0] else .tuple vs.toArray) w:=by
  show ((fn.results.mapM (Wm a)).bind _).run P w=_
  have:=Zay (P:=P) (w:=w) (x:=fn.results.mapM (Wm a)) (f:=fun vs=>(pure (if h:vs.size=1 then vs[0] else .tuple vs):Sem Value))
  rw[hm]at this
  exact this
 exact⟨_,Fr,Zv,EO _ hrv,hnd,hin⟩
end
def Str(l:BL):ByteArray:=⟨l.toArray⟩
theorem jq(l:BL):(Str l).size=l.length:=by simp[Str,ByteArray.size]
theorem JO(a b:BL):Str a++Str b=Str (a++b):=by
 apply ByteArray.ext;simp[Str]
theorem Kj(l:BL)(i j:Nat):(Str l).extract i j=Str ((l.take j).drop i):=by
 apply ByteArray.ext
 rw[ByteArray.data_extract]
 simp[Str,List.extract,List.drop_take]
theorem Mv(l:BL)(i:Int):ZO (Str l) i=.lit (.int .u8 (l.getD i.toNat 0).toNat):=by
 unfold ZO Str;simp[Array.getD,List.getD]
 split <;> simp_all
def MH(P:Program)(N:Nat):List Oper->AS->Prop×AS×List Oper
 | [],A=>(True,A,[])
 | o::rest,A=>match o.guard with
   | some _=>(True,A,o::rest)
   | none=>match o.op with
     | .assign x=>match MH P N rest ((A.drop x).put o.dst (A.ev x)) with
       | (C,r)=>(cZ N o.dst/\C,r)
     | op=>match H8 P A op with
       | some (C,v)=>match MH P N rest (A.put o.dst v) with
         | (C',r)=>(cZ N o.dst/\C/\C',r)
       | none=>(True,A,o::rest)
theorem eV{P:Program} {f:FuncId} {fn:Func} (hf:P.funcs[f]? =some fn) (hn:(fn.name== "runtime.NumGoroutine")=false) (hb:fn.body.isNone=false):pr P f:=by
 intro args w
 unfold callFunc
 simp only[Zay,run_program,Zaq,hf,hn,hb,Bool.false_eq_true,if_false,Zaz]
def V.set(v:V):List Nat->V->V
 | [],u=>u
 | j::p,u=>match v with
   | .agg vs=>match vs[j]? with
     | some x=>.agg (vs.set j (V.set x p u))
     | none=>v
   | .own sz xs g o c=>match xs[j]? with
     | some x=>.own sz (xs.set j (V.set x p u)) g o c
     | none=>v
   | _=>v
section
variable {w w':World} {Pb Kb:Nat->Prop}
def VH(w:World)(Pb:Nat->Prop)(vs:List V)(g o:Nat)(F:List Nat):Prop:=
 ∃ cs cells,Blk w g cells/\RL w Pb vs cs F/\∀ j u,cs[j]? =some u->cells[o+j]? =some u
theorem vN{v:V}{vs:List V}{g o:Nat}{F:List Nat}:VH w Pb (v::vs) g o F↔∃ F1 F2,F=F1++F2/\At w Pb v g o F1/\VH w Pb vs g (o+v.n) F2:=by
 constructor
 rintro⟨cs,cells,hb,⟨c1,c2,F1,F2,rfl,rfl,h1,h2⟩,hc⟩
 refine⟨F1,F2,rfl,⟨c1,cells,hb,h1,fun j u hu=>hc j u ?_⟩,⟨c2,cells,hb,h2,fun j u hu=>?_⟩⟩
 rw[Za7 (Za1.1 hu).1];exact hu
 have hl:=fk v h1
 rw[<- hl,Zbh]
 refine hc _ u ?_
 rw[Za2 Zaa]
 have e:c1.length+j-c1.length=j:=Zaa
 rw[e];exact hu
 rintro⟨F1,F2,rfl,⟨c1,cells,⟨e1,f1,hb,hf⟩,h1,Pj⟩,⟨c2,o4,⟨e2,f2,M4,_⟩,h2,Td⟩⟩
 rw[hb]at M4
 simp only[Zal,Obj.cells.injEq]at M4
 obtain⟨rfl,_,_⟩:=M4
 refine⟨c1++c2,cells,⟨e1,f1,hb,hf⟩,⟨c1,c2,F1,F2,rfl,rfl,h1,h2⟩,fun j u hu=>?_⟩
 have hl:=fk v h1
 by_cases hj:j<c1.length
 rw[Za7 hj]at hu;exact Pj j u hu
 rw[Za2 Zaa]at hu
 have:=Td _ u hu
 rw[<- hl]at this
 have e:o+c1.length+(j-c1.length)=o+j:=Zaa
 rwa [e]at this
theorem Bg{vs:List V}{g o:Nat}{F:List Nat}:At w Pb (.agg vs) g o F↔VH w Pb vs g o F:=by
 constructor
 rintro⟨cs,cells,hb,h,hc⟩;exact⟨cs,cells,hb,by simpa only[R] using h,hc⟩
 rintro⟨cs,cells,hb,h,hc⟩;exact⟨cs,cells,hb,by simpa only[R] using h,hc⟩
theorem yL{l:List Value}{cells:Array Value}{o:Nat}(h:∀ j u,l[j]? =some u->cells[o+j]? =some u)(hl:l≠[]):o+l.length<=cells.size:=by
 have G3:0<l.length:=List.length_pos_iff.2 hl
 have:=h (l.length-1) _ (Zar Zaa)
 have:=(Zbf.1 this).1
 omega
theorem sx{v:V} {g o:Nat} {F:List Nat} (h:At w Pb v g o F) (k1:∀ x,Pb x->w'.heap[x]? =w.heap[x]?) (k2:∀ x,x∈F->w'.heap[x]? =w.heap[x]?) (k3:∀ x,x∈F->¬ Pb x)
 (k4:∀ cells,Blk w g cells->∃ o4,Blk w' g o4/\∀ j,o<=j->j<o+v.n->o4[j]? =cells[j]?):At w' Pb v g o F:=by
 obtain⟨cs,cells,hb,hr,hc⟩:=h
 obtain⟨o4,M4,he⟩:=k4 cells hb
 refine⟨cs,o4,M4,iu v hr k1 k2 (fun _ h=>h) k3,fun j u hu=>?_⟩
 have hl:=fk v hr
 have hj:=(Za1.1 hu).1
 rw[he _ Zaa Zaa];exact hc j u hu
theorem EC{vs:List V} {g o:Nat} {F:List Nat} (h:VH w Pb vs g o F) (k1:∀ x,Pb x->w'.heap[x]? =w.heap[x]?) (k2:∀ x,x∈F->w'.heap[x]? =w.heap[x]?) (k3:∀ x,x∈F->¬ Pb x)
 (k4:∀ cells,Blk w g cells->∃ o4,Blk w' g o4/\∀ j,o<=j->j<o+V.ns vs->o4[j]? =cells[j]?):VH w' Pb vs g o F:=by
 rw[<- Bg]at h ⊢
 exact sx h k1 k2 k3 k4
structure C6 (w w':World) (g o:Nat) (cs:List Value):Prop where
 os:w'.os=w.os
 tape:w'.tape=w.tape
 output:w'.output=w.output
 size:w'.heap.size=w.heap.size
 O5:∀ k,k≠g->w'.heap[k]? =w.heap[k]?
 shape:Shp w w'
 PW:∀ cells,Blk w g cells->∃ o4,Blk w' g o4/\o4.size=cells.size/\(∀ j,j<o\/o+cs.length<=j->o4[j]? =cells[j]?)/\(∀ j u,cs[j]? =some u->o4[o+j]? =some u)
theorem js:∀ (p:List Nat) {v u:V} {g o g' o':Nat} {F},At w Pb v g o F->V.at g o v p=some (g',o',u)->(g'=g/\o<=o'/\o'+u.n<=o+v.n)\/g'∈F
 | [],v,u,g,o,g',o',F,h,e=>by
   simp only[V.at,Zal,Zao]at e
   obtain⟨rfl,rfl,rfl⟩:=e
   exact .inl ⟨rfl,Zba _,Zba _⟩
 | j::p,v,u,g,o,g',o',F,h,e=>by
   simp only[V.at]at e
   split at e
   rename_i vs
   split at e
   rename_i x hx
   obtain⟨cs,cells,hb,hr,hc⟩:=h
   simp only[R]at hr
   obtain⟨c,F',G0,hF,L7⟩:=iA vs hr hx
   rcases js p (v:=x) ⟨c,cells,hb,G0,fun i u hu=>by rw[Zbh];exact hc _ _ (L7 i u hu)⟩ e with ⟨h1,h2,h3⟩ | h1
   left
   refine⟨h1,Zaa,?_⟩
   have hle:V.ns (vs.take j)+x.n<=V.ns vs:=by
    clear e hr hc G0 L7 hF h3 h2
    induction vs generalizing j with
    | nil=>simp at hx
    | cons v0 vs ih=>
      cases j with
      | zero=>simp at hx;subst hx;simp[V.ns]
      | succ j=>have:=ih (j:=j) (by simpa using hx);simp only[List.take_succ_cons,V.ns];omega
   simp only[V.n];omega
   exact .inr (hF _ h1)
   simp at e
   rename_i sz xs g1 o1 c1
   split at e
   rename_i x hx
   obtain⟨cs,cells,hb,hr,hc⟩:=h
   rcases hr with ⟨_,rfl,_⟩ | ⟨_,_,_,_,ha,_,flat,F',o4,rfl,hr,M4,_,L7⟩
   simp at hx
   obtain⟨c,OP,G0,hF,PN⟩:=iA xs hr hx
   have hj:j<=xs.length:=by have:=(Za1.1 hx).1;omega
   rw[eT xs j ha hj]at PN
   rcases js p (v:=x) ⟨c,o4,M4,G0,fun i u hu=>by rw[Zbh];exact L7 _ _ (PN i u hu)⟩ e with ⟨h1,_⟩ | h1
   right;simp[h1]
   right;simp[hF _ h1]
   simp at e
   simp at e
theorem oU:∀ (p:List Nat) {v u u':V} {g o g' o':Nat},V.at g o v p=some (g',o',u)->u'.n=u.n->(v.set p u').n=v.n
 | [],v,u,u',g,o,g',o',e,h=>by
   simp only[V.at,Zal,Zao]at e
   obtain⟨_,_,rfl⟩:=e;exact h
 | j::p,v,u,u',g,o,g',o',e,h=>by
   simp only[V.at]at e
   simp only[V.set]
   split at e
   rename_i vs
   split at e
   rename_i x hx
   have ih:=oU p e h
   simp only[hx,V.n]
   clear e
   induction vs generalizing j with
   | nil=>simp at hx
   | cons v0 vs ihv=>
     cases j with
     | zero=>simp at hx;subst hx;simp[V.ns,ih]
     | succ j=>simp only[List.set_cons_succ,V.ns];rw[ihv j (by simpa using hx)]
   simp at e
   split at e
   rename_i x hx;(try simp only[hx]);rfl
   simp at e
   simp at e
def SS(w w':World)(Pb:Nat->Prop)(p:List Nat):Prop:= ∀ (v u u':V) (g o g' o':Nat) (F OP:List Nat) (Ti:List Value),At w Pb v g o F->(g::F).Nodup->(∀ x,x∈g::F->¬ Pb x)->V.at g o v p=some (g',o',u)->
    R w' Pb u' Ti OP->u'.n=u.n->OP.Nodup->(∀ x,x∈OP->x ∉ g::F)->C6 w w' g' o' Ti->(∀ x,Pb x->w'.heap[x]? =w.heap[x]?)->
    ∃ F1,At w' Pb (v.set p u') g o F1/\(g::F1).Nodup/\∀ x,x∈F1->x∈F\/x∈OP
theorem xW{w w':World} {Pb:Nat->Prop} {p:List Nat} (IH:SS w w' Pb p) {x u u':V} {g g' o':Nat} {OP:List Nat} {Ti:List Value} (hr:R w' Pb u' Ti OP) (hn:u'.n=u.n) (Ps:OP.Nodup)
 (A7:C6 w w' g' o' Ti) (k1:∀ x,Pb x->w'.heap[x]? =w.heap[x]?):
 ∀ (vs:List V) (o:Nat) (F:List Nat) (j:Nat),VH w Pb vs g o F->(g::F).Nodup->(∀ x,x∈g::F->¬ Pb x)->(∀ x,x∈OP->x ∉ g::F)->vs[j]? =some x->V.at g (o+V.ns (vs.take j)) x p=some (g',o',u)->
   ∃ F1,VH w' Pb (vs.set j (x.set p u')) g o F1/\(g::F1).Nodup/\∀ y,y∈F1->y∈F\/y∈OP:=by
 have hcs':=fk u' hr
 intro vs
 induction vs with
 | nil=>intro o F j _ _ _ _ hx;simp at hx
 | cons v0 vs ih=>
   intro o F j h hnd hP x6 hx e
   rw[vN]at h
   obtain⟨F1,F2,rfl,h1,h2⟩:=h
   have K5:=List.nodup_cons.1 hnd
   have Sf:=List.nodup_append.1 K5.2
   have Ts:g ∉ F1:=fun c=>K5.1 (by simp[c])
   have P7:g ∉ F2:=fun c=>K5.1 (by simp[c])
   cases j with
   | zero=>
     simp at hx;subst hx
     simp only[List.take_zero,V.ns,Nat.add_zero]at e
     have V4:(g::F1).Nodup:=List.nodup_cons.2 ⟨Ts,Sf.1⟩
     obtain⟨F1',hA,hN,hI⟩:=IH _ _ _ _ _ _ _ _ _ _ h1 V4 (fun x hx=>hP x (by simp at hx ⊢;rcases hx with h | h <;> simp[h])) e hr hn Ps (fun x hx c=>x6 x hx (by simp at c ⊢;rcases c with h | h <;> simp[h])) A7 k1
     have XA:=js p h1 e
     have hA2:VH w' Pb vs g (o+v0.n) F2:=by
      refine EC h2 k1 (fun x hx=>A7.O5 x ?_) (fun x hx=>hP x (by simp[hx])) (fun cells hb=>?_)
      rintro rfl
      rcases XA with ⟨rfl,_⟩ | h
      exact P7 hx
      exact Sf.2.2 _ h _ hx rfl
      rcases XA with ⟨rfl,Rs,M0⟩ | h
      obtain⟨o4,M4,_,Pt,_⟩:=A7.PW cells hb
      exact⟨o4,M4,fun j Ym _=>Pt j (.inr Zaa)⟩
      have hne:g≠g':=fun c=>Ts (by rw[c];exact h)
      obtain⟨e',fr,hb,hf⟩:=hb
      exact⟨cells,⟨e',fr,(A7.O5 g hne).trans hb,hf⟩,fun _ _ _=>rfl⟩
     refine⟨F1'++F2,?_,?_,?_⟩
     simp only[List.set_cons_zero]
     rw[vN]
     refine⟨F1',F2,rfl,hA,?_⟩
     rw[oU p e hn];exact hA2
     have RO:=List.nodup_cons.1 hN
     refine List.nodup_cons.2 ⟨fun c=>?_,List.nodup_append.2 ⟨RO.2,Sf.2.1,fun x hx y hy c=>?_⟩⟩
     rcases Zav.1 c with c | c
     exact RO.1 c
     exact P7 c
     subst c
     rcases hI x hx with h | h
     exact Sf.2.2 _ h _ hy rfl
     exact x6 x h (by simp[hy])
     intro y hy
     rcases Zav.1 hy with h | h
     rcases hI y h with h | h
     left;simp[h]
     right;exact h
     left;simp[h]
   | succ j=>
     simp only[List.take_succ_cons,V.ns,<- Zbh]at e
     have OW:vs[j]? =some x:=by simpa using hx
     obtain⟨F2',hA,hN,hI⟩:=ih (o+v0.n) F2 j h2 (List.nodup_cons.2 ⟨P7,Sf.2.1⟩) (fun x hx=>hP x (by simp at hx ⊢;rcases hx with h | h <;> simp[h])) (fun x hx c=>x6 x hx (by simp at c ⊢;rcases c with h | h <;> simp[h])) OW e
     have XA:(g'=g/\o+v0.n<=o')\/g'∈F2:=by
      obtain⟨cs,cells,hb,M0,Td⟩:=h2
      obtain⟨c,F',G0,hF,L7⟩:=iA vs M0 OW
      rcases js p (v:=x) ⟨c,cells,hb,G0,fun i u hu=>by rw[Zbh];exact Td _ _ (L7 i u hu)⟩ e with ⟨h1,h2,h3⟩ | h1
      exact .inl ⟨h1,Zaa⟩
      exact .inr (hF _ h1)
     have hA1:At w' Pb v0 g o F1:=by
      refine sx h1 k1 (fun x hx=>A7.O5 x ?_) (fun x hx=>hP x (by simp[hx])) (fun cells hb=>?_)
      rintro rfl
      rcases XA with ⟨rfl,_⟩ | h
      exact Ts hx
      exact Sf.2.2 _ hx _ h rfl
      rcases XA with ⟨rfl,Rs⟩ | h
      obtain⟨o4,M4,_,Pt,_⟩:=A7.PW cells hb
      exact⟨o4,M4,fun j _ hj=>Pt j (.inl Zaa)⟩
      have hne:g≠g':=fun c=>P7 (by rw[c];exact h)
      obtain⟨e',fr,hb,hf⟩:=hb
      exact⟨cells,⟨e',fr,(A7.O5 g hne).trans hb,hf⟩,fun _ _ _=>rfl⟩
     refine⟨F1++F2',?_,?_,?_⟩
     simp only[List.set_cons_succ]
     rw[vN]
     exact⟨F1,F2',rfl,hA1,hA⟩
     have RO:=List.nodup_cons.1 hN
     refine List.nodup_cons.2 ⟨fun c=>?_,List.nodup_append.2 ⟨Sf.1,RO.2,fun x hx y hy c=>?_⟩⟩
     rcases Zav.1 c with c | c
     exact Ts c
     exact RO.1 c
     subst c
     rcases hI x hy with h | h
     exact Sf.2.2 _ hx _ h rfl
     exact x6 x h (by simp[hx])
     intro y hy
     rcases Zav.1 hy with h | h
     left;simp[h]
     rcases hI y h with h | h
     left;simp[h]
     right;exact h
theorem Ao{w w':World}{Pb:Nat->Prop}:∀ p,SS w w' Pb p
 | []=>fun v u u' g o g' o' F OP Ti h hnd hP e hr hn Ps x6 A7 k1=>by
   simp only[V.at,Zal,Zao]at e
   obtain⟨rfl,rfl,rfl⟩:=e
   obtain⟨cs,cells,hb,_,_⟩:=h
   obtain⟨o4,M4,_,_,L7⟩:=A7.PW cells hb
   exact⟨OP,⟨Ti,o4,M4,hr,L7⟩,List.nodup_cons.2 ⟨fun hg=>x6 g hg Zab,Ps⟩,fun x hx=>.inr hx⟩
 | j::p=>fun v u u' g o g' o' F OP Ti h hnd hP e hr hn Ps x6 A7 k1=>by
   have IH:SS w w' Pb p:=Ao p
   simp only[V.at]at e
   simp only[V.set]
   split at e
   rename_i vs
   split at e
   rename_i x hx
   (try simp only[hx])
   rw[Bg]at h
   obtain⟨F1,h1,h2,h3⟩:=xW IH hr hn Ps A7 k1 vs o F j h hnd hP x6 hx e
   exact⟨F1,Bg.2 h1,h2,h3⟩
   simp at e
   rename_i sz xs g1 o1 c1
   split at e
   rename_i x hx
   (try simp only[hx])
   obtain⟨cs,cells,hb,VW,hc⟩:=h
   rcases VW with ⟨_,rfl,_⟩ | ⟨Rj,c5,XL,hcs,ha,Ts,flat,F',K9,rfl,O1,l3,hsz,Pj⟩
   simp at hx
   have K5:=List.nodup_cons.1 hnd
   have hj:j<=xs.length:=by have:=(Za1.1 hx).1;omega
   have e':V.at g1 (o1+V.ns (xs.take j)) x p=some (g',o',u):=by rw[eT xs j ha hj];exact e
   obtain⟨F1,⟨Oo,OO,Rw,VV,Wc⟩,hN,hI⟩:=xW IH hr hn Ps A7 k1 xs o1 F' j ⟨flat,K9,l3,O1,Pj⟩ K5.2 (fun x hx=>hP x (by simp at hx ⊢;rcases hx with h | h <;> simp[h])) (fun x hx c=>x6 x hx (by simp at c ⊢;rcases c with h | h <;> simp[h])) hx e'
   have Q2:g'=g1\/g'∈F':=by
    obtain⟨c,F2,G0,hF,L7⟩:=iA xs O1 hx
    rcases js p (v:=x) ⟨c,K9,l3,G0,fun i u hu=>by rw[Zbh];exact Pj _ _ (L7 i u hu)⟩ e' with ⟨h1,_⟩ | h1
    exact .inl h1
    exact .inr (hF _ h1)
   have hne:g≠g':=by
    rintro rfl
    rcases Q2 with h | h
    exact K5.1 (by simp[h])
    exact K5.1 (by simp[h])
   obtain⟨e1,fr,hbg,hfr⟩:=hb
   have SR:OO.size=K9.size:=by
    by_cases S2:g1=g'
    subst S2
    obtain⟨c2,⟨e2,f2,l6,_⟩,M7,_⟩:=A7.PW K9 l3
    obtain⟨e3,f3,n0,_⟩:=Rw
    rw[l6]at n0
    simp only[Zal,Obj.cells.injEq]at n0
    obtain⟨rfl,_,_⟩:=n0
    exact M7
    obtain⟨e2,f2,l6,_⟩:=l3
    obtain⟨e3,f3,n0,_⟩:=Rw
    rw[A7.O5 g1 S2,l6]at n0
    simp only[Zal,Obj.cells.injEq]at n0
    rw[n0.1]
   refine⟨g1::F1,⟨cs,cells,⟨e1,fr,(A7.O5 g hne).trans hbg,hfr⟩,.inr ⟨Rj,c5,by simpa using XL,by simpa using hcs,?_,Ts,Oo,F1,OO,rfl,VV,Rw,Zaa,Wc⟩,hc⟩,?_,?_⟩
   intro y hy
   rcases List.mem_or_eq_of_mem_set hy with h | h
   exact ha y h
   rw[h,oU p e' hn];exact ha x (Za5 hx)
   refine List.nodup_cons.2 ⟨fun c=>?_,hN⟩
   rcases List.mem_cons.1 c with h | h
   exact K5.1 (by simp[h])
   rcases hI g h with h | h
   exact K5.1 (by simp[h])
   exact x6 g h Zab
   intro y hy
   rcases List.mem_cons.1 hy with h | h
   left;simp[h]
   rcases hI y h with h | h
   left;simp[h]
   right;exact h
   simp at e
   simp at e
end
section
variable {w w':World} {Pb Kb:Nat->Prop} {N:Nat} {A A':AS} {a:Act} {F:m0->List Nat} {P:Program}
mutual
theorem mj:∀ (v:V) {cs F},R w Pb v cs F->∀ c,c∈cs->c.oneCell'=true
 | .lit x,_,_,h=>by obtain⟨h1,rfl,_⟩:=h;simpa using h1
 | .agg vs,_,_,h=>by simp only[R]at h;exact tf vs h
 | .tup _,_,_,h=>by simp[R]at h
 | .gv _ _,_,_,h=>by simp[R]at h
 | .sl ..,_,_,h=>by obtain⟨_,A,c,rfl,_⟩:=h;simp[Value.oneCell']
 | .own ..,_,_,h=>by rcases h with ⟨_,_,_,A,rfl⟩ | ⟨_,_,_,rfl,_⟩ <;> simp[Value.oneCell']
 | .hd ..,_,_,h=>by obtain⟨_,_,A,rfl,_⟩:=h;simp[Value.oneCell']
 | .ow ..,_,_,h=>by obtain⟨g,o,c,h⟩:=h;rcases h with ⟨_,_,_,A,rfl⟩ | ⟨_,_,_,rfl,_⟩ <;> simp[Value.oneCell']
 | .om ..,_,_,h=>by obtain⟨_,rfl,_⟩:=h;simp[Value.oneCell']
 | .mp ..,_,_,h=>by obtain⟨_,g,rfl,_⟩:=h;simp[Value.oneCell']
 | .ptr ..,_,_,h=>by obtain⟨_,rfl⟩:=h;simp[Value.oneCell']
 | .ep _,_,_,h=>by obtain⟨_,b,o,flat,rfl,_⟩:=h;simp[Value.oneCell']
 | .b9,_,_,h=>by obtain⟨_,x,rfl,hx⟩:=h;simpa using hx
theorem tf:∀ (vs:List V) {cs F},RL w Pb vs cs F->∀ c,c∈cs->c.oneCell'=true
 | [],_,_,h=>by rw[h.1];simp
 | v::vs,_,_,h=>by
   obtain⟨c1,c2,F1,F2,rfl,_,h1,h2⟩:=h
   intro c hc
   rcases Zav.1 hc with h | h
   exact mj v h1 c h
   exact tf vs h2 c h
end
def V.isVal:V->Bool | .tup _=>false | .gv _ _=>false | .b9=>false | _=>true
theorem ie{x:Value}(h:x.oneCell'=true):x.cells= #[x]:=by cases x <;> simp[Value.oneCell']at h <;> rfl
theorem Ag{v:V}{x:Value}{Fv:List Nat}(h:RV w Pb v x Fv)(hv:v.isVal=true):R w Pb v x.cells.toList Fv:=by
 cases v with
 | tup _=>simp[V.isVal]at hv
 | gv _ _=>simp[V.isVal]at hv
 | b9=>simp[V.isVal]at hv
 | agg us=>obtain⟨cs,rfl,h⟩:=h;simp only[R,Value.cells];exact h
 | own sz xs g o c=>have h:R w Pb (.own sz xs g o c) [x] Fv:=h;rw[ie (mj _ h x Zab)];exact h
 | ow sz xs=>have h:R w Pb (.ow sz xs) [x] Fv:=h;rw[ie (mj _ h x Zab)];exact h
 | om es g=>have h:R w Pb (.om es g) [x] Fv:=h;rw[ie (mj _ h x Zab)];exact h
 | mp es=>have h:R w Pb (.mp es) [x] Fv:=h;rw[ie (mj _ h x Zab)];exact h
 | lit y=>have h:R w Pb (.lit y) [x] Fv:=h;rw[ie (mj _ h x Zab)];exact h
 | sl f xs=>have h:R w Pb (.sl f xs) [x] Fv:=h;rw[ie (mj _ h x Zab)];exact h
 | hd r p sz g o lo n c=>have h:R w Pb (.hd r p sz g o lo n c) [x] Fv:=h;rw[ie (mj _ h x Zab)];exact h
 | ptr r p g o=>have h:R w Pb (.ptr r p g o) [x] Fv:=h;rw[ie (mj _ h x Zab)];exact h
 | ep v=>have h:R w Pb (.ep v) [x] Fv:=h;rw[ie (mj _ h x Zab)];exact h
theorem C6.nil(w:World)(g o:Nat):C6 w w g o []:=
 ⟨rfl,rfl,rfl,rfl,fun _ _=>rfl,Shp.refl _,fun cells hb=>⟨cells,hb,rfl,fun _ _=>rfl,fun j u hu=>by simp at hu⟩⟩
theorem C6.cons{w1 w2:World}{g o:Nat}{v:Value}{vs:List Value}(h1:C6 w w1 g o [v])(h2:C6 w1 w2 g (o+1) vs):C6 w w2 g o (v::vs):=by
 refine⟨h2.os.trans h1.os,h2.tape.trans h1.tape,h2.output.trans h1.output,h2.size.trans h1.size,fun k hk=>(h2.O5 k hk).trans (h1.O5 k hk),h1.shape.trans h2.shape,fun cells hb=>?_⟩
 obtain⟨c1,l3,Pf,XQ,V5⟩:=h1.PW cells hb
 obtain⟨c2,l6,M7,Q4,WE⟩:=h2.PW c1 l3
 refine⟨c2,l6,M7.trans Pf,fun j hj=>?_,fun j u hu=>?_⟩
 simp only[Zap]at hj
 rw[Q4 j Zaa,XQ j Zaj]
 cases j with
 | zero=>
   simp at hu;subst hu
   rw[Q4 _ Zaa];exact V5 0 v rfl
 | succ j=>
   have:=WE j u (by simpa using hu)
   rw[<- this];congr 1;omega
theorem iT{g o:Nat}:∀ (vs:List Value) (i:Nat) (w:World) (cells:Array Value),Blk w g cells->o+i+vs.length<=cells.size->(∀ v,v∈vs->v.oneCell'=true)->
 ∃ w',(storeCells ⟨g,o,none⟩ vs i).run P w=.ok () w'/\C6 w w' g (o+i) vs
 | [],i,w,cells,_,_,_=>⟨w,rfl,C6.nil w g _⟩
 | v::vs,i,w,cells,hb,hl,h1=>by
   obtain⟨e,fr,Tv,hfr⟩:=hb
   simp only[Zap]at hl
   have hlt:o+i<cells.size:=Zaa
   have hc:w.cell? ⟨g,o+i,none⟩=some cells[o+i]:=by simp[World.cell?,Tv,hlt]
   have hf:w.frozen? ⟨g,o+i,none⟩=false:=by
    have:=hfr (o+i) Zaa
    simp only[World.frozen?,Tv,Bool.and_eq_false_iff,decide_eq_false_iff_not]
    by_cases h:fr.1<=o+i
    right;exact fun c=>this ⟨h,c⟩
    left;exact h
   have A7:C6 w (w.setCell ⟨g,o+i,none⟩ v) g (o+i) [v]:=by
    refine⟨rfl,rfl,rfl,by simp[World.setCell],fun k hk=>Below.heap_setCell _ _ _ _ hk,fun k c e2 fr2 hk=>?_,fun o4 M4=>?_⟩
    by_cases hkg:k=g
    subst hkg
    exact⟨c.setIfInBounds (o+i) v,by simp[World.setCell,Array.getElem?_modify,hk],Zab⟩
    exact⟨c,(Below.heap_setCell _ _ _ _ hkg).trans hk,rfl⟩
    obtain⟨e',YA,M4,Zw⟩:=M4
    refine⟨o4.setIfInBounds (o+i) v,⟨e',YA,?_,by simpa using Zw⟩,Zab,fun j hj=>?_,fun j u hu=>?_⟩
    simp[World.setCell,Array.getElem?_modify,M4]
    rw[Array.getElem?_setIfInBounds_ne];simp at hj;omega
    cases j with
    | zero=>
      simp at hu;subst hu
      rw[Tv]at M4
      simp only[Zal,Obj.cells.injEq]at M4
      obtain⟨rfl,_,_⟩:=M4
      simp[hlt]
    | succ j=>simp at hu
   have l3:Blk (w.setCell ⟨g,o+i,none⟩ v) g (cells.setIfInBounds (o+i) v):=
    ⟨e,fr,by simp[World.setCell,Array.getElem?_modify,Tv],by simpa using hfr⟩
   obtain⟨w',hr,N5⟩:=iT (g:=g) (o:=o) vs (i+1) _ _ l3 (by rw[Array.size_setIfInBounds];omega) (fun u hu=>h1 u (by simp[hu]))
   refine⟨w',?_,A7.cons (by rw[Zbh];exact N5)⟩
   simp only[storeCells,Zay,eO,run_store P w _ v .plain (h1 v Zab),hc,hf,Bool.false_eq_true,if_false,Zaq]
   exact hr
theorem Jt{p:List Nat} {x u u':V} {sz j g1 o1 c1 g' o':Nat} {xs:List V} {cs Ti:List Value} {F1 OP:List Nat} (VW:R w Pb (.own sz xs g1 o1 c1) cs F1) (hnd:F1.Nodup) (hP:∀ x,x∈F1->¬ Pb x)
 (hx:xs[j]? =some x) (e:V.at g1 (o1+j*sz) x p=some (g',o',u)) (hr:R w' Pb u' Ti OP) (hn:u'.n=u.n) (Ps:OP.Nodup) (x6:∀ x,x∈OP->x ∉ F1) (A7:C6 w w' g' o' Ti)
 (k1:∀ x,Pb x->w'.heap[x]? =w.heap[x]?):∃ F2,R w' Pb (.own sz (xs.set j (x.set p u')) g1 o1 c1) cs F2/\F2.Nodup/\(∀ y,y∈F2->y∈F1\/y∈OP)/\g'∈F1:=by
 rcases VW with ⟨_,rfl,_⟩ | ⟨Rj,c5,XL,hcs,ha,Ts,flat,F',K9,rfl,O1,l3,hsz,Pj⟩
 simp at hx
 have hj:j<=xs.length:=by have:=(Za1.1 hx).1;omega
 have e':V.at g1 (o1+V.ns (xs.take j)) x p=some (g',o',u):=by rw[eT xs j ha hj];exact e
 obtain⟨F2,⟨Oo,OO,Rw,VV,Wc⟩,hN,hI⟩:=xW (Ao p) hr hn Ps A7 k1 xs o1 F' j ⟨flat,K9,l3,O1,Pj⟩ hnd hP x6 hx e'
 have Q2:g'=g1\/g'∈F':=by
  obtain⟨c,F2,G0,hF,L7⟩:=iA xs O1 hx
  rcases js p (v:=x) ⟨c,K9,l3,G0,fun i u hu=>by rw[Zbh];exact Pj _ _ (L7 i u hu)⟩ e' with ⟨h1,_⟩ | h1
  exact .inl h1
  exact .inr (hF _ h1)
 have SR:OO.size=K9.size:=by
  by_cases S2:g1=g'
  subst S2
  obtain⟨c2,⟨e2,f2,l6,_⟩,M7,_⟩:=A7.PW K9 l3
  obtain⟨e3,f3,n0,_⟩:=Rw
  rw[l6]at n0
  simp only[Zal,Obj.cells.injEq]at n0
  obtain⟨rfl,_,_⟩:=n0
  exact M7
  obtain⟨e2,f2,l6,_⟩:=l3
  obtain⟨e3,f3,n0,_⟩:=Rw
  rw[A7.O5 g1 S2,l6]at n0
  simp only[Zal,Obj.cells.injEq]at n0
  rw[n0.1]
 refine⟨g1::F2,.inr ⟨Rj,c5,by simpa using XL,by simpa using hcs,?_,Ts,Oo,F2,OO,rfl,VV,Rw,Zaa,Wc⟩,hN,?_,?_⟩
 intro y hy
 rcases List.mem_or_eq_of_mem_set hy with h | h
 exact ha y h
 rw[h,oU p e' hn];exact ha x (Za5 hx)
 intro y hy
 rcases List.mem_cons.1 hy with h | h
 left;simp[h]
 rcases hI y h with h | h
 left;simp[h]
 right;exact h
 rcases Q2 with h | h <;> simp[h]
def AS.setAt(A:AS)(r:m0)(p:List Nat)(v:V):AS:=
 match r with
 | .key k=>match lk k A.h with
   | some (g,t)=>{ A with h:=(k,(g,t.set p v))::A.h }
   | none=>A
 | .slot i=>{ A with t:=(i,(A.get i).set p v)::A.t }
theorem s9.store(hs:s9 N Pb Kb A a w F) {r:m0} {p:List Nat} {g o:Nat} {TD v:V} {cs:List Value} {Fv:List Nat} (B0:A.at r p=some (g,o,TD)) (hr:R w Pb v cs Fv) (hn:v.n=TD.n)
 (hnd:Fv.Nodup) (x6:∀ r g,g∈Fv->g ∉ F r) (hfr:∀ g,g∈Fv->¬ Kb g/\g<w.heap.size) (A7:C6 w w' g o cs):∃ F',s9 N Pb Kb (A.setAt r p v) a w' F'/\¬ Kb g:=by
 have WN:∀ r g,g∈F r->¬ Pb g:=fun r g hg c=>(hs.free r g hg).1 (hs.sub g c)
 have main:∃ Fr,g∈F r/\(∀ x,Pb x->w'.heap[x]? =w.heap[x]?)/\Fr.Nodup/\(∀ y,y∈Fr->y∈F r\/y∈Fv)/\
  (match r with
   | .key k=> ∀ g0 t,lk k A.h=some (g0,t)->∃ F',Fr=g0::F'/\At w' Pb (t.set p v) g0 0 F'
   | .slot i=>RV w' Pb ((A.get i).set p v) (a.tmps.getD i undef) Fr):=by
  have kk:∀ r,g∈F r->∀ x,Pb x->w'.heap[x]? =w.heap[x]? :=fun r hg x hx=>A7.O5 x (by rintro rfl;exact WN r _ hg hx)
  have G0:∀ r,g∈F r->R w' Pb v cs Fv:=fun r hg=>iu v hr (kk r hg) (fun x hx=>A7.O5 x (by rintro rfl;exact x6 r _ hx hg)) (fun _ h=>h) (fun x hx c=>(hfr x hx).1 (hs.sub x c))
  cases r with
  | key k=>
    simp only[AS.at]at B0
    split at B0
    case h_2=>simp at B0
    rename_i g0 t hk
    obtain⟨F',e,hA⟩:=hs.root k g0 t hk
    have RN:g∈F (.key k):=by
     rw[e]
     rcases js p hA B0 with ⟨rfl,_⟩ | h
     simp
     simp[h]
    have XI:=hs.nodup (.key k)
    rw[e]at XI
    obtain⟨F1,h1,h2,h3⟩:=Ao (w:=w) (w':=w') p _ _ _ _ _ _ _ _ _ _ hA XI (fun x hx=>WN (.key k) x (by rw[e];exact hx)) B0 (G0 _ RN) hn hnd (fun x hx c=>x6 (.key k) x hx (by rw[e];exact c)) A7 (kk _ RN)
    refine⟨g0::F1,RN,kk _ RN,h2,fun y hy=>?_,fun g0' t' C3=>?_⟩
    rw[e]
    rcases List.mem_cons.1 hy with h | h
    left;simp[h]
    rcases h3 y h with h | h
    left;simp[h]
    exact .inr h
    rw[hk]at C3
    simp only[Zal,Zao]at C3
    obtain⟨rfl,rfl⟩:=C3
    exact⟨F1,rfl,h1⟩
  | slot i=>
    simp only[AS.at]at B0
    split at B0
    case h_2=>simp at B0
    rename_i sz xs g1 o1 c1 j p hi
    have hrv:=hs.slot i
    rw[hi]at hrv
    simp only[V.at]at B0
    split at B0
    case h_2=>simp at B0
    rename_i x hx
    have RN:g∈F (.slot i):=by
     rcases hrv with ⟨_,rfl,_⟩ | ⟨_,_,_,_,ha,_,flat,F',o4,hF,O1,M4,_,L7⟩
     simp at hx
     obtain⟨c,OP,G0,PT,PN⟩:=iA xs O1 hx
     have hj:j<=xs.length:=by have:=(Za1.1 hx).1;omega
     rw[eT xs j ha hj]at PN
     rw[hF]
     rcases js p (v:=x) ⟨c,o4,M4,G0,fun i u hu=>by rw[Zbh];exact L7 _ _ (PN i u hu)⟩ B0 with ⟨rfl,_⟩ | h
     simp
     simp[PT _ h]
    obtain⟨F2,h1,h2,h3,_⟩:=Jt (w:=w) (w':=w') hrv (hs.nodup _) (WN _) hx B0 (G0 _ RN) hn hnd (x6 _) A7 (kk _ RN)
    refine⟨F2,RN,kk _ RN,h2,h3,?_⟩
    simp only[hi,V.set,hx]
    exact h1
 obtain⟨Fr,RN,kk,M3,V7,hm⟩:=main
 have S5:∀ y,y∈Fr->¬ Kb y/\y<w.heap.size:=fun y hy=>by
  rcases V7 y hy with h | h
  exact hs.free r y h
  exact hfr y h
 have Pt:∀ r' x,r'≠r->x∈F r'->w'.heap[x]? =w.heap[x]? :=fun r' x hne hx=>A7.O5 x (by rintro rfl;exact hs.cL r' r hne _ hx RN)
 refine⟨cM F r Fr,⟨?_,?_,fun i=>?_,fun k g0 t hk=>?_,fun r1 r2 hne y hy=>?_,fun r1=>?_,fun r1 y hy=>?_,hs.sub,fun y hy=>by rw[A7.size];exact hs.bound y hy⟩,(hs.free r g RN).1⟩
 exact hs.size
 exact hs.defers
 by_cases TO:r=.slot i
 subst TO
 simp only[cM,if_true,AS.setAt,AS.get,lk,Option.getD_some]
 exact hm
 simp only[cM,if_neg (Ne.symm TO)]
 have:(A.setAt r p v).get i=A.get i:=by
  cases r with
  | key k=>simp only[AS.setAt];split <;> rfl
  | slot j=>simp only[AS.setAt,AS.get,lk];rw[if_neg (fun c=>TO (by rw[c]))]
 rw[this]
 exact oO _ (hs.slot i) kk (fun x hx=>Pt _ x (Ne.symm TO) hx) (fun _ h=>h) (fun x hx=>WN _ x hx)
 by_cases TN:r=.key k
 subst TN
 simp only[AS.setAt]at hk
 have RZ:∃ g1 t1,lk k A.h=some (g1,t1):=by
  simp only[AS.at]at B0
  split at B0
  rename_i g1 t1 h;exact⟨g1,t1,h⟩
  simp at B0
 obtain⟨g1,t1,RZ⟩:=RZ
 rw[RZ]at hk
 simp only[lk,if_true,Zal,Zao]at hk
 obtain⟨rfl,rfl⟩:=hk
 obtain⟨F',e,hA⟩:=hm _ _ RZ
 exact⟨F',by simp[cM,e],hA⟩
 have C3:lk k A.h=some (g0,t):=by
  cases r with
  | slot j=>exact hk
  | key k'=>
    simp only[AS.setAt]at hk
    split at hk
    simp only[lk]at hk;rwa [if_neg (fun c=>TN (by rw[c]))]at hk
    exact hk
 obtain⟨F',e,hA⟩:=hs.root k g0 t C3
 refine⟨F',by simp only[cM,if_neg (Ne.symm TN)];exact e,sx hA kk (fun x hx=>Pt (.key k) x (Ne.symm TN) (by rw[e];simp[hx])) (fun x hx=>WN (.key k) x (by rw[e];simp[hx])) (fun cells hb=>?_)⟩
 obtain⟨e',fr,hb,hf⟩:=hb
 exact⟨cells,⟨e',fr,(Pt (.key k) g0 (Ne.symm TN) (by rw[e];simp)).trans hb,hf⟩,fun _ _ _=>rfl⟩
 simp only[cM]at hy ⊢
 split at hy
 rename_i h1
 rw[if_neg (fun c=>hne (h1.trans c.symm))]
 subst h1
 rcases V7 y hy with h | h
 exact hs.cL _ _ hne y h
 exact x6 r2 y h
 rename_i h1
 split
 rename_i h2
 subst h2
 intro c
 rcases V7 y c with h | h
 exact hs.cL _ _ hne y hy h
 exact x6 r1 y h hy
 exact hs.cL r1 r2 hne y hy
 simp only[cM];split
 exact M3
 exact hs.nodup r1
 simp only[cM]at hy
 rw[A7.size]
 split at hy
 exact S5 y hy
 exact hs.free r1 y hy
end
mutual
def V.flat:V->Option (List Value)
 | .lit x=>if x.oneCell' then some [x] else none
 | .sl true []=>some [.slice none 0 0]
 | .agg vs=>V.xf vs
 | _=>none
def V.xf:List V->Option (List Value)
 | []=>some []
 | v::vs=>match v.flat,V.xf vs with
   | some a,some b=>some (a++b)
   | _,_=>none
end
def pq(P:Program)(T:Nat)(v:V):Prop:= ∃ inf z,P.info? T=some inf/\inf.zero=some z/\v.flat=some z.cells.toList
section
variable {w w':World} {Pb Kb:Nat->Prop} {N:Nat} {A A':AS} {a:Act} {F:m0->List Nat} {P:Program}
mutual
theorem tF:∀ (v:V) {cs},v.flat=some cs->R w Pb v cs []
 | .lit x,cs,h=>by
   simp only[V.flat]at h
   split at h
   rename_i hx;simp at h;subst h;exact⟨hx,rfl,rfl⟩
   simp at h
 | .sl true [],cs,h=>by simp[V.flat]at h;subst h;exact⟨rfl,none,0,rfl,Zba _,fun _=>rfl,.inl rfl⟩
 | .sl true (x::xs),cs,h=>by simp[V.flat]at h
 | .sl false xs,cs,h=>by simp[V.flat]at h
 | .agg vs,cs,h=>by simp only[V.flat]at h;simp only[R];exact Cr vs h
 | .tup _,_,h=>by simp[V.flat]at h
 | .gv _ _,_,h=>by simp[V.flat]at h
 | .own ..,_,h=>by simp[V.flat]at h
 | .hd ..,_,h=>by simp[V.flat]at h
 | .ow ..,_,h=>by simp[V.flat]at h
 | .om ..,_,h=>by simp[V.flat]at h
 | .mp ..,_,h=>by simp[V.flat]at h
 | .ptr ..,_,h=>by simp[V.flat]at h
 | .ep _,_,h=>by simp[V.flat]at h
 | .b9,_,h=>by simp[V.flat]at h
theorem Cr:∀ (vs:List V) {cs},V.xf vs=some cs->RL w Pb vs cs []
 | [],cs,h=>by simp[V.xf]at h;subst h;exact⟨rfl,rfl⟩
 | v::vs,cs,h=>by
   simp only[V.xf]at h
   split at h
   rename_i a b h1 h2
   simp at h;subst h
   exact⟨a,b,[],[],rfl,rfl,tF v h1,Cr vs h2⟩
   simp at h
end
theorem alloc_old(w:World)(o:Obj)(k:Nat)(h:k<w.heap.size):(w.alloc o).heap[k]? =w.heap[k]? :=Below.heap_alloc w o k h
theorem ef(w:World)(o:Obj):(w.alloc o).heap.size=w.heap.size+1:=Zab
theorem ij(w:World)(o:Obj):(w.alloc o).heap[w.heap.size]? =some o:=heap_alloc_new w o
theorem s9.pK(hs:s9 N Pb Kb A a w F)(o:Obj):s9 N Pb Kb A a (w.alloc o) F:=
 hs.grow (fun k hk=>alloc_old w o k hk) (by rw[ef];omega) (fun _ h=>h) (fun g hg=>.inl hg) hs.sub
theorem s9.Ng(hs:s9 N Pb Kb A a w F)(o:Obj):s9 N (fun g=>Pb g\/g=w.heap.size) (fun g=>Kb g\/g=w.heap.size) A a (w.alloc o) F:=
 hs.grow (fun k hk=>alloc_old w o k hk) (by rw[ef];omega) (fun _ h=>.inl h) (fun g hg=>hg.imp id fun h=>by rw[ef];omega) (fun g hg=>hg.imp (hs.sub g) id)
theorem s9.Cy(hs:s9 N Pb Kb A a w F){k g:Nat}{v:V}{Fv:List Nat}(hA:At w Pb v g 0 Fv)(hnd:(g::Fv).Nodup)(x6:∀ r x,x∈g::Fv->x ∉ F r)(hfr:∀ x,x∈g::Fv->¬ Kb x/\x<w.heap.size):
 s9 N Pb Kb { A with h:=(k,(g,v))::A.h } a w (cM F (.key k) (g::Fv)) where
 size:=hs.size
 defers:=hs.defers
 slot:=fun i=>by simp only[cM,reduceCtorEq,if_false];exact hs.slot i
 root:=fun k' g' v' hk=>by
  simp only[lk]at hk
  by_cases e:k'=k
  subst e
  simp only[if_true,Zal,Zao]at hk
  obtain⟨rfl,rfl⟩:=hk
  exact⟨Fv,by simp[cM],hA⟩
  rw[if_neg e]at hk
  obtain⟨F',e',XY⟩:=hs.root k' g' v' hk
  exact⟨F',by simp only[cM];rw[if_neg (fun c=>e (by injection c))];exact e',XY⟩
 cL:=fun r r' hne x hx=>by
  simp only[cM]at hx ⊢
  split at hx
  rename_i h1;rw[if_neg (fun c=>hne (h1.trans c.symm))];exact x6 r' x hx
  split
  exact fun c=>x6 r x c hx
  exact hs.cL r r' hne x hx
 nodup:=fun r=>by
  simp only[cM];split
  exact hnd
  exact hs.nodup r
 free:=fun r x hx=>by
  simp only[cM]at hx
  split at hx
  exact hfr x hx
  exact hs.free r x hx
 sub:=hs.sub
 bound:=hs.bound
theorem A4.alloc(hK:∀ g,Kb g->g<w.heap.size)(o:Obj):A4 Kb w (w.alloc o):=
 ⟨rfl,rfl,rfl,by rw[ef];omega,fun g hg=>alloc_old w o g (hK g hg),Shp.of_eq fun g hg=>alloc_old w o g hg⟩
theorem s9.Ku(hs:s9 N Pb Kb A a w F){d:Nat}(hd:d<N){v:V}{cs:Array Value}{e:TypeId}(hr:R w Pb v cs.toList []):
 ∃ F',s9 N Pb Kb ⟨(A.put (some d) (.ptr (.key d) [] w.heap.size 0)).t,(d,(w.heap.size,v))::A.h⟩ (a.put (some d) (.pointer (some ⟨w.heap.size,0,none⟩))) (w.alloc (.cells cs e)) F':=by
 have h1:=hs.pK (.cells cs e)
 have h2:=h1.put (d:=d) (v:=.ptr (.key d) [] w.heap.size 0) (x:=.pointer (some ⟨w.heap.size,0,none⟩)) (F':=[]) hd ⟨rfl,rfl⟩ Zab Zab Zab
 have hA:At (w.alloc (.cells cs e)) Pb v w.heap.size 0 []:=
  ⟨cs.toList,cs,⟨e,(0,0),ij w _,fun i _ h=>by omega⟩,iu v hr (fun g hg=>alloc_old w _ g (hs.bound g (hs.sub g hg))) Zab (fun _ h=>h) Zab,fun j u hu=>by simpa using hu⟩
 refine⟨_,h2.Cy (k:=d) hA Zab (fun r x hx c=>?_) (fun x hx=>?_)⟩
 simp at hx;subst hx
 simp only[cM]at c
 split at c
 simp at c
 have:=(hs.free r _ c).2;omega
 simp at hx;subst hx
 refine⟨fun c=>?_,by rw[ef];omega⟩
 have:=hs.bound _ c;omega
theorem uU{o:Oper} {K:AS->Prop} {d:Nat} {v:V} (hd:o.dst=some d) (hN:d<N)
 (B6:∀ Pb Kb a w F,s9 N Pb Kb A a w F->∃ cs e,(execOp a.eval o).run P w=.ok (.value (.pointer (some ⟨w.heap.size,0,none⟩))) (w.alloc (.cells cs e))/\R w Pb v cs.toList [])
 (hK:∀ g,K ⟨(A.put (some d) (.ptr (.key d) [] g 0)).t,(d,(g,v))::A.h⟩):F9 P N o A K:=by
 intro Pb Kb a w F Q hs
 obtain⟨cs,e,hx,hr⟩:=B6 Pb Kb a w F hs
 unfold Oper.wp
 rw[hx,Oper.upon_value,hd]
 obtain⟨F',B4⟩:=hs.Ku hN (e:=e) hr
 exact⟨_,Pb,Kb,F',hK _,B4,fun _ h=>h,fun _ h=>h,fun _ h=>.inl h,A4.alloc hs.bound _⟩
theorem kG(e:TypeId)(cs:Array Value):(newRow e cs).run P w=.ok ⟨w.heap.size,0,none⟩ (w.alloc (.cells cs e)):=rfl
theorem tw{o:Oper} {K:AS->Prop} {d T:Nat} {v:V} (ho:o.op=.alloc T) (hd:o.dst=some d) (hN:d<N) (hz:pq P T v)
 (hK:∀ g,K ⟨(A.put (some d) (.ptr (.key d) [] g 0)).t,(d,(g,v))::A.h⟩):F9 P N o A K:=by
 refine uU hd hN (fun Pb Kb a w F hs=>?_) hK
 obtain⟨inf,z,h1,h2,h3⟩:=hz
 refine⟨z.cells,T,?_,tF v h3⟩
 simp[execOp,ho,Instr.alloc,zeroValue,typeInfo,h1,h2,newVar,kG]
theorem KR{o:Oper} {K:AS->Prop} {d T:Nat} {x:Operand} (ho:o.op=.box T x) (hd:o.dst=some d) (hN:d<N) (hv:(A.cp x).isVal=true)
 (hK:∀ g,K ⟨(A.put (some d) (.ptr (.key d) [] g 0)).t,(d,(g,A.cp x))::A.h⟩):F9 P N o A K:=by
 refine uU hd hN (fun Pb Kb a w F hs=>?_) hK
 exact⟨(a.eval x).cells,T,by simp[execOp,ho,Instr.box,newVar,kG],Ag (rq hs x) hv⟩
theorem zk{o:Oper} {K:AS->Prop} {T:Nat} {x y:Operand} {r:m0} {p:List Nat} {g g':Nat} {i:TI} {TD:V} (ho:o.op=.store T x y) (hd:o.dst=none) (hi:ti P T=some i)
 (hx:A.ev x=.ptr r p g g') (B0:(A.drop y).at r p=some (g,g',TD)) (hv:(A.ev y).isVal=true) (hn:(A.ev y).n=TD.n) (PK:(A.ev y).n=i.sz) (hK:K ((A.drop y).setAt r p (A.ev y))):F9 P N o A K:=by
 intro Pb Kb a w F Q hs
 obtain⟨Fx,F',hr,B4,hnd,x6,hfr,_⟩:=hs.take y
 obtain⟨_,UX⟩:=eE hs x
 rw[hx]at UX
 have hp:a.eval x=.pointer (some ⟨g,g',none⟩):=by have:=UX.2;simpa using this
 have hR:=Ag hr hv
 obtain⟨_,cs0,cells,hb,VW,Rj⟩:=kF B4 B0
 have WH:=fk _ VW
 have hl:=fk _ hR
 have hle:g'+(a.eval y).cells.toList.length<=cells.size\/(a.eval y).cells.toList=[]:=by
  by_cases hne:cs0=[]
  right;exact Za3 (by rw[hl,hn,<- WH,hne];rfl)
  left;have:=yL Rj hne;omega
 have A7:∃ w',(storeCells ⟨g,g',none⟩ (a.eval y).cells.toList 0).run P w=.ok () w'/\C6 w w' g g' (a.eval y).cells.toList:=by
  rcases hle with h | h
  obtain⟨w',h1,h2⟩:=iT (P:=P) (g:=g) (o:=g') (a.eval y).cells.toList 0 w cells hb Zaa (mj _ hR)
  exact⟨w',h1,h2⟩
  rw[h];exact⟨w,rfl,C6.nil w g g'⟩
 obtain⟨w',B6,A7⟩:=A7
 have hx:(execOp a.eval o).run P w=.ok .skip w':=by
  have hsz:(a.eval y).cells.size=i.sz:=by rw[<- PK,<- hl];simp
  simp only[execOp,ho,Instr.storeAt,hp,Instr.sureAddr,Zay,Zaz,Zaq,storeVar,dq hi,hsz,ne_eq,not_true_eq_false,if_false,B6]
 unfold Oper.wp
 rw[hx,Oper.upon_skip,hd]
 obtain⟨F2,M7,hg⟩:=B4.store B0 hR hn hnd x6 hfr A7
 exact⟨_,Pb,Kb,F2,hK,M7,fun _ h=>h,fun _ h=>h,fun _ h=>.inl h,⟨A7.os,A7.tape,A7.output,by rw[A7.size];omega,fun k hk=>A7.O5 k (fun c=>hg (c ▸ hk)),A7.shape⟩⟩
def fK(A:AS)(k:Nat):List (Nat×Operand)->Option (List V)
 | []=>some []
 | (i,x)::r=>if i=k then match fK A (k+1) r with | some vs=>some (A.cp x::vs) | none=>none else none
theorem pc(hs:s9 N Pb Kb A a w F){s:Nat}:∀ (e9:List (Nat×Operand)) (k:Nat) {vs:List V},fK A k e9=some vs->(∀ v,v∈vs->v.isVal=true/\v.n=s)->
 ∃ xs:List Value,(e9.map fun (i,x)=>(i,a.eval x))=(xs.zipIdx k).map (fun x=>(x.2,x.1))/\(∀ x,x∈xs->x.cells.size=s)/\RL w Pb vs (xs.flatMap fun v=>v.cells.toList) []/\xs.length=vs.length
 | [],k,vs,h,_=>by simp[fK]at h;subst h;exact⟨[],rfl,Zab,⟨rfl,rfl⟩,rfl⟩
 | (i,x)::r,k,vs,h,hv=>by
   simp only[fK]at h
   split at h
   case isFalse=>simp at h
   rename_i e
   subst e
   split at h
   case h_2=>simp at h
   rename_i X3 hr
   simp at h;subst h
   obtain⟨xs,h1,h2,h3,h4⟩:=pc hs r (i+1) hr (fun v TK=>hv v (by simp[TK]))
   have hR:=Ag (rq hs x) (hv (A.cp x) Zab).1
   have hl:=fk _ hR
   refine⟨a.eval x::xs,by simp[h1],?_,⟨_,_,[],[],Zab,rfl,hR,h3⟩,by simp[h4]⟩
   intro y hy
   rcases List.mem_cons.1 hy with rfl | h
   rw[<- (hv (A.cp x) Zab).2,<- hl];simp
   exact h2 y h
theorem xC{o:Oper} {K:AS->Prop} {T e len:Nat} {e9:Array (Nat×Operand)} {i:TI} {vs:List V} (ho:o.op=.buildSlice T len e9) (hd:cZ N o.dst) (hT:tD P T=some (.sl e)) (hi:ti P e=some i)
 (hz:∃ inf z,P.info? e=some inf/\inf.zero=some z) (SN:fK A 0 e9.toList=some vs) (hlen:vs.length=len) (Ro:len*i.sz<=16777216) (G3:0<i.sz) (hv:∀ v,v∈vs->v.isVal=true/\v.n=i.sz)
 (hK:K (A.put o.dst (.sl true vs))):F9 P N o A K:=by
 intro Pb Kb a w F Q hs
 obtain⟨inf,z,Oh,hzero⟩:=hz
 obtain⟨xs,h1,h2,h3,h4⟩:=pc hs e9.toList 0 SN hv
 have hu:=jU hT
 obtain⟨TG,_,I8,_,hsz,_,_⟩:=kP hi
 rw[Oh]at I8
 obtain rfl:=Option.some.inj I8
 by_cases h0:len=0
 have Y2:vs=[]:=Za3 Zaa
 subst Y2
 subst h0
 have Zc:e9.toList=[]:=by
  cases SZ:e9.toList with
  | nil=>rfl
  | cons p ps=>rw[SZ]at h1;rw[Za3 h4]at h1;simp at h1
 have hp:e9= #[]:=by rw[<- Array.toArray_toList (xs:=e9),Zc]
 subst hp
 have hx:(execOp a.eval o).run P w=.ok (.value (.slice (some ⟨w.heap.size,0,none⟩) 0 0)) (w.alloc (.cells #[] e)):=by
  simp[execOp,ho,Instr.buildSlice,aQ hu,dq hi,Instr.fill,kG]
  congr 2;apply Array.ext';simp
 unfold Oper.wp
 rw[hx,Oper.upon_value]
 obtain⟨F',B4⟩:=(hs.pK (.cells #[] e)).rX (d:=o.dst) (v:=.sl true []) (x:=.slice (some ⟨w.heap.size,0,none⟩) 0 0) hd ⟨rfl,_,0,rfl,Zba _,fun _=>rfl,.inl rfl⟩
 exact⟨_,Pb,Kb,F',hK,B4,fun _ h=>h,fun _ h=>h,fun _ h=>.inl h,A4.alloc hs.bound _⟩
 have hfl:=Great.fill_whole G3 xs ((Array.range (len*i.sz)).map (z.cells[· % z.cells.size]!)) h2 (by simp[h4,hlen])
 have hmul: ¬ len*inf.size=0:=by rw[hsz];exact Nat.mul_ne_zero h0 Zaa
 have hb:=run_buildSlice (P:=P) w T e len (e9.map fun (i,x)=>(i,a.eval x)) _ inf z hu Oh hzero (by rw[hsz];omega) hmul (by rw[Array.toList_map,h1,hsz];exact hfl)
 have hx:(execOp a.eval o).run P w=.ok (.value (.slice (some ⟨w.heap.size,0,none⟩) len len)) (w.alloc (.cells (xs.flatMap fun v=>v.cells.toList).toArray e)):=by
  simp only[execOp,ho,Zay,hb,Zaq,Zaz]
 unfold Oper.wp
 rw[hx,Oper.upon_value]
 have Pf:=hs.Ng (.cells (xs.flatMap fun v=>v.cells.toList).toArray e)
 have O1:=fg (w':=w.alloc (.cells (xs.flatMap fun v=>v.cells.toList).toArray e)) (Pb':=fun g=>Pb g\/g=w.heap.size) vs h3 (fun g hg=>alloc_old w _ g (hs.bound g (hs.sub g hg))) Zab (fun g hg=>.inl hg) Zab
 obtain⟨F',B4⟩:=Pf.rX (d:=o.dst) (v:=.sl true vs) (x:=.slice (some ⟨w.heap.size,0,none⟩) len len) hd ⟨rfl,some ⟨w.heap.size,0,none⟩,len,by rw[hlen],Zaa,fun _=>hlen.symm,
  .inr ⟨w.heap.size,0,i.sz,_,rfl,.inr rfl,G3,fun v TK=>(hv v TK).2,O1,fun j u hu=>by
   rw[eX (cells:=(xs.flatMap fun v=>v.cells.toList).toArray) ⟨e,(0,0),ij w _,fun i _ h=>by omega⟩];simpa using hu⟩⟩
 exact⟨_,_,_,F',hK,B4,fun _ h=>.inl h,fun _ h=>.inl h,fun g hg=>by
  rcases hg with h | h
  exact .inl h
  right;intro c;have:=hs.bound g c;omega,A4.alloc hs.bound _⟩
end
section
variable {w w':World} {Pb Kb:Nat->Prop} {N:Nat} {A A':AS} {a:Act} {F:m0->List Nat} {P:Program}
def oP(P:Program):List (Nat×Nat)->Option (List (Nat×Nat))
 | []=>some []
 | (off,T)::r=>match ti P T,oP P r with
   | some i,some ps=>some ((off,i.sz)::ps)
   | _,_=>none
def sd(places:List (Nat×Nat)):List V->List (Nat×V)->Option (Prop×List V)
 | zs,[]=>some (True,zs)
 | zs,(i,v)::r=>match places[i]?,zs[i]? with
   | some (off,sz),some z=>match sd places (zs.set i v) r with
     | some (C,ZW)=>some (V.ns (zs.take i)=off/\v.n=sz/\z.n=sz/\v.isVal=true/\C,ZW)
     | none=>none
   | _,_=>none
def tG(P:Program)(A:AS)(T:Nat)(zs:List V)(e9:List (Nat×Operand)):Option (Prop×V):=
 match tD P T with
 | some (.st fs)=>match oP P fs with
   | some places=>match sd places zs (e9.map fun (i,x)=>(i,A.cp x)) with
     | some (C,vs)=>some (C,.agg vs)
     | none=>none
   | none=>none
 | _=>none
theorem yR:∀ (zs:List V) {cs:List Value} {i:Nat} {z v:V} {c:List Value},RL w Pb zs cs []->zs[i]? =some z->R w Pb v c []->c.length=z.n->
 RL w Pb (zs.set i v) (cs.take (V.ns (zs.take i))++c++cs.drop (V.ns (zs.take i)+z.n)) []
 | [],_,_,_,_,_,_,h,_,_=>by simp at h
 | z0::zs,cs,0,z,v,c,h,hi,hr,hn=>by
   obtain⟨c1,c2,F1,F2,rfl,hF,h1,h2⟩:=h
   have PT:=hF.symm;simp at PT;obtain⟨rfl,rfl⟩:=PT
   simp at hi;subst hi
   have hl:=fk _ h1
   simp only[List.take_zero,V.ns,Zau,List.nil_append,List.set_cons_zero]
   rw[<- hl,List.drop_left]
   exact⟨c,c2,[],[],rfl,rfl,hr,h2⟩
 | z0::zs,cs,i+1,z,v,c,h,hi,hr,hn=>by
   obtain⟨c1,c2,F1,F2,rfl,hF,h1,h2⟩:=h
   have PT:=hF.symm;simp at PT;obtain⟨rfl,rfl⟩:=PT
   have hl:=fk _ h1
   have ih:=yR zs h2 (by simpa using hi) hr hn
   simp only[List.take_succ_cons,V.ns,List.set_cons_succ]
   refine⟨c1,_,[],[],?_,rfl,h1,ih⟩
   rw[<- hl,List.take_append,List.drop_append]
   have e1:(List.take (c1.length+V.ns (zs.take i)) c1)=c1:=Zax Zaa
   have e2:(List.drop (c1.length+V.ns (zs.take i)+z.n) c1)=[]:=Za6 Zaa
   rw[e1,e2]
   have e3:c1.length+V.ns (zs.take i)-c1.length=V.ns (zs.take i):=Zaa
   have e4:c1.length+V.ns (zs.take i)+z.n-c1.length=V.ns (zs.take i)+z.n:=Zaa
   rw[e3,e4];simp
theorem Dz(cells:Array Value) (off:Nat) (c:List Value) (h:off+c.length<=cells.size) {r:Array Value} (hs:r.size=cells.size)
 (hk:∀ k,r[k]? =if off+0<=k/\k<off+0+c.length/\k<cells.size then c[k-(off+0)]? else cells[k]?):r.toList=cells.toList.take off++c++cells.toList.drop (off+c.length):=by
 apply List.ext_getElem?
 intro k
 rw[Array.getElem?_toList,hk k]
 simp only[Nat.add_zero]
 by_cases h1:k<off
 rw[if_neg Zaa,List.append_assoc,Za7 Zaj,List.getElem?_take,if_pos h1];simp
 by_cases h2:k<off+c.length
 rw[if_pos ⟨Zaa,h2,Zaa⟩,List.append_assoc,Za2 Zaj,Za7 Zaj]
 congr 1;simp;omega
 rw[if_neg Zaa,Za2 Zaj,List.getElem?_drop]
 have:off+c.length+(k-(cells.toList.take off++c).length)=k:=Zaj
 rw[this];simp
theorem uR(hs:s9 N Pb Kb A a w F){places:List (Nat×Nat)}:∀ (e9:List (Nat×Operand)) {zs:List V} {C:Prop} {vs:List V} {cells:Array Value},sd places zs (e9.map fun (i,x)=>(i,A.cp x))=some (C,vs)->C->
 RL w Pb zs cells.toList []->∃ o4,Instr.fill (places.toArray[·]?) cells (e9.map fun (i,x)=>(i,a.eval x))=some o4/\RL w Pb vs o4.toList []
 | [],zs,C,vs,cells,h,_,hr=>by simp[sd]at h;obtain⟨_,rfl⟩:=h;exact⟨cells,rfl,hr⟩
 | (i,x)::r,zs,C,vs,cells,h,hC,hr=>by
   simp only[Zbc,sd]at h
   split at h
   case h_2=>simp at h
   rename_i off sz z hp hz
   split at h
   case h_2=>simp at h
   rename_i C' ZW hf
   simp only[Zal,Zao]at h
   obtain⟨rfl,rfl⟩:=h
   obtain⟨h1,h2,h3,h4,h5⟩:=hC
   have hR:=Ag (rq hs x) h4
   have hl:=fk _ hR
   obtain⟨cz,F',WA,_,hcz⟩:=iA zs hr hz
   have hlz:=fk _ WA
   have hle:off+(a.eval x).cells.toList.length<=cells.size:=by
    by_cases hne:cz=[]
    have:sz=0:=by rw[<- h3,<- hlz,hne];rfl
    have hns:V.ns (zs.take i)<=cells.size:=by
     have WH:=kq _ hr
     have:V.ns (zs.take i)<=V.ns zs:=by
      clear hf hr hcz WA hp WH h1
      induction zs generalizing i with
      | nil=>simp[V.ns]
      | cons z0 zs ih=>cases i with
        | zero=>simp[V.ns]
        | succ i=>simp only[List.take_succ_cons,V.ns];have:=ih (i:=i) (by simpa using hz);omega
     simpa[<- WH] using this
    rw[hl,h2];omega
    have:=yL (cells:=cells) (o:=off) (l:=cz) (fun j u hu=>by rw[<- h1];have:=hcz j u hu;simpa using this) hne
    omega
   obtain⟨g1,g2⟩:=Great.foldl_set off (a.eval x).cells.toList 0 cells
   have Y':=Dz cells off (a.eval x).cells.toList hle g1 g2
   have M0:=yR zs hr hz hR (by rw[hl,h2,h3])
   rw[h1,h3,<- h2,<- hl,<- Y']at M0
   obtain⟨o4,S9,G0⟩:=uR hs r hf h5 M0
   refine⟨o4,?_,G0⟩
   simp only[Zbc]
   unfold Instr.fill
   have XC:places.toArray[i]? =some (off,sz):=by simpa using hp
   simp only[XC]
   rw[if_neg (by
    have e1:(a.eval x).cells.size=sz:=by rw[<- h2,<- hl];simp
    simp only[e1,ne_eq,not_true_eq_false,decide_false,Bool.false_or,Zbi]
    rw[<- e1];simpa using hle)]
   rw[<- S9];congr 1
   rw[<- Array.foldl_toList,Array.toList_zipIdx]
theorem FZ{fl:Array Field}{fs:List (Nat×Nat)}(h:fl.toList.map (fun f=>(f.offset,f.type))=fs){places:List (Nat×Nat)}(hp:oP P fs=some places):
 fl.toList.mapM (fun f=>(P.info? f.type).map fun i=>(f.offset,i.size))=some places:=by
 subst h
 generalize fl.toList=l at hp
 induction l generalizing places with
 | nil=>simp[oP]at hp;subst hp;rfl
 | cons f l ih=>
   simp only[Zbc,oP]at hp
   split at hp
   case h_2=>simp at hp
   rename_i i ps hi hps
   simp at hp;subst hp
   obtain⟨inf,_,h1,_,h3,_,_⟩:=kP hi
   simp[List.mapM_cons,h1,ih hps,h3]
theorem Ey(hs:s9 N Pb Kb A a w F){T:Nat}{e9:Array (Nat×Operand)}{zs:List V}{C:Prop}{v:V}(hz:pq P T (.agg zs))(h:tG P A T zs e9.toList=some (C,v))(hC:C):
 ∃ y,(Instr.build T (e9.map fun (i,x)=>(i,a.eval x))).run P w=.ok y w/\RV w Pb v y []:=by
 unfold tG at h
 split at h
 case h_2=>simp at h
 rename_i fs hT
 split at h
 case h_2=>simp at h
 rename_i places hp
 split at h
 case h_2=>simp at h
 rename_i C' vs hf
 simp only[Zal,Zao]at h
 obtain⟨rfl,rfl⟩:=h
 obtain⟨fl,hu,hfl⟩:=Eh hT
 obtain⟨inf,z,h1,h2,h3⟩:=hz
 have hr:=tF (w:=w) (Pb:=Pb) _ h3
 simp only[R]at hr
 obtain⟨o4,S9,G0⟩:=uR hs e9.toList hf hC hr
 refine⟨.agg o4,run_build w T _ o4 ?_,o4,rfl,G0⟩
 unfold Program.built
 simp only[h1,hu,h2,FZ hfl hp]
 rw[Array.toList_map];exact S9
theorem yN{o:Oper} {K:AS->Prop} {T:Nat} {e9:Array (Nat×Operand)} {zs:List V} {C:Prop} {v:V} (ho:o.op=.build T e9) (hd:cZ N o.dst) (hz:pq P T (.agg zs))
 (h:tG P A T zs e9.toList=some (C,v)) (hC:C) (hK:K (A.put o.dst v)):F9 P N o A K:=
 ky hd hK fun Pb Kb a w F hs=>by
  obtain⟨y,hy,hr⟩:=Ey hs hz h hC
  exact⟨y,by simp only[execOp,ho,Zay,hy,Zaq,Zaz],hr⟩
theorem s9.freeze(hs:s9 N Pb Kb A a w F){i:Nat}(hi:(A.get i).dz=true)(Zt:i<N):∃ Pb' E2 F',s9 N Pb' E2 (A.put (some i) (A.get i).er) a w F'/\(∀ g,Pb g->Pb' g)/\(∀ g,Kb g->E2 g)/\(∀ g,Pb' g->Pb g\/¬ Kb g):=by
 refine⟨fun g=>Pb g\/g∈F (.slot i),fun g=>Kb g\/g∈F (.slot i),cM F (.slot i) [],?_,fun g h=>.inl h,fun g h=>.inl h,fun g h=>h.imp id fun h=>(hs.free _ g h).1⟩
 have V2:∀ r,r≠.slot i->∀ g,g∈F r->¬ (Pb g\/g∈F (.slot i))/\¬ (Kb g\/g∈F (.slot i)):=fun r hr g hg=>by
  refine⟨fun c=>?_,fun c=>?_⟩ <;> rcases c with c | c
  exact(hs.free r g hg).1 (hs.sub g c)
  exact hs.cL r _ hr g hg c
  exact(hs.free r g hg).1 c
  exact hs.cL r _ hr g hg c
 refine⟨hs.size,hs.defers,fun j=>?_,fun k g v hk=>?_,fun r r' hne g hg=>?_,fun r=>?_,fun r g hg=>?_,fun g h=>h.imp (hs.sub g) id,fun g h=>?_⟩
 rw[AS.aJ]
 by_cases e:j=i
 subst e
 simp only[if_true,cM]
 exact DN (hs.slot j) (fun g h=>.inl h) (fun g h=>.inr h)
 have hne:m0.slot j≠m0.slot i:=fun c=>e (by injection c)
 simp only[if_neg e,cM,if_neg hne]
 exact oO _ (hs.slot j) (fun _ _=>rfl) (fun _ _=>rfl) (fun g h=>.inl h) (fun g hg=>(V2 _ hne g hg).1)
 obtain⟨F',e,hA⟩:=hs.root k g v hk
 refine⟨F',by simpa[cM] using e,?_⟩
 obtain⟨cs,cells,hb,hr,hc⟩:=hA
 exact⟨cs,cells,hb,iu _ hr (fun _ _=>rfl) (fun _ _=>rfl) (fun g h=>.inl h) (fun x hx=>(V2 (.key k) Zab x (by rw[e];simp[hx])).1),hc⟩
 simp only[cM]at hg ⊢
 split at hg
 simp at hg
 split
 simp
 exact hs.cL r r' hne g hg
 simp only[cM];split
 exact Za8
 exact hs.nodup r
 simp only[cM]at hg
 split at hg
 simp at hg
 rename_i hne
 exact⟨(V2 r hne g hg).2,(hs.free r g hg).2⟩
 rcases h with h | h
 exact hs.bound g h
 exact(hs.free _ g h).2
theorem s9.O5(hs:s9 N Pb Kb A a w F){g:Nat}(hg:∀ r,g ∉ F r)(hK: ¬ Kb g)(hf:∀ k,k≠g->w'.heap[k]? =w.heap[k]?)(hsz:w'.heap.size=w.heap.size):s9 N Pb Kb A a w' F where
 size:=hs.size
 defers:=hs.defers
 slot:=fun i=>oO _ (hs.slot i) (fun x hx=>hf x (by rintro rfl;exact hK (hs.sub _ hx))) (fun x hx=>hf x (by rintro rfl;exact hg _ hx)) (fun _ h=>h) (fun x hx c=>(hs.free _ x hx).1 (hs.sub x c))
 root:=fun k g0 v hk=>by
  obtain⟨F',e,hA⟩:=hs.root k g0 v hk
  have S3:g0≠g:=by rintro rfl;exact hg (.key k) (by rw[e];simp)
  refine⟨F',e,sx hA (fun x hx=>hf x (by rintro rfl;exact hK (hs.sub _ hx))) (fun x hx=>hf x (by rintro rfl;exact hg (.key k) (by rw[e];simp[hx]))) (fun x hx c=>(hs.free (.key k) x (by rw[e];simp[hx])).1 (hs.sub x c)) (fun cells hb=>?_)⟩
  obtain⟨e',fr,hb,hfr⟩:=hb
  exact⟨cells,⟨e',fr,(hf g0 S3).trans hb,hfr⟩,fun _ _ _=>rfl⟩
 cL:=hs.cL
 nodup:=hs.nodup
 free:=fun r x hx=>by rw[hsz];exact hs.free r x hx
 sub:=hs.sub
 bound:=fun x hx=>by rw[hsz];exact hs.bound x hx
theorem ke:∀ (xs ys:List V) {c1 c2:List Value} {F1 F2:List Nat},RL w Pb xs c1 F1->RL w Pb ys c2 F2->RL w Pb (xs++ys) (c1++c2) (F1++F2)
 | [],ys,c1,c2,F1,F2,h1,h2=>by obtain⟨rfl,rfl⟩:=h1;exact h2
 | x::xs,ys,c1,c2,F1,F2,h1,h2=>by
   obtain⟨d1,d2,G1,G2,rfl,rfl,k1,k2⟩:=h1
   exact⟨d1,d2++c2,G1,G2++F2,Zab,Zab,k1,ke xs ys k2 h2⟩
theorem qE{sz:Nat}(xs:List V)(h:aM sz xs):V.ns xs=xs.length*sz:=by
 have:=eT xs xs.length h (Zba _);simpa using this
theorem Az{full:Bool}{ys:List V}{x:Value}(h:R w Pb (.sl full ys) [x] []){s:Nat}(hs:aM s ys):∃ (B:Option Addr) (c:Nat) (flat:List Value),x=.slice B ys.length c/\RL w Pb ys flat []/\
 (∀ w1:World,(∀ ad,w1.cell? ad=w.cell? ad)->(Builtin.firstCells s ys.length x).run P w1=.ok flat.toArray w1)/\flat.length=ys.length*s:=by
 obtain⟨_,A,c,hx,hl,_,hz⟩:=h
 have hx:x=.slice A ys.length c:=by simpa using hx
 subst hx
 rcases hz with rfl | ⟨b,o,sz,flat,rfl,hb,hsz,hN,hr,hc⟩
 refine⟨A,c,[],rfl,⟨rfl,rfl⟩,fun w1 _=>?_,Zab⟩
 cases A with
 | none=>rfl
 | some ad=>simp only[Builtin.firstCells,Zas,Nat.zero_mul];rfl
 have hl2:=kq _ hr
 by_cases he:ys=[]
 subst he
 obtain⟨rfl,_⟩:=hr
 exact⟨_,c,[],rfl,⟨rfl,rfl⟩,fun w1 _=>by simp only[Builtin.firstCells,Zas,Nat.zero_mul];rfl,Zab⟩
 rw[qE ys hs]at hl2
 exact⟨_,c,flat,rfl,hr,fun w1 h1=>by simp only[Builtin.firstCells];rw[<- hl2];exact run_loadCells_list w1 _ flat (fun j v hv=>by rw[eO,h1];exact hc j v hv),hl2⟩
theorem zq{sz g o c:Nat}{xs:List V}{x:Value}{Fx:List Nat}(h:R w Pb (.own sz xs g o c) [x] Fx):∃ (B:Option Addr) (flat:List Value) (F':List Nat),x=.slice B xs.length c/\RL w Pb xs flat F'/\
 (∀ w1:World,(∀ ad,w1.cell? ad=w.cell? ad)->(Builtin.firstCells sz xs.length x).run P w1=.ok flat.toArray w1)/\(0<c->B=some ⟨g,o,none⟩/\aM sz xs/\0<sz/\Fx=g::F'/\flat.length=xs.length*sz)/\(c=0->xs=[]/\Fx=[]/\F'=[]/\flat=[])/\xs.length<=c:=by
 rcases h with ⟨rfl,rfl,rfl,A,hx⟩ | ⟨h1,h2,h3,hx,hN,_,flat,F',cells,rfl,hr,hb,hsz,hc⟩
 have hx:x=.slice A 0 0:=by simpa using hx
 subst hx
 refine⟨A,[],[],rfl,⟨rfl,rfl⟩,fun w1 _=>?_,fun h=>absurd h Zaa,fun _=>⟨rfl,rfl,rfl,rfl⟩,Zba _⟩
 cases A with
 | none=>rfl
 | some ad=>simp only[Builtin.firstCells,Zas,Nat.zero_mul];rfl
 have hx:x=.slice (some ⟨g,o,none⟩) xs.length c:=by simpa using hx
 subst hx
 have hl:=kq _ hr
 rw[qE xs hN]at hl
 refine⟨_,flat,F',rfl,hr,fun w1 h1=>?_,fun _=>⟨rfl,hN,h2,rfl,hl⟩,fun h=>absurd h Zaa,h3⟩
 simp only[Builtin.firstCells]
 rw[<- hl]
 exact run_loadCells_list w1 _ flat (fun j v hv=>by rw[eO,h1,eX hb];exact hc j v hv)
theorem sH{e:Nat}{inf:TypeInfo}{z:Value}(h1:P.info? e=some inf)(h2:inf.zero=some z):(zeroValue e).run P w=.ok z w:=by simp[zeroValue,typeInfo,h1,h2]
theorem uW{T T2 e e2:Nat} {t:TI} (hT:tD P T=some (.sl e)) (T4:tD P T2=some (.sl e2)) (ht:ti P e=some t) (hz:∃ inf z,P.info? e=some inf/\inf.zero=some z/\z.cells.size=t.sz) (hsz:0<t.sz) (Tu:0<t.Od)
 (hs:s9 N Pb Kb A a w F) {xs ys:List V} {g o c:Nat} {s x:Value} {Fx:List Nat} {B2:Option Addr} {c2:Nat} {D2:List Value} (K4:R w Pb (.own t.sz xs g o c) [s] Fx) (x6:∀ r g,g∈Fx->g ∉ F r) (hfr:∀ g,g∈Fx->¬ Kb g/\g<w.heap.size) {Fy:List Nat} (hnd:(Fx++Fy).Nodup) (Z7:∀ r g,g∈Fy->g ∉ F r) (Xn:∀ g,g∈Fy->¬ Kb g/\g<w.heap.size)
 (E':x=.slice B2 ys.length c2) (M0:RL w Pb ys D2 Fy) (Px:∀ w1:World,(∀ ad,w1.cell? ad=w.cell? ad)->(Builtin.firstCells t.sz ys.length x).run P w1=.ok D2.toArray w1) (hl2:D2.length=ys.length*t.sz) (hN:aM t.sz ys) (hbig:(xs.length+ys.length)*t.Od<=140737488355328):
 ∃ v w' F2 g' o' c',(Builtin.append_ #[T,T2] T #[s,x]).run P w=.ok v w'/\s9 N Pb Kb A a w' F/\R w' Pb (.own t.sz (xs++ys) g' o' c') [v] F2/\F2.Nodup/\(∀ r g,g∈F2->g ∉ F r)/\(∀ g,g∈F2->¬ Kb g/\g<w'.heap.size)/\A4 Kb w w':=by
 have hu:=jU hT
 have PS:=jU T4
 obtain⟨inf,z,Oh,hzero,YR⟩:=hz
 obtain⟨TG,_,I8,_,SR,Te,_⟩:=kP ht
 rw[Oh]at I8
 obtain rfl:=Option.some.inj I8
 obtain⟨B,flat,F',rfl,hr,Qo,G3,SK,hle⟩:=zq (P:=P) K4
 subst E'
 have Q0:(Builtin.lenOf (.slice B2 ys.length c2)).run P w=.ok ys.length w:=rfl
 have WN:∀ r g,g∈F r->¬ Pb g:=fun r g hg c=>(hs.free r g hg).1 (hs.sub g c)
 have XH:xs.length+ys.length<=140737488355328:=Nat.le_trans (Nat.le_mul_of_pos_right _ Tu) hbig
 unfold Builtin.append_
 simp only[List.getElem?_toArray,List.getElem?_cons_zero,List.getElem?_cons_succ,Zay,aQ hu,Zaq]
 simp only[dq ht,Zaq]
 simp only[aQ PS,Zaq,Zaz]
 rw[if_neg (show ¬ (false=true) by decide)]
 rw[Zay,Q0]
 simp only[Zaq]
 by_cases QY:xs.length+ys.length<=c
 ·
  rw[if_pos QY]
  simp only[Zay,Bool.not_false,if_true,Px w (fun _=>rfl),Zaq]
  by_cases hc:c=0
  obtain⟨rfl,rfl,rfl,rfl⟩:=SK hc
  have u0:ys=[]:=Za3 Zaa
  subst u0
  have Q4:D2=[]:=Za3 (by simpa using hl2)
  subst Q4
  refine⟨.slice B 0 c,w,[],g,o,0,?_,hs,.inl ⟨rfl,rfl,rfl,B,by rw[hc]⟩,Za8,Zab,Zab,A4.refl _ _⟩
  cases B with
  | none=>simp
  | some ad=>simp[storeCells]
  obtain⟨rfl,We,_,rfl,hl1⟩:=G3 Zaa
  rcases K4 with ⟨h0,_⟩ | ⟨_,_,_,_,_,Wd,Oo,OP,cells,WO,G0,hb,VS,s8⟩
  exact absurd h0 hc
  simp only[List.cons.injEq,true_and]at WO
  subst WO
  have hle':o+xs.length*t.sz+D2.length<=cells.size:=by
   rw[hl2]
   have:(xs.length+ys.length)*t.sz<=c*t.sz:=Nat.mul_le_mul_right _ QY
   rw[Nat.add_mul]at this;omega
  obtain⟨w',A7,N5⟩:=iT (P:=P) (g:=g) (o:=o+xs.length*t.sz) D2 0 w cells hb Zaa (tf _ M0)
  have hg:=hfr g Zab
  have B4:s9 N Pb Kb A a w' F:=hs.O5 (fun r=>x6 r g Zab) hg.1 N5.O5 N5.size
  have Yi:∀ k,Pb k->w'.heap[k]? =w.heap[k]? :=fun k hk=>N5.O5 k (by rintro rfl;exact Wd hk)
  have hgA:g ∉ F'++Fy:=(List.nodup_cons.1 hnd).1
  have RN:g ∉ F':=fun c=>hgA (by simp[c])
  have hgY:g ∉ Fy:=fun c=>hgA (by simp[c])
  have hkF:∀ k,k∈F'->w'.heap[k]? =w.heap[k]? :=fun k hk=>N5.O5 k (by rintro rfl;exact RN hk)
  obtain⟨o4,M4,M7,Pt,S0⟩:=N5.PW cells hb
  have SV:=fg (w':=w') (Pb':=Pb) xs hr Yi hkF (fun _ h=>h) (fun k hk c=>(hfr k (by simp[hk])).1 (hs.sub k c))
  have SU:=fg (w':=w') (Pb':=Pb) ys M0 Yi (fun k hk=>N5.O5 k (by rintro rfl;exact hgY hk)) (fun _ h=>h) (fun k hk c=>(Xn k hk).1 (hs.sub k c))
  have S7:Oo=flat\/True:=.inr trivial
  have hgy:∀ k,k∈g::(F'++Fy)->(¬ Kb k/\k<w.heap.size)/\∀ r,k ∉ F r:=fun k hk=>by
   rcases Zav.1 (show k∈(g::F')++Fy from hk) with h | h
   exact⟨hfr k h,fun r=>x6 r k h⟩
   exact⟨Xn k h,fun r=>Z7 r k h⟩
  refine⟨.slice (some ⟨g,o,none⟩) (xs.length+ys.length) c,w',g::(F'++Fy),g,o,c,?_,B4,.inr ⟨Zaa,hsz,Zaj,Zab,?_,Wd,flat++D2,F'++Fy,o4,rfl,ke xs ys SV SU,M4,Zaa,?_⟩,hnd,fun r k hk=>(hgy k hk).2 r,fun k hk=>by rw[N5.size];exact(hgy k hk).1,⟨N5.os,N5.tape,N5.output,by rw[N5.size];omega,fun k hk=>N5.O5 k (by rintro rfl;exact hg.1 hk),N5.shape⟩⟩
  have e1:(Array.toList D2.toArray)=D2:=Zab
  simp only[eO,Zay]
  rw[A7]
  simp only[Zaq,Zaz]
  intro v hv
  rcases Zav.1 hv with h | h
  exact We v h
  exact hN v h
  intro j u hu
  by_cases hj:j<flat.length
  rw[Za7 hj]at hu
  rw[Pt _ Zaa]
  have h1:(loadCells ⟨g,o,none⟩ Oo.length).run P w=.ok Oo.toArray w:=run_loadCells_list w _ Oo (fun j v hv=>by rw[eO,eX hb];exact s8 j v hv)
  have Zq:Oo.length=xs.length*t.sz:=by rw[kq _ G0,qE xs We]
  have h2:=Qo w (fun _=>rfl)
  simp only[Builtin.firstCells]at h2
  rw[<- Zq,h1]at h2
  simp only[Result.ok.injEq,and_true]at h2
  have:Oo=flat:=by have:=Zbk Array.toList h2;simpa using this
  subst this
  exact s8 j u hu
  rw[Za2 Zaa]at hu
  have:=S0 _ u hu
  rw[<- this];congr 1;omega
 ·
  rw[if_neg QY]
  have hlt:c<xs.length+ys.length:=Zaa
  have Zj:IntKind.i64.max=9223372036854775807:=Zad
  have TT: ¬ (((xs.length+ys.length:Nat):Int)>IntKind.i64.max/\((false=true)\/inf.bytes=0)):=by
   rw[Zj];rintro⟨h1,_⟩;omega
  have hcap: ¬ Builtin.nextslicecap (xs.length+ys.length) c*inf.bytes>281474976710656:=by
   have:=growslice_fits (bytes:=t.Od) hlt hbig
   rw[Te];omega
  have Wz:∀ w,(typeInfo e).run P w=.ok inf w:=fun w=>by simp[typeInfo,Oh]
  obtain⟨nc,WD,XS⟩:∃ nc,xs.length+ys.length<=nc/\(choose (.appendCap (xs.length+ys.length) c e)).run P w=.ok nc { w with drawn:=w.drawn+1 }:=by
   exact⟨(Question.appendCap (xs.length+ys.length) c e).cut (w.tape w.drawn (Question.appendCap (xs.length+ys.length) c e)),by simp only[Question.cut];exact Nat.le_add_right _ _,by rw[run_choose,if_neg (by simp[Question.forced])]⟩
  obtain⟨w1,Qk⟩:∃ w1:World,w1={ w with drawn:=w.drawn+1 }:=⟨_,rfl⟩
  rw[<- Qk]at XS
  have K0:w1.heap=w.heap:=by rw[Qk]
  have Pj:∀ ad,w1.cell? ad=w.cell? ad:=fun ad=>by rw[Qk];rfl
  have XQ:=Qo w1 Pj
  have Q4:=Px w1 Pj
  have YQ:=fun w=>sH (w:=w) Oh hzero
  obtain⟨cells,hcells⟩:∃ cells:Array Value,cells=flat.toArray++D2.toArray++Builtin.zeroCells z.cells (nc-(xs.length+ys.length)):=⟨_,rfl⟩
  have Zp:flat.length=xs.length*t.sz:=by
   by_cases hc:c=0
   obtain⟨rfl,_,_,rfl⟩:=SK hc;simp
   exact(G3 Zaa).2.2.2.2
  have TX:cells.size=nc*t.sz:=by
   rw[hcells]
   simp only[Array.size_append,List.size_toArray,Builtin.zeroCells,Array.size_map,Array.size_range,YR,Zp,hl2]
   rw[<- Nat.add_mul,<- Nat.add_mul];congr 1;omega
  have Zy:s9 N Pb Kb A a w1 F:=hs.grow (fun k _=>by rw[K0]) (by rw[K0];exact Zba _) (fun _ h=>h) (fun g h=>.inl h) hs.sub
  have T6:∀ k,k∈F'->k∈Fx:=fun k hk=>by
   by_cases hc:c=0
   rw[(SK hc).2.2.1]at hk;simp at hk
   rw[(G3 Zaa).2.2.2.1];simp[hk]
  have hFn:(F'++Fy).Nodup:=by
   by_cases hc:c=0
   rw[(SK hc).2.2.1];exact(List.nodup_append.1 hnd).2.1
   have:=hnd;rw[(G3 Zaa).2.2.2.1]at this;exact(List.nodup_cons.1 this).2
  have We:aM t.sz xs:=by
   by_cases hc:c=0
   rw[(SK hc).1];intro v hv;simp at hv
   exact(G3 Zaa).2.1
  have hold:∀ k,k<w.heap.size->(w1.alloc (.cells cells e)).heap[k]? =w.heap[k]? :=fun k hk=>by
   rw[alloc_old w1 _ k (by rw[K0];exact hk),K0]
  have SQ:(w1.alloc (.cells cells e)).heap.size=w.heap.size+1:=by rw[ef,K0]
  have Qn:w.heap.size=w1.heap.size:=by rw[K0]
  have SV:=fg (w':=w1.alloc (.cells cells e)) (Pb':=Pb) xs hr (fun k hk=>hold k (hs.bound k (hs.sub k hk))) (fun k hk=>hold k (hfr k (T6 k hk)).2) (fun _ h=>h) (fun k hk cc=>(hfr k (T6 k hk)).1 (hs.sub k cc))
  have SU:=fg (w':=w1.alloc (.cells cells e)) (Pb':=Pb) ys M0 (fun k hk=>hold k (hs.bound k (hs.sub k hk))) (fun k hk=>hold k (Xn k hk).2) (fun _ h=>h) (fun k hk cc=>(Xn k hk).1 (hs.sub k cc))
  have Wf:∀ k,k∈F'++Fy->(¬ Kb k/\k<w.heap.size)/\∀ r,k ∉ F r:=fun k hk=>by
   rcases Zav.1 hk with h | h
   exact⟨hfr k (T6 k h),fun r=>x6 r k (T6 k h)⟩
   exact⟨Xn k h,fun r=>Z7 r k h⟩
  have Q9: ¬ Kb w.heap.size:=fun cc=>by have:=hs.bound _ cc;omega
  refine⟨.slice (some ⟨w.heap.size,0,none⟩) (xs.length+ys.length) nc,w1.alloc (.cells cells e),w.heap.size::(F'++Fy),w.heap.size,0,nc,?_,Zy.pK _,.inr ⟨Zaa,hsz,by simpa using WD,Zab,?_,fun cc=>Q9 (hs.sub _ cc),flat++D2,F'++Fy,cells,rfl,
   ke xs ys SV SU,⟨e,(0,0),by rw[Qn];exact ij w1 _,fun i _ h=>by omega⟩,by rw[TX];omega,fun j u hu=>?_⟩,?_,?_,?_,⟨?_,?_,?_,by rw[SQ];omega,fun k hk=>hold k (hs.bound k hk),Shp.of_eq hold⟩⟩
  simp only[Sem.run_ite,Zay,Wz,Zaq,if_neg TT,if_neg hcap,Zaz,XS,XQ,Q4,Bool.not_false,if_true,run_askRoom,YQ,kG]
  rw[hcells,Qn]
  intro v hv
  rcases Zav.1 hv with h | h
  exact We v h
  exact hN v h
  rw[hcells,Zau]
  have hj:=(Za1.1 hu).1
  rw[Array.getElem?_append_left (by simpa using hj)]
  simpa using hu
  refine List.nodup_cons.2 ⟨fun cc=>?_,hFn⟩
  have:=(Wf _ cc).1.2;omega
  intro r k hk cc
  rcases List.mem_cons.1 hk with rfl | h
  have:=(hs.free r _ cc).2;omega
  exact(Wf k h).2 r cc
  intro k hk
  rw[SQ]
  rcases List.mem_cons.1 hk with rfl | h
  exact⟨Q9,Zaa⟩
  have:=(Wf k h).1;exact⟨this.1,Zaa⟩
  rw[Qk];rfl
  rw[Qk];rfl
  rw[Qk];rfl
theorem BP{T T2 e e2:Nat} {t:TI} (hT:tD P T=some (.sl e)) (T4:tD P T2=some (.sl e2)) (ht:ti P e=some t) (hz:∃ inf z,P.info? e=some inf/\inf.zero=some z/\z.cells.size=t.sz) (hsz:0<t.sz) (Tu:0<t.Od)
 (hs:s9 N Pb Kb A a w F) {xs ys:List V} {s x:Value} {B2:Option Addr} {c2:Nat} {D2:List Value} (K4:R w Pb (.sl true xs) [s] []) (We:aM t.sz xs) (u0:0<ys.length)
 (E':x=.slice B2 ys.length c2) (M0:RL w Pb ys D2 []) (Px:∀ w1:World,(∀ ad,w1.cell? ad=w.cell? ad)->(Builtin.firstCells t.sz ys.length x).run P w1=.ok D2.toArray w1) (hl2:D2.length=ys.length*t.sz) (hN:aM t.sz ys) (hbig:(xs.length+ys.length)*t.Od<=140737488355328):
 ∃ v w' F2 g' o' c',(Builtin.append_ #[T,T2] T #[s,x]).run P w=.ok v w'/\s9 N Pb Kb A a w' F/\R w' Pb (.own t.sz (xs++ys) g' o' c') [v] F2/\F2.Nodup/\(∀ r g,g∈F2->g ∉ F r)/\(∀ g,g∈F2->¬ Kb g/\g<w'.heap.size)/\A4 Kb w w':=by
 have hu:=jU hT
 have PS:=jU T4
 obtain⟨inf,z,Oh,hzero,YR⟩:=hz
 obtain⟨TG,_,I8,_,SR,Te,_⟩:=kP ht
 rw[Oh]at I8
 obtain rfl:=Option.some.inj I8
 obtain⟨B,c,flat,rfl,hr,Qo,Zp⟩:=Az (P:=P) K4 We
 have hcx:c=xs.length:=by
  obtain⟨_,A0,c0,h1,_,h2,_⟩:=K4
  have h1:=(List.cons.inj h1).1
  simp only[Value.slice.injEq]at h1
  rw[h1.2.2];exact h2 rfl
 subst E'
 have Q0:(Builtin.lenOf (.slice B2 ys.length c2)).run P w=.ok ys.length w:=rfl
 have XH:xs.length+ys.length<=140737488355328:=Nat.le_trans (Nat.le_mul_of_pos_right _ Tu) hbig
 unfold Builtin.append_
 simp only[List.getElem?_toArray,List.getElem?_cons_zero,List.getElem?_cons_succ,Zay,aQ hu,Zaq]
 simp only[dq ht,Zaq]
 simp only[aQ PS,Zaq,Zaz]
 rw[if_neg (show ¬ (false=true) by decide)]
 rw[Zay,Q0]
 simp only[Zaq]
 have QY: ¬ (xs.length+ys.length<=c):=Zaa
 rw[if_neg QY]
 have hlt:c<xs.length+ys.length:=Zaa
 have Zj:IntKind.i64.max=9223372036854775807:=Zad
 have TT: ¬ (((xs.length+ys.length:Nat):Int)>IntKind.i64.max/\((false=true)\/inf.bytes=0)):=by
  rw[Zj];rintro⟨h1,_⟩;omega
 have hcap: ¬ Builtin.nextslicecap (xs.length+ys.length) c*inf.bytes>281474976710656:=by
  have:=growslice_fits (bytes:=t.Od) hlt hbig
  rw[Te];omega
 have Wz:∀ w,(typeInfo e).run P w=.ok inf w:=fun w=>by simp[typeInfo,Oh]
 obtain⟨nc,WD,XS⟩:∃ nc,xs.length+ys.length<=nc/\(choose (.appendCap (xs.length+ys.length) c e)).run P w=.ok nc { w with drawn:=w.drawn+1 }:=by
  exact⟨(Question.appendCap (xs.length+ys.length) c e).cut (w.tape w.drawn (Question.appendCap (xs.length+ys.length) c e)),by simp only[Question.cut];exact Nat.le_add_right _ _,by rw[run_choose,if_neg (by simp[Question.forced])]⟩
 obtain⟨w1,Qk⟩:∃ w1:World,w1={ w with drawn:=w.drawn+1 }:=⟨_,rfl⟩
 rw[<- Qk]at XS
 have K0:w1.heap=w.heap:=by rw[Qk]
 have Pj:∀ ad,w1.cell? ad=w.cell? ad:=fun ad=>by rw[Qk];rfl
 have XQ:=Qo w1 Pj
 have Q4:=Px w1 Pj
 have YQ:=fun w=>sH (w:=w) Oh hzero
 obtain⟨cells,hcells⟩:∃ cells:Array Value,cells=flat.toArray++D2.toArray++Builtin.zeroCells z.cells (nc-(xs.length+ys.length)):=⟨_,rfl⟩
 have TX:cells.size=nc*t.sz:=by
  rw[hcells]
  simp only[Array.size_append,List.size_toArray,Builtin.zeroCells,Array.size_map,Array.size_range,YR,Zp,hl2]
  rw[<- Nat.add_mul,<- Nat.add_mul];congr 1;omega
 have Zy:s9 N Pb Kb A a w1 F:=hs.grow (fun k _=>by rw[K0]) (by rw[K0];exact Zba _) (fun _ h=>h) (fun g h=>.inl h) hs.sub
 have hold:∀ k,k<w.heap.size->(w1.alloc (.cells cells e)).heap[k]? =w.heap[k]? :=fun k hk=>by
  rw[alloc_old w1 _ k (by rw[K0];exact hk),K0]
 have SQ:(w1.alloc (.cells cells e)).heap.size=w.heap.size+1:=by rw[ef,K0]
 have Qn:w.heap.size=w1.heap.size:=by rw[K0]
 have SV:=fg (w':=w1.alloc (.cells cells e)) (Pb':=Pb) xs hr (fun k hk=>hold k (hs.bound k (hs.sub k hk))) Zab (fun _ h=>h) Zab
 have SU:=fg (w':=w1.alloc (.cells cells e)) (Pb':=Pb) ys M0 (fun k hk=>hold k (hs.bound k (hs.sub k hk))) Zab (fun _ h=>h) Zab
 have Q9: ¬ Kb w.heap.size:=fun cc=>by have:=hs.bound _ cc;omega
 refine⟨.slice (some ⟨w.heap.size,0,none⟩) (xs.length+ys.length) nc,w1.alloc (.cells cells e),[w.heap.size],w.heap.size,0,nc,?_,Zy.pK _,.inr ⟨Zaa,hsz,by simpa using WD,Zab,?_,fun cc=>Q9 (hs.sub _ cc),flat++D2,[],cells,rfl,
  ke xs ys SV SU,⟨e,(0,0),by rw[Qn];exact ij w1 _,fun i _ h=>by omega⟩,by rw[TX];omega,fun j u hu=>?_⟩,?_,?_,?_,⟨?_,?_,?_,by rw[SQ];omega,fun k hk=>hold k (hs.bound k hk),Shp.of_eq hold⟩⟩
 simp only[Sem.run_ite,Zay,Wz,Zaq,if_neg TT,if_neg hcap,Zaz,XS,XQ,Q4,Bool.not_false,if_true,run_askRoom,YQ,kG]
 rw[hcells,Qn]
 intro v hv
 rcases Zav.1 hv with h | h
 exact We v h
 exact hN v h
 rw[hcells,Zau]
 have hj:=(Za1.1 hu).1
 rw[Array.getElem?_append_left (by simpa using hj)]
 simpa using hu
 simp
 intro r k hk cc
 obtain rfl:=Zat.1 hk
 have:=(hs.free r _ cc).2;omega
 intro k hk
 rw[SQ]
 obtain rfl:=Zat.1 hk
 exact⟨Q9,Zaa⟩
 rw[Qk];rfl
 rw[Qk];rfl
 rw[Qk];rfl
def mf(lo n:Nat)(sz g o:Nat):V->Option (Prop×List V)
 | .own OS xs g2 o2 _=>some ((sz=OS/\g=g2/\o=o2)/\lo+n<=xs.length/\V.aK xs=false/\aM OS xs,(xs.drop lo).take n)
 | _=>none
def Qg(A:AS)(x:Operand):Option (Prop×List V):=
 match A.ev x with
 | .sl _ xs=>some (True,xs)
 | .own _ xs _ _ _=>some (True,xs)
 | .hd r p sz g o lo n _=>match r,p with
   | .slot i,[]=>mf lo n sz g o (A.get i)
   | .key k,p=>match A.at (.key k) p with
     | some (_,_,u)=>mf lo n sz g o u
     | none=>none
   | _,_=>none
 | _=>none
theorem rZ:∀ (xs:List V) (k:Nat),V.aK xs=false->V.aK (xs.drop k)=false
 | xs,0,h=>h
 | [],k+1,h=>by simpa using h
 | v::vs,k+1,h=>by
   simp only[V.aK,Bool.or_eq_false_iff]at h
   exact rZ vs k h.2
theorem Ii{Fo:List Nat}{OS g2 o2 c2 lo n c:Nat}{xs:List V}{Ua:List Value}(hr:R w Pb (.own OS xs g2 o2 c2) Ua Fo)(hle:n<=c){B:Option Addr}(hB:0<c->B=some ⟨g2,o2+lo*OS,none⟩)(hn:lo+n<=xs.length)(ho:V.aK xs=false){s:Nat}(hs:aM s ((xs.drop lo).take n)):
 ∃ (flat:List Value),RL w Pb ((xs.drop lo).take n) flat []/\(∀ w1:World,(∀ ad,w1.cell? ad=w.cell? ad)->(Builtin.firstCells s n (.slice B n c)).run P w1=.ok flat.toArray w1)/\flat.length=n*s:=by
 by_cases Zi:n=0
 subst Zi
 refine⟨[],by simp[RL],fun w1 _=>?_,Zab⟩
 cases B with
 | none=>rfl
 | some ad=>simp only[Builtin.firstCells,Nat.zero_mul];rfl
 rcases hr with ⟨_,rfl,_⟩ | ⟨h1,h2,h3,hx,hN,_,flat,F',cells,_,hr,hb,hsz,hc⟩
 simp at hn;omega
 have hF:=ia xs ho hr
 subst hF
 have M7:s=OS:=by
  have hne:(xs.drop lo).take n≠[]:=by
   intro e
   have:=Zbk List.length e
   simp at this;omega
  obtain⟨v,hv⟩:=List.exists_mem_of_ne_nil _ hne
  rw[<- hs v hv,<- hN v (List.mem_of_mem_drop (List.mem_of_mem_take hv))]
 subst M7
 obtain⟨c1,Rs,Pj⟩:=qK xs lo hr
 obtain⟨c3,WC,XT⟩:=qO _ n Rs
 have hl:c3.length=n*s:=by
  rw[kq _ WC,qE _ (fun x hx=>hN x (List.mem_of_mem_drop (List.mem_of_mem_take hx)))]
  have:((xs.drop lo).take n).length=n:=Zaj
  rw[this]
 refine⟨c3,WC,fun w1 Qk=>?_,hl⟩
 have ZM:=hB Zaa
 subst ZM
 simp only[Builtin.firstCells]
 rw[<- hl]
 refine run_loadCells_list w1 _ c3 (fun j v hv=>?_)
 rw[eO,Qk,eX hb]
 have:=Pj j v (XT j v hv)
 rw[eT xs lo hN Zaa]at this
 have:=hc _ _ this
 simpa[Zbh] using this
theorem oZ(hs:s9 N Pb Kb A a w F){x:Operand}{C:Prop}{ys:List V}(h:Qg A x=some (C,ys))(hC:C){s:Nat}(G8:aM s ys)(ho:V.aK ys=false):
 ∃ (B:Option Addr) (c:Nat) (flat:List Value),a.eval x=.slice B ys.length c/\RL w Pb ys flat []/\
   (∀ w1:World,(∀ ad,w1.cell? ad=w.cell? ad)->(Builtin.firstCells s ys.length (a.eval x)).run P w1=.ok flat.toArray w1)/\flat.length=ys.length*s:=by
 obtain⟨Fx,hr⟩:=eE hs x
 unfold Qg at h
 split at h
 rename_i full xs e
 simp only[Zal,Zao]at h
 obtain⟨_,rfl⟩:=h
 rw[e]at hr
 have hr:R w Pb (.sl full xs) [a.eval x] Fx:=hr
 have hF:Fx=[]:=hr.1
 subst hF
 obtain⟨B,c,flat,h1,h2,h3,h4⟩:=Az (P:=P) hr G8
 exact⟨B,c,flat,h1,h2,h3,h4⟩
 rename_i sz xs g o c e
 simp only[Zal,Zao]at h
 obtain⟨_,rfl⟩:=h
 rw[e]at hr
 have hr:R w Pb (.own sz xs g o c) [a.eval x] Fx:=hr
 have VW:=hr
 obtain⟨B,flat,F',h1,h2,h3,h4,h5,h6⟩:=zq (P:=P) hr
 have hF:=ia xs ho h2
 subst hF
 by_cases hc:0<c
 obtain⟨_,RO,_,_,hl⟩:=h4 hc
 by_cases he:xs=[]
 subst he
 exact⟨B,c,flat,h1,h2,fun w1 Qk=>by
  have:=h3 w1 Qk
  simpa[Builtin.firstCells,h1] using this,by simpa using hl⟩
 obtain⟨v,vs,rfl⟩:=List.exists_cons_of_ne_nil he
 have M7:s=sz:=by rw[<- G8 v Zab,<- RO v Zab]
 subst M7
 exact⟨B,c,flat,h1,h2,h3,hl⟩
 obtain⟨rfl,_,_,rfl⟩:=h5 Zaa
 exact⟨B,c,[],h1,h2,fun w1 Qk=>by
  have:=h3 w1 Qk
  simpa[Builtin.firstCells,h1] using this,Zab⟩
 rename_i r p sz g o lo n c e
 rw[e]at hr
 obtain⟨_,hle,B,hv,hB⟩:=hr
 have hv:a.eval x=.slice B n c:=(List.cons.inj hv).1
 have key:∀ u Fo Ua,R w Pb u Ua Fo->mf lo n sz g o u=some (C,ys)->∃ (B:Option Addr) (c:Nat) (flat:List Value),a.eval x=.slice B ys.length c/\RL w Pb ys flat []/\
  (∀ w1:World,(∀ ad,w1.cell? ad=w.cell? ad)->(Builtin.firstCells s ys.length (a.eval x)).run P w1=.ok flat.toArray w1)/\flat.length=ys.length*s:=by
  intro u Fo Ua Of hu
  unfold mf at hu
  split at hu
  rename_i OS xs g2 o2 c2
  simp only[Zal,Zao]at hu
  obtain⟨rfl,rfl⟩:=hu
  obtain⟨⟨rfl,rfl,rfl⟩,Zo,UY,_⟩:=hC
  obtain⟨flat,k1,k2,k3⟩:=Ii (P:=P) Of hle hB Zo UY G8
  have hlen:((xs.drop lo).take n).length=n:=Zaj
  rw[hlen]
  exact⟨B,c,flat,hv,k1,by rw[hv];exact k2,k3⟩
  simp at hu
 split at h
 rename_i i
 have OX:=hs.slot i
 unfold mf at h
 split at h
 rename_i OS xs g2 o2 c2 hg
 rw[hg]at OX
 exact key (.own OS xs g2 o2 c2) _ _ OX (by unfold mf;exact h)
 simp at h
 rename_i k p'
 split at h
 rename_i a0 b0 u B0
 obtain⟨F',cs,cells,hb,Of,s8⟩:=kF hs B0
 exact key u F' cs Of h
 simp at h
 simp at h
 simp at h
theorem rF{t:Nat}{sz:Nat}{xs:List V}{g o c:Nat}(h:A.get t=.own sz xs g o c):A.drop (.tmp t)=A.put (some t) .b9:=by simp[AS.drop,h,V.dz]
end
def D'(A B:AS):Prop:=(∀ i,A.get i=B.get i)/\∀ k,lk k A.h=lk k B.h
theorem D'.le{A B:AS}(h:D' A B):A.le B:=⟨fun i=>.inr (h.1 i),fun k=>.inr (h.2 k)⟩
theorem D'.symm{A B:AS}(h:D' A B):D' B A:=⟨fun i=>(h.1 i).symm,fun k=>(h.2 k).symm⟩
theorem D'.trans{A B C:AS}(h:D' A B)(k:D' B C):D' A C:=⟨fun i=>(h.1 i).trans (k.1 i),fun i=>(h.2 i).trans (k.2 i)⟩
def Th(o:Oper):List Nat:=(o.after.toList.filter (Region.binds .any)).map (·.on)
section
variable {P:Program} {N:Nat} {ops:Array Oper}
theorem EN{α:Type}(t:Nat):∀ (l1 l2:List (Nat×α)),lk t (l1++l2)=match lk t l1 with | some v=>some v | none=>lk t l2
 | [],l2=>rfl
 | (k,v)::l1,l2=>by
   simp only[List.cons_append,lk]
   by_cases h:t=k
   rw[if_pos h,if_pos h]
   rw[if_neg h,if_neg h];exact EN t l1 l2
def wt(ops:Array Oper)(t k:Nat):Bool:=(ops[k]?).bind (·.dst)==some t
def Tq(listed:Array Bool)(n:Nat):Nat:=((List.range n).filter fun i=>!listed.getD i true).length
theorem IJ{listed:Array Bool}{n:Nat}(h:Tq listed n=0):∀ j,j<n->listed.getD j true=true:=by
 intro j hj
 unfold Tq at h
 have:=Za3 h
 rw[List.filter_eq_nil_iff]at this
 simpa using this j (by simpa using hj)
theorem Kk{listed:Array Bool}{n i:Nat}(hi:i<n)(hs:listed.size=n)(hu:listed.getD i true=false):Tq (listed.setIfInBounds i true) n+1=Tq listed n:=by
 unfold Tq
 have h:∀ m,m<=n->((List.range m).filter fun j=>!(listed.setIfInBounds i true).getD j true).length+(if i<m then 1 else 0)=((List.range m).filter fun j=>!listed.getD j true).length:=by
  intro m
  induction m with
  | zero=>simp
  | succ m ih=>
    intro hm
    have ih:=ih Zaa
    rw[List.range_succ,List.filter_append,List.filter_append,Zan,Zan]
    by_cases he:m=i
    subst he
    have e1:(listed.setIfInBounds m true).getD m true=true:=by simp[Array.getD]
    rw[if_neg Zaa]at ih
    rw[List.filter_cons_of_neg (by rw[e1];decide),List.filter_cons_of_pos (by rw[hu];rfl),if_pos Zaa]
    simp only[List.filter_nil,Zap,Zas];omega
    have e1:(listed.setIfInBounds i true).getD m true=listed.getD m true:=getD_set_ne true (Ne.symm he)
    have e2:([m].filter fun j=>!(listed.setIfInBounds i true).getD j true).length=([m].filter fun j=>!listed.getD j true).length:=by
     cases hb:listed.getD m true with
     | true=>rw[List.filter_cons_of_neg (by rw[e1,hb];decide),List.filter_cons_of_neg (by rw[hb];decide)];rfl
     | false=>rw[List.filter_cons_of_pos (by rw[e1,hb];rfl),List.filter_cons_of_pos (by rw[hb];rfl)];rfl
    rw[e2]
    by_cases hlt:i<m
    rw[if_pos hlt]at ih;rw[if_pos Zaa];omega
    rw[if_neg hlt]at ih;rw[if_neg Zaa];omega
 have:=h n (Zba _)
 rw[if_pos hi]at this
 exact this
end
def Nf(P:Program)(N:Nat)(ops:Array Oper)(El:List Nat)(U:Nat×Nat×Nat->AS->AS)(o:Oper)(A:AS):Prop:=
 ∀ A':AS,(∀ t,t∈o.looksAt ops\/t∈El->A'.get t=A.get t)->(∀ k,lk k A'.h=lk k A.h)->∀ K:AS->Prop,(∀ gh,K (U gh A'))->F9 P N o A' K
def jT(ops:Array Oper):Nat->Nat->Nat->Bool
 | 0,_,_=>false
 | n+1,j,i=>match ops[j]? with
   | some o=>(Th o).any fun k=>k==i||jT ops n k i
   | none=>false
theorem mz{ops:Array Oper}{L:Nat->Bool}(hcl:∀ k o,ops[k]? =some o->L k=true->∀ j,j∈Th o->L j=true):∀ (n j i:Nat),jT ops n j i=true->L j=true->L i=true
 | 0,_,_,h,_=>by simp[jT]at h
 | n+1,j,i,h,hj=>by
   simp only[jT]at h
   split at h
   rename_i o ho
   rw[List.any_eq_true]at h
   obtain⟨k,hk,h⟩:=h
   have C3:=hcl j o ho hj k hk
   rw[Bool.or_eq_true,Zbj]at h
   rcases h with rfl | h
   exact C3
   exact mz hcl n k i h C3
   simp at h
structure UOk (U:Nat×Nat×Nat->AS->AS) (Sl Hl:List Nat) (d:Nat):Prop where
 g:∀ gh B t,t ∉ Sl->(U gh B).get t=B.get t
 h:∀ gh B k,k ∉ Hl->lk k (U gh B).h=lk k B.h
 c:∀ gh B B',D' B B'->D' (U gh B) (U gh B')
 p:∀ gh B t v,t ∉ Sl->D' (U gh (B.put (some t) v)) ((U gh B).put (some t) v)
 d:∀ gh B v,D' (U gh (B.put (some d) v)) (U gh B)
 q:∀ gh B k gv,k ∉ Hl->D' (U gh ⟨B.t,(k,gv)::B.h⟩) ⟨(U gh B).t,(k,gv)::(U gh B).h⟩
section
variable {P:Program} {N:Nat} {ops:Array Oper}
end
structure Ry where
 XZ:Bool
 El:List Nat
 fr:Option (List Nat)
 Sl:List Nat
 Hl:List Nat
structure ZT (P:Program) where
 T:Nat
 v:V
 ok:pq P T v
def Qu(d:Nat)(v:V)(g:Nat)(B:AS):AS:=⟨(d,.ptr (.key d) [] g 0)::B.t,(d,(g,v))::B.h⟩
def bM(ops:Array Oper)(tb:List (Nat×Ry))(i:Nat):Ry:=match lk i tb with
 | some e=>e
 | none=>match ops[i]? with
   | some o=>⟨false,[],(match o.op with | .load _ _=>none | _=>some []),o.dst.toList,[]⟩
   | none=>⟨false,[],none,[],[]⟩
def gZ(ops:Array Oper)(tb:List (Nat×Ry))(i:Nat):List Nat:=(match ops[i]? with | some o=>o.looksAt ops | none=>[])++(bM ops tb i).El
def W5(A' A:AS)(fs:List Nat):Prop:= ∀ t,t∈fs->A'.get t=A.get t
def hM:Nat:=1000000
def Ov(h:List (Nat×(Nat×V)))(q:Nat):Option (Nat×Nat×V×Nat):=match lk (q / 100) h with
 | some (g,v)=>match V.at g 0 v [q % 100] with
   | some (g',o',.own sz xs g1 o1 c)=>some (g',o',.own sz [] g1 o1 c,xs.length)
   | _=>none
 | none=>none
theorem Bb{h h':List (Nat×(Nat×V))}{q:Nat}(e:lk (q / 100) h'=lk (q / 100) h):Ov h' q=Ov h q:=by unfold Ov;rw[e]
def RR(A' A:AS)(k:Nat):Prop:=if Nat.blt k hM=true then lk k A'.h=lk k A.h else Ov A'.h (k-hM)=Ov A.h (k-hM)
theorem xo{A' A:AS}(h:∀ k,lk k A'.h=lk k A.h)(k:Nat):RR A' A k:=by
 unfold RR
 split
 exact h k
 exact Bb (h _)
theorem RR.trans{A B C:AS}{k:Nat}(h1:RR A B k)(h2:RR B C k):RR A C k:=by
 unfold RR at *
 split
 rename_i c;rw[if_pos c]at h1 h2;exact Eq.trans h1 h2
 rename_i c;rw[if_neg c]at h1 h2;exact Eq.trans h1 h2
def Ud(A' A:AS):Option (List Nat)->Prop
 | none=> ∀ k,lk k A'.h=lk k A.h
 | some fr=> ∀ k,k∈fr->RR A' A k
def Uf(P:Program)(N:Nat)(ops:Array Oper)(o:Oper)(A:AS)(v:V)(fs:List Nat)(fr:Option (List Nat)):Prop:=
 ∀ A':AS,W5 A' A fs->Ud A' A fr->gd ops o A' (F9 P N o A' (fun B=>D' B (A'.put o.dst v))) (cZ N o.dst/\∀ w Pb,RV w Pb v undef [])
def W6(P:Program)(N:Nat)(o:Oper)(A:AS){G:Type}(U:G->AS->AS)(fs:List Nat)(fr:Option (List Nat)):Prop:=
 o.guard=none/\∀ A':AS,W5 A' A fs->Ud A' A fr->F9 P N o A' (fun B=> ∃ g,D' B (U g A'))
structure Tk {G:Type} (U:G->AS->AS) (fs Sl Hl:List Nat):Prop where
 g:∀ g B t,t ∉ Sl->(U g B).get t=B.get t
 h:∀ g B k,k ∉ Hl->lk k (U g B).h=lk k B.h
 c:∀ g B B',D' B B'->D' (U g B) (U g B')
 p:∀ g B t v,t ∉ Sl->t ∉ fs->D' (U g (B.put (some t) v)) ((U g B).put (some t) v)
 q:∀ g B k gv,k ∉ Hl->D' (U g ⟨B.t,(k,gv)::B.h⟩) ⟨(U g B).t,(k,gv)::(U g B).h⟩
structure Wj {G:Type} (U:G->AS->AS) (fs Sl Hl:List Nat):Prop extends Tk U fs Sl Hl where
 s:∀ q,hM+q∈Hl->∀ g B,Ov (U g B).h q=Ov B.h q
def OQ(P:Program)(N:Nat)(ops:Array Oper)(tb:List (Nat×Ry))(zs:List (Nat×ZT P)):List Nat->AS->(AS->Prop)->Prop
 | [],A,K=>K A
 | i::l,A,K=> ∃ o,ops[i]? =some o/\match lk i zs with
  | some z=> ∀ g,OQ P N ops tb zs l (Qu (o.dst.getD 0) z.v g A) K
  | none=>match (bM ops tb i).XZ with
   | false=>(bM ops tb i).Sl=o.dst.toList/\(bM ops tb i).Hl=[]/\∃ v,Uf P N ops o A v (gZ ops tb i) (bM ops tb i).fr/\OQ P N ops tb zs l (A.put o.dst v) K
   | true=> ∃ (G:Type) (U:G->AS->AS),W6 P N o A U (gZ ops tb i) (bM ops tb i).fr/\Wj U (gZ ops tb i) (bM ops tb i).Sl (bM ops tb i).Hl/\∀ g,OQ P N ops tb zs l (U g A) K
def cL(a b:List Nat):Bool:=a.all fun x=>!b.contains x
def Dq(a:List Nat):Option (List Nat)->Bool
 | none=>a.isEmpty
 | some b=>b.all fun x=>if Nat.blt x hM=true then !a.contains x else !a.contains ((x-hM) / 100)||a.contains x
def indep(ops:Array Oper)(tb:List (Nat×Ry)){P:Program}(zs:List (Nat×ZT P))(p i:Nat):Bool:=
 (lk i zs).isNone&&!(bM ops tb p).XZ&&cL (bM ops tb p).Sl (gZ ops tb i)&&cL (bM ops tb i).Sl (gZ ops tb p)&&cL (bM ops tb p).Sl (bM ops tb i).Sl&&Dq (bM ops tb i).Hl (bM ops tb p).fr
def qT(ops:Array Oper)(tb:List (Nat×Ry)){P:Program}(zs:List (Nat×ZT P))(p i:Nat):Bool:=
 match lk i zs,ops[i]? with
 | some _,some o=>match lk p zs,ops[p]? with
   | some _,some o'=>o'.dst.getD 0 != o.dst.getD 0
   | none,_=>!(bM ops tb p).Sl.contains (o.dst.getD 0)&&!(gZ ops tb p).contains (o.dst.getD 0)&&!(bM ops tb p).Hl.contains (o.dst.getD 0)&&(match (bM ops tb p).fr with | some l=>l.all (fun x=>if Nat.blt x hM=true then x != o.dst.getD 0 else (x-hM) / 100 != o.dst.getD 0) | none=>false)
   | _,none=>false
 | _,_=>false
def rr(ops:Array Oper)(m:Nat)(tb:List (Nat×Ry)){P:Program}(zs:List (Nat×ZT P)):List Nat->Bool
 | []=>true
 | p::l=>(l.all fun i=>(match lk p zs with | none=>indep ops tb zs p i | some _=>false)||jT ops 64 i p||qT ops tb zs p i)&&rr ops m tb zs l
def Ea(N:Nat)(ops:Array Oper){P:Program}(zs:List (Nat×ZT P)):Bool:=zs.all fun x=>match ops[x.1]? with
 | some o=>(match o.op,o.dst with | .alloc T,some d=>T==x.2.T&&Nat.blt d N | _,_=>false)&&o.guard.isNone
 | none=>false
def OU(l:List Nat):Bool:=match l with
 | []=>true
 | k::r=>!r.contains k&&OU r
def Di(ops:Array Oper)(m:Nat)(pl:List Nat):Bool:=
 (pl.all fun i=>Nat.blt i m)&&OU pl&&((List.range m).all fun i=>pl.contains i)&&Nat.ble m ops.size&&
 (ops.toList.zipIdx.all fun (o,i)=>(Th o).all (fun k=>Nat.blt k i))&&
 ((List.range (ops.size-m)).all fun q=>match ops[m+q]? with
   | some _=>(List.range (m+q)).all fun k=>jT ops 64 (m+q) k
   | none=>false)
section
variable {P:Program} {N:Nat} {ops:Array Oper} {tb:List (Nat×Ry)} {zs:List (Nat×ZT P)}
theorem yg{a b:List Nat}(h:cL a b=true):∀ x,x∈a->x ∉ b:=fun x hx=>by
 unfold cL at h
 rw[Za0]at h
 simpa using h x hx
theorem D'.lD{A:AS}:D' A A:=⟨fun _=>rfl,fun _=>rfl⟩
theorem Lr{A B:AS}{d:Option Nat}{v:V}(h:D' A B):D' (A.put d v) (B.put d v):=by
 cases d with
 | none=>exact h
 | some d'=>exact⟨fun t=>by rw[AS.aJ,AS.aJ];split
                            rfl
                            exact h.1 t,h.2⟩
theorem Uf.congr{o:Oper}{A B:AS}{v:V}{fs:List Nat}{fr:Option (List Nat)}(h:Uf P N ops o A v fs fr)(h1:W5 B A fs)(h2:Ud B A fr):Uf P N ops o B v fs fr:=fun A' k1 k2=>
 h A' (fun t ht=>(k1 t ht).trans (h1 t ht)) (by
   cases fr with
   | none=>exact fun k=>(k2 k).trans (h2 k)
   | some l=>exact fun k hk=>(k2 k hk).trans (h2 k hk))
theorem W6.congr{G:Type}{U:G->AS->AS}{o:Oper}{A B:AS}{fs:List Nat}{fr:Option (List Nat)}(h:W6 P N o A U fs fr)(h1:W5 B A fs)(h2:Ud B A fr):W6 P N o B U fs fr:=⟨h.1,fun A' k1 k2=>
 h.2 A' (fun t ht=>(k1 t ht).trans (h1 t ht)) (by
  cases fr with
  | none=>exact fun k=>(k2 k).trans (h2 k)
  | some l=>exact fun k hk=>(k2 k hk).trans (h2 k hk))⟩
theorem wS{A B:AS}(h:A.h=B.h)(fr:Option (List Nat)):Ud A B fr:=by
 cases fr with
 | none=>exact fun k=>by rw[h]
 | some l=>exact fun k _=>xo (fun k=>by rw[h]) k
theorem FF{A B:AS}(h:D' A B)(fr:Option (List Nat)):Ud A B fr:=by
 cases fr with
 | none=>exact h.2
 | some l=>exact fun k _=>xo h.2 k
theorem Kp{G:Type}{U:G->AS->AS}{fs Sl Hl fr:List Nat}(hU:Wj U fs Sl Hl)(hd:Dq Hl (some fr)=true){k:Nat}(hk:k∈fr)(g:G)(B:AS):RR (U g B) B k:=by
 have hx:=Za0.1 hd k hk
 unfold RR
 split
 rename_i c
 rw[if_pos c]at hx
 exact hU.h g B k (by simpa using hx)
 rename_i c
 rw[if_neg c,Bool.or_eq_true]at hx
 have WK:hM+(k-hM)=k:=by
  have: ¬ k<hM:=fun h=>c (by simpa[Nat.blt_eq] using h)
  omega
 rcases hx with hx | hx
 exact Bb (hU.h g B _ (by simpa using hx))
 exact hU.s _ (by rw[WK];simpa using hx) g B
theorem pM{A:AS}{d:Option Nat}{v:V}:(A.put d v).h=A.h:=by cases d <;> rfl
theorem lB{A:AS}{d:Option Nat}{v:V}{t:Nat}(h:t ∉ d.toList):(A.put d v).get t=A.get t:=by
 cases d with
 | none=>rfl
 | some d'=>rw[AS.aJ,if_neg (by simpa using h)]
theorem GG{d:Nat}{v:V}{g:Nat}{A B:AS}(h:D' A B):D' (Qu d v g A) (Qu d v g B):=
 ⟨fun t=>by simp only[Qu,AS.get,lk];split
            rfl
            exact h.1 t,fun k=>by simp only[Qu,lk];split
                                  rfl
                                  exact h.2 k⟩
theorem fB{K:AS->Prop}(hK:∀ A B,D' A B->K A->K B):∀ (l:List Nat) {A B:AS},D' A B->OQ P N ops tb zs l A K->OQ P N ops tb zs l B K
 | [],A,B,h,hA=>hK A B h hA
 | i::l,A,B,h,hA=>by
   obtain⟨o,ho,hA⟩:=hA
   refine⟨o,ho,?_⟩
   split at hA
   exact fun g=>fB hK l (GG h) (hA g)
   split at hA
   obtain⟨e1,e2,v,h1,h2⟩:=hA
   exact⟨e1,e2,v,h1.congr (fun t _=>(h.1 t).symm) (FF h.symm _),fB hK l (Lr h) h2⟩
   obtain⟨G,U,h1,h2,h3⟩:=hA
   exact⟨G,U,h1.congr (fun t _=>(h.1 t).symm) (FF h.symm _),h2,fun g=>fB hK l (h2.c g _ _ h) (h3 g)⟩
theorem Is{K:AS->Prop}(hK:∀ A B,D' A B->K A->K B){p i:Nat}{l:List Nat}{A:AS}(hp:lk p zs=none)(hi:indep ops tb zs p i=true)(h:OQ P N ops tb zs (p::i::l) A K):OQ P N ops tb zs (i::p::l) A K:=by
 unfold indep at hi
 simp only[Zam,Bool.not_eq_true']at hi
 obtain⟨⟨⟨⟨⟨hz,h1⟩,h2⟩,h3⟩,h4⟩,h5⟩:=hi
 have hz:lk i zs=none:=by simpa using hz
 have h2:=yg h2
 have h3:=yg h3
 have h4:=yg h4
 obtain⟨op,Og,h⟩:=h
 rw[hp]at h
 simp only at h
 rw[h1]at h
 obtain⟨e1,e2,v,k1,oi,hoi,h⟩:=h
 refine⟨oi,hoi,?_⟩
 rw[hz]at h ⊢
 simp only at h ⊢
 rw[e1]at h2 h4
 have g1:W5 A (A.put op.dst v) (gZ ops tb i):=fun t ht=>(lB (fun c=>h2 t c ht)).symm
 split at h
 rename_i he
 obtain⟨f1,f2,v',k2,k3⟩:=h
 rw[f1]at h3 h4
 refine⟨f1,f2,v',k2.congr g1 (wS pM.symm _),op,Og,?_⟩
 rw[hp]
 simp only
 rw[h1]
 refine⟨e1,e2,v,k1.congr (fun t ht=>lB (fun c=>h3 t c ht)) (wS pM _),?_⟩
 refine fB hK l ⟨fun t=>?_,fun k=>by rw[pM,pM,pM,pM]⟩ k3
 by_cases c1:t∈oi.dst.toList
 cases hd:oi.dst with
 | none=>rw[hd]at c1;simp at c1
 | some d=>
   rw[hd]at c1
   have c1:t=d:=by simpa using c1
   subst c1
   have hn:t ∉ op.dst.toList:=fun c=>h4 t c (by rw[hd];simp)
   rw[AS.aJ,if_pos rfl,lB hn,AS.aJ,if_pos rfl]
 rw[lB c1]
 by_cases c2:t∈op.dst.toList
 cases hd:op.dst with
 | none=>rw[hd]at c2;simp at c2
 | some d=>
   rw[hd]at c2
   have c2:t=d:=by simpa using c2
   subst c2
   rw[AS.aJ,if_pos rfl,AS.aJ,if_pos rfl]
 rw[lB c2,lB c2,lB c1]
 obtain⟨G,U,k2,k3,k4⟩:=h
 refine⟨G,U,k2.congr g1 (wS pM.symm _),k3,fun g=>⟨op,Og,?_⟩⟩
 rw[hp]
 simp only
 rw[h1]
 refine⟨e1,e2,v,k1.congr (fun t ht=>k3.g g A t (fun c=>h3 t c ht)) ?_,?_⟩
 cases hf:(bM ops tb p).fr with
 | none=>
   rw[hf]at h5
   have:(bM ops tb i).Hl=[]:=by simpa[Dq] using h5
   exact fun k=>k3.h g A k (by rw[this];simp)
 | some fr=>
   rw[hf]at h5
   exact fun k hk=>Kp k3 h5 hk g A
 refine fB hK l ?_ (k4 g)
 cases hd:op.dst with
 | none=>exact D'.lD
 | some d=>exact k3.p g A d v (fun c=>h4 d (by rw[hd];simp) c) (fun c=>h2 d (by rw[hd];simp) c)
theorem xX{d:Nat}{v:V}{g t:Nat}{A:AS}(h:t≠d):(Qu d v g A).get t=A.get t:=by simp only[Qu,AS.get,lk];rw[if_neg h]
theorem Gf{d:Nat}{v:V}{g k:Nat}{A:AS}(h:k≠d):lk k (Qu d v g A).h=lk k A.h:=by simp only[Qu,lk];rw[if_neg h]
theorem JL{d:Nat}{v:V}{g:Nat}{A:AS}{dd:Option Nat}{u:V}(h:d ∉ dd.toList):D' (Qu d v g (A.put dd u)) ((Qu d v g A).put dd u):=by
 cases dd with
 | none=>exact D'.lD
 | some d'=>
   have hne:d≠d':=by simpa using h
   refine⟨fun t=>?_,fun k=>rfl⟩
   rw[AS.aJ]
   by_cases c:t=d
   subst c
   rw[if_neg hne];simp only[Qu,AS.get,lk,if_true]
   rw[xX c,xX c,AS.aJ]
theorem Gt{K:AS->Prop}(hK:∀ A B,D' A B->K A->K B){p i:Nat}{l:List Nat}{A:AS}(hi:qT ops tb zs p i=true)(h:OQ P N ops tb zs (p::i::l) A K):OQ P N ops tb zs (i::p::l) A K:=by
 unfold qT at hi
 split at hi
 case h_2=>simp at hi
 rename_i z o hz ho
 obtain⟨op,Og,h⟩:=h
 have inner:∀ {B:AS},OQ P N ops tb zs (i::l) B K->∀ g,OQ P N ops tb zs l (Qu (o.dst.getD 0) z.v g B) K:=fun h g=>by
  obtain⟨o',RI,h⟩:=h
  rw[ho]at RI;obtain rfl:=Option.some.inj RI
  rw[hz]at h
  exact h g
 refine⟨o,ho,?_⟩
 rw[hz]
 refine fun g=>⟨op,Og,?_⟩
 split at hi
 rename_i z' o' YS XD
 rw[Og]at XD;obtain rfl:=Option.some.inj XD
 rw[YS]at h ⊢
 intro g'
 have hne:op.dst.getD 0≠o.dst.getD 0:=by simpa using hi
 refine fB hK l ⟨fun t=>?_,fun k=>?_⟩ (inner (h g') g)
 simp only[Qu,AS.get,lk]
 by_cases c:t=o.dst.getD 0
 rw[if_pos c,if_neg (fun c2=>hne (c2.symm.trans c)),if_pos c]
 rw[if_neg c,if_neg c]
 simp only[Qu,lk]
 by_cases c:k=o.dst.getD 0
 rw[if_pos c,if_neg (fun c2=>hne (c2.symm.trans c)),if_pos c]
 rw[if_neg c,if_neg c]
 rename_i YS
 simp only[Zam,Bool.not_eq_true',Zbg,decide_eq_false_iff_not]at hi
 obtain⟨⟨⟨i1,i2⟩,i3⟩,i4⟩:=hi
 rw[YS]at h ⊢
 simp only at h ⊢
 have gS:W5 (Qu (o.dst.getD 0) z.v g A) A (gZ ops tb p):=fun t ht=>xX fun c=>i2 (by rw[<- c];exact ht)
 have gR:Ud (Qu (o.dst.getD 0) z.v g A) A (bM ops tb p).fr:=by
  split at i4
  rename_i l' hl
  rw[hl]
  intro k hk
  have i5:=Za0.1 i4 k hk
  unfold RR
  split
  rename_i c
  rw[if_pos c]at i5
  exact Gf (by simpa using i5)
  rename_i c
  rw[if_neg c]at i5
  exact Bb (Gf (by simpa using i5))
  simp at i4
 split at h
 obtain⟨e1,e2,v,k1,h⟩:=h
 refine⟨e1,e2,v,k1.congr gS gR,?_⟩
 exact fB hK l (JL (by rw[<- e1];exact i1)) (inner h g)
 obtain⟨G,U,k1,k2,h⟩:=h
 refine⟨G,U,k1.congr gS gR,k2,fun x=>fB hK l ?_ (inner (h x) g)⟩
 have e1:=k2.q x ⟨(o.dst.getD 0,.ptr (.key (o.dst.getD 0)) [] g 0)::A.t,A.h⟩ (o.dst.getD 0) (g,z.v) i3
 have e2:=k2.p x A (o.dst.getD 0) (.ptr (.key (o.dst.getD 0)) [] g 0) i1 i2
 refine D'.trans ?_ e1.symm
 refine⟨fun t=>?_,fun k=>?_⟩
 exact(e2.1 t).symm
 simp only[Qu,lk]
 split
 rfl
 exact(e2.2 k).symm
 simp at hi
theorem Bf{K:AS->Prop}(hK:∀ A B,D' A B->K A->K B){i:Nat}{l2:List Nat}:∀ (l1:List Nat) {A:AS},(∀ p,p∈l1->(lk p zs=none/\indep ops tb zs p i=true)\/qT ops tb zs p i=true)->OQ P N ops tb zs (l1++i::l2) A K->OQ P N ops tb zs (i::(l1++l2)) A K
 | [],A,_,h=>h
 | p::l1,A,hi,h=>by
   have ih:∀ A,OQ P N ops tb zs (l1++i::l2) A K->OQ P N ops tb zs (i::(l1++l2)) A K:=fun A=>Bf hK l1 (fun q hq=>hi q (by simp[hq]))
   have h2:OQ P N ops tb zs (p::i::(l1++l2)) A K:=by
    obtain⟨o,ho,h⟩:=h
    refine⟨o,ho,?_⟩
    split at h
    exact fun g=>ih _ (h g)
    split at h
    obtain⟨e1,e2,v,h1,h2⟩:=h;exact⟨e1,e2,v,h1,ih _ h2⟩
    obtain⟨G,U,h1,h2,h3⟩:=h;exact⟨G,U,h1,h2,fun g=>ih _ (h3 g)⟩
   rcases hi p Zab with h | h
   exact Is hK h.1 h.2 h2
   exact Gt hK h h2
theorem CM{α:Type}:∀ {l:List (Nat×α)} {k:Nat} {v:α},lk k l=some v->(k,v)∈l
 | [],_,_,h=>by simp[lk]at h
 | (k0,v0)::l,k,v,h=>by
   simp only[lk]at h
   split at h
   rename_i e;subst e;cases h;simp
   exact List.mem_cons_of_mem _ (CM h)
theorem BW{m:Nat}:∀ {pl l1 l2:List Nat} {i p:Nat},rr ops m tb zs pl=true->pl=l1++i::l2->p∈l1->((lk p zs=none/\indep ops tb zs p i=true)\/qT ops tb zs p i=true)\/jT ops 64 i p=true
 | [],l1,l2,i,p,_,e,_=>by simp at e
 | q::pl,[],l2,i,p,_,_,hp=>by simp at hp
 | q::pl,x::l1,l2,i,p,h,e,hp=>by
   simp only[List.cons_append,List.cons.injEq]at e
   obtain⟨rfl,rfl⟩:=e
   simp only[rr,Zam,Za0]at h
   rcases List.mem_cons.1 hp with rfl | hp
   have:=h.1 i Zab
   rw[Bool.or_eq_true,Bool.or_eq_true]at this
   rcases this with (h | h) | h
   split at h
   exact .inl (.inl ⟨by assumption,h⟩)
   simp at h
   exact .inr h
   exact .inl (.inr h)
   exact BW h.2 rfl hp
theorem qg{m:Nat}(f:Nat->Bool):∀ {pl:List Nat},rr ops m tb zs pl=true->rr ops m tb zs (pl.filter f)=true
 | [],_=>rfl
 | p::pl,h=>by
   simp only[rr,Zam,Za0]at h
   simp only[List.filter_cons]
   split
   simp only[rr,Zam,Za0]
   exact⟨fun i hi=>h.1 i (List.mem_filter.1 hi).1,qg f h.2⟩
   exact qg f h.2
theorem As{L:Nat->Bool}(hcl:∀ k o,ops[k]? =some o->L k=true->∀ j,j∈Th o->L j=true){i k:Nat}{o:Oper}(ho:ops[i]? =some o)(Yq:∀ j,j∈Th o->L j=true)(h:jT ops 64 i k=true):L k=true:=by
 have h:jT ops (63+1) i k=true:=h
 generalize (63:Nat)=n at h
 simp only[jT,ho]at h
 rw[List.any_eq_true]at h
 obtain⟨q,hq,h⟩:=h
 rw[Bool.or_eq_true,Zbj]at h
 rcases h with rfl | h
 exact Yq _ hq
 exact mz hcl n q k h (Yq _ hq)
theorem xI{id m:Nat} {pl:List Nat} {A:AS} {Q:Exit->AS->Prop} (hm:P.follows .mixedOrders=true) (hc:rr ops m tb zs pl=true) (ZC:Ea N ops zs=true) (SZ:Di ops m pl=true)
 (h:OQ P N ops tb zs pl A (fun B=> ∃ B',D' B B'/\WL P N ops (ops.toList.drop m) B' (Q .normal))):T P N (.region id ops true) A Q:=by
 unfold Di at SZ
 simp only[Zam,Za0]at SZ
 obtain⟨⟨⟨⟨⟨p1,p2⟩,p3⟩,p4⟩,p5⟩,p6⟩:=SZ
 have Zk:=Nat.le_of_ble_eq_true p4
 have VY:∀ i,i∈pl↔i<m:=fun i=>⟨fun hi=>Nat.lt_of_succ_le (Nat.le_of_ble_eq_true (p1 i hi)),fun hi=>by have:=p3 i (List.mem_range.2 hi);simpa using this⟩
 have hnd:pl.Nodup:=by
  have:∀ l:List Nat,OU l=true->l.Nodup:=by
   intro l
   induction l with
   | nil=>intro _;exact Za8
   | cons a l ih=>
     intro h
     simp only[OU,Zam,Bool.not_eq_true',Zbg,decide_eq_false_iff_not]at h
     exact List.nodup_cons.2 ⟨h.1,ih h.2⟩
  exact this pl p2
 have Ta:∀ i o,ops[i]? =some o->∀ k,k∈Th o->k<i:=fun i o ho k hk=>by
  have hmz:(o,i)∈ops.toList.zipIdx:=by rw[List.mk_mem_zipIdx_iff_getElem?];simpa using ho
  have:=p5 (o,i) hmz
  simp only[Za0]at this
  exact Nat.lt_of_succ_le (Nat.le_of_ble_eq_true (this k hk))
 have Xu:∀ i o,ops[i]? =some o->m<=i->∀ k,k<i->jT ops 64 i k=true:=fun i o ho hi k hk=>by
  have hin:i<ops.size:=(Zbf.1 ho).1
  have:=p6 (i-m) (List.mem_range.2 Zaa)
  rw[show m+(i-m)=i from Zaa,ho]at this
  simp only[Za0]at this
  simpa using this k (List.mem_range.2 hk)
 let Kt:AS->Prop:=fun B=> ∃ B',D' B B'/\WL P N ops (ops.toList.drop m) B' (Q .normal)
 have ZH:∀ A B,D' A B->Kt A->Kt B:=fun A B hAB ⟨B',h1,h2⟩=>⟨B',hAB.symm.trans h1,h2⟩
 intro Pb Kb a w F hs
 refine wp_region_any hm ?_
 have c5:s9 N Pb Kb A a { w with drawn:=w.drawn+1 } F:=hs.grow (fun _ _=>rfl) (Zba _) (fun _ h=>h) (fun g h=>.inl h) hs.sub
 obtain⟨w0,hw0⟩:∃ w0:World,w0={ w with drawn:=w.drawn+1 }:=⟨_,rfl⟩
 have RZ:A4 Kb w w0:=by rw[hw0];exact⟨rfl,rfl,rfl,Zba _,fun _ _=>rfl,fun _ c _ _ h=>⟨c,h,rfl⟩⟩
 rw[<- hw0]at c5 ⊢
 let rem (listed:Array Bool):List Nat:=pl.filter fun j=>!listed.getD j true
 let Ph (listed:Array Bool) (A':AS):Prop:=
  (rem listed≠[]/\OQ P N ops tb zs (rem listed) A' Kt)\/
  (∃ k,m<=k/\k<=ops.size/\(∀ j,j<ops.size->listed.getD j true=decide (j<k))/\WL P N ops (ops.toList.drop k) A' (Q .normal))
 have key:∀ fuel (listed:Array Bool) a w',listed.size=ops.size->Tq listed ops.size=fuel->
  (∀ k o,ops[k]? =some o->listed.getD k true=true->∀ j,j∈Th o->listed.getD j true=true)->Nx N Pb Kb w0 (Ph listed) a w'->
  wpAny P .any ops (fun e a' w'=>Nx N Pb Kb w (Q e) a' w') fuel listed a w':=by
  intro fuel
  induction fuel with
  | zero=>
    intro listed a w' hsz hu hcl hn
    have G8:=IJ hu
    refine⟨?_,(Nx.step (fun _ h=>h) (fun _ h=>h) (fun _ h=>.inl h) RZ hn).mono fun A' XY=>?_⟩
    rw[List.eq_nil_iff_forall_not_mem]
    intro j hj
    rw[mem_ready]at hj
    obtain⟨h0,o,ho,_⟩:=hj
    have:=G8 j (Zbf.1 ho).1
    rw[h0]at this;cases this
    rcases XY with ⟨hne,_⟩ | ⟨k,RM,L5,XN,hw⟩
    exfalso
    apply hne
    rw[List.filter_eq_nil_iff]
    intro j hj
    rw[G8 j (by have:=(VY j).1 hj;omega)];simp
    have:k=ops.size:=by
     rcases Nat.lt_or_ge k ops.size with h | h
     have:=XN k h;rw[G8 k h]at this;simp at this
     omega
    subst this
    rw[Za6 Zab]at hw
    exact hw
  | succ fuel ih=>
    intro listed a w' hsz hu hcl hn
    have TU:∀ j,j<ops.size->listed.getD j false=listed.getD j true:=fun j hj=>by
     have hj':j<listed.size:=Zaa
     simp[Array.getD,hj']
    constructor
    intro hr
    exfalso
    have hex:∃ j,j<ops.size/\listed.getD j true=false:=by
     refine Classical.byContradiction fun hne=>?_
     have:Tq listed ops.size=0:=by
      unfold Tq
      rw[List.filter_eq_nil_iff.2]
      rfl
      intro j hj
      simp only[List.mem_range]at hj
      cases hb:listed.getD j true with
      | true=>simp
      | false=>exact absurd ⟨j,hj,hb⟩ hne
     omega
    have Zl:∀ n,∀ j,j<=n->j<ops.size->listed.getD j true=false->∃ j',j'<ops.size/\listed.getD j' true=false/\∀ i,i<j'->listed.getD i true=true:=by
     intro n
     induction n with
     | zero=>intro j hj h1 h2;exact⟨j,h1,h2,fun i hi=>by omega⟩
     | succ n ihn=>
       intro j hj h1 h2
       by_cases hsm:∃ i,i<j/\listed.getD i true=false
       obtain⟨i,hi,hf⟩:=hsm;exact ihn i Zaa Zaa hf
       exact⟨j,h1,h2,fun i hi=>by
        cases hb:listed.getD i true with
        | true=>rfl
        | false=>exact absurd ⟨i,hi,hb⟩ hsm⟩
    obtain⟨j,Ym,Q1⟩:=hex
    obtain⟨j',h1,h2,h3⟩:=Zl j j (Zba _) Ym Q1
    have ho:ops[j']? =some ops[j']:=by simp[h1]
    have:j'∈Region.ready .any ops listed:=by
     rw[mem_ready]
     refine⟨h2,_,ho,fun e he hb=>?_⟩
     have hlt:=Ta j' _ ho e.on (by simp only[Th,List.mem_map,List.mem_filter];exact⟨e,⟨by simpa using he,hb⟩,rfl⟩)
     rw[TU _ Zaa];exact h3 _ hlt
    rw[hr]at this;cases this
    intro i hi
    rw[mem_ready]at hi
    obtain⟨hi0,o,ho,Yq⟩:=hi
    have hin:i<ops.size:=(Zbf.1 ho).1
    have TV:∀ k,k∈Th o->listed.getD k true=true:=fun k hk=>by
     have hlt:=Ta i o ho k hk
     simp only[Th,List.mem_map,List.mem_filter]at hk
     obtain⟨e,⟨he,hb⟩,rfl⟩:=hk
     rw[<- TU _ Zaa]
     exact Yq e (by simpa using he) hb
    have PZ:∀ k,k<ops.size->(listed.setIfInBounds i true).getD k true=(if k=i then true else listed.getD k true):=fun k hk=>by
     by_cases e:k=i
     subst e;simp[Array.getD,hsz,hin]
     rw[if_neg e];exact getD_set_ne true (Ne.symm e)
    have Zz:∀ k o,ops[k]? =some o->(listed.setIfInBounds i true).getD k true=true->∀ j,j∈Th o->(listed.setIfInBounds i true).getD j true=true:=fun k o' RI hk j hj=>by
     have Oc:=(Zbf.1 RI).1
     have Yl:=Ta k o' RI j hj
     rw[PZ k Oc]at hk
     rw[PZ j Zaa]
     split
     rfl
     split at hk
     rename_i e;subst e;rw[ho]at RI;obtain rfl:=Option.some.inj RI;exact TV j hj
     exact hcl k o' RI hk j hj
    have Y3:Tq (listed.setIfInBounds i true) ops.size=fuel:=by have:=Kk hin hsz hi0;omega
    have R2:∀ Ue TB,Nx N Pb Kb w0 (Ph (listed.setIfInBounds i true)) Ue TB->wpAny P .any ops (fun e a' w'=>Nx N Pb Kb w (Q e) a' w') fuel (listed.setIfInBounds i true) Ue TB:=
     fun Ue TB PK=>ih _ Ue TB (by simpa using hsz) Y3 Zz PK
    obtain⟨A',Pb',E2,F',XY,h2,h3,h4,h5,h6⟩:=hn
    rcases XY with ⟨hne,hD⟩ | ⟨k,RM,L5,XN,hw⟩
    ·
     obtain⟨j0,hj0⟩:=List.exists_mem_of_ne_nil _ hne
     obtain⟨Ym,Q1⟩:=List.mem_filter.1 hj0
     have hj0m:=(VY j0).1 Ym
     have WM:listed.getD j0 true=false:=by simpa using Q1
     have him:i<m:=by
      rcases Nat.lt_or_ge i m with h | h
      exact h
      have:=As hcl ho TV (Xu i o ho h j0 Zaa);rw[WM]at this;cases this
     have hir:i∈rem listed:=List.mem_filter.2 ⟨(VY i).2 him,by rw[hi0];rfl⟩
     obtain⟨l1,l2,hl⟩:=List.append_of_mem hir
     have VU:(rem listed).Nodup:=hnd.filter _
     have UW:rem (listed.setIfInBounds i true)=l1++l2:=by
      have e1:rem (listed.setIfInBounds i true)=(rem listed).filter fun j=>j != i:=by
       show pl.filter _=(pl.filter _).filter _
       rw[List.filter_filter]
       apply List.filter_congr
       intro j hj
       rw[PZ j (by have:=(VY j).1 hj;omega)]
       by_cases e:j=i
       subst e;simp
       simp[e]
      rw[e1,hl]
      rw[hl]at VU
      rw[List.nodup_append]at VU
      obtain⟨n1,n2,n3⟩:=VU
      rw[List.filter_append,List.filter_cons]
      simp only[bne_self_eq_false,Bool.false_eq_true,if_false]
      have f1:l1.filter (fun j=>j != i)=l1:=List.filter_eq_self.2 fun j hj=>by
       have:=n3 j hj i Zab;simpa using this
      have f2:l2.filter (fun j=>j != i)=l2:=List.filter_eq_self.2 fun j hj=>by
       have:=(List.nodup_cons.1 n2).1
       simp only[bne_iff_ne,ne_eq]
       rintro rfl;exact this hj
      rw[f1,f2]
     have Zs:∀ p,p∈l1->(lk p zs=none/\indep ops tb zs p i=true)\/qT ops tb zs p i=true:=fun p hp=>by
      rcases BW (qg _ hc) hl hp with h | h
      exact h
      exfalso
      have hpr:p∈rem listed:=by rw[hl];simp[hp]
      have Zc:listed.getD p true=false:=by have:=(List.mem_filter.1 hpr).2;simpa using this
      have ZB:∀ (n j:Nat),jT ops n i j=true->listed.getD j true=true:=by
       intro n j hj
       cases n with
       | zero=>simp[jT]at hj
       | succ n=>
         simp only[jT,ho]at hj
         rw[List.any_eq_true]at hj
         obtain⟨q,hq,hj⟩:=hj
         have hql:=TV q hq
         rw[Bool.or_eq_true,Zbj]at hj
         rcases hj with rfl | hj
         exact hql
         exact mz (L:=fun k=>listed.getD k true) hcl n q j hj hql
      have:=ZB 64 p h
      rw[Zc]at this;cases this
     rw[hl]at hD
     obtain⟨o',RI,hD⟩:=Bf ZH l1 Zs hD
     rw[ho]at RI
     obtain rfl:=Option.some.inj RI
     have VZ:∀ B PQ PU a2 w2 F2,OQ P N ops tb zs (l1++l2) B Kt->s9 N PQ PU B a2 w2 F2->∃ B' F3,Ph (listed.setIfInBounds i true) B'/\s9 N PQ PU B' a2 w2 F3:=fun B PQ PU a2 w2 F2 hB hsB=>by
      by_cases S1:rem (listed.setIfInBounds i true)=[]
      rw[<- UW,S1]at hB
      obtain⟨B',e1,e2⟩:=hB
      obtain⟨F3,Ot,_⟩:=hsB.le e1.symm.le
      refine⟨B',F3,.inr ⟨m,Zba _,Zk,fun j hj=>?_,e2⟩,Ot⟩
      rcases Nat.lt_or_ge j m with h | h
      have:j ∉ rem (listed.setIfInBounds i true):=by rw[S1];simp
      have: ¬ ((!(listed.setIfInBounds i true).getD j true)=true):=fun c=>this (List.mem_filter.2 ⟨(VY j).2 h,c⟩)
      simp only[Bool.not_eq_true',Bool.not_eq_false]at this
      rw[this];simp[h]
      have hoj:ops[j]? =some ops[j]:=by simp[hj]
      rw[PZ j hj,if_neg Zaa]
      cases hb:listed.getD j true with
      | false=>simp;omega
      | true=>
        have:=mz hcl 64 j j0 (Xu j _ hoj h j0 Zaa) hb
        rw[WM]at this;cases this
      exact⟨B,F2,.inl ⟨S1,by rw[UW];exact hB⟩,hsB⟩
     unfold Go.wpOp
     simp only[ho]
     split at hD
     rename_i z hz
     unfold Ea at ZC
     rw[Za0]at ZC
     have I0:=ZC _ (CM hz)
     simp only[ho]at I0
     rw[Zam]at I0
     obtain⟨I0,hz3⟩:=I0
     split at I0
     rename_i T d Og Oj
     simp only[Zam,Zbj]at I0
     have SM:Region.wanted o (yielded ops a.tmps)=true:=by unfold Region.wanted;rw[show o.guard=none from by simpa using hz3]
     rw[if_pos SM]
     rw[Oj]at hD
     refine .inl (Oper.wp_mono ?_ (tw (K:=fun B=>OQ P N ops tb zs (l1++l2) B Kt) Og Oj (Nat.lt_of_succ_le (Nat.le_of_ble_eq_true I0.2)) (by rw[I0.1];exact z.ok) hD Pb' E2 a w' F' _ h2))
     rintro a2 w2 ⟨B,PQ,PU,F2,k1,k2,k3,k4,k5,k6⟩
     obtain⟨B',F3,hp,Ot⟩:=VZ B PQ PU a2 w2 F2 k1 k2
     exact R2 a2 w2 (Nx.step h3 h4 h5 h6 ⟨B',PQ,PU,F3,hp,Ot,k3,k4,k5,k6⟩)
     simp at I0
     split at hD
     obtain⟨_,_,v,hv,hD⟩:=hD
     rcases vt (hv A' (fun _ _=>rfl) (wS rfl _)) h2 with ⟨SM,Og⟩ | ⟨SM,hd,hvd⟩
     rw[if_pos SM]
     refine .inl (Oper.wp_mono ?_ (Og Pb' E2 a w' F' _ h2))
     rintro a2 w2 ⟨B,PQ,PU,F2,k1,k2,k3,k4,k5,k6⟩
     obtain⟨B',F3,hp,Ot⟩:=VZ B PQ PU a2 w2 F2 (fB ZH _ k1.symm hD) k2
     exact R2 a2 w2 (Nx.step h3 h4 h5 h6 ⟨B',PQ,PU,F3,hp,Ot,k3,k4,k5,k6⟩)
     rw[if_neg (by simp[SM])]
     obtain⟨F2,M7⟩:=h2.rX (d:=o.dst) (v:=v) (x:=undef) hd (hvd w' Pb')
     obtain⟨B',F3,hp,Ot⟩:=VZ _ Pb' E2 _ w' F2 hD M7
     exact R2 _ w' ⟨B',Pb',E2,F3,hp,Ot,h3,h4,h5,h6⟩
     obtain⟨G,U,hE,_,hD⟩:=hD
     have SM:Region.wanted o (yielded ops a.tmps)=true:=by unfold Region.wanted;rw[hE.1]
     rw[if_pos SM]
     refine .inl (Oper.wp_mono ?_ (hE.2 A' (fun _ _=>rfl) (wS rfl _) Pb' E2 a w' F' _ h2))
     rintro a2 w2 ⟨B,PQ,PU,F2,⟨g,k1⟩,k2,k3,k4,k5,k6⟩
     obtain⟨B',F3,hp,Ot⟩:=VZ B PQ PU a2 w2 F2 (fB ZH _ k1.symm (hD g)) k2
     exact R2 a2 w2 (Nx.step h3 h4 h5 h6 ⟨B',PQ,PU,F3,hp,Ot,k3,k4,k5,k6⟩)
    ·
     have hik:i=k:=by
      rw[XN i hin]at hi0
      simp only[decide_eq_false_iff_not]at hi0
      rcases Nat.lt_or_ge k i with h | h
      have:=As hcl ho TV (Xu i o ho Zaa k h)
      rw[XN k Zaa]at this;simp at this
      omega
     subst hik
     have Q5:ops.toList.drop i=o::ops.toList.drop (i+1):=by
      rw[List.drop_eq_getElem_cons (by simpa using hin)]
      have:ops[i]=o:=by have:=Zbf.1 ho;exact this.2
      simp[this]
     rw[Q5]at hw
     have VZ:∀ B,WL P N ops (ops.toList.drop (i+1)) B (Q .normal)->Ph (listed.setIfInBounds i true) B:=fun B hB=>
      .inr ⟨i+1,Zaa,Zaa,fun j hj=>by
       rw[PZ j hj]
       split
       rename_i e;subst e;simp
       rename_i e;rw[XN j hj]
       have:(j<i)↔(j<i+1):=Zaa
       simp[this],hB⟩
     unfold Go.wpOp
     simp only[ho]
     rcases vt hw h2 with ⟨SM,Og⟩ | ⟨SM,hd,u,hu,UR⟩
     rw[if_pos SM]
     refine .inl (Oper.wp_mono ?_ (Og Pb' E2 a w' F' _ h2))
     intro a2 w2 WE
     exact R2 a2 w2 (Nx.step h3 h4 h5 h6 (WE.mono VZ))
     rw[if_neg (by simp[SM])]
     obtain⟨F2,M7⟩:=h2.rX (d:=o.dst) (v:=u) (x:=undef) hd (hu w' Pb')
     exact R2 _ w' ⟨_,Pb',E2,F2,VZ _ UR,M7,h3,h4,h5,h6⟩
 have TQ:∀ k,k<ops.size->(Array.replicate ops.size false).getD k true=false:=fun k hk=>by simp[Array.getD,hk]
 have UU:rem (Array.replicate ops.size false)=pl:=List.filter_eq_self.2 fun j hj=>by rw[TQ j (by have:=(VY j).1 hj;omega)];rfl
 have A7:∃ A1 F1,Ph (Array.replicate ops.size false) A1/\s9 N Pb Kb A1 a w0 F1:=by
  by_cases hp:pl=[]
  subst hp
  obtain⟨B',e1,e2⟩:=h
  obtain⟨F3,Ot,_⟩:=c5.le e1.symm.le
  have P0:m=0:=by
   rcases Nat.eq_zero_or_pos m with h | h
   exact h
   have:=(VY 0).2 h;simp at this
  exact⟨B',F3,.inr ⟨m,Zba _,Zk,fun j hj=>by rw[TQ j hj,P0];simp,e2⟩,Ot⟩
  exact⟨A,F,.inl ⟨by rw[UU];exact hp,by rw[UU];exact h⟩,c5⟩
 obtain⟨A1,F1,hP1,Pf⟩:=A7
 exact key ops.size (Array.replicate ops.size false) a w0 Zab (by
  unfold Tq
  rw[List.filter_eq_self.2]
  simp
  intro j hj;simp only[List.mem_range]at hj;rw[TQ j hj];rfl)
  (fun k o ho hk=>by rw[TQ k (Zbf.1 ho).1]at hk;cases hk) ⟨A1,Pb,Kb,F1,hP1,Pf,fun _ h=>h,fun _ h=>h,fun _ h=>.inl h,A4.refl _ _⟩
end
section
variable {P:Program} {N:Nat} {ops:Array Oper} {A A':AS}
theorem MN{w:World}{Pb:Nat->Prop}{v:V}{x:Value}{F:List Nat}(h:VE w Pb v x F):RV w Pb v x F:=by
 cases v with
 | gv b u=>simp[VE,R]at h
 | _=>exact h
def V.iU:V->Bool | .gv _ _=>true | _=>false
theorem AE{w:World}{Pb:Nat->Prop}{v:V}{x:Value}{F:List Nat}(h:RV w Pb v x F)(hn:v.iU=false):VE w Pb v x F:=by
 cases v with
 | gv b u=>simp[V.iU]at hn
 | _=>exact h
theorem qW{a:Act}{t:Nat}:a.put (some t) (a.tmps.getD t undef)=a:=by
 cases a with
 | mk tmps defers=>
   simp only[Act.put]
   congr 1
   apply Array.ext_getElem?
   intro i
   by_cases e:t=i
   subst e
   by_cases h:t<tmps.size
   simp[h,Array.getElem?_setIfInBounds_self]
   simp[h,Array.getElem?_setIfInBounds]
   rw[Array.getElem?_setIfInBounds_ne e]
def qP(G b:Bool)(v:V):Prop:=match v.dz||v.iU with
 | false=>G=true->b=true
 | true=>False
theorem yz{G b:Bool}{v:V}(h:qP G b v)(hG:G=true):b=true/\v.dz=false/\v.iU=false:=by
 unfold qP at h
 split at h
 rename_i e;rw[Bool.or_eq_false_iff]at e;exact⟨h hG,e.1,e.2⟩
 exact h.elim
def AS.un(G:Bool):List Operand->AS->Prop×AS
 | [],A=>(True,A)
 | .tmp t::r,A=>match A.get t with
   | .gv b v=>match AS.un G r (A.put (some t) v) with
     | (C,B)=>(qP G b v/\C,B)
   | _=>AS.un G r A
 | _::r,A=>AS.un G r A
theorem lF{w:World}{Pb Kb:Nat->Prop}{a:Act}{G:Bool}(hG:G=true):∀ (xs:List Operand) {A B:AS} {F:m0->List Nat} {C:Prop},AS.un G xs A=(C,B)->C->s9 N Pb Kb A a w F->(∀ t,Operand.tmp t∈xs->t<N)->∃ F',s9 N Pb Kb B a w F'
 | [],A,B,F,C,h,hC,hs,_=>by simp only[AS.un,Zao]at h;obtain⟨_,rfl⟩:=h;exact⟨F,hs⟩
 | x::xs,A,B,F,C,h,hC,hs,hN=>by
   have RO:∀ t,Operand.tmp t∈xs->t<N:=fun t ht=>hN t (by simp[ht])
   cases x with
   | tmp t=>
     simp only[AS.un]at h
     split at h
     rename_i b v hg
     cases hu:AS.un G xs (A.put (some t) v) with
     | mk C1 B1=>
       rw[hu]at h
       simp only[Zao]at h
       obtain⟨rfl,rfl⟩:=h
       have hr:=hs.slot t
       rw[hg]at hr
       have B4:=hs.put (d:=t) (v:=v) (x:=a.tmps.getD t undef) (F':=[]) (hN t Zab) (MN (hr.2.1 (yz hC.1 hG).1)) Zab Zab Zab
       rw[qW]at B4
       exact lF hG xs hu hC.2 B4 RO
     exact lF hG xs h hC hs RO
   | _=>exact lF hG xs h hC hs RO
def IY(A B:AS):Prop:=(∀ i,A.get i=B.get i\/∃ b,A.get i=.gv b (B.get i)/\b=true/\(B.get i).dz=false/\(B.get i).iU=false)/\A.h=B.h
theorem s9.wrap{w:World}{Pb Kb:Nat->Prop}{a:Act}{F:m0->List Nat}{B:AS}(hs:s9 N Pb Kb B a w F)(h:IY A B):s9 N Pb Kb A a w F where
 size:=hs.size
 defers:=hs.defers
 slot:=fun i=>by
  rcases h.1 i with e | ⟨b,e,hb,ho,hg⟩
  rw[e];exact hs.slot i
  have hr:=hs.slot i
  rw[e]
  have hF:=yc ho hr
  rw[hF]at hr ⊢
  exact⟨rfl,fun _=>AE hr hg,fun c=>by rw[hb]at c;cases c⟩
 root:=fun k g v hk=>hs.root k g v (by rw[<- h.2];exact hk)
 cL:=hs.cL
 nodup:=hs.nodup
 free:=hs.free
 sub:=hs.sub
 bound:=hs.bound
theorem oX{G:Bool}(hG:G=true):∀ (xs:List Operand) {A B:AS} {C:Prop},AS.un G xs A=(C,B)->C->IY A B
 | [],A,B,C,h,hC=>by simp only[AS.un,Zao]at h;obtain⟨_,rfl⟩:=h;exact⟨fun _=>.inl rfl,rfl⟩
 | x::xs,A,B,C,h,hC=>by
   cases x with
   | tmp t=>
     simp only[AS.un]at h
     split at h
     rename_i b v hg
     cases hu:AS.un G xs (A.put (some t) v) with
     | mk C1 B1=>
       rw[hu]at h
       simp only[Zao]at h
       obtain⟨rfl,rfl⟩:=h
       obtain⟨k1,k2⟩:=oX hG xs hu hC.2
       obtain⟨hb,ho,hv⟩:=yz hC.1 hG
       refine⟨fun i=>?_,k2⟩
       have:=k1 i
       rw[AS.aJ]at this
       by_cases e:i=t
       subst e
       rw[if_pos rfl]at this
       rcases this with e' | ⟨b',e',_⟩
       exact .inr ⟨b,by rw[hg,<- e'],hb,by rw[<- e'];exact ho,by rw[<- e'];exact hv⟩
       rw[e']at hv;simp[V.iU]at hv
       rw[if_neg e]at this;exact this
     exact oX hG xs h hC
   | _=>exact oX hG xs h hC
def Py(A:AS)(ops:Array Oper)(j:Nat)(b:Bool):Option Bool:=
 match ((ops[j]?).bind (·.dst)).map A.get with
 | some (.lit (.bool g))=>some (g==b)
 | some (.gv c (.lit (.bool g)))=>some (c&&(g==b))
 | _=>none
theorem rS{A:AS}{o:Oper}{j:Nat}{b G:Bool}{x y:Prop}(hg:o.guard=some (j,b))(h:Py A ops j b=some G)(hx:G=true->x)(hy:G=false->y):gd ops o A x y:=by
 unfold Py at h
 unfold gd
 rw[hg]
 simp only
 split at h
 rename_i g e
 try rw[e]
 simp only[Zal]at h ⊢
 subst h
 split
 rename_i e';exact hx (by simp[e'])
 rename_i e';exact hy (by simp[e'])
 rename_i c g e
 try rw[e]
 simp only[Zal]at h ⊢
 subst h
 split
 rename_i e';exact hx e'
 rename_i e';exact hy (by simpa using e')
 simp at h
def Rm(N:Nat):List Operand->Bool
 | []=>true
 | .tmp t::r=>decide (t<N)&&Rm N r
 | _::r=>Rm N r
theorem qD:∀ {xs:List Operand},Rm N xs=true->∀ t,Operand.tmp t∈xs->t<N
 | [],_,t,ht=>by simp at ht
 | x::xs,h,t,ht=>by
   cases x with
   | tmp t'=>
     simp only[Rm,Zam,Zbi]at h
     simp only[List.mem_cons]at ht
     rcases ht with e | ht
     injection e with e;subst e;exact h.1
     exact qD h.2 t ht
   | _=>
     simp only[List.mem_cons,reduceCtorEq,false_or]at ht
     exact qD (xs:=xs) (by simpa[Rm] using h) t ht
theorem GP{o:Oper} {l:List Oper} {K:AS->Prop} {j:Nat} {b G:Bool} {C C':Prop} {B:AS} {v:V} {xs:List Operand} (hg:o.guard=some (j,b)) (hG:Py A ops j b=some G) (hu:AS.un G xs A=(C,B))
 (A7:H8 P B o.op=some (C',v)) (M1:Rm N xs=true) (hd:cZ N o.dst) (hC:G=true->C/\C'/\v.iU=false)
 (hK:WL P N ops l (A.put o.dst (.gv G v)) K):WL P N ops (o::l) A K:=by
 refine rS hg hG (fun OK=>?_) (fun U3=>?_)
 obtain⟨h1,h2,h3⟩:=hC OK
 refine ky (v:=.gv G v) hd hK fun Pb Kb a w F hs=>?_
 obtain⟨F',B4⟩:=lF OK _ hu h1 hs (qD M1)
 obtain⟨x,hx,hr⟩:=xH A7 h2 B4 rfl
 exact⟨x,hx,rfl,fun _=>AE hr h3,fun h=>by rw[OK]at h;cases h⟩
 exact⟨hd,.gv G v,fun _ _=>⟨rfl,(fun h=>by rw[U3]at h;cases h),fun _=>rfl⟩,hK⟩
theorem bN{x:Operand}(h:∀ t,x=.tmp t->A'.get t=A.get t):A'.ev x=A.ev x:=by
 cases x with
 | tmp t=>exact h t rfl
 | _=>rfl
theorem mF{x:Operand}(h:∀ t,x=.tmp t->A'.get t=A.get t):A'.cp x=A.cp x:=by
 cases x with
 | tmp t=>simp only[AS.cp,h t rfl]
 | _=>rfl
theorem xe{x:Option Operand}(h:∀ t,x=some (.tmp t)->A'.get t=A.get t):x.map A'.ev=x.map A.ev:=by
 cases x with
 | none=>rfl
 | some y=>simp only[Option.map_some,bN (x:=y) fun t e=>h t (by rw[e])]
theorem lG{G:Bool}:∀ (xs:List Operand) {A A' B:AS} {C:Prop},AS.un G xs A=(C,B)->(∀ t,Operand.tmp t∈xs->A'.get t=A.get t)->
 ∃ B',AS.un G xs A'=(C,B')/\(∀ t,A'.get t=A.get t->B'.get t=B.get t)/\B'.h=A'.h/\B.h=A.h
 | [],A,A',B,C,h,_=>by
   simp only[AS.un,Zao]at h;obtain⟨rfl,rfl⟩:=h
   exact⟨A',rfl,fun _ h=>h,rfl,rfl⟩
 | x::xs,A,A',B,C,h,hx=>by
   have OW:∀ t,Operand.tmp t∈xs->A'.get t=A.get t:=fun t ht=>hx t (by simp[ht])
   cases x with
   | tmp t=>
     have ht:=hx t Zab
     simp only[AS.un]at h ⊢
     rw[ht]
     split at h
     rename_i b v hg
     cases hu:AS.un G xs (A.put (some t) v) with
     | mk C1 B1=>
       rw[hu]at h
       simp only[Zao]at h
       obtain⟨rfl,rfl⟩:=h
       obtain⟨B',k1,k2,k3,k4⟩:=lG xs (A':=A'.put (some t) v) hu (fun t' Y7=>by
        rw[AS.aJ,AS.aJ];split
        rfl
        exact OW t' Y7)
       refine⟨B',by simp only[k1],fun t' Y7=>k2 t' ?_,by rw[k3];rfl,by rw[k4];rfl⟩
       rw[AS.aJ,AS.aJ];split
       rfl
       exact Y7
     exact lG xs h OW
   | const c=>exact lG xs h OW
   | global g=>exact lG xs h OW
   | func f=>exact lG xs h OW
theorem fi{o:Oper}{t:Nat}(h:Operand.tmp t∈o.op.operands.toList):t∈o.looksAt ops:=by
 unfold Oper.looksAt;rw[Zav];exact .inl (List.mem_filterMap.2 ⟨_,h,rfl⟩)
theorem tc{xs:List Operand}(h:∀ t,Operand.tmp t∈xs->A'.get t=A.get t):xs.map A'.cp=xs.map A.cp:=by
 apply List.map_congr_left
 intro x hx
 exact mF fun t e=>h t (by rw[<- e];exact hx)
theorem PC.er{f:FuncId}{L:List V}{Q:V->Prop}(h:PC P f L Q):PC P f L (fun r=> ∃ r',Q r'/\r=r'.er):=by
 refine⟨h.1,fun w Pb cargs h1 h2=>(h.2 w Pb cargs h1 h2).mono ?_⟩
 rintro e w' ⟨r,x,F,Pb',rfl,q,hr,hnd,hF,k1,k2,hb⟩
 refine⟨r.er,x,[],fun g=>Pb' g\/g∈F,rfl,⟨r,q,rfl⟩,DN hr (fun g hg=>.inl hg) (fun g hg=>.inr hg),Za8,Zab,fun g hg=>.inl (k1 g hg),fun g hg=>?_,hb⟩
 rcases hg with hg | hg
 exact k2 g hg
 exact .inr ⟨(hF g hg).1,(hF g hg).2.1⟩
theorem HY{K:AS->Prop} {d:Option Nat} {f:FuncId} {xs:Array Operand} {N2:Array TypeId} {ty:TypeId} {pos:String} {after:Array Edge} {rest:List Oper}
 {j:Nat} {b G:Bool} {C:Prop} {B:AS} {L:List V} {E:V} (hd:cZ N d) (hG:Py A ops j b=some G) (hu:AS.un G xs.toList A=(C,B)) (M1:Rm N xs.toList=true)
 (hL:xs.toList.map B.cp=L) (hc:G=true->C/\PC P f L (fun r=>r.er=E)/\E.iU=false/\E.dz=false) (hK:WL P N ops rest (A.put d (.gv G E)) K):
 WL P N ops (⟨d,.call { callee:=.value (.func f),args:=xs,argTypes:=N2 },ty,pos,after,some (j,b)⟩ :: rest) A K:=by
 subst hL
 refine rS (j:=j) (b:=b) rfl hG (fun OK=>?_) (fun U3=>⟨hd,.gv G E,fun _ _=>⟨rfl,(fun h=>by rw[U3]at h;cases h),fun _=>rfl⟩,hK⟩)
 obtain⟨h1,h2,h3,h4⟩:=hc OK
 intro Pb Kb a w F Q' hs
 obtain⟨F',B4⟩:=lF OK _ hu h1 hs (qD M1)
 have hw:=oX OK _ hu h1
 have L6:=qm (N:=N) (o:=⟨d,.call { callee:=.value (.func f),args:=xs,argTypes:=N2 },ty,pos,after,some (j,b)⟩) (K:=fun A'=>A'=B.put d E) (A:=B) rfl hd h2 (fun _ h=>h) rfl
 refine Oper.wp_mono ?_ (L6 Pb Kb a w F' Q' B4)
 rintro a' w' ⟨A',Pb',E2,F2,rfl,M7,k3,k4,k5,k6⟩
 refine⟨_,Pb',E2,F2,hK,M7.wrap ?_,k3,k4,k5,k6⟩
 cases d with
 | none=>exact hw
 | some d=>
   refine⟨fun i=>?_,hw.2⟩
   rw[AS.aJ,AS.aJ]
   by_cases e:i=d
   rw[if_pos e,if_pos e];exact .inr ⟨G,rfl,OK,h4,h3⟩
   rw[if_neg e,if_neg e];exact hw.1 i
end
def IK(op:BinOp)(a b:BL):Option (Prop×V):=
 match op with
 | .add=>some (a.length+b.length<=4611686018427387904,.lit (.string (Str (a++b))))
 | .eql=>some (True,.lit (.bool (a==b)))
 | .neq=>some (True,.lit (.bool (!(a==b))))
 | _=>none
def Dw(op:BinOp)(d:Option D)(x y:V):Option (Prop×V):=
 match d,x,y with
 | some .str,.lit (.string a),.lit (.string b)=>IK op a.data.toList b.data.toList
 | d,x,y=>vn op d x y
def Lz:Option D->V->V->Option (Prop×V)
 | some .str,.lit (.string s),.lit (.int _ i)=>some (0<=i/\i<s.data.toList.length,.lit (.int .u8 (s.data.toList.getD i.toNat 0).toNat))
 | _,_,_=>none
def Jq(s:BL)(lo hi:Option V):Option (Prop×V):=
 match VK lo,U0 s.length hi with
 | some l,some h=>some (0<=l/\l<=h/\h<=s.length,.lit (.string (Str ((s.take h.toNat).drop l.toNat))))
 | _,_=>none
def MM(x:V)(lo hi:Option V):Option (Prop×V):=
 match x with
 | .lit (.string s)=>Jq s.data.toList lo hi
 | _=>none
def HG:Option D->V->Option (Prop×V)
 | some .str,.lit (.string s)=>some (True,.lit (.int .i64 s.data.toList.length))
 | d,x=>Bi d x
def Dp(P:Program)(A:AS)(c:Call):Option (Prop×V):=
 match c.callee with
 | .builtin .len=>match c.args.toList,c.argTypes.toList with
   | [x],[T]=>HG (tD P T) (A.ev x)
   | _,_=>none
 | .builtin .max=>match c.args.toList with
   | [x,y]=>Ek (A.ev x) (A.ev y)
   | _=>none
 | _=>none
def AJ(P:Program)(d:Option D)(x:V)(j:Nat):Option (Prop×V):=
 match d with
 | some (.st fs)=>match fs[j]? with
   | some (off,T)=>match ti P T with
     | some i=>match x with
       | .agg vs=>match vs[j]? with
         | some v=>if (V.ns (vs.take j)==off&&(i.sz==v.n&&i.d.agg==v.isAgg))=true then some (True,v) else none
         | none=>none
       | _=>none
     | none=>none
   | none=>none
 | _=>none
def sf(P:Program)(d:Option D)(x:V)(j:Nat):Option (Prop×V):=
 match d with
 | some (.st fs)=>match fs[j]? with
   | some (off,T)=>match ti P T with
     | some i=>match x with
       | .ptr r p g o=>if (i.sz != 0)=true then some (True,.ptr r (p++[j]) g (o+off)) else none
       | .ep (.agg vs)=>match vs[j]? with
         | some v=>if (i.sz != 0&&V.ns (vs.take j)==off)=true then some (True,.ep v) else none
         | none=>none
       | _=>none
     | none=>none
   | none=>none
 | _=>none
def Ji(A:AS)(i:Option TI)(x:V)(z7:List V):Option (Prop×V×List V):=
 match i with
 | some i=>match x with
   | .ptr r p g o=>match z7 with
     | []=>none
     | .b9::z7=>match A.at r p with
       | some (g',o',v)=>if (v.n==i.sz&&i.d.agg==v.isAgg)=true then some ((g',o')=(g,o),v.R4 r p,z7) else none
       | none=>none
     | v::z7=>if (v.n==i.sz&&i.d.agg==v.isAgg)=true then some (A.at r p=some (g,o,v),v.R4 r p,z7) else none
   | .ep v=>if (v.n==i.sz&&i.d.agg==v.isAgg)=true then some (True,v,z7) else none
   | _=>none
 | none=>none
def wO(z7:List V):Option (Prop×V)->Option (Prop×V×List V)
 | some (C,v)=>some (C,v,z7)
 | none=>none
def xp(P:Program)(d:Option D)(x i:V)(z7:List V):Option (Prop×V×List V):=
 match d,i with
 | some (.sl e),.lit (.int _ i)=>match ti P e with
   | some t=>match x with
     | .sl _ xs=>match z7 with
       | v::z7=>if (v.n==t.sz)=true then some (0<=i/\xs[i.toNat]? =some v,.ep v,z7) else none
       | []=>none
     | .hd r p sz g o lo n _=>if (sz==t.sz)=true then some (0<=i/\i<n,.ptr r (p++[lo+i.toNat]) g (o+(lo+i.toNat)*sz),z7) else none
     | _=>none
   | none=>none
 | d,i=>wO z7 (lg P d x i)
def sY(P:Program)(A:AS)(op:Op)(z7:List V):Option (Prop×V×List V):=
 match op with
 | .binOp o T x y _=>wO z7 (Dw o (tD P T) (A.ev x) (A.ev y))
 | .index T x i=>wO z7 (Lz (tD P T) (A.ev x) (A.ev i))
 | .slice T x lo hi none=>match tD P T with
   | some .str=>wO z7 (MM (A.ev x) (lo.map A.ev) (hi.map A.ev))
   | d=>wO z7 (DW P d (A.ev x) (lo.map A.ev) (hi.map A.ev))
 | .call c=>wO z7 (Dp P A c)
 | .field T x j=>wO z7 (AJ P (tD P T) (A.cp x) j)
 | .fieldAddr T x j=>wO z7 (sf P (tD P T) (A.ev x) j)
 | .load T x=>Ji A (ti P T) (A.ev x) z7
 | .indexAddr T x i=>xp P (tD P T) (A.ev x) (A.ev i) z7
 | op=>wO z7 (H8 P A op)
section
variable {P:Program} {N:Nat} {ops:Array Oper} {A A':AS}
theorem ri(s:ByteArray):Str s.data.toList=s:=by apply ByteArray.ext;simp[Str]
theorem fA{z7 Qi:List V}{x:Option (Prop×V)}{C:Prop}{v:V}(h:wO z7 x=some (C,v,Qi)):x=some (C,v):=by
 cases x with
 | none=>simp[wO]at h
 | some y=>obtain⟨a,b⟩:=y;simp only[wO,Zal,Zao]at h;obtain⟨rfl,rfl,_⟩:=h;rfl
theorem Kh{op:BinOp}{d:Option D}{x y:V}{C:Prop}{v:V}(h:Dw op d x y=some (C,v))(hC:C):∃ C',vn op d x y=some (C',v)/\C':=by
 unfold Dw at h
 split at h
 rename_i a b
 simp only[vn]
 cases op <;> simp only[IK,Zal,Zao,reduceCtorEq]at h <;> obtain⟨rfl,rfl⟩:=h
 refine⟨a.size+b.size<=4611686018427387904,?_,by rw[Array.length_toList,Array.length_toList]at hC;exact hC⟩
 simp only[xN];rw[<- JO,ri,ri]
 refine⟨True,?_,trivial⟩
 simp only[xN,Lib.toList_data]
 refine⟨True,?_,trivial⟩
 simp only[xN,Lib.toList_data]
 exact⟨C,h,hC⟩
theorem uf{op:Op}{z7 Qi:List V}{C:Prop}{v:V}(h:sY P A op z7=some (C,v,Qi))(hC:C):∃ C',H8 P A op=some (C',v)/\C':=by
 unfold sY at h
 split at h
 exact Kh (fA h) hC
 rename_i T x i
 have h:=fA h
 unfold Lz at h
 split at h
 rename_i s k i' e1 e2 e3
 simp only[Zal,Zao]at h
 obtain⟨rfl,rfl⟩:=h
 refine⟨0<=i'/\i'<s.size,?_,by rw[Array.length_toList]at hC;exact hC⟩
 simp only[H8,Qx,Hn,e1,e2,e3]
 rw[<- ri s,Mv];rfl
 simp at h
 rename_i T x lo hi
 split at h
 rename_i e
 have h:=fA h
 simp only[H8,e]
 unfold MM at h
 split at h
 rename_i s e'
 unfold Jq at h
 split at h
 rename_i l hh e1 e2
 simp only[Zal,Zao]at h
 obtain⟨rfl,rfl⟩:=h
 have WW:U0 s.size (hi.map A.ev)=some hh:=by
  rw[<- e2,Array.length_toList];rfl
 refine⟨0<=l/\l<=hh/\hh<=s.size,?_,by rw[Array.length_toList]at hC;exact hC⟩
 simp only[Dj,e',Hu,e1,WW]
 rw[<- Kj,ri]
 simp at h
 simp at h
 rename_i d hd
 have h:=fA h
 refine⟨C,?_,hC⟩
 simp only[H8]
 exact h
 rename_i c
 have h:=fA h
 unfold Dp at h
 split at h
 rename_i hc
 split at h
 rename_i x T hx hT
 simp only[H8,Qx,wG,hc,hx,hT]
 unfold HG at h
 split at h
 rename_i s e1 e2
 simp only[Zal,Zao]at h
 obtain⟨rfl,rfl⟩:=h
 exact⟨True,by simp only[Bi,e1,e2,ByteArray.size,Array.length_toList],trivial⟩
 exact⟨C,h,hC⟩
 simp at h
 rename_i hc
 split at h
 rename_i x y hx
 simp only[H8,Qx,wG,hc,hx]
 exact⟨C,h,hC⟩
 simp at h
 simp at h
 rename_i T x j
 have h:=fA h
 simp only[H8]
 unfold AJ at h
 split at h
 rename_i fs e1
 split at h
 rename_i off T' e2
 split at h
 rename_i i e3
 split at h
 rename_i vs e4
 split at h
 rename_i u e5
 split at h
 rename_i hb
 simp only[Zal,Zao]at h
 obtain⟨_,rfl⟩:=h
 simp only[Zam,Zbj]at hb
 exact⟨_,by simp only[vU,e1,e2,e3,e4,e5],hb⟩
 simp at h
 simp at h
 simp at h
 simp at h
 simp at h
 simp at h
 rename_i T x j
 have h:=fA h
 simp only[H8]
 unfold sf at h
 split at h
 rename_i fs e1
 split at h
 rename_i off T' e2
 split at h
 rename_i i e3
 split at h
 rename_i r p g o e4
 split at h
 rename_i hb
 simp only[Zal,Zao]at h
 obtain⟨_,rfl⟩:=h
 exact⟨i.sz≠0,by simp only[mn,e1,e2,e3,e4],by simpa using hb⟩
 simp at h
 rename_i vs e4
 split at h
 rename_i u e5
 split at h
 rename_i hb
 simp only[Zal,Zao]at h
 obtain⟨_,rfl⟩:=h
 simp only[Zam,Zbj,bne_iff_ne]at hb
 exact⟨_,by simp only[mn,e1,e2,e3,e4,e5],hb⟩
 simp at h
 simp at h
 simp at h
 simp at h
 simp at h
 simp at h
 rename_i T x
 simp only[H8]
 unfold Ji at h
 split at h
 rename_i i e1
 split at h
 rename_i r p g o e2
 split at h
 simp at h
 split at h
 rename_i g1 o1 u e3
 split at h
 rename_i hb
 simp only[Zal]at h
 obtain⟨h1,h2⟩:=Prod.mk.inj h
 obtain⟨rfl,_⟩:=Prod.mk.inj h2
 subst h1
 obtain⟨rfl,rfl⟩:=Prod.mk.inj hC
 simp only[Zam,Zbj]at hb
 exact⟨g1=g1/\o1=o1/\u.n=i.sz/\i.d.agg=u.isAgg,by simp only[mi,e1,e2,e3],rfl,rfl,hb.1,hb.2⟩
 simp at h
 simp at h
 rename_i u QN _
 split at h
 rename_i hb
 simp only[Zal,Zao]at h
 obtain⟨rfl,rfl,_⟩:=h
 simp only[Zam,Zbj]at hb
 exact⟨g=g/\o=o/\u.n=i.sz/\i.d.agg=u.isAgg,by simp only[mi,e1,e2,hC],rfl,rfl,hb.1,hb.2⟩
 simp at h
 rename_i u e2
 split at h
 rename_i hb
 simp only[Zal,Zao]at h
 obtain⟨_,rfl,_⟩:=h
 simp only[Zam,Zbj]at hb
 exact⟨_,by simp only[mi,e1,e2],hb⟩
 simp at h
 simp at h
 simp at h
 rename_i T x i
 simp only[H8]
 unfold xp at h
 split at h
 rename_i e k i' e1 e2
 split at h
 rename_i t e3
 split at h
 rename_i full xs e4
 split at h
 rename_i u QN
 split at h
 rename_i hb
 simp only[Zal,Zao]at h
 obtain⟨rfl,rfl,_⟩:=h
 obtain⟨h0,hx⟩:=hC
 have hlt:=(Za1.1 hx).1
 have hv:xs.getD i'.toNat .b9=u:=by rw[Zak,hx];rfl
 exact⟨0<=i'/\i'<xs.length/\u.n=t.sz,by simp only[lg,e1,e2,e3,e4,hv],h0,Zaa,by simpa using hb⟩
 simp at h
 simp at h
 rename_i r p sz g o lo n c e4
 split at h
 rename_i hb
 simp only[Zal,Zao]at h
 obtain⟨rfl,rfl,_⟩:=h
 exact⟨0<=i'/\i'<n/\sz=t.sz,by simp only[lg,e1,e2,e3,e4],hC.1,hC.2,by simpa using hb⟩
 simp at h
 simp at h
 simp at h
 exact⟨C,fA h,hC⟩
 exact⟨C,fA h,hC⟩
theorem AS.le_refl(A:AS):A.le A:=⟨fun _=>.inr rfl,fun _=>.inr rfl⟩
theorem AS.le_trans{A B C:AS}(h:A.le B)(k:B.le C):A.le C:=
 ⟨fun i=>by
  rcases h.1 i with e | e
  exact .inl e
  rw[e];exact k.1 i,
  fun i=>by
   rcases h.2 i with e | e
   exact .inl e
   rw[e];exact k.2 i⟩
theorem GW{o:Oper}{K K':AS->Prop}(h:F9 P N o A K)(hK:∀ B,K B->K' B):F9 P N o A K':=
 fun Pb Kb a w F Q hs=>Oper.wp_mono (fun _ _ hn=>hn.mono hK) (h Pb Kb a w F Q hs)
def En(A:AS):List Nat->List (Nat×(Nat×V))
 | []=>[]
 | k::ks=>match lk k A.h with
   | some v=>(k,v)::En A ks
   | none=>En A ks
def fF(ks hs:List Nat)(A:AS):AS:=⟨ks.map fun k=>(k,A.get k),En A hs⟩
def nY:Op->Bool
 | .move _ | .extract _ _ | .call _ | .field _ _ _ | .fieldAddr _ _ _=>true
 | .binOp o _ _ _ _=>match o with
   | .eql | .neq | .lss | .leq | .gtr | .geq=>true
   | _=>false
 | .unOp o _ _=>match o with
   | .not=>true
   | _=>false
 | _=>false
theorem oJ{op:Op}{z7 Qi:List V}{C:Prop}{v:V}(ht:nY op=true)(h:sY P A op z7=some (C,v,Qi)):C:=by
 have hB:∀ {o:BinOp} {k:IntKind} {a b:Int} {C:Prop} {v:V},(o=.eql\/o=.neq\/o=.lss\/o=.leq\/o=.gtr\/o=.geq)->xD o k a b=some (C,v)->C:=by
  intro o k a b C v ho h
  rcases ho with rfl | rfl | rfl | rfl | rfl | rfl <;> (simp only[xD,lI,Zal,Zao]at h;rw[<- h.1];trivial)
 cases op with
 | move x=>have h:=fA (show wO z7 (H8 P A (.move x))=_ from h);simp only[H8,Qx,Zal,Zao]at h;rw[<- h.1];trivial
 | extract x i=>
   have h:=fA (show wO z7 (H8 P A (.extract x i))=_ from h)
   simp only[H8,Qx]at h
   unfold Iv at h
   repeat (split at h <;> try (solve | simp at h))
   all_goals (simp only[Zal,Zao]at h;rw[<- h.1];trivial)
 | call c=>
   have h:=fA h
   unfold Dp at h
   split at h
   split at h
   unfold HG at h
   split at h
   simp only[Zal,Zao]at h;rw[<- h.1];trivial
   unfold Bi at h
   split at h <;> first | (solve | simp at h) | (simp only[Zal,Zao]at h;rw[<- h.1];trivial)
   simp at h
   split at h
   unfold Ek at h
   split at h
   split at h
   simp only[Zal,Zao]at h;rw[<- h.1];trivial
   simp at h
   simp at h
   simp at h
   simp at h
 | field T x j=>
   have h:=fA h
   unfold AJ at h
   repeat (split at h <;> try (solve | simp at h))
   all_goals (simp only[Zal,Zao]at h;rw[<- h.1];trivial)
 | fieldAddr T x j=>
   have h:=fA h
   unfold sf at h
   repeat (first | (solve | simp at h) | split at h)
   all_goals first | (solve | simp at h) | (obtain⟨rfl,_⟩:=h;trivial) | (simp only[Zal,Zao]at h;rw[<- h.1];trivial) | (split at h <;> first | (solve | simp at h) | (split at h <;> first | (solve | simp at h) | (simp only[Zal,Zao]at h;rw[<- h.1];trivial)))
 | binOp o T x y pos=>
   have h:=fA h
   have ho:o=.eql\/o=.neq\/o=.lss\/o=.leq\/o=.gtr\/o=.geq:=by cases o <;> simp[nY]at ht ⊢
   unfold Dw at h
   split at h
   rcases ho with rfl | rfl | rfl | rfl | rfl | rfl <;> simp only[IK,Zal,Zao,reduceCtorEq]at h <;> (rw[<- h.1];trivial)
   unfold vn at h
   split at h
   split at h
   exact hB ho h
   split at h
   exact hB ho h
   simp at h
   rcases ho with rfl | rfl | rfl | rfl | rfl | rfl <;> simp only[xN,Zal,Zao,reduceCtorEq]at h <;> (rw[<- h.1];trivial)
   rcases ho with rfl | rfl | rfl | rfl | rfl | rfl <;> simp only[Ei,Zal,Zao,reduceCtorEq]at h <;> (rw[<- h.1];trivial)
   simp at h
 | unOp o T x=>
   have h:=fA (show wO z7 (H8 P A (.unOp o T x))=_ from h)
   have ho:o=.not:=by cases o <;> simp[nY]at ht ⊢
   subst ho
   simp only[H8,Qx]at h
   unfold YG at h
   split at h
   all_goals first | (solve | simp at h) | (simp only[Zal,Zao]at h;rw[<- h.1];trivial) | (simp_all;done)
 | _=>simp[nY]at ht
def jV:Op->List Operand
 | .pick c _ _=>[c]
 | op=>op.operands.toList
def pH(P:Program)(N:Nat)(ops:Array Oper):Nat->List Oper->List V->AS->Option (Prop×AS)
 | 0,_,_,A=>some (True,A)
 | _+1,[],_,A=>some (True,A)
 | n+1,o::rest,z7,A=>
   match o.dst with
   | none=>none
   | some d=>if d<N then
     match o.guard with
     | some (j,b)=>match Py A ops j b with
       | some G=>match AS.un G (jV o.op) A with
         | (C0,B)=>match sY P B o.op z7 with
           | some (C,v,z7)=>if (Rm N (jV o.op)&&!v.iU)=true then match pH P N ops n rest z7 (A.put (some d) (.gv G v)) with
             | some (C',A')=>some ((G=true->C0/\C)/\C',A')
             | none=>none else none
           | none=>none
       | none=>none
     | none=>match o.op with
       | .assign x=>pH P N ops n rest z7 ((A.drop x).put (some d) (A.ev x))
       | op=>match sY P A op z7 with
         | some (C,v,z7)=>match pH P N ops n rest z7 (A.put (some d) v) with
           | some (C',A')=>if nY op=true then some (C',A') else some (C/\C',A')
           | none=>none
         | none=>none
     else none
theorem qJ{K:AS->Prop}:∀ (n:Nat) {l:List Oper} {z7:List V} {A A':AS} {C:Prop},
 pH P N ops n l z7 A=some (C,A')->C->WL P N ops (l.drop n) A' K->WL P N ops l A K
 | 0,l,z7,A,A',C,h,hC,hK=>by
   simp only[pH,Zal,Zao]at h;obtain⟨_,rfl⟩:=h;exact hK
 | n+1,[],z7,A,A',C,h,hC,hK=>by
   simp only[pH,Zal,Zao]at h;obtain⟨_,rfl⟩:=h;exact hK
 | n+1,o::l,z7,A,A',C,h,hC,hK=>by
   have Q5:(o::l).drop (n+1)=l.drop n:=rfl
   rw[Q5]at hK
   unfold pH at h
   split at h
   simp at h
   rename_i d hd
   split at h
   case isFalse=>simp at h
   rename_i TW
   have P1:cZ N o.dst:=by rw[hd];exact TW
   cases hg:o.guard with
   | some jb=>
     obtain⟨j,b⟩:=jb
     rw[hg]at h
     simp only at h
     split at h
     case h_2=>simp at h
     rename_i G hG
     cases hu:AS.un G (jV o.op) A with
     | mk C0 B=>
       rw[hu]at h
       simp only at h
       split at h
       case h_2=>simp at h
       rename_i C1 v QN A7
       split at h
       case isFalse=>simp at h
       rename_i M1
       simp only[Zam,Bool.not_eq_true']at M1
       split at h
       case h_2=>simp at h
       rename_i C2 A2 hr
       simp only[Zal,Zao]at h
       obtain⟨rfl,rfl⟩:=h
       by_cases OK:G=true
       obtain⟨C',h1,h2⟩:=uf A7 (hC.1 OK).2
       exact GP hg hG hu h1 M1.1 P1 (fun _=>⟨(hC.1 OK).1,h2,M1.2⟩) (by rw[hd];exact qJ n hr hC.2 hK)
       refine rS hg hG (fun c=>absurd c OK) (fun U3=>⟨P1,.gv G v,fun _ _=>⟨rfl,(fun h=>absurd h OK),fun _=>rfl⟩,?_⟩)
       rw[hd];exact qJ n hr hC.2 hK
   | none=>
     rw[hg]at h
     simp only at h
     show gd ops o A _ _
     unfold gd
     rw[hg]
     simp only
     split at h
     rename_i x Og
     exact xa Og P1 (by rw[hd];exact qJ n h hC hK)
     · split at h
       case h_2=>simp at h
       rename_i C1 v QN A7
       split at h
       case h_2=>simp at h
       rename_i C2 A2 hr
       split at h
       rename_i ht
       simp only[Zal,Zao]at h
       obtain⟨rfl,rfl⟩:=h
       obtain⟨C',h1,h2⟩:=uf A7 (oJ ht A7)
       exact uq h1 h2 P1 (by rw[hd];exact qJ n hr hC hK)
       simp only[Zal,Zao]at h
       obtain⟨rfl,rfl⟩:=h
       obtain⟨C',h1,h2⟩:=uf A7 hC.1
       exact uq h1 h2 P1 (by rw[hd];exact qJ n hr hC.2 hK)
theorem EU(op:Op):∀ t,Operand.tmp t∈jV op->Operand.tmp t∈op.operands.toList:=by
 intro t ht
 cases op with
 | pick c a b=>simp only[jV,Zat]at ht;simp[Op.operands,ht]
 | _=>exact ht
def mo(P:Program):List ResultVar->List (m0×V)->Bool
 | .cell _ T::rs,(_,v)::xs=>(match ti P T with | some i=>v.n==i.sz&&i.d.agg==v.isAgg | none=>false)&&mo P rs xs
 | .tmp _::rs,(_,v)::xs=>(match v with | .tup _=>false | .gv _ _=>false | _=>true)&&mo P rs xs
 | [],[]=>true
 | _,_=>false
theorem rC:∀ {rs:List ResultVar} {xs:List (m0×V)},mo P rs xs=true->rY P rs xs
 | [],[],_=>trivial
 | .cell t T::rs,(r,v)::xs,h=>by
   simp only[mo,Zam]at h
   refine⟨?_,rC h.2⟩
   have h1:=h.1
   cases ht:ti P T with
   | none=>rw[ht]at h1;simp at h1
   | some i=>rw[ht]at h1;simpa using h1
 | .tmp t::rs,(r,v)::xs,h=>by
   simp only[mo,Zam]at h
   refine⟨?_,rC h.2⟩
   have h1:=h.1
   cases v <;> first | trivial | simp at h1
 | [],_::_,h=>by simp[mo]at h
 | .cell _ _::_,[],h=>by simp[mo]at h
 | .tmp _::_,[],h=>by simp[mo]at h
def nodupB:List m0->Bool
 | []=>true
 | r::rs=>!(rs.any fun x=>decide (x=r))&&nodupB rs
theorem vA:∀ {l:List m0},nodupB l=true->l.Nodup
 | [],_=>Za8
 | r::rs,h=>by
   simp only[nodupB,Zam,Bool.not_eq_true',List.any_eq_false,Zbi]at h
   exact List.nodup_cons.2 ⟨fun c=>h.1 r c rfl,vA h.2⟩
abbrev iN(n:Nat):V:=.lit (.int .i64 n)
abbrev iV(x:Int):V:=.lit (.int .i64 x)
abbrev uN(n:Nat):V:=.lit (.int .u8 n)
abbrev bV(b:Bool):V:=.lit (.bool b)
abbrev sV(l:BL):V:=.lit (.string (Str l))
theorem aq{α:Type}{f:α->V}{l:List α}{i:Nat}{d:α}(h:i<l.length):(l.map f)[i]? =some (f (l.getD i d)):=by
 rw[List.getElem?_map,Zar h,Zak,Zar h];rfl
theorem all_map{α:Type}{f:α->V}{l:List α}{n:Nat}(h:∀ x,(f x).n=n):∀ x∈l.map f,x.n=n:=by
 intro x hx
 obtain⟨y,_,rfl⟩:=List.mem_map.1 hx
 exact h y
end
section
variable {P:Program} {N:Nat} {ops:Array Oper} {A A' A1:AS}
def W8(P:Program)(e:Nat)(sz:Nat):Bool:=match P.info? e with
 | some inf=>match inf.zero with
   | some z=>z.cells.size==sz
   | none=>false
 | none=>false
theorem nO{e sz:Nat}(h:W8 P e sz=true):∃ inf z,P.info? e=some inf/\inf.zero=some z/\z.cells.size=sz:=by
 unfold W8 at h
 split at h
 rename_i inf h1
 split at h
 rename_i z h2;exact⟨inf,z,h1,h2,by simpa using h⟩
 simp at h
 simp at h
def Jf(P:Program)(T:Nat):Option (List Value):=match P.info? T with
 | some inf=>match inf.zero with
   | some z=>some z.cells.toList
   | none=>none
 | none=>none
theorem ew{T:Nat}{v:V}{cs:List Value}(h:Jf P T=some cs)(hv:v.flat=some cs):pq P T v:=by
 unfold Jf at h
 split at h
 rename_i inf h1
 split at h
 rename_i z h2;exact⟨inf,z,h1,h2,by rw[hv,h]⟩
 simp at h
 simp at h
def Ev(sz:Nat):List V->Bool
 | []=>true
 | v::vs=>v.isVal&&v.n==sz&&Ev sz vs
theorem xZ{sz:Nat}:∀ {vs:List V},Ev sz vs=true->∀ v,v∈vs->v.isVal=true/\v.n=sz
 | [],_,v,hv=>by simp at hv
 | u::us,h,v,hv=>by
   simp only[Ev,Zam,Zbj]at h
   simp only[List.mem_cons]at hv
   rcases hv with rfl | hv
   exact h.1
   exact xZ h.2 v hv
def Tz(P:Program)(T e len:Nat)(i:TI)(vs:List V):Bool:=W8 P e i.sz&&vs.length==len&&Nat.ble (len*i.sz) 16777216&&Nat.blt 0 i.sz&&Ev i.sz vs
theorem Gn{o:Oper} {K:AS->Prop} {T e len:Nat} {e9:Array (Nat×Operand)} {i:TI} {vs:List V} (ho:o.op=.buildSlice T len e9) (hd:cZ N o.dst) (hT:tD P T=some (.sl e)) (hi:ti P e=some i)
 (SN:fK A 0 e9.toList=some vs) (hB:Tz P T e len i vs=true) (hK:K (A.put o.dst (.sl true vs))):F9 P N o A K:=by
 simp only[Tz,Zam,Zbj]at hB
 obtain⟨⟨⟨⟨h1,h2⟩,h3⟩,h4⟩,h5⟩:=hB
 obtain⟨inf,z,k1,k2,_⟩:=nO h1
 exact xC ho hd hT hi ⟨inf,z,k1,k2⟩ SN h2 (Nat.le_of_ble_eq_true h3) (Nat.lt_of_succ_le (Nat.le_of_ble_eq_true h4)) (xZ h5) hK
theorem zw{K:AS->Prop} {d:Option Nat} {T len ty:Nat} {e9:Array (Nat×Operand)} {pos:String} {after:Array Edge} {rest:List Oper} (e:Nat) (i:TI) (vs:List V)
 (SO:tD P T=some (.sl e)/\ti P e=some i) (hd:cZ N d) (SN:fK A 0 e9.toList=some vs) (hB:Tz P T e len i vs=true) (hK:WL P N ops rest (A.put d (.sl true vs)) K):
 WL P N ops (⟨d,.buildSlice T len e9,ty,pos,after,none⟩ :: rest) A K:=by
 show F9 P N _ A _
 exact Gn rfl hd SO.1 SO.2 SN hB hK
theorem ql:∀ (ps:List (Nat×Operand)) (k:Nat),(∀ t,Operand.tmp t∈ps.map (·.2)->A'.get t=A.get t)->fK A' k ps=fK A k ps
 | [],_,_=>rfl
 | (i,x)::r,k,h=>by
   simp only[fK]
   rw[ql r (k+1) (fun t ht=>h t (by simp[ht])),mF (x:=x) (fun t e=>h t (by simp[e]))]
def wj(places:List (Nat×Nat)):List V->List (Nat×V)->Option (List V)
 | zs,[]=>some zs
 | zs,(i,v)::r=>match places[i]?,zs[i]? with
   | some (off,sz),some z=>if (V.ns (zs.take i)==off&&v.n==sz&&z.n==sz&&v.isVal)=true then wj places (zs.set i v) r else none
   | _,_=>none
theorem Ax{places:List (Nat×Nat)}:∀ {ps:List (Nat×V)} {zs vs:List V},wj places zs ps=some vs->∃ C,sd places zs ps=some (C,vs)/\C
 | [],zs,vs,h=>by simp only[wj,Zal]at h;subst h;exact⟨True,rfl,trivial⟩
 | (i,v)::r,zs,vs,h=>by
   simp only[wj]at h
   split at h
   rename_i off sz z h1 h2
   split at h
   rename_i hb
   simp only[Zam,Zbj]at hb
   obtain⟨C,hf,hC⟩:=Ax h
   exact⟨V.ns (zs.take i)=off/\v.n=sz/\z.n=sz/\v.isVal=true/\C,by simp only[sd,h1,h2,hf],hb.1.1.1,hb.1.1.2,hb.1.2,hb.2,hC⟩
   simp at h
   simp at h
def nN(P:Program)(A:AS)(T:Nat)(zs:List V)(e9:List (Nat×Operand)):Option V:=
 match tD P T with
 | some (.st fs)=>match oP P fs with
   | some places=>match wj places zs (e9.map fun (i,x)=>(i,A.cp x)) with
     | some vs=>some (.agg vs)
     | none=>none
   | none=>none
 | _=>none
theorem zb{T:Nat}{zs:List V}{e9:List (Nat×Operand)}{v:V}(h:nN P A T zs e9=some v):∃ C,tG P A T zs e9=some (C,v)/\C:=by
 unfold nN at h
 split at h
 rename_i fs h1
 split at h
 rename_i places h2
 split at h
 rename_i vs h3
 simp only[Zal]at h
 subst h
 obtain⟨C,hf,hC⟩:=Ax h3
 exact⟨C,by simp only[tG,h1,h2,hf],hC⟩
 simp at h
 simp at h
 simp at h
theorem IF{K:AS->Prop} {d:Option Nat} {T ty:Nat} {e9:Array (Nat×Operand)} {pos:String} {after:Array Edge} {rest:List Oper} (zs:List V) (v:V)
 (hz:pq P T (.agg zs)) (hd:cZ N d) (hb:nN P A T zs e9.toList=some v) (hK:WL P N ops rest (A.put d v) K):
 WL P N ops (⟨d,.build T e9,ty,pos,after,none⟩ :: rest) A K:=by
 obtain⟨C,h1,h2⟩:=zb hb
 show F9 P N _ A _
 exact yN rfl hd hz h1 h2 hK
end
section
variable {P:Program} {N:Nat} {ops:Array Oper} {A A' A1:AS}
variable {w:World} {Pb Kb:Nat->Prop} {a:Act} {F:m0->List Nat}
def n7(b:UInt8):V:=.lit (.int .u8 b.toNat)
theorem Ja:∀ (bs:BL) {cs:List Value} {F:List Nat},RL w Pb (bs.map n7) cs F->cs=bs.map fun b=>Value.int .u8 (b.toNat:Int)
 | [],cs,F,h=>h.1
 | b::bs,cs,F,h=>by
   obtain⟨c1,c2,F1,F2,rfl,rfl,h1,h2⟩:=h
   rw[Ja bs h2,h1.2.1];rfl
theorem Bv:∀ (l:BL),RL w Pb (l.map n7) (l.map fun b=>Value.int .u8 (b.toNat:Int)) []
 | []=>⟨rfl,rfl⟩
 | b::l=>⟨[.int .u8 (b.toNat:Int)],_,[],[],rfl,rfl,⟨rfl,rfl,rfl⟩,Bv l⟩
theorem qv:∀ (bs:BL),V.aK (bs.map n7)=false
 | []=>rfl
 | b::bs=>by simp[V.aK,n7,V.dz,qv bs]
theorem tO(bs:BL):aM 1 (bs.map n7):=fun x hx=>by
 obtain⟨b,_,rfl⟩:=List.mem_map.1 hx;rfl
theorem CR:∀ (bs l:BL),(bs.map fun b=>(b.toNat:Int)).foldl (fun (r:ByteArray) n=>r.push (UInt8.ofNat n.toNat)) (Str l)=Str (l++bs)
 | [],l=>by simp
 | b::bs,l=>by
   simp only[Zbc,List.foldl_cons]
   have:(Str l).push (UInt8.ofNat (b.toNat:Int).toNat)=Str (l++[b]):=by
    apply ByteArray.ext
    simp[Str,ByteArray.push]
   rw[this,CR bs];simp
theorem sS{o:Oper} {K:AS->Prop} {src dst e:Nat} {x:Operand} {C:Prop} {bs:BL} (ho:o.op=.convert src dst x) (hd:cZ N o.dst) (h1:tD P src=some (.sl e)) (h2:tD P e=some (.int .u8)) (h3:tD P dst=some .str)
 (hx:Qg A x=some (C,bs.map n7)) (hC:C) (hK:K (A.put o.dst (sV bs))):F9 P N o A K:=by
 refine ky hd hK fun Pb Kb a w F hs=>?_
 obtain⟨B,c,flat,hv,hr,hf,hl⟩:=oZ (P:=P) hs hx hC (tO bs) (qv bs)
 obtain⟨td,Y5,Ov⟩:=df h1
 obtain⟨TC,PS,Se⟩:=df h2
 obtain⟨YI,Y4,Ys⟩:=df h3
 cases td <;> simp[dS]at Ov
 cases TC <;> simp[dS]at Se
 cases YI <;> simp[dS]at Ys
 subst Ov Se
 refine⟨.string (Str bs),?_,dH rfl⟩
 have S7:=Ja bs hr
 simp only[execOp,ho,hv,Zay,run_convert_bytes_string w src dst _ B _ c Y5 PS Y4]
 have B6:(Conv.bytesToString (.slice B (bs.map n7).length c)).run P w=.ok (.string (Str bs)) w:=by
  cases B with
  | none=>
    have:=hf w (fun _=>rfl)
    rw[hv]at this
    simp only[Builtin.firstCells]at this
    have hb:flat=[]:=by
     have h:=this
     simp at h
     exact h
    rw[S7]at hb
    have:bs=[]:=by simpa using hb
    subst this
    rfl
  | some ad=>
    have:=hf w (fun _=>rfl)
    rw[hv]at this
    simp only[Builtin.firstCells,Nat.mul_one]at this
    rw[run_bytesToString w ad _ c (bs.map fun b=>(b.toNat:Int)) (by rw[this,S7];simp[List.map_map,Function.comp_def])]
    have:=CR bs []
    simp only[List.nil_append]at this
    rw[<- this];rfl
 rw[B6];rfl
theorem zT{o:Oper} {K:AS->Prop} {src dst e d:Nat} {x:Operand} {l:BL} (ho:o.op=.convert src dst x) (hd:o.dst=some d) (hN:d<N) (h1:tD P src=some .str) (h2:tD P dst=some (.sl e)) (h3:tD P e=some (.int .u8))
 (hx:A.ev x=sV l) (hK:∀ g c,K (A.put (some d) (.own 1 (l.map n7) g 0 c))):F9 P N o A K:=by
 intro Pb Kb a w F Q hs
 obtain⟨td,Y5,Ov⟩:=df h1
 obtain⟨TC,PS,Se⟩:=df h2
 obtain⟨YI,Y4,Ys⟩:=df h3
 cases td <;> simp[dS]at Ov
 cases TC <;> simp[dS]at Se
 cases YI <;> simp[dS]at Ys
 obtain rfl:=Se
 subst Ys
 rename_i el
 have Wa:=cF hs hx
 have B6:=Lib.run_convert_string_bytes (P:=P) w src dst _ (Str l) Y5 PS Y4
 unfold Oper.wp
 have OW:(execOp a.eval o).run P w=.ok (.value (.slice (some ⟨w.heap.size,0,none⟩) (Str l).size (grownCap w (Str l).size 0 el))) (Lib.bytesWorld w el (Str l)):=by
  simp only[execOp,ho,Wa,Zay,B6,Zaq];rfl
 rw[OW,Oper.upon_value,hd]
 have hold:=fun j (hj:j<w.heap.size)=>Lib.bytesWorld_at_old w el (Str l) j hj
 have hsz:=Lib.bytesWorld_size w el (Str l)
 have Qn:=Lib.bytesWorld_at_new w el (Str l)
 obtain⟨w',UR⟩:∃ w',w'=Lib.bytesWorld w el (Str l):=⟨_,rfl⟩
 obtain⟨c,hc⟩:∃ c,c=grownCap w (Str l).size 0 el:=⟨_,rfl⟩
 have hcap:l.length<=c:=by
  rw[hc,<- jq]
  simp only[grownCap,Question.cut];exact Nat.le_add_right _ _
 have RJ:A4 Kb w w':=by
  rw[UR];exact⟨rfl,rfl,rfl,Zaa,fun g hg=>hold g (hs.bound g hg),Shp.of_eq hold⟩
 have B4:s9 N Pb Kb A a w' F:=hs.grow (by rw[UR];exact hold) (by rw[UR];omega) (fun _ h=>h) (fun g h=>.inl h) hs.sub
 rw[<- UR,<- hc]
 have V':∀ r g,g∈F r->g≠w.heap.size:=fun r g hg=>by have:=(hs.free r g hg).2;omega
 have Q9: ¬ Kb w.heap.size:=fun h=>by have:=hs.bound _ h;omega
 by_cases h0:c=0
 have WH:l=[]:=Za3 Zaa
 subst WH
 have hrv:RV w' Pb (.own 1 (([]:BL).map n7) 0 0 0) (.slice (some ⟨w.heap.size,0,none⟩) (Str []).size c) []:=.inl ⟨rfl,rfl,rfl,some ⟨w.heap.size,0,none⟩,by rw[h0];rfl⟩
 exact⟨_,Pb,Kb,_,hK 0 0,B4.put hN (F':=[]) hrv Zab Za8 Zab,fun _ h=>h,fun _ h=>h,fun _ h=>.inl h,RJ⟩
 have hrv:RV w' Pb (.own 1 (l.map n7) w.heap.size 0 c) (.slice (some ⟨w.heap.size,0,none⟩) (Str l).size c) [w.heap.size]:=by
  refine .inr ⟨Zaa,Zaa,by simpa using hcap,?_,tO l,fun h=>Q9 (hs.sub _ h),l.map (fun b=>Value.int .u8 (b.toNat:Int)),[],Lib.bytesCells w el (Str l),rfl,Bv l,?_,?_,?_⟩
  simp[jq]
  exact⟨el,((Lib.bytesCells w el (Str l)).size,(Lib.bytesCells w el (Str l)).size+1),by rw[UR];exact Qn,fun i hi=>by simp;omega⟩
  simp only[Lib.bytesCells,Array.size_append,Array.size_map,Array.size_replicate,<- hc]
  have:(Str l).data.size=l.length:=by simp[Str]
  rw[this,jq];omega
  intro j u hu
  simp only[List.getElem?_map,Option.map_eq_some_iff]at hu
  obtain⟨b,hb,rfl⟩:=hu
  have hj:j<l.length:=(Za1.1 hb).1
  simp only[Lib.bytesCells,Zau]
  rw[Array.getElem?_append_left (by simp[Str];exact hj)]
  simp[Str,hb]
 refine⟨_,Pb,Kb,_,hK w.heap.size c,B4.put hN (F':=[w.heap.size]) hrv ?_ Zab ?_,fun _ h=>h,fun _ h=>h,fun _ h=>.inl h,RJ⟩
 intro r _ g hg Q2
 simp only[Zat]at hg
 exact V' r g Q2 hg
 intro g hg
 simp only[Zat]at hg
 subst hg
 exact⟨Q9,by rw[UR];omega⟩
theorem BS{K:AS->Prop} {d:Option Nat} {src dst ty:Nat} {x:Operand} {pos:String} {after:Array Edge} {rest:List Oper} (e:Nat) (C:Prop) (bs:BL)
 (ht:tD P src=some (.sl e)/\tD P e=some (.int .u8)/\tD P dst=some .str) (hd:cZ N d) (hx:Qg A x=some (C,bs.map n7)) (hC:C) (hK:WL P N ops rest (A.put d (sV bs)) K):
 WL P N ops (⟨d,.convert src dst x,ty,pos,after,none⟩ :: rest) A K:=by
 show F9 P N _ A _
 exact sS rfl hd ht.1 ht.2.1 ht.2.2 hx hC hK
theorem BF{K:AS->Prop} {d src dst ty:Nat} {x:Operand} {pos:String} {after:Array Edge} {rest:List Oper} (e:Nat) (l:BL)
 (ht:tD P src=some .str/\tD P dst=some (.sl e)/\tD P e=some (.int .u8)) (hN:d<N) (hx:A.ev x=sV l) (hK:∀ g c,WL P N ops rest (A.put (some d) (.own 1 (l.map n7) g 0 c)) K):
 WL P N ops (⟨some d,.convert src dst x,ty,pos,after,none⟩ :: rest) A K:=by
 show F9 P N _ A _
 exact zT rfl rfl hN ht.1 ht.2.1 ht.2.2 hx hK
theorem s9.AN(hs:s9 N Pb Kb A a w F){t:Nat}{v:V}(ht:t<N)(h:RV w Pb v (a.tmps.getD t undef) (F (.slot t))):s9 N Pb Kb (A.put (some t) v) a w F:=by
 have h2:=hs.put (d:=t) (v:=v) (x:=a.tmps.getD t undef) (F':=F (.slot t)) ht h (fun r hr g hg=>hs.cL _ _ (Ne.symm hr) g hg) (hs.nodup _) (fun g hg=>hs.free _ g hg)
 rw[qW]at h2
 have e:cM F (.slot t) (F (.slot t))=F:=by
  funext r;unfold cM;split
  rename_i e;rw[e]
  rfl
 rw[e]at h2
 exact h2
theorem s9.jt(hs:s9 N Pb Kb A a w F){t i sz n g o c:Nat}{xs:List V}(ht:t<N)(hi:i<N)(Wz:t≠i)(h1:A.get t=.hd (.slot i) [] sz g o 0 n c)(h2:A.get i=.own sz xs g o c)(hn:n=xs.length):
 ∃ F',s9 N Pb Kb ((A.put (some i) .b9).put (some t) (.own sz xs g o c)) a w F':=by
 subst hn
 obtain⟨Fx,F1,hr,Pf,hnd,x6,hfr,_⟩:=hs.take (.tmp i)
 rw[rF h2]at Pf
 have hr:RV w Pb (A.get i) (a.tmps.getD i undef) Fx:=hr
 rw[h2]at hr
 have hh:=hs.slot t
 rw[h1]at hh
 obtain⟨_,hle,B,hv,hB⟩:=hh
 have hv:a.tmps.getD t undef=.slice B xs.length c:=(List.cons.inj hv).1
 have G0:RV w Pb (.own sz xs g o c) (a.tmps.getD t undef) Fx:=by
  rw[hv]
  rcases hr with ⟨rfl,rfl,rfl,A0,_⟩ | ⟨k1,k2,k3,k4,k5⟩
  exact .inl ⟨rfl,rfl,rfl,B,rfl⟩
  have:=hB k1
  rw[Nat.zero_mul,Nat.add_zero]at this
  subst this
  exact .inr ⟨k1,k2,k3,rfl,k5⟩
 have h3:=Pf.put (d:=t) (v:=.own sz xs g o c) (x:=a.tmps.getD t undef) (F':=Fx) ht G0 (fun r _ g hg=>x6 r g hg) hnd hfr
 rw[qW]at h3
 exact⟨_,h3⟩
theorem cP{α:Type}{f:α->V}(hf:∀ x,(f x).dz=false):∀ (l:List α),V.aK (l.map f)=false
 | []=>rfl
 | x::l=>by simp only[Zbc,V.aK,hf x,cP hf l,Bool.or_self]
theorem dY{α:Type}{f:α->V}{n:Nat}(hf:∀ x,(f x).n=n)(l:List α):aM n (l.map f):=fun x hx=>by
 obtain⟨y,_,rfl⟩:=List.mem_map.1 hx;exact hf y
theorem aT{α:Type}{f:α->V}(hf:∀ x,(f x).er=f x):∀ (l:List α),V.C8 (l.map f)=l.map f
 | []=>rfl
 | x::l=>by simp only[Zbc,V.C8,hf x,aT hf l]
theorem Ac{o:Oper} {K:AS->Prop} {x y:Operand} {N2:Array TypeId} {k:IntKind} {p q r:Int} {b:Builtin} (ho:o.op=.call { callee:=.builtin b,args:= #[x,y],argTypes:=N2 }) (hd:cZ N o.dst)
 (hx:A.ev x=.lit (.int k p)) (hy:A.ev y=.lit (.int k q)) (hb:(b=.max/\r=max p q)\/(b=.min/\r=min p q)) (hK:K (A.put o.dst (.lit (.int k r)))):F9 P N o A K:=by
 refine ky hd hK fun Pb Kb a w F hs=>⟨.int k r,?_,dH rfl⟩
 have e:(#[x,y].map a.eval)= #[.int k p,.int k q]:=by simp[cF hs hx,cF hs hy]
 rcases hb with ⟨rfl,rfl⟩ | ⟨rfl,rfl⟩
 simp only[execOp,ho,resolve,invoke,builtin,Zay,Zaz,Zaq,e,Lib.run_max_ints]
 simp only[execOp,ho,resolve,invoke,builtin,Zay,Zaz,Zaq,e,Lib.run_min_ints]
theorem Mg{K:AS->Prop} {d:Option Nat} {x y:Operand} {N2:Array TypeId} {ty:TypeId} {pos:String} {after:Array Edge} {rest:List Oper} (k:IntKind) (p q:Int) (hd:cZ N d)
 (hx:A.ev x=.lit (.int k p)) (hy:A.ev y=.lit (.int k q)) (hK:WL P N ops rest (A.put d (.lit (.int k (max p q)))) K):
 WL P N ops (⟨d,.call { callee:=.builtin .max,args:= #[x,y],argTypes:=N2 },ty,pos,after,none⟩ :: rest) A K:=by
 show F9 P N _ A _
 exact Ac rfl hd hx hy (.inl ⟨rfl,rfl⟩) hK
theorem LC{K:AS->Prop} {d:Option Nat} {x y:Operand} {N2:Array TypeId} {ty:TypeId} {pos:String} {after:Array Edge} {rest:List Oper} (k:IntKind) (p q:Int) (hd:cZ N d)
 (hx:A.ev x=.lit (.int k p)) (hy:A.ev y=.lit (.int k q)) (hK:WL P N ops rest (A.put d (.lit (.int k (min p q)))) K):
 WL P N ops (⟨d,.call { callee:=.builtin .min,args:= #[x,y],argTypes:=N2 },ty,pos,after,none⟩ :: rest) A K:=by
 show F9 P N _ A _
 exact Ac rfl hd hx hy (.inr ⟨rfl,rfl⟩) hK
theorem Fc{sz g o c lo n c':Nat} {xs:List V} {x y:Value} {Fx:List Nat} (hr:R w Pb (.own sz xs g o c) [x] Fx) (hle:n<=c') {B:Option Addr} (hy:y=.slice B n c') (hB:0<c'->B=some ⟨g,o+lo*sz,none⟩)
 (hn:lo+n<=xs.length) (hc:lo+c'<=c) (ho:V.aK xs=false):∃ F',R w Pb (.own sz ((xs.drop lo).take n) g (o+lo*sz) c') [y] F'/\∀ z,z∈F'->z∈Fx:=by
 subst hy
 by_cases h0:c'=0
 subst h0
 have:n=0:=Zaa
 subst this
 exact⟨[],.inl ⟨rfl,Zab,rfl,B,rfl⟩,Zab⟩
 rcases hr with ⟨rfl,_⟩ | ⟨h1,h2,h3,_,hN,hP,flat,F',cells,hF,O1,hb,hsz,s8⟩
 omega
 have hF0:=ia xs ho O1
 subst hF0
 obtain⟨c1,Rs,Pj⟩:=qK xs lo O1
 obtain⟨c3,WC,XT⟩:=qO _ n Rs
 have hlen:((xs.drop lo).take n).length=n:=Zaj
 refine⟨[g],.inr ⟨Zaa,h2,Zaa,?_,fun z hz=>hN z (List.mem_of_mem_drop (List.mem_of_mem_take hz)),hP,c3,[],cells,rfl,WC,hb,?_,fun j u hu=>?_⟩,by rw[hF];simp⟩
 rw[hlen,hB Zaa]
 have:(lo+c')*sz<=c*sz:=Nat.mul_le_mul_right _ hc
 rw[Nat.add_mul]at this;omega
 have:=Pj j u (XT j u hu)
 rw[eT xs lo hN Zaa]at this
 have:=s8 _ _ this
 rw[Zbh];exact this
theorem Ef{K:AS->Prop} {i:Nat} {x:Operand} {ty:TypeId} {pos:String} {after:Array Edge} {rest:List Oper} (lo n c':Nat) {sz g o c:Nat} (xs:List V) (hi:i<N)
 (hx:A.ev x=.hd (.slot i) [] sz g o lo n c') (h2:A.get i=.own sz xs g o c) (hn:lo+n<=xs.length) (hc:lo+c'<=c) (ho:V.aK xs=false)
 (hK:WL P N ops rest (A.put (some i) (.own sz ((xs.drop lo).take n) g (o+lo*sz) c')) K):WL P N ops (⟨some i,.assign x,ty,pos,after,none⟩ :: rest) A K:=by
 show F9 P N _ A _
 intro Pb Kb a w F Q hs
 obtain⟨_,hr⟩:=eE hs x
 rw[hx]at hr
 obtain⟨_,hle,B,hv,hB⟩:=hr
 have hv:a.eval x=.slice B n c':=(List.cons.inj hv).1
 have OX:=hs.slot i
 rw[h2]at OX
 obtain⟨F',G0,PY⟩:=Fc (w:=w) (Pb:=Pb) OX hle hv hB hn hc ho
 have hnd:F'.Nodup:=by
  rcases G0 with ⟨_,_,rfl,_⟩ | ⟨_,_,_,_,_,_,flat,F2,cells,hF,O1,_⟩
  exact Za8
  have:=ia _ (by
   have:=rZ xs lo ho
   have h3:∀ (l:List V) (k:Nat),V.aK l=false->V.aK (l.take k)=false:=by
    intro l
    induction l with
    | nil=>intro k _;simp[V.aK]
    | cons v l ih=>
      intro k h
      cases k with
      | zero=>rfl
      | succ k=>simp only[List.take_succ_cons,V.aK,Bool.or_eq_false_iff]at h ⊢;exact⟨h.1,ih k h.2⟩
   exact h3 _ n this) O1
  subst this
  rw[hF];simp
 unfold Oper.wp
 have:(execOp a.eval ⟨some i,.assign x,ty,pos,after,none⟩).run P w=.ok (.value (a.eval x)) w:=rfl
 rw[this,Oper.upon_value]
 exact⟨_,Pb,Kb,_,hK,hs.put hi G0 (fun r hr g hg=>fun Q2=>hs.cL _ _ (Ne.symm hr) g (PY g hg) Q2) hnd (fun g hg=>hs.free _ g (PY g hg)),fun _ h=>h,fun _ h=>h,fun _ h=>.inl h,A4.refl _ _⟩
end
section
variable {P:Program} {N:Nat} {ops:Array Oper} {A A' A1:AS}
def xw(A:AS):List ResultVar->Option (Prop×List (m0×V))
 | []=>some (True,[])
 | r::rs=>match xw A rs with
   | some (C,xs)=>match r with
     | .tmp t=>some (C,(.slot t,A.get t)::xs)
     | .cell t _=>match A.get t with
       | .ptr (.key k) [] g 0=>match lk k A.h with
         | some (g',v)=>some (g'=g/\C,(.key k,v)::xs)
         | none=>none
       | _=>none
   | none=>none
theorem uB:∀ {rs:List ResultVar} {C:Prop} {xs:List (m0×V)},xw A rs=some (C,xs)->C->rm A rs=some xs
 | [],C,xs,h,_=>by simp only[xw,Zal,Zao]at h;rw[<- h.2];rfl
 | r::rs,C,xs,h,hC=>by
   simp only[xw]at h
   split at h
   case h_2=>simp at h
   rename_i C1 xs1 hr
   cases r with
   | tmp t=>
     simp only[Zal,Zao]at h
     obtain⟨rfl,rfl⟩:=h
     simp only[rm,Ar,uB hr hC]
   | cell t T=>
     simp only at h
     split at h
     rename_i k g hg
     split at h
     rename_i g' v hk
     simp only[Zal,Zao]at h
     obtain⟨rfl,rfl⟩:=h
     obtain⟨rfl,hC⟩:=hC
     simp only[rm,Ar,hg,hk,if_true,uB hr hC]
     simp at h
     simp at h
end
mutual
def V.kill:V->V
 | .own .. =>.b9
 | .ow .. =>.b9
 | .om .. =>.b9
 | .agg vs=>.agg (V.lv vs)
 | v=>v
def V.lv:List V->List V
 | []=>[]
 | v::vs=>v.kill::V.lv vs
end
section
variable {P:Program} {N:Nat} {ops:Array Oper} {A A' A1:AS}
variable {w:World} {Pb Kb:Nat->Prop} {a:Act} {F:m0->List Nat}
mutual
theorem AM:∀ v:V,v.kill.n=v.n
 | .own .. =>rfl
 | .ow .. =>rfl
 | .om .. =>rfl
 | .mp .. =>rfl
 | .agg vs=>by simp only[V.kill,V.n];exact CV vs
 | .tup _=>rfl | .gv _ _=>rfl | .lit _=>rfl | .sl .. =>rfl | .hd .. =>rfl | .ptr .. =>rfl | .ep _=>rfl | .b9=>rfl
theorem CV:∀ vs:List V,V.ns (V.lv vs)=V.ns vs
 | []=>rfl
 | v::vs=>by simp only[V.lv,V.ns,AM v,CV vs]
end
mutual
theorem FK:∀ (v:V) {cs F},R w Pb v cs F->R w Pb v.kill cs []
 | .own sz xs g o c,cs,F,h=>by
   rcases h with ⟨_,_,_,B,rfl⟩ | ⟨_,_,_,rfl,_⟩ <;> exact⟨rfl,_,rfl,rfl⟩
 | .ow sz xs,cs,F,h=>by
   obtain⟨g,o,c,h⟩:=h
   rcases h with ⟨_,_,_,B,rfl⟩ | ⟨_,_,_,rfl,_⟩ <;> exact⟨rfl,_,rfl,rfl⟩
 | .om ..,_,_,h=>⟨rfl,_,h.2.1,rfl⟩
 | .mp ..,_,_,h=>⟨rfl,h.2⟩
 | .agg vs,cs,F,h=>by simp only[R,V.kill]at h ⊢;exact Cw vs h
 | .tup _,_,_,h=>by simp[R]at h
 | .gv _ _,_,_,h=>by simp[R]at h
 | .lit x,_,_,h=>⟨h.1,h.2.1,rfl⟩
 | .sl ..,_,_,h=>⟨rfl,h.2⟩
 | .hd ..,_,_,h=>⟨rfl,h.2⟩
 | .ptr ..,_,_,h=>⟨rfl,h.2⟩
 | .ep _,_,_,h=>⟨rfl,h.2⟩
 | .b9,_,_,h=>⟨rfl,h.2⟩
theorem Cw:∀ (vs:List V) {cs F},RL w Pb vs cs F->RL w Pb (V.lv vs) cs []
 | [],_,_,h=>⟨h.1,rfl⟩
 | v::vs,_,_,h=>by
   obtain⟨c1,c2,F1,F2,rfl,rfl,h1,h2⟩:=h
   exact⟨c1,c2,[],[],rfl,rfl,FK v h1,Cw vs h2⟩
end
def lA(F F1 F2:List Nat):Prop:=(∀ y,y∈F1->y∈F)/\(∀ y,y∈F2->y∈F)/\(F.Nodup->F1.Nodup/\F2.Nodup/\∀ y,y∈F1->y ∉ F2)
theorem lA.Yb{X F Y F1 F2:List Nat}(h:lA F F1 F2):lA (X++F++Y) (X++F1++Y) F2:=by
 obtain⟨h1,h2,h3⟩:=h
 refine⟨fun y hy=>?_,fun y hy=>by simp[h2 y hy],fun hnd=>?_⟩
 simp only[Zav]at hy ⊢
 rcases hy with (hy | hy) | hy
 exact .inl (.inl hy)
 exact .inl (.inr (h1 y hy))
 exact .inr hy
 simp only[List.nodup_append,Zav]at hnd ⊢
 obtain⟨⟨n1,n2,n3⟩,n4,n5⟩:=hnd
 obtain⟨k1,k2,k3⟩:=h3 n2
 refine⟨⟨⟨n1,k1,fun p hp q hq=>n3 p hp q (h1 q hq)⟩,n4,fun p hp q hq=>?_⟩,k2,fun y hy Wx=>?_⟩
 rcases hp with hp | hp
 exact n5 p (.inl hp) q hq
 exact n5 p (.inr (h1 p hp)) q hq
 rcases hy with (hy | hy) | hy
 exact n3 y hy y (h2 y Wx) rfl
 exact k3 y hy Wx
 exact n5 y (.inr (h2 y Wx)) y hy rfl
theorem oj:∀ (vs:List V) {cs F} {j:Nat} {u u':V},RL w Pb vs cs F->vs[j]? =some u->∃ c Fa Fj Fb,F=Fa++Fj++Fb/\R w Pb u c Fj/\(∀ i x,c[i]? =some x->cs[V.ns (vs.take j)+i]? =some x)/\
 ∀ Wl,R w Pb u' c Wl->RL w Pb (vs.set j u') cs (Fa++Wl++Fb)
 | [],_,_,_,_,_,_,h=>by simp at h
 | v::vs,cs,F,0,u,u',h,hj=>by
   obtain⟨c1,c2,F1,F2,rfl,rfl,h1,h2⟩:=h
   simp at hj;subst hj
   refine⟨c1,[],F1,F2,Zab,h1,fun i x hx=>?_,fun Wl hr=>⟨c1,c2,Wl,F2,rfl,Zab,hr,h2⟩⟩
   simp only[List.take_zero,V.ns,Zau]
   rw[Za7 (Za1.1 hx).1];exact hx
 | v::vs,cs,F,j+1,u,u',h,hj=>by
   obtain⟨c1,c2,F1,F2,rfl,rfl,h1,h2⟩:=h
   obtain⟨c,Fa,Fj,Fb,rfl,k1,k2,k3⟩:=oj vs (u':=u') h2 (by simpa using hj)
   refine⟨c,F1++Fa,Fj,Fb,Zab,k1,fun i x hx=>?_,fun Wl hr=>⟨c1,c2,F1,Fa++Wl++Fb,rfl,Zab,h1,k3 Wl hr⟩⟩
   have hl:=fk _ h1
   simp only[List.take_succ_cons,V.ns]
   rw[Za2 Zaa]
   rw[show v.n+V.ns (vs.take j)+i-c1.length=V.ns (vs.take j)+i by omega]
   exact k2 i x hx
theorem lA.refl(F:List Nat):lA F [] F:=⟨Zab,fun _ h=>h,fun h=>⟨Za8,h,Zab⟩⟩
theorem tZ:∀ (p:List Nat) {v u:V} {g o g' o':Nat} {cs:List Value} {F:List Nat} {cells:Array Value},R w Pb v cs F->Blk w g cells->(∀ j x,cs[j]? =some x->cells[o+j]? =some x)->V.at g o v p=some (g',o',u)->
 ∃ F1 Fu,R w Pb (v.set p u.kill) cs F1/\At w Pb u g' o' Fu/\lA F F1 Fu
 | [],v,u,g,o,g',o',cs,F,cells,h,hb,hc,e=>by
   simp only[V.at,Zal,Zao]at e
   obtain⟨rfl,rfl,rfl⟩:=e
   exact⟨[],F,by simpa only[V.set] using FK v h,⟨cs,cells,hb,h,hc⟩,lA.refl F⟩
 | j::p,v,u,g,o,g',o',cs,F,cells,h,hb,hc,e=>by
   cases v with
   | agg vs=>
     simp only[V.at]at e
     split at e
     case h_2=>simp at e
     rename_i x hx
     simp only[R]at h
     obtain⟨c,Fa,Fj,Fb,rfl,k1,k2,k3⟩:=oj vs (u':=x.set p u.kill) h hx
     obtain⟨F1,Fu,m1,m2,m3⟩:=tZ p k1 hb (o:=o+V.ns (vs.take j)) (fun i y hy=>by rw[Zbh];exact hc _ _ (k2 i y hy)) e
     exact⟨Fa++F1++Fb,Fu,by simp only[V.set,hx,R];exact k3 F1 m1,m2,m3.Yb⟩
   | own sz xs g0 o0 c0=>
     simp only[V.at]at e
     split at e
     case h_2=>simp at e
     rename_i x hx
     rcases h with ⟨_,rfl,_⟩ | ⟨h1,h2,h3,h4,hN,h5,flat,F',Rx,rfl,hr,Tv,hsz,s8⟩
     simp at hx
     obtain⟨c,Fa,Fj,Fb,rfl,k1,k2,k3⟩:=oj xs (u':=x.set p u.kill) hr hx
     have hj:j<xs.length:=(Za1.1 hx).1
     rw[eT xs j hN Zaa]at k2
     obtain⟨F1,Fu,m1,m2,m3⟩:=tZ p k1 Tv (o:=o0+j*sz) (fun i y hy=>by rw[Zbh];exact s8 _ _ (k2 i y hy)) e
     have hn:(x.set p u.kill).n=x.n:=oU p e (AM u)
     refine⟨g0::(Fa++F1++Fb),Fu,?_,m2,?_⟩
     simp only[V.set,hx]
     refine .inr ⟨h1,h2,by simpa using h3,by simpa using h4,fun y hy=>?_,h5,flat,_,Rx,rfl,k3 F1 m1,Tv,hsz,s8⟩
     rcases List.mem_or_eq_of_mem_set hy with hy | rfl
     exact hN y hy
     rw[hn];exact hN x (Za5 hx)
     have:=lA.Yb (X:=g0::Fa) (Y:=Fb) m3
     simpa using this
   | _=>simp[V.at]at e
theorem EJ{j:Nat}{p:List Nat}{u:V}{g o g' o' sz g0 o0 c0:Nat}{xs:List V}{cs:List Value}{F:List Nat}(h:R w Pb (.own sz xs g0 o0 c0) cs F)(e:V.at g o (.own sz xs g0 o0 c0) (j::p)=some (g',o',u)):
 ∃ F1 Fu,R w Pb ((V.own sz xs g0 o0 c0).set (j::p) u.kill) cs F1/\At w Pb u g' o' Fu/\lA F F1 Fu:=by
 simp only[V.at]at e
 split at e
 case h_2=>simp at e
 rename_i x hx
 rcases h with ⟨_,rfl,_⟩ | ⟨h1,h2,h3,h4,hN,h5,flat,F',Rx,rfl,hr,Tv,hsz,s8⟩
 simp at hx
 obtain⟨c,Fa,Fj,Fb,rfl,k1,k2,k3⟩:=oj xs (u':=x.set p u.kill) hr hx
 have hj:j<xs.length:=(Za1.1 hx).1
 rw[eT xs j hN Zaa]at k2
 obtain⟨F1,Fu,m1,m2,m3⟩:=tZ p k1 Tv (o:=o0+j*sz) (fun i y hy=>by rw[Zbh];exact s8 _ _ (k2 i y hy)) e
 have hn:(x.set p u.kill).n=x.n:=oU p e (AM u)
 refine⟨g0::(Fa++F1++Fb),Fu,?_,m2,?_⟩
 simp only[V.set,hx]
 refine .inr ⟨h1,h2,by simpa using h3,by simpa using h4,fun y hy=>?_,h5,flat,_,Rx,rfl,k3 F1 m1,Tv,hsz,s8⟩
 rcases List.mem_or_eq_of_mem_set hy with hy | rfl
 exact hN y hy
 rw[hn];exact hN x (Za5 hx)
 have:=lA.Yb (X:=g0::Fa) (Y:=Fb) m3
 simpa using this
theorem s9.split(hs:s9 N Pb Kb A a w F){r:m0}{p:List Nat}{g o:Nat}{u:V}(B0:A.at r p=some (g,o,u)):
 ∃ Fr Fu,s9 N Pb Kb (A.setAt r p u.kill) a w (cM F r Fr)/\At w Pb u g o Fu/\Fu.Nodup/\(∀ r' y,y∈Fu->y ∉ cM F r Fr r')/\(∀ y,y∈Fu->¬ Kb y/\y<w.heap.size):=by
 have main:∃ Fr Fu,At w Pb u g o Fu/\lA (F r) Fr Fu/\(match r with
      | .key k=> ∀ g0 t,lk k A.h=some (g0,t)->∃ F',Fr=g0::F'/\At w Pb (t.set p u.kill) g0 0 F'
      | .slot i=>RV w Pb ((A.get i).set p u.kill) (a.tmps.getD i undef) Fr):=by
  cases r with
  | key k=>
    simp only[AS.at]at B0
    split at B0
    rename_i g0 t hk
    obtain⟨F0,hF,cs,cells,hb,hr,hc⟩:=hs.root k g0 t hk
    obtain⟨F1,Fu,m1,m2,m3⟩:=tZ p hr hb hc B0
    refine⟨g0::F1,Fu,m2,?_,fun g1 t1 RM=>?_⟩
    rw[hF]
    have:=lA.Yb (X:=[g0]) (Y:=[]) m3
    simpa using this
    rw[hk]at RM
    simp only[Zal,Zao]at RM
    obtain⟨rfl,rfl⟩:=RM
    exact⟨F1,rfl,cs,cells,hb,m1,hc⟩
    simp at B0
  | slot i=>
    simp only[AS.at]at B0
    split at B0
    rename_i sz xs g0 o0 c0 j p' hg _
    have hr:=hs.slot i
    rw[hg]at hr
    obtain⟨F1,Fu,m1,m2,m3⟩:=EJ (w:=w) (Pb:=Pb) hr B0
    refine⟨F1,Fu,m2,m3,?_⟩
    simp only[hg]
    have e:∃ ys,(V.own sz xs g0 o0 c0).set (j::p') u.kill=.own sz ys g0 o0 c0:=by
     simp only[V.set];split
     exact⟨_,rfl⟩
     exact⟨_,rfl⟩
    obtain⟨ys,e⟩:=e
    rw[e]at m1 ⊢
    exact m1
    simp at B0
 obtain⟨Fr,Fu,hA,hP,hm⟩:=main
 obtain⟨p1,p2,p3⟩:=hP
 obtain⟨n1,n2,n3⟩:=p3 (hs.nodup r)
 refine⟨Fr,Fu,⟨hs.size,hs.defers,fun i=>?_,fun k g0 t hk=>?_,fun r1 r2 hne y hy=>?_,fun r1=>?_,fun r1 y hy=>?_,hs.sub,hs.bound⟩,hA,n2,fun r' y hy=>?_,fun y hy=>hs.free r y (p2 y hy)⟩
 by_cases TO:r=.slot i
 subst TO
 simp only[cM,if_true,AS.setAt,AS.get,lk,Option.getD_some]
 exact hm
 simp only[cM,if_neg (Ne.symm TO)]
 have:(A.setAt r p u.kill).get i=A.get i:=by
  cases r with
  | key k=>simp only[AS.setAt];split <;> rfl
  | slot j=>simp only[AS.setAt,AS.get,lk];rw[if_neg (fun c=>TO (by rw[c]))]
 rw[this]
 exact hs.slot i
 by_cases TN:r=.key k
 subst TN
 simp only[cM,if_true]
 cases RZ:lk k A.h with
 | none=>
   simp only[AS.setAt,RZ]at hk
   cases hk
 | some gt=>
   obtain⟨g1,t1⟩:=gt
   simp only[AS.setAt,RZ,lk,if_true,Zal,Zao]at hk
   obtain⟨rfl,rfl⟩:=hk
   exact hm g1 t1 RZ
 simp only[cM,if_neg (Ne.symm TN)]
 refine hs.root k g0 t ?_
 rw[<- hk]
 cases r with
 | key k'=>
   have hne:k≠k':=fun c=>TN (by rw[c])
   simp only[AS.setAt]
   split
   simp only[lk];rw[if_neg hne]
   rfl
 | slot j=>rfl
 simp only[cM]at hy ⊢
 by_cases e1:r1=r
 subst e1
 rw[if_pos rfl]at hy
 rw[if_neg (Ne.symm hne)]
 exact hs.cL r1 r2 hne y (p1 y hy)
 rw[if_neg e1]at hy
 by_cases e2:r2=r
 subst e2
 rw[if_pos rfl]
 exact fun c=>hs.cL r1 r2 hne y hy (p1 y c)
 rw[if_neg e2];exact hs.cL r1 r2 hne y hy
 simp only[cM];split
 exact n1
 exact hs.nodup r1
 simp only[cM]at hy;split at hy
 exact hs.free r y (p1 y hy)
 exact hs.free r1 y hy
 simp only[cM];split
 exact fun c=>n3 y c hy
 rename_i hne;exact fun c=>hs.cL r r' (Ne.symm hne) y (p2 y hy) c
end
mutual
def wk:V->V->V
 | .own sz xs g o c,u=>match u with | .ow _ _=>.ow sz xs | _=>.own sz xs g o c
 | .sl f xs,u=>match u with | .sl false _=>.sl false xs | .b9=>.b9 | _=>.sl f xs
 | .ptr r p g o,u=>match u with | .ptr r' p' _ _=>.ptr r' p' g o | .b9=>.b9 | _=>.ptr r p g o
 | .lit x,u=>match u with
   | .ptr r' p' _ _=>match x with
     | .pointer (some ⟨g,o,none⟩)=>.ptr r' p' g o
     | _=>.lit x
   | .b9=>if x.oneCell' then .b9 else .lit x
   | _=>.lit x
 | .hd r p sz g o lo n c,u=>match u with | .hd r' p' _ _ _ _ _ _=>.hd r' p' sz g o lo n c | .b9=>.b9 | _=>.hd r p sz g o lo n c
 | .mp es,u=>match u with | .b9=>.b9 | _=>.mp es
 | .agg vs,u=>match u with | .agg us=>.agg (O7 vs us) | _=>.agg vs
 | .tup vs,u=>match u with | .tup us=>.tup (O7 vs us) | _=>.tup vs
 | v,_=>v
def O7:List V->List V->List V
 | v::vs,u::us=>wk v u::O7 vs us
 | vs,_=>vs
end
section
variable {w w':World} {Pb Kb Pb':Nat->Prop} {N:Nat} {A A' B:AS} {a:Act} {F:m0->List Nat} {P:Program} {ops:Array Oper}
mutual
theorem rP:∀ (v u:V) {cs F},R w Pb v cs F->R w Pb (wk v u) cs F
 | .own sz xs g o c,u,cs,F,h=>by
   simp only[wk];split
   exact Hq.2 ⟨_,_,_,h⟩
   exact h
 | .sl f xs,u,cs,F,h=>by
   simp only[wk];split
   obtain⟨hF,B,c,hc,hl,_,hx⟩:=h
   exact⟨hF,B,c,hc,hl,(fun h=>by cases h),hx⟩
   obtain⟨hF,B,c,rfl,_⟩:=h;exact⟨hF,_,rfl,rfl⟩
   exact h
 | .ptr r p g o,u,cs,F,h=>by
   simp only[wk];split
   exact h
   obtain⟨hF,rfl⟩:=h;exact⟨hF,_,rfl,rfl⟩
   exact h
 | .lit x,u,cs,F,h=>by
   simp only[wk];split
   split
   obtain⟨_,rfl,hF⟩:=h;exact⟨hF,rfl⟩
   exact h
   split
   rename_i hx;obtain⟨_,rfl,hF⟩:=h;exact⟨hF,x,rfl,hx⟩
   exact h
   exact h
 | .hd r p sz g o lo n c,u,cs,F,h=>by
   simp only[wk];split
   exact h
   obtain⟨hF,_,B,rfl,_⟩:=h;exact⟨hF,_,rfl,rfl⟩
   exact h
 | .mp es,u,cs,F,h=>by
   simp only[wk];split
   obtain⟨hF,g,rfl,_⟩:=h;exact⟨hF,_,rfl,rfl⟩
   exact h
 | .agg vs,u,cs,F,h=>by
   simp only[wk];split
   rename_i us;simp only[R]at h ⊢;exact Dk vs us h
   exact h
 | .tup vs,_,_,_,h=>by simp[R]at h
 | .gv _ _,_,_,_,h=>by simp[R]at h
 | .ow ..,u,_,_,h=>by simpa[wk] using h
 | .om ..,u,_,_,h=>by simpa[wk] using h
 | .ep _,u,_,_,h=>by simpa[wk] using h
 | .b9,u,_,_,h=>by simpa[wk] using h
theorem Dk:∀ (vs us:List V) {cs F},RL w Pb vs cs F->RL w Pb (O7 vs us) cs F
 | [],us,_,_,h=>by simpa[O7] using h
 | v::vs,[],_,_,h=>by simpa[O7] using h
 | v::vs,u::us,cs,F,h=>by
   obtain⟨c1,c2,F1,F2,rfl,rfl,h1,h2⟩:=h
   exact⟨c1,c2,F1,F2,rfl,rfl,rP v u h1,Dk vs us h2⟩
end
theorem Gm{v:V}(u:V){x:Value}{F1:List Nat}(h:Qw w Pb v x F1):Qw w Pb (wk v u) x F1:=by
 cases v with
 | agg us=>
   obtain⟨cs,rfl,h⟩:=h
   simp only[wk];split
   exact⟨cs,rfl,Dk _ _ h⟩
   exact⟨cs,rfl,h⟩
 | b9=>simpa[wk] using h
 | tup vs=>simp[Qw,R]at h
 | gv b u=>simp[Qw,R]at h
 | ow sz xs=>simpa[wk] using h
 | om es g=>simpa[wk] using h
 | ep v=>simpa[wk] using h
 | own sz xs g o c=>
   have:=rP (w:=w) (Pb:=Pb) (.own sz xs g o c) u h
   simp only[wk]at this ⊢
   split at this <;> simpa[Qw] using this
 | lit y=>
   have h:R w Pb (.lit y) [x] F1:=h
   have hh:=h
   obtain⟨ho,e,hF⟩:=hh
   simp only[List.cons.injEq,and_true]at e
   subst e hF
   cases u with
   | ptr r' p' g' o'=>
     have:=rP (w:=w) (Pb:=Pb) (.lit x) (.ptr r' p' g' o') h
     simp only[wk]at this ⊢
     split at this
     exact this
     exact this
   | b9=>simp only[wk,ho,if_true];rfl
   | _=>exact h
 | sl f xs=>
   have:=rP (w:=w) (Pb:=Pb) (.sl f xs) u h
   simp only[wk]at this ⊢
   split at this
   all_goals first | simpa[Qw] using this | (simp only[Qw];exact this.1)
 | ptr r p g o=>
   have:=rP (w:=w) (Pb:=Pb) (.ptr r p g o) u h
   simp only[wk]at this ⊢
   split at this
   all_goals first | simpa[Qw] using this | (simp only[Qw];exact this.1)
 | hd r p sz g o lo n c=>
   have:=rP (w:=w) (Pb:=Pb) (.hd r p sz g o lo n c) u h
   simp only[wk]at this ⊢
   split at this
   all_goals first | simpa[Qw] using this | (simp only[Qw];exact this.1)
 | mp es=>
   have:=rP (w:=w) (Pb:=Pb) (.mp es) u h
   simp only[wk]at this ⊢
   split at this
   all_goals first | simpa[Qw] using this | (simp only[Qw];exact this.1)
theorem wR:∀ (vs:List V) {xs:List Value} {F1:List Nat},RVs w Pb vs xs F1↔match vs with | []=>xs=[]/\F1=[] | v::vs=> ∃ x xs' Fa Fb,xs=x::xs'/\F1=Fa++Fb/\Qw w Pb v x Fa/\RVs w Pb vs xs' Fb
 | [],_,_=>Iff.rfl
 | v::vs,_,_=>Iff.rfl
theorem qz:∀ (vs us:List V) {xs F1},RVs w Pb vs xs F1->RVs w Pb (O7 vs us) xs F1
 | [],us,_,_,h=>by simpa[O7] using h
 | v::vs,[],_,_,h=>by simpa[O7] using h
 | v::vs,u::us,xs,F1,h=>by
   obtain⟨x,xs',Fa,Fb,rfl,rfl,h1,h2⟩:=(wR (v::vs)).1 h
   exact(wR (wk v u::O7 vs us)).2 ⟨x,xs',Fa,Fb,rfl,rfl,Gm u h1,qz vs us h2⟩
theorem zJ{v:V}(u:V){x:Value}{F1:List Nat}(h:RV w Pb v x F1):RV w Pb (wk v u) x F1:=by
 by_cases ht:∃ vs,v=.tup vs
 obtain⟨vs,rfl⟩:=ht
 obtain⟨xs,rfl,h⟩:=h
 simp only[wk];split
 exact⟨xs,rfl,qz _ _ h⟩
 exact⟨xs,rfl,h⟩
 by_cases hg:∃ b u',v=.gv b u'
 obtain⟨b,u',rfl⟩:=hg;simpa[wk] using h
 have h1:=FX h ⟨fun us e=>ht ⟨us,e⟩,fun b u e=>hg ⟨b,u,e⟩⟩
 have h2:=Gm u h1
 have back:∀ z:V,(∀ us,z≠.tup us)->(∀ b u,z≠.gv b u)->Qw w Pb z x F1->RV w Pb z x F1:=by
  intro z z1 z2 hz
  cases z with
  | tup us=>exact absurd rfl (z1 us)
  | gv b u=>exact absurd rfl (z2 b u)
  | _=>exact hz
 refine back _ (fun us e=>?_) (fun b u e=>?_) h2
 · cases v <;> simp only[wk]at e <;> (repeat' split at e) <;> simp_all
 · cases v <;> simp only[wk]at e <;> (repeat' split at e) <;> simp_all
theorem Dy{v:V}(u:V){g o:Nat}{F1:List Nat}(h:At w Pb v g o F1):At w Pb (wk v u) g o F1:=by
 obtain⟨cs,cells,hb,hr,hc⟩:=h
 exact⟨cs,cells,hb,rP v u hr,hc⟩
def SH(A:AS):List (Nat×V)->Prop
 | []=>True
 | (k,v)::r=>wk (A.get k) v=v/\SH A r
def RX(A:AS):List (Nat×(Nat×V))->Prop
 | []=>True
 | (k,(g,v))::r=>(match lk k A.h with | some (g',v')=>(g',wk v' v)=(g,v) | none=>False)/\RX A r
theorem EK:∀ (l:List (Nat×V)) {i:Nat} {v:V},SH A l->lk i l=some v->wk (A.get i) v=v
 | [],_,_,_,h=>by simp[lk]at h
 | (k,u)::r,i,v,h,e=>by
   simp only[lk]at e
   split at e
   rename_i e';subst e';cases e;exact h.1
   exact EK r h.2 e
theorem AW:∀ (l:List (Nat×(Nat×V))) {i g:Nat} {v:V},RX A l->lk i l=some (g,v)->∃ v',lk i A.h=some (g,v')/\wk v' v=v
 | [],_,_,_,_,h=>by simp[lk]at h
 | (k,(g0,u))::r,i,g,v,h,e=>by
   simp only[lk]at e
   split at e
   rename_i e';subst e';cases e
   have h1:=h.1
   split at h1
   rename_i g' v' hk
   simp only[Zao]at h1
   exact⟨v',by rw[hk,h1.1],h1.2⟩
   exact h1.elim
   exact AW r h.2 e
open Classical in
theorem s9.Z6(hs:s9 N Pb Kb A a w F)(h:SH A B.t)(k:RX A B.h):∃ F',s9 N Pb Kb B a w F':=by
 refine⟨fun r=>match r with | .slot i=>if lk i B.t=none then [] else F (.slot i) | .key k=>if lk k B.h=none then [] else F (.key k),?_⟩
 have key:∀ r g,g∈(match r with | .slot i=>if lk i B.t=none then [] else F (.slot i) | .key k=>if lk k B.h=none then [] else F (.key k):List Nat)->g∈F r:=by
  intro r g hg
  cases r <;> simp only at hg <;> split at hg <;> simp_all
 refine⟨hs.size,hs.defers,fun i=>?_,fun k0 g v hk=>?_,fun r r' hne g hg=>?_,fun r=>?_,fun r g hg=>hs.free r g (key r g hg),hs.sub,hs.bound⟩
 simp only
 cases e:lk i B.t with
 | none=>simp only[if_true,AS.get,e];rfl
 | some v=>
   rw[if_neg Zab]
   have:=zJ v (hs.slot i)
   rw[EK _ h e]at this
   simpa[AS.get,e] using this
 simp only
 rw[if_neg (by rw[hk];simp)]
 obtain⟨v',e1,e2⟩:=AW _ k hk
 obtain⟨F',hF,hA⟩:=hs.root k0 g v' e1
 exact⟨F',hF,by have:=Dy v hA;rw[e2]at this;exact this⟩
 exact fun Q2=>hs.cL r r' hne g (key r g hg) (key r' g Q2)
 cases r <;> simp only <;> split <;> first | exact Za8 | exact hs.nodup _
def Hx(N:Nat)(A:AS)(K:AS->Prop):Prop:=
 ∀ Pb Kb a w F,s9 N Pb Kb A a w F->∃ B Pb' E2 F',K B/\s9 N Pb' E2 B a w F'/\(∀ g,Pb g->Pb' g)/\(∀ g,Kb g->E2 g)/\(∀ g,Pb' g->Pb g\/¬ Kb g)
theorem Hx.of{K:AS->Prop}(h:K A):Hx N A K:=fun Pb Kb _ _ F hs=>⟨A,Pb,Kb,F,h,hs,fun _ h=>h,fun _ h=>h,fun _ h=>.inl h⟩
theorem Hx.mono{K K':AS->Prop}(h:Hx N A K)(hK:∀ B,K B->K' B):Hx N A K':=fun Pb Kb a w F hs=>by
 obtain⟨B,Pb',E2,F',h1,h2⟩:=h Pb Kb a w F hs
 exact⟨B,Pb',E2,F',hK B h1,h2⟩
theorem Hx.bind{K K':AS->Prop}(h:Hx N A K)(hK:∀ B,K B->Hx N B K'):Hx N A K':=fun Pb Kb a w F hs=>by
 obtain⟨B,Pb',E2,F',h1,h2,h3,h4,h5⟩:=h Pb Kb a w F hs
 obtain⟨C,PQ,PU,F2,k1,k2,k3,k4,k5⟩:=hK B h1 Pb' E2 a w F' h2
 exact⟨C,PQ,PU,F2,k1,k2,fun g hg=>k3 g (h3 g hg),fun g hg=>k4 g (h4 g hg),fun g hg=>by
  rcases k5 g hg with h | h
  exact h5 g h
  exact .inr fun c=>h (h4 g c)⟩
theorem Hx.simple{K:AS->Prop}(hK:K B)(h:∀ Pb Kb a w F,s9 N Pb Kb A a w F->∃ F',s9 N Pb Kb B a w F'):Hx N A K:=fun Pb Kb a w F hs=>by
 obtain⟨F',B4⟩:=h Pb Kb a w F hs
 exact⟨B,Pb,Kb,F',hK,B4,fun _ h=>h,fun _ h=>h,fun _ h=>.inl h⟩
theorem Nx.hint{K:AS->Prop}{a':Act}(h:Nx N Pb Kb w (fun B=>Hx N B K) a' w'):Nx N Pb Kb w K a' w':=by
 obtain⟨A',Pb',E2,F',h1,h2,h3,h4,h5,h6⟩:=h
 obtain⟨B,PQ,PU,F2,k1,k2,k3,k4,k5⟩:=h1 Pb' E2 a' w' F' h2
 exact⟨B,PQ,PU,F2,k1,k2,fun g hg=>k3 g (h3 g hg),fun g hg=>k4 g (h4 g hg),fun g hg=>by
  rcases k5 g hg with h | h
  exact h5 g h
  exact .inr fun c=>h (h4 g c),h6⟩
theorem qy{c:Code}{Q:Exit->AS->Prop}(h:Hx N A fun B=>T P N c B Q):T P N c A Q:=by
 intro Pb Kb a w F hs
 obtain⟨B,Pb',E2,F',h1,h2,h3,h4,h5⟩:=h Pb Kb a w F hs
 exact wp_mono (h1 Pb' E2 a w F' h2) fun e a' w' hn=>Nx.step h3 h4 h5 (A4.refl _ _) hn
theorem oD{c:Code}{Q:Exit->AS->Prop}(h:T P N c A fun e B=>Hx N B (Q e)):T P N c A Q:=
 fun Pb Kb a w F hs=>wp_mono (h Pb Kb a w F hs) fun _ _ _ hn=>hn.hint
theorem ui{o:Oper}{l:List Oper}{K:AS->Prop}(hg:o.guard=none)(h:Hx N A fun B=>WL P N ops (o::l) B K):WL P N ops (o::l) A K:=by
 simp only[WL,gd,hg]at h ⊢
 intro Pb Kb a w F Q hs
 obtain⟨B,Pb',E2,F',h1,h2,h3,h4,h5⟩:=h Pb Kb a w F hs
 refine Oper.wp_mono (fun a' w' hn=>?_) (h1 Pb' E2 a w F' Q h2)
 exact Nx.step h3 h4 h5 (A4.refl _ _) hn
theorem Nh{c:Code}{Q:Exit->AS->Prop}(h:SH A B.t)(k:RX A B.h)(hT:T P N c B Q):T P N c A Q:=
 qy (Hx.simple hT fun _ _ _ _ _ hs=>hs.Z6 h k)
end
section
variable {w w':World} {Pb Kb Pb':Nat->Prop} {N:Nat} {A A' B:AS} {a:Act} {F:m0->List Nat} {P:Program} {ops:Array Oper}
structure YE (w:World) (Pb Kb:Nat->Prop) (args:List V) (cargs:List Value) (H:List (Nat×(Nat×V))) (F:m0->List Nat):Prop where
 len:cargs.length=args.length
 slot:∀ i v x,args[i]? =some v->cargs[i]? =some x->RV w Pb v x (F (.slot i))
 root:∀ k g v,lk k H=some (g,v)->∃ F',F (.key k)=g::F'/\At w Pb v g 0 F'
 rest:∀ i,args.length<=i->F (.slot i)=[]
 cL:∀ r r',r≠r'->∀ g,g∈F r->g ∉ F r'
 nodup:∀ r,(F r).Nodup
 free:∀ r g,g∈F r->¬ Kb g/\g<w.heap.size
 sub:∀ g,Pb g->Kb g
 bound:∀ g,Kb g->g<w.heap.size
structure Fin (w w':World) (Pb Kb:Nat->Prop) (r:V) (x:Value) (H:List (Nat×(Nat×V))) (Pb' E2:Nat->Prop) (F:m0->List Nat):Prop where
 val:RV w' Pb' r x (F (.slot 0))
 root:∀ k g v,lk k H=some (g,v)->∃ F',F (.key k)=g::F'/\At w' Pb' v g 0 F'
 cL:∀ r r',r≠r'->∀ g,g∈F r->g ∉ F r'
 nodup:∀ r,(F r).Nodup
 free:∀ r g,g∈F r->¬ E2 g/\g<w'.heap.size
 sub:∀ g,Pb' g->E2 g
 bound:∀ g,E2 g->g<w'.heap.size
 mP:∀ g,Pb g->Pb' g
 mK:∀ g,Kb g->E2 g
 SG:∀ g,Pb' g->Pb g\/¬ Kb g
 fF:A4 Kb w w'
def PF(P:Program)(f:FuncId)(args:List V)(H:List (Nat×(Nat×V)))(Q:V->List (Nat×(Nat×V))->Prop):Prop:=
 pr P f/\∀ (w:World) (Pb Kb:Nat->Prop) (cargs:List Value) (F:m0->List Nat),YE w Pb Kb args cargs H F->
  Calls P f cargs.toArray w fun e w'=> ∃ r x H' Pb' E2 F',e=.returned x/\Q r H'/\Fin w w' Pb Kb r x H' Pb' E2 F'
theorem PF.mono{f:FuncId}{args:List V}{H:List (Nat×(Nat×V))}{Q Q':V->List (Nat×(Nat×V))->Prop}(h:PF P f args H Q)(hQ:∀ r H,Q r H->Q' r H):PF P f args H Q':=
 ⟨h.1,fun w Pb Kb cargs F hi=>(h.2 w Pb Kb cargs F hi).mono fun _ _ ⟨r,x,H',Pb',E2,F',e,q,rest⟩=>⟨r,x,H',Pb',E2,F',e,hQ r H' q,rest⟩⟩
def IA(P:Program)(rs:List ResultVar)(Q:V->List (Nat×(Nat×V))->Prop):Exit->AS->Prop:=fun e A=>
 (e=.normal\/e=.ret)/\∃ xs H,rm A rs=some xs/\rY P rs xs/\(xs.map (·.1)).Nodup/\RX A H/\(∀ k,lk k H≠none->m0.key k ∉ xs.map (·.1))/\Q (one (xs.map (·.2))) H
open Classical in
theorem Ch{f:FuncId} {fn:Func} {c:Code} {args:List V} {H:List (Nat×(Nat×V))} {Q:V->List (Nat×(Nat×V))->Prop} (hf:P.funcs[f]? =some fn) (hb:fn.body=some c) (he:pr P f) (hN:args.length<=fn.ntmps)
 (h:T P fn.ntmps c ⟨enum 0 args,H⟩ (IA P fn.results.toList Q)):PF P f args H Q:=by
 refine⟨he,fun w Pb Kb cargs F hi=>?_⟩
 have hlen:=hi.len
 refine calls_of_wp hf hb ?_
 have hs:s9 fn.ntmps Pb Kb ⟨enum 0 args,H⟩ { tmps:=cargs.toArray++Array.replicate (fn.ntmps-cargs.toArray.size) undef,defers:=[] } w F:=by
  refine⟨Zaj,rfl,fun i=>?_,hi.root,hi.cL,hi.nodup,hi.free,hi.sub,hi.bound⟩
  simp only[AS.get,CL,Nat.zero_le,if_true,Nat.sub_zero]
  cases XP:args[i]? with
  | none=>
    have:args.length<=i:=by simpa using XP
    rw[hi.rest i this];rfl
  | some v=>
    have hlt:i<args.length:=(Za1.1 XP).1
    have hx:cargs[i]? =some (cargs[i]'Zaa):=Zar Zaa
    have hr:=hi.slot i v _ XP hx
    have e:(cargs.toArray++Array.replicate (fn.ntmps-cargs.toArray.size) undef).getD i undef=cargs[i]'Zaa:=by
     rw[Array.getD_eq_getD_getElem?,Array.getElem?_append_left Zaj]
     simp[hx]
    simp only[Option.getD_some]
    rw[e];exact hr
 refine wp_mono (h _ _ _ _ _ hs) ?_
 rintro e a' w' ⟨A',Pb',E2,F',⟨he',xs,H',TJ,M1,hnd,hH,V6,hQ⟩,B4,k1,k2,k3,k4⟩
 obtain⟨x,Fr,B6,hr,Ps,hin⟩:=BM B4 TJ M1 hnd
 have S8:a'.defers=[]/\∃ v,(results fn a'.tmps).run P w'=.ok v w'/\(∃ r x H' Pb' E2 F',Ending.returned v=.returned x/\Q r H'/\Fin w w' Pb Kb r x H' Pb' E2 F'):=by
  refine⟨B4.defers,x,B6,_,x,H',Pb',E2,(fun r=>match r with | .slot i=>if i=0 then Fr else [] | .key k=>if lk k H'=none then [] else F' (.key k)),rfl,hQ,?_⟩
  have hk:∀ k g,lk k H'≠none->g∈Fr->g ∉ F' (.key k):=fun k g hk hg c=>by
   obtain⟨r,Rs,M0⟩:=hin g hg
   have hne:r≠.key k:=fun c=>V6 k hk (by rw[<- c];exact Rs)
   exact B4.cL r _ hne g M0 c
  refine⟨by simpa using hr,fun k g v XM=>?_,fun r r' hne g hg=>?_,fun r=>?_,fun r g hg=>?_,B4.sub,B4.bound,k1,k2,k3,k4⟩
  obtain⟨v',e1,e2⟩:=AW _ hH XM
  obtain⟨F1,hF,hA⟩:=B4.root k g v' e1
  refine⟨F1,?_,by have:=Dy v hA;rw[e2]at this;exact this⟩
  simp only;rw[if_neg (by rw[XM];simp)];exact hF
  cases r with
  | slot i=>
    simp only at hg
    split at hg
    rename_i hi0
    cases r' with
    | slot j=>simp only;rw[if_neg (fun c=>hne (by rw[hi0,c]))];simp
    | key k=>simp only;split
             simp
             rename_i UZ;exact hk k g UZ hg
    simp at hg
  | key k=>
    simp only at hg
    split at hg
    simp at hg
    rename_i UZ
    cases r' with
    | slot j=>simp only;split
              exact fun c=>hk k g UZ c hg
              simp
    | key k'=>simp only;split
              simp
              exact B4.cL _ _ hne g hg
  cases r <;> simp only <;> split <;> first | exact Ps | exact Za8 | exact B4.nodup _
  cases r with
  | slot i=>
    simp only at hg;split at hg
    obtain⟨r,_,h⟩:=hin g hg;exact B4.free r g h
    simp at hg
  | key k=>
    simp only at hg;split at hg
    simp at hg
    exact B4.free _ g hg
 rcases he' with rfl | rfl
 exact S8
 exact S8
theorem PF.Du{f:FuncId}{args:List V}{Q:V->List (Nat×(Nat×V))->Prop}(h:PF P f args [] Q):PC P f args (fun r=> ∃ H,Q r H):=by
 refine⟨h.1,fun w Pb cargs hP hargs=>?_⟩
 have hi:YE w Pb (fun g=>g<w.heap.size) args cargs [] (fun _=>[]):=by
  refine⟨xu _ hargs,fun i v x hv hx=>?_,fun k g v hk=>by simp[lk]at hk,fun _ _=>rfl,fun _ _ _ _ hg=>by simp at hg,fun _=>Za8,fun _ _ hg=>by simp at hg,hP,fun _ h=>h⟩
  obtain⟨y,hy,hr⟩:=Fw args hargs hv
  rw[hx]at hy;cases hy;exact hr
 refine(h.2 w Pb _ cargs _ hi).mono ?_
 rintro e w' ⟨r,x,H',Pb',E2,F',rfl,hq,hf⟩
 refine⟨r,x,F' (.slot 0),Pb',rfl,⟨H',hq⟩,hf.val,hf.nodup _,fun g hg=>?_,hf.mP,fun g hg=>?_,⟨hf.fF.os,hf.fF.tape,hf.fF.output,hf.fF.size,fun k hk=>hf.fF.block k hk⟩⟩
 have:=hf.free _ g hg
 refine⟨Nat.le_of_not_lt fun c=>this.1 (hf.mK g c),this.2,fun c=>this.1 (hf.sub g c)⟩
 rcases hf.SG g hg with h | h
 exact .inl h
 exact .inr ⟨Nat.le_of_not_lt h,hf.bound g (hf.sub g hg)⟩
end
end Go.Proofs.YtelggdgnblpjdaaGreatDoor