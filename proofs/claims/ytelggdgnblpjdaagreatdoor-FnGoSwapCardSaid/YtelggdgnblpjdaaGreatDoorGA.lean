/-
  Words and walks for the laws of pedlar's seat: what each function of the program computes, and that it does; no conditions beyond those that each statement names.
-/
import Derived.Calls
import Derived.Below
import Derived.LoopN
import Derived.Tactics
import Derived.Laws.Sem
import Derived.IntWalk
import Derived.Lib.MinMax
import Derived.Laws.Cells
import Derived.Orders
import Derived.KernelRfl
import Derived.Lib.Strings
import Derived.Great.BuildSlice
import Derived.Laws.Append
import Derived.Laws.BytesString
import Derived.Lib.ConvBytes
set_option linter.unusedVariables false
set_option linter.unusedSimpArgs false
set_option linter.unnecessarySimpa false
set_option linter.unusedSectionVars false
namespace Go
abbrev BL:=List UInt8
theorem Z9{p:Prop}(h:p:=by omega):p:=h
theorem Z8{p:Prop}(h:p:=by simp):p:=h
theorem Z7{p:Prop}(h:p:=by kernel_rfl):p:=h
theorem Z6{p:Prop}(h:p:=by decide):p:=h
theorem Z5{p:Prop}(h:p:=by first | assumption | omega | (simp; omega)):p:=h
theorem Z4{p:Prop}(h:p:=by first | rfl | simp | (simp; omega)):p:=h
theorem Z3{p:Prop}(h:p:=by (try simp only [List.length_append, List.length_cons, List.length_nil]); omega):p:=h
theorem Z2{p:Prop}(h:p:=by (try simp only [List.length_map] at *); omega):p:=h
theorem Z1{p:Prop}(h:p:=by first | (solve | simp) | omega | (simp; omega)):p:=h
theorem Z0{p:Prop}(h:p:=by simp; omega):p:=h
theorem ZZ{α:Type _}{l:List α}{i:Nat}{a:α}:l.getD i a=l[i]?.getD a:=List.getD_eq_getElem?_getD ..
theorem ZY{α:Type _}(a b:α):(some a=some b)=(a=b):=Option.some.injEq ..
theorem ZX(a b:Bool):((a&&b)=true)=(a=true/\b=true):=Bool.and_eq_true ..
theorem ZW{α:Type _}{as bs:List α}:(as++bs).length=as.length+bs.length:=List.length_append ..
theorem ZV{α:Type _}{β:Type _}(a:α)(b:β)(c:α)(d:β):((a,b)=(c,d))=(a=c/\b=d):=Prod.mk.injEq ..
theorem ZU{α:Type _}{a:α}{as:List α}:(a::as).length=as.length+1:=List.length_cons ..
theorem ZS{α β:Type}(a:α)(w:World)(f:α->World->Result β):(Result.ok a w).andThen f=f a w:=Result.andThen_ok ..
theorem ZR{α:Type _}{l:List α}{i:Nat}(h:i<l.length):l[i]?=some l[i]:=List.getElem?_eq_getElem h
theorem ZQ{α:Type _}:([]:List α).length=0:=List.length_nil
theorem ZP{α:Type _}{a b:α}:a∈[b]↔a=b:=List.mem_singleton ..
theorem ZO(n:Nat):0+n=n:=Nat.zero_add ..
theorem ZN{α:Type _}{a:α}{s t:List α}:a∈s++t↔a∈s\/a∈t:=List.mem_append ..
theorem ZM{α:Type _}{β:Type _}{as:List α}(f:α->β):(as.map f).length=as.length:=List.length_map ..
theorem ZL{α:Type _}{i:Nat}{l:List α}(h:l.length<=i):l.take i=l:=List.take_of_length_le h
theorem ZK{α β:Type}(P:Program)(w:World)(x:Sem α)(f:α->Sem β):(x>>=f).run P w=(x.run P w).andThen fun a w=>(f a).run P w:=Sem.run_bind ..
theorem ZJ{α:Type}(P:Program)(w:World)(a:α):(pure a:Sem α).run P w=.ok a w:=Sem.run_pure ..
theorem ZI{α:Type _}{p:α->Bool}{l:List α}:l.all p=true↔∀x,x∈l->p x=true:=List.all_eq_true ..
theorem ZH{α:Type _}{i:Nat}{a:α}{l:List α}:l[i]?=some a↔∃h:i<l.length,l[i]=a:=List.getElem?_eq_some_iff ..
theorem ZG{α:Type _}{l₁ l₂:List α}{i:Nat}:l₁.length<=i->(l₁++l₂)[i]?=l₂[i-l₁.length]?:=List.getElem?_append_right
theorem ZF{α:Type _}{l:List α}:l.length=0->l=[]:=List.eq_nil_of_length_eq_zero
theorem ZE{a b:Bool}:a=b↔(a=true↔b=true):=Bool.eq_iff_iff ..
theorem ZD{α:Type _}{l:List α}{i:Nat}{a:α}(e:l[i]?=some a):a∈l:=List.mem_of_getElem? e
theorem ZC{α:Type _}{as:List α}{i:Nat}(h:as.length<=i):as.drop i=[]:=List.drop_eq_nil_of_le h
theorem ZB{α:Type _}{l₁ l₂:List α}{i:Nat}(hn:i<l₁.length):(l₁++l₂)[i]?=l₁[i]?:=List.getElem?_append_left hn
theorem ZA{α:Type _}:([]:List α).Nodup:=List.nodup_nil
theorem Zz{α:Type _}{β:Type _}{f:α->β}{l₁ l₂:List α}:(l₁++l₂).map f=l₁.map f++l₂.map f:=List.map_append ..
theorem Zy(n:Nat):n<=n:=Nat.le_refl ..
theorem Zx(n:UInt8):n.toNat<2^8:=UInt8.toNat_lt ..
theorem Zw{α:Type _}{β:Type _}{f:α->β}{a:α}{l:List α}:(a::l).map f=f a::l.map f:=List.map_cons ..
theorem Zv{α:Type _}{a:α}:[a].length=1:=List.length_singleton ..
theorem Zu{α:Type _}{a:α}{l:List α}:a∈l↔∃(i:Nat)(h:i<l.length),l[i]=a:=List.mem_iff_getElem ..
theorem Zt{α:Type _}{i:Nat}{b:α}{xs:Array α}:xs[i]?=some b↔∃h:i<xs.size,xs[i]=b:=Array.getElem?_eq_some_iff ..
theorem Zs{α:Type _}[BEq α][LawfulBEq α](a:α)(as:List α):as.contains a=decide (a∈as):=List.contains_eq_mem ..
theorem Zr(n m k:Nat):n+m+k=n+(m+k):=Nat.add_assoc ..
theorem Zq{p:Prop}[Decidable p]:(decide p=true)=p:=decide_eq_true_eq ..
theorem Zp{α:Type _}[BEq α][LawfulBEq α]{a b:α}:(a==b)=true↔a=b:=beq_iff_eq ..
theorem Zo{α:Type _}{β:Type _}{a b:α}(f:α->β)(h:a=b):f a=f b:=congrArg f h
end Go
namespace Go.Proofs.YtelggdgnblpjdaaGreatDoor
open Go Go.RowKit
set_option maxRecDepth 20000
inductive l6 where
 | slot (i:Nat)
 | key (k:Nat)
 deriving DecidableEq
inductive V where
 | lit (x:Value)
 | agg (vs:List V)
 | tup (vs:List V)
 | sl (full:Bool) (xs:List V)
 | own (sz:Nat) (xs:List V) (g o c:Nat)
 | ow (sz:Nat) (xs:List V)
 | om (es:List (BL×Value)) (g:Nat)
 | mp (es:List (BL×Value))
 | hd (r:l6) (p:List Nat) (sz g o lo n c:Nat)
 | ptr (r:l6) (p:List Nat) (g o:Nat)
 | ep (v:V)
 | b7
 | gv (b:Bool) (v:V)
mutual
def V.n:V->Nat
 | .agg vs=>V.ns vs
 | _=>1
def V.ns:List V->Nat
 | []=>0
 | v::vs=>v.n+V.ns vs
end
def aC(sz:Nat)(xs:List V):Prop:= ∀ x∈xs,x.n=sz
def Blk(w:World)(g:Nat)(cells:Array Value):Prop:=
 ∃ e fr,w.heap[g]? =some (.cells cells e fr)/\∀ i,i<cells.size->¬ (fr.1<=i/\i<fr.2)
def tv(w:World)(g:Nat)(es:List (BL×Value)):Prop:=
 ∃ en cl,w.heap[g]? =some (.map en cl)/\en.toList.map (fun e=>(e.key,e.val))=es.map (fun p=>(.string ⟨p.1.toArray⟩,p.2))/\(en.toList.map (·.born)).Nodup/\∀ e∈en.toList,e.born<cl
mutual
def R(w:World)(Pb:Nat->Prop):V->List Value->List Nat->Prop
 | .lit x,cs,F=>x.oneCell'=true/\cs=[x]/\F=[]
 | .agg vs,cs,F=>RL w Pb vs cs F
 | .tup _,_,_=>False
 | .gv _ _,_,_=>False
 | .sl full xs,cs,F=>F=[]/\∃ A c,cs=[.slice A xs.length c]/\xs.length<=c/\(full=true->c=xs.length)/\
  (xs=[]\/∃ b o sz flat,A=some ⟨b,o,none⟩/\Pb b/\0<sz/\aC sz xs/\RL w Pb xs flat []/\
   ∀ j u,flat[j]? =some u->w.cell? ⟨b,o+j,none⟩=some u)
 | .own sz xs g o c,cs,F=>(c=0/\xs=[]/\F=[]/\∃ A,cs=[.slice A 0 0])\/
  (0<c/\0<sz/\xs.length<=c/\cs=[.slice (some ⟨g,o,none⟩) xs.length c]/\aC sz xs/\¬ Pb g/\
   ∃ flat F' cells,F=g::F'/\RL w Pb xs flat F'/\Blk w g cells/\o+c*sz<=cells.size/\
     ∀ j u,flat[j]? =some u->cells[o+j]? =some u)
 | .ow sz xs,cs,F=> ∃ g o c,(c=0/\xs=[]/\F=[]/\∃ A,cs=[.slice A 0 0])\/
  (0<c/\0<sz/\xs.length<=c/\cs=[.slice (some ⟨g,o,none⟩) xs.length c]/\aC sz xs/\¬ Pb g/\
   ∃ flat F' cells,F=g::F'/\RL w Pb xs flat F'/\Blk w g cells/\o+c*sz<=cells.size/\
     ∀ j u,flat[j]? =some u->cells[o+j]? =some u)
 | .om es g,cs,F=>F=[g]/\cs=[.map (some g)]/\¬ Pb g/\tv w g es
 | .mp es,cs,F=>F=[]/\∃ g,cs=[.map (some g)]/\Pb g/\tv w g es
 | .hd _ _ sz g o lo n c,cs,F=>F=[]/\n<=c/\∃ A,cs=[.slice A n c]/\(0<c->A=some ⟨g,o+lo*sz,none⟩)
 | .ptr _ _ g o,cs,F=>F=[]/\cs=[.pointer (some ⟨g,o,none⟩)]
 | .ep v,cs,F=>F=[]/\∃ b o flat,cs=[.pointer (some ⟨b,o,none⟩)]/\Pb b/\R w Pb v flat []/\
  ∀ j u,flat[j]? =some u->w.cell? ⟨b,o+j,none⟩=some u
 | .b7,cs,F=>F=[]/\∃ x,cs=[x]/\x.oneCell'=true
def RL(w:World)(Pb:Nat->Prop):List V->List Value->List Nat->Prop
 | [],cs,F=>cs=[]/\F=[]
 | v::vs,cs,F=> ∃ c1 c2 F1 F2,cs=c1++c2/\F=F1++F2/\R w Pb v c1 F1/\RL w Pb vs c2 F2
end
section
variable {w w':World} {Pb Pb':Nat->Prop}
theorem DX{sz:Nat}{xs:List V}{cs:List Value}{F:List Nat}:R w Pb (.ow sz xs) cs F↔∃ g o c,R w Pb (.own sz xs g o c) cs F:=by simp only[R]
theorem tv.ee{g:Nat}{es:List (BL×Value)}(h:tv w g es)(k:w'.heap[g]? =w.heap[g]?):tv w' g es:=by
 obtain⟨en,cl,h1,h2⟩:=h
 exact⟨en,cl,k.trans h1,h2⟩
mutual
theorem dR:∀ (v:V) {cs F},R w Pb v cs F->cs.length=v.n
 | .lit x,cs,F,h=>by obtain⟨_,rfl,_⟩:=h;rfl
 | .agg vs,cs,F,h=>by simp only[R]at h;simpa[V.n] using gX vs h
 | .tup _,_,_,h=>by simp[R]at h
 | .gv _ _,_,_,h=>by simp[R]at h
 | .sl _ xs,cs,F,h=>by obtain⟨_,A,c,rfl,_⟩:=h;rfl
 | .own sz xs g o c,cs,F,h=>by
  rcases h with ⟨_,_,_,A,rfl⟩ | ⟨_,_,_,rfl,_⟩ <;> rfl
 | .ow sz xs,cs,F,h=>by
  obtain⟨g,o,c,h⟩:=h
  rcases h with ⟨_,_,_,A,rfl⟩ | ⟨_,_,_,rfl,_⟩ <;> rfl
 | .om ..,cs,F,h=>by obtain⟨_,rfl,_⟩:=h;rfl
 | .mp _,cs,F,h=>by obtain⟨_,g,rfl,_⟩:=h;rfl
 | .hd ..,cs,F,h=>by obtain⟨_,_,A,rfl,_⟩:=h;rfl
 | .ptr ..,cs,F,h=>by obtain⟨_,rfl⟩:=h;rfl
 | .ep v,cs,F,h=>by obtain⟨_,b,o,flat,rfl,_⟩:=h;rfl
 | .b7,cs,F,h=>by obtain⟨_,x,rfl,_⟩:=h;rfl
theorem gX:∀ (vs:List V) {cs F},RL w Pb vs cs F->cs.length=V.ns vs
 | [],cs,F,h=>by obtain⟨rfl,_⟩:=h;rfl
 | v::vs,cs,F,h=>by
     obtain⟨c1,c2,F1,F2,rfl,_,h1,h2⟩:=h
     simp[V.ns,dR v h1,gX vs h2]
end
mutual
theorem fi:∀ (v:V) {cs F},R w Pb v cs F->(∀ g,Pb g->w'.heap[g]? =w.heap[g]?)->(∀ g,g∈F->w'.heap[g]? =w.heap[g]?)->
 (∀ g,Pb g->Pb' g)->(∀ g,g∈F->¬ Pb' g)->R w' Pb' v cs F
 | .lit x,cs,F,h,_,_,_,_=>h
 | .agg vs,cs,F,h,k1,k2,k3,k4=>by simp only[R]at h ⊢;exact dK vs h k1 k2 k3 k4
 | .tup _,_,_,h,_,_,_,_=>by simp[R]at h
 | .gv _ _,_,_,h,_,_,_,_=>by simp[R]at h
 | .sl full xs,cs,F,h,k1,_,k3,_=>by
  obtain⟨hF,A,c,hc,hl,hf,hx⟩:=h
  refine⟨hF,A,c,hc,hl,hf,?_⟩
  rcases hx with hx | ⟨b,o,sz,flat,hA,hb,hs,hn,hr,r6⟩
  exact .inl hx
  exact .inr ⟨b,o,sz,flat,hA,k3 b hb,hs,hn,dK xs hr k1 Z8 k3 Z8,fun j u hu=>by
   rw[<- r6 j u hu];exact World.cell?_of_block (w:=w) (k1 b hb)⟩
 | .own sz xs g o c,cs,F,h,k1,k2,k3,k4=>by
  rcases h with h | ⟨h1,h2,h3,h4,h5,h6,flat,F',cells,hF,hr,⟨e,fr,hb,hfr⟩,hsz,r6⟩
  exact .inl h
  subst hF
  exact .inr ⟨h1,h2,h3,h4,h5,k4 g Z8,flat,F',cells,rfl,dK xs hr k1 (fun g hg=>k2 g (by simp[hg])) k3 (fun g hg=>k4 g (by simp[hg])),
   ⟨e,fr,(k2 g Z8).trans hb,hfr⟩,hsz,r6⟩
 | .ow sz xs,cs,F,h,k1,k2,k3,k4=>by
  obtain⟨g,o,c,h⟩:=h
  refine⟨g,o,c,?_⟩
  rcases h with h | ⟨h1,h2,h3,h4,h5,h6,flat,F',cells,hF,hr,⟨e,fr,hb,hfr⟩,hsz,r6⟩
  exact .inl h
  subst hF
  exact .inr ⟨h1,h2,h3,h4,h5,k4 g Z8,flat,F',cells,rfl,dK xs hr k1 (fun g hg=>k2 g (by simp[hg])) k3 (fun g hg=>k4 g (by simp[hg])),
   ⟨e,fr,(k2 g Z8).trans hb,hfr⟩,hsz,r6⟩
 | .om es g,cs,F,h,_,k2,_,k4=>by
  obtain⟨rfl,h1,h2,h3⟩:=h
  exact⟨rfl,h1,k4 g Z8,h3.ee (k2 g Z8)⟩
 | .mp es,cs,F,h,k1,_,k3,_=>by
  obtain⟨h0,g,h1,h2,h3⟩:=h
  exact⟨h0,g,h1,k3 g h2,h3.ee (k1 g h2)⟩
 | .hd ..,cs,F,h,_,_,_,_=>h
 | .ptr ..,cs,F,h,_,_,_,_=>h
 | .ep v,cs,F,h,k1,_,k3,_=>by
  obtain⟨hF,b,o,flat,hc,hb,hr,r6⟩:=h
  exact⟨hF,b,o,flat,hc,k3 b hb,fi v hr k1 Z8 k3 Z8,fun j u hu=>by
   rw[<- r6 j u hu];exact World.cell?_of_block (w:=w) (k1 b hb)⟩
 | .b7,cs,F,h,_,_,_,_=>h
theorem dK:∀ (vs:List V) {cs F},RL w Pb vs cs F->(∀ g,Pb g->w'.heap[g]? =w.heap[g]?)->(∀ g,g∈F->w'.heap[g]? =w.heap[g]?)->
 (∀ g,Pb g->Pb' g)->(∀ g,g∈F->¬ Pb' g)->RL w' Pb' vs cs F
 | [],cs,F,h,_,_,_,_=>h
 | v::vs,cs,F,h,k1,k2,k3,k4=>by
     obtain⟨c1,c2,F1,F2,hc,rfl,h1,h2⟩:=h
     exact⟨c1,c2,F1,F2,hc,rfl,fi v h1 k1 (fun g hg=>k2 g (by simp[hg])) k3 (fun g hg=>k4 g (by simp[hg])),
      dK vs h2 k1 (fun g hg=>k2 g (by simp[hg])) k3 (fun g hg=>k4 g (by simp[hg]))⟩
end
end
structure AS where
 t:List (Nat×V)
 h:List (Nat×(Nat×V))
def lk{α:Type}(i:Nat):List (Nat×α)->Option α
 | []=>none
 | (k,v)::r=>if i=k then some v else lk i r
def AS.get(A:AS)(i:Nat):V:=(lk i A.t).getD .b7
def AS.put(A:AS)(d:Option Nat)(v:V):AS:=match d with | some d=>{ A with t:=(d,v)::A.t } | none=>A
theorem AS.au(A:AS)(d i:Nat)(v:V):(A.put (some d) v).get i=if i=d then v else A.get i:=by
 simp only[AS.get,AS.put,lk];split <;> rfl
def RVs(w:World)(Pb:Nat->Prop):List V->List Value->List Nat->Prop
 | [],xs,F=>xs=[]/\F=[]
 | v::vs,xs,F=> ∃ x xs' F1 F2,xs=x::xs'/\F=F1++F2/\(match v with
     | .agg us=> ∃ cs,x=.agg cs/\RL w Pb us cs.toList F1
     | .b7=>F1=[]
     | v=>R w Pb v [x] F1)/\RVs w Pb vs xs' F2
def SJ(w:World)(Pb:Nat->Prop)(v:V)(x:Value)(F:List Nat):Prop:=
 match v with
 | .tup vs=> ∃ xs:Array Value,x=.tuple xs/\RVs w Pb vs xs.toList F
 | .agg us=> ∃ cs,x=.agg cs/\RL w Pb us cs.toList F
 | .b7=>F=[]
 | v=>R w Pb v [x] F
def RV(w:World)(Pb:Nat->Prop)(v:V)(x:Value)(F:List Nat):Prop:=
 match v with
 | .gv b u=>F=[]/\(b=true->SJ w Pb u x [])/\(b=false->x=undef)
 | v=>SJ w Pb v x F
theorem rP{w w':World}{Pb Pb':Nat->Prop}:∀ (vs:List V) {xs F},RVs w Pb vs xs F->(∀ g,Pb g->w'.heap[g]? =w.heap[g]?)->(∀ g,g∈F->w'.heap[g]? =w.heap[g]?)->
 (∀ g,Pb g->Pb' g)->(∀ g,g∈F->¬ Pb' g)->RVs w' Pb' vs xs F
 | [],_,_,h,_,_,_,_=>h
 | v::vs,xs,F,h,k1,k2,k3,k4=>by
   obtain⟨x,xs',F1,F2,hx,rfl,h1,h2⟩:=h
   refine⟨x,xs',F1,F2,hx,rfl,?_,rP vs h2 k1 (fun g hg=>k2 g (by simp[hg])) k3 (fun g hg=>k4 g (by simp[hg]))⟩
   cases v with
   | agg us=>obtain⟨cs,e,h1⟩:=h1;exact⟨cs,e,dK us h1 k1 (fun g hg=>k2 g (by simp[hg])) k3 (fun g hg=>k4 g (by simp[hg]))⟩
   | b7=>exact h1
   | _=>exact fi _ h1 k1 (fun g hg=>k2 g (by simp[hg])) k3 (fun g hg=>k4 g (by simp[hg]))
theorem eQ{w w':World} {Pb Pb':Nat->Prop} (v:V) {x F} (h:SJ w Pb v x F) (k1:∀ g,Pb g->w'.heap[g]? =w.heap[g]?) (k2:∀ g,g∈F->w'.heap[g]? =w.heap[g]?)
 (k3:∀ g,Pb g->Pb' g) (k4:∀ g,g∈F->¬ Pb' g):SJ w' Pb' v x F:=by
 cases v with
 | tup vs=>obtain⟨xs,e,h⟩:=h;exact⟨xs,e,rP vs h k1 k2 k3 k4⟩
 | agg us=>obtain⟨cs,e,h⟩:=h;exact⟨cs,e,dK us h k1 k2 k3 k4⟩
 | b7=>exact h
 | _=>exact fi _ h k1 k2 k3 k4
theorem lv{w w':World} {Pb Pb':Nat->Prop} (v:V) {x F} (h:RV w Pb v x F) (k1:∀ g,Pb g->w'.heap[g]? =w.heap[g]?) (k2:∀ g,g∈F->w'.heap[g]? =w.heap[g]?)
 (k3:∀ g,Pb g->Pb' g) (k4:∀ g,g∈F->¬ Pb' g):RV w' Pb' v x F:=by
 cases v with
 | gv b u=>obtain⟨hF,h1,h2⟩:=h;exact⟨hF,fun hb=>eQ u (h1 hb) k1 Z8 k3 Z8,h2⟩
 | tup vs=>exact eQ (.tup vs) h k1 k2 k3 k4
 | agg us=>exact eQ (.agg us) h k1 k2 k3 k4
 | b7=>exact h
 | own sz xs g o c=>exact eQ (.own sz xs g o c) h k1 k2 k3 k4
 | ow sz xs=>exact eQ (.ow sz xs) h k1 k2 k3 k4
 | om es g=>exact eQ (.om es g) h k1 k2 k3 k4
 | mp es=>exact eQ (.mp es) h k1 k2 k3 k4
 | lit x=>exact eQ (.lit x) h k1 k2 k3 k4
 | sl f xs=>exact eQ (.sl f xs) h k1 k2 k3 k4
 | hd r p sz g o lo n c=>exact eQ (.hd r p sz g o lo n c) h k1 k2 k3 k4
 | ptr r p g o=>exact eQ (.ptr r p g o) h k1 k2 k3 k4
 | ep v=>exact eQ (.ep v) h k1 k2 k3 k4
def Shp(w w':World):Prop:= ∀ (g:Nat) (c:Array Value) (e:TypeId) (fr:Nat×Nat),w.heap[g]? =some (.cells c e fr)->∃ c':Array Value,w'.heap[g]? =some (.cells c' e fr)/\c'.size=c.size
theorem Shp.refl(w:World):Shp w w:=fun _ c _ _ h=>⟨c,h,rfl⟩
theorem Shp.trans{a b c:World}(h:Shp a b)(k:Shp b c):Shp a c:=fun g x e fr hx=>by
 obtain⟨y,h1,h2⟩:=h g x e fr hx
 obtain⟨z,k1,k2⟩:=k g y e fr h1
 exact⟨z,k1,k2.trans h2⟩
theorem Shp.of_eq{w w':World}(h:∀ g:Nat,g<w.heap.size->w'.heap[g]? =w.heap[g]?):Shp w w':=fun g c e fr hc=>by
 have hl:g<w.heap.size:=(Zt.1 hc).1
 exact⟨c,(h g hl).trans hc,rfl⟩
structure w5 (Pb:Nat->Prop) (w w':World):Prop where
 os:w'.os=w.os
 tape:w'.tape=w.tape
 output:w'.output=w.output
 size:w.heap.size<=w'.heap.size
 block:∀ g,Pb g->w'.heap[g]? =w.heap[g]?
 shape:Shp w w'
theorem w5.refl(Pb:Nat->Prop)(w:World):w5 Pb w w:=⟨rfl,rfl,rfl,Zy _,fun _ _=>rfl,Shp.refl _⟩
theorem w5.trans{Pb Pb':Nat->Prop}{a b c:World}(h:w5 Pb a b)(k:w5 Pb' b c)(hp:∀ g,Pb g->Pb' g):w5 Pb a c:=
 ⟨k.os.trans h.os,k.tape.trans h.tape,k.output.trans h.output,Nat.le_trans h.size k.size,fun g hg=>(k.block g (hp g hg)).trans (h.block g hg),h.shape.trans k.shape⟩
def At(w:World)(Pb:Nat->Prop)(v:V)(g o:Nat)(F:List Nat):Prop:=
 ∃ cs cells,Blk w g cells/\R w Pb v cs F/\∀ j u,cs[j]? =some u->cells[o+j]? =some u
structure r7 (N:Nat) (Pb Kb:Nat->Prop) (A:AS) (a:Act) (w:World) (F:l6->List Nat):Prop where
 size:a.tmps.size=N
 defers:a.defers=[]
 slot:∀ i,RV w Pb (A.get i) (a.tmps.getD i undef) (F (.slot i))
 root:∀ k g v,lk k A.h=some (g,v)->∃ F',F (.key k)=g::F'/\At w Pb v g 0 F'
 bP:∀ r r',r≠r'->∀ g,g∈F r->g ∉ F r'
 nodup:∀ r,(F r).Nodup
 free:∀ r g,g∈F r->¬ Kb g/\g<w.heap.size
 sub:∀ g,Pb g->Kb g
 bound:∀ g,Kb g->g<w.heap.size
def Nx(N:Nat)(Pb Kb:Nat->Prop)(w:World)(K:AS->Prop)(a':Act)(w':World):Prop:=
 ∃ A' Pb' C4 F',K A'/\r7 N Pb' C4 A' a' w' F'/\(∀ g,Pb g->Pb' g)/\(∀ g,Kb g->C4 g)/\(∀ g,Pb' g->Pb g\/¬ Kb g)/\w5 Kb w w'
def bO(F:l6->List Nat)(r:l6)(l:List Nat):l6->List Nat:=fun r'=>if r'=r then l else F r'
theorem r7.put{N:Nat} {Pb Kb:Nat->Prop} {A:AS} {a:Act} {w:World} {F:l6->List Nat} (h:r7 N Pb Kb A a w F) {d:Nat} {v:V} {x:Value} {F':List Nat}
 (hd:d<N) (hv:RV w Pb v x F') (h1:∀ r,r≠.slot d->∀ g,g∈F'->g ∉ F r) (h2:F'.Nodup) (h3:∀ g,g∈F'->¬ Kb g/\g<w.heap.size):
 r7 N Pb Kb (A.put (some d) v) (a.put (some d) x) w (bO F (.slot d) F') where
 size:=by simp[Act.put,h.size]
 defers:=by simpa[Act.put] using h.defers
 slot:=fun i=>by
  rw[AS.au]
  by_cases e:i=d
  subst e
  simp only[if_true,bO]
  have hx:(a.put (some i) x).tmps.getD i undef=x:=by simp[Act.put,h.size,hd]
  rw[hx];exact hv
  have hne:l6.slot i≠l6.slot d:=fun c=>e (by injection c)
  simp only[if_neg e,bO,if_neg hne]
  have hx:(a.put (some d) x).tmps.getD i undef=a.tmps.getD i undef:=by
   simp[Act.put,Array.getElem?_setIfInBounds_ne (Ne.symm e)]
  rw[hx];exact h.slot i
 root:=fun k g v hk=>by
  obtain⟨Mg,e,hr⟩:=h.root k g v hk
  exact⟨Mg,by simpa[bO] using e,hr⟩
 bP:=fun r r' hne g hg=>by
  simp only[bO]at hg ⊢
  by_cases e:r=.slot d
  subst e
  rw[if_neg (Ne.symm hne)]
  simp only[if_true]at hg
  exact h1 r' (Ne.symm hne) g hg
  rw[if_neg e]at hg
  by_cases e':r'=.slot d
  rw[if_pos e']
  exact fun Of=>h1 r e g Of hg
  rw[if_neg e']
  exact h.bP r r' hne g hg
 nodup:=fun r=>by
  simp only[bO];split
  exact h2
  exact h.nodup r
 free:=fun r g hg=>by
  simp only[bO]at hg
  split at hg
  exact h3 g hg
  exact h.free r g hg
 sub:=h.sub
 bound:=h.bound
def bX(N:Nat)(d:Option Nat):Prop:=match d with | some d=>d<N | none=>True
theorem r7.nT{N:Nat} {Pb Kb:Nat->Prop} {A:AS} {a:Act} {w:World} {F:l6->List Nat} (h:r7 N Pb Kb A a w F) {d:Option Nat} {v:V} {x:Value}
 (hd:bX N d) (hv:RV w Pb v x []):∃ F',r7 N Pb Kb (A.put d v) (a.put d x) w F':=by
 cases d with
 | none=>exact⟨F,h⟩
 | some d=>exact⟨_,h.put hd hv Z8 Z8 Z8⟩
def D3(P:Program)(N:Nat)(o:Oper)(A:AS)(K:AS->Prop):Prop:=
 ∀ Pb Kb a w F Q,r7 N Pb Kb A a w F->o.wp P a w (Nx N Pb Kb w K) Q
theorem gY{P:Program} {N:Nat} {o:Oper} {A:AS} {K:AS->Prop} {v:V} (hd:bX N o.dst) (hK:K (A.put o.dst v))
 (h:∀ Pb Kb a w F,r7 N Pb Kb A a w F->∃ x,(execOp a.eval o).run P w=.ok (.value x) w/\RV w Pb v x []):D3 P N o A K:=by
 intro Pb Kb a w F Q hs
 obtain⟨x,hx,hr⟩:=h Pb Kb a w F hs
 unfold Oper.wp
 rw[hx,Oper.upon_value]
 obtain⟨F',x5⟩:=hs.nT hd hr
 exact⟨_,Pb,Kb,F',hK,x5,fun _ h=>h,fun _ h=>h,fun _ h=>.inl h,w5.refl _ _⟩
inductive D where
 | int (k:IntKind) | bool | str | ptr (e:Nat) | sl (e:Nat) | arr (n e:Nat) | map (k e:Nat) | st (fs:List (Nat×Nat)) | other
 deriving DecidableEq
structure TI where
 sz:Nat
 J9:Nat
 d:D
def da:TypeDesc->D
 | .int k=>.int k | .bool=>.bool | .string=>.str | .pointer e=>.ptr e | .slice e=>.sl e | .array n e=>.arr n e | .map k e=>.map k e
 | .struct fs=>.st (fs.toList.map fun f=>(f.offset,f.type))
 | _=>.other
def ti(P:Program)(T:Nat):Option TI:=match P.info? T,P.underlying T with | some i,some d=>some ⟨i.size,i.bytes,da d⟩ | _,_=>none
def D.agg:D->Bool | .st _ | .arr _ _=>true | _=>false
theorem il{P:Program}{T:Nat}{i:TI}(h:ti P T=some i):∃ inf d,P.info? T=some inf/\P.underlying T=some d/\inf.size=i.sz/\inf.bytes=i.J9/\da d=i.d:=by
 unfold ti at h
 cases h1:P.info? T with
 | none=>simp[h1]at h
 | some inf=>cases h2:P.underlying T with
   | none=>simp[h1,h2]at h
   | some d=>simp[h1,h2]at h;subst h;exact⟨inf,d,rfl,rfl,rfl,rfl,rfl⟩
def Ri:Value->V
 | .slice none 0 0=>.sl true []
 | x=>.lit x
def cV:Value->V
 | .agg cs=>if cs.toList.all (·.oneCell') then .agg (cs.toList.map Ri) else .b7
 | .tuple _=>.b7
 | x=>Ri x
def AS.ev(A:AS):Operand->V
 | .tmp i=>A.get i
 | .const v=>cV v
 | .global g=>.ptr (.key (9000+g)) [] g 0
 | .func f=>.lit (.func (.func f) #[] #[])
mutual
def V.Po(r:l6)(p:List Nat):V->V
 | .own sz xs g o c=>.hd r p sz g o 0 xs.length c
 | .ow .. =>.b7
 | .om _ g=>.lit (.map (some g))
 | .agg vs=>.agg (V.ES r p 0 vs)
 | v=>v
def V.ES(r:l6)(p:List Nat)(j:Nat):List V->List V
 | []=>[]
 | v::vs=>v.Po r (p++[j])::V.ES r p (j+1) vs
end
mutual
def V.cB:V->Bool
 | .own .. =>true
 | .ow .. =>true
 | .om .. =>true
 | .agg vs=>V.ay vs
 | .tup vs=>V.ay vs
 | _=>false
def V.ay:List V->Bool
 | []=>false
 | v::vs=>v.cB||V.ay vs
end
def V.cp(r:l6):V->V
 | .tup _=>.b7
 | .gv _ _=>.b7
 | v=>v.Po r []
def AH(A:AS)(x:Operand)(y:V):V:=
 match A.ev x with
 | .tup vs=>if V.ay vs=true then .b7 else .tup vs
 | _=>y
def AS.cp(A:AS):Operand->V
 | .tmp i=>(A.get i).cp (.slot i)
 | x=>A.ev x
def iP(op:BinOp)(k:IntKind)(a b:Int):Option (Prop×V):=
 match op with
 | .add=>some (True,.lit (.int k (k.wrap (a+b))))
 | .sub=>some (True,.lit (.int k (k.wrap (a-b))))
 | .mul=>some (True,.lit (.int k (k.wrap (a*b))))
 | .quo=>some (b≠0,.lit (.int k (k.wrap (a.tdiv b))))
 | .rem=>some (b≠0,.lit (.int k (a.tmod b)))
 | .eql=>some (True,.lit (.bool (a==b)))
 | .neq=>some (True,.lit (.bool (a != b)))
 | .lss=>some (True,.lit (.bool (decide (a<b))))
 | .leq=>some (True,.lit (.bool (decide (a<=b))))
 | .gtr=>some (True,.lit (.bool (decide (a>b))))
 | .geq=>some (True,.lit (.bool (decide (a>=b))))
 | .and=>some (True,.lit (.int k (k.wrap ((BitVec.ofInt k.bits a &&& BitVec.ofInt k.bits b).toNat))))
 | .xor=>some (True,.lit (.int k (k.wrap ((BitVec.ofInt k.bits a ^^^ BitVec.ofInt k.bits b).toNat))))
 | .shr=>some (0<=b,.lit (.int k (a.fdiv (2 ^ min b.toNat k.bits))))
 | .shl=>some (0<=b,.lit (.int k (k.wrap (a*2 ^ min b.toNat k.bits))))
 | _=>none
def Pf(k:IntKind)(n:Int):Prop:=
 match k with
 | .i64=> -9223372036854775808<=n/\n<=9223372036854775807
 | .i32=> -2147483648<=n/\n<=2147483647
 | .u8=>0<=n/\n<=255
 | k=>k.wrap n=n
def tZ(op:BinOp)(k:IntKind)(a b:Int):Option (Prop×V):=
 match op with
 | .add=>some (Pf k (a+b),.lit (.int k (a+b)))
 | .sub=>some (Pf k (a-b),.lit (.int k (a-b)))
 | .mul=>some (Pf k (a*b),.lit (.int k (a*b)))
 | .quo=>some (0<=a/\0<b/\Pf k a,.lit (.int k (a / b)))
 | .rem=>some (0<=a/\0<b,.lit (.int k (a % b)))
 | .and=>some (0<=a/\0<=b/\Pf k a/\Pf k b,.lit (.int k ((a.toNat &&& b.toNat:Nat):Int)))
 | .xor=>some (0<=a/\0<=b/\Pf k a/\Pf k b,.lit (.int k ((a.toNat ^^^ b.toNat:Nat):Int)))
 | .shr=>some (0<=b/\b<k.bits,.lit (.int k (a.fdiv (2 ^ b.toNat))))
 | op=>iP op k a b
def uT(op:BinOp)(a b:ByteArray):Option (Prop×V):=
 match op with
 | .add=>some (a.size+b.size<=4611686018427387904,.lit (.string (a++b)))
 | .eql=>some (True,.lit (.bool (a.toList==b.toList)))
 | .neq=>some (True,.lit (.bool (!(a.toList==b.toList))))
 | _=>none
def AB(op:BinOp)(a b:Bool):Option (Prop×V):=
 match op with
 | .eql=>some (True,.lit (.bool (a==b)))
 | .neq=>some (True,.lit (.bool (!(a==b))))
 | _=>none
def rT(op:BinOp)(d:Option D)(x y:V):Option (Prop×V):=
 match d,x,y with
 | some (.int _),.lit (.int k a),.lit (.int k' b)=>if op=.shr\/op=.shl then tZ op k a b else if k=k' then tZ op k a b else none
 | some .str,.lit (.string a),.lit (.string b)=>uT op a b
 | some .bool,.lit (.bool a),.lit (.bool b)=>AB op a b
 | _,_,_=>none
def VO(op:UnOp)(x:V):Option (Prop×V):=
 match op,x with
 | .not,.lit (.bool b)=>some (True,.lit (.bool (!b)))
 | .neg,.lit (.int k n)=>some (Pf k (-n),.lit (.int k (-n)))
 | _,_=>none
def tD(P:Program)(T:Nat):Option D:=(ti P T).map (·.d)
def VG:V->Bool×V
 | .gv b v=>(b,v)
 | v=>(true,v)
def AM(A:AS)(a b:Operand):V->Option (Prop×V)
 | .lit (.bool c)=>match VG (A.ev a),VG (A.ev b) with
   | (ga,.lit (.bool x)),(gb,.lit (.bool y))=>some ((c=true->ga=true)/\(c=false->gb=true),.lit (.bool (cond c x y)))
   | _,_=>none
 | _=>none
def Gj:Option D->Option D->V->Option (Prop×V)
 | some (.int _),some (.int k),.lit (.int _ n)=>some (Pf k n,.lit (.int k n))
 | some .str,some .str,.lit (.string s)=>some (True,.lit (.string s))
 | _,_,_=>none
def W0(s:ByteArray)(i:Int):V:=.lit (.int .u8 (s.data.getD i.toNat 0).toNat)
def EJ:Option D->V->V->Option (Prop×V)
 | some .str,.lit (.string s),.lit (.int _ i)=>some (0<=i/\i<s.size,W0 s i)
 | _,_,_=>none
def SN:Option V->Option Int
 | none=>some 0
 | some (.lit (.int _ l))=>some l
 | _=>none
def R6(n:Nat):Option V->Option Int
 | none=>some n
 | some (.lit (.int _ l))=>some l
 | _=>none
def EP(s:ByteArray)(lo hi:Option V):Option (Prop×V):=
 match SN lo,R6 s.size hi with
 | some l,some h=>some (0<=l/\l<=h/\h<=s.size,.lit (.string (s.extract l.toNat h.toNat)))
 | _,_=>none
def Ax(d:Option D)(x:V)(lo hi:Option V):Option (Prop×V):=
 match d,x with
 | some .str,.lit (.string s)=>EP s lo hi
 | _,_=>none
def xK:Option D->V->Option (Prop×V)
 | some .str,.lit (.string s)=>some (True,.lit (.int .i64 s.size))
 | some (.sl _),.sl _ xs=>some (True,.lit (.int .i64 xs.length))
 | some (.sl _),.own _ xs _ _ _=>some (True,.lit (.int .i64 xs.length))
 | some (.sl _),.hd _ _ _ _ _ _ n _=>some (True,.lit (.int .i64 n))
 | _,_=>none
def Ek:V->Nat->Option (Prop×V)
 | .tup vs,i=>match vs[i]? with
   | some v=>if v.cB then none else some (True,v)
   | none=>none
 | _,_=>none
def BA:V->V->Option (Prop×V)
 | .lit (.int k a),.lit (.int k' b)=>if k=k' then some (True,.lit (.int k (max a b))) else none
 | _,_=>none
def sZ(P:Program)(A:AS)(c:Call):Option (Prop×V):=
 match c.callee with
 | .builtin .len=>match c.args.toList,c.argTypes.toList with
   | [x],[T]=>xK (tD P T) (A.ev x)
   | _,_=>none
 | .builtin .max=>match c.args.toList with
   | [x,y]=>BA (A.ev x) (A.ev y)
   | _=>none
 | _=>none
def NN(P:Program)(A:AS):Op->Option (Prop×V)
 | .move x=>some (True,AH A x (A.cp x))
 | .pick c a b=>AM A a b (A.ev c)
 | .binOp op T x y _=>rT op (tD P T) (A.ev x) (A.ev y)
 | .unOp op _ x=>VO op (A.ev x)
 | .convert s d x=>Gj (tD P s) (tD P d) (A.ev x)
 | .index T x i=>EJ (tD P T) (A.ev x) (A.ev i)
 | .slice T x lo hi none=>Ax (tD P T) (A.ev x) (lo.map A.ev) (hi.map A.ev)
 | .call c=>sZ P A c
 | .extract x i=>Ek (A.ev x) i
 | _=>none
section
variable {w:World} {Pb:Nat->Prop}
mutual
theorem jh(r:l6):∀ (v:V) (p:List Nat) {cs F},R w Pb v cs F->R w Pb (v.Po r p) cs []
 | .own sz xs g o c,p,cs,F,h=>by
   rcases h with ⟨h1,h2,h3,A,h4⟩ | ⟨h1,h2,h3,h4,_⟩
   subst h1 h2;exact⟨rfl,Zy _,A,h4,fun h=>absurd h Z9⟩
   exact⟨rfl,h3,_,h4,fun _=>by simp⟩
 | .ow ..,_,_,_,h=>by
   obtain⟨g,o,c,h⟩:=h
   rcases h with ⟨h1,h2,h3,A,h4⟩ | ⟨h1,h2,h3,h4,_⟩
   exact⟨rfl,_,h4,rfl⟩
   exact⟨rfl,_,h4,rfl⟩
 | .om ..,_,_,_,h=>⟨rfl,h.2.1,rfl⟩
 | .mp ..,_,_,_,h=>⟨rfl,h.2⟩
 | .agg vs,p,cs,F,h=>by simp only[R,V.Po]at h ⊢;exact xY r vs p 0 h
 | .tup _,_,_,_,h=>by simp[R]at h
 | .gv _ _,_,_,_,h=>by simp[R]at h
 | .lit x,_,_,_,h=>⟨h.1,h.2.1,rfl⟩
 | .sl ..,_,_,_,h=>⟨rfl,h.2⟩
 | .hd ..,_,_,_,h=>⟨rfl,h.2⟩
 | .ptr ..,_,_,_,h=>⟨rfl,h.2⟩
 | .ep _,_,_,_,h=>⟨rfl,h.2⟩
 | .b7,_,_,_,h=>⟨rfl,h.2⟩
theorem xY(r:l6):∀ (vs:List V) (p:List Nat) (j:Nat) {cs F},RL w Pb vs cs F->RL w Pb (V.ES r p j vs) cs []
 | [],_,_,_,_,h=>⟨h.1,rfl⟩
 | v::vs,p,j,cs,F,h=>by
   obtain⟨c1,c2,F1,F2,rfl,_,h1,h2⟩:=h
   exact⟨c1,c2,[],[],rfl,rfl,jh r v _ h1,xY r vs p (j+1) h2⟩
end
mutual
theorem gQ:∀ (v:V) {cs F},v.cB=false->R w Pb v cs F->F=[]
 | .own ..,_,_,ho,_=>by simp[V.cB]at ho
 | .ow ..,_,_,ho,_=>by simp[V.cB]at ho
 | .om ..,_,_,ho,_=>by simp[V.cB]at ho
 | .mp ..,_,_,_,h=>h.1
 | .agg vs,_,_,ho,h=>by simp only[R]at h;exact fc vs (by simpa[V.cB] using ho) h
 | .tup _,_,_,_,h=>by simp[R]at h
 | .gv _ _,_,_,_,h=>by simp[R]at h
 | .lit x,_,_,_,h=>h.2.2
 | .sl ..,_,_,_,h=>h.1
 | .hd ..,_,_,_,h=>h.1
 | .ptr ..,_,_,_,h=>h.1
 | .ep _,_,_,_,h=>h.1
 | .b7,_,_,_,h=>h.1
theorem fc:∀ (vs:List V) {cs F},V.ay vs=false->RL w Pb vs cs F->F=[]
 | [],_,_,_,h=>h.2
 | v::vs,_,_,ho,h=>by
   obtain⟨c1,c2,F1,F2,_,rfl,h1,h2⟩:=h
   simp only[V.ay,Bool.or_eq_false_iff]at ho
   rw[gQ v ho.1 h1,fc vs ho.2 h2];rfl
end
theorem qY:∀ (vs:List V) {xs F},V.ay vs=false->RVs w Pb vs xs F->F=[]
 | [],_,_,_,h=>h.2
 | v::vs,_,_,ho,h=>by
   obtain⟨x,xs',F1,F2,_,rfl,h1,h2⟩:=h
   simp only[V.ay,Bool.or_eq_false_iff]at ho
   rw[qY vs ho.2 h2]
   cases v with
   | agg us=>obtain⟨cs,_,h1⟩:=h1;rw[fc us (by simpa[V.cB] using ho.1) h1];rfl
   | b7=>rw[h1];rfl
   | tup _=>simp[R]at h1
   | gv _ _=>simp[R]at h1
   | _=>rw[gQ _ ho.1 h1];rfl
theorem Kh{v:V}{x:Value}{F:List Nat}(r:l6)(h:RV w Pb v x F):RV w Pb (v.cp r) x []:=by
 cases v with
 | tup _=>rfl
 | gv _ _=>rfl
 | agg us=>obtain⟨cs,e,h⟩:=h;exact⟨cs,e,xY r us [] 0 h⟩
 | b7=>rfl
 | own sz xs g o c=>exact jh (w:=w) (Pb:=Pb) r (.own sz xs g o c) [] h
 | ow sz xs=>rfl
 | om es g=>exact jh (w:=w) (Pb:=Pb) r (.om es g) [] h
 | mp es=>exact jh (w:=w) (Pb:=Pb) r (.mp es) [] h
 | lit x=>exact jh (w:=w) (Pb:=Pb) r (.lit x) [] h
 | sl f xs=>exact jh (w:=w) (Pb:=Pb) r (.sl f xs) [] h
 | hd r' p sz g o lo n c=>exact jh (w:=w) (Pb:=Pb) r (.hd r' p sz g o lo n c) [] h
 | ptr r' p g o=>exact jh (w:=w) (Pb:=Pb) r (.ptr r' p g o) [] h
 | ep v=>exact jh (w:=w) (Pb:=Pb) r (.ep v) [] h
theorem Gv{x:Value}(h:x.oneCell'=true):R w Pb (Ri x) [x] []:=by
 unfold Ri
 split
 exact⟨rfl,none,0,rfl,Zy _,fun _=>rfl,.inl rfl⟩
 exact⟨h,rfl,rfl⟩
theorem BN:∀ (l:List Value),l.all (·.oneCell')=true->RL w Pb (l.map Ri) l []
 | [],_=>⟨rfl,rfl⟩
 | x::l,h=>by
   simp only[List.all_cons,ZX]at h
   exact⟨[x],l,[],[],rfl,rfl,Gv h.1,BN l h.2⟩
theorem qj(x:Value):RV w Pb (cV x) x []:=by
 cases x with
 | agg cs=>
   unfold cV
   by_cases h:cs.toList.all (·.oneCell')=true
   simp only[h,if_true];exact⟨cs,rfl,BN _ h⟩
   simp only[h];rfl
 | tuple _=>rfl
 | slice a n c=>
   have h:=Gv (w:=w) (Pb:=Pb) (x:=.slice a n c) rfl
   unfold cV;simp only
   revert h
   unfold Ri
   split <;> exact fun h=>h
 | _=>exact⟨rfl,rfl,rfl⟩
variable {N:Nat} {Kb:Nat->Prop} {A:AS} {a:Act} {F:l6->List Nat}
theorem dr(h:r7 N Pb Kb A a w F)(x:Operand):∃ Fx,RV w Pb (A.ev x) (a.eval x) Fx:=by
 cases x with
 | tmp i=>exact⟨_,h.slot i⟩
 | const v=>exact⟨[],qj v⟩
 | global g=>exact⟨[],rfl,rfl⟩
 | func f=>exact⟨[],rfl,rfl,rfl⟩
theorem bH(h:r7 N Pb Kb A a w F){x:Operand}{y:Value}(e:A.ev x=.lit y):a.eval x=y:=by
 obtain⟨Fx,hr⟩:=dr h x
 rw[e]at hr
 have:=hr.2.1
 simpa using this
theorem ox(h:r7 N Pb Kb A a w F)(x:Operand):RV w Pb (A.cp x) (a.eval x) []:=by
 cases x with
 | tmp i=>exact Kh (.slot i) (h.slot i)
 | const v=>exact qj v
 | global g=>exact⟨rfl,rfl⟩
 | func f=>exact⟨rfl,rfl,rfl⟩
variable {P:Program}
theorem ax{T:Nat}{d:TypeDesc}(h:P.underlying T=some d):(underlying T).run P w=.ok d w:=by
 simp[underlying,h]
theorem cb{T:Nat}{d:D}(h:tD P T=some d):∃ td,P.underlying T=some td/\da td=d:=by
 unfold tD at h
 cases hi:ti P T with
 | none=>simp[hi]at h
 | some i=>
   obtain⟨inf,td,_,h2,_,_,h5⟩:=il hi
   simp[hi]at h
   exact⟨td,h2,h5.trans h⟩
theorem qI(op:BinOp)(T:Nat)(x y:Operand){u v:Value}(hu:∀ cs,u≠.agg cs)(hn:u≠.nilIface):(eqGuard op T x y u v).run P w=.ok () w:=by
 unfold eqGuard
 cases op <;> first | rfl | (cases u <;> first | (exact absurd rfl hn) | (exact absurd rfl (hu _)) | rfl)
theorem EW{op:BinOp}{k:IntKind}{p q:Int}{C:Prop}{v:V}(h:iP op k p q=some (C,v))(hC:C){T:Nat}(hs:op=.shr\/op=.shl->∀ yk,∃ x,(binOp op T (.int k p) (.int yk q)).run P w=.ok x w/\v=.lit x/\x.oneCell'=true):
 ∃ x,(binOp op T (.int k p) (.int k q)).run P w=.ok x w/\v=.lit x/\x.oneCell'=true:=by
 cases op <;> simp only[iP,ZY,ZV,reduceCtorEq]at h <;> obtain⟨rfl,rfl⟩:=h
 all_goals first
  | exact hs (.inl rfl) k
  | exact hs (.inr rfl) k
  | (refine⟨_,?_,rfl,rfl⟩
     simp only[binOp,ne_eq,not_true_eq_false,if_false]
     first | rfl | (unfold Op.intDiv;rw[if_neg hC];rfl))
theorem BG{op:BinOp}(ho:op=.shr\/op=.shl){k yk:IntKind}{p q:Int}{C:Prop}{v:V}(h:iP op k p q=some (C,v))(hC:C){T:Nat}:
 ∃ x,(binOp op T (.int k p) (.int yk q)).run P w=.ok x w/\v=.lit x/\x.oneCell'=true:=by
 rcases ho with rfl | rfl <;> simp only[iP,ZY,ZV]at h <;> obtain⟨rfl,rfl⟩:=h <;>
  exact⟨_,by simp[binOp,Op.shift,Int.not_lt.2 hC],rfl,rfl⟩
theorem sd{T:Nat}(hu:P.underlying T=some .bool)(p q:Bool):(Op.equal T (.bool p) (.bool q)).run P w=.ok (p==q) w:=by
 obtain⟨n,hn⟩:∃ n,Op.maxDepth=n+1:=⟨9999,rfl⟩
 unfold Op.equal
 rw[hn]
 simp only[Op.equalIn,ZK,ax hu,ZS,ZJ]
theorem jF{k:IntKind}{n:Int}(h:Pf k n):k.wrap n=n:=by
 cases k <;> simp only[Pf]at h <;> first | exact h | (simp only[IntKind.wrap,IntKind.bits,IntKind.signed,Bool.true_and,Bool.false_and];split <;> simp_all <;> omega)
def TT(k:IntKind):Nat:=if k.signed then k.bits-1 else k.bits
theorem Dj(k:IntKind):2 ^ TT k<=2 ^ k.bits:=Nat.pow_le_pow_right Z6 (by unfold TT;split <;> omega)
theorem rZ{k:IntKind}{m:Nat}(h:m<2 ^ TT k):k.wrap (m:Int)=m:=by
 unfold IntKind.wrap
 cases k <;> simp[TT,IntKind.bits,IntKind.signed]at h ⊢ <;> omega
theorem lS{k:IntKind}{n:Int}(h:Pf k n)(h0:0<=n):n.toNat<2 ^ TT k:=by
 have hw:=jF h
 obtain⟨q,rfl⟩:=Int.eq_ofNat_of_zero_le h0
 unfold IntKind.wrap at hw
 cases k <;> simp[IntKind.bits,IntKind.signed,TT]at hw ⊢ <;> (try split at hw) <;> omega
theorem va{op:BinOp}{k:IntKind}{p q:Int}{C:Prop}{v:V}(h:tZ op k p q=some (C,v))(hC:C):∃ C',iP op k p q=some (C',v)/\C':=by
 cases op <;> simp only[tZ,ZY,ZV]at h
 case add=>obtain⟨rfl,rfl⟩:=h;exact⟨_,by simp only[iP,jF hC],trivial⟩
 case sub=>obtain⟨rfl,rfl⟩:=h;exact⟨_,by simp only[iP,jF hC],trivial⟩
 case mul=>obtain⟨rfl,rfl⟩:=h;exact⟨_,by simp only[iP,jF hC],trivial⟩
 case quo=>
  obtain⟨rfl,rfl⟩:=h
  obtain⟨h0,h1,h2⟩:=hC
  refine⟨_,?_,show q≠0 by omega⟩
  have e:p.tdiv q=p / q:=Int.tdiv_eq_ediv_of_nonneg h0
  have hd:0<=p / q:=Int.ediv_nonneg h0 Z9
  have hle:p / q<=p:=Int.ediv_le_self _ h0
  have hb:=lS h2 h0
  have:=rZ (k:=k) (m:=(p / q).toNat) Z9
  rw[Int.toNat_of_nonneg hd]at this
  simp only[iP,e,this]
 case rem=>
  obtain⟨rfl,rfl⟩:=h
  obtain⟨h0,h1⟩:=hC
  refine⟨_,?_,show q≠0 by omega⟩
  simp only[iP,Int.tmod_eq_emod_of_nonneg h0]
 case and=>
  obtain⟨rfl,rfl⟩:=h
  obtain⟨h0,h1,h2,h3⟩:=hC
  refine⟨_,?_,trivial⟩
  obtain⟨a,rfl⟩:=Int.eq_ofNat_of_zero_le h0
  obtain⟨b,rfl⟩:=Int.eq_ofNat_of_zero_le h1
  have ha:=lS h2 h0
  have hb:=lS h3 h1
  have hk:=Dj k
  simp only[Int.toNat_natCast]at ha hb
  have e:(BitVec.ofInt k.bits (a:Int) &&& BitVec.ofInt k.bits (b:Int)).toNat=a &&& b:=by
   simp only[BitVec.toNat_and,BitVec.toNat_ofInt]
   rw[Int.emod_eq_of_lt Z9 (by exact_mod_cast Nat.lt_of_lt_of_le ha hk),Int.emod_eq_of_lt Z9 (by exact_mod_cast Nat.lt_of_lt_of_le hb hk)];rfl
  have:=rZ (k:=k) (m:=a &&& b) (Nat.lt_of_le_of_lt Nat.and_le_left ha)
  simp only[iP,e,this,Int.toNat_natCast]
 case xor=>
  obtain⟨rfl,rfl⟩:=h
  obtain⟨h0,h1,h2,h3⟩:=hC
  refine⟨_,?_,trivial⟩
  obtain⟨a,rfl⟩:=Int.eq_ofNat_of_zero_le h0
  obtain⟨b,rfl⟩:=Int.eq_ofNat_of_zero_le h1
  have ha:=lS h2 h0
  have hb:=lS h3 h1
  have hk:=Dj k
  simp only[Int.toNat_natCast]at ha hb
  have e:(BitVec.ofInt k.bits (a:Int) ^^^ BitVec.ofInt k.bits (b:Int)).toNat=a ^^^ b:=by
   simp only[BitVec.toNat_xor,BitVec.toNat_ofInt]
   rw[Int.emod_eq_of_lt Z9 (by exact_mod_cast Nat.lt_of_lt_of_le ha hk),Int.emod_eq_of_lt Z9 (by exact_mod_cast Nat.lt_of_lt_of_le hb hk)];rfl
  have:=rZ (k:=k) (m:=a ^^^ b) (Nat.xor_lt_two_pow ha hb)
  simp only[iP,e,this,Int.toNat_natCast]
 case shr=>
  obtain⟨rfl,rfl⟩:=h
  obtain⟨h1,h2⟩:=hC
  refine⟨_,?_,h1⟩
  have:min q.toNat k.bits=q.toNat:=Z9
  simp only[iP,this]
 all_goals exact⟨_,h,hC⟩
theorem Ee{op:BinOp}{x y:V}{C:Prop}{v:V}{T:Nat}(h:rT op (tD P T) x y=some (C,v))(hC:C):
 ∃ u u',x=.lit u/\y=.lit u'/\(∀ cs,u≠.agg cs)/\u≠.nilIface/\∃ z,(binOp op T u u').run P w=.ok z w/\v=.lit z/\z.oneCell'=true:=by
 unfold rT at h
 split at h
 rename_i k p k' q _
 refine⟨_,_,rfl,rfl,Z8,Z8,?_⟩
 split at h
 rename_i ho;obtain⟨C',h',WX⟩:=va h hC;exact BG ho h' WX
 rename_i ho
 split at h
 rename_i hk;subst hk;obtain⟨C',h',WX⟩:=va h hC;exact EW h' WX (fun h=>absurd h ho)
 simp at h
 rename_i p q _
 refine⟨_,_,rfl,rfl,Z8,Z8,?_⟩
 cases op <;> simp only[uT,ZY,ZV,reduceCtorEq]at h <;> obtain⟨rfl,rfl⟩:=h
 refine⟨_,?_,rfl,rfl⟩
 have: ¬ (((p.size+q.size:Nat):Int)>IntKind.i64.max):=by
  have:IntKind.i64.max=9223372036854775807:=Z6
  omega
 simp only[binOp,Op.stringOp,if_neg this,ZJ]
 exact⟨_,rfl,rfl,rfl⟩
 exact⟨_,rfl,rfl,rfl⟩
 rename_i p q hT
 refine⟨_,_,rfl,rfl,Z8,Z8,?_⟩
 obtain⟨td,hu,hd⟩:=cb hT
 have R0:td=.bool:=by cases td <;> simp[da]at hd ⊢
 subst R0
 cases op <;> simp only[AB,ZY,ZV,reduceCtorEq]at h <;> obtain⟨rfl,rfl⟩:=h
 exact⟨_,by simp only[binOp,ZK,sd hu,ZS,ZJ],rfl,rfl⟩
 exact⟨_,by simp only[binOp,ZK,sd hu,ZS,ZJ],rfl,rfl⟩
 simp at h
theorem cU{x:Value}(h:x.oneCell'=true):RV w Pb (.lit x) x []:=⟨h,rfl,rfl⟩
theorem yb(h:r7 N Pb Kb A a w F){lo:Option Operand}{l:Int}(hl:SN (lo.map A.ev)=some l):(lo=none/\l=0)\/∃ k,(lo.map a.eval)=some (.int k l):=by
 cases lo with
 | none=>simp[SN]at hl;exact .inl ⟨rfl,hl.symm⟩
 | some x=>
   right
   simp only[Option.map_some,SN]at hl
   cases hx:A.ev x with
   | lit y=>
     cases y with
     | int k l'=>rw[hx]at hl;simp at hl;subst hl;exact⟨k,by simp[bH h hx]⟩
     | _=>rw[hx]at hl;simp at hl
   | _=>rw[hx]at hl;simp at hl
theorem uJ(h:r7 N Pb Kb A a w F){n:Nat}{hi:Option Operand}{l:Int}(hl:R6 n (hi.map A.ev)=some l):(hi=none/\l=n)\/∃ k,(hi.map a.eval)=some (.int k l):=by
 cases hi with
 | none=>simp[R6]at hl;exact .inl ⟨rfl,hl.symm⟩
 | some x=>
   right
   simp only[Option.map_some,R6]at hl
   cases hx:A.ev x with
   | lit y=>
     cases y with
     | int k l'=>rw[hx]at hl;simp at hl;subst hl;exact⟨k,by simp[bH h hx]⟩
     | _=>rw[hx]at hl;simp at hl
   | _=>rw[hx]at hl;simp at hl
theorem ig{k:IntKind}{i:Int}{y:Nat}{code:BoundsCode}(h0:0<=i)(h1:i<=y):(Instr.sliceBound (.int k i) y code).run P w=.ok i.toNat w:=by
 simp[Instr.sliceBound,asIntOf,h0,h1]
theorem jx{sl:Bool} {n c:Nat} {lo hi:Option Value} {l h:Int} (hlo:(lo=none/\l=0)\/∃ k,lo=some (.int k l)) (hhi:(hi=none/\h=n)\/∃ k,hi=some (.int k h))
 (h0:0<=l) (h1:l<=h) (h2:h<=(c:Nat)) (hn:n<=c):(Instr.sliceBounds sl n c lo hi none).run P w=.ok (l.toNat,h.toNat,c) w:=by
 have hb:(h.toNat:Int)=h:=Int.toNat_of_nonneg Z9
 rcases hlo with ⟨rfl,rfl⟩ | ⟨k,rfl⟩ <;> rcases hhi with ⟨rfl,rfl⟩ | ⟨k',rfl⟩
 simp[Instr.sliceBounds]
 simp only[Instr.sliceBounds,ZK,ZJ,ZS,ig (w:=w) (P:=P) (k:=k') (code:=if sl then .sliceAcap else .sliceAlen) (show 0<=h by omega) h2];rfl
 simp only[Instr.sliceBounds,ZK,ZJ,ZS,Option.isSome,Bool.false_eq_true,if_false,ig (w:=w) (P:=P) (k:=k) (y:=n) (code:=.sliceB) h0 h1];rfl
 simp only[Instr.sliceBounds,ZK,ZJ,ZS,Option.isSome,Bool.false_eq_true,if_false,ig (w:=w) (P:=P) (k:=k') (code:=if sl then .sliceAcap else .sliceAlen) (show 0<=h by omega) h2,
  ig (w:=w) (P:=P) (k:=k) (y:=h.toNat) (code:=.sliceB) h0 Z9]
theorem zC:∀ (vs:List V) {xs:List Value} {F:List Nat} {i:Nat} {v:V},RVs w Pb vs xs F->vs[i]? =some v->v.cB=false->∃ x,xs[i]? =some x/\RV w Pb v x []
 | [],_,_,_,_,_,h,_=>by simp at h
 | v::vs,xs,F,0,u,h,hi,ho=>by
     obtain⟨x,xs',F1,F2,rfl,rfl,h1,h2⟩:=h
     simp at hi;subst hi
     refine⟨x,rfl,?_⟩
     cases v with
     | agg us=>obtain⟨cs,e,h1⟩:=h1;exact⟨cs,e,by rw[fc us (by simpa[V.cB] using ho) h1]at h1;exact h1⟩
     | b7=>rfl
     | tup us=>simp[R]at h1
     | gv _ _=>simp[R]at h1
     | own=>simp[V.cB]at ho
     | ow=>simp[V.cB]at ho
     | om=>simp[V.cB]at ho
     | mp=>exact⟨rfl,h1.2⟩
     | lit=>exact⟨h1.1,h1.2.1,rfl⟩
     | sl=>exact⟨rfl,h1.2⟩
     | hd=>exact⟨rfl,h1.2⟩
     | ptr=>exact⟨rfl,h1.2⟩
     | ep=>exact⟨rfl,h1.2⟩
 | v::vs,xs,F,i+1,u,h,hi,ho=>by
     obtain⟨x,xs',F1,F2,rfl,rfl,h1,h2⟩:=h
     obtain⟨y,hy,hr⟩:=zC vs h2 (by simpa using hi) ho
     exact⟨y,by simpa using hy,hr⟩
theorem zV{op:Op}{C:Prop}{v:V}(h:NN P A op=some (C,v))(hC:C)(hs:r7 N Pb Kb A a w F){o:Oper}(ho:o.op=op):
 ∃ x,(execOp a.eval o).run P w=.ok (.value x) w/\RV w Pb v x []:=by
 obtain⟨dst,op',ty,pos,after,guard⟩:=o
 subst ho
 unfold NN at h
 split at h
 rename_i x K0;subst K0
 simp at h;obtain⟨_,rfl⟩:=h
 refine⟨_,rfl,?_⟩
 unfold AH
 split
 rename_i vs e
 obtain⟨Fx,hr⟩:=dr hs x
 rw[e]at hr
 split
 rfl
 rename_i ho
 obtain⟨xs,hx,hr⟩:=hr
 have hF:=qY vs (by simpa using ho) hr
 subst hF
 exact⟨xs,hx,hr⟩
 exact ox hs x
 · rename_i c p q K0;subst K0
   unfold AM at h
   split at h
   case h_2=>simp at h
   · rename_i c' e
     split at h
     case h_2=>simp at h
     rename_i ga x gb y ea eb
     simp only[ZY,ZV]at h
     obtain⟨rfl,rfl⟩:=h
     have ex:∀ (z:Operand) (g b:Bool),VG (A.ev z)=(g,.lit (.bool b))->g=true->a.eval z=.bool b:=fun z g b hz hg=>by
      obtain⟨Fx,hr⟩:=dr hs z
      unfold VG at hz
      split at hz
      rename_i b' v' e'
      simp only[ZV]at hz
      obtain⟨rfl,rfl⟩:=hz
      rw[e']at hr
      have:=(hr.2.1 hg).2.1
      simpa using this
      simp only[ZV]at hz
      rw[hz.2]at hr
      have:=hr.2.1
      simpa using this
     simp only[execOp,bH hs e,asBool,ZK,ZJ,ZS]
     cases c'
     exact⟨.bool y,by simp[ex q gb y eb (hC.2 rfl)],cU rfl⟩
     exact⟨.bool x,by simp[ex p ga x ea (hC.1 rfl)],cU rfl⟩
 rename_i op T x y _ K0;subst K0
 obtain⟨u,u',hx,hy,hu,hn,z,hz,rfl,h1⟩:=Ee (w:=w) (P:=P) h hC
 refine⟨z,?_,cU h1⟩
 simp only[execOp,bH hs hx,bH hs hy,ZK,qI op T x y hu hn,ZS,hz,ZJ]
 rename_i op T x K0;subst K0
 unfold VO at h
 split at h <;> simp only[ZY,ZV,reduceCtorEq]at h
 rename_i b e;obtain⟨_,rfl⟩:=h
 exact⟨_,by simp only[execOp,bH hs e];rfl,cU rfl⟩
 rename_i k n e;obtain⟨rfl,rfl⟩:=h
 exact⟨_,by simp only[execOp,bH hs e];rw[show -n=IntKind.wrap k (0-n) by rw[Int.zero_sub];exact(jF hC).symm];rfl,cU rfl⟩
 rename_i s d x K0;subst K0
 unfold Gj at h
 split at h <;> simp only[ZY,ZV,reduceCtorEq]at h
 rename_i k0 k k1 n x5 R8 e;obtain⟨rfl,rfl⟩:=h
 obtain⟨td,hu,hd⟩:=cb x5
 obtain⟨VR,SV,R8⟩:=cb R8
 cases td <;> simp[da]at hd
 cases VR <;> simp[da]at R8
 subst hd R8
 exact⟨.int _ (IntKind.wrap _ n),by simp only[execOp,bH hs e,convert,ZK,ax hu,ax SV,ZS];rfl,by rw[jF hC];exact cU rfl⟩
 rename_i s' x5 R8 e;obtain⟨_,rfl⟩:=h
 obtain⟨td,hu,hd⟩:=cb x5
 obtain⟨VR,SV,R8⟩:=cb R8
 cases td <;> simp[da]at hd
 cases VR <;> simp[da]at R8
 exact⟨_,by simp only[execOp,bH hs e,convert,ZK,ax hu,ax SV,ZS];rfl,cU rfl⟩
 rename_i T x i K0;subst K0
 unfold EJ at h
 split at h <;> simp only[ZY,ZV,reduceCtorEq]at h
 rename_i s k i' x5 e e';obtain⟨rfl,rfl⟩:=h
 obtain⟨td,hu,hd⟩:=cb x5
 cases td <;> simp[da]at hd
 obtain⟨h0,h1⟩:=hC
 have hlt:i'.toNat<s.size:=Z9
 refine⟨.int .u8 (s.data.getD i'.toNat 0).toNat,?_,cU rfl⟩
 have hg:s[i'.toNat]? =some (s.data.getD i'.toNat 0):=by
  rw[getElem?_pos s i'.toNat hlt]
  have Q4:i'.toNat<s.data.size:=hlt
  simp only[Array.getD,dif_pos Q4];rfl
 simp only[execOp,bH hs e,bH hs e',Instr.index,asIntOf,ZK,ax hu,ZJ,ZS,if_pos h0,hg]
 rename_i T x lo hi K0;subst K0
 unfold Ax at h
 split at h
 rename_i s x5 e
 unfold EP at h
 obtain⟨td,hu,hd⟩:=cb x5
 cases td <;> simp[da]at hd
 split at h
 rename_i l h' hl hh
 simp only[ZY,ZV]at h;obtain⟨rfl,rfl⟩:=h
 obtain⟨h0,h1,h2⟩:=hC
 have b1:=yb hs hl
 have b2:=uJ hs hh
 have b1':(lo.map a.eval=none/\l=0)\/∃ k,lo.map a.eval=some (.int k l):=b1.imp (fun⟨e,f⟩=>⟨by simp[e],f⟩) id
 have b2':(hi.map a.eval=none/\h'=s.size)\/∃ k,hi.map a.eval=some (.int k h'):=b2.imp (fun⟨e,f⟩=>⟨by simp[e],f⟩) id
 refine⟨_,?_,cU rfl⟩
 simp only[execOp,Instr.sliceAt,bH hs e,ZK,ax hu,ZS,Instr.slice,Option.map_none,Option.isSome,Bool.false_eq_true,if_false,ZJ,
  jx (w:=w) (P:=P) (sl:=false) b1' b2' h0 h1 h2 (Zy _)]
 simp at h
 simp at h
 · rename_i c K0;subst K0
   unfold sZ at h
   split at h
   case h_3=>simp at h
   case h_2=>
    rename_i Tg
    split at h
    case h_2=>simp at h
    rename_i x y hargs
    obtain⟨callee,args,argTypes⟩:=c
    obtain rfl:callee=.builtin .max:=Tg
    obtain rfl:args= #[x,y]:=by rw[<- Array.toArray_toList (xs:=args)];exact Zo _ hargs
    unfold BA at h
    split at h
    rename_i k p k' q e1 e2
    split at h
    rename_i hk
    subst hk
    simp only[ZY,ZV]at h;obtain⟨WW,rfl⟩:=h;clear WW
    have e:(#[x,y].map a.eval)= #[.int k p,.int k q]:=by simp[bH hs e1,bH hs e2]
    exact⟨_,by simp only[execOp,resolve,invoke,builtin,ZK,ZJ,ZS,e,Lib.run_max_ints],cU rfl⟩
    simp at h
    simp at h
   rename_i Tg
   split at h
   case h_2=>simp at h
   rename_i x T hargs Wd
   obtain⟨callee,args,argTypes⟩:=c
   obtain rfl:callee=.builtin .len:=Tg
   obtain rfl:args= #[x]:=by rw[<- Array.toArray_toList (xs:=args)];exact Zo _ hargs
   obtain rfl:argTypes= #[T]:=by rw[<- Array.toArray_toList (xs:=argTypes)];exact Zo _ Wd
   unfold xK at h
   split at h <;> simp only[ZY,ZV,reduceCtorEq]at h <;> (obtain⟨WW,rfl⟩:=h;clear WW)
   rename_i s x5 e
   obtain⟨td,hu,hd⟩:=cb x5
   cases td <;> simp[da]at hd
   exact⟨_,by simp[execOp,resolve,invoke,builtin,Builtin.len_,bH hs e,ax hu,goInt],cU rfl⟩
   all_goals
    rename_i x5 e
    obtain⟨td,hu,hd⟩:=cb x5
    cases td <;> simp[da]at hd
    obtain⟨Fx,hr⟩:=dr hs x
    rw[e]at hr
   obtain⟨_,A',c,hc,_⟩:=hr
   simp at hc
   exact⟨_,by simp[execOp,resolve,invoke,builtin,Builtin.len_,hc,ax hu,goInt],cU rfl⟩
   rcases hr with ⟨_,rfl,_,A',hc⟩ | ⟨_,_,_,hc,_⟩ <;> simp at hc <;>
    exact⟨_,by simp[execOp,resolve,invoke,builtin,Builtin.len_,hc,ax hu,goInt],cU rfl⟩
   obtain⟨_,_,A',hc,_⟩:=hr
   simp at hc
   exact⟨_,by simp[execOp,resolve,invoke,builtin,Builtin.len_,hc,ax hu,goInt],cU rfl⟩
 rename_i x i K0;subst K0
 unfold Ek at h
 split at h
 rename_i i _ _ vs e
 split at h
 rename_i v' hv
 split at h
 simp at h
 rename_i ho
 simp at h;obtain⟨_,rfl⟩:=h
 obtain⟨Fx,hr⟩:=dr hs x
 rw[e]at hr
 obtain⟨xs,QX,hr⟩:=hr
 obtain⟨x',Mm,D4⟩:=zC vs hr hv (by simpa using ho)
 refine⟨x',?_,D4⟩
 have V7:xs[i]? =some x':=by simpa using Mm
 simp only[execOp,QX,Instr.extract,V7,ZK,ZJ,ZS]
 simp at h
 simp at h
 simp at h
end
def V.at(g o:Nat)(v:V):List Nat->Option (Nat×Nat×V)
 | []=>some (g,o,v)
 | j::p=>match v with
   | .agg vs=>match vs[j]? with
     | some u=>V.at g (o+V.ns (vs.take j)) u p
     | none=>none
   | .own sz xs g' o' _=>match xs[j]? with
     | some u=>V.at g' (o'+j*sz) u p
     | none=>none
   | _=>none
def V.sub(v:V):List Nat->Option V
 | []=>some v
 | j::p=>match v with
   | .agg vs=>match vs[j]? with
     | some u=>V.sub u p
     | none=>none
   | .own _ xs _ _ _=>match xs[j]? with
     | some u=>V.sub u p
     | none=>none
   | _=>none
def AS.at(A:AS)(r:l6)(p:List Nat):Option (Nat×Nat×V):=
 match r with
 | .key k=>match lk k A.h with
   | some (g,v)=>V.at g 0 v p
   | none=>none
 | .slot i=>match A.get i,p with
   | .own sz xs g o c,j::p=>V.at 0 0 (.own sz xs g o c) (j::p)
   | _,_=>none
def AS.sub(A:AS)(r:l6)(p:List Nat):Option V:=
 match r with
 | .key k=>match lk k A.h with
   | some (_,v)=>V.sub v p
   | none=>none
 | .slot i=>match A.get i with
   | .tup _=>none
   | v=>V.sub v p
def V.isAgg:V->Bool | .agg _=>true | _=>false
section
variable {w:World} {Pb Kb:Nat->Prop}
theorem fk:∀ (vs:List V) {cs F} {j:Nat} {v:V},RL w Pb vs cs F->vs[j]? =some v->
 ∃ c F',R w Pb v c F'/\(∀ g,g∈F'->g∈F)/\∀ i u,c[i]? =some u->cs[V.ns (vs.take j)+i]? =some u
 | [],_,_,_,_,_,h=>by simp at h
 | v::vs,cs,F,0,u,h,hj=>by
   obtain⟨c1,c2,F1,F2,rfl,rfl,h1,h2⟩:=h
   simp at hj;subst hj
   refine⟨c1,F1,h1,by simp_all,fun i u hu=>?_⟩
   simp only[List.take_zero,V.ns,ZO]
   rw[ZB (ZH.1 hu).1];exact hu
 | v::vs,cs,F,j+1,u,h,hj=>by
   obtain⟨c1,c2,F1,F2,rfl,rfl,h1,h2⟩:=h
   obtain⟨c,F',hr,hF,hc⟩:=fk vs h2 (by simpa using hj)
   refine⟨c,F',hr,fun g hg=>by simp[hF g hg],fun i u hu=>?_⟩
   have hl:=dR v h1
   simp only[List.take_succ_cons,V.ns]
   rw[<- hl,Zr,ZG Z9]
   have e:c1.length+(V.ns (vs.take j)+i)-c1.length=V.ns (vs.take j)+i:=Z9
   rw[e];exact hc i u hu
theorem dC{sz:Nat}:∀ (xs:List V) (j:Nat),aC sz xs->j<=xs.length->V.ns (xs.take j)=j*sz
 | _,0,_,_=>by simp[V.ns]
 | [],j+1,_,h=>by simp at h
 | v::vs,j+1,ha,h=>by
   simp only[List.take_succ_cons,V.ns,ha v Z8]
   rw[dC vs j (fun x hx=>ha x (by simp[hx])) (by simpa using h)]
   rw[Nat.add_mul];omega
theorem oV:∀ (p:List Nat) {v u:V} {g o g' o':Nat} {F},At w Pb v g o F->V.at g o v p=some (g',o',u)->∃ F',At w Pb u g' o' F'/\∀ x,x∈F'->x∈F
 | [],v,u,g,o,g',o',F,h,e=>by
   simp only[V.at,ZY,ZV]at e
   obtain⟨rfl,rfl,rfl⟩:=e
   exact⟨F,h,fun _ h=>h⟩
 | j::p,v,u,g,o,g',o',F,h,e=>by
   simp only[V.at]at e
   obtain⟨cs,cells,hb,hr,hc⟩:=h
   split at e
   rename_i vs
   split at e
   rename_i x hx
   simp only[R]at hr
   obtain⟨c,F',D4,hF,I5⟩:=fk vs hr hx
   obtain⟨Mg,h2,hF2⟩:=oV p (v:=x) ⟨c,cells,hb,D4,fun i u hu=>by rw[Zr];exact hc _ _ (I5 i u hu)⟩ e
   exact⟨Mg,h2,fun y hy=>hF y (hF2 y hy)⟩
   simp at e
   rename_i sz xs g1 o1 c1
   split at e
   rename_i x hx
   rcases hr with ⟨_,rfl,_⟩ | ⟨_,_,_,_,ha,_,flat,F',m9,rfl,hr,I',_,I5⟩
   simp at hx
   obtain⟨c,Mg,D4,hF,M0⟩:=fk xs hr hx
   have hj:j<=xs.length:=by have:=(ZH.1 hx).1;omega
   rw[dC xs j ha hj]at M0
   obtain⟨F3,h3,hF3⟩:=oV p (v:=x) ⟨c,m9,I',D4,fun i u hu=>by rw[Zr];exact I5 _ _ (M0 i u hu)⟩ e
   exact⟨F3,h3,fun y hy=>by simp[hF y (hF3 y hy)]⟩
   simp at e
   simp at e
theorem dD{g o:Nat}{cells:Array Value}(h:Blk w g cells):w.cell? ⟨g,o,none⟩=cells[o]? :=by
 obtain⟨e,fr,hb,_⟩:=h
 simp[World.cell?,hb]
theorem dw(g o j:Nat):(⟨g,o,none⟩:Addr).add j=⟨g,o+j,none⟩:=by unfold Addr.add;split <;> simp_all
theorem uW{P:Program}{T:Nat}{i:TI}(h:ti P T=some i):(isAgg T).run P w=.ok i.d.agg w:=by
 obtain⟨inf,d,_,h2,_,_,h5⟩:=il h
 unfold isAgg
 simp only[ZK,ax h2,ZS]
 rw[<- h5]
 cases d <;> rfl
theorem cq{P:Program}{T:Nat}{i:TI}(h:ti P T=some i):(sizeOf T).run P w=.ok i.sz w:=by
 obtain⟨inf,d,h1,_,h3,_,_⟩:=il h
 simp[sizeOf,typeInfo,h1,h3]
theorem lg{P:Program} {T:Nat} {i:TI} (h:ti P T=some i) {v:V} {cs:List Value} {g o:Nat} {F} (hr:R w Pb v cs F) (hn:v.n=i.sz) (ha:i.d.agg=v.isAgg)
 (hc:∀ j u,cs[j]? =some u->w.cell? ⟨g,o+j,none⟩=some u):∃ x,(loadVar T ⟨g,o,none⟩).run P w=.ok x w/\RV w Pb v x F:=by
 unfold loadVar
 simp only[ZK,uW h,ZS]
 have hl:=dR v hr
 cases v with
 | agg vs=>
   simp only[V.isAgg]at ha
   rw[ha]
   simp only[if_true,ZK,cq h,ZS]
   rw[<- hn,<- hl,run_loadCells_list w _ cs (fun j v hv=>by rw[dw];exact hc j v hv)]
   exact⟨_,rfl,_,rfl,hr⟩
 | tup _=>simp[R]at hr
 | gv _ _=>simp[R]at hr
 | b7=>
   simp only[V.isAgg]at ha
   rw[ha]
   obtain⟨hF,x,rfl,hx⟩:=hr
   have:=hc 0 x rfl
   simp only[Nat.add_zero]at this
   exact⟨x,by simp[this],hF⟩
 | _=>
   simp only[V.isAgg]at ha
   rw[ha]
   simp only[V.n]at hl
   obtain⟨x,rfl⟩:=List.length_eq_one_iff.1 hl
   have:=hc 0 x rfl
   simp only[Nat.add_zero]at this
   exact⟨x,by simp[this],hr⟩
end
def jq(P:Program)(d:Option D)(x:V)(j:Nat):Option (Prop×V):=
 match d with
 | some (.st fs)=>match fs[j]? with
   | some (off,T)=>match ti P T with
     | some i=>match x with
       | .ptr r p g o=>some (i.sz≠0,.ptr r (p++[j]) g (o+off))
       | .ep (.agg vs)=>match vs[j]? with
         | some v=>some (i.sz≠0/\V.ns (vs.take j)=off,.ep v)
         | none=>none
       | _=>none
     | none=>none
   | none=>none
 | _=>none
def tO(P:Program)(d:Option D)(x:V)(j:Nat):Option (Prop×V):=
 match d with
 | some (.st fs)=>match fs[j]? with
   | some (off,T)=>match ti P T with
     | some i=>match x with
       | .agg vs=>match vs[j]? with
         | some v=>some (V.ns (vs.take j)=off/\i.sz=v.n/\i.d.agg=v.isAgg,v)
         | none=>none
       | _=>none
     | none=>none
   | none=>none
 | _=>none
def jw(A:AS)(i:Option TI)(x:V):Option (Prop×V):=
 match i with
 | some i=>match x with
   | .ptr r p g o=>match A.at r p with
     | some (g',o',v)=>some (g'=g/\o'=o/\v.n=i.sz/\i.d.agg=v.isAgg,v.Po r p)
     | none=>none
   | .ep v=>some (v.n=i.sz/\i.d.agg=v.isAgg,v)
   | _=>none
 | none=>none
def iv(P:Program)(d:Option D)(x i:V):Option (Prop×V):=
 match d,i with
 | some (.sl e),.lit (.int _ i)=>match ti P e with
   | some t=>match x with
     | .sl _ xs=>some (0<=i/\i<xs.length/\(xs.getD i.toNat .b7).n=t.sz,.ep (xs.getD i.toNat .b7))
     | .hd r p sz g o lo n _=>some (0<=i/\i<n/\sz=t.sz,.ptr r (p++[lo+i.toNat]) g (o+(lo+i.toNat)*sz))
     | _=>none
   | none=>none
 | some (.arr n e),.lit (.int _ i)=>match ti P e with
   | some t=>match x with
     | .ptr r p g o=>some (0<=i/\i<n,.ptr r (p++[i.toNat]) g (o+i.toNat*t.sz))
     | _=>none
   | none=>none
 | _,_=>none
def AR(P:Program)(d:Option D)(x:V)(lo hi:Option V):Option (Prop×V):=
 match d with
 | some (.sl e)=>match ti P e with
   | some t=>match x with
     | .sl _ xs=>match SN lo,R6 xs.length hi with
       | some l,some h=>some (0<=l/\l<=h/\h<=xs.length/\∀ x∈xs,x.n=t.sz,.sl false ((xs.take h.toNat).drop l.toNat))
       | _,_=>none
     | .hd r p sz g o LZ n c=>match SN lo,R6 n hi with
       | some l,some h=>some (0<=l/\l<=h/\h<=n/\sz=t.sz,.hd r p sz g o (LZ+l.toNat) (h.toNat-l.toNat) (c-l.toNat))
       | _,_=>none
     | _=>none
   | none=>none
 | _=>none
def lG:V->Option Value
 | .lit x=>some x
 | .ptr _ _ g o=>some (.pointer (some ⟨g,o,none⟩))
 | _=>none
def iC:List V->Option (List Value)
 | []=>some []
 | v::vs=>match lG v,iC vs with
   | some x,some xs=>some (x::xs)
   | _,_=>none
def valOf:V->Option Value
 | .agg vs=>match iC vs with
   | some xs=>some (.agg xs.toArray)
   | none=>none
 | v=>lG v
def Kr:V->Option (Prop×V)
 | .ptr r p g o=>some (True,.ptr r p g o)
 | .ep v=>some (True,.ep v)
 | _=>none
def BD:Option TypeDesc->Bool
 | some (.interface _)=>true
 | none=>true
 | _=>false
def JM(P:Program)(T:Nat)(x:V):Option (Prop×V):=
 if BD (P.underlying T)=true then none else match valOf x with
  | some y=>some (True,.lit (.iface T y))
  | none=>none
def zeroV(P:Program)(T:Nat):Option V:=match P.info? T with
 | some i=>i.zero.map cV
 | none=>none
def Jl(P:Program)(T:Nat)(x:V):Option (Prop×V):=
 if BD (P.underlying T)=true then none else match x,zeroV P T with
  | .lit (.iface t v),some z=>some (True,if t=T then .tup [cV v,.lit (.bool true)] else .tup [z,.lit (.bool false)])
  | .lit .nilIface,some z=>some (True,.tup [z,.lit (.bool false)])
  | _,_=>none
def JF(fn:Fn)(a b:List V):Option (Prop×V):=match iC a,iC b with
 | some x,some y=>some (True,.lit (.func fn x.toArray y.toArray))
 | _,_=>none
def E9(P:Program)(A:AS)(op:Op):Option (Prop×V):=
 match op with
 | .load T x=>jw A (ti P T) (A.ev x)
 | .fieldAddr T x j=>jq P (tD P T) (A.ev x) j
 | .field T x j=>tO P (tD P T) (A.cp x) j
 | .indexAddr T x i=>iv P (tD P T) (A.ev x) (A.ev i)
 | .slice T x lo hi none=>match tD P T with
   | some .str=>Ax (some .str) (A.ev x) (lo.map A.ev) (hi.map A.ev)
   | d=>AR P d (A.ev x) (lo.map A.ev) (hi.map A.ev)
 | .nilCheck x=>Kr (A.ev x)
 | .makeInterface T x=>JM P T (A.cp x)
 | .typeAssert x _ T true=>Jl P T (A.ev x)
 | .makeFunc fn a b=>JF fn (a.toList.map A.ev) (b.toList.map A.ev)
 | op=>NN P A op
section
variable {w:World} {Pb Kb:Nat->Prop} {N:Nat} {A:AS} {a:Act} {F:l6->List Nat} {P:Program}
theorem iz(h:r7 N Pb Kb A a w F){r:l6}{p:List Nat}{g o:Nat}{v:V}(e:A.at r p=some (g,o,v)):∃ F',At w Pb v g o F':=by
 unfold AS.at at e
 split at e
 rename_i k
 split at e
 rename_i g' v' hk
 obtain⟨F',_,hr⟩:=h.root k g' v' hk
 obtain⟨Mg,h2,_⟩:=oV p (v:=v') (g:=g') (o:=0) hr e
 exact⟨Mg,h2⟩
 simp at e
 rename_i i
 split at e
 rename_i sz xs g' o' c j p hi
 have hr:=h.slot i
 rw[hi]at hr
 simp only[V.at]at e
 split at e
 rename_i x hx
 rcases hr with ⟨_,rfl,_⟩ | ⟨_,_,_,_,ha,_,flat,F',m9,_,hr,I',_,I5⟩
 simp at hx
 obtain⟨c,Mg,D4,hF,M0⟩:=fk xs hr hx
 have hj:j<=xs.length:=by have:=(ZH.1 hx).1;omega
 rw[dC xs j ha hj]at M0
 obtain⟨F3,h3,_⟩:=oV p (v:=x) ⟨c,m9,I',D4,fun i u hu=>by rw[Zr];exact I5 _ _ (M0 i u hu)⟩ e
 exact⟨F3,h3⟩
 simp at e
 simp at e
theorem BH(hs:r7 N Pb Kb A a w F){T:Nat}{x:Operand}{C:Prop}{v:V}(h:jw A (ti P T) (A.ev x)=some (C,v))(hC:C):
 ∃ y,(Instr.loadAt T (a.eval x)).run P w=.ok y w/\RV w Pb v y []:=by
 unfold jw at h
 split at h
 case h_2=>simp at h
 rename_i i hi
 obtain⟨Fx,hr⟩:=dr hs x
 split at h
 rename_i r p g o e
 rw[e]at hr
 split at h
 rename_i g' o' u w8
 simp only[ZY,ZV]at h
 obtain⟨rfl,rfl⟩:=h
 obtain⟨rfl,rfl,hn,ha⟩:=hC
 obtain⟨F',cs,cells,hb,J',r6⟩:=iz hs w8
 have hx:a.eval x=.pointer (some ⟨g',o',none⟩):=by have:=hr.2;simpa using this
 obtain⟨y,hy,D4⟩:=lg (w:=w) hi (jh r u p J') (g:=g') (o:=o') (by
  have:(u.Po r p).n=u.n:=by
   have h1:=dR _ (jh r u p J');have h2:=dR _ J';omega
  omega) (by rw[ha];cases u <;> rfl) (fun j u hu=>by rw[dD hb];exact r6 j u hu)
 exact⟨y,by simp only[Instr.loadAt,hx,Instr.sureAddr,ZK,ZJ,ZS,hy],D4⟩
 simp at h
 rename_i u e
 rw[e]at hr
 simp only[ZY,ZV]at h
 obtain⟨rfl,rfl⟩:=h
 obtain⟨hn,ha⟩:=hC
 obtain⟨_,b,o,flat,hx,hb,J',r6⟩:=hr
 have hx:a.eval x=.pointer (some ⟨b,o,none⟩):=by simpa using hx
 obtain⟨y,hy,D4⟩:=lg (w:=w) hi J' hn ha r6
 exact⟨y,by simp only[Instr.loadAt,hx,Instr.sureAddr,ZK,ZJ,ZS,hy],D4⟩
 simp at h
theorem AG{T:Nat}{fs:List (Nat×Nat)}(h:tD P T=some (.st fs)):∃ fl:Array Field,P.underlying T=some (.struct fl)/\fl.toList.map (fun f=>(f.offset,f.type))=fs:=by
 obtain⟨td,hu,hd⟩:=cb h
 cases td <;> simp[da]at hd
 rename_i fl
 exact⟨fl,hu,hd⟩
theorem wP{fl:Array Field}{fs:List (Nat×Nat)}(h:fl.toList.map (fun f=>(f.offset,f.type))=fs){j off T:Nat}(e:fs[j]? =some (off,T)):∃ f,fl[j]? =some f/\f.offset=off/\f.type=T:=by
 subst h
 simp only[List.getElem?_map]at e
 cases hf:fl.toList[j]? with
 | none=>rw[hf]at e;simp at e
 | some f=>rw[hf]at e;simp at e;exact⟨f,by simpa using hf,e⟩
theorem uv(hs:r7 N Pb Kb A a w F){T:Nat}{x:Operand}{j:Nat}{C:Prop}{v:V}(h:jq P (tD P T) (A.ev x) j=some (C,v))(hC:C):
 ∃ y,(Instr.fieldAt T (a.eval x) j).run P w=.ok y w/\RV w Pb v y []:=by
 unfold jq at h
 split at h
 case h_2=>simp at h
 rename_i fs hT
 split at h
 case h_2=>simp at h
 rename_i off T' hj
 split at h
 case h_2=>simp at h
 rename_i i hi
 obtain⟨fl,hu,hfl⟩:=AG hT
 obtain⟨f,hf,ho,ht⟩:=wP hfl hj
 obtain⟨Fx,hr⟩:=dr hs x
 split at h
 rename_i r p g o e
 rw[e]at hr
 simp only[ZY,ZV]at h
 obtain⟨rfl,rfl⟩:=h
 have hx:a.eval x=.pointer (some ⟨g,o,none⟩):=by have:=hr.2;simpa using this
 refine⟨.pointer (some ⟨g,o+off,none⟩),?_,rfl,rfl⟩
 simp only[Instr.fieldAt,ZK,ax hu,ZS,hf,hx,Instr.sureAddr,ZJ,fieldPlace,ht,cq hi,if_neg hC,ho,dw]
 · rename_i vs e
   rw[e]at hr
   split at h
   case h_2=>simp at h
   rename_i u SV
   simp only[ZY,ZV]at h
   obtain⟨rfl,rfl⟩:=h
   obtain⟨h0,S5⟩:=hC
   obtain⟨_,b,o,flat,hx,hb,J',r6⟩:=hr
   have hx:a.eval x=.pointer (some ⟨b,o,none⟩):=by simpa using hx
   simp only[R]at J'
   obtain⟨c,F',D4,hF,I5⟩:=fk vs J' SV
   have Na:F'=[]:=List.eq_nil_iff_forall_not_mem.2 fun g hg=>by simpa using hF g hg
   subst Na
   refine⟨.pointer (some ⟨b,o+off,none⟩),?_,rfl,b,o+off,c,rfl,hb,D4,fun i u hu=>by rw[<- S5,Zr];exact r6 _ _ (I5 i u hu)⟩
   simp only[Instr.fieldAt,ZK,ax hu,ZS,hf,hx,Instr.sureAddr,ZJ,fieldPlace,ht,cq hi,if_neg h0,ho,dw]
 simp at h
theorem AO(hs:r7 N Pb Kb A a w F){T:Nat}{x:Operand}{j:Nat}{C:Prop}{v:V}(h:tO P (tD P T) (A.cp x) j=some (C,v))(hC:C):
 ∃ y,(Instr.field T (a.eval x) j).run P w=.ok y w/\RV w Pb v y []:=by
 unfold tO at h
 split at h
 case h_2=>simp at h
 rename_i fs hT
 split at h
 case h_2=>simp at h
 rename_i off T' hj
 split at h
 case h_2=>simp at h
 rename_i i hi
 obtain⟨fl,hu,hfl⟩:=AG hT
 obtain⟨f,hf,ho,ht⟩:=wP hfl hj
 have hr:=ox hs x
 split at h
 case h_2=>simp at h
 rename_i vs e
 rw[e]at hr
 split at h
 case h_2=>simp at h
 rename_i u SV
 simp only[ZY,ZV]at h
 obtain⟨rfl,rfl⟩:=h
 obtain⟨S5,hn,ha⟩:=hC
 obtain⟨cs,hx,hr⟩:=hr
 obtain⟨c,F',D4,hF,I5⟩:=fk vs hr SV
 have Na:F'=[]:=List.eq_nil_iff_forall_not_mem.2 fun g hg=>by simpa using hF g hg
 subst Na
 have hl:=dR _ D4
 simp only[Instr.field,ZK,ax hu,ZS,hf,hx,asAgg,ZJ,part,ht,uW hi,ho]
 rw[S5]at I5
 cases u with
 | agg us=>
   simp only[V.isAgg]at ha
   rw[ha]
   simp only[if_true,ZK,cq hi,ZS,ZJ]
   refine⟨_,rfl,_,rfl,?_⟩
   have hcs:(cs.extract off (off+i.sz)).toList=c:=by
    apply List.ext_getElem?
    intro k
    by_cases hk:k<c.length
    have h1:=I5 k _ (ZR hk)
    rw[ZR hk]
    simp only[Array.getElem?_toList]at h1 ⊢
    rw[Array.getElem?_extract]
    have hlt:=(Zt.1 h1).1
    rw[if_pos Z9];exact h1
    have hz:(cs.extract off (off+i.sz)).toList.length<=i.sz:=by
     rw[Array.length_toList,Array.size_extract];omega
    rw[List.getElem?_eq_none Z9,List.getElem?_eq_none Z9]
   rw[hcs]
   simp only[R]at D4;exact D4
 | tup _=>simp[R]at D4
 | gv _ _=>simp[R]at D4
 | b7=>
   simp only[V.isAgg]at ha
   rw[ha]
   obtain⟨_,y,rfl,hy⟩:=D4
   have h1:=I5 0 y rfl
   simp only[Nat.add_zero,Array.getElem?_toList]at h1
   exact⟨y,by simp[h1],rfl⟩
 | _=>
   simp only[V.isAgg]at ha
   rw[ha]
   simp only[V.n]at hl
   obtain⟨y,rfl⟩:=List.length_eq_one_iff.1 hl
   have h1:=I5 0 y rfl
   simp only[Nat.add_zero,Array.getElem?_toList]at h1
   exact⟨y,by simp[h1],D4⟩
theorem gJ{T e:Nat}(h:tD P T=some (.sl e)):P.underlying T=some (.slice e):=by
 obtain⟨td,hu,hd⟩:=cb h
 cases td <;> simp[da]at hd
 subst hd;exact hu
theorem getD_some{xs:List V}{i:Nat}(h:i<xs.length):xs[i]? =some (xs.getD i .b7):=by
 simp[List.getD,ZR h]
theorem JB{T n e:Nat}(h:tD P T=some (.arr n e)):P.underlying T=some (.array n e):=by
 obtain⟨td,hu,hd⟩:=cb h
 cases td <;> simp[da]at hd
 obtain⟨rfl,rfl⟩:=hd;exact hu
theorem uw(hs:r7 N Pb Kb A a w F){T:Nat}{x ix:Operand}{C:Prop}{v:V}(h:iv P (tD P T) (A.ev x) (A.ev ix)=some (C,v))(hC:C):
 ∃ y,(Instr.indexAt T (a.eval x) (a.eval ix)).run P w=.ok y w/\RV w Pb v y []:=by
 unfold iv at h
 split at h
 case h_3=>simp at h
 case h_2=>
  rename_i n e k i hT hi
  have hu:=JB hT
  split at h
  case h_2=>simp at h
  rename_i t ht
  obtain⟨Fx,hr⟩:=dr hs x
  split at h
  case h_2=>simp at h
  rename_i r p g o hx
  rw[hx]at hr
  simp only[ZY,ZV]at h
  obtain⟨rfl,rfl⟩:=h
  have hv:a.eval x=.pointer (some ⟨g,o,none⟩):=by have:=hr.2;simpa using this
  refine⟨.pointer (some ⟨g,o+i.toNat*t.sz,none⟩),?_,rfl,rfl⟩
  simp only[Instr.indexAt,bH hs hi,asIntOf,ZK,ZJ,ZS,ax hu,hv,Instr.sureAddr,if_pos (⟨hC.1,hC.2⟩:0<=i/\i<(n:Int)),cq ht,dw]
 rename_i e k i hT hi
 have hu:=gJ hT
 split at h
 case h_2=>simp at h
 rename_i t ht
 obtain⟨Fx,hr⟩:=dr hs x
 split at h
 rename_i full xs hx
 rw[hx]at hr
 simp only[ZY,ZV]at h
 obtain⟨rfl,rfl⟩:=h
 obtain⟨h0,h1,hn⟩:=hC
 have hlt:i.toNat<xs.length:=Z9
 obtain⟨_,A',c,hv,hl,_,hz⟩:=hr
 have hv:a.eval x=.slice A' xs.length c:=by simpa using hv
 rcases hz with rfl | ⟨b,o,sz,flat,rfl,hb,_,hN,M9,r6⟩
 simp at hlt
 obtain⟨cu,F',D4,hF,I5⟩:=fk xs M9 (getD_some hlt)
 have Na:F'=[]:=List.eq_nil_iff_forall_not_mem.2 fun g hg=>by simpa using hF g hg
 subst Na
 rw[dC xs _ hN Z9]at I5
 have hsz:sz=t.sz:=by rw[<- hn];exact(hN _ (ZD (getD_some hlt))).symm
 refine⟨.pointer (some ⟨b,o+i.toNat*t.sz,none⟩),?_,rfl,b,o+i.toNat*t.sz,cu,rfl,hb,D4,fun j u hu=>by rw[<- hsz,Zr];exact r6 _ _ (I5 j u hu)⟩
 simp only[Instr.indexAt,bH hs hi,asIntOf,ZK,ZJ,ZS,ax hu,hv,if_pos (⟨h0,h1⟩:0<=i/\i<(xs.length:Int)),cq ht,dw]
 rename_i r p sz g o lo n c hx
 rw[hx]at hr
 simp only[ZY,ZV]at h
 obtain⟨rfl,rfl⟩:=h
 obtain⟨h0,h1,hn⟩:=hC
 obtain⟨_,TN,A',hv,hA⟩:=hr
 have hv:a.eval x=.slice A' n c:=by simpa using hv
 obtain rfl:=hA Z9
 refine⟨.pointer (some ⟨g,o+(lo+i.toNat)*sz,none⟩),?_,rfl,rfl⟩
 simp only[Instr.indexAt,bH hs hi,asIntOf,ZK,ZJ,ZS,ax hu,hv,if_pos (⟨h0,h1⟩:0<=i/\i<(n:Int)),cq ht,dw]
 subst hn
 rw[Zr,<- Nat.add_mul]
 simp at h
theorem nu:∀ (vs:List V) (k:Nat) {cs:List Value},RL w Pb vs cs []->∃ c':List Value,RL w Pb (vs.drop k) c' []/\∀ i u,c'[i]? =some u->cs[V.ns (vs.take k)+i]? =some u
 | vs,0,cs,h=>⟨cs,h,fun i u hu=>by simpa[V.ns] using hu⟩
 | [],k+1,cs,h=>⟨[],by simpa using⟨rfl,rfl⟩,fun i u hu=>by simp at hu⟩
 | v::vs,k+1,cs,h=>by
   obtain⟨c1,c2,F1,F2,rfl,hF,h1,h2⟩:=h
   have hF2:F2=[]:=by have:=hF.symm;simp at this;exact this.2
   subst hF2
   obtain⟨c',hr,hc⟩:=nu vs k h2
   refine⟨c',by simpa using hr,fun i u hu=>?_⟩
   have hl:=dR v h1
   simp only[List.take_succ_cons,V.ns]
   rw[<- hl,Zr,ZG Z9]
   have e:c1.length+(V.ns (vs.take k)+i)-c1.length=V.ns (vs.take k)+i:=Z9
   rw[e];exact hc i u hu
theorem nr:∀ (vs:List V) (k:Nat) {cs:List Value},RL w Pb vs cs []->∃ c':List Value,RL w Pb (vs.take k) c' []/\∀ (i:Nat) u,c'[i]? =some u->cs[i]? =some u
 | vs,0,cs,h=>⟨[],by simpa using⟨rfl,rfl⟩,fun i u hu=>by simp at hu⟩
 | [],k+1,cs,h=>⟨[],by simpa using⟨rfl,rfl⟩,fun i u hu=>by simp at hu⟩
 | v::vs,k+1,cs,h=>by
   obtain⟨c1,c2,F1,F2,rfl,hF,h1,h2⟩:=h
   have Na:=hF.symm
   simp at Na
   obtain⟨rfl,rfl⟩:=Na
   obtain⟨c',hr,hc⟩:=nr vs k h2
   refine⟨c1++c',⟨c1,c',[],[],rfl,rfl,h1,hr⟩,fun i u hu=>?_⟩
   by_cases hi:i<c1.length
   rw[ZB hi]at hu ⊢;exact hu
   rw[ZG Z9]at hu ⊢;exact hc _ _ hu
theorem DL(hs:r7 N Pb Kb A a w F){T:Nat}{x:Operand}{lo hi:Option Operand}{C:Prop}{v:V}(h:AR P (tD P T) (A.ev x) (lo.map A.ev) (hi.map A.ev)=some (C,v))(hC:C):
 ∃ y,(Instr.sliceAt T (a.eval x) (lo.map a.eval) (hi.map a.eval) none).run P w=.ok y w/\RV w Pb v y []:=by
 unfold AR at h
 split at h
 case h_2=>simp at h
 rename_i e hT
 have hu:=gJ hT
 split at h
 case h_2=>simp at h
 rename_i t ht
 obtain⟨Fx,hr⟩:=dr hs x
 split at h
 · rename_i full xs hx
   rw[hx]at hr
   split at h
   case h_2=>simp at h
   rename_i l h' hl hh
   simp only[ZY,ZV]at h
   obtain⟨rfl,rfl⟩:=h
   obtain⟨h0,h1,h2,hn⟩:=hC
   have b1:(lo.map a.eval=none/\l=0)\/∃ k,lo.map a.eval=some (.int k l):=(yb hs hl).imp (fun⟨e,f⟩=>⟨by simp[e],f⟩) id
   have b2:(hi.map a.eval=none/\h'=xs.length)\/∃ k,hi.map a.eval=some (.int k h'):=(uJ hs hh).imp (fun⟨e,f⟩=>⟨by simp[e],f⟩) id
   obtain⟨_,A',c,hv,UT,_,hz⟩:=hr
   have hv:a.eval x=.slice A' xs.length c:=by simpa using hv
   have hlen:((xs.take h'.toNat).drop l.toNat).length=h'.toNat-l.toNat:=Z0
   refine⟨.slice (if c=l.toNat then A' else A'.map (·.add (l.toNat*t.sz))) (h'.toNat-l.toNat) (c-l.toNat),?_,?_⟩
   simp only[Instr.sliceAt,Instr.slice,ZK,ax hu,ZS,hv,jx (w:=w) (P:=P) (sl:=true) b1 b2 h0 h1 (show h'<=(c:Nat) by omega) UT,cq ht,ZJ]
   refine⟨rfl,_,c-l.toNat,by rw[hlen],Z9,Z8,?_⟩
   by_cases he:h'.toNat-l.toNat=0
   left;exact ZF Z9
   right
   rcases hz with rfl | ⟨b,o,sz,flat,rfl,hb,Wf,hN,M9,r6⟩
   simp at h2;omega
   have hsz:sz=t.sz:=by
    cases xs with
    | nil=>simp at h2;omega
    | cons x0 xs=>rw[<- hn x0 Z8];exact(hN x0 Z8).symm
   obtain⟨c1,OJ,ME⟩:=nr xs h'.toNat M9
   obtain⟨c2,K9,Qs⟩:=nu _ l.toNat OJ
   have O5:aC sz (xs.take h'.toNat):=fun x hx=>hN x (List.mem_of_mem_take hx)
   rw[dC _ _ O5 Z0]at Qs
   rw[if_neg Z9]
   refine⟨b,o+l.toNat*t.sz,sz,c2,by simp[dw],hb,Wf,fun x hx=>O5 x (List.mem_of_mem_drop hx),K9,fun j u hu=>?_⟩
   rw[<- hsz,Zr];exact r6 _ _ (ME _ _ (Qs j u hu))
 · rename_i r p sz g o LZ n c hx
   rw[hx]at hr
   split at h
   case h_2=>simp at h
   rename_i l h' hl hh
   simp only[ZY,ZV]at h
   obtain⟨rfl,rfl⟩:=h
   obtain⟨h0,h1,h2,hn⟩:=hC
   have b1:(lo.map a.eval=none/\l=0)\/∃ k,lo.map a.eval=some (.int k l):=(yb hs hl).imp (fun⟨e,f⟩=>⟨by simp[e],f⟩) id
   have b2:(hi.map a.eval=none/\h'=n)\/∃ k,hi.map a.eval=some (.int k h'):=(uJ hs hh).imp (fun⟨e,f⟩=>⟨by simp[e],f⟩) id
   obtain⟨_,TN,A',hv,hA⟩:=hr
   have hv:a.eval x=.slice A' n c:=by simpa using hv
   refine⟨.slice (if c=l.toNat then A' else A'.map (·.add (l.toNat*t.sz))) (h'.toNat-l.toNat) (c-l.toNat),?_,?_⟩
   simp only[Instr.sliceAt,Instr.slice,ZK,ax hu,ZS,hv,jx (w:=w) (P:=P) (sl:=true) b1 b2 h0 h1 (show h'<=(c:Nat) by omega) TN,cq ht,ZJ]
   refine⟨rfl,Z9,_,rfl,fun hc=>?_⟩
   rw[if_neg Z9,hA Z9]
   subst hn
   simp only[Option.map_some,dw,Nat.add_mul,Zr]
 simp at h
theorem rA{v:V}{y:Value}{cs:List Value}{F1:List Nat}(hy:lG v=some y)(h:R w Pb v cs F1):cs=[y]/\y.oneCell'=true:=by
 cases v <;> simp only[lG,ZY,reduceCtorEq]at hy
 subst hy;exact⟨h.2.1,h.1⟩
 subst hy;exact⟨h.2,rfl⟩
theorem wR:∀ {vs:List V} {xs cs:List Value} {F1:List Nat},iC vs=some xs->RL w Pb vs cs F1->cs=xs
 | [],xs,cs,F1,h,hr=>by simp only[iC,ZY]at h;rw[<- h,hr.1]
 | v::vs,xs,cs,F1,h,hr=>by
   simp only[iC]at h
   split at h
   rename_i y ys e1 e2
   simp only[ZY]at h;subst h
   obtain⟨c1,c2,Fa,Fb,rfl,_,h1,h2⟩:=hr
   rw[(rA e1 h1).1,wR e2 h2];rfl
   simp at h
theorem xG{v:V}{y x:Value}{F1:List Nat}(hy:valOf v=some y)(h:RV w Pb v x F1):x=y:=by
 cases v with
 | agg vs=>
   simp only[valOf]at hy
   split at hy
   rename_i xs e
   simp only[ZY]at hy
   obtain⟨cs,rfl,hr⟩:=h
   rw[<- hy,<- wR e hr]
   simp at hy
 | lit z=>have:=(rA (w:=w) (Pb:=Pb) (v:=.lit z) (y:=y) (cs:=[x]) hy h).1;simpa using this
 | ptr r p g o=>have:=(rA (w:=w) (Pb:=Pb) (v:=.ptr r p g o) (y:=y) (cs:=[x]) hy h).1;simpa using this
 | _=>simp[valOf,lG]at hy
theorem pN(hs:r7 N Pb Kb A a w F):∀ (l:List Operand) {xs:List Value},iC (l.map A.ev)=some xs->l.map a.eval=xs
 | [],xs,h=>by simpa[iC] using h
 | x::l,xs,h=>by
   simp only[Zw,iC]at h
   split at h
   rename_i y ys e1 e2
   simp only[ZY]at h;subst h
   obtain⟨Fx,hr⟩:=dr hs x
   have:valOf (A.ev x)=some y:=by
    cases hv:A.ev x <;> rw[hv]at e1 <;> simp only[lG,reduceCtorEq,ZY]at e1 <;> simp[valOf,lG,e1]
   rw[Zw,xG this hr,pN hs l e2]
   simp at h
theorem vF{T:Nat}(h: ¬ BD (P.underlying T)=true):∃ d,P.underlying T=some d/\∀ m,d≠.interface m:=by
 cases e:P.underlying T with
 | none=>rw[e]at h;exact absurd rfl h
 | some d=>exact⟨d,rfl,fun m c=>by rw[e,c]at h;exact h rfl⟩
theorem tX{op:Op}{C:Prop}{v:V}(h:E9 P A op=some (C,v))(hC:C)(hs:r7 N Pb Kb A a w F){o:Oper}(ho:o.op=op):
 ∃ x,(execOp a.eval o).run P w=.ok (.value x) w/\RV w Pb v x []:=by
 unfold E9 at h
 split at h
 obtain⟨y,hy,hr⟩:=BH hs h hC
 exact⟨y,by simp only[execOp,ho,ZK,hy,ZS,ZJ],hr⟩
 obtain⟨y,hy,hr⟩:=uv hs h hC
 exact⟨y,by simp only[execOp,ho,ZK,hy,ZS,ZJ],hr⟩
 obtain⟨y,hy,hr⟩:=AO hs h hC
 exact⟨y,by simp only[execOp,ho,ZK,hy,ZS,ZJ],hr⟩
 obtain⟨y,hy,hr⟩:=uw hs h hC
 exact⟨y,by simp only[execOp,ho,ZK,hy,ZS,ZJ],hr⟩
 rename_i T x lo hi
 split at h
 rename_i hT
 refine zV (op:=.slice T x lo hi none) (C:=C) (v:=v) ?_ hC hs ho
 unfold NN;simp only[hT];exact h
 obtain⟨y,hy,hr⟩:=DL hs h hC
 exact⟨y,by simp only[execOp,ho,ZK,hy,Option.map_none,ZS,ZJ],hr⟩
 rename_i x
 unfold Kr at h
 obtain⟨Fx,hr⟩:=dr hs x
 split at h <;> rename_i e <;> simp only[ZY,ZV,reduceCtorEq]at h <;> obtain⟨_,rfl⟩:=h <;> rw[e]at hr
 have hx:=(List.cons.inj hr.2).1
 have hx:a.eval x=.pointer (some ⟨_,_,none⟩):=hx
 exact⟨_,by simp only[execOp,ho,hx];rfl,⟨rfl,rfl⟩⟩
 have h1:=hr.1
 obtain⟨_,b,o',flat,hx,h2⟩:=hr
 have hx:=(List.cons.inj hx).1
 exact⟨_,by simp only[execOp,ho,hx];rfl,⟨rfl,b,o',flat,rfl,h2⟩⟩
 rename_i T x
 unfold JM at h
 split at h
 simp at h
 rename_i hi
 obtain⟨d,hd,hn⟩:=vF hi
 split at h
 rename_i y e
 simp only[ZY,ZV]at h
 obtain⟨_,rfl⟩:=h
 have hx:=xG e (ox hs x)
 refine⟨.iface T y,?_,cU rfl⟩
 have:(Instr.makeInterface T (a.eval x)).run P w=.ok (.iface T y) w:=by
  rw[hx]
  simp only[Instr.makeInterface,ZK,ax hd,ZS]
  cases d <;> first | rfl | exact absurd rfl (hn _)
 simp only[execOp,ho,ZK,this,ZS,ZJ]
 simp at h
 · rename_i x xT T
   unfold Jl at h
   split at h
   simp at h
   rename_i hi
   obtain⟨d,hd,hn⟩:=vF hi
   have zr:∀ z,zeroV P T=some z->∃ y,(zeroValue T).run P w=.ok y w/\RV w Pb z y []:=fun z hz=>by
    unfold zeroV at hz
    split at hz
    rename_i i hi
    simp only[Option.map_eq_some_iff]at hz
    obtain⟨y,hy,rfl⟩:=hz
    exact⟨y,by simp[zeroValue,typeInfo,hi,hy],qj y⟩
    simp at hz
   have tu:∀ (v1:V) (x1:Value) (b:Bool),RV w Pb v1 x1 []->((∀ us,v1≠.tup us)/\∀ b u,v1≠.gv b u)->RV w Pb (.tup [v1,.lit (.bool b)]) (.tuple #[x1,.bool b]) []:=fun v1 x1 b h1 S8=>by
    refine⟨_,rfl,x1,[.bool b],[],[],rfl,rfl,?_,.bool b,[],[],[],rfl,rfl,⟨rfl,rfl,rfl⟩,rfl,rfl⟩
    cases v1 with
    | tup us=>exact absurd rfl (S8.1 us)
    | gv b u=>exact absurd rfl (S8.2 b u)
    | _=>exact h1
   have XY:∀ y:Value,(∀ us,cV y≠.tup us)/\∀ b u,cV y≠.gv b u:=fun y=>by
    constructor <;> intros <;> unfold cV <;> repeat' split
    all_goals first | (solve | simp) | (unfold Ri;split <;> simp)
   have zn:∀ z,zeroV P T=some z->(∀ us,z≠.tup us)/\∀ b u,z≠.gv b u:=fun z hz=>by
    unfold zeroV at hz
    split at hz
    simp only[Option.map_eq_some_iff]at hz
    obtain⟨y,hy,rfl⟩:=hz
    exact XY y
    simp at hz
   split at h
   rename_i t v z hx hz
   simp only[ZY,ZV]at h
   obtain⟨_,rfl⟩:=h
   have hx:=bH hs hx
   obtain⟨y,hy,UF⟩:=zr z hz
   by_cases ht:t=T
   refine⟨.tuple #[v,.bool true],?_,by rw[if_pos ht];exact tu _ _ _ (qj v) (XY v)⟩
   have:(Instr.typeAssert (a.eval x) xT T true).run P w=.ok (.tuple #[v,.bool true]) w:=by
    rw[hx]
    simp only[Instr.typeAssert,ZK,ax hd,ZS]
    cases d <;> first | exact absurd rfl (hn _) | simp[ht]
   simp only[execOp,ho,ZK,this,ZS,ZJ]
   refine⟨.tuple #[y,.bool false],?_,by rw[if_neg ht];exact tu _ _ _ UF (zn z hz)⟩
   have:(Instr.typeAssert (a.eval x) xT T true).run P w=.ok (.tuple #[y,.bool false]) w:=by
    rw[hx]
    simp only[Instr.typeAssert,ZK,ax hd,ZS]
    cases d <;> first | exact absurd rfl (hn _) | simp[ht,hy]
   simp only[execOp,ho,ZK,this,ZS,ZJ]
   rename_i z hx hz
   simp only[ZY,ZV]at h
   obtain⟨_,rfl⟩:=h
   have hx:=bH hs hx
   obtain⟨y,hy,UF⟩:=zr z hz
   refine⟨.tuple #[y,.bool false],?_,tu _ _ _ UF (zn z hz)⟩
   have:(Instr.typeAssert (a.eval x) xT T true).run P w=.ok (.tuple #[y,.bool false]) w:=by
    rw[hx]
    simp only[Instr.typeAssert,ZK,ax hd,ZS]
    cases d <;> first | exact absurd rfl (hn _) | simp[hy]
   simp only[execOp,ho,ZK,this,ZS,ZJ]
   simp at h
 rename_i fn p q
 unfold JF at h
 split at h
 rename_i xs ys e1 e2
 simp only[ZY,ZV]at h
 obtain⟨_,rfl⟩:=h
 refine⟨.func fn xs.toArray ys.toArray,?_,cU rfl⟩
 have h1:p.map a.eval=xs.toArray:=by apply Array.ext';simpa using pN hs _ e1
 have h2:q.map a.eval=ys.toArray:=by apply Array.ext';simpa using pN hs _ e2
 simp only[execOp,ho,h1,h2];rfl
 simp at h
 exact zV h hC hs ho
end
section
variable {w:World} {Pb Kb:Nat->Prop} {N:Nat} {A A':AS} {a:Act} {F:l6->List Nat} {P:Program}
theorem uc{v:V}{x:Value}{F:List Nat}(ho:v.cB=false)(h:RV w Pb v x F):F=[]:=by
 cases v with
 | tup vs=>obtain⟨xs,_,h⟩:=h;exact qY vs (by simpa[V.cB] using ho) h
 | gv _ _=>exact h.1
 | agg us=>obtain⟨cs,_,h⟩:=h;exact fc us (by simpa[V.cB] using ho) h
 | b7=>exact h
 | own sz xs g o c=>exact gQ (w:=w) (Pb:=Pb) _ ho h
 | ow sz xs=>exact gQ (w:=w) (Pb:=Pb) _ ho h
 | om es g=>exact gQ (w:=w) (Pb:=Pb) _ ho h
 | mp es=>exact gQ (w:=w) (Pb:=Pb) _ ho h
 | lit x=>exact gQ (w:=w) (Pb:=Pb) _ ho h
 | sl f xs=>exact gQ (w:=w) (Pb:=Pb) _ ho h
 | hd r p sz g o lo n c=>exact gQ (w:=w) (Pb:=Pb) _ ho h
 | ptr r p g o=>exact gQ (w:=w) (Pb:=Pb) _ ho h
 | ep v=>exact gQ (w:=w) (Pb:=Pb) _ ho h
def AS.drop(A:AS):Operand->AS
 | .tmp i=>if (A.get i).cB then A.put (some i) .b7 else A
 | _=>A
def AS.le(A' A:AS):Prop:=(∀ i,A'.get i=.b7\/A'.get i=A.get i)/\(∀ k,lk k A'.h=none\/lk k A'.h=lk k A.h)
open Classical in
theorem r7.le(hs:r7 N Pb Kb A a w F)(h:A'.le A):∃ F',r7 N Pb Kb A' a w F'/\∀ r g,g∈F' r->g∈F r:=by
 refine⟨fun r=>match r with | .slot i=>if A'.get i=.b7 then [] else F (.slot i) | .key k=>if lk k A'.h=none then [] else F (.key k),?_,?_⟩
 have key:∀ r g,g∈(match r with | .slot i=>if A'.get i=.b7 then [] else F (.slot i) | .key k=>if lk k A'.h=none then [] else F (.key k):List Nat)->g∈F r:=by
  intro r g hg
  cases r <;> simp only at hg <;> split at hg <;> simp_all
 refine⟨hs.size,hs.defers,fun i=>?_,fun k g v hk=>?_,fun r r' hne g hg=>?_,fun r=>?_,fun r g hg=>hs.free r g (key r g hg),hs.sub,hs.bound⟩
 rcases h.1 i with e | e
 simp only[e,if_true];rfl
 simp only
 split
 rename_i e';rw[e'];rfl
 rw[e];exact hs.slot i
 simp only
 rw[if_neg (by rw[hk];simp)]
 rcases h.2 k with e | e
 rw[e]at hk;simp at hk
 rw[e]at hk;exact hs.root k g v hk
 exact fun Of=>hs.bP r r' hne g (key r g hg) (key r' g Of)
 cases r <;> simp only <;> split <;> first | exact ZA | exact hs.nodup _
 intro r g hg
 cases r <;> simp only at hg <;> split at hg <;> simp_all
theorem r7.take(hs:r7 N Pb Kb A a w F)(x:Operand):∃ Fx F',RV w Pb (A.ev x) (a.eval x) Fx/\r7 N Pb Kb (A.drop x) a w F'/\Fx.Nodup/\
 (∀ r g,g∈Fx->g ∉ F' r)/\(∀ g,g∈Fx->¬ Kb g/\g<w.heap.size)/\(∀ r g,g∈F' r->g∈F r)/\∀ g,g∈Fx->∃ r,g∈F r:=by
 cases x with
 | tmp i=>
   by_cases ho:(A.get i).cB=true
   have hn:(A.drop (.tmp i))=A.put (some i) .b7:=by simp[AS.drop,ho]
   refine⟨F (.slot i),bO F (.slot i) [],hs.slot i,?_,hs.nodup _,fun r g hg=>?_,fun g hg=>hs.free _ g hg,fun r g hg=>?_,fun g hg=>⟨_,hg⟩⟩
   rw[hn]
   refine⟨hs.size,hs.defers,fun j=>?_,fun k g v hk=>?_,fun r r' hne g hg=>?_,fun r=>?_,fun r g hg=>?_,hs.sub,hs.bound⟩
   rw[AS.au]
   by_cases e:j=i
   subst e;simp[bO,RV,SJ]
   have:l6.slot j≠l6.slot i:=fun c=>e (by injection c)
   simp only[if_neg e,bO,if_neg this];exact hs.slot j
   obtain⟨F',e,hr⟩:=hs.root k g v hk
   exact⟨F',by simpa[bO] using e,hr⟩
   simp only[bO]at hg ⊢
   split at hg
   simp at hg
   split
   simp
   exact hs.bP r r' hne g hg
   simp only[bO];split
   exact ZA
   exact hs.nodup r
   simp only[bO]at hg;split at hg
   simp at hg
   exact hs.free r g hg
   simp only[bO];split
   simp
   rename_i hne;exact hs.bP _ r (Ne.symm hne) g hg
   simp only[bO]at hg;split at hg
   simp at hg
   exact hg
   have O0:(A.get i).cB=false:=by simpa using ho
   have hF:=uc O0 (hs.slot i)
   refine⟨[],F,by have:=hs.slot i;rw[hF]at this;exact this,by simp[AS.drop,O0];exact hs,ZA,Z8,Z8,fun _ _ h=>h,Z8⟩
 | const v=>exact⟨[],F,qj v,hs,ZA,Z8,Z8,fun _ _ h=>h,Z8⟩
 | global g=>exact⟨[],F,⟨rfl,rfl⟩,hs,ZA,Z8,Z8,fun _ _ h=>h,Z8⟩
 | func f=>exact⟨[],F,⟨rfl,rfl,rfl⟩,hs,ZA,Z8,Z8,fun _ _ h=>h,Z8⟩
theorem uD{o:Oper}{K:AS->Prop}{C:Prop}{v:V}(h:E9 P A o.op=some (C,v))(hC:C)(hd:bX N o.dst)(hK:K (A.put o.dst v)):D3 P N o A K:=
 gY hd hK fun _ _ _ _ _ hs=>tX h hC hs rfl
theorem sE{o:Oper}{K:AS->Prop}{x:Operand}(ho:o.op=.assign x)(hd:bX N o.dst)(hK:K ((A.drop x).put o.dst (A.ev x))):D3 P N o A K:=by
 intro Pb Kb a w F Q hs
 obtain⟨Fx,F',hr,x5,hnd,s6,hfr,_⟩:=hs.take x
 unfold Oper.wp
 have:(execOp a.eval o).run P w=.ok (.value (a.eval x)) w:=by simp only[execOp,ho];rfl
 rw[this,Oper.upon_value]
 cases K5:o.dst with
 | none=>exact⟨_,Pb,Kb,F',hK,by rw[K5];exact x5,fun _ h=>h,fun _ h=>h,fun _ h=>.inl h,w5.refl _ _⟩
 | some d=>
   rw[K5]at hd hK
   exact⟨_,Pb,Kb,_,hK,x5.put hd hr (fun r _ g hg=>s6 r g hg) hnd hfr,fun _ h=>h,fun _ h=>h,fun _ h=>.inl h,w5.refl _ _⟩
def gd(ops:Array Oper)(o:Oper)(A:AS)(x y:Prop):Prop:=
 match o.guard with
 | none=>x
 | some (j,b)=>match ((ops[j]?).bind (·.dst)).map A.get with
   | some (.lit (.bool b'))=>if b'=b then x else y
   | some (.gv c (.lit (.bool b')))=>if (c&&(b'==b))=true then x else y
   | _=>False
def WL(P:Program)(N:Nat)(ops:Array Oper):List Oper->AS->(AS->Prop)->Prop
 | [],A,K=>K A
 | o::rest,A,K=>gd ops o A (D3 P N o A fun A'=>WL P N ops rest A' K) (bX N o.dst/\∃ u,(∀ w Pb,RV w Pb u undef [])/\WL P N ops rest (A.put o.dst u) K)
theorem rM{ops:Array Oper}{o:Oper}{x y:Prop}(h:gd ops o A x y)(hs:r7 N Pb Kb A a w F):
 (Region.wanted o (yielded ops a.tmps)=true/\x)\/(Region.wanted o (yielded ops a.tmps)=false/\y):=by
 unfold gd at h
 unfold Region.wanted
 split at h
 rename_i hg;rw[hg];exact .inl ⟨rfl,h⟩
 rename_i j b hg
 rw[hg]
 split at h
 rename_i b' hd
 simp only[Option.map_eq_some_iff]at hd
 obtain⟨d,LY,Py⟩:=hd
 have hr:=hs.slot d
 rw[Py]at hr
 have hx:a.tmps.getD d undef=.bool b':=by have:=hr.2.1;simpa using this
 have hy:yielded ops a.tmps j=some b':=by
  unfold yielded
  rw[LY]
  simp only[Option.bind_some]
  cases ht:a.tmps[d]? with
  | none=>simp[ht,undef]at hx
  | some u=>simp[ht]at hx;subst hx;rfl
 simp only[hy]
 split at h
 rename_i e;subst e;exact .inl ⟨Z8,h⟩
 rename_i e;exact .inr ⟨by simp[e],h⟩
 rename_i c b' hd
 simp only[Option.map_eq_some_iff]at hd
 obtain⟨d,LY,Py⟩:=hd
 have hr:=hs.slot d
 rw[Py]at hr
 obtain⟨_,OJ,K9⟩:=hr
 cases c with
 | false=>
   have hx:=K9 rfl
   have hy:yielded ops a.tmps j=none:=by
    unfold yielded
    rw[LY]
    simp only[Option.bind_some]
    cases ht:a.tmps[d]? with
    | none=>simp
    | some u=>simp[ht]at hx;subst hx;rfl
   simp only[hy]
   simp only[Bool.false_and,Bool.false_eq_true,if_false]at h
   exact .inr ⟨Z8,h⟩
 | true=>
   have hx:a.tmps.getD d undef=.bool b':=by have:=(OJ rfl).2.1;simpa using this
   have hy:yielded ops a.tmps j=some b':=by
    unfold yielded
    rw[LY]
    simp only[Option.bind_some]
    cases ht:a.tmps[d]? with
    | none=>simp[ht,undef]at hx
    | some u=>simp[ht]at hx;subst hx;rfl
   simp only[hy]
   simp only[Bool.true_and,Zp]at h
   split at h
   rename_i e;subst e;exact .inl ⟨Z8,h⟩
   rename_i e;exact .inr ⟨by simp[e],h⟩
 exact h.elim
theorem Nx.mono{K K':AS->Prop}{a':Act}{w':World}(h:Nx N Pb Kb w K a' w')(hK:∀ A,K A->K' A):Nx N Pb Kb w K' a' w':=by
 obtain⟨A',Pb',C4,F',h1,h2⟩:=h
 exact⟨A',Pb',C4,F',hK _ h1,h2⟩
theorem Nx.step{K:AS->Prop} {Pb' C4:Nat->Prop} {Rk:Act} {w' QR:World} (h3:∀ g,Pb g->Pb' g) (h4:∀ g,Kb g->C4 g) (h5:∀ g,Pb' g->Pb g\/¬ Kb g) (h6:w5 Kb w w')
 (h:Nx N Pb' C4 w' K Rk QR):Nx N Pb Kb w K Rk QR:=by
 obtain⟨A2,M3,Nb,F2,k1,k2,k3,k4,k5,k6⟩:=h
 refine⟨A2,M3,Nb,F2,k1,k2,fun g hg=>k3 g (h3 g hg),fun g hg=>k4 g (h4 g hg),fun g hg=>?_,h6.trans k6 h4⟩
 rcases k5 g hg with h | h
 exact h5 g h
 exact .inr fun c=>h (h4 g c)
theorem pJ{ops:Array Oper}{Q:Exit->Act->World->Prop}:∀ (l:List Oper) {A:AS} {K:AS->Prop} {Pb Kb:Nat->Prop} {a:Act} {w:World} {F:l6->List Nat},
 WL P N ops l A K->r7 N Pb Kb A a w F->(∀ a' w',Nx N Pb Kb w K a' w'->Q .normal a' w')->wpList P ops Q l a w
 | [],A,K,Pb,Kb,a,w,F,h,hs,hQ=>hQ _ _ ⟨A,Pb,Kb,F,h,hs,fun _ h=>h,fun _ h=>h,fun _ h=>.inl h,w5.refl _ _⟩
 | o::rest,A,K,Pb,Kb,a,w,F,h,hs,hQ=>by
   unfold wpList
   rcases rM h hs with ⟨hw,h⟩ | ⟨hw,hd,u,hu,h⟩
   rw[if_pos hw]
   refine .inl (Oper.wp_mono (K:=Nx N Pb Kb w fun A'=>WL P N ops rest A' K) ?_ (h Pb Kb a w F Q hs))
   intro a' w' ⟨A',Pb',C4,F',h1,h2,h3,h4,h5,h6⟩
   exact pJ rest h1 h2 fun Rk QR hn=>hQ Rk QR (Nx.step h3 h4 h5 h6 hn)
   rw[if_neg (by simp[hw])]
   obtain⟨F',x5⟩:=hs.nT (d:=o.dst) (v:=u) (x:=undef) hd (hu w Pb)
   exact pJ rest h x5 hQ
def T(P:Program)(N:Nat)(c:Code)(A:AS)(Q:Exit->AS->Prop):Prop:=
 ∀ Pb Kb a w F,r7 N Pb Kb A a w F->c.wp P (fun e a' w'=>Nx N Pb Kb w (Q e) a' w') a w
theorem ku{c:Code}{Q Q':Exit->AS->Prop}(h:T P N c A Q)(hQ:∀ e A,Q e A->Q' e A):T P N c A Q':=
 fun Pb Kb a w F hs=>wp_mono (h Pb Kb a w F hs) fun e _ _ hn=>hn.mono (hQ e)
theorem IX{Q:Exit->AS->Prop}(h:Q .normal A):T P N .skip A Q:=
 fun Pb Kb _ _ F hs=>wp_skip ⟨A,Pb,Kb,F,h,hs,fun _ h=>h,fun _ h=>h,fun _ h=>.inl h,w5.refl _ _⟩
theorem GH{l:Nat}{Q:Exit->AS->Prop}(h:Q .normal A):T P N (.label l) A Q:=
 fun Pb Kb _ _ F hs=>wp_label ⟨A,Pb,Kb,F,h,hs,fun _ h=>h,fun _ h=>h,fun _ h=>.inl h,w5.refl _ _⟩
theorem Jj{i:Nat}{Q:Exit->AS->Prop}(h:Q (.exit i) A):T P N (.exit i) A Q:=
 fun Pb Kb _ _ F hs=>wp_exit ⟨A,Pb,Kb,F,h,hs,fun _ h=>h,fun _ h=>h,fun _ h=>.inl h,w5.refl _ _⟩
theorem Kw{i:Nat}{Q:Exit->AS->Prop}(h:Q (.goto i) A):T P N (.goto i) A Q:=
 fun Pb Kb _ _ F hs=>wp_goto ⟨A,Pb,Kb,F,h,hs,fun _ h=>h,fun _ h=>h,fun _ h=>.inl h,w5.refl _ _⟩
theorem KO{Q:Exit->AS->Prop}(h:Q .ret A):T P N .ret A Q:=
 fun Pb Kb _ _ F hs=>wp_ret ⟨A,Pb,Kb,F,h,hs,fun _ h=>h,fun _ h=>h,fun _ h=>.inl h,w5.refl _ _⟩
def Xb(f:AS->Prop)(Q:Exit->AS->Prop):Exit->AS->Prop
 | .normal,A=>f A
 | e,A=>Q e A
theorem KJ{x y:Code}{Q:Exit->AS->Prop}(h:T P N x A (Xb (fun A'=>T P N y A' Q) Q)):T P N (.seq x y) A Q:=by
 intro Pb Kb a w F hs
 refine wp_seq (wp_mono (h Pb Kb a w F hs) fun e a' w' hn=>?_)
 cases e with
 | normal=>
   obtain⟨A',Pb',C4,F',h1,h2,h3,h4,h5,h6⟩:=hn
   exact wp_mono (h1 Pb' C4 a' w' F' h2) fun e _ _ hn=>Nx.step h3 h4 h5 h6 hn
 | _=>exact hn
theorem BY{c:Operand}{x y:Code}{Q:Exit->AS->Prop}{b:Bool}(hc:A.ev c=.lit (.bool b))(ht:b=true->T P N x A Q)(hf:b=false->T P N y A Q):T P N (.cond c x y) A Q:=
 fun Pb Kb a w F hs=>wp_cond_split (bH hs hc) (fun h=>ht h Pb Kb a w F hs) (fun h=>hf h Pb Kb a w F hs)
def W1(id:Nat)(Q:Exit->AS->Prop):Exit->AS->Prop
 | .exit SO,A=>if SO=id then Q .normal A else Q (.exit SO) A
 | e,A=>Q e A
theorem Ho{id:Nat}{c:Code}{Q:Exit->AS->Prop}(h:T P N c A (W1 id Q)):T P N (.block id c) A Q:=by
 intro Pb Kb a w F hs
 refine wp_block (wp_mono (h Pb Kb a w F hs) fun e a' w' hn=>?_)
 cases e with
 | exit SO=>
   simp only[Exit.inBlock]
   have hb:∀ A,W1 id Q (.exit SO) A=if SO=id then Q .normal A else Q (.exit SO) A:=fun _=>rfl
   by_cases e:SO=id
   rw[if_pos e];exact hn.mono fun A h=>by rw[hb,if_pos e]at h;exact h
   rw[if_neg e];exact hn.mono fun A h=>by rw[hb,if_neg e]at h;exact h
 | _=>exact hn
theorem Jg{c:Code} {Q:Exit->AS->Prop} (I:Nat->AS->Prop) (n:Nat) (h0:I n A)
 (round:∀ n A,I n A->T P N c A (Xb (fun A'=> ∃ m,m<n/\I m A') Q)):T P N (.loop c) A Q:=by
 have key:∀ n A (Pb Kb:Nat->Prop) a w F,I n A->r7 N Pb Kb A a w F->∀ (b:Frame) (k:List Item) (cs:List Frame),
  ∃ e a' w',Nx N Pb Kb w (Q e) a' w'/\Arrives P (lone (b.at a (.code c :: .inLoop c::k)) cs w) b k cs e a' w':=by
  intro n
  induction n using Nat.strongRecOn with
  | _ n ih=>
    intro A Pb Kb a w F hI hs b k cs
    obtain⟨e,Pp,O9,hq,Ok⟩:=round n A hI Pb Kb a w F hs b (.inLoop c::k) cs
    cases e with
    | normal=>
      obtain⟨A',Pb',C4,F',⟨m,hm,hI'⟩,h2,h3,h4,h5,h6⟩:=hq
      obtain⟨w3,W3,Oz,UJ,Ra⟩:=ih m hm A' Pb' C4 Pp O9 F' hI' h2 b k cs
      exact⟨w3,W3,Oz,Nx.step h3 h4 h5 h6 UJ,.of_steps (Steps.trans Ok (.one step_inLoop)) Ra⟩
    | exit id=>exact⟨_,Pp,O9,hq,.pass (x:=.inLoop c) rfl (fun _ _=>.inl Z8) Ok⟩
    | goto l=>exact⟨_,Pp,O9,hq,.pass (x:=.inLoop c) rfl (fun _ _=>.inl Z8) Ok⟩
    | ret=>exact⟨_,Pp,O9,hq,.pass (x:=.inLoop c) rfl (fun _ _=>.inl Z8) Ok⟩
    | panic ch=>exact⟨_,Pp,O9,hq,.pass (x:=.inLoop c) rfl (fun _ _=>.inl Z8) Ok⟩
    | outgrown=>exact⟨_,Pp,O9,hq,.pass (x:=.inLoop c) rfl (fun _ _=>.inl Z8) Ok⟩
 intro Pb Kb a w F hs b k cs
 obtain⟨e,a',w',hq,Ok⟩:=key n A Pb Kb a w F h0 hs b k cs
 exact⟨e,a',w',hq,.of_steps (.one step_loop) Ok⟩
theorem Ep{id:Nat}{ops:Array Oper}{Q:Exit->AS->Prop}(h:WL P N ops ops.toList A (Q .normal)):T P N (.region id ops false) A Q:=
 fun _ _ _ _ _ hs=>wp_region_list (pJ _ h hs fun _ _ hn=>hn)
end
mutual
def V.er:V->V
 | .own _ xs _ _ _=>.sl false (V.D5 xs)
 | .ow _ xs=>.sl false (V.D5 xs)
 | .om es _=>.mp es
 | .agg vs=>.agg (V.D5 vs)
 | .tup vs=>.tup (V.D5 vs)
 | .gv _ _=>.b7
 | v=>v
def V.D5:List V->List V
 | []=>[]
 | v::vs=>v.er::V.D5 vs
end
def lT(P:Program)(f:FuncId):Prop:= ∀ args w,(callFunc f args).run P w=.ok (.enter f args) w
def PC(P:Program)(f:FuncId)(args:List V)(Q:V->Prop):Prop:=
 lT P f/\∀ (w:World) (Pb:Nat->Prop) (cargs:List Value),(∀ g,Pb g->g<w.heap.size)->RVs w Pb args cargs []->
  Calls P f cargs.toArray w fun e w'=> ∃ r x F Pb',e=.returned x/\Q r/\RV w' Pb' r x F/\F.Nodup/\(∀ g,g∈F->w.heap.size<=g/\g<w'.heap.size/\¬ Pb' g)/\
   (∀ g,Pb g->Pb' g)/\(∀ g,Pb' g->Pb g\/(w.heap.size<=g/\g<w'.heap.size))/\Below w.heap.size w w'
theorem PC.mono{P:Program}{f:FuncId}{args:List V}{Q Q':V->Prop}(h:PC P f args Q)(hQ:∀ r,Q r->Q' r):PC P f args Q':=
 ⟨h.1,fun w Pb cargs h1 h2=>(h.2 w Pb cargs h1 h2).mono fun _ _ ⟨r,x,F,Pb',e,q,rest⟩=>⟨r,x,F,Pb',e,hQ r q,rest⟩⟩
section
variable {w w':World} {Pb Kb Pb':Nat->Prop} {N:Nat} {A A':AS} {a:Act} {F:l6->List Nat} {P:Program}
mutual
theorem FE:∀ v:V,v.er.n=v.n
 | .own .. =>rfl | .ow .. =>rfl | .om .. =>rfl | .mp .. =>rfl | .agg vs=>by simp only[V.er,V.n];exact Gl vs
 | .tup _=>rfl | .gv _ _=>rfl | .lit _=>rfl | .sl .. =>rfl | .hd .. =>rfl | .ptr .. =>rfl | .ep _=>rfl | .b7=>rfl
theorem Gl:∀ vs:List V,V.ns (V.D5 vs)=V.ns vs
 | []=>rfl | v::vs=>by simp only[V.D5,V.ns,FE v,Gl vs]
end
theorem jO:∀ vs:List V,V.D5 vs=vs.map V.er
 | []=>rfl | v::vs=>by simp[V.D5,jO vs]
mutual
theorem fX:∀ (v:V) {cs F},R w Pb v cs F->(∀ g,Pb g->Pb' g)->(∀ g,g∈F->Pb' g)->R w Pb' v.er cs []
 | .lit x,_,_,h,_,_=>⟨h.1,h.2.1,rfl⟩
 | .agg vs,_,_,h,k1,k2=>by simp only[R,V.er]at h ⊢;exact qo vs h k1 k2
 | .tup _,_,_,h,_,_=>by simp[R]at h
 | .gv _ _,_,_,h,_,_=>by simp[R]at h
 | .sl full xs,cs,F,h,k1,k2=>by
   have hF:=h.1
   subst hF
   exact fi (w:=w) (.sl full xs) h (fun _ _=>rfl) Z8 k1 Z8
 | .own sz xs g o c,cs,F,h,k1,k2=>by
   rcases h with ⟨rfl,rfl,rfl,A,rfl⟩ | ⟨h1,h2,h3,rfl,h5,h6,flat,F',cells,rfl,hr,hb,hsz,r6⟩
   exact⟨rfl,A,0,rfl,Zy _,fun h=>by simp at h,.inl rfl⟩
   refine⟨rfl,some ⟨g,o,none⟩,c,by rw[jO];simp,by rw[jO];simpa using h3,fun h=>by simp at h,?_⟩
   by_cases hx:xs=[]
   subst hx;exact .inl rfl
   refine .inr ⟨g,o,sz,flat,rfl,k2 g Z8,h2,?_,qo xs hr k1 (fun g hg=>k2 g (by simp[hg])),fun j u hu=>by rw[dD hb];exact r6 j u hu⟩
   intro v hv
   rw[jO]at hv
   obtain⟨u,hu,rfl⟩:=List.mem_map.1 hv
   rw[FE];exact h5 u hu
 | .ow sz xs,cs,F,h,k1,k2=>by
   obtain⟨g,o,c,h⟩:=h
   rcases h with ⟨rfl,rfl,rfl,A,rfl⟩ | ⟨h1,h2,h3,rfl,h5,h6,flat,F',cells,rfl,hr,hb,hsz,r6⟩
   exact⟨rfl,A,0,rfl,Zy _,fun h=>by simp at h,.inl rfl⟩
   refine⟨rfl,some ⟨g,o,none⟩,c,by rw[jO];simp,by rw[jO];simpa using h3,fun h=>by simp at h,?_⟩
   by_cases hx:xs=[]
   subst hx;exact .inl rfl
   refine .inr ⟨g,o,sz,flat,rfl,k2 g Z8,h2,?_,qo xs hr k1 (fun g hg=>k2 g (by simp[hg])),fun j u hu=>by rw[dD hb];exact r6 j u hu⟩
   intro v hv
   rw[jO]at hv
   obtain⟨u,hu,rfl⟩:=List.mem_map.1 hv
   rw[FE];exact h5 u hu
 | .om es g,cs,F,h,k1,k2=>⟨rfl,g,h.2.1,k2 g (by rw[h.1];simp),h.2.2.2⟩
 | .mp es,cs,F,h,k1,_=>by obtain⟨_,g,h1,h2,h3⟩:=h;exact⟨rfl,g,h1,k1 g h2,h3⟩
 | .hd ..,_,_,h,_,_=>⟨rfl,h.2⟩
 | .ptr ..,_,_,h,_,_=>⟨rfl,h.2⟩
 | .ep v,cs,F,h,k1,k2=>by
   have hF:=h.1
   subst hF
   exact fi (w:=w) (.ep v) h (fun _ _=>rfl) Z8 k1 Z8
 | .b7,_,_,h,_,_=>⟨rfl,h.2⟩
theorem qo:∀ (vs:List V) {cs F},RL w Pb vs cs F->(∀ g,Pb g->Pb' g)->(∀ g,g∈F->Pb' g)->RL w Pb' (V.D5 vs) cs []
 | [],_,_,h,_,_=>⟨h.1,rfl⟩
 | v::vs,_,_,h,k1,k2=>by
   obtain⟨c1,c2,F1,F2,rfl,rfl,h1,h2⟩:=h
   exact⟨c1,c2,[],[],rfl,rfl,fX v h1 k1 (fun g hg=>k2 g (by simp[hg])),qo vs h2 k1 (fun g hg=>k2 g (by simp[hg]))⟩
end
theorem BJ:∀ (vs:List V) {xs F},RVs w Pb vs xs F->(∀ g,Pb g->Pb' g)->(∀ g,g∈F->Pb' g)->RVs w Pb' (V.D5 vs) xs []
 | [],_,_,h,_,_=>⟨h.1,rfl⟩
 | v::vs,_,_,h,k1,k2=>by
   obtain⟨x,xs',F1,F2,rfl,rfl,h1,h2⟩:=h
   refine⟨x,xs',[],[],rfl,rfl,?_,BJ vs h2 k1 (fun g hg=>k2 g (by simp[hg]))⟩
   have QF:∀ g,g∈F1->Pb' g:=fun g hg=>k2 g (by simp[hg])
   cases v with
   | agg us=>obtain⟨cs,e,h1⟩:=h1;exact⟨cs,e,qo us h1 k1 QF⟩
   | b7=>rfl
   | tup _=>simp[R]at h1
   | gv _ _=>simp[R]at h1
   | own sz xs g o c=>exact fX (w:=w) (Pb:=Pb) (.own sz xs g o c) h1 k1 QF
   | ow sz xs=>exact fX (w:=w) (Pb:=Pb) (.ow sz xs) h1 k1 QF
   | om es g=>exact fX (w:=w) (Pb:=Pb) (.om es g) h1 k1 QF
   | mp es=>exact fX (w:=w) (Pb:=Pb) (.mp es) h1 k1 QF
   | lit x=>exact fX (w:=w) (Pb:=Pb) (.lit x) h1 k1 QF
   | sl f xs=>exact fX (w:=w) (Pb:=Pb) (.sl f xs) h1 k1 QF
   | hd r p sz g o lo n c=>exact fX (w:=w) (Pb:=Pb) (.hd r p sz g o lo n c) h1 k1 QF
   | ptr r p g o=>exact fX (w:=w) (Pb:=Pb) (.ptr r p g o) h1 k1 QF
   | ep v=>exact fX (w:=w) (Pb:=Pb) (.ep v) h1 k1 QF
theorem AZ{v:V}{x:Value}{F:List Nat}(h:RV w Pb v x F)(k1:∀ g,Pb g->Pb' g)(k2:∀ g,g∈F->Pb' g):RV w Pb' v.er x []:=by
 cases v with
 | tup vs=>obtain⟨xs,e,h⟩:=h;exact⟨xs,e,BJ vs h k1 k2⟩
 | gv _ _=>rfl
 | agg us=>obtain⟨cs,e,h⟩:=h;exact⟨cs,e,qo us h k1 k2⟩
 | b7=>rfl
 | own sz xs g o c=>exact fX (w:=w) (Pb:=Pb) (.own sz xs g o c) h k1 k2
 | ow sz xs=>exact fX (w:=w) (Pb:=Pb) (.ow sz xs) h k1 k2
 | om es g=>exact fX (w:=w) (Pb:=Pb) (.om es g) h k1 k2
 | mp es=>exact fX (w:=w) (Pb:=Pb) (.mp es) h k1 k2
 | lit x=>exact fX (w:=w) (Pb:=Pb) (.lit x) h k1 k2
 | sl f xs=>exact fX (w:=w) (Pb:=Pb) (.sl f xs) h k1 k2
 | hd r p sz g o lo n c=>exact fX (w:=w) (Pb:=Pb) (.hd r p sz g o lo n c) h k1 k2
 | ptr r p g o=>exact fX (w:=w) (Pb:=Pb) (.ptr r p g o) h k1 k2
 | ep v=>exact fX (w:=w) (Pb:=Pb) (.ep v) h k1 k2
theorem r7.grow{M3 Nb:Nat->Prop} (hs:r7 N Pb Kb A a w F) (hb:∀ k,k<w.heap.size->w'.heap[k]? =w.heap[k]?) (hsz:w.heap.size<=w'.heap.size) (h1:∀ g,Pb g->M3 g)
 (h4:∀ g,Nb g->Kb g\/(w.heap.size<=g/\g<w'.heap.size)) (h5:∀ g,M3 g->Nb g):r7 N M3 Nb A a w' F where
 size:=hs.size
 defers:=hs.defers
 slot:=fun i=>lv _ (hs.slot i) (fun g hg=>hb g (hs.bound g (hs.sub g hg))) (fun g hg=>hb g (hs.free _ g hg).2) h1 (fun g hg c=>by
  have hf:=hs.free _ g hg
  rcases h4 g (h5 g c) with h | h
  exact hf.1 h
  omega)
 root:=fun k g v hk=>by
  obtain⟨F',e,cs,cells,⟨e',fr,I',hfr⟩,hr,hc⟩:=hs.root k g v hk
  have hin:∀ x,x∈g::F'->x<w.heap.size/\¬ M3 x:=fun x hx=>by
   have hf:=hs.free (.key k) x (by rw[e];exact hx)
   refine⟨hf.2,fun c=>?_⟩
   rcases h4 x (h5 x c) with h | h
   exact hf.1 h
   omega
  exact⟨F',e,cs,cells,⟨e',fr,(hb g (hin g Z8).1).trans I',hfr⟩,fi _ hr (fun g hg=>hb g (hs.bound g (hs.sub g hg))) (fun x hx=>hb x (hin x (by simp[hx])).1) h1 (fun x hx=>(hin x (by simp[hx])).2),hc⟩
 bP:=hs.bP
 nodup:=hs.nodup
 free:=fun r g hg=>by
  have hf:=hs.free r g hg
  refine⟨fun c=>?_,Z9⟩
  rcases h4 g c with h | h
  exact hf.1 h
  omega
 sub:=h5
 bound:=fun g hg=>by
  rcases h4 g hg with h | h
  have:=hs.bound g h;omega
  exact h.2
theorem w5.ya(h:Below w.heap.size w w')(hK:∀ g,Kb g->g<w.heap.size):w5 Kb w w':=
 ⟨h.os,h.tape,h.output,h.size,fun g hg=>h.block g (hK g hg),Shp.of_eq h.block⟩
theorem rr(hs:r7 N Pb Kb A a w F):∀ xs:List Operand,RVs w Pb (xs.map A.cp) (xs.map a.eval) []
 | []=>⟨rfl,rfl⟩
 | x::xs=>by
   refine⟨a.eval x,xs.map a.eval,[],[],rfl,rfl,?_,rr hs xs⟩
   have h:=ox hs x
   cases hv:A.cp x with
   | tup vs=>
     exfalso
     cases x with
     | tmp i=>
       simp only[AS.cp]at hv
       cases hg:A.get i <;> rw[hg]at hv <;> first | (solve | simp only[V.cp,V.Po,reduceCtorEq]at hv) | (unfold V.cp at hv;simp only[V.Po,reduceCtorEq]at hv)
     | const c=>
       simp only[AS.cp,AS.ev]at hv
       cases c <;> simp[cV,Ri]at hv
       split at hv <;> simp at hv
       split at hv <;> simp at hv
     | _=>simp[AS.cp,AS.ev]at hv
   | gv b u=>
     exfalso
     cases x with
     | tmp i=>
       simp only[AS.cp]at hv
       cases hg:A.get i <;> rw[hg]at hv <;> first | (solve | simp only[V.cp,V.Po,reduceCtorEq]at hv) | (unfold V.cp at hv;simp only[V.Po,reduceCtorEq]at hv)
     | const c=>
       simp only[AS.cp,AS.ev]at hv
       cases c <;> simp[cV,Ri]at hv
       split at hv <;> simp at hv
       split at hv <;> simp at hv
     | _=>simp[AS.cp,AS.ev]at hv
   | agg us=>rw[hv]at h;exact h
   | b7=>rfl
   | own sz xs g o c=>rw[hv]at h;exact h
   | ow sz xs=>rw[hv]at h;exact h
   | om es g=>rw[hv]at h;exact h
   | mp es=>rw[hv]at h;exact h
   | lit x=>rw[hv]at h;exact h
   | sl f xs=>rw[hv]at h;exact h
   | hd r p sz g o lo n c=>rw[hv]at h;exact h
   | ptr r p g o=>rw[hv]at h;exact h
   | ep v=>rw[hv]at h;exact h
theorem Ew{o:Oper} {K:AS->Prop} {f:FuncId} {xs:Array Operand} {J4:Array TypeId} {Q:V->Prop} (ho:o.op=.call { callee:=.value (.func f),args:=xs,argTypes:=J4 })
 (hd:bX N o.dst) (hc:PC P f (xs.toList.map A.cp) Q) (hK:∀ r,Q r->K (A.put o.dst r)):D3 P N o A K:=by
 intro Pb Kb a w F Q' hs
 unfold Oper.wp
 have x8:(execOp a.eval o).run P w=.ok (.enter f (xs.map a.eval)) w:=by
  simp only[execOp,ho,resolve,Act.eval,Deferred.ofValue,ZK,ZJ,ZS,invoke]
  have:=hc.1 (xs.map a.eval) w
  simpa using this
 rw[x8,Oper.upon_enter]
 have hargs:=rr hs xs.toList
 have I4:=hc.2 w Pb (xs.toList.map a.eval) (fun g hg=>hs.bound g (hs.sub g hg)) hargs
 have e:(xs.toList.map a.eval).toArray=xs.map a.eval:=by rw[<- Array.toList_map,Array.toArray_toList]
 rw[e]at I4
 refine I4.mono ?_
 rintro e w' ⟨r,x,Fr,Pb',rfl,hq,hr,hnd,hfr,h1,h2,hb⟩
 have x5:r7 N Pb' (fun g=>Kb g\/Pb' g) A a w' F:=hs.grow hb.block hb.size h1 (fun g hg=>by
  rcases hg with h | h
  exact .inl h
  rcases h2 g h with h | h
  exact .inl (hs.sub g h)
  exact .inr h) (fun g hg=>.inr hg)
 have Qk:∀ g,g∈Fr->¬ (Kb g\/Pb' g)/\g<w'.heap.size:=fun g hg=>by
  obtain⟨f1,f2,f3⟩:=hfr g hg
  refine⟨fun c=>?_,f2⟩
  rcases c with c | c
  have:=hs.bound g c;omega
  exact f3 c
 have hnx:∀ A' a' F',K A'->r7 N Pb' (fun g=>Kb g\/Pb' g) A' a' w' F'->Nx N Pb Kb w K a' w':=fun A' a' F' hk SX=>
  ⟨A',Pb',_,F',hk,SX,h1,fun g hg=>.inl hg,fun g hg=>by
   rcases h2 g hg with h | h
   exact .inl h
   exact .inr fun c=>by have:=hs.bound g c;omega,w5.ya hb hs.bound⟩
 cases K5:o.dst with
 | none=>exact hnx _ _ F (hK r hq) (by rw[K5];exact x5)
 | some d=>
   rw[K5]at hd
   refine hnx _ _ (bO F (.slot d) Fr) (hK r hq) ?_
   rw[K5]
   refine x5.put hd hr (fun rt _ g hg=>?_) hnd Qk
   intro I5
   have:=(hs.free rt g I5).2
   have:=(hfr g hg).1
   omega
theorem mT{o:Oper} {K:AS->Prop} {f:FuncId} {xs:Array Operand} {J4:Array TypeId} {Q:V->Prop} {E:V} (ho:o.op=.call { callee:=.value (.func f),args:=xs,argTypes:=J4 })
 (hd:bX N o.dst) (hc:PC P f (xs.toList.map A.cp) Q) (hE:∀ r,Q r->r.er=E) (hK:K (A.put o.dst E)):D3 P N o A K:=by
 have I5:PC P f (xs.toList.map A.cp) (fun r=>r=E):=by
  refine⟨hc.1,fun w Pb cargs h1 h2=>(hc.2 w Pb cargs h1 h2).mono ?_⟩
  rintro e w' ⟨r,x,Fr,Pb',rfl,hq,hr,hnd,hfr,k1,k2,hb⟩
  refine⟨E,x,[],fun g=>Pb' g\/g∈Fr,rfl,rfl,?_,ZA,Z8,fun g hg=>.inl (k1 g hg),fun g hg=>?_,hb⟩
  rw[<- hE r hq];exact AZ hr (fun g hg=>.inl hg) (fun g hg=>.inr hg)
  rcases hg with h | h
  exact k2 g h
  obtain⟨f1,f2,_⟩:=hfr g h;exact .inr ⟨f1,f2⟩
 exact Ew ho hd I5 fun r hr=>by rw[hr];exact hK
def enum(k:Nat):List V->List (Nat×V)
 | []=>[]
 | v::vs=>(k,v)::enum (k+1) vs
def wJ(A:AS):ResultVar->Option (l6×V)
 | .tmp t=>some (.slot t,A.get t)
 | .cell t _=>match A.get t with
   | .ptr (.key k) [] g 0=>match lk k A.h with
     | some (g',v)=>if g'=g then some (.key k,v) else none
     | none=>none
   | _=>none
def oF(A:AS):List ResultVar->Option (List (l6×V))
 | []=>some []
 | r::rs=>match wJ A r,oF A rs with
   | some x,some xs=>some (x::xs)
   | _,_=>none
def nU(P:Program):List ResultVar->List (l6×V)->Prop
 | .cell _ T::rs,(_,v)::xs=>(match ti P T with | some i=>v.n=i.sz/\i.d.agg=v.isAgg | none=>False)/\nU P rs xs
 | .tmp _::rs,(_,v)::xs=>(match v with | .tup _=>False | .gv _ _=>False | _=>True)/\nU P rs xs
 | [],[]=>True
 | _,_=>False
def one(vs:List V):V:=match vs with | [v]=>v | vs=>.tup vs
theorem yS:∀ (vs:List V) (k i:Nat),lk i (enum k vs)=if k<=i then vs[i-k]? else none
 | [],k,i=>by simp[enum,lk]
 | v::vs,k,i=>by
   simp only[enum,lk]
   by_cases h:i=k
   subst h;simp
   rw[if_neg h,yS vs (k+1) i]
   by_cases h':k+1<=i
   rw[if_pos h',if_pos Z9]
   have:i-k=(i-(k+1))+1:=Z9
   rw[this];rfl
   rw[if_neg h',if_neg Z9]
theorem Dp:∀ (vs:List V) {xs:List Value} {i:Nat} {v:V},RVs w Pb vs xs []->vs[i]? =some v->∃ x,xs[i]? =some x/\RV w Pb v x []
 | [],_,_,_,_,h=>by simp at h
 | v::vs,xs,0,u,h,hi=>by
     obtain⟨x,xs',F1,F2,rfl,hF,h1,h2⟩:=h
     have hF1:F1=[]:=by have:=hF.symm;simp at this;exact this.1
     subst hF1
     simp at hi;subst hi
     refine⟨x,rfl,?_⟩
     cases v with
     | agg us=>exact h1
     | b7=>exact h1
     | tup us=>simp[R]at h1
     | gv _ _=>simp[R]at h1
     | _=>exact h1
 | v::vs,xs,i+1,u,h,hi=>by
     obtain⟨x,xs',F1,F2,rfl,hF,h1,h2⟩:=h
     have hF2:F2=[]:=by have:=hF.symm;simp at this;exact this.2
     subst hF2
     obtain⟨y,hy,hr⟩:=Dp vs h2 (by simpa using hi)
     exact⟨y,by simpa using hy,hr⟩
theorem uC:∀ (vs:List V) {xs:List Value} {F},RVs w Pb vs xs F->xs.length=vs.length
 | [],_,_,h=>by rw[h.1];rfl
 | v::vs,_,_,h=>by
   obtain⟨x,xs',F1,F2,rfl,_,_,h2⟩:=h
   simp[uC vs h2]
def Tt(a:Act):ResultVar->Sem Value
 | .tmp t=>pure (a.tmps.getD t undef)
 | .cell t T=>do loadVar T (<- asAddr (a.tmps.getD t undef))
def NM(w:World)(Pb:Nat->Prop)(v:V)(x:Value)(F:List Nat):Prop:=match v with
 | .agg us=> ∃ cs,x=.agg cs/\RL w Pb us cs.toList F
 | .b7=>F=[]
 | v=>R w Pb v [x] F
theorem CV{v:V}{x:Value}{F1:List Nat}(h:RV w Pb v x F1)(hn:(∀ us,v≠.tup us)/\∀ b u,v≠.gv b u):NM w Pb v x F1:=by
 cases v with
 | tup us=>exact absurd rfl (hn.1 us)
 | gv b u=>exact absurd rfl (hn.2 b u)
 | _=>exact h
theorem JU{i:Option TI}{v:V}(h:match i with | some i=>v.n=i.sz/\i.d.agg=v.isAgg | none=>False):∃ j,i=some j/\v.n=j.sz/\j.d.agg=v.isAgg:=by
 cases i with
 | none=>exact h.elim
 | some j=>exact⟨j,rfl,h⟩
instance:LawfulMonad Sem:=LawfulMonad.mk' Sem (id_map:=fun x=>by
 show x.bind (fun a=>Sem.pure (id a))=x
 exact Sem.bind_pure' x)
 (pure_bind:=fun _ _=>rfl) (bind_assoc:=fun x f g=>Sem.bind_assoc' x f g)
theorem vC(hs:r7 N Pb Kb A a w F):∀ (rs:List ResultVar) {xs:List (l6×V)},oF A rs=some xs->nU P rs xs->(xs.map (·.1)).Nodup->
 ∃ (vs:List Value) (Fr:List Nat),(rs.mapM (Tt a)).run P w=.ok vs w/\
   RVs w Pb (xs.map (·.2)) vs Fr/\Fr.Nodup/\(∀ g,g∈Fr->∃ r,r∈xs.map (·.1)/\g∈F r)
 | [],xs,h,_,_=>by
   simp[oF]at h;subst h
   exact⟨[],[],rfl,⟨rfl,rfl⟩,ZA,Z8⟩
 | r::rs,xs,h,K1,hnd=>by
   simp only[oF]at h
   split at h
   case h_2=>simp at h
   rename_i x xs' hx QX
   simp only[ZY]at h
   subst h
   simp only[Zw,List.nodup_cons]at hnd
   have Wl:nU P rs xs':=by
    obtain⟨xr,xv⟩:=x
    cases r <;> exact K1.2
   obtain⟨vs,Fr,x8,hrv,ML,hin⟩:=vC hs rs QX Wl hnd.2
   have h1:∃ (v:Value) (F1:List Nat),(Tt a r).run P w=.ok v w/\RV w Pb x.2 v F1/\((∀ us,x.2≠.tup us)/\∀ b u,x.2≠.gv b u)/\F1.Nodup/\∀ g,g∈F1->g∈F x.1:=by
    cases r with
    | tmp t=>
      simp only[wJ,ZY]at hx
      subst hx
      have K1:=K1.1
      exact⟨_,F (.slot t),rfl,hs.slot t,⟨fun us e=>by have e':A.get t=.tup us:=e;rw[e']at K1;exact K1,fun b u e=>by have e':A.get t=.gv b u:=e;rw[e']at K1;exact K1⟩,hs.nodup _,fun _ h=>h⟩
    | cell t T=>
      simp only[wJ]at hx
      split at hx
      case h_2=>simp at hx
      rename_i k g hg
      split at hx
      case h_2=>simp at hx
      rename_i g' v hk
      split at hx
      case isFalse=>simp at hx
      rename_i e
      subst e
      simp only[ZY]at hx
      subst hx
      have Q2:=K1.1
      obtain⟨i,hi,Q2⟩:=JU Q2
      obtain⟨F',e,cs,cells,hb,hr,hc⟩:=hs.root k g' v hk
      have hp:=hs.slot t
      rw[hg]at hp
      have hp:a.tmps.getD t undef=.pointer (some ⟨g',0,none⟩):=by have:=hp.2;simpa using this
      obtain⟨y,hy,UF⟩:=lg (w:=w) hi hr Q2.1 Q2.2 (g:=g') (o:=0) (fun j u hu=>by rw[dD hb];exact hc j u hu)
      refine⟨y,F',by simp only[Tt,hp,asAddr,ZK,ZJ,ZS,hy],UF,?_,?_,?_⟩
      exact⟨fun us e=>by simp only at e;subst e;simp[R]at hr,fun b u e=>by simp only at e;subst e;simp[R]at hr⟩
      have:=hs.nodup (.key k);rw[e]at this;exact(List.nodup_cons.1 this).2
      intro g hg;rw[e];simp[hg]
   obtain⟨v,F1,hv,OJ,hnt,S7,UX⟩:=h1
   refine⟨v::vs,F1++Fr,?_,?_,?_,?_⟩
   rw[List.mapM_cons]
   simp only[ZK,ZJ]
   rw[hv]
   simp only[ZS,x8]
   exact⟨v,vs,F1,Fr,rfl,rfl,CV OJ hnt,hrv⟩
   refine List.nodup_append.2 ⟨S7,ML,fun p hp q hq e=>?_⟩
   subst e
   obtain⟨r',D4,Of⟩:=hin p hq
   exact hs.bP x.1 r' (fun c=>hnd.1 (by rw[c];exact D4)) p (UX p hp) Of
   intro g hg
   rcases ZN.1 hg with h | h
   exact⟨x.1,Z8,UX g h⟩
   obtain⟨r',D4,Of⟩:=hin g h
   exact⟨r',by simp only[Zw,List.mem_cons];exact .inr D4,Of⟩
theorem BS:∀ (us:List V) {vs:List Value} {Fr:List Nat},RVs w Pb us vs Fr->RV w Pb (one us) (if h:vs.toArray.size=1 then vs.toArray[0] else .tuple vs.toArray) Fr
 | [],vs,Fr,h=>by obtain⟨rfl,rfl⟩:=h;exact⟨#[],rfl,rfl,rfl⟩
 | [v],vs,Fr,h=>by
   obtain⟨x,xs',F1,F2,rfl,rfl,h1,h2⟩:=h
   obtain⟨rfl,rfl⟩:=h2
   simp only[List.append_nil]
   show RV w Pb v x F1
   cases v with
   | tup _=>simp[R]at h1
   | gv _ _=>simp[R]at h1
   | _=>exact h1
 | v::v'::us,vs,Fr,h=>by
   have hl:=uC _ h
   rw[dif_neg (by simp at hl ⊢;omega)]
   exact⟨vs.toArray,rfl,by simpa using h⟩
theorem yG(hs:r7 N Pb Kb A a w F){fn:Func}{xs:List (l6×V)}(h1:oF A fn.results.toList=some xs)(h2:nU P fn.results.toList xs)(h3:(xs.map (·.1)).Nodup):
 ∃ x Fr,(results fn a.tmps).run P w=.ok x w/\RV w Pb (one (xs.map (·.2))) x Fr/\Fr.Nodup/\∀ g,g∈Fr->∃ r,r∈xs.map (·.1)/\g∈F r:=by
 obtain⟨vs,Fr,x8,hrv,hnd,hin⟩:=vC hs _ h1 h2 h3
 have hm:(fn.results.mapM (Tt a)).run P w=.ok vs.toArray w:=by
  rw[<- Array.toArray_toList (xs:=fn.results),List.mapM_toArray,Sem.run_map,x8];rfl
 have WE:(results fn a.tmps).run P w=.ok (if h:vs.toArray.size=1 then vs.toArray[0] else .tuple vs.toArray) w:=by
  show ((fn.results.mapM (Tt a)).bind _).run P w=_
  have:=ZK (P:=P) (w:=w) (x:=fn.results.mapM (Tt a)) (f:=fun vs=>(pure (if h:vs.size=1 then vs[0] else .tuple vs):Sem Value))
  rw[hm]at this
  exact this
 exact⟨_,Fr,WE,BS _ hrv,hnd,hin⟩
end
def Str(l:BL):ByteArray:=⟨l.toArray⟩
theorem fS(l:BL):(Str l).size=l.length:=by simp[Str,ByteArray.size]
theorem Hv(a b:BL):Str a++Str b=Str (a++b):=by
 apply ByteArray.ext;simp[Str]
theorem Hk(l:BL)(i j:Nat):(Str l).extract i j=Str ((l.take j).drop i):=by
 apply ByteArray.ext
 rw[ByteArray.data_extract]
 simp[Str,List.extract,List.drop_take]
theorem JR(l:BL)(i:Int):W0 (Str l) i=.lit (.int .u8 (l.getD i.toNat 0).toNat):=by
 unfold W0 Str;simp[Array.getD,List.getD]
 split <;> simp_all
def Ka(P:Program)(N:Nat):List Oper->AS->Prop×AS×List Oper
 | [],A=>(True,A,[])
 | o::rest,A=>match o.guard with
   | some _=>(True,A,o::rest)
   | none=>match o.op with
     | .assign x=>match Ka P N rest ((A.drop x).put o.dst (A.ev x)) with
       | (C,r)=>(bX N o.dst/\C,r)
     | op=>match E9 P A op with
       | some (C,v)=>match Ka P N rest (A.put o.dst v) with
         | (C',r)=>(bX N o.dst/\C/\C',r)
       | none=>(True,A,o::rest)
theorem dF{P:Program} {f:FuncId} {fn:Func} (hf:P.funcs[f]? =some fn) (hn:(fn.name== "runtime.NumGoroutine")=false) (hb:fn.body.isNone=false):lT P f:=by
 intro args w
 unfold callFunc
 simp only[ZK,run_program,ZS,hf,hn,hb,Bool.false_eq_true,if_false,ZJ]
def V.set(v:V):List Nat->V->V
 | [],u=>u
 | j::p,u=>match v with
   | .agg vs=>match vs[j]? with
     | some x=>.agg (vs.set j (V.set x p u))
     | none=>v
   | .own sz xs g o c=>match xs[j]? with
     | some x=>.own sz (xs.set j (V.set x p u)) g o c
     | none=>v
   | _=>v
section
variable {w w':World} {Pb Kb:Nat->Prop}
def SK(w:World)(Pb:Nat->Prop)(vs:List V)(g o:Nat)(F:List Nat):Prop:=
 ∃ cs cells,Blk w g cells/\RL w Pb vs cs F/\∀ j u,cs[j]? =some u->cells[o+j]? =some u
theorem rI{v:V}{vs:List V}{g o:Nat}{F:List Nat}:SK w Pb (v::vs) g o F↔∃ F1 F2,F=F1++F2/\At w Pb v g o F1/\SK w Pb vs g (o+v.n) F2:=by
 constructor
 rintro⟨cs,cells,hb,⟨c1,c2,F1,F2,rfl,rfl,h1,h2⟩,hc⟩
 refine⟨F1,F2,rfl,⟨c1,cells,hb,h1,fun j u hu=>hc j u ?_⟩,⟨c2,cells,hb,h2,fun j u hu=>?_⟩⟩
 rw[ZB (ZH.1 hu).1];exact hu
 have hl:=dR v h1
 rw[<- hl,Zr]
 refine hc _ u ?_
 rw[ZG Z9]
 have e:c1.length+j-c1.length=j:=Z9
 rw[e];exact hu
 rintro⟨F1,F2,rfl,⟨c1,cells,⟨e1,f1,hb,hf⟩,h1,ME⟩,⟨c2,m9,⟨e2,f2,I',_⟩,h2,Qs⟩⟩
 rw[hb]at I'
 simp only[ZY,Obj.cells.injEq]at I'
 obtain⟨rfl,_,_⟩:=I'
 refine⟨c1++c2,cells,⟨e1,f1,hb,hf⟩,⟨c1,c2,F1,F2,rfl,rfl,h1,h2⟩,fun j u hu=>?_⟩
 have hl:=dR v h1
 by_cases hj:j<c1.length
 rw[ZB hj]at hu;exact ME j u hu
 rw[ZG Z9]at hu
 have:=Qs _ u hu
 rw[<- hl]at this
 have e:o+c1.length+(j-c1.length)=o+j:=Z9
 rwa [e]at this
theorem yp{vs:List V}{g o:Nat}{F:List Nat}:At w Pb (.agg vs) g o F↔SK w Pb vs g o F:=by
 constructor
 rintro⟨cs,cells,hb,h,hc⟩;exact⟨cs,cells,hb,by simpa only[R] using h,hc⟩
 rintro⟨cs,cells,hb,h,hc⟩;exact⟨cs,cells,hb,by simpa only[R] using h,hc⟩
theorem vf{l:List Value}{cells:Array Value}{o:Nat}(h:∀ j u,l[j]? =some u->cells[o+j]? =some u)(hl:l≠[]):o+l.length<=cells.size:=by
 have G6:0<l.length:=List.length_pos_iff.2 hl
 have:=h (l.length-1) _ (ZR Z9)
 have:=(Zt.1 this).1
 omega
theorem nV{v:V} {g o:Nat} {F:List Nat} (h:At w Pb v g o F) (k1:∀ x,Pb x->w'.heap[x]? =w.heap[x]?) (k2:∀ x,x∈F->w'.heap[x]? =w.heap[x]?) (k3:∀ x,x∈F->¬ Pb x)
 (k4:∀ cells,Blk w g cells->∃ m9,Blk w' g m9/\∀ j,o<=j->j<o+v.n->m9[j]? =cells[j]?):At w' Pb v g o F:=by
 obtain⟨cs,cells,hb,hr,hc⟩:=h
 obtain⟨m9,I',he⟩:=k4 cells hb
 refine⟨cs,m9,I',fi v hr k1 k2 (fun _ h=>h) k3,fun j u hu=>?_⟩
 have hl:=dR v hr
 have hj:=(ZH.1 hu).1
 rw[he _ Z9 Z9];exact hc j u hu
theorem CT{vs:List V} {g o:Nat} {F:List Nat} (h:SK w Pb vs g o F) (k1:∀ x,Pb x->w'.heap[x]? =w.heap[x]?) (k2:∀ x,x∈F->w'.heap[x]? =w.heap[x]?) (k3:∀ x,x∈F->¬ Pb x)
 (k4:∀ cells,Blk w g cells->∃ m9,Blk w' g m9/\∀ j,o<=j->j<o+V.ns vs->m9[j]? =cells[j]?):SK w' Pb vs g o F:=by
 rw[<- yp]at h ⊢
 exact nV h k1 k2 k3 k4
structure y9 (w w':World) (g o:Nat) (cs:List Value):Prop where
 os:w'.os=w.os
 tape:w'.tape=w.tape
 output:w'.output=w.output
 size:w'.heap.size=w.heap.size
 Mu:∀ k,k≠g->w'.heap[k]? =w.heap[k]?
 shape:Shp w w'
 Nd:∀ cells,Blk w g cells->∃ m9,Blk w' g m9/\m9.size=cells.size/\(∀ j,j<o\/o+cs.length<=j->m9[j]? =cells[j]?)/\(∀ j u,cs[j]? =some u->m9[o+j]? =some u)
theorem gj:∀ (p:List Nat) {v u:V} {g o g' o':Nat} {F},At w Pb v g o F->V.at g o v p=some (g',o',u)->(g'=g/\o<=o'/\o'+u.n<=o+v.n)\/g'∈F
 | [],v,u,g,o,g',o',F,h,e=>by
   simp only[V.at,ZY,ZV]at e
   obtain⟨rfl,rfl,rfl⟩:=e
   exact .inl ⟨rfl,Zy _,Zy _⟩
 | j::p,v,u,g,o,g',o',F,h,e=>by
   simp only[V.at]at e
   split at e
   rename_i vs
   split at e
   rename_i x hx
   obtain⟨cs,cells,hb,hr,hc⟩:=h
   simp only[R]at hr
   obtain⟨c,F',D4,hF,I5⟩:=fk vs hr hx
   rcases gj p (v:=x) ⟨c,cells,hb,D4,fun i u hu=>by rw[Zr];exact hc _ _ (I5 i u hu)⟩ e with ⟨h1,h2,h3⟩ | h1
   left
   refine⟨h1,Z9,?_⟩
   have hle:V.ns (vs.take j)+x.n<=V.ns vs:=by
    clear e hr hc D4 I5 hF h3 h2
    induction vs generalizing j with
    | nil=>simp at hx
    | cons v0 vs ih=>
      cases j with
      | zero=>simp at hx;subst hx;simp[V.ns]
      | succ j=>have:=ih (j:=j) (by simpa using hx);simp only[List.take_succ_cons,V.ns];omega
   simp only[V.n];omega
   exact .inr (hF _ h1)
   simp at e
   rename_i sz xs g1 o1 c1
   split at e
   rename_i x hx
   obtain⟨cs,cells,hb,hr,hc⟩:=h
   rcases hr with ⟨_,rfl,_⟩ | ⟨_,_,_,_,ha,_,flat,F',m9,rfl,hr,I',_,I5⟩
   simp at hx
   obtain⟨c,Mg,D4,hF,M0⟩:=fk xs hr hx
   have hj:j<=xs.length:=by have:=(ZH.1 hx).1;omega
   rw[dC xs j ha hj]at M0
   rcases gj p (v:=x) ⟨c,m9,I',D4,fun i u hu=>by rw[Zr];exact I5 _ _ (M0 i u hu)⟩ e with ⟨h1,_⟩ | h1
   right;simp[h1]
   right;simp[hF _ h1]
   simp at e
   simp at e
theorem ly:∀ (p:List Nat) {v u u':V} {g o g' o':Nat},V.at g o v p=some (g',o',u)->u'.n=u.n->(v.set p u').n=v.n
 | [],v,u,u',g,o,g',o',e,h=>by
   simp only[V.at,ZY,ZV]at e
   obtain⟨_,_,rfl⟩:=e;exact h
 | j::p,v,u,u',g,o,g',o',e,h=>by
   simp only[V.at]at e
   simp only[V.set]
   split at e
   rename_i vs
   split at e
   rename_i x hx
   have ih:=ly p e h
   simp only[hx,V.n]
   clear e
   induction vs generalizing j with
   | nil=>simp at hx
   | cons v0 vs ihv=>
     cases j with
     | zero=>simp at hx;subst hx;simp[V.ns,ih]
     | succ j=>simp only[List.set_cons_succ,V.ns];rw[ihv j (by simpa using hx)]
   simp at e
   split at e
   rename_i x hx;(try simp only[hx]);rfl
   simp at e
   simp at e
def SS(w w':World)(Pb:Nat->Prop)(p:List Nat):Prop:= ∀ (v u u':V) (g o g' o':Nat) (F Mg:List Nat) (Qx:List Value),At w Pb v g o F->(g::F).Nodup->(∀ x,x∈g::F->¬ Pb x)->V.at g o v p=some (g',o',u)->
    R w' Pb u' Qx Mg->u'.n=u.n->Mg.Nodup->(∀ x,x∈Mg->x ∉ g::F)->y9 w w' g' o' Qx->(∀ x,Pb x->w'.heap[x]? =w.heap[x]?)->
    ∃ F1,At w' Pb (v.set p u') g o F1/\(g::F1).Nodup/\∀ x,x∈F1->x∈F\/x∈Mg
theorem uf{w w':World} {Pb:Nat->Prop} {p:List Nat} (IH:SS w w' Pb p) {x u u':V} {g g' o':Nat} {Mg:List Nat} {Qx:List Value} (hr:R w' Pb u' Qx Mg) (hn:u'.n=u.n) (ML:Mg.Nodup)
 (x4:y9 w w' g' o' Qx) (k1:∀ x,Pb x->w'.heap[x]? =w.heap[x]?):
 ∀ (vs:List V) (o:Nat) (F:List Nat) (j:Nat),SK w Pb vs g o F->(g::F).Nodup->(∀ x,x∈g::F->¬ Pb x)->(∀ x,x∈Mg->x ∉ g::F)->vs[j]? =some x->V.at g (o+V.ns (vs.take j)) x p=some (g',o',u)->
   ∃ F1,SK w' Pb (vs.set j (x.set p u')) g o F1/\(g::F1).Nodup/\∀ y,y∈F1->y∈F\/y∈Mg:=by
 have hcs':=dR u' hr
 intro vs
 induction vs with
 | nil=>intro o F j _ _ _ _ hx;simp at hx
 | cons v0 vs ih=>
   intro o F j h hnd hP s6 hx e
   rw[rI]at h
   obtain⟨F1,F2,rfl,h1,h2⟩:=h
   have H6:=List.nodup_cons.1 hnd
   have Pz:=List.nodup_append.1 H6.2
   have QH:g ∉ F1:=fun c=>H6.1 (by simp[c])
   have R7:g ∉ F2:=fun c=>H6.1 (by simp[c])
   cases j with
   | zero=>
     simp at hx;subst hx
     simp only[List.take_zero,V.ns,Nat.add_zero]at e
     have S7:(g::F1).Nodup:=List.nodup_cons.2 ⟨QH,Pz.1⟩
     obtain⟨X4,hA,hN,hI⟩:=IH _ _ _ _ _ _ _ _ _ _ h1 S7 (fun x hx=>hP x (by simp at hx ⊢;rcases hx with h | h <;> simp[h])) e hr hn ML (fun x hx c=>s6 x hx (by simp at c ⊢;rcases c with h | h <;> simp[h])) x4 k1
     have UI:=gj p h1 e
     have hA2:SK w' Pb vs g (o+v0.n) F2:=by
      refine CT h2 k1 (fun x hx=>x4.Mu x ?_) (fun x hx=>hP x (by simp[hx])) (fun cells hb=>?_)
      rintro rfl
      rcases UI with ⟨rfl,_⟩ | h
      exact R7 hx
      exact Pz.2.2 _ h _ hx rfl
      rcases UI with ⟨rfl,OJ,K9⟩ | h
      obtain⟨m9,I',_,MM,_⟩:=x4.Nd cells hb
      exact⟨m9,I',fun j Vw _=>MM j (.inr Z9)⟩
      have hne:g≠g':=fun c=>QH (by rw[c];exact h)
      obtain⟨e',fr,hb,hf⟩:=hb
      exact⟨cells,⟨e',fr,(x4.Mu g hne).trans hb,hf⟩,fun _ _ _=>rfl⟩
     refine⟨X4++F2,?_,?_,?_⟩
     simp only[List.set_cons_zero]
     rw[rI]
     refine⟨X4,F2,rfl,hA,?_⟩
     rw[ly p e hn];exact hA2
     have O5:=List.nodup_cons.1 hN
     refine List.nodup_cons.2 ⟨fun c=>?_,List.nodup_append.2 ⟨O5.2,Pz.2.1,fun x hx y hy c=>?_⟩⟩
     rcases ZN.1 c with c | c
     exact O5.1 c
     exact R7 c
     subst c
     rcases hI x hx with h | h
     exact Pz.2.2 _ h _ hy rfl
     exact s6 x h (by simp[hy])
     intro y hy
     rcases ZN.1 hy with h | h
     rcases hI y h with h | h
     left;simp[h]
     right;exact h
     left;simp[h]
   | succ j=>
     simp only[List.take_succ_cons,V.ns,<- Zr]at e
     have Mm:vs[j]? =some x:=by simpa using hx
     obtain⟨X3,hA,hN,hI⟩:=ih (o+v0.n) F2 j h2 (List.nodup_cons.2 ⟨R7,Pz.2.1⟩) (fun x hx=>hP x (by simp at hx ⊢;rcases hx with h | h <;> simp[h])) (fun x hx c=>s6 x hx (by simp at c ⊢;rcases c with h | h <;> simp[h])) Mm e
     have UI:(g'=g/\o+v0.n<=o')\/g'∈F2:=by
      obtain⟨cs,cells,hb,K9,Qs⟩:=h2
      obtain⟨c,F',D4,hF,I5⟩:=fk vs K9 Mm
      rcases gj p (v:=x) ⟨c,cells,hb,D4,fun i u hu=>by rw[Zr];exact Qs _ _ (I5 i u hu)⟩ e with ⟨h1,h2,h3⟩ | h1
      exact .inl ⟨h1,Z9⟩
      exact .inr (hF _ h1)
     have hA1:At w' Pb v0 g o F1:=by
      refine nV h1 k1 (fun x hx=>x4.Mu x ?_) (fun x hx=>hP x (by simp[hx])) (fun cells hb=>?_)
      rintro rfl
      rcases UI with ⟨rfl,_⟩ | h
      exact QH hx
      exact Pz.2.2 _ hx _ h rfl
      rcases UI with ⟨rfl,OJ⟩ | h
      obtain⟨m9,I',_,MM,_⟩:=x4.Nd cells hb
      exact⟨m9,I',fun j _ hj=>MM j (.inl Z9)⟩
      have hne:g≠g':=fun c=>R7 (by rw[c];exact h)
      obtain⟨e',fr,hb,hf⟩:=hb
      exact⟨cells,⟨e',fr,(x4.Mu g hne).trans hb,hf⟩,fun _ _ _=>rfl⟩
     refine⟨F1++X3,?_,?_,?_⟩
     simp only[List.set_cons_succ]
     rw[rI]
     exact⟨F1,X3,rfl,hA1,hA⟩
     have O5:=List.nodup_cons.1 hN
     refine List.nodup_cons.2 ⟨fun c=>?_,List.nodup_append.2 ⟨Pz.1,O5.2,fun x hx y hy c=>?_⟩⟩
     rcases ZN.1 c with c | c
     exact QH c
     exact O5.1 c
     subst c
     rcases hI x hy with h | h
     exact Pz.2.2 _ hx _ h rfl
     exact s6 x h (by simp[hx])
     intro y hy
     rcases ZN.1 hy with h | h
     left;simp[h]
     rcases hI y h with h | h
     left;simp[h]
     right;exact h
theorem wM{w w':World}{Pb:Nat->Prop}:∀ p,SS w w' Pb p
 | []=>fun v u u' g o g' o' F Mg Qx h hnd hP e hr hn ML s6 x4 k1=>by
   simp only[V.at,ZY,ZV]at e
   obtain⟨rfl,rfl,rfl⟩:=e
   obtain⟨cs,cells,hb,_,_⟩:=h
   obtain⟨m9,I',_,_,I5⟩:=x4.Nd cells hb
   exact⟨Mg,⟨Qx,m9,I',hr,I5⟩,List.nodup_cons.2 ⟨fun hg=>s6 g hg Z8,ML⟩,fun x hx=>.inr hx⟩
 | j::p=>fun v u u' g o g' o' F Mg Qx h hnd hP e hr hn ML s6 x4 k1=>by
   have IH:SS w w' Pb p:=wM p
   simp only[V.at]at e
   simp only[V.set]
   split at e
   rename_i vs
   split at e
   rename_i x hx
   (try simp only[hx])
   rw[yp]at h
   obtain⟨F1,h1,h2,h3⟩:=uf IH hr hn ML x4 k1 vs o F j h hnd hP s6 hx e
   exact⟨F1,yp.2 h1,h2,h3⟩
   simp at e
   rename_i sz xs g1 o1 c1
   split at e
   rename_i x hx
   (try simp only[hx])
   obtain⟨cs,cells,hb,S0,hc⟩:=h
   rcases S0 with ⟨_,rfl,_⟩ | ⟨Oy,e9,UT,hcs,ha,QH,flat,F',H9,rfl,M9,j7,hsz,ME⟩
   simp at hx
   have H6:=List.nodup_cons.1 hnd
   have hj:j<=xs.length:=by have:=(ZH.1 hx).1;omega
   have e':V.at g1 (o1+V.ns (xs.take j)) x p=some (g',o',u):=by rw[dC xs j ha hj];exact e
   obtain⟨F1,⟨LV,Mf,OM,SZ,Th⟩,hN,hI⟩:=uf IH hr hn ML x4 k1 xs o1 F' j ⟨flat,H9,j7,M9,ME⟩ H6.2 (fun x hx=>hP x (by simp at hx ⊢;rcases hx with h | h <;> simp[h])) (fun x hx c=>s6 x hx (by simp at c ⊢;rcases c with h | h <;> simp[h])) hx e'
   have Of:g'=g1\/g'∈F':=by
    obtain⟨c,F2,D4,hF,I5⟩:=fk xs M9 hx
    rcases gj p (v:=x) ⟨c,H9,j7,D4,fun i u hu=>by rw[Zr];exact ME _ _ (I5 i u hu)⟩ e' with ⟨h1,_⟩ | h1
    exact .inl h1
    exact .inr (hF _ h1)
   have hne:g≠g':=by
    rintro rfl
    rcases Of with h | h
    exact H6.1 (by simp[h])
    exact H6.1 (by simp[h])
   obtain⟨e1,fr,hbg,hfr⟩:=hb
   have P8:Mf.size=H9.size:=by
    by_cases Qj:g1=g'
    subst Qj
    obtain⟨c2,⟨e2,f2,l4,_⟩,J1,_⟩:=x4.Nd H9 j7
    obtain⟨e3,f3,m8,_⟩:=OM
    rw[l4]at m8
    simp only[ZY,Obj.cells.injEq]at m8
    obtain⟨rfl,_,_⟩:=m8
    exact J1
    obtain⟨e2,f2,l4,_⟩:=j7
    obtain⟨e3,f3,m8,_⟩:=OM
    rw[x4.Mu g1 Qj,l4]at m8
    simp only[ZY,Obj.cells.injEq]at m8
    rw[m8.1]
   refine⟨g1::F1,⟨cs,cells,⟨e1,fr,(x4.Mu g hne).trans hbg,hfr⟩,.inr ⟨Oy,e9,by simpa using UT,by simpa using hcs,?_,QH,LV,F1,Mf,rfl,SZ,OM,Z9,Th⟩,hc⟩,?_,?_⟩
   intro y hy
   rcases List.mem_or_eq_of_mem_set hy with h | h
   exact ha y h
   rw[h,ly p e' hn];exact ha x (ZD hx)
   refine List.nodup_cons.2 ⟨fun c=>?_,hN⟩
   rcases List.mem_cons.1 c with h | h
   exact H6.1 (by simp[h])
   rcases hI g h with h | h
   exact H6.1 (by simp[h])
   exact s6 g h Z8
   intro y hy
   rcases List.mem_cons.1 hy with h | h
   left;simp[h]
   rcases hI y h with h | h
   left;simp[h]
   right;exact h
   simp at e
   simp at e
end
section
variable {w w':World} {Pb Kb:Nat->Prop} {N:Nat} {A A':AS} {a:Act} {F:l6->List Nat} {P:Program}
mutual
theorem jy:∀ (v:V) {cs F},R w Pb v cs F->∀ c,c∈cs->c.oneCell'=true
 | .lit x,_,_,h=>by obtain⟨h1,rfl,_⟩:=h;simpa using h1
 | .agg vs,_,_,h=>by simp only[R]at h;exact pt vs h
 | .tup _,_,_,h=>by simp[R]at h
 | .gv _ _,_,_,h=>by simp[R]at h
 | .sl ..,_,_,h=>by obtain⟨_,A,c,rfl,_⟩:=h;simp[Value.oneCell']
 | .own ..,_,_,h=>by rcases h with ⟨_,_,_,A,rfl⟩ | ⟨_,_,_,rfl,_⟩ <;> simp[Value.oneCell']
 | .hd ..,_,_,h=>by obtain⟨_,_,A,rfl,_⟩:=h;simp[Value.oneCell']
 | .ow ..,_,_,h=>by obtain⟨g,o,c,h⟩:=h;rcases h with ⟨_,_,_,A,rfl⟩ | ⟨_,_,_,rfl,_⟩ <;> simp[Value.oneCell']
 | .om ..,_,_,h=>by obtain⟨_,rfl,_⟩:=h;simp[Value.oneCell']
 | .mp ..,_,_,h=>by obtain⟨_,g,rfl,_⟩:=h;simp[Value.oneCell']
 | .ptr ..,_,_,h=>by obtain⟨_,rfl⟩:=h;simp[Value.oneCell']
 | .ep _,_,_,h=>by obtain⟨_,b,o,flat,rfl,_⟩:=h;simp[Value.oneCell']
 | .b7,_,_,h=>by obtain⟨_,x,rfl,hx⟩:=h;simpa using hx
theorem pt:∀ (vs:List V) {cs F},RL w Pb vs cs F->∀ c,c∈cs->c.oneCell'=true
 | [],_,_,h=>by rw[h.1];simp
 | v::vs,_,_,h=>by
   obtain⟨c1,c2,F1,F2,rfl,_,h1,h2⟩:=h
   intro c hc
   rcases ZN.1 hc with h | h
   exact jy v h1 c h
   exact pt vs h2 c h
end
def V.isVal:V->Bool | .tup _=>false | .gv _ _=>false | .b7=>false | _=>true
theorem fm{x:Value}(h:x.oneCell'=true):x.cells= #[x]:=by cases x <;> simp[Value.oneCell']at h <;> rfl
theorem xm{v:V}{x:Value}{Fv:List Nat}(h:RV w Pb v x Fv)(hv:v.isVal=true):R w Pb v x.cells.toList Fv:=by
 cases v with
 | tup _=>simp[V.isVal]at hv
 | gv _ _=>simp[V.isVal]at hv
 | b7=>simp[V.isVal]at hv
 | agg us=>obtain⟨cs,rfl,h⟩:=h;simp only[R,Value.cells];exact h
 | own sz xs g o c=>have h:R w Pb (.own sz xs g o c) [x] Fv:=h;rw[fm (jy _ h x Z8)];exact h
 | ow sz xs=>have h:R w Pb (.ow sz xs) [x] Fv:=h;rw[fm (jy _ h x Z8)];exact h
 | om es g=>have h:R w Pb (.om es g) [x] Fv:=h;rw[fm (jy _ h x Z8)];exact h
 | mp es=>have h:R w Pb (.mp es) [x] Fv:=h;rw[fm (jy _ h x Z8)];exact h
 | lit y=>have h:R w Pb (.lit y) [x] Fv:=h;rw[fm (jy _ h x Z8)];exact h
 | sl f xs=>have h:R w Pb (.sl f xs) [x] Fv:=h;rw[fm (jy _ h x Z8)];exact h
 | hd r p sz g o lo n c=>have h:R w Pb (.hd r p sz g o lo n c) [x] Fv:=h;rw[fm (jy _ h x Z8)];exact h
 | ptr r p g o=>have h:R w Pb (.ptr r p g o) [x] Fv:=h;rw[fm (jy _ h x Z8)];exact h
 | ep v=>have h:R w Pb (.ep v) [x] Fv:=h;rw[fm (jy _ h x Z8)];exact h
theorem y9.nil(w:World)(g o:Nat):y9 w w g o []:=
 ⟨rfl,rfl,rfl,rfl,fun _ _=>rfl,Shp.refl _,fun cells hb=>⟨cells,hb,rfl,fun _ _=>rfl,fun j u hu=>by simp at hu⟩⟩
theorem y9.cons{w1 w2:World}{g o:Nat}{v:Value}{vs:List Value}(h1:y9 w w1 g o [v])(h2:y9 w1 w2 g (o+1) vs):y9 w w2 g o (v::vs):=by
 refine⟨h2.os.trans h1.os,h2.tape.trans h1.tape,h2.output.trans h1.output,h2.size.trans h1.size,fun k hk=>(h2.Mu k hk).trans (h1.Mu k hk),h1.shape.trans h2.shape,fun cells hb=>?_⟩
 obtain⟨c1,j7,MD,U2,S8⟩:=h1.Nd cells hb
 obtain⟨c2,l4,J1,Oh,TO⟩:=h2.Nd c1 j7
 refine⟨c2,l4,J1.trans MD,fun j hj=>?_,fun j u hu=>?_⟩
 simp only[ZU]at hj
 rw[Oh j Z9,U2 j Z0]
 cases j with
 | zero=>
   simp at hu;subst hu
   rw[Oh _ Z9];exact S8 0 v rfl
 | succ j=>
   have:=TO j u (by simpa using hu)
   rw[<- this];congr 1;omega
theorem fI{g o:Nat}:∀ (vs:List Value) (i:Nat) (w:World) (cells:Array Value),Blk w g cells->o+i+vs.length<=cells.size->(∀ v,v∈vs->v.oneCell'=true)->
 ∃ w',(storeCells ⟨g,o,none⟩ vs i).run P w=.ok () w'/\y9 w w' g (o+i) vs
 | [],i,w,cells,_,_,_=>⟨w,rfl,y9.nil w g _⟩
 | v::vs,i,w,cells,hb,hl,h1=>by
   obtain⟨e,fr,QK,hfr⟩:=hb
   simp only[ZU]at hl
   have hlt:o+i<cells.size:=Z9
   have hc:w.cell? ⟨g,o+i,none⟩=some cells[o+i]:=by simp[World.cell?,QK,hlt]
   have hf:w.frozen? ⟨g,o+i,none⟩=false:=by
    have:=hfr (o+i) Z9
    simp only[World.frozen?,QK,Bool.and_eq_false_iff,decide_eq_false_iff_not]
    by_cases h:fr.1<=o+i
    right;exact fun c=>this ⟨h,c⟩
    left;exact h
   have x4:y9 w (w.setCell ⟨g,o+i,none⟩ v) g (o+i) [v]:=by
    refine⟨rfl,rfl,rfl,by simp[World.setCell],fun k hk=>Below.heap_setCell _ _ _ _ hk,fun k c e2 fr2 hk=>?_,fun m9 I'=>?_⟩
    by_cases XE:k=g
    subst XE
    exact⟨c.setIfInBounds (o+i) v,by simp[World.setCell,Array.getElem?_modify,hk],Z8⟩
    exact⟨c,(Below.heap_setCell _ _ _ _ XE).trans hk,rfl⟩
    obtain⟨e',VI,I',WG⟩:=I'
    refine⟨m9.setIfInBounds (o+i) v,⟨e',VI,?_,by simpa using WG⟩,Z8,fun j hj=>?_,fun j u hu=>?_⟩
    simp[World.setCell,Array.getElem?_modify,I']
    rw[Array.getElem?_setIfInBounds_ne];simp at hj;omega
    cases j with
    | zero=>
      simp at hu;subst hu
      rw[QK]at I'
      simp only[ZY,Obj.cells.injEq]at I'
      obtain⟨rfl,_,_⟩:=I'
      simp[hlt]
    | succ j=>simp at hu
   have j7:Blk (w.setCell ⟨g,o+i,none⟩ v) g (cells.setIfInBounds (o+i) v):=
    ⟨e,fr,by simp[World.setCell,Array.getElem?_modify,QK],by simpa using hfr⟩
   obtain⟨w',hr,J6⟩:=fI (g:=g) (o:=o) vs (i+1) _ _ j7 (by rw[Array.size_setIfInBounds];omega) (fun u hu=>h1 u (by simp[hu]))
   refine⟨w',?_,x4.cons (by rw[Zr];exact J6)⟩
   simp only[storeCells,ZK,dw,run_store P w _ v .plain (h1 v Z8),hc,hf,Bool.false_eq_true,if_false,ZS]
   exact hr
theorem GJ{p:List Nat} {x u u':V} {sz j g1 o1 c1 g' o':Nat} {xs:List V} {cs Qx:List Value} {F1 Mg:List Nat} (S0:R w Pb (.own sz xs g1 o1 c1) cs F1) (hnd:F1.Nodup) (hP:∀ x,x∈F1->¬ Pb x)
 (hx:xs[j]? =some x) (e:V.at g1 (o1+j*sz) x p=some (g',o',u)) (hr:R w' Pb u' Qx Mg) (hn:u'.n=u.n) (ML:Mg.Nodup) (s6:∀ x,x∈Mg->x ∉ F1) (x4:y9 w w' g' o' Qx)
 (k1:∀ x,Pb x->w'.heap[x]? =w.heap[x]?):∃ F2,R w' Pb (.own sz (xs.set j (x.set p u')) g1 o1 c1) cs F2/\F2.Nodup/\(∀ y,y∈F2->y∈F1\/y∈Mg)/\g'∈F1:=by
 rcases S0 with ⟨_,rfl,_⟩ | ⟨Oy,e9,UT,hcs,ha,QH,flat,F',H9,rfl,M9,j7,hsz,ME⟩
 simp at hx
 have hj:j<=xs.length:=by have:=(ZH.1 hx).1;omega
 have e':V.at g1 (o1+V.ns (xs.take j)) x p=some (g',o',u):=by rw[dC xs j ha hj];exact e
 obtain⟨F2,⟨LV,Mf,OM,SZ,Th⟩,hN,hI⟩:=uf (wM p) hr hn ML x4 k1 xs o1 F' j ⟨flat,H9,j7,M9,ME⟩ hnd hP s6 hx e'
 have Of:g'=g1\/g'∈F':=by
  obtain⟨c,F2,D4,hF,I5⟩:=fk xs M9 hx
  rcases gj p (v:=x) ⟨c,H9,j7,D4,fun i u hu=>by rw[Zr];exact ME _ _ (I5 i u hu)⟩ e' with ⟨h1,_⟩ | h1
  exact .inl h1
  exact .inr (hF _ h1)
 have P8:Mf.size=H9.size:=by
  by_cases Qj:g1=g'
  subst Qj
  obtain⟨c2,⟨e2,f2,l4,_⟩,J1,_⟩:=x4.Nd H9 j7
  obtain⟨e3,f3,m8,_⟩:=OM
  rw[l4]at m8
  simp only[ZY,Obj.cells.injEq]at m8
  obtain⟨rfl,_,_⟩:=m8
  exact J1
  obtain⟨e2,f2,l4,_⟩:=j7
  obtain⟨e3,f3,m8,_⟩:=OM
  rw[x4.Mu g1 Qj,l4]at m8
  simp only[ZY,Obj.cells.injEq]at m8
  rw[m8.1]
 refine⟨g1::F2,.inr ⟨Oy,e9,by simpa using UT,by simpa using hcs,?_,QH,LV,F2,Mf,rfl,SZ,OM,Z9,Th⟩,hN,?_,?_⟩
 intro y hy
 rcases List.mem_or_eq_of_mem_set hy with h | h
 exact ha y h
 rw[h,ly p e' hn];exact ha x (ZD hx)
 intro y hy
 rcases List.mem_cons.1 hy with h | h
 left;simp[h]
 rcases hI y h with h | h
 left;simp[h]
 right;exact h
 rcases Of with h | h <;> simp[h]
def AS.setAt(A:AS)(r:l6)(p:List Nat)(v:V):AS:=
 match r with
 | .key k=>match lk k A.h with
   | some (g,t)=>{ A with h:=(k,(g,t.set p v))::A.h }
   | none=>A
 | .slot i=>{ A with t:=(i,(A.get i).set p v)::A.t }
theorem r7.store(hs:r7 N Pb Kb A a w F) {r:l6} {p:List Nat} {g o:Nat} {QU v:V} {cs:List Value} {Fv:List Nat} (w8:A.at r p=some (g,o,QU)) (hr:R w Pb v cs Fv) (hn:v.n=QU.n)
 (hnd:Fv.Nodup) (s6:∀ r g,g∈Fv->g ∉ F r) (hfr:∀ g,g∈Fv->¬ Kb g/\g<w.heap.size) (x4:y9 w w' g o cs):∃ F',r7 N Pb Kb (A.setAt r p v) a w' F'/\¬ Kb g:=by
 have TX:∀ r g,g∈F r->¬ Pb g:=fun r g hg c=>(hs.free r g hg).1 (hs.sub g c)
 have main:∃ Fr,g∈F r/\(∀ x,Pb x->w'.heap[x]? =w.heap[x]?)/\Fr.Nodup/\(∀ y,y∈Fr->y∈F r\/y∈Fv)/\
  (match r with
   | .key k=> ∀ g0 t,lk k A.h=some (g0,t)->∃ F',Fr=g0::F'/\At w' Pb (t.set p v) g0 0 F'
   | .slot i=>RV w' Pb ((A.get i).set p v) (a.tmps.getD i undef) Fr):=by
  have kk:∀ r,g∈F r->∀ x,Pb x->w'.heap[x]? =w.heap[x]? :=fun r hg x hx=>x4.Mu x (by rintro rfl;exact TX r _ hg hx)
  have D4:∀ r,g∈F r->R w' Pb v cs Fv:=fun r hg=>fi v hr (kk r hg) (fun x hx=>x4.Mu x (by rintro rfl;exact s6 r _ hx hg)) (fun _ h=>h) (fun x hx c=>(hfr x hx).1 (hs.sub x c))
  cases r with
  | key k=>
    simp only[AS.at]at w8
    split at w8
    case h_2=>simp at w8
    rename_i g0 t hk
    obtain⟨F',e,hA⟩:=hs.root k g0 t hk
    have O4:g∈F (.key k):=by
     rw[e]
     rcases gj p hA w8 with ⟨rfl,_⟩ | h
     simp
     simp[h]
    have UQ:=hs.nodup (.key k)
    rw[e]at UQ
    obtain⟨F1,h1,h2,h3⟩:=wM (w:=w) (w':=w') p _ _ _ _ _ _ _ _ _ _ hA UQ (fun x hx=>TX (.key k) x (by rw[e];exact hx)) w8 (D4 _ O4) hn hnd (fun x hx c=>s6 (.key k) x hx (by rw[e];exact c)) x4 (kk _ O4)
    refine⟨g0::F1,O4,kk _ O4,h2,fun y hy=>?_,fun g0' t' K3=>?_⟩
    rw[e]
    rcases List.mem_cons.1 hy with h | h
    left;simp[h]
    rcases h3 y h with h | h
    left;simp[h]
    exact .inr h
    rw[hk]at K3
    simp only[ZY,ZV]at K3
    obtain⟨rfl,rfl⟩:=K3
    exact⟨F1,rfl,h1⟩
  | slot i=>
    simp only[AS.at]at w8
    split at w8
    case h_2=>simp at w8
    rename_i sz xs g1 o1 c1 j p hi
    have hrv:=hs.slot i
    rw[hi]at hrv
    simp only[V.at]at w8
    split at w8
    case h_2=>simp at w8
    rename_i x hx
    have O4:g∈F (.slot i):=by
     rcases hrv with ⟨_,rfl,_⟩ | ⟨_,_,_,_,ha,_,flat,F',m9,hF,M9,I',_,I5⟩
     simp at hx
     obtain⟨c,Mg,D4,Na,M0⟩:=fk xs M9 hx
     have hj:j<=xs.length:=by have:=(ZH.1 hx).1;omega
     rw[dC xs j ha hj]at M0
     rw[hF]
     rcases gj p (v:=x) ⟨c,m9,I',D4,fun i u hu=>by rw[Zr];exact I5 _ _ (M0 i u hu)⟩ w8 with ⟨rfl,_⟩ | h
     simp
     simp[Na _ h]
    obtain⟨F2,h1,h2,h3,_⟩:=GJ (w:=w) (w':=w') hrv (hs.nodup _) (TX _) hx w8 (D4 _ O4) hn hnd (s6 _) x4 (kk _ O4)
    refine⟨F2,O4,kk _ O4,h2,h3,?_⟩
    simp only[hi,V.set,hx]
    exact h1
 obtain⟨Fr,O4,kk,NG,Tb,hm⟩:=main
 have Qk:∀ y,y∈Fr->¬ Kb y/\y<w.heap.size:=fun y hy=>by
  rcases Tb y hy with h | h
  exact hs.free r y h
  exact hfr y h
 have MM:∀ r' x,r'≠r->x∈F r'->w'.heap[x]? =w.heap[x]? :=fun r' x hne hx=>x4.Mu x (by rintro rfl;exact hs.bP r' r hne _ hx O4)
 refine⟨bO F r Fr,⟨?_,?_,fun i=>?_,fun k g0 t hk=>?_,fun r1 r2 hne y hy=>?_,fun r1=>?_,fun r1 y hy=>?_,hs.sub,fun y hy=>by rw[x4.size];exact hs.bound y hy⟩,(hs.free r g O4).1⟩
 exact hs.size
 exact hs.defers
 by_cases Q0:r=.slot i
 subst Q0
 simp only[bO,if_true,AS.setAt,AS.get,lk,Option.getD_some]
 exact hm
 simp only[bO,if_neg (Ne.symm Q0)]
 have:(A.setAt r p v).get i=A.get i:=by
  cases r with
  | key k=>simp only[AS.setAt];split <;> rfl
  | slot j=>simp only[AS.setAt,AS.get,lk];rw[if_neg (fun c=>Q0 (by rw[c]))]
 rw[this]
 exact lv _ (hs.slot i) kk (fun x hx=>MM _ x (Ne.symm Q0) hx) (fun _ h=>h) (fun x hx=>TX _ x hx)
 by_cases QZ:r=.key k
 subst QZ
 simp only[AS.setAt]at hk
 have Pl:∃ g1 t1,lk k A.h=some (g1,t1):=by
  simp only[AS.at]at w8
  split at w8
  rename_i g1 t1 h;exact⟨g1,t1,h⟩
  simp at w8
 obtain⟨g1,t1,Pl⟩:=Pl
 rw[Pl]at hk
 simp only[lk,if_true,ZY,ZV]at hk
 obtain⟨rfl,rfl⟩:=hk
 obtain⟨F',e,hA⟩:=hm _ _ Pl
 exact⟨F',by simp[bO,e],hA⟩
 have K3:lk k A.h=some (g0,t):=by
  cases r with
  | slot j=>exact hk
  | key k'=>
    simp only[AS.setAt]at hk
    split at hk
    simp only[lk]at hk;rwa [if_neg (fun c=>QZ (by rw[c]))]at hk
    exact hk
 obtain⟨F',e,hA⟩:=hs.root k g0 t K3
 refine⟨F',by simp only[bO,if_neg (Ne.symm QZ)];exact e,nV hA kk (fun x hx=>MM (.key k) x (Ne.symm QZ) (by rw[e];simp[hx])) (fun x hx=>TX (.key k) x (by rw[e];simp[hx])) (fun cells hb=>?_)⟩
 obtain⟨e',fr,hb,hf⟩:=hb
 exact⟨cells,⟨e',fr,(MM (.key k) g0 (Ne.symm QZ) (by rw[e];simp)).trans hb,hf⟩,fun _ _ _=>rfl⟩
 simp only[bO]at hy ⊢
 split at hy
 rename_i h1
 rw[if_neg (fun c=>hne (h1.trans c.symm))]
 subst h1
 rcases Tb y hy with h | h
 exact hs.bP _ _ hne y h
 exact s6 r2 y h
 rename_i h1
 split
 rename_i h2
 subst h2
 intro c
 rcases Tb y c with h | h
 exact hs.bP _ _ hne y hy h
 exact s6 r1 y h hy
 exact hs.bP r1 r2 hne y hy
 simp only[bO];split
 exact NG
 exact hs.nodup r1
 simp only[bO]at hy
 rw[x4.size]
 split at hy
 exact Qk y hy
 exact hs.free r1 y hy
end
mutual
def V.flat:V->Option (List Value)
 | .lit x=>if x.oneCell' then some [x] else none
 | .sl true []=>some [.slice none 0 0]
 | .agg vs=>V.tU vs
 | _=>none
def V.tU:List V->Option (List Value)
 | []=>some []
 | v::vs=>match v.flat,V.tU vs with
   | some a,some b=>some (a++b)
   | _,_=>none
end
def lU(P:Program)(T:Nat)(v:V):Prop:= ∃ inf z,P.info? T=some inf/\inf.zero=some z/\v.flat=some z.cells.toList
section
variable {w w':World} {Pb Kb:Nat->Prop} {N:Nat} {A A':AS} {a:Act} {F:l6->List Nat} {P:Program}
mutual
theorem pY:∀ (v:V) {cs},v.flat=some cs->R w Pb v cs []
 | .lit x,cs,h=>by
   simp only[V.flat]at h
   split at h
   rename_i hx;simp at h;subst h;exact⟨hx,rfl,rfl⟩
   simp at h
 | .sl true [],cs,h=>by simp[V.flat]at h;subst h;exact⟨rfl,none,0,rfl,Zy _,fun _=>rfl,.inl rfl⟩
 | .sl true (x::xs),cs,h=>by simp[V.flat]at h
 | .sl false xs,cs,h=>by simp[V.flat]at h
 | .agg vs,cs,h=>by simp only[V.flat]at h;simp only[R];exact Aq vs h
 | .tup _,_,h=>by simp[V.flat]at h
 | .gv _ _,_,h=>by simp[V.flat]at h
 | .own ..,_,h=>by simp[V.flat]at h
 | .hd ..,_,h=>by simp[V.flat]at h
 | .ow ..,_,h=>by simp[V.flat]at h
 | .om ..,_,h=>by simp[V.flat]at h
 | .mp ..,_,h=>by simp[V.flat]at h
 | .ptr ..,_,h=>by simp[V.flat]at h
 | .ep _,_,h=>by simp[V.flat]at h
 | .b7,_,h=>by simp[V.flat]at h
theorem Aq:∀ (vs:List V) {cs},V.tU vs=some cs->RL w Pb vs cs []
 | [],cs,h=>by simp[V.tU]at h;subst h;exact⟨rfl,rfl⟩
 | v::vs,cs,h=>by
   simp only[V.tU]at h
   split at h
   rename_i a b h1 h2
   simp at h;subst h
   exact⟨a,b,[],[],rfl,rfl,pY v h1,Aq vs h2⟩
   simp at h
end
theorem alloc_old(w:World)(o:Obj)(k:Nat)(h:k<w.heap.size):(w.alloc o).heap[k]? =w.heap[k]? :=Below.heap_alloc w o k h
theorem dh(w:World)(o:Obj):(w.alloc o).heap.size=w.heap.size+1:=Z8
theorem ft(w:World)(o:Obj):(w.alloc o).heap[w.heap.size]? =some o:=heap_alloc_new w o
theorem r7.mA(hs:r7 N Pb Kb A a w F)(o:Obj):r7 N Pb Kb A a (w.alloc o) F:=
 hs.grow (fun k hk=>alloc_old w o k hk) (by rw[dh];omega) (fun _ h=>h) (fun g hg=>.inl hg) hs.sub
theorem r7.Lc(hs:r7 N Pb Kb A a w F)(o:Obj):r7 N (fun g=>Pb g\/g=w.heap.size) (fun g=>Kb g\/g=w.heap.size) A a (w.alloc o) F:=
 hs.grow (fun k hk=>alloc_old w o k hk) (by rw[dh];omega) (fun _ h=>.inl h) (fun g hg=>hg.imp id fun h=>by rw[dh];omega) (fun g hg=>hg.imp (hs.sub g) id)
theorem r7.Af(hs:r7 N Pb Kb A a w F){k g:Nat}{v:V}{Fv:List Nat}(hA:At w Pb v g 0 Fv)(hnd:(g::Fv).Nodup)(s6:∀ r x,x∈g::Fv->x ∉ F r)(hfr:∀ x,x∈g::Fv->¬ Kb x/\x<w.heap.size):
 r7 N Pb Kb { A with h:=(k,(g,v))::A.h } a w (bO F (.key k) (g::Fv)) where
 size:=hs.size
 defers:=hs.defers
 slot:=fun i=>by simp only[bO,reduceCtorEq,if_false];exact hs.slot i
 root:=fun k' g' v' hk=>by
  simp only[lk]at hk
  by_cases e:k'=k
  subst e
  simp only[if_true,ZY,ZV]at hk
  obtain⟨rfl,rfl⟩:=hk
  exact⟨Fv,by simp[bO],hA⟩
  rw[if_neg e]at hk
  obtain⟨F',e',U'⟩:=hs.root k' g' v' hk
  exact⟨F',by simp only[bO];rw[if_neg (fun c=>e (by injection c))];exact e',U'⟩
 bP:=fun r r' hne x hx=>by
  simp only[bO]at hx ⊢
  split at hx
  rename_i h1;rw[if_neg (fun c=>hne (h1.trans c.symm))];exact s6 r' x hx
  split
  exact fun c=>s6 r x c hx
  exact hs.bP r r' hne x hx
 nodup:=fun r=>by
  simp only[bO];split
  exact hnd
  exact hs.nodup r
 free:=fun r x hx=>by
  simp only[bO]at hx
  split at hx
  exact hfr x hx
  exact hs.free r x hx
 sub:=hs.sub
 bound:=hs.bound
theorem w5.alloc(hK:∀ g,Kb g->g<w.heap.size)(o:Obj):w5 Kb w (w.alloc o):=
 ⟨rfl,rfl,rfl,by rw[dh];omega,fun g hg=>alloc_old w o g (hK g hg),Shp.of_eq fun g hg=>alloc_old w o g hg⟩
theorem r7.GM(hs:r7 N Pb Kb A a w F){d:Nat}(hd:d<N){v:V}{cs:Array Value}{e:TypeId}(hr:R w Pb v cs.toList []):
 ∃ F',r7 N Pb Kb ⟨(A.put (some d) (.ptr (.key d) [] w.heap.size 0)).t,(d,(w.heap.size,v))::A.h⟩ (a.put (some d) (.pointer (some ⟨w.heap.size,0,none⟩))) (w.alloc (.cells cs e)) F':=by
 have h1:=hs.mA (.cells cs e)
 have h2:=h1.put (d:=d) (v:=.ptr (.key d) [] w.heap.size 0) (x:=.pointer (some ⟨w.heap.size,0,none⟩)) (F':=[]) hd ⟨rfl,rfl⟩ Z8 Z8 Z8
 have hA:At (w.alloc (.cells cs e)) Pb v w.heap.size 0 []:=
  ⟨cs.toList,cs,⟨e,(0,0),ft w _,fun i _ h=>by omega⟩,fi v hr (fun g hg=>alloc_old w _ g (hs.bound g (hs.sub g hg))) Z8 (fun _ h=>h) Z8,fun j u hu=>by simpa using hu⟩
 refine⟨_,h2.Af (k:=d) hA Z8 (fun r x hx c=>?_) (fun x hx=>?_)⟩
 simp at hx;subst hx
 simp only[bO]at c
 split at c
 simp at c
 have:=(hs.free r _ c).2;omega
 simp at hx;subst hx
 refine⟨fun c=>?_,by rw[dh];omega⟩
 have:=hs.bound _ c;omega
theorem qS{o:Oper} {K:AS->Prop} {d:Nat} {v:V} (hd:o.dst=some d) (hN:d<N)
 (x8:∀ Pb Kb a w F,r7 N Pb Kb A a w F->∃ cs e,(execOp a.eval o).run P w=.ok (.value (.pointer (some ⟨w.heap.size,0,none⟩))) (w.alloc (.cells cs e))/\R w Pb v cs.toList [])
 (hK:∀ g,K ⟨(A.put (some d) (.ptr (.key d) [] g 0)).t,(d,(g,v))::A.h⟩):D3 P N o A K:=by
 intro Pb Kb a w F Q hs
 obtain⟨cs,e,hx,hr⟩:=x8 Pb Kb a w F hs
 unfold Oper.wp
 rw[hx,Oper.upon_value,hd]
 obtain⟨F',x5⟩:=hs.GM hN (e:=e) hr
 exact⟨_,Pb,Kb,F',hK _,x5,fun _ h=>h,fun _ h=>h,fun _ h=>.inl h,w5.alloc hs.bound _⟩
theorem iy(e:TypeId)(cs:Array Value):(newRow e cs).run P w=.ok ⟨w.heap.size,0,none⟩ (w.alloc (.cells cs e)):=rfl
theorem pM{o:Oper} {K:AS->Prop} {d T:Nat} {v:V} (ho:o.op=.alloc T) (hd:o.dst=some d) (hN:d<N) (hz:lU P T v)
 (hK:∀ g,K ⟨(A.put (some d) (.ptr (.key d) [] g 0)).t,(d,(g,v))::A.h⟩):D3 P N o A K:=by
 refine qS hd hN (fun Pb Kb a w F hs=>?_) hK
 obtain⟨inf,z,h1,h2,h3⟩:=hz
 refine⟨z.cells,T,?_,pY v h3⟩
 simp[execOp,ho,Instr.alloc,zeroValue,typeInfo,h1,h2,newVar,iy]
theorem Ii{o:Oper} {K:AS->Prop} {d T:Nat} {x:Operand} (ho:o.op=.box T x) (hd:o.dst=some d) (hN:d<N) (hv:(A.cp x).isVal=true)
 (hK:∀ g,K ⟨(A.put (some d) (.ptr (.key d) [] g 0)).t,(d,(g,A.cp x))::A.h⟩):D3 P N o A K:=by
 refine qS hd hN (fun Pb Kb a w F hs=>?_) hK
 exact⟨(a.eval x).cells,T,by simp[execOp,ho,Instr.box,newVar,iy],xm (ox hs x) hv⟩
theorem vj{o:Oper} {K:AS->Prop} {T:Nat} {x y:Operand} {r:l6} {p:List Nat} {g g':Nat} {i:TI} {QU:V} (ho:o.op=.store T x y) (hd:o.dst=none) (hi:ti P T=some i)
 (hx:A.ev x=.ptr r p g g') (w8:(A.drop y).at r p=some (g,g',QU)) (hv:(A.ev y).isVal=true) (hn:(A.ev y).n=QU.n) (Qg:(A.ev y).n=i.sz) (hK:K ((A.drop y).setAt r p (A.ev y))):D3 P N o A K:=by
 intro Pb Kb a w F Q hs
 obtain⟨Fx,F',hr,x5,hnd,s6,hfr,_⟩:=hs.take y
 obtain⟨_,R4⟩:=dr hs x
 rw[hx]at R4
 have hp:a.eval x=.pointer (some ⟨g,g',none⟩):=by have:=R4.2;simpa using this
 have hR:=xm hr hv
 obtain⟨_,XZ,cells,hb,S0,Oy⟩:=iz x5 w8
 have TR:=dR _ S0
 have hl:=dR _ hR
 have hle:g'+(a.eval y).cells.toList.length<=cells.size\/(a.eval y).cells.toList=[]:=by
  by_cases hne:XZ=[]
  right;exact ZF (by rw[hl,hn,<- TR,hne];rfl)
  left;have:=vf Oy hne;omega
 have x4:∃ w',(storeCells ⟨g,g',none⟩ (a.eval y).cells.toList 0).run P w=.ok () w'/\y9 w w' g g' (a.eval y).cells.toList:=by
  rcases hle with h | h
  obtain⟨w',h1,h2⟩:=fI (P:=P) (g:=g) (o:=g') (a.eval y).cells.toList 0 w cells hb Z9 (jy _ hR)
  exact⟨w',h1,h2⟩
  rw[h];exact⟨w,rfl,y9.nil w g g'⟩
 obtain⟨w',x8,x4⟩:=x4
 have hx:(execOp a.eval o).run P w=.ok .skip w':=by
  have hsz:(a.eval y).cells.size=i.sz:=by rw[<- Qg,<- hl];simp
  simp only[execOp,ho,Instr.storeAt,hp,Instr.sureAddr,ZK,ZJ,ZS,storeVar,cq hi,hsz,ne_eq,not_true_eq_false,if_false,x8]
 unfold Oper.wp
 rw[hx,Oper.upon_skip,hd]
 obtain⟨F2,J1,hg⟩:=x5.store w8 hR hn hnd s6 hfr x4
 exact⟨_,Pb,Kb,F2,hK,J1,fun _ h=>h,fun _ h=>h,fun _ h=>.inl h,⟨x4.os,x4.tape,x4.output,by rw[x4.size];omega,fun k hk=>x4.Mu k (fun c=>hg (c ▸ hk)),x4.shape⟩⟩
def ey(A:AS)(k:Nat):List (Nat×Operand)->Option (List V)
 | []=>some []
 | (i,x)::r=>if i=k then match ey A (k+1) r with | some vs=>some (A.cp x::vs) | none=>none else none
theorem lB(hs:r7 N Pb Kb A a w F){s:Nat}:∀ (a8:List (Nat×Operand)) (k:Nat) {vs:List V},ey A k a8=some vs->(∀ v,v∈vs->v.isVal=true/\v.n=s)->
 ∃ xs:List Value,(a8.map fun (i,x)=>(i,a.eval x))=(xs.zipIdx k).map (fun x=>(x.2,x.1))/\(∀ x,x∈xs->x.cells.size=s)/\RL w Pb vs (xs.flatMap fun v=>v.cells.toList) []/\xs.length=vs.length
 | [],k,vs,h,_=>by simp[ey]at h;subst h;exact⟨[],rfl,Z8,⟨rfl,rfl⟩,rfl⟩
 | (i,x)::r,k,vs,h,hv=>by
   simp only[ey]at h
   split at h
   case isFalse=>simp at h
   rename_i e
   subst e
   split at h
   case h_2=>simp at h
   rename_i Vc hr
   simp at h;subst h
   obtain⟨xs,h1,h2,h3,h4⟩:=lB hs r (i+1) hr (fun v QY=>hv v (by simp[QY]))
   have hR:=xm (ox hs x) (hv (A.cp x) Z8).1
   have hl:=dR _ hR
   refine⟨a.eval x::xs,by simp[h1],?_,⟨_,_,[],[],Z8,rfl,hR,h3⟩,by simp[h4]⟩
   intro y hy
   rcases List.mem_cons.1 hy with rfl | h
   rw[<- (hv (A.cp x) Z8).2,<- hl];simp
   exact h2 y h
theorem um{o:Oper} {K:AS->Prop} {T e len:Nat} {a8:Array (Nat×Operand)} {i:TI} {vs:List V} (ho:o.op=.buildSlice T len a8) (hd:bX N o.dst) (hT:tD P T=some (.sl e)) (hi:ti P e=some i)
 (hz:∃ inf z,P.info? e=some inf/\inf.zero=some z) (P5:ey A 0 a8.toList=some vs) (hlen:vs.length=len) (OE:len*i.sz<=16777216) (G6:0<i.sz) (hv:∀ v,v∈vs->v.isVal=true/\v.n=i.sz)
 (hK:K (A.put o.dst (.sl true vs))):D3 P N o A K:=by
 intro Pb Kb a w F Q hs
 obtain⟨inf,z,K4,hzero⟩:=hz
 obtain⟨xs,h1,h2,h3,h4⟩:=lB hs a8.toList 0 P5 hv
 have hu:=gJ hT
 obtain⟨QV,_,E',_,hsz,_,_⟩:=il hi
 rw[K4]at E'
 obtain rfl:=Option.some.inj E'
 by_cases h0:len=0
 have V':vs=[]:=ZF Z9
 subst V'
 subst h0
 have Wk:a8.toList=[]:=by
  cases Qe:a8.toList with
  | nil=>rfl
  | cons p ps=>rw[Qe]at h1;rw[ZF h4]at h1;simp at h1
 have hp:a8= #[]:=by rw[<- Array.toArray_toList (xs:=a8),Wk]
 subst hp
 have hx:(execOp a.eval o).run P w=.ok (.value (.slice (some ⟨w.heap.size,0,none⟩) 0 0)) (w.alloc (.cells #[] e)):=by
  simp[execOp,ho,Instr.buildSlice,ax hu,cq hi,Instr.fill,iy]
  congr 2;apply Array.ext';simp
 unfold Oper.wp
 rw[hx,Oper.upon_value]
 obtain⟨F',x5⟩:=(hs.mA (.cells #[] e)).nT (d:=o.dst) (v:=.sl true []) (x:=.slice (some ⟨w.heap.size,0,none⟩) 0 0) hd ⟨rfl,_,0,rfl,Zy _,fun _=>rfl,.inl rfl⟩
 exact⟨_,Pb,Kb,F',hK,x5,fun _ h=>h,fun _ h=>h,fun _ h=>.inl h,w5.alloc hs.bound _⟩
 have hfl:=Great.fill_whole G6 xs ((Array.range (len*i.sz)).map (z.cells[· % z.cells.size]!)) h2 (by simp[h4,hlen])
 have hmul: ¬ len*inf.size=0:=by rw[hsz];exact Nat.mul_ne_zero h0 Z9
 have hb:=run_buildSlice (P:=P) w T e len (a8.map fun (i,x)=>(i,a.eval x)) _ inf z hu K4 hzero (by rw[hsz];omega) hmul (by rw[Array.toList_map,h1,hsz];exact hfl)
 have hx:(execOp a.eval o).run P w=.ok (.value (.slice (some ⟨w.heap.size,0,none⟩) len len)) (w.alloc (.cells (xs.flatMap fun v=>v.cells.toList).toArray e)):=by
  simp only[execOp,ho,ZK,hb,ZS,ZJ]
 unfold Oper.wp
 rw[hx,Oper.upon_value]
 have MD:=hs.Lc (.cells (xs.flatMap fun v=>v.cells.toList).toArray e)
 have M9:=dK (w':=w.alloc (.cells (xs.flatMap fun v=>v.cells.toList).toArray e)) (Pb':=fun g=>Pb g\/g=w.heap.size) vs h3 (fun g hg=>alloc_old w _ g (hs.bound g (hs.sub g hg))) Z8 (fun g hg=>.inl hg) Z8
 obtain⟨F',x5⟩:=MD.nT (d:=o.dst) (v:=.sl true vs) (x:=.slice (some ⟨w.heap.size,0,none⟩) len len) hd ⟨rfl,some ⟨w.heap.size,0,none⟩,len,by rw[hlen],Z9,fun _=>hlen.symm,
  .inr ⟨w.heap.size,0,i.sz,_,rfl,.inr rfl,G6,fun v QY=>(hv v QY).2,M9,fun j u hu=>by
   rw[dD (cells:=(xs.flatMap fun v=>v.cells.toList).toArray) ⟨e,(0,0),ft w _,fun i _ h=>by omega⟩];simpa using hu⟩⟩
 exact⟨_,_,_,F',hK,x5,fun _ h=>.inl h,fun _ h=>.inl h,fun g hg=>by
  rcases hg with h | h
  exact .inl h
  right;intro c;have:=hs.bound g c;omega,w5.alloc hs.bound _⟩
end
section
variable {w w':World} {Pb Kb:Nat->Prop} {N:Nat} {A A':AS} {a:Act} {F:l6->List Nat} {P:Program}
def lz(P:Program):List (Nat×Nat)->Option (List (Nat×Nat))
 | []=>some []
 | (off,T)::r=>match ti P T,lz P r with
   | some i,some ps=>some ((off,i.sz)::ps)
   | _,_=>none
def nZ(places:List (Nat×Nat)):List V->List (Nat×V)->Option (Prop×List V)
 | zs,[]=>some (True,zs)
 | zs,(i,v)::r=>match places[i]?,zs[i]? with
   | some (off,sz),some z=>match nZ places (zs.set i v) r with
     | some (C,W8)=>some (V.ns (zs.take i)=off/\v.n=sz/\z.n=sz/\v.isVal=true/\C,W8)
     | none=>none
   | _,_=>none
def pT(P:Program)(A:AS)(T:Nat)(zs:List V)(a8:List (Nat×Operand)):Option (Prop×V):=
 match tD P T with
 | some (.st fs)=>match lz P fs with
   | some places=>match nZ places zs (a8.map fun (i,x)=>(i,A.cp x)) with
     | some (C,vs)=>some (C,.agg vs)
     | none=>none
   | none=>none
 | _=>none
theorem vU:∀ (zs:List V) {cs:List Value} {i:Nat} {z v:V} {c:List Value},RL w Pb zs cs []->zs[i]? =some z->R w Pb v c []->c.length=z.n->
 RL w Pb (zs.set i v) (cs.take (V.ns (zs.take i))++c++cs.drop (V.ns (zs.take i)+z.n)) []
 | [],_,_,_,_,_,_,h,_,_=>by simp at h
 | z0::zs,cs,0,z,v,c,h,hi,hr,hn=>by
   obtain⟨c1,c2,F1,F2,rfl,hF,h1,h2⟩:=h
   have Na:=hF.symm;simp at Na;obtain⟨rfl,rfl⟩:=Na
   simp at hi;subst hi
   have hl:=dR _ h1
   simp only[List.take_zero,V.ns,ZO,List.nil_append,List.set_cons_zero]
   rw[<- hl,List.drop_left]
   exact⟨c,c2,[],[],rfl,rfl,hr,h2⟩
 | z0::zs,cs,i+1,z,v,c,h,hi,hr,hn=>by
   obtain⟨c1,c2,F1,F2,rfl,hF,h1,h2⟩:=h
   have Na:=hF.symm;simp at Na;obtain⟨rfl,rfl⟩:=Na
   have hl:=dR _ h1
   have ih:=vU zs h2 (by simpa using hi) hr hn
   simp only[List.take_succ_cons,V.ns,List.set_cons_succ]
   refine⟨c1,_,[],[],?_,rfl,h1,ih⟩
   rw[<- hl,List.take_append,List.drop_append]
   have e1:(List.take (c1.length+V.ns (zs.take i)) c1)=c1:=ZL Z9
   have e2:(List.drop (c1.length+V.ns (zs.take i)+z.n) c1)=[]:=ZC Z9
   rw[e1,e2]
   have e3:c1.length+V.ns (zs.take i)-c1.length=V.ns (zs.take i):=Z9
   have e4:c1.length+V.ns (zs.take i)+z.n-c1.length=V.ns (zs.take i)+z.n:=Z9
   rw[e3,e4];simp
theorem Bs(cells:Array Value) (off:Nat) (c:List Value) (h:off+c.length<=cells.size) {r:Array Value} (hs:r.size=cells.size)
 (hk:∀ k,r[k]? =if off+0<=k/\k<off+0+c.length/\k<cells.size then c[k-(off+0)]? else cells[k]?):r.toList=cells.toList.take off++c++cells.toList.drop (off+c.length):=by
 apply List.ext_getElem?
 intro k
 rw[Array.getElem?_toList,hk k]
 simp only[Nat.add_zero]
 by_cases h1:k<off
 rw[if_neg Z9,List.append_assoc,ZB Z0,List.getElem?_take,if_pos h1];simp
 by_cases h2:k<off+c.length
 rw[if_pos ⟨Z9,h2,Z9⟩,List.append_assoc,ZG Z0,ZB Z0]
 congr 1;simp;omega
 rw[if_neg Z9,ZG Z0,List.getElem?_drop]
 have:off+c.length+(k-(cells.toList.take off++c).length)=k:=Z0
 rw[this];simp
theorem qT(hs:r7 N Pb Kb A a w F){places:List (Nat×Nat)}:∀ (a8:List (Nat×Operand)) {zs:List V} {C:Prop} {vs:List V} {cells:Array Value},nZ places zs (a8.map fun (i,x)=>(i,A.cp x))=some (C,vs)->C->
 RL w Pb zs cells.toList []->∃ m9,Instr.fill (places.toArray[·]?) cells (a8.map fun (i,x)=>(i,a.eval x))=some m9/\RL w Pb vs m9.toList []
 | [],zs,C,vs,cells,h,_,hr=>by simp[nZ]at h;obtain⟨_,rfl⟩:=h;exact⟨cells,rfl,hr⟩
 | (i,x)::r,zs,C,vs,cells,h,hC,hr=>by
   simp only[Zw,nZ]at h
   split at h
   case h_2=>simp at h
   rename_i off sz z hp hz
   split at h
   case h_2=>simp at h
   rename_i C' W8 hf
   simp only[ZY,ZV]at h
   obtain⟨rfl,rfl⟩:=h
   obtain⟨h1,h2,h3,h4,h5⟩:=hC
   have hR:=xm (ox hs x) h4
   have hl:=dR _ hR
   obtain⟨cz,F',TH,_,XK⟩:=fk zs hr hz
   have XD:=dR _ TH
   have hle:off+(a.eval x).cells.toList.length<=cells.size:=by
    by_cases hne:cz=[]
    have:sz=0:=by rw[<- h3,<- XD,hne];rfl
    have hns:V.ns (zs.take i)<=cells.size:=by
     have TR:=gX _ hr
     have:V.ns (zs.take i)<=V.ns zs:=by
      clear hf hr XK TH hp TR h1
      induction zs generalizing i with
      | nil=>simp[V.ns]
      | cons z0 zs ih=>cases i with
        | zero=>simp[V.ns]
        | succ i=>simp only[List.take_succ_cons,V.ns];have:=ih (i:=i) (by simpa using hz);omega
     simpa[<- TR] using this
    rw[hl,h2];omega
    have:=vf (cells:=cells) (o:=off) (l:=cz) (fun j u hu=>by rw[<- h1];have:=XK j u hu;simpa using this) hne
    omega
   obtain⟨g1,g2⟩:=Great.foldl_set off (a.eval x).cells.toList 0 cells
   have Wh:=Bs cells off (a.eval x).cells.toList hle g1 g2
   have K9:=vU zs hr hz hR (by rw[hl,h2,h3])
   rw[h1,h3,<- h2,<- hl,<- Wh]at K9
   obtain⟨m9,Qo,D4⟩:=qT hs r hf h5 K9
   refine⟨m9,?_,D4⟩
   simp only[Zw]
   unfold Instr.fill
   have UK:places.toArray[i]? =some (off,sz):=by simpa using hp
   simp only[UK]
   rw[if_neg (by
    have e1:(a.eval x).cells.size=sz:=by rw[<- h2,<- hl];simp
    simp only[e1,ne_eq,not_true_eq_false,decide_false,Bool.false_or,Zq]
    rw[<- e1];simpa using hle)]
   rw[<- Qo];congr 1
   rw[<- Array.foldl_toList,Array.toList_zipIdx]
theorem Dn{fl:Array Field}{fs:List (Nat×Nat)}(h:fl.toList.map (fun f=>(f.offset,f.type))=fs){places:List (Nat×Nat)}(hp:lz P fs=some places):
 fl.toList.mapM (fun f=>(P.info? f.type).map fun i=>(f.offset,i.size))=some places:=by
 subst h
 generalize fl.toList=l at hp
 induction l generalizing places with
 | nil=>simp[lz]at hp;subst hp;rfl
 | cons f l ih=>
   simp only[Zw,lz]at hp
   split at hp
   case h_2=>simp at hp
   rename_i i ps hi hps
   simp at hp;subst hp
   obtain⟨inf,_,h1,_,h3,_,_⟩:=il hi
   simp[List.mapM_cons,h1,ih hps,h3]
theorem Bp(hs:r7 N Pb Kb A a w F){T:Nat}{a8:Array (Nat×Operand)}{zs:List V}{C:Prop}{v:V}(hz:lU P T (.agg zs))(h:pT P A T zs a8.toList=some (C,v))(hC:C):
 ∃ y,(Instr.build T (a8.map fun (i,x)=>(i,a.eval x))).run P w=.ok y w/\RV w Pb v y []:=by
 unfold pT at h
 split at h
 case h_2=>simp at h
 rename_i fs hT
 split at h
 case h_2=>simp at h
 rename_i places hp
 split at h
 case h_2=>simp at h
 rename_i C' vs hf
 simp only[ZY,ZV]at h
 obtain⟨rfl,rfl⟩:=h
 obtain⟨fl,hu,hfl⟩:=AG hT
 obtain⟨inf,z,h1,h2,h3⟩:=hz
 have hr:=pY (w:=w) (Pb:=Pb) _ h3
 simp only[R]at hr
 obtain⟨m9,Qo,D4⟩:=qT hs a8.toList hf hC hr
 refine⟨.agg m9,run_build w T _ m9 ?_,m9,rfl,D4⟩
 unfold Program.built
 simp only[h1,hu,h2,Dn hfl hp]
 rw[Array.toList_map];exact Qo
theorem vS{o:Oper} {K:AS->Prop} {T:Nat} {a8:Array (Nat×Operand)} {zs:List V} {C:Prop} {v:V} (ho:o.op=.build T a8) (hd:bX N o.dst) (hz:lU P T (.agg zs))
 (h:pT P A T zs a8.toList=some (C,v)) (hC:C) (hK:K (A.put o.dst v)):D3 P N o A K:=
 gY hd hK fun Pb Kb a w F hs=>by
  obtain⟨y,hy,hr⟩:=Bp hs hz h hC
  exact⟨y,by simp only[execOp,ho,ZK,hy,ZS,ZJ],hr⟩
theorem r7.freeze(hs:r7 N Pb Kb A a w F){i:Nat}(hi:(A.get i).cB=true)(WB:i<N):∃ Pb' C4 F',r7 N Pb' C4 (A.put (some i) (A.get i).er) a w F'/\(∀ g,Pb g->Pb' g)/\(∀ g,Kb g->C4 g)/\(∀ g,Pb' g->Pb g\/¬ Kb g):=by
 refine⟨fun g=>Pb g\/g∈F (.slot i),fun g=>Kb g\/g∈F (.slot i),bO F (.slot i) [],?_,fun g h=>.inl h,fun g h=>.inl h,fun g h=>h.imp id fun h=>(hs.free _ g h).1⟩
 have S6:∀ r,r≠.slot i->∀ g,g∈F r->¬ (Pb g\/g∈F (.slot i))/\¬ (Kb g\/g∈F (.slot i)):=fun r hr g hg=>by
  refine⟨fun c=>?_,fun c=>?_⟩ <;> rcases c with c | c
  exact(hs.free r g hg).1 (hs.sub g c)
  exact hs.bP r _ hr g hg c
  exact(hs.free r g hg).1 c
  exact hs.bP r _ hr g hg c
 refine⟨hs.size,hs.defers,fun j=>?_,fun k g v hk=>?_,fun r r' hne g hg=>?_,fun r=>?_,fun r g hg=>?_,fun g h=>h.imp (hs.sub g) id,fun g h=>?_⟩
 rw[AS.au]
 by_cases e:j=i
 subst e
 simp only[if_true,bO]
 exact AZ (hs.slot j) (fun g h=>.inl h) (fun g h=>.inr h)
 have hne:l6.slot j≠l6.slot i:=fun c=>e (by injection c)
 simp only[if_neg e,bO,if_neg hne]
 exact lv _ (hs.slot j) (fun _ _=>rfl) (fun _ _=>rfl) (fun g h=>.inl h) (fun g hg=>(S6 _ hne g hg).1)
 obtain⟨F',e,hA⟩:=hs.root k g v hk
 refine⟨F',by simpa[bO] using e,?_⟩
 obtain⟨cs,cells,hb,hr,hc⟩:=hA
 exact⟨cs,cells,hb,fi _ hr (fun _ _=>rfl) (fun _ _=>rfl) (fun g h=>.inl h) (fun x hx=>(S6 (.key k) Z8 x (by rw[e];simp[hx])).1),hc⟩
 simp only[bO]at hg ⊢
 split at hg
 simp at hg
 split
 simp
 exact hs.bP r r' hne g hg
 simp only[bO];split
 exact ZA
 exact hs.nodup r
 simp only[bO]at hg
 split at hg
 simp at hg
 rename_i hne
 exact⟨(S6 r hne g hg).2,(hs.free r g hg).2⟩
 rcases h with h | h
 exact hs.bound g h
 exact(hs.free _ g h).2
theorem r7.Mu(hs:r7 N Pb Kb A a w F){g:Nat}(hg:∀ r,g ∉ F r)(hK: ¬ Kb g)(hf:∀ k,k≠g->w'.heap[k]? =w.heap[k]?)(hsz:w'.heap.size=w.heap.size):r7 N Pb Kb A a w' F where
 size:=hs.size
 defers:=hs.defers
 slot:=fun i=>lv _ (hs.slot i) (fun x hx=>hf x (by rintro rfl;exact hK (hs.sub _ hx))) (fun x hx=>hf x (by rintro rfl;exact hg _ hx)) (fun _ h=>h) (fun x hx c=>(hs.free _ x hx).1 (hs.sub x c))
 root:=fun k g0 v hk=>by
  obtain⟨F',e,hA⟩:=hs.root k g0 v hk
  have U0:g0≠g:=by rintro rfl;exact hg (.key k) (by rw[e];simp)
  refine⟨F',e,nV hA (fun x hx=>hf x (by rintro rfl;exact hK (hs.sub _ hx))) (fun x hx=>hf x (by rintro rfl;exact hg (.key k) (by rw[e];simp[hx]))) (fun x hx c=>(hs.free (.key k) x (by rw[e];simp[hx])).1 (hs.sub x c)) (fun cells hb=>?_)⟩
  obtain⟨e',fr,hb,hfr⟩:=hb
  exact⟨cells,⟨e',fr,(hf g0 U0).trans hb,hfr⟩,fun _ _ _=>rfl⟩
 bP:=hs.bP
 nodup:=hs.nodup
 free:=fun r x hx=>by rw[hsz];exact hs.free r x hx
 sub:=hs.sub
 bound:=fun x hx=>by rw[hsz];exact hs.bound x hx
theorem gZ:∀ (xs ys:List V) {c1 c2:List Value} {F1 F2:List Nat},RL w Pb xs c1 F1->RL w Pb ys c2 F2->RL w Pb (xs++ys) (c1++c2) (F1++F2)
 | [],ys,c1,c2,F1,F2,h1,h2=>by obtain⟨rfl,rfl⟩:=h1;exact h2
 | x::xs,ys,c1,c2,F1,F2,h1,h2=>by
   obtain⟨d1,d2,G1,G2,rfl,rfl,k1,k2⟩:=h1
   exact⟨d1,d2++c2,G1,G2++F2,Z8,Z8,k1,gZ xs ys k2 h2⟩
theorem np{sz:Nat}(xs:List V)(h:aC sz xs):V.ns xs=xs.length*sz:=by
 have:=dC xs xs.length h (Zy _);simpa using this
theorem wX{full:Bool}{ys:List V}{x:Value}(h:R w Pb (.sl full ys) [x] []){s:Nat}(hs:aC s ys):∃ (B:Option Addr) (c:Nat) (flat:List Value),x=.slice B ys.length c/\RL w Pb ys flat []/\
 (∀ w1:World,(∀ ad,w1.cell? ad=w.cell? ad)->(Builtin.firstCells s ys.length x).run P w1=.ok flat.toArray w1)/\flat.length=ys.length*s:=by
 obtain⟨_,A,c,hx,hl,_,hz⟩:=h
 have hx:x=.slice A ys.length c:=by simpa using hx
 subst hx
 rcases hz with rfl | ⟨b,o,sz,flat,rfl,hb,hsz,hN,hr,hc⟩
 refine⟨A,c,[],rfl,⟨rfl,rfl⟩,fun w1 _=>?_,Z8⟩
 cases A with
 | none=>rfl
 | some ad=>simp only[Builtin.firstCells,ZQ,Nat.zero_mul];rfl
 have hl2:=gX _ hr
 by_cases he:ys=[]
 subst he
 obtain⟨rfl,_⟩:=hr
 exact⟨_,c,[],rfl,⟨rfl,rfl⟩,fun w1 _=>by simp only[Builtin.firstCells,ZQ,Nat.zero_mul];rfl,Z8⟩
 rw[np ys hs]at hl2
 exact⟨_,c,flat,rfl,hr,fun w1 h1=>by simp only[Builtin.firstCells];rw[<- hl2];exact run_loadCells_list w1 _ flat (fun j v hv=>by rw[dw,h1];exact hc j v hv),hl2⟩
theorem ve{sz g o c:Nat}{xs:List V}{x:Value}{Fx:List Nat}(h:R w Pb (.own sz xs g o c) [x] Fx):∃ (B:Option Addr) (flat:List Value) (F':List Nat),x=.slice B xs.length c/\RL w Pb xs flat F'/\
 (∀ w1:World,(∀ ad,w1.cell? ad=w.cell? ad)->(Builtin.firstCells sz xs.length x).run P w1=.ok flat.toArray w1)/\(0<c->B=some ⟨g,o,none⟩/\aC sz xs/\0<sz/\Fx=g::F'/\flat.length=xs.length*sz)/\(c=0->xs=[]/\Fx=[]/\F'=[]/\flat=[])/\xs.length<=c:=by
 rcases h with ⟨rfl,rfl,rfl,A,hx⟩ | ⟨h1,h2,h3,hx,hN,_,flat,F',cells,rfl,hr,hb,hsz,hc⟩
 have hx:x=.slice A 0 0:=by simpa using hx
 subst hx
 refine⟨A,[],[],rfl,⟨rfl,rfl⟩,fun w1 _=>?_,fun h=>absurd h Z9,fun _=>⟨rfl,rfl,rfl,rfl⟩,Zy _⟩
 cases A with
 | none=>rfl
 | some ad=>simp only[Builtin.firstCells,ZQ,Nat.zero_mul];rfl
 have hx:x=.slice (some ⟨g,o,none⟩) xs.length c:=by simpa using hx
 subst hx
 have hl:=gX _ hr
 rw[np xs hN]at hl
 refine⟨_,flat,F',rfl,hr,fun w1 h1=>?_,fun _=>⟨rfl,hN,h2,rfl,hl⟩,fun h=>absurd h Z9,h3⟩
 simp only[Builtin.firstCells]
 rw[<- hl]
 exact run_loadCells_list w1 _ flat (fun j v hv=>by rw[dw,h1,dD hb];exact hc j v hv)
theorem pe{e:Nat}{inf:TypeInfo}{z:Value}(h1:P.info? e=some inf)(h2:inf.zero=some z):(zeroValue e).run P w=.ok z w:=by simp[zeroValue,typeInfo,h1,h2]
theorem qO{T T2 e e2:Nat} {t:TI} (hT:tD P T=some (.sl e)) (Rb:tD P T2=some (.sl e2)) (ht:ti P e=some t) (hz:∃ inf z,P.info? e=some inf/\inf.zero=some z/\z.cells.size=t.sz) (hsz:0<t.sz) (QJ:0<t.J9)
 (hs:r7 N Pb Kb A a w F) {xs ys:List V} {g o c:Nat} {s x:Value} {Fx:List Nat} {B2:Option Addr} {c2:Nat} {A9:List Value} (H5:R w Pb (.own t.sz xs g o c) [s] Fx) (s6:∀ r g,g∈Fx->g ∉ F r) (hfr:∀ g,g∈Fx->¬ Kb g/\g<w.heap.size) {Fy:List Nat} (hnd:(Fx++Fy).Nodup) (Xk:∀ r g,g∈Fy->g ∉ F r) (Uv:∀ g,g∈Fy->¬ Kb g/\g<w.heap.size)
 (L0:x=.slice B2 ys.length c2) (K9:RL w Pb ys A9 Fy) (MP:∀ w1:World,(∀ ad,w1.cell? ad=w.cell? ad)->(Builtin.firstCells t.sz ys.length x).run P w1=.ok A9.toArray w1) (hl2:A9.length=ys.length*t.sz) (hN:aC t.sz ys) (hbig:(xs.length+ys.length)*t.J9<=140737488355328):
 ∃ v w' F2 g' o' c',(Builtin.append_ #[T,T2] T #[s,x]).run P w=.ok v w'/\r7 N Pb Kb A a w' F/\R w' Pb (.own t.sz (xs++ys) g' o' c') [v] F2/\F2.Nodup/\(∀ r g,g∈F2->g ∉ F r)/\(∀ g,g∈F2->¬ Kb g/\g<w'.heap.size)/\w5 Kb w w':=by
 have hu:=gJ hT
 have M7:=gJ Rb
 obtain⟨inf,z,K4,hzero,VY⟩:=hz
 obtain⟨QV,_,E',_,P8,Qt,_⟩:=il ht
 rw[K4]at E'
 obtain rfl:=Option.some.inj E'
 obtain⟨B,flat,F',rfl,hr,NH,G6,P1,hle⟩:=ve (P:=P) H5
 subst L0
 have Od:(Builtin.lenOf (.slice B2 ys.length c2)).run P w=.ok ys.length w:=rfl
 have TX:∀ r g,g∈F r->¬ Pb g:=fun r g hg c=>(hs.free r g hg).1 (hs.sub g c)
 have UP:xs.length+ys.length<=140737488355328:=Nat.le_trans (Nat.le_mul_of_pos_right _ QJ) hbig
 unfold Builtin.append_
 simp only[List.getElem?_toArray,List.getElem?_cons_zero,List.getElem?_cons_succ,ZK,ax hu,ZS]
 simp only[cq ht,ZS]
 simp only[ax M7,ZS,ZJ]
 rw[if_neg (show ¬ (false=true) by decide)]
 rw[ZK,Od]
 simp only[ZS]
 by_cases Ob:xs.length+ys.length<=c
 ·
  rw[if_pos Ob]
  simp only[ZK,Bool.not_false,if_true,MP w (fun _=>rfl),ZS]
  by_cases hc:c=0
  obtain⟨rfl,rfl,rfl,rfl⟩:=P1 hc
  have E5:ys=[]:=ZF Z9
  subst E5
  have Oh:A9=[]:=ZF (by simpa using hl2)
  subst Oh
  refine⟨.slice B 0 c,w,[],g,o,0,?_,hs,.inl ⟨rfl,rfl,rfl,B,by rw[hc]⟩,ZA,Z8,Z8,w5.refl _ _⟩
  cases B with
  | none=>simp
  | some ad=>simp[storeCells]
  obtain⟨rfl,Tj,_,rfl,hl1⟩:=G6 Z9
  rcases H5 with ⟨h0,_⟩ | ⟨_,_,_,_,_,Ti,LV,Mg,cells,TY,D4,hb,SW,r6⟩
  exact absurd h0 hc
  simp only[List.cons.injEq,true_and]at TY
  subst TY
  have hle':o+xs.length*t.sz+A9.length<=cells.size:=by
   rw[hl2]
   have:(xs.length+ys.length)*t.sz<=c*t.sz:=Nat.mul_le_mul_right _ Ob
   rw[Nat.add_mul]at this;omega
  obtain⟨w',x4,J6⟩:=fI (P:=P) (g:=g) (o:=o+xs.length*t.sz) A9 0 w cells hb Z9 (pt _ K9)
  have hg:=hfr g Z8
  have x5:r7 N Pb Kb A a w' F:=hs.Mu (fun r=>s6 r g Z8) hg.1 J6.Mu J6.size
  have Vt:∀ k,Pb k->w'.heap[k]? =w.heap[k]? :=fun k hk=>J6.Mu k (by rintro rfl;exact Ti hk)
  have XH:g ∉ F'++Fy:=(List.nodup_cons.1 hnd).1
  have O4:g ∉ F':=fun c=>XH (by simp[c])
  have hgY:g ∉ Fy:=fun c=>XH (by simp[c])
  have hkF:∀ k,k∈F'->w'.heap[k]? =w.heap[k]? :=fun k hk=>J6.Mu k (by rintro rfl;exact O4 hk)
  obtain⟨m9,I',J1,MM,Qf⟩:=J6.Nd cells hb
  have P':=dK (w':=w') (Pb':=Pb) xs hr Vt hkF (fun _ h=>h) (fun k hk c=>(hfr k (by simp[hk])).1 (hs.sub k c))
  have P9:=dK (w':=w') (Pb':=Pb) ys K9 Vt (fun k hk=>J6.Mu k (by rintro rfl;exact hgY hk)) (fun _ h=>h) (fun k hk c=>(Uv k hk).1 (hs.sub k c))
  have Qm:LV=flat\/True:=.inr trivial
  have XG:∀ k,k∈g::(F'++Fy)->(¬ Kb k/\k<w.heap.size)/\∀ r,k ∉ F r:=fun k hk=>by
   rcases ZN.1 (show k∈(g::F')++Fy from hk) with h | h
   exact⟨hfr k h,fun r=>s6 r k h⟩
   exact⟨Uv k h,fun r=>Xk r k h⟩
  refine⟨.slice (some ⟨g,o,none⟩) (xs.length+ys.length) c,w',g::(F'++Fy),g,o,c,?_,x5,.inr ⟨Z9,hsz,Z0,Z8,?_,Ti,flat++A9,F'++Fy,m9,rfl,gZ xs ys P' P9,I',Z9,?_⟩,hnd,fun r k hk=>(XG k hk).2 r,fun k hk=>by rw[J6.size];exact(XG k hk).1,⟨J6.os,J6.tape,J6.output,by rw[J6.size];omega,fun k hk=>J6.Mu k (by rintro rfl;exact hg.1 hk),J6.shape⟩⟩
  have e1:(Array.toList A9.toArray)=A9:=Z8
  simp only[dw,ZK]
  rw[x4]
  simp only[ZS,ZJ]
  intro v hv
  rcases ZN.1 hv with h | h
  exact Tj v h
  exact hN v h
  intro j u hu
  by_cases hj:j<flat.length
  rw[ZB hj]at hu
  rw[MM _ Z9]
  have h1:(loadCells ⟨g,o,none⟩ LV.length).run P w=.ok LV.toArray w:=run_loadCells_list w _ LV (fun j v hv=>by rw[dw,dD hb];exact r6 j v hv)
  have Wx:LV.length=xs.length*t.sz:=by rw[gX _ D4,np xs Tj]
  have h2:=NH w (fun _=>rfl)
  simp only[Builtin.firstCells]at h2
  rw[<- Wx,h1]at h2
  simp only[Result.ok.injEq,and_true]at h2
  have:LV=flat:=by have:=Zo Array.toList h2;simpa using this
  subst this
  exact r6 j u hu
  rw[ZG Z9]at hu
  have:=Qf _ u hu
  rw[<- this];congr 1;omega
 ·
  rw[if_neg Ob]
  have hlt:c<xs.length+ys.length:=Z9
  have Wq:IntKind.i64.max=9223372036854775807:=Z6
  have Q3: ¬ (((xs.length+ys.length:Nat):Int)>IntKind.i64.max/\((false=true)\/inf.bytes=0)):=by
   rw[Wq];rintro⟨h1,_⟩;omega
  have hcap: ¬ Builtin.nextslicecap (xs.length+ys.length) c*inf.bytes>281474976710656:=by
   have:=growslice_fits (bytes:=t.J9) hlt hbig
   rw[Qt];omega
  have TF:∀ w,(typeInfo e).run P w=.ok inf w:=fun w=>by simp[typeInfo,K4]
  obtain⟨nc,TN,U4⟩:∃ nc,xs.length+ys.length<=nc/\(choose (.appendCap (xs.length+ys.length) c e)).run P w=.ok nc { w with drawn:=w.drawn+1 }:=by
   exact⟨(Question.appendCap (xs.length+ys.length) c e).cut (w.tape w.drawn (Question.appendCap (xs.length+ys.length) c e)),by simp only[Question.cut];exact Nat.le_add_right _ _,by rw[run_choose,if_neg (by simp[Question.forced])]⟩
  obtain⟨w1,NC⟩:∃ w1:World,w1={ w with drawn:=w.drawn+1 }:=⟨_,rfl⟩
  rw[<- NC]at U4
  have G7:w1.heap=w.heap:=by rw[NC]
  have ME:∀ ad,w1.cell? ad=w.cell? ad:=fun ad=>by rw[NC];rfl
  have U2:=NH w1 ME
  have Oh:=MP w1 ME
  have VX:=fun w=>pe (w:=w) K4 hzero
  obtain⟨cells,hcells⟩:∃ cells:Array Value,cells=flat.toArray++A9.toArray++Builtin.zeroCells z.cells (nc-(xs.length+ys.length)):=⟨_,rfl⟩
  have Ww:flat.length=xs.length*t.sz:=by
   by_cases hc:c=0
   obtain⟨rfl,_,_,rfl⟩:=P1 hc;simp
   exact(G6 Z9).2.2.2.2
  have Q8:cells.size=nc*t.sz:=by
   rw[hcells]
   simp only[Array.size_append,List.size_toArray,Builtin.zeroCells,Array.size_map,Array.size_range,VY,Ww,hl2]
   rw[<- Nat.add_mul,<- Nat.add_mul];congr 1;omega
  have WI:r7 N Pb Kb A a w1 F:=hs.grow (fun k _=>by rw[G7]) (by rw[G7];exact Zy _) (fun _ h=>h) (fun g h=>.inl h) hs.sub
  have Rd:∀ k,k∈F'->k∈Fx:=fun k hk=>by
   by_cases hc:c=0
   rw[(P1 hc).2.2.1]at hk;simp at hk
   rw[(G6 Z9).2.2.2.1];simp[hk]
  have hFn:(F'++Fy).Nodup:=by
   by_cases hc:c=0
   rw[(P1 hc).2.2.1];exact(List.nodup_append.1 hnd).2.1
   have:=hnd;rw[(G6 Z9).2.2.2.1]at this;exact(List.nodup_cons.1 this).2
  have Tj:aC t.sz xs:=by
   by_cases hc:c=0
   rw[(P1 hc).1];intro v hv;simp at hv
   exact(G6 Z9).2.1
  have hold:∀ k,k<w.heap.size->(w1.alloc (.cells cells e)).heap[k]? =w.heap[k]? :=fun k hk=>by
   rw[alloc_old w1 _ k (by rw[G7];exact hk),G7]
  have P7:(w1.alloc (.cells cells e)).heap.size=w.heap.size+1:=by rw[dh,G7]
  have NF:w.heap.size=w1.heap.size:=by rw[G7]
  have P':=dK (w':=w1.alloc (.cells cells e)) (Pb':=Pb) xs hr (fun k hk=>hold k (hs.bound k (hs.sub k hk))) (fun k hk=>hold k (hfr k (Rd k hk)).2) (fun _ h=>h) (fun k hk cc=>(hfr k (Rd k hk)).1 (hs.sub k cc))
  have P9:=dK (w':=w1.alloc (.cells cells e)) (Pb':=Pb) ys K9 (fun k hk=>hold k (hs.bound k (hs.sub k hk))) (fun k hk=>hold k (Uv k hk).2) (fun _ h=>h) (fun k hk cc=>(Uv k hk).1 (hs.sub k cc))
  have Tm:∀ k,k∈F'++Fy->(¬ Kb k/\k<w.heap.size)/\∀ r,k ∉ F r:=fun k hk=>by
   rcases ZN.1 hk with h | h
   exact⟨hfr k (Rd k h),fun r=>s6 r k (Rd k h)⟩
   exact⟨Uv k h,fun r=>Xk r k h⟩
  have Ol: ¬ Kb w.heap.size:=fun cc=>by have:=hs.bound _ cc;omega
  refine⟨.slice (some ⟨w.heap.size,0,none⟩) (xs.length+ys.length) nc,w1.alloc (.cells cells e),w.heap.size::(F'++Fy),w.heap.size,0,nc,?_,WI.mA _,.inr ⟨Z9,hsz,by simpa using TN,Z8,?_,fun cc=>Ol (hs.sub _ cc),flat++A9,F'++Fy,cells,rfl,
   gZ xs ys P' P9,⟨e,(0,0),by rw[NF];exact ft w1 _,fun i _ h=>by omega⟩,by rw[Q8];omega,fun j u hu=>?_⟩,?_,?_,?_,⟨?_,?_,?_,by rw[P7];omega,fun k hk=>hold k (hs.bound k hk),Shp.of_eq hold⟩⟩
  simp only[Sem.run_ite,ZK,TF,ZS,if_neg Q3,if_neg hcap,ZJ,U4,U2,Oh,Bool.not_false,if_true,run_askRoom,VX,iy]
  rw[hcells,NF]
  intro v hv
  rcases ZN.1 hv with h | h
  exact Tj v h
  exact hN v h
  rw[hcells,ZO]
  have hj:=(ZH.1 hu).1
  rw[Array.getElem?_append_left (by simpa using hj)]
  simpa using hu
  refine List.nodup_cons.2 ⟨fun cc=>?_,hFn⟩
  have:=(Tm _ cc).1.2;omega
  intro r k hk cc
  rcases List.mem_cons.1 hk with rfl | h
  have:=(hs.free r _ cc).2;omega
  exact(Tm k h).2 r cc
  intro k hk
  rw[P7]
  rcases List.mem_cons.1 hk with rfl | h
  exact⟨Ol,Z9⟩
  have:=(Tm k h).1;exact⟨this.1,Z9⟩
  rw[NC];rfl
  rw[NC];rfl
  rw[NC];rfl
theorem yC{T T2 e e2:Nat} {t:TI} (hT:tD P T=some (.sl e)) (Rb:tD P T2=some (.sl e2)) (ht:ti P e=some t) (hz:∃ inf z,P.info? e=some inf/\inf.zero=some z/\z.cells.size=t.sz) (hsz:0<t.sz) (QJ:0<t.J9)
 (hs:r7 N Pb Kb A a w F) {xs ys:List V} {s x:Value} {B2:Option Addr} {c2:Nat} {A9:List Value} (H5:R w Pb (.sl true xs) [s] []) (Tj:aC t.sz xs) (E5:0<ys.length)
 (L0:x=.slice B2 ys.length c2) (K9:RL w Pb ys A9 []) (MP:∀ w1:World,(∀ ad,w1.cell? ad=w.cell? ad)->(Builtin.firstCells t.sz ys.length x).run P w1=.ok A9.toArray w1) (hl2:A9.length=ys.length*t.sz) (hN:aC t.sz ys) (hbig:(xs.length+ys.length)*t.J9<=140737488355328):
 ∃ v w' F2 g' o' c',(Builtin.append_ #[T,T2] T #[s,x]).run P w=.ok v w'/\r7 N Pb Kb A a w' F/\R w' Pb (.own t.sz (xs++ys) g' o' c') [v] F2/\F2.Nodup/\(∀ r g,g∈F2->g ∉ F r)/\(∀ g,g∈F2->¬ Kb g/\g<w'.heap.size)/\w5 Kb w w':=by
 have hu:=gJ hT
 have M7:=gJ Rb
 obtain⟨inf,z,K4,hzero,VY⟩:=hz
 obtain⟨QV,_,E',_,P8,Qt,_⟩:=il ht
 rw[K4]at E'
 obtain rfl:=Option.some.inj E'
 obtain⟨B,c,flat,rfl,hr,NH,Ww⟩:=wX (P:=P) H5 Tj
 have hcx:c=xs.length:=by
  obtain⟨_,A0,c0,h1,_,h2,_⟩:=H5
  have h1:=(List.cons.inj h1).1
  simp only[Value.slice.injEq]at h1
  rw[h1.2.2];exact h2 rfl
 subst L0
 have Od:(Builtin.lenOf (.slice B2 ys.length c2)).run P w=.ok ys.length w:=rfl
 have UP:xs.length+ys.length<=140737488355328:=Nat.le_trans (Nat.le_mul_of_pos_right _ QJ) hbig
 unfold Builtin.append_
 simp only[List.getElem?_toArray,List.getElem?_cons_zero,List.getElem?_cons_succ,ZK,ax hu,ZS]
 simp only[cq ht,ZS]
 simp only[ax M7,ZS,ZJ]
 rw[if_neg (show ¬ (false=true) by decide)]
 rw[ZK,Od]
 simp only[ZS]
 have Ob: ¬ (xs.length+ys.length<=c):=Z9
 rw[if_neg Ob]
 have hlt:c<xs.length+ys.length:=Z9
 have Wq:IntKind.i64.max=9223372036854775807:=Z6
 have Q3: ¬ (((xs.length+ys.length:Nat):Int)>IntKind.i64.max/\((false=true)\/inf.bytes=0)):=by
  rw[Wq];rintro⟨h1,_⟩;omega
 have hcap: ¬ Builtin.nextslicecap (xs.length+ys.length) c*inf.bytes>281474976710656:=by
  have:=growslice_fits (bytes:=t.J9) hlt hbig
  rw[Qt];omega
 have TF:∀ w,(typeInfo e).run P w=.ok inf w:=fun w=>by simp[typeInfo,K4]
 obtain⟨nc,TN,U4⟩:∃ nc,xs.length+ys.length<=nc/\(choose (.appendCap (xs.length+ys.length) c e)).run P w=.ok nc { w with drawn:=w.drawn+1 }:=by
  exact⟨(Question.appendCap (xs.length+ys.length) c e).cut (w.tape w.drawn (Question.appendCap (xs.length+ys.length) c e)),by simp only[Question.cut];exact Nat.le_add_right _ _,by rw[run_choose,if_neg (by simp[Question.forced])]⟩
 obtain⟨w1,NC⟩:∃ w1:World,w1={ w with drawn:=w.drawn+1 }:=⟨_,rfl⟩
 rw[<- NC]at U4
 have G7:w1.heap=w.heap:=by rw[NC]
 have ME:∀ ad,w1.cell? ad=w.cell? ad:=fun ad=>by rw[NC];rfl
 have U2:=NH w1 ME
 have Oh:=MP w1 ME
 have VX:=fun w=>pe (w:=w) K4 hzero
 obtain⟨cells,hcells⟩:∃ cells:Array Value,cells=flat.toArray++A9.toArray++Builtin.zeroCells z.cells (nc-(xs.length+ys.length)):=⟨_,rfl⟩
 have Q8:cells.size=nc*t.sz:=by
  rw[hcells]
  simp only[Array.size_append,List.size_toArray,Builtin.zeroCells,Array.size_map,Array.size_range,VY,Ww,hl2]
  rw[<- Nat.add_mul,<- Nat.add_mul];congr 1;omega
 have WI:r7 N Pb Kb A a w1 F:=hs.grow (fun k _=>by rw[G7]) (by rw[G7];exact Zy _) (fun _ h=>h) (fun g h=>.inl h) hs.sub
 have hold:∀ k,k<w.heap.size->(w1.alloc (.cells cells e)).heap[k]? =w.heap[k]? :=fun k hk=>by
  rw[alloc_old w1 _ k (by rw[G7];exact hk),G7]
 have P7:(w1.alloc (.cells cells e)).heap.size=w.heap.size+1:=by rw[dh,G7]
 have NF:w.heap.size=w1.heap.size:=by rw[G7]
 have P':=dK (w':=w1.alloc (.cells cells e)) (Pb':=Pb) xs hr (fun k hk=>hold k (hs.bound k (hs.sub k hk))) Z8 (fun _ h=>h) Z8
 have P9:=dK (w':=w1.alloc (.cells cells e)) (Pb':=Pb) ys K9 (fun k hk=>hold k (hs.bound k (hs.sub k hk))) Z8 (fun _ h=>h) Z8
 have Ol: ¬ Kb w.heap.size:=fun cc=>by have:=hs.bound _ cc;omega
 refine⟨.slice (some ⟨w.heap.size,0,none⟩) (xs.length+ys.length) nc,w1.alloc (.cells cells e),[w.heap.size],w.heap.size,0,nc,?_,WI.mA _,.inr ⟨Z9,hsz,by simpa using TN,Z8,?_,fun cc=>Ol (hs.sub _ cc),flat++A9,[],cells,rfl,
  gZ xs ys P' P9,⟨e,(0,0),by rw[NF];exact ft w1 _,fun i _ h=>by omega⟩,by rw[Q8];omega,fun j u hu=>?_⟩,?_,?_,?_,⟨?_,?_,?_,by rw[P7];omega,fun k hk=>hold k (hs.bound k hk),Shp.of_eq hold⟩⟩
 simp only[Sem.run_ite,ZK,TF,ZS,if_neg Q3,if_neg hcap,ZJ,U4,U2,Oh,Bool.not_false,if_true,run_askRoom,VX,iy]
 rw[hcells,NF]
 intro v hv
 rcases ZN.1 hv with h | h
 exact Tj v h
 exact hN v h
 rw[hcells,ZO]
 have hj:=(ZH.1 hu).1
 rw[Array.getElem?_append_left (by simpa using hj)]
 simpa using hu
 simp
 intro r k hk cc
 obtain rfl:=ZP.1 hk
 have:=(hs.free r _ cc).2;omega
 intro k hk
 rw[P7]
 obtain rfl:=ZP.1 hk
 exact⟨Ol,Z9⟩
 rw[NC];rfl
 rw[NC];rfl
 rw[NC];rfl
def jA(lo n:Nat)(sz g o:Nat):V->Option (Prop×List V)
 | .own Mj xs g2 o2 _=>some ((sz=Mj/\g=g2/\o=o2)/\lo+n<=xs.length/\V.ay xs=false/\aC Mj xs,(xs.drop lo).take n)
 | _=>none
def Nw(A:AS)(x:Operand):Option (Prop×List V):=
 match A.ev x with
 | .sl _ xs=>some (True,xs)
 | .own _ xs _ _ _=>some (True,xs)
 | .hd r p sz g o lo n _=>match r,p with
   | .slot i,[]=>jA lo n sz g o (A.get i)
   | .key k,p=>match A.at (.key k) p with
     | some (_,_,u)=>jA lo n sz g o u
     | none=>none
   | _,_=>none
 | _=>none
theorem oc:∀ (xs:List V) (k:Nat),V.ay xs=false->V.ay (xs.drop k)=false
 | xs,0,h=>h
 | [],k+1,h=>by simpa using h
 | v::vs,k+1,h=>by
   simp only[V.ay,Bool.or_eq_false_iff]at h
   exact oc vs k h.2
theorem Fk{Fo:List Nat}{Mj g2 o2 c2 lo n c:Nat}{xs:List V}{Rh:List Value}(hr:R w Pb (.own Mj xs g2 o2 c2) Rh Fo)(hle:n<=c){B:Option Addr}(hB:0<c->B=some ⟨g2,o2+lo*Mj,none⟩)(hn:lo+n<=xs.length)(ho:V.ay xs=false){s:Nat}(hs:aC s ((xs.drop lo).take n)):
 ∃ (flat:List Value),RL w Pb ((xs.drop lo).take n) flat []/\(∀ w1:World,(∀ ad,w1.cell? ad=w.cell? ad)->(Builtin.firstCells s n (.slice B n c)).run P w1=.ok flat.toArray w1)/\flat.length=n*s:=by
 by_cases Wp:n=0
 subst Wp
 refine⟨[],by simp[RL],fun w1 _=>?_,Z8⟩
 cases B with
 | none=>rfl
 | some ad=>simp only[Builtin.firstCells,Nat.zero_mul];rfl
 rcases hr with ⟨_,rfl,_⟩ | ⟨h1,h2,h3,hx,hN,_,flat,F',cells,_,hr,hb,hsz,hc⟩
 simp at hn;omega
 have hF:=fc xs ho hr
 subst hF
 have J1:s=Mj:=by
  have hne:(xs.drop lo).take n≠[]:=by
   intro e
   have:=Zo List.length e
   simp at this;omega
  obtain⟨v,hv⟩:=List.exists_mem_of_ne_nil _ hne
  rw[<- hs v hv,<- hN v (List.mem_of_mem_drop (List.mem_of_mem_take hv))]
 subst J1
 obtain⟨c1,OJ,ME⟩:=nu xs lo hr
 obtain⟨c3,TL,U5⟩:=nr _ n OJ
 have hl:c3.length=n*s:=by
  rw[gX _ TL,np _ (fun x hx=>hN x (List.mem_of_mem_drop (List.mem_of_mem_take hx)))]
  have:((xs.drop lo).take n).length=n:=Z0
  rw[this]
 refine⟨c3,TL,fun w1 NC=>?_,hl⟩
 have WY:=hB Z9
 subst WY
 simp only[Builtin.firstCells]
 rw[<- hl]
 refine run_loadCells_list w1 _ c3 (fun j v hv=>?_)
 rw[dw,NC,dD hb]
 have:=ME j v (U5 j v hv)
 rw[dC xs lo hN Z9]at this
 have:=hc _ _ this
 simpa[Zr] using this
theorem lE(hs:r7 N Pb Kb A a w F){x:Operand}{C:Prop}{ys:List V}(h:Nw A x=some (C,ys))(hC:C){s:Nat}(H8:aC s ys)(ho:V.ay ys=false):
 ∃ (B:Option Addr) (c:Nat) (flat:List Value),a.eval x=.slice B ys.length c/\RL w Pb ys flat []/\
   (∀ w1:World,(∀ ad,w1.cell? ad=w.cell? ad)->(Builtin.firstCells s ys.length (a.eval x)).run P w1=.ok flat.toArray w1)/\flat.length=ys.length*s:=by
 obtain⟨Fx,hr⟩:=dr hs x
 unfold Nw at h
 split at h
 rename_i full xs e
 simp only[ZY,ZV]at h
 obtain⟨_,rfl⟩:=h
 rw[e]at hr
 have hr:R w Pb (.sl full xs) [a.eval x] Fx:=hr
 have hF:Fx=[]:=hr.1
 subst hF
 obtain⟨B,c,flat,h1,h2,h3,h4⟩:=wX (P:=P) hr H8
 exact⟨B,c,flat,h1,h2,h3,h4⟩
 rename_i sz xs g o c e
 simp only[ZY,ZV]at h
 obtain⟨_,rfl⟩:=h
 rw[e]at hr
 have hr:R w Pb (.own sz xs g o c) [a.eval x] Fx:=hr
 have S0:=hr
 obtain⟨B,flat,F',h1,h2,h3,h4,h5,h6⟩:=ve (P:=P) hr
 have hF:=fc xs ho h2
 subst hF
 by_cases hc:0<c
 obtain⟨_,O5,_,_,hl⟩:=h4 hc
 by_cases he:xs=[]
 subst he
 exact⟨B,c,flat,h1,h2,fun w1 NC=>by
  have:=h3 w1 NC
  simpa[Builtin.firstCells,h1] using this,by simpa using hl⟩
 obtain⟨v,vs,rfl⟩:=List.exists_cons_of_ne_nil he
 have J1:s=sz:=by rw[<- H8 v Z8,<- O5 v Z8]
 subst J1
 exact⟨B,c,flat,h1,h2,h3,hl⟩
 obtain⟨rfl,_,_,rfl⟩:=h5 Z9
 exact⟨B,c,[],h1,h2,fun w1 NC=>by
  have:=h3 w1 NC
  simpa[Builtin.firstCells,h1] using this,Z8⟩
 rename_i r p sz g o lo n c e
 rw[e]at hr
 obtain⟨_,hle,B,hv,hB⟩:=hr
 have hv:a.eval x=.slice B n c:=(List.cons.inj hv).1
 have key:∀ u Fo Rh,R w Pb u Rh Fo->jA lo n sz g o u=some (C,ys)->∃ (B:Option Addr) (c:Nat) (flat:List Value),a.eval x=.slice B ys.length c/\RL w Pb ys flat []/\
  (∀ w1:World,(∀ ad,w1.cell? ad=w.cell? ad)->(Builtin.firstCells s ys.length (a.eval x)).run P w1=.ok flat.toArray w1)/\flat.length=ys.length*s:=by
  intro u Fo Rh J' hu
  unfold jA at hu
  split at hu
  rename_i Mj xs g2 o2 c2
  simp only[ZY,ZV]at hu
  obtain⟨rfl,rfl⟩:=hu
  obtain⟨⟨rfl,rfl,rfl⟩,Wv,R5,_⟩:=hC
  obtain⟨flat,k1,k2,k3⟩:=Fk (P:=P) J' hle hB Wv R5 H8
  have hlen:((xs.drop lo).take n).length=n:=Z0
  rw[hlen]
  exact⟨B,c,flat,hv,k1,by rw[hv];exact k2,k3⟩
  simp at hu
 split at h
 rename_i i
 have M8:=hs.slot i
 unfold jA at h
 split at h
 rename_i Mj xs g2 o2 c2 hg
 rw[hg]at M8
 exact key (.own Mj xs g2 o2 c2) _ _ M8 (by unfold jA;exact h)
 simp at h
 rename_i k p'
 split at h
 rename_i a0 b0 u w8
 obtain⟨F',cs,cells,hb,J',r6⟩:=iz hs w8
 exact key u F' cs J' h
 simp at h
 simp at h
 simp at h
theorem nX{t:Nat}{sz:Nat}{xs:List V}{g o c:Nat}(h:A.get t=.own sz xs g o c):A.drop (.tmp t)=A.put (some t) .b7:=by simp[AS.drop,h,V.cB]
end
def B8(A B:AS):Prop:=(∀ i,A.get i=B.get i)/\∀ k,lk k A.h=lk k B.h
theorem B8.le{A B:AS}(h:B8 A B):A.le B:=⟨fun i=>.inr (h.1 i),fun k=>.inr (h.2 k)⟩
theorem B8.symm{A B:AS}(h:B8 A B):B8 B A:=⟨fun i=>(h.1 i).symm,fun k=>(h.2 k).symm⟩
theorem B8.trans{A B C:AS}(h:B8 A B)(k:B8 B C):B8 A C:=⟨fun i=>(h.1 i).trans (k.1 i),fun i=>(h.2 i).trans (k.2 i)⟩
def Qw(o:Oper):List Nat:=(o.after.toList.filter (Region.binds .any)).map (·.on)
section
variable {P:Program} {N:Nat} {ops:Array Oper}
theorem Dl{α:Type}(t:Nat):∀ (l1 l2:List (Nat×α)),lk t (l1++l2)=match lk t l1 with | some v=>some v | none=>lk t l2
 | [],l2=>rfl
 | (k,v)::l1,l2=>by
   simp only[List.cons_append,lk]
   by_cases h:t=k
   rw[if_pos h,if_pos h]
   rw[if_neg h,if_neg h];exact Dl t l1 l2
def wt(ops:Array Oper)(t k:Nat):Bool:=(ops[k]?).bind (·.dst)==some t
def QD(listed:Array Bool)(n:Nat):Nat:=((List.range n).filter fun i=>!listed.getD i true).length
theorem Eh{listed:Array Bool}{n:Nat}(h:QD listed n=0):∀ j,j<n->listed.getD j true=true:=by
 intro j hj
 unfold QD at h
 have:=ZF h
 rw[List.filter_eq_nil_iff]at this
 simpa using this j (by simpa using hj)
theorem GS{listed:Array Bool}{n i:Nat}(hi:i<n)(hs:listed.size=n)(hu:listed.getD i true=false):QD (listed.setIfInBounds i true) n+1=QD listed n:=by
 unfold QD
 have h:∀ m,m<=n->((List.range m).filter fun j=>!(listed.setIfInBounds i true).getD j true).length+(if i<m then 1 else 0)=((List.range m).filter fun j=>!listed.getD j true).length:=by
  intro m
  induction m with
  | zero=>simp
  | succ m ih=>
    intro hm
    have ih:=ih Z9
    rw[List.range_succ,List.filter_append,List.filter_append,ZW,ZW]
    by_cases he:m=i
    subst he
    have e1:(listed.setIfInBounds m true).getD m true=true:=by simp[Array.getD]
    rw[if_neg Z9]at ih
    rw[List.filter_cons_of_neg (by rw[e1];decide),List.filter_cons_of_pos (by rw[hu];rfl),if_pos Z9]
    simp only[List.filter_nil,ZU,ZQ];omega
    have e1:(listed.setIfInBounds i true).getD m true=listed.getD m true:=getD_set_ne true (Ne.symm he)
    have e2:([m].filter fun j=>!(listed.setIfInBounds i true).getD j true).length=([m].filter fun j=>!listed.getD j true).length:=by
     cases hb:listed.getD m true with
     | true=>rw[List.filter_cons_of_neg (by rw[e1,hb];decide),List.filter_cons_of_neg (by rw[hb];decide)];rfl
     | false=>rw[List.filter_cons_of_pos (by rw[e1,hb];rfl),List.filter_cons_of_pos (by rw[hb];rfl)];rfl
    rw[e2]
    by_cases hlt:i<m
    rw[if_pos hlt]at ih;rw[if_pos Z9];omega
    rw[if_neg hlt]at ih;rw[if_neg Z9];omega
 have:=h n (Zy _)
 rw[if_pos hi]at this
 exact this
end
def KX(P:Program)(N:Nat)(ops:Array Oper)(El:List Nat)(U:Nat×Nat×Nat->AS->AS)(o:Oper)(A:AS):Prop:=
 ∀ A':AS,(∀ t,t∈o.looksAt ops\/t∈El->A'.get t=A.get t)->(∀ k,lk k A'.h=lk k A.h)->∀ K:AS->Prop,(∀ gh,K (U gh A'))->D3 P N o A' K
def gG(ops:Array Oper):Nat->Nat->Nat->Bool
 | 0,_,_=>false
 | n+1,j,i=>match ops[j]? with
   | some o=>(Qw o).any fun k=>k==i||gG ops n k i
   | none=>false
theorem jn{ops:Array Oper}{L:Nat->Bool}(hcl:∀ k o,ops[k]? =some o->L k=true->∀ j,j∈Qw o->L j=true):∀ (n j i:Nat),gG ops n j i=true->L j=true->L i=true
 | 0,_,_,h,_=>by simp[gG]at h
 | n+1,j,i,h,hj=>by
   simp only[gG]at h
   split at h
   rename_i o ho
   rw[List.any_eq_true]at h
   obtain⟨k,hk,h⟩:=h
   have K3:=hcl j o ho hj k hk
   rw[Bool.or_eq_true,Zp]at h
   rcases h with rfl | h
   exact K3
   exact jn hcl n k i h K3
   simp at h
structure UOk (U:Nat×Nat×Nat->AS->AS) (Sl Hl:List Nat) (d:Nat):Prop where
 g:∀ gh B t,t ∉ Sl->(U gh B).get t=B.get t
 h:∀ gh B k,k ∉ Hl->lk k (U gh B).h=lk k B.h
 c:∀ gh B B',B8 B B'->B8 (U gh B) (U gh B')
 p:∀ gh B t v,t ∉ Sl->B8 (U gh (B.put (some t) v)) ((U gh B).put (some t) v)
 d:∀ gh B v,B8 (U gh (B.put (some d) v)) (U gh B)
 q:∀ gh B k gv,k ∉ Hl->B8 (U gh ⟨B.t,(k,gv)::B.h⟩) ⟨(U gh B).t,(k,gv)::(U gh B).h⟩
section
variable {P:Program} {N:Nat} {ops:Array Oper}
end
structure OO where
 Va:Bool
 El:List Nat
 fr:Option (List Nat)
 Sl:List Nat
 Hl:List Nat
structure ZT (P:Program) where
 T:Nat
 v:V
 ok:lU P T v
def NL(d:Nat)(v:V)(g:Nat)(B:AS):AS:=⟨(d,.ptr (.key d) [] g 0)::B.t,(d,(g,v))::B.h⟩
def ba(ops:Array Oper)(tb:List (Nat×OO))(i:Nat):OO:=match lk i tb with
 | some e=>e
 | none=>match ops[i]? with
   | some o=>⟨false,[],(match o.op with | .load _ _=>none | _=>some []),o.dst.toList,[]⟩
   | none=>⟨false,[],none,[],[]⟩
def fb(ops:Array Oper)(tb:List (Nat×OO))(i:Nat):List Nat:=(match ops[i]? with | some o=>o.looksAt ops | none=>[])++(ba ops tb i).El
def Uf(A' A:AS)(fs:List Nat):Prop:= ∀ t,t∈fs->A'.get t=A.get t
def hM:Nat:=1000000
def LY(h:List (Nat×(Nat×V)))(q:Nat):Option (Nat×Nat×V×Nat):=match lk (q / 100) h with
 | some (g,v)=>match V.at g 0 v [q % 100] with
   | some (g',o',.own sz xs g1 o1 c)=>some (g',o',.own sz [] g1 o1 c,xs.length)
   | _=>none
 | none=>none
theorem xa{h h':List (Nat×(Nat×V))}{q:Nat}(e:lk (q / 100) h'=lk (q / 100) h):LY h' q=LY h q:=by unfold LY;rw[e]
def O7(A' A:AS)(k:Nat):Prop:=if Nat.blt k hM=true then lk k A'.h=lk k A.h else LY A'.h (k-hM)=LY A.h (k-hM)
theorem tt{A' A:AS}(h:∀ k,lk k A'.h=lk k A.h)(k:Nat):O7 A' A k:=by
 unfold O7
 split
 exact h k
 exact xa (h _)
theorem O7.trans{A B C:AS}{k:Nat}(h1:O7 A B k)(h2:O7 B C k):O7 A C k:=by
 unfold O7 at *
 split
 rename_i c;rw[if_pos c]at h1 h2;exact Eq.trans h1 h2
 rename_i c;rw[if_neg c]at h1 h2;exact Eq.trans h1 h2
def Rj(A' A:AS):Option (List Nat)->Prop
 | none=> ∀ k,lk k A'.h=lk k A.h
 | some fr=> ∀ k,k∈fr->O7 A' A k
def Rl(P:Program)(N:Nat)(ops:Array Oper)(o:Oper)(A:AS)(v:V)(fs:List Nat)(fr:Option (List Nat)):Prop:=
 ∀ A':AS,Uf A' A fs->Rj A' A fr->gd ops o A' (D3 P N o A' (fun B=>B8 B (A'.put o.dst v))) (bX N o.dst/\∀ w Pb,RV w Pb v undef [])
def Ug(P:Program)(N:Nat)(o:Oper)(A:AS){G:Type}(U:G->AS->AS)(fs:List Nat)(fr:Option (List Nat)):Prop:=
 o.guard=none/\∀ A':AS,Uf A' A fs->Rj A' A fr->D3 P N o A' (fun B=> ∃ g,B8 B (U g A'))
structure Qz {G:Type} (U:G->AS->AS) (fs Sl Hl:List Nat):Prop where
 g:∀ g B t,t ∉ Sl->(U g B).get t=B.get t
 h:∀ g B k,k ∉ Hl->lk k (U g B).h=lk k B.h
 c:∀ g B B',B8 B B'->B8 (U g B) (U g B')
 p:∀ g B t v,t ∉ Sl->t ∉ fs->B8 (U g (B.put (some t) v)) ((U g B).put (some t) v)
 q:∀ g B k gv,k ∉ Hl->B8 (U g ⟨B.t,(k,gv)::B.h⟩) ⟨(U g B).t,(k,gv)::(U g B).h⟩
structure Tq {G:Type} (U:G->AS->AS) (fs Sl Hl:List Nat):Prop extends Qz U fs Sl Hl where
 s:∀ q,hM+q∈Hl->∀ g B,LY (U g B).h q=LY B.h q
def Mh(P:Program)(N:Nat)(ops:Array Oper)(tb:List (Nat×OO))(zs:List (Nat×ZT P)):List Nat->AS->(AS->Prop)->Prop
 | [],A,K=>K A
 | i::l,A,K=> ∃ o,ops[i]? =some o/\match lk i zs with
  | some z=> ∀ g,Mh P N ops tb zs l (NL (o.dst.getD 0) z.v g A) K
  | none=>match (ba ops tb i).Va with
   | false=>(ba ops tb i).Sl=o.dst.toList/\(ba ops tb i).Hl=[]/\∃ v,Rl P N ops o A v (fb ops tb i) (ba ops tb i).fr/\Mh P N ops tb zs l (A.put o.dst v) K
   | true=> ∃ (G:Type) (U:G->AS->AS),Ug P N o A U (fb ops tb i) (ba ops tb i).fr/\Tq U (fb ops tb i) (ba ops tb i).Sl (ba ops tb i).Hl/\∀ g,Mh P N ops tb zs l (U g A) K
def bP(a b:List Nat):Bool:=a.all fun x=>!b.contains x
def Bw(a:List Nat):Option (List Nat)->Bool
 | none=>a.isEmpty
 | some b=>b.all fun x=>if Nat.blt x hM=true then !a.contains x else !a.contains ((x-hM) / 100)||a.contains x
def indep(ops:Array Oper)(tb:List (Nat×OO)){P:Program}(zs:List (Nat×ZT P))(p i:Nat):Bool:=
 (lk i zs).isNone&&!(ba ops tb p).Va&&bP (ba ops tb p).Sl (fb ops tb i)&&bP (ba ops tb i).Sl (fb ops tb p)&&bP (ba ops tb p).Sl (ba ops tb i).Sl&&Bw (ba ops tb i).Hl (ba ops tb p).fr
def nJ(ops:Array Oper)(tb:List (Nat×OO)){P:Program}(zs:List (Nat×ZT P))(p i:Nat):Bool:=
 match lk i zs,ops[i]? with
 | some _,some o=>match lk p zs,ops[p]? with
   | some _,some o'=>o'.dst.getD 0 != o.dst.getD 0
   | none,_=>!(ba ops tb p).Sl.contains (o.dst.getD 0)&&!(fb ops tb p).contains (o.dst.getD 0)&&!(ba ops tb p).Hl.contains (o.dst.getD 0)&&(match (ba ops tb p).fr with | some l=>l.all (fun x=>if Nat.blt x hM=true then x != o.dst.getD 0 else (x-hM) / 100 != o.dst.getD 0) | none=>false)
   | _,none=>false
 | _,_=>false
def oZ(ops:Array Oper)(m:Nat)(tb:List (Nat×OO)){P:Program}(zs:List (Nat×ZT P)):List Nat->Bool
 | []=>true
 | p::l=>(l.all fun i=>(match lk p zs with | none=>indep ops tb zs p i | some _=>false)||gG ops 64 i p||nJ ops tb zs p i)&&oZ ops m tb zs l
def Ay(N:Nat)(ops:Array Oper){P:Program}(zs:List (Nat×ZT P)):Bool:=zs.all fun x=>match ops[x.1]? with
 | some o=>(match o.op,o.dst with | .alloc T,some d=>T==x.2.T&&Nat.blt d N | _,_=>false)&&o.guard.isNone
 | none=>false
def Mk(l:List Nat):Bool:=match l with
 | []=>true
 | k::r=>!r.contains k&&Mk r
def AQ(ops:Array Oper)(m:Nat)(pl:List Nat):Bool:=
 (pl.all fun i=>Nat.blt i m)&&Mk pl&&((List.range m).all fun i=>pl.contains i)&&Nat.ble m ops.size&&
 (ops.toList.zipIdx.all fun (o,i)=>(Qw o).all (fun k=>Nat.blt k i))&&
 ((List.range (ops.size-m)).all fun q=>match ops[m+q]? with
   | some _=>(List.range (m+q)).all fun k=>gG ops 64 (m+q) k
   | none=>false)
section
variable {P:Program} {N:Nat} {ops:Array Oper} {tb:List (Nat×OO)} {zs:List (Nat×ZT P)}
theorem tV{a b:List Nat}(h:bP a b=true):∀ x,x∈a->x ∉ b:=fun x hx=>by
 unfold bP at h
 rw[ZI]at h
 simpa using h x hx
theorem B8.iR{A:AS}:B8 A A:=⟨fun _=>rfl,fun _=>rfl⟩
theorem IW{A B:AS}{d:Option Nat}{v:V}(h:B8 A B):B8 (A.put d v) (B.put d v):=by
 cases d with
 | none=>exact h
 | some d'=>exact⟨fun t=>by rw[AS.au,AS.au];split
                            rfl
                            exact h.1 t,h.2⟩
theorem Rl.congr{o:Oper}{A B:AS}{v:V}{fs:List Nat}{fr:Option (List Nat)}(h:Rl P N ops o A v fs fr)(h1:Uf B A fs)(h2:Rj B A fr):Rl P N ops o B v fs fr:=fun A' k1 k2=>
 h A' (fun t ht=>(k1 t ht).trans (h1 t ht)) (by
   cases fr with
   | none=>exact fun k=>(k2 k).trans (h2 k)
   | some l=>exact fun k hk=>(k2 k hk).trans (h2 k hk))
theorem Ug.congr{G:Type}{U:G->AS->AS}{o:Oper}{A B:AS}{fs:List Nat}{fr:Option (List Nat)}(h:Ug P N o A U fs fr)(h1:Uf B A fs)(h2:Rj B A fr):Ug P N o B U fs fr:=⟨h.1,fun A' k1 k2=>
 h.2 A' (fun t ht=>(k1 t ht).trans (h1 t ht)) (by
  cases fr with
  | none=>exact fun k=>(k2 k).trans (h2 k)
  | some l=>exact fun k hk=>(k2 k hk).trans (h2 k hk))⟩
theorem sF{A B:AS}(h:A.h=B.h)(fr:Option (List Nat)):Rj A B fr:=by
 cases fr with
 | none=>exact fun k=>by rw[h]
 | some l=>exact fun k _=>tt (fun k=>by rw[h]) k
theorem CZ{A B:AS}(h:B8 A B)(fr:Option (List Nat)):Rj A B fr:=by
 cases fr with
 | none=>exact h.2
 | some l=>exact fun k _=>tt h.2 k
theorem Hn{G:Type}{U:G->AS->AS}{fs Sl Hl fr:List Nat}(hU:Tq U fs Sl Hl)(hd:Bw Hl (some fr)=true){k:Nat}(hk:k∈fr)(g:G)(B:AS):O7 (U g B) B k:=by
 have hx:=ZI.1 hd k hk
 unfold O7
 split
 rename_i c
 rw[if_pos c]at hx
 exact hU.h g B k (by simpa using hx)
 rename_i c
 rw[if_neg c,Bool.or_eq_true]at hx
 have TV:hM+(k-hM)=k:=by
  have: ¬ k<hM:=fun h=>c (by simpa[Nat.blt_eq] using h)
  omega
 rcases hx with hx | hx
 exact xa (hU.h g B _ (by simpa using hx))
 exact hU.s _ (by rw[TV];simpa using hx) g B
theorem mf{A:AS}{d:Option Nat}{v:V}:(A.put d v).h=A.h:=by cases d <;> rfl
theorem iK{A:AS}{d:Option Nat}{v:V}{t:Nat}(h:t ∉ d.toList):(A.put d v).get t=A.get t:=by
 cases d with
 | none=>rfl
 | some d'=>rw[AS.au,if_neg (by simpa using h)]
theorem Ce{d:Nat}{v:V}{g:Nat}{A B:AS}(h:B8 A B):B8 (NL d v g A) (NL d v g B):=
 ⟨fun t=>by simp only[NL,AS.get,lk];split
            rfl
            exact h.1 t,fun k=>by simp only[NL,lk];split
                                  rfl
                                  exact h.2 k⟩
theorem dZ{K:AS->Prop}(hK:∀ A B,B8 A B->K A->K B):∀ (l:List Nat) {A B:AS},B8 A B->Mh P N ops tb zs l A K->Mh P N ops tb zs l B K
 | [],A,B,h,hA=>hK A B h hA
 | i::l,A,B,h,hA=>by
   obtain⟨o,ho,hA⟩:=hA
   refine⟨o,ho,?_⟩
   split at hA
   exact fun g=>dZ hK l (Ce h) (hA g)
   split at hA
   obtain⟨e1,e2,v,h1,h2⟩:=hA
   exact⟨e1,e2,v,h1.congr (fun t _=>(h.1 t).symm) (CZ h.symm _),dZ hK l (IW h) h2⟩
   obtain⟨G,U,h1,h2,h3⟩:=hA
   exact⟨G,U,h1.congr (fun t _=>(h.1 t).symm) (CZ h.symm _),h2,fun g=>dZ hK l (h2.c g _ _ h) (h3 g)⟩
theorem Fm{K:AS->Prop}(hK:∀ A B,B8 A B->K A->K B){p i:Nat}{l:List Nat}{A:AS}(hp:lk p zs=none)(hi:indep ops tb zs p i=true)(h:Mh P N ops tb zs (p::i::l) A K):Mh P N ops tb zs (i::p::l) A K:=by
 unfold indep at hi
 simp only[ZX,Bool.not_eq_true']at hi
 obtain⟨⟨⟨⟨⟨hz,h1⟩,h2⟩,h3⟩,h4⟩,h5⟩:=hi
 have hz:lk i zs=none:=by simpa using hz
 have h2:=tV h2
 have h3:=tV h3
 have h4:=tV h4
 obtain⟨op,K0,h⟩:=h
 rw[hp]at h
 simp only at h
 rw[h1]at h
 obtain⟨e1,e2,v,k1,oi,hoi,h⟩:=h
 refine⟨oi,hoi,?_⟩
 rw[hz]at h ⊢
 simp only at h ⊢
 rw[e1]at h2 h4
 have g1:Uf A (A.put op.dst v) (fb ops tb i):=fun t ht=>(iK (fun c=>h2 t c ht)).symm
 split at h
 rename_i he
 obtain⟨f1,f2,v',k2,k3⟩:=h
 rw[f1]at h3 h4
 refine⟨f1,f2,v',k2.congr g1 (sF mf.symm _),op,K0,?_⟩
 rw[hp]
 simp only
 rw[h1]
 refine⟨e1,e2,v,k1.congr (fun t ht=>iK (fun c=>h3 t c ht)) (sF mf _),?_⟩
 refine dZ hK l ⟨fun t=>?_,fun k=>by rw[mf,mf,mf,mf]⟩ k3
 by_cases c1:t∈oi.dst.toList
 cases hd:oi.dst with
 | none=>rw[hd]at c1;simp at c1
 | some d=>
   rw[hd]at c1
   have c1:t=d:=by simpa using c1
   subst c1
   have hn:t ∉ op.dst.toList:=fun c=>h4 t c (by rw[hd];simp)
   rw[AS.au,if_pos rfl,iK hn,AS.au,if_pos rfl]
 rw[iK c1]
 by_cases c2:t∈op.dst.toList
 cases hd:op.dst with
 | none=>rw[hd]at c2;simp at c2
 | some d=>
   rw[hd]at c2
   have c2:t=d:=by simpa using c2
   subst c2
   rw[AS.au,if_pos rfl,AS.au,if_pos rfl]
 rw[iK c2,iK c2,iK c1]
 obtain⟨G,U,k2,k3,k4⟩:=h
 refine⟨G,U,k2.congr g1 (sF mf.symm _),k3,fun g=>⟨op,K0,?_⟩⟩
 rw[hp]
 simp only
 rw[h1]
 refine⟨e1,e2,v,k1.congr (fun t ht=>k3.g g A t (fun c=>h3 t c ht)) ?_,?_⟩
 cases hf:(ba ops tb p).fr with
 | none=>
   rw[hf]at h5
   have:(ba ops tb i).Hl=[]:=by simpa[Bw] using h5
   exact fun k=>k3.h g A k (by rw[this];simp)
 | some fr=>
   rw[hf]at h5
   exact fun k hk=>Hn k3 h5 hk g A
 refine dZ hK l ?_ (k4 g)
 cases hd:op.dst with
 | none=>exact B8.iR
 | some d=>exact k3.p g A d v (fun c=>h4 d (by rw[hd];simp) c) (fun c=>h2 d (by rw[hd];simp) c)
theorem ui{d:Nat}{v:V}{g t:Nat}{A:AS}(h:t≠d):(NL d v g A).get t=A.get t:=by simp only[NL,AS.get,lk];rw[if_neg h]
theorem DC{d:Nat}{v:V}{g k:Nat}{A:AS}(h:k≠d):lk k (NL d v g A).h=lk k A.h:=by simp only[NL,lk];rw[if_neg h]
theorem Iu{d:Nat}{v:V}{g:Nat}{A:AS}{dd:Option Nat}{u:V}(h:d ∉ dd.toList):B8 (NL d v g (A.put dd u)) ((NL d v g A).put dd u):=by
 cases dd with
 | none=>exact B8.iR
 | some d'=>
   have hne:d≠d':=by simpa using h
   refine⟨fun t=>?_,fun k=>rfl⟩
   rw[AS.au]
   by_cases c:t=d
   subst c
   rw[if_neg hne];simp only[NL,AS.get,lk,if_true]
   rw[ui c,ui c,AS.au]
theorem Ct{K:AS->Prop}(hK:∀ A B,B8 A B->K A->K B){p i:Nat}{l:List Nat}{A:AS}(hi:nJ ops tb zs p i=true)(h:Mh P N ops tb zs (p::i::l) A K):Mh P N ops tb zs (i::p::l) A K:=by
 unfold nJ at hi
 split at hi
 case h_2=>simp at hi
 rename_i z o hz ho
 obtain⟨op,K0,h⟩:=h
 have inner:∀ {B:AS},Mh P N ops tb zs (i::l) B K->∀ g,Mh P N ops tb zs l (NL (o.dst.getD 0) z.v g B) K:=fun h g=>by
  obtain⟨o',O0,h⟩:=h
  rw[ho]at O0;obtain rfl:=Option.some.inj O0
  rw[hz]at h
  exact h g
 refine⟨o,ho,?_⟩
 rw[hz]
 refine fun g=>⟨op,K0,?_⟩
 split at hi
 rename_i z' o' VZ UL
 rw[K0]at UL;obtain rfl:=Option.some.inj UL
 rw[VZ]at h ⊢
 intro g'
 have hne:op.dst.getD 0≠o.dst.getD 0:=by simpa using hi
 refine dZ hK l ⟨fun t=>?_,fun k=>?_⟩ (inner (h g') g)
 simp only[NL,AS.get,lk]
 by_cases c:t=o.dst.getD 0
 rw[if_pos c,if_neg (fun c2=>hne (c2.symm.trans c)),if_pos c]
 rw[if_neg c,if_neg c]
 simp only[NL,lk]
 by_cases c:k=o.dst.getD 0
 rw[if_pos c,if_neg (fun c2=>hne (c2.symm.trans c)),if_pos c]
 rw[if_neg c,if_neg c]
 rename_i VZ
 simp only[ZX,Bool.not_eq_true',Zs,decide_eq_false_iff_not]at hi
 obtain⟨⟨⟨i1,i2⟩,i3⟩,i4⟩:=hi
 rw[VZ]at h ⊢
 simp only at h ⊢
 have gS:Uf (NL (o.dst.getD 0) z.v g A) A (fb ops tb p):=fun t ht=>ui fun c=>i2 (by rw[<- c];exact ht)
 have gR:Rj (NL (o.dst.getD 0) z.v g A) A (ba ops tb p).fr:=by
  split at i4
  rename_i l' hl
  rw[hl]
  intro k hk
  have i5:=ZI.1 i4 k hk
  unfold O7
  split
  rename_i c
  rw[if_pos c]at i5
  exact DC (by simpa using i5)
  rename_i c
  rw[if_neg c]at i5
  exact xa (DC (by simpa using i5))
  simp at i4
 split at h
 obtain⟨e1,e2,v,k1,h⟩:=h
 refine⟨e1,e2,v,k1.congr gS gR,?_⟩
 exact dZ hK l (Iu (by rw[<- e1];exact i1)) (inner h g)
 obtain⟨G,U,k1,k2,h⟩:=h
 refine⟨G,U,k1.congr gS gR,k2,fun x=>dZ hK l ?_ (inner (h x) g)⟩
 have e1:=k2.q x ⟨(o.dst.getD 0,.ptr (.key (o.dst.getD 0)) [] g 0)::A.t,A.h⟩ (o.dst.getD 0) (g,z.v) i3
 have e2:=k2.p x A (o.dst.getD 0) (.ptr (.key (o.dst.getD 0)) [] g 0) i1 i2
 refine B8.trans ?_ e1.symm
 refine⟨fun t=>?_,fun k=>?_⟩
 exact(e2.1 t).symm
 simp only[NL,lk]
 split
 rfl
 exact(e2.2 k).symm
 simp at hi
theorem xL{K:AS->Prop}(hK:∀ A B,B8 A B->K A->K B){i:Nat}{l2:List Nat}:∀ (l1:List Nat) {A:AS},(∀ p,p∈l1->(lk p zs=none/\indep ops tb zs p i=true)\/nJ ops tb zs p i=true)->Mh P N ops tb zs (l1++i::l2) A K->Mh P N ops tb zs (i::(l1++l2)) A K
 | [],A,_,h=>h
 | p::l1,A,hi,h=>by
   have ih:∀ A,Mh P N ops tb zs (l1++i::l2) A K->Mh P N ops tb zs (i::(l1++l2)) A K:=fun A=>xL hK l1 (fun q hq=>hi q (by simp[hq]))
   have h2:Mh P N ops tb zs (p::i::(l1++l2)) A K:=by
    obtain⟨o,ho,h⟩:=h
    refine⟨o,ho,?_⟩
    split at h
    exact fun g=>ih _ (h g)
    split at h
    obtain⟨e1,e2,v,h1,h2⟩:=h;exact⟨e1,e2,v,h1,ih _ h2⟩
    obtain⟨G,U,h1,h2,h3⟩:=h;exact⟨G,U,h1,h2,fun g=>ih _ (h3 g)⟩
   rcases hi p Z8 with h | h
   exact Fm hK h.1 h.2 h2
   exact Ct hK h h2
theorem zF{α:Type}:∀ {l:List (Nat×α)} {k:Nat} {v:α},lk k l=some v->(k,v)∈l
 | [],_,_,h=>by simp[lk]at h
 | (k0,v0)::l,k,v,h=>by
   simp only[lk]at h
   split at h
   rename_i e;subst e;cases h;simp
   exact List.mem_cons_of_mem _ (zF h)
theorem Am{m:Nat}:∀ {pl l1 l2:List Nat} {i p:Nat},oZ ops m tb zs pl=true->pl=l1++i::l2->p∈l1->((lk p zs=none/\indep ops tb zs p i=true)\/nJ ops tb zs p i=true)\/gG ops 64 i p=true
 | [],l1,l2,i,p,_,e,_=>by simp at e
 | q::pl,[],l2,i,p,_,_,hp=>by simp at hp
 | q::pl,x::l1,l2,i,p,h,e,hp=>by
   simp only[List.cons_append,List.cons.injEq]at e
   obtain⟨rfl,rfl⟩:=e
   simp only[oZ,ZX,ZI]at h
   rcases List.mem_cons.1 hp with rfl | hp
   have:=h.1 i Z8
   rw[Bool.or_eq_true,Bool.or_eq_true]at this
   rcases this with (h | h) | h
   split at h
   exact .inl (.inl ⟨by assumption,h⟩)
   simp at h
   exact .inr h
   exact .inl (.inr h)
   exact Am h.2 rfl hp
theorem mN{m:Nat}(f:Nat->Bool):∀ {pl:List Nat},oZ ops m tb zs pl=true->oZ ops m tb zs (pl.filter f)=true
 | [],_=>rfl
 | p::pl,h=>by
   simp only[oZ,ZX,ZI]at h
   simp only[List.filter_cons]
   split
   simp only[oZ,ZX,ZI]
   exact⟨fun i hi=>h.1 i (List.mem_filter.1 hi).1,mN f h.2⟩
   exact mN f h.2
theorem wG{L:Nat->Bool}(hcl:∀ k o,ops[k]? =some o->L k=true->∀ j,j∈Qw o->L j=true){i k:Nat}{o:Oper}(ho:ops[i]? =some o)(Vy:∀ j,j∈Qw o->L j=true)(h:gG ops 64 i k=true):L k=true:=by
 have h:gG ops (63+1) i k=true:=h
 generalize (63:Nat)=n at h
 simp only[gG,ho]at h
 rw[List.any_eq_true]at h
 obtain⟨q,hq,h⟩:=h
 rw[Bool.or_eq_true,Zp]at h
 rcases h with rfl | h
 exact Vy _ hq
 exact jn hcl n q k h (Vy _ hq)
theorem uz{id m:Nat} {pl:List Nat} {A:AS} {Q:Exit->AS->Prop} (hm:P.follows .mixedOrders=true) (hc:oZ ops m tb zs pl=true) (WN:Ay N ops zs=true) (Qe:AQ ops m pl=true)
 (h:Mh P N ops tb zs pl A (fun B=> ∃ B',B8 B B'/\WL P N ops (ops.toList.drop m) B' (Q .normal))):T P N (.region id ops true) A Q:=by
 unfold AQ at Qe
 simp only[ZX,ZI]at Qe
 obtain⟨⟨⟨⟨⟨p1,p2⟩,p3⟩,p4⟩,p5⟩,p6⟩:=Qe
 have Wr:=Nat.le_of_ble_eq_true p4
 have S2:∀ i,i∈pl↔i<m:=fun i=>⟨fun hi=>Nat.lt_of_succ_le (Nat.le_of_ble_eq_true (p1 i hi)),fun hi=>by have:=p3 i (List.mem_range.2 hi);simpa using this⟩
 have hnd:pl.Nodup:=by
  have:∀ l:List Nat,Mk l=true->l.Nodup:=by
   intro l
   induction l with
   | nil=>intro _;exact ZA
   | cons a l ih=>
     intro h
     simp only[Mk,ZX,Bool.not_eq_true',Zs,decide_eq_false_iff_not]at h
     exact List.nodup_cons.2 ⟨h.1,ih h.2⟩
  exact this pl p2
 have Qp:∀ i o,ops[i]? =some o->∀ k,k∈Qw o->k<i:=fun i o ho k hk=>by
  have hmz:(o,i)∈ops.toList.zipIdx:=by rw[List.mk_mem_zipIdx_iff_getElem?];simpa using ho
  have:=p5 (o,i) hmz
  simp only[ZI]at this
  exact Nat.lt_of_succ_le (Nat.le_of_ble_eq_true (this k hk))
 have UC:∀ i o,ops[i]? =some o->m<=i->∀ k,k<i->gG ops 64 i k=true:=fun i o ho hi k hk=>by
  have hin:i<ops.size:=(Zt.1 ho).1
  have:=p6 (i-m) (List.mem_range.2 Z9)
  rw[show m+(i-m)=i from Z9,ho]at this
  simp only[ZI]at this
  simpa using this k (List.mem_range.2 hk)
 let Kt:AS->Prop:=fun B=> ∃ B',B8 B B'/\WL P N ops (ops.toList.drop m) B' (Q .normal)
 have WT:∀ A B,B8 A B->Kt A->Kt B:=fun A B hAB ⟨B',h1,h2⟩=>⟨B',hAB.symm.trans h1,h2⟩
 intro Pb Kb a w F hs
 refine wp_region_any hm ?_
 have e9:r7 N Pb Kb A a { w with drawn:=w.drawn+1 } F:=hs.grow (fun _ _=>rfl) (Zy _) (fun _ h=>h) (fun g h=>.inl h) hs.sub
 obtain⟨w0,Xv⟩:∃ w0:World,w0={ w with drawn:=w.drawn+1 }:=⟨_,rfl⟩
 have Pl:w5 Kb w w0:=by rw[Xv];exact⟨rfl,rfl,rfl,Zy _,fun _ _=>rfl,fun _ c _ _ h=>⟨c,h,rfl⟩⟩
 rw[<- Xv]at e9 ⊢
 let rem (listed:Array Bool):List Nat:=pl.filter fun j=>!listed.getD j true
 let Ph (listed:Array Bool) (A':AS):Prop:=
  (rem listed≠[]/\Mh P N ops tb zs (rem listed) A' Kt)\/
  (∃ k,m<=k/\k<=ops.size/\(∀ j,j<ops.size->listed.getD j true=decide (j<k))/\WL P N ops (ops.toList.drop k) A' (Q .normal))
 have key:∀ fuel (listed:Array Bool) a w',listed.size=ops.size->QD listed ops.size=fuel->
  (∀ k o,ops[k]? =some o->listed.getD k true=true->∀ j,j∈Qw o->listed.getD j true=true)->Nx N Pb Kb w0 (Ph listed) a w'->
  wpAny P .any ops (fun e a' w'=>Nx N Pb Kb w (Q e) a' w') fuel listed a w':=by
  intro fuel
  induction fuel with
  | zero=>
    intro listed a w' hsz hu hcl hn
    have H8:=Eh hu
    refine⟨?_,(Nx.step (fun _ h=>h) (fun _ h=>h) (fun _ h=>.inl h) Pl hn).mono fun A' U'=>?_⟩
    rw[List.eq_nil_iff_forall_not_mem]
    intro j hj
    rw[mem_ready]at hj
    obtain⟨h0,o,ho,_⟩:=hj
    have:=H8 j (Zt.1 ho).1
    rw[h0]at this;cases this
    rcases U' with ⟨hne,_⟩ | ⟨k,O3,M',UW,hw⟩
    exfalso
    apply hne
    rw[List.filter_eq_nil_iff]
    intro j hj
    rw[H8 j (by have:=(S2 j).1 hj;omega)];simp
    have:k=ops.size:=by
     rcases Nat.lt_or_ge k ops.size with h | h
     have:=UW k h;rw[H8 k h]at this;simp at this
     omega
    subst this
    rw[ZC Z8]at hw
    exact hw
  | succ fuel ih=>
    intro listed a w' hsz hu hcl hn
    have Q4:∀ j,j<ops.size->listed.getD j false=listed.getD j true:=fun j hj=>by
     have hj':j<listed.size:=Z9
     simp[Array.getD,hj']
    constructor
    intro hr
    exfalso
    have hex:∃ j,j<ops.size/\listed.getD j true=false:=by
     refine Classical.byContradiction fun hne=>?_
     have:QD listed ops.size=0:=by
      unfold QD
      rw[List.filter_eq_nil_iff.2]
      rfl
      intro j hj
      simp only[List.mem_range]at hj
      cases hb:listed.getD j true with
      | true=>simp
      | false=>exact absurd ⟨j,hj,hb⟩ hne
     omega
    have Ws:∀ n,∀ j,j<=n->j<ops.size->listed.getD j true=false->∃ j',j'<ops.size/\listed.getD j' true=false/\∀ i,i<j'->listed.getD i true=true:=by
     intro n
     induction n with
     | zero=>intro j hj h1 h2;exact⟨j,h1,h2,fun i hi=>by omega⟩
     | succ n ihn=>
       intro j hj h1 h2
       by_cases Xw:∃ i,i<j/\listed.getD i true=false
       obtain⟨i,hi,hf⟩:=Xw;exact ihn i Z9 Z9 hf
       exact⟨j,h1,h2,fun i hi=>by
        cases hb:listed.getD i true with
        | true=>rfl
        | false=>exact absurd ⟨i,hi,hb⟩ Xw⟩
    obtain⟨j,Vw,Q5⟩:=hex
    obtain⟨j',h1,h2,h3⟩:=Ws j j (Zy _) Vw Q5
    have ho:ops[j']? =some ops[j']:=by simp[h1]
    have:j'∈Region.ready .any ops listed:=by
     rw[mem_ready]
     refine⟨h2,_,ho,fun e he hb=>?_⟩
     have hlt:=Qp j' _ ho e.on (by simp only[Qw,List.mem_map,List.mem_filter];exact⟨e,⟨by simpa using he,hb⟩,rfl⟩)
     rw[Q4 _ Z9];exact h3 _ hlt
    rw[hr]at this;cases this
    intro i hi
    rw[mem_ready]at hi
    obtain⟨hi0,o,ho,Vy⟩:=hi
    have hin:i<ops.size:=(Zt.1 ho).1
    have Q6:∀ k,k∈Qw o->listed.getD k true=true:=fun k hk=>by
     have hlt:=Qp i o ho k hk
     simp only[Qw,List.mem_map,List.mem_filter]at hk
     obtain⟨e,⟨he,hb⟩,rfl⟩:=hk
     rw[<- Q4 _ Z9]
     exact Vy e (by simpa using he) hb
    have Ng:∀ k,k<ops.size->(listed.setIfInBounds i true).getD k true=(if k=i then true else listed.getD k true):=fun k hk=>by
     by_cases e:k=i
     subst e;simp[Array.getD,hsz,hin]
     rw[if_neg e];exact getD_set_ne true (Ne.symm e)
    have WJ:∀ k o,ops[k]? =some o->(listed.setIfInBounds i true).getD k true=true->∀ j,j∈Qw o->(listed.setIfInBounds i true).getD j true=true:=fun k o' O0 hk j hj=>by
     have Qi:=(Zt.1 O0).1
     have XF:=Qp k o' O0 j hj
     rw[Ng k Qi]at hk
     rw[Ng j Z9]
     split
     rfl
     split at hk
     rename_i e;subst e;rw[ho]at O0;obtain rfl:=Option.some.inj O0;exact Q6 j hj
     exact hcl k o' O0 hk j hj
    have Wa:QD (listed.setIfInBounds i true) ops.size=fuel:=by have:=GS hin hsz hi0;omega
    have Pm:∀ Rk QR,Nx N Pb Kb w0 (Ph (listed.setIfInBounds i true)) Rk QR->wpAny P .any ops (fun e a' w'=>Nx N Pb Kb w (Q e) a' w') fuel (listed.setIfInBounds i true) Rk QR:=
     fun Rk QR Qg=>ih _ Rk QR (by simpa using hsz) Wa WJ Qg
    obtain⟨A',Pb',C4,F',U',h2,h3,h4,h5,h6⟩:=hn
    rcases U' with ⟨hne,hD⟩ | ⟨k,O3,M',UW,hw⟩
    ·
     obtain⟨j0,hj0⟩:=List.exists_mem_of_ne_nil _ hne
     obtain⟨Vw,Q5⟩:=List.mem_filter.1 hj0
     have hj0m:=(S2 j0).1 Vw
     have TW:listed.getD j0 true=false:=by simpa using Q5
     have him:i<m:=by
      rcases Nat.lt_or_ge i m with h | h
      exact h
      have:=wG hcl ho Q6 (UC i o ho h j0 Z9);rw[TW]at this;cases this
     have hir:i∈rem listed:=List.mem_filter.2 ⟨(S2 i).2 him,by rw[hi0];rfl⟩
     obtain⟨l1,l2,hl⟩:=List.append_of_mem hir
     have SY:(rem listed).Nodup:=hnd.filter _
     have R3:rem (listed.setIfInBounds i true)=l1++l2:=by
      have e1:rem (listed.setIfInBounds i true)=(rem listed).filter fun j=>j != i:=by
       show pl.filter _=(pl.filter _).filter _
       rw[List.filter_filter]
       apply List.filter_congr
       intro j hj
       rw[Ng j (by have:=(S2 j).1 hj;omega)]
       by_cases e:j=i
       subst e;simp
       simp[e]
      rw[e1,hl]
      rw[hl]at SY
      rw[List.nodup_append]at SY
      obtain⟨n1,n2,n3⟩:=SY
      rw[List.filter_append,List.filter_cons]
      simp only[bne_self_eq_false,Bool.false_eq_true,if_false]
      have f1:l1.filter (fun j=>j != i)=l1:=List.filter_eq_self.2 fun j hj=>by
       have:=n3 j hj i Z8;simpa using this
      have f2:l2.filter (fun j=>j != i)=l2:=List.filter_eq_self.2 fun j hj=>by
       have:=(List.nodup_cons.1 n2).1
       simp only[bne_iff_ne,ne_eq]
       rintro rfl;exact this hj
      rw[f1,f2]
     have WA:∀ p,p∈l1->(lk p zs=none/\indep ops tb zs p i=true)\/nJ ops tb zs p i=true:=fun p hp=>by
      rcases Am (mN _ hc) hl hp with h | h
      exact h
      exfalso
      have hpr:p∈rem listed:=by rw[hl];simp[hp]
      have Wk:listed.getD p true=false:=by have:=(List.mem_filter.1 hpr).2;simpa using this
      have WM:∀ (n j:Nat),gG ops n i j=true->listed.getD j true=true:=by
       intro n j hj
       cases n with
       | zero=>simp[gG]at hj
       | succ n=>
         simp only[gG,ho]at hj
         rw[List.any_eq_true]at hj
         obtain⟨q,hq,hj⟩:=hj
         have XB:=Q6 q hq
         rw[Bool.or_eq_true,Zp]at hj
         rcases hj with rfl | hj
         exact XB
         exact jn (L:=fun k=>listed.getD k true) hcl n q j hj XB
      have:=WM 64 p h
      rw[Wk]at this;cases this
     rw[hl]at hD
     obtain⟨o',O0,hD⟩:=xL WT l1 WA hD
     rw[ho]at O0
     obtain rfl:=Option.some.inj O0
     have S3:∀ B M3 Nb a2 w2 F2,Mh P N ops tb zs (l1++l2) B Kt->r7 N M3 Nb B a2 w2 F2->∃ B' F3,Ph (listed.setIfInBounds i true) B'/\r7 N M3 Nb B' a2 w2 F3:=fun B M3 Nb a2 w2 F2 hB Xy=>by
      by_cases Qh:rem (listed.setIfInBounds i true)=[]
      rw[<- R3,Qh]at hB
      obtain⟨B',e1,e2⟩:=hB
      obtain⟨F3,LW,_⟩:=Xy.le e1.symm.le
      refine⟨B',F3,.inr ⟨m,Zy _,Wr,fun j hj=>?_,e2⟩,LW⟩
      rcases Nat.lt_or_ge j m with h | h
      have:j ∉ rem (listed.setIfInBounds i true):=by rw[Qh];simp
      have: ¬ ((!(listed.setIfInBounds i true).getD j true)=true):=fun c=>this (List.mem_filter.2 ⟨(S2 j).2 h,c⟩)
      simp only[Bool.not_eq_true',Bool.not_eq_false]at this
      rw[this];simp[h]
      have hoj:ops[j]? =some ops[j]:=by simp[hj]
      rw[Ng j hj,if_neg Z9]
      cases hb:listed.getD j true with
      | false=>simp;omega
      | true=>
        have:=jn hcl 64 j j0 (UC j _ hoj h j0 Z9) hb
        rw[TW]at this;cases this
      exact⟨B,F2,.inl ⟨Qh,by rw[R3];exact hB⟩,Xy⟩
     unfold Go.wpOp
     simp only[ho]
     split at hD
     rename_i z hz
     unfold Ay at WN
     rw[ZI]at WN
     have NB:=WN _ (zF hz)
     simp only[ho]at NB
     rw[ZX]at NB
     obtain⟨NB,hz3⟩:=NB
     split at NB
     rename_i T d K0 K5
     simp only[ZX,Zp]at NB
     have P4:Region.wanted o (yielded ops a.tmps)=true:=by unfold Region.wanted;rw[show o.guard=none from by simpa using hz3]
     rw[if_pos P4]
     rw[K5]at hD
     refine .inl (Oper.wp_mono ?_ (pM (K:=fun B=>Mh P N ops tb zs (l1++l2) B Kt) K0 K5 (Nat.lt_of_succ_le (Nat.le_of_ble_eq_true NB.2)) (by rw[NB.1];exact z.ok) hD Pb' C4 a w' F' _ h2))
     rintro a2 w2 ⟨B,M3,Nb,F2,k1,k2,k3,k4,k5,k6⟩
     obtain⟨B',F3,hp,LW⟩:=S3 B M3 Nb a2 w2 F2 k1 k2
     exact Pm a2 w2 (Nx.step h3 h4 h5 h6 ⟨B',M3,Nb,F3,hp,LW,k3,k4,k5,k6⟩)
     simp at NB
     split at hD
     obtain⟨_,_,v,hv,hD⟩:=hD
     rcases rM (hv A' (fun _ _=>rfl) (sF rfl _)) h2 with ⟨P4,K0⟩ | ⟨P4,hd,hvd⟩
     rw[if_pos P4]
     refine .inl (Oper.wp_mono ?_ (K0 Pb' C4 a w' F' _ h2))
     rintro a2 w2 ⟨B,M3,Nb,F2,k1,k2,k3,k4,k5,k6⟩
     obtain⟨B',F3,hp,LW⟩:=S3 B M3 Nb a2 w2 F2 (dZ WT _ k1.symm hD) k2
     exact Pm a2 w2 (Nx.step h3 h4 h5 h6 ⟨B',M3,Nb,F3,hp,LW,k3,k4,k5,k6⟩)
     rw[if_neg (by simp[P4])]
     obtain⟨F2,J1⟩:=h2.nT (d:=o.dst) (v:=v) (x:=undef) hd (hvd w' Pb')
     obtain⟨B',F3,hp,LW⟩:=S3 _ Pb' C4 _ w' F2 hD J1
     exact Pm _ w' ⟨B',Pb',C4,F3,hp,LW,h3,h4,h5,h6⟩
     obtain⟨G,U,hE,_,hD⟩:=hD
     have P4:Region.wanted o (yielded ops a.tmps)=true:=by unfold Region.wanted;rw[hE.1]
     rw[if_pos P4]
     refine .inl (Oper.wp_mono ?_ (hE.2 A' (fun _ _=>rfl) (sF rfl _) Pb' C4 a w' F' _ h2))
     rintro a2 w2 ⟨B,M3,Nb,F2,⟨g,k1⟩,k2,k3,k4,k5,k6⟩
     obtain⟨B',F3,hp,LW⟩:=S3 B M3 Nb a2 w2 F2 (dZ WT _ k1.symm (hD g)) k2
     exact Pm a2 w2 (Nx.step h3 h4 h5 h6 ⟨B',M3,Nb,F3,hp,LW,k3,k4,k5,k6⟩)
    ·
     have hik:i=k:=by
      rw[UW i hin]at hi0
      simp only[decide_eq_false_iff_not]at hi0
      rcases Nat.lt_or_ge k i with h | h
      have:=wG hcl ho Q6 (UC i o ho Z9 k h)
      rw[UW k Z9]at this;simp at this
      omega
     subst hik
     have Oi:ops.toList.drop i=o::ops.toList.drop (i+1):=by
      rw[List.drop_eq_getElem_cons (by simpa using hin)]
      have:ops[i]=o:=by have:=Zt.1 ho;exact this.2
      simp[this]
     rw[Oi]at hw
     have S3:∀ B,WL P N ops (ops.toList.drop (i+1)) B (Q .normal)->Ph (listed.setIfInBounds i true) B:=fun B hB=>
      .inr ⟨i+1,Z9,Z9,fun j hj=>by
       rw[Ng j hj]
       split
       rename_i e;subst e;simp
       rename_i e;rw[UW j hj]
       have:(j<i)↔(j<i+1):=Z9
       simp[this],hB⟩
     unfold Go.wpOp
     simp only[ho]
     rcases rM hw h2 with ⟨P4,K0⟩ | ⟨P4,hd,u,hu,RX⟩
     rw[if_pos P4]
     refine .inl (Oper.wp_mono ?_ (K0 Pb' C4 a w' F' _ h2))
     intro a2 w2 TO
     exact Pm a2 w2 (Nx.step h3 h4 h5 h6 (TO.mono S3))
     rw[if_neg (by simp[P4])]
     obtain⟨F2,J1⟩:=h2.nT (d:=o.dst) (v:=u) (x:=undef) hd (hu w' Pb')
     exact Pm _ w' ⟨_,Pb',C4,F2,S3 _ RX,J1,h3,h4,h5,h6⟩
 have Q1:∀ k,k<ops.size->(Array.replicate ops.size false).getD k true=false:=fun k hk=>by simp[Array.getD,hk]
 have R2:rem (Array.replicate ops.size false)=pl:=List.filter_eq_self.2 fun j hj=>by rw[Q1 j (by have:=(S2 j).1 hj;omega)];rfl
 have x4:∃ A1 F1,Ph (Array.replicate ops.size false) A1/\r7 N Pb Kb A1 a w0 F1:=by
  by_cases hp:pl=[]
  subst hp
  obtain⟨B',e1,e2⟩:=h
  obtain⟨F3,LW,_⟩:=e9.le e1.symm.le
  have TQ:m=0:=by
   rcases Nat.eq_zero_or_pos m with h | h
   exact h
   have:=(S2 0).2 h;simp at this
  exact⟨B',F3,.inr ⟨m,Zy _,Wr,fun j hj=>by rw[Q1 j hj,TQ];simp,e2⟩,LW⟩
  exact⟨A,F,.inl ⟨by rw[R2];exact hp,by rw[R2];exact h⟩,e9⟩
 obtain⟨A1,F1,hP1,MD⟩:=x4
 exact key ops.size (Array.replicate ops.size false) a w0 Z8 (by
  unfold QD
  rw[List.filter_eq_self.2]
  simp
  intro j hj;simp only[List.mem_range]at hj;rw[Q1 j hj];rfl)
  (fun k o ho hk=>by rw[Q1 k (Zt.1 ho).1]at hk;cases hk) ⟨A1,Pb,Kb,F1,hP1,MD,fun _ h=>h,fun _ h=>h,fun _ h=>.inl h,w5.refl _ _⟩
end
section
variable {P:Program} {N:Nat} {ops:Array Oper} {A A':AS}
theorem Kq{w:World}{Pb:Nat->Prop}{v:V}{x:Value}{F:List Nat}(h:SJ w Pb v x F):RV w Pb v x F:=by
 cases v with
 | gv b u=>simp[SJ,R]at h
 | _=>exact h
def V.fH:V->Bool | .gv _ _=>true | _=>false
theorem xz{w:World}{Pb:Nat->Prop}{v:V}{x:Value}{F:List Nat}(h:RV w Pb v x F)(hn:v.fH=false):SJ w Pb v x F:=by
 cases v with
 | gv b u=>simp[V.fH]at hn
 | _=>exact h
theorem oQ{a:Act}{t:Nat}:a.put (some t) (a.tmps.getD t undef)=a:=by
 cases a with
 | mk tmps defers=>
   simp only[Act.put]
   congr 1
   apply Array.ext_getElem?
   intro i
   by_cases e:t=i
   subst e
   by_cases h:t<tmps.size
   simp[h,Array.getElem?_setIfInBounds_self]
   simp[h,Array.getElem?_setIfInBounds]
   rw[Array.getElem?_setIfInBounds_ne e]
def nz(G b:Bool)(v:V):Prop:=match v.cB||v.fH with
 | false=>G=true->b=true
 | true=>False
theorem vT{G b:Bool}{v:V}(h:nz G b v)(hG:G=true):b=true/\v.cB=false/\v.fH=false:=by
 unfold nz at h
 split at h
 rename_i e;rw[Bool.or_eq_false_iff]at e;exact⟨h hG,e.1,e.2⟩
 exact h.elim
def AS.un(G:Bool):List Operand->AS->Prop×AS
 | [],A=>(True,A)
 | .tmp t::r,A=>match A.get t with
   | .gv b v=>match AS.un G r (A.put (some t) v) with
     | (C,B)=>(nz G b v/\C,B)
   | _=>AS.un G r A
 | _::r,A=>AS.un G r A
theorem iJ{w:World}{Pb Kb:Nat->Prop}{a:Act}{G:Bool}(hG:G=true):∀ (xs:List Operand) {A B:AS} {F:l6->List Nat} {C:Prop},AS.un G xs A=(C,B)->C->r7 N Pb Kb A a w F->(∀ t,Operand.tmp t∈xs->t<N)->∃ F',r7 N Pb Kb B a w F'
 | [],A,B,F,C,h,hC,hs,_=>by simp only[AS.un,ZV]at h;obtain⟨_,rfl⟩:=h;exact⟨F,hs⟩
 | x::xs,A,B,F,C,h,hC,hs,hN=>by
   have O5:∀ t,Operand.tmp t∈xs->t<N:=fun t ht=>hN t (by simp[ht])
   cases x with
   | tmp t=>
     simp only[AS.un]at h
     split at h
     rename_i b v hg
     cases hu:AS.un G xs (A.put (some t) v) with
     | mk C1 B1=>
       rw[hu]at h
       simp only[ZV]at h
       obtain⟨rfl,rfl⟩:=h
       have hr:=hs.slot t
       rw[hg]at hr
       have x5:=hs.put (d:=t) (v:=v) (x:=a.tmps.getD t undef) (F':=[]) (hN t Z8) (Kq (hr.2.1 (vT hC.1 hG).1)) Z8 Z8 Z8
       rw[oQ]at x5
       exact iJ hG xs hu hC.2 x5 O5
     exact iJ hG xs h hC hs O5
   | _=>exact iJ hG xs h hC hs O5
def Gx(A B:AS):Prop:=(∀ i,A.get i=B.get i\/∃ b,A.get i=.gv b (B.get i)/\b=true/\(B.get i).cB=false/\(B.get i).fH=false)/\A.h=B.h
theorem r7.wrap{w:World}{Pb Kb:Nat->Prop}{a:Act}{F:l6->List Nat}{B:AS}(hs:r7 N Pb Kb B a w F)(h:Gx A B):r7 N Pb Kb A a w F where
 size:=hs.size
 defers:=hs.defers
 slot:=fun i=>by
  rcases h.1 i with e | ⟨b,e,hb,ho,hg⟩
  rw[e];exact hs.slot i
  have hr:=hs.slot i
  rw[e]
  have hF:=uc ho hr
  rw[hF]at hr ⊢
  exact⟨rfl,fun _=>xz hr hg,fun c=>by rw[hb]at c;cases c⟩
 root:=fun k g v hk=>hs.root k g v (by rw[<- h.2];exact hk)
 bP:=hs.bP
 nodup:=hs.nodup
 free:=hs.free
 sub:=hs.sub
 bound:=hs.bound
theorem lV{G:Bool}(hG:G=true):∀ (xs:List Operand) {A B:AS} {C:Prop},AS.un G xs A=(C,B)->C->Gx A B
 | [],A,B,C,h,hC=>by simp only[AS.un,ZV]at h;obtain⟨_,rfl⟩:=h;exact⟨fun _=>.inl rfl,rfl⟩
 | x::xs,A,B,C,h,hC=>by
   cases x with
   | tmp t=>
     simp only[AS.un]at h
     split at h
     rename_i b v hg
     cases hu:AS.un G xs (A.put (some t) v) with
     | mk C1 B1=>
       rw[hu]at h
       simp only[ZV]at h
       obtain⟨rfl,rfl⟩:=h
       obtain⟨k1,k2⟩:=lV hG xs hu hC.2
       obtain⟨hb,ho,hv⟩:=vT hC.1 hG
       refine⟨fun i=>?_,k2⟩
       have:=k1 i
       rw[AS.au]at this
       by_cases e:i=t
       subst e
       rw[if_pos rfl]at this
       rcases this with e' | ⟨b',e',_⟩
       exact .inr ⟨b,by rw[hg,<- e'],hb,by rw[<- e'];exact ho,by rw[<- e'];exact hv⟩
       rw[e']at hv;simp[V.fH]at hv
       rw[if_neg e]at this;exact this
     exact lV hG xs h hC
   | _=>exact lV hG xs h hC
def MQ(A:AS)(ops:Array Oper)(j:Nat)(b:Bool):Option Bool:=
 match ((ops[j]?).bind (·.dst)).map A.get with
 | some (.lit (.bool g))=>some (g==b)
 | some (.gv c (.lit (.bool g)))=>some (c&&(g==b))
 | _=>none
theorem nP{A:AS}{o:Oper}{j:Nat}{b G:Bool}{x y:Prop}(hg:o.guard=some (j,b))(h:MQ A ops j b=some G)(hx:G=true->x)(hy:G=false->y):gd ops o A x y:=by
 unfold MQ at h
 unfold gd
 rw[hg]
 simp only
 split at h
 rename_i g e
 try rw[e]
 simp only[ZY]at h ⊢
 subst h
 split
 rename_i e';exact hx (by simp[e'])
 rename_i e';exact hy (by simp[e'])
 rename_i c g e
 try rw[e]
 simp only[ZY]at h ⊢
 subst h
 split
 rename_i e';exact hx e'
 rename_i e';exact hy (by simpa using e')
 simp at h
def OB(N:Nat):List Operand->Bool
 | []=>true
 | .tmp t::r=>decide (t<N)&&OB N r
 | _::r=>OB N r
theorem nq:∀ {xs:List Operand},OB N xs=true->∀ t,Operand.tmp t∈xs->t<N
 | [],_,t,ht=>by simp at ht
 | x::xs,h,t,ht=>by
   cases x with
   | tmp t'=>
     simp only[OB,ZX,Zq]at h
     simp only[List.mem_cons]at ht
     rcases ht with e | ht
     injection e with e;subst e;exact h.1
     exact nq h.2 t ht
   | _=>
     simp only[List.mem_cons,reduceCtorEq,false_or]at ht
     exact nq (xs:=xs) (by simpa[OB] using h) t ht
theorem FY{o:Oper} {l:List Oper} {K:AS->Prop} {j:Nat} {b G:Bool} {C C':Prop} {B:AS} {v:V} {xs:List Operand} (hg:o.guard=some (j,b)) (hG:MQ A ops j b=some G) (hu:AS.un G xs A=(C,B))
 (x4:E9 P B o.op=some (C',v)) (K1:OB N xs=true) (hd:bX N o.dst) (hC:G=true->C/\C'/\v.fH=false)
 (hK:WL P N ops l (A.put o.dst (.gv G v)) K):WL P N ops (o::l) A K:=by
 refine nP hg hG (fun Mb=>?_) (fun R'=>?_)
 obtain⟨h1,h2,h3⟩:=hC Mb
 refine gY (v:=.gv G v) hd hK fun Pb Kb a w F hs=>?_
 obtain⟨F',x5⟩:=iJ Mb _ hu h1 hs (nq K1)
 obtain⟨x,hx,hr⟩:=tX x4 h2 x5 rfl
 exact⟨x,hx,rfl,fun _=>xz hr h3,fun h=>by rw[Mb]at h;cases h⟩
 exact⟨hd,.gv G v,fun _ _=>⟨rfl,(fun h=>by rw[R']at h;cases h),fun _=>rfl⟩,hK⟩
theorem bb{x:Operand}(h:∀ t,x=.tmp t->A'.get t=A.get t):A'.ev x=A.ev x:=by
 cases x with
 | tmp t=>exact h t rfl
 | _=>rfl
theorem jN{x:Operand}(h:∀ t,x=.tmp t->A'.get t=A.get t):A'.cp x=A.cp x:=by
 cases x with
 | tmp t=>simp only[AS.cp,h t rfl]
 | _=>rfl
theorem sH{x:Option Operand}(h:∀ t,x=some (.tmp t)->A'.get t=A.get t):x.map A'.ev=x.map A.ev:=by
 cases x with
 | none=>rfl
 | some y=>simp only[Option.map_some,bb (x:=y) fun t e=>h t (by rw[e])]
theorem iO{G:Bool}:∀ (xs:List Operand) {A A' B:AS} {C:Prop},AS.un G xs A=(C,B)->(∀ t,Operand.tmp t∈xs->A'.get t=A.get t)->
 ∃ B',AS.un G xs A'=(C,B')/\(∀ t,A'.get t=A.get t->B'.get t=B.get t)/\B'.h=A'.h/\B.h=A.h
 | [],A,A',B,C,h,_=>by
   simp only[AS.un,ZV]at h;obtain⟨rfl,rfl⟩:=h
   exact⟨A',rfl,fun _ h=>h,rfl,rfl⟩
 | x::xs,A,A',B,C,h,hx=>by
   have Mm:∀ t,Operand.tmp t∈xs->A'.get t=A.get t:=fun t ht=>hx t (by simp[ht])
   cases x with
   | tmp t=>
     have ht:=hx t Z8
     simp only[AS.un]at h ⊢
     rw[ht]
     split at h
     rename_i b v hg
     cases hu:AS.un G xs (A.put (some t) v) with
     | mk C1 B1=>
       rw[hu]at h
       simp only[ZV]at h
       obtain⟨rfl,rfl⟩:=h
       obtain⟨B',k1,k2,k3,k4⟩:=iO xs (A':=A'.put (some t) v) hu (fun t' We=>by
        rw[AS.au,AS.au];split
        rfl
        exact Mm t' We)
       refine⟨B',by simp only[k1],fun t' We=>k2 t' ?_,by rw[k3];rfl,by rw[k4];rfl⟩
       rw[AS.au,AS.au];split
       rfl
       exact We
     exact iO xs h Mm
   | const c=>exact iO xs h Mm
   | global g=>exact iO xs h Mm
   | func f=>exact iO xs h Mm
theorem dS{o:Oper}{t:Nat}(h:Operand.tmp t∈o.op.operands.toList):t∈o.looksAt ops:=by
 unfold Oper.looksAt;rw[ZN];exact .inl (List.mem_filterMap.2 ⟨_,h,rfl⟩)
theorem pV{xs:List Operand}(h:∀ t,Operand.tmp t∈xs->A'.get t=A.get t):xs.map A'.cp=xs.map A.cp:=by
 apply List.map_congr_left
 intro x hx
 exact jN fun t e=>h t (by rw[<- e];exact hx)
theorem PC.er{f:FuncId}{L:List V}{Q:V->Prop}(h:PC P f L Q):PC P f L (fun r=> ∃ r',Q r'/\r=r'.er):=by
 refine⟨h.1,fun w Pb cargs h1 h2=>(h.2 w Pb cargs h1 h2).mono ?_⟩
 rintro e w' ⟨r,x,F,Pb',rfl,q,hr,hnd,hF,k1,k2,hb⟩
 refine⟨r.er,x,[],fun g=>Pb' g\/g∈F,rfl,⟨r,q,rfl⟩,AZ hr (fun g hg=>.inl hg) (fun g hg=>.inr hg),ZA,Z8,fun g hg=>.inl (k1 g hg),fun g hg=>?_,hb⟩
 rcases hg with hg | hg
 exact k2 g hg
 exact .inr ⟨(hF g hg).1,(hF g hg).2.1⟩
theorem Ed{K:AS->Prop} {d:Option Nat} {f:FuncId} {xs:Array Operand} {J4:Array TypeId} {ty:TypeId} {pos:String} {after:Array Edge} {rest:List Oper}
 {j:Nat} {b G:Bool} {C:Prop} {B:AS} {L:List V} {E:V} (hd:bX N d) (hG:MQ A ops j b=some G) (hu:AS.un G xs.toList A=(C,B)) (K1:OB N xs.toList=true)
 (hL:xs.toList.map B.cp=L) (hc:G=true->C/\PC P f L (fun r=>r.er=E)/\E.fH=false/\E.cB=false) (hK:WL P N ops rest (A.put d (.gv G E)) K):
 WL P N ops (⟨d,.call { callee:=.value (.func f),args:=xs,argTypes:=J4 },ty,pos,after,some (j,b)⟩ :: rest) A K:=by
 subst hL
 refine nP (j:=j) (b:=b) rfl hG (fun Mb=>?_) (fun R'=>⟨hd,.gv G E,fun _ _=>⟨rfl,(fun h=>by rw[R']at h;cases h),fun _=>rfl⟩,hK⟩)
 obtain⟨h1,h2,h3,h4⟩:=hc Mb
 intro Pb Kb a w F Q' hs
 obtain⟨F',x5⟩:=iJ Mb _ hu h1 hs (nq K1)
 have hw:=lV Mb _ hu h1
 have I4:=mT (N:=N) (o:=⟨d,.call { callee:=.value (.func f),args:=xs,argTypes:=J4 },ty,pos,after,some (j,b)⟩) (K:=fun A'=>A'=B.put d E) (A:=B) rfl hd h2 (fun _ h=>h) rfl
 refine Oper.wp_mono ?_ (I4 Pb Kb a w F' Q' x5)
 rintro a' w' ⟨A',Pb',C4,F2,rfl,J1,k3,k4,k5,k6⟩
 refine⟨_,Pb',C4,F2,hK,J1.wrap ?_,k3,k4,k5,k6⟩
 cases d with
 | none=>exact hw
 | some d=>
   refine⟨fun i=>?_,hw.2⟩
   rw[AS.au,AS.au]
   by_cases e:i=d
   rw[if_pos e,if_pos e];exact .inr ⟨G,rfl,Mb,h4,h3⟩
   rw[if_neg e,if_neg e];exact hw.1 i
end
def Fh(op:BinOp)(a b:BL):Option (Prop×V):=
 match op with
 | .add=>some (a.length+b.length<=4611686018427387904,.lit (.string (Str (a++b))))
 | .eql=>some (True,.lit (.bool (a==b)))
 | .neq=>some (True,.lit (.bool (!(a==b))))
 | _=>none
def Be(op:BinOp)(d:Option D)(x y:V):Option (Prop×V):=
 match d,x,y with
 | some .str,.lit (.string a),.lit (.string b)=>Fh op a.data.toList b.data.toList
 | d,x,y=>rT op d x y
def Kn:Option D->V->V->Option (Prop×V)
 | some .str,.lit (.string s),.lit (.int _ i)=>some (0<=i/\i<s.data.toList.length,.lit (.int .u8 (s.data.toList.getD i.toNat 0).toNat))
 | _,_,_=>none
def Gf(s:BL)(lo hi:Option V):Option (Prop×V):=
 match SN lo,R6 s.length hi with
 | some l,some h=>some (0<=l/\l<=h/\h<=s.length,.lit (.string (Str ((s.take h.toNat).drop l.toNat))))
 | _,_=>none
def Jy(x:V)(lo hi:Option V):Option (Prop×V):=
 match x with
 | .lit (.string s)=>Gf s.data.toList lo hi
 | _=>none
def Eo:Option D->V->Option (Prop×V)
 | some .str,.lit (.string s)=>some (True,.lit (.int .i64 s.data.toList.length))
 | d,x=>xK d x
def AE(P:Program)(A:AS)(c:Call):Option (Prop×V):=
 match c.callee with
 | .builtin .len=>match c.args.toList,c.argTypes.toList with
   | [x],[T]=>Eo (tD P T) (A.ev x)
   | _,_=>none
 | .builtin .max=>match c.args.toList with
   | [x,y]=>BA (A.ev x) (A.ev y)
   | _=>none
 | _=>none
def yu(P:Program)(d:Option D)(x:V)(j:Nat):Option (Prop×V):=
 match d with
 | some (.st fs)=>match fs[j]? with
   | some (off,T)=>match ti P T with
     | some i=>match x with
       | .agg vs=>match vs[j]? with
         | some v=>if (V.ns (vs.take j)==off&&(i.sz==v.n&&i.d.agg==v.isAgg))=true then some (True,v) else none
         | none=>none
       | _=>none
     | none=>none
   | none=>none
 | _=>none
def nW(P:Program)(d:Option D)(x:V)(j:Nat):Option (Prop×V):=
 match d with
 | some (.st fs)=>match fs[j]? with
   | some (off,T)=>match ti P T with
     | some i=>match x with
       | .ptr r p g o=>if (i.sz != 0)=true then some (True,.ptr r (p++[j]) g (o+off)) else none
       | .ep (.agg vs)=>match vs[j]? with
         | some v=>if (i.sz != 0&&V.ns (vs.take j)==off)=true then some (True,.ep v) else none
         | none=>none
       | _=>none
     | none=>none
   | none=>none
 | _=>none
def GD(A:AS)(i:Option TI)(x:V)(u9:List V):Option (Prop×V×List V):=
 match i with
 | some i=>match x with
   | .ptr r p g o=>match u9 with
     | []=>none
     | .b7::u9=>match A.at r p with
       | some (g',o',v)=>if (v.n==i.sz&&i.d.agg==v.isAgg)=true then some ((g',o')=(g,o),v.Po r p,u9) else none
       | none=>none
     | v::u9=>if (v.n==i.sz&&i.d.agg==v.isAgg)=true then some (A.at r p=some (g,o,v),v.Po r p,u9) else none
   | .ep v=>if (v.n==i.sz&&i.d.agg==v.isAgg)=true then some (True,v,u9) else none
   | _=>none
 | none=>none
def wO(u9:List V):Option (Prop×V)->Option (Prop×V×List V)
 | some (C,v)=>some (C,v,u9)
 | none=>none
def tj(P:Program)(d:Option D)(x i:V)(u9:List V):Option (Prop×V×List V):=
 match d,i with
 | some (.sl e),.lit (.int _ i)=>match ti P e with
   | some t=>match x with
     | .sl _ xs=>match u9 with
       | v::u9=>if (v.n==t.sz)=true then some (0<=i/\xs[i.toNat]? =some v,.ep v,u9) else none
       | []=>none
     | .hd r p sz g o lo n _=>if (sz==t.sz)=true then some (0<=i/\i<n,.ptr r (p++[lo+i.toNat]) g (o+(lo+i.toNat)*sz),u9) else none
     | _=>none
   | none=>none
 | d,i=>wO u9 (iv P d x i)
def sY(P:Program)(A:AS)(op:Op)(u9:List V):Option (Prop×V×List V):=
 match op with
 | .binOp o T x y _=>wO u9 (Be o (tD P T) (A.ev x) (A.ev y))
 | .index T x i=>wO u9 (Kn (tD P T) (A.ev x) (A.ev i))
 | .slice T x lo hi none=>match tD P T with
   | some .str=>wO u9 (Jy (A.ev x) (lo.map A.ev) (hi.map A.ev))
   | d=>wO u9 (AR P d (A.ev x) (lo.map A.ev) (hi.map A.ev))
 | .call c=>wO u9 (AE P A c)
 | .field T x j=>wO u9 (yu P (tD P T) (A.cp x) j)
 | .fieldAddr T x j=>wO u9 (nW P (tD P T) (A.ev x) j)
 | .load T x=>GD A (ti P T) (A.ev x) u9
 | .indexAddr T x i=>tj P (tD P T) (A.ev x) (A.ev i) u9
 | op=>wO u9 (E9 P A op)
section
variable {P:Program} {N:Nat} {ops:Array Oper} {A A':AS}
theorem oK(s:ByteArray):Str s.data.toList=s:=by apply ByteArray.ext;simp[Str]
theorem dW{u9 Nz:List V}{x:Option (Prop×V)}{C:Prop}{v:V}(h:wO u9 x=some (C,v,Nz)):x=some (C,v):=by
 cases x with
 | none=>simp[wO]at h
 | some y=>obtain⟨a,b⟩:=y;simp only[wO,ZY,ZV]at h;obtain⟨rfl,rfl,_⟩:=h;rfl
theorem HY{op:BinOp}{d:Option D}{x y:V}{C:Prop}{v:V}(h:Be op d x y=some (C,v))(hC:C):∃ C',rT op d x y=some (C',v)/\C':=by
 unfold Be at h
 split at h
 rename_i a b
 simp only[rT]
 cases op <;> simp only[Fh,ZY,ZV,reduceCtorEq]at h <;> obtain⟨rfl,rfl⟩:=h
 refine⟨a.size+b.size<=4611686018427387904,?_,by rw[Array.length_toList,Array.length_toList]at hC;exact hC⟩
 simp only[uT];rw[<- Hv,oK,oK]
 refine⟨True,?_,trivial⟩
 simp only[uT,Lib.toList_data]
 refine⟨True,?_,trivial⟩
 simp only[uT,Lib.toList_data]
 exact⟨C,h,hC⟩
theorem qn{op:Op}{u9 Nz:List V}{C:Prop}{v:V}(h:sY P A op u9=some (C,v,Nz))(hC:C):∃ C',E9 P A op=some (C',v)/\C':=by
 unfold sY at h
 split at h
 exact HY (dW h) hC
 rename_i T x i
 have h:=dW h
 unfold Kn at h
 split at h
 rename_i s k i' e1 e2 e3
 simp only[ZY,ZV]at h
 obtain⟨rfl,rfl⟩:=h
 refine⟨0<=i'/\i'<s.size,?_,by rw[Array.length_toList]at hC;exact hC⟩
 simp only[E9,NN,EJ,e1,e2,e3]
 rw[<- oK s,JR];rfl
 simp at h
 rename_i T x lo hi
 split at h
 rename_i e
 have h:=dW h
 simp only[E9,e]
 unfold Jy at h
 split at h
 rename_i s e'
 unfold Gf at h
 split at h
 rename_i l hh e1 e2
 simp only[ZY,ZV]at h
 obtain⟨rfl,rfl⟩:=h
 have T6:R6 s.size (hi.map A.ev)=some hh:=by
  rw[<- e2,Array.length_toList];rfl
 refine⟨0<=l/\l<=hh/\hh<=s.size,?_,by rw[Array.length_toList]at hC;exact hC⟩
 simp only[Ax,e',EP,e1,T6]
 rw[<- Hk,oK]
 simp at h
 simp at h
 rename_i d hd
 have h:=dW h
 refine⟨C,?_,hC⟩
 simp only[E9]
 exact h
 rename_i c
 have h:=dW h
 unfold AE at h
 split at h
 rename_i hc
 split at h
 rename_i x T hx hT
 simp only[E9,NN,sZ,hc,hx,hT]
 unfold Eo at h
 split at h
 rename_i s e1 e2
 simp only[ZY,ZV]at h
 obtain⟨rfl,rfl⟩:=h
 exact⟨True,by simp only[xK,e1,e2,ByteArray.size,Array.length_toList],trivial⟩
 exact⟨C,h,hC⟩
 simp at h
 rename_i hc
 split at h
 rename_i x y hx
 simp only[E9,NN,sZ,hc,hx]
 exact⟨C,h,hC⟩
 simp at h
 simp at h
 rename_i T x j
 have h:=dW h
 simp only[E9]
 unfold yu at h
 split at h
 rename_i fs e1
 split at h
 rename_i off T' e2
 split at h
 rename_i i e3
 split at h
 rename_i vs e4
 split at h
 rename_i u e5
 split at h
 rename_i hb
 simp only[ZY,ZV]at h
 obtain⟨_,rfl⟩:=h
 simp only[ZX,Zp]at hb
 exact⟨_,by simp only[tO,e1,e2,e3,e4,e5],hb⟩
 simp at h
 simp at h
 simp at h
 simp at h
 simp at h
 simp at h
 rename_i T x j
 have h:=dW h
 simp only[E9]
 unfold nW at h
 split at h
 rename_i fs e1
 split at h
 rename_i off T' e2
 split at h
 rename_i i e3
 split at h
 rename_i r p g o e4
 split at h
 rename_i hb
 simp only[ZY,ZV]at h
 obtain⟨_,rfl⟩:=h
 exact⟨i.sz≠0,by simp only[jq,e1,e2,e3,e4],by simpa using hb⟩
 simp at h
 rename_i vs e4
 split at h
 rename_i u e5
 split at h
 rename_i hb
 simp only[ZY,ZV]at h
 obtain⟨_,rfl⟩:=h
 simp only[ZX,Zp,bne_iff_ne]at hb
 exact⟨_,by simp only[jq,e1,e2,e3,e4,e5],hb⟩
 simp at h
 simp at h
 simp at h
 simp at h
 simp at h
 simp at h
 rename_i T x
 simp only[E9]
 unfold GD at h
 split at h
 rename_i i e1
 split at h
 rename_i r p g o e2
 split at h
 simp at h
 split at h
 rename_i g1 o1 u e3
 split at h
 rename_i hb
 simp only[ZY]at h
 obtain⟨h1,h2⟩:=Prod.mk.inj h
 obtain⟨rfl,_⟩:=Prod.mk.inj h2
 subst h1
 obtain⟨rfl,rfl⟩:=Prod.mk.inj hC
 simp only[ZX,Zp]at hb
 exact⟨g1=g1/\o1=o1/\u.n=i.sz/\i.d.agg=u.isAgg,by simp only[jw,e1,e2,e3],rfl,rfl,hb.1,hb.2⟩
 simp at h
 simp at h
 rename_i u N2 _
 split at h
 rename_i hb
 simp only[ZY,ZV]at h
 obtain⟨rfl,rfl,_⟩:=h
 simp only[ZX,Zp]at hb
 exact⟨g=g/\o=o/\u.n=i.sz/\i.d.agg=u.isAgg,by simp only[jw,e1,e2,hC],rfl,rfl,hb.1,hb.2⟩
 simp at h
 rename_i u e2
 split at h
 rename_i hb
 simp only[ZY,ZV]at h
 obtain⟨_,rfl,_⟩:=h
 simp only[ZX,Zp]at hb
 exact⟨_,by simp only[jw,e1,e2],hb⟩
 simp at h
 simp at h
 simp at h
 rename_i T x i
 simp only[E9]
 unfold tj at h
 split at h
 rename_i e k i' e1 e2
 split at h
 rename_i t e3
 split at h
 rename_i full xs e4
 split at h
 rename_i u N2
 split at h
 rename_i hb
 simp only[ZY,ZV]at h
 obtain⟨rfl,rfl,_⟩:=h
 obtain⟨h0,hx⟩:=hC
 have hlt:=(ZH.1 hx).1
 have hv:xs.getD i'.toNat .b7=u:=by rw[ZZ,hx];rfl
 exact⟨0<=i'/\i'<xs.length/\u.n=t.sz,by simp only[iv,e1,e2,e3,e4,hv],h0,Z9,by simpa using hb⟩
 simp at h
 simp at h
 rename_i r p sz g o lo n c e4
 split at h
 rename_i hb
 simp only[ZY,ZV]at h
 obtain⟨rfl,rfl,_⟩:=h
 exact⟨0<=i'/\i'<n/\sz=t.sz,by simp only[iv,e1,e2,e3,e4],hC.1,hC.2,by simpa using hb⟩
 simp at h
 simp at h
 simp at h
 exact⟨C,dW h,hC⟩
 exact⟨C,dW h,hC⟩
theorem AS.le_refl(A:AS):A.le A:=⟨fun _=>.inr rfl,fun _=>.inr rfl⟩
theorem AS.le_trans{A B C:AS}(h:A.le B)(k:B.le C):A.le C:=
 ⟨fun i=>by
  rcases h.1 i with e | e
  exact .inl e
  rw[e];exact k.1 i,
  fun i=>by
   rcases h.2 i with e | e
   exact .inl e
   rw[e];exact k.2 i⟩
theorem FT{o:Oper}{K K':AS->Prop}(h:D3 P N o A K)(hK:∀ B,K B->K' B):D3 P N o A K':=
 fun Pb Kb a w F Q hs=>Oper.wp_mono (fun _ _ hn=>hn.mono hK) (h Pb Kb a w F Q hs)
def AX(A:AS):List Nat->List (Nat×(Nat×V))
 | []=>[]
 | k::ks=>match lk k A.h with
   | some v=>(k,v)::AX A ks
   | none=>AX A ks
def ee(ks hs:List Nat)(A:AS):AS:=⟨ks.map fun k=>(k,A.get k),AX A hs⟩
def kH:Op->Bool
 | .move _ | .extract _ _ | .call _ | .field _ _ _ | .fieldAddr _ _ _=>true
 | .binOp o _ _ _ _=>match o with
   | .eql | .neq | .lss | .leq | .gtr | .geq=>true
   | _=>false
 | .unOp o _ _=>match o with
   | .not=>true
   | _=>false
 | _=>false
theorem lq{op:Op}{u9 Nz:List V}{C:Prop}{v:V}(ht:kH op=true)(h:sY P A op u9=some (C,v,Nz)):C:=by
 have hB:∀ {o:BinOp} {k:IntKind} {a b:Int} {C:Prop} {v:V},(o=.eql\/o=.neq\/o=.lss\/o=.leq\/o=.gtr\/o=.geq)->tZ o k a b=some (C,v)->C:=by
  intro o k a b C v ho h
  rcases ho with rfl | rfl | rfl | rfl | rfl | rfl <;> (simp only[tZ,iP,ZY,ZV]at h;rw[<- h.1];trivial)
 cases op with
 | move x=>have h:=dW (show wO u9 (E9 P A (.move x))=_ from h);simp only[E9,NN,ZY,ZV]at h;rw[<- h.1];trivial
 | extract x i=>
   have h:=dW (show wO u9 (E9 P A (.extract x i))=_ from h)
   simp only[E9,NN]at h
   unfold Ek at h
   repeat (split at h <;> try (solve | simp at h))
   all_goals (simp only[ZY,ZV]at h;rw[<- h.1];trivial)
 | call c=>
   have h:=dW h
   unfold AE at h
   split at h
   split at h
   unfold Eo at h
   split at h
   simp only[ZY,ZV]at h;rw[<- h.1];trivial
   unfold xK at h
   split at h <;> first | (solve | simp at h) | (simp only[ZY,ZV]at h;rw[<- h.1];trivial)
   simp at h
   split at h
   unfold BA at h
   split at h
   split at h
   simp only[ZY,ZV]at h;rw[<- h.1];trivial
   simp at h
   simp at h
   simp at h
   simp at h
 | field T x j=>
   have h:=dW h
   unfold yu at h
   repeat (split at h <;> try (solve | simp at h))
   all_goals (simp only[ZY,ZV]at h;rw[<- h.1];trivial)
 | fieldAddr T x j=>
   have h:=dW h
   unfold nW at h
   repeat (first | (solve | simp at h) | split at h)
   all_goals first | (solve | simp at h) | (obtain⟨rfl,_⟩:=h;trivial) | (simp only[ZY,ZV]at h;rw[<- h.1];trivial) | (split at h <;> first | (solve | simp at h) | (split at h <;> first | (solve | simp at h) | (simp only[ZY,ZV]at h;rw[<- h.1];trivial)))
 | binOp o T x y pos=>
   have h:=dW h
   have ho:o=.eql\/o=.neq\/o=.lss\/o=.leq\/o=.gtr\/o=.geq:=by cases o <;> simp[kH]at ht ⊢
   unfold Be at h
   split at h
   rcases ho with rfl | rfl | rfl | rfl | rfl | rfl <;> simp only[Fh,ZY,ZV,reduceCtorEq]at h <;> (rw[<- h.1];trivial)
   unfold rT at h
   split at h
   split at h
   exact hB ho h
   split at h
   exact hB ho h
   simp at h
   rcases ho with rfl | rfl | rfl | rfl | rfl | rfl <;> simp only[uT,ZY,ZV,reduceCtorEq]at h <;> (rw[<- h.1];trivial)
   rcases ho with rfl | rfl | rfl | rfl | rfl | rfl <;> simp only[AB,ZY,ZV,reduceCtorEq]at h <;> (rw[<- h.1];trivial)
   simp at h
 | unOp o T x=>
   have h:=dW (show wO u9 (E9 P A (.unOp o T x))=_ from h)
   have ho:o=.not:=by cases o <;> simp[kH]at ht ⊢
   subst ho
   simp only[E9,NN]at h
   unfold VO at h
   split at h
   all_goals first | (solve | simp at h) | (simp only[ZY,ZV]at h;rw[<- h.1];trivial) | (simp_all;done)
 | _=>simp[kH]at ht
def gH:Op->List Operand
 | .pick c _ _=>[c]
 | op=>op.operands.toList
def lQ(P:Program)(N:Nat)(ops:Array Oper):Nat->List Oper->List V->AS->Option (Prop×AS)
 | 0,_,_,A=>some (True,A)
 | _+1,[],_,A=>some (True,A)
 | n+1,o::rest,u9,A=>
   match o.dst with
   | none=>none
   | some d=>if d<N then
     match o.guard with
     | some (j,b)=>match MQ A ops j b with
       | some G=>match AS.un G (gH o.op) A with
         | (C0,B)=>match sY P B o.op u9 with
           | some (C,v,u9)=>if (OB N (gH o.op)&&!v.fH)=true then match lQ P N ops n rest u9 (A.put (some d) (.gv G v)) with
             | some (C',A')=>some ((G=true->C0/\C)/\C',A')
             | none=>none else none
           | none=>none
       | none=>none
     | none=>match o.op with
       | .assign x=>lQ P N ops n rest u9 ((A.drop x).put (some d) (A.ev x))
       | op=>match sY P A op u9 with
         | some (C,v,u9)=>match lQ P N ops n rest u9 (A.put (some d) v) with
           | some (C',A')=>if kH op=true then some (C',A') else some (C/\C',A')
           | none=>none
         | none=>none
     else none
theorem nt{K:AS->Prop}:∀ (n:Nat) {l:List Oper} {u9:List V} {A A':AS} {C:Prop},
 lQ P N ops n l u9 A=some (C,A')->C->WL P N ops (l.drop n) A' K->WL P N ops l A K
 | 0,l,u9,A,A',C,h,hC,hK=>by
   simp only[lQ,ZY,ZV]at h;obtain⟨_,rfl⟩:=h;exact hK
 | n+1,[],u9,A,A',C,h,hC,hK=>by
   simp only[lQ,ZY,ZV]at h;obtain⟨_,rfl⟩:=h;exact hK
 | n+1,o::l,u9,A,A',C,h,hC,hK=>by
   have Oi:(o::l).drop (n+1)=l.drop n:=rfl
   rw[Oi]at hK
   unfold lQ at h
   split at h
   simp at h
   rename_i d hd
   split at h
   case isFalse=>simp at h
   rename_i Q7
   have Nh:bX N o.dst:=by rw[hd];exact Q7
   cases hg:o.guard with
   | some jb=>
     obtain⟨j,b⟩:=jb
     rw[hg]at h
     simp only at h
     split at h
     case h_2=>simp at h
     rename_i G hG
     cases hu:AS.un G (gH o.op) A with
     | mk C0 B=>
       rw[hu]at h
       simp only at h
       split at h
       case h_2=>simp at h
       rename_i C1 v N2 x4
       split at h
       case isFalse=>simp at h
       rename_i K1
       simp only[ZX,Bool.not_eq_true']at K1
       split at h
       case h_2=>simp at h
       rename_i C2 A2 hr
       simp only[ZY,ZV]at h
       obtain⟨rfl,rfl⟩:=h
       by_cases Mb:G=true
       obtain⟨C',h1,h2⟩:=qn x4 (hC.1 Mb).2
       exact FY hg hG hu h1 K1.1 Nh (fun _=>⟨(hC.1 Mb).1,h2,K1.2⟩) (by rw[hd];exact nt n hr hC.2 hK)
       refine nP hg hG (fun c=>absurd c Mb) (fun R'=>⟨Nh,.gv G v,fun _ _=>⟨rfl,(fun h=>absurd h Mb),fun _=>rfl⟩,?_⟩)
       rw[hd];exact nt n hr hC.2 hK
   | none=>
     rw[hg]at h
     simp only at h
     show gd ops o A _ _
     unfold gd
     rw[hg]
     simp only
     split at h
     rename_i x K0
     exact sE K0 Nh (by rw[hd];exact nt n h hC hK)
     · split at h
       case h_2=>simp at h
       rename_i C1 v N2 x4
       split at h
       case h_2=>simp at h
       rename_i C2 A2 hr
       split at h
       rename_i ht
       simp only[ZY,ZV]at h
       obtain⟨rfl,rfl⟩:=h
       obtain⟨C',h1,h2⟩:=qn x4 (lq ht x4)
       exact uD h1 h2 Nh (by rw[hd];exact nt n hr hC hK)
       simp only[ZY,ZV]at h
       obtain⟨rfl,rfl⟩:=h
       obtain⟨C',h1,h2⟩:=qn x4 hC.1
       exact uD h1 h2 Nh (by rw[hd];exact nt n hr hC.2 hK)
theorem BO(op:Op):∀ t,Operand.tmp t∈gH op->Operand.tmp t∈op.operands.toList:=by
 intro t ht
 cases op with
 | pick c a b=>simp only[gH,ZP]at ht;simp[Op.operands,ht]
 | _=>exact ht
def jl(P:Program):List ResultVar->List (l6×V)->Bool
 | .cell _ T::rs,(_,v)::xs=>(match ti P T with | some i=>v.n==i.sz&&i.d.agg==v.isAgg | none=>false)&&jl P rs xs
 | .tmp _::rs,(_,v)::xs=>(match v with | .tup _=>false | .gv _ _=>false | _=>true)&&jl P rs xs
 | [],[]=>true
 | _,_=>false
theorem nM:∀ {rs:List ResultVar} {xs:List (l6×V)},jl P rs xs=true->nU P rs xs
 | [],[],_=>trivial
 | .cell t T::rs,(r,v)::xs,h=>by
   simp only[jl,ZX]at h
   refine⟨?_,nM h.2⟩
   have h1:=h.1
   cases ht:ti P T with
   | none=>rw[ht]at h1;simp at h1
   | some i=>rw[ht]at h1;simpa using h1
 | .tmp t::rs,(r,v)::xs,h=>by
   simp only[jl,ZX]at h
   refine⟨?_,nM h.2⟩
   have h1:=h.1
   cases v <;> first | trivial | simp at h1
 | [],_::_,h=>by simp[jl]at h
 | .cell _ _::_,[],h=>by simp[jl]at h
 | .tmp _::_,[],h=>by simp[jl]at h
def nodupB:List l6->Bool
 | []=>true
 | r::rs=>!(rs.any fun x=>decide (x=r))&&nodupB rs
theorem rV:∀ {l:List l6},nodupB l=true->l.Nodup
 | [],_=>ZA
 | r::rs,h=>by
   simp only[nodupB,ZX,Bool.not_eq_true',List.any_eq_false,Zq]at h
   exact List.nodup_cons.2 ⟨fun c=>h.1 r c rfl,rV h.2⟩
abbrev iN(n:Nat):V:=.lit (.int .i64 n)
abbrev iV(x:Int):V:=.lit (.int .i64 x)
abbrev uN(n:Nat):V:=.lit (.int .u8 n)
abbrev bV(b:Bool):V:=.lit (.bool b)
abbrev sV(l:BL):V:=.lit (.string (Str l))
theorem aj{α:Type}{f:α->V}{l:List α}{i:Nat}{d:α}(h:i<l.length):(l.map f)[i]? =some (f (l.getD i d)):=by
 rw[List.getElem?_map,ZR h,ZZ,ZR h];rfl
theorem all_map{α:Type}{f:α->V}{l:List α}{n:Nat}(h:∀ x,(f x).n=n):∀ x∈l.map f,x.n=n:=by
 intro x hx
 obtain⟨y,_,rfl⟩:=List.mem_map.1 hx
 exact h y
end
section
variable {P:Program} {N:Nat} {ops:Array Oper} {A A' A1:AS}
def Ui(P:Program)(e:Nat)(sz:Nat):Bool:=match P.info? e with
 | some inf=>match inf.zero with
   | some z=>z.cells.size==sz
   | none=>false
 | none=>false
theorem kC{e sz:Nat}(h:Ui P e sz=true):∃ inf z,P.info? e=some inf/\inf.zero=some z/\z.cells.size=sz:=by
 unfold Ui at h
 split at h
 rename_i inf h1
 split at h
 rename_i z h2;exact⟨inf,z,h1,h2,by simpa using h⟩
 simp at h
 simp at h
def Gy(P:Program)(T:Nat):Option (List Value):=match P.info? T with
 | some inf=>match inf.zero with
   | some z=>some z.cells.toList
   | none=>none
 | none=>none
theorem dk{T:Nat}{v:V}{cs:List Value}(h:Gy P T=some cs)(hv:v.flat=some cs):lU P T v:=by
 unfold Gy at h
 split at h
 rename_i inf h1
 split at h
 rename_i z h2;exact⟨inf,z,h1,h2,by rw[hv,h]⟩
 simp at h
 simp at h
def Az(sz:Nat):List V->Bool
 | []=>true
 | v::vs=>v.isVal&&v.n==sz&&Az sz vs
theorem uy{sz:Nat}:∀ {vs:List V},Az sz vs=true->∀ v,v∈vs->v.isVal=true/\v.n=sz
 | [],_,v,hv=>by simp at hv
 | u::us,h,v,hv=>by
   simp only[Az,ZX,Zp]at h
   simp only[List.mem_cons]at hv
   rcases hv with rfl | hv
   exact h.1
   exact uy h.2 v hv
def QP(P:Program)(T e len:Nat)(i:TI)(vs:List V):Bool:=Ui P e i.sz&&vs.length==len&&Nat.ble (len*i.sz) 16777216&&Nat.blt 0 i.sz&&Az i.sz vs
theorem BP{o:Oper} {K:AS->Prop} {T e len:Nat} {a8:Array (Nat×Operand)} {i:TI} {vs:List V} (ho:o.op=.buildSlice T len a8) (hd:bX N o.dst) (hT:tD P T=some (.sl e)) (hi:ti P e=some i)
 (P5:ey A 0 a8.toList=some vs) (hB:QP P T e len i vs=true) (hK:K (A.put o.dst (.sl true vs))):D3 P N o A K:=by
 simp only[QP,ZX,Zp]at hB
 obtain⟨⟨⟨⟨h1,h2⟩,h3⟩,h4⟩,h5⟩:=hB
 obtain⟨inf,z,k1,k2,_⟩:=kC h1
 exact um ho hd hT hi ⟨inf,z,k1,k2⟩ P5 h2 (Nat.le_of_ble_eq_true h3) (Nat.lt_of_succ_le (Nat.le_of_ble_eq_true h4)) (uy h5) hK
theorem wb{K:AS->Prop} {d:Option Nat} {T len ty:Nat} {a8:Array (Nat×Operand)} {pos:String} {after:Array Edge} {rest:List Oper} (e:Nat) (i:TI) (vs:List V)
 (P6:tD P T=some (.sl e)/\ti P e=some i) (hd:bX N d) (P5:ey A 0 a8.toList=some vs) (hB:QP P T e len i vs=true) (hK:WL P N ops rest (A.put d (.sl true vs)) K):
 WL P N ops (⟨d,.buildSlice T len a8,ty,pos,after,none⟩ :: rest) A K:=by
 show D3 P N _ A _
 exact BP rfl hd P6.1 P6.2 P5 hB hK
theorem mU:∀ (ps:List (Nat×Operand)) (k:Nat),(∀ t,Operand.tmp t∈ps.map (·.2)->A'.get t=A.get t)->ey A' k ps=ey A k ps
 | [],_,_=>rfl
 | (i,x)::r,k,h=>by
   simp only[ey]
   rw[mU r (k+1) (fun t ht=>h t (by simp[ht])),jN (x:=x) (fun t e=>h t (by simp[e]))]
def so(places:List (Nat×Nat)):List V->List (Nat×V)->Option (List V)
 | zs,[]=>some zs
 | zs,(i,v)::r=>match places[i]?,zs[i]? with
   | some (off,sz),some z=>if (V.ns (zs.take i)==off&&v.n==sz&&z.n==sz&&v.isVal)=true then so places (zs.set i v) r else none
   | _,_=>none
theorem xQ{places:List (Nat×Nat)}:∀ {ps:List (Nat×V)} {zs vs:List V},so places zs ps=some vs->∃ C,nZ places zs ps=some (C,vs)/\C
 | [],zs,vs,h=>by simp only[so,ZY]at h;subst h;exact⟨True,rfl,trivial⟩
 | (i,v)::r,zs,vs,h=>by
   simp only[so]at h
   split at h
   rename_i off sz z h1 h2
   split at h
   rename_i hb
   simp only[ZX,Zp]at hb
   obtain⟨C,hf,hC⟩:=xQ h
   exact⟨V.ns (zs.take i)=off/\v.n=sz/\z.n=sz/\v.isVal=true/\C,by simp only[nZ,h1,h2,hf],hb.1.1.1,hb.1.1.2,hb.1.2,hb.2,hC⟩
   simp at h
   simp at h
def kr(P:Program)(A:AS)(T:Nat)(zs:List V)(a8:List (Nat×Operand)):Option V:=
 match tD P T with
 | some (.st fs)=>match lz P fs with
   | some places=>match so places zs (a8.map fun (i,x)=>(i,A.cp x)) with
     | some vs=>some (.agg vs)
     | none=>none
   | none=>none
 | _=>none
theorem vZ{T:Nat}{zs:List V}{a8:List (Nat×Operand)}{v:V}(h:kr P A T zs a8=some v):∃ C,pT P A T zs a8=some (C,v)/\C:=by
 unfold kr at h
 split at h
 rename_i fs h1
 split at h
 rename_i places h2
 split at h
 rename_i vs h3
 simp only[ZY]at h
 subst h
 obtain⟨C,hf,hC⟩:=xQ h3
 exact⟨C,by simp only[pT,h1,h2,hf],hC⟩
 simp at h
 simp at h
 simp at h
theorem Ei{K:AS->Prop} {d:Option Nat} {T ty:Nat} {a8:Array (Nat×Operand)} {pos:String} {after:Array Edge} {rest:List Oper} (zs:List V) (v:V)
 (hz:lU P T (.agg zs)) (hd:bX N d) (hb:kr P A T zs a8.toList=some v) (hK:WL P N ops rest (A.put d v) K):
 WL P N ops (⟨d,.build T a8,ty,pos,after,none⟩ :: rest) A K:=by
 obtain⟨C,h1,h2⟩:=vZ hb
 show D3 P N _ A _
 exact vS rfl hd hz h1 h2 hK
end
section
variable {P:Program} {N:Nat} {ops:Array Oper} {A A' A1:AS}
variable {w:World} {Pb Kb:Nat->Prop} {a:Act} {F:l6->List Nat}
def m7(b:UInt8):V:=.lit (.int .u8 b.toNat)
theorem GF:∀ (bs:BL) {cs:List Value} {F:List Nat},RL w Pb (bs.map m7) cs F->cs=bs.map fun b=>Value.int .u8 (b.toNat:Int)
 | [],cs,F,h=>h.1
 | b::bs,cs,F,h=>by
   obtain⟨c1,c2,F1,F2,rfl,rfl,h1,h2⟩:=h
   rw[GF bs h2,h1.2.1];rfl
theorem ye:∀ (l:BL),RL w Pb (l.map m7) (l.map fun b=>Value.int .u8 (b.toNat:Int)) []
 | []=>⟨rfl,rfl⟩
 | b::l=>⟨[.int .u8 (b.toNat:Int)],_,[],[],rfl,rfl,⟨rfl,rfl,rfl⟩,ye l⟩
theorem nI:∀ (bs:BL),V.ay (bs.map m7)=false
 | []=>rfl
 | b::bs=>by simp[V.ay,m7,V.cB,nI bs]
theorem qa(bs:BL):aC 1 (bs.map m7):=fun x hx=>by
 obtain⟨b,_,rfl⟩:=List.mem_map.1 hx;rfl
theorem Ad:∀ (bs l:BL),(bs.map fun b=>(b.toNat:Int)).foldl (fun (r:ByteArray) n=>r.push (UInt8.ofNat n.toNat)) (Str l)=Str (l++bs)
 | [],l=>by simp
 | b::bs,l=>by
   simp only[Zw,List.foldl_cons]
   have:(Str l).push (UInt8.ofNat (b.toNat:Int).toNat)=Str (l++[b]):=by
    apply ByteArray.ext
    simp[Str,ByteArray.push]
   rw[this,Ad bs];simp
theorem qd{o:Oper} {K:AS->Prop} {src dst e:Nat} {x:Operand} {C:Prop} {bs:BL} (ho:o.op=.convert src dst x) (hd:bX N o.dst) (h1:tD P src=some (.sl e)) (h2:tD P e=some (.int .u8)) (h3:tD P dst=some .str)
 (hx:Nw A x=some (C,bs.map m7)) (hC:C) (hK:K (A.put o.dst (sV bs))):D3 P N o A K:=by
 refine gY hd hK fun Pb Kb a w F hs=>?_
 obtain⟨B,c,flat,hv,hr,hf,hl⟩:=lE (P:=P) hs hx hC (qa bs) (nI bs)
 obtain⟨td,Wc,LY⟩:=cb h1
 obtain⟨QS,M7,Py⟩:=cb h2
 obtain⟨VQ,Wb,VA⟩:=cb h3
 cases td <;> simp[da]at LY
 cases QS <;> simp[da]at Py
 cases VQ <;> simp[da]at VA
 subst LY Py
 refine⟨.string (Str bs),?_,cU rfl⟩
 have Qm:=GF bs hr
 simp only[execOp,ho,hv,ZK,run_convert_bytes_string w src dst _ B _ c Wc M7 Wb]
 have x8:(Conv.bytesToString (.slice B (bs.map m7).length c)).run P w=.ok (.string (Str bs)) w:=by
  cases B with
  | none=>
    have:=hf w (fun _=>rfl)
    rw[hv]at this
    simp only[Builtin.firstCells]at this
    have hb:flat=[]:=by
     have h:=this
     simp at h
     exact h
    rw[Qm]at hb
    have:bs=[]:=by simpa using hb
    subst this
    rfl
  | some ad=>
    have:=hf w (fun _=>rfl)
    rw[hv]at this
    simp only[Builtin.firstCells,Nat.mul_one]at this
    rw[run_bytesToString w ad _ c (bs.map fun b=>(b.toNat:Int)) (by rw[this,Qm];simp[List.map_map,Function.comp_def])]
    have:=Ad bs []
    simp only[List.nil_append]at this
    rw[<- this];rfl
 rw[x8];rfl
theorem yr{o:Oper} {K:AS->Prop} {src dst e d:Nat} {x:Operand} {l:BL} (ho:o.op=.convert src dst x) (hd:o.dst=some d) (hN:d<N) (h1:tD P src=some .str) (h2:tD P dst=some (.sl e)) (h3:tD P e=some (.int .u8))
 (hx:A.ev x=sV l) (hK:∀ g c,K (A.put (some d) (.own 1 (l.map m7) g 0 c))):D3 P N o A K:=by
 intro Pb Kb a w F Q hs
 obtain⟨td,Wc,LY⟩:=cb h1
 obtain⟨QS,M7,Py⟩:=cb h2
 obtain⟨VQ,Wb,VA⟩:=cb h3
 cases td <;> simp[da]at LY
 cases QS <;> simp[da]at Py
 cases VQ <;> simp[da]at VA
 obtain rfl:=Py
 subst VA
 rename_i el
 have Te:=bH hs hx
 have x8:=Lib.run_convert_string_bytes (P:=P) w src dst _ (Str l) Wc M7 Wb
 unfold Oper.wp
 have Mm:(execOp a.eval o).run P w=.ok (.value (.slice (some ⟨w.heap.size,0,none⟩) (Str l).size (grownCap w (Str l).size 0 el))) (Lib.bytesWorld w el (Str l)):=by
  simp only[execOp,ho,Te,ZK,x8,ZS];rfl
 rw[Mm,Oper.upon_value,hd]
 have hold:=fun j (hj:j<w.heap.size)=>Lib.bytesWorld_at_old w el (Str l) j hj
 have hsz:=Lib.bytesWorld_size w el (Str l)
 have NF:=Lib.bytesWorld_at_new w el (Str l)
 obtain⟨w',RX⟩:∃ w',w'=Lib.bytesWorld w el (Str l):=⟨_,rfl⟩
 obtain⟨c,hc⟩:∃ c,c=grownCap w (Str l).size 0 el:=⟨_,rfl⟩
 have hcap:l.length<=c:=by
  rw[hc,<- fS]
  simp only[grownCap,Question.cut];exact Nat.le_add_right _ _
 have O2:w5 Kb w w':=by
  rw[RX];exact⟨rfl,rfl,rfl,Z9,fun g hg=>hold g (hs.bound g hg),Shp.of_eq hold⟩
 have x5:r7 N Pb Kb A a w' F:=hs.grow (by rw[RX];exact hold) (by rw[RX];omega) (fun _ h=>h) (fun g h=>.inl h) hs.sub
 rw[<- RX,<- hc]
 have Tc:∀ r g,g∈F r->g≠w.heap.size:=fun r g hg=>by have:=(hs.free r g hg).2;omega
 have Ol: ¬ Kb w.heap.size:=fun h=>by have:=hs.bound _ h;omega
 by_cases h0:c=0
 have TR:l=[]:=ZF Z9
 subst TR
 have hrv:RV w' Pb (.own 1 (([]:BL).map m7) 0 0 0) (.slice (some ⟨w.heap.size,0,none⟩) (Str []).size c) []:=.inl ⟨rfl,rfl,rfl,some ⟨w.heap.size,0,none⟩,by rw[h0];rfl⟩
 exact⟨_,Pb,Kb,_,hK 0 0,x5.put hN (F':=[]) hrv Z8 ZA Z8,fun _ h=>h,fun _ h=>h,fun _ h=>.inl h,O2⟩
 have hrv:RV w' Pb (.own 1 (l.map m7) w.heap.size 0 c) (.slice (some ⟨w.heap.size,0,none⟩) (Str l).size c) [w.heap.size]:=by
  refine .inr ⟨Z9,Z9,by simpa using hcap,?_,qa l,fun h=>Ol (hs.sub _ h),l.map (fun b=>Value.int .u8 (b.toNat:Int)),[],Lib.bytesCells w el (Str l),rfl,ye l,?_,?_,?_⟩
  simp[fS]
  exact⟨el,((Lib.bytesCells w el (Str l)).size,(Lib.bytesCells w el (Str l)).size+1),by rw[RX];exact NF,fun i hi=>by simp;omega⟩
  simp only[Lib.bytesCells,Array.size_append,Array.size_map,Array.size_replicate,<- hc]
  have:(Str l).data.size=l.length:=by simp[Str]
  rw[this,fS];omega
  intro j u hu
  simp only[List.getElem?_map,Option.map_eq_some_iff]at hu
  obtain⟨b,hb,rfl⟩:=hu
  have hj:j<l.length:=(ZH.1 hb).1
  simp only[Lib.bytesCells,ZO]
  rw[Array.getElem?_append_left (by simp[Str];exact hj)]
  simp[Str,hb]
 refine⟨_,Pb,Kb,_,hK w.heap.size c,x5.put hN (F':=[w.heap.size]) hrv ?_ Z8 ?_,fun _ h=>h,fun _ h=>h,fun _ h=>.inl h,O2⟩
 intro r _ g hg Of
 simp only[ZP]at hg
 exact Tc r g Of hg
 intro g hg
 simp only[ZP]at hg
 subst hg
 exact⟨Ol,by rw[RX];omega⟩
theorem yy{K:AS->Prop} {d:Option Nat} {src dst ty:Nat} {x:Operand} {pos:String} {after:Array Edge} {rest:List Oper} (e:Nat) (C:Prop) (bs:BL)
 (ht:tD P src=some (.sl e)/\tD P e=some (.int .u8)/\tD P dst=some .str) (hd:bX N d) (hx:Nw A x=some (C,bs.map m7)) (hC:C) (hK:WL P N ops rest (A.put d (sV bs)) K):
 WL P N ops (⟨d,.convert src dst x,ty,pos,after,none⟩ :: rest) A K:=by
 show D3 P N _ A _
 exact qd rfl hd ht.1 ht.2.1 ht.2.2 hx hC hK
theorem yK{K:AS->Prop} {d src dst ty:Nat} {x:Operand} {pos:String} {after:Array Edge} {rest:List Oper} (e:Nat) (l:BL)
 (ht:tD P src=some .str/\tD P dst=some (.sl e)/\tD P e=some (.int .u8)) (hN:d<N) (hx:A.ev x=sV l) (hK:∀ g c,WL P N ops rest (A.put (some d) (.own 1 (l.map m7) g 0 c)) K):
 WL P N ops (⟨some d,.convert src dst x,ty,pos,after,none⟩ :: rest) A K:=by
 show D3 P N _ A _
 exact yr rfl rfl hN ht.1 ht.2.1 ht.2.2 hx hK
theorem r7.xO(hs:r7 N Pb Kb A a w F){t:Nat}{v:V}(ht:t<N)(h:RV w Pb v (a.tmps.getD t undef) (F (.slot t))):r7 N Pb Kb (A.put (some t) v) a w F:=by
 have h2:=hs.put (d:=t) (v:=v) (x:=a.tmps.getD t undef) (F':=F (.slot t)) ht h (fun r hr g hg=>hs.bP _ _ (Ne.symm hr) g hg) (hs.nodup _) (fun g hg=>hs.free _ g hg)
 rw[oQ]at h2
 have e:bO F (.slot t) (F (.slot t))=F:=by
  funext r;unfold bO;split
  rename_i e;rw[e]
  rfl
 rw[e]at h2
 exact h2
theorem r7.gg(hs:r7 N Pb Kb A a w F){t i sz n g o c:Nat}{xs:List V}(ht:t<N)(hi:i<N)(TF:t≠i)(h1:A.get t=.hd (.slot i) [] sz g o 0 n c)(h2:A.get i=.own sz xs g o c)(hn:n=xs.length):
 ∃ F',r7 N Pb Kb ((A.put (some i) .b7).put (some t) (.own sz xs g o c)) a w F':=by
 subst hn
 obtain⟨Fx,F1,hr,MD,hnd,s6,hfr,_⟩:=hs.take (.tmp i)
 rw[nX h2]at MD
 have hr:RV w Pb (A.get i) (a.tmps.getD i undef) Fx:=hr
 rw[h2]at hr
 have hh:=hs.slot t
 rw[h1]at hh
 obtain⟨_,hle,B,hv,hB⟩:=hh
 have hv:a.tmps.getD t undef=.slice B xs.length c:=(List.cons.inj hv).1
 have D4:RV w Pb (.own sz xs g o c) (a.tmps.getD t undef) Fx:=by
  rw[hv]
  rcases hr with ⟨rfl,rfl,rfl,A0,_⟩ | ⟨k1,k2,k3,k4,k5⟩
  exact .inl ⟨rfl,rfl,rfl,B,rfl⟩
  have:=hB k1
  rw[Nat.zero_mul,Nat.add_zero]at this
  subst this
  exact .inr ⟨k1,k2,k3,rfl,k5⟩
 have h3:=MD.put (d:=t) (v:=.own sz xs g o c) (x:=a.tmps.getD t undef) (F':=Fx) ht D4 (fun r _ g hg=>s6 r g hg) hnd hfr
 rw[oQ]at h3
 exact⟨_,h3⟩
theorem ct{α:Type}{f:α->V}(hf:∀ x,(f x).cB=false):∀ (l:List α),V.ay (l.map f)=false
 | []=>rfl
 | x::l=>by simp only[Zw,V.ay,hf x,ct hf l,Bool.or_self]
theorem dU{α:Type}{f:α->V}{n:Nat}(hf:∀ x,(f x).n=n)(l:List α):aC n (l.map f):=fun x hx=>by
 obtain⟨y,_,rfl⟩:=List.mem_map.1 hx;exact hf y
theorem aM{α:Type}{f:α->V}(hf:∀ x,(f x).er=f x):∀ (l:List α),V.D5 (l.map f)=l.map f
 | []=>rfl
 | x::l=>by simp only[Zw,V.D5,hf x,aM hf l]
theorem xy{o:Oper} {K:AS->Prop} {x y:Operand} {J4:Array TypeId} {k:IntKind} {p q r:Int} {b:Builtin} (ho:o.op=.call { callee:=.builtin b,args:= #[x,y],argTypes:=J4 }) (hd:bX N o.dst)
 (hx:A.ev x=.lit (.int k p)) (hy:A.ev y=.lit (.int k q)) (hb:(b=.max/\r=max p q)\/(b=.min/\r=min p q)) (hK:K (A.put o.dst (.lit (.int k r)))):D3 P N o A K:=by
 refine gY hd hK fun Pb Kb a w F hs=>⟨.int k r,?_,cU rfl⟩
 have e:(#[x,y].map a.eval)= #[.int k p,.int k q]:=by simp[bH hs hx,bH hs hy]
 rcases hb with ⟨rfl,rfl⟩ | ⟨rfl,rfl⟩
 simp only[execOp,ho,resolve,invoke,builtin,ZK,ZJ,ZS,e,Lib.run_max_ints]
 simp only[execOp,ho,resolve,invoke,builtin,ZK,ZJ,ZS,e,Lib.run_min_ints]
theorem Jz{K:AS->Prop} {d:Option Nat} {x y:Operand} {J4:Array TypeId} {ty:TypeId} {pos:String} {after:Array Edge} {rest:List Oper} (k:IntKind) (p q:Int) (hd:bX N d)
 (hx:A.ev x=.lit (.int k p)) (hy:A.ev y=.lit (.int k q)) (hK:WL P N ops rest (A.put d (.lit (.int k (max p q)))) K):
 WL P N ops (⟨d,.call { callee:=.builtin .max,args:= #[x,y],argTypes:=J4 },ty,pos,after,none⟩ :: rest) A K:=by
 show D3 P N _ A _
 exact xy rfl hd hx hy (.inl ⟨rfl,rfl⟩) hK
theorem JP{K:AS->Prop} {d:Option Nat} {x y:Operand} {J4:Array TypeId} {ty:TypeId} {pos:String} {after:Array Edge} {rest:List Oper} (k:IntKind) (p q:Int) (hd:bX N d)
 (hx:A.ev x=.lit (.int k p)) (hy:A.ev y=.lit (.int k q)) (hK:WL P N ops rest (A.put d (.lit (.int k (min p q)))) K):
 WL P N ops (⟨d,.call { callee:=.builtin .min,args:= #[x,y],argTypes:=J4 },ty,pos,after,none⟩ :: rest) A K:=by
 show D3 P N _ A _
 exact xy rfl hd hx hy (.inr ⟨rfl,rfl⟩) hK
theorem CW{sz g o c lo n c':Nat} {xs:List V} {x y:Value} {Fx:List Nat} (hr:R w Pb (.own sz xs g o c) [x] Fx) (hle:n<=c') {B:Option Addr} (hy:y=.slice B n c') (hB:0<c'->B=some ⟨g,o+lo*sz,none⟩)
 (hn:lo+n<=xs.length) (hc:lo+c'<=c) (ho:V.ay xs=false):∃ F',R w Pb (.own sz ((xs.drop lo).take n) g (o+lo*sz) c') [y] F'/\∀ z,z∈F'->z∈Fx:=by
 subst hy
 by_cases h0:c'=0
 subst h0
 have:n=0:=Z9
 subst this
 exact⟨[],.inl ⟨rfl,Z8,rfl,B,rfl⟩,Z8⟩
 rcases hr with ⟨rfl,_⟩ | ⟨h1,h2,h3,_,hN,hP,flat,F',cells,hF,M9,hb,hsz,r6⟩
 omega
 have hF0:=fc xs ho M9
 subst hF0
 obtain⟨c1,OJ,ME⟩:=nu xs lo M9
 obtain⟨c3,TL,U5⟩:=nr _ n OJ
 have hlen:((xs.drop lo).take n).length=n:=Z0
 refine⟨[g],.inr ⟨Z9,h2,Z9,?_,fun z hz=>hN z (List.mem_of_mem_drop (List.mem_of_mem_take hz)),hP,c3,[],cells,rfl,TL,hb,?_,fun j u hu=>?_⟩,by rw[hF];simp⟩
 rw[hlen,hB Z9]
 have:(lo+c')*sz<=c*sz:=Nat.mul_le_mul_right _ hc
 rw[Nat.add_mul]at this;omega
 have:=ME j u (U5 j u hu)
 rw[dC xs lo hN Z9]at this
 have:=r6 _ _ this
 rw[Zr];exact this
theorem Bc{K:AS->Prop} {i:Nat} {x:Operand} {ty:TypeId} {pos:String} {after:Array Edge} {rest:List Oper} (lo n c':Nat) {sz g o c:Nat} (xs:List V) (hi:i<N)
 (hx:A.ev x=.hd (.slot i) [] sz g o lo n c') (h2:A.get i=.own sz xs g o c) (hn:lo+n<=xs.length) (hc:lo+c'<=c) (ho:V.ay xs=false)
 (hK:WL P N ops rest (A.put (some i) (.own sz ((xs.drop lo).take n) g (o+lo*sz) c')) K):WL P N ops (⟨some i,.assign x,ty,pos,after,none⟩ :: rest) A K:=by
 show D3 P N _ A _
 intro Pb Kb a w F Q hs
 obtain⟨_,hr⟩:=dr hs x
 rw[hx]at hr
 obtain⟨_,hle,B,hv,hB⟩:=hr
 have hv:a.eval x=.slice B n c':=(List.cons.inj hv).1
 have M8:=hs.slot i
 rw[h2]at M8
 obtain⟨F',D4,Nf⟩:=CW (w:=w) (Pb:=Pb) M8 hle hv hB hn hc ho
 have hnd:F'.Nodup:=by
  rcases D4 with ⟨_,_,rfl,_⟩ | ⟨_,_,_,_,_,_,flat,F2,cells,hF,M9,_⟩
  exact ZA
  have:=fc _ (by
   have:=oc xs lo ho
   have h3:∀ (l:List V) (k:Nat),V.ay l=false->V.ay (l.take k)=false:=by
    intro l
    induction l with
    | nil=>intro k _;simp[V.ay]
    | cons v l ih=>
      intro k h
      cases k with
      | zero=>rfl
      | succ k=>simp only[List.take_succ_cons,V.ay,Bool.or_eq_false_iff]at h ⊢;exact⟨h.1,ih k h.2⟩
   exact h3 _ n this) M9
  subst this
  rw[hF];simp
 unfold Oper.wp
 have:(execOp a.eval ⟨some i,.assign x,ty,pos,after,none⟩).run P w=.ok (.value (a.eval x)) w:=rfl
 rw[this,Oper.upon_value]
 exact⟨_,Pb,Kb,_,hK,hs.put hi D4 (fun r hr g hg=>fun Of=>hs.bP _ _ (Ne.symm hr) g (Nf g hg) Of) hnd (fun g hg=>hs.free _ g (Nf g hg)),fun _ h=>h,fun _ h=>h,fun _ h=>.inl h,w5.refl _ _⟩
end
section
variable {P:Program} {N:Nat} {ops:Array Oper} {A A' A1:AS}
def uk(A:AS):List ResultVar->Option (Prop×List (l6×V))
 | []=>some (True,[])
 | r::rs=>match uk A rs with
   | some (C,xs)=>match r with
     | .tmp t=>some (C,(.slot t,A.get t)::xs)
     | .cell t _=>match A.get t with
       | .ptr (.key k) [] g 0=>match lk k A.h with
         | some (g',v)=>some (g'=g/\C,(.key k,v)::xs)
         | none=>none
       | _=>none
   | none=>none
theorem qG:∀ {rs:List ResultVar} {C:Prop} {xs:List (l6×V)},uk A rs=some (C,xs)->C->oF A rs=some xs
 | [],C,xs,h,_=>by simp only[uk,ZY,ZV]at h;rw[<- h.2];rfl
 | r::rs,C,xs,h,hC=>by
   simp only[uk]at h
   split at h
   case h_2=>simp at h
   rename_i C1 xs1 hr
   cases r with
   | tmp t=>
     simp only[ZY,ZV]at h
     obtain⟨rfl,rfl⟩:=h
     simp only[oF,wJ,qG hr hC]
   | cell t T=>
     simp only at h
     split at h
     rename_i k g hg
     split at h
     rename_i g' v hk
     simp only[ZY,ZV]at h
     obtain⟨rfl,rfl⟩:=h
     obtain⟨rfl,hC⟩:=hC
     simp only[oF,wJ,hg,hk,if_true,qG hr hC]
     simp at h
     simp at h
end
mutual
def V.kill:V->V
 | .own .. =>.b7
 | .ow .. =>.b7
 | .om .. =>.b7
 | .agg vs=>.agg (V.iG vs)
 | v=>v
def V.iG:List V->List V
 | []=>[]
 | v::vs=>v.kill::V.iG vs
end
section
variable {P:Program} {N:Nat} {ops:Array Oper} {A A' A1:AS}
variable {w:World} {Pb Kb:Nat->Prop} {a:Act} {F:l6->List Nat}
mutual
theorem xC:∀ v:V,v.kill.n=v.n
 | .own .. =>rfl
 | .ow .. =>rfl
 | .om .. =>rfl
 | .mp .. =>rfl
 | .agg vs=>by simp only[V.kill,V.n];exact ze vs
 | .tup _=>rfl | .gv _ _=>rfl | .lit _=>rfl | .sl .. =>rfl | .hd .. =>rfl | .ptr .. =>rfl | .ep _=>rfl | .b7=>rfl
theorem ze:∀ vs:List V,V.ns (V.iG vs)=V.ns vs
 | []=>rfl
 | v::vs=>by simp only[V.iG,V.ns,xC v,ze vs]
end
mutual
theorem Dk:∀ (v:V) {cs F},R w Pb v cs F->R w Pb v.kill cs []
 | .own sz xs g o c,cs,F,h=>by
   rcases h with ⟨_,_,_,B,rfl⟩ | ⟨_,_,_,rfl,_⟩ <;> exact⟨rfl,_,rfl,rfl⟩
 | .ow sz xs,cs,F,h=>by
   obtain⟨g,o,c,h⟩:=h
   rcases h with ⟨_,_,_,B,rfl⟩ | ⟨_,_,_,rfl,_⟩ <;> exact⟨rfl,_,rfl,rfl⟩
 | .om ..,_,_,h=>⟨rfl,_,h.2.1,rfl⟩
 | .mp ..,_,_,h=>⟨rfl,h.2⟩
 | .agg vs,cs,F,h=>by simp only[R,V.kill]at h ⊢;exact yT vs h
 | .tup _,_,_,h=>by simp[R]at h
 | .gv _ _,_,_,h=>by simp[R]at h
 | .lit x,_,_,h=>⟨h.1,h.2.1,rfl⟩
 | .sl ..,_,_,h=>⟨rfl,h.2⟩
 | .hd ..,_,_,h=>⟨rfl,h.2⟩
 | .ptr ..,_,_,h=>⟨rfl,h.2⟩
 | .ep _,_,_,h=>⟨rfl,h.2⟩
 | .b7,_,_,h=>⟨rfl,h.2⟩
theorem yT:∀ (vs:List V) {cs F},RL w Pb vs cs F->RL w Pb (V.iG vs) cs []
 | [],_,_,h=>⟨h.1,rfl⟩
 | v::vs,_,_,h=>by
   obtain⟨c1,c2,F1,F2,rfl,rfl,h1,h2⟩:=h
   exact⟨c1,c2,[],[],rfl,rfl,Dk v h1,yT vs h2⟩
end
def iE(F F1 F2:List Nat):Prop:=(∀ y,y∈F1->y∈F)/\(∀ y,y∈F2->y∈F)/\(F.Nodup->F1.Nodup/\F2.Nodup/\∀ y,y∈F1->y ∉ F2)
theorem iE.Vm{X F Y F1 F2:List Nat}(h:iE F F1 F2):iE (X++F++Y) (X++F1++Y) F2:=by
 obtain⟨h1,h2,h3⟩:=h
 refine⟨fun y hy=>?_,fun y hy=>by simp[h2 y hy],fun hnd=>?_⟩
 simp only[ZN]at hy ⊢
 rcases hy with (hy | hy) | hy
 exact .inl (.inl hy)
 exact .inl (.inr (h1 y hy))
 exact .inr hy
 simp only[List.nodup_append,ZN]at hnd ⊢
 obtain⟨⟨n1,n2,n3⟩,n4,n5⟩:=hnd
 obtain⟨k1,k2,k3⟩:=h3 n2
 refine⟨⟨⟨n1,k1,fun p hp q hq=>n3 p hp q (h1 q hq)⟩,n4,fun p hp q hq=>?_⟩,k2,fun y hy TE=>?_⟩
 rcases hp with hp | hp
 exact n5 p (.inl hp) q hq
 exact n5 p (.inr (h1 p hp)) q hq
 rcases hy with (hy | hy) | hy
 exact n3 y hy y (h2 y TE) rfl
 exact k3 y hy TE
 exact n5 y (.inr (h2 y TE)) y hy rfl
theorem kK:∀ (vs:List V) {cs F} {j:Nat} {u u':V},RL w Pb vs cs F->vs[j]? =some u->∃ c Fa Fj Fb,F=Fa++Fj++Fb/\R w Pb u c Fj/\(∀ i x,c[i]? =some x->cs[V.ns (vs.take j)+i]? =some x)/\
 ∀ Ts,R w Pb u' c Ts->RL w Pb (vs.set j u') cs (Fa++Ts++Fb)
 | [],_,_,_,_,_,_,h=>by simp at h
 | v::vs,cs,F,0,u,u',h,hj=>by
   obtain⟨c1,c2,F1,F2,rfl,rfl,h1,h2⟩:=h
   simp at hj;subst hj
   refine⟨c1,[],F1,F2,Z8,h1,fun i x hx=>?_,fun Ts hr=>⟨c1,c2,Ts,F2,rfl,Z8,hr,h2⟩⟩
   simp only[List.take_zero,V.ns,ZO]
   rw[ZB (ZH.1 hx).1];exact hx
 | v::vs,cs,F,j+1,u,u',h,hj=>by
   obtain⟨c1,c2,F1,F2,rfl,rfl,h1,h2⟩:=h
   obtain⟨c,Fa,Fj,Fb,rfl,k1,k2,k3⟩:=kK vs (u':=u') h2 (by simpa using hj)
   refine⟨c,F1++Fa,Fj,Fb,Z8,k1,fun i x hx=>?_,fun Ts hr=>⟨c1,c2,F1,Fa++Ts++Fb,rfl,Z8,h1,k3 Ts hr⟩⟩
   have hl:=dR _ h1
   simp only[List.take_succ_cons,V.ns]
   rw[ZG Z9]
   rw[show v.n+V.ns (vs.take j)+i-c1.length=V.ns (vs.take j)+i by omega]
   exact k2 i x hx
theorem iE.refl(F:List Nat):iE F [] F:=⟨Z8,fun _ h=>h,fun h=>⟨ZA,h,Z8⟩⟩
theorem qi:∀ (p:List Nat) {v u:V} {g o g' o':Nat} {cs:List Value} {F:List Nat} {cells:Array Value},R w Pb v cs F->Blk w g cells->(∀ j x,cs[j]? =some x->cells[o+j]? =some x)->V.at g o v p=some (g',o',u)->
 ∃ F1 Fu,R w Pb (v.set p u.kill) cs F1/\At w Pb u g' o' Fu/\iE F F1 Fu
 | [],v,u,g,o,g',o',cs,F,cells,h,hb,hc,e=>by
   simp only[V.at,ZY,ZV]at e
   obtain⟨rfl,rfl,rfl⟩:=e
   exact⟨[],F,by simpa only[V.set] using Dk v h,⟨cs,cells,hb,h,hc⟩,iE.refl F⟩
 | j::p,v,u,g,o,g',o',cs,F,cells,h,hb,hc,e=>by
   cases v with
   | agg vs=>
     simp only[V.at]at e
     split at e
     case h_2=>simp at e
     rename_i x hx
     simp only[R]at h
     obtain⟨c,Fa,Fj,Fb,rfl,k1,k2,k3⟩:=kK vs (u':=x.set p u.kill) h hx
     obtain⟨F1,Fu,m1,m2,m3⟩:=qi p k1 hb (o:=o+V.ns (vs.take j)) (fun i y hy=>by rw[Zr];exact hc _ _ (k2 i y hy)) e
     exact⟨Fa++F1++Fb,Fu,by simp only[V.set,hx,R];exact k3 F1 m1,m2,m3.Vm⟩
   | own sz xs g0 o0 c0=>
     simp only[V.at]at e
     split at e
     case h_2=>simp at e
     rename_i x hx
     rcases h with ⟨_,rfl,_⟩ | ⟨h1,h2,h3,h4,hN,h5,flat,F',ON,rfl,hr,QK,hsz,r6⟩
     simp at hx
     obtain⟨c,Fa,Fj,Fb,rfl,k1,k2,k3⟩:=kK xs (u':=x.set p u.kill) hr hx
     have hj:j<xs.length:=(ZH.1 hx).1
     rw[dC xs j hN Z9]at k2
     obtain⟨F1,Fu,m1,m2,m3⟩:=qi p k1 QK (o:=o0+j*sz) (fun i y hy=>by rw[Zr];exact r6 _ _ (k2 i y hy)) e
     have hn:(x.set p u.kill).n=x.n:=ly p e (xC u)
     refine⟨g0::(Fa++F1++Fb),Fu,?_,m2,?_⟩
     simp only[V.set,hx]
     refine .inr ⟨h1,h2,by simpa using h3,by simpa using h4,fun y hy=>?_,h5,flat,_,ON,rfl,k3 F1 m1,QK,hsz,r6⟩
     rcases List.mem_or_eq_of_mem_set hy with hy | rfl
     exact hN y hy
     rw[hn];exact hN x (ZD hx)
     have:=iE.Vm (X:=g0::Fa) (Y:=Fb) m3
     simpa using this
   | _=>simp[V.at]at e
theorem Df{j:Nat}{p:List Nat}{u:V}{g o g' o' sz g0 o0 c0:Nat}{xs:List V}{cs:List Value}{F:List Nat}(h:R w Pb (.own sz xs g0 o0 c0) cs F)(e:V.at g o (.own sz xs g0 o0 c0) (j::p)=some (g',o',u)):
 ∃ F1 Fu,R w Pb ((V.own sz xs g0 o0 c0).set (j::p) u.kill) cs F1/\At w Pb u g' o' Fu/\iE F F1 Fu:=by
 simp only[V.at]at e
 split at e
 case h_2=>simp at e
 rename_i x hx
 rcases h with ⟨_,rfl,_⟩ | ⟨h1,h2,h3,h4,hN,h5,flat,F',ON,rfl,hr,QK,hsz,r6⟩
 simp at hx
 obtain⟨c,Fa,Fj,Fb,rfl,k1,k2,k3⟩:=kK xs (u':=x.set p u.kill) hr hx
 have hj:j<xs.length:=(ZH.1 hx).1
 rw[dC xs j hN Z9]at k2
 obtain⟨F1,Fu,m1,m2,m3⟩:=qi p k1 QK (o:=o0+j*sz) (fun i y hy=>by rw[Zr];exact r6 _ _ (k2 i y hy)) e
 have hn:(x.set p u.kill).n=x.n:=ly p e (xC u)
 refine⟨g0::(Fa++F1++Fb),Fu,?_,m2,?_⟩
 simp only[V.set,hx]
 refine .inr ⟨h1,h2,by simpa using h3,by simpa using h4,fun y hy=>?_,h5,flat,_,ON,rfl,k3 F1 m1,QK,hsz,r6⟩
 rcases List.mem_or_eq_of_mem_set hy with hy | rfl
 exact hN y hy
 rw[hn];exact hN x (ZD hx)
 have:=iE.Vm (X:=g0::Fa) (Y:=Fb) m3
 simpa using this
theorem r7.split(hs:r7 N Pb Kb A a w F){r:l6}{p:List Nat}{g o:Nat}{u:V}(w8:A.at r p=some (g,o,u)):
 ∃ Fr Fu,r7 N Pb Kb (A.setAt r p u.kill) a w (bO F r Fr)/\At w Pb u g o Fu/\Fu.Nodup/\(∀ r' y,y∈Fu->y ∉ bO F r Fr r')/\(∀ y,y∈Fu->¬ Kb y/\y<w.heap.size):=by
 have main:∃ Fr Fu,At w Pb u g o Fu/\iE (F r) Fr Fu/\(match r with
      | .key k=> ∀ g0 t,lk k A.h=some (g0,t)->∃ F',Fr=g0::F'/\At w Pb (t.set p u.kill) g0 0 F'
      | .slot i=>RV w Pb ((A.get i).set p u.kill) (a.tmps.getD i undef) Fr):=by
  cases r with
  | key k=>
    simp only[AS.at]at w8
    split at w8
    rename_i g0 t hk
    obtain⟨F0,hF,cs,cells,hb,hr,hc⟩:=hs.root k g0 t hk
    obtain⟨F1,Fu,m1,m2,m3⟩:=qi p hr hb hc w8
    refine⟨g0::F1,Fu,m2,?_,fun g1 t1 O3=>?_⟩
    rw[hF]
    have:=iE.Vm (X:=[g0]) (Y:=[]) m3
    simpa using this
    rw[hk]at O3
    simp only[ZY,ZV]at O3
    obtain⟨rfl,rfl⟩:=O3
    exact⟨F1,rfl,cs,cells,hb,m1,hc⟩
    simp at w8
  | slot i=>
    simp only[AS.at]at w8
    split at w8
    rename_i sz xs g0 o0 c0 j p' hg _
    have hr:=hs.slot i
    rw[hg]at hr
    obtain⟨F1,Fu,m1,m2,m3⟩:=Df (w:=w) (Pb:=Pb) hr w8
    refine⟨F1,Fu,m2,m3,?_⟩
    simp only[hg]
    have e:∃ ys,(V.own sz xs g0 o0 c0).set (j::p') u.kill=.own sz ys g0 o0 c0:=by
     simp only[V.set];split
     exact⟨_,rfl⟩
     exact⟨_,rfl⟩
    obtain⟨ys,e⟩:=e
    rw[e]at m1 ⊢
    exact m1
    simp at w8
 obtain⟨Fr,Fu,hA,hP,hm⟩:=main
 obtain⟨p1,p2,p3⟩:=hP
 obtain⟨n1,n2,n3⟩:=p3 (hs.nodup r)
 refine⟨Fr,Fu,⟨hs.size,hs.defers,fun i=>?_,fun k g0 t hk=>?_,fun r1 r2 hne y hy=>?_,fun r1=>?_,fun r1 y hy=>?_,hs.sub,hs.bound⟩,hA,n2,fun r' y hy=>?_,fun y hy=>hs.free r y (p2 y hy)⟩
 by_cases Q0:r=.slot i
 subst Q0
 simp only[bO,if_true,AS.setAt,AS.get,lk,Option.getD_some]
 exact hm
 simp only[bO,if_neg (Ne.symm Q0)]
 have:(A.setAt r p u.kill).get i=A.get i:=by
  cases r with
  | key k=>simp only[AS.setAt];split <;> rfl
  | slot j=>simp only[AS.setAt,AS.get,lk];rw[if_neg (fun c=>Q0 (by rw[c]))]
 rw[this]
 exact hs.slot i
 by_cases QZ:r=.key k
 subst QZ
 simp only[bO,if_true]
 cases Pl:lk k A.h with
 | none=>
   simp only[AS.setAt,Pl]at hk
   cases hk
 | some gt=>
   obtain⟨g1,t1⟩:=gt
   simp only[AS.setAt,Pl,lk,if_true,ZY,ZV]at hk
   obtain⟨rfl,rfl⟩:=hk
   exact hm g1 t1 Pl
 simp only[bO,if_neg (Ne.symm QZ)]
 refine hs.root k g0 t ?_
 rw[<- hk]
 cases r with
 | key k'=>
   have hne:k≠k':=fun c=>QZ (by rw[c])
   simp only[AS.setAt]
   split
   simp only[lk];rw[if_neg hne]
   rfl
 | slot j=>rfl
 simp only[bO]at hy ⊢
 by_cases e1:r1=r
 subst e1
 rw[if_pos rfl]at hy
 rw[if_neg (Ne.symm hne)]
 exact hs.bP r1 r2 hne y (p1 y hy)
 rw[if_neg e1]at hy
 by_cases e2:r2=r
 subst e2
 rw[if_pos rfl]
 exact fun c=>hs.bP r1 r2 hne y hy (p1 y c)
 rw[if_neg e2];exact hs.bP r1 r2 hne y hy
 simp only[bO];split
 exact n1
 exact hs.nodup r1
 simp only[bO]at hy;split at hy
 exact hs.free r y (p1 y hy)
 exact hs.free r1 y hy
 simp only[bO];split
 exact fun c=>n3 y c hy
 rename_i hne;exact fun c=>hs.bP r r' (Ne.symm hne) y (p2 y hy) c
end
mutual
def wk:V->V->V
 | .own sz xs g o c,u=>match u with | .ow _ _=>.ow sz xs | _=>.own sz xs g o c
 | .sl f xs,u=>match u with | .sl false _=>.sl false xs | .b7=>.b7 | _=>.sl f xs
 | .ptr r p g o,u=>match u with | .ptr r' p' _ _=>.ptr r' p' g o | .b7=>.b7 | _=>.ptr r p g o
 | .lit x,u=>match u with
   | .ptr r' p' _ _=>match x with
     | .pointer (some ⟨g,o,none⟩)=>.ptr r' p' g o
     | _=>.lit x
   | .b7=>if x.oneCell' then .b7 else .lit x
   | _=>.lit x
 | .hd r p sz g o lo n c,u=>match u with | .hd r' p' _ _ _ _ _ _=>.hd r' p' sz g o lo n c | .b7=>.b7 | _=>.hd r p sz g o lo n c
 | .mp es,u=>match u with | .b7=>.b7 | _=>.mp es
 | .agg vs,u=>match u with | .agg us=>.agg (Mw vs us) | _=>.agg vs
 | .tup vs,u=>match u with | .tup us=>.tup (Mw vs us) | _=>.tup vs
 | v,_=>v
def Mw:List V->List V->List V
 | v::vs,u::us=>wk v u::Mw vs us
 | vs,_=>vs
end
section
variable {w w':World} {Pb Kb Pb':Nat->Prop} {N:Nat} {A A' B:AS} {a:Act} {F:l6->List Nat} {P:Program} {ops:Array Oper}
mutual
theorem nY:∀ (v u:V) {cs F},R w Pb v cs F->R w Pb (wk v u) cs F
 | .own sz xs g o c,u,cs,F,h=>by
   simp only[wk];split
   exact DX.2 ⟨_,_,_,h⟩
   exact h
 | .sl f xs,u,cs,F,h=>by
   simp only[wk];split
   obtain⟨hF,B,c,hc,hl,_,hx⟩:=h
   exact⟨hF,B,c,hc,hl,(fun h=>by cases h),hx⟩
   obtain⟨hF,B,c,rfl,_⟩:=h;exact⟨hF,_,rfl,rfl⟩
   exact h
 | .ptr r p g o,u,cs,F,h=>by
   simp only[wk];split
   exact h
   obtain⟨hF,rfl⟩:=h;exact⟨hF,_,rfl,rfl⟩
   exact h
 | .lit x,u,cs,F,h=>by
   simp only[wk];split
   split
   obtain⟨_,rfl,hF⟩:=h;exact⟨hF,rfl⟩
   exact h
   split
   rename_i hx;obtain⟨_,rfl,hF⟩:=h;exact⟨hF,x,rfl,hx⟩
   exact h
   exact h
 | .hd r p sz g o lo n c,u,cs,F,h=>by
   simp only[wk];split
   exact h
   obtain⟨hF,_,B,rfl,_⟩:=h;exact⟨hF,_,rfl,rfl⟩
   exact h
 | .mp es,u,cs,F,h=>by
   simp only[wk];split
   obtain⟨hF,g,rfl,_⟩:=h;exact⟨hF,_,rfl,rfl⟩
   exact h
 | .agg vs,u,cs,F,h=>by
   simp only[wk];split
   rename_i us;simp only[R]at h ⊢;exact AT vs us h
   exact h
 | .tup vs,_,_,_,h=>by simp[R]at h
 | .gv _ _,_,_,_,h=>by simp[R]at h
 | .ow ..,u,_,_,h=>by simpa[wk] using h
 | .om ..,u,_,_,h=>by simpa[wk] using h
 | .ep _,u,_,_,h=>by simpa[wk] using h
 | .b7,u,_,_,h=>by simpa[wk] using h
theorem AT:∀ (vs us:List V) {cs F},RL w Pb vs cs F->RL w Pb (Mw vs us) cs F
 | [],us,_,_,h=>by simpa[Mw] using h
 | v::vs,[],_,_,h=>by simpa[Mw] using h
 | v::vs,u::us,cs,F,h=>by
   obtain⟨c1,c2,F1,F2,rfl,rfl,h1,h2⟩:=h
   exact⟨c1,c2,F1,F2,rfl,rfl,nY v u h1,AT vs us h2⟩
end
theorem Cq{v:V}(u:V){x:Value}{F1:List Nat}(h:NM w Pb v x F1):NM w Pb (wk v u) x F1:=by
 cases v with
 | agg us=>
   obtain⟨cs,rfl,h⟩:=h
   simp only[wk];split
   exact⟨cs,rfl,AT _ _ h⟩
   exact⟨cs,rfl,h⟩
 | b7=>simpa[wk] using h
 | tup vs=>simp[NM,R]at h
 | gv b u=>simp[NM,R]at h
 | ow sz xs=>simpa[wk] using h
 | om es g=>simpa[wk] using h
 | ep v=>simpa[wk] using h
 | own sz xs g o c=>
   have:=nY (w:=w) (Pb:=Pb) (.own sz xs g o c) u h
   simp only[wk]at this ⊢
   split at this <;> simpa[NM] using this
 | lit y=>
   have h:R w Pb (.lit y) [x] F1:=h
   have hh:=h
   obtain⟨ho,e,hF⟩:=hh
   simp only[List.cons.injEq,and_true]at e
   subst e hF
   cases u with
   | ptr r' p' g' o'=>
     have:=nY (w:=w) (Pb:=Pb) (.lit x) (.ptr r' p' g' o') h
     simp only[wk]at this ⊢
     split at this
     exact this
     exact this
   | b7=>simp only[wk,ho,if_true];rfl
   | _=>exact h
 | sl f xs=>
   have:=nY (w:=w) (Pb:=Pb) (.sl f xs) u h
   simp only[wk]at this ⊢
   split at this
   all_goals first | simpa[NM] using this | (simp only[NM];exact this.1)
 | ptr r p g o=>
   have:=nY (w:=w) (Pb:=Pb) (.ptr r p g o) u h
   simp only[wk]at this ⊢
   split at this
   all_goals first | simpa[NM] using this | (simp only[NM];exact this.1)
 | hd r p sz g o lo n c=>
   have:=nY (w:=w) (Pb:=Pb) (.hd r p sz g o lo n c) u h
   simp only[wk]at this ⊢
   split at this
   all_goals first | simpa[NM] using this | (simp only[NM];exact this.1)
 | mp es=>
   have:=nY (w:=w) (Pb:=Pb) (.mp es) u h
   simp only[wk]at this ⊢
   split at this
   all_goals first | simpa[NM] using this | (simp only[NM];exact this.1)
theorem sI:∀ (vs:List V) {xs:List Value} {F1:List Nat},RVs w Pb vs xs F1↔match vs with | []=>xs=[]/\F1=[] | v::vs=> ∃ x xs' Fa Fb,xs=x::xs'/\F1=Fa++Fb/\NM w Pb v x Fa/\RVs w Pb vs xs' Fb
 | [],_,_=>Iff.rfl
 | v::vs,_,_=>Iff.rfl
theorem nn:∀ (vs us:List V) {xs F1},RVs w Pb vs xs F1->RVs w Pb (Mw vs us) xs F1
 | [],us,_,_,h=>by simpa[Mw] using h
 | v::vs,[],_,_,h=>by simpa[Mw] using h
 | v::vs,u::us,xs,F1,h=>by
   obtain⟨x,xs',Fa,Fb,rfl,rfl,h1,h2⟩:=(sI (v::vs)).1 h
   exact(sI (wk v u::Mw vs us)).2 ⟨x,xs',Fa,Fb,rfl,rfl,Cq u h1,nn vs us h2⟩
theorem wj{v:V}(u:V){x:Value}{F1:List Nat}(h:RV w Pb v x F1):RV w Pb (wk v u) x F1:=by
 by_cases ht:∃ vs,v=.tup vs
 obtain⟨vs,rfl⟩:=ht
 obtain⟨xs,rfl,h⟩:=h
 simp only[wk];split
 exact⟨xs,rfl,nn _ _ h⟩
 exact⟨xs,rfl,h⟩
 by_cases hg:∃ b u',v=.gv b u'
 obtain⟨b,u',rfl⟩:=hg;simpa[wk] using h
 have h1:=CV h ⟨fun us e=>ht ⟨us,e⟩,fun b u e=>hg ⟨b,u,e⟩⟩
 have h2:=Cq u h1
 have back:∀ z:V,(∀ us,z≠.tup us)->(∀ b u,z≠.gv b u)->NM w Pb z x F1->RV w Pb z x F1:=by
  intro z z1 z2 hz
  cases z with
  | tup us=>exact absurd rfl (z1 us)
  | gv b u=>exact absurd rfl (z2 b u)
  | _=>exact hz
 refine back _ (fun us e=>?_) (fun b u e=>?_) h2
 · cases v <;> simp only[wk]at e <;> (repeat' split at e) <;> simp_all
 · cases v <;> simp only[wk]at e <;> (repeat' split at e) <;> simp_all
theorem Bj{v:V}(u:V){g o:Nat}{F1:List Nat}(h:At w Pb v g o F1):At w Pb (wk v u) g o F1:=by
 obtain⟨cs,cells,hb,hr,hc⟩:=h
 exact⟨cs,cells,hb,nY v u hr,hc⟩
def PY(A:AS):List (Nat×V)->Prop
 | []=>True
 | (k,v)::r=>wk (A.get k) v=v/\PY A r
def Pe(A:AS):List (Nat×(Nat×V))->Prop
 | []=>True
 | (k,(g,v))::r=>(match lk k A.h with | some (g',v')=>(g',wk v' v)=(g,v) | none=>False)/\Pe A r
theorem Ck:∀ (l:List (Nat×V)) {i:Nat} {v:V},PY A l->lk i l=some v->wk (A.get i) v=v
 | [],_,_,_,h=>by simp[lk]at h
 | (k,u)::r,i,v,h,e=>by
   simp only[lk]at e
   split at e
   rename_i e';subst e';cases e;exact h.1
   exact Ck r h.2 e
theorem xn:∀ (l:List (Nat×(Nat×V))) {i g:Nat} {v:V},Pe A l->lk i l=some (g,v)->∃ v',lk i A.h=some (g,v')/\wk v' v=v
 | [],_,_,_,_,h=>by simp[lk]at h
 | (k,(g0,u))::r,i,g,v,h,e=>by
   simp only[lk]at e
   split at e
   rename_i e';subst e';cases e
   have h1:=h.1
   split at h1
   rename_i g' v' hk
   simp only[ZV]at h1
   exact⟨v',by rw[hk,h1.1],h1.2⟩
   exact h1.elim
   exact xn r h.2 e
open Classical in
theorem r7.Xj(hs:r7 N Pb Kb A a w F)(h:PY A B.t)(k:Pe A B.h):∃ F',r7 N Pb Kb B a w F':=by
 refine⟨fun r=>match r with | .slot i=>if lk i B.t=none then [] else F (.slot i) | .key k=>if lk k B.h=none then [] else F (.key k),?_⟩
 have key:∀ r g,g∈(match r with | .slot i=>if lk i B.t=none then [] else F (.slot i) | .key k=>if lk k B.h=none then [] else F (.key k):List Nat)->g∈F r:=by
  intro r g hg
  cases r <;> simp only at hg <;> split at hg <;> simp_all
 refine⟨hs.size,hs.defers,fun i=>?_,fun k0 g v hk=>?_,fun r r' hne g hg=>?_,fun r=>?_,fun r g hg=>hs.free r g (key r g hg),hs.sub,hs.bound⟩
 simp only
 cases e:lk i B.t with
 | none=>simp only[if_true,AS.get,e];rfl
 | some v=>
   rw[if_neg Z8]
   have:=wj v (hs.slot i)
   rw[Ck _ h e]at this
   simpa[AS.get,e] using this
 simp only
 rw[if_neg (by rw[hk];simp)]
 obtain⟨v',e1,e2⟩:=xn _ k hk
 obtain⟨F',hF,hA⟩:=hs.root k0 g v' e1
 exact⟨F',hF,by have:=Bj v hA;rw[e2]at this;exact this⟩
 exact fun Of=>hs.bP r r' hne g (key r g hg) (key r' g Of)
 cases r <;> simp only <;> split <;> first | exact ZA | exact hs.nodup _
def Hx(N:Nat)(A:AS)(K:AS->Prop):Prop:=
 ∀ Pb Kb a w F,r7 N Pb Kb A a w F->∃ B Pb' C4 F',K B/\r7 N Pb' C4 B a w F'/\(∀ g,Pb g->Pb' g)/\(∀ g,Kb g->C4 g)/\(∀ g,Pb' g->Pb g\/¬ Kb g)
theorem Hx.of{K:AS->Prop}(h:K A):Hx N A K:=fun Pb Kb _ _ F hs=>⟨A,Pb,Kb,F,h,hs,fun _ h=>h,fun _ h=>h,fun _ h=>.inl h⟩
theorem Hx.mono{K K':AS->Prop}(h:Hx N A K)(hK:∀ B,K B->K' B):Hx N A K':=fun Pb Kb a w F hs=>by
 obtain⟨B,Pb',C4,F',h1,h2⟩:=h Pb Kb a w F hs
 exact⟨B,Pb',C4,F',hK B h1,h2⟩
theorem Hx.bind{K K':AS->Prop}(h:Hx N A K)(hK:∀ B,K B->Hx N B K'):Hx N A K':=fun Pb Kb a w F hs=>by
 obtain⟨B,Pb',C4,F',h1,h2,h3,h4,h5⟩:=h Pb Kb a w F hs
 obtain⟨C,M3,Nb,F2,k1,k2,k3,k4,k5⟩:=hK B h1 Pb' C4 a w F' h2
 exact⟨C,M3,Nb,F2,k1,k2,fun g hg=>k3 g (h3 g hg),fun g hg=>k4 g (h4 g hg),fun g hg=>by
  rcases k5 g hg with h | h
  exact h5 g h
  exact .inr fun c=>h (h4 g c)⟩
theorem Hx.simple{K:AS->Prop}(hK:K B)(h:∀ Pb Kb a w F,r7 N Pb Kb A a w F->∃ F',r7 N Pb Kb B a w F'):Hx N A K:=fun Pb Kb a w F hs=>by
 obtain⟨F',x5⟩:=h Pb Kb a w F hs
 exact⟨B,Pb,Kb,F',hK,x5,fun _ h=>h,fun _ h=>h,fun _ h=>.inl h⟩
theorem Nx.hint{K:AS->Prop}{a':Act}(h:Nx N Pb Kb w (fun B=>Hx N B K) a' w'):Nx N Pb Kb w K a' w':=by
 obtain⟨A',Pb',C4,F',h1,h2,h3,h4,h5,h6⟩:=h
 obtain⟨B,M3,Nb,F2,k1,k2,k3,k4,k5⟩:=h1 Pb' C4 a' w' F' h2
 exact⟨B,M3,Nb,F2,k1,k2,fun g hg=>k3 g (h3 g hg),fun g hg=>k4 g (h4 g hg),fun g hg=>by
  rcases k5 g hg with h | h
  exact h5 g h
  exact .inr fun c=>h (h4 g c),h6⟩
theorem mX{c:Code}{Q:Exit->AS->Prop}(h:Hx N A fun B=>T P N c B Q):T P N c A Q:=by
 intro Pb Kb a w F hs
 obtain⟨B,Pb',C4,F',h1,h2,h3,h4,h5⟩:=h Pb Kb a w F hs
 exact wp_mono (h1 Pb' C4 a w F' h2) fun e a' w' hn=>Nx.step h3 h4 h5 (w5.refl _ _) hn
theorem kY{c:Code}{Q:Exit->AS->Prop}(h:T P N c A fun e B=>Hx N B (Q e)):T P N c A Q:=
 fun Pb Kb a w F hs=>wp_mono (h Pb Kb a w F hs) fun _ _ _ hn=>hn.hint
theorem qD{o:Oper}{l:List Oper}{K:AS->Prop}(hg:o.guard=none)(h:Hx N A fun B=>WL P N ops (o::l) B K):WL P N ops (o::l) A K:=by
 simp only[WL,gd,hg]at h ⊢
 intro Pb Kb a w F Q hs
 obtain⟨B,Pb',C4,F',h1,h2,h3,h4,h5⟩:=h Pb Kb a w F hs
 refine Oper.wp_mono (fun a' w' hn=>?_) (h1 Pb' C4 a w F' Q h2)
 exact Nx.step h3 h4 h5 (w5.refl _ _) hn
theorem KP{c:Code}{Q:Exit->AS->Prop}(h:PY A B.t)(k:Pe A B.h)(hT:T P N c B Q):T P N c A Q:=
 mX (Hx.simple hT fun _ _ _ _ _ hs=>hs.Xj h k)
end
section
variable {w w':World} {Pb Kb Pb':Nat->Prop} {N:Nat} {A A' B:AS} {a:Act} {F:l6->List Nat} {P:Program} {ops:Array Oper}
structure VM (w:World) (Pb Kb:Nat->Prop) (args:List V) (cargs:List Value) (H:List (Nat×(Nat×V))) (F:l6->List Nat):Prop where
 len:cargs.length=args.length
 slot:∀ i v x,args[i]? =some v->cargs[i]? =some x->RV w Pb v x (F (.slot i))
 root:∀ k g v,lk k H=some (g,v)->∃ F',F (.key k)=g::F'/\At w Pb v g 0 F'
 rest:∀ i,args.length<=i->F (.slot i)=[]
 bP:∀ r r',r≠r'->∀ g,g∈F r->g ∉ F r'
 nodup:∀ r,(F r).Nodup
 free:∀ r g,g∈F r->¬ Kb g/\g<w.heap.size
 sub:∀ g,Pb g->Kb g
 bound:∀ g,Kb g->g<w.heap.size
structure Fin (w w':World) (Pb Kb:Nat->Prop) (r:V) (x:Value) (H:List (Nat×(Nat×V))) (Pb' C4:Nat->Prop) (F:l6->List Nat):Prop where
 val:RV w' Pb' r x (F (.slot 0))
 root:∀ k g v,lk k H=some (g,v)->∃ F',F (.key k)=g::F'/\At w' Pb' v g 0 F'
 bP:∀ r r',r≠r'->∀ g,g∈F r->g ∉ F r'
 nodup:∀ r,(F r).Nodup
 free:∀ r g,g∈F r->¬ C4 g/\g<w'.heap.size
 sub:∀ g,Pb' g->C4 g
 bound:∀ g,C4 g->g<w'.heap.size
 mP:∀ g,Pb g->Pb' g
 mK:∀ g,Kb g->C4 g
 PX:∀ g,Pb' g->Pb g\/¬ Kb g
 ee:w5 Kb w w'
def PF(P:Program)(f:FuncId)(args:List V)(H:List (Nat×(Nat×V)))(Q:V->List (Nat×(Nat×V))->Prop):Prop:=
 lT P f/\∀ (w:World) (Pb Kb:Nat->Prop) (cargs:List Value) (F:l6->List Nat),VM w Pb Kb args cargs H F->
  Calls P f cargs.toArray w fun e w'=> ∃ r x H' Pb' C4 F',e=.returned x/\Q r H'/\Fin w w' Pb Kb r x H' Pb' C4 F'
theorem PF.mono{f:FuncId}{args:List V}{H:List (Nat×(Nat×V))}{Q Q':V->List (Nat×(Nat×V))->Prop}(h:PF P f args H Q)(hQ:∀ r H,Q r H->Q' r H):PF P f args H Q':=
 ⟨h.1,fun w Pb Kb cargs F hi=>(h.2 w Pb Kb cargs F hi).mono fun _ _ ⟨r,x,H',Pb',C4,F',e,q,rest⟩=>⟨r,x,H',Pb',C4,F',e,hQ r H' q,rest⟩⟩
def FI(P:Program)(rs:List ResultVar)(Q:V->List (Nat×(Nat×V))->Prop):Exit->AS->Prop:=fun e A=>
 (e=.normal\/e=.ret)/\∃ xs H,oF A rs=some xs/\nU P rs xs/\(xs.map (·.1)).Nodup/\Pe A H/\(∀ k,lk k H≠none->l6.key k ∉ xs.map (·.1))/\Q (one (xs.map (·.2))) H
open Classical in
theorem Ap{f:FuncId} {fn:Func} {c:Code} {args:List V} {H:List (Nat×(Nat×V))} {Q:V->List (Nat×(Nat×V))->Prop} (hf:P.funcs[f]? =some fn) (hb:fn.body=some c) (he:lT P f) (hN:args.length<=fn.ntmps)
 (h:T P fn.ntmps c ⟨enum 0 args,H⟩ (FI P fn.results.toList Q)):PF P f args H Q:=by
 refine⟨he,fun w Pb Kb cargs F hi=>?_⟩
 have hlen:=hi.len
 refine calls_of_wp hf hb ?_
 have hs:r7 fn.ntmps Pb Kb ⟨enum 0 args,H⟩ { tmps:=cargs.toArray++Array.replicate (fn.ntmps-cargs.toArray.size) undef,defers:=[] } w F:=by
  refine⟨Z0,rfl,fun i=>?_,hi.root,hi.bP,hi.nodup,hi.free,hi.sub,hi.bound⟩
  simp only[AS.get,yS,Nat.zero_le,if_true,Nat.sub_zero]
  cases UY:args[i]? with
  | none=>
    have:args.length<=i:=by simpa using UY
    rw[hi.rest i this];rfl
  | some v=>
    have hlt:i<args.length:=(ZH.1 UY).1
    have hx:cargs[i]? =some (cargs[i]'Z9):=ZR Z9
    have hr:=hi.slot i v _ UY hx
    have e:(cargs.toArray++Array.replicate (fn.ntmps-cargs.toArray.size) undef).getD i undef=cargs[i]'Z9:=by
     rw[Array.getD_eq_getD_getElem?,Array.getElem?_append_left Z0]
     simp[hx]
    simp only[Option.getD_some]
    rw[e];exact hr
 refine wp_mono (h _ _ _ _ _ hs) ?_
 rintro e a' w' ⟨A',Pb',C4,F',⟨he',xs,H',QX,K1,hnd,hH,Ta,hQ⟩,x5,k1,k2,k3,k4⟩
 obtain⟨x,Fr,x8,hr,ML,hin⟩:=yG x5 QX K1 hnd
 have Qn:a'.defers=[]/\∃ v,(results fn a'.tmps).run P w'=.ok v w'/\(∃ r x H' Pb' C4 F',Ending.returned v=.returned x/\Q r H'/\Fin w w' Pb Kb r x H' Pb' C4 F'):=by
  refine⟨x5.defers,x,x8,_,x,H',Pb',C4,(fun r=>match r with | .slot i=>if i=0 then Fr else [] | .key k=>if lk k H'=none then [] else F' (.key k)),rfl,hQ,?_⟩
  have hk:∀ k g,lk k H'≠none->g∈Fr->g ∉ F' (.key k):=fun k g hk hg c=>by
   obtain⟨r,OJ,K9⟩:=hin g hg
   have hne:r≠.key k:=fun c=>Ta k hk (by rw[<- c];exact OJ)
   exact x5.bP r _ hne g K9 c
  refine⟨by simpa using hr,fun k g v UU=>?_,fun r r' hne g hg=>?_,fun r=>?_,fun r g hg=>?_,x5.sub,x5.bound,k1,k2,k3,k4⟩
  obtain⟨v',e1,e2⟩:=xn _ hH UU
  obtain⟨F1,hF,hA⟩:=x5.root k g v' e1
  refine⟨F1,?_,by have:=Bj v hA;rw[e2]at this;exact this⟩
  simp only;rw[if_neg (by rw[UU];simp)];exact hF
  cases r with
  | slot i=>
    simp only at hg
    split at hg
    rename_i hi0
    cases r' with
    | slot j=>simp only;rw[if_neg (fun c=>hne (by rw[hi0,c]))];simp
    | key k=>simp only;split
             simp
             rename_i S9;exact hk k g S9 hg
    simp at hg
  | key k=>
    simp only at hg
    split at hg
    simp at hg
    rename_i S9
    cases r' with
    | slot j=>simp only;split
              exact fun c=>hk k g S9 c hg
              simp
    | key k'=>simp only;split
              simp
              exact x5.bP _ _ hne g hg
  cases r <;> simp only <;> split <;> first | exact ML | exact ZA | exact x5.nodup _
  cases r with
  | slot i=>
    simp only at hg;split at hg
    obtain⟨r,_,h⟩:=hin g hg;exact x5.free r g h
    simp at hg
  | key k=>
    simp only at hg;split at hg
    simp at hg
    exact x5.free _ g hg
 rcases he' with rfl | rfl
 exact Qn
 exact Qn
theorem PF.Bu{f:FuncId}{args:List V}{Q:V->List (Nat×(Nat×V))->Prop}(h:PF P f args [] Q):PC P f args (fun r=> ∃ H,Q r H):=by
 refine⟨h.1,fun w Pb cargs hP hargs=>?_⟩
 have hi:VM w Pb (fun g=>g<w.heap.size) args cargs [] (fun _=>[]):=by
  refine⟨uC _ hargs,fun i v x hv hx=>?_,fun k g v hk=>by simp[lk]at hk,fun _ _=>rfl,fun _ _ _ _ hg=>by simp at hg,fun _=>ZA,fun _ _ hg=>by simp at hg,hP,fun _ h=>h⟩
  obtain⟨y,hy,hr⟩:=Dp args hargs hv
  rw[hx]at hy;cases hy;exact hr
 refine(h.2 w Pb _ cargs _ hi).mono ?_
 rintro e w' ⟨r,x,H',Pb',C4,F',rfl,hq,hf⟩
 refine⟨r,x,F' (.slot 0),Pb',rfl,⟨H',hq⟩,hf.val,hf.nodup _,fun g hg=>?_,hf.mP,fun g hg=>?_,⟨hf.ee.os,hf.ee.tape,hf.ee.output,hf.ee.size,fun k hk=>hf.ee.block k hk⟩⟩
 have:=hf.free _ g hg
 refine⟨Nat.le_of_not_lt fun c=>this.1 (hf.mK g c),this.2,fun c=>this.1 (hf.sub g c)⟩
 rcases hf.PX g hg with h | h
 exact .inl h
 exact .inr ⟨Nat.le_of_not_lt h,hf.bound g (hf.sub g hg)⟩
end
end Go.Proofs.YtelggdgnblpjdaaGreatDoor