/-
  Words and walks for the laws of pedlar's seat: what each function of the program computes, and that it does; no conditions beyond those that each statement names.
-/
import Derived.Calls
import Derived.Below
import Derived.LoopN
import Derived.Tactics
import Derived.Laws.Sem
import Derived.IntWalk
import Derived.Lib.MinMax
import Derived.Laws.Cells
import Derived.Orders
import Derived.KernelRfl
import Derived.Lib.Strings
import Derived.Great.BuildSlice
import Derived.Laws.Append
import Derived.Laws.BytesString
import Derived.Lib.ConvBytes
set_option linter.unusedVariables false
set_option linter.unusedSimpArgs false
set_option linter.unnecessarySimpa false
set_option linter.unusedSectionVars false
namespace Go
abbrev BL:=List UInt8
theorem Z9{p:Prop}(h:p:=by omega):p:=h
theorem Z8{p:Prop}(h:p:=by simp):p:=h
theorem Z7{p:Prop}(h:p:=by kernel_rfl):p:=h
theorem Z6{p:Prop}(h:p:=by decide):p:=h
theorem Z5{p:Prop}(h:p:=by first | assumption | omega | (simp; omega)):p:=h
theorem Z4{p:Prop}(h:p:=by first | rfl | simp | (simp; omega)):p:=h
theorem Z3{p:Prop}(h:p:=by (try simp only [List.length_append, List.length_cons, List.length_nil]); omega):p:=h
theorem Z2{p:Prop}(h:p:=by (try simp only [List.length_map] at *); omega):p:=h
theorem Z1{p:Prop}(h:p:=by first | (solve | simp) | omega | (simp; omega)):p:=h
theorem Z0{p:Prop}(h:p:=by simp; omega):p:=h
theorem YQ{α:Type _}{l:List α}{i:Nat}{a:α}:l.getD i a=l[i]?.getD a:=List.getD_eq_getElem?_getD ..
theorem YR{α:Type _}(a b:α):(some a=some b)=(a=b):=Option.some.injEq ..
theorem YS(a b:Bool):((a&&b)=true)=(a=true/\b=true):=Bool.and_eq_true ..
theorem YT{α:Type _}{as bs:List α}:(as++bs).length=as.length+bs.length:=List.length_append ..
theorem YU{α:Type _}{β:Type _}(a:α)(b:β)(c:α)(d:β):((a,b)=(c,d))=(a=c/\b=d):=Prod.mk.injEq ..
theorem YV{α:Type _}{a:α}{as:List α}:(a::as).length=as.length+1:=List.length_cons ..
theorem YW{α β:Type}(a:α)(w:World)(f:α->World->Result β):(Result.ok a w).andThen f=f a w:=Result.andThen_ok ..
theorem YX{α:Type _}{l:List α}{i:Nat}(h:i<l.length):l[i]?=some l[i]:=List.getElem?_eq_getElem h
theorem YY{α:Type _}:([]:List α).length=0:=List.length_nil
theorem YZ{α:Type _}{a b:α}:a∈[b]↔a=b:=List.mem_singleton ..
theorem Y0(n:Nat):0+n=n:=Nat.zero_add ..
theorem Y1{α:Type _}{a:α}{s t:List α}:a∈s++t↔a∈s\/a∈t:=List.mem_append ..
theorem Y2{α:Type _}{β:Type _}{as:List α}(f:α->β):(as.map f).length=as.length:=List.length_map ..
theorem Y3{α:Type _}{i:Nat}{l:List α}(h:l.length<=i):l.take i=l:=List.take_of_length_le h
theorem Y4{α β:Type}(P:Program)(w:World)(x:Sem α)(f:α->Sem β):(x>>=f).run P w=(x.run P w).andThen fun a w=>(f a).run P w:=Sem.run_bind ..
theorem Y5{α:Type}(P:Program)(w:World)(a:α):(pure a:Sem α).run P w=.ok a w:=Sem.run_pure ..
theorem Y6{α:Type _}{p:α->Bool}{l:List α}:l.all p=true↔∀x,x∈l->p x=true:=List.all_eq_true ..
theorem Y7{α:Type _}{i:Nat}{a:α}{l:List α}:l[i]?=some a↔∃h:i<l.length,l[i]=a:=List.getElem?_eq_some_iff ..
theorem Y8{α:Type _}{l₁ l₂:List α}{i:Nat}:l₁.length<=i->(l₁++l₂)[i]?=l₂[i-l₁.length]?:=List.getElem?_append_right
theorem Y9{α:Type _}{l:List α}:l.length=0->l=[]:=List.eq_nil_of_length_eq_zero
theorem Za{a b:Bool}:a=b↔(a=true↔b=true):=Bool.eq_iff_iff ..
theorem Zb{α:Type _}{l:List α}{i:Nat}{a:α}(e:l[i]?=some a):a∈l:=List.mem_of_getElem? e
theorem Zc{α:Type _}{as:List α}{i:Nat}(h:as.length<=i):as.drop i=[]:=List.drop_eq_nil_of_le h
theorem Zd{α:Type _}{l₁ l₂:List α}{i:Nat}(hn:i<l₁.length):(l₁++l₂)[i]?=l₁[i]?:=List.getElem?_append_left hn
theorem Ze{α:Type _}:([]:List α).Nodup:=List.nodup_nil
theorem Zf{α:Type _}{β:Type _}{f:α->β}{l₁ l₂:List α}:(l₁++l₂).map f=l₁.map f++l₂.map f:=List.map_append ..
theorem Zg(n:Nat):n<=n:=Nat.le_refl ..
theorem Zh(n:UInt8):n.toNat<2^8:=UInt8.toNat_lt ..
theorem Zi{α:Type _}{β:Type _}{f:α->β}{a:α}{l:List α}:(a::l).map f=f a::l.map f:=List.map_cons ..
theorem Zj{α:Type _}{a:α}:[a].length=1:=List.length_singleton ..
theorem Zk{α:Type _}{a:α}{l:List α}:a∈l↔∃(i:Nat)(h:i<l.length),l[i]=a:=List.mem_iff_getElem ..
theorem Zl{α:Type _}{i:Nat}{b:α}{xs:Array α}:xs[i]?=some b↔∃h:i<xs.size,xs[i]=b:=Array.getElem?_eq_some_iff ..
theorem Zm{α:Type _}[BEq α][LawfulBEq α](a:α)(as:List α):as.contains a=decide (a∈as):=List.contains_eq_mem ..
theorem Zn(n m k:Nat):n+m+k=n+(m+k):=Nat.add_assoc ..
theorem Zo{p:Prop}[Decidable p]:(decide p=true)=p:=decide_eq_true_eq ..
theorem Zp{α:Type _}[BEq α][LawfulBEq α]{a b:α}:(a==b)=true↔a=b:=beq_iff_eq ..
theorem Zq{α:Type _}{β:Type _}{a b:α}(f:α->β)(h:a=b):f a=f b:=congrArg f h
end Go
namespace Go.Proofs.YtbjbamjffkanbaaGreatDoor
open Go Go.RowKit
set_option maxRecDepth 20000
inductive l8 where
 | slot (i:Nat)
 | key (k:Nat)
 deriving DecidableEq
inductive V where
 | lit (x:Value)
 | agg (vs:List V)
 | tup (vs:List V)
 | sl (full:Bool) (xs:List V)
 | own (sz:Nat) (xs:List V) (g o c:Nat)
 | ow (sz:Nat) (xs:List V)
 | om (es:List (BL×Value)) (g:Nat)
 | mp (es:List (BL×Value))
 | hd (r:l8) (p:List Nat) (sz g o lo n c:Nat)
 | ptr (r:l8) (p:List Nat) (g o:Nat)
 | ep (v:V)
 | a8
 | gv (b:Bool) (v:V)
mutual
def V.n:V->Nat
 | .agg vs=>V.ns vs
 | _=>1
def V.ns:List V->Nat
 | []=>0
 | v::vs=>v.n+V.ns vs
end
def aJ(sz:Nat)(xs:List V):Prop:= ∀ x∈xs,x.n=sz
def Blk(w:World)(g:Nat)(cells:Array Value):Prop:=
 ∃ e fr,w.heap[g]? =some (.cells cells e fr)/\∀ i,i<cells.size->¬ (fr.1<=i/\i<fr.2)
def uf(w:World)(g:Nat)(es:List (BL×Value)):Prop:=
 ∃ en cl,w.heap[g]? =some (.map en cl)/\en.toList.map (fun e=>(e.key,e.val))=es.map (fun p=>(.string ⟨p.1.toArray⟩,p.2))/\(en.toList.map (·.born)).Nodup/\∀ e∈en.toList,e.born<cl
mutual
def R(w:World)(Pb:Nat->Prop):V->List Value->List Nat->Prop
 | .lit x,cs,F=>x.oneCell'=true/\cs=[x]/\F=[]
 | .agg vs,cs,F=>RL w Pb vs cs F
 | .tup _,_,_=>False
 | .gv _ _,_,_=>False
 | .sl full xs,cs,F=>F=[]/\∃ A c,cs=[.slice A xs.length c]/\xs.length<=c/\(full=true->c=xs.length)/\
  (xs=[]\/∃ b o sz flat,A=some ⟨b,o,none⟩/\Pb b/\0<sz/\aJ sz xs/\RL w Pb xs flat []/\
   ∀ j u,flat[j]? =some u->w.cell? ⟨b,o+j,none⟩=some u)
 | .own sz xs g o c,cs,F=>(c=0/\xs=[]/\F=[]/\∃ A,cs=[.slice A 0 0])\/
  (0<c/\0<sz/\xs.length<=c/\cs=[.slice (some ⟨g,o,none⟩) xs.length c]/\aJ sz xs/\¬ Pb g/\
   ∃ flat F' cells,F=g::F'/\RL w Pb xs flat F'/\Blk w g cells/\o+c*sz<=cells.size/\
     ∀ j u,flat[j]? =some u->cells[o+j]? =some u)
 | .ow sz xs,cs,F=> ∃ g o c,(c=0/\xs=[]/\F=[]/\∃ A,cs=[.slice A 0 0])\/
  (0<c/\0<sz/\xs.length<=c/\cs=[.slice (some ⟨g,o,none⟩) xs.length c]/\aJ sz xs/\¬ Pb g/\
   ∃ flat F' cells,F=g::F'/\RL w Pb xs flat F'/\Blk w g cells/\o+c*sz<=cells.size/\
     ∀ j u,flat[j]? =some u->cells[o+j]? =some u)
 | .om es g,cs,F=>F=[g]/\cs=[.map (some g)]/\¬ Pb g/\uf w g es
 | .mp es,cs,F=>F=[]/\∃ g,cs=[.map (some g)]/\Pb g/\uf w g es
 | .hd _ _ sz g o lo n c,cs,F=>F=[]/\n<=c/\∃ A,cs=[.slice A n c]/\(0<c->A=some ⟨g,o+lo*sz,none⟩)
 | .ptr _ _ g o,cs,F=>F=[]/\cs=[.pointer (some ⟨g,o,none⟩)]
 | .ep v,cs,F=>F=[]/\∃ b o flat,cs=[.pointer (some ⟨b,o,none⟩)]/\Pb b/\R w Pb v flat []/\
  ∀ j u,flat[j]? =some u->w.cell? ⟨b,o+j,none⟩=some u
 | .a8,cs,F=>F=[]/\∃ x,cs=[x]/\x.oneCell'=true
def RL(w:World)(Pb:Nat->Prop):List V->List Value->List Nat->Prop
 | [],cs,F=>cs=[]/\F=[]
 | v::vs,cs,F=> ∃ c1 c2 F1 F2,cs=c1++c2/\F=F1++F2/\R w Pb v c1 F1/\RL w Pb vs c2 F2
end
section
variable {w w':World} {Pb Pb':Nat->Prop}
theorem Hm{sz:Nat}{xs:List V}{cs:List Value}{F:List Nat}:R w Pb (.ow sz xs) cs F↔∃ g o c,R w Pb (.own sz xs g o c) cs F:=by simp only[R]
theorem uf.eM{g:Nat}{es:List (BL×Value)}(h:uf w g es)(k:w'.heap[g]? =w.heap[g]?):uf w' g es:=by
 obtain⟨en,cl,h1,h2⟩:=h
 exact⟨en,cl,k.trans h1,h2⟩
mutual
theorem ez:∀ (v:V) {cs F},R w Pb v cs F->cs.length=v.n
 | .lit x,cs,F,h=>by obtain⟨_,rfl,_⟩:=h;rfl
 | .agg vs,cs,F,h=>by simp only[R]at h;simpa[V.n] using iC vs h
 | .tup _,_,_,h=>by simp[R]at h
 | .gv _ _,_,_,h=>by simp[R]at h
 | .sl _ xs,cs,F,h=>by obtain⟨_,A,c,rfl,_⟩:=h;rfl
 | .own sz xs g o c,cs,F,h=>by
  rcases h with ⟨_,_,_,A,rfl⟩ | ⟨_,_,_,rfl,_⟩ <;> rfl
 | .ow sz xs,cs,F,h=>by
  obtain⟨g,o,c,h⟩:=h
  rcases h with ⟨_,_,_,A,rfl⟩ | ⟨_,_,_,rfl,_⟩ <;> rfl
 | .om ..,cs,F,h=>by obtain⟨_,rfl,_⟩:=h;rfl
 | .mp _,cs,F,h=>by obtain⟨_,g,rfl,_⟩:=h;rfl
 | .hd ..,cs,F,h=>by obtain⟨_,_,A,rfl,_⟩:=h;rfl
 | .ptr ..,cs,F,h=>by obtain⟨_,rfl⟩:=h;rfl
 | .ep v,cs,F,h=>by obtain⟨_,b,o,flat,rfl,_⟩:=h;rfl
 | .a8,cs,F,h=>by obtain⟨_,x,rfl,_⟩:=h;rfl
theorem iC:∀ (vs:List V) {cs F},RL w Pb vs cs F->cs.length=V.ns vs
 | [],cs,F,h=>by obtain⟨rfl,_⟩:=h;rfl
 | v::vs,cs,F,h=>by
     obtain⟨c1,c2,F1,F2,rfl,_,h1,h2⟩:=h
     simp[V.ns,ez v h1,iC vs h2]
end
mutual
theorem fX:∀ (v:V) {cs F},R w Pb v cs F->(∀ g,Pb g->w'.heap[g]? =w.heap[g]?)->(∀ g,g∈F->w'.heap[g]? =w.heap[g]?)->
 (∀ g,Pb g->Pb' g)->(∀ g,g∈F->¬ Pb' g)->R w' Pb' v cs F
 | .lit x,cs,F,h,_,_,_,_=>h
 | .agg vs,cs,F,h,k1,k2,k3,k4=>by simp only[R]at h ⊢;exact eh vs h k1 k2 k3 k4
 | .tup _,_,_,h,_,_,_,_=>by simp[R]at h
 | .gv _ _,_,_,h,_,_,_,_=>by simp[R]at h
 | .sl full xs,cs,F,h,k1,_,k3,_=>by
  obtain⟨hF,A,c,hc,hl,hf,hx⟩:=h
  refine⟨hF,A,c,hc,hl,hf,?_⟩
  rcases hx with hx | ⟨b,o,sz,flat,hA,hb,hs,hn,hr,s3⟩
  exact .inl hx
  exact .inr ⟨b,o,sz,flat,hA,k3 b hb,hs,hn,eh xs hr k1 Z8 k3 Z8,fun j u hu=>by
   rw[<- s3 j u hu];exact World.cell?_of_block (w:=w) (k1 b hb)⟩
 | .own sz xs g o c,cs,F,h,k1,k2,k3,k4=>by
  rcases h with h | ⟨h1,h2,h3,h4,h5,h6,flat,F',cells,hF,hr,⟨e,fr,hb,hfr⟩,hsz,s3⟩
  exact .inl h
  subst hF
  exact .inr ⟨h1,h2,h3,h4,h5,k4 g Z8,flat,F',cells,rfl,eh xs hr k1 (fun g hg=>k2 g (by simp[hg])) k3 (fun g hg=>k4 g (by simp[hg])),
   ⟨e,fr,(k2 g Z8).trans hb,hfr⟩,hsz,s3⟩
 | .ow sz xs,cs,F,h,k1,k2,k3,k4=>by
  obtain⟨g,o,c,h⟩:=h
  refine⟨g,o,c,?_⟩
  rcases h with h | ⟨h1,h2,h3,h4,h5,h6,flat,F',cells,hF,hr,⟨e,fr,hb,hfr⟩,hsz,s3⟩
  exact .inl h
  subst hF
  exact .inr ⟨h1,h2,h3,h4,h5,k4 g Z8,flat,F',cells,rfl,eh xs hr k1 (fun g hg=>k2 g (by simp[hg])) k3 (fun g hg=>k4 g (by simp[hg])),
   ⟨e,fr,(k2 g Z8).trans hb,hfr⟩,hsz,s3⟩
 | .om es g,cs,F,h,_,k2,_,k4=>by
  obtain⟨rfl,h1,h2,h3⟩:=h
  exact⟨rfl,h1,k4 g Z8,h3.eM (k2 g Z8)⟩
 | .mp es,cs,F,h,k1,_,k3,_=>by
  obtain⟨h0,g,h1,h2,h3⟩:=h
  exact⟨h0,g,h1,k3 g h2,h3.eM (k1 g h2)⟩
 | .hd ..,cs,F,h,_,_,_,_=>h
 | .ptr ..,cs,F,h,_,_,_,_=>h
 | .ep v,cs,F,h,k1,_,k3,_=>by
  obtain⟨hF,b,o,flat,hc,hb,hr,s3⟩:=h
  exact⟨hF,b,o,flat,hc,k3 b hb,fX v hr k1 Z8 k3 Z8,fun j u hu=>by
   rw[<- s3 j u hu];exact World.cell?_of_block (w:=w) (k1 b hb)⟩
 | .a8,cs,F,h,_,_,_,_=>h
theorem eh:∀ (vs:List V) {cs F},RL w Pb vs cs F->(∀ g,Pb g->w'.heap[g]? =w.heap[g]?)->(∀ g,g∈F->w'.heap[g]? =w.heap[g]?)->
 (∀ g,Pb g->Pb' g)->(∀ g,g∈F->¬ Pb' g)->RL w' Pb' vs cs F
 | [],cs,F,h,_,_,_,_=>h
 | v::vs,cs,F,h,k1,k2,k3,k4=>by
     obtain⟨c1,c2,F1,F2,hc,rfl,h1,h2⟩:=h
     exact⟨c1,c2,F1,F2,hc,rfl,fX v h1 k1 (fun g hg=>k2 g (by simp[hg])) k3 (fun g hg=>k4 g (by simp[hg])),
      eh vs h2 k1 (fun g hg=>k2 g (by simp[hg])) k3 (fun g hg=>k4 g (by simp[hg]))⟩
end
end
structure AS where
 t:List (Nat×V)
 h:List (Nat×(Nat×V))
def lk{α:Type}(i:Nat):List (Nat×α)->Option α
 | []=>none
 | (k,v)::r=>if i=k then some v else lk i r
def AS.get(A:AS)(i:Nat):V:=(lk i A.t).getD .a8
def AS.put(A:AS)(d:Option Nat)(v:V):AS:=match d with | some d=>{ A with t:=(d,v)::A.t } | none=>A
theorem AS.aA(A:AS)(d i:Nat)(v:V):(A.put (some d) v).get i=if i=d then v else A.get i:=by
 simp only[AS.get,AS.put,lk];split <;> rfl
def RVs(w:World)(Pb:Nat->Prop):List V->List Value->List Nat->Prop
 | [],xs,F=>xs=[]/\F=[]
 | v::vs,xs,F=> ∃ x xs' F1 F2,xs=x::xs'/\F=F1++F2/\(match v with
     | .agg us=> ∃ cs,x=.agg cs/\RL w Pb us cs.toList F1
     | .a8=>F1=[]
     | v=>R w Pb v [x] F1)/\RVs w Pb vs xs' F2
def Tz(w:World)(Pb:Nat->Prop)(v:V)(x:Value)(F:List Nat):Prop:=
 match v with
 | .tup vs=> ∃ xs:Array Value,x=.tuple xs/\RVs w Pb vs xs.toList F
 | .agg us=> ∃ cs,x=.agg cs/\RL w Pb us cs.toList F
 | .a8=>F=[]
 | v=>R w Pb v [x] F
def RV(w:World)(Pb:Nat->Prop)(v:V)(x:Value)(F:List Nat):Prop:=
 match v with
 | .gv b u=>F=[]/\(b=true->Tz w Pb u x [])/\(b=false->x=undef)
 | v=>Tz w Pb v x F
theorem tf{w w':World}{Pb Pb':Nat->Prop}:∀ (vs:List V) {xs F},RVs w Pb vs xs F->(∀ g,Pb g->w'.heap[g]? =w.heap[g]?)->(∀ g,g∈F->w'.heap[g]? =w.heap[g]?)->
 (∀ g,Pb g->Pb' g)->(∀ g,g∈F->¬ Pb' g)->RVs w' Pb' vs xs F
 | [],_,_,h,_,_,_,_=>h
 | v::vs,xs,F,h,k1,k2,k3,k4=>by
   obtain⟨x,xs',F1,F2,hx,rfl,h1,h2⟩:=h
   refine⟨x,xs',F1,F2,hx,rfl,?_,tf vs h2 k1 (fun g hg=>k2 g (by simp[hg])) k3 (fun g hg=>k4 g (by simp[hg]))⟩
   cases v with
   | agg us=>obtain⟨cs,e,h1⟩:=h1;exact⟨cs,e,eh us h1 k1 (fun g hg=>k2 g (by simp[hg])) k3 (fun g hg=>k4 g (by simp[hg]))⟩
   | a8=>exact h1
   | _=>exact fX _ h1 k1 (fun g hg=>k2 g (by simp[hg])) k3 (fun g hg=>k4 g (by simp[hg]))
theorem fp{w w':World} {Pb Pb':Nat->Prop} (v:V) {x F} (h:Tz w Pb v x F) (k1:∀ g,Pb g->w'.heap[g]? =w.heap[g]?) (k2:∀ g,g∈F->w'.heap[g]? =w.heap[g]?)
 (k3:∀ g,Pb g->Pb' g) (k4:∀ g,g∈F->¬ Pb' g):Tz w' Pb' v x F:=by
 cases v with
 | tup vs=>obtain⟨xs,e,h⟩:=h;exact⟨xs,e,tf vs h k1 k2 k3 k4⟩
 | agg us=>obtain⟨cs,e,h⟩:=h;exact⟨cs,e,eh us h k1 k2 k3 k4⟩
 | a8=>exact h
 | _=>exact fX _ h k1 k2 k3 k4
theorem mH{w w':World} {Pb Pb':Nat->Prop} (v:V) {x F} (h:RV w Pb v x F) (k1:∀ g,Pb g->w'.heap[g]? =w.heap[g]?) (k2:∀ g,g∈F->w'.heap[g]? =w.heap[g]?)
 (k3:∀ g,Pb g->Pb' g) (k4:∀ g,g∈F->¬ Pb' g):RV w' Pb' v x F:=by
 cases v with
 | gv b u=>obtain⟨hF,h1,h2⟩:=h;exact⟨hF,fun hb=>fp u (h1 hb) k1 Z8 k3 Z8,h2⟩
 | tup vs=>exact fp (.tup vs) h k1 k2 k3 k4
 | agg us=>exact fp (.agg us) h k1 k2 k3 k4
 | a8=>exact h
 | own sz xs g o c=>exact fp (.own sz xs g o c) h k1 k2 k3 k4
 | ow sz xs=>exact fp (.ow sz xs) h k1 k2 k3 k4
 | om es g=>exact fp (.om es g) h k1 k2 k3 k4
 | mp es=>exact fp (.mp es) h k1 k2 k3 k4
 | lit x=>exact fp (.lit x) h k1 k2 k3 k4
 | sl f xs=>exact fp (.sl f xs) h k1 k2 k3 k4
 | hd r p sz g o lo n c=>exact fp (.hd r p sz g o lo n c) h k1 k2 k3 k4
 | ptr r p g o=>exact fp (.ptr r p g o) h k1 k2 k3 k4
 | ep v=>exact fp (.ep v) h k1 k2 k3 k4
def Shp(w w':World):Prop:= ∀ (g:Nat) (c:Array Value) (e:TypeId) (fr:Nat×Nat),w.heap[g]? =some (.cells c e fr)->∃ c':Array Value,w'.heap[g]? =some (.cells c' e fr)/\c'.size=c.size
theorem Shp.refl(w:World):Shp w w:=fun _ c _ _ h=>⟨c,h,rfl⟩
theorem Shp.trans{a b c:World}(h:Shp a b)(k:Shp b c):Shp a c:=fun g x e fr hx=>by
 obtain⟨y,h1,h2⟩:=h g x e fr hx
 obtain⟨z,k1,k2⟩:=k g y e fr h1
 exact⟨z,k1,k2.trans h2⟩
theorem Shp.of_eq{w w':World}(h:∀ g:Nat,g<w.heap.size->w'.heap[g]? =w.heap[g]?):Shp w w':=fun g c e fr hc=>by
 have hl:g<w.heap.size:=(Zl.1 hc).1
 exact⟨c,(h g hl).trans hc,rfl⟩
structure x7 (Pb:Nat->Prop) (w w':World):Prop where
 os:w'.os=w.os
 tape:w'.tape=w.tape
 output:w'.output=w.output
 size:w.heap.size<=w'.heap.size
 block:∀ g,Pb g->w'.heap[g]? =w.heap[g]?
 shape:Shp w w'
theorem x7.refl(Pb:Nat->Prop)(w:World):x7 Pb w w:=⟨rfl,rfl,rfl,Zg _,fun _ _=>rfl,Shp.refl _⟩
theorem x7.trans{Pb Pb':Nat->Prop}{a b c:World}(h:x7 Pb a b)(k:x7 Pb' b c)(hp:∀ g,Pb g->Pb' g):x7 Pb a c:=
 ⟨k.os.trans h.os,k.tape.trans h.tape,k.output.trans h.output,Nat.le_trans h.size k.size,fun g hg=>(k.block g (hp g hg)).trans (h.block g hg),h.shape.trans k.shape⟩
def At(w:World)(Pb:Nat->Prop)(v:V)(g o:Nat)(F:List Nat):Prop:=
 ∃ cs cells,Blk w g cells/\R w Pb v cs F/\∀ j u,cs[j]? =some u->cells[o+j]? =some u
structure s4 (N:Nat) (Pb Kb:Nat->Prop) (A:AS) (a:Act) (w:World) (F:l8->List Nat):Prop where
 size:a.tmps.size=N
 defers:a.defers=[]
 slot:∀ i,RV w Pb (A.get i) (a.tmps.getD i undef) (F (.slot i))
 root:∀ k g v,lk k A.h=some (g,v)->∃ F',F (.key k)=g::F'/\At w Pb v g 0 F'
 cd:∀ r r',r≠r'->∀ g,g∈F r->g ∉ F r'
 nodup:∀ r,(F r).Nodup
 free:∀ r g,g∈F r->¬ Kb g/\g<w.heap.size
 sub:∀ g,Pb g->Kb g
 bound:∀ g,Kb g->g<w.heap.size
def Nx(N:Nat)(Pb Kb:Nat->Prop)(w:World)(K:AS->Prop)(a':Act)(w':World):Prop:=
 ∃ A' Pb' D3 F',K A'/\s4 N Pb' D3 A' a' w' F'/\(∀ g,Pb g->Pb' g)/\(∀ g,Kb g->D3 g)/\(∀ g,Pb' g->Pb g\/¬ Kb g)/\x7 Kb w w'
def cf(F:l8->List Nat)(r:l8)(l:List Nat):l8->List Nat:=fun r'=>if r'=r then l else F r'
theorem s4.put{N:Nat} {Pb Kb:Nat->Prop} {A:AS} {a:Act} {w:World} {F:l8->List Nat} (h:s4 N Pb Kb A a w F) {d:Nat} {v:V} {x:Value} {F':List Nat}
 (hd:d<N) (hv:RV w Pb v x F') (h1:∀ r,r≠.slot d->∀ g,g∈F'->g ∉ F r) (h2:F'.Nodup) (h3:∀ g,g∈F'->¬ Kb g/\g<w.heap.size):
 s4 N Pb Kb (A.put (some d) v) (a.put (some d) x) w (cf F (.slot d) F') where
 size:=by simp[Act.put,h.size]
 defers:=by simpa[Act.put] using h.defers
 slot:=fun i=>by
  rw[AS.aA]
  by_cases e:i=d
  subst e
  simp only[if_true,cf]
  have hx:(a.put (some i) x).tmps.getD i undef=x:=by simp[Act.put,h.size,hd]
  rw[hx];exact hv
  have hne:l8.slot i≠l8.slot d:=fun c=>e (by injection c)
  simp only[if_neg e,cf,if_neg hne]
  have hx:(a.put (some d) x).tmps.getD i undef=a.tmps.getD i undef:=by
   simp[Act.put,Array.getElem?_setIfInBounds_ne (Ne.symm e)]
  rw[hx];exact h.slot i
 root:=fun k g v hk=>by
  obtain⟨M8,e,hr⟩:=h.root k g v hk
  exact⟨M8,by simpa[cf] using e,hr⟩
 cd:=fun r r' hne g hg=>by
  simp only[cf]at hg ⊢
  by_cases e:r=.slot d
  subst e
  rw[if_neg (Ne.symm hne)]
  simp only[if_true]at hg
  exact h1 r' (Ne.symm hne) g hg
  rw[if_neg e]at hg
  by_cases e':r'=.slot d
  rw[if_pos e']
  exact fun Pc=>h1 r e g Pc hg
  rw[if_neg e']
  exact h.cd r r' hne g hg
 nodup:=fun r=>by
  simp only[cf];split
  exact h2
  exact h.nodup r
 free:=fun r g hg=>by
  simp only[cf]at hg
  split at hg
  exact h3 g hg
  exact h.free r g hg
 sub:=h.sub
 bound:=h.bound
def cF(N:Nat)(d:Option Nat):Prop:=match d with | some d=>d<N | none=>True
theorem s4.pR{N:Nat} {Pb Kb:Nat->Prop} {A:AS} {a:Act} {w:World} {F:l8->List Nat} (h:s4 N Pb Kb A a w F) {d:Option Nat} {v:V} {x:Value}
 (hd:cF N d) (hv:RV w Pb v x []):∃ F',s4 N Pb Kb (A.put d v) (a.put d x) w F':=by
 cases d with
 | none=>exact⟨F,h⟩
 | some d=>exact⟨_,h.put hd hv Z8 Z8 Z8⟩
def E2(P:Program)(N:Nat)(o:Oper)(A:AS)(K:AS->Prop):Prop:=
 ∀ Pb Kb a w F Q,s4 N Pb Kb A a w F->o.wp P a w (Nx N Pb Kb w K) Q
theorem iR{P:Program} {N:Nat} {o:Oper} {A:AS} {K:AS->Prop} {v:V} (hd:cF N o.dst) (hK:K (A.put o.dst v))
 (h:∀ Pb Kb a w F,s4 N Pb Kb A a w F->∃ x,(execOp a.eval o).run P w=.ok (.value x) w/\RV w Pb v x []):E2 P N o A K:=by
 intro Pb Kb a w F Q hs
 obtain⟨x,hx,hr⟩:=h Pb Kb a w F hs
 unfold Oper.wp
 rw[hx,Oper.upon_value]
 obtain⟨F',y9⟩:=hs.pR hd hr
 exact⟨_,Pb,Kb,F',hK,y9,fun _ h=>h,fun _ h=>h,fun _ h=>.inl h,x7.refl _ _⟩
inductive D where
 | int (k:IntKind) | bool | str | ptr (e:Nat) | sl (e:Nat) | arr (n e:Nat) | map (k e:Nat) | st (fs:List (Nat×Nat)) | other
 deriving DecidableEq
structure TI where
 sz:Nat
 L1:Nat
 d:D
def dt:TypeDesc->D
 | .int k=>.int k | .bool=>.bool | .string=>.str | .pointer e=>.ptr e | .slice e=>.sl e | .array n e=>.arr n e | .map k e=>.map k e
 | .struct fs=>.st (fs.toList.map fun f=>(f.offset,f.type))
 | _=>.other
def ti(P:Program)(T:Nat):Option TI:=match P.info? T,P.underlying T with | some i,some d=>some ⟨i.size,i.bytes,dt d⟩ | _,_=>none
def D.agg:D->Bool | .st _ | .arr _ _=>true | _=>false
theorem jd{P:Program}{T:Nat}{i:TI}(h:ti P T=some i):∃ inf d,P.info? T=some inf/\P.underlying T=some d/\inf.size=i.sz/\inf.bytes=i.L1/\dt d=i.d:=by
 unfold ti at h
 cases h1:P.info? T with
 | none=>simp[h1]at h
 | some inf=>cases h2:P.underlying T with
   | none=>simp[h1,h2]at h
   | some d=>simp[h1,h2]at h;subst h;exact⟨inf,d,rfl,rfl,rfl,rfl,rfl⟩
def Sj:Value->V
 | .slice none 0 0=>.sl true []
 | x=>.lit x
def cV:Value->V
 | .agg cs=>if cs.toList.all (·.oneCell') then .agg (cs.toList.map Sj) else .a8
 | .tuple _=>.a8
 | x=>Sj x
def AS.ev(A:AS):Operand->V
 | .tmp i=>A.get i
 | .const v=>cV v
 | .global g=>.ptr (.key (9000+g)) [] g 0
 | .func f=>.lit (.func (.func f) #[] #[])
mutual
def V.Qs(r:l8)(p:List Nat):V->V
 | .own sz xs g o c=>.hd r p sz g o 0 xs.length c
 | .ow .. =>.a8
 | .om _ g=>.lit (.map (some g))
 | .agg vs=>.agg (V.Hr r p 0 vs)
 | v=>v
def V.Hr(r:l8)(p:List Nat)(j:Nat):List V->List V
 | []=>[]
 | v::vs=>v.Qs r (p++[j])::V.Hr r p (j+1) vs
end
mutual
def V.cZ:V->Bool
 | .own .. =>true
 | .ow .. =>true
 | .om .. =>true
 | .agg vs=>V.aE vs
 | .tup vs=>V.aE vs
 | _=>false
def V.aE:List V->Bool
 | []=>false
 | v::vs=>v.cZ||V.aE vs
end
def V.cp(r:l8):V->V
 | .tup _=>.a8
 | .gv _ _=>.a8
 | v=>v.Qs r []
def CP(A:AS)(x:Operand)(y:V):V:=
 match A.ev x with
 | .tup vs=>if V.aE vs=true then .a8 else .tup vs
 | _=>y
def AS.cp(A:AS):Operand->V
 | .tmp i=>(A.get i).cp (.slot i)
 | x=>A.ev x
def jH(op:BinOp)(k:IntKind)(a b:Int):Option (Prop×V):=
 match op with
 | .add=>some (True,.lit (.int k (k.wrap (a+b))))
 | .sub=>some (True,.lit (.int k (k.wrap (a-b))))
 | .mul=>some (True,.lit (.int k (k.wrap (a*b))))
 | .quo=>some (b≠0,.lit (.int k (k.wrap (a.tdiv b))))
 | .rem=>some (b≠0,.lit (.int k (a.tmod b)))
 | .eql=>some (True,.lit (.bool (a==b)))
 | .neq=>some (True,.lit (.bool (a != b)))
 | .lss=>some (True,.lit (.bool (decide (a<b))))
 | .leq=>some (True,.lit (.bool (decide (a<=b))))
 | .gtr=>some (True,.lit (.bool (decide (a>b))))
 | .geq=>some (True,.lit (.bool (decide (a>=b))))
 | .and=>some (True,.lit (.int k (k.wrap ((BitVec.ofInt k.bits a &&& BitVec.ofInt k.bits b).toNat))))
 | .xor=>some (True,.lit (.int k (k.wrap ((BitVec.ofInt k.bits a ^^^ BitVec.ofInt k.bits b).toNat))))
 | .shr=>some (0<=b,.lit (.int k (a.fdiv (2 ^ min b.toNat k.bits))))
 | .shl=>some (0<=b,.lit (.int k (k.wrap (a*2 ^ min b.toNat k.bits))))
 | _=>none
def Qk(k:IntKind)(n:Int):Prop:=
 match k with
 | .i64=> -9223372036854775808<=n/\n<=9223372036854775807
 | .i32=> -2147483648<=n/\n<=2147483647
 | .u8=>0<=n/\n<=255
 | k=>k.wrap n=n
def vP(op:BinOp)(k:IntKind)(a b:Int):Option (Prop×V):=
 match op with
 | .add=>some (Qk k (a+b),.lit (.int k (a+b)))
 | .sub=>some (Qk k (a-b),.lit (.int k (a-b)))
 | .mul=>some (Qk k (a*b),.lit (.int k (a*b)))
 | .quo=>some (0<=a/\0<b/\Qk k a,.lit (.int k (a / b)))
 | .rem=>some (0<=a/\0<b,.lit (.int k (a % b)))
 | .and=>some (0<=a/\0<=b/\Qk k a/\Qk k b,.lit (.int k ((a.toNat &&& b.toNat:Nat):Int)))
 | .xor=>some (0<=a/\0<=b/\Qk k a/\Qk k b,.lit (.int k ((a.toNat ^^^ b.toNat:Nat):Int)))
 | .shr=>some (0<=b/\b<k.bits,.lit (.int k (a.fdiv (2 ^ b.toNat))))
 | op=>jH op k a b
def vW(op:BinOp)(a b:ByteArray):Option (Prop×V):=
 match op with
 | .add=>some (a.size+b.size<=4611686018427387904,.lit (.string (a++b)))
 | .eql=>some (True,.lit (.bool (a.toList==b.toList)))
 | .neq=>some (True,.lit (.bool (!(a.toList==b.toList))))
 | _=>none
def Cj(op:BinOp)(a b:Bool):Option (Prop×V):=
 match op with
 | .eql=>some (True,.lit (.bool (a==b)))
 | .neq=>some (True,.lit (.bool (!(a==b))))
 | _=>none
def tx(op:BinOp)(d:Option D)(x y:V):Option (Prop×V):=
 match d,x,y with
 | some (.int _),.lit (.int k a),.lit (.int k' b)=>if op=.shr\/op=.shl then vP op k a b else if k=k' then vP op k a b else none
 | some .str,.lit (.string a),.lit (.string b)=>vW op a b
 | some .bool,.lit (.bool a),.lit (.bool b)=>Cj op a b
 | _,_,_=>none
def Ww(op:UnOp)(x:V):Option (Prop×V):=
 match op,x with
 | .not,.lit (.bool b)=>some (True,.lit (.bool (!b)))
 | .neg,.lit (.int k n)=>some (Qk k (-n),.lit (.int k (-n)))
 | _,_=>none
def tD(P:Program)(T:Nat):Option D:=(ti P T).map (·.d)
def Wp:V->Bool×V
 | .gv b v=>(b,v)
 | v=>(true,v)
def BZ(A:AS)(a b:Operand):V->Option (Prop×V)
 | .lit (.bool c)=>match Wp (A.ev a),Wp (A.ev b) with
   | (ga,.lit (.bool x)),(gb,.lit (.bool y))=>some ((c=true->ga=true)/\(c=false->gb=true),.lit (.bool (cond c x y)))
   | _,_=>none
 | _=>none
def HG:Option D->Option D->V->Option (Prop×V)
 | some (.int _),some (.int k),.lit (.int _ n)=>some (Qk k n,.lit (.int k n))
 | some .str,some .str,.lit (.string s)=>some (True,.lit (.string s))
 | _,_,_=>none
def XN(s:ByteArray)(i:Int):V:=.lit (.int .u8 (s.data.getD i.toNat 0).toNat)
def GF:Option D->V->V->Option (Prop×V)
 | some .str,.lit (.string s),.lit (.int _ i)=>some (0<=i/\i<s.size,XN s i)
 | _,_,_=>none
def TC:Option V->Option Int
 | none=>some 0
 | some (.lit (.int _ l))=>some l
 | _=>none
def S2(n:Nat):Option V->Option Int
 | none=>some n
 | some (.lit (.int _ l))=>some l
 | _=>none
def Gz(s:ByteArray)(lo hi:Option V):Option (Prop×V):=
 match TC lo,S2 s.size hi with
 | some l,some h=>some (0<=l/\l<=h/\h<=s.size,.lit (.string (s.extract l.toNat h.toNat)))
 | _,_=>none
def CM(d:Option D)(x:V)(lo hi:Option V):Option (Prop×V):=
 match d,x with
 | some .str,.lit (.string s)=>Gz s lo hi
 | _,_=>none
def zb:Option D->V->Option (Prop×V)
 | some .str,.lit (.string s)=>some (True,.lit (.int .i64 s.size))
 | some (.sl _),.sl _ xs=>some (True,.lit (.int .i64 xs.length))
 | some (.sl _),.own _ xs _ _ _=>some (True,.lit (.int .i64 xs.length))
 | some (.sl _),.hd _ _ _ _ _ _ n _=>some (True,.lit (.int .i64 n))
 | _,_=>none
def Gu:V->Nat->Option (Prop×V)
 | .tup vs,i=>match vs[i]? with
   | some v=>if v.cZ then none else some (True,v)
   | none=>none
 | _,_=>none
def Cf:V->V->Option (Prop×V)
 | .lit (.int k a),.lit (.int k' b)=>if k=k' then some (True,.lit (.int k (max a b))) else none
 | _,_=>none
def vC(P:Program)(A:AS)(c:Call):Option (Prop×V):=
 match c.callee with
 | .builtin .len=>match c.args.toList,c.argTypes.toList with
   | [x],[T]=>zb (tD P T) (A.ev x)
   | _,_=>none
 | .builtin .max=>match c.args.toList with
   | [x,y]=>Cf (A.ev x) (A.ev y)
   | _=>none
 | _=>none
def OC(P:Program)(A:AS):Op->Option (Prop×V)
 | .move x=>some (True,CP A x (A.cp x))
 | .pick c a b=>BZ A a b (A.ev c)
 | .binOp op T x y _=>tx op (tD P T) (A.ev x) (A.ev y)
 | .unOp op _ x=>Ww op (A.ev x)
 | .convert s d x=>HG (tD P s) (tD P d) (A.ev x)
 | .index T x i=>GF (tD P T) (A.ev x) (A.ev i)
 | .slice T x lo hi none=>CM (tD P T) (A.ev x) (lo.map A.ev) (hi.map A.ev)
 | .call c=>vC P A c
 | .extract x i=>Gu (A.ev x) i
 | _=>none
section
variable {w:World} {Pb:Nat->Prop}
mutual
theorem kz(r:l8):∀ (v:V) (p:List Nat) {cs F},R w Pb v cs F->R w Pb (v.Qs r p) cs []
 | .own sz xs g o c,p,cs,F,h=>by
   rcases h with ⟨h1,h2,h3,A,h4⟩ | ⟨h1,h2,h3,h4,_⟩
   subst h1 h2;exact⟨rfl,Zg _,A,h4,fun h=>absurd h Z9⟩
   exact⟨rfl,h3,_,h4,fun _=>by simp⟩
 | .ow ..,_,_,_,h=>by
   obtain⟨g,o,c,h⟩:=h
   rcases h with ⟨h1,h2,h3,A,h4⟩ | ⟨h1,h2,h3,h4,_⟩
   exact⟨rfl,_,h4,rfl⟩
   exact⟨rfl,_,h4,rfl⟩
 | .om ..,_,_,_,h=>⟨rfl,h.2.1,rfl⟩
 | .mp ..,_,_,_,h=>⟨rfl,h.2⟩
 | .agg vs,p,cs,F,h=>by simp only[R,V.Qs]at h ⊢;exact zj r vs p 0 h
 | .tup _,_,_,_,h=>by simp[R]at h
 | .gv _ _,_,_,_,h=>by simp[R]at h
 | .lit x,_,_,_,h=>⟨h.1,h.2.1,rfl⟩
 | .sl ..,_,_,_,h=>⟨rfl,h.2⟩
 | .hd ..,_,_,_,h=>⟨rfl,h.2⟩
 | .ptr ..,_,_,_,h=>⟨rfl,h.2⟩
 | .ep _,_,_,_,h=>⟨rfl,h.2⟩
 | .a8,_,_,_,h=>⟨rfl,h.2⟩
theorem zj(r:l8):∀ (vs:List V) (p:List Nat) (j:Nat) {cs F},RL w Pb vs cs F->RL w Pb (V.Hr r p j vs) cs []
 | [],_,_,_,_,h=>⟨h.1,rfl⟩
 | v::vs,p,j,cs,F,h=>by
   obtain⟨c1,c2,F1,F2,rfl,_,h1,h2⟩:=h
   exact⟨c1,c2,[],[],rfl,rfl,kz r v _ h1,zj r vs p (j+1) h2⟩
end
mutual
theorem iL:∀ (v:V) {cs F},v.cZ=false->R w Pb v cs F->F=[]
 | .own ..,_,_,ho,_=>by simp[V.cZ]at ho
 | .ow ..,_,_,ho,_=>by simp[V.cZ]at ho
 | .om ..,_,_,ho,_=>by simp[V.cZ]at ho
 | .mp ..,_,_,_,h=>h.1
 | .agg vs,_,_,ho,h=>by simp only[R]at h;exact fN vs (by simpa[V.cZ] using ho) h
 | .tup _,_,_,_,h=>by simp[R]at h
 | .gv _ _,_,_,_,h=>by simp[R]at h
 | .lit x,_,_,_,h=>h.2.2
 | .sl ..,_,_,_,h=>h.1
 | .hd ..,_,_,_,h=>h.1
 | .ptr ..,_,_,_,h=>h.1
 | .ep _,_,_,_,h=>h.1
 | .a8,_,_,_,h=>h.1
theorem fN:∀ (vs:List V) {cs F},V.aE vs=false->RL w Pb vs cs F->F=[]
 | [],_,_,_,h=>h.2
 | v::vs,_,_,ho,h=>by
   obtain⟨c1,c2,F1,F2,_,rfl,h1,h2⟩:=h
   simp only[V.aE,Bool.or_eq_false_iff]at ho
   rw[iL v ho.1 h1,fN vs ho.2 h2];rfl
end
theorem tj:∀ (vs:List V) {xs F},V.aE vs=false->RVs w Pb vs xs F->F=[]
 | [],_,_,_,h=>h.2
 | v::vs,_,_,ho,h=>by
   obtain⟨x,xs',F1,F2,_,rfl,h1,h2⟩:=h
   simp only[V.aE,Bool.or_eq_false_iff]at ho
   rw[tj vs ho.2 h2]
   cases v with
   | agg us=>obtain⟨cs,_,h1⟩:=h1;rw[fN us (by simpa[V.cZ] using ho.1) h1];rfl
   | a8=>rw[h1];rfl
   | tup _=>simp[R]at h1
   | gv _ _=>simp[R]at h1
   | _=>rw[iL _ ho.1 h1];rfl
theorem Lp{v:V}{x:Value}{F:List Nat}(r:l8)(h:RV w Pb v x F):RV w Pb (v.cp r) x []:=by
 cases v with
 | tup _=>rfl
 | gv _ _=>rfl
 | agg us=>obtain⟨cs,e,h⟩:=h;exact⟨cs,e,zj r us [] 0 h⟩
 | a8=>rfl
 | own sz xs g o c=>exact kz (w:=w) (Pb:=Pb) r (.own sz xs g o c) [] h
 | ow sz xs=>rfl
 | om es g=>exact kz (w:=w) (Pb:=Pb) r (.om es g) [] h
 | mp es=>exact kz (w:=w) (Pb:=Pb) r (.mp es) [] h
 | lit x=>exact kz (w:=w) (Pb:=Pb) r (.lit x) [] h
 | sl f xs=>exact kz (w:=w) (Pb:=Pb) r (.sl f xs) [] h
 | hd r' p sz g o lo n c=>exact kz (w:=w) (Pb:=Pb) r (.hd r' p sz g o lo n c) [] h
 | ptr r' p g o=>exact kz (w:=w) (Pb:=Pb) r (.ptr r' p g o) [] h
 | ep v=>exact kz (w:=w) (Pb:=Pb) r (.ep v) [] h
theorem HC{x:Value}(h:x.oneCell'=true):R w Pb (Sj x) [x] []:=by
 unfold Sj
 split
 exact⟨rfl,none,0,rfl,Zg _,fun _=>rfl,.inl rfl⟩
 exact⟨h,rfl,rfl⟩
theorem DO:∀ (l:List Value),l.all (·.oneCell')=true->RL w Pb (l.map Sj) l []
 | [],_=>⟨rfl,rfl⟩
 | x::l,h=>by
   simp only[List.all_cons,YS]at h
   exact⟨[x],l,[],[],rfl,rfl,HC h.1,DO l h.2⟩
theorem rW(x:Value):RV w Pb (cV x) x []:=by
 cases x with
 | agg cs=>
   unfold cV
   by_cases h:cs.toList.all (·.oneCell')=true
   simp only[h,if_true];exact⟨cs,rfl,DO _ h⟩
   simp only[h];rfl
 | tuple _=>rfl
 | slice a n c=>
   have h:=HC (w:=w) (Pb:=Pb) (x:=.slice a n c) rfl
   unfold cV;simp only
   revert h
   unfold Sj
   split <;> exact fun h=>h
 | _=>exact⟨rfl,rfl,rfl⟩
variable {N:Nat} {Kb:Nat->Prop} {A:AS} {a:Act} {F:l8->List Nat}
theorem dH(h:s4 N Pb Kb A a w F)(x:Operand):∃ Fx,RV w Pb (A.ev x) (a.eval x) Fx:=by
 cases x with
 | tmp i=>exact⟨_,h.slot i⟩
 | const v=>exact⟨[],rW v⟩
 | global g=>exact⟨[],rfl,rfl⟩
 | func f=>exact⟨[],rfl,rfl,rfl⟩
theorem bY(h:s4 N Pb Kb A a w F){x:Operand}{y:Value}(e:A.ev x=.lit y):a.eval x=y:=by
 obtain⟨Fx,hr⟩:=dH h x
 rw[e]at hr
 have:=hr.2.1
 simpa using this
theorem pW(h:s4 N Pb Kb A a w F)(x:Operand):RV w Pb (A.cp x) (a.eval x) []:=by
 cases x with
 | tmp i=>exact Lp (.slot i) (h.slot i)
 | const v=>exact rW v
 | global g=>exact⟨rfl,rfl⟩
 | func f=>exact⟨rfl,rfl,rfl⟩
variable {P:Program}
theorem aF{T:Nat}{d:TypeDesc}(h:P.underlying T=some d):(underlying T).run P w=.ok d w:=by
 simp[underlying,h]
theorem cL{T:Nat}{d:D}(h:tD P T=some d):∃ td,P.underlying T=some td/\dt td=d:=by
 unfold tD at h
 cases hi:ti P T with
 | none=>simp[hi]at h
 | some i=>
   obtain⟨inf,td,_,h2,_,_,h5⟩:=jd hi
   simp[hi]at h
   exact⟨td,h2,h5.trans h⟩
theorem sP(op:BinOp)(T:Nat)(x y:Operand){u v:Value}(hu:∀ cs,u≠.agg cs)(hn:u≠.nilIface):(eqGuard op T x y u v).run P w=.ok () w:=by
 unfold eqGuard
 cases op <;> first | rfl | (cases u <;> first | (exact absurd rfl hn) | (exact absurd rfl (hu _)) | rfl)
theorem Gv{op:BinOp}{k:IntKind}{p q:Int}{C:Prop}{v:V}(h:jH op k p q=some (C,v))(hC:C){T:Nat}(hs:op=.shr\/op=.shl->∀ yk,∃ x,(binOp op T (.int k p) (.int yk q)).run P w=.ok x w/\v=.lit x/\x.oneCell'=true):
 ∃ x,(binOp op T (.int k p) (.int k q)).run P w=.ok x w/\v=.lit x/\x.oneCell'=true:=by
 cases op <;> simp only[jH,YR,YU,reduceCtorEq]at h <;> obtain⟨rfl,rfl⟩:=h
 all_goals first
  | exact hs (.inl rfl) k
  | exact hs (.inr rfl) k
  | (refine⟨_,?_,rfl,rfl⟩
     simp only[binOp,ne_eq,not_true_eq_false,if_false]
     first | rfl | (unfold Op.intDiv;rw[if_neg hC];rfl))
theorem DD{op:BinOp}(ho:op=.shr\/op=.shl){k yk:IntKind}{p q:Int}{C:Prop}{v:V}(h:jH op k p q=some (C,v))(hC:C){T:Nat}:
 ∃ x,(binOp op T (.int k p) (.int yk q)).run P w=.ok x w/\v=.lit x/\x.oneCell'=true:=by
 rcases ho with rfl | rfl <;> simp only[jH,YR,YU]at h <;> obtain⟨rfl,rfl⟩:=h <;>
  exact⟨_,by simp[binOp,Op.shift,Int.not_lt.2 hC],rfl,rfl⟩
theorem vB{T:Nat}(hu:P.underlying T=some .bool)(p q:Bool):(Op.equal T (.bool p) (.bool q)).run P w=.ok (p==q) w:=by
 obtain⟨n,hn⟩:∃ n,Op.maxDepth=n+1:=⟨9999,rfl⟩
 unfold Op.equal
 rw[hn]
 simp only[Op.equalIn,Y4,aF hu,YW,Y5]
theorem kO{k:IntKind}{n:Int}(h:Qk k n):k.wrap n=n:=by
 cases k <;> simp only[Qk]at h <;> first | exact h | (simp only[IntKind.wrap,IntKind.bits,IntKind.signed,Bool.true_and,Bool.false_and];split <;> simp_all <;> omega)
def UA(k:IntKind):Nat:=if k.signed then k.bits-1 else k.bits
theorem DX(k:IntKind):2 ^ UA k<=2 ^ k.bits:=Nat.pow_le_pow_right Z6 (by unfold UA;split <;> omega)
theorem tK{k:IntKind}{m:Nat}(h:m<2 ^ UA k):k.wrap (m:Int)=m:=by
 unfold IntKind.wrap
 cases k <;> simp[UA,IntKind.bits,IntKind.signed]at h ⊢ <;> omega
theorem nj{k:IntKind}{n:Int}(h:Qk k n)(h0:0<=n):n.toNat<2 ^ UA k:=by
 have hw:=kO h
 obtain⟨q,rfl⟩:=Int.eq_ofNat_of_zero_le h0
 unfold IntKind.wrap at hw
 cases k <;> simp[IntKind.bits,IntKind.signed,UA]at hw ⊢ <;> (try split at hw) <;> omega
theorem wQ{op:BinOp}{k:IntKind}{p q:Int}{C:Prop}{v:V}(h:vP op k p q=some (C,v))(hC:C):∃ C',jH op k p q=some (C',v)/\C':=by
 cases op <;> simp only[vP,YR,YU]at h
 case add=>obtain⟨rfl,rfl⟩:=h;exact⟨_,by simp only[jH,kO hC],trivial⟩
 case sub=>obtain⟨rfl,rfl⟩:=h;exact⟨_,by simp only[jH,kO hC],trivial⟩
 case mul=>obtain⟨rfl,rfl⟩:=h;exact⟨_,by simp only[jH,kO hC],trivial⟩
 case quo=>
  obtain⟨rfl,rfl⟩:=h
  obtain⟨h0,h1,h2⟩:=hC
  refine⟨_,?_,show q≠0 by omega⟩
  have e:p.tdiv q=p / q:=Int.tdiv_eq_ediv_of_nonneg h0
  have hd:0<=p / q:=Int.ediv_nonneg h0 Z9
  have hle:p / q<=p:=Int.ediv_le_self _ h0
  have hb:=nj h2 h0
  have:=tK (k:=k) (m:=(p / q).toNat) Z9
  rw[Int.toNat_of_nonneg hd]at this
  simp only[jH,e,this]
 case rem=>
  obtain⟨rfl,rfl⟩:=h
  obtain⟨h0,h1⟩:=hC
  refine⟨_,?_,show q≠0 by omega⟩
  simp only[jH,Int.tmod_eq_emod_of_nonneg h0]
 case and=>
  obtain⟨rfl,rfl⟩:=h
  obtain⟨h0,h1,h2,h3⟩:=hC
  refine⟨_,?_,trivial⟩
  obtain⟨a,rfl⟩:=Int.eq_ofNat_of_zero_le h0
  obtain⟨b,rfl⟩:=Int.eq_ofNat_of_zero_le h1
  have ha:=nj h2 h0
  have hb:=nj h3 h1
  have hk:=DX k
  simp only[Int.toNat_natCast]at ha hb
  have e:(BitVec.ofInt k.bits (a:Int) &&& BitVec.ofInt k.bits (b:Int)).toNat=a &&& b:=by
   simp only[BitVec.toNat_and,BitVec.toNat_ofInt]
   rw[Int.emod_eq_of_lt Z9 (by exact_mod_cast Nat.lt_of_lt_of_le ha hk),Int.emod_eq_of_lt Z9 (by exact_mod_cast Nat.lt_of_lt_of_le hb hk)];rfl
  have:=tK (k:=k) (m:=a &&& b) (Nat.lt_of_le_of_lt Nat.and_le_left ha)
  simp only[jH,e,this,Int.toNat_natCast]
 case xor=>
  obtain⟨rfl,rfl⟩:=h
  obtain⟨h0,h1,h2,h3⟩:=hC
  refine⟨_,?_,trivial⟩
  obtain⟨a,rfl⟩:=Int.eq_ofNat_of_zero_le h0
  obtain⟨b,rfl⟩:=Int.eq_ofNat_of_zero_le h1
  have ha:=nj h2 h0
  have hb:=nj h3 h1
  have hk:=DX k
  simp only[Int.toNat_natCast]at ha hb
  have e:(BitVec.ofInt k.bits (a:Int) ^^^ BitVec.ofInt k.bits (b:Int)).toNat=a ^^^ b:=by
   simp only[BitVec.toNat_xor,BitVec.toNat_ofInt]
   rw[Int.emod_eq_of_lt Z9 (by exact_mod_cast Nat.lt_of_lt_of_le ha hk),Int.emod_eq_of_lt Z9 (by exact_mod_cast Nat.lt_of_lt_of_le hb hk)];rfl
  have:=tK (k:=k) (m:=a ^^^ b) (Nat.xor_lt_two_pow ha hb)
  simp only[jH,e,this,Int.toNat_natCast]
 case shr=>
  obtain⟨rfl,rfl⟩:=h
  obtain⟨h1,h2⟩:=hC
  refine⟨_,?_,h1⟩
  have:min q.toNat k.bits=q.toNat:=Z9
  simp only[jH,this]
 all_goals exact⟨_,h,hC⟩
theorem Hp{op:BinOp}{x y:V}{C:Prop}{v:V}{T:Nat}(h:tx op (tD P T) x y=some (C,v))(hC:C):
 ∃ u u',x=.lit u/\y=.lit u'/\(∀ cs,u≠.agg cs)/\u≠.nilIface/\∃ z,(binOp op T u u').run P w=.ok z w/\v=.lit z/\z.oneCell'=true:=by
 unfold tx at h
 split at h
 rename_i k p k' q _
 refine⟨_,_,rfl,rfl,Z8,Z8,?_⟩
 split at h
 rename_i ho;obtain⟨C',h',XJ⟩:=wQ h hC;exact DD ho h' XJ
 rename_i ho
 split at h
 rename_i hk;subst hk;obtain⟨C',h',XJ⟩:=wQ h hC;exact Gv h' XJ (fun h=>absurd h ho)
 simp at h
 rename_i p q _
 refine⟨_,_,rfl,rfl,Z8,Z8,?_⟩
 cases op <;> simp only[vW,YR,YU,reduceCtorEq]at h <;> obtain⟨rfl,rfl⟩:=h
 refine⟨_,?_,rfl,rfl⟩
 have: ¬ (((p.size+q.size:Nat):Int)>IntKind.i64.max):=by
  have:IntKind.i64.max=9223372036854775807:=Z6
  omega
 simp only[binOp,Op.stringOp,if_neg this,Y5]
 exact⟨_,rfl,rfl,rfl⟩
 exact⟨_,rfl,rfl,rfl⟩
 rename_i p q hT
 refine⟨_,_,rfl,rfl,Z8,Z8,?_⟩
 obtain⟨td,hu,hd⟩:=cL hT
 have SW:td=.bool:=by cases td <;> simp[dt]at hd ⊢
 subst SW
 cases op <;> simp only[Cj,YR,YU,reduceCtorEq]at h <;> obtain⟨rfl,rfl⟩:=h
 exact⟨_,by simp only[binOp,Y4,vB hu,YW,Y5],rfl,rfl⟩
 exact⟨_,by simp only[binOp,Y4,vB hu,YW,Y5],rfl,rfl⟩
 simp at h
theorem dk{x:Value}(h:x.oneCell'=true):RV w Pb (.lit x) x []:=⟨h,rfl,rfl⟩
theorem ze(h:s4 N Pb Kb A a w F){lo:Option Operand}{l:Int}(hl:TC (lo.map A.ev)=some l):(lo=none/\l=0)\/∃ k,(lo.map a.eval)=some (.int k l):=by
 cases lo with
 | none=>simp[TC]at hl;exact .inl ⟨rfl,hl.symm⟩
 | some x=>
   right
   simp only[Option.map_some,TC]at hl
   cases hx:A.ev x with
   | lit y=>
     cases y with
     | int k l'=>rw[hx]at hl;simp at hl;subst hl;exact⟨k,by simp[bY h hx]⟩
     | _=>rw[hx]at hl;simp at hl
   | _=>rw[hx]at hl;simp at hl
theorem wH(h:s4 N Pb Kb A a w F){n:Nat}{hi:Option Operand}{l:Int}(hl:S2 n (hi.map A.ev)=some l):(hi=none/\l=n)\/∃ k,(hi.map a.eval)=some (.int k l):=by
 cases hi with
 | none=>simp[S2]at hl;exact .inl ⟨rfl,hl.symm⟩
 | some x=>
   right
   simp only[Option.map_some,S2]at hl
   cases hx:A.ev x with
   | lit y=>
     cases y with
     | int k l'=>rw[hx]at hl;simp at hl;subst hl;exact⟨k,by simp[bY h hx]⟩
     | _=>rw[hx]at hl;simp at hl
   | _=>rw[hx]at hl;simp at hl
theorem jl{k:IntKind}{i:Int}{y:Nat}{code:BoundsCode}(h0:0<=i)(h1:i<=y):(Instr.sliceBound (.int k i) y code).run P w=.ok i.toNat w:=by
 simp[Instr.sliceBound,asIntOf,h0,h1]
theorem kr{sl:Bool} {n c:Nat} {lo hi:Option Value} {l h:Int} (hlo:(lo=none/\l=0)\/∃ k,lo=some (.int k l)) (hhi:(hi=none/\h=n)\/∃ k,hi=some (.int k h))
 (h0:0<=l) (h1:l<=h) (h2:h<=(c:Nat)) (hn:n<=c):(Instr.sliceBounds sl n c lo hi none).run P w=.ok (l.toNat,h.toNat,c) w:=by
 have hb:(h.toNat:Int)=h:=Int.toNat_of_nonneg Z9
 rcases hlo with ⟨rfl,rfl⟩ | ⟨k,rfl⟩ <;> rcases hhi with ⟨rfl,rfl⟩ | ⟨k',rfl⟩
 simp[Instr.sliceBounds]
 simp only[Instr.sliceBounds,Y4,Y5,YW,jl (w:=w) (P:=P) (k:=k') (code:=if sl then .sliceAcap else .sliceAlen) (show 0<=h by omega) h2];rfl
 simp only[Instr.sliceBounds,Y4,Y5,YW,Option.isSome,Bool.false_eq_true,if_false,jl (w:=w) (P:=P) (k:=k) (y:=n) (code:=.sliceB) h0 h1];rfl
 simp only[Instr.sliceBounds,Y4,Y5,YW,Option.isSome,Bool.false_eq_true,if_false,jl (w:=w) (P:=P) (k:=k') (code:=if sl then .sliceAcap else .sliceAlen) (show 0<=h by omega) h2,
  jl (w:=w) (P:=P) (k:=k) (y:=h.toNat) (code:=.sliceB) h0 Z9]
theorem BD:∀ (vs:List V) {xs:List Value} {F:List Nat} {i:Nat} {v:V},RVs w Pb vs xs F->vs[i]? =some v->v.cZ=false->∃ x,xs[i]? =some x/\RV w Pb v x []
 | [],_,_,_,_,_,h,_=>by simp at h
 | v::vs,xs,F,0,u,h,hi,ho=>by
     obtain⟨x,xs',F1,F2,rfl,rfl,h1,h2⟩:=h
     simp at hi;subst hi
     refine⟨x,rfl,?_⟩
     cases v with
     | agg us=>obtain⟨cs,e,h1⟩:=h1;exact⟨cs,e,by rw[fN us (by simpa[V.cZ] using ho) h1]at h1;exact h1⟩
     | a8=>rfl
     | tup us=>simp[R]at h1
     | gv _ _=>simp[R]at h1
     | own=>simp[V.cZ]at ho
     | ow=>simp[V.cZ]at ho
     | om=>simp[V.cZ]at ho
     | mp=>exact⟨rfl,h1.2⟩
     | lit=>exact⟨h1.1,h1.2.1,rfl⟩
     | sl=>exact⟨rfl,h1.2⟩
     | hd=>exact⟨rfl,h1.2⟩
     | ptr=>exact⟨rfl,h1.2⟩
     | ep=>exact⟨rfl,h1.2⟩
 | v::vs,xs,F,i+1,u,h,hi,ho=>by
     obtain⟨x,xs',F1,F2,rfl,rfl,h1,h2⟩:=h
     obtain⟨y,hy,hr⟩:=BD vs h2 (by simpa using hi) ho
     exact⟨y,by simpa using hy,hr⟩
theorem BG{op:Op}{C:Prop}{v:V}(h:OC P A op=some (C,v))(hC:C)(hs:s4 N Pb Kb A a w F){o:Oper}(ho:o.op=op):
 ∃ x,(execOp a.eval o).run P w=.ok (.value x) w/\RV w Pb v x []:=by
 obtain⟨dst,op',ty,pos,after,guard⟩:=o
 subst ho
 unfold OC at h
 split at h
 rename_i x L4;subst L4
 simp at h;obtain⟨_,rfl⟩:=h
 refine⟨_,rfl,?_⟩
 unfold CP
 split
 rename_i vs e
 obtain⟨Fx,hr⟩:=dH hs x
 rw[e]at hr
 split
 rfl
 rename_i ho
 obtain⟨xs,hx,hr⟩:=hr
 have hF:=tj vs (by simpa using ho) hr
 subst hF
 exact⟨xs,hx,hr⟩
 exact pW hs x
 · rename_i c p q L4;subst L4
   unfold BZ at h
   split at h
   case h_2=>simp at h
   · rename_i c' e
     split at h
     case h_2=>simp at h
     rename_i ga x gb y ea eb
     simp only[YR,YU]at h
     obtain⟨rfl,rfl⟩:=h
     have ex:∀ (z:Operand) (g b:Bool),Wp (A.ev z)=(g,.lit (.bool b))->g=true->a.eval z=.bool b:=fun z g b hz hg=>by
      obtain⟨Fx,hr⟩:=dH hs z
      unfold Wp at hz
      split at hz
      rename_i b' v' e'
      simp only[YU]at hz
      obtain⟨rfl,rfl⟩:=hz
      rw[e']at hr
      have:=(hr.2.1 hg).2.1
      simpa using this
      simp only[YU]at hz
      rw[hz.2]at hr
      have:=hr.2.1
      simpa using this
     simp only[execOp,bY hs e,asBool,Y4,Y5,YW]
     cases c'
     exact⟨.bool y,by simp[ex q gb y eb (hC.2 rfl)],dk rfl⟩
     exact⟨.bool x,by simp[ex p ga x ea (hC.1 rfl)],dk rfl⟩
 rename_i op T x y _ L4;subst L4
 obtain⟨u,u',hx,hy,hu,hn,z,hz,rfl,h1⟩:=Hp (w:=w) (P:=P) h hC
 refine⟨z,?_,dk h1⟩
 simp only[execOp,bY hs hx,bY hs hy,Y4,sP op T x y hu hn,YW,hz,Y5]
 rename_i op T x L4;subst L4
 unfold Ww at h
 split at h <;> simp only[YR,YU,reduceCtorEq]at h
 rename_i b e;obtain⟨_,rfl⟩:=h
 exact⟨_,by simp only[execOp,bY hs e];rfl,dk rfl⟩
 rename_i k n e;obtain⟨rfl,rfl⟩:=h
 exact⟨_,by simp only[execOp,bY hs e];rw[show -n=IntKind.wrap k (0-n) by rw[Int.zero_sub];exact(kO hC).symm];rfl,dk rfl⟩
 rename_i s d x L4;subst L4
 unfold HG at h
 split at h <;> simp only[YR,YU,reduceCtorEq]at h
 rename_i k0 k k1 n y9 S3 e;obtain⟨rfl,rfl⟩:=h
 obtain⟨td,hu,hd⟩:=cL y9
 obtain⟨Wz,TH,S3⟩:=cL S3
 cases td <;> simp[dt]at hd
 cases Wz <;> simp[dt]at S3
 subst hd S3
 exact⟨.int _ (IntKind.wrap _ n),by simp only[execOp,bY hs e,convert,Y4,aF hu,aF TH,YW];rfl,by rw[kO hC];exact dk rfl⟩
 rename_i s' y9 S3 e;obtain⟨_,rfl⟩:=h
 obtain⟨td,hu,hd⟩:=cL y9
 obtain⟨Wz,TH,S3⟩:=cL S3
 cases td <;> simp[dt]at hd
 cases Wz <;> simp[dt]at S3
 exact⟨_,by simp only[execOp,bY hs e,convert,Y4,aF hu,aF TH,YW];rfl,dk rfl⟩
 rename_i T x i L4;subst L4
 unfold GF at h
 split at h <;> simp only[YR,YU,reduceCtorEq]at h
 rename_i s k i' y9 e e';obtain⟨rfl,rfl⟩:=h
 obtain⟨td,hu,hd⟩:=cL y9
 cases td <;> simp[dt]at hd
 obtain⟨h0,h1⟩:=hC
 have hlt:i'.toNat<s.size:=Z9
 refine⟨.int .u8 (s.data.getD i'.toNat 0).toNat,?_,dk rfl⟩
 have hg:s[i'.toNat]? =some (s.data.getD i'.toNat 0):=by
  rw[getElem?_pos s i'.toNat hlt]
  have R7:i'.toNat<s.data.size:=hlt
  simp only[Array.getD,dif_pos R7];rfl
 simp only[execOp,bY hs e,bY hs e',Instr.index,asIntOf,Y4,aF hu,Y5,YW,if_pos h0,hg]
 rename_i T x lo hi L4;subst L4
 unfold CM at h
 split at h
 rename_i s y9 e
 unfold Gz at h
 obtain⟨td,hu,hd⟩:=cL y9
 cases td <;> simp[dt]at hd
 split at h
 rename_i l h' hl hh
 simp only[YR,YU]at h;obtain⟨rfl,rfl⟩:=h
 obtain⟨h0,h1,h2⟩:=hC
 have b1:=ze hs hl
 have b2:=wH hs hh
 have b1':(lo.map a.eval=none/\l=0)\/∃ k,lo.map a.eval=some (.int k l):=b1.imp (fun⟨e,f⟩=>⟨by simp[e],f⟩) id
 have b2':(hi.map a.eval=none/\h'=s.size)\/∃ k,hi.map a.eval=some (.int k h'):=b2.imp (fun⟨e,f⟩=>⟨by simp[e],f⟩) id
 refine⟨_,?_,dk rfl⟩
 simp only[execOp,Instr.sliceAt,bY hs e,Y4,aF hu,YW,Instr.slice,Option.map_none,Option.isSome,Bool.false_eq_true,if_false,Y5,
  kr (w:=w) (P:=P) (sl:=false) b1' b2' h0 h1 h2 (Zg _)]
 simp at h
 simp at h
 · rename_i c L4;subst L4
   unfold vC at h
   split at h
   case h_3=>simp at h
   case h_2=>
    rename_i T7
    split at h
    case h_2=>simp at h
    rename_i x y hargs
    obtain⟨callee,args,argTypes⟩:=c
    obtain rfl:callee=.builtin .max:=T7
    obtain rfl:args= #[x,y]:=by rw[<- Array.toArray_toList (xs:=args)];exact Zq _ hargs
    unfold Cf at h
    split at h
    rename_i k p k' q e1 e2
    split at h
    rename_i hk
    subst hk
    simp only[YR,YU]at h;obtain⟨XI,rfl⟩:=h;clear XI
    have e:(#[x,y].map a.eval)= #[.int k p,.int k q]:=by simp[bY hs e1,bY hs e2]
    exact⟨_,by simp only[execOp,resolve,invoke,builtin,Y4,Y5,YW,e,Lib.run_max_ints],dk rfl⟩
    simp at h
    simp at h
   rename_i T7
   split at h
   case h_2=>simp at h
   rename_i x T hargs W3
   obtain⟨callee,args,argTypes⟩:=c
   obtain rfl:callee=.builtin .len:=T7
   obtain rfl:args= #[x]:=by rw[<- Array.toArray_toList (xs:=args)];exact Zq _ hargs
   obtain rfl:argTypes= #[T]:=by rw[<- Array.toArray_toList (xs:=argTypes)];exact Zq _ W3
   unfold zb at h
   split at h <;> simp only[YR,YU,reduceCtorEq]at h <;> (obtain⟨XI,rfl⟩:=h;clear XI)
   rename_i s y9 e
   obtain⟨td,hu,hd⟩:=cL y9
   cases td <;> simp[dt]at hd
   exact⟨_,by simp[execOp,resolve,invoke,builtin,Builtin.len_,bY hs e,aF hu,goInt],dk rfl⟩
   all_goals
    rename_i y9 e
    obtain⟨td,hu,hd⟩:=cL y9
    cases td <;> simp[dt]at hd
    obtain⟨Fx,hr⟩:=dH hs x
    rw[e]at hr
   obtain⟨_,A',c,hc,_⟩:=hr
   simp at hc
   exact⟨_,by simp[execOp,resolve,invoke,builtin,Builtin.len_,hc,aF hu,goInt],dk rfl⟩
   rcases hr with ⟨_,rfl,_,A',hc⟩ | ⟨_,_,_,hc,_⟩ <;> simp at hc <;>
    exact⟨_,by simp[execOp,resolve,invoke,builtin,Builtin.len_,hc,aF hu,goInt],dk rfl⟩
   obtain⟨_,_,A',hc,_⟩:=hr
   simp at hc
   exact⟨_,by simp[execOp,resolve,invoke,builtin,Builtin.len_,hc,aF hu,goInt],dk rfl⟩
 rename_i x i L4;subst L4
 unfold Gu at h
 split at h
 rename_i i _ _ vs e
 split at h
 rename_i v' hv
 split at h
 simp at h
 rename_i ho
 simp at h;obtain⟨_,rfl⟩:=h
 obtain⟨Fx,hr⟩:=dH hs x
 rw[e]at hr
 obtain⟨xs,RZ,hr⟩:=hr
 obtain⟨x',Nd,E3⟩:=BD vs hr hv (by simpa using ho)
 refine⟨x',?_,E3⟩
 have WY:xs[i]? =some x':=by simpa using Nd
 simp only[execOp,RZ,Instr.extract,WY,Y4,Y5,YW]
 simp at h
 simp at h
 simp at h
end
def V.at(g o:Nat)(v:V):List Nat->Option (Nat×Nat×V)
 | []=>some (g,o,v)
 | j::p=>match v with
   | .agg vs=>match vs[j]? with
     | some u=>V.at g (o+V.ns (vs.take j)) u p
     | none=>none
   | .own sz xs g' o' _=>match xs[j]? with
     | some u=>V.at g' (o'+j*sz) u p
     | none=>none
   | _=>none
def V.sub(v:V):List Nat->Option V
 | []=>some v
 | j::p=>match v with
   | .agg vs=>match vs[j]? with
     | some u=>V.sub u p
     | none=>none
   | .own _ xs _ _ _=>match xs[j]? with
     | some u=>V.sub u p
     | none=>none
   | _=>none
def AS.at(A:AS)(r:l8)(p:List Nat):Option (Nat×Nat×V):=
 match r with
 | .key k=>match lk k A.h with
   | some (g,v)=>V.at g 0 v p
   | none=>none
 | .slot i=>match A.get i,p with
   | .own sz xs g o c,j::p=>V.at 0 0 (.own sz xs g o c) (j::p)
   | _,_=>none
def AS.sub(A:AS)(r:l8)(p:List Nat):Option V:=
 match r with
 | .key k=>match lk k A.h with
   | some (_,v)=>V.sub v p
   | none=>none
 | .slot i=>match A.get i with
   | .tup _=>none
   | v=>V.sub v p
def V.isAgg:V->Bool | .agg _=>true | _=>false
section
variable {w:World} {Pb Kb:Nat->Prop}
theorem fR:∀ (vs:List V) {cs F} {j:Nat} {v:V},RL w Pb vs cs F->vs[j]? =some v->
 ∃ c F',R w Pb v c F'/\(∀ g,g∈F'->g∈F)/\∀ i u,c[i]? =some u->cs[V.ns (vs.take j)+i]? =some u
 | [],_,_,_,_,_,h=>by simp at h
 | v::vs,cs,F,0,u,h,hj=>by
   obtain⟨c1,c2,F1,F2,rfl,rfl,h1,h2⟩:=h
   simp at hj;subst hj
   refine⟨c1,F1,h1,by simp_all,fun i u hu=>?_⟩
   simp only[List.take_zero,V.ns,Y0]
   rw[Zd (Y7.1 hu).1];exact hu
 | v::vs,cs,F,j+1,u,h,hj=>by
   obtain⟨c1,c2,F1,F2,rfl,rfl,h1,h2⟩:=h
   obtain⟨c,F',hr,hF,hc⟩:=fR vs h2 (by simpa using hj)
   refine⟨c,F',hr,fun g hg=>by simp[hF g hg],fun i u hu=>?_⟩
   have hl:=ez v h1
   simp only[List.take_succ_cons,V.ns]
   rw[<- hl,Zn,Y8 Z9]
   have e:c1.length+(V.ns (vs.take j)+i)-c1.length=V.ns (vs.take j)+i:=Z9
   rw[e];exact hc i u hu
theorem dU{sz:Nat}:∀ (xs:List V) (j:Nat),aJ sz xs->j<=xs.length->V.ns (xs.take j)=j*sz
 | _,0,_,_=>by simp[V.ns]
 | [],j+1,_,h=>by simp at h
 | v::vs,j+1,ha,h=>by
   simp only[List.take_succ_cons,V.ns,ha v Z8]
   rw[dU vs j (fun x hx=>ha x (by simp[hx])) (by simpa using h)]
   rw[Nat.add_mul];omega
theorem pT:∀ (p:List Nat) {v u:V} {g o g' o':Nat} {F},At w Pb v g o F->V.at g o v p=some (g',o',u)->∃ F',At w Pb u g' o' F'/\∀ x,x∈F'->x∈F
 | [],v,u,g,o,g',o',F,h,e=>by
   simp only[V.at,YR,YU]at e
   obtain⟨rfl,rfl,rfl⟩:=e
   exact⟨F,h,fun _ h=>h⟩
 | j::p,v,u,g,o,g',o',F,h,e=>by
   simp only[V.at]at e
   obtain⟨cs,cells,hb,hr,hc⟩:=h
   split at e
   rename_i vs
   split at e
   rename_i x hx
   simp only[R]at hr
   obtain⟨c,F',E3,hF,J5⟩:=fR vs hr hx
   obtain⟨M8,h2,hF2⟩:=pT p (v:=x) ⟨c,cells,hb,E3,fun i u hu=>by rw[Zn];exact hc _ _ (J5 i u hu)⟩ e
   exact⟨M8,h2,fun y hy=>hF y (hF2 y hy)⟩
   simp at e
   rename_i sz xs g1 o1 c1
   split at e
   rename_i x hx
   rcases hr with ⟨_,rfl,_⟩ | ⟨_,_,_,_,ha,_,flat,F',n7,rfl,hr,J',_,J5⟩
   simp at hx
   obtain⟨c,M8,E3,hF,N1⟩:=fR xs hr hx
   have hj:j<=xs.length:=by have:=(Y7.1 hx).1;omega
   rw[dU xs j ha hj]at N1
   obtain⟨F3,h3,hF3⟩:=pT p (v:=x) ⟨c,n7,J',E3,fun i u hu=>by rw[Zn];exact J5 _ _ (N1 i u hu)⟩ e
   exact⟨F3,h3,fun y hy=>by simp[hF y (hF3 y hy)]⟩
   simp at e
   simp at e
theorem dX{g o:Nat}{cells:Array Value}(h:Blk w g cells):w.cell? ⟨g,o,none⟩=cells[o]? :=by
 obtain⟨e,fr,hb,_⟩:=h
 simp[World.cell?,hb]
theorem dQ(g o j:Nat):(⟨g,o,none⟩:Addr).add j=⟨g,o+j,none⟩:=by unfold Addr.add;split <;> simp_all
theorem xd{P:Program}{T:Nat}{i:TI}(h:ti P T=some i):(isAgg T).run P w=.ok i.d.agg w:=by
 obtain⟨inf,d,_,h2,_,_,h5⟩:=jd h
 unfold isAgg
 simp only[Y4,aF h2,YW]
 rw[<- h5]
 cases d <;> rfl
theorem cQ{P:Program}{T:Nat}{i:TI}(h:ti P T=some i):(sizeOf T).run P w=.ok i.sz w:=by
 obtain⟨inf,d,h1,_,h3,_,_⟩:=jd h
 simp[sizeOf,typeInfo,h1,h3]
theorem mj{P:Program} {T:Nat} {i:TI} (h:ti P T=some i) {v:V} {cs:List Value} {g o:Nat} {F} (hr:R w Pb v cs F) (hn:v.n=i.sz) (ha:i.d.agg=v.isAgg)
 (hc:∀ j u,cs[j]? =some u->w.cell? ⟨g,o+j,none⟩=some u):∃ x,(loadVar T ⟨g,o,none⟩).run P w=.ok x w/\RV w Pb v x F:=by
 unfold loadVar
 simp only[Y4,xd h,YW]
 have hl:=ez v hr
 cases v with
 | agg vs=>
   simp only[V.isAgg]at ha
   rw[ha]
   simp only[if_true,Y4,cQ h,YW]
   rw[<- hn,<- hl,run_loadCells_list w _ cs (fun j v hv=>by rw[dQ];exact hc j v hv)]
   exact⟨_,rfl,_,rfl,hr⟩
 | tup _=>simp[R]at hr
 | gv _ _=>simp[R]at hr
 | a8=>
   simp only[V.isAgg]at ha
   rw[ha]
   obtain⟨hF,x,rfl,hx⟩:=hr
   have:=hc 0 x rfl
   simp only[Nat.add_zero]at this
   exact⟨x,by simp[this],hF⟩
 | _=>
   simp only[V.isAgg]at ha
   rw[ha]
   simp only[V.n]at hl
   obtain⟨x,rfl⟩:=List.length_eq_one_iff.1 hl
   have:=hc 0 x rfl
   simp only[Nat.add_zero]at this
   exact⟨x,by simp[this],hr⟩
end
def kE(P:Program)(d:Option D)(x:V)(j:Nat):Option (Prop×V):=
 match d with
 | some (.st fs)=>match fs[j]? with
   | some (off,T)=>match ti P T with
     | some i=>match x with
       | .ptr r p g o=>some (i.sz≠0,.ptr r (p++[j]) g (o+off))
       | .ep (.agg vs)=>match vs[j]? with
         | some v=>some (i.sz≠0/\V.ns (vs.take j)=off,.ep v)
         | none=>none
       | _=>none
     | none=>none
   | none=>none
 | _=>none
def uL(P:Program)(d:Option D)(x:V)(j:Nat):Option (Prop×V):=
 match d with
 | some (.st fs)=>match fs[j]? with
   | some (off,T)=>match ti P T with
     | some i=>match x with
       | .agg vs=>match vs[j]? with
         | some v=>some (V.ns (vs.take j)=off/\i.sz=v.n/\i.d.agg=v.isAgg,v)
         | none=>none
       | _=>none
     | none=>none
   | none=>none
 | _=>none
def kv(A:AS)(i:Option TI)(x:V):Option (Prop×V):=
 match i with
 | some i=>match x with
   | .ptr r p g o=>match A.at r p with
     | some (g',o',v)=>some (g'=g/\o'=o/\v.n=i.sz/\i.d.agg=v.isAgg,v.Qs r p)
     | none=>none
   | .ep v=>some (v.n=i.sz/\i.d.agg=v.isAgg,v)
   | _=>none
 | none=>none
def iZ(P:Program)(d:Option D)(x i:V):Option (Prop×V):=
 match d,i with
 | some (.sl e),.lit (.int _ i)=>match ti P e with
   | some t=>match x with
     | .sl _ xs=>some (0<=i/\i<xs.length/\(xs.getD i.toNat .a8).n=t.sz,.ep (xs.getD i.toNat .a8))
     | .hd r p sz g o lo n _=>some (0<=i/\i<n/\sz=t.sz,.ptr r (p++[lo+i.toNat]) g (o+(lo+i.toNat)*sz))
     | _=>none
   | none=>none
 | some (.arr n e),.lit (.int _ i)=>match ti P e with
   | some t=>match x with
     | .ptr r p g o=>some (0<=i/\i<n,.ptr r (p++[i.toNat]) g (o+i.toNat*t.sz))
     | _=>none
   | none=>none
 | _,_=>none
def Ci(P:Program)(d:Option D)(x:V)(lo hi:Option V):Option (Prop×V):=
 match d with
 | some (.sl e)=>match ti P e with
   | some t=>match x with
     | .sl _ xs=>match TC lo,S2 xs.length hi with
       | some l,some h=>some (0<=l/\l<=h/\h<=xs.length/\∀ x∈xs,x.n=t.sz,.sl false ((xs.take h.toNat).drop l.toNat))
       | _,_=>none
     | .hd r p sz g o MQ n c=>match TC lo,S2 n hi with
       | some l,some h=>some (0<=l/\l<=h/\h<=n/\sz=t.sz,.hd r p sz g o (MQ+l.toNat) (h.toNat-l.toNat) (c-l.toNat))
       | _,_=>none
     | _=>none
   | none=>none
 | _=>none
def nf:V->Option Value
 | .lit x=>some x
 | .ptr _ _ g o=>some (.pointer (some ⟨g,o,none⟩))
 | _=>none
def ju:List V->Option (List Value)
 | []=>some []
 | v::vs=>match nf v,ju vs with
   | some x,some xs=>some (x::xs)
   | _,_=>none
def valOf:V->Option Value
 | .agg vs=>match ju vs with
   | some xs=>some (.agg xs.toArray)
   | none=>none
 | v=>nf v
def KF:V->Option (Prop×V)
 | .ptr r p g o=>some (True,.ptr r p g o)
 | .ep v=>some (True,.ep v)
 | _=>none
def CT:Option TypeDesc->Bool
 | some (.interface _)=>true
 | none=>true
 | _=>false
def Ko(P:Program)(T:Nat)(x:V):Option (Prop×V):=
 if CT (P.underlying T)=true then none else match valOf x with
  | some y=>some (True,.lit (.iface T y))
  | none=>none
def zeroV(P:Program)(T:Nat):Option V:=match P.info? T with
 | some i=>i.zero.map cV
 | none=>none
def JG(P:Program)(T:Nat)(x:V):Option (Prop×V):=
 if CT (P.underlying T)=true then none else match x,zeroV P T with
  | .lit (.iface t v),some z=>some (True,if t=T then .tup [cV v,.lit (.bool true)] else .tup [z,.lit (.bool false)])
  | .lit .nilIface,some z=>some (True,.tup [z,.lit (.bool false)])
  | _,_=>none
def Lv(fn:Fn)(a b:List V):Option (Prop×V):=match ju a,ju b with
 | some x,some y=>some (True,.lit (.func fn x.toArray y.toArray))
 | _,_=>none
def G6(P:Program)(A:AS)(op:Op):Option (Prop×V):=
 match op with
 | .load T x=>kv A (ti P T) (A.ev x)
 | .fieldAddr T x j=>kE P (tD P T) (A.ev x) j
 | .field T x j=>uL P (tD P T) (A.cp x) j
 | .indexAddr T x i=>iZ P (tD P T) (A.ev x) (A.ev i)
 | .slice T x lo hi none=>match tD P T with
   | some .str=>CM (some .str) (A.ev x) (lo.map A.ev) (hi.map A.ev)
   | d=>Ci P d (A.ev x) (lo.map A.ev) (hi.map A.ev)
 | .nilCheck x=>KF (A.ev x)
 | .makeInterface T x=>Ko P T (A.cp x)
 | .typeAssert x _ T true=>JG P T (A.ev x)
 | .makeFunc fn a b=>Lv fn (a.toList.map A.ev) (b.toList.map A.ev)
 | op=>OC P A op
section
variable {w:World} {Pb Kb:Nat->Prop} {N:Nat} {A:AS} {a:Act} {F:l8->List Nat} {P:Program}
theorem iX(h:s4 N Pb Kb A a w F){r:l8}{p:List Nat}{g o:Nat}{v:V}(e:A.at r p=some (g,o,v)):∃ F',At w Pb v g o F':=by
 unfold AS.at at e
 split at e
 rename_i k
 split at e
 rename_i g' v' hk
 obtain⟨F',_,hr⟩:=h.root k g' v' hk
 obtain⟨M8,h2,_⟩:=pT p (v:=v') (g:=g') (o:=0) hr e
 exact⟨M8,h2⟩
 simp at e
 rename_i i
 split at e
 rename_i sz xs g' o' c j p hi
 have hr:=h.slot i
 rw[hi]at hr
 simp only[V.at]at e
 split at e
 rename_i x hx
 rcases hr with ⟨_,rfl,_⟩ | ⟨_,_,_,_,ha,_,flat,F',n7,_,hr,J',_,J5⟩
 simp at hx
 obtain⟨c,M8,E3,hF,N1⟩:=fR xs hr hx
 have hj:j<=xs.length:=by have:=(Y7.1 hx).1;omega
 rw[dU xs j ha hj]at N1
 obtain⟨F3,h3,_⟩:=pT p (v:=x) ⟨c,n7,J',E3,fun i u hu=>by rw[Zn];exact J5 _ _ (N1 i u hu)⟩ e
 exact⟨F3,h3⟩
 simp at e
 simp at e
theorem Dj(hs:s4 N Pb Kb A a w F){T:Nat}{x:Operand}{C:Prop}{v:V}(h:kv A (ti P T) (A.ev x)=some (C,v))(hC:C):
 ∃ y,(Instr.loadAt T (a.eval x)).run P w=.ok y w/\RV w Pb v y []:=by
 unfold kv at h
 split at h
 case h_2=>simp at h
 rename_i i hi
 obtain⟨Fx,hr⟩:=dH hs x
 split at h
 rename_i r p g o e
 rw[e]at hr
 split at h
 rename_i g' o' u x9
 simp only[YR,YU]at h
 obtain⟨rfl,rfl⟩:=h
 obtain⟨rfl,rfl,hn,ha⟩:=hC
 obtain⟨F',cs,cells,hb,L3,s3⟩:=iX hs x9
 have hx:a.eval x=.pointer (some ⟨g',o',none⟩):=by have:=hr.2;simpa using this
 obtain⟨y,hy,E3⟩:=mj (w:=w) hi (kz r u p L3) (g:=g') (o:=o') (by
  have:(u.Qs r p).n=u.n:=by
   have h1:=ez _ (kz r u p L3);have h2:=ez _ L3;omega
  omega) (by rw[ha];cases u <;> rfl) (fun j u hu=>by rw[dX hb];exact s3 j u hu)
 exact⟨y,by simp only[Instr.loadAt,hx,Instr.sureAddr,Y4,Y5,YW,hy],E3⟩
 simp at h
 rename_i u e
 rw[e]at hr
 simp only[YR,YU]at h
 obtain⟨rfl,rfl⟩:=h
 obtain⟨hn,ha⟩:=hC
 obtain⟨_,b,o,flat,hx,hb,L3,s3⟩:=hr
 have hx:a.eval x=.pointer (some ⟨b,o,none⟩):=by simpa using hx
 obtain⟨y,hy,E3⟩:=mj (w:=w) hi L3 hn ha s3
 exact⟨y,by simp only[Instr.loadAt,hx,Instr.sureAddr,Y4,Y5,YW,hy],E3⟩
 simp at h
theorem Ct{T:Nat}{fs:List (Nat×Nat)}(h:tD P T=some (.st fs)):∃ fl:Array Field,P.underlying T=some (.struct fl)/\fl.toList.map (fun f=>(f.offset,f.type))=fs:=by
 obtain⟨td,hu,hd⟩:=cL h
 cases td <;> simp[dt]at hd
 rename_i fl
 exact⟨fl,hu,hd⟩
theorem zl{fl:Array Field}{fs:List (Nat×Nat)}(h:fl.toList.map (fun f=>(f.offset,f.type))=fs){j off T:Nat}(e:fs[j]? =some (off,T)):∃ f,fl[j]? =some f/\f.offset=off/\f.type=T:=by
 subst h
 simp only[List.getElem?_map]at e
 cases hf:fl.toList[j]? with
 | none=>rw[hf]at e;simp at e
 | some f=>rw[hf]at e;simp at e;exact⟨f,by simpa using hf,e⟩
theorem wg(hs:s4 N Pb Kb A a w F){T:Nat}{x:Operand}{j:Nat}{C:Prop}{v:V}(h:kE P (tD P T) (A.ev x) j=some (C,v))(hC:C):
 ∃ y,(Instr.fieldAt T (a.eval x) j).run P w=.ok y w/\RV w Pb v y []:=by
 unfold kE at h
 split at h
 case h_2=>simp at h
 rename_i fs hT
 split at h
 case h_2=>simp at h
 rename_i off T' hj
 split at h
 case h_2=>simp at h
 rename_i i hi
 obtain⟨fl,hu,hfl⟩:=Ct hT
 obtain⟨f,hf,ho,ht⟩:=zl hfl hj
 obtain⟨Fx,hr⟩:=dH hs x
 split at h
 rename_i r p g o e
 rw[e]at hr
 simp only[YR,YU]at h
 obtain⟨rfl,rfl⟩:=h
 have hx:a.eval x=.pointer (some ⟨g,o,none⟩):=by have:=hr.2;simpa using this
 refine⟨.pointer (some ⟨g,o+off,none⟩),?_,rfl,rfl⟩
 simp only[Instr.fieldAt,Y4,aF hu,YW,hf,hx,Instr.sureAddr,Y5,fieldPlace,ht,cQ hi,if_neg hC,ho,dQ]
 · rename_i vs e
   rw[e]at hr
   split at h
   case h_2=>simp at h
   rename_i u TH
   simp only[YR,YU]at h
   obtain⟨rfl,rfl⟩:=h
   obtain⟨h0,TU⟩:=hC
   obtain⟨_,b,o,flat,hx,hb,L3,s3⟩:=hr
   have hx:a.eval x=.pointer (some ⟨b,o,none⟩):=by simpa using hx
   simp only[R]at L3
   obtain⟨c,F',E3,hF,J5⟩:=fR vs L3 TH
   have N6:F'=[]:=List.eq_nil_iff_forall_not_mem.2 fun g hg=>by simpa using hF g hg
   subst N6
   refine⟨.pointer (some ⟨b,o+off,none⟩),?_,rfl,b,o+off,c,rfl,hb,E3,fun i u hu=>by rw[<- TU,Zn];exact s3 _ _ (J5 i u hu)⟩
   simp only[Instr.fieldAt,Y4,aF hu,YW,hf,hx,Instr.sureAddr,Y5,fieldPlace,ht,cQ hi,if_neg h0,ho,dQ]
 simp at h
theorem CC(hs:s4 N Pb Kb A a w F){T:Nat}{x:Operand}{j:Nat}{C:Prop}{v:V}(h:uL P (tD P T) (A.cp x) j=some (C,v))(hC:C):
 ∃ y,(Instr.field T (a.eval x) j).run P w=.ok y w/\RV w Pb v y []:=by
 unfold uL at h
 split at h
 case h_2=>simp at h
 rename_i fs hT
 split at h
 case h_2=>simp at h
 rename_i off T' hj
 split at h
 case h_2=>simp at h
 rename_i i hi
 obtain⟨fl,hu,hfl⟩:=Ct hT
 obtain⟨f,hf,ho,ht⟩:=zl hfl hj
 have hr:=pW hs x
 split at h
 case h_2=>simp at h
 rename_i vs e
 rw[e]at hr
 split at h
 case h_2=>simp at h
 rename_i u TH
 simp only[YR,YU]at h
 obtain⟨rfl,rfl⟩:=h
 obtain⟨TU,hn,ha⟩:=hC
 obtain⟨cs,hx,hr⟩:=hr
 obtain⟨c,F',E3,hF,J5⟩:=fR vs hr TH
 have N6:F'=[]:=List.eq_nil_iff_forall_not_mem.2 fun g hg=>by simpa using hF g hg
 subst N6
 have hl:=ez _ E3
 simp only[Instr.field,Y4,aF hu,YW,hf,hx,asAgg,Y5,part,ht,xd hi,ho]
 rw[TU]at J5
 cases u with
 | agg us=>
   simp only[V.isAgg]at ha
   rw[ha]
   simp only[if_true,Y4,cQ hi,YW,Y5]
   refine⟨_,rfl,_,rfl,?_⟩
   have hcs:(cs.extract off (off+i.sz)).toList=c:=by
    apply List.ext_getElem?
    intro k
    by_cases hk:k<c.length
    have h1:=J5 k _ (YX hk)
    rw[YX hk]
    simp only[Array.getElem?_toList]at h1 ⊢
    rw[Array.getElem?_extract]
    have hlt:=(Zl.1 h1).1
    rw[if_pos Z9];exact h1
    have hz:(cs.extract off (off+i.sz)).toList.length<=i.sz:=by
     rw[Array.length_toList,Array.size_extract];omega
    rw[List.getElem?_eq_none Z9,List.getElem?_eq_none Z9]
   rw[hcs]
   simp only[R]at E3;exact E3
 | tup _=>simp[R]at E3
 | gv _ _=>simp[R]at E3
 | a8=>
   simp only[V.isAgg]at ha
   rw[ha]
   obtain⟨_,y,rfl,hy⟩:=E3
   have h1:=J5 0 y rfl
   simp only[Nat.add_zero,Array.getElem?_toList]at h1
   exact⟨y,by simp[h1],rfl⟩
 | _=>
   simp only[V.isAgg]at ha
   rw[ha]
   simp only[V.n]at hl
   obtain⟨y,rfl⟩:=List.length_eq_one_iff.1 hl
   have h1:=J5 0 y rfl
   simp only[Nat.add_zero,Array.getElem?_toList]at h1
   exact⟨y,by simp[h1],E3⟩
theorem iy{T e:Nat}(h:tD P T=some (.sl e)):P.underlying T=some (.slice e):=by
 obtain⟨td,hu,hd⟩:=cL h
 cases td <;> simp[dt]at hd
 subst hd;exact hu
theorem getD_some{xs:List V}{i:Nat}(h:i<xs.length):xs[i]? =some (xs.getD i .a8):=by
 simp[List.getD,YX h]
theorem KD{T n e:Nat}(h:tD P T=some (.arr n e)):P.underlying T=some (.array n e):=by
 obtain⟨td,hu,hd⟩:=cL h
 cases td <;> simp[dt]at hd
 obtain⟨rfl,rfl⟩:=hd;exact hu
theorem wc(hs:s4 N Pb Kb A a w F){T:Nat}{x ix:Operand}{C:Prop}{v:V}(h:iZ P (tD P T) (A.ev x) (A.ev ix)=some (C,v))(hC:C):
 ∃ y,(Instr.indexAt T (a.eval x) (a.eval ix)).run P w=.ok y w/\RV w Pb v y []:=by
 unfold iZ at h
 split at h
 case h_3=>simp at h
 case h_2=>
  rename_i n e k i hT hi
  have hu:=KD hT
  split at h
  case h_2=>simp at h
  rename_i t ht
  obtain⟨Fx,hr⟩:=dH hs x
  split at h
  case h_2=>simp at h
  rename_i r p g o hx
  rw[hx]at hr
  simp only[YR,YU]at h
  obtain⟨rfl,rfl⟩:=h
  have hv:a.eval x=.pointer (some ⟨g,o,none⟩):=by have:=hr.2;simpa using this
  refine⟨.pointer (some ⟨g,o+i.toNat*t.sz,none⟩),?_,rfl,rfl⟩
  simp only[Instr.indexAt,bY hs hi,asIntOf,Y4,Y5,YW,aF hu,hv,Instr.sureAddr,if_pos (⟨hC.1,hC.2⟩:0<=i/\i<(n:Int)),cQ ht,dQ]
 rename_i e k i hT hi
 have hu:=iy hT
 split at h
 case h_2=>simp at h
 rename_i t ht
 obtain⟨Fx,hr⟩:=dH hs x
 split at h
 rename_i full xs hx
 rw[hx]at hr
 simp only[YR,YU]at h
 obtain⟨rfl,rfl⟩:=h
 obtain⟨h0,h1,hn⟩:=hC
 have hlt:i.toNat<xs.length:=Z9
 obtain⟨_,A',c,hv,hl,_,hz⟩:=hr
 have hv:a.eval x=.slice A' xs.length c:=by simpa using hv
 rcases hz with rfl | ⟨b,o,sz,flat,rfl,hb,_,hN,NL,s3⟩
 simp at hlt
 obtain⟨cu,F',E3,hF,J5⟩:=fR xs NL (getD_some hlt)
 have N6:F'=[]:=List.eq_nil_iff_forall_not_mem.2 fun g hg=>by simpa using hF g hg
 subst N6
 rw[dU xs _ hN Z9]at J5
 have hsz:sz=t.sz:=by rw[<- hn];exact(hN _ (Zb (getD_some hlt))).symm
 refine⟨.pointer (some ⟨b,o+i.toNat*t.sz,none⟩),?_,rfl,b,o+i.toNat*t.sz,cu,rfl,hb,E3,fun j u hu=>by rw[<- hsz,Zn];exact s3 _ _ (J5 j u hu)⟩
 simp only[Instr.indexAt,bY hs hi,asIntOf,Y4,Y5,YW,aF hu,hv,if_pos (⟨h0,h1⟩:0<=i/\i<(xs.length:Int)),cQ ht,dQ]
 rename_i r p sz g o lo n c hx
 rw[hx]at hr
 simp only[YR,YU]at h
 obtain⟨rfl,rfl⟩:=h
 obtain⟨h0,h1,hn⟩:=hC
 obtain⟨_,Ux,A',hv,hA⟩:=hr
 have hv:a.eval x=.slice A' n c:=by simpa using hv
 obtain rfl:=hA Z9
 refine⟨.pointer (some ⟨g,o+(lo+i.toNat)*sz,none⟩),?_,rfl,rfl⟩
 simp only[Instr.indexAt,bY hs hi,asIntOf,Y4,Y5,YW,aF hu,hv,if_pos (⟨h0,h1⟩:0<=i/\i<(n:Int)),cQ ht,dQ]
 subst hn
 rw[Zn,<- Nat.add_mul]
 simp at h
theorem pd:∀ (vs:List V) (k:Nat) {cs:List Value},RL w Pb vs cs []->∃ c':List Value,RL w Pb (vs.drop k) c' []/\∀ i u,c'[i]? =some u->cs[V.ns (vs.take k)+i]? =some u
 | vs,0,cs,h=>⟨cs,h,fun i u hu=>by simpa[V.ns] using hu⟩
 | [],k+1,cs,h=>⟨[],by simpa using⟨rfl,rfl⟩,fun i u hu=>by simp at hu⟩
 | v::vs,k+1,cs,h=>by
   obtain⟨c1,c2,F1,F2,rfl,hF,h1,h2⟩:=h
   have hF2:F2=[]:=by have:=hF.symm;simp at this;exact this.2
   subst hF2
   obtain⟨c',hr,hc⟩:=pd vs k h2
   refine⟨c',by simpa using hr,fun i u hu=>?_⟩
   have hl:=ez v h1
   simp only[List.take_succ_cons,V.ns]
   rw[<- hl,Zn,Y8 Z9]
   have e:c1.length+(V.ns (vs.take k)+i)-c1.length=V.ns (vs.take k)+i:=Z9
   rw[e];exact hc i u hu
theorem oQ:∀ (vs:List V) (k:Nat) {cs:List Value},RL w Pb vs cs []->∃ c':List Value,RL w Pb (vs.take k) c' []/\∀ (i:Nat) u,c'[i]? =some u->cs[i]? =some u
 | vs,0,cs,h=>⟨[],by simpa using⟨rfl,rfl⟩,fun i u hu=>by simp at hu⟩
 | [],k+1,cs,h=>⟨[],by simpa using⟨rfl,rfl⟩,fun i u hu=>by simp at hu⟩
 | v::vs,k+1,cs,h=>by
   obtain⟨c1,c2,F1,F2,rfl,hF,h1,h2⟩:=h
   have N6:=hF.symm
   simp at N6
   obtain⟨rfl,rfl⟩:=N6
   obtain⟨c',hr,hc⟩:=oQ vs k h2
   refine⟨c1++c',⟨c1,c',[],[],rfl,rfl,h1,hr⟩,fun i u hu=>?_⟩
   by_cases hi:i<c1.length
   rw[Zd hi]at hu ⊢;exact hu
   rw[Y8 Z9]at hu ⊢;exact hc _ _ hu
theorem FI(hs:s4 N Pb Kb A a w F){T:Nat}{x:Operand}{lo hi:Option Operand}{C:Prop}{v:V}(h:Ci P (tD P T) (A.ev x) (lo.map A.ev) (hi.map A.ev)=some (C,v))(hC:C):
 ∃ y,(Instr.sliceAt T (a.eval x) (lo.map a.eval) (hi.map a.eval) none).run P w=.ok y w/\RV w Pb v y []:=by
 unfold Ci at h
 split at h
 case h_2=>simp at h
 rename_i e hT
 have hu:=iy hT
 split at h
 case h_2=>simp at h
 rename_i t ht
 obtain⟨Fx,hr⟩:=dH hs x
 split at h
 · rename_i full xs hx
   rw[hx]at hr
   split at h
   case h_2=>simp at h
   rename_i l h' hl hh
   simp only[YR,YU]at h
   obtain⟨rfl,rfl⟩:=h
   obtain⟨h0,h1,h2,hn⟩:=hC
   have b1:(lo.map a.eval=none/\l=0)\/∃ k,lo.map a.eval=some (.int k l):=(ze hs hl).imp (fun⟨e,f⟩=>⟨by simp[e],f⟩) id
   have b2:(hi.map a.eval=none/\h'=xs.length)\/∃ k,hi.map a.eval=some (.int k h'):=(wH hs hh).imp (fun⟨e,f⟩=>⟨by simp[e],f⟩) id
   obtain⟨_,A',c,hv,Vz,_,hz⟩:=hr
   have hv:a.eval x=.slice A' xs.length c:=by simpa using hv
   have hlen:((xs.take h'.toNat).drop l.toNat).length=h'.toNat-l.toNat:=Z0
   refine⟨.slice (if c=l.toNat then A' else A'.map (·.add (l.toNat*t.sz))) (h'.toNat-l.toNat) (c-l.toNat),?_,?_⟩
   simp only[Instr.sliceAt,Instr.slice,Y4,aF hu,YW,hv,kr (w:=w) (P:=P) (sl:=true) b1 b2 h0 h1 (show h'<=(c:Nat) by omega) Vz,cQ ht,Y5]
   refine⟨rfl,_,c-l.toNat,by rw[hlen],Z9,Z8,?_⟩
   by_cases he:h'.toNat-l.toNat=0
   left;exact Y9 Z9
   right
   rcases hz with rfl | ⟨b,o,sz,flat,rfl,hb,W5,hN,NL,s3⟩
   simp at h2;omega
   have hsz:sz=t.sz:=by
    cases xs with
    | nil=>simp at h2;omega
    | cons x0 xs=>rw[<- hn x0 Z8];exact(hN x0 Z8).symm
   obtain⟨c1,PM,Nz⟩:=oQ xs h'.toNat NL
   obtain⟨c2,L',Rt⟩:=pd _ l.toNat PM
   have Qa:aJ sz (xs.take h'.toNat):=fun x hx=>hN x (List.mem_of_mem_take hx)
   rw[dU _ _ Qa Z0]at Rt
   rw[if_neg Z9]
   refine⟨b,o+l.toNat*t.sz,sz,c2,by simp[dQ],hb,W5,fun x hx=>Qa x (List.mem_of_mem_drop hx),L',fun j u hu=>?_⟩
   rw[<- hsz,Zn];exact s3 _ _ (Nz _ _ (Rt j u hu))
 · rename_i r p sz g o MQ n c hx
   rw[hx]at hr
   split at h
   case h_2=>simp at h
   rename_i l h' hl hh
   simp only[YR,YU]at h
   obtain⟨rfl,rfl⟩:=h
   obtain⟨h0,h1,h2,hn⟩:=hC
   have b1:(lo.map a.eval=none/\l=0)\/∃ k,lo.map a.eval=some (.int k l):=(ze hs hl).imp (fun⟨e,f⟩=>⟨by simp[e],f⟩) id
   have b2:(hi.map a.eval=none/\h'=n)\/∃ k,hi.map a.eval=some (.int k h'):=(wH hs hh).imp (fun⟨e,f⟩=>⟨by simp[e],f⟩) id
   obtain⟨_,Ux,A',hv,hA⟩:=hr
   have hv:a.eval x=.slice A' n c:=by simpa using hv
   refine⟨.slice (if c=l.toNat then A' else A'.map (·.add (l.toNat*t.sz))) (h'.toNat-l.toNat) (c-l.toNat),?_,?_⟩
   simp only[Instr.sliceAt,Instr.slice,Y4,aF hu,YW,hv,kr (w:=w) (P:=P) (sl:=true) b1 b2 h0 h1 (show h'<=(c:Nat) by omega) Ux,cQ ht,Y5]
   refine⟨rfl,Z9,_,rfl,fun hc=>?_⟩
   rw[if_neg Z9,hA Z9]
   subst hn
   simp only[Option.map_some,dQ,Nat.add_mul,Zn]
 simp at h
theorem tl{v:V}{y:Value}{cs:List Value}{F1:List Nat}(hy:nf v=some y)(h:R w Pb v cs F1):cs=[y]/\y.oneCell'=true:=by
 cases v <;> simp only[nf,YR,reduceCtorEq]at hy
 subst hy;exact⟨h.2.1,h.1⟩
 subst hy;exact⟨h.2,rfl⟩
theorem zp:∀ {vs:List V} {xs cs:List Value} {F1:List Nat},ju vs=some xs->RL w Pb vs cs F1->cs=xs
 | [],xs,cs,F1,h,hr=>by simp only[ju,YR]at h;rw[<- h,hr.1]
 | v::vs,xs,cs,F1,h,hr=>by
   simp only[ju]at h
   split at h
   rename_i y ys e1 e2
   simp only[YR]at h;subst h
   obtain⟨c1,c2,Fa,Fb,rfl,_,h1,h2⟩:=hr
   rw[(tl e1 h1).1,zp e2 h2];rfl
   simp at h
theorem zY{v:V}{y x:Value}{F1:List Nat}(hy:valOf v=some y)(h:RV w Pb v x F1):x=y:=by
 cases v with
 | agg vs=>
   simp only[valOf]at hy
   split at hy
   rename_i xs e
   simp only[YR]at hy
   obtain⟨cs,rfl,hr⟩:=h
   rw[<- hy,<- zp e hr]
   simp at hy
 | lit z=>have:=(tl (w:=w) (Pb:=Pb) (v:=.lit z) (y:=y) (cs:=[x]) hy h).1;simpa using this
 | ptr r p g o=>have:=(tl (w:=w) (Pb:=Pb) (v:=.ptr r p g o) (y:=y) (cs:=[x]) hy h).1;simpa using this
 | _=>simp[valOf,nf]at hy
theorem ri(hs:s4 N Pb Kb A a w F):∀ (l:List Operand) {xs:List Value},ju (l.map A.ev)=some xs->l.map a.eval=xs
 | [],xs,h=>by simpa[ju] using h
 | x::l,xs,h=>by
   simp only[Zi,ju]at h
   split at h
   rename_i y ys e1 e2
   simp only[YR]at h;subst h
   obtain⟨Fx,hr⟩:=dH hs x
   have:valOf (A.ev x)=some y:=by
    cases hv:A.ev x <;> rw[hv]at e1 <;> simp only[nf,reduceCtorEq,YR]at e1 <;> simp[valOf,nf,e1]
   rw[Zi,zY this hr,ri hs l e2]
   simp at h
theorem xj{T:Nat}(h: ¬ CT (P.underlying T)=true):∃ d,P.underlying T=some d/\∀ m,d≠.interface m:=by
 cases e:P.underlying T with
 | none=>rw[e]at h;exact absurd rfl h
 | some d=>exact⟨d,rfl,fun m c=>by rw[e,c]at h;exact h rfl⟩
theorem wB{op:Op}{C:Prop}{v:V}(h:G6 P A op=some (C,v))(hC:C)(hs:s4 N Pb Kb A a w F){o:Oper}(ho:o.op=op):
 ∃ x,(execOp a.eval o).run P w=.ok (.value x) w/\RV w Pb v x []:=by
 unfold G6 at h
 split at h
 obtain⟨y,hy,hr⟩:=Dj hs h hC
 exact⟨y,by simp only[execOp,ho,Y4,hy,YW,Y5],hr⟩
 obtain⟨y,hy,hr⟩:=wg hs h hC
 exact⟨y,by simp only[execOp,ho,Y4,hy,YW,Y5],hr⟩
 obtain⟨y,hy,hr⟩:=CC hs h hC
 exact⟨y,by simp only[execOp,ho,Y4,hy,YW,Y5],hr⟩
 obtain⟨y,hy,hr⟩:=wc hs h hC
 exact⟨y,by simp only[execOp,ho,Y4,hy,YW,Y5],hr⟩
 rename_i T x lo hi
 split at h
 rename_i hT
 refine BG (op:=.slice T x lo hi none) (C:=C) (v:=v) ?_ hC hs ho
 unfold OC;simp only[hT];exact h
 obtain⟨y,hy,hr⟩:=FI hs h hC
 exact⟨y,by simp only[execOp,ho,Y4,hy,Option.map_none,YW,Y5],hr⟩
 rename_i x
 unfold KF at h
 obtain⟨Fx,hr⟩:=dH hs x
 split at h <;> rename_i e <;> simp only[YR,YU,reduceCtorEq]at h <;> obtain⟨_,rfl⟩:=h <;> rw[e]at hr
 have hx:=(List.cons.inj hr.2).1
 have hx:a.eval x=.pointer (some ⟨_,_,none⟩):=hx
 exact⟨_,by simp only[execOp,ho,hx];rfl,⟨rfl,rfl⟩⟩
 have h1:=hr.1
 obtain⟨_,b,o',flat,hx,h2⟩:=hr
 have hx:=(List.cons.inj hx).1
 exact⟨_,by simp only[execOp,ho,hx];rfl,⟨rfl,b,o',flat,rfl,h2⟩⟩
 rename_i T x
 unfold Ko at h
 split at h
 simp at h
 rename_i hi
 obtain⟨d,hd,hn⟩:=xj hi
 split at h
 rename_i y e
 simp only[YR,YU]at h
 obtain⟨_,rfl⟩:=h
 have hx:=zY e (pW hs x)
 refine⟨.iface T y,?_,dk rfl⟩
 have:(Instr.makeInterface T (a.eval x)).run P w=.ok (.iface T y) w:=by
  rw[hx]
  simp only[Instr.makeInterface,Y4,aF hd,YW]
  cases d <;> first | rfl | exact absurd rfl (hn _)
 simp only[execOp,ho,Y4,this,YW,Y5]
 simp at h
 · rename_i x xT T
   unfold JG at h
   split at h
   simp at h
   rename_i hi
   obtain⟨d,hd,hn⟩:=xj hi
   have zr:∀ z,zeroV P T=some z->∃ y,(zeroValue T).run P w=.ok y w/\RV w Pb z y []:=fun z hz=>by
    unfold zeroV at hz
    split at hz
    rename_i i hi
    simp only[Option.map_eq_some_iff]at hz
    obtain⟨y,hy,rfl⟩:=hz
    exact⟨y,by simp[zeroValue,typeInfo,hi,hy],rW y⟩
    simp at hz
   have tu:∀ (v1:V) (x1:Value) (b:Bool),RV w Pb v1 x1 []->((∀ us,v1≠.tup us)/\∀ b u,v1≠.gv b u)->RV w Pb (.tup [v1,.lit (.bool b)]) (.tuple #[x1,.bool b]) []:=fun v1 x1 b h1 TX=>by
    refine⟨_,rfl,x1,[.bool b],[],[],rfl,rfl,?_,.bool b,[],[],[],rfl,rfl,⟨rfl,rfl,rfl⟩,rfl,rfl⟩
    cases v1 with
    | tup us=>exact absurd rfl (TX.1 us)
    | gv b u=>exact absurd rfl (TX.2 b u)
    | _=>exact h1
   have YJ:∀ y:Value,(∀ us,cV y≠.tup us)/\∀ b u,cV y≠.gv b u:=fun y=>by
    constructor <;> intros <;> unfold cV <;> repeat' split
    all_goals first | (solve | simp) | (unfold Sj;split <;> simp)
   have zn:∀ z,zeroV P T=some z->(∀ us,z≠.tup us)/\∀ b u,z≠.gv b u:=fun z hz=>by
    unfold zeroV at hz
    split at hz
    simp only[Option.map_eq_some_iff]at hz
    obtain⟨y,hy,rfl⟩:=hz
    exact YJ y
    simp at hz
   split at h
   rename_i t v z hx hz
   simp only[YR,YU]at h
   obtain⟨_,rfl⟩:=h
   have hx:=bY hs hx
   obtain⟨y,hy,Vl⟩:=zr z hz
   by_cases ht:t=T
   refine⟨.tuple #[v,.bool true],?_,by rw[if_pos ht];exact tu _ _ _ (rW v) (YJ v)⟩
   have:(Instr.typeAssert (a.eval x) xT T true).run P w=.ok (.tuple #[v,.bool true]) w:=by
    rw[hx]
    simp only[Instr.typeAssert,Y4,aF hd,YW]
    cases d <;> first | exact absurd rfl (hn _) | simp[ht]
   simp only[execOp,ho,Y4,this,YW,Y5]
   refine⟨.tuple #[y,.bool false],?_,by rw[if_neg ht];exact tu _ _ _ Vl (zn z hz)⟩
   have:(Instr.typeAssert (a.eval x) xT T true).run P w=.ok (.tuple #[y,.bool false]) w:=by
    rw[hx]
    simp only[Instr.typeAssert,Y4,aF hd,YW]
    cases d <;> first | exact absurd rfl (hn _) | simp[ht,hy]
   simp only[execOp,ho,Y4,this,YW,Y5]
   rename_i z hx hz
   simp only[YR,YU]at h
   obtain⟨_,rfl⟩:=h
   have hx:=bY hs hx
   obtain⟨y,hy,Vl⟩:=zr z hz
   refine⟨.tuple #[y,.bool false],?_,tu _ _ _ Vl (zn z hz)⟩
   have:(Instr.typeAssert (a.eval x) xT T true).run P w=.ok (.tuple #[y,.bool false]) w:=by
    rw[hx]
    simp only[Instr.typeAssert,Y4,aF hd,YW]
    cases d <;> first | exact absurd rfl (hn _) | simp[hy]
   simp only[execOp,ho,Y4,this,YW,Y5]
   simp at h
 rename_i fn p q
 unfold Lv at h
 split at h
 rename_i xs ys e1 e2
 simp only[YR,YU]at h
 obtain⟨_,rfl⟩:=h
 refine⟨.func fn xs.toArray ys.toArray,?_,dk rfl⟩
 have h1:p.map a.eval=xs.toArray:=by apply Array.ext';simpa using ri hs _ e1
 have h2:q.map a.eval=ys.toArray:=by apply Array.ext';simpa using ri hs _ e2
 simp only[execOp,ho,h1,h2];rfl
 simp at h
 exact BG h hC hs ho
end
section
variable {w:World} {Pb Kb:Nat->Prop} {N:Nat} {A A':AS} {a:Act} {F:l8->List Nat} {P:Program}
theorem vS{v:V}{x:Value}{F:List Nat}(ho:v.cZ=false)(h:RV w Pb v x F):F=[]:=by
 cases v with
 | tup vs=>obtain⟨xs,_,h⟩:=h;exact tj vs (by simpa[V.cZ] using ho) h
 | gv _ _=>exact h.1
 | agg us=>obtain⟨cs,_,h⟩:=h;exact fN us (by simpa[V.cZ] using ho) h
 | a8=>exact h
 | own sz xs g o c=>exact iL (w:=w) (Pb:=Pb) _ ho h
 | ow sz xs=>exact iL (w:=w) (Pb:=Pb) _ ho h
 | om es g=>exact iL (w:=w) (Pb:=Pb) _ ho h
 | mp es=>exact iL (w:=w) (Pb:=Pb) _ ho h
 | lit x=>exact iL (w:=w) (Pb:=Pb) _ ho h
 | sl f xs=>exact iL (w:=w) (Pb:=Pb) _ ho h
 | hd r p sz g o lo n c=>exact iL (w:=w) (Pb:=Pb) _ ho h
 | ptr r p g o=>exact iL (w:=w) (Pb:=Pb) _ ho h
 | ep v=>exact iL (w:=w) (Pb:=Pb) _ ho h
def AS.drop(A:AS):Operand->AS
 | .tmp i=>if (A.get i).cZ then A.put (some i) .a8 else A
 | _=>A
def AS.le(A' A:AS):Prop:=(∀ i,A'.get i=.a8\/A'.get i=A.get i)/\(∀ k,lk k A'.h=none\/lk k A'.h=lk k A.h)
open Classical in
theorem s4.le(hs:s4 N Pb Kb A a w F)(h:A'.le A):∃ F',s4 N Pb Kb A' a w F'/\∀ r g,g∈F' r->g∈F r:=by
 refine⟨fun r=>match r with | .slot i=>if A'.get i=.a8 then [] else F (.slot i) | .key k=>if lk k A'.h=none then [] else F (.key k),?_,?_⟩
 have key:∀ r g,g∈(match r with | .slot i=>if A'.get i=.a8 then [] else F (.slot i) | .key k=>if lk k A'.h=none then [] else F (.key k):List Nat)->g∈F r:=by
  intro r g hg
  cases r <;> simp only at hg <;> split at hg <;> simp_all
 refine⟨hs.size,hs.defers,fun i=>?_,fun k g v hk=>?_,fun r r' hne g hg=>?_,fun r=>?_,fun r g hg=>hs.free r g (key r g hg),hs.sub,hs.bound⟩
 rcases h.1 i with e | e
 simp only[e,if_true];rfl
 simp only
 split
 rename_i e';rw[e'];rfl
 rw[e];exact hs.slot i
 simp only
 rw[if_neg (by rw[hk];simp)]
 rcases h.2 k with e | e
 rw[e]at hk;simp at hk
 rw[e]at hk;exact hs.root k g v hk
 exact fun Pc=>hs.cd r r' hne g (key r g hg) (key r' g Pc)
 cases r <;> simp only <;> split <;> first | exact Ze | exact hs.nodup _
 intro r g hg
 cases r <;> simp only at hg <;> split at hg <;> simp_all
theorem s4.take(hs:s4 N Pb Kb A a w F)(x:Operand):∃ Fx F',RV w Pb (A.ev x) (a.eval x) Fx/\s4 N Pb Kb (A.drop x) a w F'/\Fx.Nodup/\
 (∀ r g,g∈Fx->g ∉ F' r)/\(∀ g,g∈Fx->¬ Kb g/\g<w.heap.size)/\(∀ r g,g∈F' r->g∈F r)/\∀ g,g∈Fx->∃ r,g∈F r:=by
 cases x with
 | tmp i=>
   by_cases ho:(A.get i).cZ=true
   have hn:(A.drop (.tmp i))=A.put (some i) .a8:=by simp[AS.drop,ho]
   refine⟨F (.slot i),cf F (.slot i) [],hs.slot i,?_,hs.nodup _,fun r g hg=>?_,fun g hg=>hs.free _ g hg,fun r g hg=>?_,fun g hg=>⟨_,hg⟩⟩
   rw[hn]
   refine⟨hs.size,hs.defers,fun j=>?_,fun k g v hk=>?_,fun r r' hne g hg=>?_,fun r=>?_,fun r g hg=>?_,hs.sub,hs.bound⟩
   rw[AS.aA]
   by_cases e:j=i
   subst e;simp[cf,RV,Tz]
   have:l8.slot j≠l8.slot i:=fun c=>e (by injection c)
   simp only[if_neg e,cf,if_neg this];exact hs.slot j
   obtain⟨F',e,hr⟩:=hs.root k g v hk
   exact⟨F',by simpa[cf] using e,hr⟩
   simp only[cf]at hg ⊢
   split at hg
   simp at hg
   split
   simp
   exact hs.cd r r' hne g hg
   simp only[cf];split
   exact Ze
   exact hs.nodup r
   simp only[cf]at hg;split at hg
   simp at hg
   exact hs.free r g hg
   simp only[cf];split
   simp
   rename_i hne;exact hs.cd _ r (Ne.symm hne) g hg
   simp only[cf]at hg;split at hg
   simp at hg
   exact hg
   have P6:(A.get i).cZ=false:=by simpa using ho
   have hF:=vS P6 (hs.slot i)
   refine⟨[],F,by have:=hs.slot i;rw[hF]at this;exact this,by simp[AS.drop,P6];exact hs,Ze,Z8,Z8,fun _ _ h=>h,Z8⟩
 | const v=>exact⟨[],F,rW v,hs,Ze,Z8,Z8,fun _ _ h=>h,Z8⟩
 | global g=>exact⟨[],F,⟨rfl,rfl⟩,hs,Ze,Z8,Z8,fun _ _ h=>h,Z8⟩
 | func f=>exact⟨[],F,⟨rfl,rfl,rfl⟩,hs,Ze,Z8,Z8,fun _ _ h=>h,Z8⟩
theorem wK{o:Oper}{K:AS->Prop}{C:Prop}{v:V}(h:G6 P A o.op=some (C,v))(hC:C)(hd:cF N o.dst)(hK:K (A.put o.dst v)):E2 P N o A K:=
 iR hd hK fun _ _ _ _ _ hs=>wB h hC hs rfl
theorem uI{o:Oper}{K:AS->Prop}{x:Operand}(ho:o.op=.assign x)(hd:cF N o.dst)(hK:K ((A.drop x).put o.dst (A.ev x))):E2 P N o A K:=by
 intro Pb Kb a w F Q hs
 obtain⟨Fx,F',hr,y9,hnd,u0,hfr,_⟩:=hs.take x
 unfold Oper.wp
 have:(execOp a.eval o).run P w=.ok (.value (a.eval x)) w:=by simp only[execOp,ho];rfl
 rw[this,Oper.upon_value]
 cases L6:o.dst with
 | none=>exact⟨_,Pb,Kb,F',hK,by rw[L6];exact y9,fun _ h=>h,fun _ h=>h,fun _ h=>.inl h,x7.refl _ _⟩
 | some d=>
   rw[L6]at hd hK
   exact⟨_,Pb,Kb,_,hK,y9.put hd hr (fun r _ g hg=>u0 r g hg) hnd hfr,fun _ h=>h,fun _ h=>h,fun _ h=>.inl h,x7.refl _ _⟩
def gd(ops:Array Oper)(o:Oper)(A:AS)(x y:Prop):Prop:=
 match o.guard with
 | none=>x
 | some (j,b)=>match ((ops[j]?).bind (·.dst)).map A.get with
   | some (.lit (.bool b'))=>if b'=b then x else y
   | some (.gv c (.lit (.bool b')))=>if (c&&(b'==b))=true then x else y
   | _=>False
def WL(P:Program)(N:Nat)(ops:Array Oper):List Oper->AS->(AS->Prop)->Prop
 | [],A,K=>K A
 | o::rest,A,K=>gd ops o A (E2 P N o A fun A'=>WL P N ops rest A' K) (cF N o.dst/\∃ u,(∀ w Pb,RV w Pb u undef [])/\WL P N ops rest (A.put o.dst u) K)
theorem tU{ops:Array Oper}{o:Oper}{x y:Prop}(h:gd ops o A x y)(hs:s4 N Pb Kb A a w F):
 (Region.wanted o (yielded ops a.tmps)=true/\x)\/(Region.wanted o (yielded ops a.tmps)=false/\y):=by
 unfold gd at h
 unfold Region.wanted
 split at h
 rename_i hg;rw[hg];exact .inl ⟨rfl,h⟩
 rename_i j b hg
 rw[hg]
 split at h
 rename_i b' hd
 simp only[Option.map_eq_some_iff]at hd
 obtain⟨d,MP,QE⟩:=hd
 have hr:=hs.slot d
 rw[QE]at hr
 have hx:a.tmps.getD d undef=.bool b':=by have:=hr.2.1;simpa using this
 have hy:yielded ops a.tmps j=some b':=by
  unfold yielded
  rw[MP]
  simp only[Option.bind_some]
  cases ht:a.tmps[d]? with
  | none=>simp[ht,undef]at hx
  | some u=>simp[ht]at hx;subst hx;rfl
 simp only[hy]
 split at h
 rename_i e;subst e;exact .inl ⟨Z8,h⟩
 rename_i e;exact .inr ⟨by simp[e],h⟩
 rename_i c b' hd
 simp only[Option.map_eq_some_iff]at hd
 obtain⟨d,MP,QE⟩:=hd
 have hr:=hs.slot d
 rw[QE]at hr
 obtain⟨_,PM,L'⟩:=hr
 cases c with
 | false=>
   have hx:=L' rfl
   have hy:yielded ops a.tmps j=none:=by
    unfold yielded
    rw[MP]
    simp only[Option.bind_some]
    cases ht:a.tmps[d]? with
    | none=>simp
    | some u=>simp[ht]at hx;subst hx;rfl
   simp only[hy]
   simp only[Bool.false_and,Bool.false_eq_true,if_false]at h
   exact .inr ⟨Z8,h⟩
 | true=>
   have hx:a.tmps.getD d undef=.bool b':=by have:=(PM rfl).2.1;simpa using this
   have hy:yielded ops a.tmps j=some b':=by
    unfold yielded
    rw[MP]
    simp only[Option.bind_some]
    cases ht:a.tmps[d]? with
    | none=>simp[ht,undef]at hx
    | some u=>simp[ht]at hx;subst hx;rfl
   simp only[hy]
   simp only[Bool.true_and,Zp]at h
   split at h
   rename_i e;subst e;exact .inl ⟨Z8,h⟩
   rename_i e;exact .inr ⟨by simp[e],h⟩
 exact h.elim
theorem Nx.mono{K K':AS->Prop}{a':Act}{w':World}(h:Nx N Pb Kb w K a' w')(hK:∀ A,K A->K' A):Nx N Pb Kb w K' a' w':=by
 obtain⟨A',Pb',D3,F',h1,h2⟩:=h
 exact⟨A',Pb',D3,F',hK _ h1,h2⟩
theorem Nx.step{K:AS->Prop} {Pb' D3:Nat->Prop} {Sm:Act} {w' RR:World} (h3:∀ g,Pb g->Pb' g) (h4:∀ g,Kb g->D3 g) (h5:∀ g,Pb' g->Pb g\/¬ Kb g) (h6:x7 Kb w w')
 (h:Nx N Pb' D3 w' K Sm RR):Nx N Pb Kb w K Sm RR:=by
 obtain⟨A2,N2,N7,F2,k1,k2,k3,k4,k5,k6⟩:=h
 refine⟨A2,N2,N7,F2,k1,k2,fun g hg=>k3 g (h3 g hg),fun g hg=>k4 g (h4 g hg),fun g hg=>?_,h6.trans k6 h4⟩
 rcases k5 g hg with h | h
 exact h5 g h
 exact .inr fun c=>h (h4 g c)
theorem rq{ops:Array Oper}{Q:Exit->Act->World->Prop}:∀ (l:List Oper) {A:AS} {K:AS->Prop} {Pb Kb:Nat->Prop} {a:Act} {w:World} {F:l8->List Nat},
 WL P N ops l A K->s4 N Pb Kb A a w F->(∀ a' w',Nx N Pb Kb w K a' w'->Q .normal a' w')->wpList P ops Q l a w
 | [],A,K,Pb,Kb,a,w,F,h,hs,hQ=>hQ _ _ ⟨A,Pb,Kb,F,h,hs,fun _ h=>h,fun _ h=>h,fun _ h=>.inl h,x7.refl _ _⟩
 | o::rest,A,K,Pb,Kb,a,w,F,h,hs,hQ=>by
   unfold wpList
   rcases tU h hs with ⟨hw,h⟩ | ⟨hw,hd,u,hu,h⟩
   rw[if_pos hw]
   refine .inl (Oper.wp_mono (K:=Nx N Pb Kb w fun A'=>WL P N ops rest A' K) ?_ (h Pb Kb a w F Q hs))
   intro a' w' ⟨A',Pb',D3,F',h1,h2,h3,h4,h5,h6⟩
   exact rq rest h1 h2 fun Sm RR hn=>hQ Sm RR (Nx.step h3 h4 h5 h6 hn)
   rw[if_neg (by simp[hw])]
   obtain⟨F',y9⟩:=hs.pR (d:=o.dst) (v:=u) (x:=undef) hd (hu w Pb)
   exact rq rest h y9 hQ
def T(P:Program)(N:Nat)(c:Code)(A:AS)(Q:Exit->AS->Prop):Prop:=
 ∀ Pb Kb a w F,s4 N Pb Kb A a w F->c.wp P (fun e a' w'=>Nx N Pb Kb w (Q e) a' w') a w
theorem lY{c:Code}{Q Q':Exit->AS->Prop}(h:T P N c A Q)(hQ:∀ e A,Q e A->Q' e A):T P N c A Q':=
 fun Pb Kb a w F hs=>wp_mono (h Pb Kb a w F hs) fun e _ _ hn=>hn.mono (hQ e)
theorem Kl{Q:Exit->AS->Prop}(h:Q .normal A):T P N .skip A Q:=
 fun Pb Kb _ _ F hs=>wp_skip ⟨A,Pb,Kb,F,h,hs,fun _ h=>h,fun _ h=>h,fun _ h=>.inl h,x7.refl _ _⟩
theorem IX{l:Nat}{Q:Exit->AS->Prop}(h:Q .normal A):T P N (.label l) A Q:=
 fun Pb Kb _ _ F hs=>wp_label ⟨A,Pb,Kb,F,h,hs,fun _ h=>h,fun _ h=>h,fun _ h=>.inl h,x7.refl _ _⟩
theorem Kk{i:Nat}{Q:Exit->AS->Prop}(h:Q (.exit i) A):T P N (.exit i) A Q:=
 fun Pb Kb _ _ F hs=>wp_exit ⟨A,Pb,Kb,F,h,hs,fun _ h=>h,fun _ h=>h,fun _ h=>.inl h,x7.refl _ _⟩
theorem Kf{i:Nat}{Q:Exit->AS->Prop}(h:Q (.goto i) A):T P N (.goto i) A Q:=
 fun Pb Kb _ _ F hs=>wp_goto ⟨A,Pb,Kb,F,h,hs,fun _ h=>h,fun _ h=>h,fun _ h=>.inl h,x7.refl _ _⟩
theorem Ma{Q:Exit->AS->Prop}(h:Q .ret A):T P N .ret A Q:=
 fun Pb Kb _ _ F hs=>wp_ret ⟨A,Pb,Kb,F,h,hs,fun _ h=>h,fun _ h=>h,fun _ h=>.inl h,x7.refl _ _⟩
def XX(f:AS->Prop)(Q:Exit->AS->Prop):Exit->AS->Prop
 | .normal,A=>f A
 | e,A=>Q e A
theorem LH{x y:Code}{Q:Exit->AS->Prop}(h:T P N x A (XX (fun A'=>T P N y A' Q) Q)):T P N (.seq x y) A Q:=by
 intro Pb Kb a w F hs
 refine wp_seq (wp_mono (h Pb Kb a w F hs) fun e a' w' hn=>?_)
 cases e with
 | normal=>
   obtain⟨A',Pb',D3,F',h1,h2,h3,h4,h5,h6⟩:=hn
   exact wp_mono (h1 Pb' D3 a' w' F' h2) fun e _ _ hn=>Nx.step h3 h4 h5 h6 hn
 | _=>exact hn
theorem DW{c:Operand}{x y:Code}{Q:Exit->AS->Prop}{b:Bool}(hc:A.ev c=.lit (.bool b))(ht:b=true->T P N x A Q)(hf:b=false->T P N y A Q):T P N (.cond c x y) A Q:=
 fun Pb Kb a w F hs=>wp_cond_split (bY hs hc) (fun h=>ht h Pb Kb a w F hs) (fun h=>hf h Pb Kb a w F hs)
def XO(id:Nat)(Q:Exit->AS->Prop):Exit->AS->Prop
 | .exit TD,A=>if TD=id then Q .normal A else Q (.exit TD) A
 | e,A=>Q e A
theorem Ii{id:Nat}{c:Code}{Q:Exit->AS->Prop}(h:T P N c A (XO id Q)):T P N (.block id c) A Q:=by
 intro Pb Kb a w F hs
 refine wp_block (wp_mono (h Pb Kb a w F hs) fun e a' w' hn=>?_)
 cases e with
 | exit TD=>
   simp only[Exit.inBlock]
   have hb:∀ A,XO id Q (.exit TD) A=if TD=id then Q .normal A else Q (.exit TD) A:=fun _=>rfl
   by_cases e:TD=id
   rw[if_pos e];exact hn.mono fun A h=>by rw[hb,if_pos e]at h;exact h
   rw[if_neg e];exact hn.mono fun A h=>by rw[hb,if_neg e]at h;exact h
 | _=>exact hn
theorem KY{c:Code} {Q:Exit->AS->Prop} (I:Nat->AS->Prop) (n:Nat) (h0:I n A)
 (round:∀ n A,I n A->T P N c A (XX (fun A'=> ∃ m,m<n/\I m A') Q)):T P N (.loop c) A Q:=by
 have key:∀ n A (Pb Kb:Nat->Prop) a w F,I n A->s4 N Pb Kb A a w F->∀ (b:Frame) (k:List Item) (cs:List Frame),
  ∃ e a' w',Nx N Pb Kb w (Q e) a' w'/\Arrives P (lone (b.at a (.code c :: .inLoop c::k)) cs w) b k cs e a' w':=by
  intro n
  induction n using Nat.strongRecOn with
  | _ n ih=>
    intro A Pb Kb a w F hI hs b k cs
    obtain⟨e,Qu,Qf,hq,Pm⟩:=round n A hI Pb Kb a w F hs b (.inLoop c::k) cs
    cases e with
    | normal=>
      obtain⟨A',Pb',D3,F',⟨m,hm,hI'⟩,h2,h3,h4,h5,h6⟩:=hq
      obtain⟨x5,XP,PB,Vp,Sb⟩:=ih m hm A' Pb' D3 Qu Qf F' hI' h2 b k cs
      exact⟨x5,XP,PB,Nx.step h3 h4 h5 h6 Vp,.of_steps (Steps.trans Pm (.one step_inLoop)) Sb⟩
    | exit id=>exact⟨_,Qu,Qf,hq,.pass (x:=.inLoop c) rfl (fun _ _=>.inl Z8) Pm⟩
    | goto l=>exact⟨_,Qu,Qf,hq,.pass (x:=.inLoop c) rfl (fun _ _=>.inl Z8) Pm⟩
    | ret=>exact⟨_,Qu,Qf,hq,.pass (x:=.inLoop c) rfl (fun _ _=>.inl Z8) Pm⟩
    | panic ch=>exact⟨_,Qu,Qf,hq,.pass (x:=.inLoop c) rfl (fun _ _=>.inl Z8) Pm⟩
    | outgrown=>exact⟨_,Qu,Qf,hq,.pass (x:=.inLoop c) rfl (fun _ _=>.inl Z8) Pm⟩
 intro Pb Kb a w F hs b k cs
 obtain⟨e,a',w',hq,Pm⟩:=key n A Pb Kb a w F h0 hs b k cs
 exact⟨e,a',w',hq,.of_steps (.one step_loop) Pm⟩
theorem Hn{id:Nat}{ops:Array Oper}{Q:Exit->AS->Prop}(h:WL P N ops ops.toList A (Q .normal)):T P N (.region id ops false) A Q:=
 fun _ _ _ _ _ hs=>wp_region_list (rq _ h hs fun _ _ hn=>hn)
end
mutual
def V.er:V->V
 | .own _ xs _ _ _=>.sl false (V.B8 xs)
 | .ow _ xs=>.sl false (V.B8 xs)
 | .om es _=>.mp es
 | .agg vs=>.agg (V.B8 vs)
 | .tup vs=>.tup (V.B8 vs)
 | .gv _ _=>.a8
 | v=>v
def V.B8:List V->List V
 | []=>[]
 | v::vs=>v.er::V.B8 vs
end
def mY(P:Program)(f:FuncId):Prop:= ∀ args w,(callFunc f args).run P w=.ok (.enter f args) w
def PC(P:Program)(f:FuncId)(args:List V)(Q:V->Prop):Prop:=
 mY P f/\∀ (w:World) (Pb:Nat->Prop) (cargs:List Value),(∀ g,Pb g->g<w.heap.size)->RVs w Pb args cargs []->
  Calls P f cargs.toArray w fun e w'=> ∃ r x F Pb',e=.returned x/\Q r/\RV w' Pb' r x F/\F.Nodup/\(∀ g,g∈F->w.heap.size<=g/\g<w'.heap.size/\¬ Pb' g)/\
   (∀ g,Pb g->Pb' g)/\(∀ g,Pb' g->Pb g\/(w.heap.size<=g/\g<w'.heap.size))/\Below w.heap.size w w'
theorem PC.mono{P:Program}{f:FuncId}{args:List V}{Q Q':V->Prop}(h:PC P f args Q)(hQ:∀ r,Q r->Q' r):PC P f args Q':=
 ⟨h.1,fun w Pb cargs h1 h2=>(h.2 w Pb cargs h1 h2).mono fun _ _ ⟨r,x,F,Pb',e,q,rest⟩=>⟨r,x,F,Pb',e,hQ r q,rest⟩⟩
section
variable {w w':World} {Pb Kb Pb':Nat->Prop} {N:Nat} {A A':AS} {a:Act} {F:l8->List Nat} {P:Program}
mutual
theorem Gg:∀ v:V,v.er.n=v.n
 | .own .. =>rfl | .ow .. =>rfl | .om .. =>rfl | .mp .. =>rfl | .agg vs=>by simp only[V.er,V.n];exact HD vs
 | .tup _=>rfl | .gv _ _=>rfl | .lit _=>rfl | .sl .. =>rfl | .hd .. =>rfl | .ptr .. =>rfl | .ep _=>rfl | .a8=>rfl
theorem HD:∀ vs:List V,V.ns (V.B8 vs)=V.ns vs
 | []=>rfl | v::vs=>by simp only[V.B8,V.ns,Gg v,HD vs]
end
theorem kV:∀ vs:List V,V.B8 vs=vs.map V.er
 | []=>rfl | v::vs=>by simp[V.B8,kV vs]
mutual
theorem gQ:∀ (v:V) {cs F},R w Pb v cs F->(∀ g,Pb g->Pb' g)->(∀ g,g∈F->Pb' g)->R w Pb' v.er cs []
 | .lit x,_,_,h,_,_=>⟨h.1,h.2.1,rfl⟩
 | .agg vs,_,_,h,k1,k2=>by simp only[R,V.er]at h ⊢;exact sf vs h k1 k2
 | .tup _,_,_,h,_,_=>by simp[R]at h
 | .gv _ _,_,_,h,_,_=>by simp[R]at h
 | .sl full xs,cs,F,h,k1,k2=>by
   have hF:=h.1
   subst hF
   exact fX (w:=w) (.sl full xs) h (fun _ _=>rfl) Z8 k1 Z8
 | .own sz xs g o c,cs,F,h,k1,k2=>by
   rcases h with ⟨rfl,rfl,rfl,A,rfl⟩ | ⟨h1,h2,h3,rfl,h5,h6,flat,F',cells,rfl,hr,hb,hsz,s3⟩
   exact⟨rfl,A,0,rfl,Zg _,fun h=>by simp at h,.inl rfl⟩
   refine⟨rfl,some ⟨g,o,none⟩,c,by rw[kV];simp,by rw[kV];simpa using h3,fun h=>by simp at h,?_⟩
   by_cases hx:xs=[]
   subst hx;exact .inl rfl
   refine .inr ⟨g,o,sz,flat,rfl,k2 g Z8,h2,?_,sf xs hr k1 (fun g hg=>k2 g (by simp[hg])),fun j u hu=>by rw[dX hb];exact s3 j u hu⟩
   intro v hv
   rw[kV]at hv
   obtain⟨u,hu,rfl⟩:=List.mem_map.1 hv
   rw[Gg];exact h5 u hu
 | .ow sz xs,cs,F,h,k1,k2=>by
   obtain⟨g,o,c,h⟩:=h
   rcases h with ⟨rfl,rfl,rfl,A,rfl⟩ | ⟨h1,h2,h3,rfl,h5,h6,flat,F',cells,rfl,hr,hb,hsz,s3⟩
   exact⟨rfl,A,0,rfl,Zg _,fun h=>by simp at h,.inl rfl⟩
   refine⟨rfl,some ⟨g,o,none⟩,c,by rw[kV];simp,by rw[kV];simpa using h3,fun h=>by simp at h,?_⟩
   by_cases hx:xs=[]
   subst hx;exact .inl rfl
   refine .inr ⟨g,o,sz,flat,rfl,k2 g Z8,h2,?_,sf xs hr k1 (fun g hg=>k2 g (by simp[hg])),fun j u hu=>by rw[dX hb];exact s3 j u hu⟩
   intro v hv
   rw[kV]at hv
   obtain⟨u,hu,rfl⟩:=List.mem_map.1 hv
   rw[Gg];exact h5 u hu
 | .om es g,cs,F,h,k1,k2=>⟨rfl,g,h.2.1,k2 g (by rw[h.1];simp),h.2.2.2⟩
 | .mp es,cs,F,h,k1,_=>by obtain⟨_,g,h1,h2,h3⟩:=h;exact⟨rfl,g,h1,k1 g h2,h3⟩
 | .hd ..,_,_,h,_,_=>⟨rfl,h.2⟩
 | .ptr ..,_,_,h,_,_=>⟨rfl,h.2⟩
 | .ep v,cs,F,h,k1,k2=>by
   have hF:=h.1
   subst hF
   exact fX (w:=w) (.ep v) h (fun _ _=>rfl) Z8 k1 Z8
 | .a8,_,_,h,_,_=>⟨rfl,h.2⟩
theorem sf:∀ (vs:List V) {cs F},RL w Pb vs cs F->(∀ g,Pb g->Pb' g)->(∀ g,g∈F->Pb' g)->RL w Pb' (V.B8 vs) cs []
 | [],_,_,h,_,_=>⟨h.1,rfl⟩
 | v::vs,_,_,h,k1,k2=>by
   obtain⟨c1,c2,F1,F2,rfl,rfl,h1,h2⟩:=h
   exact⟨c1,c2,[],[],rfl,rfl,gQ v h1 k1 (fun g hg=>k2 g (by simp[hg])),sf vs h2 k1 (fun g hg=>k2 g (by simp[hg]))⟩
end
theorem EV:∀ (vs:List V) {xs F},RVs w Pb vs xs F->(∀ g,Pb g->Pb' g)->(∀ g,g∈F->Pb' g)->RVs w Pb' (V.B8 vs) xs []
 | [],_,_,h,_,_=>⟨h.1,rfl⟩
 | v::vs,_,_,h,k1,k2=>by
   obtain⟨x,xs',F1,F2,rfl,rfl,h1,h2⟩:=h
   refine⟨x,xs',[],[],rfl,rfl,?_,EV vs h2 k1 (fun g hg=>k2 g (by simp[hg]))⟩
   have RE:∀ g,g∈F1->Pb' g:=fun g hg=>k2 g (by simp[hg])
   cases v with
   | agg us=>obtain⟨cs,e,h1⟩:=h1;exact⟨cs,e,sf us h1 k1 RE⟩
   | a8=>rfl
   | tup _=>simp[R]at h1
   | gv _ _=>simp[R]at h1
   | own sz xs g o c=>exact gQ (w:=w) (Pb:=Pb) (.own sz xs g o c) h1 k1 RE
   | ow sz xs=>exact gQ (w:=w) (Pb:=Pb) (.ow sz xs) h1 k1 RE
   | om es g=>exact gQ (w:=w) (Pb:=Pb) (.om es g) h1 k1 RE
   | mp es=>exact gQ (w:=w) (Pb:=Pb) (.mp es) h1 k1 RE
   | lit x=>exact gQ (w:=w) (Pb:=Pb) (.lit x) h1 k1 RE
   | sl f xs=>exact gQ (w:=w) (Pb:=Pb) (.sl f xs) h1 k1 RE
   | hd r p sz g o lo n c=>exact gQ (w:=w) (Pb:=Pb) (.hd r p sz g o lo n c) h1 k1 RE
   | ptr r p g o=>exact gQ (w:=w) (Pb:=Pb) (.ptr r p g o) h1 k1 RE
   | ep v=>exact gQ (w:=w) (Pb:=Pb) (.ep v) h1 k1 RE
theorem CW{v:V}{x:Value}{F:List Nat}(h:RV w Pb v x F)(k1:∀ g,Pb g->Pb' g)(k2:∀ g,g∈F->Pb' g):RV w Pb' v.er x []:=by
 cases v with
 | tup vs=>obtain⟨xs,e,h⟩:=h;exact⟨xs,e,EV vs h k1 k2⟩
 | gv _ _=>rfl
 | agg us=>obtain⟨cs,e,h⟩:=h;exact⟨cs,e,sf us h k1 k2⟩
 | a8=>rfl
 | own sz xs g o c=>exact gQ (w:=w) (Pb:=Pb) (.own sz xs g o c) h k1 k2
 | ow sz xs=>exact gQ (w:=w) (Pb:=Pb) (.ow sz xs) h k1 k2
 | om es g=>exact gQ (w:=w) (Pb:=Pb) (.om es g) h k1 k2
 | mp es=>exact gQ (w:=w) (Pb:=Pb) (.mp es) h k1 k2
 | lit x=>exact gQ (w:=w) (Pb:=Pb) (.lit x) h k1 k2
 | sl f xs=>exact gQ (w:=w) (Pb:=Pb) (.sl f xs) h k1 k2
 | hd r p sz g o lo n c=>exact gQ (w:=w) (Pb:=Pb) (.hd r p sz g o lo n c) h k1 k2
 | ptr r p g o=>exact gQ (w:=w) (Pb:=Pb) (.ptr r p g o) h k1 k2
 | ep v=>exact gQ (w:=w) (Pb:=Pb) (.ep v) h k1 k2
theorem s4.grow{N2 N7:Nat->Prop} (hs:s4 N Pb Kb A a w F) (hb:∀ k,k<w.heap.size->w'.heap[k]? =w.heap[k]?) (hsz:w.heap.size<=w'.heap.size) (h1:∀ g,Pb g->N2 g)
 (h4:∀ g,N7 g->Kb g\/(w.heap.size<=g/\g<w'.heap.size)) (h5:∀ g,N2 g->N7 g):s4 N N2 N7 A a w' F where
 size:=hs.size
 defers:=hs.defers
 slot:=fun i=>mH _ (hs.slot i) (fun g hg=>hb g (hs.bound g (hs.sub g hg))) (fun g hg=>hb g (hs.free _ g hg).2) h1 (fun g hg c=>by
  have hf:=hs.free _ g hg
  rcases h4 g (h5 g c) with h | h
  exact hf.1 h
  omega)
 root:=fun k g v hk=>by
  obtain⟨F',e,cs,cells,⟨e',fr,J',hfr⟩,hr,hc⟩:=hs.root k g v hk
  have hin:∀ x,x∈g::F'->x<w.heap.size/\¬ N2 x:=fun x hx=>by
   have hf:=hs.free (.key k) x (by rw[e];exact hx)
   refine⟨hf.2,fun c=>?_⟩
   rcases h4 x (h5 x c) with h | h
   exact hf.1 h
   omega
  exact⟨F',e,cs,cells,⟨e',fr,(hb g (hin g Z8).1).trans J',hfr⟩,fX _ hr (fun g hg=>hb g (hs.bound g (hs.sub g hg))) (fun x hx=>hb x (hin x (by simp[hx])).1) h1 (fun x hx=>(hin x (by simp[hx])).2),hc⟩
 cd:=hs.cd
 nodup:=hs.nodup
 free:=fun r g hg=>by
  have hf:=hs.free r g hg
  refine⟨fun c=>?_,Z9⟩
  rcases h4 g c with h | h
  exact hf.1 h
  omega
 sub:=h5
 bound:=fun g hg=>by
  rcases h4 g hg with h | h
  have:=hs.bound g h;omega
  exact h.2
theorem x7.yX(h:Below w.heap.size w w')(hK:∀ g,Kb g->g<w.heap.size):x7 Kb w w':=
 ⟨h.os,h.tape,h.output,h.size,fun g hg=>h.block g (hK g hg),Shp.of_eq h.block⟩
theorem tH(hs:s4 N Pb Kb A a w F):∀ xs:List Operand,RVs w Pb (xs.map A.cp) (xs.map a.eval) []
 | []=>⟨rfl,rfl⟩
 | x::xs=>by
   refine⟨a.eval x,xs.map a.eval,[],[],rfl,rfl,?_,tH hs xs⟩
   have h:=pW hs x
   cases hv:A.cp x with
   | tup vs=>
     exfalso
     cases x with
     | tmp i=>
       simp only[AS.cp]at hv
       cases hg:A.get i <;> rw[hg]at hv <;> first | (solve | simp only[V.cp,V.Qs,reduceCtorEq]at hv) | (unfold V.cp at hv;simp only[V.Qs,reduceCtorEq]at hv)
     | const c=>
       simp only[AS.cp,AS.ev]at hv
       cases c <;> simp[cV,Sj]at hv
       split at hv <;> simp at hv
       split at hv <;> simp at hv
     | _=>simp[AS.cp,AS.ev]at hv
   | gv b u=>
     exfalso
     cases x with
     | tmp i=>
       simp only[AS.cp]at hv
       cases hg:A.get i <;> rw[hg]at hv <;> first | (solve | simp only[V.cp,V.Qs,reduceCtorEq]at hv) | (unfold V.cp at hv;simp only[V.Qs,reduceCtorEq]at hv)
     | const c=>
       simp only[AS.cp,AS.ev]at hv
       cases c <;> simp[cV,Sj]at hv
       split at hv <;> simp at hv
       split at hv <;> simp at hv
     | _=>simp[AS.cp,AS.ev]at hv
   | agg us=>rw[hv]at h;exact h
   | a8=>rfl
   | own sz xs g o c=>rw[hv]at h;exact h
   | ow sz xs=>rw[hv]at h;exact h
   | om es g=>rw[hv]at h;exact h
   | mp es=>rw[hv]at h;exact h
   | lit x=>rw[hv]at h;exact h
   | sl f xs=>rw[hv]at h;exact h
   | hd r p sz g o lo n c=>rw[hv]at h;exact h
   | ptr r p g o=>rw[hv]at h;exact h
   | ep v=>rw[hv]at h;exact h
theorem Ht{o:Oper} {K:AS->Prop} {f:FuncId} {xs:Array Operand} {K5:Array TypeId} {Q:V->Prop} (ho:o.op=.call { callee:=.value (.func f),args:=xs,argTypes:=K5 })
 (hd:cF N o.dst) (hc:PC P f (xs.toList.map A.cp) Q) (hK:∀ r,Q r->K (A.put o.dst r)):E2 P N o A K:=by
 intro Pb Kb a w F Q' hs
 unfold Oper.wp
 have A3:(execOp a.eval o).run P w=.ok (.enter f (xs.map a.eval)) w:=by
  simp only[execOp,ho,resolve,Act.eval,Deferred.ofValue,Y4,Y5,YW,invoke]
  have:=hc.1 (xs.map a.eval) w
  simpa using this
 rw[A3,Oper.upon_enter]
 have hargs:=tH hs xs.toList
 have J4:=hc.2 w Pb (xs.toList.map a.eval) (fun g hg=>hs.bound g (hs.sub g hg)) hargs
 have e:(xs.toList.map a.eval).toArray=xs.map a.eval:=by rw[<- Array.toList_map,Array.toArray_toList]
 rw[e]at J4
 refine J4.mono ?_
 rintro e w' ⟨r,x,Fr,Pb',rfl,hq,hr,hnd,hfr,h1,h2,hb⟩
 have y9:s4 N Pb' (fun g=>Kb g\/Pb' g) A a w' F:=hs.grow hb.block hb.size h1 (fun g hg=>by
  rcases hg with h | h
  exact .inl h
  rcases h2 g h with h | h
  exact .inl (hs.sub g h)
  exact .inr h) (fun g hg=>.inr hg)
 have Rm:∀ g,g∈Fr->¬ (Kb g\/Pb' g)/\g<w'.heap.size:=fun g hg=>by
  obtain⟨f1,f2,f3⟩:=hfr g hg
  refine⟨fun c=>?_,f2⟩
  rcases c with c | c
  have:=hs.bound g c;omega
  exact f3 c
 have hnx:∀ A' a' F',K A'->s4 N Pb' (fun g=>Kb g\/Pb' g) A' a' w' F'->Nx N Pb Kb w K a' w':=fun A' a' F' hk TK=>
  ⟨A',Pb',_,F',hk,TK,h1,fun g hg=>.inl hg,fun g hg=>by
   rcases h2 g hg with h | h
   exact .inl h
   exact .inr fun c=>by have:=hs.bound g c;omega,x7.yX hb hs.bound⟩
 cases L6:o.dst with
 | none=>exact hnx _ _ F (hK r hq) (by rw[L6];exact y9)
 | some d=>
   rw[L6]at hd
   refine hnx _ _ (cf F (.slot d) Fr) (hK r hq) ?_
   rw[L6]
   refine y9.put hd hr (fun rt _ g hg=>?_) hnd Rm
   intro J5
   have:=(hs.free rt g J5).2
   have:=(hfr g hg).1
   omega
theorem oD{o:Oper} {K:AS->Prop} {f:FuncId} {xs:Array Operand} {K5:Array TypeId} {Q:V->Prop} {E:V} (ho:o.op=.call { callee:=.value (.func f),args:=xs,argTypes:=K5 })
 (hd:cF N o.dst) (hc:PC P f (xs.toList.map A.cp) Q) (hE:∀ r,Q r->r.er=E) (hK:K (A.put o.dst E)):E2 P N o A K:=by
 have J5:PC P f (xs.toList.map A.cp) (fun r=>r=E):=by
  refine⟨hc.1,fun w Pb cargs h1 h2=>(hc.2 w Pb cargs h1 h2).mono ?_⟩
  rintro e w' ⟨r,x,Fr,Pb',rfl,hq,hr,hnd,hfr,k1,k2,hb⟩
  refine⟨E,x,[],fun g=>Pb' g\/g∈Fr,rfl,rfl,?_,Ze,Z8,fun g hg=>.inl (k1 g hg),fun g hg=>?_,hb⟩
  rw[<- hE r hq];exact CW hr (fun g hg=>.inl hg) (fun g hg=>.inr hg)
  rcases hg with h | h
  exact k2 g h
  obtain⟨f1,f2,_⟩:=hfr g h;exact .inr ⟨f1,f2⟩
 exact Ht ho hd J5 fun r hr=>by rw[hr];exact hK
def enum(k:Nat):List V->List (Nat×V)
 | []=>[]
 | v::vs=>(k,v)::enum (k+1) vs
def yU(A:AS):ResultVar->Option (l8×V)
 | .tmp t=>some (.slot t,A.get t)
 | .cell t _=>match A.get t with
   | .ptr (.key k) [] g 0=>match lk k A.h with
     | some (g',v)=>if g'=g then some (.key k,v) else none
     | none=>none
   | _=>none
def pM(A:AS):List ResultVar->Option (List (l8×V))
 | []=>some []
 | r::rs=>match yU A r,pM A rs with
   | some x,some xs=>some (x::xs)
   | _,_=>none
def qp(P:Program):List ResultVar->List (l8×V)->Prop
 | .cell _ T::rs,(_,v)::xs=>(match ti P T with | some i=>v.n=i.sz/\i.d.agg=v.isAgg | none=>False)/\qp P rs xs
 | .tmp _::rs,(_,v)::xs=>(match v with | .tup _=>False | .gv _ _=>False | _=>True)/\qp P rs xs
 | [],[]=>True
 | _,_=>False
def one(vs:List V):V:=match vs with | [v]=>v | vs=>.tup vs
theorem AR:∀ (vs:List V) (k i:Nat),lk i (enum k vs)=if k<=i then vs[i-k]? else none
 | [],k,i=>by simp[enum,lk]
 | v::vs,k,i=>by
   simp only[enum,lk]
   by_cases h:i=k
   subst h;simp
   rw[if_neg h,AR vs (k+1) i]
   by_cases h':k+1<=i
   rw[if_pos h',if_pos Z9]
   have:i-k=(i-(k+1))+1:=Z9
   rw[this];rfl
   rw[if_neg h',if_neg Z9]
theorem Ec:∀ (vs:List V) {xs:List Value} {i:Nat} {v:V},RVs w Pb vs xs []->vs[i]? =some v->∃ x,xs[i]? =some x/\RV w Pb v x []
 | [],_,_,_,_,h=>by simp at h
 | v::vs,xs,0,u,h,hi=>by
     obtain⟨x,xs',F1,F2,rfl,hF,h1,h2⟩:=h
     have hF1:F1=[]:=by have:=hF.symm;simp at this;exact this.1
     subst hF1
     simp at hi;subst hi
     refine⟨x,rfl,?_⟩
     cases v with
     | agg us=>exact h1
     | a8=>exact h1
     | tup us=>simp[R]at h1
     | gv _ _=>simp[R]at h1
     | _=>exact h1
 | v::vs,xs,i+1,u,h,hi=>by
     obtain⟨x,xs',F1,F2,rfl,hF,h1,h2⟩:=h
     have hF2:F2=[]:=by have:=hF.symm;simp at this;exact this.2
     subst hF2
     obtain⟨y,hy,hr⟩:=Ec vs h2 (by simpa using hi)
     exact⟨y,by simpa using hy,hr⟩
theorem vY:∀ (vs:List V) {xs:List Value} {F},RVs w Pb vs xs F->xs.length=vs.length
 | [],_,_,h=>by rw[h.1];rfl
 | v::vs,_,_,h=>by
   obtain⟨x,xs',F1,F2,rfl,_,_,h2⟩:=h
   simp[vY vs h2]
def Uj(a:Act):ResultVar->Sem Value
 | .tmp t=>pure (a.tmps.getD t undef)
 | .cell t T=>do loadVar T (<- asAddr (a.tmps.getD t undef))
def OB(w:World)(Pb:Nat->Prop)(v:V)(x:Value)(F:List Nat):Prop:=match v with
 | .agg us=> ∃ cs,x=.agg cs/\RL w Pb us cs.toList F
 | .a8=>F=[]
 | v=>R w Pb v [x] F
theorem EY{v:V}{x:Value}{F1:List Nat}(h:RV w Pb v x F1)(hn:(∀ us,v≠.tup us)/\∀ b u,v≠.gv b u):OB w Pb v x F1:=by
 cases v with
 | tup us=>exact absurd rfl (hn.1 us)
 | gv b u=>exact absurd rfl (hn.2 b u)
 | _=>exact h
theorem Ld{i:Option TI}{v:V}(h:match i with | some i=>v.n=i.sz/\i.d.agg=v.isAgg | none=>False):∃ j,i=some j/\v.n=j.sz/\j.d.agg=v.isAgg:=by
 cases i with
 | none=>exact h.elim
 | some j=>exact⟨j,rfl,h⟩
instance:LawfulMonad Sem:=LawfulMonad.mk' Sem (id_map:=fun x=>by
 show x.bind (fun a=>Sem.pure (id a))=x
 exact Sem.bind_pure' x)
 (pure_bind:=fun _ _=>rfl) (bind_assoc:=fun x f g=>Sem.bind_assoc' x f g)
theorem xH(hs:s4 N Pb Kb A a w F):∀ (rs:List ResultVar) {xs:List (l8×V)},pM A rs=some xs->qp P rs xs->(xs.map (·.1)).Nodup->
 ∃ (vs:List Value) (Fr:List Nat),(rs.mapM (Uj a)).run P w=.ok vs w/\
   RVs w Pb (xs.map (·.2)) vs Fr/\Fr.Nodup/\(∀ g,g∈Fr->∃ r,r∈xs.map (·.1)/\g∈F r)
 | [],xs,h,_,_=>by
   simp[pM]at h;subst h
   exact⟨[],[],rfl,⟨rfl,rfl⟩,Ze,Z8⟩
 | r::rs,xs,h,Nh,hnd=>by
   simp only[pM]at h
   split at h
   case h_2=>simp at h
   rename_i x xs' hx RZ
   simp only[YR]at h
   subst h
   simp only[Zi,List.nodup_cons]at hnd
   have Xc:qp P rs xs':=by
    obtain⟨xr,xv⟩:=x
    cases r <;> exact Nh.2
   obtain⟨vs,Fr,A3,hrv,NG,hin⟩:=xH hs rs RZ Xc hnd.2
   have h1:∃ (v:Value) (F1:List Nat),(Uj a r).run P w=.ok v w/\RV w Pb x.2 v F1/\((∀ us,x.2≠.tup us)/\∀ b u,x.2≠.gv b u)/\F1.Nodup/\∀ g,g∈F1->g∈F x.1:=by
    cases r with
    | tmp t=>
      simp only[yU,YR]at hx
      subst hx
      have Nh:=Nh.1
      exact⟨_,F (.slot t),rfl,hs.slot t,⟨fun us e=>by have e':A.get t=.tup us:=e;rw[e']at Nh;exact Nh,fun b u e=>by have e':A.get t=.gv b u:=e;rw[e']at Nh;exact Nh⟩,hs.nodup _,fun _ h=>h⟩
    | cell t T=>
      simp only[yU]at hx
      split at hx
      case h_2=>simp at hx
      rename_i k g hg
      split at hx
      case h_2=>simp at hx
      rename_i g' v hk
      split at hx
      case isFalse=>simp at hx
      rename_i e
      subst e
      simp only[YR]at hx
      subst hx
      have R5:=Nh.1
      obtain⟨i,hi,R5⟩:=Ld R5
      obtain⟨F',e,cs,cells,hb,hr,hc⟩:=hs.root k g' v hk
      have hp:=hs.slot t
      rw[hg]at hp
      have hp:a.tmps.getD t undef=.pointer (some ⟨g',0,none⟩):=by have:=hp.2;simpa using this
      obtain⟨y,hy,Vl⟩:=mj (w:=w) hi hr R5.1 R5.2 (g:=g') (o:=0) (fun j u hu=>by rw[dX hb];exact hc j u hu)
      refine⟨y,F',by simp only[Uj,hp,asAddr,Y4,Y5,YW,hy],Vl,?_,?_,?_⟩
      exact⟨fun us e=>by simp only at e;subst e;simp[R]at hr,fun b u e=>by simp only at e;subst e;simp[R]at hr⟩
      have:=hs.nodup (.key k);rw[e]at this;exact(List.nodup_cons.1 this).2
      intro g hg;rw[e];simp[hg]
   obtain⟨v,F1,hv,PM,hnt,TW,VD⟩:=h1
   refine⟨v::vs,F1++Fr,?_,?_,?_,?_⟩
   rw[List.mapM_cons]
   simp only[Y4,Y5]
   rw[hv]
   simp only[YW,A3]
   exact⟨v,vs,F1,Fr,rfl,rfl,EY PM hnt,hrv⟩
   refine List.nodup_append.2 ⟨TW,NG,fun p hp q hq e=>?_⟩
   subst e
   obtain⟨r',E3,Pc⟩:=hin p hq
   exact hs.cd x.1 r' (fun c=>hnd.1 (by rw[c];exact E3)) p (VD p hp) Pc
   intro g hg
   rcases Y1.1 hg with h | h
   exact⟨x.1,Z8,VD g h⟩
   obtain⟨r',E3,Pc⟩:=hin g h
   exact⟨r',by simp only[Zi,List.mem_cons];exact .inr E3,Pc⟩
theorem Dr:∀ (us:List V) {vs:List Value} {Fr:List Nat},RVs w Pb us vs Fr->RV w Pb (one us) (if h:vs.toArray.size=1 then vs.toArray[0] else .tuple vs.toArray) Fr
 | [],vs,Fr,h=>by obtain⟨rfl,rfl⟩:=h;exact⟨#[],rfl,rfl,rfl⟩
 | [v],vs,Fr,h=>by
   obtain⟨x,xs',F1,F2,rfl,rfl,h1,h2⟩:=h
   obtain⟨rfl,rfl⟩:=h2
   simp only[List.append_nil]
   show RV w Pb v x F1
   cases v with
   | tup _=>simp[R]at h1
   | gv _ _=>simp[R]at h1
   | _=>exact h1
 | v::v'::us,vs,Fr,h=>by
   have hl:=vY _ h
   rw[dif_neg (by simp at hl ⊢;omega)]
   exact⟨vs.toArray,rfl,by simpa using h⟩
theorem Aw(hs:s4 N Pb Kb A a w F){fn:Func}{xs:List (l8×V)}(h1:pM A fn.results.toList=some xs)(h2:qp P fn.results.toList xs)(h3:(xs.map (·.1)).Nodup):
 ∃ x Fr,(results fn a.tmps).run P w=.ok x w/\RV w Pb (one (xs.map (·.2))) x Fr/\Fr.Nodup/\∀ g,g∈Fr->∃ r,r∈xs.map (·.1)/\g∈F r:=by
 obtain⟨vs,Fr,A3,hrv,hnd,hin⟩:=xH hs _ h1 h2 h3
 have hm:(fn.results.mapM (Uj a)).run P w=.ok vs.toArray w:=by
  rw[<- Array.toArray_toList (xs:=fn.results),List.mapM_toArray,Sem.run_map,A3];rfl
 have Xt:(results fn a.tmps).run P w=.ok (if h:vs.toArray.size=1 then vs.toArray[0] else .tuple vs.toArray) w:=by
  show ((fn.results.mapM (Uj a)).bind _).run P w=_
  have:=Y4 (P:=P) (w:=w) (x:=fn.results.mapM (Uj a)) (f:=fun vs=>(pure (if h:vs.size=1 then vs[0] else .tuple vs):Sem Value))
  rw[hm]at this
  exact this
 exact⟨_,Fr,Xt,Dr _ hrv,hnd,hin⟩
end
def Str(l:BL):ByteArray:=⟨l.toArray⟩
theorem hY(l:BL):(Str l).size=l.length:=by simp[Str,ByteArray.size]
theorem IW(a b:BL):Str a++Str b=Str (a++b):=by
 apply ByteArray.ext;simp[Str]
theorem Jw(l:BL)(i j:Nat):(Str l).extract i j=Str ((l.take j).drop i):=by
 apply ByteArray.ext
 rw[ByteArray.data_extract]
 simp[Str,List.extract,List.drop_take]
theorem KC(l:BL)(i:Int):XN (Str l) i=.lit (.int .u8 (l.getD i.toNat 0).toNat):=by
 unfold XN Str;simp[Array.getD,List.getD]
 split <;> simp_all
def KL(P:Program)(N:Nat):List Oper->AS->Prop×AS×List Oper
 | [],A=>(True,A,[])
 | o::rest,A=>match o.guard with
   | some _=>(True,A,o::rest)
   | none=>match o.op with
     | .assign x=>match KL P N rest ((A.drop x).put o.dst (A.ev x)) with
       | (C,r)=>(cF N o.dst/\C,r)
     | op=>match G6 P A op with
       | some (C,v)=>match KL P N rest (A.put o.dst v) with
         | (C',r)=>(cF N o.dst/\C/\C',r)
       | none=>(True,A,o::rest)
theorem dY{P:Program} {f:FuncId} {fn:Func} (hf:P.funcs[f]? =some fn) (hn:(fn.name== "runtime.NumGoroutine")=false) (hb:fn.body.isNone=false):mY P f:=by
 intro args w
 unfold callFunc
 simp only[Y4,run_program,YW,hf,hn,hb,Bool.false_eq_true,if_false,Y5]
def V.set(v:V):List Nat->V->V
 | [],u=>u
 | j::p,u=>match v with
   | .agg vs=>match vs[j]? with
     | some x=>.agg (vs.set j (V.set x p u))
     | none=>v
   | .own sz xs g o c=>match xs[j]? with
     | some x=>.own sz (xs.set j (V.set x p u)) g o c
     | none=>v
   | _=>v
section
variable {w w':World} {Pb Kb:Nat->Prop}
def TA(w:World)(Pb:Nat->Prop)(vs:List V)(g o:Nat)(F:List Nat):Prop:=
 ∃ cs cells,Blk w g cells/\RL w Pb vs cs F/\∀ j u,cs[j]? =some u->cells[o+j]? =some u
theorem tJ{v:V}{vs:List V}{g o:Nat}{F:List Nat}:TA w Pb (v::vs) g o F↔∃ F1 F2,F=F1++F2/\At w Pb v g o F1/\TA w Pb vs g (o+v.n) F2:=by
 constructor
 rintro⟨cs,cells,hb,⟨c1,c2,F1,F2,rfl,rfl,h1,h2⟩,hc⟩
 refine⟨F1,F2,rfl,⟨c1,cells,hb,h1,fun j u hu=>hc j u ?_⟩,⟨c2,cells,hb,h2,fun j u hu=>?_⟩⟩
 rw[Zd (Y7.1 hu).1];exact hu
 have hl:=ez v h1
 rw[<- hl,Zn]
 refine hc _ u ?_
 rw[Y8 Z9]
 have e:c1.length+j-c1.length=j:=Z9
 rw[e];exact hu
 rintro⟨F1,F2,rfl,⟨c1,cells,⟨e1,f1,hb,hf⟩,h1,Nz⟩,⟨c2,n7,⟨e2,f2,J',_⟩,h2,Rt⟩⟩
 rw[hb]at J'
 simp only[YR,Obj.cells.injEq]at J'
 obtain⟨rfl,_,_⟩:=J'
 refine⟨c1++c2,cells,⟨e1,f1,hb,hf⟩,⟨c1,c2,F1,F2,rfl,rfl,h1,h2⟩,fun j u hu=>?_⟩
 have hl:=ez v h1
 by_cases hj:j<c1.length
 rw[Zd hj]at hu;exact Nz j u hu
 rw[Y8 Z9]at hu
 have:=Rt _ u hu
 rw[<- hl]at this
 have e:o+c1.length+(j-c1.length)=o+j:=Z9
 rwa [e]at this
theorem zR{vs:List V}{g o:Nat}{F:List Nat}:At w Pb (.agg vs) g o F↔TA w Pb vs g o F:=by
 constructor
 rintro⟨cs,cells,hb,h,hc⟩;exact⟨cs,cells,hb,by simpa only[R] using h,hc⟩
 rintro⟨cs,cells,hb,h,hc⟩;exact⟨cs,cells,hb,by simpa only[R] using h,hc⟩
theorem xB{l:List Value}{cells:Array Value}{o:Nat}(h:∀ j u,l[j]? =some u->cells[o+j]? =some u)(hl:l≠[]):o+l.length<=cells.size:=by
 have I0:0<l.length:=List.length_pos_iff.2 hl
 have:=h (l.length-1) _ (YX Z9)
 have:=(Zl.1 this).1
 omega
theorem qf{v:V} {g o:Nat} {F:List Nat} (h:At w Pb v g o F) (k1:∀ x,Pb x->w'.heap[x]? =w.heap[x]?) (k2:∀ x,x∈F->w'.heap[x]? =w.heap[x]?) (k3:∀ x,x∈F->¬ Pb x)
 (k4:∀ cells,Blk w g cells->∃ n7,Blk w' g n7/\∀ j,o<=j->j<o+v.n->n7[j]? =cells[j]?):At w' Pb v g o F:=by
 obtain⟨cs,cells,hb,hr,hc⟩:=h
 obtain⟨n7,J',he⟩:=k4 cells hb
 refine⟨cs,n7,J',fX v hr k1 k2 (fun _ h=>h) k3,fun j u hu=>?_⟩
 have hl:=ez v hr
 have hj:=(Y7.1 hu).1
 rw[he _ Z9 Z9];exact hc j u hu
theorem EI{vs:List V} {g o:Nat} {F:List Nat} (h:TA w Pb vs g o F) (k1:∀ x,Pb x->w'.heap[x]? =w.heap[x]?) (k2:∀ x,x∈F->w'.heap[x]? =w.heap[x]?) (k3:∀ x,x∈F->¬ Pb x)
 (k4:∀ cells,Blk w g cells->∃ n7,Blk w' g n7/\∀ j,o<=j->j<o+V.ns vs->n7[j]? =cells[j]?):TA w' Pb vs g o F:=by
 rw[<- zR]at h ⊢
 exact qf h k1 k2 k3 k4
structure A9 (w w':World) (g o:Nat) (cs:List Value):Prop where
 os:w'.os=w.os
 tape:w'.tape=w.tape
 output:w'.output=w.output
 size:w'.heap.size=w.heap.size
 Nk:∀ k,k≠g->w'.heap[k]? =w.heap[k]?
 shape:Shp w w'
 N':∀ cells,Blk w g cells->∃ n7,Blk w' g n7/\n7.size=cells.size/\(∀ j,j<o\/o+cs.length<=j->n7[j]? =cells[j]?)/\(∀ j u,cs[j]? =some u->n7[o+j]? =some u)
theorem hZ:∀ (p:List Nat) {v u:V} {g o g' o':Nat} {F},At w Pb v g o F->V.at g o v p=some (g',o',u)->(g'=g/\o<=o'/\o'+u.n<=o+v.n)\/g'∈F
 | [],v,u,g,o,g',o',F,h,e=>by
   simp only[V.at,YR,YU]at e
   obtain⟨rfl,rfl,rfl⟩:=e
   exact .inl ⟨rfl,Zg _,Zg _⟩
 | j::p,v,u,g,o,g',o',F,h,e=>by
   simp only[V.at]at e
   split at e
   rename_i vs
   split at e
   rename_i x hx
   obtain⟨cs,cells,hb,hr,hc⟩:=h
   simp only[R]at hr
   obtain⟨c,F',E3,hF,J5⟩:=fR vs hr hx
   rcases hZ p (v:=x) ⟨c,cells,hb,E3,fun i u hu=>by rw[Zn];exact hc _ _ (J5 i u hu)⟩ e with ⟨h1,h2,h3⟩ | h1
   left
   refine⟨h1,Z9,?_⟩
   have hle:V.ns (vs.take j)+x.n<=V.ns vs:=by
    clear e hr hc E3 J5 hF h3 h2
    induction vs generalizing j with
    | nil=>simp at hx
    | cons v0 vs ih=>
      cases j with
      | zero=>simp at hx;subst hx;simp[V.ns]
      | succ j=>have:=ih (j:=j) (by simpa using hx);simp only[List.take_succ_cons,V.ns];omega
   simp only[V.n];omega
   exact .inr (hF _ h1)
   simp at e
   rename_i sz xs g1 o1 c1
   split at e
   rename_i x hx
   obtain⟨cs,cells,hb,hr,hc⟩:=h
   rcases hr with ⟨_,rfl,_⟩ | ⟨_,_,_,_,ha,_,flat,F',n7,rfl,hr,J',_,J5⟩
   simp at hx
   obtain⟨c,M8,E3,hF,N1⟩:=fR xs hr hx
   have hj:j<=xs.length:=by have:=(Y7.1 hx).1;omega
   rw[dU xs j ha hj]at N1
   rcases hZ p (v:=x) ⟨c,n7,J',E3,fun i u hu=>by rw[Zn];exact J5 _ _ (N1 i u hu)⟩ e with ⟨h1,_⟩ | h1
   right;simp[h1]
   right;simp[hF _ h1]
   simp at e
   simp at e
theorem mL:∀ (p:List Nat) {v u u':V} {g o g' o':Nat},V.at g o v p=some (g',o',u)->u'.n=u.n->(v.set p u').n=v.n
 | [],v,u,u',g,o,g',o',e,h=>by
   simp only[V.at,YR,YU]at e
   obtain⟨_,_,rfl⟩:=e;exact h
 | j::p,v,u,u',g,o,g',o',e,h=>by
   simp only[V.at]at e
   simp only[V.set]
   split at e
   rename_i vs
   split at e
   rename_i x hx
   have ih:=mL p e h
   simp only[hx,V.n]
   clear e
   induction vs generalizing j with
   | nil=>simp at hx
   | cons v0 vs ihv=>
     cases j with
     | zero=>simp at hx;subst hx;simp[V.ns,ih]
     | succ j=>simp only[List.set_cons_succ,V.ns];rw[ihv j (by simpa using hx)]
   simp at e
   split at e
   rename_i x hx;(try simp only[hx]);rfl
   simp at e
   simp at e
def SS(w w':World)(Pb:Nat->Prop)(p:List Nat):Prop:= ∀ (v u u':V) (g o g' o':Nat) (F M8:List Nat) (Rx:List Value),At w Pb v g o F->(g::F).Nodup->(∀ x,x∈g::F->¬ Pb x)->V.at g o v p=some (g',o',u)->
    R w' Pb u' Rx M8->u'.n=u.n->M8.Nodup->(∀ x,x∈M8->x ∉ g::F)->A9 w w' g' o' Rx->(∀ x,Pb x->w'.heap[x]? =w.heap[x]?)->
    ∃ F1,At w' Pb (v.set p u') g o F1/\(g::F1).Nodup/\∀ x,x∈F1->x∈F\/x∈M8
theorem wG{w w':World} {Pb:Nat->Prop} {p:List Nat} (IH:SS w w' Pb p) {x u u':V} {g g' o':Nat} {M8:List Nat} {Rx:List Value} (hr:R w' Pb u' Rx M8) (hn:u'.n=u.n) (NG:M8.Nodup)
 (y8:A9 w w' g' o' Rx) (k1:∀ x,Pb x->w'.heap[x]? =w.heap[x]?):
 ∀ (vs:List V) (o:Nat) (F:List Nat) (j:Nat),TA w Pb vs g o F->(g::F).Nodup->(∀ x,x∈g::F->¬ Pb x)->(∀ x,x∈M8->x ∉ g::F)->vs[j]? =some x->V.at g (o+V.ns (vs.take j)) x p=some (g',o',u)->
   ∃ F1,TA w' Pb (vs.set j (x.set p u')) g o F1/\(g::F1).Nodup/\∀ y,y∈F1->y∈F\/y∈M8:=by
 have hcs':=ez u' hr
 intro vs
 induction vs with
 | nil=>intro o F j _ _ _ _ hx;simp at hx
 | cons v0 vs ih=>
   intro o F j h hnd hP u0 hx e
   rw[tJ]at h
   obtain⟨F1,F2,rfl,h1,h2⟩:=h
   have I7:=List.nodup_cons.1 hnd
   have QF:=List.nodup_append.1 I7.2
   have RG:g ∉ F1:=fun c=>I7.1 (by simp[c])
   have Wj:g ∉ F2:=fun c=>I7.1 (by simp[c])
   cases j with
   | zero=>
     simp at hx;subst hx
     simp only[List.take_zero,V.ns,Nat.add_zero]at e
     have TW:(g::F1).Nodup:=List.nodup_cons.2 ⟨RG,QF.1⟩
     obtain⟨YP,hA,hN,hI⟩:=IH _ _ _ _ _ _ _ _ _ _ h1 TW (fun x hx=>hP x (by simp at hx ⊢;rcases hx with h | h <;> simp[h])) e hr hn NG (fun x hx c=>u0 x hx (by simp at c ⊢;rcases c with h | h <;> simp[h])) y8 k1
     have Vo:=hZ p h1 e
     have hA2:TA w' Pb vs g (o+v0.n) F2:=by
      refine EI h2 k1 (fun x hx=>y8.Nk x ?_) (fun x hx=>hP x (by simp[hx])) (fun cells hb=>?_)
      rintro rfl
      rcases Vo with ⟨rfl,_⟩ | h
      exact Wj hx
      exact QF.2.2 _ h _ hx rfl
      rcases Vo with ⟨rfl,PM,L'⟩ | h
      obtain⟨n7,J',_,NJ,_⟩:=y8.N' cells hb
      exact⟨n7,J',fun j Wh _=>NJ j (.inr Z9)⟩
      have hne:g≠g':=fun c=>RG (by rw[c];exact h)
      obtain⟨e',fr,hb,hf⟩:=hb
      exact⟨cells,⟨e',fr,(y8.Nk g hne).trans hb,hf⟩,fun _ _ _=>rfl⟩
     refine⟨YP++F2,?_,?_,?_⟩
     simp only[List.set_cons_zero]
     rw[tJ]
     refine⟨YP,F2,rfl,hA,?_⟩
     rw[mL p e hn];exact hA2
     have Qa:=List.nodup_cons.1 hN
     refine List.nodup_cons.2 ⟨fun c=>?_,List.nodup_append.2 ⟨Qa.2,QF.2.1,fun x hx y hy c=>?_⟩⟩
     rcases Y1.1 c with c | c
     exact Qa.1 c
     exact Wj c
     subst c
     rcases hI x hx with h | h
     exact QF.2.2 _ h _ hy rfl
     exact u0 x h (by simp[hy])
     intro y hy
     rcases Y1.1 hy with h | h
     rcases hI y h with h | h
     left;simp[h]
     right;exact h
     left;simp[h]
   | succ j=>
     simp only[List.take_succ_cons,V.ns,<- Zn]at e
     have Nd:vs[j]? =some x:=by simpa using hx
     obtain⟨YO,hA,hN,hI⟩:=ih (o+v0.n) F2 j h2 (List.nodup_cons.2 ⟨Wj,QF.2.1⟩) (fun x hx=>hP x (by simp at hx ⊢;rcases hx with h | h <;> simp[h])) (fun x hx c=>u0 x hx (by simp at c ⊢;rcases c with h | h <;> simp[h])) Nd e
     have Vo:(g'=g/\o+v0.n<=o')\/g'∈F2:=by
      obtain⟨cs,cells,hb,L',Rt⟩:=h2
      obtain⟨c,F',E3,hF,J5⟩:=fR vs L' Nd
      rcases hZ p (v:=x) ⟨c,cells,hb,E3,fun i u hu=>by rw[Zn];exact Rt _ _ (J5 i u hu)⟩ e with ⟨h1,h2,h3⟩ | h1
      exact .inl ⟨h1,Z9⟩
      exact .inr (hF _ h1)
     have hA1:At w' Pb v0 g o F1:=by
      refine qf h1 k1 (fun x hx=>y8.Nk x ?_) (fun x hx=>hP x (by simp[hx])) (fun cells hb=>?_)
      rintro rfl
      rcases Vo with ⟨rfl,_⟩ | h
      exact RG hx
      exact QF.2.2 _ hx _ h rfl
      rcases Vo with ⟨rfl,PM⟩ | h
      obtain⟨n7,J',_,NJ,_⟩:=y8.N' cells hb
      exact⟨n7,J',fun j _ hj=>NJ j (.inl Z9)⟩
      have hne:g≠g':=fun c=>Wj (by rw[c];exact h)
      obtain⟨e',fr,hb,hf⟩:=hb
      exact⟨cells,⟨e',fr,(y8.Nk g hne).trans hb,hf⟩,fun _ _ _=>rfl⟩
     refine⟨F1++YO,?_,?_,?_⟩
     simp only[List.set_cons_succ]
     rw[tJ]
     exact⟨F1,YO,rfl,hA1,hA⟩
     have Qa:=List.nodup_cons.1 hN
     refine List.nodup_cons.2 ⟨fun c=>?_,List.nodup_append.2 ⟨QF.1,Qa.2,fun x hx y hy c=>?_⟩⟩
     rcases Y1.1 c with c | c
     exact RG c
     exact Qa.1 c
     subst c
     rcases hI x hy with h | h
     exact QF.2.2 _ hx _ h rfl
     exact u0 x h (by simp[hx])
     intro y hy
     rcases Y1.1 hy with h | h
     left;simp[h]
     rcases hI y h with h | h
     left;simp[h]
     right;exact h
theorem yB{w w':World}{Pb:Nat->Prop}:∀ p,SS w w' Pb p
 | []=>fun v u u' g o g' o' F M8 Rx h hnd hP e hr hn NG u0 y8 k1=>by
   simp only[V.at,YR,YU]at e
   obtain⟨rfl,rfl,rfl⟩:=e
   obtain⟨cs,cells,hb,_,_⟩:=h
   obtain⟨n7,J',_,_,J5⟩:=y8.N' cells hb
   exact⟨M8,⟨Rx,n7,J',hr,J5⟩,List.nodup_cons.2 ⟨fun hg=>u0 g hg Z8,NG⟩,fun x hx=>.inr hx⟩
 | j::p=>fun v u u' g o g' o' F M8 Rx h hnd hP e hr hn NG u0 y8 k1=>by
   have IH:SS w w' Pb p:=yB p
   simp only[V.at]at e
   simp only[V.set]
   split at e
   rename_i vs
   split at e
   rename_i x hx
   (try simp only[hx])
   rw[zR]at h
   obtain⟨F1,h1,h2,h3⟩:=wG IH hr hn NG y8 k1 vs o F j h hnd hP u0 hx e
   exact⟨F1,zR.2 h1,h2,h3⟩
   simp at e
   rename_i sz xs g1 o1 c1
   split at e
   rename_i x hx
   (try simp only[hx])
   obtain⟨cs,cells,hb,TO,hc⟩:=h
   rcases TO with ⟨_,rfl,_⟩ | ⟨PA,e9,Vz,hcs,ha,RG,flat,F',I9,rfl,NL,j7,hsz,Nz⟩
   simp at hx
   have I7:=List.nodup_cons.1 hnd
   have hj:j<=xs.length:=by have:=(Y7.1 hx).1;omega
   have e':V.at g1 (o1+V.ns (xs.take j)) x p=some (g',o',u):=by rw[dU xs j ha hj];exact e
   obtain⟨F1,⟨MK,M6,PQ,TN,T8⟩,hN,hI⟩:=wG IH hr hn NG y8 k1 xs o1 F' j ⟨flat,I9,j7,NL,Nz⟩ I7.2 (fun x hx=>hP x (by simp at hx ⊢;rcases hx with h | h <;> simp[h])) (fun x hx c=>u0 x hx (by simp at c ⊢;rcases c with h | h <;> simp[h])) hx e'
   have Pc:g'=g1\/g'∈F':=by
    obtain⟨c,F2,E3,hF,J5⟩:=fR xs NL hx
    rcases hZ p (v:=x) ⟨c,I9,j7,E3,fun i u hu=>by rw[Zn];exact Nz _ _ (J5 i u hu)⟩ e' with ⟨h1,_⟩ | h1
    exact .inl h1
    exact .inr (hF _ h1)
   have hne:g≠g':=by
    rintro rfl
    rcases Pc with h | h
    exact I7.1 (by simp[h])
    exact I7.1 (by simp[h])
   obtain⟨e1,fr,hbg,hfr⟩:=hb
   have Rb:M6.size=I9.size:=by
    by_cases Rl:g1=g'
    subst Rl
    obtain⟨c2,⟨e2,f2,l6,_⟩,K1,_⟩:=y8.N' I9 j7
    obtain⟨e3,f3,n6,_⟩:=PQ
    rw[l6]at n6
    simp only[YR,Obj.cells.injEq]at n6
    obtain⟨rfl,_,_⟩:=n6
    exact K1
    obtain⟨e2,f2,l6,_⟩:=j7
    obtain⟨e3,f3,n6,_⟩:=PQ
    rw[y8.Nk g1 Rl,l6]at n6
    simp only[YR,Obj.cells.injEq]at n6
    rw[n6.1]
   refine⟨g1::F1,⟨cs,cells,⟨e1,fr,(y8.Nk g hne).trans hbg,hfr⟩,.inr ⟨PA,e9,by simpa using Vz,by simpa using hcs,?_,RG,MK,F1,M6,rfl,TN,PQ,Z9,T8⟩,hc⟩,?_,?_⟩
   intro y hy
   rcases List.mem_or_eq_of_mem_set hy with h | h
   exact ha y h
   rw[h,mL p e' hn];exact ha x (Zb hx)
   refine List.nodup_cons.2 ⟨fun c=>?_,hN⟩
   rcases List.mem_cons.1 c with h | h
   exact I7.1 (by simp[h])
   rcases hI g h with h | h
   exact I7.1 (by simp[h])
   exact u0 g h Z8
   intro y hy
   rcases List.mem_cons.1 hy with h | h
   left;simp[h]
   rcases hI y h with h | h
   left;simp[h]
   right;exact h
   simp at e
   simp at e
end
section
variable {w w':World} {Pb Kb:Nat->Prop} {N:Nat} {A A':AS} {a:Act} {F:l8->List Nat} {P:Program}
mutual
theorem kH:∀ (v:V) {cs F},R w Pb v cs F->∀ c,c∈cs->c.oneCell'=true
 | .lit x,_,_,h=>by obtain⟨h1,rfl,_⟩:=h;simpa using h1
 | .agg vs,_,_,h=>by simp only[R]at h;exact qX vs h
 | .tup _,_,_,h=>by simp[R]at h
 | .gv _ _,_,_,h=>by simp[R]at h
 | .sl ..,_,_,h=>by obtain⟨_,A,c,rfl,_⟩:=h;simp[Value.oneCell']
 | .own ..,_,_,h=>by rcases h with ⟨_,_,_,A,rfl⟩ | ⟨_,_,_,rfl,_⟩ <;> simp[Value.oneCell']
 | .hd ..,_,_,h=>by obtain⟨_,_,A,rfl,_⟩:=h;simp[Value.oneCell']
 | .ow ..,_,_,h=>by obtain⟨g,o,c,h⟩:=h;rcases h with ⟨_,_,_,A,rfl⟩ | ⟨_,_,_,rfl,_⟩ <;> simp[Value.oneCell']
 | .om ..,_,_,h=>by obtain⟨_,rfl,_⟩:=h;simp[Value.oneCell']
 | .mp ..,_,_,h=>by obtain⟨_,g,rfl,_⟩:=h;simp[Value.oneCell']
 | .ptr ..,_,_,h=>by obtain⟨_,rfl⟩:=h;simp[Value.oneCell']
 | .ep _,_,_,h=>by obtain⟨_,b,o,flat,rfl,_⟩:=h;simp[Value.oneCell']
 | .a8,_,_,h=>by obtain⟨_,x,rfl,hx⟩:=h;simpa using hx
theorem qX:∀ (vs:List V) {cs F},RL w Pb vs cs F->∀ c,c∈cs->c.oneCell'=true
 | [],_,_,h=>by rw[h.1];simp
 | v::vs,_,_,h=>by
   obtain⟨c1,c2,F1,F2,rfl,_,h1,h2⟩:=h
   intro c hc
   rcases Y1.1 hc with h | h
   exact kH v h1 c h
   exact qX vs h2 c h
end
def V.isVal:V->Bool | .tup _=>false | .gv _ _=>false | .a8=>false | _=>true
theorem fZ{x:Value}(h:x.oneCell'=true):x.cells= #[x]:=by cases x <;> simp[Value.oneCell']at h <;> rfl
theorem za{v:V}{x:Value}{Fv:List Nat}(h:RV w Pb v x Fv)(hv:v.isVal=true):R w Pb v x.cells.toList Fv:=by
 cases v with
 | tup _=>simp[V.isVal]at hv
 | gv _ _=>simp[V.isVal]at hv
 | a8=>simp[V.isVal]at hv
 | agg us=>obtain⟨cs,rfl,h⟩:=h;simp only[R,Value.cells];exact h
 | own sz xs g o c=>have h:R w Pb (.own sz xs g o c) [x] Fv:=h;rw[fZ (kH _ h x Z8)];exact h
 | ow sz xs=>have h:R w Pb (.ow sz xs) [x] Fv:=h;rw[fZ (kH _ h x Z8)];exact h
 | om es g=>have h:R w Pb (.om es g) [x] Fv:=h;rw[fZ (kH _ h x Z8)];exact h
 | mp es=>have h:R w Pb (.mp es) [x] Fv:=h;rw[fZ (kH _ h x Z8)];exact h
 | lit y=>have h:R w Pb (.lit y) [x] Fv:=h;rw[fZ (kH _ h x Z8)];exact h
 | sl f xs=>have h:R w Pb (.sl f xs) [x] Fv:=h;rw[fZ (kH _ h x Z8)];exact h
 | hd r p sz g o lo n c=>have h:R w Pb (.hd r p sz g o lo n c) [x] Fv:=h;rw[fZ (kH _ h x Z8)];exact h
 | ptr r p g o=>have h:R w Pb (.ptr r p g o) [x] Fv:=h;rw[fZ (kH _ h x Z8)];exact h
 | ep v=>have h:R w Pb (.ep v) [x] Fv:=h;rw[fZ (kH _ h x Z8)];exact h
theorem A9.nil(w:World)(g o:Nat):A9 w w g o []:=
 ⟨rfl,rfl,rfl,rfl,fun _ _=>rfl,Shp.refl _,fun cells hb=>⟨cells,hb,rfl,fun _ _=>rfl,fun j u hu=>by simp at hu⟩⟩
theorem A9.cons{w1 w2:World}{g o:Nat}{v:Value}{vs:List Value}(h1:A9 w w1 g o [v])(h2:A9 w1 w2 g (o+1) vs):A9 w w2 g o (v::vs):=by
 refine⟨h2.os.trans h1.os,h2.tape.trans h1.tape,h2.output.trans h1.output,h2.size.trans h1.size,fun k hk=>(h2.Nk k hk).trans (h1.Nk k hk),h1.shape.trans h2.shape,fun cells hb=>?_⟩
 obtain⟨c1,j7,Nw,VI,TX⟩:=h1.N' cells hb
 obtain⟨c2,l6,K1,Pf,Uy⟩:=h2.N' c1 j7
 refine⟨c2,l6,K1.trans Nw,fun j hj=>?_,fun j u hu=>?_⟩
 simp only[YV]at hj
 rw[Pf j Z9,VI j Z0]
 cases j with
 | zero=>
   simp at hu;subst hu
   rw[Pf _ Z9];exact TX 0 v rfl
 | succ j=>
   have:=Uy j u (by simpa using hu)
   rw[<- this];congr 1;omega
theorem gM{g o:Nat}:∀ (vs:List Value) (i:Nat) (w:World) (cells:Array Value),Blk w g cells->o+i+vs.length<=cells.size->(∀ v,v∈vs->v.oneCell'=true)->
 ∃ w',(storeCells ⟨g,o,none⟩ vs i).run P w=.ok () w'/\A9 w w' g (o+i) vs
 | [],i,w,cells,_,_,_=>⟨w,rfl,A9.nil w g _⟩
 | v::vs,i,w,cells,hb,hl,h1=>by
   obtain⟨e,fr,RM,hfr⟩:=hb
   simp only[YV]at hl
   have hlt:o+i<cells.size:=Z9
   have hc:w.cell? ⟨g,o+i,none⟩=some cells[o+i]:=by simp[World.cell?,RM,hlt]
   have hf:w.frozen? ⟨g,o+i,none⟩=false:=by
    have:=hfr (o+i) Z9
    simp only[World.frozen?,RM,Bool.and_eq_false_iff,decide_eq_false_iff_not]
    by_cases h:fr.1<=o+i
    right;exact fun c=>this ⟨h,c⟩
    left;exact h
   have y8:A9 w (w.setCell ⟨g,o+i,none⟩ v) g (o+i) [v]:=by
    refine⟨rfl,rfl,rfl,by simp[World.setCell],fun k hk=>Below.heap_setCell _ _ _ _ hk,fun k c e2 fr2 hk=>?_,fun n7 J'=>?_⟩
    by_cases Yq:k=g
    subst Yq
    exact⟨c.setIfInBounds (o+i) v,by simp[World.setCell,Array.getElem?_modify,hk],Z8⟩
    exact⟨c,(Below.heap_setCell _ _ _ _ Yq).trans hk,rfl⟩
    obtain⟨e',Wr,J',Xu⟩:=J'
    refine⟨n7.setIfInBounds (o+i) v,⟨e',Wr,?_,by simpa using Xu⟩,Z8,fun j hj=>?_,fun j u hu=>?_⟩
    simp[World.setCell,Array.getElem?_modify,J']
    rw[Array.getElem?_setIfInBounds_ne];simp at hj;omega
    cases j with
    | zero=>
      simp at hu;subst hu
      rw[RM]at J'
      simp only[YR,Obj.cells.injEq]at J'
      obtain⟨rfl,_,_⟩:=J'
      simp[hlt]
    | succ j=>simp at hu
   have j7:Blk (w.setCell ⟨g,o+i,none⟩ v) g (cells.setIfInBounds (o+i) v):=
    ⟨e,fr,by simp[World.setCell,Array.getElem?_modify,RM],by simpa using hfr⟩
   obtain⟨w',hr,K8⟩:=gM (g:=g) (o:=o) vs (i+1) _ _ j7 (by rw[Array.size_setIfInBounds];omega) (fun u hu=>h1 u (by simp[hu]))
   refine⟨w',?_,y8.cons (by rw[Zn];exact K8)⟩
   simp only[storeCells,Y4,dQ,run_store P w _ v .plain (h1 v Z8),hc,hf,Bool.false_eq_true,if_false,YW]
   exact hr
theorem Im{p:List Nat} {x u u':V} {sz j g1 o1 c1 g' o':Nat} {xs:List V} {cs Rx:List Value} {F1 M8:List Nat} (TO:R w Pb (.own sz xs g1 o1 c1) cs F1) (hnd:F1.Nodup) (hP:∀ x,x∈F1->¬ Pb x)
 (hx:xs[j]? =some x) (e:V.at g1 (o1+j*sz) x p=some (g',o',u)) (hr:R w' Pb u' Rx M8) (hn:u'.n=u.n) (NG:M8.Nodup) (u0:∀ x,x∈M8->x ∉ F1) (y8:A9 w w' g' o' Rx)
 (k1:∀ x,Pb x->w'.heap[x]? =w.heap[x]?):∃ F2,R w' Pb (.own sz (xs.set j (x.set p u')) g1 o1 c1) cs F2/\F2.Nodup/\(∀ y,y∈F2->y∈F1\/y∈M8)/\g'∈F1:=by
 rcases TO with ⟨_,rfl,_⟩ | ⟨PA,e9,Vz,hcs,ha,RG,flat,F',I9,rfl,NL,j7,hsz,Nz⟩
 simp at hx
 have hj:j<=xs.length:=by have:=(Y7.1 hx).1;omega
 have e':V.at g1 (o1+V.ns (xs.take j)) x p=some (g',o',u):=by rw[dU xs j ha hj];exact e
 obtain⟨F2,⟨MK,M6,PQ,TN,T8⟩,hN,hI⟩:=wG (yB p) hr hn NG y8 k1 xs o1 F' j ⟨flat,I9,j7,NL,Nz⟩ hnd hP u0 hx e'
 have Pc:g'=g1\/g'∈F':=by
  obtain⟨c,F2,E3,hF,J5⟩:=fR xs NL hx
  rcases hZ p (v:=x) ⟨c,I9,j7,E3,fun i u hu=>by rw[Zn];exact Nz _ _ (J5 i u hu)⟩ e' with ⟨h1,_⟩ | h1
  exact .inl h1
  exact .inr (hF _ h1)
 have Rb:M6.size=I9.size:=by
  by_cases Rl:g1=g'
  subst Rl
  obtain⟨c2,⟨e2,f2,l6,_⟩,K1,_⟩:=y8.N' I9 j7
  obtain⟨e3,f3,n6,_⟩:=PQ
  rw[l6]at n6
  simp only[YR,Obj.cells.injEq]at n6
  obtain⟨rfl,_,_⟩:=n6
  exact K1
  obtain⟨e2,f2,l6,_⟩:=j7
  obtain⟨e3,f3,n6,_⟩:=PQ
  rw[y8.Nk g1 Rl,l6]at n6
  simp only[YR,Obj.cells.injEq]at n6
  rw[n6.1]
 refine⟨g1::F2,.inr ⟨PA,e9,by simpa using Vz,by simpa using hcs,?_,RG,MK,F2,M6,rfl,TN,PQ,Z9,T8⟩,hN,?_,?_⟩
 intro y hy
 rcases List.mem_or_eq_of_mem_set hy with h | h
 exact ha y h
 rw[h,mL p e' hn];exact ha x (Zb hx)
 intro y hy
 rcases List.mem_cons.1 hy with h | h
 left;simp[h]
 rcases hI y h with h | h
 left;simp[h]
 right;exact h
 rcases Pc with h | h <;> simp[h]
def AS.setAt(A:AS)(r:l8)(p:List Nat)(v:V):AS:=
 match r with
 | .key k=>match lk k A.h with
   | some (g,t)=>{ A with h:=(k,(g,t.set p v))::A.h }
   | none=>A
 | .slot i=>{ A with t:=(i,(A.get i).set p v)::A.t }
theorem s4.store(hs:s4 N Pb Kb A a w F) {r:l8} {p:List Nat} {g o:Nat} {RT v:V} {cs:List Value} {Fv:List Nat} (x9:A.at r p=some (g,o,RT)) (hr:R w Pb v cs Fv) (hn:v.n=RT.n)
 (hnd:Fv.Nodup) (u0:∀ r g,g∈Fv->g ∉ F r) (hfr:∀ g,g∈Fv->¬ Kb g/\g<w.heap.size) (y8:A9 w w' g o cs):∃ F',s4 N Pb Kb (A.setAt r p v) a w' F'/\¬ Kb g:=by
 have UE:∀ r g,g∈F r->¬ Pb g:=fun r g hg c=>(hs.free r g hg).1 (hs.sub g c)
 have main:∃ Fr,g∈F r/\(∀ x,Pb x->w'.heap[x]? =w.heap[x]?)/\Fr.Nodup/\(∀ y,y∈Fr->y∈F r\/y∈Fv)/\
  (match r with
   | .key k=> ∀ g0 t,lk k A.h=some (g0,t)->∃ F',Fr=g0::F'/\At w' Pb (t.set p v) g0 0 F'
   | .slot i=>RV w' Pb ((A.get i).set p v) (a.tmps.getD i undef) Fr):=by
  have kk:∀ r,g∈F r->∀ x,Pb x->w'.heap[x]? =w.heap[x]? :=fun r hg x hx=>y8.Nk x (by rintro rfl;exact UE r _ hg hx)
  have E3:∀ r,g∈F r->R w' Pb v cs Fv:=fun r hg=>fX v hr (kk r hg) (fun x hx=>y8.Nk x (by rintro rfl;exact u0 r _ hx hg)) (fun _ h=>h) (fun x hx c=>(hfr x hx).1 (hs.sub x c))
  cases r with
  | key k=>
    simp only[AS.at]at x9
    split at x9
    case h_2=>simp at x9
    rename_i g0 t hk
    obtain⟨F',e,hA⟩:=hs.root k g0 t hk
    have P':g∈F (.key k):=by
     rw[e]
     rcases hZ p hA x9 with ⟨rfl,_⟩ | h
     simp
     simp[h]
    have Vw:=hs.nodup (.key k)
    rw[e]at Vw
    obtain⟨F1,h1,h2,h3⟩:=yB (w:=w) (w':=w') p _ _ _ _ _ _ _ _ _ _ hA Vw (fun x hx=>UE (.key k) x (by rw[e];exact hx)) x9 (E3 _ P') hn hnd (fun x hx c=>u0 (.key k) x hx (by rw[e];exact c)) y8 (kk _ P')
    refine⟨g0::F1,P',kk _ P',h2,fun y hy=>?_,fun g0' t' G7=>?_⟩
    rw[e]
    rcases List.mem_cons.1 hy with h | h
    left;simp[h]
    rcases h3 y h with h | h
    left;simp[h]
    exact .inr h
    rw[hk]at G7
    simp only[YR,YU]at G7
    obtain⟨rfl,rfl⟩:=G7
    exact⟨F1,rfl,h1⟩
  | slot i=>
    simp only[AS.at]at x9
    split at x9
    case h_2=>simp at x9
    rename_i sz xs g1 o1 c1 j p hi
    have hrv:=hs.slot i
    rw[hi]at hrv
    simp only[V.at]at x9
    split at x9
    case h_2=>simp at x9
    rename_i x hx
    have P':g∈F (.slot i):=by
     rcases hrv with ⟨_,rfl,_⟩ | ⟨_,_,_,_,ha,_,flat,F',n7,hF,NL,J',_,J5⟩
     simp at hx
     obtain⟨c,M8,E3,N6,N1⟩:=fR xs NL hx
     have hj:j<=xs.length:=by have:=(Y7.1 hx).1;omega
     rw[dU xs j ha hj]at N1
     rw[hF]
     rcases hZ p (v:=x) ⟨c,n7,J',E3,fun i u hu=>by rw[Zn];exact J5 _ _ (N1 i u hu)⟩ x9 with ⟨rfl,_⟩ | h
     simp
     simp[N6 _ h]
    obtain⟨F2,h1,h2,h3,_⟩:=Im (w:=w) (w':=w') hrv (hs.nodup _) (UE _) hx x9 (E3 _ P') hn hnd (u0 _) y8 (kk _ P')
    refine⟨F2,P',kk _ P',h2,h3,?_⟩
    simp only[hi,V.set,hx]
    exact h1
 obtain⟨Fr,P',kk,Ow,T3,hm⟩:=main
 have Rm:∀ y,y∈Fr->¬ Kb y/\y<w.heap.size:=fun y hy=>by
  rcases T3 y hy with h | h
  exact hs.free r y h
  exact hfr y h
 have NJ:∀ r' x,r'≠r->x∈F r'->w'.heap[x]? =w.heap[x]? :=fun r' x hne hx=>y8.Nk x (by rintro rfl;exact hs.cd r' r hne _ hx P')
 refine⟨cf F r Fr,⟨?_,?_,fun i=>?_,fun k g0 t hk=>?_,fun r1 r2 hne y hy=>?_,fun r1=>?_,fun r1 y hy=>?_,hs.sub,fun y hy=>by rw[y8.size];exact hs.bound y hy⟩,(hs.free r g P').1⟩
 exact hs.size
 exact hs.defers
 by_cases R2:r=.slot i
 subst R2
 simp only[cf,if_true,AS.setAt,AS.get,lk,Option.getD_some]
 exact hm
 simp only[cf,if_neg (Ne.symm R2)]
 have:(A.setAt r p v).get i=A.get i:=by
  cases r with
  | key k=>simp only[AS.setAt];split <;> rfl
  | slot j=>simp only[AS.setAt,AS.get,lk];rw[if_neg (fun c=>R2 (by rw[c]))]
 rw[this]
 exact mH _ (hs.slot i) kk (fun x hx=>NJ _ x (Ne.symm R2) hx) (fun _ h=>h) (fun x hx=>UE _ x hx)
 by_cases R1:r=.key k
 subst R1
 simp only[AS.setAt]at hk
 have Qm:∃ g1 t1,lk k A.h=some (g1,t1):=by
  simp only[AS.at]at x9
  split at x9
  rename_i g1 t1 h;exact⟨g1,t1,h⟩
  simp at x9
 obtain⟨g1,t1,Qm⟩:=Qm
 rw[Qm]at hk
 simp only[lk,if_true,YR,YU]at hk
 obtain⟨rfl,rfl⟩:=hk
 obtain⟨F',e,hA⟩:=hm _ _ Qm
 exact⟨F',by simp[cf,e],hA⟩
 have G7:lk k A.h=some (g0,t):=by
  cases r with
  | slot j=>exact hk
  | key k'=>
    simp only[AS.setAt]at hk
    split at hk
    simp only[lk]at hk;rwa [if_neg (fun c=>R1 (by rw[c]))]at hk
    exact hk
 obtain⟨F',e,hA⟩:=hs.root k g0 t G7
 refine⟨F',by simp only[cf,if_neg (Ne.symm R1)];exact e,qf hA kk (fun x hx=>NJ (.key k) x (Ne.symm R1) (by rw[e];simp[hx])) (fun x hx=>UE (.key k) x (by rw[e];simp[hx])) (fun cells hb=>?_)⟩
 obtain⟨e',fr,hb,hf⟩:=hb
 exact⟨cells,⟨e',fr,(NJ (.key k) g0 (Ne.symm R1) (by rw[e];simp)).trans hb,hf⟩,fun _ _ _=>rfl⟩
 simp only[cf]at hy ⊢
 split at hy
 rename_i h1
 rw[if_neg (fun c=>hne (h1.trans c.symm))]
 subst h1
 rcases T3 y hy with h | h
 exact hs.cd _ _ hne y h
 exact u0 r2 y h
 rename_i h1
 split
 rename_i h2
 subst h2
 intro c
 rcases T3 y c with h | h
 exact hs.cd _ _ hne y hy h
 exact u0 r1 y h hy
 exact hs.cd r1 r2 hne y hy
 simp only[cf];split
 exact Ow
 exact hs.nodup r1
 simp only[cf]at hy
 rw[y8.size]
 split at hy
 exact Rm y hy
 exact hs.free r1 y hy
end
mutual
def V.flat:V->Option (List Value)
 | .lit x=>if x.oneCell' then some [x] else none
 | .sl true []=>some [.slice none 0 0]
 | .agg vs=>V.uM vs
 | _=>none
def V.uM:List V->Option (List Value)
 | []=>some []
 | v::vs=>match v.flat,V.uM vs with
   | some a,some b=>some (a++b)
   | _,_=>none
end
def mX(P:Program)(T:Nat)(v:V):Prop:= ∃ inf z,P.info? T=some inf/\inf.zero=some z/\v.flat=some z.cells.toList
section
variable {w w':World} {Pb Kb:Nat->Prop} {N:Nat} {A A':AS} {a:Act} {F:l8->List Nat} {P:Program}
mutual
theorem qH:∀ (v:V) {cs},v.flat=some cs->R w Pb v cs []
 | .lit x,cs,h=>by
   simp only[V.flat]at h
   split at h
   rename_i hx;simp at h;subst h;exact⟨hx,rfl,rfl⟩
   simp at h
 | .sl true [],cs,h=>by simp[V.flat]at h;subst h;exact⟨rfl,none,0,rfl,Zg _,fun _=>rfl,.inl rfl⟩
 | .sl true (x::xs),cs,h=>by simp[V.flat]at h
 | .sl false xs,cs,h=>by simp[V.flat]at h
 | .agg vs,cs,h=>by simp only[V.flat]at h;simp only[R];exact AX vs h
 | .tup _,_,h=>by simp[V.flat]at h
 | .gv _ _,_,h=>by simp[V.flat]at h
 | .own ..,_,h=>by simp[V.flat]at h
 | .hd ..,_,h=>by simp[V.flat]at h
 | .ow ..,_,h=>by simp[V.flat]at h
 | .om ..,_,h=>by simp[V.flat]at h
 | .mp ..,_,h=>by simp[V.flat]at h
 | .ptr ..,_,h=>by simp[V.flat]at h
 | .ep _,_,h=>by simp[V.flat]at h
 | .a8,_,h=>by simp[V.flat]at h
theorem AX:∀ (vs:List V) {cs},V.uM vs=some cs->RL w Pb vs cs []
 | [],cs,h=>by simp[V.uM]at h;subst h;exact⟨rfl,rfl⟩
 | v::vs,cs,h=>by
   simp only[V.uM]at h
   split at h
   rename_i a b h1 h2
   simp at h;subst h
   exact⟨a,b,[],[],rfl,rfl,qH v h1,AX vs h2⟩
   simp at h
end
theorem alloc_old(w:World)(o:Obj)(k:Nat)(h:k<w.heap.size):(w.alloc o).heap[k]? =w.heap[k]? :=Below.heap_alloc w o k h
theorem dz(w:World)(o:Obj):(w.alloc o).heap.size=w.heap.size+1:=Z8
theorem fS(w:World)(o:Obj):(w.alloc o).heap[w.heap.size]? =some o:=heap_alloc_new w o
theorem s4.nT(hs:s4 N Pb Kb A a w F)(o:Obj):s4 N Pb Kb A a (w.alloc o) F:=
 hs.grow (fun k hk=>alloc_old w o k hk) (by rw[dz];omega) (fun _ h=>h) (fun g hg=>.inl hg) hs.sub
theorem s4.LX(hs:s4 N Pb Kb A a w F)(o:Obj):s4 N (fun g=>Pb g\/g=w.heap.size) (fun g=>Kb g\/g=w.heap.size) A a (w.alloc o) F:=
 hs.grow (fun k hk=>alloc_old w o k hk) (by rw[dz];omega) (fun _ h=>.inl h) (fun g hg=>hg.imp id fun h=>by rw[dz];omega) (fun g hg=>hg.imp (hs.sub g) id)
theorem s4.Bu(hs:s4 N Pb Kb A a w F){k g:Nat}{v:V}{Fv:List Nat}(hA:At w Pb v g 0 Fv)(hnd:(g::Fv).Nodup)(u0:∀ r x,x∈g::Fv->x ∉ F r)(hfr:∀ x,x∈g::Fv->¬ Kb x/\x<w.heap.size):
 s4 N Pb Kb { A with h:=(k,(g,v))::A.h } a w (cf F (.key k) (g::Fv)) where
 size:=hs.size
 defers:=hs.defers
 slot:=fun i=>by simp only[cf,reduceCtorEq,if_false];exact hs.slot i
 root:=fun k' g' v' hk=>by
  simp only[lk]at hk
  by_cases e:k'=k
  subst e
  simp only[if_true,YR,YU]at hk
  obtain⟨rfl,rfl⟩:=hk
  exact⟨Fv,by simp[cf],hA⟩
  rw[if_neg e]at hk
  obtain⟨F',e',VT⟩:=hs.root k' g' v' hk
  exact⟨F',by simp only[cf];rw[if_neg (fun c=>e (by injection c))];exact e',VT⟩
 cd:=fun r r' hne x hx=>by
  simp only[cf]at hx ⊢
  split at hx
  rename_i h1;rw[if_neg (fun c=>hne (h1.trans c.symm))];exact u0 r' x hx
  split
  exact fun c=>u0 r x c hx
  exact hs.cd r r' hne x hx
 nodup:=fun r=>by
  simp only[cf];split
  exact hnd
  exact hs.nodup r
 free:=fun r x hx=>by
  simp only[cf]at hx
  split at hx
  exact hfr x hx
  exact hs.free r x hx
 sub:=hs.sub
 bound:=hs.bound
theorem x7.alloc(hK:∀ g,Kb g->g<w.heap.size)(o:Obj):x7 Kb w (w.alloc o):=
 ⟨rfl,rfl,rfl,by rw[dz];omega,fun g hg=>alloc_old w o g (hK g hg),Shp.of_eq fun g hg=>alloc_old w o g hg⟩
theorem s4.Jm(hs:s4 N Pb Kb A a w F){d:Nat}(hd:d<N){v:V}{cs:Array Value}{e:TypeId}(hr:R w Pb v cs.toList []):
 ∃ F',s4 N Pb Kb ⟨(A.put (some d) (.ptr (.key d) [] w.heap.size 0)).t,(d,(w.heap.size,v))::A.h⟩ (a.put (some d) (.pointer (some ⟨w.heap.size,0,none⟩))) (w.alloc (.cells cs e)) F':=by
 have h1:=hs.nT (.cells cs e)
 have h2:=h1.put (d:=d) (v:=.ptr (.key d) [] w.heap.size 0) (x:=.pointer (some ⟨w.heap.size,0,none⟩)) (F':=[]) hd ⟨rfl,rfl⟩ Z8 Z8 Z8
 have hA:At (w.alloc (.cells cs e)) Pb v w.heap.size 0 []:=
  ⟨cs.toList,cs,⟨e,(0,0),fS w _,fun i _ h=>by omega⟩,fX v hr (fun g hg=>alloc_old w _ g (hs.bound g (hs.sub g hg))) Z8 (fun _ h=>h) Z8,fun j u hu=>by simpa using hu⟩
 refine⟨_,h2.Bu (k:=d) hA Z8 (fun r x hx c=>?_) (fun x hx=>?_)⟩
 simp at hx;subst hx
 simp only[cf]at c
 split at c
 simp at c
 have:=(hs.free r _ c).2;omega
 simp at hx;subst hx
 refine⟨fun c=>?_,by rw[dz];omega⟩
 have:=hs.bound _ c;omega
theorem sH{o:Oper} {K:AS->Prop} {d:Nat} {v:V} (hd:o.dst=some d) (hN:d<N)
 (A3:∀ Pb Kb a w F,s4 N Pb Kb A a w F->∃ cs e,(execOp a.eval o).run P w=.ok (.value (.pointer (some ⟨w.heap.size,0,none⟩))) (w.alloc (.cells cs e))/\R w Pb v cs.toList [])
 (hK:∀ g,K ⟨(A.put (some d) (.ptr (.key d) [] g 0)).t,(d,(g,v))::A.h⟩):E2 P N o A K:=by
 intro Pb Kb a w F Q hs
 obtain⟨cs,e,hx,hr⟩:=A3 Pb Kb a w F hs
 unfold Oper.wp
 rw[hx,Oper.upon_value,hd]
 obtain⟨F',y9⟩:=hs.Jm hN (e:=e) hr
 exact⟨_,Pb,Kb,F',hK _,y9,fun _ h=>h,fun _ h=>h,fun _ h=>.inl h,x7.alloc hs.bound _⟩
theorem jn(e:TypeId)(cs:Array Value):(newRow e cs).run P w=.ok ⟨w.heap.size,0,none⟩ (w.alloc (.cells cs e)):=rfl
theorem qM{o:Oper} {K:AS->Prop} {d T:Nat} {v:V} (ho:o.op=.alloc T) (hd:o.dst=some d) (hN:d<N) (hz:mX P T v)
 (hK:∀ g,K ⟨(A.put (some d) (.ptr (.key d) [] g 0)).t,(d,(g,v))::A.h⟩):E2 P N o A K:=by
 refine sH hd hN (fun Pb Kb a w F hs=>?_) hK
 obtain⟨inf,z,h1,h2,h3⟩:=hz
 refine⟨z.cells,T,?_,qH v h3⟩
 simp[execOp,ho,Instr.alloc,zeroValue,typeInfo,h1,h2,newVar,jn]
theorem Ie{o:Oper} {K:AS->Prop} {d T:Nat} {x:Operand} (ho:o.op=.box T x) (hd:o.dst=some d) (hN:d<N) (hv:(A.cp x).isVal=true)
 (hK:∀ g,K ⟨(A.put (some d) (.ptr (.key d) [] g 0)).t,(d,(g,A.cp x))::A.h⟩):E2 P N o A K:=by
 refine sH hd hN (fun Pb Kb a w F hs=>?_) hK
 exact⟨(a.eval x).cells,T,by simp[execOp,ho,Instr.box,newVar,jn],za (pW hs x) hv⟩
theorem wY{o:Oper} {K:AS->Prop} {T:Nat} {x y:Operand} {r:l8} {p:List Nat} {g g':Nat} {i:TI} {RT:V} (ho:o.op=.store T x y) (hd:o.dst=none) (hi:ti P T=some i)
 (hx:A.ev x=.ptr r p g g') (x9:(A.drop y).at r p=some (g,g',RT)) (hv:(A.ev y).isVal=true) (hn:(A.ev y).n=RT.n) (P7:(A.ev y).n=i.sz) (hK:K ((A.drop y).setAt r p (A.ev y))):E2 P N o A K:=by
 intro Pb Kb a w F Q hs
 obtain⟨Fx,F',hr,y9,hnd,u0,hfr,_⟩:=hs.take y
 obtain⟨_,S0⟩:=dH hs x
 rw[hx]at S0
 have hp:a.eval x=.pointer (some ⟨g,g',none⟩):=by have:=S0.2;simpa using this
 have hR:=za hr hv
 obtain⟨_,YK,cells,hb,TO,PA⟩:=iX y9 x9
 have Uz:=ez _ TO
 have hl:=ez _ hR
 have hle:g'+(a.eval y).cells.toList.length<=cells.size\/(a.eval y).cells.toList=[]:=by
  by_cases hne:YK=[]
  right;exact Y9 (by rw[hl,hn,<- Uz,hne];rfl)
  left;have:=xB PA hne;omega
 have y8:∃ w',(storeCells ⟨g,g',none⟩ (a.eval y).cells.toList 0).run P w=.ok () w'/\A9 w w' g g' (a.eval y).cells.toList:=by
  rcases hle with h | h
  obtain⟨w',h1,h2⟩:=gM (P:=P) (g:=g) (o:=g') (a.eval y).cells.toList 0 w cells hb Z9 (kH _ hR)
  exact⟨w',h1,h2⟩
  rw[h];exact⟨w,rfl,A9.nil w g g'⟩
 obtain⟨w',A3,y8⟩:=y8
 have hx:(execOp a.eval o).run P w=.ok .skip w':=by
  have hsz:(a.eval y).cells.size=i.sz:=by rw[<- P7,<- hl];simp
  simp only[execOp,ho,Instr.storeAt,hp,Instr.sureAddr,Y4,Y5,YW,storeVar,cQ hi,hsz,ne_eq,not_true_eq_false,if_false,A3]
 unfold Oper.wp
 rw[hx,Oper.upon_skip,hd]
 obtain⟨F2,K1,hg⟩:=y9.store x9 hR hn hnd u0 hfr y8
 exact⟨_,Pb,Kb,F2,hK,K1,fun _ h=>h,fun _ h=>h,fun _ h=>.inl h,⟨y8.os,y8.tape,y8.output,by rw[y8.size];omega,fun k hk=>y8.Nk k (fun c=>hg (c ▸ hk)),y8.shape⟩⟩
def eP(A:AS)(k:Nat):List (Nat×Operand)->Option (List V)
 | []=>some []
 | (i,x)::r=>if i=k then match eP A (k+1) r with | some vs=>some (A.cp x::vs) | none=>none else none
theorem ny(hs:s4 N Pb Kb A a w F){s:Nat}:∀ (b9:List (Nat×Operand)) (k:Nat) {vs:List V},eP A k b9=some vs->(∀ v,v∈vs->v.isVal=true/\v.n=s)->
 ∃ xs:List Value,(b9.map fun (i,x)=>(i,a.eval x))=(xs.zipIdx k).map (fun x=>(x.2,x.1))/\(∀ x,x∈xs->x.cells.size=s)/\RL w Pb vs (xs.flatMap fun v=>v.cells.toList) []/\xs.length=vs.length
 | [],k,vs,h,_=>by simp[eP]at h;subst h;exact⟨[],rfl,Z8,⟨rfl,rfl⟩,rfl⟩
 | (i,x)::r,k,vs,h,hv=>by
   simp only[eP]at h
   split at h
   case isFalse=>simp at h
   rename_i e
   subst e
   split at h
   case h_2=>simp at h
   rename_i VY hr
   simp at h;subst h
   obtain⟨xs,h1,h2,h3,h4⟩:=ny hs r (i+1) hr (fun v R0=>hv v (by simp[R0]))
   have hR:=za (pW hs x) (hv (A.cp x) Z8).1
   have hl:=ez _ hR
   refine⟨a.eval x::xs,by simp[h1],?_,⟨_,_,[],[],Z8,rfl,hR,h3⟩,by simp[h4]⟩
   intro y hy
   rcases List.mem_cons.1 hy with rfl | h
   rw[<- (hv (A.cp x) Z8).2,<- hl];simp
   exact h2 y h
theorem vK{o:Oper} {K:AS->Prop} {T e len:Nat} {b9:Array (Nat×Operand)} {i:TI} {vs:List V} (ho:o.op=.buildSlice T len b9) (hd:cF N o.dst) (hT:tD P T=some (.sl e)) (hi:ti P e=some i)
 (hz:∃ inf z,P.info? e=some inf/\inf.zero=some z) (Q8:eP A 0 b9.toList=some vs) (hlen:vs.length=len) (PI:len*i.sz<=16777216) (I0:0<i.sz) (hv:∀ v,v∈vs->v.isVal=true/\v.n=i.sz)
 (hK:K (A.put o.dst (.sl true vs))):E2 P N o A K:=by
 intro Pb Kb a w F Q hs
 obtain⟨inf,z,L5,hzero⟩:=hz
 obtain⟨xs,h1,h2,h3,h4⟩:=ny hs b9.toList 0 Q8 hv
 have hu:=iy hT
 obtain⟨RX,_,G9,_,hsz,_,_⟩:=jd hi
 rw[L5]at G9
 obtain rfl:=Option.some.inj G9
 by_cases h0:len=0
 have WZ:vs=[]:=Y9 Z9
 subst WZ
 subst h0
 have Xb:b9.toList=[]:=by
  cases Rh:b9.toList with
  | nil=>rfl
  | cons p ps=>rw[Rh]at h1;rw[Y9 h4]at h1;simp at h1
 have hp:b9= #[]:=by rw[<- Array.toArray_toList (xs:=b9),Xb]
 subst hp
 have hx:(execOp a.eval o).run P w=.ok (.value (.slice (some ⟨w.heap.size,0,none⟩) 0 0)) (w.alloc (.cells #[] e)):=by
  simp[execOp,ho,Instr.buildSlice,aF hu,cQ hi,Instr.fill,jn]
  congr 2;apply Array.ext';simp
 unfold Oper.wp
 rw[hx,Oper.upon_value]
 obtain⟨F',y9⟩:=(hs.nT (.cells #[] e)).pR (d:=o.dst) (v:=.sl true []) (x:=.slice (some ⟨w.heap.size,0,none⟩) 0 0) hd ⟨rfl,_,0,rfl,Zg _,fun _=>rfl,.inl rfl⟩
 exact⟨_,Pb,Kb,F',hK,y9,fun _ h=>h,fun _ h=>h,fun _ h=>.inl h,x7.alloc hs.bound _⟩
 have hfl:=Great.fill_whole I0 xs ((Array.range (len*i.sz)).map (z.cells[· % z.cells.size]!)) h2 (by simp[h4,hlen])
 have hmul: ¬ len*inf.size=0:=by rw[hsz];exact Nat.mul_ne_zero h0 Z9
 have hb:=run_buildSlice (P:=P) w T e len (b9.map fun (i,x)=>(i,a.eval x)) _ inf z hu L5 hzero (by rw[hsz];omega) hmul (by rw[Array.toList_map,h1,hsz];exact hfl)
 have hx:(execOp a.eval o).run P w=.ok (.value (.slice (some ⟨w.heap.size,0,none⟩) len len)) (w.alloc (.cells (xs.flatMap fun v=>v.cells.toList).toArray e)):=by
  simp only[execOp,ho,Y4,hb,YW,Y5]
 unfold Oper.wp
 rw[hx,Oper.upon_value]
 have Nw:=hs.LX (.cells (xs.flatMap fun v=>v.cells.toList).toArray e)
 have NL:=eh (w':=w.alloc (.cells (xs.flatMap fun v=>v.cells.toList).toArray e)) (Pb':=fun g=>Pb g\/g=w.heap.size) vs h3 (fun g hg=>alloc_old w _ g (hs.bound g (hs.sub g hg))) Z8 (fun g hg=>.inl hg) Z8
 obtain⟨F',y9⟩:=Nw.pR (d:=o.dst) (v:=.sl true vs) (x:=.slice (some ⟨w.heap.size,0,none⟩) len len) hd ⟨rfl,some ⟨w.heap.size,0,none⟩,len,by rw[hlen],Z9,fun _=>hlen.symm,
  .inr ⟨w.heap.size,0,i.sz,_,rfl,.inr rfl,I0,fun v R0=>(hv v R0).2,NL,fun j u hu=>by
   rw[dX (cells:=(xs.flatMap fun v=>v.cells.toList).toArray) ⟨e,(0,0),fS w _,fun i _ h=>by omega⟩];simpa using hu⟩⟩
 exact⟨_,_,_,F',hK,y9,fun _ h=>.inl h,fun _ h=>.inl h,fun g hg=>by
  rcases hg with h | h
  exact .inl h
  right;intro c;have:=hs.bound g c;omega,x7.alloc hs.bound _⟩
end
section
variable {w w':World} {Pb Kb:Nat->Prop} {N:Nat} {A A':AS} {a:Act} {F:l8->List Nat} {P:Program}
def mI(P:Program):List (Nat×Nat)->Option (List (Nat×Nat))
 | []=>some []
 | (off,T)::r=>match ti P T,mI P r with
   | some i,some ps=>some ((off,i.sz)::ps)
   | _,_=>none
def qq(places:List (Nat×Nat)):List V->List (Nat×V)->Option (Prop×List V)
 | zs,[]=>some (True,zs)
 | zs,(i,v)::r=>match places[i]?,zs[i]? with
   | some (off,sz),some z=>match qq places (zs.set i v) r with
     | some (C,XU)=>some (V.ns (zs.take i)=off/\v.n=sz/\z.n=sz/\v.isVal=true/\C,XU)
     | none=>none
   | _,_=>none
def rP(P:Program)(A:AS)(T:Nat)(zs:List V)(b9:List (Nat×Operand)):Option (Prop×V):=
 match tD P T with
 | some (.st fs)=>match mI P fs with
   | some places=>match qq places zs (b9.map fun (i,x)=>(i,A.cp x)) with
     | some (C,vs)=>some (C,.agg vs)
     | none=>none
   | none=>none
 | _=>none
theorem xD:∀ (zs:List V) {cs:List Value} {i:Nat} {z v:V} {c:List Value},RL w Pb zs cs []->zs[i]? =some z->R w Pb v c []->c.length=z.n->
 RL w Pb (zs.set i v) (cs.take (V.ns (zs.take i))++c++cs.drop (V.ns (zs.take i)+z.n)) []
 | [],_,_,_,_,_,_,h,_,_=>by simp at h
 | z0::zs,cs,0,z,v,c,h,hi,hr,hn=>by
   obtain⟨c1,c2,F1,F2,rfl,hF,h1,h2⟩:=h
   have N6:=hF.symm;simp at N6;obtain⟨rfl,rfl⟩:=N6
   simp at hi;subst hi
   have hl:=ez _ h1
   simp only[List.take_zero,V.ns,Y0,List.nil_append,List.set_cons_zero]
   rw[<- hl,List.drop_left]
   exact⟨c,c2,[],[],rfl,rfl,hr,h2⟩
 | z0::zs,cs,i+1,z,v,c,h,hi,hr,hn=>by
   obtain⟨c1,c2,F1,F2,rfl,hF,h1,h2⟩:=h
   have N6:=hF.symm;simp at N6;obtain⟨rfl,rfl⟩:=N6
   have hl:=ez _ h1
   have ih:=xD zs h2 (by simpa using hi) hr hn
   simp only[List.take_succ_cons,V.ns,List.set_cons_succ]
   refine⟨c1,_,[],[],?_,rfl,h1,ih⟩
   rw[<- hl,List.take_append,List.drop_append]
   have e1:(List.take (c1.length+V.ns (zs.take i)) c1)=c1:=Y3 Z9
   have e2:(List.drop (c1.length+V.ns (zs.take i)+z.n) c1)=[]:=Zc Z9
   rw[e1,e2]
   have e3:c1.length+V.ns (zs.take i)-c1.length=V.ns (zs.take i):=Z9
   have e4:c1.length+V.ns (zs.take i)+z.n-c1.length=V.ns (zs.take i)+z.n:=Z9
   rw[e3,e4];simp
theorem CF(cells:Array Value) (off:Nat) (c:List Value) (h:off+c.length<=cells.size) {r:Array Value} (hs:r.size=cells.size)
 (hk:∀ k,r[k]? =if off+0<=k/\k<off+0+c.length/\k<cells.size then c[k-(off+0)]? else cells[k]?):r.toList=cells.toList.take off++c++cells.toList.drop (off+c.length):=by
 apply List.ext_getElem?
 intro k
 rw[Array.getElem?_toList,hk k]
 simp only[Nat.add_zero]
 by_cases h1:k<off
 rw[if_neg Z9,List.append_assoc,Zd Z0,List.getElem?_take,if_pos h1];simp
 by_cases h2:k<off+c.length
 rw[if_pos ⟨Z9,h2,Z9⟩,List.append_assoc,Y8 Z0,Zd Z0]
 congr 1;simp;omega
 rw[if_neg Z9,Y8 Z0,List.getElem?_drop]
 have:off+c.length+(k-(cells.toList.take off++c).length)=k:=Z0
 rw[this];simp
theorem sO(hs:s4 N Pb Kb A a w F){places:List (Nat×Nat)}:∀ (b9:List (Nat×Operand)) {zs:List V} {C:Prop} {vs:List V} {cells:Array Value},qq places zs (b9.map fun (i,x)=>(i,A.cp x))=some (C,vs)->C->
 RL w Pb zs cells.toList []->∃ n7,Instr.fill (places.toArray[·]?) cells (b9.map fun (i,x)=>(i,a.eval x))=some n7/\RL w Pb vs n7.toList []
 | [],zs,C,vs,cells,h,_,hr=>by simp[qq]at h;obtain⟨_,rfl⟩:=h;exact⟨cells,rfl,hr⟩
 | (i,x)::r,zs,C,vs,cells,h,hC,hr=>by
   simp only[Zi,qq]at h
   split at h
   case h_2=>simp at h
   rename_i off sz z hp hz
   split at h
   case h_2=>simp at h
   rename_i C' XU hf
   simp only[YR,YU]at h
   obtain⟨rfl,rfl⟩:=h
   obtain⟨h1,h2,h3,h4,h5⟩:=hC
   have hR:=za (pW hs x) h4
   have hl:=ez _ hR
   obtain⟨cz,F',Uu,_,Yv⟩:=fR zs hr hz
   have Yp:=ez _ Uu
   have hle:off+(a.eval x).cells.toList.length<=cells.size:=by
    by_cases hne:cz=[]
    have:sz=0:=by rw[<- h3,<- Yp,hne];rfl
    have hns:V.ns (zs.take i)<=cells.size:=by
     have Uz:=iC _ hr
     have:V.ns (zs.take i)<=V.ns zs:=by
      clear hf hr Yv Uu hp Uz h1
      induction zs generalizing i with
      | nil=>simp[V.ns]
      | cons z0 zs ih=>cases i with
        | zero=>simp[V.ns]
        | succ i=>simp only[List.take_succ_cons,V.ns];have:=ih (i:=i) (by simpa using hz);omega
     simpa[<- Uz] using this
    rw[hl,h2];omega
    have:=xB (cells:=cells) (o:=off) (l:=cz) (fun j u hu=>by rw[<- h1];have:=Yv j u hu;simpa using this) hne
    omega
   obtain⟨g1,g2⟩:=Great.foldl_set off (a.eval x).cells.toList 0 cells
   have W8:=CF cells off (a.eval x).cells.toList hle g1 g2
   have L':=xD zs hr hz hR (by rw[hl,h2,h3])
   rw[h1,h3,<- h2,<- hl,<- W8]at L'
   obtain⟨n7,Rq,E3⟩:=sO hs r hf h5 L'
   refine⟨n7,?_,E3⟩
   simp only[Zi]
   unfold Instr.fill
   have Vq:places.toArray[i]? =some (off,sz):=by simpa using hp
   simp only[Vq]
   rw[if_neg (by
    have e1:(a.eval x).cells.size=sz:=by rw[<- h2,<- hl];simp
    simp only[e1,ne_eq,not_true_eq_false,decide_false,Bool.false_or,Zo]
    rw[<- e1];simpa using hle)]
   rw[<- Rq];congr 1
   rw[<- Array.foldl_toList,Array.toList_zipIdx]
theorem Dy{fl:Array Field}{fs:List (Nat×Nat)}(h:fl.toList.map (fun f=>(f.offset,f.type))=fs){places:List (Nat×Nat)}(hp:mI P fs=some places):
 fl.toList.mapM (fun f=>(P.info? f.type).map fun i=>(f.offset,i.size))=some places:=by
 subst h
 generalize fl.toList=l at hp
 induction l generalizing places with
 | nil=>simp[mI]at hp;subst hp;rfl
 | cons f l ih=>
   simp only[Zi,mI]at hp
   split at hp
   case h_2=>simp at hp
   rename_i i ps hi hps
   simp at hp;subst hp
   obtain⟨inf,_,h1,_,h3,_,_⟩:=jd hi
   simp[List.mapM_cons,h1,ih hps,h3]
theorem BS(hs:s4 N Pb Kb A a w F){T:Nat}{b9:Array (Nat×Operand)}{zs:List V}{C:Prop}{v:V}(hz:mX P T (.agg zs))(h:rP P A T zs b9.toList=some (C,v))(hC:C):
 ∃ y,(Instr.build T (b9.map fun (i,x)=>(i,a.eval x))).run P w=.ok y w/\RV w Pb v y []:=by
 unfold rP at h
 split at h
 case h_2=>simp at h
 rename_i fs hT
 split at h
 case h_2=>simp at h
 rename_i places hp
 split at h
 case h_2=>simp at h
 rename_i C' vs hf
 simp only[YR,YU]at h
 obtain⟨rfl,rfl⟩:=h
 obtain⟨fl,hu,hfl⟩:=Ct hT
 obtain⟨inf,z,h1,h2,h3⟩:=hz
 have hr:=qH (w:=w) (Pb:=Pb) _ h3
 simp only[R]at hr
 obtain⟨n7,Rq,E3⟩:=sO hs b9.toList hf hC hr
 refine⟨.agg n7,run_build w T _ n7 ?_,n7,rfl,E3⟩
 unfold Program.built
 simp only[h1,hu,h2,Dy hfl hp]
 rw[Array.toList_map];exact Rq
theorem wP{o:Oper} {K:AS->Prop} {T:Nat} {b9:Array (Nat×Operand)} {zs:List V} {C:Prop} {v:V} (ho:o.op=.build T b9) (hd:cF N o.dst) (hz:mX P T (.agg zs))
 (h:rP P A T zs b9.toList=some (C,v)) (hC:C) (hK:K (A.put o.dst v)):E2 P N o A K:=
 iR hd hK fun Pb Kb a w F hs=>by
  obtain⟨y,hy,hr⟩:=BS hs hz h hC
  exact⟨y,by simp only[execOp,ho,Y4,hy,YW,Y5],hr⟩
theorem s4.freeze(hs:s4 N Pb Kb A a w F){i:Nat}(hi:(A.get i).cZ=true)(Xr:i<N):∃ Pb' D3 F',s4 N Pb' D3 (A.put (some i) (A.get i).er) a w F'/\(∀ g,Pb g->Pb' g)/\(∀ g,Kb g->D3 g)/\(∀ g,Pb' g->Pb g\/¬ Kb g):=by
 refine⟨fun g=>Pb g\/g∈F (.slot i),fun g=>Kb g\/g∈F (.slot i),cf F (.slot i) [],?_,fun g h=>.inl h,fun g h=>.inl h,fun g h=>h.imp id fun h=>(hs.free _ g h).1⟩
 have TV:∀ r,r≠.slot i->∀ g,g∈F r->¬ (Pb g\/g∈F (.slot i))/\¬ (Kb g\/g∈F (.slot i)):=fun r hr g hg=>by
  refine⟨fun c=>?_,fun c=>?_⟩ <;> rcases c with c | c
  exact(hs.free r g hg).1 (hs.sub g c)
  exact hs.cd r _ hr g hg c
  exact(hs.free r g hg).1 c
  exact hs.cd r _ hr g hg c
 refine⟨hs.size,hs.defers,fun j=>?_,fun k g v hk=>?_,fun r r' hne g hg=>?_,fun r=>?_,fun r g hg=>?_,fun g h=>h.imp (hs.sub g) id,fun g h=>?_⟩
 rw[AS.aA]
 by_cases e:j=i
 subst e
 simp only[if_true,cf]
 exact CW (hs.slot j) (fun g h=>.inl h) (fun g h=>.inr h)
 have hne:l8.slot j≠l8.slot i:=fun c=>e (by injection c)
 simp only[if_neg e,cf,if_neg hne]
 exact mH _ (hs.slot j) (fun _ _=>rfl) (fun _ _=>rfl) (fun g h=>.inl h) (fun g hg=>(TV _ hne g hg).1)
 obtain⟨F',e,hA⟩:=hs.root k g v hk
 refine⟨F',by simpa[cf] using e,?_⟩
 obtain⟨cs,cells,hb,hr,hc⟩:=hA
 exact⟨cs,cells,hb,fX _ hr (fun _ _=>rfl) (fun _ _=>rfl) (fun g h=>.inl h) (fun x hx=>(TV (.key k) Z8 x (by rw[e];simp[hx])).1),hc⟩
 simp only[cf]at hg ⊢
 split at hg
 simp at hg
 split
 simp
 exact hs.cd r r' hne g hg
 simp only[cf];split
 exact Ze
 exact hs.nodup r
 simp only[cf]at hg
 split at hg
 simp at hg
 rename_i hne
 exact⟨(TV r hne g hg).2,(hs.free r g hg).2⟩
 rcases h with h | h
 exact hs.bound g h
 exact(hs.free _ g h).2
theorem s4.Nk(hs:s4 N Pb Kb A a w F){g:Nat}(hg:∀ r,g ∉ F r)(hK: ¬ Kb g)(hf:∀ k,k≠g->w'.heap[k]? =w.heap[k]?)(hsz:w'.heap.size=w.heap.size):s4 N Pb Kb A a w' F where
 size:=hs.size
 defers:=hs.defers
 slot:=fun i=>mH _ (hs.slot i) (fun x hx=>hf x (by rintro rfl;exact hK (hs.sub _ hx))) (fun x hx=>hf x (by rintro rfl;exact hg _ hx)) (fun _ h=>h) (fun x hx c=>(hs.free _ x hx).1 (hs.sub x c))
 root:=fun k g0 v hk=>by
  obtain⟨F',e,hA⟩:=hs.root k g0 v hk
  have VF:g0≠g:=by rintro rfl;exact hg (.key k) (by rw[e];simp)
  refine⟨F',e,qf hA (fun x hx=>hf x (by rintro rfl;exact hK (hs.sub _ hx))) (fun x hx=>hf x (by rintro rfl;exact hg (.key k) (by rw[e];simp[hx]))) (fun x hx c=>(hs.free (.key k) x (by rw[e];simp[hx])).1 (hs.sub x c)) (fun cells hb=>?_)⟩
  obtain⟨e',fr,hb,hfr⟩:=hb
  exact⟨cells,⟨e',fr,(hf g0 VF).trans hb,hfr⟩,fun _ _ _=>rfl⟩
 cd:=hs.cd
 nodup:=hs.nodup
 free:=fun r x hx=>by rw[hsz];exact hs.free r x hx
 sub:=hs.sub
 bound:=fun x hx=>by rw[hsz];exact hs.bound x hx
theorem iM:∀ (xs ys:List V) {c1 c2:List Value} {F1 F2:List Nat},RL w Pb xs c1 F1->RL w Pb ys c2 F2->RL w Pb (xs++ys) (c1++c2) (F1++F2)
 | [],ys,c1,c2,F1,F2,h1,h2=>by obtain⟨rfl,rfl⟩:=h1;exact h2
 | x::xs,ys,c1,c2,F1,F2,h1,h2=>by
   obtain⟨d1,d2,G1,G2,rfl,rfl,k1,k2⟩:=h1
   exact⟨d1,d2++c2,G1,G2++F2,Z8,Z8,k1,iM xs ys k2 h2⟩
theorem pc{sz:Nat}(xs:List V)(h:aJ sz xs):V.ns xs=xs.length*sz:=by
 have:=dU xs xs.length h (Zg _);simpa using this
theorem zS{full:Bool}{ys:List V}{x:Value}(h:R w Pb (.sl full ys) [x] []){s:Nat}(hs:aJ s ys):∃ (B:Option Addr) (c:Nat) (flat:List Value),x=.slice B ys.length c/\RL w Pb ys flat []/\
 (∀ w1:World,(∀ ad,w1.cell? ad=w.cell? ad)->(Builtin.firstCells s ys.length x).run P w1=.ok flat.toArray w1)/\flat.length=ys.length*s:=by
 obtain⟨_,A,c,hx,hl,_,hz⟩:=h
 have hx:x=.slice A ys.length c:=by simpa using hx
 subst hx
 rcases hz with rfl | ⟨b,o,sz,flat,rfl,hb,hsz,hN,hr,hc⟩
 refine⟨A,c,[],rfl,⟨rfl,rfl⟩,fun w1 _=>?_,Z8⟩
 cases A with
 | none=>rfl
 | some ad=>simp only[Builtin.firstCells,YY,Nat.zero_mul];rfl
 have hl2:=iC _ hr
 by_cases he:ys=[]
 subst he
 obtain⟨rfl,_⟩:=hr
 exact⟨_,c,[],rfl,⟨rfl,rfl⟩,fun w1 _=>by simp only[Builtin.firstCells,YY,Nat.zero_mul];rfl,Z8⟩
 rw[pc ys hs]at hl2
 exact⟨_,c,flat,rfl,hr,fun w1 h1=>by simp only[Builtin.firstCells];rw[<- hl2];exact run_loadCells_list w1 _ flat (fun j v hv=>by rw[dQ,h1];exact hc j v hv),hl2⟩
theorem xc{sz g o c:Nat}{xs:List V}{x:Value}{Fx:List Nat}(h:R w Pb (.own sz xs g o c) [x] Fx):∃ (B:Option Addr) (flat:List Value) (F':List Nat),x=.slice B xs.length c/\RL w Pb xs flat F'/\
 (∀ w1:World,(∀ ad,w1.cell? ad=w.cell? ad)->(Builtin.firstCells sz xs.length x).run P w1=.ok flat.toArray w1)/\(0<c->B=some ⟨g,o,none⟩/\aJ sz xs/\0<sz/\Fx=g::F'/\flat.length=xs.length*sz)/\(c=0->xs=[]/\Fx=[]/\F'=[]/\flat=[])/\xs.length<=c:=by
 rcases h with ⟨rfl,rfl,rfl,A,hx⟩ | ⟨h1,h2,h3,hx,hN,_,flat,F',cells,rfl,hr,hb,hsz,hc⟩
 have hx:x=.slice A 0 0:=by simpa using hx
 subst hx
 refine⟨A,[],[],rfl,⟨rfl,rfl⟩,fun w1 _=>?_,fun h=>absurd h Z9,fun _=>⟨rfl,rfl,rfl,rfl⟩,Zg _⟩
 cases A with
 | none=>rfl
 | some ad=>simp only[Builtin.firstCells,YY,Nat.zero_mul];rfl
 have hx:x=.slice (some ⟨g,o,none⟩) xs.length c:=by simpa using hx
 subst hx
 have hl:=iC _ hr
 rw[pc xs hN]at hl
 refine⟨_,flat,F',rfl,hr,fun w1 h1=>?_,fun _=>⟨rfl,hN,h2,rfl,hl⟩,fun h=>absurd h Z9,h3⟩
 simp only[Builtin.firstCells]
 rw[<- hl]
 exact run_loadCells_list w1 _ flat (fun j v hv=>by rw[dQ,h1,dX hb];exact hc j v hv)
theorem qD{e:Nat}{inf:TypeInfo}{z:Value}(h1:P.info? e=some inf)(h2:inf.zero=some z):(zeroValue e).run P w=.ok z w:=by simp[zeroValue,typeInfo,h1,h2]
theorem sS{T T2 e e2:Nat} {t:TI} (hT:tD P T=some (.sl e)) (Sd:tD P T2=some (.sl e2)) (ht:ti P e=some t) (hz:∃ inf z,P.info? e=some inf/\inf.zero=some z/\z.cells.size=t.sz) (hsz:0<t.sz) (RJ:0<t.L1)
 (hs:s4 N Pb Kb A a w F) {xs ys:List V} {g o c:Nat} {s x:Value} {Fx:List Nat} {B2:Option Addr} {c2:Nat} {C4:List Value} (I6:R w Pb (.own t.sz xs g o c) [s] Fx) (u0:∀ r g,g∈Fx->g ∉ F r) (hfr:∀ g,g∈Fx->¬ Kb g/\g<w.heap.size) {Fy:List Nat} (hnd:(Fx++Fy).Nodup) (X5:∀ r g,g∈Fy->g ∉ F r) (Vb:∀ g,g∈Fy->¬ Kb g/\g<w.heap.size)
 (MR:x=.slice B2 ys.length c2) (L':RL w Pb ys C4 Fy) (NM:∀ w1:World,(∀ ad,w1.cell? ad=w.cell? ad)->(Builtin.firstCells t.sz ys.length x).run P w1=.ok C4.toArray w1) (hl2:C4.length=ys.length*t.sz) (hN:aJ t.sz ys) (hbig:(xs.length+ys.length)*t.L1<=140737488355328):
 ∃ v w' F2 g' o' c',(Builtin.append_ #[T,T2] T #[s,x]).run P w=.ok v w'/\s4 N Pb Kb A a w' F/\R w' Pb (.own t.sz (xs++ys) g' o' c') [v] F2/\F2.Nodup/\(∀ r g,g∈F2->g ∉ F r)/\(∀ g,g∈F2->¬ Kb g/\g<w'.heap.size)/\x7 Kb w w':=by
 have hu:=iy hT
 have N4:=iy Sd
 obtain⟨inf,z,L5,hzero,WN⟩:=hz
 obtain⟨RX,_,G9,_,Rb,Ru,_⟩:=jd ht
 rw[L5]at G9
 obtain rfl:=Option.some.inj G9
 obtain⟨B,flat,F',rfl,hr,Ox,I0,Q2,hle⟩:=xc (P:=P) I6
 subst MR
 have Pa:(Builtin.lenOf (.slice B2 ys.length c2)).run P w=.ok ys.length w:=rfl
 have UE:∀ r g,g∈F r->¬ Pb g:=fun r g hg c=>(hs.free r g hg).1 (hs.sub g c)
 have Vv:xs.length+ys.length<=140737488355328:=Nat.le_trans (Nat.le_mul_of_pos_right _ RJ) hbig
 unfold Builtin.append_
 simp only[List.getElem?_toArray,List.getElem?_cons_zero,List.getElem?_cons_succ,Y4,aF hu,YW]
 simp only[cQ ht,YW]
 simp only[aF N4,YW,Y5]
 rw[if_neg (show ¬ (false=true) by decide)]
 rw[Y4,Pa]
 simp only[YW]
 by_cases O9:xs.length+ys.length<=c
 ·
  rw[if_pos O9]
  simp only[Y4,Bool.not_false,if_true,NM w (fun _=>rfl),YW]
  by_cases hc:c=0
  obtain⟨rfl,rfl,rfl,rfl⟩:=Q2 hc
  have A4:ys=[]:=Y9 Z9
  subst A4
  have Pf:C4=[]:=Y9 (by simpa using hl2)
  subst Pf
  refine⟨.slice B 0 c,w,[],g,o,0,?_,hs,.inl ⟨rfl,rfl,rfl,B,by rw[hc]⟩,Ze,Z8,Z8,x7.refl _ _⟩
  cases B with
  | none=>simp
  | some ad=>simp[storeCells]
  obtain⟨rfl,Ua,_,rfl,hl1⟩:=I0 Z9
  rcases I6 with ⟨h0,_⟩ | ⟨_,_,_,_,_,T9,MK,M8,cells,UF,E3,hb,TJ,s3⟩
  exact absurd h0 hc
  simp only[List.cons.injEq,true_and]at UF
  subst UF
  have hle':o+xs.length*t.sz+C4.length<=cells.size:=by
   rw[hl2]
   have:(xs.length+ys.length)*t.sz<=c*t.sz:=Nat.mul_le_mul_right _ O9
   rw[Nat.add_mul]at this;omega
  obtain⟨w',y8,K8⟩:=gM (P:=P) (g:=g) (o:=o+xs.length*t.sz) C4 0 w cells hb Z9 (qX _ L')
  have hg:=hfr g Z8
  have y9:s4 N Pb Kb A a w' F:=hs.Nk (fun r=>u0 r g Z8) hg.1 K8.Nk K8.size
  have We:∀ k,Pb k->w'.heap[k]? =w.heap[k]? :=fun k hk=>K8.Nk k (by rintro rfl;exact T9 hk)
  have Ys:g ∉ F'++Fy:=(List.nodup_cons.1 hnd).1
  have P':g ∉ F':=fun c=>Ys (by simp[c])
  have hgY:g ∉ Fy:=fun c=>Ys (by simp[c])
  have hkF:∀ k,k∈F'->w'.heap[k]? =w.heap[k]? :=fun k hk=>K8.Nk k (by rintro rfl;exact P' hk)
  obtain⟨n7,J',K1,NJ,Ri⟩:=K8.N' cells hb
  have Rd:=eh (w':=w') (Pb':=Pb) xs hr We hkF (fun _ h=>h) (fun k hk c=>(hfr k (by simp[hk])).1 (hs.sub k c))
  have Rc:=eh (w':=w') (Pb':=Pb) ys L' We (fun k hk=>K8.Nk k (by rintro rfl;exact hgY hk)) (fun _ h=>h) (fun k hk c=>(Vb k hk).1 (hs.sub k c))
  have Ro:MK=flat\/True:=.inr trivial
  have Yr:∀ k,k∈g::(F'++Fy)->(¬ Kb k/\k<w.heap.size)/\∀ r,k ∉ F r:=fun k hk=>by
   rcases Y1.1 (show k∈(g::F')++Fy from hk) with h | h
   exact⟨hfr k h,fun r=>u0 r k h⟩
   exact⟨Vb k h,fun r=>X5 r k h⟩
  refine⟨.slice (some ⟨g,o,none⟩) (xs.length+ys.length) c,w',g::(F'++Fy),g,o,c,?_,y9,.inr ⟨Z9,hsz,Z0,Z8,?_,T9,flat++C4,F'++Fy,n7,rfl,iM xs ys Rd Rc,J',Z9,?_⟩,hnd,fun r k hk=>(Yr k hk).2 r,fun k hk=>by rw[K8.size];exact(Yr k hk).1,⟨K8.os,K8.tape,K8.output,by rw[K8.size];omega,fun k hk=>K8.Nk k (by rintro rfl;exact hg.1 hk),K8.shape⟩⟩
  have e1:(Array.toList C4.toArray)=C4:=Z8
  simp only[dQ,Y4]
  rw[y8]
  simp only[YW,Y5]
  intro v hv
  rcases Y1.1 hv with h | h
  exact Ua v h
  exact hN v h
  intro j u hu
  by_cases hj:j<flat.length
  rw[Zd hj]at hu
  rw[NJ _ Z9]
  have h1:(loadCells ⟨g,o,none⟩ MK.length).run P w=.ok MK.toArray w:=run_loadCells_list w _ MK (fun j v hv=>by rw[dQ,dX hb];exact s3 j v hv)
  have Xo:MK.length=xs.length*t.sz:=by rw[iC _ E3,pc xs Ua]
  have h2:=Ox w (fun _=>rfl)
  simp only[Builtin.firstCells]at h2
  rw[<- Xo,h1]at h2
  simp only[Result.ok.injEq,and_true]at h2
  have:MK=flat:=by have:=Zq Array.toList h2;simpa using this
  subst this
  exact s3 j u hu
  rw[Y8 Z9]at hu
  have:=Ri _ u hu
  rw[<- this];congr 1;omega
 ·
  rw[if_neg O9]
  have hlt:c<xs.length+ys.length:=Z9
  have Xi:IntKind.i64.max=9223372036854775807:=Z6
  have R6: ¬ (((xs.length+ys.length:Nat):Int)>IntKind.i64.max/\((false=true)\/inf.bytes=0)):=by
   rw[Xi];rintro⟨h1,_⟩;omega
  have hcap: ¬ Builtin.nextslicecap (xs.length+ys.length) c*inf.bytes>281474976710656:=by
   have:=growslice_fits (bytes:=t.L1) hlt hbig
   rw[Ru];omega
  have Ut:∀ w,(typeInfo e).run P w=.ok inf w:=fun w=>by simp[typeInfo,L5]
  obtain⟨nc,Ux,VK⟩:∃ nc,xs.length+ys.length<=nc/\(choose (.appendCap (xs.length+ys.length) c e)).run P w=.ok nc { w with drawn:=w.drawn+1 }:=by
   exact⟨(Question.appendCap (xs.length+ys.length) c e).cut (w.tape w.drawn (Question.appendCap (xs.length+ys.length) c e)),by simp only[Question.cut];exact Nat.le_add_right _ _,by rw[run_choose,if_neg (by simp[Question.forced])]⟩
  obtain⟨w1,Ou⟩:∃ w1:World,w1={ w with drawn:=w.drawn+1 }:=⟨_,rfl⟩
  rw[<- Ou]at VK
  have I1:w1.heap=w.heap:=by rw[Ou]
  have Nz:∀ ad,w1.cell? ad=w.cell? ad:=fun ad=>by rw[Ou];rfl
  have VI:=Ox w1 Nz
  have Pf:=NM w1 Nz
  have WM:=fun w=>qD (w:=w) L5 hzero
  obtain⟨cells,hcells⟩:∃ cells:Array Value,cells=flat.toArray++C4.toArray++Builtin.zeroCells z.cells (nc-(xs.length+ys.length)):=⟨_,rfl⟩
  have Xn:flat.length=xs.length*t.sz:=by
   by_cases hc:c=0
   obtain⟨rfl,_,_,rfl⟩:=Q2 hc;simp
   exact(I0 Z9).2.2.2.2
  have R':cells.size=nc*t.sz:=by
   rw[hcells]
   simp only[Array.size_append,List.size_toArray,Builtin.zeroCells,Array.size_map,Array.size_range,WN,Xn,hl2]
   rw[<- Nat.add_mul,<- Nat.add_mul];congr 1;omega
  have Xw:s4 N Pb Kb A a w1 F:=hs.grow (fun k _=>by rw[I1]) (by rw[I1];exact Zg _) (fun _ h=>h) (fun g h=>.inl h) hs.sub
  have Se:∀ k,k∈F'->k∈Fx:=fun k hk=>by
   by_cases hc:c=0
   rw[(Q2 hc).2.2.1]at hk;simp at hk
   rw[(I0 Z9).2.2.2.1];simp[hk]
  have hFn:(F'++Fy).Nodup:=by
   by_cases hc:c=0
   rw[(Q2 hc).2.2.1];exact(List.nodup_append.1 hnd).2.1
   have:=hnd;rw[(I0 Z9).2.2.2.1]at this;exact(List.nodup_cons.1 this).2
  have Ua:aJ t.sz xs:=by
   by_cases hc:c=0
   rw[(Q2 hc).1];intro v hv;simp at hv
   exact(I0 Z9).2.1
  have hold:∀ k,k<w.heap.size->(w1.alloc (.cells cells e)).heap[k]? =w.heap[k]? :=fun k hk=>by
   rw[alloc_old w1 _ k (by rw[I1];exact hk),I1]
  have Ra:(w1.alloc (.cells cells e)).heap.size=w.heap.size+1:=by rw[dz,I1]
  have Ov:w.heap.size=w1.heap.size:=by rw[I1]
  have Rd:=eh (w':=w1.alloc (.cells cells e)) (Pb':=Pb) xs hr (fun k hk=>hold k (hs.bound k (hs.sub k hk))) (fun k hk=>hold k (hfr k (Se k hk)).2) (fun _ h=>h) (fun k hk cc=>(hfr k (Se k hk)).1 (hs.sub k cc))
  have Rc:=eh (w':=w1.alloc (.cells cells e)) (Pb':=Pb) ys L' (fun k hk=>hold k (hs.bound k (hs.sub k hk))) (fun k hk=>hold k (Vb k hk).2) (fun _ h=>h) (fun k hk cc=>(Vb k hk).1 (hs.sub k cc))
  have Ud:∀ k,k∈F'++Fy->(¬ Kb k/\k<w.heap.size)/\∀ r,k ∉ F r:=fun k hk=>by
   rcases Y1.1 hk with h | h
   exact⟨hfr k (Se k h),fun r=>u0 r k (Se k h)⟩
   exact⟨Vb k h,fun r=>X5 r k h⟩
  have Pn: ¬ Kb w.heap.size:=fun cc=>by have:=hs.bound _ cc;omega
  refine⟨.slice (some ⟨w.heap.size,0,none⟩) (xs.length+ys.length) nc,w1.alloc (.cells cells e),w.heap.size::(F'++Fy),w.heap.size,0,nc,?_,Xw.nT _,.inr ⟨Z9,hsz,by simpa using Ux,Z8,?_,fun cc=>Pn (hs.sub _ cc),flat++C4,F'++Fy,cells,rfl,
   iM xs ys Rd Rc,⟨e,(0,0),by rw[Ov];exact fS w1 _,fun i _ h=>by omega⟩,by rw[R'];omega,fun j u hu=>?_⟩,?_,?_,?_,⟨?_,?_,?_,by rw[Ra];omega,fun k hk=>hold k (hs.bound k hk),Shp.of_eq hold⟩⟩
  simp only[Sem.run_ite,Y4,Ut,YW,if_neg R6,if_neg hcap,Y5,VK,VI,Pf,Bool.not_false,if_true,run_askRoom,WM,jn]
  rw[hcells,Ov]
  intro v hv
  rcases Y1.1 hv with h | h
  exact Ua v h
  exact hN v h
  rw[hcells,Y0]
  have hj:=(Y7.1 hu).1
  rw[Array.getElem?_append_left (by simpa using hj)]
  simpa using hu
  refine List.nodup_cons.2 ⟨fun cc=>?_,hFn⟩
  have:=(Ud _ cc).1.2;omega
  intro r k hk cc
  rcases List.mem_cons.1 hk with rfl | h
  have:=(hs.free r _ cc).2;omega
  exact(Ud k h).2 r cc
  intro k hk
  rw[Ra]
  rcases List.mem_cons.1 hk with rfl | h
  exact⟨Pn,Z9⟩
  have:=(Ud k h).1;exact⟨this.1,Z9⟩
  rw[Ou];rfl
  rw[Ou];rfl
  rw[Ou];rfl
theorem An{T T2 e e2:Nat} {t:TI} (hT:tD P T=some (.sl e)) (Sd:tD P T2=some (.sl e2)) (ht:ti P e=some t) (hz:∃ inf z,P.info? e=some inf/\inf.zero=some z/\z.cells.size=t.sz) (hsz:0<t.sz) (RJ:0<t.L1)
 (hs:s4 N Pb Kb A a w F) {xs ys:List V} {s x:Value} {B2:Option Addr} {c2:Nat} {C4:List Value} (I6:R w Pb (.sl true xs) [s] []) (Ua:aJ t.sz xs) (A4:0<ys.length)
 (MR:x=.slice B2 ys.length c2) (L':RL w Pb ys C4 []) (NM:∀ w1:World,(∀ ad,w1.cell? ad=w.cell? ad)->(Builtin.firstCells t.sz ys.length x).run P w1=.ok C4.toArray w1) (hl2:C4.length=ys.length*t.sz) (hN:aJ t.sz ys) (hbig:(xs.length+ys.length)*t.L1<=140737488355328):
 ∃ v w' F2 g' o' c',(Builtin.append_ #[T,T2] T #[s,x]).run P w=.ok v w'/\s4 N Pb Kb A a w' F/\R w' Pb (.own t.sz (xs++ys) g' o' c') [v] F2/\F2.Nodup/\(∀ r g,g∈F2->g ∉ F r)/\(∀ g,g∈F2->¬ Kb g/\g<w'.heap.size)/\x7 Kb w w':=by
 have hu:=iy hT
 have N4:=iy Sd
 obtain⟨inf,z,L5,hzero,WN⟩:=hz
 obtain⟨RX,_,G9,_,Rb,Ru,_⟩:=jd ht
 rw[L5]at G9
 obtain rfl:=Option.some.inj G9
 obtain⟨B,c,flat,rfl,hr,Ox,Xn⟩:=zS (P:=P) I6 Ua
 have hcx:c=xs.length:=by
  obtain⟨_,A0,c0,h1,_,h2,_⟩:=I6
  have h1:=(List.cons.inj h1).1
  simp only[Value.slice.injEq]at h1
  rw[h1.2.2];exact h2 rfl
 subst MR
 have Pa:(Builtin.lenOf (.slice B2 ys.length c2)).run P w=.ok ys.length w:=rfl
 have Vv:xs.length+ys.length<=140737488355328:=Nat.le_trans (Nat.le_mul_of_pos_right _ RJ) hbig
 unfold Builtin.append_
 simp only[List.getElem?_toArray,List.getElem?_cons_zero,List.getElem?_cons_succ,Y4,aF hu,YW]
 simp only[cQ ht,YW]
 simp only[aF N4,YW,Y5]
 rw[if_neg (show ¬ (false=true) by decide)]
 rw[Y4,Pa]
 simp only[YW]
 have O9: ¬ (xs.length+ys.length<=c):=Z9
 rw[if_neg O9]
 have hlt:c<xs.length+ys.length:=Z9
 have Xi:IntKind.i64.max=9223372036854775807:=Z6
 have R6: ¬ (((xs.length+ys.length:Nat):Int)>IntKind.i64.max/\((false=true)\/inf.bytes=0)):=by
  rw[Xi];rintro⟨h1,_⟩;omega
 have hcap: ¬ Builtin.nextslicecap (xs.length+ys.length) c*inf.bytes>281474976710656:=by
  have:=growslice_fits (bytes:=t.L1) hlt hbig
  rw[Ru];omega
 have Ut:∀ w,(typeInfo e).run P w=.ok inf w:=fun w=>by simp[typeInfo,L5]
 obtain⟨nc,Ux,VK⟩:∃ nc,xs.length+ys.length<=nc/\(choose (.appendCap (xs.length+ys.length) c e)).run P w=.ok nc { w with drawn:=w.drawn+1 }:=by
  exact⟨(Question.appendCap (xs.length+ys.length) c e).cut (w.tape w.drawn (Question.appendCap (xs.length+ys.length) c e)),by simp only[Question.cut];exact Nat.le_add_right _ _,by rw[run_choose,if_neg (by simp[Question.forced])]⟩
 obtain⟨w1,Ou⟩:∃ w1:World,w1={ w with drawn:=w.drawn+1 }:=⟨_,rfl⟩
 rw[<- Ou]at VK
 have I1:w1.heap=w.heap:=by rw[Ou]
 have Nz:∀ ad,w1.cell? ad=w.cell? ad:=fun ad=>by rw[Ou];rfl
 have VI:=Ox w1 Nz
 have Pf:=NM w1 Nz
 have WM:=fun w=>qD (w:=w) L5 hzero
 obtain⟨cells,hcells⟩:∃ cells:Array Value,cells=flat.toArray++C4.toArray++Builtin.zeroCells z.cells (nc-(xs.length+ys.length)):=⟨_,rfl⟩
 have R':cells.size=nc*t.sz:=by
  rw[hcells]
  simp only[Array.size_append,List.size_toArray,Builtin.zeroCells,Array.size_map,Array.size_range,WN,Xn,hl2]
  rw[<- Nat.add_mul,<- Nat.add_mul];congr 1;omega
 have Xw:s4 N Pb Kb A a w1 F:=hs.grow (fun k _=>by rw[I1]) (by rw[I1];exact Zg _) (fun _ h=>h) (fun g h=>.inl h) hs.sub
 have hold:∀ k,k<w.heap.size->(w1.alloc (.cells cells e)).heap[k]? =w.heap[k]? :=fun k hk=>by
  rw[alloc_old w1 _ k (by rw[I1];exact hk),I1]
 have Ra:(w1.alloc (.cells cells e)).heap.size=w.heap.size+1:=by rw[dz,I1]
 have Ov:w.heap.size=w1.heap.size:=by rw[I1]
 have Rd:=eh (w':=w1.alloc (.cells cells e)) (Pb':=Pb) xs hr (fun k hk=>hold k (hs.bound k (hs.sub k hk))) Z8 (fun _ h=>h) Z8
 have Rc:=eh (w':=w1.alloc (.cells cells e)) (Pb':=Pb) ys L' (fun k hk=>hold k (hs.bound k (hs.sub k hk))) Z8 (fun _ h=>h) Z8
 have Pn: ¬ Kb w.heap.size:=fun cc=>by have:=hs.bound _ cc;omega
 refine⟨.slice (some ⟨w.heap.size,0,none⟩) (xs.length+ys.length) nc,w1.alloc (.cells cells e),[w.heap.size],w.heap.size,0,nc,?_,Xw.nT _,.inr ⟨Z9,hsz,by simpa using Ux,Z8,?_,fun cc=>Pn (hs.sub _ cc),flat++C4,[],cells,rfl,
  iM xs ys Rd Rc,⟨e,(0,0),by rw[Ov];exact fS w1 _,fun i _ h=>by omega⟩,by rw[R'];omega,fun j u hu=>?_⟩,?_,?_,?_,⟨?_,?_,?_,by rw[Ra];omega,fun k hk=>hold k (hs.bound k hk),Shp.of_eq hold⟩⟩
 simp only[Sem.run_ite,Y4,Ut,YW,if_neg R6,if_neg hcap,Y5,VK,VI,Pf,Bool.not_false,if_true,run_askRoom,WM,jn]
 rw[hcells,Ov]
 intro v hv
 rcases Y1.1 hv with h | h
 exact Ua v h
 exact hN v h
 rw[hcells,Y0]
 have hj:=(Y7.1 hu).1
 rw[Array.getElem?_append_left (by simpa using hj)]
 simpa using hu
 simp
 intro r k hk cc
 obtain rfl:=YZ.1 hk
 have:=(hs.free r _ cc).2;omega
 intro k hk
 rw[Ra]
 obtain rfl:=YZ.1 hk
 exact⟨Pn,Z9⟩
 rw[Ou];rfl
 rw[Ou];rfl
 rw[Ou];rfl
def ky(lo n:Nat)(sz g o:Nat):V->Option (Prop×List V)
 | .own Na xs g2 o2 _=>some ((sz=Na/\g=g2/\o=o2)/\lo+n<=xs.length/\V.aE xs=false/\aJ Na xs,(xs.drop lo).take n)
 | _=>none
def Oo(A:AS)(x:Operand):Option (Prop×List V):=
 match A.ev x with
 | .sl _ xs=>some (True,xs)
 | .own _ xs _ _ _=>some (True,xs)
 | .hd r p sz g o lo n _=>match r,p with
   | .slot i,[]=>ky lo n sz g o (A.get i)
   | .key k,p=>match A.at (.key k) p with
     | some (_,_,u)=>ky lo n sz g o u
     | none=>none
   | _,_=>none
 | _=>none
theorem pU:∀ (xs:List V) (k:Nat),V.aE xs=false->V.aE (xs.drop k)=false
 | xs,0,h=>h
 | [],k+1,h=>by simpa using h
 | v::vs,k+1,h=>by
   simp only[V.aE,Bool.or_eq_false_iff]at h
   exact pU vs k h.2
theorem Fw{Fo:List Nat}{Na g2 o2 c2 lo n c:Nat}{xs:List V}{Si:List Value}(hr:R w Pb (.own Na xs g2 o2 c2) Si Fo)(hle:n<=c){B:Option Addr}(hB:0<c->B=some ⟨g2,o2+lo*Na,none⟩)(hn:lo+n<=xs.length)(ho:V.aE xs=false){s:Nat}(hs:aJ s ((xs.drop lo).take n)):
 ∃ (flat:List Value),RL w Pb ((xs.drop lo).take n) flat []/\(∀ w1:World,(∀ ad,w1.cell? ad=w.cell? ad)->(Builtin.firstCells s n (.slice B n c)).run P w1=.ok flat.toArray w1)/\flat.length=n*s:=by
 by_cases Xh:n=0
 subst Xh
 refine⟨[],by simp[RL],fun w1 _=>?_,Z8⟩
 cases B with
 | none=>rfl
 | some ad=>simp only[Builtin.firstCells,Nat.zero_mul];rfl
 rcases hr with ⟨_,rfl,_⟩ | ⟨h1,h2,h3,hx,hN,_,flat,F',cells,_,hr,hb,hsz,hc⟩
 simp at hn;omega
 have hF:=fN xs ho hr
 subst hF
 have K1:s=Na:=by
  have hne:(xs.drop lo).take n≠[]:=by
   intro e
   have:=Zq List.length e
   simp at this;omega
  obtain⟨v,hv⟩:=List.exists_mem_of_ne_nil _ hne
  rw[<- hs v hv,<- hN v (List.mem_of_mem_drop (List.mem_of_mem_take hv))]
 subst K1
 obtain⟨c1,PM,Nz⟩:=pd xs lo hr
 obtain⟨c3,Uw,VL⟩:=oQ _ n PM
 have hl:c3.length=n*s:=by
  rw[iC _ Uw,pc _ (fun x hx=>hN x (List.mem_of_mem_drop (List.mem_of_mem_take hx)))]
  have:((xs.drop lo).take n).length=n:=Z0
  rw[this]
 refine⟨c3,Uw,fun w1 Ou=>?_,hl⟩
 have XK:=hB Z9
 subst XK
 simp only[Builtin.firstCells]
 rw[<- hl]
 refine run_loadCells_list w1 _ c3 (fun j v hv=>?_)
 rw[dQ,Ou,dX hb]
 have:=Nz j v (VL j v hv)
 rw[dU xs lo hN Z9]at this
 have:=hc _ _ this
 simpa[Zn] using this
theorem mW(hs:s4 N Pb Kb A a w F){x:Operand}{C:Prop}{ys:List V}(h:Oo A x=some (C,ys))(hC:C){s:Nat}(G4:aJ s ys)(ho:V.aE ys=false):
 ∃ (B:Option Addr) (c:Nat) (flat:List Value),a.eval x=.slice B ys.length c/\RL w Pb ys flat []/\
   (∀ w1:World,(∀ ad,w1.cell? ad=w.cell? ad)->(Builtin.firstCells s ys.length (a.eval x)).run P w1=.ok flat.toArray w1)/\flat.length=ys.length*s:=by
 obtain⟨Fx,hr⟩:=dH hs x
 unfold Oo at h
 split at h
 rename_i full xs e
 simp only[YR,YU]at h
 obtain⟨_,rfl⟩:=h
 rw[e]at hr
 have hr:R w Pb (.sl full xs) [a.eval x] Fx:=hr
 have hF:Fx=[]:=hr.1
 subst hF
 obtain⟨B,c,flat,h1,h2,h3,h4⟩:=zS (P:=P) hr G4
 exact⟨B,c,flat,h1,h2,h3,h4⟩
 rename_i sz xs g o c e
 simp only[YR,YU]at h
 obtain⟨_,rfl⟩:=h
 rw[e]at hr
 have hr:R w Pb (.own sz xs g o c) [a.eval x] Fx:=hr
 have TO:=hr
 obtain⟨B,flat,F',h1,h2,h3,h4,h5,h6⟩:=xc (P:=P) hr
 have hF:=fN xs ho h2
 subst hF
 by_cases hc:0<c
 obtain⟨_,Qa,_,_,hl⟩:=h4 hc
 by_cases he:xs=[]
 subst he
 exact⟨B,c,flat,h1,h2,fun w1 Ou=>by
  have:=h3 w1 Ou
  simpa[Builtin.firstCells,h1] using this,by simpa using hl⟩
 obtain⟨v,vs,rfl⟩:=List.exists_cons_of_ne_nil he
 have K1:s=sz:=by rw[<- G4 v Z8,<- Qa v Z8]
 subst K1
 exact⟨B,c,flat,h1,h2,h3,hl⟩
 obtain⟨rfl,_,_,rfl⟩:=h5 Z9
 exact⟨B,c,[],h1,h2,fun w1 Ou=>by
  have:=h3 w1 Ou
  simpa[Builtin.firstCells,h1] using this,Z8⟩
 rename_i r p sz g o lo n c e
 rw[e]at hr
 obtain⟨_,hle,B,hv,hB⟩:=hr
 have hv:a.eval x=.slice B n c:=(List.cons.inj hv).1
 have key:∀ u Fo Si,R w Pb u Si Fo->ky lo n sz g o u=some (C,ys)->∃ (B:Option Addr) (c:Nat) (flat:List Value),a.eval x=.slice B ys.length c/\RL w Pb ys flat []/\
  (∀ w1:World,(∀ ad,w1.cell? ad=w.cell? ad)->(Builtin.firstCells s ys.length (a.eval x)).run P w1=.ok flat.toArray w1)/\flat.length=ys.length*s:=by
  intro u Fo Si L3 hu
  unfold ky at hu
  split at hu
  rename_i Na xs g2 o2 c2
  simp only[YR,YU]at hu
  obtain⟨rfl,rfl⟩:=hu
  obtain⟨⟨rfl,rfl,rfl⟩,Wc,S1,_⟩:=hC
  obtain⟨flat,k1,k2,k3⟩:=Fw (P:=P) L3 hle hB Wc S1 G4
  have hlen:((xs.drop lo).take n).length=n:=Z0
  rw[hlen]
  exact⟨B,c,flat,hv,k1,by rw[hv];exact k2,k3⟩
  simp at hu
 split at h
 rename_i i
 have N5:=hs.slot i
 unfold ky at h
 split at h
 rename_i Na xs g2 o2 c2 hg
 rw[hg]at N5
 exact key (.own Na xs g2 o2 c2) _ _ N5 (by unfold ky;exact h)
 simp at h
 rename_i k p'
 split at h
 rename_i a0 b0 u x9
 obtain⟨F',cs,cells,hb,L3,s3⟩:=iX hs x9
 exact key u F' cs L3 h
 simp at h
 simp at h
 simp at h
theorem pF{t:Nat}{sz:Nat}{xs:List V}{g o c:Nat}(h:A.get t=.own sz xs g o c):A.drop (.tmp t)=A.put (some t) .a8:=by simp[AS.drop,h,V.cZ]
end
def D0(A B:AS):Prop:=(∀ i,A.get i=B.get i)/\∀ k,lk k A.h=lk k B.h
theorem D0.le{A B:AS}(h:D0 A B):A.le B:=⟨fun i=>.inr (h.1 i),fun k=>.inr (h.2 k)⟩
theorem D0.symm{A B:AS}(h:D0 A B):D0 B A:=⟨fun i=>(h.1 i).symm,fun k=>(h.2 k).symm⟩
theorem D0.trans{A B C:AS}(h:D0 A B)(k:D0 B C):D0 A C:=⟨fun i=>(h.1 i).trans (k.1 i),fun i=>(h.2 i).trans (k.2 i)⟩
def Rw(o:Oper):List Nat:=(o.after.toList.filter (Region.binds .any)).map (·.on)
section
variable {P:Program} {N:Nat} {ops:Array Oper}
theorem DB{α:Type}(t:Nat):∀ (l1 l2:List (Nat×α)),lk t (l1++l2)=match lk t l1 with | some v=>some v | none=>lk t l2
 | [],l2=>rfl
 | (k,v)::l1,l2=>by
   simp only[List.cons_append,lk]
   by_cases h:t=k
   rw[if_pos h,if_pos h]
   rw[if_neg h,if_neg h];exact DB t l1 l2
def wt(ops:Array Oper)(t k:Nat):Bool:=(ops[k]?).bind (·.dst)==some t
def RD(listed:Array Bool)(n:Nat):Nat:=((List.range n).filter fun i=>!listed.getD i true).length
theorem FJ{listed:Array Bool}{n:Nat}(h:RD listed n=0):∀ j,j<n->listed.getD j true=true:=by
 intro j hj
 unfold RD at h
 have:=Y9 h
 rw[List.filter_eq_nil_iff]at this
 simpa using this j (by simpa using hj)
theorem II{listed:Array Bool}{n i:Nat}(hi:i<n)(hs:listed.size=n)(hu:listed.getD i true=false):RD (listed.setIfInBounds i true) n+1=RD listed n:=by
 unfold RD
 have h:∀ m,m<=n->((List.range m).filter fun j=>!(listed.setIfInBounds i true).getD j true).length+(if i<m then 1 else 0)=((List.range m).filter fun j=>!listed.getD j true).length:=by
  intro m
  induction m with
  | zero=>simp
  | succ m ih=>
    intro hm
    have ih:=ih Z9
    rw[List.range_succ,List.filter_append,List.filter_append,YT,YT]
    by_cases he:m=i
    subst he
    have e1:(listed.setIfInBounds m true).getD m true=true:=by simp[Array.getD]
    rw[if_neg Z9]at ih
    rw[List.filter_cons_of_neg (by rw[e1];decide),List.filter_cons_of_pos (by rw[hu];rfl),if_pos Z9]
    simp only[List.filter_nil,YV,YY];omega
    have e1:(listed.setIfInBounds i true).getD m true=listed.getD m true:=getD_set_ne true (Ne.symm he)
    have e2:([m].filter fun j=>!(listed.setIfInBounds i true).getD j true).length=([m].filter fun j=>!listed.getD j true).length:=by
     cases hb:listed.getD m true with
     | true=>rw[List.filter_cons_of_neg (by rw[e1,hb];decide),List.filter_cons_of_neg (by rw[hb];decide)];rfl
     | false=>rw[List.filter_cons_of_pos (by rw[e1,hb];rfl),List.filter_cons_of_pos (by rw[hb];rfl)];rfl
    rw[e2]
    by_cases hlt:i<m
    rw[if_pos hlt]at ih;rw[if_pos Z9];omega
    rw[if_neg hlt]at ih;rw[if_neg Z9];omega
 have:=h n (Zg _)
 rw[if_pos hi]at this
 exact this
end
def Mg(P:Program)(N:Nat)(ops:Array Oper)(El:List Nat)(U:Nat×Nat×Nat->AS->AS)(o:Oper)(A:AS):Prop:=
 ∀ A':AS,(∀ t,t∈o.looksAt ops\/t∈El->A'.get t=A.get t)->(∀ k,lk k A'.h=lk k A.h)->∀ K:AS->Prop,(∀ gh,K (U gh A'))->E2 P N o A' K
def iv(ops:Array Oper):Nat->Nat->Nat->Bool
 | 0,_,_=>false
 | n+1,j,i=>match ops[j]? with
   | some o=>(Rw o).any fun k=>k==i||iv ops n k i
   | none=>false
theorem kh{ops:Array Oper}{L:Nat->Bool}(hcl:∀ k o,ops[k]? =some o->L k=true->∀ j,j∈Rw o->L j=true):∀ (n j i:Nat),iv ops n j i=true->L j=true->L i=true
 | 0,_,_,h,_=>by simp[iv]at h
 | n+1,j,i,h,hj=>by
   simp only[iv]at h
   split at h
   rename_i o ho
   rw[List.any_eq_true]at h
   obtain⟨k,hk,h⟩:=h
   have G7:=hcl j o ho hj k hk
   rw[Bool.or_eq_true,Zp]at h
   rcases h with rfl | h
   exact G7
   exact kh hcl n k i h G7
   simp at h
structure UOk (U:Nat×Nat×Nat->AS->AS) (Sl Hl:List Nat) (d:Nat):Prop where
 g:∀ gh B t,t ∉ Sl->(U gh B).get t=B.get t
 h:∀ gh B k,k ∉ Hl->lk k (U gh B).h=lk k B.h
 c:∀ gh B B',D0 B B'->D0 (U gh B) (U gh B')
 p:∀ gh B t v,t ∉ Sl->D0 (U gh (B.put (some t) v)) ((U gh B).put (some t) v)
 d:∀ gh B v,D0 (U gh (B.put (some d) v)) (U gh B)
 q:∀ gh B k gv,k ∉ Hl->D0 (U gh ⟨B.t,(k,gv)::B.h⟩) ⟨(U gh B).t,(k,gv)::(U gh B).h⟩
section
variable {P:Program} {N:Nat} {ops:Array Oper}
end
structure PU where
 VU:Bool
 El:List Nat
 fr:Option (List Nat)
 Sl:List Nat
 Hl:List Nat
structure ZT (P:Program) where
 T:Nat
 v:V
 ok:mX P T v
def OA(d:Nat)(v:V)(g:Nat)(B:AS):AS:=⟨(d,.ptr (.key d) [] g 0)::B.t,(d,(g,v))::B.h⟩
def bq(ops:Array Oper)(tb:List (Nat×PU))(i:Nat):PU:=match lk i tb with
 | some e=>e
 | none=>match ops[i]? with
   | some o=>⟨false,[],(match o.op with | .load _ _=>none | _=>some []),o.dst.toList,[]⟩
   | none=>⟨false,[],none,[],[]⟩
def fK(ops:Array Oper)(tb:List (Nat×PU))(i:Nat):List Nat:=(match ops[i]? with | some o=>o.looksAt ops | none=>[])++(bq ops tb i).El
def UT(A' A:AS)(fs:List Nat):Prop:= ∀ t,t∈fs->A'.get t=A.get t
def hM:Nat:=1000000
def MP(h:List (Nat×(Nat×V)))(q:Nat):Option (Nat×Nat×V×Nat):=match lk (q / 100) h with
 | some (g,v)=>match V.at g 0 v [q % 100] with
   | some (g',o',.own sz xs g1 o1 c)=>some (g',o',.own sz [] g1 o1 c,xs.length)
   | _=>none
 | none=>none
theorem yz{h h':List (Nat×(Nat×V))}{q:Nat}(e:lk (q / 100) h'=lk (q / 100) h):MP h' q=MP h q:=by unfold MP;rw[e]
def Qc(A' A:AS)(k:Nat):Prop:=if Nat.blt k hM=true then lk k A'.h=lk k A.h else MP A'.h (k-hM)=MP A.h (k-hM)
theorem ud{A' A:AS}(h:∀ k,lk k A'.h=lk k A.h)(k:Nat):Qc A' A k:=by
 unfold Qc
 split
 exact h k
 exact yz (h _)
theorem Qc.trans{A B C:AS}{k:Nat}(h1:Qc A B k)(h2:Qc B C k):Qc A C k:=by
 unfold Qc at *
 split
 rename_i c;rw[if_pos c]at h1 h2;exact Eq.trans h1 h2
 rename_i c;rw[if_neg c]at h1 h2;exact Eq.trans h1 h2
def Sk(A' A:AS):Option (List Nat)->Prop
 | none=> ∀ k,lk k A'.h=lk k A.h
 | some fr=> ∀ k,k∈fr->Qc A' A k
def Sn(P:Program)(N:Nat)(ops:Array Oper)(o:Oper)(A:AS)(v:V)(fs:List Nat)(fr:Option (List Nat)):Prop:=
 ∀ A':AS,UT A' A fs->Sk A' A fr->gd ops o A' (E2 P N o A' (fun B=>D0 B (A'.put o.dst v))) (cF N o.dst/\∀ w Pb,RV w Pb v undef [])
def UU(P:Program)(N:Nat)(o:Oper)(A:AS){G:Type}(U:G->AS->AS)(fs:List Nat)(fr:Option (List Nat)):Prop:=
 o.guard=none/\∀ A':AS,UT A' A fs->Sk A' A fr->E2 P N o A' (fun B=> ∃ g,D0 B (U g A'))
structure Rz {G:Type} (U:G->AS->AS) (fs Sl Hl:List Nat):Prop where
 g:∀ g B t,t ∉ Sl->(U g B).get t=B.get t
 h:∀ g B k,k ∉ Hl->lk k (U g B).h=lk k B.h
 c:∀ g B B',D0 B B'->D0 (U g B) (U g B')
 p:∀ g B t v,t ∉ Sl->t ∉ fs->D0 (U g (B.put (some t) v)) ((U g B).put (some t) v)
 q:∀ g B k gv,k ∉ Hl->D0 (U g ⟨B.t,(k,gv)::B.h⟩) ⟨(U g B).t,(k,gv)::(U g B).h⟩
structure Ug {G:Type} (U:G->AS->AS) (fs Sl Hl:List Nat):Prop extends Rz U fs Sl Hl where
 s:∀ q,hM+q∈Hl->∀ g B,MP (U g B).h q=MP B.h q
def M9(P:Program)(N:Nat)(ops:Array Oper)(tb:List (Nat×PU))(zs:List (Nat×ZT P)):List Nat->AS->(AS->Prop)->Prop
 | [],A,K=>K A
 | i::l,A,K=> ∃ o,ops[i]? =some o/\match lk i zs with
  | some z=> ∀ g,M9 P N ops tb zs l (OA (o.dst.getD 0) z.v g A) K
  | none=>match (bq ops tb i).VU with
   | false=>(bq ops tb i).Sl=o.dst.toList/\(bq ops tb i).Hl=[]/\∃ v,Sn P N ops o A v (fK ops tb i) (bq ops tb i).fr/\M9 P N ops tb zs l (A.put o.dst v) K
   | true=> ∃ (G:Type) (U:G->AS->AS),UU P N o A U (fK ops tb i) (bq ops tb i).fr/\Ug U (fK ops tb i) (bq ops tb i).Sl (bq ops tb i).Hl/\∀ g,M9 P N ops tb zs l (U g A) K
def cd(a b:List Nat):Bool:=a.all fun x=>!b.contains x
def Cs(a:List Nat):Option (List Nat)->Bool
 | none=>a.isEmpty
 | some b=>b.all fun x=>if Nat.blt x hM=true then !a.contains x else !a.contains ((x-hM) / 100)||a.contains x
def indep(ops:Array Oper)(tb:List (Nat×PU)){P:Program}(zs:List (Nat×ZT P))(p i:Nat):Bool:=
 (lk i zs).isNone&&!(bq ops tb p).VU&&cd (bq ops tb p).Sl (fK ops tb i)&&cd (bq ops tb i).Sl (fK ops tb p)&&cd (bq ops tb p).Sl (bq ops tb i).Sl&&Cs (bq ops tb i).Hl (bq ops tb p).fr
def pz(ops:Array Oper)(tb:List (Nat×PU)){P:Program}(zs:List (Nat×ZT P))(p i:Nat):Bool:=
 match lk i zs,ops[i]? with
 | some _,some o=>match lk p zs,ops[p]? with
   | some _,some o'=>o'.dst.getD 0 != o.dst.getD 0
   | none,_=>!(bq ops tb p).Sl.contains (o.dst.getD 0)&&!(fK ops tb p).contains (o.dst.getD 0)&&!(bq ops tb p).Hl.contains (o.dst.getD 0)&&(match (bq ops tb p).fr with | some l=>l.all (fun x=>if Nat.blt x hM=true then x != o.dst.getD 0 else (x-hM) / 100 != o.dst.getD 0) | none=>false)
   | _,none=>false
 | _,_=>false
def pP(ops:Array Oper)(m:Nat)(tb:List (Nat×PU)){P:Program}(zs:List (Nat×ZT P)):List Nat->Bool
 | []=>true
 | p::l=>(l.all fun i=>(match lk p zs with | none=>indep ops tb zs p i | some _=>false)||iv ops 64 i p||pz ops tb zs p i)&&pP ops m tb zs l
def Ch(N:Nat)(ops:Array Oper){P:Program}(zs:List (Nat×ZT P)):Bool:=zs.all fun x=>match ops[x.1]? with
 | some o=>(match o.op,o.dst with | .alloc T,some d=>T==x.2.T&&Nat.blt d N | _,_=>false)&&o.guard.isNone
 | none=>false
def Nb(l:List Nat):Bool:=match l with
 | []=>true
 | k::r=>!r.contains k&&Nb r
def Dc(ops:Array Oper)(m:Nat)(pl:List Nat):Bool:=
 (pl.all fun i=>Nat.blt i m)&&Nb pl&&((List.range m).all fun i=>pl.contains i)&&Nat.ble m ops.size&&
 (ops.toList.zipIdx.all fun (o,i)=>(Rw o).all (fun k=>Nat.blt k i))&&
 ((List.range (ops.size-m)).all fun q=>match ops[m+q]? with
   | some _=>(List.range (m+q)).all fun k=>iv ops 64 (m+q) k
   | none=>false)
section
variable {P:Program} {N:Nat} {ops:Array Oper} {tb:List (Nat×PU)} {zs:List (Nat×ZT P)}
theorem wq{a b:List Nat}(h:cd a b=true):∀ x,x∈a->x ∉ b:=fun x hx=>by
 unfold cd at h
 rw[Y6]at h
 simpa using h x hx
theorem D0.jE{A:AS}:D0 A A:=⟨fun _=>rfl,fun _=>rfl⟩
theorem KH{A B:AS}{d:Option Nat}{v:V}(h:D0 A B):D0 (A.put d v) (B.put d v):=by
 cases d with
 | none=>exact h
 | some d'=>exact⟨fun t=>by rw[AS.aA,AS.aA];split
                            rfl
                            exact h.1 t,h.2⟩
theorem Sn.congr{o:Oper}{A B:AS}{v:V}{fs:List Nat}{fr:Option (List Nat)}(h:Sn P N ops o A v fs fr)(h1:UT B A fs)(h2:Sk B A fr):Sn P N ops o B v fs fr:=fun A' k1 k2=>
 h A' (fun t ht=>(k1 t ht).trans (h1 t ht)) (by
   cases fr with
   | none=>exact fun k=>(k2 k).trans (h2 k)
   | some l=>exact fun k hk=>(k2 k hk).trans (h2 k hk))
theorem UU.congr{G:Type}{U:G->AS->AS}{o:Oper}{A B:AS}{fs:List Nat}{fr:Option (List Nat)}(h:UU P N o A U fs fr)(h1:UT B A fs)(h2:Sk B A fr):UU P N o B U fs fr:=⟨h.1,fun A' k1 k2=>
 h.2 A' (fun t ht=>(k1 t ht).trans (h1 t ht)) (by
  cases fr with
  | none=>exact fun k=>(k2 k).trans (h2 k)
  | some l=>exact fun k hk=>(k2 k hk).trans (h2 k hk))⟩
theorem uZ{A B:AS}(h:A.h=B.h)(fr:Option (List Nat)):Sk A B fr:=by
 cases fr with
 | none=>exact fun k=>by rw[h]
 | some l=>exact fun k _=>ud (fun k=>by rw[h]) k
theorem DH{A B:AS}(h:D0 A B)(fr:Option (List Nat)):Sk A B fr:=by
 cases fr with
 | none=>exact h.2
 | some l=>exact fun k _=>ud h.2 k
theorem Ik{G:Type}{U:G->AS->AS}{fs Sl Hl fr:List Nat}(hU:Ug U fs Sl Hl)(hd:Cs Hl (some fr)=true){k:Nat}(hk:k∈fr)(g:G)(B:AS):Qc (U g B) B k:=by
 have hx:=Y6.1 hd k hk
 unfold Qc
 split
 rename_i c
 rw[if_pos c]at hx
 exact hU.h g B k (by simpa using hx)
 rename_i c
 rw[if_neg c,Bool.or_eq_true]at hx
 have UC:hM+(k-hM)=k:=by
  have: ¬ k<hM:=fun h=>c (by simpa[Nat.blt_eq] using h)
  omega
 rcases hx with hx | hx
 exact yz (hU.h g B _ (by simpa using hx))
 exact hU.s _ (by rw[UC];simpa using hx) g B
theorem nU{A:AS}{d:Option Nat}{v:V}:(A.put d v).h=A.h:=by cases d <;> rfl
theorem jB{A:AS}{d:Option Nat}{v:V}{t:Nat}(h:t ∉ d.toList):(A.put d v).get t=A.get t:=by
 cases d with
 | none=>rfl
 | some d'=>rw[AS.aA,if_neg (by simpa using h)]
theorem EA{d:Nat}{v:V}{g:Nat}{A B:AS}(h:D0 A B):D0 (OA d v g A) (OA d v g B):=
 ⟨fun t=>by simp only[OA,AS.get,lk];split
            rfl
            exact h.1 t,fun k=>by simp only[OA,lk];split
                                  rfl
                                  exact h.2 k⟩
theorem eI{K:AS->Prop}(hK:∀ A B,D0 A B->K A->K B):∀ (l:List Nat) {A B:AS},D0 A B->M9 P N ops tb zs l A K->M9 P N ops tb zs l B K
 | [],A,B,h,hA=>hK A B h hA
 | i::l,A,B,h,hA=>by
   obtain⟨o,ho,hA⟩:=hA
   refine⟨o,ho,?_⟩
   split at hA
   exact fun g=>eI hK l (EA h) (hA g)
   split at hA
   obtain⟨e1,e2,v,h1,h2⟩:=hA
   exact⟨e1,e2,v,h1.congr (fun t _=>(h.1 t).symm) (DH h.symm _),eI hK l (KH h) h2⟩
   obtain⟨G,U,h1,h2,h3⟩:=hA
   exact⟨G,U,h1.congr (fun t _=>(h.1 t).symm) (DH h.symm _),h2,fun g=>eI hK l (h2.c g _ _ h) (h3 g)⟩
theorem Gh{K:AS->Prop}(hK:∀ A B,D0 A B->K A->K B){p i:Nat}{l:List Nat}{A:AS}(hp:lk p zs=none)(hi:indep ops tb zs p i=true)(h:M9 P N ops tb zs (p::i::l) A K):M9 P N ops tb zs (i::p::l) A K:=by
 unfold indep at hi
 simp only[YS,Bool.not_eq_true']at hi
 obtain⟨⟨⟨⟨⟨hz,h1⟩,h2⟩,h3⟩,h4⟩,h5⟩:=hi
 have hz:lk i zs=none:=by simpa using hz
 have h2:=wq h2
 have h3:=wq h3
 have h4:=wq h4
 obtain⟨op,L4,h⟩:=h
 rw[hp]at h
 simp only at h
 rw[h1]at h
 obtain⟨e1,e2,v,k1,oi,hoi,h⟩:=h
 refine⟨oi,hoi,?_⟩
 rw[hz]at h ⊢
 simp only at h ⊢
 rw[e1]at h2 h4
 have g1:UT A (A.put op.dst v) (fK ops tb i):=fun t ht=>(jB (fun c=>h2 t c ht)).symm
 split at h
 rename_i he
 obtain⟨f1,f2,v',k2,k3⟩:=h
 rw[f1]at h3 h4
 refine⟨f1,f2,v',k2.congr g1 (uZ nU.symm _),op,L4,?_⟩
 rw[hp]
 simp only
 rw[h1]
 refine⟨e1,e2,v,k1.congr (fun t ht=>jB (fun c=>h3 t c ht)) (uZ nU _),?_⟩
 refine eI hK l ⟨fun t=>?_,fun k=>by rw[nU,nU,nU,nU]⟩ k3
 by_cases c1:t∈oi.dst.toList
 cases hd:oi.dst with
 | none=>rw[hd]at c1;simp at c1
 | some d=>
   rw[hd]at c1
   have c1:t=d:=by simpa using c1
   subst c1
   have hn:t ∉ op.dst.toList:=fun c=>h4 t c (by rw[hd];simp)
   rw[AS.aA,if_pos rfl,jB hn,AS.aA,if_pos rfl]
 rw[jB c1]
 by_cases c2:t∈op.dst.toList
 cases hd:op.dst with
 | none=>rw[hd]at c2;simp at c2
 | some d=>
   rw[hd]at c2
   have c2:t=d:=by simpa using c2
   subst c2
   rw[AS.aA,if_pos rfl,AS.aA,if_pos rfl]
 rw[jB c2,jB c2,jB c1]
 obtain⟨G,U,k2,k3,k4⟩:=h
 refine⟨G,U,k2.congr g1 (uZ nU.symm _),k3,fun g=>⟨op,L4,?_⟩⟩
 rw[hp]
 simp only
 rw[h1]
 refine⟨e1,e2,v,k1.congr (fun t ht=>k3.g g A t (fun c=>h3 t c ht)) ?_,?_⟩
 cases hf:(bq ops tb p).fr with
 | none=>
   rw[hf]at h5
   have:(bq ops tb i).Hl=[]:=by simpa[Cs] using h5
   exact fun k=>k3.h g A k (by rw[this];simp)
 | some fr=>
   rw[hf]at h5
   exact fun k hk=>Ik k3 h5 hk g A
 refine eI hK l ?_ (k4 g)
 cases hd:op.dst with
 | none=>exact D0.jE
 | some d=>exact k3.p g A d v (fun c=>h4 d (by rw[hd];simp) c) (fun c=>h2 d (by rw[hd];simp) c)
theorem vQ{d:Nat}{v:V}{g t:Nat}{A:AS}(h:t≠d):(OA d v g A).get t=A.get t:=by simp only[OA,AS.get,lk];rw[if_neg h]
theorem Ez{d:Nat}{v:V}{g k:Nat}{A:AS}(h:k≠d):lk k (OA d v g A).h=lk k A.h:=by simp only[OA,lk];rw[if_neg h]
theorem Ig{d:Nat}{v:V}{g:Nat}{A:AS}{dd:Option Nat}{u:V}(h:d ∉ dd.toList):D0 (OA d v g (A.put dd u)) ((OA d v g A).put dd u):=by
 cases dd with
 | none=>exact D0.jE
 | some d'=>
   have hne:d≠d':=by simpa using h
   refine⟨fun t=>?_,fun k=>rfl⟩
   rw[AS.aA]
   by_cases c:t=d
   subst c
   rw[if_neg hne];simp only[OA,AS.get,lk,if_true]
   rw[vQ c,vQ c,AS.aA]
theorem Dm{K:AS->Prop}(hK:∀ A B,D0 A B->K A->K B){p i:Nat}{l:List Nat}{A:AS}(hi:pz ops tb zs p i=true)(h:M9 P N ops tb zs (p::i::l) A K):M9 P N ops tb zs (i::p::l) A K:=by
 unfold pz at hi
 split at hi
 case h_2=>simp at hi
 rename_i z o hz ho
 obtain⟨op,L4,h⟩:=h
 have inner:∀ {B:AS},M9 P N ops tb zs (i::l) B K->∀ g,M9 P N ops tb zs l (OA (o.dst.getD 0) z.v g B) K:=fun h g=>by
  obtain⟨o',P6,h⟩:=h
  rw[ho]at P6;obtain rfl:=Option.some.inj P6
  rw[hz]at h
  exact h g
 refine⟨o,ho,?_⟩
 rw[hz]
 refine fun g=>⟨op,L4,?_⟩
 split at hi
 rename_i z' o' WO Vr
 rw[L4]at Vr;obtain rfl:=Option.some.inj Vr
 rw[WO]at h ⊢
 intro g'
 have hne:op.dst.getD 0≠o.dst.getD 0:=by simpa using hi
 refine eI hK l ⟨fun t=>?_,fun k=>?_⟩ (inner (h g') g)
 simp only[OA,AS.get,lk]
 by_cases c:t=o.dst.getD 0
 rw[if_pos c,if_neg (fun c2=>hne (c2.symm.trans c)),if_pos c]
 rw[if_neg c,if_neg c]
 simp only[OA,lk]
 by_cases c:k=o.dst.getD 0
 rw[if_pos c,if_neg (fun c2=>hne (c2.symm.trans c)),if_pos c]
 rw[if_neg c,if_neg c]
 rename_i WO
 simp only[YS,Bool.not_eq_true',Zm,decide_eq_false_iff_not]at hi
 obtain⟨⟨⟨i1,i2⟩,i3⟩,i4⟩:=hi
 rw[WO]at h ⊢
 simp only at h ⊢
 have gS:UT (OA (o.dst.getD 0) z.v g A) A (fK ops tb p):=fun t ht=>vQ fun c=>i2 (by rw[<- c];exact ht)
 have gR:Sk (OA (o.dst.getD 0) z.v g A) A (bq ops tb p).fr:=by
  split at i4
  rename_i l' hl
  rw[hl]
  intro k hk
  have i5:=Y6.1 i4 k hk
  unfold Qc
  split
  rename_i c
  rw[if_pos c]at i5
  exact Ez (by simpa using i5)
  rename_i c
  rw[if_neg c]at i5
  exact yz (Ez (by simpa using i5))
  simp at i4
 split at h
 obtain⟨e1,e2,v,k1,h⟩:=h
 refine⟨e1,e2,v,k1.congr gS gR,?_⟩
 exact eI hK l (Ig (by rw[<- e1];exact i1)) (inner h g)
 obtain⟨G,U,k1,k2,h⟩:=h
 refine⟨G,U,k1.congr gS gR,k2,fun x=>eI hK l ?_ (inner (h x) g)⟩
 have e1:=k2.q x ⟨(o.dst.getD 0,.ptr (.key (o.dst.getD 0)) [] g 0)::A.t,A.h⟩ (o.dst.getD 0) (g,z.v) i3
 have e2:=k2.p x A (o.dst.getD 0) (.ptr (.key (o.dst.getD 0)) [] g 0) i1 i2
 refine D0.trans ?_ e1.symm
 refine⟨fun t=>?_,fun k=>?_⟩
 exact(e2.1 t).symm
 simp only[OA,lk]
 split
 rfl
 exact(e2.2 k).symm
 simp at hi
theorem yQ{K:AS->Prop}(hK:∀ A B,D0 A B->K A->K B){i:Nat}{l2:List Nat}:∀ (l1:List Nat) {A:AS},(∀ p,p∈l1->(lk p zs=none/\indep ops tb zs p i=true)\/pz ops tb zs p i=true)->M9 P N ops tb zs (l1++i::l2) A K->M9 P N ops tb zs (i::(l1++l2)) A K
 | [],A,_,h=>h
 | p::l1,A,hi,h=>by
   have ih:∀ A,M9 P N ops tb zs (l1++i::l2) A K->M9 P N ops tb zs (i::(l1++l2)) A K:=fun A=>yQ hK l1 (fun q hq=>hi q (by simp[hq]))
   have h2:M9 P N ops tb zs (p::i::(l1++l2)) A K:=by
    obtain⟨o,ho,h⟩:=h
    refine⟨o,ho,?_⟩
    split at h
    exact fun g=>ih _ (h g)
    split at h
    obtain⟨e1,e2,v,h1,h2⟩:=h;exact⟨e1,e2,v,h1,ih _ h2⟩
    obtain⟨G,U,h1,h2,h3⟩:=h;exact⟨G,U,h1,h2,fun g=>ih _ (h3 g)⟩
   rcases hi p Z8 with h | h
   exact Gh hK h.1 h.2 h2
   exact Dm hK h h2
theorem Bh{α:Type}:∀ {l:List (Nat×α)} {k:Nat} {v:α},lk k l=some v->(k,v)∈l
 | [],_,_,h=>by simp[lk]at h
 | (k0,v0)::l,k,v,h=>by
   simp only[lk]at h
   split at h
   rename_i e;subst e;cases h;simp
   exact List.mem_cons_of_mem _ (Bh h)
theorem Bk{m:Nat}:∀ {pl l1 l2:List Nat} {i p:Nat},pP ops m tb zs pl=true->pl=l1++i::l2->p∈l1->((lk p zs=none/\indep ops tb zs p i=true)\/pz ops tb zs p i=true)\/iv ops 64 i p=true
 | [],l1,l2,i,p,_,e,_=>by simp at e
 | q::pl,[],l2,i,p,_,_,hp=>by simp at hp
 | q::pl,x::l1,l2,i,p,h,e,hp=>by
   simp only[List.cons_append,List.cons.injEq]at e
   obtain⟨rfl,rfl⟩:=e
   simp only[pP,YS,Y6]at h
   rcases List.mem_cons.1 hp with rfl | hp
   have:=h.1 i Z8
   rw[Bool.or_eq_true,Bool.or_eq_true]at this
   rcases this with (h | h) | h
   split at h
   exact .inl (.inl ⟨by assumption,h⟩)
   simp at h
   exact .inr h
   exact .inl (.inr h)
   exact Bk h.2 rfl hp
theorem oz{m:Nat}(f:Nat->Bool):∀ {pl:List Nat},pP ops m tb zs pl=true->pP ops m tb zs (pl.filter f)=true
 | [],_=>rfl
 | p::pl,h=>by
   simp only[pP,YS,Y6]at h
   simp only[List.filter_cons]
   split
   simp only[pP,YS,Y6]
   exact⟨fun i hi=>h.1 i (List.mem_filter.1 hi).1,oz f h.2⟩
   exact oz f h.2
theorem zU{L:Nat->Bool}(hcl:∀ k o,ops[k]? =some o->L k=true->∀ j,j∈Rw o->L j=true){i k:Nat}{o:Oper}(ho:ops[i]? =some o)(Wk:∀ j,j∈Rw o->L j=true)(h:iv ops 64 i k=true):L k=true:=by
 have h:iv ops (63+1) i k=true:=h
 generalize (63:Nat)=n at h
 simp only[iv,ho]at h
 rw[List.any_eq_true]at h
 obtain⟨q,hq,h⟩:=h
 rw[Bool.or_eq_true,Zp]at h
 rcases h with rfl | h
 exact Wk _ hq
 exact kh hcl n q k h (Wk _ hq)
theorem wm{id m:Nat} {pl:List Nat} {A:AS} {Q:Exit->AS->Prop} (hm:P.follows .mixedOrders=true) (hc:pP ops m tb zs pl=true) (XA:Ch N ops zs=true) (Rh:Dc ops m pl=true)
 (h:M9 P N ops tb zs pl A (fun B=> ∃ B',D0 B B'/\WL P N ops (ops.toList.drop m) B' (Q .normal))):T P N (.region id ops true) A Q:=by
 unfold Dc at Rh
 simp only[YS,Y6]at Rh
 obtain⟨⟨⟨⟨⟨p1,p2⟩,p3⟩,p4⟩,p5⟩,p6⟩:=Rh
 have Yn:=Nat.le_of_ble_eq_true p4
 have TQ:∀ i,i∈pl↔i<m:=fun i=>⟨fun hi=>Nat.lt_of_succ_le (Nat.le_of_ble_eq_true (p1 i hi)),fun hi=>by have:=p3 i (List.mem_range.2 hi);simpa using this⟩
 have hnd:pl.Nodup:=by
  have:∀ l:List Nat,Nb l=true->l.Nodup:=by
   intro l
   induction l with
   | nil=>intro _;exact Ze
   | cons a l ih=>
     intro h
     simp only[Nb,YS,Bool.not_eq_true',Zm,decide_eq_false_iff_not]at h
     exact List.nodup_cons.2 ⟨h.1,ih h.2⟩
  exact this pl p2
 have Rr:∀ i o,ops[i]? =some o->∀ k,k∈Rw o->k<i:=fun i o ho k hk=>by
  have hmz:(o,i)∈ops.toList.zipIdx:=by rw[List.mk_mem_zipIdx_iff_getElem?];simpa using ho
  have:=p5 (o,i) hmz
  simp only[Y6]at this
  exact Nat.lt_of_succ_le (Nat.le_of_ble_eq_true (this k hk))
 have Vi:∀ i o,ops[i]? =some o->m<=i->∀ k,k<i->iv ops 64 i k=true:=fun i o ho hi k hk=>by
  have hin:i<ops.size:=(Zl.1 ho).1
  have:=p6 (i-m) (List.mem_range.2 Z9)
  rw[show m+(i-m)=i from Z9,ho]at this
  simp only[Y6]at this
  simpa using this k (List.mem_range.2 hk)
 let Kt:AS->Prop:=fun B=> ∃ B',D0 B B'/\WL P N ops (ops.toList.drop m) B' (Q .normal)
 have XF:∀ A B,D0 A B->Kt A->Kt B:=fun A B hAB ⟨B',h1,h2⟩=>⟨B',hAB.symm.trans h1,h2⟩
 intro Pb Kb a w F hs
 refine wp_region_any hm ?_
 have e9:s4 N Pb Kb A a { w with drawn:=w.drawn+1 } F:=hs.grow (fun _ _=>rfl) (Zg _) (fun _ h=>h) (fun g h=>.inl h) hs.sub
 obtain⟨w0,Yf⟩:∃ w0:World,w0={ w with drawn:=w.drawn+1 }:=⟨_,rfl⟩
 have Qm:x7 Kb w w0:=by rw[Yf];exact⟨rfl,rfl,rfl,Zg _,fun _ _=>rfl,fun _ c _ _ h=>⟨c,h,rfl⟩⟩
 rw[<- Yf]at e9 ⊢
 let rem (listed:Array Bool):List Nat:=pl.filter fun j=>!listed.getD j true
 let Ph (listed:Array Bool) (A':AS):Prop:=
  (rem listed≠[]/\M9 P N ops tb zs (rem listed) A' Kt)\/
  (∃ k,m<=k/\k<=ops.size/\(∀ j,j<ops.size->listed.getD j true=decide (j<k))/\WL P N ops (ops.toList.drop k) A' (Q .normal))
 have key:∀ fuel (listed:Array Bool) a w',listed.size=ops.size->RD listed ops.size=fuel->
  (∀ k o,ops[k]? =some o->listed.getD k true=true->∀ j,j∈Rw o->listed.getD j true=true)->Nx N Pb Kb w0 (Ph listed) a w'->
  wpAny P .any ops (fun e a' w'=>Nx N Pb Kb w (Q e) a' w') fuel listed a w':=by
  intro fuel
  induction fuel with
  | zero=>
    intro listed a w' hsz hu hcl hn
    have G4:=FJ hu
    refine⟨?_,(Nx.step (fun _ h=>h) (fun _ h=>h) (fun _ h=>.inl h) Qm hn).mono fun A' VT=>?_⟩
    rw[List.eq_nil_iff_forall_not_mem]
    intro j hj
    rw[mem_ready]at hj
    obtain⟨h0,o,ho,_⟩:=hj
    have:=G4 j (Zl.1 ho).1
    rw[h0]at this;cases this
    rcases VT with ⟨hne,_⟩ | ⟨k,P9,MT,VB,hw⟩
    exfalso
    apply hne
    rw[List.filter_eq_nil_iff]
    intro j hj
    rw[G4 j (by have:=(TQ j).1 hj;omega)];simp
    have:k=ops.size:=by
     rcases Nat.lt_or_ge k ops.size with h | h
     have:=VB k h;rw[G4 k h]at this;simp at this
     omega
    subst this
    rw[Zc Z8]at hw
    exact hw
  | succ fuel ih=>
    intro listed a w' hsz hu hcl hn
    have R7:∀ j,j<ops.size->listed.getD j false=listed.getD j true:=fun j hj=>by
     have hj':j<listed.size:=Z9
     simp[Array.getD,hj']
    constructor
    intro hr
    exfalso
    have hex:∃ j,j<ops.size/\listed.getD j true=false:=by
     refine Classical.byContradiction fun hne=>?_
     have:RD listed ops.size=0:=by
      unfold RD
      rw[List.filter_eq_nil_iff.2]
      rfl
      intro j hj
      simp only[List.mem_range]at hj
      cases hb:listed.getD j true with
      | true=>simp
      | false=>exact absurd ⟨j,hj,hb⟩ hne
     omega
    have Xj:∀ n,∀ j,j<=n->j<ops.size->listed.getD j true=false->∃ j',j'<ops.size/\listed.getD j' true=false/\∀ i,i<j'->listed.getD i true=true:=by
     intro n
     induction n with
     | zero=>intro j hj h1 h2;exact⟨j,h1,h2,fun i hi=>by omega⟩
     | succ n ihn=>
       intro j hj h1 h2
       by_cases Yh:∃ i,i<j/\listed.getD i true=false
       obtain⟨i,hi,hf⟩:=Yh;exact ihn i Z9 Z9 hf
       exact⟨j,h1,h2,fun i hi=>by
        cases hb:listed.getD i true with
        | true=>rfl
        | false=>exact absurd ⟨i,hi,hb⟩ Yh⟩
    obtain⟨j,Wh,Qn⟩:=hex
    obtain⟨j',h1,h2,h3⟩:=Xj j j (Zg _) Wh Qn
    have ho:ops[j']? =some ops[j']:=by simp[h1]
    have:j'∈Region.ready .any ops listed:=by
     rw[mem_ready]
     refine⟨h2,_,ho,fun e he hb=>?_⟩
     have hlt:=Rr j' _ ho e.on (by simp only[Rw,List.mem_map,List.mem_filter];exact⟨e,⟨by simpa using he,hb⟩,rfl⟩)
     rw[R7 _ Z9];exact h3 _ hlt
    rw[hr]at this;cases this
    intro i hi
    rw[mem_ready]at hi
    obtain⟨hi0,o,ho,Wk⟩:=hi
    have hin:i<ops.size:=(Zl.1 ho).1
    have R8:∀ k,k∈Rw o->listed.getD k true=true:=fun k hk=>by
     have hlt:=Rr i o ho k hk
     simp only[Rw,List.mem_map,List.mem_filter]at hk
     obtain⟨e,⟨he,hb⟩,rfl⟩:=hk
     rw[<- R7 _ Z9]
     exact Wk e (by simpa using he) hb
    have Oc:∀ k,k<ops.size->(listed.setIfInBounds i true).getD k true=(if k=i then true else listed.getD k true):=fun k hk=>by
     by_cases e:k=i
     subst e;simp[Array.getD,hsz,hin]
     rw[if_neg e];exact getD_set_ne true (Ne.symm e)
    have Xx:∀ k o,ops[k]? =some o->(listed.setIfInBounds i true).getD k true=true->∀ j,j∈Rw o->(listed.setIfInBounds i true).getD j true=true:=fun k o' P6 hk j hj=>by
     have QD:=(Zl.1 P6).1
     have hjk:=Rr k o' P6 j hj
     rw[Oc k QD]at hk
     rw[Oc j Z9]
     split
     rfl
     split at hk
     rename_i e;subst e;rw[ho]at P6;obtain rfl:=Option.some.inj P6;exact R8 j hj
     exact hcl k o' P6 hk j hj
    have W0:RD (listed.setIfInBounds i true) ops.size=fuel:=by have:=II hin hsz hi0;omega
    have Qp:∀ Sm RR,Nx N Pb Kb w0 (Ph (listed.setIfInBounds i true)) Sm RR->wpAny P .any ops (fun e a' w'=>Nx N Pb Kb w (Q e) a' w') fuel (listed.setIfInBounds i true) Sm RR:=
     fun Sm RR P7=>ih _ Sm RR (by simpa using hsz) W0 Xx P7
    obtain⟨A',Pb',D3,F',VT,h2,h3,h4,h5,h6⟩:=hn
    rcases VT with ⟨hne,hD⟩ | ⟨k,P9,MT,VB,hw⟩
    ·
     obtain⟨j0,hj0⟩:=List.exists_mem_of_ne_nil _ hne
     obtain⟨Wh,Qn⟩:=List.mem_filter.1 hj0
     have hj0m:=(TQ j0).1 Wh
     have UD:listed.getD j0 true=false:=by simpa using Qn
     have him:i<m:=by
      rcases Nat.lt_or_ge i m with h | h
      exact h
      have:=zU hcl ho R8 (Vi i o ho h j0 Z9);rw[UD]at this;cases this
     have hir:i∈rem listed:=List.mem_filter.2 ⟨(TQ i).2 him,by rw[hi0];rfl⟩
     obtain⟨l1,l2,hl⟩:=List.append_of_mem hir
     have TL:(rem listed).Nodup:=hnd.filter _
     have SZ:rem (listed.setIfInBounds i true)=l1++l2:=by
      have e1:rem (listed.setIfInBounds i true)=(rem listed).filter fun j=>j != i:=by
       show pl.filter _=(pl.filter _).filter _
       rw[List.filter_filter]
       apply List.filter_congr
       intro j hj
       rw[Oc j (by have:=(TQ j).1 hj;omega)]
       by_cases e:j=i
       subst e;simp
       simp[e]
      rw[e1,hl]
      rw[hl]at TL
      rw[List.nodup_append]at TL
      obtain⟨n1,n2,n3⟩:=TL
      rw[List.filter_append,List.filter_cons]
      simp only[bne_self_eq_false,Bool.false_eq_true,if_false]
      have f1:l1.filter (fun j=>j != i)=l1:=List.filter_eq_self.2 fun j hj=>by
       have:=n3 j hj i Z8;simpa using this
      have f2:l2.filter (fun j=>j != i)=l2:=List.filter_eq_self.2 fun j hj=>by
       have:=(List.nodup_cons.1 n2).1
       simp only[bne_iff_ne,ne_eq]
       rintro rfl;exact this hj
      rw[f1,f2]
     have Xq:∀ p,p∈l1->(lk p zs=none/\indep ops tb zs p i=true)\/pz ops tb zs p i=true:=fun p hp=>by
      rcases Bk (oz _ hc) hl hp with h | h
      exact h
      exfalso
      have hpr:p∈rem listed:=by rw[hl];simp[hp]
      have Xb:listed.getD p true=false:=by have:=(List.mem_filter.1 hpr).2;simpa using this
      have Xz:∀ (n j:Nat),iv ops n i j=true->listed.getD j true=true:=by
       intro n j hj
       cases n with
       | zero=>simp[iv]at hj
       | succ n=>
         simp only[iv,ho]at hj
         rw[List.any_eq_true]at hj
         obtain⟨q,hq,hj⟩:=hj
         have Ym:=R8 q hq
         rw[Bool.or_eq_true,Zp]at hj
         rcases hj with rfl | hj
         exact Ym
         exact kh (L:=fun k=>listed.getD k true) hcl n q j hj Ym
      have:=Xz 64 p h
      rw[Xb]at this;cases this
     rw[hl]at hD
     obtain⟨o',P6,hD⟩:=yQ XF l1 Xq hD
     rw[ho]at P6
     obtain rfl:=Option.some.inj P6
     have TR:∀ B N2 N7 a2 w2 F2,M9 P N ops tb zs (l1++l2) B Kt->s4 N N2 N7 B a2 w2 F2->∃ B' F3,Ph (listed.setIfInBounds i true) B'/\s4 N N2 N7 B' a2 w2 F3:=fun B N2 N7 a2 w2 F2 hB Yj=>by
      by_cases Rj:rem (listed.setIfInBounds i true)=[]
      rw[<- SZ,Rj]at hB
      obtain⟨B',e1,e2⟩:=hB
      obtain⟨F3,MN,_⟩:=Yj.le e1.symm.le
      refine⟨B',F3,.inr ⟨m,Zg _,Yn,fun j hj=>?_,e2⟩,MN⟩
      rcases Nat.lt_or_ge j m with h | h
      have:j ∉ rem (listed.setIfInBounds i true):=by rw[Rj];simp
      have: ¬ ((!(listed.setIfInBounds i true).getD j true)=true):=fun c=>this (List.mem_filter.2 ⟨(TQ j).2 h,c⟩)
      simp only[Bool.not_eq_true',Bool.not_eq_false]at this
      rw[this];simp[h]
      have hoj:ops[j]? =some ops[j]:=by simp[hj]
      rw[Oc j hj,if_neg Z9]
      cases hb:listed.getD j true with
      | false=>simp;omega
      | true=>
        have:=kh hcl 64 j j0 (Vi j _ hoj h j0 Z9) hb
        rw[UD]at this;cases this
      exact⟨B,F2,.inl ⟨Rj,by rw[SZ];exact hB⟩,Yj⟩
     unfold Go.wpOp
     simp only[ho]
     split at hD
     rename_i z hz
     unfold Ch at XA
     rw[Y6]at XA
     have MM:=XA _ (Bh hz)
     simp only[ho]at MM
     rw[YS]at MM
     obtain⟨MM,hz3⟩:=MM
     split at MM
     rename_i T d L4 L6
     simp only[YS,Zp]at MM
     have Q5:Region.wanted o (yielded ops a.tmps)=true:=by unfold Region.wanted;rw[show o.guard=none from by simpa using hz3]
     rw[if_pos Q5]
     rw[L6]at hD
     refine .inl (Oper.wp_mono ?_ (qM (K:=fun B=>M9 P N ops tb zs (l1++l2) B Kt) L4 L6 (Nat.lt_of_succ_le (Nat.le_of_ble_eq_true MM.2)) (by rw[MM.1];exact z.ok) hD Pb' D3 a w' F' _ h2))
     rintro a2 w2 ⟨B,N2,N7,F2,k1,k2,k3,k4,k5,k6⟩
     obtain⟨B',F3,hp,MN⟩:=TR B N2 N7 a2 w2 F2 k1 k2
     exact Qp a2 w2 (Nx.step h3 h4 h5 h6 ⟨B',N2,N7,F3,hp,MN,k3,k4,k5,k6⟩)
     simp at MM
     split at hD
     obtain⟨_,_,v,hv,hD⟩:=hD
     rcases tU (hv A' (fun _ _=>rfl) (uZ rfl _)) h2 with ⟨Q5,L4⟩ | ⟨Q5,hd,hvd⟩
     rw[if_pos Q5]
     refine .inl (Oper.wp_mono ?_ (L4 Pb' D3 a w' F' _ h2))
     rintro a2 w2 ⟨B,N2,N7,F2,k1,k2,k3,k4,k5,k6⟩
     obtain⟨B',F3,hp,MN⟩:=TR B N2 N7 a2 w2 F2 (eI XF _ k1.symm hD) k2
     exact Qp a2 w2 (Nx.step h3 h4 h5 h6 ⟨B',N2,N7,F3,hp,MN,k3,k4,k5,k6⟩)
     rw[if_neg (by simp[Q5])]
     obtain⟨F2,K1⟩:=h2.pR (d:=o.dst) (v:=v) (x:=undef) hd (hvd w' Pb')
     obtain⟨B',F3,hp,MN⟩:=TR _ Pb' D3 _ w' F2 hD K1
     exact Qp _ w' ⟨B',Pb',D3,F3,hp,MN,h3,h4,h5,h6⟩
     obtain⟨G,U,hE,_,hD⟩:=hD
     have Q5:Region.wanted o (yielded ops a.tmps)=true:=by unfold Region.wanted;rw[hE.1]
     rw[if_pos Q5]
     refine .inl (Oper.wp_mono ?_ (hE.2 A' (fun _ _=>rfl) (uZ rfl _) Pb' D3 a w' F' _ h2))
     rintro a2 w2 ⟨B,N2,N7,F2,⟨g,k1⟩,k2,k3,k4,k5,k6⟩
     obtain⟨B',F3,hp,MN⟩:=TR B N2 N7 a2 w2 F2 (eI XF _ k1.symm (hD g)) k2
     exact Qp a2 w2 (Nx.step h3 h4 h5 h6 ⟨B',N2,N7,F3,hp,MN,k3,k4,k5,k6⟩)
    ·
     have hik:i=k:=by
      rw[VB i hin]at hi0
      simp only[decide_eq_false_iff_not]at hi0
      rcases Nat.lt_or_ge k i with h | h
      have:=zU hcl ho R8 (Vi i o ho Z9 k h)
      rw[VB k Z9]at this;simp at this
      omega
     subst hik
     have Pj:ops.toList.drop i=o::ops.toList.drop (i+1):=by
      rw[List.drop_eq_getElem_cons (by simpa using hin)]
      have:ops[i]=o:=by have:=Zl.1 ho;exact this.2
      simp[this]
     rw[Pj]at hw
     have TR:∀ B,WL P N ops (ops.toList.drop (i+1)) B (Q .normal)->Ph (listed.setIfInBounds i true) B:=fun B hB=>
      .inr ⟨i+1,Z9,Z9,fun j hj=>by
       rw[Oc j hj]
       split
       rename_i e;subst e;simp
       rename_i e;rw[VB j hj]
       have:(j<i)↔(j<i+1):=Z9
       simp[this],hB⟩
     unfold Go.wpOp
     simp only[ho]
     rcases tU hw h2 with ⟨Q5,L4⟩ | ⟨Q5,hd,u,hu,SU⟩
     rw[if_pos Q5]
     refine .inl (Oper.wp_mono ?_ (L4 Pb' D3 a w' F' _ h2))
     intro a2 w2 Uy
     exact Qp a2 w2 (Nx.step h3 h4 h5 h6 (Uy.mono TR))
     rw[if_neg (by simp[Q5])]
     obtain⟨F2,K1⟩:=h2.pR (d:=o.dst) (v:=u) (x:=undef) hd (hu w' Pb')
     exact Qp _ w' ⟨_,Pb',D3,F2,TR _ SU,K1,h3,h4,h5,h6⟩
 have R3:∀ k,k<ops.size->(Array.replicate ops.size false).getD k true=false:=fun k hk=>by simp[Array.getD,hk]
 have SY:rem (Array.replicate ops.size false)=pl:=List.filter_eq_self.2 fun j hj=>by rw[R3 j (by have:=(TQ j).1 hj;omega)];rfl
 have y8:∃ A1 F1,Ph (Array.replicate ops.size false) A1/\s4 N Pb Kb A1 a w0 F1:=by
  by_cases hp:pl=[]
  subst hp
  obtain⟨B',e1,e2⟩:=h
  obtain⟨F3,MN,_⟩:=e9.le e1.symm.le
  have Wb:m=0:=by
   rcases Nat.eq_zero_or_pos m with h | h
   exact h
   have:=(TQ 0).2 h;simp at this
  exact⟨B',F3,.inr ⟨m,Zg _,Yn,fun j hj=>by rw[R3 j hj,Wb];simp,e2⟩,MN⟩
  exact⟨A,F,.inl ⟨by rw[SY];exact hp,by rw[SY];exact h⟩,e9⟩
 obtain⟨A1,F1,hP1,Nw⟩:=y8
 exact key ops.size (Array.replicate ops.size false) a w0 Z8 (by
  unfold RD
  rw[List.filter_eq_self.2]
  simp
  intro j hj;simp only[List.mem_range]at hj;rw[R3 j hj];rfl)
  (fun k o ho hk=>by rw[R3 k (Zl.1 ho).1]at hk;cases hk) ⟨A1,Pb,Kb,F1,hP1,Nw,fun _ h=>h,fun _ h=>h,fun _ h=>.inl h,x7.refl _ _⟩
end
section
variable {P:Program} {N:Nat} {ops:Array Oper} {A A':AS}
theorem JX{w:World}{Pb:Nat->Prop}{v:V}{x:Value}{F:List Nat}(h:Tz w Pb v x F):RV w Pb v x F:=by
 cases v with
 | gv b u=>simp[Tz,R]at h
 | _=>exact h
def V.gI:V->Bool | .gv _ _=>true | _=>false
theorem yC{w:World}{Pb:Nat->Prop}{v:V}{x:Value}{F:List Nat}(h:RV w Pb v x F)(hn:v.gI=false):Tz w Pb v x F:=by
 cases v with
 | gv b u=>simp[V.gI]at hn
 | _=>exact h
theorem qw{a:Act}{t:Nat}:a.put (some t) (a.tmps.getD t undef)=a:=by
 cases a with
 | mk tmps defers=>
   simp only[Act.put]
   congr 1
   apply Array.ext_getElem?
   intro i
   by_cases e:t=i
   subst e
   by_cases h:t<tmps.size
   simp[h,Array.getElem?_setIfInBounds_self]
   simp[h,Array.getElem?_setIfInBounds]
   rw[Array.getElem?_setIfInBounds_ne e]
def pj(G b:Bool)(v:V):Prop:=match v.cZ||v.gI with
 | false=>G=true->b=true
 | true=>False
theorem xo{G b:Bool}{v:V}(h:pj G b v)(hG:G=true):b=true/\v.cZ=false/\v.gI=false:=by
 unfold pj at h
 split at h
 rename_i e;rw[Bool.or_eq_false_iff]at e;exact⟨h hG,e.1,e.2⟩
 exact h.elim
def AS.un(G:Bool):List Operand->AS->Prop×AS
 | [],A=>(True,A)
 | .tmp t::r,A=>match A.get t with
   | .gv b v=>match AS.un G r (A.put (some t) v) with
     | (C,B)=>(pj G b v/\C,B)
   | _=>AS.un G r A
 | _::r,A=>AS.un G r A
theorem jG{w:World}{Pb Kb:Nat->Prop}{a:Act}{G:Bool}(hG:G=true):∀ (xs:List Operand) {A B:AS} {F:l8->List Nat} {C:Prop},AS.un G xs A=(C,B)->C->s4 N Pb Kb A a w F->(∀ t,Operand.tmp t∈xs->t<N)->∃ F',s4 N Pb Kb B a w F'
 | [],A,B,F,C,h,hC,hs,_=>by simp only[AS.un,YU]at h;obtain⟨_,rfl⟩:=h;exact⟨F,hs⟩
 | x::xs,A,B,F,C,h,hC,hs,hN=>by
   have Qa:∀ t,Operand.tmp t∈xs->t<N:=fun t ht=>hN t (by simp[ht])
   cases x with
   | tmp t=>
     simp only[AS.un]at h
     split at h
     rename_i b v hg
     cases hu:AS.un G xs (A.put (some t) v) with
     | mk C1 B1=>
       rw[hu]at h
       simp only[YU]at h
       obtain⟨rfl,rfl⟩:=h
       have hr:=hs.slot t
       rw[hg]at hr
       have y9:=hs.put (d:=t) (v:=v) (x:=a.tmps.getD t undef) (F':=[]) (hN t Z8) (JX (hr.2.1 (xo hC.1 hG).1)) Z8 Z8 Z8
       rw[qw]at y9
       exact jG hG xs hu hC.2 y9 Qa
     exact jG hG xs h hC hs Qa
   | _=>exact jG hG xs h hC hs Qa
def HB(A B:AS):Prop:=(∀ i,A.get i=B.get i\/∃ b,A.get i=.gv b (B.get i)/\b=true/\(B.get i).cZ=false/\(B.get i).gI=false)/\A.h=B.h
theorem s4.wrap{w:World}{Pb Kb:Nat->Prop}{a:Act}{F:l8->List Nat}{B:AS}(hs:s4 N Pb Kb B a w F)(h:HB A B):s4 N Pb Kb A a w F where
 size:=hs.size
 defers:=hs.defers
 slot:=fun i=>by
  rcases h.1 i with e | ⟨b,e,hb,ho,hg⟩
  rw[e];exact hs.slot i
  have hr:=hs.slot i
  rw[e]
  have hF:=vS ho hr
  rw[hF]at hr ⊢
  exact⟨rfl,fun _=>yC hr hg,fun c=>by rw[hb]at c;cases c⟩
 root:=fun k g v hk=>hs.root k g v (by rw[<- h.2];exact hk)
 cd:=hs.cd
 nodup:=hs.nodup
 free:=hs.free
 sub:=hs.sub
 bound:=hs.bound
theorem nk{G:Bool}(hG:G=true):∀ (xs:List Operand) {A B:AS} {C:Prop},AS.un G xs A=(C,B)->C->HB A B
 | [],A,B,C,h,hC=>by simp only[AS.un,YU]at h;obtain⟨_,rfl⟩:=h;exact⟨fun _=>.inl rfl,rfl⟩
 | x::xs,A,B,C,h,hC=>by
   cases x with
   | tmp t=>
     simp only[AS.un]at h
     split at h
     rename_i b v hg
     cases hu:AS.un G xs (A.put (some t) v) with
     | mk C1 B1=>
       rw[hu]at h
       simp only[YU]at h
       obtain⟨rfl,rfl⟩:=h
       obtain⟨k1,k2⟩:=nk hG xs hu hC.2
       obtain⟨hb,ho,hv⟩:=xo hC.1 hG
       refine⟨fun i=>?_,k2⟩
       have:=k1 i
       rw[AS.aA]at this
       by_cases e:i=t
       subst e
       rw[if_pos rfl]at this
       rcases this with e' | ⟨b',e',_⟩
       exact .inr ⟨b,by rw[hg,<- e'],hb,by rw[<- e'];exact ho,by rw[<- e'];exact hv⟩
       rw[e']at hv;simp[V.gI]at hv
       rw[if_neg e]at this;exact this
     exact nk hG xs h hC
   | _=>exact nk hG xs h hC
def NN(A:AS)(ops:Array Oper)(j:Nat)(b:Bool):Option Bool:=
 match ((ops[j]?).bind (·.dst)).map A.get with
 | some (.lit (.bool g))=>some (g==b)
 | some (.gv c (.lit (.bool g)))=>some (c&&(g==b))
 | _=>none
theorem pX{A:AS}{o:Oper}{j:Nat}{b G:Bool}{x y:Prop}(hg:o.guard=some (j,b))(h:NN A ops j b=some G)(hx:G=true->x)(hy:G=false->y):gd ops o A x y:=by
 unfold NN at h
 unfold gd
 rw[hg]
 simp only
 split at h
 rename_i g e
 try rw[e]
 simp only[YR]at h ⊢
 subst h
 split
 rename_i e';exact hx (by simp[e'])
 rename_i e';exact hy (by simp[e'])
 rename_i c g e
 try rw[e]
 simp only[YR]at h ⊢
 subst h
 split
 rename_i e';exact hx e'
 rename_i e';exact hy (by simpa using e')
 simp at h
def PE(N:Nat):List Operand->Bool
 | []=>true
 | .tmp t::r=>decide (t<N)&&PE N r
 | _::r=>PE N r
theorem pg:∀ {xs:List Operand},PE N xs=true->∀ t,Operand.tmp t∈xs->t<N
 | [],_,t,ht=>by simp at ht
 | x::xs,h,t,ht=>by
   cases x with
   | tmp t'=>
     simp only[PE,YS,Zo]at h
     simp only[List.mem_cons]at ht
     rcases ht with e | ht
     injection e with e;subst e;exact h.1
     exact pg h.2 t ht
   | _=>
     simp only[List.mem_cons,reduceCtorEq,false_or]at ht
     exact pg (xs:=xs) (by simpa[PE] using h) t ht
theorem Gb{o:Oper} {l:List Oper} {K:AS->Prop} {j:Nat} {b G:Bool} {C C':Prop} {B:AS} {v:V} {xs:List Operand} (hg:o.guard=some (j,b)) (hG:NN A ops j b=some G) (hu:AS.un G xs A=(C,B))
 (y8:G6 P B o.op=some (C',v)) (Nh:PE N xs=true) (hd:cF N o.dst) (hC:G=true->C/\C'/\v.gI=false)
 (hK:WL P N ops l (A.put o.dst (.gv G v)) K):WL P N ops (o::l) A K:=by
 refine pX hg hG (fun M4=>?_) (fun S6=>?_)
 obtain⟨h1,h2,h3⟩:=hC M4
 refine iR (v:=.gv G v) hd hK fun Pb Kb a w F hs=>?_
 obtain⟨F',y9⟩:=jG M4 _ hu h1 hs (pg Nh)
 obtain⟨x,hx,hr⟩:=wB y8 h2 y9 rfl
 exact⟨x,hx,rfl,fun _=>yC hr h3,fun h=>by rw[M4]at h;cases h⟩
 exact⟨hd,.gv G v,fun _ _=>⟨rfl,(fun h=>by rw[S6]at h;cases h),fun _=>rfl⟩,hK⟩
theorem bu{x:Operand}(h:∀ t,x=.tmp t->A'.get t=A.get t):A'.ev x=A.ev x:=by
 cases x with
 | tmp t=>exact h t rfl
 | _=>rfl
theorem kM{x:Operand}(h:∀ t,x=.tmp t->A'.get t=A.get t):A'.cp x=A.cp x:=by
 cases x with
 | tmp t=>simp only[AS.cp,h t rfl]
 | _=>rfl
theorem uH{x:Option Operand}(h:∀ t,x=some (.tmp t)->A'.get t=A.get t):x.map A'.ev=x.map A.ev:=by
 cases x with
 | none=>rfl
 | some y=>simp only[Option.map_some,bu (x:=y) fun t e=>h t (by rw[e])]
theorem jF{G:Bool}:∀ (xs:List Operand) {A A' B:AS} {C:Prop},AS.un G xs A=(C,B)->(∀ t,Operand.tmp t∈xs->A'.get t=A.get t)->
 ∃ B',AS.un G xs A'=(C,B')/\(∀ t,A'.get t=A.get t->B'.get t=B.get t)/\B'.h=A'.h/\B.h=A.h
 | [],A,A',B,C,h,_=>by
   simp only[AS.un,YU]at h;obtain⟨rfl,rfl⟩:=h
   exact⟨A',rfl,fun _ h=>h,rfl,rfl⟩
 | x::xs,A,A',B,C,h,hx=>by
   have Nd:∀ t,Operand.tmp t∈xs->A'.get t=A.get t:=fun t ht=>hx t (by simp[ht])
   cases x with
   | tmp t=>
     have ht:=hx t Z8
     simp only[AS.un]at h ⊢
     rw[ht]
     split at h
     rename_i b v hg
     cases hu:AS.un G xs (A.put (some t) v) with
     | mk C1 B1=>
       rw[hu]at h
       simp only[YU]at h
       obtain⟨rfl,rfl⟩:=h
       obtain⟨B',k1,k2,k3,k4⟩:=jF xs (A':=A'.put (some t) v) hu (fun t' W4=>by
        rw[AS.aA,AS.aA];split
        rfl
        exact Nd t' W4)
       refine⟨B',by simp only[k1],fun t' W4=>k2 t' ?_,by rw[k3];rfl,by rw[k4];rfl⟩
       rw[AS.aA,AS.aA];split
       rfl
       exact W4
     exact jF xs h Nd
   | const c=>exact jF xs h Nd
   | global g=>exact jF xs h Nd
   | func f=>exact jF xs h Nd
theorem eC{o:Oper}{t:Nat}(h:Operand.tmp t∈o.op.operands.toList):t∈o.looksAt ops:=by
 unfold Oper.looksAt;rw[Y1];exact .inl (List.mem_filterMap.2 ⟨_,h,rfl⟩)
theorem qL{xs:List Operand}(h:∀ t,Operand.tmp t∈xs->A'.get t=A.get t):xs.map A'.cp=xs.map A.cp:=by
 apply List.map_congr_left
 intro x hx
 exact kM fun t e=>h t (by rw[<- e];exact hx)
theorem PC.er{f:FuncId}{L:List V}{Q:V->Prop}(h:PC P f L Q):PC P f L (fun r=> ∃ r',Q r'/\r=r'.er):=by
 refine⟨h.1,fun w Pb cargs h1 h2=>(h.2 w Pb cargs h1 h2).mono ?_⟩
 rintro e w' ⟨r,x,F,Pb',rfl,q,hr,hnd,hF,k1,k2,hb⟩
 refine⟨r.er,x,[],fun g=>Pb' g\/g∈F,rfl,⟨r,q,rfl⟩,CW hr (fun g hg=>.inl hg) (fun g hg=>.inr hg),Ze,Z8,fun g hg=>.inl (k1 g hg),fun g hg=>?_,hb⟩
 rcases hg with hg | hg
 exact k2 g hg
 exact .inr ⟨(hF g hg).1,(hF g hg).2.1⟩
theorem Ho{K:AS->Prop} {d:Option Nat} {f:FuncId} {xs:Array Operand} {K5:Array TypeId} {ty:TypeId} {pos:String} {after:Array Edge} {rest:List Oper}
 {j:Nat} {b G:Bool} {C:Prop} {B:AS} {L:List V} {E:V} (hd:cF N d) (hG:NN A ops j b=some G) (hu:AS.un G xs.toList A=(C,B)) (Nh:PE N xs.toList=true)
 (hL:xs.toList.map B.cp=L) (hc:G=true->C/\PC P f L (fun r=>r.er=E)/\E.gI=false/\E.cZ=false) (hK:WL P N ops rest (A.put d (.gv G E)) K):
 WL P N ops (⟨d,.call { callee:=.value (.func f),args:=xs,argTypes:=K5 },ty,pos,after,some (j,b)⟩ :: rest) A K:=by
 subst hL
 refine pX (j:=j) (b:=b) rfl hG (fun M4=>?_) (fun S6=>⟨hd,.gv G E,fun _ _=>⟨rfl,(fun h=>by rw[S6]at h;cases h),fun _=>rfl⟩,hK⟩)
 obtain⟨h1,h2,h3,h4⟩:=hc M4
 intro Pb Kb a w F Q' hs
 obtain⟨F',y9⟩:=jG M4 _ hu h1 hs (pg Nh)
 have hw:=nk M4 _ hu h1
 have J4:=oD (N:=N) (o:=⟨d,.call { callee:=.value (.func f),args:=xs,argTypes:=K5 },ty,pos,after,some (j,b)⟩) (K:=fun A'=>A'=B.put d E) (A:=B) rfl hd h2 (fun _ h=>h) rfl
 refine Oper.wp_mono ?_ (J4 Pb Kb a w F' Q' y9)
 rintro a' w' ⟨A',Pb',D3,F2,rfl,K1,k3,k4,k5,k6⟩
 refine⟨_,Pb',D3,F2,hK,K1.wrap ?_,k3,k4,k5,k6⟩
 cases d with
 | none=>exact hw
 | some d=>
   refine⟨fun i=>?_,hw.2⟩
   rw[AS.aA,AS.aA]
   by_cases e:i=d
   rw[if_pos e,if_pos e];exact .inr ⟨G,rfl,M4,h4,h3⟩
   rw[if_neg e,if_neg e];exact hw.1 i
end
def FM(op:BinOp)(a b:BL):Option (Prop×V):=
 match op with
 | .add=>some (a.length+b.length<=4611686018427387904,.lit (.string (Str (a++b))))
 | .eql=>some (True,.lit (.bool (a==b)))
 | .neq=>some (True,.lit (.bool (!(a==b))))
 | _=>none
def Cm(op:BinOp)(d:Option D)(x y:V):Option (Prop×V):=
 match d,x,y with
 | some .str,.lit (.string a),.lit (.string b)=>FM op a.data.toList b.data.toList
 | d,x,y=>tx op d x y
def KZ:Option D->V->V->Option (Prop×V)
 | some .str,.lit (.string s),.lit (.int _ i)=>some (0<=i/\i<s.data.toList.length,.lit (.int .u8 (s.data.toList.getD i.toNat 0).toNat))
 | _,_,_=>none
def HY(s:BL)(lo hi:Option V):Option (Prop×V):=
 match TC lo,S2 s.length hi with
 | some l,some h=>some (0<=l/\l<=h/\h<=s.length,.lit (.string (Str ((s.take h.toNat).drop l.toNat))))
 | _,_=>none
def Le(x:V)(lo hi:Option V):Option (Prop×V):=
 match x with
 | .lit (.string s)=>HY s.data.toList lo hi
 | _=>none
def FN:Option D->V->Option (Prop×V)
 | some .str,.lit (.string s)=>some (True,.lit (.int .i64 s.data.toList.length))
 | d,x=>zb d x
def Da(P:Program)(A:AS)(c:Call):Option (Prop×V):=
 match c.callee with
 | .builtin .len=>match c.args.toList,c.argTypes.toList with
   | [x],[T]=>FN (tD P T) (A.ev x)
   | _,_=>none
 | .builtin .max=>match c.args.toList with
   | [x,y]=>Cf (A.ev x) (A.ev y)
   | _=>none
 | _=>none
def yn(P:Program)(d:Option D)(x:V)(j:Nat):Option (Prop×V):=
 match d with
 | some (.st fs)=>match fs[j]? with
   | some (off,T)=>match ti P T with
     | some i=>match x with
       | .agg vs=>match vs[j]? with
         | some v=>if (V.ns (vs.take j)==off&&(i.sz==v.n&&i.d.agg==v.isAgg))=true then some (True,v) else none
         | none=>none
       | _=>none
     | none=>none
   | none=>none
 | _=>none
def qt(P:Program)(d:Option D)(x:V)(j:Nat):Option (Prop×V):=
 match d with
 | some (.st fs)=>match fs[j]? with
   | some (off,T)=>match ti P T with
     | some i=>match x with
       | .ptr r p g o=>if (i.sz != 0)=true then some (True,.ptr r (p++[j]) g (o+off)) else none
       | .ep (.agg vs)=>match vs[j]? with
         | some v=>if (i.sz != 0&&V.ns (vs.take j)==off)=true then some (True,.ep v) else none
         | none=>none
       | _=>none
     | none=>none
   | none=>none
 | _=>none
def HE(A:AS)(i:Option TI)(x:V)(x4:List V):Option (Prop×V×List V):=
 match i with
 | some i=>match x with
   | .ptr r p g o=>match x4 with
     | []=>none
     | .a8::x4=>match A.at r p with
       | some (g',o',v)=>if (v.n==i.sz&&i.d.agg==v.isAgg)=true then some ((g',o')=(g,o),v.Qs r p,x4) else none
       | none=>none
     | v::x4=>if (v.n==i.sz&&i.d.agg==v.isAgg)=true then some (A.at r p=some (g,o,v),v.Qs r p,x4) else none
   | .ep v=>if (v.n==i.sz&&i.d.agg==v.isAgg)=true then some (True,v,x4) else none
   | _=>none
 | none=>none
def wO(x4:List V):Option (Prop×V)->Option (Prop×V×List V)
 | some (C,v)=>some (C,v,x4)
 | none=>none
def uE(P:Program)(d:Option D)(x i:V)(x4:List V):Option (Prop×V×List V):=
 match d,i with
 | some (.sl e),.lit (.int _ i)=>match ti P e with
   | some t=>match x with
     | .sl _ xs=>match x4 with
       | v::x4=>if (v.n==t.sz)=true then some (0<=i/\xs[i.toNat]? =some v,.ep v,x4) else none
       | []=>none
     | .hd r p sz g o lo n _=>if (sz==t.sz)=true then some (0<=i/\i<n,.ptr r (p++[lo+i.toNat]) g (o+(lo+i.toNat)*sz),x4) else none
     | _=>none
   | none=>none
 | d,i=>wO x4 (iZ P d x i)
def sY(P:Program)(A:AS)(op:Op)(x4:List V):Option (Prop×V×List V):=
 match op with
 | .binOp o T x y _=>wO x4 (Cm o (tD P T) (A.ev x) (A.ev y))
 | .index T x i=>wO x4 (KZ (tD P T) (A.ev x) (A.ev i))
 | .slice T x lo hi none=>match tD P T with
   | some .str=>wO x4 (Le (A.ev x) (lo.map A.ev) (hi.map A.ev))
   | d=>wO x4 (Ci P d (A.ev x) (lo.map A.ev) (hi.map A.ev))
 | .call c=>wO x4 (Da P A c)
 | .field T x j=>wO x4 (yn P (tD P T) (A.cp x) j)
 | .fieldAddr T x j=>wO x4 (qt P (tD P T) (A.ev x) j)
 | .load T x=>HE A (ti P T) (A.ev x) x4
 | .indexAddr T x i=>uE P (tD P T) (A.ev x) (A.ev i) x4
 | op=>wO x4 (G6 P A op)
section
variable {P:Program} {N:Nat} {ops:Array Oper} {A A':AS}
theorem qj(s:ByteArray):Str s.data.toList=s:=by apply ByteArray.ext;simp[Str]
theorem eG{x4 Oq:List V}{x:Option (Prop×V)}{C:Prop}{v:V}(h:wO x4 x=some (C,v,Oq)):x=some (C,v):=by
 cases x with
 | none=>simp[wO]at h
 | some y=>obtain⟨a,b⟩:=y;simp only[wO,YR,YU]at h;obtain⟨rfl,rfl,_⟩:=h;rfl
theorem Jp{op:BinOp}{d:Option D}{x y:V}{C:Prop}{v:V}(h:Cm op d x y=some (C,v))(hC:C):∃ C',tx op d x y=some (C',v)/\C':=by
 unfold Cm at h
 split at h
 rename_i a b
 simp only[tx]
 cases op <;> simp only[FM,YR,YU,reduceCtorEq]at h <;> obtain⟨rfl,rfl⟩:=h
 refine⟨a.size+b.size<=4611686018427387904,?_,by rw[Array.length_toList,Array.length_toList]at hC;exact hC⟩
 simp only[vW];rw[<- IW,qj,qj]
 refine⟨True,?_,trivial⟩
 simp only[vW,Lib.toList_data]
 refine⟨True,?_,trivial⟩
 simp only[vW,Lib.toList_data]
 exact⟨C,h,hC⟩
theorem rY{op:Op}{x4 Oq:List V}{C:Prop}{v:V}(h:sY P A op x4=some (C,v,Oq))(hC:C):∃ C',G6 P A op=some (C',v)/\C':=by
 unfold sY at h
 split at h
 exact Jp (eG h) hC
 rename_i T x i
 have h:=eG h
 unfold KZ at h
 split at h
 rename_i s k i' e1 e2 e3
 simp only[YR,YU]at h
 obtain⟨rfl,rfl⟩:=h
 refine⟨0<=i'/\i'<s.size,?_,by rw[Array.length_toList]at hC;exact hC⟩
 simp only[G6,OC,GF,e1,e2,e3]
 rw[<- qj s,KC];rfl
 simp at h
 rename_i T x lo hi
 split at h
 rename_i e
 have h:=eG h
 simp only[G6,e]
 unfold Le at h
 split at h
 rename_i s e'
 unfold HY at h
 split at h
 rename_i l hh e1 e2
 simp only[YR,YU]at h
 obtain⟨rfl,rfl⟩:=h
 have UL:S2 s.size (hi.map A.ev)=some hh:=by
  rw[<- e2,Array.length_toList];rfl
 refine⟨0<=l/\l<=hh/\hh<=s.size,?_,by rw[Array.length_toList]at hC;exact hC⟩
 simp only[CM,e',Gz,e1,UL]
 rw[<- Jw,qj]
 simp at h
 simp at h
 rename_i d hd
 have h:=eG h
 refine⟨C,?_,hC⟩
 simp only[G6]
 exact h
 rename_i c
 have h:=eG h
 unfold Da at h
 split at h
 rename_i hc
 split at h
 rename_i x T hx hT
 simp only[G6,OC,vC,hc,hx,hT]
 unfold FN at h
 split at h
 rename_i s e1 e2
 simp only[YR,YU]at h
 obtain⟨rfl,rfl⟩:=h
 exact⟨True,by simp only[zb,e1,e2,ByteArray.size,Array.length_toList],trivial⟩
 exact⟨C,h,hC⟩
 simp at h
 rename_i hc
 split at h
 rename_i x y hx
 simp only[G6,OC,vC,hc,hx]
 exact⟨C,h,hC⟩
 simp at h
 simp at h
 rename_i T x j
 have h:=eG h
 simp only[G6]
 unfold yn at h
 split at h
 rename_i fs e1
 split at h
 rename_i off T' e2
 split at h
 rename_i i e3
 split at h
 rename_i vs e4
 split at h
 rename_i u e5
 split at h
 rename_i hb
 simp only[YR,YU]at h
 obtain⟨_,rfl⟩:=h
 simp only[YS,Zp]at hb
 exact⟨_,by simp only[uL,e1,e2,e3,e4,e5],hb⟩
 simp at h
 simp at h
 simp at h
 simp at h
 simp at h
 simp at h
 rename_i T x j
 have h:=eG h
 simp only[G6]
 unfold qt at h
 split at h
 rename_i fs e1
 split at h
 rename_i off T' e2
 split at h
 rename_i i e3
 split at h
 rename_i r p g o e4
 split at h
 rename_i hb
 simp only[YR,YU]at h
 obtain⟨_,rfl⟩:=h
 exact⟨i.sz≠0,by simp only[kE,e1,e2,e3,e4],by simpa using hb⟩
 simp at h
 rename_i vs e4
 split at h
 rename_i u e5
 split at h
 rename_i hb
 simp only[YR,YU]at h
 obtain⟨_,rfl⟩:=h
 simp only[YS,Zp,bne_iff_ne]at hb
 exact⟨_,by simp only[kE,e1,e2,e3,e4,e5],hb⟩
 simp at h
 simp at h
 simp at h
 simp at h
 simp at h
 simp at h
 rename_i T x
 simp only[G6]
 unfold HE at h
 split at h
 rename_i i e1
 split at h
 rename_i r p g o e2
 split at h
 simp at h
 split at h
 rename_i g1 o1 u e3
 split at h
 rename_i hb
 simp only[YR]at h
 obtain⟨h1,h2⟩:=Prod.mk.inj h
 obtain⟨rfl,_⟩:=Prod.mk.inj h2
 subst h1
 obtain⟨rfl,rfl⟩:=Prod.mk.inj hC
 simp only[YS,Zp]at hb
 exact⟨g1=g1/\o1=o1/\u.n=i.sz/\i.d.agg=u.isAgg,by simp only[kv,e1,e2,e3],rfl,rfl,hb.1,hb.2⟩
 simp at h
 simp at h
 rename_i u OW _
 split at h
 rename_i hb
 simp only[YR,YU]at h
 obtain⟨rfl,rfl,_⟩:=h
 simp only[YS,Zp]at hb
 exact⟨g=g/\o=o/\u.n=i.sz/\i.d.agg=u.isAgg,by simp only[kv,e1,e2,hC],rfl,rfl,hb.1,hb.2⟩
 simp at h
 rename_i u e2
 split at h
 rename_i hb
 simp only[YR,YU]at h
 obtain⟨_,rfl,_⟩:=h
 simp only[YS,Zp]at hb
 exact⟨_,by simp only[kv,e1,e2],hb⟩
 simp at h
 simp at h
 simp at h
 rename_i T x i
 simp only[G6]
 unfold uE at h
 split at h
 rename_i e k i' e1 e2
 split at h
 rename_i t e3
 split at h
 rename_i full xs e4
 split at h
 rename_i u OW
 split at h
 rename_i hb
 simp only[YR,YU]at h
 obtain⟨rfl,rfl,_⟩:=h
 obtain⟨h0,hx⟩:=hC
 have hlt:=(Y7.1 hx).1
 have hv:xs.getD i'.toNat .a8=u:=by rw[YQ,hx];rfl
 exact⟨0<=i'/\i'<xs.length/\u.n=t.sz,by simp only[iZ,e1,e2,e3,e4,hv],h0,Z9,by simpa using hb⟩
 simp at h
 simp at h
 rename_i r p sz g o lo n c e4
 split at h
 rename_i hb
 simp only[YR,YU]at h
 obtain⟨rfl,rfl,_⟩:=h
 exact⟨0<=i'/\i'<n/\sz=t.sz,by simp only[iZ,e1,e2,e3,e4],hC.1,hC.2,by simpa using hb⟩
 simp at h
 simp at h
 simp at h
 exact⟨C,eG h,hC⟩
 exact⟨C,eG h,hC⟩
theorem AS.le_refl(A:AS):A.le A:=⟨fun _=>.inr rfl,fun _=>.inr rfl⟩
theorem AS.le_trans{A B C:AS}(h:A.le B)(k:B.le C):A.le C:=
 ⟨fun i=>by
  rcases h.1 i with e | e
  exact .inl e
  rw[e];exact k.1 i,
  fun i=>by
   rcases h.2 i with e | e
   exact .inl e
   rw[e];exact k.2 i⟩
theorem Gk{o:Oper}{K K':AS->Prop}(h:E2 P N o A K)(hK:∀ B,K B->K' B):E2 P N o A K':=
 fun Pb Kb a w F Q hs=>Oper.wp_mono (fun _ _ hn=>hn.mono hK) (h Pb Kb a w F Q hs)
def CU(A:AS):List Nat->List (Nat×(Nat×V))
 | []=>[]
 | k::ks=>match lk k A.h with
   | some v=>(k,v)::CU A ks
   | none=>CU A ks
def eM(ks hs:List Nat)(A:AS):AS:=⟨ks.map fun k=>(k,A.get k),CU A hs⟩
def lZ:Op->Bool
 | .move _ | .extract _ _ | .call _ | .field _ _ _ | .fieldAddr _ _ _=>true
 | .binOp o _ _ _ _=>match o with
   | .eql | .neq | .lss | .leq | .gtr | .geq=>true
   | _=>false
 | .unOp o _ _=>match o with
   | .not=>true
   | _=>false
 | _=>false
theorem mJ{op:Op}{x4 Oq:List V}{C:Prop}{v:V}(ht:lZ op=true)(h:sY P A op x4=some (C,v,Oq)):C:=by
 have hB:∀ {o:BinOp} {k:IntKind} {a b:Int} {C:Prop} {v:V},(o=.eql\/o=.neq\/o=.lss\/o=.leq\/o=.gtr\/o=.geq)->vP o k a b=some (C,v)->C:=by
  intro o k a b C v ho h
  rcases ho with rfl | rfl | rfl | rfl | rfl | rfl <;> (simp only[vP,jH,YR,YU]at h;rw[<- h.1];trivial)
 cases op with
 | move x=>have h:=eG (show wO x4 (G6 P A (.move x))=_ from h);simp only[G6,OC,YR,YU]at h;rw[<- h.1];trivial
 | extract x i=>
   have h:=eG (show wO x4 (G6 P A (.extract x i))=_ from h)
   simp only[G6,OC]at h
   unfold Gu at h
   repeat (split at h <;> try (solve | simp at h))
   all_goals (simp only[YR,YU]at h;rw[<- h.1];trivial)
 | call c=>
   have h:=eG h
   unfold Da at h
   split at h
   split at h
   unfold FN at h
   split at h
   simp only[YR,YU]at h;rw[<- h.1];trivial
   unfold zb at h
   split at h <;> first | (solve | simp at h) | (simp only[YR,YU]at h;rw[<- h.1];trivial)
   simp at h
   split at h
   unfold Cf at h
   split at h
   split at h
   simp only[YR,YU]at h;rw[<- h.1];trivial
   simp at h
   simp at h
   simp at h
   simp at h
 | field T x j=>
   have h:=eG h
   unfold yn at h
   repeat (split at h <;> try (solve | simp at h))
   all_goals (simp only[YR,YU]at h;rw[<- h.1];trivial)
 | fieldAddr T x j=>
   have h:=eG h
   unfold qt at h
   repeat (first | (solve | simp at h) | split at h)
   all_goals first | (solve | simp at h) | (obtain⟨rfl,_⟩:=h;trivial) | (simp only[YR,YU]at h;rw[<- h.1];trivial) | (split at h <;> first | (solve | simp at h) | (split at h <;> first | (solve | simp at h) | (simp only[YR,YU]at h;rw[<- h.1];trivial)))
 | binOp o T x y pos=>
   have h:=eG h
   have ho:o=.eql\/o=.neq\/o=.lss\/o=.leq\/o=.gtr\/o=.geq:=by cases o <;> simp[lZ]at ht ⊢
   unfold Cm at h
   split at h
   rcases ho with rfl | rfl | rfl | rfl | rfl | rfl <;> simp only[FM,YR,YU,reduceCtorEq]at h <;> (rw[<- h.1];trivial)
   unfold tx at h
   split at h
   split at h
   exact hB ho h
   split at h
   exact hB ho h
   simp at h
   rcases ho with rfl | rfl | rfl | rfl | rfl | rfl <;> simp only[vW,YR,YU,reduceCtorEq]at h <;> (rw[<- h.1];trivial)
   rcases ho with rfl | rfl | rfl | rfl | rfl | rfl <;> simp only[Cj,YR,YU,reduceCtorEq]at h <;> (rw[<- h.1];trivial)
   simp at h
 | unOp o T x=>
   have h:=eG (show wO x4 (G6 P A (.unOp o T x))=_ from h)
   have ho:o=.not:=by cases o <;> simp[lZ]at ht ⊢
   subst ho
   simp only[G6,OC]at h
   unfold Ww at h
   split at h
   all_goals first | (solve | simp at h) | (simp only[YR,YU]at h;rw[<- h.1];trivial) | (simp_all;done)
 | _=>simp[lZ]at ht
def iu:Op->List Operand
 | .pick c _ _=>[c]
 | op=>op.operands.toList
def mV(P:Program)(N:Nat)(ops:Array Oper):Nat->List Oper->List V->AS->Option (Prop×AS)
 | 0,_,_,A=>some (True,A)
 | _+1,[],_,A=>some (True,A)
 | n+1,o::rest,x4,A=>
   match o.dst with
   | none=>none
   | some d=>if d<N then
     match o.guard with
     | some (j,b)=>match NN A ops j b with
       | some G=>match AS.un G (iu o.op) A with
         | (C0,B)=>match sY P B o.op x4 with
           | some (C,v,x4)=>if (PE N (iu o.op)&&!v.gI)=true then match mV P N ops n rest x4 (A.put (some d) (.gv G v)) with
             | some (C',A')=>some ((G=true->C0/\C)/\C',A')
             | none=>none else none
           | none=>none
       | none=>none
     | none=>match o.op with
       | .assign x=>mV P N ops n rest x4 ((A.drop x).put (some d) (A.ev x))
       | op=>match sY P A op x4 with
         | some (C,v,x4)=>match mV P N ops n rest x4 (A.put (some d) v) with
           | some (C',A')=>if lZ op=true then some (C',A') else some (C/\C',A')
           | none=>none
         | none=>none
     else none
theorem oL{K:AS->Prop}:∀ (n:Nat) {l:List Oper} {x4:List V} {A A':AS} {C:Prop},
 mV P N ops n l x4 A=some (C,A')->C->WL P N ops (l.drop n) A' K->WL P N ops l A K
 | 0,l,x4,A,A',C,h,hC,hK=>by
   simp only[mV,YR,YU]at h;obtain⟨_,rfl⟩:=h;exact hK
 | n+1,[],x4,A,A',C,h,hC,hK=>by
   simp only[mV,YR,YU]at h;obtain⟨_,rfl⟩:=h;exact hK
 | n+1,o::l,x4,A,A',C,h,hC,hK=>by
   have Pj:(o::l).drop (n+1)=l.drop n:=rfl
   rw[Pj]at hK
   unfold mV at h
   split at h
   simp at h
   rename_i d hd
   split at h
   case isFalse=>simp at h
   rename_i R9
   have Od:cF N o.dst:=by rw[hd];exact R9
   cases hg:o.guard with
   | some jb=>
     obtain⟨j,b⟩:=jb
     rw[hg]at h
     simp only at h
     split at h
     case h_2=>simp at h
     rename_i G hG
     cases hu:AS.un G (iu o.op) A with
     | mk C0 B=>
       rw[hu]at h
       simp only at h
       split at h
       case h_2=>simp at h
       rename_i C1 v OW y8
       split at h
       case isFalse=>simp at h
       rename_i Nh
       simp only[YS,Bool.not_eq_true']at Nh
       split at h
       case h_2=>simp at h
       rename_i C2 A2 hr
       simp only[YR,YU]at h
       obtain⟨rfl,rfl⟩:=h
       by_cases M4:G=true
       obtain⟨C',h1,h2⟩:=rY y8 (hC.1 M4).2
       exact Gb hg hG hu h1 Nh.1 Od (fun _=>⟨(hC.1 M4).1,h2,Nh.2⟩) (by rw[hd];exact oL n hr hC.2 hK)
       refine pX hg hG (fun c=>absurd c M4) (fun S6=>⟨Od,.gv G v,fun _ _=>⟨rfl,(fun h=>absurd h M4),fun _=>rfl⟩,?_⟩)
       rw[hd];exact oL n hr hC.2 hK
   | none=>
     rw[hg]at h
     simp only at h
     show gd ops o A _ _
     unfold gd
     rw[hg]
     simp only
     split at h
     rename_i x L4
     exact uI L4 Od (by rw[hd];exact oL n h hC hK)
     · split at h
       case h_2=>simp at h
       rename_i C1 v OW y8
       split at h
       case h_2=>simp at h
       rename_i C2 A2 hr
       split at h
       rename_i ht
       simp only[YR,YU]at h
       obtain⟨rfl,rfl⟩:=h
       obtain⟨C',h1,h2⟩:=rY y8 (mJ ht y8)
       exact wK h1 h2 Od (by rw[hd];exact oL n hr hC hK)
       simp only[YR,YU]at h
       obtain⟨rfl,rfl⟩:=h
       obtain⟨C',h1,h2⟩:=rY y8 hC.1
       exact wK h1 h2 Od (by rw[hd];exact oL n hr hC.2 hK)
theorem Dq(op:Op):∀ t,Operand.tmp t∈iu op->Operand.tmp t∈op.operands.toList:=by
 intro t ht
 cases op with
 | pick c a b=>simp only[iu,YZ]at ht;simp[Op.operands,ht]
 | _=>exact ht
def kB(P:Program):List ResultVar->List (l8×V)->Bool
 | .cell _ T::rs,(_,v)::xs=>(match ti P T with | some i=>v.n==i.sz&&i.d.agg==v.isAgg | none=>false)&&kB P rs xs
 | .tmp _::rs,(_,v)::xs=>(match v with | .tup _=>false | .gv _ _=>false | _=>true)&&kB P rs xs
 | [],[]=>true
 | _,_=>false
theorem pH:∀ {rs:List ResultVar} {xs:List (l8×V)},kB P rs xs=true->qp P rs xs
 | [],[],_=>trivial
 | .cell t T::rs,(r,v)::xs,h=>by
   simp only[kB,YS]at h
   refine⟨?_,pH h.2⟩
   have h1:=h.1
   cases ht:ti P T with
   | none=>rw[ht]at h1;simp at h1
   | some i=>rw[ht]at h1;simpa using h1
 | .tmp t::rs,(r,v)::xs,h=>by
   simp only[kB,YS]at h
   refine⟨?_,pH h.2⟩
   have h1:=h.1
   cases v <;> first | trivial | simp at h1
 | [],_::_,h=>by simp[kB]at h
 | .cell _ _::_,[],h=>by simp[kB]at h
 | .tmp _::_,[],h=>by simp[kB]at h
def nodupB:List l8->Bool
 | []=>true
 | r::rs=>!(rs.any fun x=>decide (x=r))&&nodupB rs
theorem tR:∀ {l:List l8},nodupB l=true->l.Nodup
 | [],_=>Ze
 | r::rs,h=>by
   simp only[nodupB,YS,Bool.not_eq_true',List.any_eq_false,Zo]at h
   exact List.nodup_cons.2 ⟨fun c=>h.1 r c rfl,tR h.2⟩
abbrev iN(n:Nat):V:=.lit (.int .i64 n)
abbrev iV(x:Int):V:=.lit (.int .i64 x)
abbrev uN(n:Nat):V:=.lit (.int .u8 n)
abbrev bV(b:Bool):V:=.lit (.bool b)
abbrev sV(l:BL):V:=.lit (.string (Str l))
theorem aj{α:Type}{f:α->V}{l:List α}{i:Nat}{d:α}(h:i<l.length):(l.map f)[i]? =some (f (l.getD i d)):=by
 rw[List.getElem?_map,YX h,YQ,YX h];rfl
theorem all_map{α:Type}{f:α->V}{l:List α}{n:Nat}(h:∀ x,(f x).n=n):∀ x∈l.map f,x.n=n:=by
 intro x hx
 obtain⟨y,_,rfl⟩:=List.mem_map.1 hx
 exact h y
end
section
variable {P:Program} {N:Nat} {ops:Array Oper} {A A' A1:AS}
def UX(P:Program)(e:Nat)(sz:Nat):Bool:=match P.info? e with
 | some inf=>match inf.zero with
   | some z=>z.cells.size==sz
   | none=>false
 | none=>false
theorem lM{e sz:Nat}(h:UX P e sz=true):∃ inf z,P.info? e=some inf/\inf.zero=some z/\z.cells.size=sz:=by
 unfold UX at h
 split at h
 rename_i inf h1
 split at h
 rename_i z h2;exact⟨inf,z,h1,h2,by simpa using h⟩
 simp at h
 simp at h
def HW(P:Program)(T:Nat):Option (List Value):=match P.info? T with
 | some inf=>match inf.zero with
   | some z=>some z.cells.toList
   | none=>none
 | none=>none
theorem dE{T:Nat}{v:V}{cs:List Value}(h:HW P T=some cs)(hv:v.flat=some cs):mX P T v:=by
 unfold HW at h
 split at h
 rename_i inf h1
 split at h
 rename_i z h2;exact⟨inf,z,h1,h2,by rw[hv,h]⟩
 simp at h
 simp at h
def BX(sz:Nat):List V->Bool
 | []=>true
 | v::vs=>v.isVal&&v.n==sz&&BX sz vs
theorem vJ{sz:Nat}:∀ {vs:List V},BX sz vs=true->∀ v,v∈vs->v.isVal=true/\v.n=sz
 | [],_,v,hv=>by simp at hv
 | u::us,h,v,hv=>by
   simp only[BX,YS,Zp]at h
   simp only[List.mem_cons]at hv
   rcases hv with rfl | hv
   exact h.1
   exact vJ h.2 v hv
def RP(P:Program)(T e len:Nat)(i:TI)(vs:List V):Bool:=UX P e i.sz&&vs.length==len&&Nat.ble (len*i.sz) 16777216&&Nat.blt 0 i.sz&&BX i.sz vs
theorem Fe{o:Oper} {K:AS->Prop} {T e len:Nat} {b9:Array (Nat×Operand)} {i:TI} {vs:List V} (ho:o.op=.buildSlice T len b9) (hd:cF N o.dst) (hT:tD P T=some (.sl e)) (hi:ti P e=some i)
 (Q8:eP A 0 b9.toList=some vs) (hB:RP P T e len i vs=true) (hK:K (A.put o.dst (.sl true vs))):E2 P N o A K:=by
 simp only[RP,YS,Zp]at hB
 obtain⟨⟨⟨⟨h1,h2⟩,h3⟩,h4⟩,h5⟩:=hB
 obtain⟨inf,z,k1,k2,_⟩:=lM h1
 exact vK ho hd hT hi ⟨inf,z,k1,k2⟩ Q8 h2 (Nat.le_of_ble_eq_true h3) (Nat.lt_of_succ_le (Nat.le_of_ble_eq_true h4)) (vJ h5) hK
theorem xM{K:AS->Prop} {d:Option Nat} {T len ty:Nat} {b9:Array (Nat×Operand)} {pos:String} {after:Array Edge} {rest:List Oper} (e:Nat) (i:TI) (vs:List V)
 (Q9:tD P T=some (.sl e)/\ti P e=some i) (hd:cF N d) (Q8:eP A 0 b9.toList=some vs) (hB:RP P T e len i vs=true) (hK:WL P N ops rest (A.put d (.sl true vs)) K):
 WL P N ops (⟨d,.buildSlice T len b9,ty,pos,after,none⟩ :: rest) A K:=by
 show E2 P N _ A _
 exact Fe rfl hd Q9.1 Q9.2 Q8 hB hK
theorem oG:∀ (ps:List (Nat×Operand)) (k:Nat),(∀ t,Operand.tmp t∈ps.map (·.2)->A'.get t=A.get t)->eP A' k ps=eP A k ps
 | [],_,_=>rfl
 | (i,x)::r,k,h=>by
   simp only[eP]
   rw[oG r (k+1) (fun t ht=>h t (by simp[ht])),kM (x:=x) (fun t e=>h t (by simp[e]))]
def uF(places:List (Nat×Nat)):List V->List (Nat×V)->Option (List V)
 | zs,[]=>some zs
 | zs,(i,v)::r=>match places[i]?,zs[i]? with
   | some (off,sz),some z=>if (V.ns (zs.take i)==off&&v.n==sz&&z.n==sz&&v.isVal)=true then uF places (zs.set i v) r else none
   | _,_=>none
theorem yD{places:List (Nat×Nat)}:∀ {ps:List (Nat×V)} {zs vs:List V},uF places zs ps=some vs->∃ C,qq places zs ps=some (C,vs)/\C
 | [],zs,vs,h=>by simp only[uF,YR]at h;subst h;exact⟨True,rfl,trivial⟩
 | (i,v)::r,zs,vs,h=>by
   simp only[uF]at h
   split at h
   rename_i off sz z h1 h2
   split at h
   rename_i hb
   simp only[YS,Zp]at hb
   obtain⟨C,hf,hC⟩:=yD h
   exact⟨V.ns (zs.take i)=off/\v.n=sz/\z.n=sz/\v.isVal=true/\C,by simp only[qq,h1,h2,hf],hb.1.1.1,hb.1.1.2,hb.1.2,hb.2,hC⟩
   simp at h
   simp at h
def lO(P:Program)(A:AS)(T:Nat)(zs:List V)(b9:List (Nat×Operand)):Option V:=
 match tD P T with
 | some (.st fs)=>match mI P fs with
   | some places=>match uF places zs (b9.map fun (i,x)=>(i,A.cp x)) with
     | some vs=>some (.agg vs)
     | none=>none
   | none=>none
 | _=>none
theorem xf{T:Nat}{zs:List V}{b9:List (Nat×Operand)}{v:V}(h:lO P A T zs b9=some v):∃ C,rP P A T zs b9=some (C,v)/\C:=by
 unfold lO at h
 split at h
 rename_i fs h1
 split at h
 rename_i places h2
 split at h
 rename_i vs h3
 simp only[YR]at h
 subst h
 obtain⟨C,hf,hC⟩:=yD h3
 exact⟨C,by simp only[rP,h1,h2,hf],hC⟩
 simp at h
 simp at h
 simp at h
theorem GU{K:AS->Prop} {d:Option Nat} {T ty:Nat} {b9:Array (Nat×Operand)} {pos:String} {after:Array Edge} {rest:List Oper} (zs:List V) (v:V)
 (hz:mX P T (.agg zs)) (hd:cF N d) (hb:lO P A T zs b9.toList=some v) (hK:WL P N ops rest (A.put d v) K):
 WL P N ops (⟨d,.build T b9,ty,pos,after,none⟩ :: rest) A K:=by
 obtain⟨C,h1,h2⟩:=xf hb
 show E2 P N _ A _
 exact wP rfl hd hz h1 h2 hK
end
section
variable {P:Program} {N:Nat} {ops:Array Oper} {A A' A1:AS}
variable {w:World} {Pb Kb:Nat->Prop} {a:Act} {F:l8->List Nat}
def n0(b:UInt8):V:=.lit (.int .u8 b.toNat)
theorem HJ:∀ (bs:BL) {cs:List Value} {F:List Nat},RL w Pb (bs.map n0) cs F->cs=bs.map fun b=>Value.int .u8 (b.toNat:Int)
 | [],cs,F,h=>h.1
 | b::bs,cs,F,h=>by
   obtain⟨c1,c2,F1,F2,rfl,rfl,h1,h2⟩:=h
   rw[HJ bs h2,h1.2.1];rfl
theorem zA:∀ (l:BL),RL w Pb (l.map n0) (l.map fun b=>Value.int .u8 (b.toNat:Int)) []
 | []=>⟨rfl,rfl⟩
 | b::l=>⟨[.int .u8 (b.toNat:Int)],_,[],[],rfl,rfl,⟨rfl,rfl,rfl⟩,zA l⟩
theorem pe:∀ (bs:BL),V.aE (bs.map n0)=false
 | []=>rfl
 | b::bs=>by simp[V.aE,n0,V.cZ,pe bs]
theorem rv(bs:BL):aJ 1 (bs.map n0):=fun x hx=>by
 obtain⟨b,_,rfl⟩:=List.mem_map.1 hx;rfl
theorem Bd:∀ (bs l:BL),(bs.map fun b=>(b.toNat:Int)).foldl (fun (r:ByteArray) n=>r.push (UInt8.ofNat n.toNat)) (Str l)=Str (l++bs)
 | [],l=>by simp
 | b::bs,l=>by
   simp only[Zi,List.foldl_cons]
   have:(Str l).push (UInt8.ofNat (b.toNat:Int).toNat)=Str (l++[b]):=by
    apply ByteArray.ext
    simp[Str,ByteArray.push]
   rw[this,Bd bs];simp
theorem rD{o:Oper} {K:AS->Prop} {src dst e:Nat} {x:Operand} {C:Prop} {bs:BL} (ho:o.op=.convert src dst x) (hd:cF N o.dst) (h1:tD P src=some (.sl e)) (h2:tD P e=some (.int .u8)) (h3:tD P dst=some .str)
 (hx:Oo A x=some (C,bs.map n0)) (hC:C) (hK:K (A.put o.dst (sV bs))):E2 P N o A K:=by
 refine iR hd hK fun Pb Kb a w F hs=>?_
 obtain⟨B,c,flat,hv,hr,hf,hl⟩:=mW (P:=P) hs hx hC (rv bs) (pe bs)
 obtain⟨td,W2,MP⟩:=cL h1
 obtain⟨RS,N4,QE⟩:=cL h2
 obtain⟨Wy,W1,Wm⟩:=cL h3
 cases td <;> simp[dt]at MP
 cases RS <;> simp[dt]at QE
 cases Wy <;> simp[dt]at Wm
 subst MP QE
 refine⟨.string (Str bs),?_,dk rfl⟩
 have Ro:=HJ bs hr
 simp only[execOp,ho,hv,Y4,run_convert_bytes_string w src dst _ B _ c W2 N4 W1]
 have A3:(Conv.bytesToString (.slice B (bs.map n0).length c)).run P w=.ok (.string (Str bs)) w:=by
  cases B with
  | none=>
    have:=hf w (fun _=>rfl)
    rw[hv]at this
    simp only[Builtin.firstCells]at this
    have hb:flat=[]:=by
     have h:=this
     simp at h
     exact h
    rw[Ro]at hb
    have:bs=[]:=by simpa using hb
    subst this
    rfl
  | some ad=>
    have:=hf w (fun _=>rfl)
    rw[hv]at this
    simp only[Builtin.firstCells,Nat.mul_one]at this
    rw[run_bytesToString w ad _ c (bs.map fun b=>(b.toNat:Int)) (by rw[this,Ro];simp[List.map_map,Function.comp_def])]
    have:=Bd bs []
    simp only[List.nil_append]at this
    rw[<- this];rfl
 rw[A3];rfl
theorem yK{o:Oper} {K:AS->Prop} {src dst e d:Nat} {x:Operand} {l:BL} (ho:o.op=.convert src dst x) (hd:o.dst=some d) (hN:d<N) (h1:tD P src=some .str) (h2:tD P dst=some (.sl e)) (h3:tD P e=some (.int .u8))
 (hx:A.ev x=sV l) (hK:∀ g c,K (A.put (some d) (.own 1 (l.map n0) g 0 c))):E2 P N o A K:=by
 intro Pb Kb a w F Q hs
 obtain⟨td,W2,MP⟩:=cL h1
 obtain⟨RS,N4,QE⟩:=cL h2
 obtain⟨Wy,W1,Wm⟩:=cL h3
 cases td <;> simp[dt]at MP
 cases RS <;> simp[dt]at QE
 cases Wy <;> simp[dt]at Wm
 obtain rfl:=QE
 subst Wm
 rename_i el
 have T5:=bY hs hx
 have A3:=Lib.run_convert_string_bytes (P:=P) w src dst _ (Str l) W2 N4 W1
 unfold Oper.wp
 have Nd:(execOp a.eval o).run P w=.ok (.value (.slice (some ⟨w.heap.size,0,none⟩) (Str l).size (grownCap w (Str l).size 0 el))) (Lib.bytesWorld w el (Str l)):=by
  simp only[execOp,ho,T5,Y4,A3,YW];rfl
 rw[Nd,Oper.upon_value,hd]
 have hold:=fun j (hj:j<w.heap.size)=>Lib.bytesWorld_at_old w el (Str l) j hj
 have hsz:=Lib.bytesWorld_size w el (Str l)
 have Ov:=Lib.bytesWorld_at_new w el (Str l)
 obtain⟨w',SU⟩:∃ w',w'=Lib.bytesWorld w el (Str l):=⟨_,rfl⟩
 obtain⟨c,hc⟩:∃ c,c=grownCap w (Str l).size 0 el:=⟨_,rfl⟩
 have hcap:l.length<=c:=by
  rw[hc,<- hY]
  simp only[grownCap,Question.cut];exact Nat.le_add_right _ _
 have P8:x7 Kb w w':=by
  rw[SU];exact⟨rfl,rfl,rfl,Z9,fun g hg=>hold g (hs.bound g hg),Shp.of_eq hold⟩
 have y9:s4 N Pb Kb A a w' F:=hs.grow (by rw[SU];exact hold) (by rw[SU];omega) (fun _ h=>h) (fun g h=>.inl h) hs.sub
 rw[<- SU,<- hc]
 have T4:∀ r g,g∈F r->g≠w.heap.size:=fun r g hg=>by have:=(hs.free r g hg).2;omega
 have Pn: ¬ Kb w.heap.size:=fun h=>by have:=hs.bound _ h;omega
 by_cases h0:c=0
 have Uz:l=[]:=Y9 Z9
 subst Uz
 have hrv:RV w' Pb (.own 1 (([]:BL).map n0) 0 0 0) (.slice (some ⟨w.heap.size,0,none⟩) (Str []).size c) []:=.inl ⟨rfl,rfl,rfl,some ⟨w.heap.size,0,none⟩,by rw[h0];rfl⟩
 exact⟨_,Pb,Kb,_,hK 0 0,y9.put hN (F':=[]) hrv Z8 Ze Z8,fun _ h=>h,fun _ h=>h,fun _ h=>.inl h,P8⟩
 have hrv:RV w' Pb (.own 1 (l.map n0) w.heap.size 0 c) (.slice (some ⟨w.heap.size,0,none⟩) (Str l).size c) [w.heap.size]:=by
  refine .inr ⟨Z9,Z9,by simpa using hcap,?_,rv l,fun h=>Pn (hs.sub _ h),l.map (fun b=>Value.int .u8 (b.toNat:Int)),[],Lib.bytesCells w el (Str l),rfl,zA l,?_,?_,?_⟩
  simp[hY]
  exact⟨el,((Lib.bytesCells w el (Str l)).size,(Lib.bytesCells w el (Str l)).size+1),by rw[SU];exact Ov,fun i hi=>by simp;omega⟩
  simp only[Lib.bytesCells,Array.size_append,Array.size_map,Array.size_replicate,<- hc]
  have:(Str l).data.size=l.length:=by simp[Str]
  rw[this,hY];omega
  intro j u hu
  simp only[List.getElem?_map,Option.map_eq_some_iff]at hu
  obtain⟨b,hb,rfl⟩:=hu
  have hj:j<l.length:=(Y7.1 hb).1
  simp only[Lib.bytesCells,Y0]
  rw[Array.getElem?_append_left (by simp[Str];exact hj)]
  simp[Str,hb]
 refine⟨_,Pb,Kb,_,hK w.heap.size c,y9.put hN (F':=[w.heap.size]) hrv ?_ Z8 ?_,fun _ h=>h,fun _ h=>h,fun _ h=>.inl h,P8⟩
 intro r _ g hg Pc
 simp only[YZ]at hg
 exact T4 r g Pc hg
 intro g hg
 simp only[YZ]at hg
 subst hg
 exact⟨Pn,by rw[SU];omega⟩
theorem Ap{K:AS->Prop} {d:Option Nat} {src dst ty:Nat} {x:Operand} {pos:String} {after:Array Edge} {rest:List Oper} (e:Nat) (C:Prop) (bs:BL)
 (ht:tD P src=some (.sl e)/\tD P e=some (.int .u8)/\tD P dst=some .str) (hd:cF N d) (hx:Oo A x=some (C,bs.map n0)) (hC:C) (hK:WL P N ops rest (A.put d (sV bs)) K):
 WL P N ops (⟨d,.convert src dst x,ty,pos,after,none⟩ :: rest) A K:=by
 show E2 P N _ A _
 exact rD rfl hd ht.1 ht.2.1 ht.2.2 hx hC hK
theorem Au{K:AS->Prop} {d src dst ty:Nat} {x:Operand} {pos:String} {after:Array Edge} {rest:List Oper} (e:Nat) (l:BL)
 (ht:tD P src=some .str/\tD P dst=some (.sl e)/\tD P e=some (.int .u8)) (hN:d<N) (hx:A.ev x=sV l) (hK:∀ g c,WL P N ops rest (A.put (some d) (.own 1 (l.map n0) g 0 c)) K):
 WL P N ops (⟨some d,.convert src dst x,ty,pos,after,none⟩ :: rest) A K:=by
 show E2 P N _ A _
 exact yK rfl rfl hN ht.1 ht.2.1 ht.2.2 hx hK
theorem s4.yN(hs:s4 N Pb Kb A a w F){t:Nat}{v:V}(ht:t<N)(h:RV w Pb v (a.tmps.getD t undef) (F (.slot t))):s4 N Pb Kb (A.put (some t) v) a w F:=by
 have h2:=hs.put (d:=t) (v:=v) (x:=a.tmps.getD t undef) (F':=F (.slot t)) ht h (fun r hr g hg=>hs.cd _ _ (Ne.symm hr) g hg) (hs.nodup _) (fun g hg=>hs.free _ g hg)
 rw[qw]at h2
 have e:cf F (.slot t) (F (.slot t))=F:=by
  funext r;unfold cf;split
  rename_i e;rw[e]
  rfl
 rw[e]at h2
 exact h2
theorem s4.gZ(hs:s4 N Pb Kb A a w F){t i sz n g o c:Nat}{xs:List V}(ht:t<N)(hi:i<N)(Ut:t≠i)(h1:A.get t=.hd (.slot i) [] sz g o 0 n c)(h2:A.get i=.own sz xs g o c)(hn:n=xs.length):
 ∃ F',s4 N Pb Kb ((A.put (some i) .a8).put (some t) (.own sz xs g o c)) a w F':=by
 subst hn
 obtain⟨Fx,F1,hr,Nw,hnd,u0,hfr,_⟩:=hs.take (.tmp i)
 rw[pF h2]at Nw
 have hr:RV w Pb (A.get i) (a.tmps.getD i undef) Fx:=hr
 rw[h2]at hr
 have hh:=hs.slot t
 rw[h1]at hh
 obtain⟨_,hle,B,hv,hB⟩:=hh
 have hv:a.tmps.getD t undef=.slice B xs.length c:=(List.cons.inj hv).1
 have E3:RV w Pb (.own sz xs g o c) (a.tmps.getD t undef) Fx:=by
  rw[hv]
  rcases hr with ⟨rfl,rfl,rfl,A0,_⟩ | ⟨k1,k2,k3,k4,k5⟩
  exact .inl ⟨rfl,rfl,rfl,B,rfl⟩
  have:=hB k1
  rw[Nat.zero_mul,Nat.add_zero]at this
  subst this
  exact .inr ⟨k1,k2,k3,rfl,k5⟩
 have h3:=Nw.put (d:=t) (v:=.own sz xs g o c) (x:=a.tmps.getD t undef) (F':=Fx) ht E3 (fun r _ g hg=>u0 r g hg) hnd hfr
 rw[qw]at h3
 exact⟨_,h3⟩
theorem cN{α:Type}{f:α->V}(hf:∀ x,(f x).cZ=false):∀ (l:List α),V.aE (l.map f)=false
 | []=>rfl
 | x::l=>by simp only[Zi,V.aE,hf x,cN hf l,Bool.or_self]
theorem ee{α:Type}{f:α->V}{n:Nat}(hf:∀ x,(f x).n=n)(l:List α):aJ n (l.map f):=fun x hx=>by
 obtain⟨y,_,rfl⟩:=List.mem_map.1 hx;exact hf y
theorem aM{α:Type}{f:α->V}(hf:∀ x,(f x).er=f x):∀ (l:List α),V.B8 (l.map f)=l.map f
 | []=>rfl
 | x::l=>by simp only[Zi,V.B8,hf x,aM hf l]
theorem zk{o:Oper} {K:AS->Prop} {x y:Operand} {K5:Array TypeId} {k:IntKind} {p q r:Int} {b:Builtin} (ho:o.op=.call { callee:=.builtin b,args:= #[x,y],argTypes:=K5 }) (hd:cF N o.dst)
 (hx:A.ev x=.lit (.int k p)) (hy:A.ev y=.lit (.int k q)) (hb:(b=.max/\r=max p q)\/(b=.min/\r=min p q)) (hK:K (A.put o.dst (.lit (.int k r)))):E2 P N o A K:=by
 refine iR hd hK fun Pb Kb a w F hs=>⟨.int k r,?_,dk rfl⟩
 have e:(#[x,y].map a.eval)= #[.int k p,.int k q]:=by simp[bY hs hx,bY hs hy]
 rcases hb with ⟨rfl,rfl⟩ | ⟨rfl,rfl⟩
 simp only[execOp,ho,resolve,invoke,builtin,Y4,Y5,YW,e,Lib.run_max_ints]
 simp only[execOp,ho,resolve,invoke,builtin,Y4,Y5,YW,e,Lib.run_min_ints]
theorem Kn{K:AS->Prop} {d:Option Nat} {x y:Operand} {K5:Array TypeId} {ty:TypeId} {pos:String} {after:Array Edge} {rest:List Oper} (k:IntKind) (p q:Int) (hd:cF N d)
 (hx:A.ev x=.lit (.int k p)) (hy:A.ev y=.lit (.int k q)) (hK:WL P N ops rest (A.put d (.lit (.int k (max p q)))) K):
 WL P N ops (⟨d,.call { callee:=.builtin .max,args:= #[x,y],argTypes:=K5 },ty,pos,after,none⟩ :: rest) A K:=by
 show E2 P N _ A _
 exact zk rfl hd hx hy (.inl ⟨rfl,rfl⟩) hK
theorem Lk{K:AS->Prop} {d:Option Nat} {x y:Operand} {K5:Array TypeId} {ty:TypeId} {pos:String} {after:Array Edge} {rest:List Oper} (k:IntKind) (p q:Int) (hd:cF N d)
 (hx:A.ev x=.lit (.int k p)) (hy:A.ev y=.lit (.int k q)) (hK:WL P N ops rest (A.put d (.lit (.int k (min p q)))) K):
 WL P N ops (⟨d,.call { callee:=.builtin .min,args:= #[x,y],argTypes:=K5 },ty,pos,after,none⟩ :: rest) A K:=by
 show E2 P N _ A _
 exact zk rfl hd hx hy (.inr ⟨rfl,rfl⟩) hK
theorem ER{sz g o c lo n c':Nat} {xs:List V} {x y:Value} {Fx:List Nat} (hr:R w Pb (.own sz xs g o c) [x] Fx) (hle:n<=c') {B:Option Addr} (hy:y=.slice B n c') (hB:0<c'->B=some ⟨g,o+lo*sz,none⟩)
 (hn:lo+n<=xs.length) (hc:lo+c'<=c) (ho:V.aE xs=false):∃ F',R w Pb (.own sz ((xs.drop lo).take n) g (o+lo*sz) c') [y] F'/\∀ z,z∈F'->z∈Fx:=by
 subst hy
 by_cases h0:c'=0
 subst h0
 have:n=0:=Z9
 subst this
 exact⟨[],.inl ⟨rfl,Z8,rfl,B,rfl⟩,Z8⟩
 rcases hr with ⟨rfl,_⟩ | ⟨h1,h2,h3,_,hN,hP,flat,F',cells,hF,NL,hb,hsz,s3⟩
 omega
 have hF0:=fN xs ho NL
 subst hF0
 obtain⟨c1,PM,Nz⟩:=pd xs lo NL
 obtain⟨c3,Uw,VL⟩:=oQ _ n PM
 have hlen:((xs.drop lo).take n).length=n:=Z0
 refine⟨[g],.inr ⟨Z9,h2,Z9,?_,fun z hz=>hN z (List.mem_of_mem_drop (List.mem_of_mem_take hz)),hP,c3,[],cells,rfl,Uw,hb,?_,fun j u hu=>?_⟩,by rw[hF];simp⟩
 rw[hlen,hB Z9]
 have:(lo+c')*sz<=c*sz:=Nat.mul_le_mul_right _ hc
 rw[Nat.add_mul]at this;omega
 have:=Nz j u (VL j u hu)
 rw[dU xs lo hN Z9]at this
 have:=s3 _ _ this
 rw[Zn];exact this
theorem Ce{K:AS->Prop} {i:Nat} {x:Operand} {ty:TypeId} {pos:String} {after:Array Edge} {rest:List Oper} (lo n c':Nat) {sz g o c:Nat} (xs:List V) (hi:i<N)
 (hx:A.ev x=.hd (.slot i) [] sz g o lo n c') (h2:A.get i=.own sz xs g o c) (hn:lo+n<=xs.length) (hc:lo+c'<=c) (ho:V.aE xs=false)
 (hK:WL P N ops rest (A.put (some i) (.own sz ((xs.drop lo).take n) g (o+lo*sz) c')) K):WL P N ops (⟨some i,.assign x,ty,pos,after,none⟩ :: rest) A K:=by
 show E2 P N _ A _
 intro Pb Kb a w F Q hs
 obtain⟨_,hr⟩:=dH hs x
 rw[hx]at hr
 obtain⟨_,hle,B,hv,hB⟩:=hr
 have hv:a.eval x=.slice B n c':=(List.cons.inj hv).1
 have N5:=hs.slot i
 rw[h2]at N5
 obtain⟨F',E3,Ob⟩:=ER (w:=w) (Pb:=Pb) N5 hle hv hB hn hc ho
 have hnd:F'.Nodup:=by
  rcases E3 with ⟨_,_,rfl,_⟩ | ⟨_,_,_,_,_,_,flat,F2,cells,hF,NL,_⟩
  exact Ze
  have:=fN _ (by
   have:=pU xs lo ho
   have h3:∀ (l:List V) (k:Nat),V.aE l=false->V.aE (l.take k)=false:=by
    intro l
    induction l with
    | nil=>intro k _;simp[V.aE]
    | cons v l ih=>
      intro k h
      cases k with
      | zero=>rfl
      | succ k=>simp only[List.take_succ_cons,V.aE,Bool.or_eq_false_iff]at h ⊢;exact⟨h.1,ih k h.2⟩
   exact h3 _ n this) NL
  subst this
  rw[hF];simp
 unfold Oper.wp
 have:(execOp a.eval ⟨some i,.assign x,ty,pos,after,none⟩).run P w=.ok (.value (a.eval x)) w:=rfl
 rw[this,Oper.upon_value]
 exact⟨_,Pb,Kb,_,hK,hs.put hi E3 (fun r hr g hg=>fun Pc=>hs.cd _ _ (Ne.symm hr) g (Ob g hg) Pc) hnd (fun g hg=>hs.free _ g (Ob g hg)),fun _ h=>h,fun _ h=>h,fun _ h=>.inl h,x7.refl _ _⟩
end
section
variable {P:Program} {N:Nat} {ops:Array Oper} {A A' A1:AS}
def vI(A:AS):List ResultVar->Option (Prop×List (l8×V))
 | []=>some (True,[])
 | r::rs=>match vI A rs with
   | some (C,xs)=>match r with
     | .tmp t=>some (C,(.slot t,A.get t)::xs)
     | .cell t _=>match A.get t with
       | .ptr (.key k) [] g 0=>match lk k A.h with
         | some (g',v)=>some (g'=g/\C,(.key k,v)::xs)
         | none=>none
       | _=>none
   | none=>none
theorem sC:∀ {rs:List ResultVar} {C:Prop} {xs:List (l8×V)},vI A rs=some (C,xs)->C->pM A rs=some xs
 | [],C,xs,h,_=>by simp only[vI,YR,YU]at h;rw[<- h.2];rfl
 | r::rs,C,xs,h,hC=>by
   simp only[vI]at h
   split at h
   case h_2=>simp at h
   rename_i C1 xs1 hr
   cases r with
   | tmp t=>
     simp only[YR,YU]at h
     obtain⟨rfl,rfl⟩:=h
     simp only[pM,yU,sC hr hC]
   | cell t T=>
     simp only at h
     split at h
     rename_i k g hg
     split at h
     rename_i g' v hk
     simp only[YR,YU]at h
     obtain⟨rfl,rfl⟩:=h
     obtain⟨rfl,hC⟩:=hC
     simp only[pM,yU,hg,hk,if_true,sC hr hC]
     simp at h
     simp at h
end
mutual
def V.kill:V->V
 | .own .. =>.a8
 | .ow .. =>.a8
 | .om .. =>.a8
 | .agg vs=>.agg (V.jw vs)
 | v=>v
def V.jw:List V->List V
 | []=>[]
 | v::vs=>v.kill::V.jw vs
end
section
variable {P:Program} {N:Nat} {ops:Array Oper} {A A' A1:AS}
variable {w:World} {Pb Kb:Nat->Prop} {a:Act} {F:l8->List Nat}
mutual
theorem yv:∀ v:V,v.kill.n=v.n
 | .own .. =>rfl
 | .ow .. =>rfl
 | .om .. =>rfl
 | .mp .. =>rfl
 | .agg vs=>by simp only[V.kill,V.n];exact Bo vs
 | .tup _=>rfl | .gv _ _=>rfl | .lit _=>rfl | .sl .. =>rfl | .hd .. =>rfl | .ptr .. =>rfl | .ep _=>rfl | .a8=>rfl
theorem Bo:∀ vs:List V,V.ns (V.jw vs)=V.ns vs
 | []=>rfl
 | v::vs=>by simp only[V.jw,V.ns,yv v,Bo vs]
end
mutual
theorem EJ:∀ (v:V) {cs F},R w Pb v cs F->R w Pb v.kill cs []
 | .own sz xs g o c,cs,F,h=>by
   rcases h with ⟨_,_,_,B,rfl⟩ | ⟨_,_,_,rfl,_⟩ <;> exact⟨rfl,_,rfl,rfl⟩
 | .ow sz xs,cs,F,h=>by
   obtain⟨g,o,c,h⟩:=h
   rcases h with ⟨_,_,_,B,rfl⟩ | ⟨_,_,_,rfl,_⟩ <;> exact⟨rfl,_,rfl,rfl⟩
 | .om ..,_,_,h=>⟨rfl,_,h.2.1,rfl⟩
 | .mp ..,_,_,h=>⟨rfl,h.2⟩
 | .agg vs,cs,F,h=>by simp only[R,V.kill]at h ⊢;exact Ay vs h
 | .tup _,_,_,h=>by simp[R]at h
 | .gv _ _,_,_,h=>by simp[R]at h
 | .lit x,_,_,h=>⟨h.1,h.2.1,rfl⟩
 | .sl ..,_,_,h=>⟨rfl,h.2⟩
 | .hd ..,_,_,h=>⟨rfl,h.2⟩
 | .ptr ..,_,_,h=>⟨rfl,h.2⟩
 | .ep _,_,_,h=>⟨rfl,h.2⟩
 | .a8,_,_,h=>⟨rfl,h.2⟩
theorem Ay:∀ (vs:List V) {cs F},RL w Pb vs cs F->RL w Pb (V.jw vs) cs []
 | [],_,_,h=>⟨h.1,rfl⟩
 | v::vs,_,_,h=>by
   obtain⟨c1,c2,F1,F2,rfl,rfl,h1,h2⟩:=h
   exact⟨c1,c2,[],[],rfl,rfl,EJ v h1,Ay vs h2⟩
end
def jx(F F1 F2:List Nat):Prop:=(∀ y,y∈F1->y∈F)/\(∀ y,y∈F2->y∈F)/\(F.Nodup->F1.Nodup/\F2.Nodup/\∀ y,y∈F1->y ∉ F2)
theorem jx.V6{X F Y F1 F2:List Nat}(h:jx F F1 F2):jx (X++F++Y) (X++F1++Y) F2:=by
 obtain⟨h1,h2,h3⟩:=h
 refine⟨fun y hy=>?_,fun y hy=>by simp[h2 y hy],fun hnd=>?_⟩
 simp only[Y1]at hy ⊢
 rcases hy with (hy | hy) | hy
 exact .inl (.inl hy)
 exact .inl (.inr (h1 y hy))
 exact .inr hy
 simp only[List.nodup_append,Y1]at hnd ⊢
 obtain⟨⟨n1,n2,n3⟩,n4,n5⟩:=hnd
 obtain⟨k1,k2,k3⟩:=h3 n2
 refine⟨⟨⟨n1,k1,fun p hp q hq=>n3 p hp q (h1 q hq)⟩,n4,fun p hp q hq=>?_⟩,k2,fun y hy Us=>?_⟩
 rcases hp with hp | hp
 exact n5 p (.inl hp) q hq
 exact n5 p (.inr (h1 p hp)) q hq
 rcases hy with (hy | hy) | hy
 exact n3 y hy y (h2 y Us) rfl
 exact k3 y hy Us
 exact n5 y (.inr (h2 y Us)) y hy rfl
theorem mn:∀ (vs:List V) {cs F} {j:Nat} {u u':V},RL w Pb vs cs F->vs[j]? =some u->∃ c Fa Fj Fb,F=Fa++Fj++Fb/\R w Pb u c Fj/\(∀ i x,c[i]? =some x->cs[V.ns (vs.take j)+i]? =some x)/\
 ∀ Ui,R w Pb u' c Ui->RL w Pb (vs.set j u') cs (Fa++Ui++Fb)
 | [],_,_,_,_,_,_,h=>by simp at h
 | v::vs,cs,F,0,u,u',h,hj=>by
   obtain⟨c1,c2,F1,F2,rfl,rfl,h1,h2⟩:=h
   simp at hj;subst hj
   refine⟨c1,[],F1,F2,Z8,h1,fun i x hx=>?_,fun Ui hr=>⟨c1,c2,Ui,F2,rfl,Z8,hr,h2⟩⟩
   simp only[List.take_zero,V.ns,Y0]
   rw[Zd (Y7.1 hx).1];exact hx
 | v::vs,cs,F,j+1,u,u',h,hj=>by
   obtain⟨c1,c2,F1,F2,rfl,rfl,h1,h2⟩:=h
   obtain⟨c,Fa,Fj,Fb,rfl,k1,k2,k3⟩:=mn vs (u':=u') h2 (by simpa using hj)
   refine⟨c,F1++Fa,Fj,Fb,Z8,k1,fun i x hx=>?_,fun Ui hr=>⟨c1,c2,F1,Fa++Ui++Fb,rfl,Z8,h1,k3 Ui hr⟩⟩
   have hl:=ez _ h1
   simp only[List.take_succ_cons,V.ns]
   rw[Y8 Z9]
   rw[show v.n+V.ns (vs.take j)+i-c1.length=V.ns (vs.take j)+i by omega]
   exact k2 i x hx
theorem jx.refl(F:List Nat):jx F [] F:=⟨Z8,fun _ h=>h,fun h=>⟨Ze,h,Z8⟩⟩
theorem su:∀ (p:List Nat) {v u:V} {g o g' o':Nat} {cs:List Value} {F:List Nat} {cells:Array Value},R w Pb v cs F->Blk w g cells->(∀ j x,cs[j]? =some x->cells[o+j]? =some x)->V.at g o v p=some (g',o',u)->
 ∃ F1 Fu,R w Pb (v.set p u.kill) cs F1/\At w Pb u g' o' Fu/\jx F F1 Fu
 | [],v,u,g,o,g',o',cs,F,cells,h,hb,hc,e=>by
   simp only[V.at,YR,YU]at e
   obtain⟨rfl,rfl,rfl⟩:=e
   exact⟨[],F,by simpa only[V.set] using EJ v h,⟨cs,cells,hb,h,hc⟩,jx.refl F⟩
 | j::p,v,u,g,o,g',o',cs,F,cells,h,hb,hc,e=>by
   cases v with
   | agg vs=>
     simp only[V.at]at e
     split at e
     case h_2=>simp at e
     rename_i x hx
     simp only[R]at h
     obtain⟨c,Fa,Fj,Fb,rfl,k1,k2,k3⟩:=mn vs (u':=x.set p u.kill) h hx
     obtain⟨F1,Fu,m1,m2,m3⟩:=su p k1 hb (o:=o+V.ns (vs.take j)) (fun i y hy=>by rw[Zn];exact hc _ _ (k2 i y hy)) e
     exact⟨Fa++F1++Fb,Fu,by simp only[V.set,hx,R];exact k3 F1 m1,m2,m3.V6⟩
   | own sz xs g0 o0 c0=>
     simp only[V.at]at e
     split at e
     case h_2=>simp at e
     rename_i x hx
     rcases h with ⟨_,rfl,_⟩ | ⟨h1,h2,h3,h4,hN,h5,flat,F',PR,rfl,hr,RM,hsz,s3⟩
     simp at hx
     obtain⟨c,Fa,Fj,Fb,rfl,k1,k2,k3⟩:=mn xs (u':=x.set p u.kill) hr hx
     have hj:j<xs.length:=(Y7.1 hx).1
     rw[dU xs j hN Z9]at k2
     obtain⟨F1,Fu,m1,m2,m3⟩:=su p k1 RM (o:=o0+j*sz) (fun i y hy=>by rw[Zn];exact s3 _ _ (k2 i y hy)) e
     have hn:(x.set p u.kill).n=x.n:=mL p e (yv u)
     refine⟨g0::(Fa++F1++Fb),Fu,?_,m2,?_⟩
     simp only[V.set,hx]
     refine .inr ⟨h1,h2,by simpa using h3,by simpa using h4,fun y hy=>?_,h5,flat,_,PR,rfl,k3 F1 m1,RM,hsz,s3⟩
     rcases List.mem_or_eq_of_mem_set hy with hy | rfl
     exact hN y hy
     rw[hn];exact hN x (Zb hx)
     have:=jx.V6 (X:=g0::Fa) (Y:=Fb) m3
     simpa using this
   | _=>simp[V.at]at e
theorem EN{j:Nat}{p:List Nat}{u:V}{g o g' o' sz g0 o0 c0:Nat}{xs:List V}{cs:List Value}{F:List Nat}(h:R w Pb (.own sz xs g0 o0 c0) cs F)(e:V.at g o (.own sz xs g0 o0 c0) (j::p)=some (g',o',u)):
 ∃ F1 Fu,R w Pb ((V.own sz xs g0 o0 c0).set (j::p) u.kill) cs F1/\At w Pb u g' o' Fu/\jx F F1 Fu:=by
 simp only[V.at]at e
 split at e
 case h_2=>simp at e
 rename_i x hx
 rcases h with ⟨_,rfl,_⟩ | ⟨h1,h2,h3,h4,hN,h5,flat,F',PR,rfl,hr,RM,hsz,s3⟩
 simp at hx
 obtain⟨c,Fa,Fj,Fb,rfl,k1,k2,k3⟩:=mn xs (u':=x.set p u.kill) hr hx
 have hj:j<xs.length:=(Y7.1 hx).1
 rw[dU xs j hN Z9]at k2
 obtain⟨F1,Fu,m1,m2,m3⟩:=su p k1 RM (o:=o0+j*sz) (fun i y hy=>by rw[Zn];exact s3 _ _ (k2 i y hy)) e
 have hn:(x.set p u.kill).n=x.n:=mL p e (yv u)
 refine⟨g0::(Fa++F1++Fb),Fu,?_,m2,?_⟩
 simp only[V.set,hx]
 refine .inr ⟨h1,h2,by simpa using h3,by simpa using h4,fun y hy=>?_,h5,flat,_,PR,rfl,k3 F1 m1,RM,hsz,s3⟩
 rcases List.mem_or_eq_of_mem_set hy with hy | rfl
 exact hN y hy
 rw[hn];exact hN x (Zb hx)
 have:=jx.V6 (X:=g0::Fa) (Y:=Fb) m3
 simpa using this
theorem s4.split(hs:s4 N Pb Kb A a w F){r:l8}{p:List Nat}{g o:Nat}{u:V}(x9:A.at r p=some (g,o,u)):
 ∃ Fr Fu,s4 N Pb Kb (A.setAt r p u.kill) a w (cf F r Fr)/\At w Pb u g o Fu/\Fu.Nodup/\(∀ r' y,y∈Fu->y ∉ cf F r Fr r')/\(∀ y,y∈Fu->¬ Kb y/\y<w.heap.size):=by
 have main:∃ Fr Fu,At w Pb u g o Fu/\jx (F r) Fr Fu/\(match r with
      | .key k=> ∀ g0 t,lk k A.h=some (g0,t)->∃ F',Fr=g0::F'/\At w Pb (t.set p u.kill) g0 0 F'
      | .slot i=>RV w Pb ((A.get i).set p u.kill) (a.tmps.getD i undef) Fr):=by
  cases r with
  | key k=>
    simp only[AS.at]at x9
    split at x9
    rename_i g0 t hk
    obtain⟨F0,hF,cs,cells,hb,hr,hc⟩:=hs.root k g0 t hk
    obtain⟨F1,Fu,m1,m2,m3⟩:=su p hr hb hc x9
    refine⟨g0::F1,Fu,m2,?_,fun g1 t1 P9=>?_⟩
    rw[hF]
    have:=jx.V6 (X:=[g0]) (Y:=[]) m3
    simpa using this
    rw[hk]at P9
    simp only[YR,YU]at P9
    obtain⟨rfl,rfl⟩:=P9
    exact⟨F1,rfl,cs,cells,hb,m1,hc⟩
    simp at x9
  | slot i=>
    simp only[AS.at]at x9
    split at x9
    rename_i sz xs g0 o0 c0 j p' hg _
    have hr:=hs.slot i
    rw[hg]at hr
    obtain⟨F1,Fu,m1,m2,m3⟩:=EN (w:=w) (Pb:=Pb) hr x9
    refine⟨F1,Fu,m2,m3,?_⟩
    simp only[hg]
    have e:∃ ys,(V.own sz xs g0 o0 c0).set (j::p') u.kill=.own sz ys g0 o0 c0:=by
     simp only[V.set];split
     exact⟨_,rfl⟩
     exact⟨_,rfl⟩
    obtain⟨ys,e⟩:=e
    rw[e]at m1 ⊢
    exact m1
    simp at x9
 obtain⟨Fr,Fu,hA,hP,hm⟩:=main
 obtain⟨p1,p2,p3⟩:=hP
 obtain⟨n1,n2,n3⟩:=p3 (hs.nodup r)
 refine⟨Fr,Fu,⟨hs.size,hs.defers,fun i=>?_,fun k g0 t hk=>?_,fun r1 r2 hne y hy=>?_,fun r1=>?_,fun r1 y hy=>?_,hs.sub,hs.bound⟩,hA,n2,fun r' y hy=>?_,fun y hy=>hs.free r y (p2 y hy)⟩
 by_cases R2:r=.slot i
 subst R2
 simp only[cf,if_true,AS.setAt,AS.get,lk,Option.getD_some]
 exact hm
 simp only[cf,if_neg (Ne.symm R2)]
 have:(A.setAt r p u.kill).get i=A.get i:=by
  cases r with
  | key k=>simp only[AS.setAt];split <;> rfl
  | slot j=>simp only[AS.setAt,AS.get,lk];rw[if_neg (fun c=>R2 (by rw[c]))]
 rw[this]
 exact hs.slot i
 by_cases R1:r=.key k
 subst R1
 simp only[cf,if_true]
 cases Qm:lk k A.h with
 | none=>
   simp only[AS.setAt,Qm]at hk
   cases hk
 | some gt=>
   obtain⟨g1,t1⟩:=gt
   simp only[AS.setAt,Qm,lk,if_true,YR,YU]at hk
   obtain⟨rfl,rfl⟩:=hk
   exact hm g1 t1 Qm
 simp only[cf,if_neg (Ne.symm R1)]
 refine hs.root k g0 t ?_
 rw[<- hk]
 cases r with
 | key k'=>
   have hne:k≠k':=fun c=>R1 (by rw[c])
   simp only[AS.setAt]
   split
   simp only[lk];rw[if_neg hne]
   rfl
 | slot j=>rfl
 simp only[cf]at hy ⊢
 by_cases e1:r1=r
 subst e1
 rw[if_pos rfl]at hy
 rw[if_neg (Ne.symm hne)]
 exact hs.cd r1 r2 hne y (p1 y hy)
 rw[if_neg e1]at hy
 by_cases e2:r2=r
 subst e2
 rw[if_pos rfl]
 exact fun c=>hs.cd r1 r2 hne y hy (p1 y c)
 rw[if_neg e2];exact hs.cd r1 r2 hne y hy
 simp only[cf];split
 exact n1
 exact hs.nodup r1
 simp only[cf]at hy;split at hy
 exact hs.free r y (p1 y hy)
 exact hs.free r1 y hy
 simp only[cf];split
 exact fun c=>n3 y c hy
 rename_i hne;exact fun c=>hs.cd r r' (Ne.symm hne) y (p2 y hy) c
end
mutual
def wk:V->V->V
 | .own sz xs g o c,u=>match u with | .ow _ _=>.ow sz xs | _=>.own sz xs g o c
 | .sl f xs,u=>match u with | .sl false _=>.sl false xs | .a8=>.a8 | _=>.sl f xs
 | .ptr r p g o,u=>match u with | .ptr r' p' _ _=>.ptr r' p' g o | .a8=>.a8 | _=>.ptr r p g o
 | .lit x,u=>match u with
   | .ptr r' p' _ _=>match x with
     | .pointer (some ⟨g,o,none⟩)=>.ptr r' p' g o
     | _=>.lit x
   | .a8=>if x.oneCell' then .a8 else .lit x
   | _=>.lit x
 | .hd r p sz g o lo n c,u=>match u with | .hd r' p' _ _ _ _ _ _=>.hd r' p' sz g o lo n c | .a8=>.a8 | _=>.hd r p sz g o lo n c
 | .mp es,u=>match u with | .a8=>.a8 | _=>.mp es
 | .agg vs,u=>match u with | .agg us=>.agg (No vs us) | _=>.agg vs
 | .tup vs,u=>match u with | .tup us=>.tup (No vs us) | _=>.tup vs
 | v,_=>v
def No:List V->List V->List V
 | v::vs,u::us=>wk v u::No vs us
 | vs,_=>vs
end
section
variable {w w':World} {Pb Kb Pb':Nat->Prop} {N:Nat} {A A' B:AS} {a:Act} {F:l8->List Nat} {P:Program} {ops:Array Oper}
mutual
theorem pD:∀ (v u:V) {cs F},R w Pb v cs F->R w Pb (wk v u) cs F
 | .own sz xs g o c,u,cs,F,h=>by
   simp only[wk];split
   exact Hm.2 ⟨_,_,_,h⟩
   exact h
 | .sl f xs,u,cs,F,h=>by
   simp only[wk];split
   obtain⟨hF,B,c,hc,hl,_,hx⟩:=h
   exact⟨hF,B,c,hc,hl,(fun h=>by cases h),hx⟩
   obtain⟨hF,B,c,rfl,_⟩:=h;exact⟨hF,_,rfl,rfl⟩
   exact h
 | .ptr r p g o,u,cs,F,h=>by
   simp only[wk];split
   exact h
   obtain⟨hF,rfl⟩:=h;exact⟨hF,_,rfl,rfl⟩
   exact h
 | .lit x,u,cs,F,h=>by
   simp only[wk];split
   split
   obtain⟨_,rfl,hF⟩:=h;exact⟨hF,rfl⟩
   exact h
   split
   rename_i hx;obtain⟨_,rfl,hF⟩:=h;exact⟨hF,x,rfl,hx⟩
   exact h
   exact h
 | .hd r p sz g o lo n c,u,cs,F,h=>by
   simp only[wk];split
   exact h
   obtain⟨hF,_,B,rfl,_⟩:=h;exact⟨hF,_,rfl,rfl⟩
   exact h
 | .mp es,u,cs,F,h=>by
   simp only[wk];split
   obtain⟨hF,g,rfl,_⟩:=h;exact⟨hF,_,rfl,rfl⟩
   exact h
 | .agg vs,u,cs,F,h=>by
   simp only[wk];split
   rename_i us;simp only[R]at h ⊢;exact CR vs us h
   exact h
 | .tup vs,_,_,_,h=>by simp[R]at h
 | .gv _ _,_,_,_,h=>by simp[R]at h
 | .ow ..,u,_,_,h=>by simpa[wk] using h
 | .om ..,u,_,_,h=>by simpa[wk] using h
 | .ep _,u,_,_,h=>by simpa[wk] using h
 | .a8,u,_,_,h=>by simpa[wk] using h
theorem CR:∀ (vs us:List V) {cs F},RL w Pb vs cs F->RL w Pb (No vs us) cs F
 | [],us,_,_,h=>by simpa[No] using h
 | v::vs,[],_,_,h=>by simpa[No] using h
 | v::vs,u::us,cs,F,h=>by
   obtain⟨c1,c2,F1,F2,rfl,rfl,h1,h2⟩:=h
   exact⟨c1,c2,F1,F2,rfl,rfl,pD v u h1,CR vs us h2⟩
end
theorem EC{v:V}(u:V){x:Value}{F1:List Nat}(h:OB w Pb v x F1):OB w Pb (wk v u) x F1:=by
 cases v with
 | agg us=>
   obtain⟨cs,rfl,h⟩:=h
   simp only[wk];split
   exact⟨cs,rfl,CR _ _ h⟩
   exact⟨cs,rfl,h⟩
 | a8=>simpa[wk] using h
 | tup vs=>simp[OB,R]at h
 | gv b u=>simp[OB,R]at h
 | ow sz xs=>simpa[wk] using h
 | om es g=>simpa[wk] using h
 | ep v=>simpa[wk] using h
 | own sz xs g o c=>
   have:=pD (w:=w) (Pb:=Pb) (.own sz xs g o c) u h
   simp only[wk]at this ⊢
   split at this <;> simpa[OB] using this
 | lit y=>
   have h:R w Pb (.lit y) [x] F1:=h
   have hh:=h
   obtain⟨ho,e,hF⟩:=hh
   simp only[List.cons.injEq,and_true]at e
   subst e hF
   cases u with
   | ptr r' p' g' o'=>
     have:=pD (w:=w) (Pb:=Pb) (.lit x) (.ptr r' p' g' o') h
     simp only[wk]at this ⊢
     split at this
     exact this
     exact this
   | a8=>simp only[wk,ho,if_true];rfl
   | _=>exact h
 | sl f xs=>
   have:=pD (w:=w) (Pb:=Pb) (.sl f xs) u h
   simp only[wk]at this ⊢
   split at this
   all_goals first | simpa[OB] using this | (simp only[OB];exact this.1)
 | ptr r p g o=>
   have:=pD (w:=w) (Pb:=Pb) (.ptr r p g o) u h
   simp only[wk]at this ⊢
   split at this
   all_goals first | simpa[OB] using this | (simp only[OB];exact this.1)
 | hd r p sz g o lo n c=>
   have:=pD (w:=w) (Pb:=Pb) (.hd r p sz g o lo n c) u h
   simp only[wk]at this ⊢
   split at this
   all_goals first | simpa[OB] using this | (simp only[OB];exact this.1)
 | mp es=>
   have:=pD (w:=w) (Pb:=Pb) (.mp es) u h
   simp only[wk]at this ⊢
   split at this
   all_goals first | simpa[OB] using this | (simp only[OB];exact this.1)
theorem uv:∀ (vs:List V) {xs:List Value} {F1:List Nat},RVs w Pb vs xs F1↔match vs with | []=>xs=[]/\F1=[] | v::vs=> ∃ x xs' Fa Fb,xs=x::xs'/\F1=Fa++Fb/\OB w Pb v x Fa/\RVs w Pb vs xs' Fb
 | [],_,_=>Iff.rfl
 | v::vs,_,_=>Iff.rfl
theorem oV:∀ (vs us:List V) {xs F1},RVs w Pb vs xs F1->RVs w Pb (No vs us) xs F1
 | [],us,_,_,h=>by simpa[No] using h
 | v::vs,[],_,_,h=>by simpa[No] using h
 | v::vs,u::us,xs,F1,h=>by
   obtain⟨x,xs',Fa,Fb,rfl,rfl,h1,h2⟩:=(uv (v::vs)).1 h
   exact(uv (wk v u::No vs us)).2 ⟨x,xs',Fa,Fb,rfl,rfl,EC u h1,oV vs us h2⟩
theorem xX{v:V}(u:V){x:Value}{F1:List Nat}(h:RV w Pb v x F1):RV w Pb (wk v u) x F1:=by
 by_cases ht:∃ vs,v=.tup vs
 obtain⟨vs,rfl⟩:=ht
 obtain⟨xs,rfl,h⟩:=h
 simp only[wk];split
 exact⟨xs,rfl,oV _ _ h⟩
 exact⟨xs,rfl,h⟩
 by_cases hg:∃ b u',v=.gv b u'
 obtain⟨b,u',rfl⟩:=hg;simpa[wk] using h
 have h1:=EY h ⟨fun us e=>ht ⟨us,e⟩,fun b u e=>hg ⟨b,u,e⟩⟩
 have h2:=EC u h1
 have back:∀ z:V,(∀ us,z≠.tup us)->(∀ b u,z≠.gv b u)->OB w Pb z x F1->RV w Pb z x F1:=by
  intro z z1 z2 hz
  cases z with
  | tup us=>exact absurd rfl (z1 us)
  | gv b u=>exact absurd rfl (z2 b u)
  | _=>exact hz
 refine back _ (fun us e=>?_) (fun b u e=>?_) h2
 · cases v <;> simp only[wk]at e <;> (repeat' split at e) <;> simp_all
 · cases v <;> simp only[wk]at e <;> (repeat' split at e) <;> simp_all
theorem Cy{v:V}(u:V){g o:Nat}{F1:List Nat}(h:At w Pb v g o F1):At w Pb (wk v u) g o F1:=by
 obtain⟨cs,cells,hb,hr,hc⟩:=h
 exact⟨cs,cells,hb,pD v u hr,hc⟩
def QZ(A:AS):List (Nat×V)->Prop
 | []=>True
 | (k,v)::r=>wk (A.get k) v=v/\QZ A r
def Qj(A:AS):List (Nat×(Nat×V))->Prop
 | []=>True
 | (k,(g,v))::r=>(match lk k A.h with | some (g',v')=>(g',wk v' v)=(g,v) | none=>False)/\Qj A r
theorem Fc:∀ (l:List (Nat×V)) {i:Nat} {v:V},QZ A l->lk i l=some v->wk (A.get i) v=v
 | [],_,_,_,h=>by simp[lk]at h
 | (k,u)::r,i,v,h,e=>by
   simp only[lk]at e
   split at e
   rename_i e';subst e';cases e;exact h.1
   exact Fc r h.2 e
theorem yP:∀ (l:List (Nat×(Nat×V))) {i g:Nat} {v:V},Qj A l->lk i l=some (g,v)->∃ v',lk i A.h=some (g,v')/\wk v' v=v
 | [],_,_,_,_,h=>by simp[lk]at h
 | (k,(g0,u))::r,i,g,v,h,e=>by
   simp only[lk]at e
   split at e
   rename_i e';subst e';cases e
   have h1:=h.1
   split at h1
   rename_i g' v' hk
   simp only[YU]at h1
   exact⟨v',by rw[hk,h1.1],h1.2⟩
   exact h1.elim
   exact yP r h.2 e
open Classical in
theorem s4.X4(hs:s4 N Pb Kb A a w F)(h:QZ A B.t)(k:Qj A B.h):∃ F',s4 N Pb Kb B a w F':=by
 refine⟨fun r=>match r with | .slot i=>if lk i B.t=none then [] else F (.slot i) | .key k=>if lk k B.h=none then [] else F (.key k),?_⟩
 have key:∀ r g,g∈(match r with | .slot i=>if lk i B.t=none then [] else F (.slot i) | .key k=>if lk k B.h=none then [] else F (.key k):List Nat)->g∈F r:=by
  intro r g hg
  cases r <;> simp only at hg <;> split at hg <;> simp_all
 refine⟨hs.size,hs.defers,fun i=>?_,fun k0 g v hk=>?_,fun r r' hne g hg=>?_,fun r=>?_,fun r g hg=>hs.free r g (key r g hg),hs.sub,hs.bound⟩
 simp only
 cases e:lk i B.t with
 | none=>simp only[if_true,AS.get,e];rfl
 | some v=>
   rw[if_neg Z8]
   have:=xX v (hs.slot i)
   rw[Fc _ h e]at this
   simpa[AS.get,e] using this
 simp only
 rw[if_neg (by rw[hk];simp)]
 obtain⟨v',e1,e2⟩:=yP _ k hk
 obtain⟨F',hF,hA⟩:=hs.root k0 g v' e1
 exact⟨F',hF,by have:=Cy v hA;rw[e2]at this;exact this⟩
 exact fun Pc=>hs.cd r r' hne g (key r g hg) (key r' g Pc)
 cases r <;> simp only <;> split <;> first | exact Ze | exact hs.nodup _
def Hx(N:Nat)(A:AS)(K:AS->Prop):Prop:=
 ∀ Pb Kb a w F,s4 N Pb Kb A a w F->∃ B Pb' D3 F',K B/\s4 N Pb' D3 B a w F'/\(∀ g,Pb g->Pb' g)/\(∀ g,Kb g->D3 g)/\(∀ g,Pb' g->Pb g\/¬ Kb g)
theorem Hx.of{K:AS->Prop}(h:K A):Hx N A K:=fun Pb Kb _ _ F hs=>⟨A,Pb,Kb,F,h,hs,fun _ h=>h,fun _ h=>h,fun _ h=>.inl h⟩
theorem Hx.mono{K K':AS->Prop}(h:Hx N A K)(hK:∀ B,K B->K' B):Hx N A K':=fun Pb Kb a w F hs=>by
 obtain⟨B,Pb',D3,F',h1,h2⟩:=h Pb Kb a w F hs
 exact⟨B,Pb',D3,F',hK B h1,h2⟩
theorem Hx.bind{K K':AS->Prop}(h:Hx N A K)(hK:∀ B,K B->Hx N B K'):Hx N A K':=fun Pb Kb a w F hs=>by
 obtain⟨B,Pb',D3,F',h1,h2,h3,h4,h5⟩:=h Pb Kb a w F hs
 obtain⟨C,N2,N7,F2,k1,k2,k3,k4,k5⟩:=hK B h1 Pb' D3 a w F' h2
 exact⟨C,N2,N7,F2,k1,k2,fun g hg=>k3 g (h3 g hg),fun g hg=>k4 g (h4 g hg),fun g hg=>by
  rcases k5 g hg with h | h
  exact h5 g h
  exact .inr fun c=>h (h4 g c)⟩
theorem Hx.simple{K:AS->Prop}(hK:K B)(h:∀ Pb Kb a w F,s4 N Pb Kb A a w F->∃ F',s4 N Pb Kb B a w F'):Hx N A K:=fun Pb Kb a w F hs=>by
 obtain⟨F',y9⟩:=h Pb Kb a w F hs
 exact⟨B,Pb,Kb,F',hK,y9,fun _ h=>h,fun _ h=>h,fun _ h=>.inl h⟩
theorem Nx.hint{K:AS->Prop}{a':Act}(h:Nx N Pb Kb w (fun B=>Hx N B K) a' w'):Nx N Pb Kb w K a' w':=by
 obtain⟨A',Pb',D3,F',h1,h2,h3,h4,h5,h6⟩:=h
 obtain⟨B,N2,N7,F2,k1,k2,k3,k4,k5⟩:=h1 Pb' D3 a' w' F' h2
 exact⟨B,N2,N7,F2,k1,k2,fun g hg=>k3 g (h3 g hg),fun g hg=>k4 g (h4 g hg),fun g hg=>by
  rcases k5 g hg with h | h
  exact h5 g h
  exact .inr fun c=>h (h4 g c),h6⟩
theorem oX{c:Code}{Q:Exit->AS->Prop}(h:Hx N A fun B=>T P N c B Q):T P N c A Q:=by
 intro Pb Kb a w F hs
 obtain⟨B,Pb',D3,F',h1,h2,h3,h4,h5⟩:=h Pb Kb a w F hs
 exact wp_mono (h1 Pb' D3 a w F' h2) fun e a' w' hn=>Nx.step h3 h4 h5 (x7.refl _ _) hn
theorem mD{c:Code}{Q:Exit->AS->Prop}(h:T P N c A fun e B=>Hx N B (Q e)):T P N c A Q:=
 fun Pb Kb a w F hs=>wp_mono (h Pb Kb a w F hs) fun _ _ _ hn=>hn.hint
theorem rV{o:Oper}{l:List Oper}{K:AS->Prop}(hg:o.guard=none)(h:Hx N A fun B=>WL P N ops (o::l) B K):WL P N ops (o::l) A K:=by
 simp only[WL,gd,hg]at h ⊢
 intro Pb Kb a w F Q hs
 obtain⟨B,Pb',D3,F',h1,h2,h3,h4,h5⟩:=h Pb Kb a w F hs
 refine Oper.wp_mono (fun a' w' hn=>?_) (h1 Pb' D3 a w F' Q h2)
 exact Nx.step h3 h4 h5 (x7.refl _ _) hn
theorem LD{c:Code}{Q:Exit->AS->Prop}(h:QZ A B.t)(k:Qj A B.h)(hT:T P N c B Q):T P N c A Q:=
 oX (Hx.simple hT fun _ _ _ _ _ hs=>hs.X4 h k)
end
section
variable {w w':World} {Pb Kb Pb':Nat->Prop} {N:Nat} {A A' B:AS} {a:Act} {F:l8->List Nat} {P:Program} {ops:Array Oper}
structure Wu (w:World) (Pb Kb:Nat->Prop) (args:List V) (cargs:List Value) (H:List (Nat×(Nat×V))) (F:l8->List Nat):Prop where
 len:cargs.length=args.length
 slot:∀ i v x,args[i]? =some v->cargs[i]? =some x->RV w Pb v x (F (.slot i))
 root:∀ k g v,lk k H=some (g,v)->∃ F',F (.key k)=g::F'/\At w Pb v g 0 F'
 rest:∀ i,args.length<=i->F (.slot i)=[]
 cd:∀ r r',r≠r'->∀ g,g∈F r->g ∉ F r'
 nodup:∀ r,(F r).Nodup
 free:∀ r g,g∈F r->¬ Kb g/\g<w.heap.size
 sub:∀ g,Pb g->Kb g
 bound:∀ g,Kb g->g<w.heap.size
structure Fin (w w':World) (Pb Kb:Nat->Prop) (r:V) (x:Value) (H:List (Nat×(Nat×V))) (Pb' D3:Nat->Prop) (F:l8->List Nat):Prop where
 val:RV w' Pb' r x (F (.slot 0))
 root:∀ k g v,lk k H=some (g,v)->∃ F',F (.key k)=g::F'/\At w' Pb' v g 0 F'
 cd:∀ r r',r≠r'->∀ g,g∈F r->g ∉ F r'
 nodup:∀ r,(F r).Nodup
 free:∀ r g,g∈F r->¬ D3 g/\g<w'.heap.size
 sub:∀ g,Pb' g->D3 g
 bound:∀ g,D3 g->g<w'.heap.size
 mP:∀ g,Pb g->Pb' g
 mK:∀ g,Kb g->D3 g
 QY:∀ g,Pb' g->Pb g\/¬ Kb g
 eM:x7 Kb w w'
def PF(P:Program)(f:FuncId)(args:List V)(H:List (Nat×(Nat×V)))(Q:V->List (Nat×(Nat×V))->Prop):Prop:=
 mY P f/\∀ (w:World) (Pb Kb:Nat->Prop) (cargs:List Value) (F:l8->List Nat),Wu w Pb Kb args cargs H F->
  Calls P f cargs.toArray w fun e w'=> ∃ r x H' Pb' D3 F',e=.returned x/\Q r H'/\Fin w w' Pb Kb r x H' Pb' D3 F'
theorem PF.mono{f:FuncId}{args:List V}{H:List (Nat×(Nat×V))}{Q Q':V->List (Nat×(Nat×V))->Prop}(h:PF P f args H Q)(hQ:∀ r H,Q r H->Q' r H):PF P f args H Q':=
 ⟨h.1,fun w Pb Kb cargs F hi=>(h.2 w Pb Kb cargs F hi).mono fun _ _ ⟨r,x,H',Pb',D3,F',e,q,rest⟩=>⟨r,x,H',Pb',D3,F',e,hQ r H' q,rest⟩⟩
def GV(P:Program)(rs:List ResultVar)(Q:V->List (Nat×(Nat×V))->Prop):Exit->AS->Prop:=fun e A=>
 (e=.normal\/e=.ret)/\∃ xs H,pM A rs=some xs/\qp P rs xs/\(xs.map (·.1)).Nodup/\Qj A H/\(∀ k,lk k H≠none->l8.key k ∉ xs.map (·.1))/\Q (one (xs.map (·.2))) H
open Classical in
theorem AT{f:FuncId} {fn:Func} {c:Code} {args:List V} {H:List (Nat×(Nat×V))} {Q:V->List (Nat×(Nat×V))->Prop} (hf:P.funcs[f]? =some fn) (hb:fn.body=some c) (he:mY P f) (hN:args.length<=fn.ntmps)
 (h:T P fn.ntmps c ⟨enum 0 args,H⟩ (GV P fn.results.toList Q)):PF P f args H Q:=by
 refine⟨he,fun w Pb Kb cargs F hi=>?_⟩
 have hlen:=hi.len
 refine calls_of_wp hf hb ?_
 have hs:s4 fn.ntmps Pb Kb ⟨enum 0 args,H⟩ { tmps:=cargs.toArray++Array.replicate (fn.ntmps-cargs.toArray.size) undef,defers:=[] } w F:=by
  refine⟨Z0,rfl,fun i=>?_,hi.root,hi.cd,hi.nodup,hi.free,hi.sub,hi.bound⟩
  simp only[AS.get,AR,Nat.zero_le,if_true,Nat.sub_zero]
  cases VE:args[i]? with
  | none=>
    have:args.length<=i:=by simpa using VE
    rw[hi.rest i this];rfl
  | some v=>
    have hlt:i<args.length:=(Y7.1 VE).1
    have hx:cargs[i]? =some (cargs[i]'Z9):=YX Z9
    have hr:=hi.slot i v _ VE hx
    have e:(cargs.toArray++Array.replicate (fn.ntmps-cargs.toArray.size) undef).getD i undef=cargs[i]'Z9:=by
     rw[Array.getD_eq_getD_getElem?,Array.getElem?_append_left Z0]
     simp[hx]
    simp only[Option.getD_some]
    rw[e];exact hr
 refine wp_mono (h _ _ _ _ _ hs) ?_
 rintro e a' w' ⟨A',Pb',D3,F',⟨he',xs,H',RZ,Nh,hnd,hH,T0,hQ⟩,y9,k1,k2,k3,k4⟩
 obtain⟨x,Fr,A3,hr,NG,hin⟩:=Aw y9 RZ Nh hnd
 have Rp:a'.defers=[]/\∃ v,(results fn a'.tmps).run P w'=.ok v w'/\(∃ r x H' Pb' D3 F',Ending.returned v=.returned x/\Q r H'/\Fin w w' Pb Kb r x H' Pb' D3 F'):=by
  refine⟨y9.defers,x,A3,_,x,H',Pb',D3,(fun r=>match r with | .slot i=>if i=0 then Fr else [] | .key k=>if lk k H'=none then [] else F' (.key k)),rfl,hQ,?_⟩
  have hk:∀ k g,lk k H'≠none->g∈Fr->g ∉ F' (.key k):=fun k g hk hg c=>by
   obtain⟨r,PM,L'⟩:=hin g hg
   have hne:r≠.key k:=fun c=>T0 k hk (by rw[<- c];exact PM)
   exact y9.cd r _ hne g L' c
  refine⟨by simpa using hr,fun k g v VA=>?_,fun r r' hne g hg=>?_,fun r=>?_,fun r g hg=>?_,y9.sub,y9.bound,k1,k2,k3,k4⟩
  obtain⟨v',e1,e2⟩:=yP _ hH VA
  obtain⟨F1,hF,hA⟩:=y9.root k g v' e1
  refine⟨F1,?_,by have:=Cy v hA;rw[e2]at this;exact this⟩
  simp only;rw[if_neg (by rw[VA];simp)];exact hF
  cases r with
  | slot i=>
    simp only at hg
    split at hg
    rename_i hi0
    cases r' with
    | slot j=>simp only;rw[if_neg (fun c=>hne (by rw[hi0,c]))];simp
    | key k=>simp only;split
             simp
             rename_i TZ;exact hk k g TZ hg
    simp at hg
  | key k=>
    simp only at hg
    split at hg
    simp at hg
    rename_i TZ
    cases r' with
    | slot j=>simp only;split
              exact fun c=>hk k g TZ c hg
              simp
    | key k'=>simp only;split
              simp
              exact y9.cd _ _ hne g hg
  cases r <;> simp only <;> split <;> first | exact NG | exact Ze | exact y9.nodup _
  cases r with
  | slot i=>
    simp only at hg;split at hg
    obtain⟨r,_,h⟩:=hin g hg;exact y9.free r g h
    simp at hg
  | key k=>
    simp only at hg;split at hg
    simp at hg
    exact y9.free _ g hg
 rcases he' with rfl | rfl
 exact Rp
 exact Rp
theorem PF.Db{f:FuncId}{args:List V}{Q:V->List (Nat×(Nat×V))->Prop}(h:PF P f args [] Q):PC P f args (fun r=> ∃ H,Q r H):=by
 refine⟨h.1,fun w Pb cargs hP hargs=>?_⟩
 have hi:Wu w Pb (fun g=>g<w.heap.size) args cargs [] (fun _=>[]):=by
  refine⟨vY _ hargs,fun i v x hv hx=>?_,fun k g v hk=>by simp[lk]at hk,fun _ _=>rfl,fun _ _ _ _ hg=>by simp at hg,fun _=>Ze,fun _ _ hg=>by simp at hg,hP,fun _ h=>h⟩
  obtain⟨y,hy,hr⟩:=Ec args hargs hv
  rw[hx]at hy;cases hy;exact hr
 refine(h.2 w Pb _ cargs _ hi).mono ?_
 rintro e w' ⟨r,x,H',Pb',D3,F',rfl,hq,hf⟩
 refine⟨r,x,F' (.slot 0),Pb',rfl,⟨H',hq⟩,hf.val,hf.nodup _,fun g hg=>?_,hf.mP,fun g hg=>?_,⟨hf.eM.os,hf.eM.tape,hf.eM.output,hf.eM.size,fun k hk=>hf.eM.block k hk⟩⟩
 have:=hf.free _ g hg
 refine⟨Nat.le_of_not_lt fun c=>this.1 (hf.mK g c),this.2,fun c=>this.1 (hf.sub g c)⟩
 rcases hf.QY g hg with h | h
 exact .inl h
 exact .inr ⟨Nat.le_of_not_lt h,hf.bound g (hf.sub g hg)⟩
end
end Go.Proofs.YtbjbamjffkanbaaGreatDoor