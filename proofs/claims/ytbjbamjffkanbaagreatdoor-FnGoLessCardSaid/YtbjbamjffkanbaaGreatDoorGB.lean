/-
  Words and walks for the laws of pedlar's seat: what each function of the program computes, and that it does; no conditions beyond those that each statement names.
-/
import Derived.Test.YtbjbamjffkanbaaGreatDoorGA
import Derived.Scope
import Derived.Laws.MakeOwn
import Derived.MapKept
import Derived.Test.YtbjbamjffkanbaaGreatDoorProg
import Derived.Shelf.Strings.OnBuilder
import Derived.Shelf.Strings.Search2
import Derived.Shelf.Strings.Search3
import Derived.Shelf.Strings.Count
import Derived.Shelf.Strings.SplitCore
import Derived.Shelf.Strings.IndexAnyAll
import Derived.Shelf.Slices.Turned
import Derived.Shelf.Slices.Clone
import Derived.Lib.Join
import Derived.Lib.IndexAny
import Derived.Lib.SplitLaws
import Derived.WalkKit
import Derived.Laws.RangeString
import Derived.Deep.LoopGhost
set_option linter.unusedVariables false
set_option linter.unusedSimpArgs false
set_option linter.unnecessarySimpa false
set_option linter.unusedSectionVars false
namespace Go.Proofs.YtbjbamjffkanbaaGreatDoor
open Go Go.RowKit
set_option maxRecDepth 20000
mutual
def V.On(ρ:l8->l8):V->V
 | .hd r p sz g o lo n c=>.hd (ρ r) p sz g o lo n c
 | .ptr r p g o=>.ptr (ρ r) p g o
 | .agg vs=>.agg (V.wF ρ vs)
 | .tup vs=>.tup (V.wF ρ vs)
 | v=>v
def V.wF(ρ:l8->l8):List V->List V
 | []=>[]
 | v::vs=>v.On ρ::V.wF ρ vs
end
def U1:V->V
 | .tup _=>.a8
 | .gv _ _=>.a8
 | v=>v
def AS.tk(A:AS):List Operand->List V×AS
 | []=>([],A)
 | x::xs=>match (A.drop x).tk xs with
   | (vs,B)=>(U1 (A.ev x)::vs,B)
section
variable {w w':World} {Pb Kb Pb':Nat->Prop} {N:Nat} {A A' B:AS} {a:Act} {F:l8->List Nat} {P:Program} {ops:Array Oper}
mutual
theorem HZ(ρ:l8->l8):∀ (v:V) {cs F},R w Pb v cs F->R w Pb (v.On ρ) cs F
 | .agg vs,_,_,h=>by simp only[R,V.On]at h ⊢;exact uT ρ vs h
 | .tup _,_,_,h=>by simp[R]at h
 | .hd ..,_,_,h=>h
 | .ptr ..,_,_,h=>h
 | .gv _ _,_,_,h=>h
 | .lit _,_,_,h=>h
 | .sl ..,_,_,h=>h
 | .own ..,_,_,h=>h
 | .ow ..,_,_,h=>h
 | .om ..,_,_,h=>h
 | .mp _,_,_,h=>h
 | .ep _,_,_,h=>h
 | .a8,_,_,h=>h
theorem uT(ρ:l8->l8):∀ (vs:List V) {cs F},RL w Pb vs cs F->RL w Pb (V.wF ρ vs) cs F
 | [],_,_,h=>h
 | v::vs,_,_,h=>by
   obtain⟨c1,c2,F1,F2,rfl,rfl,h1,h2⟩:=h
   exact⟨c1,c2,F1,F2,rfl,rfl,HZ ρ v h1,uT ρ vs h2⟩
end
theorem IL(ρ:l8->l8){v:V}{x:Value}{F1:List Nat}(h:OB w Pb v x F1):OB w Pb (v.On ρ) x F1:=by
 cases v with
 | agg us=>obtain⟨cs,rfl,h⟩:=h;exact⟨cs,rfl,uT ρ us h⟩
 | tup vs=>simp[OB,R]at h
 | _=>exact h
theorem Bb(ρ:l8->l8):∀ (vs:List V) {xs F1},RVs w Pb vs xs F1->RVs w Pb (V.wF ρ vs) xs F1
 | [],_,_,h=>h
 | v::vs,xs,F1,h=>by
   obtain⟨x,xs',Fa,Fb,rfl,rfl,h1,h2⟩:=(uv (v::vs)).1 h
   exact(uv (v.On ρ::V.wF ρ vs)).2 ⟨x,xs',Fa,Fb,rfl,rfl,IL ρ h1,Bb ρ vs h2⟩
theorem KN(ρ:l8->l8){v:V}{x:Value}{F1:List Nat}(h:RV w Pb v x F1):RV w Pb (v.On ρ) x F1:=by
 cases v with
 | agg us=>obtain⟨cs,rfl,h⟩:=h;exact⟨cs,rfl,uT ρ us h⟩
 | tup us=>obtain⟨cs,rfl,h⟩:=h;exact⟨cs,rfl,Bb ρ us h⟩
 | _=>exact h
def RA(w:World)(Pb:Nat->Prop):List V->List Value->List (List Nat)->Prop
 | [],[],[]=>True
 | v::vs,x::xs,F::Fs=>RV w Pb v x F/\RA w Pb vs xs Fs
 | _,_,_=>False
theorem qc:∀ {vs us:List V} {xs ys:List Value} {Fs Gs:List (List Nat)},RA w Pb vs xs Fs->RA w Pb us ys Gs->RA w Pb (vs++us) (xs++ys) (Fs++Gs)
 | [],_,[],_,[],_,_,h=>h
 | _::_,_,_::_,_,_::_,_,h,k=>⟨h.1,qc h.2 k⟩
 | [],_,_::_,_,_,_,h,_=>h.elim
 | [],_,[],_,_::_,_,h,_=>h.elim
 | _::_,_,[],_,_,_,h,_=>h.elim
 | _::_,_,_::_,_,[],_,h,_=>h.elim
theorem Bv:∀ {vs:List V} {xs:List Value} {Fs:List (List Nat)},RA w Pb vs xs Fs->xs.length=vs.length/\Fs.length=vs.length
 | [],[],[],_=>⟨rfl,rfl⟩
 | _::_,_::_,_::_,h=>by have:=Bv h.2;simp[this.1,this.2]
 | [],_::_,_,h=>h.elim
 | [],[],_::_,h=>h.elim
 | _::_,[],_,h=>h.elim
 | _::_,_::_,[],h=>h.elim
theorem AE:∀ {vs:List V} {xs:List Value} {Fs:List (List Nat)} {i:Nat} {v:V} {x:Value},RA w Pb vs xs Fs->vs[i]? =some v->xs[i]? =some x->RV w Pb v x (Fs.getD i [])
 | v::vs,x::xs,F::Fs,0,_,_,h,h1,h2=>by simp at h1 h2;subst h1 h2;exact h.1
 | v::vs,x::xs,F::Fs,i+1,_,_,h,h1,h2=>by simpa using AE (i:=i) h.2 (by simpa using h1) (by simpa using h2)
 | [],_,_,_,_,_,_,h1,_=>by simp at h1
 | _::_,[],_,_,_,_,h,_,_=>h.elim
 | _::_,_::_,[],_,_,_,h,_,_=>h.elim
theorem EW:∀ {vs us:List V} {xs:List Value} {Fs:List (List Nat)},RA w Pb vs xs Fs->RA w Pb (No vs us) xs Fs
 | [],us,[],[],_=>by simp only[No];trivial
 | v::vs,[],_,_,h=>by simpa only[No] using h
 | v::vs,u::us,x::xs,F::Fs,h=>⟨xX u h.1,EW h.2⟩
 | [],_,_::_,_,h=>h.elim
 | [],_,[],_::_,h=>h.elim
 | _::_,_::_,[],_,h=>h.elim
 | _::_,_::_,_::_,[],h=>h.elim
theorem pA:∀ (l:List Value),RA w Pb (l.map cV) l (l.map fun _=>[])
 | []=>trivial
 | x::l=>⟨rW x,pA l⟩
theorem KS{v:V}{x:Value}{Fx:List Nat}(h:RV w Pb v x Fx):∃ Fy,RV w Pb (U1 v) x Fy/\(Fy=Fx\/Fy=[]):=by
 cases v with
 | tup _=>exact⟨[],rfl,.inr rfl⟩
 | gv _ _=>exact⟨[],rfl,.inr rfl⟩
 | _=>exact⟨Fx,h,.inl rfl⟩
theorem s4.tk:∀ (xs:List Operand) {A:AS} {F:l8->List Nat},s4 N Pb Kb A a w F->∃ Fl F',RA w Pb (A.tk xs).1 (xs.map a.eval) Fl/\s4 N Pb Kb (A.tk xs).2 a w F'/\
 (∀ i,(Fl.getD i []).Nodup)/\(∀ i j,i≠j->∀ g,g∈Fl.getD i []->g ∉ Fl.getD j [])/\(∀ i r g,g∈Fl.getD i []->g ∉ F' r)/\(∀ i g,g∈Fl.getD i []->¬ Kb g/\g<w.heap.size)/\
 (∀ r g,g∈F' r->g∈F r)/\(∀ i g,g∈Fl.getD i []->∃ r,g∈F r)
 | [],A,F,hs=>⟨[],F,trivial,hs,Z8,Z8,Z8,Z8,fun _ _ h=>h,Z8⟩
 | x::xs,A,F,hs=>by
   obtain⟨Fx,F1,h1,h2,h3,h4,h5,h6,h7⟩:=hs.take x
   obtain⟨Fl,F2,k1,k2,k3,k4,k5,k6,k7,k8⟩:=s4.tk xs h2
   obtain⟨Fy,RY,Us⟩:=KS h1
   have V7:∀ g,g∈Fy->g∈Fx:=fun g hg=>by rcases Us with rfl | rfl <;> simp_all
   have hyn:Fy.Nodup:=by rcases Us with rfl | rfl <;> simp_all
   have hx:∀ i g,g∈Fy->g ∉ Fl.getD i []:=fun i g hg c=>by
    obtain⟨r,hr⟩:=k8 i g c
    exact h4 r g (V7 g hg) hr
   refine⟨Fy::Fl,F2,⟨RY,k1⟩,k2,fun i=>?_,fun i j hne g hg=>?_,fun i r g hg=>?_,fun i g hg=>?_,fun r g hg=>h6 r g (k7 r g hg),fun i g hg=>?_⟩
   cases i with
   | zero=>exact hyn
   | succ i=>simpa using k3 i
   cases i with
   | zero=>
     cases j with
     | zero=>exact absurd rfl hne
     | succ j=>simpa using hx j g (by simpa using hg)
   | succ i=>
     cases j with
     | zero=>exact fun c=>hx i g (by simpa using c) (by simpa using hg)
     | succ j=>simpa using k4 i j Z9 g (by simpa using hg)
   cases i with
   | zero=>exact fun c=>h4 r g (V7 g (by simpa using hg)) (k7 r g c)
   | succ i=>exact k5 i r g (by simpa using hg)
   cases i with
   | zero=>exact h5 g (V7 g (by simpa using hg))
   | succ i=>exact k6 i g (by simpa using hg)
   cases i with
   | zero=>exact h7 g (V7 g (by simpa using hg))
   | succ i=>
     obtain⟨r,hr⟩:=k8 i g (by simpa using hg)
     exact⟨r,h6 r g hr⟩
def Om(ks:List (Nat×Nat)):List (Nat×Nat):=ks.map fun p=>(p.2,p.1)
def ke(ks:List (Nat×Nat)):l8->l8
 | .key k=>match lk k ks with | some q=>.key q | none=>.key k
 | r=>r
def news(ρ:l8->l8)(H:List (Nat×(Nat×V))):List (Nat×Nat)->List (Nat×(Nat×V))
 | []=>[]
 | (k,q)::r=>match lk k H with
   | some (g,v)=>(q,(g,v.On ρ))::news ρ H r
   | none=>news ρ H r
def vX(ks:List (Nat×Nat))(h:List (Nat×(Nat×V))):List (Nat×(Nat×V)):=h.filter fun p=>(lk p.1 (Om ks)).isNone
theorem ij(ks:List (Nat×Nat)):∀ (h:List (Nat×(Nat×V))) (q:Nat),lk q (vX ks h)=if (lk q (Om ks)).isNone then lk q h else none
 | [],q=>by simp[vX,lk]
 | (k,v)::h,q=>by
   have ih:=ij ks h q
   simp only[vX,List.filter_cons]at ih ⊢
   by_cases hk:(lk k (Om ks)).isNone=true
   rw[if_pos hk]
   simp only[lk]
   by_cases e:q=k
   subst e;rw[if_pos rfl,if_pos rfl,if_pos hk]
   rw[if_neg e,if_neg e];exact ih
   rw[if_neg hk,ih]
   simp only[lk]
   by_cases e:q=k
   subst e;rw[if_neg hk,if_neg hk]
   rw[if_neg e]
theorem mz{α:Type}:∀ {l:List (Nat×α)} {q:Nat},q ∉ l.map (·.1)->lk q l=none
 | [],_,_=>rfl
 | (k,v)::l,q,h=>by
   simp only[Zi,List.mem_cons,not_or]at h
   simp only[lk];rw[if_neg h.1];exact mz h.2
theorem oP{ρ:l8->l8}{H:List (Nat×(Nat×V))}:∀ {ks:List (Nat×Nat)} {q:Nat},Nb (ks.map (·.2))=true->
 lk q (news ρ H ks)=(lk q (Om ks)).bind fun k=>(lk k H).map fun gv=>(gv.1,gv.2.On ρ)
 | [],q,_=>rfl
 | (k,q0)::ks,q,h=>by
   simp only[Zi,Nb,YS,Bool.not_eq_true',Zm,decide_eq_false_iff_not]at h
   have ih:=oP (ρ:=ρ) (H:=H) (ks:=ks) (q:=q) h.2
   simp only[news,Om,Zi,lk]
   by_cases e:q=q0
   subst e
   rw[if_pos rfl]
   simp only[Option.bind_some]
   cases hk:lk k H with
   | some gv=>simp only[lk,if_true,Option.map_some]
   | none=>
     simp only[Option.map_none]
     rw[ih,mz];rfl
     simp only[Om,List.map_map,Function.comp_def];exact h.1
   rw[if_neg e]
   cases hk:lk k H with
   | some gv=>simp only[lk];rw[if_neg e];exact ih
   | none=>exact ih
def AS.back(A:AS)(ks:List (Nat×Nat))(H:List (Nat×(Nat×V))):AS:=⟨A.t,news (ke ks) H ks++vX ks A.h⟩
theorem ld{α:Type}(t:Nat)(l1 l2:List (Nat×α)):lk t (l1++l2)=match lk t l1 with | some v=>some v | none=>lk t l2:=DB t l1 l2
def ln(B:AS)(ks:List (Nat×Nat)):List (Nat×(Nat×V))->Prop
 | []=>True
 | (k,(g,v))::r=>(match lk k ks with | some q=>(match lk q B.h with | some (g',v')=>(g',wk v' v)=(g,v) | none=>False) | none=>False)/\ln B ks r
theorem uA{B:AS}{ks:List (Nat×Nat)}:∀ {H:List (Nat×(Nat×V))} {k g:Nat} {v:V},ln B ks H->lk k H=some (g,v)->∃ q v',lk k ks=some q/\lk q B.h=some (g,v')/\wk v' v=v
 | [],_,_,_,_,h=>by simp[lk]at h
 | (k0,(g0,v0))::H,k,g,v,h,e=>by
   simp only[lk]at e
   split at e
   rename_i e';subst e';cases e
   have h1:=h.1
   split at h1
   rename_i q hq
   split at h1
   rename_i g' v' Xa
   simp only[YU]at h1
   exact⟨q,v',hq,by rw[Xa,h1.1],h1.2⟩
   exact h1.elim
   exact h1.elim
   exact uA h.2 e
theorem vb{α:Type}:∀ {l:List (Nat×α)} {k:Nat} {v:α},lk k l=some v->(k,v)∈l
 | [],_,_,h=>by simp[lk]at h
 | (k0,v0)::l,k,v,h=>by
   simp only[lk]at h
   split at h
   rename_i e;subst e;cases h;simp
   exact List.mem_cons_of_mem _ (vb h)
theorem od{α:Type}:∀ {l:List (Nat×α)} {k:Nat} {v:α},Nb (l.map (·.1))=true->(k,v)∈l->lk k l=some v
 | (k0,v0)::l,k,v,h,hm=>by
   simp only[Zi,Nb,YS,Bool.not_eq_true',Zm,decide_eq_false_iff_not]at h
   simp only[lk]
   rcases List.mem_cons.1 hm with e | hm
   cases e;rw[if_pos rfl]
   have hne:k≠k0:=fun c=>h.1 (by rw[<- c];exact List.mem_map.2 ⟨_,hm,rfl⟩)
   rw[if_neg hne];exact od h.2 hm
theorem pn{ks:List (Nat×Nat)}{k q:Nat}(h1:Nb (ks.map (·.1))=true)(h2:Nb (ks.map (·.2))=true):lk k ks=some q↔lk q (Om ks)=some k:=by
 have e:(Om ks).map (·.1)=ks.map (·.2):=by simp[Om,List.map_map,Function.comp_def]
 constructor
 intro h
 refine od (by rw[e];exact h2) ?_
 exact List.mem_map.2 ⟨(k,q),vb h,rfl⟩
 intro h
 have hm:=vb h
 simp only[Om,List.mem_map,YU]at hm
 obtain⟨⟨x,y⟩,hm,e1,e2⟩:=hm
 simp only at e1 e2
 subst e1 e2
 exact od h1 hm
open Classical in
theorem nR{o:Oper} {K:AS->Prop} {f:FuncId} {fx:Operand} {xs:Array Operand} {K5:Array TypeId} {first x6:Array Value} {args:List V} {H:List (Nat×(Nat×V))}
 {Q:V->List (Nat×(Nat×V))->Prop} (ks:List (Nat×Nat)) (ho:o.op=.call { callee:=.value fx,args:=xs,argTypes:=K5 }) (Xs:A.ev fx=.lit (.func (.func f) first x6))
 (hd:cF N o.dst) (P9:Nb (ks.map (·.1))=true) (MT:Nb (ks.map (·.2))=true) (hc:PF P f args H Q)
 (hargs:No (first.toList.map cV++(A.tk xs.toList).1++x6.toList.map cV) args=args) (hlen:args.length=(first.toList.map cV++(A.tk xs.toList).1++x6.toList.map cV).length)
 (PL:ln (A.tk xs.toList).2 ks H)
 (hK:∀ r H',Q r H'->K (((A.tk xs.toList).2.back ks H').put o.dst (r.On (ke ks)))):E2 P N o A K:=by
 intro Pb Kb a w F Q' hs
 have hfv:=bY hs Xs
 unfold Oper.wp
 have A3:(execOp a.eval o).run P w=.ok (.enter f (first++xs.map a.eval++x6)) w:=by
  simp only[execOp,ho,resolve,hfv,Deferred.ofValue,Y4,Y5,YW,invoke]
  exact hc.1 _ w
 rw[A3,Oper.upon_enter]
 obtain⟨Fl,F2,k1,k2,k3,k4,k5,k6,k7,k8⟩:=hs.tk xs.toList
 let B:=(A.tk xs.toList).2
 have hle:(⟨B.t,vX ks B.h⟩:AS).le B:=⟨fun _=>.inr rfl,fun q=>by
  simp only[ij];split
  exact .inr rfl
  exact .inl rfl⟩
 let F3:l8->List Nat:=fun r=>match r with
  | .slot i=>F2 (.slot i)
  | .key q=>if (lk q (Om ks)).isNone then F2 (.key q) else []
 have Sg:∀ r g,g∈F3 r->g∈F2 r:=fun r g hg=>by
  cases r with
  | slot i=>exact hg
  | key q=>simp only[F3]at hg;split at hg
           exact hg
           simp at hg
 have MN:s4 N Pb Kb ⟨B.t,vX ks B.h⟩ a w F3:=by
  refine⟨k2.size,k2.defers,k2.slot,fun q g v hq=>?_,fun r r' hne g hg c=>k2.cd r r' hne g (Sg r g hg) (Sg r' g c),fun r=>?_,fun r g hg=>k2.free r g (Sg r g hg),k2.sub,k2.bound⟩
  simp only[ij]at hq
  split at hq
  rename_i hn
  obtain⟨F',e,hA⟩:=k2.root q g v hq
  exact⟨F',by simp only[F3];rw[if_pos hn];exact e,hA⟩
  simp at hq
  cases r with
  | slot i=>exact k2.nodup _
  | key q=>simp only[F3];split
           exact k2.nodup _
           exact Ze
 let Kc:Nat->Prop:=fun g=>Kb g\/∃ r,g∈F3 r
 let FL:=first.toList.map (fun _=>([]:List Nat))++Fl++x6.toList.map (fun _=>([]:List Nat))
 have YD:RA w Pb (first.toList.map cV++(A.tk xs.toList).1++x6.toList.map cV) (first.toList++xs.toList.map a.eval++x6.toList) FL:=
  qc (qc (pA _) k1) (pA _)
 have VR:∀ i g,g∈FL.getD i []->∃ j,FL.getD i []=Fl.getD j []/\i=first.toList.length+j:=by
  intro i g hg
  simp only[FL,YQ,List.append_assoc]at hg ⊢
  by_cases h1:i<first.toList.length
  rw[Zd (by simpa using h1),List.getElem?_map]at hg
  cases he:first.toList[i]? <;> rw[he]at hg <;> simp at hg
  have hij:i=first.toList.length+(i-first.toList.length):=Z9
  rw[Y8 (by simpa using h1)]at hg ⊢
  simp only[Y2]at hg ⊢
  by_cases h2:i-first.toList.length<Fl.length
  rw[Zd h2]
  exact⟨_,rfl,hij⟩
  rw[Y8 Z9,List.getElem?_map]at hg
  cases he:x6.toList[i-first.toList.length-Fl.length]? <;> rw[he]at hg <;> simp at hg
 let FC:l8->List Nat:=fun r=>match r with
  | .slot i=>FL.getD i []
  | .key k=>match lk k ks with
    | some q=>if lk k H=none then [] else F2 (.key q)
    | none=>[]
 have XG:∀ r g,g∈FC r->(∃ i j,r=.slot i/\g∈Fl.getD j []/\i=first.toList.length+j)\/(∃ k q,r=.key k/\lk k ks=some q/\g∈F2 (.key q)):=by
  intro r g hg
  cases r with
  | slot i=>
    obtain⟨j,e,hj⟩:=VR i g hg
    exact .inl ⟨i,j,rfl,by rw[<- e];exact hg,hj⟩
  | key k=>
    simp only[FC]at hg
    split at hg
    rename_i q hq
    split at hg
    simp at hg
    exact .inr ⟨k,q,rfl,hq,hg⟩
    simp at hg
 have XH:∀ k q,lk k ks=some q->∀ r g,g∈F2 (.key q)->g ∉ F3 r:=by
  intro k q hq r g hg c
  cases r with
  | slot i=>exact k2.cd (.key q) (.slot i) Z8 g hg c
  | key q'=>
    simp only[F3]at c
    split at c
    rename_i hn
    have hne:(l8.key q)≠.key q':=fun e=>by
     cases e
     rw[(pn P9 MT).1 hq]at hn;simp at hn
    exact k2.cd _ _ hne g hg c
    simp at c
 have Sf:∀ r g,g∈FC r->¬ Kc g/\g<w.heap.size:=by
  intro r g hg
  rcases XG r g hg with ⟨i,j,_,h,_⟩ | ⟨k,q,_,hq,h⟩
  refine⟨fun c=>?_,(k6 j g h).2⟩
  rcases c with c | ⟨r',c⟩
  exact(k6 j g h).1 c
  exact k5 j r' g h (Sg r' g c)
  refine⟨fun c=>?_,(k2.free _ g h).2⟩
  rcases c with c | ⟨r',c⟩
  exact(k2.free _ g h).1 c
  exact XH k q hq r' g h c
 have hi:Wu w Pb Kc args (first.toList++xs.toList.map a.eval++x6.toList) H FC:=by
  have hl:=Bv YD
  have YC:=EW (us:=args) YD
  rw[hargs]at YC
  refine⟨by rw[hl.1,hlen],fun i v x hv hx=>AE YC hv hx,fun k g v VA=>?_,fun i VE=>?_,fun r r' hne g hg c=>?_,fun r=>?_,Sf,fun g hg=>.inl (k2.sub g hg),fun g hg=>?_⟩
  obtain⟨q,v',h1,h2,h3⟩:=uA PL VA
  obtain⟨F',e,hA⟩:=k2.root q g v' h2
  refine⟨F',?_,by have:=Cy v hA;rw[h3]at this;exact this⟩
  simp only[FC,h1];rw[if_neg (by rw[VA];simp)];exact e
  simp only[FC]
  rw[YQ,List.getElem?_eq_none (by rw[hl.2,<- hlen];exact VE)];rfl
  rcases XG r g hg with ⟨i,j,e1,h,e1'⟩ | ⟨k,q,e1,hq,h⟩ <;> rcases XG r' g c with ⟨i',j',e2,h',UL⟩ | ⟨k',q',e2,Xa,h'⟩
  refine k4 j j' (fun e=>hne ?_) g h h'
  rw[e1,e2,e1',UL,e]
  exact k5 j (.key q') g h h'
  exact k5 j' (.key q) g h' h
  have W9:q=q':=Classical.byContradiction fun W9=>k2.cd (.key q) (.key q') (fun e=>W9 (by cases e;rfl)) g h h'
  subst W9
  have:=(pn P9 MT).1 hq
  rw[(pn P9 MT).1 Xa]at this
  cases this
  exact hne (by rw[e1,e2])
  cases r with
  | slot i=>
    by_cases he:FL.getD i []=[]
    simp only[FC];rw[he];exact Ze
    obtain⟨g,hg⟩:=List.exists_mem_of_ne_nil _ he
    obtain⟨j,e,_⟩:=VR i g hg
    simp only[FC];rw[e];exact k3 j
  | key k=>
    simp only[FC]
    split
    split
    exact Ze
    exact k2.nodup _
    exact Ze
  rcases hg with h | ⟨r,h⟩
  exact k2.bound g h
  exact(MN.free r g h).2
 have J4:=hc.2 w Pb Kc _ FC hi
 have e:(first.toList++xs.toList.map a.eval++x6.toList).toArray=first++xs.map a.eval++x6:=by
  apply Array.ext';simp
 rw[e]at J4
 refine J4.mono ?_
 rintro e w' ⟨r,x,H',Pb',D3,F',rfl,hq,hf⟩
 have P8:x7 Kb w w':=⟨hf.eM.os,hf.eM.tape,hf.eM.output,hf.eM.size,fun g hg=>hf.eM.block g (.inl hg),hf.eM.shape⟩
 let K2:Nat->Prop:=fun g=>Kb g\/(D3 g/\¬ ∃ r,g∈F3 r)
 have Yz:∀ r g,g∈F3 r->¬ Pb' g:=fun r g hg c=>by
  rcases hf.QY g c with h | h
  exact(MN.free r g hg).1 (MN.sub g h)
  exact h (.inr ⟨r,hg⟩)
 have Vk:∀ g,Pb' g->K2 g:=fun g hg=>by
  rcases hf.QY g hg with h | h
  exact .inl (MN.sub g h)
  exact .inr ⟨hf.sub g hg,fun⟨r,c⟩=>h (.inr ⟨r,c⟩)⟩
 have N6:∀ r g,g∈F' r->(¬ K2 g/\g<w'.heap.size)/\∀ r',g ∉ F3 r':=fun r g hg=>by
  have h:=hf.free r g hg
  refine⟨⟨fun c=>?_,h.2⟩,fun r' c=>h.1 (hf.mK g (.inr ⟨r',c⟩))⟩
  rcases c with c | c
  exact h.1 (hf.mK g (.inl c))
  exact h.1 c.1
 let F4:l8->List Nat:=fun r=>match r with
  | .slot i=>F3 (.slot i)
  | .key q=>match lk q (Om ks) with
    | some k=>if lk k H'=none then [] else F' (.key k)
    | none=>F3 (.key q)
 have Wn:∀ r g,g∈F4 r->g∈F3 r\/∃ q k,r=.key q/\lk q (Om ks)=some k/\g∈F' (.key k):=fun r g hg=>by
  cases r with
  | slot i=>exact .inl hg
  | key q=>
    simp only[F4]at hg
    split at hg
    rename_i k hk
    split at hg
    simp at hg
    exact .inr ⟨q,k,rfl,hk,hg⟩
    exact .inl hg
 have Yk:s4 N Pb' K2 (B.back ks H') a w' F4:=by
  refine⟨MN.size,MN.defers,fun i=>?_,fun q g v hq=>?_,fun r r' hne g hg c=>?_,fun r=>?_,fun r g hg=>?_,Vk,fun g hg=>?_⟩
  exact mH _ (MN.slot i) (fun g hg=>hf.eM.block g (.inl (MN.sub g hg))) (fun g hg=>hf.eM.block g (.inr ⟨.slot i,hg⟩)) hf.mP (fun g hg=>Yz (.slot i) g hg)
  simp only[AS.back,ld,oP MT]at hq
  cases Vj:lk q (Om ks) with
  | some k=>
    rw[Vj]at hq
    simp only[Option.bind_some]at hq
    cases Wf:lk k H' with
    | some gv=>
      rw[Wf]at hq
      simp only[Option.map_some,YR,YU]at hq
      obtain⟨g0,v0⟩:=gv
      obtain⟨rfl,rfl⟩:=hq
      obtain⟨F1,e1,cs,cells,hb,hr,J5⟩:=hf.root k g0 v0 Wf
      exact⟨F1,by simp only[F4,Vj];rw[if_neg (by rw[Wf];simp)];exact e1,cs,cells,hb,HZ _ _ hr,J5⟩
    | none=>
      rw[Wf]at hq
      simp only[Option.map_none]at hq
      rw[ij,Vj]at hq
      simp at hq
  | none=>
    rw[Vj]at hq
    simp only[Option.bind_none]at hq
    obtain⟨F1,e1,hA⟩:=MN.root q g v hq
    refine⟨F1,by simp only[F4,Vj];exact e1,?_⟩
    obtain⟨cs,cells,⟨el,fr,hb,hfr⟩,hr,J5⟩:=hA
    have hin:∀ y,y∈g::F1->w'.heap[y]? =w.heap[y]? :=fun y hy=>hf.eM.block y (.inr ⟨.key q,by rw[e1];exact hy⟩)
    exact⟨cs,cells,⟨el,fr,(hin g Z8).trans hb,hfr⟩,fX _ hr (fun y hy=>hf.eM.block y (.inl (MN.sub y hy))) (fun y hy=>hin y (by simp[hy])) hf.mP (fun y hy=>Yz (.key q) y (by rw[e1];simp[hy])),J5⟩
  rcases Wn r g hg with h | ⟨q,k,e1,h1,h2⟩ <;> rcases Wn r' g c with h' | ⟨q',k',e2,Qo,Wo⟩
  exact MN.cd r r' hne g h h'
  exact(N6 _ g Wo).2 r h
  exact(N6 _ g h2).2 r' h'
  have TZ:k=k':=Classical.byContradiction fun TZ=>hf.cd (.key k) (.key k') (fun e=>TZ (by cases e;rfl)) g h2 Wo
  subst TZ
  have e3:=(pn P9 MT).2 h1
  rw[(pn P9 MT).2 Qo]at e3
  cases e3
  exact hne (by rw[e1,e2])
  cases r with
  | slot i=>exact MN.nodup (.slot i)
  | key q=>
    simp only[F4]
    split
    split
    exact Ze
    exact hf.nodup _
    exact MN.nodup (.key q)
  rcases Wn r g hg with h | ⟨q,k,_,_,h2⟩
  have h3:=MN.free r g h
  refine⟨fun c=>?_,Nat.lt_of_lt_of_le h3.2 hf.eM.size⟩
  rcases c with c | c
  exact h3.1 c
  exact c.2 ⟨r,h⟩
  exact(N6 _ g h2).1
  rcases hg with h | h
  exact Nat.lt_of_lt_of_le (MN.bound g h) hf.eM.size
  exact hf.bound g h.1
 have Rp:∀ A' a' F5,K A'->s4 N Pb' K2 A' a' w' F5->Nx N Pb Kb w K a' w':=fun A' a' F5 hk TK=>
  ⟨A',Pb',K2,F5,hk,TK,hf.mP,fun g hg=>.inl hg,fun g hg=>by
   rcases hf.QY g hg with h | h
   exact .inl h
   exact .inr fun c=>h (.inl c),P8⟩
 cases L6:o.dst with
 | none=>exact Rp _ _ F4 (hK r H' hq) (by rw[L6];exact Yk)
 | some d=>
   rw[L6]at hd
   refine Rp _ _ (cf F4 (.slot d) (F' (.slot 0))) (hK r H' hq) ?_
   rw[L6]
   refine Yk.put hd (KN _ hf.val) (fun rt _ g hg c=>?_) (hf.nodup _) (fun g hg=>(N6 _ g hg).1)
   rcases Wn rt g c with h | ⟨q,k,_,_,h2⟩
   exact(N6 _ g hg).2 rt h
   exact hf.cd (.slot 0) (.key k) Z8 g hg h2
end
section
variable {w w':World} {Pb Kb Pb':Nat->Prop} {N:Nat} {A A' A1 B:AS} {a:Act} {F:l8->List Nat} {P:Program} {ops:Array Oper}
theorem tW:∀ (vs:List V) {cs F} {j:Nat} {x:V},RL w Pb vs cs F->vs[j]? =some x->∃ cj Fj,R w Pb x cj Fj/\(∀ i u,cj[i]? =some u->cs[V.ns (vs.take j)+i]? =some u)/\
 ∀ x',R w Pb x' cj Fj->RL w Pb (vs.set j x') cs F
 | [],_,_,_,_,_,h=>by simp at h
 | v::vs,cs,F,0,x,h,hj=>by
   obtain⟨c1,c2,F1,F2,rfl,rfl,h1,h2⟩:=h
   simp at hj;subst hj
   exact⟨c1,F1,h1,fun i u hu=>by simp only[List.take_zero,V.ns,Y0];rw[Zd (Y7.1 hu).1];exact hu,fun x' hx=>⟨c1,c2,F1,F2,rfl,rfl,hx,h2⟩⟩
 | v::vs,cs,F,j+1,x,h,hj=>by
   obtain⟨c1,c2,F1,F2,rfl,rfl,h1,h2⟩:=h
   obtain⟨cj,Fj,k1,k2,k3⟩:=tW vs h2 (by simpa using hj)
   refine⟨cj,Fj,k1,fun i u hu=>?_,fun x' hx=>⟨c1,c2,F1,F2,rfl,rfl,h1,k3 x' hx⟩⟩
   have:=k2 i u hu
   simp only[List.take_succ_cons,V.ns]
   rw[<- ez v h1,Zn,Y8 Z9]
   rw[show c1.length+(V.ns (vs.take j)+i)-c1.length=V.ns (vs.take j)+i from Z9];exact this
theorem rR:∀ (p:List Nat) {v u:V} {g o g' o':Nat} {cs:List Value} {F:List Nat},R w Pb v cs F->V.at g o v p=some (g',o',u)->
 ∃ cu Fu,R w Pb u cu Fu/\∀ u',u'.n=u.n->R w Pb u' cu Fu->R w Pb (v.set p u') cs F/\(v.set p u').n=v.n
 | [],v,u,g,o,g',o',cs,F,h,e=>by
   simp only[V.at,YR,YU]at e
   obtain⟨rfl,rfl,rfl⟩:=e
   exact⟨cs,F,h,fun u' hn hu=>⟨hu,hn⟩⟩
 | j::p,v,u,g,o,g',o',cs,F,h,e=>by
   simp only[V.at]at e
   split at e
   rename_i vs
   split at e
   rename_i x hx
   simp only[R]at h
   obtain⟨cj,Fj,k1,k2,k3⟩:=tW vs h hx
   obtain⟨cu,Fu,m1,m2⟩:=rR p k1 e
   refine⟨cu,Fu,m1,fun u' hn hu=>?_⟩
   obtain⟨q1,q2⟩:=m2 u' hn hu
   have h3:=k3 _ q1
   refine⟨by simp only[V.set,hx,R];exact h3,?_⟩
   simp only[V.set,hx,V.n]
   rw[<- iC _ h3,<- iC _ h]
   simp at e
   rename_i sz xs g1 o1 c1
   split at e
   rename_i x hx
   rcases h with ⟨_,rfl,_⟩ | ⟨h1,h2,h3,h4,h5,h6,flat,F',cells,h7,hr,hb,hsz,hc⟩
   simp at hx
   obtain⟨cj,Fj,k1,k2,k3⟩:=tW xs hr hx
   obtain⟨cu,Fu,m1,m2⟩:=rR p k1 e
   refine⟨cu,Fu,m1,fun u' hn hu=>?_⟩
   obtain⟨q1,q2⟩:=m2 u' hn hu
   refine⟨?_,by simp only[V.set,hx];rfl⟩
   simp only[V.set,hx]
   refine .inr ⟨h1,h2,by simpa using h3,by simpa using h4,fun y hy=>?_,h6,flat,F',cells,h7,k3 _ q1,hb,hsz,hc⟩
   rcases List.mem_or_eq_of_mem_set hy with h | h
   exact h5 y h
   rw[h,q2];exact h5 x (Zb hx)
   simp at e
   simp at e
theorem s4.so(hs:s4 N Pb Kb A a w F){r:l8}{p:List Nat}{g o:Nat}{u:V}(x9:A.at r p=some (g,o,u)):
 ∃ cu Fu,R w Pb u cu Fu/\∀ u',u'.n=u.n->R w Pb u' cu Fu->s4 N Pb Kb (A.setAt r p u') a w F:=by
 cases r with
 | key k=>
   simp only[AS.at]at x9
   split at x9
   rename_i g0 t hk
   obtain⟨F0,hF,cs,cells,hb,hr,hc⟩:=hs.root k g0 t hk
   obtain⟨cu,Fu,h1,h2⟩:=rR p hr x9
   refine⟨cu,Fu,h1,fun u' hn hu=>⟨hs.size,hs.defers,fun i=>?_,fun k' g1 v1 G7=>?_,hs.cd,hs.nodup,hs.free,hs.sub,hs.bound⟩⟩
   have:(A.setAt (.key k) p u').get i=A.get i:=by simp only[AS.setAt,hk];rfl
   rw[this];exact hs.slot i
   simp only[AS.setAt,hk,lk]at G7
   split at G7
   rename_i e;subst e
   simp only[YR,YU]at G7
   obtain⟨rfl,rfl⟩:=G7
   exact⟨F0,hF,cs,cells,hb,(h2 u' hn hu).1,hc⟩
   exact hs.root k' g1 v1 G7
   simp at x9
 | slot i=>
   simp only[AS.at]at x9
   split at x9
   rename_i sz xs g0 o0 c0 j p' hg
   have hr:=hs.slot i
   rw[hg]at hr
   have hr:R w Pb (.own sz xs g0 o0 c0) [a.tmps.getD i undef] (F (.slot i)):=hr
   obtain⟨cu,Fu,h1,h2⟩:=rR (j::p') hr x9
   refine⟨cu,Fu,h1,fun u' hn hu=>⟨hs.size,hs.defers,fun t=>?_,hs.root,hs.cd,hs.nodup,hs.free,hs.sub,hs.bound⟩⟩
   by_cases e:t=i
   subst e
   simp only[AS.setAt,AS.get,lk,if_true,Option.getD_some]
   have h3:=(h2 u' hn hu).1
   have e2:(A.get t).set (j::p') u'=(V.own sz xs g0 o0 c0).set (j::p') u':=by rw[hg]
   have e3:∃ ys,(V.own sz xs g0 o0 c0).set (j::p') u'=.own sz ys g0 o0 c0:=by
    simp only[V.set];split
    exact⟨_,rfl⟩
    exact⟨_,rfl⟩
   obtain⟨ys,e3⟩:=e3
   show RV w Pb ((A.get t).set (j::p') u') _ _
   rw[e2,e3];rw[e3]at h3
   exact h3
   simp only[AS.setAt,AS.get,lk];rw[if_neg e];exact hs.slot t
   simp at x9
theorem Jv{K:AS->Prop}(t sz:Nat)(ht:t<N)(hg:A.get t=.sl true [])(h:K (A.put (some t) (.own sz [] 0 0 0))):Hx N A K:=
 Hx.simple h fun Pb Kb a w F hs=>by
  have hr:=hs.slot t
  rw[hg]at hr
  obtain⟨hF,B,cc,hv,_,Pe,_⟩:=hr
  have PA:cc=0:=Pe rfl
  subst PA
  exact⟨_,hs.yN ht (.inl ⟨rfl,rfl,hF,B,hv⟩)⟩
theorem zw{K:AS->Prop}{r:l8}{p:List Nat}{g o sz:Nat}(x9:A.at r p=some (g,o,.sl true []))(h:K (A.setAt r p (.own sz [] 0 0 0))):Hx N A K:=
 Hx.simple h fun Pb Kb a w F hs=>by
  obtain⟨cu,Fu,hr,hk⟩:=hs.so x9
  obtain⟨hF,B,cc,hv,_,Pe,_⟩:=hr
  have PA:cc=0:=Pe rfl
  subst PA
  exact⟨_,hk (.own sz [] 0 0 0) rfl (.inl ⟨rfl,rfl,hF,B,hv⟩)⟩
theorem AG{K:AS->Prop}{t sz:Nat}{xs:List V}(ht:t<N)(hg:A.get t=.ow sz xs)(h:∀ g o c,K (A.put (some t) (.own sz xs g o c))):Hx N A K:=fun Pb Kb a w F hs=>by
 have hr:=hs.slot t
 rw[hg]at hr
 have hr:R w Pb (.ow sz xs) [a.tmps.getD t undef] (F (.slot t)):=hr
 obtain⟨g,o,c,hr⟩:=Hm.1 hr
 exact⟨_,Pb,Kb,_,h g o c,hs.yN ht hr,fun _ h=>h,fun _ h=>h,fun _ h=>.inl h⟩
theorem qn{K:AS->Prop}{r:l8}{p:List Nat}{g o sz:Nat}{xs:List V}(x9:A.at r p=some (g,o,.ow sz xs))(h:∀ g o c,K (A.setAt r p (.own sz xs g o c))):Hx N A K:=fun Pb Kb a w F hs=>by
 obtain⟨cu,Fu,h1,h2⟩:=hs.so x9
 obtain⟨g,o,c,hr⟩:=Hm.1 h1
 exact⟨_,Pb,Kb,_,h g o c,h2 _ rfl hr,fun _ h=>h,fun _ h=>h,fun _ h=>.inl h⟩
theorem DV{K:AS->Prop}{r:l8}{p:List Nat}{g o:Nat}{u:V}(u':V)(x9:A.at r p=some (g,o,u))(hn:(wk u u').n=u.n)(h:K (A.setAt r p (wk u u'))):Hx N A K:=fun Pb Kb a w F hs=>by
 obtain⟨cu,Fu,h1,h2⟩:=hs.so x9
 exact⟨_,Pb,Kb,_,h,h2 _ hn (pD u u' h1),fun _ h=>h,fun _ h=>h,fun _ h=>.inl h⟩
theorem LK{K:AS->Prop}{t:Nat}(u:V)(ht:t<N)(h:K (A.put (some t) (wk (A.get t) u))):Hx N A K:=
 Hx.simple h fun _ _ _ _ _ hs=>⟨_,hs.yN ht (xX u (hs.slot t))⟩
theorem Hi{K:AS->Prop} {t i sz n g o c:Nat} {xs:List V} (ht:t<N) (hi:i<N) (Ut:t≠i) (h1:A.get t=.hd (.slot i) [] sz g o 0 n c) (h2:A.get i=.own sz xs g o c) (hn:n=xs.length)
 (h:K ((A.put (some i) .a8).put (some t) (.own sz xs g o c))):Hx N A K:=
 Hx.simple h fun _ _ _ _ _ hs=>hs.gZ ht hi Ut h1 h2 hn
theorem EB{K:AS->Prop}{t:Nat}(ht:t<N)(ho:(A.get t).cZ=true)(h:K (A.put (some t) (A.get t).er)):Hx N A K:=fun Pb Kb a w F hs=>by
 obtain⟨Pb',D3,F',h1,h2,h3,h4⟩:=hs.freeze ho ht
 exact⟨_,Pb',D3,F',h,h1,h2,h3,h4⟩
theorem s4.eqv(hs:s4 N Pb Kb A a w F)(h:D0 A B):s4 N Pb Kb B a w F:=
 ⟨hs.size,hs.defers,fun i=>by rw[<- h.1 i];exact hs.slot i,fun k g v hk=>hs.root k g v (by rw[h.2 k];exact hk),hs.cd,hs.nodup,hs.free,hs.sub,hs.bound⟩
theorem JZ{K:AS->Prop}{t:Nat}(v:V)(e:A.get t=v)(h:K (A.put (some t) v)):Hx N A K:=
 Hx.simple h fun _ _ _ _ _ hs=>⟨_,hs.eqv ⟨fun i=>by
  rw[AS.aA];split
  rename_i h;rw[h,e]
  rfl,fun _=>rfl⟩⟩
theorem KV{K:AS->Prop}{k g:Nat}(v:V)(e:lk k A.h=some (g,v))(h:K ⟨A.t,(k,(g,v))::A.h⟩):Hx N A K:=
 Hx.simple h fun _ _ _ _ _ hs=>⟨_,hs.eqv ⟨fun _=>rfl,fun i=>by
  simp only[lk];split
  rename_i h;rw[h,e]
  rfl⟩⟩
theorem LN{K:AS->Prop}{k k' g:Nat}{v:V}(e:lk k A.h=some (g,v))(hn:lk k' A.h=none)(h:K ⟨A.t,(k',(g,v))::A.h.filter fun p=>p.1 != k⟩):Hx N A K:=
 Hx.simple h fun Pb Kb a w F hs=>by
  have hne:k'≠k:=fun c=>by rw[c,e]at hn;cases hn
  have hf:∀ (l:List (Nat×(Nat×V))) q,lk q (l.filter fun p=>p.1 != k)=if q=k then none else lk q l:=by
   intro l
   induction l with
   | nil=>intro q;simp[lk]
   | cons x l ih=>
     intro q
     obtain⟨i,u⟩:=x
     simp only[List.filter_cons]
     by_cases hi:i=k
     subst hi
     simp only[bne_self_eq_false,Bool.false_eq_true,if_false,ih q,lk]
     by_cases c:q=i
     rw[if_pos c,if_pos c]
     rw[if_neg c,if_neg c,if_neg c]
     rw[if_pos (by simpa using hi)]
     simp only[lk,ih q]
     by_cases c:q=i
     subst c;rw[if_pos rfl,if_pos rfl,if_neg hi]
     rw[if_neg c,if_neg c]
  let σ:l8->l8:=fun r=>if r=.key k' then .key k else if r=.key k then .key k' else r
  have hσ:∀ r r',σ r=σ r'->r=r':=fun r r' h=>by
   simp only[σ]at h
   repeat' split at h
   all_goals simp_all
  refine⟨fun r=>if r=.key k then [] else F (σ r),hs.size,hs.defers,fun i=>?_,fun q g0 v0 hq=>?_,fun r r' Xf y hy=>?_,fun r=>?_,fun r y hy=>?_,hs.sub,hs.bound⟩
  have:F (σ (.slot i))=F (.slot i):=by simp[σ]
  simp only[reduceCtorEq,if_false,this];exact hs.slot i
  simp only[lk,hf]at hq
  split at hq
  rename_i c;subst c
  simp only[YR,YU]at hq
  obtain⟨rfl,rfl⟩:=hq
  obtain⟨F',h1,h2⟩:=hs.root k g v e
  refine⟨F',?_,h2⟩
  rw[if_neg (by simpa using hne)]
  simp only[σ,if_true];exact h1
  rename_i c
  split at hq
  simp at hq
  rename_i c2
  obtain⟨F',h1,h2⟩:=hs.root q g0 v0 hq
  refine⟨F',?_,h2⟩
  rw[if_neg (by simpa using c2)]
  have:σ (.key q)=.key q:=by simp only[σ];rw[if_neg (by simpa using c),if_neg (by simpa using c2)]
  rw[this];exact h1
  split at hy
  simp at hy
  split
  simp
  exact hs.cd _ _ (fun c=>Xf (hσ _ _ c)) y hy
  split
  exact Ze
  exact hs.nodup _
  split at hy
  simp at hy
  exact hs.free _ y hy
theorem Hv{K:AS->Prop}(h1:QZ A B.t)(h2:Qj A B.h)(h:K B):Hx N A K:=Hx.simple h fun _ _ _ _ _ hs=>hs.X4 h1 h2
theorem Ck{o:Oper}{K:AS->Prop}{x:Operand}(ho:o.op=.move x)(hd:cF N o.dst)(hK:K ((A.drop x).put o.dst (A.ev x))):E2 P N o A K:=by
 intro Pb Kb a w F Q hs
 obtain⟨Fx,F',hr,y9,hnd,u0,hfr,_⟩:=hs.take x
 unfold Oper.wp
 have:(execOp a.eval o).run P w=.ok (.value (a.eval x)) w:=by simp only[execOp,ho];rfl
 rw[this,Oper.upon_value]
 cases L6:o.dst with
 | none=>exact⟨_,Pb,Kb,F',hK,by rw[L6];exact y9,fun _ h=>h,fun _ h=>h,fun _ h=>.inl h,x7.refl _ _⟩
 | some d=>
   rw[L6]at hd hK
   exact⟨_,Pb,Kb,_,hK,y9.put hd hr (fun r _ g hg=>u0 r g hg) hnd hfr,fun _ h=>h,fun _ h=>h,fun _ h=>.inl h,x7.refl _ _⟩
theorem vE{o:Oper} {K:AS->Prop} {d T:Nat} {x:Operand} {r:l8} {p:List Nat} {g g':Nat} {i:TI} {u:V} (ho:o.op=.load T x) (hd:o.dst=some d) (hN:d<N) (hi:ti P T=some i)
 (hx:A.ev x=.ptr r p g g') (x9:A.at r p=some (g,g',u)) (hn:u.n=i.sz) (ha:i.d.agg=u.isAgg) (hK:K ((A.setAt r p u.kill).put (some d) u)):E2 P N o A K:=by
 intro Pb Kb a w F Q hs
 obtain⟨_,S0⟩:=dH hs x
 rw[hx]at S0
 have hp:a.eval x=.pointer (some ⟨g,g',none⟩):=by have:=S0.2;simpa using this
 obtain⟨Fr,Fu,y9,⟨cs,cells,hb,L3,hc⟩,hnd,u0,hfr⟩:=hs.split x9
 obtain⟨y,hy,E3⟩:=mj (w:=w) hi L3 hn ha (g:=g) (o:=g') (fun j u hu=>by rw[dX hb];exact hc j u hu)
 unfold Oper.wp
 have:(execOp a.eval o).run P w=.ok (.value y) w:=by
  simp only[execOp,ho,Instr.loadAt,hp,Instr.sureAddr,Y4,Y5,YW,hy]
 rw[this,Oper.upon_value,hd]
 exact⟨_,Pb,Kb,_,hK,y9.put hN E3 (fun r _ g hg=>u0 r g hg) hnd hfr,fun _ h=>h,fun _ h=>h,fun _ h=>.inl h,x7.refl _ _⟩
def US(A:AS)(s:Operand)(sz:Nat):Option (Prop×AS×List V):=
 match s with
 | .const (.slice none 0 0)=>some (True,A,[])
 | .tmp t=>match A.get t with
   | .sl true []=>some (True,A,[])
   | .own J1 xs _ _ _=>some (J1=sz,A.put (some t) .a8,xs)
   | .hd (.slot i) [] J1 g o 0 n c=>match A.get i with
     | .own Na xs g2 o2 c2=>some ((J1,Na,g2,o2,c2,n)=(sz,sz,g,o,c,xs.length),A.put (some i) .a8,xs)
     | _=>none
   | .hd (.key k) p J1 g o 0 n c=>match A.at (.key k) p with
     | some (_,_,.own Na xs g2 o2 c2)=>some ((J1,Na,g2,o2,c2,n)=(sz,sz,g,o,c,xs.length),A.setAt (.key k) p .a8,xs)
     | _=>none
   | _=>none
 | _=>none
theorem EE{s:Operand}{sz:Nat}{C:Prop}{xs:List V}(h:US A s sz=some (C,A1,xs))(hC:C)(hs:s4 N Pb Kb A a w F):
 ∃ Fx F' g o c,s4 N Pb Kb A1 a w F'/\R w Pb (.own sz xs g o c) [a.eval s] Fx/\Fx.Nodup/\(∀ r g,g∈Fx->g ∉ F' r)/\(∀ g,g∈Fx->¬ Kb g/\g<w.heap.size):=by
 have Sq:∀ {t:Nat} {r:l8} {p:List Nat} {sz g o n c:Nat} {xs:List V} {cs:List Value} {Fx:List Nat},A.get t=.hd r p sz g o 0 n c->n=xs.length->R w Pb (.own sz xs g o c) cs Fx->R w Pb (.own sz xs g o c) [a.eval (.tmp t)] Fx:=by
  intro t r p sz g o n c xs cs Fx hg hn hr
  subst hn
  have hh:=hs.slot t
  rw[hg]at hh
  obtain⟨_,hle,B,hv,hB⟩:=hh
  have hv:a.eval (.tmp t)=.slice B xs.length c:=(List.cons.inj hv).1
  rw[hv]
  rcases hr with ⟨rfl,rfl,rfl,A0,_⟩ | ⟨h1,h2,h3,h4,h5⟩
  exact .inl ⟨rfl,rfl,rfl,B,rfl⟩
  have:=hB h1
  rw[Nat.zero_mul,Nat.add_zero]at this
  subst this
  exact .inr ⟨h1,h2,h3,rfl,h5⟩
 unfold US at h
 split at h
 simp only[YR,YU]at h
 obtain⟨_,rfl,rfl⟩:=h
 exact⟨[],F,0,0,0,hs,.inl ⟨rfl,rfl,rfl,none,rfl⟩,Ze,Z8,Z8⟩
 · rename_i t
   split at h
   rename_i hg
   simp only[YR,YU]at h
   obtain⟨_,rfl,rfl⟩:=h
   have N5:=hs.slot t
   rw[hg]at N5
   obtain⟨_,B,c,hv,_,Pe,_⟩:=N5
   have PA:c=0:=Pe rfl
   subst PA
   exact⟨[],F,0,0,0,hs,.inl ⟨rfl,rfl,rfl,B,hv⟩,Ze,Z8,Z8⟩
   rename_i J1 xs' g o c hg
   simp only[YR,YU]at h
   obtain⟨rfl,rfl,rfl⟩:=h
   subst hC
   obtain⟨Fx,F',hr,y9,hnd,u0,hfr,_⟩:=hs.take (.tmp t)
   rw[pF hg]at y9
   have hr:RV w Pb (A.get t) (a.eval (.tmp t)) Fx:=hr
   rw[hg]at hr
   exact⟨Fx,F',g,o,c,y9,hr,hnd,u0,hfr⟩
   · rename_i i J1 g o n c hg
     split at h
     case h_2=>simp at h
     rename_i Na xs' g2 o2 c2 hi
     simp only[YR,YU]at h
     obtain⟨rfl,rfl,rfl⟩:=h
     obtain⟨rfl,rfl,rfl,rfl,rfl,hn⟩:=hC
     obtain⟨Fx,F',hr,y9,hnd,u0,hfr,_⟩:=hs.take (.tmp i)
     rw[pF hi]at y9
     have hr:RV w Pb (A.get i) (a.eval (.tmp i)) Fx:=hr
     rw[hi]at hr
     exact⟨Fx,F',_,_,_,y9,Sq hg hn (cs:=[a.eval (.tmp i)]) hr,hnd,u0,hfr⟩
   · rename_i k p J1 g o n c hg
     split at h
     case h_2=>simp at h
     rename_i g0 o0 Na xs' g2 o2 c2 x9
     simp only[YR,YU]at h
     obtain⟨rfl,rfl,rfl⟩:=h
     obtain⟨rfl,rfl,rfl,rfl,rfl,hn⟩:=hC
     obtain⟨Fr,Fu,y9,⟨cs,cells,hb,L3,hc⟩,hnd,u0,hfr⟩:=hs.split x9
     exact⟨Fu,_,_,_,_,y9,Sq hg hn L3,hnd,u0,hfr⟩
   simp at h
 simp at h
theorem AY{o:Oper} {K:AS->Prop} {d T T2 e e2:Nat} {s x:Operand} {t:TI} {C Cx:Prop} {xs ys:List V} (ho:o.op=.call { callee:=.builtin .append,args:= #[s,x],argTypes:= #[T,T2] }) (Q9:o.type=T)
 (hd:o.dst=some d) (hN:d<N) (hT:tD P T=some (.sl e)) (Sd:tD P T2=some (.sl e2)) (ht:ti P e=some t) (hz:∃ inf z,P.info? e=some inf/\inf.zero=some z/\z.cells.size=t.sz) (hsz:0<t.sz) (RJ:0<t.L1)
 (hb:US A s t.sz=some (C,A1,xs)) (hC:C) (hx:Oo A x=some (Cx,ys)) (VS:Cx) (TT:V.aE ys=false) (Rv:aJ t.sz ys)
 (hbig:(xs.length+ys.length)*t.L1<=140737488355328)
 (hK:∀ g o c,K (A1.put (some d) (.own t.sz (xs++ys) g o c))):E2 P N o A K:=by
 intro Pb Kb a w F Q hs
 obtain⟨B2,c2,C4,MR,L',Pf,hl2⟩:=mW (P:=P) hs hx VS Rv TT
 obtain⟨Fx,F',g0,o0,c0,y9,hr,hnd,u0,hfr⟩:=EE hb hC hs
 obtain⟨v,w',F2,g',o',c',A3,K1,L',I7,Pl,Rn,MT⟩:=sS hT Sd ht hz hsz RJ y9 hr u0 hfr (Fy:=[]) (by simpa using hnd) Z8 Z8 MR L' Pf hl2 Rv hbig
 have Nd:(execOp a.eval o).run P w=.ok (.value v) w':=by
  simp only[execOp,ho,resolve,invoke,builtin,Y4,Y5,YW,Q9]
  have e:(#[s,x].map a.eval)= #[a.eval s,a.eval x]:=Z8
  rw[e,A3];rfl
 unfold Oper.wp
 rw[Nd,Oper.upon_value,hd]
 exact⟨_,Pb,Kb,_,hK g' o' c',K1.put hN L' (fun r _ g hg=>Pl r g hg) I7 Rn,fun _ h=>h,fun _ h=>h,fun _ h=>.inl h,MT⟩
def Ue(A:AS)(s:Operand)(sz:Nat):Option (Prop×List V):=
 match s with
 | .tmp t=>match A.get t with
   | .sl true (x::xs)=>some (aJ sz (x::xs),x::xs)
   | _=>none
 | _=>none
theorem zd{o:Oper} {K:AS->Prop} {d T T2 e e2:Nat} {s x:Operand} {t:TI} {C Cx:Prop} {xs ys:List V} (ho:o.op=.call { callee:=.builtin .append,args:= #[s,x],argTypes:= #[T,T2] }) (Q9:o.type=T)
 (hd:o.dst=some d) (hN:d<N) (hT:tD P T=some (.sl e)) (Sd:tD P T2=some (.sl e2)) (ht:ti P e=some t) (hz:∃ inf z,P.info? e=some inf/\inf.zero=some z/\z.cells.size=t.sz) (hsz:0<t.sz) (RJ:0<t.L1)
 (hb:Ue A s t.sz=some (C,xs)) (hC:C) (A4:0<ys.length) (hx:Oo A x=some (Cx,ys)) (VS:Cx) (TT:V.aE ys=false) (Rv:aJ t.sz ys)
 (hbig:(xs.length+ys.length)*t.L1<=140737488355328)
 (hK:∀ g o c,K (A.put (some d) (.own t.sz (xs++ys) g o c))):E2 P N o A K:=by
 intro Pb Kb a w F Q hs
 obtain⟨B2,c2,C4,MR,L',Pf,hl2⟩:=mW (P:=P) hs hx VS Rv TT
 have hr:R w Pb (.sl true xs) [a.eval s] []/\aJ t.sz xs:=by
  unfold Ue at hb
  split at hb
  rename_i q
  split at hb
  rename_i x' xs' hg
  simp only[YR,YU]at hb
  obtain⟨rfl,rfl⟩:=hb
  have N5:=hs.slot q
  rw[hg]at N5
  have hF:F (.slot q)=[]:=N5.1
  rw[hF]at N5
  exact⟨N5,hC⟩
  simp at hb
  simp at hb
 obtain⟨v,w',F2,g',o',c',A3,K1,L',I7,Pl,Rn,MT⟩:=An hT Sd ht hz hsz RJ hs hr.1 hr.2 A4 MR L' Pf hl2 Rv hbig
 have Nd:(execOp a.eval o).run P w=.ok (.value v) w':=by
  simp only[execOp,ho,resolve,invoke,builtin,Y4,Y5,YW,Q9]
  have e:(#[s,x].map a.eval)= #[a.eval s,a.eval x]:=Z8
  rw[e,A3];rfl
 unfold Oper.wp
 rw[Nd,Oper.upon_value,hd]
 exact⟨_,Pb,Kb,_,hK g' o' c',K1.put hN L' (fun r _ g hg=>Pl r g hg) I7 Rn,fun _ h=>h,fun _ h=>h,fun _ h=>.inl h,MT⟩
end
mutual
def V.plain:V->Bool
 | .lit _=>true
 | .agg vs=>V.nv vs
 | .tup vs=>V.nv vs
 | _=>false
def V.nv:List V->Bool
 | []=>true
 | v::vs=>v.plain&&V.nv vs
end
def qs(A:AS):List Operand->Prop×List V
 | []=>(True,[])
 | x::xs=>match qs A xs with
   | (C,vs)=>match A.ev x with
     | .hd .. =>match Oo A x with
       | some (Cx,ys)=>(Cx/\C,.sl false ys::vs)
       | none=>(C,A.cp x::vs)
     | _=>(C,A.cp x::vs)
section
variable {w w':World} {Pb Kb Pb':Nat->Prop} {N:Nat} {A A' B:AS} {a:Act} {F:l8->List Nat} {P:Program} {ops:Array Oper}
mutual
theorem vM:∀ (v:V) {cs F},v.plain=true->R w Pb v cs F->R w' Pb' v cs []/\F=[]
 | .lit x,cs,F,_,h=>⟨⟨h.1,h.2.1,rfl⟩,h.2.2⟩
 | .agg vs,cs,F,hp,h=>by simp only[R]at h ⊢;simp only[V.plain]at hp;exact pG vs hp h
 | .tup _,_,_,_,h=>by simp[R]at h
 | .gv _ _,_,_,hp,_=>by simp[V.plain]at hp
 | .sl ..,_,_,hp,_=>by simp[V.plain]at hp
 | .own ..,_,_,hp,_=>by simp[V.plain]at hp
 | .ow ..,_,_,hp,_=>by simp[V.plain]at hp
 | .om ..,_,_,hp,_=>by simp[V.plain]at hp
 | .mp ..,_,_,hp,_=>by simp[V.plain]at hp
 | .hd ..,_,_,hp,_=>by simp[V.plain]at hp
 | .ptr ..,_,_,hp,_=>by simp[V.plain]at hp
 | .ep _,_,_,hp,_=>by simp[V.plain]at hp
 | .a8,_,_,hp,_=>by simp[V.plain]at hp
theorem pG:∀ (vs:List V) {cs F},V.nv vs=true->RL w Pb vs cs F->RL w' Pb' vs cs []/\F=[]
 | [],cs,F,_,h=>⟨⟨h.1,rfl⟩,h.2⟩
 | v::vs,cs,F,hp,h=>by
   simp only[V.nv,YS]at hp
   obtain⟨c1,c2,F1,F2,h1,h2,h3,h4⟩:=h
   have k1:=vM v hp.1 h3
   have k2:=pG vs hp.2 h4
   exact⟨⟨c1,c2,[],[],h1,rfl,k1.1,k2.1⟩,by rw[h2,k1.2,k2.2];rfl⟩
end
theorem xF:∀ (vs:List V) {xs F},V.nv vs=true->RVs w Pb vs xs F->RVs w' Pb' vs xs []/\F=[]
 | [],xs,F,_,h=>⟨⟨h.1,rfl⟩,h.2⟩
 | v::vs,xs,F,hp,h=>by
   simp only[V.nv,YS]at hp
   obtain⟨x,xs',F1,F2,h1,h2,h3,h4⟩:=h
   have k2:=xF vs hp.2 h4
   subst h1 h2
   cases v with
   | agg us=>
     obtain⟨cs,e,h3⟩:=h3
     have k1:=pG (w':=w') (Pb':=Pb') us (by simpa[V.plain] using hp.1) h3
     exact⟨⟨x,xs',[],[],rfl,rfl,⟨cs,e,k1.1⟩,k2.1⟩,by rw[k1.2,k2.2];rfl⟩
   | lit y=>have k1:=vM (w':=w') (Pb':=Pb') (.lit y) hp.1 h3;exact⟨⟨x,xs',[],[],rfl,rfl,k1.1,k2.1⟩,by rw[k1.2,k2.2];rfl⟩
   | tup us=>exact absurd h3 (by simp[R])
   | _=>simp[V.plain]at hp
theorem Hb(v:V){x F}(hp:v.plain=true)(h:RV w Pb v x F):RV w' Pb' v x []/\F=[]:=by
 cases v with
 | tup vs=>obtain⟨xs,e,h⟩:=h;have:=xF (w':=w') (Pb':=Pb') vs (by simpa[V.plain] using hp) h;exact⟨⟨xs,e,this.1⟩,this.2⟩
 | agg us=>obtain⟨cs,e,h⟩:=h;have:=pG (w':=w') (Pb':=Pb') us (by simpa[V.plain] using hp) h;exact⟨⟨cs,e,this.1⟩,this.2⟩
 | lit y=>exact vM (w:=w) (Pb:=Pb) (w':=w') (Pb':=Pb') (.lit y) hp h
 | _=>simp[V.plain]at hp
theorem LO{Fo:List Nat} {Na g2 o2 c2 lo n c:Nat} {xs:List V} {Si:List Value} (hr:R w Pb (.own Na xs g2 o2 c2) Si Fo) (hle:n<=c) {B:Option Addr} (hB:0<c->B=some ⟨g2,o2+lo*Na,none⟩) (hn:lo+n<=xs.length) (ho:V.aE xs=false)
 (k1:∀ g,Pb g->Pb' g) (k2:∀ g,g<w.heap.size->Pb' g):R w Pb' (.sl false ((xs.drop lo).take n)) [.slice B n c] []:=by
 have hlen:((xs.drop lo).take n).length=n:=Z0
 refine⟨rfl,B,c,by rw[hlen],by rw[hlen];exact hle,Z8,?_⟩
 by_cases Xh:n=0
 subst Xh;exact .inl Z8
 right
 rcases hr with ⟨_,rfl,_⟩ | ⟨h1,h2,h3,hx,hN,_,flat,F',cells,rfl,hr,hb,hsz,hc⟩
 simp at hn;omega
 have hF:=fN xs ho hr
 subst hF
 obtain⟨c1,PM,Nz⟩:=pd xs lo hr
 obtain⟨c3,Uw,VL⟩:=oQ _ n PM
 refine⟨g2,o2+lo*Na,Na,c3,hB Z9,k2 g2 (by obtain⟨e,fr,hb,_⟩:=hb;exact(Zl.1 hb).1),h2,fun x hx=>hN x (List.mem_of_mem_drop (List.mem_of_mem_take hx)),eh _ Uw (fun _ _=>rfl) Z8 k1 Z8,fun j u hu=>?_⟩
 rw[dX hb]
 have:=Nz j u (VL j u hu)
 rw[dU xs lo hN Z9]at this
 have:=hc _ _ this
 simpa[Zn] using this
theorem IB(hs:s4 N Pb Kb A a w F){x:Operand}{C:Prop}{ys:List V}{r:l8}{p:List Nat}{sz g o lo n c:Nat}(he:A.ev x=.hd r p sz g o lo n c)(h:Oo A x=some (C,ys))(hC:C):R w (fun g=>g<w.heap.size) (.sl false ys) [a.eval x] []:=by
 obtain⟨Fx,hr⟩:=dH hs x
 rw[he]at hr
 obtain⟨_,hle,B,hv,hB⟩:=hr
 have hv:a.eval x=.slice B n c:=(List.cons.inj hv).1
 have key:∀ u Fo Si,R w Pb u Si Fo->ky lo n sz g o u=some (C,ys)->R w (fun g=>g<w.heap.size) (.sl false ys) [a.eval x] []:=by
  intro u Fo Si L3 hu
  unfold ky at hu
  split at hu
  rename_i Na xs g2 o2 c2
  simp only[YR,YU]at hu
  obtain⟨rfl,rfl⟩:=hu
  obtain⟨⟨rfl,rfl,rfl⟩,Wc,S1,_⟩:=hC
  rw[hv]
  exact LO L3 hle hB Wc S1 (fun k h=>hs.bound k (hs.sub k h)) fun g hg=>hg
  simp at hu
 unfold Oo at h
 rw[he]at h
 simp only at h
 split at h
 rename_i i
 have N5:=hs.slot i
 unfold ky at h
 split at h
 rename_i Na xs g2 o2 c2 hg
 rw[hg]at N5
 exact key (.own Na xs g2 o2 c2) _ _ N5 (by unfold ky;exact h)
 simp at h
 rename_i k p'
 split at h
 rename_i a0 b0 u x9
 obtain⟨F',cs,cells,hb,L3,s3⟩:=iX hs x9
 exact key u F' cs L3 h
 simp at h
 simp at h
theorem pO(hs:s4 N Pb Kb A a w F):∀ (xs:List Operand) {C:Prop} {vs:List V},qs A xs=(C,vs)->C->RVs w (fun g=>g<w.heap.size) vs (xs.map a.eval) []
 | [],C,vs,h,_=>by simp only[qs,YU]at h;obtain⟨_,rfl⟩:=h;exact⟨rfl,rfl⟩
 | x::xs,C,vs,h,hC=>by
   have plain:∀ VY,RVs w (fun g=>g<w.heap.size) VY (xs.map a.eval) []->RVs w (fun g=>g<w.heap.size) (A.cp x::VY) ((x::xs).map a.eval) []:=fun VY h'=>by
    have h1:=tH hs [x]
    have h1:=tf (w':=w) (Pb':=fun g=>g<w.heap.size) _ h1 (fun _ _=>rfl) (fun _ _=>rfl) (fun k h=>hs.bound k (hs.sub k h)) Z8
    obtain⟨y,ys,F1,F2,e1,e2,h2,_⟩:=h1
    simp only[Zi,List.map_nil,List.cons.injEq]at e1
    obtain⟨rfl,_⟩:=e1
    have e2:=e2.symm
    simp only[List.append_eq_nil_iff]at e2
    obtain⟨rfl,_⟩:=e2
    exact⟨a.eval x,xs.map a.eval,[],[],rfl,rfl,h2,h'⟩
   cases hl:qs A xs with
   | mk C0 vs0=>
     simp only[qs,hl]at h
     split at h
     rename_i r p sz g o lo n c he
     split at h
     rename_i Cx ys e
     simp only[YU]at h
     obtain⟨rfl,rfl⟩:=h
     exact⟨a.eval x,xs.map a.eval,[],[],rfl,rfl,IB hs he e hC.1,pO hs xs hl hC.2⟩
     simp only[YU]at h
     obtain⟨rfl,rfl⟩:=h
     exact plain _ (pO hs xs hl hC)
     simp only[YU]at h
     obtain⟨rfl,rfl⟩:=h
     exact plain _ (pO hs xs hl hC)
theorem FG{o:Oper} {K:AS->Prop} {f:FuncId} {xs:Array Operand} {K5:Array TypeId} {args:List V} {Q:V->Prop} {C:Prop} {vs:List V} (ho:o.op=.call { callee:=.value (.func f),args:=xs,argTypes:=K5 })
 (hd:cF N o.dst) (hc:PC P f args Q) (hl:qs A xs.toList=(C,vs)) (hC:C) (hargs:No vs args=args) (hp:∀ r,Q r->r.plain=true) (hK:∀ r,Q r->K (A.put o.dst r)):E2 P N o A K:=by
 intro Pb Kb a w F Q' hs
 unfold Oper.wp
 have A3:(execOp a.eval o).run P w=.ok (.enter f (xs.map a.eval)) w:=by
  simp only[execOp,ho,resolve,Act.eval,Deferred.ofValue,Y4,Y5,YW,invoke]
  have:=hc.1 (xs.map a.eval) w
  simpa using this
 rw[A3,Oper.upon_enter]
 have h0:=pO hs xs.toList hl hC
 have h0:=oV _ args h0
 rw[hargs]at h0
 have J4:=hc.2 w (fun g=>g<w.heap.size) (xs.toList.map a.eval) (fun g hg=>hg) h0
 have e:(xs.toList.map a.eval).toArray=xs.map a.eval:=by rw[<- Array.toList_map,Array.toArray_toList]
 rw[e]at J4
 refine J4.mono ?_
 rintro e w' ⟨r,x,Fr,Pb',rfl,hq,hr,hnd,hfr,h1,h2,hb⟩
 have y9:s4 N Pb Kb A a w' F:=hs.grow hb.block hb.size (fun _ h=>h) (fun g hg=>.inl hg) hs.sub
 obtain⟨F',K1⟩:=y9.pR (d:=o.dst) hd (Hb (w':=w') (Pb':=Pb) r (hp r hq) hr).1
 exact⟨_,Pb,Kb,F',hK r hq,K1,fun _ h=>h,fun _ h=>h,fun g h=>.inl h,x7.yX hb hs.bound⟩
end
section
variable {w w':World} {Pb Kb Pb':Nat->Prop} {N:Nat} {A A' B:AS} {a:Act} {F:l8->List Nat} {P:Program} {ops:Array Oper}
theorem AI{o:Oper} {K:AS->Prop} {d T e len:Nat} {b9:Array (Nat×Operand)} {i:TI} {vs:List V} (ho:o.op=.buildSlice T len b9) (hd:o.dst=some d) (hN:d<N) (hT:tD P T=some (.sl e)) (hi:ti P e=some i)
 (Q8:eP A 0 b9.toList=some vs) (hB:RP P T e len i vs=true) (h0:0<len) (hK:∀ g,K (A.put (some d) (.own i.sz vs g 0 len))):E2 P N o A K:=by
 simp only[RP,YS,Zp]at hB
 obtain⟨⟨⟨⟨b1,hlen⟩,PI⟩,I0⟩,hv⟩:=hB
 obtain⟨inf,z,L5,hzero,_⟩:=lM b1
 have PI:=Nat.le_of_ble_eq_true PI
 have I0:=Nat.lt_of_succ_le (Nat.le_of_ble_eq_true I0)
 have hv:=vJ hv
 intro Pb Kb a w F Q hs
 obtain⟨xs,h1,h2,h3,h4⟩:=ny hs b9.toList 0 Q8 hv
 have hu:=iy hT
 obtain⟨RX,_,G9,_,hsz,_,_⟩:=jd hi
 rw[L5]at G9
 obtain rfl:=Option.some.inj G9
 have hfl:=Great.fill_whole I0 xs ((Array.range (len*i.sz)).map (z.cells[· % z.cells.size]!)) h2 (by simp[h4,hlen])
 have hmul: ¬ len*inf.size=0:=by rw[hsz];exact Nat.mul_ne_zero Z9 Z9
 have hb:=run_buildSlice (P:=P) w T e len (b9.map fun (i,x)=>(i,a.eval x)) _ inf z hu L5 hzero (by rw[hsz];omega) hmul (by rw[Array.toList_map,h1,hsz];exact hfl)
 have hx:(execOp a.eval o).run P w=.ok (.value (.slice (some ⟨w.heap.size,0,none⟩) len len)) (w.alloc (.cells (xs.flatMap fun v=>v.cells.toList).toArray e)):=by
  simp only[execOp,ho,Y4,hb,YW,Y5]
 unfold Oper.wp
 rw[hx,Oper.upon_value,hd]
 have Nw:=hs.nT (.cells (xs.flatMap fun v=>v.cells.toList).toArray e)
 have NL:=eh (w':=w.alloc (.cells (xs.flatMap fun v=>v.cells.toList).toArray e)) (Pb':=Pb) vs h3 (fun g hg=>alloc_old w _ g (hs.bound g (hs.sub g hg))) Z8 (fun g hg=>hg) Z8
 have hcs:(xs.flatMap fun v=>v.cells.toList).length=len*i.sz:=by
  rw[iC _ h3,pc vs (fun v R0=>(hv v R0).2),hlen]
 have Pn: ¬ Kb w.heap.size:=fun h=>by have:=hs.bound _ h;omega
 have hR:R (w.alloc (.cells (xs.flatMap fun v=>v.cells.toList).toArray e)) Pb (.own i.sz vs w.heap.size 0 len) [.slice (some ⟨w.heap.size,0,none⟩) len len] [w.heap.size]:=
  .inr ⟨h0,I0,Z9,by rw[hlen],fun v R0=>(hv v R0).2,fun c=>Pn (hs.sub _ c),_,[],_,rfl,NL,⟨e,(0,0),fS w _,fun i _ h=>by omega⟩,by simp only[List.size_toArray];rw[hcs];omega,fun j u hu=>by simpa using hu⟩
 exact⟨_,Pb,Kb,_,hK _,Nw.put hN hR (fun r _ g hg=>by
  obtain rfl:=YZ.1 hg
  intro c;have:=(hs.free r _ c).2;omega) Z8 (fun g hg=>by
  obtain rfl:=YZ.1 hg
  exact⟨Pn,by rw[dz];omega⟩),fun _ h=>h,fun _ h=>h,fun _ h=>.inl h,x7.alloc hs.bound _⟩
theorem Es{K:AS->Prop} {t sz n g o c g0 o0:Nat} {xs:List V} {r:l8} {p:List Nat} (h2:A.get t=.own sz xs g o c) (x9:(A.put (some t) .a8).at r p=some (g0,o0,.hd (.slot t) [] sz g o 0 n c)) (hn:n=xs.length)
 (h:K ((A.put (some t) .a8).setAt r p (.own sz xs g o c))):Hx N A K:=Hx.simple h fun Pb Kb a w F hs=>by
 subst hn
 obtain⟨Fx,F1,hr,Nw,hnd,u0,hfr,_⟩:=hs.take (.tmp t)
 rw[pF h2]at Nw
 have hr:RV w Pb (A.get t) (a.tmps.getD t undef) Fx:=hr
 rw[h2]at hr
 obtain⟨Fp,cs,cells,hb,hp,hc⟩:=iX Nw x9
 obtain⟨_,hle,B,rfl,hB⟩:=hp
 have E3:R w Pb (.own sz xs g o c) [.slice B xs.length c] Fx:=by
  rcases hr with ⟨rfl,rfl,rfl,A0,_⟩ | ⟨k1,k2,k3,k4,k5⟩
  exact .inl ⟨rfl,rfl,rfl,B,rfl⟩
  have:=hB k1
  rw[Nat.zero_mul,Nat.add_zero]at this
  subst this
  exact .inr ⟨k1,k2,k3,rfl,k5⟩
 obtain⟨F2,K1,_⟩:=Nw.store (w':=w) (v:=.own sz xs g o c) x9 E3 rfl hnd u0 hfr ⟨rfl,rfl,rfl,rfl,fun _ _=>rfl,Shp.refl _,fun n7 J'=>⟨n7,J',rfl,fun _ _=>rfl,fun j u hu=>by
  have e:n7=cells:=by
   obtain⟨e1,f1,q1,_⟩:=hb
   obtain⟨e2,f2,q2,_⟩:=J'
   rw[q1]at q2
   simp only[YR,Obj.cells.injEq]at q2
   exact q2.1.symm
  rw[e];exact hc j u hu⟩⟩
 exact⟨F2,K1⟩
theorem yG{o:Oper} {K:AS->Prop} {d T T2 e e2 t0:Nat} {x:Operand} {t:TI} {Cx:Prop} {xs ys:List V} {r:l8} {p:List Nat} {sz g o1 n c g0 o0:Nat} (ho:o.op=.call { callee:=.builtin .append,args:= #[.tmp t0,x],argTypes:= #[T,T2] }) (Q9:o.type=T)
 (hd:o.dst=some d) (hN:d<N) (hT:tD P T=some (.sl e)) (Sd:tD P T2=some (.sl e2)) (ht:ti P e=some t) (hz:∃ inf z,P.info? e=some inf/\inf.zero=some z/\z.cells.size=t.sz) (hsz:0<t.sz) (RJ:0<t.L1)
 (hg:A.get t0=.hd r p sz g o1 0 n c) (x9:A.at r p=some (g0,o0,.own sz xs g o1 c)) (e9:sz=t.sz) (hn:n=xs.length) (hx:Oo A x=some (Cx,ys)) (VS:Cx) (TT:V.aE ys=false) (Rv:aJ t.sz ys)
 (hbig:(xs.length+ys.length)*t.L1<=140737488355328)
 (hK:∀ g o c,K ((A.setAt r p .a8).put (some d) (.own t.sz (xs++ys) g o c))):E2 P N o A K:=by
 subst e9 hn
 intro Pb Kb a w F Q hs
 obtain⟨B2,c2,C4,MR,L',Pf,hl2⟩:=mW (P:=P) hs hx VS Rv TT
 obtain⟨Fr,Fu,y9,⟨cs,cells,hb,L3,hc⟩,hnd,u0,hfr⟩:=hs.split x9
 have hr:R w Pb (.own t.sz xs g o1 c) [a.eval (.tmp t0)] Fu:=by
  have hh:=hs.slot t0
  rw[hg]at hh
  obtain⟨_,hle,B,hv,hB⟩:=hh
  have hv:a.eval (.tmp t0)=.slice B xs.length c:=(List.cons.inj hv).1
  rw[hv]
  rcases L3 with ⟨rfl,rfl,rfl,A0,_⟩ | ⟨h1,h2,h3,h4,h5⟩
  exact .inl ⟨rfl,rfl,rfl,B,rfl⟩
  have:=hB h1
  rw[Nat.zero_mul,Nat.add_zero]at this
  subst this
  exact .inr ⟨h1,h2,h3,rfl,h5⟩
 obtain⟨v,w',F2,g',o',c',A3,K1,L',I7,Pl,Rn,MT⟩:=sS hT Sd ht hz hsz RJ y9 hr u0 hfr (Fy:=[]) (by simpa using hnd) Z8 Z8 MR L' Pf hl2 Rv hbig
 have Nd:(execOp a.eval o).run P w=.ok (.value v) w':=by
  simp only[execOp,ho,resolve,invoke,builtin,Y4,Y5,YW,Q9]
  have e:(#[.tmp t0,x].map a.eval)= #[a.eval (.tmp t0),a.eval x]:=Z8
  rw[e,A3];rfl
 unfold Oper.wp
 rw[Nd,Oper.upon_value,hd]
 exact⟨_,Pb,Kb,_,hK g' o' c',K1.put hN L' (fun r _ g hg=>Pl r g hg) I7 Rn,fun _ h=>h,fun _ h=>h,fun _ h=>.inl h,MT⟩
theorem va:∀ (vs:List V) {xs:List Value} {F:List Nat} {i:Nat} {v:V},RVs w Pb vs xs F->vs[i]? =some v->v.isVal=true->
 ∃ x Fa Fi Fb,xs[i]? =some x/\F=Fa++Fi++Fb/\RV w Pb v x Fi/\RVs w Pb (vs.set i .a8) xs (Fa++Fb)
 | [],_,_,_,_,_,h,_=>by simp at h
 | u::vs,xs,F,0,v,h,hi,hv=>by
   obtain⟨x,xs',F1,F2,rfl,rfl,h1,h2⟩:=h
   simp at hi;subst hi
   refine⟨x,[],F1,F2,rfl,Z8,?_,⟨x,xs',[],F2,rfl,rfl,rfl,h2⟩⟩
   cases u <;> first | exact h1 | simp[V.isVal]at hv
 | u::vs,xs,F,i+1,v,h,hi,hv=>by
   obtain⟨x,xs',F1,F2,rfl,rfl,h1,h2⟩:=h
   obtain⟨y,Fa,Fi,Fb,k1,rfl,k3,k4⟩:=va vs h2 (by simpa using hi) hv
   exact⟨y,F1++Fa,Fi,Fb,by simpa using k1,Z8,k3,⟨x,xs',F1,Fa++Fb,rfl,Z8,h1,k4⟩⟩
theorem xN{o:Oper} {K:AS->Prop} {t i d:Nat} {vs:List V} {v:V} (ho:o.op=.extract (.tmp t) i) (hd:o.dst=some d) (hN:d<N) (ht:t<N) (SW:d≠t) (hg:A.get t=.tup vs) (hi:vs[i]? =some v) (hv:v.isVal=true)
 (hK:K ((A.put (some t) (.tup (vs.set i .a8))).put (some d) v)):E2 P N o A K:=by
 intro Pb Kb a w F Q hs
 have N5:=hs.slot t
 rw[hg]at N5
 obtain⟨xs,hx,hr⟩:=N5
 obtain⟨x,Fa,Fi,Fb,k1,k2,k3,k4⟩:=va vs hr hi hv
 have hnd:=hs.nodup (.slot t)
 rw[k2]at hnd
 have Ob:∀ g,g∈Fa++Fb->g∈F (.slot t):=fun g hg=>by rw[k2];simp only[Y1]at hg ⊢;rcases hg with h | h <;> simp[h]
 have SX:∀ g,g∈Fi->g∈F (.slot t):=fun g hg=>by rw[k2];simp[hg]
 have I7:(Fa++Fb).Nodup/\Fi.Nodup/\∀ g,g∈Fi->g ∉ Fa++Fb:=by
  simp only[List.nodup_append,Y1]at hnd ⊢
  grind
 have Nw:=hs.put (d:=t) (v:=.tup (vs.set i .a8)) (x:=a.tmps.getD t undef) (F':=Fa++Fb) ht ⟨xs,hx,k4⟩ (fun r hr g hg c=>hs.cd (.slot t) r (Ne.symm hr) g (Ob g hg) c) I7.1 (fun g hg=>hs.free _ g (Ob g hg))
 rw[qw]at Nw
 unfold Oper.wp
 have A3:(execOp a.eval o).run P w=.ok (.value x) w:=by
  have T5:a.eval (.tmp t)=.tuple xs:=hx
  have hxi:xs[i]? =some x:=by simpa using k1
  simp only[execOp,ho,T5,Instr.extract,hxi,Y4,Y5,YW]
 rw[A3,Oper.upon_value,hd]
 refine⟨_,Pb,Kb,_,hK,Nw.put (d:=d) (F':=Fi) hN k3 (fun r hr g hg c=>?_) I7.2.1 (fun g hg=>hs.free _ g (SX g hg)),fun _ h=>h,fun _ h=>h,fun _ h=>.inl h,x7.refl _ _⟩
 simp only[cf]at c
 split at c
 exact I7.2.2 g hg c
 rename_i hne;exact hs.cd (.slot t) r (Ne.symm hne) g (SX g hg) c
end
def cj:List Prop->Prop->Prop
 | [],k=>k
 | c::r,k=>c/\cj r k
theorem mT:∀ {l:List Prop} {k:Prop},cj l k↔(∀ c,c∈l->c)/\k
 | [],k=>by simp[cj]
 | c::r,k=>by
   rw[cj,mT (l:=r),List.forall_mem_cons,and_assoc]
abbrev GT:=List (Nat×(Nat×Bool))
def BU(ops:Array Oper)(j:Nat):Option Nat:=(ops[j]?).bind (·.dst)
def rQ(ops:Array Oper)(d:Nat)(gt:GT):GT:=gt.filter fun e=>!(e.1==d||BU ops e.2.1==some d)
def yi(ops:Array Oper)(d j:Nat)(b:Bool)(gt:GT):GT:=match BU ops j==some d with
 | true=>rQ ops d gt
 | false=>(d,(j,b))::rQ ops d gt
def RQ(ops:Array Oper)(gt:GT)(A:AS):Prop:= ∀ e,e∈gt->∀ c v,A.get e.1=.gv c v->NN A ops e.2.1 e.2.2=some c
section
variable {P:Program} {N:Nat} {ops:Array Oper} {A A':AS} {gt:GT}
theorem DI:RQ ops [] A:=fun e h=>by simp at h
theorem Bz{d j:Nat}{b:Bool}{u:V}(h:BU ops j≠some d):NN (A.put (some d) u) ops j b=NN A ops j b:=by
 unfold NN
 unfold BU at h
 cases hj:(ops[j]?).bind (·.dst) with
 | none=>rfl
 | some t=>
   simp only[Option.map_some]
   rw[AS.aA,if_neg (fun c=>h (by rw[hj,c]))]
theorem vm{d:Nat}{u:V}(h:RQ ops gt A):RQ ops (rQ ops d gt) (A.put (some d) u):=fun e he c v hv=>by
 unfold rQ at he
 rw[List.mem_filter]at he
 obtain⟨h1,h2⟩:=he
 simp only[Bool.not_eq_true',Bool.or_eq_false_iff,beq_eq_false_iff_ne,ne_eq]at h2
 rw[AS.aA,if_neg h2.1]at hv
 rw[Bz h2.2]
 exact h e h1 c v hv
theorem ED{d j:Nat}{b G:Bool}{u:V}(h:RQ ops gt A)(hG:NN A ops j b=some G):RQ ops (yi ops d j b gt) (A.put (some d) (.gv G u)):=by
 unfold yi
 split
 exact vm h
 rename_i e1
 intro e he c v hv
 rcases List.mem_cons.1 he with rfl | he
 rw[AS.aA,if_pos rfl]at hv
 cases hv
 rw[Bz (by simpa using e1)];exact hG
 exact vm h e he c v hv
def YG(ops:Array Oper)(d:Option Nat)(j:Nat)(b:Bool)(gt:GT):GT:=match d with
 | some d=>yi ops d j b gt
 | none=>gt
theorem Iw{d:Option Nat}{j:Nat}{b G:Bool}{u:V}(h:RQ ops gt A)(hG:NN A ops j b=some G):RQ ops (YG ops d j b gt) (A.put d (.gv G u)):=by
 cases d with
 | none=>exact h
 | some d=>exact ED h hG
theorem Jj{x:Operand}(h:(A.ev x).cZ=false):A.drop x=A:=by
 cases x with
 | tmp t=>exact if_neg (by simpa[AS.ev] using h)
 | _=>rfl
def Qy(G:Bool)(jb:Nat×Bool)(gt:GT):List Operand->AS->List Prop×AS
 | [],A=>([],A)
 | .tmp t::r,A=>match A.get t with
   | .gv b v=>match Qy G jb gt r (A.put (some t) v),gt.contains (t,jb)&&!v.cZ&&!v.gI with
     | (C,B),true=>(C,B)
     | (C,B),false=>(pj G b v::C,B)
   | _=>Qy G jb gt r A
 | _::r,A=>Qy G jb gt r A
theorem lQ{G:Bool}{jb:Nat×Bool}:∀ (xs:List Operand) {A B:AS} {l:List Prop},(∀ t,(t,jb)∈gt->∀ c v,A.get t=.gv c v->c=G)->Qy G jb gt xs A=(l,B)->(∀ c,c∈l->c)->∃ C,AS.un G xs A=(C,B)/\C
 | [],A,B,l,_,h,_=>by simp only[Qy,YU]at h;exact⟨True,by simp only[AS.un,h.2],trivial⟩
 | x::xs,A,B,l,hi,h,hl=>by
   cases x with
   | tmp t=>
     simp only[Qy]at h
     simp only[AS.un]
     split at h
     rename_i b v hg
     rw[hg]
     have Xr:v.gI=false->∀ t',(t',jb)∈gt->∀ c u,(A.put (some t) v).get t'=.gv c u->c=G:=fun hv t' ht c u hu=>by
      rw[AS.aA]at hu
      split at hu
      rw[hu]at hv;simp[V.gI]at hv
      exact hi t' ht c u hu
     split at h
     rename_i C1 B1 hu hc
     simp only[YU]at h
     obtain⟨rfl,rfl⟩:=h
     simp only[YS,Bool.not_eq_true',List.contains_iff_mem]at hc
     obtain⟨C2,e1,e2⟩:=lQ xs (Xr hc.2) hu hl
     simp only[e1]
     refine⟨_,rfl,?_,e2⟩
     unfold pj
     rw[hc.1.2,hc.2,hi t hc.1.1 b v hg]
     exact fun h=>h
     rename_i C1 B1 hu hc
     simp only[YU]at h
     obtain⟨rfl,rfl⟩:=h
     have h0:=hl _ (List.mem_cons_self ..)
     have hv:v.gI=false:=by
      unfold pj at h0
      split at h0
      rename_i e;rw[Bool.or_eq_false_iff]at e;exact e.2
      exact h0.elim
     obtain⟨C2,e1,e2⟩:=lQ xs (Xr hv) hu (fun c hc=>hl c (List.mem_cons_of_mem _ hc))
     simp only[e1]
     exact⟨_,rfl,h0,e2⟩
     rename_i hn
     have:=lQ xs hi h hl
     split
     rename_i b v hg;exact absurd hg (hn b v)
     exact this
   | _=>exact lQ xs hi h hl
def rG(P:Program)(N:Nat)(ops:Array Oper):Nat->List Oper->List V->GT->AS->Option (List Prop×AS×GT)
 | 0,_,_,gt,A=>some ([],A,gt)
 | _+1,[],_,gt,A=>some ([],A,gt)
 | n+1,o::rest,x4,gt,A=>
   match o.dst with
   | none=>none
   | some d=>if d<N then
     match o.guard with
     | some (j,b)=>match NN A ops j b with
       | some G=>match Qy G (j,b) gt (iu o.op) A with
         | (C0,B)=>match sY P B o.op x4 with
           | some (C,v,x4)=>if (PE N (iu o.op)&&!v.gI)=true then match rG P N ops n rest x4 (yi ops d j b gt) (A.put (some d) (.gv G v)) with
             | some (C',r)=>some (C0++(if lZ o.op=true then C' else (G=true->C)::C'),r)
             | none=>none else none
           | none=>none
       | none=>none
     | none=>match o.op with
       | .assign x=>rG P N ops n rest x4 (if (A.ev x).cZ=true then [] else rQ ops d gt) ((A.drop x).put (some d) (A.ev x))
       | op=>match sY P A op x4 with
         | some (C,v,x4)=>match rG P N ops n rest x4 (rQ ops d gt) (A.put (some d) v) with
           | some (C',r)=>if lZ op=true then some (C',r) else some (C::C',r)
           | none=>none
         | none=>none
     else none
theorem sB:∀ (n:Nat) {l:List Oper} {x4:List V} {gt UG:GT} {A A':AS} {cs:List Prop},rG P N ops n l x4 gt A=some (cs,A',UG)->RQ ops gt A->(∀ c,c∈cs->c)->
 (∃ C,mV P N ops n l x4 A=some (C,A')/\C)/\RQ ops UG A'
 | 0,l,x4,gt,UG,A,A',cs,h,hi,hc=>by
   simp only[rG,YR,YU]at h
   obtain⟨_,rfl,rfl⟩:=h
   exact⟨⟨True,by simp only[mV],trivial⟩,hi⟩
 | n+1,[],x4,gt,UG,A,A',cs,h,hi,hc=>by
   simp only[rG,YR,YU]at h
   obtain⟨_,rfl,rfl⟩:=h
   exact⟨⟨True,by simp only[mV],trivial⟩,hi⟩
 | n+1,o::l,x4,gt,UG,A,A',cs,h,hi,hc=>by
   unfold rG at h
   unfold mV
   split at h
   cases h
   rename_i d hd
   split at h
   case isFalse=>cases h
   rename_i R9
   simp only[hd,if_pos R9]
   split at h
   rename_i j b hg
   simp only[hg]
   split at h
   rename_i G hG
   split at h
   rename_i C0 B hu
   split at h
   rename_i C v Oq hs
   split at h
   rename_i hk
   split at h
   rename_i C' A1 hr
   simp only[YR,YU]at h
   obtain⟨rfl,rfl⟩:=h
   obtain⟨C1,e1,e2⟩:=lQ (iu o.op) (fun t ht c v hv=>by have:=hi _ ht c v hv;rw[hG]at this;exact(Option.some.inj this).symm) hu (fun c Rs=>hc c (List.mem_append_left _ Rs))
   obtain⟨⟨C2,e3,e4⟩,e5⟩:=sB n hr (ED hi hG) (fun c Rs=>hc c (List.mem_append_right _ (by split <;> simp[Rs])))
   refine⟨?_,e5⟩
   simp only[hG,e1,hs,if_pos hk,e3]
   refine⟨_,rfl,fun M4=>⟨e2,?_⟩,e4⟩
   by_cases ht:lZ o.op=true
   exact mJ ht hs
   exact hc (G=true->C) (List.mem_append_right _ (by rw[if_neg ht];exact List.mem_cons_self ..)) M4
   cases h
   cases h
   cases h
   cases h
   rename_i hg
   simp only[hg]
   split at h
   rename_i x hx
   obtain⟨⟨C,e1,e2⟩,e3⟩:=sB n h (by
    split
    exact DI
    rename_i ho
    rw[Jj (by simpa using ho)]
    exact vm hi) hc
   simp only[hx]
   exact⟨⟨C,e1,e2⟩,e3⟩
   rename_i hx
   split at h
   rename_i C v Oq hs
   split at h
   rename_i C' r hr
   have key:(∀ c,c∈C'->c)/\C/\r=(A',UG):=by
    split at h
    rename_i ht
    simp only[YR,YU]at h
    obtain⟨rfl,rfl⟩:=h
    exact⟨hc,mJ ht hs,rfl⟩
    simp only[YR,YU]at h
    obtain⟨rfl,rfl⟩:=h
    exact⟨fun c Rs=>hc c (List.mem_cons_of_mem _ Rs),hc _ (List.mem_cons_self ..),rfl⟩
   obtain⟨k1,k2,rfl⟩:=key
   obtain⟨⟨C2,e3,e4⟩,e5⟩:=sB n hr (vm hi) k1
   refine⟨?_,e5⟩
   split
   rename_i MR;exact absurd MR (hx _)
   simp only[hs,e3]
   split
   exact⟨_,rfl,e4⟩
   exact⟨_,rfl,k2,e4⟩
   cases h
   cases h
def mU(B:AS)(ks:List (Nat×Nat)):List (Nat×(Nat×V))->Prop->Prop
 | [],p=>p
 | (k,(g,v))::r,p=>(match lk k ks with | some q=>(match lk q B.h with | some (g',v')=>(g',wk v' v)=(g,v) | none=>False) | none=>False)/\mU B ks r p
theorem ji{B:AS}{ks:List (Nat×Nat)}:∀ {H:List (Nat×(Nat×V))} {p:Prop},mU B ks H p->ln B ks H/\p
 | [],p,h=>⟨trivial,h⟩
 | (k,(g,v))::r,p,h=>by
   obtain⟨h1,h2⟩:=h
   obtain⟨h3,h4⟩:=ji h2
   exact⟨⟨h1,h3⟩,h4⟩
def GO(A:AS):List (Nat×(Nat×V))->Prop->Prop
 | [],p=>p
 | (k,(g,v))::r,p=>(match lk k A.h with | some (g',v')=>(g',wk v' v)=(g,v) | none=>False)/\GO A r p
theorem Ac:∀ {H:List (Nat×(Nat×V))} {p:Prop},GO A H p->Qj A H/\p
 | [],p,h=>⟨trivial,h⟩
 | (k,(g,v))::r,p,h=>by
   obtain⟨h1,h2⟩:=h
   obtain⟨h3,h4⟩:=Ac h2
   exact⟨⟨h1,h3⟩,h4⟩
def GD(A:AS):List (Nat×V)->Prop->Prop
 | [],p=>p
 | (k,v)::r,p=>(wk (A.get k) v=v)/\GD A r p
theorem tq:∀ {H:List (Nat×V)} {p:Prop},GD A H p->QZ A H/\p
 | [],p,h=>⟨trivial,h⟩
 | (k,v)::r,p,h=>by
   obtain⟨h1,h2⟩:=h
   obtain⟨h3,h4⟩:=tq h2
   exact⟨⟨h1,h3⟩,h4⟩
def Up(A B:AS):Prop:=GD A B.t (GO A B.h True)
theorem sx{B:AS}(h:Up A B):QZ A B.t/\Qj A B.h:=⟨(tq h).1,(Ac (tq h).2).1⟩
def zE(A:AS):List ResultVar->Option (List Prop×List (l8×V))
 | []=>some ([],[])
 | r::rs=>match zE A rs with
   | some (C,xs)=>match r with
     | .tmp t=>some (C,(.slot t,A.get t)::xs)
     | .cell t _=>match A.get t with
       | .ptr (.key k) [] g 0=>match lk k A.h with
         | some (g',v)=>some ((g'=g)::C,(.key k,v)::xs)
         | none=>none
       | _=>none
   | none=>none
theorem sd:∀ {rs:List ResultVar} {C:List Prop} {xs:List (l8×V)},zE A rs=some (C,xs)->(∀ c,c∈C->c)->∃ C',vI A rs=some (C',xs)/\C'
 | [],C,xs,h,_=>by simp only[zE,YR,YU]at h;rw[<- h.2];exact⟨_,rfl,trivial⟩
 | r::rs,C,xs,h,hC=>by
   simp only[zE]at h
   simp only[vI]
   split at h
   rename_i C1 xs1 e
   split at h
   simp only[YR,YU]at h
   obtain⟨rfl,rfl⟩:=h
   obtain⟨C',e1,e2⟩:=sd e hC
   simp only[e1]
   exact⟨_,rfl,e2⟩
   split at h
   rename_i k g e2
   split at h
   rename_i g' v e3
   simp only[YR,YU]at h
   obtain⟨rfl,rfl⟩:=h
   obtain⟨C',e4,e5⟩:=sd e (fun c hc=>hC c (List.mem_cons_of_mem _ hc))
   simp only[e4,e2,e3]
   exact⟨_,rfl,hC _ (List.mem_cons_self ..),e5⟩
   cases h
   cases h
   cases h
def tF(A:AS):List (Nat×(Nat×V))->Prop->Prop
 | [],p=>p
 | (k,(g,v))::r,p=>p/\tF A r (match lk k A.h with | some (g',v')=>(g',wk v' v)=(g,v) | none=>False)
theorem tB:∀ {H:List (Nat×(Nat×V))} {p:Prop},tF A H p->p/\Qj A H
 | [],p,h=>⟨h,trivial⟩
 | (k,(g,v))::r,p,h=>by
   obtain⟨h1,h2⟩:=h
   exact⟨h1,tB h2⟩
end
structure o6 (P:Program) where
 f:FuncId
 args:List V
 H:List (Nat×(Nat×V)):=[]
 pre:Prop:=True
 res:V
 H':List (Nat×(Nat×V)):=[]
 ok:pre->PF P f args H (fun r h=>r=res/\h=H')
structure G5 (P:Program) where
 X:Type
 f:FuncId
 args:List V
 H:List (Nat×(Nat×V)):=[]
 pre:Prop:=True
 post:X->Prop
 res:X->V
 H':X->List (Nat×(Nat×V)):=fun _=>[]
 ok:pre->PF P f args H (fun r h=> ∃ x,post x/\r=res x/\h=H' x)
structure Cu (P:Program) where
 X:Type
 pre:Nat->Oper->AS->Prop
 post:X->Oper->AS->AS
 ok:∀ {N:Nat} {o:Oper} {A:AS} {K:AS->Prop},o.guard=none->pre N o A->(∀ x,K (post x o A))->E2 P N o A K
structure Eu (P:Program) where
 X:Type
 pre:Nat->Oper->AS->List Nat->List Nat->Prop
 U:Oper->AS->X->AS->AS
 U0:∀ {N:Nat} {o:Oper} {A:AS} {Sl Hl:List Nat},pre N o A Sl Hl->∀ fs,Rz (U o A) fs Sl Hl
 prom:List Nat:=[]
 XZ:∀ {N:Nat} {o:Oper} {A:AS} {Sl Hl:List Nat},pre N o A Sl Hl->∀ q,q∈prom->∀ x B,MP (U o A x B).h q=MP B.h q:=by intro _ _ _ _ _ _ q hq;exact absurd hq List.not_mem_nil
 ok:∀ {N:Nat} {o:Oper} {A A':AS} {Sl Hl:List Nat},o.guard=none->pre N o A Sl Hl->(∀ t,Operand.tmp t∈o.op.operands.toList->A'.get t=A.get t)->(∀ k,lk k A'.h=lk k A.h)->E2 P N o A' fun B=> ∃ x,B=U o A x A'
def o6.sm{P:Program}(c:o6 P):Prop:=c.args=c.args
def G5.sm{P:Program}(c:G5 P):Prop:=c.args=c.args
inductive Hint where
 | H7 (t sz:Nat)
 | VX (t:Nat) (u:V)
 | wkR (r:l8) (p:List Nat) (u:V)
 | gZ (t:Nat)
 | fz (t:Nat)
 | o4 (t:Nat) (v:V)
 | B0 (k:Nat) (v:V)
 | to (B:AS)
 | rk (k k':Nat)
 | y7 (r:l8) (p:List Nat) (sz:Nat)
 | PX (r:l8) (p:List Nat) (g o sz:Nat)
 | Ry (r:l8) (p:List Nat) (g o t:Nat)
 | PV (r:l8) (p:List Nat) (g o:Nat) (v u:V)
inductive Sc (P:Program):Type 1
 | nil
 | h (x:Hint) (k:Sc P)
 | ot (t:Nat) (k:Nat->Nat->Nat->Sc P)
 | oR (r:l8) (p:List Nat) (k:Nat->Nat->Nat->Sc P)
 | r (n:Nat) (x4:List V) (k:Sc P)
 | mv (k:Sc P)
 | c (c:o6 P) (ks:List (Nat×Nat)) (k:Sc P)
 | cx (c:G5 P) (ks:List (Nat×Nat)) (k:c.X->Sc P)
 | cg (c:o6 P) (k:Sc P)
 | al (z:ZT P) (k:Nat->Sc P)
 | bx (k:Nat->Sc P)
 | st (RT:Option V) (k:Sc P)
 | ap (k:Nat->Nat->Nat->Sc P)
 | bd (z:ZT P) (k:Sc P)
 | bs (k:Sc P)
 | L1 (bs:BL) (k:Sc P)
 | sb (l:BL) (k:Nat->Nat->Sc P)
 | mm (k:Sc P)
 | rs (k:Sc P)
 | br (a b:Sc P)
 | join (X:Type) (B:X->AS) (ok:X->Prop) (a b:Sc P) (k:X->Sc P)
 | loop (X:Type) (inv:X->AS) (ok:X->Prop) (m:X->Nat) (k:X->Sc P)
 | dx (m:Nat) (pl:List Nat) (tb:List (Nat×PU)) (zs:List (Nat×ZT P)) (k:Sc P)
 | ua (k:Nat->Sc P)
 | ux (z:Option (ZT P)) (k:Nat->Nat->Nat->Sc P)
 | cl (c:o6 P) (k:Sc P)
 | sp (b:Bool) (a1 a2:Sc P)
 | gt (k:Sc P)
 | gf (v:V) (k:Sc P)
 | ex (X:Type) (post:X->Prop) (k:X->Sc P)
 | QA (r:l8) (p:List Nat) (g o sz:Nat) (xs:List V) (k:Nat->Nat->Nat->Sc P)
 | XQ (xs:List V) (g o:Nat) (k:Nat->Nat->Nat->Sc P)
 | bo (k:Nat->Sc P)
 | cu (c:Cu P) (k:c.X->Sc P)
 | eu (c:Eu P) (k:c.X->Sc P)
def Oy(N:Nat):Option Nat->Bool
 | none=>true
 | some d=>Nat.blt d N
theorem ef{N:Nat}{d:Option Nat}(h:Oy N d=true):cF N d:=by
 cases d with
 | none=>trivial
 | some d=>exact Nat.lt_of_succ_le (Nat.le_of_ble_eq_true h)
theorem bG{a b:Nat}(h:Nat.blt a b=true):a<b:=Nat.lt_of_succ_le (Nat.le_of_ble_eq_true h)
def xS(N:Nat)(x:Hint)(A:AS)(K:AS->Prop):Prop:=
 match x with
 | .H7 t sz=>match Nat.blt t N,A.get t with
   | true,.sl true []=>K (A.put (some t) (.own sz [] 0 0 0))
   | _,_=>False
 | .VX t u=>match Nat.blt t N with
   | true=>K (A.put (some t) (wk (A.get t) u))
   | false=>False
 | .wkR r p u=>match A.at r p with
   | some (_,_,v)=>match (wk v u).n==v.n with
     | true=>K (A.setAt r p (wk v u))
     | false=>False
   | none=>False
 | .gZ t=>match A.get t with
   | .hd (.slot i) [] sz g o 0 n c=>match A.get i with
     | .own J1 xs g' o' c'=>match Nat.blt t N&&Nat.blt i N&&!(t==i) with
       | true=>(sz,g,o,c,n)=(J1,g',o',c',xs.length)/\K ((A.put (some i) .a8).put (some t) (.own J1 xs g' o' c'))
       | false=>False
     | _=>False
   | _=>False
 | .fz t=>match Nat.blt t N&&(A.get t).cZ with
   | true=>K (A.put (some t) (A.get t).er)
   | false=>False
 | .o4 t v=>A.get t=v/\K (A.put (some t) v)
 | .B0 k v=>match lk k A.h with
   | some (g,u)=>u=v/\K ⟨A.t,(k,(g,v))::A.h⟩
   | none=>False
 | .to B=>QZ A B.t/\Qj A B.h/\K B
 | .rk k k'=>match lk k A.h,lk k' A.h with
   | some gv,none=>K ⟨A.t,(k',gv)::A.h.filter fun p=>p.1 != k⟩
   | _,_=>False
 | .y7 r p sz=>match A.at r p with
   | some (_,_,.sl true [])=>K (A.setAt r p (.own sz [] 0 0 0))
   | _=>False
 | .PX r p g o sz=>A.at r p=some (g,o,.sl true [])/\K (A.setAt r p (.own sz [] 0 0 0))
 | .Ry r p g o t=>match A.get t with
   | .own sz xs g1 o1 c=>(A.put (some t) .a8).at r p=some (g,o,.hd (.slot t) [] sz g1 o1 0 xs.length c)/\K ((A.put (some t) .a8).setAt r p (.own sz xs g1 o1 c))
   | _=>False
 | .PV r p g o v u=>A.at r p=some (g,o,v)/\match (wk v u).n==v.n with
   | true=>K (A.setAt r p (wk v u))
   | false=>False
def OE{P:Program}(N:Nat):Sc P->AS->(AS->Sc P->Prop)->Prop
 | .h x k,A,K=>xS N x A fun B=>OE N k B K
 | .ot t k,A,K=>match Nat.blt t N,A.get t with
   | true,.ow sz xs=> ∀ g o c,OE N (k g o c) (A.put (some t) (.own sz xs g o c)) K
   | _,_=>False
 | .oR r p k,A,K=>match A.at r p with
   | some (_,_,.ow sz xs)=> ∀ g o c,OE N (k g o c) (A.setAt r p (.own sz xs g o c)) K
   | _=>False
 | .ex X post k,A,K=>(∃ x,post x)/\∀ x,post x->OE N (k x) A K
 | .QA r p g0 o0 sz xs k,A,K=>A.at r p=some (g0,o0,.ow sz xs)/\∀ g o1 c,OE N (k g o1 c) (A.setAt r p (.own sz xs g o1 c)) K
 | s,A,K=>K A s
def nF(P:Program)(T T2:Nat):Option TI:=
 match tD P T,tD P T2 with
 | some (.sl e),some (.sl _)=>match ti P e with
   | some t=>match UX P e t.sz&&Nat.blt 0 t.sz&&Nat.blt 0 t.L1 with
     | true=>some t
     | false=>none
   | none=>none
 | _,_=>none
def zH(P:Program)(T:Nat):Bool:=match tD P T with
 | some (.sl e)=>match tD P e with
   | some (.int .u8)=>true
   | _=>false
 | _=>false
def isStr(P:Program)(T:Nat):Bool:=match tD P T with
 | some .str=>true
 | _=>false
def C9{P:Program}(N:Nat)(ops:Array Oper):GT->Sc P->List Oper->AS->(AS->Sc P->Prop)->Prop
 | RN,s,[],A,K=>K A s
 | RN,.r n x4 k,l,A,K=>match rG P N ops n l x4 RN A with
   | some (C,A',YH)=>cj C (C9 N ops YH k (l.drop n) A' K)
   | none=>False
 | RN,.cg c k,o::l,A,K=>match o.op,o.guard with
   | .call ⟨.value (.func f),xs,_⟩,some (j,b)=>match f==c.f&&Oy N o.dst&&PE N xs.toList&&!c.res.er.gI&&!c.res.er.cZ,c.H,NN A ops j b with
     | true,[],some G=>match Qy G (j,b) RN xs.toList A with
       | (C,B)=>cj C ((G=true->c.pre/\No (xs.toList.map B.cp) c.args=c.args)/\C9 N ops (YG ops o.dst j b RN) k l (A.put o.dst (.gv G c.res.er)) K)
     | _,_,_=>False
   | _,_=>False
 | RN,.ex X post k,o::l,A,K=>(∃ x,post x)/\∀ x,post x->C9 N ops [] (k x) (o::l) A K
 | RN,.sp b a1 a2,o::l,A,K=>(b=true->C9 N ops [] a1 (o::l) A K)/\(b=false->C9 N ops [] a2 (o::l) A K)
 | RN,.gt k,o::l,A,K=>match o.guard with
   | some (j,b)=>match NN A ops j b with
     | some G=>G=true/\C9 N ops [] k (⟨o.dst,o.op,o.type,o.pos,o.after,none⟩ :: l) A K
     | none=>False
   | none=>False
 | RN,.gf v k,o::l,A,K=>match o.guard with
   | some (j,b)=>match NN A ops j b,Oy N o.dst with
     | some G,true=>G=false/\C9 N ops [] k l (A.put o.dst (.gv false v)) K
     | _,_=>False
   | none=>False
 | RN,s,o::l,A,K=>match o.guard with
   | some _=>False
   | none=>match s with
     | .h x k=>xS N x A fun B=>C9 N ops [] k (o::l) B K
     | .QA r p g0 o0 sz xs k=>A.at r p=some (g0,o0,.ow sz xs)/\∀ g o1 c,C9 N ops [] (k g o1 c) (o::l) (A.setAt r p (.own sz xs g o1 c)) K
     | .cu c k=>c.pre N o A/\∀ x,C9 N ops [] (k x) l (c.post x o A) K
     | .bo k=>match o.op,o.dst with
       | .buildSlice T len b9,some d=>match tD P T with
         | some (.sl e)=>match ti P e,eP A 0 b9.toList with
           | some i,some vs=>match RP P T e len i vs&&Nat.blt d N&&Nat.blt 0 len with
             | true=> ∀ g,C9 N ops [] (k g) l (A.put (some d) (.own i.sz vs g 0 len)) K
             | false=>False
           | _,_=>False
         | _=>False
       | _,_=>False
     | .XQ xs g0 o0 k=>match o.op,o.dst with
       | .call ⟨.builtin .append,⟨[.tmp t0,x]⟩,⟨[T,T2]⟩⟩,some d=>match o.type==T&&Nat.blt d N,nF P T T2 with
         | true,some t=>match A.get t0,Oo A x with
           | .hd r p sz g o1 0 n c,some (Cx,ys)=>(A.at r p=some (g0,o0,.own sz xs g o1 c)/\sz=t.sz/\n=xs.length)/\Cx/\V.aE ys=false/\aJ t.sz ys/\(xs.length+ys.length)*t.L1<=140737488355328/\
            ∀ g2 o2 c2,C9 N ops [] (k g2 o2 c2) l ((A.setAt r p .a8).put (some d) (.own t.sz (xs++ys) g2 o2 c2)) K
           | _,_=>False
         | _,_=>False
       | _,_=>False
     | .cl c k=>match o.op with
       | .call ⟨.value (.func f),xs,_⟩=>match f==c.f&&Oy N o.dst&&c.res.plain,c.H,qs A xs.toList with
         | true,[],(C,vs)=>C/\No vs c.args=c.args/\c.pre/\C9 N ops [] k l (A.put o.dst c.res) K
         | _,_,_=>False
       | _=>False
     | .ot t k=>match Nat.blt t N,A.get t with
       | true,.ow sz xs=> ∀ g o1 c,C9 N ops [] (k g o1 c) (o::l) (A.put (some t) (.own sz xs g o1 c)) K
       | _,_=>False
     | .oR r p k=>match A.at r p with
       | some (_,_,.ow sz xs)=> ∀ g o1 c,C9 N ops [] (k g o1 c) (o::l) (A.setAt r p (.own sz xs g o1 c)) K
       | _=>False
     | .mv k=>match o.op with
       | .move x=>match Oy N o.dst with
         | true=>C9 N ops [] k l ((A.drop x).put o.dst (A.ev x)) K
         | false=>False
       | .extract (.tmp t) i=>match o.dst,A.get t with
         | some d,.tup vs=>match vs[i]? with
           | some v=>match Nat.blt d N&&Nat.blt t N&&!(d==t)&&v.isVal with
             | true=>C9 N ops [] k l ((A.put (some t) (.tup (vs.set i .a8))).put (some d) v) K
             | false=>False
           | none=>False
         | _,_=>False
       | .load T x=>match o.dst,ti P T,A.ev x with
         | some d,some i,.ptr r p g g'=>match A.at r p with
           | some (g2,Sh,u)=>match Nat.blt d N&&u.n==i.sz&&i.d.agg==u.isAgg with
             | true=>(g2,Sh)=(g,g')/\C9 N ops [] k l ((A.setAt r p u.kill).put (some d) u) K
             | false=>False
           | none=>False
         | _,_,_=>False
       | _=>False
     | .c c ks k=>match o.op with
       | .call ⟨.value fx,xs,_⟩=>match A.ev fx,A.tk xs.toList with
         | .lit (.func (.func f) first x6),(vs,B)=>match f==c.f&&Oy N o.dst&&Nb (ks.map (·.1))&&Nb (ks.map (·.2))&&c.args.length==(first.toList.map cV++vs++x6.toList.map cV).length with
           | true=>No (first.toList.map cV++vs++x6.toList.map cV) c.args=c.args/\mU B ks c.H (c.pre/\C9 N ops [] k l ((B.back ks c.H').put o.dst (c.res.On (ke ks))) K)
           | false=>False
         | _,_=>False
       | _=>False
     | .cx c ks k=>match o.op with
       | .call ⟨.value fx,xs,_⟩=>match A.ev fx,A.tk xs.toList with
         | .lit (.func (.func f) first x6),(vs,B)=>match f==c.f&&Oy N o.dst&&Nb (ks.map (·.1))&&Nb (ks.map (·.2))&&c.args.length==(first.toList.map cV++vs++x6.toList.map cV).length with
           | true=>No (first.toList.map cV++vs++x6.toList.map cV) c.args=c.args/\mU B ks c.H (c.pre/\∀ x,c.post x->C9 N ops [] (k x) l ((B.back ks (c.H' x)).put o.dst ((c.res x).On (ke ks))) K)
           | false=>False
         | _,_=>False
       | _=>False
     | .al z k=>match o.op,o.dst with
       | .alloc T,some d=>match T==z.T&&Nat.blt d N with
         | true=> ∀ g,C9 N ops [] (k g) l ⟨(d,.ptr (.key d) [] g 0)::A.t,(d,(g,z.v))::A.h⟩ K
         | false=>False
       | _,_=>False
     | .bx k=>match o.op,o.dst with
       | .box _ x,some d=>match Nat.blt d N&&(A.cp x).isVal with
         | true=> ∀ g,C9 N ops [] (k g) l ⟨(d,.ptr (.key d) [] g 0)::A.t,(d,(g,A.cp x))::A.h⟩ K
         | false=>False
       | _,_=>False
     | .st RT k=>match o.op,o.dst with
       | .store T x y,none=>match ti P T,A.ev x with
         | some i,.ptr r p g g'=>match RT with
           | none=>match (A.drop y).at r p with
             | some (g2,Sh,u)=>match (A.ev y).isVal&&(A.ev y).n==u.n&&(A.ev y).n==i.sz with
               | true=>(g2,Sh)=(g,g')/\C9 N ops [] k l ((A.drop y).setAt r p (A.ev y)) K
               | false=>False
             | none=>False
           | some u=>match (A.ev y).isVal&&(A.ev y).n==u.n&&(A.ev y).n==i.sz with
             | true=>(A.drop y).at r p=some (g,g',u)/\C9 N ops [] k l ((A.drop y).setAt r p (A.ev y)) K
             | false=>False
         | _,_=>False
       | _,_=>False
     | .ap k=>match o.op,o.dst with
       | .call ⟨.builtin .append,⟨[s,x]⟩,⟨[T,T2]⟩⟩,some d=>match o.type==T&&Nat.blt d N,nF P T T2 with
         | true,some t=>match US A s t.sz,Oo A x with
           | some (C,A1,xs),some (Cx,ys)=>C/\Cx/\V.aE ys=false/\aJ t.sz ys/\(xs.length+ys.length)*t.L1<=140737488355328/\
            ∀ g o1 c,C9 N ops [] (k g o1 c) l (A1.put (some d) (.own t.sz (xs++ys) g o1 c)) K
           | none,some (Cx,ys)=>match Ue A s t.sz with
             | some (C,xs)=>(C/\0<ys.length)/\Cx/\V.aE ys=false/\aJ t.sz ys/\(xs.length+ys.length)*t.L1<=140737488355328/\
               ∀ g o1 c,C9 N ops [] (k g o1 c) l (A.put (some d) (.own t.sz (xs++ys) g o1 c)) K
             | none=>False
           | _,_=>False
         | _,_=>False
       | _,_=>False
     | .bd z k=>match o.op with
       | .build T b9=>match T==z.T&&Oy N o.dst,z.v with
         | true,.agg zs=>match lO P A T zs b9.toList with
           | some v=>C9 N ops [] k l (A.put o.dst v) K
           | none=>False
         | _,_=>False
       | _=>False
     | .bs k=>match o.op with
       | .buildSlice T len b9=>match tD P T with
         | some (.sl e)=>match ti P e,eP A 0 b9.toList with
           | some i,some vs=>match RP P T e len i vs&&Oy N o.dst with
             | true=>C9 N ops [] k l (A.put o.dst (.sl true vs)) K
             | false=>False
           | _,_=>False
         | _=>False
       | _=>False
     | .L1 bs k=>match o.op with
       | .convert src dst x=>match zH P src&&isStr P dst&&Oy N o.dst,Oo A x with
         | true,some (C,ys)=>C/\ys=bs.map n0/\C9 N ops [] k l (A.put o.dst (sV bs)) K
         | _,_=>False
       | _=>False
     | .sb bs k=>match o.op,o.dst with
       | .convert src dst x,some d=>match isStr P src&&zH P dst&&Nat.blt d N with
         | true=>A.ev x=sV bs/\∀ g c,C9 N ops [] (k g c) l (A.put (some d) (.own 1 (bs.map n0) g 0 c)) K
         | false=>False
       | _,_=>False
     | .mm k=>match o.op with
       | .call ⟨.builtin b,⟨[x,y]⟩,_⟩=>match A.ev x,A.ev y,Oy N o.dst,b with
         | .lit (.int kd p),.lit (.int Q0 q),true,.max=>Q0=kd/\C9 N ops [] k l (A.put o.dst (.lit (.int kd (max p q)))) K
         | .lit (.int kd p),.lit (.int Q0 q),true,.min=>Q0=kd/\C9 N ops [] k l (A.put o.dst (.lit (.int kd (min p q)))) K
         | _,_,_,_=>False
       | _=>False
     | .rs k=>match o.op,o.dst with
       | .assign x,some i=>match A.ev x,A.get i,Nat.blt i N with
         | .hd (.slot i') [] J1 g' o' lo n c',.own sz xs g o1 c,true=>(i',J1,g',o')=(i,sz,g,o1)/\(lo+n<=xs.length/\lo+c'<=c/\V.aE xs=false)/\
          C9 N ops [] k l (A.put (some i) (.own sz ((xs.drop lo).take n) g (o1+lo*sz) c')) K
         | _,_,_=>False
       | _,_=>False
     | _=>False
section
variable {P:Program} {N:Nat} {ops:Array Oper} {A A' A1 B:AS}
variable {w:World} {Pb Kb:Nat->Prop} {a:Act} {F:l8->List Nat}
theorem yS{x:Hint}{A:AS}{K:AS->Prop}(h:xS N x A K):Hx N A K:=by
 unfold xS at h
 split at h
 split at h
 rename_i e1 e2;exact Jv _ _ (bG e1) e2 h
 exact h.elim
 split at h
 rename_i e1;exact LK _ (bG e1) h
 exact h.elim
 split at h
 rename_i e1
 split at h
 rename_i e2;exact DV _ e1 (by simpa using e2) h
 exact h.elim
 exact h.elim
 split at h
 rename_i e1
 split at h
 rename_i e2
 split at h
 rename_i e3
 simp only[YS,Bool.not_eq_true',beq_eq_false_iff_ne]at e3
 obtain⟨hq,h⟩:=h
 simp only[YU]at hq
 obtain⟨rfl,rfl,rfl,rfl,hn⟩:=hq
 exact Hi (bG e3.1.1) (bG e3.1.2) e3.2 e1 e2 hn h
 exact h.elim
 exact h.elim
 exact h.elim
 split at h
 rename_i e1
 simp only[YS]at e1
 exact EB (bG e1.1) e1.2 h
 exact h.elim
 exact JZ _ h.1 h.2
 split at h
 rename_i e1
 obtain⟨rfl,h⟩:=h
 exact KV _ e1 h
 exact h.elim
 exact Hv h.1 h.2.1 h.2.2
 split at h
 rename_i e1 e2;exact LN e1 e2 h
 exact h.elim
 split at h
 rename_i e1;exact zw e1 h
 exact h.elim
 exact zw h.1 h.2
 split at h
 rename_i e1;exact Es e1 h.1 rfl h.2
 exact h.elim
 obtain⟨h1,h⟩:=h
 split at h
 rename_i e2;exact DV _ h1 (by simpa using e2) h
 exact h.elim
theorem kJ:∀ (s:Sc P) {A:AS} {K:AS->Sc P->Prop},OE N s A K->Hx N A fun B=> ∃ s',K B s':=by
 intro s
 induction s with
 | h x k ih=>intro A K h;exact(yS h).bind fun B hB=>ih hB
 | ot t k ih=>
   intro A K h
   simp only[OE]at h
   split at h
   rename_i e1 e2
   exact(AG (bG e1) e2 (K:=fun B=>Hx N B fun B=> ∃ s',K B s') fun g o c=>ih g o c (h g o c)).bind fun _ hB=>hB
   exact h.elim
 | oR r p k ih=>
   intro A K h
   simp only[OE]at h
   split at h
   rename_i e1
   exact(qn e1 (K:=fun B=>Hx N B fun B=> ∃ s',K B s') fun g o c=>ih g o c (h g o c)).bind fun _ hB=>hB
   exact h.elim
 | ex X post k ih=>
   intro A K h
   obtain⟨⟨x,hx⟩,h⟩:=h
   exact ih x (h x hx)
 | QA r p g0 o0 sz xs k ih=>
   intro A K h
   exact(qn h.1 (K:=fun B=>Hx N B fun B=> ∃ s',K B s') fun g o c=>ih g o c (h.2 g o c)).bind fun _ hB=>hB
 | _=>intro A K h;exact Hx.of ⟨_,h⟩
theorem iI{T T2:Nat}{t:TI}(h:nF P T T2=some t):∃ e e2,tD P T=some (.sl e)/\tD P T2=some (.sl e2)/\ti P e=some t/\UX P e t.sz=true/\0<t.sz/\0<t.L1:=by
 unfold nF at h
 split at h
 rename_i e e2 h1 h2
 split at h
 rename_i t' h3
 split at h
 rename_i h4
 simp only[YR]at h;subst h
 simp only[YS]at h4
 exact⟨e,e2,h1,h2,h3,h4.1.1,bG h4.1.2,bG h4.2⟩
 simp at h
 simp at h
 simp at h
theorem wI{T:Nat}(h:zH P T=true):∃ e,tD P T=some (.sl e)/\tD P e=some (.int .u8):=by
 unfold zH at h
 split at h
 rename_i e h1
 split at h
 rename_i h2;exact⟨e,h1,h2⟩
 simp at h
 simp at h
theorem tw{T:Nat}(h:isStr P T=true):tD P T=some .str:=by
 unfold isStr at h
 split at h
 rename_i h1;exact h1
 simp at h
theorem Dv:∀ (s:Sc P) {gt:GT} {l:List Oper} {A:AS} {K:AS->Sc P->Prop},C9 N ops gt s l A K->(hg:RQ ops gt A:=by exact DI)->WL P N ops l A fun B=> ∃ s',K B s':=by
 intro s
 induction s with
 | nil=>
   intro gt l A K h I8
   cases l with
   | nil=>exact⟨_,h⟩
   | cons o l=>simp only[C9]at h;split at h <;> exact h.elim
 | r n x4 k ih=>
   intro gt l A K h I8
   cases l with
   | nil=>exact⟨_,h⟩
   | cons o l=>
     simp only[C9]at h
     split at h
     rename_i C A' YH e
     obtain⟨h1,h2⟩:=mT.1 h
     obtain⟨⟨C1,e1,e2⟩,e3⟩:=sB n e I8 h1
     exact oL n e1 e2 (ih h2 e3)
     exact h.elim
 | cg c k ih=>
   intro gt l A K h I8
   cases l with
   | nil=>exact⟨_,h⟩
   | cons o l=>
     obtain⟨dst,op,ty,pos,after,D2⟩:=o
     simp only[C9]at h
     split at h
     rename_i _ _ f xs K5 j b
     split at h
     rename_i G h1 h2 h3
     revert h
     cases hu:Qy G (j,b) gt xs.toList A with | mk C0 B=>?_
     intro h
     obtain⟨PA,h⟩:=mT.1 h
     obtain⟨C1,u1,u2⟩:=lQ xs.toList (fun t ht c v hv=>by have:=I8 _ ht c v hv;rw[h3]at this;exact(Option.some.inj this).symm) hu PA
     simp only[YS,Zp,Bool.not_eq_true']at h1
     obtain⟨⟨⟨⟨h1,h4⟩,h5⟩,h6⟩,h7⟩:=h1
     subst h1
     refine Ho (ef h4) h3 u1 h5 rfl (fun hG=>⟨u2,?_,h6,h7⟩) (ih h.2 (Iw I8 h3))
     obtain⟨Rg,hw⟩:=h.1 hG
     have hc:=c.ok Rg
     rw[h2]at hc
     have hp:=hc.Db
     refine⟨hp.1,fun w Pb cargs k1 k2=>?_⟩
     refine(hp.2 w Pb cargs k1 (by have:=oV _ c.args k2;rw[hw]at this;exact this)).mono ?_
     rintro e w' ⟨r,x,F,Pb',rfl,⟨H,q1,_⟩,rest⟩
     exact⟨r,x,F,Pb',rfl,by rw[q1],rest⟩
     exact h.elim
     exact h.elim
 | ex X post k ih=>
   intro gt l A K h I8
   cases l with
   | nil=>exact⟨_,h⟩
   | cons o l=>
     simp only[C9]at h
     obtain⟨⟨x,hx⟩,h⟩:=h
     exact ih x (h x hx)
 | QA r p g0 o0 sz xs k ih=>
   intro gt l A K h I8
   cases l with
   | nil=>exact⟨_,h⟩
   | cons o l=>
     simp only[C9]at h
     split at h
     exact h.elim
     rename_i hg
     exact rV hg (qn h.1 fun g o1 c=>ih g o1 c (h.2 g o1 c))
 | cu c k ih=>
   intro gt l A K h I8
   cases l with
   | nil=>exact⟨_,h⟩
   | cons o l=>
     obtain⟨dst,op,ty,pos,after,D2⟩:=o
     simp only[C9]at h
     split at h
     exact h.elim
     rename_i hg
     show E2 P N _ A _
     exact c.ok rfl h.1 fun x=>ih x (h.2 x)
 | bo k ih=>
   intro gt l A K h I8
   cases l with
   | nil=>exact⟨_,h⟩
   | cons o l=>
     obtain⟨dst,op,ty,pos,after,D2⟩:=o
     simp only[C9]at h
     split at h
     exact h.elim
     show E2 P N _ A _
     split at h
     split at h
     rename_i e e1
     split at h
     rename_i i vs e2 e3
     split at h
     rename_i e4
     simp only[YS]at e4
     exact AI rfl rfl (bG e4.1.2) e1 e2 e3 e4.1.1 (bG e4.2) fun g=>ih g (h g)
     exact h.elim
     exact h.elim
     exact h.elim
     exact h.elim
 | XQ xs g0 o0 k ih=>
   intro gt l A K h I8
   cases l with
   | nil=>exact⟨_,h⟩
   | cons o l=>
     obtain⟨dst,op,ty,pos,after,D2⟩:=o
     simp only[C9]at h
     split at h
     exact h.elim
     show E2 P N _ A _
     split at h
     split at h
     rename_i t e1 e2
     split at h
     rename_i e3 e4
     simp only[YS,Zp]at e1
     obtain⟨⟨k1,k2,k3⟩,k4,k5,k6,k7,k8⟩:=h
     obtain⟨e,e',q1,q2,q3,q4,q5,q6⟩:=iI e2
     exact yG rfl e1.1 rfl (bG e1.2) q1 q2 q3 (lM q4) q5 q6 e3 k1 k2 k3 e4 k4 k5 k6 k7 fun g o1 c=>ih g o1 c (k8 g o1 c)
     exact h.elim
     exact h.elim
     exact h.elim
 | sp b a1 a2 Ur Uq=>
   intro gt l A K h I8
   cases l with
   | nil=>exact⟨_,h⟩
   | cons o l=>
     simp only[C9]at h
     cases b with
     | true=>exact Ur (h.1 rfl)
     | false=>exact Uq (h.2 rfl)
 | gt k ih=>
   intro gt l A K h I8
   cases l with
   | nil=>exact⟨_,h⟩
   | cons o l=>
     obtain⟨dst,op,ty,pos,after,D2⟩:=o
     simp only[C9]at h
     split at h
     rename_i j b
     split at h
     rename_i G hG
     exact pX rfl hG (fun _=>ih h.2) (fun hf=>by rw[h.1]at hf;cases hf)
     exact h.elim
     exact h.elim
 | gf v k ih=>
   intro gt l A K h I8
   cases l with
   | nil=>exact⟨_,h⟩
   | cons o l=>
     obtain⟨dst,op,ty,pos,after,D2⟩:=o
     simp only[C9]at h
     split at h
     rename_i j b
     split at h
     rename_i G hG hd
     exact pX rfl hG (fun ht=>by rw[h.1]at ht;cases ht) (fun _=>⟨ef hd,.gv false v,fun _ _=>⟨rfl,⟨(fun hh=>Bool.noConfusion hh),fun _=>rfl⟩⟩,ih h.2⟩)
     exact h.elim
     exact h.elim
 | cl c k ih=>
   intro gt l A K h I8
   cases l with
   | nil=>exact⟨_,h⟩
   | cons o l=>
     obtain⟨dst,op,ty,pos,after,D2⟩:=o
     simp only[C9]at h
     split at h
     exact h.elim
     show E2 P N _ A _
     split at h
     split at h
     rename_i C vs e1 e2 e3
     simp only[YS,Zp]at e1
     obtain⟨⟨rfl,e1⟩,e4⟩:=e1
     obtain⟨k1,k2,k3,k4⟩:=h
     have hc:=c.ok k3
     rw[e2]at hc
     have hp:=hc.Db
     refine FG (Q:=fun r=>r=c.res) rfl (ef e1) ⟨hp.1,fun w Pb cargs q1 q2=>?_⟩ e3 k1 k2 (fun r hr=>by rw[hr];exact e4) (fun r hr=>by rw[hr];exact ih k4)
     refine(hp.2 w Pb cargs q1 q2).mono ?_
     rintro e w' ⟨r,x,F,Pb',rfl,⟨H,q,_⟩,rest⟩
     exact⟨r,x,F,Pb',rfl,q,rest⟩
     exact h.elim
     exact h.elim
 | h x k ih=>
   intro gt l A K h I8
   cases l with
   | nil=>exact⟨_,h⟩
   | cons o l=>
     simp only[C9]at h
     split at h
     exact h.elim
     rename_i hg;exact rV hg ((yS h).mono fun B hB=>ih hB)
 | ot t k ih=>
   intro gt l A K h I8
   cases l with
   | nil=>exact⟨_,h⟩
   | cons o l=>
     simp only[C9]at h
     split at h
     exact h.elim
     rename_i hg
     split at h
     rename_i e1 e2;exact rV hg (AG (bG e1) e2 fun g o1 c=>ih g o1 c (h g o1 c))
     exact h.elim
 | oR r p k ih=>
   intro gt l A K h I8
   cases l with
   | nil=>exact⟨_,h⟩
   | cons o l=>
     simp only[C9]at h
     split at h
     exact h.elim
     rename_i hg
     split at h
     rename_i e1;exact rV hg (qn e1 fun g o1 c=>ih g o1 c (h g o1 c))
     exact h.elim
 | mv k ih=>
   intro gt l A K h I8
   cases l with
   | nil=>exact⟨_,h⟩
   | cons o l=>
     obtain⟨dst,op,ty,pos,after,D2⟩:=o
     simp only[C9]at h
     split at h
     exact h.elim
     show E2 P N _ A _
     split at h
     split at h
     rename_i e;exact Ck rfl (ef e) (ih h)
     exact h.elim
     split at h
     rename_i d vs e1
     split at h
     rename_i v e2
     split at h
     rename_i e3
     simp only[YS,Bool.not_eq_true',beq_eq_false_iff_ne]at e3
     exact xN rfl rfl (bG e3.1.1.1) (bG e3.1.1.2) e3.1.2 e1 e2 e3.2 (ih h)
     exact h.elim
     exact h.elim
     exact h.elim
     split at h
     rename_i d i r p g g' e1 e2
     split at h
     rename_i g2 Sh u e3
     split at h
     rename_i e4
     simp only[YS,Zp]at e4
     obtain⟨hq,h⟩:=h
     simp only[YU]at hq
     obtain⟨rfl,rfl⟩:=hq
     exact vE rfl rfl (bG e4.1.1) e1 e2 e3 e4.1.2 e4.2 (ih h)
     exact h.elim
     exact h.elim
     exact h.elim
     exact h.elim
 | c c ks k ih=>
   intro gt l A K h I8
   cases l with
   | nil=>exact⟨_,h⟩
   | cons o l=>
     obtain⟨dst,op,ty,pos,after,D2⟩:=o
     simp only[C9]at h
     split at h
     exact h.elim
     show E2 P N _ A _
     split at h
     split at h
     rename_i vs B e1 e2
     split at h
     rename_i e3
     simp only[YS,Zp]at e3
     obtain⟨⟨⟨⟨h1,h2⟩,h3⟩,h4⟩,h5⟩:=e3
     subst h1
     obtain⟨k1,h⟩:=h
     obtain⟨k2,k3,k4⟩:=ji h
     refine nR ks rfl e1 (ef h2) h3 h4 (c.ok k3) (by rw[e2];exact k1) (by rw[e2];exact h5) (by rw[e2];exact k2) ?_
     rintro r H' ⟨rfl,rfl⟩
     rw[e2];exact ih k4
     exact h.elim
     exact h.elim
     exact h.elim
 | cx c ks k ih=>
   intro gt l A K h I8
   cases l with
   | nil=>exact⟨_,h⟩
   | cons o l=>
     obtain⟨dst,op,ty,pos,after,D2⟩:=o
     simp only[C9]at h
     split at h
     exact h.elim
     show E2 P N _ A _
     split at h
     split at h
     rename_i vs B e1 e2
     split at h
     rename_i e3
     simp only[YS,Zp]at e3
     obtain⟨⟨⟨⟨h1,h2⟩,h3⟩,h4⟩,h5⟩:=e3
     subst h1
     obtain⟨k1,h⟩:=h
     obtain⟨k2,k3,k4⟩:=ji h
     refine nR ks rfl e1 (ef h2) h3 h4 (c.ok k3) (by rw[e2];exact k1) (by rw[e2];exact h5) (by rw[e2];exact k2) ?_
     rintro r H' ⟨x,hx,rfl,rfl⟩
     rw[e2];exact ih x (k4 x hx)
     exact h.elim
     exact h.elim
     exact h.elim
 | al z k ih=>
   intro gt l A K h I8
   cases l with
   | nil=>exact⟨_,h⟩
   | cons o l=>
     obtain⟨dst,op,ty,pos,after,D2⟩:=o
     simp only[C9]at h
     split at h
     exact h.elim
     show E2 P N _ A _
     split at h
     split at h
     rename_i e
     simp only[YS,Zp]at e
     obtain⟨rfl,e⟩:=e
     exact qM rfl rfl (bG e) z.ok fun g=>ih g (h g)
     exact h.elim
     exact h.elim
 | bx k ih=>
   intro gt l A K h I8
   cases l with
   | nil=>exact⟨_,h⟩
   | cons o l=>
     obtain⟨dst,op,ty,pos,after,D2⟩:=o
     simp only[C9]at h
     split at h
     exact h.elim
     show E2 P N _ A _
     split at h
     split at h
     rename_i e
     simp only[YS]at e
     exact Ie rfl rfl (bG e.1) e.2 fun g=>ih g (h g)
     exact h.elim
     exact h.elim
 | st RT k ih=>
   intro gt l A K h I8
   cases l with
   | nil=>exact⟨_,h⟩
   | cons o l=>
     obtain⟨dst,op,ty,pos,after,D2⟩:=o
     simp only[C9]at h
     split at h
     exact h.elim
     show E2 P N _ A _
     split at h
     split at h
     rename_i i r p g g' e1 e2
     split at h
     split at h
     rename_i g2 Sh u e3
     split at h
     rename_i e4
     simp only[YS,Zp]at e4
     obtain⟨hq,h⟩:=h
     simp only[YU]at hq
     obtain⟨rfl,rfl⟩:=hq
     exact wY rfl rfl e1 e2 e3 e4.1.1 e4.1.2 e4.2 (ih h)
     exact h.elim
     exact h.elim
     split at h
     rename_i u e4
     simp only[YS,Zp]at e4
     exact wY rfl rfl e1 e2 h.1 e4.1.1 e4.1.2 e4.2 (ih h.2)
     exact h.elim
     exact h.elim
     exact h.elim
 | ap k ih=>
   intro gt l A K h I8
   cases l with
   | nil=>exact⟨_,h⟩
   | cons o l=>
     obtain⟨dst,op,ty,pos,after,D2⟩:=o
     simp only[C9]at h
     split at h
     exact h.elim
     show E2 P N _ A _
     split at h
     split at h
     rename_i t e1 e2
     split at h
     rename_i e3 e4
     simp only[YS,Zp]at e1
     obtain⟨k1,k2,k3,k4,k5,k6⟩:=h
     obtain⟨e,e',q1,q2,q3,q4,q5,q6⟩:=iI e2
     exact AY rfl e1.1 rfl (bG e1.2) q1 q2 q3 (lM q4) q5 q6 e3 k1 e4 k2 k3 k4 k5 fun g o1 c=>ih g o1 c (k6 g o1 c)
     rename_i e3 e4
     split at h
     rename_i e5
     simp only[YS,Zp]at e1
     obtain⟨k1,k2,k3,k4,k5,k6⟩:=h
     obtain⟨e,e',q1,q2,q3,q4,q5,q6⟩:=iI e2
     exact zd rfl e1.1 rfl (bG e1.2) q1 q2 q3 (lM q4) q5 q6 e5 k1.1 k1.2 e4 k2 k3 k4 k5 fun g o1 c=>ih g o1 c (k6 g o1 c)
     exact h.elim
     exact h.elim
     exact h.elim
     exact h.elim
 | bd z k ih=>
   intro gt l A K h I8
   cases l with
   | nil=>exact⟨_,h⟩
   | cons o l=>
     obtain⟨dst,op,ty,pos,after,D2⟩:=o
     simp only[C9]at h
     split at h
     exact h.elim
     split at h
     split at h
     rename_i zs e1 e2
     split at h
     rename_i v e3
     simp only[YS,Zp]at e1
     obtain⟨rfl,e1⟩:=e1
     have hz:=z.ok
     rw[e2]at hz
     exact GU zs v hz (ef e1) e3 (ih h)
     exact h.elim
     exact h.elim
     exact h.elim
 | bs k ih=>
   intro gt l A K h I8
   cases l with
   | nil=>exact⟨_,h⟩
   | cons o l=>
     obtain⟨dst,op,ty,pos,after,D2⟩:=o
     simp only[C9]at h
     split at h
     exact h.elim
     split at h
     split at h
     rename_i e e1
     split at h
     rename_i i vs e2 e3
     split at h
     rename_i e4
     simp only[YS]at e4
     exact xM e i vs ⟨e1,e2⟩ (ef e4.2) e3 e4.1 (ih h)
     exact h.elim
     exact h.elim
     exact h.elim
     exact h.elim
 | L1 bs k ih=>
   intro gt l A K h I8
   cases l with
   | nil=>exact⟨_,h⟩
   | cons o l=>
     obtain⟨dst,op,ty,pos,after,D2⟩:=o
     simp only[C9]at h
     split at h
     exact h.elim
     split at h
     split at h
     rename_i C ys e1 e2
     simp only[YS]at e1
     obtain⟨hC,rfl,h⟩:=h
     obtain⟨e,q1,q2⟩:=wI e1.1.1
     exact Ap e C bs ⟨q1,q2,tw e1.1.2⟩ (ef e1.2) e2 hC (ih h)
     exact h.elim
     exact h.elim
 | sb bs k ih=>
   intro gt l A K h I8
   cases l with
   | nil=>exact⟨_,h⟩
   | cons o l=>
     obtain⟨dst,op,ty,pos,after,D2⟩:=o
     simp only[C9]at h
     split at h
     exact h.elim
     split at h
     split at h
     rename_i e1
     simp only[YS]at e1
     obtain⟨e,q1,q2⟩:=wI e1.1.2
     exact Au e bs ⟨tw e1.1.1,q1,q2⟩ (bG e1.2) h.1 fun g c=>ih g c (h.2 g c)
     exact h.elim
     exact h.elim
 | mm k ih=>
   intro gt l A K h I8
   cases l with
   | nil=>exact⟨_,h⟩
   | cons o l=>
     obtain⟨dst,op,ty,pos,after,D2⟩:=o
     simp only[C9]at h
     split at h
     exact h.elim
     split at h
     split at h
     rename_i kd p Q0 q e1 e2 e3
     obtain⟨rfl,h⟩:=h
     exact Kn _ p q (ef e3) e1 e2 (ih h)
     rename_i kd p Q0 q e1 e2 e3
     obtain⟨rfl,h⟩:=h
     exact Lk _ p q (ef e3) e1 e2 (ih h)
     exact h.elim
     exact h.elim
 | rs k ih=>
   intro gt l A K h I8
   cases l with
   | nil=>exact⟨_,h⟩
   | cons o l=>
     obtain⟨dst,op,ty,pos,after,D2⟩:=o
     simp only[C9]at h
     split at h
     exact h.elim
     split at h
     split at h
     rename_i e1 e2 e3
     obtain⟨hq,⟨h1,h2,h3⟩,h⟩:=h
     simp only[YU]at hq
     obtain⟨rfl,rfl,rfl,rfl⟩:=hq
     exact Ce _ _ _ _ (bG e3) e1 e2 h1 h2 h3 (ih h)
     exact h.elim
     exact h.elim
 | _=>
   intro gt l A K h I8
   cases l with
   | nil=>exact⟨_,h⟩
   | cons o l=>simp only[C9]at h;split at h <;> exact h.elim
end
section
variable {P:Program} {N:Nat} {ops:Array Oper} {A A' A1 B:AS}
def oj(P:Program)(N:Nat)(ops:Array Oper)(o:Oper)(A:AS)(v:V):Prop:=
 ∀ A':AS,(∀ t,t∈o.looksAt ops->A'.get t=A.get t)->gd ops o A' (E2 P N o A' (fun B=>D0 B (A'.put o.dst v))) (cF N o.dst/\∀ w Pb,RV w Pb v undef [])
theorem yZ{o:Oper}{x:Operand}(hg:o.guard=none)(ho:o.op=.assign x)(hd:cF N o.dst)(hn:(A.ev x).cZ=false):oj P N ops o A (A.ev x):=by
 intro A' h1
 unfold gd
 rw[hg]
 simp only
 have e1:A'.ev x=A.ev x:=bu fun t ht=>h1 t (eC (by rw[ho,ht];simp[Op.operands]))
 have e2:A'.drop x=A':=by
  cases x with
  | tmp t=>
    have e3:A'.get t=A.get t:=e1
    have P7:(A.get t).cZ=false:=hn
    simp[AS.drop,e3,P7]
  | _=>rfl
 rw[<- e1]
 refine uI ho hd ?_
 rw[e2]
 exact⟨fun _=>rfl,fun _=>rfl⟩
theorem Cv{d:Option Nat} {f:FuncId} {xs:Array Operand} {K5:Array TypeId} {ty:TypeId} {pos:String} {after:Array Edge}
 {Q:V->Prop} {E:V} (hd:cF N d) (hc:PC P f (xs.toList.map A.cp) Q) (hE:∀ r,Q r->r.er=E):
 oj P N ops ⟨d,.call { callee:=.value (.func f),args:=xs,argTypes:=K5 },ty,pos,after,none⟩ A E:=fun A' h1=>by
 unfold gd
 refine oD rfl hd ?_ hE ⟨fun _=>rfl,fun _=>rfl⟩
 rw[qL fun t ht=>h1 t (eC (by simp[Op.operands,Call.operands];simpa using ht))]
 exact hc
theorem tV{d:Option Nat} {T len ty:Nat} {b9:Array (Nat×Operand)} {pos:String} {after:Array Edge} (e:Nat) (i:TI) (vs:List V)
 (Q9:tD P T=some (.sl e)/\ti P e=some i) (hd:cF N d) (Q8:eP A 0 b9.toList=some vs) (hB:RP P T e len i vs=true):
 oj P N ops ⟨d,.buildSlice T len b9,ty,pos,after,none⟩ A (.sl true vs):=fun A' h1=>by
 show E2 P N _ A' _
 refine Fe rfl hd Q9.1 Q9.2 ?_ hB ⟨fun _=>rfl,fun _=>rfl⟩
 rw[oG (A:=A) _ _ (fun t ht=>h1 t (eC (by simpa[Op.operands] using ht)))]
 exact Q8
theorem Ag{d:Option Nat} {T ty:Nat} {b9:Array (Nat×Operand)} {pos:String} {after:Array Edge} (zs:List V) (v:V)
 (hz:mX P T (.agg zs)) (hd:cF N d) (hb:lO P A T zs b9.toList=some v):oj P N ops ⟨d,.build T b9,ty,pos,after,none⟩ A v:=fun A' h1=>by
 show E2 P N _ A' _
 have e:lO P A' T zs b9.toList=some v:=by
  rw[<- hb]
  unfold lO
  have:(b9.toList.map fun (i,x)=>(i,A'.cp x))=b9.toList.map fun (i,x)=>(i,A.cp x):=by
   apply List.map_congr_left
   rintro⟨i,x⟩ hx
   simp only
   rw[kM (x:=x) fun t ht=>h1 t (eC (by
    subst ht
    simp only[Op.operands,List.mem_map]
    exact⟨(i,.tmp t),hx,rfl⟩))]
  rw[this]
 obtain⟨C,k1,k2⟩:=xf e
 exact wP rfl hd hz k1 k2 ⟨fun _=>rfl,fun _=>rfl⟩
theorem vN{d:Option Nat} {src dst ty:Nat} {x:Operand} {pos:String} {after:Array Edge} (e:Nat) (full:Bool) (bs:BL)
 (ht:tD P src=some (.sl e)/\tD P e=some (.int .u8)/\tD P dst=some .str) (hd:cF N d) (hx:A.ev x=.sl full (bs.map n0)):
 oj P N ops ⟨d,.convert src dst x,ty,pos,after,none⟩ A (sV bs):=fun A' h1=>by
 show E2 P N _ A' _
 have e1:A'.ev x=.sl full (bs.map n0):=by rw[<- hx];exact bu fun t ht=>h1 t (eC (by rw[ht];simp[Op.operands]))
 exact rD rfl hd ht.1 ht.2.1 ht.2.2 (C:=True) (by simp only[Oo,e1]) trivial ⟨fun _=>rfl,fun _=>rfl⟩
def iw(b:Option (Sum Nat (Nat×List Nat)))(B:AS):AS:=match b with
 | none=>B
 | some (.inl t)=>B.put (some t) .a8
 | some (.inr (k,p))=>B.setAt (.key k) p .a8
def UR(A:AS)(s:Operand)(sz:Nat):Option (Prop×Option (Sum Nat (Nat×List Nat))×List V):=
 match s with
 | .const (.slice none 0 0)=>some (True,none,[])
 | .tmp t=>match A.get t with
   | .sl true []=>some (True,none,[])
   | .own J1 xs _ _ _=>some (J1=sz,some (.inl t),xs)
   | .hd (.slot i) [] J1 g o 0 n c=>match A.get i with
     | .own Na xs g2 o2 c2=>some ((J1,Na,g2,o2,c2,n)=(sz,sz,g,o,c,xs.length),some (.inl i),xs)
     | _=>none
   | .hd (.key k) p J1 g o 0 n c=>match A.at (.key k) p with
     | some (_,_,.own Na xs g2 o2 c2)=>some ((J1,Na,g2,o2,c2,n)=(sz,sz,g,o,c,xs.length),some (.inr (k,p)),xs)
     | _=>none
   | _=>none
 | _=>none
theorem IV{s:Operand}{sz:Nat}{C:Prop}{b:Option (Sum Nat (Nat×List Nat))}{xs:List V}(h:UR A s sz=some (C,b,xs)):US A s sz=some (C,iw b A,xs):=by
 have fin:∀ {C':Prop} {b':Option (Sum Nat (Nat×List Nat))} {xs':List V},some (C',b',xs')=some (C,b,xs)->some (C',iw b' A,xs')=some (C,iw b A,xs):=fun h=>by
  have h:=Option.some.inj h;have h1:=(Prod.mk.inj h).1;have h2:=(Prod.mk.inj (Prod.mk.inj h).2).1;have h3:=(Prod.mk.inj (Prod.mk.inj h).2).2;rw[h1,h2,h3]
 unfold UR at h
 unfold US
 split at h
 exact fin h
 split at h
 rename_i e;(try simp only[e]);exact fin h
 rename_i e;(try simp only[e]);exact fin h
 rename_i e;(try simp only[e])
 split at h
 rename_i e2;(try simp only[e2]);exact fin h
 simp at h
 rename_i e;(try simp only[e])
 split at h
 rename_i e2;(try simp only[e2]);exact fin h
 simp at h
 simp at h
 simp at h
def pv(s:Operand)(Sl El Hl:List Nat):Option (Sum Nat (Nat×List Nat))->Bool
 | none=>true
 | some (.inl t)=>Sl.contains t&&(match s with | .tmp q=>q==t||El.contains t | _=>false)
 | some (.inr (k,_))=>Hl.contains k
theorem EZ{s:Operand} {sz:Nat} {C:Prop} {b:Option (Sum Nat (Nat×List Nat))} {xs:List V} {Sl El Hl:List Nat} (h:UR A s sz=some (C,b,xs)) (hb:pv s Sl El Hl b=true)
 (h1:∀ t,s=.tmp t->A'.get t=A.get t) (h2:∀ t,t∈El->A'.get t=A.get t) (h3:∀ k,lk k A'.h=lk k A.h):UR A' s sz=some (C,b,xs):=by
 unfold UR at h ⊢
 split at h
 exact h
 rename_i t
 have hg:=h1 t rfl
 have hk:∀ k p,A'.at (.key k) p=A.at (.key k) p:=fun k p=>by simp only[AS.at,h3]
 simp only[hg,hk]
 split at h
 exact h
 exact h
 rename_i i J1 g o n c e
 split at h
 rename_i Na xs2 g2 o2 c2 e2
 have:A'.get i=A.get i:=by
  simp only[YR]at h
  obtain⟨_,h⟩:=Prod.mk.inj h;obtain⟨rfl,_⟩:=Prod.mk.inj h
  simp only[pv,YS,Bool.or_eq_true,Zp]at hb
  rcases hb.2 with q | q
  rw[<- q];exact hg
  exact h2 i (by simpa using q)
 simp only[this,e2];exact h
 simp at h
 exact h
 simp at h
 simp at h
def Cg(P:Program)(N:Nat)(Sl El Hl:List Nat)(o:Oper)(A:AS)(z:Option (ZT P)):Option (Prop×(Nat×Nat×Nat->AS->AS)):=
 match o.op,o.dst with
 | .alloc T,some d=>match z with
   | some z=>match T==z.T&&Nat.blt d N&&Sl.contains d&&Hl.contains d with
     | true=>some (True,fun gh B=>⟨(d,.ptr (.key d) [] gh.1 0)::B.t,(d,(gh.1,z.v))::B.h⟩)
     | false=>none
   | none=>none
 | .call ⟨.builtin .append,⟨[s,x]⟩,⟨[T,T2]⟩⟩,some d=>match o.type==T&&Nat.blt d N&&Sl.contains d,nF P T T2 with
   | true,some t=>match UR A s t.sz,A.ev x with
     | some (C,b,xs),.sl _ ys=>match pv s Sl El Hl b with
       | true=>some (C/\V.aE ys=false/\aJ t.sz ys/\(xs.length+ys.length)*t.L1<=140737488355328,fun gh B=>(iw b B).put (some d) (.own t.sz (xs++ys) gh.1 gh.2.1 gh.2.2))
       | false=>none
     | none,.sl _ ys=>match Ue A s t.sz with
       | some (C,xs)=>some ((C/\0<ys.length)/\V.aE ys=false/\aJ t.sz ys/\(xs.length+ys.length)*t.L1<=140737488355328,fun gh B=>B.put (some d) (.own t.sz (xs++ys) gh.1 gh.2.1 gh.2.2))
       | none=>none
     | _,_=>none
   | _,_=>none
 | .load T x,some d=>match ti P T,A.ev x with
   | some i,.ptr (.key k) p g g'=>match A.at (.key k) p with
     | some (g2,Sh,u)=>match Nat.blt d N&&u.n==i.sz&&i.d.agg==u.isAgg&&Sl.contains d&&Hl.contains k with
       | true=>some ((g2,Sh)=(g,g'),fun _ B=>(B.setAt (.key k) p u.kill).put (some d) u)
       | false=>none
     | none=>none
   | _,_=>none
 | _,_=>none
theorem cb{k:Nat}{p:List Nat}{v:V}{t:Nat}:(B.setAt (.key k) p v).get t=B.get t:=by
 simp only[AS.setAt];split <;> rfl
theorem sX{k q:Nat}{p:List Nat}{v:V}(h:q≠k):lk q (B.setAt (.key k) p v).h=lk q B.h:=by
 simp only[AS.setAt];split
 simp only[lk];rw[if_neg h]
 rfl
theorem ig{k q:Nat}{p:List Nat}{v:V}{B':AS}(h:∀ k,lk k B.h=lk k B'.h):lk q (B.setAt (.key k) p v).h=lk q (B'.setAt (.key k) p v).h:=by
 simp only[AS.setAt]
 rw[<- h k]
 split
 simp only[lk];split
 rfl
 exact h q
 exact h q
theorem mG{B C:AS}{d:Option Nat}{v:V}(h:D0 B C):D0 (B.put d v) (C.put d v):=by
 cases d with
 | none=>exact h
 | some d'=>exact⟨fun t=>by rw[AS.aA,AS.aA];split
                            rfl
                            exact h.1 t,h.2⟩
theorem qb{k k0:Nat}{p:List Nat}{v:V}{gv:Nat×V}(h:k≠k0):D0 (AS.setAt ⟨B.t,(k,gv)::B.h⟩ (.key k0) p v) ⟨(B.setAt (.key k0) p v).t,(k,gv)::(B.setAt (.key k0) p v).h⟩:=by
 have e:lk k0 ((k,gv)::B.h)=lk k0 B.h:=by simp only[lk];rw[if_neg (Ne.symm h)]
 simp only[AS.setAt,e]
 split
 refine⟨fun _=>rfl,fun x=>?_⟩
 simp only[lk]
 by_cases c:x=k
 rw[if_pos c,if_neg (fun c2=>h (c.symm.trans c2)),if_pos c]
 rw[if_neg c,if_neg c]
 exact⟨fun _=>rfl,fun _=>rfl⟩
theorem tO{A B:AS}{k:Nat}{gv:Nat×V}{d:Nat}{v:V}(h:D0 A ⟨B.t,(k,gv)::B.h⟩):D0 (A.put (some d) v) ⟨(B.put (some d) v).t,(k,gv)::(B.put (some d) v).h⟩:=mG h
theorem Jc{Sl El Hl:List Nat}{o:Oper}{z:Option (ZT P)}{C:Prop}{U:Nat×Nat×Nat->AS->AS}(h:Cg P N Sl El Hl o A z=some (C,U))(hC:C)(d:Nat)(hd:o.dst=some d):
 UOk U Sl Hl d/\Mg P N ops El U o A:=by
 obtain⟨dst,op,ty,pos,after,D2⟩:=o
 simp only at hd;subst hd
 unfold Cg at h
 simp only at h
 split at h
 rename_i T d' e
 simp only[YR]at e;subst e
 split at h
 rename_i z
 split at h
 rename_i e
 simp only[YR,YU]at h
 obtain⟨_,rfl⟩:=h
 simp only[YS,Zp,Zm,Zo]at e
 obtain⟨⟨⟨rfl,e1⟩,e2⟩,e3⟩:=e
 refine⟨⟨fun gh B t ht=>?_,fun gh B k hk=>?_,fun gh B B' hB=>⟨fun t=>?_,fun k=>?_⟩,fun gh B t v ht=>⟨fun q=>?_,fun k=>rfl⟩,fun gh B v=>⟨fun q=>?_,fun k=>rfl⟩,fun gh B k gv hq=>?_⟩,fun A' _ _ K hK=>?_⟩
 simp only[AS.get,lk];rw[if_neg (fun c=>ht (by rw[c];exact e2))]
 simp only[lk];rw[if_neg (fun c=>hk (by rw[c];exact e3))]
 simp only[AS.get,lk];split
 rfl
 exact hB.1 t
 simp only[lk];split
 rfl
 exact hB.2 k
 simp only[AS.put,AS.get,lk]
 by_cases c:q=d
 subst c;rw[if_pos rfl,if_neg (fun c=>ht (by rw[<- c];exact e2)),if_pos rfl]
 rw[if_neg c,if_neg c]
 simp only[AS.put,AS.get,lk]
 by_cases c:q=d
 subst c;simp
 rw[if_neg c,if_neg c,if_neg c]
 refine⟨fun _=>rfl,fun x=>?_⟩
 simp only[lk]
 by_cases c:x=d
 rw[if_pos c,if_neg (fun c2=>hq (by rw[<- c2,c];exact e3)),if_pos c]
 rw[if_neg c,if_neg c]
 exact qM rfl rfl (bG e1) z.ok fun g=>hK (g,0,0)
 simp at h
 simp at h
 rename_i s x T T2 d' e
 simp only[YR]at e;subst e
 split at h
 rename_i t e1 e2
 split at h
 rename_i Cb b xs fl ys e3 e4
 split at h
 rename_i e5
 simp only[YR,YU]at h
 obtain⟨rfl,rfl⟩:=h
 simp only[YS,Zp,Zm,Zo]at e1
 obtain⟨⟨rfl,e1⟩,e6⟩:=e1
 obtain⟨k1,k3,k4,k5⟩:=hC
 have tg:∀ (B:AS) t,t ∉ Sl->(iw b B).get t=B.get t:=fun B t ht=>by
  cases b with
  | none=>rfl
  | some b=>cases b with
    | inl q=>
      simp only[pv,YS,Zm,Zo]at e5
      simp only[iw];rw[AS.aA,if_neg (fun c=>ht (by rw[c];exact e5.1))]
    | inr kp=>simp only[iw];exact cb
 have Wx:∀ (B B':AS) t,B.get t=B'.get t->(iw b B).get t=(iw b B').get t:=fun B B' t ht=>by
  cases b with
  | none=>exact ht
  | some b=>cases b with
    | inl q=>simp only[iw];rw[AS.aA,AS.aA,ht]
    | inr kp=>simp only[iw];rw[cb,cb];exact ht
 have th:∀ (B B':AS) k,(∀ k,lk k B.h=lk k B'.h)->lk k (iw b B).h=lk k (iw b B').h:=fun B B' k hk=>by
  cases b with
  | none=>exact hk k
  | some b=>cases b with
    | inl q=>exact hk k
    | inr kp=>exact ig hk
 refine⟨⟨fun gh B q hq=>?_,fun gh B k hk=>?_,fun gh B B' hB=>?_,fun gh B q v hq=>⟨fun q2=>?_,fun k=>th _ _ k fun _=>rfl⟩,fun gh B v=>⟨fun q=>?_,fun k=>th _ _ k fun _=>rfl⟩,fun gh B k gv hq=>?_⟩,fun A' h1 h2 K hK=>?_⟩
 rw[AS.aA,if_neg (fun c=>hq (by rw[c];exact e6))];exact tg B q hq
 show lk k (iw b B).h=_
 cases b with
 | none=>rfl
 | some b=>cases b with
   | inl q=>rfl
   | inr kp=>
     obtain⟨k0,p0⟩:=kp
     simp only[pv,Zm,Zo]at e5
     exact sX (fun c=>hk (by rw[c];exact e5))
 exact mG ⟨fun q=>Wx _ _ q (hB.1 q),fun k=>th _ _ k hB.2⟩
 rw[AS.aA,AS.aA,AS.aA]
 by_cases c:q2=d
 subst c;rw[if_pos rfl,if_neg (fun c=>hq (by rw[<- c];exact e6)),if_pos rfl]
 rw[if_neg c]
 by_cases c2:q2=q
 subst c2;rw[if_pos rfl,tg _ _ hq,AS.aA,if_pos rfl]
 rw[if_neg c2,if_neg c];exact Wx _ _ _ (by rw[AS.aA,if_neg c2])
 rw[AS.aA,AS.aA]
 by_cases c:q=d
 rw[if_pos c,if_pos c]
 rw[if_neg c,if_neg c];exact Wx _ _ _ (by rw[AS.aA,if_neg c])
 refine tO ?_
 cases b with
 | none=>exact⟨fun _=>rfl,fun _=>rfl⟩
 | some b=>cases b with
   | inl q=>exact⟨fun _=>rfl,fun _=>rfl⟩
   | inr kp=>
     obtain⟨k0,p0⟩:=kp
     simp only[pv,Zm,Zo]at e5
     exact qb (fun c=>hq (by rw[c];exact e5))
 obtain⟨e,e',q1,q2,q3,q4,q5,q6⟩:=iI e2
 have hs:∀ t,s=.tmp t->A'.get t=A.get t:=fun t ht=>h1 t (.inl (eC (by subst ht;simp[Op.operands,Call.operands])))
 have hx:A'.ev x=A.ev x:=bu fun t ht=>h1 t (.inl (eC (by subst ht;simp[Op.operands,Call.operands])))
 have QF:=IV (EZ e3 e5 hs (fun t ht=>h1 t (.inr ht)) h2)
 exact AY rfl rfl rfl (bG e1) q1 q2 q3 (lM q4) q5 q6 QF k1 (by unfold Oo;rw[hx,e4]) trivial k3 k4 k5 fun g o1 c=>hK (g,o1,c)
 simp at h
 rename_i fl ys e3 e4
 split at h
 rename_i C0 xs e5
 simp only[YR,YU]at h
 obtain⟨rfl,rfl⟩:=h
 simp only[YS,Zp,Zm,Zo]at e1
 obtain⟨⟨rfl,e1⟩,e6⟩:=e1
 obtain⟨⟨k1,k2⟩,k3,k4,k5⟩:=hC
 refine⟨⟨fun gh B q hq=>?_,fun gh B k hk=>rfl,fun gh B B' hB=>mG hB,fun gh B q v hq=>⟨fun q2=>?_,fun k=>rfl⟩,fun gh B v=>⟨fun q=>?_,fun k=>rfl⟩,fun gh B k gv hq=>⟨fun _=>rfl,fun _=>rfl⟩⟩,fun A' h1 h2 K hK=>?_⟩
 rw[AS.aA,if_neg (fun c=>hq (by rw[c];exact e6))]
 rw[AS.aA,AS.aA,AS.aA,AS.aA]
 by_cases c:q2=d
 subst c;rw[if_pos rfl,if_neg (fun c=>hq (by rw[<- c];exact e6)),if_pos rfl]
 rw[if_neg c,if_neg c]
 rw[AS.aA,AS.aA,AS.aA]
 split <;> rfl
 obtain⟨e,e',q1,q2,q3,q4,q5,q6⟩:=iI e2
 have hs:Ue A' s t.sz=Ue A s t.sz:=by
  cases s with
  | tmp q=>simp only[Ue,h1 q (.inl (eC (by simp[Op.operands,Call.operands])))]
  | _=>rfl
 have hx:A'.ev x=A.ev x:=bu fun t ht=>h1 t (.inl (eC (by subst ht;simp[Op.operands,Call.operands])))
 exact zd rfl rfl rfl (bG e1) q1 q2 q3 (lM q4) q5 q6 (by rw[hs];exact e5) k1 k2 (by unfold Oo;rw[hx,e4]) trivial k3 k4 k5 fun g o1 c=>hK (g,o1,c)
 simp at h
 simp at h
 simp at h
 rename_i T x d' e
 simp only[YR]at e;subst e
 split at h
 rename_i i k p g g' e1 e2
 split at h
 rename_i g2 Sh u e3
 split at h
 rename_i e4
 simp only[YR]at h
 obtain⟨hq,rfl⟩:=Prod.mk.inj h
 subst hq
 obtain⟨rfl,rfl⟩:=Prod.mk.inj hC
 simp only[YS,Zp,Zm,Zo]at e4
 obtain⟨⟨⟨⟨e4,e5⟩,e6⟩,e7⟩,e8⟩:=e4
 refine⟨⟨fun gh B q hq=>?_,fun gh B q hq=>?_,fun gh B B' hB=>?_,fun gh B q v hq=>⟨fun q2=>?_,fun k=>ig fun _=>rfl⟩,fun gh B v=>⟨fun q=>?_,fun k=>ig fun _=>rfl⟩,fun gh B k gv hq=>tO (qb (fun c=>hq (by rw[c];exact e8)))⟩,fun A' h1 h2 K hK=>?_⟩
 rw[AS.aA,if_neg (fun c=>hq (by rw[c];exact e7))];exact cb
 exact sX (fun c=>hq (by rw[c];exact e8))
 exact mG ⟨fun q=>by rw[cb,cb];exact hB.1 q,fun k=>ig hB.2⟩
 rw[AS.aA,AS.aA,AS.aA]
 by_cases c:q2=d
 subst c;rw[if_pos rfl,if_neg (fun c=>hq (by rw[<- c];exact e7)),if_pos rfl]
 rw[if_neg c]
 by_cases c2:q2=q
 subst c2;rw[if_pos rfl,cb,AS.aA,if_pos rfl]
 rw[if_neg c2,if_neg c,cb,cb,AS.aA,if_neg c2]
 rw[AS.aA,AS.aA]
 by_cases c:q=d
 rw[if_pos c,if_pos c]
 rw[if_neg c,if_neg c,cb,cb,AS.aA,if_neg c]
 have hx:A'.ev x=A.ev x:=bu fun t ht=>h1 t (.inl (eC (by subst ht;simp[Op.operands])))
 exact vE rfl rfl (bG e4) e1 (by rw[hx];exact e2) (by simp only[AS.at,h2];simpa only[AS.at] using e3) e5 e6 (hK (0,0,0))
 simp at h
 simp at h
 simp at h
 simp at h
end
section
variable {P:Program} {N:Nat} {ops:Array Oper} {A A' A1 B:AS} {sp:Nat} {Sl El Hl:List Nat} {U:Nat×Nat×Nat->AS->AS}
theorem Jz{d:Option Nat}{xs:Array Operand}{K5:Array TypeId}{ty:TypeId}{pos:String}{after:Array Edge}(c:o6 P)(hd:cF N d)(hH:c.H=[])(k1:No (xs.toList.map A.cp) c.args=c.args)(k2:c.pre):
 oj P N ops ⟨d,.call { callee:=.value (.func c.f),args:=xs,argTypes:=K5 },ty,pos,after,none⟩ A c.res.er:=by
 have hc:=c.ok k2
 rw[hH]at hc
 have hp:=hc.Db
 refine Cv (Q:=fun r=>r=c.res) hd ?_ (fun r hr=>by rw[hr])
 refine⟨hp.1,fun w Pb cargs q1 q2=>?_⟩
 refine(hp.2 w Pb cargs q1 (by have:=oV _ c.args q2;rw[k1]at this;exact this)).mono ?_
 rintro e w' ⟨r,x,F,Pb',rfl,⟨H,q,_⟩,rest⟩
 exact⟨r,x,F,Pb',rfl,q,rest⟩
end
def Yu(A:AS)(l:List Nat)(k:Nat):List Nat->Bool
 | [i]=>Nat.blt i 100&&l.contains (hM+(100*k+i))&&(MP A.h (100*k+i)).isSome
 | _=>false
def U4(Hl prom:List Nat):Bool:=Hl.all fun x=>Nat.blt x hM||prom.contains (x-hM)
theorem uG{Hl prom:List Nat}{q:Nat}(h:U4 Hl prom=true)(hq:hM+q∈Hl):q∈prom:=by
 have:=Y6.1 h _ hq
 rw[Bool.or_eq_true]at this
 rcases this with h | h
 exfalso
 have:hM+q<hM:=by simpa[Nat.blt_eq] using h
 omega
 rw[Nat.add_sub_cancel_left]at h
 simpa using h
def CG(a b:List Nat):Bool:=a.all fun x=>b.contains x&&Nat.blt x hM
theorem Iu{a b:List Nat}{A A':AS}(h:CG a b=true)(h2:Sk A' A (some b)):∀ k,k∈a->lk k A'.h=lk k A.h:=fun k hk=>by
 have:=Y6.1 h k hk
 rw[YS]at this
 have h3:=h2 k (by simpa using this.1)
 unfold Qc at h3
 rw[if_pos this.2]at h3
 exact h3
theorem Dl{A:AS}{k i g o n:Nat}{v:V}(h:MP A.h (100*k+i)=some (g,o,v,n))(hi:i<100):∃ sz xs g1 o1 c,v=.own sz [] g1 o1 c/\n=xs.length/\A.at (.key k) [i]=some (g,o,.own sz xs g1 o1 c):=by
 unfold MP at h
 rw[show (100*k+i) / 100=k from Z9,show (100*k+i) % 100=i from Z9]at h
 split at h
 rename_i g0 v0 e
 split at h
 rename_i g' o' sz xs g1 o1 c e2
 simp only[YR,YU]at h
 obtain⟨rfl,rfl,rfl,rfl⟩:=h
 exact⟨sz,xs,g1,o1,c,rfl,rfl,by simp only[AS.at,e,e2]⟩
 cases h
 cases h
theorem IM{A A':AS}{k i g o:Nat}{T:TI}(h:MP A'.h (100*k+i)=MP A.h (100*k+i))(hi:i<100)(hs:(MP A.h (100*k+i)).isSome=true):
 kv A' (some T) (.ptr (.key k) [i] g o)=kv A (some T) (.ptr (.key k) [i] g o):=by
 obtain⟨⟨g1,o1,v,n⟩,e⟩:=Option.isSome_iff_exists.1 hs
 obtain⟨sz,xs,g2,o2,c,rfl,rfl,e1⟩:=Dl e hi
 obtain⟨J1,xs',Sh,o2',c',h1,h2,e2⟩:=Dl (h.trans e) hi
 cases h1
 simp only[kv,e1,e2,V.Qs,h2,V.n,V.isAgg]
def mq(El:List Nat)(fr:Option (List Nat))(A:AS):Op->Bool
 | .load _ x=>match A.ev x with
   | .ptr (.slot i) _ _ _=>El.contains i
   | .ptr (.key k) p _ _=>match fr with
     | none=>true
     | some l=>(Nat.blt k hM&&l.contains k)||Yu A l k p
   | _=>true
 | _=>true
def eX(A:AS):List Operand->List Nat
 | []=>[]
 | x::xs=>match x with
   | .tmp t=>match (A.get t).cZ with
     | true=>t::eX (A.drop x) xs
     | false=>eX (A.drop x) xs
   | _=>eX (A.drop x) xs
def jw(ts:List Nat)(A:AS):AS:=⟨ts.map (fun t=>(t,V.a8))++A.t,A.h⟩
def sub(a b:List Nat):Bool:=a.all fun x=>b.contains x
def wj(ops:Array Oper)(tb:List (Nat×PU)){P:Program}(zs:List (Nat×ZT P))(i:Nat)(o:Oper):Bool:=
 (lk i zs).isNone&&!(bq ops tb i).VU&&(bq ops tb i).Sl==o.dst.toList&&(bq ops tb i).Hl==[]
def nL(P:Program)(N:Nat)(ops:Array Oper)(tb:List (Nat×PU))(zs:List (Nat×ZT P)):Nat->List Nat->List V->AS->Option (Prop×AS)
 | 0,_,_,A=>some (True,A)
 | _+1,[],_,A=>some (True,A)
 | n+1,i::rest,x4,A=>
   match ops[i]? with
   | none=>none
   | some o=>match wj ops tb zs i o with
     | false=>none
     | true=>match o.dst with
       | none=>none
       | some d=>if d<N then
         match o.guard with
         | some (j,b)=>match NN A ops j b with
           | some G=>match AS.un G (iu o.op) A with
             | (C0,B)=>match sY P B o.op x4 with
               | some (C,v,x4)=>if (PE N (iu o.op)&&!v.gI&&mq (bq ops tb i).El (bq ops tb i).fr B o.op)=true then match nL P N ops tb zs n rest x4 (A.put (some d) (.gv G v)) with
                 | some (C',A')=>some ((G=true->C0/\C)/\C',A')
                 | none=>none else none
               | none=>none
           | none=>none
         | none=>match o.op with
           | .assign x=>if (A.ev x).cZ=false then nL P N ops tb zs n rest x4 (A.put (some d) (A.ev x)) else none
           | op=>if mq (bq ops tb i).El (bq ops tb i).fr A op=true then match sY P A op x4 with
             | some (C,v,x4)=>match nL P N ops tb zs n rest x4 (A.put (some d) v) with
               | some (C',A')=>if lZ op=true then some (C',A') else some (C/\C',A')
               | none=>none
             | none=>none else none
         else none
def ob(P:Program)(N:Nat)(ops:Array Oper)(tb:List (Nat×PU))(zs:List (Nat×ZT P)):Nat->List Nat->List V->AS->Option (List Prop×AS)
 | 0,_,_,A=>some ([],A)
 | _+1,[],_,A=>some ([],A)
 | n+1,i::rest,x4,A=>
   match ops[i]? with
   | none=>none
   | some o=>match wj ops tb zs i o with
     | false=>none
     | true=>match o.dst with
       | none=>none
       | some d=>if d<N then
         match o.guard with
         | some (j,b)=>match NN A ops j b with
           | some G=>match Qy G (j,b) [] (iu o.op) A with
             | (C0,B)=>match sY P B o.op x4 with
               | some (C,v,x4)=>if (PE N (iu o.op)&&!v.gI&&mq (bq ops tb i).El (bq ops tb i).fr B o.op)=true then match ob P N ops tb zs n rest x4 (A.put (some d) (.gv G v)) with
                 | some (C',A')=>some (C0++(if lZ o.op=true then C' else (G=true->C)::C'),A')
                 | none=>none else none
               | none=>none
           | none=>none
         | none=>match o.op with
           | .assign x=>if (A.ev x).cZ=false then ob P N ops tb zs n rest x4 (A.put (some d) (A.ev x)) else none
           | op=>if mq (bq ops tb i).El (bq ops tb i).fr A op=true then match sY P A op x4 with
             | some (C,v,x4)=>match ob P N ops tb zs n rest x4 (A.put (some d) v) with
               | some (C',A')=>if lZ op=true then some (C',A') else some (C::C',A')
               | none=>none
             | none=>none else none
         else none
section
variable {P:Program} {N:Nat} {ops:Array Oper} {tb:List (Nat×PU)} {zs:List (Nat×ZT P)}
theorem pK:∀ (n:Nat) {l:List Nat} {x4:List V} {A A':AS} {cs:List Prop},ob P N ops tb zs n l x4 A=some (cs,A')->(∀ c,c∈cs->c)->∃ C,nL P N ops tb zs n l x4 A=some (C,A')/\C
 | 0,l,x4,A,A',cs,h,hc=>by
   simp only[ob,YR,YU]at h
   obtain⟨_,rfl⟩:=h
   exact⟨True,by simp only[nL],trivial⟩
 | n+1,[],x4,A,A',cs,h,hc=>by
   simp only[ob,YR,YU]at h
   obtain⟨_,rfl⟩:=h
   exact⟨True,by simp only[nL],trivial⟩
 | n+1,i::l,x4,A,A',cs,h,hc=>by
   unfold ob at h
   unfold nL
   split at h
   cases h
   rename_i o ho
   simp only[ho]
   split at h
   cases h
   rename_i hv
   split at h
   cases h
   rename_i d hd
   split at h
   case isFalse=>cases h
   rename_i R9
   simp only[hd,if_pos R9]
   split at h
   rename_i j b hg
   split at h
   rename_i G hG
   split at h
   rename_i C0 B hu
   split at h
   rename_i C v Oq hs
   split at h
   rename_i hk
   split at h
   rename_i C' A1 hr
   simp only[YR,YU]at h
   obtain⟨rfl,rfl⟩:=h
   obtain⟨C1,e1,e2⟩:=lQ (iu o.op) (fun t ht=>by simp at ht) hu (fun c Rs=>hc c (List.mem_append_left _ Rs))
   obtain⟨C2,e3,e4⟩:=pK n hr (fun c Rs=>hc c (List.mem_append_right _ (by split <;> simp[Rs])))
   simp only[hG,e1,hs,if_pos hk,e3]
   refine⟨_,rfl,fun M4=>⟨e2,?_⟩,e4⟩
   by_cases ht:lZ o.op=true
   exact mJ ht hs
   exact hc (G=true->C) (List.mem_append_right _ (by rw[if_neg ht];exact List.mem_cons_self ..)) M4
   cases h
   cases h
   cases h
   cases h
   · rename_i hg
     split at h
     rename_i x hx
     split at h
     rename_i ho
     obtain⟨C,e1,e2⟩:=pK n h hc
     simp only[hx,if_pos ho]
     exact⟨C,e1,e2⟩
     cases h
     · rename_i hx
       split at h
       case isFalse=>cases h
       rename_i V9
       split at h
       rename_i C v Oq hs
       split at h
       rename_i C' A1 hr
       have key:(∀ c,c∈C'->c)/\C/\A1=A':=by
        split at h
        rename_i ht
        simp only[YR,YU]at h
        obtain⟨rfl,rfl⟩:=h
        exact⟨hc,mJ ht hs,rfl⟩
        simp only[YR,YU]at h
        obtain⟨rfl,rfl⟩:=h
        exact⟨fun c Rs=>hc c (List.mem_cons_of_mem _ Rs),hc _ (List.mem_cons_self ..),rfl⟩
       obtain⟨k1,k2,rfl⟩:=key
       obtain⟨C2,e3,e4⟩:=pK n hr k1
       simp only[if_pos V9,hs,e3]
       split
       exact⟨_,rfl,e4⟩
       exact⟨_,rfl,k2,e4⟩
       cases h
       cases h
end
def jA(d:Option Nat)(ts:List Nat)(ks:List (Nat×Nat))(r:V)(H:List (Nat×(Nat×V)))(A:AS):AS:=((jw ts A).back ks H).put d r
def MU{P:Program}(N:Nat)(ops:Array Oper)(tb:List (Nat×PU))(zs:List (Nat×ZT P)):Sc P->List Nat->AS->(AS->Sc P->Prop)->Prop
 | s,[],A,K=>K A s
 | .r n x4 k,l,A,K=>match ob P N ops tb zs n l x4 A with
   | some (C,A')=>cj C (MU N ops tb zs k (l.drop n) A' K)
   | none=>False
 | .h x k,i::l,A,K=>match x with
   | .o4 t v=>A.get t=v/\MU N ops tb zs k (i::l) (A.put (some t) v) K
   | .B0 q v=>match lk q A.h with
     | some (g,u)=>u=v/\MU N ops tb zs k (i::l) ⟨A.t,(q,(g,v))::A.h⟩ K
     | none=>False
   | _=>False
 | .ua k,i::l,A,K=>match ops[i]?,lk i zs with
   | some o,some z=> ∀ g,MU N ops tb zs (k g) l (OA (o.dst.getD 0) z.v g A) K
   | _,_=>False
 | .cg c k,i::l,A,K=>match ops[i]?,lk i zs with
   | some o,none=>match wj ops tb zs i o,o.op,o.guard with
     | true,.call ⟨.value (.func f),xs,_⟩,some (j,b)=>match f==c.f&&Oy N o.dst&&PE N xs.toList&&!c.res.er.gI&&!c.res.er.cZ,c.H,NN A ops j b with
       | true,[],some G=>match Qy G (j,b) [] xs.toList A with
         | (C,B)=>cj C ((G=true->c.pre/\No (xs.toList.map B.cp) c.args=c.args)/\MU N ops tb zs k l (A.put o.dst (.gv G c.res.er)) K)
       | _,_,_=>False
     | _,_,_=>False
   | _,_=>False
 | s,i::l,A,K=>match ops[i]?,lk i zs with
   | none,_=>False
   | _,some _=>False
   | some o,none=>match o.guard with
     | some _=>False
     | none=>match (bq ops tb i).VU with
       | false=>match wj ops tb zs i o with
         | true=>match s with
           | .c c _ k=>match o.op with
             | .call ⟨.value (.func f),xs,_⟩=>match f==c.f&&Oy N o.dst,c.H with
               | true,[]=>No (xs.toList.map A.cp) c.args=c.args/\c.pre/\MU N ops tb zs k l (A.put o.dst c.res.er) K
               | _,_=>False
             | _=>False
           | .bd z k=>match o.op with
             | .build T b9=>match T==z.T&&Oy N o.dst,z.v with
               | true,.agg us=>match lO P A T us b9.toList with
                 | some v=>MU N ops tb zs k l (A.put o.dst v) K
                 | none=>False
               | _,_=>False
             | _=>False
           | .bs k=>match o.op with
             | .buildSlice T len b9=>match tD P T with
               | some (.sl e)=>match ti P e,eP A 0 b9.toList with
                 | some t,some vs=>match RP P T e len t vs&&Oy N o.dst with
                   | true=>MU N ops tb zs k l (A.put o.dst (.sl true vs)) K
                   | false=>False
                 | _,_=>False
               | _=>False
             | _=>False
           | .mm k=>match o.op with
             | .call ⟨.builtin b,⟨[x,y]⟩,_⟩=>match A.ev x,A.ev y,Oy N o.dst,b with
               | .lit (.int kd p),.lit (.int Q0 q),true,.max=>Q0=kd/\MU N ops tb zs k l (A.put o.dst (.lit (.int kd (max p q)))) K
               | .lit (.int kd p),.lit (.int Q0 q),true,.min=>Q0=kd/\MU N ops tb zs k l (A.put o.dst (.lit (.int kd (min p q)))) K
               | _,_,_,_=>False
             | _=>False
           | .L1 bs k=>match o.op with
             | .convert src dst x=>match zH P src&&isStr P dst&&Oy N o.dst,A.ev x with
               | true,.sl _ ys=>ys=bs.map n0/\MU N ops tb zs k l (A.put o.dst (sV bs)) K
               | _,_=>False
             | _=>False
           | _=>False
         | false=>False
       | true=>match s with
         | .ux z k=>match Cg P N (bq ops tb i).Sl (bq ops tb i).El (bq ops tb i).Hl o A z,(bq ops tb i).fr,U4 (bq ops tb i).Hl [] with
           | some (C,U),none,true=>C/\∀ g o1 c,MU N ops tb zs (k g o1 c) l (U (g,o1,c) A) K
           | _,_,_=>False
         | .eu c k=>match (bq ops tb i).fr,U4 (bq ops tb i).Hl c.prom with
           | none,true=>c.pre N o A (bq ops tb i).Sl (bq ops tb i).Hl/\∀ x,MU N ops tb zs (k x) l (c.U o A x A) K
           | _,_=>False
         | .c c ks k=>match o.op with
           | .call ⟨.value fx,xs,_⟩=>match A.ev fx,A.tk xs.toList,(bq ops tb i).fr with
             | .lit (.func (.func f) first x6),(vs,_),some fl=>
               match f==c.f&&Oy N o.dst&&Nb (ks.map (·.1))&&Nb (ks.map (·.2))&&c.args.length==(first.toList.map cV++vs++x6.toList.map cV).length&&
                sub (eX A xs.toList) (bq ops tb i).Sl&&sub o.dst.toList (bq ops tb i).Sl&&sub (ks.map (·.2)) (bq ops tb i).Hl&&CG (ks.map (·.2)) fl&&U4 (bq ops tb i).Hl [] with
               | true=>No (first.toList.map cV++vs++x6.toList.map cV) c.args=c.args/\mU A ks c.H (c.pre/\MU N ops tb zs k l (jA o.dst (eX A xs.toList) ks (c.res.On (ke ks)) c.H' A) K)
               | false=>False
             | _,_,_=>False
           | _=>False
         | .cx c ks k=>match o.op with
           | .call ⟨.value fx,xs,_⟩=>match A.ev fx,A.tk xs.toList,(bq ops tb i).fr with
             | .lit (.func (.func f) first x6),(vs,_),some fl=>
               match f==c.f&&Oy N o.dst&&Nb (ks.map (·.1))&&Nb (ks.map (·.2))&&c.args.length==(first.toList.map cV++vs++x6.toList.map cV).length&&
                sub (eX A xs.toList) (bq ops tb i).Sl&&sub o.dst.toList (bq ops tb i).Sl&&sub (ks.map (·.2)) (bq ops tb i).Hl&&CG (ks.map (·.2)) fl&&U4 (bq ops tb i).Hl [] with
               | true=>No (first.toList.map cV++vs++x6.toList.map cV) c.args=c.args/\mU A ks c.H (c.pre/\∀ x,c.post x->MU N ops tb zs (k x) l (jA o.dst (eX A xs.toList) ks ((c.res x).On (ke ks)) (c.H' x) A) K)
               | false=>False
             | _,_,_=>False
           | _=>False
         | _=>False
section
variable {P:Program} {N:Nat} {ops:Array Oper} {A A' A1 B:AS} {tb:List (Nat×PU)} {zs:List (Nat×ZT P)}
theorem oo{ts:List Nat}{t:Nat}:(jw ts A).get t=if t∈ts then .a8 else A.get t:=by
 induction ts with
 | nil=>simp[jw]
 | cons a ts ih=>
   simp only[jw,AS.get,Zi,List.cons_append,lk]at ih ⊢
   by_cases e:t=a
   rw[if_pos e,if_pos (by simp[e])];rfl
   rw[if_neg e,ih]
   by_cases e2:t∈ts
   rw[if_pos e2,if_pos (by simp[e2])]
   rw[if_neg e2,if_neg (by simp[e,e2])]
theorem tY:∀ (xs:List Operand) {A:AS},D0 (A.tk xs).2 (jw (eX A xs) A)
 | [],A=>⟨fun _=>rfl,fun _=>rfl⟩
 | x::xs,A=>by
   have ih:=tY xs (A:=A.drop x)
   simp only[AS.tk]
   have e:(match (A.drop x).tk xs with | (vs,B)=>((U1 (A.ev x)::vs,B):List V×AS)).2=((A.drop x).tk xs).2:=rfl
   rw[e]
   have hh:(A.drop x).h=A.h:=by
    cases x with
    | tmp t=>simp only[AS.drop];split <;> rfl
    | _=>rfl
   refine⟨fun q=>?_,fun k=>by rw[ih.2 k];simp only[jw,hh]⟩
   rw[ih.1 q,oo,oo]
   cases x with
   | tmp t=>
     cases ho:(A.get t).cZ with
     | true=>
       have ed:A.drop (.tmp t)=A.put (some t) .a8:=by simp[AS.drop,ho]
       have eo:eX A (.tmp t::xs)=t::eX (A.drop (.tmp t)) xs:=by simp only[eX,ho]
       simp only[eo,ed,List.mem_cons]
       by_cases c:q=t
       subst c
       simp only[true_or,if_true]
       split
       rfl
       rw[AS.aA,if_pos rfl]
       by_cases c2:q∈eX (A.put (some t) .a8) xs
       rw[if_pos c2,if_pos (.inr c2)]
       rw[if_neg c2,if_neg (by simp[c,c2]),AS.aA,if_neg c]
     | false=>
       have ed:A.drop (.tmp t)=A:=by simp[AS.drop,ho]
       have eo:eX A (.tmp t::xs)=eX (A.drop (.tmp t)) xs:=by simp only[eX,ho]
       simp only[eo,ed]
   | _=>rfl
theorem CN{x:Operand}(h:∀ t,x=.tmp t->A'.get t=A.get t){q:Nat}(hq:A'.get q=A.get q):(A'.drop x).get q=(A.drop x).get q:=by
 cases x with
 | tmp t=>
   simp only[AS.drop,h t rfl]
   split
   rw[AS.aA,AS.aA];split
   rfl
   exact hq
   exact hq
 | _=>exact hq
theorem tz:∀ (xs:List Operand) {A A':AS},(∀ t,Operand.tmp t∈xs->A'.get t=A.get t)->(A'.tk xs).1=(A.tk xs).1/\eX A' xs=eX A xs
 | [],A,A',_=>⟨rfl,rfl⟩
 | x::xs,A,A',h=>by
   have hx:∀ t,x=.tmp t->A'.get t=A.get t:=fun t e=>h t (by simp[e])
   have ih:=tz xs (A:=A.drop x) (A':=A'.drop x) fun t ht=>CN hx (h t (by simp[ht]))
   refine⟨?_,?_⟩
   show U1 (A'.ev x)::((A'.drop x).tk xs).1=U1 (A.ev x)::((A.drop x).tk xs).1
   rw[ih.1,bu (x:=x) hx]
   cases x with
   | tmp t=>simp only[eX,hx t rfl,ih.2]
   | _=>simp only[eX];exact ih.2
theorem Hq{ks:List (Nat×Nat)}{H:List (Nat×(Nat×V))}{t:Nat}:(A.back ks H).get t=A.get t:=rfl
theorem Ba{ks:List (Nat×Nat)}{H:List (Nat×(Nat×V))}{k:Nat}(hn:Nb (ks.map (·.2))=true)(hk:k ∉ ks.map (·.2)):lk k (A.back ks H).h=lk k A.h:=by
 have hs:lk k (Om ks)=none:=mz (by simpa[Om,List.map_map,Function.comp_def] using hk)
 simp only[AS.back]
 rw[ld,oP hn,hs]
 simp only[Option.bind_none]
 rw[ij,hs];rfl
theorem pS{ks:List (Nat×Nat)}{H:List (Nat×(Nat×V))}(h:∀ k,lk k A.h=lk k B.h)(k:Nat):lk k (A.back ks H).h=lk k (B.back ks H).h:=by
 simp only[AS.back]
 rw[ld,ld,ij,ij,h]
theorem Lf{ks:List (Nat×Nat)}{k q:Nat}(h:lk k ks=some q):q∈ks.map (·.2):=List.mem_map.2 ⟨_,vb h,rfl⟩
theorem ma{ks:List (Nat×Nat)}(h:∀ k,k∈ks.map (·.2)->lk k B.h=lk k A.h):∀ {H:List (Nat×(Nat×V))},ln A ks H->ln B ks H
 | [],_=>trivial
 | (k,(g,v))::H,hr=>by
   refine⟨?_,ma h hr.2⟩
   have:=hr.1
   split at this
   rename_i q e
   rw[h q (Lf e)];exact this
   exact this.elim
theorem iF{d:Option Nat}{ts:List Nat}{ks:List (Nat×Nat)}{r:V}{H:List (Nat×(Nat×V))}{t:Nat}:(jA d ts ks r H A).get t=if d=some t then r else if t∈ts then .a8 else A.get t:=by
 unfold jA
 cases d with
 | none=>rw[if_neg Z8];exact oo
 | some d=>
   rw[AS.aA,Hq,oo]
   by_cases e:t=d
   subst e;rw[if_pos rfl,if_pos rfl]
   have e2: ¬ (some d=some t):=fun c=>e (by simpa using c.symm)
   rw[if_neg e,if_neg e2]
theorem jD{d:Option Nat}{ts:List Nat}{ks:List (Nat×Nat)}{r:V}{H:List (Nat×(Nat×V))}:(jA d ts ks r H A).h=(A.back ks H).h:=by
 unfold jA;rw[nU];rfl
theorem zG{G:Type} {d:Option Nat} {ts:List Nat} {ks:List (Nat×Nat)} {r:G->V} {H:G->List (Nat×(Nat×V))} {fs Sl Hl:List Nat} (hn:Nb (ks.map (·.2))=true)
 (h1:sub ts Sl=true) (h2:sub d.toList Sl=true) (h3:sub (ks.map (·.2)) Hl=true):Rz (fun g B=>jA d ts ks (r g) (H g) B) fs Sl Hl:=by
 have sb:∀ {a b:List Nat},sub a b=true->∀ x,x∈a->x∈b:=fun h x hx=>by
  unfold sub at h;rw[Y6]at h;simpa using h x hx
 have h1:=sb h1;have h2:=sb h2;have h3:=sb h3
 refine⟨fun g B t ht=>?_,fun g B k hk=>?_,fun g B B' hB=>⟨fun t=>?_,fun k=>?_⟩,fun g B t v ht _=>⟨fun q=>?_,fun k=>?_⟩,fun g B k gv hk=>⟨fun t=>?_,fun x=>?_⟩⟩
 rw[iF,if_neg (fun c=>ht (h2 t (by rw[c];simp))),if_neg (fun c=>ht (h1 t c))]
 rw[jD];exact Ba hn (fun c=>hk (h3 k c))
 rw[iF,iF,hB.1 t]
 rw[jD,jD];exact pS hB.2 k
 rw[iF,AS.aA,AS.aA,iF]
 by_cases c:q=t
 subst c;rw[if_pos rfl,if_pos rfl,if_neg (fun c=>ht (h2 q (by rw[c];simp))),if_neg (fun c=>ht (h1 q c))]
 rw[if_neg c,if_neg c]
 rw[jD];show _=lk k (jA d ts ks (r g) (H g) B).h;rw[jD];rfl
 show (jA d ts ks (r g) (H g) _).get t=(jA d ts ks (r g) (H g) B).get t
 rw[iF,iF];rfl
 rw[jD,jD]
 have hs:lk k (Om ks)=none:=mz (by simpa[Om,List.map_map,Function.comp_def] using fun c=>hk (h3 k c))
 simp only[AS.back]
 rw[ld,ij]
 simp only[lk]
 by_cases c:x=k
 subst c
 rw[if_pos rfl,if_pos rfl,oP hn,hs];rfl
 rw[if_neg c,if_neg c,ld,ij]
theorem rS{i:Nat}{o:Oper}{t:Nat}(ho:ops[i]? =some o)(h:Operand.tmp t∈o.op.operands.toList):t∈fK ops tb i:=by
 unfold fK;rw[ho,Y1];exact .inl (eC h)
theorem uY{i:Nat}{o:Oper}{t:Nat}(ho:ops[i]? =some o)(h:t∈o.looksAt ops):t∈fK ops tb i:=by
 unfold fK;rw[ho,Y1];exact .inl h
theorem CY{i:Nat}{t:Nat}(h:t∈(bq ops tb i).El):t∈fK ops tb i:=by
 unfold fK;rw[Y1];exact .inr h
theorem yE{i:Nat} {d:Option Nat} {fx:Operand} {xs:Array Operand} {K5:Array TypeId} {ty:TypeId} {pos:String} {after:Array Edge} {f:FuncId} {first x6:Array Value} {args:List V} {H:List (Nat×(Nat×V))} {ks:List (Nat×Nat)}
 {G:Type} {res:G->V} {H':G->List (Nat×(Nat×V))}
 (ho:ops[i]? =some ⟨d,.call ⟨.value fx,xs,K5⟩,ty,pos,after,none⟩) (Xs:A.ev fx=.lit (.func (.func f) first x6)) (hd:cF N d) (P9:Nb (ks.map (·.1))=true) (MT:Nb (ks.map (·.2))=true)
 (hc:PF P f args H (fun r h=> ∃ g,r=res g/\h=H' g)) (hargs:No (first.toList.map cV++(A.tk xs.toList).1++x6.toList.map cV) args=args) (hlen:args.length=(first.toList.map cV++(A.tk xs.toList).1++x6.toList.map cV).length)
 (hr:ln A ks H) {fl:List Nat} (hfl:CG (ks.map (·.2)) fl=true):UU P N ⟨d,.call ⟨.value fx,xs,K5⟩,ty,pos,after,none⟩ A (fun g B=>jA d (eX A xs.toList) ks ((res g).On (ke ks)) (H' g) B) (fK ops tb i) (some fl):=by
 refine⟨rfl,fun A' h1 h2=>?_⟩
 have T5:A'.ev fx=A.ev fx:=bu fun t ht=>h1 t (rS ho (by subst ht;simp[Op.operands,Call.operands]))
 obtain⟨t1,t2⟩:=tz xs.toList (A:=A) (A':=A') fun t ht=>h1 t (rS ho (by simp only[Op.operands,Call.operands];simp;right;simpa using ht))
 have SV:=tY xs.toList (A:=A')
 refine nR (A:=A') ks rfl (by rw[T5];exact Xs) hd P9 MT hc (by rw[t1];exact hargs) (by rw[t1];exact hlen) (ma (fun k hk=>(SV.2 k).trans (Iu hfl h2 k hk)) hr) ?_
 rintro r H0 ⟨g,rfl,rfl⟩
 refine⟨g,?_⟩
 unfold jA
 rw[<- t2]
 exact KH ⟨fun t=>SV.1 t,fun k=>pS SV.2 k⟩
theorem vi{El:List Nat} {fr:Option (List Nat)} {op:Op} (h:∀ t,Operand.tmp t∈op.operands.toList->A'.get t=A.get t) (hk:Sk A' A fr) (hr:∀ i,i∈El->A'.get i=A.get i)
 (hf:mq El fr A op=true):G6 P A' op=G6 P A op:=by
 cases op with
 | move x=>simp only[G6,OC,CP,kM (x:=x) fun t e=>h t (by simp[Op.operands,e]),bu (x:=x) fun t e=>h t (by simp[Op.operands,e])]
 | pick c a b=>
   have h1:=bu (x:=c) fun t e=>h t (by simp[Op.operands,e])
   have h2:=bu (x:=a) fun t e=>h t (by simp[Op.operands,e])
   have h3:=bu (x:=b) fun t e=>h t (by simp[Op.operands,e])
   simp only[G6,OC,BZ,h1,h2,h3]
 | binOp op T x y T'=>simp only[G6,OC,bu (x:=x) fun t e=>h t (by simp[Op.operands,e]),bu (x:=y) fun t e=>h t (by simp[Op.operands,e])]
 | unOp op T x=>simp only[G6,OC,bu (x:=x) fun t e=>h t (by simp[Op.operands,e])]
 | convert s d x=>simp only[G6,OC,bu (x:=x) fun t e=>h t (by simp[Op.operands,e])]
 | index T x y=>simp only[G6,OC,bu (x:=x) fun t e=>h t (by simp[Op.operands,e]),bu (x:=y) fun t e=>h t (by simp[Op.operands,e])]
 | slice T x lo hi m=>
   have h1:=bu (x:=x) fun t e=>h t (by simp[Op.operands,e])
   have h2:=uH (x:=lo) fun t e=>h t (by simp[Op.operands,e])
   have h3:=uH (x:=hi) fun t e=>h t (by simp[Op.operands,e])
   cases m with
   | none=>simp only[G6,h1,h2,h3]
   | some m=>rfl
 | extract x i=>simp only[G6,OC,bu (x:=x) fun t e=>h t (by simp[Op.operands,e])]
 | call c=>
   simp only[G6,OC,vC]
   split
   split
   rename_i x T hx _
   rw[bu (x:=x) fun t e=>h t (by simp[Op.operands,Call.operands,hx,e])]
   rfl
   split
   rename_i x y hx
   rw[bu (x:=x) fun t e=>h t (by simp[Op.operands,Call.operands,hx,e]),bu (x:=y) fun t e=>h t (by simp[Op.operands,Call.operands,hx,e])]
   rfl
   rfl
 | fieldAddr T x j=>simp only[G6,bu (x:=x) fun t e=>h t (by simp[Op.operands,e])]
 | field T x j=>simp only[G6,kM (x:=x) fun t e=>h t (by simp[Op.operands,e])]
 | indexAddr T x y=>simp only[G6,bu (x:=x) fun t e=>h t (by simp[Op.operands,e]),bu (x:=y) fun t e=>h t (by simp[Op.operands,e])]
 | load T x=>
   have h1:=bu (x:=x) fun t e=>h t (by simp[Op.operands,e])
   simp only[G6,h1,kv]
   split
   split
   rename_i r p g o e
   cases r with
   | key k=>
     have:lk k A'.h=lk k A.h\/∃ i,p=[i]/\i<100/\MP A'.h (100*k+i)=MP A.h (100*k+i)/\(MP A.h (100*k+i)).isSome=true:=by
      cases fr with
      | none=>exact .inl (hk k)
      | some l=>
        simp only[mq,e,Bool.or_eq_true,YS]at hf
        rcases hf with ⟨c1,c2⟩ | hf
        have h3:=hk k (by simpa using c2)
        unfold Qc at h3
        rw[if_pos c1]at h3
        exact .inl h3
        unfold Yu at hf
        split at hf
        rename_i i
        simp only[YS]at hf
        refine .inr ⟨i,rfl,by simpa[Nat.blt_eq] using hf.1.1,?_,hf.2⟩
        have h3:=hk _ (by simpa using hf.1.2)
        unfold Qc at h3
        rw[if_neg (by simp[Nat.blt_eq]),Nat.add_sub_cancel_left]at h3
        exact h3
        cases hf
     rcases this with e2 | ⟨i,rfl,c1,c2,c3⟩
     simp only[AS.at,e2]
     have:=IM (T:=by assumption) (g:=g) (o:=o) c2 c1 c3
     simpa only[kv] using this
   | slot i=>
     have:A'.at (.slot i) p=A.at (.slot i) p:=by
      unfold AS.at
      simp only[mq,e,Zm,Zo]at hf
      simp only[hr i hf]
     rw[this]
   rfl
   rfl
   rfl
 | nilCheck x=>simp only[G6,bu (x:=x) fun t e=>h t (by simp[Op.operands,e])]
 | makeInterface T x=>simp only[G6,kM (x:=x) fun t e=>h t (by simp[Op.operands,e])]
 | typeAssert x xT T b=>
   cases b with
   | true=>simp only[G6,bu (x:=x) fun t e=>h t (by simp[Op.operands,e])]
   | false=>rfl
 | makeFunc fn p q=>
   have e1:p.toList.map A'.ev=p.toList.map A.ev:=List.map_congr_left fun x hx=>bu fun t e=>h t (by subst e;simp only[Op.operands,Array.toList_append,Y1];exact .inl hx)
   have e2:q.toList.map A'.ev=q.toList.map A.ev:=List.map_congr_left fun x hx=>bu fun t e=>h t (by subst e;simp only[Op.operands,Array.toList_append,Y1];exact .inr hx)
   simp only[G6,e1,e2]
 | _=>rfl
theorem kL{i:Nat}{o:Oper}{v:V}{fr:Option (List Nat)}(ho:ops[i]? =some o)(h:oj P N ops o A v):Sn P N ops o A v (fK ops tb i) fr:=fun A' h1 _=>h A' fun t ht=>h1 t (uY ho ht)
theorem AH{i:Nat}{o:Oper}{C:Prop}{v:V}{fr:Option (List Nat)}(ho:ops[i]? =some o)(hg:o.guard=none)(h:G6 P A o.op=some (C,v))(hC:C)(hd:cF N o.dst)(hf:mq (bq ops tb i).El fr A o.op=true):Sn P N ops o A v (fK ops tb i) fr:=by
 intro A' h1 hk
 unfold gd
 rw[hg]
 simp only
 refine wK (C:=C) (v:=v) ?_ hC hd ⟨fun _=>rfl,fun _=>rfl⟩
 rw[vi (A:=A) (fun t ht=>h1 t (rS ho ht)) hk (fun i hi=>h1 i (CY hi)) hf]
 exact h
theorem Eo{i:Nat} {o:Oper} {xs:List Operand} {j:Nat} {b G:Bool} {C:Prop} {B:AS} {v:V} {fr:Option (List Nat)} (ho:ops[i]? =some o) (hg:o.guard=some (j,b)) (hG:NN A ops j b=some G) (hu:AS.un G xs A=(C,B))
 (RZ:∀ t,Operand.tmp t∈xs->Operand.tmp t∈o.op.operands.toList) (Nh:PE N xs=true) (hd:cF N o.dst) (hf:mq (bq ops tb i).El fr B o.op=true) (hC:G=true->C/\v.gI=false/\∃ C',G6 P B o.op=some (C',v)/\C'):Sn P N ops o A (.gv G v) (fK ops tb i) fr:=by
 intro A' h1 hk
 have Uc:NN A' ops j b=some G:=by
  rw[<- hG]
  unfold NN
  cases hj:(ops[j]?).bind (·.dst) with
  | none=>rfl
  | some d=>
    simp only[Option.map_some]
    rw[h1 d (uY ho (by unfold Oper.looksAt;rw[Y1];right;rw[hg];simp[hj]))]
 obtain⟨B',k1,k2,k3,k4⟩:=jF xs (A':=A') hu (fun t ht=>h1 t (rS ho (RZ t ht)))
 have K8:G6 P B' o.op=G6 P B o.op:=by
  refine vi (A:=B) (fun t ht=>k2 t (h1 t (rS ho ht))) ?_ (fun i hi=>k2 i (h1 i (CY hi))) hf
  cases fr with
  | none=>exact fun k=>by rw[k3,k4];exact hk k
  | some l=>exact fun k hl=>(ud (A:=A') (fun k=>by rw[k3]) k).trans ((hk k hl).trans (ud (fun k=>by rw[k4]) k))
 refine pX hg Uc (fun M4=>?_) (fun S6=>⟨hd,fun _ _=>⟨rfl,(fun h=>by rw[S6]at h;cases h),fun _=>rfl⟩⟩)
 obtain⟨c1,c3,C',y8,c2⟩:=hC M4
 rw[<- K8]at y8
 refine iR (v:=.gv G v) hd ⟨fun _=>rfl,fun _=>rfl⟩ fun Pb Kb a w F hs=>?_
 obtain⟨F',y9⟩:=jG M4 _ k1 c1 hs (pg Nh)
 obtain⟨x,hx,hr⟩:=wB y8 c2 y9 rfl
 exact⟨x,hx,rfl,fun _=>yC hr c3,fun h=>by rw[M4]at h;cases h⟩
theorem EO{i:Nat} {d:Option Nat} {f:FuncId} {xs:Array Operand} {K5:Array TypeId} {ty:TypeId} {pos:String} {after:Array Edge}
 {j:Nat} {b G:Bool} {C:Prop} {B:AS} {E:V} {fr:Option (List Nat)} (ho:ops[i]? =some ⟨d,.call ⟨.value (.func f),xs,K5⟩,ty,pos,after,some (j,b)⟩) (hd:cF N d) (hG:NN A ops j b=some G) (hu:AS.un G xs.toList A=(C,B)) (Nh:PE N xs.toList=true)
 (hc:G=true->C/\PC P f (xs.toList.map B.cp) (fun r=>r.er=E)/\E.gI=false/\E.cZ=false):Sn P N ops ⟨d,.call ⟨.value (.func f),xs,K5⟩,ty,pos,after,some (j,b)⟩ A (.gv G E) (fK ops tb i) fr:=by
 intro A' h1 hk
 have Uc:NN A' ops j b=some G:=by
  rw[<- hG]
  unfold NN
  cases hj:(ops[j]?).bind (·.dst) with
  | none=>rfl
  | some d=>
    simp only[Option.map_some]
    rw[h1 d (uY ho (by unfold Oper.looksAt;rw[Y1];right;simp[hj]))]
 have hx:∀ t,Operand.tmp t∈xs.toList->A'.get t=A.get t:=fun t ht=>h1 t (rS ho (by simp[Op.operands,Call.operands];simpa using ht))
 obtain⟨B',k1,k2,k3,k4⟩:=jF xs.toList (A':=A') hu hx
 refine pX (j:=j) (b:=b) rfl Uc (fun M4=>?_) (fun S6=>⟨hd,fun _ _=>⟨rfl,(fun h=>by rw[S6]at h;cases h),fun _=>rfl⟩⟩)
 obtain⟨c1,c2,c3,c4⟩:=hc M4
 rw[<- qL (A':=B') (A:=B) fun t ht=>k2 t (hx t ht)]at c2
 intro Pb Kb a w F Q' hs
 obtain⟨F',y9⟩:=jG M4 _ k1 c1 hs (pg Nh)
 have hw:=nk M4 _ k1 c1
 have J4:=oD (N:=N) (o:=⟨d,.call { callee:=.value (.func f),args:=xs,argTypes:=K5 },ty,pos,after,some (j,b)⟩) (K:=fun A1=>A1=B'.put d E) (A:=B') rfl hd c2 (fun _ h=>h) rfl
 refine Oper.wp_mono ?_ (J4 Pb Kb a w F' Q' y9)
 rintro a' w' ⟨A1,Pb',D3,F2,rfl,K1,q3,q4,q5,q6⟩
 refine⟨A'.put d (.gv G E),Pb',D3,F2,⟨fun _=>rfl,fun _=>rfl⟩,K1.wrap ?_,q3,q4,q5,q6⟩
 cases d with
 | none=>exact hw
 | some d=>
   refine⟨fun i=>?_,hw.2⟩
   rw[AS.aA,AS.aA]
   by_cases e:i=d
   rw[if_pos e,if_pos e];exact .inr ⟨G,rfl,M4,c4,c3⟩
   rw[if_neg e,if_neg e];exact hw.1 i
theorem gF{i:Nat}{o:Oper}{l:List Nat}{v:V}{K:AS->Prop}(ho:ops[i]? =some o)(hv:wj ops tb zs i o=true)(h:Sn P N ops o A v (fK ops tb i) (bq ops tb i).fr)(hK:M9 P N ops tb zs l (A.put o.dst v) K):M9 P N ops tb zs (i::l) A K:=by
 unfold wj at hv
 simp only[YS,Bool.not_eq_true',Zp]at hv
 refine⟨o,ho,?_⟩
 rw[show lk i zs=none from by simpa using hv.1.1.1]
 simp only
 rw[hv.1.1.2]
 exact⟨hv.1.2,hv.2,v,h,hK⟩
theorem py{K:AS->Prop}:∀ (n:Nat) {l:List Nat} (x4:List V) {A:AS} (C:Prop) (A':AS),
 nL P N ops tb zs n l x4 A=some (C,A')->C->M9 P N ops tb zs (l.drop n) A' K->M9 P N ops tb zs l A K
 | 0,l,x4,A,C,A',h,hC,hK=>by
   simp only[nL,YR,YU]at h;obtain⟨_,rfl⟩:=h;simpa using hK
 | n+1,[],x4,A,C,A',h,hC,hK=>by
   simp only[nL,YR,YU]at h;obtain⟨_,rfl⟩:=h;simpa using hK
 | n+1,i::l,x4,A,C,A',h,hC,hK=>by
   have Pj:(i::l).drop (n+1)=l.drop n:=rfl
   rw[Pj]at hK
   unfold nL at h
   split at h
   simp at h
   rename_i o ho
   split at h
   simp at h
   rename_i H4
   split at h
   simp at h
   rename_i d hd
   split at h
   case isFalse=>simp at h
   rename_i R9
   have Od:cF N o.dst:=by rw[hd];exact R9
   cases hg:o.guard with
   | some jb=>
     obtain⟨j,b⟩:=jb
     rw[hg]at h
     simp only at h
     split at h
     case h_2=>simp at h
     rename_i G hG
     cases hu:AS.un G (iu o.op) A with
     | mk C0 B=>
       rw[hu]at h
       simp only at h
       split at h
       case h_2=>simp at h
       rename_i C1 v OW y8
       split at h
       case isFalse=>simp at h
       rename_i Nh
       simp only[YS,Bool.not_eq_true']at Nh
       split at h
       case h_2=>simp at h
       rename_i C2 A2 hr
       simp only[YR,YU]at h
       obtain⟨rfl,rfl⟩:=h
       exact gF ho H4 (Eo (v:=v) ho hg hG hu (Dq _) Nh.1.1 Od Nh.2 (fun M4=>⟨(hC.1 M4).1,Nh.1.2,rY y8 (hC.1 M4).2⟩)) (by rw[hd];exact py n OW C2 A2 hr hC.2 hK)
   | none=>
     rw[hg]at h
     simp only at h
     split at h
     · rename_i x L4
       split at h
       case isFalse=>simp at h
       rename_i I6
       exact gF ho H4 (kL ho (yZ hg L4 Od I6)) (by rw[hd];exact py n x4 C A' h hC hK)
     · split at h
       case isFalse=>simp at h
       rename_i V9
       split at h
       case h_2=>simp at h
       rename_i C1 v OW y8
       split at h
       case h_2=>simp at h
       rename_i C2 A2 hr
       split at h
       rename_i ht
       simp only[YR,YU]at h
       obtain⟨rfl,rfl⟩:=h
       obtain⟨C',h1,h2⟩:=rY y8 (mJ ht y8)
       exact gF ho H4 (AH ho hg h1 h2 Od V9) (by rw[hd];exact py n OW C2 A2 hr hC hK)
       simp only[YR,YU]at h
       obtain⟨rfl,rfl⟩:=h
       obtain⟨C',h1,h2⟩:=rY y8 hC.1
       exact gF ho H4 (AH ho hg h1 h2 Od V9) (by rw[hd];exact py n OW C2 A2 hr hC.2 hK)
theorem sk{i:Nat} {o:Oper} {l:List Nat} {K:AS->Prop} {G:Type} {U:G->AS->AS} (ho:ops[i]? =some o) (hz:lk i zs=none) (he:(bq ops tb i).VU=true) (h1:UU P N o A U (fK ops tb i) (bq ops tb i).fr)
 (h2:Ug U (fK ops tb i) (bq ops tb i).Sl (bq ops tb i).Hl) (hK:∀ g,M9 P N ops tb zs l (U g A) K):M9 P N ops tb zs (i::l) A K:=by
 refine⟨o,ho,?_⟩
 rw[hz]
 simp only
 rw[he]
 exact⟨G,U,h1,h2,hK⟩
theorem zF{d:Option Nat}{x y:Operand}{K5:Array TypeId}{ty:TypeId}{pos:String}{after:Array Edge}{kd:IntKind}{p q r:Int}{b:Builtin}(hd:cF N d)(hx:A.ev x=.lit (.int kd p))(hy:A.ev y=.lit (.int kd q))(hb:(b=.max/\r=max p q)\/(b=.min/\r=min p q)):
 oj P N ops ⟨d,.call ⟨.builtin b,⟨[x,y]⟩,K5⟩,ty,pos,after,none⟩ A (.lit (.int kd r)):=fun A' h1=>by
 show E2 P N _ A' _
 have e1:A'.ev x=A.ev x:=bu fun t ht=>h1 t (eC (by subst ht;simp[Op.operands,Call.operands]))
 have e2:A'.ev y=A.ev y:=bu fun t ht=>h1 t (eC (by subst ht;simp[Op.operands,Call.operands]))
 exact zk rfl hd (by rw[e1];exact hx) (by rw[e2];exact hy) hb ⟨fun _=>rfl,fun _=>rfl⟩
theorem Kg:∀ (s:Sc P) {l:List Nat} {A:AS} {K:AS->Sc P->Prop},MU N ops tb zs s l A K->M9 P N ops tb zs l A fun B=> ∃ B',D0 B B'/\∃ s',K B' s':=by
 intro s
 have cl:∀ {K:AS->Sc P->Prop} (A B:AS),D0 A B->(∃ B',D0 A B'/\∃ s',K B' s')->∃ B',D0 B B'/\∃ s',K B' s':=fun A B h ⟨B',h1,h2⟩=>⟨B',h.symm.trans h1,h2⟩
 induction s with
 | r n x4 k ih=>
   intro l A K h
   cases l with
   | nil=>exact⟨_,D0.jE,_,h⟩
   | cons i l=>
     simp only[MU]at h
     split at h
     rename_i C A' e
     obtain⟨h1,h2⟩:=mT.1 h
     obtain⟨C1,e1,e2⟩:=pK n e h1
     exact py n x4 C1 A' e1 e2 (ih h2)
     exact h.elim
 | h x k ih=>
   intro l A K h
   cases l with
   | nil=>exact⟨_,D0.jE,_,h⟩
   | cons i l=>
     simp only[MU]at h
     split at h
     rename_i t v
     refine eI cl _ ?_ (ih h.2)
     refine⟨fun q=>?_,fun _=>rfl⟩
     rw[AS.aA];split
     rename_i e;subst e;exact h.1.symm
     rfl
     rename_i q v
     split at h
     rename_i g u e
     obtain⟨rfl,h⟩:=h
     refine eI cl _ ?_ (ih h)
     refine⟨fun _=>rfl,fun k=>?_⟩
     simp only[lk];split
     rename_i e2;subst e2;exact e.symm
     rfl
     exact h.elim
     exact h.elim
 | ux z k ih=>
   intro l A K h
   cases l with
   | nil=>exact⟨_,D0.jE,_,h⟩
   | cons i l=>
     simp only[MU]at h
     split at h
     exact h.elim
     exact h.elim
     rename_i o ho hz
     split at h
     exact h.elim
     rename_i hg
     split at h
     split at h <;> exact h.elim
     rename_i he
     split at h
     rename_i C U e1 e2 e3
     obtain⟨d,hd⟩:∃ d,o.dst=some d:=by
      unfold Cg at e1
      split at e1 <;> first | exact⟨_,by assumption⟩ | simp at e1
     obtain⟨hU,hE⟩:=Jc (ops:=ops) e1 h.1 d hd
     refine sk ho hz he ⟨hg,fun A' h1 h2=>?_⟩ ⟨⟨hU.g,hU.h,hU.c,fun g B t v ht _=>hU.p g B t v ht,hU.q⟩,fun q hq=>absurd (uG e3 hq) List.not_mem_nil⟩ fun g=>ih _ _ _ (h.2 g.1 g.2.1 g.2.2)
     rw[e2]at h2
     exact hE A' (fun t ht=>by
      rcases ht with ht | ht
      exact h1 t (uY ho ht)
      exact h1 t (CY ht)) h2 _ fun g=>⟨g,⟨fun _=>rfl,fun _=>rfl⟩⟩
     exact h.elim
 | eu c k ih=>
   intro l A K h
   cases l with
   | nil=>exact⟨_,D0.jE,_,h⟩
   | cons i l=>
     simp only[MU]at h
     split at h
     exact h.elim
     exact h.elim
     rename_i o ho hz
     split at h
     exact h.elim
     rename_i hg
     split at h
     split at h <;> exact h.elim
     rename_i he
     split at h
     rename_i e2 e3
     refine sk ho hz he ⟨hg,fun A' h1 h2=>?_⟩ ⟨c.U0 h.1 _,fun q hq g B=>c.XZ h.1 q (uG e3 hq) g B⟩ fun g=>ih g (h.2 g)
     rw[e2]at h2
     exact Gk (c.ok hg h.1 (fun t ht=>h1 t (uY ho (eC ht))) h2) fun B ⟨x,hB⟩=>⟨x,by subst hB;exact⟨fun _=>rfl,fun _=>rfl⟩⟩
     exact h.elim
 | ua k ih=>
   intro l A K h
   cases l with
   | nil=>exact⟨_,D0.jE,_,h⟩
   | cons i l=>
     simp only[MU]at h
     split at h
     rename_i o z ho hz
     refine⟨o,ho,?_⟩
     rw[hz]
     exact fun g=>ih g (h g)
     exact h.elim
 | c c ks k ih=>
   intro l A K h
   cases l with
   | nil=>exact⟨_,D0.jE,_,h⟩
   | cons i l=>
     simp only[MU]at h
     split at h
     exact h.elim
     exact h.elim
     rename_i o ho hz
     obtain⟨dst,op,ty,pos,after,D2⟩:=o
     split at h
     exact h.elim
     rename_i hg
     simp only at hg;subst hg
     split at h
     split at h
     rename_i hv
     split at h
     rename_i heq
     simp only at heq;subst heq
     split at h
     rename_i e3 e4
     rw[YS,Zp]at e3
     obtain⟨rfl,e3⟩:=e3
     exact gF ho hv (kL ho (Jz c (ef e3) e4 h.1 h.2.1)) (ih h.2.2)
     exact h.elim
     exact h.elim
     exact h.elim
     rename_i he
     split at h
     rename_i fx xs K5 heq
     simp only at heq;subst heq
     split at h
     rename_i f first x6 vs B fl e1 e2 e3
     split at h
     rename_i e4
     simp only[YS,Zp]at e4
     obtain⟨⟨⟨⟨⟨⟨⟨⟨⟨rfl,q1⟩,q2⟩,q3⟩,q4⟩,q5⟩,q6⟩,q7⟩,q8⟩,q9⟩:=e4
     have htk:(A.tk xs.toList).1=vs:=by rw[e2]
     replace h:=And.intro h.1 (ji h.2)
     have VJ:=yE (P:=P) (N:=N) (A:=A) (tb:=tb) (i:=i) (G:=Unit) (res:=fun _=>c.res) (H':=fun _=>c.H') (ks:=ks) (H:=c.H) (args:=c.args) ho e1 (ef q1) q2 q3
      ((c.ok h.2.2.1).mono fun r H ⟨a,b⟩=>⟨(),a,b⟩) (by rw[htk];exact h.1) (by rw[htk];exact q4) h.2.1 q8
     rw[<- e3]at VJ
     exact sk ho hz he VJ ⟨zG q3 q5 q6 q7,fun q hq=>absurd (uG q9 hq) List.not_mem_nil⟩ fun _=>ih h.2.2.2
     exact h.elim
     exact h.elim
     exact h.elim
 | cx c ks k ih=>
   intro l A K h
   cases l with
   | nil=>exact⟨_,D0.jE,_,h⟩
   | cons i l=>
     simp only[MU]at h
     split at h
     exact h.elim
     exact h.elim
     rename_i o ho hz
     obtain⟨dst,op,ty,pos,after,D2⟩:=o
     split at h
     exact h.elim
     rename_i hg
     simp only at hg;subst hg
     split at h
     split at h <;> exact h.elim
     rename_i he
     split at h
     rename_i fx xs K5 heq
     simp only at heq;subst heq
     split at h
     rename_i f first x6 vs B fl e1 e2 e3
     split at h
     rename_i e4
     simp only[YS,Zp]at e4
     obtain⟨⟨⟨⟨⟨⟨⟨⟨⟨rfl,q1⟩,q2⟩,q3⟩,q4⟩,q5⟩,q6⟩,q7⟩,q8⟩,q9⟩:=e4
     have htk:(A.tk xs.toList).1=vs:=by rw[e2]
     replace h:=And.intro h.1 (ji h.2)
     have VJ:=yE (P:=P) (N:=N) (A:=A) (tb:=tb) (i:=i) (G:={ x:c.X // c.post x }) (res:=fun x=>c.res x.1) (H':=fun x=>c.H' x.1) (ks:=ks) (H:=c.H) (args:=c.args) ho e1 (ef q1) q2 q3
      ((c.ok h.2.2.1).mono fun r H ⟨x,hx,a,b⟩=>⟨⟨x,hx⟩,a,b⟩) (by rw[htk];exact h.1) (by rw[htk];exact q4) h.2.1 q8
     rw[<- e3]at VJ
     exact sk ho hz he VJ ⟨zG q3 q5 q6 q7,fun q hq=>absurd (uG q9 hq) List.not_mem_nil⟩ fun x=>ih _ (h.2.2.2 x.1 x.2)
     exact h.elim
     exact h.elim
     exact h.elim
 | bd z k ih=>
   intro l A K h
   cases l with
   | nil=>exact⟨_,D0.jE,_,h⟩
   | cons i l=>
     simp only[MU]at h
     split at h
     exact h.elim
     exact h.elim
     rename_i o ho hz
     obtain⟨dst,op,ty,pos,after,D2⟩:=o
     split at h
     exact h.elim
     rename_i hg
     simp only at hg;subst hg
     split at h
     split at h
     rename_i hv
     split at h
     rename_i heq
     simp only at heq;subst heq
     split at h
     rename_i us e3 e4
     split at h
     rename_i v e5
     rw[YS,Zp]at e3
     obtain⟨rfl,e3⟩:=e3
     have hz:=z.ok
     rw[e4]at hz
     exact gF ho hv (kL ho (Ag us v hz (ef e3) e5)) (ih h)
     exact h.elim
     exact h.elim
     exact h.elim
     exact h.elim
     exact h.elim
 | bs k ih=>
   intro l A K h
   cases l with
   | nil=>exact⟨_,D0.jE,_,h⟩
   | cons i l=>
     simp only[MU]at h
     split at h
     exact h.elim
     exact h.elim
     rename_i o ho hz
     obtain⟨dst,op,ty,pos,after,D2⟩:=o
     split at h
     exact h.elim
     rename_i hg
     simp only at hg;subst hg
     split at h
     split at h
     rename_i hv
     split at h
     rename_i heq
     simp only at heq;subst heq
     split at h
     rename_i e e3
     split at h
     rename_i t vs e4 e5
     split at h
     rename_i e6
     rw[YS]at e6
     exact gF ho hv (kL ho (tV e t vs ⟨e3,e4⟩ (ef e6.2) e5 e6.1)) (ih h)
     exact h.elim
     exact h.elim
     exact h.elim
     exact h.elim
     exact h.elim
     exact h.elim
 | cg c k ih=>
   intro l A K h
   cases l with
   | nil=>exact⟨_,D0.jE,_,h⟩
   | cons i l=>
     simp only[MU]at h
     split at h
     case h_2=>exact h.elim
     rename_i o ho hz
     obtain⟨dst,op,ty,pos,after,D2⟩:=o
     split at h
     case h_2=>exact h.elim
     rename_i f xs K5 j b hv e1 e2
     simp only at e1 e2;subst e1 e2
     split at h
     case h_2=>exact h.elim
     rename_i G h1 h2 h3
     simp only[YS,Zp,Bool.not_eq_true']at h1
     obtain⟨⟨⟨⟨rfl,h4⟩,h5⟩,h6⟩,h7⟩:=h1
     revert h
     cases hu:Qy G (j,b) [] xs.toList A with | mk C B=>?_
     intro h
     obtain⟨hC,h⟩:=mT.1 h
     obtain⟨C1,u1,u2⟩:=lQ xs.toList (fun t ht=>by simp at ht) hu hC
     refine gF ho hv (EO ho (ef h4) h3 u1 h5 (fun hG=>⟨u2,?_,h6,h7⟩)) (ih h.2)
     obtain⟨Rg,hw⟩:=h.1 hG
     have hc:=c.ok Rg
     rw[h2]at hc
     have hp:=hc.Db
     refine⟨hp.1,fun w Pb cargs k1 k2=>?_⟩
     refine(hp.2 w Pb cargs k1 (by have:=oV _ c.args k2;rw[hw]at this;exact this)).mono ?_
     rintro e w' ⟨r,x,F,Pb',rfl,⟨H,q1,_⟩,rest⟩
     exact⟨r,x,F,Pb',rfl,by rw[q1],rest⟩
 | mm k ih=>
   intro l A K h
   cases l with
   | nil=>exact⟨_,D0.jE,_,h⟩
   | cons i l=>
     simp only[MU]at h
     split at h
     exact h.elim
     exact h.elim
     rename_i o ho hz
     obtain⟨dst,op,ty,pos,after,D2⟩:=o
     split at h
     exact h.elim
     rename_i hg
     simp only at hg;subst hg
     split at h
     split at h
     rename_i hv
     split at h
     rename_i heq
     simp only at heq;subst heq
     split at h
     rename_i kd p Q0 q e1 e2 e3
     obtain⟨rfl,h⟩:=h
     exact gF ho hv (kL ho (zF (ef e3) e1 e2 (.inl ⟨rfl,rfl⟩))) (ih h)
     rename_i kd p Q0 q e1 e2 e3
     obtain⟨rfl,h⟩:=h
     exact gF ho hv (kL ho (zF (ef e3) e1 e2 (.inr ⟨rfl,rfl⟩))) (ih h)
     exact h.elim
     exact h.elim
     exact h.elim
     exact h.elim
 | L1 bs k ih=>
   intro l A K h
   cases l with
   | nil=>exact⟨_,D0.jE,_,h⟩
   | cons i l=>
     simp only[MU]at h
     split at h
     exact h.elim
     exact h.elim
     rename_i o ho hz
     obtain⟨dst,op,ty,pos,after,D2⟩:=o
     split at h
     exact h.elim
     rename_i hg
     simp only at hg;subst hg
     split at h
     split at h
     rename_i hv
     split at h
     rename_i heq
     simp only at heq;subst heq
     split at h
     rename_i fl ys e1 e2
     simp only[YS]at e1
     obtain⟨rfl,h⟩:=h
     obtain⟨e,q1,q2⟩:=wI e1.1.1
     exact gF ho hv (kL ho (vN e fl bs ⟨q1,q2,tw e1.1.2⟩ (ef e1.2) e2)) (ih h)
     exact h.elim
     exact h.elim
     exact h.elim
     exact h.elim
 | _=>
   intro l A K h
   cases l with
   | nil=>exact⟨_,D0.jE,_,h⟩
   | cons i l=>
     simp only[MU]at h
     (repeat' split at h) <;> exact h.elim
theorem ql{K K':AS->Prop}(hK:∀ B,K B->K' B):∀ (l:List Nat) {A:AS},M9 P N ops tb zs l A K->M9 P N ops tb zs l A K'
 | [],A,h=>hK A h
 | i::l,A,h=>by
   obtain⟨o,ho,h⟩:=h
   refine⟨o,ho,?_⟩
   split at h
   exact fun g=>ql hK l (h g)
   split at h
   obtain⟨e1,e2,v,h1,h2⟩:=h;exact⟨e1,e2,v,h1,ql hK l h2⟩
   obtain⟨G,U,h1,h2,h3⟩:=h;exact⟨G,U,h1,h2,fun g=>ql hK l (h3 g)⟩
end
section
variable {P:Program} {N:Nat} {ops:Array Oper} {A:AS}
end
def go{P:Program}(N:Nat):Code->AS->Sc P->(Exit->AS->Sc P->Prop)->Prop
 | .skip,A,s,K=>K .normal A s
 | .label _,A,s,K=>K .normal A s
 | .exit i,A,s,K=>K (.exit i) A s
 | .goto i,A,s,K=>K (.goto i) A s
 | .ret,A,s,K=>OE N s A fun A s=>K .ret A s
 | .seq x y,A,s,K=>go N x A s fun e A s=>match e with
   | .normal=>go N y A s K
   | e=>K e A s
 | .block id c,A,s,K=>go N c A s fun e A s=>match e with
   | .exit j=>match j==id with
     | true=>K .normal A s
     | false=>K (.exit j) A s
   | e=>K e A s
 | .cond c x y,A,s,K=>OE N s A fun A s=>match A.ev c,s with
   | .lit (.bool b),.br s1 s2=>(b=true->go N x A s1 K)/\(b=false->go N y A s2 K)
   | .lit (.bool b),.join X B ok s1 s2 k=>
     (b=true->go N x A s1 fun e A' s'=>match e with
      | .normal=>OE N s' A' fun A' _=> ∃ x,ok x/\Up A' (B x)
      | e=>K e A' s')/\
     (b=false->go N y A s2 fun e A' s'=>match e with
      | .normal=>OE N s' A' fun A' _=> ∃ x,ok x/\Up A' (B x)
      | e=>K e A' s')/\
     ∀ x,ok x->K .normal (B x) (k x)
   | _,_=>False
 | .scope c,A,s,K=>go N c A s fun e A s=>match e with
   | .goto _=>False
   | e=>K e A s
 | .loop c,A,s,K=>OE N s A fun A s=>match s with
   | .loop X inv ok m k=>(∃ x,ok x/\Up A (inv x))/\∀ x,ok x->go N c (inv x) (k x) fun e A' s'=>match e with
     | .normal=>OE N s' A' fun A' _=> ∃ y,ok y/\m y<m x/\Up A' (inv y)
     | e=>K e A' s'
   | _=>False
 | .region _ ops false,A,s,K=>OE N s A fun A s=>C9 N ops [] s ops.toList A fun A s=>K .normal A s
 | .region _ ops true,A,s,K=>OE N s A fun A s=>match s with
   | .dx m pl tb zs k=>match P.follows .mixedOrders&&pP ops m tb zs pl&&Dc ops m pl&&Ch N ops zs with
     | true=>MU N ops tb zs k pl A fun A s=>C9 N ops [] s (ops.toList.drop m) A fun A s=>K .normal A s
     | false=>False
   | _=>False
 | _,_,_,_=>False
section
variable {P:Program} {N:Nat} {ops:Array Oper} {A A' A1 B:AS}
variable {w:World} {Pb Kb:Nat->Prop} {a:Act} {F:l8->List Nat}
theorem Ic{X:Type} {c:Code} {Q:Exit->AS->Prop} (inv:X->AS) (ok:X->Prop) (m:X->Nat) (h0:∃ x,ok x/\QZ A (inv x).t/\Qj A (inv x).h)
 (round:∀ x,ok x->T P N c (inv x) fun e A'=>match e with
  | .normal=>Hx N A' fun A'=> ∃ y,ok y/\m y<m x/\QZ A' (inv y).t/\Qj A' (inv y).h
  | e=>Q e A'):T P N (.loop c) A Q:=by
 obtain⟨x0,SR,l0,r0⟩:=h0
 refine KY (fun n A=> ∃ x,m x=n/\ok x/\QZ A (inv x).t/\Qj A (inv x).h) (m x0) ⟨x0,rfl,SR,l0,r0⟩ ?_
 rintro n A ⟨x,rfl,hx,h1,h2⟩
 refine LD h1 h2 (mD (lY (round x hx) fun e A' hq=>?_))
 cases e with
 | normal=>exact Hx.mono hq fun B ⟨y,k1,k2,k3,k4⟩=>⟨m y,k2,y,rfl,k1,k3,k4⟩
 | _=>exact Hx.of hq
def ngo(Q:Exit->AS->Prop):Exit->AS->Prop
 | .goto _,_=>False
 | e,A=>Q e A
theorem Ij{c:Code}{Q:Exit->AS->Prop}(h:T P N c A (ngo Q)):T P N (.scope c) A Q:=by
 intro Pb Kb a w F hs
 refine wp_scope_straight (wp_mono (h Pb Kb a w F hs) fun e a' w' hn=>?_)
 cases e with
 | goto l=>obtain⟨_,_,_,_,h,_⟩:=hn;exact h
 | _=>exact hn
theorem HL:∀ (c:Code) {A:AS} {s:Sc P} {K:Exit->AS->Sc P->Prop},go N c A s K->T P N c A fun e B=> ∃ s',K e B s':=by
 intro c
 induction c with
 | skip=>intro A s K h;exact Kl ⟨_,h⟩
 | label l=>intro A s K h;exact IX ⟨_,h⟩
 | exit i=>intro A s K h;exact Kk ⟨_,h⟩
 | goto i=>intro A s K h;exact Kf ⟨_,h⟩
 | ret=>intro A s K h;exact oX ((kJ s h).mono fun B hB=>Ma hB)
 | seq x y Ur Uq=>
   intro A s K h
   refine LH (lY (Ur h) fun e B hB=>?_)
   obtain⟨s',hB⟩:=hB
   cases e with
   | normal=>exact Uq hB
   | _=>exact⟨_,hB⟩
 | scope c ih=>
   intro A s K h
   refine Ij (lY (ih h) fun e B hB=>?_)
   obtain⟨s',hB⟩:=hB
   cases e with
   | goto l=>exact hB
   | _=>exact⟨_,hB⟩
 | block id c ih=>
   intro A s K h
   refine Ii (lY (ih h) fun e B hB=>?_)
   obtain⟨s',hB⟩:=hB
   cases e with
   | exit j=>
     simp only[XO]
     simp only at hB
     split at hB
     rename_i e;rw[if_pos (by simpa using e)];exact⟨_,hB⟩
     rename_i e;rw[if_neg (by simpa using e)];exact⟨_,hB⟩
   | _=>exact⟨_,hB⟩
 | cond c x y Ur Uq=>
   intro A s K h
   refine oX ((kJ s h).mono fun B hB=>?_)
   obtain⟨s',hB⟩:=hB
   split at hB
   rename_i e
   exact DW e (fun hb=>Ur (hB.1 hb)) (fun hb=>Uq (hB.2 hb))
   rename_i b X I ok s1 s2 k e
   obtain⟨h1,h2,h3⟩:=hB
   have step:∀ (z:Code) (K':Exit->AS->Sc P->Prop),(∀ A' s',K' .normal A' s'->OE N s' A' fun A' _=> ∃ x,ok x/\Up A' (I x))->(∀ e,e≠.normal->∀ A' s',K' e A' s'->K e A' s')->
    (T P N z B fun e A'=> ∃ s',K' e A' s')->T P N z B fun e A'=> ∃ s',K e A' s':=fun z K' hn ho hz=>by
    refine mD (lY hz fun e A' hq=>?_)
    obtain⟨s',hq⟩:=hq
    by_cases he:e=.normal
    subst he
    refine(kJ s' (hn _ _ hq)).bind fun B' XK=>?_
    obtain⟨_,x,k1,k2⟩:=XK
    exact Hv (sx k2).1 (sx k2).2 ⟨_,h3 x k1⟩
    exact Hx.of ⟨_,ho e he _ _ hq⟩
   refine DW e (fun hb=>step _ _ ?_ ?_ (Ur (h1 hb))) (fun hb=>step _ _ ?_ ?_ (Uq (h2 hb)))
   exact fun _ _ h=>h
   intro e he A' s' h;cases e <;> first | exact h | exact absurd rfl he
   exact fun _ _ h=>h
   intro e he A' s' h;cases e <;> first | exact h | exact absurd rfl he
   exact hB.elim
 | loop c ih=>
   intro A s K h
   refine oX ((kJ s h).mono fun B hB=>?_)
   obtain⟨s',hB⟩:=hB
   split at hB
   rename_i X inv ok m k
   refine Ic inv ok m (by obtain⟨x,a,b⟩:=hB.1;exact⟨x,a,sx b⟩) fun x hx=>lY (ih (hB.2 x hx)) fun e A' hq=>?_
   obtain⟨s',hq⟩:=hq
   cases e with
   | normal=>exact(kJ s' hq).mono fun B ⟨_,y,a,b,c⟩=>⟨y,a,b,sx c⟩
   | _=>exact⟨_,hq⟩
   exact hB.elim
 | region id ops draw=>
   intro A s K h
   cases draw with
   | false=>exact oX ((kJ s h).mono fun B ⟨s',hB⟩=>Hn (Dv s' hB))
   | true=>
     refine oX ((kJ s h).mono fun B hB=>?_)
     obtain⟨s',hB⟩:=hB
     split at hB
     split at hB
     rename_i e
     simp only[YS]at e
     exact wm e.1.1.1 e.1.1.2 e.2 e.1.2 (ql (fun B ⟨B',hA,s',hB⟩=>⟨B',hA,Dv s' hB⟩) _ (Kg _ hB))
     exact hB.elim
     exact hB.elim
 | _=>intro A s K h;exact h.elim
def pE(H:List (Nat×(Nat×V)))(xs:List l8):Bool:=xs.all fun r=>match r with
 | .key k=>(lk k H).isNone
 | .slot _=>true
def vV(rs:List ResultVar)(Q:V->AS->Prop)(H:List (Nat×(Nat×V)))(A:AS):Prop:=match zE A rs with
    | some (C,xs)=>match kB P rs xs&&nodupB (xs.map (·.1))&&pE H (xs.map (·.1)) with
      | true=>cj C (Q (one (xs.map (·.2))) A)
      | false=>False
    | none=>False
def GP(N:Nat)(rs:List ResultVar)(Q:V->AS->Prop)(H:List (Nat×(Nat×V))):Exit->AS->Sc P->Prop:=fun e A s=>match e with
 | .normal=>OE N s A fun A _=>vV (P:=P) rs Q H A
 | .ret=>vV (P:=P) rs Q H A
 | _=>False
theorem qA{H:List (Nat×(Nat×V))}{xs:List l8}(h:pE H xs=true)(k:Nat)(hk:lk k H≠none):l8.key k ∉ xs:=fun c=>by
 unfold pE at h
 rw[Y6]at h
 have:=h _ c
 simp only[Option.isNone_iff_eq_none]at this
 exact hk this
theorem PF.XW{f:FuncId} {args:List V} {H:List (Nat×(Nat×V))} {X:Type} {post:X->Prop} {E:X->V} {H':X->List (Nat×(Nat×V))}
 (h:PF P f args H (fun r h=> ∃ x,post x/\wk r (E x)=E x/\h=H' x)):PF P f args H (fun r h=> ∃ x,post x/\r=E x/\h=H' x):=
 ⟨h.1,fun w Pb Kb cargs F hi=>(h.2 w Pb Kb cargs F hi).mono fun e w'=>by
  rintro⟨r,x,H1,Pb',D3,F',rfl,⟨z,q1,q2,rfl⟩,hf⟩
  exact⟨E z,x,H' z,Pb',D3,F',rfl,⟨z,q1,rfl,rfl⟩,by have:=xX (E z) hf.val;rw[q2]at this;exact⟨this,hf.root,hf.cd,hf.nodup,hf.free,hf.sub,hf.bound,hf.mP,hf.mK,hf.QY,hf.eM⟩⟩⟩
theorem fh{f:FuncId} {fn:Func} {c:Code} {args:List V} {H:List (Nat×(Nat×V))} {N:Nat} {rs:List ResultVar} {X:Type} {post:X->Prop} {E:X->V} {H':X->List (Nat×(Nat×V))}
 (hf:P.funcs[f]? =some fn) (Vt:(fn.name== "runtime.NumGoroutine")=false) (hb:fn.body=some c) (hN:fn.ntmps=N) (Ql:fn.results.toList=rs) (hlen:Nat.ble args.length N=true)
 (HK:List (Nat×(Nat×V))) (hHK:∀ x k,lk k (H' x)≠none->lk k HK≠none)
 (sc:Sc P) (VC:Prop) (he:VC=go N c ⟨enum 0 args,H⟩ sc (GP N rs (fun v A=> ∃ x,post x/\tF A (H' x) (wk v (E x)=E x)) HK)) (h:VC):
 PF P f args H (fun r h=> ∃ x,post x/\r=E x/\h=H' x):=by
 subst hN Ql
 rw[he]at h
 refine PF.XW (AT hf hb (dY hf Vt (by rw[hb];rfl)) (Nat.le_of_ble_eq_true hlen) (mD (lY (HL _ h) ?_)))
 rintro e A0 ⟨s0,hq⟩
 have fin:∀ A,(e=.normal\/e=.ret)->vV (P:=P) fn.results.toList (fun v A=> ∃ x,post x/\tF A (H' x) (wk v (E x)=E x)) HK A->GV P fn.results.toList (fun r h=> ∃ x,post x/\wk r (E x)=E x/\h=H' x) e A:=fun A he hq=>by
  unfold vV at hq
  split at hq
  rename_i C xs e1
  split at hq
  rename_i e2
  simp only[YS]at e2
  obtain⟨hC,x,q1,hq⟩:=mT.1 hq
  obtain⟨q2,q3⟩:=tB hq
  obtain⟨C',f1,f2⟩:=sd e1 hC
  exact⟨he,xs,H' x,sC f1 f2,pH e2.1.1,tR e2.1.2,q3,fun k hk=>qA e2.2 k (hHK x k hk),x,q1,q2,rfl⟩
  exact hq.elim
  exact hq.elim
 cases e with
 | normal=>exact(kJ s0 hq).mono fun B ⟨_,hB⟩=>fin B (.inl rfl) hB
 | ret=>exact Hx.of (fin A0 (.inr rfl) hq)
 | _=>exact hq.elim
theorem Kd{f:FuncId} {fn:Func} {c:Code} {args:List V} {H:List (Nat×(Nat×V))} {N:Nat} {rs:List ResultVar} {E:V} {H':List (Nat×(Nat×V))}
 (hf:P.funcs[f]? =some fn) (Vt:(fn.name== "runtime.NumGoroutine")=false) (hb:fn.body=some c) (hN:fn.ntmps=N) (Ql:fn.results.toList=rs) (hlen:Nat.ble args.length N=true)
 (sc:Sc P) (VC:Prop) (he:VC=go N c ⟨enum 0 args,H⟩ sc (GP N rs (fun v A=>tF A H' (wk v E=E)) H')) (h:VC):
 PF P f args H (fun r h=>r=E/\h=H'):=by
 subst hN Ql
 rw[he]at h
 have:=PF.XW (X:=Unit) (post:=fun _=>True) (E:=fun _=>E) (H':=fun _=>H') (AT (P:=P) (f:=f) (args:=args) (H:=H) (Q:=fun r h=> ∃ _:Unit,True/\wk r E=E/\h=H') hf hb (dY hf Vt (by rw[hb];rfl)) (Nat.le_of_ble_eq_true hlen) (mD (lY (HL _ h) ?_)))
 exact this.mono fun r H ⟨_,_,h1,h2⟩=>⟨h1,h2⟩
 rintro e A0 ⟨s0,hq⟩
 have fin:∀ A,(e=.normal\/e=.ret)->vV (P:=P) fn.results.toList (fun v A=>tF A H' (wk v E=E)) H' A->GV P fn.results.toList (fun r h=> ∃ _:Unit,True/\wk r E=E/\h=H') e A:=fun A he hq=>by
  unfold vV at hq
  split at hq
  rename_i C xs e1
  split at hq
  rename_i e2
  simp only[YS]at e2
  obtain⟨hC,hq⟩:=mT.1 hq
  obtain⟨q2,q3⟩:=tB hq
  obtain⟨C',f1,f2⟩:=sd e1 hC
  exact⟨he,xs,H',sC f1 f2,pH e2.1.1,tR e2.1.2,q3,fun k hk=>qA e2.2 k hk,(),trivial,q2,rfl⟩
  exact hq.elim
  exact hq.elim
 cases e with
 | normal=>exact(kJ s0 hq).mono fun B ⟨_,hB⟩=>fin B (.inl rfl) hB
 | ret=>exact Hx.of (fin A0 (.inr rfl) hq)
 | _=>exact hq.elim
end
theorem gz{xs:List V}{j sz g0 o0 g o c:Nat}{v:V}(h:xs[j]? =some v):V.at g0 o0 (.own sz xs g o c) [j]=some (g,o+j*sz,v):=by simp only[V.at,h]
theorem nD{xs ys:List V}{j sz g o c:Nat}{x v:V}(h:xs[j]? =some x)(e:xs.set j v=ys):V.set (.own sz xs g o c) [j] v=.own sz ys g o c:=by simp only[V.set,h,e]
theorem Uf{x y:V}{r:List V}(h:x=y):V.agg (x::r)=V.agg (y::r):=by rw[h]
theorem oB{x y u:V}{r:List V}{p:List Nat}(h:V.set x p u=y):V.set (.agg (x::r)) (0::p) u=V.agg (y::r):=by rw[<- h];rfl
theorem Oe{a0 a1 x y:V}{r:List V}(h:x=y):V.agg (a0::a1::x::r)=V.agg (a0::a1::y::r):=by rw[h]
theorem dR{a0 a1 x y u:V}{r:List V}{p:List Nat}(h:V.set x p u=y):V.set (.agg (a0::a1::x::r)) (2::p) u=V.agg (a0::a1::y::r):=by rw[<- h];rfl
theorem MC{a0 a1 a2 a3 a4 x y u:V}{r:List V}{p:List Nat}(h:V.set x p u=y):V.set (.agg (a0::a1::a2::a3::a4::x::r)) (5::p) u=V.agg (a0::a1::a2::a3::a4::y::r):=by rw[<- h];rfl
abbrev m8(x:Int):Prop:= -9223372036854775808<=x/\x<=9223372036854775807
abbrev Px(x:Int):Prop:=0<=x/\x<=255
abbrev Ix{α:Type}(i:Int)(s:List α):Prop:=0<=i/\i<s.length
abbrev Sx{α:Type}(lo hi:Int)(s:List α):Prop:=0<=lo/\lo<=hi/\hi<=s.length
abbrev Ex(i:Int)(xs:List V)(v:V):Prop:=0<=i/\xs[Int.toNat i]? =some v
abbrev r9(a b:Int):Bool:=decide (a<b)
abbrev D1(a b:Int):Bool:=decide (a<=b)
abbrev s9(a b:Int):Bool:=decide (a>b)
abbrev z6(a b:Int):Bool:=decide (a>=b)
abbrev o9(a b:Int):Bool:=a==b
abbrev A6(a b:Int):Bool:=a != b
abbrev Br(b:Bool)(p q:Prop):Prop:=(b=true->p)/\(b=false->q)
abbrev Gd(b:Bool)(p:Prop):Prop:=b=true->p
abbrev Q(x y:V):Prop:=x=y
abbrev E(x:V):Prop:=x=x
abbrev Qr(g:Nat)(x:V)(g':Nat)(y:V):Prop:=(g,x)=(g',y)
abbrev Er(g:Nat)(x:V):Prop:=(g,x)=(g,x)
abbrev Z(g o:Nat):Prop:=(g,o)=(g,o)
abbrev In(i:Int)(n:Nat):Prop:=0<=i/\i<n
abbrev Pk(c a b:Bool):Prop:=(c=true->a=true)/\(c=false->b=true)
theorem nb:(∀ (p:Prop) [Decidable p],(decide p=true)=p)/\(∀ (p:Prop) [Decidable p],(decide p=false)= ¬ p)/\(∀ a b:Int,(¬ a<b)=(b<=a))/\(∀ a b:Int,(¬ a<=b)=(b<a))/\(∀ a b:Int,(a>b)=(b<a))/\(∀ a b:Int,(a>=b)=(b<=a))/\
 (∀ (α:Type) [BEq α] [LawfulBEq α] (a b:α),((a==b)=true)=(a=b))/\(∀ (α:Type) [BEq α] [LawfulBEq α] (a b:α),((a==b)=false)= ¬ a=b)/\
 (∀ (α:Type) [BEq α] [LawfulBEq α] (a b:α),((a != b)=true)= ¬ a=b)/\(∀ (α:Type) [BEq α] [LawfulBEq α] (a b:α),((a != b)=false)=(a=b))/\
 (∀ a b:Bool,((a||b)=true)=(a=true\/b=true))/\(∀ a b:Bool,((a||b)=false)=(a=false/\b=false))/\(∀ a b:Bool,((a&&b)=true)=(a=true/\b=true))/\(∀ a b:Bool,((a&&b)=false)=(a=true->b=false))/\
 (∀ a:Bool,((!a)=true)=(a=false))/\(∀ a:Bool,((!a)=false)=(a=true))/\(∀ a:Bool,(¬ a=true)=(a=false))/\(∀ a:Bool,(¬ a=false)=(a=true))/\(∀ p:Prop,(¬ ¬ p)=p)/\
 (∀ a:Bool,(a==true)=a)/\(∀ a:Bool,(a==false)=!a)/\(∀ a:Bool,(true&&a)=a)/\(∀ a:Bool,(a&&true)=a)/\((!true)=false)/\((!false)=true)/\(∀ a:Bool,(!!a)=a)/\(∀ (α β:Type) (f:α->β) (l:List α),(l.map f).length=l.length):=by
 refine⟨fun p _=>by simp,fun p _=>by simp,fun a b=>by simp,fun a b=>by simp,fun a b=>rfl,fun a b=>rfl,fun α _ _ a b=>by simp,fun α _ _ a b=>by simp,fun α _ _ a b=>by simp,fun α _ _ a b=>by simp,fun a b=>by simp,fun a b=>by simp,fun a b=>by simp,fun a b=>by cases a <;> simp,
  fun a=>by simp,fun a=>by simp,fun a=>by simp,fun a=>by simp,fun p=>by simp,fun a=>by simp,fun a=>by simp,fun a=>by simp,fun a=>by simp,rfl,rfl,fun a=>by simp,fun _ _ f l=>Y2 ..⟩
section
variable {w w':World} {Pb Kb Pb':Nat->Prop} {N:Nat} {A A' A1 B:AS} {a:Act} {F:l8->List Nat}
end
theorem av{P:Program} {f:FuncId} {fn:Func} {args:List V} {H:List (Nat×(Nat×V))} {N:Nat} {rs:List ResultVar} {E:V} {H':List (Nat×(Nat×V))}
 (hf:P.funcs[f]? =some fn) (sc:Sc P) (VC:Prop) (h:VC) (Vt:(fn.name== "runtime.NumGoroutine")=false:=by kernel_rfl) (hb:fn.body.isSome=true:=by kernel_rfl) (hN:fn.ntmps=N:=by kernel_rfl) (Ql:fn.results.toList=rs:=by kernel_rfl) (hlen:Nat.ble args.length N=true:=by kernel_rfl)
 (he:VC=go N (fn.body.getD .skip) ⟨enum 0 args,H⟩ sc (GP N rs (fun v A=>tF A H' (wk v E=E)) H'):=by kernel_rfl):PF P f args H (fun r h=>r=E/\h=H'):=by
 cases Xv:fn.body with
 | none=>rw[Xv]at hb;cases hb
 | some c=>
   rw[Xv]at he
   exact Kd hf Vt Xv hN Ql hlen sc VC he h
abbrev Sc.q{P:Program}(n:Nat)(k:Sc P):Sc P:=.r n [] k
theorem bI{c:Bool}{P Q p q:Prop}(a:p->P)(b:q->Q)(h1:(c=true)=p:=by first | (conv=>lhs;simp only[nb]) | rfl)(h2:(c=false)=q:=by first | (conv=>lhs;simp only[nb]) | rfl):Br c P Q:=⟨fun h=>a (h1 ▸ h),fun h=>b (h2 ▸ h)⟩
mutual
def V.lits:V->Option (List Value)
 | .lit x=>if x.oneCell' then some [x] else none
 | .agg vs=>V.sv vs
 | _=>none
def V.sv:List V->Option (List Value)
 | []=>some []
 | v::vs=>match v.lits,V.sv vs with
   | some a,some b=>some (a++b)
   | _,_=>none
end
def V.val? :V->Option Value
 | .lit x=>if x.oneCell' then some x else none
 | .agg us=>(V.sv us).map fun l=>.agg l.toArray
 | .ptr _ _ g o=>some (.pointer (some ⟨g,o,none⟩))
 | _=>none
section
variable {w w':World} {Pb Kb Pb':Nat->Prop} {N:Nat} {A A' B:AS} {a:Act} {F:l8->List Nat} {P:Program} {ops:Array Oper}
mutual
theorem yW:∀ (v:V) {l},v.lits=some l->∀ {cs F},R w Pb v cs F↔cs=l/\F=[]
 | .lit x,l,h,cs,F=>by
   simp only[V.lits]at h
   split at h
   rename_i hx;simp at h;subst h;simp only[R];exact⟨fun h=>h.2,fun h=>⟨hx,h⟩⟩
   simp at h
 | .agg vs,l,h,cs,F=>by simp only[V.lits]at h;simp only[R];exact rZ vs h
 | .sl ..,_,h,_,_=>by simp[V.lits]at h
 | .tup _,_,h,_,_=>by simp[V.lits]at h
 | .gv _ _,_,h,_,_=>by simp[V.lits]at h
 | .own ..,_,h,_,_=>by simp[V.lits]at h
 | .hd ..,_,h,_,_=>by simp[V.lits]at h
 | .ow ..,_,h,_,_=>by simp[V.lits]at h
 | .om ..,_,h,_,_=>by simp[V.lits]at h
 | .mp ..,_,h,_,_=>by simp[V.lits]at h
 | .ptr ..,_,h,_,_=>by simp[V.lits]at h
 | .ep _,_,h,_,_=>by simp[V.lits]at h
 | .a8,_,h,_,_=>by simp[V.lits]at h
theorem rZ:∀ (vs:List V) {l},V.sv vs=some l->∀ {cs F},RL w Pb vs cs F↔cs=l/\F=[]
 | [],l,h,cs,F=>by simp[V.sv]at h;subst h;simp[RL]
 | v::vs,l,h,cs,F=>by
   simp only[V.sv]at h
   split at h
   rename_i a b h1 h2
   simp at h;subst h
   simp only[RL,yW v h1,rZ vs h2]
   exact⟨fun⟨_,_,_,_,e1,e2,⟨e3,e4⟩,e5,e6⟩=>⟨by rw[e1,e3,e5],by rw[e2,e4,e6];rfl⟩,fun⟨e1,e2⟩=>⟨_,_,_,_,e1,(by rw[e2];rfl:_=([]:List Nat)++[]),⟨rfl,rfl⟩,rfl,rfl⟩⟩
   simp at h
end
theorem Km{v:V}{x y:Value}{Fx:List Nat}(h:v.val? =some y)(hr:RV w Pb v x Fx):x=y/\Fx=[]:=by
 cases v with
 | lit z=>
   simp only[V.val?]at h
   split at h
   obtain⟨_,e,hF⟩:=(hr:R w Pb (.lit z) [x] Fx);simp at e h;exact⟨by rw[e,h],hF⟩
   simp at h
 | agg us=>
   simp only[V.val?,Option.map_eq_some_iff]at h
   obtain⟨l,h1,rfl⟩:=h
   obtain⟨cs,rfl,hr⟩:=(hr:∃ cs,x=.agg cs/\RL w Pb us cs.toList Fx)
   obtain⟨e1,e2⟩:=(rZ us h1).1 hr
   exact⟨by rw[<- e1],e2⟩
 | ptr r p g o=>
   simp only[V.val?,YR]at h;subst h
   obtain⟨hF,e⟩:=(hr:R w Pb (.ptr r p g o) [x] Fx);simp at e;exact⟨e,hF⟩
 | _=>simp[V.val?]at h
theorem uC{v:V}{y:Value}(h:v.val? =some y):RV w Pb v y []:=by
 cases v with
 | lit z=>
   simp only[V.val?]at h
   split at h
   rename_i hz;simp at h;subst h;exact⟨hz,rfl,rfl⟩
   simp at h
 | agg us=>
   simp only[V.val?,Option.map_eq_some_iff]at h
   obtain⟨l,h1,rfl⟩:=h
   exact⟨_,rfl,(rZ us h1).2 ⟨rfl,rfl⟩⟩
 | ptr r p g o=>
   simp only[V.val?,YR]at h;subst h
   exact⟨rfl,rfl⟩
 | _=>simp[V.val?]at h
theorem qY(hs:s4 N Pb Kb A a w F){x:Operand}{y:Value}(h:(A.ev x).val? =some y):a.eval x=y:=by
 obtain⟨_,hr⟩:=dH hs x
 exact(Km h hr).1
theorem Az{v:V}{y:Value}{vs:List V}{xs:List Value}(h:v.val? =some y)(hr:RVs w Pb vs xs []):RVs w Pb (v::vs) (y::xs) []:=by
 have:=uC (w:=w) (Pb:=Pb) h
 refine⟨y,xs,[],[],rfl,rfl,?_,hr⟩
 cases v with
 | agg us=>exact this
 | lit _=>exact this
 | ptr _ _ _ _=>exact this
 | _=>simp[V.val?]at h
theorem sj{v1 v2:V}{y1 y2:Value}(h1:v1.val? =some y1)(h2:v2.val? =some y2):RV w Pb (.tup [v1,v2]) (.tuple #[y1,y2]) []:=
 ⟨_,rfl,Az h1 (Az h2 ⟨rfl,rfl⟩)⟩
theorem s4.mod(hs:s4 N Pb Kb A a w F) {t g:Nat} {v':V} (hg:g∈F (.slot t)) (hk:∀ k,k≠g->w'.heap[k]? =w.heap[k]?) (hsz:w'.heap.size=w.heap.size)
 (hv:RV w' Pb v' (a.tmps.getD t undef) (F (.slot t))):s4 N Pb Kb (A.put (some t) v') a w' F where
 size:=hs.size
 defers:=hs.defers
 slot:=fun i=>by
  rw[AS.aA]
  split
  rename_i e;subst e;exact hv
  rename_i e
  refine mH _ (hs.slot i) (fun x hx=>hk x fun c=>?_) (fun x hx=>hk x fun c=>?_) (fun _ h=>h) (fun x hx c=>(hs.free _ x hx).1 (hs.sub x c))
  subst c;exact(hs.free _ _ hg).1 (hs.sub _ hx)
  subst c;exact hs.cd (.slot i) (.slot t) (fun c=>e (by injection c)) _ hx hg
 root:=fun k g' v h=>by
  obtain⟨F',e,hA⟩:=hs.root k g' v h
  refine⟨F',e,?_⟩
  have hne:∀ x,x∈g'::F'->x≠g:=fun x hx c=>by
   subst c;exact hs.cd (.key k) (.slot t) Z8 _ (by rw[e];exact hx) hg
  obtain⟨cs,cells,⟨e1,fr,hb,hfr⟩,hr,hc⟩:=hA
  exact⟨cs,cells,⟨e1,fr,(hk g' (hne g' Z8)).trans hb,hfr⟩,fX _ hr (fun x hx=>hk x fun c=>by subst c;exact(hs.free _ _ hg).1 (hs.sub _ hx)) (fun x hx=>hk x (hne x (by simp[hx]))) (fun _ h=>h)
   (fun x hx c=>(hs.free (.key k) x (by rw[e];simp[hx])).1 (hs.sub x c)),hc⟩
 cd:=hs.cd
 nodup:=hs.nodup
 free:=fun r x hx=>by rw[hsz];exact hs.free r x hx
 sub:=hs.sub
 bound:=fun x hx=>by rw[hsz];exact hs.bound x hx
theorem fO{o:Oper} {K:AS->Prop} {d:Nat} {v:V} (hd:o.dst=some d) (hN:d<N) (hK:K (A.put (some d) v))
 (h:∀ Pb Kb a w F,s4 N Pb Kb A a w F->∃ x,(execOp a.eval o).run P w=.ok (.value x) w/\RV w Pb v x []):E2 P N o A K:=
 iR (by rw[hd];exact hN) (by rw[hd];exact hK) h
end
section
variable {P:Program}
def WH:Cu P where
 X:=Unit
 pre N o A:=match o.op,o.dst with
  | .makeInterface T x,some d=>match Nat.blt d N,tD P T,(A.ev x).val? with
    | true,some _,some y=>(∃ td,P.underlying T=some td/\(∀ i,td≠.interface i))/\(Value.iface T y).oneCell'=true
    | _,_,_=>False
  | _,_=>False
 post _ o A:=match o.op,o.dst with
  | .makeInterface T x,some d=>match (A.ev x).val? with
    | some y=>A.put (some d) (.lit (.iface T y))
    | none=>A
  | _,_=>A
 ok:=by
  rintro N ⟨dst,op,ty,pos,after,D2⟩ A K-hp hK
  replace hK:=hK ()
  simp only at hp hK
  split at hp
  rename_i T x d
  split at hp
  rename_i td0 y e1 e2 e3
  obtain⟨⟨td,h1,h2⟩,h3⟩:=hp
  simp only[e3]at hK
  refine fO rfl (bG e1) hK fun Pb Kb a w F hs=>⟨.iface T y,?_,dk h3⟩
  have hy:=qY hs e3
  have hu:=aF (w:=w) h1
  cases td with
  | interface i=>exact absurd rfl (h2 i)
  | _=>simp[execOp,Instr.makeInterface,Y4,hu,hy]
  exact hp.elim
  exact hp.elim
def V2(v:V):Cu P where
 X:=Unit
 pre N o A:=match o.op,o.dst with
  | .typeAssert x _ T true,some d=>match Nat.blt d N,A.ev x,v.val? with
    | true,.lit (.iface T' y),some y'=>(∃ td,P.underlying T=some td/\(∀ i,td≠.interface i))/\T'=T/\y'=y
    | _,_,_=>False
  | _,_=>False
 post _ o A:=match o.dst with
  | some d=>A.put (some d) (.tup [v,bV true])
  | none=>A
 ok:=by
  rintro N ⟨dst,op,ty,pos,after,D2⟩ A K-hp hK
  replace hK:=hK ()
  simp only at hp hK
  split at hp
  rename_i x T1 T d
  split at hp
  rename_i T' y y' e1 e2 e3
  obtain⟨⟨td,h1,h2⟩,rfl,rfl⟩:=hp
  refine fO rfl (bG e1) hK fun Pb Kb a w F hs=>⟨.tuple #[y',.bool true],?_,sj e3 rfl⟩
  have hy:=bY hs e2
  have hu:=aF (w:=w) h1
  cases td with
  | interface i=>exact absurd rfl (h2 i)
  | _=>simp[execOp,Instr.typeAssert,Y4,hu,hy]
  exact hp.elim
  exact hp.elim
def U2(z:ZT P):Cu P where
 X:=Unit
 pre N o A:=match o.op,o.dst with
  | .typeAssert x _ T true,some d=>match Nat.blt d N,A.ev x,T==z.T with
    | true,.lit (.iface T' y),true=>(∃ td,P.underlying T=some td/\(∀ i,td≠.interface i))/\T'≠T/\(∃ y,z.v.val? =some y/\∀ w,(zeroValue T).run P w=.ok y w)
    | _,_,_=>False
  | _,_=>False
 post _ o A:=match o.dst with
  | some d=>A.put (some d) (.tup [z.v,bV false])
  | none=>A
 ok:=by
  rintro N ⟨dst,op,ty,pos,after,D2⟩ A K-hp hK
  replace hK:=hK ()
  simp only at hp hK
  split at hp
  rename_i x T1 T d
  split at hp
  rename_i T' y e1 e2 e3
  obtain⟨⟨td,h1,h2⟩,hne,y2,hz,U9⟩:=hp
  refine fO rfl (bG e1) hK fun Pb Kb a w F hs=>⟨.tuple #[y2,.bool false],?_,sj hz rfl⟩
  have hy:=bY hs e2
  have hu:=aF (w:=w) h1
  cases td with
  | interface i=>exact absurd rfl (h2 i)
  | _=>simp[execOp,Instr.typeAssert,Y4,hu,hy,hne,U9]
  exact hp.elim
  exact hp.elim
def ja :List V->Option (List Value)
 | []=>some []
 | v::vs=>match v.val?,ja vs with
   | some y,some ys=>some (y::ys)
   | _,_=>none
theorem mw{N:Nat}{Pb Kb:Nat->Prop}{A:AS}{a:Act}{w:World}{F:l8->List Nat}(hs:s4 N Pb Kb A a w F):∀ (xs:List Operand) {ys:List Value},ja (xs.map A.ev)=some ys->xs.map a.eval=ys
 | [],ys,h=>by simp[ja]at h;simp[h]
 | x::xs,ys,h=>by
   simp only[Zi,ja]at h
   split at h
   rename_i y Wv h1 h2
   simp at h;subst h
   rw[Zi,qY hs h1,mw hs xs h2]
   simp at h
def RW:Cu P where
 X:=Unit
 pre N o A:=match o.op,o.dst with
  | .makeFunc fn first x6,some d=>match Nat.blt d N,ja (first.toList.map A.ev),ja (x6.toList.map A.ev) with
    | true,some l1,some l2=>(Value.func fn l1.toArray l2.toArray).oneCell'=true
    | _,_,_=>False
  | _,_=>False
 post _ o A:=match o.op,o.dst with
  | .makeFunc fn first x6,some d=>match ja (first.toList.map A.ev),ja (x6.toList.map A.ev) with
    | some l1,some l2=>A.put (some d) (.lit (.func fn l1.toArray l2.toArray))
    | _,_=>A
  | _,_=>A
 ok:=by
  rintro N ⟨dst,op,ty,pos,after,D2⟩ A K-hp hK
  replace hK:=hK ()
  simp only at hp hK
  split at hp
  rename_i fn first x6 d
  split at hp
  rename_i l1 l2 e1 e2 e3
  simp only[e2,e3]at hK
  refine fO rfl (bG e1) hK fun Pb Kb a w F hs=>⟨.func fn l1.toArray l2.toArray,?_,dk hp⟩
  have h1:=mw hs _ e2
  have h2:=mw hs _ e3
  have h1:first.map a.eval=l1.toArray:=by rw[<- h1];apply Array.ext';simp
  have h2:x6.map a.eval=l2.toArray:=by rw[<- h2];apply Array.ext';simp
  simp only[execOp,Instr.makeFunc,Y4,YW,Y5,h1,h2]
  exact hp.elim
  exact hp.elim
end
section
variable {w w':World} {Pb Kb Pb':Nat->Prop} {N:Nat} {A A' B:AS} {a:Act} {F:l8->List Nat} {P:Program} {ops:Array Oper}
theorem Dw{v:V}{x:Value}(h:v.lits=some [x]):∀ n,RL w Pb (List.replicate n v) (List.replicate n x) []
 | 0=>⟨rfl,rfl⟩
 | n+1=>⟨[x],List.replicate n x,[],[],rfl,rfl,(yW v h).2 ⟨rfl,rfl⟩,Dw h n⟩
theorem Mc{x:Value}{n:Nat}{zc:Array Value}(h:zc.toList=[x]):madeCells zc (n*1)=(List.replicate n x).toArray:=by
 have hz:zc= #[x]:=by rw[<- Array.toList_inj];simpa using h
 subst hz
 apply Array.ext
 simp[madeCells]
 intro i h1 h2;simp[madeCells,Nat.mod_one]at h1 ⊢
def X2(z:ZT P)(n:Nat):Cu P where
 X:=Nat
 pre N o A:=match o.op,o.dst with
  | .makeSlice T l c,some d=>match Nat.blt d N,tD P T,ti P z.T with
    | true,some (.sl e),some i=>(e=z.T/\i.sz=1/\(∃ x,z.v.lits=some [x])/\z.v.n=1)/\A.ev l=.lit (.int .i64 n)/\A.ev c=.lit (.int .i64 n)/\1<=n/\n*i.L1<=140737488355328/\n<=9223372036854775807
    | _,_,_=>False
  | _,_=>False
 post g o A:=match o.dst with
  | some d=>A.put (some d) (.own 1 (List.replicate n z.v) g 0 n)
  | none=>A
 ok:=by
  rintro N ⟨dst,op,ty,pos,after,D2⟩ A K-hp hK
  simp only at hp hK
  split at hp
  rename_i T l c d
  split at hp
  rename_i e i e1 e2 e3
  obtain⟨⟨rfl,hsz,⟨x,hx⟩,U'⟩,hl,hc,h1,RJ,h63⟩:=hp
  obtain⟨inf,z0,L5,hzero,hfl⟩:=z.ok
  obtain⟨RX,_,G9,_,Rb,Ru,_⟩:=jd e3
  rw[L5]at G9
  obtain rfl:=Option.some.inj G9
  have hu:=iy e2
  intro Pb Kb a w F Q hs
  have hl:=bY hs hl
  have hc:=bY hs hc
  have hz0:z0.cells.toList=[x]:=by
   have h1:=qH (w:=w) (Pb:=Pb) z.v hfl
   exact((yW z.v hx).1 h1).1
  have hm:=run_make (P:=P) w T z.T inf z0 hu L5 hzero .i64 .i64 n n Z9 Z9 (by rw[Ru,<- Int.natCast_mul,Nat.mul_comm];omega) Z9
  rw[Int.toNat_natCast,Rb,hsz,Mc hz0]at hm
  have Nd:(execOp a.eval ⟨some d,.makeSlice T l c,ty,pos,after,D2⟩).run P w=.ok (.value (.slice (some ⟨w.heap.size,0,none⟩) n n)) (w.alloc (.cells (List.replicate n x).toArray z.T)):=by
   simp only[execOp,Y4,hl,hc,hm,YW,Y5]
  unfold Oper.wp
  rw[Nd,Oper.upon_value]
  have Nw:=hs.nT (.cells (List.replicate n x).toArray z.T)
  have Pn: ¬ Kb w.heap.size:=fun h=>by have:=hs.bound _ h;omega
  have hR:R (w.alloc (.cells (List.replicate n x).toArray z.T)) Pb (.own 1 (List.replicate n z.v) w.heap.size 0 n) [.slice (some ⟨w.heap.size,0,none⟩) n n] [w.heap.size]:=
   .inr ⟨h1,Nat.one_pos,Z8,Z8,fun v R0=>by rw[List.eq_of_mem_replicate R0];exact U',fun c=>Pn (hs.sub _ c),_,[],_,rfl,Dw hx n,⟨z.T,(0,0),fS w _,fun i _ h=>by omega⟩,Z8,fun j u hu=>by rw[Y0,List.getElem?_toArray];exact hu⟩
  exact⟨_,Pb,Kb,_,hK _,Nw.put (bG e1) hR (fun r _ g hg=>by
   obtain rfl:=YZ.1 hg
   intro c;have:=(hs.free r _ c).2;omega) Z8 (fun g hg=>by
   obtain rfl:=YZ.1 hg
   exact⟨Pn,by rw[dz];omega⟩),fun _ h=>h,fun _ h=>h,fun _ h=>.inl h,x7.alloc hs.bound _⟩
  exact hp.elim
  exact hp.elim
def bW:List (BL×Value)->BL->Option Value
 | [],_=>none
 | p::r,k=>if p.1=k then some p.2 else bW r k
def dC:List (BL×Value)->BL->Value->List (BL×Value)
 | [],k,x=>[(k,x)]
 | p::r,k,x=>if p.1=k then (k,x)::r else p::dC r k x
theorem str_inj{a b:BL}:((⟨a.toArray⟩:ByteArray)== ⟨b.toArray⟩)=decide (a=b):=by
 rw[Za,MapKept.bytes_beq]
 simp
theorem kD(k:BL):∀ (es:List (BL×Value)) (l:List MapEntry) (i:Nat),l.map (fun e=>(e.key,e.val))=es.map (fun p=>(Value.string ⟨p.1.toArray⟩,p.2))->
 (bW es k=none->Instr.findNow .string (.string ⟨k.toArray⟩) l i=some none)/\
 (∀ x,bW es k=some x->∃ j,Instr.findNow .string (.string ⟨k.toArray⟩) l i=some (some (i+j,x))/\j<l.length/\(∃ e,l[j]? =some e/\e.key=.string ⟨k.toArray⟩)/\
  ∀ y,(l.modify j fun e=>{ e with key:=.string ⟨k.toArray⟩,val:=y }).map (fun e=>(e.key,e.val))=(dC es k y).map (fun p=>(Value.string ⟨p.1.toArray⟩,p.2)))
 | [],l,i,h=>by
   have:l=[]:=by simpa using h
   subst this
   simp[bW,Instr.findNow]
 | p::r,l,i,h=>by
   cases l with
   | nil=>simp at h
   | cons e l=>
     simp only[Zi,List.cons.injEq,YU]at h
     obtain⟨⟨h1,h2⟩,h3⟩:=h
     obtain⟨i1,i2⟩:=kD k r l (i+1) h3
     simp only[bW,dC,Instr.findNow,h1,Instr.sameNow,str_inj]
     by_cases hk:p.1=k
     subst hk
     simp only[if_true,decide_true]
     refine⟨Z8,fun x hx=>⟨0,?_,Z8,⟨e,rfl,h1⟩,fun y=>?_⟩⟩
     simp at hx;rw[h2,hx];rfl
     simp[h3]
     have G7: ¬ k=p.1:=fun c=>hk c.symm
     simp only[if_neg hk,decide_eq_false G7]
     refine⟨i1,fun x hx=>?_⟩
     obtain⟨j,j1,j2,⟨e',j3,j4⟩,j5⟩:=i2 x hx
     refine⟨j+1,by rw[j1];congr 2;simp;omega,Z0,⟨e',by simpa using j3,j4⟩,fun y=>?_⟩
     have:=j5 y
     simp only[List.modify_succ_cons,Zi,this,h1,h2]
theorem tI(k:BL)(y:Value):∀ (es:List (BL×Value)),bW es k=none->dC es k y=es++[(k,y)]
 | [],_=>rfl
 | p::r,h=>by
   simp only[bW]at h
   split at h
   simp at h
   rename_i hk;simp only[dC,if_neg hk,tI k y r h,List.cons_append]
theorem nn{e:Bool}{n:Nat}{T:Nat}{k:ByteArray}(h:P.underlying T=some .string):(Instr.checkKey e (n+1) T (.string k)).run P w=.ok () w:=by
 unfold Instr.checkKey
 simp[Y4,aF (w:=w) h]
theorem yj{k:ByteArray}{n:Nat}:Instr.sameBits n (.string k) (.string k)=true:=by
 unfold Instr.sameBits
 exact(MapKept.bytes_beq k k).2 rfl
def U6:Cu P where
 X:=Nat
 pre N o A:=match o.op,o.dst with
  | .makeMap _ none,some d=>match Nat.blt d N with
    | true=>True
    | false=>False
  | _,_=>False
 post g o A:=match o.dst with
  | some d=>A.put (some d) (.om [] g)
  | none=>A
 ok:=by
  rintro N ⟨dst,op,ty,pos,after,D2⟩ A K-hp hK
  simp only at hp hK
  split at hp
  rename_i T d
  split at hp
  rename_i e1
  intro Pb Kb a w F Q hs
  have Nd:(execOp a.eval ⟨some d,.makeMap T none,ty,pos,after,D2⟩).run P w=.ok (.value (.map (some w.heap.size))) (w.alloc (.map #[] 0)):=rfl
  unfold Oper.wp
  rw[Nd,Oper.upon_value]
  have Nw:=hs.nT (.map #[] 0)
  have Pn: ¬ Kb w.heap.size:=fun h=>by have:=hs.bound _ h;omega
  have hR:R (w.alloc (.map #[] 0)) Pb (.om [] w.heap.size) [.map (some w.heap.size)] [w.heap.size]:=
   ⟨rfl,rfl,fun c=>Pn (hs.sub _ c),#[],0,fS w _,rfl,Z8,Z8⟩
  exact⟨_,Pb,Kb,_,hK _,Nw.put (bG e1) hR (fun r _ g hg=>by
   obtain rfl:=YZ.1 hg
   intro c;have:=(hs.free r _ c).2;omega) Z8 (fun g hg=>by
   obtain rfl:=YZ.1 hg
   exact⟨Pn,by rw[dz];omega⟩),fun _ h=>h,fun _ h=>h,fun _ h=>.inl h,x7.alloc hs.bound _⟩
  exact hp.elim
  exact hp.elim
def RU(t0:Nat)(es:List (BL×Value))(k:BL)(y:Value):Cu P where
 X:=Unit
 pre N o A:=match o.op,o.dst with
  | .mapUpdate T m kx x,none=>match tD P T,Nat.blt t0 N with
    | some (.map kt _),true=>match tD P kt,A.ev m,A.get t0 with
      | some .str,.lit (.map (some g)),.om OF g'=>(g'=g/\OF=es)/\A.ev kx=sV k/\(A.ev x).val? =some y
      | _,_,_=>False
    | _,_=>False
  | _,_=>False
 post _ o A:=match A.get t0 with
  | .om _ g=>A.put (some t0) (.om (dC es k y) g)
  | _=>A
 ok:=by
  rintro N ⟨dst,op,ty,pos,after,D2⟩ A K-hp hK
  replace hK:=hK ()
  simp only at hp hK
  split at hp
  rename_i T m kx x
  split at hp
  rename_i kt et e1 e2
  split at hp
  rename_i g OF g' e3 e4 e5
  obtain⟨⟨rfl,rfl⟩,hk,hy⟩:=hp
  rw[e5]at hK
  intro Pb Kb a w F Q hs
  have hm:=bY hs e4
  have hk:=bY hs hk
  have hy:=qY hs hy
  have h0:=hs.slot t0
  rw[e5]at h0
  have h0:R w Pb (.om OF g') [a.tmps.getD t0 undef] (F (.slot t0)):=h0
  obtain⟨hF,hc,Xg,en,cl,hb,RH,hnd,hcl⟩:=h0
  obtain⟨td,hu,hd⟩:=cL e1
  have hu:P.underlying T=some (.map kt et):=by
   cases td <;> simp_all[dt]
  obtain⟨RS,N4,QE⟩:=cL e3
  have N4:P.underlying kt=some .string:=by
   cases RS <;> simp_all[dt]
  have S4:∀ w:World,(Instr.checkKey false 10000 kt (.string (Str k))).run P w=.ok () w:=fun w=>nn N4
  obtain⟨f1,f2⟩:=kD k OF en.toList 0 RH
  have hw:∃ QJ RO,(Instr.mapUpdate T (.map (some g')) (.string (Str k)) y).run P w=.ok () { w with heap:=w.heap.setIfInBounds g' (.map QJ RO) }/\
   QJ.toList.map (fun e=>(e.key,e.val))=(dC OF k y).map (fun p=>(.string ⟨p.1.toArray⟩,p.2))/\(QJ.toList.map (·.born)).Nodup/\∀ e∈QJ.toList,e.born<RO:=by
   cases Wd:bW OF k with
   | none=>
     have:=f1 Wd
     refine⟨en.push { key:=.string (Str k),val:=y,born:=cl },cl+1,?_,?_,?_,?_⟩
     rw[show (⟨k.toArray⟩:ByteArray)=Str k from rfl]at this
     simp[Instr.mapUpdate,run_underlying hu,MapKept.run_getObj_map hb,S4,MapKept.run_findKey N4 this,MapKept.run_setObj_map _ hb,Result.andThen]
     rw[tI k y OF Wd];simp[RH,Str]
     simp only[Array.toList_push,Zf,Zi,List.map_nil]
     rw[List.nodup_append]
     refine⟨hnd,Z8,fun a ha b hb=>?_⟩
     simp only[YZ]at hb
     obtain⟨e,he,rfl⟩:=List.mem_map.1 ha
     have:=hcl e he;omega
     intro e he
     simp only[Array.toList_push,Y1,YZ]at he
     rcases he with he | rfl
     have:=hcl e he;omega
     simp
   | some x0=>
     obtain⟨j,j1,j2,⟨e,j3,j4⟩,j5⟩:=f2 x0 Wd
     rw[Y0]at j1
     refine⟨en.modify j fun e=>{ e with key:=.string (Str k),val:=y },cl,?_,?_,?_,?_⟩
     rw[show (⟨k.toArray⟩:ByteArray)=Str k from rfl]at j1
     have T0:((en[j]?).map (·.key)).getD (.string (Str k))=.string (Str k):=by
      have:en[j]? =some e:=by rw[<- Array.getElem?_toList];exact j3
      rw[this];exact j4
     simp[Instr.mapUpdate,run_underlying hu,MapKept.run_getObj_map hb,S4,MapKept.run_findKey N4 j1,T0,Instr.keyThatStays,yj,MapKept.run_setObj_map _ hb,Result.andThen]
     rw[Array.toList_modify];exact j5 y
     rw[Array.toList_modify]
     have:(en.toList.modify j fun e=>{ e with key:=.string (Str k),val:=y }).map (·.born)=en.toList.map (·.born):=by
      apply List.ext_getElem?
      intro i
      simp only[List.getElem?_map,List.getElem?_modify]
      cases en.toList[i]? with
      | none=>rfl
      | some e=>simp only[Option.map_eq_map,Option.map_some];split <;> rfl
     rw[this];exact hnd
     intro e he
     rw[Array.toList_modify]at he
     obtain⟨i,hi⟩:=List.mem_iff_getElem?.1 he
     rw[List.getElem?_modify]at hi
     obtain⟨e',h1,h2⟩:=Option.map_eq_some_iff.1 hi
     have:=hcl e' (Zb h1)
     rw[<- h2];split <;> simpa using this
  obtain⟨QJ,RO,A3,q1,q2,q3⟩:=hw
  have hgs:g'<w.heap.size:=(hs.free (.slot t0) g' (by rw[hF];simp)).2
  have Nd:(execOp a.eval ⟨none,.mapUpdate T m kx x,ty,pos,after,D2⟩).run P w=.ok .skip { w with heap:=w.heap.setIfInBounds g' (.map QJ RO) }:=by
   simp[execOp,hm,hk,hy,A3,Result.andThen]
  unfold Oper.wp
  rw[Nd,Oper.upon_skip]
  have hne:∀ k,k≠g'->(w.heap.setIfInBounds g' (.map QJ RO))[k]? =w.heap[k]? :=fun k hk=>by
   rw[Array.getElem?_setIfInBounds_ne (Ne.symm hk)]
  refine⟨_,Pb,Kb,F,hK,hs.mod (w':={ w with heap:=w.heap.setIfInBounds g' (.map QJ RO) }) (t:=t0) (g:=g') (by rw[hF];simp) hne Z8 ?_,fun _ h=>h,fun _ h=>h,fun _ h=>.inl h,⟨rfl,rfl,rfl,Z8,fun k hk=>hne k fun c=>(hs.free (.slot t0) g' (by rw[hF];simp)).1 (c ▸ hk),fun k c _ _ hk=>⟨c,by rw[hne k (by rintro rfl;rw[hb]at hk;cases hk)];exact hk,rfl⟩⟩⟩
  exact(⟨hF,hc,Xg,QJ,RO,(by simp[hgs]:(w.heap.setIfInBounds g' (.map QJ RO))[g']? =some (.map QJ RO)),q1,q2,q3⟩:R { w with heap:=w.heap.setIfInBounds g' (.map QJ RO) } Pb (.om (dC OF k y) g') _ _)
  exact hp.elim
  exact hp.elim
  exact hp.elim
def mlC(t0:Nat):Cu P where
 X:=Unit
 pre N o A:=match o.op,o.dst with
  | .call ⟨.builtin .len,⟨[x]⟩,⟨[T]⟩⟩,some d=>match tD P T,Nat.blt d N with
    | some (.map _ _),true=>match A.ev x,A.get t0 with
      | .lit (.map (some g)),.om _ g'=>g'=g
      | _,_=>False
    | _,_=>False
  | _,_=>False
 post _ o A:=match o.dst,A.get t0 with
  | some d,.om es _=>A.put (some d) (.lit (.int .i64 es.length))
  | _,_=>A
 ok:=by
  rintro N ⟨dst,op,ty,pos,after,D2⟩ A K-hp hK
  replace hK:=hK ()
  simp only at hp hK
  split at hp
  rename_i x T d
  split at hp
  rename_i kt et e1 e2
  split at hp
  rename_i g es g' e3 e4
  subst hp
  rw[e4]at hK
  refine fO rfl (bG e2) hK fun Pb Kb a w F hs=>⟨.int .i64 es.length,?_,dk rfl⟩
  have hm:=bY hs e3
  have h0:=hs.slot t0
  rw[e4]at h0
  have h0:R w Pb (.om es g') [a.tmps.getD t0 undef] (F (.slot t0)):=h0
  obtain⟨hF,hc,Xg,en,cl,hb,RH,hnd,hcl⟩:=h0
  obtain⟨td,hu,hd⟩:=cL e1
  have hu:P.underlying T=some (.map kt et):=by
   cases td <;> simp_all[dt]
  have hl:en.size=es.length:=by
   have:=Zq List.length RH
   simpa using this
  have hr:((#[x]:Array Operand).map a.eval)= #[.map (some g')]:=by simp[hm]
  simp[execOp,resolve,Deferred.ofValue,invoke,builtin,Builtin.len_,hm,run_underlying hu,MapKept.run_getObj_map hb,Result.andThen,hl,goInt]
  exact hp.elim
  exact hp.elim
  exact hp.elim
def lkC(es:List (BL×Value))(k:BL)(v:V)(ok:Bool):Cu P where
 X:=Unit
 pre N o A:=match o.op,o.dst with
  | .lookup T x kx true,some d=>match tD P T,Nat.blt d N with
    | some (.map kt et),true=>match tD P kt,A.ev x with
      | some .str,.mp OF=>(OF=es)/\A.ev kx=sV k/\((ok=true/\∃ y,bW es k=some y/\v.val? =some y)\/(ok=false/\bW es k=none/\∃ y,v.val? =some y/\∀ w,(zeroValue et).run P w=.ok y w))
      | _,_=>False
    | _,_=>False
  | _,_=>False
 post _ o A:=match o.dst with
  | some d=>A.put (some d) (.tup [v,bV ok])
  | none=>A
 ok:=by
  rintro N ⟨dst,op,ty,pos,after,D2⟩ A K-hp hK
  replace hK:=hK ()
  simp only at hp hK
  split at hp
  rename_i T x kx d
  split at hp
  rename_i kt et e1 e2
  split at hp
  rename_i OF e3 e4
  obtain⟨rfl,hk,hy⟩:=hp
  obtain⟨td,hu,hd⟩:=cL e1
  have hu:P.underlying T=some (.map kt et):=by
   cases td <;> simp_all[dt]
  obtain⟨RS,N4,QE⟩:=cL e3
  have N4:P.underlying kt=some .string:=by
   cases RS <;> simp_all[dt]
  have H4:∃ y,v.val? =some y:=by
   rcases hy with ⟨_,y,_,h⟩ | ⟨_,_,y,h,_⟩ <;> exact⟨y,h⟩
  obtain⟨y,hv⟩:=H4
  refine fO rfl (bG e2) hK fun Pb Kb a w F hs=>⟨.tuple #[y,.bool ok],?_,sj hv rfl⟩
  have hk:=bY hs hk
  obtain⟨_,hx⟩:=dH hs x
  rw[e4]at hx
  have hx:R w Pb (.mp OF) [a.eval x] _:=hx
  obtain⟨_,g,hc,_,en,cl,hb,RH,_,_⟩:=hx
  simp only[List.cons.injEq,and_true]at hc
  obtain⟨f1,f2⟩:=kD k OF en.toList 0 RH
  have S4:∀ e,(Instr.checkKey e 10000 kt (.string (Str k))).run P w=.ok () w:=fun e=>nn N4
  rcases hy with ⟨rfl,y',h1,h2⟩ | ⟨rfl,h1,y',h2,U9⟩
  rw[hv]at h2;obtain rfl:=Option.some.inj h2
  obtain⟨j,j1,_⟩:=f2 _ h1
  rw[show (⟨k.toArray⟩:ByteArray)=Str k from rfl]at j1
  simp[execOp,hc,hk,Instr.lookup,run_underlying hu,MapKept.run_getObj_map hb,S4,MapKept.run_findKey N4 j1,Result.andThen]
  rw[hv]at h2;obtain rfl:=Option.some.inj h2
  have j1:=f1 h1
  rw[show (⟨k.toArray⟩:ByteArray)=Str k from rfl]at j1
  simp[execOp,hc,hk,Instr.lookup,run_underlying hu,MapKept.run_getObj_map hb,S4,MapKept.run_findKey N4 j1,Result.andThen,U9]
  exact hp.elim
  exact hp.elim
  exact hp.elim
def X3:Cu P where
 X:=Unit
 pre N o A:=match o.op,o.dst with
  | .call ⟨.builtin .len,⟨[x]⟩,⟨[T]⟩⟩,some d=>match tD P T,Nat.blt d N with
    | some (.map _ _),true=>match A.ev x with
      | .mp _=>True
      | _=>False
    | _,_=>False
  | _,_=>False
 post _ o A:=match o.op,o.dst with
  | .call ⟨.builtin .len,⟨[x]⟩,⟨[_]⟩⟩,some d=>match A.ev x with
    | .mp es=>A.put (some d) (.lit (.int .i64 es.length))
    | _=>A
  | _,_=>A
 ok:=by
  rintro N ⟨dst,op,ty,pos,after,D2⟩ A K-hp hK
  replace hK:=hK ()
  simp only at hp hK
  split at hp
  rename_i x T d
  split at hp
  rename_i kt et e1 e2
  split at hp
  rename_i es e3
  simp only[e3]at hK
  refine fO rfl (bG e2) hK fun Pb Kb a w F hs=>⟨.int .i64 es.length,?_,dk rfl⟩
  obtain⟨_,hx⟩:=dH hs x
  rw[e3]at hx
  have hx:R w Pb (.mp es) [a.eval x] _:=hx
  obtain⟨_,g,hm,_,en,cl,hb,RH,_,_⟩:=hx
  simp only[List.cons.injEq,and_true]at hm
  obtain⟨td,hu,hd⟩:=cL e1
  have hu:P.underlying T=some (.map kt et):=by
   cases td <;> simp_all[dt]
  have hl:en.size=es.length:=by
   have:=Zq List.length RH
   simpa using this
  simp[execOp,resolve,Deferred.ofValue,invoke,builtin,Builtin.len_,hm,run_underlying hu,MapKept.run_getObj_map hb,Result.andThen,hl,goInt]
  exact hp.elim
  exact hp.elim
  exact hp.elim
end
theorem drop_cons{α:Type}{l:List α}{i:Nat}(h:i<l.length)(d:α):l.drop i=l.getD i d::l.drop (i+1):=by
 rw[List.drop_eq_getElem_cons h,YQ,YX h];rfl
theorem bg{α:Type}{l:List α}{i:Nat}(h:i<l.length)(d:α):l.take (i+1)=l.take i++[l.getD i d]:=by
 rw[List.take_add_one,YQ,YX h];rfl
theorem all_false{α:Type}{l:List α}{p:α->Bool}{i:Nat}{d:α}(h:i<l.length)(hp:p (l.getD i d)=false):l.all p=false:=by
 rw[List.all_eq_false]
 refine⟨l.getD i d,?_,by rw[hp];decide⟩
 rw[YQ,YX h];exact List.getElem_mem h
theorem all_true{α:Type}{l:List α}{p:α->Bool}{d:α}(hp:∀ j,j<l.length->p (l.getD j d)=true):l.all p=true:=by
 rw[Y6]
 intro x hx
 obtain⟨j,hj,rfl⟩:=List.getElem_of_mem hx
 have:=hp j hj
 rwa [YQ,YX hj]at this
theorem bS{p:Nat->Prop}{i:Nat}(h:∀ j,j<i->p j)(hi:p i):∀ j,j<i+1->p j:=fun j hj=>by
 rcases Nat.lt_succ_iff_lt_or_eq.1 hj with h' | rfl
 exact h j h'
 exact hi
def ae(c:UInt8):BL->BL×BL×Bool
 | []=>([],[],false)
 | x::r=>if x=c then ([],r,true) else (x::(ae c r).1,(ae c r).2.1,(ae c r).2.2)
def gL(b:UInt8):Bool:=decide (97<=b.toNat/\b.toNat<=122)
def dV(b:UInt8):Bool:=decide ((97<=b.toNat/\b.toNat<=122)\/(48<=b.toNat/\b.toNat<=57)\/b.toNat=46\/b.toNat=45)
def cB(b:UInt8):Int:=if 48<=b.toNat/\b.toNat<=57 then b.toNat-48 else if 97<=b.toNat/\b.toNat<=102 then b.toNat-87 else if 65<=b.toNat/\b.toNat<=70 then b.toNat-55 else -1
def A7(n lo hi:Int):Bool:=decide (lo<=n/\n<=hi)
def fG(s:BL):Bool:=s.all gL
def cM(s:BL):Bool:=fG s&&A7 s.length 1 5
def bn(s:BL):Bool:=fG s&&A7 s.length 1 8
def fi(s part:BL)(from_:Nat):Int:=
 if h:from_+part.length<=s.length then (if (s.drop from_).take part.length=part then (from_:Int) else fi s part (from_+1)) else -1
 termination_by s.length+1-from_
def iH(b:UInt8):Bool:=dV b||decide (b.toNat=47\/b.toNat=42\/b.toNat=63\/b.toNat=37\/(65<=b.toNat/\b.toNat<=70))
def kT(p:BL)(j:Nat):Bool:=iH (p.getD j 0)||(decide ((p.getD j 0).toNat=36)&&decide (j+1=p.length))
def aN(p:BL):Bool:=decide (1<=p.length/\p.length<=16/\(p.getD 0 0).toNat=47/\∀ j,j<p.length->kT p j=true)
def kg:BL:=[48,49,50,51,52,53,54,55,56,57,65,66,67,68,69,70]
def eY(b:UInt8):BL:=[37,kg.getD (b.toNat / 16) 0,kg.getD (b.toNat % 16) 0]
def eK(b:UInt8):BL:=if dV b then [b] else eY b
def dh(a b:UInt8):UInt8:=UInt8.ofNat (cB a*16+cB b).toNat
def bN:BL->Option BL
 | []=>some []
 | [c]=>if c.toNat=37 then none else some (eK c)
 | [c,d]=>if c.toNat=37\/d.toNat=37 then none else some (eK c++eK d)
 | c::a::b::r=>if c.toNat=37 then (if 0<=cB a/\0<=cB b then (bN r).map (eK (dh a b)++ ·) else none) else (bN (a::b::r)).map (eK c++ ·)
def bU(s:BL):BL×Bool:=if s.length<=60 then (match bN s with | some x=>(x,true) | none=>([],false)) else ([],false)
def eW(s:BL):Bool:=(bU s).2&&((bU s).1==s)
theorem Eh{c:UInt8}{r:BL}(h: ¬ c.toNat=37):bN (c::r)=(bN r).map (eK c++ ·):=by
 match r with
 | []=>simp[bN,h]
 | [d]=>by_cases hd:d.toNat=37 <;> simp[bN,h,hd]
 | a::b::r=>simp[bN,h]
theorem nO{s:BL}{i:Nat}(hi:i<s.length)(h: ¬ (s.getD i 0).toNat=37):bN (s.drop i)=(bN (s.drop (i+1))).map (eK (s.getD i 0)++ ·):=by
 rw[drop_cons hi 0,Eh h]
theorem pV{s:BL}{i:Nat}(hi:i+2<s.length)(h:(s.getD i 0).toNat=37)(h1:0<=cB (s.getD (i+1) 0))(h2:0<=cB (s.getD (i+2) 0)):
 bN (s.drop i)=(bN (s.drop (i+3))).map (eK (dh (s.getD (i+1) 0) (s.getD (i+2) 0))++ ·):=by
 rw[drop_cons (by omega:i<s.length) 0,drop_cons (by omega:i+1<s.length) 0,drop_cons (by omega:i+1+1<s.length) 0]
 simp only[bN,h,if_true,h1,h2,and_self,Zn]
theorem yL{s:BL}{i:Nat}(hi:i<s.length)(h:(s.getD i 0).toNat=37)(h1:s.length<=i+2\/cB (s.getD (i+1) 0)<0\/cB (s.getD (i+2) 0)<0):bN (s.drop i)=none:=by
 rw[drop_cons hi 0]
 by_cases h2:i+2<s.length
 rw[drop_cons (by omega:i+1<s.length) 0,drop_cons (by omega:i+1+1<s.length) 0]
 simp only[bN,h,if_true]
 rw[if_neg]
 rintro⟨k1,k2⟩
 have e:i+1+1=i+2:=rfl
 rw[e]at k2
 omega
 by_cases h3:i+1<s.length
 rw[drop_cons h3 0,Zc Z9]
 simp only[bN,h,true_or,if_true]
 rw[Zc Z9]
 simp only[bN,h,if_true]
theorem fL(b:UInt8):cB b<16:=by unfold cB;repeat (split <;> try omega)
theorem ik(b:UInt8): -1<=cB b:=by unfold cB;repeat (split <;> try omega)
theorem tL{a b:UInt8}(h1:0<=cB a)(h2:0<=cB b):((dh a b).toNat:Int)=cB a*16+cB b:=by
 have:=fL a;have:=fL b
 unfold dh
 rw[UInt8.toNat_ofNat']
 omega
theorem qE{α:Type}{l:List α}{k:Nat}(h:k<l.length)(d:α):(l.take (k+1)).drop k=[l.getD k d]:=by
 rw[bg h d,List.drop_append_of_le_length Z0,Zc Z0];rfl
theorem eU(b:UInt8):(eK b).length<=3:=by unfold eK eY;split <;> simp
theorem sZ:∀ (s:BL) {x:BL},bN s=some x->x.length<=3*s.length
 | [],x,h=>by simp[bN]at h;subst h;simp
 | [c],x,h=>by
   simp only[bN]at h;split at h
   simp at h
   simp only[YR]at h;subst h;have:=eU c;simpa using this
 | [c,d],x,h=>by
   simp only[bN]at h;split at h
   simp at h
   simp only[YR]at h;subst h;have:=eU c;have:=eU d;simp;omega
 | c::a::b::r,x,h=>by
   simp only[bN]at h
   split at h
   split at h
   simp only[Option.map_eq_some_iff]at h
   obtain⟨y,hy,rfl⟩:=h
   have:=sZ r hy;have:=eU (dh a b);simp;omega
   simp at h
   simp only[Option.map_eq_some_iff]at h
   obtain⟨y,hy,rfl⟩:=h
   have:=sZ (a::b::r) hy;have:=eU c;simp at *;omega
theorem pZ(s:BL):(bU s).1.length<=180:=by
 unfold bU
 split
 split
 rename_i x h;have:=sZ s h;simp only;omega
 simp
 simp
def ah(c:UInt8):BL->List BL
 | []=>[[]]
 | x::r=>if x=c then []::ah c r else (x::(ah c r).headD [])::(ah c r).tail
theorem vr(c:UInt8):∀ r,ah c r=(ae c r).1::(if (ae c r).2.2=true then ah c (ae c r).2.1 else [])
 | []=>rfl
 | x::r=>by
   have ih:=vr c r
   by_cases h:x=c
   simp only[ah,ae,if_pos h,if_true]
   simp only[ah,ae,if_neg h]
   rw[ih];rfl
theorem zu(c:UInt8):∀ r,(ae c r).2.2=true->(ae c r).2.1.length<r.length
 | [],h=>by simp[ae]at h
 | x::r,h=>by
   simp only[ae]at h ⊢
   by_cases e:x=c
   rw[if_pos e];simp
   rw[if_neg e]at h ⊢
   have:=zu c r h
   simp only[YV];omega
theorem lN(c:UInt8):∀ r,(ae c r).1.length+(ae c r).2.1.length<=r.length
 | []=>by simp[ae]
 | x::r=>by
   simp only[ae]
   by_cases e:x=c
   rw[if_pos e];simp
   rw[if_neg e];have:=lN c r;simp only[YV];omega
def cR(o:List BL)(p:BL):List BL:=if p=[]\/p=[46] then o else if p=[46,46] then o.dropLast else o++[p]
def bX(ps:List BL):List BL:=ps.foldl cR []
theorem gW{ps:List BL}{i:Nat}(h:i<ps.length):bX (ps.take (i+1))=cR (bX (ps.take i)) (ps.getD i []):=by
 unfold bX
 rw[bg h [],List.foldl_append];rfl
structure r8 where
 c5:BL
 b9:List BL
 asks:Bool
 ask:BL
def ck:List BL->BL
 | []=>[]
 | [p]=>p
 | p::q::r=>p++[47]++ck (q::r)
theorem mi(p:BL):∀ (ps:List BL),ck (ps++[p])=if ps=[] then p else ck ps++[47]++p
 | []=>rfl
 | [q]=>by simp[ck]
 | q::r::t=>by
   have:=mi p (r::t)
   simp only[List.cons_append,ck]at this ⊢
   rw[this,if_neg Z8,if_neg Z8]
   simp[List.append_assoc]
def bj(a:r8):BL:=[47]++ck a.b9++(if a.asks=true then [63]++a.ask else [])
def cJ(a:r8):BL:=[47,47]++a.c5++bj a
def ej(p:BL):Bool:=eW p&&!(p==[])&&!(p==[46])&&!(p==[46,46])
def aG(a:r8):Bool:=cM a.c5&&decide (a.b9.length<=5)&&eW a.ask&&(a.asks||a.ask==[])&&a.b9.all ej&&decide ((cJ a).length<=60)
def dZ(a:r8):Prop:=a.c5.length<=1048576/\a.ask.length<=1048576/\a.b9.length<=1048576/\∀ i,(a.b9.getD i []).length<=1048576
theorem qU{ps:List BL}(h:∀ i,(ps.getD i []).length<=1048576):∀ i,i<=ps.length->(ck (ps.take i)).length<=i*1048577
 | 0,_=>by simp[ck]
 | i+1,hi=>by
   have:=qU h i Z9
   have h2:=h i
   rw[bg (by omega:i<ps.length) [],mi]
   split
   omega
   simp only[YT,YV,YY];omega
theorem Ei{a:r8}(h:dZ a):(bj a).length<=2199023255552:=by
 obtain⟨h1,h2,h3,h4⟩:=h
 have:=qU h4 a.b9.length (Zg _)
 rw[List.take_length]at this
 unfold bj
 split <;> simp <;> omega
theorem nQ{s:BL}(h:eW s=true):s.length<=60:=by
 unfold eW bU at h
 split at h
 assumption
 simp at h
def dM(b:UInt8):UInt8:=if 65<=b.toNat/\b.toNat<=90 then b+32 else b
def aT(s:BL):BL:=s.map dM
theorem wX{x:UInt8}(h:65<=x.toNat/\x.toNat<=90):(dM x).toNat=x.toNat+32:=by
 unfold dM
 rw[if_pos h,UInt8.toNat_add]
 have:(32:UInt8).toNat=32:=rfl
 omega
theorem rH{s l:BL}{i:Nat}(hi:i<s.length)(h:l=aT (s.take i)++s.drop i):l.getD i 0=s.getD i 0:=by
 have hl:(aT (s.take i)).length=i:=by simp[aT];omega
 rw[h,YQ,Y8 Z9,hl,Nat.sub_self,drop_cons hi 0];rfl
theorem ur{s l:BL}{i:Nat}(hi:i<s.length)(h:l=aT (s.take i)++s.drop i):l.set i (dM (s.getD i 0))=aT (s.take (i+1))++s.drop (i+1):=by
 have hl:(aT (s.take i)).length=i:=by simp[aT];omega
 rw[h,List.set_append_right _ _ Z9,hl,Nat.sub_self,drop_cons hi 0,bg hi 0]
 simp[aT]
theorem xu{s l:BL}{i:Nat}(hi:i<s.length)(h:l=aT (s.take i)++s.drop i):l.set i (dM (l.getD i 0))=aT (s.take (i+1))++s.drop (i+1):=by
 rw[rH hi h];exact ur hi h
theorem uK{s l:BL}{i:Nat}(hi:i<s.length)(h:l=aT (s.take i)++s.drop i)(hn: ¬ (65<=(l.getD i 0).toNat/\(l.getD i 0).toNat<=90)):l=aT (s.take (i+1))++s.drop (i+1):=by
 rw[<- ur hi h]
 rw[rH hi h]at hn
 rw[show dM (s.getD i 0)=s.getD i 0 from if_neg hn,<- rH hi h]
 have hlt:i<l.length:=by rw[h];simp[aT];omega
 apply List.ext_getElem?
 intro j
 by_cases e:i=j
 subst e;simp[hlt]
 rw[List.getElem?_set_ne e]
def oA(o:Option r8):r8:=o.getD ⟨[],[],false,[]⟩
def eN(x:BL):BL:=(bU x).1
def fj(x:BL):Bool:=(bU x).2
def cy(h:BL)(fr:List BL)(n8:BL):Option r8:=
 if ((ah 47 (ae 63 n8).1).all fj&&fj (ae 63 n8).2.1)=true then
  (if aG ⟨h,bX (fr++(ah 47 (ae 63 n8).1).map eN),(ae 63 n8).2.2,eN (ae 63 n8).2.1⟩=true then some ⟨h,bX (fr++(ah 47 (ae 63 n8).1).map eN),(ae 63 n8).2.2,eN (ae 63 n8).2.1⟩ else none) else none
theorem rm(c:UInt8):∀ s:BL,(ah c s).length<=s.length+1
 | []=>by simp[ah]
 | x::r=>by
   have:=rm c r
   simp only[ah]
   split
   simp;omega
   simp;omega
theorem DT(l:List BL)(n:Nat)(h:∀ p∈l,p.length<=n):(l.headD []).length<=n:=by
 cases l with
 | nil=>simp
 | cons a l=>exact h a Z8
theorem xG(c:UInt8):∀ (s:BL),∀ p∈ah c s,p.length<=s.length
 | [],p,hp=>by simp[ah]at hp;subst hp;simp
 | x::r,p,hp=>by
   have ih:=xG c r
   simp only[ah]at hp
   split at hp
   simp only[List.mem_cons]at hp
   rcases hp with rfl | hp
   simp
   have:=ih p hp;simp;omega
   simp only[List.mem_cons]at hp
   rcases hp with rfl | hp
   have:=DT _ _ ih;simp at this ⊢;omega
   have:=ih p (List.mem_of_mem_tail hp);simp;omega
theorem kP{ps:List BL}{n:Nat}(h:∀ p∈ps,p.length<=n)(i:Nat):(ps.getD i []).length<=n:=by
 rw[YQ]
 cases e:ps[i]? with
 | none=>simp
 | some p=>exact h p (Zb e)
theorem qP(c:UInt8)(s:BL)(i:Nat):((ah c s).getD i []).length<=s.length:=kP (xG c s) i
theorem vh(ps:List BL):∀ (o:List BL),(∀ p∈ps.foldl cR o,p∈o\/p∈ps)/\(ps.foldl cR o).length<=o.length+ps.length:=by
 induction ps with
 | nil=>intro o;exact⟨fun p h=>.inl h,Z8⟩
 | cons q ps ih=>
   intro o
   obtain⟨h1,h2⟩:=ih (cR o q)
   have hs:(∀ p∈cR o q,p∈o\/p=q)/\(cR o q).length<=o.length+1:=by
    unfold cR
    split
    exact⟨fun p h=>.inl h,Z9⟩
    split
    exact⟨fun p h=>.inl (List.dropLast_subset _ h),Z0⟩
    exact⟨fun p h=>by simpa using h,Z8⟩
   refine⟨fun p hp=>?_,by simp only[List.foldl_cons,YV];omega⟩
   rcases h1 p hp with h | h
   rcases hs.1 p h with h | h
   exact .inl h
   exact .inr (by simp[h])
   exact .inr (by simp[h])
theorem wU{ps:List BL}{p:BL}(h:p∈bX ps):p∈ps:=by
 rcases (vh ps []).1 p h with h | h
 simp at h
 exact h
theorem xx(ps:List BL):(bX ps).length<=ps.length:=by have:=(vh ps []).2;simp only[YY,Y0]at this;exact this
theorem Ke{a:r8}{ls:List BL}{k:Bool}{q:BL}(ha:dZ a)(hp:a.b9.length<=1000)(hl:ls.length<=2000):dZ ⟨a.c5,bX (a.b9++ls.map eN),k,eN q⟩:=by
 obtain⟨h1,h2,h3,h4⟩:=ha
 refine⟨h1,?_,?_,fun i=>?_⟩
 have:=pZ q;simp only[eN];omega
 have:=xx (a.b9++ls.map eN);simp only[YT,Y2]at this ⊢;omega
 refine kP (n:=1048576) (fun p Vq=>?_) i
 rcases Y1.1 (wU Vq) with h | h
 obtain⟨j,hj,rfl⟩:=List.getElem_of_mem h
 have:=h4 j
 rwa [YQ,YX hj]at this
 obtain⟨y,_,rfl⟩:=List.mem_map.1 h
 have:=pZ y;simp only[eN];omega
def ir(c:UInt8):Bool:=decide (¬ (c.toNat=47\/c.toNat=63))
theorem yY{s:BL}{p:UInt8->Bool}:∀ {i:Nat},i<=s.length->(∀ j,j<i->p (s.getD j 0)=true)->(i=s.length\/p (s.getD i 0)=false)->s.takeWhile p=s.take i/\s.dropWhile p=s.drop i:=by
 induction s with
 | nil=>intro i hi _ _;simp
 | cons x s ih=>
   intro i hi h1 h2
   cases i with
   | zero=>
     rcases h2 with h2 | h2
     simp at h2
     have:p x=false:=by simpa using h2
     simp[List.takeWhile_cons,List.dropWhile_cons,this]
   | succ i=>
     have hx:p x=true:=by simpa using h1 0 Z9
     obtain⟨k1,k2⟩:=ih (i:=i) (by simpa using hi) (fun j hj=>by have:=h1 (j+1) Z9;simpa using this) (by
      rcases h2 with h2 | h2
      left;simpa using h2
      right;simpa using h2)
     simp[List.takeWhile_cons,List.dropWhile_cons,hx,k1,k2]
def dA(rest:BL):Option r8:=cy (aT (rest.takeWhile ir)) [] (rest.dropWhile ir)
def aw(raw:BL):Option r8:=
 if raw.length<=60/\2<=(ae 35 raw).1.length/\(ae 35 raw).1.take 2=[47,47] then dA ((ae 35 raw).1.drop 2) else none
def bE(a:r8):BL:=if aG a=true then cJ a else []
def az(s:BL):Bool:=(aw s).isSome&&(bE (oA (aw s))==s)
theorem Kq{h:BL}{fr:List BL}{n8:BL}{a:r8}(e:cy h fr n8=some a):aG a=true:=by
 unfold cy at e
 split at e
 split at e
 rename_i hk;simp only[YR]at e;subst e;exact hk
 simp at e
 simp at e
theorem Jl{s:BL}{a:r8}(e:aw s=some a):aG a=true:=by
 unfold aw at e
 split at e
 exact Kq e
 simp at e
theorem Mf{a:r8}(h:aG a=true):dZ a:=by
 unfold aG cM A7 at h
 simp only[YS,Zo,Y6]at h
 obtain⟨⟨⟨⟨⟨⟨_,h1⟩,h2⟩,h3⟩,_⟩,h4⟩,_⟩:=h
 have:=nQ h3
 refine⟨Z9,Z9,Z9,fun i=>kP (n:=1048576) (fun p hp=>?_) i⟩
 have:=h4 p hp
 unfold ej at this
 simp only[YS]at this
 have:=nQ this.1.1.1
 omega
theorem uq(s:BL):dZ (oA (aw s)):=by
 cases e:aw s with
 | none=>exact⟨by simp[oA],by simp[oA],by simp[oA],by simp[oA]⟩
 | some a=>exact Mf (Jl e)
def fe(p:BL):Bool:=decide ((p.getD (p.length-1) 0).toNat=36)
def bH(p:BL):BL:=if fe p=true then p.take (p.length-1) else p
def lI(e:Bool)(s:BL):Nat->List BL->Bool
 | at_,[]=>!e||decide (at_=s.length)
 | at_,p::r=>if (e&&r.isEmpty)=true then decide (at_+p.length<=s.length)&&(s.drop (s.length-p.length)==p)
   else if fi s p at_<0 then false else lI e s ((fi s p at_).toNat+p.length) r
def tt(p s:BL):Bool:=
 ((ah 42 (bH p)).headD []).isPrefixOf s&&lI (fe p) s ((ah 42 (bH p)).headD []).length (ah 42 (bH p)).tail
theorem MI{e:Bool}{s p:BL}{q:Nat}{r:List BL}(h: ¬ (e=true/\r=[]))(hf:fi s p q<0):lI e s q (p::r)=false:=by
 simp only[lI]
 rw[if_neg (by simpa using h),if_pos hf]
structure s6 where
 I3:Bool
 path:BL
def cD(p s:BL):Bool:=aN p&&decide (s.length<=60)&&tt p s
def dO(s:BL)(x:Int×Bool)(r:s6):Int×Bool:=
 if cD r.path s=false\/(r.path.length:Int)<x.1 then x else (r.path.length,r.I3||(decide ((r.path.length:Int)=x.1)&&x.2))
def aD(rs:List s6)(s:BL):Bool:=(rs.foldl (dO s) (-1,true)).2
theorem uR{p:BL}(h:aN p=true):1<=p.length/\p.length<=16:=by
 unfold aN at h;simp only[Zo]at h;exact⟨h.1,h.2.1⟩
theorem foldl_succ{α β:Type}{f:β->α->β}{b:β}{l:List α}{i:Nat}{d:α}(h:i<l.length):(l.take (i+1)).foldl f b=f ((l.take i).foldl f b) (l.getD i d):=by
 rw[bg h d,List.foldl_append];rfl
abbrev au(r:s6):V:=.agg [bV r.I3,sV r.path]
def jq(m:Int)(n:Int)(c:UInt8):Int:=min (n*10+(c.toNat-48)) m
def iO(s:BL)(m:Int):Int:=if s.all (fun c=>decide (48<=c.toNat/\c.toNat<=57))=true then s.foldl (jq m) 0 else 0
structure k9 where
 na:List BL
 ru:List s6
 wa:Nat
abbrev bO(g:k9):V:=.agg [.sl false (g.na.map sV),.sl false (g.ru.map au),iV g.wa]
def iY:List BL:=[[47],[47,97],[47,98],[47,97,47],[47,42,98],[47,97,36],[47,99],[47,42,63],[47,97,47,98],[47,42,47,98,36],[47,36],[47,98,42,99],[47,110,111,116,105,99,101],[47,42]]
def aP:List BL:=[[97,98],[99,100],[101],[102,111,120]]
def m5(s:BL):Prop:= ∀ c,c∈s->c.toNat<128
def Gw(s:BL):Bool:=s.all fun c=>decide (c.toNat<128)
theorem bJ{s:BL}(h:Gw s=true):m5 s:=fun c hc=>by
 have:=Y6.1 h c hc;simpa using this
theorem aZ:m5 []:=fun c hc=>by simp at hc
theorem m5.app{a b:BL}(h1:m5 a)(h2:m5 b):m5 (a++b):=fun c hc=>(Y1.1 hc).elim (h1 c) (h2 c)
theorem dK{l:List BL}{x:BL}(h:l.all Gw=true)(hx:x∈l):m5 x:=bJ (Y6.1 h x hx)
theorem eD{l:List BL}(h:l.all Gw=true)(i:Nat):m5 (l.getD i []):=by
 rw[YQ]
 cases e:l[i]? with
 | none=>exact aZ
 | some x=>exact dK h (Zb e)
structure C5 (g:k9):Prop where
 nl:g.na.length<=2
 nb:∀ x,x∈g.na->x.length<=5
 rl:g.ru.length<=4
 rb:∀ r,r∈g.ru->r.path∈iY
 w:g.wa<=6
 ac:∀ x,x∈g.na->m5 x
theorem bP{l:List BL}{n:Nat}(h:l.all (fun x=>Nat.ble x.length n)=true){x:BL}(hx:x∈l):x.length<=n:=Nat.le_of_ble_eq_true (Y6.1 h x hx)
theorem gJ{α:Type}{P:α->Prop}{l:List α}{x:α}(h:∀ y,y∈l->P y)(hx:P x):∀ y,y∈l++[x]->P y:=fun y hy=>by
 rcases Y1.1 hy with q | q
 exact h y q
 rw[YZ.1 q];exact hx
abbrev zqR:s6:=⟨false,[]⟩
abbrev zqG:k9:=⟨[],[],0⟩
structure Pg where
 addr:BL
 text:BL
 lead:BL
 m0:Int
def m4:Pg:=⟨[],[],[],0⟩
def B7:List Pg->BL->Pg×Bool
 | [],_=>(m4,false)
 | p::r,a=>if p.addr=a then (p,true) else B7 r a
theorem Cr{l:List BL}(h:l.length<=2)(hx:∀ x,x∈l->x.length<=6):(ck l).length<=13:=by
 match l,h with
 | [],_=>simp[ck]
 | [x],_=>have:=hx x Z8;simp[ck];omega
 | [x,y],_=>have:=hx x Z8;have:=hx y Z8;simp[ck];omega
theorem db{l:List BL}{n:Nat}(h:l.all (fun x=>Nat.ble x.length n)=true)(i:Nat):(l.getD i []).length<=n:=by
 rw[YQ]
 cases e:l[i]? with
 | none=>simp
 | some x=>exact bP h (Zb e)
theorem og{a:r8}(h1:a.c5.length<=3)(h2:a.b9.length<=2)(h3:∀ x,x∈a.b9->x.length<=6)(h4:a.ask.length<=5):dZ a/\(bE a).length<=25:=by
 refine⟨⟨Z9,Z9,Z9,fun i=>?_⟩,?_⟩
 rw[YQ]
 cases e:a.b9[i]? with
 | none=>simp
 | some x=>have:=h3 x (Zb e);simp;omega
 have:=Cr h2 h3
 unfold bE cJ bj
 split
 split <;> simp <;> omega
 simp
def dL(n:Nat):BL:=if n<10 then [UInt8.ofNat (48+n)] else dL (n / 10)++[UInt8.ofNat (48+n % 10)]
 termination_by n
theorem qm(n:Nat)(h:n<=1000000):(dL n).length<=7:=by
 have:∀ k n,n<10 ^ (k+1)->(dL n).length<=k+1:=by
  intro k
  induction k with
  | zero=>intro n hn;rw[dL,if_pos Z9];simp
  | succ k ih=>
    intro n hn
    rw[dL]
    split
    simp
    have:=ih (n / 10) (by rw[Nat.pow_succ]at hn;omega)
    simp;omega
 exact this 6 n Z9
abbrev r5(p:Pg):V:=.agg [sV p.addr,sV p.text,sV p.lead,iV p.m0]
theorem sA{gs:List k9}(hg:∀ y,y∈gs->C5 y)(i:Nat):C5 (gs.getD i ⟨[],[],0⟩):=by
 rw[YQ]
 cases e:gs[i]? with
 | none=>exact⟨Z8,Z8,Z8,Z8,Z8,Z8⟩
 | some x=>exact hg x (Zb e)
theorem fQ{gs:List k9}(hg:∀ y,y∈gs->C5 y)(i k:Nat):((gs.getD i ⟨[],[],0⟩).na.getD k []).length<=5:=by
 rw[YQ (l:=k9.na _)]
 cases e:(gs.getD i ⟨[],[],0⟩).na[k]? with
 | none=>simp
 | some x=>exact(sA hg i).nb x (Zb e)
theorem rC{gs:List k9}(hg:∀ y,y∈gs->C5 y)(i k:Nat):m5 ((gs.getD i ⟨[],[],0⟩).na.getD k []):=by
 rw[YQ (l:=k9.na _)]
 cases e:(gs.getD i ⟨[],[],0⟩).na[k]? with
 | none=>exact aZ
 | some x=>exact(sA hg i).ac x (Zb e)
theorem qS{gs:List k9}(hg:∀ y,y∈gs->C5 y)(i k:Nat):m5 ((gs.getD i ⟨[],[],0⟩).ru.getD k ⟨false,[]⟩).path:=by
 rw[YQ (l:=k9.ru _)]
 cases e:(gs.getD i ⟨[],[],0⟩).ru[k]? with
 | none=>exact aZ
 | some x=>exact dK rfl ((sA hg i).rb x (Zb e))
theorem fT{gs:List k9}(hg:∀ y,y∈gs->C5 y)(i k:Nat):((gs.getD i ⟨[],[],0⟩).ru.getD k ⟨false,[]⟩).path.length<=7:=by
 rw[YQ (l:=k9.ru _)]
 cases e:(gs.getD i ⟨[],[],0⟩).ru[k]? with
 | none=>simp
 | some x=>exact bP rfl ((sA hg i).rb x (Zb e))
theorem qF:∀ {l:List BL},(∀ x,x∈l->m5 x)->m5 (ck l)
 | [],_=>aZ
 | [p],h=>h p Z8
 | p::q::r,h=>((h p Z8).app (bJ rfl)).app (qF fun x hx=>h x (by simp[hx]))
theorem Be{a:r8}(h1:m5 a.c5)(h2:∀ x,x∈a.b9->m5 x)(h3:m5 a.ask):m5 (bE a):=by
 unfold bE cJ bj
 split
 refine((bJ rfl).app h1).app (((bJ rfl).app (qF h2)).app ?_)
 split
 exact(bJ rfl).app h3
 exact aZ
 exact aZ
theorem lj(n:Nat):m5 (dL n):=by
 induction n using Nat.strongRecOn with
 | ind n ih=>
   rw[dL]
   split
   intro c hc
   rw[YZ.1 hc,UInt8.toNat_ofNat'];omega
   refine(ih (n / 10) Z9).app ?_
   intro c hc
   rw[YZ.1 hc,UInt8.toNat_ofNat'];omega
structure m9 (y:Pg):Prop where
 a:y.addr.length<=30
 t:y.text.length<=300
 l:y.lead.length<=30
 f:0<=y.m0/\y.m0<=10
 aa:m5 y.addr
 la:m5 y.lead
 ta:m5 y.text
theorem It{w:List Pg}{a:BL}(h:(B7 w a).2=true):1<=w.length:=by
 cases w with
 | nil=>simp[B7]at h
 | cons p r=>simp
theorem qi{l:List Int}(h:l.all (fun x=>decide (0<=x/\x<=10))=true)(i:Nat):0<=l.getD i 0/\l.getD i 0<=10:=by
 rw[YQ]
 cases e:l[i]? with
 | none=>simp
 | some x=>simpa using Y6.1 h x (Zb e)
theorem gH{w:List Pg}(h:∀ y,y∈w->m9 y)(i:Nat):m9 (w.getD i m4):=by
 rw[YQ]
 cases e:w[i]? with
 | none=>exact⟨by simp[m4],by simp[m4],by simp[m4],by simp[m4],aZ,aZ,aZ⟩
 | some x=>exact h x (Zb e)
theorem vH{α:Type}{P:α->Prop}{l:List α}{i:Nat}{x:α}(h:∀ y,y∈l->P y)(hx:P x):∀ y,y∈l.set i x->P y:=fun y hy=>by
 rcases List.mem_or_eq_of_mem_set hy with q | q
 exact h y q
 rw[q];exact hx
theorem aI{xs:List V}{j sz g0 o0 g o c:Nat}{v:V}{p:List Nat}{r:Nat×Nat×V}(h:xs[j]? =some v)(e:V.at g (o+j*sz) v p=some r):V.at g0 o0 (.own sz xs g o c) (j::p)=some r:=by simp only[V.at,h];exact e
theorem aV{xs ys:List V}{j sz g o c:Nat}{x v:V}{p:List Nat}(h:xs[j]? =some x)(e:xs.set j (V.set x p v)=ys):V.set (.own sz xs g o c) (j::p) v=.own sz ys g o c:=by simp only[V.set,h,e]
def dS(y:Pg):Bool:=az y.addr&&decide (y.text.length<=300)&&A7 y.m0 0 9&&(y.lead==[]||(y.text==[]&&az y.lead))
def an(w:List Pg):Bool:=decide (∀ i,i<w.length->dS (w.getD i m4)=true/\∀ k,k<i->(w.getD k m4).addr≠(w.getD i m4).addr)&&decide (w.length<=12)
def ag(h:BL):BL:=[47,47]++h++[47,110,111,116,105,99,101]
def af(w:List Pg)(a:BL)(n:Int):Int×BL:=
 if (B7 w a).2=false then (0,[]) else if n<(B7 w a).1.m0 then (3,[]) else if (B7 w a).1.lead=[] then (1,(B7 w a).1.text) else (2,(B7 w a).1.lead)
theorem JM{y:Pg}(h:((az y.addr=true/\(y.text.length:Int)<=300)/\A7 y.m0 0 9=true)/\(¬ y.lead=[]->y.text=[]/\az y.lead=true)):dS y=true:=by
 unfold dS
 obtain⟨⟨⟨h1,h2⟩,h3⟩,h4⟩:=h
 rw[h1,h3,decide_eq_true Z9]
 by_cases hl:y.lead=[]
 simp[hl]
 obtain⟨h5,h6⟩:=h4 hl
 simp[h5,h6]
theorem KW{y:Pg}(h:((az y.addr=false\/300<(y.text.length:Int))\/A7 y.m0 0 9=false)\/¬ y.lead=[]/\(¬ y.text=[]\/az y.lead=false)):dS y=false:=by
 unfold dS
 rcases h with ((h | h) | h) | ⟨h,h' | h'⟩
 simp[h]
 rw[decide_eq_false Z9];simp
 simp[h]
 simp[h,h']
 simp[h,h']
theorem wW{w:List Pg}{i:Nat}(hi:i<w.length)(h: ¬ (dS (w.getD i m4)=true/\∀ k,k<i->(w.getD k m4).addr≠(w.getD i m4).addr)):an w=false:=by
 unfold an
 rw[decide_eq_false (fun c=>h (c i hi))];rfl
theorem CZ{w:List Pg}(h:∀ i,i<w.length->dS (w.getD i m4)=true/\∀ k,k<i->(w.getD k m4).addr≠(w.getD i m4).addr):an w=decide (w.length<=12):=by
 unfold an
 rw[decide_eq_true h];rfl
def cX(gs:List k9)(f:k9->k9):List k9:=match gs.getLast? with
 | none=>gs
 | some z=>gs.dropLast++[f z]
def ia(gs:List k9):Nat:=match gs.getLast? with
 | none=>0
 | some z=>z.ru.length
def fm(gs:List k9)(w r:BL)(b:Bool):List k9×Bool:=
 if w=[99,97,108,108,101,114]/\(r=[42]\/bn r=true) then
  if b=true\/gs=[] then (gs++[⟨[r],[],0⟩],false) else (cX gs fun z=>⟨z.na++[r],z.ru,z.wa⟩,false)
 else if gs=[] then (gs,b)
 else if (w=[108,101,116]\/w=[98,97,114])/\aN r=true/\ia gs<6 then (cX gs fun z=>⟨z.na,z.ru++[⟨w==[108,101,116],r⟩],z.wa⟩,true)
 else if w=[119,97,105,116] then (cX gs fun z=>⟨z.na,z.ru,(iO r 20).toNat⟩,true)
 else (gs,b)
theorem dW(l:List k9)(z:k9)(f:k9->k9):cX (l++[z]) f=l++[f z]:=by simp[cX]
theorem mB(l:List k9)(z:k9):ia (l++[z])=z.ru.length:=by simp[ia]
theorem jU{α:Type}{l:List α}(h:l≠[]):∃ x:List α×α,l=x.1++[x.2]:=⟨(l.dropLast,l.getLast h),(List.dropLast_concat_getLast h).symm⟩
theorem Ax{m:Int}(hm:0<=m){n:Int}(hn:0<=n){c:UInt8}(hc:48<=c.toNat):0<=jq m n c:=by
 unfold jq
 omega
theorem JE{s:BL}{m:Int}(hm:0<=m):0<=iO s m:=by
 unfold iO
 split
 rename_i h
 rw[Y6]at h
 have:∀ (l:BL) (n:Int),0<=n->(∀ c,c∈l->48<=c.toNat)->0<=l.foldl (jq m) n:=by
  intro l
  induction l with
  | nil=>intro n hn _;exact hn
  | cons c l ih=>intro n hn hl;exact ih _ (Ax hm hn (hl c Z8)) fun d hd=>hl d (by simp[hd])
 exact this s 0 Z9 fun c hc=>by have:=h c hc;simp at this;exact this.1
 exact Int.le_refl 0
abbrev aR(g:k9):V:=.agg [.ow 1 (g.na.map sV),.ow 2 (g.ru.map au),iV g.wa]
theorem aX{α:Type}{f:α->V}{l:List α}{v:V}:(l.map f++[v])[l.length]? =some v:=Z8
theorem dw{α:Type}{f:α->V}{l:List α}{v u:V}:(l.map f++[v]).set l.length u=l.map f++[u]:=Z8
theorem IS(g:k9):(aR g).er=bO g:=by
 simp only[aR,V.er,V.B8,aM (f:=sV) (fun _=>rfl),aM (f:=au) (fun _=>rfl)]
theorem zm:∀ (l:List k9),V.B8 (l.map aR)=l.map bO
 | []=>rfl
 | g::l=>by simp only[Zi,V.B8,zm l];rw[IS]
def cI(x:List k9×Bool)(l:BL):List k9×Bool:=fm x.1 (ae 32 l).1 (ae 32 l).2.1 x.2
def cq(t:BL):List k9:=(((ah 10 t).take 40).foldl cI ([],false)).1
structure K0 (n:Nat) (gs:List k9):Prop where
 len:gs.length<=n
 each:∀ y,y∈gs->y.na.length<=n/\y.ru.length<=6
theorem K0.mono{n m:Nat}{gs:List k9}(h:K0 n gs)(hm:n<=m):K0 m gs:=⟨Nat.le_trans h.len hm,fun y hy=>⟨Nat.le_trans (h.each y hy).1 hm,(h.each y hy).2⟩⟩
theorem K0.set{n:Nat}{gs:List k9}{f:k9->k9}(h:K0 n gs)(hf:∀ z,gs.getLast? =some z->(f z).na.length<=n+1/\(f z).ru.length<=6):K0 (n+1) (cX gs f):=by
 unfold cX
 split
 exact h.mono Z9
 rename_i z hz
 refine⟨?_,fun y hy=>?_⟩
 have:=h.len
 have hne:gs≠[]:=by rintro rfl;simp at hz
 have:=List.length_pos_iff.2 hne
 simp;omega
 rcases Y1.1 hy with hy | hy
 have:=h.each y (List.dropLast_subset _ hy)
 exact⟨Z9,this.2⟩
 rw[YZ.1 hy];exact hf z hz
theorem IA{n:Nat}{gs:List k9}{w d:BL}{b:Bool}(h:K0 n gs):K0 (n+1) (fm gs w d b).1:=by
 have hl:∀ z,gs.getLast? =some z->z.na.length<=n/\z.ru.length<=6:=fun z hz=>h.each z (List.mem_of_getLast? hz)
 unfold fm
 split
 split
 refine⟨by have:=h.len;simp;omega,fun y hy=>?_⟩
 rcases Y1.1 hy with hy | hy
 have:=h.each y hy;exact⟨Z9,this.2⟩
 rw[YZ.1 hy];simp
 exact h.set fun z hz=>⟨by have:=hl z hz;simp;omega,(hl z hz).2⟩
 split
 exact h.mono Z9
 split
 rename_i hc
 refine h.set fun z hz=>⟨by have:=hl z hz;simp only;omega,?_⟩
 have:=hc.2.2
 unfold ia at this
 rw[hz]at this
 simp only at this
 simp only[YT,YV,YY];omega
 split
 exact h.set fun z hz=>⟨by have:=hl z hz;simp only;omega,(hl z hz).2⟩
 exact h.mono Z9
theorem DJ{α:Type}{l:List α}{i:Nat}(h1:i<=l.length)(h2:i<=40)(h:(i:Int)<l.length->(40:Int)<=i):l.take 40=l.take i:=by
 rcases Nat.lt_or_ge i l.length with hl | hl
 have:=h Z9
 rw[show i=40 from Z9]
 rw[Y3 Z9,Y3 Z9]
def cm(n:BL)(x:(List s6×Nat)×Bool)(g:k9):(List s6×Nat)×Bool:=if g.na.any (fun y=>y==n)=true then ((x.1.1++g.ru,max x.1.2 g.wa),true) else x
def OD(gs:List k9)(n:BL):k9×Bool:=(⟨[n],(gs.foldl (cm n) (([],0),false)).1.1,(gs.foldl (cm n) (([],0),false)).1.2⟩,(gs.foldl (cm n) (([],0),false)).2)
def fc(gs:List k9)(n:BL):k9:=if (OD gs n).2=true then (OD gs n).1 else (OD gs [42]).1
theorem wS:∀ (l:List BL) {k:Nat} {x:List k9×Bool},K0 k x.1->K0 (k+l.length) (l.foldl cI x).1
 | [],k,x,h=>h
 | a::l,k,x,h=>by
   have:=wS l (k:=k+1) (x:=cI x a) (IA h)
   exact this.mono Z0
theorem nM(t:BL):K0 40 (cq t):=by
 have:=wS ((ah 10 t).take 40) (k:=0) (x:=([],false)) ⟨Z8,Z8⟩
 exact this.mono Z0
theorem K0.ru{n:Nat}{gs:List k9}(h:K0 n gs)(i:Nat):(gs.getD i ⟨[],[],0⟩).ru.length<=100/\(gs.getD i ⟨[],[],0⟩).na.length<=n:=by
 rw[YQ]
 cases e:gs[i]? with
 | none=>simp
 | some x=>have:=h.each x (Zb e);exact⟨by simp only[Option.getD_some];omega,this.1⟩
def bD(k:Int)(t n:BL):k9:=if k=1 then fc (cq t) n else if k=3 then ⟨[n],[⟨false,[47]⟩],0⟩ else fc [] n
def rn(w:List Pg)(d n:BL):k9:=
 if an w=true/\cM d=true/\bn n=true then ⟨[n],(bD (af w (ag d) 2).1 (af w (ag d) 2).2 n).ru,(bD (af w (ag d) 2).1 (af w (ag d) 2).2 n).wa⟩ else ⟨[],[],0⟩
theorem sy:∀ (w:List Pg) (a:BL),(B7 w a).2=true->∃ i,(B7 w a).1=w.getD i m4
 | [],a,h=>by simp[B7]at h
 | p::r,a,h=>by
   unfold B7 at h ⊢
   split
   exact⟨0,rfl⟩
   rename_i hp
   rw[if_neg hp]at h
   obtain⟨i,hi⟩:=sy r a h
   exact⟨i+1,by rw[hi];simp⟩
theorem ub{w:List Pg}{a:BL}{k:Int}{m:Nat}(h:∀ i,(w.getD i m4).text.length<=m/\(w.getD i m4).lead.length<=m):(af w a k).2.length<=m:=by
 unfold af
 split
 simp
 rename_i h1
 have h1:(B7 w a).2=true:=by simpa using h1
 obtain⟨i,hi⟩:=sy w a h1
 have:=h i
 rw[hi]
 split
 simp
 split <;> simp only <;> omega
def oC(gs:List k9):Prop:= ∀ y,y∈gs->∀ r,r∈y.ru->r.path.length<=16
theorem oC.set{gs:List k9}{f:k9->k9}(h:oC gs)(hf:∀ z,gs.getLast? =some z->∀ r,r∈(f z).ru->r.path.length<=16):oC (cX gs f):=by
 unfold cX
 split
 exact h
 rename_i z hz
 intro y hy
 rcases Y1.1 hy with hy | hy
 exact h y (List.dropLast_subset _ hy)
 rw[YZ.1 hy];exact hf z hz
theorem Jy{gs:List k9}{w d:BL}{b:Bool}(h:oC gs):oC (fm gs w d b).1:=by
 have hl:∀ z,gs.getLast? =some z->∀ r,r∈z.ru->r.path.length<=16:=fun z hz=>h z (List.mem_of_getLast? hz)
 unfold fm
 split
 split
 intro y hy
 rcases Y1.1 hy with hy | hy
 exact h y hy
 rw[YZ.1 hy];simp
 exact h.set fun z hz=>hl z hz
 split
 exact h
 split
 rename_i hc
 refine h.set fun z hz r hr=>?_
 rcases Y1.1 hr with hr | hr
 exact hl z hz r hr
 rw[YZ.1 hr];exact(uR hc.2.1).2
 split
 exact h.set fun z hz=>hl z hz
 exact h
theorem DL(t:BL):oC (cq t):=by
 have:∀ (l:List BL) (x:List k9×Bool),oC x.1->oC (l.foldl cI x).1:=by
  intro l
  induction l with
  | nil=>exact fun x h=>h
  | cons a l ih=>exact fun x h=>ih _ (Jy h)
 exact this _ _ (by intro y hy;simp at hy)
structure Uh (m:Nat) (x:(List s6×Nat)×Bool):Prop where
 l:x.1.1.length<=6*m
 r:∀ r,r∈x.1.1->r.path.length<=16
theorem HR(n:BL):∀ (gs:List k9) {m k:Nat} {x:(List s6×Nat)×Bool},Uh m x->K0 k gs->oC gs->Uh (m+gs.length) (gs.foldl (cm n) x)
 | [],m,k,x,h,_,_=>h
 | g::gs,m,k,x,h,h1,h2=>by
   have hs:Uh (m+1) (cm n x g):=by
    unfold cm
    split
    refine⟨?_,fun r hr=>?_⟩
    have:=h.l;have:=(h1.each g Z8).2;simp only[YT];omega
    rcases Y1.1 hr with hr | hr
    exact h.r r hr
    exact h2 g Z8 r hr
    exact⟨by have:=h.l;omega,h.r⟩
   have:=HR n gs (k:=k) hs ⟨by have:=h1.len;simp at this;omega,fun y hy=>h1.each y (by simp[hy])⟩ (fun y hy=>h2 y (by simp[hy]))
   rw[List.foldl_cons,YV,show m+(gs.length+1)=m+1+gs.length from Z9]
   exact this
theorem BM{gs:List k9}(n:BL)(h1:K0 40 gs)(h2:oC gs):(fc gs n).ru.length<=240/\∀ r,r∈(fc gs n).ru->r.path.length<=16:=by
 have key:∀ q,(OD gs q).1.ru.length<=240/\∀ r,r∈(OD gs q).1.ru->r.path.length<=16:=fun q=>by
  have:=HR q gs (m:=0) (x:=(([],0),false)) ⟨Z8,Z8⟩ h1 h2
  exact⟨by have h3:=this.l;have:=h1.len;unfold OD;simp only;omega,this.r⟩
 unfold fc
 split
 exact key n
 exact key [42]
theorem px(k:Int)(t n:BL):(bD k t n).ru.length<=240/\∀ r,r∈(bD k t n).ru->r.path.length<=16:=by
 unfold bD
 split
 exact BM n (nM t) (DL t)
 split
 exact⟨Z8,Z8⟩
 exact BM n ⟨Z8,Z8⟩ (fun y hy=>by simp at hy)
def dI(w:List Pg)(n p:BL):Bool:=an w&&bn n&&(aw p).isSome&&aD (rn w (oA (aw p)).c5 n).ru (bj (oA (aw p)))
def fg(s p:BL):Bool:=decide (p.length<=s.length)&&(s.take p.length==p)
def gK(s p:BL):Bool:=decide (p.length<=s.length)&&(s.drop (s.length-p.length)==p)
def cw(s p:BL):BL:=if gK s p=true then s.take (s.length-p.length) else s
theorem vo{s p:BL}(h:gK s p=true):p.length<=s.length:=by unfold gK at h;simp at h;exact h.1
theorem KX{s p:BL}(h:fg s p=true):p.length<=s.length:=by unfold fg at h;simp at h;exact h.1
def dJ(p:BL):Bool:=decide (1<=p.length/\p.length<=16/\(p.getD 0 0).toNat=47)&&(cw p [36]).all iH
end Go.Proofs.YtbjbamjffkanbaaGreatDoor
namespace Go.Proofs
open Go.Shelf
def Tryz.sJ:Go.Shelf.Ren:=⟨fun | 156=>137 | 165=>168 | 166=>169 | 169=>170 | 240=>187 | 241=>188 | 276=>199 | 277=>200 | n=>n,fun | 31=>24 | 9=>9 | 3=>3 | 4=>4 | 0=>0 | 20=>20 | 72=>223 | 76=>225 | 70=>221 | 37=>22 | 75=>116 | 127=>237 | 164=>242 | 5=>5 | 80=>227 | n=>n,fun | n=>n⟩
theorem Tryz.BA:Go.Proofs.Lays.n156 Tryz.prog Tryz.sJ:={
 mixed:=Z7
 f156:=Tryz.func137.trans (Zq some Z7)
 f165:=Tryz.func168.trans (Zq some Z7)
 f166:=Tryz.func169.trans (Zq some Z7)
 f169:=Tryz.func170.trans (Zq some Z7)
 f240:=Tryz.func187.trans (Zq some Z7)
 f241:=Tryz.func188.trans (Zq some Z7)
 f276:=Tryz.func199.trans (Zq some Z7)
 f277:=Tryz.func200.trans (Zq some Z7)
 t0:=Tryz.underlying0
 a0:=Tryz.isAgg0
 z0:=Tryz.sizeOf0
 v0:=Tryz.zeroValue0
 t3:=Tryz.underlying3
 a3:=Tryz.isAgg3
 z3:=Tryz.sizeOf3
 v3:=Tryz.zeroValue3
 t4:=Tryz.underlying4
 a4:=Tryz.isAgg4
 z4:=Tryz.sizeOf4
 v4:=Tryz.zeroValue4
 t9:=Tryz.underlying9
 a9:=Tryz.isAgg9
 z9:=Tryz.sizeOf9
 v9:=Tryz.zeroValue9
 t20:=Tryz.underlying20
 a20:=Tryz.isAgg20
 z20:=Tryz.sizeOf20
 v20:=Tryz.zeroValue20
 t31:=Tryz.underlying24
 a31:=Tryz.isAgg24
 z31:=Tryz.sizeOf24
 v31:=Tryz.zeroValue24
 t37:=Tryz.underlying22
 a37:=Tryz.isAgg22
 z37:=Tryz.sizeOf22
 v37:=Tryz.zeroValue22
 t70:=Tryz.underlying221
 a70:=Tryz.isAgg221
 z70:=Tryz.sizeOf221
 v70:=Tryz.zeroValue221
 t72:=Tryz.underlying223
 a72:=Tryz.isAgg223
 z72:=Tryz.sizeOf223
 v72:=Tryz.zeroValue223
 t75:=Tryz.underlying116
 a75:=Tryz.isAgg116
 z75:=Tryz.sizeOf116
 v75:=Tryz.zeroValue116
 t76:=Tryz.underlying225
 a76:=Tryz.isAgg225
 z76:=Tryz.sizeOf225
 v76:=Tryz.zeroValue225
 t127:=Tryz.underlying237
 a127:=Tryz.isAgg237
 z127:=Tryz.sizeOf237
 v127:=Tryz.zeroValue237
 t164:=Tryz.underlying242
 a164:=Tryz.isAgg242
 z164:=Tryz.sizeOf242
 v164:=Tryz.zeroValue242 }
theorem Tryz.me:Builder.Extra Tryz.prog Tryz.sJ:={
 sizeBuilder:=Z7
 liesBuilder:=Z7
 t5:=Tryz.underlying5
 a5:=Tryz.isAgg5
 z5:=Tryz.sizeOf5
 v5:=Tryz.zeroValue5
 infoByte:=Z7
 cellsByte:=Z7
 sizeByte:=Z7
 neB5:=by decide }
open Go.RowKit in
theorem Tryz.strings_Join_none(a:Option Addr)(c:Nat)(sep:ByteArray)(w:World):
 Calls Tryz.prog 137 #[.slice a 0 c,.string sep] w fun e w'=>e=.returned (.string ⟨#[]⟩)/\w'=w:=Any.strings_Join_none Tryz.BA Tryz.me a c sep w
open Go.RowKit in
theorem Tryz.strings_Join(bk o c:Nat)(xs:List ByteArray)(sep:ByteArray)(w:World)(hcells:∀ (j:Nat) x,xs[j]? =some x->w.cell? ⟨bk,o+j,none⟩=some (.string x))(hbk:bk<w.heap.size)(hN:xs.length<=140737488355328)(hcap:xs.length<=c)(hlen:(Lib.join (xs.map (·.data.toList)) sep.data.toList).length<=140737488355328):
 Calls Tryz.prog 137 #[.slice (some ⟨bk,o,none⟩) xs.length c,.string sep] w fun e w'=>e=.returned (.string ⟨(Lib.join (xs.map (·.data.toList)) sep.data.toList).toArray⟩)/\Below w.heap.size w w':=Any.strings_Join Tryz.BA Tryz.me bk o c xs sep w hcells hbk hN hcap hlen
def Tryz.Ad:Go.Shelf.Ren:=⟨fun | 219=>115 | 217=>146 | 225=>147 | 224=>148 | 267=>149 | 266=>176 | 314=>177 | n=>n,fun | 9=>9 | 3=>3 | 4=>4 | 5=>5 | 46=>202 | 146=>232 | 51=>231 | n=>n,fun | 1=>1 | n=>n⟩
theorem Tryz.Il:Go.Proofs.Lays.n219 Tryz.prog Tryz.Ad:={
 mixed:=Z7
 f217:=Tryz.func146.trans (Zq some Z7)
 f219:=Tryz.func115.trans (Zq some Z7)
 f224:=Tryz.func148.trans (Zq some Z7)
 f225:=Tryz.func147.trans (Zq some Z7)
 f266:=Tryz.func176.trans (Zq some Z7)
 f267:=Tryz.func149.trans (Zq some Z7)
 f314:=Tryz.func177.trans (Zq some Z7)
 t3:=Tryz.underlying3
 a3:=Tryz.isAgg3
 z3:=Tryz.sizeOf3
 v3:=Tryz.zeroValue3
 t4:=Tryz.underlying4
 a4:=Tryz.isAgg4
 z4:=Tryz.sizeOf4
 v4:=Tryz.zeroValue4
 t5:=Tryz.underlying5
 a5:=Tryz.isAgg5
 z5:=Tryz.sizeOf5
 v5:=Tryz.zeroValue5
 t9:=Tryz.underlying9
 a9:=Tryz.isAgg9
 z9:=Tryz.sizeOf9
 v9:=Tryz.zeroValue9
 t46:=Tryz.underlying202
 a46:=Tryz.isAgg202
 z46:=Tryz.sizeOf202
 v46:=Tryz.zeroValue202
 t51:=Tryz.underlying231
 a51:=Tryz.isAgg231
 z51:=Tryz.sizeOf231
 v51:=Tryz.zeroValue231
 t146:=Tryz.underlying232
 a146:=Tryz.isAgg232
 z146:=Tryz.sizeOf232
 v146:=Tryz.zeroValue232
 g1:=by kernel_rfl }
open Go.RowKit Go.Lib in
theorem Tryz.stringslite_Index_one(s:ByteArray)(c:UInt8)(w:World):
 Calls Tryz.prog 115 #[.string s,.string ⟨#[c]⟩] w fun e w'=>e=.returned (.int .i64 (Lib.indexByte s.data.toList c))/\w'=w:=Any.stringslite_Index_one Tryz.Il s c w
def Tryz.Ah:Go.Shelf.Ren:=⟨fun | 143=>181 | 219=>115 | 217=>146 | 225=>147 | 224=>148 | 267=>149 | 266=>176 | 314=>177 | n=>n,fun | 9=>9 | 3=>3 | 4=>4 | 5=>5 | 46=>202 | 146=>232 | 51=>231 | n=>n,fun | 1=>1 | n=>n⟩
theorem Tryz.Jd:Go.Proofs.Lays.n143 Tryz.prog Tryz.Ah:={
 mixed:=Z7
 f143:=Tryz.func181.trans (Zq some Z7)
 f217:=Tryz.func146.trans (Zq some Z7)
 f219:=Tryz.func115.trans (Zq some Z7)
 f224:=Tryz.func148.trans (Zq some Z7)
 f225:=Tryz.func147.trans (Zq some Z7)
 f266:=Tryz.func176.trans (Zq some Z7)
 f267:=Tryz.func149.trans (Zq some Z7)
 f314:=Tryz.func177.trans (Zq some Z7)
 t3:=Tryz.underlying3
 a3:=Tryz.isAgg3
 z3:=Tryz.sizeOf3
 v3:=Tryz.zeroValue3
 t4:=Tryz.underlying4
 a4:=Tryz.isAgg4
 z4:=Tryz.sizeOf4
 v4:=Tryz.zeroValue4
 t5:=Tryz.underlying5
 a5:=Tryz.isAgg5
 z5:=Tryz.sizeOf5
 v5:=Tryz.zeroValue5
 t9:=Tryz.underlying9
 a9:=Tryz.isAgg9
 z9:=Tryz.sizeOf9
 v9:=Tryz.zeroValue9
 t46:=Tryz.underlying202
 a46:=Tryz.isAgg202
 z46:=Tryz.sizeOf202
 v46:=Tryz.zeroValue202
 t51:=Tryz.underlying231
 a51:=Tryz.isAgg231
 z51:=Tryz.sizeOf231
 v51:=Tryz.zeroValue231
 t146:=Tryz.underlying232
 a146:=Tryz.isAgg232
 z146:=Tryz.sizeOf232
 v146:=Tryz.zeroValue232
 g1:=by kernel_rfl }
open Go.RowKit Go.Lib in
theorem Tryz.strings_Index_one(s:ByteArray)(c:UInt8)(w:World):
 Calls Tryz.prog 181 #[.string s,.string ⟨#[c]⟩] w fun e w'=>e=.returned (.int .i64 (Lib.indexByte s.data.toList c))/\w'=w:=Any.strings_Index_one Tryz.Jd s c w
def Tryz.Ao:Go.Shelf.Ren:=⟨fun | 138=>180 | 195=>194 | 218=>196 | 143=>181 | 219=>115 | 217=>146 | 225=>147 | 224=>148 | 267=>149 | 266=>176 | 314=>177 | n=>n,fun | 9=>9 | 3=>3 | 4=>4 | 5=>5 | 0=>0 | 46=>202 | 146=>232 | 51=>231 | n=>n,fun | 1=>1 | n=>n⟩
theorem Tryz.IK:Go.Proofs.Lays.n138 Tryz.prog Tryz.Ao:={
 mixed:=Z7
 f138:=Tryz.func180.trans (Zq some Z7)
 f143:=Tryz.func181.trans (Zq some Z7)
 f195:=Tryz.func194.trans (Zq some Z7)
 f217:=Tryz.func146.trans (Zq some Z7)
 f218:=Tryz.func196.trans (Zq some Z7)
 f219:=Tryz.func115.trans (Zq some Z7)
 f224:=Tryz.func148.trans (Zq some Z7)
 f225:=Tryz.func147.trans (Zq some Z7)
 f266:=Tryz.func176.trans (Zq some Z7)
 f267:=Tryz.func149.trans (Zq some Z7)
 f314:=Tryz.func177.trans (Zq some Z7)
 t0:=Tryz.underlying0
 a0:=Tryz.isAgg0
 z0:=Tryz.sizeOf0
 v0:=Tryz.zeroValue0
 t3:=Tryz.underlying3
 a3:=Tryz.isAgg3
 z3:=Tryz.sizeOf3
 v3:=Tryz.zeroValue3
 t4:=Tryz.underlying4
 a4:=Tryz.isAgg4
 z4:=Tryz.sizeOf4
 v4:=Tryz.zeroValue4
 t5:=Tryz.underlying5
 a5:=Tryz.isAgg5
 z5:=Tryz.sizeOf5
 v5:=Tryz.zeroValue5
 t9:=Tryz.underlying9
 a9:=Tryz.isAgg9
 z9:=Tryz.sizeOf9
 v9:=Tryz.zeroValue9
 t46:=Tryz.underlying202
 a46:=Tryz.isAgg202
 z46:=Tryz.sizeOf202
 v46:=Tryz.zeroValue202
 t51:=Tryz.underlying231
 a51:=Tryz.isAgg231
 z51:=Tryz.sizeOf231
 v51:=Tryz.zeroValue231
 t146:=Tryz.underlying232
 a146:=Tryz.isAgg232
 z146:=Tryz.sizeOf232
 v146:=Tryz.zeroValue232
 g1:=by kernel_rfl }
open Go.RowKit Go.Lib in
theorem Tryz.strings_Count_one(s:ByteArray)(c:UInt8)(w:World):
 Calls Tryz.prog 180 #[.string s,.string ⟨#[c]⟩] w fun e w'=>e=.returned (.int .i64 (Lib.countByte s.data.toList c))/\w'=w:=Any.strings_Count_one Tryz.IK s c w
def Tryz.fB:Go.Shelf.Ren:=⟨fun | 221=>155 | 268=>179 | 138=>180 | 143=>181 | 195=>194 | 197=>195 | 218=>196 | 219=>115 | 260=>204 | 217=>146 | 225=>147 | 224=>148 | 267=>149 | 266=>176 | 314=>177 | n=>n,fun | 9=>9 | 3=>3 | 31=>24 | 4=>4 | 0=>0 | 105=>239 | 21=>21 | 5=>5 | 46=>202 | 119=>248 | 139=>251 | 138=>250 | 146=>232 | 51=>231 | n=>n,fun | 1=>1 | 3=>2 | 4=>3 | n=>n⟩
theorem Tryz.JC:Go.Proofs.Lays.n221 Tryz.prog Tryz.fB:={
 mixed:=Z7
 f138:=Tryz.func180.trans (Zq some Z7)
 f143:=Tryz.func181.trans (Zq some Z7)
 f195:=Tryz.func194.trans (Zq some Z7)
 f197:=Tryz.func195.trans (Zq some Z7)
 f217:=Tryz.func146.trans (Zq some Z7)
 f218:=Tryz.func196.trans (Zq some Z7)
 f219:=Tryz.func115.trans (Zq some Z7)
 f221:=Tryz.func155.trans (Zq some Z7)
 f224:=Tryz.func148.trans (Zq some Z7)
 f225:=Tryz.func147.trans (Zq some Z7)
 f260:=Tryz.func204.trans (Zq some Z7)
 f266:=Tryz.func176.trans (Zq some Z7)
 f267:=Tryz.func149.trans (Zq some Z7)
 f268:=Tryz.func179.trans (Zq some Z7)
 f314:=Tryz.func177.trans (Zq some Z7)
 t0:=Tryz.underlying0
 a0:=Tryz.isAgg0
 z0:=Tryz.sizeOf0
 v0:=Tryz.zeroValue0
 t3:=Tryz.underlying3
 a3:=Tryz.isAgg3
 z3:=Tryz.sizeOf3
 v3:=Tryz.zeroValue3
 t4:=Tryz.underlying4
 a4:=Tryz.isAgg4
 z4:=Tryz.sizeOf4
 v4:=Tryz.zeroValue4
 t5:=Tryz.underlying5
 a5:=Tryz.isAgg5
 z5:=Tryz.sizeOf5
 v5:=Tryz.zeroValue5
 t9:=Tryz.underlying9
 a9:=Tryz.isAgg9
 z9:=Tryz.sizeOf9
 v9:=Tryz.zeroValue9
 t21:=Tryz.underlying21
 a21:=Tryz.isAgg21
 z21:=Tryz.sizeOf21
 v21:=Tryz.zeroValue21
 t31:=Tryz.underlying24
 a31:=Tryz.isAgg24
 z31:=Tryz.sizeOf24
 v31:=Tryz.zeroValue24
 t46:=Tryz.underlying202
 a46:=Tryz.isAgg202
 z46:=Tryz.sizeOf202
 v46:=Tryz.zeroValue202
 t51:=Tryz.underlying231
 a51:=Tryz.isAgg231
 z51:=Tryz.sizeOf231
 v51:=Tryz.zeroValue231
 t105:=Tryz.underlying239
 a105:=Tryz.isAgg239
 z105:=Tryz.sizeOf239
 v105:=Tryz.zeroValue239
 t119:=Tryz.underlying248
 a119:=Tryz.isAgg248
 z119:=Tryz.sizeOf248
 t138:=Tryz.underlying250
 a138:=Tryz.isAgg250
 z138:=Tryz.sizeOf250
 v138:=Tryz.zeroValue250
 t139:=Tryz.underlying251
 a139:=Tryz.isAgg251
 z139:=Tryz.sizeOf251
 v139:=Tryz.zeroValue251
 t146:=Tryz.underlying232
 a146:=Tryz.isAgg232
 z146:=Tryz.sizeOf232
 v146:=Tryz.zeroValue232
 g1:=Z7
 g3:=Z7
 g4:=by kernel_rfl }
def Tryz.Aj:Go.Shelf.Ren:=⟨fun | 153=>83 | 152=>117 | 226=>118 | 227=>119 | 228=>120 | 137=>151 | 119=>152 | 224=>148 | 225=>147 | 217=>146 | 266=>176 | n=>n,fun | 9=>9 | 3=>3 | 4=>4 | 5=>5 | 21=>21 | 117=>165 | 116=>164 | 0=>0 | 46=>202 | 124=>204 | n=>n,fun | n=>n⟩
theorem Tryz.Jg:Go.Proofs.Lays.n153 Tryz.prog Tryz.Aj:={
 mixed:=Z7
 f119:=Tryz.func152.trans (Zq some Z7)
 f137:=Tryz.func151.trans (Zq some Z7)
 f152:=Tryz.func117.trans (Zq some Z7)
 f153:=Tryz.func83.trans (Zq some Z7)
 f217:=Tryz.func146.trans (Zq some Z7)
 f224:=Tryz.func148.trans (Zq some Z7)
 f225:=Tryz.func147.trans (Zq some Z7)
 f226:=Tryz.func118.trans (Zq some Z7)
 f227:=Tryz.func119.trans (Zq some Z7)
 f228:=Tryz.func120.trans (Zq some Z7)
 f266:=Tryz.func176.trans (Zq some Z7)
 t0:=Tryz.underlying0
 a0:=Tryz.isAgg0
 z0:=Tryz.sizeOf0
 v0:=Tryz.zeroValue0
 t3:=Tryz.underlying3
 a3:=Tryz.isAgg3
 z3:=Tryz.sizeOf3
 v3:=Tryz.zeroValue3
 t4:=Tryz.underlying4
 a4:=Tryz.isAgg4
 z4:=Tryz.sizeOf4
 v4:=Tryz.zeroValue4
 t5:=Tryz.underlying5
 a5:=Tryz.isAgg5
 z5:=Tryz.sizeOf5
 v5:=Tryz.zeroValue5
 t9:=Tryz.underlying9
 a9:=Tryz.isAgg9
 z9:=Tryz.sizeOf9
 v9:=Tryz.zeroValue9
 t21:=Tryz.underlying21
 a21:=Tryz.isAgg21
 z21:=Tryz.sizeOf21
 v21:=Tryz.zeroValue21
 t46:=Tryz.underlying202
 a46:=Tryz.isAgg202
 z46:=Tryz.sizeOf202
 v46:=Tryz.zeroValue202
 t116:=Tryz.underlying164
 a116:=Tryz.isAgg164
 z116:=Tryz.sizeOf164
 t117:=Tryz.underlying165
 a117:=Tryz.isAgg165
 z117:=Tryz.sizeOf165
 v117:=Tryz.zeroValue165
 t124:=Tryz.underlying204
 a124:=Tryz.isAgg204
 z124:=Tryz.sizeOf204
 v124:=Tryz.zeroValue204 }
open Go.RowKit Go.Lib in
theorem Tryz.strings_IndexAny_laid(s chars:ByteArray)(w:World)(hs:s.size<4294967281)(hcs:chars.size<4294967281)(has:∀ (j:Nat) b,s.data.toList[j]? =some b->b.toNat<128)(hac:∀ (j:Nat) b,chars.data.toList[j]? =some b->b.toNat<128):
 Calls Tryz.prog 83 #[.string s,.string chars] w fun e w'=>e=.returned (.int .i64 (Lib.indexAny s.data.toList chars.data.toList))/\Below w.heap.size w w':=Any.strings_IndexAny_laid Tryz.Jg Z7 s chars w hs hcs has hac
def Tryz.Ai:Go.Shelf.Ren:=⟨fun | 110=>70 | 109=>102 | n=>n,fun | 31=>24 | 9=>9 | 4=>4 | 3=>3 | 0=>0 | n=>n,fun | n=>n⟩
theorem Tryz.AO:Go.Proofs.Lays.n110 Tryz.prog Tryz.Ai:={
 mixed:=Z7
 f109:=Tryz.func102.trans (Zq some Z7)
 f110:=Tryz.func70.trans (Zq some Z7)
 t0:=Tryz.underlying0
 a0:=Tryz.isAgg0
 z0:=Tryz.sizeOf0
 v0:=Tryz.zeroValue0
 t3:=Tryz.underlying3
 a3:=Tryz.isAgg3
 z3:=Tryz.sizeOf3
 v3:=Tryz.zeroValue3
 t4:=Tryz.underlying4
 a4:=Tryz.isAgg4
 z4:=Tryz.sizeOf4
 v4:=Tryz.zeroValue4
 t9:=Tryz.underlying9
 a9:=Tryz.isAgg9
 z9:=Tryz.sizeOf9
 v9:=Tryz.zeroValue9
 t31:=Tryz.underlying24
 a31:=Tryz.isAgg24
 z31:=Tryz.sizeOf24
 v31:=Tryz.zeroValue24 }
open Go.Lib in
theorem Tryz.slices_Contains_string(b off n c:Nat)(zs:List ByteArray)(x:ByteArray)(w:World)(hz:n<=zs.length)(hbig:n<=9223372036854775807)(hc:∀ j,j<zs.length->w.cell? ⟨b,off+j,none⟩=some (.string (zs.getD j ByteArray.empty))):
 Calls Tryz.prog 70 #[.slice (some ⟨b,off,none⟩) n c,.string x] w fun e w'=>e=.returned (.bool (Lib.containsS (zs.take n) x))/\w'=w:=Any.slices_Contains_string Tryz.AO b off n c zs x w hz hbig hc
open Go.Lib in
theorem Tryz.slices_Contains_string_empty(a:Option Addr)(c:Nat)(x:ByteArray)(w:World):
 Calls Tryz.prog 70 #[.slice a 0 c,.string x] w fun e w'=>e=.returned (.bool false)/\w'=w:=Any.slices_Contains_string_empty Tryz.AO a c x w
def Tryz.xO:Go.Shelf.Ren:=⟨fun | 16=>106 | n=>n,fun | 24=>24 | 9=>9 | 4=>4 | n=>n,fun | n=>n⟩
theorem Tryz.qN:Go.Proofs.Lays2.n16 Tryz.prog Tryz.xO:={
 mixed:=Z7
 f16:=Tryz.func106.trans (Zq some Z7)
 t4:=Tryz.underlying4
 a4:=Tryz.isAgg4
 z4:=Tryz.sizeOf4
 v4:=Tryz.zeroValue4
 t9:=Tryz.underlying9
 a9:=Tryz.isAgg9
 z9:=Tryz.sizeOf9
 v9:=Tryz.zeroValue9
 t24:=Tryz.underlying24
 a24:=Tryz.isAgg24
 z24:=Tryz.sizeOf24
 v24:=Tryz.zeroValue24
 i9:=by kernel_rfl }
open Go.RowKit Go.Lib in
theorem Tryz.slices_Clone_string(b off n c:Nat)(zs:List ByteArray)(w:World)(hz:n<=zs.length)(hbig:n*16<=140737488355328)(hc:∀ j,j<zs.length->w.cell? ⟨b,off+j,none⟩=some (.string (zs.getD j ByteArray.empty))):
 Calls Tryz.prog 106 #[.slice (some ⟨b,off,none⟩) n c] w fun e w'=> ∃ v',e=.returned v'/\w'.ownsRow w.heap.size 9 1 v' n ((zs.take n).map (Value.string))/\v'≠.slice none 0 0/\Below w.heap.size w w':=Any.slices_Clone_string Tryz.qN b off n c zs w hz hbig hc
open Go.RowKit Go.Lib in
theorem Tryz.slices_Clone_string_nil(n c:Nat)(w:World):
 Calls Tryz.prog 106 #[.slice none n c] w fun e w'=>e=.returned (.slice none 0 0)/\w'=w:=Any.slices_Clone_string_nil Tryz.qN n c w
open Go.RowKit Go.Lib in
theorem Tryz.slices_Clone_string_zero(a:Addr)(c:Nat)(w:World):
 Calls Tryz.prog 106 #[.slice (some a) 0 c] w fun e w'=> ∃ v',e=.returned v'/\w'.ownsRow w.heap.size 9 1 v' 0 []/\v'≠.slice none 0 0/\Below w.heap.size w w':=Any.slices_Clone_string_zero Tryz.qN a c w
end Go.Proofs
namespace Go.Proofs.YtbjbamjffkanbaaGreatDoor
open Go Go.RowKit
set_option maxRecDepth 20000
section
variable {P:Program}
theorem hX{f:FuncId}{args:List V}{Q:V->Prop}(ho:V.aE args=false)(hp:args.all (fun v=>match v with | .a8=>false | .gv _ _=>false | .tup _=>false | _=>true)=true)(h:PC P f args Q):PF P f args [] (fun r h=>Q r/\h=[]):=by
 refine⟨h.1,fun w Pb Kb cargs F hi=>?_⟩
 have hF0:∀ i v x,args[i]? =some v->cargs[i]? =some x->F (.slot i)=[]:=fun i v x hv hx=>by
  have hr:=hi.slot i v x hv hx
  have hm:=Zb hv
  exact vS (w:=w) (Pb:=Pb) (by
   have:∀ (l:List V),V.aE l=false->∀ v∈l,v.cZ=false:=by
    intro l;induction l with
    | nil=>intro _ v hv;simp at hv
    | cons a r ih=>
      intro h v hv
      simp only[V.aE,Bool.or_eq_false_iff]at h
      rcases List.mem_cons.1 hv with rfl | hv
      exact h.1
      exact ih h.2 v hv
   exact this _ ho v hm) hr
 have hrv:∀ (l:List V) (c:List Value),l.length=c.length->(∀ (i:Nat) v x,l[i]? =some v->c[i]? =some x->RV w Pb v x []/\v∈args)->RVs w Pb l c []:=by
  intro l
  induction l with
  | nil=>intro c hl _;cases c with | nil=>exact⟨rfl,rfl⟩ | cons _ _=>simp at hl
  | cons v r ih=>
    intro c hl hx
    cases c with
    | nil=>simp at hl
    | cons x c=>
      obtain⟨h0,hm⟩:=hx 0 v x rfl rfl
      have hv:=Y6.1 hp v hm
      refine⟨x,c,[],[],rfl,rfl,?_,ih c (by simpa using hl) fun i v' x' h1 h2=>hx (i+1) v' x' (by simpa using h1) (by simpa using h2)⟩
      cases v <;> first | exact h0 | simp at hv
 have hR:RVs w Pb args cargs []:=hrv args cargs hi.len.symm fun i v x hv hx=>by
  have:=hi.slot i v x hv hx
  rw[hF0 i v x hv hx]at this
  exact⟨this,Zb hv⟩
 refine(h.2 w Pb cargs (fun g hg=>hi.bound g (hi.sub g hg)) hR).mono ?_
 rintro e w' ⟨r,x,Fr,Pb',rfl,hq,hrv,hnd,hfr,hP1,hP2,hB⟩
 refine⟨r,x,[],Pb',fun g=>Kb g\/Pb' g,(fun r=>match r with | .slot i=>if i=0 then Fr else [] | .key _=>[]),rfl,⟨hq,rfl⟩,?_⟩
 have hold:∀ g,Kb g->g<w.heap.size:=hi.bound
 refine⟨by simpa using hrv,fun k g v hk=>by simp[lk]at hk,fun r r' hne g hg=>?_,fun r=>?_,fun r g hg=>?_,fun g h=>.inr h,fun g h=>?_,hP1,fun _ h=>.inl h,fun g hg=>?_,⟨hB.os,hB.tape,hB.output,hB.size,fun g hg=>hB.block g (hold g hg),Shp.of_eq hB.block⟩⟩
 cases r with
 | slot i=>
   simp only at hg;split at hg
   rename_i hi0
   cases r' with
   | slot j=>simp only;rw[if_neg (fun c=>hne (by rw[hi0,c]))];simp
   | key k=>simp
   simp at hg
 | key k=>simp at hg
 cases r <;> simp only
 split
 exact hnd
 exact Ze
 exact Ze
 cases r with
 | slot i=>
   simp only at hg;split at hg
   obtain⟨h1,h2,h3⟩:=hfr g hg
   exact⟨fun c=>c.elim (fun c=>by have:=hold g c;omega) h3,h2⟩
   simp at hg
 | key k=>simp at hg
 rcases h with h | h
 have:=hold g h;have:=hB.size;omega
 rcases hP2 g h with h | h
 have:=hold g (hi.sub g h);have:=hB.size;omega
 exact h.2
 rcases hP2 g hg with h | h
 exact .inl h
 exact .inr fun c=>by have:=hold g c;omega
def RVm(w:World)(Pb:Nat->Prop)(v:V)(x:Value):Prop:=match v with | .agg us=> ∃ cs,x=.agg cs/\RL w Pb us cs.toList [] | .a8=>([]:List Nat)=[] | v=>R w Pb v [x] []
theorem zM{w:World}{Pb:Nat->Prop}{v:V}{vs:List V}{xs:List Value}(h:RVs w Pb (v::vs) xs []):∃ x r,xs=x::r/\RVm w Pb v x/\RVs w Pb vs r []:=by
 obtain⟨x,r,F1,F2,e,hF,h1,h2⟩:=h
 have hF:=List.append_eq_nil_iff.1 hF.symm
 obtain⟨rfl,rfl⟩:=hF
 exact⟨x,r,e,h1,h2⟩
theorem gD{w:World}{Pb:Nat->Prop}{y:Value}{vs:List V}{xs:List Value}(h:RVs w Pb (.lit y::vs) xs []):∃ r,xs=y::r/\RVs w Pb vs r []:=by
 obtain⟨x,r,e,h1,h2⟩:=zM h
 obtain⟨_,e1,_⟩:=h1
 simp only[List.cons.injEq,and_true]at e1
 exact⟨r,by rw[e,e1],h2⟩
theorem lg{w:World}{Pb:Nat->Prop}{xs:List Value}(h:RVs w Pb [] xs []):xs=[]:=h.1
theorem yH{w:World}{Pb:Nat->Prop}{f:Bool}{l:List BL}{vs:List V}{xs:List Value}(h:RVs w Pb (.sl f (l.map sV)::vs) xs []):∃ A c r,xs=.slice A l.length c::r/\RVs w Pb vs r []/\l.length<=c/\
 (l=[]\/∃ b o,A=some ⟨b,o,none⟩/\Pb b/\∀ j x,(l.map Str)[j]? =some x->w.cell? ⟨b,o+j,none⟩=some (.string x)):=by
 obtain⟨x,r,e,h1,h2⟩:=zM h
 obtain⟨_,A,c,e1,hle,_,hx⟩:=h1
 simp only[List.cons.injEq,and_true,Y2]at e1 hle
 refine⟨A,c,r,by rw[e,e1],h2,hle,?_⟩
 rcases hx with hx | ⟨b,o,sz,flat,hA,hb,hs,hn,hr,hc⟩
 left;simpa using hx
 right
 refine⟨b,o,hA,hb,fun j x hj=>hc j _ ?_⟩
 have hfl:∀ (l:List BL) {flat:List Value} {F},RL w Pb (l.map sV) flat F->flat=l.map fun t=>.string (Str t):=by
  intro l;induction l with
  | nil=>intro flat F h;exact h.1
  | cons t r ih=>
    intro flat F h
    obtain⟨c1,c2,F1,F2,e1,_,h1,h2⟩:=h
    rw[e1,ih h2,h1.2.1];rfl
 rw[hfl l hr]
 rw[List.getElem?_map]at hj ⊢
 cases hl:l[j]? with
 | none=>rw[hl]at hj;simp at hj
 | some t=>rw[hl]at hj;simp at hj;simp[hj]
theorem ug{f:FuncId}{args:List V}{res:V}{y:Value}(he:mY P f)(hv:res.val? =some y)(h:∀ (w:World) (Pb:Nat->Prop) cargs,(∀ g,Pb g->g<w.heap.size)->RVs w Pb args cargs []->Calls P f cargs.toArray w fun e w'=>e=.returned y/\Below w.heap.size w w'):PC P f args (fun r=>r=res):=by
 refine⟨he,fun w Pb cargs hP hargs=>(h w Pb cargs hP hargs).mono ?_⟩
 rintro e w' ⟨rfl,hB⟩
 exact⟨res,y,[],Pb,rfl,rfl,uC hv,Ze,Z8,fun _ h=>h,fun _ h=>.inl h,hB⟩
end
def dn(c:UInt8):BL->List BL
 | []=>[[]]
 | b::l=>if b=c then []::dn c l else match dn c l with
   | []=>[[b]]
   | p::r=>(b::p)::r
theorem Ey(c:UInt8):∀ l,dn c l≠[]
 | []=>by simp[dn]
 | b::l=>by
   unfold dn;split
   simp
   split <;> simp
theorem oF(c:UInt8):∀ l,Lib.indexByte l c= -1->dn c l=[l]
 | [],_=>rfl
 | b::l,h=>by
   unfold Lib.indexByte at h
   split at h
   simp at h
   rename_i hb
   have hb:b≠c:=by simpa using hb
   split at h
   rename_i h1
   have:=oF c l (by simpa using h1)
   unfold dn
   rw[if_neg hb,this]
   have:=Lib.indexByte_ge l c;omega
theorem qh(c:UInt8):∀ l (i:Nat),Lib.indexByte l c=i->dn c l=l.take i::dn c (l.drop (i+1))/\i<l.length/\l.count c=(l.drop (i+1)).count c+1
 | [],i,h=>by unfold Lib.indexByte at h;omega
 | b::l,i,h=>by
   unfold Lib.indexByte at h
   split at h
   rename_i hb
   have hb:b=c:=by simpa using hb
   have:i=0:=Z9
   subst this hb
   simp[dn]
   rename_i hb
   have hb:b≠c:=by simpa using hb
   split at h
   omega
   rename_i h1
   have:=Lib.indexByte_ge l c
   have h1:Lib.indexByte l c≠ -1:=by simpa using h1
   obtain⟨j,rfl⟩:∃ j,i=j+1:=⟨i-1,Z9⟩
   obtain⟨k1,k2,k3⟩:=qh c l j Z9
   refine⟨?_,Z0,by simp[List.count_cons,hb,k3]⟩
   conv=>lhs;unfold dn
   rw[if_neg hb,k1]
   simp
theorem yp(c:UInt8):∀ (k:Nat) (s:BL),s.count c=k->Lib.splitK [c] 0 k s=dn c s
 | 0,s,h=>by
   have:Lib.indexByte s c= -1:=by
    by_cases hc:Lib.indexByte s c= -1
    exact hc
    have h1:=Lib.indexByte_ge s c
    obtain⟨i,hi⟩:∃ i:Nat,Lib.indexByte s c=i:=⟨(Lib.indexByte s c).toNat,Z9⟩
    have:=(qh c s i hi).2.2;omega
   rw[oF c s this];rfl
 | k+1,s,h=>by
   by_cases hc:Lib.indexByte s c= -1
   rw[oF c s hc]
   unfold Lib.splitK;rw[Lib.index_one,hc];rfl
   have h1:=Lib.indexByte_ge s c
   obtain⟨i,hi⟩:∃ i:Nat,Lib.indexByte s c=i:=⟨(Lib.indexByte s c).toNat,Z9⟩
   obtain⟨k1,k2,k3⟩:=qh c s i hi
   rw[k1]
   unfold Lib.splitK
   rw[Lib.index_one,hi]
   have: ¬ ((i:Int)== -1)=true:=Z8
   rw[if_neg this]
   simp only[Int.toNat_natCast,Nat.add_zero,Zj]
   rw[yp c k _ Z9]
theorem xi(c:UInt8):∀ s,Lib.indexByte s c= -1->ae c s=(s,[],false)
 | [],_=>rfl
 | b::l,h=>by
   unfold Lib.indexByte at h
   split at h
   simp at h
   rename_i hb
   have hb:b≠c:=by simpa using hb
   split at h
   rename_i h1
   have:=xi c l (by simpa using h1)
   simp only[ae,if_neg hb,this]
   have:=Lib.indexByte_ge l c;omega
theorem tX(c:UInt8):∀ s (i:Nat),Lib.indexByte s c=i->ae c s=(s.take i,s.drop (i+1),true)/\i<s.length
 | [],i,h=>by unfold Lib.indexByte at h;omega
 | b::l,i,h=>by
   unfold Lib.indexByte at h
   split at h
   rename_i hb
   have hb:b=c:=by simpa using hb
   have:i=0:=Z9
   subst this
   simp[ae,hb]
   rename_i hb
   have hb:b≠c:=by simpa using hb
   split at h
   omega
   rename_i h1
   have:=Lib.indexByte_ge l c
   have h1:Lib.indexByte l c≠ -1:=by simpa using h1
   obtain⟨j,rfl⟩:∃ j,i=j+1:=⟨i-1,Z9⟩
   obtain⟨k1,k2⟩:=tX c l j Z9
   refine⟨?_,Z0⟩
   simp only[ae,if_neg hb,k1];rfl
theorem KG(s:BL)(c:UInt8)(h:0<=Lib.indexByte s c):Lib.indexByte s c<s.length:=by
 obtain⟨i,hi⟩:∃ i:Nat,Lib.indexByte s c=i:=⟨(Lib.indexByte s c).toNat,Z9⟩
 have:=(tX c s i hi).2;omega
theorem Jk{s:BL}{c:UInt8}(h:Lib.indexByte s c<0):ae c s=(s,[],false):=xi c s (by have:=Lib.indexByte_ge s c;omega)
theorem Hk{s:BL}{c:UInt8}(h:0<=Lib.indexByte s c):ae c s=(s.take (Lib.indexByte s c).toNat,s.drop ((Lib.indexByte s c).toNat+1),true):=(tX c s _ Z9).1
theorem yr(c:UInt8):∀ s,dn c s=ah c s
 | []=>rfl
 | b::l=>by
   have ih:=yr c l
   unfold dn ah
   split
   rw[ih]
   rw[ih]
   cases h:ah c l with
   | nil=>exact absurd (ih.trans h) (Ey c l)
   | cons p r=>rfl
theorem vF:∀ (l:List BL),Lib.join l [47]=ck l
 | []=>rfl
 | [p]=>Lib.join_one p _
 | p::q::r=>by
   have:=vF (q::r)
   rw[Lib.join_cons]at this ⊢
   simp only[Lib.joinTail,Zi,List.flatten_cons]at this ⊢
   rw[show ck (p::q::r)=p++[47]++ck (q::r) from rfl,<- this]
   simp
theorem JK(s:BL): -1<=Lib.indexAny s [47,63]:=Lib.indexAny_ge _ s
theorem tN:∀ (s:BL),(Lib.indexAny s [47,63]<0->s.takeWhile ir=s/\s.dropWhile ir=[])/\(0<=Lib.indexAny s [47,63]->s.takeWhile ir=s.take (Lib.indexAny s [47,63]).toNat/\s.dropWhile ir=s.drop (Lib.indexAny s [47,63]).toNat/\(Lib.indexAny s [47,63]).toNat<s.length)
 | []=>by simp[Lib.indexAny]
 | b::l=>by
   obtain⟨i1,i2⟩:=tN l
   have hg:=JK l
   have hn:ir b=!([47,63]:BL).contains b:=by
    unfold ir
    have:(b.toNat=47↔b=47)/\(b.toNat=63↔b=63):=⟨by rw[<- UInt8.toNat_inj];rfl,by rw[<- UInt8.toNat_inj];rfl⟩
    rw[Za]
    simp[this]
   unfold Lib.indexAny
   cases hc:([47,63]:BL).contains b with
   | true=>
     rw[hc]at hn
     simp[List.takeWhile_cons,List.dropWhile_cons,hn]
   | false=>
     rw[hc]at hn
     simp only[Bool.false_eq_true,if_false]
     by_cases h1:Lib.indexAny l [47,63]= -1
     obtain⟨k1,k2⟩:=i1 Z9
     rw[h1]
     simp[List.takeWhile_cons,List.dropWhile_cons,hn,k1,k2]
     obtain⟨k1,k2,k3⟩:=i2 Z9
     rw[if_neg (by simpa using h1)]
     refine⟨fun h=>by omega,fun _=>?_⟩
     rw[show (Lib.indexAny l [47,63]+1).toNat=(Lib.indexAny l [47,63]).toNat+1 from Z9]
     simp[List.takeWhile_cons,List.dropWhile_cons,hn,k1,k2,k3]
def iG(s:BL)(i:Nat):Bool:=decide (i+2<s.length)&&(decide (0<=cB (s.getD (i+1) 0))&&decide (0<=cB (s.getD (i+2) 0)))
def df(s:BL)(i:Nat):UInt8:=if iG s i=true then dh (s.getD (i+1) 0) (s.getD (i+2) 0) else 0
theorem gX{s:BL}{i:Nat}:iG s i=true↔i+2<s.length/\0<=cB (s.getD (i+1) 0)/\0<=cB (s.getD (i+2) 0):=by
 unfold iG;simp
theorem qO{s:BL}{i:Nat}(h:iG s i=true):df s i=dh (s.getD (i+1) 0) (s.getD (i+2) 0):=if_pos h
theorem Aa{s:BL}{i:Nat}(h:iG s i=false):df s i=0:=if_neg (by rw[h];decide)
theorem gj(l:BL):(Str l).data.toList=l:=rfl
theorem Ip(s:BL)(c:UInt8):PC Tryz.prog 115 [sV s,sV [c]] (fun r=>r=iV (Lib.indexByte s c)):=by
 refine ug (dY Tryz.func115 Z7 Z7) rfl fun w Pb cargs hP hargs=>?_
 obtain⟨r,rfl,h1⟩:=gD hargs
 obtain⟨r,rfl,h2⟩:=gD h1
 obtain rfl:=lg h2
 refine(Tryz.stringslite_Index_one (Str s) c w).mono ?_
 rintro e w' ⟨rfl,rfl⟩
 exact⟨by rw[gj],Below.refl _ _⟩
theorem Jf(s:BL)(c:UInt8):PF Tryz.prog 115 [sV s,sV [c]] [] (fun r h=>r=iV (Lib.indexByte s c)/\h=[]):=hX rfl rfl (Ip s c)
theorem Kz(s:BL)(hs:s.length<=1000000)(ha:∀ c,c∈s->c.toNat<128):PF Tryz.prog 83 [sV s,sV [47,63]] [] (fun r h=>r=iV (Lib.indexAny s [47,63])/\h=[]):=by
 refine hX rfl rfl (ug (dY Tryz.func83 Z7 Z7) rfl fun w Pb cargs hP hargs=>?_)
 obtain⟨r,rfl,h1⟩:=gD hargs
 obtain⟨r,rfl,h2⟩:=gD h1
 obtain rfl:=lg h2
 refine(Tryz.strings_IndexAny_laid (Str s) (Str [47,63]) w (by rw[hY];omega) (by rw[hY];decide) (fun j b hb=>?_) (fun j b hb=>?_)).mono ?_
 rw[gj]at hb;exact ha b (Zb hb)
 rw[gj]at hb
 have:=Zb hb
 simp at this;rcases this with rfl | rfl <;> decide
 rintro e w' ⟨rfl,hB⟩
 exact⟨by rw[gj,gj],hB⟩
theorem Ej(l:List BL):(l.map Str).map (·.data.toList)=l:=by
 rw[List.map_map];conv=>rhs;rw[<- List.map_id l]
 apply List.map_congr_left;intro x _;exact gj x
theorem Jq(f:Bool)(l:List BL)(sep:BL)(hl:l.length<=1000000)(hj:(Lib.join l sep).length<=1000000):PF Tryz.prog 137 [.sl f (l.map sV),sV sep] [] (fun r h=>r=sV (Lib.join l sep)/\h=[]):=by
 refine hX rfl rfl (ug (dY Tryz.func137 Z7 Z7) rfl fun w Pb cargs hP hargs=>?_)
 obtain⟨A,c,r,rfl,h1,hle,hc⟩:=yH hargs
 obtain⟨r,rfl,h2⟩:=gD h1
 obtain rfl:=lg h2
 rcases hc with rfl | ⟨b,o,rfl,hb,hc⟩
 refine(Tryz.strings_Join_none A c (Str sep) w).mono ?_
 rintro e w' ⟨rfl,rfl⟩
 exact⟨rfl,Below.refl _ _⟩
 have:=Tryz.strings_Join b o c (l.map Str) (Str sep) w hc (hP b hb) Z0 (by simpa using hle) (by rw[Ej,gj];omega)
 rw[Y2]at this
 refine this.mono ?_
 rintro e w' ⟨rfl,hB⟩
 exact⟨by rw[Ej,gj];rfl,hB⟩
theorem JQ(f:Bool)(l:List BL)(x:BL)(hl:l.length<=1000000):PF Tryz.prog 70 [.sl f (l.map sV),sV x] [] (fun r h=>r=bV (l.contains x)/\h=[]):=by
 refine hX rfl rfl (ug (dY Tryz.func70 Z7 Z7) rfl fun w Pb cargs hP hargs=>?_)
 obtain⟨A,c,r,rfl,h1,hle,hc⟩:=yH hargs
 obtain⟨r,rfl,h2⟩:=gD h1
 obtain rfl:=lg h2
 rcases hc with rfl | ⟨b,o,rfl,hb,hc⟩
 refine(Tryz.slices_Contains_string_empty A c (Str x) w).mono ?_
 rintro e w' ⟨rfl,rfl⟩
 exact⟨rfl,Below.refl _ _⟩
 refine(Tryz.slices_Contains_string b o l.length c (l.map Str) (Str x) w Z8 Z9 (fun j hj=>?_)).mono ?_
 apply hc;rw[YQ,YX hj];rfl
 rintro e w' ⟨rfl,rfl⟩
 refine⟨?_,Below.refl _ _⟩
 congr 2
 rw[Za,Lib.containsS_iff,List.contains_iff_mem,Y3 Z8,List.mem_map]
 exact⟨fun⟨y,h1,h2⟩=>by
  have:y=x:=by rw[<- gj y,h2,gj]
  rw[<- this];exact h1,fun h=>⟨x,h,rfl⟩⟩
theorem Gq(s:BL)(c:UInt8)(hs:s.length<=1000000):PC Tryz.prog 155 [sV s,sV [c],iV 0,iV (-1)] (fun r=>r=.sl true ((dn c s).map sV)):=by
 refine⟨dY Tryz.func155 Z7 Z7,fun w Pb cargs hP hargs=>?_⟩
 obtain⟨r,rfl,h1⟩:=gD hargs
 obtain⟨r,rfl,h2⟩:=gD h1
 obtain⟨r,rfl,h3⟩:=gD h2
 obtain⟨r,rfl,h4⟩:=gD h3
 obtain rfl:=lg h4
 have hcnt:Lib.countB (Str s) (Str [c])=s.count c:=by
  show Lib.count (Str s).data.toList (Str [c]).data.toList=_
  rw[gj,gj,Lib.count_one]
 have hI:∀ (x:ByteArray) (cs:Array Value),x.size<=(Str s).size->Calls Tryz.prog (Tryz.fB.f 143) #[.string x,.string (Str [c])] (w.alloc (.cells cs (Tryz.fB.t 9))) fun e w'=>e=.returned (.int .i64 (Lib.indexB x (Str [c])))/\w'=w.alloc (.cells cs (Tryz.fB.t 9)):=fun x cs _=>
  (Tryz.strings_Index_one x c _).mono fun e w' h=>by
   rw[show Lib.indexB x (Str [c])=Lib.indexByte x.data.toList c from Lib.index_one _ _];exact h
 have hC:Calls Tryz.prog (Tryz.fB.f 138) #[.string (Str s),.string (Str [c])] w fun e w'=>e=.returned (.int .i64 (Lib.countB (Str s) (Str [c])))/\w'=w:=
  (Tryz.strings_Count_one (Str s) c w).mono fun e w' h=>by
   rw[hcnt];exact h
 have hcl:s.count c<=s.length:=List.count_le_length
 have hg:=Any.strings_genSplit_core Tryz.JC Z7 (Str s) (Str [c]) 0 (-1) (s.count c+1) w (by rw[hY];omega) (by rw[hY];simp) (Nat.zero_le _) hI hC Z6 Z6 (by rw[if_pos Z6,hcnt,hY];omega)
 have hlen:(Lib.splitB (Str [c]) 0 (s.count c) (Str s)).length=s.count c+1:=Lib.splitB_all _ (by rw[hY];simp) 0 _ _ hcnt
 have hdat:(Lib.splitB (Str [c]) 0 (s.count c) (Str s)).map (·.data.toList)=dn c s:=by
  rw[Lib.splitB_data,gj,gj];exact yp c _ s rfl
 have hl2:(dn c s).length=s.count c+1:=by rw[<- hdat,Y2,hlen]
 have hcells:Lib.cellsOf (Lib.splitB (Str [c]) 0 (s.count c) (Str s)) (s.count c+1)=((dn c s).map fun t=>Value.string (Str t)).toArray:=by
  rw[<- hlen,Lib.cellsOf_full,<- hdat,List.map_map]
  congr 1
 refine hg.mono ?_
 rintro e w' ⟨he,hw⟩
 rw[Nat.add_sub_cancel,hlen]at he
 rw[Nat.add_sub_cancel,hcells]at hw
 subst hw
 refine⟨_,_,[],fun g=>Pb g\/g=w.heap.size,he,rfl,?_,Ze,Z8,fun _ h=>.inl h,fun g h=>h.imp id fun h=>⟨Z9,by rw[dz];omega⟩,⟨rfl,rfl,rfl,by rw[dz];omega,fun k hk=>alloc_old w _ k hk⟩⟩
 refine⟨rfl,_,_,by rw[Y2,hl2],by simp[hl2],fun _=>by simp[hl2],.inr ⟨_,_,1,(dn c s).map fun t=>Value.string (Str t),rfl,.inr rfl,Nat.one_pos,fun v hv=>?_,?_,fun j u hu=>?_⟩⟩
 obtain⟨t,_,rfl⟩:=List.mem_map.1 hv;rfl
 have:∀ (l:List BL) (w:World) (Pb:Nat->Prop),RL w Pb (l.map sV) (l.map fun t=>Value.string (Str t)) []:=by
  intro l w Pb;induction l with
  | nil=>exact⟨rfl,rfl⟩
  | cons t r ih=>exact⟨[_],_,[],[],rfl,rfl,⟨rfl,rfl,rfl⟩,ih⟩
 exact this _ _ _
 rw[Y0]
 have:(w.alloc (.cells ((dn c s).map fun t=>Value.string (Str t)).toArray (Tryz.fB.t 9))).heap[w.heap.size]? =some (.cells ((dn c s).map fun t=>Value.string (Str t)).toArray (Tryz.fB.t 9) (0,0)):=fS w _
 have hb:Blk (w.alloc (.cells ((dn c s).map fun t=>Value.string (Str t)).toArray (Tryz.fB.t 9))) w.heap.size ((dn c s).map fun t=>Value.string (Str t)).toArray:=⟨_,(0,0),this,fun i _ h=>by omega⟩
 rw[dX hb,List.getElem?_toArray];exact hu
theorem GN(s:BL)(c:UInt8)(hs:s.length<=1000000):PF Tryz.prog 155 [sV s,sV [c],iV 0,iV (-1)] [] (fun r h=>r=.sl true ((dn c s).map sV)/\h=[]):=hX rfl rfl (Gq s c hs)
theorem HA(w:World)(Pb:Nat->Prop):∀ (l:List BL),RL w Pb (l.map sV) (l.map fun t=>Value.string (Str t)) []
 | []=>⟨rfl,rfl⟩
 | _::r=>⟨[_],_,[],[],rfl,rfl,⟨rfl,rfl,rfl⟩,HA w Pb r⟩
theorem uJ{w w':World}{Pb:Nat->Prop}{v:Value}{l:List BL}(hP:∀ g,Pb g->g<w.heap.size)(h:w'.ownsRow w.heap.size 9 1 v l.length (l.map fun t=>Value.string (Str t))):
 ∃ F,RV w' Pb (.ow 1 (l.map sV)) v F/\F.Nodup/\∀ g,g∈F->w.heap.size<=g/\g<w'.heap.size/\¬ Pb g:=by
 obtain⟨_,h⟩:=h
 rcases h with ⟨rfl,h0⟩ | ⟨g,cap,cur,rfl,hg,hb,hle,_,hsz,htk⟩
 have:l=[]:=Y9 h0
 subst this
 exact⟨[],⟨0,0,0,.inl ⟨rfl,rfl,rfl,none,rfl⟩⟩,Ze,Z8⟩
 have hnp: ¬ Pb g:=fun c=>by have:=hP g c;omega
 by_cases hc:cap=0
 subst hc
 have:l=[]:=Y9 Z9
 subst this
 exact⟨[],⟨0,0,0,.inl ⟨rfl,rfl,rfl,_,rfl⟩⟩,Ze,Z8⟩
 have hgl:g<w'.heap.size:=by
  cases hh:w'.heap[g]? with
  | none=>rw[hh]at hb;cases hb
  | some o=>exact(Zl.1 hh).1
 refine⟨[g],⟨g,0,cap,.inr ⟨Z9,Nat.one_pos,by simpa using hle,Z8,fun v hv=>?_,hnp,_,[],cur,rfl,HA w' Pb l,⟨9,(0,0),hb,fun i _ h=>by omega⟩,Z9,fun j u hu=>?_⟩⟩,Z8,fun x hx=>?_⟩
 obtain⟨t,_,rfl⟩:=List.mem_map.1 hv;rfl
 rw[<- htk,List.getElem?_take]at hu
 split at hu
 rw[Y0,<- Array.getElem?_toList];exact hu
 simp at hu
 obtain rfl:=YZ.1 hx
 exact⟨hg,hgl,hnp⟩
theorem FZ(f:Bool)(l:List BL)(hl:l.length<=1000000):PC Tryz.prog 106 [.sl f (l.map sV)] (fun r=>r=.ow 1 (l.map sV)):=by
 refine⟨dY Tryz.func106 Z7 Z7,fun w Pb cargs hP hargs=>?_⟩
 obtain⟨A,c,r,rfl,h1,hle,hc⟩:=yH hargs
 obtain rfl:=lg h1
 rcases hc with rfl | ⟨b,o,rfl,hb,hc⟩
 cases A with
 | none=>
   refine(Tryz.slices_Clone_string_nil 0 c w).mono ?_
   rintro e w' ⟨rfl,rfl⟩
   exact⟨_,_,[],Pb,rfl,rfl,⟨0,0,0,.inl ⟨rfl,rfl,rfl,none,rfl⟩⟩,Ze,Z8,fun _ h=>h,fun _ h=>.inl h,Below.refl _ _⟩
 | some a=>
   refine(Tryz.slices_Clone_string_zero a c w).mono ?_
   rintro e w' ⟨v,rfl,hr,_,hB⟩
   obtain⟨F,k1,k2,k3⟩:=uJ (l:=[]) hP hr
   exact⟨_,_,F,Pb,rfl,rfl,k1,k2,k3,fun _ h=>h,fun _ h=>.inl h,hB⟩
 refine(Tryz.slices_Clone_string b o l.length c (l.map Str) w Z8 Z9 (fun j hj=>?_)).mono ?_
 apply hc;rw[YQ,YX hj];rfl
 rintro e w' ⟨v,rfl,hr,_,hB⟩
 rw[Y3 Z8,List.map_map]at hr
 obtain⟨F,k1,k2,k3⟩:=uJ hP hr
 exact⟨_,_,F,Pb,rfl,rfl,k1,k2,k3,fun _ h=>h,fun _ h=>.inl h,hB⟩
theorem GZ(f:Bool)(l:List BL)(hl:l.length<=1000000):PF Tryz.prog 106 [.sl f (l.map sV)] [] (fun r h=>r=.ow 1 (l.map sV)/\h=[]):=hX rfl rfl (FZ f l hl)
def foldI(b:Int):Int:=if 97<=b/\b<=102 then b-32 else b
def dT(i:Nat):Int:=if i<10 then 48+i else 55+i
def kG(b:Int):Int:=if 48<=foldI b/\foldI b<=57 then foldI b-48 else if 65<=foldI b/\foldI b<=70 then foldI b-55 else -1
theorem wL:∀ i,(h:i<16)->((((⟨#[48,49,50,51,52,53,54,55,56,57,65,66,67,68,69,70]⟩:ByteArray)[i]'h).toNat:Nat):Int)=dT i:=Z6
theorem tC{i:Nat}(h:i<16):dT i<128:=by unfold dT;split <;> omega
theorem GJ(b:UInt8):kG b.toNat=cB b:=by
 unfold kG foldI cB
 have:=b.toNat_lt
 repeat' split
 all_goals omega
theorem vU{b:Int}{i:Nat}(hi:i<16)(h:dT i=foldI b):kG b=i:=by
 unfold dT at h
 unfold kG
 split at h
 rw[if_pos Z9];omega
 rw[if_neg Z9,if_pos Z9];omega
theorem tM{b:Int}(h:∀ j:Nat,j<16->dT j≠foldI b):kG b= -1:=by
 unfold kG
 split
 rename_i hc
 refine absurd ?_ (h (foldI b-48).toNat Z9)
 unfold dT;rw[if_pos Z9];omega
 split
 rename_i hc
 refine absurd ?_ (h (foldI b-55).toNat Z9)
 unfold dT;rw[if_neg Z9];omega
 rfl
section
open Go Go.RowKit Go.Lib
set_option maxHeartbeats 1000000 in
set_option maxRecDepth 100000 in
theorem KP(b:Int)(h0:0<=b)(h1:b<256)(hlo:decide ((97:Int)<=b)=false)(w:World):Calls Tryz.prog 178 #[.int .u8 b] w fun e w'=>e=.returned (.tuple #[.int .i64 (max (kG b) 0),.bool (decide (0<=kG b))])/\∃ pos,w'=w.iter ⟨#[48,49,50,51,52,53,54,55,56,57,65,66,67,68,69,70]⟩ pos:=by
 have HF:Aside (foldI b=b):=by
  have:=of_decide_eq_false hlo;unfold Aside foldI;rw[if_neg Z9]
 go_enter Tryz.func178,Tryz.ntmps178
 go_wp2
 go_loopg [4,5] 16 (fun g _ _ wx=> ∃ i:Nat,i+g=16/\wx=w.iter ⟨#[48,49,50,51,52,53,54,55,56,57,65,66,67,68,69,70]⟩ i/\∀ j:Nat,j<i->dT j≠foldI b)
 case atStart=>exact⟨0,Z9,rfl,fun j hj=>by omega⟩
 case round=>
  obtain⟨i,hig,rfl,hno⟩:=hrel
  have HN:Aside (∀ j:Nat,j<i->dT j≠foldI b):=hno
  clear hno
  cases gk with
  | zero=>
    obtain rfl:i=16:=Z9
    have hnx:=run_next_end (P:=Tryz.prog) w ⟨#[48,49,50,51,52,53,54,55,56,57,65,66,67,68,69,70]⟩ 16
    go_wp2
    go_ret2
    exact⟨by rw[tM HN.out];rfl,_,rfl⟩
  | succ g=>
    have hi:i<(⟨#[48,49,50,51,52,53,54,55,56,57,65,66,67,68,69,70]⟩:ByteArray).size:=by show i<16;omega
    have hfa:((((⟨#[48,49,50,51,52,53,54,55,56,57,65,66,67,68,69,70]⟩:ByteArray)[i]'hi).toNat:Nat):Int)=dT i:=wL i hi
    have hlt:((⟨#[48,49,50,51,52,53,54,55,56,57,65,66,67,68,69,70]⟩:ByteArray)[i]'hi).toNat<128:=by have:=tC (show i<16 from hi);omega
    have hnx:=fun ty=>run_next_ascii (P:=Tryz.prog) w ⟨#[48,49,50,51,52,53,54,55,56,57,65,66,67,68,69,70]⟩ i ty hi hlt
    rw[hfa]at hnx
    clear hlt hfa
    cases hin:(dT i==b)
    · have HI:Aside ((dT i==b)=false):=hin
      go_wp2
      go_roundg g
      case measure=>omega
      case rel=>exact⟨i+1,Z9,rfl,fun j hj=>by
       by_cases e:j=i
       subst e;rw[HF.out];exact beq_eq_false_iff_ne.1 HI.out
       exact HN.out j Z9⟩
    have HI:Aside ((dT i==b)=true):=hin
    go_wp2
    go_ret2
    exact⟨by rw[vU (by have:i<16:=hi;exact this) (by rw[HF.out];exact Zp.1 HI.out)];simp,_,rfl⟩
set_option maxHeartbeats 1000000 in
set_option maxRecDepth 100000 in
theorem KB(b:Int)(h0:0<=b)(h1:b<256)(hlo:decide ((97:Int)<=b)=true)(hhi:decide (b<=102)=false)(w:World):Calls Tryz.prog 178 #[.int .u8 b] w fun e w'=>e=.returned (.tuple #[.int .i64 (max (kG b) 0),.bool (decide (0<=kG b))])/\∃ pos,w'=w.iter ⟨#[48,49,50,51,52,53,54,55,56,57,65,66,67,68,69,70]⟩ pos:=by
 have HF:Aside (foldI b=b):=by
  have:=of_decide_eq_false hhi;unfold Aside foldI;rw[if_neg Z9]
 go_enter Tryz.func178,Tryz.ntmps178
 go_wp2
 go_loopg [4,5] 16 (fun g _ _ wx=> ∃ i:Nat,i+g=16/\wx=w.iter ⟨#[48,49,50,51,52,53,54,55,56,57,65,66,67,68,69,70]⟩ i/\∀ j:Nat,j<i->dT j≠foldI b)
 case atStart=>exact⟨0,Z9,rfl,fun j hj=>by omega⟩
 case round=>
  obtain⟨i,hig,rfl,hno⟩:=hrel
  have HN:Aside (∀ j:Nat,j<i->dT j≠foldI b):=hno
  clear hno
  cases gk with
  | zero=>
    obtain rfl:i=16:=Z9
    have hnx:=run_next_end (P:=Tryz.prog) w ⟨#[48,49,50,51,52,53,54,55,56,57,65,66,67,68,69,70]⟩ 16
    go_wp2
    go_ret2
    exact⟨by rw[tM HN.out];rfl,_,rfl⟩
  | succ g=>
    have hi:i<(⟨#[48,49,50,51,52,53,54,55,56,57,65,66,67,68,69,70]⟩:ByteArray).size:=by show i<16;omega
    have hfa:((((⟨#[48,49,50,51,52,53,54,55,56,57,65,66,67,68,69,70]⟩:ByteArray)[i]'hi).toNat:Nat):Int)=dT i:=wL i hi
    have hlt:((⟨#[48,49,50,51,52,53,54,55,56,57,65,66,67,68,69,70]⟩:ByteArray)[i]'hi).toNat<128:=by have:=tC (show i<16 from hi);omega
    have hnx:=fun ty=>run_next_ascii (P:=Tryz.prog) w ⟨#[48,49,50,51,52,53,54,55,56,57,65,66,67,68,69,70]⟩ i ty hi hlt
    rw[hfa]at hnx
    clear hlt hfa
    cases hin:(dT i==b)
    · have HI:Aside ((dT i==b)=false):=hin
      go_wp2
      go_roundg g
      case measure=>omega
      case rel=>exact⟨i+1,Z9,rfl,fun j hj=>by
       by_cases e:j=i
       subst e;rw[HF.out];exact beq_eq_false_iff_ne.1 HI.out
       exact HN.out j Z9⟩
    have HI:Aside ((dT i==b)=true):=hin
    go_wp2
    go_ret2
    exact⟨by rw[vU (by have:i<16:=hi;exact this) (by rw[HF.out];exact Zp.1 HI.out)];simp,_,rfl⟩
set_option maxHeartbeats 1000000 in
set_option maxRecDepth 100000 in
theorem FQ(b:Int)(h0:0<=b)(h1:b<256)(hlo:decide ((97:Int)<=b)=true)(hhi:decide (b<=102)=true)(w:World):Calls Tryz.prog 178 #[.int .u8 b] w fun e w'=>e=.returned (.tuple #[.int .i64 (max (kG b) 0),.bool (decide (0<=kG b))])/\∃ pos,w'=w.iter ⟨#[48,49,50,51,52,53,54,55,56,57,65,66,67,68,69,70]⟩ pos:=by
 have HF:Aside (foldI b=(b-32) % 256):=by
  have:=of_decide_eq_true hhi;have:=of_decide_eq_true hlo;unfold Aside foldI;rw[if_pos Z9];omega
 go_enter Tryz.func178,Tryz.ntmps178
 go_wp2
 go_loopg [4,5] 16 (fun g _ _ wx=> ∃ i:Nat,i+g=16/\wx=w.iter ⟨#[48,49,50,51,52,53,54,55,56,57,65,66,67,68,69,70]⟩ i/\∀ j:Nat,j<i->dT j≠foldI b)
 case atStart=>exact⟨0,Z9,rfl,fun j hj=>by omega⟩
 case round=>
  obtain⟨i,hig,rfl,hno⟩:=hrel
  have HN:Aside (∀ j:Nat,j<i->dT j≠foldI b):=hno
  clear hno
  cases gk with
  | zero=>
    obtain rfl:i=16:=Z9
    have hnx:=run_next_end (P:=Tryz.prog) w ⟨#[48,49,50,51,52,53,54,55,56,57,65,66,67,68,69,70]⟩ 16
    go_wp2
    go_ret2
    exact⟨by rw[tM HN.out];rfl,_,rfl⟩
  | succ g=>
    have hi:i<(⟨#[48,49,50,51,52,53,54,55,56,57,65,66,67,68,69,70]⟩:ByteArray).size:=by show i<16;omega
    have hfa:((((⟨#[48,49,50,51,52,53,54,55,56,57,65,66,67,68,69,70]⟩:ByteArray)[i]'hi).toNat:Nat):Int)=dT i:=wL i hi
    have hlt:((⟨#[48,49,50,51,52,53,54,55,56,57,65,66,67,68,69,70]⟩:ByteArray)[i]'hi).toNat<128:=by have:=tC (show i<16 from hi);omega
    have hnx:=fun ty=>run_next_ascii (P:=Tryz.prog) w ⟨#[48,49,50,51,52,53,54,55,56,57,65,66,67,68,69,70]⟩ i ty hi hlt
    rw[hfa]at hnx
    clear hlt hfa
    cases hin:(dT i==(b-32) % 256)
    · have HI:Aside ((dT i==(b-32) % 256)=false):=hin
      go_wp2
      go_roundg g
      case measure=>omega
      case rel=>exact⟨i+1,Z9,rfl,fun j hj=>by
       by_cases e:j=i
       subst e;rw[HF.out];exact beq_eq_false_iff_ne.1 HI.out
       exact HN.out j Z9⟩
    have HI:Aside ((dT i==(b-32) % 256)=true):=hin
    go_wp2
    go_ret2
    exact⟨by rw[vU (by have:i<16:=hi;exact this) (by rw[HF.out];exact Zp.1 HI.out)];simp,_,rfl⟩
theorem Ku(b:UInt8):PC Tryz.prog 178 [uN b.toNat] (fun r=>r=.tup [iV (max (cB b) 0),bV (decide (0<=cB b))]):=by
 refine⟨dY Tryz.func178 Z7 Z7,fun w Pb cargs hP hargs=>?_⟩
 obtain⟨r,rfl,h1⟩:=gD hargs
 obtain rfl:=lg h1
 have hb:=b.toNat_lt
 have h:Calls Tryz.prog 178 #[.int .u8 b.toNat] w fun e w'=>e=.returned (.tuple #[.int .i64 (max (kG b.toNat) 0),.bool (decide (0<=kG b.toNat))])/\∃ pos,w'=w.iter ⟨#[48,49,50,51,52,53,54,55,56,57,65,66,67,68,69,70]⟩ pos:=by
  cases h1:decide ((97:Int)<=b.toNat)
  exact KP _ Z9 Z9 h1 w
  cases h2:decide ((b.toNat:Int)<=102)
  exact KB _ Z9 Z9 h1 h2 w
  exact FQ _ Z9 Z9 h1 h2 w
 rw[GJ]at h
 refine h.mono ?_
 rintro e w' ⟨rfl,pos,rfl⟩
 exact⟨_,_,[],Pb,rfl,rfl,sj rfl rfl,Ze,Z8,fun _ h=>h,fun _ h=>.inl h,⟨rfl,rfl,rfl,by simp[World.iter],fun k hk=>alloc_old w _ k hk⟩⟩
theorem Kh(b:UInt8):PF Tryz.prog 178 [uN b.toNat] [] (fun r h=>r=.tup [iV (max (cB b) 0),bV (decide (0<=cB b))]/\h=[]):=hX rfl rfl (Ku b)
end
def XT:ZT Tryz.prog:=⟨3,iN 0,dE (cs:=[.int .i64 0]) Z7 Z7⟩
def XS:ZT Tryz.prog:=⟨4,bV false,dE (cs:=[.bool false]) Z7 Z7⟩
def MB:ZT Tryz.prog:=⟨24,.sl true [],dE (cs:=[.slice none 0 0]) Z7 Z7⟩
def eR:ZT Tryz.prog:=⟨30,.agg [sV [],iN 0,.sl true [],.sl true [],.sl true []],dE (cs:=[.string ⟨#[]⟩,.int .i64 0,.slice none 0 0,.slice none 0 0,.slice none 0 0]) Z7 Z7⟩
def jt:ZT Tryz.prog:=⟨36,.agg [.sl true [],.sl true [],iN 0],dE (cs:=[.slice none 0 0,.slice none 0 0,.int .i64 0]) Z7 Z7⟩
def GS:ZT Tryz.prog:=⟨39,.agg [sV [],iN 0,bV false,.agg [.sl true [],.sl true [],iN 0],iN 0,.sl true []],dE (cs:=[.string ⟨#[]⟩,.int .i64 0,.bool false,.slice none 0 0,.slice none 0 0,.int .i64 0,.int .i64 0,.slice none 0 0]) Z7 Z7⟩
def dg:ZT Tryz.prog:=⟨52,.agg [sV [],.sl true [],bV false,sV []],dE (cs:=[.string ⟨#[]⟩,.slice none 0 0,.bool false,.string ⟨#[]⟩]) Z7 Z7⟩
def tc:ZT Tryz.prog:=⟨63,.agg [sV [],iN 0],dE (cs:=[.string ⟨#[]⟩,.int .i64 0]) Z7 Z7⟩
def zB:ZT Tryz.prog:=⟨78,.agg [iN 0,sV [],iN 0],dE (cs:=[.int .i64 0,.string ⟨#[]⟩,.int .i64 0]) Z7 Z7⟩
def MD:ZT Tryz.prog:=⟨88,.agg [.lit (.map none),.lit (.pointer none)],dE (cs:=[.map none,.pointer none]) Z7 Z7⟩
def Mu:ZT Tryz.prog:=⟨97,.agg [.sl true [],iN 0],dE (cs:=[.slice none 0 0,.int .i64 0]) Z7 Z7⟩
def nq:ZT Tryz.prog:=⟨99,.agg [sV [],sV [],sV [],iN 0],dE (cs:=[.string ⟨#[]⟩,.string ⟨#[]⟩,.string ⟨#[]⟩,.int .i64 0]) Z7 Z7⟩
def HT:ZT Tryz.prog:=⟨129,.agg [iN 0,bV false],dE (cs:=[.int .i64 0,.bool false]) Z7 Z7⟩
def uB:ZT Tryz.prog:=⟨131,.agg [bV false,sV []],dE (cs:=[.bool false,.string ⟨#[]⟩]) Z7 Z7⟩
def LS:ZT Tryz.prog:=⟨158,.agg [.lit .nilFunc,.lit .nilFunc],dE (cs:=[.nilFunc,.nilFunc]) Z7 Z7⟩
def Me:ZT Tryz.prog:=⟨174,.agg [.sl true [],bV false],dE (cs:=[.slice none 0 0,.bool false]) Z7 Z7⟩
def my:ZT Tryz.prog:=⟨210,.agg [sV []],dE (cs:=[.string ⟨#[]⟩]) Z7 Z7⟩
def CS:ZT Tryz.prog:=⟨212,.agg [.agg [bV false,sV []]],dE (cs:=[.bool false,.string ⟨#[]⟩]) Z7 Z7⟩
def Hy:ZT Tryz.prog:=⟨215,.agg [iN 0],dE (cs:=[.int .i64 0]) Z7 Z7⟩
def LJ:ZT Tryz.prog:=⟨247,.agg [.lit .nilFunc,.lit .nilFunc,.lit .nilFunc],dE (cs:=[.nilFunc,.nilFunc,.nilFunc]) Z7 Z7⟩
theorem mixed:Tryz.prog.follows .mixedOrders=true:=Z7
abbrev oU(s:BL)(c:UInt8):V:=.tup [sV ((ae c s).1),sV ((ae c s).2.1),bV ((ae c s).2.2)]
abbrev kQ(s:BL)(c:UInt8)(i:Nat):Prop:=i<=s.length/\ae c s=(s.take i++(ae c (s.drop i)).1,(ae c (s.drop i)).2.1,(ae c (s.drop i)).2.2)
def mM(s:BL)(c:UInt8):o6 Tryz.prog:=.mk 132 [sV s,uN c.toNat] [] (s.length<=4611686018427387904) (oU s c) [] (by
 intro hs
 refine av (N:=27) (rs:=[.tmp 4,.tmp 5,.tmp 6]) Tryz.func132
  (.q 3<|.q 1<|.loop (Nat) (fun (i:Nat)=>⟨[(0,sV s),(1,uN c.toNat),(7,iN i)],[]⟩) (fun (i:Nat)=>kQ s c i) (fun (i:Nat)=>s.length-i) (fun (i:Nat)=>.q 4<|.br (.q 5<|.br (.dx 8 [0,1,2,3,4,5,6,7] [] []<|.q 1<|.q 1<|.q 1<|.q 1<|.q 1<|.q 1<|.q 1<|.q 1<|.q 2<|.nil) (.q 3<|.nil)) (.q 4<|.nil)))
  ((∃ j6:Nat,(kQ s c j6)/\E (sV s)/\E (uN c.toNat)/\Q (iN 0) (iN j6)/\True)/\∀ i:Nat,(kQ s c i)->Br (r9 (i:Int) (s.length:Int)) (Ix (i:Int) s/\Br (o9 (((s.getD i 0).toNat:Nat):Int) (c.toNat:Int)) (Sx (0:Int) (i:Int) s/\m8 ((i:Int)+1)/\Sx ((i+1:Nat):Int) (s.length:Int) s/\Q (.tup [sV ((s.take i).drop ((0:Int).toNat)),sV ((s.take s.length).drop (i+1)),bV true]) (oU s c)) (m8 ((i:Int)+1)/\∃ b7:Nat,(kQ s c b7)/\(s.length-b7<s.length-i)/\E (sV s)/\E (uN c.toNat)/\Q (iN (i+1)) (iN b7)/\True)) (Q (.tup [sV s,sV [],bV false]) (oU s c))) ?_
 refine⟨⟨0,?_,rfl,rfl,rfl,trivial⟩,?_⟩
 unfold kQ
 simp_all
 rintro i ⟨hi,Ni⟩
 refine bI (fun j7=>?_) fun j7=>?_
 refine⟨Z9,?_⟩
 refine bI (fun l6=>?_) fun l6=>?_
 refine⟨Z9,Z9,Z9,?_⟩
 unfold Q oU
 have he:s.getD i 0=c:=UInt8.toNat_inj.1 (by exact_mod_cast l6)
 rw[Ni,drop_cons (by omega:i<s.length) 0,ae,if_pos he]
 simp
 refine⟨Z9,?_⟩
 refine⟨i+1,?_,?_,rfl,rfl,rfl,trivial⟩
 unfold kQ
 refine⟨Z9,?_⟩
 have hne: ¬ s.getD i 0=c:=fun h=>l6 (by rw[h])
 rw[Ni,drop_cons (by omega:i<s.length) 0]
 simp only[ae,if_neg hne,bg (by omega:i<s.length) 0,List.append_assoc,List.cons_append,List.nil_append]
 exact Z1
 unfold Q oU
 have hl:s.length<=i:=Z9
 rw[Ni,Zc hl,ae,Y3 hl]
 simp)
def lR(n:Int)(lo:Int)(up:Int):o6 Tryz.prog:=.mk 61 [iV n,iV lo,iV up] [] True (bV (A7 n lo up)) [] (by
 intro _
 refine av (N:=15) (rs:=[.tmp 6]) Tryz.func61
  (.q 1<|.q 9<|.nil)
  (Pk (z6 n lo) ((z6 n lo)==true) true/\Q (bV ((z6 n lo)&&(D1 n up))) (bV (A7 n lo up))) ?_
 refine⟨⟨fun h=>by rw[h] <;> rfl,fun _=>rfl⟩,?_⟩
 unfold Q
 refine Zq bV ?_
 rw[Za]
 simp[A7])
def jV(b:UInt8):o6 Tryz.prog:=.mk 182 [uN b.toNat] [] True (bV (dV b)) [] (by
 intro _
 refine av (N:=25) (rs:=[.tmp 2]) Tryz.func182
  (.q 1<|.q 23<|.nil)
  ((fun v1:Int=>(fun v2:Bool=>(Pk (z6 v1 97) ((z6 v1 97)==true) true/\Gd v2 (Pk (z6 v1 48) (v2&&((z6 v1 48)==true)) true)/\Pk ((z6 v1 97)&&(D1 v1 122)) true v2/\Pk (((z6 v1 97)&&(D1 v1 122))||((z6 v1 48)&&(D1 v1 57))) true ((((z6 v1 97)&&(D1 v1 122))||((z6 v1 48)&&(D1 v1 57)))==false)/\Pk ((((z6 v1 97)&&(D1 v1 122))||((z6 v1 48)&&(D1 v1 57)))||(o9 v1 46)) true (((((z6 v1 97)&&(D1 v1 122))||((z6 v1 48)&&(D1 v1 57)))||(o9 v1 46))==false)/\Q (bV (((((z6 v1 97)&&(D1 v1 122))||((z6 v1 48)&&(D1 v1 57)))||(o9 v1 46))||(o9 v1 45))) (bV (dV b)))) (((z6 v1 97)&&(D1 v1 122))==false)) (b.toNat:Int)) ?_
 refine⟨⟨fun h=>by rw[h] <;> rfl,fun _=>rfl⟩,fun hG=>⟨fun h=>by rw[h];exact(YS _ _).mpr ⟨hG,rfl⟩,fun _=>rfl⟩,⟨fun _=>rfl,fun h=>by rw[h] <;> rfl⟩,⟨fun _=>rfl,fun h=>by rw[h] <;> rfl⟩,⟨fun _=>rfl,fun h=>by rw[h] <;> rfl⟩,?_⟩
 unfold Q
 refine Zq bV ?_
 rw[Za]
 simp[dV]
 try omega)
def kR(b:UInt8):o6 Tryz.prog:=.mk 154 [uN b.toNat] [] True (bV (dV b)) [] (by
 intro _
 refine av (N:=25) (rs:=[.tmp 2]) Tryz.func154
  (.q 1<|.q 23<|.nil)
  ((fun v1:Int=>(fun v2:Bool=>(Pk (z6 v1 97) ((z6 v1 97)==true) true/\Gd v2 (Pk (z6 v1 48) (v2&&((z6 v1 48)==true)) true)/\Pk ((z6 v1 97)&&(D1 v1 122)) true v2/\Pk (((z6 v1 97)&&(D1 v1 122))||((z6 v1 48)&&(D1 v1 57))) true ((((z6 v1 97)&&(D1 v1 122))||((z6 v1 48)&&(D1 v1 57)))==false)/\Pk ((((z6 v1 97)&&(D1 v1 122))||((z6 v1 48)&&(D1 v1 57)))||(o9 v1 46)) true (((((z6 v1 97)&&(D1 v1 122))||((z6 v1 48)&&(D1 v1 57)))||(o9 v1 46))==false)/\Q (bV (((((z6 v1 97)&&(D1 v1 122))||((z6 v1 48)&&(D1 v1 57)))||(o9 v1 46))||(o9 v1 45))) (bV (dV b)))) (((z6 v1 97)&&(D1 v1 122))==false)) (b.toNat:Int)) ?_
 refine⟨⟨fun h=>by rw[h] <;> rfl,fun _=>rfl⟩,fun hG=>⟨fun h=>by rw[h];exact(YS _ _).mpr ⟨hG,rfl⟩,fun _=>rfl⟩,⟨fun _=>rfl,fun h=>by rw[h] <;> rfl⟩,⟨fun _=>rfl,fun h=>by rw[h] <;> rfl⟩,⟨fun _=>rfl,fun h=>by rw[h] <;> rfl⟩,?_⟩
 unfold Q
 refine Zq bV ?_
 rw[Za]
 simp[dV]
 try omega)
def jM(b:UInt8):o6 Tryz.prog:=.mk 197 [uN b.toNat] [] True (iV (cB b)) [] (by
 intro _
 refine av (N:=35) (rs:=[.tmp 2]) Tryz.func197
  (.q 1<|.q 7<|.br (.q 4<|.nil) (.q 7<|.br (.q 5<|.nil) (.q 7<|.br (.q 5<|.nil) (.q 1<|.nil))))
  ((fun v1:Int=>(Pk (z6 v1 48) ((z6 v1 48)==true) true/\Br ((z6 v1 48)&&(D1 v1 57)) (Px (v1-48)/\m8 (v1-48)/\Q (iV (v1-48)) (iV (cB b))) (Pk (z6 v1 97) ((z6 v1 97)==true) true/\Br ((z6 v1 97)&&(D1 v1 102)) (Px (v1-97)/\m8 (v1-97)/\m8 ((v1-97)+10)/\Q (iV ((v1-97)+10)) (iV (cB b))) (Pk (z6 v1 65) ((z6 v1 65)==true) true/\Br ((z6 v1 65)&&(D1 v1 70)) (Px (v1-65)/\m8 (v1-65)/\m8 ((v1-65)+10)/\Q (iV ((v1-65)+10)) (iV (cB b))) (Q (iV (-1)) (iV (cB b))))))) (b.toNat:Int)) ?_
 refine⟨⟨fun h=>by rw[h] <;> rfl,fun _=>rfl⟩,?_⟩
 refine bI (fun j7=>?_) fun j7=>?_
 · refine⟨by have:=Zh b;omega,by have:=Zh b;omega,?_⟩
   unfold Q
   have:=b.toNat_lt
   refine Zq iV ?_
   unfold cB
   repeat (split <;> try omega)
 · refine⟨⟨fun h=>by rw[h] <;> rfl,fun _=>rfl⟩,?_⟩
   refine bI (fun l6=>?_) fun l6=>?_
   · refine⟨by have:=Zh b;omega,by have:=Zh b;omega,by have:=Zh b;omega,?_⟩
     unfold Q
     have:=b.toNat_lt
     refine Zq iV ?_
     unfold cB
     repeat (split <;> try omega)
   · refine⟨⟨fun h=>by rw[h] <;> rfl,fun _=>rfl⟩,?_⟩
     refine bI (fun n6=>?_) fun n6=>?_
     · refine⟨by have:=Zh b;omega,by have:=Zh b;omega,by have:=Zh b;omega,?_⟩
       unfold Q
       have:=b.toNat_lt
       refine Zq iV ?_
       unfold cB
       repeat (split <;> try omega)
     · unfold Q
       have:=b.toNat_lt
       refine Zq iV ?_
       unfold cB
       repeat (split <;> try omega))
def xq(s:BL):o6 Tryz.prog:=.mk 163 [sV s] [] (s.length<=4611686018427387904) (bV (cM s)) [] (by
 intro hs
 refine av (N:=23) (rs:=[.tmp 2]) Tryz.func163
  (.q 1<|.q 1<|.loop (Nat) (fun (i:Nat)=>⟨[(0,sV s),(3,iN i)],[]⟩) (fun (i:Nat)=>i<=s.length/\∀ j,j<i->gL (s.getD j 0)=true) (fun (i:Nat)=>s.length-i) (fun (i:Nat)=>.q 4<|.br (.q 10<|.br (.q 1<|.nil) (.q 3<|.nil)) (.q 2<|.c (lR (s.length:Int) (1:Int) (5:Int)) []<|.q 1<|.nil)))
  ((∃ j6:Nat,(j6<=s.length/\∀ j,j<j6->gL (s.getD j 0)=true)/\E (sV s)/\Q (iN 0) (iN j6)/\True)/\∀ i:Nat,(i<=s.length/\∀ j,j<i->gL (s.getD j 0)=true)->(fun v1:Int=>Br (r9 (i:Int) (s.length:Int)) (Ix (i:Int) s/\Gd ((r9 v1 97)==false) (Ix (i:Int) s)/\Pk (r9 v1 97) true ((r9 v1 97)==false)/\Br ((r9 v1 97)||(s9 v1 122)) (Q (bV false) (bV (cM s))) (m8 ((i:Int)+1)/\∃ b7:Nat,(b7<=s.length/\∀ j,j<b7->gL (s.getD j 0)=true)/\(s.length-b7<s.length-i)/\E (sV s)/\Q (iN (i+1)) (iN b7)/\True)) ((lR (s.length:Int) (1:Int) (5:Int)).sm/\(True)/\Q (bV (A7 (s.length:Int) (1:Int) (5:Int))) (bV (cM s)))) (((s.getD i 0).toNat:Nat):Int)) ?_
 refine⟨⟨0,?_,rfl,rfl,trivial⟩,?_⟩
 simp_all
 rintro i ⟨hi,O'⟩
 refine bI (fun j7=>?_) fun j7=>?_
 refine⟨Z9,fun hG=>by(try simp only[nb]at hG);omega,⟨fun _=>rfl,fun h=>by rw[h] <;> rfl⟩,?_⟩
 refine bI (fun l6=>?_) fun l6=>?_
 unfold Q
 rw[show cM s=false from by unfold cM fG;rw[all_false (i:=i) (d:=0) Z9 (by simp only[gL,decide_eq_false_iff_not];omega)];rfl]
 refine⟨Z9,?_⟩
 refine⟨i+1,?_,?_,rfl,rfl,trivial⟩
 refine⟨Z9,bS O' ?_⟩
 simp only[gL,Zo];omega
 exact Z1
 refine⟨rfl,trivial,?_⟩
 unfold Q
 unfold cM
 rw[show fG s=true from all_true (d:=0) fun j hj=>O' j Z9]
 rw[Bool.true_and])
def qa(s:BL):o6 Tryz.prog:=.mk 58 [sV s] [] (s.length<=4611686018427387904) (bV (bn s)) [] (by
 intro hs
 refine av (N:=23) (rs:=[.tmp 2]) Tryz.func58
  (.q 1<|.q 1<|.loop (Nat) (fun (i:Nat)=>⟨[(0,sV s),(3,iN i)],[]⟩) (fun (i:Nat)=>i<=s.length/\∀ j,j<i->gL (s.getD j 0)=true) (fun (i:Nat)=>s.length-i) (fun (i:Nat)=>.q 4<|.br (.q 10<|.br (.q 1<|.nil) (.q 3<|.nil)) (.q 2<|.c (lR (s.length:Int) (1:Int) (8:Int)) []<|.q 1<|.nil)))
  ((∃ j6:Nat,(j6<=s.length/\∀ j,j<j6->gL (s.getD j 0)=true)/\E (sV s)/\Q (iN 0) (iN j6)/\True)/\∀ i:Nat,(i<=s.length/\∀ j,j<i->gL (s.getD j 0)=true)->(fun v1:Int=>Br (r9 (i:Int) (s.length:Int)) (Ix (i:Int) s/\Gd ((r9 v1 97)==false) (Ix (i:Int) s)/\Pk (r9 v1 97) true ((r9 v1 97)==false)/\Br ((r9 v1 97)||(s9 v1 122)) (Q (bV false) (bV (bn s))) (m8 ((i:Int)+1)/\∃ b7:Nat,(b7<=s.length/\∀ j,j<b7->gL (s.getD j 0)=true)/\(s.length-b7<s.length-i)/\E (sV s)/\Q (iN (i+1)) (iN b7)/\True)) ((lR (s.length:Int) (1:Int) (8:Int)).sm/\(True)/\Q (bV (A7 (s.length:Int) (1:Int) (8:Int))) (bV (bn s)))) (((s.getD i 0).toNat:Nat):Int)) ?_
 refine⟨⟨0,?_,rfl,rfl,trivial⟩,?_⟩
 simp_all
 rintro i ⟨hi,O'⟩
 refine bI (fun j7=>?_) fun j7=>?_
 refine⟨Z9,fun hG=>by(try simp only[nb]at hG);omega,⟨fun _=>rfl,fun h=>by rw[h] <;> rfl⟩,?_⟩
 refine bI (fun l6=>?_) fun l6=>?_
 unfold Q
 rw[show bn s=false from by unfold bn fG;rw[all_false (i:=i) (d:=0) Z9 (by simp only[gL,decide_eq_false_iff_not];omega)];rfl]
 refine⟨Z9,?_⟩
 refine⟨i+1,?_,?_,rfl,rfl,trivial⟩
 refine⟨Z9,bS O' ?_⟩
 simp only[gL,Zo];omega
 exact Z1
 refine⟨rfl,trivial,?_⟩
 unfold Q
 unfold bn
 rw[show fG s=true from all_true (d:=0) fun j hj=>O' j Z9]
 rw[Bool.true_and])
def mC(s:BL):o6 Tryz.prog:=.mk 69 [sV s] [] (s.length<=4611686018427387904) (bV (fG s)) [] (by
 intro hs
 refine av (N:=20) (rs:=[.tmp 2]) Tryz.func69
  (.q 1<|.q 1<|.loop (Nat) (fun (i:Nat)=>⟨[(0,sV s),(3,iN i)],[]⟩) (fun (i:Nat)=>i<=s.length/\∀ j,j<i->gL (s.getD j 0)=true) (fun (i:Nat)=>s.length-i) (fun (i:Nat)=>.q 4<|.br (.q 10<|.br (.q 1<|.nil) (.q 3<|.nil)) (.q 1<|.nil)))
  ((∃ j6:Nat,(j6<=s.length/\∀ j,j<j6->gL (s.getD j 0)=true)/\E (sV s)/\Q (iN 0) (iN j6)/\True)/\∀ i:Nat,(i<=s.length/\∀ j,j<i->gL (s.getD j 0)=true)->(fun v1:Int=>Br (r9 (i:Int) (s.length:Int)) (Ix (i:Int) s/\Gd ((r9 v1 97)==false) (Ix (i:Int) s)/\Pk (r9 v1 97) true ((r9 v1 97)==false)/\Br ((r9 v1 97)||(s9 v1 122)) (Q (bV false) (bV (fG s))) (m8 ((i:Int)+1)/\∃ b7:Nat,(b7<=s.length/\∀ j,j<b7->gL (s.getD j 0)=true)/\(s.length-b7<s.length-i)/\E (sV s)/\Q (iN (i+1)) (iN b7)/\True)) (Q (bV true) (bV (fG s)))) (((s.getD i 0).toNat:Nat):Int)) ?_
 refine⟨⟨0,?_,rfl,rfl,trivial⟩,?_⟩
 simp_all
 rintro i ⟨hi,O'⟩
 refine bI (fun j7=>?_) fun j7=>?_
 refine⟨Z9,fun hG=>by(try simp only[nb]at hG);omega,⟨fun _=>rfl,fun h=>by rw[h] <;> rfl⟩,?_⟩
 refine bI (fun l6=>?_) fun l6=>?_
 unfold Q
 rw[show fG s=false from by unfold fG;rw[all_false (i:=i) (d:=0) Z9 (by simp only[gL,decide_eq_false_iff_not];omega)]]
 refine⟨Z9,?_⟩
 refine⟨i+1,?_,?_,rfl,rfl,trivial⟩
 refine⟨Z9,bS O' ?_⟩
 simp only[gL,Zo];omega
 exact Z1
 unfold Q
 rw[show fG s=true from all_true (d:=0) fun j hj=>O' j Z9])
def oq(s:BL):o6 Tryz.prog:=.mk 51 [sV s] [] (s.length<=4611686018427387904) (bV (cM s)) [] (by
 intro hs
 refine av (N:=15) (rs:=[.tmp 2]) Tryz.func51
  (.q 1<|.q 10<|.cg (mC s)<|.q 2<|.nil)
  ((fun v1:Int=>(Pk (z6 v1 1) ((z6 v1 1)==true) true/\Gd (((z6 v1 1)&&(D1 v1 5))==true) (((s.length<=4611686018427387904))/\(mC s).sm)/\Pk ((z6 v1 1)&&(D1 v1 5)) (((z6 v1 1)&&(D1 v1 5))==true) true/\Q (bV (((z6 v1 1)&&(D1 v1 5))&&(fG s))) (bV (cM s)))) (s.length:Int)) ?_
 refine⟨⟨fun h=>by rw[h] <;> rfl,fun _=>rfl⟩,fun hG=>⟨by(try simp only[nb]at hG);first | assumption | omega | (simp;omega),rfl⟩,⟨fun h=>by rw[h] <;> rfl,fun _=>rfl⟩,?_⟩
 unfold Q
 refine Zq bV ?_
 rw[Za]
 simp[cM,A7,and_comm,and_assoc]
 try omega)
def gp(s:BL):o6 Tryz.prog:=.mk 38 [sV s] [] (s.length<=4611686018427387904) (bV (bn s)) [] (by
 intro hs
 refine av (N:=15) (rs:=[.tmp 2]) Tryz.func38
  (.q 1<|.q 10<|.cg (mC s)<|.q 2<|.nil)
  ((fun v1:Int=>(Pk (z6 v1 1) ((z6 v1 1)==true) true/\Gd (((z6 v1 1)&&(D1 v1 8))==true) (((s.length<=4611686018427387904))/\(mC s).sm)/\Pk ((z6 v1 1)&&(D1 v1 8)) (((z6 v1 1)&&(D1 v1 8))==true) true/\Q (bV (((z6 v1 1)&&(D1 v1 8))&&(fG s))) (bV (bn s)))) (s.length:Int)) ?_
 refine⟨⟨fun h=>by rw[h] <;> rfl,fun _=>rfl⟩,fun hG=>⟨by(try simp only[nb]at hG);first | assumption | omega | (simp;omega),rfl⟩,⟨fun h=>by rw[h] <;> rfl,fun _=>rfl⟩,?_⟩
 unfold Q
 refine Zq bV ?_
 rw[Za]
 simp[bn,A7,and_comm,and_assoc]
 try omega)
end Go.Proofs.YtbjbamjffkanbaaGreatDoor