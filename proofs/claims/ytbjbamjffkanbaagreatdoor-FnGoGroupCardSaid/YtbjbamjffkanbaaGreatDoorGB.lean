/-
  Words and walks for the laws of pedlar's seat: what each function of the program computes, and that it does; no conditions beyond those that each statement names.
-/
import Derived.Test.YtbjbamjffkanbaaGreatDoorGA
import Derived.Scope
import Derived.Laws.MakeOwn
import Derived.MapKept
import Derived.Test.YtbjbamjffkanbaaGreatDoorProg
import Derived.Shelf.Strings.OnBuilder
import Derived.Shelf.Strings.Search2
import Derived.Shelf.Strings.Search3
import Derived.Shelf.Strings.Count
import Derived.Shelf.Strings.SplitCore
import Derived.Shelf.Strings.IndexAnyAll
import Derived.Shelf.Slices.Turned
import Derived.Shelf.Slices.Clone
import Derived.Lib.Join
import Derived.Lib.IndexAny
import Derived.Lib.SplitLaws
import Derived.WalkKit
import Derived.Laws.RangeString
import Derived.Deep.LoopGhost
set_option linter.unusedVariables false
set_option linter.unusedSimpArgs false
set_option linter.unnecessarySimpa false
set_option linter.unusedSectionVars false
namespace Go.Abs
open Go Go.RowKit
mutual
def V.Ns(ρ:l7->l7):V->V
 | .hd r p sz g o lo n c=>.hd (ρ r) p sz g o lo n c
 | .ptr r p g o=>.ptr (ρ r) p g o
 | .agg vs=>.agg (V.we ρ vs)
 | .tup vs=>.tup (V.we ρ vs)
 | v=>v
def V.we(ρ:l7->l7):List V->List V
 | []=>[]
 | v::vs=>v.Ns ρ::V.we ρ vs
end
def T6:V->V
 | .tup _=>.c9
 | .gv _ _=>.c9
 | v=>v
def AS.tk(A:AS):List Operand->List V×AS
 | []=>([],A)
 | x::xs=>match (A.drop x).tk xs with
   | (vs,B)=>(T6 (A.ev x)::vs,B)
section
variable {w w':World} {Pb Kb Pb':Nat->Prop} {N:Nat} {A A' B:AS} {a:Act} {F:l7->List Nat} {P:Program} {ops:Array Oper}
mutual
theorem GM(ρ:l7->l7):∀ (v:V) {cs F},R w Pb v cs F->R w Pb (v.Ns ρ) cs F
 | .agg vs,_,_,h=>by simp only[R,V.Ns]at h ⊢;exact vg ρ vs h
 | .tup _,_,_,h=>by simp[R]at h
 | .hd ..,_,_,h=>h
 | .ptr ..,_,_,h=>h
 | .gv _ _,_,_,h=>h
 | .lit _,_,_,h=>h
 | .sl ..,_,_,h=>h
 | .own ..,_,_,h=>h
 | .ow ..,_,_,h=>h
 | .om ..,_,_,h=>h
 | .mp _,_,_,h=>h
 | .ep _,_,_,h=>h
 | .c9,_,_,h=>h
theorem vg(ρ:l7->l7):∀ (vs:List V) {cs F},RL w Pb vs cs F->RL w Pb (V.we ρ vs) cs F
 | [],_,_,h=>h
 | v::vs,_,_,h=>by
   obtain⟨c1,c2,F1,F2,rfl,rfl,h1,h2⟩:=h
   exact⟨c1,c2,F1,F2,rfl,rfl,GM ρ v h1,vg ρ vs h2⟩
end
theorem IL(ρ:l7->l7){v:V}{x:Value}{F1:List Nat}(h:ND w Pb v x F1):ND w Pb (v.Ns ρ) x F1:=by
 cases v with
 | agg us=>obtain⟨cs,rfl,h⟩:=h;exact⟨cs,rfl,vg ρ us h⟩
 | tup vs=>simp[ND,R]at h
 | _=>exact h
theorem Af(ρ:l7->l7):∀ (vs:List V) {xs F1},RVs w Pb vs xs F1->RVs w Pb (V.we ρ vs) xs F1
 | [],_,_,h=>h
 | v::vs,xs,F1,h=>by
   obtain⟨x,xs',Fa,Fb,rfl,rfl,h1,h2⟩:=(tP (v::vs)).1 h
   exact(tP (v.Ns ρ::V.we ρ vs)).2 ⟨x,xs',Fa,Fb,rfl,rfl,IL ρ h1,Af ρ vs h2⟩
theorem Ju(ρ:l7->l7){v:V}{x:Value}{F1:List Nat}(h:RV w Pb v x F1):RV w Pb (v.Ns ρ) x F1:=by
 cases v with
 | agg us=>obtain⟨cs,rfl,h⟩:=h;exact⟨cs,rfl,vg ρ us h⟩
 | tup us=>obtain⟨cs,rfl,h⟩:=h;exact⟨cs,rfl,Af ρ us h⟩
 | _=>exact h
def QD(w:World)(Pb:Nat->Prop):List V->List Value->List (List Nat)->Prop
 | [],[],[]=>True
 | v::vs,x::xs,F::Fs=>RV w Pb v x F/\QD w Pb vs xs Fs
 | _,_,_=>False
theorem px:∀ {vs us:List V} {xs ys:List Value} {Fs Gs:List (List Nat)},QD w Pb vs xs Fs->QD w Pb us ys Gs->QD w Pb (vs++us) (xs++ys) (Fs++Gs)
 | [],_,[],_,[],_,_,h=>h
 | _::_,_,_::_,_,_::_,_,h,k=>⟨h.1,px h.2 k⟩
 | [],_,_::_,_,_,_,h,_=>h.elim
 | [],_,[],_,_::_,_,h,_=>h.elim
 | _::_,_,[],_,_,_,h,_=>h.elim
 | _::_,_,_::_,_,[],_,h,_=>h.elim
theorem Bb:∀ {vs:List V} {xs:List Value} {Fs:List (List Nat)},QD w Pb vs xs Fs->xs.length=vs.length/\Fs.length=vs.length
 | [],[],[],_=>⟨rfl,rfl⟩
 | _::_,_::_,_::_,h=>by have:=Bb h.2;simp[this.1,this.2]
 | [],_::_,_,h=>h.elim
 | [],[],_::_,h=>h.elim
 | _::_,[],_,h=>h.elim
 | _::_,_::_,[],h=>h.elim
theorem AP:∀ {vs:List V} {xs:List Value} {Fs:List (List Nat)} {i:Nat} {v:V} {x:Value},QD w Pb vs xs Fs->vs[i]? =some v->xs[i]? =some x->RV w Pb v x (Fs.getD i [])
 | v::vs,x::xs,F::Fs,0,_,_,h,h1,h2=>by simp at h1 h2;subst h1 h2;exact h.1
 | v::vs,x::xs,F::Fs,i+1,_,_,h,h1,h2=>by simpa using AP (i:=i) h.2 (by simpa using h1) (by simpa using h2)
 | [],_,_,_,_,_,_,h1,_=>by simp at h1
 | _::_,[],_,_,_,_,h,_,_=>h.elim
 | _::_,_::_,[],_,_,_,h,_,_=>h.elim
theorem CV:∀ {vs us:List V} {xs:List Value} {Fs:List (List Nat)},QD w Pb vs xs Fs->QD w Pb (Mt vs us) xs Fs
 | [],us,[],[],_=>by simp only[Mt];trivial
 | v::vs,[],_,_,h=>by simpa only[Mt] using h
 | v::vs,u::us,x::xs,F::Fs,h=>⟨xE u h.1,CV h.2⟩
 | [],_,_::_,_,h=>h.elim
 | [],_,[],_::_,h=>h.elim
 | _::_,_::_,[],_,h=>h.elim
 | _::_,_::_,_::_,[],h=>h.elim
theorem pj:∀ (l:List Value),QD w Pb (l.map cV) l (l.map fun _=>[])
 | []=>trivial
 | x::l=>⟨rV x,pj l⟩
theorem Jl{v:V}{x:Value}{Fx:List Nat}(h:RV w Pb v x Fx):∃ Fy,RV w Pb (T6 v) x Fy/\(Fy=Fx\/Fy=[]):=by
 cases v with
 | tup _=>exact⟨[],rfl,.inr rfl⟩
 | gv _ _=>exact⟨[],rfl,.inr rfl⟩
 | _=>exact⟨Fx,h,.inl rfl⟩
theorem s3.tk:∀ (xs:List Operand) {A:AS} {F:l7->List Nat},s3 N Pb Kb A a w F->∃ Fl F',QD w Pb (A.tk xs).1 (xs.map a.eval) Fl/\s3 N Pb Kb (A.tk xs).2 a w F'/\
 (∀ i,(Fl.getD i []).Nodup)/\(∀ i j,i≠j->∀ g,g∈Fl.getD i []->g ∉ Fl.getD j [])/\(∀ i r g,g∈Fl.getD i []->g ∉ F' r)/\(∀ i g,g∈Fl.getD i []->¬ Kb g/\g<w.heap.size)/\
 (∀ r g,g∈F' r->g∈F r)/\(∀ i g,g∈Fl.getD i []->∃ r,g∈F r)
 | [],A,F,hs=>⟨[],F,trivial,hs,Z8,Z8,Z8,Z8,fun _ _ h=>h,Z8⟩
 | x::xs,A,F,hs=>by
   obtain⟨Fx,F1,h1,h2,h3,h4,h5,h6,h7⟩:=hs.take x
   obtain⟨Fl,F2,k1,k2,k3,k4,k5,k6,k7,k8⟩:=s3.tk xs h2
   obtain⟨Fy,QW,Ts⟩:=Jl h1
   have Vc:∀ g,g∈Fy->g∈Fx:=fun g hg=>by rcases Ts with rfl | rfl <;> simp_all
   have hyn:Fy.Nodup:=by rcases Ts with rfl | rfl <;> simp_all
   have hx:∀ i g,g∈Fy->g ∉ Fl.getD i []:=fun i g hg c=>by
    obtain⟨r,hr⟩:=k8 i g c
    exact h4 r g (Vc g hg) hr
   refine⟨Fy::Fl,F2,⟨QW,k1⟩,k2,fun i=>?_,fun i j hne g hg=>?_,fun i r g hg=>?_,fun i g hg=>?_,fun r g hg=>h6 r g (k7 r g hg),fun i g hg=>?_⟩
   cases i with
   | zero=>exact hyn
   | succ i=>simpa using k3 i
   cases i with
   | zero=>
     cases j with
     | zero=>exact absurd rfl hne
     | succ j=>simpa using hx j g (by simpa using hg)
   | succ i=>
     cases j with
     | zero=>exact fun c=>hx i g (by simpa using c) (by simpa using hg)
     | succ j=>simpa using k4 i j Z9 g (by simpa using hg)
   cases i with
   | zero=>exact fun c=>h4 r g (Vc g (by simpa using hg)) (k7 r g c)
   | succ i=>exact k5 i r g (by simpa using hg)
   cases i with
   | zero=>exact h5 g (Vc g (by simpa using hg))
   | succ i=>exact k6 i g (by simpa using hg)
   cases i with
   | zero=>exact h7 g (Vc g (by simpa using hg))
   | succ i=>
     obtain⟨r,hr⟩:=k8 i g (by simpa using hg)
     exact⟨r,h6 r g hr⟩
def Nr(ks:List (Nat×Nat)):List (Nat×Nat):=ks.map fun p=>(p.2,p.1)
def kA(ks:List (Nat×Nat)):l7->l7
 | .key k=>match lk k ks with | some q=>.key q | none=>.key k
 | r=>r
def news(ρ:l7->l7)(H:List (Nat×(Nat×V))):List (Nat×Nat)->List (Nat×(Nat×V))
 | []=>[]
 | (k,q)::r=>match lk k H with
   | some (g,v)=>(q,(g,v.Ns ρ))::news ρ H r
   | none=>news ρ H r
def vM(ks:List (Nat×Nat))(h:List (Nat×(Nat×V))):List (Nat×(Nat×V)):=h.filter fun p=>(lk p.1 (Nr ks)).isNone
theorem il(ks:List (Nat×Nat)):∀ (h:List (Nat×(Nat×V))) (q:Nat),lk q (vM ks h)=if (lk q (Nr ks)).isNone then lk q h else none
 | [],q=>by simp[vM,lk]
 | (k,v)::h,q=>by
   have ih:=il ks h q
   simp only[vM,List.filter_cons]at ih ⊢
   by_cases hk:(lk k (Nr ks)).isNone=true
   rw[if_pos hk]
   simp only[lk]
   by_cases e:q=k
   subst e;rw[if_pos rfl,if_pos rfl,if_pos hk]
   rw[if_neg e,if_neg e];exact ih
   rw[if_neg hk,ih]
   simp only[lk]
   by_cases e:q=k
   subst e;rw[if_neg hk,if_neg hk]
   rw[if_neg e]
theorem mu{α:Type}:∀ {l:List (Nat×α)} {q:Nat},q ∉ l.map (·.1)->lk q l=none
 | [],_,_=>rfl
 | (k,v)::l,q,h=>by
   simp only[List.map_cons,List.mem_cons,not_or]at h
   simp only[lk];rw[if_neg h.1];exact mu h.2
theorem oS{ρ:l7->l7}{H:List (Nat×(Nat×V))}:∀ {ks:List (Nat×Nat)} {q:Nat},Mf (ks.map (·.2))=true->
 lk q (news ρ H ks)=(lk q (Nr ks)).bind fun k=>(lk k H).map fun gv=>(gv.1,gv.2.Ns ρ)
 | [],q,_=>rfl
 | (k,q0)::ks,q,h=>by
   simp only[List.map_cons,Mf,Bool.and_eq_true,Bool.not_eq_true',List.contains_eq_mem,decide_eq_false_iff_not]at h
   have ih:=oS (ρ:=ρ) (H:=H) (ks:=ks) (q:=q) h.2
   simp only[news,Nr,List.map_cons,lk]
   by_cases e:q=q0
   subst e
   rw[if_pos rfl]
   simp only[Option.bind_some]
   cases hk:lk k H with
   | some gv=>simp only[lk,if_true,Option.map_some]
   | none=>
     simp only[Option.map_none]
     rw[ih,mu];rfl
     simp only[Nr,List.map_map,Function.comp_def];exact h.1
   rw[if_neg e]
   cases hk:lk k H with
   | some gv=>simp only[lk];rw[if_neg e];exact ih
   | none=>exact ih
def AS.back(A:AS)(ks:List (Nat×Nat))(H:List (Nat×(Nat×V))):AS:=⟨A.t,news (kA ks) H ks++vM ks A.h⟩
theorem kY{α:Type}(t:Nat)(l1 l2:List (Nat×α)):lk t (l1++l2)=match lk t l1 with | some v=>some v | none=>lk t l2:=CP t l1 l2
def kO(B:AS)(ks:List (Nat×Nat)):List (Nat×(Nat×V))->Prop
 | []=>True
 | (k,(g,v))::r=>(match lk k ks with | some q=>(match lk q B.h with | some (g',v')=>(g',wk v' v)=(g,v) | none=>False) | none=>False)/\kO B ks r
theorem uR{B:AS}{ks:List (Nat×Nat)}:∀ {H:List (Nat×(Nat×V))} {k g:Nat} {v:V},kO B ks H->lk k H=some (g,v)->∃ q v',lk k ks=some q/\lk q B.h=some (g,v')/\wk v' v=v
 | [],_,_,_,_,h=>by simp[lk]at h
 | (k0,(g0,v0))::H,k,g,v,h,e=>by
   simp only[lk]at e
   split at e
   rename_i e';subst e';cases e
   have h1:=h.1
   split at h1
   rename_i q hq
   split at h1
   rename_i g' v' Wf
   simp only[Prod.mk.injEq]at h1
   exact⟨q,v',hq,by rw[Wf,h1.1],h1.2⟩
   exact h1.elim
   exact h1.elim
   exact uR h.2 e
theorem tZ{α:Type}:∀ {l:List (Nat×α)} {k:Nat} {v:α},lk k l=some v->(k,v)∈l
 | [],_,_,h=>by simp[lk]at h
 | (k0,v0)::l,k,v,h=>by
   simp only[lk]at h
   split at h
   rename_i e;subst e;cases h;simp
   exact List.mem_cons_of_mem _ (tZ h)
theorem nD{α:Type}:∀ {l:List (Nat×α)} {k:Nat} {v:α},Mf (l.map (·.1))=true->(k,v)∈l->lk k l=some v
 | (k0,v0)::l,k,v,h,hm=>by
   simp only[List.map_cons,Mf,Bool.and_eq_true,Bool.not_eq_true',List.contains_eq_mem,decide_eq_false_iff_not]at h
   simp only[lk]
   rcases List.mem_cons.1 hm with e | hm
   cases e;rw[if_pos rfl]
   have hne:k≠k0:=fun c=>h.1 (by rw[<- c];exact List.mem_map.2 ⟨_,hm,rfl⟩)
   rw[if_neg hne];exact nD h.2 hm
theorem ox{ks:List (Nat×Nat)}{k q:Nat}(h1:Mf (ks.map (·.1))=true)(h2:Mf (ks.map (·.2))=true):lk k ks=some q↔lk q (Nr ks)=some k:=by
 have e:(Nr ks).map (·.1)=ks.map (·.2):=by simp[Nr,List.map_map,Function.comp_def]
 constructor
 intro h
 refine nD (by rw[e];exact h2) ?_
 exact List.mem_map.2 ⟨(k,q),tZ h,rfl⟩
 intro h
 have hm:=tZ h
 simp only[Nr,List.mem_map,Prod.mk.injEq]at hm
 obtain⟨⟨x,y⟩,hm,e1,e2⟩:=hm
 simp only at e1 e2
 subst e1 e2
 exact nD h1 hm
open Classical in
theorem nB{o:Oper} {K:AS->Prop} {f:FuncId} {fx:Operand} {xs:Array Operand} {J9:Array TypeId} {first w9:Array Value} {args:List V} {H:List (Nat×(Nat×V))}
 {Q:V->List (Nat×(Nat×V))->Prop} (ks:List (Nat×Nat)) (ho:o.op=.call { callee:=.value fx,args:=xs,argTypes:=J9 }) (Wz:A.ev fx=.lit (.func (.func f) first w9))
 (hd:cy N o.dst) (O3:Mf (ks.map (·.1))=true) (LZ:Mf (ks.map (·.2))=true) (hc:PF P f args H Q)
 (hargs:Mt (first.toList.map cV++(A.tk xs.toList).1++w9.toList.map cV) args=args) (hlen:args.length=(first.toList.map cV++(A.tk xs.toList).1++w9.toList.map cV).length)
 (OD:kO (A.tk xs.toList).2 ks H)
 (hK:∀ r H',Q r H'->K (((A.tk xs.toList).2.back ks H').put o.dst (r.Ns (kA ks)))):D' P N o A K:=by
 intro Pb Kb a w F Q' hs
 have hfv:=bT hs Wz
 unfold Oper.wp
 have y9:(execOp a.eval o).run P w=.ok (.enter f (first++xs.map a.eval++w9)) w:=by
  simp only[execOp,ho,resolve,hfv,Deferred.ofValue,Sem.run_bind,Sem.run_pure,Result.andThen_ok,invoke]
  exact hc.1 _ w
 rw[y9,Oper.upon_enter]
 obtain⟨Fl,F2,k1,k2,k3,k4,k5,k6,k7,k8⟩:=hs.tk xs.toList
 let B:=(A.tk xs.toList).2
 have hle:(⟨B.t,vM ks B.h⟩:AS).le B:=⟨fun _=>.inr rfl,fun q=>by
  simp only[il];split
  exact .inr rfl
  exact .inl rfl⟩
 let F3:l7->List Nat:=fun r=>match r with
  | .slot i=>F2 (.slot i)
  | .key q=>if (lk q (Nr ks)).isNone then F2 (.key q) else []
 have Rf:∀ r g,g∈F3 r->g∈F2 r:=fun r g hg=>by
  cases r with
  | slot i=>exact hg
  | key q=>simp only[F3]at hg;split at hg
           exact hg
           simp at hg
 have LV:s3 N Pb Kb ⟨B.t,vM ks B.h⟩ a w F3:=by
  refine⟨k2.size,k2.defers,k2.slot,fun q g v hq=>?_,fun r r' hne g hg c=>k2.bX r r' hne g (Rf r g hg) (Rf r' g c),fun r=>?_,fun r g hg=>k2.free r g (Rf r g hg),k2.sub,k2.bound⟩
  simp only[il]at hq
  split at hq
  rename_i hn
  obtain⟨F',e,hA⟩:=k2.root q g v hq
  exact⟨F',by simp only[F3];rw[if_pos hn];exact e,hA⟩
  simp at hq
  cases r with
  | slot i=>exact k2.nodup _
  | key q=>simp only[F3];split
           exact k2.nodup _
           exact List.nodup_nil
 let Kc:Nat->Prop:=fun g=>Kb g\/∃ r,g∈F3 r
 let FL:=first.toList.map (fun _=>([]:List Nat))++Fl++w9.toList.map (fun _=>([]:List Nat))
 have XQ:QD w Pb (first.toList.map cV++(A.tk xs.toList).1++w9.toList.map cV) (first.toList++xs.toList.map a.eval++w9.toList) FL:=
  px (px (pj _) k1) (pj _)
 have UT:∀ i g,g∈FL.getD i []->∃ j,FL.getD i []=Fl.getD j []/\i=first.toList.length+j:=by
  intro i g hg
  simp only[FL,List.getD_eq_getElem?_getD,List.append_assoc]at hg ⊢
  by_cases h1:i<first.toList.length
  rw[List.getElem?_append_left (by simpa using h1),List.getElem?_map]at hg
  cases he:first.toList[i]? <;> rw[he]at hg <;> simp at hg
  have hij:i=first.toList.length+(i-first.toList.length):=Z9
  rw[List.getElem?_append_right (by simpa using h1)]at hg ⊢
  simp only[List.length_map]at hg ⊢
  by_cases h2:i-first.toList.length<Fl.length
  rw[List.getElem?_append_left h2]
  exact⟨_,rfl,hij⟩
  rw[List.getElem?_append_right Z9,List.getElem?_map]at hg
  cases he:w9.toList[i-first.toList.length-Fl.length]? <;> rw[he]at hg <;> simp at hg
 let FC:l7->List Nat:=fun r=>match r with
  | .slot i=>FL.getD i []
  | .key k=>match lk k ks with
    | some q=>if lk k H=none then [] else F2 (.key q)
    | none=>[]
 have WN:∀ r g,g∈FC r->(∃ i j,r=.slot i/\g∈Fl.getD j []/\i=first.toList.length+j)\/(∃ k q,r=.key k/\lk k ks=some q/\g∈F2 (.key q)):=by
  intro r g hg
  cases r with
  | slot i=>
    obtain⟨j,e,hj⟩:=UT i g hg
    exact .inl ⟨i,j,rfl,by rw[<- e];exact hg,hj⟩
  | key k=>
    simp only[FC]at hg
    split at hg
    rename_i q hq
    split at hg
    simp at hg
    exact .inr ⟨k,q,rfl,hq,hg⟩
    simp at hg
 have WO:∀ k q,lk k ks=some q->∀ r g,g∈F2 (.key q)->g ∉ F3 r:=by
  intro k q hq r g hg c
  cases r with
  | slot i=>exact k2.bX (.key q) (.slot i) Z8 g hg c
  | key q'=>
    simp only[F3]at c
    split at c
    rename_i hn
    have hne:(l7.key q)≠.key q':=fun e=>by
     cases e
     rw[(ox O3 LZ).1 hq]at hn;simp at hn
    exact k2.bX _ _ hne g hg c
    simp at c
 have Re:∀ r g,g∈FC r->¬ Kc g/\g<w.heap.size:=by
  intro r g hg
  rcases WN r g hg with ⟨i,j,_,h,_⟩ | ⟨k,q,_,hq,h⟩
  refine⟨fun c=>?_,(k6 j g h).2⟩
  rcases c with c | ⟨r',c⟩
  exact(k6 j g h).1 c
  exact k5 j r' g h (Rf r' g c)
  refine⟨fun c=>?_,(k2.free _ g h).2⟩
  rcases c with c | ⟨r',c⟩
  exact(k2.free _ g h).1 c
  exact WO k q hq r' g h c
 have hi:VB w Pb Kc args (first.toList++xs.toList.map a.eval++w9.toList) H FC:=by
  have hl:=Bb XQ
  have XP:=CV (us:=args) XQ
  rw[hargs]at XP
  refine⟨by rw[hl.1,hlen],fun i v x hv hx=>AP XP hv hx,fun k g v UD=>?_,fun i UG=>?_,fun r r' hne g hg c=>?_,fun r=>?_,Re,fun g hg=>.inl (k2.sub g hg),fun g hg=>?_⟩
  obtain⟨q,v',h1,h2,h3⟩:=uR OD UD
  obtain⟨F',e,hA⟩:=k2.root q g v' h2
  refine⟨F',?_,by have:=Cg v hA;rw[h3]at this;exact this⟩
  simp only[FC,h1];rw[if_neg (by rw[UD];simp)];exact e
  simp only[FC]
  rw[List.getD_eq_getElem?_getD,List.getElem?_eq_none (by rw[hl.2,<- hlen];exact UG)];rfl
  rcases WN r g hg with ⟨i,j,e1,h,e1'⟩ | ⟨k,q,e1,hq,h⟩ <;> rcases WN r' g c with ⟨i',j',e2,h',TN⟩ | ⟨k',q',e2,Wf,h'⟩
  refine k4 j j' (fun e=>hne ?_) g h h'
  rw[e1,e2,e1',TN,e]
  exact k5 j (.key q') g h h'
  exact k5 j' (.key q) g h' h
  have We:q=q':=Classical.byContradiction fun We=>k2.bX (.key q) (.key q') (fun e=>We (by cases e;rfl)) g h h'
  subst We
  have:=(ox O3 LZ).1 hq
  rw[(ox O3 LZ).1 Wf]at this
  cases this
  exact hne (by rw[e1,e2])
  cases r with
  | slot i=>
    by_cases he:FL.getD i []=[]
    simp only[FC];rw[he];exact List.nodup_nil
    obtain⟨g,hg⟩:=List.exists_mem_of_ne_nil _ he
    obtain⟨j,e,_⟩:=UT i g hg
    simp only[FC];rw[e];exact k3 j
  | key k=>
    simp only[FC]
    split
    split
    exact List.nodup_nil
    exact k2.nodup _
    exact List.nodup_nil
  rcases hg with h | ⟨r,h⟩
  exact k2.bound g h
  exact(LV.free r g h).2
 have I7:=hc.2 w Pb Kc _ FC hi
 have e:(first.toList++xs.toList.map a.eval++w9.toList).toArray=first++xs.map a.eval++w9:=by
  apply Array.ext';simp
 rw[e]at I7
 refine I7.mono ?_
 rintro e w' ⟨r,x,H',Pb',C9,F',rfl,hq,hf⟩
 have O2:x4 Kb w w':=⟨hf.eF.os,hf.eF.tape,hf.eF.output,hf.eF.size,fun g hg=>hf.eF.block g (.inl hg),hf.eF.shape⟩
 let K2:Nat->Prop:=fun g=>Kb g\/(C9 g/\¬ ∃ r,g∈F3 r)
 have XO:∀ r g,g∈F3 r->¬ Pb' g:=fun r g hg c=>by
  rcases hf.PX g c with h | h
  exact(LV.free r g hg).1 (LV.sub g h)
  exact h (.inr ⟨r,hg⟩)
 have Uo:∀ g,Pb' g->K2 g:=fun g hg=>by
  rcases hf.PX g hg with h | h
  exact .inl (LV.sub g h)
  exact .inr ⟨hf.sub g hg,fun⟨r,c⟩=>h (.inr ⟨r,c⟩)⟩
 have Na:∀ r g,g∈F' r->(¬ K2 g/\g<w'.heap.size)/\∀ r',g ∉ F3 r':=fun r g hg=>by
  have h:=hf.free r g hg
  refine⟨⟨fun c=>?_,h.2⟩,fun r' c=>h.1 (hf.mK g (.inr ⟨r',c⟩))⟩
  rcases c with c | c
  exact h.1 (hf.mK g (.inl c))
  exact h.1 c.1
 let F4:l7->List Nat:=fun r=>match r with
  | .slot i=>F3 (.slot i)
  | .key q=>match lk q (Nr ks) with
    | some k=>if lk k H'=none then [] else F' (.key k)
    | none=>F3 (.key q)
 have Vu:∀ r g,g∈F4 r->g∈F3 r\/∃ q k,r=.key q/\lk q (Nr ks)=some k/\g∈F' (.key k):=fun r g hg=>by
  cases r with
  | slot i=>exact .inl hg
  | key q=>
    simp only[F4]at hg
    split at hg
    rename_i k hk
    split at hg
    simp at hg
    exact .inr ⟨q,k,rfl,hk,hg⟩
    exact .inl hg
 have Xx:s3 N Pb' K2 (B.back ks H') a w' F4:=by
  refine⟨LV.size,LV.defers,fun i=>?_,fun q g v hq=>?_,fun r r' hne g hg c=>?_,fun r=>?_,fun r g hg=>?_,Uo,fun g hg=>?_⟩
  exact mA _ (LV.slot i) (fun g hg=>hf.eF.block g (.inl (LV.sub g hg))) (fun g hg=>hf.eF.block g (.inr ⟨.slot i,hg⟩)) hf.mP (fun g hg=>XO (.slot i) g hg)
  simp only[AS.back,kY,oS LZ]at hq
  cases Un:lk q (Nr ks) with
  | some k=>
    rw[Un]at hq
    simp only[Option.bind_some]at hq
    cases Vj:lk k H' with
    | some gv=>
      rw[Vj]at hq
      simp only[Option.map_some,Option.some.injEq,Prod.mk.injEq]at hq
      obtain⟨g0,v0⟩:=gv
      obtain⟨rfl,rfl⟩:=hq
      obtain⟨F1,e1,cs,cells,hb,hr,I8⟩:=hf.root k g0 v0 Vj
      exact⟨F1,by simp only[F4,Un];rw[if_neg (by rw[Vj];simp)];exact e1,cs,cells,hb,GM _ _ hr,I8⟩
    | none=>
      rw[Vj]at hq
      simp only[Option.map_none]at hq
      rw[il,Un]at hq
      simp at hq
  | none=>
    rw[Un]at hq
    simp only[Option.bind_none]at hq
    obtain⟨F1,e1,hA⟩:=LV.root q g v hq
    refine⟨F1,by simp only[F4,Un];exact e1,?_⟩
    obtain⟨cs,cells,⟨el,fr,hb,hfr⟩,hr,I8⟩:=hA
    have hin:∀ y,y∈g::F1->w'.heap[y]? =w.heap[y]? :=fun y hy=>hf.eF.block y (.inr ⟨.key q,by rw[e1];exact hy⟩)
    exact⟨cs,cells,⟨el,fr,(hin g Z8).trans hb,hfr⟩,fP _ hr (fun y hy=>hf.eF.block y (.inl (LV.sub y hy))) (fun y hy=>hin y (by simp[hy])) hf.mP (fun y hy=>XO (.key q) y (by rw[e1];simp[hy])),I8⟩
  rcases Vu r g hg with h | ⟨q,k,e1,h1,h2⟩ <;> rcases Vu r' g c with h' | ⟨q',k',e2,QO,Vv⟩
  exact LV.bX r r' hne g h h'
  exact(Na _ g Vv).2 r h
  exact(Na _ g h2).2 r' h'
  have S2:k=k':=Classical.byContradiction fun S2=>hf.bX (.key k) (.key k') (fun e=>S2 (by cases e;rfl)) g h2 Vv
  subst S2
  have e3:=(ox O3 LZ).2 h1
  rw[(ox O3 LZ).2 QO]at e3
  cases e3
  exact hne (by rw[e1,e2])
  cases r with
  | slot i=>exact LV.nodup (.slot i)
  | key q=>
    simp only[F4]
    split
    split
    exact List.nodup_nil
    exact hf.nodup _
    exact LV.nodup (.key q)
  rcases Vu r g hg with h | ⟨q,k,_,_,h2⟩
  have h3:=LV.free r g h
  refine⟨fun c=>?_,Nat.lt_of_lt_of_le h3.2 hf.eF.size⟩
  rcases c with c | c
  exact h3.1 c
  exact c.2 ⟨r,h⟩
  exact(Na _ g h2).1
  rcases hg with h | h
  exact Nat.lt_of_lt_of_le (LV.bound g h) hf.eF.size
  exact hf.bound g h.1
 have Qp:∀ A' a' F5,K A'->s3 N Pb' K2 A' a' w' F5->Nx N Pb Kb w K a' w':=fun A' a' F5 hk SL=>
  ⟨A',Pb',K2,F5,hk,SL,hf.mP,fun g hg=>.inl hg,fun g hg=>by
   rcases hf.PX g hg with h | h
   exact .inl h
   exact .inr fun c=>h (.inl c),O2⟩
 cases LL:o.dst with
 | none=>exact Qp _ _ F4 (hK r H' hq) (by rw[LL];exact Xx)
 | some d=>
   rw[LL]at hd
   refine Qp _ _ (bY F4 (.slot d) (F' (.slot 0))) (hK r H' hq) ?_
   rw[LL]
   refine Xx.put hd (Ju _ hf.val) (fun rt _ g hg c=>?_) (hf.nodup _) (fun g hg=>(Na _ g hg).1)
   rcases Vu rt g c with h | ⟨q,k,_,_,h2⟩
   exact(Na _ g hg).2 rt h
   exact hf.bX (.slot 0) (.key k) Z8 g hg h2
end
end Go.Abs
namespace Go.Abs
open Go Go.RowKit
section
variable {w w':World} {Pb Kb Pb':Nat->Prop} {N:Nat} {A A' A1 B:AS} {a:Act} {F:l7->List Nat} {P:Program} {ops:Array Oper}
theorem tj:∀ (vs:List V) {cs F} {j:Nat} {x:V},RL w Pb vs cs F->vs[j]? =some x->∃ cj Fj,R w Pb x cj Fj/\(∀ i u,cj[i]? =some u->cs[V.ns (vs.take j)+i]? =some u)/\
 ∀ x',R w Pb x' cj Fj->RL w Pb (vs.set j x') cs F
 | [],_,_,_,_,_,h=>by simp at h
 | v::vs,cs,F,0,x,h,hj=>by
   obtain⟨c1,c2,F1,F2,rfl,rfl,h1,h2⟩:=h
   simp at hj;subst hj
   exact⟨c1,F1,h1,fun i u hu=>by simp only[List.take_zero,V.ns,Nat.zero_add];rw[List.getElem?_append_left (List.getElem?_eq_some_iff.1 hu).1];exact hu,fun x' hx=>⟨c1,c2,F1,F2,rfl,rfl,hx,h2⟩⟩
 | v::vs,cs,F,j+1,x,h,hj=>by
   obtain⟨c1,c2,F1,F2,rfl,rfl,h1,h2⟩:=h
   obtain⟨cj,Fj,k1,k2,k3⟩:=tj vs h2 (by simpa using hj)
   refine⟨cj,Fj,k1,fun i u hu=>?_,fun x' hx=>⟨c1,c2,F1,F2,rfl,rfl,h1,k3 x' hx⟩⟩
   have:=k2 i u hu
   simp only[List.take_succ_cons,V.ns]
   rw[<- eg v h1,Nat.add_assoc,List.getElem?_append_right Z9]
   rw[show c1.length+(V.ns (vs.take j)+i)-c1.length=V.ns (vs.take j)+i from Z9];exact this
theorem rP:∀ (p:List Nat) {v u:V} {g o g' o':Nat} {cs:List Value} {F:List Nat},R w Pb v cs F->V.at g o v p=some (g',o',u)->
 ∃ cu Fu,R w Pb u cu Fu/\∀ u',u'.n=u.n->R w Pb u' cu Fu->R w Pb (v.set p u') cs F/\(v.set p u').n=v.n
 | [],v,u,g,o,g',o',cs,F,h,e=>by
   simp only[V.at,Option.some.injEq,Prod.mk.injEq]at e
   obtain⟨rfl,rfl,rfl⟩:=e
   exact⟨cs,F,h,fun u' hn hu=>⟨hu,hn⟩⟩
 | j::p,v,u,g,o,g',o',cs,F,h,e=>by
   simp only[V.at]at e
   split at e
   rename_i vs
   split at e
   rename_i x hx
   simp only[R]at h
   obtain⟨cj,Fj,k1,k2,k3⟩:=tj vs h hx
   obtain⟨cu,Fu,m1,m2⟩:=rP p k1 e
   refine⟨cu,Fu,m1,fun u' hn hu=>?_⟩
   obtain⟨q1,q2⟩:=m2 u' hn hu
   have h3:=k3 _ q1
   refine⟨by simp only[V.set,hx,R];exact h3,?_⟩
   simp only[V.set,hx,V.n]
   rw[<- iE _ h3,<- iE _ h]
   simp at e
   rename_i sz xs g1 o1 c1
   split at e
   rename_i x hx
   rcases h with ⟨_,rfl,_⟩ | ⟨h1,h2,h3,h4,h5,h6,flat,F',cells,h7,hr,hb,hsz,hc⟩
   simp at hx
   obtain⟨cj,Fj,k1,k2,k3⟩:=tj xs hr hx
   obtain⟨cu,Fu,m1,m2⟩:=rP p k1 e
   refine⟨cu,Fu,m1,fun u' hn hu=>?_⟩
   obtain⟨q1,q2⟩:=m2 u' hn hu
   refine⟨?_,by simp only[V.set,hx];rfl⟩
   simp only[V.set,hx]
   refine .inr ⟨h1,h2,by simpa using h3,by simpa using h4,fun y hy=>?_,h6,flat,F',cells,h7,k3 _ q1,hb,hsz,hc⟩
   rcases List.mem_or_eq_of_mem_set hy with h | h
   exact h5 y h
   rw[h,q2];exact h5 x (List.mem_of_getElem? hx)
   simp at e
   simp at e
theorem s3.rQ(hs:s3 N Pb Kb A a w F){r:l7}{p:List Nat}{g o:Nat}{u:V}(x6:A.at r p=some (g,o,u)):
 ∃ cu Fu,R w Pb u cu Fu/\∀ u',u'.n=u.n->R w Pb u' cu Fu->s3 N Pb Kb (A.setAt r p u') a w F:=by
 cases r with
 | key k=>
   simp only[AS.at]at x6
   split at x6
   rename_i g0 t hk
   obtain⟨F0,hF,cs,cells,hb,hr,hc⟩:=hs.root k g0 t hk
   obtain⟨cu,Fu,h1,h2⟩:=rP p hr x6
   refine⟨cu,Fu,h1,fun u' hn hu=>⟨hs.size,hs.defers,fun i=>?_,fun k' g1 v1 E2=>?_,hs.bX,hs.nodup,hs.free,hs.sub,hs.bound⟩⟩
   have:(A.setAt (.key k) p u').get i=A.get i:=by simp only[AS.setAt,hk];rfl
   rw[this];exact hs.slot i
   simp only[AS.setAt,hk,lk]at E2
   split at E2
   rename_i e;subst e
   simp only[Option.some.injEq,Prod.mk.injEq]at E2
   obtain⟨rfl,rfl⟩:=E2
   exact⟨F0,hF,cs,cells,hb,(h2 u' hn hu).1,hc⟩
   exact hs.root k' g1 v1 E2
   simp at x6
 | slot i=>
   simp only[AS.at]at x6
   split at x6
   rename_i sz xs g0 o0 c0 j p' hg
   have hr:=hs.slot i
   rw[hg]at hr
   have hr:R w Pb (.own sz xs g0 o0 c0) [a.tmps.getD i undef] (F (.slot i)):=hr
   obtain⟨cu,Fu,h1,h2⟩:=rP (j::p') hr x6
   refine⟨cu,Fu,h1,fun u' hn hu=>⟨hs.size,hs.defers,fun t=>?_,hs.root,hs.bX,hs.nodup,hs.free,hs.sub,hs.bound⟩⟩
   by_cases e:t=i
   subst e
   simp only[AS.setAt,AS.get,lk,if_true,Option.getD_some]
   have h3:=(h2 u' hn hu).1
   have e2:(A.get t).set (j::p') u'=(V.own sz xs g0 o0 c0).set (j::p') u':=by rw[hg]
   have e3:∃ ys,(V.own sz xs g0 o0 c0).set (j::p') u'=.own sz ys g0 o0 c0:=by
    simp only[V.set];split
    exact⟨_,rfl⟩
    exact⟨_,rfl⟩
   obtain⟨ys,e3⟩:=e3
   show RV w Pb ((A.get t).set (j::p') u') _ _
   rw[e2,e3];rw[e3]at h3
   exact h3
   simp only[AS.setAt,AS.get,lk];rw[if_neg e];exact hs.slot t
   simp at x6
theorem Ip{K:AS->Prop}(t sz:Nat)(ht:t<N)(hg:A.get t=.sl true [])(h:K (A.put (some t) (.own sz [] 0 0 0))):Hx N A K:=
 Hx.simple h fun Pb Kb a w F hs=>by
  have hr:=hs.slot t
  rw[hg]at hr
  obtain⟨hF,B,cc,hv,_,Oe,_⟩:=hr
  have Ov:cc=0:=Oe rfl
  subst Ov
  exact⟨_,hs.ym ht (.inl ⟨rfl,rfl,hF,B,hv⟩)⟩
theorem zI{K:AS->Prop}{r:l7}{p:List Nat}{g o sz:Nat}(x6:A.at r p=some (g,o,.sl true []))(h:K (A.setAt r p (.own sz [] 0 0 0))):Hx N A K:=
 Hx.simple h fun Pb Kb a w F hs=>by
  obtain⟨cu,Fu,hr,hk⟩:=hs.rQ x6
  obtain⟨hF,B,cc,hv,_,Oe,_⟩:=hr
  have Ov:cc=0:=Oe rfl
  subst Ov
  exact⟨_,hk (.own sz [] 0 0 0) rfl (.inl ⟨rfl,rfl,hF,B,hv⟩)⟩
theorem AW{K:AS->Prop}{t sz:Nat}{xs:List V}(ht:t<N)(hg:A.get t=.ow sz xs)(h:∀ g o c,K (A.put (some t) (.own sz xs g o c))):Hx N A K:=fun Pb Kb a w F hs=>by
 have hr:=hs.slot t
 rw[hg]at hr
 have hr:R w Pb (.ow sz xs) [a.tmps.getD t undef] (F (.slot t)):=hr
 obtain⟨g,o,c,hr⟩:=Gz.1 hr
 exact⟨_,Pb,Kb,_,h g o c,hs.ym ht hr,fun _ h=>h,fun _ h=>h,fun _ h=>.inl h⟩
theorem qj{K:AS->Prop}{r:l7}{p:List Nat}{g o sz:Nat}{xs:List V}(x6:A.at r p=some (g,o,.ow sz xs))(h:∀ g o c,K (A.setAt r p (.own sz xs g o c))):Hx N A K:=fun Pb Kb a w F hs=>by
 obtain⟨cu,Fu,h1,h2⟩:=hs.rQ x6
 obtain⟨g,o,c,hr⟩:=Gz.1 h1
 exact⟨_,Pb,Kb,_,h g o c,h2 _ rfl hr,fun _ h=>h,fun _ h=>h,fun _ h=>.inl h⟩
theorem Dl{K:AS->Prop}{r:l7}{p:List Nat}{g o:Nat}{u:V}(u':V)(x6:A.at r p=some (g,o,u))(hn:(wk u u').n=u.n)(h:K (A.setAt r p (wk u u'))):Hx N A K:=fun Pb Kb a w F hs=>by
 obtain⟨cu,Fu,h1,h2⟩:=hs.rQ x6
 exact⟨_,Pb,Kb,_,h,h2 _ hn (pT u u' h1),fun _ h=>h,fun _ h=>h,fun _ h=>.inl h⟩
theorem KR{K:AS->Prop}{t:Nat}(u:V)(ht:t<N)(h:K (A.put (some t) (wk (A.get t) u))):Hx N A K:=
 Hx.simple h fun _ _ _ _ _ hs=>⟨_,hs.ym ht (xE u (hs.slot t))⟩
theorem Ga{K:AS->Prop} {t i sz n g o c:Nat} {xs:List V} (ht:t<N) (hi:i<N) (Tu:t≠i) (h1:A.get t=.hd (.slot i) [] sz g o 0 n c) (h2:A.get i=.own sz xs g o c) (hn:n=xs.length)
 (h:K ((A.put (some i) .c9).put (some t) (.own sz xs g o c))):Hx N A K:=
 Hx.simple h fun _ _ _ _ _ hs=>hs.gM ht hi Tu h1 h2 hn
theorem DY{K:AS->Prop}{t:Nat}(ht:t<N)(ho:(A.get t).cW=true)(h:K (A.put (some t) (A.get t).er)):Hx N A K:=fun Pb Kb a w F hs=>by
 obtain⟨Pb',C9,F',h1,h2,h3,h4⟩:=hs.freeze ho ht
 exact⟨_,Pb',C9,F',h,h1,h2,h3,h4⟩
theorem s3.eqv(hs:s3 N Pb Kb A a w F)(h:C6 A B):s3 N Pb Kb B a w F:=
 ⟨hs.size,hs.defers,fun i=>by rw[<- h.1 i];exact hs.slot i,fun k g v hk=>hs.root k g v (by rw[h.2 k];exact hk),hs.bX,hs.nodup,hs.free,hs.sub,hs.bound⟩
theorem JL{K:AS->Prop}{t:Nat}(v:V)(e:A.get t=v)(h:K (A.put (some t) v)):Hx N A K:=
 Hx.simple h fun _ _ _ _ _ hs=>⟨_,hs.eqv ⟨fun i=>by
  rw[AS.aC];split
  rename_i h;rw[h,e]
  rfl,fun _=>rfl⟩⟩
theorem Ku{K:AS->Prop}{k g:Nat}(v:V)(e:lk k A.h=some (g,v))(h:K ⟨A.t,(k,(g,v))::A.h⟩):Hx N A K:=
 Hx.simple h fun _ _ _ _ _ hs=>⟨_,hs.eqv ⟨fun _=>rfl,fun i=>by
  simp only[lk];split
  rename_i h;rw[h,e]
  rfl⟩⟩
theorem KX{K:AS->Prop}{k k' g:Nat}{v:V}(e:lk k A.h=some (g,v))(hn:lk k' A.h=none)(h:K ⟨A.t,(k',(g,v))::A.h.filter fun p=>p.1 != k⟩):Hx N A K:=
 Hx.simple h fun Pb Kb a w F hs=>by
  have hne:k'≠k:=fun c=>by rw[c,e]at hn;cases hn
  have hf:∀ (l:List (Nat×(Nat×V))) q,lk q (l.filter fun p=>p.1 != k)=if q=k then none else lk q l:=by
   intro l
   induction l with
   | nil=>intro q;simp[lk]
   | cons x l ih=>
     intro q
     obtain⟨i,u⟩:=x
     simp only[List.filter_cons]
     by_cases hi:i=k
     subst hi
     simp only[bne_self_eq_false,Bool.false_eq_true,if_false,ih q,lk]
     by_cases c:q=i
     rw[if_pos c,if_pos c]
     rw[if_neg c,if_neg c,if_neg c]
     rw[if_pos (by simpa using hi)]
     simp only[lk,ih q]
     by_cases c:q=i
     subst c;rw[if_pos rfl,if_pos rfl,if_neg hi]
     rw[if_neg c,if_neg c]
  let σ:l7->l7:=fun r=>if r=.key k' then .key k else if r=.key k then .key k' else r
  have hσ:∀ r r',σ r=σ r'->r=r':=fun r r' h=>by
   simp only[σ]at h
   repeat' split at h
   all_goals simp_all
  refine⟨fun r=>if r=.key k then [] else F (σ r),hs.size,hs.defers,fun i=>?_,fun q g0 v0 hq=>?_,fun r r' Wl y hy=>?_,fun r=>?_,fun r y hy=>?_,hs.sub,hs.bound⟩
  have:F (σ (.slot i))=F (.slot i):=by simp[σ]
  simp only[reduceCtorEq,if_false,this];exact hs.slot i
  simp only[lk,hf]at hq
  split at hq
  rename_i c;subst c
  simp only[Option.some.injEq,Prod.mk.injEq]at hq
  obtain⟨rfl,rfl⟩:=hq
  obtain⟨F',h1,h2⟩:=hs.root k g v e
  refine⟨F',?_,h2⟩
  rw[if_neg (by simpa using hne)]
  simp only[σ,if_true];exact h1
  rename_i c
  split at hq
  simp at hq
  rename_i c2
  obtain⟨F',h1,h2⟩:=hs.root q g0 v0 hq
  refine⟨F',?_,h2⟩
  rw[if_neg (by simpa using c2)]
  have:σ (.key q)=.key q:=by simp only[σ];rw[if_neg (by simpa using c),if_neg (by simpa using c2)]
  rw[this];exact h1
  split at hy
  simp at hy
  split
  simp
  exact hs.bX _ _ (fun c=>Wl (hσ _ _ c)) y hy
  split
  exact List.nodup_nil
  exact hs.nodup _
  split at hy
  simp at hy
  exact hs.free _ y hy
theorem GR{K:AS->Prop}(h1:P0 A B.t)(h2:Pe A B.h)(h:K B):Hx N A K:=Hx.simple h fun _ _ _ _ _ hs=>hs.Xd h1 h2
theorem Bq{o:Oper}{K:AS->Prop}{x:Operand}(ho:o.op=.move x)(hd:cy N o.dst)(hK:K ((A.drop x).put o.dst (A.ev x))):D' P N o A K:=by
 intro Pb Kb a w F Q hs
 obtain⟨Fx,F',hr,x8,hnd,u0,hfr,_⟩:=hs.take x
 unfold Oper.wp
 have:(execOp a.eval o).run P w=.ok (.value (a.eval x)) w:=by simp only[execOp,ho];rfl
 rw[this,Oper.upon_value]
 cases LL:o.dst with
 | none=>exact⟨_,Pb,Kb,F',hK,by rw[LL];exact x8,fun _ h=>h,fun _ h=>h,fun _ h=>.inl h,x4.refl _ _⟩
 | some d=>
   rw[LL]at hd hK
   exact⟨_,Pb,Kb,_,hK,x8.put hd hr (fun r _ g hg=>u0 r g hg) hnd hfr,fun _ h=>h,fun _ h=>h,fun _ h=>.inl h,x4.refl _ _⟩
theorem uE{o:Oper} {K:AS->Prop} {d T:Nat} {x:Operand} {r:l7} {p:List Nat} {g g':Nat} {i:TI} {u:V} (ho:o.op=.load T x) (hd:o.dst=some d) (hN:d<N) (hi:ti P T=some i)
 (hx:A.ev x=.ptr r p g g') (x6:A.at r p=some (g,g',u)) (hn:u.n=i.sz) (ha:i.d.agg=u.isAgg) (hK:K ((A.setAt r p u.kill).put (some d) u)):D' P N o A K:=by
 intro Pb Kb a w F Q hs
 obtain⟨_,RY⟩:=dy hs x
 rw[hx]at RY
 have hp:a.eval x=.pointer (some ⟨g,g',none⟩):=by have:=RY.2;simpa using this
 obtain⟨Fr,Fu,x8,⟨cs,cells,hb,J6,hc⟩,hnd,u0,hfr⟩:=hs.split x6
 obtain⟨y,hy,E0⟩:=mr (w:=w) hi J6 hn ha (g:=g) (o:=g') (fun j u hu=>by rw[dM hb];exact hc j u hu)
 unfold Oper.wp
 have:(execOp a.eval o).run P w=.ok (.value y) w:=by
  simp only[execOp,ho,Instr.loadAt,hp,Instr.sureAddr,Sem.run_bind,Sem.run_pure,Result.andThen_ok,hy]
 rw[this,Oper.upon_value,hd]
 exact⟨_,Pb,Kb,_,hK,x8.put hN E0 (fun r _ g hg=>u0 r g hg) hnd hfr,fun _ h=>h,fun _ h=>h,fun _ h=>.inl h,x4.refl _ _⟩
def TW(A:AS)(s:Operand)(sz:Nat):Option (Prop×AS×List V):=
 match s with
 | .const (.slice none 0 0)=>some (True,A,[])
 | .tmp t=>match A.get t with
   | .sl true []=>some (True,A,[])
   | .own I5 xs _ _ _=>some (I5=sz,A.put (some t) .c9,xs)
   | .hd (.slot i) [] I5 g o 0 n c=>match A.get i with
     | .own Me xs g2 o2 c2=>some ((I5,Me,g2,o2,c2,n)=(sz,sz,g,o,c,xs.length),A.put (some i) .c9,xs)
     | _=>none
   | .hd (.key k) p I5 g o 0 n c=>match A.at (.key k) p with
     | some (_,_,.own Me xs g2 o2 c2)=>some ((I5,Me,g2,o2,c2,n)=(sz,sz,g,o,c,xs.length),A.setAt (.key k) p .c9,xs)
     | _=>none
   | _=>none
 | _=>none
theorem CT{s:Operand}{sz:Nat}{C:Prop}{xs:List V}(h:TW A s sz=some (C,A1,xs))(hC:C)(hs:s3 N Pb Kb A a w F):
 ∃ Fx F' g o c,s3 N Pb Kb A1 a w F'/\R w Pb (.own sz xs g o c) [a.eval s] Fx/\Fx.Nodup/\(∀ r g,g∈Fx->g ∉ F' r)/\(∀ g,g∈Fx->¬ Kb g/\g<w.heap.size):=by
 have Rp:∀ {t:Nat} {r:l7} {p:List Nat} {sz g o n c:Nat} {xs:List V} {cs:List Value} {Fx:List Nat},A.get t=.hd r p sz g o 0 n c->n=xs.length->R w Pb (.own sz xs g o c) cs Fx->R w Pb (.own sz xs g o c) [a.eval (.tmp t)] Fx:=by
  intro t r p sz g o n c xs cs Fx hg hn hr
  subst hn
  have hh:=hs.slot t
  rw[hg]at hh
  obtain⟨_,hle,B,hv,hB⟩:=hh
  have hv:a.eval (.tmp t)=.slice B xs.length c:=(List.cons.inj hv).1
  rw[hv]
  rcases hr with ⟨rfl,rfl,rfl,A0,_⟩ | ⟨h1,h2,h3,h4,h5⟩
  exact .inl ⟨rfl,rfl,rfl,B,rfl⟩
  have:=hB h1
  rw[Nat.zero_mul,Nat.add_zero]at this
  subst this
  exact .inr ⟨h1,h2,h3,rfl,h5⟩
 unfold TW at h
 split at h
 simp only[Option.some.injEq,Prod.mk.injEq]at h
 obtain⟨_,rfl,rfl⟩:=h
 exact⟨[],F,0,0,0,hs,.inl ⟨rfl,rfl,rfl,none,rfl⟩,List.nodup_nil,Z8,Z8⟩
 · rename_i t
   split at h
   rename_i hg
   simp only[Option.some.injEq,Prod.mk.injEq]at h
   obtain⟨_,rfl,rfl⟩:=h
   have M':=hs.slot t
   rw[hg]at M'
   obtain⟨_,B,c,hv,_,Oe,_⟩:=M'
   have Ov:c=0:=Oe rfl
   subst Ov
   exact⟨[],F,0,0,0,hs,.inl ⟨rfl,rfl,rfl,B,hv⟩,List.nodup_nil,Z8,Z8⟩
   rename_i I5 xs' g o c hg
   simp only[Option.some.injEq,Prod.mk.injEq]at h
   obtain⟨rfl,rfl,rfl⟩:=h
   subst hC
   obtain⟨Fx,F',hr,x8,hnd,u0,hfr,_⟩:=hs.take (.tmp t)
   rw[py hg]at x8
   have hr:RV w Pb (A.get t) (a.eval (.tmp t)) Fx:=hr
   rw[hg]at hr
   exact⟨Fx,F',g,o,c,x8,hr,hnd,u0,hfr⟩
   · rename_i i I5 g o n c hg
     split at h
     case h_2=>simp at h
     rename_i Me xs' g2 o2 c2 hi
     simp only[Option.some.injEq,Prod.mk.injEq]at h
     obtain⟨rfl,rfl,rfl⟩:=h
     obtain⟨rfl,rfl,rfl,rfl,rfl,hn⟩:=hC
     obtain⟨Fx,F',hr,x8,hnd,u0,hfr,_⟩:=hs.take (.tmp i)
     rw[py hi]at x8
     have hr:RV w Pb (A.get i) (a.eval (.tmp i)) Fx:=hr
     rw[hi]at hr
     exact⟨Fx,F',_,_,_,x8,Rp hg hn (cs:=[a.eval (.tmp i)]) hr,hnd,u0,hfr⟩
   · rename_i k p I5 g o n c hg
     split at h
     case h_2=>simp at h
     rename_i g0 o0 Me xs' g2 o2 c2 x6
     simp only[Option.some.injEq,Prod.mk.injEq]at h
     obtain⟨rfl,rfl,rfl⟩:=h
     obtain⟨rfl,rfl,rfl,rfl,rfl,hn⟩:=hC
     obtain⟨Fr,Fu,x8,⟨cs,cells,hb,J6,hc⟩,hnd,u0,hfr⟩:=hs.split x6
     exact⟨Fu,_,_,_,_,x8,Rp hg hn J6,hnd,u0,hfr⟩
   simp at h
 simp at h
theorem AF{o:Oper} {K:AS->Prop} {d T T2 e e2:Nat} {s x:Operand} {t:TI} {C Cx:Prop} {xs ys:List V} (ho:o.op=.call { callee:=.builtin .append,args:= #[s,x],argTypes:= #[T,T2] }) (P9:o.type=T)
 (hd:o.dst=some d) (hN:d<N) (hT:tD P T=some (.sl e)) (Rb:tD P T2=some (.sl e2)) (ht:ti P e=some t) (hz:∃ inf z,P.info? e=some inf/\inf.zero=some z/\z.cells.size=t.sz) (hsz:0<t.sz) (QM:0<t.K6)
 (hb:TW A s t.sz=some (C,A1,xs)) (hC:C) (hx:Nt A x=some (Cx,ys)) (UU:Cx) (SV:V.aG ys=false) (Qw:aL t.sz ys)
 (hbig:(xs.length+ys.length)*t.K6<=140737488355328)
 (hK:∀ g o c,K (A1.put (some d) (.own t.sz (xs++ys) g o c))):D' P N o A K:=by
 intro Pb Kb a w F Q hs
 obtain⟨B2,c2,B5,H2,LP,Of,hl2⟩:=nj (P:=P) hs hx UU Qw SV
 obtain⟨Fx,F',g0,o0,c0,x8,hr,hnd,u0,hfr⟩:=CT hb hC hs
 obtain⟨v,w',F2,g',o',c',y9,J5,LP,I0,Oh,Qn,LZ⟩:=sw hT Rb ht hz hsz QM x8 hr u0 hfr (Fy:=[]) (by simpa using hnd) Z8 Z8 H2 LP Of hl2 Qw hbig
 have Mh:(execOp a.eval o).run P w=.ok (.value v) w':=by
  simp only[execOp,ho,resolve,invoke,builtin,Sem.run_bind,Sem.run_pure,Result.andThen_ok,P9]
  have e:(#[s,x].map a.eval)= #[a.eval s,a.eval x]:=Z8
  rw[e,y9];rfl
 unfold Oper.wp
 rw[Mh,Oper.upon_value,hd]
 exact⟨_,Pb,Kb,_,hK g' o' c',J5.put hN LP (fun r _ g hg=>Oh r g hg) I0 Qn,fun _ h=>h,fun _ h=>h,fun _ h=>.inl h,LZ⟩
def Te(A:AS)(s:Operand)(sz:Nat):Option (Prop×List V):=
 match s with
 | .tmp t=>match A.get t with
   | .sl true (x::xs)=>some (aL sz (x::xs),x::xs)
   | _=>none
 | _=>none
theorem zx{o:Oper} {K:AS->Prop} {d T T2 e e2:Nat} {s x:Operand} {t:TI} {C Cx:Prop} {xs ys:List V} (ho:o.op=.call { callee:=.builtin .append,args:= #[s,x],argTypes:= #[T,T2] }) (P9:o.type=T)
 (hd:o.dst=some d) (hN:d<N) (hT:tD P T=some (.sl e)) (Rb:tD P T2=some (.sl e2)) (ht:ti P e=some t) (hz:∃ inf z,P.info? e=some inf/\inf.zero=some z/\z.cells.size=t.sz) (hsz:0<t.sz) (QM:0<t.K6)
 (hb:Te A s t.sz=some (C,xs)) (hC:C) (x9:0<ys.length) (hx:Nt A x=some (Cx,ys)) (UU:Cx) (SV:V.aG ys=false) (Qw:aL t.sz ys)
 (hbig:(xs.length+ys.length)*t.K6<=140737488355328)
 (hK:∀ g o c,K (A.put (some d) (.own t.sz (xs++ys) g o c))):D' P N o A K:=by
 intro Pb Kb a w F Q hs
 obtain⟨B2,c2,B5,H2,LP,Of,hl2⟩:=nj (P:=P) hs hx UU Qw SV
 have hr:R w Pb (.sl true xs) [a.eval s] []/\aL t.sz xs:=by
  unfold Te at hb
  split at hb
  rename_i q
  split at hb
  rename_i x' xs' hg
  simp only[Option.some.injEq,Prod.mk.injEq]at hb
  obtain⟨rfl,rfl⟩:=hb
  have M':=hs.slot q
  rw[hg]at M'
  have hF:F (.slot q)=[]:=M'.1
  rw[hF]at M'
  exact⟨M',hC⟩
  simp at hb
  simp at hb
 obtain⟨v,w',F2,g',o',c',y9,J5,LP,I0,Oh,Qn,LZ⟩:=zX hT Rb ht hz hsz QM hs hr.1 hr.2 x9 H2 LP Of hl2 Qw hbig
 have Mh:(execOp a.eval o).run P w=.ok (.value v) w':=by
  simp only[execOp,ho,resolve,invoke,builtin,Sem.run_bind,Sem.run_pure,Result.andThen_ok,P9]
  have e:(#[s,x].map a.eval)= #[a.eval s,a.eval x]:=Z8
  rw[e,y9];rfl
 unfold Oper.wp
 rw[Mh,Oper.upon_value,hd]
 exact⟨_,Pb,Kb,_,hK g' o' c',J5.put hN LP (fun r _ g hg=>Oh r g hg) I0 Qn,fun _ h=>h,fun _ h=>h,fun _ h=>.inl h,LZ⟩
end
end Go.Abs
namespace Go.Abs
open Go Go.RowKit
mutual
def V.plain:V->Bool
 | .lit _=>true
 | .agg vs=>V.nz vs
 | .tup vs=>V.nz vs
 | _=>false
def V.nz:List V->Bool
 | []=>true
 | v::vs=>v.plain&&V.nz vs
end
def qh(A:AS):List Operand->Prop×List V
 | []=>(True,[])
 | x::xs=>match qh A xs with
   | (C,vs)=>match A.ev x with
     | .hd .. =>match Nt A x with
       | some (Cx,ys)=>(Cx/\C,.sl false ys::vs)
       | none=>(C,A.cp x::vs)
     | _=>(C,A.cp x::vs)
section
variable {w w':World} {Pb Kb Pb':Nat->Prop} {N:Nat} {A A' B:AS} {a:Act} {F:l7->List Nat} {P:Program} {ops:Array Oper}
mutual
theorem vP:∀ (v:V) {cs F},v.plain=true->R w Pb v cs F->R w' Pb' v cs []/\F=[]
 | .lit x,cs,F,_,h=>⟨⟨h.1,h.2.1,rfl⟩,h.2.2⟩
 | .agg vs,cs,F,hp,h=>by simp only[R]at h ⊢;simp only[V.plain]at hp;exact pC vs hp h
 | .tup _,_,_,_,h=>by simp[R]at h
 | .gv _ _,_,_,hp,_=>by simp[V.plain]at hp
 | .sl ..,_,_,hp,_=>by simp[V.plain]at hp
 | .own ..,_,_,hp,_=>by simp[V.plain]at hp
 | .ow ..,_,_,hp,_=>by simp[V.plain]at hp
 | .om ..,_,_,hp,_=>by simp[V.plain]at hp
 | .mp ..,_,_,hp,_=>by simp[V.plain]at hp
 | .hd ..,_,_,hp,_=>by simp[V.plain]at hp
 | .ptr ..,_,_,hp,_=>by simp[V.plain]at hp
 | .ep _,_,_,hp,_=>by simp[V.plain]at hp
 | .c9,_,_,hp,_=>by simp[V.plain]at hp
theorem pC:∀ (vs:List V) {cs F},V.nz vs=true->RL w Pb vs cs F->RL w' Pb' vs cs []/\F=[]
 | [],cs,F,_,h=>⟨⟨h.1,rfl⟩,h.2⟩
 | v::vs,cs,F,hp,h=>by
   simp only[V.nz,Bool.and_eq_true]at hp
   obtain⟨c1,c2,F1,F2,h1,h2,h3,h4⟩:=h
   have k1:=vP v hp.1 h3
   have k2:=pC vs hp.2 h4
   exact⟨⟨c1,c2,[],[],h1,rfl,k1.1,k2.1⟩,by rw[h2,k1.2,k2.2];rfl⟩
end
theorem wA:∀ (vs:List V) {xs F},V.nz vs=true->RVs w Pb vs xs F->RVs w' Pb' vs xs []/\F=[]
 | [],xs,F,_,h=>⟨⟨h.1,rfl⟩,h.2⟩
 | v::vs,xs,F,hp,h=>by
   simp only[V.nz,Bool.and_eq_true]at hp
   obtain⟨x,xs',F1,F2,h1,h2,h3,h4⟩:=h
   have k2:=wA vs hp.2 h4
   subst h1 h2
   cases v with
   | agg us=>
     obtain⟨cs,e,h3⟩:=h3
     have k1:=pC (w':=w') (Pb':=Pb') us (by simpa[V.plain] using hp.1) h3
     exact⟨⟨x,xs',[],[],rfl,rfl,⟨cs,e,k1.1⟩,k2.1⟩,by rw[k1.2,k2.2];rfl⟩
   | lit y=>have k1:=vP (w':=w') (Pb':=Pb') (.lit y) hp.1 h3;exact⟨⟨x,xs',[],[],rfl,rfl,k1.1,k2.1⟩,by rw[k1.2,k2.2];rfl⟩
   | tup us=>exact absurd h3 (by simp[R])
   | _=>simp[V.plain]at hp
theorem Fw(v:V){x F}(hp:v.plain=true)(h:RV w Pb v x F):RV w' Pb' v x []/\F=[]:=by
 cases v with
 | tup vs=>obtain⟨xs,e,h⟩:=h;have:=wA (w':=w') (Pb':=Pb') vs (by simpa[V.plain] using hp) h;exact⟨⟨xs,e,this.1⟩,this.2⟩
 | agg us=>obtain⟨cs,e,h⟩:=h;have:=pC (w':=w') (Pb':=Pb') us (by simpa[V.plain] using hp) h;exact⟨⟨cs,e,this.1⟩,this.2⟩
 | lit y=>exact vP (w:=w) (Pb:=Pb) (w':=w') (Pb':=Pb') (.lit y) hp h
 | _=>simp[V.plain]at hp
theorem Lc{Fo:List Nat} {Me g2 o2 c2 lo n c:Nat} {xs:List V} {Rh:List Value} (hr:R w Pb (.own Me xs g2 o2 c2) Rh Fo) (hle:n<=c) {B:Option Addr} (hB:0<c->B=some ⟨g2,o2+lo*Me,none⟩) (hn:lo+n<=xs.length) (ho:V.aG xs=false)
 (k1:∀ g,Pb g->Pb' g) (k2:∀ g,g<w.heap.size->Pb' g):R w Pb' (.sl false ((xs.drop lo).take n)) [.slice B n c] []:=by
 have hlen:((xs.drop lo).take n).length=n:=Z0
 refine⟨rfl,B,c,by rw[hlen],by rw[hlen];exact hle,Z8,?_⟩
 by_cases Wn:n=0
 subst Wn;exact .inl Z8
 right
 rcases hr with ⟨_,rfl,_⟩ | ⟨h1,h2,h3,hx,hN,_,flat,F',cells,rfl,hr,hb,hsz,hc⟩
 simp at hn;omega
 have hF:=fG xs ho hr
 subst hF
 obtain⟨c1,OE,MC⟩:=oy xs lo hr
 obtain⟨c3,Tx,UL⟩:=pb _ n OE
 refine⟨g2,o2+lo*Me,Me,c3,hB Z9,k2 g2 (by obtain⟨e,fr,hb,_⟩:=hb;exact(Array.getElem?_eq_some_iff.1 hb).1),h2,fun x hx=>hN x (List.mem_of_mem_drop (List.mem_of_mem_take hx)),dT _ Tx (fun _ _=>rfl) Z8 k1 Z8,fun j u hu=>?_⟩
 rw[dM hb]
 have:=MC j u (UL j u hu)
 rw[dL xs lo hN Z9]at this
 have:=hc _ _ this
 simpa[Nat.add_assoc] using this
theorem Io(hs:s3 N Pb Kb A a w F){x:Operand}{C:Prop}{ys:List V}{r:l7}{p:List Nat}{sz g o lo n c:Nat}(he:A.ev x=.hd r p sz g o lo n c)(h:Nt A x=some (C,ys))(hC:C):R w (fun g=>g<w.heap.size) (.sl false ys) [a.eval x] []:=by
 obtain⟨Fx,hr⟩:=dy hs x
 rw[he]at hr
 obtain⟨_,hle,B,hv,hB⟩:=hr
 have hv:a.eval x=.slice B n c:=(List.cons.inj hv).1
 have key:∀ u Fo Rh,R w Pb u Rh Fo->kF lo n sz g o u=some (C,ys)->R w (fun g=>g<w.heap.size) (.sl false ys) [a.eval x] []:=by
  intro u Fo Rh J6 hu
  unfold kF at hu
  split at hu
  rename_i Me xs g2 o2 c2
  simp only[Option.some.injEq,Prod.mk.injEq]at hu
  obtain⟨rfl,rfl⟩:=hu
  obtain⟨⟨rfl,rfl,rfl⟩,Ws,RZ,_⟩:=hC
  rw[hv]
  exact Lc J6 hle hB Ws RZ (fun k h=>hs.bound k (hs.sub k h)) fun g hg=>hg
  simp at hu
 unfold Nt at h
 rw[he]at h
 simp only at h
 split at h
 rename_i i
 have M':=hs.slot i
 unfold kF at h
 split at h
 rename_i Me xs g2 o2 c2 hg
 rw[hg]at M'
 exact key (.own Me xs g2 o2 c2) _ _ M' (by unfold kF;exact h)
 simp at h
 rename_i k p'
 split at h
 rename_i a0 b0 u x6
 obtain⟨F',cs,cells,hb,J6,r8⟩:=jt hs x6
 exact key u F' cs J6 h
 simp at h
 simp at h
theorem pn(hs:s3 N Pb Kb A a w F):∀ (xs:List Operand) {C:Prop} {vs:List V},qh A xs=(C,vs)->C->RVs w (fun g=>g<w.heap.size) vs (xs.map a.eval) []
 | [],C,vs,h,_=>by simp only[qh,Prod.mk.injEq]at h;obtain⟨_,rfl⟩:=h;exact⟨rfl,rfl⟩
 | x::xs,C,vs,h,hC=>by
   have plain:∀ U3,RVs w (fun g=>g<w.heap.size) U3 (xs.map a.eval) []->RVs w (fun g=>g<w.heap.size) (A.cp x::U3) ((x::xs).map a.eval) []:=fun U3 h'=>by
    have h1:=sU hs [x]
    have h1:=tJ (w':=w) (Pb':=fun g=>g<w.heap.size) _ h1 (fun _ _=>rfl) (fun _ _=>rfl) (fun k h=>hs.bound k (hs.sub k h)) Z8
    obtain⟨y,ys,F1,F2,e1,e2,h2,_⟩:=h1
    simp only[List.map_cons,List.map_nil,List.cons.injEq]at e1
    obtain⟨rfl,_⟩:=e1
    have e2:=e2.symm
    simp only[List.append_eq_nil_iff]at e2
    obtain⟨rfl,_⟩:=e2
    exact⟨a.eval x,xs.map a.eval,[],[],rfl,rfl,h2,h'⟩
   cases hl:qh A xs with
   | mk C0 vs0=>
     simp only[qh,hl]at h
     split at h
     rename_i r p sz g o lo n c he
     split at h
     rename_i Cx ys e
     simp only[Prod.mk.injEq]at h
     obtain⟨rfl,rfl⟩:=h
     exact⟨a.eval x,xs.map a.eval,[],[],rfl,rfl,Io hs he e hC.1,pn hs xs hl hC.2⟩
     simp only[Prod.mk.injEq]at h
     obtain⟨rfl,rfl⟩:=h
     exact plain _ (pn hs xs hl hC)
     simp only[Prod.mk.injEq]at h
     obtain⟨rfl,rfl⟩:=h
     exact plain _ (pn hs xs hl hC)
theorem EJ{o:Oper} {K:AS->Prop} {f:FuncId} {xs:Array Operand} {J9:Array TypeId} {args:List V} {Q:V->Prop} {C:Prop} {vs:List V} (ho:o.op=.call { callee:=.value (.func f),args:=xs,argTypes:=J9 })
 (hd:cy N o.dst) (hc:PC P f args Q) (hl:qh A xs.toList=(C,vs)) (hC:C) (hargs:Mt vs args=args) (hp:∀ r,Q r->r.plain=true) (hK:∀ r,Q r->K (A.put o.dst r)):D' P N o A K:=by
 intro Pb Kb a w F Q' hs
 unfold Oper.wp
 have y9:(execOp a.eval o).run P w=.ok (.enter f (xs.map a.eval)) w:=by
  simp only[execOp,ho,resolve,Act.eval,Deferred.ofValue,Sem.run_bind,Sem.run_pure,Result.andThen_ok,invoke]
  have:=hc.1 (xs.map a.eval) w
  simpa using this
 rw[y9,Oper.upon_enter]
 have h0:=pn hs xs.toList hl hC
 have h0:=oB _ args h0
 rw[hargs]at h0
 have I7:=hc.2 w (fun g=>g<w.heap.size) (xs.toList.map a.eval) (fun g hg=>hg) h0
 have e:(xs.toList.map a.eval).toArray=xs.map a.eval:=by rw[<- Array.toList_map,Array.toArray_toList]
 rw[e]at I7
 refine I7.mono ?_
 rintro e w' ⟨r,x,Fr,Pb',rfl,hq,hr,hnd,hfr,h1,h2,hb⟩
 have x8:s3 N Pb Kb A a w' F:=hs.grow hb.block hb.size (fun _ h=>h) (fun g hg=>.inl hg) hs.sub
 obtain⟨F',J5⟩:=x8.pS (d:=o.dst) hd (Fw (w':=w') (Pb':=Pb) r (hp r hq) hr).1
 exact⟨_,Pb,Kb,F',hK r hq,J5,fun _ h=>h,fun _ h=>h,fun g h=>.inl h,x4.yp hb hs.bound⟩
end
end Go.Abs
namespace Go.Abs
open Go Go.RowKit
section
variable {w w':World} {Pb Kb Pb':Nat->Prop} {N:Nat} {A A' B:AS} {a:Act} {F:l7->List Nat} {P:Program} {ops:Array Oper}
theorem Au{o:Oper} {K:AS->Prop} {d T e len:Nat} {b9:Array (Nat×Operand)} {i:TI} {vs:List V} (ho:o.op=.buildSlice T len b9) (hd:o.dst=some d) (hN:d<N) (hT:tD P T=some (.sl e)) (hi:ti P e=some i)
 (P8:eJ A 0 b9.toList=some vs) (hB:QR P T e len i vs=true) (h0:0<len) (hK:∀ g,K (A.put (some d) (.own i.sz vs g 0 len))):D' P N o A K:=by
 simp only[QR,Bool.and_eq_true,beq_iff_eq]at hB
 obtain⟨⟨⟨⟨b1,hlen⟩,OA⟩,G6⟩,hv⟩:=hB
 obtain⟨inf,z,LK,hzero,_⟩:=lS b1
 have OA:=Nat.le_of_ble_eq_true OA
 have G6:=Nat.lt_of_succ_le (Nat.le_of_ble_eq_true G6)
 have hv:=vE hv
 intro Pb Kb a w F Q hs
 obtain⟨xs,h1,h2,h3,h4⟩:=mU hs b9.toList 0 P8 hv
 have hu:=iA hT
 obtain⟨QV,_,G7,_,hsz,_,_⟩:=jr hi
 rw[LK]at G7
 obtain rfl:=Option.some.inj G7
 have hfl:=Great.fill_whole G6 xs ((Array.range (len*i.sz)).map (z.cells[· % z.cells.size]!)) h2 (by simp[h4,hlen])
 have hmul: ¬ len*inf.size=0:=by rw[hsz];exact Nat.mul_ne_zero Z9 Z9
 have hb:=run_buildSlice (P:=P) w T e len (b9.map fun (i,x)=>(i,a.eval x)) _ inf z hu LK hzero (by rw[hsz];omega) hmul (by rw[Array.toList_map,h1,hsz];exact hfl)
 have hx:(execOp a.eval o).run P w=.ok (.value (.slice (some ⟨w.heap.size,0,none⟩) len len)) (w.alloc (.cells (xs.flatMap fun v=>v.cells.toList).toArray e)):=by
  simp only[execOp,ho,Sem.run_bind,hb,Result.andThen_ok,Sem.run_pure]
 unfold Oper.wp
 rw[hx,Oper.upon_value,hd]
 have MA:=hs.nN (.cells (xs.flatMap fun v=>v.cells.toList).toArray e)
 have M3:=dT (w':=w.alloc (.cells (xs.flatMap fun v=>v.cells.toList).toArray e)) (Pb':=Pb) vs h3 (fun g hg=>alloc_old w _ g (hs.bound g (hs.sub g hg))) Z8 (fun g hg=>hg) Z8
 have hcs:(xs.flatMap fun v=>v.cells.toList).length=len*i.sz:=by
  rw[iE _ h3,ov vs (fun v QY=>(hv v QY).2),hlen]
 have Oj: ¬ Kb w.heap.size:=fun h=>by have:=hs.bound _ h;omega
 have hR:R (w.alloc (.cells (xs.flatMap fun v=>v.cells.toList).toArray e)) Pb (.own i.sz vs w.heap.size 0 len) [.slice (some ⟨w.heap.size,0,none⟩) len len] [w.heap.size]:=
  .inr ⟨h0,G6,Z9,by rw[hlen],fun v QY=>(hv v QY).2,fun c=>Oj (hs.sub _ c),_,[],_,rfl,M3,⟨e,(0,0),fI w _,fun i _ h=>by omega⟩,by simp only[List.size_toArray];rw[hcs];omega,fun j u hu=>by simpa using hu⟩
 exact⟨_,Pb,Kb,_,hK _,MA.put hN hR (fun r _ g hg=>by
  obtain rfl:=List.mem_singleton.1 hg
  intro c;have:=(hs.free r _ c).2;omega) Z8 (fun g hg=>by
  obtain rfl:=List.mem_singleton.1 hg
  exact⟨Oj,by rw[dt];omega⟩),fun _ h=>h,fun _ h=>h,fun _ h=>.inl h,x4.alloc hs.bound _⟩
theorem CL{K:AS->Prop} {t sz n g o c g0 o0:Nat} {xs:List V} {r:l7} {p:List Nat} (h2:A.get t=.own sz xs g o c) (x6:(A.put (some t) .c9).at r p=some (g0,o0,.hd (.slot t) [] sz g o 0 n c)) (hn:n=xs.length)
 (h:K ((A.put (some t) .c9).setAt r p (.own sz xs g o c))):Hx N A K:=Hx.simple h fun Pb Kb a w F hs=>by
 subst hn
 obtain⟨Fx,F1,hr,MA,hnd,u0,hfr,_⟩:=hs.take (.tmp t)
 rw[py h2]at MA
 have hr:RV w Pb (A.get t) (a.tmps.getD t undef) Fx:=hr
 rw[h2]at hr
 obtain⟨Fp,cs,cells,hb,hp,hc⟩:=jt MA x6
 obtain⟨_,hle,B,rfl,hB⟩:=hp
 have E0:R w Pb (.own sz xs g o c) [.slice B xs.length c] Fx:=by
  rcases hr with ⟨rfl,rfl,rfl,A0,_⟩ | ⟨k1,k2,k3,k4,k5⟩
  exact .inl ⟨rfl,rfl,rfl,B,rfl⟩
  have:=hB k1
  rw[Nat.zero_mul,Nat.add_zero]at this
  subst this
  exact .inr ⟨k1,k2,k3,rfl,k5⟩
 obtain⟨F2,J5,_⟩:=MA.store (w':=w) (v:=.own sz xs g o c) x6 E0 rfl hnd u0 hfr ⟨rfl,rfl,rfl,rfl,fun _ _=>rfl,Shp.refl _,fun n7 J3=>⟨n7,J3,rfl,fun _ _=>rfl,fun j u hu=>by
  have e:n7=cells:=by
   obtain⟨e1,f1,q1,_⟩:=hb
   obtain⟨e2,f2,q2,_⟩:=J3
   rw[q1]at q2
   simp only[Option.some.injEq,Obj.cells.injEq]at q2
   exact q2.1.symm
  rw[e];exact hc j u hu⟩⟩
 exact⟨F2,J5⟩
theorem zC{o:Oper} {K:AS->Prop} {d T T2 e e2 t0:Nat} {x:Operand} {t:TI} {Cx:Prop} {xs ys:List V} {r:l7} {p:List Nat} {sz g o1 n c g0 o0:Nat} (ho:o.op=.call { callee:=.builtin .append,args:= #[.tmp t0,x],argTypes:= #[T,T2] }) (P9:o.type=T)
 (hd:o.dst=some d) (hN:d<N) (hT:tD P T=some (.sl e)) (Rb:tD P T2=some (.sl e2)) (ht:ti P e=some t) (hz:∃ inf z,P.info? e=some inf/\inf.zero=some z/\z.cells.size=t.sz) (hsz:0<t.sz) (QM:0<t.K6)
 (hg:A.get t0=.hd r p sz g o1 0 n c) (x6:A.at r p=some (g0,o0,.own sz xs g o1 c)) (b7:sz=t.sz) (hn:n=xs.length) (hx:Nt A x=some (Cx,ys)) (UU:Cx) (SV:V.aG ys=false) (Qw:aL t.sz ys)
 (hbig:(xs.length+ys.length)*t.K6<=140737488355328)
 (hK:∀ g o c,K ((A.setAt r p .c9).put (some d) (.own t.sz (xs++ys) g o c))):D' P N o A K:=by
 subst b7 hn
 intro Pb Kb a w F Q hs
 obtain⟨B2,c2,B5,H2,LP,Of,hl2⟩:=nj (P:=P) hs hx UU Qw SV
 obtain⟨Fr,Fu,x8,⟨cs,cells,hb,J6,hc⟩,hnd,u0,hfr⟩:=hs.split x6
 have hr:R w Pb (.own t.sz xs g o1 c) [a.eval (.tmp t0)] Fu:=by
  have hh:=hs.slot t0
  rw[hg]at hh
  obtain⟨_,hle,B,hv,hB⟩:=hh
  have hv:a.eval (.tmp t0)=.slice B xs.length c:=(List.cons.inj hv).1
  rw[hv]
  rcases J6 with ⟨rfl,rfl,rfl,A0,_⟩ | ⟨h1,h2,h3,h4,h5⟩
  exact .inl ⟨rfl,rfl,rfl,B,rfl⟩
  have:=hB h1
  rw[Nat.zero_mul,Nat.add_zero]at this
  subst this
  exact .inr ⟨h1,h2,h3,rfl,h5⟩
 obtain⟨v,w',F2,g',o',c',y9,J5,LP,I0,Oh,Qn,LZ⟩:=sw hT Rb ht hz hsz QM x8 hr u0 hfr (Fy:=[]) (by simpa using hnd) Z8 Z8 H2 LP Of hl2 Qw hbig
 have Mh:(execOp a.eval o).run P w=.ok (.value v) w':=by
  simp only[execOp,ho,resolve,invoke,builtin,Sem.run_bind,Sem.run_pure,Result.andThen_ok,P9]
  have e:(#[.tmp t0,x].map a.eval)= #[a.eval (.tmp t0),a.eval x]:=Z8
  rw[e,y9];rfl
 unfold Oper.wp
 rw[Mh,Oper.upon_value,hd]
 exact⟨_,Pb,Kb,_,hK g' o' c',J5.put hN LP (fun r _ g hg=>Oh r g hg) I0 Qn,fun _ h=>h,fun _ h=>h,fun _ h=>.inl h,LZ⟩
end
end Go.Abs
namespace Go.Abs
open Go Go.RowKit
section
variable {w w':World} {Pb Kb Pb':Nat->Prop} {N:Nat} {A A' B:AS} {a:Act} {F:l7->List Nat} {P:Program} {ops:Array Oper}
theorem uw:∀ (vs:List V) {xs:List Value} {F:List Nat} {i:Nat} {v:V},RVs w Pb vs xs F->vs[i]? =some v->v.isVal=true->
 ∃ x Fa Fi Fb,xs[i]? =some x/\F=Fa++Fi++Fb/\RV w Pb v x Fi/\RVs w Pb (vs.set i .c9) xs (Fa++Fb)
 | [],_,_,_,_,_,h,_=>by simp at h
 | u::vs,xs,F,0,v,h,hi,hv=>by
   obtain⟨x,xs',F1,F2,rfl,rfl,h1,h2⟩:=h
   simp at hi;subst hi
   refine⟨x,[],F1,F2,rfl,Z8,?_,⟨x,xs',[],F2,rfl,rfl,rfl,h2⟩⟩
   cases u <;> first | exact h1 | simp[V.isVal]at hv
 | u::vs,xs,F,i+1,v,h,hi,hv=>by
   obtain⟨x,xs',F1,F2,rfl,rfl,h1,h2⟩:=h
   obtain⟨y,Fa,Fi,Fb,k1,rfl,k3,k4⟩:=uw vs h2 (by simpa using hi) hv
   exact⟨y,F1++Fa,Fi,Fb,by simpa using k1,Z8,k3,⟨x,xs',F1,Fa++Fb,rfl,Z8,h1,k4⟩⟩
theorem xz{o:Oper} {K:AS->Prop} {t i d:Nat} {vs:List V} {v:V} (ho:o.op=.extract (.tmp t) i) (hd:o.dst=some d) (hN:d<N) (ht:t<N) (P':d≠t) (hg:A.get t=.tup vs) (hi:vs[i]? =some v) (hv:v.isVal=true)
 (hK:K ((A.put (some t) (.tup (vs.set i .c9))).put (some d) v)):D' P N o A K:=by
 intro Pb Kb a w F Q hs
 have M':=hs.slot t
 rw[hg]at M'
 obtain⟨xs,hx,hr⟩:=M'
 obtain⟨x,Fa,Fi,Fb,k1,k2,k3,k4⟩:=uw vs hr hi hv
 have hnd:=hs.nodup (.slot t)
 rw[k2]at hnd
 have Nf:∀ g,g∈Fa++Fb->g∈F (.slot t):=fun g hg=>by rw[k2];simp only[List.mem_append]at hg ⊢;rcases hg with h | h <;> simp[h]
 have RU:∀ g,g∈Fi->g∈F (.slot t):=fun g hg=>by rw[k2];simp[hg]
 have I0:(Fa++Fb).Nodup/\Fi.Nodup/\∀ g,g∈Fi->g ∉ Fa++Fb:=by
  simp only[List.nodup_append,List.mem_append]at hnd ⊢
  grind
 have MA:=hs.put (d:=t) (v:=.tup (vs.set i .c9)) (x:=a.tmps.getD t undef) (F':=Fa++Fb) ht ⟨xs,hx,k4⟩ (fun r hr g hg c=>hs.bX (.slot t) r (Ne.symm hr) g (Nf g hg) c) I0.1 (fun g hg=>hs.free _ g (Nf g hg))
 rw[pJ]at MA
 unfold Oper.wp
 have y9:(execOp a.eval o).run P w=.ok (.value x) w:=by
  have S9:a.eval (.tmp t)=.tuple xs:=hx
  have hxi:xs[i]? =some x:=by simpa using k1
  simp only[execOp,ho,S9,Instr.extract,hxi,Sem.run_bind,Sem.run_pure,Result.andThen_ok]
 rw[y9,Oper.upon_value,hd]
 refine⟨_,Pb,Kb,_,hK,MA.put (d:=d) (F':=Fi) hN k3 (fun r hr g hg c=>?_) I0.2.1 (fun g hg=>hs.free _ g (RU g hg)),fun _ h=>h,fun _ h=>h,fun _ h=>.inl h,x4.refl _ _⟩
 simp only[bY]at c
 split at c
 exact I0.2.2 g hg c
 rename_i hne;exact hs.bX (.slot t) r (Ne.symm hne) g (RU g hg) c
end
end Go.Abs
namespace Go.Abs
open Go Go.RowKit
def cj:List Prop->Prop->Prop
 | [],k=>k
 | c::r,k=>c/\cj r k
theorem nr:∀ {l:List Prop} {k:Prop},cj l k↔(∀ c,c∈l->c)/\k
 | [],k=>by simp[cj]
 | c::r,k=>by
   rw[cj,nr (l:=r),List.forall_mem_cons,and_assoc]
abbrev GT:=List (Nat×(Nat×Bool))
def Ck(ops:Array Oper)(j:Nat):Option Nat:=(ops[j]?).bind (·.dst)
def rE(ops:Array Oper)(d:Nat)(gt:GT):GT:=gt.filter fun e=>!(e.1==d||Ck ops e.2.1==some d)
def xD(ops:Array Oper)(d j:Nat)(b:Bool)(gt:GT):GT:=match Ck ops j==some d with
 | true=>rE ops d gt
 | false=>(d,(j,b))::rE ops d gt
def GI(ops:Array Oper)(gt:GT)(A:AS):Prop:= ∀ e,e∈gt->∀ c v,A.get e.1=.gv c v->MR A ops e.2.1 e.2.2=some c
section
variable {P:Program} {N:Nat} {ops:Array Oper} {A A':AS} {gt:GT}
theorem Ek:GI ops [] A:=fun e h=>by simp at h
theorem Bd{d j:Nat}{b:Bool}{u:V}(h:Ck ops j≠some d):MR (A.put (some d) u) ops j b=MR A ops j b:=by
 unfold MR
 unfold Ck at h
 cases hj:(ops[j]?).bind (·.dst) with
 | none=>rfl
 | some t=>
   simp only[Option.map_some]
   rw[AS.aC,if_neg (fun c=>h (by rw[hj,c]))]
theorem tV{d:Nat}{u:V}(h:GI ops gt A):GI ops (rE ops d gt) (A.put (some d) u):=fun e he c v hv=>by
 unfold rE at he
 rw[List.mem_filter]at he
 obtain⟨h1,h2⟩:=he
 simp only[Bool.not_eq_true',Bool.or_eq_false_iff,beq_eq_false_iff_ne,ne_eq]at h2
 rw[AS.aC,if_neg h2.1]at hv
 rw[Bd h2.2]
 exact h e h1 c v hv
theorem DH{d j:Nat}{b G:Bool}{u:V}(h:GI ops gt A)(hG:MR A ops j b=some G):GI ops (xD ops d j b gt) (A.put (some d) (.gv G u)):=by
 unfold xD
 split
 exact tV h
 rename_i e1
 intro e he c v hv
 rcases List.mem_cons.1 he with rfl | he
 rw[AS.aC,if_pos rfl]at hv
 cases hv
 rw[Bd (by simpa using e1)];exact hG
 exact tV h e he c v hv
def XT(ops:Array Oper)(d:Option Nat)(j:Nat)(b:Bool)(gt:GT):GT:=match d with
 | some d=>xD ops d j b gt
 | none=>gt
theorem Hu{d:Option Nat}{j:Nat}{b G:Bool}{u:V}(h:GI ops gt A)(hG:MR A ops j b=some G):GI ops (XT ops d j b gt) (A.put d (.gv G u)):=by
 cases d with
 | none=>exact h
 | some d=>exact DH h hG
theorem HG{x:Operand}(h:(A.ev x).cW=false):A.drop x=A:=by
 cases x with
 | tmp t=>exact if_neg (by simpa[AS.ev] using h)
 | _=>rfl
def Pt(G:Bool)(jb:Nat×Bool)(gt:GT):List Operand->AS->List Prop×AS
 | [],A=>([],A)
 | .tmp t::r,A=>match A.get t with
   | .gv b v=>match Pt G jb gt r (A.put (some t) v),gt.contains (t,jb)&&!v.cW&&!v.gC with
     | (C,B),true=>(C,B)
     | (C,B),false=>(oI G b v::C,B)
   | _=>Pt G jb gt r A
 | _::r,A=>Pt G jb gt r A
theorem lT{G:Bool}{jb:Nat×Bool}:∀ (xs:List Operand) {A B:AS} {l:List Prop},(∀ t,(t,jb)∈gt->∀ c v,A.get t=.gv c v->c=G)->Pt G jb gt xs A=(l,B)->(∀ c,c∈l->c)->∃ C,AS.un G xs A=(C,B)/\C
 | [],A,B,l,_,h,_=>by simp only[Pt,Prod.mk.injEq]at h;exact⟨True,by simp only[AS.un,h.2],trivial⟩
 | x::xs,A,B,l,hi,h,hl=>by
   cases x with
   | tmp t=>
     simp only[Pt]at h
     simp only[AS.un]
     split at h
     rename_i b v hg
     rw[hg]
     have Wy:v.gC=false->∀ t',(t',jb)∈gt->∀ c u,(A.put (some t) v).get t'=.gv c u->c=G:=fun hv t' ht c u hu=>by
      rw[AS.aC]at hu
      split at hu
      rw[hu]at hv;simp[V.gC]at hv
      exact hi t' ht c u hu
     split at h
     rename_i C1 B1 hu hc
     simp only[Prod.mk.injEq]at h
     obtain⟨rfl,rfl⟩:=h
     simp only[Bool.and_eq_true,Bool.not_eq_true',List.contains_iff_mem]at hc
     obtain⟨C2,e1,e2⟩:=lT xs (Wy hc.2) hu hl
     simp only[e1]
     refine⟨_,rfl,?_,e2⟩
     unfold oI
     rw[hc.1.2,hc.2,hi t hc.1.1 b v hg]
     exact fun h=>h
     rename_i C1 B1 hu hc
     simp only[Prod.mk.injEq]at h
     obtain⟨rfl,rfl⟩:=h
     have h0:=hl _ (List.mem_cons_self ..)
     have hv:v.gC=false:=by
      unfold oI at h0
      split at h0
      rename_i e;rw[Bool.or_eq_false_iff]at e;exact e.2
      exact h0.elim
     obtain⟨C2,e1,e2⟩:=lT xs (Wy hv) hu (fun c hc=>hl c (List.mem_cons_of_mem _ hc))
     simp only[e1]
     exact⟨_,rfl,h0,e2⟩
     rename_i hn
     have:=lT xs hi h hl
     split
     rename_i b v hg;exact absurd hg (hn b v)
     exact this
   | _=>exact lT xs hi h hl
def qQ(P:Program)(N:Nat)(ops:Array Oper):Nat->List Oper->List V->GT->AS->Option (List Prop×AS×GT)
 | 0,_,_,gt,A=>some ([],A,gt)
 | _+1,[],_,gt,A=>some ([],A,gt)
 | n+1,o::rest,w7,gt,A=>
   match o.dst with
   | none=>none
   | some d=>if d<N then
     match o.guard with
     | some (j,b)=>match MR A ops j b with
       | some G=>match Pt G (j,b) gt (iv o.op) A with
         | (C0,B)=>match sY P B o.op w7 with
           | some (C,v,w7)=>if (Oy N (iv o.op)&&!v.gC)=true then match qQ P N ops n rest w7 (xD ops d j b gt) (A.put (some d) (.gv G v)) with
             | some (C',r)=>some (C0++(if lW o.op=true then C' else (G=true->C)::C'),r)
             | none=>none else none
           | none=>none
       | none=>none
     | none=>match o.op with
       | .assign x=>qQ P N ops n rest w7 (if (A.ev x).cW=true then [] else rE ops d gt) ((A.drop x).put (some d) (A.ev x))
       | op=>match sY P A op w7 with
         | some (C,v,w7)=>match qQ P N ops n rest w7 (rE ops d gt) (A.put (some d) v) with
           | some (C',r)=>if lW op=true then some (C',r) else some (C::C',r)
           | none=>none
         | none=>none
     else none
theorem rK:∀ (n:Nat) {l:List Oper} {w7:List V} {gt TG:GT} {A A':AS} {cs:List Prop},qQ P N ops n l w7 gt A=some (cs,A',TG)->GI ops gt A->(∀ c,c∈cs->c)->
 (∃ C,mG P N ops n l w7 A=some (C,A')/\C)/\GI ops TG A'
 | 0,l,w7,gt,TG,A,A',cs,h,hi,hc=>by
   simp only[qQ,Option.some.injEq,Prod.mk.injEq]at h
   obtain⟨_,rfl,rfl⟩:=h
   exact⟨⟨True,by simp only[mG],trivial⟩,hi⟩
 | n+1,[],w7,gt,TG,A,A',cs,h,hi,hc=>by
   simp only[qQ,Option.some.injEq,Prod.mk.injEq]at h
   obtain⟨_,rfl,rfl⟩:=h
   exact⟨⟨True,by simp only[mG],trivial⟩,hi⟩
 | n+1,o::l,w7,gt,TG,A,A',cs,h,hi,hc=>by
   unfold qQ at h
   unfold mG
   split at h
   cases h
   rename_i d hd
   split at h
   case isFalse=>cases h
   rename_i Q7
   simp only[hd,if_pos Q7]
   split at h
   rename_i j b hg
   simp only[hg]
   split at h
   rename_i G hG
   split at h
   rename_i C0 B hu
   split at h
   rename_i C v Nu hs
   split at h
   rename_i hk
   split at h
   rename_i C' A1 hr
   simp only[Option.some.injEq,Prod.mk.injEq]at h
   obtain⟨rfl,rfl⟩:=h
   obtain⟨C1,e1,e2⟩:=lT (iv o.op) (fun t ht c v hv=>by have:=hi _ ht c v hv;rw[hG]at this;exact(Option.some.inj this).symm) hu (fun c Qt=>hc c (List.mem_append_left _ Qt))
   obtain⟨⟨C2,e3,e4⟩,e5⟩:=rK n hr (DH hi hG) (fun c Qt=>hc c (List.mem_append_right _ (by split <;> simp[Qt])))
   refine⟨?_,e5⟩
   simp only[hG,e1,hs,if_pos hk,e3]
   refine⟨_,rfl,fun Ma=>⟨e2,?_⟩,e4⟩
   by_cases ht:lW o.op=true
   exact my ht hs
   exact hc (G=true->C) (List.mem_append_right _ (by rw[if_neg ht];exact List.mem_cons_self ..)) Ma
   cases h
   cases h
   cases h
   cases h
   rename_i hg
   simp only[hg]
   split at h
   rename_i x hx
   obtain⟨⟨C,e1,e2⟩,e3⟩:=rK n h (by
    split
    exact Ek
    rename_i ho
    rw[HG (by simpa using ho)]
    exact tV hi) hc
   simp only[hx]
   exact⟨⟨C,e1,e2⟩,e3⟩
   rename_i hx
   split at h
   rename_i C v Nu hs
   split at h
   rename_i C' r hr
   have key:(∀ c,c∈C'->c)/\C/\r=(A',TG):=by
    split at h
    rename_i ht
    simp only[Option.some.injEq,Prod.mk.injEq]at h
    obtain⟨rfl,rfl⟩:=h
    exact⟨hc,my ht hs,rfl⟩
    simp only[Option.some.injEq,Prod.mk.injEq]at h
    obtain⟨rfl,rfl⟩:=h
    exact⟨fun c Qt=>hc c (List.mem_cons_of_mem _ Qt),hc _ (List.mem_cons_self ..),rfl⟩
   obtain⟨k1,k2,rfl⟩:=key
   obtain⟨⟨C2,e3,e4⟩,e5⟩:=rK n hr (tV hi) k1
   refine⟨?_,e5⟩
   split
   rename_i H2;exact absurd H2 (hx _)
   simp only[hs,e3]
   split
   exact⟨_,rfl,e4⟩
   exact⟨_,rfl,k2,e4⟩
   cases h
   cases h
def mM(B:AS)(ks:List (Nat×Nat)):List (Nat×(Nat×V))->Prop->Prop
 | [],p=>p
 | (k,(g,v))::r,p=>(match lk k ks with | some q=>(match lk q B.h with | some (g',v')=>(g',wk v' v)=(g,v) | none=>False) | none=>False)/\mM B ks r p
theorem iZ{B:AS}{ks:List (Nat×Nat)}:∀ {H:List (Nat×(Nat×V))} {p:Prop},mM B ks H p->kO B ks H/\p
 | [],p,h=>⟨trivial,h⟩
 | (k,(g,v))::r,p,h=>by
   obtain⟨h1,h2⟩:=h
   obtain⟨h3,h4⟩:=iZ h2
   exact⟨⟨h1,h3⟩,h4⟩
def Gn(A:AS):List (Nat×(Nat×V))->Prop->Prop
 | [],p=>p
 | (k,(g,v))::r,p=>(match lk k A.h with | some (g',v')=>(g',wk v' v)=(g,v) | none=>False)/\Gn A r p
theorem zu:∀ {H:List (Nat×(Nat×V))} {p:Prop},Gn A H p->Pe A H/\p
 | [],p,h=>⟨trivial,h⟩
 | (k,(g,v))::r,p,h=>by
   obtain⟨h1,h2⟩:=h
   obtain⟨h3,h4⟩:=zu h2
   exact⟨⟨h1,h3⟩,h4⟩
def Gf(A:AS):List (Nat×V)->Prop->Prop
 | [],p=>p
 | (k,v)::r,p=>(wk (A.get k) v=v)/\Gf A r p
theorem sM:∀ {H:List (Nat×V)} {p:Prop},Gf A H p->P0 A H/\p
 | [],p,h=>⟨trivial,h⟩
 | (k,v)::r,p,h=>by
   obtain⟨h1,h2⟩:=h
   obtain⟨h3,h4⟩:=sM h2
   exact⟨⟨h1,h3⟩,h4⟩
def Tp(A B:AS):Prop:=Gf A B.t (Gn A B.h True)
theorem rJ{B:AS}(h:Tp A B):P0 A B.t/\Pe A B.h:=⟨(sM h).1,(zu (sM h).2).1⟩
def xZ(A:AS):List ResultVar->Option (List Prop×List (l7×V))
 | []=>some ([],[])
 | r::rs=>match xZ A rs with
   | some (C,xs)=>match r with
     | .tmp t=>some (C,(.slot t,A.get t)::xs)
     | .cell t _=>match A.get t with
       | .ptr (.key k) [] g 0=>match lk k A.h with
         | some (g',v)=>some ((g'=g)::C,(.key k,v)::xs)
         | none=>none
       | _=>none
   | none=>none
theorem rD:∀ {rs:List ResultVar} {C:List Prop} {xs:List (l7×V)},xZ A rs=some (C,xs)->(∀ c,c∈C->c)->∃ C',vZ A rs=some (C',xs)/\C'
 | [],C,xs,h,_=>by simp only[xZ,Option.some.injEq,Prod.mk.injEq]at h;rw[<- h.2];exact⟨_,rfl,trivial⟩
 | r::rs,C,xs,h,hC=>by
   simp only[xZ]at h
   simp only[vZ]
   split at h
   rename_i C1 xs1 e
   split at h
   simp only[Option.some.injEq,Prod.mk.injEq]at h
   obtain⟨rfl,rfl⟩:=h
   obtain⟨C',e1,e2⟩:=rD e hC
   simp only[e1]
   exact⟨_,rfl,e2⟩
   split at h
   rename_i k g e2
   split at h
   rename_i g' v e3
   simp only[Option.some.injEq,Prod.mk.injEq]at h
   obtain⟨rfl,rfl⟩:=h
   obtain⟨C',e4,e5⟩:=rD e (fun c hc=>hC c (List.mem_cons_of_mem _ hc))
   simp only[e4,e2,e3]
   exact⟨_,rfl,hC _ (List.mem_cons_self ..),e5⟩
   cases h
   cases h
   cases h
def sK(A:AS):List (Nat×(Nat×V))->Prop->Prop
 | [],p=>p
 | (k,(g,v))::r,p=>p/\sK A r (match lk k A.h with | some (g',v')=>(g',wk v' v)=(g,v) | none=>False)
theorem sX:∀ {H:List (Nat×(Nat×V))} {p:Prop},sK A H p->p/\Pe A H
 | [],p,h=>⟨h,trivial⟩
 | (k,(g,v))::r,p,h=>by
   obtain⟨h1,h2⟩:=h
   exact⟨h1,sX h2⟩
end
end Go.Abs
namespace Go.Abs
open Go Go.RowKit
structure o8 (P:Program) where
 f:FuncId
 args:List V
 H:List (Nat×(Nat×V)):=[]
 pre:Prop:=True
 res:V
 H':List (Nat×(Nat×V)):=[]
 ok:pre->PF P f args H (fun r h=>r=res/\h=H')
structure G4 (P:Program) where
 X:Type
 f:FuncId
 args:List V
 H:List (Nat×(Nat×V)):=[]
 pre:Prop:=True
 post:X->Prop
 res:X->V
 H':X->List (Nat×(Nat×V)):=fun _=>[]
 ok:pre->PF P f args H (fun r h=> ∃ x,post x/\r=res x/\h=H' x)
structure Cu (P:Program) where
 X:Type
 pre:Nat->Oper->AS->Prop
 post:X->Oper->AS->AS
 ok:∀ {N:Nat} {o:Oper} {A:AS} {K:AS->Prop},o.guard=none->pre N o A->(∀ x,K (post x o A))->D' P N o A K
structure Eu (P:Program) where
 X:Type
 pre:Nat->Oper->AS->List Nat->List Nat->Prop
 U:Oper->AS->X->AS->AS
 T5:∀ {N:Nat} {o:Oper} {A:AS} {Sl Hl:List Nat},pre N o A Sl Hl->∀ fs,QC (U o A) fs Sl Hl
 prom:List Nat:=[]
 W8:∀ {N:Nat} {o:Oper} {A:AS} {Sl Hl:List Nat},pre N o A Sl Hl->∀ q,q∈prom->∀ x B,LX (U o A x B).h q=LX B.h q:=by intro _ _ _ _ _ _ q hq;exact absurd hq List.not_mem_nil
 ok:∀ {N:Nat} {o:Oper} {A A':AS} {Sl Hl:List Nat},o.guard=none->pre N o A Sl Hl->(∀ t,Operand.tmp t∈o.op.operands.toList->A'.get t=A.get t)->(∀ k,lk k A'.h=lk k A.h)->D' P N o A' fun B=> ∃ x,B=U o A x A'
def o8.sm{P:Program}(c:o8 P):Prop:=c.args=c.args
def G4.sm{P:Program}(c:G4 P):Prop:=c.args=c.args
inductive Hint where
 | H4 (t sz:Nat)
 | U2 (t:Nat) (u:V)
 | wkR (r:l7) (p:List Nat) (u:V)
 | gM (t:Nat)
 | fz (t:Nat)
 | o5 (t:Nat) (v:V)
 | A6 (k:Nat) (v:V)
 | to (B:AS)
 | rk (k k':Nat)
 | A9 (r:l7) (p:List Nat) (sz:Nat)
 | OP (r:l7) (p:List Nat) (g o sz:Nat)
 | Qz (r:l7) (p:List Nat) (g o t:Nat)
 | ON (r:l7) (p:List Nat) (g o:Nat) (v u:V)
inductive Sc (P:Program):Type 1
 | nil
 | h (x:Hint) (k:Sc P)
 | ot (t:Nat) (k:Nat->Nat->Nat->Sc P)
 | oR (r:l7) (p:List Nat) (k:Nat->Nat->Nat->Sc P)
 | r (n:Nat) (w7:List V) (k:Sc P)
 | mv (k:Sc P)
 | c (c:o8 P) (ks:List (Nat×Nat)) (k:Sc P)
 | cx (c:G4 P) (ks:List (Nat×Nat)) (k:c.X->Sc P)
 | cg (c:o8 P) (k:Sc P)
 | al (z:ZT P) (k:Nat->Sc P)
 | bx (k:Nat->Sc P)
 | st (QU:Option V) (k:Sc P)
 | ap (k:Nat->Nat->Nat->Sc P)
 | bd (z:ZT P) (k:Sc P)
 | bs (k:Sc P)
 | K6 (bs:BL) (k:Sc P)
 | sb (l:BL) (k:Nat->Nat->Sc P)
 | mm (k:Sc P)
 | rs (k:Sc P)
 | br (a b:Sc P)
 | join (X:Type) (B:X->AS) (ok:X->Prop) (a b:Sc P) (k:X->Sc P)
 | loop (X:Type) (inv:X->AS) (ok:X->Prop) (m:X->Nat) (k:X->Sc P)
 | dx (m:Nat) (pl:List Nat) (tb:List (Nat×OM)) (zs:List (Nat×ZT P)) (k:Sc P)
 | ua (k:Nat->Sc P)
 | ux (z:Option (ZT P)) (k:Nat->Nat->Nat->Sc P)
 | cl (c:o8 P) (k:Sc P)
 | sp (b:Bool) (a1 a2:Sc P)
 | gt (k:Sc P)
 | gf (v:V) (k:Sc P)
 | ex (X:Type) (post:X->Prop) (k:X->Sc P)
 | Pv (r:l7) (p:List Nat) (g o sz:Nat) (xs:List V) (k:Nat->Nat->Nat->Sc P)
 | WZ (xs:List V) (g o:Nat) (k:Nat->Nat->Nat->Sc P)
 | bo (k:Nat->Sc P)
 | cu (c:Cu P) (k:c.X->Sc P)
 | eu (c:Eu P) (k:c.X->Sc P)
def NA(N:Nat):Option Nat->Bool
 | none=>true
 | some d=>Nat.blt d N
theorem dU{N:Nat}{d:Option Nat}(h:NA N d=true):cy N d:=by
 cases d with
 | none=>trivial
 | some d=>exact Nat.lt_of_succ_le (Nat.le_of_ble_eq_true h)
theorem bD{a b:Nat}(h:Nat.blt a b=true):a<b:=Nat.lt_of_succ_le (Nat.le_of_ble_eq_true h)
def xC(N:Nat)(x:Hint)(A:AS)(K:AS->Prop):Prop:=
 match x with
 | .H4 t sz=>match Nat.blt t N,A.get t with
   | true,.sl true []=>K (A.put (some t) (.own sz [] 0 0 0))
   | _,_=>False
 | .U2 t u=>match Nat.blt t N with
   | true=>K (A.put (some t) (wk (A.get t) u))
   | false=>False
 | .wkR r p u=>match A.at r p with
   | some (_,_,v)=>match (wk v u).n==v.n with
     | true=>K (A.setAt r p (wk v u))
     | false=>False
   | none=>False
 | .gM t=>match A.get t with
   | .hd (.slot i) [] sz g o 0 n c=>match A.get i with
     | .own I5 xs g' o' c'=>match Nat.blt t N&&Nat.blt i N&&!(t==i) with
       | true=>(sz,g,o,c,n)=(I5,g',o',c',xs.length)/\K ((A.put (some i) .c9).put (some t) (.own I5 xs g' o' c'))
       | false=>False
     | _=>False
   | _=>False
 | .fz t=>match Nat.blt t N&&(A.get t).cW with
   | true=>K (A.put (some t) (A.get t).er)
   | false=>False
 | .o5 t v=>A.get t=v/\K (A.put (some t) v)
 | .A6 k v=>match lk k A.h with
   | some (g,u)=>u=v/\K ⟨A.t,(k,(g,v))::A.h⟩
   | none=>False
 | .to B=>P0 A B.t/\Pe A B.h/\K B
 | .rk k k'=>match lk k A.h,lk k' A.h with
   | some gv,none=>K ⟨A.t,(k',gv)::A.h.filter fun p=>p.1 != k⟩
   | _,_=>False
 | .A9 r p sz=>match A.at r p with
   | some (_,_,.sl true [])=>K (A.setAt r p (.own sz [] 0 0 0))
   | _=>False
 | .OP r p g o sz=>A.at r p=some (g,o,.sl true [])/\K (A.setAt r p (.own sz [] 0 0 0))
 | .Qz r p g o t=>match A.get t with
   | .own sz xs g1 o1 c=>(A.put (some t) .c9).at r p=some (g,o,.hd (.slot t) [] sz g1 o1 0 xs.length c)/\K ((A.put (some t) .c9).setAt r p (.own sz xs g1 o1 c))
   | _=>False
 | .ON r p g o v u=>A.at r p=some (g,o,v)/\match (wk v u).n==v.n with
   | true=>K (A.setAt r p (wk v u))
   | false=>False
def NH{P:Program}(N:Nat):Sc P->AS->(AS->Sc P->Prop)->Prop
 | .h x k,A,K=>xC N x A fun B=>NH N k B K
 | .ot t k,A,K=>match Nat.blt t N,A.get t with
   | true,.ow sz xs=> ∀ g o c,NH N (k g o c) (A.put (some t) (.own sz xs g o c)) K
   | _,_=>False
 | .oR r p k,A,K=>match A.at r p with
   | some (_,_,.ow sz xs)=> ∀ g o c,NH N (k g o c) (A.setAt r p (.own sz xs g o c)) K
   | _=>False
 | .ex X post k,A,K=>(∃ x,post x)/\∀ x,post x->NH N (k x) A K
 | .Pv r p g0 o0 sz xs k,A,K=>A.at r p=some (g0,o0,.ow sz xs)/\∀ g o1 c,NH N (k g o1 c) (A.setAt r p (.own sz xs g o1 c)) K
 | s,A,K=>K A s
def mS(P:Program)(T T2:Nat):Option TI:=
 match tD P T,tD P T2 with
 | some (.sl e),some (.sl _)=>match ti P e with
   | some t=>match T0 P e t.sz&&Nat.blt 0 t.sz&&Nat.blt 0 t.K6 with
     | true=>some t
     | false=>none
   | none=>none
 | _,_=>none
def zb(P:Program)(T:Nat):Bool:=match tD P T with
 | some (.sl e)=>match tD P e with
   | some (.int .u8)=>true
   | _=>false
 | _=>false
def isStr(P:Program)(T:Nat):Bool:=match tD P T with
 | some .str=>true
 | _=>false
def C3{P:Program}(N:Nat)(ops:Array Oper):GT->Sc P->List Oper->AS->(AS->Sc P->Prop)->Prop
 | QP,s,[],A,K=>K A s
 | QP,.r n w7 k,l,A,K=>match qQ P N ops n l w7 QP A with
   | some (C,A',XU)=>cj C (C3 N ops XU k (l.drop n) A' K)
   | none=>False
 | QP,.cg c k,o::l,A,K=>match o.op,o.guard with
   | .call ⟨.value (.func f),xs,_⟩,some (j,b)=>match f==c.f&&NA N o.dst&&Oy N xs.toList&&!c.res.er.gC&&!c.res.er.cW,c.H,MR A ops j b with
     | true,[],some G=>match Pt G (j,b) QP xs.toList A with
       | (C,B)=>cj C ((G=true->c.pre/\Mt (xs.toList.map B.cp) c.args=c.args)/\C3 N ops (XT ops o.dst j b QP) k l (A.put o.dst (.gv G c.res.er)) K)
     | _,_,_=>False
   | _,_=>False
 | QP,.ex X post k,o::l,A,K=>(∃ x,post x)/\∀ x,post x->C3 N ops [] (k x) (o::l) A K
 | QP,.sp b a1 a2,o::l,A,K=>(b=true->C3 N ops [] a1 (o::l) A K)/\(b=false->C3 N ops [] a2 (o::l) A K)
 | QP,.gt k,o::l,A,K=>match o.guard with
   | some (j,b)=>match MR A ops j b with
     | some G=>G=true/\C3 N ops [] k (⟨o.dst,o.op,o.type,o.pos,o.after,none⟩ :: l) A K
     | none=>False
   | none=>False
 | QP,.gf v k,o::l,A,K=>match o.guard with
   | some (j,b)=>match MR A ops j b,NA N o.dst with
     | some G,true=>G=false/\C3 N ops [] k l (A.put o.dst (.gv false v)) K
     | _,_=>False
   | none=>False
 | QP,s,o::l,A,K=>match o.guard with
   | some _=>False
   | none=>match s with
     | .h x k=>xC N x A fun B=>C3 N ops [] k (o::l) B K
     | .Pv r p g0 o0 sz xs k=>A.at r p=some (g0,o0,.ow sz xs)/\∀ g o1 c,C3 N ops [] (k g o1 c) (o::l) (A.setAt r p (.own sz xs g o1 c)) K
     | .cu c k=>c.pre N o A/\∀ x,C3 N ops [] (k x) l (c.post x o A) K
     | .bo k=>match o.op,o.dst with
       | .buildSlice T len b9,some d=>match tD P T with
         | some (.sl e)=>match ti P e,eJ A 0 b9.toList with
           | some i,some vs=>match QR P T e len i vs&&Nat.blt d N&&Nat.blt 0 len with
             | true=> ∀ g,C3 N ops [] (k g) l (A.put (some d) (.own i.sz vs g 0 len)) K
             | false=>False
           | _,_=>False
         | _=>False
       | _,_=>False
     | .WZ xs g0 o0 k=>match o.op,o.dst with
       | .call ⟨.builtin .append,⟨[.tmp t0,x]⟩,⟨[T,T2]⟩⟩,some d=>match o.type==T&&Nat.blt d N,mS P T T2 with
         | true,some t=>match A.get t0,Nt A x with
           | .hd r p sz g o1 0 n c,some (Cx,ys)=>(A.at r p=some (g0,o0,.own sz xs g o1 c)/\sz=t.sz/\n=xs.length)/\Cx/\V.aG ys=false/\aL t.sz ys/\(xs.length+ys.length)*t.K6<=140737488355328/\
            ∀ g2 o2 c2,C3 N ops [] (k g2 o2 c2) l ((A.setAt r p .c9).put (some d) (.own t.sz (xs++ys) g2 o2 c2)) K
           | _,_=>False
         | _,_=>False
       | _,_=>False
     | .cl c k=>match o.op with
       | .call ⟨.value (.func f),xs,_⟩=>match f==c.f&&NA N o.dst&&c.res.plain,c.H,qh A xs.toList with
         | true,[],(C,vs)=>C/\Mt vs c.args=c.args/\c.pre/\C3 N ops [] k l (A.put o.dst c.res) K
         | _,_,_=>False
       | _=>False
     | .ot t k=>match Nat.blt t N,A.get t with
       | true,.ow sz xs=> ∀ g o1 c,C3 N ops [] (k g o1 c) (o::l) (A.put (some t) (.own sz xs g o1 c)) K
       | _,_=>False
     | .oR r p k=>match A.at r p with
       | some (_,_,.ow sz xs)=> ∀ g o1 c,C3 N ops [] (k g o1 c) (o::l) (A.setAt r p (.own sz xs g o1 c)) K
       | _=>False
     | .mv k=>match o.op with
       | .move x=>match NA N o.dst with
         | true=>C3 N ops [] k l ((A.drop x).put o.dst (A.ev x)) K
         | false=>False
       | .extract (.tmp t) i=>match o.dst,A.get t with
         | some d,.tup vs=>match vs[i]? with
           | some v=>match Nat.blt d N&&Nat.blt t N&&!(d==t)&&v.isVal with
             | true=>C3 N ops [] k l ((A.put (some t) (.tup (vs.set i .c9))).put (some d) v) K
             | false=>False
           | none=>False
         | _,_=>False
       | .load T x=>match o.dst,ti P T,A.ev x with
         | some d,some i,.ptr r p g g'=>match A.at r p with
           | some (g2,Rg,u)=>match Nat.blt d N&&u.n==i.sz&&i.d.agg==u.isAgg with
             | true=>(g2,Rg)=(g,g')/\C3 N ops [] k l ((A.setAt r p u.kill).put (some d) u) K
             | false=>False
           | none=>False
         | _,_,_=>False
       | _=>False
     | .c c ks k=>match o.op with
       | .call ⟨.value fx,xs,_⟩=>match A.ev fx,A.tk xs.toList with
         | .lit (.func (.func f) first w9),(vs,B)=>match f==c.f&&NA N o.dst&&Mf (ks.map (·.1))&&Mf (ks.map (·.2))&&c.args.length==(first.toList.map cV++vs++w9.toList.map cV).length with
           | true=>Mt (first.toList.map cV++vs++w9.toList.map cV) c.args=c.args/\mM B ks c.H (c.pre/\C3 N ops [] k l ((B.back ks c.H').put o.dst (c.res.Ns (kA ks))) K)
           | false=>False
         | _,_=>False
       | _=>False
     | .cx c ks k=>match o.op with
       | .call ⟨.value fx,xs,_⟩=>match A.ev fx,A.tk xs.toList with
         | .lit (.func (.func f) first w9),(vs,B)=>match f==c.f&&NA N o.dst&&Mf (ks.map (·.1))&&Mf (ks.map (·.2))&&c.args.length==(first.toList.map cV++vs++w9.toList.map cV).length with
           | true=>Mt (first.toList.map cV++vs++w9.toList.map cV) c.args=c.args/\mM B ks c.H (c.pre/\∀ x,c.post x->C3 N ops [] (k x) l ((B.back ks (c.H' x)).put o.dst ((c.res x).Ns (kA ks))) K)
           | false=>False
         | _,_=>False
       | _=>False
     | .al z k=>match o.op,o.dst with
       | .alloc T,some d=>match T==z.T&&Nat.blt d N with
         | true=> ∀ g,C3 N ops [] (k g) l ⟨(d,.ptr (.key d) [] g 0)::A.t,(d,(g,z.v))::A.h⟩ K
         | false=>False
       | _,_=>False
     | .bx k=>match o.op,o.dst with
       | .box _ x,some d=>match Nat.blt d N&&(A.cp x).isVal with
         | true=> ∀ g,C3 N ops [] (k g) l ⟨(d,.ptr (.key d) [] g 0)::A.t,(d,(g,A.cp x))::A.h⟩ K
         | false=>False
       | _,_=>False
     | .st QU k=>match o.op,o.dst with
       | .store T x y,none=>match ti P T,A.ev x with
         | some i,.ptr r p g g'=>match QU with
           | none=>match (A.drop y).at r p with
             | some (g2,Rg,u)=>match (A.ev y).isVal&&(A.ev y).n==u.n&&(A.ev y).n==i.sz with
               | true=>(g2,Rg)=(g,g')/\C3 N ops [] k l ((A.drop y).setAt r p (A.ev y)) K
               | false=>False
             | none=>False
           | some u=>match (A.ev y).isVal&&(A.ev y).n==u.n&&(A.ev y).n==i.sz with
             | true=>(A.drop y).at r p=some (g,g',u)/\C3 N ops [] k l ((A.drop y).setAt r p (A.ev y)) K
             | false=>False
         | _,_=>False
       | _,_=>False
     | .ap k=>match o.op,o.dst with
       | .call ⟨.builtin .append,⟨[s,x]⟩,⟨[T,T2]⟩⟩,some d=>match o.type==T&&Nat.blt d N,mS P T T2 with
         | true,some t=>match TW A s t.sz,Nt A x with
           | some (C,A1,xs),some (Cx,ys)=>C/\Cx/\V.aG ys=false/\aL t.sz ys/\(xs.length+ys.length)*t.K6<=140737488355328/\
            ∀ g o1 c,C3 N ops [] (k g o1 c) l (A1.put (some d) (.own t.sz (xs++ys) g o1 c)) K
           | none,some (Cx,ys)=>match Te A s t.sz with
             | some (C,xs)=>(C/\0<ys.length)/\Cx/\V.aG ys=false/\aL t.sz ys/\(xs.length+ys.length)*t.K6<=140737488355328/\
               ∀ g o1 c,C3 N ops [] (k g o1 c) l (A.put (some d) (.own t.sz (xs++ys) g o1 c)) K
             | none=>False
           | _,_=>False
         | _,_=>False
       | _,_=>False
     | .bd z k=>match o.op with
       | .build T b9=>match T==z.T&&NA N o.dst,z.v with
         | true,.agg zs=>match lR P A T zs b9.toList with
           | some v=>C3 N ops [] k l (A.put o.dst v) K
           | none=>False
         | _,_=>False
       | _=>False
     | .bs k=>match o.op with
       | .buildSlice T len b9=>match tD P T with
         | some (.sl e)=>match ti P e,eJ A 0 b9.toList with
           | some i,some vs=>match QR P T e len i vs&&NA N o.dst with
             | true=>C3 N ops [] k l (A.put o.dst (.sl true vs)) K
             | false=>False
           | _,_=>False
         | _=>False
       | _=>False
     | .K6 bs k=>match o.op with
       | .convert src dst x=>match zb P src&&isStr P dst&&NA N o.dst,Nt A x with
         | true,some (C,ys)=>C/\ys=bs.map n6/\C3 N ops [] k l (A.put o.dst (sV bs)) K
         | _,_=>False
       | _=>False
     | .sb bs k=>match o.op,o.dst with
       | .convert src dst x,some d=>match isStr P src&&zb P dst&&Nat.blt d N with
         | true=>A.ev x=sV bs/\∀ g c,C3 N ops [] (k g c) l (A.put (some d) (.own 1 (bs.map n6) g 0 c)) K
         | false=>False
       | _,_=>False
     | .mm k=>match o.op with
       | .call ⟨.builtin b,⟨[x,y]⟩,_⟩=>match A.ev x,A.ev y,NA N o.dst,b with
         | .lit (.int kd p),.lit (.int P1 q),true,.max=>P1=kd/\C3 N ops [] k l (A.put o.dst (.lit (.int kd (max p q)))) K
         | .lit (.int kd p),.lit (.int P1 q),true,.min=>P1=kd/\C3 N ops [] k l (A.put o.dst (.lit (.int kd (min p q)))) K
         | _,_,_,_=>False
       | _=>False
     | .rs k=>match o.op,o.dst with
       | .assign x,some i=>match A.ev x,A.get i,Nat.blt i N with
         | .hd (.slot i') [] I5 g' o' lo n c',.own sz xs g o1 c,true=>(i',I5,g',o')=(i,sz,g,o1)/\(lo+n<=xs.length/\lo+c'<=c/\V.aG xs=false)/\
          C3 N ops [] k l (A.put (some i) (.own sz ((xs.drop lo).take n) g (o1+lo*sz) c')) K
         | _,_,_=>False
       | _,_=>False
     | _=>False
section
variable {P:Program} {N:Nat} {ops:Array Oper} {A A' A1 B:AS}
variable {w:World} {Pb Kb:Nat->Prop} {a:Act} {F:l7->List Nat}
theorem ye{x:Hint}{A:AS}{K:AS->Prop}(h:xC N x A K):Hx N A K:=by
 unfold xC at h
 split at h
 split at h
 rename_i e1 e2;exact Ip _ _ (bD e1) e2 h
 exact h.elim
 split at h
 rename_i e1;exact KR _ (bD e1) h
 exact h.elim
 split at h
 rename_i e1
 split at h
 rename_i e2;exact Dl _ e1 (by simpa using e2) h
 exact h.elim
 exact h.elim
 split at h
 rename_i e1
 split at h
 rename_i e2
 split at h
 rename_i e3
 simp only[Bool.and_eq_true,Bool.not_eq_true',beq_eq_false_iff_ne]at e3
 obtain⟨hq,h⟩:=h
 simp only[Prod.mk.injEq]at hq
 obtain⟨rfl,rfl,rfl,rfl,hn⟩:=hq
 exact Ga (bD e3.1.1) (bD e3.1.2) e3.2 e1 e2 hn h
 exact h.elim
 exact h.elim
 exact h.elim
 split at h
 rename_i e1
 simp only[Bool.and_eq_true]at e1
 exact DY (bD e1.1) e1.2 h
 exact h.elim
 exact JL _ h.1 h.2
 split at h
 rename_i e1
 obtain⟨rfl,h⟩:=h
 exact Ku _ e1 h
 exact h.elim
 exact GR h.1 h.2.1 h.2.2
 split at h
 rename_i e1 e2;exact KX e1 e2 h
 exact h.elim
 split at h
 rename_i e1;exact zI e1 h
 exact h.elim
 exact zI h.1 h.2
 split at h
 rename_i e1;exact CL e1 h.1 rfl h.2
 exact h.elim
 obtain⟨h1,h⟩:=h
 split at h
 rename_i e2;exact Dl _ h1 (by simpa using e2) h
 exact h.elim
theorem kD:∀ (s:Sc P) {A:AS} {K:AS->Sc P->Prop},NH N s A K->Hx N A fun B=> ∃ s',K B s':=by
 intro s
 induction s with
 | h x k ih=>intro A K h;exact(ye h).bind fun B hB=>ih hB
 | ot t k ih=>
   intro A K h
   simp only[NH]at h
   split at h
   rename_i e1 e2
   exact(AW (bD e1) e2 (K:=fun B=>Hx N B fun B=> ∃ s',K B s') fun g o c=>ih g o c (h g o c)).bind fun _ hB=>hB
   exact h.elim
 | oR r p k ih=>
   intro A K h
   simp only[NH]at h
   split at h
   rename_i e1
   exact(qj e1 (K:=fun B=>Hx N B fun B=> ∃ s',K B s') fun g o c=>ih g o c (h g o c)).bind fun _ hB=>hB
   exact h.elim
 | ex X post k ih=>
   intro A K h
   obtain⟨⟨x,hx⟩,h⟩:=h
   exact ih x (h x hx)
 | Pv r p g0 o0 sz xs k ih=>
   intro A K h
   exact(qj h.1 (K:=fun B=>Hx N B fun B=> ∃ s',K B s') fun g o c=>ih g o c (h.2 g o c)).bind fun _ hB=>hB
 | _=>intro A K h;exact Hx.of ⟨_,h⟩
theorem iH{T T2:Nat}{t:TI}(h:mS P T T2=some t):∃ e e2,tD P T=some (.sl e)/\tD P T2=some (.sl e2)/\ti P e=some t/\T0 P e t.sz=true/\0<t.sz/\0<t.K6:=by
 unfold mS at h
 split at h
 rename_i e e2 h1 h2
 split at h
 rename_i t' h3
 split at h
 rename_i h4
 simp only[Option.some.injEq]at h;subst h
 simp only[Bool.and_eq_true]at h4
 exact⟨e,e2,h1,h2,h3,h4.1.1,bD h4.1.2,bD h4.2⟩
 simp at h
 simp at h
 simp at h
theorem vX{T:Nat}(h:zb P T=true):∃ e,tD P T=some (.sl e)/\tD P e=some (.int .u8):=by
 unfold zb at h
 split at h
 rename_i e h1
 split at h
 rename_i h2;exact⟨e,h1,h2⟩
 simp at h
 simp at h
theorem tC{T:Nat}(h:isStr P T=true):tD P T=some .str:=by
 unfold isStr at h
 split at h
 rename_i h1;exact h1
 simp at h
theorem DJ:∀ (s:Sc P) {gt:GT} {l:List Oper} {A:AS} {K:AS->Sc P->Prop},C3 N ops gt s l A K->(hg:GI ops gt A:=by exact Ek)->WL P N ops l A fun B=> ∃ s',K B s':=by
 intro s
 induction s with
 | nil=>
   intro gt l A K h I1
   cases l with
   | nil=>exact⟨_,h⟩
   | cons o l=>simp only[C3]at h;split at h <;> exact h.elim
 | r n w7 k ih=>
   intro gt l A K h I1
   cases l with
   | nil=>exact⟨_,h⟩
   | cons o l=>
     simp only[C3]at h
     split at h
     rename_i C A' XU e
     obtain⟨h1,h2⟩:=nr.1 h
     obtain⟨⟨C1,e1,e2⟩,e3⟩:=rK n e I1 h1
     exact oo n e1 e2 (ih h2 e3)
     exact h.elim
 | cg c k ih=>
   intro gt l A K h I1
   cases l with
   | nil=>exact⟨_,h⟩
   | cons o l=>
     obtain⟨dst,op,ty,pos,after,C7⟩:=o
     simp only[C3]at h
     split at h
     rename_i _ _ f xs J9 j b
     split at h
     rename_i G h1 h2 h3
     revert h
     cases hu:Pt G (j,b) gt xs.toList A with | mk C0 B=>?_
     intro h
     obtain⟨Ov,h⟩:=nr.1 h
     obtain⟨C1,u1,u2⟩:=lT xs.toList (fun t ht c v hv=>by have:=I1 _ ht c v hv;rw[h3]at this;exact(Option.some.inj this).symm) hu Ov
     simp only[Bool.and_eq_true,beq_iff_eq,Bool.not_eq_true']at h1
     obtain⟨⟨⟨⟨h1,h4⟩,h5⟩,h6⟩,h7⟩:=h1
     subst h1
     refine FT (dU h4) h3 u1 h5 rfl (fun hG=>⟨u2,?_,h6,h7⟩) (ih h.2 (Hu I1 h3))
     obtain⟨Qg,hw⟩:=h.1 hG
     have hc:=c.ok Qg
     rw[h2]at hc
     have hp:=hc.Cs
     refine⟨hp.1,fun w Pb cargs k1 k2=>?_⟩
     refine(hp.2 w Pb cargs k1 (by have:=oB _ c.args k2;rw[hw]at this;exact this)).mono ?_
     rintro e w' ⟨r,x,F,Pb',rfl,⟨H,q1,_⟩,rest⟩
     exact⟨r,x,F,Pb',rfl,by rw[q1],rest⟩
     exact h.elim
     exact h.elim
 | ex X post k ih=>
   intro gt l A K h I1
   cases l with
   | nil=>exact⟨_,h⟩
   | cons o l=>
     simp only[C3]at h
     obtain⟨⟨x,hx⟩,h⟩:=h
     exact ih x (h x hx)
 | Pv r p g0 o0 sz xs k ih=>
   intro gt l A K h I1
   cases l with
   | nil=>exact⟨_,h⟩
   | cons o l=>
     simp only[C3]at h
     split at h
     exact h.elim
     rename_i hg
     exact rW hg (qj h.1 fun g o1 c=>ih g o1 c (h.2 g o1 c))
 | cu c k ih=>
   intro gt l A K h I1
   cases l with
   | nil=>exact⟨_,h⟩
   | cons o l=>
     obtain⟨dst,op,ty,pos,after,C7⟩:=o
     simp only[C3]at h
     split at h
     exact h.elim
     rename_i hg
     show D' P N _ A _
     exact c.ok rfl h.1 fun x=>ih x (h.2 x)
 | bo k ih=>
   intro gt l A K h I1
   cases l with
   | nil=>exact⟨_,h⟩
   | cons o l=>
     obtain⟨dst,op,ty,pos,after,C7⟩:=o
     simp only[C3]at h
     split at h
     exact h.elim
     show D' P N _ A _
     split at h
     split at h
     rename_i e e1
     split at h
     rename_i i vs e2 e3
     split at h
     rename_i e4
     simp only[Bool.and_eq_true]at e4
     exact Au rfl rfl (bD e4.1.2) e1 e2 e3 e4.1.1 (bD e4.2) fun g=>ih g (h g)
     exact h.elim
     exact h.elim
     exact h.elim
     exact h.elim
 | WZ xs g0 o0 k ih=>
   intro gt l A K h I1
   cases l with
   | nil=>exact⟨_,h⟩
   | cons o l=>
     obtain⟨dst,op,ty,pos,after,C7⟩:=o
     simp only[C3]at h
     split at h
     exact h.elim
     show D' P N _ A _
     split at h
     split at h
     rename_i t e1 e2
     split at h
     rename_i e3 e4
     simp only[Bool.and_eq_true,beq_iff_eq]at e1
     obtain⟨⟨k1,k2,k3⟩,k4,k5,k6,k7,k8⟩:=h
     obtain⟨e,e',q1,q2,q3,q4,q5,q6⟩:=iH e2
     exact zC rfl e1.1 rfl (bD e1.2) q1 q2 q3 (lS q4) q5 q6 e3 k1 k2 k3 e4 k4 k5 k6 k7 fun g o1 c=>ih g o1 c (k8 g o1 c)
     exact h.elim
     exact h.elim
     exact h.elim
 | sp b a1 a2 Tr Tq=>
   intro gt l A K h I1
   cases l with
   | nil=>exact⟨_,h⟩
   | cons o l=>
     simp only[C3]at h
     cases b with
     | true=>exact Tr (h.1 rfl)
     | false=>exact Tq (h.2 rfl)
 | gt k ih=>
   intro gt l A K h I1
   cases l with
   | nil=>exact⟨_,h⟩
   | cons o l=>
     obtain⟨dst,op,ty,pos,after,C7⟩:=o
     simp only[C3]at h
     split at h
     rename_i j b
     split at h
     rename_i G hG
     exact pY rfl hG (fun _=>ih h.2) (fun hf=>by rw[h.1]at hf;cases hf)
     exact h.elim
     exact h.elim
 | gf v k ih=>
   intro gt l A K h I1
   cases l with
   | nil=>exact⟨_,h⟩
   | cons o l=>
     obtain⟨dst,op,ty,pos,after,C7⟩:=o
     simp only[C3]at h
     split at h
     rename_i j b
     split at h
     rename_i G hG hd
     exact pY rfl hG (fun ht=>by rw[h.1]at ht;cases ht) (fun _=>⟨dU hd,.gv false v,fun _ _=>⟨rfl,⟨(fun hh=>Bool.noConfusion hh),fun _=>rfl⟩⟩,ih h.2⟩)
     exact h.elim
     exact h.elim
 | cl c k ih=>
   intro gt l A K h I1
   cases l with
   | nil=>exact⟨_,h⟩
   | cons o l=>
     obtain⟨dst,op,ty,pos,after,C7⟩:=o
     simp only[C3]at h
     split at h
     exact h.elim
     show D' P N _ A _
     split at h
     split at h
     rename_i C vs e1 e2 e3
     simp only[Bool.and_eq_true,beq_iff_eq]at e1
     obtain⟨⟨rfl,e1⟩,e4⟩:=e1
     obtain⟨k1,k2,k3,k4⟩:=h
     have hc:=c.ok k3
     rw[e2]at hc
     have hp:=hc.Cs
     refine EJ (Q:=fun r=>r=c.res) rfl (dU e1) ⟨hp.1,fun w Pb cargs q1 q2=>?_⟩ e3 k1 k2 (fun r hr=>by rw[hr];exact e4) (fun r hr=>by rw[hr];exact ih k4)
     refine(hp.2 w Pb cargs q1 q2).mono ?_
     rintro e w' ⟨r,x,F,Pb',rfl,⟨H,q,_⟩,rest⟩
     exact⟨r,x,F,Pb',rfl,q,rest⟩
     exact h.elim
     exact h.elim
 | h x k ih=>
   intro gt l A K h I1
   cases l with
   | nil=>exact⟨_,h⟩
   | cons o l=>
     simp only[C3]at h
     split at h
     exact h.elim
     rename_i hg;exact rW hg ((ye h).mono fun B hB=>ih hB)
 | ot t k ih=>
   intro gt l A K h I1
   cases l with
   | nil=>exact⟨_,h⟩
   | cons o l=>
     simp only[C3]at h
     split at h
     exact h.elim
     rename_i hg
     split at h
     rename_i e1 e2;exact rW hg (AW (bD e1) e2 fun g o1 c=>ih g o1 c (h g o1 c))
     exact h.elim
 | oR r p k ih=>
   intro gt l A K h I1
   cases l with
   | nil=>exact⟨_,h⟩
   | cons o l=>
     simp only[C3]at h
     split at h
     exact h.elim
     rename_i hg
     split at h
     rename_i e1;exact rW hg (qj e1 fun g o1 c=>ih g o1 c (h g o1 c))
     exact h.elim
 | mv k ih=>
   intro gt l A K h I1
   cases l with
   | nil=>exact⟨_,h⟩
   | cons o l=>
     obtain⟨dst,op,ty,pos,after,C7⟩:=o
     simp only[C3]at h
     split at h
     exact h.elim
     show D' P N _ A _
     split at h
     split at h
     rename_i e;exact Bq rfl (dU e) (ih h)
     exact h.elim
     split at h
     rename_i d vs e1
     split at h
     rename_i v e2
     split at h
     rename_i e3
     simp only[Bool.and_eq_true,Bool.not_eq_true',beq_eq_false_iff_ne]at e3
     exact xz rfl rfl (bD e3.1.1.1) (bD e3.1.1.2) e3.1.2 e1 e2 e3.2 (ih h)
     exact h.elim
     exact h.elim
     exact h.elim
     split at h
     rename_i d i r p g g' e1 e2
     split at h
     rename_i g2 Rg u e3
     split at h
     rename_i e4
     simp only[Bool.and_eq_true,beq_iff_eq]at e4
     obtain⟨hq,h⟩:=h
     simp only[Prod.mk.injEq]at hq
     obtain⟨rfl,rfl⟩:=hq
     exact uE rfl rfl (bD e4.1.1) e1 e2 e3 e4.1.2 e4.2 (ih h)
     exact h.elim
     exact h.elim
     exact h.elim
     exact h.elim
 | c c ks k ih=>
   intro gt l A K h I1
   cases l with
   | nil=>exact⟨_,h⟩
   | cons o l=>
     obtain⟨dst,op,ty,pos,after,C7⟩:=o
     simp only[C3]at h
     split at h
     exact h.elim
     show D' P N _ A _
     split at h
     split at h
     rename_i vs B e1 e2
     split at h
     rename_i e3
     simp only[Bool.and_eq_true,beq_iff_eq]at e3
     obtain⟨⟨⟨⟨h1,h2⟩,h3⟩,h4⟩,h5⟩:=e3
     subst h1
     obtain⟨k1,h⟩:=h
     obtain⟨k2,k3,k4⟩:=iZ h
     refine nB ks rfl e1 (dU h2) h3 h4 (c.ok k3) (by rw[e2];exact k1) (by rw[e2];exact h5) (by rw[e2];exact k2) ?_
     rintro r H' ⟨rfl,rfl⟩
     rw[e2];exact ih k4
     exact h.elim
     exact h.elim
     exact h.elim
 | cx c ks k ih=>
   intro gt l A K h I1
   cases l with
   | nil=>exact⟨_,h⟩
   | cons o l=>
     obtain⟨dst,op,ty,pos,after,C7⟩:=o
     simp only[C3]at h
     split at h
     exact h.elim
     show D' P N _ A _
     split at h
     split at h
     rename_i vs B e1 e2
     split at h
     rename_i e3
     simp only[Bool.and_eq_true,beq_iff_eq]at e3
     obtain⟨⟨⟨⟨h1,h2⟩,h3⟩,h4⟩,h5⟩:=e3
     subst h1
     obtain⟨k1,h⟩:=h
     obtain⟨k2,k3,k4⟩:=iZ h
     refine nB ks rfl e1 (dU h2) h3 h4 (c.ok k3) (by rw[e2];exact k1) (by rw[e2];exact h5) (by rw[e2];exact k2) ?_
     rintro r H' ⟨x,hx,rfl,rfl⟩
     rw[e2];exact ih x (k4 x hx)
     exact h.elim
     exact h.elim
     exact h.elim
 | al z k ih=>
   intro gt l A K h I1
   cases l with
   | nil=>exact⟨_,h⟩
   | cons o l=>
     obtain⟨dst,op,ty,pos,after,C7⟩:=o
     simp only[C3]at h
     split at h
     exact h.elim
     show D' P N _ A _
     split at h
     split at h
     rename_i e
     simp only[Bool.and_eq_true,beq_iff_eq]at e
     obtain⟨rfl,e⟩:=e
     exact qu rfl rfl (bD e) z.ok fun g=>ih g (h g)
     exact h.elim
     exact h.elim
 | bx k ih=>
   intro gt l A K h I1
   cases l with
   | nil=>exact⟨_,h⟩
   | cons o l=>
     obtain⟨dst,op,ty,pos,after,C7⟩:=o
     simp only[C3]at h
     split at h
     exact h.elim
     show D' P N _ A _
     split at h
     split at h
     rename_i e
     simp only[Bool.and_eq_true]at e
     exact IG rfl rfl (bD e.1) e.2 fun g=>ih g (h g)
     exact h.elim
     exact h.elim
 | st QU k ih=>
   intro gt l A K h I1
   cases l with
   | nil=>exact⟨_,h⟩
   | cons o l=>
     obtain⟨dst,op,ty,pos,after,C7⟩:=o
     simp only[C3]at h
     split at h
     exact h.elim
     show D' P N _ A _
     split at h
     split at h
     rename_i i r p g g' e1 e2
     split at h
     split at h
     rename_i g2 Rg u e3
     split at h
     rename_i e4
     simp only[Bool.and_eq_true,beq_iff_eq]at e4
     obtain⟨hq,h⟩:=h
     simp only[Prod.mk.injEq]at hq
     obtain⟨rfl,rfl⟩:=hq
     exact wy rfl rfl e1 e2 e3 e4.1.1 e4.1.2 e4.2 (ih h)
     exact h.elim
     exact h.elim
     split at h
     rename_i u e4
     simp only[Bool.and_eq_true,beq_iff_eq]at e4
     exact wy rfl rfl e1 e2 h.1 e4.1.1 e4.1.2 e4.2 (ih h.2)
     exact h.elim
     exact h.elim
     exact h.elim
 | ap k ih=>
   intro gt l A K h I1
   cases l with
   | nil=>exact⟨_,h⟩
   | cons o l=>
     obtain⟨dst,op,ty,pos,after,C7⟩:=o
     simp only[C3]at h
     split at h
     exact h.elim
     show D' P N _ A _
     split at h
     split at h
     rename_i t e1 e2
     split at h
     rename_i e3 e4
     simp only[Bool.and_eq_true,beq_iff_eq]at e1
     obtain⟨k1,k2,k3,k4,k5,k6⟩:=h
     obtain⟨e,e',q1,q2,q3,q4,q5,q6⟩:=iH e2
     exact AF rfl e1.1 rfl (bD e1.2) q1 q2 q3 (lS q4) q5 q6 e3 k1 e4 k2 k3 k4 k5 fun g o1 c=>ih g o1 c (k6 g o1 c)
     rename_i e3 e4
     split at h
     rename_i e5
     simp only[Bool.and_eq_true,beq_iff_eq]at e1
     obtain⟨k1,k2,k3,k4,k5,k6⟩:=h
     obtain⟨e,e',q1,q2,q3,q4,q5,q6⟩:=iH e2
     exact zx rfl e1.1 rfl (bD e1.2) q1 q2 q3 (lS q4) q5 q6 e5 k1.1 k1.2 e4 k2 k3 k4 k5 fun g o1 c=>ih g o1 c (k6 g o1 c)
     exact h.elim
     exact h.elim
     exact h.elim
     exact h.elim
 | bd z k ih=>
   intro gt l A K h I1
   cases l with
   | nil=>exact⟨_,h⟩
   | cons o l=>
     obtain⟨dst,op,ty,pos,after,C7⟩:=o
     simp only[C3]at h
     split at h
     exact h.elim
     split at h
     split at h
     rename_i zs e1 e2
     split at h
     rename_i v e3
     simp only[Bool.and_eq_true,beq_iff_eq]at e1
     obtain⟨rfl,e1⟩:=e1
     have hz:=z.ok
     rw[e2]at hz
     exact EX zs v hz (dU e1) e3 (ih h)
     exact h.elim
     exact h.elim
     exact h.elim
 | bs k ih=>
   intro gt l A K h I1
   cases l with
   | nil=>exact⟨_,h⟩
   | cons o l=>
     obtain⟨dst,op,ty,pos,after,C7⟩:=o
     simp only[C3]at h
     split at h
     exact h.elim
     split at h
     split at h
     rename_i e e1
     split at h
     rename_i i vs e2 e3
     split at h
     rename_i e4
     simp only[Bool.and_eq_true]at e4
     exact xA e i vs ⟨e1,e2⟩ (dU e4.2) e3 e4.1 (ih h)
     exact h.elim
     exact h.elim
     exact h.elim
     exact h.elim
 | K6 bs k ih=>
   intro gt l A K h I1
   cases l with
   | nil=>exact⟨_,h⟩
   | cons o l=>
     obtain⟨dst,op,ty,pos,after,C7⟩:=o
     simp only[C3]at h
     split at h
     exact h.elim
     split at h
     split at h
     rename_i C ys e1 e2
     simp only[Bool.and_eq_true]at e1
     obtain⟨hC,rfl,h⟩:=h
     obtain⟨e,q1,q2⟩:=vX e1.1.1
     exact zQ e C bs ⟨q1,q2,tC e1.1.2⟩ (dU e1.2) e2 hC (ih h)
     exact h.elim
     exact h.elim
 | sb bs k ih=>
   intro gt l A K h I1
   cases l with
   | nil=>exact⟨_,h⟩
   | cons o l=>
     obtain⟨dst,op,ty,pos,after,C7⟩:=o
     simp only[C3]at h
     split at h
     exact h.elim
     split at h
     split at h
     rename_i e1
     simp only[Bool.and_eq_true]at e1
     obtain⟨e,q1,q2⟩:=vX e1.1.2
     exact zT e bs ⟨tC e1.1.1,q1,q2⟩ (bD e1.2) h.1 fun g c=>ih g c (h.2 g c)
     exact h.elim
     exact h.elim
 | mm k ih=>
   intro gt l A K h I1
   cases l with
   | nil=>exact⟨_,h⟩
   | cons o l=>
     obtain⟨dst,op,ty,pos,after,C7⟩:=o
     simp only[C3]at h
     split at h
     exact h.elim
     split at h
     split at h
     rename_i kd p P1 q e1 e2 e3
     obtain⟨rfl,h⟩:=h
     exact Jp _ p q (dU e3) e1 e2 (ih h)
     rename_i kd p P1 q e1 e2 e3
     obtain⟨rfl,h⟩:=h
     exact IY _ p q (dU e3) e1 e2 (ih h)
     exact h.elim
     exact h.elim
 | rs k ih=>
   intro gt l A K h I1
   cases l with
   | nil=>exact⟨_,h⟩
   | cons o l=>
     obtain⟨dst,op,ty,pos,after,C7⟩:=o
     simp only[C3]at h
     split at h
     exact h.elim
     split at h
     split at h
     rename_i e1 e2 e3
     obtain⟨hq,⟨h1,h2,h3⟩,h⟩:=h
     simp only[Prod.mk.injEq]at hq
     obtain⟨rfl,rfl,rfl,rfl⟩:=hq
     exact Cw _ _ _ _ (bD e3) e1 e2 h1 h2 h3 (ih h)
     exact h.elim
     exact h.elim
 | _=>
   intro gt l A K h I1
   cases l with
   | nil=>exact⟨_,h⟩
   | cons o l=>simp only[C3]at h;split at h <;> exact h.elim
end
end Go.Abs
namespace Go.Abs
open Go Go.RowKit
section
variable {P:Program} {N:Nat} {ops:Array Oper} {A A' A1 B:AS}
def nO(P:Program)(N:Nat)(ops:Array Oper)(o:Oper)(A:AS)(v:V):Prop:=
 ∀ A':AS,(∀ t,t∈o.looksAt ops->A'.get t=A.get t)->gd ops o A' (D' P N o A' (fun B=>C6 B (A'.put o.dst v))) (cy N o.dst/\∀ w Pb,RV w Pb v undef [])
theorem zo{o:Oper}{x:Operand}(hg:o.guard=none)(ho:o.op=.assign x)(hd:cy N o.dst)(hn:(A.ev x).cW=false):nO P N ops o A (A.ev x):=by
 intro A' h1
 unfold gd
 rw[hg]
 simp only
 have e1:A'.ev x=A.ev x:=bw fun t ht=>h1 t (ej (by rw[ho,ht];simp[Op.operands]))
 have e2:A'.drop x=A':=by
  cases x with
  | tmp t=>
    have e3:A'.get t=A.get t:=e1
    have Oa:(A.get t).cW=false:=hn
    simp[AS.drop,e3,Oa]
  | _=>rfl
 rw[<- e1]
 refine ve ho hd ?_
 rw[e2]
 exact⟨fun _=>rfl,fun _=>rfl⟩
theorem BT{d:Option Nat} {f:FuncId} {xs:Array Operand} {J9:Array TypeId} {ty:TypeId} {pos:String} {after:Array Edge}
 {Q:V->Prop} {E:V} (hd:cy N d) (hc:PC P f (xs.toList.map A.cp) Q) (hE:∀ r,Q r->r.er=E):
 nO P N ops ⟨d,.call { callee:=.value (.func f),args:=xs,argTypes:=J9 },ty,pos,after,none⟩ A E:=fun A' h1=>by
 unfold gd
 refine nX rfl hd ?_ hE ⟨fun _=>rfl,fun _=>rfl⟩
 rw[qF fun t ht=>h1 t (ej (by simp[Op.operands,Call.operands];simpa using ht))]
 exact hc
theorem sT{d:Option Nat} {T len ty:Nat} {b9:Array (Nat×Operand)} {pos:String} {after:Array Edge} (e:Nat) (i:TI) (vs:List V)
 (P9:tD P T=some (.sl e)/\ti P e=some i) (hd:cy N d) (P8:eJ A 0 b9.toList=some vs) (hB:QR P T e len i vs=true):
 nO P N ops ⟨d,.buildSlice T len b9,ty,pos,after,none⟩ A (.sl true vs):=fun A' h1=>by
 show D' P N _ A' _
 refine DA rfl hd P9.1 P9.2 ?_ hB ⟨fun _=>rfl,fun _=>rfl⟩
 rw[nZ (A:=A) _ _ (fun t ht=>h1 t (ej (by simpa[Op.operands] using ht)))]
 exact P8
theorem zN{d:Option Nat} {T ty:Nat} {b9:Array (Nat×Operand)} {pos:String} {after:Array Edge} (zs:List V) (v:V)
 (hz:nh P T (.agg zs)) (hd:cy N d) (hb:lR P A T zs b9.toList=some v):nO P N ops ⟨d,.build T b9,ty,pos,after,none⟩ A v:=fun A' h1=>by
 show D' P N _ A' _
 have e:lR P A' T zs b9.toList=some v:=by
  rw[<- hb]
  unfold lR
  have:(b9.toList.map fun (i,x)=>(i,A'.cp x))=b9.toList.map fun (i,x)=>(i,A.cp x):=by
   apply List.map_congr_left
   rintro⟨i,x⟩ hx
   simp only
   rw[kP (x:=x) fun t ht=>h1 t (ej (by
    subst ht
    simp only[Op.operands,List.mem_map]
    exact⟨(i,.tmp t),hx,rfl⟩))]
  rw[this]
 obtain⟨C,k1,k2⟩:=xh e
 exact xa rfl hd hz k1 k2 ⟨fun _=>rfl,fun _=>rfl⟩
theorem vI{d:Option Nat} {src dst ty:Nat} {x:Operand} {pos:String} {after:Array Edge} (e:Nat) (full:Bool) (bs:BL)
 (ht:tD P src=some (.sl e)/\tD P e=some (.int .u8)/\tD P dst=some .str) (hd:cy N d) (hx:A.ev x=.sl full (bs.map n6)):
 nO P N ops ⟨d,.convert src dst x,ty,pos,after,none⟩ A (sV bs):=fun A' h1=>by
 show D' P N _ A' _
 have e1:A'.ev x=.sl full (bs.map n6):=by rw[<- hx];exact bw fun t ht=>h1 t (ej (by rw[ht];simp[Op.operands]))
 exact rz rfl hd ht.1 ht.2.1 ht.2.2 (C:=True) (by simp only[Nt,e1]) trivial ⟨fun _=>rfl,fun _=>rfl⟩
def iy(b:Option (Sum Nat (Nat×List Nat)))(B:AS):AS:=match b with
 | none=>B
 | some (.inl t)=>B.put (some t) .c9
 | some (.inr (k,p))=>B.setAt (.key k) p .c9
def TV(A:AS)(s:Operand)(sz:Nat):Option (Prop×Option (Sum Nat (Nat×List Nat))×List V):=
 match s with
 | .const (.slice none 0 0)=>some (True,none,[])
 | .tmp t=>match A.get t with
   | .sl true []=>some (True,none,[])
   | .own I5 xs _ _ _=>some (I5=sz,some (.inl t),xs)
   | .hd (.slot i) [] I5 g o 0 n c=>match A.get i with
     | .own Me xs g2 o2 c2=>some ((I5,Me,g2,o2,c2,n)=(sz,sz,g,o,c,xs.length),some (.inl i),xs)
     | _=>none
   | .hd (.key k) p I5 g o 0 n c=>match A.at (.key k) p with
     | some (_,_,.own Me xs g2 o2 c2)=>some ((I5,Me,g2,o2,c2,n)=(sz,sz,g,o,c,xs.length),some (.inr (k,p)),xs)
     | _=>none
   | _=>none
 | _=>none
theorem IC{s:Operand}{sz:Nat}{C:Prop}{b:Option (Sum Nat (Nat×List Nat))}{xs:List V}(h:TV A s sz=some (C,b,xs)):TW A s sz=some (C,iy b A,xs):=by
 have fin:∀ {C':Prop} {b':Option (Sum Nat (Nat×List Nat))} {xs':List V},some (C',b',xs')=some (C,b,xs)->some (C',iy b' A,xs')=some (C,iy b A,xs):=fun h=>by
  have h:=Option.some.inj h;have h1:=(Prod.mk.inj h).1;have h2:=(Prod.mk.inj (Prod.mk.inj h).2).1;have h3:=(Prod.mk.inj (Prod.mk.inj h).2).2;rw[h1,h2,h3]
 unfold TV at h
 unfold TW
 split at h
 exact fin h
 split at h
 rename_i e;(try simp only[e]);exact fin h
 rename_i e;(try simp only[e]);exact fin h
 rename_i e;(try simp only[e])
 split at h
 rename_i e2;(try simp only[e2]);exact fin h
 simp at h
 rename_i e;(try simp only[e])
 split at h
 rename_i e2;(try simp only[e2]);exact fin h
 simp at h
 simp at h
 simp at h
def oJ(s:Operand)(Sl El Hl:List Nat):Option (Sum Nat (Nat×List Nat))->Bool
 | none=>true
 | some (.inl t)=>Sl.contains t&&(match s with | .tmp q=>q==t||El.contains t | _=>false)
 | some (.inr (k,_))=>Hl.contains k
theorem DC{s:Operand} {sz:Nat} {C:Prop} {b:Option (Sum Nat (Nat×List Nat))} {xs:List V} {Sl El Hl:List Nat} (h:TV A s sz=some (C,b,xs)) (hb:oJ s Sl El Hl b=true)
 (h1:∀ t,s=.tmp t->A'.get t=A.get t) (h2:∀ t,t∈El->A'.get t=A.get t) (h3:∀ k,lk k A'.h=lk k A.h):TV A' s sz=some (C,b,xs):=by
 unfold TV at h ⊢
 split at h
 exact h
 rename_i t
 have hg:=h1 t rfl
 have hk:∀ k p,A'.at (.key k) p=A.at (.key k) p:=fun k p=>by simp only[AS.at,h3]
 simp only[hg,hk]
 split at h
 exact h
 exact h
 rename_i i I5 g o n c e
 split at h
 rename_i Me xs2 g2 o2 c2 e2
 have:A'.get i=A.get i:=by
  simp only[Option.some.injEq]at h
  obtain⟨_,h⟩:=Prod.mk.inj h;obtain⟨rfl,_⟩:=Prod.mk.inj h
  simp only[oJ,Bool.and_eq_true,Bool.or_eq_true,beq_iff_eq]at hb
  rcases hb.2 with q | q
  rw[<- q];exact hg
  exact h2 i (by simpa using q)
 simp only[this,e2];exact h
 simp at h
 exact h
 simp at h
 simp at h
def BF(P:Program)(N:Nat)(Sl El Hl:List Nat)(o:Oper)(A:AS)(z:Option (ZT P)):Option (Prop×(Nat×Nat×Nat->AS->AS)):=
 match o.op,o.dst with
 | .alloc T,some d=>match z with
   | some z=>match T==z.T&&Nat.blt d N&&Sl.contains d&&Hl.contains d with
     | true=>some (True,fun gh B=>⟨(d,.ptr (.key d) [] gh.1 0)::B.t,(d,(gh.1,z.v))::B.h⟩)
     | false=>none
   | none=>none
 | .call ⟨.builtin .append,⟨[s,x]⟩,⟨[T,T2]⟩⟩,some d=>match o.type==T&&Nat.blt d N&&Sl.contains d,mS P T T2 with
   | true,some t=>match TV A s t.sz,A.ev x with
     | some (C,b,xs),.sl _ ys=>match oJ s Sl El Hl b with
       | true=>some (C/\V.aG ys=false/\aL t.sz ys/\(xs.length+ys.length)*t.K6<=140737488355328,fun gh B=>(iy b B).put (some d) (.own t.sz (xs++ys) gh.1 gh.2.1 gh.2.2))
       | false=>none
     | none,.sl _ ys=>match Te A s t.sz with
       | some (C,xs)=>some ((C/\0<ys.length)/\V.aG ys=false/\aL t.sz ys/\(xs.length+ys.length)*t.K6<=140737488355328,fun gh B=>B.put (some d) (.own t.sz (xs++ys) gh.1 gh.2.1 gh.2.2))
       | none=>none
     | _,_=>none
   | _,_=>none
 | .load T x,some d=>match ti P T,A.ev x with
   | some i,.ptr (.key k) p g g'=>match A.at (.key k) p with
     | some (g2,Rg,u)=>match Nat.blt d N&&u.n==i.sz&&i.d.agg==u.isAgg&&Sl.contains d&&Hl.contains k with
       | true=>some ((g2,Rg)=(g,g'),fun _ B=>(B.setAt (.key k) p u.kill).put (some d) u)
       | false=>none
     | none=>none
   | _,_=>none
 | _,_=>none
theorem bW{k:Nat}{p:List Nat}{v:V}{t:Nat}:(B.setAt (.key k) p v).get t=B.get t:=by
 simp only[AS.setAt];split <;> rfl
theorem tE{k q:Nat}{p:List Nat}{v:V}(h:q≠k):lk q (B.setAt (.key k) p v).h=lk q B.h:=by
 simp only[AS.setAt];split
 simp only[lk];rw[if_neg h]
 rfl
theorem ic{k q:Nat}{p:List Nat}{v:V}{B':AS}(h:∀ k,lk k B.h=lk k B'.h):lk q (B.setAt (.key k) p v).h=lk q (B'.setAt (.key k) p v).h:=by
 simp only[AS.setAt]
 rw[<- h k]
 split
 simp only[lk];split
 rfl
 exact h q
 exact h q
theorem mz{B C:AS}{d:Option Nat}{v:V}(h:C6 B C):C6 (B.put d v) (C.put d v):=by
 cases d with
 | none=>exact h
 | some d'=>exact⟨fun t=>by rw[AS.aC,AS.aC];split
                            rfl
                            exact h.1 t,h.2⟩
theorem pq{k k0:Nat}{p:List Nat}{v:V}{gv:Nat×V}(h:k≠k0):C6 (AS.setAt ⟨B.t,(k,gv)::B.h⟩ (.key k0) p v) ⟨(B.setAt (.key k0) p v).t,(k,gv)::(B.setAt (.key k0) p v).h⟩:=by
 have e:lk k0 ((k,gv)::B.h)=lk k0 B.h:=by simp only[lk];rw[if_neg (Ne.symm h)]
 simp only[AS.setAt,e]
 split
 refine⟨fun _=>rfl,fun x=>?_⟩
 simp only[lk]
 by_cases c:x=k
 rw[if_pos c,if_neg (fun c2=>h (c.symm.trans c2)),if_pos c]
 rw[if_neg c,if_neg c]
 exact⟨fun _=>rfl,fun _=>rfl⟩
theorem tx{A B:AS}{k:Nat}{gv:Nat×V}{d:Nat}{v:V}(h:C6 A ⟨B.t,(k,gv)::B.h⟩):C6 (A.put (some d) v) ⟨(B.put (some d) v).t,(k,gv)::(B.put (some d) v).h⟩:=mz h
theorem HQ{Sl El Hl:List Nat}{o:Oper}{z:Option (ZT P)}{C:Prop}{U:Nat×Nat×Nat->AS->AS}(h:BF P N Sl El Hl o A z=some (C,U))(hC:C)(d:Nat)(hd:o.dst=some d):
 UOk U Sl Hl d/\KN P N ops El U o A:=by
 obtain⟨dst,op,ty,pos,after,C7⟩:=o
 simp only at hd;subst hd
 unfold BF at h
 simp only at h
 split at h
 rename_i T d' e
 simp only[Option.some.injEq]at e;subst e
 split at h
 rename_i z
 split at h
 rename_i e
 simp only[Option.some.injEq,Prod.mk.injEq]at h
 obtain⟨_,rfl⟩:=h
 simp only[Bool.and_eq_true,beq_iff_eq,List.contains_eq_mem,decide_eq_true_eq]at e
 obtain⟨⟨⟨rfl,e1⟩,e2⟩,e3⟩:=e
 refine⟨⟨fun gh B t ht=>?_,fun gh B k hk=>?_,fun gh B B' hB=>⟨fun t=>?_,fun k=>?_⟩,fun gh B t v ht=>⟨fun q=>?_,fun k=>rfl⟩,fun gh B v=>⟨fun q=>?_,fun k=>rfl⟩,fun gh B k gv hq=>?_⟩,fun A' _ _ K hK=>?_⟩
 simp only[AS.get,lk];rw[if_neg (fun c=>ht (by rw[c];exact e2))]
 simp only[lk];rw[if_neg (fun c=>hk (by rw[c];exact e3))]
 simp only[AS.get,lk];split
 rfl
 exact hB.1 t
 simp only[lk];split
 rfl
 exact hB.2 k
 simp only[AS.put,AS.get,lk]
 by_cases c:q=d
 subst c;rw[if_pos rfl,if_neg (fun c=>ht (by rw[<- c];exact e2)),if_pos rfl]
 rw[if_neg c,if_neg c]
 simp only[AS.put,AS.get,lk]
 by_cases c:q=d
 subst c;simp
 rw[if_neg c,if_neg c,if_neg c]
 refine⟨fun _=>rfl,fun x=>?_⟩
 simp only[lk]
 by_cases c:x=d
 rw[if_pos c,if_neg (fun c2=>hq (by rw[<- c2,c];exact e3)),if_pos c]
 rw[if_neg c,if_neg c]
 exact qu rfl rfl (bD e1) z.ok fun g=>hK (g,0,0)
 simp at h
 simp at h
 rename_i s x T T2 d' e
 simp only[Option.some.injEq]at e;subst e
 split at h
 rename_i t e1 e2
 split at h
 rename_i Cb b xs fl ys e3 e4
 split at h
 rename_i e5
 simp only[Option.some.injEq,Prod.mk.injEq]at h
 obtain⟨rfl,rfl⟩:=h
 simp only[Bool.and_eq_true,beq_iff_eq,List.contains_eq_mem,decide_eq_true_eq]at e1
 obtain⟨⟨rfl,e1⟩,e6⟩:=e1
 obtain⟨k1,k3,k4,k5⟩:=hC
 have tg:∀ (B:AS) t,t ∉ Sl->(iy b B).get t=B.get t:=fun B t ht=>by
  cases b with
  | none=>rfl
  | some b=>cases b with
    | inl q=>
      simp only[oJ,Bool.and_eq_true,List.contains_eq_mem,decide_eq_true_eq]at e5
      simp only[iy];rw[AS.aC,if_neg (fun c=>ht (by rw[c];exact e5.1))]
    | inr kp=>simp only[iy];exact bW
 have VF:∀ (B B':AS) t,B.get t=B'.get t->(iy b B).get t=(iy b B').get t:=fun B B' t ht=>by
  cases b with
  | none=>exact ht
  | some b=>cases b with
    | inl q=>simp only[iy];rw[AS.aC,AS.aC,ht]
    | inr kp=>simp only[iy];rw[bW,bW];exact ht
 have th:∀ (B B':AS) k,(∀ k,lk k B.h=lk k B'.h)->lk k (iy b B).h=lk k (iy b B').h:=fun B B' k hk=>by
  cases b with
  | none=>exact hk k
  | some b=>cases b with
    | inl q=>exact hk k
    | inr kp=>exact ic hk
 refine⟨⟨fun gh B q hq=>?_,fun gh B k hk=>?_,fun gh B B' hB=>?_,fun gh B q v hq=>⟨fun q2=>?_,fun k=>th _ _ k fun _=>rfl⟩,fun gh B v=>⟨fun q=>?_,fun k=>th _ _ k fun _=>rfl⟩,fun gh B k gv hq=>?_⟩,fun A' h1 h2 K hK=>?_⟩
 rw[AS.aC,if_neg (fun c=>hq (by rw[c];exact e6))];exact tg B q hq
 show lk k (iy b B).h=_
 cases b with
 | none=>rfl
 | some b=>cases b with
   | inl q=>rfl
   | inr kp=>
     obtain⟨k0,p0⟩:=kp
     simp only[oJ,List.contains_eq_mem,decide_eq_true_eq]at e5
     exact tE (fun c=>hk (by rw[c];exact e5))
 exact mz ⟨fun q=>VF _ _ q (hB.1 q),fun k=>th _ _ k hB.2⟩
 rw[AS.aC,AS.aC,AS.aC]
 by_cases c:q2=d
 subst c;rw[if_pos rfl,if_neg (fun c=>hq (by rw[<- c];exact e6)),if_pos rfl]
 rw[if_neg c]
 by_cases c2:q2=q
 subst c2;rw[if_pos rfl,tg _ _ hq,AS.aC,if_pos rfl]
 rw[if_neg c2,if_neg c];exact VF _ _ _ (by rw[AS.aC,if_neg c2])
 rw[AS.aC,AS.aC]
 by_cases c:q=d
 rw[if_pos c,if_pos c]
 rw[if_neg c,if_neg c];exact VF _ _ _ (by rw[AS.aC,if_neg c])
 refine tx ?_
 cases b with
 | none=>exact⟨fun _=>rfl,fun _=>rfl⟩
 | some b=>cases b with
   | inl q=>exact⟨fun _=>rfl,fun _=>rfl⟩
   | inr kp=>
     obtain⟨k0,p0⟩:=kp
     simp only[oJ,List.contains_eq_mem,decide_eq_true_eq]at e5
     exact pq (fun c=>hq (by rw[c];exact e5))
 obtain⟨e,e',q1,q2,q3,q4,q5,q6⟩:=iH e2
 have hs:∀ t,s=.tmp t->A'.get t=A.get t:=fun t ht=>h1 t (.inl (ej (by subst ht;simp[Op.operands,Call.operands])))
 have hx:A'.ev x=A.ev x:=bw fun t ht=>h1 t (.inl (ej (by subst ht;simp[Op.operands,Call.operands])))
 have PB:=IC (DC e3 e5 hs (fun t ht=>h1 t (.inr ht)) h2)
 exact AF rfl rfl rfl (bD e1) q1 q2 q3 (lS q4) q5 q6 PB k1 (by unfold Nt;rw[hx,e4]) trivial k3 k4 k5 fun g o1 c=>hK (g,o1,c)
 simp at h
 rename_i fl ys e3 e4
 split at h
 rename_i C0 xs e5
 simp only[Option.some.injEq,Prod.mk.injEq]at h
 obtain⟨rfl,rfl⟩:=h
 simp only[Bool.and_eq_true,beq_iff_eq,List.contains_eq_mem,decide_eq_true_eq]at e1
 obtain⟨⟨rfl,e1⟩,e6⟩:=e1
 obtain⟨⟨k1,k2⟩,k3,k4,k5⟩:=hC
 refine⟨⟨fun gh B q hq=>?_,fun gh B k hk=>rfl,fun gh B B' hB=>mz hB,fun gh B q v hq=>⟨fun q2=>?_,fun k=>rfl⟩,fun gh B v=>⟨fun q=>?_,fun k=>rfl⟩,fun gh B k gv hq=>⟨fun _=>rfl,fun _=>rfl⟩⟩,fun A' h1 h2 K hK=>?_⟩
 rw[AS.aC,if_neg (fun c=>hq (by rw[c];exact e6))]
 rw[AS.aC,AS.aC,AS.aC,AS.aC]
 by_cases c:q2=d
 subst c;rw[if_pos rfl,if_neg (fun c=>hq (by rw[<- c];exact e6)),if_pos rfl]
 rw[if_neg c,if_neg c]
 rw[AS.aC,AS.aC,AS.aC]
 split <;> rfl
 obtain⟨e,e',q1,q2,q3,q4,q5,q6⟩:=iH e2
 have hs:Te A' s t.sz=Te A s t.sz:=by
  cases s with
  | tmp q=>simp only[Te,h1 q (.inl (ej (by simp[Op.operands,Call.operands])))]
  | _=>rfl
 have hx:A'.ev x=A.ev x:=bw fun t ht=>h1 t (.inl (ej (by subst ht;simp[Op.operands,Call.operands])))
 exact zx rfl rfl rfl (bD e1) q1 q2 q3 (lS q4) q5 q6 (by rw[hs];exact e5) k1 k2 (by unfold Nt;rw[hx,e4]) trivial k3 k4 k5 fun g o1 c=>hK (g,o1,c)
 simp at h
 simp at h
 simp at h
 rename_i T x d' e
 simp only[Option.some.injEq]at e;subst e
 split at h
 rename_i i k p g g' e1 e2
 split at h
 rename_i g2 Rg u e3
 split at h
 rename_i e4
 simp only[Option.some.injEq]at h
 obtain⟨hq,rfl⟩:=Prod.mk.inj h
 subst hq
 obtain⟨rfl,rfl⟩:=Prod.mk.inj hC
 simp only[Bool.and_eq_true,beq_iff_eq,List.contains_eq_mem,decide_eq_true_eq]at e4
 obtain⟨⟨⟨⟨e4,e5⟩,e6⟩,e7⟩,e8⟩:=e4
 refine⟨⟨fun gh B q hq=>?_,fun gh B q hq=>?_,fun gh B B' hB=>?_,fun gh B q v hq=>⟨fun q2=>?_,fun k=>ic fun _=>rfl⟩,fun gh B v=>⟨fun q=>?_,fun k=>ic fun _=>rfl⟩,fun gh B k gv hq=>tx (pq (fun c=>hq (by rw[c];exact e8)))⟩,fun A' h1 h2 K hK=>?_⟩
 rw[AS.aC,if_neg (fun c=>hq (by rw[c];exact e7))];exact bW
 exact tE (fun c=>hq (by rw[c];exact e8))
 exact mz ⟨fun q=>by rw[bW,bW];exact hB.1 q,fun k=>ic hB.2⟩
 rw[AS.aC,AS.aC,AS.aC]
 by_cases c:q2=d
 subst c;rw[if_pos rfl,if_neg (fun c=>hq (by rw[<- c];exact e7)),if_pos rfl]
 rw[if_neg c]
 by_cases c2:q2=q
 subst c2;rw[if_pos rfl,bW,AS.aC,if_pos rfl]
 rw[if_neg c2,if_neg c,bW,bW,AS.aC,if_neg c2]
 rw[AS.aC,AS.aC]
 by_cases c:q=d
 rw[if_pos c,if_pos c]
 rw[if_neg c,if_neg c,bW,bW,AS.aC,if_neg c]
 have hx:A'.ev x=A.ev x:=bw fun t ht=>h1 t (.inl (ej (by subst ht;simp[Op.operands])))
 exact uE rfl rfl (bD e4) e1 (by rw[hx];exact e2) (by simp only[AS.at,h2];simpa only[AS.at] using e3) e5 e6 (hK (0,0,0))
 simp at h
 simp at h
 simp at h
 simp at h
end
end Go.Abs
namespace Go.Abs
open Go Go.RowKit
section
variable {P:Program} {N:Nat} {ops:Array Oper} {A A' A1 B:AS} {sp:Nat} {Sl El Hl:List Nat} {U:Nat×Nat×Nat->AS->AS}
theorem Hm{d:Option Nat}{xs:Array Operand}{J9:Array TypeId}{ty:TypeId}{pos:String}{after:Array Edge}(c:o8 P)(hd:cy N d)(hH:c.H=[])(k1:Mt (xs.toList.map A.cp) c.args=c.args)(k2:c.pre):
 nO P N ops ⟨d,.call { callee:=.value (.func c.f),args:=xs,argTypes:=J9 },ty,pos,after,none⟩ A c.res.er:=by
 have hc:=c.ok k2
 rw[hH]at hc
 have hp:=hc.Cs
 refine BT (Q:=fun r=>r=c.res) hd ?_ (fun r hr=>by rw[hr])
 refine⟨hp.1,fun w Pb cargs q1 q2=>?_⟩
 refine(hp.2 w Pb cargs q1 (by have:=oB _ c.args q2;rw[k1]at this;exact this)).mono ?_
 rintro e w' ⟨r,x,F,Pb',rfl,⟨H,q,_⟩,rest⟩
 exact⟨r,x,F,Pb',rfl,q,rest⟩
end
end Go.Abs
namespace Go.Abs
open Go Go.RowKit
def XK(A:AS)(l:List Nat)(k:Nat):List Nat->Bool
 | [i]=>Nat.blt i 100&&l.contains (hM+(100*k+i))&&(LX A.h (100*k+i)).isSome
 | _=>false
def T9(Hl prom:List Nat):Bool:=Hl.all fun x=>Nat.blt x hM||prom.contains (x-hM)
theorem uI{Hl prom:List Nat}{q:Nat}(h:T9 Hl prom=true)(hq:hM+q∈Hl):q∈prom:=by
 have:=List.all_eq_true.1 h _ hq
 rw[Bool.or_eq_true]at this
 rcases this with h | h
 exfalso
 have:hM+q<hM:=by simpa[Nat.blt_eq] using h
 omega
 rw[Nat.add_sub_cancel_left]at h
 simpa using h
def Cm(a b:List Nat):Bool:=a.all fun x=>b.contains x&&Nat.blt x hM
theorem It{a b:List Nat}{A A':AS}(h:Cm a b=true)(h2:Rj A' A (some b)):∀ k,k∈a->lk k A'.h=lk k A.h:=fun k hk=>by
 have:=List.all_eq_true.1 h k hk
 rw[Bool.and_eq_true]at this
 have h3:=h2 k (by simpa using this.1)
 unfold O7 at h3
 rw[if_pos this.2]at h3
 exact h3
theorem Dc{A:AS}{k i g o n:Nat}{v:V}(h:LX A.h (100*k+i)=some (g,o,v,n))(hi:i<100):∃ sz xs g1 o1 c,v=.own sz [] g1 o1 c/\n=xs.length/\A.at (.key k) [i]=some (g,o,.own sz xs g1 o1 c):=by
 unfold LX at h
 rw[show (100*k+i) / 100=k from Z9,show (100*k+i) % 100=i from Z9]at h
 split at h
 rename_i g0 v0 e
 split at h
 rename_i g' o' sz xs g1 o1 c e2
 simp only[Option.some.injEq,Prod.mk.injEq]at h
 obtain⟨rfl,rfl,rfl,rfl⟩:=h
 exact⟨sz,xs,g1,o1,c,rfl,rfl,by simp only[AS.at,e,e2]⟩
 cases h
 cases h
theorem IM{A A':AS}{k i g o:Nat}{T:TI}(h:LX A'.h (100*k+i)=LX A.h (100*k+i))(hi:i<100)(hs:(LX A.h (100*k+i)).isSome=true):
 kC A' (some T) (.ptr (.key k) [i] g o)=kC A (some T) (.ptr (.key k) [i] g o):=by
 obtain⟨⟨g1,o1,v,n⟩,e⟩:=Option.isSome_iff_exists.1 hs
 obtain⟨sz,xs,g2,o2,c,rfl,rfl,e1⟩:=Dc e hi
 obtain⟨I5,xs',Rg,o2',c',h1,h2,e2⟩:=Dc (h.trans e) hi
 cases h1
 simp only[kC,e1,e2,V.Pq,h2,V.n,V.isAgg]
def mg(El:List Nat)(fr:Option (List Nat))(A:AS):Op->Bool
 | .load _ x=>match A.ev x with
   | .ptr (.slot i) _ _ _=>El.contains i
   | .ptr (.key k) p _ _=>match fr with
     | none=>true
     | some l=>(Nat.blt k hM&&l.contains k)||XK A l k p
   | _=>true
 | _=>true
def eQ(A:AS):List Operand->List Nat
 | []=>[]
 | x::xs=>match x with
   | .tmp t=>match (A.get t).cW with
     | true=>t::eQ (A.drop x) xs
     | false=>eQ (A.drop x) xs
   | _=>eQ (A.drop x) xs
def jz(ts:List Nat)(A:AS):AS:=⟨ts.map (fun t=>(t,V.c9))++A.t,A.h⟩
def sub(a b:List Nat):Bool:=a.all fun x=>b.contains x
def vJ(ops:Array Oper)(tb:List (Nat×OM)){P:Program}(zs:List (Nat×ZT P))(i:Nat)(o:Oper):Bool:=
 (lk i zs).isNone&&!(bq ops tb i).UZ&&(bq ops tb i).Sl==o.dst.toList&&(bq ops tb i).Hl==[]
def nt(P:Program)(N:Nat)(ops:Array Oper)(tb:List (Nat×OM))(zs:List (Nat×ZT P)):Nat->List Nat->List V->AS->Option (Prop×AS)
 | 0,_,_,A=>some (True,A)
 | _+1,[],_,A=>some (True,A)
 | n+1,i::rest,w7,A=>
   match ops[i]? with
   | none=>none
   | some o=>match vJ ops tb zs i o with
     | false=>none
     | true=>match o.dst with
       | none=>none
       | some d=>if d<N then
         match o.guard with
         | some (j,b)=>match MR A ops j b with
           | some G=>match AS.un G (iv o.op) A with
             | (C0,B)=>match sY P B o.op w7 with
               | some (C,v,w7)=>if (Oy N (iv o.op)&&!v.gC&&mg (bq ops tb i).El (bq ops tb i).fr B o.op)=true then match nt P N ops tb zs n rest w7 (A.put (some d) (.gv G v)) with
                 | some (C',A')=>some ((G=true->C0/\C)/\C',A')
                 | none=>none else none
               | none=>none
           | none=>none
         | none=>match o.op with
           | .assign x=>if (A.ev x).cW=false then nt P N ops tb zs n rest w7 (A.put (some d) (A.ev x)) else none
           | op=>if mg (bq ops tb i).El (bq ops tb i).fr A op=true then match sY P A op w7 with
             | some (C,v,w7)=>match nt P N ops tb zs n rest w7 (A.put (some d) v) with
               | some (C',A')=>if lW op=true then some (C',A') else some (C/\C',A')
               | none=>none
             | none=>none else none
         else none
def nF(P:Program)(N:Nat)(ops:Array Oper)(tb:List (Nat×OM))(zs:List (Nat×ZT P)):Nat->List Nat->List V->AS->Option (List Prop×AS)
 | 0,_,_,A=>some ([],A)
 | _+1,[],_,A=>some ([],A)
 | n+1,i::rest,w7,A=>
   match ops[i]? with
   | none=>none
   | some o=>match vJ ops tb zs i o with
     | false=>none
     | true=>match o.dst with
       | none=>none
       | some d=>if d<N then
         match o.guard with
         | some (j,b)=>match MR A ops j b with
           | some G=>match Pt G (j,b) [] (iv o.op) A with
             | (C0,B)=>match sY P B o.op w7 with
               | some (C,v,w7)=>if (Oy N (iv o.op)&&!v.gC&&mg (bq ops tb i).El (bq ops tb i).fr B o.op)=true then match nF P N ops tb zs n rest w7 (A.put (some d) (.gv G v)) with
                 | some (C',A')=>some (C0++(if lW o.op=true then C' else (G=true->C)::C'),A')
                 | none=>none else none
               | none=>none
           | none=>none
         | none=>match o.op with
           | .assign x=>if (A.ev x).cW=false then nF P N ops tb zs n rest w7 (A.put (some d) (A.ev x)) else none
           | op=>if mg (bq ops tb i).El (bq ops tb i).fr A op=true then match sY P A op w7 with
             | some (C,v,w7)=>match nF P N ops tb zs n rest w7 (A.put (some d) v) with
               | some (C',A')=>if lW op=true then some (C',A') else some (C::C',A')
               | none=>none
             | none=>none else none
         else none
section
variable {P:Program} {N:Nat} {ops:Array Oper} {tb:List (Nat×OM)} {zs:List (Nat×ZT P)}
theorem pO:∀ (n:Nat) {l:List Nat} {w7:List V} {A A':AS} {cs:List Prop},nF P N ops tb zs n l w7 A=some (cs,A')->(∀ c,c∈cs->c)->∃ C,nt P N ops tb zs n l w7 A=some (C,A')/\C
 | 0,l,w7,A,A',cs,h,hc=>by
   simp only[nF,Option.some.injEq,Prod.mk.injEq]at h
   obtain⟨_,rfl⟩:=h
   exact⟨True,by simp only[nt],trivial⟩
 | n+1,[],w7,A,A',cs,h,hc=>by
   simp only[nF,Option.some.injEq,Prod.mk.injEq]at h
   obtain⟨_,rfl⟩:=h
   exact⟨True,by simp only[nt],trivial⟩
 | n+1,i::l,w7,A,A',cs,h,hc=>by
   unfold nF at h
   unfold nt
   split at h
   cases h
   rename_i o ho
   simp only[ho]
   split at h
   cases h
   rename_i hv
   split at h
   cases h
   rename_i d hd
   split at h
   case isFalse=>cases h
   rename_i Q7
   simp only[hd,if_pos Q7]
   split at h
   rename_i j b hg
   split at h
   rename_i G hG
   split at h
   rename_i C0 B hu
   split at h
   rename_i C v Nu hs
   split at h
   rename_i hk
   split at h
   rename_i C' A1 hr
   simp only[Option.some.injEq,Prod.mk.injEq]at h
   obtain⟨rfl,rfl⟩:=h
   obtain⟨C1,e1,e2⟩:=lT (iv o.op) (fun t ht=>by simp at ht) hu (fun c Qt=>hc c (List.mem_append_left _ Qt))
   obtain⟨C2,e3,e4⟩:=pO n hr (fun c Qt=>hc c (List.mem_append_right _ (by split <;> simp[Qt])))
   simp only[hG,e1,hs,if_pos hk,e3]
   refine⟨_,rfl,fun Ma=>⟨e2,?_⟩,e4⟩
   by_cases ht:lW o.op=true
   exact my ht hs
   exact hc (G=true->C) (List.mem_append_right _ (by rw[if_neg ht];exact List.mem_cons_self ..)) Ma
   cases h
   cases h
   cases h
   cases h
   · rename_i hg
     split at h
     rename_i x hx
     split at h
     rename_i ho
     obtain⟨C,e1,e2⟩:=pO n h hc
     simp only[hx,if_pos ho]
     exact⟨C,e1,e2⟩
     cases h
     · rename_i hx
       split at h
       case isFalse=>cases h
       rename_i Vf
       split at h
       rename_i C v Nu hs
       split at h
       rename_i C' A1 hr
       have key:(∀ c,c∈C'->c)/\C/\A1=A':=by
        split at h
        rename_i ht
        simp only[Option.some.injEq,Prod.mk.injEq]at h
        obtain⟨rfl,rfl⟩:=h
        exact⟨hc,my ht hs,rfl⟩
        simp only[Option.some.injEq,Prod.mk.injEq]at h
        obtain⟨rfl,rfl⟩:=h
        exact⟨fun c Qt=>hc c (List.mem_cons_of_mem _ Qt),hc _ (List.mem_cons_self ..),rfl⟩
       obtain⟨k1,k2,rfl⟩:=key
       obtain⟨C2,e3,e4⟩:=pO n hr k1
       simp only[if_pos Vf,hs,e3]
       split
       exact⟨_,rfl,e4⟩
       exact⟨_,rfl,k2,e4⟩
       cases h
       cases h
end
def jy(d:Option Nat)(ts:List Nat)(ks:List (Nat×Nat))(r:V)(H:List (Nat×(Nat×V)))(A:AS):AS:=((jz ts A).back ks H).put d r
def L0{P:Program}(N:Nat)(ops:Array Oper)(tb:List (Nat×OM))(zs:List (Nat×ZT P)):Sc P->List Nat->AS->(AS->Sc P->Prop)->Prop
 | s,[],A,K=>K A s
 | .r n w7 k,l,A,K=>match nF P N ops tb zs n l w7 A with
   | some (C,A')=>cj C (L0 N ops tb zs k (l.drop n) A' K)
   | none=>False
 | .h x k,i::l,A,K=>match x with
   | .o5 t v=>A.get t=v/\L0 N ops tb zs k (i::l) (A.put (some t) v) K
   | .A6 q v=>match lk q A.h with
     | some (g,u)=>u=v/\L0 N ops tb zs k (i::l) ⟨A.t,(q,(g,v))::A.h⟩ K
     | none=>False
   | _=>False
 | .ua k,i::l,A,K=>match ops[i]?,lk i zs with
   | some o,some z=> ∀ g,L0 N ops tb zs (k g) l (NC (o.dst.getD 0) z.v g A) K
   | _,_=>False
 | .cg c k,i::l,A,K=>match ops[i]?,lk i zs with
   | some o,none=>match vJ ops tb zs i o,o.op,o.guard with
     | true,.call ⟨.value (.func f),xs,_⟩,some (j,b)=>match f==c.f&&NA N o.dst&&Oy N xs.toList&&!c.res.er.gC&&!c.res.er.cW,c.H,MR A ops j b with
       | true,[],some G=>match Pt G (j,b) [] xs.toList A with
         | (C,B)=>cj C ((G=true->c.pre/\Mt (xs.toList.map B.cp) c.args=c.args)/\L0 N ops tb zs k l (A.put o.dst (.gv G c.res.er)) K)
       | _,_,_=>False
     | _,_,_=>False
   | _,_=>False
 | s,i::l,A,K=>match ops[i]?,lk i zs with
   | none,_=>False
   | _,some _=>False
   | some o,none=>match o.guard with
     | some _=>False
     | none=>match (bq ops tb i).UZ with
       | false=>match vJ ops tb zs i o with
         | true=>match s with
           | .c c _ k=>match o.op with
             | .call ⟨.value (.func f),xs,_⟩=>match f==c.f&&NA N o.dst,c.H with
               | true,[]=>Mt (xs.toList.map A.cp) c.args=c.args/\c.pre/\L0 N ops tb zs k l (A.put o.dst c.res.er) K
               | _,_=>False
             | _=>False
           | .bd z k=>match o.op with
             | .build T b9=>match T==z.T&&NA N o.dst,z.v with
               | true,.agg us=>match lR P A T us b9.toList with
                 | some v=>L0 N ops tb zs k l (A.put o.dst v) K
                 | none=>False
               | _,_=>False
             | _=>False
           | .bs k=>match o.op with
             | .buildSlice T len b9=>match tD P T with
               | some (.sl e)=>match ti P e,eJ A 0 b9.toList with
                 | some t,some vs=>match QR P T e len t vs&&NA N o.dst with
                   | true=>L0 N ops tb zs k l (A.put o.dst (.sl true vs)) K
                   | false=>False
                 | _,_=>False
               | _=>False
             | _=>False
           | .mm k=>match o.op with
             | .call ⟨.builtin b,⟨[x,y]⟩,_⟩=>match A.ev x,A.ev y,NA N o.dst,b with
               | .lit (.int kd p),.lit (.int P1 q),true,.max=>P1=kd/\L0 N ops tb zs k l (A.put o.dst (.lit (.int kd (max p q)))) K
               | .lit (.int kd p),.lit (.int P1 q),true,.min=>P1=kd/\L0 N ops tb zs k l (A.put o.dst (.lit (.int kd (min p q)))) K
               | _,_,_,_=>False
             | _=>False
           | .K6 bs k=>match o.op with
             | .convert src dst x=>match zb P src&&isStr P dst&&NA N o.dst,A.ev x with
               | true,.sl _ ys=>ys=bs.map n6/\L0 N ops tb zs k l (A.put o.dst (sV bs)) K
               | _,_=>False
             | _=>False
           | _=>False
         | false=>False
       | true=>match s with
         | .ux z k=>match BF P N (bq ops tb i).Sl (bq ops tb i).El (bq ops tb i).Hl o A z,(bq ops tb i).fr,T9 (bq ops tb i).Hl [] with
           | some (C,U),none,true=>C/\∀ g o1 c,L0 N ops tb zs (k g o1 c) l (U (g,o1,c) A) K
           | _,_,_=>False
         | .eu c k=>match (bq ops tb i).fr,T9 (bq ops tb i).Hl c.prom with
           | none,true=>c.pre N o A (bq ops tb i).Sl (bq ops tb i).Hl/\∀ x,L0 N ops tb zs (k x) l (c.U o A x A) K
           | _,_=>False
         | .c c ks k=>match o.op with
           | .call ⟨.value fx,xs,_⟩=>match A.ev fx,A.tk xs.toList,(bq ops tb i).fr with
             | .lit (.func (.func f) first w9),(vs,_),some fl=>
               match f==c.f&&NA N o.dst&&Mf (ks.map (·.1))&&Mf (ks.map (·.2))&&c.args.length==(first.toList.map cV++vs++w9.toList.map cV).length&&
                sub (eQ A xs.toList) (bq ops tb i).Sl&&sub o.dst.toList (bq ops tb i).Sl&&sub (ks.map (·.2)) (bq ops tb i).Hl&&Cm (ks.map (·.2)) fl&&T9 (bq ops tb i).Hl [] with
               | true=>Mt (first.toList.map cV++vs++w9.toList.map cV) c.args=c.args/\mM A ks c.H (c.pre/\L0 N ops tb zs k l (jy o.dst (eQ A xs.toList) ks (c.res.Ns (kA ks)) c.H' A) K)
               | false=>False
             | _,_,_=>False
           | _=>False
         | .cx c ks k=>match o.op with
           | .call ⟨.value fx,xs,_⟩=>match A.ev fx,A.tk xs.toList,(bq ops tb i).fr with
             | .lit (.func (.func f) first w9),(vs,_),some fl=>
               match f==c.f&&NA N o.dst&&Mf (ks.map (·.1))&&Mf (ks.map (·.2))&&c.args.length==(first.toList.map cV++vs++w9.toList.map cV).length&&
                sub (eQ A xs.toList) (bq ops tb i).Sl&&sub o.dst.toList (bq ops tb i).Sl&&sub (ks.map (·.2)) (bq ops tb i).Hl&&Cm (ks.map (·.2)) fl&&T9 (bq ops tb i).Hl [] with
               | true=>Mt (first.toList.map cV++vs++w9.toList.map cV) c.args=c.args/\mM A ks c.H (c.pre/\∀ x,c.post x->L0 N ops tb zs (k x) l (jy o.dst (eQ A xs.toList) ks ((c.res x).Ns (kA ks)) (c.H' x) A) K)
               | false=>False
             | _,_,_=>False
           | _=>False
         | _=>False
section
variable {P:Program} {N:Nat} {ops:Array Oper} {A A' A1 B:AS} {tb:List (Nat×OM)} {zs:List (Nat×ZT P)}
theorem nP{ts:List Nat}{t:Nat}:(jz ts A).get t=if t∈ts then .c9 else A.get t:=by
 induction ts with
 | nil=>simp[jz]
 | cons a ts ih=>
   simp only[jz,AS.get,List.map_cons,List.cons_append,lk]at ih ⊢
   by_cases e:t=a
   rw[if_pos e,if_pos (by simp[e])];rfl
   rw[if_neg e,ih]
   by_cases e2:t∈ts
   rw[if_pos e2,if_pos (by simp[e2])]
   rw[if_neg e2,if_neg (by simp[e,e2])]
theorem tB:∀ (xs:List Operand) {A:AS},C6 (A.tk xs).2 (jz (eQ A xs) A)
 | [],A=>⟨fun _=>rfl,fun _=>rfl⟩
 | x::xs,A=>by
   have ih:=tB xs (A:=A.drop x)
   simp only[AS.tk]
   have e:(match (A.drop x).tk xs with | (vs,B)=>((T6 (A.ev x)::vs,B):List V×AS)).2=((A.drop x).tk xs).2:=rfl
   rw[e]
   have hh:(A.drop x).h=A.h:=by
    cases x with
    | tmp t=>simp only[AS.drop];split <;> rfl
    | _=>rfl
   refine⟨fun q=>?_,fun k=>by rw[ih.2 k];simp only[jz,hh]⟩
   rw[ih.1 q,nP,nP]
   cases x with
   | tmp t=>
     cases ho:(A.get t).cW with
     | true=>
       have ed:A.drop (.tmp t)=A.put (some t) .c9:=by simp[AS.drop,ho]
       have eo:eQ A (.tmp t::xs)=t::eQ (A.drop (.tmp t)) xs:=by simp only[eQ,ho]
       simp only[eo,ed,List.mem_cons]
       by_cases c:q=t
       subst c
       simp only[true_or,if_true]
       split
       rfl
       rw[AS.aC,if_pos rfl]
       by_cases c2:q∈eQ (A.put (some t) .c9) xs
       rw[if_pos c2,if_pos (.inr c2)]
       rw[if_neg c2,if_neg (by simp[c,c2]),AS.aC,if_neg c]
     | false=>
       have ed:A.drop (.tmp t)=A:=by simp[AS.drop,ho]
       have eo:eQ A (.tmp t::xs)=eQ (A.drop (.tmp t)) xs:=by simp only[eQ,ho]
       simp only[eo,ed]
   | _=>rfl
theorem BU{x:Operand}(h:∀ t,x=.tmp t->A'.get t=A.get t){q:Nat}(hq:A'.get q=A.get q):(A'.drop x).get q=(A.drop x).get q:=by
 cases x with
 | tmp t=>
   simp only[AS.drop,h t rfl]
   split
   rw[AS.aC,AS.aC];split
   rfl
   exact hq
   exact hq
 | _=>exact hq
theorem tc:∀ (xs:List Operand) {A A':AS},(∀ t,Operand.tmp t∈xs->A'.get t=A.get t)->(A'.tk xs).1=(A.tk xs).1/\eQ A' xs=eQ A xs
 | [],A,A',_=>⟨rfl,rfl⟩
 | x::xs,A,A',h=>by
   have hx:∀ t,x=.tmp t->A'.get t=A.get t:=fun t e=>h t (by simp[e])
   have ih:=tc xs (A:=A.drop x) (A':=A'.drop x) fun t ht=>BU hx (h t (by simp[ht]))
   refine⟨?_,?_⟩
   show T6 (A'.ev x)::((A'.drop x).tk xs).1=T6 (A.ev x)::((A.drop x).tk xs).1
   rw[ih.1,bw (x:=x) hx]
   cases x with
   | tmp t=>simp only[eQ,hx t rfl,ih.2]
   | _=>simp only[eQ];exact ih.2
theorem Fe{ks:List (Nat×Nat)}{H:List (Nat×(Nat×V))}{t:Nat}:(A.back ks H).get t=A.get t:=rfl
theorem Ap{ks:List (Nat×Nat)}{H:List (Nat×(Nat×V))}{k:Nat}(hn:Mf (ks.map (·.2))=true)(hk:k ∉ ks.map (·.2)):lk k (A.back ks H).h=lk k A.h:=by
 have hs:lk k (Nr ks)=none:=mu (by simpa[Nr,List.map_map,Function.comp_def] using hk)
 simp only[AS.back]
 rw[kY,oS hn,hs]
 simp only[Option.bind_none]
 rw[il,hs];rfl
theorem ph{ks:List (Nat×Nat)}{H:List (Nat×(Nat×V))}(h:∀ k,lk k A.h=lk k B.h)(k:Nat):lk k (A.back ks H).h=lk k (B.back ks H).h:=by
 simp only[AS.back]
 rw[kY,kY,il,il,h]
theorem Kr{ks:List (Nat×Nat)}{k q:Nat}(h:lk k ks=some q):q∈ks.map (·.2):=List.mem_map.2 ⟨_,tZ h,rfl⟩
theorem lX{ks:List (Nat×Nat)}(h:∀ k,k∈ks.map (·.2)->lk k B.h=lk k A.h):∀ {H:List (Nat×(Nat×V))},kO A ks H->kO B ks H
 | [],_=>trivial
 | (k,(g,v))::H,hr=>by
   refine⟨?_,lX h hr.2⟩
   have:=hr.1
   split at this
   rename_i q e
   rw[h q (Kr e)];exact this
   exact this.elim
theorem iS{d:Option Nat}{ts:List Nat}{ks:List (Nat×Nat)}{r:V}{H:List (Nat×(Nat×V))}{t:Nat}:(jy d ts ks r H A).get t=if d=some t then r else if t∈ts then .c9 else A.get t:=by
 unfold jy
 cases d with
 | none=>rw[if_neg Z8];exact nP
 | some d=>
   rw[AS.aC,Fe,nP]
   by_cases e:t=d
   subst e;rw[if_pos rfl,if_pos rfl]
   have e2: ¬ (some d=some t):=fun c=>e (by simpa using c.symm)
   rw[if_neg e,if_neg e2]
theorem jJ{d:Option Nat}{ts:List Nat}{ks:List (Nat×Nat)}{r:V}{H:List (Nat×(Nat×V))}:(jy d ts ks r H A).h=(A.back ks H).h:=by
 unfold jy;rw[nL];rfl
theorem yy{G:Type} {d:Option Nat} {ts:List Nat} {ks:List (Nat×Nat)} {r:G->V} {H:G->List (Nat×(Nat×V))} {fs Sl Hl:List Nat} (hn:Mf (ks.map (·.2))=true)
 (h1:sub ts Sl=true) (h2:sub d.toList Sl=true) (h3:sub (ks.map (·.2)) Hl=true):QC (fun g B=>jy d ts ks (r g) (H g) B) fs Sl Hl:=by
 have sb:∀ {a b:List Nat},sub a b=true->∀ x,x∈a->x∈b:=fun h x hx=>by
  unfold sub at h;rw[List.all_eq_true]at h;simpa using h x hx
 have h1:=sb h1;have h2:=sb h2;have h3:=sb h3
 refine⟨fun g B t ht=>?_,fun g B k hk=>?_,fun g B B' hB=>⟨fun t=>?_,fun k=>?_⟩,fun g B t v ht _=>⟨fun q=>?_,fun k=>?_⟩,fun g B k gv hk=>⟨fun t=>?_,fun x=>?_⟩⟩
 rw[iS,if_neg (fun c=>ht (h2 t (by rw[c];simp))),if_neg (fun c=>ht (h1 t c))]
 rw[jJ];exact Ap hn (fun c=>hk (h3 k c))
 rw[iS,iS,hB.1 t]
 rw[jJ,jJ];exact ph hB.2 k
 rw[iS,AS.aC,AS.aC,iS]
 by_cases c:q=t
 subst c;rw[if_pos rfl,if_pos rfl,if_neg (fun c=>ht (h2 q (by rw[c];simp))),if_neg (fun c=>ht (h1 q c))]
 rw[if_neg c,if_neg c]
 rw[jJ];show _=lk k (jy d ts ks (r g) (H g) B).h;rw[jJ];rfl
 show (jy d ts ks (r g) (H g) _).get t=(jy d ts ks (r g) (H g) B).get t
 rw[iS,iS];rfl
 rw[jJ,jJ]
 have hs:lk k (Nr ks)=none:=mu (by simpa[Nr,List.map_map,Function.comp_def] using fun c=>hk (h3 k c))
 simp only[AS.back]
 rw[kY,il]
 simp only[lk]
 by_cases c:x=k
 subst c
 rw[if_pos rfl,if_pos rfl,oS hn,hs];rfl
 rw[if_neg c,if_neg c,kY,il]
theorem rC{i:Nat}{o:Oper}{t:Nat}(ho:ops[i]? =some o)(h:Operand.tmp t∈o.op.operands.toList):t∈fC ops tb i:=by
 unfold fC;rw[ho,List.mem_append];exact .inl (ej h)
theorem uL{i:Nat}{o:Oper}{t:Nat}(ho:ops[i]? =some o)(h:t∈o.looksAt ops):t∈fC ops tb i:=by
 unfold fC;rw[ho,List.mem_append];exact .inl h
theorem BQ{i:Nat}{t:Nat}(h:t∈(bq ops tb i).El):t∈fC ops tb i:=by
 unfold fC;rw[List.mem_append];exact .inr h
theorem yn{i:Nat} {d:Option Nat} {fx:Operand} {xs:Array Operand} {J9:Array TypeId} {ty:TypeId} {pos:String} {after:Array Edge} {f:FuncId} {first w9:Array Value} {args:List V} {H:List (Nat×(Nat×V))} {ks:List (Nat×Nat)}
 {G:Type} {res:G->V} {H':G->List (Nat×(Nat×V))}
 (ho:ops[i]? =some ⟨d,.call ⟨.value fx,xs,J9⟩,ty,pos,after,none⟩) (Wz:A.ev fx=.lit (.func (.func f) first w9)) (hd:cy N d) (O3:Mf (ks.map (·.1))=true) (LZ:Mf (ks.map (·.2))=true)
 (hc:PF P f args H (fun r h=> ∃ g,r=res g/\h=H' g)) (hargs:Mt (first.toList.map cV++(A.tk xs.toList).1++w9.toList.map cV) args=args) (hlen:args.length=(first.toList.map cV++(A.tk xs.toList).1++w9.toList.map cV).length)
 (hr:kO A ks H) {fl:List Nat} (hfl:Cm (ks.map (·.2)) fl=true):TY P N ⟨d,.call ⟨.value fx,xs,J9⟩,ty,pos,after,none⟩ A (fun g B=>jy d (eQ A xs.toList) ks ((res g).Ns (kA ks)) (H' g) B) (fC ops tb i) (some fl):=by
 refine⟨rfl,fun A' h1 h2=>?_⟩
 have S9:A'.ev fx=A.ev fx:=bw fun t ht=>h1 t (rC ho (by subst ht;simp[Op.operands,Call.operands]))
 obtain⟨t1,t2⟩:=tc xs.toList (A:=A) (A':=A') fun t ht=>h1 t (rC ho (by simp only[Op.operands,Call.operands];simp;right;simpa using ht))
 have RT:=tB xs.toList (A:=A')
 refine nB (A:=A') ks rfl (by rw[S9];exact Wz) hd O3 LZ hc (by rw[t1];exact hargs) (by rw[t1];exact hlen) (lX (fun k hk=>(RT.2 k).trans (It hfl h2 k hk)) hr) ?_
 rintro r H0 ⟨g,rfl,rfl⟩
 refine⟨g,?_⟩
 unfold jy
 rw[<- t2]
 exact JZ ⟨fun t=>RT.1 t,fun k=>ph RT.2 k⟩
theorem uJ{El:List Nat} {fr:Option (List Nat)} {op:Op} (h:∀ t,Operand.tmp t∈op.operands.toList->A'.get t=A.get t) (hk:Rj A' A fr) (hr:∀ i,i∈El->A'.get i=A.get i)
 (hf:mg El fr A op=true):G5 P A' op=G5 P A op:=by
 cases op with
 | move x=>simp only[G5,NF,Bp,kP (x:=x) fun t e=>h t (by simp[Op.operands,e]),bw (x:=x) fun t e=>h t (by simp[Op.operands,e])]
 | pick c a b=>
   have h1:=bw (x:=c) fun t e=>h t (by simp[Op.operands,e])
   have h2:=bw (x:=a) fun t e=>h t (by simp[Op.operands,e])
   have h3:=bw (x:=b) fun t e=>h t (by simp[Op.operands,e])
   simp only[G5,NF,Cq,h1,h2,h3]
 | binOp op T x y T'=>simp only[G5,NF,bw (x:=x) fun t e=>h t (by simp[Op.operands,e]),bw (x:=y) fun t e=>h t (by simp[Op.operands,e])]
 | unOp op T x=>simp only[G5,NF,bw (x:=x) fun t e=>h t (by simp[Op.operands,e])]
 | convert s d x=>simp only[G5,NF,bw (x:=x) fun t e=>h t (by simp[Op.operands,e])]
 | index T x y=>simp only[G5,NF,bw (x:=x) fun t e=>h t (by simp[Op.operands,e]),bw (x:=y) fun t e=>h t (by simp[Op.operands,e])]
 | slice T x lo hi m=>
   have h1:=bw (x:=x) fun t e=>h t (by simp[Op.operands,e])
   have h2:=uV (x:=lo) fun t e=>h t (by simp[Op.operands,e])
   have h3:=uV (x:=hi) fun t e=>h t (by simp[Op.operands,e])
   cases m with
   | none=>simp only[G5,h1,h2,h3]
   | some m=>rfl
 | extract x i=>simp only[G5,NF,bw (x:=x) fun t e=>h t (by simp[Op.operands,e])]
 | call c=>
   simp only[G5,NF,uc]
   split
   split
   rename_i x T hx _
   rw[bw (x:=x) fun t e=>h t (by simp[Op.operands,Call.operands,hx,e])]
   rfl
   split
   rename_i x y hx
   rw[bw (x:=x) fun t e=>h t (by simp[Op.operands,Call.operands,hx,e]),bw (x:=y) fun t e=>h t (by simp[Op.operands,Call.operands,hx,e])]
   rfl
   rfl
 | fieldAddr T x j=>simp only[G5,bw (x:=x) fun t e=>h t (by simp[Op.operands,e])]
 | field T x j=>simp only[G5,kP (x:=x) fun t e=>h t (by simp[Op.operands,e])]
 | indexAddr T x y=>simp only[G5,bw (x:=x) fun t e=>h t (by simp[Op.operands,e]),bw (x:=y) fun t e=>h t (by simp[Op.operands,e])]
 | load T x=>
   have h1:=bw (x:=x) fun t e=>h t (by simp[Op.operands,e])
   simp only[G5,h1,kC]
   split
   split
   rename_i r p g o e
   cases r with
   | key k=>
     have:lk k A'.h=lk k A.h\/∃ i,p=[i]/\i<100/\LX A'.h (100*k+i)=LX A.h (100*k+i)/\(LX A.h (100*k+i)).isSome=true:=by
      cases fr with
      | none=>exact .inl (hk k)
      | some l=>
        simp only[mg,e,Bool.or_eq_true,Bool.and_eq_true]at hf
        rcases hf with ⟨c1,c2⟩ | hf
        have h3:=hk k (by simpa using c2)
        unfold O7 at h3
        rw[if_pos c1]at h3
        exact .inl h3
        unfold XK at hf
        split at hf
        rename_i i
        simp only[Bool.and_eq_true]at hf
        refine .inr ⟨i,rfl,by simpa[Nat.blt_eq] using hf.1.1,?_,hf.2⟩
        have h3:=hk _ (by simpa using hf.1.2)
        unfold O7 at h3
        rw[if_neg (by simp[Nat.blt_eq]),Nat.add_sub_cancel_left]at h3
        exact h3
        cases hf
     rcases this with e2 | ⟨i,rfl,c1,c2,c3⟩
     simp only[AS.at,e2]
     have:=IM (T:=by assumption) (g:=g) (o:=o) c2 c1 c3
     simpa only[kC] using this
   | slot i=>
     have:A'.at (.slot i) p=A.at (.slot i) p:=by
      unfold AS.at
      simp only[mg,e,List.contains_eq_mem,decide_eq_true_eq]at hf
      simp only[hr i hf]
     rw[this]
   rfl
   rfl
   rfl
 | nilCheck x=>simp only[G5,bw (x:=x) fun t e=>h t (by simp[Op.operands,e])]
 | makeInterface T x=>simp only[G5,kP (x:=x) fun t e=>h t (by simp[Op.operands,e])]
 | typeAssert x xT T b=>
   cases b with
   | true=>simp only[G5,bw (x:=x) fun t e=>h t (by simp[Op.operands,e])]
   | false=>rfl
 | makeFunc fn p q=>
   have e1:p.toList.map A'.ev=p.toList.map A.ev:=List.map_congr_left fun x hx=>bw fun t e=>h t (by subst e;simp only[Op.operands,Array.toList_append,List.mem_append];exact .inl hx)
   have e2:q.toList.map A'.ev=q.toList.map A.ev:=List.map_congr_left fun x hx=>bw fun t e=>h t (by subst e;simp only[Op.operands,Array.toList_append,List.mem_append];exact .inr hx)
   simp only[G5,e1,e2]
 | _=>rfl
theorem lg{i:Nat}{o:Oper}{v:V}{fr:Option (List Nat)}(ho:ops[i]? =some o)(h:nO P N ops o A v):Rl P N ops o A v (fC ops tb i) fr:=fun A' h1 _=>h A' fun t ht=>h1 t (uL ho ht)
theorem An{i:Nat}{o:Oper}{C:Prop}{v:V}{fr:Option (List Nat)}(ho:ops[i]? =some o)(hg:o.guard=none)(h:G5 P A o.op=some (C,v))(hC:C)(hd:cy N o.dst)(hf:mg (bq ops tb i).El fr A o.op=true):Rl P N ops o A v (fC ops tb i) fr:=by
 intro A' h1 hk
 unfold gd
 rw[hg]
 simp only
 refine vS (C:=C) (v:=v) ?_ hC hd ⟨fun _=>rfl,fun _=>rfl⟩
 rw[uJ (A:=A) (fun t ht=>h1 t (rC ho ht)) hk (fun i hi=>h1 i (BQ hi)) hf]
 exact h
theorem DQ{i:Nat} {o:Oper} {xs:List Operand} {j:Nat} {b G:Bool} {C:Prop} {B:AS} {v:V} {fr:Option (List Nat)} (ho:ops[i]? =some o) (hg:o.guard=some (j,b)) (hG:MR A ops j b=some G) (hu:AS.un G xs A=(C,B))
 (QX:∀ t,Operand.tmp t∈xs->Operand.tmp t∈o.op.operands.toList) (Mn:Oy N xs=true) (hd:cy N o.dst) (hf:mg (bq ops tb i).El fr B o.op=true) (hC:G=true->C/\v.gC=false/\∃ C',G5 P B o.op=some (C',v)/\C'):Rl P N ops o A (.gv G v) (fC ops tb i) fr:=by
 intro A' h1 hk
 have OJ:MR A' ops j b=some G:=by
  rw[<- hG]
  unfold MR
  cases hj:(ops[j]?).bind (·.dst) with
  | none=>rfl
  | some d=>
    simp only[Option.map_some]
    rw[h1 d (uL ho (by unfold Oper.looksAt;rw[List.mem_append];right;rw[hg];simp[hj]))]
 obtain⟨B',k1,k2,k3,k4⟩:=jG xs (A':=A') hu (fun t ht=>h1 t (rC ho (QX t ht)))
 have K1:G5 P B' o.op=G5 P B o.op:=by
  refine uJ (A:=B) (fun t ht=>k2 t (h1 t (rC ho ht))) ?_ (fun i hi=>k2 i (h1 i (BQ hi))) hf
  cases fr with
  | none=>exact fun k=>by rw[k3,k4];exact hk k
  | some l=>exact fun k hl=>(uF (A:=A') (fun k=>by rw[k3]) k).trans ((hk k hl).trans (uF (fun k=>by rw[k4]) k))
 refine pY hg OJ (fun Ma=>?_) (fun R3=>⟨hd,fun _ _=>⟨rfl,(fun h=>by rw[R3]at h;cases h),fun _=>rfl⟩⟩)
 obtain⟨c1,c3,C',x7,c2⟩:=hC Ma
 rw[<- K1]at x7
 refine iB (v:=.gv G v) hd ⟨fun _=>rfl,fun _=>rfl⟩ fun Pb Kb a w F hs=>?_
 obtain⟨F',x8⟩:=jI Ma _ k1 c1 hs (oQ Mn)
 obtain⟨x,hx,hr⟩:=vt x7 c2 x8 rfl
 exact⟨x,hx,rfl,fun _=>za hr c3,fun h=>by rw[Ma]at h;cases h⟩
theorem CA{i:Nat} {d:Option Nat} {f:FuncId} {xs:Array Operand} {J9:Array TypeId} {ty:TypeId} {pos:String} {after:Array Edge}
 {j:Nat} {b G:Bool} {C:Prop} {B:AS} {E:V} {fr:Option (List Nat)} (ho:ops[i]? =some ⟨d,.call ⟨.value (.func f),xs,J9⟩,ty,pos,after,some (j,b)⟩) (hd:cy N d) (hG:MR A ops j b=some G) (hu:AS.un G xs.toList A=(C,B)) (Mn:Oy N xs.toList=true)
 (hc:G=true->C/\PC P f (xs.toList.map B.cp) (fun r=>r.er=E)/\E.gC=false/\E.cW=false):Rl P N ops ⟨d,.call ⟨.value (.func f),xs,J9⟩,ty,pos,after,some (j,b)⟩ A (.gv G E) (fC ops tb i) fr:=by
 intro A' h1 hk
 have OJ:MR A' ops j b=some G:=by
  rw[<- hG]
  unfold MR
  cases hj:(ops[j]?).bind (·.dst) with
  | none=>rfl
  | some d=>
    simp only[Option.map_some]
    rw[h1 d (uL ho (by unfold Oper.looksAt;rw[List.mem_append];right;simp[hj]))]
 have hx:∀ t,Operand.tmp t∈xs.toList->A'.get t=A.get t:=fun t ht=>h1 t (rC ho (by simp[Op.operands,Call.operands];simpa using ht))
 obtain⟨B',k1,k2,k3,k4⟩:=jG xs.toList (A':=A') hu hx
 refine pY (j:=j) (b:=b) rfl OJ (fun Ma=>?_) (fun R3=>⟨hd,fun _ _=>⟨rfl,(fun h=>by rw[R3]at h;cases h),fun _=>rfl⟩⟩)
 obtain⟨c1,c2,c3,c4⟩:=hc Ma
 rw[<- qF (A':=B') (A:=B) fun t ht=>k2 t (hx t ht)]at c2
 intro Pb Kb a w F Q' hs
 obtain⟨F',x8⟩:=jI Ma _ k1 c1 hs (oQ Mn)
 have hw:=mX Ma _ k1 c1
 have I7:=nX (N:=N) (o:=⟨d,.call { callee:=.value (.func f),args:=xs,argTypes:=J9 },ty,pos,after,some (j,b)⟩) (K:=fun A1=>A1=B'.put d E) (A:=B') rfl hd c2 (fun _ h=>h) rfl
 refine Oper.wp_mono ?_ (I7 Pb Kb a w F' Q' x8)
 rintro a' w' ⟨A1,Pb',C9,F2,rfl,J5,q3,q4,q5,q6⟩
 refine⟨A'.put d (.gv G E),Pb',C9,F2,⟨fun _=>rfl,fun _=>rfl⟩,J5.wrap ?_,q3,q4,q5,q6⟩
 cases d with
 | none=>exact hw
 | some d=>
   refine⟨fun i=>?_,hw.2⟩
   rw[AS.aC,AS.aC]
   by_cases e:i=d
   rw[if_pos e,if_pos e];exact .inr ⟨G,rfl,Ma,c4,c3⟩
   rw[if_neg e,if_neg e];exact hw.1 i
theorem gx{i:Nat}{o:Oper}{l:List Nat}{v:V}{K:AS->Prop}(ho:ops[i]? =some o)(hv:vJ ops tb zs i o=true)(h:Rl P N ops o A v (fC ops tb i) (bq ops tb i).fr)(hK:Md P N ops tb zs l (A.put o.dst v) K):Md P N ops tb zs (i::l) A K:=by
 unfold vJ at hv
 simp only[Bool.and_eq_true,Bool.not_eq_true',beq_iff_eq]at hv
 refine⟨o,ho,?_⟩
 rw[show lk i zs=none from by simpa using hv.1.1.1]
 simp only
 rw[hv.1.1.2]
 exact⟨hv.1.2,hv.2,v,h,hK⟩
theorem oV{K:AS->Prop}:∀ (n:Nat) {l:List Nat} (w7:List V) {A:AS} (C:Prop) (A':AS),
 nt P N ops tb zs n l w7 A=some (C,A')->C->Md P N ops tb zs (l.drop n) A' K->Md P N ops tb zs l A K
 | 0,l,w7,A,C,A',h,hC,hK=>by
   simp only[nt,Option.some.injEq,Prod.mk.injEq]at h;obtain⟨_,rfl⟩:=h;simpa using hK
 | n+1,[],w7,A,C,A',h,hC,hK=>by
   simp only[nt,Option.some.injEq,Prod.mk.injEq]at h;obtain⟨_,rfl⟩:=h;simpa using hK
 | n+1,i::l,w7,A,C,A',h,hC,hK=>by
   have Og:(i::l).drop (n+1)=l.drop n:=rfl
   rw[Og]at hK
   unfold nt at h
   split at h
   simp at h
   rename_i o ho
   split at h
   simp at h
   rename_i G'
   split at h
   simp at h
   rename_i d hd
   split at h
   case isFalse=>simp at h
   rename_i Q7
   have Nh:cy N o.dst:=by rw[hd];exact Q7
   cases hg:o.guard with
   | some jb=>
     obtain⟨j,b⟩:=jb
     rw[hg]at h
     simp only at h
     split at h
     case h_2=>simp at h
     rename_i G hG
     cases hu:AS.un G (iv o.op) A with
     | mk C0 B=>
       rw[hu]at h
       simp only at h
       split at h
       case h_2=>simp at h
       rename_i C1 v NY x7
       split at h
       case isFalse=>simp at h
       rename_i Mn
       simp only[Bool.and_eq_true,Bool.not_eq_true']at Mn
       split at h
       case h_2=>simp at h
       rename_i C2 A2 hr
       simp only[Option.some.injEq,Prod.mk.injEq]at h
       obtain⟨rfl,rfl⟩:=h
       exact gx ho G' (DQ (v:=v) ho hg hG hu (DP _) Mn.1.1 Nh Mn.2 (fun Ma=>⟨(hC.1 Ma).1,Mn.1.2,rY x7 (hC.1 Ma).2⟩)) (by rw[hd];exact oV n NY C2 A2 hr hC.2 hK)
   | none=>
     rw[hg]at h
     simp only at h
     split at h
     · rename_i x K8
       split at h
       case isFalse=>simp at h
       rename_i H9
       exact gx ho G' (lg ho (zo hg K8 Nh H9)) (by rw[hd];exact oV n w7 C A' h hC hK)
     · split at h
       case isFalse=>simp at h
       rename_i Vf
       split at h
       case h_2=>simp at h
       rename_i C1 v NY x7
       split at h
       case h_2=>simp at h
       rename_i C2 A2 hr
       split at h
       rename_i ht
       simp only[Option.some.injEq,Prod.mk.injEq]at h
       obtain⟨rfl,rfl⟩:=h
       obtain⟨C',h1,h2⟩:=rY x7 (my ht x7)
       exact gx ho G' (An ho hg h1 h2 Nh Vf) (by rw[hd];exact oV n NY C2 A2 hr hC hK)
       simp only[Option.some.injEq,Prod.mk.injEq]at h
       obtain⟨rfl,rfl⟩:=h
       obtain⟨C',h1,h2⟩:=rY x7 hC.1
       exact gx ho G' (An ho hg h1 h2 Nh Vf) (by rw[hd];exact oV n NY C2 A2 hr hC.2 hK)
theorem sh{i:Nat} {o:Oper} {l:List Nat} {K:AS->Prop} {G:Type} {U:G->AS->AS} (ho:ops[i]? =some o) (hz:lk i zs=none) (he:(bq ops tb i).UZ=true) (h1:TY P N o A U (fC ops tb i) (bq ops tb i).fr)
 (h2:Tg U (fC ops tb i) (bq ops tb i).Sl (bq ops tb i).Hl) (hK:∀ g,Md P N ops tb zs l (U g A) K):Md P N ops tb zs (i::l) A K:=by
 refine⟨o,ho,?_⟩
 rw[hz]
 simp only
 rw[he]
 exact⟨G,U,h1,h2,hK⟩
theorem yX{d:Option Nat}{x y:Operand}{J9:Array TypeId}{ty:TypeId}{pos:String}{after:Array Edge}{kd:IntKind}{p q r:Int}{b:Builtin}(hd:cy N d)(hx:A.ev x=.lit (.int kd p))(hy:A.ev y=.lit (.int kd q))(hb:(b=.max/\r=max p q)\/(b=.min/\r=min p q)):
 nO P N ops ⟨d,.call ⟨.builtin b,⟨[x,y]⟩,J9⟩,ty,pos,after,none⟩ A (.lit (.int kd r)):=fun A' h1=>by
 show D' P N _ A' _
 have e1:A'.ev x=A.ev x:=bw fun t ht=>h1 t (ej (by subst ht;simp[Op.operands,Call.operands]))
 have e2:A'.ev y=A.ev y:=bw fun t ht=>h1 t (ej (by subst ht;simp[Op.operands,Call.operands]))
 exact yZ rfl hd (by rw[e1];exact hx) (by rw[e2];exact hy) hb ⟨fun _=>rfl,fun _=>rfl⟩
theorem KC:∀ (s:Sc P) {l:List Nat} {A:AS} {K:AS->Sc P->Prop},L0 N ops tb zs s l A K->Md P N ops tb zs l A fun B=> ∃ B',C6 B B'/\∃ s',K B' s':=by
 intro s
 have cl:∀ {K:AS->Sc P->Prop} (A B:AS),C6 A B->(∃ B',C6 A B'/\∃ s',K B' s')->∃ B',C6 B B'/\∃ s',K B' s':=fun A B h ⟨B',h1,h2⟩=>⟨B',h.symm.trans h1,h2⟩
 induction s with
 | r n w7 k ih=>
   intro l A K h
   cases l with
   | nil=>exact⟨_,C6.jD,_,h⟩
   | cons i l=>
     simp only[L0]at h
     split at h
     rename_i C A' e
     obtain⟨h1,h2⟩:=nr.1 h
     obtain⟨C1,e1,e2⟩:=pO n e h1
     exact oV n w7 C1 A' e1 e2 (ih h2)
     exact h.elim
 | h x k ih=>
   intro l A K h
   cases l with
   | nil=>exact⟨_,C6.jD,_,h⟩
   | cons i l=>
     simp only[L0]at h
     split at h
     rename_i t v
     refine eC cl _ ?_ (ih h.2)
     refine⟨fun q=>?_,fun _=>rfl⟩
     rw[AS.aC];split
     rename_i e;subst e;exact h.1.symm
     rfl
     rename_i q v
     split at h
     rename_i g u e
     obtain⟨rfl,h⟩:=h
     refine eC cl _ ?_ (ih h)
     refine⟨fun _=>rfl,fun k=>?_⟩
     simp only[lk];split
     rename_i e2;subst e2;exact e.symm
     rfl
     exact h.elim
     exact h.elim
 | ux z k ih=>
   intro l A K h
   cases l with
   | nil=>exact⟨_,C6.jD,_,h⟩
   | cons i l=>
     simp only[L0]at h
     split at h
     exact h.elim
     exact h.elim
     rename_i o ho hz
     split at h
     exact h.elim
     rename_i hg
     split at h
     split at h <;> exact h.elim
     rename_i he
     split at h
     rename_i C U e1 e2 e3
     obtain⟨d,hd⟩:∃ d,o.dst=some d:=by
      unfold BF at e1
      split at e1 <;> first | exact⟨_,by assumption⟩ | simp at e1
     obtain⟨hU,hE⟩:=HQ (ops:=ops) e1 h.1 d hd
     refine sh ho hz he ⟨hg,fun A' h1 h2=>?_⟩ ⟨⟨hU.g,hU.h,hU.c,fun g B t v ht _=>hU.p g B t v ht,hU.q⟩,fun q hq=>absurd (uI e3 hq) List.not_mem_nil⟩ fun g=>ih _ _ _ (h.2 g.1 g.2.1 g.2.2)
     rw[e2]at h2
     exact hE A' (fun t ht=>by
      rcases ht with ht | ht
      exact h1 t (uL ho ht)
      exact h1 t (BQ ht)) h2 _ fun g=>⟨g,⟨fun _=>rfl,fun _=>rfl⟩⟩
     exact h.elim
 | eu c k ih=>
   intro l A K h
   cases l with
   | nil=>exact⟨_,C6.jD,_,h⟩
   | cons i l=>
     simp only[L0]at h
     split at h
     exact h.elim
     exact h.elim
     rename_i o ho hz
     split at h
     exact h.elim
     rename_i hg
     split at h
     split at h <;> exact h.elim
     rename_i he
     split at h
     rename_i e2 e3
     refine sh ho hz he ⟨hg,fun A' h1 h2=>?_⟩ ⟨c.T5 h.1 _,fun q hq g B=>c.W8 h.1 q (uI e3 hq) g B⟩ fun g=>ih g (h.2 g)
     rw[e2]at h2
     exact FK (c.ok hg h.1 (fun t ht=>h1 t (uL ho (ej ht))) h2) fun B ⟨x,hB⟩=>⟨x,by subst hB;exact⟨fun _=>rfl,fun _=>rfl⟩⟩
     exact h.elim
 | ua k ih=>
   intro l A K h
   cases l with
   | nil=>exact⟨_,C6.jD,_,h⟩
   | cons i l=>
     simp only[L0]at h
     split at h
     rename_i o z ho hz
     refine⟨o,ho,?_⟩
     rw[hz]
     exact fun g=>ih g (h g)
     exact h.elim
 | c c ks k ih=>
   intro l A K h
   cases l with
   | nil=>exact⟨_,C6.jD,_,h⟩
   | cons i l=>
     simp only[L0]at h
     split at h
     exact h.elim
     exact h.elim
     rename_i o ho hz
     obtain⟨dst,op,ty,pos,after,C7⟩:=o
     split at h
     exact h.elim
     rename_i hg
     simp only at hg;subst hg
     split at h
     split at h
     rename_i hv
     split at h
     rename_i heq
     simp only at heq;subst heq
     split at h
     rename_i e3 e4
     rw[Bool.and_eq_true,beq_iff_eq]at e3
     obtain⟨rfl,e3⟩:=e3
     exact gx ho hv (lg ho (Hm c (dU e3) e4 h.1 h.2.1)) (ih h.2.2)
     exact h.elim
     exact h.elim
     exact h.elim
     rename_i he
     split at h
     rename_i fx xs J9 heq
     simp only at heq;subst heq
     split at h
     rename_i f first w9 vs B fl e1 e2 e3
     split at h
     rename_i e4
     simp only[Bool.and_eq_true,beq_iff_eq]at e4
     obtain⟨⟨⟨⟨⟨⟨⟨⟨⟨rfl,q1⟩,q2⟩,q3⟩,q4⟩,q5⟩,q6⟩,q7⟩,q8⟩,q9⟩:=e4
     have htk:(A.tk xs.toList).1=vs:=by rw[e2]
     replace h:=And.intro h.1 (iZ h.2)
     have UJ:=yn (P:=P) (N:=N) (A:=A) (tb:=tb) (i:=i) (G:=Unit) (res:=fun _=>c.res) (H':=fun _=>c.H') (ks:=ks) (H:=c.H) (args:=c.args) ho e1 (dU q1) q2 q3
      ((c.ok h.2.2.1).mono fun r H ⟨a,b⟩=>⟨(),a,b⟩) (by rw[htk];exact h.1) (by rw[htk];exact q4) h.2.1 q8
     rw[<- e3]at UJ
     exact sh ho hz he UJ ⟨yy q3 q5 q6 q7,fun q hq=>absurd (uI q9 hq) List.not_mem_nil⟩ fun _=>ih h.2.2.2
     exact h.elim
     exact h.elim
     exact h.elim
 | cx c ks k ih=>
   intro l A K h
   cases l with
   | nil=>exact⟨_,C6.jD,_,h⟩
   | cons i l=>
     simp only[L0]at h
     split at h
     exact h.elim
     exact h.elim
     rename_i o ho hz
     obtain⟨dst,op,ty,pos,after,C7⟩:=o
     split at h
     exact h.elim
     rename_i hg
     simp only at hg;subst hg
     split at h
     split at h <;> exact h.elim
     rename_i he
     split at h
     rename_i fx xs J9 heq
     simp only at heq;subst heq
     split at h
     rename_i f first w9 vs B fl e1 e2 e3
     split at h
     rename_i e4
     simp only[Bool.and_eq_true,beq_iff_eq]at e4
     obtain⟨⟨⟨⟨⟨⟨⟨⟨⟨rfl,q1⟩,q2⟩,q3⟩,q4⟩,q5⟩,q6⟩,q7⟩,q8⟩,q9⟩:=e4
     have htk:(A.tk xs.toList).1=vs:=by rw[e2]
     replace h:=And.intro h.1 (iZ h.2)
     have UJ:=yn (P:=P) (N:=N) (A:=A) (tb:=tb) (i:=i) (G:={ x:c.X // c.post x }) (res:=fun x=>c.res x.1) (H':=fun x=>c.H' x.1) (ks:=ks) (H:=c.H) (args:=c.args) ho e1 (dU q1) q2 q3
      ((c.ok h.2.2.1).mono fun r H ⟨x,hx,a,b⟩=>⟨⟨x,hx⟩,a,b⟩) (by rw[htk];exact h.1) (by rw[htk];exact q4) h.2.1 q8
     rw[<- e3]at UJ
     exact sh ho hz he UJ ⟨yy q3 q5 q6 q7,fun q hq=>absurd (uI q9 hq) List.not_mem_nil⟩ fun x=>ih _ (h.2.2.2 x.1 x.2)
     exact h.elim
     exact h.elim
     exact h.elim
 | bd z k ih=>
   intro l A K h
   cases l with
   | nil=>exact⟨_,C6.jD,_,h⟩
   | cons i l=>
     simp only[L0]at h
     split at h
     exact h.elim
     exact h.elim
     rename_i o ho hz
     obtain⟨dst,op,ty,pos,after,C7⟩:=o
     split at h
     exact h.elim
     rename_i hg
     simp only at hg;subst hg
     split at h
     split at h
     rename_i hv
     split at h
     rename_i heq
     simp only at heq;subst heq
     split at h
     rename_i us e3 e4
     split at h
     rename_i v e5
     rw[Bool.and_eq_true,beq_iff_eq]at e3
     obtain⟨rfl,e3⟩:=e3
     have hz:=z.ok
     rw[e4]at hz
     exact gx ho hv (lg ho (zN us v hz (dU e3) e5)) (ih h)
     exact h.elim
     exact h.elim
     exact h.elim
     exact h.elim
     exact h.elim
 | bs k ih=>
   intro l A K h
   cases l with
   | nil=>exact⟨_,C6.jD,_,h⟩
   | cons i l=>
     simp only[L0]at h
     split at h
     exact h.elim
     exact h.elim
     rename_i o ho hz
     obtain⟨dst,op,ty,pos,after,C7⟩:=o
     split at h
     exact h.elim
     rename_i hg
     simp only at hg;subst hg
     split at h
     split at h
     rename_i hv
     split at h
     rename_i heq
     simp only at heq;subst heq
     split at h
     rename_i e e3
     split at h
     rename_i t vs e4 e5
     split at h
     rename_i e6
     rw[Bool.and_eq_true]at e6
     exact gx ho hv (lg ho (sT e t vs ⟨e3,e4⟩ (dU e6.2) e5 e6.1)) (ih h)
     exact h.elim
     exact h.elim
     exact h.elim
     exact h.elim
     exact h.elim
     exact h.elim
 | cg c k ih=>
   intro l A K h
   cases l with
   | nil=>exact⟨_,C6.jD,_,h⟩
   | cons i l=>
     simp only[L0]at h
     split at h
     case h_2=>exact h.elim
     rename_i o ho hz
     obtain⟨dst,op,ty,pos,after,C7⟩:=o
     split at h
     case h_2=>exact h.elim
     rename_i f xs J9 j b hv e1 e2
     simp only at e1 e2;subst e1 e2
     split at h
     case h_2=>exact h.elim
     rename_i G h1 h2 h3
     simp only[Bool.and_eq_true,beq_iff_eq,Bool.not_eq_true']at h1
     obtain⟨⟨⟨⟨rfl,h4⟩,h5⟩,h6⟩,h7⟩:=h1
     revert h
     cases hu:Pt G (j,b) [] xs.toList A with | mk C B=>?_
     intro h
     obtain⟨hC,h⟩:=nr.1 h
     obtain⟨C1,u1,u2⟩:=lT xs.toList (fun t ht=>by simp at ht) hu hC
     refine gx ho hv (CA ho (dU h4) h3 u1 h5 (fun hG=>⟨u2,?_,h6,h7⟩)) (ih h.2)
     obtain⟨Qg,hw⟩:=h.1 hG
     have hc:=c.ok Qg
     rw[h2]at hc
     have hp:=hc.Cs
     refine⟨hp.1,fun w Pb cargs k1 k2=>?_⟩
     refine(hp.2 w Pb cargs k1 (by have:=oB _ c.args k2;rw[hw]at this;exact this)).mono ?_
     rintro e w' ⟨r,x,F,Pb',rfl,⟨H,q1,_⟩,rest⟩
     exact⟨r,x,F,Pb',rfl,by rw[q1],rest⟩
 | mm k ih=>
   intro l A K h
   cases l with
   | nil=>exact⟨_,C6.jD,_,h⟩
   | cons i l=>
     simp only[L0]at h
     split at h
     exact h.elim
     exact h.elim
     rename_i o ho hz
     obtain⟨dst,op,ty,pos,after,C7⟩:=o
     split at h
     exact h.elim
     rename_i hg
     simp only at hg;subst hg
     split at h
     split at h
     rename_i hv
     split at h
     rename_i heq
     simp only at heq;subst heq
     split at h
     rename_i kd p P1 q e1 e2 e3
     obtain⟨rfl,h⟩:=h
     exact gx ho hv (lg ho (yX (dU e3) e1 e2 (.inl ⟨rfl,rfl⟩))) (ih h)
     rename_i kd p P1 q e1 e2 e3
     obtain⟨rfl,h⟩:=h
     exact gx ho hv (lg ho (yX (dU e3) e1 e2 (.inr ⟨rfl,rfl⟩))) (ih h)
     exact h.elim
     exact h.elim
     exact h.elim
     exact h.elim
 | K6 bs k ih=>
   intro l A K h
   cases l with
   | nil=>exact⟨_,C6.jD,_,h⟩
   | cons i l=>
     simp only[L0]at h
     split at h
     exact h.elim
     exact h.elim
     rename_i o ho hz
     obtain⟨dst,op,ty,pos,after,C7⟩:=o
     split at h
     exact h.elim
     rename_i hg
     simp only at hg;subst hg
     split at h
     split at h
     rename_i hv
     split at h
     rename_i heq
     simp only at heq;subst heq
     split at h
     rename_i fl ys e1 e2
     simp only[Bool.and_eq_true]at e1
     obtain⟨rfl,h⟩:=h
     obtain⟨e,q1,q2⟩:=vX e1.1.1
     exact gx ho hv (lg ho (vI e fl bs ⟨q1,q2,tC e1.1.2⟩ (dU e1.2) e2)) (ih h)
     exact h.elim
     exact h.elim
     exact h.elim
     exact h.elim
 | _=>
   intro l A K h
   cases l with
   | nil=>exact⟨_,C6.jD,_,h⟩
   | cons i l=>
     simp only[L0]at h
     (repeat' split at h) <;> exact h.elim
theorem pz{K K':AS->Prop}(hK:∀ B,K B->K' B):∀ (l:List Nat) {A:AS},Md P N ops tb zs l A K->Md P N ops tb zs l A K'
 | [],A,h=>hK A h
 | i::l,A,h=>by
   obtain⟨o,ho,h⟩:=h
   refine⟨o,ho,?_⟩
   split at h
   exact fun g=>pz hK l (h g)
   split at h
   obtain⟨e1,e2,v,h1,h2⟩:=h;exact⟨e1,e2,v,h1,pz hK l h2⟩
   obtain⟨G,U,h1,h2,h3⟩:=h;exact⟨G,U,h1,h2,fun g=>pz hK l (h3 g)⟩
end
end Go.Abs
namespace Go.Abs
open Go Go.RowKit
section
variable {P:Program} {N:Nat} {ops:Array Oper} {A:AS}
end
def go{P:Program}(N:Nat):Code->AS->Sc P->(Exit->AS->Sc P->Prop)->Prop
 | .skip,A,s,K=>K .normal A s
 | .label _,A,s,K=>K .normal A s
 | .exit i,A,s,K=>K (.exit i) A s
 | .goto i,A,s,K=>K (.goto i) A s
 | .ret,A,s,K=>NH N s A fun A s=>K .ret A s
 | .seq x y,A,s,K=>go N x A s fun e A s=>match e with
   | .normal=>go N y A s K
   | e=>K e A s
 | .block id c,A,s,K=>go N c A s fun e A s=>match e with
   | .exit j=>match j==id with
     | true=>K .normal A s
     | false=>K (.exit j) A s
   | e=>K e A s
 | .cond c x y,A,s,K=>NH N s A fun A s=>match A.ev c,s with
   | .lit (.bool b),.br s1 s2=>(b=true->go N x A s1 K)/\(b=false->go N y A s2 K)
   | .lit (.bool b),.join X B ok s1 s2 k=>
     (b=true->go N x A s1 fun e A' s'=>match e with
      | .normal=>NH N s' A' fun A' _=> ∃ x,ok x/\Tp A' (B x)
      | e=>K e A' s')/\
     (b=false->go N y A s2 fun e A' s'=>match e with
      | .normal=>NH N s' A' fun A' _=> ∃ x,ok x/\Tp A' (B x)
      | e=>K e A' s')/\
     ∀ x,ok x->K .normal (B x) (k x)
   | _,_=>False
 | .scope c,A,s,K=>go N c A s fun e A s=>match e with
   | .goto _=>False
   | e=>K e A s
 | .loop c,A,s,K=>NH N s A fun A s=>match s with
   | .loop X inv ok m k=>(∃ x,ok x/\Tp A (inv x))/\∀ x,ok x->go N c (inv x) (k x) fun e A' s'=>match e with
     | .normal=>NH N s' A' fun A' _=> ∃ y,ok y/\m y<m x/\Tp A' (inv y)
     | e=>K e A' s'
   | _=>False
 | .region _ ops false,A,s,K=>NH N s A fun A s=>C3 N ops [] s ops.toList A fun A s=>K .normal A s
 | .region _ ops true,A,s,K=>NH N s A fun A s=>match s with
   | .dx m pl tb zs k=>match P.follows .mixedOrders&&pA ops m tb zs pl&&BX ops m pl&&Bk N ops zs with
     | true=>L0 N ops tb zs k pl A fun A s=>C3 N ops [] s (ops.toList.drop m) A fun A s=>K .normal A s
     | false=>False
   | _=>False
 | _,_,_,_=>False
section
variable {P:Program} {N:Nat} {ops:Array Oper} {A A' A1 B:AS}
variable {w:World} {Pb Kb:Nat->Prop} {a:Act} {F:l7->List Nat}
theorem Hk{X:Type} {c:Code} {Q:Exit->AS->Prop} (inv:X->AS) (ok:X->Prop) (m:X->Nat) (h0:∃ x,ok x/\P0 A (inv x).t/\Pe A (inv x).h)
 (round:∀ x,ok x->T P N c (inv x) fun e A'=>match e with
  | .normal=>Hx N A' fun A'=> ∃ y,ok y/\m y<m x/\P0 A' (inv y).t/\Pe A' (inv y).h
  | e=>Q e A'):T P N (.loop c) A Q:=by
 obtain⟨x0,Py,l0,r0⟩:=h0
 refine IS (fun n A=> ∃ x,m x=n/\ok x/\P0 A (inv x).t/\Pe A (inv x).h) (m x0) ⟨x0,rfl,Py,l0,r0⟩ ?_
 rintro n A ⟨x,rfl,hx,h1,h2⟩
 refine KW h1 h2 (mn (lL (round x hx) fun e A' hq=>?_))
 cases e with
 | normal=>exact Hx.mono hq fun B ⟨y,k1,k2,k3,k4⟩=>⟨m y,k2,y,rfl,k1,k3,k4⟩
 | _=>exact Hx.of hq
def ngo(Q:Exit->AS->Prop):Exit->AS->Prop
 | .goto _,_=>False
 | e,A=>Q e A
theorem HU{c:Code}{Q:Exit->AS->Prop}(h:T P N c A (ngo Q)):T P N (.scope c) A Q:=by
 intro Pb Kb a w F hs
 refine wp_scope_straight (wp_mono (h Pb Kb a w F hs) fun e a' w' hn=>?_)
 cases e with
 | goto l=>obtain⟨_,_,_,_,h,_⟩:=hn;exact h
 | _=>exact hn
theorem GO:∀ (c:Code) {A:AS} {s:Sc P} {K:Exit->AS->Sc P->Prop},go N c A s K->T P N c A fun e B=> ∃ s',K e B s':=by
 intro c
 induction c with
 | skip=>intro A s K h;exact Jx ⟨_,h⟩
 | label l=>intro A s K h;exact IK ⟨_,h⟩
 | exit i=>intro A s K h;exact KB ⟨_,h⟩
 | goto i=>intro A s K h;exact Kl ⟨_,h⟩
 | ret=>intro A s K h;exact pa ((kD s h).mono fun B hB=>KG hB)
 | seq x y Tr Tq=>
   intro A s K h
   refine Lb (lL (Tr h) fun e B hB=>?_)
   obtain⟨s',hB⟩:=hB
   cases e with
   | normal=>exact Tq hB
   | _=>exact⟨_,hB⟩
 | scope c ih=>
   intro A s K h
   refine HU (lL (ih h) fun e B hB=>?_)
   obtain⟨s',hB⟩:=hB
   cases e with
   | goto l=>exact hB
   | _=>exact⟨_,hB⟩
 | block id c ih=>
   intro A s K h
   refine Iu (lL (ih h) fun e B hB=>?_)
   obtain⟨s',hB⟩:=hB
   cases e with
   | exit j=>
     simp only[WX]
     simp only at hB
     split at hB
     rename_i e;rw[if_pos (by simpa using e)];exact⟨_,hB⟩
     rename_i e;rw[if_neg (by simpa using e)];exact⟨_,hB⟩
   | _=>exact⟨_,hB⟩
 | cond c x y Tr Tq=>
   intro A s K h
   refine pa ((kD s h).mono fun B hB=>?_)
   obtain⟨s',hB⟩:=hB
   split at hB
   rename_i e
   exact Dr e (fun hb=>Tr (hB.1 hb)) (fun hb=>Tq (hB.2 hb))
   rename_i b X I ok s1 s2 k e
   obtain⟨h1,h2,h3⟩:=hB
   have step:∀ (z:Code) (K':Exit->AS->Sc P->Prop),(∀ A' s',K' .normal A' s'->NH N s' A' fun A' _=> ∃ x,ok x/\Tp A' (I x))->(∀ e,e≠.normal->∀ A' s',K' e A' s'->K e A' s')->
    (T P N z B fun e A'=> ∃ s',K' e A' s')->T P N z B fun e A'=> ∃ s',K e A' s':=fun z K' hn ho hz=>by
    refine mn (lL hz fun e A' hq=>?_)
    obtain⟨s',hq⟩:=hq
    by_cases he:e=.normal
    subst he
    refine(kD s' (hn _ _ hq)).bind fun B' WT=>?_
    obtain⟨_,x,k1,k2⟩:=WT
    exact GR (rJ k2).1 (rJ k2).2 ⟨_,h3 x k1⟩
    exact Hx.of ⟨_,ho e he _ _ hq⟩
   refine Dr e (fun hb=>step _ _ ?_ ?_ (Tr (h1 hb))) (fun hb=>step _ _ ?_ ?_ (Tq (h2 hb)))
   exact fun _ _ h=>h
   intro e he A' s' h;cases e <;> first | exact h | exact absurd rfl he
   exact fun _ _ h=>h
   intro e he A' s' h;cases e <;> first | exact h | exact absurd rfl he
   exact hB.elim
 | loop c ih=>
   intro A s K h
   refine pa ((kD s h).mono fun B hB=>?_)
   obtain⟨s',hB⟩:=hB
   split at hB
   rename_i X inv ok m k
   refine Hk inv ok m (by obtain⟨x,a,b⟩:=hB.1;exact⟨x,a,rJ b⟩) fun x hx=>lL (ih (hB.2 x hx)) fun e A' hq=>?_
   obtain⟨s',hq⟩:=hq
   cases e with
   | normal=>exact(kD s' hq).mono fun B ⟨_,y,a,b,c⟩=>⟨y,a,b,rJ c⟩
   | _=>exact⟨_,hq⟩
   exact hB.elim
 | region id ops draw=>
   intro A s K h
   cases draw with
   | false=>exact pa ((kD s h).mono fun B ⟨s',hB⟩=>Ge (DJ s' hB))
   | true=>
     refine pa ((kD s h).mono fun B hB=>?_)
     obtain⟨s',hB⟩:=hB
     split at hB
     split at hB
     rename_i e
     simp only[Bool.and_eq_true]at e
     exact vY e.1.1.1 e.1.1.2 e.2 e.1.2 (pz (fun B ⟨B',hA,s',hB⟩=>⟨B',hA,DJ s' hB⟩) _ (KC _ hB))
     exact hB.elim
     exact hB.elim
 | _=>intro A s K h;exact h.elim
def pr(H:List (Nat×(Nat×V)))(xs:List l7):Bool:=xs.all fun r=>match r with
 | .key k=>(lk k H).isNone
 | .slot _=>true
def vN(rs:List ResultVar)(Q:V->AS->Prop)(H:List (Nat×(Nat×V)))(A:AS):Prop:=match xZ A rs with
    | some (C,xs)=>match kz P rs xs&&nodupB (xs.map (·.1))&&pr H (xs.map (·.1)) with
      | true=>cj C (Q (one (xs.map (·.2))) A)
      | false=>False
    | none=>False
def GA(N:Nat)(rs:List ResultVar)(Q:V->AS->Prop)(H:List (Nat×(Nat×V))):Exit->AS->Sc P->Prop:=fun e A s=>match e with
 | .normal=>NH N s A fun A _=>vN (P:=P) rs Q H A
 | .ret=>vN (P:=P) rs Q H A
 | _=>False
theorem qm{H:List (Nat×(Nat×V))}{xs:List l7}(h:pr H xs=true)(k:Nat)(hk:lk k H≠none):l7.key k ∉ xs:=fun c=>by
 unfold pr at h
 rw[List.all_eq_true]at h
 have:=h _ c
 simp only[Option.isNone_iff_eq_none]at this
 exact hk this
theorem PF.W5{f:FuncId} {args:List V} {H:List (Nat×(Nat×V))} {X:Type} {post:X->Prop} {E:X->V} {H':X->List (Nat×(Nat×V))}
 (h:PF P f args H (fun r h=> ∃ x,post x/\wk r (E x)=E x/\h=H' x)):PF P f args H (fun r h=> ∃ x,post x/\r=E x/\h=H' x):=
 ⟨h.1,fun w Pb Kb cargs F hi=>(h.2 w Pb Kb cargs F hi).mono fun e w'=>by
  rintro⟨r,x,H1,Pb',C9,F',rfl,⟨z,q1,q2,rfl⟩,hf⟩
  exact⟨E z,x,H' z,Pb',C9,F',rfl,⟨z,q1,rfl,rfl⟩,by have:=xE (E z) hf.val;rw[q2]at this;exact⟨this,hf.root,hf.bX,hf.nodup,hf.free,hf.sub,hf.bound,hf.mP,hf.mK,hf.PX,hf.eF⟩⟩⟩
theorem fc{f:FuncId} {fn:Func} {c:Code} {args:List V} {H:List (Nat×(Nat×V))} {N:Nat} {rs:List ResultVar} {X:Type} {post:X->Prop} {E:X->V} {H':X->List (Nat×(Nat×V))}
 (hf:P.funcs[f]? =some fn) (Ux:(fn.name== "runtime.NumGoroutine")=false) (hb:fn.body=some c) (hN:fn.ntmps=N) (N9:fn.results.toList=rs) (hlen:Nat.ble args.length N=true)
 (HK:List (Nat×(Nat×V))) (hHK:∀ x k,lk k (H' x)≠none->lk k HK≠none)
 (sc:Sc P) (VC:Prop) (he:VC=go N c ⟨enum 0 args,H⟩ sc (GA N rs (fun v A=> ∃ x,post x/\sK A (H' x) (wk v (E x)=E x)) HK)) (h:VC):
 PF P f args H (fun r h=> ∃ x,post x/\r=E x/\h=H' x):=by
 subst hN N9
 rw[he]at h
 refine PF.W5 (Be hf hb (dO hf Ux (by rw[hb];rfl)) (Nat.le_of_ble_eq_true hlen) (mn (lL (GO _ h) ?_)))
 rintro e A0 ⟨s0,hq⟩
 have fin:∀ A,(e=.normal\/e=.ret)->vN (P:=P) fn.results.toList (fun v A=> ∃ x,post x/\sK A (H' x) (wk v (E x)=E x)) HK A->EA P fn.results.toList (fun r h=> ∃ x,post x/\wk r (E x)=E x/\h=H' x) e A:=fun A he hq=>by
  unfold vN at hq
  split at hq
  rename_i C xs e1
  split at hq
  rename_i e2
  simp only[Bool.and_eq_true]at e2
  obtain⟨hC,x,q1,hq⟩:=nr.1 hq
  obtain⟨q2,q3⟩:=sX hq
  obtain⟨C',f1,f2⟩:=rD e1 hC
  exact⟨he,xs,H' x,rI f1 f2,qb e2.1.1,sP e2.1.2,q3,fun k hk=>qm e2.2 k (hHK x k hk),x,q1,q2,rfl⟩
  exact hq.elim
  exact hq.elim
 cases e with
 | normal=>exact(kD s0 hq).mono fun B ⟨_,hB⟩=>fin B (.inl rfl) hB
 | ret=>exact Hx.of (fin A0 (.inr rfl) hq)
 | _=>exact hq.elim
theorem Kq{f:FuncId} {fn:Func} {c:Code} {args:List V} {H:List (Nat×(Nat×V))} {N:Nat} {rs:List ResultVar} {E:V} {H':List (Nat×(Nat×V))}
 (hf:P.funcs[f]? =some fn) (Ux:(fn.name== "runtime.NumGoroutine")=false) (hb:fn.body=some c) (hN:fn.ntmps=N) (N9:fn.results.toList=rs) (hlen:Nat.ble args.length N=true)
 (sc:Sc P) (VC:Prop) (he:VC=go N c ⟨enum 0 args,H⟩ sc (GA N rs (fun v A=>sK A H' (wk v E=E)) H')) (h:VC):
 PF P f args H (fun r h=>r=E/\h=H'):=by
 subst hN N9
 rw[he]at h
 have:=PF.W5 (X:=Unit) (post:=fun _=>True) (E:=fun _=>E) (H':=fun _=>H') (Be (P:=P) (f:=f) (args:=args) (H:=H) (Q:=fun r h=> ∃ _:Unit,True/\wk r E=E/\h=H') hf hb (dO hf Ux (by rw[hb];rfl)) (Nat.le_of_ble_eq_true hlen) (mn (lL (GO _ h) ?_)))
 exact this.mono fun r H ⟨_,_,h1,h2⟩=>⟨h1,h2⟩
 rintro e A0 ⟨s0,hq⟩
 have fin:∀ A,(e=.normal\/e=.ret)->vN (P:=P) fn.results.toList (fun v A=>sK A H' (wk v E=E)) H' A->EA P fn.results.toList (fun r h=> ∃ _:Unit,True/\wk r E=E/\h=H') e A:=fun A he hq=>by
  unfold vN at hq
  split at hq
  rename_i C xs e1
  split at hq
  rename_i e2
  simp only[Bool.and_eq_true]at e2
  obtain⟨hC,hq⟩:=nr.1 hq
  obtain⟨q2,q3⟩:=sX hq
  obtain⟨C',f1,f2⟩:=rD e1 hC
  exact⟨he,xs,H',rI f1 f2,qb e2.1.1,sP e2.1.2,q3,fun k hk=>qm e2.2 k hk,(),trivial,q2,rfl⟩
  exact hq.elim
  exact hq.elim
 cases e with
 | normal=>exact(kD s0 hq).mono fun B ⟨_,hB⟩=>fin B (.inl rfl) hB
 | ret=>exact Hx.of (fin A0 (.inr rfl) hq)
 | _=>exact hq.elim
end
end Go.Abs
namespace Go.Abs
theorem gg{xs:List V}{j sz g0 o0 g o c:Nat}{v:V}(h:xs[j]? =some v):V.at g0 o0 (.own sz xs g o c) [j]=some (g,o+j*sz,v):=by simp only[V.at,h]
theorem mH{xs ys:List V}{j sz g o c:Nat}{x v:V}(h:xs[j]? =some x)(e:xs.set j v=ys):V.set (.own sz xs g o c) [j] v=.own sz ys g o c:=by simp only[V.set,h,e]
theorem Tf{x y:V}{r:List V}(h:x=y):V.agg (x::r)=V.agg (y::r):=by rw[h]
theorem ob{x y u:V}{r:List V}{p:List Nat}(h:V.set x p u=y):V.set (.agg (x::r)) (0::p) u=V.agg (y::r):=by rw[<- h];rfl
theorem Ni{a0 a1 x y:V}{r:List V}(h:x=y):V.agg (a0::a1::x::r)=V.agg (a0::a1::y::r):=by rw[h]
theorem dH{a0 a1 x y u:V}{r:List V}{p:List Nat}(h:V.set x p u=y):V.set (.agg (a0::a1::x::r)) (2::p) u=V.agg (a0::a1::y::r):=by rw[<- h];rfl
theorem LC{a0 a1 a2 a3 a4 x y u:V}{r:List V}{p:List Nat}(h:V.set x p u=y):V.set (.agg (a0::a1::a2::a3::a4::x::r)) (5::p) u=V.agg (a0::a1::a2::a3::a4::y::r):=by rw[<- h];rfl
end Go.Abs
namespace Go.Abs
open Go Go.RowKit
abbrev m9(x:Int):Prop:= -9223372036854775808<=x/\x<=9223372036854775807
abbrev Ot(x:Int):Prop:=0<=x/\x<=255
abbrev Ix{α:Type}(i:Int)(s:List α):Prop:=0<=i/\i<s.length
abbrev Sx{α:Type}(lo hi:Int)(s:List α):Prop:=0<=lo/\lo<=hi/\hi<=s.length
abbrev Ex(i:Int)(xs:List V)(v:V):Prop:=0<=i/\xs[Int.toNat i]? =some v
abbrev s8(a b:Int):Bool:=decide (a<b)
abbrev D2(a b:Int):Bool:=decide (a<=b)
abbrev s9(a b:Int):Bool:=decide (a>b)
abbrev z6(a b:Int):Bool:=decide (a>=b)
abbrev o6(a b:Int):Bool:=a==b
abbrev E1(a b:Int):Bool:=a != b
abbrev Br(b:Bool)(p q:Prop):Prop:=(b=true->p)/\(b=false->q)
abbrev Gd(b:Bool)(p:Prop):Prop:=b=true->p
abbrev Q(x y:V):Prop:=x=y
abbrev E(x:V):Prop:=x=x
abbrev Qr(g:Nat)(x:V)(g':Nat)(y:V):Prop:=(g,x)=(g',y)
abbrev Er(g:Nat)(x:V):Prop:=(g,x)=(g,x)
abbrev Z(g o:Nat):Prop:=(g,o)=(g,o)
abbrev In(i:Int)(n:Nat):Prop:=0<=i/\i<n
abbrev Pk(c a b:Bool):Prop:=(c=true->a=true)/\(c=false->b=true)
theorem nb:(∀ (p:Prop) [Decidable p],(decide p=true)=p)/\(∀ (p:Prop) [Decidable p],(decide p=false)= ¬ p)/\(∀ a b:Int,(¬ a<b)=(b<=a))/\(∀ a b:Int,(¬ a<=b)=(b<a))/\(∀ a b:Int,(a>b)=(b<a))/\(∀ a b:Int,(a>=b)=(b<=a))/\
 (∀ (α:Type) [BEq α] [LawfulBEq α] (a b:α),((a==b)=true)=(a=b))/\(∀ (α:Type) [BEq α] [LawfulBEq α] (a b:α),((a==b)=false)= ¬ a=b)/\
 (∀ (α:Type) [BEq α] [LawfulBEq α] (a b:α),((a != b)=true)= ¬ a=b)/\(∀ (α:Type) [BEq α] [LawfulBEq α] (a b:α),((a != b)=false)=(a=b))/\
 (∀ a b:Bool,((a||b)=true)=(a=true\/b=true))/\(∀ a b:Bool,((a||b)=false)=(a=false/\b=false))/\(∀ a b:Bool,((a&&b)=true)=(a=true/\b=true))/\(∀ a b:Bool,((a&&b)=false)=(a=true->b=false))/\
 (∀ a:Bool,((!a)=true)=(a=false))/\(∀ a:Bool,((!a)=false)=(a=true))/\(∀ a:Bool,(¬ a=true)=(a=false))/\(∀ a:Bool,(¬ a=false)=(a=true))/\(∀ p:Prop,(¬ ¬ p)=p)/\
 (∀ a:Bool,(a==true)=a)/\(∀ a:Bool,(a==false)=!a)/\(∀ a:Bool,(true&&a)=a)/\(∀ a:Bool,(a&&true)=a)/\((!true)=false)/\((!false)=true)/\(∀ a:Bool,(!!a)=a)/\(∀ (α β:Type) (f:α->β) (l:List α),(l.map f).length=l.length):=by
 refine⟨fun p _=>by simp,fun p _=>by simp,fun a b=>by simp,fun a b=>by simp,fun a b=>rfl,fun a b=>rfl,fun α _ _ a b=>by simp,fun α _ _ a b=>by simp,fun α _ _ a b=>by simp,fun α _ _ a b=>by simp,fun a b=>by simp,fun a b=>by simp,fun a b=>by simp,fun a b=>by cases a <;> simp,
  fun a=>by simp,fun a=>by simp,fun a=>by simp,fun a=>by simp,fun p=>by simp,fun a=>by simp,fun a=>by simp,fun a=>by simp,fun a=>by simp,rfl,rfl,fun a=>by simp,fun _ _ f l=>List.length_map ..⟩
end Go.Abs
namespace Go.Abs
open Go Go.RowKit
section
variable {w w':World} {Pb Kb Pb':Nat->Prop} {N:Nat} {A A' A1 B:AS} {a:Act} {F:l7->List Nat}
end
theorem az{P:Program} {f:FuncId} {fn:Func} {args:List V} {H:List (Nat×(Nat×V))} {N:Nat} {rs:List ResultVar} {E:V} {H':List (Nat×(Nat×V))}
 (hf:P.funcs[f]? =some fn) (sc:Sc P) (VC:Prop) (h:VC) (Ux:(fn.name== "runtime.NumGoroutine")=false:=by kernel_rfl) (hb:fn.body.isSome=true:=by kernel_rfl) (hN:fn.ntmps=N:=by kernel_rfl) (N9:fn.results.toList=rs:=by kernel_rfl) (hlen:Nat.ble args.length N=true:=by kernel_rfl)
 (he:VC=go N (fn.body.getD .skip) ⟨enum 0 args,H⟩ sc (GA N rs (fun v A=>sK A H' (wk v E=E)) H'):=by kernel_rfl):PF P f args H (fun r h=>r=E/\h=H'):=by
 cases WC:fn.body with
 | none=>rw[WC]at hb;cases hb
 | some c=>
   rw[WC]at he
   exact Kq hf Ux WC hN N9 hlen sc VC he h
abbrev Sc.q{P:Program}(n:Nat)(k:Sc P):Sc P:=.r n [] k
theorem bI{c:Bool}{P Q p q:Prop}(a:p->P)(b:q->Q)(h1:(c=true)=p:=by first | (conv=>lhs;simp only[nb]) | rfl)(h2:(c=false)=q:=by first | (conv=>lhs;simp only[nb]) | rfl):Br c P Q:=⟨fun h=>a (h1 ▸ h),fun h=>b (h2 ▸ h)⟩
end Go.Abs
namespace Go.Abs
open Go Go.RowKit
mutual
def V.lits:V->Option (List Value)
 | .lit x=>if x.oneCell' then some [x] else none
 | .agg vs=>V.rH vs
 | _=>none
def V.rH:List V->Option (List Value)
 | []=>some []
 | v::vs=>match v.lits,V.rH vs with
   | some a,some b=>some (a++b)
   | _,_=>none
end
def V.val? :V->Option Value
 | .lit x=>if x.oneCell' then some x else none
 | .agg us=>(V.rH us).map fun l=>.agg l.toArray
 | .ptr _ _ g o=>some (.pointer (some ⟨g,o,none⟩))
 | _=>none
section
variable {w w':World} {Pb Kb Pb':Nat->Prop} {N:Nat} {A A' B:AS} {a:Act} {F:l7->List Nat} {P:Program} {ops:Array Oper}
mutual
theorem yg:∀ (v:V) {l},v.lits=some l->∀ {cs F},R w Pb v cs F↔cs=l/\F=[]
 | .lit x,l,h,cs,F=>by
   simp only[V.lits]at h
   split at h
   rename_i hx;simp at h;subst h;simp only[R];exact⟨fun h=>h.2,fun h=>⟨hx,h⟩⟩
   simp at h
 | .agg vs,l,h,cs,F=>by simp only[V.lits]at h;simp only[R];exact rB vs h
 | .sl ..,_,h,_,_=>by simp[V.lits]at h
 | .tup _,_,h,_,_=>by simp[V.lits]at h
 | .gv _ _,_,h,_,_=>by simp[V.lits]at h
 | .own ..,_,h,_,_=>by simp[V.lits]at h
 | .hd ..,_,h,_,_=>by simp[V.lits]at h
 | .ow ..,_,h,_,_=>by simp[V.lits]at h
 | .om ..,_,h,_,_=>by simp[V.lits]at h
 | .mp ..,_,h,_,_=>by simp[V.lits]at h
 | .ptr ..,_,h,_,_=>by simp[V.lits]at h
 | .ep _,_,h,_,_=>by simp[V.lits]at h
 | .c9,_,h,_,_=>by simp[V.lits]at h
theorem rB:∀ (vs:List V) {l},V.rH vs=some l->∀ {cs F},RL w Pb vs cs F↔cs=l/\F=[]
 | [],l,h,cs,F=>by simp[V.rH]at h;subst h;simp[RL]
 | v::vs,l,h,cs,F=>by
   simp only[V.rH]at h
   split at h
   rename_i a b h1 h2
   simp at h;subst h
   simp only[RL,yg v h1,rB vs h2]
   exact⟨fun⟨_,_,_,_,e1,e2,⟨e3,e4⟩,e5,e6⟩=>⟨by rw[e1,e3,e5],by rw[e2,e4,e6];rfl⟩,fun⟨e1,e2⟩=>⟨_,_,_,_,e1,(by rw[e2];rfl:_=([]:List Nat)++[]),⟨rfl,rfl⟩,rfl,rfl⟩⟩
   simp at h
end
theorem Ja{v:V}{x y:Value}{Fx:List Nat}(h:v.val? =some y)(hr:RV w Pb v x Fx):x=y/\Fx=[]:=by
 cases v with
 | lit z=>
   simp only[V.val?]at h
   split at h
   obtain⟨_,e,hF⟩:=(hr:R w Pb (.lit z) [x] Fx);simp at e h;exact⟨by rw[e,h],hF⟩
   simp at h
 | agg us=>
   simp only[V.val?,Option.map_eq_some_iff]at h
   obtain⟨l,h1,rfl⟩:=h
   obtain⟨cs,rfl,hr⟩:=(hr:∃ cs,x=.agg cs/\RL w Pb us cs.toList Fx)
   obtain⟨e1,e2⟩:=(rB us h1).1 hr
   exact⟨by rw[<- e1],e2⟩
 | ptr r p g o=>
   simp only[V.val?,Option.some.injEq]at h;subst h
   obtain⟨hF,e⟩:=(hr:R w Pb (.ptr r p g o) [x] Fx);simp at e;exact⟨e,hF⟩
 | _=>simp[V.val?]at h
theorem vb{v:V}{y:Value}(h:v.val? =some y):RV w Pb v y []:=by
 cases v with
 | lit z=>
   simp only[V.val?]at h
   split at h
   rename_i hz;simp at h;subst h;exact⟨hz,rfl,rfl⟩
   simp at h
 | agg us=>
   simp only[V.val?,Option.map_eq_some_iff]at h
   obtain⟨l,h1,rfl⟩:=h
   exact⟨_,rfl,(rB us h1).2 ⟨rfl,rfl⟩⟩
 | ptr r p g o=>
   simp only[V.val?,Option.some.injEq]at h;subst h
   exact⟨rfl,rfl⟩
 | _=>simp[V.val?]at h
theorem qG(hs:s3 N Pb Kb A a w F){x:Operand}{y:Value}(h:(A.ev x).val? =some y):a.eval x=y:=by
 obtain⟨_,hr⟩:=dy hs x
 exact(Ja h hr).1
theorem AG{v:V}{y:Value}{vs:List V}{xs:List Value}(h:v.val? =some y)(hr:RVs w Pb vs xs []):RVs w Pb (v::vs) (y::xs) []:=by
 have:=vb (w:=w) (Pb:=Pb) h
 refine⟨y,xs,[],[],rfl,rfl,?_,hr⟩
 cases v with
 | agg us=>exact this
 | lit _=>exact this
 | ptr _ _ _ _=>exact this
 | _=>simp[V.val?]at h
theorem sk{v1 v2:V}{y1 y2:Value}(h1:v1.val? =some y1)(h2:v2.val? =some y2):RV w Pb (.tup [v1,v2]) (.tuple #[y1,y2]) []:=
 ⟨_,rfl,AG h1 (AG h2 ⟨rfl,rfl⟩)⟩
theorem s3.mod(hs:s3 N Pb Kb A a w F) {t g:Nat} {v':V} (hg:g∈F (.slot t)) (hk:∀ k,k≠g->w'.heap[k]? =w.heap[k]?) (hsz:w'.heap.size=w.heap.size)
 (hv:RV w' Pb v' (a.tmps.getD t undef) (F (.slot t))):s3 N Pb Kb (A.put (some t) v') a w' F where
 size:=hs.size
 defers:=hs.defers
 slot:=fun i=>by
  rw[AS.aC]
  split
  rename_i e;subst e;exact hv
  rename_i e
  refine mA _ (hs.slot i) (fun x hx=>hk x fun c=>?_) (fun x hx=>hk x fun c=>?_) (fun _ h=>h) (fun x hx c=>(hs.free _ x hx).1 (hs.sub x c))
  subst c;exact(hs.free _ _ hg).1 (hs.sub _ hx)
  subst c;exact hs.bX (.slot i) (.slot t) (fun c=>e (by injection c)) _ hx hg
 root:=fun k g' v h=>by
  obtain⟨F',e,hA⟩:=hs.root k g' v h
  refine⟨F',e,?_⟩
  have hne:∀ x,x∈g'::F'->x≠g:=fun x hx c=>by
   subst c;exact hs.bX (.key k) (.slot t) Z8 _ (by rw[e];exact hx) hg
  obtain⟨cs,cells,⟨e1,fr,hb,hfr⟩,hr,hc⟩:=hA
  exact⟨cs,cells,⟨e1,fr,(hk g' (hne g' Z8)).trans hb,hfr⟩,fP _ hr (fun x hx=>hk x fun c=>by subst c;exact(hs.free _ _ hg).1 (hs.sub _ hx)) (fun x hx=>hk x (hne x (by simp[hx]))) (fun _ h=>h)
   (fun x hx c=>(hs.free (.key k) x (by rw[e];simp[hx])).1 (hs.sub x c)),hc⟩
 bX:=hs.bX
 nodup:=hs.nodup
 free:=fun r x hx=>by rw[hsz];exact hs.free r x hx
 sub:=hs.sub
 bound:=fun x hx=>by rw[hsz];exact hs.bound x hx
theorem fD{o:Oper} {K:AS->Prop} {d:Nat} {v:V} (hd:o.dst=some d) (hN:d<N) (hK:K (A.put (some d) v))
 (h:∀ Pb Kb a w F,s3 N Pb Kb A a w F->∃ x,(execOp a.eval o).run P w=.ok (.value x) w/\RV w Pb v x []):D' P N o A K:=
 iB (by rw[hd];exact hN) (by rw[hd];exact hK) h
end
section
variable {P:Program}
def VQ:Cu P where
 X:=Unit
 pre N o A:=match o.op,o.dst with
  | .makeInterface T x,some d=>match Nat.blt d N,tD P T,(A.ev x).val? with
    | true,some _,some y=>(∃ td,P.underlying T=some td/\(∀ i,td≠.interface i))/\(Value.iface T y).oneCell'=true
    | _,_,_=>False
  | _,_=>False
 post _ o A:=match o.op,o.dst with
  | .makeInterface T x,some d=>match (A.ev x).val? with
    | some y=>A.put (some d) (.lit (.iface T y))
    | none=>A
  | _,_=>A
 ok:=by
  rintro N ⟨dst,op,ty,pos,after,C7⟩ A K-hp hK
  replace hK:=hK ()
  simp only at hp hK
  split at hp
  rename_i T x d
  split at hp
  rename_i td0 y e1 e2 e3
  obtain⟨⟨td,h1,h2⟩,h3⟩:=hp
  simp only[e3]at hK
  refine fD rfl (bD e1) hK fun Pb Kb a w F hs=>⟨.iface T y,?_,de h3⟩
  have hy:=qG hs e3
  have hu:=aF (w:=w) h1
  cases td with
  | interface i=>exact absurd rfl (h2 i)
  | _=>simp[execOp,Instr.makeInterface,Sem.run_bind,hu,hy]
  exact hp.elim
  exact hp.elim
def U8(v:V):Cu P where
 X:=Unit
 pre N o A:=match o.op,o.dst with
  | .typeAssert x _ T true,some d=>match Nat.blt d N,A.ev x,v.val? with
    | true,.lit (.iface T' y),some y'=>(∃ td,P.underlying T=some td/\(∀ i,td≠.interface i))/\T'=T/\y'=y
    | _,_,_=>False
  | _,_=>False
 post _ o A:=match o.dst with
  | some d=>A.put (some d) (.tup [v,bV true])
  | none=>A
 ok:=by
  rintro N ⟨dst,op,ty,pos,after,C7⟩ A K-hp hK
  replace hK:=hK ()
  simp only at hp hK
  split at hp
  rename_i x T1 T d
  split at hp
  rename_i T' y y' e1 e2 e3
  obtain⟨⟨td,h1,h2⟩,rfl,rfl⟩:=hp
  refine fD rfl (bD e1) hK fun Pb Kb a w F hs=>⟨.tuple #[y',.bool true],?_,sk e3 rfl⟩
  have hy:=bT hs e2
  have hu:=aF (w:=w) h1
  cases td with
  | interface i=>exact absurd rfl (h2 i)
  | _=>simp[execOp,Instr.typeAssert,Sem.run_bind,hu,hy]
  exact hp.elim
  exact hp.elim
def T7(z:ZT P):Cu P where
 X:=Unit
 pre N o A:=match o.op,o.dst with
  | .typeAssert x _ T true,some d=>match Nat.blt d N,A.ev x,T==z.T with
    | true,.lit (.iface T' y),true=>(∃ td,P.underlying T=some td/\(∀ i,td≠.interface i))/\T'≠T/\(∃ y,z.v.val? =some y/\∀ w,(zeroValue T).run P w=.ok y w)
    | _,_,_=>False
  | _,_=>False
 post _ o A:=match o.dst with
  | some d=>A.put (some d) (.tup [z.v,bV false])
  | none=>A
 ok:=by
  rintro N ⟨dst,op,ty,pos,after,C7⟩ A K-hp hK
  replace hK:=hK ()
  simp only at hp hK
  split at hp
  rename_i x T1 T d
  split at hp
  rename_i T' y e1 e2 e3
  obtain⟨⟨td,h1,h2⟩,hne,y2,hz,Ud⟩:=hp
  refine fD rfl (bD e1) hK fun Pb Kb a w F hs=>⟨.tuple #[y2,.bool false],?_,sk hz rfl⟩
  have hy:=bT hs e2
  have hu:=aF (w:=w) h1
  cases td with
  | interface i=>exact absurd rfl (h2 i)
  | _=>simp[execOp,Instr.typeAssert,Sem.run_bind,hu,hy,hne,Ud]
  exact hp.elim
  exact hp.elim
def jd :List V->Option (List Value)
 | []=>some []
 | v::vs=>match v.val?,jd vs with
   | some y,some ys=>some (y::ys)
   | _,_=>none
theorem mw{N:Nat}{Pb Kb:Nat->Prop}{A:AS}{a:Act}{w:World}{F:l7->List Nat}(hs:s3 N Pb Kb A a w F):∀ (xs:List Operand) {ys:List Value},jd (xs.map A.ev)=some ys->xs.map a.eval=ys
 | [],ys,h=>by simp[jd]at h;simp[h]
 | x::xs,ys,h=>by
   simp only[List.map_cons,jd]at h
   split at h
   rename_i y VD h1 h2
   simp at h;subst h
   rw[List.map_cons,qG hs h1,mw hs xs h2]
   simp at h
def RG:Cu P where
 X:=Unit
 pre N o A:=match o.op,o.dst with
  | .makeFunc fn first w9,some d=>match Nat.blt d N,jd (first.toList.map A.ev),jd (w9.toList.map A.ev) with
    | true,some l1,some l2=>(Value.func fn l1.toArray l2.toArray).oneCell'=true
    | _,_,_=>False
  | _,_=>False
 post _ o A:=match o.op,o.dst with
  | .makeFunc fn first w9,some d=>match jd (first.toList.map A.ev),jd (w9.toList.map A.ev) with
    | some l1,some l2=>A.put (some d) (.lit (.func fn l1.toArray l2.toArray))
    | _,_=>A
  | _,_=>A
 ok:=by
  rintro N ⟨dst,op,ty,pos,after,C7⟩ A K-hp hK
  replace hK:=hK ()
  simp only at hp hK
  split at hp
  rename_i fn first w9 d
  split at hp
  rename_i l1 l2 e1 e2 e3
  simp only[e2,e3]at hK
  refine fD rfl (bD e1) hK fun Pb Kb a w F hs=>⟨.func fn l1.toArray l2.toArray,?_,de hp⟩
  have h1:=mw hs _ e2
  have h2:=mw hs _ e3
  have h1:first.map a.eval=l1.toArray:=by rw[<- h1];apply Array.ext';simp
  have h2:w9.map a.eval=l2.toArray:=by rw[<- h2];apply Array.ext';simp
  simp only[execOp,Instr.makeFunc,Sem.run_bind,Result.andThen_ok,Sem.run_pure,h1,h2]
  exact hp.elim
  exact hp.elim
end
end Go.Abs
namespace Go.Abs
open Go Go.RowKit
section
variable {w w':World} {Pb Kb Pb':Nat->Prop} {N:Nat} {A A' B:AS} {a:Act} {F:l7->List Nat} {P:Program} {ops:Array Oper}
theorem Dt{v:V}{x:Value}(h:v.lits=some [x]):∀ n,RL w Pb (List.replicate n v) (List.replicate n x) []
 | 0=>⟨rfl,rfl⟩
 | n+1=>⟨[x],List.replicate n x,[],[],rfl,rfl,(yg v h).2 ⟨rfl,rfl⟩,Dt h n⟩
theorem Le{x:Value}{n:Nat}{zc:Array Value}(h:zc.toList=[x]):madeCells zc (n*1)=(List.replicate n x).toArray:=by
 have hz:zc= #[x]:=by rw[<- Array.toList_inj];simpa using h
 subst hz
 apply Array.ext
 simp[madeCells]
 intro i h1 h2;simp[madeCells,Nat.mod_one]at h1 ⊢
def Xb(z:ZT P)(n:Nat):Cu P where
 X:=Nat
 pre N o A:=match o.op,o.dst with
  | .makeSlice T l c,some d=>match Nat.blt d N,tD P T,ti P z.T with
    | true,some (.sl e),some i=>(e=z.T/\i.sz=1/\(∃ x,z.v.lits=some [x])/\z.v.n=1)/\A.ev l=.lit (.int .i64 n)/\A.ev c=.lit (.int .i64 n)/\1<=n/\n*i.K6<=140737488355328/\n<=9223372036854775807
    | _,_,_=>False
  | _,_=>False
 post g o A:=match o.dst with
  | some d=>A.put (some d) (.own 1 (List.replicate n z.v) g 0 n)
  | none=>A
 ok:=by
  rintro N ⟨dst,op,ty,pos,after,C7⟩ A K-hp hK
  simp only at hp hK
  split at hp
  rename_i T l c d
  split at hp
  rename_i e i e1 e2 e3
  obtain⟨⟨rfl,hsz,⟨x,hx⟩,Ue⟩,hl,hc,h1,QM,h63⟩:=hp
  obtain⟨inf,z0,LK,hzero,hfl⟩:=z.ok
  obtain⟨QV,_,G7,_,Qb,Qv,_⟩:=jr e3
  rw[LK]at G7
  obtain rfl:=Option.some.inj G7
  have hu:=iA e2
  intro Pb Kb a w F Q hs
  have hl:=bT hs hl
  have hc:=bT hs hc
  have hz0:z0.cells.toList=[x]:=by
   have h1:=rj (w:=w) (Pb:=Pb) z.v hfl
   exact((yg z.v hx).1 h1).1
  have hm:=run_make (P:=P) w T z.T inf z0 hu LK hzero .i64 .i64 n n Z9 Z9 (by rw[Qv,<- Int.natCast_mul,Nat.mul_comm];omega) Z9
  rw[Int.toNat_natCast,Qb,hsz,Le hz0]at hm
  have Mh:(execOp a.eval ⟨some d,.makeSlice T l c,ty,pos,after,C7⟩).run P w=.ok (.value (.slice (some ⟨w.heap.size,0,none⟩) n n)) (w.alloc (.cells (List.replicate n x).toArray z.T)):=by
   simp only[execOp,Sem.run_bind,hl,hc,hm,Result.andThen_ok,Sem.run_pure]
  unfold Oper.wp
  rw[Mh,Oper.upon_value]
  have MA:=hs.nN (.cells (List.replicate n x).toArray z.T)
  have Oj: ¬ Kb w.heap.size:=fun h=>by have:=hs.bound _ h;omega
  have hR:R (w.alloc (.cells (List.replicate n x).toArray z.T)) Pb (.own 1 (List.replicate n z.v) w.heap.size 0 n) [.slice (some ⟨w.heap.size,0,none⟩) n n] [w.heap.size]:=
   .inr ⟨h1,Nat.one_pos,Z8,Z8,fun v QY=>by rw[List.eq_of_mem_replicate QY];exact Ue,fun c=>Oj (hs.sub _ c),_,[],_,rfl,Dt hx n,⟨z.T,(0,0),fI w _,fun i _ h=>by omega⟩,Z8,fun j u hu=>by rw[Nat.zero_add,List.getElem?_toArray];exact hu⟩
  exact⟨_,Pb,Kb,_,hK _,MA.put (bD e1) hR (fun r _ g hg=>by
   obtain rfl:=List.mem_singleton.1 hg
   intro c;have:=(hs.free r _ c).2;omega) Z8 (fun g hg=>by
   obtain rfl:=List.mem_singleton.1 hg
   exact⟨Oj,by rw[dt];omega⟩),fun _ h=>h,fun _ h=>h,fun _ h=>.inl h,x4.alloc hs.bound _⟩
  exact hp.elim
  exact hp.elim
def cv:List (BL×Value)->BL->Option Value
 | [],_=>none
 | p::r,k=>if p.1=k then some p.2 else cv r k
def eW:List (BL×Value)->BL->Value->List (BL×Value)
 | [],k,x=>[(k,x)]
 | p::r,k,x=>if p.1=k then (k,x)::r else p::eW r k x
theorem str_inj{a b:BL}:((⟨a.toArray⟩:ByteArray)== ⟨b.toArray⟩)=decide (a=b):=by
 rw[Bool.eq_iff_iff,MapKept.bytes_beq]
 simp
theorem ku(k:BL):∀ (es:List (BL×Value)) (l:List MapEntry) (i:Nat),l.map (fun e=>(e.key,e.val))=es.map (fun p=>(Value.string ⟨p.1.toArray⟩,p.2))->
 (cv es k=none->Instr.findNow .string (.string ⟨k.toArray⟩) l i=some none)/\
 (∀ x,cv es k=some x->∃ j,Instr.findNow .string (.string ⟨k.toArray⟩) l i=some (some (i+j,x))/\j<l.length/\(∃ e,l[j]? =some e/\e.key=.string ⟨k.toArray⟩)/\
  ∀ y,(l.modify j fun e=>{ e with key:=.string ⟨k.toArray⟩,val:=y }).map (fun e=>(e.key,e.val))=(eW es k y).map (fun p=>(Value.string ⟨p.1.toArray⟩,p.2)))
 | [],l,i,h=>by
   have:l=[]:=by simpa using h
   subst this
   simp[cv,Instr.findNow]
 | p::r,l,i,h=>by
   cases l with
   | nil=>simp at h
   | cons e l=>
     simp only[List.map_cons,List.cons.injEq,Prod.mk.injEq]at h
     obtain⟨⟨h1,h2⟩,h3⟩:=h
     obtain⟨i1,i2⟩:=ku k r l (i+1) h3
     simp only[cv,eW,Instr.findNow,h1,Instr.sameNow,str_inj]
     by_cases hk:p.1=k
     subst hk
     simp only[if_true,decide_true]
     refine⟨Z8,fun x hx=>⟨0,?_,Z8,⟨e,rfl,h1⟩,fun y=>?_⟩⟩
     simp at hx;rw[h2,hx];rfl
     simp[h3]
     have E2: ¬ k=p.1:=fun c=>hk c.symm
     simp only[if_neg hk,decide_eq_false E2]
     refine⟨i1,fun x hx=>?_⟩
     obtain⟨j,j1,j2,⟨e',j3,j4⟩,j5⟩:=i2 x hx
     refine⟨j+1,by rw[j1];congr 2;simp;omega,Z0,⟨e',by simpa using j3,j4⟩,fun y=>?_⟩
     have:=j5 y
     simp only[List.modify_succ_cons,List.map_cons,this,h1,h2]
theorem tf(k:BL)(y:Value):∀ (es:List (BL×Value)),cv es k=none->eW es k y=es++[(k,y)]
 | [],_=>rfl
 | p::r,h=>by
   simp only[cv]at h
   split at h
   simp at h
   rename_i hk;simp only[eW,if_neg hk,tf k y r h,List.cons_append]
theorem nn{e:Bool}{n:Nat}{T:Nat}{k:ByteArray}(h:P.underlying T=some .string):(Instr.checkKey e (n+1) T (.string k)).run P w=.ok () w:=by
 unfold Instr.checkKey
 simp[Sem.run_bind,aF (w:=w) h]
theorem yJ{k:ByteArray}{n:Nat}:Instr.sameBits n (.string k) (.string k)=true:=by
 unfold Instr.sameBits
 exact(MapKept.bytes_beq k k).2 rfl
def VP:Cu P where
 X:=Nat
 pre N o A:=match o.op,o.dst with
  | .makeMap _ none,some d=>match Nat.blt d N with
    | true=>True
    | false=>False
  | _,_=>False
 post g o A:=match o.dst with
  | some d=>A.put (some d) (.om [] g)
  | none=>A
 ok:=by
  rintro N ⟨dst,op,ty,pos,after,C7⟩ A K-hp hK
  simp only at hp hK
  split at hp
  rename_i T d
  split at hp
  rename_i e1
  intro Pb Kb a w F Q hs
  have Mh:(execOp a.eval ⟨some d,.makeMap T none,ty,pos,after,C7⟩).run P w=.ok (.value (.map (some w.heap.size))) (w.alloc (.map #[] 0)):=rfl
  unfold Oper.wp
  rw[Mh,Oper.upon_value]
  have MA:=hs.nN (.map #[] 0)
  have Oj: ¬ Kb w.heap.size:=fun h=>by have:=hs.bound _ h;omega
  have hR:R (w.alloc (.map #[] 0)) Pb (.om [] w.heap.size) [.map (some w.heap.size)] [w.heap.size]:=
   ⟨rfl,rfl,fun c=>Oj (hs.sub _ c),#[],0,fI w _,rfl,Z8,Z8⟩
  exact⟨_,Pb,Kb,_,hK _,MA.put (bD e1) hR (fun r _ g hg=>by
   obtain rfl:=List.mem_singleton.1 hg
   intro c;have:=(hs.free r _ c).2;omega) Z8 (fun g hg=>by
   obtain rfl:=List.mem_singleton.1 hg
   exact⟨Oj,by rw[dt];omega⟩),fun _ h=>h,fun _ h=>h,fun _ h=>.inl h,x4.alloc hs.bound _⟩
  exact hp.elim
  exact hp.elim
def VO(t0:Nat)(es:List (BL×Value))(k:BL)(y:Value):Cu P where
 X:=Unit
 pre N o A:=match o.op,o.dst with
  | .mapUpdate T m kx x,none=>match tD P T,Nat.blt t0 N with
    | some (.map kt _),true=>match tD P kt,A.ev m,A.get t0 with
      | some .str,.lit (.map (some g)),.om NJ g'=>(g'=g/\NJ=es)/\A.ev kx=sV k/\(A.ev x).val? =some y
      | _,_,_=>False
    | _,_=>False
  | _,_=>False
 post _ o A:=match A.get t0 with
  | .om _ g=>A.put (some t0) (.om (eW es k y) g)
  | _=>A
 ok:=by
  rintro N ⟨dst,op,ty,pos,after,C7⟩ A K-hp hK
  replace hK:=hK ()
  simp only at hp hK
  split at hp
  rename_i T m kx x
  split at hp
  rename_i kt et e1 e2
  split at hp
  rename_i g NJ g' e3 e4 e5
  obtain⟨⟨rfl,rfl⟩,hk,hy⟩:=hp
  rw[e5]at hK
  intro Pb Kb a w F Q hs
  have hm:=bT hs e4
  have hk:=bT hs hk
  have hy:=qG hs hy
  have h0:=hs.slot t0
  rw[e5]at h0
  have h0:R w Pb (.om NJ g') [a.tmps.getD t0 undef] (F (.slot t0)):=h0
  obtain⟨hF,hc,Wm,en,cl,hb,QK,hnd,hcl⟩:=h0
  obtain⟨td,hu,hd⟩:=cG e1
  have hu:P.underlying T=some (.map kt et):=by
   cases td <;> simp_all[dm]
  obtain⟨QT,M9,PA⟩:=cG e3
  have M9:P.underlying kt=some .string:=by
   cases QT <;> simp_all[dm]
  have R2:∀ w:World,(Instr.checkKey false 10000 kt (.string (Str k))).run P w=.ok () w:=fun w=>nn M9
  obtain⟨f1,f2⟩:=ku k NJ en.toList 0 QK
  have hw:∃ PH QQ,(Instr.mapUpdate T (.map (some g')) (.string (Str k)) y).run P w=.ok () { w with heap:=w.heap.setIfInBounds g' (.map PH QQ) }/\
   PH.toList.map (fun e=>(e.key,e.val))=(eW NJ k y).map (fun p=>(.string ⟨p.1.toArray⟩,p.2))/\(PH.toList.map (·.born)).Nodup/\∀ e∈PH.toList,e.born<QQ:=by
   cases Wt:cv NJ k with
   | none=>
     have:=f1 Wt
     refine⟨en.push { key:=.string (Str k),val:=y,born:=cl },cl+1,?_,?_,?_,?_⟩
     rw[show (⟨k.toArray⟩:ByteArray)=Str k from rfl]at this
     simp[Instr.mapUpdate,run_underlying hu,MapKept.run_getObj_map hb,R2,MapKept.run_findKey M9 this,MapKept.run_setObj_map _ hb,Result.andThen]
     rw[tf k y NJ Wt];simp[QK,Str]
     simp only[Array.toList_push,List.map_append,List.map_cons,List.map_nil]
     rw[List.nodup_append]
     refine⟨hnd,Z8,fun a ha b hb=>?_⟩
     simp only[List.mem_singleton]at hb
     obtain⟨e,he,rfl⟩:=List.mem_map.1 ha
     have:=hcl e he;omega
     intro e he
     simp only[Array.toList_push,List.mem_append,List.mem_singleton]at he
     rcases he with he | rfl
     have:=hcl e he;omega
     simp
   | some x0=>
     obtain⟨j,j1,j2,⟨e,j3,j4⟩,j5⟩:=f2 x0 Wt
     rw[Nat.zero_add]at j1
     refine⟨en.modify j fun e=>{ e with key:=.string (Str k),val:=y },cl,?_,?_,?_,?_⟩
     rw[show (⟨k.toArray⟩:ByteArray)=Str k from rfl]at j1
     have S3:((en[j]?).map (·.key)).getD (.string (Str k))=.string (Str k):=by
      have:en[j]? =some e:=by rw[<- Array.getElem?_toList];exact j3
      rw[this];exact j4
     simp[Instr.mapUpdate,run_underlying hu,MapKept.run_getObj_map hb,R2,MapKept.run_findKey M9 j1,S3,Instr.keyThatStays,yJ,MapKept.run_setObj_map _ hb,Result.andThen]
     rw[Array.toList_modify];exact j5 y
     rw[Array.toList_modify]
     have:(en.toList.modify j fun e=>{ e with key:=.string (Str k),val:=y }).map (·.born)=en.toList.map (·.born):=by
      apply List.ext_getElem?
      intro i
      simp only[List.getElem?_map,List.getElem?_modify]
      cases en.toList[i]? with
      | none=>rfl
      | some e=>simp only[Option.map_eq_map,Option.map_some];split <;> rfl
     rw[this];exact hnd
     intro e he
     rw[Array.toList_modify]at he
     obtain⟨i,hi⟩:=List.mem_iff_getElem?.1 he
     rw[List.getElem?_modify]at hi
     obtain⟨e',h1,h2⟩:=Option.map_eq_some_iff.1 hi
     have:=hcl e' (List.mem_of_getElem? h1)
     rw[<- h2];split <;> simpa using this
  obtain⟨PH,QQ,y9,q1,q2,q3⟩:=hw
  have hgs:g'<w.heap.size:=(hs.free (.slot t0) g' (by rw[hF];simp)).2
  have Mh:(execOp a.eval ⟨none,.mapUpdate T m kx x,ty,pos,after,C7⟩).run P w=.ok .skip { w with heap:=w.heap.setIfInBounds g' (.map PH QQ) }:=by
   simp[execOp,hm,hk,hy,y9,Result.andThen]
  unfold Oper.wp
  rw[Mh,Oper.upon_skip]
  have hne:∀ k,k≠g'->(w.heap.setIfInBounds g' (.map PH QQ))[k]? =w.heap[k]? :=fun k hk=>by
   rw[Array.getElem?_setIfInBounds_ne (Ne.symm hk)]
  refine⟨_,Pb,Kb,F,hK,hs.mod (w':={ w with heap:=w.heap.setIfInBounds g' (.map PH QQ) }) (t:=t0) (g:=g') (by rw[hF];simp) hne Z8 ?_,fun _ h=>h,fun _ h=>h,fun _ h=>.inl h,⟨rfl,rfl,rfl,Z8,fun k hk=>hne k fun c=>(hs.free (.slot t0) g' (by rw[hF];simp)).1 (c ▸ hk),fun k c _ _ hk=>⟨c,by rw[hne k (by rintro rfl;rw[hb]at hk;cases hk)];exact hk,rfl⟩⟩⟩
  exact(⟨hF,hc,Wm,PH,QQ,(by simp[hgs]:(w.heap.setIfInBounds g' (.map PH QQ))[g']? =some (.map PH QQ)),q1,q2,q3⟩:R { w with heap:=w.heap.setIfInBounds g' (.map PH QQ) } Pb (.om (eW NJ k y) g') _ _)
  exact hp.elim
  exact hp.elim
  exact hp.elim
def mlC(t0:Nat):Cu P where
 X:=Unit
 pre N o A:=match o.op,o.dst with
  | .call ⟨.builtin .len,⟨[x]⟩,⟨[T]⟩⟩,some d=>match tD P T,Nat.blt d N with
    | some (.map _ _),true=>match A.ev x,A.get t0 with
      | .lit (.map (some g)),.om _ g'=>g'=g
      | _,_=>False
    | _,_=>False
  | _,_=>False
 post _ o A:=match o.dst,A.get t0 with
  | some d,.om es _=>A.put (some d) (.lit (.int .i64 es.length))
  | _,_=>A
 ok:=by
  rintro N ⟨dst,op,ty,pos,after,C7⟩ A K-hp hK
  replace hK:=hK ()
  simp only at hp hK
  split at hp
  rename_i x T d
  split at hp
  rename_i kt et e1 e2
  split at hp
  rename_i g es g' e3 e4
  subst hp
  rw[e4]at hK
  refine fD rfl (bD e2) hK fun Pb Kb a w F hs=>⟨.int .i64 es.length,?_,de rfl⟩
  have hm:=bT hs e3
  have h0:=hs.slot t0
  rw[e4]at h0
  have h0:R w Pb (.om es g') [a.tmps.getD t0 undef] (F (.slot t0)):=h0
  obtain⟨hF,hc,Wm,en,cl,hb,QK,hnd,hcl⟩:=h0
  obtain⟨td,hu,hd⟩:=cG e1
  have hu:P.underlying T=some (.map kt et):=by
   cases td <;> simp_all[dm]
  have hl:en.size=es.length:=by
   have:=congrArg List.length QK
   simpa using this
  have hr:((#[x]:Array Operand).map a.eval)= #[.map (some g')]:=by simp[hm]
  simp[execOp,resolve,Deferred.ofValue,invoke,builtin,Builtin.len_,hm,run_underlying hu,MapKept.run_getObj_map hb,Result.andThen,hl,goInt]
  exact hp.elim
  exact hp.elim
  exact hp.elim
def lkC(es:List (BL×Value))(k:BL)(v:V)(ok:Bool):Cu P where
 X:=Unit
 pre N o A:=match o.op,o.dst with
  | .lookup T x kx true,some d=>match tD P T,Nat.blt d N with
    | some (.map kt et),true=>match tD P kt,A.ev x with
      | some .str,.mp NJ=>(NJ=es)/\A.ev kx=sV k/\((ok=true/\∃ y,cv es k=some y/\v.val? =some y)\/(ok=false/\cv es k=none/\∃ y,v.val? =some y/\∀ w,(zeroValue et).run P w=.ok y w))
      | _,_=>False
    | _,_=>False
  | _,_=>False
 post _ o A:=match o.dst with
  | some d=>A.put (some d) (.tup [v,bV ok])
  | none=>A
 ok:=by
  rintro N ⟨dst,op,ty,pos,after,C7⟩ A K-hp hK
  replace hK:=hK ()
  simp only at hp hK
  split at hp
  rename_i T x kx d
  split at hp
  rename_i kt et e1 e2
  split at hp
  rename_i NJ e3 e4
  obtain⟨rfl,hk,hy⟩:=hp
  obtain⟨td,hu,hd⟩:=cG e1
  have hu:P.underlying T=some (.map kt et):=by
   cases td <;> simp_all[dm]
  obtain⟨QT,M9,PA⟩:=cG e3
  have M9:P.underlying kt=some .string:=by
   cases QT <;> simp_all[dm]
  have G':∃ y,v.val? =some y:=by
   rcases hy with ⟨_,y,_,h⟩ | ⟨_,_,y,h,_⟩ <;> exact⟨y,h⟩
  obtain⟨y,hv⟩:=G'
  refine fD rfl (bD e2) hK fun Pb Kb a w F hs=>⟨.tuple #[y,.bool ok],?_,sk hv rfl⟩
  have hk:=bT hs hk
  obtain⟨_,hx⟩:=dy hs x
  rw[e4]at hx
  have hx:R w Pb (.mp NJ) [a.eval x] _:=hx
  obtain⟨_,g,hc,_,en,cl,hb,QK,_,_⟩:=hx
  simp only[List.cons.injEq,and_true]at hc
  obtain⟨f1,f2⟩:=ku k NJ en.toList 0 QK
  have R2:∀ e,(Instr.checkKey e 10000 kt (.string (Str k))).run P w=.ok () w:=fun e=>nn M9
  rcases hy with ⟨rfl,y',h1,h2⟩ | ⟨rfl,h1,y',h2,Ud⟩
  rw[hv]at h2;obtain rfl:=Option.some.inj h2
  obtain⟨j,j1,_⟩:=f2 _ h1
  rw[show (⟨k.toArray⟩:ByteArray)=Str k from rfl]at j1
  simp[execOp,hc,hk,Instr.lookup,run_underlying hu,MapKept.run_getObj_map hb,R2,MapKept.run_findKey M9 j1,Result.andThen]
  rw[hv]at h2;obtain rfl:=Option.some.inj h2
  have j1:=f1 h1
  rw[show (⟨k.toArray⟩:ByteArray)=Str k from rfl]at j1
  simp[execOp,hc,hk,Instr.lookup,run_underlying hu,MapKept.run_getObj_map hb,R2,MapKept.run_findKey M9 j1,Result.andThen,Ud]
  exact hp.elim
  exact hp.elim
  exact hp.elim
def Xc:Cu P where
 X:=Unit
 pre N o A:=match o.op,o.dst with
  | .call ⟨.builtin .len,⟨[x]⟩,⟨[T]⟩⟩,some d=>match tD P T,Nat.blt d N with
    | some (.map _ _),true=>match A.ev x with
      | .mp _=>True
      | _=>False
    | _,_=>False
  | _,_=>False
 post _ o A:=match o.op,o.dst with
  | .call ⟨.builtin .len,⟨[x]⟩,⟨[_]⟩⟩,some d=>match A.ev x with
    | .mp es=>A.put (some d) (.lit (.int .i64 es.length))
    | _=>A
  | _,_=>A
 ok:=by
  rintro N ⟨dst,op,ty,pos,after,C7⟩ A K-hp hK
  replace hK:=hK ()
  simp only at hp hK
  split at hp
  rename_i x T d
  split at hp
  rename_i kt et e1 e2
  split at hp
  rename_i es e3
  simp only[e3]at hK
  refine fD rfl (bD e2) hK fun Pb Kb a w F hs=>⟨.int .i64 es.length,?_,de rfl⟩
  obtain⟨_,hx⟩:=dy hs x
  rw[e3]at hx
  have hx:R w Pb (.mp es) [a.eval x] _:=hx
  obtain⟨_,g,hm,_,en,cl,hb,QK,_,_⟩:=hx
  simp only[List.cons.injEq,and_true]at hm
  obtain⟨td,hu,hd⟩:=cG e1
  have hu:P.underlying T=some (.map kt et):=by
   cases td <;> simp_all[dm]
  have hl:en.size=es.length:=by
   have:=congrArg List.length QK
   simpa using this
  simp[execOp,resolve,Deferred.ofValue,invoke,builtin,Builtin.len_,hm,run_underlying hu,MapKept.run_getObj_map hb,Result.andThen,hl,goInt]
  exact hp.elim
  exact hp.elim
  exact hp.elim
end
end Go.Abs

namespace Go.Pd
theorem drop_cons{α:Type}{l:List α}{i:Nat}(h:i<l.length)(d:α):l.drop i=l.getD i d::l.drop (i+1):=by
 rw[List.drop_eq_getElem_cons h,List.getD_eq_getElem?_getD,List.getElem?_eq_getElem h];rfl
theorem bj{α:Type}{l:List α}{i:Nat}(h:i<l.length)(d:α):l.take (i+1)=l.take i++[l.getD i d]:=by
 rw[List.take_add_one,List.getD_eq_getElem?_getD,List.getElem?_eq_getElem h];rfl
theorem all_false{α:Type}{l:List α}{p:α->Bool}{i:Nat}{d:α}(h:i<l.length)(hp:p (l.getD i d)=false):l.all p=false:=by
 rw[List.all_eq_false]
 refine⟨l.getD i d,?_,by rw[hp];decide⟩
 rw[List.getD_eq_getElem?_getD,List.getElem?_eq_getElem h];exact List.getElem_mem h
theorem all_true{α:Type}{l:List α}{p:α->Bool}{d:α}(hp:∀ j,j<l.length->p (l.getD j d)=true):l.all p=true:=by
 rw[List.all_eq_true]
 intro x hx
 obtain⟨j,hj,rfl⟩:=List.getElem_of_mem hx
 have:=hp j hj
 rwa [List.getD_eq_getElem?_getD,List.getElem?_eq_getElem hj]at this
theorem bP{p:Nat->Prop}{i:Nat}(h:∀ j,j<i->p j)(hi:p i):∀ j,j<i+1->p j:=fun j hj=>by
 rcases Nat.lt_succ_iff_lt_or_eq.1 hj with h' | rfl
 exact h j h'
 exact hi
def ag(c:UInt8):BL->BL×BL×Bool
 | []=>([],[],false)
 | x::r=>if x=c then ([],r,true) else (x::(ag c r).1,(ag c r).2.1,(ag c r).2.2)
def gz(b:UInt8):Bool:=decide (97<=b.toNat/\b.toNat<=122)
def dN(b:UInt8):Bool:=decide ((97<=b.toNat/\b.toNat<=122)\/(48<=b.toNat/\b.toNat<=57)\/b.toNat=46\/b.toNat=45)
def ct(b:UInt8):Int:=if 48<=b.toNat/\b.toNat<=57 then b.toNat-48 else if 97<=b.toNat/\b.toNat<=102 then b.toNat-87 else if 65<=b.toNat/\b.toNat<=70 then b.toNat-55 else -1
def y8(n lo hi:Int):Bool:=decide (lo<=n/\n<=hi)
def fA(s:BL):Bool:=s.all gz
def bU(s:BL):Bool:=fA s&&y8 s.length 1 5
def bh(s:BL):Bool:=fA s&&y8 s.length 1 8
def eY(s part:BL)(from_:Nat):Int:=
 if h:from_+part.length<=s.length then (if (s.drop from_).take part.length=part then (from_:Int) else eY s part (from_+1)) else -1
 termination_by s.length+1-from_
def iQ(b:UInt8):Bool:=dN b||decide (b.toNat=47\/b.toNat=42\/b.toNat=63\/b.toNat=37\/(65<=b.toNat/\b.toNat<=70))
def kN(p:BL)(j:Nat):Bool:=iQ (p.getD j 0)||(decide ((p.getD j 0).toNat=36)&&decide (j+1=p.length))
def aO(p:BL):Bool:=decide (1<=p.length/\p.length<=16/\(p.getD 0 0).toNat=47/\∀ j,j<p.length->kN p j=true)
def km:BL:=[48,49,50,51,52,53,54,55,56,57,65,66,67,68,69,70]
def eP(b:UInt8):BL:=[37,km.getD (b.toNat / 16) 0,km.getD (b.toNat % 16) 0]
def eH(b:UInt8):BL:=if dN b then [b] else eP b
def db(a b:UInt8):UInt8:=UInt8.ofNat (ct a*16+ct b).toNat
def bJ:BL->Option BL
 | []=>some []
 | [c]=>if c.toNat=37 then none else some (eH c)
 | [c,d]=>if c.toNat=37\/d.toNat=37 then none else some (eH c++eH d)
 | c::a::b::r=>if c.toNat=37 then (if 0<=ct a/\0<=ct b then (bJ r).map (eH (db a b)++ ·) else none) else (bJ (a::b::r)).map (eH c++ ·)
def bQ(s:BL):BL×Bool:=if s.length<=60 then (match bJ s with | some x=>(x,true) | none=>([],false)) else ([],false)
def eS(s:BL):Bool:=(bQ s).2&&((bQ s).1==s)
theorem Dz{c:UInt8}{r:BL}(h: ¬ c.toNat=37):bJ (c::r)=(bJ r).map (eH c++ ·):=by
 match r with
 | []=>simp[bJ,h]
 | [d]=>by_cases hd:d.toNat=37 <;> simp[bJ,h,hd]
 | a::b::r=>simp[bJ,h]
theorem nE{s:BL}{i:Nat}(hi:i<s.length)(h: ¬ (s.getD i 0).toNat=37):bJ (s.drop i)=(bJ (s.drop (i+1))).map (eH (s.getD i 0)++ ·):=by
 rw[drop_cons hi 0,Dz h]
theorem pN{s:BL}{i:Nat}(hi:i+2<s.length)(h:(s.getD i 0).toNat=37)(h1:0<=ct (s.getD (i+1) 0))(h2:0<=ct (s.getD (i+2) 0)):
 bJ (s.drop i)=(bJ (s.drop (i+3))).map (eH (db (s.getD (i+1) 0) (s.getD (i+2) 0))++ ·):=by
 rw[drop_cons (by omega:i<s.length) 0,drop_cons (by omega:i+1<s.length) 0,drop_cons (by omega:i+1+1<s.length) 0]
 simp only[bJ,h,if_true,h1,h2,and_self,Nat.add_assoc]
theorem zf{s:BL}{i:Nat}(hi:i<s.length)(h:(s.getD i 0).toNat=37)(h1:s.length<=i+2\/ct (s.getD (i+1) 0)<0\/ct (s.getD (i+2) 0)<0):bJ (s.drop i)=none:=by
 rw[drop_cons hi 0]
 by_cases h2:i+2<s.length
 rw[drop_cons (by omega:i+1<s.length) 0,drop_cons (by omega:i+1+1<s.length) 0]
 simp only[bJ,h,if_true]
 rw[if_neg]
 rintro⟨k1,k2⟩
 have e:i+1+1=i+2:=rfl
 rw[e]at k2
 omega
 by_cases h3:i+1<s.length
 rw[drop_cons h3 0,List.drop_eq_nil_of_le Z9]
 simp only[bJ,h,true_or,if_true]
 rw[List.drop_eq_nil_of_le Z9]
 simp only[bJ,h,if_true]
theorem fE(b:UInt8):ct b<16:=by unfold ct;repeat (split <;> try omega)
theorem ib(b:UInt8): -1<=ct b:=by unfold ct;repeat (split <;> try omega)
theorem sW{a b:UInt8}(h1:0<=ct a)(h2:0<=ct b):((db a b).toNat:Int)=ct a*16+ct b:=by
 have:=fE a;have:=fE b
 unfold db
 rw[UInt8.toNat_ofNat']
 omega
theorem qp{α:Type}{l:List α}{k:Nat}(h:k<l.length)(d:α):(l.take (k+1)).drop k=[l.getD k d]:=by
 rw[bj h d,List.drop_append_of_le_length Z0,List.drop_eq_nil_of_le Z0];rfl
theorem eK(b:UInt8):(eH b).length<=3:=by unfold eH eP;split <;> simp
theorem tt:∀ (s:BL) {x:BL},bJ s=some x->x.length<=3*s.length
 | [],x,h=>by simp[bJ]at h;subst h;simp
 | [c],x,h=>by
   simp only[bJ]at h;split at h
   simp at h
   simp only[Option.some.injEq]at h;subst h;have:=eK c;simpa using this
 | [c,d],x,h=>by
   simp only[bJ]at h;split at h
   simp at h
   simp only[Option.some.injEq]at h;subst h;have:=eK c;have:=eK d;simp;omega
 | c::a::b::r,x,h=>by
   simp only[bJ]at h
   split at h
   split at h
   simp only[Option.map_eq_some_iff]at h
   obtain⟨y,hy,rfl⟩:=h
   have:=tt r hy;have:=eK (db a b);simp;omega
   simp at h
   simp only[Option.map_eq_some_iff]at h
   obtain⟨y,hy,rfl⟩:=h
   have:=tt (a::b::r) hy;have:=eK c;simp at *;omega
theorem qa(s:BL):(bQ s).1.length<=180:=by
 unfold bQ
 split
 split
 rename_i x h;have:=tt s h;simp only;omega
 simp
 simp
def aj(c:UInt8):BL->List BL
 | []=>[[]]
 | x::r=>if x=c then []::aj c r else (x::(aj c r).headD [])::(aj c r).tail
theorem vk(c:UInt8):∀ r,aj c r=(ag c r).1::(if (ag c r).2.2=true then aj c (ag c r).2.1 else [])
 | []=>rfl
 | x::r=>by
   have ih:=vk c r
   by_cases h:x=c
   simp only[aj,ag,if_pos h,if_true]
   simp only[aj,ag,if_neg h]
   rw[ih];rfl
theorem yP(c:UInt8):∀ r,(ag c r).2.2=true->(ag c r).2.1.length<r.length
 | [],h=>by simp[ag]at h
 | x::r,h=>by
   simp only[ag]at h ⊢
   by_cases e:x=c
   rw[if_pos e];simp
   rw[if_neg e]at h ⊢
   have:=yP c r h
   simp only[List.length_cons];omega
theorem lO(c:UInt8):∀ r,(ag c r).1.length+(ag c r).2.1.length<=r.length
 | []=>by simp[ag]
 | x::r=>by
   simp only[ag]
   by_cases e:x=c
   rw[if_pos e];simp
   rw[if_neg e];have:=lO c r;simp only[List.length_cons];omega
def cK(o:List BL)(p:BL):List BL:=if p=[]\/p=[46] then o else if p=[46,46] then o.dropLast else o++[p]
def bR(ps:List BL):List BL:=ps.foldl cK []
theorem gY{ps:List BL}{i:Nat}(h:i<ps.length):bR (ps.take (i+1))=cK (bR (ps.take i)) (ps.getD i []):=by
 unfold bR
 rw[bj h [],List.foldl_append];rfl
structure s4 where
 h9:BL
 b9:List BL
 asks:Bool
 ask:BL
def bZ:List BL->BL
 | []=>[]
 | [p]=>p
 | p::q::r=>p++[47]++bZ (q::r)
theorem me(p:BL):∀ (ps:List BL),bZ (ps++[p])=if ps=[] then p else bZ ps++[47]++p
 | []=>rfl
 | [q]=>by simp[bZ]
 | q::r::t=>by
   have:=me p (r::t)
   simp only[List.cons_append,bZ]at this ⊢
   rw[this,if_neg Z8,if_neg Z8]
   simp[List.append_assoc]
def bm(a:s4):BL:=[47]++bZ a.b9++(if a.asks=true then [63]++a.ask else [])
def cC(a:s4):BL:=[47,47]++a.h9++bm a
def dV(p:BL):Bool:=eS p&&!(p==[])&&!(p==[46])&&!(p==[46,46])
def aI(a:s4):Bool:=bU a.h9&&decide (a.b9.length<=5)&&eS a.ask&&(a.asks||a.ask==[])&&a.b9.all dV&&decide ((cC a).length<=60)
def dR(a:s4):Prop:=a.h9.length<=1048576/\a.ask.length<=1048576/\a.b9.length<=1048576/\∀ i,(a.b9.getD i []).length<=1048576
theorem qx{ps:List BL}(h:∀ i,(ps.getD i []).length<=1048576):∀ i,i<=ps.length->(bZ (ps.take i)).length<=i*1048577
 | 0,_=>by simp[bZ]
 | i+1,hi=>by
   have:=qx h i Z9
   have h2:=h i
   rw[bj (by omega:i<ps.length) [],me]
   split
   omega
   simp only[List.length_append,List.length_cons,List.length_nil];omega
theorem CJ{a:s4}(h:dR a):(bm a).length<=2199023255552:=by
 obtain⟨h1,h2,h3,h4⟩:=h
 have:=qx h4 a.b9.length (Nat.le_refl _)
 rw[List.take_length]at this
 unfold bm
 split <;> simp <;> omega
theorem nG{s:BL}(h:eS s=true):s.length<=60:=by
 unfold eS bQ at h
 split at h
 assumption
 simp at h
def dE(b:UInt8):UInt8:=if 65<=b.toNat/\b.toNat<=90 then b+32 else b
def aN(s:BL):BL:=s.map dE
theorem wI{x:UInt8}(h:65<=x.toNat/\x.toNat<=90):(dE x).toNat=x.toNat+32:=by
 unfold dE
 rw[if_pos h,UInt8.toNat_add]
 have:(32:UInt8).toNat=32:=rfl
 omega
theorem rf{s l:BL}{i:Nat}(hi:i<s.length)(h:l=aN (s.take i)++s.drop i):l.getD i 0=s.getD i 0:=by
 have hl:(aN (s.take i)).length=i:=by simp[aN];omega
 rw[h,List.getD_eq_getElem?_getD,List.getElem?_append_right Z9,hl,Nat.sub_self,drop_cons hi 0];rfl
theorem uT{s l:BL}{i:Nat}(hi:i<s.length)(h:l=aN (s.take i)++s.drop i):l.set i (dE (s.getD i 0))=aN (s.take (i+1))++s.drop (i+1):=by
 have hl:(aN (s.take i)).length=i:=by simp[aN];omega
 rw[h,List.set_append_right _ _ Z9,hl,Nat.sub_self,drop_cons hi 0,bj hi 0]
 simp[aN]
theorem xk{s l:BL}{i:Nat}(hi:i<s.length)(h:l=aN (s.take i)++s.drop i):l.set i (dE (l.getD i 0))=aN (s.take (i+1))++s.drop (i+1):=by
 rw[rf hi h];exact uT hi h
theorem ue{s l:BL}{i:Nat}(hi:i<s.length)(h:l=aN (s.take i)++s.drop i)(hn: ¬ (65<=(l.getD i 0).toNat/\(l.getD i 0).toNat<=90)):l=aN (s.take (i+1))++s.drop (i+1):=by
 rw[<- uT hi h]
 rw[rf hi h]at hn
 rw[show dE (s.getD i 0)=s.getD i 0 from if_neg hn,<- rf hi h]
 have hlt:i<l.length:=by rw[h];simp[aN];omega
 apply List.ext_getElem?
 intro j
 by_cases e:i=j
 subst e;simp[hlt]
 rw[List.getElem?_set_ne e]
def oA(o:Option s4):s4:=o.getD ⟨[],[],false,[]⟩
def eG(x:BL):BL:=(bQ x).1
def fa(x:BL):Bool:=(bQ x).2
def bu(h:BL)(fr:List BL)(n8:BL):Option s4:=
 if ((aj 47 (ag 63 n8).1).all fa&&fa (ag 63 n8).2.1)=true then
  (if aI ⟨h,bR (fr++(aj 47 (ag 63 n8).1).map eG),(ag 63 n8).2.2,eG (ag 63 n8).2.1⟩=true then some ⟨h,bR (fr++(aj 47 (ag 63 n8).1).map eG),(ag 63 n8).2.2,eG (ag 63 n8).2.1⟩ else none) else none
theorem qU(c:UInt8):∀ s:BL,(aj c s).length<=s.length+1
 | []=>by simp[aj]
 | x::r=>by
   have:=qU c r
   simp only[aj]
   split
   simp;omega
   simp;omega
theorem DS(l:List BL)(n:Nat)(h:∀ p∈l,p.length<=n):(l.headD []).length<=n:=by
 cases l with
 | nil=>simp
 | cons a l=>exact h a Z8
theorem xm(c:UInt8):∀ (s:BL),∀ p∈aj c s,p.length<=s.length
 | [],p,hp=>by simp[aj]at hp;subst hp;simp
 | x::r,p,hp=>by
   have ih:=xm c r
   simp only[aj]at hp
   split at hp
   simp only[List.mem_cons]at hp
   rcases hp with rfl | hp
   simp
   have:=ih p hp;simp;omega
   simp only[List.mem_cons]at hp
   rcases hp with rfl | hp
   have:=DS _ _ ih;simp at this ⊢;omega
   have:=ih p (List.mem_of_mem_tail hp);simp;omega
theorem kQ{ps:List BL}{n:Nat}(h:∀ p∈ps,p.length<=n)(i:Nat):(ps.getD i []).length<=n:=by
 rw[List.getD_eq_getElem?_getD]
 cases e:ps[i]? with
 | none=>simp
 | some p=>exact h p (List.mem_of_getElem? e)
theorem qE(c:UInt8)(s:BL)(i:Nat):((aj c s).getD i []).length<=s.length:=kQ (xm c s) i
theorem vl(ps:List BL):∀ (o:List BL),(∀ p∈ps.foldl cK o,p∈o\/p∈ps)/\(ps.foldl cK o).length<=o.length+ps.length:=by
 induction ps with
 | nil=>intro o;exact⟨fun p h=>.inl h,Z8⟩
 | cons q ps ih=>
   intro o
   obtain⟨h1,h2⟩:=ih (cK o q)
   have hs:(∀ p∈cK o q,p∈o\/p=q)/\(cK o q).length<=o.length+1:=by
    unfold cK
    split
    exact⟨fun p h=>.inl h,Z9⟩
    split
    exact⟨fun p h=>.inl (List.dropLast_subset _ h),Z0⟩
    exact⟨fun p h=>by simpa using h,Z8⟩
   refine⟨fun p hp=>?_,by simp only[List.foldl_cons,List.length_cons];omega⟩
   rcases h1 p hp with h | h
   rcases hs.1 p h with h | h
   exact .inl h
   exact .inr (by simp[h])
   exact .inr (by simp[h])
theorem wC{ps:List BL}{p:BL}(h:p∈bR ps):p∈ps:=by
 rcases (vl ps []).1 p h with h | h
 simp at h
 exact h
theorem wq(ps:List BL):(bR ps).length<=ps.length:=by have:=(vl ps []).2;simp only[List.length_nil,Nat.zero_add]at this;exact this
theorem Jv{a:s4}{ls:List BL}{k:Bool}{q:BL}(ha:dR a)(hp:a.b9.length<=1000)(hl:ls.length<=2000):dR ⟨a.h9,bR (a.b9++ls.map eG),k,eG q⟩:=by
 obtain⟨h1,h2,h3,h4⟩:=ha
 refine⟨h1,?_,?_,fun i=>?_⟩
 have:=qa q;simp only[eG];omega
 have:=wq (a.b9++ls.map eG);simp only[List.length_append,List.length_map]at this ⊢;omega
 refine kQ (n:=1048576) (fun p Uu=>?_) i
 rcases List.mem_append.1 (wC Uu) with h | h
 obtain⟨j,hj,rfl⟩:=List.getElem_of_mem h
 have:=h4 j
 rwa [List.getD_eq_getElem?_getD,List.getElem?_eq_getElem hj]at this
 obtain⟨y,_,rfl⟩:=List.mem_map.1 h
 have:=qa y;simp only[eG];omega
def ir(c:UInt8):Bool:=decide (¬ (c.toNat=47\/c.toNat=63))
theorem yv{s:BL}{p:UInt8->Bool}:∀ {i:Nat},i<=s.length->(∀ j,j<i->p (s.getD j 0)=true)->(i=s.length\/p (s.getD i 0)=false)->s.takeWhile p=s.take i/\s.dropWhile p=s.drop i:=by
 induction s with
 | nil=>intro i hi _ _;simp
 | cons x s ih=>
   intro i hi h1 h2
   cases i with
   | zero=>
     rcases h2 with h2 | h2
     simp at h2
     have:p x=false:=by simpa using h2
     simp[List.takeWhile_cons,List.dropWhile_cons,this]
   | succ i=>
     have hx:p x=true:=by simpa using h1 0 Z9
     obtain⟨k1,k2⟩:=ih (i:=i) (by simpa using hi) (fun j hj=>by have:=h1 (j+1) Z9;simpa using this) (by
      rcases h2 with h2 | h2
      left;simpa using h2
      right;simpa using h2)
     simp[List.takeWhile_cons,List.dropWhile_cons,hx,k1,k2]
def da(rest:BL):Option s4:=bu (aN (rest.takeWhile ir)) [] (rest.dropWhile ir)
def ar(raw:BL):Option s4:=
 if raw.length<=60/\2<=(ag 35 raw).1.length/\(ag 35 raw).1.take 2=[47,47] then da ((ag 35 raw).1.drop 2) else none
def bB(a:s4):BL:=if aI a=true then cC a else []
def aD(s:BL):Bool:=(ar s).isSome&&(bB (oA (ar s))==s)
theorem JS{h:BL}{fr:List BL}{n8:BL}{a:s4}(e:bu h fr n8=some a):aI a=true:=by
 unfold bu at e
 split at e
 split at e
 rename_i hk;simp only[Option.some.injEq]at e;subst e;exact hk
 simp at e
 simp at e
theorem Iq{s:BL}{a:s4}(e:ar s=some a):aI a=true:=by
 unfold ar at e
 split at e
 exact JS e
 simp at e
theorem Ld{a:s4}(h:aI a=true):dR a:=by
 unfold aI bU y8 at h
 simp only[Bool.and_eq_true,decide_eq_true_eq,List.all_eq_true]at h
 obtain⟨⟨⟨⟨⟨⟨_,h1⟩,h2⟩,h3⟩,_⟩,h4⟩,_⟩:=h
 have:=nG h3
 refine⟨Z9,Z9,Z9,fun i=>kQ (n:=1048576) (fun p hp=>?_) i⟩
 have:=h4 p hp
 unfold dV at this
 simp only[Bool.and_eq_true]at this
 have:=nG this.1.1.1
 omega
theorem uB(s:BL):dR (oA (ar s)):=by
 cases e:ar s with
 | none=>exact⟨by simp[oA],by simp[oA],by simp[oA],by simp[oA]⟩
 | some a=>exact Ld (Iq e)
def eV(p:BL):Bool:=decide ((p.getD (p.length-1) 0).toNat=36)
def bE(p:BL):BL:=if eV p=true then p.take (p.length-1) else p
def lx(e:Bool)(s:BL):Nat->List BL->Bool
 | at_,[]=>!e||decide (at_=s.length)
 | at_,p::r=>if (e&&r.isEmpty)=true then decide (at_+p.length<=s.length)&&(s.drop (s.length-p.length)==p)
   else if eY s p at_<0 then false else lx e s ((eY s p at_).toNat+p.length) r
def tw(p s:BL):Bool:=
 ((aj 42 (bE p)).headD []).isPrefixOf s&&lx (eV p) s ((aj 42 (bE p)).headD []).length (aj 42 (bE p)).tail
theorem DV{e:Bool}{s p:BL}{q:Nat}{r:List BL}(h: ¬ (e=true/\r=[]))(hf:eY s p q<0):lx e s q (p::r)=false:=by
 simp only[lx]
 rw[if_neg (by simpa using h),if_pos hf]
structure o9 where
 C8:Bool
 path:BL
def cw(p s:BL):Bool:=aO p&&decide (s.length<=60)&&tw p s
def dF(s:BL)(x:Int×Bool)(r:o9):Int×Bool:=
 if cw r.path s=false\/(r.path.length:Int)<x.1 then x else (r.path.length,r.C8||(decide ((r.path.length:Int)=x.1)&&x.2))
def aH(rs:List o9)(s:BL):Bool:=(rs.foldl (dF s) (-1,true)).2
theorem ug{p:BL}(h:aO p=true):1<=p.length/\p.length<=16:=by
 unfold aO at h;simp only[decide_eq_true_eq]at h;exact⟨h.1,h.2.1⟩
theorem foldl_succ{α β:Type}{f:β->α->β}{b:β}{l:List α}{i:Nat}{d:α}(h:i<l.length):(l.take (i+1)).foldl f b=f ((l.take i).foldl f b) (l.getD i d):=by
 rw[bj h d,List.foldl_append];rfl
end Go.Pd
namespace Go.Abs
open Go.Pd
abbrev au(r:o9):V:=.agg [bV r.C8,sV r.path]
end Go.Abs
namespace Go.Pd
def jq(m:Int)(n:Int)(c:UInt8):Int:=min (n*10+(c.toNat-48)) m
def iK(s:BL)(m:Int):Int:=if s.all (fun c=>decide (48<=c.toNat/\c.toNat<=57))=true then s.foldl (jq m) 0 else 0
structure l3 where
 na:List BL
 ru:List o9
 wa:Nat
end Go.Pd
namespace Go.Abs
open Go.Pd
abbrev bM(g:l3):V:=.agg [.sl false (g.na.map sV),.sl false (g.ru.map au),iV g.wa]
end Go.Abs
namespace Go.Pd
def jh:List BL:=[[47],[47,97],[47,98],[47,97,47],[47,42,98],[47,97,36],[47,99],[47,42,63],[47,97,47,98],[47,42,47,98,36],[47,36],[47,98,42,99],[47,110,111,116,105,99,101],[47,42]]
def aP:List BL:=[[97,98],[99,100],[101],[102,111,120]]
def m4(s:BL):Prop:= ∀ c,c∈s->c.toNat<128
def Gq(s:BL):Bool:=s.all fun c=>decide (c.toNat<128)
theorem bF{s:BL}(h:Gq s=true):m4 s:=fun c hc=>by
 have:=List.all_eq_true.1 h c hc;simpa using this
theorem bb:m4 []:=fun c hc=>by simp at hc
theorem m4.app{a b:BL}(h1:m4 a)(h2:m4 b):m4 (a++b):=fun c hc=>(List.mem_append.1 hc).elim (h1 c) (h2 c)
theorem dC{l:List BL}{x:BL}(h:l.all Gq=true)(hx:x∈l):m4 x:=bF (List.all_eq_true.1 h x hx)
theorem eA{l:List BL}(h:l.all Gq=true)(i:Nat):m4 (l.getD i []):=by
 rw[List.getD_eq_getElem?_getD]
 cases e:l[i]? with
 | none=>exact bb
 | some x=>exact dC h (List.mem_of_getElem? e)
structure B6 (g:l3):Prop where
 nl:g.na.length<=2
 nb:∀ x,x∈g.na->x.length<=5
 rl:g.ru.length<=4
 rb:∀ r,r∈g.ru->r.path∈jh
 w:g.wa<=6
 ac:∀ x,x∈g.na->m4 x
theorem bO{l:List BL}{n:Nat}(h:l.all (fun x=>Nat.ble x.length n)=true){x:BL}(hx:x∈l):x.length<=n:=Nat.le_of_ble_eq_true (List.all_eq_true.1 h x hx)
theorem gD{α:Type}{P:α->Prop}{l:List α}{x:α}(h:∀ y,y∈l->P y)(hx:P x):∀ y,y∈l++[x]->P y:=fun y hy=>by
 rcases List.mem_append.1 hy with q | q
 exact h y q
 rw[List.mem_singleton.1 q];exact hx
abbrev zqR:o9:=⟨false,[]⟩
abbrev zqG:l3:=⟨[],[],0⟩
structure Pg where
 addr:BL
 text:BL
 lead:BL
 m0:Int
def l5:Pg:=⟨[],[],[],0⟩
def B3:List Pg->BL->Pg×Bool
 | [],_=>(l5,false)
 | p::r,a=>if p.addr=a then (p,true) else B3 r a
theorem BG{l:List BL}(h:l.length<=2)(hx:∀ x,x∈l->x.length<=6):(bZ l).length<=13:=by
 match l,h with
 | [],_=>simp[bZ]
 | [x],_=>have:=hx x Z8;simp[bZ];omega
 | [x,y],_=>have:=hx x Z8;have:=hx y Z8;simp[bZ];omega
theorem cX{l:List BL}{n:Nat}(h:l.all (fun x=>Nat.ble x.length n)=true)(i:Nat):(l.getD i []).length<=n:=by
 rw[List.getD_eq_getElem?_getD]
 cases e:l[i]? with
 | none=>simp
 | some x=>exact bO h (List.mem_of_getElem? e)
theorem nK{a:s4}(h1:a.h9.length<=3)(h2:a.b9.length<=2)(h3:∀ x,x∈a.b9->x.length<=6)(h4:a.ask.length<=5):dR a/\(bB a).length<=25:=by
 refine⟨⟨Z9,Z9,Z9,fun i=>?_⟩,?_⟩
 rw[List.getD_eq_getElem?_getD]
 cases e:a.b9[i]? with
 | none=>simp
 | some x=>have:=h3 x (List.mem_of_getElem? e);simp;omega
 have:=BG h2 h3
 unfold bB cC bm
 split
 split <;> simp <;> omega
 simp
def dw(n:Nat):BL:=if n<10 then [UInt8.ofNat (48+n)] else dw (n / 10)++[UInt8.ofNat (48+n % 10)]
 termination_by n
theorem qc(n:Nat)(h:n<=1000000):(dw n).length<=7:=by
 have:∀ k n,n<10 ^ (k+1)->(dw n).length<=k+1:=by
  intro k
  induction k with
  | zero=>intro n hn;rw[dw,if_pos Z9];simp
  | succ k ih=>
    intro n hn
    rw[dw]
    split
    simp
    have:=ih (n / 10) (by rw[Nat.pow_succ]at hn;omega)
    simp;omega
 exact this 6 n Z9
end Go.Pd
namespace Go.Abs
open Go.Pd
abbrev r5(p:Pg):V:=.agg [sV p.addr,sV p.text,sV p.lead,iV p.m0]
end Go.Abs
namespace Go.Pd
theorem rS{gs:List l3}(hg:∀ y,y∈gs->B6 y)(i:Nat):B6 (gs.getD i ⟨[],[],0⟩):=by
 rw[List.getD_eq_getElem?_getD]
 cases e:gs[i]? with
 | none=>exact⟨Z8,Z8,Z8,Z8,Z8,Z8⟩
 | some x=>exact hg x (List.mem_of_getElem? e)
theorem fM{gs:List l3}(hg:∀ y,y∈gs->B6 y)(i k:Nat):((gs.getD i ⟨[],[],0⟩).na.getD k []).length<=5:=by
 rw[List.getD_eq_getElem?_getD (l:=l3.na _)]
 cases e:(gs.getD i ⟨[],[],0⟩).na[k]? with
 | none=>simp
 | some x=>exact(rS hg i).nb x (List.mem_of_getElem? e)
theorem qY{gs:List l3}(hg:∀ y,y∈gs->B6 y)(i k:Nat):m4 ((gs.getD i ⟨[],[],0⟩).na.getD k []):=by
 rw[List.getD_eq_getElem?_getD (l:=l3.na _)]
 cases e:(gs.getD i ⟨[],[],0⟩).na[k]? with
 | none=>exact bb
 | some x=>exact(rS hg i).ac x (List.mem_of_getElem? e)
theorem qI{gs:List l3}(hg:∀ y,y∈gs->B6 y)(i k:Nat):m4 ((gs.getD i ⟨[],[],0⟩).ru.getD k ⟨false,[]⟩).path:=by
 rw[List.getD_eq_getElem?_getD (l:=l3.ru _)]
 cases e:(gs.getD i ⟨[],[],0⟩).ru[k]? with
 | none=>exact bb
 | some x=>exact dC rfl ((rS hg i).rb x (List.mem_of_getElem? e))
theorem fQ{gs:List l3}(hg:∀ y,y∈gs->B6 y)(i k:Nat):((gs.getD i ⟨[],[],0⟩).ru.getD k ⟨false,[]⟩).path.length<=7:=by
 rw[List.getD_eq_getElem?_getD (l:=l3.ru _)]
 cases e:(gs.getD i ⟨[],[],0⟩).ru[k]? with
 | none=>simp
 | some x=>exact bO rfl ((rS hg i).rb x (List.mem_of_getElem? e))
theorem qZ:∀ {l:List BL},(∀ x,x∈l->m4 x)->m4 (bZ l)
 | [],_=>bb
 | [p],h=>h p Z8
 | p::q::r,h=>((h p Z8).app (bF rfl)).app (qZ fun x hx=>h x (by simp[hx]))
theorem AX{a:s4}(h1:m4 a.h9)(h2:∀ x,x∈a.b9->m4 x)(h3:m4 a.ask):m4 (bB a):=by
 unfold bB cC bm
 split
 refine((bF rfl).app h1).app (((bF rfl).app (qZ h2)).app ?_)
 split
 exact(bF rfl).app h3
 exact bb
 exact bb
theorem kS(n:Nat):m4 (dw n):=by
 induction n using Nat.strongRecOn with
 | ind n ih=>
   rw[dw]
   split
   intro c hc
   rw[List.mem_singleton.1 hc,UInt8.toNat_ofNat'];omega
   refine(ih (n / 10) Z9).app ?_
   intro c hc
   rw[List.mem_singleton.1 hc,UInt8.toNat_ofNat'];omega
structure m8 (y:Pg):Prop where
 a:y.addr.length<=30
 t:y.text.length<=300
 l:y.lead.length<=30
 f:0<=y.m0/\y.m0<=10
 aa:m4 y.addr
 la:m4 y.lead
 ta:m4 y.text
theorem Hy{w:List Pg}{a:BL}(h:(B3 w a).2=true):1<=w.length:=by
 cases w with
 | nil=>simp[B3]at h
 | cons p r=>simp
theorem pE{l:List Int}(h:l.all (fun x=>decide (0<=x/\x<=10))=true)(i:Nat):0<=l.getD i 0/\l.getD i 0<=10:=by
 rw[List.getD_eq_getElem?_getD]
 cases e:l[i]? with
 | none=>simp
 | some x=>simpa using List.all_eq_true.1 h x (List.mem_of_getElem? e)
theorem iu{w:List Pg}(h:∀ y,y∈w->m8 y)(i:Nat):m8 (w.getD i l5):=by
 rw[List.getD_eq_getElem?_getD]
 cases e:w[i]? with
 | none=>exact⟨by simp[l5],by simp[l5],by simp[l5],by simp[l5],bb,bb,bb⟩
 | some x=>exact h x (List.mem_of_getElem? e)
theorem wc{α:Type}{P:α->Prop}{l:List α}{i:Nat}{x:α}(h:∀ y,y∈l->P y)(hx:P x):∀ y,y∈l.set i x->P y:=fun y hy=>by
 rcases List.mem_or_eq_of_mem_set hy with q | q
 exact h y q
 rw[q];exact hx
end Go.Pd
namespace Go.Abs
theorem aJ{xs:List V}{j sz g0 o0 g o c:Nat}{v:V}{p:List Nat}{r:Nat×Nat×V}(h:xs[j]? =some v)(e:V.at g (o+j*sz) v p=some r):V.at g0 o0 (.own sz xs g o c) (j::p)=some r:=by simp only[V.at,h];exact e
theorem aX{xs ys:List V}{j sz g o c:Nat}{x v:V}{p:List Nat}(h:xs[j]? =some x)(e:xs.set j (V.set x p v)=ys):V.set (.own sz xs g o c) (j::p) v=.own sz ys g o c:=by simp only[V.set,h,e]
end Go.Abs
namespace Go.Pd
def dK(y:Pg):Bool:=aD y.addr&&decide (y.text.length<=300)&&y8 y.m0 0 9&&(y.lead==[]||(y.text==[]&&aD y.lead))
def aq(w:List Pg):Bool:=decide (∀ i,i<w.length->dK (w.getD i l5)=true/\∀ k,k<i->(w.getD k l5).addr≠(w.getD i l5).addr)&&decide (w.length<=12)
def ae(h:BL):BL:=[47,47]++h++[47,110,111,116,105,99,101]
def ab(w:List Pg)(a:BL)(n:Int):Int×BL:=
 if (B3 w a).2=false then (0,[]) else if n<(B3 w a).1.m0 then (3,[]) else if (B3 w a).1.lead=[] then (1,(B3 w a).1.text) else (2,(B3 w a).1.lead)
theorem JC{y:Pg}(h:((aD y.addr=true/\(y.text.length:Int)<=300)/\y8 y.m0 0 9=true)/\(¬ y.lead=[]->y.text=[]/\aD y.lead=true)):dK y=true:=by
 unfold dK
 obtain⟨⟨⟨h1,h2⟩,h3⟩,h4⟩:=h
 rw[h1,h3,decide_eq_true Z9]
 by_cases hl:y.lead=[]
 simp[hl]
 obtain⟨h5,h6⟩:=h4 hl
 simp[h5,h6]
theorem Jj{y:Pg}(h:((aD y.addr=false\/300<(y.text.length:Int))\/y8 y.m0 0 9=false)\/¬ y.lead=[]/\(¬ y.text=[]\/aD y.lead=false)):dK y=false:=by
 unfold dK
 rcases h with ((h | h) | h) | ⟨h,h' | h'⟩
 simp[h]
 rw[decide_eq_false Z9];simp
 simp[h]
 simp[h,h']
 simp[h,h']
theorem wL{w:List Pg}{i:Nat}(hi:i<w.length)(h: ¬ (dK (w.getD i l5)=true/\∀ k,k<i->(w.getD k l5).addr≠(w.getD i l5).addr)):aq w=false:=by
 unfold aq
 rw[decide_eq_false (fun c=>h (c i hi))];rfl
theorem Bz{w:List Pg}(h:∀ i,i<w.length->dK (w.getD i l5)=true/\∀ k,k<i->(w.getD k l5).addr≠(w.getD i l5).addr):aq w=decide (w.length<=12):=by
 unfold aq
 rw[decide_eq_true h];rfl
def cS(gs:List l3)(f:l3->l3):List l3:=match gs.getLast? with
 | none=>gs
 | some z=>gs.dropLast++[f z]
def gZ(gs:List l3):Nat:=match gs.getLast? with
 | none=>0
 | some z=>z.ru.length
def eZ(gs:List l3)(w r:BL)(b:Bool):List l3×Bool:=
 if w=[99,97,108,108,101,114]/\(r=[42]\/bh r=true) then
  if b=true\/gs=[] then (gs++[⟨[r],[],0⟩],false) else (cS gs fun z=>⟨z.na++[r],z.ru,z.wa⟩,false)
 else if gs=[] then (gs,b)
 else if (w=[108,101,116]\/w=[98,97,114])/\aO r=true/\gZ gs<6 then (cS gs fun z=>⟨z.na,z.ru++[⟨w==[108,101,116],r⟩],z.wa⟩,true)
 else if w=[119,97,105,116] then (cS gs fun z=>⟨z.na,z.ru,(iK r 20).toNat⟩,true)
 else (gs,b)
theorem dQ(l:List l3)(z:l3)(f:l3->l3):cS (l++[z]) f=l++[f z]:=by simp[cS]
theorem mc(l:List l3)(z:l3):gZ (l++[z])=z.ru.length:=by simp[gZ]
theorem jL{α:Type}{l:List α}(h:l≠[]):∃ x:List α×α,l=x.1++[x.2]:=⟨(l.dropLast,l.getLast h),(List.dropLast_concat_getLast h).symm⟩
theorem zR{m:Int}(hm:0<=m){n:Int}(hn:0<=n){c:UInt8}(hc:48<=c.toNat):0<=jq m n c:=by
 unfold jq
 omega
theorem Ih{s:BL}{m:Int}(hm:0<=m):0<=iK s m:=by
 unfold iK
 split
 rename_i h
 rw[List.all_eq_true]at h
 have:∀ (l:BL) (n:Int),0<=n->(∀ c,c∈l->48<=c.toNat)->0<=l.foldl (jq m) n:=by
  intro l
  induction l with
  | nil=>intro n hn _;exact hn
  | cons c l ih=>intro n hn hl;exact ih _ (zR hm hn (hl c Z8)) fun d hd=>hl d (by simp[hd])
 exact this s 0 Z9 fun c hc=>by have:=h c hc;simp at this;exact this.1
 exact Int.le_refl 0
end Go.Pd
namespace Go.Abs
open Go.Pd
abbrev aS(g:l3):V:=.agg [.ow 1 (g.na.map sV),.ow 2 (g.ru.map au),iV g.wa]
theorem aY{α:Type}{f:α->V}{l:List α}{v:V}:(l.map f++[v])[l.length]? =some v:=Z8
theorem dq{α:Type}{f:α->V}{l:List α}{v u:V}:(l.map f++[v]).set l.length u=l.map f++[u]:=Z8
theorem Il(g:l3):(aS g).er=bM g:=by
 simp only[aS,V.er,V.D5,aR (f:=sV) (fun _=>rfl),aR (f:=au) (fun _=>rfl)]
theorem zK:∀ (l:List l3),V.D5 (l.map aS)=l.map bM
 | []=>rfl
 | g::l=>by simp only[List.map_cons,V.D5,zK l];rw[Il]
end Go.Abs
namespace Go.Pd
def cD(x:List l3×Bool)(l:BL):List l3×Bool:=eZ x.1 (ag 32 l).1 (ag 32 l).2.1 x.2
def cd(t:BL):List l3:=(((aj 10 t).take 40).foldl cD ([],false)).1
structure J4 (n:Nat) (gs:List l3):Prop where
 len:gs.length<=n
 each:∀ y,y∈gs->y.na.length<=n/\y.ru.length<=6
theorem J4.mono{n m:Nat}{gs:List l3}(h:J4 n gs)(hm:n<=m):J4 m gs:=⟨Nat.le_trans h.len hm,fun y hy=>⟨Nat.le_trans (h.each y hy).1 hm,(h.each y hy).2⟩⟩
theorem J4.set{n:Nat}{gs:List l3}{f:l3->l3}(h:J4 n gs)(hf:∀ z,gs.getLast? =some z->(f z).na.length<=n+1/\(f z).ru.length<=6):J4 (n+1) (cS gs f):=by
 unfold cS
 split
 exact h.mono Z9
 rename_i z hz
 refine⟨?_,fun y hy=>?_⟩
 have:=h.len
 have hne:gs≠[]:=by rintro rfl;simp at hz
 have:=List.length_pos_iff.2 hne
 simp;omega
 rcases List.mem_append.1 hy with hy | hy
 have:=h.each y (List.dropLast_subset _ hy)
 exact⟨Z9,this.2⟩
 rw[List.mem_singleton.1 hy];exact hf z hz
theorem IF{n:Nat}{gs:List l3}{w d:BL}{b:Bool}(h:J4 n gs):J4 (n+1) (eZ gs w d b).1:=by
 have hl:∀ z,gs.getLast? =some z->z.na.length<=n/\z.ru.length<=6:=fun z hz=>h.each z (List.mem_of_getLast? hz)
 unfold eZ
 split
 split
 refine⟨by have:=h.len;simp;omega,fun y hy=>?_⟩
 rcases List.mem_append.1 hy with hy | hy
 have:=h.each y hy;exact⟨Z9,this.2⟩
 rw[List.mem_singleton.1 hy];simp
 exact h.set fun z hz=>⟨by have:=hl z hz;simp;omega,(hl z hz).2⟩
 split
 exact h.mono Z9
 split
 rename_i hc
 refine h.set fun z hz=>⟨by have:=hl z hz;simp only;omega,?_⟩
 have:=hc.2.2
 unfold gZ at this
 rw[hz]at this
 simp only at this
 simp only[List.length_append,List.length_cons,List.length_nil];omega
 split
 exact h.set fun z hz=>⟨by have:=hl z hz;simp only;omega,(hl z hz).2⟩
 exact h.mono Z9
theorem CC{α:Type}{l:List α}{i:Nat}(h1:i<=l.length)(h2:i<=40)(h:(i:Int)<l.length->(40:Int)<=i):l.take 40=l.take i:=by
 rcases Nat.lt_or_ge i l.length with hl | hl
 have:=h Z9
 rw[show i=40 from Z9]
 rw[List.take_of_length_le Z9,List.take_of_length_le Z9]
def cb(n:BL)(x:(List o9×Nat)×Bool)(g:l3):(List o9×Nat)×Bool:=if g.na.any (fun y=>y==n)=true then ((x.1.1++g.ru,max x.1.2 g.wa),true) else x
def NG(gs:List l3)(n:BL):l3×Bool:=(⟨[n],(gs.foldl (cb n) (([],0),false)).1.1,(gs.foldl (cb n) (([],0),false)).1.2⟩,(gs.foldl (cb n) (([],0),false)).2)
def eU(gs:List l3)(n:BL):l3:=if (NG gs n).2=true then (NG gs n).1 else (NG gs [42]).1
theorem wD:∀ (l:List BL) {k:Nat} {x:List l3×Bool},J4 k x.1->J4 (k+l.length) (l.foldl cD x).1
 | [],k,x,h=>h
 | a::l,k,x,h=>by
   have:=wD l (k:=k+1) (x:=cD x a) (IF h)
   exact this.mono Z0
theorem nJ(t:BL):J4 40 (cd t):=by
 have:=wD ((aj 10 t).take 40) (k:=0) (x:=([],false)) ⟨Z8,Z8⟩
 exact this.mono Z0
theorem J4.ru{n:Nat}{gs:List l3}(h:J4 n gs)(i:Nat):(gs.getD i ⟨[],[],0⟩).ru.length<=100/\(gs.getD i ⟨[],[],0⟩).na.length<=n:=by
 rw[List.getD_eq_getElem?_getD]
 cases e:gs[i]? with
 | none=>simp
 | some x=>have:=h.each x (List.mem_of_getElem? e);exact⟨by simp only[Option.getD_some];omega,this.1⟩
def ah(k:Int)(t n:BL):l3:=if k=1 then eU (cd t) n else if k=3 then ⟨[n],[⟨false,[47]⟩],0⟩ else eU [] n
def dJ(w:List Pg)(d n:BL):l3:=
 if aq w=true/\bU d=true/\bh n=true then ⟨[n],(ah (ab w (ae d) 2).1 (ab w (ae d) 2).2 n).ru,(ah (ab w (ae d) 2).1 (ab w (ae d) 2).2 n).wa⟩ else ⟨[],[],0⟩
theorem sj:∀ (w:List Pg) (a:BL),(B3 w a).2=true->∃ i,(B3 w a).1=w.getD i l5
 | [],a,h=>by simp[B3]at h
 | p::r,a,h=>by
   unfold B3 at h ⊢
   split
   exact⟨0,rfl⟩
   rename_i hp
   rw[if_neg hp]at h
   obtain⟨i,hi⟩:=sj r a h
   exact⟨i+1,by rw[hi];simp⟩
theorem pL{w:List Pg}{a:BL}{k:Int}{m:Nat}(h:∀ i,(w.getD i l5).text.length<=m/\(w.getD i l5).lead.length<=m):(ab w a k).2.length<=m:=by
 unfold ab
 split
 simp
 rename_i h1
 have h1:(B3 w a).2=true:=by simpa using h1
 obtain⟨i,hi⟩:=sj w a h1
 have:=h i
 rw[hi]
 split
 simp
 split <;> simp only <;> omega
def nV(gs:List l3):Prop:= ∀ y,y∈gs->∀ r,r∈y.ru->r.path.length<=16
theorem nV.set{gs:List l3}{f:l3->l3}(h:nV gs)(hf:∀ z,gs.getLast? =some z->∀ r,r∈(f z).ru->r.path.length<=16):nV (cS gs f):=by
 unfold cS
 split
 exact h
 rename_i z hz
 intro y hy
 rcases List.mem_append.1 hy with hy | hy
 exact h y (List.dropLast_subset _ hy)
 rw[List.mem_singleton.1 hy];exact hf z hz
theorem Iz{gs:List l3}{w d:BL}{b:Bool}(h:nV gs):nV (eZ gs w d b).1:=by
 have hl:∀ z,gs.getLast? =some z->∀ r,r∈z.ru->r.path.length<=16:=fun z hz=>h z (List.mem_of_getLast? hz)
 unfold eZ
 split
 split
 intro y hy
 rcases List.mem_append.1 hy with hy | hy
 exact h y hy
 rw[List.mem_singleton.1 hy];simp
 exact h.set fun z hz=>hl z hz
 split
 exact h
 split
 rename_i hc
 refine h.set fun z hz r hr=>?_
 rcases List.mem_append.1 hr with hr | hr
 exact hl z hz r hr
 rw[List.mem_singleton.1 hr];exact(ug hc.2.1).2
 split
 exact h.set fun z hz=>hl z hz
 exact h
theorem En(t:BL):nV (cd t):=by
 have:∀ (l:List BL) (x:List l3×Bool),nV x.1->nV (l.foldl cD x).1:=by
  intro l
  induction l with
  | nil=>exact fun x h=>h
  | cons a l ih=>exact fun x h=>ih _ (Iz h)
 exact this _ _ (by intro y hy;simp at hy)
structure Th (m:Nat) (x:(List o9×Nat)×Bool):Prop where
 l:x.1.1.length<=6*m
 r:∀ r,r∈x.1.1->r.path.length<=16
theorem xH(n:BL):∀ (gs:List l3) {m k:Nat} {x:(List o9×Nat)×Bool},Th m x->J4 k gs->nV gs->Th (m+gs.length) (gs.foldl (cb n) x)
 | [],m,k,x,h,_,_=>h
 | g::gs,m,k,x,h,h1,h2=>by
   have hs:Th (m+1) (cb n x g):=by
    unfold cb
    split
    refine⟨?_,fun r hr=>?_⟩
    have:=h.l;have:=(h1.each g Z8).2;simp only[List.length_append];omega
    rcases List.mem_append.1 hr with hr | hr
    exact h.r r hr
    exact h2 g Z8 r hr
    exact⟨by have:=h.l;omega,h.r⟩
   have:=xH n gs (k:=k) hs ⟨by have:=h1.len;simp at this;omega,fun y hy=>h1.each y (by simp[hy])⟩ (fun y hy=>h2 y (by simp[hy]))
   rw[List.foldl_cons,List.length_cons,show m+(gs.length+1)=m+1+gs.length from Z9]
   exact this
theorem AH{gs:List l3}(n:BL)(h1:J4 40 gs)(h2:nV gs):(eU gs n).ru.length<=240/\∀ r,r∈(eU gs n).ru->r.path.length<=16:=by
 have key:∀ q,(NG gs q).1.ru.length<=240/\∀ r,r∈(NG gs q).1.ru->r.path.length<=16:=fun q=>by
  have:=xH q gs (m:=0) (x:=(([],0),false)) ⟨Z8,Z8⟩ h1 h2
  exact⟨by have h3:=this.l;have:=h1.len;unfold NG;simp only;omega,this.r⟩
 unfold eU
 split
 exact key n
 exact key [42]
theorem oY(k:Int)(t n:BL):(ah k t n).ru.length<=240/\∀ r,r∈(ah k t n).ru->r.path.length<=16:=by
 unfold ah
 split
 exact AH n (nJ t) (En t)
 split
 exact⟨Z8,Z8⟩
 exact AH n ⟨Z8,Z8⟩ (fun y hy=>by simp at hy)
def dB(w:List Pg)(n p:BL):Bool:=aq w&&bh n&&(ar p).isSome&&aH (dJ w (oA (ar p)).h9 n).ru (bm (oA (ar p)))
def eX(s p:BL):Bool:=decide (p.length<=s.length)&&(s.take p.length==p)
def gn(s p:BL):Bool:=decide (p.length<=s.length)&&(s.drop (s.length-p.length)==p)
def cm(s p:BL):BL:=if gn s p=true then s.take (s.length-p.length) else s
theorem uX{s p:BL}(h:gn s p=true):p.length<=s.length:=by unfold gn at h;simp at h;exact h.1
theorem Jc{s p:BL}(h:eX s p=true):p.length<=s.length:=by unfold eX at h;simp at h;exact h.1
def dA(p:BL):Bool:=decide (1<=p.length/\p.length<=16/\(p.getD 0 0).toNat=47)&&(cm p [36]).all iQ
end Go.Pd
namespace Go.Proofs
open Go.Shelf
def Tryz.sH:Go.Shelf.Ren:=⟨fun | 156=>137 | 165=>168 | 166=>169 | 169=>170 | 240=>187 | 241=>188 | 276=>199 | 277=>200 | n=>n,fun | 31=>24 | 9=>9 | 3=>3 | 4=>4 | 0=>0 | 20=>20 | 72=>223 | 76=>225 | 70=>221 | 37=>22 | 75=>116 | 127=>237 | 164=>242 | 5=>5 | 80=>227 | n=>n,fun | n=>n⟩
theorem Tryz.AN:Go.Proofs.Lays.n156 Tryz.prog Tryz.sH:={
 mixed:=Z7
 f156:=Tryz.func137.trans (congrArg some Z7)
 f165:=Tryz.func168.trans (congrArg some Z7)
 f166:=Tryz.func169.trans (congrArg some Z7)
 f169:=Tryz.func170.trans (congrArg some Z7)
 f240:=Tryz.func187.trans (congrArg some Z7)
 f241:=Tryz.func188.trans (congrArg some Z7)
 f276:=Tryz.func199.trans (congrArg some Z7)
 f277:=Tryz.func200.trans (congrArg some Z7)
 t0:=Tryz.underlying0
 a0:=Tryz.isAgg0
 z0:=Tryz.sizeOf0
 v0:=Tryz.zeroValue0
 t3:=Tryz.underlying3
 a3:=Tryz.isAgg3
 z3:=Tryz.sizeOf3
 v3:=Tryz.zeroValue3
 t4:=Tryz.underlying4
 a4:=Tryz.isAgg4
 z4:=Tryz.sizeOf4
 v4:=Tryz.zeroValue4
 t9:=Tryz.underlying9
 a9:=Tryz.isAgg9
 z9:=Tryz.sizeOf9
 v9:=Tryz.zeroValue9
 t20:=Tryz.underlying20
 a20:=Tryz.isAgg20
 z20:=Tryz.sizeOf20
 v20:=Tryz.zeroValue20
 t31:=Tryz.underlying24
 a31:=Tryz.isAgg24
 z31:=Tryz.sizeOf24
 v31:=Tryz.zeroValue24
 t37:=Tryz.underlying22
 a37:=Tryz.isAgg22
 z37:=Tryz.sizeOf22
 v37:=Tryz.zeroValue22
 t70:=Tryz.underlying221
 a70:=Tryz.isAgg221
 z70:=Tryz.sizeOf221
 v70:=Tryz.zeroValue221
 t72:=Tryz.underlying223
 a72:=Tryz.isAgg223
 z72:=Tryz.sizeOf223
 v72:=Tryz.zeroValue223
 t75:=Tryz.underlying116
 a75:=Tryz.isAgg116
 z75:=Tryz.sizeOf116
 v75:=Tryz.zeroValue116
 t76:=Tryz.underlying225
 a76:=Tryz.isAgg225
 z76:=Tryz.sizeOf225
 v76:=Tryz.zeroValue225
 t127:=Tryz.underlying237
 a127:=Tryz.isAgg237
 z127:=Tryz.sizeOf237
 v127:=Tryz.zeroValue237
 t164:=Tryz.underlying242
 a164:=Tryz.isAgg242
 z164:=Tryz.sizeOf242
 v164:=Tryz.zeroValue242 }
theorem Tryz.lZ:Builder.Extra Tryz.prog Tryz.sH:={
 sizeBuilder:=Z7
 liesBuilder:=Z7
 t5:=Tryz.underlying5
 a5:=Tryz.isAgg5
 z5:=Tryz.sizeOf5
 v5:=Tryz.zeroValue5
 infoByte:=Z7
 cellsByte:=Z7
 sizeByte:=Z7
 neB5:=by decide }
open Go.RowKit in
theorem Tryz.strings_Join_none(a:Option Addr)(c:Nat)(sep:ByteArray)(w:World):
 Calls Tryz.prog 137 #[.slice a 0 c,.string sep] w fun e w'=>e=.returned (.string ⟨#[]⟩)/\w'=w:=Any.strings_Join_none Tryz.AN Tryz.lZ a c sep w
open Go.RowKit in
theorem Tryz.strings_Join(bk o c:Nat)(xs:List ByteArray)(sep:ByteArray)(w:World)(hcells:∀ (j:Nat) x,xs[j]? =some x->w.cell? ⟨bk,o+j,none⟩=some (.string x))(hbk:bk<w.heap.size)(hN:xs.length<=140737488355328)(hcap:xs.length<=c)(hlen:(Lib.join (xs.map (·.data.toList)) sep.data.toList).length<=140737488355328):
 Calls Tryz.prog 137 #[.slice (some ⟨bk,o,none⟩) xs.length c,.string sep] w fun e w'=>e=.returned (.string ⟨(Lib.join (xs.map (·.data.toList)) sep.data.toList).toArray⟩)/\Below w.heap.size w w':=Any.strings_Join Tryz.AN Tryz.lZ bk o c xs sep w hcells hbk hN hcap hlen
def Tryz.zL:Go.Shelf.Ren:=⟨fun | 219=>115 | 217=>146 | 225=>147 | 224=>148 | 267=>149 | 266=>176 | 314=>177 | n=>n,fun | 9=>9 | 3=>3 | 4=>4 | 5=>5 | 46=>202 | 146=>232 | 51=>231 | n=>n,fun | 1=>1 | n=>n⟩
theorem Tryz.HY:Go.Proofs.Lays.n219 Tryz.prog Tryz.zL:={
 mixed:=Z7
 f217:=Tryz.func146.trans (congrArg some Z7)
 f219:=Tryz.func115.trans (congrArg some Z7)
 f224:=Tryz.func148.trans (congrArg some Z7)
 f225:=Tryz.func147.trans (congrArg some Z7)
 f266:=Tryz.func176.trans (congrArg some Z7)
 f267:=Tryz.func149.trans (congrArg some Z7)
 f314:=Tryz.func177.trans (congrArg some Z7)
 t3:=Tryz.underlying3
 a3:=Tryz.isAgg3
 z3:=Tryz.sizeOf3
 v3:=Tryz.zeroValue3
 t4:=Tryz.underlying4
 a4:=Tryz.isAgg4
 z4:=Tryz.sizeOf4
 v4:=Tryz.zeroValue4
 t5:=Tryz.underlying5
 a5:=Tryz.isAgg5
 z5:=Tryz.sizeOf5
 v5:=Tryz.zeroValue5
 t9:=Tryz.underlying9
 a9:=Tryz.isAgg9
 z9:=Tryz.sizeOf9
 v9:=Tryz.zeroValue9
 t46:=Tryz.underlying202
 a46:=Tryz.isAgg202
 z46:=Tryz.sizeOf202
 v46:=Tryz.zeroValue202
 t51:=Tryz.underlying231
 a51:=Tryz.isAgg231
 z51:=Tryz.sizeOf231
 v51:=Tryz.zeroValue231
 t146:=Tryz.underlying232
 a146:=Tryz.isAgg232
 z146:=Tryz.sizeOf232
 v146:=Tryz.zeroValue232
 g1:=by kernel_rfl }
open Go.RowKit Go.Lib in
theorem Tryz.stringslite_Index_one(s:ByteArray)(c:UInt8)(w:World):
 Calls Tryz.prog 115 #[.string s,.string ⟨#[c]⟩] w fun e w'=>e=.returned (.int .i64 (Lib.indexByte s.data.toList c))/\w'=w:=Any.stringslite_Index_one Tryz.HY s c w
def Tryz.zM:Go.Shelf.Ren:=⟨fun | 143=>181 | 219=>115 | 217=>146 | 225=>147 | 224=>148 | 267=>149 | 266=>176 | 314=>177 | n=>n,fun | 9=>9 | 3=>3 | 4=>4 | 5=>5 | 46=>202 | 146=>232 | 51=>231 | n=>n,fun | 1=>1 | n=>n⟩
theorem Tryz.Hg:Go.Proofs.Lays.n143 Tryz.prog Tryz.zM:={
 mixed:=Z7
 f143:=Tryz.func181.trans (congrArg some Z7)
 f217:=Tryz.func146.trans (congrArg some Z7)
 f219:=Tryz.func115.trans (congrArg some Z7)
 f224:=Tryz.func148.trans (congrArg some Z7)
 f225:=Tryz.func147.trans (congrArg some Z7)
 f266:=Tryz.func176.trans (congrArg some Z7)
 f267:=Tryz.func149.trans (congrArg some Z7)
 f314:=Tryz.func177.trans (congrArg some Z7)
 t3:=Tryz.underlying3
 a3:=Tryz.isAgg3
 z3:=Tryz.sizeOf3
 v3:=Tryz.zeroValue3
 t4:=Tryz.underlying4
 a4:=Tryz.isAgg4
 z4:=Tryz.sizeOf4
 v4:=Tryz.zeroValue4
 t5:=Tryz.underlying5
 a5:=Tryz.isAgg5
 z5:=Tryz.sizeOf5
 v5:=Tryz.zeroValue5
 t9:=Tryz.underlying9
 a9:=Tryz.isAgg9
 z9:=Tryz.sizeOf9
 v9:=Tryz.zeroValue9
 t46:=Tryz.underlying202
 a46:=Tryz.isAgg202
 z46:=Tryz.sizeOf202
 v46:=Tryz.zeroValue202
 t51:=Tryz.underlying231
 a51:=Tryz.isAgg231
 z51:=Tryz.sizeOf231
 v51:=Tryz.zeroValue231
 t146:=Tryz.underlying232
 a146:=Tryz.isAgg232
 z146:=Tryz.sizeOf232
 v146:=Tryz.zeroValue232
 g1:=by kernel_rfl }
open Go.RowKit Go.Lib in
theorem Tryz.strings_Index_one(s:ByteArray)(c:UInt8)(w:World):
 Calls Tryz.prog 181 #[.string s,.string ⟨#[c]⟩] w fun e w'=>e=.returned (.int .i64 (Lib.indexByte s.data.toList c))/\w'=w:=Any.strings_Index_one Tryz.Hg s c w
def Tryz.zV:Go.Shelf.Ren:=⟨fun | 138=>180 | 195=>194 | 218=>196 | 143=>181 | 219=>115 | 217=>146 | 225=>147 | 224=>148 | 267=>149 | 266=>176 | 314=>177 | n=>n,fun | 9=>9 | 3=>3 | 4=>4 | 5=>5 | 0=>0 | 46=>202 | 146=>232 | 51=>231 | n=>n,fun | 1=>1 | n=>n⟩
theorem Tryz.Hf:Go.Proofs.Lays.n138 Tryz.prog Tryz.zV:={
 mixed:=Z7
 f138:=Tryz.func180.trans (congrArg some Z7)
 f143:=Tryz.func181.trans (congrArg some Z7)
 f195:=Tryz.func194.trans (congrArg some Z7)
 f217:=Tryz.func146.trans (congrArg some Z7)
 f218:=Tryz.func196.trans (congrArg some Z7)
 f219:=Tryz.func115.trans (congrArg some Z7)
 f224:=Tryz.func148.trans (congrArg some Z7)
 f225:=Tryz.func147.trans (congrArg some Z7)
 f266:=Tryz.func176.trans (congrArg some Z7)
 f267:=Tryz.func149.trans (congrArg some Z7)
 f314:=Tryz.func177.trans (congrArg some Z7)
 t0:=Tryz.underlying0
 a0:=Tryz.isAgg0
 z0:=Tryz.sizeOf0
 v0:=Tryz.zeroValue0
 t3:=Tryz.underlying3
 a3:=Tryz.isAgg3
 z3:=Tryz.sizeOf3
 v3:=Tryz.zeroValue3
 t4:=Tryz.underlying4
 a4:=Tryz.isAgg4
 z4:=Tryz.sizeOf4
 v4:=Tryz.zeroValue4
 t5:=Tryz.underlying5
 a5:=Tryz.isAgg5
 z5:=Tryz.sizeOf5
 v5:=Tryz.zeroValue5
 t9:=Tryz.underlying9
 a9:=Tryz.isAgg9
 z9:=Tryz.sizeOf9
 v9:=Tryz.zeroValue9
 t46:=Tryz.underlying202
 a46:=Tryz.isAgg202
 z46:=Tryz.sizeOf202
 v46:=Tryz.zeroValue202
 t51:=Tryz.underlying231
 a51:=Tryz.isAgg231
 z51:=Tryz.sizeOf231
 v51:=Tryz.zeroValue231
 t146:=Tryz.underlying232
 a146:=Tryz.isAgg232
 z146:=Tryz.sizeOf232
 v146:=Tryz.zeroValue232
 g1:=by kernel_rfl }
open Go.RowKit Go.Lib in
theorem Tryz.strings_Count_one(s:ByteArray)(c:UInt8)(w:World):
 Calls Tryz.prog 180 #[.string s,.string ⟨#[c]⟩] w fun e w'=>e=.returned (.int .i64 (Lib.countByte s.data.toList c))/\w'=w:=Any.strings_Count_one Tryz.Hf s c w
def Tryz.fo:Go.Shelf.Ren:=⟨fun | 221=>155 | 268=>179 | 138=>180 | 143=>181 | 195=>194 | 197=>195 | 218=>196 | 219=>115 | 260=>204 | 217=>146 | 225=>147 | 224=>148 | 267=>149 | 266=>176 | 314=>177 | n=>n,fun | 9=>9 | 3=>3 | 31=>24 | 4=>4 | 0=>0 | 105=>239 | 21=>21 | 5=>5 | 46=>202 | 119=>248 | 139=>251 | 138=>250 | 146=>232 | 51=>231 | n=>n,fun | 1=>1 | 3=>2 | 4=>3 | n=>n⟩
theorem Tryz.HJ:Go.Proofs.Lays.n221 Tryz.prog Tryz.fo:={
 mixed:=Z7
 f138:=Tryz.func180.trans (congrArg some Z7)
 f143:=Tryz.func181.trans (congrArg some Z7)
 f195:=Tryz.func194.trans (congrArg some Z7)
 f197:=Tryz.func195.trans (congrArg some Z7)
 f217:=Tryz.func146.trans (congrArg some Z7)
 f218:=Tryz.func196.trans (congrArg some Z7)
 f219:=Tryz.func115.trans (congrArg some Z7)
 f221:=Tryz.func155.trans (congrArg some Z7)
 f224:=Tryz.func148.trans (congrArg some Z7)
 f225:=Tryz.func147.trans (congrArg some Z7)
 f260:=Tryz.func204.trans (congrArg some Z7)
 f266:=Tryz.func176.trans (congrArg some Z7)
 f267:=Tryz.func149.trans (congrArg some Z7)
 f268:=Tryz.func179.trans (congrArg some Z7)
 f314:=Tryz.func177.trans (congrArg some Z7)
 t0:=Tryz.underlying0
 a0:=Tryz.isAgg0
 z0:=Tryz.sizeOf0
 v0:=Tryz.zeroValue0
 t3:=Tryz.underlying3
 a3:=Tryz.isAgg3
 z3:=Tryz.sizeOf3
 v3:=Tryz.zeroValue3
 t4:=Tryz.underlying4
 a4:=Tryz.isAgg4
 z4:=Tryz.sizeOf4
 v4:=Tryz.zeroValue4
 t5:=Tryz.underlying5
 a5:=Tryz.isAgg5
 z5:=Tryz.sizeOf5
 v5:=Tryz.zeroValue5
 t9:=Tryz.underlying9
 a9:=Tryz.isAgg9
 z9:=Tryz.sizeOf9
 v9:=Tryz.zeroValue9
 t21:=Tryz.underlying21
 a21:=Tryz.isAgg21
 z21:=Tryz.sizeOf21
 v21:=Tryz.zeroValue21
 t31:=Tryz.underlying24
 a31:=Tryz.isAgg24
 z31:=Tryz.sizeOf24
 v31:=Tryz.zeroValue24
 t46:=Tryz.underlying202
 a46:=Tryz.isAgg202
 z46:=Tryz.sizeOf202
 v46:=Tryz.zeroValue202
 t51:=Tryz.underlying231
 a51:=Tryz.isAgg231
 z51:=Tryz.sizeOf231
 v51:=Tryz.zeroValue231
 t105:=Tryz.underlying239
 a105:=Tryz.isAgg239
 z105:=Tryz.sizeOf239
 v105:=Tryz.zeroValue239
 t119:=Tryz.underlying248
 a119:=Tryz.isAgg248
 z119:=Tryz.sizeOf248
 t138:=Tryz.underlying250
 a138:=Tryz.isAgg250
 z138:=Tryz.sizeOf250
 v138:=Tryz.zeroValue250
 t139:=Tryz.underlying251
 a139:=Tryz.isAgg251
 z139:=Tryz.sizeOf251
 v139:=Tryz.zeroValue251
 t146:=Tryz.underlying232
 a146:=Tryz.isAgg232
 z146:=Tryz.sizeOf232
 v146:=Tryz.zeroValue232
 g1:=Z7
 g3:=Z7
 g4:=by kernel_rfl }
def Tryz.zU:Go.Shelf.Ren:=⟨fun | 153=>83 | 152=>117 | 226=>118 | 227=>119 | 228=>120 | 137=>151 | 119=>152 | 224=>148 | 225=>147 | 217=>146 | 266=>176 | n=>n,fun | 9=>9 | 3=>3 | 4=>4 | 5=>5 | 21=>21 | 117=>165 | 116=>164 | 0=>0 | 46=>202 | 124=>204 | n=>n,fun | n=>n⟩
theorem Tryz.He:Go.Proofs.Lays.n153 Tryz.prog Tryz.zU:={
 mixed:=Z7
 f119:=Tryz.func152.trans (congrArg some Z7)
 f137:=Tryz.func151.trans (congrArg some Z7)
 f152:=Tryz.func117.trans (congrArg some Z7)
 f153:=Tryz.func83.trans (congrArg some Z7)
 f217:=Tryz.func146.trans (congrArg some Z7)
 f224:=Tryz.func148.trans (congrArg some Z7)
 f225:=Tryz.func147.trans (congrArg some Z7)
 f226:=Tryz.func118.trans (congrArg some Z7)
 f227:=Tryz.func119.trans (congrArg some Z7)
 f228:=Tryz.func120.trans (congrArg some Z7)
 f266:=Tryz.func176.trans (congrArg some Z7)
 t0:=Tryz.underlying0
 a0:=Tryz.isAgg0
 z0:=Tryz.sizeOf0
 v0:=Tryz.zeroValue0
 t3:=Tryz.underlying3
 a3:=Tryz.isAgg3
 z3:=Tryz.sizeOf3
 v3:=Tryz.zeroValue3
 t4:=Tryz.underlying4
 a4:=Tryz.isAgg4
 z4:=Tryz.sizeOf4
 v4:=Tryz.zeroValue4
 t5:=Tryz.underlying5
 a5:=Tryz.isAgg5
 z5:=Tryz.sizeOf5
 v5:=Tryz.zeroValue5
 t9:=Tryz.underlying9
 a9:=Tryz.isAgg9
 z9:=Tryz.sizeOf9
 v9:=Tryz.zeroValue9
 t21:=Tryz.underlying21
 a21:=Tryz.isAgg21
 z21:=Tryz.sizeOf21
 v21:=Tryz.zeroValue21
 t46:=Tryz.underlying202
 a46:=Tryz.isAgg202
 z46:=Tryz.sizeOf202
 v46:=Tryz.zeroValue202
 t116:=Tryz.underlying164
 a116:=Tryz.isAgg164
 z116:=Tryz.sizeOf164
 t117:=Tryz.underlying165
 a117:=Tryz.isAgg165
 z117:=Tryz.sizeOf165
 v117:=Tryz.zeroValue165
 t124:=Tryz.underlying204
 a124:=Tryz.isAgg204
 z124:=Tryz.sizeOf204
 v124:=Tryz.zeroValue204 }
open Go.RowKit Go.Lib in
theorem Tryz.strings_IndexAny_laid(s chars:ByteArray)(w:World)(hs:s.size<4294967281)(hcs:chars.size<4294967281)(has:∀ (j:Nat) b,s.data.toList[j]? =some b->b.toNat<128)(hac:∀ (j:Nat) b,chars.data.toList[j]? =some b->b.toNat<128):
 Calls Tryz.prog 83 #[.string s,.string chars] w fun e w'=>e=.returned (.int .i64 (Lib.indexAny s.data.toList chars.data.toList))/\Below w.heap.size w w':=Any.strings_IndexAny_laid Tryz.He Z7 s chars w hs hcs has hac
def Tryz.zY:Go.Shelf.Ren:=⟨fun | 110=>70 | 109=>102 | n=>n,fun | 31=>24 | 9=>9 | 4=>4 | 3=>3 | 0=>0 | n=>n,fun | n=>n⟩
theorem Tryz.Ai:Go.Proofs.Lays.n110 Tryz.prog Tryz.zY:={
 mixed:=Z7
 f109:=Tryz.func102.trans (congrArg some Z7)
 f110:=Tryz.func70.trans (congrArg some Z7)
 t0:=Tryz.underlying0
 a0:=Tryz.isAgg0
 z0:=Tryz.sizeOf0
 v0:=Tryz.zeroValue0
 t3:=Tryz.underlying3
 a3:=Tryz.isAgg3
 z3:=Tryz.sizeOf3
 v3:=Tryz.zeroValue3
 t4:=Tryz.underlying4
 a4:=Tryz.isAgg4
 z4:=Tryz.sizeOf4
 v4:=Tryz.zeroValue4
 t9:=Tryz.underlying9
 a9:=Tryz.isAgg9
 z9:=Tryz.sizeOf9
 v9:=Tryz.zeroValue9
 t31:=Tryz.underlying24
 a31:=Tryz.isAgg24
 z31:=Tryz.sizeOf24
 v31:=Tryz.zeroValue24 }
open Go.Lib in
theorem Tryz.slices_Contains_string(b off n c:Nat)(zs:List ByteArray)(x:ByteArray)(w:World)(hz:n<=zs.length)(hbig:n<=9223372036854775807)(hc:∀ j,j<zs.length->w.cell? ⟨b,off+j,none⟩=some (.string (zs.getD j ByteArray.empty))):
 Calls Tryz.prog 70 #[.slice (some ⟨b,off,none⟩) n c,.string x] w fun e w'=>e=.returned (.bool (Lib.containsS (zs.take n) x))/\w'=w:=Any.slices_Contains_string Tryz.Ai b off n c zs x w hz hbig hc
open Go.Lib in
theorem Tryz.slices_Contains_string_empty(a:Option Addr)(c:Nat)(x:ByteArray)(w:World):
 Calls Tryz.prog 70 #[.slice a 0 c,.string x] w fun e w'=>e=.returned (.bool false)/\w'=w:=Any.slices_Contains_string_empty Tryz.Ai a c x w
def Tryz.xy:Go.Shelf.Ren:=⟨fun | 16=>106 | n=>n,fun | 24=>24 | 9=>9 | 4=>4 | n=>n,fun | n=>n⟩
theorem Tryz.qJ:Go.Proofs.Lays2.n16 Tryz.prog Tryz.xy:={
 mixed:=Z7
 f16:=Tryz.func106.trans (congrArg some Z7)
 t4:=Tryz.underlying4
 a4:=Tryz.isAgg4
 z4:=Tryz.sizeOf4
 v4:=Tryz.zeroValue4
 t9:=Tryz.underlying9
 a9:=Tryz.isAgg9
 z9:=Tryz.sizeOf9
 v9:=Tryz.zeroValue9
 t24:=Tryz.underlying24
 a24:=Tryz.isAgg24
 z24:=Tryz.sizeOf24
 v24:=Tryz.zeroValue24
 i9:=by kernel_rfl }
open Go.RowKit Go.Lib in
theorem Tryz.slices_Clone_string(b off n c:Nat)(zs:List ByteArray)(w:World)(hz:n<=zs.length)(hbig:n*16<=140737488355328)(hc:∀ j,j<zs.length->w.cell? ⟨b,off+j,none⟩=some (.string (zs.getD j ByteArray.empty))):
 Calls Tryz.prog 106 #[.slice (some ⟨b,off,none⟩) n c] w fun e w'=> ∃ v',e=.returned v'/\w'.ownsRow w.heap.size 9 1 v' n ((zs.take n).map (Value.string))/\v'≠.slice none 0 0/\Below w.heap.size w w':=Any.slices_Clone_string Tryz.qJ b off n c zs w hz hbig hc
open Go.RowKit Go.Lib in
theorem Tryz.slices_Clone_string_nil(n c:Nat)(w:World):
 Calls Tryz.prog 106 #[.slice none n c] w fun e w'=>e=.returned (.slice none 0 0)/\w'=w:=Any.slices_Clone_string_nil Tryz.qJ n c w
open Go.RowKit Go.Lib in
theorem Tryz.slices_Clone_string_zero(a:Addr)(c:Nat)(w:World):
 Calls Tryz.prog 106 #[.slice (some a) 0 c] w fun e w'=> ∃ v',e=.returned v'/\w'.ownsRow w.heap.size 9 1 v' 0 []/\v'≠.slice none 0 0/\Below w.heap.size w w':=Any.slices_Clone_string_zero Tryz.qJ a c w
end Go.Proofs
namespace Go.Abs
open Go Go.RowKit
section
variable {P:Program}
theorem gQ{f:FuncId}{args:List V}{Q:V->Prop}(ho:V.aG args=false)(hp:args.all (fun v=>match v with | .c9=>false | .gv _ _=>false | .tup _=>false | _=>true)=true)(h:PC P f args Q):PF P f args [] (fun r h=>Q r/\h=[]):=by
 refine⟨h.1,fun w Pb Kb cargs F hi=>?_⟩
 have hF0:∀ i v x,args[i]? =some v->cargs[i]? =some x->F (.slot i)=[]:=fun i v x hv hx=>by
  have hr:=hi.slot i v x hv hx
  have hm:=List.mem_of_getElem? hv
  exact vF (w:=w) (Pb:=Pb) (by
   have:∀ (l:List V),V.aG l=false->∀ v∈l,v.cW=false:=by
    intro l;induction l with
    | nil=>intro _ v hv;simp at hv
    | cons a r ih=>
      intro h v hv
      simp only[V.aG,Bool.or_eq_false_iff]at h
      rcases List.mem_cons.1 hv with rfl | hv
      exact h.1
      exact ih h.2 v hv
   exact this _ ho v hm) hr
 have hrv:∀ (l:List V) (c:List Value),l.length=c.length->(∀ (i:Nat) v x,l[i]? =some v->c[i]? =some x->RV w Pb v x []/\v∈args)->RVs w Pb l c []:=by
  intro l
  induction l with
  | nil=>intro c hl _;cases c with | nil=>exact⟨rfl,rfl⟩ | cons _ _=>simp at hl
  | cons v r ih=>
    intro c hl hx
    cases c with
    | nil=>simp at hl
    | cons x c=>
      obtain⟨h0,hm⟩:=hx 0 v x rfl rfl
      have hv:=List.all_eq_true.1 hp v hm
      refine⟨x,c,[],[],rfl,rfl,?_,ih c (by simpa using hl) fun i v' x' h1 h2=>hx (i+1) v' x' (by simpa using h1) (by simpa using h2)⟩
      cases v <;> first | exact h0 | simp at hv
 have hR:RVs w Pb args cargs []:=hrv args cargs hi.len.symm fun i v x hv hx=>by
  have:=hi.slot i v x hv hx
  rw[hF0 i v x hv hx]at this
  exact⟨this,List.mem_of_getElem? hv⟩
 refine(h.2 w Pb cargs (fun g hg=>hi.bound g (hi.sub g hg)) hR).mono ?_
 rintro e w' ⟨r,x,Fr,Pb',rfl,hq,hrv,hnd,hfr,hP1,hP2,hB⟩
 refine⟨r,x,[],Pb',fun g=>Kb g\/Pb' g,(fun r=>match r with | .slot i=>if i=0 then Fr else [] | .key _=>[]),rfl,⟨hq,rfl⟩,?_⟩
 have hold:∀ g,Kb g->g<w.heap.size:=hi.bound
 refine⟨by simpa using hrv,fun k g v hk=>by simp[lk]at hk,fun r r' hne g hg=>?_,fun r=>?_,fun r g hg=>?_,fun g h=>.inr h,fun g h=>?_,hP1,fun _ h=>.inl h,fun g hg=>?_,⟨hB.os,hB.tape,hB.output,hB.size,fun g hg=>hB.block g (hold g hg),Shp.of_eq hB.block⟩⟩
 cases r with
 | slot i=>
   simp only at hg;split at hg
   rename_i hi0
   cases r' with
   | slot j=>simp only;rw[if_neg (fun c=>hne (by rw[hi0,c]))];simp
   | key k=>simp
   simp at hg
 | key k=>simp at hg
 cases r <;> simp only
 split
 exact hnd
 exact List.nodup_nil
 exact List.nodup_nil
 cases r with
 | slot i=>
   simp only at hg;split at hg
   obtain⟨h1,h2,h3⟩:=hfr g hg
   exact⟨fun c=>c.elim (fun c=>by have:=hold g c;omega) h3,h2⟩
   simp at hg
 | key k=>simp at hg
 rcases h with h | h
 have:=hold g h;have:=hB.size;omega
 rcases hP2 g h with h | h
 have:=hold g (hi.sub g h);have:=hB.size;omega
 exact h.2
 rcases hP2 g hg with h | h
 exact .inl h
 exact .inr fun c=>by have:=hold g c;omega
def RVm(w:World)(Pb:Nat->Prop)(v:V)(x:Value):Prop:=match v with | .agg us=> ∃ cs,x=.agg cs/\RL w Pb us cs.toList [] | .c9=>([]:List Nat)=[] | v=>R w Pb v [x] []
theorem yl{w:World}{Pb:Nat->Prop}{v:V}{vs:List V}{xs:List Value}(h:RVs w Pb (v::vs) xs []):∃ x r,xs=x::r/\RVm w Pb v x/\RVs w Pb vs r []:=by
 obtain⟨x,r,F1,F2,e,hF,h1,h2⟩:=h
 have hF:=List.append_eq_nil_iff.1 hF.symm
 obtain⟨rfl,rfl⟩:=hF
 exact⟨x,r,e,h1,h2⟩
theorem gp{w:World}{Pb:Nat->Prop}{y:Value}{vs:List V}{xs:List Value}(h:RVs w Pb (.lit y::vs) xs []):∃ r,xs=y::r/\RVs w Pb vs r []:=by
 obtain⟨x,r,e,h1,h2⟩:=yl h
 obtain⟨_,e1,_⟩:=h1
 simp only[List.cons.injEq,and_true]at e1
 exact⟨r,by rw[e,e1],h2⟩
theorem kZ{w:World}{Pb:Nat->Prop}{xs:List Value}(h:RVs w Pb [] xs []):xs=[]:=h.1
theorem xU{w:World}{Pb:Nat->Prop}{f:Bool}{l:List BL}{vs:List V}{xs:List Value}(h:RVs w Pb (.sl f (l.map sV)::vs) xs []):∃ A c r,xs=.slice A l.length c::r/\RVs w Pb vs r []/\l.length<=c/\
 (l=[]\/∃ b o,A=some ⟨b,o,none⟩/\Pb b/\∀ j x,(l.map Str)[j]? =some x->w.cell? ⟨b,o+j,none⟩=some (.string x)):=by
 obtain⟨x,r,e,h1,h2⟩:=yl h
 obtain⟨_,A,c,e1,hle,_,hx⟩:=h1
 simp only[List.cons.injEq,and_true,List.length_map]at e1 hle
 refine⟨A,c,r,by rw[e,e1],h2,hle,?_⟩
 rcases hx with hx | ⟨b,o,sz,flat,hA,hb,hs,hn,hr,hc⟩
 left;simpa using hx
 right
 refine⟨b,o,hA,hb,fun j x hj=>hc j _ ?_⟩
 have hfl:∀ (l:List BL) {flat:List Value} {F},RL w Pb (l.map sV) flat F->flat=l.map fun t=>.string (Str t):=by
  intro l;induction l with
  | nil=>intro flat F h;exact h.1
  | cons t r ih=>
    intro flat F h
    obtain⟨c1,c2,F1,F2,e1,_,h1,h2⟩:=h
    rw[e1,ih h2,h1.2.1];rfl
 rw[hfl l hr]
 rw[List.getElem?_map]at hj ⊢
 cases hl:l[j]? with
 | none=>rw[hl]at hj;simp at hj
 | some t=>rw[hl]at hj;simp at hj;simp[hj]
theorem uu{f:FuncId}{args:List V}{res:V}{y:Value}(he:ng P f)(hv:res.val? =some y)(h:∀ (w:World) (Pb:Nat->Prop) cargs,(∀ g,Pb g->g<w.heap.size)->RVs w Pb args cargs []->Calls P f cargs.toArray w fun e w'=>e=.returned y/\Below w.heap.size w w'):PC P f args (fun r=>r=res):=by
 refine⟨he,fun w Pb cargs hP hargs=>(h w Pb cargs hP hargs).mono ?_⟩
 rintro e w' ⟨rfl,hB⟩
 exact⟨res,y,[],Pb,rfl,rfl,vb hv,List.nodup_nil,Z8,fun _ h=>h,fun _ h=>.inl h,hB⟩
end
end Go.Abs
namespace Go.Pd
def df(c:UInt8):BL->List BL
 | []=>[[]]
 | b::l=>if b=c then []::df c l else match df c l with
   | []=>[[b]]
   | p::r=>(b::p)::r
theorem DZ(c:UInt8):∀ l,df c l≠[]
 | []=>by simp[df]
 | b::l=>by
   unfold df;split
   simp
   split <;> simp
theorem od(c:UInt8):∀ l,Lib.indexByte l c= -1->df c l=[l]
 | [],_=>rfl
 | b::l,h=>by
   unfold Lib.indexByte at h
   split at h
   simp at h
   rename_i hb
   have hb:b≠c:=by simpa using hb
   split at h
   rename_i h1
   have:=od c l (by simpa using h1)
   unfold df
   rw[if_neg hb,this]
   have:=Lib.indexByte_ge l c;omega
theorem pv(c:UInt8):∀ l (i:Nat),Lib.indexByte l c=i->df c l=l.take i::df c (l.drop (i+1))/\i<l.length/\l.count c=(l.drop (i+1)).count c+1
 | [],i,h=>by unfold Lib.indexByte at h;omega
 | b::l,i,h=>by
   unfold Lib.indexByte at h
   split at h
   rename_i hb
   have hb:b=c:=by simpa using hb
   have:i=0:=Z9
   subst this hb
   simp[df]
   rename_i hb
   have hb:b≠c:=by simpa using hb
   split at h
   omega
   rename_i h1
   have:=Lib.indexByte_ge l c
   have h1:Lib.indexByte l c≠ -1:=by simpa using h1
   obtain⟨j,rfl⟩:∃ j,i=j+1:=⟨i-1,Z9⟩
   obtain⟨k1,k2,k3⟩:=pv c l j Z9
   refine⟨?_,Z0,by simp[List.count_cons,hb,k3]⟩
   conv=>lhs;unfold df
   rw[if_neg hb,k1]
   simp
theorem zp(c:UInt8):∀ (k:Nat) (s:BL),s.count c=k->Lib.splitK [c] 0 k s=df c s
 | 0,s,h=>by
   have:Lib.indexByte s c= -1:=by
    by_cases hc:Lib.indexByte s c= -1
    exact hc
    have h1:=Lib.indexByte_ge s c
    obtain⟨i,hi⟩:∃ i:Nat,Lib.indexByte s c=i:=⟨(Lib.indexByte s c).toNat,Z9⟩
    have:=(pv c s i hi).2.2;omega
   rw[od c s this];rfl
 | k+1,s,h=>by
   by_cases hc:Lib.indexByte s c= -1
   rw[od c s hc]
   unfold Lib.splitK;rw[Lib.index_one,hc];rfl
   have h1:=Lib.indexByte_ge s c
   obtain⟨i,hi⟩:∃ i:Nat,Lib.indexByte s c=i:=⟨(Lib.indexByte s c).toNat,Z9⟩
   obtain⟨k1,k2,k3⟩:=pv c s i hi
   rw[k1]
   unfold Lib.splitK
   rw[Lib.index_one,hi]
   have: ¬ ((i:Int)== -1)=true:=Z8
   rw[if_neg this]
   simp only[Int.toNat_natCast,Nat.add_zero,List.length_singleton]
   rw[zp c k _ Z9]
theorem xe(c:UInt8):∀ s,Lib.indexByte s c= -1->ag c s=(s,[],false)
 | [],_=>rfl
 | b::l,h=>by
   unfold Lib.indexByte at h
   split at h
   simp at h
   rename_i hb
   have hb:b≠c:=by simpa using hb
   split at h
   rename_i h1
   have:=xe c l (by simpa using h1)
   simp only[ag,if_neg hb,this]
   have:=Lib.indexByte_ge l c;omega
theorem sQ(c:UInt8):∀ s (i:Nat),Lib.indexByte s c=i->ag c s=(s.take i,s.drop (i+1),true)/\i<s.length
 | [],i,h=>by unfold Lib.indexByte at h;omega
 | b::l,i,h=>by
   unfold Lib.indexByte at h
   split at h
   rename_i hb
   have hb:b=c:=by simpa using hb
   have:i=0:=Z9
   subst this
   simp[ag,hb]
   rename_i hb
   have hb:b≠c:=by simpa using hb
   split at h
   omega
   rename_i h1
   have:=Lib.indexByte_ge l c
   have h1:Lib.indexByte l c≠ -1:=by simpa using h1
   obtain⟨j,rfl⟩:∃ j,i=j+1:=⟨i-1,Z9⟩
   obtain⟨k1,k2⟩:=sQ c l j Z9
   refine⟨?_,Z0⟩
   simp only[ag,if_neg hb,k1];rfl
theorem IT(s:BL)(c:UInt8)(h:0<=Lib.indexByte s c):Lib.indexByte s c<s.length:=by
 obtain⟨i,hi⟩:∃ i:Nat,Lib.indexByte s c=i:=⟨(Lib.indexByte s c).toNat,Z9⟩
 have:=(sQ c s i hi).2;omega
theorem Hv{s:BL}{c:UInt8}(h:Lib.indexByte s c<0):ag c s=(s,[],false):=xe c s (by have:=Lib.indexByte_ge s c;omega)
theorem EB{s:BL}{c:UInt8}(h:0<=Lib.indexByte s c):ag c s=(s.take (Lib.indexByte s c).toNat,s.drop ((Lib.indexByte s c).toNat+1),true):=(sQ c s _ Z9).1
theorem zE(c:UInt8):∀ s,df c s=aj c s
 | []=>rfl
 | b::l=>by
   have ih:=zE c l
   unfold df aj
   split
   rw[ih]
   rw[ih]
   cases h:aj c l with
   | nil=>exact absurd (ih.trans h) (DZ c l)
   | cons p r=>rfl
theorem vj:∀ (l:List BL),Lib.join l [47]=bZ l
 | []=>rfl
 | [p]=>Lib.join_one p _
 | p::q::r=>by
   have:=vj (q::r)
   rw[Lib.join_cons]at this ⊢
   simp only[Lib.joinTail,List.map_cons,List.flatten_cons]at this ⊢
   rw[show bZ (p::q::r)=p++[47]++bZ (q::r) from rfl,<- this]
   simp
theorem IV(s:BL): -1<=Lib.indexAny s [47,63]:=Lib.indexAny_ge _ s
theorem tK:∀ (s:BL),(Lib.indexAny s [47,63]<0->s.takeWhile ir=s/\s.dropWhile ir=[])/\(0<=Lib.indexAny s [47,63]->s.takeWhile ir=s.take (Lib.indexAny s [47,63]).toNat/\s.dropWhile ir=s.drop (Lib.indexAny s [47,63]).toNat/\(Lib.indexAny s [47,63]).toNat<s.length)
 | []=>by simp[Lib.indexAny]
 | b::l=>by
   obtain⟨i1,i2⟩:=tK l
   have hg:=IV l
   have hn:ir b=!([47,63]:BL).contains b:=by
    unfold ir
    have:(b.toNat=47↔b=47)/\(b.toNat=63↔b=63):=⟨by rw[<- UInt8.toNat_inj];rfl,by rw[<- UInt8.toNat_inj];rfl⟩
    rw[Bool.eq_iff_iff]
    simp[this]
   unfold Lib.indexAny
   cases hc:([47,63]:BL).contains b with
   | true=>
     rw[hc]at hn
     simp[List.takeWhile_cons,List.dropWhile_cons,hn]
   | false=>
     rw[hc]at hn
     simp only[Bool.false_eq_true,if_false]
     by_cases h1:Lib.indexAny l [47,63]= -1
     obtain⟨k1,k2⟩:=i1 Z9
     rw[h1]
     simp[List.takeWhile_cons,List.dropWhile_cons,hn,k1,k2]
     obtain⟨k1,k2,k3⟩:=i2 Z9
     rw[if_neg (by simpa using h1)]
     refine⟨fun h=>by omega,fun _=>?_⟩
     rw[show (Lib.indexAny l [47,63]+1).toNat=(Lib.indexAny l [47,63]).toNat+1 from Z9]
     simp[List.takeWhile_cons,List.dropWhile_cons,hn,k1,k2,k3]
def iT(s:BL)(i:Nat):Bool:=decide (i+2<s.length)&&(decide (0<=ct (s.getD (i+1) 0))&&decide (0<=ct (s.getD (i+2) 0)))
def cZ(s:BL)(i:Nat):UInt8:=if iT s i=true then db (s.getD (i+1) 0) (s.getD (i+2) 0) else 0
theorem gL{s:BL}{i:Nat}:iT s i=true↔i+2<s.length/\0<=ct (s.getD (i+1) 0)/\0<=ct (s.getD (i+2) 0):=by
 unfold iT;simp
theorem qs{s:BL}{i:Nat}(h:iT s i=true):cZ s i=db (s.getD (i+1) 0) (s.getD (i+2) 0):=if_pos h
theorem zy{s:BL}{i:Nat}(h:iT s i=false):cZ s i=0:=if_neg (by rw[h];decide)
end Go.Pd
namespace Go.Proofs.YtbjbamjffkanbaaGreatDoor
open Go Go.Abs Go.RowKit Go.Pd
set_option maxRecDepth 20000
theorem fS(l:BL):(Str l).data.toList=l:=rfl
theorem HB(s:BL)(c:UInt8):PC Tryz.prog 115 [sV s,sV [c]] (fun r=>r=iV (Lib.indexByte s c)):=by
 refine uu (dO Tryz.func115 Z7 Z7) rfl fun w Pb cargs hP hargs=>?_
 obtain⟨r,rfl,h1⟩:=gp hargs
 obtain⟨r,rfl,h2⟩:=gp h1
 obtain rfl:=kZ h2
 refine(Tryz.stringslite_Index_one (Str s) c w).mono ?_
 rintro e w' ⟨rfl,rfl⟩
 exact⟨by rw[fS],Below.refl _ _⟩
theorem HA(s:BL)(c:UInt8):PF Tryz.prog 115 [sV s,sV [c]] [] (fun r h=>r=iV (Lib.indexByte s c)/\h=[]):=gQ rfl rfl (HB s c)
theorem JD(s:BL)(hs:s.length<=1000000)(ha:∀ c,c∈s->c.toNat<128):PF Tryz.prog 83 [sV s,sV [47,63]] [] (fun r h=>r=iV (Lib.indexAny s [47,63])/\h=[]):=by
 refine gQ rfl rfl (uu (dO Tryz.func83 Z7 Z7) rfl fun w Pb cargs hP hargs=>?_)
 obtain⟨r,rfl,h1⟩:=gp hargs
 obtain⟨r,rfl,h2⟩:=gp h1
 obtain rfl:=kZ h2
 refine(Tryz.strings_IndexAny_laid (Str s) (Str [47,63]) w (by rw[gV];omega) (by rw[gV];decide) (fun j b hb=>?_) (fun j b hb=>?_)).mono ?_
 rw[fS]at hb;exact ha b (List.mem_of_getElem? hb)
 rw[fS]at hb
 have:=List.mem_of_getElem? hb
 simp at this;rcases this with rfl | rfl <;> decide
 rintro e w' ⟨rfl,hB⟩
 exact⟨by rw[fS,fS],hB⟩
theorem De(l:List BL):(l.map Str).map (·.data.toList)=l:=by
 rw[List.map_map];conv=>rhs;rw[<- List.map_id l]
 apply List.map_congr_left;intro x _;exact fS x
theorem Hi(f:Bool)(l:List BL)(sep:BL)(hl:l.length<=1000000)(hj:(Lib.join l sep).length<=1000000):PF Tryz.prog 137 [.sl f (l.map sV),sV sep] [] (fun r h=>r=sV (Lib.join l sep)/\h=[]):=by
 refine gQ rfl rfl (uu (dO Tryz.func137 Z7 Z7) rfl fun w Pb cargs hP hargs=>?_)
 obtain⟨A,c,r,rfl,h1,hle,hc⟩:=xU hargs
 obtain⟨r,rfl,h2⟩:=gp h1
 obtain rfl:=kZ h2
 rcases hc with rfl | ⟨b,o,rfl,hb,hc⟩
 refine(Tryz.strings_Join_none A c (Str sep) w).mono ?_
 rintro e w' ⟨rfl,rfl⟩
 exact⟨rfl,Below.refl _ _⟩
 have:=Tryz.strings_Join b o c (l.map Str) (Str sep) w hc (hP b hb) Z0 (by simpa using hle) (by rw[De,fS];omega)
 rw[List.length_map]at this
 refine this.mono ?_
 rintro e w' ⟨rfl,hB⟩
 exact⟨by rw[De,fS];rfl,hB⟩
theorem Jr(f:Bool)(l:List BL)(x:BL)(hl:l.length<=1000000):PF Tryz.prog 70 [.sl f (l.map sV),sV x] [] (fun r h=>r=bV (l.contains x)/\h=[]):=by
 refine gQ rfl rfl (uu (dO Tryz.func70 Z7 Z7) rfl fun w Pb cargs hP hargs=>?_)
 obtain⟨A,c,r,rfl,h1,hle,hc⟩:=xU hargs
 obtain⟨r,rfl,h2⟩:=gp h1
 obtain rfl:=kZ h2
 rcases hc with rfl | ⟨b,o,rfl,hb,hc⟩
 refine(Tryz.slices_Contains_string_empty A c (Str x) w).mono ?_
 rintro e w' ⟨rfl,rfl⟩
 exact⟨rfl,Below.refl _ _⟩
 refine(Tryz.slices_Contains_string b o l.length c (l.map Str) (Str x) w Z8 Z9 (fun j hj=>?_)).mono ?_
 apply hc;rw[List.getD_eq_getElem?_getD,List.getElem?_eq_getElem hj];rfl
 rintro e w' ⟨rfl,rfl⟩
 refine⟨?_,Below.refl _ _⟩
 congr 2
 rw[Bool.eq_iff_iff,Lib.containsS_iff,List.contains_iff_mem,List.take_of_length_le Z8,List.mem_map]
 exact⟨fun⟨y,h1,h2⟩=>by
  have:y=x:=by rw[<- fS y,h2,fS]
  rw[<- this];exact h1,fun h=>⟨x,h,rfl⟩⟩
theorem FG(s:BL)(c:UInt8)(hs:s.length<=1000000):PC Tryz.prog 155 [sV s,sV [c],iV 0,iV (-1)] (fun r=>r=.sl true ((df c s).map sV)):=by
 refine⟨dO Tryz.func155 Z7 Z7,fun w Pb cargs hP hargs=>?_⟩
 obtain⟨r,rfl,h1⟩:=gp hargs
 obtain⟨r,rfl,h2⟩:=gp h1
 obtain⟨r,rfl,h3⟩:=gp h2
 obtain⟨r,rfl,h4⟩:=gp h3
 obtain rfl:=kZ h4
 have hcnt:Lib.countB (Str s) (Str [c])=s.count c:=by
  show Lib.count (Str s).data.toList (Str [c]).data.toList=_
  rw[fS,fS,Lib.count_one]
 have hI:∀ (x:ByteArray) (cs:Array Value),x.size<=(Str s).size->Calls Tryz.prog (Tryz.fo.f 143) #[.string x,.string (Str [c])] (w.alloc (.cells cs (Tryz.fo.t 9))) fun e w'=>e=.returned (.int .i64 (Lib.indexB x (Str [c])))/\w'=w.alloc (.cells cs (Tryz.fo.t 9)):=fun x cs _=>
  (Tryz.strings_Index_one x c _).mono fun e w' h=>by
   rw[show Lib.indexB x (Str [c])=Lib.indexByte x.data.toList c from Lib.index_one _ _];exact h
 have hC:Calls Tryz.prog (Tryz.fo.f 138) #[.string (Str s),.string (Str [c])] w fun e w'=>e=.returned (.int .i64 (Lib.countB (Str s) (Str [c])))/\w'=w:=
  (Tryz.strings_Count_one (Str s) c w).mono fun e w' h=>by
   rw[hcnt];exact h
 have hcl:s.count c<=s.length:=List.count_le_length
 have hg:=Any.strings_genSplit_core Tryz.HJ Z7 (Str s) (Str [c]) 0 (-1) (s.count c+1) w (by rw[gV];omega) (by rw[gV];simp) (Nat.zero_le _) hI hC Z6 Z6 (by rw[if_pos Z6,hcnt,gV];omega)
 have hlen:(Lib.splitB (Str [c]) 0 (s.count c) (Str s)).length=s.count c+1:=Lib.splitB_all _ (by rw[gV];simp) 0 _ _ hcnt
 have hdat:(Lib.splitB (Str [c]) 0 (s.count c) (Str s)).map (·.data.toList)=df c s:=by
  rw[Lib.splitB_data,fS,fS];exact zp c _ s rfl
 have hl2:(df c s).length=s.count c+1:=by rw[<- hdat,List.length_map,hlen]
 have hcells:Lib.cellsOf (Lib.splitB (Str [c]) 0 (s.count c) (Str s)) (s.count c+1)=((df c s).map fun t=>Value.string (Str t)).toArray:=by
  rw[<- hlen,Lib.cellsOf_full,<- hdat,List.map_map]
  congr 1
 refine hg.mono ?_
 rintro e w' ⟨he,hw⟩
 rw[Nat.add_sub_cancel,hlen]at he
 rw[Nat.add_sub_cancel,hcells]at hw
 subst hw
 refine⟨_,_,[],fun g=>Pb g\/g=w.heap.size,he,rfl,?_,List.nodup_nil,Z8,fun _ h=>.inl h,fun g h=>h.imp id fun h=>⟨Z9,by rw[dt];omega⟩,⟨rfl,rfl,rfl,by rw[dt];omega,fun k hk=>alloc_old w _ k hk⟩⟩
 refine⟨rfl,_,_,by rw[List.length_map,hl2],by simp[hl2],fun _=>by simp[hl2],.inr ⟨_,_,1,(df c s).map fun t=>Value.string (Str t),rfl,.inr rfl,Nat.one_pos,fun v hv=>?_,?_,fun j u hu=>?_⟩⟩
 obtain⟨t,_,rfl⟩:=List.mem_map.1 hv;rfl
 have:∀ (l:List BL) (w:World) (Pb:Nat->Prop),RL w Pb (l.map sV) (l.map fun t=>Value.string (Str t)) []:=by
  intro l w Pb;induction l with
  | nil=>exact⟨rfl,rfl⟩
  | cons t r ih=>exact⟨[_],_,[],[],rfl,rfl,⟨rfl,rfl,rfl⟩,ih⟩
 exact this _ _ _
 rw[Nat.zero_add]
 have:(w.alloc (.cells ((df c s).map fun t=>Value.string (Str t)).toArray (Tryz.fo.t 9))).heap[w.heap.size]? =some (.cells ((df c s).map fun t=>Value.string (Str t)).toArray (Tryz.fo.t 9) (0,0)):=fI w _
 have hb:Blk (w.alloc (.cells ((df c s).map fun t=>Value.string (Str t)).toArray (Tryz.fo.t 9))) w.heap.size ((df c s).map fun t=>Value.string (Str t)).toArray:=⟨_,(0,0),this,fun i _ h=>by omega⟩
 rw[dM hb,List.getElem?_toArray];exact hu
theorem Gp(s:BL)(c:UInt8)(hs:s.length<=1000000):PF Tryz.prog 155 [sV s,sV [c],iV 0,iV (-1)] [] (fun r h=>r=.sl true ((df c s).map sV)/\h=[]):=gQ rfl rfl (FG s c hs)
theorem GU(w:World)(Pb:Nat->Prop):∀ (l:List BL),RL w Pb (l.map sV) (l.map fun t=>Value.string (Str t)) []
 | []=>⟨rfl,rfl⟩
 | _::r=>⟨[_],_,[],[],rfl,rfl,⟨rfl,rfl,rfl⟩,GU w Pb r⟩
theorem uf{w w':World}{Pb:Nat->Prop}{v:Value}{l:List BL}(hP:∀ g,Pb g->g<w.heap.size)(h:w'.ownsRow w.heap.size 9 1 v l.length (l.map fun t=>Value.string (Str t))):
 ∃ F,RV w' Pb (.ow 1 (l.map sV)) v F/\F.Nodup/\∀ g,g∈F->w.heap.size<=g/\g<w'.heap.size/\¬ Pb g:=by
 obtain⟨_,h⟩:=h
 rcases h with ⟨rfl,h0⟩ | ⟨g,cap,cur,rfl,hg,hb,hle,_,hsz,htk⟩
 have:l=[]:=List.eq_nil_of_length_eq_zero h0
 subst this
 exact⟨[],⟨0,0,0,.inl ⟨rfl,rfl,rfl,none,rfl⟩⟩,List.nodup_nil,Z8⟩
 have hnp: ¬ Pb g:=fun c=>by have:=hP g c;omega
 by_cases hc:cap=0
 subst hc
 have:l=[]:=List.eq_nil_of_length_eq_zero Z9
 subst this
 exact⟨[],⟨0,0,0,.inl ⟨rfl,rfl,rfl,_,rfl⟩⟩,List.nodup_nil,Z8⟩
 have hgl:g<w'.heap.size:=by
  cases hh:w'.heap[g]? with
  | none=>rw[hh]at hb;cases hb
  | some o=>exact(Array.getElem?_eq_some_iff.1 hh).1
 refine⟨[g],⟨g,0,cap,.inr ⟨Z9,Nat.one_pos,by simpa using hle,Z8,fun v hv=>?_,hnp,_,[],cur,rfl,GU w' Pb l,⟨9,(0,0),hb,fun i _ h=>by omega⟩,Z9,fun j u hu=>?_⟩⟩,Z8,fun x hx=>?_⟩
 obtain⟨t,_,rfl⟩:=List.mem_map.1 hv;rfl
 rw[<- htk,List.getElem?_take]at hu
 split at hu
 rw[Nat.zero_add,<- Array.getElem?_toList];exact hu
 simp at hu
 obtain rfl:=List.mem_singleton.1 hx
 exact⟨hg,hgl,hnp⟩
theorem FA(f:Bool)(l:List BL)(hl:l.length<=1000000):PC Tryz.prog 106 [.sl f (l.map sV)] (fun r=>r=.ow 1 (l.map sV)):=by
 refine⟨dO Tryz.func106 Z7 Z7,fun w Pb cargs hP hargs=>?_⟩
 obtain⟨A,c,r,rfl,h1,hle,hc⟩:=xU hargs
 obtain rfl:=kZ h1
 rcases hc with rfl | ⟨b,o,rfl,hb,hc⟩
 cases A with
 | none=>
   refine(Tryz.slices_Clone_string_nil 0 c w).mono ?_
   rintro e w' ⟨rfl,rfl⟩
   exact⟨_,_,[],Pb,rfl,rfl,⟨0,0,0,.inl ⟨rfl,rfl,rfl,none,rfl⟩⟩,List.nodup_nil,Z8,fun _ h=>h,fun _ h=>.inl h,Below.refl _ _⟩
 | some a=>
   refine(Tryz.slices_Clone_string_zero a c w).mono ?_
   rintro e w' ⟨v,rfl,hr,_,hB⟩
   obtain⟨F,k1,k2,k3⟩:=uf (l:=[]) hP hr
   exact⟨_,_,F,Pb,rfl,rfl,k1,k2,k3,fun _ h=>h,fun _ h=>.inl h,hB⟩
 refine(Tryz.slices_Clone_string b o l.length c (l.map Str) w Z8 Z9 (fun j hj=>?_)).mono ?_
 apply hc;rw[List.getD_eq_getElem?_getD,List.getElem?_eq_getElem hj];rfl
 rintro e w' ⟨v,rfl,hr,_,hB⟩
 rw[List.take_of_length_le Z8,List.map_map]at hr
 obtain⟨F,k1,k2,k3⟩:=uf hP hr
 exact⟨_,_,F,Pb,rfl,rfl,k1,k2,k3,fun _ h=>h,fun _ h=>.inl h,hB⟩
theorem FF(f:Bool)(l:List BL)(hl:l.length<=1000000):PF Tryz.prog 106 [.sl f (l.map sV)] [] (fun r h=>r=.ow 1 (l.map sV)/\h=[]):=gQ rfl rfl (FA f l hl)
end Go.Proofs.YtbjbamjffkanbaaGreatDoor
namespace Go.Pd
def foldI(b:Int):Int:=if 97<=b/\b<=102 then b-32 else b
def dI(i:Nat):Int:=if i<10 then 48+i else 55+i
def ko(b:Int):Int:=if 48<=foldI b/\foldI b<=57 then foldI b-48 else if 65<=foldI b/\foldI b<=70 then foldI b-55 else -1
theorem vA:∀ i,(h:i<16)->((((⟨#[48,49,50,51,52,53,54,55,56,57,65,66,67,68,69,70]⟩:ByteArray)[i]'h).toNat:Nat):Int)=dI i:=Z6
theorem tH{i:Nat}(h:i<16):dI i<128:=by unfold dI;split <;> omega
theorem Ev(b:UInt8):ko b.toNat=ct b:=by
 unfold ko foldI ct
 have:=b.toNat_lt
 repeat' split
 all_goals omega
theorem wb{b:Int}{i:Nat}(hi:i<16)(h:dI i=foldI b):ko b=i:=by
 unfold dI at h
 unfold ko
 split at h
 rw[if_pos Z9];omega
 rw[if_neg Z9,if_pos Z9];omega
theorem tz{b:Int}(h:∀ j:Nat,j<16->dI j≠foldI b):ko b= -1:=by
 unfold ko
 split
 rename_i hc
 refine absurd ?_ (h (foldI b-48).toNat Z9)
 unfold dI;rw[if_pos Z9];omega
 split
 rename_i hc
 refine absurd ?_ (h (foldI b-55).toNat Z9)
 unfold dI;rw[if_neg Z9];omega
 rfl
end Go.Pd
namespace Go.Proofs.YtbjbamjffkanbaaGreatDoor
open Go Go.RowKit Go.Lib Go.Pd
set_option maxHeartbeats 1000000 in
set_option maxRecDepth 100000 in
theorem JI(b:Int)(h0:0<=b)(h1:b<256)(hlo:decide ((97:Int)<=b)=false)(w:World):Calls Tryz.prog 178 #[.int .u8 b] w fun e w'=>e=.returned (.tuple #[.int .i64 (max (ko b) 0),.bool (decide (0<=ko b))])/\∃ pos,w'=w.iter ⟨#[48,49,50,51,52,53,54,55,56,57,65,66,67,68,69,70]⟩ pos:=by
 have HF:Aside (foldI b=b):=by
  have:=of_decide_eq_false hlo;unfold Aside foldI;rw[if_neg Z9]
 go_enter Tryz.func178,Tryz.ntmps178
 go_wp2
 go_loopg [4,5] 16 (fun g _ _ wx=> ∃ i:Nat,i+g=16/\wx=w.iter ⟨#[48,49,50,51,52,53,54,55,56,57,65,66,67,68,69,70]⟩ i/\∀ j:Nat,j<i->dI j≠foldI b)
 case atStart=>exact⟨0,Z9,rfl,fun j hj=>by omega⟩
 case round=>
  obtain⟨i,hig,rfl,hno⟩:=hrel
  have HN:Aside (∀ j:Nat,j<i->dI j≠foldI b):=hno
  clear hno
  cases gk with
  | zero=>
    obtain rfl:i=16:=Z9
    have hnx:=run_next_end (P:=Tryz.prog) w ⟨#[48,49,50,51,52,53,54,55,56,57,65,66,67,68,69,70]⟩ 16
    go_wp2
    go_ret2
    exact⟨by rw[tz HN.out];rfl,_,rfl⟩
  | succ g=>
    have hi:i<(⟨#[48,49,50,51,52,53,54,55,56,57,65,66,67,68,69,70]⟩:ByteArray).size:=by show i<16;omega
    have hfa:((((⟨#[48,49,50,51,52,53,54,55,56,57,65,66,67,68,69,70]⟩:ByteArray)[i]'hi).toNat:Nat):Int)=dI i:=vA i hi
    have hlt:((⟨#[48,49,50,51,52,53,54,55,56,57,65,66,67,68,69,70]⟩:ByteArray)[i]'hi).toNat<128:=by have:=tH (show i<16 from hi);omega
    have hnx:=fun ty=>run_next_ascii (P:=Tryz.prog) w ⟨#[48,49,50,51,52,53,54,55,56,57,65,66,67,68,69,70]⟩ i ty hi hlt
    rw[hfa]at hnx
    clear hlt hfa
    cases hin:(dI i==b)
    · have HI:Aside ((dI i==b)=false):=hin
      go_wp2
      go_roundg g
      case measure=>omega
      case rel=>exact⟨i+1,Z9,rfl,fun j hj=>by
       by_cases e:j=i
       subst e;rw[HF.out];exact beq_eq_false_iff_ne.1 HI.out
       exact HN.out j Z9⟩
    have HI:Aside ((dI i==b)=true):=hin
    go_wp2
    go_ret2
    exact⟨by rw[wb (by have:i<16:=hi;exact this) (by rw[HF.out];exact beq_iff_eq.1 HI.out)];simp,_,rfl⟩
set_option maxHeartbeats 1000000 in
set_option maxRecDepth 100000 in
theorem Kp(b:Int)(h0:0<=b)(h1:b<256)(hlo:decide ((97:Int)<=b)=true)(hhi:decide (b<=102)=false)(w:World):Calls Tryz.prog 178 #[.int .u8 b] w fun e w'=>e=.returned (.tuple #[.int .i64 (max (ko b) 0),.bool (decide (0<=ko b))])/\∃ pos,w'=w.iter ⟨#[48,49,50,51,52,53,54,55,56,57,65,66,67,68,69,70]⟩ pos:=by
 have HF:Aside (foldI b=b):=by
  have:=of_decide_eq_false hhi;unfold Aside foldI;rw[if_neg Z9]
 go_enter Tryz.func178,Tryz.ntmps178
 go_wp2
 go_loopg [4,5] 16 (fun g _ _ wx=> ∃ i:Nat,i+g=16/\wx=w.iter ⟨#[48,49,50,51,52,53,54,55,56,57,65,66,67,68,69,70]⟩ i/\∀ j:Nat,j<i->dI j≠foldI b)
 case atStart=>exact⟨0,Z9,rfl,fun j hj=>by omega⟩
 case round=>
  obtain⟨i,hig,rfl,hno⟩:=hrel
  have HN:Aside (∀ j:Nat,j<i->dI j≠foldI b):=hno
  clear hno
  cases gk with
  | zero=>
    obtain rfl:i=16:=Z9
    have hnx:=run_next_end (P:=Tryz.prog) w ⟨#[48,49,50,51,52,53,54,55,56,57,65,66,67,68,69,70]⟩ 16
    go_wp2
    go_ret2
    exact⟨by rw[tz HN.out];rfl,_,rfl⟩
  | succ g=>
    have hi:i<(⟨#[48,49,50,51,52,53,54,55,56,57,65,66,67,68,69,70]⟩:ByteArray).size:=by show i<16;omega
    have hfa:((((⟨#[48,49,50,51,52,53,54,55,56,57,65,66,67,68,69,70]⟩:ByteArray)[i]'hi).toNat:Nat):Int)=dI i:=vA i hi
    have hlt:((⟨#[48,49,50,51,52,53,54,55,56,57,65,66,67,68,69,70]⟩:ByteArray)[i]'hi).toNat<128:=by have:=tH (show i<16 from hi);omega
    have hnx:=fun ty=>run_next_ascii (P:=Tryz.prog) w ⟨#[48,49,50,51,52,53,54,55,56,57,65,66,67,68,69,70]⟩ i ty hi hlt
    rw[hfa]at hnx
    clear hlt hfa
    cases hin:(dI i==b)
    · have HI:Aside ((dI i==b)=false):=hin
      go_wp2
      go_roundg g
      case measure=>omega
      case rel=>exact⟨i+1,Z9,rfl,fun j hj=>by
       by_cases e:j=i
       subst e;rw[HF.out];exact beq_eq_false_iff_ne.1 HI.out
       exact HN.out j Z9⟩
    have HI:Aside ((dI i==b)=true):=hin
    go_wp2
    go_ret2
    exact⟨by rw[wb (by have:i<16:=hi;exact this) (by rw[HF.out];exact beq_iff_eq.1 HI.out)];simp,_,rfl⟩
set_option maxHeartbeats 1000000 in
set_option maxRecDepth 100000 in
theorem Ft(b:Int)(h0:0<=b)(h1:b<256)(hlo:decide ((97:Int)<=b)=true)(hhi:decide (b<=102)=true)(w:World):Calls Tryz.prog 178 #[.int .u8 b] w fun e w'=>e=.returned (.tuple #[.int .i64 (max (ko b) 0),.bool (decide (0<=ko b))])/\∃ pos,w'=w.iter ⟨#[48,49,50,51,52,53,54,55,56,57,65,66,67,68,69,70]⟩ pos:=by
 have HF:Aside (foldI b=(b-32) % 256):=by
  have:=of_decide_eq_true hhi;have:=of_decide_eq_true hlo;unfold Aside foldI;rw[if_pos Z9];omega
 go_enter Tryz.func178,Tryz.ntmps178
 go_wp2
 go_loopg [4,5] 16 (fun g _ _ wx=> ∃ i:Nat,i+g=16/\wx=w.iter ⟨#[48,49,50,51,52,53,54,55,56,57,65,66,67,68,69,70]⟩ i/\∀ j:Nat,j<i->dI j≠foldI b)
 case atStart=>exact⟨0,Z9,rfl,fun j hj=>by omega⟩
 case round=>
  obtain⟨i,hig,rfl,hno⟩:=hrel
  have HN:Aside (∀ j:Nat,j<i->dI j≠foldI b):=hno
  clear hno
  cases gk with
  | zero=>
    obtain rfl:i=16:=Z9
    have hnx:=run_next_end (P:=Tryz.prog) w ⟨#[48,49,50,51,52,53,54,55,56,57,65,66,67,68,69,70]⟩ 16
    go_wp2
    go_ret2
    exact⟨by rw[tz HN.out];rfl,_,rfl⟩
  | succ g=>
    have hi:i<(⟨#[48,49,50,51,52,53,54,55,56,57,65,66,67,68,69,70]⟩:ByteArray).size:=by show i<16;omega
    have hfa:((((⟨#[48,49,50,51,52,53,54,55,56,57,65,66,67,68,69,70]⟩:ByteArray)[i]'hi).toNat:Nat):Int)=dI i:=vA i hi
    have hlt:((⟨#[48,49,50,51,52,53,54,55,56,57,65,66,67,68,69,70]⟩:ByteArray)[i]'hi).toNat<128:=by have:=tH (show i<16 from hi);omega
    have hnx:=fun ty=>run_next_ascii (P:=Tryz.prog) w ⟨#[48,49,50,51,52,53,54,55,56,57,65,66,67,68,69,70]⟩ i ty hi hlt
    rw[hfa]at hnx
    clear hlt hfa
    cases hin:(dI i==(b-32) % 256)
    · have HI:Aside ((dI i==(b-32) % 256)=false):=hin
      go_wp2
      go_roundg g
      case measure=>omega
      case rel=>exact⟨i+1,Z9,rfl,fun j hj=>by
       by_cases e:j=i
       subst e;rw[HF.out];exact beq_eq_false_iff_ne.1 HI.out
       exact HN.out j Z9⟩
    have HI:Aside ((dI i==(b-32) % 256)=true):=hin
    go_wp2
    go_ret2
    exact⟨by rw[wb (by have:i<16:=hi;exact this) (by rw[HF.out];exact beq_iff_eq.1 HI.out)];simp,_,rfl⟩
open Go.Abs in
theorem JJ(b:UInt8):PC Tryz.prog 178 [uN b.toNat] (fun r=>r=.tup [iV (max (ct b) 0),bV (decide (0<=ct b))]):=by
 refine⟨dO Tryz.func178 Z7 Z7,fun w Pb cargs hP hargs=>?_⟩
 obtain⟨r,rfl,h1⟩:=gp hargs
 obtain rfl:=kZ h1
 have hb:=b.toNat_lt
 have h:Calls Tryz.prog 178 #[.int .u8 b.toNat] w fun e w'=>e=.returned (.tuple #[.int .i64 (max (ko b.toNat) 0),.bool (decide (0<=ko b.toNat))])/\∃ pos,w'=w.iter ⟨#[48,49,50,51,52,53,54,55,56,57,65,66,67,68,69,70]⟩ pos:=by
  cases h1:decide ((97:Int)<=b.toNat)
  exact JI _ Z9 Z9 h1 w
  cases h2:decide ((b.toNat:Int)<=102)
  exact Kp _ Z9 Z9 h1 h2 w
  exact Ft _ Z9 Z9 h1 h2 w
 rw[Ev]at h
 refine h.mono ?_
 rintro e w' ⟨rfl,pos,rfl⟩
 exact⟨_,_,[],Pb,rfl,rfl,sk rfl rfl,List.nodup_nil,Z8,fun _ h=>h,fun _ h=>.inl h,⟨rfl,rfl,rfl,by simp[World.iter],fun k hk=>Go.Abs.alloc_old w _ k hk⟩⟩
open Go.Abs in
theorem Kk(b:UInt8):PF Tryz.prog 178 [uN b.toNat] [] (fun r h=>r=.tup [iV (max (ct b) 0),bV (decide (0<=ct b))]/\h=[]):=gQ rfl rfl (JJ b)
end Go.Proofs.YtbjbamjffkanbaaGreatDoor
namespace Go.Proofs.YtbjbamjffkanbaaGreatDoor
open Go Go.Abs Go.RowKit
def W2:ZT Tryz.prog:=⟨3,iN 0,dz (cs:=[.int .i64 0]) Z7 Z7⟩
def W1:ZT Tryz.prog:=⟨4,bV false,dz (cs:=[.bool false]) Z7 Z7⟩
def Lu:ZT Tryz.prog:=⟨24,.sl true [],dz (cs:=[.slice none 0 0]) Z7 Z7⟩
def fV:ZT Tryz.prog:=⟨30,.agg [sV [],iN 0,.sl true [],.sl true [],.sl true []],dz (cs:=[.string ⟨#[]⟩,.int .i64 0,.slice none 0 0,.slice none 0 0,.slice none 0 0]) Z7 Z7⟩
def gO:ZT Tryz.prog:=⟨36,.agg [.sl true [],.sl true [],iN 0],dz (cs:=[.slice none 0 0,.slice none 0 0,.int .i64 0]) Z7 Z7⟩
def zi:ZT Tryz.prog:=⟨39,.agg [sV [],iN 0,bV false,.agg [.sl true [],.sl true [],iN 0],iN 0,.sl true []],dz (cs:=[.string ⟨#[]⟩,.int .i64 0,.bool false,.slice none 0 0,.slice none 0 0,.int .i64 0,.int .i64 0,.slice none 0 0]) Z7 Z7⟩
def dc:ZT Tryz.prog:=⟨52,.agg [sV [],.sl true [],bV false,sV []],dz (cs:=[.string ⟨#[]⟩,.slice none 0 0,.bool false,.string ⟨#[]⟩]) Z7 Z7⟩
def sL:ZT Tryz.prog:=⟨63,.agg [sV [],iN 0],dz (cs:=[.string ⟨#[]⟩,.int .i64 0]) Z7 Z7⟩
def BE:ZT Tryz.prog:=⟨78,.agg [iN 0,sV [],iN 0],dz (cs:=[.int .i64 0,.string ⟨#[]⟩,.int .i64 0]) Z7 Z7⟩
def LA:ZT Tryz.prog:=⟨88,.agg [.lit (.map none),.lit (.pointer none)],dz (cs:=[.map none,.pointer none]) Z7 Z7⟩
def Lr:ZT Tryz.prog:=⟨97,.agg [.sl true [],iN 0],dz (cs:=[.slice none 0 0,.int .i64 0]) Z7 Z7⟩
def mN:ZT Tryz.prog:=⟨99,.agg [sV [],sV [],sV [],iN 0],dz (cs:=[.string ⟨#[]⟩,.string ⟨#[]⟩,.string ⟨#[]⟩,.int .i64 0]) Z7 Z7⟩
def tO:ZT Tryz.prog:=⟨131,.agg [bV false,sV []],dz (cs:=[.bool false,.string ⟨#[]⟩]) Z7 Z7⟩
def Lf:ZT Tryz.prog:=⟨158,.agg [.lit .nilFunc,.lit .nilFunc],dz (cs:=[.nilFunc,.nilFunc]) Z7 Z7⟩
def La:ZT Tryz.prog:=⟨174,.agg [.sl true [],bV false],dz (cs:=[.slice none 0 0,.bool false]) Z7 Z7⟩
def mq:ZT Tryz.prog:=⟨210,.agg [sV []],dz (cs:=[.string ⟨#[]⟩]) Z7 Z7⟩
def BJ:ZT Tryz.prog:=⟨212,.agg [.agg [bV false,sV []]],dz (cs:=[.bool false,.string ⟨#[]⟩]) Z7 Z7⟩
def GQ:ZT Tryz.prog:=⟨215,.agg [iN 0],dz (cs:=[.int .i64 0]) Z7 Z7⟩
def KU:ZT Tryz.prog:=⟨247,.agg [.lit .nilFunc,.lit .nilFunc,.lit .nilFunc],dz (cs:=[.nilFunc,.nilFunc,.nilFunc]) Z7 Z7⟩
end Go.Proofs.YtbjbamjffkanbaaGreatDoor
namespace Go.Proofs.YtbjbamjffkanbaaGreatDoor
open Go Go.Abs Go.RowKit Go.Pd
set_option maxRecDepth 20000
theorem mixed:Tryz.prog.follows .mixedOrders=true:=Z7
abbrev oq(s:BL)(c:UInt8):V:=.tup [sV ((ag c s).1),sV ((ag c s).2.1),bV ((ag c s).2.2)]
abbrev kU(s:BL)(c:UInt8)(i:Nat):Prop:=i<=s.length/\ag c s=(s.take i++(ag c (s.drop i)).1,(ag c (s.drop i)).2.1,(ag c (s.drop i)).2.2)
def mB(s:BL)(c:UInt8):o8 Tryz.prog:=.mk 132 [sV s,uN c.toNat] [] (s.length<=4611686018427387904) (oq s c) [] (by
 intro hs
 refine az (N:=27) (rs:=[.tmp 4,.tmp 5,.tmp 6]) Tryz.func132
  (.q 3<|.q 1<|.loop (Nat) (fun (i:Nat)=>⟨[(0,sV s),(1,uN c.toNat),(7,iN i)],[]⟩) (fun (i:Nat)=>kU s c i) (fun (i:Nat)=>s.length-i) (fun (i:Nat)=>.q 4<|.br (.q 5<|.br (.dx 8 [0,1,2,3,4,5,6,7] [] []<|.q 1<|.q 1<|.q 1<|.q 1<|.q 1<|.q 1<|.q 1<|.q 1<|.q 2<|.nil) (.q 3<|.nil)) (.q 4<|.nil)))
  ((∃ j7:Nat,(kU s c j7)/\E (sV s)/\E (uN c.toNat)/\Q (iN 0) (iN j7)/\True)/\∀ i:Nat,(kU s c i)->Br (s8 (i:Int) (s.length:Int)) (Ix (i:Int) s/\Br (o6 (((s.getD i 0).toNat:Nat):Int) (c.toNat:Int)) (Sx (0:Int) (i:Int) s/\m9 ((i:Int)+1)/\Sx ((i+1:Nat):Int) (s.length:Int) s/\Q (.tup [sV ((s.take i).drop ((0:Int).toNat)),sV ((s.take s.length).drop (i+1)),bV true]) (oq s c)) (m9 ((i:Int)+1)/\∃ c5:Nat,(kU s c c5)/\(s.length-c5<s.length-i)/\E (sV s)/\E (uN c.toNat)/\Q (iN (i+1)) (iN c5)/\True)) (Q (.tup [sV s,sV [],bV false]) (oq s c))) ?_
 refine⟨⟨0,?_,rfl,rfl,rfl,trivial⟩,?_⟩
 unfold kU
 simp_all
 rintro i ⟨hi,Mo⟩
 refine bI (fun j9=>?_) fun j9=>?_
 refine⟨Z9,?_⟩
 refine bI (fun l6=>?_) fun l6=>?_
 refine⟨Z9,Z9,Z9,?_⟩
 unfold Q oq
 have he:s.getD i 0=c:=UInt8.toNat_inj.1 (by exact_mod_cast l6)
 rw[Mo,drop_cons (by omega:i<s.length) 0,ag,if_pos he]
 simp
 refine⟨Z9,?_⟩
 refine⟨i+1,?_,?_,rfl,rfl,rfl,trivial⟩
 unfold kU
 refine⟨Z9,?_⟩
 have hne: ¬ s.getD i 0=c:=fun h=>l6 (by rw[h])
 rw[Mo,drop_cons (by omega:i<s.length) 0]
 simp only[ag,if_neg hne,bj (by omega:i<s.length) 0,List.append_assoc,List.cons_append,List.nil_append]
 exact Z1
 unfold Q oq
 have hl:s.length<=i:=Z9
 rw[Mo,List.drop_eq_nil_of_le hl,ag,List.take_of_length_le hl]
 simp)
def lM(n:Int)(lo:Int)(up:Int):o8 Tryz.prog:=.mk 61 [iV n,iV lo,iV up] [] True (bV (y8 n lo up)) [] (by
 intro _
 refine az (N:=15) (rs:=[.tmp 6]) Tryz.func61
  (.q 1<|.q 9<|.nil)
  (Pk (z6 n lo) ((z6 n lo)==true) true/\Q (bV ((z6 n lo)&&(D2 n up))) (bV (y8 n lo up))) ?_
 refine⟨⟨fun h=>by rw[h] <;> rfl,fun _=>rfl⟩,?_⟩
 unfold Q
 refine congrArg bV ?_
 rw[Bool.eq_iff_iff]
 simp[y8])
def jQ(b:UInt8):o8 Tryz.prog:=.mk 182 [uN b.toNat] [] True (bV (dN b)) [] (by
 intro _
 refine az (N:=25) (rs:=[.tmp 2]) Tryz.func182
  (.q 1<|.q 23<|.nil)
  ((fun v1:Int=>(fun v2:Bool=>(Pk (z6 v1 97) ((z6 v1 97)==true) true/\Gd v2 (Pk (z6 v1 48) (v2&&((z6 v1 48)==true)) true)/\Pk ((z6 v1 97)&&(D2 v1 122)) true v2/\Pk (((z6 v1 97)&&(D2 v1 122))||((z6 v1 48)&&(D2 v1 57))) true ((((z6 v1 97)&&(D2 v1 122))||((z6 v1 48)&&(D2 v1 57)))==false)/\Pk ((((z6 v1 97)&&(D2 v1 122))||((z6 v1 48)&&(D2 v1 57)))||(o6 v1 46)) true (((((z6 v1 97)&&(D2 v1 122))||((z6 v1 48)&&(D2 v1 57)))||(o6 v1 46))==false)/\Q (bV (((((z6 v1 97)&&(D2 v1 122))||((z6 v1 48)&&(D2 v1 57)))||(o6 v1 46))||(o6 v1 45))) (bV (dN b)))) (((z6 v1 97)&&(D2 v1 122))==false)) (b.toNat:Int)) ?_
 refine⟨⟨fun h=>by rw[h] <;> rfl,fun _=>rfl⟩,fun hG=>⟨fun h=>by rw[h];exact(Bool.and_eq_true _ _).mpr ⟨hG,rfl⟩,fun _=>rfl⟩,⟨fun _=>rfl,fun h=>by rw[h] <;> rfl⟩,⟨fun _=>rfl,fun h=>by rw[h] <;> rfl⟩,⟨fun _=>rfl,fun h=>by rw[h] <;> rfl⟩,?_⟩
 unfold Q
 refine congrArg bV ?_
 rw[Bool.eq_iff_iff]
 simp[dN]
 try omega)
def lb(b:UInt8):o8 Tryz.prog:=.mk 154 [uN b.toNat] [] True (bV (dN b)) [] (by
 intro _
 refine az (N:=25) (rs:=[.tmp 2]) Tryz.func154
  (.q 1<|.q 23<|.nil)
  ((fun v1:Int=>(fun v2:Bool=>(Pk (z6 v1 97) ((z6 v1 97)==true) true/\Gd v2 (Pk (z6 v1 48) (v2&&((z6 v1 48)==true)) true)/\Pk ((z6 v1 97)&&(D2 v1 122)) true v2/\Pk (((z6 v1 97)&&(D2 v1 122))||((z6 v1 48)&&(D2 v1 57))) true ((((z6 v1 97)&&(D2 v1 122))||((z6 v1 48)&&(D2 v1 57)))==false)/\Pk ((((z6 v1 97)&&(D2 v1 122))||((z6 v1 48)&&(D2 v1 57)))||(o6 v1 46)) true (((((z6 v1 97)&&(D2 v1 122))||((z6 v1 48)&&(D2 v1 57)))||(o6 v1 46))==false)/\Q (bV (((((z6 v1 97)&&(D2 v1 122))||((z6 v1 48)&&(D2 v1 57)))||(o6 v1 46))||(o6 v1 45))) (bV (dN b)))) (((z6 v1 97)&&(D2 v1 122))==false)) (b.toNat:Int)) ?_
 refine⟨⟨fun h=>by rw[h] <;> rfl,fun _=>rfl⟩,fun hG=>⟨fun h=>by rw[h];exact(Bool.and_eq_true _ _).mpr ⟨hG,rfl⟩,fun _=>rfl⟩,⟨fun _=>rfl,fun h=>by rw[h] <;> rfl⟩,⟨fun _=>rfl,fun h=>by rw[h] <;> rfl⟩,⟨fun _=>rfl,fun h=>by rw[h] <;> rfl⟩,?_⟩
 unfold Q
 refine congrArg bV ?_
 rw[Bool.eq_iff_iff]
 simp[dN]
 try omega)
def kf(b:UInt8):o8 Tryz.prog:=.mk 197 [uN b.toNat] [] True (iV (ct b)) [] (by
 intro _
 refine az (N:=35) (rs:=[.tmp 2]) Tryz.func197
  (.q 1<|.q 7<|.br (.q 4<|.nil) (.q 7<|.br (.q 5<|.nil) (.q 7<|.br (.q 5<|.nil) (.q 1<|.nil))))
  ((fun v1:Int=>(Pk (z6 v1 48) ((z6 v1 48)==true) true/\Br ((z6 v1 48)&&(D2 v1 57)) (Ot (v1-48)/\m9 (v1-48)/\Q (iV (v1-48)) (iV (ct b))) (Pk (z6 v1 97) ((z6 v1 97)==true) true/\Br ((z6 v1 97)&&(D2 v1 102)) (Ot (v1-97)/\m9 (v1-97)/\m9 ((v1-97)+10)/\Q (iV ((v1-97)+10)) (iV (ct b))) (Pk (z6 v1 65) ((z6 v1 65)==true) true/\Br ((z6 v1 65)&&(D2 v1 70)) (Ot (v1-65)/\m9 (v1-65)/\m9 ((v1-65)+10)/\Q (iV ((v1-65)+10)) (iV (ct b))) (Q (iV (-1)) (iV (ct b))))))) (b.toNat:Int)) ?_
 refine⟨⟨fun h=>by rw[h] <;> rfl,fun _=>rfl⟩,?_⟩
 refine bI (fun j9=>?_) fun j9=>?_
 · refine⟨by have:=UInt8.toNat_lt b;omega,by have:=UInt8.toNat_lt b;omega,?_⟩
   unfold Q
   have:=b.toNat_lt
   refine congrArg iV ?_
   unfold ct
   repeat (split <;> try omega)
 · refine⟨⟨fun h=>by rw[h] <;> rfl,fun _=>rfl⟩,?_⟩
   refine bI (fun l6=>?_) fun l6=>?_
   · refine⟨by have:=UInt8.toNat_lt b;omega,by have:=UInt8.toNat_lt b;omega,by have:=UInt8.toNat_lt b;omega,?_⟩
     unfold Q
     have:=b.toNat_lt
     refine congrArg iV ?_
     unfold ct
     repeat (split <;> try omega)
   · refine⟨⟨fun h=>by rw[h] <;> rfl,fun _=>rfl⟩,?_⟩
     refine bI (fun n0=>?_) fun n0=>?_
     · refine⟨by have:=UInt8.toNat_lt b;omega,by have:=UInt8.toNat_lt b;omega,by have:=UInt8.toNat_lt b;omega,?_⟩
       unfold Q
       have:=b.toNat_lt
       refine congrArg iV ?_
       unfold ct
       repeat (split <;> try omega)
     · unfold Q
       have:=b.toNat_lt
       refine congrArg iV ?_
       unfold ct
       repeat (split <;> try omega))
def wY(s:BL):o8 Tryz.prog:=.mk 163 [sV s] [] (s.length<=4611686018427387904) (bV (bU s)) [] (by
 intro hs
 refine az (N:=23) (rs:=[.tmp 2]) Tryz.func163
  (.q 1<|.q 1<|.loop (Nat) (fun (i:Nat)=>⟨[(0,sV s),(3,iN i)],[]⟩) (fun (i:Nat)=>i<=s.length/\∀ j,j<i->gz (s.getD j 0)=true) (fun (i:Nat)=>s.length-i) (fun (i:Nat)=>.q 4<|.br (.q 10<|.br (.q 1<|.nil) (.q 3<|.nil)) (.q 2<|.c (lM (s.length:Int) (1:Int) (5:Int)) []<|.q 1<|.nil)))
  ((∃ j7:Nat,(j7<=s.length/\∀ j,j<j7->gz (s.getD j 0)=true)/\E (sV s)/\Q (iN 0) (iN j7)/\True)/\∀ i:Nat,(i<=s.length/\∀ j,j<i->gz (s.getD j 0)=true)->(fun v1:Int=>Br (s8 (i:Int) (s.length:Int)) (Ix (i:Int) s/\Gd ((s8 v1 97)==false) (Ix (i:Int) s)/\Pk (s8 v1 97) true ((s8 v1 97)==false)/\Br ((s8 v1 97)||(s9 v1 122)) (Q (bV false) (bV (bU s))) (m9 ((i:Int)+1)/\∃ c5:Nat,(c5<=s.length/\∀ j,j<c5->gz (s.getD j 0)=true)/\(s.length-c5<s.length-i)/\E (sV s)/\Q (iN (i+1)) (iN c5)/\True)) ((lM (s.length:Int) (1:Int) (5:Int)).sm/\(True)/\Q (bV (y8 (s.length:Int) (1:Int) (5:Int))) (bV (bU s)))) (((s.getD i 0).toNat:Nat):Int)) ?_
 refine⟨⟨0,?_,rfl,rfl,trivial⟩,?_⟩
 simp_all
 rintro i ⟨hi,Ob⟩
 refine bI (fun j9=>?_) fun j9=>?_
 refine⟨Z9,fun hG=>by(try simp only[nb]at hG);omega,⟨fun _=>rfl,fun h=>by rw[h] <;> rfl⟩,?_⟩
 refine bI (fun l6=>?_) fun l6=>?_
 unfold Q
 rw[show bU s=false from by unfold bU fA;rw[all_false (i:=i) (d:=0) Z9 (by simp only[gz,decide_eq_false_iff_not];omega)];rfl]
 refine⟨Z9,?_⟩
 refine⟨i+1,?_,?_,rfl,rfl,trivial⟩
 refine⟨Z9,bP Ob ?_⟩
 simp only[gz,decide_eq_true_eq];omega
 exact Z1
 refine⟨rfl,trivial,?_⟩
 unfold Q
 unfold bU
 rw[show fA s=true from all_true (d:=0) fun j hj=>Ob j Z9]
 rw[Bool.true_and])
def pk(s:BL):o8 Tryz.prog:=.mk 58 [sV s] [] (s.length<=4611686018427387904) (bV (bh s)) [] (by
 intro hs
 refine az (N:=23) (rs:=[.tmp 2]) Tryz.func58
  (.q 1<|.q 1<|.loop (Nat) (fun (i:Nat)=>⟨[(0,sV s),(3,iN i)],[]⟩) (fun (i:Nat)=>i<=s.length/\∀ j,j<i->gz (s.getD j 0)=true) (fun (i:Nat)=>s.length-i) (fun (i:Nat)=>.q 4<|.br (.q 10<|.br (.q 1<|.nil) (.q 3<|.nil)) (.q 2<|.c (lM (s.length:Int) (1:Int) (8:Int)) []<|.q 1<|.nil)))
  ((∃ j7:Nat,(j7<=s.length/\∀ j,j<j7->gz (s.getD j 0)=true)/\E (sV s)/\Q (iN 0) (iN j7)/\True)/\∀ i:Nat,(i<=s.length/\∀ j,j<i->gz (s.getD j 0)=true)->(fun v1:Int=>Br (s8 (i:Int) (s.length:Int)) (Ix (i:Int) s/\Gd ((s8 v1 97)==false) (Ix (i:Int) s)/\Pk (s8 v1 97) true ((s8 v1 97)==false)/\Br ((s8 v1 97)||(s9 v1 122)) (Q (bV false) (bV (bh s))) (m9 ((i:Int)+1)/\∃ c5:Nat,(c5<=s.length/\∀ j,j<c5->gz (s.getD j 0)=true)/\(s.length-c5<s.length-i)/\E (sV s)/\Q (iN (i+1)) (iN c5)/\True)) ((lM (s.length:Int) (1:Int) (8:Int)).sm/\(True)/\Q (bV (y8 (s.length:Int) (1:Int) (8:Int))) (bV (bh s)))) (((s.getD i 0).toNat:Nat):Int)) ?_
 refine⟨⟨0,?_,rfl,rfl,trivial⟩,?_⟩
 simp_all
 rintro i ⟨hi,Ob⟩
 refine bI (fun j9=>?_) fun j9=>?_
 refine⟨Z9,fun hG=>by(try simp only[nb]at hG);omega,⟨fun _=>rfl,fun h=>by rw[h] <;> rfl⟩,?_⟩
 refine bI (fun l6=>?_) fun l6=>?_
 unfold Q
 rw[show bh s=false from by unfold bh fA;rw[all_false (i:=i) (d:=0) Z9 (by simp only[gz,decide_eq_false_iff_not];omega)];rfl]
 refine⟨Z9,?_⟩
 refine⟨i+1,?_,?_,rfl,rfl,trivial⟩
 refine⟨Z9,bP Ob ?_⟩
 simp only[gz,decide_eq_true_eq];omega
 exact Z1
 refine⟨rfl,trivial,?_⟩
 unfold Q
 unfold bh
 rw[show fA s=true from all_true (d:=0) fun j hj=>Ob j Z9]
 rw[Bool.true_and])
def mo(s:BL):o8 Tryz.prog:=.mk 69 [sV s] [] (s.length<=4611686018427387904) (bV (fA s)) [] (by
 intro hs
 refine az (N:=20) (rs:=[.tmp 2]) Tryz.func69
  (.q 1<|.q 1<|.loop (Nat) (fun (i:Nat)=>⟨[(0,sV s),(3,iN i)],[]⟩) (fun (i:Nat)=>i<=s.length/\∀ j,j<i->gz (s.getD j 0)=true) (fun (i:Nat)=>s.length-i) (fun (i:Nat)=>.q 4<|.br (.q 10<|.br (.q 1<|.nil) (.q 3<|.nil)) (.q 1<|.nil)))
  ((∃ j7:Nat,(j7<=s.length/\∀ j,j<j7->gz (s.getD j 0)=true)/\E (sV s)/\Q (iN 0) (iN j7)/\True)/\∀ i:Nat,(i<=s.length/\∀ j,j<i->gz (s.getD j 0)=true)->(fun v1:Int=>Br (s8 (i:Int) (s.length:Int)) (Ix (i:Int) s/\Gd ((s8 v1 97)==false) (Ix (i:Int) s)/\Pk (s8 v1 97) true ((s8 v1 97)==false)/\Br ((s8 v1 97)||(s9 v1 122)) (Q (bV false) (bV (fA s))) (m9 ((i:Int)+1)/\∃ c5:Nat,(c5<=s.length/\∀ j,j<c5->gz (s.getD j 0)=true)/\(s.length-c5<s.length-i)/\E (sV s)/\Q (iN (i+1)) (iN c5)/\True)) (Q (bV true) (bV (fA s)))) (((s.getD i 0).toNat:Nat):Int)) ?_
 refine⟨⟨0,?_,rfl,rfl,trivial⟩,?_⟩
 simp_all
 rintro i ⟨hi,Ob⟩
 refine bI (fun j9=>?_) fun j9=>?_
 refine⟨Z9,fun hG=>by(try simp only[nb]at hG);omega,⟨fun _=>rfl,fun h=>by rw[h] <;> rfl⟩,?_⟩
 refine bI (fun l6=>?_) fun l6=>?_
 unfold Q
 rw[show fA s=false from by unfold fA;rw[all_false (i:=i) (d:=0) Z9 (by simp only[gz,decide_eq_false_iff_not];omega)]]
 refine⟨Z9,?_⟩
 refine⟨i+1,?_,?_,rfl,rfl,trivial⟩
 refine⟨Z9,bP Ob ?_⟩
 simp only[gz,decide_eq_true_eq];omega
 exact Z1
 unfold Q
 rw[show fA s=true from all_true (d:=0) fun j hj=>Ob j Z9])
def gK(s:BL):o8 Tryz.prog:=.mk 51 [sV s] [] (s.length<=4611686018427387904) (bV (bU s)) [] (by
 intro hs
 refine az (N:=15) (rs:=[.tmp 2]) Tryz.func51
  (.q 1<|.q 10<|.cg (mo s)<|.q 2<|.nil)
  ((fun v1:Int=>(Pk (z6 v1 1) ((z6 v1 1)==true) true/\Gd (((z6 v1 1)&&(D2 v1 5))==true) (((s.length<=4611686018427387904))/\(mo s).sm)/\Pk ((z6 v1 1)&&(D2 v1 5)) (((z6 v1 1)&&(D2 v1 5))==true) true/\Q (bV (((z6 v1 1)&&(D2 v1 5))&&(fA s))) (bV (bU s)))) (s.length:Int)) ?_
 refine⟨⟨fun h=>by rw[h] <;> rfl,fun _=>rfl⟩,fun hG=>⟨by(try simp only[nb]at hG);first | assumption | omega | (simp;omega),rfl⟩,⟨fun h=>by rw[h] <;> rfl,fun _=>rfl⟩,?_⟩
 unfold Q
 refine congrArg bV ?_
 rw[Bool.eq_iff_iff]
 simp[bU,y8,and_comm,and_assoc]
 try omega)
def ew(s:BL):o8 Tryz.prog:=.mk 38 [sV s] [] (s.length<=4611686018427387904) (bV (bh s)) [] (by
 intro hs
 refine az (N:=15) (rs:=[.tmp 2]) Tryz.func38
  (.q 1<|.q 10<|.cg (mo s)<|.q 2<|.nil)
  ((fun v1:Int=>(Pk (z6 v1 1) ((z6 v1 1)==true) true/\Gd (((z6 v1 1)&&(D2 v1 8))==true) (((s.length<=4611686018427387904))/\(mo s).sm)/\Pk ((z6 v1 1)&&(D2 v1 8)) (((z6 v1 1)&&(D2 v1 8))==true) true/\Q (bV (((z6 v1 1)&&(D2 v1 8))&&(fA s))) (bV (bh s)))) (s.length:Int)) ?_
 refine⟨⟨fun h=>by rw[h] <;> rfl,fun _=>rfl⟩,fun hG=>⟨by(try simp only[nb]at hG);first | assumption | omega | (simp;omega),rfl⟩,⟨fun h=>by rw[h] <;> rfl,fun _=>rfl⟩,?_⟩
 unfold Q
 refine congrArg bV ?_
 rw[Bool.eq_iff_iff]
 simp[bh,y8,and_comm,and_assoc]
 try omega)
end Go.Proofs.YtbjbamjffkanbaaGreatDoor
