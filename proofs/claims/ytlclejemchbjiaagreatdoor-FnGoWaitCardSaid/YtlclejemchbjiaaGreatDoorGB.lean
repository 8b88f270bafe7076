/-
  Words and walks for the laws of pedlar's seat: what each function of the program computes, and that it does; no conditions beyond those that each statement names.
-/
import Derived.Test.YtlclejemchbjiaaGreatDoorGA
import Derived.Scope
import Derived.Laws.MakeOwn
import Derived.MapKept
import Derived.Test.YtlclejemchbjiaaGreatDoorProg
import Derived.Shelf.Strings.OnBuilder
import Derived.Shelf.Strings.Search2
import Derived.Shelf.Strings.Search3
import Derived.Shelf.Strings.Count
import Derived.Shelf.Strings.SplitCore
import Derived.Shelf.Strings.IndexAnyAll
import Derived.Shelf.Slices.Turned
import Derived.Shelf.Slices.Clone
import Derived.Lib.Join
import Derived.Lib.IndexAny
import Derived.Lib.SplitLaws
import Derived.WalkKit
import Derived.Laws.RangeString
import Derived.Deep.LoopGhost
set_option linter.unusedVariables false
set_option linter.unusedSimpArgs false
set_option linter.unnecessarySimpa false
set_option linter.unusedSectionVars false
namespace Go.Abs
open Go Go.RowKit
mutual
def V.LY(ρ:l9->l9):V->V
 | .hd r p sz g o lo n c=>.hd (ρ r) p sz g o lo n c
 | .ptr r p g o=>.ptr (ρ r) p g o
 | .agg vs=>.agg (V.uj ρ vs)
 | .tup vs=>.tup (V.uj ρ vs)
 | v=>v
def V.uj(ρ:l9->l9):List V->List V
 | []=>[]
 | v::vs=>v.LY ρ::V.uj ρ vs
end
def Sp:V->V
 | .tup _=>.b9
 | .gv _ _=>.b9
 | v=>v
def AS.tk(A:AS):List Operand->List V×AS
 | []=>([],A)
 | x::xs=>match (A.drop x).tk xs with
   | (vs,B)=>(Sp (A.ev x)::vs,B)
section
variable {w w':World} {Pb Kb Pb':Nat->Prop} {N:Nat} {A A' B:AS} {a:Act} {F:l9->List Nat} {P:Program} {ops:Array Oper}
mutual
theorem Fk(ρ:l9->l9):∀ (v:V) {cs F},R w Pb v cs F->R w Pb (v.LY ρ) cs F
 | .agg vs,_,_,h=>by simp only[R,V.LY]at h ⊢;exact si ρ vs h
 | .tup _,_,_,h=>by simp[R]at h
 | .hd ..,_,_,h=>h
 | .ptr ..,_,_,h=>h
 | .gv _ _,_,_,h=>h
 | .lit _,_,_,h=>h
 | .sl ..,_,_,h=>h
 | .own ..,_,_,h=>h
 | .ow ..,_,_,h=>h
 | .om ..,_,_,h=>h
 | .mp _,_,_,h=>h
 | .ep _,_,_,h=>h
 | .b9,_,_,h=>h
theorem si(ρ:l9->l9):∀ (vs:List V) {cs F},RL w Pb vs cs F->RL w Pb (V.uj ρ vs) cs F
 | [],_,_,h=>h
 | v::vs,_,_,h=>by
   obtain⟨c1,c2,F1,F2,rfl,rfl,h1,h2⟩:=h
   exact⟨c1,c2,F1,F2,rfl,rfl,Fk ρ v h1,si ρ vs h2⟩
end
theorem Gj(ρ:l9->l9){v:V}{x:Value}{F1:List Nat}(h:L' w Pb v x F1):L' w Pb (v.LY ρ) x F1:=by
 cases v with
 | agg us=>obtain⟨cs,rfl,h⟩:=h;exact⟨cs,rfl,si ρ us h⟩
 | tup vs=>simp[L',R]at h
 | _=>exact h
theorem yq(ρ:l9->l9):∀ (vs:List V) {xs F1},RVs w Pb vs xs F1->RVs w Pb (V.uj ρ vs) xs F1
 | [],_,_,h=>h
 | v::vs,xs,F1,h=>by
   obtain⟨x,xs',Fa,Fb,rfl,rfl,h1,h2⟩:=(sO (v::vs)).1 h
   exact(sO (v.LY ρ::V.uj ρ vs)).2 ⟨x,xs',Fa,Fb,rfl,rfl,Gj ρ h1,yq ρ vs h2⟩
theorem HJ(ρ:l9->l9){v:V}{x:Value}{F1:List Nat}(h:RV w Pb v x F1):RV w Pb (v.LY ρ) x F1:=by
 cases v with
 | agg us=>obtain⟨cs,rfl,h⟩:=h;exact⟨cs,rfl,si ρ us h⟩
 | tup us=>obtain⟨cs,rfl,h⟩:=h;exact⟨cs,rfl,yq ρ us h⟩
 | _=>exact h
def OZ(w:World)(Pb:Nat->Prop):List V->List Value->List (List Nat)->Prop
 | [],[],[]=>True
 | v::vs,x::xs,F::Fs=>RV w Pb v x F/\OZ w Pb vs xs Fs
 | _,_,_=>False
theorem nN:∀ {vs us:List V} {xs ys:List Value} {Fs Gs:List (List Nat)},OZ w Pb vs xs Fs->OZ w Pb us ys Gs->OZ w Pb (vs++us) (xs++ys) (Fs++Gs)
 | [],_,[],_,[],_,_,h=>h
 | _::_,_,_::_,_,_::_,_,h,k=>⟨h.1,nN h.2 k⟩
 | [],_,_::_,_,_,_,h,_=>h.elim
 | [],_,[],_,_::_,_,h,_=>h.elim
 | _::_,_,[],_,_,_,h,_=>h.elim
 | _::_,_,_::_,_,[],_,h,_=>h.elim
theorem yy:∀ {vs:List V} {xs:List Value} {Fs:List (List Nat)},OZ w Pb vs xs Fs->xs.length=vs.length/\Fs.length=vs.length
 | [],[],[],_=>⟨rfl,rfl⟩
 | _::_,_::_,_::_,h=>by have:=yy h.2;simp[this.1,this.2]
 | [],_::_,_,h=>h.elim
 | [],[],_::_,h=>h.elim
 | _::_,[],_,h=>h.elim
 | _::_,_::_,[],h=>h.elim
theorem zA:∀ {vs:List V} {xs:List Value} {Fs:List (List Nat)} {i:Nat} {v:V} {x:Value},OZ w Pb vs xs Fs->vs[i]? =some v->xs[i]? =some x->RV w Pb v x (Fs.getD i [])
 | v::vs,x::xs,F::Fs,0,_,_,h,h1,h2=>by simp at h1 h2;subst h1 h2;exact h.1
 | v::vs,x::xs,F::Fs,i+1,_,_,h,h1,h2=>by simpa using zA (i:=i) h.2 (by simpa using h1) (by simpa using h2)
 | [],_,_,_,_,_,_,h1,_=>by simp at h1
 | _::_,[],_,_,_,_,h,_,_=>h.elim
 | _::_,_::_,[],_,_,_,h,_,_=>h.elim
theorem Bn:∀ {vs us:List V} {xs:List Value} {Fs:List (List Nat)},OZ w Pb vs xs Fs->OZ w Pb (KU vs us) xs Fs
 | [],us,[],[],_=>by simp only[KU];trivial
 | v::vs,[],_,_,h=>by simpa only[KU] using h
 | v::vs,u::us,x::xs,F::Fs,h=>⟨vM u h.1,Bn h.2⟩
 | [],_,_::_,_,h=>h.elim
 | [],_,[],_::_,h=>h.elim
 | _::_,_::_,[],_,h=>h.elim
 | _::_,_::_,_::_,[],h=>h.elim
theorem nW:∀ (l:List Value),OZ w Pb (l.map cV) l (l.map fun _=>[])
 | []=>trivial
 | x::l=>⟨qv x,nW l⟩
theorem HQ{v:V}{x:Value}{Fx:List Nat}(h:RV w Pb v x Fx):∃ Fy,RV w Pb (Sp v) x Fy/\(Fy=Fx\/Fy=[]):=by
 cases v with
 | tup _=>exact⟨[],rfl,.inr rfl⟩
 | gv _ _=>exact⟨[],rfl,.inr rfl⟩
 | _=>exact⟨Fx,h,.inl rfl⟩
theorem s4.tk:∀ (xs:List Operand) {A:AS} {F:l9->List Nat},s4 N Pb Kb A a w F->∃ Fl F',OZ w Pb (A.tk xs).1 (xs.map a.eval) Fl/\s4 N Pb Kb (A.tk xs).2 a w F'/\
 (∀ i,(Fl.getD i []).Nodup)/\(∀ i j,i≠j->∀ g,g∈Fl.getD i []->g ∉ Fl.getD j [])/\(∀ i r g,g∈Fl.getD i []->g ∉ F' r)/\(∀ i g,g∈Fl.getD i []->¬ Kb g/\g<w.heap.size)/\
 (∀ r g,g∈F' r->g∈F r)/\(∀ i g,g∈Fl.getD i []->∃ r,g∈F r)
 | [],A,F,hs=>⟨[],F,trivial,hs,by simp,by simp,by simp,by simp,fun _ _ h=>h,by simp⟩
 | x::xs,A,F,hs=>by
   obtain⟨Fx,F1,h1,h2,h3,h4,h5,h6,h7⟩:=hs.take x
   obtain⟨Fl,F2,k1,k2,k3,k4,k5,k6,k7,k8⟩:=s4.tk xs h2
   obtain⟨Fy,Pp,RP⟩:=HQ h1
   have TA:∀ g,g∈Fy->g∈Fx:=fun g hg=>by rcases RP with rfl | rfl <;> simp_all
   have hyn:Fy.Nodup:=by rcases RP with rfl | rfl <;> simp_all
   have hx:∀ i g,g∈Fy->g ∉ Fl.getD i []:=fun i g hg c=>by
    obtain⟨r,hr⟩:=k8 i g c
    exact h4 r g (TA g hg) hr
   refine⟨Fy::Fl,F2,⟨Pp,k1⟩,k2,fun i=>?_,fun i j hne g hg=>?_,fun i r g hg=>?_,fun i g hg=>?_,fun r g hg=>h6 r g (k7 r g hg),fun i g hg=>?_⟩
   cases i with
   | zero=>exact hyn
   | succ i=>simpa using k3 i
   cases i with
   | zero=>
     cases j with
     | zero=>exact absurd rfl hne
     | succ j=>simpa using hx j g (by simpa using hg)
   | succ i=>
     cases j with
     | zero=>exact fun c=>hx i g (by simpa using c) (by simpa using hg)
     | succ j=>simpa using k4 i j (by omega) g (by simpa using hg)
   cases i with
   | zero=>exact fun c=>h4 r g (TA g (by simpa using hg)) (k7 r g c)
   | succ i=>exact k5 i r g (by simpa using hg)
   cases i with
   | zero=>exact h5 g (TA g (by simpa using hg))
   | succ i=>exact k6 i g (by simpa using hg)
   cases i with
   | zero=>exact h7 g (TA g (by simpa using hg))
   | succ i=>
     obtain⟨r,hr⟩:=k8 i g (by simpa using hg)
     exact⟨r,h6 r g hr⟩
def LX(ks:List (Nat×Nat)):List (Nat×Nat):=ks.map fun p=>(p.2,p.1)
def jw(ks:List (Nat×Nat)):l9->l9
 | .key k=>match lk k ks with | some q=>.key q | none=>.key k
 | r=>r
def news(ρ:l9->l9)(H:List (Nat×(Nat×V))):List (Nat×Nat)->List (Nat×(Nat×V))
 | []=>[]
 | (k,q)::r=>match lk k H with
   | some (g,v)=>(q,(g,v.LY ρ))::news ρ H r
   | none=>news ρ H r
def tQ(ks:List (Nat×Nat))(h:List (Nat×(Nat×V))):List (Nat×(Nat×V)):=h.filter fun p=>(lk p.1 (LX ks)).isNone
theorem gB(ks:List (Nat×Nat)):∀ (h:List (Nat×(Nat×V))) (q:Nat),lk q (tQ ks h)=if (lk q (LX ks)).isNone then lk q h else none
 | [],q=>by simp[tQ,lk]
 | (k,v)::h,q=>by
   have ih:=gB ks h q
   simp only[tQ,List.filter_cons]at ih ⊢
   by_cases hk:(lk k (LX ks)).isNone=true
   rw[if_pos hk]
   simp only[lk]
   by_cases e:q=k
   subst e;rw[if_pos rfl,if_pos rfl,if_pos hk]
   rw[if_neg e,if_neg e];exact ih
   rw[if_neg hk,ih]
   simp only[lk]
   by_cases e:q=k
   subst e;rw[if_neg hk,if_neg hk]
   rw[if_neg e]
theorem lj{α:Type}:∀ {l:List (Nat×α)} {q:Nat},q ∉ l.map (·.1)->lk q l=none
 | [],_,_=>rfl
 | (k,v)::l,q,h=>by
   simp only[List.map_cons,List.mem_cons,not_or]at h
   simp only[lk];rw[if_neg h.1];exact lj h.2
theorem nE{ρ:l9->l9}{H:List (Nat×(Nat×V))}:∀ {ks:List (Nat×Nat)} {q:Nat},KK (ks.map (·.2))=true->
 lk q (news ρ H ks)=(lk q (LX ks)).bind fun k=>(lk k H).map fun gv=>(gv.1,gv.2.LY ρ)
 | [],q,_=>rfl
 | (k,q0)::ks,q,h=>by
   simp only[List.map_cons,KK,Bool.and_eq_true,Bool.not_eq_true',List.contains_eq_mem,decide_eq_false_iff_not]at h
   have ih:=nE (ρ:=ρ) (H:=H) (ks:=ks) (q:=q) h.2
   simp only[news,LX,List.map_cons,lk]
   by_cases e:q=q0
   subst e
   rw[if_pos rfl]
   simp only[Option.bind_some]
   cases hk:lk k H with
   | some gv=>simp only[lk,if_true,Option.map_some]
   | none=>
     simp only[Option.map_none]
     rw[ih,lj];rfl
     simp only[LX,List.map_map,Function.comp_def];exact h.1
   rw[if_neg e]
   cases hk:lk k H with
   | some gv=>simp only[lk];rw[if_neg e];exact ih
   | none=>exact ih
def AS.back(A:AS)(ks:List (Nat×Nat))(H:List (Nat×(Nat×V))):AS:=⟨A.t,news (jw ks) H ks++tQ ks A.h⟩
theorem jM{α:Type}(t:Nat)(l1 l2:List (Nat×α)):lk t (l1++l2)=match lk t l1 with | some v=>some v | none=>lk t l2:=CF t l1 l2
def jH(B:AS)(ks:List (Nat×Nat)):List (Nat×(Nat×V))->Prop
 | []=>True
 | (k,(g,v))::r=>(match lk k ks with | some q=>(match lk q B.h with | some (g',v')=>(g',wk v' v)=(g,v) | none=>False) | none=>False)/\jH B ks r
theorem sP{B:AS}{ks:List (Nat×Nat)}:∀ {H:List (Nat×(Nat×V))} {k g:Nat} {v:V},jH B ks H->lk k H=some (g,v)->∃ q v',lk k ks=some q/\lk q B.h=some (g,v')/\wk v' v=v
 | [],_,_,_,_,h=>by simp[lk]at h
 | (k0,(g0,v0))::H,k,g,v,h,e=>by
   simp only[lk]at e
   split at e
   rename_i e';subst e';cases e
   have h1:=h.1
   split at h1
   rename_i q hq
   split at h1
   rename_i g' v' UG
   simp only[Prod.mk.injEq]at h1
   exact⟨q,v',hq,by rw[UG,h1.1],h1.2⟩
   exact h1.elim
   exact h1.elim
   exact sP h.2 e
theorem sN{α:Type}:∀ {l:List (Nat×α)} {k:Nat} {v:α},lk k l=some v->(k,v)∈l
 | [],_,_,h=>by simp[lk]at h
 | (k0,v0)::l,k,v,h=>by
   simp only[lk]at h
   split at h
   rename_i e;subst e;cases h;simp
   exact List.mem_cons_of_mem _ (sN h)
theorem mg{α:Type}:∀ {l:List (Nat×α)} {k:Nat} {v:α},KK (l.map (·.1))=true->(k,v)∈l->lk k l=some v
 | (k0,v0)::l,k,v,h,hm=>by
   simp only[List.map_cons,KK,Bool.and_eq_true,Bool.not_eq_true',List.contains_eq_mem,decide_eq_false_iff_not]at h
   simp only[lk]
   rcases List.mem_cons.1 hm with e | hm
   cases e;rw[if_pos rfl]
   have hne:k≠k0:=fun c=>h.1 (by rw[<- c];exact List.mem_map.2 ⟨_,hm,rfl⟩)
   rw[if_neg hne];exact mg h.2 hm
theorem nz{ks:List (Nat×Nat)}{k q:Nat}(h1:KK (ks.map (·.1))=true)(h2:KK (ks.map (·.2))=true):lk k ks=some q↔lk q (LX ks)=some k:=by
 have e:(LX ks).map (·.1)=ks.map (·.2):=by simp[LX,List.map_map,Function.comp_def]
 constructor
 intro h
 refine mg (by rw[e];exact h2) ?_
 exact List.mem_map.2 ⟨(k,q),sN h,rfl⟩
 intro h
 have hm:=sN h
 simp only[LX,List.mem_map,Prod.mk.injEq]at hm
 obtain⟨⟨x,y⟩,hm,e1,e2⟩:=hm
 simp only at e1 e2
 subst e1 e2
 exact mg h1 hm
open Classical in
theorem mj{o:Oper} {K:AS->Prop} {f:FuncId} {fx:Operand} {xs:Array Operand} {J6:Array TypeId} {first w7:Array Value} {args:List V} {H:List (Nat×(Nat×V))}
 {Q:V->List (Nat×(Nat×V))->Prop} (ks:List (Nat×Nat)) (ho:o.op=.call { callee:=.value fx,args:=xs,argTypes:=J6 }) (U1:A.ev fx=.lit (.func (.func f) first w7))
 (hd:bX N o.dst) (M6:KK (ks.map (·.1))=true) (Mb:KK (ks.map (·.2))=true) (hc:PF P f args H Q)
 (hargs:KU (first.toList.map cV++(A.tk xs.toList).1++w7.toList.map cV) args=args) (hlen:args.length=(first.toList.map cV++(A.tk xs.toList).1++w7.toList.map cV).length)
 (M0:jH (A.tk xs.toList).2 ks H)
 (hK:∀ r H',Q r H'->K (((A.tk xs.toList).2.back ks H').put o.dst (r.LY (jw ks)))):D5 P N o A K:=by
 intro Pb Kb a w F Q' hs
 have hfv:=bJ hs U1
 unfold Oper.wp
 have x9:(execOp a.eval o).run P w=.ok (.enter f (first++xs.map a.eval++w7)) w:=by
  simp only[execOp,ho,resolve,hfv,Deferred.ofValue,Sem.run_bind,Sem.run_pure,Result.andThen_ok,invoke]
  exact hc.1 _ w
 rw[x9,Oper.upon_enter]
 obtain⟨Fl,F2,k1,k2,k3,k4,k5,k6,k7,k8⟩:=hs.tk xs.toList
 let B:=(A.tk xs.toList).2
 have hle:(⟨B.t,tQ ks B.h⟩:AS).le B:=⟨fun _=>.inr rfl,fun q=>by
  simp only[gB];split
  exact .inr rfl
  exact .inl rfl⟩
 let F3:l9->List Nat:=fun r=>match r with
  | .slot i=>F2 (.slot i)
  | .key q=>if (lk q (LX ks)).isNone then F2 (.key q) else []
 have PJ:∀ r g,g∈F3 r->g∈F2 r:=fun r g hg=>by
  cases r with
  | slot i=>exact hg
  | key q=>simp only[F3]at hg;split at hg
           exact hg
           simp at hg
 have Kr:s4 N Pb Kb ⟨B.t,tQ ks B.h⟩ a w F3:=by
  refine⟨k2.size,k2.defers,k2.slot,fun q g v hq=>?_,fun r r' hne g hg c=>k2.bM r r' hne g (PJ r g hg) (PJ r' g c),fun r=>?_,fun r g hg=>k2.free r g (PJ r g hg),k2.sub,k2.bound⟩
  simp only[gB]at hq
  split at hq
  rename_i hn
  obtain⟨F',e,hA⟩:=k2.root q g v hq
  exact⟨F',by simp only[F3];rw[if_pos hn];exact e,hA⟩
  simp at hq
  cases r with
  | slot i=>exact k2.nodup _
  | key q=>simp only[F3];split
           exact k2.nodup _
           exact List.nodup_nil
 let Kc:Nat->Prop:=fun g=>Kb g\/∃ r,g∈F3 r
 let FL:=first.toList.map (fun _=>([]:List Nat))++Fl++w7.toList.map (fun _=>([]:List Nat))
 have Wb:OZ w Pb (first.toList.map cV++(A.tk xs.toList).1++w7.toList.map cV) (first.toList++xs.toList.map a.eval++w7.toList) FL:=
  nN (nN (nW _) k1) (nW _)
 have Th:∀ i g,g∈FL.getD i []->∃ j,FL.getD i []=Fl.getD j []/\i=first.toList.length+j:=by
  intro i g hg
  simp only[FL,List.getD_eq_getElem?_getD,List.append_assoc]at hg ⊢
  by_cases h1:i<first.toList.length
  rw[List.getElem?_append_left (by simpa using h1),List.getElem?_map]at hg
  cases he:first.toList[i]? <;> rw[he]at hg <;> simp at hg
  have hij:i=first.toList.length+(i-first.toList.length):=by omega
  rw[List.getElem?_append_right (by simpa using h1)]at hg ⊢
  simp only[List.length_map]at hg ⊢
  by_cases h2:i-first.toList.length<Fl.length
  rw[List.getElem?_append_left h2]
  exact⟨_,rfl,hij⟩
  rw[List.getElem?_append_right (by omega),List.getElem?_map]at hg
  cases he:w7.toList[i-first.toList.length-Fl.length]? <;> rw[he]at hg <;> simp at hg
 let FC:l9->List Nat:=fun r=>match r with
  | .slot i=>FL.getD i []
  | .key k=>match lk k ks with
    | some q=>if lk k H=none then [] else F2 (.key q)
    | none=>[]
 have Vh:∀ r g,g∈FC r->(∃ i j,r=.slot i/\g∈Fl.getD j []/\i=first.toList.length+j)\/(∃ k q,r=.key k/\lk k ks=some q/\g∈F2 (.key q)):=by
  intro r g hg
  cases r with
  | slot i=>
    obtain⟨j,e,hj⟩:=Th i g hg
    exact .inl ⟨i,j,rfl,by rw[<- e];exact hg,hj⟩
  | key k=>
    simp only[FC]at hg
    split at hg
    rename_i q hq
    split at hg
    simp at hg
    exact .inr ⟨k,q,rfl,hq,hg⟩
    simp at hg
 have Vi:∀ k q,lk k ks=some q->∀ r g,g∈F2 (.key q)->g ∉ F3 r:=by
  intro k q hq r g hg c
  cases r with
  | slot i=>exact k2.bM (.key q) (.slot i) (by simp) g hg c
  | key q'=>
    simp only[F3]at c
    split at c
    rename_i hn
    have hne:(l9.key q)≠.key q':=fun e=>by
     cases e
     rw[(nz M6 Mb).1 hq]at hn;simp at hn
    exact k2.bM _ _ hne g hg c
    simp at c
 have PI:∀ r g,g∈FC r->¬ Kc g/\g<w.heap.size:=by
  intro r g hg
  rcases Vh r g hg with ⟨i,j,_,h,_⟩ | ⟨k,q,_,hq,h⟩
  refine⟨fun c=>?_,(k6 j g h).2⟩
  rcases c with c | ⟨r',c⟩
  exact(k6 j g h).1 c
  exact k5 j r' g h (PJ r' g c)
  refine⟨fun c=>?_,(k2.free _ g h).2⟩
  rcases c with c | ⟨r',c⟩
  exact(k2.free _ g h).1 c
  exact Vi k q hq r' g h c
 have hi:T6 w Pb Kc args (first.toList++xs.toList.map a.eval++w7.toList) H FC:=by
  have hl:=yy Wb
  have Wa:=Bn (us:=args) Wb
  rw[hargs]at Wa
  refine⟨by rw[hl.1,hlen],fun i v x hv hx=>zA Wa hv hx,fun k g v S5=>?_,fun i S8=>?_,fun r r' hne g hg c=>?_,fun r=>?_,PI,fun g hg=>.inl (k2.sub g hg),fun g hg=>?_⟩
  obtain⟨q,v',h1,h2,h3⟩:=sP M0 S5
  obtain⟨F',e,hA⟩:=k2.root q g v' h2
  refine⟨F',?_,by have:=Az v hA;rw[h3]at this;exact this⟩
  simp only[FC,h1];rw[if_neg (by rw[S5];simp)];exact e
  simp only[FC]
  rw[List.getD_eq_getElem?_getD,List.getElem?_eq_none (by rw[hl.2,<- hlen];exact S8)];rfl
  rcases Vh r g hg with ⟨i,j,e1,h,e1'⟩ | ⟨k,q,e1,hq,h⟩ <;> rcases Vh r' g c with ⟨i',j',e2,h',R6⟩ | ⟨k',q',e2,UG,h'⟩
  refine k4 j j' (fun e=>hne ?_) g h h'
  rw[e1,e2,e1',R6,e]
  exact k5 j (.key q') g h h'
  exact k5 j' (.key q) g h' h
  have UF:q=q':=Classical.byContradiction fun UF=>k2.bM (.key q) (.key q') (fun e=>UF (by cases e;rfl)) g h h'
  subst UF
  have:=(nz M6 Mb).1 hq
  rw[(nz M6 Mb).1 UG]at this
  cases this
  exact hne (by rw[e1,e2])
  cases r with
  | slot i=>
    by_cases he:FL.getD i []=[]
    simp only[FC];rw[he];exact List.nodup_nil
    obtain⟨g,hg⟩:=List.exists_mem_of_ne_nil _ he
    obtain⟨j,e,_⟩:=Th i g hg
    simp only[FC];rw[e];exact k3 j
  | key k=>
    simp only[FC]
    split
    split
    exact List.nodup_nil
    exact k2.nodup _
    exact List.nodup_nil
  rcases hg with h | ⟨r,h⟩
  exact k2.bound g h
  exact(Kr.free r g h).2
 have I4:=hc.2 w Pb Kc _ FC hi
 have e:(first.toList++xs.toList.map a.eval++w7.toList).toArray=first++xs.map a.eval++w7:=by
  apply Array.ext';simp
 rw[e]at I4
 refine I4.mono ?_
 rintro e w' ⟨r,x,H',Pb',C5,F',rfl,hq,hf⟩
 have Nn:w8 Kb w w':=⟨hf.dT.os,hf.dT.tape,hf.dT.output,hf.dT.size,fun g hg=>hf.dT.block g (.inl hg),hf.dT.shape⟩
 let K2:Nat->Prop:=fun g=>Kb g\/(C5 g/\¬ ∃ r,g∈F3 r)
 have V':∀ r g,g∈F3 r->¬ Pb' g:=fun r g hg c=>by
  rcases hf.Od g c with h | h
  exact(Kr.free r g hg).1 (Kr.sub g h)
  exact h (.inr ⟨r,hg⟩)
 have SM:∀ g,Pb' g->K2 g:=fun g hg=>by
  rcases hf.Od g hg with h | h
  exact .inl (Kr.sub g h)
  exact .inr ⟨hf.sub g hg,fun⟨r,c⟩=>h (.inr ⟨r,c⟩)⟩
 have LD:∀ r g,g∈F' r->(¬ K2 g/\g<w'.heap.size)/\∀ r',g ∉ F3 r':=fun r g hg=>by
  have h:=hf.free r g hg
  refine⟨⟨fun c=>?_,h.2⟩,fun r' c=>h.1 (hf.mK g (.inr ⟨r',c⟩))⟩
  rcases c with c | c
  exact h.1 (hf.mK g (.inl c))
  exact h.1 c.1
 let F4:l9->List Nat:=fun r=>match r with
  | .slot i=>F3 (.slot i)
  | .key q=>match lk q (LX ks) with
    | some k=>if lk k H'=none then [] else F' (.key k)
    | none=>F3 (.key q)
 have TX:∀ r g,g∈F4 r->g∈F3 r\/∃ q k,r=.key q/\lk q (LX ks)=some k/\g∈F' (.key k):=fun r g hg=>by
  cases r with
  | slot i=>exact .inl hg
  | key q=>
    simp only[F4]at hg
    split at hg
    rename_i k hk
    split at hg
    simp at hg
    exact .inr ⟨q,k,rfl,hk,hg⟩
    exact .inl hg
 have VW:s4 N Pb' K2 (B.back ks H') a w' F4:=by
  refine⟨Kr.size,Kr.defers,fun i=>?_,fun q g v hq=>?_,fun r r' hne g hg c=>?_,fun r=>?_,fun r g hg=>?_,SM,fun g hg=>?_⟩
  exact lq _ (Kr.slot i) (fun g hg=>hf.dT.block g (.inl (Kr.sub g hg))) (fun g hg=>hf.dT.block g (.inr ⟨.slot i,hg⟩)) hf.mP (fun g hg=>V' (.slot i) g hg)
  simp only[AS.back,jM,nE Mb]at hq
  cases SL:lk q (LX ks) with
  | some k=>
    rw[SL]at hq
    simp only[Option.bind_some]at hq
    cases TM:lk k H' with
    | some gv=>
      rw[TM]at hq
      simp only[Option.map_some,Option.some.injEq,Prod.mk.injEq]at hq
      obtain⟨g0,v0⟩:=gv
      obtain⟨rfl,rfl⟩:=hq
      obtain⟨F1,e1,cs,cells,hb,hr,I5⟩:=hf.root k g0 v0 TM
      exact⟨F1,by simp only[F4,SL];rw[if_neg (by rw[TM];simp)];exact e1,cs,cells,hb,Fk _ _ hr,I5⟩
    | none=>
      rw[TM]at hq
      simp only[Option.map_none]at hq
      rw[gB,SL]at hq
      simp at hq
  | none=>
    rw[SL]at hq
    simp only[Option.bind_none]at hq
    obtain⟨F1,e1,hA⟩:=Kr.root q g v hq
    refine⟨F1,by simp only[F4,SL];exact e1,?_⟩
    obtain⟨cs,cells,⟨el,fr,hb,hfr⟩,hr,I5⟩:=hA
    have hin:∀ y,y∈g::F1->w'.heap[y]? =w.heap[y]? :=fun y hy=>hf.dT.block y (.inr ⟨.key q,by rw[e1];exact hy⟩)
    exact⟨cs,cells,⟨el,fr,(hin g (by simp)).trans hb,hfr⟩,fm _ hr (fun y hy=>hf.dT.block y (.inl (Kr.sub y hy))) (fun y hy=>hin y (by simp[hy])) hf.mP (fun y hy=>V' (.key q) y (by rw[e1];simp[hy])),I5⟩
  rcases TX r g hg with h | ⟨q,k,e1,h1,h2⟩ <;> rcases TX r' g c with h' | ⟨q',k',e2,Pa,TY⟩
  exact Kr.bM r r' hne g h h'
  exact(LD _ g TY).2 r h
  exact(LD _ g h2).2 r' h'
  have Rp:k=k':=Classical.byContradiction fun Rp=>hf.bM (.key k) (.key k') (fun e=>Rp (by cases e;rfl)) g h2 TY
  subst Rp
  have e3:=(nz M6 Mb).2 h1
  rw[(nz M6 Mb).2 Pa]at e3
  cases e3
  exact hne (by rw[e1,e2])
  cases r with
  | slot i=>exact Kr.nodup (.slot i)
  | key q=>
    simp only[F4]
    split
    split
    exact List.nodup_nil
    exact hf.nodup _
    exact Kr.nodup (.key q)
  rcases TX r g hg with h | ⟨q,k,_,_,h2⟩
  have h3:=Kr.free r g h
  refine⟨fun c=>?_,Nat.lt_of_lt_of_le h3.2 hf.dT.size⟩
  rcases c with c | c
  exact h3.1 c
  exact c.2 ⟨r,h⟩
  exact(LD _ g h2).1
  rcases hg with h | h
  exact Nat.lt_of_lt_of_le (Kr.bound g h) hf.dT.size
  exact hf.bound g h.1
 have OI:∀ A' a' F5,K A'->s4 N Pb' K2 A' a' w' F5->Nx N Pb Kb w K a' w':=fun A' a' F5 hk Rc=>
  ⟨A',Pb',K2,F5,hk,Rc,hf.mP,fun g hg=>.inl hg,fun g hg=>by
   rcases hf.Od g hg with h | h
   exact .inl h
   exact .inr fun c=>h (.inl c),Nn⟩
 cases Kk:o.dst with
 | none=>exact OI _ _ F4 (hK r H' hq) (by rw[Kk];exact VW)
 | some d=>
   rw[Kk]at hd
   refine OI _ _ (bL F4 (.slot d) (F' (.slot 0))) (hK r H' hq) ?_
   rw[Kk]
   refine VW.put hd (HJ _ hf.val) (fun rt _ g hg c=>?_) (hf.nodup _) (fun g hg=>(LD _ g hg).1)
   rcases TX rt g c with h | ⟨q,k,_,_,h2⟩
   exact(LD _ g hg).2 rt h
   exact hf.bM (.slot 0) (.key k) (by simp) g hg h2
end
end Go.Abs
namespace Go.Abs
open Go Go.RowKit
section
variable {w w':World} {Pb Kb Pb':Nat->Prop} {N:Nat} {A A' A1 B:AS} {a:Act} {F:l9->List Nat} {P:Program} {ops:Array Oper}
theorem qU:∀ (vs:List V) {cs F} {j:Nat} {x:V},RL w Pb vs cs F->vs[j]? =some x->∃ cj Fj,R w Pb x cj Fj/\(∀ i u,cj[i]? =some u->cs[V.ns (vs.take j)+i]? =some u)/\
 ∀ x',R w Pb x' cj Fj->RL w Pb (vs.set j x') cs F
 | [],_,_,_,_,_,h=>by simp at h
 | v::vs,cs,F,0,x,h,hj=>by
   obtain⟨c1,c2,F1,F2,rfl,rfl,h1,h2⟩:=h
   simp at hj;subst hj
   exact⟨c1,F1,h1,fun i u hu=>by simp only[List.take_zero,V.ns,Nat.zero_add];rw[List.getElem?_append_left (List.getElem?_eq_some_iff.1 hu).1];exact hu,fun x' hx=>⟨c1,c2,F1,F2,rfl,rfl,hx,h2⟩⟩
 | v::vs,cs,F,j+1,x,h,hj=>by
   obtain⟨c1,c2,F1,F2,rfl,rfl,h1,h2⟩:=h
   obtain⟨cj,Fj,k1,k2,k3⟩:=qU vs h2 (by simpa using hj)
   refine⟨cj,Fj,k1,fun i u hu=>?_,fun x' hx=>⟨c1,c2,F1,F2,rfl,rfl,h1,k3 x' hx⟩⟩
   have:=k2 i u hu
   simp only[List.take_succ_cons,V.ns]
   rw[<- dK v h1,Nat.add_assoc,List.getElem?_append_right (by omega)]
   rw[show c1.length+(V.ns (vs.take j)+i)-c1.length=V.ns (vs.take j)+i from by omega];exact this
theorem qb:∀ (p:List Nat) {v u:V} {g o g' o':Nat} {cs:List Value} {F:List Nat},R w Pb v cs F->V.at g o v p=some (g',o',u)->
 ∃ cu Fu,R w Pb u cu Fu/\∀ u',u'.n=u.n->R w Pb u' cu Fu->R w Pb (v.set p u') cs F/\(v.set p u').n=v.n
 | [],v,u,g,o,g',o',cs,F,h,e=>by
   simp only[V.at,Option.some.injEq,Prod.mk.injEq]at e
   obtain⟨rfl,rfl,rfl⟩:=e
   exact⟨cs,F,h,fun u' hn hu=>⟨hu,hn⟩⟩
 | j::p,v,u,g,o,g',o',cs,F,h,e=>by
   simp only[V.at]at e
   split at e
   rename_i vs
   split at e
   rename_i x hx
   simp only[R]at h
   obtain⟨cj,Fj,k1,k2,k3⟩:=qU vs h hx
   obtain⟨cu,Fu,m1,m2⟩:=qb p k1 e
   refine⟨cu,Fu,m1,fun u' hn hu=>?_⟩
   obtain⟨q1,q2⟩:=m2 u' hn hu
   have h3:=k3 _ q1
   refine⟨by simp only[V.set,hx,R];exact h3,?_⟩
   simp only[V.set,hx,V.n]
   rw[<- gW _ h3,<- gW _ h]
   simp at e
   rename_i sz xs g1 o1 c1
   split at e
   rename_i x hx
   rcases h with ⟨_,rfl,_⟩ | ⟨h1,h2,h3,h4,h5,h6,flat,F',cells,h7,hr,hb,hsz,hc⟩
   simp at hx
   obtain⟨cj,Fj,k1,k2,k3⟩:=qU xs hr hx
   obtain⟨cu,Fu,m1,m2⟩:=qb p k1 e
   refine⟨cu,Fu,m1,fun u' hn hu=>?_⟩
   obtain⟨q1,q2⟩:=m2 u' hn hu
   refine⟨?_,by simp only[V.set,hx];rfl⟩
   simp only[V.set,hx]
   refine .inr ⟨h1,h2,by simpa using h3,by simpa using h4,fun y hy=>?_,h6,flat,F',cells,h7,k3 _ q1,hb,hsz,hc⟩
   rcases List.mem_or_eq_of_mem_set hy with h | h
   exact h5 y h
   rw[h,q2];exact h5 x (List.mem_of_getElem? hx)
   simp at e
   simp at e
theorem s4.qp(hs:s4 N Pb Kb A a w F){r:l9}{p:List Nat}{g o:Nat}{u:V}(x5:A.at r p=some (g,o,u)):
 ∃ cu Fu,R w Pb u cu Fu/\∀ u',u'.n=u.n->R w Pb u' cu Fu->s4 N Pb Kb (A.setAt r p u') a w F:=by
 cases r with
 | key k=>
   simp only[AS.at]at x5
   split at x5
   rename_i g0 t hk
   obtain⟨F0,hF,cs,cells,hb,hr,hc⟩:=hs.root k g0 t hk
   obtain⟨cu,Fu,h1,h2⟩:=qb p hr x5
   refine⟨cu,Fu,h1,fun u' hn hu=>⟨hs.size,hs.defers,fun i=>?_,fun k' g1 v1 L4=>?_,hs.bM,hs.nodup,hs.free,hs.sub,hs.bound⟩⟩
   have:(A.setAt (.key k) p u').get i=A.get i:=by simp only[AS.setAt,hk];rfl
   rw[this];exact hs.slot i
   simp only[AS.setAt,hk,lk]at L4
   split at L4
   rename_i e;subst e
   simp only[Option.some.injEq,Prod.mk.injEq]at L4
   obtain⟨rfl,rfl⟩:=L4
   exact⟨F0,hF,cs,cells,hb,(h2 u' hn hu).1,hc⟩
   exact hs.root k' g1 v1 L4
   simp at x5
 | slot i=>
   simp only[AS.at]at x5
   split at x5
   rename_i sz xs g0 o0 c0 j p' hg
   have hr:=hs.slot i
   rw[hg]at hr
   have hr:R w Pb (.own sz xs g0 o0 c0) [a.tmps.getD i undef] (F (.slot i)):=hr
   obtain⟨cu,Fu,h1,h2⟩:=qb (j::p') hr x5
   refine⟨cu,Fu,h1,fun u' hn hu=>⟨hs.size,hs.defers,fun t=>?_,hs.root,hs.bM,hs.nodup,hs.free,hs.sub,hs.bound⟩⟩
   by_cases e:t=i
   subst e
   simp only[AS.setAt,AS.get,lk,if_true,Option.getD_some]
   have h3:=(h2 u' hn hu).1
   have e2:(A.get t).set (j::p') u'=(V.own sz xs g0 o0 c0).set (j::p') u':=by rw[hg]
   have e3:∃ ys,(V.own sz xs g0 o0 c0).set (j::p') u'=.own sz ys g0 o0 c0:=by
    simp only[V.set];split
    exact⟨_,rfl⟩
    exact⟨_,rfl⟩
   obtain⟨ys,e3⟩:=e3
   show RV w Pb ((A.get t).set (j::p') u') _ _
   rw[e2,e3];rw[e3]at h3
   exact h3
   simp only[AS.setAt,AS.get,lk];rw[if_neg e];exact hs.slot t
   simp at x5
theorem Gg{K:AS->Prop}(t sz:Nat)(ht:t<N)(hg:A.get t=.sl true [])(h:K (A.put (some t) (.own sz [] 0 0 0))):Hx N A K:=
 Hx.simple h fun Pb Kb a w F hs=>by
  have hr:=hs.slot t
  rw[hg]at hr
  obtain⟨hF,B,cc,hv,_,MC,_⟩:=hr
  have MR:cc=0:=MC rfl
  subst MR
  exact⟨_,hs.xQ ht (.inl ⟨rfl,rfl,hF,B,hv⟩)⟩
theorem wA{K:AS->Prop}{r:l9}{p:List Nat}{g o sz:Nat}(x5:A.at r p=some (g,o,.sl true []))(h:K (A.setAt r p (.own sz [] 0 0 0))):Hx N A K:=
 Hx.simple h fun Pb Kb a w F hs=>by
  obtain⟨cu,Fu,hr,hk⟩:=hs.qp x5
  obtain⟨hF,B,cc,hv,_,MC,_⟩:=hr
  have MR:cc=0:=MC rfl
  subst MR
  exact⟨_,hk (.own sz [] 0 0 0) rfl (.inl ⟨rfl,rfl,hF,B,hv⟩)⟩
theorem yZ{K:AS->Prop}{t sz:Nat}{xs:List V}(ht:t<N)(hg:A.get t=.ow sz xs)(h:∀ g o c,K (A.put (some t) (.own sz xs g o c))):Hx N A K:=fun Pb Kb a w F hs=>by
 have hr:=hs.slot t
 rw[hg]at hr
 have hr:R w Pb (.ow sz xs) [a.tmps.getD t undef] (F (.slot t)):=hr
 obtain⟨g,o,c,hr⟩:=CS.1 hr
 exact⟨_,Pb,Kb,_,h g o c,hs.xQ ht hr,fun _ h=>h,fun _ h=>h,fun _ h=>.inl h⟩
theorem oF{K:AS->Prop}{r:l9}{p:List Nat}{g o sz:Nat}{xs:List V}(x5:A.at r p=some (g,o,.ow sz xs))(h:∀ g o c,K (A.setAt r p (.own sz xs g o c))):Hx N A K:=fun Pb Kb a w F hs=>by
 obtain⟨cu,Fu,h1,h2⟩:=hs.qp x5
 obtain⟨g,o,c,hr⟩:=CS.1 h1
 exact⟨_,Pb,Kb,_,h g o c,h2 _ rfl hr,fun _ h=>h,fun _ h=>h,fun _ h=>.inl h⟩
theorem AT{K:AS->Prop}{r:l9}{p:List Nat}{g o:Nat}{u:V}(u':V)(x5:A.at r p=some (g,o,u))(hn:(wk u u').n=u.n)(h:K (A.setAt r p (wk u u'))):Hx N A K:=fun Pb Kb a w F hs=>by
 obtain⟨cu,Fu,h1,h2⟩:=hs.qp x5
 exact⟨_,Pb,Kb,_,h,h2 _ hn (nX u u' h1),fun _ h=>h,fun _ h=>h,fun _ h=>.inl h⟩
theorem Jx{K:AS->Prop}{t:Nat}(u:V)(ht:t<N)(h:K (A.put (some t) (wk (A.get t) u))):Hx N A K:=
 Hx.simple h fun _ _ _ _ _ hs=>⟨_,hs.xQ ht (vM u (hs.slot t))⟩
theorem DM{K:AS->Prop} {t i sz n g o c:Nat} {xs:List V} (ht:t<N) (hi:i<N) (O5:t≠i) (h1:A.get t=.hd (.slot i) [] sz g o 0 n c) (h2:A.get i=.own sz xs g o c) (hn:n=xs.length)
 (h:K ((A.put (some i) .b9).put (some t) (.own sz xs g o c))):Hx N A K:=
 Hx.simple h fun _ _ _ _ _ hs=>hs.gg ht hi O5 h1 h2 hn
theorem CE{K:AS->Prop}{t:Nat}(ht:t<N)(ho:(A.get t).cB=true)(h:K (A.put (some t) (A.get t).er)):Hx N A K:=fun Pb Kb a w F hs=>by
 obtain⟨Pb',C5,F',h1,h2,h3,h4⟩:=hs.freeze ho ht
 exact⟨_,Pb',C5,F',h,h1,h2,h3,h4⟩
theorem s4.eqv(hs:s4 N Pb Kb A a w F)(h:B8 A B):s4 N Pb Kb B a w F:=
 ⟨hs.size,hs.defers,fun i=>by rw[<- h.1 i];exact hs.slot i,fun k g v hk=>hs.root k g v (by rw[h.2 k];exact hk),hs.bM,hs.nodup,hs.free,hs.sub,hs.bound⟩
theorem Io{K:AS->Prop}{t:Nat}(v:V)(e:A.get t=v)(h:K (A.put (some t) v)):Hx N A K:=
 Hx.simple h fun _ _ _ _ _ hs=>⟨_,hs.eqv ⟨fun i=>by
  rw[AS.ay];split
  rename_i h;rw[h,e]
  rfl,fun _=>rfl⟩⟩
theorem Hr{K:AS->Prop}{k g:Nat}(v:V)(e:lk k A.h=some (g,v))(h:K ⟨A.t,(k,(g,v))::A.h⟩):Hx N A K:=
 Hx.simple h fun _ _ _ _ _ hs=>⟨_,hs.eqv ⟨fun _=>rfl,fun i=>by
  simp only[lk];split
  rename_i h;rw[h,e]
  rfl⟩⟩
theorem Jr{K:AS->Prop}{k k' g:Nat}{v:V}(e:lk k A.h=some (g,v))(hn:lk k' A.h=none)(h:K ⟨A.t,(k',(g,v))::A.h.filter fun p=>p.1 != k⟩):Hx N A K:=
 Hx.simple h fun Pb Kb a w F hs=>by
  have hne:k'≠k:=fun c=>by rw[c,e]at hn;cases hn
  have hf:∀ (l:List (Nat×(Nat×V))) q,lk q (l.filter fun p=>p.1 != k)=if q=k then none else lk q l:=by
   intro l
   induction l with
   | nil=>intro q;simp[lk]
   | cons x l ih=>
     intro q
     obtain⟨i,u⟩:=x
     simp only[List.filter_cons]
     by_cases hi:i=k
     subst hi
     simp only[bne_self_eq_false,Bool.false_eq_true,if_false,ih q,lk]
     by_cases c:q=i
     rw[if_pos c,if_pos c]
     rw[if_neg c,if_neg c,if_neg c]
     rw[if_pos (by simpa using hi)]
     simp only[lk,ih q]
     by_cases c:q=i
     subst c;rw[if_pos rfl,if_pos rfl,if_neg hi]
     rw[if_neg c,if_neg c]
  let σ:l9->l9:=fun r=>if r=.key k' then .key k else if r=.key k then .key k' else r
  have hσ:∀ r r',σ r=σ r'->r=r':=fun r r' h=>by
   simp only[σ]at h
   repeat' split at h
   all_goals simp_all
  refine⟨fun r=>if r=.key k then [] else F (σ r),hs.size,hs.defers,fun i=>?_,fun q g0 v0 hq=>?_,fun r r' UK y hy=>?_,fun r=>?_,fun r y hy=>?_,hs.sub,hs.bound⟩
  have:F (σ (.slot i))=F (.slot i):=by simp[σ]
  simp only[reduceCtorEq,if_false,this];exact hs.slot i
  simp only[lk,hf]at hq
  split at hq
  rename_i c;subst c
  simp only[Option.some.injEq,Prod.mk.injEq]at hq
  obtain⟨rfl,rfl⟩:=hq
  obtain⟨F',h1,h2⟩:=hs.root k g v e
  refine⟨F',?_,h2⟩
  rw[if_neg (by simpa using hne)]
  simp only[σ,if_true];exact h1
  rename_i c
  split at hq
  simp at hq
  rename_i c2
  obtain⟨F',h1,h2⟩:=hs.root q g0 v0 hq
  refine⟨F',?_,h2⟩
  rw[if_neg (by simpa using c2)]
  have:σ (.key q)=.key q:=by simp only[σ];rw[if_neg (by simpa using c),if_neg (by simpa using c2)]
  rw[this];exact h1
  split at hy
  simp at hy
  split
  simp
  exact hs.bM _ _ (fun c=>UK (hσ _ _ c)) y hy
  split
  exact List.nodup_nil
  exact hs.nodup _
  split at hy
  simp at hy
  exact hs.free _ y hy
theorem EV{K:AS->Prop}(h1:Oh A B.t)(h2:Ny A B.h)(h:K B):Hx N A K:=Hx.simple h fun _ _ _ _ _ hs=>hs.VF h1 h2
theorem zI{o:Oper}{K:AS->Prop}{x:Operand}(ho:o.op=.move x)(hd:bX N o.dst)(hK:K ((A.drop x).put o.dst (A.ev x))):D5 P N o A K:=by
 intro Pb Kb a w F Q hs
 obtain⟨Fx,F',hr,x7,hnd,u0,hfr,_⟩:=hs.take x
 unfold Oper.wp
 have:(execOp a.eval o).run P w=.ok (.value (a.eval x)) w:=by simp only[execOp,ho];rfl
 rw[this,Oper.upon_value]
 cases Kk:o.dst with
 | none=>exact⟨_,Pb,Kb,F',hK,by rw[Kk];exact x7,fun _ h=>h,fun _ h=>h,fun _ h=>.inl h,w8.refl _ _⟩
 | some d=>
   rw[Kk]at hd hK
   exact⟨_,Pb,Kb,_,hK,x7.put hd hr (fun r _ g hg=>u0 r g hg) hnd hfr,fun _ h=>h,fun _ h=>h,fun _ h=>.inl h,w8.refl _ _⟩
theorem tl{o:Oper} {K:AS->Prop} {d T:Nat} {x:Operand} {r:l9} {p:List Nat} {g g':Nat} {i:TI} {u:V} (ho:o.op=.load T x) (hd:o.dst=some d) (hN:d<N) (hi:ti P T=some i)
 (hx:A.ev x=.ptr r p g g') (x5:A.at r p=some (g,g',u)) (hn:u.n=i.sz) (ha:i.d.agg=u.isAgg) (hK:K ((A.setAt r p u.kill).put (some d) u)):D5 P N o A K:=by
 intro Pb Kb a w F Q hs
 obtain⟨_,Qp⟩:=df hs x
 rw[hx]at Qp
 have hp:a.eval x=.pointer (some ⟨g,g',none⟩):=by have:=Qp.2;simpa using this
 obtain⟨Fr,Fu,x7,⟨cs,cells,hb,Kh,hc⟩,hnd,u0,hfr⟩:=hs.split x5
 obtain⟨y,hy,D6⟩:=lp (w:=w) hi Kh hn ha (g:=g) (o:=g') (fun j u hu=>by rw[dy hb];exact hc j u hu)
 unfold Oper.wp
 have:(execOp a.eval o).run P w=.ok (.value y) w:=by
  simp only[execOp,ho,Instr.loadAt,hp,Instr.sureAddr,Sem.run_bind,Sem.run_pure,Result.andThen_ok,hy]
 rw[this,Oper.upon_value,hd]
 exact⟨_,Pb,Kb,_,hK,x7.put hN D6 (fun r _ g hg=>u0 r g hg) hnd hfr,fun _ h=>h,fun _ h=>h,fun _ h=>.inl h,w8.refl _ _⟩
def Sd(A:AS)(s:Operand)(sz:Nat):Option (Prop×AS×List V):=
 match s with
 | .const (.slice none 0 0)=>some (True,A,[])
 | .tmp t=>match A.get t with
   | .sl true []=>some (True,A,[])
   | .own I2 xs _ _ _=>some (I2=sz,A.put (some t) .b9,xs)
   | .hd (.slot i) [] I2 g o 0 n c=>match A.get i with
     | .own KJ xs g2 o2 c2=>some ((I2,KJ,g2,o2,c2,n)=(sz,sz,g,o,c,xs.length),A.put (some i) .b9,xs)
     | _=>none
   | .hd (.key k) p I2 g o 0 n c=>match A.at (.key k) p with
     | some (_,_,.own KJ xs g2 o2 c2)=>some ((I2,KJ,g2,o2,c2,n)=(sz,sz,g,o,c,xs.length),A.setAt (.key k) p .b9,xs)
     | _=>none
   | _=>none
 | _=>none
theorem AQ{s:Operand}{sz:Nat}{C:Prop}{xs:List V}(h:Sd A s sz=some (C,A1,xs))(hC:C)(hs:s4 N Pb Kb A a w F):
 ∃ Fx F' g o c,s4 N Pb Kb A1 a w F'/\R w Pb (.own sz xs g o c) [a.eval s] Fx/\Fx.Nodup/\(∀ r g,g∈Fx->g ∉ F' r)/\(∀ g,g∈Fx->¬ Kb g/\g<w.heap.size):=by
 have PU:∀ {t:Nat} {r:l9} {p:List Nat} {sz g o n c:Nat} {xs:List V} {cs:List Value} {Fx:List Nat},A.get t=.hd r p sz g o 0 n c->n=xs.length->R w Pb (.own sz xs g o c) cs Fx->R w Pb (.own sz xs g o c) [a.eval (.tmp t)] Fx:=by
  intro t r p sz g o n c xs cs Fx hg hn hr
  subst hn
  have hh:=hs.slot t
  rw[hg]at hh
  obtain⟨_,hle,B,hv,hB⟩:=hh
  have hv:a.eval (.tmp t)=.slice B xs.length c:=(List.cons.inj hv).1
  rw[hv]
  rcases hr with ⟨rfl,rfl,rfl,A0,_⟩ | ⟨h1,h2,h3,h4,h5⟩
  exact .inl ⟨rfl,rfl,rfl,B,rfl⟩
  have:=hB h1
  rw[Nat.zero_mul,Nat.add_zero]at this
  subst this
  exact .inr ⟨h1,h2,h3,rfl,h5⟩
 unfold Sd at h
 split at h
 simp only[Option.some.injEq,Prod.mk.injEq]at h
 obtain⟨_,rfl,rfl⟩:=h
 exact⟨[],F,0,0,0,hs,.inl ⟨rfl,rfl,rfl,none,rfl⟩,List.nodup_nil,by simp,by simp⟩
 · rename_i t
   split at h
   rename_i hg
   simp only[Option.some.injEq,Prod.mk.injEq]at h
   obtain⟨_,rfl,rfl⟩:=h
   have LB:=hs.slot t
   rw[hg]at LB
   obtain⟨_,B,c,hv,_,MC,_⟩:=LB
   have MR:c=0:=MC rfl
   subst MR
   exact⟨[],F,0,0,0,hs,.inl ⟨rfl,rfl,rfl,B,hv⟩,List.nodup_nil,by simp,by simp⟩
   rename_i I2 xs' g o c hg
   simp only[Option.some.injEq,Prod.mk.injEq]at h
   obtain⟨rfl,rfl,rfl⟩:=h
   subst hC
   obtain⟨Fx,F',hr,x7,hnd,u0,hfr,_⟩:=hs.take (.tmp t)
   rw[nK hg]at x7
   have hr:RV w Pb (A.get t) (a.eval (.tmp t)) Fx:=hr
   rw[hg]at hr
   exact⟨Fx,F',g,o,c,x7,hr,hnd,u0,hfr⟩
   · rename_i i I2 g o n c hg
     split at h
     case h_2=>simp at h
     rename_i KJ xs' g2 o2 c2 hi
     simp only[Option.some.injEq,Prod.mk.injEq]at h
     obtain⟨rfl,rfl,rfl⟩:=h
     obtain⟨rfl,rfl,rfl,rfl,rfl,hn⟩:=hC
     obtain⟨Fx,F',hr,x7,hnd,u0,hfr,_⟩:=hs.take (.tmp i)
     rw[nK hi]at x7
     have hr:RV w Pb (A.get i) (a.eval (.tmp i)) Fx:=hr
     rw[hi]at hr
     exact⟨Fx,F',_,_,_,x7,PU hg hn (cs:=[a.eval (.tmp i)]) hr,hnd,u0,hfr⟩
   · rename_i k p I2 g o n c hg
     split at h
     case h_2=>simp at h
     rename_i g0 o0 KJ xs' g2 o2 c2 x5
     simp only[Option.some.injEq,Prod.mk.injEq]at h
     obtain⟨rfl,rfl,rfl⟩:=h
     obtain⟨rfl,rfl,rfl,rfl,rfl,hn⟩:=hC
     obtain⟨Fr,Fu,x7,⟨cs,cells,hb,Kh,hc⟩,hnd,u0,hfr⟩:=hs.split x5
     exact⟨Fu,_,_,_,_,x7,PU hg hn Kh,hnd,u0,hfr⟩
   simp at h
 simp at h
theorem yr{o:Oper} {K:AS->Prop} {d T T2 e e2:Nat} {s x:Operand} {t:TI} {C Cx:Prop} {xs ys:List V} (ho:o.op=.call { callee:=.builtin .append,args:= #[s,x],argTypes:= #[T,T2] }) (Oo:o.type=T)
 (hd:o.dst=some d) (hN:d<N) (hT:tD P T=some (.sl e)) (PG:tD P T2=some (.sl e2)) (ht:ti P e=some t) (hz:∃ inf z,P.info? e=some inf/\inf.zero=some z/\z.cells.size=t.sz) (hsz:0<t.sz) (O9:0<t.Kg)
 (hb:Sd A s t.sz=some (C,A1,xs)) (hC:C) (hx:LZ A x=some (Cx,ys)) (Ti:Cx) (Rj:V.aD ys=false) (OQ:aG t.sz ys)
 (hbig:(xs.length+ys.length)*t.Kg<=140737488355328)
 (hK:∀ g o c,K (A1.put (some d) (.own t.sz (xs++ys) g o c))):D5 P N o A K:=by
 intro Pb Kb a w F Q hs
 obtain⟨B2,c2,A7,LQ,Ko,MD,hl2⟩:=lF (P:=P) hs hx Ti OQ Rj
 obtain⟨Fx,F',g0,o0,c0,x7,hr,hnd,u0,hfr⟩:=AQ hb hC hs
 obtain⟨v,w',F2,g',o',c',x9,J3,Ko,H7,MF,OF,Mb⟩:=qK hT PG ht hz hsz O9 x7 hr u0 hfr (Fy:=[]) (by simpa using hnd) (by simp) (by simp) LQ Ko MD hl2 OQ hbig
 have Lf:(execOp a.eval o).run P w=.ok (.value v) w':=by
  simp only[execOp,ho,resolve,invoke,builtin,Sem.run_bind,Sem.run_pure,Result.andThen_ok,Oo]
  have e:(#[s,x].map a.eval)= #[a.eval s,a.eval x]:=by simp
  rw[e,x9];rfl
 unfold Oper.wp
 rw[Lf,Oper.upon_value,hd]
 exact⟨_,Pb,Kb,_,hK g' o' c',J3.put hN Ko (fun r _ g hg=>MF r g hg) H7 OF,fun _ h=>h,fun _ h=>h,fun _ h=>.inl h,Mb⟩
def Rz(A:AS)(s:Operand)(sz:Nat):Option (Prop×List V):=
 match s with
 | .tmp t=>match A.get t with
   | .sl true (x::xs)=>some (aG sz (x::xs),x::xs)
   | _=>none
 | _=>none
theorem xa{o:Oper} {K:AS->Prop} {d T T2 e e2:Nat} {s x:Operand} {t:TI} {C Cx:Prop} {xs ys:List V} (ho:o.op=.call { callee:=.builtin .append,args:= #[s,x],argTypes:= #[T,T2] }) (Oo:o.type=T)
 (hd:o.dst=some d) (hN:d<N) (hT:tD P T=some (.sl e)) (PG:tD P T2=some (.sl e2)) (ht:ti P e=some t) (hz:∃ inf z,P.info? e=some inf/\inf.zero=some z/\z.cells.size=t.sz) (hsz:0<t.sz) (O9:0<t.Kg)
 (hb:Rz A s t.sz=some (C,xs)) (hC:C) (KC:0<ys.length) (hx:LZ A x=some (Cx,ys)) (Ti:Cx) (Rj:V.aD ys=false) (OQ:aG t.sz ys)
 (hbig:(xs.length+ys.length)*t.Kg<=140737488355328)
 (hK:∀ g o c,K (A.put (some d) (.own t.sz (xs++ys) g o c))):D5 P N o A K:=by
 intro Pb Kb a w F Q hs
 obtain⟨B2,c2,A7,LQ,Ko,MD,hl2⟩:=lF (P:=P) hs hx Ti OQ Rj
 have hr:R w Pb (.sl true xs) [a.eval s] []/\aG t.sz xs:=by
  unfold Rz at hb
  split at hb
  rename_i q
  split at hb
  rename_i x' xs' hg
  simp only[Option.some.injEq,Prod.mk.injEq]at hb
  obtain⟨rfl,rfl⟩:=hb
  have LB:=hs.slot q
  rw[hg]at LB
  have hF:F (.slot q)=[]:=LB.1
  rw[hF]at LB
  exact⟨LB,hC⟩
  simp at hb
  simp at hb
 obtain⟨v,w',F2,g',o',c',x9,J3,Ko,H7,MF,OF,Mb⟩:=yi hT PG ht hz hsz O9 hs hr.1 hr.2 KC LQ Ko MD hl2 OQ hbig
 have Lf:(execOp a.eval o).run P w=.ok (.value v) w':=by
  simp only[execOp,ho,resolve,invoke,builtin,Sem.run_bind,Sem.run_pure,Result.andThen_ok,Oo]
  have e:(#[s,x].map a.eval)= #[a.eval s,a.eval x]:=by simp
  rw[e,x9];rfl
 unfold Oper.wp
 rw[Lf,Oper.upon_value,hd]
 exact⟨_,Pb,Kb,_,hK g' o' c',J3.put hN Ko (fun r _ g hg=>MF r g hg) H7 OF,fun _ h=>h,fun _ h=>h,fun _ h=>.inl h,Mb⟩
end
end Go.Abs
namespace Go.Abs
open Go Go.RowKit
mutual
def V.plain:V->Bool
 | .lit _=>true
 | .agg vs=>V.lS vs
 | .tup vs=>V.lS vs
 | _=>false
def V.lS:List V->Bool
 | []=>true
 | v::vs=>v.plain&&V.lS vs
end
def oz(A:AS):List Operand->Prop×List V
 | []=>(True,[])
 | x::xs=>match oz A xs with
   | (C,vs)=>match A.ev x with
     | .hd .. =>match LZ A x with
       | some (Cx,ys)=>(Cx/\C,.sl false ys::vs)
       | none=>(C,A.cp x::vs)
     | _=>(C,A.cp x::vs)
section
variable {w w':World} {Pb Kb Pb':Nat->Prop} {N:Nat} {A A' B:AS} {a:Act} {F:l9->List Nat} {P:Program} {ops:Array Oper}
mutual
theorem tX:∀ (v:V) {cs F},v.plain=true->R w Pb v cs F->R w' Pb' v cs []/\F=[]
 | .lit x,cs,F,_,h=>⟨⟨h.1,h.2.1,rfl⟩,h.2.2⟩
 | .agg vs,cs,F,hp,h=>by simp only[R]at h ⊢;simp only[V.plain]at hp;exact oe vs hp h
 | .tup _,_,_,_,h=>by simp[R]at h
 | .gv _ _,_,_,hp,_=>by simp[V.plain]at hp
 | .sl ..,_,_,hp,_=>by simp[V.plain]at hp
 | .own ..,_,_,hp,_=>by simp[V.plain]at hp
 | .ow ..,_,_,hp,_=>by simp[V.plain]at hp
 | .om ..,_,_,hp,_=>by simp[V.plain]at hp
 | .mp ..,_,_,hp,_=>by simp[V.plain]at hp
 | .hd ..,_,_,hp,_=>by simp[V.plain]at hp
 | .ptr ..,_,_,hp,_=>by simp[V.plain]at hp
 | .ep _,_,_,hp,_=>by simp[V.plain]at hp
 | .b9,_,_,hp,_=>by simp[V.plain]at hp
theorem oe:∀ (vs:List V) {cs F},V.lS vs=true->RL w Pb vs cs F->RL w' Pb' vs cs []/\F=[]
 | [],cs,F,_,h=>⟨⟨h.1,rfl⟩,h.2⟩
 | v::vs,cs,F,hp,h=>by
   simp only[V.lS,Bool.and_eq_true]at hp
   obtain⟨c1,c2,F1,F2,h1,h2,h3,h4⟩:=h
   have k1:=tX v hp.1 h3
   have k2:=oe vs hp.2 h4
   exact⟨⟨c1,c2,[],[],h1,rfl,k1.1,k2.1⟩,by rw[h2,k1.2,k2.2];rfl⟩
end
theorem uY:∀ (vs:List V) {xs F},V.lS vs=true->RVs w Pb vs xs F->RVs w' Pb' vs xs []/\F=[]
 | [],xs,F,_,h=>⟨⟨h.1,rfl⟩,h.2⟩
 | v::vs,xs,F,hp,h=>by
   simp only[V.lS,Bool.and_eq_true]at hp
   obtain⟨x,xs',F1,F2,h1,h2,h3,h4⟩:=h
   have k2:=uY vs hp.2 h4
   subst h1 h2
   cases v with
   | agg us=>
     obtain⟨cs,e,h3⟩:=h3
     have k1:=oe (w':=w') (Pb':=Pb') us (by simpa[V.plain] using hp.1) h3
     exact⟨⟨x,xs',[],[],rfl,rfl,⟨cs,e,k1.1⟩,k2.1⟩,by rw[k1.2,k2.2];rfl⟩
   | lit y=>have k1:=tX (w':=w') (Pb':=Pb') (.lit y) hp.1 h3;exact⟨⟨x,xs',[],[],rfl,rfl,k1.1,k2.1⟩,by rw[k1.2,k2.2];rfl⟩
   | tup us=>exact absurd h3 (by simp[R])
   | _=>simp[V.plain]at hp
theorem Du(v:V){x F}(hp:v.plain=true)(h:RV w Pb v x F):RV w' Pb' v x []/\F=[]:=by
 cases v with
 | tup vs=>obtain⟨xs,e,h⟩:=h;have:=uY (w':=w') (Pb':=Pb') vs (by simpa[V.plain] using hp) h;exact⟨⟨xs,e,this.1⟩,this.2⟩
 | agg us=>obtain⟨cs,e,h⟩:=h;have:=oe (w':=w') (Pb':=Pb') us (by simpa[V.plain] using hp) h;exact⟨⟨cs,e,this.1⟩,this.2⟩
 | lit y=>exact tX (w:=w) (Pb:=Pb) (w':=w') (Pb':=Pb') (.lit y) hp h
 | _=>simp[V.plain]at hp
theorem JB{Fo:List Nat} {KJ g2 o2 c2 lo n c:Nat} {xs:List V} {PL:List Value} (hr:R w Pb (.own KJ xs g2 o2 c2) PL Fo) (hle:n<=c) {B:Option Addr} (hB:0<c->B=some ⟨g2,o2+lo*KJ,none⟩) (hn:lo+n<=xs.length) (ho:V.aD xs=false)
 (k1:∀ g,Pb g->Pb' g) (k2:∀ g,g<w.heap.size->Pb' g):R w Pb' (.sl false ((xs.drop lo).take n)) [.slice B n c] []:=by
 have hlen:((xs.drop lo).take n).length=n:=by simp;omega
 refine⟨rfl,B,c,by rw[hlen],by rw[hlen];exact hle,by simp,?_⟩
 by_cases UM:n=0
 subst UM;exact .inl (by simp)
 right
 rcases hr with ⟨_,rfl,_⟩ | ⟨h1,h2,h3,hx,hN,_,flat,F',cells,rfl,hr,hb,hsz,hc⟩
 simp at hn;omega
 have hF:=fc xs ho hr
 subst hF
 obtain⟨c1,M1,K1⟩:=ng xs lo hr
 obtain⟨c3,RS,Td⟩:=nj _ n M1
 refine⟨g2,o2+lo*KJ,KJ,c3,hB (by omega),k2 g2 (by obtain⟨e,fr,hb,_⟩:=hb;exact(Array.getElem?_eq_some_iff.1 hb).1),h2,fun x hx=>hN x (List.mem_of_mem_drop (List.mem_of_mem_take hx)),dB _ RS (fun _ _=>rfl) (by simp) k1 (by simp),fun j u hu=>?_⟩
 rw[dy hb]
 have:=K1 j u (Td j u hu)
 rw[du xs lo hN (by omega)]at this
 have:=hc _ _ this
 simpa[Nat.add_assoc] using this
theorem GJ(hs:s4 N Pb Kb A a w F){x:Operand}{C:Prop}{ys:List V}{r:l9}{p:List Nat}{sz g o lo n c:Nat}(he:A.ev x=.hd r p sz g o lo n c)(h:LZ A x=some (C,ys))(hC:C):R w (fun g=>g<w.heap.size) (.sl false ys) [a.eval x] []:=by
 obtain⟨Fx,hr⟩:=df hs x
 rw[he]at hr
 obtain⟨_,hle,B,hv,hB⟩:=hr
 have hv:a.eval x=.slice B n c:=(List.cons.inj hv).1
 have key:∀ u Fo PL,R w Pb u PL Fo->ju lo n sz g o u=some (C,ys)->R w (fun g=>g<w.heap.size) (.sl false ys) [a.eval x] []:=by
  intro u Fo PL Kh hu
  unfold ju at hu
  split at hu
  rename_i KJ xs g2 o2 c2
  simp only[Option.some.injEq,Prod.mk.injEq]at hu
  obtain⟨rfl,rfl⟩:=hu
  obtain⟨⟨rfl,rfl,rfl⟩,UR,Qq,_⟩:=hC
  rw[hv]
  exact JB Kh hle hB UR Qq (fun k h=>hs.bound k (hs.sub k h)) fun g hg=>hg
  simp at hu
 unfold LZ at h
 rw[he]at h
 simp only at h
 split at h
 rename_i i
 have LB:=hs.slot i
 unfold ju at h
 split at h
 rename_i KJ xs g2 o2 c2 hg
 rw[hg]at LB
 exact key (.own KJ xs g2 o2 c2) _ _ LB (by unfold ju;exact h)
 simp at h
 rename_i k p'
 split at h
 rename_i a0 b0 u x5
 obtain⟨F',cs,cells,hb,Kh,s3⟩:=iu hs x5
 exact key u F' cs Kh h
 simp at h
 simp at h
theorem oG(hs:s4 N Pb Kb A a w F):∀ (xs:List Operand) {C:Prop} {vs:List V},oz A xs=(C,vs)->C->RVs w (fun g=>g<w.heap.size) vs (xs.map a.eval) []
 | [],C,vs,h,_=>by simp only[oz,Prod.mk.injEq]at h;obtain⟨_,rfl⟩:=h;exact⟨rfl,rfl⟩
 | x::xs,C,vs,h,hC=>by
   have plain:∀ Tq,RVs w (fun g=>g<w.heap.size) Tq (xs.map a.eval) []->RVs w (fun g=>g<w.heap.size) (A.cp x::Tq) ((x::xs).map a.eval) []:=fun Tq h'=>by
    have h1:=rf hs [x]
    have h1:=rj (w':=w) (Pb':=fun g=>g<w.heap.size) _ h1 (fun _ _=>rfl) (fun _ _=>rfl) (fun k h=>hs.bound k (hs.sub k h)) (by simp)
    obtain⟨y,ys,F1,F2,e1,e2,h2,_⟩:=h1
    simp only[List.map_cons,List.map_nil,List.cons.injEq]at e1
    obtain⟨rfl,_⟩:=e1
    have e2:=e2.symm
    simp only[List.append_eq_nil_iff]at e2
    obtain⟨rfl,_⟩:=e2
    exact⟨a.eval x,xs.map a.eval,[],[],rfl,rfl,h2,h'⟩
   cases hl:oz A xs with
   | mk C0 vs0=>
     simp only[oz,hl]at h
     split at h
     rename_i r p sz g o lo n c he
     split at h
     rename_i Cx ys e
     simp only[Prod.mk.injEq]at h
     obtain⟨rfl,rfl⟩:=h
     exact⟨a.eval x,xs.map a.eval,[],[],rfl,rfl,GJ hs he e hC.1,oG hs xs hl hC.2⟩
     simp only[Prod.mk.injEq]at h
     obtain⟨rfl,rfl⟩:=h
     exact plain _ (oG hs xs hl hC)
     simp only[Prod.mk.injEq]at h
     obtain⟨rfl,rfl⟩:=h
     exact plain _ (oG hs xs hl hC)
theorem En{o:Oper} {K:AS->Prop} {f:FuncId} {xs:Array Operand} {J6:Array TypeId} {args:List V} {Q:V->Prop} {C:Prop} {vs:List V} (ho:o.op=.call { callee:=.value (.func f),args:=xs,argTypes:=J6 })
 (hd:bX N o.dst) (hc:PC P f args Q) (hl:oz A xs.toList=(C,vs)) (hC:C) (hargs:KU vs args=args) (hp:∀ r,Q r->r.plain=true) (hK:∀ r,Q r->K (A.put o.dst r)):D5 P N o A K:=by
 intro Pb Kb a w F Q' hs
 unfold Oper.wp
 have x9:(execOp a.eval o).run P w=.ok (.enter f (xs.map a.eval)) w:=by
  simp only[execOp,ho,resolve,Act.eval,Deferred.ofValue,Sem.run_bind,Sem.run_pure,Result.andThen_ok,invoke]
  have:=hc.1 (xs.map a.eval) w
  simpa using this
 rw[x9,Oper.upon_enter]
 have h0:=oG hs xs.toList hl hC
 have h0:=nD _ args h0
 rw[hargs]at h0
 have I4:=hc.2 w (fun g=>g<w.heap.size) (xs.toList.map a.eval) (fun g hg=>hg) h0
 have e:(xs.toList.map a.eval).toArray=xs.map a.eval:=by rw[<- Array.toList_map,Array.toArray_toList]
 rw[e]at I4
 refine I4.mono ?_
 rintro e w' ⟨r,x,Fr,Pb',rfl,hq,hr,hnd,hfr,h1,h2,hb⟩
 have x7:s4 N Pb Kb A a w' F:=hs.grow hb.block hb.size (fun _ h=>h) (fun g hg=>.inl hg) hs.sub
 obtain⟨F',J3⟩:=x7.ou (d:=o.dst) hd (Du (w':=w') (Pb':=Pb) r (hp r hq) hr).1
 exact⟨_,Pb,Kb,F',hK r hq,J3,fun _ h=>h,fun _ h=>h,fun g h=>.inl h,w8.xi hb hs.bound⟩
end
end Go.Abs
namespace Go.Abs
open Go Go.RowKit
section
variable {w w':World} {Pb Kb Pb':Nat->Prop} {N:Nat} {A A' B:AS} {a:Act} {F:l9->List Nat} {P:Program} {ops:Array Oper}
theorem yD{o:Oper} {K:AS->Prop} {d T e len:Nat} {b7:Array (Nat×Operand)} {i:TI} {vs:List V} (ho:o.op=.buildSlice T len b7) (hd:o.dst=some d) (hN:d<N) (hT:tD P T=some (.sl e)) (hi:ti P e=some i)
 (On:dY A 0 b7.toList=some vs) (hB:Pf P T e len i vs=true) (h0:0<len) (hK:∀ g,K (A.put (some d) (.own i.sz vs g 0 len))):D5 P N o A K:=by
 simp only[Pf,Bool.and_eq_true,beq_iff_eq]at hB
 obtain⟨⟨⟨⟨b1,hlen⟩,MX⟩,I'⟩,hv⟩:=hB
 obtain⟨inf,z,Kj,hzero,_⟩:=kH b1
 have MX:=Nat.le_of_ble_eq_true MX
 have I':=Nat.lt_of_succ_le (Nat.le_of_ble_eq_true I')
 have hv:=tW hv
 intro Pb Kb a w F Q hs
 obtain⟨xs,h1,h2,h3,h4⟩:=lD hs b7.toList 0 On hv
 have hu:=gG hT
 obtain⟨Po,_,G3,_,hsz,_,_⟩:=ib hi
 rw[Kj]at G3
 obtain rfl:=Option.some.inj G3
 have hfl:=Great.fill_whole I' xs ((Array.range (len*i.sz)).map (z.cells[· % z.cells.size]!)) h2 (by simp[h4,hlen])
 have hmul: ¬ len*inf.size=0:=by rw[hsz];exact Nat.mul_ne_zero (by omega) (by omega)
 have hb:=run_buildSlice (P:=P) w T e len (b7.map fun (i,x)=>(i,a.eval x)) _ inf z hu Kj hzero (by rw[hsz];omega) hmul (by rw[Array.toList_map,h1,hsz];exact hfl)
 have hx:(execOp a.eval o).run P w=.ok (.value (.slice (some ⟨w.heap.size,0,none⟩) len len)) (w.alloc (.cells (xs.flatMap fun v=>v.cells.toList).toArray e)):=by
  simp only[execOp,ho,Sem.run_bind,hb,Result.andThen_ok,Sem.run_pure]
 unfold Oper.wp
 rw[hx,Oper.upon_value,hd]
 have K0:=hs.mf (.cells (xs.flatMap fun v=>v.cells.toList).toArray e)
 have LC:=dB (w':=w.alloc (.cells (xs.flatMap fun v=>v.cells.toList).toArray e)) (Pb':=Pb) vs h3 (fun g hg=>alloc_old w _ g (hs.bound g (hs.sub g hg))) (by simp) (fun g hg=>hg) (by simp)
 have hcs:(xs.flatMap fun v=>v.cells.toList).length=len*i.sz:=by
  rw[gW _ h3,mX vs (fun v Pr=>(hv v Pr).2),hlen]
 have MH: ¬ Kb w.heap.size:=fun h=>by have:=hs.bound _ h;omega
 have hR:R (w.alloc (.cells (xs.flatMap fun v=>v.cells.toList).toArray e)) Pb (.own i.sz vs w.heap.size 0 len) [.slice (some ⟨w.heap.size,0,none⟩) len len] [w.heap.size]:=
  .inr ⟨h0,I',by omega,by rw[hlen],fun v Pr=>(hv v Pr).2,fun c=>MH (hs.sub _ c),_,[],_,rfl,LC,⟨e,(0,0),fv w _,fun i _ h=>by omega⟩,by simp only[List.size_toArray];rw[hcs];omega,fun j u hu=>by simpa using hu⟩
 exact⟨_,Pb,Kb,_,hK _,K0.put hN hR (fun r _ g hg=>by
  obtain rfl:=List.mem_singleton.1 hg
  intro c;have:=(hs.free r _ c).2;omega) (by simp) (fun g hg=>by
  obtain rfl:=List.mem_singleton.1 hg
  exact⟨MH,by rw[cY];omega⟩),fun _ h=>h,fun _ h=>h,fun _ h=>.inl h,w8.alloc hs.bound _⟩
theorem Bt{K:AS->Prop} {t sz n g o c g0 o0:Nat} {xs:List V} {r:l9} {p:List Nat} (h2:A.get t=.own sz xs g o c) (x5:(A.put (some t) .b9).at r p=some (g0,o0,.hd (.slot t) [] sz g o 0 n c)) (hn:n=xs.length)
 (h:K ((A.put (some t) .b9).setAt r p (.own sz xs g o c))):Hx N A K:=Hx.simple h fun Pb Kb a w F hs=>by
 subst hn
 obtain⟨Fx,F1,hr,K0,hnd,u0,hfr,_⟩:=hs.take (.tmp t)
 rw[nK h2]at K0
 have hr:RV w Pb (A.get t) (a.tmps.getD t undef) Fx:=hr
 rw[h2]at hr
 obtain⟨Fp,cs,cells,hb,hp,hc⟩:=iu K0 x5
 obtain⟨_,hle,B,rfl,hB⟩:=hp
 have D6:R w Pb (.own sz xs g o c) [.slice B xs.length c] Fx:=by
  rcases hr with ⟨rfl,rfl,rfl,A0,_⟩ | ⟨k1,k2,k3,k4,k5⟩
  exact .inl ⟨rfl,rfl,rfl,B,rfl⟩
  have:=hB k1
  rw[Nat.zero_mul,Nat.add_zero]at this
  subst this
  exact .inr ⟨k1,k2,k3,rfl,k5⟩
 obtain⟨F2,J3,_⟩:=K0.store (w':=w) (v:=.own sz xs g o c) x5 D6 rfl hnd u0 hfr ⟨rfl,rfl,rfl,rfl,fun _ _=>rfl,Shp.refl _,fun n8 J0=>⟨n8,J0,rfl,fun _ _=>rfl,fun j u hu=>by
  have e:n8=cells:=by
   obtain⟨e1,f1,q1,_⟩:=hb
   obtain⟨e2,f2,q2,_⟩:=J0
   rw[q1]at q2
   simp only[Option.some.injEq,Obj.cells.injEq]at q2
   exact q2.1.symm
  rw[e];exact hc j u hu⟩⟩
 exact⟨F2,J3⟩
theorem xH{o:Oper} {K:AS->Prop} {d T T2 e e2 t0:Nat} {x:Operand} {t:TI} {Cx:Prop} {xs ys:List V} {r:l9} {p:List Nat} {sz g o1 n c g0 o0:Nat} (ho:o.op=.call { callee:=.builtin .append,args:= #[.tmp t0,x],argTypes:= #[T,T2] }) (Oo:o.type=T)
 (hd:o.dst=some d) (hN:d<N) (hT:tD P T=some (.sl e)) (PG:tD P T2=some (.sl e2)) (ht:ti P e=some t) (hz:∃ inf z,P.info? e=some inf/\inf.zero=some z/\z.cells.size=t.sz) (hsz:0<t.sz) (O9:0<t.Kg)
 (hg:A.get t0=.hd r p sz g o1 0 n c) (x5:A.at r p=some (g0,o0,.own sz xs g o1 c)) (e9:sz=t.sz) (hn:n=xs.length) (hx:LZ A x=some (Cx,ys)) (Ti:Cx) (Rj:V.aD ys=false) (OQ:aG t.sz ys)
 (hbig:(xs.length+ys.length)*t.Kg<=140737488355328)
 (hK:∀ g o c,K ((A.setAt r p .b9).put (some d) (.own t.sz (xs++ys) g o c))):D5 P N o A K:=by
 subst e9 hn
 intro Pb Kb a w F Q hs
 obtain⟨B2,c2,A7,LQ,Ko,MD,hl2⟩:=lF (P:=P) hs hx Ti OQ Rj
 obtain⟨Fr,Fu,x7,⟨cs,cells,hb,Kh,hc⟩,hnd,u0,hfr⟩:=hs.split x5
 have hr:R w Pb (.own t.sz xs g o1 c) [a.eval (.tmp t0)] Fu:=by
  have hh:=hs.slot t0
  rw[hg]at hh
  obtain⟨_,hle,B,hv,hB⟩:=hh
  have hv:a.eval (.tmp t0)=.slice B xs.length c:=(List.cons.inj hv).1
  rw[hv]
  rcases Kh with ⟨rfl,rfl,rfl,A0,_⟩ | ⟨h1,h2,h3,h4,h5⟩
  exact .inl ⟨rfl,rfl,rfl,B,rfl⟩
  have:=hB h1
  rw[Nat.zero_mul,Nat.add_zero]at this
  subst this
  exact .inr ⟨h1,h2,h3,rfl,h5⟩
 obtain⟨v,w',F2,g',o',c',x9,J3,Ko,H7,MF,OF,Mb⟩:=qK hT PG ht hz hsz O9 x7 hr u0 hfr (Fy:=[]) (by simpa using hnd) (by simp) (by simp) LQ Ko MD hl2 OQ hbig
 have Lf:(execOp a.eval o).run P w=.ok (.value v) w':=by
  simp only[execOp,ho,resolve,invoke,builtin,Sem.run_bind,Sem.run_pure,Result.andThen_ok,Oo]
  have e:(#[.tmp t0,x].map a.eval)= #[a.eval (.tmp t0),a.eval x]:=by simp
  rw[e,x9];rfl
 unfold Oper.wp
 rw[Lf,Oper.upon_value,hd]
 exact⟨_,Pb,Kb,_,hK g' o' c',J3.put hN Ko (fun r _ g hg=>MF r g hg) H7 OF,fun _ h=>h,fun _ h=>h,fun _ h=>.inl h,Mb⟩
end
end Go.Abs
namespace Go.Abs
open Go Go.RowKit
section
variable {w w':World} {Pb Kb Pb':Nat->Prop} {N:Nat} {A A' B:AS} {a:Act} {F:l9->List Nat} {P:Program} {ops:Array Oper}
theorem tq:∀ (vs:List V) {xs:List Value} {F:List Nat} {i:Nat} {v:V},RVs w Pb vs xs F->vs[i]? =some v->v.isVal=true->
 ∃ x Fa Fi Fb,xs[i]? =some x/\F=Fa++Fi++Fb/\RV w Pb v x Fi/\RVs w Pb (vs.set i .b9) xs (Fa++Fb)
 | [],_,_,_,_,_,h,_=>by simp at h
 | u::vs,xs,F,0,v,h,hi,hv=>by
   obtain⟨x,xs',F1,F2,rfl,rfl,h1,h2⟩:=h
   simp at hi;subst hi
   refine⟨x,[],F1,F2,rfl,by simp,?_,⟨x,xs',[],F2,rfl,rfl,rfl,h2⟩⟩
   cases u <;> first | exact h1 | simp[V.isVal]at hv
 | u::vs,xs,F,i+1,v,h,hi,hv=>by
   obtain⟨x,xs',F1,F2,rfl,rfl,h1,h2⟩:=h
   obtain⟨y,Fa,Fi,Fb,k1,rfl,k3,k4⟩:=tq vs h2 (by simpa using hi) hv
   exact⟨y,F1++Fa,Fi,Fb,by simpa using k1,by simp,k3,⟨x,xs',F1,Fa++Fb,rfl,by simp,h1,k4⟩⟩
theorem vA{o:Oper} {K:AS->Prop} {t i d:Nat} {vs:List V} {v:V} (ho:o.op=.extract (.tmp t) i) (hd:o.dst=some d) (hN:d<N) (ht:t<N) (SK:d≠t) (hg:A.get t=.tup vs) (hi:vs[i]? =some v) (hv:v.isVal=true)
 (hK:K ((A.put (some t) (.tup (vs.set i .b9))).put (some d) v)):D5 P N o A K:=by
 intro Pb Kb a w F Q hs
 have LB:=hs.slot t
 rw[hg]at LB
 obtain⟨xs,hx,hr⟩:=LB
 obtain⟨x,Fa,Fi,Fb,k1,k2,k3,k4⟩:=tq vs hr hi hv
 have hnd:=hs.nodup (.slot t)
 rw[k2]at hnd
 have LJ:∀ g,g∈Fa++Fb->g∈F (.slot t):=fun g hg=>by rw[k2];simp only[List.mem_append]at hg ⊢;rcases hg with h | h <;> simp[h]
 have Qm:∀ g,g∈Fi->g∈F (.slot t):=fun g hg=>by rw[k2];simp[hg]
 have H7:(Fa++Fb).Nodup/\Fi.Nodup/\∀ g,g∈Fi->g ∉ Fa++Fb:=by
  simp only[List.nodup_append,List.mem_append]at hnd ⊢
  grind
 have K0:=hs.put (d:=t) (v:=.tup (vs.set i .b9)) (x:=a.tmps.getD t undef) (F':=Fa++Fb) ht ⟨xs,hx,k4⟩ (fun r hr g hg c=>hs.bM (.slot t) r (Ne.symm hr) g (LJ g hg) c) H7.1 (fun g hg=>hs.free _ g (LJ g hg))
 rw[nR]at K0
 unfold Oper.wp
 have x9:(execOp a.eval o).run P w=.ok (.value x) w:=by
  have Ru:a.eval (.tmp t)=.tuple xs:=hx
  have hxi:xs[i]? =some x:=by simpa using k1
  simp only[execOp,ho,Ru,Instr.extract,hxi,Sem.run_bind,Sem.run_pure,Result.andThen_ok]
 rw[x9,Oper.upon_value,hd]
 refine⟨_,Pb,Kb,_,hK,K0.put (d:=d) (F':=Fi) hN k3 (fun r hr g hg c=>?_) H7.2.1 (fun g hg=>hs.free _ g (Qm g hg)),fun _ h=>h,fun _ h=>h,fun _ h=>.inl h,w8.refl _ _⟩
 simp only[bL]at c
 split at c
 exact H7.2.2 g hg c
 rename_i hne;exact hs.bM (.slot t) r (Ne.symm hne) g (Qm g hg) c
end
end Go.Abs
namespace Go.Abs
open Go Go.RowKit
def cj:List Prop->Prop->Prop
 | [],k=>k
 | c::r,k=>c/\cj r k
theorem lY:∀ {l:List Prop} {k:Prop},cj l k↔(∀ c,c∈l->c)/\k
 | [],k=>by simp[cj]
 | c::r,k=>by
   rw[cj,lY (l:=r),List.forall_mem_cons,and_assoc]
abbrev GT:=List (Nat×(Nat×Bool))
def Ar(ops:Array Oper)(j:Nat):Option Nat:=(ops[j]?).bind (·.dst)
def qz(ops:Array Oper)(d:Nat)(gt:GT):GT:=gt.filter fun e=>!(e.1==d||Ar ops e.2.1==some d)
def vT(ops:Array Oper)(d j:Nat)(b:Bool)(gt:GT):GT:=match Ar ops j==some d with
 | true=>qz ops d gt
 | false=>(d,(j,b))::qz ops d gt
def GI(ops:Array Oper)(gt:GT)(A:AS):Prop:= ∀ e,e∈gt->∀ c v,A.get e.1=.gv c v->Lh A ops e.2.1 e.2.2=some c
section
variable {P:Program} {N:Nat} {ops:Array Oper} {A A':AS} {gt:GT}
theorem BF:GI ops [] A:=fun e h=>by simp at h
theorem zF{d j:Nat}{b:Bool}{u:V}(h:Ar ops j≠some d):Lh (A.put (some d) u) ops j b=Lh A ops j b:=by
 unfold Lh
 unfold Ar at h
 cases hj:(ops[j]?).bind (·.dst) with
 | none=>rfl
 | some t=>
   simp only[Option.map_some]
   rw[AS.ay,if_neg (fun c=>h (by rw[hj,c]))]
theorem su{d:Nat}{u:V}(h:GI ops gt A):GI ops (qz ops d gt) (A.put (some d) u):=fun e he c v hv=>by
 unfold qz at he
 rw[List.mem_filter]at he
 obtain⟨h1,h2⟩:=he
 simp only[Bool.not_eq_true',Bool.or_eq_false_iff,beq_eq_false_iff_ne,ne_eq]at h2
 rw[AS.ay,if_neg h2.1]at hv
 rw[zF h2.2]
 exact h e h1 c v hv
theorem Cp{d j:Nat}{b G:Bool}{u:V}(h:GI ops gt A)(hG:Lh A ops j b=some G):GI ops (vT ops d j b gt) (A.put (some d) (.gv G u)):=by
 unfold vT
 split
 exact su h
 rename_i e1
 intro e he c v hv
 rcases List.mem_cons.1 he with rfl | he
 rw[AS.ay,if_pos rfl]at hv
 cases hv
 rw[zF (by simpa using e1)];exact hG
 exact su h e he c v hv
def We(ops:Array Oper)(d:Option Nat)(j:Nat)(b:Bool)(gt:GT):GT:=match d with
 | some d=>vT ops d j b gt
 | none=>gt
theorem Ge{d:Option Nat}{j:Nat}{b G:Bool}{u:V}(h:GI ops gt A)(hG:Lh A ops j b=some G):GI ops (We ops d j b gt) (A.put d (.gv G u)):=by
 cases d with
 | none=>exact h
 | some d=>exact Cp h hG
theorem Gc{x:Operand}(h:(A.ev x).cB=false):A.drop x=A:=by
 cases x with
 | tmp t=>exact if_neg (by simpa[AS.ev] using h)
 | _=>rfl
def NI(G:Bool)(jb:Nat×Bool)(gt:GT):List Operand->AS->List Prop×AS
 | [],A=>([],A)
 | .tmp t::r,A=>match A.get t with
   | .gv b v=>match NI G jb gt r (A.put (some t) v),gt.contains (t,jb)&&!v.cB&&!v.fL with
     | (C,B),true=>(C,B)
     | (C,B),false=>(mY G b v::C,B)
   | _=>NI G jb gt r A
 | _::r,A=>NI G jb gt r A
theorem kL{G:Bool}{jb:Nat×Bool}:∀ (xs:List Operand) {A B:AS} {l:List Prop},(∀ t,(t,jb)∈gt->∀ c v,A.get t=.gv c v->c=G)->NI G jb gt xs A=(l,B)->(∀ c,c∈l->c)->∃ C,AS.un G xs A=(C,B)/\C
 | [],A,B,l,_,h,_=>by simp only[NI,Prod.mk.injEq]at h;exact⟨True,by simp only[AS.un,h.2],trivial⟩
 | x::xs,A,B,l,hi,h,hl=>by
   cases x with
   | tmp t=>
     simp only[NI]at h
     simp only[AS.un]
     split at h
     rename_i b v hg
     rw[hg]
     have UZ:v.fL=false->∀ t',(t',jb)∈gt->∀ c u,(A.put (some t) v).get t'=.gv c u->c=G:=fun hv t' ht c u hu=>by
      rw[AS.ay]at hu
      split at hu
      rw[hu]at hv;simp[V.fL]at hv
      exact hi t' ht c u hu
     split at h
     rename_i C1 B1 hu hc
     simp only[Prod.mk.injEq]at h
     obtain⟨rfl,rfl⟩:=h
     simp only[Bool.and_eq_true,Bool.not_eq_true',List.contains_iff_mem]at hc
     obtain⟨C2,e1,e2⟩:=kL xs (UZ hc.2) hu hl
     simp only[e1]
     refine⟨_,rfl,?_,e2⟩
     unfold mY
     rw[hc.1.2,hc.2,hi t hc.1.1 b v hg]
     exact fun h=>h
     rename_i C1 B1 hu hc
     simp only[Prod.mk.injEq]at h
     obtain⟨rfl,rfl⟩:=h
     have h0:=hl _ (List.mem_cons_self ..)
     have hv:v.fL=false:=by
      unfold mY at h0
      split at h0
      rename_i e;rw[Bool.or_eq_false_iff]at e;exact e.2
      exact h0.elim
     obtain⟨C2,e1,e2⟩:=kL xs (UZ hv) hu (fun c hc=>hl c (List.mem_cons_of_mem _ hc))
     simp only[e1]
     exact⟨_,rfl,h0,e2⟩
     rename_i hn
     have:=kL xs hi h hl
     split
     rename_i b v hg;exact absurd hg (hn b v)
     exact this
   | _=>exact kL xs hi h hl
def px(P:Program)(N:Nat)(ops:Array Oper):Nat->List Oper->List V->GT->AS->Option (List Prop×AS×GT)
 | 0,_,_,gt,A=>some ([],A,gt)
 | _+1,[],_,gt,A=>some ([],A,gt)
 | n+1,o::rest,w5,gt,A=>
   match o.dst with
   | none=>none
   | some d=>if d<N then
     match o.guard with
     | some (j,b)=>match Lh A ops j b with
       | some G=>match NI G (j,b) gt (gH o.op) A with
         | (C0,B)=>match sY P B o.op w5 with
           | some (C,v,w5)=>if (MU N (gH o.op)&&!v.fL)=true then match px P N ops n rest w5 (vT ops d j b gt) (A.put (some d) (.gv G v)) with
             | some (C',r)=>some (C0++(if kP o.op=true then C' else (G=true->C)::C'),r)
             | none=>none else none
           | none=>none
       | none=>none
     | none=>match o.op with
       | .assign x=>px P N ops n rest w5 (if (A.ev x).cB=true then [] else qz ops d gt) ((A.drop x).put (some d) (A.ev x))
       | op=>match sY P A op w5 with
         | some (C,v,w5)=>match px P N ops n rest w5 (qz ops d gt) (A.put (some d) v) with
           | some (C',r)=>if kP op=true then some (C',r) else some (C::C',r)
           | none=>none
         | none=>none
     else none
theorem qA:∀ (n:Nat) {l:List Oper} {w5:List V} {gt R1:GT} {A A':AS} {cs:List Prop},px P N ops n l w5 gt A=some (cs,A',R1)->GI ops gt A->(∀ c,c∈cs->c)->
 (∃ C,lU P N ops n l w5 A=some (C,A')/\C)/\GI ops R1 A'
 | 0,l,w5,gt,R1,A,A',cs,h,hi,hc=>by
   simp only[px,Option.some.injEq,Prod.mk.injEq]at h
   obtain⟨_,rfl,rfl⟩:=h
   exact⟨⟨True,by simp only[lU],trivial⟩,hi⟩
 | n+1,[],w5,gt,R1,A,A',cs,h,hi,hc=>by
   simp only[px,Option.some.injEq,Prod.mk.injEq]at h
   obtain⟨_,rfl,rfl⟩:=h
   exact⟨⟨True,by simp only[lU],trivial⟩,hi⟩
 | n+1,o::l,w5,gt,R1,A,A',cs,h,hi,hc=>by
   unfold px at h
   unfold lU
   split at h
   cases h
   rename_i d hd
   split at h
   case isFalse=>cases h
   rename_i Pz
   simp only[hd,if_pos Pz]
   split at h
   rename_i j b hg
   simp only[hg]
   split at h
   rename_i G hG
   split at h
   rename_i C0 B hu
   split at h
   rename_i C v L0 hs
   split at h
   rename_i hk
   split at h
   rename_i C' A1 hr
   simp only[Option.some.injEq,Prod.mk.injEq]at h
   obtain⟨rfl,rfl⟩:=h
   obtain⟨C1,e1,e2⟩:=kL (gH o.op) (fun t ht c v hv=>by have:=hi _ ht c v hv;rw[hG]at this;exact(Option.some.inj this).symm) hu (fun c OL=>hc c (List.mem_append_left _ OL))
   obtain⟨⟨C2,e3,e4⟩,e5⟩:=qA n hr (Cp hi hG) (fun c OL=>hc c (List.mem_append_right _ (by split <;> simp[OL])))
   refine⟨?_,e5⟩
   simp only[hG,e1,hs,if_pos hk,e3]
   refine⟨_,rfl,fun KE=>⟨e2,?_⟩,e4⟩
   by_cases ht:kP o.op=true
   exact lx ht hs
   exact hc (G=true->C) (List.mem_append_right _ (by rw[if_neg ht];exact List.mem_cons_self ..)) KE
   cases h
   cases h
   cases h
   cases h
   rename_i hg
   simp only[hg]
   split at h
   rename_i x hx
   obtain⟨⟨C,e1,e2⟩,e3⟩:=qA n h (by
    split
    exact BF
    rename_i ho
    rw[Gc (by simpa using ho)]
    exact su hi) hc
   simp only[hx]
   exact⟨⟨C,e1,e2⟩,e3⟩
   rename_i hx
   split at h
   rename_i C v L0 hs
   split at h
   rename_i C' r hr
   have key:(∀ c,c∈C'->c)/\C/\r=(A',R1):=by
    split at h
    rename_i ht
    simp only[Option.some.injEq,Prod.mk.injEq]at h
    obtain⟨rfl,rfl⟩:=h
    exact⟨hc,lx ht hs,rfl⟩
    simp only[Option.some.injEq,Prod.mk.injEq]at h
    obtain⟨rfl,rfl⟩:=h
    exact⟨fun c OL=>hc c (List.mem_cons_of_mem _ OL),hc _ (List.mem_cons_self ..),rfl⟩
   obtain⟨k1,k2,rfl⟩:=key
   obtain⟨⟨C2,e3,e4⟩,e5⟩:=qA n hr (su hi) k1
   refine⟨?_,e5⟩
   split
   rename_i LQ;exact absurd LQ (hx _)
   simp only[hs,e3]
   split
   exact⟨_,rfl,e4⟩
   exact⟨_,rfl,k2,e4⟩
   cases h
   cases h
def lO(B:AS)(ks:List (Nat×Nat)):List (Nat×(Nat×V))->Prop->Prop
 | [],p=>p
 | (k,(g,v))::r,p=>(match lk k ks with | some q=>(match lk q B.h with | some (g',v')=>(g',wk v' v)=(g,v) | none=>False) | none=>False)/\lO B ks r p
theorem iA{B:AS}{ks:List (Nat×Nat)}:∀ {H:List (Nat×(Nat×V))} {p:Prop},lO B ks H p->jH B ks H/\p
 | [],p,h=>⟨trivial,h⟩
 | (k,(g,v))::r,p,h=>by
   obtain⟨h1,h2⟩:=h
   obtain⟨h3,h4⟩:=iA h2
   exact⟨⟨h1,h3⟩,h4⟩
def DH(A:AS):List (Nat×(Nat×V))->Prop->Prop
 | [],p=>p
 | (k,(g,v))::r,p=>(match lk k A.h with | some (g',v')=>(g',wk v' v)=(g,v) | none=>False)/\DH A r p
theorem wY:∀ {H:List (Nat×(Nat×V))} {p:Prop},DH A H p->Ny A H/\p
 | [],p,h=>⟨trivial,h⟩
 | (k,(g,v))::r,p,h=>by
   obtain⟨h1,h2⟩:=h
   obtain⟨h3,h4⟩:=wY h2
   exact⟨⟨h1,h3⟩,h4⟩
def DJ(A:AS):List (Nat×V)->Prop->Prop
 | [],p=>p
 | (k,v)::r,p=>(wk (A.get k) v=v)/\DJ A r p
theorem rJ:∀ {H:List (Nat×V)} {p:Prop},DJ A H p->Oh A H/\p
 | [],p,h=>⟨trivial,h⟩
 | (k,v)::r,p,h=>by
   obtain⟨h1,h2⟩:=h
   obtain⟨h3,h4⟩:=rJ h2
   exact⟨⟨h1,h3⟩,h4⟩
def RM(A B:AS):Prop:=DJ A B.t (DH A B.h True)
theorem qs{B:AS}(h:RM A B):Oh A B.t/\Ny A B.h:=⟨(rJ h).1,(wY (rJ h).2).1⟩
def wz(A:AS):List ResultVar->Option (List Prop×List (l9×V))
 | []=>some ([],[])
 | r::rs=>match wz A rs with
   | some (C,xs)=>match r with
     | .tmp t=>some (C,(.slot t,A.get t)::xs)
     | .cell t _=>match A.get t with
       | .ptr (.key k) [] g 0=>match lk k A.h with
         | some (g',v)=>some ((g'=g)::C,(.key k,v)::xs)
         | none=>none
       | _=>none
   | none=>none
theorem qB:∀ {rs:List ResultVar} {C:List Prop} {xs:List (l9×V)},wz A rs=some (C,xs)->(∀ c,c∈C->c)->∃ C',tL A rs=some (C',xs)/\C'
 | [],C,xs,h,_=>by simp only[wz,Option.some.injEq,Prod.mk.injEq]at h;rw[<- h.2];exact⟨_,rfl,trivial⟩
 | r::rs,C,xs,h,hC=>by
   simp only[wz]at h
   simp only[tL]
   split at h
   rename_i C1 xs1 e
   split at h
   simp only[Option.some.injEq,Prod.mk.injEq]at h
   obtain⟨rfl,rfl⟩:=h
   obtain⟨C',e1,e2⟩:=qB e hC
   simp only[e1]
   exact⟨_,rfl,e2⟩
   split at h
   rename_i k g e2
   split at h
   rename_i g' v e3
   simp only[Option.some.injEq,Prod.mk.injEq]at h
   obtain⟨rfl,rfl⟩:=h
   obtain⟨C',e4,e5⟩:=qB e (fun c hc=>hC c (List.mem_cons_of_mem _ hc))
   simp only[e4,e2,e3]
   exact⟨_,rfl,hC _ (List.mem_cons_self ..),e5⟩
   cases h
   cases h
   cases h
def rG(A:AS):List (Nat×(Nat×V))->Prop->Prop
 | [],p=>p
 | (k,(g,v))::r,p=>p/\rG A r (match lk k A.h with | some (g',v')=>(g',wk v' v)=(g,v) | none=>False)
theorem qY:∀ {H:List (Nat×(Nat×V))} {p:Prop},rG A H p->p/\Ny A H
 | [],p,h=>⟨h,trivial⟩
 | (k,(g,v))::r,p,h=>by
   obtain⟨h1,h2⟩:=h
   exact⟨h1,qY h2⟩
end
end Go.Abs
namespace Go.Abs
open Go Go.RowKit
structure r5 (P:Program) where
 f:FuncId
 args:List V
 H:List (Nat×(Nat×V)):=[]
 pre:Prop:=True
 res:V
 H':List (Nat×(Nat×V)):=[]
 ok:pre->PF P f args H (fun r h=>r=res/\h=H')
structure F8 (P:Program) where
 X:Type
 f:FuncId
 args:List V
 H:List (Nat×(Nat×V)):=[]
 pre:Prop:=True
 post:X->Prop
 res:X->V
 H':X->List (Nat×(Nat×V)):=fun _=>[]
 ok:pre->PF P f args H (fun r h=> ∃ x,post x/\r=res x/\h=H' x)
structure Cu (P:Program) where
 X:Type
 pre:Nat->Oper->AS->Prop
 post:X->Oper->AS->AS
 ok:∀ {N:Nat} {o:Oper} {A:AS} {K:AS->Prop},o.guard=none->pre N o A->(∀ x,K (post x o A))->D5 P N o A K
structure Eu (P:Program) where
 X:Type
 pre:Nat->Oper->AS->List Nat->List Nat->Prop
 U:Oper->AS->X->AS->AS
 So:∀ {N:Nat} {o:Oper} {A:AS} {Sl Hl:List Nat},pre N o A Sl Hl->∀ fs,OY (U o A) fs Sl Hl
 prom:List Nat:=[]
 Vz:∀ {N:Nat} {o:Oper} {A:AS} {Sl Hl:List Nat},pre N o A Sl Hl->∀ q,q∈prom->∀ x B,Ku (U o A x B).h q=Ku B.h q:=by intro _ _ _ _ _ _ q hq;exact absurd hq List.not_mem_nil
 ok:∀ {N:Nat} {o:Oper} {A A':AS} {Sl Hl:List Nat},o.guard=none->pre N o A Sl Hl->(∀ t,Operand.tmp t∈o.op.operands.toList->A'.get t=A.get t)->(∀ k,lk k A'.h=lk k A.h)->D5 P N o A' fun B=> ∃ x,B=U o A x A'
def r5.sm{P:Program}(c:r5 P):Prop:=c.args=c.args
def F8.sm{P:Program}(c:F8 P):Prop:=c.args=c.args
inductive Hint where
 | H3 (t sz:Nat)
 | Tp (t:Nat) (u:V)
 | wkR (r:l9) (p:List Nat) (u:V)
 | gg (t:Nat)
 | fz (t:Nat)
 | o9 (t:Nat) (v:V)
 | z7 (k:Nat) (v:V)
 | to (B:AS)
 | rk (k k':Nat)
 | A3 (r:l9) (p:List Nat) (sz:Nat)
 | Nb (r:l9) (p:List Nat) (g o sz:Nat)
 | OV (r:l9) (p:List Nat) (g o t:Nat)
 | Na (r:l9) (p:List Nat) (g o:Nat) (v u:V)
inductive Sc (P:Program):Type 1
 | nil
 | h (x:Hint) (k:Sc P)
 | ot (t:Nat) (k:Nat->Nat->Nat->Sc P)
 | oR (r:l9) (p:List Nat) (k:Nat->Nat->Nat->Sc P)
 | r (n:Nat) (w5:List V) (k:Sc P)
 | mv (k:Sc P)
 | c (c:r5 P) (ks:List (Nat×Nat)) (k:Sc P)
 | cx (c:F8 P) (ks:List (Nat×Nat)) (k:c.X->Sc P)
 | cg (c:r5 P) (k:Sc P)
 | al (z:ZT P) (k:Nat->Sc P)
 | bx (k:Nat->Sc P)
 | st (Pm:Option V) (k:Sc P)
 | ap (k:Nat->Nat->Nat->Sc P)
 | bd (z:ZT P) (k:Sc P)
 | bs (k:Sc P)
 | Kg (bs:BL) (k:Sc P)
 | sb (l:BL) (k:Nat->Nat->Sc P)
 | mm (k:Sc P)
 | rs (k:Sc P)
 | br (a b:Sc P)
 | join (X:Type) (B:X->AS) (ok:X->Prop) (a b:Sc P) (k:X->Sc P)
 | loop (X:Type) (inv:X->AS) (ok:X->Prop) (m:X->Nat) (k:X->Sc P)
 | dx (m:Nat) (pl:List Nat) (tb:List (Nat×M')) (zs:List (Nat×ZT P)) (k:Sc P)
 | ua (k:Nat->Sc P)
 | ux (z:Option (ZT P)) (k:Nat->Nat->Nat->Sc P)
 | cl (c:r5 P) (k:Sc P)
 | sp (b:Bool) (a1 a2:Sc P)
 | gt (k:Sc P)
 | gf (v:V) (k:Sc P)
 | ex (X:Type) (post:X->Prop) (k:X->Sc P)
 | NK (r:l9) (p:List Nat) (g o sz:Nat) (xs:List V) (k:Nat->Nat->Nat->Sc P)
 | Vq (xs:List V) (g o:Nat) (k:Nat->Nat->Nat->Sc P)
 | bo (k:Nat->Sc P)
 | cu (c:Cu P) (k:c.X->Sc P)
 | eu (c:Eu P) (k:c.X->Sc P)
def L6(N:Nat):Option Nat->Bool
 | none=>true
 | some d=>Nat.blt d N
theorem dD{N:Nat}{d:Option Nat}(h:L6 N d=true):bX N d:=by
 cases d with
 | none=>trivial
 | some d=>exact Nat.lt_of_succ_le (Nat.le_of_ble_eq_true h)
theorem bn{a b:Nat}(h:Nat.blt a b=true):a<b:=Nat.lt_of_succ_le (Nat.le_of_ble_eq_true h)
def vF(N:Nat)(x:Hint)(A:AS)(K:AS->Prop):Prop:=
 match x with
 | .H3 t sz=>match Nat.blt t N,A.get t with
   | true,.sl true []=>K (A.put (some t) (.own sz [] 0 0 0))
   | _,_=>False
 | .Tp t u=>match Nat.blt t N with
   | true=>K (A.put (some t) (wk (A.get t) u))
   | false=>False
 | .wkR r p u=>match A.at r p with
   | some (_,_,v)=>match (wk v u).n==v.n with
     | true=>K (A.setAt r p (wk v u))
     | false=>False
   | none=>False
 | .gg t=>match A.get t with
   | .hd (.slot i) [] sz g o 0 n c=>match A.get i with
     | .own I2 xs g' o' c'=>match Nat.blt t N&&Nat.blt i N&&!(t==i) with
       | true=>(sz,g,o,c,n)=(I2,g',o',c',xs.length)/\K ((A.put (some i) .b9).put (some t) (.own I2 xs g' o' c'))
       | false=>False
     | _=>False
   | _=>False
 | .fz t=>match Nat.blt t N&&(A.get t).cB with
   | true=>K (A.put (some t) (A.get t).er)
   | false=>False
 | .o9 t v=>A.get t=v/\K (A.put (some t) v)
 | .z7 k v=>match lk k A.h with
   | some (g,u)=>u=v/\K ⟨A.t,(k,(g,v))::A.h⟩
   | none=>False
 | .to B=>Oh A B.t/\Ny A B.h/\K B
 | .rk k k'=>match lk k A.h,lk k' A.h with
   | some gv,none=>K ⟨A.t,(k',gv)::A.h.filter fun p=>p.1 != k⟩
   | _,_=>False
 | .A3 r p sz=>match A.at r p with
   | some (_,_,.sl true [])=>K (A.setAt r p (.own sz [] 0 0 0))
   | _=>False
 | .Nb r p g o sz=>A.at r p=some (g,o,.sl true [])/\K (A.setAt r p (.own sz [] 0 0 0))
 | .OV r p g o t=>match A.get t with
   | .own sz xs g1 o1 c=>(A.put (some t) .b9).at r p=some (g,o,.hd (.slot t) [] sz g1 o1 0 xs.length c)/\K ((A.put (some t) .b9).setAt r p (.own sz xs g1 o1 c))
   | _=>False
 | .Na r p g o v u=>A.at r p=some (g,o,v)/\match (wk v u).n==v.n with
   | true=>K (A.setAt r p (wk v u))
   | false=>False
def Ma{P:Program}(N:Nat):Sc P->AS->(AS->Sc P->Prop)->Prop
 | .h x k,A,K=>vF N x A fun B=>Ma N k B K
 | .ot t k,A,K=>match Nat.blt t N,A.get t with
   | true,.ow sz xs=> ∀ g o c,Ma N (k g o c) (A.put (some t) (.own sz xs g o c)) K
   | _,_=>False
 | .oR r p k,A,K=>match A.at r p with
   | some (_,_,.ow sz xs)=> ∀ g o c,Ma N (k g o c) (A.setAt r p (.own sz xs g o c)) K
   | _=>False
 | .ex X post k,A,K=>(∃ x,post x)/\∀ x,post x->Ma N (k x) A K
 | .NK r p g0 o0 sz xs k,A,K=>A.at r p=some (g0,o0,.ow sz xs)/\∀ g o1 c,Ma N (k g o1 c) (A.setAt r p (.own sz xs g o1 c)) K
 | s,A,K=>K A s
def lA(P:Program)(T T2:Nat):Option TI:=
 match tD P T,tD P T2 with
 | some (.sl e),some (.sl _)=>match ti P e with
   | some t=>match Sh P e t.sz&&Nat.blt 0 t.sz&&Nat.blt 0 t.Kg with
     | true=>some t
     | false=>none
   | none=>none
 | _,_=>none
def xO(P:Program)(T:Nat):Bool:=match tD P T with
 | some (.sl e)=>match tD P e with
   | some (.int .u8)=>true
   | _=>false
 | _=>false
def isStr(P:Program)(T:Nat):Bool:=match tD P T with
 | some .str=>true
 | _=>false
def B6{P:Program}(N:Nat)(ops:Array Oper):GT->Sc P->List Oper->AS->(AS->Sc P->Prop)->Prop
 | Pc,s,[],A,K=>K A s
 | Pc,.r n w5 k,l,A,K=>match px P N ops n l w5 Pc A with
   | some (C,A',Wf)=>cj C (B6 N ops Wf k (l.drop n) A' K)
   | none=>False
 | Pc,.cg c k,o::l,A,K=>match o.op,o.guard with
   | .call ⟨.value (.func f),xs,_⟩,some (j,b)=>match f==c.f&&L6 N o.dst&&MU N xs.toList&&!c.res.er.fL&&!c.res.er.cB,c.H,Lh A ops j b with
     | true,[],some G=>match NI G (j,b) Pc xs.toList A with
       | (C,B)=>cj C ((G=true->c.pre/\KU (xs.toList.map B.cp) c.args=c.args)/\B6 N ops (We ops o.dst j b Pc) k l (A.put o.dst (.gv G c.res.er)) K)
     | _,_,_=>False
   | _,_=>False
 | Pc,.ex X post k,o::l,A,K=>(∃ x,post x)/\∀ x,post x->B6 N ops [] (k x) (o::l) A K
 | Pc,.sp b a1 a2,o::l,A,K=>(b=true->B6 N ops [] a1 (o::l) A K)/\(b=false->B6 N ops [] a2 (o::l) A K)
 | Pc,.gt k,o::l,A,K=>match o.guard with
   | some (j,b)=>match Lh A ops j b with
     | some G=>G=true/\B6 N ops [] k (⟨o.dst,o.op,o.type,o.pos,o.after,none⟩ :: l) A K
     | none=>False
   | none=>False
 | Pc,.gf v k,o::l,A,K=>match o.guard with
   | some (j,b)=>match Lh A ops j b,L6 N o.dst with
     | some G,true=>G=false/\B6 N ops [] k l (A.put o.dst (.gv false v)) K
     | _,_=>False
   | none=>False
 | Pc,s,o::l,A,K=>match o.guard with
   | some _=>False
   | none=>match s with
     | .h x k=>vF N x A fun B=>B6 N ops [] k (o::l) B K
     | .NK r p g0 o0 sz xs k=>A.at r p=some (g0,o0,.ow sz xs)/\∀ g o1 c,B6 N ops [] (k g o1 c) (o::l) (A.setAt r p (.own sz xs g o1 c)) K
     | .cu c k=>c.pre N o A/\∀ x,B6 N ops [] (k x) l (c.post x o A) K
     | .bo k=>match o.op,o.dst with
       | .buildSlice T len b7,some d=>match tD P T with
         | some (.sl e)=>match ti P e,dY A 0 b7.toList with
           | some i,some vs=>match Pf P T e len i vs&&Nat.blt d N&&Nat.blt 0 len with
             | true=> ∀ g,B6 N ops [] (k g) l (A.put (some d) (.own i.sz vs g 0 len)) K
             | false=>False
           | _,_=>False
         | _=>False
       | _,_=>False
     | .Vq xs g0 o0 k=>match o.op,o.dst with
       | .call ⟨.builtin .append,⟨[.tmp t0,x]⟩,⟨[T,T2]⟩⟩,some d=>match o.type==T&&Nat.blt d N,lA P T T2 with
         | true,some t=>match A.get t0,LZ A x with
           | .hd r p sz g o1 0 n c,some (Cx,ys)=>(A.at r p=some (g0,o0,.own sz xs g o1 c)/\sz=t.sz/\n=xs.length)/\Cx/\V.aD ys=false/\aG t.sz ys/\(xs.length+ys.length)*t.Kg<=140737488355328/\
            ∀ g2 o2 c2,B6 N ops [] (k g2 o2 c2) l ((A.setAt r p .b9).put (some d) (.own t.sz (xs++ys) g2 o2 c2)) K
           | _,_=>False
         | _,_=>False
       | _,_=>False
     | .cl c k=>match o.op with
       | .call ⟨.value (.func f),xs,_⟩=>match f==c.f&&L6 N o.dst&&c.res.plain,c.H,oz A xs.toList with
         | true,[],(C,vs)=>C/\KU vs c.args=c.args/\c.pre/\B6 N ops [] k l (A.put o.dst c.res) K
         | _,_,_=>False
       | _=>False
     | .ot t k=>match Nat.blt t N,A.get t with
       | true,.ow sz xs=> ∀ g o1 c,B6 N ops [] (k g o1 c) (o::l) (A.put (some t) (.own sz xs g o1 c)) K
       | _,_=>False
     | .oR r p k=>match A.at r p with
       | some (_,_,.ow sz xs)=> ∀ g o1 c,B6 N ops [] (k g o1 c) (o::l) (A.setAt r p (.own sz xs g o1 c)) K
       | _=>False
     | .mv k=>match o.op with
       | .move x=>match L6 N o.dst with
         | true=>B6 N ops [] k l ((A.drop x).put o.dst (A.ev x)) K
         | false=>False
       | .extract (.tmp t) i=>match o.dst,A.get t with
         | some d,.tup vs=>match vs[i]? with
           | some v=>match Nat.blt d N&&Nat.blt t N&&!(d==t)&&v.isVal with
             | true=>B6 N ops [] k l ((A.put (some t) (.tup (vs.set i .b9))).put (some d) v) K
             | false=>False
           | none=>False
         | _,_=>False
       | .load T x=>match o.dst,ti P T,A.ev x with
         | some d,some i,.ptr r p g g'=>match A.at r p with
           | some (g2,PK,u)=>match Nat.blt d N&&u.n==i.sz&&i.d.agg==u.isAgg with
             | true=>(g2,PK)=(g,g')/\B6 N ops [] k l ((A.setAt r p u.kill).put (some d) u) K
             | false=>False
           | none=>False
         | _,_,_=>False
       | _=>False
     | .c c ks k=>match o.op with
       | .call ⟨.value fx,xs,_⟩=>match A.ev fx,A.tk xs.toList with
         | .lit (.func (.func f) first w7),(vs,B)=>match f==c.f&&L6 N o.dst&&KK (ks.map (·.1))&&KK (ks.map (·.2))&&c.args.length==(first.toList.map cV++vs++w7.toList.map cV).length with
           | true=>KU (first.toList.map cV++vs++w7.toList.map cV) c.args=c.args/\lO B ks c.H (c.pre/\B6 N ops [] k l ((B.back ks c.H').put o.dst (c.res.LY (jw ks))) K)
           | false=>False
         | _,_=>False
       | _=>False
     | .cx c ks k=>match o.op with
       | .call ⟨.value fx,xs,_⟩=>match A.ev fx,A.tk xs.toList with
         | .lit (.func (.func f) first w7),(vs,B)=>match f==c.f&&L6 N o.dst&&KK (ks.map (·.1))&&KK (ks.map (·.2))&&c.args.length==(first.toList.map cV++vs++w7.toList.map cV).length with
           | true=>KU (first.toList.map cV++vs++w7.toList.map cV) c.args=c.args/\lO B ks c.H (c.pre/\∀ x,c.post x->B6 N ops [] (k x) l ((B.back ks (c.H' x)).put o.dst ((c.res x).LY (jw ks))) K)
           | false=>False
         | _,_=>False
       | _=>False
     | .al z k=>match o.op,o.dst with
       | .alloc T,some d=>match T==z.T&&Nat.blt d N with
         | true=> ∀ g,B6 N ops [] (k g) l ⟨(d,.ptr (.key d) [] g 0)::A.t,(d,(g,z.v))::A.h⟩ K
         | false=>False
       | _,_=>False
     | .bx k=>match o.op,o.dst with
       | .box _ x,some d=>match Nat.blt d N&&(A.cp x).isVal with
         | true=> ∀ g,B6 N ops [] (k g) l ⟨(d,.ptr (.key d) [] g 0)::A.t,(d,(g,A.cp x))::A.h⟩ K
         | false=>False
       | _,_=>False
     | .st Pm k=>match o.op,o.dst with
       | .store T x y,none=>match ti P T,A.ev x with
         | some i,.ptr r p g g'=>match Pm with
           | none=>match (A.drop y).at r p with
             | some (g2,PK,u)=>match (A.ev y).isVal&&(A.ev y).n==u.n&&(A.ev y).n==i.sz with
               | true=>(g2,PK)=(g,g')/\B6 N ops [] k l ((A.drop y).setAt r p (A.ev y)) K
               | false=>False
             | none=>False
           | some u=>match (A.ev y).isVal&&(A.ev y).n==u.n&&(A.ev y).n==i.sz with
             | true=>(A.drop y).at r p=some (g,g',u)/\B6 N ops [] k l ((A.drop y).setAt r p (A.ev y)) K
             | false=>False
         | _,_=>False
       | _,_=>False
     | .ap k=>match o.op,o.dst with
       | .call ⟨.builtin .append,⟨[s,x]⟩,⟨[T,T2]⟩⟩,some d=>match o.type==T&&Nat.blt d N,lA P T T2 with
         | true,some t=>match Sd A s t.sz,LZ A x with
           | some (C,A1,xs),some (Cx,ys)=>C/\Cx/\V.aD ys=false/\aG t.sz ys/\(xs.length+ys.length)*t.Kg<=140737488355328/\
            ∀ g o1 c,B6 N ops [] (k g o1 c) l (A1.put (some d) (.own t.sz (xs++ys) g o1 c)) K
           | none,some (Cx,ys)=>match Rz A s t.sz with
             | some (C,xs)=>(C/\0<ys.length)/\Cx/\V.aD ys=false/\aG t.sz ys/\(xs.length+ys.length)*t.Kg<=140737488355328/\
               ∀ g o1 c,B6 N ops [] (k g o1 c) l (A.put (some d) (.own t.sz (xs++ys) g o1 c)) K
             | none=>False
           | _,_=>False
         | _,_=>False
       | _,_=>False
     | .bd z k=>match o.op with
       | .build T b7=>match T==z.T&&L6 N o.dst,z.v with
         | true,.agg zs=>match kG P A T zs b7.toList with
           | some v=>B6 N ops [] k l (A.put o.dst v) K
           | none=>False
         | _,_=>False
       | _=>False
     | .bs k=>match o.op with
       | .buildSlice T len b7=>match tD P T with
         | some (.sl e)=>match ti P e,dY A 0 b7.toList with
           | some i,some vs=>match Pf P T e len i vs&&L6 N o.dst with
             | true=>B6 N ops [] k l (A.put o.dst (.sl true vs)) K
             | false=>False
           | _,_=>False
         | _=>False
       | _=>False
     | .Kg bs k=>match o.op with
       | .convert src dst x=>match xO P src&&isStr P dst&&L6 N o.dst,LZ A x with
         | true,some (C,ys)=>C/\ys=bs.map n7/\B6 N ops [] k l (A.put o.dst (sV bs)) K
         | _,_=>False
       | _=>False
     | .sb bs k=>match o.op,o.dst with
       | .convert src dst x,some d=>match isStr P src&&xO P dst&&Nat.blt d N with
         | true=>A.ev x=sV bs/\∀ g c,B6 N ops [] (k g c) l (A.put (some d) (.own 1 (bs.map n7) g 0 c)) K
         | false=>False
       | _,_=>False
     | .mm k=>match o.op with
       | .call ⟨.builtin b,⟨[x,y]⟩,_⟩=>match A.ev x,A.ev y,L6 N o.dst,b with
         | .lit (.int kd p),.lit (.int Oi q),true,.max=>Oi=kd/\B6 N ops [] k l (A.put o.dst (.lit (.int kd (max p q)))) K
         | .lit (.int kd p),.lit (.int Oi q),true,.min=>Oi=kd/\B6 N ops [] k l (A.put o.dst (.lit (.int kd (min p q)))) K
         | _,_,_,_=>False
       | _=>False
     | .rs k=>match o.op,o.dst with
       | .assign x,some i=>match A.ev x,A.get i,Nat.blt i N with
         | .hd (.slot i') [] I2 g' o' lo n c',.own sz xs g o1 c,true=>(i',I2,g',o')=(i,sz,g,o1)/\(lo+n<=xs.length/\lo+c'<=c/\V.aD xs=false)/\
          B6 N ops [] k l (A.put (some i) (.own sz ((xs.drop lo).take n) g (o1+lo*sz) c')) K
         | _,_,_=>False
       | _,_=>False
     | _=>False
section
variable {P:Program} {N:Nat} {ops:Array Oper} {A A' A1 B:AS}
variable {w:World} {Pb Kb:Nat->Prop} {a:Act} {F:l9->List Nat}
theorem xN{x:Hint}{A:AS}{K:AS->Prop}(h:vF N x A K):Hx N A K:=by
 unfold vF at h
 split at h
 split at h
 rename_i e1 e2;exact Gg _ _ (bn e1) e2 h
 exact h.elim
 split at h
 rename_i e1;exact Jx _ (bn e1) h
 exact h.elim
 split at h
 rename_i e1
 split at h
 rename_i e2;exact AT _ e1 (by simpa using e2) h
 exact h.elim
 exact h.elim
 split at h
 rename_i e1
 split at h
 rename_i e2
 split at h
 rename_i e3
 simp only[Bool.and_eq_true,Bool.not_eq_true',beq_eq_false_iff_ne]at e3
 obtain⟨hq,h⟩:=h
 simp only[Prod.mk.injEq]at hq
 obtain⟨rfl,rfl,rfl,rfl,hn⟩:=hq
 exact DM (bn e3.1.1) (bn e3.1.2) e3.2 e1 e2 hn h
 exact h.elim
 exact h.elim
 exact h.elim
 split at h
 rename_i e1
 simp only[Bool.and_eq_true]at e1
 exact CE (bn e1.1) e1.2 h
 exact h.elim
 exact Io _ h.1 h.2
 split at h
 rename_i e1
 obtain⟨rfl,h⟩:=h
 exact Hr _ e1 h
 exact h.elim
 exact EV h.1 h.2.1 h.2.2
 split at h
 rename_i e1 e2;exact Jr e1 e2 h
 exact h.elim
 split at h
 rename_i e1;exact wA e1 h
 exact h.elim
 exact wA h.1 h.2
 split at h
 rename_i e1;exact Bt e1 h.1 rfl h.2
 exact h.elim
 obtain⟨h1,h⟩:=h
 split at h
 rename_i e2;exact AT _ h1 (by simpa using e2) h
 exact h.elim
theorem jr:∀ (s:Sc P) {A:AS} {K:AS->Sc P->Prop},Ma N s A K->Hx N A fun B=> ∃ s',K B s':=by
 intro s
 induction s with
 | h x k ih=>intro A K h;exact(xN h).bind fun B hB=>ih hB
 | ot t k ih=>
   intro A K h
   simp only[Ma]at h
   split at h
   rename_i e1 e2
   exact(yZ (bn e1) e2 (K:=fun B=>Hx N B fun B=> ∃ s',K B s') fun g o c=>ih g o c (h g o c)).bind fun _ hB=>hB
   exact h.elim
 | oR r p k ih=>
   intro A K h
   simp only[Ma]at h
   split at h
   rename_i e1
   exact(oF e1 (K:=fun B=>Hx N B fun B=> ∃ s',K B s') fun g o c=>ih g o c (h g o c)).bind fun _ hB=>hB
   exact h.elim
 | ex X post k ih=>
   intro A K h
   obtain⟨⟨x,hx⟩,h⟩:=h
   exact ih x (h x hx)
 | NK r p g0 o0 sz xs k ih=>
   intro A K h
   exact(oF h.1 (K:=fun B=>Hx N B fun B=> ∃ s',K B s') fun g o c=>ih g o c (h.2 g o c)).bind fun _ hB=>hB
 | _=>intro A K h;exact Hx.of ⟨_,h⟩
theorem gZ{T T2:Nat}{t:TI}(h:lA P T T2=some t):∃ e e2,tD P T=some (.sl e)/\tD P T2=some (.sl e2)/\ti P e=some t/\Sh P e t.sz=true/\0<t.sz/\0<t.Kg:=by
 unfold lA at h
 split at h
 rename_i e e2 h1 h2
 split at h
 rename_i t' h3
 split at h
 rename_i h4
 simp only[Option.some.injEq]at h;subst h
 simp only[Bool.and_eq_true]at h4
 exact⟨e,e2,h1,h2,h3,h4.1.1,bn h4.1.2,bn h4.2⟩
 simp at h
 simp at h
 simp at h
theorem uk{T:Nat}(h:xO P T=true):∃ e,tD P T=some (.sl e)/\tD P e=some (.int .u8):=by
 unfold xO at h
 split at h
 rename_i e h1
 split at h
 rename_i h2;exact⟨e,h1,h2⟩
 simp at h
 simp at h
theorem rv{T:Nat}(h:isStr P T=true):tD P T=some .str:=by
 unfold isStr at h
 split at h
 rename_i h1;exact h1
 simp at h
theorem BR:∀ (s:Sc P) {gt:GT} {l:List Oper} {A:AS} {K:AS->Sc P->Prop},B6 N ops gt s l A K->(hg:GI ops gt A:=by exact BF)->WL P N ops l A fun B=> ∃ s',K B s':=by
 intro s
 induction s with
 | nil=>
   intro gt l A K h H8
   cases l with
   | nil=>exact⟨_,h⟩
   | cons o l=>simp only[B6]at h;split at h <;> exact h.elim
 | r n w5 k ih=>
   intro gt l A K h H8
   cases l with
   | nil=>exact⟨_,h⟩
   | cons o l=>
     simp only[B6]at h
     split at h
     rename_i C A' Wf e
     obtain⟨h1,h2⟩:=lY.1 h
     obtain⟨⟨C1,e1,e2⟩,e3⟩:=qA n e H8 h1
     exact mV n e1 e2 (ih h2 e3)
     exact h.elim
 | cg c k ih=>
   intro gt l A K h H8
   cases l with
   | nil=>exact⟨_,h⟩
   | cons o l=>
     obtain⟨dst,op,ty,pos,after,C4⟩:=o
     simp only[B6]at h
     split at h
     rename_i _ _ f xs J6 j b
     split at h
     rename_i G h1 h2 h3
     revert h
     cases hu:NI G (j,b) gt xs.toList A with | mk C0 B=>?_
     intro h
     obtain⟨MR,h⟩:=lY.1 h
     obtain⟨C1,u1,u2⟩:=kL xs.toList (fun t ht c v hv=>by have:=H8 _ ht c v hv;rw[h3]at this;exact(Option.some.inj this).symm) hu MR
     simp only[Bool.and_eq_true,beq_iff_eq,Bool.not_eq_true']at h1
     obtain⟨⟨⟨⟨h1,h4⟩,h5⟩,h6⟩,h7⟩:=h1
     subst h1
     refine DU (dD h4) h3 u1 h5 rfl (fun hG=>⟨u2,?_,h6,h7⟩) (ih h.2 (Ge H8 h3))
     obtain⟨Oz,hw⟩:=h.1 hG
     have hc:=c.ok Oz
     rw[h2]at hc
     have hp:=hc.Am
     refine⟨hp.1,fun w Pb cargs k1 k2=>?_⟩
     refine(hp.2 w Pb cargs k1 (by have:=nD _ c.args k2;rw[hw]at this;exact this)).mono ?_
     rintro e w' ⟨r,x,F,Pb',rfl,⟨H,q1,_⟩,rest⟩
     exact⟨r,x,F,Pb',rfl,by rw[q1],rest⟩
     exact h.elim
     exact h.elim
 | ex X post k ih=>
   intro gt l A K h H8
   cases l with
   | nil=>exact⟨_,h⟩
   | cons o l=>
     simp only[B6]at h
     obtain⟨⟨x,hx⟩,h⟩:=h
     exact ih x (h x hx)
 | NK r p g0 o0 sz xs k ih=>
   intro gt l A K h H8
   cases l with
   | nil=>exact⟨_,h⟩
   | cons o l=>
     simp only[B6]at h
     split at h
     exact h.elim
     rename_i hg
     exact qh hg (oF h.1 fun g o1 c=>ih g o1 c (h.2 g o1 c))
 | cu c k ih=>
   intro gt l A K h H8
   cases l with
   | nil=>exact⟨_,h⟩
   | cons o l=>
     obtain⟨dst,op,ty,pos,after,C4⟩:=o
     simp only[B6]at h
     split at h
     exact h.elim
     rename_i hg
     show D5 P N _ A _
     exact c.ok rfl h.1 fun x=>ih x (h.2 x)
 | bo k ih=>
   intro gt l A K h H8
   cases l with
   | nil=>exact⟨_,h⟩
   | cons o l=>
     obtain⟨dst,op,ty,pos,after,C4⟩:=o
     simp only[B6]at h
     split at h
     exact h.elim
     show D5 P N _ A _
     split at h
     split at h
     rename_i e e1
     split at h
     rename_i i vs e2 e3
     split at h
     rename_i e4
     simp only[Bool.and_eq_true]at e4
     exact yD rfl rfl (bn e4.1.2) e1 e2 e3 e4.1.1 (bn e4.2) fun g=>ih g (h g)
     exact h.elim
     exact h.elim
     exact h.elim
     exact h.elim
 | Vq xs g0 o0 k ih=>
   intro gt l A K h H8
   cases l with
   | nil=>exact⟨_,h⟩
   | cons o l=>
     obtain⟨dst,op,ty,pos,after,C4⟩:=o
     simp only[B6]at h
     split at h
     exact h.elim
     show D5 P N _ A _
     split at h
     split at h
     rename_i t e1 e2
     split at h
     rename_i e3 e4
     simp only[Bool.and_eq_true,beq_iff_eq]at e1
     obtain⟨⟨k1,k2,k3⟩,k4,k5,k6,k7,k8⟩:=h
     obtain⟨e,e',q1,q2,q3,q4,q5,q6⟩:=gZ e2
     exact xH rfl e1.1 rfl (bn e1.2) q1 q2 q3 (kH q4) q5 q6 e3 k1 k2 k3 e4 k4 k5 k6 k7 fun g o1 c=>ih g o1 c (k8 g o1 c)
     exact h.elim
     exact h.elim
     exact h.elim
 | sp b a1 a2 RO RN=>
   intro gt l A K h H8
   cases l with
   | nil=>exact⟨_,h⟩
   | cons o l=>
     simp only[B6]at h
     cases b with
     | true=>exact RO (h.1 rfl)
     | false=>exact RN (h.2 rfl)
 | gt k ih=>
   intro gt l A K h H8
   cases l with
   | nil=>exact⟨_,h⟩
   | cons o l=>
     obtain⟨dst,op,ty,pos,after,C4⟩:=o
     simp only[B6]at h
     split at h
     rename_i j b
     split at h
     rename_i G hG
     exact oC rfl hG (fun _=>ih h.2) (fun hf=>by rw[h.1]at hf;cases hf)
     exact h.elim
     exact h.elim
 | gf v k ih=>
   intro gt l A K h H8
   cases l with
   | nil=>exact⟨_,h⟩
   | cons o l=>
     obtain⟨dst,op,ty,pos,after,C4⟩:=o
     simp only[B6]at h
     split at h
     rename_i j b
     split at h
     rename_i G hG hd
     exact oC rfl hG (fun ht=>by rw[h.1]at ht;cases ht) (fun _=>⟨dD hd,.gv false v,fun _ _=>⟨rfl,⟨(fun hh=>Bool.noConfusion hh),fun _=>rfl⟩⟩,ih h.2⟩)
     exact h.elim
     exact h.elim
 | cl c k ih=>
   intro gt l A K h H8
   cases l with
   | nil=>exact⟨_,h⟩
   | cons o l=>
     obtain⟨dst,op,ty,pos,after,C4⟩:=o
     simp only[B6]at h
     split at h
     exact h.elim
     show D5 P N _ A _
     split at h
     split at h
     rename_i C vs e1 e2 e3
     simp only[Bool.and_eq_true,beq_iff_eq]at e1
     obtain⟨⟨rfl,e1⟩,e4⟩:=e1
     obtain⟨k1,k2,k3,k4⟩:=h
     have hc:=c.ok k3
     rw[e2]at hc
     have hp:=hc.Am
     refine En (Q:=fun r=>r=c.res) rfl (dD e1) ⟨hp.1,fun w Pb cargs q1 q2=>?_⟩ e3 k1 k2 (fun r hr=>by rw[hr];exact e4) (fun r hr=>by rw[hr];exact ih k4)
     refine(hp.2 w Pb cargs q1 q2).mono ?_
     rintro e w' ⟨r,x,F,Pb',rfl,⟨H,q,_⟩,rest⟩
     exact⟨r,x,F,Pb',rfl,q,rest⟩
     exact h.elim
     exact h.elim
 | h x k ih=>
   intro gt l A K h H8
   cases l with
   | nil=>exact⟨_,h⟩
   | cons o l=>
     simp only[B6]at h
     split at h
     exact h.elim
     rename_i hg;exact qh hg ((xN h).mono fun B hB=>ih hB)
 | ot t k ih=>
   intro gt l A K h H8
   cases l with
   | nil=>exact⟨_,h⟩
   | cons o l=>
     simp only[B6]at h
     split at h
     exact h.elim
     rename_i hg
     split at h
     rename_i e1 e2;exact qh hg (yZ (bn e1) e2 fun g o1 c=>ih g o1 c (h g o1 c))
     exact h.elim
 | oR r p k ih=>
   intro gt l A K h H8
   cases l with
   | nil=>exact⟨_,h⟩
   | cons o l=>
     simp only[B6]at h
     split at h
     exact h.elim
     rename_i hg
     split at h
     rename_i e1;exact qh hg (oF e1 fun g o1 c=>ih g o1 c (h g o1 c))
     exact h.elim
 | mv k ih=>
   intro gt l A K h H8
   cases l with
   | nil=>exact⟨_,h⟩
   | cons o l=>
     obtain⟨dst,op,ty,pos,after,C4⟩:=o
     simp only[B6]at h
     split at h
     exact h.elim
     show D5 P N _ A _
     split at h
     split at h
     rename_i e;exact zI rfl (dD e) (ih h)
     exact h.elim
     split at h
     rename_i d vs e1
     split at h
     rename_i v e2
     split at h
     rename_i e3
     simp only[Bool.and_eq_true,Bool.not_eq_true',beq_eq_false_iff_ne]at e3
     exact vA rfl rfl (bn e3.1.1.1) (bn e3.1.1.2) e3.1.2 e1 e2 e3.2 (ih h)
     exact h.elim
     exact h.elim
     exact h.elim
     split at h
     rename_i d i r p g g' e1 e2
     split at h
     rename_i g2 PK u e3
     split at h
     rename_i e4
     simp only[Bool.and_eq_true,beq_iff_eq]at e4
     obtain⟨hq,h⟩:=h
     simp only[Prod.mk.injEq]at hq
     obtain⟨rfl,rfl⟩:=hq
     exact tl rfl rfl (bn e4.1.1) e1 e2 e3 e4.1.2 e4.2 (ih h)
     exact h.elim
     exact h.elim
     exact h.elim
     exact h.elim
 | c c ks k ih=>
   intro gt l A K h H8
   cases l with
   | nil=>exact⟨_,h⟩
   | cons o l=>
     obtain⟨dst,op,ty,pos,after,C4⟩:=o
     simp only[B6]at h
     split at h
     exact h.elim
     show D5 P N _ A _
     split at h
     split at h
     rename_i vs B e1 e2
     split at h
     rename_i e3
     simp only[Bool.and_eq_true,beq_iff_eq]at e3
     obtain⟨⟨⟨⟨h1,h2⟩,h3⟩,h4⟩,h5⟩:=e3
     subst h1
     obtain⟨k1,h⟩:=h
     obtain⟨k2,k3,k4⟩:=iA h
     refine mj ks rfl e1 (dD h2) h3 h4 (c.ok k3) (by rw[e2];exact k1) (by rw[e2];exact h5) (by rw[e2];exact k2) ?_
     rintro r H' ⟨rfl,rfl⟩
     rw[e2];exact ih k4
     exact h.elim
     exact h.elim
     exact h.elim
 | cx c ks k ih=>
   intro gt l A K h H8
   cases l with
   | nil=>exact⟨_,h⟩
   | cons o l=>
     obtain⟨dst,op,ty,pos,after,C4⟩:=o
     simp only[B6]at h
     split at h
     exact h.elim
     show D5 P N _ A _
     split at h
     split at h
     rename_i vs B e1 e2
     split at h
     rename_i e3
     simp only[Bool.and_eq_true,beq_iff_eq]at e3
     obtain⟨⟨⟨⟨h1,h2⟩,h3⟩,h4⟩,h5⟩:=e3
     subst h1
     obtain⟨k1,h⟩:=h
     obtain⟨k2,k3,k4⟩:=iA h
     refine mj ks rfl e1 (dD h2) h3 h4 (c.ok k3) (by rw[e2];exact k1) (by rw[e2];exact h5) (by rw[e2];exact k2) ?_
     rintro r H' ⟨x,hx,rfl,rfl⟩
     rw[e2];exact ih x (k4 x hx)
     exact h.elim
     exact h.elim
     exact h.elim
 | al z k ih=>
   intro gt l A K h H8
   cases l with
   | nil=>exact⟨_,h⟩
   | cons o l=>
     obtain⟨dst,op,ty,pos,after,C4⟩:=o
     simp only[B6]at h
     split at h
     exact h.elim
     show D5 P N _ A _
     split at h
     split at h
     rename_i e
     simp only[Bool.and_eq_true,beq_iff_eq]at e
     obtain⟨rfl,e⟩:=e
     exact pF rfl rfl (bn e) z.ok fun g=>ih g (h g)
     exact h.elim
     exact h.elim
 | bx k ih=>
   intro gt l A K h H8
   cases l with
   | nil=>exact⟨_,h⟩
   | cons o l=>
     obtain⟨dst,op,ty,pos,after,C4⟩:=o
     simp only[B6]at h
     split at h
     exact h.elim
     show D5 P N _ A _
     split at h
     split at h
     rename_i e
     simp only[Bool.and_eq_true]at e
     exact GR rfl rfl (bn e.1) e.2 fun g=>ih g (h g)
     exact h.elim
     exact h.elim
 | st Pm k ih=>
   intro gt l A K h H8
   cases l with
   | nil=>exact⟨_,h⟩
   | cons o l=>
     obtain⟨dst,op,ty,pos,after,C4⟩:=o
     simp only[B6]at h
     split at h
     exact h.elim
     show D5 P N _ A _
     split at h
     split at h
     rename_i i r p g g' e1 e2
     split at h
     split at h
     rename_i g2 PK u e3
     split at h
     rename_i e4
     simp only[Bool.and_eq_true,beq_iff_eq]at e4
     obtain⟨hq,h⟩:=h
     simp only[Prod.mk.injEq]at hq
     obtain⟨rfl,rfl⟩:=hq
     exact uL rfl rfl e1 e2 e3 e4.1.1 e4.1.2 e4.2 (ih h)
     exact h.elim
     exact h.elim
     split at h
     rename_i u e4
     simp only[Bool.and_eq_true,beq_iff_eq]at e4
     exact uL rfl rfl e1 e2 h.1 e4.1.1 e4.1.2 e4.2 (ih h.2)
     exact h.elim
     exact h.elim
     exact h.elim
 | ap k ih=>
   intro gt l A K h H8
   cases l with
   | nil=>exact⟨_,h⟩
   | cons o l=>
     obtain⟨dst,op,ty,pos,after,C4⟩:=o
     simp only[B6]at h
     split at h
     exact h.elim
     show D5 P N _ A _
     split at h
     split at h
     rename_i t e1 e2
     split at h
     rename_i e3 e4
     simp only[Bool.and_eq_true,beq_iff_eq]at e1
     obtain⟨k1,k2,k3,k4,k5,k6⟩:=h
     obtain⟨e,e',q1,q2,q3,q4,q5,q6⟩:=gZ e2
     exact yr rfl e1.1 rfl (bn e1.2) q1 q2 q3 (kH q4) q5 q6 e3 k1 e4 k2 k3 k4 k5 fun g o1 c=>ih g o1 c (k6 g o1 c)
     rename_i e3 e4
     split at h
     rename_i e5
     simp only[Bool.and_eq_true,beq_iff_eq]at e1
     obtain⟨k1,k2,k3,k4,k5,k6⟩:=h
     obtain⟨e,e',q1,q2,q3,q4,q5,q6⟩:=gZ e2
     exact xa rfl e1.1 rfl (bn e1.2) q1 q2 q3 (kH q4) q5 q6 e5 k1.1 k1.2 e4 k2 k3 k4 k5 fun g o1 c=>ih g o1 c (k6 g o1 c)
     exact h.elim
     exact h.elim
     exact h.elim
     exact h.elim
 | bd z k ih=>
   intro gt l A K h H8
   cases l with
   | nil=>exact⟨_,h⟩
   | cons o l=>
     obtain⟨dst,op,ty,pos,after,C4⟩:=o
     simp only[B6]at h
     split at h
     exact h.elim
     split at h
     split at h
     rename_i zs e1 e2
     split at h
     rename_i v e3
     simp only[Bool.and_eq_true,beq_iff_eq]at e1
     obtain⟨rfl,e1⟩:=e1
     have hz:=z.ok
     rw[e2]at hz
     exact Di zs v hz (dD e1) e3 (ih h)
     exact h.elim
     exact h.elim
     exact h.elim
 | bs k ih=>
   intro gt l A K h H8
   cases l with
   | nil=>exact⟨_,h⟩
   | cons o l=>
     obtain⟨dst,op,ty,pos,after,C4⟩:=o
     simp only[B6]at h
     split at h
     exact h.elim
     split at h
     split at h
     rename_i e e1
     split at h
     rename_i i vs e2 e3
     split at h
     rename_i e4
     simp only[Bool.and_eq_true]at e4
     exact vC e i vs ⟨e1,e2⟩ (dD e4.2) e3 e4.1 (ih h)
     exact h.elim
     exact h.elim
     exact h.elim
     exact h.elim
 | Kg bs k ih=>
   intro gt l A K h H8
   cases l with
   | nil=>exact⟨_,h⟩
   | cons o l=>
     obtain⟨dst,op,ty,pos,after,C4⟩:=o
     simp only[B6]at h
     split at h
     exact h.elim
     split at h
     split at h
     rename_i C ys e1 e2
     simp only[Bool.and_eq_true]at e1
     obtain⟨hC,rfl,h⟩:=h
     obtain⟨e,q1,q2⟩:=uk e1.1.1
     exact yj e C bs ⟨q1,q2,rv e1.1.2⟩ (dD e1.2) e2 hC (ih h)
     exact h.elim
     exact h.elim
 | sb bs k ih=>
   intro gt l A K h H8
   cases l with
   | nil=>exact⟨_,h⟩
   | cons o l=>
     obtain⟨dst,op,ty,pos,after,C4⟩:=o
     simp only[B6]at h
     split at h
     exact h.elim
     split at h
     split at h
     rename_i e1
     simp only[Bool.and_eq_true]at e1
     obtain⟨e,q1,q2⟩:=uk e1.1.2
     exact yd e bs ⟨rv e1.1.1,q1,q2⟩ (bn e1.2) h.1 fun g c=>ih g c (h.2 g c)
     exact h.elim
     exact h.elim
 | mm k ih=>
   intro gt l A K h H8
   cases l with
   | nil=>exact⟨_,h⟩
   | cons o l=>
     obtain⟨dst,op,ty,pos,after,C4⟩:=o
     simp only[B6]at h
     split at h
     exact h.elim
     split at h
     split at h
     rename_i kd p Oi q e1 e2 e3
     obtain⟨rfl,h⟩:=h
     exact Ho _ p q (dD e3) e1 e2 (ih h)
     rename_i kd p Oi q e1 e2 e3
     obtain⟨rfl,h⟩:=h
     exact HA _ p q (dD e3) e1 e2 (ih h)
     exact h.elim
     exact h.elim
 | rs k ih=>
   intro gt l A K h H8
   cases l with
   | nil=>exact⟨_,h⟩
   | cons o l=>
     obtain⟨dst,op,ty,pos,after,C4⟩:=o
     simp only[B6]at h
     split at h
     exact h.elim
     split at h
     split at h
     rename_i e1 e2 e3
     obtain⟨hq,⟨h1,h2,h3⟩,h⟩:=h
     simp only[Prod.mk.injEq]at hq
     obtain⟨rfl,rfl,rfl,rfl⟩:=hq
     exact zX _ _ _ _ (bn e3) e1 e2 h1 h2 h3 (ih h)
     exact h.elim
     exact h.elim
 | _=>
   intro gt l A K h H8
   cases l with
   | nil=>exact⟨_,h⟩
   | cons o l=>simp only[B6]at h;split at h <;> exact h.elim
end
end Go.Abs
namespace Go.Abs
open Go Go.RowKit
section
variable {P:Program} {N:Nat} {ops:Array Oper} {A A' A1 B:AS}
def mw(P:Program)(N:Nat)(ops:Array Oper)(o:Oper)(A:AS)(v:V):Prop:=
 ∀ A':AS,(∀ t,t∈o.looksAt ops->A'.get t=A.get t)->gd ops o A' (D5 P N o A' (fun B=>B8 B (A'.put o.dst v))) (bX N o.dst/\∀ w Pb,RV w Pb v undef [])
theorem xf{o:Oper}{x:Operand}(hg:o.guard=none)(ho:o.op=.assign x)(hd:bX N o.dst)(hn:(A.ev x).cB=false):mw P N ops o A (A.ev x):=by
 intro A' h1
 unfold gd
 rw[hg]
 simp only
 have e1:A'.ev x=A.ev x:=bg fun t ht=>h1 t (dN (by rw[ho,ht];simp[Op.operands]))
 have e2:A'.drop x=A':=by
  cases x with
  | tmp t=>
    have e3:A'.get t=A.get t:=e1
    have NC:(A.get t).cB=false:=hn
    simp[AS.drop,e3,NC]
  | _=>rfl
 rw[<- e1]
 refine tv ho hd ?_
 rw[e2]
 exact⟨fun _=>rfl,fun _=>rfl⟩
theorem Ax{d:Option Nat} {f:FuncId} {xs:Array Operand} {J6:Array TypeId} {ty:TypeId} {pos:String} {after:Array Edge}
 {Q:V->Prop} {E:V} (hd:bX N d) (hc:PC P f (xs.toList.map A.cp) Q) (hE:∀ r,Q r->r.er=E):
 mw P N ops ⟨d,.call { callee:=.value (.func f),args:=xs,argTypes:=J6 },ty,pos,after,none⟩ A E:=fun A' h1=>by
 unfold gd
 refine mL rfl hd ?_ hE ⟨fun _=>rfl,fun _=>rfl⟩
 rw[pq fun t ht=>h1 t (dN (by simp[Op.operands,Call.operands];simpa using ht))]
 exact hc
theorem rP{d:Option Nat} {T len ty:Nat} {b7:Array (Nat×Operand)} {pos:String} {after:Array Edge} (e:Nat) (i:TI) (vs:List V)
 (Oo:tD P T=some (.sl e)/\ti P e=some i) (hd:bX N d) (On:dY A 0 b7.toList=some vs) (hB:Pf P T e len i vs=true):
 mw P N ops ⟨d,.buildSlice T len b7,ty,pos,after,none⟩ A (.sl true vs):=fun A' h1=>by
 show D5 P N _ A' _
 refine Bg rfl hd Oo.1 Oo.2 ?_ hB ⟨fun _=>rfl,fun _=>rfl⟩
 rw[mJ (A:=A) _ _ (fun t ht=>h1 t (dN (by simpa[Op.operands] using ht)))]
 exact On
theorem xV{d:Option Nat} {T ty:Nat} {b7:Array (Nat×Operand)} {pos:String} {after:Array Edge} (zs:List V) (v:V)
 (hz:lH P T (.agg zs)) (hd:bX N d) (hb:kG P A T zs b7.toList=some v):mw P N ops ⟨d,.build T b7,ty,pos,after,none⟩ A v:=fun A' h1=>by
 show D5 P N _ A' _
 have e:kG P A' T zs b7.toList=some v:=by
  rw[<- hb]
  unfold kG
  have:(b7.toList.map fun (i,x)=>(i,A'.cp x))=b7.toList.map fun (i,x)=>(i,A.cp x):=by
   apply List.map_congr_left
   rintro⟨i,x⟩ hx
   simp only
   rw[jQ (x:=x) fun t ht=>h1 t (dN (by
    subst ht
    simp only[Op.operands,List.mem_map]
    exact⟨(i,.tmp t),hx,rfl⟩))]
  rw[this]
 obtain⟨C,k1,k2⟩:=vb e
 exact uW rfl hd hz k1 k2 ⟨fun _=>rfl,fun _=>rfl⟩
theorem ub{d:Option Nat} {src dst ty:Nat} {x:Operand} {pos:String} {after:Array Edge} (e:Nat) (full:Bool) (bs:BL)
 (ht:tD P src=some (.sl e)/\tD P e=some (.int .u8)/\tD P dst=some .str) (hd:bX N d) (hx:A.ev x=.sl full (bs.map n7)):
 mw P N ops ⟨d,.convert src dst x,ty,pos,after,none⟩ A (sV bs):=fun A' h1=>by
 show D5 P N _ A' _
 have e1:A'.ev x=.sl full (bs.map n7):=by rw[<- hx];exact bg fun t ht=>h1 t (dN (by rw[ht];simp[Op.operands]))
 exact pN rfl hd ht.1 ht.2.1 ht.2.2 (C:=True) (by simp only[LZ,e1]) trivial ⟨fun _=>rfl,fun _=>rfl⟩
def gF(b:Option (Sum Nat (Nat×List Nat)))(B:AS):AS:=match b with
 | none=>B
 | some (.inl t)=>B.put (some t) .b9
 | some (.inr (k,p))=>B.setAt (.key k) p .b9
def Sb(A:AS)(s:Operand)(sz:Nat):Option (Prop×Option (Sum Nat (Nat×List Nat))×List V):=
 match s with
 | .const (.slice none 0 0)=>some (True,none,[])
 | .tmp t=>match A.get t with
   | .sl true []=>some (True,none,[])
   | .own I2 xs _ _ _=>some (I2=sz,some (.inl t),xs)
   | .hd (.slot i) [] I2 g o 0 n c=>match A.get i with
     | .own KJ xs g2 o2 c2=>some ((I2,KJ,g2,o2,c2,n)=(sz,sz,g,o,c,xs.length),some (.inl i),xs)
     | _=>none
   | .hd (.key k) p I2 g o 0 n c=>match A.at (.key k) p with
     | some (_,_,.own KJ xs g2 o2 c2)=>some ((I2,KJ,g2,o2,c2,n)=(sz,sz,g,o,c,xs.length),some (.inr (k,p)),xs)
     | _=>none
   | _=>none
 | _=>none
theorem FX{s:Operand}{sz:Nat}{C:Prop}{b:Option (Sum Nat (Nat×List Nat))}{xs:List V}(h:Sb A s sz=some (C,b,xs)):Sd A s sz=some (C,gF b A,xs):=by
 have fin:∀ {C':Prop} {b':Option (Sum Nat (Nat×List Nat))} {xs':List V},some (C',b',xs')=some (C,b,xs)->some (C',gF b' A,xs')=some (C,gF b A,xs):=fun h=>by
  have h:=Option.some.inj h;have h1:=(Prod.mk.inj h).1;have h2:=(Prod.mk.inj (Prod.mk.inj h).2).1;have h3:=(Prod.mk.inj (Prod.mk.inj h).2).2;rw[h1,h2,h3]
 unfold Sb at h
 unfold Sd
 split at h
 exact fin h
 split at h
 rename_i e;(try simp only[e]);exact fin h
 rename_i e;(try simp only[e]);exact fin h
 rename_i e;(try simp only[e])
 split at h
 rename_i e2;(try simp only[e2]);exact fin h
 simp at h
 rename_i e;(try simp only[e])
 split at h
 rename_i e2;(try simp only[e2]);exact fin h
 simp at h
 simp at h
 simp at h
def nu(s:Operand)(Sl El Hl:List Nat):Option (Sum Nat (Nat×List Nat))->Bool
 | none=>true
 | some (.inl t)=>Sl.contains t&&(match s with | .tmp q=>q==t||El.contains t | _=>false)
 | some (.inr (k,_))=>Hl.contains k
theorem CC{s:Operand} {sz:Nat} {C:Prop} {b:Option (Sum Nat (Nat×List Nat))} {xs:List V} {Sl El Hl:List Nat} (h:Sb A s sz=some (C,b,xs)) (hb:nu s Sl El Hl b=true)
 (h1:∀ t,s=.tmp t->A'.get t=A.get t) (h2:∀ t,t∈El->A'.get t=A.get t) (h3:∀ k,lk k A'.h=lk k A.h):Sb A' s sz=some (C,b,xs):=by
 unfold Sb at h ⊢
 split at h
 exact h
 rename_i t
 have hg:=h1 t rfl
 have hk:∀ k p,A'.at (.key k) p=A.at (.key k) p:=fun k p=>by simp only[AS.at,h3]
 simp only[hg,hk]
 split at h
 exact h
 exact h
 rename_i i I2 g o n c e
 split at h
 rename_i KJ xs2 g2 o2 c2 e2
 have:A'.get i=A.get i:=by
  simp only[Option.some.injEq]at h
  obtain⟨_,h⟩:=Prod.mk.inj h;obtain⟨rfl,_⟩:=Prod.mk.inj h
  simp only[nu,Bool.and_eq_true,Bool.or_eq_true,beq_iff_eq]at hb
  rcases hb.2 with q | q
  rw[<- q];exact hg
  exact h2 i (by simpa using q)
 simp only[this,e2];exact h
 simp at h
 exact h
 simp at h
 simp at h
def Ac(P:Program)(N:Nat)(Sl El Hl:List Nat)(o:Oper)(A:AS)(z:Option (ZT P)):Option (Prop×(Nat×Nat×Nat->AS->AS)):=
 match o.op,o.dst with
 | .alloc T,some d=>match z with
   | some z=>match T==z.T&&Nat.blt d N&&Sl.contains d&&Hl.contains d with
     | true=>some (True,fun gh B=>⟨(d,.ptr (.key d) [] gh.1 0)::B.t,(d,(gh.1,z.v))::B.h⟩)
     | false=>none
   | none=>none
 | .call ⟨.builtin .append,⟨[s,x]⟩,⟨[T,T2]⟩⟩,some d=>match o.type==T&&Nat.blt d N&&Sl.contains d,lA P T T2 with
   | true,some t=>match Sb A s t.sz,A.ev x with
     | some (C,b,xs),.sl _ ys=>match nu s Sl El Hl b with
       | true=>some (C/\V.aD ys=false/\aG t.sz ys/\(xs.length+ys.length)*t.Kg<=140737488355328,fun gh B=>(gF b B).put (some d) (.own t.sz (xs++ys) gh.1 gh.2.1 gh.2.2))
       | false=>none
     | none,.sl _ ys=>match Rz A s t.sz with
       | some (C,xs)=>some ((C/\0<ys.length)/\V.aD ys=false/\aG t.sz ys/\(xs.length+ys.length)*t.Kg<=140737488355328,fun gh B=>B.put (some d) (.own t.sz (xs++ys) gh.1 gh.2.1 gh.2.2))
       | none=>none
     | _,_=>none
   | _,_=>none
 | .load T x,some d=>match ti P T,A.ev x with
   | some i,.ptr (.key k) p g g'=>match A.at (.key k) p with
     | some (g2,PK,u)=>match Nat.blt d N&&u.n==i.sz&&i.d.agg==u.isAgg&&Sl.contains d&&Hl.contains k with
       | true=>some ((g2,PK)=(g,g'),fun _ B=>(B.setAt (.key k) p u.kill).put (some d) u)
       | false=>none
     | none=>none
   | _,_=>none
 | _,_=>none
theorem bI{k:Nat}{p:List Nat}{v:V}{t:Nat}:(B.setAt (.key k) p v).get t=B.get t:=by
 simp only[AS.setAt];split <;> rfl
theorem rD{k q:Nat}{p:List Nat}{v:V}(h:q≠k):lk q (B.setAt (.key k) p v).h=lk q B.h:=by
 simp only[AS.setAt];split
 simp only[lk];rw[if_neg h]
 rfl
theorem gx{k q:Nat}{p:List Nat}{v:V}{B':AS}(h:∀ k,lk k B.h=lk k B'.h):lk q (B.setAt (.key k) p v).h=lk q (B'.setAt (.key k) p v).h:=by
 simp only[AS.setAt]
 rw[<- h k]
 split
 simp only[lk];split
 rfl
 exact h q
 exact h q
theorem lv{B C:AS}{d:Option Nat}{v:V}(h:B8 B C):B8 (B.put d v) (C.put d v):=by
 cases d with
 | none=>exact h
 | some d'=>exact⟨fun t=>by rw[AS.ay,AS.ay];split
                            rfl
                            exact h.1 t,h.2⟩
theorem oo{k k0:Nat}{p:List Nat}{v:V}{gv:Nat×V}(h:k≠k0):B8 (AS.setAt ⟨B.t,(k,gv)::B.h⟩ (.key k0) p v) ⟨(B.setAt (.key k0) p v).t,(k,gv)::(B.setAt (.key k0) p v).h⟩:=by
 have e:lk k0 ((k,gv)::B.h)=lk k0 B.h:=by simp only[lk];rw[if_neg (Ne.symm h)]
 simp only[AS.setAt,e]
 split
 refine⟨fun _=>rfl,fun x=>?_⟩
 simp only[lk]
 by_cases c:x=k
 rw[if_pos c,if_neg (fun c2=>h (c.symm.trans c2)),if_pos c]
 rw[if_neg c,if_neg c]
 exact⟨fun _=>rfl,fun _=>rfl⟩
theorem qZ{A B:AS}{k:Nat}{gv:Nat×V}{d:Nat}{v:V}(h:B8 A ⟨B.t,(k,gv)::B.h⟩):B8 (A.put (some d) v) ⟨(B.put (some d) v).t,(k,gv)::(B.put (some d) v).h⟩:=lv h
theorem GB{Sl El Hl:List Nat}{o:Oper}{z:Option (ZT P)}{C:Prop}{U:Nat×Nat×Nat->AS->AS}(h:Ac P N Sl El Hl o A z=some (C,U))(hC:C)(d:Nat)(hd:o.dst=some d):
 UOk U Sl Hl d/\IX P N ops El U o A:=by
 obtain⟨dst,op,ty,pos,after,C4⟩:=o
 simp only at hd;subst hd
 unfold Ac at h
 simp only at h
 split at h
 rename_i T d' e
 simp only[Option.some.injEq]at e;subst e
 split at h
 rename_i z
 split at h
 rename_i e
 simp only[Option.some.injEq,Prod.mk.injEq]at h
 obtain⟨_,rfl⟩:=h
 simp only[Bool.and_eq_true,beq_iff_eq,List.contains_eq_mem,decide_eq_true_eq]at e
 obtain⟨⟨⟨rfl,e1⟩,e2⟩,e3⟩:=e
 refine⟨⟨fun gh B t ht=>?_,fun gh B k hk=>?_,fun gh B B' hB=>⟨fun t=>?_,fun k=>?_⟩,fun gh B t v ht=>⟨fun q=>?_,fun k=>rfl⟩,fun gh B v=>⟨fun q=>?_,fun k=>rfl⟩,fun gh B k gv hq=>?_⟩,fun A' _ _ K hK=>?_⟩
 simp only[AS.get,lk];rw[if_neg (fun c=>ht (by rw[c];exact e2))]
 simp only[lk];rw[if_neg (fun c=>hk (by rw[c];exact e3))]
 simp only[AS.get,lk];split
 rfl
 exact hB.1 t
 simp only[lk];split
 rfl
 exact hB.2 k
 simp only[AS.put,AS.get,lk]
 by_cases c:q=d
 subst c;rw[if_pos rfl,if_neg (fun c=>ht (by rw[<- c];exact e2)),if_pos rfl]
 rw[if_neg c,if_neg c]
 simp only[AS.put,AS.get,lk]
 by_cases c:q=d
 subst c;simp
 rw[if_neg c,if_neg c,if_neg c]
 refine⟨fun _=>rfl,fun x=>?_⟩
 simp only[lk]
 by_cases c:x=d
 rw[if_pos c,if_neg (fun c2=>hq (by rw[<- c2,c];exact e3)),if_pos c]
 rw[if_neg c,if_neg c]
 exact pF rfl rfl (bn e1) z.ok fun g=>hK (g,0,0)
 simp at h
 simp at h
 rename_i s x T T2 d' e
 simp only[Option.some.injEq]at e;subst e
 split at h
 rename_i t e1 e2
 split at h
 rename_i Cb b xs fl ys e3 e4
 split at h
 rename_i e5
 simp only[Option.some.injEq,Prod.mk.injEq]at h
 obtain⟨rfl,rfl⟩:=h
 simp only[Bool.and_eq_true,beq_iff_eq,List.contains_eq_mem,decide_eq_true_eq]at e1
 obtain⟨⟨rfl,e1⟩,e6⟩:=e1
 obtain⟨k1,k3,k4,k5⟩:=hC
 have tg:∀ (B:AS) t,t ∉ Sl->(gF b B).get t=B.get t:=fun B t ht=>by
  cases b with
  | none=>rfl
  | some b=>cases b with
    | inl q=>
      simp only[nu,Bool.and_eq_true,List.contains_eq_mem,decide_eq_true_eq]at e5
      simp only[gF];rw[AS.ay,if_neg (fun c=>ht (by rw[c];exact e5.1))]
    | inr kp=>simp only[gF];exact bI
 have T9:∀ (B B':AS) t,B.get t=B'.get t->(gF b B).get t=(gF b B').get t:=fun B B' t ht=>by
  cases b with
  | none=>exact ht
  | some b=>cases b with
    | inl q=>simp only[gF];rw[AS.ay,AS.ay,ht]
    | inr kp=>simp only[gF];rw[bI,bI];exact ht
 have th:∀ (B B':AS) k,(∀ k,lk k B.h=lk k B'.h)->lk k (gF b B).h=lk k (gF b B').h:=fun B B' k hk=>by
  cases b with
  | none=>exact hk k
  | some b=>cases b with
    | inl q=>exact hk k
    | inr kp=>exact gx hk
 refine⟨⟨fun gh B q hq=>?_,fun gh B k hk=>?_,fun gh B B' hB=>?_,fun gh B q v hq=>⟨fun q2=>?_,fun k=>th _ _ k fun _=>rfl⟩,fun gh B v=>⟨fun q=>?_,fun k=>th _ _ k fun _=>rfl⟩,fun gh B k gv hq=>?_⟩,fun A' h1 h2 K hK=>?_⟩
 rw[AS.ay,if_neg (fun c=>hq (by rw[c];exact e6))];exact tg B q hq
 show lk k (gF b B).h=_
 cases b with
 | none=>rfl
 | some b=>cases b with
   | inl q=>rfl
   | inr kp=>
     obtain⟨k0,p0⟩:=kp
     simp only[nu,List.contains_eq_mem,decide_eq_true_eq]at e5
     exact rD (fun c=>hk (by rw[c];exact e5))
 exact lv ⟨fun q=>T9 _ _ q (hB.1 q),fun k=>th _ _ k hB.2⟩
 rw[AS.ay,AS.ay,AS.ay]
 by_cases c:q2=d
 subst c;rw[if_pos rfl,if_neg (fun c=>hq (by rw[<- c];exact e6)),if_pos rfl]
 rw[if_neg c]
 by_cases c2:q2=q
 subst c2;rw[if_pos rfl,tg _ _ hq,AS.ay,if_pos rfl]
 rw[if_neg c2,if_neg c];exact T9 _ _ _ (by rw[AS.ay,if_neg c2])
 rw[AS.ay,AS.ay]
 by_cases c:q=d
 rw[if_pos c,if_pos c]
 rw[if_neg c,if_neg c];exact T9 _ _ _ (by rw[AS.ay,if_neg c])
 refine qZ ?_
 cases b with
 | none=>exact⟨fun _=>rfl,fun _=>rfl⟩
 | some b=>cases b with
   | inl q=>exact⟨fun _=>rfl,fun _=>rfl⟩
   | inr kp=>
     obtain⟨k0,p0⟩:=kp
     simp only[nu,List.contains_eq_mem,decide_eq_true_eq]at e5
     exact oo (fun c=>hq (by rw[c];exact e5))
 obtain⟨e,e',q1,q2,q3,q4,q5,q6⟩:=gZ e2
 have hs:∀ t,s=.tmp t->A'.get t=A.get t:=fun t ht=>h1 t (.inl (dN (by subst ht;simp[Op.operands,Call.operands])))
 have hx:A'.ev x=A.ev x:=bg fun t ht=>h1 t (.inl (dN (by subst ht;simp[Op.operands,Call.operands])))
 have NQ:=FX (CC e3 e5 hs (fun t ht=>h1 t (.inr ht)) h2)
 exact yr rfl rfl rfl (bn e1) q1 q2 q3 (kH q4) q5 q6 NQ k1 (by unfold LZ;rw[hx,e4]) trivial k3 k4 k5 fun g o1 c=>hK (g,o1,c)
 simp at h
 rename_i fl ys e3 e4
 split at h
 rename_i C0 xs e5
 simp only[Option.some.injEq,Prod.mk.injEq]at h
 obtain⟨rfl,rfl⟩:=h
 simp only[Bool.and_eq_true,beq_iff_eq,List.contains_eq_mem,decide_eq_true_eq]at e1
 obtain⟨⟨rfl,e1⟩,e6⟩:=e1
 obtain⟨⟨k1,k2⟩,k3,k4,k5⟩:=hC
 refine⟨⟨fun gh B q hq=>?_,fun gh B k hk=>rfl,fun gh B B' hB=>lv hB,fun gh B q v hq=>⟨fun q2=>?_,fun k=>rfl⟩,fun gh B v=>⟨fun q=>?_,fun k=>rfl⟩,fun gh B k gv hq=>⟨fun _=>rfl,fun _=>rfl⟩⟩,fun A' h1 h2 K hK=>?_⟩
 rw[AS.ay,if_neg (fun c=>hq (by rw[c];exact e6))]
 rw[AS.ay,AS.ay,AS.ay,AS.ay]
 by_cases c:q2=d
 subst c;rw[if_pos rfl,if_neg (fun c=>hq (by rw[<- c];exact e6)),if_pos rfl]
 rw[if_neg c,if_neg c]
 rw[AS.ay,AS.ay,AS.ay]
 split <;> rfl
 obtain⟨e,e',q1,q2,q3,q4,q5,q6⟩:=gZ e2
 have hs:Rz A' s t.sz=Rz A s t.sz:=by
  cases s with
  | tmp q=>simp only[Rz,h1 q (.inl (dN (by simp[Op.operands,Call.operands])))]
  | _=>rfl
 have hx:A'.ev x=A.ev x:=bg fun t ht=>h1 t (.inl (dN (by subst ht;simp[Op.operands,Call.operands])))
 exact xa rfl rfl rfl (bn e1) q1 q2 q3 (kH q4) q5 q6 (by rw[hs];exact e5) k1 k2 (by unfold LZ;rw[hx,e4]) trivial k3 k4 k5 fun g o1 c=>hK (g,o1,c)
 simp at h
 simp at h
 simp at h
 rename_i T x d' e
 simp only[Option.some.injEq]at e;subst e
 split at h
 rename_i i k p g g' e1 e2
 split at h
 rename_i g2 PK u e3
 split at h
 rename_i e4
 simp only[Option.some.injEq]at h
 obtain⟨hq,rfl⟩:=Prod.mk.inj h
 subst hq
 obtain⟨rfl,rfl⟩:=Prod.mk.inj hC
 simp only[Bool.and_eq_true,beq_iff_eq,List.contains_eq_mem,decide_eq_true_eq]at e4
 obtain⟨⟨⟨⟨e4,e5⟩,e6⟩,e7⟩,e8⟩:=e4
 refine⟨⟨fun gh B q hq=>?_,fun gh B q hq=>?_,fun gh B B' hB=>?_,fun gh B q v hq=>⟨fun q2=>?_,fun k=>gx fun _=>rfl⟩,fun gh B v=>⟨fun q=>?_,fun k=>gx fun _=>rfl⟩,fun gh B k gv hq=>qZ (oo (fun c=>hq (by rw[c];exact e8)))⟩,fun A' h1 h2 K hK=>?_⟩
 rw[AS.ay,if_neg (fun c=>hq (by rw[c];exact e7))];exact bI
 exact rD (fun c=>hq (by rw[c];exact e8))
 exact lv ⟨fun q=>by rw[bI,bI];exact hB.1 q,fun k=>gx hB.2⟩
 rw[AS.ay,AS.ay,AS.ay]
 by_cases c:q2=d
 subst c;rw[if_pos rfl,if_neg (fun c=>hq (by rw[<- c];exact e7)),if_pos rfl]
 rw[if_neg c]
 by_cases c2:q2=q
 subst c2;rw[if_pos rfl,bI,AS.ay,if_pos rfl]
 rw[if_neg c2,if_neg c,bI,bI,AS.ay,if_neg c2]
 rw[AS.ay,AS.ay]
 by_cases c:q=d
 rw[if_pos c,if_pos c]
 rw[if_neg c,if_neg c,bI,bI,AS.ay,if_neg c]
 have hx:A'.ev x=A.ev x:=bg fun t ht=>h1 t (.inl (dN (by subst ht;simp[Op.operands])))
 exact tl rfl rfl (bn e4) e1 (by rw[hx];exact e2) (by simp only[AS.at,h2];simpa only[AS.at] using e3) e5 e6 (hK (0,0,0))
 simp at h
 simp at h
 simp at h
 simp at h
end
end Go.Abs
namespace Go.Abs
open Go Go.RowKit
section
variable {P:Program} {N:Nat} {ops:Array Oper} {A A' A1 B:AS} {sp:Nat} {Sl El Hl:List Nat} {U:Nat×Nat×Nat->AS->AS}
theorem GY{d:Option Nat}{xs:Array Operand}{J6:Array TypeId}{ty:TypeId}{pos:String}{after:Array Edge}(c:r5 P)(hd:bX N d)(hH:c.H=[])(k1:KU (xs.toList.map A.cp) c.args=c.args)(k2:c.pre):
 mw P N ops ⟨d,.call { callee:=.value (.func c.f),args:=xs,argTypes:=J6 },ty,pos,after,none⟩ A c.res.er:=by
 have hc:=c.ok k2
 rw[hH]at hc
 have hp:=hc.Am
 refine Ax (Q:=fun r=>r=c.res) hd ?_ (fun r hr=>by rw[hr])
 refine⟨hp.1,fun w Pb cargs q1 q2=>?_⟩
 refine(hp.2 w Pb cargs q1 (by have:=nD _ c.args q2;rw[k1]at this;exact this)).mono ?_
 rintro e w' ⟨r,x,F,Pb',rfl,⟨H,q,_⟩,rest⟩
 exact⟨r,x,F,Pb',rfl,q,rest⟩
end
end Go.Abs
namespace Go.Abs
open Go Go.RowKit
def V5(A:AS)(l:List Nat)(k:Nat):List Nat->Bool
 | [i]=>Nat.blt i 100&&l.contains (hM+(100*k+i))&&(Ku A.h (100*k+i)).isSome
 | _=>false
def Ss(Hl prom:List Nat):Bool:=Hl.all fun x=>Nat.blt x hM||prom.contains (x-hM)
theorem sx{Hl prom:List Nat}{q:Nat}(h:Ss Hl prom=true)(hq:hM+q∈Hl):q∈prom:=by
 have:=List.all_eq_true.1 h _ hq
 rw[Bool.or_eq_true]at this
 rcases this with h | h
 exfalso
 have:hM+q<hM:=by simpa[Nat.blt_eq] using h
 omega
 rw[Nat.add_sub_cancel_left]at h
 simpa using h
def AI(a b:List Nat):Bool:=a.all fun x=>b.contains x&&Nat.blt x hM
theorem FD{a b:List Nat}{A A':AS}(h:AI a b=true)(h2:PN A' A (some b)):∀ k,k∈a->lk k A'.h=lk k A.h:=fun k hk=>by
 have:=List.all_eq_true.1 h k hk
 rw[Bool.and_eq_true]at this
 have h3:=h2 k (by simpa using this.1)
 unfold Ns at h3
 rw[if_pos this.2]at h3
 exact h3
theorem CN{A:AS}{k i g o n:Nat}{v:V}(h:Ku A.h (100*k+i)=some (g,o,v,n))(hi:i<100):∃ sz xs g1 o1 c,v=.own sz [] g1 o1 c/\n=xs.length/\A.at (.key k) [i]=some (g,o,.own sz xs g1 o1 c):=by
 unfold Ku at h
 rw[show (100*k+i) / 100=k from by omega,show (100*k+i) % 100=i from by omega]at h
 split at h
 rename_i g0 v0 e
 split at h
 rename_i g' o' sz xs g1 o1 c e2
 simp only[Option.some.injEq,Prod.mk.injEq]at h
 obtain⟨rfl,rfl,rfl,rfl⟩:=h
 exact⟨sz,xs,g1,o1,c,rfl,rfl,by simp only[AS.at,e,e2]⟩
 cases h
 cases h
theorem Gt{A A':AS}{k i g o:Nat}{T:TI}(h:Ku A'.h (100*k+i)=Ku A.h (100*k+i))(hi:i<100)(hs:(Ku A.h (100*k+i)).isSome=true):
 jF A' (some T) (.ptr (.key k) [i] g o)=jF A (some T) (.ptr (.key k) [i] g o):=by
 obtain⟨⟨g1,o1,v,n⟩,e⟩:=Option.isSome_iff_exists.1 hs
 obtain⟨sz,xs,g2,o2,c,rfl,rfl,e1⟩:=CN e hi
 obtain⟨I2,xs',PK,o2',c',h1,h2,e2⟩:=CN (h.trans e) hi
 cases h1
 simp only[jF,e1,e2,V.NG,h2,V.n,V.isAgg]
def kY(El:List Nat)(fr:Option (List Nat))(A:AS):Op->Bool
 | .load _ x=>match A.ev x with
   | .ptr (.slot i) _ _ _=>El.contains i
   | .ptr (.key k) p _ _=>match fr with
     | none=>true
     | some l=>(Nat.blt k hM&&l.contains k)||V5 A l k p
   | _=>true
 | _=>true
def ew(A:AS):List Operand->List Nat
 | []=>[]
 | x::xs=>match x with
   | .tmp t=>match (A.get t).cB with
     | true=>t::ew (A.drop x) xs
     | false=>ew (A.drop x) xs
   | _=>ew (A.drop x) xs
def iJ(ts:List Nat)(A:AS):AS:=⟨ts.map (fun t=>(t,V.b9))++A.t,A.h⟩
def sub(a b:List Nat):Bool:=a.all fun x=>b.contains x
def tK(ops:Array Oper)(tb:List (Nat×M')){P:Program}(zs:List (Nat×ZT P))(i:Nat)(o:Oper):Bool:=
 (lk i zs).isNone&&!(aY ops tb i).Tn&&(aY ops tb i).Sl==o.dst.toList&&(aY ops tb i).Hl==[]
def lR(P:Program)(N:Nat)(ops:Array Oper)(tb:List (Nat×M'))(zs:List (Nat×ZT P)):Nat->List Nat->List V->AS->Option (Prop×AS)
 | 0,_,_,A=>some (True,A)
 | _+1,[],_,A=>some (True,A)
 | n+1,i::rest,w5,A=>
   match ops[i]? with
   | none=>none
   | some o=>match tK ops tb zs i o with
     | false=>none
     | true=>match o.dst with
       | none=>none
       | some d=>if d<N then
         match o.guard with
         | some (j,b)=>match Lh A ops j b with
           | some G=>match AS.un G (gH o.op) A with
             | (C0,B)=>match sY P B o.op w5 with
               | some (C,v,w5)=>if (MU N (gH o.op)&&!v.fL&&kY (aY ops tb i).El (aY ops tb i).fr B o.op)=true then match lR P N ops tb zs n rest w5 (A.put (some d) (.gv G v)) with
                 | some (C',A')=>some ((G=true->C0/\C)/\C',A')
                 | none=>none else none
               | none=>none
           | none=>none
         | none=>match o.op with
           | .assign x=>if (A.ev x).cB=false then lR P N ops tb zs n rest w5 (A.put (some d) (A.ev x)) else none
           | op=>if kY (aY ops tb i).El (aY ops tb i).fr A op=true then match sY P A op w5 with
             | some (C,v,w5)=>match lR P N ops tb zs n rest w5 (A.put (some d) v) with
               | some (C',A')=>if kP op=true then some (C',A') else some (C/\C',A')
               | none=>none
             | none=>none else none
         else none
def mi(P:Program)(N:Nat)(ops:Array Oper)(tb:List (Nat×M'))(zs:List (Nat×ZT P)):Nat->List Nat->List V->AS->Option (List Prop×AS)
 | 0,_,_,A=>some ([],A)
 | _+1,[],_,A=>some ([],A)
 | n+1,i::rest,w5,A=>
   match ops[i]? with
   | none=>none
   | some o=>match tK ops tb zs i o with
     | false=>none
     | true=>match o.dst with
       | none=>none
       | some d=>if d<N then
         match o.guard with
         | some (j,b)=>match Lh A ops j b with
           | some G=>match NI G (j,b) [] (gH o.op) A with
             | (C0,B)=>match sY P B o.op w5 with
               | some (C,v,w5)=>if (MU N (gH o.op)&&!v.fL&&kY (aY ops tb i).El (aY ops tb i).fr B o.op)=true then match mi P N ops tb zs n rest w5 (A.put (some d) (.gv G v)) with
                 | some (C',A')=>some (C0++(if kP o.op=true then C' else (G=true->C)::C'),A')
                 | none=>none else none
               | none=>none
           | none=>none
         | none=>match o.op with
           | .assign x=>if (A.ev x).cB=false then mi P N ops tb zs n rest w5 (A.put (some d) (A.ev x)) else none
           | op=>if kY (aY ops tb i).El (aY ops tb i).fr A op=true then match sY P A op w5 with
             | some (C,v,w5)=>match mi P N ops tb zs n rest w5 (A.put (some d) v) with
               | some (C',A')=>if kP op=true then some (C',A') else some (C::C',A')
               | none=>none
             | none=>none else none
         else none
section
variable {P:Program} {N:Nat} {ops:Array Oper} {tb:List (Nat×M')} {zs:List (Nat×ZT P)}
theorem nJ:∀ (n:Nat) {l:List Nat} {w5:List V} {A A':AS} {cs:List Prop},mi P N ops tb zs n l w5 A=some (cs,A')->(∀ c,c∈cs->c)->∃ C,lR P N ops tb zs n l w5 A=some (C,A')/\C
 | 0,l,w5,A,A',cs,h,hc=>by
   simp only[mi,Option.some.injEq,Prod.mk.injEq]at h
   obtain⟨_,rfl⟩:=h
   exact⟨True,by simp only[lR],trivial⟩
 | n+1,[],w5,A,A',cs,h,hc=>by
   simp only[mi,Option.some.injEq,Prod.mk.injEq]at h
   obtain⟨_,rfl⟩:=h
   exact⟨True,by simp only[lR],trivial⟩
 | n+1,i::l,w5,A,A',cs,h,hc=>by
   unfold mi at h
   unfold lR
   split at h
   cases h
   rename_i o ho
   simp only[ho]
   split at h
   cases h
   rename_i hv
   split at h
   cases h
   rename_i d hd
   split at h
   case isFalse=>cases h
   rename_i Pz
   simp only[hd,if_pos Pz]
   split at h
   rename_i j b hg
   split at h
   rename_i G hG
   split at h
   rename_i C0 B hu
   split at h
   rename_i C v L0 hs
   split at h
   rename_i hk
   split at h
   rename_i C' A1 hr
   simp only[Option.some.injEq,Prod.mk.injEq]at h
   obtain⟨rfl,rfl⟩:=h
   obtain⟨C1,e1,e2⟩:=kL (gH o.op) (fun t ht=>by simp at ht) hu (fun c OL=>hc c (List.mem_append_left _ OL))
   obtain⟨C2,e3,e4⟩:=nJ n hr (fun c OL=>hc c (List.mem_append_right _ (by split <;> simp[OL])))
   simp only[hG,e1,hs,if_pos hk,e3]
   refine⟨_,rfl,fun KE=>⟨e2,?_⟩,e4⟩
   by_cases ht:kP o.op=true
   exact lx ht hs
   exact hc (G=true->C) (List.mem_append_right _ (by rw[if_neg ht];exact List.mem_cons_self ..)) KE
   cases h
   cases h
   cases h
   cases h
   · rename_i hg
     split at h
     rename_i x hx
     split at h
     rename_i ho
     obtain⟨C,e1,e2⟩:=nJ n h hc
     simp only[hx,if_pos ho]
     exact⟨C,e1,e2⟩
     cases h
     · rename_i hx
       split at h
       case isFalse=>cases h
       rename_i TD
       split at h
       rename_i C v L0 hs
       split at h
       rename_i C' A1 hr
       have key:(∀ c,c∈C'->c)/\C/\A1=A':=by
        split at h
        rename_i ht
        simp only[Option.some.injEq,Prod.mk.injEq]at h
        obtain⟨rfl,rfl⟩:=h
        exact⟨hc,lx ht hs,rfl⟩
        simp only[Option.some.injEq,Prod.mk.injEq]at h
        obtain⟨rfl,rfl⟩:=h
        exact⟨fun c OL=>hc c (List.mem_cons_of_mem _ OL),hc _ (List.mem_cons_self ..),rfl⟩
       obtain⟨k1,k2,rfl⟩:=key
       obtain⟨C2,e3,e4⟩:=nJ n hr k1
       simp only[if_pos TD,hs,e3]
       split
       exact⟨_,rfl,e4⟩
       exact⟨_,rfl,k2,e4⟩
       cases h
       cases h
end
def iI(d:Option Nat)(ts:List Nat)(ks:List (Nat×Nat))(r:V)(H:List (Nat×(Nat×V)))(A:AS):AS:=((iJ ts A).back ks H).put d r
def Kw{P:Program}(N:Nat)(ops:Array Oper)(tb:List (Nat×M'))(zs:List (Nat×ZT P)):Sc P->List Nat->AS->(AS->Sc P->Prop)->Prop
 | s,[],A,K=>K A s
 | .r n w5 k,l,A,K=>match mi P N ops tb zs n l w5 A with
   | some (C,A')=>cj C (Kw N ops tb zs k (l.drop n) A' K)
   | none=>False
 | .h x k,i::l,A,K=>match x with
   | .o9 t v=>A.get t=v/\Kw N ops tb zs k (i::l) (A.put (some t) v) K
   | .z7 q v=>match lk q A.h with
     | some (g,u)=>u=v/\Kw N ops tb zs k (i::l) ⟨A.t,(q,(g,v))::A.h⟩ K
     | none=>False
   | _=>False
 | .ua k,i::l,A,K=>match ops[i]?,lk i zs with
   | some o,some z=> ∀ g,Kw N ops tb zs (k g) l (L9 (o.dst.getD 0) z.v g A) K
   | _,_=>False
 | .cg c k,i::l,A,K=>match ops[i]?,lk i zs with
   | some o,none=>match tK ops tb zs i o,o.op,o.guard with
     | true,.call ⟨.value (.func f),xs,_⟩,some (j,b)=>match f==c.f&&L6 N o.dst&&MU N xs.toList&&!c.res.er.fL&&!c.res.er.cB,c.H,Lh A ops j b with
       | true,[],some G=>match NI G (j,b) [] xs.toList A with
         | (C,B)=>cj C ((G=true->c.pre/\KU (xs.toList.map B.cp) c.args=c.args)/\Kw N ops tb zs k l (A.put o.dst (.gv G c.res.er)) K)
       | _,_,_=>False
     | _,_,_=>False
   | _,_=>False
 | s,i::l,A,K=>match ops[i]?,lk i zs with
   | none,_=>False
   | _,some _=>False
   | some o,none=>match o.guard with
     | some _=>False
     | none=>match (aY ops tb i).Tn with
       | false=>match tK ops tb zs i o with
         | true=>match s with
           | .c c _ k=>match o.op with
             | .call ⟨.value (.func f),xs,_⟩=>match f==c.f&&L6 N o.dst,c.H with
               | true,[]=>KU (xs.toList.map A.cp) c.args=c.args/\c.pre/\Kw N ops tb zs k l (A.put o.dst c.res.er) K
               | _,_=>False
             | _=>False
           | .bd z k=>match o.op with
             | .build T b7=>match T==z.T&&L6 N o.dst,z.v with
               | true,.agg us=>match kG P A T us b7.toList with
                 | some v=>Kw N ops tb zs k l (A.put o.dst v) K
                 | none=>False
               | _,_=>False
             | _=>False
           | .bs k=>match o.op with
             | .buildSlice T len b7=>match tD P T with
               | some (.sl e)=>match ti P e,dY A 0 b7.toList with
                 | some t,some vs=>match Pf P T e len t vs&&L6 N o.dst with
                   | true=>Kw N ops tb zs k l (A.put o.dst (.sl true vs)) K
                   | false=>False
                 | _,_=>False
               | _=>False
             | _=>False
           | .mm k=>match o.op with
             | .call ⟨.builtin b,⟨[x,y]⟩,_⟩=>match A.ev x,A.ev y,L6 N o.dst,b with
               | .lit (.int kd p),.lit (.int Oi q),true,.max=>Oi=kd/\Kw N ops tb zs k l (A.put o.dst (.lit (.int kd (max p q)))) K
               | .lit (.int kd p),.lit (.int Oi q),true,.min=>Oi=kd/\Kw N ops tb zs k l (A.put o.dst (.lit (.int kd (min p q)))) K
               | _,_,_,_=>False
             | _=>False
           | .Kg bs k=>match o.op with
             | .convert src dst x=>match xO P src&&isStr P dst&&L6 N o.dst,A.ev x with
               | true,.sl _ ys=>ys=bs.map n7/\Kw N ops tb zs k l (A.put o.dst (sV bs)) K
               | _,_=>False
             | _=>False
           | _=>False
         | false=>False
       | true=>match s with
         | .ux z k=>match Ac P N (aY ops tb i).Sl (aY ops tb i).El (aY ops tb i).Hl o A z,(aY ops tb i).fr,Ss (aY ops tb i).Hl [] with
           | some (C,U),none,true=>C/\∀ g o1 c,Kw N ops tb zs (k g o1 c) l (U (g,o1,c) A) K
           | _,_,_=>False
         | .eu c k=>match (aY ops tb i).fr,Ss (aY ops tb i).Hl c.prom with
           | none,true=>c.pre N o A (aY ops tb i).Sl (aY ops tb i).Hl/\∀ x,Kw N ops tb zs (k x) l (c.U o A x A) K
           | _,_=>False
         | .c c ks k=>match o.op with
           | .call ⟨.value fx,xs,_⟩=>match A.ev fx,A.tk xs.toList,(aY ops tb i).fr with
             | .lit (.func (.func f) first w7),(vs,_),some fl=>
               match f==c.f&&L6 N o.dst&&KK (ks.map (·.1))&&KK (ks.map (·.2))&&c.args.length==(first.toList.map cV++vs++w7.toList.map cV).length&&
                sub (ew A xs.toList) (aY ops tb i).Sl&&sub o.dst.toList (aY ops tb i).Sl&&sub (ks.map (·.2)) (aY ops tb i).Hl&&AI (ks.map (·.2)) fl&&Ss (aY ops tb i).Hl [] with
               | true=>KU (first.toList.map cV++vs++w7.toList.map cV) c.args=c.args/\lO A ks c.H (c.pre/\Kw N ops tb zs k l (iI o.dst (ew A xs.toList) ks (c.res.LY (jw ks)) c.H' A) K)
               | false=>False
             | _,_,_=>False
           | _=>False
         | .cx c ks k=>match o.op with
           | .call ⟨.value fx,xs,_⟩=>match A.ev fx,A.tk xs.toList,(aY ops tb i).fr with
             | .lit (.func (.func f) first w7),(vs,_),some fl=>
               match f==c.f&&L6 N o.dst&&KK (ks.map (·.1))&&KK (ks.map (·.2))&&c.args.length==(first.toList.map cV++vs++w7.toList.map cV).length&&
                sub (ew A xs.toList) (aY ops tb i).Sl&&sub o.dst.toList (aY ops tb i).Sl&&sub (ks.map (·.2)) (aY ops tb i).Hl&&AI (ks.map (·.2)) fl&&Ss (aY ops tb i).Hl [] with
               | true=>KU (first.toList.map cV++vs++w7.toList.map cV) c.args=c.args/\lO A ks c.H (c.pre/\∀ x,c.post x->Kw N ops tb zs (k x) l (iI o.dst (ew A xs.toList) ks ((c.res x).LY (jw ks)) (c.H' x) A) K)
               | false=>False
             | _,_,_=>False
           | _=>False
         | _=>False
section
variable {P:Program} {N:Nat} {ops:Array Oper} {A A' A1 B:AS} {tb:List (Nat×M')} {zs:List (Nat×ZT P)}
theorem mz{ts:List Nat}{t:Nat}:(iJ ts A).get t=if t∈ts then .b9 else A.get t:=by
 induction ts with
 | nil=>simp[iJ]
 | cons a ts ih=>
   simp only[iJ,AS.get,List.map_cons,List.cons_append,lk]at ih ⊢
   by_cases e:t=a
   rw[if_pos e,if_pos (by simp[e])];rfl
   rw[if_neg e,ih]
   by_cases e2:t∈ts
   rw[if_pos e2,if_pos (by simp[e2])]
   rw[if_neg e2,if_neg (by simp[e,e2])]
theorem ri:∀ (xs:List Operand) {A:AS},B8 (A.tk xs).2 (iJ (ew A xs) A)
 | [],A=>⟨fun _=>rfl,fun _=>rfl⟩
 | x::xs,A=>by
   have ih:=ri xs (A:=A.drop x)
   simp only[AS.tk]
   have e:(match (A.drop x).tk xs with | (vs,B)=>((Sp (A.ev x)::vs,B):List V×AS)).2=((A.drop x).tk xs).2:=rfl
   rw[e]
   have hh:(A.drop x).h=A.h:=by
    cases x with
    | tmp t=>simp only[AS.drop];split <;> rfl
    | _=>rfl
   refine⟨fun q=>?_,fun k=>by rw[ih.2 k];simp only[iJ,hh]⟩
   rw[ih.1 q,mz,mz]
   cases x with
   | tmp t=>
     cases ho:(A.get t).cB with
     | true=>
       have ed:A.drop (.tmp t)=A.put (some t) .b9:=by simp[AS.drop,ho]
       have eo:ew A (.tmp t::xs)=t::ew (A.drop (.tmp t)) xs:=by simp only[ew,ho]
       simp only[eo,ed,List.mem_cons]
       by_cases c:q=t
       subst c
       simp only[true_or,if_true]
       split
       rfl
       rw[AS.ay,if_pos rfl]
       by_cases c2:q∈ew (A.put (some t) .b9) xs
       rw[if_pos c2,if_pos (.inr c2)]
       rw[if_neg c2,if_neg (by simp[c,c2]),AS.ay,if_neg c]
     | false=>
       have ed:A.drop (.tmp t)=A:=by simp[AS.drop,ho]
       have eo:ew A (.tmp t::xs)=ew (A.drop (.tmp t)) xs:=by simp only[ew,ho]
       simp only[eo,ed]
   | _=>rfl
theorem zR{x:Operand}(h:∀ t,x=.tmp t->A'.get t=A.get t){q:Nat}(hq:A'.get q=A.get q):(A'.drop x).get q=(A.drop x).get q:=by
 cases x with
 | tmp t=>
   simp only[AS.drop,h t rfl]
   split
   rw[AS.ay,AS.ay];split
   rfl
   exact hq
   exact hq
 | _=>exact hq
theorem rm:∀ (xs:List Operand) {A A':AS},(∀ t,Operand.tmp t∈xs->A'.get t=A.get t)->(A'.tk xs).1=(A.tk xs).1/\ew A' xs=ew A xs
 | [],A,A',_=>⟨rfl,rfl⟩
 | x::xs,A,A',h=>by
   have hx:∀ t,x=.tmp t->A'.get t=A.get t:=fun t e=>h t (by simp[e])
   have ih:=rm xs (A:=A.drop x) (A':=A'.drop x) fun t ht=>zR hx (h t (by simp[ht]))
   refine⟨?_,?_⟩
   show Sp (A'.ev x)::((A'.drop x).tk xs).1=Sp (A.ev x)::((A.drop x).tk xs).1
   rw[ih.1,bg (x:=x) hx]
   cases x with
   | tmp t=>simp only[ew,hx t rfl,ih.2]
   | _=>simp only[ew];exact ih.2
theorem Ea{ks:List (Nat×Nat)}{H:List (Nat×(Nat×V))}{t:Nat}:(A.back ks H).get t=A.get t:=rfl
theorem zD{ks:List (Nat×Nat)}{H:List (Nat×(Nat×V))}{k:Nat}(hn:KK (ks.map (·.2))=true)(hk:k ∉ ks.map (·.2)):lk k (A.back ks H).h=lk k A.h:=by
 have hs:lk k (LX ks)=none:=lj (by simpa[LX,List.map_map,Function.comp_def] using hk)
 simp only[AS.back]
 rw[jM,nE hn,hs]
 simp only[Option.bind_none]
 rw[gB,hs];rfl
theorem oK{ks:List (Nat×Nat)}{H:List (Nat×(Nat×V))}(h:∀ k,lk k A.h=lk k B.h)(k:Nat):lk k (A.back ks H).h=lk k (B.back ks H).h:=by
 simp only[AS.back]
 rw[jM,jM,gB,gB,h]
theorem II{ks:List (Nat×Nat)}{k q:Nat}(h:lk k ks=some q):q∈ks.map (·.2):=List.mem_map.2 ⟨_,sN h,rfl⟩
theorem kO{ks:List (Nat×Nat)}(h:∀ k,k∈ks.map (·.2)->lk k B.h=lk k A.h):∀ {H:List (Nat×(Nat×V))},jH A ks H->jH B ks H
 | [],_=>trivial
 | (k,(g,v))::H,hr=>by
   refine⟨?_,kO h hr.2⟩
   have:=hr.1
   split at this
   rename_i q e
   rw[h q (II e)];exact this
   exact this.elim
theorem gO{d:Option Nat}{ts:List Nat}{ks:List (Nat×Nat)}{r:V}{H:List (Nat×(Nat×V))}{t:Nat}:(iI d ts ks r H A).get t=if d=some t then r else if t∈ts then .b9 else A.get t:=by
 unfold iI
 cases d with
 | none=>rw[if_neg (by simp)];exact mz
 | some d=>
   rw[AS.ay,Ea,mz]
   by_cases e:t=d
   subst e;rw[if_pos rfl,if_pos rfl]
   have e2: ¬ (some d=some t):=fun c=>e (by simpa using c.symm)
   rw[if_neg e,if_neg e2]
theorem iO{d:Option Nat}{ts:List Nat}{ks:List (Nat×Nat)}{r:V}{H:List (Nat×(Nat×V))}:(iI d ts ks r H A).h=(A.back ks H).h:=by
 unfold iI;rw[mF];rfl
theorem wF{G:Type} {d:Option Nat} {ts:List Nat} {ks:List (Nat×Nat)} {r:G->V} {H:G->List (Nat×(Nat×V))} {fs Sl Hl:List Nat} (hn:KK (ks.map (·.2))=true)
 (h1:sub ts Sl=true) (h2:sub d.toList Sl=true) (h3:sub (ks.map (·.2)) Hl=true):OY (fun g B=>iI d ts ks (r g) (H g) B) fs Sl Hl:=by
 have sb:∀ {a b:List Nat},sub a b=true->∀ x,x∈a->x∈b:=fun h x hx=>by
  unfold sub at h;rw[List.all_eq_true]at h;simpa using h x hx
 have h1:=sb h1;have h2:=sb h2;have h3:=sb h3
 refine⟨fun g B t ht=>?_,fun g B k hk=>?_,fun g B B' hB=>⟨fun t=>?_,fun k=>?_⟩,fun g B t v ht _=>⟨fun q=>?_,fun k=>?_⟩,fun g B k gv hk=>⟨fun t=>?_,fun x=>?_⟩⟩
 rw[gO,if_neg (fun c=>ht (h2 t (by rw[c];simp))),if_neg (fun c=>ht (h1 t c))]
 rw[iO];exact zD hn (fun c=>hk (h3 k c))
 rw[gO,gO,hB.1 t]
 rw[iO,iO];exact oK hB.2 k
 rw[gO,AS.ay,AS.ay,gO]
 by_cases c:q=t
 subst c;rw[if_pos rfl,if_pos rfl,if_neg (fun c=>ht (h2 q (by rw[c];simp))),if_neg (fun c=>ht (h1 q c))]
 rw[if_neg c,if_neg c]
 rw[iO];show _=lk k (iI d ts ks (r g) (H g) B).h;rw[iO];rfl
 show (iI d ts ks (r g) (H g) _).get t=(iI d ts ks (r g) (H g) B).get t
 rw[gO,gO];rfl
 rw[iO,iO]
 have hs:lk k (LX ks)=none:=lj (by simpa[LX,List.map_map,Function.comp_def] using fun c=>hk (h3 k c))
 simp only[AS.back]
 rw[jM,gB]
 simp only[lk]
 by_cases c:x=k
 subst c
 rw[if_pos rfl,if_pos rfl,nE hn,hs];rfl
 rw[if_neg c,if_neg c,jM,gB]
theorem qu{i:Nat}{o:Oper}{t:Nat}(ho:ops[i]? =some o)(h:Operand.tmp t∈o.op.operands.toList):t∈fa ops tb i:=by
 unfold fa;rw[ho,List.mem_append];exact .inl (dN h)
theorem rZ{i:Nat}{o:Oper}{t:Nat}(ho:ops[i]? =some o)(h:t∈o.looksAt ops):t∈fa ops tb i:=by
 unfold fa;rw[ho,List.mem_append];exact .inl h
theorem Ay{i:Nat}{t:Nat}(h:t∈(aY ops tb i).El):t∈fa ops tb i:=by
 unfold fa;rw[List.mem_append];exact .inr h
theorem xD{i:Nat} {d:Option Nat} {fx:Operand} {xs:Array Operand} {J6:Array TypeId} {ty:TypeId} {pos:String} {after:Array Edge} {f:FuncId} {first w7:Array Value} {args:List V} {H:List (Nat×(Nat×V))} {ks:List (Nat×Nat)}
 {G:Type} {res:G->V} {H':G->List (Nat×(Nat×V))}
 (ho:ops[i]? =some ⟨d,.call ⟨.value fx,xs,J6⟩,ty,pos,after,none⟩) (U1:A.ev fx=.lit (.func (.func f) first w7)) (hd:bX N d) (M6:KK (ks.map (·.1))=true) (Mb:KK (ks.map (·.2))=true)
 (hc:PF P f args H (fun r h=> ∃ g,r=res g/\h=H' g)) (hargs:KU (first.toList.map cV++(A.tk xs.toList).1++w7.toList.map cV) args=args) (hlen:args.length=(first.toList.map cV++(A.tk xs.toList).1++w7.toList.map cV).length)
 (hr:jH A ks H) {fl:List Nat} (hfl:AI (ks.map (·.2)) fl=true):Sf P N ⟨d,.call ⟨.value fx,xs,J6⟩,ty,pos,after,none⟩ A (fun g B=>iI d (ew A xs.toList) ks ((res g).LY (jw ks)) (H' g) B) (fa ops tb i) (some fl):=by
 refine⟨rfl,fun A' h1 h2=>?_⟩
 have Ru:A'.ev fx=A.ev fx:=bg fun t ht=>h1 t (qu ho (by subst ht;simp[Op.operands,Call.operands]))
 obtain⟨t1,t2⟩:=rm xs.toList (A:=A) (A':=A') fun t ht=>h1 t (qu ho (by simp only[Op.operands,Call.operands];simp;right;simpa using ht))
 have Ql:=ri xs.toList (A:=A')
 refine mj (A:=A') ks rfl (by rw[Ru];exact U1) hd M6 Mb hc (by rw[t1];exact hargs) (by rw[t1];exact hlen) (kO (fun k hk=>(Ql.2 k).trans (FD hfl h2 k hk)) hr) ?_
 rintro r H0 ⟨g,rfl,rfl⟩
 refine⟨g,?_⟩
 unfold iI
 rw[<- t2]
 exact Hf ⟨fun t=>Ql.1 t,fun k=>oK Ql.2 k⟩
theorem sf{El:List Nat} {fr:Option (List Nat)} {op:Op} (h:∀ t,Operand.tmp t∈op.operands.toList->A'.get t=A.get t) (hk:PN A' A fr) (hr:∀ i,i∈El->A'.get i=A.get i)
 (hf:kY El fr A op=true):G0 P A' op=G0 P A op:=by
 cases op with
 | move x=>simp only[G0,Mm,Ai,jQ (x:=x) fun t e=>h t (by simp[Op.operands,e]),bg (x:=x) fun t e=>h t (by simp[Op.operands,e])]
 | pick c a b=>
   have h1:=bg (x:=c) fun t e=>h t (by simp[Op.operands,e])
   have h2:=bg (x:=a) fun t e=>h t (by simp[Op.operands,e])
   have h3:=bg (x:=b) fun t e=>h t (by simp[Op.operands,e])
   simp only[G0,Mm,Ap,h1,h2,h3]
 | binOp op T x y T'=>simp only[G0,Mm,bg (x:=x) fun t e=>h t (by simp[Op.operands,e]),bg (x:=y) fun t e=>h t (by simp[Op.operands,e])]
 | unOp op T x=>simp only[G0,Mm,bg (x:=x) fun t e=>h t (by simp[Op.operands,e])]
 | convert s d x=>simp only[G0,Mm,bg (x:=x) fun t e=>h t (by simp[Op.operands,e])]
 | index T x y=>simp only[G0,Mm,bg (x:=x) fun t e=>h t (by simp[Op.operands,e]),bg (x:=y) fun t e=>h t (by simp[Op.operands,e])]
 | slice T x lo hi m=>
   have h1:=bg (x:=x) fun t e=>h t (by simp[Op.operands,e])
   have h2:=sX (x:=lo) fun t e=>h t (by simp[Op.operands,e])
   have h3:=sX (x:=hi) fun t e=>h t (by simp[Op.operands,e])
   cases m with
   | none=>simp only[G0,h1,h2,h3]
   | some m=>rfl
 | extract x i=>simp only[G0,Mm,bg (x:=x) fun t e=>h t (by simp[Op.operands,e])]
 | call c=>
   simp only[G0,Mm,vG]
   split
   split
   rename_i x T hx _
   rw[bg (x:=x) fun t e=>h t (by simp[Op.operands,Call.operands,hx,e])]
   rfl
   rfl
 | fieldAddr T x j=>simp only[G0,bg (x:=x) fun t e=>h t (by simp[Op.operands,e])]
 | field T x j=>simp only[G0,jQ (x:=x) fun t e=>h t (by simp[Op.operands,e])]
 | indexAddr T x y=>simp only[G0,bg (x:=x) fun t e=>h t (by simp[Op.operands,e]),bg (x:=y) fun t e=>h t (by simp[Op.operands,e])]
 | load T x=>
   have h1:=bg (x:=x) fun t e=>h t (by simp[Op.operands,e])
   simp only[G0,h1,jF]
   split
   split
   rename_i r p g o e
   cases r with
   | key k=>
     have:lk k A'.h=lk k A.h\/∃ i,p=[i]/\i<100/\Ku A'.h (100*k+i)=Ku A.h (100*k+i)/\(Ku A.h (100*k+i)).isSome=true:=by
      cases fr with
      | none=>exact .inl (hk k)
      | some l=>
        simp only[kY,e,Bool.or_eq_true,Bool.and_eq_true]at hf
        rcases hf with ⟨c1,c2⟩ | hf
        have h3:=hk k (by simpa using c2)
        unfold Ns at h3
        rw[if_pos c1]at h3
        exact .inl h3
        unfold V5 at hf
        split at hf
        rename_i i
        simp only[Bool.and_eq_true]at hf
        refine .inr ⟨i,rfl,by simpa[Nat.blt_eq] using hf.1.1,?_,hf.2⟩
        have h3:=hk _ (by simpa using hf.1.2)
        unfold Ns at h3
        rw[if_neg (by simp[Nat.blt_eq]),Nat.add_sub_cancel_left]at h3
        exact h3
        cases hf
     rcases this with e2 | ⟨i,rfl,c1,c2,c3⟩
     simp only[AS.at,e2]
     have:=Gt (T:=by assumption) (g:=g) (o:=o) c2 c1 c3
     simpa only[jF] using this
   | slot i=>
     have:A'.at (.slot i) p=A.at (.slot i) p:=by
      unfold AS.at
      simp only[kY,e,List.contains_eq_mem,decide_eq_true_eq]at hf
      simp only[hr i hf]
     rw[this]
   rfl
   rfl
   rfl
 | nilCheck x=>simp only[G0,bg (x:=x) fun t e=>h t (by simp[Op.operands,e])]
 | makeInterface T x=>simp only[G0,jQ (x:=x) fun t e=>h t (by simp[Op.operands,e])]
 | typeAssert x xT T b=>
   cases b with
   | true=>simp only[G0,bg (x:=x) fun t e=>h t (by simp[Op.operands,e])]
   | false=>rfl
 | makeFunc fn p q=>
   have e1:p.toList.map A'.ev=p.toList.map A.ev:=List.map_congr_left fun x hx=>bg fun t e=>h t (by subst e;simp only[Op.operands,Array.toList_append,List.mem_append];exact .inl hx)
   have e2:q.toList.map A'.ev=q.toList.map A.ev:=List.map_congr_left fun x hx=>bg fun t e=>h t (by subst e;simp only[Op.operands,Array.toList_append,List.mem_append];exact .inr hx)
   simp only[G0,e1,e2]
 | _=>rfl
theorem jT{i:Nat}{o:Oper}{v:V}{fr:Option (List Nat)}(ho:ops[i]? =some o)(h:mw P N ops o A v):PQ P N ops o A v (fa ops tb i) fr:=fun A' h1 _=>h A' fun t ht=>h1 t (rZ ho ht)
theorem zl{i:Nat}{o:Oper}{C:Prop}{v:V}{fr:Option (List Nat)}(ho:ops[i]? =some o)(hg:o.guard=none)(h:G0 P A o.op=some (C,v))(hC:C)(hd:bX N o.dst)(hf:kY (aY ops tb i).El fr A o.op=true):PQ P N ops o A v (fa ops tb i) fr:=by
 intro A' h1 hk
 unfold gd
 rw[hg]
 simp only
 refine tR (C:=C) (v:=v) ?_ hC hd ⟨fun _=>rfl,fun _=>rfl⟩
 rw[sf (A:=A) (fun t ht=>h1 t (qu ho ht)) hk (fun i hi=>h1 i (Ay hi)) hf]
 exact h
theorem Co{i:Nat} {o:Oper} {xs:List Operand} {j:Nat} {b G:Bool} {C:Prop} {B:AS} {v:V} {fr:Option (List Nat)} (ho:ops[i]? =some o) (hg:o.guard=some (j,b)) (hG:Lh A ops j b=some G) (hu:AS.un G xs A=(C,B))
 (Pq:∀ t,Operand.tmp t∈xs->Operand.tmp t∈o.op.operands.toList) (KO:MU N xs=true) (hd:bX N o.dst) (hf:kY (aY ops tb i).El fr B o.op=true) (hC:G=true->C/\v.fL=false/\∃ C',G0 P B o.op=some (C',v)/\C'):PQ P N ops o A (.gv G v) (fa ops tb i) fr:=by
 intro A' h1 hk
 have Vg:Lh A' ops j b=some G:=by
  rw[<- hG]
  unfold Lh
  cases hj:(ops[j]?).bind (·.dst) with
  | none=>rfl
  | some d=>
    simp only[Option.map_some]
    rw[h1 d (rZ ho (by unfold Oper.looksAt;rw[List.mem_append];right;rw[hg];simp[hj]))]
 obtain⟨B',k1,k2,k3,k4⟩:=iU xs (A':=A') hu (fun t ht=>h1 t (qu ho (Pq t ht)))
 have J8:G0 P B' o.op=G0 P B o.op:=by
  refine sf (A:=B) (fun t ht=>k2 t (h1 t (qu ho ht))) ?_ (fun i hi=>k2 i (h1 i (Ay hi))) hf
  cases fr with
  | none=>exact fun k=>by rw[k3,k4];exact hk k
  | some l=>exact fun k hl=>(sQ (A:=A') (fun k=>by rw[k3]) k).trans ((hk k hl).trans (sQ (fun k=>by rw[k4]) k))
 refine oC hg Vg (fun KE=>?_) (fun Qw=>⟨hd,fun _ _=>⟨rfl,(fun h=>by rw[Qw]at h;cases h),fun _=>rfl⟩⟩)
 obtain⟨c1,c3,C',x6,c2⟩:=hC KE
 rw[<- J8]at x6
 refine gN (v:=.gv G v) hd ⟨fun _=>rfl,fun _=>rfl⟩ fun Pb Kb a w F hs=>?_
 obtain⟨F',x7⟩:=iM KE _ k1 c1 hs (nG KO)
 obtain⟨x,hx,hr⟩:=ud x6 c2 x7 rfl
 exact⟨x,hx,rfl,fun _=>wV hr c3,fun h=>by rw[KE]at h;cases h⟩
theorem AV{i:Nat} {d:Option Nat} {f:FuncId} {xs:Array Operand} {J6:Array TypeId} {ty:TypeId} {pos:String} {after:Array Edge}
 {j:Nat} {b G:Bool} {C:Prop} {B:AS} {E:V} {fr:Option (List Nat)} (ho:ops[i]? =some ⟨d,.call ⟨.value (.func f),xs,J6⟩,ty,pos,after,some (j,b)⟩) (hd:bX N d) (hG:Lh A ops j b=some G) (hu:AS.un G xs.toList A=(C,B)) (KO:MU N xs.toList=true)
 (hc:G=true->C/\PC P f (xs.toList.map B.cp) (fun r=>r.er=E)/\E.fL=false/\E.cB=false):PQ P N ops ⟨d,.call ⟨.value (.func f),xs,J6⟩,ty,pos,after,some (j,b)⟩ A (.gv G E) (fa ops tb i) fr:=by
 intro A' h1 hk
 have Vg:Lh A' ops j b=some G:=by
  rw[<- hG]
  unfold Lh
  cases hj:(ops[j]?).bind (·.dst) with
  | none=>rfl
  | some d=>
    simp only[Option.map_some]
    rw[h1 d (rZ ho (by unfold Oper.looksAt;rw[List.mem_append];right;simp[hj]))]
 have hx:∀ t,Operand.tmp t∈xs.toList->A'.get t=A.get t:=fun t ht=>h1 t (qu ho (by simp[Op.operands,Call.operands];simpa using ht))
 obtain⟨B',k1,k2,k3,k4⟩:=iU xs.toList (A':=A') hu hx
 refine oC (j:=j) (b:=b) rfl Vg (fun KE=>?_) (fun Qw=>⟨hd,fun _ _=>⟨rfl,(fun h=>by rw[Qw]at h;cases h),fun _=>rfl⟩⟩)
 obtain⟨c1,c2,c3,c4⟩:=hc KE
 rw[<- pq (A':=B') (A:=B) fun t ht=>k2 t (hx t ht)]at c2
 intro Pb Kb a w F Q' hs
 obtain⟨F',x7⟩:=iM KE _ k1 c1 hs (nG KO)
 have hw:=lX KE _ k1 c1
 have I4:=mL (N:=N) (o:=⟨d,.call { callee:=.value (.func f),args:=xs,argTypes:=J6 },ty,pos,after,some (j,b)⟩) (K:=fun A1=>A1=B'.put d E) (A:=B') rfl hd c2 (fun _ h=>h) rfl
 refine Oper.wp_mono ?_ (I4 Pb Kb a w F' Q' x7)
 rintro a' w' ⟨A1,Pb',C5,F2,rfl,J3,q3,q4,q5,q6⟩
 refine⟨A'.put d (.gv G E),Pb',C5,F2,⟨fun _=>rfl,fun _=>rfl⟩,J3.wrap ?_,q3,q4,q5,q6⟩
 cases d with
 | none=>exact hw
 | some d=>
   refine⟨fun i=>?_,hw.2⟩
   rw[AS.ay,AS.ay]
   by_cases e:i=d
   rw[if_pos e,if_pos e];exact .inr ⟨G,rfl,KE,c4,c3⟩
   rw[if_neg e,if_neg e];exact hw.1 i
theorem fI{i:Nat}{o:Oper}{l:List Nat}{v:V}{K:AS->Prop}(ho:ops[i]? =some o)(hv:tK ops tb zs i o=true)(h:PQ P N ops o A v (fa ops tb i) (aY ops tb i).fr)(hK:KI P N ops tb zs l (A.put o.dst v) K):KI P N ops tb zs (i::l) A K:=by
 unfold tK at hv
 simp only[Bool.and_eq_true,Bool.not_eq_true',beq_iff_eq]at hv
 refine⟨o,ho,?_⟩
 rw[show lk i zs=none from by simpa using hv.1.1.1]
 simp only
 rw[hv.1.1.2]
 exact⟨hv.1.2,hv.2,v,h,hK⟩
theorem nw{K:AS->Prop}:∀ (n:Nat) {l:List Nat} (w5:List V) {A:AS} (C:Prop) (A':AS),
 lR P N ops tb zs n l w5 A=some (C,A')->C->KI P N ops tb zs (l.drop n) A' K->KI P N ops tb zs l A K
 | 0,l,w5,A,C,A',h,hC,hK=>by
   simp only[lR,Option.some.injEq,Prod.mk.injEq]at h;obtain⟨_,rfl⟩:=h;simpa using hK
 | n+1,[],w5,A,C,A',h,hC,hK=>by
   simp only[lR,Option.some.injEq,Prod.mk.injEq]at h;obtain⟨_,rfl⟩:=h;simpa using hK
 | n+1,i::l,w5,A,C,A',h,hC,hK=>by
   have ME:(i::l).drop (n+1)=l.drop n:=rfl
   rw[ME]at hK
   unfold lR at h
   split at h
   simp at h
   rename_i o ho
   split at h
   simp at h
   rename_i D7
   split at h
   simp at h
   rename_i d hd
   split at h
   case isFalse=>simp at h
   rename_i Pz
   have LL:bX N o.dst:=by rw[hd];exact Pz
   cases hg:o.guard with
   | some jb=>
     obtain⟨j,b⟩:=jb
     rw[hg]at h
     simp only at h
     split at h
     case h_2=>simp at h
     rename_i G hG
     cases hu:AS.un G (gH o.op) A with
     | mk C0 B=>
       rw[hu]at h
       simp only at h
       split at h
       case h_2=>simp at h
       rename_i C1 v Mp x6
       split at h
       case isFalse=>simp at h
       rename_i KO
       simp only[Bool.and_eq_true,Bool.not_eq_true']at KO
       split at h
       case h_2=>simp at h
       rename_i C2 A2 hr
       simp only[Option.some.injEq,Prod.mk.injEq]at h
       obtain⟨rfl,rfl⟩:=h
       exact fI ho D7 (Co (v:=v) ho hg hG hu (CL _) KO.1.1 LL KO.2 (fun KE=>⟨(hC.1 KE).1,KO.1.2,ql x6 (hC.1 KE).2⟩)) (by rw[hd];exact nw n Mp C2 A2 hr hC.2 hK)
   | none=>
     rw[hg]at h
     simp only at h
     split at h
     · rename_i x Ki
       split at h
       case isFalse=>simp at h
       rename_i H6
       exact fI ho D7 (jT ho (xf hg Ki LL H6)) (by rw[hd];exact nw n w5 C A' h hC hK)
     · split at h
       case isFalse=>simp at h
       rename_i TD
       split at h
       case h_2=>simp at h
       rename_i C1 v Mp x6
       split at h
       case h_2=>simp at h
       rename_i C2 A2 hr
       split at h
       rename_i ht
       simp only[Option.some.injEq,Prod.mk.injEq]at h
       obtain⟨rfl,rfl⟩:=h
       obtain⟨C',h1,h2⟩:=ql x6 (lx ht x6)
       exact fI ho D7 (zl ho hg h1 h2 LL TD) (by rw[hd];exact nw n Mp C2 A2 hr hC hK)
       simp only[Option.some.injEq,Prod.mk.injEq]at h
       obtain⟨rfl,rfl⟩:=h
       obtain⟨C',h1,h2⟩:=ql x6 hC.1
       exact fI ho D7 (zl ho hg h1 h2 LL TD) (by rw[hd];exact nw n Mp C2 A2 hr hC.2 hK)
theorem qg{i:Nat} {o:Oper} {l:List Nat} {K:AS->Prop} {G:Type} {U:G->AS->AS} (ho:ops[i]? =some o) (hz:lk i zs=none) (he:(aY ops tb i).Tn=true) (h1:Sf P N o A U (fa ops tb i) (aY ops tb i).fr)
 (h2:RB U (fa ops tb i) (aY ops tb i).Sl (aY ops tb i).Hl) (hK:∀ g,KI P N ops tb zs l (U g A) K):KI P N ops tb zs (i::l) A K:=by
 refine⟨o,ho,?_⟩
 rw[hz]
 simp only
 rw[he]
 exact⟨G,U,h1,h2,hK⟩
theorem vU{d:Option Nat}{x y:Operand}{J6:Array TypeId}{ty:TypeId}{pos:String}{after:Array Edge}{kd:IntKind}{p q r:Int}{b:Builtin}(hd:bX N d)(hx:A.ev x=.lit (.int kd p))(hy:A.ev y=.lit (.int kd q))(hb:(b=.max/\r=max p q)\/(b=.min/\r=min p q)):
 mw P N ops ⟨d,.call ⟨.builtin b,⟨[x,y]⟩,J6⟩,ty,pos,after,none⟩ A (.lit (.int kd r)):=fun A' h1=>by
 show D5 P N _ A' _
 have e1:A'.ev x=A.ev x:=bg fun t ht=>h1 t (dN (by subst ht;simp[Op.operands,Call.operands]))
 have e2:A'.ev y=A.ev y:=bg fun t ht=>h1 t (dN (by subst ht;simp[Op.operands,Call.operands]))
 exact wI rfl hd (by rw[e1];exact hx) (by rw[e2];exact hy) hb ⟨fun _=>rfl,fun _=>rfl⟩
theorem HH:∀ (s:Sc P) {l:List Nat} {A:AS} {K:AS->Sc P->Prop},Kw N ops tb zs s l A K->KI P N ops tb zs l A fun B=> ∃ B',B8 B B'/\∃ s',K B' s':=by
 intro s
 have cl:∀ {K:AS->Sc P->Prop} (A B:AS),B8 A B->(∃ B',B8 A B'/\∃ s',K B' s')->∃ B',B8 B B'/\∃ s',K B' s':=fun A B h ⟨B',h1,h2⟩=>⟨B',h.symm.trans h1,h2⟩
 induction s with
 | r n w5 k ih=>
   intro l A K h
   cases l with
   | nil=>exact⟨_,B8.iP,_,h⟩
   | cons i l=>
     simp only[Kw]at h
     split at h
     rename_i C A' e
     obtain⟨h1,h2⟩:=lY.1 h
     obtain⟨C1,e1,e2⟩:=nJ n e h1
     exact nw n w5 C1 A' e1 e2 (ih h2)
     exact h.elim
 | h x k ih=>
   intro l A K h
   cases l with
   | nil=>exact⟨_,B8.iP,_,h⟩
   | cons i l=>
     simp only[Kw]at h
     split at h
     rename_i t v
     refine dR cl _ ?_ (ih h.2)
     refine⟨fun q=>?_,fun _=>rfl⟩
     rw[AS.ay];split
     rename_i e;subst e;exact h.1.symm
     rfl
     rename_i q v
     split at h
     rename_i g u e
     obtain⟨rfl,h⟩:=h
     refine dR cl _ ?_ (ih h)
     refine⟨fun _=>rfl,fun k=>?_⟩
     simp only[lk];split
     rename_i e2;subst e2;exact e.symm
     rfl
     exact h.elim
     exact h.elim
 | ux z k ih=>
   intro l A K h
   cases l with
   | nil=>exact⟨_,B8.iP,_,h⟩
   | cons i l=>
     simp only[Kw]at h
     split at h
     exact h.elim
     exact h.elim
     rename_i o ho hz
     split at h
     exact h.elim
     rename_i hg
     split at h
     split at h <;> exact h.elim
     rename_i he
     split at h
     rename_i C U e1 e2 e3
     obtain⟨d,hd⟩:∃ d,o.dst=some d:=by
      unfold Ac at e1
      split at e1 <;> first | exact⟨_,by assumption⟩ | simp at e1
     obtain⟨hU,hE⟩:=GB (ops:=ops) e1 h.1 d hd
     refine qg ho hz he ⟨hg,fun A' h1 h2=>?_⟩ ⟨⟨hU.g,hU.h,hU.c,fun g B t v ht _=>hU.p g B t v ht,hU.q⟩,fun q hq=>absurd (sx e3 hq) List.not_mem_nil⟩ fun g=>ih _ _ _ (h.2 g.1 g.2.1 g.2.2)
     rw[e2]at h2
     exact hE A' (fun t ht=>by
      rcases ht with ht | ht
      exact h1 t (rZ ho ht)
      exact h1 t (Ay ht)) h2 _ fun g=>⟨g,⟨fun _=>rfl,fun _=>rfl⟩⟩
     exact h.elim
 | eu c k ih=>
   intro l A K h
   cases l with
   | nil=>exact⟨_,B8.iP,_,h⟩
   | cons i l=>
     simp only[Kw]at h
     split at h
     exact h.elim
     exact h.elim
     rename_i o ho hz
     split at h
     exact h.elim
     rename_i hg
     split at h
     split at h <;> exact h.elim
     rename_i he
     split at h
     rename_i e2 e3
     refine qg ho hz he ⟨hg,fun A' h1 h2=>?_⟩ ⟨c.So h.1 _,fun q hq g B=>c.Vz h.1 q (sx e3 hq) g B⟩ fun g=>ih g (h.2 g)
     rw[e2]at h2
     exact Dp (c.ok hg h.1 (fun t ht=>h1 t (rZ ho (dN ht))) h2) fun B ⟨x,hB⟩=>⟨x,by subst hB;exact⟨fun _=>rfl,fun _=>rfl⟩⟩
     exact h.elim
 | ua k ih=>
   intro l A K h
   cases l with
   | nil=>exact⟨_,B8.iP,_,h⟩
   | cons i l=>
     simp only[Kw]at h
     split at h
     rename_i o z ho hz
     refine⟨o,ho,?_⟩
     rw[hz]
     exact fun g=>ih g (h g)
     exact h.elim
 | c c ks k ih=>
   intro l A K h
   cases l with
   | nil=>exact⟨_,B8.iP,_,h⟩
   | cons i l=>
     simp only[Kw]at h
     split at h
     exact h.elim
     exact h.elim
     rename_i o ho hz
     obtain⟨dst,op,ty,pos,after,C4⟩:=o
     split at h
     exact h.elim
     rename_i hg
     simp only at hg;subst hg
     split at h
     split at h
     rename_i hv
     split at h
     rename_i heq
     simp only at heq;subst heq
     split at h
     rename_i e3 e4
     rw[Bool.and_eq_true,beq_iff_eq]at e3
     obtain⟨rfl,e3⟩:=e3
     exact fI ho hv (jT ho (GY c (dD e3) e4 h.1 h.2.1)) (ih h.2.2)
     exact h.elim
     exact h.elim
     exact h.elim
     rename_i he
     split at h
     rename_i fx xs J6 heq
     simp only at heq;subst heq
     split at h
     rename_i f first w7 vs B fl e1 e2 e3
     split at h
     rename_i e4
     simp only[Bool.and_eq_true,beq_iff_eq]at e4
     obtain⟨⟨⟨⟨⟨⟨⟨⟨⟨rfl,q1⟩,q2⟩,q3⟩,q4⟩,q5⟩,q6⟩,q7⟩,q8⟩,q9⟩:=e4
     have htk:(A.tk xs.toList).1=vs:=by rw[e2]
     replace h:=And.intro h.1 (iA h.2)
     have Ta:=xD (P:=P) (N:=N) (A:=A) (tb:=tb) (i:=i) (G:=Unit) (res:=fun _=>c.res) (H':=fun _=>c.H') (ks:=ks) (H:=c.H) (args:=c.args) ho e1 (dD q1) q2 q3
      ((c.ok h.2.2.1).mono fun r H ⟨a,b⟩=>⟨(),a,b⟩) (by rw[htk];exact h.1) (by rw[htk];exact q4) h.2.1 q8
     rw[<- e3]at Ta
     exact qg ho hz he Ta ⟨wF q3 q5 q6 q7,fun q hq=>absurd (sx q9 hq) List.not_mem_nil⟩ fun _=>ih h.2.2.2
     exact h.elim
     exact h.elim
     exact h.elim
 | cx c ks k ih=>
   intro l A K h
   cases l with
   | nil=>exact⟨_,B8.iP,_,h⟩
   | cons i l=>
     simp only[Kw]at h
     split at h
     exact h.elim
     exact h.elim
     rename_i o ho hz
     obtain⟨dst,op,ty,pos,after,C4⟩:=o
     split at h
     exact h.elim
     rename_i hg
     simp only at hg;subst hg
     split at h
     split at h <;> exact h.elim
     rename_i he
     split at h
     rename_i fx xs J6 heq
     simp only at heq;subst heq
     split at h
     rename_i f first w7 vs B fl e1 e2 e3
     split at h
     rename_i e4
     simp only[Bool.and_eq_true,beq_iff_eq]at e4
     obtain⟨⟨⟨⟨⟨⟨⟨⟨⟨rfl,q1⟩,q2⟩,q3⟩,q4⟩,q5⟩,q6⟩,q7⟩,q8⟩,q9⟩:=e4
     have htk:(A.tk xs.toList).1=vs:=by rw[e2]
     replace h:=And.intro h.1 (iA h.2)
     have Ta:=xD (P:=P) (N:=N) (A:=A) (tb:=tb) (i:=i) (G:={ x:c.X // c.post x }) (res:=fun x=>c.res x.1) (H':=fun x=>c.H' x.1) (ks:=ks) (H:=c.H) (args:=c.args) ho e1 (dD q1) q2 q3
      ((c.ok h.2.2.1).mono fun r H ⟨x,hx,a,b⟩=>⟨⟨x,hx⟩,a,b⟩) (by rw[htk];exact h.1) (by rw[htk];exact q4) h.2.1 q8
     rw[<- e3]at Ta
     exact qg ho hz he Ta ⟨wF q3 q5 q6 q7,fun q hq=>absurd (sx q9 hq) List.not_mem_nil⟩ fun x=>ih _ (h.2.2.2 x.1 x.2)
     exact h.elim
     exact h.elim
     exact h.elim
 | bd z k ih=>
   intro l A K h
   cases l with
   | nil=>exact⟨_,B8.iP,_,h⟩
   | cons i l=>
     simp only[Kw]at h
     split at h
     exact h.elim
     exact h.elim
     rename_i o ho hz
     obtain⟨dst,op,ty,pos,after,C4⟩:=o
     split at h
     exact h.elim
     rename_i hg
     simp only at hg;subst hg
     split at h
     split at h
     rename_i hv
     split at h
     rename_i heq
     simp only at heq;subst heq
     split at h
     rename_i us e3 e4
     split at h
     rename_i v e5
     rw[Bool.and_eq_true,beq_iff_eq]at e3
     obtain⟨rfl,e3⟩:=e3
     have hz:=z.ok
     rw[e4]at hz
     exact fI ho hv (jT ho (xV us v hz (dD e3) e5)) (ih h)
     exact h.elim
     exact h.elim
     exact h.elim
     exact h.elim
     exact h.elim
 | bs k ih=>
   intro l A K h
   cases l with
   | nil=>exact⟨_,B8.iP,_,h⟩
   | cons i l=>
     simp only[Kw]at h
     split at h
     exact h.elim
     exact h.elim
     rename_i o ho hz
     obtain⟨dst,op,ty,pos,after,C4⟩:=o
     split at h
     exact h.elim
     rename_i hg
     simp only at hg;subst hg
     split at h
     split at h
     rename_i hv
     split at h
     rename_i heq
     simp only at heq;subst heq
     split at h
     rename_i e e3
     split at h
     rename_i t vs e4 e5
     split at h
     rename_i e6
     rw[Bool.and_eq_true]at e6
     exact fI ho hv (jT ho (rP e t vs ⟨e3,e4⟩ (dD e6.2) e5 e6.1)) (ih h)
     exact h.elim
     exact h.elim
     exact h.elim
     exact h.elim
     exact h.elim
     exact h.elim
 | cg c k ih=>
   intro l A K h
   cases l with
   | nil=>exact⟨_,B8.iP,_,h⟩
   | cons i l=>
     simp only[Kw]at h
     split at h
     case h_2=>exact h.elim
     rename_i o ho hz
     obtain⟨dst,op,ty,pos,after,C4⟩:=o
     split at h
     case h_2=>exact h.elim
     rename_i f xs J6 j b hv e1 e2
     simp only at e1 e2;subst e1 e2
     split at h
     case h_2=>exact h.elim
     rename_i G h1 h2 h3
     simp only[Bool.and_eq_true,beq_iff_eq,Bool.not_eq_true']at h1
     obtain⟨⟨⟨⟨rfl,h4⟩,h5⟩,h6⟩,h7⟩:=h1
     revert h
     cases hu:NI G (j,b) [] xs.toList A with | mk C B=>?_
     intro h
     obtain⟨hC,h⟩:=lY.1 h
     obtain⟨C1,u1,u2⟩:=kL xs.toList (fun t ht=>by simp at ht) hu hC
     refine fI ho hv (AV ho (dD h4) h3 u1 h5 (fun hG=>⟨u2,?_,h6,h7⟩)) (ih h.2)
     obtain⟨Oz,hw⟩:=h.1 hG
     have hc:=c.ok Oz
     rw[h2]at hc
     have hp:=hc.Am
     refine⟨hp.1,fun w Pb cargs k1 k2=>?_⟩
     refine(hp.2 w Pb cargs k1 (by have:=nD _ c.args k2;rw[hw]at this;exact this)).mono ?_
     rintro e w' ⟨r,x,F,Pb',rfl,⟨H,q1,_⟩,rest⟩
     exact⟨r,x,F,Pb',rfl,by rw[q1],rest⟩
 | mm k ih=>
   intro l A K h
   cases l with
   | nil=>exact⟨_,B8.iP,_,h⟩
   | cons i l=>
     simp only[Kw]at h
     split at h
     exact h.elim
     exact h.elim
     rename_i o ho hz
     obtain⟨dst,op,ty,pos,after,C4⟩:=o
     split at h
     exact h.elim
     rename_i hg
     simp only at hg;subst hg
     split at h
     split at h
     rename_i hv
     split at h
     rename_i heq
     simp only at heq;subst heq
     split at h
     rename_i kd p Oi q e1 e2 e3
     obtain⟨rfl,h⟩:=h
     exact fI ho hv (jT ho (vU (dD e3) e1 e2 (.inl ⟨rfl,rfl⟩))) (ih h)
     rename_i kd p Oi q e1 e2 e3
     obtain⟨rfl,h⟩:=h
     exact fI ho hv (jT ho (vU (dD e3) e1 e2 (.inr ⟨rfl,rfl⟩))) (ih h)
     exact h.elim
     exact h.elim
     exact h.elim
     exact h.elim
 | Kg bs k ih=>
   intro l A K h
   cases l with
   | nil=>exact⟨_,B8.iP,_,h⟩
   | cons i l=>
     simp only[Kw]at h
     split at h
     exact h.elim
     exact h.elim
     rename_i o ho hz
     obtain⟨dst,op,ty,pos,after,C4⟩:=o
     split at h
     exact h.elim
     rename_i hg
     simp only at hg;subst hg
     split at h
     split at h
     rename_i hv
     split at h
     rename_i heq
     simp only at heq;subst heq
     split at h
     rename_i fl ys e1 e2
     simp only[Bool.and_eq_true]at e1
     obtain⟨rfl,h⟩:=h
     obtain⟨e,q1,q2⟩:=uk e1.1.1
     exact fI ho hv (jT ho (ub e fl bs ⟨q1,q2,rv e1.1.2⟩ (dD e1.2) e2)) (ih h)
     exact h.elim
     exact h.elim
     exact h.elim
     exact h.elim
 | _=>
   intro l A K h
   cases l with
   | nil=>exact⟨_,B8.iP,_,h⟩
   | cons i l=>
     simp only[Kw]at h
     (repeat' split at h) <;> exact h.elim
theorem nZ{K K':AS->Prop}(hK:∀ B,K B->K' B):∀ (l:List Nat) {A:AS},KI P N ops tb zs l A K->KI P N ops tb zs l A K'
 | [],A,h=>hK A h
 | i::l,A,h=>by
   obtain⟨o,ho,h⟩:=h
   refine⟨o,ho,?_⟩
   split at h
   exact fun g=>nZ hK l (h g)
   split at h
   obtain⟨e1,e2,v,h1,h2⟩:=h;exact⟨e1,e2,v,h1,nZ hK l h2⟩
   obtain⟨G,U,h1,h2,h3⟩:=h;exact⟨G,U,h1,h2,fun g=>nZ hK l (h3 g)⟩
end
end Go.Abs
namespace Go.Abs
open Go Go.RowKit
section
variable {P:Program} {N:Nat} {ops:Array Oper} {A:AS}
end
def go{P:Program}(N:Nat):Code->AS->Sc P->(Exit->AS->Sc P->Prop)->Prop
 | .skip,A,s,K=>K .normal A s
 | .label _,A,s,K=>K .normal A s
 | .exit i,A,s,K=>K (.exit i) A s
 | .goto i,A,s,K=>K (.goto i) A s
 | .ret,A,s,K=>Ma N s A fun A s=>K .ret A s
 | .seq x y,A,s,K=>go N x A s fun e A s=>match e with
   | .normal=>go N y A s K
   | e=>K e A s
 | .block id c,A,s,K=>go N c A s fun e A s=>match e with
   | .exit j=>match j==id with
     | true=>K .normal A s
     | false=>K (.exit j) A s
   | e=>K e A s
 | .cond c x y,A,s,K=>Ma N s A fun A s=>match A.ev c,s with
   | .lit (.bool b),.br s1 s2=>(b=true->go N x A s1 K)/\(b=false->go N y A s2 K)
   | .lit (.bool b),.join X B ok s1 s2 k=>
     (b=true->go N x A s1 fun e A' s'=>match e with
      | .normal=>Ma N s' A' fun A' _=> ∃ x,ok x/\RM A' (B x)
      | e=>K e A' s')/\
     (b=false->go N y A s2 fun e A' s'=>match e with
      | .normal=>Ma N s' A' fun A' _=> ∃ x,ok x/\RM A' (B x)
      | e=>K e A' s')/\
     ∀ x,ok x->K .normal (B x) (k x)
   | _,_=>False
 | .scope c,A,s,K=>go N c A s fun e A s=>match e with
   | .goto _=>False
   | e=>K e A s
 | .loop c,A,s,K=>Ma N s A fun A s=>match s with
   | .loop X inv ok m k=>(∃ x,ok x/\RM A (inv x))/\∀ x,ok x->go N c (inv x) (k x) fun e A' s'=>match e with
     | .normal=>Ma N s' A' fun A' _=> ∃ y,ok y/\m y<m x/\RM A' (inv y)
     | e=>K e A' s'
   | _=>False
 | .region _ ops false,A,s,K=>Ma N s A fun A s=>B6 N ops [] s ops.toList A fun A s=>K .normal A s
 | .region _ ops true,A,s,K=>Ma N s A fun A s=>match s with
   | .dx m pl tb zs k=>match P.follows .mixedOrders&&oN ops m tb zs pl&&Ab ops m pl&&An N ops zs with
     | true=>Kw N ops tb zs k pl A fun A s=>B6 N ops [] s (ops.toList.drop m) A fun A s=>K .normal A s
     | false=>False
   | _=>False
 | _,_,_,_=>False
section
variable {P:Program} {N:Nat} {ops:Array Oper} {A A' A1 B:AS}
variable {w:World} {Pb Kb:Nat->Prop} {a:Act} {F:l9->List Nat}
theorem FZ{X:Type} {c:Code} {Q:Exit->AS->Prop} (inv:X->AS) (ok:X->Prop) (m:X->Nat) (h0:∃ x,ok x/\Oh A (inv x).t/\Ny A (inv x).h)
 (round:∀ x,ok x->T P N c (inv x) fun e A'=>match e with
  | .normal=>Hx N A' fun A'=> ∃ y,ok y/\m y<m x/\Oh A' (inv y).t/\Ny A' (inv y).h
  | e=>Q e A'):T P N (.loop c) A Q:=by
 obtain⟨x0,TB,l0,r0⟩:=h0
 refine Ii (fun n A=> ∃ x,m x=n/\ok x/\Oh A (inv x).t/\Ny A (inv x).h) (m x0) ⟨x0,rfl,TB,l0,r0⟩ ?_
 rintro n A ⟨x,rfl,hx,h1,h2⟩
 refine JA h1 h2 (lb (kJ (round x hx) fun e A' hq=>?_))
 cases e with
 | normal=>exact Hx.mono hq fun B ⟨y,k1,k2,k3,k4⟩=>⟨m y,k2,y,rfl,k1,k3,k4⟩
 | _=>exact Hx.of hq
def ngo(Q:Exit->AS->Prop):Exit->AS->Prop
 | .goto _,_=>False
 | e,A=>Q e A
theorem FT{c:Code}{Q:Exit->AS->Prop}(h:T P N c A (ngo Q)):T P N (.scope c) A Q:=by
 intro Pb Kb a w F hs
 refine wp_scope_straight (wp_mono (h Pb Kb a w F hs) fun e a' w' hn=>?_)
 cases e with
 | goto l=>obtain⟨_,_,_,_,h,_⟩:=hn;exact h
 | _=>exact hn
theorem EO:∀ (c:Code) {A:AS} {s:Sc P} {K:Exit->AS->Sc P->Prop},go N c A s K->T P N c A fun e B=> ∃ s',K e B s':=by
 intro c
 induction c with
 | skip=>intro A s K h;exact IU ⟨_,h⟩
 | label l=>intro A s K h;exact FH ⟨_,h⟩
 | exit i=>intro A s K h;exact He ⟨_,h⟩
 | goto i=>intro A s K h;exact Is ⟨_,h⟩
 | ret=>intro A s K h;exact nk ((jr s h).mono fun B hB=>Jt hB)
 | seq x y RO RN=>
   intro A s K h
   refine Ja (kJ (RO h) fun e B hB=>?_)
   obtain⟨s',hB⟩:=hB
   cases e with
   | normal=>exact RN hB
   | _=>exact⟨_,hB⟩
 | scope c ih=>
   intro A s K h
   refine FT (kJ (ih h) fun e B hB=>?_)
   obtain⟨s',hB⟩:=hB
   cases e with
   | goto l=>exact hB
   | _=>exact⟨_,hB⟩
 | block id c ih=>
   intro A s K h
   refine GN (kJ (ih h) fun e B hB=>?_)
   obtain⟨s',hB⟩:=hB
   cases e with
   | exit j=>
     simp only[Vo]
     simp only at hB
     split at hB
     rename_i e;rw[if_pos (by simpa using e)];exact⟨_,hB⟩
     rename_i e;rw[if_neg (by simpa using e)];exact⟨_,hB⟩
   | _=>exact⟨_,hB⟩
 | cond c x y RO RN=>
   intro A s K h
   refine nk ((jr s h).mono fun B hB=>?_)
   obtain⟨s',hB⟩:=hB
   split at hB
   rename_i e
   exact Bh e (fun hb=>RO (hB.1 hb)) (fun hb=>RN (hB.2 hb))
   rename_i b X I ok s1 s2 k e
   obtain⟨h1,h2,h3⟩:=hB
   have step:∀ (z:Code) (K':Exit->AS->Sc P->Prop),(∀ A' s',K' .normal A' s'->Ma N s' A' fun A' _=> ∃ x,ok x/\RM A' (I x))->(∀ e,e≠.normal->∀ A' s',K' e A' s'->K e A' s')->
    (T P N z B fun e A'=> ∃ s',K' e A' s')->T P N z B fun e A'=> ∃ s',K e A' s':=fun z K' hn ho hz=>by
    refine lb (kJ hz fun e A' hq=>?_)
    obtain⟨s',hq⟩:=hq
    by_cases he:e=.normal
    subst he
    refine(jr s' (hn _ _ hq)).bind fun B' Vk=>?_
    obtain⟨_,x,k1,k2⟩:=Vk
    exact EV (qs k2).1 (qs k2).2 ⟨_,h3 x k1⟩
    exact Hx.of ⟨_,ho e he _ _ hq⟩
   refine Bh e (fun hb=>step _ _ ?_ ?_ (RO (h1 hb))) (fun hb=>step _ _ ?_ ?_ (RN (h2 hb)))
   exact fun _ _ h=>h
   intro e he A' s' h;cases e <;> first | exact h | exact absurd rfl he
   exact fun _ _ h=>h
   intro e he A' s' h;cases e <;> first | exact h | exact absurd rfl he
   exact hB.elim
 | loop c ih=>
   intro A s K h
   refine nk ((jr s h).mono fun B hB=>?_)
   obtain⟨s',hB⟩:=hB
   split at hB
   rename_i X inv ok m k
   refine FZ inv ok m (by obtain⟨x,a,b⟩:=hB.1;exact⟨x,a,qs b⟩) fun x hx=>kJ (ih (hB.2 x hx)) fun e A' hq=>?_
   obtain⟨s',hq⟩:=hq
   cases e with
   | normal=>exact(jr s' hq).mono fun B ⟨_,y,a,b,c⟩=>⟨y,a,b,qs c⟩
   | _=>exact⟨_,hq⟩
   exact hB.elim
 | region id ops draw=>
   intro A s K h
   cases draw with
   | false=>exact nk ((jr s h).mono fun B ⟨s',hB⟩=>Dr (BR s' hB))
   | true=>
     refine nk ((jr s h).mono fun B hB=>?_)
     obtain⟨s',hB⟩:=hB
     split at hB
     split at hB
     rename_i e
     simp only[Bool.and_eq_true]at e
     exact uz e.1.1.1 e.1.1.2 e.2 e.1.2 (nZ (fun B ⟨B',hA,s',hB⟩=>⟨B',hA,BR s' hB⟩) _ (HH _ hB))
     exact hB.elim
     exact hB.elim
 | _=>intro A s K h;exact h.elim
def nT(H:List (Nat×(Nat×V)))(xs:List l9):Bool:=xs.all fun r=>match r with
 | .key k=>(lk k H).isNone
 | .slot _=>true
def tO(rs:List ResultVar)(Q:V->AS->Prop)(H:List (Nat×(Nat×V)))(A:AS):Prop:=match wz A rs with
    | some (C,xs)=>match js P rs xs&&nodupB (xs.map (·.1))&&nT H (xs.map (·.1)) with
      | true=>cj C (Q (one (xs.map (·.2))) A)
      | false=>False
    | none=>False
def CX(N:Nat)(rs:List ResultVar)(Q:V->AS->Prop)(H:List (Nat×(Nat×V))):Exit->AS->Sc P->Prop:=fun e A s=>match e with
 | .normal=>Ma N s A fun A _=>tO (P:=P) rs Q H A
 | .ret=>tO (P:=P) rs Q H A
 | _=>False
theorem oY{H:List (Nat×(Nat×V))}{xs:List l9}(h:nT H xs=true)(k:Nat)(hk:lk k H≠none):l9.key k ∉ xs:=fun c=>by
 unfold nT at h
 rw[List.all_eq_true]at h
 have:=h _ c
 simp only[Option.isNone_iff_eq_none]at this
 exact hk this
theorem PF.Vw{f:FuncId} {args:List V} {H:List (Nat×(Nat×V))} {X:Type} {post:X->Prop} {E:X->V} {H':X->List (Nat×(Nat×V))}
 (h:PF P f args H (fun r h=> ∃ x,post x/\wk r (E x)=E x/\h=H' x)):PF P f args H (fun r h=> ∃ x,post x/\r=E x/\h=H' x):=
 ⟨h.1,fun w Pb Kb cargs F hi=>(h.2 w Pb Kb cargs F hi).mono fun e w'=>by
  rintro⟨r,x,H1,Pb',C5,F',rfl,⟨z,q1,q2,rfl⟩,hf⟩
  exact⟨E z,x,H' z,Pb',C5,F',rfl,⟨z,q1,rfl,rfl⟩,by have:=vM (E z) hf.val;rw[q2]at this;exact⟨this,hf.root,hf.bM,hf.nodup,hf.free,hf.sub,hf.bound,hf.mP,hf.mK,hf.Od,hf.dT⟩⟩⟩
theorem eG{f:FuncId} {fn:Func} {c:Code} {args:List V} {H:List (Nat×(Nat×V))} {N:Nat} {rs:List ResultVar} {X:Type} {post:X->Prop} {E:X->V} {H':X->List (Nat×(Nat×V))}
 (hf:P.funcs[f]? =some fn) (SZ:(fn.name== "runtime.NumGoroutine")=false) (hb:fn.body=some c) (hN:fn.ntmps=N) (Ou:fn.results.toList=rs) (hlen:Nat.ble args.length N=true)
 (HK:List (Nat×(Nat×V))) (hHK:∀ x k,lk k (H' x)≠none->lk k HK≠none)
 (sc:Sc P) (VC:Prop) (he:VC=go N c ⟨enum 0 args,H⟩ sc (CX N rs (fun v A=> ∃ x,post x/\rG A (H' x) (wk v (E x)=E x)) HK)) (h:VC):
 PF P f args H (fun r h=> ∃ x,post x/\r=E x/\h=H' x):=by
 subst hN Ou
 rw[he]at h
 refine PF.Vw (yQ hf hb (dv hf SZ (by rw[hb];rfl)) (Nat.le_of_ble_eq_true hlen) (lb (kJ (EO _ h) ?_)))
 rintro e A0 ⟨s0,hq⟩
 have fin:∀ A,(e=.normal\/e=.ret)->tO (P:=P) fn.results.toList (fun v A=> ∃ x,post x/\rG A (H' x) (wk v (E x)=E x)) HK A->Eg P fn.results.toList (fun r h=> ∃ x,post x/\wk r (E x)=E x/\h=H' x) e A:=fun A he hq=>by
  unfold tO at hq
  split at hq
  rename_i C xs e1
  split at hq
  rename_i e2
  simp only[Bool.and_eq_true]at e2
  obtain⟨hC,x,q1,hq⟩:=lY.1 hq
  obtain⟨q2,q3⟩:=qY hq
  obtain⟨C',f1,f2⟩:=qB e1 hC
  exact⟨he,xs,H' x,qa f1 f2,nV e2.1.1,rO e2.1.2,q3,fun k hk=>oY e2.2 k (hHK x k hk),x,q1,q2,rfl⟩
  exact hq.elim
  exact hq.elim
 cases e with
 | normal=>exact(jr s0 hq).mono fun B ⟨_,hB⟩=>fin B (.inl rfl) hB
 | ret=>exact Hx.of (fin A0 (.inr rfl) hq)
 | _=>exact hq.elim
theorem HM{f:FuncId} {fn:Func} {c:Code} {args:List V} {H:List (Nat×(Nat×V))} {N:Nat} {rs:List ResultVar} {E:V} {H':List (Nat×(Nat×V))}
 (hf:P.funcs[f]? =some fn) (SZ:(fn.name== "runtime.NumGoroutine")=false) (hb:fn.body=some c) (hN:fn.ntmps=N) (Ou:fn.results.toList=rs) (hlen:Nat.ble args.length N=true)
 (sc:Sc P) (VC:Prop) (he:VC=go N c ⟨enum 0 args,H⟩ sc (CX N rs (fun v A=>rG A H' (wk v E=E)) H')) (h:VC):
 PF P f args H (fun r h=>r=E/\h=H'):=by
 subst hN Ou
 rw[he]at h
 have:=PF.Vw (X:=Unit) (post:=fun _=>True) (E:=fun _=>E) (H':=fun _=>H') (yQ (P:=P) (f:=f) (args:=args) (H:=H) (Q:=fun r h=> ∃ _:Unit,True/\wk r E=E/\h=H') hf hb (dv hf SZ (by rw[hb];rfl)) (Nat.le_of_ble_eq_true hlen) (lb (kJ (EO _ h) ?_)))
 exact this.mono fun r H ⟨_,_,h1,h2⟩=>⟨h1,h2⟩
 rintro e A0 ⟨s0,hq⟩
 have fin:∀ A,(e=.normal\/e=.ret)->tO (P:=P) fn.results.toList (fun v A=>rG A H' (wk v E=E)) H' A->Eg P fn.results.toList (fun r h=> ∃ _:Unit,True/\wk r E=E/\h=H') e A:=fun A he hq=>by
  unfold tO at hq
  split at hq
  rename_i C xs e1
  split at hq
  rename_i e2
  simp only[Bool.and_eq_true]at e2
  obtain⟨hC,hq⟩:=lY.1 hq
  obtain⟨q2,q3⟩:=qY hq
  obtain⟨C',f1,f2⟩:=qB e1 hC
  exact⟨he,xs,H',qa f1 f2,nV e2.1.1,rO e2.1.2,q3,fun k hk=>oY e2.2 k hk,(),trivial,q2,rfl⟩
  exact hq.elim
  exact hq.elim
 cases e with
 | normal=>exact(jr s0 hq).mono fun B ⟨_,hB⟩=>fin B (.inl rfl) hB
 | ret=>exact Hx.of (fin A0 (.inr rfl) hq)
 | _=>exact hq.elim
end
end Go.Abs
namespace Go.Abs
theorem fD{xs:List V}{j sz g0 o0 g o c:Nat}{v:V}(h:xs[j]? =some v):V.at g0 o0 (.own sz xs g o c) [j]=some (g,o+j*sz,v):=by simp only[V.at,h]
theorem lV{xs ys:List V}{j sz g o c:Nat}{x v:V}(h:xs[j]? =some x)(e:xs.set j v=ys):V.set (.own sz xs g o c) [j] v=.own sz ys g o c:=by simp only[V.set,h,e]
theorem RA{x y:V}{r:List V}(h:x=y):V.agg (x::r)=V.agg (y::r):=by rw[h]
theorem mN{x y u:V}{r:List V}{p:List Nat}(h:V.set x p u=y):V.set (.agg (x::r)) (0::p) u=V.agg (y::r):=by rw[<- h];rfl
theorem LM{a0 a1 x y:V}{r:List V}(h:x=y):V.agg (a0::a1::x::r)=V.agg (a0::a1::y::r):=by rw[h]
theorem dq{a0 a1 x y u:V}{r:List V}{p:List Nat}(h:V.set x p u=y):V.set (.agg (a0::a1::x::r)) (2::p) u=V.agg (a0::a1::y::r):=by rw[<- h];rfl
theorem Ka{a0 a1 a2 a3 a4 x y u:V}{r:List V}{p:List Nat}(h:V.set x p u=y):V.set (.agg (a0::a1::a2::a3::a4::x::r)) (5::p) u=V.agg (a0::a1::a2::a3::a4::y::r):=by rw[<- h];rfl
end Go.Abs
namespace Go.Abs
open Go Go.RowKit
abbrev m8(x:Int):Prop:= -9223372036854775808<=x/\x<=9223372036854775807
abbrev MP(x:Int):Prop:=0<=x/\x<=255
abbrev Ix{α:Type}(i:Int)(s:List α):Prop:=0<=i/\i<s.length
abbrev Sx{α:Type}(lo hi:Int)(s:List α):Prop:=0<=lo/\lo<=hi/\hi<=s.length
abbrev Ex(i:Int)(xs:List V)(v:V):Prop:=0<=i/\xs[Int.toNat i]? =some v
abbrev s7(a b:Int):Bool:=decide (a<b)
abbrev B5(a b:Int):Bool:=decide (a<=b)
abbrev s9(a b:Int):Bool:=decide (a>b)
abbrev y0(a b:Int):Bool:=decide (a>=b)
abbrev r4(a b:Int):Bool:=a==b
abbrev B9(a b:Int):Bool:=a != b
abbrev Br(b:Bool)(p q:Prop):Prop:=(b=true->p)/\(b=false->q)
abbrev Gd(b:Bool)(p:Prop):Prop:=b=true->p
abbrev Q(x y:V):Prop:=x=y
abbrev E(x:V):Prop:=x=x
abbrev Qr(g:Nat)(x:V)(g':Nat)(y:V):Prop:=(g,x)=(g',y)
abbrev Er(g:Nat)(x:V):Prop:=(g,x)=(g,x)
abbrev Z(g o:Nat):Prop:=(g,o)=(g,o)
abbrev In(i:Int)(n:Nat):Prop:=0<=i/\i<n
abbrev Pk(c a b:Bool):Prop:=(c=true->a=true)/\(c=false->b=true)
theorem nb:(∀ (p:Prop) [Decidable p],(decide p=true)=p)/\(∀ (p:Prop) [Decidable p],(decide p=false)= ¬ p)/\(∀ a b:Int,(¬ a<b)=(b<=a))/\(∀ a b:Int,(¬ a<=b)=(b<a))/\(∀ a b:Int,(a>b)=(b<a))/\(∀ a b:Int,(a>=b)=(b<=a))/\
 (∀ (α:Type) [BEq α] [LawfulBEq α] (a b:α),((a==b)=true)=(a=b))/\(∀ (α:Type) [BEq α] [LawfulBEq α] (a b:α),((a==b)=false)= ¬ a=b)/\
 (∀ (α:Type) [BEq α] [LawfulBEq α] (a b:α),((a != b)=true)= ¬ a=b)/\(∀ (α:Type) [BEq α] [LawfulBEq α] (a b:α),((a != b)=false)=(a=b))/\
 (∀ a b:Bool,((a||b)=true)=(a=true\/b=true))/\(∀ a b:Bool,((a||b)=false)=(a=false/\b=false))/\(∀ a b:Bool,((a&&b)=true)=(a=true/\b=true))/\(∀ a b:Bool,((a&&b)=false)=(a=true->b=false))/\
 (∀ a:Bool,((!a)=true)=(a=false))/\(∀ a:Bool,((!a)=false)=(a=true))/\(∀ a:Bool,(¬ a=true)=(a=false))/\(∀ a:Bool,(¬ a=false)=(a=true))/\(∀ p:Prop,(¬ ¬ p)=p)/\
 (∀ a:Bool,(a==true)=a)/\(∀ a:Bool,(a==false)=!a)/\(∀ a:Bool,(true&&a)=a)/\(∀ a:Bool,(a&&true)=a)/\((!true)=false)/\((!false)=true)/\(∀ a:Bool,(!!a)=a)/\(∀ (α β:Type) (f:α->β) (l:List α),(l.map f).length=l.length):=by
 refine⟨fun p _=>by simp,fun p _=>by simp,fun a b=>by simp,fun a b=>by simp,fun a b=>rfl,fun a b=>rfl,fun α _ _ a b=>by simp,fun α _ _ a b=>by simp,fun α _ _ a b=>by simp,fun α _ _ a b=>by simp,fun a b=>by simp,fun a b=>by simp,fun a b=>by simp,fun a b=>by cases a <;> simp,
  fun a=>by simp,fun a=>by simp,fun a=>by simp,fun a=>by simp,fun p=>by simp,fun a=>by simp,fun a=>by simp,fun a=>by simp,fun a=>by simp,rfl,rfl,fun a=>by simp,fun _ _ f l=>List.length_map ..⟩
end Go.Abs
namespace Go.Abs
open Go Go.RowKit
section
variable {w w':World} {Pb Kb Pb':Nat->Prop} {N:Nat} {A A' A1 B:AS} {a:Act} {F:l9->List Nat}
end
theorem aw{P:Program} {f:FuncId} {fn:Func} {args:List V} {H:List (Nat×(Nat×V))} {N:Nat} {rs:List ResultVar} {E:V} {H':List (Nat×(Nat×V))}
 (hf:P.funcs[f]? =some fn) (sc:Sc P) (VC:Prop) (h:VC) (SZ:(fn.name== "runtime.NumGoroutine")=false:=by kernel_rfl) (hb:fn.body.isSome=true:=by kernel_rfl) (hN:fn.ntmps=N:=by kernel_rfl) (Ou:fn.results.toList=rs:=by kernel_rfl) (hlen:Nat.ble args.length N=true:=by kernel_rfl)
 (he:VC=go N (fn.body.getD .skip) ⟨enum 0 args,H⟩ sc (CX N rs (fun v A=>rG A H' (wk v E=E)) H'):=by kernel_rfl):PF P f args H (fun r h=>r=E/\h=H'):=by
 cases U5:fn.body with
 | none=>rw[U5]at hb;cases hb
 | some c=>
   rw[U5]at he
   exact HM hf SZ U5 hN Ou hlen sc VC he h
abbrev Sc.q{P:Program}(n:Nat)(k:Sc P):Sc P:=.r n [] k
end Go.Abs
namespace Go.Abs
open Go Go.RowKit
mutual
def V.lits:V->Option (List Value)
 | .lit x=>if x.oneCell' then some [x] else none
 | .agg vs=>V.pZ vs
 | _=>none
def V.pZ:List V->Option (List Value)
 | []=>some []
 | v::vs=>match v.lits,V.pZ vs with
   | some a,some b=>some (a++b)
   | _,_=>none
end
def V.val? :V->Option Value
 | .lit x=>if x.oneCell' then some x else none
 | .agg us=>(V.pZ us).map fun l=>.agg l.toArray
 | .ptr _ _ g o=>some (.pointer (some ⟨g,o,none⟩))
 | _=>none
section
variable {w w':World} {Pb Kb Pb':Nat->Prop} {N:Nat} {A A' B:AS} {a:Act} {F:l9->List Nat} {P:Program} {ops:Array Oper}
mutual
theorem xI:∀ (v:V) {l},v.lits=some l->∀ {cs F},R w Pb v cs F↔cs=l/\F=[]
 | .lit x,l,h,cs,F=>by
   simp only[V.lits]at h
   split at h
   rename_i hx;simp at h;subst h;simp only[R];exact⟨fun h=>h.2,fun h=>⟨hx,h⟩⟩
   simp at h
 | .agg vs,l,h,cs,F=>by simp only[V.lits]at h;simp only[R];exact qd vs h
 | .sl ..,_,h,_,_=>by simp[V.lits]at h
 | .tup _,_,h,_,_=>by simp[V.lits]at h
 | .gv _ _,_,h,_,_=>by simp[V.lits]at h
 | .own ..,_,h,_,_=>by simp[V.lits]at h
 | .hd ..,_,h,_,_=>by simp[V.lits]at h
 | .ow ..,_,h,_,_=>by simp[V.lits]at h
 | .om ..,_,h,_,_=>by simp[V.lits]at h
 | .mp ..,_,h,_,_=>by simp[V.lits]at h
 | .ptr ..,_,h,_,_=>by simp[V.lits]at h
 | .ep _,_,h,_,_=>by simp[V.lits]at h
 | .b9,_,h,_,_=>by simp[V.lits]at h
theorem qd:∀ (vs:List V) {l},V.pZ vs=some l->∀ {cs F},RL w Pb vs cs F↔cs=l/\F=[]
 | [],l,h,cs,F=>by simp[V.pZ]at h;subst h;simp[RL]
 | v::vs,l,h,cs,F=>by
   simp only[V.pZ]at h
   split at h
   rename_i a b h1 h2
   simp at h;subst h
   simp only[RL,xI v h1,qd vs h2]
   exact⟨fun⟨_,_,_,_,e1,e2,⟨e3,e4⟩,e5,e6⟩=>⟨by rw[e1,e3,e5],by rw[e2,e4,e6];rfl⟩,fun⟨e1,e2⟩=>⟨_,_,_,_,e1,(by rw[e2];rfl:_=([]:List Nat)++[]),⟨rfl,rfl⟩,rfl,rfl⟩⟩
   simp at h
end
theorem Iz{v:V}{x y:Value}{Fx:List Nat}(h:v.val? =some y)(hr:RV w Pb v x Fx):x=y/\Fx=[]:=by
 cases v with
 | lit z=>
   simp only[V.val?]at h
   split at h
   obtain⟨_,e,hF⟩:=(hr:R w Pb (.lit z) [x] Fx);simp at e h;exact⟨by rw[e,h],hF⟩
   simp at h
 | agg us=>
   simp only[V.val?,Option.map_eq_some_iff]at h
   obtain⟨l,h1,rfl⟩:=h
   obtain⟨cs,rfl,hr⟩:=(hr:∃ cs,x=.agg cs/\RL w Pb us cs.toList Fx)
   obtain⟨e1,e2⟩:=(qd us h1).1 hr
   exact⟨by rw[<- e1],e2⟩
 | ptr r p g o=>
   simp only[V.val?,Option.some.injEq]at h;subst h
   obtain⟨hF,e⟩:=(hr:R w Pb (.ptr r p g o) [x] Fx);simp at e;exact⟨e,hF⟩
 | _=>simp[V.val?]at h
theorem sR{v:V}{y:Value}(h:v.val? =some y):RV w Pb v y []:=by
 cases v with
 | lit z=>
   simp only[V.val?]at h
   split at h
   rename_i hz;simp at h;subst h;exact⟨hz,rfl,rfl⟩
   simp at h
 | agg us=>
   simp only[V.val?,Option.map_eq_some_iff]at h
   obtain⟨l,h1,rfl⟩:=h
   exact⟨_,rfl,(qd us h1).2 ⟨rfl,rfl⟩⟩
 | ptr r p g o=>
   simp only[V.val?,Option.some.injEq]at h;subst h
   exact⟨rfl,rfl⟩
 | _=>simp[V.val?]at h
theorem wC(hs:s4 N Pb Kb A a w F){x:Operand}{y:Value}(h:(A.ev x).val? =some y):a.eval x=y:=by
 obtain⟨_,hr⟩:=df hs x
 exact(Iz h hr).1
theorem zq{v:V}{y:Value}{vs:List V}{xs:List Value}(h:v.val? =some y)(hr:RVs w Pb vs xs []):RVs w Pb (v::vs) (y::xs) []:=by
 have:=sR (w:=w) (Pb:=Pb) h
 refine⟨y,xs,[],[],rfl,rfl,?_,hr⟩
 cases v with
 | agg us=>exact this
 | lit _=>exact this
 | ptr _ _ _ _=>exact this
 | _=>simp[V.val?]at h
theorem qn{v1 v2:V}{y1 y2:Value}(h1:v1.val? =some y1)(h2:v2.val? =some y2):RV w Pb (.tup [v1,v2]) (.tuple #[y1,y2]) []:=
 ⟨_,rfl,zq h1 (zq h2 ⟨rfl,rfl⟩)⟩
theorem s4.mod(hs:s4 N Pb Kb A a w F) {t g:Nat} {v':V} (hg:g∈F (.slot t)) (hk:∀ k,k≠g->w'.heap[k]? =w.heap[k]?) (hsz:w'.heap.size=w.heap.size)
 (hv:RV w' Pb v' (a.tmps.getD t undef) (F (.slot t))):s4 N Pb Kb (A.put (some t) v') a w' F where
 size:=hs.size
 defers:=hs.defers
 slot:=fun i=>by
  rw[AS.ay]
  split
  rename_i e;subst e;exact hv
  rename_i e
  refine lq _ (hs.slot i) (fun x hx=>hk x fun c=>?_) (fun x hx=>hk x fun c=>?_) (fun _ h=>h) (fun x hx c=>(hs.free _ x hx).1 (hs.sub x c))
  subst c;exact(hs.free _ _ hg).1 (hs.sub _ hx)
  subst c;exact hs.bM (.slot i) (.slot t) (fun c=>e (by injection c)) _ hx hg
 root:=fun k g' v h=>by
  obtain⟨F',e,hA⟩:=hs.root k g' v h
  refine⟨F',e,?_⟩
  have hne:∀ x,x∈g'::F'->x≠g:=fun x hx c=>by
   subst c;exact hs.bM (.key k) (.slot t) (by simp) _ (by rw[e];exact hx) hg
  obtain⟨cs,cells,⟨e1,fr,hb,hfr⟩,hr,hc⟩:=hA
  exact⟨cs,cells,⟨e1,fr,(hk g' (hne g' (by simp))).trans hb,hfr⟩,fm _ hr (fun x hx=>hk x fun c=>by subst c;exact(hs.free _ _ hg).1 (hs.sub _ hx)) (fun x hx=>hk x (hne x (by simp[hx]))) (fun _ h=>h)
   (fun x hx c=>(hs.free (.key k) x (by rw[e];simp[hx])).1 (hs.sub x c)),hc⟩
 bM:=hs.bM
 nodup:=hs.nodup
 free:=fun r x hx=>by rw[hsz];exact hs.free r x hx
 sub:=hs.sub
 bound:=fun x hx=>by rw[hsz];exact hs.bound x hx
theorem fK{o:Oper} {K:AS->Prop} {d:Nat} {v:V} (hd:o.dst=some d) (hN:d<N) (hK:K (A.put (some d) v))
 (h:∀ Pb Kb a w F,s4 N Pb Kb A a w F->∃ x,(execOp a.eval o).run P w=.ok (.value x) w/\RV w Pb v x []):D5 P N o A K:=
 gN (by rw[hd];exact hN) (by rw[hd];exact hK) h
end
section
variable {P:Program}
def Uj:Cu P where
 X:=Unit
 pre N o A:=match o.op,o.dst with
  | .makeInterface T x,some d=>match Nat.blt d N,tD P T,(A.ev x).val? with
    | true,some _,some y=>(∃ td,P.underlying T=some td/\(∀ i,td≠.interface i))/\(Value.iface T y).oneCell'=true
    | _,_,_=>False
  | _,_=>False
 post _ o A:=match o.op,o.dst with
  | .makeInterface T x,some d=>match (A.ev x).val? with
    | some y=>A.put (some d) (.lit (.iface T y))
    | none=>A
  | _,_=>A
 ok:=by
  rintro N ⟨dst,op,ty,pos,after,C4⟩ A K-hp hK
  replace hK:=hK ()
  simp only at hp hK
  split at hp
  rename_i T x d
  split at hp
  rename_i td0 y e1 e2 e3
  obtain⟨⟨td,h1,h2⟩,h3⟩:=hp
  simp only[e3]at hK
  refine fK rfl (bn e1) hK fun Pb Kb a w F hs=>⟨.iface T y,?_,cZ h3⟩
  have hy:=wC hs e3
  have hu:=aC (w:=w) h1
  cases td with
  | interface i=>exact absurd rfl (h2 i)
  | _=>simp[execOp,Instr.makeInterface,Sem.run_bind,hu,hy]
  exact hp.elim
  exact hp.elim
def Tv(v:V):Cu P where
 X:=Unit
 pre N o A:=match o.op,o.dst with
  | .typeAssert x _ T true,some d=>match Nat.blt d N,A.ev x,v.val? with
    | true,.lit (.iface T' y),some y'=>(∃ td,P.underlying T=some td/\(∀ i,td≠.interface i))/\T'=T/\y'=y
    | _,_,_=>False
  | _,_=>False
 post _ o A:=match o.dst with
  | some d=>A.put (some d) (.tup [v,bV true])
  | none=>A
 ok:=by
  rintro N ⟨dst,op,ty,pos,after,C4⟩ A K-hp hK
  replace hK:=hK ()
  simp only at hp hK
  split at hp
  rename_i x T1 T d
  split at hp
  rename_i T' y y' e1 e2 e3
  obtain⟨⟨td,h1,h2⟩,rfl,rfl⟩:=hp
  refine fK rfl (bn e1) hK fun Pb Kb a w F hs=>⟨.tuple #[y',.bool true],?_,qn e3 rfl⟩
  have hy:=bJ hs e2
  have hu:=aC (w:=w) h1
  cases td with
  | interface i=>exact absurd rfl (h2 i)
  | _=>simp[execOp,Instr.typeAssert,Sem.run_bind,hu,hy]
  exact hp.elim
  exact hp.elim
def Sq(z:ZT P):Cu P where
 X:=Unit
 pre N o A:=match o.op,o.dst with
  | .typeAssert x _ T true,some d=>match Nat.blt d N,A.ev x,T==z.T with
    | true,.lit (.iface T' y),true=>(∃ td,P.underlying T=some td/\(∀ i,td≠.interface i))/\T'≠T/\(∃ y,z.v.val? =some y/\∀ w,(zeroValue T).run P w=.ok y w)
    | _,_,_=>False
  | _,_=>False
 post _ o A:=match o.dst with
  | some d=>A.put (some d) (.tup [z.v,bV false])
  | none=>A
 ok:=by
  rintro N ⟨dst,op,ty,pos,after,C4⟩ A K-hp hK
  replace hK:=hK ()
  simp only at hp hK
  split at hp
  rename_i x T1 T d
  split at hp
  rename_i T' y e1 e2 e3
  obtain⟨⟨td,h1,h2⟩,hne,y2,hz,Sw⟩:=hp
  refine fK rfl (bn e1) hK fun Pb Kb a w F hs=>⟨.tuple #[y2,.bool false],?_,qn hz rfl⟩
  have hy:=bJ hs e2
  have hu:=aC (w:=w) h1
  cases td with
  | interface i=>exact absurd rfl (h2 i)
  | _=>simp[execOp,Instr.typeAssert,Sem.run_bind,hu,hy,hne,Sw]
  exact hp.elim
  exact hp.elim
def hY :List V->Option (List Value)
 | []=>some []
 | v::vs=>match v.val?,hY vs with
   | some y,some ys=>some (y::ys)
   | _,_=>none
theorem ln{N:Nat}{Pb Kb:Nat->Prop}{A:AS}{a:Act}{w:World}{F:l9->List Nat}(hs:s4 N Pb Kb A a w F):∀ (xs:List Operand) {ys:List Value},hY (xs.map A.ev)=some ys->xs.map a.eval=ys
 | [],ys,h=>by simp[hY]at h;simp[h]
 | x::xs,ys,h=>by
   simp only[List.map_cons,hY]at h
   split at h
   rename_i y T7 h1 h2
   simp at h;subst h
   rw[List.map_cons,wC hs h1,ln hs xs h2]
   simp at h
def Qa:Cu P where
 X:=Unit
 pre N o A:=match o.op,o.dst with
  | .makeFunc fn first w7,some d=>match Nat.blt d N,hY (first.toList.map A.ev),hY (w7.toList.map A.ev) with
    | true,some l1,some l2=>(Value.func fn l1.toArray l2.toArray).oneCell'=true
    | _,_,_=>False
  | _,_=>False
 post _ o A:=match o.op,o.dst with
  | .makeFunc fn first w7,some d=>match hY (first.toList.map A.ev),hY (w7.toList.map A.ev) with
    | some l1,some l2=>A.put (some d) (.lit (.func fn l1.toArray l2.toArray))
    | _,_=>A
  | _,_=>A
 ok:=by
  rintro N ⟨dst,op,ty,pos,after,C4⟩ A K-hp hK
  replace hK:=hK ()
  simp only at hp hK
  split at hp
  rename_i fn first w7 d
  split at hp
  rename_i l1 l2 e1 e2 e3
  simp only[e2,e3]at hK
  refine fK rfl (bn e1) hK fun Pb Kb a w F hs=>⟨.func fn l1.toArray l2.toArray,?_,cZ hp⟩
  have h1:=ln hs _ e2
  have h2:=ln hs _ e3
  have h1:first.map a.eval=l1.toArray:=by rw[<- h1];apply Array.ext';simp
  have h2:w7.map a.eval=l2.toArray:=by rw[<- h2];apply Array.ext';simp
  simp only[execOp,Instr.makeFunc,Sem.run_bind,Result.andThen_ok,Sem.run_pure,h1,h2]
  exact hp.elim
  exact hp.elim
end
end Go.Abs
namespace Go.Abs
open Go Go.RowKit
section
variable {w w':World} {Pb Kb Pb':Nat->Prop} {N:Nat} {A A' B:AS} {a:Act} {F:l9->List Nat} {P:Program} {ops:Array Oper}
theorem Bc{v:V}{x:Value}(h:v.lits=some [x]):∀ n,RL w Pb (List.replicate n v) (List.replicate n x) []
 | 0=>⟨rfl,rfl⟩
 | n+1=>⟨[x],List.replicate n x,[],[],rfl,rfl,(xI v h).2 ⟨rfl,rfl⟩,Bc h n⟩
theorem Jf{x:Value}{n:Nat}{zc:Array Value}(h:zc.toList=[x]):madeCells zc (n*1)=(List.replicate n x).toArray:=by
 have hz:zc= #[x]:=by rw[<- Array.toList_inj];simpa using h
 subst hz
 apply Array.ext
 simp[madeCells]
 intro i h1 h2;simp[madeCells,Nat.mod_one]at h1 ⊢
def VD(z:ZT P)(n:Nat):Cu P where
 X:=Nat
 pre N o A:=match o.op,o.dst with
  | .makeSlice T l c,some d=>match Nat.blt d N,tD P T,ti P z.T with
    | true,some (.sl e),some i=>(e=z.T/\i.sz=1/\(∃ x,z.v.lits=some [x])/\z.v.n=1)/\A.ev l=.lit (.int .i64 n)/\A.ev c=.lit (.int .i64 n)/\1<=n/\n*i.Kg<=140737488355328/\n<=9223372036854775807
    | _,_,_=>False
  | _,_=>False
 post g o A:=match o.dst with
  | some d=>A.put (some d) (.own 1 (List.replicate n z.v) g 0 n)
  | none=>A
 ok:=by
  rintro N ⟨dst,op,ty,pos,after,C4⟩ A K-hp hK
  simp only at hp hK
  split at hp
  rename_i T l c d
  split at hp
  rename_i e i e1 e2 e3
  obtain⟨⟨rfl,hsz,⟨x,hx⟩,Sy⟩,hl,hc,h1,O9,h63⟩:=hp
  obtain⟨inf,z0,Kj,hzero,hfl⟩:=z.ok
  obtain⟨Po,_,G3,_,Ot,ON,_⟩:=ib e3
  rw[Kj]at G3
  obtain rfl:=Option.some.inj G3
  have hu:=gG e2
  intro Pb Kb a w F Q hs
  have hl:=bJ hs hl
  have hc:=bJ hs hc
  have hz0:z0.cells.toList=[x]:=by
   have h1:=pG (w:=w) (Pb:=Pb) z.v hfl
   exact((xI z.v hx).1 h1).1
  have hm:=run_make (P:=P) w T z.T inf z0 hu Kj hzero .i64 .i64 n n (by omega) (by omega) (by rw[ON,<- Int.natCast_mul,Nat.mul_comm];omega) (by omega)
  rw[Int.toNat_natCast,Ot,hsz,Jf hz0]at hm
  have Lf:(execOp a.eval ⟨some d,.makeSlice T l c,ty,pos,after,C4⟩).run P w=.ok (.value (.slice (some ⟨w.heap.size,0,none⟩) n n)) (w.alloc (.cells (List.replicate n x).toArray z.T)):=by
   simp only[execOp,Sem.run_bind,hl,hc,hm,Result.andThen_ok,Sem.run_pure]
  unfold Oper.wp
  rw[Lf,Oper.upon_value]
  have K0:=hs.mf (.cells (List.replicate n x).toArray z.T)
  have MH: ¬ Kb w.heap.size:=fun h=>by have:=hs.bound _ h;omega
  have hR:R (w.alloc (.cells (List.replicate n x).toArray z.T)) Pb (.own 1 (List.replicate n z.v) w.heap.size 0 n) [.slice (some ⟨w.heap.size,0,none⟩) n n] [w.heap.size]:=
   .inr ⟨h1,Nat.one_pos,by simp,by simp,fun v Pr=>by rw[List.eq_of_mem_replicate Pr];exact Sy,fun c=>MH (hs.sub _ c),_,[],_,rfl,Bc hx n,⟨z.T,(0,0),fv w _,fun i _ h=>by omega⟩,by simp,fun j u hu=>by rw[Nat.zero_add,List.getElem?_toArray];exact hu⟩
  exact⟨_,Pb,Kb,_,hK _,K0.put (bn e1) hR (fun r _ g hg=>by
   obtain rfl:=List.mem_singleton.1 hg
   intro c;have:=(hs.free r _ c).2;omega) (by simp) (fun g hg=>by
   obtain rfl:=List.mem_singleton.1 hg
   exact⟨MH,by rw[cY];omega⟩),fun _ h=>h,fun _ h=>h,fun _ h=>.inl h,w8.alloc hs.bound _⟩
  exact hp.elim
  exact hp.elim
def bU:List (BL×Value)->BL->Option Value
 | [],_=>none
 | p::r,k=>if p.1=k then some p.2 else bU r k
def eB:List (BL×Value)->BL->Value->List (BL×Value)
 | [],k,x=>[(k,x)]
 | p::r,k,x=>if p.1=k then (k,x)::r else p::eB r k x
theorem str_inj{a b:BL}:((⟨a.toArray⟩:ByteArray)== ⟨b.toArray⟩)=decide (a=b):=by
 rw[Bool.eq_iff_iff,MapKept.bytes_beq]
 simp
theorem jv(k:BL):∀ (es:List (BL×Value)) (l:List MapEntry) (i:Nat),l.map (fun e=>(e.key,e.val))=es.map (fun p=>(Value.string ⟨p.1.toArray⟩,p.2))->
 (bU es k=none->Instr.findNow .string (.string ⟨k.toArray⟩) l i=some none)/\
 (∀ x,bU es k=some x->∃ j,Instr.findNow .string (.string ⟨k.toArray⟩) l i=some (some (i+j,x))/\j<l.length/\(∃ e,l[j]? =some e/\e.key=.string ⟨k.toArray⟩)/\
  ∀ y,(l.modify j fun e=>{ e with key:=.string ⟨k.toArray⟩,val:=y }).map (fun e=>(e.key,e.val))=(eB es k y).map (fun p=>(Value.string ⟨p.1.toArray⟩,p.2)))
 | [],l,i,h=>by
   have:l=[]:=by simpa using h
   subst this
   simp[bU,Instr.findNow]
 | p::r,l,i,h=>by
   cases l with
   | nil=>simp at h
   | cons e l=>
     simp only[List.map_cons,List.cons.injEq,Prod.mk.injEq]at h
     obtain⟨⟨h1,h2⟩,h3⟩:=h
     obtain⟨i1,i2⟩:=jv k r l (i+1) h3
     simp only[bU,eB,Instr.findNow,h1,Instr.sameNow,str_inj]
     by_cases hk:p.1=k
     subst hk
     simp only[if_true,decide_true]
     refine⟨by simp,fun x hx=>⟨0,?_,by simp,⟨e,rfl,h1⟩,fun y=>?_⟩⟩
     simp at hx;rw[h2,hx];rfl
     simp[h3]
     have L4: ¬ k=p.1:=fun c=>hk c.symm
     simp only[if_neg hk,decide_eq_false L4]
     refine⟨i1,fun x hx=>?_⟩
     obtain⟨j,j1,j2,⟨e',j3,j4⟩,j5⟩:=i2 x hx
     refine⟨j+1,by rw[j1];congr 2;simp;omega,by simp;omega,⟨e',by simpa using j3,j4⟩,fun y=>?_⟩
     have:=j5 y
     simp only[List.modify_succ_cons,List.map_cons,this,h1,h2]
theorem qV(k:BL)(y:Value):∀ (es:List (BL×Value)),bU es k=none->eB es k y=es++[(k,y)]
 | [],_=>rfl
 | p::r,h=>by
   simp only[bU]at h
   split at h
   simp at h
   rename_i hk;simp only[eB,if_neg hk,qV k y r h,List.cons_append]
theorem ma{e:Bool}{n:Nat}{T:Nat}{k:ByteArray}(h:P.underlying T=some .string):(Instr.checkKey e (n+1) T (.string k)).run P w=.ok () w:=by
 unfold Instr.checkKey
 simp[Sem.run_bind,aC (w:=w) h]
theorem xK{k:ByteArray}{n:Nat}:Instr.sameBits n (.string k) (.string k)=true:=by
 unfold Instr.sameBits
 exact(MapKept.bytes_beq k k).2 rfl
def Ui:Cu P where
 X:=Nat
 pre N o A:=match o.op,o.dst with
  | .makeMap _ none,some d=>match Nat.blt d N with
    | true=>True
    | false=>False
  | _,_=>False
 post g o A:=match o.dst with
  | some d=>A.put (some d) (.om [] g)
  | none=>A
 ok:=by
  rintro N ⟨dst,op,ty,pos,after,C4⟩ A K-hp hK
  simp only at hp hK
  split at hp
  rename_i T d
  split at hp
  rename_i e1
  intro Pb Kb a w F Q hs
  have Lf:(execOp a.eval ⟨some d,.makeMap T none,ty,pos,after,C4⟩).run P w=.ok (.value (.map (some w.heap.size))) (w.alloc (.map #[] 0)):=rfl
  unfold Oper.wp
  rw[Lf,Oper.upon_value]
  have K0:=hs.mf (.map #[] 0)
  have MH: ¬ Kb w.heap.size:=fun h=>by have:=hs.bound _ h;omega
  have hR:R (w.alloc (.map #[] 0)) Pb (.om [] w.heap.size) [.map (some w.heap.size)] [w.heap.size]:=
   ⟨rfl,rfl,fun c=>MH (hs.sub _ c),#[],0,fv w _,rfl,by simp,by simp⟩
  exact⟨_,Pb,Kb,_,hK _,K0.put (bn e1) hR (fun r _ g hg=>by
   obtain rfl:=List.mem_singleton.1 hg
   intro c;have:=(hs.free r _ c).2;omega) (by simp) (fun g hg=>by
   obtain rfl:=List.mem_singleton.1 hg
   exact⟨MH,by rw[cY];omega⟩),fun _ h=>h,fun _ h=>h,fun _ h=>.inl h,w8.alloc hs.bound _⟩
  exact hp.elim
  exact hp.elim
def Uh(t0:Nat)(es:List (BL×Value))(k:BL)(y:Value):Cu P where
 X:=Unit
 pre N o A:=match o.op,o.dst with
  | .mapUpdate T m kx x,none=>match tD P T,Nat.blt t0 N with
    | some (.map kt _),true=>match tD P kt,A.ev m,A.get t0 with
      | some .str,.lit (.map (some g)),.om Mc g'=>(g'=g/\Mc=es)/\A.ev kx=sV k/\(A.ev x).val? =some y
      | _,_,_=>False
    | _,_=>False
  | _,_=>False
 post _ o A:=match A.get t0 with
  | .om _ g=>A.put (some t0) (.om (eB es k y) g)
  | _=>A
 ok:=by
  rintro N ⟨dst,op,ty,pos,after,C4⟩ A K-hp hK
  replace hK:=hK ()
  simp only at hp hK
  split at hp
  rename_i T m kx x
  split at hp
  rename_i kt et e1 e2
  split at hp
  rename_i g Mc g' e3 e4 e5
  obtain⟨⟨rfl,rfl⟩,hk,hy⟩:=hp
  rw[e5]at hK
  intro Pb Kb a w F Q hs
  have hm:=bJ hs e4
  have hk:=bJ hs hk
  have hy:=wC hs hy
  have h0:=hs.slot t0
  rw[e5]at h0
  have h0:R w Pb (.om Mc g') [a.tmps.getD t0 undef] (F (.slot t0)):=h0
  obtain⟨hF,hc,UL,en,cl,hb,O8,hnd,hcl⟩:=h0
  obtain⟨td,hu,hd⟩:=cd e1
  have hu:P.underlying T=some (.map kt et):=by
   cases td <;> simp_all[cO]
  obtain⟨Pl,LA,NO⟩:=cd e3
  have LA:P.underlying kt=some .string:=by
   cases Pl <;> simp_all[cO]
  have Qv:∀ w:World,(Instr.checkKey false 10000 kt (.string (Str k))).run P w=.ok () w:=fun w=>ma LA
  obtain⟨f1,f2⟩:=jv k Mc en.toList 0 O8
  have hw:∃ NU Pe,(Instr.mapUpdate T (.map (some g')) (.string (Str k)) y).run P w=.ok () { w with heap:=w.heap.setIfInBounds g' (.map NU Pe) }/\
   NU.toList.map (fun e=>(e.key,e.val))=(eB Mc k y).map (fun p=>(.string ⟨p.1.toArray⟩,p.2))/\(NU.toList.map (·.born)).Nodup/\∀ e∈NU.toList,e.born<Pe:=by
   cases US:bU Mc k with
   | none=>
     have:=f1 US
     refine⟨en.push { key:=.string (Str k),val:=y,born:=cl },cl+1,?_,?_,?_,?_⟩
     rw[show (⟨k.toArray⟩:ByteArray)=Str k from rfl]at this
     simp[Instr.mapUpdate,run_underlying hu,MapKept.run_getObj_map hb,Qv,MapKept.run_findKey LA this,MapKept.run_setObj_map _ hb,Result.andThen]
     rw[qV k y Mc US];simp[O8,Str]
     simp only[Array.toList_push,List.map_append,List.map_cons,List.map_nil]
     rw[List.nodup_append]
     refine⟨hnd,by simp,fun a ha b hb=>?_⟩
     simp only[List.mem_singleton]at hb
     obtain⟨e,he,rfl⟩:=List.mem_map.1 ha
     have:=hcl e he;omega
     intro e he
     simp only[Array.toList_push,List.mem_append,List.mem_singleton]at he
     rcases he with he | rfl
     have:=hcl e he;omega
     simp
   | some x0=>
     obtain⟨j,j1,j2,⟨e,j3,j4⟩,j5⟩:=f2 x0 US
     rw[Nat.zero_add]at j1
     refine⟨en.modify j fun e=>{ e with key:=.string (Str k),val:=y },cl,?_,?_,?_,?_⟩
     rw[show (⟨k.toArray⟩:ByteArray)=Str k from rfl]at j1
     have Rq:((en[j]?).map (·.key)).getD (.string (Str k))=.string (Str k):=by
      have:en[j]? =some e:=by rw[<- Array.getElem?_toList];exact j3
      rw[this];exact j4
     simp[Instr.mapUpdate,run_underlying hu,MapKept.run_getObj_map hb,Qv,MapKept.run_findKey LA j1,Rq,Instr.keyThatStays,xK,MapKept.run_setObj_map _ hb,Result.andThen]
     rw[Array.toList_modify];exact j5 y
     rw[Array.toList_modify]
     have:(en.toList.modify j fun e=>{ e with key:=.string (Str k),val:=y }).map (·.born)=en.toList.map (·.born):=by
      apply List.ext_getElem?
      intro i
      simp only[List.getElem?_map,List.getElem?_modify]
      cases en.toList[i]? with
      | none=>rfl
      | some e=>simp only[Option.map_eq_map,Option.map_some];split <;> rfl
     rw[this];exact hnd
     intro e he
     rw[Array.toList_modify]at he
     obtain⟨i,hi⟩:=List.mem_iff_getElem?.1 he
     rw[List.getElem?_modify]at hi
     obtain⟨e',h1,h2⟩:=Option.map_eq_some_iff.1 hi
     have:=hcl e' (List.mem_of_getElem? h1)
     rw[<- h2];split <;> simpa using this
  obtain⟨NU,Pe,x9,q1,q2,q3⟩:=hw
  have hgs:g'<w.heap.size:=(hs.free (.slot t0) g' (by rw[hF];simp)).2
  have Lf:(execOp a.eval ⟨none,.mapUpdate T m kx x,ty,pos,after,C4⟩).run P w=.ok .skip { w with heap:=w.heap.setIfInBounds g' (.map NU Pe) }:=by
   simp[execOp,hm,hk,hy,x9,Result.andThen]
  unfold Oper.wp
  rw[Lf,Oper.upon_skip]
  have hne:∀ k,k≠g'->(w.heap.setIfInBounds g' (.map NU Pe))[k]? =w.heap[k]? :=fun k hk=>by
   rw[Array.getElem?_setIfInBounds_ne (Ne.symm hk)]
  refine⟨_,Pb,Kb,F,hK,hs.mod (w':={ w with heap:=w.heap.setIfInBounds g' (.map NU Pe) }) (t:=t0) (g:=g') (by rw[hF];simp) hne (by simp) ?_,fun _ h=>h,fun _ h=>h,fun _ h=>.inl h,⟨rfl,rfl,rfl,by simp,fun k hk=>hne k fun c=>(hs.free (.slot t0) g' (by rw[hF];simp)).1 (c ▸ hk),fun k c _ _ hk=>⟨c,by rw[hne k (by rintro rfl;rw[hb]at hk;cases hk)];exact hk,rfl⟩⟩⟩
  exact(⟨hF,hc,UL,NU,Pe,(by simp[hgs]:(w.heap.setIfInBounds g' (.map NU Pe))[g']? =some (.map NU Pe)),q1,q2,q3⟩:R { w with heap:=w.heap.setIfInBounds g' (.map NU Pe) } Pb (.om (eB Mc k y) g') _ _)
  exact hp.elim
  exact hp.elim
  exact hp.elim
def mlC(t0:Nat):Cu P where
 X:=Unit
 pre N o A:=match o.op,o.dst with
  | .call ⟨.builtin .len,⟨[x]⟩,⟨[T]⟩⟩,some d=>match tD P T,Nat.blt d N with
    | some (.map _ _),true=>match A.ev x,A.get t0 with
      | .lit (.map (some g)),.om _ g'=>g'=g
      | _,_=>False
    | _,_=>False
  | _,_=>False
 post _ o A:=match o.dst,A.get t0 with
  | some d,.om es _=>A.put (some d) (.lit (.int .i64 es.length))
  | _,_=>A
 ok:=by
  rintro N ⟨dst,op,ty,pos,after,C4⟩ A K-hp hK
  replace hK:=hK ()
  simp only at hp hK
  split at hp
  rename_i x T d
  split at hp
  rename_i kt et e1 e2
  split at hp
  rename_i g es g' e3 e4
  subst hp
  rw[e4]at hK
  refine fK rfl (bn e2) hK fun Pb Kb a w F hs=>⟨.int .i64 es.length,?_,cZ rfl⟩
  have hm:=bJ hs e3
  have h0:=hs.slot t0
  rw[e4]at h0
  have h0:R w Pb (.om es g') [a.tmps.getD t0 undef] (F (.slot t0)):=h0
  obtain⟨hF,hc,UL,en,cl,hb,O8,hnd,hcl⟩:=h0
  obtain⟨td,hu,hd⟩:=cd e1
  have hu:P.underlying T=some (.map kt et):=by
   cases td <;> simp_all[cO]
  have hl:en.size=es.length:=by
   have:=congrArg List.length O8
   simpa using this
  have hr:((#[x]:Array Operand).map a.eval)= #[.map (some g')]:=by simp[hm]
  simp[execOp,resolve,Deferred.ofValue,invoke,builtin,Builtin.len_,hm,run_underlying hu,MapKept.run_getObj_map hb,Result.andThen,hl,goInt]
  exact hp.elim
  exact hp.elim
  exact hp.elim
def lkC(es:List (BL×Value))(k:BL)(v:V)(ok:Bool):Cu P where
 X:=Unit
 pre N o A:=match o.op,o.dst with
  | .lookup T x kx true,some d=>match tD P T,Nat.blt d N with
    | some (.map kt et),true=>match tD P kt,A.ev x with
      | some .str,.mp Mc=>(Mc=es)/\A.ev kx=sV k/\((ok=true/\∃ y,bU es k=some y/\v.val? =some y)\/(ok=false/\bU es k=none/\∃ y,v.val? =some y/\∀ w,(zeroValue et).run P w=.ok y w))
      | _,_=>False
    | _,_=>False
  | _,_=>False
 post _ o A:=match o.dst with
  | some d=>A.put (some d) (.tup [v,bV ok])
  | none=>A
 ok:=by
  rintro N ⟨dst,op,ty,pos,after,C4⟩ A K-hp hK
  replace hK:=hK ()
  simp only at hp hK
  split at hp
  rename_i T x kx d
  split at hp
  rename_i kt et e1 e2
  split at hp
  rename_i Mc e3 e4
  obtain⟨rfl,hk,hy⟩:=hp
  obtain⟨td,hu,hd⟩:=cd e1
  have hu:P.underlying T=some (.map kt et):=by
   cases td <;> simp_all[cO]
  obtain⟨Pl,LA,NO⟩:=cd e3
  have LA:P.underlying kt=some .string:=by
   cases Pl <;> simp_all[cO]
  have D7:∃ y,v.val? =some y:=by
   rcases hy with ⟨_,y,_,h⟩ | ⟨_,_,y,h,_⟩ <;> exact⟨y,h⟩
  obtain⟨y,hv⟩:=D7
  refine fK rfl (bn e2) hK fun Pb Kb a w F hs=>⟨.tuple #[y,.bool ok],?_,qn hv rfl⟩
  have hk:=bJ hs hk
  obtain⟨_,hx⟩:=df hs x
  rw[e4]at hx
  have hx:R w Pb (.mp Mc) [a.eval x] _:=hx
  obtain⟨_,g,hc,_,en,cl,hb,O8,_,_⟩:=hx
  simp only[List.cons.injEq,and_true]at hc
  obtain⟨f1,f2⟩:=jv k Mc en.toList 0 O8
  have Qv:∀ e,(Instr.checkKey e 10000 kt (.string (Str k))).run P w=.ok () w:=fun e=>ma LA
  rcases hy with ⟨rfl,y',h1,h2⟩ | ⟨rfl,h1,y',h2,Sw⟩
  rw[hv]at h2;obtain rfl:=Option.some.inj h2
  obtain⟨j,j1,_⟩:=f2 _ h1
  rw[show (⟨k.toArray⟩:ByteArray)=Str k from rfl]at j1
  simp[execOp,hc,hk,Instr.lookup,run_underlying hu,MapKept.run_getObj_map hb,Qv,MapKept.run_findKey LA j1,Result.andThen]
  rw[hv]at h2;obtain rfl:=Option.some.inj h2
  have j1:=f1 h1
  rw[show (⟨k.toArray⟩:ByteArray)=Str k from rfl]at j1
  simp[execOp,hc,hk,Instr.lookup,run_underlying hu,MapKept.run_getObj_map hb,Qv,MapKept.run_findKey LA j1,Result.andThen,Sw]
  exact hp.elim
  exact hp.elim
  exact hp.elim
def VE:Cu P where
 X:=Unit
 pre N o A:=match o.op,o.dst with
  | .call ⟨.builtin .len,⟨[x]⟩,⟨[T]⟩⟩,some d=>match tD P T,Nat.blt d N with
    | some (.map _ _),true=>match A.ev x with
      | .mp _=>True
      | _=>False
    | _,_=>False
  | _,_=>False
 post _ o A:=match o.op,o.dst with
  | .call ⟨.builtin .len,⟨[x]⟩,⟨[_]⟩⟩,some d=>match A.ev x with
    | .mp es=>A.put (some d) (.lit (.int .i64 es.length))
    | _=>A
  | _,_=>A
 ok:=by
  rintro N ⟨dst,op,ty,pos,after,C4⟩ A K-hp hK
  replace hK:=hK ()
  simp only at hp hK
  split at hp
  rename_i x T d
  split at hp
  rename_i kt et e1 e2
  split at hp
  rename_i es e3
  simp only[e3]at hK
  refine fK rfl (bn e2) hK fun Pb Kb a w F hs=>⟨.int .i64 es.length,?_,cZ rfl⟩
  obtain⟨_,hx⟩:=df hs x
  rw[e3]at hx
  have hx:R w Pb (.mp es) [a.eval x] _:=hx
  obtain⟨_,g,hm,_,en,cl,hb,O8,_,_⟩:=hx
  simp only[List.cons.injEq,and_true]at hm
  obtain⟨td,hu,hd⟩:=cd e1
  have hu:P.underlying T=some (.map kt et):=by
   cases td <;> simp_all[cO]
  have hl:en.size=es.length:=by
   have:=congrArg List.length O8
   simpa using this
  simp[execOp,resolve,Deferred.ofValue,invoke,builtin,Builtin.len_,hm,run_underlying hu,MapKept.run_getObj_map hb,Result.andThen,hl,goInt]
  exact hp.elim
  exact hp.elim
  exact hp.elim
end
end Go.Abs

namespace Go.Pd
theorem drop_cons{α:Type}{l:List α}{i:Nat}(h:i<l.length)(d:α):l.drop i=l.getD i d::l.drop (i+1):=by
 rw[List.drop_eq_getElem_cons h,List.getD_eq_getElem?_getD,List.getElem?_eq_getElem h];rfl
theorem aW{α:Type}{l:List α}{i:Nat}(h:i<l.length)(d:α):l.take (i+1)=l.take i++[l.getD i d]:=by
 rw[List.take_add_one,List.getD_eq_getElem?_getD,List.getElem?_eq_getElem h];rfl
theorem all_false{α:Type}{l:List α}{p:α->Bool}{i:Nat}{d:α}(h:i<l.length)(hp:p (l.getD i d)=false):l.all p=false:=by
 rw[List.all_eq_false]
 refine⟨l.getD i d,?_,by rw[hp];decide⟩
 rw[List.getD_eq_getElem?_getD,List.getElem?_eq_getElem h];exact List.getElem_mem h
theorem all_true{α:Type}{l:List α}{p:α->Bool}{d:α}(hp:∀ j,j<l.length->p (l.getD j d)=true):l.all p=true:=by
 rw[List.all_eq_true]
 intro x hx
 obtain⟨j,hj,rfl⟩:=List.getElem_of_mem hx
 have:=hp j hj
 rwa [List.getD_eq_getElem?_getD,List.getElem?_eq_getElem hj]at this
theorem bF{p:Nat->Prop}{i:Nat}(h:∀ j,j<i->p j)(hi:p i):∀ j,j<i+1->p j:=fun j hj=>by
 rcases Nat.lt_succ_iff_lt_or_eq.1 hj with h' | rfl
 exact h j h'
 exact hi
def ag(c:UInt8):BL->BL×BL×Bool
 | []=>([],[],false)
 | x::r=>if x=c then ([],r,true) else (x::(ag c r).1,(ag c r).2.1,(ag c r).2.2)
def fG(b:UInt8):Bool:=decide (97<=b.toNat/\b.toNat<=122)
def dw(b:UInt8):Bool:=decide ((97<=b.toNat/\b.toNat<=122)\/(48<=b.toNat/\b.toNat<=57)\/b.toNat=46\/b.toNat=45)
def bR(b:UInt8):Int:=if 48<=b.toNat/\b.toNat<=57 then b.toNat-48 else if 97<=b.toNat/\b.toNat<=102 then b.toNat-87 else if 65<=b.toNat/\b.toNat<=70 then b.toNat-55 else -1
def C3(n lo hi:Int):Bool:=decide (lo<=n/\n<=hi)
def eZ(s:BL):Bool:=s.all fG
def cn(s:BL):Bool:=eZ s&&C3 s.length 1 5
def bq(s:BL):Bool:=eZ s&&C3 s.length 1 8
def eF(s part:BL)(from_:Nat):Int:=
 if h:from_+part.length<=s.length then (if (s.drop from_).take part.length=part then (from_:Int) else eF s part (from_+1)) else -1
 termination_by s.length+1-from_
def gL(b:UInt8):Bool:=dw b||decide (b.toNat=47\/b.toNat=42\/b.toNat=63\/b.toNat=37\/(65<=b.toNat/\b.toNat<=70))
def ka(p:BL)(j:Nat):Bool:=gL (p.getD j 0)||(decide ((p.getD j 0).toNat=36)&&decide (j+1=p.length))
def bH(p:BL):Bool:=decide (1<=p.length/\p.length<=16/\(p.getD 0 0).toNat=47/\∀ j,j<p.length->ka p j=true)
def jG:BL:=[48,49,50,51,52,53,54,55,56,57,65,66,67,68,69,70]
def ez(b:UInt8):BL:=[37,jG.getD (b.toNat / 16) 0,jG.getD (b.toNat % 16) 0]
def dV(b:UInt8):BL:=if dw b then [b] else ez b
def cH(a b:UInt8):UInt8:=UInt8.ofNat (bR a*16+bR b).toNat
def bp:BL->Option BL
 | []=>some []
 | [c]=>if c.toNat=37 then none else some (dV c)
 | [c,d]=>if c.toNat=37\/d.toNat=37 then none else some (dV c++dV d)
 | c::a::b::r=>if c.toNat=37 then (if 0<=bR a/\0<=bR b then (bp r).map (dV (cH a b)++ ·) else none) else (bp (a::b::r)).map (dV c++ ·)
def bD(s:BL):BL×Bool:=if s.length<=60 then (match bp s with | some x=>(x,true) | none=>([],false)) else ([],false)
def ey(s:BL):Bool:=(bD s).2&&((bD s).1==s)
theorem CA{c:UInt8}{r:BL}(h: ¬ c.toNat=37):bp (c::r)=(bp r).map (dV c++ ·):=by
 match r with
 | []=>simp[bp,h]
 | [d]=>by_cases hd:d.toNat=37 <;> simp[bp,h,hd]
 | a::b::r=>simp[bp,h]
theorem mA{s:BL}{i:Nat}(hi:i<s.length)(h: ¬ (s.getD i 0).toNat=37):bp (s.drop i)=(bp (s.drop (i+1))).map (dV (s.getD i 0)++ ·):=by
 rw[drop_cons hi 0,CA h]
theorem ov{s:BL}{i:Nat}(hi:i+2<s.length)(h:(s.getD i 0).toNat=37)(h1:0<=bR (s.getD (i+1) 0))(h2:0<=bR (s.getD (i+2) 0)):
 bp (s.drop i)=(bp (s.drop (i+3))).map (dV (cH (s.getD (i+1) 0) (s.getD (i+2) 0))++ ·):=by
 rw[drop_cons (by omega:i<s.length) 0,drop_cons (by omega:i+1<s.length) 0,drop_cons (by omega:i+1+1<s.length) 0]
 simp only[bp,h,if_true,h1,h2,and_self,Nat.add_assoc]
theorem xg{s:BL}{i:Nat}(hi:i<s.length)(h:(s.getD i 0).toNat=37)(h1:s.length<=i+2\/bR (s.getD (i+1) 0)<0\/bR (s.getD (i+2) 0)<0):bp (s.drop i)=none:=by
 rw[drop_cons hi 0]
 by_cases h2:i+2<s.length
 rw[drop_cons (by omega:i+1<s.length) 0,drop_cons (by omega:i+1+1<s.length) 0]
 simp only[bp,h,if_true]
 rw[if_neg]
 rintro⟨k1,k2⟩
 have e:i+1+1=i+2:=rfl
 rw[e]at k2
 omega
 by_cases h3:i+1<s.length
 rw[drop_cons h3 0,List.drop_eq_nil_of_le (by omega)]
 simp only[bp,h,true_or,if_true]
 rw[List.drop_eq_nil_of_le (by omega)]
 simp only[bp,h,if_true]
theorem fb(b:UInt8):bR b<16:=by unfold bR;repeat (split <;> try omega)
theorem gz(b:UInt8): -1<=bR b:=by unfold bR;repeat (split <;> try omega)
theorem rI{a b:UInt8}(h1:0<=bR a)(h2:0<=bR b):((cH a b).toNat:Int)=bR a*16+bR b:=by
 have:=fb a;have:=fb b
 unfold cH
 rw[UInt8.toNat_ofNat']
 omega
theorem pc{α:Type}{l:List α}{k:Nat}(h:k<l.length)(d:α):(l.take (k+1)).drop k=[l.getD k d]:=by
 rw[aW h d,List.drop_append_of_le_length (by simp;omega),List.drop_eq_nil_of_le (by simp;omega)];rfl
theorem ee(b:UInt8):(dV b).length<=3:=by unfold dV ez;split <;> simp
theorem ra:∀ (s:BL) {x:BL},bp s=some x->x.length<=3*s.length
 | [],x,h=>by simp[bp]at h;subst h;simp
 | [c],x,h=>by
   simp only[bp]at h;split at h
   simp at h
   simp only[Option.some.injEq]at h;subst h;have:=ee c;simpa using this
 | [c,d],x,h=>by
   simp only[bp]at h;split at h
   simp at h
   simp only[Option.some.injEq]at h;subst h;have:=ee c;have:=ee d;simp;omega
 | c::a::b::r,x,h=>by
   simp only[bp]at h
   split at h
   split at h
   simp only[Option.map_eq_some_iff]at h
   obtain⟨y,hy,rfl⟩:=h
   have:=ra r hy;have:=ee (cH a b);simp;omega
   simp at h
   simp only[Option.map_eq_some_iff]at h
   obtain⟨y,hy,rfl⟩:=h
   have:=ra (a::b::r) hy;have:=ee c;simp at *;omega
theorem oI(s:BL):(bD s).1.length<=180:=by
 unfold bD
 split
 split
 rename_i x h;have:=ra s h;simp only;omega
 simp
 simp
def an(c:UInt8):BL->List BL
 | []=>[[]]
 | x::r=>if x=c then []::an c r else (x::(an c r).headD [])::(an c r).tail
theorem tz(c:UInt8):∀ r,an c r=(ag c r).1::(if (ag c r).2.2=true then an c (ag c r).2.1 else [])
 | []=>rfl
 | x::r=>by
   have ih:=tz c r
   by_cases h:x=c
   simp only[an,ag,if_pos h,if_true]
   simp only[an,ag,if_neg h]
   rw[ih];rfl
theorem xb(c:UInt8):∀ r,(ag c r).2.2=true->(ag c r).2.1.length<r.length
 | [],h=>by simp[ag]at h
 | x::r,h=>by
   simp only[ag]at h ⊢
   by_cases e:x=c
   rw[if_pos e];simp
   rw[if_neg e]at h ⊢
   have:=xb c r h
   simp only[List.length_cons];omega
theorem kC(c:UInt8):∀ r,(ag c r).1.length+(ag c r).2.1.length<=r.length
 | []=>by simp[ag]
 | x::r=>by
   simp only[ag]
   by_cases e:x=c
   rw[if_pos e];simp
   rw[if_neg e];have:=kC c r;simp only[List.length_cons];omega
def cv(o:List BL)(p:BL):List BL:=if p=[]\/p=[46] then o else if p=[46,46] then o.dropLast else o++[p]
def bE(ps:List BL):List BL:=ps.foldl cv []
theorem fQ{ps:List BL}{i:Nat}(h:i<ps.length):bE (ps.take (i+1))=cv (bE (ps.take i)) (ps.getD i []):=by
 unfold bE
 rw[aW h [],List.foldl_append];rfl
structure s5 where
 c5:BL
 b7:List BL
 asks:Bool
 ask:BL
def bT:List BL->BL
 | []=>[]
 | [p]=>p
 | p::q::r=>p++[47]++bT (q::r)
theorem kX(p:BL):∀ (ps:List BL),bT (ps++[p])=if ps=[] then p else bT ps++[47]++p
 | []=>rfl
 | [q]=>by simp[bT]
 | q::r::t=>by
   have:=kX p (r::t)
   simp only[List.cons_append,bT]at this ⊢
   rw[this,if_neg (by simp),if_neg (by simp)]
   simp[List.append_assoc]
def bu(a:s5):BL:=[47]++bT a.b7++(if a.asks=true then [63]++a.ask else [])
def ck(a:s5):BL:=[47,47]++a.c5++bu a
def dA(p:BL):Bool:=ey p&&!(p==[])&&!(p==[46])&&!(p==[46,46])
def aH(a:s5):Bool:=cn a.c5&&decide (a.b7.length<=5)&&ey a.ask&&(a.asks||a.ask==[])&&a.b7.all dA&&decide ((ck a).length<=60)
def dz(a:s5):Prop:=a.c5.length<=1048576/\a.ask.length<=1048576/\a.b7.length<=1048576/\∀ i,(a.b7.getD i []).length<=1048576
theorem pT{ps:List BL}(h:∀ i,(ps.getD i []).length<=1048576):∀ i,i<=ps.length->(bT (ps.take i)).length<=i*1048577
 | 0,_=>by simp[bT]
 | i+1,hi=>by
   have:=pT h i (by omega)
   have h2:=h i
   rw[aW (by omega:i<ps.length) [],kX]
   split
   omega
   simp only[List.length_append,List.length_cons,List.length_nil];omega
theorem Cf{a:s5}(h:dz a):(bu a).length<=2199023255552:=by
 obtain⟨h1,h2,h3,h4⟩:=h
 have:=pT h4 a.b7.length (Nat.le_refl _)
 rw[List.take_length]at this
 unfold bu
 split <;> simp <;> omega
theorem mu{s:BL}(h:ey s=true):s.length<=60:=by
 unfold ey bD at h
 split at h
 assumption
 simp at h
def dn(b:UInt8):UInt8:=if 65<=b.toNat/\b.toNat<=90 then b+32 else b
def aK(s:BL):BL:=s.map dn
theorem uT{x:UInt8}(h:65<=x.toNat/\x.toNat<=90):(dn x).toNat=x.toNat+32:=by
 unfold dn
 rw[if_pos h,UInt8.toNat_add]
 have:(32:UInt8).toNat=32:=rfl
 omega
theorem pr{s l:BL}{i:Nat}(hi:i<s.length)(h:l=aK (s.take i)++s.drop i):l.getD i 0=s.getD i 0:=by
 have hl:(aK (s.take i)).length=i:=by simp[aK];omega
 rw[h,List.getD_eq_getElem?_getD,List.getElem?_append_right (by omega),hl,Nat.sub_self,drop_cons hi 0];rfl
theorem sr{s l:BL}{i:Nat}(hi:i<s.length)(h:l=aK (s.take i)++s.drop i):l.set i (dn (s.getD i 0))=aK (s.take (i+1))++s.drop (i+1):=by
 have hl:(aK (s.take i)).length=i:=by simp[aK];omega
 rw[h,List.set_append_right _ _ (by omega),hl,Nat.sub_self,drop_cons hi 0,aW hi 0]
 simp[aK]
theorem va{s l:BL}{i:Nat}(hi:i<s.length)(h:l=aK (s.take i)++s.drop i):l.set i (dn (l.getD i 0))=aK (s.take (i+1))++s.drop (i+1):=by
 rw[pr hi h];exact sr hi h
theorem sB{s l:BL}{i:Nat}(hi:i<s.length)(h:l=aK (s.take i)++s.drop i)(hn: ¬ (65<=(l.getD i 0).toNat/\(l.getD i 0).toNat<=90)):l=aK (s.take (i+1))++s.drop (i+1):=by
 rw[<- sr hi h]
 rw[pr hi h]at hn
 rw[show dn (s.getD i 0)=s.getD i 0 from if_neg hn,<- pr hi h]
 have hlt:i<l.length:=by rw[h];simp[aK];omega
 apply List.ext_getElem?
 intro j
 by_cases e:i=j
 subst e;simp[hlt]
 rw[List.getElem?_set_ne e]
def oA(o:Option s5):s5:=o.getD ⟨[],[],false,[]⟩
def dW(x:BL):BL:=(bD x).1
def eE(x:BL):Bool:=(bD x).2
def aZ(h:BL)(fr:List BL)(n9:BL):Option s5:=
 if ((an 47 (ag 63 n9).1).all eE&&eE (ag 63 n9).2.1)=true then
  (if aH ⟨h,bE (fr++(an 47 (ag 63 n9).1).map dW),(ag 63 n9).2.2,dW (ag 63 n9).2.1⟩=true then some ⟨h,bE (fr++(an 47 (ag 63 n9).1).map dW),(ag 63 n9).2.2,dW (ag 63 n9).2.1⟩ else none) else none
theorem pK(c:UInt8):∀ s:BL,(an c s).length<=s.length+1
 | []=>by simp[an]
 | x::r=>by
   have:=pK c r
   simp only[an]
   split
   simp;omega
   simp;omega
theorem Bf(l:List BL)(n:Nat)(h:∀ p∈l,p.length<=n):(l.headD []).length<=n:=by
 cases l with
 | nil=>simp
 | cons a l=>exact h a (by simp)
theorem vh(c:UInt8):∀ (s:BL),∀ p∈an c s,p.length<=s.length
 | [],p,hp=>by simp[an]at hp;subst hp;simp
 | x::r,p,hp=>by
   have ih:=vh c r
   simp only[an]at hp
   split at hp
   simp only[List.mem_cons]at hp
   rcases hp with rfl | hp
   simp
   have:=ih p hp;simp;omega
   simp only[List.mem_cons]at hp
   rcases hp with rfl | hp
   have:=Bf _ _ ih;simp at this ⊢;omega
   have:=ih p (List.mem_of_mem_tail hp);simp;omega
theorem jU{ps:List BL}{n:Nat}(h:∀ p∈ps,p.length<=n)(i:Nat):(ps.getD i []).length<=n:=by
 rw[List.getD_eq_getElem?_getD]
 cases e:ps[i]? with
 | none=>simp
 | some p=>exact h p (List.mem_of_getElem? e)
theorem py(c:UInt8)(s:BL)(i:Nat):((an c s).getD i []).length<=s.length:=jU (vh c s) i
theorem tx(ps:List BL):∀ (o:List BL),(∀ p∈ps.foldl cv o,p∈o\/p∈ps)/\(ps.foldl cv o).length<=o.length+ps.length:=by
 induction ps with
 | nil=>intro o;exact⟨fun p h=>.inl h,by simp⟩
 | cons q ps ih=>
   intro o
   obtain⟨h1,h2⟩:=ih (cv o q)
   have hs:(∀ p∈cv o q,p∈o\/p=q)/\(cv o q).length<=o.length+1:=by
    unfold cv
    split
    exact⟨fun p h=>.inl h,by omega⟩
    split
    exact⟨fun p h=>.inl (List.dropLast_subset _ h),by simp;omega⟩
    exact⟨fun p h=>by simpa using h,by simp⟩
   refine⟨fun p hp=>?_,by simp only[List.foldl_cons,List.length_cons];omega⟩
   rcases h1 p hp with h | h
   rcases hs.1 p h with h | h
   exact .inl h
   exact .inr (by simp[h])
   exact .inr (by simp[h])
theorem vm{ps:List BL}{p:BL}(h:p∈bE ps):p∈ps:=by
 rcases (tx ps []).1 p h with h | h
 simp at h
 exact h
theorem vu(ps:List BL):(bE ps).length<=ps.length:=by have:=(tx ps []).2;simp only[List.length_nil,Nat.zero_add]at this;exact this
theorem Iu{a:s5}{ls:List BL}{k:Bool}{q:BL}(ha:dz a)(hp:a.b7.length<=1000)(hl:ls.length<=2000):dz ⟨a.c5,bE (a.b7++ls.map dW),k,dW q⟩:=by
 obtain⟨h1,h2,h3,h4⟩:=ha
 refine⟨h1,?_,?_,fun i=>?_⟩
 have:=oI q;simp only[dW];omega
 have:=vu (a.b7++ls.map dW);simp only[List.length_append,List.length_map]at this ⊢;omega
 refine jU (n:=1048576) (fun p SW=>?_) i
 rcases List.mem_append.1 (vm SW) with h | h
 obtain⟨j,hj,rfl⟩:=List.getElem_of_mem h
 have:=h4 j
 rwa [List.getD_eq_getElem?_getD,List.getElem?_eq_getElem hj]at this
 obtain⟨y,_,rfl⟩:=List.mem_map.1 h
 have:=oI y;simp only[dW];omega
def gD(c:UInt8):Bool:=decide (¬ (c.toNat=47\/c.toNat=63))
theorem wm{s:BL}{p:UInt8->Bool}:∀ {i:Nat},i<=s.length->(∀ j,j<i->p (s.getD j 0)=true)->(i=s.length\/p (s.getD i 0)=false)->s.takeWhile p=s.take i/\s.dropWhile p=s.drop i:=by
 induction s with
 | nil=>intro i hi _ _;simp
 | cons x s ih=>
   intro i hi h1 h2
   cases i with
   | zero=>
     rcases h2 with h2 | h2
     simp at h2
     have:p x=false:=by simpa using h2
     simp[List.takeWhile_cons,List.dropWhile_cons,this]
   | succ i=>
     have hx:p x=true:=by simpa using h1 0 (by omega)
     obtain⟨k1,k2⟩:=ih (i:=i) (by simpa using hi) (fun j hj=>by have:=h1 (j+1) (by omega);simpa using this) (by
      rcases h2 with h2 | h2
      left;simpa using h2
      right;simpa using h2)
     simp[List.takeWhile_cons,List.dropWhile_cons,hx,k1,k2]
def cI(rest:BL):Option s5:=aZ (aK (rest.takeWhile gD)) [] (rest.dropWhile gD)
def ai(raw:BL):Option s5:=
 if raw.length<=60/\2<=(ag 35 raw).1.length/\(ag 35 raw).1.take 2=[47,47] then cI ((ag 35 raw).1.drop 2) else none
def bf(a:s5):BL:=if aH a=true then ck a else []
def aI(s:BL):Bool:=(ai s).isSome&&(bf (oA (ai s))==s)
theorem IG{h:BL}{fr:List BL}{n9:BL}{a:s5}(e:aZ h fr n9=some a):aH a=true:=by
 unfold aZ at e
 split at e
 split at e
 rename_i hk;simp only[Option.some.injEq]at e;subst e;exact hk
 simp at e
 simp at e
theorem Fq{s:BL}{a:s5}(e:ai s=some a):aH a=true:=by
 unfold ai at e
 split at e
 exact IG e
 simp at e
theorem JC{a:s5}(h:aH a=true):dz a:=by
 unfold aH cn C3 at h
 simp only[Bool.and_eq_true,decide_eq_true_eq,List.all_eq_true]at h
 obtain⟨⟨⟨⟨⟨⟨_,h1⟩,h2⟩,h3⟩,_⟩,h4⟩,_⟩:=h
 have:=mu h3
 refine⟨by omega,by omega,by omega,fun i=>jU (n:=1048576) (fun p hp=>?_) i⟩
 have:=h4 p hp
 unfold dA at this
 simp only[Bool.and_eq_true]at this
 have:=mu this.1.1.1
 omega
theorem sD(s:BL):dz (oA (ai s)):=by
 cases e:ai s with
 | none=>exact⟨by simp[oA],by simp[oA],by simp[oA],by simp[oA]⟩
 | some a=>exact JC (Fq e)
def eW(p:BL):Bool:=decide ((p.getD (p.length-1) 0).toNat=36)
def bA(p:BL):BL:=if eW p=true then p.take (p.length-1) else p
def od(e:Bool)(s:BL):Nat->List BL->Bool
 | at_,[]=>!e||decide (at_=s.length)
 | at_,p::r=>if (e&&r.isEmpty)=true then decide (at_+p.length<=s.length)&&(s.drop (s.length-p.length)==p)
   else if eF s p at_<0 then false else od e s ((eF s p at_).toNat+p.length) r
def Av(p s:BL):Bool:=
 ((an 42 (bA p)).headD []).isPrefixOf s&&od (eW p) s ((an 42 (bA p)).headD []).length (an 42 (bA p)).tail
theorem Cn{e:Bool}{s p:BL}{q:Nat}{r:List BL}(h: ¬ (e=true/\r=[]))(hf:eF s p q<0):od e s q (p::r)=false:=by
 simp only[od]
 rw[if_neg (by simpa using h),if_pos hf]
structure s8 where
 H4:Bool
 path:BL
def dp(p s:BL):Bool:=bH p&&decide (s.length<=60)&&Av p s
def eh(s:BL)(x:Int×Bool)(r:s8):Int×Bool:=
 if dp r.path s=false\/(r.path.length:Int)<x.1 then x else (r.path.length,r.H4||(decide ((r.path.length:Int)=x.1)&&x.2))
def dP(rs:List s8)(s:BL):Bool:=(rs.foldl (eh s) (-1,true)).2
theorem sK{p:BL}(h:bH p=true):1<=p.length/\p.length<=16:=by
 unfold bH at h;simp only[decide_eq_true_eq]at h;exact⟨h.1,h.2.1⟩
theorem foldl_succ{α β:Type}{f:β->α->β}{b:β}{l:List α}{i:Nat}{d:α}(h:i<l.length):(l.take (i+1)).foldl f b=f ((l.take i).foldl f b) (l.getD i d):=by
 rw[aW h d,List.foldl_append];rfl
end Go.Pd
namespace Go.Abs
open Go.Pd
abbrev au(r:s8):V:=.agg [bV r.H4,sV r.path]
end Go.Abs
namespace Go.Pd
def iv(m:Int)(n:Int)(c:UInt8):Int:=min (n*10+(c.toNat-48)) m
def gQ(s:BL)(m:Int):Int:=if s.all (fun c=>decide (48<=c.toNat/\c.toNat<=57))=true then s.foldl (iv m) 0 else 0
structure l5 where
 na:List BL
 ru:List s8
 wa:Nat
end Go.Pd
namespace Go.Abs
open Go.Pd
abbrev bw(g:l5):V:=.agg [.sl false (g.na.map sV),.sl false (g.ru.map au),iV g.wa]
end Go.Abs
namespace Go.Pd
def iz:List BL:=[[47],[47,97],[47,98],[47,97,47],[47,42,98],[47,97,36],[47,99],[47,42,63],[47,97,47,98],[47,42,47,98,36],[47,36],[47,98,42,99],[47,110,111,116,105,99,101],[47,42]]
def aM:List BL:=[[97,98],[99,100],[101],[102,111,120]]
def m6(s:BL):Prop:= ∀ c,c∈s->c.toNat<128
def DK(s:BL):Bool:=s.all fun c=>decide (c.toNat<128)
theorem bh{s:BL}(h:DK s=true):m6 s:=fun c hc=>by
 have:=List.all_eq_true.1 h c hc;simpa using this
theorem aT:m6 []:=fun c hc=>by simp at hc
theorem m6.app{a b:BL}(h1:m6 a)(h2:m6 b):m6 (a++b):=fun c hc=>(List.mem_append.1 hc).elim (h1 c) (h2 c)
theorem dg{l:List BL}{x:BL}(h:l.all DK=true)(hx:x∈l):m6 x:=bh (List.all_eq_true.1 h x hx)
theorem dF{l:List BL}(h:l.all DK=true)(i:Nat):m6 (l.getD i []):=by
 rw[List.getD_eq_getElem?_getD]
 cases e:l[i]? with
 | none=>exact aT
 | some x=>exact dg h (List.mem_of_getElem? e)
structure A9 (g:l5):Prop where
 nl:g.na.length<=2
 nb:∀ x,x∈g.na->x.length<=5
 rl:g.ru.length<=4
 rb:∀ r,r∈g.ru->r.path∈iz
 w:g.wa<=6
 ac:∀ x,x∈g.na->m6 x
theorem bz{l:List BL}{n:Nat}(h:l.all (fun x=>Nat.ble x.length n)=true){x:BL}(hx:x∈l):x.length<=n:=Nat.le_of_ble_eq_true (List.all_eq_true.1 h x hx)
theorem fE{α:Type}{P:α->Prop}{l:List α}{x:α}(h:∀ y,y∈l->P y)(hx:P x):∀ y,y∈l++[x]->P y:=fun y hy=>by
 rcases List.mem_append.1 hy with q | q
 exact h y q
 rw[List.mem_singleton.1 q];exact hx
abbrev zqR:s8:=⟨false,[]⟩
abbrev zqG:l5:=⟨[],[],0⟩
structure Pg where
 addr:BL
 text:BL
 lead:BL
 m4:Int
def l4:Pg:=⟨[],[],[],0⟩
def z8:List Pg->BL->Pg×Bool
 | [],_=>(l4,false)
 | p::r,a=>if p.addr=a then (p,true) else z8 r a
theorem AM{l:List BL}(h:l.length<=2)(hx:∀ x,x∈l->x.length<=6):(bT l).length<=13:=by
 match l,h with
 | [],_=>simp[bT]
 | [x],_=>have:=hx x (by simp);simp[bT];omega
 | [x,y],_=>have:=hx x (by simp);have:=hx y (by simp);simp[bT];omega
theorem cC{l:List BL}{n:Nat}(h:l.all (fun x=>Nat.ble x.length n)=true)(i:Nat):(l.getD i []).length<=n:=by
 rw[List.getD_eq_getElem?_getD]
 cases e:l[i]? with
 | none=>simp
 | some x=>exact bz h (List.mem_of_getElem? e)
theorem mc{a:s5}(h1:a.c5.length<=3)(h2:a.b7.length<=2)(h3:∀ x,x∈a.b7->x.length<=6)(h4:a.ask.length<=5):dz a/\(bf a).length<=25:=by
 refine⟨⟨by omega,by omega,by omega,fun i=>?_⟩,?_⟩
 rw[List.getD_eq_getElem?_getD]
 cases e:a.b7[i]? with
 | none=>simp
 | some x=>have:=h3 x (List.mem_of_getElem? e);simp;omega
 have:=AM h2 h3
 unfold bf ck bu
 split
 split <;> simp <;> omega
 simp
def dj(n:Nat):BL:=if n<10 then [UInt8.ofNat (48+n)] else dj (n / 10)++[UInt8.ofNat (48+n % 10)]
 termination_by n
theorem oQ(n:Nat)(h:n<=1000000):(dj n).length<=7:=by
 have:∀ k n,n<10 ^ (k+1)->(dj n).length<=k+1:=by
  intro k
  induction k with
  | zero=>intro n hn;rw[dj,if_pos (by omega)];simp
  | succ k ih=>
    intro n hn
    rw[dj]
    split
    simp
    have:=ih (n / 10) (by rw[Nat.pow_succ]at hn;omega)
    simp;omega
 exact this 6 n (by omega)
end Go.Pd
namespace Go.Abs
open Go.Pd
abbrev r8(p:Pg):V:=.agg [sV p.addr,sV p.text,sV p.lead,iV p.m4]
end Go.Abs
namespace Go.Pd
theorem qj{gs:List l5}(hg:∀ y,y∈gs->A9 y)(i:Nat):A9 (gs.getD i ⟨[],[],0⟩):=by
 rw[List.getD_eq_getElem?_getD]
 cases e:gs[i]? with
 | none=>exact⟨by simp,by simp,by simp,by simp,by simp,by simp⟩
 | some x=>exact hg x (List.mem_of_getElem? e)
theorem fj{gs:List l5}(hg:∀ y,y∈gs->A9 y)(i k:Nat):((gs.getD i ⟨[],[],0⟩).na.getD k []).length<=5:=by
 rw[List.getD_eq_getElem?_getD (l:=l5.na _)]
 cases e:(gs.getD i ⟨[],[],0⟩).na[k]? with
 | none=>simp
 | some x=>exact(qj hg i).nb x (List.mem_of_getElem? e)
theorem pV{gs:List l5}(hg:∀ y,y∈gs->A9 y)(i k:Nat):m6 ((gs.getD i ⟨[],[],0⟩).na.getD k []):=by
 rw[List.getD_eq_getElem?_getD (l:=l5.na _)]
 cases e:(gs.getD i ⟨[],[],0⟩).na[k]? with
 | none=>exact aT
 | some x=>exact(qj hg i).ac x (List.mem_of_getElem? e)
theorem pn{gs:List l5}(hg:∀ y,y∈gs->A9 y)(i k:Nat):m6 ((gs.getD i ⟨[],[],0⟩).ru.getD k ⟨false,[]⟩).path:=by
 rw[List.getD_eq_getElem?_getD (l:=l5.ru _)]
 cases e:(gs.getD i ⟨[],[],0⟩).ru[k]? with
 | none=>exact aT
 | some x=>exact dg rfl ((qj hg i).rb x (List.mem_of_getElem? e))
theorem fu{gs:List l5}(hg:∀ y,y∈gs->A9 y)(i k:Nat):((gs.getD i ⟨[],[],0⟩).ru.getD k ⟨false,[]⟩).path.length<=7:=by
 rw[List.getD_eq_getElem?_getD (l:=l5.ru _)]
 cases e:(gs.getD i ⟨[],[],0⟩).ru[k]? with
 | none=>simp
 | some x=>exact bz rfl ((qj hg i).rb x (List.mem_of_getElem? e))
theorem pC:∀ {l:List BL},(∀ x,x∈l->m6 x)->m6 (bT l)
 | [],_=>aT
 | [p],h=>h p (by simp)
 | p::q::r,h=>((h p (by simp)).app (bh rfl)).app (pC fun x hx=>h x (by simp[hx]))
theorem yp{a:s5}(h1:m6 a.c5)(h2:∀ x,x∈a.b7->m6 x)(h3:m6 a.ask):m6 (bf a):=by
 unfold bf ck bu
 split
 refine((bh rfl).app h1).app (((bh rfl).app (pC h2)).app ?_)
 split
 exact(bh rfl).app h3
 exact aT
 exact aT
theorem jL(n:Nat):m6 (dj n):=by
 induction n using Nat.strongRecOn with
 | ind n ih=>
   rw[dj]
   split
   intro c hc
   rw[List.mem_singleton.1 hc,UInt8.toNat_ofNat'];omega
   refine(ih (n / 10) (by omega)).app ?_
   intro c hc
   rw[List.mem_singleton.1 hc,UInt8.toNat_ofNat'];omega
structure n0 (y:Pg):Prop where
 a:y.addr.length<=30
 t:y.text.length<=300
 l:y.lead.length<=30
 f:0<=y.m4/\y.m4<=10
 aa:m6 y.addr
 la:m6 y.lead
 ta:m6 y.text
theorem FQ{w:List Pg}{a:BL}(h:(z8 w a).2=true):1<=w.length:=by
 cases w with
 | nil=>simp[z8]at h
 | cons p r=>simp
theorem nY{l:List Int}(h:l.all (fun x=>decide (0<=x/\x<=10))=true)(i:Nat):0<=l.getD i 0/\l.getD i 0<=10:=by
 rw[List.getD_eq_getElem?_getD]
 cases e:l[i]? with
 | none=>simp
 | some x=>simpa using List.all_eq_true.1 h x (List.mem_of_getElem? e)
theorem eV{w:List Pg}(h:∀ y,y∈w->n0 y)(i:Nat):n0 (w.getD i l4):=by
 rw[List.getD_eq_getElem?_getD]
 cases e:w[i]? with
 | none=>exact⟨by simp[l4],by simp[l4],by simp[l4],by simp[l4],aT,aT,aT⟩
 | some x=>exact h x (List.mem_of_getElem? e)
theorem uo{α:Type}{P:α->Prop}{l:List α}{i:Nat}{x:α}(h:∀ y,y∈l->P y)(hx:P x):∀ y,y∈l.set i x->P y:=fun y hy=>by
 rcases List.mem_or_eq_of_mem_set hy with q | q
 exact h y q
 rw[q];exact hx
end Go.Pd
namespace Go.Abs
theorem aE{xs:List V}{j sz g0 o0 g o c:Nat}{v:V}{p:List Nat}{r:Nat×Nat×V}(h:xs[j]? =some v)(e:V.at g (o+j*sz) v p=some r):V.at g0 o0 (.own sz xs g o c) (j::p)=some r:=by simp only[V.at,h];exact e
theorem aR{xs ys:List V}{j sz g o c:Nat}{x v:V}{p:List Nat}(h:xs[j]? =some x)(e:xs.set j (V.set x p v)=ys):V.set (.own sz xs g o c) (j::p) v=.own sz ys g o c:=by simp only[V.set,h,e]
end Go.Abs
namespace Go.Pd
def di(y:Pg):Bool:=aI y.addr&&decide (y.text.length<=300)&&C3 y.m4 0 9&&(y.lead==[]||(y.text==[]&&aI y.lead))
def aq(w:List Pg):Bool:=decide (∀ i,i<w.length->di (w.getD i l4)=true/\∀ k,k<i->(w.getD k l4).addr≠(w.getD i l4).addr)&&decide (w.length<=12)
def ae(h:BL):BL:=[47,47]++h++[47,110,111,116,105,99,101]
def ab(w:List Pg)(a:BL)(n:Int):Int×BL:=
 if (z8 w a).2=false then (0,[]) else if n<(z8 w a).1.m4 then (3,[]) else if (z8 w a).1.lead=[] then (1,(z8 w a).1.text) else (2,(z8 w a).1.lead)
theorem IA{y:Pg}(h:((aI y.addr=true/\(y.text.length:Int)<=300)/\C3 y.m4 0 9=true)/\(¬ y.lead=[]->y.text=[]/\aI y.lead=true)):di y=true:=by
 unfold di
 obtain⟨⟨⟨h1,h2⟩,h3⟩,h4⟩:=h
 rw[h1,h3,decide_eq_true (by omega)]
 by_cases hl:y.lead=[]
 simp[hl]
 obtain⟨h5,h6⟩:=h4 hl
 simp[h5,h6]
theorem HC{y:Pg}(h:((aI y.addr=false\/300<(y.text.length:Int))\/C3 y.m4 0 9=false)\/¬ y.lead=[]/\(¬ y.text=[]\/aI y.lead=false)):di y=false:=by
 unfold di
 rcases h with ((h | h) | h) | ⟨h,h' | h'⟩
 simp[h]
 rw[decide_eq_false (by omega)];simp
 simp[h]
 simp[h,h']
 simp[h,h']
theorem uE{w:List Pg}{i:Nat}(hi:i<w.length)(h: ¬ (di (w.getD i l4)=true/\∀ k,k<i->(w.getD k l4).addr≠(w.getD i l4).addr)):aq w=false:=by
 unfold aq
 rw[decide_eq_false (fun c=>h (c i hi))];rfl
theorem zL{w:List Pg}(h:∀ i,i<w.length->di (w.getD i l4)=true/\∀ k,k<i->(w.getD k l4).addr≠(w.getD i l4).addr):aq w=decide (w.length<=12):=by
 unfold aq
 rw[decide_eq_true h];rfl
def ef(gs:List l5)(f:l5->l5):List l5:=match gs.getLast? with
 | none=>gs
 | some z=>gs.dropLast++[f z]
def gn(gs:List l5):Nat:=match gs.getLast? with
 | none=>0
 | some z=>z.ru.length
def mE(gs:List l5)(w r:BL)(b:Bool):List l5×Bool:=
 if w=[99,97,108,108,101,114]/\(r=[42]\/bq r=true) then
  if b=true\/gs=[] then (gs++[⟨[r],[],0⟩],false) else (ef gs fun z=>⟨z.na++[r],z.ru,z.wa⟩,false)
 else if gs=[] then (gs,b)
 else if (w=[108,101,116]\/w=[98,97,114])/\bH r=true/\gn gs<6 then (ef gs fun z=>⟨z.na,z.ru++[⟨w==[108,101,116],r⟩],z.wa⟩,true)
 else if w=[119,97,105,116] then (ef gs fun z=>⟨z.na,z.ru,(gQ r 20).toNat⟩,true)
 else (gs,b)
theorem iD(l:List l5)(z:l5)(f:l5->l5):ef (l++[z]) f=l++[f z]:=by simp[ef]
theorem kS(l:List l5)(z:l5):gn (l++[z])=z.ru.length:=by simp[gn]
theorem nf{α:Type}{l:List α}(h:l≠[]):∃ x:List α×α,l=x.1++[x.2]:=⟨(l.dropLast,l.getLast h),(List.dropLast_concat_getLast h).symm⟩
theorem xX{m:Int}(hm:0<=m){n:Int}(hn:0<=n){c:UInt8}(hc:48<=c.toNat):0<=iv m n c:=by
 unfold iv
 omega
theorem Gh{s:BL}{m:Int}(hm:0<=m):0<=gQ s m:=by
 unfold gQ
 split
 rename_i h
 rw[List.all_eq_true]at h
 have:∀ (l:BL) (n:Int),0<=n->(∀ c,c∈l->48<=c.toNat)->0<=l.foldl (iv m) n:=by
  intro l
  induction l with
  | nil=>intro n hn _;exact hn
  | cons c l ih=>intro n hn hl;exact ih _ (xX hm hn (hl c (by simp))) fun d hd=>hl d (by simp[hd])
 exact this s 0 (by omega) fun c hc=>by have:=h c hc;simp at this;exact this.1
 exact Int.le_refl 0
end Go.Pd
namespace Go.Abs
open Go.Pd
abbrev aO(g:l5):V:=.agg [.ow 1 (g.na.map sV),.ow 2 (g.ru.map au),iV g.wa]
theorem aS{α:Type}{f:α->V}{l:List α}{v:V}:(l.map f++[v])[l.length]? =some v:=by simp
theorem cU{α:Type}{f:α->V}{l:List α}{v u:V}:(l.map f++[v]).set l.length u=l.map f++[u]:=by simp
theorem Gw(g:l5):(aO g).er=bw g:=by
 simp only[aO,V.er,V.A8,aL (f:=sV) (fun _=>rfl),aL (f:=au) (fun _=>rfl)]
theorem wU:∀ (l:List l5),V.A8 (l.map aO)=l.map bw
 | []=>rfl
 | g::l=>by simp only[List.map_cons,V.A8,wU l];rw[Gw]
end Go.Abs
namespace Go.Pd
def fU(x:List l5×Bool)(l:BL):List l5×Bool:=mE x.1 (ag 32 l).1 (ag 32 l).2.1 x.2
def cL(t:BL):List l5:=(((an 10 t).take 40).foldl fU ([],false)).1
structure J1 (n:Nat) (gs:List l5):Prop where
 len:gs.length<=n
 each:∀ y,y∈gs->y.na.length<=n/\y.ru.length<=6
theorem J1.mono{n m:Nat}{gs:List l5}(h:J1 n gs)(hm:n<=m):J1 m gs:=⟨Nat.le_trans h.len hm,fun y hy=>⟨Nat.le_trans (h.each y hy).1 hm,(h.each y hy).2⟩⟩
theorem J1.set{n:Nat}{gs:List l5}{f:l5->l5}(h:J1 n gs)(hf:∀ z,gs.getLast? =some z->(f z).na.length<=n+1/\(f z).ru.length<=6):J1 (n+1) (ef gs f):=by
 unfold ef
 split
 exact h.mono (by omega)
 rename_i z hz
 refine⟨?_,fun y hy=>?_⟩
 have:=h.len
 have hne:gs≠[]:=by rintro rfl;simp at hz
 have:=List.length_pos_iff.2 hne
 simp;omega
 rcases List.mem_append.1 hy with hy | hy
 have:=h.each y (List.dropLast_subset _ hy)
 exact⟨by omega,this.2⟩
 rw[List.mem_singleton.1 hy];exact hf z hz
theorem FU{n:Nat}{gs:List l5}{w d:BL}{b:Bool}(h:J1 n gs):J1 (n+1) (mE gs w d b).1:=by
 have hl:∀ z,gs.getLast? =some z->z.na.length<=n/\z.ru.length<=6:=fun z hz=>h.each z (List.mem_of_getLast? hz)
 unfold mE
 split
 split
 refine⟨by have:=h.len;simp;omega,fun y hy=>?_⟩
 rcases List.mem_append.1 hy with hy | hy
 have:=h.each y hy;exact⟨by omega,this.2⟩
 rw[List.mem_singleton.1 hy];simp
 exact h.set fun z hz=>⟨by have:=hl z hz;simp;omega,(hl z hz).2⟩
 split
 exact h.mono (by omega)
 split
 rename_i hc
 refine h.set fun z hz=>⟨by have:=hl z hz;simp only;omega,?_⟩
 have:=hc.2.2
 unfold gn at this
 rw[hz]at this
 simp only at this
 simp only[List.length_append,List.length_cons,List.length_nil];omega
 split
 exact h.set fun z hz=>⟨by have:=hl z hz;simp only;omega,(hl z hz).2⟩
 exact h.mono (by omega)
theorem BM{α:Type}{l:List α}{i:Nat}(h1:i<=l.length)(h2:i<=40)(h:(i:Int)<l.length->(40:Int)<=i):l.take 40=l.take i:=by
 rcases Nat.lt_or_ge i l.length with hl | hl
 have:=h (by omega)
 rw[show i=40 from by omega]
 rw[List.take_of_length_le (by omega),List.take_of_length_le (by omega)]
def dM(n:BL)(x:(List s8×Nat)×Bool)(g:l5):(List s8×Nat)×Bool:=if g.na.any (fun y=>y==n)=true then ((x.1.1++g.ru,max x.1.2 g.wa),true) else x
def Pn(gs:List l5)(n:BL):l5×Bool:=(⟨[n],(gs.foldl (dM n) (([],0),false)).1.1,(gs.foldl (dM n) (([],0),false)).1.2⟩,(gs.foldl (dM n) (([],0),false)).2)
def gP(gs:List l5)(n:BL):l5:=if (Pn gs n).2=true then (Pn gs n).1 else (Pn gs [42]).1
theorem uD:∀ (l:List BL) {k:Nat} {x:List l5×Bool},J1 k x.1->J1 (k+l.length) (l.foldl fU x).1
 | [],k,x,h=>h
 | a::l,k,x,h=>by
   have:=uD l (k:=k+1) (x:=fU x a) (FU h)
   exact this.mono (by simp;omega)
theorem mr(t:BL):J1 40 (cL t):=by
 have:=uD ((an 10 t).take 40) (k:=0) (x:=([],false)) ⟨by simp,by simp⟩
 exact this.mono (by simp;omega)
theorem J1.ru{n:Nat}{gs:List l5}(h:J1 n gs)(i:Nat):(gs.getD i ⟨[],[],0⟩).ru.length<=100/\(gs.getD i ⟨[],[],0⟩).na.length<=n:=by
 rw[List.getD_eq_getElem?_getD]
 cases e:gs[i]? with
 | none=>simp
 | some x=>have:=h.each x (List.mem_of_getElem? e);exact⟨by simp only[Option.getD_some];omega,this.1⟩
def ah(k:Int)(t n:BL):l5:=if k=1 then gP (cL t) n else if k=3 then ⟨[n],[⟨false,[47]⟩],0⟩ else gP [] n
def Bj(w:List Pg)(d n:BL):l5:=
 if aq w=true/\cn d=true/\bq n=true then ⟨[n],(ah (ab w (ae d) 2).1 (ab w (ae d) 2).2 n).ru,(ah (ab w (ae d) 2).1 (ab w (ae d) 2).2 n).wa⟩ else ⟨[],[],0⟩
theorem nA:∀ (w:List Pg) (a:BL),(z8 w a).2=true->∃ i,(z8 w a).1=w.getD i l4
 | [],a,h=>by simp[z8]at h
 | p::r,a,h=>by
   unfold z8 at h ⊢
   split
   exact⟨0,rfl⟩
   rename_i hp
   rw[if_neg hp]at h
   obtain⟨i,hi⟩:=nA r a h
   exact⟨i+1,by rw[hi];simp⟩
theorem we{w:List Pg}{a:BL}{k:Int}{m:Nat}(h:∀ i,(w.getD i l4).text.length<=m/\(w.getD i l4).lead.length<=m):(ab w a k).2.length<=m:=by
 unfold ab
 split
 simp
 rename_i h1
 have h1:(z8 w a).2=true:=by simpa using h1
 obtain⟨i,hi⟩:=nA w a h1
 have:=h i
 rw[hi]
 split
 simp
 split <;> simp only <;> omega
def mH(gs:List l5):Prop:= ∀ y,y∈gs->∀ r,r∈y.ru->r.path.length<=16
theorem mH.set{gs:List l5}{f:l5->l5}(h:mH gs)(hf:∀ z,gs.getLast? =some z->∀ r,r∈(f z).ru->r.path.length<=16):mH (ef gs f):=by
 unfold ef
 split
 exact h
 rename_i z hz
 intro y hy
 rcases List.mem_append.1 hy with hy | hy
 exact h y (List.dropLast_subset _ hy)
 rw[List.mem_singleton.1 hy];exact hf z hz
theorem GS{gs:List l5}{w d:BL}{b:Bool}(h:mH gs):mH (mE gs w d b).1:=by
 have hl:∀ z,gs.getLast? =some z->∀ r,r∈z.ru->r.path.length<=16:=fun z hz=>h z (List.mem_of_getLast? hz)
 unfold mE
 split
 split
 intro y hy
 rcases List.mem_append.1 hy with hy | hy
 exact h y hy
 rw[List.mem_singleton.1 hy];simp
 exact h.set fun z hz=>hl z hz
 split
 exact h
 split
 rename_i hc
 refine h.set fun z hz r hr=>?_
 rcases List.mem_append.1 hr with hr | hr
 exact hl z hz r hr
 rw[List.mem_singleton.1 hr];exact(sK hc.2.1).2
 split
 exact h.set fun z hz=>hl z hz
 exact h
theorem Ct(t:BL):mH (cL t):=by
 have:∀ (l:List BL) (x:List l5×Bool),mH x.1->mH (l.foldl fU x).1:=by
  intro l
  induction l with
  | nil=>exact fun x h=>h
  | cons a l ih=>exact fun x h=>ih _ (GS h)
 exact this _ _ (by intro y hy;simp at hy)
structure RC (m:Nat) (x:(List s8×Nat)×Bool):Prop where
 l:x.1.1.length<=6*m
 r:∀ r,r∈x.1.1->r.path.length<=16
theorem vK(n:BL):∀ (gs:List l5) {m k:Nat} {x:(List s8×Nat)×Bool},RC m x->J1 k gs->mH gs->RC (m+gs.length) (gs.foldl (dM n) x)
 | [],m,k,x,h,_,_=>h
 | g::gs,m,k,x,h,h1,h2=>by
   have hs:RC (m+1) (dM n x g):=by
    unfold dM
    split
    refine⟨?_,fun r hr=>?_⟩
    have:=h.l;have:=(h1.each g (by simp)).2;simp only[List.length_append];omega
    rcases List.mem_append.1 hr with hr | hr
    exact h.r r hr
    exact h2 g (by simp) r hr
    exact⟨by have:=h.l;omega,h.r⟩
   have:=vK n gs (k:=k) hs ⟨by have:=h1.len;simp at this;omega,fun y hy=>h1.each y (by simp[hy])⟩ (fun y hy=>h2 y (by simp[hy]))
   rw[List.foldl_cons,List.length_cons,show m+(gs.length+1)=m+1+gs.length from by omega]
   exact this
theorem yK{gs:List l5}(n:BL)(h1:J1 40 gs)(h2:mH gs):(gP gs n).ru.length<=240/\∀ r,r∈(gP gs n).ru->r.path.length<=16:=by
 have key:∀ q,(Pn gs q).1.ru.length<=240/\∀ r,r∈(Pn gs q).1.ru->r.path.length<=16:=fun q=>by
  have:=vK q gs (m:=0) (x:=(([],0),false)) ⟨by simp,by simp⟩ h1 h2
  exact⟨by have h3:=this.l;have:=h1.len;unfold Pn;simp only;omega,this.r⟩
 unfold gP
 split
 exact key n
 exact key [42]
theorem tH(k:Int)(t n:BL):(ah k t n).ru.length<=240/\∀ r,r∈(ah k t n).ru->r.path.length<=16:=by
 unfold ah
 split
 exact yK n (mr t) (Ct t)
 split
 exact⟨by simp,by simp⟩
 exact yK n ⟨by simp,by simp⟩ (fun y hy=>by simp at hy)
def zP(w:List Pg)(n p:BL):Bool:=aq w&&bq n&&(ai p).isSome&&dP (Bj w (oA (ai p)).c5 n).ru (bu (oA (ai p)))
def eC(s p:BL):Bool:=decide (p.length<=s.length)&&(s.take p.length==p)
def fH(s p:BL):Bool:=decide (p.length<=s.length)&&(s.drop (s.length-p.length)==p)
def bQ(s p:BL):BL:=if fH s p=true then s.take (s.length-p.length) else s
theorem sE{s p:BL}(h:fH s p=true):p.length<=s.length:=by unfold fH at h;simp at h;exact h.1
theorem HG{s p:BL}(h:eC s p=true):p.length<=s.length:=by unfold eC at h;simp at h;exact h.1
def de(p:BL):Bool:=decide (1<=p.length/\p.length<=16/\(p.getD 0 0).toNat=47)&&(bQ p [36]).all gL
end Go.Pd
namespace Go.Proofs
open Go.Shelf
def Tryz.qQ:Go.Shelf.Ren:=⟨fun | 156=>56 | 165=>89 | 166=>90 | 169=>91 | 240=>122 | 241=>123 | 276=>149 | 277=>150 | n=>n,fun | 31=>24 | 9=>9 | 3=>3 | 4=>4 | 0=>0 | 20=>20 | 72=>128 | 76=>130 | 70=>126 | 37=>22 | 75=>113 | 127=>163 | 164=>191 | 5=>5 | 80=>132 | n=>n,fun | n=>n⟩
theorem Tryz.yo:Go.Proofs.Lays.n156 Tryz.prog Tryz.qQ:={
 mixed:=by kernel_rfl
 f156:=Tryz.func56.trans (congrArg some (by kernel_rfl))
 f165:=Tryz.func89.trans (congrArg some (by kernel_rfl))
 f166:=Tryz.func90.trans (congrArg some (by kernel_rfl))
 f169:=Tryz.func91.trans (congrArg some (by kernel_rfl))
 f240:=Tryz.func122.trans (congrArg some (by kernel_rfl))
 f241:=Tryz.func123.trans (congrArg some (by kernel_rfl))
 f276:=Tryz.func149.trans (congrArg some (by kernel_rfl))
 f277:=Tryz.func150.trans (congrArg some (by kernel_rfl))
 t0:=Tryz.underlying0
 a0:=Tryz.isAgg0
 z0:=Tryz.sizeOf0
 v0:=Tryz.zeroValue0
 t3:=Tryz.underlying3
 a3:=Tryz.isAgg3
 z3:=Tryz.sizeOf3
 v3:=Tryz.zeroValue3
 t4:=Tryz.underlying4
 a4:=Tryz.isAgg4
 z4:=Tryz.sizeOf4
 v4:=Tryz.zeroValue4
 t9:=Tryz.underlying9
 a9:=Tryz.isAgg9
 z9:=Tryz.sizeOf9
 v9:=Tryz.zeroValue9
 t20:=Tryz.underlying20
 a20:=Tryz.isAgg20
 z20:=Tryz.sizeOf20
 v20:=Tryz.zeroValue20
 t31:=Tryz.underlying24
 a31:=Tryz.isAgg24
 z31:=Tryz.sizeOf24
 v31:=Tryz.zeroValue24
 t37:=Tryz.underlying22
 a37:=Tryz.isAgg22
 z37:=Tryz.sizeOf22
 v37:=Tryz.zeroValue22
 t70:=Tryz.underlying126
 a70:=Tryz.isAgg126
 z70:=Tryz.sizeOf126
 v70:=Tryz.zeroValue126
 t72:=Tryz.underlying128
 a72:=Tryz.isAgg128
 z72:=Tryz.sizeOf128
 v72:=Tryz.zeroValue128
 t75:=Tryz.underlying113
 a75:=Tryz.isAgg113
 z75:=Tryz.sizeOf113
 v75:=Tryz.zeroValue113
 t76:=Tryz.underlying130
 a76:=Tryz.isAgg130
 z76:=Tryz.sizeOf130
 v76:=Tryz.zeroValue130
 t127:=Tryz.underlying163
 a127:=Tryz.isAgg163
 z127:=Tryz.sizeOf163
 v127:=Tryz.zeroValue163
 t164:=Tryz.underlying191
 a164:=Tryz.isAgg191
 z164:=Tryz.sizeOf191
 v164:=Tryz.zeroValue191 }
theorem Tryz.kQ:Builder.Extra Tryz.prog Tryz.qQ:={
 sizeBuilder:=by kernel_rfl
 liesBuilder:=by kernel_rfl
 t5:=Tryz.underlying5
 a5:=Tryz.isAgg5
 z5:=Tryz.sizeOf5
 v5:=Tryz.zeroValue5
 infoByte:=by kernel_rfl
 cellsByte:=by kernel_rfl
 sizeByte:=by kernel_rfl
 neB5:=by decide }
open Go.RowKit in
theorem Tryz.strings_Join_none(a:Option Addr)(c:Nat)(sep:ByteArray)(w:World):
 Calls Tryz.prog 56 #[.slice a 0 c,.string sep] w fun e w'=>e=.returned (.string ⟨#[]⟩)/\w'=w:=Any.strings_Join_none Tryz.yo Tryz.kQ a c sep w
open Go.RowKit in
theorem Tryz.strings_Join(bk o c:Nat)(xs:List ByteArray)(sep:ByteArray)(w:World)(hcells:∀ (j:Nat) x,xs[j]? =some x->w.cell? ⟨bk,o+j,none⟩=some (.string x))(hbk:bk<w.heap.size)(hN:xs.length<=140737488355328)(hcap:xs.length<=c)(hlen:(Lib.join (xs.map (·.data.toList)) sep.data.toList).length<=140737488355328):
 Calls Tryz.prog 56 #[.slice (some ⟨bk,o,none⟩) xs.length c,.string sep] w fun e w'=>e=.returned (.string ⟨(Lib.join (xs.map (·.data.toList)) sep.data.toList).toArray⟩)/\Below w.heap.size w w':=Any.strings_Join Tryz.yo Tryz.kQ bk o c xs sep w hcells hbk hN hcap hlen
def Tryz.yn:Go.Shelf.Ren:=⟨fun | 219=>79 | 217=>112 | 225=>113 | 224=>114 | 267=>115 | 266=>143 | 314=>144 | n=>n,fun | 9=>9 | 3=>3 | 4=>4 | 5=>5 | 46=>157 | 146=>186 | 51=>185 | n=>n,fun | 1=>1 | n=>n⟩
theorem Tryz.GH:Go.Proofs.Lays.n219 Tryz.prog Tryz.yn:={
 mixed:=by kernel_rfl
 f217:=Tryz.func112.trans (congrArg some (by kernel_rfl))
 f219:=Tryz.func79.trans (congrArg some (by kernel_rfl))
 f224:=Tryz.func114.trans (congrArg some (by kernel_rfl))
 f225:=Tryz.func113.trans (congrArg some (by kernel_rfl))
 f266:=Tryz.func143.trans (congrArg some (by kernel_rfl))
 f267:=Tryz.func115.trans (congrArg some (by kernel_rfl))
 f314:=Tryz.func144.trans (congrArg some (by kernel_rfl))
 t3:=Tryz.underlying3
 a3:=Tryz.isAgg3
 z3:=Tryz.sizeOf3
 v3:=Tryz.zeroValue3
 t4:=Tryz.underlying4
 a4:=Tryz.isAgg4
 z4:=Tryz.sizeOf4
 v4:=Tryz.zeroValue4
 t5:=Tryz.underlying5
 a5:=Tryz.isAgg5
 z5:=Tryz.sizeOf5
 v5:=Tryz.zeroValue5
 t9:=Tryz.underlying9
 a9:=Tryz.isAgg9
 z9:=Tryz.sizeOf9
 v9:=Tryz.zeroValue9
 t46:=Tryz.underlying157
 a46:=Tryz.isAgg157
 z46:=Tryz.sizeOf157
 v46:=Tryz.zeroValue157
 t51:=Tryz.underlying185
 a51:=Tryz.isAgg185
 z51:=Tryz.sizeOf185
 v51:=Tryz.zeroValue185
 t146:=Tryz.underlying186
 a146:=Tryz.isAgg186
 z146:=Tryz.sizeOf186
 v146:=Tryz.zeroValue186
 g1:=by kernel_rfl }
open Go.RowKit Go.Lib in
theorem Tryz.stringslite_Index_one(s:ByteArray)(c:UInt8)(w:World):
 Calls Tryz.prog 79 #[.string s,.string ⟨#[c]⟩] w fun e w'=>e=.returned (.int .i64 (Lib.indexByte s.data.toList c))/\w'=w:=Any.stringslite_Index_one Tryz.GH s c w
def Tryz.yb:Go.Shelf.Ren:=⟨fun | 143=>148 | 219=>79 | 217=>112 | 225=>113 | 224=>114 | 267=>115 | 266=>143 | 314=>144 | n=>n,fun | 9=>9 | 3=>3 | 4=>4 | 5=>5 | 46=>157 | 146=>186 | 51=>185 | n=>n,fun | 1=>1 | n=>n⟩
theorem Tryz.Gi:Go.Proofs.Lays.n143 Tryz.prog Tryz.yb:={
 mixed:=by kernel_rfl
 f143:=Tryz.func148.trans (congrArg some (by kernel_rfl))
 f217:=Tryz.func112.trans (congrArg some (by kernel_rfl))
 f219:=Tryz.func79.trans (congrArg some (by kernel_rfl))
 f224:=Tryz.func114.trans (congrArg some (by kernel_rfl))
 f225:=Tryz.func113.trans (congrArg some (by kernel_rfl))
 f266:=Tryz.func143.trans (congrArg some (by kernel_rfl))
 f267:=Tryz.func115.trans (congrArg some (by kernel_rfl))
 f314:=Tryz.func144.trans (congrArg some (by kernel_rfl))
 t3:=Tryz.underlying3
 a3:=Tryz.isAgg3
 z3:=Tryz.sizeOf3
 v3:=Tryz.zeroValue3
 t4:=Tryz.underlying4
 a4:=Tryz.isAgg4
 z4:=Tryz.sizeOf4
 v4:=Tryz.zeroValue4
 t5:=Tryz.underlying5
 a5:=Tryz.isAgg5
 z5:=Tryz.sizeOf5
 v5:=Tryz.zeroValue5
 t9:=Tryz.underlying9
 a9:=Tryz.isAgg9
 z9:=Tryz.sizeOf9
 v9:=Tryz.zeroValue9
 t46:=Tryz.underlying157
 a46:=Tryz.isAgg157
 z46:=Tryz.sizeOf157
 v46:=Tryz.zeroValue157
 t51:=Tryz.underlying185
 a51:=Tryz.isAgg185
 z51:=Tryz.sizeOf185
 v51:=Tryz.zeroValue185
 t146:=Tryz.underlying186
 a146:=Tryz.isAgg186
 z146:=Tryz.sizeOf186
 v146:=Tryz.zeroValue186
 g1:=by kernel_rfl }
open Go.RowKit Go.Lib in
theorem Tryz.strings_Index_one(s:ByteArray)(c:UInt8)(w:World):
 Calls Tryz.prog 148 #[.string s,.string ⟨#[c]⟩] w fun e w'=>e=.returned (.int .i64 (Lib.indexByte s.data.toList c))/\w'=w:=Any.strings_Index_one Tryz.Gi s c w
def Tryz.yl:Go.Shelf.Ren:=⟨fun | 138=>147 | 195=>164 | 218=>166 | 143=>148 | 219=>79 | 217=>112 | 225=>113 | 224=>114 | 267=>115 | 266=>143 | 314=>144 | n=>n,fun | 9=>9 | 3=>3 | 4=>4 | 5=>5 | 0=>0 | 46=>157 | 146=>186 | 51=>185 | n=>n,fun | 1=>1 | n=>n⟩
theorem Tryz.GU:Go.Proofs.Lays.n138 Tryz.prog Tryz.yl:={
 mixed:=by kernel_rfl
 f138:=Tryz.func147.trans (congrArg some (by kernel_rfl))
 f143:=Tryz.func148.trans (congrArg some (by kernel_rfl))
 f195:=Tryz.func164.trans (congrArg some (by kernel_rfl))
 f217:=Tryz.func112.trans (congrArg some (by kernel_rfl))
 f218:=Tryz.func166.trans (congrArg some (by kernel_rfl))
 f219:=Tryz.func79.trans (congrArg some (by kernel_rfl))
 f224:=Tryz.func114.trans (congrArg some (by kernel_rfl))
 f225:=Tryz.func113.trans (congrArg some (by kernel_rfl))
 f266:=Tryz.func143.trans (congrArg some (by kernel_rfl))
 f267:=Tryz.func115.trans (congrArg some (by kernel_rfl))
 f314:=Tryz.func144.trans (congrArg some (by kernel_rfl))
 t0:=Tryz.underlying0
 a0:=Tryz.isAgg0
 z0:=Tryz.sizeOf0
 v0:=Tryz.zeroValue0
 t3:=Tryz.underlying3
 a3:=Tryz.isAgg3
 z3:=Tryz.sizeOf3
 v3:=Tryz.zeroValue3
 t4:=Tryz.underlying4
 a4:=Tryz.isAgg4
 z4:=Tryz.sizeOf4
 v4:=Tryz.zeroValue4
 t5:=Tryz.underlying5
 a5:=Tryz.isAgg5
 z5:=Tryz.sizeOf5
 v5:=Tryz.zeroValue5
 t9:=Tryz.underlying9
 a9:=Tryz.isAgg9
 z9:=Tryz.sizeOf9
 v9:=Tryz.zeroValue9
 t46:=Tryz.underlying157
 a46:=Tryz.isAgg157
 z46:=Tryz.sizeOf157
 v46:=Tryz.zeroValue157
 t51:=Tryz.underlying185
 a51:=Tryz.isAgg185
 z51:=Tryz.sizeOf185
 v51:=Tryz.zeroValue185
 t146:=Tryz.underlying186
 a146:=Tryz.isAgg186
 z146:=Tryz.sizeOf186
 v146:=Tryz.zeroValue186
 g1:=by kernel_rfl }
open Go.RowKit Go.Lib in
theorem Tryz.strings_Count_one(s:ByteArray)(c:UInt8)(w:World):
 Calls Tryz.prog 147 #[.string s,.string ⟨#[c]⟩] w fun e w'=>e=.returned (.int .i64 (Lib.countByte s.data.toList c))/\w'=w:=Any.strings_Count_one Tryz.GU s c w
def Tryz.eO:Go.Shelf.Ren:=⟨fun | 221=>121 | 268=>146 | 138=>147 | 143=>148 | 195=>164 | 197=>165 | 218=>166 | 219=>79 | 260=>180 | 217=>112 | 225=>113 | 224=>114 | 267=>115 | 266=>143 | 314=>144 | n=>n,fun | 9=>9 | 3=>3 | 31=>24 | 4=>4 | 0=>0 | 105=>203 | 21=>21 | 5=>5 | 46=>157 | 119=>228 | 139=>231 | 138=>230 | 146=>186 | 51=>185 | n=>n,fun | 1=>1 | 3=>2 | 4=>3 | n=>n⟩
theorem Tryz.GP:Go.Proofs.Lays.n221 Tryz.prog Tryz.eO:={
 mixed:=by kernel_rfl
 f138:=Tryz.func147.trans (congrArg some (by kernel_rfl))
 f143:=Tryz.func148.trans (congrArg some (by kernel_rfl))
 f195:=Tryz.func164.trans (congrArg some (by kernel_rfl))
 f197:=Tryz.func165.trans (congrArg some (by kernel_rfl))
 f217:=Tryz.func112.trans (congrArg some (by kernel_rfl))
 f218:=Tryz.func166.trans (congrArg some (by kernel_rfl))
 f219:=Tryz.func79.trans (congrArg some (by kernel_rfl))
 f221:=Tryz.func121.trans (congrArg some (by kernel_rfl))
 f224:=Tryz.func114.trans (congrArg some (by kernel_rfl))
 f225:=Tryz.func113.trans (congrArg some (by kernel_rfl))
 f260:=Tryz.func180.trans (congrArg some (by kernel_rfl))
 f266:=Tryz.func143.trans (congrArg some (by kernel_rfl))
 f267:=Tryz.func115.trans (congrArg some (by kernel_rfl))
 f268:=Tryz.func146.trans (congrArg some (by kernel_rfl))
 f314:=Tryz.func144.trans (congrArg some (by kernel_rfl))
 t0:=Tryz.underlying0
 a0:=Tryz.isAgg0
 z0:=Tryz.sizeOf0
 v0:=Tryz.zeroValue0
 t3:=Tryz.underlying3
 a3:=Tryz.isAgg3
 z3:=Tryz.sizeOf3
 v3:=Tryz.zeroValue3
 t4:=Tryz.underlying4
 a4:=Tryz.isAgg4
 z4:=Tryz.sizeOf4
 v4:=Tryz.zeroValue4
 t5:=Tryz.underlying5
 a5:=Tryz.isAgg5
 z5:=Tryz.sizeOf5
 v5:=Tryz.zeroValue5
 t9:=Tryz.underlying9
 a9:=Tryz.isAgg9
 z9:=Tryz.sizeOf9
 v9:=Tryz.zeroValue9
 t21:=Tryz.underlying21
 a21:=Tryz.isAgg21
 z21:=Tryz.sizeOf21
 v21:=Tryz.zeroValue21
 t31:=Tryz.underlying24
 a31:=Tryz.isAgg24
 z31:=Tryz.sizeOf24
 v31:=Tryz.zeroValue24
 t46:=Tryz.underlying157
 a46:=Tryz.isAgg157
 z46:=Tryz.sizeOf157
 v46:=Tryz.zeroValue157
 t51:=Tryz.underlying185
 a51:=Tryz.isAgg185
 z51:=Tryz.sizeOf185
 v51:=Tryz.zeroValue185
 t105:=Tryz.underlying203
 a105:=Tryz.isAgg203
 z105:=Tryz.sizeOf203
 v105:=Tryz.zeroValue203
 t119:=Tryz.underlying228
 a119:=Tryz.isAgg228
 z119:=Tryz.sizeOf228
 t138:=Tryz.underlying230
 a138:=Tryz.isAgg230
 z138:=Tryz.sizeOf230
 v138:=Tryz.zeroValue230
 t139:=Tryz.underlying231
 a139:=Tryz.isAgg231
 z139:=Tryz.sizeOf231
 v139:=Tryz.zeroValue231
 t146:=Tryz.underlying186
 a146:=Tryz.isAgg186
 z146:=Tryz.sizeOf186
 v146:=Tryz.zeroValue186
 g1:=by kernel_rfl
 g3:=by kernel_rfl
 g4:=by kernel_rfl }
def Tryz.ye:Go.Shelf.Ren:=⟨fun | 153=>50 | 152=>81 | 226=>82 | 227=>83 | 228=>84 | 137=>117 | 119=>118 | 224=>114 | 225=>113 | 217=>112 | 266=>143 | n=>n,fun | 9=>9 | 3=>3 | 4=>4 | 5=>5 | 21=>21 | 117=>120 | 116=>119 | 0=>0 | 46=>157 | 124=>159 | n=>n,fun | n=>n⟩
theorem Tryz.FI:Go.Proofs.Lays.n153 Tryz.prog Tryz.ye:={
 mixed:=by kernel_rfl
 f119:=Tryz.func118.trans (congrArg some (by kernel_rfl))
 f137:=Tryz.func117.trans (congrArg some (by kernel_rfl))
 f152:=Tryz.func81.trans (congrArg some (by kernel_rfl))
 f153:=Tryz.func50.trans (congrArg some (by kernel_rfl))
 f217:=Tryz.func112.trans (congrArg some (by kernel_rfl))
 f224:=Tryz.func114.trans (congrArg some (by kernel_rfl))
 f225:=Tryz.func113.trans (congrArg some (by kernel_rfl))
 f226:=Tryz.func82.trans (congrArg some (by kernel_rfl))
 f227:=Tryz.func83.trans (congrArg some (by kernel_rfl))
 f228:=Tryz.func84.trans (congrArg some (by kernel_rfl))
 f266:=Tryz.func143.trans (congrArg some (by kernel_rfl))
 t0:=Tryz.underlying0
 a0:=Tryz.isAgg0
 z0:=Tryz.sizeOf0
 v0:=Tryz.zeroValue0
 t3:=Tryz.underlying3
 a3:=Tryz.isAgg3
 z3:=Tryz.sizeOf3
 v3:=Tryz.zeroValue3
 t4:=Tryz.underlying4
 a4:=Tryz.isAgg4
 z4:=Tryz.sizeOf4
 v4:=Tryz.zeroValue4
 t5:=Tryz.underlying5
 a5:=Tryz.isAgg5
 z5:=Tryz.sizeOf5
 v5:=Tryz.zeroValue5
 t9:=Tryz.underlying9
 a9:=Tryz.isAgg9
 z9:=Tryz.sizeOf9
 v9:=Tryz.zeroValue9
 t21:=Tryz.underlying21
 a21:=Tryz.isAgg21
 z21:=Tryz.sizeOf21
 v21:=Tryz.zeroValue21
 t46:=Tryz.underlying157
 a46:=Tryz.isAgg157
 z46:=Tryz.sizeOf157
 v46:=Tryz.zeroValue157
 t116:=Tryz.underlying119
 a116:=Tryz.isAgg119
 z116:=Tryz.sizeOf119
 t117:=Tryz.underlying120
 a117:=Tryz.isAgg120
 z117:=Tryz.sizeOf120
 v117:=Tryz.zeroValue120
 t124:=Tryz.underlying159
 a124:=Tryz.isAgg159
 z124:=Tryz.sizeOf159
 v124:=Tryz.zeroValue159 }
open Go.RowKit Go.Lib in
theorem Tryz.strings_IndexAny_laid(s chars:ByteArray)(w:World)(hs:s.size<4294967281)(hcs:chars.size<4294967281)(has:∀ (j:Nat) b,s.data.toList[j]? =some b->b.toNat<128)(hac:∀ (j:Nat) b,chars.data.toList[j]? =some b->b.toNat<128):
 Calls Tryz.prog 50 #[.string s,.string chars] w fun e w'=>e=.returned (.int .i64 (Lib.indexAny s.data.toList chars.data.toList))/\Below w.heap.size w w':=Any.strings_IndexAny_laid Tryz.FI (by kernel_rfl) s chars w hs hcs has hac
def Tryz.yf:Go.Shelf.Ren:=⟨fun | 110=>70 | 109=>97 | n=>n,fun | 31=>24 | 9=>9 | 4=>4 | 3=>3 | 0=>0 | n=>n,fun | n=>n⟩
theorem Tryz.yB:Go.Proofs.Lays.n110 Tryz.prog Tryz.yf:={
 mixed:=by kernel_rfl
 f109:=Tryz.func97.trans (congrArg some (by kernel_rfl))
 f110:=Tryz.func70.trans (congrArg some (by kernel_rfl))
 t0:=Tryz.underlying0
 a0:=Tryz.isAgg0
 z0:=Tryz.sizeOf0
 v0:=Tryz.zeroValue0
 t3:=Tryz.underlying3
 a3:=Tryz.isAgg3
 z3:=Tryz.sizeOf3
 v3:=Tryz.zeroValue3
 t4:=Tryz.underlying4
 a4:=Tryz.isAgg4
 z4:=Tryz.sizeOf4
 v4:=Tryz.zeroValue4
 t9:=Tryz.underlying9
 a9:=Tryz.isAgg9
 z9:=Tryz.sizeOf9
 v9:=Tryz.zeroValue9
 t31:=Tryz.underlying24
 a31:=Tryz.isAgg24
 z31:=Tryz.sizeOf24
 v31:=Tryz.zeroValue24 }
open Go.Lib in
theorem Tryz.slices_Contains_string(b off n c:Nat)(zs:List ByteArray)(x:ByteArray)(w:World)(hz:n<=zs.length)(hbig:n<=9223372036854775807)(hc:∀ j,j<zs.length->w.cell? ⟨b,off+j,none⟩=some (.string (zs.getD j ByteArray.empty))):
 Calls Tryz.prog 70 #[.slice (some ⟨b,off,none⟩) n c,.string x] w fun e w'=>e=.returned (.bool (Lib.containsS (zs.take n) x))/\w'=w:=Any.slices_Contains_string Tryz.yB b off n c zs x w hz hbig hc
open Go.Lib in
theorem Tryz.slices_Contains_string_empty(a:Option Addr)(c:Nat)(x:ByteArray)(w:World):
 Calls Tryz.prog 70 #[.slice a 0 c,.string x] w fun e w'=>e=.returned (.bool false)/\w'=w:=Any.slices_Contains_string_empty Tryz.yB a c x w
def Tryz.vB:Go.Shelf.Ren:=⟨fun | 16=>86 | n=>n,fun | 24=>24 | 9=>9 | 4=>4 | n=>n,fun | n=>n⟩
theorem Tryz.pI:Go.Proofs.Lays2.n16 Tryz.prog Tryz.vB:={
 mixed:=by kernel_rfl
 f16:=Tryz.func86.trans (congrArg some (by kernel_rfl))
 t4:=Tryz.underlying4
 a4:=Tryz.isAgg4
 z4:=Tryz.sizeOf4
 v4:=Tryz.zeroValue4
 t9:=Tryz.underlying9
 a9:=Tryz.isAgg9
 z9:=Tryz.sizeOf9
 v9:=Tryz.zeroValue9
 t24:=Tryz.underlying24
 a24:=Tryz.isAgg24
 z24:=Tryz.sizeOf24
 v24:=Tryz.zeroValue24
 i9:=by kernel_rfl }
open Go.RowKit Go.Lib in
theorem Tryz.slices_Clone_string(b off n c:Nat)(zs:List ByteArray)(w:World)(hz:n<=zs.length)(hbig:n*16<=140737488355328)(hc:∀ j,j<zs.length->w.cell? ⟨b,off+j,none⟩=some (.string (zs.getD j ByteArray.empty))):
 Calls Tryz.prog 86 #[.slice (some ⟨b,off,none⟩) n c] w fun e w'=> ∃ v',e=.returned v'/\w'.ownsRow w.heap.size 9 1 v' n ((zs.take n).map (Value.string))/\v'≠.slice none 0 0/\Below w.heap.size w w':=Any.slices_Clone_string Tryz.pI b off n c zs w hz hbig hc
open Go.RowKit Go.Lib in
theorem Tryz.slices_Clone_string_nil(n c:Nat)(w:World):
 Calls Tryz.prog 86 #[.slice none n c] w fun e w'=>e=.returned (.slice none 0 0)/\w'=w:=Any.slices_Clone_string_nil Tryz.pI n c w
open Go.RowKit Go.Lib in
theorem Tryz.slices_Clone_string_zero(a:Addr)(c:Nat)(w:World):
 Calls Tryz.prog 86 #[.slice (some a) 0 c] w fun e w'=> ∃ v',e=.returned v'/\w'.ownsRow w.heap.size 9 1 v' 0 []/\v'≠.slice none 0 0/\Below w.heap.size w w':=Any.slices_Clone_string_zero Tryz.pI a c w
end Go.Proofs
namespace Go.Abs
open Go Go.RowKit
section
variable {P:Program}
theorem gi{f:FuncId}{args:List V}{Q:V->Prop}(ho:V.aD args=false)(hp:args.all (fun v=>match v with | .b9=>false | .gv _ _=>false | .tup _=>false | _=>true)=true)(h:PC P f args Q):PF P f args [] (fun r h=>Q r/\h=[]):=by
 refine⟨h.1,fun w Pb Kb cargs F hi=>?_⟩
 have hF0:∀ i v x,args[i]? =some v->cargs[i]? =some x->F (.slot i)=[]:=fun i v x hv hx=>by
  have hr:=hi.slot i v x hv hx
  have hm:=List.mem_of_getElem? hv
  exact tY (w:=w) (Pb:=Pb) (by
   have:∀ (l:List V),V.aD l=false->∀ v∈l,v.cB=false:=by
    intro l;induction l with
    | nil=>intro _ v hv;simp at hv
    | cons a r ih=>
      intro h v hv
      simp only[V.aD,Bool.or_eq_false_iff]at h
      rcases List.mem_cons.1 hv with rfl | hv
      exact h.1
      exact ih h.2 v hv
   exact this _ ho v hm) hr
 have hrv:∀ (l:List V) (c:List Value),l.length=c.length->(∀ (i:Nat) v x,l[i]? =some v->c[i]? =some x->RV w Pb v x []/\v∈args)->RVs w Pb l c []:=by
  intro l
  induction l with
  | nil=>intro c hl _;cases c with | nil=>exact⟨rfl,rfl⟩ | cons _ _=>simp at hl
  | cons v r ih=>
    intro c hl hx
    cases c with
    | nil=>simp at hl
    | cons x c=>
      obtain⟨h0,hm⟩:=hx 0 v x rfl rfl
      have hv:=List.all_eq_true.1 hp v hm
      refine⟨x,c,[],[],rfl,rfl,?_,ih c (by simpa using hl) fun i v' x' h1 h2=>hx (i+1) v' x' (by simpa using h1) (by simpa using h2)⟩
      cases v <;> first | exact h0 | simp at hv
 have hR:RVs w Pb args cargs []:=hrv args cargs hi.len.symm fun i v x hv hx=>by
  have:=hi.slot i v x hv hx
  rw[hF0 i v x hv hx]at this
  exact⟨this,List.mem_of_getElem? hv⟩
 refine(h.2 w Pb cargs (fun g hg=>hi.bound g (hi.sub g hg)) hR).mono ?_
 rintro e w' ⟨r,x,Fr,Pb',rfl,hq,hrv,hnd,hfr,hP1,hP2,hB⟩
 refine⟨r,x,[],Pb',fun g=>Kb g\/Pb' g,(fun r=>match r with | .slot i=>if i=0 then Fr else [] | .key _=>[]),rfl,⟨hq,rfl⟩,?_⟩
 have hold:∀ g,Kb g->g<w.heap.size:=hi.bound
 refine⟨by simpa using hrv,fun k g v hk=>by simp[lk]at hk,fun r r' hne g hg=>?_,fun r=>?_,fun r g hg=>?_,fun g h=>.inr h,fun g h=>?_,hP1,fun _ h=>.inl h,fun g hg=>?_,⟨hB.os,hB.tape,hB.output,hB.size,fun g hg=>hB.block g (hold g hg),Shp.of_eq hB.block⟩⟩
 cases r with
 | slot i=>
   simp only at hg;split at hg
   rename_i hi0
   cases r' with
   | slot j=>simp only;rw[if_neg (fun c=>hne (by rw[hi0,c]))];simp
   | key k=>simp
   simp at hg
 | key k=>simp at hg
 cases r <;> simp only
 split
 exact hnd
 exact List.nodup_nil
 exact List.nodup_nil
 cases r with
 | slot i=>
   simp only at hg;split at hg
   obtain⟨h1,h2,h3⟩:=hfr g hg
   exact⟨fun c=>c.elim (fun c=>by have:=hold g c;omega) h3,h2⟩
   simp at hg
 | key k=>simp at hg
 rcases h with h | h
 have:=hold g h;have:=hB.size;omega
 rcases hP2 g h with h | h
 have:=hold g (hi.sub g h);have:=hB.size;omega
 exact h.2
 rcases hP2 g hg with h | h
 exact .inl h
 exact .inr fun c=>by have:=hold g c;omega
def RVm(w:World)(Pb:Nat->Prop)(v:V)(x:Value):Prop:=match v with | .agg us=> ∃ cs,x=.agg cs/\RL w Pb us cs.toList [] | .b9=>([]:List Nat)=[] | v=>R w Pb v [x] []
theorem xw{w:World}{Pb:Nat->Prop}{v:V}{vs:List V}{xs:List Value}(h:RVs w Pb (v::vs) xs []):∃ x r,xs=x::r/\RVm w Pb v x/\RVs w Pb vs r []:=by
 obtain⟨x,r,F1,F2,e,hF,h1,h2⟩:=h
 have hF:=List.append_eq_nil_iff.1 hF.symm
 obtain⟨rfl,rfl⟩:=hF
 exact⟨x,r,e,h1,h2⟩
theorem fJ{w:World}{Pb:Nat->Prop}{y:Value}{vs:List V}{xs:List Value}(h:RVs w Pb (.lit y::vs) xs []):∃ r,xs=y::r/\RVs w Pb vs r []:=by
 obtain⟨x,r,e,h1,h2⟩:=xw h
 obtain⟨_,e1,_⟩:=h1
 simp only[List.cons.injEq,and_true]at e1
 exact⟨r,by rw[e,e1],h2⟩
theorem jY{w:World}{Pb:Nat->Prop}{xs:List Value}(h:RVs w Pb [] xs []):xs=[]:=h.1
theorem xJ{w:World}{Pb:Nat->Prop}{f:Bool}{l:List BL}{vs:List V}{xs:List Value}(h:RVs w Pb (.sl f (l.map sV)::vs) xs []):∃ A c r,xs=.slice A l.length c::r/\RVs w Pb vs r []/\l.length<=c/\
 (l=[]\/∃ b o,A=some ⟨b,o,none⟩/\Pb b/\∀ j x,(l.map Str)[j]? =some x->w.cell? ⟨b,o+j,none⟩=some (.string x)):=by
 obtain⟨x,r,e,h1,h2⟩:=xw h
 obtain⟨_,A,c,e1,hle,_,hx⟩:=h1
 simp only[List.cons.injEq,and_true,List.length_map]at e1 hle
 refine⟨A,c,r,by rw[e,e1],h2,hle,?_⟩
 rcases hx with hx | ⟨b,o,sz,flat,hA,hb,hs,hn,hr,hc⟩
 left;simpa using hx
 right
 refine⟨b,o,hA,hb,fun j x hj=>hc j _ ?_⟩
 have hfl:∀ (l:List BL) {flat:List Value} {F},RL w Pb (l.map sV) flat F->flat=l.map fun t=>.string (Str t):=by
  intro l;induction l with
  | nil=>intro flat F h;exact h.1
  | cons t r ih=>
    intro flat F h
    obtain⟨c1,c2,F1,F2,e1,_,h1,h2⟩:=h
    rw[e1,ih h2,h1.2.1];rfl
 rw[hfl l hr]
 rw[List.getElem?_map]at hj ⊢
 cases hl:l[j]? with
 | none=>rw[hl]at hj;simp at hj
 | some t=>rw[hl]at hj;simp at hj;simp[hj]
theorem sF{f:FuncId}{args:List V}{res:V}{y:Value}(he:lC P f)(hv:res.val? =some y)(h:∀ (w:World) (Pb:Nat->Prop) cargs,(∀ g,Pb g->g<w.heap.size)->RVs w Pb args cargs []->Calls P f cargs.toArray w fun e w'=>e=.returned y/\Below w.heap.size w w'):PC P f args (fun r=>r=res):=by
 refine⟨he,fun w Pb cargs hP hargs=>(h w Pb cargs hP hargs).mono ?_⟩
 rintro e w' ⟨rfl,hB⟩
 exact⟨res,y,[],Pb,rfl,rfl,sR hv,List.nodup_nil,by simp,fun _ h=>h,fun _ h=>.inl h,hB⟩
end
end Go.Abs
namespace Go.Pd
def cK(c:UInt8):BL->List BL
 | []=>[[]]
 | b::l=>if b=c then []::cK c l else match cK c l with
   | []=>[[b]]
   | p::r=>(b::p)::r
theorem AR(c:UInt8):∀ l,cK c l≠[]
 | []=>by simp[cK]
 | b::l=>by
   unfold cK;split
   simp
   split <;> simp
theorem mI(c:UInt8):∀ l,Lib.indexByte l c= -1->cK c l=[l]
 | [],_=>rfl
 | b::l,h=>by
   unfold Lib.indexByte at h
   split at h
   simp at h
   rename_i hb
   have hb:b≠c:=by simpa using hb
   split at h
   rename_i h1
   have:=mI c l (by simpa using h1)
   unfold cK
   rw[if_neg hb,this]
   have:=Lib.indexByte_ge l c;omega
theorem oy(c:UInt8):∀ l (i:Nat),Lib.indexByte l c=i->cK c l=l.take i::cK c (l.drop (i+1))/\i<l.length/\l.count c=(l.drop (i+1)).count c+1
 | [],i,h=>by unfold Lib.indexByte at h;omega
 | b::l,i,h=>by
   unfold Lib.indexByte at h
   split at h
   rename_i hb
   have hb:b=c:=by simpa using hb
   have:i=0:=by omega
   subst this hb
   simp[cK]
   rename_i hb
   have hb:b≠c:=by simpa using hb
   split at h
   omega
   rename_i h1
   have:=Lib.indexByte_ge l c
   have h1:Lib.indexByte l c≠ -1:=by simpa using h1
   obtain⟨j,rfl⟩:∃ j,i=j+1:=⟨i-1,by omega⟩
   obtain⟨k1,k2,k3⟩:=oy c l j (by omega)
   refine⟨?_,by simp;omega,by simp[List.count_cons,hb,k3]⟩
   conv=>lhs;unfold cK
   rw[if_neg hb,k1]
   simp
theorem wH(c:UInt8):∀ (k:Nat) (s:BL),s.count c=k->Lib.splitK [c] 0 k s=cK c s
 | 0,s,h=>by
   have:Lib.indexByte s c= -1:=by
    by_cases hc:Lib.indexByte s c= -1
    exact hc
    have h1:=Lib.indexByte_ge s c
    obtain⟨i,hi⟩:∃ i:Nat,Lib.indexByte s c=i:=⟨(Lib.indexByte s c).toNat,by omega⟩
    have:=(oy c s i hi).2.2;omega
   rw[mI c s this];rfl
 | k+1,s,h=>by
   by_cases hc:Lib.indexByte s c= -1
   rw[mI c s hc]
   unfold Lib.splitK;rw[Lib.index_one,hc];rfl
   have h1:=Lib.indexByte_ge s c
   obtain⟨i,hi⟩:∃ i:Nat,Lib.indexByte s c=i:=⟨(Lib.indexByte s c).toNat,by omega⟩
   obtain⟨k1,k2,k3⟩:=oy c s i hi
   rw[k1]
   unfold Lib.splitK
   rw[Lib.index_one,hi]
   have: ¬ ((i:Int)== -1)=true:=by simp
   rw[if_neg this]
   simp only[Int.toNat_natCast,Nat.add_zero,List.length_singleton]
   rw[wH c k _ (by omega)]
theorem ve(c:UInt8):∀ s,Lib.indexByte s c= -1->ag c s=(s,[],false)
 | [],_=>rfl
 | b::l,h=>by
   unfold Lib.indexByte at h
   split at h
   simp at h
   rename_i hb
   have hb:b≠c:=by simpa using hb
   split at h
   rename_i h1
   have:=ve c l (by simpa using h1)
   simp only[ag,if_neg hb,this]
   have:=Lib.indexByte_ge l c;omega
theorem rh(c:UInt8):∀ s (i:Nat),Lib.indexByte s c=i->ag c s=(s.take i,s.drop (i+1),true)/\i<s.length
 | [],i,h=>by unfold Lib.indexByte at h;omega
 | b::l,i,h=>by
   unfold Lib.indexByte at h
   split at h
   rename_i hb
   have hb:b=c:=by simpa using hb
   have:i=0:=by omega
   subst this
   simp[ag,hb]
   rename_i hb
   have hb:b≠c:=by simpa using hb
   split at h
   omega
   rename_i h1
   have:=Lib.indexByte_ge l c
   have h1:Lib.indexByte l c≠ -1:=by simpa using h1
   obtain⟨j,rfl⟩:∃ j,i=j+1:=⟨i-1,by omega⟩
   obtain⟨k1,k2⟩:=rh c l j (by omega)
   refine⟨?_,by simp;omega⟩
   simp only[ag,if_neg hb,k1];rfl
theorem HV(s:BL)(c:UInt8)(h:0<=Lib.indexByte s c):Lib.indexByte s c<s.length:=by
 obtain⟨i,hi⟩:∃ i:Nat,Lib.indexByte s c=i:=⟨(Lib.indexByte s c).toNat,by omega⟩
 have:=(rh c s i hi).2;omega
theorem FV{s:BL}{c:UInt8}(h:Lib.indexByte s c<0):ag c s=(s,[],false):=ve c s (by have:=Lib.indexByte_ge s c;omega)
theorem DW{s:BL}{c:UInt8}(h:0<=Lib.indexByte s c):ag c s=(s.take (Lib.indexByte s c).toNat,s.drop ((Lib.indexByte s c).toNat+1),true):=(rh c s _ (by omega)).1
theorem wK(c:UInt8):∀ s,cK c s=an c s
 | []=>rfl
 | b::l=>by
   have ih:=wK c l
   unfold cK an
   split
   rw[ih]
   rw[ih]
   cases h:an c l with
   | nil=>exact absurd (ih.trans h) (AR c l)
   | cons p r=>rfl
theorem tf:∀ (l:List BL),Lib.join l [47]=bT l
 | []=>rfl
 | [p]=>Lib.join_one p _
 | p::q::r=>by
   have:=tf (q::r)
   rw[Lib.join_cons]at this ⊢
   simp only[Lib.joinTail,List.map_cons,List.flatten_cons]at this ⊢
   rw[show bT (p::q::r)=p++[47]++bT (q::r) from rfl,<- this]
   simp
theorem It(s:BL): -1<=Lib.indexAny s [47,63]:=Lib.indexAny_ge _ s
theorem qW:∀ (s:BL),(Lib.indexAny s [47,63]<0->s.takeWhile gD=s/\s.dropWhile gD=[])/\(0<=Lib.indexAny s [47,63]->s.takeWhile gD=s.take (Lib.indexAny s [47,63]).toNat/\s.dropWhile gD=s.drop (Lib.indexAny s [47,63]).toNat/\(Lib.indexAny s [47,63]).toNat<s.length)
 | []=>by simp[Lib.indexAny]
 | b::l=>by
   obtain⟨i1,i2⟩:=qW l
   have hg:=It l
   have hn:gD b=!([47,63]:BL).contains b:=by
    unfold gD
    have:(b.toNat=47↔b=47)/\(b.toNat=63↔b=63):=⟨by rw[<- UInt8.toNat_inj];rfl,by rw[<- UInt8.toNat_inj];rfl⟩
    rw[Bool.eq_iff_iff]
    simp[this]
   unfold Lib.indexAny
   cases hc:([47,63]:BL).contains b with
   | true=>
     rw[hc]at hn
     simp[List.takeWhile_cons,List.dropWhile_cons,hn]
   | false=>
     rw[hc]at hn
     simp only[Bool.false_eq_true,if_false]
     by_cases h1:Lib.indexAny l [47,63]= -1
     obtain⟨k1,k2⟩:=i1 (by omega)
     rw[h1]
     simp[List.takeWhile_cons,List.dropWhile_cons,hn,k1,k2]
     obtain⟨k1,k2,k3⟩:=i2 (by omega)
     rw[if_neg (by simpa using h1)]
     refine⟨fun h=>by omega,fun _=>?_⟩
     rw[show (Lib.indexAny l [47,63]+1).toNat=(Lib.indexAny l [47,63]).toNat+1 from by omega]
     simp[List.takeWhile_cons,List.dropWhile_cons,hn,k1,k2,k3]
def gV(s:BL)(i:Nat):Bool:=decide (i+2<s.length)&&(decide (0<=bR (s.getD (i+1) 0))&&decide (0<=bR (s.getD (i+2) 0)))
def cF(s:BL)(i:Nat):UInt8:=if gV s i=true then cH (s.getD (i+1) 0) (s.getD (i+2) 0) else 0
theorem fZ{s:BL}{i:Nat}:gV s i=true↔i+2<s.length/\0<=bR (s.getD (i+1) 0)/\0<=bR (s.getD (i+2) 0):=by
 unfold gV;simp
theorem pM{s:BL}{i:Nat}(h:gV s i=true):cF s i=cH (s.getD (i+1) 0) (s.getD (i+2) 0):=if_pos h
theorem wD{s:BL}{i:Nat}(h:gV s i=false):cF s i=0:=if_neg (by rw[h];decide)
end Go.Pd
namespace Go.Proofs.YtlclejemchbjiaaGreatDoor
open Go Go.Abs Go.RowKit Go.Pd
set_option maxRecDepth 20000
theorem fo(l:BL):(Str l).data.toList=l:=rfl
theorem FM(s:BL)(c:UInt8):PC Tryz.prog 79 [sV s,sV [c]] (fun r=>r=iV (Lib.indexByte s c)):=by
 refine sF (dv Tryz.func79 (by kernel_rfl) (by kernel_rfl)) rfl fun w Pb cargs hP hargs=>?_
 obtain⟨r,rfl,h1⟩:=fJ hargs
 obtain⟨r,rfl,h2⟩:=fJ h1
 obtain rfl:=jY h2
 refine(Tryz.stringslite_Index_one (Str s) c w).mono ?_
 rintro e w' ⟨rfl,rfl⟩
 exact⟨by rw[fo],Below.refl _ _⟩
theorem FG(s:BL)(c:UInt8):PF Tryz.prog 79 [sV s,sV [c]] [] (fun r h=>r=iV (Lib.indexByte s c)/\h=[]):=gi rfl rfl (FM s c)
theorem Hb(s:BL)(hs:s.length<=1000000)(ha:∀ c,c∈s->c.toNat<128):PF Tryz.prog 50 [sV s,sV [47,63]] [] (fun r h=>r=iV (Lib.indexAny s [47,63])/\h=[]):=by
 refine gi rfl rfl (sF (dv Tryz.func50 (by kernel_rfl) (by kernel_rfl)) rfl fun w Pb cargs hP hargs=>?_)
 obtain⟨r,rfl,h1⟩:=fJ hargs
 obtain⟨r,rfl,h2⟩:=fJ h1
 obtain rfl:=jY h2
 refine(Tryz.strings_IndexAny_laid (Str s) (Str [47,63]) w (by rw[fV];omega) (by rw[fV];decide) (fun j b hb=>?_) (fun j b hb=>?_)).mono ?_
 rw[fo]at hb;exact ha b (List.mem_of_getElem? hb)
 rw[fo]at hb
 have:=List.mem_of_getElem? hb
 simp at this;rcases this with rfl | rfl <;> decide
 rintro e w' ⟨rfl,hB⟩
 exact⟨by rw[fo,fo],hB⟩
theorem BE(l:List BL):(l.map Str).map (·.data.toList)=l:=by
 rw[List.map_map];conv=>rhs;rw[<- List.map_id l]
 apply List.map_congr_left;intro x _;exact fo x
theorem GK(f:Bool)(l:List BL)(sep:BL)(hl:l.length<=1000000)(hj:(Lib.join l sep).length<=1000000):PF Tryz.prog 56 [.sl f (l.map sV),sV sep] [] (fun r h=>r=sV (Lib.join l sep)/\h=[]):=by
 refine gi rfl rfl (sF (dv Tryz.func56 (by kernel_rfl) (by kernel_rfl)) rfl fun w Pb cargs hP hargs=>?_)
 obtain⟨A,c,r,rfl,h1,hle,hc⟩:=xJ hargs
 obtain⟨r,rfl,h2⟩:=fJ h1
 obtain rfl:=jY h2
 rcases hc with rfl | ⟨b,o,rfl,hb,hc⟩
 refine(Tryz.strings_Join_none A c (Str sep) w).mono ?_
 rintro e w' ⟨rfl,rfl⟩
 exact⟨rfl,Below.refl _ _⟩
 have:=Tryz.strings_Join b o c (l.map Str) (Str sep) w hc (hP b hb) (by simp;omega) (by simpa using hle) (by rw[BE,fo];omega)
 rw[List.length_map]at this
 refine this.mono ?_
 rintro e w' ⟨rfl,hB⟩
 exact⟨by rw[BE,fo];rfl,hB⟩
theorem Ik(f:Bool)(l:List BL)(x:BL)(hl:l.length<=1000000):PF Tryz.prog 70 [.sl f (l.map sV),sV x] [] (fun r h=>r=bV (l.contains x)/\h=[]):=by
 refine gi rfl rfl (sF (dv Tryz.func70 (by kernel_rfl) (by kernel_rfl)) rfl fun w Pb cargs hP hargs=>?_)
 obtain⟨A,c,r,rfl,h1,hle,hc⟩:=xJ hargs
 obtain⟨r,rfl,h2⟩:=fJ h1
 obtain rfl:=jY h2
 rcases hc with rfl | ⟨b,o,rfl,hb,hc⟩
 refine(Tryz.slices_Contains_string_empty A c (Str x) w).mono ?_
 rintro e w' ⟨rfl,rfl⟩
 exact⟨rfl,Below.refl _ _⟩
 refine(Tryz.slices_Contains_string b o l.length c (l.map Str) (Str x) w (by simp) (by omega) (fun j hj=>?_)).mono ?_
 apply hc;rw[List.getD_eq_getElem?_getD,List.getElem?_eq_getElem hj];rfl
 rintro e w' ⟨rfl,rfl⟩
 refine⟨?_,Below.refl _ _⟩
 congr 2
 rw[Bool.eq_iff_iff,Lib.containsS_iff,List.contains_iff_mem,List.take_of_length_le (by simp),List.mem_map]
 exact⟨fun⟨y,h1,h2⟩=>by
  have:y=x:=by rw[<- fo y,h2,fo]
  rw[<- this];exact h1,fun h=>⟨x,h,rfl⟩⟩
theorem DL(s:BL)(c:UInt8)(hs:s.length<=1000000):PC Tryz.prog 121 [sV s,sV [c],iV 0,iV (-1)] (fun r=>r=.sl true ((cK c s).map sV)):=by
 refine⟨dv Tryz.func121 (by kernel_rfl) (by kernel_rfl),fun w Pb cargs hP hargs=>?_⟩
 obtain⟨r,rfl,h1⟩:=fJ hargs
 obtain⟨r,rfl,h2⟩:=fJ h1
 obtain⟨r,rfl,h3⟩:=fJ h2
 obtain⟨r,rfl,h4⟩:=fJ h3
 obtain rfl:=jY h4
 have hcnt:Lib.countB (Str s) (Str [c])=s.count c:=by
  show Lib.count (Str s).data.toList (Str [c]).data.toList=_
  rw[fo,fo,Lib.count_one]
 have hI:∀ (x:ByteArray) (cs:Array Value),x.size<=(Str s).size->Calls Tryz.prog (Tryz.eO.f 143) #[.string x,.string (Str [c])] (w.alloc (.cells cs (Tryz.eO.t 9))) fun e w'=>e=.returned (.int .i64 (Lib.indexB x (Str [c])))/\w'=w.alloc (.cells cs (Tryz.eO.t 9)):=fun x cs _=>
  (Tryz.strings_Index_one x c _).mono fun e w' h=>by
   rw[show Lib.indexB x (Str [c])=Lib.indexByte x.data.toList c from Lib.index_one _ _];exact h
 have hC:Calls Tryz.prog (Tryz.eO.f 138) #[.string (Str s),.string (Str [c])] w fun e w'=>e=.returned (.int .i64 (Lib.countB (Str s) (Str [c])))/\w'=w:=
  (Tryz.strings_Count_one (Str s) c w).mono fun e w' h=>by
   rw[hcnt];exact h
 have hcl:s.count c<=s.length:=List.count_le_length
 have hg:=Any.strings_genSplit_core Tryz.GP (by kernel_rfl) (Str s) (Str [c]) 0 (-1) (s.count c+1) w (by rw[fV];omega) (by rw[fV];simp) (Nat.zero_le _) hI hC (by decide) (by decide) (by rw[if_pos (by decide),hcnt,fV];omega)
 have hlen:(Lib.splitB (Str [c]) 0 (s.count c) (Str s)).length=s.count c+1:=Lib.splitB_all _ (by rw[fV];simp) 0 _ _ hcnt
 have hdat:(Lib.splitB (Str [c]) 0 (s.count c) (Str s)).map (·.data.toList)=cK c s:=by
  rw[Lib.splitB_data,fo,fo];exact wH c _ s rfl
 have hl2:(cK c s).length=s.count c+1:=by rw[<- hdat,List.length_map,hlen]
 have hcells:Lib.cellsOf (Lib.splitB (Str [c]) 0 (s.count c) (Str s)) (s.count c+1)=((cK c s).map fun t=>Value.string (Str t)).toArray:=by
  rw[<- hlen,Lib.cellsOf_full,<- hdat,List.map_map]
  congr 1
 refine hg.mono ?_
 rintro e w' ⟨he,hw⟩
 rw[Nat.add_sub_cancel,hlen]at he
 rw[Nat.add_sub_cancel,hcells]at hw
 subst hw
 refine⟨_,_,[],fun g=>Pb g\/g=w.heap.size,he,rfl,?_,List.nodup_nil,by simp,fun _ h=>.inl h,fun g h=>h.imp id fun h=>⟨by omega,by rw[cY];omega⟩,⟨rfl,rfl,rfl,by rw[cY];omega,fun k hk=>alloc_old w _ k hk⟩⟩
 refine⟨rfl,_,_,by rw[List.length_map,hl2],by simp[hl2],fun _=>by simp[hl2],.inr ⟨_,_,1,(cK c s).map fun t=>Value.string (Str t),rfl,.inr rfl,Nat.one_pos,fun v hv=>?_,?_,fun j u hu=>?_⟩⟩
 obtain⟨t,_,rfl⟩:=List.mem_map.1 hv;rfl
 have:∀ (l:List BL) (w:World) (Pb:Nat->Prop),RL w Pb (l.map sV) (l.map fun t=>Value.string (Str t)) []:=by
  intro l w Pb;induction l with
  | nil=>exact⟨rfl,rfl⟩
  | cons t r ih=>exact⟨[_],_,[],[],rfl,rfl,⟨rfl,rfl,rfl⟩,ih⟩
 exact this _ _ _
 rw[Nat.zero_add]
 have:(w.alloc (.cells ((cK c s).map fun t=>Value.string (Str t)).toArray (Tryz.eO.t 9))).heap[w.heap.size]? =some (.cells ((cK c s).map fun t=>Value.string (Str t)).toArray (Tryz.eO.t 9) (0,0)):=fv w _
 have hb:Blk (w.alloc (.cells ((cK c s).map fun t=>Value.string (Str t)).toArray (Tryz.eO.t 9))) w.heap.size ((cK c s).map fun t=>Value.string (Str t)).toArray:=⟨_,(0,0),this,fun i _ h=>by omega⟩
 rw[dy hb,List.getElem?_toArray];exact hu
theorem DG(s:BL)(c:UInt8)(hs:s.length<=1000000):PF Tryz.prog 121 [sV s,sV [c],iV 0,iV (-1)] [] (fun r h=>r=.sl true ((cK c s).map sV)/\h=[]):=gi rfl rfl (DL s c hs)
theorem ER(w:World)(Pb:Nat->Prop):∀ (l:List BL),RL w Pb (l.map sV) (l.map fun t=>Value.string (Str t)) []
 | []=>⟨rfl,rfl⟩
 | _::r=>⟨[_],_,[],[],rfl,rfl,⟨rfl,rfl,rfl⟩,ER w Pb r⟩
theorem rX{w w':World}{Pb:Nat->Prop}{v:Value}{l:List BL}(hP:∀ g,Pb g->g<w.heap.size)(h:w'.ownsRow w.heap.size 9 1 v l.length (l.map fun t=>Value.string (Str t))):
 ∃ F,RV w' Pb (.ow 1 (l.map sV)) v F/\F.Nodup/\∀ g,g∈F->w.heap.size<=g/\g<w'.heap.size/\¬ Pb g:=by
 obtain⟨_,h⟩:=h
 rcases h with ⟨rfl,h0⟩ | ⟨g,cap,cur,rfl,hg,hb,hle,_,hsz,htk⟩
 have:l=[]:=List.eq_nil_of_length_eq_zero h0
 subst this
 exact⟨[],⟨0,0,0,.inl ⟨rfl,rfl,rfl,none,rfl⟩⟩,List.nodup_nil,by simp⟩
 have hnp: ¬ Pb g:=fun c=>by have:=hP g c;omega
 by_cases hc:cap=0
 subst hc
 have:l=[]:=List.eq_nil_of_length_eq_zero (by omega)
 subst this
 exact⟨[],⟨0,0,0,.inl ⟨rfl,rfl,rfl,_,rfl⟩⟩,List.nodup_nil,by simp⟩
 have hgl:g<w'.heap.size:=by
  cases hh:w'.heap[g]? with
  | none=>rw[hh]at hb;cases hb
  | some o=>exact(Array.getElem?_eq_some_iff.1 hh).1
 refine⟨[g],⟨g,0,cap,.inr ⟨by omega,Nat.one_pos,by simpa using hle,by simp,fun v hv=>?_,hnp,_,[],cur,rfl,ER w' Pb l,⟨9,(0,0),hb,fun i _ h=>by omega⟩,by omega,fun j u hu=>?_⟩⟩,by simp,fun x hx=>?_⟩
 obtain⟨t,_,rfl⟩:=List.mem_map.1 hv;rfl
 rw[<- htk,List.getElem?_take]at hu
 split at hu
 rw[Nat.zero_add,<- Array.getElem?_toList];exact hu
 simp at hu
 obtain rfl:=List.mem_singleton.1 hx
 exact⟨hg,hgl,hnp⟩
theorem Dl(f:Bool)(l:List BL)(hl:l.length<=1000000):PC Tryz.prog 86 [.sl f (l.map sV)] (fun r=>r=.ow 1 (l.map sV)):=by
 refine⟨dv Tryz.func86 (by kernel_rfl) (by kernel_rfl),fun w Pb cargs hP hargs=>?_⟩
 obtain⟨A,c,r,rfl,h1,hle,hc⟩:=xJ hargs
 obtain rfl:=jY h1
 rcases hc with rfl | ⟨b,o,rfl,hb,hc⟩
 cases A with
 | none=>
   refine(Tryz.slices_Clone_string_nil 0 c w).mono ?_
   rintro e w' ⟨rfl,rfl⟩
   exact⟨_,_,[],Pb,rfl,rfl,⟨0,0,0,.inl ⟨rfl,rfl,rfl,none,rfl⟩⟩,List.nodup_nil,by simp,fun _ h=>h,fun _ h=>.inl h,Below.refl _ _⟩
 | some a=>
   refine(Tryz.slices_Clone_string_zero a c w).mono ?_
   rintro e w' ⟨v,rfl,hr,_,hB⟩
   obtain⟨F,k1,k2,k3⟩:=rX (l:=[]) hP hr
   exact⟨_,_,F,Pb,rfl,rfl,k1,k2,k3,fun _ h=>h,fun _ h=>.inl h,hB⟩
 refine(Tryz.slices_Clone_string b o l.length c (l.map Str) w (by simp) (by omega) (fun j hj=>?_)).mono ?_
 apply hc;rw[List.getD_eq_getElem?_getD,List.getElem?_eq_getElem hj];rfl
 rintro e w' ⟨v,rfl,hr,_,hB⟩
 rw[List.take_of_length_le (by simp),List.map_map]at hr
 obtain⟨F,k1,k2,k3⟩:=rX hP hr
 exact⟨_,_,F,Pb,rfl,rfl,k1,k2,k3,fun _ h=>h,fun _ h=>.inl h,hB⟩
theorem CQ(f:Bool)(l:List BL)(hl:l.length<=1000000):PF Tryz.prog 86 [.sl f (l.map sV)] [] (fun r h=>r=.ow 1 (l.map sV)/\h=[]):=gi rfl rfl (Dl f l hl)
end Go.Proofs.YtlclejemchbjiaaGreatDoor
namespace Go.Pd
def foldI(b:Int):Int:=if 97<=b/\b<=102 then b-32 else b
def dt(i:Nat):Int:=if i<10 then 48+i else 55+i
def jC(b:Int):Int:=if 48<=foldI b/\foldI b<=57 then foldI b-48 else if 65<=foldI b/\foldI b<=70 then foldI b-55 else -1
theorem tU:∀ i,(h:i<16)->((((⟨#[48,49,50,51,52,53,54,55,56,57,65,66,67,68,69,70]⟩:ByteArray)[i]'h).toNat:Nat):Int)=dt i:=by decide
theorem rq{i:Nat}(h:i<16):dt i<128:=by unfold dt;split <;> omega
theorem CY(b:UInt8):jC b.toNat=bR b:=by
 unfold jC foldI bR
 have:=b.toNat_lt
 repeat' split
 all_goals omega
theorem uw{b:Int}{i:Nat}(hi:i<16)(h:dt i=foldI b):jC b=i:=by
 unfold dt at h
 unfold jC
 split at h
 rw[if_pos (by omega)];omega
 rw[if_neg (by omega),if_pos (by omega)];omega
theorem rK{b:Int}(h:∀ j:Nat,j<16->dt j≠foldI b):jC b= -1:=by
 unfold jC
 split
 rename_i hc
 refine absurd ?_ (h (foldI b-48).toNat (by omega))
 unfold dt;rw[if_pos (by omega)];omega
 split
 rename_i hc
 refine absurd ?_ (h (foldI b-55).toNat (by omega))
 unfold dt;rw[if_neg (by omega)];omega
 rfl
end Go.Pd
namespace Go.Proofs.YtlclejemchbjiaaGreatDoor
open Go Go.RowKit Go.Lib Go.Pd
set_option maxHeartbeats 1000000 in
set_option maxRecDepth 100000 in
theorem Hu(b:Int)(h0:0<=b)(h1:b<256)(hlo:decide ((97:Int)<=b)=false)(w:World):Calls Tryz.prog 145 #[.int .u8 b] w fun e w'=>e=.returned (.tuple #[.int .i64 (max (jC b) 0),.bool (decide (0<=jC b))])/\∃ pos,w'=w.iter ⟨#[48,49,50,51,52,53,54,55,56,57,65,66,67,68,69,70]⟩ pos:=by
 have HF:Aside (foldI b=b):=by
  have:=of_decide_eq_false hlo;unfold Aside foldI;rw[if_neg (by omega)]
 go_enter Tryz.func145,Tryz.ntmps145
 go_wp2
 go_loopg [4,5] 16 (fun g _ _ wx=> ∃ i:Nat,i+g=16/\wx=w.iter ⟨#[48,49,50,51,52,53,54,55,56,57,65,66,67,68,69,70]⟩ i/\∀ j:Nat,j<i->dt j≠foldI b)
 case atStart=>exact⟨0,by omega,rfl,fun j hj=>by omega⟩
 case round=>
  obtain⟨i,hig,rfl,hno⟩:=hrel
  have HN:Aside (∀ j:Nat,j<i->dt j≠foldI b):=hno
  clear hno
  cases gk with
  | zero=>
    obtain rfl:i=16:=by omega
    have hnx:=run_next_end (P:=Tryz.prog) w ⟨#[48,49,50,51,52,53,54,55,56,57,65,66,67,68,69,70]⟩ 16
    go_wp2
    go_ret2
    exact⟨by rw[rK HN.out];rfl,_,rfl⟩
  | succ g=>
    have hi:i<(⟨#[48,49,50,51,52,53,54,55,56,57,65,66,67,68,69,70]⟩:ByteArray).size:=by show i<16;omega
    have hfa:((((⟨#[48,49,50,51,52,53,54,55,56,57,65,66,67,68,69,70]⟩:ByteArray)[i]'hi).toNat:Nat):Int)=dt i:=tU i hi
    have hlt:((⟨#[48,49,50,51,52,53,54,55,56,57,65,66,67,68,69,70]⟩:ByteArray)[i]'hi).toNat<128:=by have:=rq (show i<16 from hi);omega
    have hnx:=fun ty=>run_next_ascii (P:=Tryz.prog) w ⟨#[48,49,50,51,52,53,54,55,56,57,65,66,67,68,69,70]⟩ i ty hi hlt
    rw[hfa]at hnx
    clear hlt hfa
    cases hin:(dt i==b)
    · have HI:Aside ((dt i==b)=false):=hin
      go_wp2
      go_roundg g
      case measure=>omega
      case rel=>exact⟨i+1,by omega,rfl,fun j hj=>by
       by_cases e:j=i
       subst e;rw[HF.out];exact beq_eq_false_iff_ne.1 HI.out
       exact HN.out j (by omega)⟩
    have HI:Aside ((dt i==b)=true):=hin
    go_wp2
    go_ret2
    exact⟨by rw[uw (by have:i<16:=hi;exact this) (by rw[HF.out];exact beq_iff_eq.1 HI.out)];simp,_,rfl⟩
set_option maxHeartbeats 1000000 in
set_option maxRecDepth 100000 in
theorem Ij(b:Int)(h0:0<=b)(h1:b<256)(hlo:decide ((97:Int)<=b)=true)(hhi:decide (b<=102)=false)(w:World):Calls Tryz.prog 145 #[.int .u8 b] w fun e w'=>e=.returned (.tuple #[.int .i64 (max (jC b) 0),.bool (decide (0<=jC b))])/\∃ pos,w'=w.iter ⟨#[48,49,50,51,52,53,54,55,56,57,65,66,67,68,69,70]⟩ pos:=by
 have HF:Aside (foldI b=b):=by
  have:=of_decide_eq_false hhi;unfold Aside foldI;rw[if_neg (by omega)]
 go_enter Tryz.func145,Tryz.ntmps145
 go_wp2
 go_loopg [4,5] 16 (fun g _ _ wx=> ∃ i:Nat,i+g=16/\wx=w.iter ⟨#[48,49,50,51,52,53,54,55,56,57,65,66,67,68,69,70]⟩ i/\∀ j:Nat,j<i->dt j≠foldI b)
 case atStart=>exact⟨0,by omega,rfl,fun j hj=>by omega⟩
 case round=>
  obtain⟨i,hig,rfl,hno⟩:=hrel
  have HN:Aside (∀ j:Nat,j<i->dt j≠foldI b):=hno
  clear hno
  cases gk with
  | zero=>
    obtain rfl:i=16:=by omega
    have hnx:=run_next_end (P:=Tryz.prog) w ⟨#[48,49,50,51,52,53,54,55,56,57,65,66,67,68,69,70]⟩ 16
    go_wp2
    go_ret2
    exact⟨by rw[rK HN.out];rfl,_,rfl⟩
  | succ g=>
    have hi:i<(⟨#[48,49,50,51,52,53,54,55,56,57,65,66,67,68,69,70]⟩:ByteArray).size:=by show i<16;omega
    have hfa:((((⟨#[48,49,50,51,52,53,54,55,56,57,65,66,67,68,69,70]⟩:ByteArray)[i]'hi).toNat:Nat):Int)=dt i:=tU i hi
    have hlt:((⟨#[48,49,50,51,52,53,54,55,56,57,65,66,67,68,69,70]⟩:ByteArray)[i]'hi).toNat<128:=by have:=rq (show i<16 from hi);omega
    have hnx:=fun ty=>run_next_ascii (P:=Tryz.prog) w ⟨#[48,49,50,51,52,53,54,55,56,57,65,66,67,68,69,70]⟩ i ty hi hlt
    rw[hfa]at hnx
    clear hlt hfa
    cases hin:(dt i==b)
    · have HI:Aside ((dt i==b)=false):=hin
      go_wp2
      go_roundg g
      case measure=>omega
      case rel=>exact⟨i+1,by omega,rfl,fun j hj=>by
       by_cases e:j=i
       subst e;rw[HF.out];exact beq_eq_false_iff_ne.1 HI.out
       exact HN.out j (by omega)⟩
    have HI:Aside ((dt i==b)=true):=hin
    go_wp2
    go_ret2
    exact⟨by rw[uw (by have:i<16:=hi;exact this) (by rw[HF.out];exact beq_iff_eq.1 HI.out)];simp,_,rfl⟩
set_option maxHeartbeats 1000000 in
set_option maxRecDepth 100000 in
theorem Eo(b:Int)(h0:0<=b)(h1:b<256)(hlo:decide ((97:Int)<=b)=true)(hhi:decide (b<=102)=true)(w:World):Calls Tryz.prog 145 #[.int .u8 b] w fun e w'=>e=.returned (.tuple #[.int .i64 (max (jC b) 0),.bool (decide (0<=jC b))])/\∃ pos,w'=w.iter ⟨#[48,49,50,51,52,53,54,55,56,57,65,66,67,68,69,70]⟩ pos:=by
 have HF:Aside (foldI b=(b-32) % 256):=by
  have:=of_decide_eq_true hhi;have:=of_decide_eq_true hlo;unfold Aside foldI;rw[if_pos (by omega)];omega
 go_enter Tryz.func145,Tryz.ntmps145
 go_wp2
 go_loopg [4,5] 16 (fun g _ _ wx=> ∃ i:Nat,i+g=16/\wx=w.iter ⟨#[48,49,50,51,52,53,54,55,56,57,65,66,67,68,69,70]⟩ i/\∀ j:Nat,j<i->dt j≠foldI b)
 case atStart=>exact⟨0,by omega,rfl,fun j hj=>by omega⟩
 case round=>
  obtain⟨i,hig,rfl,hno⟩:=hrel
  have HN:Aside (∀ j:Nat,j<i->dt j≠foldI b):=hno
  clear hno
  cases gk with
  | zero=>
    obtain rfl:i=16:=by omega
    have hnx:=run_next_end (P:=Tryz.prog) w ⟨#[48,49,50,51,52,53,54,55,56,57,65,66,67,68,69,70]⟩ 16
    go_wp2
    go_ret2
    exact⟨by rw[rK HN.out];rfl,_,rfl⟩
  | succ g=>
    have hi:i<(⟨#[48,49,50,51,52,53,54,55,56,57,65,66,67,68,69,70]⟩:ByteArray).size:=by show i<16;omega
    have hfa:((((⟨#[48,49,50,51,52,53,54,55,56,57,65,66,67,68,69,70]⟩:ByteArray)[i]'hi).toNat:Nat):Int)=dt i:=tU i hi
    have hlt:((⟨#[48,49,50,51,52,53,54,55,56,57,65,66,67,68,69,70]⟩:ByteArray)[i]'hi).toNat<128:=by have:=rq (show i<16 from hi);omega
    have hnx:=fun ty=>run_next_ascii (P:=Tryz.prog) w ⟨#[48,49,50,51,52,53,54,55,56,57,65,66,67,68,69,70]⟩ i ty hi hlt
    rw[hfa]at hnx
    clear hlt hfa
    cases hin:(dt i==(b-32) % 256)
    · have HI:Aside ((dt i==(b-32) % 256)=false):=hin
      go_wp2
      go_roundg g
      case measure=>omega
      case rel=>exact⟨i+1,by omega,rfl,fun j hj=>by
       by_cases e:j=i
       subst e;rw[HF.out];exact beq_eq_false_iff_ne.1 HI.out
       exact HN.out j (by omega)⟩
    have HI:Aside ((dt i==(b-32) % 256)=true):=hin
    go_wp2
    go_ret2
    exact⟨by rw[uw (by have:i<16:=hi;exact this) (by rw[HF.out];exact beq_iff_eq.1 HI.out)];simp,_,rfl⟩
open Go.Abs in
theorem Hc(b:UInt8):PC Tryz.prog 145 [uN b.toNat] (fun r=>r=.tup [iV (max (bR b) 0),bV (decide (0<=bR b))]):=by
 refine⟨dv Tryz.func145 (by kernel_rfl) (by kernel_rfl),fun w Pb cargs hP hargs=>?_⟩
 obtain⟨r,rfl,h1⟩:=fJ hargs
 obtain rfl:=jY h1
 have hb:=b.toNat_lt
 have h:Calls Tryz.prog 145 #[.int .u8 b.toNat] w fun e w'=>e=.returned (.tuple #[.int .i64 (max (jC b.toNat) 0),.bool (decide (0<=jC b.toNat))])/\∃ pos,w'=w.iter ⟨#[48,49,50,51,52,53,54,55,56,57,65,66,67,68,69,70]⟩ pos:=by
  cases h1:decide ((97:Int)<=b.toNat)
  exact Hu _ (by omega) (by omega) h1 w
  cases h2:decide ((b.toNat:Int)<=102)
  exact Ij _ (by omega) (by omega) h1 h2 w
  exact Eo _ (by omega) (by omega) h1 h2 w
 rw[CY]at h
 refine h.mono ?_
 rintro e w' ⟨rfl,pos,rfl⟩
 exact⟨_,_,[],Pb,rfl,rfl,qn rfl rfl,List.nodup_nil,by simp,fun _ h=>h,fun _ h=>.inl h,⟨rfl,rfl,rfl,by simp[World.iter],fun k hk=>Go.Abs.alloc_old w _ k hk⟩⟩
open Go.Abs in
theorem Iy(b:UInt8):PF Tryz.prog 145 [uN b.toNat] [] (fun r h=>r=.tup [iV (max (bR b) 0),bV (decide (0<=bR b))]/\h=[]):=gi rfl rfl (Hc b)
end Go.Proofs.YtlclejemchbjiaaGreatDoor
namespace Go.Proofs.YtlclejemchbjiaaGreatDoor
open Go Go.Abs Go.RowKit
def Vt:ZT Tryz.prog:=⟨3,iN 0,dh (cs:=[.int .i64 0]) (by kernel_rfl) (by kernel_rfl)⟩
def Vs:ZT Tryz.prog:=⟨4,bV false,dh (cs:=[.bool false]) (by kernel_rfl) (by kernel_rfl)⟩
def Kf:ZT Tryz.prog:=⟨24,.sl true [],dh (cs:=[.slice none 0 0]) (by kernel_rfl) (by kernel_rfl)⟩
def eN:ZT Tryz.prog:=⟨30,.agg [sV [],iN 0,.sl true [],.sl true [],.sl true []],dh (cs:=[.string ⟨#[]⟩,.int .i64 0,.slice none 0 0,.slice none 0 0,.slice none 0 0]) (by kernel_rfl) (by kernel_rfl)⟩
def cy:ZT Tryz.prog:=⟨35,.agg [sV [],.sl true [],bV false,sV []],dh (cs:=[.string ⟨#[]⟩,.slice none 0 0,.bool false,.string ⟨#[]⟩]) (by kernel_rfl) (by kernel_rfl)⟩
def Dh:ZT Tryz.prog:=⟨39,.agg [iN 0,sV [],iN 0],dh (cs:=[.int .i64 0,.string ⟨#[]⟩,.int .i64 0]) (by kernel_rfl) (by kernel_rfl)⟩
def iC:ZT Tryz.prog:=⟨50,.agg [.sl true [],.sl true [],iN 0],dh (cs:=[.slice none 0 0,.slice none 0 0,.int .i64 0]) (by kernel_rfl) (by kernel_rfl)⟩
def Es:ZT Tryz.prog:=⟨53,.agg [sV [],iN 0,bV false,.agg [.sl true [],.sl true [],iN 0],iN 0,.sl true []],dh (cs:=[.string ⟨#[]⟩,.int .i64 0,.bool false,.slice none 0 0,.slice none 0 0,.int .i64 0,.int .i64 0,.slice none 0 0]) (by kernel_rfl) (by kernel_rfl)⟩
def JI:ZT Tryz.prog:=⟨72,.agg [.sl true [],iN 0],dh (cs:=[.slice none 0 0,.int .i64 0]) (by kernel_rfl) (by kernel_rfl)⟩
def lZ:ZT Tryz.prog:=⟨74,.agg [sV [],sV [],sV [],iN 0],dh (cs:=[.string ⟨#[]⟩,.string ⟨#[]⟩,.string ⟨#[]⟩,.int .i64 0]) (by kernel_rfl) (by kernel_rfl)⟩
def JU:ZT Tryz.prog:=⟨86,.agg [.lit (.map none),.lit (.pointer none)],dh (cs:=[.map none,.pointer none]) (by kernel_rfl) (by kernel_rfl)⟩
def nS:ZT Tryz.prog:=⟨109,.agg [sV [],iN 0],dh (cs:=[.string ⟨#[]⟩,.int .i64 0]) (by kernel_rfl) (by kernel_rfl)⟩
def sW:ZT Tryz.prog:=⟨137,.agg [bV false,sV []],dh (cs:=[.bool false,.string ⟨#[]⟩]) (by kernel_rfl) (by kernel_rfl)⟩
def Jo:ZT Tryz.prog:=⟨154,.agg [.lit .nilFunc,.lit .nilFunc],dh (cs:=[.nilFunc,.nilFunc]) (by kernel_rfl) (by kernel_rfl)⟩
def Jv:ZT Tryz.prog:=⟨209,.agg [.sl true [],bV false],dh (cs:=[.slice none 0 0,.bool false]) (by kernel_rfl) (by kernel_rfl)⟩
def kU:ZT Tryz.prog:=⟨219,.agg [sV []],dh (cs:=[.string ⟨#[]⟩]) (by kernel_rfl) (by kernel_rfl)⟩
def AE:ZT Tryz.prog:=⟨221,.agg [.agg [bV false,sV []]],dh (cs:=[.bool false,.string ⟨#[]⟩]) (by kernel_rfl) (by kernel_rfl)⟩
def EP:ZT Tryz.prog:=⟨223,.agg [iN 0],dh (cs:=[.int .i64 0]) (by kernel_rfl) (by kernel_rfl)⟩
def Js:ZT Tryz.prog:=⟨233,.agg [.lit .nilFunc,.lit .nilFunc,.lit .nilFunc],dh (cs:=[.nilFunc,.nilFunc,.nilFunc]) (by kernel_rfl) (by kernel_rfl)⟩
end Go.Proofs.YtlclejemchbjiaaGreatDoor
