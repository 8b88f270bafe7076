/-
  Words and walks for the laws of pedlar's seat: what each function of the program computes, and that it does; no conditions beyond those that each statement names.
-/
import Derived.Test.YtelggdgnblpjdaaGreatDoorGA
import Derived.Scope
import Derived.Laws.MakeOwn
import Derived.MapKept
import Derived.Test.YtelggdgnblpjdaaGreatDoorProg
import Derived.Shelf.Strings.OnBuilder
import Derived.Shelf.Strings.Search2
import Derived.Shelf.Strings.Search3
import Derived.Shelf.Strings.Count
import Derived.Shelf.Strings.SplitCore
import Derived.Shelf.Strings.IndexAnyAll
import Derived.Shelf.Slices.Turned
import Derived.Shelf.Slices.Clone
import Derived.Lib.Join
import Derived.Lib.IndexAny
import Derived.Lib.SplitLaws
import Derived.WalkKit
import Derived.Laws.RangeString
import Derived.Deep.LoopGhost
set_option linter.unusedVariables false
set_option linter.unusedSimpArgs false
set_option linter.unnecessarySimpa false
set_option linter.unusedSectionVars false
namespace Go.Proofs.YtelggdgnblpjdaaGreatDoor
open Go Go.RowKit
set_option maxRecDepth 20000
mutual
def V.Qf(ρ:m0->m0):V->V
 | .hd r p sz g o lo n c=>.hd (ρ r) p sz g o lo n c
 | .ptr r p g o=>.ptr (ρ r) p g o
 | .agg vs=>.agg (V.xV ρ vs)
 | .tup vs=>.tup (V.xV ρ vs)
 | v=>v
def V.xV(ρ:m0->m0):List V->List V
 | []=>[]
 | v::vs=>v.Qf ρ::V.xV ρ vs
end
def Xf:V->V
 | .tup _=>.b9
 | .gv _ _=>.b9
 | v=>v
def AS.tk(A:AS):List Operand->List V×AS
 | []=>([],A)
 | x::xs=>match (A.drop x).tk xs with
   | (vs,B)=>(Xf (A.ev x)::vs,B)
section
variable {w w':World} {Pb Kb Pb':Nat->Prop} {N:Nat} {A A' B:AS} {a:Act} {F:m0->List Nat} {P:Program} {ops:Array Oper}
mutual
theorem Jh(ρ:m0->m0):∀ (v:V) {cs F},R w Pb v cs F->R w Pb (v.Qf ρ) cs F
 | .agg vs,_,_,h=>by simp only[R,V.Qf]at h ⊢;exact wg ρ vs h
 | .tup _,_,_,h=>by simp[R]at h
 | .hd ..,_,_,h=>h
 | .ptr ..,_,_,h=>h
 | .gv _ _,_,_,h=>h
 | .lit _,_,_,h=>h
 | .sl ..,_,_,h=>h
 | .own ..,_,_,h=>h
 | .ow ..,_,_,h=>h
 | .om ..,_,_,h=>h
 | .mp _,_,_,h=>h
 | .ep _,_,_,h=>h
 | .b9,_,_,h=>h
theorem wg(ρ:m0->m0):∀ (vs:List V) {cs F},RL w Pb vs cs F->RL w Pb (V.xV ρ vs) cs F
 | [],_,_,h=>h
 | v::vs,_,_,h=>by
   obtain⟨c1,c2,F1,F2,rfl,rfl,h1,h2⟩:=h
   exact⟨c1,c2,F1,F2,rfl,rfl,Jh ρ v h1,wg ρ vs h2⟩
end
theorem Ko(ρ:m0->m0){v:V}{x:Value}{F1:List Nat}(h:Qw w Pb v x F1):Qw w Pb (v.Qf ρ) x F1:=by
 cases v with
 | agg us=>obtain⟨cs,rfl,h⟩:=h;exact⟨cs,rfl,wg ρ us h⟩
 | tup vs=>simp[Qw,R]at h
 | _=>exact h
theorem CS(ρ:m0->m0):∀ (vs:List V) {xs F1},RVs w Pb vs xs F1->RVs w Pb (V.xV ρ vs) xs F1
 | [],_,_,h=>h
 | v::vs,xs,F1,h=>by
   obtain⟨x,xs',Fa,Fb,rfl,rfl,h1,h2⟩:=(wR (v::vs)).1 h
   exact(wR (v.Qf ρ::V.xV ρ vs)).2 ⟨x,xs',Fa,Fb,rfl,rfl,Ko ρ h1,CS ρ vs h2⟩
theorem LB(ρ:m0->m0){v:V}{x:Value}{F1:List Nat}(h:RV w Pb v x F1):RV w Pb (v.Qf ρ) x F1:=by
 cases v with
 | agg us=>obtain⟨cs,rfl,h⟩:=h;exact⟨cs,rfl,wg ρ us h⟩
 | tup us=>obtain⟨cs,rfl,h⟩:=h;exact⟨cs,rfl,CS ρ us h⟩
 | _=>exact h
def Tm(w:World)(Pb:Nat->Prop):List V->List Value->List (List Nat)->Prop
 | [],[],[]=>True
 | v::vs,x::xs,F::Fs=>RV w Pb v x F/\Tm w Pb vs xs Fs
 | _,_,_=>False
theorem qZ:∀ {vs us:List V} {xs ys:List Value} {Fs Gs:List (List Nat)},Tm w Pb vs xs Fs->Tm w Pb us ys Gs->Tm w Pb (vs++us) (xs++ys) (Fs++Gs)
 | [],_,[],_,[],_,_,h=>h
 | _::_,_,_::_,_,_::_,_,h,k=>⟨h.1,qZ h.2 k⟩
 | [],_,_::_,_,_,_,h,_=>h.elim
 | [],_,[],_,_::_,_,h,_=>h.elim
 | _::_,_,[],_,_,_,h,_=>h.elim
 | _::_,_,_::_,_,[],_,h,_=>h.elim
theorem CO:∀ {vs:List V} {xs:List Value} {Fs:List (List Nat)},Tm w Pb vs xs Fs->xs.length=vs.length/\Fs.length=vs.length
 | [],[],[],_=>⟨rfl,rfl⟩
 | _::_,_::_,_::_,h=>by have:=CO h.2;simp[this.1,this.2]
 | [],_::_,_,h=>h.elim
 | [],[],_::_,h=>h.elim
 | _::_,[],_,h=>h.elim
 | _::_,_::_,[],h=>h.elim
theorem Cg:∀ {vs:List V} {xs:List Value} {Fs:List (List Nat)} {i:Nat} {v:V} {x:Value},Tm w Pb vs xs Fs->vs[i]? =some v->xs[i]? =some x->RV w Pb v x (Fs.getD i [])
 | v::vs,x::xs,F::Fs,0,_,_,h,h1,h2=>by simp at h1 h2;subst h1 h2;exact h.1
 | v::vs,x::xs,F::Fs,i+1,_,_,h,h1,h2=>by simpa using Cg (i:=i) h.2 (by simpa using h1) (by simpa using h2)
 | [],_,_,_,_,_,_,h1,_=>by simp at h1
 | _::_,[],_,_,_,_,h,_,_=>h.elim
 | _::_,_::_,[],_,_,_,h,_,_=>h.elim
theorem Fg:∀ {vs us:List V} {xs:List Value} {Fs:List (List Nat)},Tm w Pb vs xs Fs->Tm w Pb (O7 vs us) xs Fs
 | [],us,[],[],_=>by simp only[O7];trivial
 | v::vs,[],_,_,h=>by simpa only[O7] using h
 | v::vs,u::us,x::xs,F::Fs,h=>⟨zJ u h.1,Fg h.2⟩
 | [],_,_::_,_,h=>h.elim
 | [],_,[],_::_,h=>h.elim
 | _::_,_::_,[],_,h=>h.elim
 | _::_,_::_,_::_,[],h=>h.elim
theorem rU:∀ (l:List Value),Tm w Pb (l.map cV) l (l.map fun _=>[])
 | []=>trivial
 | x::l=>⟨uh x,rU l⟩
theorem MB{v:V}{x:Value}{Fx:List Nat}(h:RV w Pb v x Fx):∃ Fy,RV w Pb (Xf v) x Fy/\(Fy=Fx\/Fy=[]):=by
 cases v with
 | tup _=>exact⟨[],rfl,.inr rfl⟩
 | gv _ _=>exact⟨[],rfl,.inr rfl⟩
 | _=>exact⟨Fx,h,.inl rfl⟩
theorem s9.tk:∀ (xs:List Operand) {A:AS} {F:m0->List Nat},s9 N Pb Kb A a w F->∃ Fl F',Tm w Pb (A.tk xs).1 (xs.map a.eval) Fl/\s9 N Pb Kb (A.tk xs).2 a w F'/\
 (∀ i,(Fl.getD i []).Nodup)/\(∀ i j,i≠j->∀ g,g∈Fl.getD i []->g ∉ Fl.getD j [])/\(∀ i r g,g∈Fl.getD i []->g ∉ F' r)/\(∀ i g,g∈Fl.getD i []->¬ Kb g/\g<w.heap.size)/\
 (∀ r g,g∈F' r->g∈F r)/\(∀ i g,g∈Fl.getD i []->∃ r,g∈F r)
 | [],A,F,hs=>⟨[],F,trivial,hs,Zab,Zab,Zab,Zab,fun _ _ h=>h,Zab⟩
 | x::xs,A,F,hs=>by
   obtain⟨Fx,F1,h1,h2,h3,h4,h5,h6,h7⟩:=hs.take x
   obtain⟨Fl,F2,k1,k2,k3,k4,k5,k6,k7,k8⟩:=s9.tk xs h2
   obtain⟨Fy,TH,Wx⟩:=MB h1
   have Yc:∀ g,g∈Fy->g∈Fx:=fun g hg=>by rcases Wx with rfl | rfl <;> simp_all
   have hyn:Fy.Nodup:=by rcases Wx with rfl | rfl <;> simp_all
   have hx:∀ i g,g∈Fy->g ∉ Fl.getD i []:=fun i g hg c=>by
    obtain⟨r,hr⟩:=k8 i g c
    exact h4 r g (Yc g hg) hr
   refine⟨Fy::Fl,F2,⟨TH,k1⟩,k2,fun i=>?_,fun i j hne g hg=>?_,fun i r g hg=>?_,fun i g hg=>?_,fun r g hg=>h6 r g (k7 r g hg),fun i g hg=>?_⟩
   cases i with
   | zero=>exact hyn
   | succ i=>simpa using k3 i
   cases i with
   | zero=>
     cases j with
     | zero=>exact absurd rfl hne
     | succ j=>simpa using hx j g (by simpa using hg)
   | succ i=>
     cases j with
     | zero=>exact fun c=>hx i g (by simpa using c) (by simpa using hg)
     | succ j=>simpa using k4 i j Zaa g (by simpa using hg)
   cases i with
   | zero=>exact fun c=>h4 r g (Yc g (by simpa using hg)) (k7 r g c)
   | succ i=>exact k5 i r g (by simpa using hg)
   cases i with
   | zero=>exact h5 g (Yc g (by simpa using hg))
   | succ i=>exact k6 i g (by simpa using hg)
   cases i with
   | zero=>exact h7 g (Yc g (by simpa using hg))
   | succ i=>
     obtain⟨r,hr⟩:=k8 i g (by simpa using hg)
     exact⟨r,h6 r g hr⟩
def Qd(ks:List (Nat×Nat)):List (Nat×Nat):=ks.map fun p=>(p.2,p.1)
def mw(ks:List (Nat×Nat)):m0->m0
 | .key k=>match lk k ks with | some q=>.key q | none=>.key k
 | r=>r
def news(ρ:m0->m0)(H:List (Nat×(Nat×V))):List (Nat×Nat)->List (Nat×(Nat×V))
 | []=>[]
 | (k,q)::r=>match lk k H with
   | some (g,v)=>(q,(g,v.Qf ρ))::news ρ H r
   | none=>news ρ H r
def xQ(ks:List (Nat×Nat))(h:List (Nat×(Nat×V))):List (Nat×(Nat×V)):=h.filter fun p=>(lk p.1 (Qd ks)).isNone
theorem jJ(ks:List (Nat×Nat)):∀ (h:List (Nat×(Nat×V))) (q:Nat),lk q (xQ ks h)=if (lk q (Qd ks)).isNone then lk q h else none
 | [],q=>by simp[xQ,lk]
 | (k,v)::h,q=>by
   have ih:=jJ ks h q
   simp only[xQ,List.filter_cons]at ih ⊢
   by_cases hk:(lk k (Qd ks)).isNone=true
   rw[if_pos hk]
   simp only[lk]
   by_cases e:q=k
   subst e;rw[if_pos rfl,if_pos rfl,if_pos hk]
   rw[if_neg e,if_neg e];exact ih
   rw[if_neg hk,ih]
   simp only[lk]
   by_cases e:q=k
   subst e;rw[if_neg hk,if_neg hk]
   rw[if_neg e]
theorem oz{α:Type}:∀ {l:List (Nat×α)} {q:Nat},q ∉ l.map (·.1)->lk q l=none
 | [],_,_=>rfl
 | (k,v)::l,q,h=>by
   simp only[Zbc,List.mem_cons,not_or]at h
   simp only[lk];rw[if_neg h.1];exact oz h.2
theorem qF{ρ:m0->m0}{H:List (Nat×(Nat×V))}:∀ {ks:List (Nat×Nat)} {q:Nat},OU (ks.map (·.2))=true->
 lk q (news ρ H ks)=(lk q (Qd ks)).bind fun k=>(lk k H).map fun gv=>(gv.1,gv.2.Qf ρ)
 | [],q,_=>rfl
 | (k,q0)::ks,q,h=>by
   simp only[Zbc,OU,Zam,Bool.not_eq_true',Zbg,decide_eq_false_iff_not]at h
   have ih:=qF (ρ:=ρ) (H:=H) (ks:=ks) (q:=q) h.2
   simp only[news,Qd,Zbc,lk]
   by_cases e:q=q0
   subst e
   rw[if_pos rfl]
   simp only[Option.bind_some]
   cases hk:lk k H with
   | some gv=>simp only[lk,if_true,Option.map_some]
   | none=>
     simp only[Option.map_none]
     rw[ih,oz];rfl
     simp only[Qd,List.map_map,Function.comp_def];exact h.1
   rw[if_neg e]
   cases hk:lk k H with
   | some gv=>simp only[lk];rw[if_neg e];exact ih
   | none=>exact ih
def AS.back(A:AS)(ks:List (Nat×Nat))(H:List (Nat×(Nat×V))):AS:=⟨A.t,news (mw ks) H ks++xQ ks A.h⟩
theorem mW{α:Type}(t:Nat)(l1 l2:List (Nat×α)):lk t (l1++l2)=match lk t l1 with | some v=>some v | none=>lk t l2:=EN t l1 l2
def ni(B:AS)(ks:List (Nat×Nat)):List (Nat×(Nat×V))->Prop
 | []=>True
 | (k,(g,v))::r=>(match lk k ks with | some q=>(match lk q B.h with | some (g',v')=>(g',wk v' v)=(g,v) | none=>False) | none=>False)/\ni B ks r
theorem xb{B:AS}{ks:List (Nat×Nat)}:∀ {H:List (Nat×(Nat×V))} {k g:Nat} {v:V},ni B ks H->lk k H=some (g,v)->∃ q v',lk k ks=some q/\lk q B.h=some (g,v')/\wk v' v=v
 | [],_,_,_,_,h=>by simp[lk]at h
 | (k0,(g0,v0))::H,k,g,v,h,e=>by
   simp only[lk]at e
   split at e
   rename_i e';subst e';cases e
   have h1:=h.1
   split at h1
   rename_i q hq
   split at h1
   rename_i g' v' Zb
   simp only[Zao]at h1
   exact⟨q,v',hq,by rw[Zb,h1.1],h1.2⟩
   exact h1.elim
   exact h1.elim
   exact xb h.2 e
theorem wJ{α:Type}:∀ {l:List (Nat×α)} {k:Nat} {v:α},lk k l=some v->(k,v)∈l
 | [],_,_,h=>by simp[lk]at h
 | (k0,v0)::l,k,v,h=>by
   simp only[lk]at h
   split at h
   rename_i e;subst e;cases h;simp
   exact List.mem_cons_of_mem _ (wJ h)
theorem pT{α:Type}:∀ {l:List (Nat×α)} {k:Nat} {v:α},OU (l.map (·.1))=true->(k,v)∈l->lk k l=some v
 | (k0,v0)::l,k,v,h,hm=>by
   simp only[Zbc,OU,Zam,Bool.not_eq_true',Zbg,decide_eq_false_iff_not]at h
   simp only[lk]
   rcases List.mem_cons.1 hm with e | hm
   cases e;rw[if_pos rfl]
   have hne:k≠k0:=fun c=>h.1 (by rw[<- c];exact List.mem_map.2 ⟨_,hm,rfl⟩)
   rw[if_neg hne];exact pT h.2 hm
theorem qM{ks:List (Nat×Nat)}{k q:Nat}(h1:OU (ks.map (·.1))=true)(h2:OU (ks.map (·.2))=true):lk k ks=some q↔lk q (Qd ks)=some k:=by
 have e:(Qd ks).map (·.1)=ks.map (·.2):=by simp[Qd,List.map_map,Function.comp_def]
 constructor
 intro h
 refine pT (by rw[e];exact h2) ?_
 exact List.mem_map.2 ⟨(k,q),wJ h,rfl⟩
 intro h
 have hm:=wJ h
 simp only[Qd,List.mem_map,Zao]at hm
 obtain⟨⟨x,y⟩,hm,e1,e2⟩:=hm
 simp only at e1 e2
 subst e1 e2
 exact pT h1 hm
open Classical in
theorem pU{o:Oper} {K:AS->Prop} {f:FuncId} {fx:Operand} {xs:Array Operand} {N2:Array TypeId} {first A3:Array Value} {args:List V} {H:List (Nat×(Nat×V))}
 {Q:V->List (Nat×(Nat×V))->Prop} (ks:List (Nat×Nat)) (ho:o.op=.call { callee:=.value fx,args:=xs,argTypes:=N2 }) (Zu:A.ev fx=.lit (.func (.func f) first A3))
 (hd:cZ N o.dst) (RM:OU (ks.map (·.1))=true) (L5:OU (ks.map (·.2))=true) (hc:PF P f args H Q)
 (hargs:O7 (first.toList.map cV++(A.tk xs.toList).1++A3.toList.map cV) args=args) (hlen:args.length=(first.toList.map cV++(A.tk xs.toList).1++A3.toList.map cV).length)
 (Rr:ni (A.tk xs.toList).2 ks H)
 (hK:∀ r H',Q r H'->K (((A.tk xs.toList).2.back ks H').put o.dst (r.Qf (mw ks)))):F9 P N o A K:=by
 intro Pb Kb a w F Q' hs
 have hfv:=cF hs Zu
 unfold Oper.wp
 have B6:(execOp a.eval o).run P w=.ok (.enter f (first++xs.map a.eval++A3)) w:=by
  simp only[execOp,ho,resolve,hfv,Deferred.ofValue,Zay,Zaz,Zaq,invoke]
  exact hc.1 _ w
 rw[B6,Oper.upon_enter]
 obtain⟨Fl,F2,k1,k2,k3,k4,k5,k6,k7,k8⟩:=hs.tk xs.toList
 let B:=(A.tk xs.toList).2
 have hle:(⟨B.t,xQ ks B.h⟩:AS).le B:=⟨fun _=>.inr rfl,fun q=>by
  simp only[jJ];split
  exact .inr rfl
  exact .inl rfl⟩
 let F3:m0->List Nat:=fun r=>match r with
  | .slot i=>F2 (.slot i)
  | .key q=>if (lk q (Qd ks)).isNone then F2 (.key q) else []
 have T8:∀ r g,g∈F3 r->g∈F2 r:=fun r g hg=>by
  cases r with
  | slot i=>exact hg
  | key q=>simp only[F3]at hg;split at hg
           exact hg
           simp at hg
 have Ot:s9 N Pb Kb ⟨B.t,xQ ks B.h⟩ a w F3:=by
  refine⟨k2.size,k2.defers,k2.slot,fun q g v hq=>?_,fun r r' hne g hg c=>k2.cL r r' hne g (T8 r g hg) (T8 r' g c),fun r=>?_,fun r g hg=>k2.free r g (T8 r g hg),k2.sub,k2.bound⟩
  simp only[jJ]at hq
  split at hq
  rename_i hn
  obtain⟨F',e,hA⟩:=k2.root q g v hq
  exact⟨F',by simp only[F3];rw[if_pos hn];exact e,hA⟩
  simp at hq
  cases r with
  | slot i=>exact k2.nodup _
  | key q=>simp only[F3];split
           exact k2.nodup _
           exact Za8
 let Kc:Nat->Prop:=fun g=>Kb g\/∃ r,g∈F3 r
 let FL:=first.toList.map (fun _=>([]:List Nat))++Fl++A3.toList.map (fun _=>([]:List Nat))
 have hFl:Tm w Pb (first.toList.map cV++(A.tk xs.toList).1++A3.toList.map cV) (first.toList++xs.toList.map a.eval++A3.toList) FL:=
  qZ (qZ (rU _) k1) (rU _)
 have XW:∀ i g,g∈FL.getD i []->∃ j,FL.getD i []=Fl.getD j []/\i=first.toList.length+j:=by
  intro i g hg
  simp only[FL,Zak,List.append_assoc]at hg ⊢
  by_cases h1:i<first.toList.length
  rw[Za7 (by simpa using h1),List.getElem?_map]at hg
  cases he:first.toList[i]? <;> rw[he]at hg <;> simp at hg
  have hij:i=first.toList.length+(i-first.toList.length):=Zaa
  rw[Za2 (by simpa using h1)]at hg ⊢
  simp only[Zaw]at hg ⊢
  by_cases h2:i-first.toList.length<Fl.length
  rw[Za7 h2]
  exact⟨_,rfl,hij⟩
  rw[Za2 Zaa,List.getElem?_map]at hg
  cases he:A3.toList[i-first.toList.length-Fl.length]? <;> rw[he]at hg <;> simp at hg
 let FC:m0->List Nat:=fun r=>match r with
  | .slot i=>FL.getD i []
  | .key k=>match lk k ks with
    | some q=>if lk k H=none then [] else F2 (.key q)
    | none=>[]
 have ZI:∀ r g,g∈FC r->(∃ i j,r=.slot i/\g∈Fl.getD j []/\i=first.toList.length+j)\/(∃ k q,r=.key k/\lk k ks=some q/\g∈F2 (.key q)):=by
  intro r g hg
  cases r with
  | slot i=>
    obtain⟨j,e,hj⟩:=XW i g hg
    exact .inl ⟨i,j,rfl,by rw[<- e];exact hg,hj⟩
  | key k=>
    simp only[FC]at hg
    split at hg
    rename_i q hq
    split at hg
    simp at hg
    exact .inr ⟨k,q,rfl,hq,hg⟩
    simp at hg
 have ZJ:∀ k q,lk k ks=some q->∀ r g,g∈F2 (.key q)->g ∉ F3 r:=by
  intro k q hq r g hg c
  cases r with
  | slot i=>exact k2.cL (.key q) (.slot i) Zab g hg c
  | key q'=>
    simp only[F3]at c
    split at c
    rename_i hn
    have hne:(m0.key q)≠.key q':=fun e=>by
     cases e
     rw[(qM RM L5).1 hq]at hn;simp at hn
    exact k2.cL _ _ hne g hg c
    simp at c
 have T7:∀ r g,g∈FC r->¬ Kc g/\g<w.heap.size:=by
  intro r g hg
  rcases ZI r g hg with ⟨i,j,_,h,_⟩ | ⟨k,q,_,hq,h⟩
  refine⟨fun c=>?_,(k6 j g h).2⟩
  rcases c with c | ⟨r',c⟩
  exact(k6 j g h).1 c
  exact k5 j r' g h (T8 r' g c)
  refine⟨fun c=>?_,(k2.free _ g h).2⟩
  rcases c with c | ⟨r',c⟩
  exact(k2.free _ g h).1 c
  exact ZJ k q hq r' g h c
 have hi:YE w Pb Kc args (first.toList++xs.toList.map a.eval++A3.toList) H FC:=by
  have hl:=CO hFl
  have hFw:=Fg (us:=args) hFl
  rw[hargs]at hFw
  refine⟨by rw[hl.1,hlen],fun i v x hv hx=>Cg hFw hv hx,fun k g v XM=>?_,fun i XP=>?_,fun r r' hne g hg c=>?_,fun r=>?_,T7,fun g hg=>.inl (k2.sub g hg),fun g hg=>?_⟩
  obtain⟨q,v',h1,h2,h3⟩:=xb Rr XM
  obtain⟨F',e,hA⟩:=k2.root q g v' h2
  refine⟨F',?_,by have:=Dy v hA;rw[h3]at this;exact this⟩
  simp only[FC,h1];rw[if_neg (by rw[XM];simp)];exact e
  simp only[FC]
  rw[Zak,List.getElem?_eq_none (by rw[hl.2,<- hlen];exact XP)];rfl
  rcases ZI r g hg with ⟨i,j,e1,h,e1'⟩ | ⟨k,q,e1,hq,h⟩ <;> rcases ZI r' g c with ⟨i',j',e2,h',WW⟩ | ⟨k',q',e2,Zb,h'⟩
  refine k4 j j' (fun e=>hne ?_) g h h'
  rw[e1,e2,e1',WW,e]
  exact k5 j (.key q') g h h'
  exact k5 j' (.key q) g h' h
  have Za:q=q':=Classical.byContradiction fun Za=>k2.cL (.key q) (.key q') (fun e=>Za (by cases e;rfl)) g h h'
  subst Za
  have:=(qM RM L5).1 hq
  rw[(qM RM L5).1 Zb]at this
  cases this
  exact hne (by rw[e1,e2])
  cases r with
  | slot i=>
    by_cases he:FL.getD i []=[]
    simp only[FC];rw[he];exact Za8
    obtain⟨g,hg⟩:=List.exists_mem_of_ne_nil _ he
    obtain⟨j,e,_⟩:=XW i g hg
    simp only[FC];rw[e];exact k3 j
  | key k=>
    simp only[FC]
    split
    split
    exact Za8
    exact k2.nodup _
    exact Za8
  rcases hg with h | ⟨r,h⟩
  exact k2.bound g h
  exact(Ot.free r g h).2
 have L6:=hc.2 w Pb Kc _ FC hi
 have e:(first.toList++xs.toList.map a.eval++A3.toList).toArray=first++xs.map a.eval++A3:=by
  apply Array.ext';simp
 rw[e]at L6
 refine L6.mono ?_
 rintro e w' ⟨r,x,H',Pb',E2,F',rfl,hq,hf⟩
 have RJ:A4 Kb w w':=⟨hf.fF.os,hf.fF.tape,hf.fF.output,hf.fF.size,fun g hg=>hf.fF.block g (.inl hg),hf.fF.shape⟩
 let K2:Nat->Prop:=fun g=>Kb g\/(E2 g/\¬ ∃ r,g∈F3 r)
 have hP3:∀ r g,g∈F3 r->¬ Pb' g:=fun r g hg c=>by
  rcases hf.SG g c with h | h
  exact(Ot.free r g hg).1 (Ot.sub g h)
  exact h (.inr ⟨r,hg⟩)
 have Xw:∀ g,Pb' g->K2 g:=fun g hg=>by
  rcases hf.SG g hg with h | h
  exact .inl (Ot.sub g h)
  exact .inr ⟨hf.sub g hg,fun⟨r,c⟩=>h (.inr ⟨r,c⟩)⟩
 have PT:∀ r g,g∈F' r->(¬ K2 g/\g<w'.heap.size)/\∀ r',g ∉ F3 r':=fun r g hg=>by
  have h:=hf.free r g hg
  refine⟨⟨fun c=>?_,h.2⟩,fun r' c=>h.1 (hf.mK g (.inr ⟨r',c⟩))⟩
  rcases c with c | c
  exact h.1 (hf.mK g (.inl c))
  exact h.1 c.1
 let F4:m0->List Nat:=fun r=>match r with
  | .slot i=>F3 (.slot i)
  | .key q=>match lk q (Qd ks) with
    | some k=>if lk k H'=none then [] else F' (.key k)
    | none=>F3 (.key q)
 have Yv:∀ r g,g∈F4 r->g∈F3 r\/∃ q k,r=.key q/\lk q (Qd ks)=some k/\g∈F' (.key k):=fun r g hg=>by
  cases r with
  | slot i=>exact .inl hg
  | key q=>
    simp only[F4]at hg
    split at hg
    rename_i k hk
    split at hg
    simp at hg
    exact .inr ⟨q,k,rfl,hk,hg⟩
    exact .inl hg
 have hs4:s9 N Pb' K2 (B.back ks H') a w' F4:=by
  refine⟨Ot.size,Ot.defers,fun i=>?_,fun q g v hq=>?_,fun r r' hne g hg c=>?_,fun r=>?_,fun r g hg=>?_,Xw,fun g hg=>?_⟩
  exact oO _ (Ot.slot i) (fun g hg=>hf.fF.block g (.inl (Ot.sub g hg))) (fun g hg=>hf.fF.block g (.inr ⟨.slot i,hg⟩)) hf.mP (fun g hg=>hP3 (.slot i) g hg)
  simp only[AS.back,mW,qF L5]at hq
  cases Xv:lk q (Qd ks) with
  | some k=>
    rw[Xv]at hq
    simp only[Option.bind_some]at hq
    cases Yj:lk k H' with
    | some gv=>
      rw[Yj]at hq
      simp only[Option.map_some,Zal,Zao]at hq
      obtain⟨g0,v0⟩:=gv
      obtain⟨rfl,rfl⟩:=hq
      obtain⟨F1,e1,cs,cells,hb,hr,L7⟩:=hf.root k g0 v0 Yj
      exact⟨F1,by simp only[F4,Xv];rw[if_neg (by rw[Yj];simp)];exact e1,cs,cells,hb,Jh _ _ hr,L7⟩
    | none=>
      rw[Yj]at hq
      simp only[Option.map_none]at hq
      rw[jJ,Xv]at hq
      simp at hq
  | none=>
    rw[Xv]at hq
    simp only[Option.bind_none]at hq
    obtain⟨F1,e1,hA⟩:=Ot.root q g v hq
    refine⟨F1,by simp only[F4,Xv];exact e1,?_⟩
    obtain⟨cs,cells,⟨el,fr,hb,hfr⟩,hr,L7⟩:=hA
    have hin:∀ y,y∈g::F1->w'.heap[y]? =w.heap[y]? :=fun y hy=>hf.fF.block y (.inr ⟨.key q,by rw[e1];exact hy⟩)
    exact⟨cs,cells,⟨el,fr,(hin g Zab).trans hb,hfr⟩,iu _ hr (fun y hy=>hf.fF.block y (.inl (Ot.sub y hy))) (fun y hy=>hin y (by simp[hy])) hf.mP (fun y hy=>hP3 (.key q) y (by rw[e1];simp[hy])),L7⟩
  rcases Yv r g hg with h | ⟨q,k,e1,h1,h2⟩ <;> rcases Yv r' g c with h' | ⟨q',k',e2,Tw,Yw⟩
  exact Ot.cL r r' hne g h h'
  exact(PT _ g Yw).2 r h
  exact(PT _ g h2).2 r' h'
  have UZ:k=k':=Classical.byContradiction fun UZ=>hf.cL (.key k) (.key k') (fun e=>UZ (by cases e;rfl)) g h2 Yw
  subst UZ
  have e3:=(qM RM L5).2 h1
  rw[(qM RM L5).2 Tw]at e3
  cases e3
  exact hne (by rw[e1,e2])
  cases r with
  | slot i=>exact Ot.nodup (.slot i)
  | key q=>
    simp only[F4]
    split
    split
    exact Za8
    exact hf.nodup _
    exact Ot.nodup (.key q)
  rcases Yv r g hg with h | ⟨q,k,_,_,h2⟩
  have h3:=Ot.free r g h
  refine⟨fun c=>?_,Nat.lt_of_lt_of_le h3.2 hf.fF.size⟩
  rcases c with c | c
  exact h3.1 c
  exact c.2 ⟨r,h⟩
  exact(PT _ g h2).1
  rcases hg with h | h
  exact Nat.lt_of_lt_of_le (Ot.bound g h) hf.fF.size
  exact hf.bound g h.1
 have S8:∀ A' a' F5,K A'->s9 N Pb' K2 A' a' w' F5->Nx N Pb Kb w K a' w':=fun A' a' F5 hk VT=>
  ⟨A',Pb',K2,F5,hk,VT,hf.mP,fun g hg=>.inl hg,fun g hg=>by
   rcases hf.SG g hg with h | h
   exact .inl h
   exact .inr fun c=>h (.inl c),RJ⟩
 cases Oj:o.dst with
 | none=>exact S8 _ _ F4 (hK r H' hq) (by rw[Oj];exact hs4)
 | some d=>
   rw[Oj]at hd
   refine S8 _ _ (cM F4 (.slot d) (F' (.slot 0))) (hK r H' hq) ?_
   rw[Oj]
   refine hs4.put hd (LB _ hf.val) (fun rt _ g hg c=>?_) (hf.nodup _) (fun g hg=>(PT _ g hg).1)
   rcases Yv rt g c with h | ⟨q,k,_,_,h2⟩
   exact(PT _ g hg).2 rt h
   exact hf.cL (.slot 0) (.key k) Zab g hg h2
end
section
variable {w w':World} {Pb Kb Pb':Nat->Prop} {N:Nat} {A A' A1 B:AS} {a:Act} {F:m0->List Nat} {P:Program} {ops:Array Oper}
theorem vF:∀ (vs:List V) {cs F} {j:Nat} {x:V},RL w Pb vs cs F->vs[j]? =some x->∃ cj Fj,R w Pb x cj Fj/\(∀ i u,cj[i]? =some u->cs[V.ns (vs.take j)+i]? =some u)/\
 ∀ x',R w Pb x' cj Fj->RL w Pb (vs.set j x') cs F
 | [],_,_,_,_,_,h=>by simp at h
 | v::vs,cs,F,0,x,h,hj=>by
   obtain⟨c1,c2,F1,F2,rfl,rfl,h1,h2⟩:=h
   simp at hj;subst hj
   exact⟨c1,F1,h1,fun i u hu=>by simp only[List.take_zero,V.ns,Zau];rw[Za7 (Za1.1 hu).1];exact hu,fun x' hx=>⟨c1,c2,F1,F2,rfl,rfl,hx,h2⟩⟩
 | v::vs,cs,F,j+1,x,h,hj=>by
   obtain⟨c1,c2,F1,F2,rfl,rfl,h1,h2⟩:=h
   obtain⟨cj,Fj,k1,k2,k3⟩:=vF vs h2 (by simpa using hj)
   refine⟨cj,Fj,k1,fun i u hu=>?_,fun x' hx=>⟨c1,c2,F1,F2,rfl,rfl,h1,k3 x' hx⟩⟩
   have:=k2 i u hu
   simp only[List.take_succ_cons,V.ns]
   rw[<- fk v h1,Zbh,Za2 Zaa]
   rw[show c1.length+(V.ns (vs.take j)+i)-c1.length=V.ns (vs.take j)+i from Zaa];exact this
theorem ur:∀ (p:List Nat) {v u:V} {g o g' o':Nat} {cs:List Value} {F:List Nat},R w Pb v cs F->V.at g o v p=some (g',o',u)->
 ∃ cu Fu,R w Pb u cu Fu/\∀ u',u'.n=u.n->R w Pb u' cu Fu->R w Pb (v.set p u') cs F/\(v.set p u').n=v.n
 | [],v,u,g,o,g',o',cs,F,h,e=>by
   simp only[V.at,Zal,Zao]at e
   obtain⟨rfl,rfl,rfl⟩:=e
   exact⟨cs,F,h,fun u' hn hu=>⟨hu,hn⟩⟩
 | j::p,v,u,g,o,g',o',cs,F,h,e=>by
   simp only[V.at]at e
   split at e
   rename_i vs
   split at e
   rename_i x hx
   simp only[R]at h
   obtain⟨cj,Fj,k1,k2,k3⟩:=vF vs h hx
   obtain⟨cu,Fu,m1,m2⟩:=ur p k1 e
   refine⟨cu,Fu,m1,fun u' hn hu=>?_⟩
   obtain⟨q1,q2⟩:=m2 u' hn hu
   have h3:=k3 _ q1
   refine⟨by simp only[V.set,hx,R];exact h3,?_⟩
   simp only[V.set,hx,V.n]
   rw[<- kq _ h3,<- kq _ h]
   simp at e
   rename_i sz xs g1 o1 c1
   split at e
   rename_i x hx
   rcases h with ⟨_,rfl,_⟩ | ⟨h1,h2,h3,h4,h5,h6,flat,F',cells,h7,hr,hb,hsz,hc⟩
   simp at hx
   obtain⟨cj,Fj,k1,k2,k3⟩:=vF xs hr hx
   obtain⟨cu,Fu,m1,m2⟩:=ur p k1 e
   refine⟨cu,Fu,m1,fun u' hn hu=>?_⟩
   obtain⟨q1,q2⟩:=m2 u' hn hu
   refine⟨?_,by simp only[V.set,hx];rfl⟩
   simp only[V.set,hx]
   refine .inr ⟨h1,h2,by simpa using h3,by simpa using h4,fun y hy=>?_,h6,flat,F',cells,h7,k3 _ q1,hb,hsz,hc⟩
   rcases List.mem_or_eq_of_mem_set hy with h | h
   exact h5 y h
   rw[h,q2];exact h5 x (Za5 hx)
   simp at e
   simp at e
theorem s9.uH(hs:s9 N Pb Kb A a w F){r:m0}{p:List Nat}{g o:Nat}{u:V}(B0:A.at r p=some (g,o,u)):
 ∃ cu Fu,R w Pb u cu Fu/\∀ u',u'.n=u.n->R w Pb u' cu Fu->s9 N Pb Kb (A.setAt r p u') a w F:=by
 cases r with
 | key k=>
   simp only[AS.at]at B0
   split at B0
   rename_i g0 t hk
   obtain⟨F0,hF,cs,cells,hb,hr,hc⟩:=hs.root k g0 t hk
   obtain⟨cu,Fu,h1,h2⟩:=ur p hr B0
   refine⟨cu,Fu,h1,fun u' hn hu=>⟨hs.size,hs.defers,fun i=>?_,fun k' g1 v1 C3=>?_,hs.cL,hs.nodup,hs.free,hs.sub,hs.bound⟩⟩
   have:(A.setAt (.key k) p u').get i=A.get i:=by simp only[AS.setAt,hk];rfl
   rw[this];exact hs.slot i
   simp only[AS.setAt,hk,lk]at C3
   split at C3
   rename_i e;subst e
   simp only[Zal,Zao]at C3
   obtain⟨rfl,rfl⟩:=C3
   exact⟨F0,hF,cs,cells,hb,(h2 u' hn hu).1,hc⟩
   exact hs.root k' g1 v1 C3
   simp at B0
 | slot i=>
   simp only[AS.at]at B0
   split at B0
   rename_i sz xs g0 o0 c0 j p' hg
   have hr:=hs.slot i
   rw[hg]at hr
   have hr:R w Pb (.own sz xs g0 o0 c0) [a.tmps.getD i undef] (F (.slot i)):=hr
   obtain⟨cu,Fu,h1,h2⟩:=ur (j::p') hr B0
   refine⟨cu,Fu,h1,fun u' hn hu=>⟨hs.size,hs.defers,fun t=>?_,hs.root,hs.cL,hs.nodup,hs.free,hs.sub,hs.bound⟩⟩
   by_cases e:t=i
   subst e
   simp only[AS.setAt,AS.get,lk,if_true,Option.getD_some]
   have h3:=(h2 u' hn hu).1
   have e2:(A.get t).set (j::p') u'=(V.own sz xs g0 o0 c0).set (j::p') u':=by rw[hg]
   have e3:∃ ys,(V.own sz xs g0 o0 c0).set (j::p') u'=.own sz ys g0 o0 c0:=by
    simp only[V.set];split
    exact⟨_,rfl⟩
    exact⟨_,rfl⟩
   obtain⟨ys,e3⟩:=e3
   show RV w Pb ((A.get t).set (j::p') u') _ _
   rw[e2,e3];rw[e3]at h3
   exact h3
   simp only[AS.setAt,AS.get,lk];rw[if_neg e];exact hs.slot t
   simp at B0
theorem KK{K:AS->Prop}(t sz:Nat)(ht:t<N)(hg:A.get t=.sl true [])(h:K (A.put (some t) (.own sz [] 0 0 0))):Hx N A K:=
 Hx.simple h fun Pb Kb a w F hs=>by
  have hr:=hs.slot t
  rw[hg]at hr
  obtain⟨hF,B,cc,hv,_,Q3,_⟩:=hr
  have Rj:cc=0:=Q3 rfl
  subst Rj
  exact⟨_,hs.AN ht (.inl ⟨rfl,rfl,hF,B,hv⟩)⟩
theorem AQ{K:AS->Prop}{r:m0}{p:List Nat}{g o sz:Nat}(B0:A.at r p=some (g,o,.sl true []))(h:K (A.setAt r p (.own sz [] 0 0 0))):Hx N A K:=
 Hx.simple h fun Pb Kb a w F hs=>by
  obtain⟨cu,Fu,hr,hk⟩:=hs.uH B0
  obtain⟨hF,B,cc,hv,_,Q3,_⟩:=hr
  have Rj:cc=0:=Q3 rfl
  subst Rj
  exact⟨_,hk (.own sz [] 0 0 0) rfl (.inl ⟨rfl,rfl,hF,B,hv⟩)⟩
theorem BY{K:AS->Prop}{t sz:Nat}{xs:List V}(ht:t<N)(hg:A.get t=.ow sz xs)(h:∀ g o c,K (A.put (some t) (.own sz xs g o c))):Hx N A K:=fun Pb Kb a w F hs=>by
 have hr:=hs.slot t
 rw[hg]at hr
 have hr:R w Pb (.ow sz xs) [a.tmps.getD t undef] (F (.slot t)):=hr
 obtain⟨g,o,c,hr⟩:=Hq.1 hr
 exact⟨_,Pb,Kb,_,h g o c,hs.AN ht hr,fun _ h=>h,fun _ h=>h,fun _ h=>.inl h⟩
theorem rK{K:AS->Prop}{r:m0}{p:List Nat}{g o sz:Nat}{xs:List V}(B0:A.at r p=some (g,o,.ow sz xs))(h:∀ g o c,K (A.setAt r p (.own sz xs g o c))):Hx N A K:=fun Pb Kb a w F hs=>by
 obtain⟨cu,Fu,h1,h2⟩:=hs.uH B0
 obtain⟨g,o,c,hr⟩:=Hq.1 h1
 exact⟨_,Pb,Kb,_,h g o c,h2 _ rfl hr,fun _ h=>h,fun _ h=>h,fun _ h=>.inl h⟩
theorem EA{K:AS->Prop}{r:m0}{p:List Nat}{g o:Nat}{u:V}(u':V)(B0:A.at r p=some (g,o,u))(hn:(wk u u').n=u.n)(h:K (A.setAt r p (wk u u'))):Hx N A K:=fun Pb Kb a w F hs=>by
 obtain⟨cu,Fu,h1,h2⟩:=hs.uH B0
 exact⟨_,Pb,Kb,_,h,h2 _ hn (rP u u' h1),fun _ h=>h,fun _ h=>h,fun _ h=>.inl h⟩
theorem Na{K:AS->Prop}{t:Nat}(u:V)(ht:t<N)(h:K (A.put (some t) (wk (A.get t) u))):Hx N A K:=
 Hx.simple h fun _ _ _ _ _ hs=>⟨_,hs.AN ht (zJ u (hs.slot t))⟩
theorem He{K:AS->Prop} {t i sz n g o c:Nat} {xs:List V} (ht:t<N) (hi:i<N) (Wz:t≠i) (h1:A.get t=.hd (.slot i) [] sz g o 0 n c) (h2:A.get i=.own sz xs g o c) (hn:n=xs.length)
 (h:K ((A.put (some i) .b9).put (some t) (.own sz xs g o c))):Hx N A K:=
 Hx.simple h fun _ _ _ _ _ hs=>hs.jt ht hi Wz h1 h2 hn
theorem ES{K:AS->Prop}{t:Nat}(ht:t<N)(ho:(A.get t).dz=true)(h:K (A.put (some t) (A.get t).er)):Hx N A K:=fun Pb Kb a w F hs=>by
 obtain⟨Pb',E2,F',h1,h2,h3,h4⟩:=hs.freeze ho ht
 exact⟨_,Pb',E2,F',h,h1,h2,h3,h4⟩
theorem s9.eqv(hs:s9 N Pb Kb A a w F)(h:D' A B):s9 N Pb Kb B a w F:=
 ⟨hs.size,hs.defers,fun i=>by rw[<- h.1 i];exact hs.slot i,fun k g v hk=>hs.root k g v (by rw[h.2 k];exact hk),hs.cL,hs.nodup,hs.free,hs.sub,hs.bound⟩
theorem Mp{K:AS->Prop}{t:Nat}(v:V)(e:A.get t=v)(h:K (A.put (some t) v)):Hx N A K:=
 Hx.simple h fun _ _ _ _ _ hs=>⟨_,hs.eqv ⟨fun i=>by
  rw[AS.aJ];split
  rename_i h;rw[h,e]
  rfl,fun _=>rfl⟩⟩
theorem Lf{K:AS->Prop}{k g:Nat}(v:V)(e:lk k A.h=some (g,v))(h:K ⟨A.t,(k,(g,v))::A.h⟩):Hx N A K:=
 Hx.simple h fun _ _ _ _ _ hs=>⟨_,hs.eqv ⟨fun _=>rfl,fun i=>by
  simp only[lk];split
  rename_i h;rw[h,e]
  rfl⟩⟩
theorem Np{K:AS->Prop}{k k' g:Nat}{v:V}(e:lk k A.h=some (g,v))(hn:lk k' A.h=none)(h:K ⟨A.t,(k',(g,v))::A.h.filter fun p=>p.1 != k⟩):Hx N A K:=
 Hx.simple h fun Pb Kb a w F hs=>by
  have hne:k'≠k:=fun c=>by rw[c,e]at hn;cases hn
  have hf:∀ (l:List (Nat×(Nat×V))) q,lk q (l.filter fun p=>p.1 != k)=if q=k then none else lk q l:=by
   intro l
   induction l with
   | nil=>intro q;simp[lk]
   | cons x l ih=>
     intro q
     obtain⟨i,u⟩:=x
     simp only[List.filter_cons]
     by_cases hi:i=k
     subst hi
     simp only[bne_self_eq_false,Bool.false_eq_true,if_false,ih q,lk]
     by_cases c:q=i
     rw[if_pos c,if_pos c]
     rw[if_neg c,if_neg c,if_neg c]
     rw[if_pos (by simpa using hi)]
     simp only[lk,ih q]
     by_cases c:q=i
     subst c;rw[if_pos rfl,if_pos rfl,if_neg hi]
     rw[if_neg c,if_neg c]
  let σ:m0->m0:=fun r=>if r=.key k' then .key k else if r=.key k then .key k' else r
  have hσ:∀ r r',σ r=σ r'->r=r':=fun r r' h=>by
   simp only[σ]at h
   repeat' split at h
   all_goals simp_all
  refine⟨fun r=>if r=.key k then [] else F (σ r),hs.size,hs.defers,fun i=>?_,fun q g0 v0 hq=>?_,fun r r' Zg y hy=>?_,fun r=>?_,fun r y hy=>?_,hs.sub,hs.bound⟩
  have:F (σ (.slot i))=F (.slot i):=by simp[σ]
  simp only[reduceCtorEq,if_false,this];exact hs.slot i
  simp only[lk,hf]at hq
  split at hq
  rename_i c;subst c
  simp only[Zal,Zao]at hq
  obtain⟨rfl,rfl⟩:=hq
  obtain⟨F',h1,h2⟩:=hs.root k g v e
  refine⟨F',?_,h2⟩
  rw[if_neg (by simpa using hne)]
  simp only[σ,if_true];exact h1
  rename_i c
  split at hq
  simp at hq
  rename_i c2
  obtain⟨F',h1,h2⟩:=hs.root q g0 v0 hq
  refine⟨F',?_,h2⟩
  rw[if_neg (by simpa using c2)]
  have:σ (.key q)=.key q:=by simp only[σ];rw[if_neg (by simpa using c),if_neg (by simpa using c2)]
  rw[this];exact h1
  split at hy
  simp at hy
  split
  simp
  exact hs.cL _ _ (fun c=>Zg (hσ _ _ c)) y hy
  split
  exact Za8
  exact hs.nodup _
  split at hy
  simp at hy
  exact hs.free _ y hy
theorem IW{K:AS->Prop}(h1:SH A B.t)(h2:RX A B.h)(h:K B):Hx N A K:=Hx.simple h fun _ _ _ _ _ hs=>hs.Z6 h1 h2
theorem DT{o:Oper}{K:AS->Prop}{x:Operand}(ho:o.op=.move x)(hd:cZ N o.dst)(hK:K ((A.drop x).put o.dst (A.ev x))):F9 P N o A K:=by
 intro Pb Kb a w F Q hs
 obtain⟨Fx,F',hr,B4,hnd,x6,hfr,_⟩:=hs.take x
 unfold Oper.wp
 have:(execOp a.eval o).run P w=.ok (.value (a.eval x)) w:=by simp only[execOp,ho];rfl
 rw[this,Oper.upon_value]
 cases Oj:o.dst with
 | none=>exact⟨_,Pb,Kb,F',hK,by rw[Oj];exact B4,fun _ h=>h,fun _ h=>h,fun _ h=>.inl h,A4.refl _ _⟩
 | some d=>
   rw[Oj]at hd hK
   exact⟨_,Pb,Kb,_,hK,B4.put hd hr (fun r _ g hg=>x6 r g hg) hnd hfr,fun _ h=>h,fun _ h=>h,fun _ h=>.inl h,A4.refl _ _⟩
theorem wX{o:Oper} {K:AS->Prop} {d T:Nat} {x:Operand} {r:m0} {p:List Nat} {g g':Nat} {i:TI} {u:V} (ho:o.op=.load T x) (hd:o.dst=some d) (hN:d<N) (hi:ti P T=some i)
 (hx:A.ev x=.ptr r p g g') (B0:A.at r p=some (g,g',u)) (hn:u.n=i.sz) (ha:i.d.agg=u.isAgg) (hK:K ((A.setAt r p u.kill).put (some d) u)):F9 P N o A K:=by
 intro Pb Kb a w F Q hs
 obtain⟨_,UX⟩:=eE hs x
 rw[hx]at UX
 have hp:a.eval x=.pointer (some ⟨g,g',none⟩):=by have:=UX.2;simpa using this
 obtain⟨Fr,Fu,B4,⟨cs,cells,hb,Of,hc⟩,hnd,x6,hfr⟩:=hs.split B0
 obtain⟨y,hy,G0⟩:=oC (w:=w) hi Of hn ha (g:=g) (o:=g') (fun j u hu=>by rw[eX hb];exact hc j u hu)
 unfold Oper.wp
 have:(execOp a.eval o).run P w=.ok (.value y) w:=by
  simp only[execOp,ho,Instr.loadAt,hp,Instr.sureAddr,Zay,Zaz,Zaq,hy]
 rw[this,Oper.upon_value,hd]
 exact⟨_,Pb,Kb,_,hK,B4.put hN G0 (fun r _ g hg=>x6 r g hg) hnd hfr,fun _ h=>h,fun _ h=>h,fun _ h=>.inl h,A4.refl _ _⟩
def W4(A:AS)(s:Operand)(sz:Nat):Option (Prop×AS×List V):=
 match s with
 | .const (.slice none 0 0)=>some (True,A,[])
 | .tmp t=>match A.get t with
   | .sl true []=>some (True,A,[])
   | .own L2 xs _ _ _=>some (L2=sz,A.put (some t) .b9,xs)
   | .hd (.slot i) [] L2 g o 0 n c=>match A.get i with
     | .own OS xs g2 o2 c2=>some ((L2,OS,g2,o2,c2,n)=(sz,sz,g,o,c,xs.length),A.put (some i) .b9,xs)
     | _=>none
   | .hd (.key k) p L2 g o 0 n c=>match A.at (.key k) p with
     | some (_,_,.own OS xs g2 o2 c2)=>some ((L2,OS,g2,o2,c2,n)=(sz,sz,g,o,c,xs.length),A.setAt (.key k) p .b9,xs)
     | _=>none
   | _=>none
 | _=>none
theorem Fz{s:Operand}{sz:Nat}{C:Prop}{xs:List V}(h:W4 A s sz=some (C,A1,xs))(hC:C)(hs:s9 N Pb Kb A a w F):
 ∃ Fx F' g o c,s9 N Pb Kb A1 a w F'/\R w Pb (.own sz xs g o c) [a.eval s] Fx/\Fx.Nodup/\(∀ r g,g∈Fx->g ∉ F' r)/\(∀ g,g∈Fx->¬ Kb g/\g<w.heap.size):=by
 have Ul:∀ {t:Nat} {r:m0} {p:List Nat} {sz g o n c:Nat} {xs:List V} {cs:List Value} {Fx:List Nat},A.get t=.hd r p sz g o 0 n c->n=xs.length->R w Pb (.own sz xs g o c) cs Fx->R w Pb (.own sz xs g o c) [a.eval (.tmp t)] Fx:=by
  intro t r p sz g o n c xs cs Fx hg hn hr
  subst hn
  have hh:=hs.slot t
  rw[hg]at hh
  obtain⟨_,hle,B,hv,hB⟩:=hh
  have hv:a.eval (.tmp t)=.slice B xs.length c:=(List.cons.inj hv).1
  rw[hv]
  rcases hr with ⟨rfl,rfl,rfl,A0,_⟩ | ⟨h1,h2,h3,h4,h5⟩
  exact .inl ⟨rfl,rfl,rfl,B,rfl⟩
  have:=hB h1
  rw[Nat.zero_mul,Nat.add_zero]at this
  subst this
  exact .inr ⟨h1,h2,h3,rfl,h5⟩
 unfold W4 at h
 split at h
 simp only[Zal,Zao]at h
 obtain⟨_,rfl,rfl⟩:=h
 exact⟨[],F,0,0,0,hs,.inl ⟨rfl,rfl,rfl,none,rfl⟩,Za8,Zab,Zab⟩
 · rename_i t
   split at h
   rename_i hg
   simp only[Zal,Zao]at h
   obtain⟨_,rfl,rfl⟩:=h
   have OX:=hs.slot t
   rw[hg]at OX
   obtain⟨_,B,c,hv,_,Q3,_⟩:=OX
   have Rj:c=0:=Q3 rfl
   subst Rj
   exact⟨[],F,0,0,0,hs,.inl ⟨rfl,rfl,rfl,B,hv⟩,Za8,Zab,Zab⟩
   rename_i L2 xs' g o c hg
   simp only[Zal,Zao]at h
   obtain⟨rfl,rfl,rfl⟩:=h
   subst hC
   obtain⟨Fx,F',hr,B4,hnd,x6,hfr,_⟩:=hs.take (.tmp t)
   rw[rF hg]at B4
   have hr:RV w Pb (A.get t) (a.eval (.tmp t)) Fx:=hr
   rw[hg]at hr
   exact⟨Fx,F',g,o,c,B4,hr,hnd,x6,hfr⟩
   · rename_i i L2 g o n c hg
     split at h
     case h_2=>simp at h
     rename_i OS xs' g2 o2 c2 hi
     simp only[Zal,Zao]at h
     obtain⟨rfl,rfl,rfl⟩:=h
     obtain⟨rfl,rfl,rfl,rfl,rfl,hn⟩:=hC
     obtain⟨Fx,F',hr,B4,hnd,x6,hfr,_⟩:=hs.take (.tmp i)
     rw[rF hi]at B4
     have hr:RV w Pb (A.get i) (a.eval (.tmp i)) Fx:=hr
     rw[hi]at hr
     exact⟨Fx,F',_,_,_,B4,Ul hg hn (cs:=[a.eval (.tmp i)]) hr,hnd,x6,hfr⟩
   · rename_i k p L2 g o n c hg
     split at h
     case h_2=>simp at h
     rename_i g0 o0 OS xs' g2 o2 c2 B0
     simp only[Zal,Zao]at h
     obtain⟨rfl,rfl,rfl⟩:=h
     obtain⟨rfl,rfl,rfl,rfl,rfl,hn⟩:=hC
     obtain⟨Fr,Fu,B4,⟨cs,cells,hb,Of,hc⟩,hnd,x6,hfr⟩:=hs.split B0
     exact⟨Fu,_,_,_,_,B4,Ul hg hn Of,hnd,x6,hfr⟩
   simp at h
 simp at h
theorem Db{o:Oper} {K:AS->Prop} {d T T2 e e2:Nat} {s x:Operand} {t:TI} {C Cx:Prop} {xs ys:List V} (ho:o.op=.call { callee:=.builtin .append,args:= #[s,x],argTypes:= #[T,T2] }) (SO:o.type=T)
 (hd:o.dst=some d) (hN:d<N) (hT:tD P T=some (.sl e)) (T4:tD P T2=some (.sl e2)) (ht:ti P e=some t) (hz:∃ inf z,P.info? e=some inf/\inf.zero=some z/\z.cells.size=t.sz) (hsz:0<t.sz) (Tu:0<t.Od)
 (hb:W4 A s t.sz=some (C,A1,xs)) (hC:C) (hx:Qg A x=some (Cx,ys)) (XX:Cx) (V0:V.aK ys=false) (Tf:aM t.sz ys)
 (hbig:(xs.length+ys.length)*t.Od<=140737488355328)
 (hK:∀ g o c,K (A1.put (some d) (.own t.sz (xs++ys) g o c))):F9 P N o A K:=by
 intro Pb Kb a w F Q hs
 obtain⟨B2,c2,D2,E',M0,Q4,hl2⟩:=oZ (P:=P) hs hx XX Tf V0
 obtain⟨Fx,F',g0,o0,c0,B4,hr,hnd,x6,hfr⟩:=Fz hb hC hs
 obtain⟨v,w',F2,g',o',c',B6,M7,M0,K5,Q6,S6,L5⟩:=uW hT T4 ht hz hsz Tu B4 hr x6 hfr (Fy:=[]) (by simpa using hnd) Zab Zab E' M0 Q4 hl2 Tf hbig
 have OW:(execOp a.eval o).run P w=.ok (.value v) w':=by
  simp only[execOp,ho,resolve,invoke,builtin,Zay,Zaz,Zaq,SO]
  have e:(#[s,x].map a.eval)= #[a.eval s,a.eval x]:=Zab
  rw[e,B6];rfl
 unfold Oper.wp
 rw[OW,Oper.upon_value,hd]
 exact⟨_,Pb,Kb,_,hK g' o' c',M7.put hN M0 (fun r _ g hg=>Q6 r g hg) K5 S6,fun _ h=>h,fun _ h=>h,fun _ h=>.inl h,L5⟩
def Wg(A:AS)(s:Operand)(sz:Nat):Option (Prop×List V):=
 match s with
 | .tmp t=>match A.get t with
   | .sl true (x::xs)=>some (aM sz (x::xs),x::xs)
   | _=>none
 | _=>none
theorem Ak{o:Oper} {K:AS->Prop} {d T T2 e e2:Nat} {s x:Operand} {t:TI} {C Cx:Prop} {xs ys:List V} (ho:o.op=.call { callee:=.builtin .append,args:= #[s,x],argTypes:= #[T,T2] }) (SO:o.type=T)
 (hd:o.dst=some d) (hN:d<N) (hT:tD P T=some (.sl e)) (T4:tD P T2=some (.sl e2)) (ht:ti P e=some t) (hz:∃ inf z,P.info? e=some inf/\inf.zero=some z/\z.cells.size=t.sz) (hsz:0<t.sz) (Tu:0<t.Od)
 (hb:Wg A s t.sz=some (C,xs)) (hC:C) (u0:0<ys.length) (hx:Qg A x=some (Cx,ys)) (XX:Cx) (V0:V.aK ys=false) (Tf:aM t.sz ys)
 (hbig:(xs.length+ys.length)*t.Od<=140737488355328)
 (hK:∀ g o c,K (A.put (some d) (.own t.sz (xs++ys) g o c))):F9 P N o A K:=by
 intro Pb Kb a w F Q hs
 obtain⟨B2,c2,D2,E',M0,Q4,hl2⟩:=oZ (P:=P) hs hx XX Tf V0
 have hr:R w Pb (.sl true xs) [a.eval s] []/\aM t.sz xs:=by
  unfold Wg at hb
  split at hb
  rename_i q
  split at hb
  rename_i x' xs' hg
  simp only[Zal,Zao]at hb
  obtain⟨rfl,rfl⟩:=hb
  have OX:=hs.slot q
  rw[hg]at OX
  have hF:F (.slot q)=[]:=OX.1
  rw[hF]at OX
  exact⟨OX,hC⟩
  simp at hb
  simp at hb
 obtain⟨v,w',F2,g',o',c',B6,M7,M0,K5,Q6,S6,L5⟩:=BP hT T4 ht hz hsz Tu hs hr.1 hr.2 u0 E' M0 Q4 hl2 Tf hbig
 have OW:(execOp a.eval o).run P w=.ok (.value v) w':=by
  simp only[execOp,ho,resolve,invoke,builtin,Zay,Zaz,Zaq,SO]
  have e:(#[s,x].map a.eval)= #[a.eval s,a.eval x]:=Zab
  rw[e,B6];rfl
 unfold Oper.wp
 rw[OW,Oper.upon_value,hd]
 exact⟨_,Pb,Kb,_,hK g' o' c',M7.put hN M0 (fun r _ g hg=>Q6 r g hg) K5 S6,fun _ h=>h,fun _ h=>h,fun _ h=>.inl h,L5⟩
end
mutual
def V.plain:V->Bool
 | .lit _=>true
 | .agg vs=>V.pv vs
 | .tup vs=>V.pv vs
 | _=>false
def V.pv:List V->Bool
 | []=>true
 | v::vs=>v.plain&&V.pv vs
end
def rT(A:AS):List Operand->Prop×List V
 | []=>(True,[])
 | x::xs=>match rT A xs with
   | (C,vs)=>match A.ev x with
     | .hd .. =>match Qg A x with
       | some (Cx,ys)=>(Cx/\C,.sl false ys::vs)
       | none=>(C,A.cp x::vs)
     | _=>(C,A.cp x::vs)
section
variable {w w':World} {Pb Kb Pb':Nat->Prop} {N:Nat} {A A' B:AS} {a:Act} {F:m0->List Nat} {P:Program} {ops:Array Oper}
mutual
theorem xO:∀ (v:V) {cs F},v.plain=true->R w Pb v cs F->R w' Pb' v cs []/\F=[]
 | .lit x,cs,F,_,h=>⟨⟨h.1,h.2.1,rfl⟩,h.2.2⟩
 | .agg vs,cs,F,hp,h=>by simp only[R]at h ⊢;simp only[V.plain]at hp;exact rR vs hp h
 | .tup _,_,_,_,h=>by simp[R]at h
 | .gv _ _,_,_,hp,_=>by simp[V.plain]at hp
 | .sl ..,_,_,hp,_=>by simp[V.plain]at hp
 | .own ..,_,_,hp,_=>by simp[V.plain]at hp
 | .ow ..,_,_,hp,_=>by simp[V.plain]at hp
 | .om ..,_,_,hp,_=>by simp[V.plain]at hp
 | .mp ..,_,_,hp,_=>by simp[V.plain]at hp
 | .hd ..,_,_,hp,_=>by simp[V.plain]at hp
 | .ptr ..,_,_,hp,_=>by simp[V.plain]at hp
 | .ep _,_,_,hp,_=>by simp[V.plain]at hp
 | .b9,_,_,hp,_=>by simp[V.plain]at hp
theorem rR:∀ (vs:List V) {cs F},V.pv vs=true->RL w Pb vs cs F->RL w' Pb' vs cs []/\F=[]
 | [],cs,F,_,h=>⟨⟨h.1,rfl⟩,h.2⟩
 | v::vs,cs,F,hp,h=>by
   simp only[V.pv,Zam]at hp
   obtain⟨c1,c2,F1,F2,h1,h2,h3,h4⟩:=h
   have k1:=xO v hp.1 h3
   have k2:=rR vs hp.2 h4
   exact⟨⟨c1,c2,[],[],h1,rfl,k1.1,k2.1⟩,by rw[h2,k1.2,k2.2];rfl⟩
end
theorem yT:∀ (vs:List V) {xs F},V.pv vs=true->RVs w Pb vs xs F->RVs w' Pb' vs xs []/\F=[]
 | [],xs,F,_,h=>⟨⟨h.1,rfl⟩,h.2⟩
 | v::vs,xs,F,hp,h=>by
   simp only[V.pv,Zam]at hp
   obtain⟨x,xs',F1,F2,h1,h2,h3,h4⟩:=h
   have k2:=yT vs hp.2 h4
   subst h1 h2
   cases v with
   | agg us=>
     obtain⟨cs,e,h3⟩:=h3
     have k1:=rR (w':=w') (Pb':=Pb') us (by simpa[V.plain] using hp.1) h3
     exact⟨⟨x,xs',[],[],rfl,rfl,⟨cs,e,k1.1⟩,k2.1⟩,by rw[k1.2,k2.2];rfl⟩
   | lit y=>have k1:=xO (w':=w') (Pb':=Pb') (.lit y) hp.1 h3;exact⟨⟨x,xs',[],[],rfl,rfl,k1.1,k2.1⟩,by rw[k1.2,k2.2];rfl⟩
   | tup us=>exact absurd h3 (by simp[R])
   | _=>simp[V.plain]at hp
theorem Ia(v:V){x F}(hp:v.plain=true)(h:RV w Pb v x F):RV w' Pb' v x []/\F=[]:=by
 cases v with
 | tup vs=>obtain⟨xs,e,h⟩:=h;have:=yT (w':=w') (Pb':=Pb') vs (by simpa[V.plain] using hp) h;exact⟨⟨xs,e,this.1⟩,this.2⟩
 | agg us=>obtain⟨cs,e,h⟩:=h;have:=rR (w':=w') (Pb':=Pb') us (by simpa[V.plain] using hp) h;exact⟨⟨cs,e,this.1⟩,this.2⟩
 | lit y=>exact xO (w:=w) (Pb:=Pb) (w':=w') (Pb':=Pb') (.lit y) hp h
 | _=>simp[V.plain]at hp
theorem Nk{Fo:List Nat} {OS g2 o2 c2 lo n c:Nat} {xs:List V} {Ua:List Value} (hr:R w Pb (.own OS xs g2 o2 c2) Ua Fo) (hle:n<=c) {B:Option Addr} (hB:0<c->B=some ⟨g2,o2+lo*OS,none⟩) (hn:lo+n<=xs.length) (ho:V.aK xs=false)
 (k1:∀ g,Pb g->Pb' g) (k2:∀ g,g<w.heap.size->Pb' g):R w Pb' (.sl false ((xs.drop lo).take n)) [.slice B n c] []:=by
 have hlen:((xs.drop lo).take n).length=n:=Zaj
 refine⟨rfl,B,c,by rw[hlen],by rw[hlen];exact hle,Zab,?_⟩
 by_cases Zi:n=0
 subst Zi;exact .inl Zab
 right
 rcases hr with ⟨_,rfl,_⟩ | ⟨h1,h2,h3,hx,hN,_,flat,F',cells,rfl,hr,hb,hsz,hc⟩
 simp at hn;omega
 have hF:=ia xs ho hr
 subst hF
 obtain⟨c1,Rs,Pj⟩:=qK xs lo hr
 obtain⟨c3,WC,XT⟩:=qO _ n Rs
 refine⟨g2,o2+lo*OS,OS,c3,hB Zaa,k2 g2 (by obtain⟨e,fr,hb,_⟩:=hb;exact(Zbf.1 hb).1),h2,fun x hx=>hN x (List.mem_of_mem_drop (List.mem_of_mem_take hx)),fg _ WC (fun _ _=>rfl) Zab k1 Zab,fun j u hu=>?_⟩
 rw[eX hb]
 have:=Pj j u (XT j u hu)
 rw[eT xs lo hN Zaa]at this
 have:=hc _ _ this
 simpa[Zbh] using this
theorem Kg(hs:s9 N Pb Kb A a w F){x:Operand}{C:Prop}{ys:List V}{r:m0}{p:List Nat}{sz g o lo n c:Nat}(he:A.ev x=.hd r p sz g o lo n c)(h:Qg A x=some (C,ys))(hC:C):R w (fun g=>g<w.heap.size) (.sl false ys) [a.eval x] []:=by
 obtain⟨Fx,hr⟩:=eE hs x
 rw[he]at hr
 obtain⟨_,hle,B,hv,hB⟩:=hr
 have hv:a.eval x=.slice B n c:=(List.cons.inj hv).1
 have key:∀ u Fo Ua,R w Pb u Ua Fo->mf lo n sz g o u=some (C,ys)->R w (fun g=>g<w.heap.size) (.sl false ys) [a.eval x] []:=by
  intro u Fo Ua Of hu
  unfold mf at hu
  split at hu
  rename_i OS xs g2 o2 c2
  simp only[Zal,Zao]at hu
  obtain⟨rfl,rfl⟩:=hu
  obtain⟨⟨rfl,rfl,rfl⟩,Zo,UY,_⟩:=hC
  rw[hv]
  exact Nk Of hle hB Zo UY (fun k h=>hs.bound k (hs.sub k h)) fun g hg=>hg
  simp at hu
 unfold Qg at h
 rw[he]at h
 simp only at h
 split at h
 rename_i i
 have OX:=hs.slot i
 unfold mf at h
 split at h
 rename_i OS xs g2 o2 c2 hg
 rw[hg]at OX
 exact key (.own OS xs g2 o2 c2) _ _ OX (by unfold mf;exact h)
 simp at h
 rename_i k p'
 split at h
 rename_i a0 b0 u B0
 obtain⟨F',cs,cells,hb,Of,s8⟩:=kF hs B0
 exact key u F' cs Of h
 simp at h
 simp at h
theorem rH(hs:s9 N Pb Kb A a w F):∀ (xs:List Operand) {C:Prop} {vs:List V},rT A xs=(C,vs)->C->RVs w (fun g=>g<w.heap.size) vs (xs.map a.eval) []
 | [],C,vs,h,_=>by simp only[rT,Zao]at h;obtain⟨_,rfl⟩:=h;exact⟨rfl,rfl⟩
 | x::xs,C,vs,h,hC=>by
   have plain:∀ X3,RVs w (fun g=>g<w.heap.size) X3 (xs.map a.eval) []->RVs w (fun g=>g<w.heap.size) (A.cp x::X3) ((x::xs).map a.eval) []:=fun X3 h'=>by
    have h1:=uZ hs [x]
    have h1:=vL (w':=w) (Pb':=fun g=>g<w.heap.size) _ h1 (fun _ _=>rfl) (fun _ _=>rfl) (fun k h=>hs.bound k (hs.sub k h)) Zab
    obtain⟨y,ys,F1,F2,e1,e2,h2,_⟩:=h1
    simp only[Zbc,List.map_nil,List.cons.injEq]at e1
    obtain⟨rfl,_⟩:=e1
    have e2:=e2.symm
    simp only[List.append_eq_nil_iff]at e2
    obtain⟨rfl,_⟩:=e2
    exact⟨a.eval x,xs.map a.eval,[],[],rfl,rfl,h2,h'⟩
   cases hl:rT A xs with
   | mk C0 vs0=>
     simp only[rT,hl]at h
     split at h
     rename_i r p sz g o lo n c he
     split at h
     rename_i Cx ys e
     simp only[Zao]at h
     obtain⟨rfl,rfl⟩:=h
     exact⟨a.eval x,xs.map a.eval,[],[],rfl,rfl,Kg hs he e hC.1,rH hs xs hl hC.2⟩
     simp only[Zao]at h
     obtain⟨rfl,rfl⟩:=h
     exact plain _ (rH hs xs hl hC)
     simp only[Zao]at h
     obtain⟨rfl,rfl⟩:=h
     exact plain _ (rH hs xs hl hC)
theorem Ig{o:Oper} {K:AS->Prop} {f:FuncId} {xs:Array Operand} {N2:Array TypeId} {args:List V} {Q:V->Prop} {C:Prop} {vs:List V} (ho:o.op=.call { callee:=.value (.func f),args:=xs,argTypes:=N2 })
 (hd:cZ N o.dst) (hc:PC P f args Q) (hl:rT A xs.toList=(C,vs)) (hC:C) (hargs:O7 vs args=args) (hp:∀ r,Q r->r.plain=true) (hK:∀ r,Q r->K (A.put o.dst r)):F9 P N o A K:=by
 intro Pb Kb a w F Q' hs
 unfold Oper.wp
 have B6:(execOp a.eval o).run P w=.ok (.enter f (xs.map a.eval)) w:=by
  simp only[execOp,ho,resolve,Act.eval,Deferred.ofValue,Zay,Zaz,Zaq,invoke]
  have:=hc.1 (xs.map a.eval) w
  simpa using this
 rw[B6,Oper.upon_enter]
 have h0:=rH hs xs.toList hl hC
 have h0:=qz _ args h0
 rw[hargs]at h0
 have L6:=hc.2 w (fun g=>g<w.heap.size) (xs.toList.map a.eval) (fun g hg=>hg) h0
 have e:(xs.toList.map a.eval).toArray=xs.map a.eval:=by rw[<- Array.toList_map,Array.toArray_toList]
 rw[e]at L6
 refine L6.mono ?_
 rintro e w' ⟨r,x,Fr,Pb',rfl,hq,hr,hnd,hfr,h1,h2,hb⟩
 have B4:s9 N Pb Kb A a w' F:=hs.grow hb.block hb.size (fun _ h=>h) (fun g hg=>.inl hg) hs.sub
 obtain⟨F',M7⟩:=B4.rX (d:=o.dst) hd (Ia (w':=w') (Pb':=Pb) r (hp r hq) hr).1
 exact⟨_,Pb,Kb,F',hK r hq,M7,fun _ h=>h,fun _ h=>h,fun g h=>.inl h,A4.zZ hb hs.bound⟩
end
section
variable {w w':World} {Pb Kb Pb':Nat->Prop} {N:Nat} {A A' B:AS} {a:Act} {F:m0->List Nat} {P:Program} {ops:Array Oper}
theorem CY{o:Oper} {K:AS->Prop} {d T e len:Nat} {e9:Array (Nat×Operand)} {i:TI} {vs:List V} (ho:o.op=.buildSlice T len e9) (hd:o.dst=some d) (hN:d<N) (hT:tD P T=some (.sl e)) (hi:ti P e=some i)
 (SN:fK A 0 e9.toList=some vs) (hB:Tz P T e len i vs=true) (h0:0<len) (hK:∀ g,K (A.put (some d) (.own i.sz vs g 0 len))):F9 P N o A K:=by
 simp only[Tz,Zam,Zbj]at hB
 obtain⟨⟨⟨⟨b1,hlen⟩,Ro⟩,G3⟩,hv⟩:=hB
 obtain⟨inf,z,Oh,hzero,_⟩:=nO b1
 have Ro:=Nat.le_of_ble_eq_true Ro
 have G3:=Nat.lt_of_succ_le (Nat.le_of_ble_eq_true G3)
 have hv:=xZ hv
 intro Pb Kb a w F Q hs
 obtain⟨xs,h1,h2,h3,h4⟩:=pc hs e9.toList 0 SN hv
 have hu:=jU hT
 obtain⟨TG,_,I8,_,hsz,_,_⟩:=kP hi
 rw[Oh]at I8
 obtain rfl:=Option.some.inj I8
 have hfl:=Great.fill_whole G3 xs ((Array.range (len*i.sz)).map (z.cells[· % z.cells.size]!)) h2 (by simp[h4,hlen])
 have hmul: ¬ len*inf.size=0:=by rw[hsz];exact Nat.mul_ne_zero Zaa Zaa
 have hb:=run_buildSlice (P:=P) w T e len (e9.map fun (i,x)=>(i,a.eval x)) _ inf z hu Oh hzero (by rw[hsz];omega) hmul (by rw[Array.toList_map,h1,hsz];exact hfl)
 have hx:(execOp a.eval o).run P w=.ok (.value (.slice (some ⟨w.heap.size,0,none⟩) len len)) (w.alloc (.cells (xs.flatMap fun v=>v.cells.toList).toArray e)):=by
  simp only[execOp,ho,Zay,hb,Zaq,Zaz]
 unfold Oper.wp
 rw[hx,Oper.upon_value,hd]
 have Pf:=hs.pK (.cells (xs.flatMap fun v=>v.cells.toList).toArray e)
 have O1:=fg (w':=w.alloc (.cells (xs.flatMap fun v=>v.cells.toList).toArray e)) (Pb':=Pb) vs h3 (fun g hg=>alloc_old w _ g (hs.bound g (hs.sub g hg))) Zab (fun g hg=>hg) Zab
 have hcs:(xs.flatMap fun v=>v.cells.toList).length=len*i.sz:=by
  rw[kq _ h3,qE vs (fun v TK=>(hv v TK).2),hlen]
 have Q9: ¬ Kb w.heap.size:=fun h=>by have:=hs.bound _ h;omega
 have hR:R (w.alloc (.cells (xs.flatMap fun v=>v.cells.toList).toArray e)) Pb (.own i.sz vs w.heap.size 0 len) [.slice (some ⟨w.heap.size,0,none⟩) len len] [w.heap.size]:=
  .inr ⟨h0,G3,Zaa,by rw[hlen],fun v TK=>(hv v TK).2,fun c=>Q9 (hs.sub _ c),_,[],_,rfl,O1,⟨e,(0,0),ij w _,fun i _ h=>by omega⟩,by simp only[List.size_toArray];rw[hcs];omega,fun j u hu=>by simpa using hu⟩
 exact⟨_,Pb,Kb,_,hK _,Pf.put hN hR (fun r _ g hg=>by
  obtain rfl:=Zat.1 hg
  intro c;have:=(hs.free r _ c).2;omega) Zab (fun g hg=>by
  obtain rfl:=Zat.1 hg
  exact⟨Q9,by rw[ef];omega⟩),fun _ h=>h,fun _ h=>h,fun _ h=>.inl h,A4.alloc hs.bound _⟩
theorem Gv{K:AS->Prop} {t sz n g o c g0 o0:Nat} {xs:List V} {r:m0} {p:List Nat} (h2:A.get t=.own sz xs g o c) (B0:(A.put (some t) .b9).at r p=some (g0,o0,.hd (.slot t) [] sz g o 0 n c)) (hn:n=xs.length)
 (h:K ((A.put (some t) .b9).setAt r p (.own sz xs g o c))):Hx N A K:=Hx.simple h fun Pb Kb a w F hs=>by
 subst hn
 obtain⟨Fx,F1,hr,Pf,hnd,x6,hfr,_⟩:=hs.take (.tmp t)
 rw[rF h2]at Pf
 have hr:RV w Pb (A.get t) (a.tmps.getD t undef) Fx:=hr
 rw[h2]at hr
 obtain⟨Fp,cs,cells,hb,hp,hc⟩:=kF Pf B0
 obtain⟨_,hle,B,rfl,hB⟩:=hp
 have G0:R w Pb (.own sz xs g o c) [.slice B xs.length c] Fx:=by
  rcases hr with ⟨rfl,rfl,rfl,A0,_⟩ | ⟨k1,k2,k3,k4,k5⟩
  exact .inl ⟨rfl,rfl,rfl,B,rfl⟩
  have:=hB k1
  rw[Nat.zero_mul,Nat.add_zero]at this
  subst this
  exact .inr ⟨k1,k2,k3,rfl,k5⟩
 obtain⟨F2,M7,_⟩:=Pf.store (w':=w) (v:=.own sz xs g o c) B0 G0 rfl hnd x6 hfr ⟨rfl,rfl,rfl,rfl,fun _ _=>rfl,Shp.refl _,fun o4 M4=>⟨o4,M4,rfl,fun _ _=>rfl,fun j u hu=>by
  have e:o4=cells:=by
   obtain⟨e1,f1,q1,_⟩:=hb
   obtain⟨e2,f2,q2,_⟩:=M4
   rw[q1]at q2
   simp only[Zal,Obj.cells.injEq]at q2
   exact q2.1.symm
  rw[e];exact hc j u hu⟩⟩
 exact⟨F2,M7⟩
theorem Bd{o:Oper} {K:AS->Prop} {d T T2 e e2 t0:Nat} {x:Operand} {t:TI} {Cx:Prop} {xs ys:List V} {r:m0} {p:List Nat} {sz g o1 n c g0 o0:Nat} (ho:o.op=.call { callee:=.builtin .append,args:= #[.tmp t0,x],argTypes:= #[T,T2] }) (SO:o.type=T)
 (hd:o.dst=some d) (hN:d<N) (hT:tD P T=some (.sl e)) (T4:tD P T2=some (.sl e2)) (ht:ti P e=some t) (hz:∃ inf z,P.info? e=some inf/\inf.zero=some z/\z.cells.size=t.sz) (hsz:0<t.sz) (Tu:0<t.Od)
 (hg:A.get t0=.hd r p sz g o1 0 n c) (B0:A.at r p=some (g0,o0,.own sz xs g o1 c)) (c5:sz=t.sz) (hn:n=xs.length) (hx:Qg A x=some (Cx,ys)) (XX:Cx) (V0:V.aK ys=false) (Tf:aM t.sz ys)
 (hbig:(xs.length+ys.length)*t.Od<=140737488355328)
 (hK:∀ g o c,K ((A.setAt r p .b9).put (some d) (.own t.sz (xs++ys) g o c))):F9 P N o A K:=by
 subst c5 hn
 intro Pb Kb a w F Q hs
 obtain⟨B2,c2,D2,E',M0,Q4,hl2⟩:=oZ (P:=P) hs hx XX Tf V0
 obtain⟨Fr,Fu,B4,⟨cs,cells,hb,Of,hc⟩,hnd,x6,hfr⟩:=hs.split B0
 have hr:R w Pb (.own t.sz xs g o1 c) [a.eval (.tmp t0)] Fu:=by
  have hh:=hs.slot t0
  rw[hg]at hh
  obtain⟨_,hle,B,hv,hB⟩:=hh
  have hv:a.eval (.tmp t0)=.slice B xs.length c:=(List.cons.inj hv).1
  rw[hv]
  rcases Of with ⟨rfl,rfl,rfl,A0,_⟩ | ⟨h1,h2,h3,h4,h5⟩
  exact .inl ⟨rfl,rfl,rfl,B,rfl⟩
  have:=hB h1
  rw[Nat.zero_mul,Nat.add_zero]at this
  subst this
  exact .inr ⟨h1,h2,h3,rfl,h5⟩
 obtain⟨v,w',F2,g',o',c',B6,M7,M0,K5,Q6,S6,L5⟩:=uW hT T4 ht hz hsz Tu B4 hr x6 hfr (Fy:=[]) (by simpa using hnd) Zab Zab E' M0 Q4 hl2 Tf hbig
 have OW:(execOp a.eval o).run P w=.ok (.value v) w':=by
  simp only[execOp,ho,resolve,invoke,builtin,Zay,Zaz,Zaq,SO]
  have e:(#[.tmp t0,x].map a.eval)= #[a.eval (.tmp t0),a.eval x]:=Zab
  rw[e,B6];rfl
 unfold Oper.wp
 rw[OW,Oper.upon_value,hd]
 exact⟨_,Pb,Kb,_,hK g' o' c',M7.put hN M0 (fun r _ g hg=>Q6 r g hg) K5 S6,fun _ h=>h,fun _ h=>h,fun _ h=>.inl h,L5⟩
theorem xi:∀ (vs:List V) {xs:List Value} {F:List Nat} {i:Nat} {v:V},RVs w Pb vs xs F->vs[i]? =some v->v.isVal=true->
 ∃ x Fa Fi Fb,xs[i]? =some x/\F=Fa++Fi++Fb/\RV w Pb v x Fi/\RVs w Pb (vs.set i .b9) xs (Fa++Fb)
 | [],_,_,_,_,_,h,_=>by simp at h
 | u::vs,xs,F,0,v,h,hi,hv=>by
   obtain⟨x,xs',F1,F2,rfl,rfl,h1,h2⟩:=h
   simp at hi;subst hi
   refine⟨x,[],F1,F2,rfl,Zab,?_,⟨x,xs',[],F2,rfl,rfl,rfl,h2⟩⟩
   cases u <;> first | exact h1 | simp[V.isVal]at hv
 | u::vs,xs,F,i+1,v,h,hi,hv=>by
   obtain⟨x,xs',F1,F2,rfl,rfl,h1,h2⟩:=h
   obtain⟨y,Fa,Fi,Fb,k1,rfl,k3,k4⟩:=xi vs h2 (by simpa using hi) hv
   exact⟨y,F1++Fa,Fi,Fb,by simpa using k1,Zab,k3,⟨x,xs',F1,Fa++Fb,rfl,Zab,h1,k4⟩⟩
theorem zu{o:Oper} {K:AS->Prop} {t i d:Nat} {vs:List V} {v:V} (ho:o.op=.extract (.tmp t) i) (hd:o.dst=some d) (hN:d<N) (ht:t<N) (PX:d≠t) (hg:A.get t=.tup vs) (hi:vs[i]? =some v) (hv:v.isVal=true)
 (hK:K ((A.put (some t) (.tup (vs.set i .b9))).put (some d) v)):F9 P N o A K:=by
 intro Pb Kb a w F Q hs
 have OX:=hs.slot t
 rw[hg]at OX
 obtain⟨xs,hx,hr⟩:=OX
 obtain⟨x,Fa,Fi,Fb,k1,k2,k3,k4⟩:=xi vs hr hi hv
 have hnd:=hs.nodup (.slot t)
 rw[k2]at hnd
 have PY:∀ g,g∈Fa++Fb->g∈F (.slot t):=fun g hg=>by rw[k2];simp only[Zav]at hg ⊢;rcases hg with h | h <;> simp[h]
 have UT:∀ g,g∈Fi->g∈F (.slot t):=fun g hg=>by rw[k2];simp[hg]
 have K5:(Fa++Fb).Nodup/\Fi.Nodup/\∀ g,g∈Fi->g ∉ Fa++Fb:=by
  simp only[List.nodup_append,Zav]at hnd ⊢
  grind
 have Pf:=hs.put (d:=t) (v:=.tup (vs.set i .b9)) (x:=a.tmps.getD t undef) (F':=Fa++Fb) ht ⟨xs,hx,k4⟩ (fun r hr g hg c=>hs.cL (.slot t) r (Ne.symm hr) g (PY g hg) c) K5.1 (fun g hg=>hs.free _ g (PY g hg))
 rw[qW]at Pf
 unfold Oper.wp
 have B6:(execOp a.eval o).run P w=.ok (.value x) w:=by
  have Wa:a.eval (.tmp t)=.tuple xs:=hx
  have hxi:xs[i]? =some x:=by simpa using k1
  simp only[execOp,ho,Wa,Instr.extract,hxi,Zay,Zaz,Zaq]
 rw[B6,Oper.upon_value,hd]
 refine⟨_,Pb,Kb,_,hK,Pf.put (d:=d) (F':=Fi) hN k3 (fun r hr g hg c=>?_) K5.2.1 (fun g hg=>hs.free _ g (UT g hg)),fun _ h=>h,fun _ h=>h,fun _ h=>.inl h,A4.refl _ _⟩
 simp only[cM]at c
 split at c
 exact K5.2.2 g hg c
 rename_i hne;exact hs.cL (.slot t) r (Ne.symm hne) g (UT g hg) c
end
def cj:List Prop->Prop->Prop
 | [],k=>k
 | c::r,k=>c/\cj r k
theorem pA:∀ {l:List Prop} {k:Prop},cj l k↔(∀ c,c∈l->c)/\k
 | [],k=>by simp[cj]
 | c::r,k=>by
   rw[cj,pA (l:=r),List.forall_mem_cons,and_assoc]
abbrev GT:=List (Nat×(Nat×Bool))
def Ed(ops:Array Oper)(j:Nat):Option Nat:=(ops[j]?).bind (·.dst)
def uj(ops:Array Oper)(d:Nat)(gt:GT):GT:=gt.filter fun e=>!(e.1==d||Ed ops e.2.1==some d)
def zI(ops:Array Oper)(d j:Nat)(b:Bool)(gt:GT):GT:=match Ed ops j==some d with
 | true=>uj ops d gt
 | false=>(d,(j,b))::uj ops d gt
def TA(ops:Array Oper)(gt:GT)(A:AS):Prop:= ∀ e,e∈gt->∀ c v,A.get e.1=.gv c v->Py A ops e.2.1 e.2.2=some c
section
variable {P:Program} {N:Nat} {ops:Array Oper} {A A':AS} {gt:GT}
theorem EG:TA ops [] A:=fun e h=>by simp at h
theorem Cj{d j:Nat}{b:Bool}{u:V}(h:Ed ops j≠some d):Py (A.put (some d) u) ops j b=Py A ops j b:=by
 unfold Py
 unfold Ed at h
 cases hj:(ops[j]?).bind (·.dst) with
 | none=>rfl
 | some t=>
   simp only[Option.map_some]
   rw[AS.aJ,if_neg (fun c=>h (by rw[hj,c]))]
theorem xj{d:Nat}{u:V}(h:TA ops gt A):TA ops (uj ops d gt) (A.put (some d) u):=fun e he c v hv=>by
 unfold uj at he
 rw[List.mem_filter]at he
 obtain⟨h1,h2⟩:=he
 simp only[Bool.not_eq_true',Bool.or_eq_false_iff,beq_eq_false_iff_ne,ne_eq]at h2
 rw[AS.aJ,if_neg h2.1]at hv
 rw[Cj h2.2]
 exact h e h1 c v hv
theorem Gw{d j:Nat}{b G:Bool}{u:V}(h:TA ops gt A)(hG:Py A ops j b=some G):TA ops (zI ops d j b gt) (A.put (some d) (.gv G u)):=by
 unfold zI
 split
 exact xj h
 rename_i e1
 intro e he c v hv
 rcases List.mem_cons.1 he with rfl | he
 rw[AS.aJ,if_pos rfl]at hv
 cases hv
 rw[Cj (by simpa using e1)];exact hG
 exact xj h e he c v hv
def gtA(ops:Array Oper)(d:Option Nat)(j:Nat)(b:Bool)(gt:GT):GT:=match d with
 | some d=>zI ops d j b gt
 | none=>gt
theorem Kr{d:Option Nat}{j:Nat}{b G:Bool}{u:V}(h:TA ops gt A)(hG:Py A ops j b=some G):TA ops (gtA ops d j b gt) (A.put d (.gv G u)):=by
 cases d with
 | none=>exact h
 | some d=>exact Gw h hG
theorem Kq{x:Operand}(h:(A.ev x).dz=false):A.drop x=A:=by
 cases x with
 | tmp t=>exact if_neg (by simpa[AS.ev] using h)
 | _=>rfl
def R9(G:Bool)(jb:Nat×Bool)(gt:GT):List Operand->AS->List Prop×AS
 | [],A=>([],A)
 | .tmp t::r,A=>match A.get t with
   | .gv b v=>match R9 G jb gt r (A.put (some t) v),gt.contains (t,jb)&&!v.dz&&!v.iU with
     | (C,B),true=>(C,B)
     | (C,B),false=>(qP G b v::C,B)
   | _=>R9 G jb gt r A
 | _::r,A=>R9 G jb gt r A
theorem nW{G:Bool}{jb:Nat×Bool}:∀ (xs:List Operand) {A B:AS} {l:List Prop},(∀ t,(t,jb)∈gt->∀ c v,A.get t=.gv c v->c=G)->R9 G jb gt xs A=(l,B)->(∀ c,c∈l->c)->∃ C,AS.un G xs A=(C,B)/\C
 | [],A,B,l,_,h,_=>by simp only[R9,Zao]at h;exact⟨True,by simp only[AS.un,h.2],trivial⟩
 | x::xs,A,B,l,hi,h,hl=>by
   cases x with
   | tmp t=>
     simp only[R9]at h
     simp only[AS.un]
     split at h
     rename_i b v hg
     rw[hg]
     have Zt:v.iU=false->∀ t',(t',jb)∈gt->∀ c u,(A.put (some t) v).get t'=.gv c u->c=G:=fun hv t' ht c u hu=>by
      rw[AS.aJ]at hu
      split at hu
      rw[hu]at hv;simp[V.iU]at hv
      exact hi t' ht c u hu
     split at h
     rename_i C1 B1 hu hc
     simp only[Zao]at h
     obtain⟨rfl,rfl⟩:=h
     simp only[Zam,Bool.not_eq_true',List.contains_iff_mem]at hc
     obtain⟨C2,e1,e2⟩:=nW xs (Zt hc.2) hu hl
     simp only[e1]
     refine⟨_,rfl,?_,e2⟩
     unfold qP
     rw[hc.1.2,hc.2,hi t hc.1.1 b v hg]
     exact fun h=>h
     rename_i C1 B1 hu hc
     simp only[Zao]at h
     obtain⟨rfl,rfl⟩:=h
     have h0:=hl _ (List.mem_cons_self ..)
     have hv:v.iU=false:=by
      unfold qP at h0
      split at h0
      rename_i e;rw[Bool.or_eq_false_iff]at e;exact e.2
      exact h0.elim
     obtain⟨C2,e1,e2⟩:=nW xs (Zt hv) hu (fun c hc=>hl c (List.mem_cons_of_mem _ hc))
     simp only[e1]
     exact⟨_,rfl,h0,e2⟩
     rename_i hn
     have:=nW xs hi h hl
     split
     rename_i b v hg;exact absurd hg (hn b v)
     exact this
   | _=>exact nW xs hi h hl
def sQ(P:Program)(N:Nat)(ops:Array Oper):Nat->List Oper->List V->GT->AS->Option (List Prop×AS×GT)
 | 0,_,_,gt,A=>some ([],A,gt)
 | _+1,[],_,gt,A=>some ([],A,gt)
 | n+1,o::rest,z7,gt,A=>
   match o.dst with
   | none=>none
   | some d=>if d<N then
     match o.guard with
     | some (j,b)=>match Py A ops j b with
       | some G=>match R9 G (j,b) gt (jV o.op) A with
         | (C0,B)=>match sY P B o.op z7 with
           | some (C,v,z7)=>if (Rm N (jV o.op)&&!v.iU)=true then match sQ P N ops n rest z7 (zI ops d j b gt) (A.put (some d) (.gv G v)) with
             | some (C',r)=>some (C0++(if nY o.op=true then C' else (G=true->C)::C'),r)
             | none=>none else none
           | none=>none
       | none=>none
     | none=>match o.op with
       | .assign x=>sQ P N ops n rest z7 (if (A.ev x).dz=true then [] else uj ops d gt) ((A.drop x).put (some d) (A.ev x))
       | op=>match sY P A op z7 with
         | some (C,v,z7)=>match sQ P N ops n rest z7 (uj ops d gt) (A.put (some d) v) with
           | some (C',r)=>if nY op=true then some (C',r) else some (C::C',r)
           | none=>none
         | none=>none
     else none
theorem uc:∀ (n:Nat) {l:List Oper} {z7:List V} {gt WR:GT} {A A':AS} {cs:List Prop},sQ P N ops n l z7 gt A=some (cs,A',WR)->TA ops gt A->(∀ c,c∈cs->c)->
 (∃ C,pH P N ops n l z7 A=some (C,A')/\C)/\TA ops WR A'
 | 0,l,z7,gt,WR,A,A',cs,h,hi,hc=>by
   simp only[sQ,Zal,Zao]at h
   obtain⟨_,rfl,rfl⟩:=h
   exact⟨⟨True,by simp only[pH],trivial⟩,hi⟩
 | n+1,[],z7,gt,WR,A,A',cs,h,hi,hc=>by
   simp only[sQ,Zal,Zao]at h
   obtain⟨_,rfl,rfl⟩:=h
   exact⟨⟨True,by simp only[pH],trivial⟩,hi⟩
 | n+1,o::l,z7,gt,WR,A,A',cs,h,hi,hc=>by
   unfold sQ at h
   unfold pH
   split at h
   cases h
   rename_i d hd
   split at h
   case isFalse=>cases h
   rename_i TW
   simp only[hd,if_pos TW]
   split at h
   rename_i j b hg
   simp only[hg]
   split at h
   rename_i G hG
   split at h
   rename_i C0 B hu
   split at h
   rename_i C v Qi hs
   split at h
   rename_i hk
   split at h
   rename_i C' A1 hr
   simp only[Zal,Zao]at h
   obtain⟨rfl,rfl⟩:=h
   obtain⟨C1,e1,e2⟩:=nW (jV o.op) (fun t ht c v hv=>by have:=hi _ ht c v hv;rw[hG]at this;exact(Option.some.inj this).symm) hu (fun c Tc=>hc c (List.mem_append_left _ Tc))
   obtain⟨⟨C2,e3,e4⟩,e5⟩:=uc n hr (Gw hi hG) (fun c Tc=>hc c (List.mem_append_right _ (by split <;> simp[Tc])))
   refine⟨?_,e5⟩
   simp only[hG,e1,hs,if_pos hk,e3]
   refine⟨_,rfl,fun OK=>⟨e2,?_⟩,e4⟩
   by_cases ht:nY o.op=true
   exact oJ ht hs
   exact hc (G=true->C) (List.mem_append_right _ (by rw[if_neg ht];exact List.mem_cons_self ..)) OK
   cases h
   cases h
   cases h
   cases h
   rename_i hg
   simp only[hg]
   split at h
   rename_i x hx
   obtain⟨⟨C,e1,e2⟩,e3⟩:=uc n h (by
    split
    exact EG
    rename_i ho
    rw[Kq (by simpa using ho)]
    exact xj hi) hc
   simp only[hx]
   exact⟨⟨C,e1,e2⟩,e3⟩
   rename_i hx
   split at h
   rename_i C v Qi hs
   split at h
   rename_i C' r hr
   have key:(∀ c,c∈C'->c)/\C/\r=(A',WR):=by
    split at h
    rename_i ht
    simp only[Zal,Zao]at h
    obtain⟨rfl,rfl⟩:=h
    exact⟨hc,oJ ht hs,rfl⟩
    simp only[Zal,Zao]at h
    obtain⟨rfl,rfl⟩:=h
    exact⟨fun c Tc=>hc c (List.mem_cons_of_mem _ Tc),hc _ (List.mem_cons_self ..),rfl⟩
   obtain⟨k1,k2,rfl⟩:=key
   obtain⟨⟨C2,e3,e4⟩,e5⟩:=uc n hr (xj hi) k1
   refine⟨?_,e5⟩
   split
   rename_i E';exact absurd E' (hx _)
   simp only[hs,e3]
   split
   exact⟨_,rfl,e4⟩
   exact⟨_,rfl,k2,e4⟩
   cases h
   cases h
def pg(B:AS)(ks:List (Nat×Nat)):List (Nat×(Nat×V))->Prop->Prop
 | [],p=>p
 | (k,(g,v))::r,p=>(match lk k ks with | some q=>(match lk q B.h with | some (g',v')=>(g',wk v' v)=(g,v) | none=>False) | none=>False)/\pg B ks r p
theorem kO{B:AS}{ks:List (Nat×Nat)}:∀ {H:List (Nat×(Nat×V))} {p:Prop},pg B ks H p->ni B ks H/\p
 | [],p,h=>⟨trivial,h⟩
 | (k,(g,v))::r,p,h=>by
   obtain⟨h1,h2⟩:=h
   obtain⟨h3,h4⟩:=kO h2
   exact⟨⟨h1,h3⟩,h4⟩
def IE(A:AS):List (Nat×(Nat×V))->Prop->Prop
 | [],p=>p
 | (k,(g,v))::r,p=>(match lk k A.h with | some (g',v')=>(g',wk v' v)=(g,v) | none=>False)/\IE A r p
theorem Am:∀ {H:List (Nat×(Nat×V))} {p:Prop},IE A H p->RX A H/\p
 | [],p,h=>⟨trivial,h⟩
 | (k,(g,v))::r,p,h=>by
   obtain⟨h1,h2⟩:=h
   obtain⟨h3,h4⟩:=Am h2
   exact⟨⟨h1,h3⟩,h4⟩
def Hw(A:AS):List (Nat×V)->Prop->Prop
 | [],p=>p
 | (k,v)::r,p=>(wk (A.get k) v=v)/\Hw A r p
theorem vp:∀ {H:List (Nat×V)} {p:Prop},Hw A H p->SH A H/\p
 | [],p,h=>⟨trivial,h⟩
 | (k,v)::r,p,h=>by
   obtain⟨h1,h2⟩:=h
   obtain⟨h3,h4⟩:=vp h2
   exact⟨⟨h1,h3⟩,h4⟩
def Wu(A B:AS):Prop:=Hw A B.t (IE A B.h True)
theorem uz{B:AS}(h:Wu A B):SH A B.t/\RX A B.h:=⟨(vp h).1,(Am (vp h).2).1⟩
def Ad(A:AS):List ResultVar->Option (List Prop×List (m0×V))
 | []=>some ([],[])
 | r::rs=>match Ad A rs with
   | some (C,xs)=>match r with
     | .tmp t=>some (C,(.slot t,A.get t)::xs)
     | .cell t _=>match A.get t with
       | .ptr (.key k) [] g 0=>match lk k A.h with
         | some (g',v)=>some ((g'=g)::C,(.key k,v)::xs)
         | none=>none
       | _=>none
   | none=>none
theorem uv:∀ {rs:List ResultVar} {C:List Prop} {xs:List (m0×V)},Ad A rs=some (C,xs)->(∀ c,c∈C->c)->∃ C',xw A rs=some (C',xs)/\C'
 | [],C,xs,h,_=>by simp only[Ad,Zal,Zao]at h;rw[<- h.2];exact⟨_,rfl,trivial⟩
 | r::rs,C,xs,h,hC=>by
   simp only[Ad]at h
   simp only[xw]
   split at h
   rename_i C1 xs1 e
   split at h
   simp only[Zal,Zao]at h
   obtain⟨rfl,rfl⟩:=h
   obtain⟨C',e1,e2⟩:=uv e hC
   simp only[e1]
   exact⟨_,rfl,e2⟩
   split at h
   rename_i k g e2
   split at h
   rename_i g' v e3
   simp only[Zal,Zao]at h
   obtain⟨rfl,rfl⟩:=h
   obtain⟨C',e4,e5⟩:=uv e (fun c hc=>hC c (List.mem_cons_of_mem _ hc))
   simp only[e4,e2,e3]
   exact⟨_,rfl,hC _ (List.mem_cons_self ..),e5⟩
   cases h
   cases h
   cases h
def vg(A:AS):List (Nat×(Nat×V))->Prop->Prop
 | [],p=>p
 | (k,(g,v))::r,p=>p/\vg A r (match lk k A.h with | some (g',v')=>(g',wk v' v)=(g,v) | none=>False)
theorem vd:∀ {H:List (Nat×(Nat×V))} {p:Prop},vg A H p->p/\RX A H
 | [],p,h=>⟨h,trivial⟩
 | (k,(g,v))::r,p,h=>by
   obtain⟨h1,h2⟩:=h
   exact⟨h1,vd h2⟩
end
structure o6 (P:Program) where
 f:FuncId
 args:List V
 H:List (Nat×(Nat×V)):=[]
 pre:Prop:=True
 res:V
 H':List (Nat×(Nat×V)):=[]
 ok:pre->PF P f args H (fun r h=>r=res/\h=H')
structure I2 (P:Program) where
 X:Type
 f:FuncId
 args:List V
 H:List (Nat×(Nat×V)):=[]
 pre:Prop:=True
 post:X->Prop
 res:X->V
 H':X->List (Nat×(Nat×V)):=fun _=>[]
 ok:pre->PF P f args H (fun r h=> ∃ x,post x/\r=res x/\h=H' x)
structure Cu (P:Program) where
 X:Type
 pre:Nat->Oper->AS->Prop
 post:X->Oper->AS->AS
 ok:∀ {N:Nat} {o:Oper} {A:AS} {K:AS->Prop},o.guard=none->pre N o A->(∀ x,K (post x o A))->F9 P N o A K
structure Eu (P:Program) where
 X:Type
 pre:Nat->Oper->AS->List Nat->List Nat->Prop
 U:Oper->AS->X->AS->AS
 Xe:∀ {N:Nat} {o:Oper} {A:AS} {Sl Hl:List Nat},pre N o A Sl Hl->∀ fs,Tk (U o A) fs Sl Hl
 prom:List Nat:=[]
 Z1:∀ {N:Nat} {o:Oper} {A:AS} {Sl Hl:List Nat},pre N o A Sl Hl->∀ q,q∈prom->∀ x B,Ov (U o A x B).h q=Ov B.h q:=by intro _ _ _ _ _ _ q hq;exact absurd hq List.not_mem_nil
 ok:∀ {N:Nat} {o:Oper} {A A':AS} {Sl Hl:List Nat},o.guard=none->pre N o A Sl Hl->(∀ t,Operand.tmp t∈o.op.operands.toList->A'.get t=A.get t)->(∀ k,lk k A'.h=lk k A.h)->F9 P N o A' fun B=> ∃ x,B=U o A x A'
def o6.sm{P:Program}(c:o6 P):Prop:=c.args=c.args
def I2.sm{P:Program}(c:I2 P):Prop:=c.args=c.args
inductive Hint where
 | H9 (t sz:Nat)
 | X2 (t:Nat) (u:V)
 | wkR (r:m0) (p:List Nat) (u:V)
 | jt (t:Nat)
 | fz (t:Nat)
 | n8 (t:Nat) (v:V)
 | C7 (k:Nat) (v:V)
 | to (B:AS)
 | rk (k k':Nat)
 | B3 (r:m0) (p:List Nat) (sz:Nat)
 | RA (r:m0) (p:List Nat) (g o sz:Nat)
 | Tj (r:m0) (p:List Nat) (g o t:Nat)
 | Rz (r:m0) (p:List Nat) (g o:Nat) (v u:V)
inductive Sc (P:Program):Type 1
 | nil
 | h (x:Hint) (k:Sc P)
 | ot (t:Nat) (k:Nat->Nat->Nat->Sc P)
 | oR (r:m0) (p:List Nat) (k:Nat->Nat->Nat->Sc P)
 | r (n:Nat) (z7:List V) (k:Sc P)
 | mv (k:Sc P)
 | c (c:o6 P) (ks:List (Nat×Nat)) (k:Sc P)
 | cx (c:I2 P) (ks:List (Nat×Nat)) (k:c.X->Sc P)
 | cg (c:o6 P) (k:Sc P)
 | al (z:ZT P) (k:Nat->Sc P)
 | bx (k:Nat->Sc P)
 | st (TD:Option V) (k:Sc P)
 | ap (k:Nat->Nat->Nat->Sc P)
 | bd (z:ZT P) (k:Sc P)
 | bs (k:Sc P)
 | Od (bs:BL) (k:Sc P)
 | sb (l:BL) (k:Nat->Nat->Sc P)
 | mm (k:Sc P)
 | rs (k:Sc P)
 | br (a b:Sc P)
 | join (X:Type) (B:X->AS) (ok:X->Prop) (a b:Sc P) (k:X->Sc P)
 | loop (X:Type) (inv:X->AS) (ok:X->Prop) (m:X->Nat) (k:X->Sc P)
 | dx (m:Nat) (pl:List Nat) (tb:List (Nat×Ry)) (zs:List (Nat×ZT P)) (k:Sc P)
 | ua (k:Nat->Sc P)
 | ux (z:Option (ZT P)) (k:Nat->Nat->Nat->Sc P)
 | cl (c:o6 P) (k:Sc P)
 | sp (b:Bool) (a1 a2:Sc P)
 | gt (k:Sc P)
 | gf (v:V) (k:Sc P)
 | ex (X:Type) (post:X->Prop) (k:X->Sc P)
 | Sa (r:m0) (p:List Nat) (g o sz:Nat) (xs:List V) (k:Nat->Nat->Nat->Sc P)
 | ZR (xs:List V) (g o:Nat) (k:Nat->Nat->Nat->Sc P)
 | bo (k:Nat->Sc P)
 | cu (c:Cu P) (k:c.X->Sc P)
 | eu (c:Eu P) (k:c.X->Sc P)
def Qq(N:Nat):Option Nat->Bool
 | none=>true
 | some d=>Nat.blt d N
theorem ff{N:Nat}{d:Option Nat}(h:Qq N d=true):cZ N d:=by
 cases d with
 | none=>trivial
 | some d=>exact Nat.lt_of_succ_le (Nat.le_of_ble_eq_true h)
theorem bW{a b:Nat}(h:Nat.blt a b=true):a<b:=Nat.lt_of_succ_le (Nat.le_of_ble_eq_true h)
def zM(N:Nat)(x:Hint)(A:AS)(K:AS->Prop):Prop:=
 match x with
 | .H9 t sz=>match Nat.blt t N,A.get t with
   | true,.sl true []=>K (A.put (some t) (.own sz [] 0 0 0))
   | _,_=>False
 | .X2 t u=>match Nat.blt t N with
   | true=>K (A.put (some t) (wk (A.get t) u))
   | false=>False
 | .wkR r p u=>match A.at r p with
   | some (_,_,v)=>match (wk v u).n==v.n with
     | true=>K (A.setAt r p (wk v u))
     | false=>False
   | none=>False
 | .jt t=>match A.get t with
   | .hd (.slot i) [] sz g o 0 n c=>match A.get i with
     | .own L2 xs g' o' c'=>match Nat.blt t N&&Nat.blt i N&&!(t==i) with
       | true=>(sz,g,o,c,n)=(L2,g',o',c',xs.length)/\K ((A.put (some i) .b9).put (some t) (.own L2 xs g' o' c'))
       | false=>False
     | _=>False
   | _=>False
 | .fz t=>match Nat.blt t N&&(A.get t).dz with
   | true=>K (A.put (some t) (A.get t).er)
   | false=>False
 | .n8 t v=>A.get t=v/\K (A.put (some t) v)
 | .C7 k v=>match lk k A.h with
   | some (g,u)=>u=v/\K ⟨A.t,(k,(g,v))::A.h⟩
   | none=>False
 | .to B=>SH A B.t/\RX A B.h/\K B
 | .rk k k'=>match lk k A.h,lk k' A.h with
   | some gv,none=>K ⟨A.t,(k',gv)::A.h.filter fun p=>p.1 != k⟩
   | _,_=>False
 | .B3 r p sz=>match A.at r p with
   | some (_,_,.sl true [])=>K (A.setAt r p (.own sz [] 0 0 0))
   | _=>False
 | .RA r p g o sz=>A.at r p=some (g,o,.sl true [])/\K (A.setAt r p (.own sz [] 0 0 0))
 | .Tj r p g o t=>match A.get t with
   | .own sz xs g1 o1 c=>(A.put (some t) .b9).at r p=some (g,o,.hd (.slot t) [] sz g1 o1 0 xs.length c)/\K ((A.put (some t) .b9).setAt r p (.own sz xs g1 o1 c))
   | _=>False
 | .Rz r p g o v u=>A.at r p=some (g,o,v)/\match (wk v u).n==v.n with
   | true=>K (A.setAt r p (wk v u))
   | false=>False
def Qz{P:Program}(N:Nat):Sc P->AS->(AS->Sc P->Prop)->Prop
 | .h x k,A,K=>zM N x A fun B=>Qz N k B K
 | .ot t k,A,K=>match Nat.blt t N,A.get t with
   | true,.ow sz xs=> ∀ g o c,Qz N (k g o c) (A.put (some t) (.own sz xs g o c)) K
   | _,_=>False
 | .oR r p k,A,K=>match A.at r p with
   | some (_,_,.ow sz xs)=> ∀ g o c,Qz N (k g o c) (A.setAt r p (.own sz xs g o c)) K
   | _=>False
 | .ex X post k,A,K=>(∃ x,post x)/\∀ x,post x->Qz N (k x) A K
 | .Sa r p g0 o0 sz xs k,A,K=>A.at r p=some (g0,o0,.ow sz xs)/\∀ g o1 c,Qz N (k g o1 c) (A.setAt r p (.own sz xs g o1 c)) K
 | s,A,K=>K A s
def pb(P:Program)(T T2:Nat):Option TI:=
 match tD P T,tD P T2 with
 | some (.sl e),some (.sl _)=>match ti P e with
   | some t=>match W8 P e t.sz&&Nat.blt 0 t.sz&&Nat.blt 0 t.Od with
     | true=>some t
     | false=>none
   | none=>none
 | _,_=>none
def Al(P:Program)(T:Nat):Bool:=match tD P T with
 | some (.sl e)=>match tD P e with
   | some (.int .u8)=>true
   | _=>false
 | _=>false
def isStr(P:Program)(T:Nat):Bool:=match tD P T with
 | some .str=>true
 | _=>false
def D8{P:Program}(N:Nat)(ops:Array Oper):GT->Sc P->List Oper->AS->(AS->Sc P->Prop)->Prop
 | Tx,s,[],A,K=>K A s
 | Tx,.r n z7 k,l,A,K=>match sQ P N ops n l z7 Tx A with
   | some (C,A',gt1)=>cj C (D8 N ops gt1 k (l.drop n) A' K)
   | none=>False
 | Tx,.cg c k,o::l,A,K=>match o.op,o.guard with
   | .call ⟨.value (.func f),xs,_⟩,some (j,b)=>match f==c.f&&Qq N o.dst&&Rm N xs.toList&&!c.res.er.iU&&!c.res.er.dz,c.H,Py A ops j b with
     | true,[],some G=>match R9 G (j,b) Tx xs.toList A with
       | (C,B)=>cj C ((G=true->c.pre/\O7 (xs.toList.map B.cp) c.args=c.args)/\D8 N ops (gtA ops o.dst j b Tx) k l (A.put o.dst (.gv G c.res.er)) K)
     | _,_,_=>False
   | _,_=>False
 | Tx,.ex X post k,o::l,A,K=>(∃ x,post x)/\∀ x,post x->D8 N ops [] (k x) (o::l) A K
 | Tx,.sp b a1 a2,o::l,A,K=>(b=true->D8 N ops [] a1 (o::l) A K)/\(b=false->D8 N ops [] a2 (o::l) A K)
 | Tx,.gt k,o::l,A,K=>match o.guard with
   | some (j,b)=>match Py A ops j b with
     | some G=>G=true/\D8 N ops [] k (⟨o.dst,o.op,o.type,o.pos,o.after,none⟩ :: l) A K
     | none=>False
   | none=>False
 | Tx,.gf v k,o::l,A,K=>match o.guard with
   | some (j,b)=>match Py A ops j b,Qq N o.dst with
     | some G,true=>G=false/\D8 N ops [] k l (A.put o.dst (.gv false v)) K
     | _,_=>False
   | none=>False
 | Tx,s,o::l,A,K=>match o.guard with
   | some _=>False
   | none=>match s with
     | .h x k=>zM N x A fun B=>D8 N ops [] k (o::l) B K
     | .Sa r p g0 o0 sz xs k=>A.at r p=some (g0,o0,.ow sz xs)/\∀ g o1 c,D8 N ops [] (k g o1 c) (o::l) (A.setAt r p (.own sz xs g o1 c)) K
     | .cu c k=>c.pre N o A/\∀ x,D8 N ops [] (k x) l (c.post x o A) K
     | .bo k=>match o.op,o.dst with
       | .buildSlice T len e9,some d=>match tD P T with
         | some (.sl e)=>match ti P e,fK A 0 e9.toList with
           | some i,some vs=>match Tz P T e len i vs&&Nat.blt d N&&Nat.blt 0 len with
             | true=> ∀ g,D8 N ops [] (k g) l (A.put (some d) (.own i.sz vs g 0 len)) K
             | false=>False
           | _,_=>False
         | _=>False
       | _,_=>False
     | .ZR xs g0 o0 k=>match o.op,o.dst with
       | .call ⟨.builtin .append,⟨[.tmp t0,x]⟩,⟨[T,T2]⟩⟩,some d=>match o.type==T&&Nat.blt d N,pb P T T2 with
         | true,some t=>match A.get t0,Qg A x with
           | .hd r p sz g o1 0 n c,some (Cx,ys)=>(A.at r p=some (g0,o0,.own sz xs g o1 c)/\sz=t.sz/\n=xs.length)/\Cx/\V.aK ys=false/\aM t.sz ys/\(xs.length+ys.length)*t.Od<=140737488355328/\
            ∀ g2 o2 c2,D8 N ops [] (k g2 o2 c2) l ((A.setAt r p .b9).put (some d) (.own t.sz (xs++ys) g2 o2 c2)) K
           | _,_=>False
         | _,_=>False
       | _,_=>False
     | .cl c k=>match o.op with
       | .call ⟨.value (.func f),xs,_⟩=>match f==c.f&&Qq N o.dst&&c.res.plain,c.H,rT A xs.toList with
         | true,[],(C,vs)=>C/\O7 vs c.args=c.args/\c.pre/\D8 N ops [] k l (A.put o.dst c.res) K
         | _,_,_=>False
       | _=>False
     | .ot t k=>match Nat.blt t N,A.get t with
       | true,.ow sz xs=> ∀ g o1 c,D8 N ops [] (k g o1 c) (o::l) (A.put (some t) (.own sz xs g o1 c)) K
       | _,_=>False
     | .oR r p k=>match A.at r p with
       | some (_,_,.ow sz xs)=> ∀ g o1 c,D8 N ops [] (k g o1 c) (o::l) (A.setAt r p (.own sz xs g o1 c)) K
       | _=>False
     | .mv k=>match o.op with
       | .move x=>match Qq N o.dst with
         | true=>D8 N ops [] k l ((A.drop x).put o.dst (A.ev x)) K
         | false=>False
       | .extract (.tmp t) i=>match o.dst,A.get t with
         | some d,.tup vs=>match vs[i]? with
           | some v=>match Nat.blt d N&&Nat.blt t N&&!(d==t)&&v.isVal with
             | true=>D8 N ops [] k l ((A.put (some t) (.tup (vs.set i .b9))).put (some d) v) K
             | false=>False
           | none=>False
         | _,_=>False
       | .load T x=>match o.dst,ti P T,A.ev x with
         | some d,some i,.ptr r p g g'=>match A.at r p with
           | some (g2,T9,u)=>match Nat.blt d N&&u.n==i.sz&&i.d.agg==u.isAgg with
             | true=>(g2,T9)=(g,g')/\D8 N ops [] k l ((A.setAt r p u.kill).put (some d) u) K
             | false=>False
           | none=>False
         | _,_,_=>False
       | _=>False
     | .c c ks k=>match o.op with
       | .call ⟨.value fx,xs,_⟩=>match A.ev fx,A.tk xs.toList with
         | .lit (.func (.func f) first A3),(vs,B)=>match f==c.f&&Qq N o.dst&&OU (ks.map (·.1))&&OU (ks.map (·.2))&&c.args.length==(first.toList.map cV++vs++A3.toList.map cV).length with
           | true=>O7 (first.toList.map cV++vs++A3.toList.map cV) c.args=c.args/\pg B ks c.H (c.pre/\D8 N ops [] k l ((B.back ks c.H').put o.dst (c.res.Qf (mw ks))) K)
           | false=>False
         | _,_=>False
       | _=>False
     | .cx c ks k=>match o.op with
       | .call ⟨.value fx,xs,_⟩=>match A.ev fx,A.tk xs.toList with
         | .lit (.func (.func f) first A3),(vs,B)=>match f==c.f&&Qq N o.dst&&OU (ks.map (·.1))&&OU (ks.map (·.2))&&c.args.length==(first.toList.map cV++vs++A3.toList.map cV).length with
           | true=>O7 (first.toList.map cV++vs++A3.toList.map cV) c.args=c.args/\pg B ks c.H (c.pre/\∀ x,c.post x->D8 N ops [] (k x) l ((B.back ks (c.H' x)).put o.dst ((c.res x).Qf (mw ks))) K)
           | false=>False
         | _,_=>False
       | _=>False
     | .al z k=>match o.op,o.dst with
       | .alloc T,some d=>match T==z.T&&Nat.blt d N with
         | true=> ∀ g,D8 N ops [] (k g) l ⟨(d,.ptr (.key d) [] g 0)::A.t,(d,(g,z.v))::A.h⟩ K
         | false=>False
       | _,_=>False
     | .bx k=>match o.op,o.dst with
       | .box _ x,some d=>match Nat.blt d N&&(A.cp x).isVal with
         | true=> ∀ g,D8 N ops [] (k g) l ⟨(d,.ptr (.key d) [] g 0)::A.t,(d,(g,A.cp x))::A.h⟩ K
         | false=>False
       | _,_=>False
     | .st TD k=>match o.op,o.dst with
       | .store T x y,none=>match ti P T,A.ev x with
         | some i,.ptr r p g g'=>match TD with
           | none=>match (A.drop y).at r p with
             | some (g2,T9,u)=>match (A.ev y).isVal&&(A.ev y).n==u.n&&(A.ev y).n==i.sz with
               | true=>(g2,T9)=(g,g')/\D8 N ops [] k l ((A.drop y).setAt r p (A.ev y)) K
               | false=>False
             | none=>False
           | some u=>match (A.ev y).isVal&&(A.ev y).n==u.n&&(A.ev y).n==i.sz with
             | true=>(A.drop y).at r p=some (g,g',u)/\D8 N ops [] k l ((A.drop y).setAt r p (A.ev y)) K
             | false=>False
         | _,_=>False
       | _,_=>False
     | .ap k=>match o.op,o.dst with
       | .call ⟨.builtin .append,⟨[s,x]⟩,⟨[T,T2]⟩⟩,some d=>match o.type==T&&Nat.blt d N,pb P T T2 with
         | true,some t=>match W4 A s t.sz,Qg A x with
           | some (C,A1,xs),some (Cx,ys)=>C/\Cx/\V.aK ys=false/\aM t.sz ys/\(xs.length+ys.length)*t.Od<=140737488355328/\
            ∀ g o1 c,D8 N ops [] (k g o1 c) l (A1.put (some d) (.own t.sz (xs++ys) g o1 c)) K
           | none,some (Cx,ys)=>match Wg A s t.sz with
             | some (C,xs)=>(C/\0<ys.length)/\Cx/\V.aK ys=false/\aM t.sz ys/\(xs.length+ys.length)*t.Od<=140737488355328/\
               ∀ g o1 c,D8 N ops [] (k g o1 c) l (A.put (some d) (.own t.sz (xs++ys) g o1 c)) K
             | none=>False
           | _,_=>False
         | _,_=>False
       | _,_=>False
     | .bd z k=>match o.op with
       | .build T e9=>match T==z.T&&Qq N o.dst,z.v with
         | true,.agg zs=>match nN P A T zs e9.toList with
           | some v=>D8 N ops [] k l (A.put o.dst v) K
           | none=>False
         | _,_=>False
       | _=>False
     | .bs k=>match o.op with
       | .buildSlice T len e9=>match tD P T with
         | some (.sl e)=>match ti P e,fK A 0 e9.toList with
           | some i,some vs=>match Tz P T e len i vs&&Qq N o.dst with
             | true=>D8 N ops [] k l (A.put o.dst (.sl true vs)) K
             | false=>False
           | _,_=>False
         | _=>False
       | _=>False
     | .Od bs k=>match o.op with
       | .convert src dst x=>match Al P src&&isStr P dst&&Qq N o.dst,Qg A x with
         | true,some (C,ys)=>C/\ys=bs.map n7/\D8 N ops [] k l (A.put o.dst (sV bs)) K
         | _,_=>False
       | _=>False
     | .sb bs k=>match o.op,o.dst with
       | .convert src dst x,some d=>match isStr P src&&Al P dst&&Nat.blt d N with
         | true=>A.ev x=sV bs/\∀ g c,D8 N ops [] (k g c) l (A.put (some d) (.own 1 (bs.map n7) g 0 c)) K
         | false=>False
       | _,_=>False
     | .mm k=>match o.op with
       | .call ⟨.builtin b,⟨[x,y]⟩,_⟩=>match A.ev x,A.ev y,Qq N o.dst,b with
         | .lit (.int kd p),.lit (.int SI q),true,.max=>SI=kd/\D8 N ops [] k l (A.put o.dst (.lit (.int kd (max p q)))) K
         | .lit (.int kd p),.lit (.int SI q),true,.min=>SI=kd/\D8 N ops [] k l (A.put o.dst (.lit (.int kd (min p q)))) K
         | _,_,_,_=>False
       | _=>False
     | .rs k=>match o.op,o.dst with
       | .assign x,some i=>match A.ev x,A.get i,Nat.blt i N with
         | .hd (.slot i') [] L2 g' o' lo n c',.own sz xs g o1 c,true=>(i',L2,g',o')=(i,sz,g,o1)/\(lo+n<=xs.length/\lo+c'<=c/\V.aK xs=false)/\
          D8 N ops [] k l (A.put (some i) (.own sz ((xs.drop lo).take n) g (o1+lo*sz) c')) K
         | _,_,_=>False
       | _,_=>False
     | _=>False
section
variable {P:Program} {N:Nat} {ops:Array Oper} {A A' A1 B:AS}
variable {w:World} {Pb Kb:Nat->Prop} {a:Act} {F:m0->List Nat}
theorem AD{x:Hint}{A:AS}{K:AS->Prop}(h:zM N x A K):Hx N A K:=by
 unfold zM at h
 split at h
 split at h
 rename_i e1 e2;exact KK _ _ (bW e1) e2 h
 exact h.elim
 split at h
 rename_i e1;exact Na _ (bW e1) h
 exact h.elim
 split at h
 rename_i e1
 split at h
 rename_i e2;exact EA _ e1 (by simpa using e2) h
 exact h.elim
 exact h.elim
 split at h
 rename_i e1
 split at h
 rename_i e2
 split at h
 rename_i e3
 simp only[Zam,Bool.not_eq_true',beq_eq_false_iff_ne]at e3
 obtain⟨hq,h⟩:=h
 simp only[Zao]at hq
 obtain⟨rfl,rfl,rfl,rfl,hn⟩:=hq
 exact He (bW e3.1.1) (bW e3.1.2) e3.2 e1 e2 hn h
 exact h.elim
 exact h.elim
 exact h.elim
 split at h
 rename_i e1
 simp only[Zam]at e1
 exact ES (bW e1.1) e1.2 h
 exact h.elim
 exact Mp _ h.1 h.2
 split at h
 rename_i e1
 obtain⟨rfl,h⟩:=h
 exact Lf _ e1 h
 exact h.elim
 exact IW h.1 h.2.1 h.2.2
 split at h
 rename_i e1 e2;exact Np e1 e2 h
 exact h.elim
 split at h
 rename_i e1;exact AQ e1 h
 exact h.elim
 exact AQ h.1 h.2
 split at h
 rename_i e1;exact Gv e1 h.1 rfl h.2
 exact h.elim
 obtain⟨h1,h⟩:=h
 split at h
 rename_i e2;exact EA _ h1 (by simpa using e2) h
 exact h.elim
theorem mA:∀ (s:Sc P) {A:AS} {K:AS->Sc P->Prop},Qz N s A K->Hx N A fun B=> ∃ s',K B s':=by
 intro s
 induction s with
 | h x k ih=>intro A K h;exact(AD h).bind fun B hB=>ih hB
 | ot t k ih=>
   intro A K h
   simp only[Qz]at h
   split at h
   rename_i e1 e2
   exact(BY (bW e1) e2 (K:=fun B=>Hx N B fun B=> ∃ s',K B s') fun g o c=>ih g o c (h g o c)).bind fun _ hB=>hB
   exact h.elim
 | oR r p k ih=>
   intro A K h
   simp only[Qz]at h
   split at h
   rename_i e1
   exact(rK e1 (K:=fun B=>Hx N B fun B=> ∃ s',K B s') fun g o c=>ih g o c (h g o c)).bind fun _ hB=>hB
   exact h.elim
 | ex X post k ih=>
   intro A K h
   obtain⟨⟨x,hx⟩,h⟩:=h
   exact ih x (h x hx)
 | Sa r p g0 o0 sz xs k ih=>
   intro A K h
   exact(rK h.1 (K:=fun B=>Hx N B fun B=> ∃ s',K B s') fun g o c=>ih g o c (h.2 g o c)).bind fun _ hB=>hB
 | _=>intro A K h;exact Hx.of ⟨_,h⟩
theorem kj{T T2:Nat}{t:TI}(h:pb P T T2=some t):∃ e e2,tD P T=some (.sl e)/\tD P T2=some (.sl e2)/\ti P e=some t/\W8 P e t.sz=true/\0<t.sz/\0<t.Od:=by
 unfold pb at h
 split at h
 rename_i e e2 h1 h2
 split at h
 rename_i t' h3
 split at h
 rename_i h4
 simp only[Zal]at h;subst h
 simp only[Zam]at h4
 exact⟨e,e2,h1,h2,h3,h4.1.1,bW h4.1.2,bW h4.2⟩
 simp at h
 simp at h
 simp at h
theorem xF{T:Nat}(h:Al P T=true):∃ e,tD P T=some (.sl e)/\tD P e=some (.int .u8):=by
 unfold Al at h
 split at h
 rename_i e h1
 split at h
 rename_i h2;exact⟨e,h1,h2⟩
 simp at h
 simp at h
theorem ve{T:Nat}(h:isStr P T=true):tD P T=some .str:=by
 unfold isStr at h
 split at h
 rename_i h1;exact h1
 simp at h
theorem FO:∀ (s:Sc P) {gt:GT} {l:List Oper} {A:AS} {K:AS->Sc P->Prop},D8 N ops gt s l A K->(hg:TA ops gt A:=by exact EG)->WL P N ops l A fun B=> ∃ s',K B s':=by
 intro s
 induction s with
 | nil=>
   intro gt l A K h K6
   cases l with
   | nil=>exact⟨_,h⟩
   | cons o l=>simp only[D8]at h;split at h <;> exact h.elim
 | r n z7 k ih=>
   intro gt l A K h K6
   cases l with
   | nil=>exact⟨_,h⟩
   | cons o l=>
     simp only[D8]at h
     split at h
     rename_i C A' gt1 e
     obtain⟨h1,h2⟩:=pA.1 h
     obtain⟨⟨C1,e1,e2⟩,e3⟩:=uc n e K6 h1
     exact qJ n e1 e2 (ih h2 e3)
     exact h.elim
 | cg c k ih=>
   intro gt l A K h K6
   cases l with
   | nil=>exact⟨_,h⟩
   | cons o l=>
     obtain⟨dst,op,ty,pos,after,D5⟩:=o
     simp only[D8]at h
     split at h
     rename_i _ _ f xs N2 j b
     split at h
     rename_i G h1 h2 h3
     revert h
     cases hu:R9 G (j,b) gt xs.toList A with | mk C0 B=>?_
     intro h
     obtain⟨Rj,h⟩:=pA.1 h
     obtain⟨C1,u1,u2⟩:=nW xs.toList (fun t ht c v hv=>by have:=K6 _ ht c v hv;rw[h3]at this;exact(Option.some.inj this).symm) hu Rj
     simp only[Zam,Zbj,Bool.not_eq_true']at h1
     obtain⟨⟨⟨⟨h1,h4⟩,h5⟩,h6⟩,h7⟩:=h1
     subst h1
     refine HY (ff h4) h3 u1 h5 rfl (fun hG=>⟨u2,?_,h6,h7⟩) (ih h.2 (Kr K6 h3))
     obtain⟨SY,hw⟩:=h.1 hG
     have hc:=c.ok SY
     rw[h2]at hc
     have hp:=hc.Du
     refine⟨hp.1,fun w Pb cargs k1 k2=>?_⟩
     refine(hp.2 w Pb cargs k1 (by have:=qz _ c.args k2;rw[hw]at this;exact this)).mono ?_
     rintro e w' ⟨r,x,F,Pb',rfl,⟨H,q1,_⟩,rest⟩
     exact⟨r,x,F,Pb',rfl,by rw[q1],rest⟩
     exact h.elim
     exact h.elim
 | ex X post k ih=>
   intro gt l A K h K6
   cases l with
   | nil=>exact⟨_,h⟩
   | cons o l=>
     simp only[D8]at h
     obtain⟨⟨x,hx⟩,h⟩:=h
     exact ih x (h x hx)
 | Sa r p g0 o0 sz xs k ih=>
   intro gt l A K h K6
   cases l with
   | nil=>exact⟨_,h⟩
   | cons o l=>
     simp only[D8]at h
     split at h
     exact h.elim
     rename_i hg
     exact ui hg (rK h.1 fun g o1 c=>ih g o1 c (h.2 g o1 c))
 | cu c k ih=>
   intro gt l A K h K6
   cases l with
   | nil=>exact⟨_,h⟩
   | cons o l=>
     obtain⟨dst,op,ty,pos,after,D5⟩:=o
     simp only[D8]at h
     split at h
     exact h.elim
     rename_i hg
     show F9 P N _ A _
     exact c.ok rfl h.1 fun x=>ih x (h.2 x)
 | bo k ih=>
   intro gt l A K h K6
   cases l with
   | nil=>exact⟨_,h⟩
   | cons o l=>
     obtain⟨dst,op,ty,pos,after,D5⟩:=o
     simp only[D8]at h
     split at h
     exact h.elim
     show F9 P N _ A _
     split at h
     split at h
     rename_i e e1
     split at h
     rename_i i vs e2 e3
     split at h
     rename_i e4
     simp only[Zam]at e4
     exact CY rfl rfl (bW e4.1.2) e1 e2 e3 e4.1.1 (bW e4.2) fun g=>ih g (h g)
     exact h.elim
     exact h.elim
     exact h.elim
     exact h.elim
 | ZR xs g0 o0 k ih=>
   intro gt l A K h K6
   cases l with
   | nil=>exact⟨_,h⟩
   | cons o l=>
     obtain⟨dst,op,ty,pos,after,D5⟩:=o
     simp only[D8]at h
     split at h
     exact h.elim
     show F9 P N _ A _
     split at h
     split at h
     rename_i t e1 e2
     split at h
     rename_i e3 e4
     simp only[Zam,Zbj]at e1
     obtain⟨⟨k1,k2,k3⟩,k4,k5,k6,k7,k8⟩:=h
     obtain⟨e,e',q1,q2,q3,q4,q5,q6⟩:=kj e2
     exact Bd rfl e1.1 rfl (bW e1.2) q1 q2 q3 (nO q4) q5 q6 e3 k1 k2 k3 e4 k4 k5 k6 k7 fun g o1 c=>ih g o1 c (k8 g o1 c)
     exact h.elim
     exact h.elim
     exact h.elim
 | sp b a1 a2 Ww Wv=>
   intro gt l A K h K6
   cases l with
   | nil=>exact⟨_,h⟩
   | cons o l=>
     simp only[D8]at h
     cases b with
     | true=>exact Ww (h.1 rfl)
     | false=>exact Wv (h.2 rfl)
 | gt k ih=>
   intro gt l A K h K6
   cases l with
   | nil=>exact⟨_,h⟩
   | cons o l=>
     obtain⟨dst,op,ty,pos,after,D5⟩:=o
     simp only[D8]at h
     split at h
     rename_i j b
     split at h
     rename_i G hG
     exact rS rfl hG (fun _=>ih h.2) (fun hf=>by rw[h.1]at hf;cases hf)
     exact h.elim
     exact h.elim
 | gf v k ih=>
   intro gt l A K h K6
   cases l with
   | nil=>exact⟨_,h⟩
   | cons o l=>
     obtain⟨dst,op,ty,pos,after,D5⟩:=o
     simp only[D8]at h
     split at h
     rename_i j b
     split at h
     rename_i G hG hd
     exact rS rfl hG (fun ht=>by rw[h.1]at ht;cases ht) (fun _=>⟨ff hd,.gv false v,fun _ _=>⟨rfl,⟨(fun hh=>Bool.noConfusion hh),fun _=>rfl⟩⟩,ih h.2⟩)
     exact h.elim
     exact h.elim
 | cl c k ih=>
   intro gt l A K h K6
   cases l with
   | nil=>exact⟨_,h⟩
   | cons o l=>
     obtain⟨dst,op,ty,pos,after,D5⟩:=o
     simp only[D8]at h
     split at h
     exact h.elim
     show F9 P N _ A _
     split at h
     split at h
     rename_i C vs e1 e2 e3
     simp only[Zam,Zbj]at e1
     obtain⟨⟨rfl,e1⟩,e4⟩:=e1
     obtain⟨k1,k2,k3,k4⟩:=h
     have hc:=c.ok k3
     rw[e2]at hc
     have hp:=hc.Du
     refine Ig (Q:=fun r=>r=c.res) rfl (ff e1) ⟨hp.1,fun w Pb cargs q1 q2=>?_⟩ e3 k1 k2 (fun r hr=>by rw[hr];exact e4) (fun r hr=>by rw[hr];exact ih k4)
     refine(hp.2 w Pb cargs q1 q2).mono ?_
     rintro e w' ⟨r,x,F,Pb',rfl,⟨H,q,_⟩,rest⟩
     exact⟨r,x,F,Pb',rfl,q,rest⟩
     exact h.elim
     exact h.elim
 | h x k ih=>
   intro gt l A K h K6
   cases l with
   | nil=>exact⟨_,h⟩
   | cons o l=>
     simp only[D8]at h
     split at h
     exact h.elim
     rename_i hg;exact ui hg ((AD h).mono fun B hB=>ih hB)
 | ot t k ih=>
   intro gt l A K h K6
   cases l with
   | nil=>exact⟨_,h⟩
   | cons o l=>
     simp only[D8]at h
     split at h
     exact h.elim
     rename_i hg
     split at h
     rename_i e1 e2;exact ui hg (BY (bW e1) e2 fun g o1 c=>ih g o1 c (h g o1 c))
     exact h.elim
 | oR r p k ih=>
   intro gt l A K h K6
   cases l with
   | nil=>exact⟨_,h⟩
   | cons o l=>
     simp only[D8]at h
     split at h
     exact h.elim
     rename_i hg
     split at h
     rename_i e1;exact ui hg (rK e1 fun g o1 c=>ih g o1 c (h g o1 c))
     exact h.elim
 | mv k ih=>
   intro gt l A K h K6
   cases l with
   | nil=>exact⟨_,h⟩
   | cons o l=>
     obtain⟨dst,op,ty,pos,after,D5⟩:=o
     simp only[D8]at h
     split at h
     exact h.elim
     show F9 P N _ A _
     split at h
     split at h
     rename_i e;exact DT rfl (ff e) (ih h)
     exact h.elim
     split at h
     rename_i d vs e1
     split at h
     rename_i v e2
     split at h
     rename_i e3
     simp only[Zam,Bool.not_eq_true',beq_eq_false_iff_ne]at e3
     exact zu rfl rfl (bW e3.1.1.1) (bW e3.1.1.2) e3.1.2 e1 e2 e3.2 (ih h)
     exact h.elim
     exact h.elim
     exact h.elim
     split at h
     rename_i d i r p g g' e1 e2
     split at h
     rename_i g2 T9 u e3
     split at h
     rename_i e4
     simp only[Zam,Zbj]at e4
     obtain⟨hq,h⟩:=h
     simp only[Zao]at hq
     obtain⟨rfl,rfl⟩:=hq
     exact wX rfl rfl (bW e4.1.1) e1 e2 e3 e4.1.2 e4.2 (ih h)
     exact h.elim
     exact h.elim
     exact h.elim
     exact h.elim
 | c c ks k ih=>
   intro gt l A K h K6
   cases l with
   | nil=>exact⟨_,h⟩
   | cons o l=>
     obtain⟨dst,op,ty,pos,after,D5⟩:=o
     simp only[D8]at h
     split at h
     exact h.elim
     show F9 P N _ A _
     split at h
     split at h
     rename_i vs B e1 e2
     split at h
     rename_i e3
     simp only[Zam,Zbj]at e3
     obtain⟨⟨⟨⟨h1,h2⟩,h3⟩,h4⟩,h5⟩:=e3
     subst h1
     obtain⟨k1,h⟩:=h
     obtain⟨k2,k3,k4⟩:=kO h
     refine pU ks rfl e1 (ff h2) h3 h4 (c.ok k3) (by rw[e2];exact k1) (by rw[e2];exact h5) (by rw[e2];exact k2) ?_
     rintro r H' ⟨rfl,rfl⟩
     rw[e2];exact ih k4
     exact h.elim
     exact h.elim
     exact h.elim
 | cx c ks k ih=>
   intro gt l A K h K6
   cases l with
   | nil=>exact⟨_,h⟩
   | cons o l=>
     obtain⟨dst,op,ty,pos,after,D5⟩:=o
     simp only[D8]at h
     split at h
     exact h.elim
     show F9 P N _ A _
     split at h
     split at h
     rename_i vs B e1 e2
     split at h
     rename_i e3
     simp only[Zam,Zbj]at e3
     obtain⟨⟨⟨⟨h1,h2⟩,h3⟩,h4⟩,h5⟩:=e3
     subst h1
     obtain⟨k1,h⟩:=h
     obtain⟨k2,k3,k4⟩:=kO h
     refine pU ks rfl e1 (ff h2) h3 h4 (c.ok k3) (by rw[e2];exact k1) (by rw[e2];exact h5) (by rw[e2];exact k2) ?_
     rintro r H' ⟨x,hx,rfl,rfl⟩
     rw[e2];exact ih x (k4 x hx)
     exact h.elim
     exact h.elim
     exact h.elim
 | al z k ih=>
   intro gt l A K h K6
   cases l with
   | nil=>exact⟨_,h⟩
   | cons o l=>
     obtain⟨dst,op,ty,pos,after,D5⟩:=o
     simp only[D8]at h
     split at h
     exact h.elim
     show F9 P N _ A _
     split at h
     split at h
     rename_i e
     simp only[Zam,Zbj]at e
     obtain⟨rfl,e⟩:=e
     exact tw rfl rfl (bW e) z.ok fun g=>ih g (h g)
     exact h.elim
     exact h.elim
 | bx k ih=>
   intro gt l A K h K6
   cases l with
   | nil=>exact⟨_,h⟩
   | cons o l=>
     obtain⟨dst,op,ty,pos,after,D5⟩:=o
     simp only[D8]at h
     split at h
     exact h.elim
     show F9 P N _ A _
     split at h
     split at h
     rename_i e
     simp only[Zam]at e
     exact KR rfl rfl (bW e.1) e.2 fun g=>ih g (h g)
     exact h.elim
     exact h.elim
 | st TD k ih=>
   intro gt l A K h K6
   cases l with
   | nil=>exact⟨_,h⟩
   | cons o l=>
     obtain⟨dst,op,ty,pos,after,D5⟩:=o
     simp only[D8]at h
     split at h
     exact h.elim
     show F9 P N _ A _
     split at h
     split at h
     rename_i i r p g g' e1 e2
     split at h
     split at h
     rename_i g2 T9 u e3
     split at h
     rename_i e4
     simp only[Zam,Zbj]at e4
     obtain⟨hq,h⟩:=h
     simp only[Zao]at hq
     obtain⟨rfl,rfl⟩:=hq
     exact zk rfl rfl e1 e2 e3 e4.1.1 e4.1.2 e4.2 (ih h)
     exact h.elim
     exact h.elim
     split at h
     rename_i u e4
     simp only[Zam,Zbj]at e4
     exact zk rfl rfl e1 e2 h.1 e4.1.1 e4.1.2 e4.2 (ih h.2)
     exact h.elim
     exact h.elim
     exact h.elim
 | ap k ih=>
   intro gt l A K h K6
   cases l with
   | nil=>exact⟨_,h⟩
   | cons o l=>
     obtain⟨dst,op,ty,pos,after,D5⟩:=o
     simp only[D8]at h
     split at h
     exact h.elim
     show F9 P N _ A _
     split at h
     split at h
     rename_i t e1 e2
     split at h
     rename_i e3 e4
     simp only[Zam,Zbj]at e1
     obtain⟨k1,k2,k3,k4,k5,k6⟩:=h
     obtain⟨e,e',q1,q2,q3,q4,q5,q6⟩:=kj e2
     exact Db rfl e1.1 rfl (bW e1.2) q1 q2 q3 (nO q4) q5 q6 e3 k1 e4 k2 k3 k4 k5 fun g o1 c=>ih g o1 c (k6 g o1 c)
     rename_i e3 e4
     split at h
     rename_i e5
     simp only[Zam,Zbj]at e1
     obtain⟨k1,k2,k3,k4,k5,k6⟩:=h
     obtain⟨e,e',q1,q2,q3,q4,q5,q6⟩:=kj e2
     exact Ak rfl e1.1 rfl (bW e1.2) q1 q2 q3 (nO q4) q5 q6 e5 k1.1 k1.2 e4 k2 k3 k4 k5 fun g o1 c=>ih g o1 c (k6 g o1 c)
     exact h.elim
     exact h.elim
     exact h.elim
     exact h.elim
 | bd z k ih=>
   intro gt l A K h K6
   cases l with
   | nil=>exact⟨_,h⟩
   | cons o l=>
     obtain⟨dst,op,ty,pos,after,D5⟩:=o
     simp only[D8]at h
     split at h
     exact h.elim
     split at h
     split at h
     rename_i zs e1 e2
     split at h
     rename_i v e3
     simp only[Zam,Zbj]at e1
     obtain⟨rfl,e1⟩:=e1
     have hz:=z.ok
     rw[e2]at hz
     exact IF zs v hz (ff e1) e3 (ih h)
     exact h.elim
     exact h.elim
     exact h.elim
 | bs k ih=>
   intro gt l A K h K6
   cases l with
   | nil=>exact⟨_,h⟩
   | cons o l=>
     obtain⟨dst,op,ty,pos,after,D5⟩:=o
     simp only[D8]at h
     split at h
     exact h.elim
     split at h
     split at h
     rename_i e e1
     split at h
     rename_i i vs e2 e3
     split at h
     rename_i e4
     simp only[Zam]at e4
     exact zw e i vs ⟨e1,e2⟩ (ff e4.2) e3 e4.1 (ih h)
     exact h.elim
     exact h.elim
     exact h.elim
     exact h.elim
 | Od bs k ih=>
   intro gt l A K h K6
   cases l with
   | nil=>exact⟨_,h⟩
   | cons o l=>
     obtain⟨dst,op,ty,pos,after,D5⟩:=o
     simp only[D8]at h
     split at h
     exact h.elim
     split at h
     split at h
     rename_i C ys e1 e2
     simp only[Zam]at e1
     obtain⟨hC,rfl,h⟩:=h
     obtain⟨e,q1,q2⟩:=xF e1.1.1
     exact BS e C bs ⟨q1,q2,ve e1.1.2⟩ (ff e1.2) e2 hC (ih h)
     exact h.elim
     exact h.elim
 | sb bs k ih=>
   intro gt l A K h K6
   cases l with
   | nil=>exact⟨_,h⟩
   | cons o l=>
     obtain⟨dst,op,ty,pos,after,D5⟩:=o
     simp only[D8]at h
     split at h
     exact h.elim
     split at h
     split at h
     rename_i e1
     simp only[Zam]at e1
     obtain⟨e,q1,q2⟩:=xF e1.1.2
     exact BF e bs ⟨ve e1.1.1,q1,q2⟩ (bW e1.2) h.1 fun g c=>ih g c (h.2 g c)
     exact h.elim
     exact h.elim
 | mm k ih=>
   intro gt l A K h K6
   cases l with
   | nil=>exact⟨_,h⟩
   | cons o l=>
     obtain⟨dst,op,ty,pos,after,D5⟩:=o
     simp only[D8]at h
     split at h
     exact h.elim
     split at h
     split at h
     rename_i kd p SI q e1 e2 e3
     obtain⟨rfl,h⟩:=h
     exact Mg _ p q (ff e3) e1 e2 (ih h)
     rename_i kd p SI q e1 e2 e3
     obtain⟨rfl,h⟩:=h
     exact LC _ p q (ff e3) e1 e2 (ih h)
     exact h.elim
     exact h.elim
 | rs k ih=>
   intro gt l A K h K6
   cases l with
   | nil=>exact⟨_,h⟩
   | cons o l=>
     obtain⟨dst,op,ty,pos,after,D5⟩:=o
     simp only[D8]at h
     split at h
     exact h.elim
     split at h
     split at h
     rename_i e1 e2 e3
     obtain⟨hq,⟨h1,h2,h3⟩,h⟩:=h
     simp only[Zao]at hq
     obtain⟨rfl,rfl,rfl,rfl⟩:=hq
     exact Ef _ _ _ _ (bW e3) e1 e2 h1 h2 h3 (ih h)
     exact h.elim
     exact h.elim
 | _=>
   intro gt l A K h K6
   cases l with
   | nil=>exact⟨_,h⟩
   | cons o l=>simp only[D8]at h;split at h <;> exact h.elim
end
section
variable {P:Program} {N:Nat} {ops:Array Oper} {A A' A1 B:AS}
def qd(P:Program)(N:Nat)(ops:Array Oper)(o:Oper)(A:AS)(v:V):Prop:=
 ∀ A':AS,(∀ t,t∈o.looksAt ops->A'.get t=A.get t)->gd ops o A' (F9 P N o A' (fun B=>D' B (A'.put o.dst v))) (cZ N o.dst/\∀ w Pb,RV w Pb v undef [])
theorem Bp{o:Oper}{x:Operand}(hg:o.guard=none)(ho:o.op=.assign x)(hd:cZ N o.dst)(hn:(A.ev x).dz=false):qd P N ops o A (A.ev x):=by
 intro A' h1
 unfold gd
 rw[hg]
 simp only
 have e1:A'.ev x=A.ev x:=bN fun t ht=>h1 t (fi (by rw[ho,ht];simp[Op.operands]))
 have e2:A'.drop x=A':=by
  cases x with
  | tmp t=>
    have e3:A'.get t=A.get t:=e1
    have PK:(A.get t).dz=false:=hn
    simp[AS.drop,e3,PK]
  | _=>rfl
 rw[<- e1]
 refine xa ho hd ?_
 rw[e2]
 exact⟨fun _=>rfl,fun _=>rfl⟩
theorem DM{d:Option Nat} {f:FuncId} {xs:Array Operand} {N2:Array TypeId} {ty:TypeId} {pos:String} {after:Array Edge}
 {Q:V->Prop} {E:V} (hd:cZ N d) (hc:PC P f (xs.toList.map A.cp) Q) (hE:∀ r,Q r->r.er=E):
 qd P N ops ⟨d,.call { callee:=.value (.func f),args:=xs,argTypes:=N2 },ty,pos,after,none⟩ A E:=fun A' h1=>by
 unfold gd
 refine qm rfl hd ?_ hE ⟨fun _=>rfl,fun _=>rfl⟩
 rw[tc fun t ht=>h1 t (fi (by simp[Op.operands,Call.operands];simpa using ht))]
 exact hc
theorem vJ{d:Option Nat} {T len ty:Nat} {e9:Array (Nat×Operand)} {pos:String} {after:Array Edge} (e:Nat) (i:TI) (vs:List V)
 (SO:tD P T=some (.sl e)/\ti P e=some i) (hd:cZ N d) (SN:fK A 0 e9.toList=some vs) (hB:Tz P T e len i vs=true):
 qd P N ops ⟨d,.buildSlice T len e9,ty,pos,after,none⟩ A (.sl true vs):=fun A' h1=>by
 show F9 P N _ A' _
 refine Gn rfl hd SO.1 SO.2 ?_ hB ⟨fun _=>rfl,fun _=>rfl⟩
 rw[ql (A:=A) _ _ (fun t ht=>h1 t (fi (by simpa[Op.operands] using ht)))]
 exact SN
theorem BE{d:Option Nat} {T ty:Nat} {e9:Array (Nat×Operand)} {pos:String} {after:Array Edge} (zs:List V) (v:V)
 (hz:pq P T (.agg zs)) (hd:cZ N d) (hb:nN P A T zs e9.toList=some v):qd P N ops ⟨d,.build T e9,ty,pos,after,none⟩ A v:=fun A' h1=>by
 show F9 P N _ A' _
 have e:nN P A' T zs e9.toList=some v:=by
  rw[<- hb]
  unfold nN
  have:(e9.toList.map fun (i,x)=>(i,A'.cp x))=e9.toList.map fun (i,x)=>(i,A.cp x):=by
   apply List.map_congr_left
   rintro⟨i,x⟩ hx
   simp only
   rw[mF (x:=x) fun t ht=>h1 t (fi (by
    subst ht
    simp only[Op.operands,List.mem_map]
    exact⟨(i,.tmp t),hx,rfl⟩))]
  rw[this]
 obtain⟨C,k1,k2⟩:=zb e
 exact yN rfl hd hz k1 k2 ⟨fun _=>rfl,fun _=>rfl⟩
theorem yj{d:Option Nat} {src dst ty:Nat} {x:Operand} {pos:String} {after:Array Edge} (e:Nat) (full:Bool) (bs:BL)
 (ht:tD P src=some (.sl e)/\tD P e=some (.int .u8)/\tD P dst=some .str) (hd:cZ N d) (hx:A.ev x=.sl full (bs.map n7)):
 qd P N ops ⟨d,.convert src dst x,ty,pos,after,none⟩ A (sV bs):=fun A' h1=>by
 show F9 P N _ A' _
 have e1:A'.ev x=.sl full (bs.map n7):=by rw[<- hx];exact bN fun t ht=>h1 t (fi (by rw[ht];simp[Op.operands]))
 exact sS rfl hd ht.1 ht.2.1 ht.2.2 (C:=True) (by simp only[Qg,e1]) trivial ⟨fun _=>rfl,fun _=>rfl⟩
def jW(b:Option (Sum Nat (Nat×List Nat)))(B:AS):AS:=match b with
 | none=>B
 | some (.inl t)=>B.put (some t) .b9
 | some (.inr (k,p))=>B.setAt (.key k) p .b9
def W3(A:AS)(s:Operand)(sz:Nat):Option (Prop×Option (Sum Nat (Nat×List Nat))×List V):=
 match s with
 | .const (.slice none 0 0)=>some (True,none,[])
 | .tmp t=>match A.get t with
   | .sl true []=>some (True,none,[])
   | .own L2 xs _ _ _=>some (L2=sz,some (.inl t),xs)
   | .hd (.slot i) [] L2 g o 0 n c=>match A.get i with
     | .own OS xs g2 o2 c2=>some ((L2,OS,g2,o2,c2,n)=(sz,sz,g,o,c,xs.length),some (.inl i),xs)
     | _=>none
   | .hd (.key k) p L2 g o 0 n c=>match A.at (.key k) p with
     | some (_,_,.own OS xs g2 o2 c2)=>some ((L2,OS,g2,o2,c2,n)=(sz,sz,g,o,c,xs.length),some (.inr (k,p)),xs)
     | _=>none
   | _=>none
 | _=>none
theorem JT{s:Operand}{sz:Nat}{C:Prop}{b:Option (Sum Nat (Nat×List Nat))}{xs:List V}(h:W3 A s sz=some (C,b,xs)):W4 A s sz=some (C,jW b A,xs):=by
 have fin:∀ {C':Prop} {b':Option (Sum Nat (Nat×List Nat))} {xs':List V},some (C',b',xs')=some (C,b,xs)->some (C',jW b' A,xs')=some (C,jW b A,xs):=fun h=>by
  have h:=Option.some.inj h;have h1:=(Prod.mk.inj h).1;have h2:=(Prod.mk.inj (Prod.mk.inj h).2).1;have h3:=(Prod.mk.inj (Prod.mk.inj h).2).2;rw[h1,h2,h3]
 unfold W3 at h
 unfold W4
 split at h
 exact fin h
 split at h
 rename_i e;(try simp only[e]);exact fin h
 rename_i e;(try simp only[e]);exact fin h
 rename_i e;(try simp only[e])
 split at h
 rename_i e2;(try simp only[e2]);exact fin h
 simp at h
 rename_i e;(try simp only[e])
 split at h
 rename_i e2;(try simp only[e2]);exact fin h
 simp at h
 simp at h
 simp at h
def qG(s:Operand)(Sl El Hl:List Nat):Option (Sum Nat (Nat×List Nat))->Bool
 | none=>true
 | some (.inl t)=>Sl.contains t&&(match s with | .tmp q=>q==t||El.contains t | _=>false)
 | some (.inr (k,_))=>Hl.contains k
theorem Gz{s:Operand} {sz:Nat} {C:Prop} {b:Option (Sum Nat (Nat×List Nat))} {xs:List V} {Sl El Hl:List Nat} (h:W3 A s sz=some (C,b,xs)) (hb:qG s Sl El Hl b=true)
 (h1:∀ t,s=.tmp t->A'.get t=A.get t) (h2:∀ t,t∈El->A'.get t=A.get t) (h3:∀ k,lk k A'.h=lk k A.h):W3 A' s sz=some (C,b,xs):=by
 unfold W3 at h ⊢
 split at h
 exact h
 rename_i t
 have hg:=h1 t rfl
 have hk:∀ k p,A'.at (.key k) p=A.at (.key k) p:=fun k p=>by simp only[AS.at,h3]
 simp only[hg,hk]
 split at h
 exact h
 exact h
 rename_i i L2 g o n c e
 split at h
 rename_i OS xs2 g2 o2 c2 e2
 have:A'.get i=A.get i:=by
  simp only[Zal]at h
  obtain⟨_,h⟩:=Prod.mk.inj h;obtain⟨rfl,_⟩:=Prod.mk.inj h
  simp only[qG,Zam,Bool.or_eq_true,Zbj]at hb
  rcases hb.2 with q | q
  rw[<- q];exact hg
  exact h2 i (by simpa using q)
 simp only[this,e2];exact h
 simp at h
 exact h
 simp at h
 simp at h
def DF(P:Program)(N:Nat)(Sl El Hl:List Nat)(o:Oper)(A:AS)(z:Option (ZT P)):Option (Prop×(Nat×Nat×Nat->AS->AS)):=
 match o.op,o.dst with
 | .alloc T,some d=>match z with
   | some z=>match T==z.T&&Nat.blt d N&&Sl.contains d&&Hl.contains d with
     | true=>some (True,fun gh B=>⟨(d,.ptr (.key d) [] gh.1 0)::B.t,(d,(gh.1,z.v))::B.h⟩)
     | false=>none
   | none=>none
 | .call ⟨.builtin .append,⟨[s,x]⟩,⟨[T,T2]⟩⟩,some d=>match o.type==T&&Nat.blt d N&&Sl.contains d,pb P T T2 with
   | true,some t=>match W3 A s t.sz,A.ev x with
     | some (C,b,xs),.sl _ ys=>match qG s Sl El Hl b with
       | true=>some (C/\V.aK ys=false/\aM t.sz ys/\(xs.length+ys.length)*t.Od<=140737488355328,fun gh B=>(jW b B).put (some d) (.own t.sz (xs++ys) gh.1 gh.2.1 gh.2.2))
       | false=>none
     | none,.sl _ ys=>match Wg A s t.sz with
       | some (C,xs)=>some ((C/\0<ys.length)/\V.aK ys=false/\aM t.sz ys/\(xs.length+ys.length)*t.Od<=140737488355328,fun gh B=>B.put (some d) (.own t.sz (xs++ys) gh.1 gh.2.1 gh.2.2))
       | none=>none
     | _,_=>none
   | _,_=>none
 | .load T x,some d=>match ti P T,A.ev x with
   | some i,.ptr (.key k) p g g'=>match A.at (.key k) p with
     | some (g2,T9,u)=>match Nat.blt d N&&u.n==i.sz&&i.d.agg==u.isAgg&&Sl.contains d&&Hl.contains k with
       | true=>some ((g2,T9)=(g,g'),fun _ B=>(B.setAt (.key k) p u.kill).put (some d) u)
       | false=>none
     | none=>none
   | _,_=>none
 | _,_=>none
theorem cK{k:Nat}{p:List Nat}{v:V}{t:Nat}:(B.setAt (.key k) p v).get t=B.get t:=by
 simp only[AS.setAt];split <;> rfl
theorem vb{k q:Nat}{p:List Nat}{v:V}(h:q≠k):lk q (B.setAt (.key k) p v).h=lk q B.h:=by
 simp only[AS.setAt];split
 simp only[lk];rw[if_neg h]
 rfl
theorem jG{k q:Nat}{p:List Nat}{v:V}{B':AS}(h:∀ k,lk k B.h=lk k B'.h):lk q (B.setAt (.key k) p v).h=lk q (B'.setAt (.key k) p v).h:=by
 simp only[AS.setAt]
 rw[<- h k]
 split
 simp only[lk];split
 rfl
 exact h q
 exact h q
theorem oS{B C:AS}{d:Option Nat}{v:V}(h:D' B C):D' (B.put d v) (C.put d v):=by
 cases d with
 | none=>exact h
 | some d'=>exact⟨fun t=>by rw[AS.aJ,AS.aJ];split
                            rfl
                            exact h.1 t,h.2⟩
theorem sq{k k0:Nat}{p:List Nat}{v:V}{gv:Nat×V}(h:k≠k0):D' (AS.setAt ⟨B.t,(k,gv)::B.h⟩ (.key k0) p v) ⟨(B.setAt (.key k0) p v).t,(k,gv)::(B.setAt (.key k0) p v).h⟩:=by
 have e:lk k0 ((k,gv)::B.h)=lk k0 B.h:=by simp only[lk];rw[if_neg (Ne.symm h)]
 simp only[AS.setAt,e]
 split
 refine⟨fun _=>rfl,fun x=>?_⟩
 simp only[lk]
 by_cases c:x=k
 rw[if_pos c,if_neg (fun c2=>h (c.symm.trans c2)),if_pos c]
 rw[if_neg c,if_neg c]
 exact⟨fun _=>rfl,fun _=>rfl⟩
theorem vz{A B:AS}{k:Nat}{gv:Nat×V}{d:Nat}{v:V}(h:D' A ⟨B.t,(k,gv)::B.h⟩):D' (A.put (some d) v) ⟨(B.put (some d) v).t,(k,gv)::(B.put (some d) v).h⟩:=oS h
theorem KB{Sl El Hl:List Nat}{o:Oper}{z:Option (ZT P)}{C:Prop}{U:Nat×Nat×Nat->AS->AS}(h:DF P N Sl El Hl o A z=some (C,U))(hC:C)(d:Nat)(hd:o.dst=some d):
 UOk U Sl Hl d/\Nf P N ops El U o A:=by
 obtain⟨dst,op,ty,pos,after,D5⟩:=o
 simp only at hd;subst hd
 unfold DF at h
 simp only at h
 split at h
 rename_i T d' e
 simp only[Zal]at e;subst e
 split at h
 rename_i z
 split at h
 rename_i e
 simp only[Zal,Zao]at h
 obtain⟨_,rfl⟩:=h
 simp only[Zam,Zbj,Zbg,Zbi]at e
 obtain⟨⟨⟨rfl,e1⟩,e2⟩,e3⟩:=e
 refine⟨⟨fun gh B t ht=>?_,fun gh B k hk=>?_,fun gh B B' hB=>⟨fun t=>?_,fun k=>?_⟩,fun gh B t v ht=>⟨fun q=>?_,fun k=>rfl⟩,fun gh B v=>⟨fun q=>?_,fun k=>rfl⟩,fun gh B k gv hq=>?_⟩,fun A' _ _ K hK=>?_⟩
 simp only[AS.get,lk];rw[if_neg (fun c=>ht (by rw[c];exact e2))]
 simp only[lk];rw[if_neg (fun c=>hk (by rw[c];exact e3))]
 simp only[AS.get,lk];split
 rfl
 exact hB.1 t
 simp only[lk];split
 rfl
 exact hB.2 k
 simp only[AS.put,AS.get,lk]
 by_cases c:q=d
 subst c;rw[if_pos rfl,if_neg (fun c=>ht (by rw[<- c];exact e2)),if_pos rfl]
 rw[if_neg c,if_neg c]
 simp only[AS.put,AS.get,lk]
 by_cases c:q=d
 subst c;simp
 rw[if_neg c,if_neg c,if_neg c]
 refine⟨fun _=>rfl,fun x=>?_⟩
 simp only[lk]
 by_cases c:x=d
 rw[if_pos c,if_neg (fun c2=>hq (by rw[<- c2,c];exact e3)),if_pos c]
 rw[if_neg c,if_neg c]
 exact tw rfl rfl (bW e1) z.ok fun g=>hK (g,0,0)
 simp at h
 simp at h
 rename_i s x T T2 d' e
 simp only[Zal]at e;subst e
 split at h
 rename_i t e1 e2
 split at h
 rename_i Cb b xs fl ys e3 e4
 split at h
 rename_i e5
 simp only[Zal,Zao]at h
 obtain⟨rfl,rfl⟩:=h
 simp only[Zam,Zbj,Zbg,Zbi]at e1
 obtain⟨⟨rfl,e1⟩,e6⟩:=e1
 obtain⟨k1,k3,k4,k5⟩:=hC
 have tg:∀ (B:AS) t,t ∉ Sl->(jW b B).get t=B.get t:=fun B t ht=>by
  cases b with
  | none=>rfl
  | some b=>cases b with
    | inl q=>
      simp only[qG,Zam,Zbg,Zbi]at e5
      simp only[jW];rw[AS.aJ,if_neg (fun c=>ht (by rw[c];exact e5.1))]
    | inr kp=>simp only[jW];exact cK
 have YH:∀ (B B':AS) t,B.get t=B'.get t->(jW b B).get t=(jW b B').get t:=fun B B' t ht=>by
  cases b with
  | none=>exact ht
  | some b=>cases b with
    | inl q=>simp only[jW];rw[AS.aJ,AS.aJ,ht]
    | inr kp=>simp only[jW];rw[cK,cK];exact ht
 have th:∀ (B B':AS) k,(∀ k,lk k B.h=lk k B'.h)->lk k (jW b B).h=lk k (jW b B').h:=fun B B' k hk=>by
  cases b with
  | none=>exact hk k
  | some b=>cases b with
    | inl q=>exact hk k
    | inr kp=>exact jG hk
 refine⟨⟨fun gh B q hq=>?_,fun gh B k hk=>?_,fun gh B B' hB=>?_,fun gh B q v hq=>⟨fun q2=>?_,fun k=>th _ _ k fun _=>rfl⟩,fun gh B v=>⟨fun q=>?_,fun k=>th _ _ k fun _=>rfl⟩,fun gh B k gv hq=>?_⟩,fun A' h1 h2 K hK=>?_⟩
 rw[AS.aJ,if_neg (fun c=>hq (by rw[c];exact e6))];exact tg B q hq
 show lk k (jW b B).h=_
 cases b with
 | none=>rfl
 | some b=>cases b with
   | inl q=>rfl
   | inr kp=>
     obtain⟨k0,p0⟩:=kp
     simp only[qG,Zbg,Zbi]at e5
     exact vb (fun c=>hk (by rw[c];exact e5))
 exact oS ⟨fun q=>YH _ _ q (hB.1 q),fun k=>th _ _ k hB.2⟩
 rw[AS.aJ,AS.aJ,AS.aJ]
 by_cases c:q2=d
 subst c;rw[if_pos rfl,if_neg (fun c=>hq (by rw[<- c];exact e6)),if_pos rfl]
 rw[if_neg c]
 by_cases c2:q2=q
 subst c2;rw[if_pos rfl,tg _ _ hq,AS.aJ,if_pos rfl]
 rw[if_neg c2,if_neg c];exact YH _ _ _ (by rw[AS.aJ,if_neg c2])
 rw[AS.aJ,AS.aJ]
 by_cases c:q=d
 rw[if_pos c,if_pos c]
 rw[if_neg c,if_neg c];exact YH _ _ _ (by rw[AS.aJ,if_neg c])
 refine vz ?_
 cases b with
 | none=>exact⟨fun _=>rfl,fun _=>rfl⟩
 | some b=>cases b with
   | inl q=>exact⟨fun _=>rfl,fun _=>rfl⟩
   | inr kp=>
     obtain⟨k0,p0⟩:=kp
     simp only[qG,Zbg,Zbi]at e5
     exact sq (fun c=>hq (by rw[c];exact e5))
 obtain⟨e,e',q1,q2,q3,q4,q5,q6⟩:=kj e2
 have hs:∀ t,s=.tmp t->A'.get t=A.get t:=fun t ht=>h1 t (.inl (fi (by subst ht;simp[Op.operands,Call.operands])))
 have hx:A'.ev x=A.ev x:=bN fun t ht=>h1 t (.inl (fi (by subst ht;simp[Op.operands,Call.operands])))
 have Sf:=JT (Gz e3 e5 hs (fun t ht=>h1 t (.inr ht)) h2)
 exact Db rfl rfl rfl (bW e1) q1 q2 q3 (nO q4) q5 q6 Sf k1 (by unfold Qg;rw[hx,e4]) trivial k3 k4 k5 fun g o1 c=>hK (g,o1,c)
 simp at h
 rename_i fl ys e3 e4
 split at h
 rename_i C0 xs e5
 simp only[Zal,Zao]at h
 obtain⟨rfl,rfl⟩:=h
 simp only[Zam,Zbj,Zbg,Zbi]at e1
 obtain⟨⟨rfl,e1⟩,e6⟩:=e1
 obtain⟨⟨k1,k2⟩,k3,k4,k5⟩:=hC
 refine⟨⟨fun gh B q hq=>?_,fun gh B k hk=>rfl,fun gh B B' hB=>oS hB,fun gh B q v hq=>⟨fun q2=>?_,fun k=>rfl⟩,fun gh B v=>⟨fun q=>?_,fun k=>rfl⟩,fun gh B k gv hq=>⟨fun _=>rfl,fun _=>rfl⟩⟩,fun A' h1 h2 K hK=>?_⟩
 rw[AS.aJ,if_neg (fun c=>hq (by rw[c];exact e6))]
 rw[AS.aJ,AS.aJ,AS.aJ,AS.aJ]
 by_cases c:q2=d
 subst c;rw[if_pos rfl,if_neg (fun c=>hq (by rw[<- c];exact e6)),if_pos rfl]
 rw[if_neg c,if_neg c]
 rw[AS.aJ,AS.aJ,AS.aJ]
 split <;> rfl
 obtain⟨e,e',q1,q2,q3,q4,q5,q6⟩:=kj e2
 have hs:Wg A' s t.sz=Wg A s t.sz:=by
  cases s with
  | tmp q=>simp only[Wg,h1 q (.inl (fi (by simp[Op.operands,Call.operands])))]
  | _=>rfl
 have hx:A'.ev x=A.ev x:=bN fun t ht=>h1 t (.inl (fi (by subst ht;simp[Op.operands,Call.operands])))
 exact Ak rfl rfl rfl (bW e1) q1 q2 q3 (nO q4) q5 q6 (by rw[hs];exact e5) k1 k2 (by unfold Qg;rw[hx,e4]) trivial k3 k4 k5 fun g o1 c=>hK (g,o1,c)
 simp at h
 simp at h
 simp at h
 rename_i T x d' e
 simp only[Zal]at e;subst e
 split at h
 rename_i i k p g g' e1 e2
 split at h
 rename_i g2 T9 u e3
 split at h
 rename_i e4
 simp only[Zal]at h
 obtain⟨hq,rfl⟩:=Prod.mk.inj h
 subst hq
 obtain⟨rfl,rfl⟩:=Prod.mk.inj hC
 simp only[Zam,Zbj,Zbg,Zbi]at e4
 obtain⟨⟨⟨⟨e4,e5⟩,e6⟩,e7⟩,e8⟩:=e4
 refine⟨⟨fun gh B q hq=>?_,fun gh B q hq=>?_,fun gh B B' hB=>?_,fun gh B q v hq=>⟨fun q2=>?_,fun k=>jG fun _=>rfl⟩,fun gh B v=>⟨fun q=>?_,fun k=>jG fun _=>rfl⟩,fun gh B k gv hq=>vz (sq (fun c=>hq (by rw[c];exact e8)))⟩,fun A' h1 h2 K hK=>?_⟩
 rw[AS.aJ,if_neg (fun c=>hq (by rw[c];exact e7))];exact cK
 exact vb (fun c=>hq (by rw[c];exact e8))
 exact oS ⟨fun q=>by rw[cK,cK];exact hB.1 q,fun k=>jG hB.2⟩
 rw[AS.aJ,AS.aJ,AS.aJ]
 by_cases c:q2=d
 subst c;rw[if_pos rfl,if_neg (fun c=>hq (by rw[<- c];exact e7)),if_pos rfl]
 rw[if_neg c]
 by_cases c2:q2=q
 subst c2;rw[if_pos rfl,cK,AS.aJ,if_pos rfl]
 rw[if_neg c2,if_neg c,cK,cK,AS.aJ,if_neg c2]
 rw[AS.aJ,AS.aJ]
 by_cases c:q=d
 rw[if_pos c,if_pos c]
 rw[if_neg c,if_neg c,cK,cK,AS.aJ,if_neg c]
 have hx:A'.ev x=A.ev x:=bN fun t ht=>h1 t (.inl (fi (by subst ht;simp[Op.operands])))
 exact wX rfl rfl (bW e4) e1 (by rw[hx];exact e2) (by simp only[AS.at,h2];simpa only[AS.at] using e3) e5 e6 (hK (0,0,0))
 simp at h
 simp at h
 simp at h
 simp at h
end
section
variable {P:Program} {N:Nat} {ops:Array Oper} {A A' A1 B:AS} {sp:Nat} {Sl El Hl:List Nat} {U:Nat×Nat×Nat->AS->AS}
theorem Kf{d:Option Nat}{xs:Array Operand}{N2:Array TypeId}{ty:TypeId}{pos:String}{after:Array Edge}(c:o6 P)(hd:cZ N d)(hH:c.H=[])(k1:O7 (xs.toList.map A.cp) c.args=c.args)(k2:c.pre):
 qd P N ops ⟨d,.call { callee:=.value (.func c.f),args:=xs,argTypes:=N2 },ty,pos,after,none⟩ A c.res.er:=by
 have hc:=c.ok k2
 rw[hH]at hc
 have hp:=hc.Du
 refine DM (Q:=fun r=>r=c.res) hd ?_ (fun r hr=>by rw[hr])
 refine⟨hp.1,fun w Pb cargs q1 q2=>?_⟩
 refine(hp.2 w Pb cargs q1 (by have:=qz _ c.args q2;rw[k1]at this;exact this)).mono ?_
 rintro e w' ⟨r,x,F,Pb',rfl,⟨H,q,_⟩,rest⟩
 exact⟨r,x,F,Pb',rfl,q,rest⟩
end
def hdP(A:AS)(l:List Nat)(k:Nat):List Nat->Bool
 | [i]=>Nat.blt i 100&&l.contains (hM+(100*k+i))&&(Ov A.h (100*k+i)).isSome
 | _=>false
def Xi(Hl prom:List Nat):Bool:=Hl.all fun x=>Nat.blt x hM||prom.contains (x-hM)
theorem vV{Hl prom:List Nat}{q:Nat}(h:Xi Hl prom=true)(hq:hM+q∈Hl):q∈prom:=by
 have:=Za0.1 h _ hq
 rw[Bool.or_eq_true]at this
 rcases this with h | h
 exfalso
 have:hM+q<hM:=by simpa[Nat.blt_eq] using h
 omega
 rw[Nat.add_sub_cancel_left]at h
 simpa using h
def DS(a b:List Nat):Bool:=a.all fun x=>b.contains x&&Nat.blt x hM
theorem JD{a b:List Nat}{A A':AS}(h:DS a b=true)(h2:Ud A' A (some b)):∀ k,k∈a->lk k A'.h=lk k A.h:=fun k hk=>by
 have:=Za0.1 h k hk
 rw[Zam]at this
 have h3:=h2 k (by simpa using this.1)
 unfold RR at h3
 rw[if_pos this.2]at h3
 exact h3
theorem FU{A:AS}{k i g o n:Nat}{v:V}(h:Ov A.h (100*k+i)=some (g,o,v,n))(hi:i<100):∃ sz xs g1 o1 c,v=.own sz [] g1 o1 c/\n=xs.length/\A.at (.key k) [i]=some (g,o,.own sz xs g1 o1 c):=by
 unfold Ov at h
 rw[show (100*k+i) / 100=k from Zaa,show (100*k+i) % 100=i from Zaa]at h
 split at h
 rename_i g0 v0 e
 split at h
 rename_i g' o' sz xs g1 o1 c e2
 simp only[Zal,Zao]at h
 obtain⟨rfl,rfl,rfl,rfl⟩:=h
 exact⟨sz,xs,g1,o1,c,rfl,rfl,by simp only[AS.at,e,e2]⟩
 cases h
 cases h
theorem KF{A A':AS}{k i g o:Nat}{T:TI}(h:Ov A'.h (100*k+i)=Ov A.h (100*k+i))(hi:i<100)(hs:(Ov A.h (100*k+i)).isSome=true):
 mi A' (some T) (.ptr (.key k) [i] g o)=mi A (some T) (.ptr (.key k) [i] g o):=by
 obtain⟨⟨g1,o1,v,n⟩,e⟩:=Option.isSome_iff_exists.1 hs
 obtain⟨sz,xs,g2,o2,c,rfl,rfl,e1⟩:=FU e hi
 obtain⟨L2,xs',T9,o2',c',h1,h2,e2⟩:=FU (h.trans e) hi
 cases h1
 simp only[mi,e1,e2,V.R4,h2,V.n,V.isAgg]
def oG(El:List Nat)(fr:Option (List Nat))(A:AS):Op->Bool
 | .load _ x=>match A.ev x with
   | .ptr (.slot i) _ _ _=>El.contains i
   | .ptr (.key k) p _ _=>match fr with
     | none=>true
     | some l=>(Nat.blt k hM&&l.contains k)||hdP A l k p
   | _=>true
 | _=>true
def fS(A:AS):List Operand->List Nat
 | []=>[]
 | x::xs=>match x with
   | .tmp t=>match (A.get t).dz with
     | true=>t::fS (A.drop x) xs
     | false=>fS (A.drop x) xs
   | _=>fS (A.drop x) xs
def lv(ts:List Nat)(A:AS):AS:=⟨ts.map (fun t=>(t,V.b9))++A.t,A.h⟩
def sub(a b:List Nat):Bool:=a.all fun x=>b.contains x
def yl(ops:Array Oper)(tb:List (Nat×Ry)){P:Program}(zs:List (Nat×ZT P))(i:Nat)(o:Oper):Bool:=
 (lk i zs).isNone&&!(bM ops tb i).XZ&&(bM ops tb i).Sl==o.dst.toList&&(bM ops tb i).Hl==[]
def pD(P:Program)(N:Nat)(ops:Array Oper)(tb:List (Nat×Ry))(zs:List (Nat×ZT P)):Nat->List Nat->List V->AS->Option (Prop×AS)
 | 0,_,_,A=>some (True,A)
 | _+1,[],_,A=>some (True,A)
 | n+1,i::rest,z7,A=>
   match ops[i]? with
   | none=>none
   | some o=>match yl ops tb zs i o with
     | false=>none
     | true=>match o.dst with
       | none=>none
       | some d=>if d<N then
         match o.guard with
         | some (j,b)=>match Py A ops j b with
           | some G=>match AS.un G (jV o.op) A with
             | (C0,B)=>match sY P B o.op z7 with
               | some (C,v,z7)=>if (Rm N (jV o.op)&&!v.iU&&oG (bM ops tb i).El (bM ops tb i).fr B o.op)=true then match pD P N ops tb zs n rest z7 (A.put (some d) (.gv G v)) with
                 | some (C',A')=>some ((G=true->C0/\C)/\C',A')
                 | none=>none else none
               | none=>none
           | none=>none
         | none=>match o.op with
           | .assign x=>if (A.ev x).dz=false then pD P N ops tb zs n rest z7 (A.put (some d) (A.ev x)) else none
           | op=>if oG (bM ops tb i).El (bM ops tb i).fr A op=true then match sY P A op z7 with
             | some (C,v,z7)=>match pD P N ops tb zs n rest z7 (A.put (some d) v) with
               | some (C',A')=>if nY op=true then some (C',A') else some (C/\C',A')
               | none=>none
             | none=>none else none
         else none
def qa(P:Program)(N:Nat)(ops:Array Oper)(tb:List (Nat×Ry))(zs:List (Nat×ZT P)):Nat->List Nat->List V->AS->Option (List Prop×AS)
 | 0,_,_,A=>some ([],A)
 | _+1,[],_,A=>some ([],A)
 | n+1,i::rest,z7,A=>
   match ops[i]? with
   | none=>none
   | some o=>match yl ops tb zs i o with
     | false=>none
     | true=>match o.dst with
       | none=>none
       | some d=>if d<N then
         match o.guard with
         | some (j,b)=>match Py A ops j b with
           | some G=>match R9 G (j,b) [] (jV o.op) A with
             | (C0,B)=>match sY P B o.op z7 with
               | some (C,v,z7)=>if (Rm N (jV o.op)&&!v.iU&&oG (bM ops tb i).El (bM ops tb i).fr B o.op)=true then match qa P N ops tb zs n rest z7 (A.put (some d) (.gv G v)) with
                 | some (C',A')=>some (C0++(if nY o.op=true then C' else (G=true->C)::C'),A')
                 | none=>none else none
               | none=>none
           | none=>none
         | none=>match o.op with
           | .assign x=>if (A.ev x).dz=false then qa P N ops tb zs n rest z7 (A.put (some d) (A.ev x)) else none
           | op=>if oG (bM ops tb i).El (bM ops tb i).fr A op=true then match sY P A op z7 with
             | some (C,v,z7)=>match qa P N ops tb zs n rest z7 (A.put (some d) v) with
               | some (C',A')=>if nY op=true then some (C',A') else some (C::C',A')
               | none=>none
             | none=>none else none
         else none
section
variable {P:Program} {N:Nat} {ops:Array Oper} {tb:List (Nat×Ry)} {zs:List (Nat×ZT P)}
theorem rI:∀ (n:Nat) {l:List Nat} {z7:List V} {A A':AS} {cs:List Prop},qa P N ops tb zs n l z7 A=some (cs,A')->(∀ c,c∈cs->c)->∃ C,pD P N ops tb zs n l z7 A=some (C,A')/\C
 | 0,l,z7,A,A',cs,h,hc=>by
   simp only[qa,Zal,Zao]at h
   obtain⟨_,rfl⟩:=h
   exact⟨True,by simp only[pD],trivial⟩
 | n+1,[],z7,A,A',cs,h,hc=>by
   simp only[qa,Zal,Zao]at h
   obtain⟨_,rfl⟩:=h
   exact⟨True,by simp only[pD],trivial⟩
 | n+1,i::l,z7,A,A',cs,h,hc=>by
   unfold qa at h
   unfold pD
   split at h
   cases h
   rename_i o ho
   simp only[ho]
   split at h
   cases h
   rename_i hv
   split at h
   cases h
   rename_i d hd
   split at h
   case isFalse=>cases h
   rename_i TW
   simp only[hd,if_pos TW]
   split at h
   rename_i j b hg
   split at h
   rename_i G hG
   split at h
   rename_i C0 B hu
   split at h
   rename_i C v Qi hs
   split at h
   rename_i hk
   split at h
   rename_i C' A1 hr
   simp only[Zal,Zao]at h
   obtain⟨rfl,rfl⟩:=h
   obtain⟨C1,e1,e2⟩:=nW (jV o.op) (fun t ht=>by simp at ht) hu (fun c Tc=>hc c (List.mem_append_left _ Tc))
   obtain⟨C2,e3,e4⟩:=rI n hr (fun c Tc=>hc c (List.mem_append_right _ (by split <;> simp[Tc])))
   simp only[hG,e1,hs,if_pos hk,e3]
   refine⟨_,rfl,fun OK=>⟨e2,?_⟩,e4⟩
   by_cases ht:nY o.op=true
   exact oJ ht hs
   exact hc (G=true->C) (List.mem_append_right _ (by rw[if_neg ht];exact List.mem_cons_self ..)) OK
   cases h
   cases h
   cases h
   cases h
   · rename_i hg
     split at h
     rename_i x hx
     split at h
     rename_i ho
     obtain⟨C,e1,e2⟩:=rI n h hc
     simp only[hx,if_pos ho]
     exact⟨C,e1,e2⟩
     cases h
     · rename_i hx
       split at h
       case isFalse=>cases h
       rename_i Yf
       split at h
       rename_i C v Qi hs
       split at h
       rename_i C' A1 hr
       have key:(∀ c,c∈C'->c)/\C/\A1=A':=by
        split at h
        rename_i ht
        simp only[Zal,Zao]at h
        obtain⟨rfl,rfl⟩:=h
        exact⟨hc,oJ ht hs,rfl⟩
        simp only[Zal,Zao]at h
        obtain⟨rfl,rfl⟩:=h
        exact⟨fun c Tc=>hc c (List.mem_cons_of_mem _ Tc),hc _ (List.mem_cons_self ..),rfl⟩
       obtain⟨k1,k2,rfl⟩:=key
       obtain⟨C2,e3,e4⟩:=rI n hr k1
       simp only[if_pos Yf,hs,e3]
       split
       exact⟨_,rfl,e4⟩
       exact⟨_,rfl,k2,e4⟩
       cases h
       cases h
end
def lz(d:Option Nat)(ts:List Nat)(ks:List (Nat×Nat))(r:V)(H:List (Nat×(Nat×V)))(A:AS):AS:=((lv ts A).back ks H).put d r
def Oy{P:Program}(N:Nat)(ops:Array Oper)(tb:List (Nat×Ry))(zs:List (Nat×ZT P)):Sc P->List Nat->AS->(AS->Sc P->Prop)->Prop
 | s,[],A,K=>K A s
 | .r n z7 k,l,A,K=>match qa P N ops tb zs n l z7 A with
   | some (C,A')=>cj C (Oy N ops tb zs k (l.drop n) A' K)
   | none=>False
 | .h x k,i::l,A,K=>match x with
   | .n8 t v=>A.get t=v/\Oy N ops tb zs k (i::l) (A.put (some t) v) K
   | .C7 q v=>match lk q A.h with
     | some (g,u)=>u=v/\Oy N ops tb zs k (i::l) ⟨A.t,(q,(g,v))::A.h⟩ K
     | none=>False
   | _=>False
 | .ua k,i::l,A,K=>match ops[i]?,lk i zs with
   | some o,some z=> ∀ g,Oy N ops tb zs (k g) l (Qu (o.dst.getD 0) z.v g A) K
   | _,_=>False
 | .cg c k,i::l,A,K=>match ops[i]?,lk i zs with
   | some o,none=>match yl ops tb zs i o,o.op,o.guard with
     | true,.call ⟨.value (.func f),xs,_⟩,some (j,b)=>match f==c.f&&Qq N o.dst&&Rm N xs.toList&&!c.res.er.iU&&!c.res.er.dz,c.H,Py A ops j b with
       | true,[],some G=>match R9 G (j,b) [] xs.toList A with
         | (C,B)=>cj C ((G=true->c.pre/\O7 (xs.toList.map B.cp) c.args=c.args)/\Oy N ops tb zs k l (A.put o.dst (.gv G c.res.er)) K)
       | _,_,_=>False
     | _,_,_=>False
   | _,_=>False
 | s,i::l,A,K=>match ops[i]?,lk i zs with
   | none,_=>False
   | _,some _=>False
   | some o,none=>match o.guard with
     | some _=>False
     | none=>match (bM ops tb i).XZ with
       | false=>match yl ops tb zs i o with
         | true=>match s with
           | .c c _ k=>match o.op with
             | .call ⟨.value (.func f),xs,_⟩=>match f==c.f&&Qq N o.dst,c.H with
               | true,[]=>O7 (xs.toList.map A.cp) c.args=c.args/\c.pre/\Oy N ops tb zs k l (A.put o.dst c.res.er) K
               | _,_=>False
             | _=>False
           | .bd z k=>match o.op with
             | .build T e9=>match T==z.T&&Qq N o.dst,z.v with
               | true,.agg us=>match nN P A T us e9.toList with
                 | some v=>Oy N ops tb zs k l (A.put o.dst v) K
                 | none=>False
               | _,_=>False
             | _=>False
           | .bs k=>match o.op with
             | .buildSlice T len e9=>match tD P T with
               | some (.sl e)=>match ti P e,fK A 0 e9.toList with
                 | some t,some vs=>match Tz P T e len t vs&&Qq N o.dst with
                   | true=>Oy N ops tb zs k l (A.put o.dst (.sl true vs)) K
                   | false=>False
                 | _,_=>False
               | _=>False
             | _=>False
           | .mm k=>match o.op with
             | .call ⟨.builtin b,⟨[x,y]⟩,_⟩=>match A.ev x,A.ev y,Qq N o.dst,b with
               | .lit (.int kd p),.lit (.int SI q),true,.max=>SI=kd/\Oy N ops tb zs k l (A.put o.dst (.lit (.int kd (max p q)))) K
               | .lit (.int kd p),.lit (.int SI q),true,.min=>SI=kd/\Oy N ops tb zs k l (A.put o.dst (.lit (.int kd (min p q)))) K
               | _,_,_,_=>False
             | _=>False
           | .Od bs k=>match o.op with
             | .convert src dst x=>match Al P src&&isStr P dst&&Qq N o.dst,A.ev x with
               | true,.sl _ ys=>ys=bs.map n7/\Oy N ops tb zs k l (A.put o.dst (sV bs)) K
               | _,_=>False
             | _=>False
           | _=>False
         | false=>False
       | true=>match s with
         | .ux z k=>match DF P N (bM ops tb i).Sl (bM ops tb i).El (bM ops tb i).Hl o A z,(bM ops tb i).fr,Xi (bM ops tb i).Hl [] with
           | some (C,U),none,true=>C/\∀ g o1 c,Oy N ops tb zs (k g o1 c) l (U (g,o1,c) A) K
           | _,_,_=>False
         | .eu c k=>match (bM ops tb i).fr,Xi (bM ops tb i).Hl c.prom with
           | none,true=>c.pre N o A (bM ops tb i).Sl (bM ops tb i).Hl/\∀ x,Oy N ops tb zs (k x) l (c.U o A x A) K
           | _,_=>False
         | .c c ks k=>match o.op with
           | .call ⟨.value fx,xs,_⟩=>match A.ev fx,A.tk xs.toList,(bM ops tb i).fr with
             | .lit (.func (.func f) first A3),(vs,_),some fl=>
               match f==c.f&&Qq N o.dst&&OU (ks.map (·.1))&&OU (ks.map (·.2))&&c.args.length==(first.toList.map cV++vs++A3.toList.map cV).length&&
                sub (fS A xs.toList) (bM ops tb i).Sl&&sub o.dst.toList (bM ops tb i).Sl&&sub (ks.map (·.2)) (bM ops tb i).Hl&&DS (ks.map (·.2)) fl&&Xi (bM ops tb i).Hl [] with
               | true=>O7 (first.toList.map cV++vs++A3.toList.map cV) c.args=c.args/\pg A ks c.H (c.pre/\Oy N ops tb zs k l (lz o.dst (fS A xs.toList) ks (c.res.Qf (mw ks)) c.H' A) K)
               | false=>False
             | _,_,_=>False
           | _=>False
         | .cx c ks k=>match o.op with
           | .call ⟨.value fx,xs,_⟩=>match A.ev fx,A.tk xs.toList,(bM ops tb i).fr with
             | .lit (.func (.func f) first A3),(vs,_),some fl=>
               match f==c.f&&Qq N o.dst&&OU (ks.map (·.1))&&OU (ks.map (·.2))&&c.args.length==(first.toList.map cV++vs++A3.toList.map cV).length&&
                sub (fS A xs.toList) (bM ops tb i).Sl&&sub o.dst.toList (bM ops tb i).Sl&&sub (ks.map (·.2)) (bM ops tb i).Hl&&DS (ks.map (·.2)) fl&&Xi (bM ops tb i).Hl [] with
               | true=>O7 (first.toList.map cV++vs++A3.toList.map cV) c.args=c.args/\pg A ks c.H (c.pre/\∀ x,c.post x->Oy N ops tb zs (k x) l (lz o.dst (fS A xs.toList) ks ((c.res x).Qf (mw ks)) (c.H' x) A) K)
               | false=>False
             | _,_,_=>False
           | _=>False
         | _=>False
section
variable {P:Program} {N:Nat} {ops:Array Oper} {A A' A1 B:AS} {tb:List (Nat×Ry)} {zs:List (Nat×ZT P)}
theorem pV{ts:List Nat}{t:Nat}:(lv ts A).get t=if t∈ts then .b9 else A.get t:=by
 induction ts with
 | nil=>simp[lv]
 | cons a ts ih=>
   simp only[lv,AS.get,Zbc,List.cons_append,lk]at ih ⊢
   by_cases e:t=a
   rw[if_pos e,if_pos (by simp[e])];rfl
   rw[if_neg e,ih]
   by_cases e2:t∈ts
   rw[if_pos e2,if_pos (by simp[e2])]
   rw[if_neg e2,if_neg (by simp[e,e2])]
theorem vo:∀ (xs:List Operand) {A:AS},D' (A.tk xs).2 (lv (fS A xs) A)
 | [],A=>⟨fun _=>rfl,fun _=>rfl⟩
 | x::xs,A=>by
   have ih:=vo xs (A:=A.drop x)
   simp only[AS.tk]
   have e:(match (A.drop x).tk xs with | (vs,B)=>((Xf (A.ev x)::vs,B):List V×AS)).2=((A.drop x).tk xs).2:=rfl
   rw[e]
   have hh:(A.drop x).h=A.h:=by
    cases x with
    | tmp t=>simp only[AS.drop];split <;> rfl
    | _=>rfl
   refine⟨fun q=>?_,fun k=>by rw[ih.2 k];simp only[lv,hh]⟩
   rw[ih.1 q,pV,pV]
   cases x with
   | tmp t=>
     cases ho:(A.get t).dz with
     | true=>
       have ed:A.drop (.tmp t)=A.put (some t) .b9:=by simp[AS.drop,ho]
       have eo:fS A (.tmp t::xs)=t::fS (A.drop (.tmp t)) xs:=by simp only[fS,ho]
       simp only[eo,ed,List.mem_cons]
       by_cases c:q=t
       subst c
       simp only[true_or,if_true]
       split
       rfl
       rw[AS.aJ,if_pos rfl]
       by_cases c2:q∈fS (A.put (some t) .b9) xs
       rw[if_pos c2,if_pos (.inr c2)]
       rw[if_neg c2,if_neg (by simp[c,c2]),AS.aJ,if_neg c]
     | false=>
       have ed:A.drop (.tmp t)=A:=by simp[AS.drop,ho]
       have eo:fS A (.tmp t::xs)=fS (A.drop (.tmp t)) xs:=by simp only[fS,ho]
       simp only[eo,ed]
   | _=>rfl
theorem Eo{x:Operand}(h:∀ t,x=.tmp t->A'.get t=A.get t){q:Nat}(hq:A'.get q=A.get q):(A'.drop x).get q=(A.drop x).get q:=by
 cases x with
 | tmp t=>
   simp only[AS.drop,h t rfl]
   split
   rw[AS.aJ,AS.aJ];split
   rfl
   exact hq
   exact hq
 | _=>exact hq
theorem vm:∀ (xs:List Operand) {A A':AS},(∀ t,Operand.tmp t∈xs->A'.get t=A.get t)->(A'.tk xs).1=(A.tk xs).1/\fS A' xs=fS A xs
 | [],A,A',_=>⟨rfl,rfl⟩
 | x::xs,A,A',h=>by
   have hx:∀ t,x=.tmp t->A'.get t=A.get t:=fun t e=>h t (by simp[e])
   have ih:=vm xs (A:=A.drop x) (A':=A'.drop x) fun t ht=>Eo hx (h t (by simp[ht]))
   refine⟨?_,?_⟩
   show Xf (A'.ev x)::((A'.drop x).tk xs).1=Xf (A.ev x)::((A.drop x).tk xs).1
   rw[ih.1,bN (x:=x) hx]
   cases x with
   | tmp t=>simp only[fS,hx t rfl,ih.2]
   | _=>simp only[fS];exact ih.2
theorem Hc{ks:List (Nat×Nat)}{H:List (Nat×(Nat×V))}{t:Nat}:(A.back ks H).get t=A.get t:=rfl
theorem CA{ks:List (Nat×Nat)}{H:List (Nat×(Nat×V))}{k:Nat}(hn:OU (ks.map (·.2))=true)(hk:k ∉ ks.map (·.2)):lk k (A.back ks H).h=lk k A.h:=by
 have hs:lk k (Qd ks)=none:=oz (by simpa[Qd,List.map_map,Function.comp_def] using hk)
 simp only[AS.back]
 rw[mW,qF hn,hs]
 simp only[Option.bind_none]
 rw[jJ,hs];rfl
theorem rf{ks:List (Nat×Nat)}{H:List (Nat×(Nat×V))}(h:∀ k,lk k A.h=lk k B.h)(k:Nat):lk k (A.back ks H).h=lk k (B.back ks H).h:=by
 simp only[AS.back]
 rw[mW,mW,jJ,jJ,h]
theorem MJ{ks:List (Nat×Nat)}{k q:Nat}(h:lk k ks=some q):q∈ks.map (·.2):=List.mem_map.2 ⟨_,wJ h,rfl⟩
theorem ob{ks:List (Nat×Nat)}(h:∀ k,k∈ks.map (·.2)->lk k B.h=lk k A.h):∀ {H:List (Nat×(Nat×V))},ni A ks H->ni B ks H
 | [],_=>trivial
 | (k,(g,v))::H,hr=>by
   refine⟨?_,ob h hr.2⟩
   have:=hr.1
   split at this
   rename_i q e
   rw[h q (MJ e)];exact this
   exact this.elim
theorem kE{d:Option Nat}{ts:List Nat}{ks:List (Nat×Nat)}{r:V}{H:List (Nat×(Nat×V))}{t:Nat}:(lz d ts ks r H A).get t=if d=some t then r else if t∈ts then .b9 else A.get t:=by
 unfold lz
 cases d with
 | none=>rw[if_neg Zab];exact pV
 | some d=>
   rw[AS.aJ,Hc,pV]
   by_cases e:t=d
   subst e;rw[if_pos rfl,if_pos rfl]
   have e2: ¬ (some d=some t):=fun c=>e (by simpa using c.symm)
   rw[if_neg e,if_neg e2]
theorem lK{d:Option Nat}{ts:List Nat}{ks:List (Nat×Nat)}{r:V}{H:List (Nat×(Nat×V))}:(lz d ts ks r H A).h=(A.back ks H).h:=by
 unfold lz;rw[pM];rfl
theorem Ab{G:Type} {d:Option Nat} {ts:List Nat} {ks:List (Nat×Nat)} {r:G->V} {H:G->List (Nat×(Nat×V))} {fs Sl Hl:List Nat} (hn:OU (ks.map (·.2))=true)
 (h1:sub ts Sl=true) (h2:sub d.toList Sl=true) (h3:sub (ks.map (·.2)) Hl=true):Tk (fun g B=>lz d ts ks (r g) (H g) B) fs Sl Hl:=by
 have sb:∀ {a b:List Nat},sub a b=true->∀ x,x∈a->x∈b:=fun h x hx=>by
  unfold sub at h;rw[Za0]at h;simpa using h x hx
 have h1:=sb h1;have h2:=sb h2;have h3:=sb h3
 refine⟨fun g B t ht=>?_,fun g B k hk=>?_,fun g B B' hB=>⟨fun t=>?_,fun k=>?_⟩,fun g B t v ht _=>⟨fun q=>?_,fun k=>?_⟩,fun g B k gv hk=>⟨fun t=>?_,fun x=>?_⟩⟩
 rw[kE,if_neg (fun c=>ht (h2 t (by rw[c];simp))),if_neg (fun c=>ht (h1 t c))]
 rw[lK];exact CA hn (fun c=>hk (h3 k c))
 rw[kE,kE,hB.1 t]
 rw[lK,lK];exact rf hB.2 k
 rw[kE,AS.aJ,AS.aJ,kE]
 by_cases c:q=t
 subst c;rw[if_pos rfl,if_pos rfl,if_neg (fun c=>ht (h2 q (by rw[c];simp))),if_neg (fun c=>ht (h1 q c))]
 rw[if_neg c,if_neg c]
 rw[lK];show _=lk k (lz d ts ks (r g) (H g) B).h;rw[lK];rfl
 show (lz d ts ks (r g) (H g) _).get t=(lz d ts ks (r g) (H g) B).get t
 rw[kE,kE];rfl
 rw[lK,lK]
 have hs:lk k (Qd ks)=none:=oz (by simpa[Qd,List.map_map,Function.comp_def] using fun c=>hk (h3 k c))
 simp only[AS.back]
 rw[mW,jJ]
 simp only[lk]
 by_cases c:x=k
 subst c
 rw[if_pos rfl,if_pos rfl,qF hn,hs];rfl
 rw[if_neg c,if_neg c,mW,jJ]
theorem uJ{i:Nat}{o:Oper}{t:Nat}(ho:ops[i]? =some o)(h:Operand.tmp t∈o.op.operands.toList):t∈gZ ops tb i:=by
 unfold gZ;rw[ho,Zav];exact .inl (fi h)
theorem wh{i:Nat}{o:Oper}{t:Nat}(ho:ops[i]? =some o)(h:t∈o.looksAt ops):t∈gZ ops tb i:=by
 unfold gZ;rw[ho,Zav];exact .inl h
theorem DR{i:Nat}{t:Nat}(h:t∈(bM ops tb i).El):t∈gZ ops tb i:=by
 unfold gZ;rw[Zav];exact .inr h
theorem Ap{i:Nat} {d:Option Nat} {fx:Operand} {xs:Array Operand} {N2:Array TypeId} {ty:TypeId} {pos:String} {after:Array Edge} {f:FuncId} {first A3:Array Value} {args:List V} {H:List (Nat×(Nat×V))} {ks:List (Nat×Nat)}
 {G:Type} {res:G->V} {H':G->List (Nat×(Nat×V))}
 (ho:ops[i]? =some ⟨d,.call ⟨.value fx,xs,N2⟩,ty,pos,after,none⟩) (Zu:A.ev fx=.lit (.func (.func f) first A3)) (hd:cZ N d) (RM:OU (ks.map (·.1))=true) (L5:OU (ks.map (·.2))=true)
 (hc:PF P f args H (fun r h=> ∃ g,r=res g/\h=H' g)) (hargs:O7 (first.toList.map cV++(A.tk xs.toList).1++A3.toList.map cV) args=args) (hlen:args.length=(first.toList.map cV++(A.tk xs.toList).1++A3.toList.map cV).length)
 (hr:ni A ks H) {fl:List Nat} (hfl:DS (ks.map (·.2)) fl=true):W6 P N ⟨d,.call ⟨.value fx,xs,N2⟩,ty,pos,after,none⟩ A (fun g B=>lz d (fS A xs.toList) ks ((res g).Qf (mw ks)) (H' g) B) (gZ ops tb i) (some fl):=by
 refine⟨rfl,fun A' h1 h2=>?_⟩
 have Wa:A'.ev fx=A.ev fx:=bN fun t ht=>h1 t (uJ ho (by subst ht;simp[Op.operands,Call.operands]))
 obtain⟨t1,t2⟩:=vm xs.toList (A:=A) (A':=A') fun t ht=>h1 t (uJ ho (by simp only[Op.operands,Call.operands];simp;right;simpa using ht))
 have US:=vo xs.toList (A:=A')
 refine pU (A:=A') ks rfl (by rw[Wa];exact Zu) hd RM L5 hc (by rw[t1];exact hargs) (by rw[t1];exact hlen) (ob (fun k hk=>(US.2 k).trans (JD hfl h2 k hk)) hr) ?_
 rintro r H0 ⟨g,rfl,rfl⟩
 refine⟨g,?_⟩
 unfold lz
 rw[<- t2]
 exact Lr ⟨fun t=>US.1 t,fun k=>rf US.2 k⟩
theorem xk{El:List Nat} {fr:Option (List Nat)} {op:Op} (h:∀ t,Operand.tmp t∈op.operands.toList->A'.get t=A.get t) (hk:Ud A' A fr) (hr:∀ i,i∈El->A'.get i=A.get i)
 (hf:oG El fr A op=true):H8 P A' op=H8 P A op:=by
 cases op with
 | move x=>simp only[H8,Qx,Dv,mF (x:=x) fun t e=>h t (by simp[Op.operands,e]),bN (x:=x) fun t e=>h t (by simp[Op.operands,e])]
 | pick c a b=>
   have h1:=bN (x:=c) fun t e=>h t (by simp[Op.operands,e])
   have h2:=bN (x:=a) fun t e=>h t (by simp[Op.operands,e])
   have h3:=bN (x:=b) fun t e=>h t (by simp[Op.operands,e])
   simp only[H8,Qx,DA,h1,h2,h3]
 | binOp op T x y T'=>simp only[H8,Qx,bN (x:=x) fun t e=>h t (by simp[Op.operands,e]),bN (x:=y) fun t e=>h t (by simp[Op.operands,e])]
 | unOp op T x=>simp only[H8,Qx,bN (x:=x) fun t e=>h t (by simp[Op.operands,e])]
 | convert s d x=>simp only[H8,Qx,bN (x:=x) fun t e=>h t (by simp[Op.operands,e])]
 | index T x y=>simp only[H8,Qx,bN (x:=x) fun t e=>h t (by simp[Op.operands,e]),bN (x:=y) fun t e=>h t (by simp[Op.operands,e])]
 | slice T x lo hi m=>
   have h1:=bN (x:=x) fun t e=>h t (by simp[Op.operands,e])
   have h2:=xe (x:=lo) fun t e=>h t (by simp[Op.operands,e])
   have h3:=xe (x:=hi) fun t e=>h t (by simp[Op.operands,e])
   cases m with
   | none=>simp only[H8,h1,h2,h3]
   | some m=>rfl
 | extract x i=>simp only[H8,Qx,bN (x:=x) fun t e=>h t (by simp[Op.operands,e])]
 | call c=>
   simp only[H8,Qx,wG]
   split
   split
   rename_i x T hx _
   rw[bN (x:=x) fun t e=>h t (by simp[Op.operands,Call.operands,hx,e])]
   rfl
   split
   rename_i x y hx
   rw[bN (x:=x) fun t e=>h t (by simp[Op.operands,Call.operands,hx,e]),bN (x:=y) fun t e=>h t (by simp[Op.operands,Call.operands,hx,e])]
   rfl
   rfl
 | fieldAddr T x j=>simp only[H8,bN (x:=x) fun t e=>h t (by simp[Op.operands,e])]
 | field T x j=>simp only[H8,mF (x:=x) fun t e=>h t (by simp[Op.operands,e])]
 | indexAddr T x y=>simp only[H8,bN (x:=x) fun t e=>h t (by simp[Op.operands,e]),bN (x:=y) fun t e=>h t (by simp[Op.operands,e])]
 | load T x=>
   have h1:=bN (x:=x) fun t e=>h t (by simp[Op.operands,e])
   simp only[H8,h1,mi]
   split
   split
   rename_i r p g o e
   cases r with
   | key k=>
     have:lk k A'.h=lk k A.h\/∃ i,p=[i]/\i<100/\Ov A'.h (100*k+i)=Ov A.h (100*k+i)/\(Ov A.h (100*k+i)).isSome=true:=by
      cases fr with
      | none=>exact .inl (hk k)
      | some l=>
        simp only[oG,e,Bool.or_eq_true,Zam]at hf
        rcases hf with ⟨c1,c2⟩ | hf
        have h3:=hk k (by simpa using c2)
        unfold RR at h3
        rw[if_pos c1]at h3
        exact .inl h3
        unfold hdP at hf
        split at hf
        rename_i i
        simp only[Zam]at hf
        refine .inr ⟨i,rfl,by simpa[Nat.blt_eq] using hf.1.1,?_,hf.2⟩
        have h3:=hk _ (by simpa using hf.1.2)
        unfold RR at h3
        rw[if_neg (by simp[Nat.blt_eq]),Nat.add_sub_cancel_left]at h3
        exact h3
        cases hf
     rcases this with e2 | ⟨i,rfl,c1,c2,c3⟩
     simp only[AS.at,e2]
     have:=KF (T:=by assumption) (g:=g) (o:=o) c2 c1 c3
     simpa only[mi] using this
   | slot i=>
     have:A'.at (.slot i) p=A.at (.slot i) p:=by
      unfold AS.at
      simp only[oG,e,Zbg,Zbi]at hf
      simp only[hr i hf]
     rw[this]
   rfl
   rfl
   rfl
 | nilCheck x=>simp only[H8,bN (x:=x) fun t e=>h t (by simp[Op.operands,e])]
 | makeInterface T x=>simp only[H8,mF (x:=x) fun t e=>h t (by simp[Op.operands,e])]
 | typeAssert x xT T b=>
   cases b with
   | true=>simp only[H8,bN (x:=x) fun t e=>h t (by simp[Op.operands,e])]
   | false=>rfl
 | makeFunc fn p q=>
   have e1:p.toList.map A'.ev=p.toList.map A.ev:=List.map_congr_left fun x hx=>bN fun t e=>h t (by subst e;simp only[Op.operands,Array.toList_append,Zav];exact .inl hx)
   have e2:q.toList.map A'.ev=q.toList.map A.ev:=List.map_congr_left fun x hx=>bN fun t e=>h t (by subst e;simp only[Op.operands,Array.toList_append,Zav];exact .inr hx)
   simp only[H8,e1,e2]
 | _=>rfl
theorem mM{i:Nat}{o:Oper}{v:V}{fr:Option (List Nat)}(ho:ops[i]? =some o)(h:qd P N ops o A v):Uf P N ops o A v (gZ ops tb i) fr:=fun A' h1 _=>h A' fun t ht=>h1 t (wh ho ht)
theorem BV{i:Nat}{o:Oper}{C:Prop}{v:V}{fr:Option (List Nat)}(ho:ops[i]? =some o)(hg:o.guard=none)(h:H8 P A o.op=some (C,v))(hC:C)(hd:cZ N o.dst)(hf:oG (bM ops tb i).El fr A o.op=true):Uf P N ops o A v (gZ ops tb i) fr:=by
 intro A' h1 hk
 unfold gd
 rw[hg]
 simp only
 refine uq (C:=C) (v:=v) ?_ hC hd ⟨fun _=>rfl,fun _=>rfl⟩
 rw[xk (A:=A) (fun t ht=>h1 t (uJ ho ht)) hk (fun i hi=>h1 i (DR hi)) hf]
 exact h
theorem Gk{i:Nat} {o:Oper} {xs:List Operand} {j:Nat} {b G:Bool} {C:Prop} {B:AS} {v:V} {fr:Option (List Nat)} (ho:ops[i]? =some o) (hg:o.guard=some (j,b)) (hG:Py A ops j b=some G) (hu:AS.un G xs A=(C,B))
 (TJ:∀ t,Operand.tmp t∈xs->Operand.tmp t∈o.op.operands.toList) (M1:Rm N xs=true) (hd:cZ N o.dst) (hf:oG (bM ops tb i).El fr B o.op=true) (hC:G=true->C/\v.iU=false/\∃ C',H8 P B o.op=some (C',v)/\C'):Uf P N ops o A (.gv G v) (gZ ops tb i) fr:=by
 intro A' h1 hk
 have Qp:Py A' ops j b=some G:=by
  rw[<- hG]
  unfold Py
  cases hj:(ops[j]?).bind (·.dst) with
  | none=>rfl
  | some d=>
    simp only[Option.map_some]
    rw[h1 d (wh ho (by unfold Oper.looksAt;rw[Zav];right;rw[hg];simp[hj]))]
 obtain⟨B',k1,k2,k3,k4⟩:=lG xs (A':=A') hu (fun t ht=>h1 t (uJ ho (TJ t ht)))
 have N5:H8 P B' o.op=H8 P B o.op:=by
  refine xk (A:=B) (fun t ht=>k2 t (h1 t (uJ ho ht))) ?_ (fun i hi=>k2 i (h1 i (DR hi))) hf
  cases fr with
  | none=>exact fun k=>by rw[k3,k4];exact hk k
  | some l=>exact fun k hl=>(xo (A:=A') (fun k=>by rw[k3]) k).trans ((hk k hl).trans (xo (fun k=>by rw[k4]) k))
 refine rS hg Qp (fun OK=>?_) (fun U3=>⟨hd,fun _ _=>⟨rfl,(fun h=>by rw[U3]at h;cases h),fun _=>rfl⟩⟩)
 obtain⟨c1,c3,C',A7,c2⟩:=hC OK
 rw[<- N5]at A7
 refine ky (v:=.gv G v) hd ⟨fun _=>rfl,fun _=>rfl⟩ fun Pb Kb a w F hs=>?_
 obtain⟨F',B4⟩:=lF OK _ k1 c1 hs (qD M1)
 obtain⟨x,hx,hr⟩:=xH A7 c2 B4 rfl
 exact⟨x,hx,rfl,fun _=>AE hr c3,fun h=>by rw[OK]at h;cases h⟩
theorem GD{i:Nat} {d:Option Nat} {f:FuncId} {xs:Array Operand} {N2:Array TypeId} {ty:TypeId} {pos:String} {after:Array Edge}
 {j:Nat} {b G:Bool} {C:Prop} {B:AS} {E:V} {fr:Option (List Nat)} (ho:ops[i]? =some ⟨d,.call ⟨.value (.func f),xs,N2⟩,ty,pos,after,some (j,b)⟩) (hd:cZ N d) (hG:Py A ops j b=some G) (hu:AS.un G xs.toList A=(C,B)) (M1:Rm N xs.toList=true)
 (hc:G=true->C/\PC P f (xs.toList.map B.cp) (fun r=>r.er=E)/\E.iU=false/\E.dz=false):Uf P N ops ⟨d,.call ⟨.value (.func f),xs,N2⟩,ty,pos,after,some (j,b)⟩ A (.gv G E) (gZ ops tb i) fr:=by
 intro A' h1 hk
 have Qp:Py A' ops j b=some G:=by
  rw[<- hG]
  unfold Py
  cases hj:(ops[j]?).bind (·.dst) with
  | none=>rfl
  | some d=>
    simp only[Option.map_some]
    rw[h1 d (wh ho (by unfold Oper.looksAt;rw[Zav];right;simp[hj]))]
 have hx:∀ t,Operand.tmp t∈xs.toList->A'.get t=A.get t:=fun t ht=>h1 t (uJ ho (by simp[Op.operands,Call.operands];simpa using ht))
 obtain⟨B',k1,k2,k3,k4⟩:=lG xs.toList (A':=A') hu hx
 refine rS (j:=j) (b:=b) rfl Qp (fun OK=>?_) (fun U3=>⟨hd,fun _ _=>⟨rfl,(fun h=>by rw[U3]at h;cases h),fun _=>rfl⟩⟩)
 obtain⟨c1,c2,c3,c4⟩:=hc OK
 rw[<- tc (A':=B') (A:=B) fun t ht=>k2 t (hx t ht)]at c2
 intro Pb Kb a w F Q' hs
 obtain⟨F',B4⟩:=lF OK _ k1 c1 hs (qD M1)
 have hw:=oX OK _ k1 c1
 have L6:=qm (N:=N) (o:=⟨d,.call { callee:=.value (.func f),args:=xs,argTypes:=N2 },ty,pos,after,some (j,b)⟩) (K:=fun A1=>A1=B'.put d E) (A:=B') rfl hd c2 (fun _ h=>h) rfl
 refine Oper.wp_mono ?_ (L6 Pb Kb a w F' Q' B4)
 rintro a' w' ⟨A1,Pb',E2,F2,rfl,M7,q3,q4,q5,q6⟩
 refine⟨A'.put d (.gv G E),Pb',E2,F2,⟨fun _=>rfl,fun _=>rfl⟩,M7.wrap ?_,q3,q4,q5,q6⟩
 cases d with
 | none=>exact hw
 | some d=>
   refine⟨fun i=>?_,hw.2⟩
   rw[AS.aJ,AS.aJ]
   by_cases e:i=d
   rw[if_pos e,if_pos e];exact .inr ⟨G,rfl,OK,c4,c3⟩
   rw[if_neg e,if_neg e];exact hw.1 i
theorem ja{i:Nat}{o:Oper}{l:List Nat}{v:V}{K:AS->Prop}(ho:ops[i]? =some o)(hv:yl ops tb zs i o=true)(h:Uf P N ops o A v (gZ ops tb i) (bM ops tb i).fr)(hK:OQ P N ops tb zs l (A.put o.dst v) K):OQ P N ops tb zs (i::l) A K:=by
 unfold yl at hv
 simp only[Zam,Bool.not_eq_true',Zbj]at hv
 refine⟨o,ho,?_⟩
 rw[show lk i zs=none from by simpa using hv.1.1.1]
 simp only
 rw[hv.1.1.2]
 exact⟨hv.1.2,hv.2,v,h,hK⟩
theorem qB{K:AS->Prop}:∀ (n:Nat) {l:List Nat} (z7:List V) {A:AS} (C:Prop) (A':AS),
 pD P N ops tb zs n l z7 A=some (C,A')->C->OQ P N ops tb zs (l.drop n) A' K->OQ P N ops tb zs l A K
 | 0,l,z7,A,C,A',h,hC,hK=>by
   simp only[pD,Zal,Zao]at h;obtain⟨_,rfl⟩:=h;simpa using hK
 | n+1,[],z7,A,C,A',h,hC,hK=>by
   simp only[pD,Zal,Zao]at h;obtain⟨_,rfl⟩:=h;simpa using hK
 | n+1,i::l,z7,A,C,A',h,hC,hK=>by
   have Q5:(i::l).drop (n+1)=l.drop n:=rfl
   rw[Q5]at hK
   unfold pD at h
   split at h
   simp at h
   rename_i o ho
   split at h
   simp at h
   rename_i G9
   split at h
   simp at h
   rename_i d hd
   split at h
   case isFalse=>simp at h
   rename_i TW
   have P1:cZ N o.dst:=by rw[hd];exact TW
   cases hg:o.guard with
   | some jb=>
     obtain⟨j,b⟩:=jb
     rw[hg]at h
     simp only at h
     split at h
     case h_2=>simp at h
     rename_i G hG
     cases hu:AS.un G (jV o.op) A with
     | mk C0 B=>
       rw[hu]at h
       simp only at h
       split at h
       case h_2=>simp at h
       rename_i C1 v QN A7
       split at h
       case isFalse=>simp at h
       rename_i M1
       simp only[Zam,Bool.not_eq_true']at M1
       split at h
       case h_2=>simp at h
       rename_i C2 A2 hr
       simp only[Zal,Zao]at h
       obtain⟨rfl,rfl⟩:=h
       exact ja ho G9 (Gk (v:=v) ho hg hG hu (EU _) M1.1.1 P1 M1.2 (fun OK=>⟨(hC.1 OK).1,M1.1.2,uf A7 (hC.1 OK).2⟩)) (by rw[hd];exact qB n QN C2 A2 hr hC.2 hK)
   | none=>
     rw[hg]at h
     simp only at h
     split at h
     · rename_i x Og
       split at h
       case isFalse=>simp at h
       rename_i K4
       exact ja ho G9 (mM ho (Bp hg Og P1 K4)) (by rw[hd];exact qB n z7 C A' h hC hK)
     · split at h
       case isFalse=>simp at h
       rename_i Yf
       split at h
       case h_2=>simp at h
       rename_i C1 v QN A7
       split at h
       case h_2=>simp at h
       rename_i C2 A2 hr
       split at h
       rename_i ht
       simp only[Zal,Zao]at h
       obtain⟨rfl,rfl⟩:=h
       obtain⟨C',h1,h2⟩:=uf A7 (oJ ht A7)
       exact ja ho G9 (BV ho hg h1 h2 P1 Yf) (by rw[hd];exact qB n QN C2 A2 hr hC hK)
       simp only[Zal,Zao]at h
       obtain⟨rfl,rfl⟩:=h
       obtain⟨C',h1,h2⟩:=uf A7 hC.1
       exact ja ho G9 (BV ho hg h1 h2 P1 Yf) (by rw[hd];exact qB n QN C2 A2 hr hC.2 hK)
theorem um{i:Nat} {o:Oper} {l:List Nat} {K:AS->Prop} {G:Type} {U:G->AS->AS} (ho:ops[i]? =some o) (hz:lk i zs=none) (he:(bM ops tb i).XZ=true) (h1:W6 P N o A U (gZ ops tb i) (bM ops tb i).fr)
 (h2:Wj U (gZ ops tb i) (bM ops tb i).Sl (bM ops tb i).Hl) (hK:∀ g,OQ P N ops tb zs l (U g A) K):OQ P N ops tb zs (i::l) A K:=by
 refine⟨o,ho,?_⟩
 rw[hz]
 simp only
 rw[he]
 exact⟨G,U,h1,h2,hK⟩
theorem AT{d:Option Nat}{x y:Operand}{N2:Array TypeId}{ty:TypeId}{pos:String}{after:Array Edge}{kd:IntKind}{p q r:Int}{b:Builtin}(hd:cZ N d)(hx:A.ev x=.lit (.int kd p))(hy:A.ev y=.lit (.int kd q))(hb:(b=.max/\r=max p q)\/(b=.min/\r=min p q)):
 qd P N ops ⟨d,.call ⟨.builtin b,⟨[x,y]⟩,N2⟩,ty,pos,after,none⟩ A (.lit (.int kd r)):=fun A' h1=>by
 show F9 P N _ A' _
 have e1:A'.ev x=A.ev x:=bN fun t ht=>h1 t (fi (by subst ht;simp[Op.operands,Call.operands]))
 have e2:A'.ev y=A.ev y:=bN fun t ht=>h1 t (fi (by subst ht;simp[Op.operands,Call.operands]))
 exact Ac rfl hd (by rw[e1];exact hx) (by rw[e2];exact hy) hb ⟨fun _=>rfl,fun _=>rfl⟩
theorem Md:∀ (s:Sc P) {l:List Nat} {A:AS} {K:AS->Sc P->Prop},Oy N ops tb zs s l A K->OQ P N ops tb zs l A fun B=> ∃ B',D' B B'/\∃ s',K B' s':=by
 intro s
 have cl:∀ {K:AS->Sc P->Prop} (A B:AS),D' A B->(∃ B',D' A B'/\∃ s',K B' s')->∃ B',D' B B'/\∃ s',K B' s':=fun A B h ⟨B',h1,h2⟩=>⟨B',h.symm.trans h1,h2⟩
 induction s with
 | r n z7 k ih=>
   intro l A K h
   cases l with
   | nil=>exact⟨_,D'.lD,_,h⟩
   | cons i l=>
     simp only[Oy]at h
     split at h
     rename_i C A' e
     obtain⟨h1,h2⟩:=pA.1 h
     obtain⟨C1,e1,e2⟩:=rI n e h1
     exact qB n z7 C1 A' e1 e2 (ih h2)
     exact h.elim
 | h x k ih=>
   intro l A K h
   cases l with
   | nil=>exact⟨_,D'.lD,_,h⟩
   | cons i l=>
     simp only[Oy]at h
     split at h
     rename_i t v
     refine fB cl _ ?_ (ih h.2)
     refine⟨fun q=>?_,fun _=>rfl⟩
     rw[AS.aJ];split
     rename_i e;subst e;exact h.1.symm
     rfl
     rename_i q v
     split at h
     rename_i g u e
     obtain⟨rfl,h⟩:=h
     refine fB cl _ ?_ (ih h)
     refine⟨fun _=>rfl,fun k=>?_⟩
     simp only[lk];split
     rename_i e2;subst e2;exact e.symm
     rfl
     exact h.elim
     exact h.elim
 | ux z k ih=>
   intro l A K h
   cases l with
   | nil=>exact⟨_,D'.lD,_,h⟩
   | cons i l=>
     simp only[Oy]at h
     split at h
     exact h.elim
     exact h.elim
     rename_i o ho hz
     split at h
     exact h.elim
     rename_i hg
     split at h
     split at h <;> exact h.elim
     rename_i he
     split at h
     rename_i C U e1 e2 e3
     obtain⟨d,hd⟩:∃ d,o.dst=some d:=by
      unfold DF at e1
      split at e1 <;> first | exact⟨_,by assumption⟩ | simp at e1
     obtain⟨hU,hE⟩:=KB (ops:=ops) e1 h.1 d hd
     refine um ho hz he ⟨hg,fun A' h1 h2=>?_⟩ ⟨⟨hU.g,hU.h,hU.c,fun g B t v ht _=>hU.p g B t v ht,hU.q⟩,fun q hq=>absurd (vV e3 hq) List.not_mem_nil⟩ fun g=>ih _ _ _ (h.2 g.1 g.2.1 g.2.2)
     rw[e2]at h2
     exact hE A' (fun t ht=>by
      rcases ht with ht | ht
      exact h1 t (wh ho ht)
      exact h1 t (DR ht)) h2 _ fun g=>⟨g,⟨fun _=>rfl,fun _=>rfl⟩⟩
     exact h.elim
 | eu c k ih=>
   intro l A K h
   cases l with
   | nil=>exact⟨_,D'.lD,_,h⟩
   | cons i l=>
     simp only[Oy]at h
     split at h
     exact h.elim
     exact h.elim
     rename_i o ho hz
     split at h
     exact h.elim
     rename_i hg
     split at h
     split at h <;> exact h.elim
     rename_i he
     split at h
     rename_i e2 e3
     refine um ho hz he ⟨hg,fun A' h1 h2=>?_⟩ ⟨c.Xe h.1 _,fun q hq g B=>c.Z1 h.1 q (vV e3 hq) g B⟩ fun g=>ih g (h.2 g)
     rw[e2]at h2
     exact GW (c.ok hg h.1 (fun t ht=>h1 t (wh ho (fi ht))) h2) fun B ⟨x,hB⟩=>⟨x,by subst hB;exact⟨fun _=>rfl,fun _=>rfl⟩⟩
     exact h.elim
 | ua k ih=>
   intro l A K h
   cases l with
   | nil=>exact⟨_,D'.lD,_,h⟩
   | cons i l=>
     simp only[Oy]at h
     split at h
     rename_i o z ho hz
     refine⟨o,ho,?_⟩
     rw[hz]
     exact fun g=>ih g (h g)
     exact h.elim
 | c c ks k ih=>
   intro l A K h
   cases l with
   | nil=>exact⟨_,D'.lD,_,h⟩
   | cons i l=>
     simp only[Oy]at h
     split at h
     exact h.elim
     exact h.elim
     rename_i o ho hz
     obtain⟨dst,op,ty,pos,after,D5⟩:=o
     split at h
     exact h.elim
     rename_i hg
     simp only at hg;subst hg
     split at h
     split at h
     rename_i hv
     split at h
     rename_i heq
     simp only at heq;subst heq
     split at h
     rename_i e3 e4
     rw[Zam,Zbj]at e3
     obtain⟨rfl,e3⟩:=e3
     exact ja ho hv (mM ho (Kf c (ff e3) e4 h.1 h.2.1)) (ih h.2.2)
     exact h.elim
     exact h.elim
     exact h.elim
     rename_i he
     split at h
     rename_i fx xs N2 heq
     simp only at heq;subst heq
     split at h
     rename_i f first A3 vs B fl e1 e2 e3
     split at h
     rename_i e4
     simp only[Zam,Zbj]at e4
     obtain⟨⟨⟨⟨⟨⟨⟨⟨⟨rfl,q1⟩,q2⟩,q3⟩,q4⟩,q5⟩,q6⟩,q7⟩,q8⟩,q9⟩:=e4
     have htk:(A.tk xs.toList).1=vs:=by rw[e2]
     replace h:=And.intro h.1 (kO h.2)
     have XR:=Ap (P:=P) (N:=N) (A:=A) (tb:=tb) (i:=i) (G:=Unit) (res:=fun _=>c.res) (H':=fun _=>c.H') (ks:=ks) (H:=c.H) (args:=c.args) ho e1 (ff q1) q2 q3
      ((c.ok h.2.2.1).mono fun r H ⟨a,b⟩=>⟨(),a,b⟩) (by rw[htk];exact h.1) (by rw[htk];exact q4) h.2.1 q8
     rw[<- e3]at XR
     exact um ho hz he XR ⟨Ab q3 q5 q6 q7,fun q hq=>absurd (vV q9 hq) List.not_mem_nil⟩ fun _=>ih h.2.2.2
     exact h.elim
     exact h.elim
     exact h.elim
 | cx c ks k ih=>
   intro l A K h
   cases l with
   | nil=>exact⟨_,D'.lD,_,h⟩
   | cons i l=>
     simp only[Oy]at h
     split at h
     exact h.elim
     exact h.elim
     rename_i o ho hz
     obtain⟨dst,op,ty,pos,after,D5⟩:=o
     split at h
     exact h.elim
     rename_i hg
     simp only at hg;subst hg
     split at h
     split at h <;> exact h.elim
     rename_i he
     split at h
     rename_i fx xs N2 heq
     simp only at heq;subst heq
     split at h
     rename_i f first A3 vs B fl e1 e2 e3
     split at h
     rename_i e4
     simp only[Zam,Zbj]at e4
     obtain⟨⟨⟨⟨⟨⟨⟨⟨⟨rfl,q1⟩,q2⟩,q3⟩,q4⟩,q5⟩,q6⟩,q7⟩,q8⟩,q9⟩:=e4
     have htk:(A.tk xs.toList).1=vs:=by rw[e2]
     replace h:=And.intro h.1 (kO h.2)
     have XR:=Ap (P:=P) (N:=N) (A:=A) (tb:=tb) (i:=i) (G:={ x:c.X // c.post x }) (res:=fun x=>c.res x.1) (H':=fun x=>c.H' x.1) (ks:=ks) (H:=c.H) (args:=c.args) ho e1 (ff q1) q2 q3
      ((c.ok h.2.2.1).mono fun r H ⟨x,hx,a,b⟩=>⟨⟨x,hx⟩,a,b⟩) (by rw[htk];exact h.1) (by rw[htk];exact q4) h.2.1 q8
     rw[<- e3]at XR
     exact um ho hz he XR ⟨Ab q3 q5 q6 q7,fun q hq=>absurd (vV q9 hq) List.not_mem_nil⟩ fun x=>ih _ (h.2.2.2 x.1 x.2)
     exact h.elim
     exact h.elim
     exact h.elim
 | bd z k ih=>
   intro l A K h
   cases l with
   | nil=>exact⟨_,D'.lD,_,h⟩
   | cons i l=>
     simp only[Oy]at h
     split at h
     exact h.elim
     exact h.elim
     rename_i o ho hz
     obtain⟨dst,op,ty,pos,after,D5⟩:=o
     split at h
     exact h.elim
     rename_i hg
     simp only at hg;subst hg
     split at h
     split at h
     rename_i hv
     split at h
     rename_i heq
     simp only at heq;subst heq
     split at h
     rename_i us e3 e4
     split at h
     rename_i v e5
     rw[Zam,Zbj]at e3
     obtain⟨rfl,e3⟩:=e3
     have hz:=z.ok
     rw[e4]at hz
     exact ja ho hv (mM ho (BE us v hz (ff e3) e5)) (ih h)
     exact h.elim
     exact h.elim
     exact h.elim
     exact h.elim
     exact h.elim
 | bs k ih=>
   intro l A K h
   cases l with
   | nil=>exact⟨_,D'.lD,_,h⟩
   | cons i l=>
     simp only[Oy]at h
     split at h
     exact h.elim
     exact h.elim
     rename_i o ho hz
     obtain⟨dst,op,ty,pos,after,D5⟩:=o
     split at h
     exact h.elim
     rename_i hg
     simp only at hg;subst hg
     split at h
     split at h
     rename_i hv
     split at h
     rename_i heq
     simp only at heq;subst heq
     split at h
     rename_i e e3
     split at h
     rename_i t vs e4 e5
     split at h
     rename_i e6
     rw[Zam]at e6
     exact ja ho hv (mM ho (vJ e t vs ⟨e3,e4⟩ (ff e6.2) e5 e6.1)) (ih h)
     exact h.elim
     exact h.elim
     exact h.elim
     exact h.elim
     exact h.elim
     exact h.elim
 | cg c k ih=>
   intro l A K h
   cases l with
   | nil=>exact⟨_,D'.lD,_,h⟩
   | cons i l=>
     simp only[Oy]at h
     split at h
     case h_2=>exact h.elim
     rename_i o ho hz
     obtain⟨dst,op,ty,pos,after,D5⟩:=o
     split at h
     case h_2=>exact h.elim
     rename_i f xs N2 j b hv e1 e2
     simp only at e1 e2;subst e1 e2
     split at h
     case h_2=>exact h.elim
     rename_i G h1 h2 h3
     simp only[Zam,Zbj,Bool.not_eq_true']at h1
     obtain⟨⟨⟨⟨rfl,h4⟩,h5⟩,h6⟩,h7⟩:=h1
     revert h
     cases hu:R9 G (j,b) [] xs.toList A with | mk C B=>?_
     intro h
     obtain⟨hC,h⟩:=pA.1 h
     obtain⟨C1,u1,u2⟩:=nW xs.toList (fun t ht=>by simp at ht) hu hC
     refine ja ho hv (GD ho (ff h4) h3 u1 h5 (fun hG=>⟨u2,?_,h6,h7⟩)) (ih h.2)
     obtain⟨SY,hw⟩:=h.1 hG
     have hc:=c.ok SY
     rw[h2]at hc
     have hp:=hc.Du
     refine⟨hp.1,fun w Pb cargs k1 k2=>?_⟩
     refine(hp.2 w Pb cargs k1 (by have:=qz _ c.args k2;rw[hw]at this;exact this)).mono ?_
     rintro e w' ⟨r,x,F,Pb',rfl,⟨H,q1,_⟩,rest⟩
     exact⟨r,x,F,Pb',rfl,by rw[q1],rest⟩
 | mm k ih=>
   intro l A K h
   cases l with
   | nil=>exact⟨_,D'.lD,_,h⟩
   | cons i l=>
     simp only[Oy]at h
     split at h
     exact h.elim
     exact h.elim
     rename_i o ho hz
     obtain⟨dst,op,ty,pos,after,D5⟩:=o
     split at h
     exact h.elim
     rename_i hg
     simp only at hg;subst hg
     split at h
     split at h
     rename_i hv
     split at h
     rename_i heq
     simp only at heq;subst heq
     split at h
     rename_i kd p SI q e1 e2 e3
     obtain⟨rfl,h⟩:=h
     exact ja ho hv (mM ho (AT (ff e3) e1 e2 (.inl ⟨rfl,rfl⟩))) (ih h)
     rename_i kd p SI q e1 e2 e3
     obtain⟨rfl,h⟩:=h
     exact ja ho hv (mM ho (AT (ff e3) e1 e2 (.inr ⟨rfl,rfl⟩))) (ih h)
     exact h.elim
     exact h.elim
     exact h.elim
     exact h.elim
 | Od bs k ih=>
   intro l A K h
   cases l with
   | nil=>exact⟨_,D'.lD,_,h⟩
   | cons i l=>
     simp only[Oy]at h
     split at h
     exact h.elim
     exact h.elim
     rename_i o ho hz
     obtain⟨dst,op,ty,pos,after,D5⟩:=o
     split at h
     exact h.elim
     rename_i hg
     simp only at hg;subst hg
     split at h
     split at h
     rename_i hv
     split at h
     rename_i heq
     simp only at heq;subst heq
     split at h
     rename_i fl ys e1 e2
     simp only[Zam]at e1
     obtain⟨rfl,h⟩:=h
     obtain⟨e,q1,q2⟩:=xF e1.1.1
     exact ja ho hv (mM ho (yj e fl bs ⟨q1,q2,ve e1.1.2⟩ (ff e1.2) e2)) (ih h)
     exact h.elim
     exact h.elim
     exact h.elim
     exact h.elim
 | _=>
   intro l A K h
   cases l with
   | nil=>exact⟨_,D'.lD,_,h⟩
   | cons i l=>
     simp only[Oy]at h
     (repeat' split at h) <;> exact h.elim
theorem rV{K K':AS->Prop}(hK:∀ B,K B->K' B):∀ (l:List Nat) {A:AS},OQ P N ops tb zs l A K->OQ P N ops tb zs l A K'
 | [],A,h=>hK A h
 | i::l,A,h=>by
   obtain⟨o,ho,h⟩:=h
   refine⟨o,ho,?_⟩
   split at h
   exact fun g=>rV hK l (h g)
   split at h
   obtain⟨e1,e2,v,h1,h2⟩:=h;exact⟨e1,e2,v,h1,rV hK l h2⟩
   obtain⟨G,U,h1,h2,h3⟩:=h;exact⟨G,U,h1,h2,fun g=>rV hK l (h3 g)⟩
end
section
variable {P:Program} {N:Nat} {ops:Array Oper} {A:AS}
end
def go{P:Program}(N:Nat):Code->AS->Sc P->(Exit->AS->Sc P->Prop)->Prop
 | .skip,A,s,K=>K .normal A s
 | .label _,A,s,K=>K .normal A s
 | .exit i,A,s,K=>K (.exit i) A s
 | .goto i,A,s,K=>K (.goto i) A s
 | .ret,A,s,K=>Qz N s A fun A s=>K .ret A s
 | .seq x y,A,s,K=>go N x A s fun e A s=>match e with
   | .normal=>go N y A s K
   | e=>K e A s
 | .block id c,A,s,K=>go N c A s fun e A s=>match e with
   | .exit j=>match j==id with
     | true=>K .normal A s
     | false=>K (.exit j) A s
   | e=>K e A s
 | .cond c x y,A,s,K=>Qz N s A fun A s=>match A.ev c,s with
   | .lit (.bool b),.br s1 s2=>(b=true->go N x A s1 K)/\(b=false->go N y A s2 K)
   | .lit (.bool b),.join X B ok s1 s2 k=>
     (b=true->go N x A s1 fun e A' s'=>match e with
      | .normal=>Qz N s' A' fun A' _=> ∃ x,ok x/\Wu A' (B x)
      | e=>K e A' s')/\
     (b=false->go N y A s2 fun e A' s'=>match e with
      | .normal=>Qz N s' A' fun A' _=> ∃ x,ok x/\Wu A' (B x)
      | e=>K e A' s')/\
     ∀ x,ok x->K .normal (B x) (k x)
   | _,_=>False
 | .scope c,A,s,K=>go N c A s fun e A s=>match e with
   | .goto _=>False
   | e=>K e A s
 | .loop c,A,s,K=>Qz N s A fun A s=>match s with
   | .loop X inv ok m k=>(∃ x,ok x/\Wu A (inv x))/\∀ x,ok x->go N c (inv x) (k x) fun e A' s'=>match e with
     | .normal=>Qz N s' A' fun A' _=> ∃ y,ok y/\m y<m x/\Wu A' (inv y)
     | e=>K e A' s'
   | _=>False
 | .region _ ops false,A,s,K=>Qz N s A fun A s=>D8 N ops [] s ops.toList A fun A s=>K .normal A s
 | .region _ ops true,A,s,K=>Qz N s A fun A s=>match s with
   | .dx m pl tb zs k=>match P.follows .mixedOrders&&rr ops m tb zs pl&&Di ops m pl&&Ea N ops zs with
     | true=>Oy N ops tb zs k pl A fun A s=>D8 N ops [] s (ops.toList.drop m) A fun A s=>K .normal A s
     | false=>False
   | _=>False
 | _,_,_,_=>False
section
variable {P:Program} {N:Nat} {ops:Array Oper} {A A' A1 B:AS}
variable {w:World} {Pb Kb:Nat->Prop} {a:Act} {F:m0->List Nat}
theorem Lb{X:Type} {c:Code} {Q:Exit->AS->Prop} (inv:X->AS) (ok:X->Prop) (m:X->Nat) (h0:∃ x,ok x/\SH A (inv x).t/\RX A (inv x).h)
 (round:∀ x,ok x->T P N c (inv x) fun e A'=>match e with
  | .normal=>Hx N A' fun A'=> ∃ y,ok y/\m y<m x/\SH A' (inv y).t/\RX A' (inv y).h
  | e=>Q e A'):T P N (.loop c) A Q:=by
 obtain⟨x0,P6,l0,r0⟩:=h0
 refine MQ (fun n A=> ∃ x,m x=n/\ok x/\SH A (inv x).t/\RX A (inv x).h) (m x0) ⟨x0,rfl,P6,l0,r0⟩ ?_
 rintro n A ⟨x,rfl,hx,h1,h2⟩
 refine Nh h1 h2 (oD (nM (round x hx) fun e A' hq=>?_))
 cases e with
 | normal=>exact Hx.mono hq fun B ⟨y,k1,k2,k3,k4⟩=>⟨m y,k2,y,rfl,k1,k3,k4⟩
 | _=>exact Hx.of hq
def ngo(Q:Exit->AS->Prop):Exit->AS->Prop
 | .goto _,_=>False
 | e,A=>Q e A
theorem KZ{c:Code}{Q:Exit->AS->Prop}(h:T P N c A (ngo Q)):T P N (.scope c) A Q:=by
 intro Pb Kb a w F hs
 refine wp_scope_straight (wp_mono (h Pb Kb a w F hs) fun e a' w' hn=>?_)
 cases e with
 | goto l=>obtain⟨_,_,_,_,h,_⟩:=hn;exact h
 | _=>exact hn
theorem Jb:∀ (c:Code) {A:AS} {s:Sc P} {K:Exit->AS->Sc P->Prop},go N c A s K->T P N c A fun e B=> ∃ s',K e B s':=by
 intro c
 induction c with
 | skip=>intro A s K h;exact Lp ⟨_,h⟩
 | label l=>intro A s K h;exact JU ⟨_,h⟩
 | exit i=>intro A s K h;exact Mr ⟨_,h⟩
 | goto i=>intro A s K h;exact Mx ⟨_,h⟩
 | ret=>intro A s K h;exact qy ((mA s h).mono fun B hB=>Nr hB)
 | seq x y Ww Wv=>
   intro A s K h
   refine Nb (nM (Ww h) fun e B hB=>?_)
   obtain⟨s',hB⟩:=hB
   cases e with
   | normal=>exact Wv hB
   | _=>exact⟨_,hB⟩
 | scope c ih=>
   intro A s K h
   refine KZ (nM (ih h) fun e B hB=>?_)
   obtain⟨s',hB⟩:=hB
   cases e with
   | goto l=>exact hB
   | _=>exact⟨_,hB⟩
 | block id c ih=>
   intro A s K h
   refine KX (nM (ih h) fun e B hB=>?_)
   obtain⟨s',hB⟩:=hB
   cases e with
   | exit j=>
     simp only[ZP]
     simp only at hB
     split at hB
     rename_i e;rw[if_pos (by simpa using e)];exact⟨_,hB⟩
     rename_i e;rw[if_neg (by simpa using e)];exact⟨_,hB⟩
   | _=>exact⟨_,hB⟩
 | cond c x y Ww Wv=>
   intro A s K h
   refine qy ((mA s h).mono fun B hB=>?_)
   obtain⟨s',hB⟩:=hB
   split at hB
   rename_i e
   exact Fq e (fun hb=>Ww (hB.1 hb)) (fun hb=>Wv (hB.2 hb))
   rename_i b X I ok s1 s2 k e
   obtain⟨h1,h2,h3⟩:=hB
   have step:∀ (z:Code) (K':Exit->AS->Sc P->Prop),(∀ A' s',K' .normal A' s'->Qz N s' A' fun A' _=> ∃ x,ok x/\Wu A' (I x))->(∀ e,e≠.normal->∀ A' s',K' e A' s'->K e A' s')->
    (T P N z B fun e A'=> ∃ s',K' e A' s')->T P N z B fun e A'=> ∃ s',K e A' s':=fun z K' hn ho hz=>by
    refine oD (nM hz fun e A' hq=>?_)
    obtain⟨s',hq⟩:=hq
    by_cases he:e=.normal
    subst he
    refine(mA s' (hn _ _ hq)).bind fun B' ZM=>?_
    obtain⟨_,x,k1,k2⟩:=ZM
    exact IW (uz k2).1 (uz k2).2 ⟨_,h3 x k1⟩
    exact Hx.of ⟨_,ho e he _ _ hq⟩
   refine Fq e (fun hb=>step _ _ ?_ ?_ (Ww (h1 hb))) (fun hb=>step _ _ ?_ ?_ (Wv (h2 hb)))
   exact fun _ _ h=>h
   intro e he A' s' h;cases e <;> first | exact h | exact absurd rfl he
   exact fun _ _ h=>h
   intro e he A' s' h;cases e <;> first | exact h | exact absurd rfl he
   exact hB.elim
 | loop c ih=>
   intro A s K h
   refine qy ((mA s h).mono fun B hB=>?_)
   obtain⟨s',hB⟩:=hB
   split at hB
   rename_i X inv ok m k
   refine Lb inv ok m (by obtain⟨x,a,b⟩:=hB.1;exact⟨x,a,uz b⟩) fun x hx=>nM (ih (hB.2 x hx)) fun e A' hq=>?_
   obtain⟨s',hq⟩:=hq
   cases e with
   | normal=>exact(mA s' hq).mono fun B ⟨_,y,a,b,c⟩=>⟨y,a,b,uz c⟩
   | _=>exact⟨_,hq⟩
   exact hB.elim
 | region id ops draw=>
   intro A s K h
   cases draw with
   | false=>exact qy ((mA s h).mono fun B ⟨s',hB⟩=>II (FO s' hB))
   | true=>
     refine qy ((mA s h).mono fun B hB=>?_)
     obtain⟨s',hB⟩:=hB
     split at hB
     split at hB
     rename_i e
     simp only[Zam]at e
     exact xI e.1.1.1 e.1.1.2 e.2 e.1.2 (rV (fun B ⟨B',hA,s',hB⟩=>⟨B',hA,FO s' hB⟩) _ (Md _ hB))
     exact hB.elim
     exact hB.elim
 | _=>intro A s K h;exact h.elim
def sB(H:List (Nat×(Nat×V)))(xs:List m0):Bool:=xs.all fun r=>match r with
 | .key k=>(lk k H).isNone
 | .slot _=>true
def ye(rs:List ResultVar)(Q:V->AS->Prop)(H:List (Nat×(Nat×V)))(A:AS):Prop:=match Ad A rs with
    | some (C,xs)=>match mo P rs xs&&nodupB (xs.map (·.1))&&sB H (xs.map (·.1)) with
      | true=>cj C (Q (one (xs.map (·.2))) A)
      | false=>False
    | none=>False
def Ie(N:Nat)(rs:List ResultVar)(Q:V->AS->Prop)(H:List (Nat×(Nat×V))):Exit->AS->Sc P->Prop:=fun e A s=>match e with
 | .normal=>Qz N s A fun A _=>ye (P:=P) rs Q H A
 | .ret=>ye (P:=P) rs Q H A
 | _=>False
theorem sG{H:List (Nat×(Nat×V))}{xs:List m0}(h:sB H xs=true)(k:Nat)(hk:lk k H≠none):m0.key k ∉ xs:=fun c=>by
 unfold sB at h
 rw[Za0]at h
 have:=h _ c
 simp only[Option.isNone_iff_eq_none]at this
 exact hk this
theorem PF.ZY{f:FuncId} {args:List V} {H:List (Nat×(Nat×V))} {X:Type} {post:X->Prop} {E:X->V} {H':X->List (Nat×(Nat×V))}
 (h:PF P f args H (fun r h=> ∃ x,post x/\wk r (E x)=E x/\h=H' x)):PF P f args H (fun r h=> ∃ x,post x/\r=E x/\h=H' x):=
 ⟨h.1,fun w Pb Kb cargs F hi=>(h.2 w Pb Kb cargs F hi).mono fun e w'=>by
  rintro⟨r,x,H1,Pb',E2,F',rfl,⟨z,q1,q2,rfl⟩,hf⟩
  exact⟨E z,x,H' z,Pb',E2,F',rfl,⟨z,q1,rfl,rfl⟩,by have:=zJ (E z) hf.val;rw[q2]at this;exact⟨this,hf.root,hf.cL,hf.nodup,hf.free,hf.sub,hf.bound,hf.mP,hf.mK,hf.SG,hf.fF⟩⟩⟩
theorem fY{f:FuncId} {fn:Func} {c:Code} {args:List V} {H:List (Nat×(Nat×V))} {N:Nat} {rs:List ResultVar} {X:Type} {post:X->Prop} {E:X->V} {H':X->List (Nat×(Nat×V))}
 (hf:P.funcs[f]? =some fn) (XF:(fn.name== "runtime.NumGoroutine")=false) (hb:fn.body=some c) (hN:fn.ntmps=N) (TL:fn.results.toList=rs) (hlen:Nat.ble args.length N=true)
 (HK:List (Nat×(Nat×V))) (hHK:∀ x k,lk k (H' x)≠none->lk k HK≠none)
 (sc:Sc P) (VC:Prop) (he:VC=go N c ⟨enum 0 args,H⟩ sc (Ie N rs (fun v A=> ∃ x,post x/\vg A (H' x) (wk v (E x)=E x)) HK)) (h:VC):
 PF P f args H (fun r h=> ∃ x,post x/\r=E x/\h=H' x):=by
 subst hN TL
 rw[he]at h
 refine PF.ZY (Ch hf hb (eV hf XF (by rw[hb];rfl)) (Nat.le_of_ble_eq_true hlen) (oD (nM (Jb _ h) ?_)))
 rintro e A0 ⟨s0,hq⟩
 have fin:∀ A,(e=.normal\/e=.ret)->ye (P:=P) fn.results.toList (fun v A=> ∃ x,post x/\vg A (H' x) (wk v (E x)=E x)) HK A->IA P fn.results.toList (fun r h=> ∃ x,post x/\wk r (E x)=E x/\h=H' x) e A:=fun A he hq=>by
  unfold ye at hq
  split at hq
  rename_i C xs e1
  split at hq
  rename_i e2
  simp only[Zam]at e2
  obtain⟨hC,x,q1,hq⟩:=pA.1 hq
  obtain⟨q2,q3⟩:=vd hq
  obtain⟨C',f1,f2⟩:=uv e1 hC
  exact⟨he,xs,H' x,uB f1 f2,rC e2.1.1,vA e2.1.2,q3,fun k hk=>sG e2.2 k (hHK x k hk),x,q1,q2,rfl⟩
  exact hq.elim
  exact hq.elim
 cases e with
 | normal=>exact(mA s0 hq).mono fun B ⟨_,hB⟩=>fin B (.inl rfl) hB
 | ret=>exact Hx.of (fin A0 (.inr rfl) hq)
 | _=>exact hq.elim
theorem LZ{f:FuncId} {fn:Func} {c:Code} {args:List V} {H:List (Nat×(Nat×V))} {N:Nat} {rs:List ResultVar} {E:V} {H':List (Nat×(Nat×V))}
 (hf:P.funcs[f]? =some fn) (XF:(fn.name== "runtime.NumGoroutine")=false) (hb:fn.body=some c) (hN:fn.ntmps=N) (TL:fn.results.toList=rs) (hlen:Nat.ble args.length N=true)
 (sc:Sc P) (VC:Prop) (he:VC=go N c ⟨enum 0 args,H⟩ sc (Ie N rs (fun v A=>vg A H' (wk v E=E)) H')) (h:VC):
 PF P f args H (fun r h=>r=E/\h=H'):=by
 subst hN TL
 rw[he]at h
 have:=PF.ZY (X:=Unit) (post:=fun _=>True) (E:=fun _=>E) (H':=fun _=>H') (Ch (P:=P) (f:=f) (args:=args) (H:=H) (Q:=fun r h=> ∃ _:Unit,True/\wk r E=E/\h=H') hf hb (eV hf XF (by rw[hb];rfl)) (Nat.le_of_ble_eq_true hlen) (oD (nM (Jb _ h) ?_)))
 exact this.mono fun r H ⟨_,_,h1,h2⟩=>⟨h1,h2⟩
 rintro e A0 ⟨s0,hq⟩
 have fin:∀ A,(e=.normal\/e=.ret)->ye (P:=P) fn.results.toList (fun v A=>vg A H' (wk v E=E)) H' A->IA P fn.results.toList (fun r h=> ∃ _:Unit,True/\wk r E=E/\h=H') e A:=fun A he hq=>by
  unfold ye at hq
  split at hq
  rename_i C xs e1
  split at hq
  rename_i e2
  simp only[Zam]at e2
  obtain⟨hC,hq⟩:=pA.1 hq
  obtain⟨q2,q3⟩:=vd hq
  obtain⟨C',f1,f2⟩:=uv e1 hC
  exact⟨he,xs,H',uB f1 f2,rC e2.1.1,vA e2.1.2,q3,fun k hk=>sG e2.2 k hk,(),trivial,q2,rfl⟩
  exact hq.elim
  exact hq.elim
 cases e with
 | normal=>exact(mA s0 hq).mono fun B ⟨_,hB⟩=>fin B (.inl rfl) hB
 | ret=>exact Hx.of (fin A0 (.inr rfl) hq)
 | _=>exact hq.elim
end
theorem ig{xs:List V}{j sz g0 o0 g o c:Nat}{v:V}(h:xs[j]? =some v):V.at g0 o0 (.own sz xs g o c) [j]=some (g,o+j*sz,v):=by simp only[V.at,h]
theorem pw{xs ys:List V}{j sz g o c:Nat}{x v:V}(h:xs[j]? =some x)(e:xs.set j v=ys):V.set (.own sz xs g o c) [j] v=.own sz ys g o c:=by simp only[V.set,h,e]
theorem Wh{x y:V}{r:List V}(h:x=y):V.agg (x::r)=V.agg (y::r):=by rw[h]
theorem qk{x y u:V}{r:List V}{p:List Nat}(h:V.set x p u=y):V.set (.agg (x::r)) (0::p) u=V.agg (y::r):=by rw[<- h];rfl
theorem P2{a0 a1 x y:V}{r:List V}(h:x=y):V.agg (a0::a1::x::r)=V.agg (a0::a1::y::r):=by rw[h]
theorem eP{a0 a1 x y u:V}{r:List V}{p:List Nat}(h:V.set x p u=y):V.set (.agg (a0::a1::x::r)) (2::p) u=V.agg (a0::a1::y::r):=by rw[<- h];rfl
theorem NL{a0 a1 a2 a3 a4 x y u:V}{r:List V}{p:List Nat}(h:V.set x p u=y):V.set (.agg (a0::a1::a2::a3::a4::x::r)) (5::p) u=V.agg (a0::a1::a2::a3::a4::y::r):=by rw[<- h];rfl
abbrev m8(x:Int):Prop:= -9223372036854775808<=x/\x<=9223372036854775807
abbrev Rh(x:Int):Prop:=0<=x/\x<=255
abbrev Ix{α:Type}(i:Int)(s:List α):Prop:=0<=i/\i<s.length
abbrev Sx{α:Type}(lo hi:Int)(s:List α):Prop:=0<=lo/\lo<=hi/\hi<=s.length
abbrev Ex(i:Int)(xs:List V)(v:V):Prop:=0<=i/\xs[Int.toNat i]? =some v
abbrev r8(a b:Int):Bool:=decide (a<b)
abbrev E5(a b:Int):Bool:=decide (a<=b)
abbrev w3(a b:Int):Bool:=decide (a>b)
abbrev A8(a b:Int):Bool:=decide (a>=b)
abbrev r6(a b:Int):Bool:=a==b
abbrev w4(a b:Int):Bool:=a != b
abbrev Br(b:Bool)(p q:Prop):Prop:=(b=true->p)/\(b=false->q)
abbrev Gd(b:Bool)(p:Prop):Prop:=b=true->p
abbrev Q(x y:V):Prop:=x=y
abbrev E(x:V):Prop:=x=x
abbrev Qr(g:Nat)(x:V)(g':Nat)(y:V):Prop:=(g,x)=(g',y)
abbrev Er(g:Nat)(x:V):Prop:=(g,x)=(g,x)
abbrev Z(g o:Nat):Prop:=(g,o)=(g,o)
abbrev In(i:Int)(n:Nat):Prop:=0<=i/\i<n
abbrev Pk(c a b:Bool):Prop:=(c=true->a=true)/\(c=false->b=true)
theorem nb:(∀ (p:Prop) [Decidable p],(decide p=true)=p)/\(∀ (p:Prop) [Decidable p],(decide p=false)= ¬ p)/\(∀ a b:Int,(¬ a<b)=(b<=a))/\(∀ a b:Int,(¬ a<=b)=(b<a))/\(∀ a b:Int,(a>b)=(b<a))/\(∀ a b:Int,(a>=b)=(b<=a))/\
 (∀ (α:Type) [BEq α] [LawfulBEq α] (a b:α),((a==b)=true)=(a=b))/\(∀ (α:Type) [BEq α] [LawfulBEq α] (a b:α),((a==b)=false)= ¬ a=b)/\
 (∀ (α:Type) [BEq α] [LawfulBEq α] (a b:α),((a != b)=true)= ¬ a=b)/\(∀ (α:Type) [BEq α] [LawfulBEq α] (a b:α),((a != b)=false)=(a=b))/\
 (∀ a b:Bool,((a||b)=true)=(a=true\/b=true))/\(∀ a b:Bool,((a||b)=false)=(a=false/\b=false))/\(∀ a b:Bool,((a&&b)=true)=(a=true/\b=true))/\(∀ a b:Bool,((a&&b)=false)=(a=true->b=false))/\
 (∀ a:Bool,((!a)=true)=(a=false))/\(∀ a:Bool,((!a)=false)=(a=true))/\(∀ a:Bool,(¬ a=true)=(a=false))/\(∀ a:Bool,(¬ a=false)=(a=true))/\(∀ p:Prop,(¬ ¬ p)=p)/\
 (∀ a:Bool,(a==true)=a)/\(∀ a:Bool,(a==false)=!a)/\(∀ a:Bool,(true&&a)=a)/\(∀ a:Bool,(a&&true)=a)/\((!true)=false)/\((!false)=true)/\(∀ a:Bool,(!!a)=a)/\(∀ (α β:Type) (f:α->β) (l:List α),(l.map f).length=l.length):=by
 refine⟨fun p _=>by simp,fun p _=>by simp,fun a b=>by simp,fun a b=>by simp,fun a b=>rfl,fun a b=>rfl,fun α _ _ a b=>by simp,fun α _ _ a b=>by simp,fun α _ _ a b=>by simp,fun α _ _ a b=>by simp,fun a b=>by simp,fun a b=>by simp,fun a b=>by simp,fun a b=>by cases a <;> simp,
  fun a=>by simp,fun a=>by simp,fun a=>by simp,fun a=>by simp,fun p=>by simp,fun a=>by simp,fun a=>by simp,fun a=>by simp,fun a=>by simp,rfl,rfl,fun a=>by simp,fun _ _ f l=>Zaw ..⟩
section
variable {w w':World} {Pb Kb Pb':Nat->Prop} {N:Nat} {A A' A1 B:AS} {a:Act} {F:m0->List Nat}
end
theorem aB{P:Program} {f:FuncId} {fn:Func} {args:List V} {H:List (Nat×(Nat×V))} {N:Nat} {rs:List ResultVar} {E:V} {H':List (Nat×(Nat×V))}
 (hf:P.funcs[f]? =some fn) (sc:Sc P) (VC:Prop) (h:VC) (XF:(fn.name== "runtime.NumGoroutine")=false:=by kernel_rfl) (hb:fn.body.isSome=true:=by kernel_rfl) (hN:fn.ntmps=N:=by kernel_rfl) (TL:fn.results.toList=rs:=by kernel_rfl) (hlen:Nat.ble args.length N=true:=by kernel_rfl)
 (he:VC=go N (fn.body.getD .skip) ⟨enum 0 args,H⟩ sc (Ie N rs (fun v A=>vg A H' (wk v E=E)) H'):=by kernel_rfl):PF P f args H (fun r h=>r=E/\h=H'):=by
 cases Zx:fn.body with
 | none=>rw[Zx]at hb;cases hb
 | some c=>
   rw[Zx]at he
   exact LZ hf XF Zx hN TL hlen sc VC he h
abbrev Sc.q{P:Program}(n:Nat)(k:Sc P):Sc P:=.r n [] k
theorem bI{c:Bool}{P Q p q:Prop}(a:p->P)(b:q->Q)(h1:(c=true)=p:=by first | (conv=>lhs;simp only[nb]) | rfl)(h2:(c=false)=q:=by first | (conv=>lhs;simp only[nb]) | rfl):Br c P Q:=⟨fun h=>a (h1 ▸ h),fun h=>b (h2 ▸ h)⟩
mutual
def V.lits:V->Option (List Value)
 | .lit x=>if x.oneCell' then some [x] else none
 | .agg vs=>V.ue vs
 | _=>none
def V.ue:List V->Option (List Value)
 | []=>some []
 | v::vs=>match v.lits,V.ue vs with
   | some a,some b=>some (a++b)
   | _,_=>none
end
def V.val? :V->Option Value
 | .lit x=>if x.oneCell' then some x else none
 | .agg us=>(V.ue us).map fun l=>.agg l.toArray
 | .ptr _ _ g o=>some (.pointer (some ⟨g,o,none⟩))
 | _=>none
section
variable {w w':World} {Pb Kb Pb':Nat->Prop} {N:Nat} {A A' B:AS} {a:Act} {F:m0->List Nat} {P:Program} {ops:Array Oper}
mutual
theorem AX:∀ (v:V) {l},v.lits=some l->∀ {cs F},R w Pb v cs F↔cs=l/\F=[]
 | .lit x,l,h,cs,F=>by
   simp only[V.lits]at h
   split at h
   rename_i hx;simp at h;subst h;simp only[R];exact⟨fun h=>h.2,fun h=>⟨hx,h⟩⟩
   simp at h
 | .agg vs,l,h,cs,F=>by simp only[V.lits]at h;simp only[R];exact uC vs h
 | .sl ..,_,h,_,_=>by simp[V.lits]at h
 | .tup _,_,h,_,_=>by simp[V.lits]at h
 | .gv _ _,_,h,_,_=>by simp[V.lits]at h
 | .own ..,_,h,_,_=>by simp[V.lits]at h
 | .hd ..,_,h,_,_=>by simp[V.lits]at h
 | .ow ..,_,h,_,_=>by simp[V.lits]at h
 | .om ..,_,h,_,_=>by simp[V.lits]at h
 | .mp ..,_,h,_,_=>by simp[V.lits]at h
 | .ptr ..,_,h,_,_=>by simp[V.lits]at h
 | .ep _,_,h,_,_=>by simp[V.lits]at h
 | .b9,_,h,_,_=>by simp[V.lits]at h
theorem uC:∀ (vs:List V) {l},V.ue vs=some l->∀ {cs F},RL w Pb vs cs F↔cs=l/\F=[]
 | [],l,h,cs,F=>by simp[V.ue]at h;subst h;simp[RL]
 | v::vs,l,h,cs,F=>by
   simp only[V.ue]at h
   split at h
   rename_i a b h1 h2
   simp at h;subst h
   simp only[RL,AX v h1,uC vs h2]
   exact⟨fun⟨_,_,_,_,e1,e2,⟨e3,e4⟩,e5,e6⟩=>⟨by rw[e1,e3,e5],by rw[e2,e4,e6];rfl⟩,fun⟨e1,e2⟩=>⟨_,_,_,_,e1,(by rw[e2];rfl:_=([]:List Nat)++[]),⟨rfl,rfl⟩,rfl,rfl⟩⟩
   simp at h
end
theorem Ma{v:V}{x y:Value}{Fx:List Nat}(h:v.val? =some y)(hr:RV w Pb v x Fx):x=y/\Fx=[]:=by
 cases v with
 | lit z=>
   simp only[V.val?]at h
   split at h
   obtain⟨_,e,hF⟩:=(hr:R w Pb (.lit z) [x] Fx);simp at e h;exact⟨by rw[e,h],hF⟩
   simp at h
 | agg us=>
   simp only[V.val?,Option.map_eq_some_iff]at h
   obtain⟨l,h1,rfl⟩:=h
   obtain⟨cs,rfl,hr⟩:=(hr:∃ cs,x=.agg cs/\RL w Pb us cs.toList Fx)
   obtain⟨e1,e2⟩:=(uC us h1).1 hr
   exact⟨by rw[<- e1],e2⟩
 | ptr r p g o=>
   simp only[V.val?,Zal]at h;subst h
   obtain⟨hF,e⟩:=(hr:R w Pb (.ptr r p g o) [x] Fx);simp at e;exact⟨e,hF⟩
 | _=>simp[V.val?]at h
theorem vX{v:V}{y:Value}(h:v.val? =some y):RV w Pb v y []:=by
 cases v with
 | lit z=>
   simp only[V.val?]at h
   split at h
   rename_i hz;simp at h;subst h;exact⟨hz,rfl,rfl⟩
   simp at h
 | agg us=>
   simp only[V.val?,Option.map_eq_some_iff]at h
   obtain⟨l,h1,rfl⟩:=h
   exact⟨_,rfl,(uC us h1).2 ⟨rfl,rfl⟩⟩
 | ptr r p g o=>
   simp only[V.val?,Zal]at h;subst h
   exact⟨rfl,rfl⟩
 | _=>simp[V.val?]at h
theorem tJ(hs:s9 N Pb Kb A a w F){x:Operand}{y:Value}(h:(A.ev x).val? =some y):a.eval x=y:=by
 obtain⟨_,hr⟩:=eE hs x
 exact(Ma h hr).1
theorem CD{v:V}{y:Value}{vs:List V}{xs:List Value}(h:v.val? =some y)(hr:RVs w Pb vs xs []):RVs w Pb (v::vs) (y::xs) []:=by
 have:=vX (w:=w) (Pb:=Pb) h
 refine⟨y,xs,[],[],rfl,rfl,?_,hr⟩
 cases v with
 | agg us=>exact this
 | lit _=>exact this
 | ptr _ _ _ _=>exact this
 | _=>simp[V.val?]at h
theorem uI{v1 v2:V}{y1 y2:Value}(h1:v1.val? =some y1)(h2:v2.val? =some y2):RV w Pb (.tup [v1,v2]) (.tuple #[y1,y2]) []:=
 ⟨_,rfl,CD h1 (CD h2 ⟨rfl,rfl⟩)⟩
theorem s9.mod(hs:s9 N Pb Kb A a w F) {t g:Nat} {v':V} (hg:g∈F (.slot t)) (hk:∀ k,k≠g->w'.heap[k]? =w.heap[k]?) (hsz:w'.heap.size=w.heap.size)
 (hv:RV w' Pb v' (a.tmps.getD t undef) (F (.slot t))):s9 N Pb Kb (A.put (some t) v') a w' F where
 size:=hs.size
 defers:=hs.defers
 slot:=fun i=>by
  rw[AS.aJ]
  split
  rename_i e;subst e;exact hv
  rename_i e
  refine oO _ (hs.slot i) (fun x hx=>hk x fun c=>?_) (fun x hx=>hk x fun c=>?_) (fun _ h=>h) (fun x hx c=>(hs.free _ x hx).1 (hs.sub x c))
  subst c;exact(hs.free _ _ hg).1 (hs.sub _ hx)
  subst c;exact hs.cL (.slot i) (.slot t) (fun c=>e (by injection c)) _ hx hg
 root:=fun k g' v h=>by
  obtain⟨F',e,hA⟩:=hs.root k g' v h
  refine⟨F',e,?_⟩
  have hne:∀ x,x∈g'::F'->x≠g:=fun x hx c=>by
   subst c;exact hs.cL (.key k) (.slot t) Zab _ (by rw[e];exact hx) hg
  obtain⟨cs,cells,⟨e1,fr,hb,hfr⟩,hr,hc⟩:=hA
  exact⟨cs,cells,⟨e1,fr,(hk g' (hne g' Zab)).trans hb,hfr⟩,iu _ hr (fun x hx=>hk x fun c=>by subst c;exact(hs.free _ _ hg).1 (hs.sub _ hx)) (fun x hx=>hk x (hne x (by simp[hx]))) (fun _ h=>h)
   (fun x hx c=>(hs.free (.key k) x (by rw[e];simp[hx])).1 (hs.sub x c)),hc⟩
 cL:=hs.cL
 nodup:=hs.nodup
 free:=fun r x hx=>by rw[hsz];exact hs.free r x hx
 sub:=hs.sub
 bound:=fun x hx=>by rw[hsz];exact hs.bound x hx
theorem hX{o:Oper} {K:AS->Prop} {d:Nat} {v:V} (hd:o.dst=some d) (hN:d<N) (hK:K (A.put (some d) v))
 (h:∀ Pb Kb a w F,s9 N Pb Kb A a w F->∃ x,(execOp a.eval o).run P w=.ok (.value x) w/\RV w Pb v x []):F9 P N o A K:=
 ky (by rw[hd];exact hN) (by rw[hd];exact hK) h
end
section
variable {P:Program}
def YP:Cu P where
 X:=Unit
 pre N o A:=match o.op,o.dst with
  | .makeInterface T x,some d=>match Nat.blt d N,tD P T,(A.ev x).val? with
    | true,some _,some y=>(∃ td,P.underlying T=some td/\(∀ i,td≠.interface i))/\(Value.iface T y).oneCell'=true
    | _,_,_=>False
  | _,_=>False
 post _ o A:=match o.op,o.dst with
  | .makeInterface T x,some d=>match (A.ev x).val? with
    | some y=>A.put (some d) (.lit (.iface T y))
    | none=>A
  | _,_=>A
 ok:=by
  rintro N ⟨dst,op,ty,pos,after,D5⟩ A K-hp hK
  replace hK:=hK ()
  simp only at hp hK
  split at hp
  rename_i T x d
  split at hp
  rename_i td0 y e1 e2 e3
  obtain⟨⟨td,h1,h2⟩,h3⟩:=hp
  simp only[e3]at hK
  refine hX rfl (bW e1) hK fun Pb Kb a w F hs=>⟨.iface T y,?_,dH h3⟩
  have hy:=tJ hs e3
  have hu:=aQ (w:=w) h1
  cases td with
  | interface i=>exact absurd rfl (h2 i)
  | _=>simp[execOp,Instr.makeInterface,Zay,hu,hy]
  exact hp.elim
  exact hp.elim
def X7(v:V):Cu P where
 X:=Unit
 pre N o A:=match o.op,o.dst with
  | .typeAssert x _ T true,some d=>match Nat.blt d N,A.ev x,v.val? with
    | true,.lit (.iface T' y),some y'=>(∃ td,P.underlying T=some td/\(∀ i,td≠.interface i))/\T'=T/\y'=y
    | _,_,_=>False
  | _,_=>False
 post _ o A:=match o.dst with
  | some d=>A.put (some d) (.tup [v,bV true])
  | none=>A
 ok:=by
  rintro N ⟨dst,op,ty,pos,after,D5⟩ A K-hp hK
  replace hK:=hK ()
  simp only at hp hK
  split at hp
  rename_i x T1 T d
  split at hp
  rename_i T' y y' e1 e2 e3
  obtain⟨⟨td,h1,h2⟩,rfl,rfl⟩:=hp
  refine hX rfl (bW e1) hK fun Pb Kb a w F hs=>⟨.tuple #[y',.bool true],?_,uI e3 rfl⟩
  have hy:=cF hs e2
  have hu:=aQ (w:=w) h1
  cases td with
  | interface i=>exact absurd rfl (h2 i)
  | _=>simp[execOp,Instr.typeAssert,Zay,hu,hy]
  exact hp.elim
  exact hp.elim
def Xg(z:ZT P):Cu P where
 X:=Unit
 pre N o A:=match o.op,o.dst with
  | .typeAssert x _ T true,some d=>match Nat.blt d N,A.ev x,T==z.T with
    | true,.lit (.iface T' y),true=>(∃ td,P.underlying T=some td/\(∀ i,td≠.interface i))/\T'≠T/\(∃ y,z.v.val? =some y/\∀ w,(zeroValue T).run P w=.ok y w)
    | _,_,_=>False
  | _,_=>False
 post _ o A:=match o.dst with
  | some d=>A.put (some d) (.tup [z.v,bV false])
  | none=>A
 ok:=by
  rintro N ⟨dst,op,ty,pos,after,D5⟩ A K-hp hK
  replace hK:=hK ()
  simp only at hp hK
  split at hp
  rename_i x T1 T d
  split at hp
  rename_i T' y e1 e2 e3
  obtain⟨⟨td,h1,h2⟩,hne,y2,hz,Xk⟩:=hp
  refine hX rfl (bW e1) hK fun Pb Kb a w F hs=>⟨.tuple #[y2,.bool false],?_,uI hz rfl⟩
  have hy:=cF hs e2
  have hu:=aQ (w:=w) h1
  cases td with
  | interface i=>exact absurd rfl (h2 i)
  | _=>simp[execOp,Instr.typeAssert,Zay,hu,hy,hne,Xk]
  exact hp.elim
  exact hp.elim
def lb :List V->Option (List Value)
 | []=>some []
 | v::vs=>match v.val?,lb vs with
   | some y,some ys=>some (y::ys)
   | _,_=>none
theorem oF{N:Nat}{Pb Kb:Nat->Prop}{A:AS}{a:Act}{w:World}{F:m0->List Nat}(hs:s9 N Pb Kb A a w F):∀ (xs:List Operand) {ys:List Value},lb (xs.map A.ev)=some ys->xs.map a.eval=ys
 | [],ys,h=>by simp[lb]at h;simp[h]
 | x::xs,ys,h=>by
   simp only[Zbc,lb]at h
   split at h
   rename_i y YF h1 h2
   simp at h;subst h
   rw[Zbc,tJ hs h1,oF hs xs h2]
   simp at h
def UH:Cu P where
 X:=Unit
 pre N o A:=match o.op,o.dst with
  | .makeFunc fn first A3,some d=>match Nat.blt d N,lb (first.toList.map A.ev),lb (A3.toList.map A.ev) with
    | true,some l1,some l2=>(Value.func fn l1.toArray l2.toArray).oneCell'=true
    | _,_,_=>False
  | _,_=>False
 post _ o A:=match o.op,o.dst with
  | .makeFunc fn first A3,some d=>match lb (first.toList.map A.ev),lb (A3.toList.map A.ev) with
    | some l1,some l2=>A.put (some d) (.lit (.func fn l1.toArray l2.toArray))
    | _,_=>A
  | _,_=>A
 ok:=by
  rintro N ⟨dst,op,ty,pos,after,D5⟩ A K-hp hK
  replace hK:=hK ()
  simp only at hp hK
  split at hp
  rename_i fn first A3 d
  split at hp
  rename_i l1 l2 e1 e2 e3
  simp only[e2,e3]at hK
  refine hX rfl (bW e1) hK fun Pb Kb a w F hs=>⟨.func fn l1.toArray l2.toArray,?_,dH hp⟩
  have h1:=oF hs _ e2
  have h2:=oF hs _ e3
  have h1:first.map a.eval=l1.toArray:=by rw[<- h1];apply Array.ext';simp
  have h2:A3.map a.eval=l2.toArray:=by rw[<- h2];apply Array.ext';simp
  simp only[execOp,Instr.makeFunc,Zay,Zaq,Zaz,h1,h2]
  exact hp.elim
  exact hp.elim
end
section
variable {w w':World} {Pb Kb Pb':Nat->Prop} {N:Nat} {A A' B:AS} {a:Act} {F:m0->List Nat} {P:Program} {ops:Array Oper}
theorem Ga{v:V}{x:Value}(h:v.lits=some [x]):∀ n,RL w Pb (List.replicate n v) (List.replicate n x) []
 | 0=>⟨rfl,rfl⟩
 | n+1=>⟨[x],List.replicate n x,[],[],rfl,rfl,(AX v h).2 ⟨rfl,rfl⟩,Ga h n⟩
theorem MV{x:Value}{n:Nat}{zc:Array Value}(h:zc.toList=[x]):madeCells zc (n*1)=(List.replicate n x).toArray:=by
 have hz:zc= #[x]:=by rw[<- Array.toList_inj];simpa using h
 subst hz
 apply Array.ext
 simp[madeCells]
 intro i h1 h2;simp[madeCells,Nat.mod_one]at h1 ⊢
def Z4(z:ZT P)(n:Nat):Cu P where
 X:=Nat
 pre N o A:=match o.op,o.dst with
  | .makeSlice T l c,some d=>match Nat.blt d N,tD P T,ti P z.T with
    | true,some (.sl e),some i=>(e=z.T/\i.sz=1/\(∃ x,z.v.lits=some [x])/\z.v.n=1)/\A.ev l=.lit (.int .i64 n)/\A.ev c=.lit (.int .i64 n)/\1<=n/\n*i.Od<=140737488355328/\n<=9223372036854775807
    | _,_,_=>False
  | _,_=>False
 post g o A:=match o.dst with
  | some d=>A.put (some d) (.own 1 (List.replicate n z.v) g 0 n)
  | none=>A
 ok:=by
  rintro N ⟨dst,op,ty,pos,after,D5⟩ A K-hp hK
  simp only at hp hK
  split at hp
  rename_i T l c d
  split at hp
  rename_i e i e1 e2 e3
  obtain⟨⟨rfl,hsz,⟨x,hx⟩,Xl⟩,hl,hc,h1,Tu,h63⟩:=hp
  obtain⟨inf,z0,Oh,hzero,hfl⟩:=z.ok
  obtain⟨TG,_,I8,_,SR,Te,_⟩:=kP e3
  rw[Oh]at I8
  obtain rfl:=Option.some.inj I8
  have hu:=jU e2
  intro Pb Kb a w F Q hs
  have hl:=cF hs hl
  have hc:=cF hs hc
  have hz0:z0.cells.toList=[x]:=by
   have h1:=tF (w:=w) (Pb:=Pb) z.v hfl
   exact((AX z.v hx).1 h1).1
  have hm:=run_make (P:=P) w T z.T inf z0 hu Oh hzero .i64 .i64 n n Zaa Zaa (by rw[Te,<- Int.natCast_mul,Nat.mul_comm];omega) Zaa
  rw[Int.toNat_natCast,SR,hsz,MV hz0]at hm
  have OW:(execOp a.eval ⟨some d,.makeSlice T l c,ty,pos,after,D5⟩).run P w=.ok (.value (.slice (some ⟨w.heap.size,0,none⟩) n n)) (w.alloc (.cells (List.replicate n x).toArray z.T)):=by
   simp only[execOp,Zay,hl,hc,hm,Zaq,Zaz]
  unfold Oper.wp
  rw[OW,Oper.upon_value]
  have Pf:=hs.pK (.cells (List.replicate n x).toArray z.T)
  have Q9: ¬ Kb w.heap.size:=fun h=>by have:=hs.bound _ h;omega
  have hR:R (w.alloc (.cells (List.replicate n x).toArray z.T)) Pb (.own 1 (List.replicate n z.v) w.heap.size 0 n) [.slice (some ⟨w.heap.size,0,none⟩) n n] [w.heap.size]:=
   .inr ⟨h1,Nat.one_pos,Zab,Zab,fun v TK=>by rw[List.eq_of_mem_replicate TK];exact Xl,fun c=>Q9 (hs.sub _ c),_,[],_,rfl,Ga hx n,⟨z.T,(0,0),ij w _,fun i _ h=>by omega⟩,Zab,fun j u hu=>by rw[Zau,List.getElem?_toArray];exact hu⟩
  exact⟨_,Pb,Kb,_,hK _,Pf.put (bW e1) hR (fun r _ g hg=>by
   obtain rfl:=Zat.1 hg
   intro c;have:=(hs.free r _ c).2;omega) Zab (fun g hg=>by
   obtain rfl:=Zat.1 hg
   exact⟨Q9,by rw[ef];omega⟩),fun _ h=>h,fun _ h=>h,fun _ h=>.inl h,A4.alloc hs.bound _⟩
  exact hp.elim
  exact hp.elim
def bD:List (BL×Value)->BL->Option Value
 | [],_=>none
 | p::r,k=>if p.1=k then some p.2 else bD r k
def dh:List (BL×Value)->BL->Value->List (BL×Value)
 | [],k,x=>[(k,x)]
 | p::r,k,x=>if p.1=k then (k,x)::r else p::dh r k x
theorem str_inj{a b:BL}:((⟨a.toArray⟩:ByteArray)== ⟨b.toArray⟩)=decide (a=b):=by
 rw[Za4,MapKept.bytes_beq]
 simp
theorem my(k:BL):∀ (es:List (BL×Value)) (l:List MapEntry) (i:Nat),l.map (fun e=>(e.key,e.val))=es.map (fun p=>(Value.string ⟨p.1.toArray⟩,p.2))->
 (bD es k=none->Instr.findNow .string (.string ⟨k.toArray⟩) l i=some none)/\
 (∀ x,bD es k=some x->∃ j,Instr.findNow .string (.string ⟨k.toArray⟩) l i=some (some (i+j,x))/\j<l.length/\(∃ e,l[j]? =some e/\e.key=.string ⟨k.toArray⟩)/\
  ∀ y,(l.modify j fun e=>{ e with key:=.string ⟨k.toArray⟩,val:=y }).map (fun e=>(e.key,e.val))=(dh es k y).map (fun p=>(Value.string ⟨p.1.toArray⟩,p.2)))
 | [],l,i,h=>by
   have:l=[]:=by simpa using h
   subst this
   simp[bD,Instr.findNow]
 | p::r,l,i,h=>by
   cases l with
   | nil=>simp at h
   | cons e l=>
     simp only[Zbc,List.cons.injEq,Zao]at h
     obtain⟨⟨h1,h2⟩,h3⟩:=h
     obtain⟨i1,i2⟩:=my k r l (i+1) h3
     simp only[bD,dh,Instr.findNow,h1,Instr.sameNow,str_inj]
     by_cases hk:p.1=k
     subst hk
     simp only[if_true,decide_true]
     refine⟨Zab,fun x hx=>⟨0,?_,Zab,⟨e,rfl,h1⟩,fun y=>?_⟩⟩
     simp at hx;rw[h2,hx];rfl
     simp[h3]
     have C3: ¬ k=p.1:=fun c=>hk c.symm
     simp only[if_neg hk,decide_eq_false C3]
     refine⟨i1,fun x hx=>?_⟩
     obtain⟨j,j1,j2,⟨e',j3,j4⟩,j5⟩:=i2 x hx
     refine⟨j+1,by rw[j1];congr 2;simp;omega,Zaj,⟨e',by simpa using j3,j4⟩,fun y=>?_⟩
     have:=j5 y
     simp only[List.modify_succ_cons,Zbc,this,h1,h2]
theorem vi(k:BL)(y:Value):∀ (es:List (BL×Value)),bD es k=none->dh es k y=es++[(k,y)]
 | [],_=>rfl
 | p::r,h=>by
   simp only[bD]at h
   split at h
   simp at h
   rename_i hk;simp only[dh,if_neg hk,vi k y r h,List.cons_append]
theorem pd{e:Bool}{n:Nat}{T:Nat}{k:ByteArray}(h:P.underlying T=some .string):(Instr.checkKey e (n+1) T (.string k)).run P w=.ok () w:=by
 unfold Instr.checkKey
 simp[Zay,aQ (w:=w) h]
theorem Av{k:ByteArray}{n:Nat}:Instr.sameBits n (.string k) (.string k)=true:=by
 unfold Instr.sameBits
 exact(MapKept.bytes_beq k k).2 rfl
def UG:Cu P where
 X:=Nat
 pre N o A:=match o.op,o.dst with
  | .makeMap _ none,some d=>match Nat.blt d N with
    | true=>True
    | false=>False
  | _,_=>False
 post g o A:=match o.dst with
  | some d=>A.put (some d) (.om [] g)
  | none=>A
 ok:=by
  rintro N ⟨dst,op,ty,pos,after,D5⟩ A K-hp hK
  simp only at hp hK
  split at hp
  rename_i T d
  split at hp
  rename_i e1
  intro Pb Kb a w F Q hs
  have OW:(execOp a.eval ⟨some d,.makeMap T none,ty,pos,after,D5⟩).run P w=.ok (.value (.map (some w.heap.size))) (w.alloc (.map #[] 0)):=rfl
  unfold Oper.wp
  rw[OW,Oper.upon_value]
  have Pf:=hs.pK (.map #[] 0)
  have Q9: ¬ Kb w.heap.size:=fun h=>by have:=hs.bound _ h;omega
  have hR:R (w.alloc (.map #[] 0)) Pb (.om [] w.heap.size) [.map (some w.heap.size)] [w.heap.size]:=
   ⟨rfl,rfl,fun c=>Q9 (hs.sub _ c),#[],0,ij w _,rfl,Zab,Zab⟩
  exact⟨_,Pb,Kb,_,hK _,Pf.put (bW e1) hR (fun r _ g hg=>by
   obtain rfl:=Zat.1 hg
   intro c;have:=(hs.free r _ c).2;omega) Zab (fun g hg=>by
   obtain rfl:=Zat.1 hg
   exact⟨Q9,by rw[ef];omega⟩),fun _ h=>h,fun _ h=>h,fun _ h=>.inl h,A4.alloc hs.bound _⟩
  exact hp.elim
  exact hp.elim
def Ri(t0:Nat)(es:List (BL×Value))(k:BL)(y:Value):Cu P where
 X:=Unit
 pre N o A:=match o.op,o.dst with
  | .mapUpdate T m kx x,none=>match tD P T,Nat.blt t0 N with
    | some (.map kt _),true=>match tD P kt,A.ev m,A.get t0 with
      | some .str,.lit (.map (some g)),.om QA g'=>(g'=g/\QA=es)/\A.ev kx=sV k/\(A.ev x).val? =some y
      | _,_,_=>False
    | _,_=>False
  | _,_=>False
 post _ o A:=match A.get t0 with
  | .om _ g=>A.put (some t0) (.om (dh es k y) g)
  | _=>A
 ok:=by
  rintro N ⟨dst,op,ty,pos,after,D5⟩ A K-hp hK
  replace hK:=hK ()
  simp only at hp hK
  split at hp
  rename_i T m kx x
  split at hp
  rename_i kt et e1 e2
  split at hp
  rename_i g QA g' e3 e4 e5
  obtain⟨⟨rfl,rfl⟩,hk,hy⟩:=hp
  rw[e5]at hK
  intro Pb Kb a w F Q hs
  have hm:=cF hs e4
  have hk:=cF hs hk
  have hy:=tJ hs hy
  have h0:=hs.slot t0
  rw[e5]at h0
  have h0:R w Pb (.om QA g') [a.tmps.getD t0 undef] (F (.slot t0)):=h0
  obtain⟨hF,hc,Zh,en,cl,hb,Tt,hnd,hcl⟩:=h0
  obtain⟨td,hu,hd⟩:=df e1
  have hu:P.underlying T=some (.map kt et):=by
   cases td <;> simp_all[dS]
  obtain⟨TC,PS,Se⟩:=df e3
  have PS:P.underlying kt=some .string:=by
   cases TC <;> simp_all[dS]
  have U2:∀ w:World,(Instr.checkKey false 10000 kt (.string (Str k))).run P w=.ok () w:=fun w=>pd PS
  obtain⟨f1,f2⟩:=my k QA en.toList 0 Tt
  have hw:∃ Sk Ty,(Instr.mapUpdate T (.map (some g')) (.string (Str k)) y).run P w=.ok () { w with heap:=w.heap.setIfInBounds g' (.map Sk Ty) }/\
   Sk.toList.map (fun e=>(e.key,e.val))=(dh QA k y).map (fun p=>(.string ⟨p.1.toArray⟩,p.2))/\(Sk.toList.map (·.born)).Nodup/\∀ e∈Sk.toList,e.born<Ty:=by
   cases I3:bD QA k with
   | none=>
     have:=f1 I3
     refine⟨en.push { key:=.string (Str k),val:=y,born:=cl },cl+1,?_,?_,?_,?_⟩
     rw[show (⟨k.toArray⟩:ByteArray)=Str k from rfl]at this
     simp[Instr.mapUpdate,run_underlying hu,MapKept.run_getObj_map hb,U2,MapKept.run_findKey PS this,MapKept.run_setObj_map _ hb,Result.andThen]
     rw[vi k y QA I3];simp[Tt,Str]
     simp only[Array.toList_push,Za9,Zbc,List.map_nil]
     rw[List.nodup_append]
     refine⟨hnd,Zab,fun a ha b hb=>?_⟩
     simp only[Zat]at hb
     obtain⟨e,he,rfl⟩:=List.mem_map.1 ha
     have:=hcl e he;omega
     intro e he
     simp only[Array.toList_push,Zav,Zat]at he
     rcases he with he | rfl
     have:=hcl e he;omega
     simp
   | some x0=>
     obtain⟨j,j1,j2,⟨e,j3,j4⟩,j5⟩:=f2 x0 I3
     rw[Zau]at j1
     refine⟨en.modify j fun e=>{ e with key:=.string (Str k),val:=y },cl,?_,?_,?_,?_⟩
     rw[show (⟨k.toArray⟩:ByteArray)=Str k from rfl]at j1
     have V6:((en[j]?).map (·.key)).getD (.string (Str k))=.string (Str k):=by
      have:en[j]? =some e:=by rw[<- Array.getElem?_toList];exact j3
      rw[this];exact j4
     simp[Instr.mapUpdate,run_underlying hu,MapKept.run_getObj_map hb,U2,MapKept.run_findKey PS j1,V6,Instr.keyThatStays,Av,MapKept.run_setObj_map _ hb,Result.andThen]
     rw[Array.toList_modify];exact j5 y
     rw[Array.toList_modify]
     have:(en.toList.modify j fun e=>{ e with key:=.string (Str k),val:=y }).map (·.born)=en.toList.map (·.born):=by
      apply List.ext_getElem?
      intro i
      simp only[List.getElem?_map,List.getElem?_modify]
      cases en.toList[i]? with
      | none=>rfl
      | some e=>simp only[Option.map_eq_map,Option.map_some];split <;> rfl
     rw[this];exact hnd
     intro e he
     rw[Array.toList_modify]at he
     obtain⟨i,hi⟩:=List.mem_iff_getElem?.1 he
     rw[List.getElem?_modify]at hi
     obtain⟨e',h1,h2⟩:=Option.map_eq_some_iff.1 hi
     have:=hcl e' (Za5 h1)
     rw[<- h2];split <;> simpa using this
  obtain⟨Sk,Ty,B6,q1,q2,q3⟩:=hw
  have WJ:g'<w.heap.size:=(hs.free (.slot t0) g' (by rw[hF];simp)).2
  have OW:(execOp a.eval ⟨none,.mapUpdate T m kx x,ty,pos,after,D5⟩).run P w=.ok .skip { w with heap:=w.heap.setIfInBounds g' (.map Sk Ty) }:=by
   simp[execOp,hm,hk,hy,B6,Result.andThen]
  unfold Oper.wp
  rw[OW,Oper.upon_skip]
  have hne:∀ k,k≠g'->(w.heap.setIfInBounds g' (.map Sk Ty))[k]? =w.heap[k]? :=fun k hk=>by
   rw[Array.getElem?_setIfInBounds_ne (Ne.symm hk)]
  refine⟨_,Pb,Kb,F,hK,hs.mod (w':={ w with heap:=w.heap.setIfInBounds g' (.map Sk Ty) }) (t:=t0) (g:=g') (by rw[hF];simp) hne Zab ?_,fun _ h=>h,fun _ h=>h,fun _ h=>.inl h,⟨rfl,rfl,rfl,Zab,fun k hk=>hne k fun c=>(hs.free (.slot t0) g' (by rw[hF];simp)).1 (c ▸ hk),fun k c _ _ hk=>⟨c,by rw[hne k (by rintro rfl;rw[hb]at hk;cases hk)];exact hk,rfl⟩⟩⟩
  exact(⟨hF,hc,Zh,Sk,Ty,(by simp[WJ]:(w.heap.setIfInBounds g' (.map Sk Ty))[g']? =some (.map Sk Ty)),q1,q2,q3⟩:R { w with heap:=w.heap.setIfInBounds g' (.map Sk Ty) } Pb (.om (dh QA k y) g') _ _)
  exact hp.elim
  exact hp.elim
  exact hp.elim
def mlC(t0:Nat):Cu P where
 X:=Unit
 pre N o A:=match o.op,o.dst with
  | .call ⟨.builtin .len,⟨[x]⟩,⟨[T]⟩⟩,some d=>match tD P T,Nat.blt d N with
    | some (.map _ _),true=>match A.ev x,A.get t0 with
      | .lit (.map (some g)),.om _ g'=>g'=g
      | _,_=>False
    | _,_=>False
  | _,_=>False
 post _ o A:=match o.dst,A.get t0 with
  | some d,.om es _=>A.put (some d) (.lit (.int .i64 es.length))
  | _,_=>A
 ok:=by
  rintro N ⟨dst,op,ty,pos,after,D5⟩ A K-hp hK
  replace hK:=hK ()
  simp only at hp hK
  split at hp
  rename_i x T d
  split at hp
  rename_i kt et e1 e2
  split at hp
  rename_i g es g' e3 e4
  subst hp
  rw[e4]at hK
  refine hX rfl (bW e2) hK fun Pb Kb a w F hs=>⟨.int .i64 es.length,?_,dH rfl⟩
  have hm:=cF hs e3
  have h0:=hs.slot t0
  rw[e4]at h0
  have h0:R w Pb (.om es g') [a.tmps.getD t0 undef] (F (.slot t0)):=h0
  obtain⟨hF,hc,Zh,en,cl,hb,Tt,hnd,hcl⟩:=h0
  obtain⟨td,hu,hd⟩:=df e1
  have hu:P.underlying T=some (.map kt et):=by
   cases td <;> simp_all[dS]
  have hl:en.size=es.length:=by
   have:=Zbk List.length Tt
   simpa using this
  have hr:((#[x]:Array Operand).map a.eval)= #[.map (some g')]:=by simp[hm]
  simp[execOp,resolve,Deferred.ofValue,invoke,builtin,Builtin.len_,hm,run_underlying hu,MapKept.run_getObj_map hb,Result.andThen,hl,goInt]
  exact hp.elim
  exact hp.elim
  exact hp.elim
def lkC(es:List (BL×Value))(k:BL)(v:V)(ok:Bool):Cu P where
 X:=Unit
 pre N o A:=match o.op,o.dst with
  | .lookup T x kx true,some d=>match tD P T,Nat.blt d N with
    | some (.map kt et),true=>match tD P kt,A.ev x with
      | some .str,.mp QA=>(QA=es)/\A.ev kx=sV k/\((ok=true/\∃ y,bD es k=some y/\v.val? =some y)\/(ok=false/\bD es k=none/\∃ y,v.val? =some y/\∀ w,(zeroValue et).run P w=.ok y w))
      | _,_=>False
    | _,_=>False
  | _,_=>False
 post _ o A:=match o.dst with
  | some d=>A.put (some d) (.tup [v,bV ok])
  | none=>A
 ok:=by
  rintro N ⟨dst,op,ty,pos,after,D5⟩ A K-hp hK
  replace hK:=hK ()
  simp only at hp hK
  split at hp
  rename_i T x kx d
  split at hp
  rename_i kt et e1 e2
  split at hp
  rename_i QA e3 e4
  obtain⟨rfl,hk,hy⟩:=hp
  obtain⟨td,hu,hd⟩:=df e1
  have hu:P.underlying T=some (.map kt et):=by
   cases td <;> simp_all[dS]
  obtain⟨TC,PS,Se⟩:=df e3
  have PS:P.underlying kt=some .string:=by
   cases TC <;> simp_all[dS]
  have G9:∃ y,v.val? =some y:=by
   rcases hy with ⟨_,y,_,h⟩ | ⟨_,_,y,h,_⟩ <;> exact⟨y,h⟩
  obtain⟨y,hv⟩:=G9
  refine hX rfl (bW e2) hK fun Pb Kb a w F hs=>⟨.tuple #[y,.bool ok],?_,uI hv rfl⟩
  have hk:=cF hs hk
  obtain⟨_,hx⟩:=eE hs x
  rw[e4]at hx
  have hx:R w Pb (.mp QA) [a.eval x] _:=hx
  obtain⟨_,g,hc,_,en,cl,hb,Tt,_,_⟩:=hx
  simp only[List.cons.injEq,and_true]at hc
  obtain⟨f1,f2⟩:=my k QA en.toList 0 Tt
  have U2:∀ e,(Instr.checkKey e 10000 kt (.string (Str k))).run P w=.ok () w:=fun e=>pd PS
  rcases hy with ⟨rfl,y',h1,h2⟩ | ⟨rfl,h1,y',h2,Xk⟩
  rw[hv]at h2;obtain rfl:=Option.some.inj h2
  obtain⟨j,j1,_⟩:=f2 _ h1
  rw[show (⟨k.toArray⟩:ByteArray)=Str k from rfl]at j1
  simp[execOp,hc,hk,Instr.lookup,run_underlying hu,MapKept.run_getObj_map hb,U2,MapKept.run_findKey PS j1,Result.andThen]
  rw[hv]at h2;obtain rfl:=Option.some.inj h2
  have j1:=f1 h1
  rw[show (⟨k.toArray⟩:ByteArray)=Str k from rfl]at j1
  simp[execOp,hc,hk,Instr.lookup,run_underlying hu,MapKept.run_getObj_map hb,U2,MapKept.run_findKey PS j1,Result.andThen,Xk]
  exact hp.elim
  exact hp.elim
  exact hp.elim
def Z5:Cu P where
 X:=Unit
 pre N o A:=match o.op,o.dst with
  | .call ⟨.builtin .len,⟨[x]⟩,⟨[T]⟩⟩,some d=>match tD P T,Nat.blt d N with
    | some (.map _ _),true=>match A.ev x with
      | .mp _=>True
      | _=>False
    | _,_=>False
  | _,_=>False
 post _ o A:=match o.op,o.dst with
  | .call ⟨.builtin .len,⟨[x]⟩,⟨[_]⟩⟩,some d=>match A.ev x with
    | .mp es=>A.put (some d) (.lit (.int .i64 es.length))
    | _=>A
  | _,_=>A
 ok:=by
  rintro N ⟨dst,op,ty,pos,after,D5⟩ A K-hp hK
  replace hK:=hK ()
  simp only at hp hK
  split at hp
  rename_i x T d
  split at hp
  rename_i kt et e1 e2
  split at hp
  rename_i es e3
  simp only[e3]at hK
  refine hX rfl (bW e2) hK fun Pb Kb a w F hs=>⟨.int .i64 es.length,?_,dH rfl⟩
  obtain⟨_,hx⟩:=eE hs x
  rw[e3]at hx
  have hx:R w Pb (.mp es) [a.eval x] _:=hx
  obtain⟨_,g,hm,_,en,cl,hb,Tt,_,_⟩:=hx
  simp only[List.cons.injEq,and_true]at hm
  obtain⟨td,hu,hd⟩:=df e1
  have hu:P.underlying T=some (.map kt et):=by
   cases td <;> simp_all[dS]
  have hl:en.size=es.length:=by
   have:=Zbk List.length Tt
   simpa using this
  simp[execOp,resolve,Deferred.ofValue,invoke,builtin,Builtin.len_,hm,run_underlying hu,MapKept.run_getObj_map hb,Result.andThen,hl,goInt]
  exact hp.elim
  exact hp.elim
  exact hp.elim
end
theorem drop_cons{α:Type}{l:List α}{i:Nat}(h:i<l.length)(d:α):l.drop i=l.getD i d::l.drop (i+1):=by
 rw[List.drop_eq_getElem_cons h,Zak,Zar h];rfl
theorem bA{α:Type}{l:List α}{i:Nat}(h:i<l.length)(d:α):l.take (i+1)=l.take i++[l.getD i d]:=by
 rw[List.take_add_one,Zak,Zar h];rfl
theorem all_false{α:Type}{l:List α}{p:α->Bool}{i:Nat}{d:α}(h:i<l.length)(hp:p (l.getD i d)=false):l.all p=false:=by
 rw[List.all_eq_false]
 refine⟨l.getD i d,?_,by rw[hp];decide⟩
 rw[Zak,Zar h];exact List.getElem_mem h
theorem all_true{α:Type}{l:List α}{p:α->Bool}{d:α}(hp:∀ j,j<l.length->p (l.getD j d)=true):l.all p=true:=by
 rw[Za0]
 intro x hx
 obtain⟨j,hj,rfl⟩:=List.getElem_of_mem hx
 have:=hp j hj
 rwa [Zak,Zar hj]at this
theorem bJ{p:Nat->Prop}{i:Nat}(h:∀ j,j<i->p j)(hi:p i):∀ j,j<i+1->p j:=fun j hj=>by
 rcases Nat.lt_succ_iff_lt_or_eq.1 hj with h' | rfl
 exact h j h'
 exact hi
def af(c:UInt8):BL->BL×BL×Bool
 | []=>([],[],false)
 | x::r=>if x=c then ([],r,true) else (x::(af c r).1,(af c r).2.1,(af c r).2.2)
def iK(b:UInt8):Bool:=decide (97<=b.toNat/\b.toNat<=122)
def eW(b:UInt8):Bool:=decide ((97<=b.toNat/\b.toNat<=122)\/(48<=b.toNat/\b.toNat<=57)\/b.toNat=46\/b.toNat=45)
def cU(b:UInt8):Int:=if 48<=b.toNat/\b.toNat<=57 then b.toNat-48 else if 97<=b.toNat/\b.toNat<=102 then b.toNat-87 else if 65<=b.toNat/\b.toNat<=70 then b.toNat-55 else -1
def x4(n lo hi:Int):Bool:=decide (lo<=n/\n<=hi)
def gW(s:BL):Bool:=s.all iK
def cW(s:BL):Bool:=gW s&&x4 s.length 1 5
def aZ(s:BL):Bool:=gW s&&x4 s.length 1 8
def gj(s part:BL)(from_:Nat):Int:=
 if h:from_+part.length<=s.length then (if (s.drop from_).take part.length=part then (from_:Int) else gj s part (from_+1)) else -1
 termination_by s.length+1-from_
def jZ(b:UInt8):Bool:=eW b||decide (b.toNat=47\/b.toNat=42\/b.toNat=63\/b.toNat=37\/(65<=b.toNat/\b.toNat<=70))
def mG(p:BL)(j:Nat):Bool:=jZ (p.getD j 0)||(decide ((p.getD j 0).toNat=36)&&decide (j+1=p.length))
def aI(p:BL):Bool:=decide (1<=p.length/\p.length<=16/\(p.getD 0 0).toNat=47/\∀ j,j<p.length->mG p j=true)
def mD:BL:=[48,49,50,51,52,53,54,55,56,57,65,66,67,68,69,70]
def fQ(b:UInt8):BL:=[37,mD.getD (b.toNat / 16) 0,mD.getD (b.toNat % 16) 0]
def fI(b:UInt8):BL:=if eW b then [b] else fQ b
def dG(a b:UInt8):UInt8:=UInt8.ofNat (cU a*16+cU b).toNat
def cn:BL->Option BL
 | []=>some []
 | [c]=>if c.toNat=37 then none else some (fI c)
 | [c,d]=>if c.toNat=37\/d.toNat=37 then none else some (fI c++fI d)
 | c::a::b::r=>if c.toNat=37 then (if 0<=cU a/\0<=cU b then (cn r).map (fI (dG a b)++ ·) else none) else (cn (a::b::r)).map (fI c++ ·)
def cw(s:BL):BL×Bool:=if s.length<=60 then (match cn s with | some x=>(x,true) | none=>([],false)) else ([],false)
def fP(s:BL):Bool:=(cw s).2&&((cw s).1==s)
theorem ED{c:UInt8}{r:BL}(h: ¬ c.toNat=37):cn (c::r)=(cn r).map (fI c++ ·):=by
 match r with
 | []=>simp[cn,h]
 | [d]=>by_cases hd:d.toNat=37 <;> simp[cn,h,hd]
 | a::b::r=>simp[cn,h]
theorem pW{s:BL}{i:Nat}(hi:i<s.length)(h: ¬ (s.getD i 0).toNat=37):cn (s.drop i)=(cn (s.drop (i+1))).map (fI (s.getD i 0)++ ·):=by
 rw[drop_cons hi 0,ED h]
theorem rv{s:BL}{i:Nat}(hi:i+2<s.length)(h:(s.getD i 0).toNat=37)(h1:0<=cU (s.getD (i+1) 0))(h2:0<=cU (s.getD (i+2) 0)):
 cn (s.drop i)=(cn (s.drop (i+3))).map (fI (dG (s.getD (i+1) 0) (s.getD (i+2) 0))++ ·):=by
 rw[drop_cons (by omega:i<s.length) 0,drop_cons (by omega:i+1<s.length) 0,drop_cons (by omega:i+1+1<s.length) 0]
 simp only[cn,h,if_true,h1,h2,and_self,Zbh]
theorem Aj{s:BL}{i:Nat}(hi:i<s.length)(h:(s.getD i 0).toNat=37)(h1:s.length<=i+2\/cU (s.getD (i+1) 0)<0\/cU (s.getD (i+2) 0)<0):cn (s.drop i)=none:=by
 rw[drop_cons hi 0]
 by_cases h2:i+2<s.length
 rw[drop_cons (by omega:i+1<s.length) 0,drop_cons (by omega:i+1+1<s.length) 0]
 simp only[cn,h,if_true]
 rw[if_neg]
 rintro⟨k1,k2⟩
 have e:i+1+1=i+2:=rfl
 rw[e]at k2
 omega
 by_cases h3:i+1<s.length
 rw[drop_cons h3 0,Za6 Zaa]
 simp only[cn,h,true_or,if_true]
 rw[Za6 Zaa]
 simp only[cn,h,if_true]
theorem hZ(b:UInt8):cU b<16:=by unfold cU;repeat (split <;> try omega)
theorem jK(b:UInt8): -1<=cU b:=by unfold cU;repeat (split <;> try omega)
theorem vO{a b:UInt8}(h1:0<=cU a)(h2:0<=cU b):((dG a b).toNat:Int)=cU a*16+cU b:=by
 have:=hZ a;have:=hZ b
 unfold dG
 rw[UInt8.toNat_ofNat']
 omega
theorem sF{α:Type}{l:List α}{k:Nat}(h:k<l.length)(d:α):(l.take (k+1)).drop k=[l.getD k d]:=by
 rw[bA h d,List.drop_append_of_le_length Zaj,Za6 Zaj];rfl
theorem fO(b:UInt8):(fI b).length<=3:=by unfold fI fQ;split <;> simp
theorem vD:∀ (s:BL) {x:BL},cn s=some x->x.length<=3*s.length
 | [],x,h=>by simp[cn]at h;subst h;simp
 | [c],x,h=>by
   simp only[cn]at h;split at h
   simp at h
   simp only[Zal]at h;subst h;have:=fO c;simpa using this
 | [c,d],x,h=>by
   simp only[cn]at h;split at h
   simp at h
   simp only[Zal]at h;subst h;have:=fO c;have:=fO d;simp;omega
 | c::a::b::r,x,h=>by
   simp only[cn]at h
   split at h
   split at h
   simp only[Option.map_eq_some_iff]at h
   obtain⟨y,hy,rfl⟩:=h
   have:=vD r hy;have:=fO (dG a b);simp;omega
   simp at h
   simp only[Option.map_eq_some_iff]at h
   obtain⟨y,hy,rfl⟩:=h
   have:=vD (a::b::r) hy;have:=fO c;simp at *;omega
theorem rn(s:BL):(cw s).1.length<=180:=by
 unfold cw
 split
 split
 rename_i x h;have:=vD s h;simp only;omega
 simp
 simp
def an(c:UInt8):BL->List BL
 | []=>[[]]
 | x::r=>if x=c then []::an c r else (x::(an c r).headD [])::(an c r).tail
theorem wB(c:UInt8):∀ r,an c r=(af c r).1::(if (af c r).2.2=true then an c (af c r).2.1 else [])
 | []=>rfl
 | x::r=>by
   have ih:=wB c r
   by_cases h:x=c
   simp only[an,af,if_pos h,if_true]
   simp only[an,af,if_neg h]
   rw[ih];rfl
theorem zY(c:UInt8):∀ r,(af c r).2.2=true->(af c r).2.1.length<r.length
 | [],h=>by simp[af]at h
 | x::r,h=>by
   simp only[af]at h ⊢
   by_cases e:x=c
   rw[if_pos e];simp
   rw[if_neg e]at h ⊢
   have:=zY c r h
   simp only[Zap];omega
theorem nV(c:UInt8):∀ r,(af c r).1.length+(af c r).2.1.length<=r.length
 | []=>by simp[af]
 | x::r=>by
   simp only[af]
   by_cases e:x=c
   rw[if_pos e];simp
   rw[if_neg e];have:=nV c r;simp only[Zap];omega
def dt(o:List BL)(p:BL):List BL:=if p=[]\/p=[46] then o else if p=[46,46] then o.dropLast else o++[p]
def cy(ps:List BL):List BL:=ps.foldl dt []
theorem jr{ps:List BL}{i:Nat}(h:i<ps.length):cy (ps.take (i+1))=dt (cy (ps.take i)) (ps.getD i []):=by
 unfold cy
 rw[bA h [],List.foldl_append];rfl
structure s4 where
 b7:BL
 e9:List BL
 asks:Bool
 ask:BL
def cI:List BL->BL
 | []=>[]
 | [p]=>p
 | p::q::r=>p++[47]++cI (q::r)
theorem oI(p:BL):∀ (ps:List BL),cI (ps++[p])=if ps=[] then p else cI ps++[47]++p
 | []=>rfl
 | [q]=>by simp[cI]
 | q::r::t=>by
   have:=oI p (r::t)
   simp only[List.cons_append,cI]at this ⊢
   rw[this,if_neg Zab,if_neg Zab]
   simp[List.append_assoc]
def bz(a:s4):BL:=[47]++cI a.e9++(if a.asks=true then [63]++a.ask else [])
def cX(a:s4):BL:=[47,47]++a.b7++bz a
def fb(p:BL):Bool:=fP p&&!(p==[])&&!(p==[46])&&!(p==[46,46])
def aO(a:s4):Bool:=cW a.b7&&decide (a.e9.length<=5)&&fP a.ask&&(a.asks||a.ask==[])&&a.e9.all fb&&decide ((cX a).length<=60)
def eZ(a:s4):Prop:=a.b7.length<=1048576/\a.ask.length<=1048576/\a.e9.length<=1048576/\∀ i,(a.e9.getD i []).length<=1048576
theorem sX{ps:List BL}(h:∀ i,(ps.getD i []).length<=1048576):∀ i,i<=ps.length->(cI (ps.take i)).length<=i*1048577
 | 0,_=>by simp[cI]
 | i+1,hi=>by
   have:=sX h i Zaa
   have h2:=h i
   rw[bA (by omega:i<ps.length) [],oI]
   split
   omega
   simp only[Zan,Zap,Zas];omega
theorem Fe{a:s4}(h:eZ a):(bz a).length<=2199023255552:=by
 obtain⟨h1,h2,h3,h4⟩:=h
 have:=sX h4 a.e9.length (Zba _)
 rw[List.take_length]at this
 unfold bz
 split <;> simp <;> omega
theorem pY{s:BL}(h:fP s=true):s.length<=60:=by
 unfold fP cw at h
 split at h
 assumption
 simp at h
def eM(b:UInt8):UInt8:=if 65<=b.toNat/\b.toNat<=90 then b+32 else b
def bm(s:BL):BL:=s.map eM
theorem zg{x:UInt8}(h:65<=x.toNat/\x.toNat<=90):(eM x).toNat=x.toNat+32:=by
 unfold eM
 rw[if_pos h,UInt8.toNat_add]
 have:(32:UInt8).toNat=32:=rfl
 omega
theorem sZ{s l:BL}{i:Nat}(hi:i<s.length)(h:l=bm (s.take i)++s.drop i):l.getD i 0=s.getD i 0:=by
 have hl:(bm (s.take i)).length=i:=by simp[bm];omega
 rw[h,Zak,Za2 Zaa,hl,Nat.sub_self,drop_cons hi 0];rfl
theorem wm{s l:BL}{i:Nat}(hi:i<s.length)(h:l=bm (s.take i)++s.drop i):l.set i (eM (s.getD i 0))=bm (s.take (i+1))++s.drop (i+1):=by
 have hl:(bm (s.take i)).length=i:=by simp[bm];omega
 rw[h,List.set_append_right _ _ Zaa,hl,Nat.sub_self,drop_cons hi 0,bA hi 0]
 simp[bm]
theorem yH{s l:BL}{i:Nat}(hi:i<s.length)(h:l=bm (s.take i)++s.drop i):l.set i (eM (l.getD i 0))=bm (s.take (i+1))++s.drop (i+1):=by
 rw[sZ hi h];exact wm hi h
theorem wN{s l:BL}{i:Nat}(hi:i<s.length)(h:l=bm (s.take i)++s.drop i)(hn: ¬ (65<=(l.getD i 0).toNat/\(l.getD i 0).toNat<=90)):l=bm (s.take (i+1))++s.drop (i+1):=by
 rw[<- wm hi h]
 rw[sZ hi h]at hn
 rw[show eM (s.getD i 0)=s.getD i 0 from if_neg hn,<- sZ hi h]
 have hlt:i<l.length:=by rw[h];simp[bm];omega
 apply List.ext_getElem?
 intro j
 by_cases e:i=j
 subst e;simp[hlt]
 rw[List.getElem?_set_ne e]
def oA(o:Option s4):s4:=o.getD ⟨[],[],false,[]⟩
def fG(x:BL):BL:=(cw x).1
def gz(x:BL):Bool:=(cw x).2
def cR(h:BL)(fr:List BL)(o5:BL):Option s4:=
 if ((an 47 (af 63 o5).1).all gz&&gz (af 63 o5).2.1)=true then
  (if aO ⟨h,cy (fr++(an 47 (af 63 o5).1).map fG),(af 63 o5).2.2,fG (af 63 o5).2.1⟩=true then some ⟨h,cy (fr++(an 47 (af 63 o5).1).map fG),(af 63 o5).2.2,fG (af 63 o5).2.1⟩ else none) else none
theorem tt(c:UInt8):∀ s:BL,(an c s).length<=s.length+1
 | []=>by simp[an]
 | x::r=>by
   have:=tt c r
   simp only[an]
   split
   simp;omega
   simp;omega
theorem GK(l:List BL)(n:Nat)(h:∀ p∈l,p.length<=n):(l.headD []).length<=n:=by
 cases l with
 | nil=>simp
 | cons a l=>exact h a Zab
theorem za(c:UInt8):∀ (s:BL),∀ p∈an c s,p.length<=s.length
 | [],p,hp=>by simp[an]at hp;subst hp;simp
 | x::r,p,hp=>by
   have ih:=za c r
   simp only[an]at hp
   split at hp
   simp only[List.mem_cons]at hp
   rcases hp with rfl | hp
   simp
   have:=ih p hp;simp;omega
   simp only[List.mem_cons]at hp
   rcases hp with rfl | hp
   have:=GK _ _ ih;simp at this ⊢;omega
   have:=ih p (List.mem_of_mem_tail hp);simp;omega
theorem mI{ps:List BL}{n:Nat}(h:∀ p∈ps,p.length<=n)(i:Nat):(ps.getD i []).length<=n:=by
 rw[Zak]
 cases e:ps[i]? with
 | none=>simp
 | some p=>exact h p (Za5 e)
theorem tl(c:UInt8)(s:BL)(i:Nat):((an c s).getD i []).length<=s.length:=mI (za c s) i
theorem wv(ps:List BL):∀ (o:List BL),(∀ p∈ps.foldl dt o,p∈o\/p∈ps)/\(ps.foldl dt o).length<=o.length+ps.length:=by
 induction ps with
 | nil=>intro o;exact⟨fun p h=>.inl h,Zab⟩
 | cons q ps ih=>
   intro o
   obtain⟨h1,h2⟩:=ih (dt o q)
   have hs:(∀ p∈dt o q,p∈o\/p=q)/\(dt o q).length<=o.length+1:=by
    unfold dt
    split
    exact⟨fun p h=>.inl h,Zaa⟩
    split
    exact⟨fun p h=>.inl (List.dropLast_subset _ h),Zaj⟩
    exact⟨fun p h=>by simpa using h,Zab⟩
   refine⟨fun p hp=>?_,by simp only[List.foldl_cons,Zap];omega⟩
   rcases h1 p hp with h | h
   rcases hs.1 p h with h | h
   exact .inl h
   exact .inr (by simp[h])
   exact .inr (by simp[h])
theorem yK{ps:List BL}{p:BL}(h:p∈cy ps):p∈ps:=by
 rcases (wv ps []).1 p h with h | h
 simp at h
 exact h
theorem yq(ps:List BL):(cy ps).length<=ps.length:=by have:=(wv ps []).2;simp only[Zas,Zau]at this;exact this
theorem LX{a:s4}{ls:List BL}{k:Bool}{q:BL}(ha:eZ a)(hp:a.e9.length<=1000)(hl:ls.length<=2000):eZ ⟨a.b7,cy (a.e9++ls.map fG),k,fG q⟩:=by
 obtain⟨h1,h2,h3,h4⟩:=ha
 refine⟨h1,?_,?_,fun i=>?_⟩
 have:=rn q;simp only[fG];omega
 have:=yq (a.e9++ls.map fG);simp only[Zan,Zaw]at this ⊢;omega
 refine mI (n:=1048576) (fun p XC=>?_) i
 rcases Zav.1 (yK XC) with h | h
 obtain⟨j,hj,rfl⟩:=List.getElem_of_mem h
 have:=h4 j
 rwa [Zak,Zar hj]at this
 obtain⟨y,_,rfl⟩:=List.mem_map.1 h
 have:=rn y;simp only[fG];omega
def jS(c:UInt8):Bool:=decide (¬ (c.toNat=47\/c.toNat=63))
theorem Aa{s:BL}{p:UInt8->Bool}:∀ {i:Nat},i<=s.length->(∀ j,j<i->p (s.getD j 0)=true)->(i=s.length\/p (s.getD i 0)=false)->s.takeWhile p=s.take i/\s.dropWhile p=s.drop i:=by
 induction s with
 | nil=>intro i hi _ _;simp
 | cons x s ih=>
   intro i hi h1 h2
   cases i with
   | zero=>
     rcases h2 with h2 | h2
     simp at h2
     have:p x=false:=by simpa using h2
     simp[List.takeWhile_cons,List.dropWhile_cons,this]
   | succ i=>
     have hx:p x=true:=by simpa using h1 0 Zaa
     obtain⟨k1,k2⟩:=ih (i:=i) (by simpa using hi) (fun j hj=>by have:=h1 (j+1) Zaa;simpa using this) (by
      rcases h2 with h2 | h2
      left;simpa using h2
      right;simpa using h2)
     simp[List.takeWhile_cons,List.dropWhile_cons,hx,k1,k2]
def eh(rest:BL):Option s4:=cR (bm (rest.takeWhile jS)) [] (rest.dropWhile jS)
def aC(raw:BL):Option s4:=
 if raw.length<=60/\2<=(af 35 raw).1.length/\(af 35 raw).1.take 2=[47,47] then eh ((af 35 raw).1.drop 2) else none
def bY(a:s4):BL:=if aO a=true then cX a else []
def aA(s:BL):Bool:=(aC s).isSome&&(bY (oA (aC s))==s)
theorem Ms{h:BL}{fr:List BL}{o5:BL}{a:s4}(e:cR h fr o5=some a):aO a=true:=by
 unfold cR at e
 split at e
 split at e
 rename_i hk;simp only[Zal]at e;subst e;exact hk
 simp at e
 simp at e
theorem KM{s:BL}{a:s4}(e:aC s=some a):aO a=true:=by
 unfold aC at e
 split at e
 exact Ms e
 simp at e
theorem MS{a:s4}(h:aO a=true):eZ a:=by
 unfold aO cW x4 at h
 simp only[Zam,Zbi,Za0]at h
 obtain⟨⟨⟨⟨⟨⟨_,h1⟩,h2⟩,h3⟩,_⟩,h4⟩,_⟩:=h
 have:=pY h3
 refine⟨Zaa,Zaa,Zaa,fun i=>mI (n:=1048576) (fun p hp=>?_) i⟩
 have:=h4 p hp
 unfold fb at this
 simp only[Zam]at this
 have:=pY this.1.1.1
 omega
theorem wZ(s:BL):eZ (oA (aC s)):=by
 cases e:aC s with
 | none=>exact⟨by simp[oA],by simp[oA],by simp[oA],by simp[oA]⟩
 | some a=>exact MS (KM e)
def fH(p:BL):Bool:=decide ((p.getD (p.length-1) 0).toNat=36)
def bU(p:BL):BL:=if fH p=true then p.take (p.length-1) else p
def ly(e:Bool)(s:BL):Nat->List BL->Bool
 | at_,[]=>!e||decide (at_=s.length)
 | at_,p::r=>if (e&&r.isEmpty)=true then decide (at_+p.length<=s.length)&&(s.drop (s.length-p.length)==p)
   else if gj s p at_<0 then false else ly e s ((gj s p at_).toNat+p.length) r
def ra(p s:BL):Bool:=
 ((an 42 (bU p)).headD []).isPrefixOf s&&ly (fH p) s ((an 42 (bU p)).headD []).length (an 42 (bU p)).tail
theorem NZ{e:Bool}{s p:BL}{q:Nat}{r:List BL}(h: ¬ (e=true/\r=[]))(hf:gj s p q<0):ly e s q (p::r)=false:=by
 simp only[ly]
 rw[if_neg (by simpa using h),if_pos hf]
structure r7 where
 E1:Bool
 path:BL
def cB(p s:BL):Bool:=aI p&&decide (s.length<=60)&&ra p s
def dX(s:BL)(x:Int×Bool)(r:r7):Int×Bool:=
 if cB r.path s=false\/(r.path.length:Int)<x.1 then x else (r.path.length,r.E1||(decide ((r.path.length:Int)=x.1)&&x.2))
def av(rs:List r7)(s:BL):Bool:=(rs.foldl (dX s) (-1,true)).2
theorem wU{p:BL}(h:aI p=true):1<=p.length/\p.length<=16:=by
 unfold aI at h;simp only[Zbi]at h;exact⟨h.1,h.2.1⟩
theorem foldl_succ{α β:Type}{f:β->α->β}{b:β}{l:List α}{i:Nat}{d:α}(h:i<l.length):(l.take (i+1)).foldl f b=f ((l.take i).foldl f b) (l.getD i d):=by
 rw[bA h d,List.foldl_append];rfl
abbrev aD(r:r7):V:=.agg [bV r.E1,sV r.path]
def kS(m:Int)(n:Int)(c:UInt8):Int:=min (n*10+(c.toNat-48)) m
def kg(s:BL)(m:Int):Int:=if s.all (fun c=>decide (48<=c.toNat/\c.toNat<=57))=true then s.foldl (kS m) 0 else 0
structure l4 where
 na:List BL
 ru:List r7
 wa:Nat
abbrev cq(g:l4):V:=.agg [.sl false (g.na.map sV),.sl false (g.ru.map aD),iV g.wa]
def kJ:List BL:=[[47],[47,97],[47,98],[47,97,47],[47,42,98],[47,97,36],[47,99],[47,42,63],[47,97,47,98],[47,42,47,98,36],[47,36],[47,98,42,99],[47,110,111,116,105,99,101],[47,42]]
def bb:List BL:=[[97,98],[99,100],[101],[102,111,120]]
def l8(s:BL):Prop:= ∀ c,c∈s->c.toNat<128
def HE(s:BL):Bool:=s.all fun c=>decide (c.toNat<128)
theorem cd{s:BL}(h:HE s=true):l8 s:=fun c hc=>by
 have:=Za0.1 h c hc;simpa using this
theorem bp:l8 []:=fun c hc=>by simp at hc
theorem l8.app{a b:BL}(h1:l8 a)(h2:l8 b):l8 (a++b):=fun c hc=>(Zav.1 hc).elim (h1 c) (h2 c)
theorem eC{l:List BL}{x:BL}(h:l.all HE=true)(hx:x∈l):l8 x:=cd (Za0.1 h x hx)
theorem fq{l:List BL}(h:l.all HE=true)(i:Nat):l8 (l.getD i []):=by
 rw[Zak]
 cases e:l[i]? with
 | none=>exact bp
 | some x=>exact eC h (Za5 e)
structure D3 (g:l4):Prop where
 nl:g.na.length<=2
 nb:∀ x,x∈g.na->x.length<=5
 rl:g.ru.length<=4
 rb:∀ r,r∈g.ru->r.path∈kJ
 w:g.wa<=6
 ac:∀ x,x∈g.na->l8 x
theorem cv{l:List BL}{n:Nat}(h:l.all (fun x=>Nat.ble x.length n)=true){x:BL}(hx:x∈l):x.length<=n:=Nat.le_of_ble_eq_true (Za0.1 h x hx)
theorem iL{α:Type}{P:α->Prop}{l:List α}{x:α}(h:∀ y,y∈l->P y)(hx:P x):∀ y,y∈l++[x]->P y:=fun y hy=>by
 rcases Zav.1 hy with q | q
 exact h y q
 rw[Zat.1 q];exact hx
abbrev zqR:r7:=⟨false,[]⟩
abbrev zqG:l4:=⟨[],[],0⟩
structure Pg where
 addr:BL
 text:BL
 lead:BL
 m5:Int
def l9:Pg:=⟨[],[],[],0⟩
def C5:List Pg->BL->Pg×Bool
 | [],_=>(l9,false)
 | p::r,a=>if p.addr=a then (p,true) else C5 r a
theorem Dt{l:List BL}(h:l.length<=2)(hx:∀ x,x∈l->x.length<=6):(cI l).length<=13:=by
 match l,h with
 | [],_=>simp[cI]
 | [x],_=>have:=hx x Zab;simp[cI];omega
 | [x,y],_=>have:=hx x Zab;have:=hx y Zab;simp[cI];omega
theorem dB{l:List BL}{n:Nat}(h:l.all (fun x=>Nat.ble x.length n)=true)(i:Nat):(l.getD i []).length<=n:=by
 rw[Zak]
 cases e:l[i]? with
 | none=>simp
 | some x=>exact cv h (Za5 e)
theorem pN{a:s4}(h1:a.b7.length<=3)(h2:a.e9.length<=2)(h3:∀ x,x∈a.e9->x.length<=6)(h4:a.ask.length<=5):eZ a/\(bY a).length<=25:=by
 refine⟨⟨Zaa,Zaa,Zaa,fun i=>?_⟩,?_⟩
 rw[Zak]
 cases e:a.e9[i]? with
 | none=>simp
 | some x=>have:=h3 x (Za5 e);simp;omega
 have:=Dt h2 h3
 unfold bY cX bz
 split
 split <;> simp <;> omega
 simp
def eG(n:Nat):BL:=if n<10 then [UInt8.ofNat (48+n)] else eG (n / 10)++[UInt8.ofNat (48+n % 10)]
 termination_by n
theorem sA(n:Nat)(h:n<=1000000):(eG n).length<=7:=by
 have:∀ k n,n<10 ^ (k+1)->(eG n).length<=k+1:=by
  intro k
  induction k with
  | zero=>intro n hn;rw[eG,if_pos Zaa];simp
  | succ k ih=>
    intro n hn
    rw[eG]
    split
    simp
    have:=ih (n / 10) (by rw[Nat.pow_succ]at hn;omega)
    simp;omega
 exact this 6 n Zaa
abbrev s3(p:Pg):V:=.agg [sV p.addr,sV p.text,sV p.lead,iV p.m5]
theorem ub{gs:List l4}(hg:∀ y,y∈gs->D3 y)(i:Nat):D3 (gs.getD i ⟨[],[],0⟩):=by
 rw[Zak]
 cases e:gs[i]? with
 | none=>exact⟨Zab,Zab,Zab,Zab,Zab,Zab⟩
 | some x=>exact hg x (Za5 e)
theorem iq{gs:List l4}(hg:∀ y,y∈gs->D3 y)(i k:Nat):((gs.getD i ⟨[],[],0⟩).na.getD k []).length<=5:=by
 rw[Zak (l:=l4.na _)]
 cases e:(gs.getD i ⟨[],[],0⟩).na[k]? with
 | none=>simp
 | some x=>exact(ub hg i).nb x (Za5 e)
theorem tW{gs:List l4}(hg:∀ y,y∈gs->D3 y)(i k:Nat):l8 ((gs.getD i ⟨[],[],0⟩).na.getD k []):=by
 rw[Zak (l:=l4.na _)]
 cases e:(gs.getD i ⟨[],[],0⟩).na[k]? with
 | none=>exact bp
 | some x=>exact(ub hg i).ac x (Za5 e)
theorem sR{gs:List l4}(hg:∀ y,y∈gs->D3 y)(i k:Nat):l8 ((gs.getD i ⟨[],[],0⟩).ru.getD k ⟨false,[]⟩).path:=by
 rw[Zak (l:=l4.ru _)]
 cases e:(gs.getD i ⟨[],[],0⟩).ru[k]? with
 | none=>exact bp
 | some x=>exact eC rfl ((ub hg i).rb x (Za5 e))
theorem iB{gs:List l4}(hg:∀ y,y∈gs->D3 y)(i k:Nat):((gs.getD i ⟨[],[],0⟩).ru.getD k ⟨false,[]⟩).path.length<=7:=by
 rw[Zak (l:=l4.ru _)]
 cases e:(gs.getD i ⟨[],[],0⟩).ru[k]? with
 | none=>simp
 | some x=>exact cv rfl ((ub hg i).rb x (Za5 e))
theorem sO:∀ {l:List BL},(∀ x,x∈l->l8 x)->l8 (cI l)
 | [],_=>bp
 | [p],h=>h p Zab
 | p::q::r,h=>((h p Zab).app (cd rfl)).app (sO fun x hx=>h x (by simp[hx]))
theorem Ce{a:s4}(h1:l8 a.b7)(h2:∀ x,x∈a.e9->l8 x)(h3:l8 a.ask):l8 (bY a):=by
 unfold bY cX bz
 split
 refine((cd rfl).app h1).app (((cd rfl).app (sO h2)).app ?_)
 split
 exact(cd rfl).app h3
 exact bp
 exact bp
theorem mE(n:Nat):l8 (eG n):=by
 induction n using Nat.strongRecOn with
 | ind n ih=>
   rw[eG]
   split
   intro c hc
   rw[Zat.1 hc,UInt8.toNat_ofNat'];omega
   refine(ih (n / 10) Zaa).app ?_
   intro c hc
   rw[Zat.1 hc,UInt8.toNat_ofNat'];omega
structure m4 (y:Pg):Prop where
 a:y.addr.length<=30
 t:y.text.length<=300
 l:y.lead.length<=30
 f:0<=y.m5/\y.m5<=10
 aa:l8 y.addr
 la:l8 y.lead
 ta:l8 y.text
theorem Kd{w:List Pg}{a:BL}(h:(C5 w a).2=true):1<=w.length:=by
 cases w with
 | nil=>simp[C5]at h
 | cons p r=>simp
theorem sh{l:List Int}(h:l.all (fun x=>decide (0<=x/\x<=10))=true)(i:Nat):0<=l.getD i 0/\l.getD i 0<=10:=by
 rw[Zak]
 cases e:l[i]? with
 | none=>simp
 | some x=>simpa using Za0.1 h x (Za5 e)
theorem fv{w:List Pg}(h:∀ y,y∈w->m4 y)(i:Nat):m4 (w.getD i l9):=by
 rw[Zak]
 cases e:w[i]? with
 | none=>exact⟨by simp[l9],by simp[l9],by simp[l9],by simp[l9],bp,bp,bp⟩
 | some x=>exact h x (Za5 e)
theorem xx{α:Type}{P:α->Prop}{l:List α}{i:Nat}{x:α}(h:∀ y,y∈l->P y)(hx:P x):∀ y,y∈l.set i x->P y:=fun y hy=>by
 rcases List.mem_or_eq_of_mem_set hy with q | q
 exact h y q
 rw[q];exact hx
theorem aS{xs:List V}{j sz g0 o0 g o c:Nat}{v:V}{p:List Nat}{r:Nat×Nat×V}(h:xs[j]? =some v)(e:V.at g (o+j*sz) v p=some r):V.at g0 o0 (.own sz xs g o c) (j::p)=some r:=by simp only[V.at,h];exact e
theorem bn{xs ys:List V}{j sz g o c:Nat}{x v:V}{p:List Nat}(h:xs[j]? =some x)(e:xs.set j (V.set x p v)=ys):V.set (.own sz xs g o c) (j::p) v=.own sz ys g o c:=by simp only[V.set,h,e]
def eI(y:Pg):Bool:=aA y.addr&&decide (y.text.length<=300)&&x4 y.m5 0 9&&(y.lead==[]||(y.text==[]&&aA y.lead))
def ai(w:List Pg):Bool:=decide (∀ i,i<w.length->eI (w.getD i l9)=true/\∀ k,k<i->(w.getD k l9).addr≠(w.getD i l9).addr)&&decide (w.length<=12)
def ag(h:BL):BL:=[47,47]++h++[47,110,111,116,105,99,101]
def ae(w:List Pg)(a:BL)(n:Int):Int×BL:=
 if (C5 w a).2=false then (0,[]) else if n<(C5 w a).1.m5 then (3,[]) else if (C5 w a).1.lead=[] then (1,(C5 w a).1.text) else (2,(C5 w a).1.lead)
theorem MF{y:Pg}(h:((aA y.addr=true/\(y.text.length:Int)<=300)/\x4 y.m5 0 9=true)/\(¬ y.lead=[]->y.text=[]/\aA y.lead=true)):eI y=true:=by
 unfold eI
 obtain⟨⟨⟨h1,h2⟩,h3⟩,h4⟩:=h
 rw[h1,h3,decide_eq_true Zaa]
 by_cases hl:y.lead=[]
 simp[hl]
 obtain⟨h5,h6⟩:=h4 hl
 simp[h5,h6]
theorem MK{y:Pg}(h:((aA y.addr=false\/300<(y.text.length:Int))\/x4 y.m5 0 9=false)\/¬ y.lead=[]/\(¬ y.text=[]\/aA y.lead=false)):eI y=false:=by
 unfold eI
 rcases h with ((h | h) | h) | ⟨h,h' | h'⟩
 simp[h]
 rw[decide_eq_false Zaa];simp
 simp[h]
 simp[h,h']
 simp[h,h']
theorem yE{w:List Pg}{i:Nat}(hi:i<w.length)(h: ¬ (eI (w.getD i l9)=true/\∀ k,k<i->(w.getD k l9).addr≠(w.getD i l9).addr)):ai w=false:=by
 unfold ai
 rw[decide_eq_false (fun c=>h (c i hi))];rfl
theorem DE{w:List Pg}(h:∀ i,i<w.length->eI (w.getD i l9)=true/\∀ k,k<i->(w.getD k l9).addr≠(w.getD i l9).addr):ai w=decide (w.length<=12):=by
 unfold ai
 rw[decide_eq_true h];rfl
def cS(gs:List l4)(f:l4->l4):List l4:=match gs.getLast? with
 | none=>gs
 | some z=>gs.dropLast++[f z]
def jB(gs:List l4):Nat:=match gs.getLast? with
 | none=>0
 | some z=>z.ru.length
def ey(gs:List l4)(w r:BL)(b:Bool):List l4×Bool:=
 if w=[99,97,108,108,101,114]/\(r=[42]\/aZ r=true) then
  if b=true\/gs=[] then (gs++[⟨[r],[],0⟩],false) else (cS gs fun z=>⟨z.na++[r],z.ru,z.wa⟩,false)
 else if gs=[] then (gs,b)
 else if (w=[108,101,116]\/w=[98,97,114])/\aI r=true/\jB gs<6 then (cS gs fun z=>⟨z.na,z.ru++[⟨w==[108,101,116],r⟩],z.wa⟩,true)
 else if w=[119,97,105,116] then (cS gs fun z=>⟨z.na,z.ru,(kg r 20).toNat⟩,true)
 else (gs,b)
theorem dv(l:List l4)(z:l4)(f:l4->l4):cS (l++[z]) f=l++[f z]:=by simp[cS]
theorem ou(l:List l4)(z:l4):jB (l++[z])=z.ru.length:=by simp[jB]
theorem jL{α:Type}{l:List α}(h:l≠[]):∃ x:List α×α,l=x.1++[x.2]:=⟨(l.dropLast,l.getLast h),(List.dropLast_concat_getLast h).symm⟩
theorem BD{m:Int}(hm:0<=m){n:Int}(hn:0<=n){c:UInt8}(hc:48<=c.toNat):0<=kS m n c:=by
 unfold kS
 omega
theorem KE{s:BL}{m:Int}(hm:0<=m):0<=kg s m:=by
 unfold kg
 split
 rename_i h
 rw[Za0]at h
 have:∀ (l:BL) (n:Int),0<=n->(∀ c,c∈l->48<=c.toNat)->0<=l.foldl (kS m) n:=by
  intro l
  induction l with
  | nil=>intro n hn _;exact hn
  | cons c l ih=>intro n hn hl;exact ih _ (BD hm hn (hl c Zab)) fun d hd=>hl d (by simp[hd])
 exact this s 0 Zaa fun c hc=>by have:=h c hc;simp at this;exact this.1
 exact Int.le_refl 0
abbrev bh(g:l4):V:=.agg [.ow 1 (g.na.map sV),.ow 2 (g.ru.map aD),iV g.wa]
theorem bu{α:Type}{f:α->V}{l:List α}{v:V}:(l.map f++[v])[l.length]? =some v:=Zab
theorem dV{α:Type}{f:α->V}{l:List α}{v u:V}:(l.map f++[v]).set l.length u=l.map f++[u]:=Zab
theorem KQ(g:l4):(bh g).er=cq g:=by
 simp only[bh,V.er,V.C8,aT (f:=sV) (fun _=>rfl),aT (f:=aD) (fun _=>rfl)]
theorem Bw:∀ (l:List l4),V.C8 (l.map bh)=l.map cq
 | []=>rfl
 | g::l=>by simp only[Zbc,V.C8,Bw l];rw[KQ]
def cf(x:List l4×Bool)(l:BL):List l4×Bool:=ey x.1 (af 32 l).1 (af 32 l).2.1 x.2
def ct(t:BL):List l4:=(((an 10 t).take 40).foldl cf ([],false)).1
structure M6 (n:Nat) (gs:List l4):Prop where
 len:gs.length<=n
 each:∀ y,y∈gs->y.na.length<=n/\y.ru.length<=6
theorem M6.mono{n m:Nat}{gs:List l4}(h:M6 n gs)(hm:n<=m):M6 m gs:=⟨Nat.le_trans h.len hm,fun y hy=>⟨Nat.le_trans (h.each y hy).1 hm,(h.each y hy).2⟩⟩
theorem M6.set{n:Nat}{gs:List l4}{f:l4->l4}(h:M6 n gs)(hf:∀ z,gs.getLast? =some z->(f z).na.length<=n+1/\(f z).ru.length<=6):M6 (n+1) (cS gs f):=by
 unfold cS
 split
 exact h.mono Zaa
 rename_i z hz
 refine⟨?_,fun y hy=>?_⟩
 have:=h.len
 have hne:gs≠[]:=by rintro rfl;simp at hz
 have:=List.length_pos_iff.2 hne
 simp;omega
 rcases Zav.1 hy with hy | hy
 have:=h.each y (List.dropLast_subset _ hy)
 exact⟨Zaa,this.2⟩
 rw[Zat.1 hy];exact hf z hz
theorem JE{n:Nat}{gs:List l4}{w d:BL}{b:Bool}(h:M6 n gs):M6 (n+1) (ey gs w d b).1:=by
 have hl:∀ z,gs.getLast? =some z->z.na.length<=n/\z.ru.length<=6:=fun z hz=>h.each z (List.mem_of_getLast? hz)
 unfold ey
 split
 split
 refine⟨by have:=h.len;simp;omega,fun y hy=>?_⟩
 rcases Zav.1 hy with hy | hy
 have:=h.each y hy;exact⟨Zaa,this.2⟩
 rw[Zat.1 hy];simp
 exact h.set fun z hz=>⟨by have:=hl z hz;simp;omega,(hl z hz).2⟩
 split
 exact h.mono Zaa
 split
 rename_i hc
 refine h.set fun z hz=>⟨by have:=hl z hz;simp only;omega,?_⟩
 have:=hc.2.2
 unfold jB at this
 rw[hz]at this
 simp only at this
 simp only[Zan,Zap,Zas];omega
 split
 exact h.set fun z hz=>⟨by have:=hl z hz;simp only;omega,(hl z hz).2⟩
 exact h.mono Zaa
theorem Gg{α:Type}{l:List α}{i:Nat}(h1:i<=l.length)(h2:i<=40)(h:(i:Int)<l.length->(40:Int)<=i):l.take 40=l.take i:=by
 rcases Nat.lt_or_ge i l.length with hl | hl
 have:=h Zaa
 rw[show i=40 from Zaa]
 rw[Zax Zaa,Zax Zaa]
def bR(n:BL)(x:(List r7×Nat)×Bool)(g:l4):(List r7×Nat)×Bool:=if g.na.any (fun y=>y==n)=true then ((x.1.1++g.ru,max x.1.2 g.wa),true) else x
def Pv(gs:List l4)(n:BL):l4×Bool:=(⟨[n],(gs.foldl (bR n) (([],0),false)).1.1,(gs.foldl (bR n) (([],0),false)).1.2⟩,(gs.foldl (bR n) (([],0),false)).2)
def eU(gs:List l4)(n:BL):l4:=if (Pv gs n).2=true then (Pv gs n).1 else (Pv gs [42]).1
theorem zh:∀ (l:List BL) {k:Nat} {x:List l4×Bool},M6 k x.1->M6 (k+l.length) (l.foldl cf x).1
 | [],k,x,h=>h
 | a::l,k,x,h=>by
   have:=zh l (k:=k+1) (x:=cf x a) (JE h)
   exact this.mono Zaj
theorem pR(t:BL):M6 40 (ct t):=by
 have:=zh ((an 10 t).take 40) (k:=0) (x:=([],false)) ⟨Zab,Zab⟩
 exact this.mono Zaj
theorem M6.ru{n:Nat}{gs:List l4}(h:M6 n gs)(i:Nat):(gs.getD i ⟨[],[],0⟩).ru.length<=100/\(gs.getD i ⟨[],[],0⟩).na.length<=n:=by
 rw[Zak]
 cases e:gs[i]? with
 | none=>simp
 | some x=>have:=h.each x (Za5 e);exact⟨by simp only[Option.getD_some];omega,this.1⟩
def bC(k:Int)(t n:BL):l4:=if k=1 then eU (ct t) n else if k=3 then ⟨[n],[⟨false,[47]⟩],0⟩ else eU [] n
def lM(w:List Pg)(d n:BL):l4:=
 if ai w=true/\cW d=true/\aZ n=true then ⟨[n],(bC (ae w (ag d) 2).1 (ae w (ag d) 2).2 n).ru,(bC (ae w (ag d) 2).1 (ae w (ag d) 2).2 n).wa⟩ else ⟨[],[],0⟩
theorem oM:∀ (w:List Pg) (a:BL),(C5 w a).2=true->∃ i,(C5 w a).1=w.getD i l9
 | [],a,h=>by simp[C5]at h
 | p::r,a,h=>by
   unfold C5 at h ⊢
   split
   exact⟨0,rfl⟩
   rename_i hp
   rw[if_neg hp]at h
   obtain⟨i,hi⟩:=oM r a h
   exact⟨i+1,by rw[hi];simp⟩
theorem mL{w:List Pg}{a:BL}{k:Int}{m:Nat}(h:∀ i,(w.getD i l9).text.length<=m/\(w.getD i l9).lead.length<=m):(ae w a k).2.length<=m:=by
 unfold ae
 split
 simp
 rename_i h1
 have h1:(C5 w a).2=true:=by simpa using h1
 obtain⟨i,hi⟩:=oM w a h1
 have:=h i
 rw[hi]
 split
 simp
 split <;> simp only <;> omega
def qi(gs:List l4):Prop:= ∀ y,y∈gs->∀ r,r∈y.ru->r.path.length<=16
theorem qi.set{gs:List l4}{f:l4->l4}(h:qi gs)(hf:∀ z,gs.getLast? =some z->∀ r,r∈(f z).ru->r.path.length<=16):qi (cS gs f):=by
 unfold cS
 split
 exact h
 rename_i z hz
 intro y hy
 rcases Zav.1 hy with hy | hy
 exact h y (List.dropLast_subset _ hy)
 rw[Zat.1 hy];exact hf z hz
theorem JI{gs:List l4}{w d:BL}{b:Bool}(h:qi gs):qi (ey gs w d b).1:=by
 have hl:∀ z,gs.getLast? =some z->∀ r,r∈z.ru->r.path.length<=16:=fun z hz=>h z (List.mem_of_getLast? hz)
 unfold ey
 split
 split
 intro y hy
 rcases Zav.1 hy with hy | hy
 exact h y hy
 rw[Zat.1 hy];simp
 exact h.set fun z hz=>hl z hz
 split
 exact h
 split
 rename_i hc
 refine h.set fun z hz r hr=>?_
 rcases Zav.1 hr with hr | hr
 exact hl z hz r hr
 rw[Zat.1 hr];exact(wU hc.2.1).2
 split
 exact h.set fun z hz=>hl z hz
 exact h
theorem Gr(t:BL):qi (ct t):=by
 have:∀ (l:List BL) (x:List l4×Bool),qi x.1->qi (l.foldl cf x).1:=by
  intro l
  induction l with
  | nil=>exact fun x h=>h
  | cons a l ih=>exact fun x h=>ih _ (JI h)
 exact this _ _ (by intro y hy;simp at hy)
structure Wk (m:Nat) (x:(List r7×Nat)×Bool):Prop where
 l:x.1.1.length<=6*m
 r:∀ r,r∈x.1.1->r.path.length<=16
theorem Je(n:BL):∀ (gs:List l4) {m k:Nat} {x:(List r7×Nat)×Bool},Wk m x->M6 k gs->qi gs->Wk (m+gs.length) (gs.foldl (bR n) x)
 | [],m,k,x,h,_,_=>h
 | g::gs,m,k,x,h,h1,h2=>by
   have hs:Wk (m+1) (bR n x g):=by
    unfold bR
    split
    refine⟨?_,fun r hr=>?_⟩
    have:=h.l;have:=(h1.each g Zab).2;simp only[Zan];omega
    rcases Zav.1 hr with hr | hr
    exact h.r r hr
    exact h2 g Zab r hr
    exact⟨by have:=h.l;omega,h.r⟩
   have:=Je n gs (k:=k) hs ⟨by have:=h1.len;simp at this;omega,fun y hy=>h1.each y (by simp[hy])⟩ (fun y hy=>h2 y (by simp[hy]))
   rw[List.foldl_cons,Zap,show m+(gs.length+1)=m+1+gs.length from Zaa]
   exact this
theorem Ca{gs:List l4}(n:BL)(h1:M6 40 gs)(h2:qi gs):(eU gs n).ru.length<=240/\∀ r,r∈(eU gs n).ru->r.path.length<=16:=by
 have key:∀ q,(Pv gs q).1.ru.length<=240/\∀ r,r∈(Pv gs q).1.ru->r.path.length<=16:=fun q=>by
  have:=Je q gs (m:=0) (x:=(([],0),false)) ⟨Zab,Zab⟩ h1 h2
  exact⟨by have h3:=this.l;have:=h1.len;unfold Pv;simp only;omega,this.r⟩
 unfold eU
 split
 exact key n
 exact key [42]
theorem qN(k:Int)(t n:BL):(bC k t n).ru.length<=240/\∀ r,r∈(bC k t n).ru->r.path.length<=16:=by
 unfold bC
 split
 exact Ca n (pR t) (Gr t)
 split
 exact⟨Zab,Zab⟩
 exact Ca n ⟨Zab,Zab⟩ (fun y hy=>by simp at hy)
def dj(w:List Pg)(n p:BL):Bool:=ai w&&aZ n&&(aC p).isSome&&av (lM w (oA (aC p)).b7 n).ru (bz (oA (aC p)))
def fV(s p:BL):Bool:=decide (p.length<=s.length)&&(s.take p.length==p)
def iY(s p:BL):Bool:=decide (p.length<=s.length)&&(s.drop (s.length-p.length)==p)
def cQ(s p:BL):BL:=if iY s p=true then s.take (s.length-p.length) else s
theorem wL{s p:BL}(h:iY s p=true):p.length<=s.length:=by unfold iY at h;simp at h;exact h.1
theorem My{s p:BL}(h:fV s p=true):p.length<=s.length:=by unfold fV at h;simp at h;exact h.1
def eD(p:BL):Bool:=decide (1<=p.length/\p.length<=16/\(p.getD 0 0).toNat=47)&&(cQ p [36]).all jZ
end Go.Proofs.YtelggdgnblpjdaaGreatDoor
namespace Go.Proofs
open Go.Shelf
def Tryz.uY:Go.Shelf.Ren:=⟨fun | 156=>132 | 165=>160 | 166=>161 | 169=>162 | 240=>185 | 241=>186 | 276=>199 | 277=>200 | n=>n,fun | 31=>24 | 9=>9 | 3=>3 | 4=>4 | 0=>0 | 20=>20 | 72=>203 | 76=>205 | 70=>201 | 37=>22 | 75=>111 | 127=>232 | 164=>239 | 5=>5 | 80=>207 | n=>n,fun | n=>n⟩
theorem Tryz.CP:Go.Proofs.Lays.n156 Tryz.prog Tryz.uY:={
 mixed:=Zac
 f156:=Tryz.func132.trans (Zbk some Zac)
 f165:=Tryz.func160.trans (Zbk some Zac)
 f166:=Tryz.func161.trans (Zbk some Zac)
 f169:=Tryz.func162.trans (Zbk some Zac)
 f240:=Tryz.func185.trans (Zbk some Zac)
 f241:=Tryz.func186.trans (Zbk some Zac)
 f276:=Tryz.func199.trans (Zbk some Zac)
 f277:=Tryz.func200.trans (Zbk some Zac)
 t0:=Tryz.underlying0
 a0:=Tryz.isAgg0
 z0:=Tryz.sizeOf0
 v0:=Tryz.zeroValue0
 t3:=Tryz.underlying3
 a3:=Tryz.isAgg3
 z3:=Tryz.sizeOf3
 v3:=Tryz.zeroValue3
 t4:=Tryz.underlying4
 a4:=Tryz.isAgg4
 z4:=Tryz.sizeOf4
 v4:=Tryz.zeroValue4
 t9:=Tryz.underlying9
 a9:=Tryz.isAgg9
 z9:=Tryz.sizeOf9
 v9:=Tryz.zeroValue9
 t20:=Tryz.underlying20
 a20:=Tryz.isAgg20
 z20:=Tryz.sizeOf20
 v20:=Tryz.zeroValue20
 t31:=Tryz.underlying24
 a31:=Tryz.isAgg24
 z31:=Tryz.sizeOf24
 v31:=Tryz.zeroValue24
 t37:=Tryz.underlying22
 a37:=Tryz.isAgg22
 z37:=Tryz.sizeOf22
 v37:=Tryz.zeroValue22
 t70:=Tryz.underlying201
 a70:=Tryz.isAgg201
 z70:=Tryz.sizeOf201
 v70:=Tryz.zeroValue201
 t72:=Tryz.underlying203
 a72:=Tryz.isAgg203
 z72:=Tryz.sizeOf203
 v72:=Tryz.zeroValue203
 t75:=Tryz.underlying111
 a75:=Tryz.isAgg111
 z75:=Tryz.sizeOf111
 v75:=Tryz.zeroValue111
 t76:=Tryz.underlying205
 a76:=Tryz.isAgg205
 z76:=Tryz.sizeOf205
 v76:=Tryz.zeroValue205
 t127:=Tryz.underlying232
 a127:=Tryz.isAgg232
 z127:=Tryz.sizeOf232
 v127:=Tryz.zeroValue232
 t164:=Tryz.underlying239
 a164:=Tryz.isAgg239
 z164:=Tryz.sizeOf239
 v164:=Tryz.zeroValue239 }
theorem Tryz.oc:Builder.Extra Tryz.prog Tryz.uY:={
 sizeBuilder:=Zac
 liesBuilder:=Zac
 t5:=Tryz.underlying5
 a5:=Tryz.isAgg5
 z5:=Tryz.sizeOf5
 v5:=Tryz.zeroValue5
 infoByte:=Zac
 cellsByte:=Zac
 sizeByte:=Zac
 neB5:=by decide }
open Go.RowKit in
theorem Tryz.strings_Join_none(a:Option Addr)(c:Nat)(sep:ByteArray)(w:World):
 Calls Tryz.prog 132 #[.slice a 0 c,.string sep] w fun e w'=>e=.returned (.string ⟨#[]⟩)/\w'=w:=Any.strings_Join_none Tryz.CP Tryz.oc a c sep w
open Go.RowKit in
theorem Tryz.strings_Join(bk o c:Nat)(xs:List ByteArray)(sep:ByteArray)(w:World)(hcells:∀ (j:Nat) x,xs[j]? =some x->w.cell? ⟨bk,o+j,none⟩=some (.string x))(hbk:bk<w.heap.size)(hN:xs.length<=140737488355328)(hcap:xs.length<=c)(hlen:(Lib.join (xs.map (·.data.toList)) sep.data.toList).length<=140737488355328):
 Calls Tryz.prog 132 #[.slice (some ⟨bk,o,none⟩) xs.length c,.string sep] w fun e w'=>e=.returned (.string ⟨(Lib.join (xs.map (·.data.toList)) sep.data.toList).toArray⟩)/\Below w.heap.size w w':=Any.strings_Join Tryz.CP Tryz.oc bk o c xs sep w hcells hbk hN hcap hlen
def Tryz.BO:Go.Shelf.Ren:=⟨fun | 219=>168 | 217=>189 | 225=>190 | 224=>191 | 267=>192 | 266=>201 | 314=>202 | n=>n,fun | 9=>9 | 3=>3 | 4=>4 | 5=>5 | 46=>231 | 146=>243 | 51=>242 | n=>n,fun | 1=>1 | n=>n⟩
theorem Tryz.JJ:Go.Proofs.Lays.n219 Tryz.prog Tryz.BO:={
 mixed:=Zac
 f217:=Tryz.func189.trans (Zbk some Zac)
 f219:=Tryz.func168.trans (Zbk some Zac)
 f224:=Tryz.func191.trans (Zbk some Zac)
 f225:=Tryz.func190.trans (Zbk some Zac)
 f266:=Tryz.func201.trans (Zbk some Zac)
 f267:=Tryz.func192.trans (Zbk some Zac)
 f314:=Tryz.func202.trans (Zbk some Zac)
 t3:=Tryz.underlying3
 a3:=Tryz.isAgg3
 z3:=Tryz.sizeOf3
 v3:=Tryz.zeroValue3
 t4:=Tryz.underlying4
 a4:=Tryz.isAgg4
 z4:=Tryz.sizeOf4
 v4:=Tryz.zeroValue4
 t5:=Tryz.underlying5
 a5:=Tryz.isAgg5
 z5:=Tryz.sizeOf5
 v5:=Tryz.zeroValue5
 t9:=Tryz.underlying9
 a9:=Tryz.isAgg9
 z9:=Tryz.sizeOf9
 v9:=Tryz.zeroValue9
 t46:=Tryz.underlying231
 a46:=Tryz.isAgg231
 z46:=Tryz.sizeOf231
 v46:=Tryz.zeroValue231
 t51:=Tryz.underlying242
 a51:=Tryz.isAgg242
 z51:=Tryz.sizeOf242
 v51:=Tryz.zeroValue242
 t146:=Tryz.underlying243
 a146:=Tryz.isAgg243
 z146:=Tryz.sizeOf243
 v146:=Tryz.zeroValue243
 g1:=by kernel_rfl }
open Go.RowKit Go.Lib in
theorem Tryz.stringslite_Index_one(s:ByteArray)(c:UInt8)(w:World):
 Calls Tryz.prog 168 #[.string s,.string ⟨#[c]⟩] w fun e w'=>e=.returned (.int .i64 (Lib.indexByte s.data.toList c))/\w'=w:=Any.stringslite_Index_one Tryz.JJ s c w
def Tryz.BN:Go.Shelf.Ren:=⟨fun | 143=>197 | 219=>168 | 217=>189 | 225=>190 | 224=>191 | 267=>192 | 266=>201 | 314=>202 | n=>n,fun | 9=>9 | 3=>3 | 4=>4 | 5=>5 | 46=>231 | 146=>243 | 51=>242 | n=>n,fun | 1=>1 | n=>n⟩
theorem Tryz.Jy:Go.Proofs.Lays.n143 Tryz.prog Tryz.BN:={
 mixed:=Zac
 f143:=Tryz.func197.trans (Zbk some Zac)
 f217:=Tryz.func189.trans (Zbk some Zac)
 f219:=Tryz.func168.trans (Zbk some Zac)
 f224:=Tryz.func191.trans (Zbk some Zac)
 f225:=Tryz.func190.trans (Zbk some Zac)
 f266:=Tryz.func201.trans (Zbk some Zac)
 f267:=Tryz.func192.trans (Zbk some Zac)
 f314:=Tryz.func202.trans (Zbk some Zac)
 t3:=Tryz.underlying3
 a3:=Tryz.isAgg3
 z3:=Tryz.sizeOf3
 v3:=Tryz.zeroValue3
 t4:=Tryz.underlying4
 a4:=Tryz.isAgg4
 z4:=Tryz.sizeOf4
 v4:=Tryz.zeroValue4
 t5:=Tryz.underlying5
 a5:=Tryz.isAgg5
 z5:=Tryz.sizeOf5
 v5:=Tryz.zeroValue5
 t9:=Tryz.underlying9
 a9:=Tryz.isAgg9
 z9:=Tryz.sizeOf9
 v9:=Tryz.zeroValue9
 t46:=Tryz.underlying231
 a46:=Tryz.isAgg231
 z46:=Tryz.sizeOf231
 v46:=Tryz.zeroValue231
 t51:=Tryz.underlying242
 a51:=Tryz.isAgg242
 z51:=Tryz.sizeOf242
 v51:=Tryz.zeroValue242
 t146:=Tryz.underlying243
 a146:=Tryz.isAgg243
 z146:=Tryz.sizeOf243
 v146:=Tryz.zeroValue243
 g1:=by kernel_rfl }
open Go.RowKit Go.Lib in
theorem Tryz.strings_Index_one(s:ByteArray)(c:UInt8)(w:World):
 Calls Tryz.prog 197 #[.string s,.string ⟨#[c]⟩] w fun e w'=>e=.returned (.int .i64 (Lib.indexByte s.data.toList c))/\w'=w:=Any.strings_Index_one Tryz.Jy s c w
def Tryz.BU:Go.Shelf.Ren:=⟨fun | 138=>196 | 195=>203 | 218=>205 | 143=>197 | 219=>168 | 217=>189 | 225=>190 | 224=>191 | 267=>192 | 266=>201 | 314=>202 | n=>n,fun | 9=>9 | 3=>3 | 4=>4 | 5=>5 | 0=>0 | 46=>231 | 146=>243 | 51=>242 | n=>n,fun | 1=>1 | n=>n⟩
theorem Tryz.JZ:Go.Proofs.Lays.n138 Tryz.prog Tryz.BU:={
 mixed:=Zac
 f138:=Tryz.func196.trans (Zbk some Zac)
 f143:=Tryz.func197.trans (Zbk some Zac)
 f195:=Tryz.func203.trans (Zbk some Zac)
 f217:=Tryz.func189.trans (Zbk some Zac)
 f218:=Tryz.func205.trans (Zbk some Zac)
 f219:=Tryz.func168.trans (Zbk some Zac)
 f224:=Tryz.func191.trans (Zbk some Zac)
 f225:=Tryz.func190.trans (Zbk some Zac)
 f266:=Tryz.func201.trans (Zbk some Zac)
 f267:=Tryz.func192.trans (Zbk some Zac)
 f314:=Tryz.func202.trans (Zbk some Zac)
 t0:=Tryz.underlying0
 a0:=Tryz.isAgg0
 z0:=Tryz.sizeOf0
 v0:=Tryz.zeroValue0
 t3:=Tryz.underlying3
 a3:=Tryz.isAgg3
 z3:=Tryz.sizeOf3
 v3:=Tryz.zeroValue3
 t4:=Tryz.underlying4
 a4:=Tryz.isAgg4
 z4:=Tryz.sizeOf4
 v4:=Tryz.zeroValue4
 t5:=Tryz.underlying5
 a5:=Tryz.isAgg5
 z5:=Tryz.sizeOf5
 v5:=Tryz.zeroValue5
 t9:=Tryz.underlying9
 a9:=Tryz.isAgg9
 z9:=Tryz.sizeOf9
 v9:=Tryz.zeroValue9
 t46:=Tryz.underlying231
 a46:=Tryz.isAgg231
 z46:=Tryz.sizeOf231
 v46:=Tryz.zeroValue231
 t51:=Tryz.underlying242
 a51:=Tryz.isAgg242
 z51:=Tryz.sizeOf242
 v51:=Tryz.zeroValue242
 t146:=Tryz.underlying243
 a146:=Tryz.isAgg243
 z146:=Tryz.sizeOf243
 v146:=Tryz.zeroValue243
 g1:=by kernel_rfl }
open Go.RowKit Go.Lib in
theorem Tryz.strings_Count_one(s:ByteArray)(c:UInt8)(w:World):
 Calls Tryz.prog 196 #[.string s,.string ⟨#[c]⟩] w fun e w'=>e=.returned (.int .i64 (Lib.countByte s.data.toList c))/\w'=w:=Any.strings_Count_one Tryz.JZ s c w
def Tryz.gL:Go.Shelf.Ren:=⟨fun | 221=>180 | 268=>195 | 138=>196 | 143=>197 | 195=>203 | 197=>204 | 218=>205 | 219=>168 | 260=>206 | 217=>189 | 225=>190 | 224=>191 | 267=>192 | 266=>201 | 314=>202 | n=>n,fun | 9=>9 | 3=>3 | 31=>24 | 4=>4 | 0=>0 | 105=>245 | 21=>21 | 5=>5 | 46=>231 | 119=>247 | 139=>250 | 138=>249 | 146=>243 | 51=>242 | n=>n,fun | 1=>1 | 3=>2 | 4=>3 | n=>n⟩
theorem Tryz.JN:Go.Proofs.Lays.n221 Tryz.prog Tryz.gL:={
 mixed:=Zac
 f138:=Tryz.func196.trans (Zbk some Zac)
 f143:=Tryz.func197.trans (Zbk some Zac)
 f195:=Tryz.func203.trans (Zbk some Zac)
 f197:=Tryz.func204.trans (Zbk some Zac)
 f217:=Tryz.func189.trans (Zbk some Zac)
 f218:=Tryz.func205.trans (Zbk some Zac)
 f219:=Tryz.func168.trans (Zbk some Zac)
 f221:=Tryz.func180.trans (Zbk some Zac)
 f224:=Tryz.func191.trans (Zbk some Zac)
 f225:=Tryz.func190.trans (Zbk some Zac)
 f260:=Tryz.func206.trans (Zbk some Zac)
 f266:=Tryz.func201.trans (Zbk some Zac)
 f267:=Tryz.func192.trans (Zbk some Zac)
 f268:=Tryz.func195.trans (Zbk some Zac)
 f314:=Tryz.func202.trans (Zbk some Zac)
 t0:=Tryz.underlying0
 a0:=Tryz.isAgg0
 z0:=Tryz.sizeOf0
 v0:=Tryz.zeroValue0
 t3:=Tryz.underlying3
 a3:=Tryz.isAgg3
 z3:=Tryz.sizeOf3
 v3:=Tryz.zeroValue3
 t4:=Tryz.underlying4
 a4:=Tryz.isAgg4
 z4:=Tryz.sizeOf4
 v4:=Tryz.zeroValue4
 t5:=Tryz.underlying5
 a5:=Tryz.isAgg5
 z5:=Tryz.sizeOf5
 v5:=Tryz.zeroValue5
 t9:=Tryz.underlying9
 a9:=Tryz.isAgg9
 z9:=Tryz.sizeOf9
 v9:=Tryz.zeroValue9
 t21:=Tryz.underlying21
 a21:=Tryz.isAgg21
 z21:=Tryz.sizeOf21
 v21:=Tryz.zeroValue21
 t31:=Tryz.underlying24
 a31:=Tryz.isAgg24
 z31:=Tryz.sizeOf24
 v31:=Tryz.zeroValue24
 t46:=Tryz.underlying231
 a46:=Tryz.isAgg231
 z46:=Tryz.sizeOf231
 v46:=Tryz.zeroValue231
 t51:=Tryz.underlying242
 a51:=Tryz.isAgg242
 z51:=Tryz.sizeOf242
 v51:=Tryz.zeroValue242
 t105:=Tryz.underlying245
 a105:=Tryz.isAgg245
 z105:=Tryz.sizeOf245
 v105:=Tryz.zeroValue245
 t119:=Tryz.underlying247
 a119:=Tryz.isAgg247
 z119:=Tryz.sizeOf247
 t138:=Tryz.underlying249
 a138:=Tryz.isAgg249
 z138:=Tryz.sizeOf249
 v138:=Tryz.zeroValue249
 t139:=Tryz.underlying250
 a139:=Tryz.isAgg250
 z139:=Tryz.sizeOf250
 v139:=Tryz.zeroValue250
 t146:=Tryz.underlying243
 a146:=Tryz.isAgg243
 z146:=Tryz.sizeOf243
 v146:=Tryz.zeroValue243
 g1:=Zac
 g3:=Zac
 g4:=by kernel_rfl }
def Tryz.BA:Go.Shelf.Ren:=⟨fun | 153=>142 | 152=>170 | 226=>171 | 227=>172 | 228=>173 | 137=>193 | 119=>194 | 224=>191 | 225=>190 | 217=>189 | 266=>201 | n=>n,fun | 9=>9 | 3=>3 | 4=>4 | 5=>5 | 21=>21 | 117=>213 | 116=>212 | 0=>0 | 46=>231 | 124=>236 | n=>n,fun | n=>n⟩
theorem Tryz.JC:Go.Proofs.Lays.n153 Tryz.prog Tryz.BA:={
 mixed:=Zac
 f119:=Tryz.func194.trans (Zbk some Zac)
 f137:=Tryz.func193.trans (Zbk some Zac)
 f152:=Tryz.func170.trans (Zbk some Zac)
 f153:=Tryz.func142.trans (Zbk some Zac)
 f217:=Tryz.func189.trans (Zbk some Zac)
 f224:=Tryz.func191.trans (Zbk some Zac)
 f225:=Tryz.func190.trans (Zbk some Zac)
 f226:=Tryz.func171.trans (Zbk some Zac)
 f227:=Tryz.func172.trans (Zbk some Zac)
 f228:=Tryz.func173.trans (Zbk some Zac)
 f266:=Tryz.func201.trans (Zbk some Zac)
 t0:=Tryz.underlying0
 a0:=Tryz.isAgg0
 z0:=Tryz.sizeOf0
 v0:=Tryz.zeroValue0
 t3:=Tryz.underlying3
 a3:=Tryz.isAgg3
 z3:=Tryz.sizeOf3
 v3:=Tryz.zeroValue3
 t4:=Tryz.underlying4
 a4:=Tryz.isAgg4
 z4:=Tryz.sizeOf4
 v4:=Tryz.zeroValue4
 t5:=Tryz.underlying5
 a5:=Tryz.isAgg5
 z5:=Tryz.sizeOf5
 v5:=Tryz.zeroValue5
 t9:=Tryz.underlying9
 a9:=Tryz.isAgg9
 z9:=Tryz.sizeOf9
 v9:=Tryz.zeroValue9
 t21:=Tryz.underlying21
 a21:=Tryz.isAgg21
 z21:=Tryz.sizeOf21
 v21:=Tryz.zeroValue21
 t46:=Tryz.underlying231
 a46:=Tryz.isAgg231
 z46:=Tryz.sizeOf231
 v46:=Tryz.zeroValue231
 t116:=Tryz.underlying212
 a116:=Tryz.isAgg212
 z116:=Tryz.sizeOf212
 t117:=Tryz.underlying213
 a117:=Tryz.isAgg213
 z117:=Tryz.sizeOf213
 v117:=Tryz.zeroValue213
 t124:=Tryz.underlying236
 a124:=Tryz.isAgg236
 z124:=Tryz.sizeOf236
 v124:=Tryz.zeroValue236 }
open Go.RowKit Go.Lib in
theorem Tryz.strings_IndexAny_laid(s chars:ByteArray)(w:World)(hs:s.size<4294967281)(hcs:chars.size<4294967281)(has:∀ (j:Nat) b,s.data.toList[j]? =some b->b.toNat<128)(hac:∀ (j:Nat) b,chars.data.toList[j]? =some b->b.toNat<128):
 Calls Tryz.prog 142 #[.string s,.string chars] w fun e w'=>e=.returned (.int .i64 (Lib.indexAny s.data.toList chars.data.toList))/\Below w.heap.size w w':=Any.strings_IndexAny_laid Tryz.JC Zac s chars w hs hcs has hac
def Tryz.BH:Go.Shelf.Ren:=⟨fun | 110=>59 | 109=>88 | n=>n,fun | 31=>24 | 9=>9 | 4=>4 | 3=>3 | 0=>0 | n=>n,fun | n=>n⟩
theorem Tryz.CH:Go.Proofs.Lays.n110 Tryz.prog Tryz.BH:={
 mixed:=Zac
 f109:=Tryz.func88.trans (Zbk some Zac)
 f110:=Tryz.func59.trans (Zbk some Zac)
 t0:=Tryz.underlying0
 a0:=Tryz.isAgg0
 z0:=Tryz.sizeOf0
 v0:=Tryz.zeroValue0
 t3:=Tryz.underlying3
 a3:=Tryz.isAgg3
 z3:=Tryz.sizeOf3
 v3:=Tryz.zeroValue3
 t4:=Tryz.underlying4
 a4:=Tryz.isAgg4
 z4:=Tryz.sizeOf4
 v4:=Tryz.zeroValue4
 t9:=Tryz.underlying9
 a9:=Tryz.isAgg9
 z9:=Tryz.sizeOf9
 v9:=Tryz.zeroValue9
 t31:=Tryz.underlying24
 a31:=Tryz.isAgg24
 z31:=Tryz.sizeOf24
 v31:=Tryz.zeroValue24 }
open Go.Lib in
theorem Tryz.slices_Contains_string(b off n c:Nat)(zs:List ByteArray)(x:ByteArray)(w:World)(hz:n<=zs.length)(hbig:n<=9223372036854775807)(hc:∀ j,j<zs.length->w.cell? ⟨b,off+j,none⟩=some (.string (zs.getD j ByteArray.empty))):
 Calls Tryz.prog 59 #[.slice (some ⟨b,off,none⟩) n c,.string x] w fun e w'=>e=.returned (.bool (Lib.containsS (zs.take n) x))/\w'=w:=Any.slices_Contains_string Tryz.CH b off n c zs x w hz hbig hc
open Go.Lib in
theorem Tryz.slices_Contains_string_empty(a:Option Addr)(c:Nat)(x:ByteArray)(w:World):
 Calls Tryz.prog 59 #[.slice a 0 c,.string x] w fun e w'=>e=.returned (.bool false)/\w'=w:=Any.slices_Contains_string_empty Tryz.CH a c x w
def Tryz.zx:Go.Shelf.Ren:=⟨fun | 16=>40 | n=>n,fun | 24=>24 | 9=>9 | 4=>4 | n=>n,fun | n=>n⟩
theorem Tryz.tR:Go.Proofs.Lays2.n16 Tryz.prog Tryz.zx:={
 mixed:=Zac
 f16:=Tryz.func40.trans (Zbk some Zac)
 t4:=Tryz.underlying4
 a4:=Tryz.isAgg4
 z4:=Tryz.sizeOf4
 v4:=Tryz.zeroValue4
 t9:=Tryz.underlying9
 a9:=Tryz.isAgg9
 z9:=Tryz.sizeOf9
 v9:=Tryz.zeroValue9
 t24:=Tryz.underlying24
 a24:=Tryz.isAgg24
 z24:=Tryz.sizeOf24
 v24:=Tryz.zeroValue24
 i9:=by kernel_rfl }
open Go.RowKit Go.Lib in
theorem Tryz.slices_Clone_string(b off n c:Nat)(zs:List ByteArray)(w:World)(hz:n<=zs.length)(hbig:n*16<=140737488355328)(hc:∀ j,j<zs.length->w.cell? ⟨b,off+j,none⟩=some (.string (zs.getD j ByteArray.empty))):
 Calls Tryz.prog 40 #[.slice (some ⟨b,off,none⟩) n c] w fun e w'=> ∃ v',e=.returned v'/\w'.ownsRow w.heap.size 9 1 v' n ((zs.take n).map (Value.string))/\v'≠.slice none 0 0/\Below w.heap.size w w':=Any.slices_Clone_string Tryz.tR b off n c zs w hz hbig hc
open Go.RowKit Go.Lib in
theorem Tryz.slices_Clone_string_nil(n c:Nat)(w:World):
 Calls Tryz.prog 40 #[.slice none n c] w fun e w'=>e=.returned (.slice none 0 0)/\w'=w:=Any.slices_Clone_string_nil Tryz.tR n c w
open Go.RowKit Go.Lib in
theorem Tryz.slices_Clone_string_zero(a:Addr)(c:Nat)(w:World):
 Calls Tryz.prog 40 #[.slice (some a) 0 c] w fun e w'=> ∃ v',e=.returned v'/\w'.ownsRow w.heap.size 9 1 v' 0 []/\v'≠.slice none 0 0/\Below w.heap.size w w':=Any.slices_Clone_string_zero Tryz.tR a c w
end Go.Proofs
namespace Go.Proofs.YtelggdgnblpjdaaGreatDoor
open Go Go.RowKit
set_option maxRecDepth 20000
section
variable {P:Program}
theorem jz{f:FuncId}{args:List V}{Q:V->Prop}(ho:V.aK args=false)(hp:args.all (fun v=>match v with | .b9=>false | .gv _ _=>false | .tup _=>false | _=>true)=true)(h:PC P f args Q):PF P f args [] (fun r h=>Q r/\h=[]):=by
 refine⟨h.1,fun w Pb Kb cargs F hi=>?_⟩
 have hF0:∀ i v x,args[i]? =some v->cargs[i]? =some x->F (.slot i)=[]:=fun i v x hv hx=>by
  have hr:=hi.slot i v x hv hx
  have hm:=Za5 hv
  exact yc (w:=w) (Pb:=Pb) (by
   have:∀ (l:List V),V.aK l=false->∀ v∈l,v.dz=false:=by
    intro l;induction l with
    | nil=>intro _ v hv;simp at hv
    | cons a r ih=>
      intro h v hv
      simp only[V.aK,Bool.or_eq_false_iff]at h
      rcases List.mem_cons.1 hv with rfl | hv
      exact h.1
      exact ih h.2 v hv
   exact this _ ho v hm) hr
 have hrv:∀ (l:List V) (c:List Value),l.length=c.length->(∀ (i:Nat) v x,l[i]? =some v->c[i]? =some x->RV w Pb v x []/\v∈args)->RVs w Pb l c []:=by
  intro l
  induction l with
  | nil=>intro c hl _;cases c with | nil=>exact⟨rfl,rfl⟩ | cons _ _=>simp at hl
  | cons v r ih=>
    intro c hl hx
    cases c with
    | nil=>simp at hl
    | cons x c=>
      obtain⟨h0,hm⟩:=hx 0 v x rfl rfl
      have hv:=Za0.1 hp v hm
      refine⟨x,c,[],[],rfl,rfl,?_,ih c (by simpa using hl) fun i v' x' h1 h2=>hx (i+1) v' x' (by simpa using h1) (by simpa using h2)⟩
      cases v <;> first | exact h0 | simp at hv
 have hR:RVs w Pb args cargs []:=hrv args cargs hi.len.symm fun i v x hv hx=>by
  have:=hi.slot i v x hv hx
  rw[hF0 i v x hv hx]at this
  exact⟨this,Za5 hv⟩
 refine(h.2 w Pb cargs (fun g hg=>hi.bound g (hi.sub g hg)) hR).mono ?_
 rintro e w' ⟨r,x,Fr,Pb',rfl,hq,hrv,hnd,hfr,hP1,hP2,hB⟩
 refine⟨r,x,[],Pb',fun g=>Kb g\/Pb' g,(fun r=>match r with | .slot i=>if i=0 then Fr else [] | .key _=>[]),rfl,⟨hq,rfl⟩,?_⟩
 have hold:∀ g,Kb g->g<w.heap.size:=hi.bound
 refine⟨by simpa using hrv,fun k g v hk=>by simp[lk]at hk,fun r r' hne g hg=>?_,fun r=>?_,fun r g hg=>?_,fun g h=>.inr h,fun g h=>?_,hP1,fun _ h=>.inl h,fun g hg=>?_,⟨hB.os,hB.tape,hB.output,hB.size,fun g hg=>hB.block g (hold g hg),Shp.of_eq hB.block⟩⟩
 cases r with
 | slot i=>
   simp only at hg;split at hg
   rename_i hi0
   cases r' with
   | slot j=>simp only;rw[if_neg (fun c=>hne (by rw[hi0,c]))];simp
   | key k=>simp
   simp at hg
 | key k=>simp at hg
 cases r <;> simp only
 split
 exact hnd
 exact Za8
 exact Za8
 cases r with
 | slot i=>
   simp only at hg;split at hg
   obtain⟨h1,h2,h3⟩:=hfr g hg
   exact⟨fun c=>c.elim (fun c=>by have:=hold g c;omega) h3,h2⟩
   simp at hg
 | key k=>simp at hg
 rcases h with h | h
 have:=hold g h;have:=hB.size;omega
 rcases hP2 g h with h | h
 have:=hold g (hi.sub g h);have:=hB.size;omega
 exact h.2
 rcases hP2 g hg with h | h
 exact .inl h
 exact .inr fun c=>by have:=hold g c;omega
def RVm(w:World)(Pb:Nat->Prop)(v:V)(x:Value):Prop:=match v with | .agg us=> ∃ cs,x=.agg cs/\RL w Pb us cs.toList [] | .b9=>([]:List Nat)=[] | v=>R w Pb v [x] []
theorem zS{w:World}{Pb:Nat->Prop}{v:V}{vs:List V}{xs:List Value}(h:RVs w Pb (v::vs) xs []):∃ x r,xs=x::r/\RVm w Pb v x/\RVs w Pb vs r []:=by
 obtain⟨x,r,F1,F2,e,hF,h1,h2⟩:=h
 have hF:=List.append_eq_nil_iff.1 hF.symm
 obtain⟨rfl,rfl⟩:=hF
 exact⟨x,r,e,h1,h2⟩
theorem jc{w:World}{Pb:Nat->Prop}{y:Value}{vs:List V}{xs:List Value}(h:RVs w Pb (.lit y::vs) xs []):∃ r,xs=y::r/\RVs w Pb vs r []:=by
 obtain⟨x,r,e,h1,h2⟩:=zS h
 obtain⟨_,e1,_⟩:=h1
 simp only[List.cons.injEq,and_true]at e1
 exact⟨r,by rw[e,e1],h2⟩
theorem nn{w:World}{Pb:Nat->Prop}{xs:List Value}(h:RVs w Pb [] xs []):xs=[]:=h.1
theorem Ae{w:World}{Pb:Nat->Prop}{f:Bool}{l:List BL}{vs:List V}{xs:List Value}(h:RVs w Pb (.sl f (l.map sV)::vs) xs []):∃ A c r,xs=.slice A l.length c::r/\RVs w Pb vs r []/\l.length<=c/\
 (l=[]\/∃ b o,A=some ⟨b,o,none⟩/\Pb b/\∀ j x,(l.map Str)[j]? =some x->w.cell? ⟨b,o+j,none⟩=some (.string x)):=by
 obtain⟨x,r,e,h1,h2⟩:=zS h
 obtain⟨_,A,c,e1,hle,_,hx⟩:=h1
 simp only[List.cons.injEq,and_true,Zaw]at e1 hle
 refine⟨A,c,r,by rw[e,e1],h2,hle,?_⟩
 rcases hx with hx | ⟨b,o,sz,flat,hA,hb,hs,hn,hr,hc⟩
 left;simpa using hx
 right
 refine⟨b,o,hA,hb,fun j x hj=>hc j _ ?_⟩
 have hfl:∀ (l:List BL) {flat:List Value} {F},RL w Pb (l.map sV) flat F->flat=l.map fun t=>.string (Str t):=by
  intro l;induction l with
  | nil=>intro flat F h;exact h.1
  | cons t r ih=>
    intro flat F h
    obtain⟨c1,c2,F1,F2,e1,_,h1,h2⟩:=h
    rw[e1,ih h2,h1.2.1];rfl
 rw[hfl l hr]
 rw[List.getElem?_map]at hj ⊢
 cases hl:l[j]? with
 | none=>rw[hl]at hj;simp at hj
 | some t=>rw[hl]at hj;simp at hj;simp[hj]
theorem vP{f:FuncId}{args:List V}{res:V}{y:Value}(he:pr P f)(hv:res.val? =some y)(h:∀ (w:World) (Pb:Nat->Prop) cargs,(∀ g,Pb g->g<w.heap.size)->RVs w Pb args cargs []->Calls P f cargs.toArray w fun e w'=>e=.returned y/\Below w.heap.size w w'):PC P f args (fun r=>r=res):=by
 refine⟨he,fun w Pb cargs hP hargs=>(h w Pb cargs hP hargs).mono ?_⟩
 rintro e w' ⟨rfl,hB⟩
 exact⟨res,y,[],Pb,rfl,rfl,vX hv,Za8,Zab,fun _ h=>h,fun _ h=>.inl h,hB⟩
end
def dI(c:UInt8):BL->List BL
 | []=>[[]]
 | b::l=>if b=c then []::dI c l else match dI c l with
   | []=>[[b]]
   | p::r=>(b::p)::r
theorem GC(c:UInt8):∀ l,dI c l≠[]
 | []=>by simp[dI]
 | b::l=>by
   unfold dI;split
   simp
   split <;> simp
theorem qh(c:UInt8):∀ l,Lib.indexByte l c= -1->dI c l=[l]
 | [],_=>rfl
 | b::l,h=>by
   unfold Lib.indexByte at h
   split at h
   simp at h
   rename_i hb
   have hb:b≠c:=by simpa using hb
   split at h
   rename_i h1
   have:=qh c l (by simpa using h1)
   unfold dI
   rw[if_neg hb,this]
   have:=Lib.indexByte_ge l c;omega
theorem su(c:UInt8):∀ l (i:Nat),Lib.indexByte l c=i->dI c l=l.take i::dI c (l.drop (i+1))/\i<l.length/\l.count c=(l.drop (i+1)).count c+1
 | [],i,h=>by unfold Lib.indexByte at h;omega
 | b::l,i,h=>by
   unfold Lib.indexByte at h
   split at h
   rename_i hb
   have hb:b=c:=by simpa using hb
   have:i=0:=Zaa
   subst this hb
   simp[dI]
   rename_i hb
   have hb:b≠c:=by simpa using hb
   split at h
   omega
   rename_i h1
   have:=Lib.indexByte_ge l c
   have h1:Lib.indexByte l c≠ -1:=by simpa using h1
   obtain⟨j,rfl⟩:∃ j,i=j+1:=⟨i-1,Zaa⟩
   obtain⟨k1,k2,k3⟩:=su c l j Zaa
   refine⟨?_,Zaj,by simp[List.count_cons,hb,k3]⟩
   conv=>lhs;unfold dI
   rw[if_neg hb,k1]
   simp
theorem Bh(c:UInt8):∀ (k:Nat) (s:BL),s.count c=k->Lib.splitK [c] 0 k s=dI c s
 | 0,s,h=>by
   have:Lib.indexByte s c= -1:=by
    by_cases hc:Lib.indexByte s c= -1
    exact hc
    have h1:=Lib.indexByte_ge s c
    obtain⟨i,hi⟩:∃ i:Nat,Lib.indexByte s c=i:=⟨(Lib.indexByte s c).toNat,Zaa⟩
    have:=(su c s i hi).2.2;omega
   rw[qh c s this];rfl
 | k+1,s,h=>by
   by_cases hc:Lib.indexByte s c= -1
   rw[qh c s hc]
   unfold Lib.splitK;rw[Lib.index_one,hc];rfl
   have h1:=Lib.indexByte_ge s c
   obtain⟨i,hi⟩:∃ i:Nat,Lib.indexByte s c=i:=⟨(Lib.indexByte s c).toNat,Zaa⟩
   obtain⟨k1,k2,k3⟩:=su c s i hi
   rw[k1]
   unfold Lib.splitK
   rw[Lib.index_one,hi]
   have: ¬ ((i:Int)== -1)=true:=Zab
   rw[if_neg this]
   simp only[Int.toNat_natCast,Nat.add_zero,Zbd]
   rw[Bh c k _ Zaa]
theorem yV(c:UInt8):∀ s,Lib.indexByte s c= -1->af c s=(s,[],false)
 | [],_=>rfl
 | b::l,h=>by
   unfold Lib.indexByte at h
   split at h
   simp at h
   rename_i hb
   have hb:b≠c:=by simpa using hb
   split at h
   rename_i h1
   have:=yV c l (by simpa using h1)
   simp only[af,if_neg hb,this]
   have:=Lib.indexByte_ge l c;omega
theorem vj(c:UInt8):∀ s (i:Nat),Lib.indexByte s c=i->af c s=(s.take i,s.drop (i+1),true)/\i<s.length
 | [],i,h=>by unfold Lib.indexByte at h;omega
 | b::l,i,h=>by
   unfold Lib.indexByte at h
   split at h
   rename_i hb
   have hb:b=c:=by simpa using hb
   have:i=0:=Zaa
   subst this
   simp[af,hb]
   rename_i hb
   have hb:b≠c:=by simpa using hb
   split at h
   omega
   rename_i h1
   have:=Lib.indexByte_ge l c
   have h1:Lib.indexByte l c≠ -1:=by simpa using h1
   obtain⟨j,rfl⟩:∃ j,i=j+1:=⟨i-1,Zaa⟩
   obtain⟨k1,k2⟩:=vj c l j Zaa
   refine⟨?_,Zaj⟩
   simp only[af,if_neg hb,k1];rfl
theorem Mm(s:BL)(c:UInt8)(h:0<=Lib.indexByte s c):Lib.indexByte s c<s.length:=by
 obtain⟨i,hi⟩:∃ i:Nat,Lib.indexByte s c=i:=⟨(Lib.indexByte s c).toNat,Zaa⟩
 have:=(vj c s i hi).2;omega
theorem JB{s:BL}{c:UInt8}(h:Lib.indexByte s c<0):af c s=(s,[],false):=yV c s (by have:=Lib.indexByte_ge s c;omega)
theorem Hz{s:BL}{c:UInt8}(h:0<=Lib.indexByte s c):af c s=(s.take (Lib.indexByte s c).toNat,s.drop ((Lib.indexByte s c).toNat+1),true):=(vj c s _ Zaa).1
theorem zX(c:UInt8):∀ s,dI c s=an c s
 | []=>rfl
 | b::l=>by
   have ih:=zX c l
   unfold dI an
   split
   rw[ih]
   rw[ih]
   cases h:an c l with
   | nil=>exact absurd (ih.trans h) (GC c l)
   | cons p r=>rfl
theorem wV:∀ (l:List BL),Lib.join l [47]=cI l
 | []=>rfl
 | [p]=>Lib.join_one p _
 | p::q::r=>by
   have:=wV (q::r)
   rw[Lib.join_cons]at this ⊢
   simp only[Lib.joinTail,Zbc,List.flatten_cons]at this ⊢
   rw[show cI (p::q::r)=p++[47]++cI (q::r) from rfl,<- this]
   simp
theorem LU(s:BL): -1<=Lib.indexAny s [47,63]:=Lib.indexAny_ge _ s
theorem vl:∀ (s:BL),(Lib.indexAny s [47,63]<0->s.takeWhile jS=s/\s.dropWhile jS=[])/\(0<=Lib.indexAny s [47,63]->s.takeWhile jS=s.take (Lib.indexAny s [47,63]).toNat/\s.dropWhile jS=s.drop (Lib.indexAny s [47,63]).toNat/\(Lib.indexAny s [47,63]).toNat<s.length)
 | []=>by simp[Lib.indexAny]
 | b::l=>by
   obtain⟨i1,i2⟩:=vl l
   have hg:=LU l
   have hn:jS b=!([47,63]:BL).contains b:=by
    unfold jS
    have:(b.toNat=47↔b=47)/\(b.toNat=63↔b=63):=⟨by rw[<- UInt8.toNat_inj];rfl,by rw[<- UInt8.toNat_inj];rfl⟩
    rw[Za4]
    simp[this]
   unfold Lib.indexAny
   cases hc:([47,63]:BL).contains b with
   | true=>
     rw[hc]at hn
     simp[List.takeWhile_cons,List.dropWhile_cons,hn]
   | false=>
     rw[hc]at hn
     simp only[Bool.false_eq_true,if_false]
     by_cases h1:Lib.indexAny l [47,63]= -1
     obtain⟨k1,k2⟩:=i1 Zaa
     rw[h1]
     simp[List.takeWhile_cons,List.dropWhile_cons,hn,k1,k2]
     obtain⟨k1,k2,k3⟩:=i2 Zaa
     rw[if_neg (by simpa using h1)]
     refine⟨fun h=>by omega,fun _=>?_⟩
     rw[show (Lib.indexAny l [47,63]+1).toNat=(Lib.indexAny l [47,63]).toNat+1 from Zaa]
     simp[List.takeWhile_cons,List.dropWhile_cons,hn,k1,k2,k3]
def ko(s:BL)(i:Nat):Bool:=decide (i+2<s.length)&&(decide (0<=cU (s.getD (i+1) 0))&&decide (0<=cU (s.getD (i+2) 0)))
def dD(s:BL)(i:Nat):UInt8:=if ko s i=true then dG (s.getD (i+1) 0) (s.getD (i+2) 0) else 0
theorem jw{s:BL}{i:Nat}:ko s i=true↔i+2<s.length/\0<=cU (s.getD (i+1) 0)/\0<=cU (s.getD (i+2) 0):=by
 unfold ko;simp
theorem sP{s:BL}{i:Nat}(h:ko s i=true):dD s i=dG (s.getD (i+1) 0) (s.getD (i+2) 0):=if_pos h
theorem Ba{s:BL}{i:Nat}(h:ko s i=false):dD s i=0:=if_neg (by rw[h];decide)
theorem iw(l:BL):(Str l).data.toList=l:=rfl
theorem Kv(s:BL)(c:UInt8):PC Tryz.prog 168 [sV s,sV [c]] (fun r=>r=iV (Lib.indexByte s c)):=by
 refine vP (eV Tryz.func168 Zac Zac) rfl fun w Pb cargs hP hargs=>?_
 obtain⟨r,rfl,h1⟩:=jc hargs
 obtain⟨r,rfl,h2⟩:=jc h1
 obtain rfl:=nn h2
 refine(Tryz.stringslite_Index_one (Str s) c w).mono ?_
 rintro e w' ⟨rfl,rfl⟩
 exact⟨by rw[iw],Below.refl _ _⟩
theorem KU(s:BL)(c:UInt8):PF Tryz.prog 168 [sV s,sV [c]] [] (fun r h=>r=iV (Lib.indexByte s c)/\h=[]):=jz rfl rfl (Kv s c)
theorem MG(s:BL)(hs:s.length<=1000000)(ha:∀ c,c∈s->c.toNat<128):PF Tryz.prog 142 [sV s,sV [47,63]] [] (fun r h=>r=iV (Lib.indexAny s [47,63])/\h=[]):=by
 refine jz rfl rfl (vP (eV Tryz.func142 Zac Zac) rfl fun w Pb cargs hP hargs=>?_)
 obtain⟨r,rfl,h1⟩:=jc hargs
 obtain⟨r,rfl,h2⟩:=jc h1
 obtain rfl:=nn h2
 refine(Tryz.strings_IndexAny_laid (Str s) (Str [47,63]) w (by rw[jq];omega) (by rw[jq];decide) (fun j b hb=>?_) (fun j b hb=>?_)).mono ?_
 rw[iw]at hb;exact ha b (Za5 hb)
 rw[iw]at hb
 have:=Za5 hb
 simp at this;rcases this with rfl | rfl <;> decide
 rintro e w' ⟨rfl,hB⟩
 exact⟨by rw[iw,iw],hB⟩
theorem Gc(l:List BL):(l.map Str).map (·.data.toList)=l:=by
 rw[List.map_map];conv=>rhs;rw[<- List.map_id l]
 apply List.map_congr_left;intro x _;exact iw x
theorem Ka(f:Bool)(l:List BL)(sep:BL)(hl:l.length<=1000000)(hj:(Lib.join l sep).length<=1000000):PF Tryz.prog 132 [.sl f (l.map sV),sV sep] [] (fun r h=>r=sV (Lib.join l sep)/\h=[]):=by
 refine jz rfl rfl (vP (eV Tryz.func132 Zac Zac) rfl fun w Pb cargs hP hargs=>?_)
 obtain⟨A,c,r,rfl,h1,hle,hc⟩:=Ae hargs
 obtain⟨r,rfl,h2⟩:=jc h1
 obtain rfl:=nn h2
 rcases hc with rfl | ⟨b,o,rfl,hb,hc⟩
 refine(Tryz.strings_Join_none A c (Str sep) w).mono ?_
 rintro e w' ⟨rfl,rfl⟩
 exact⟨rfl,Below.refl _ _⟩
 have:=Tryz.strings_Join b o c (l.map Str) (Str sep) w hc (hP b hb) Zaj (by simpa using hle) (by rw[Gc,iw];omega)
 rw[Zaw]at this
 refine this.mono ?_
 rintro e w' ⟨rfl,hB⟩
 exact⟨by rw[Gc,iw];rfl,hB⟩
theorem LD(f:Bool)(l:List BL)(x:BL)(hl:l.length<=1000000):PF Tryz.prog 59 [.sl f (l.map sV),sV x] [] (fun r h=>r=bV (l.contains x)/\h=[]):=by
 refine jz rfl rfl (vP (eV Tryz.func59 Zac Zac) rfl fun w Pb cargs hP hargs=>?_)
 obtain⟨A,c,r,rfl,h1,hle,hc⟩:=Ae hargs
 obtain⟨r,rfl,h2⟩:=jc h1
 obtain rfl:=nn h2
 rcases hc with rfl | ⟨b,o,rfl,hb,hc⟩
 refine(Tryz.slices_Contains_string_empty A c (Str x) w).mono ?_
 rintro e w' ⟨rfl,rfl⟩
 exact⟨rfl,Below.refl _ _⟩
 refine(Tryz.slices_Contains_string b o l.length c (l.map Str) (Str x) w Zab Zaa (fun j hj=>?_)).mono ?_
 apply hc;rw[Zak,Zar hj];rfl
 rintro e w' ⟨rfl,rfl⟩
 refine⟨?_,Below.refl _ _⟩
 congr 2
 rw[Za4,Lib.containsS_iff,List.contains_iff_mem,Zax Zab,List.mem_map]
 exact⟨fun⟨y,h1,h2⟩=>by
  have:y=x:=by rw[<- iw y,h2,iw]
  rw[<- this];exact h1,fun h=>⟨x,h,rfl⟩⟩
theorem Iw(s:BL)(c:UInt8)(hs:s.length<=1000000):PC Tryz.prog 180 [sV s,sV [c],iV 0,iV (-1)] (fun r=>r=.sl true ((dI c s).map sV)):=by
 refine⟨eV Tryz.func180 Zac Zac,fun w Pb cargs hP hargs=>?_⟩
 obtain⟨r,rfl,h1⟩:=jc hargs
 obtain⟨r,rfl,h2⟩:=jc h1
 obtain⟨r,rfl,h3⟩:=jc h2
 obtain⟨r,rfl,h4⟩:=jc h3
 obtain rfl:=nn h4
 have hcnt:Lib.countB (Str s) (Str [c])=s.count c:=by
  show Lib.count (Str s).data.toList (Str [c]).data.toList=_
  rw[iw,iw,Lib.count_one]
 have hI:∀ (x:ByteArray) (cs:Array Value),x.size<=(Str s).size->Calls Tryz.prog (Tryz.gL.f 143) #[.string x,.string (Str [c])] (w.alloc (.cells cs (Tryz.gL.t 9))) fun e w'=>e=.returned (.int .i64 (Lib.indexB x (Str [c])))/\w'=w.alloc (.cells cs (Tryz.gL.t 9)):=fun x cs _=>
  (Tryz.strings_Index_one x c _).mono fun e w' h=>by
   rw[show Lib.indexB x (Str [c])=Lib.indexByte x.data.toList c from Lib.index_one _ _];exact h
 have hC:Calls Tryz.prog (Tryz.gL.f 138) #[.string (Str s),.string (Str [c])] w fun e w'=>e=.returned (.int .i64 (Lib.countB (Str s) (Str [c])))/\w'=w:=
  (Tryz.strings_Count_one (Str s) c w).mono fun e w' h=>by
   rw[hcnt];exact h
 have hcl:s.count c<=s.length:=List.count_le_length
 have hg:=Any.strings_genSplit_core Tryz.JN Zac (Str s) (Str [c]) 0 (-1) (s.count c+1) w (by rw[jq];omega) (by rw[jq];simp) (Nat.zero_le _) hI hC Zad Zad (by rw[if_pos Zad,hcnt,jq];omega)
 have hlen:(Lib.splitB (Str [c]) 0 (s.count c) (Str s)).length=s.count c+1:=Lib.splitB_all _ (by rw[jq];simp) 0 _ _ hcnt
 have hdat:(Lib.splitB (Str [c]) 0 (s.count c) (Str s)).map (·.data.toList)=dI c s:=by
  rw[Lib.splitB_data,iw,iw];exact Bh c _ s rfl
 have hl2:(dI c s).length=s.count c+1:=by rw[<- hdat,Zaw,hlen]
 have hcells:Lib.cellsOf (Lib.splitB (Str [c]) 0 (s.count c) (Str s)) (s.count c+1)=((dI c s).map fun t=>Value.string (Str t)).toArray:=by
  rw[<- hlen,Lib.cellsOf_full,<- hdat,List.map_map]
  congr 1
 refine hg.mono ?_
 rintro e w' ⟨he,hw⟩
 rw[Nat.add_sub_cancel,hlen]at he
 rw[Nat.add_sub_cancel,hcells]at hw
 subst hw
 refine⟨_,_,[],fun g=>Pb g\/g=w.heap.size,he,rfl,?_,Za8,Zab,fun _ h=>.inl h,fun g h=>h.imp id fun h=>⟨Zaa,by rw[ef];omega⟩,⟨rfl,rfl,rfl,by rw[ef];omega,fun k hk=>alloc_old w _ k hk⟩⟩
 refine⟨rfl,_,_,by rw[Zaw,hl2],by simp[hl2],fun _=>by simp[hl2],.inr ⟨_,_,1,(dI c s).map fun t=>Value.string (Str t),rfl,.inr rfl,Nat.one_pos,fun v hv=>?_,?_,fun j u hu=>?_⟩⟩
 obtain⟨t,_,rfl⟩:=List.mem_map.1 hv;rfl
 have:∀ (l:List BL) (w:World) (Pb:Nat->Prop),RL w Pb (l.map sV) (l.map fun t=>Value.string (Str t)) []:=by
  intro l w Pb;induction l with
  | nil=>exact⟨rfl,rfl⟩
  | cons t r ih=>exact⟨[_],_,[],[],rfl,rfl,⟨rfl,rfl,rfl⟩,ih⟩
 exact this _ _ _
 rw[Zau]
 have:(w.alloc (.cells ((dI c s).map fun t=>Value.string (Str t)).toArray (Tryz.gL.t 9))).heap[w.heap.size]? =some (.cells ((dI c s).map fun t=>Value.string (Str t)).toArray (Tryz.gL.t 9) (0,0)):=ij w _
 have hb:Blk (w.alloc (.cells ((dI c s).map fun t=>Value.string (Str t)).toArray (Tryz.gL.t 9))) w.heap.size ((dI c s).map fun t=>Value.string (Str t)).toArray:=⟨_,(0,0),this,fun i _ h=>by omega⟩
 rw[eX hb,List.getElem?_toArray];exact hu
theorem Ho(s:BL)(c:UInt8)(hs:s.length<=1000000):PF Tryz.prog 180 [sV s,sV [c],iV 0,iV (-1)] [] (fun r h=>r=.sl true ((dI c s).map sV)/\h=[]):=jz rfl rfl (Iw s c hs)
theorem IV(w:World)(Pb:Nat->Prop):∀ (l:List BL),RL w Pb (l.map sV) (l.map fun t=>Value.string (Str t)) []
 | []=>⟨rfl,rfl⟩
 | _::r=>⟨[_],_,[],[],rfl,rfl,⟨rfl,rfl,rfl⟩,IV w Pb r⟩
theorem xg{w w':World}{Pb:Nat->Prop}{v:Value}{l:List BL}(hP:∀ g,Pb g->g<w.heap.size)(h:w'.ownsRow w.heap.size 9 1 v l.length (l.map fun t=>Value.string (Str t))):
 ∃ F,RV w' Pb (.ow 1 (l.map sV)) v F/\F.Nodup/\∀ g,g∈F->w.heap.size<=g/\g<w'.heap.size/\¬ Pb g:=by
 obtain⟨_,h⟩:=h
 rcases h with ⟨rfl,h0⟩ | ⟨g,cap,cur,rfl,hg,hb,hle,_,hsz,htk⟩
 have:l=[]:=Za3 h0
 subst this
 exact⟨[],⟨0,0,0,.inl ⟨rfl,rfl,rfl,none,rfl⟩⟩,Za8,Zab⟩
 have hnp: ¬ Pb g:=fun c=>by have:=hP g c;omega
 by_cases hc:cap=0
 subst hc
 have:l=[]:=Za3 Zaa
 subst this
 exact⟨[],⟨0,0,0,.inl ⟨rfl,rfl,rfl,_,rfl⟩⟩,Za8,Zab⟩
 have hgl:g<w'.heap.size:=by
  cases hh:w'.heap[g]? with
  | none=>rw[hh]at hb;cases hb
  | some o=>exact(Zbf.1 hh).1
 refine⟨[g],⟨g,0,cap,.inr ⟨Zaa,Nat.one_pos,by simpa using hle,Zab,fun v hv=>?_,hnp,_,[],cur,rfl,IV w' Pb l,⟨9,(0,0),hb,fun i _ h=>by omega⟩,Zaa,fun j u hu=>?_⟩⟩,Zab,fun x hx=>?_⟩
 obtain⟨t,_,rfl⟩:=List.mem_map.1 hv;rfl
 rw[<- htk,List.getElem?_take]at hu
 split at hu
 rw[Zau,<- Array.getElem?_toList];exact hu
 simp at hu
 obtain rfl:=Zat.1 hx
 exact⟨hg,hgl,hnp⟩
theorem HL(f:Bool)(l:List BL)(hl:l.length<=1000000):PC Tryz.prog 40 [.sl f (l.map sV)] (fun r=>r=.ow 1 (l.map sV)):=by
 refine⟨eV Tryz.func40 Zac Zac,fun w Pb cargs hP hargs=>?_⟩
 obtain⟨A,c,r,rfl,h1,hle,hc⟩:=Ae hargs
 obtain rfl:=nn h1
 rcases hc with rfl | ⟨b,o,rfl,hb,hc⟩
 cases A with
 | none=>
   refine(Tryz.slices_Clone_string_nil 0 c w).mono ?_
   rintro e w' ⟨rfl,rfl⟩
   exact⟨_,_,[],Pb,rfl,rfl,⟨0,0,0,.inl ⟨rfl,rfl,rfl,none,rfl⟩⟩,Za8,Zab,fun _ h=>h,fun _ h=>.inl h,Below.refl _ _⟩
 | some a=>
   refine(Tryz.slices_Clone_string_zero a c w).mono ?_
   rintro e w' ⟨v,rfl,hr,_,hB⟩
   obtain⟨F,k1,k2,k3⟩:=xg (l:=[]) hP hr
   exact⟨_,_,F,Pb,rfl,rfl,k1,k2,k3,fun _ h=>h,fun _ h=>.inl h,hB⟩
 refine(Tryz.slices_Clone_string b o l.length c (l.map Str) w Zab Zaa (fun j hj=>?_)).mono ?_
 apply hc;rw[Zak,Zar hj];rfl
 rintro e w' ⟨v,rfl,hr,_,hB⟩
 rw[Zax Zab,List.map_map]at hr
 obtain⟨F,k1,k2,k3⟩:=xg hP hr
 exact⟨_,_,F,Pb,rfl,rfl,k1,k2,k3,fun _ h=>h,fun _ h=>.inl h,hB⟩
theorem Hr(f:Bool)(l:List BL)(hl:l.length<=1000000):PF Tryz.prog 40 [.sl f (l.map sV)] [] (fun r h=>r=.ow 1 (l.map sV)/\h=[]):=jz rfl rfl (HL f l hl)
def foldI(b:Int):Int:=if 97<=b/\b<=102 then b-32 else b
def eS(i:Nat):Int:=if i<10 then 48+i else 55+i
def mc(b:Int):Int:=if 48<=foldI b/\foldI b<=57 then foldI b-48 else if 65<=foldI b/\foldI b<=70 then foldI b-55 else -1
theorem xE:∀ i,(h:i<16)->((((⟨#[48,49,50,51,52,53,54,55,56,57,65,66,67,68,69,70]⟩:ByteArray)[i]'h).toNat:Nat):Int)=eS i:=Zad
theorem vc{i:Nat}(h:i<16):eS i<128:=by unfold eS;split <;> omega
theorem IB(b:UInt8):mc b.toNat=cU b:=by
 unfold mc foldI cU
 have:=b.toNat_lt
 repeat' split
 all_goals omega
theorem xP{b:Int}{i:Nat}(hi:i<16)(h:eS i=foldI b):mc b=i:=by
 unfold eS at h
 unfold mc
 split at h
 rw[if_pos Zaa];omega
 rw[if_neg Zaa,if_pos Zaa];omega
theorem vr{b:Int}(h:∀ j:Nat,j<16->eS j≠foldI b):mc b= -1:=by
 unfold mc
 split
 rename_i hc
 refine absurd ?_ (h (foldI b-48).toNat Zaa)
 unfold eS;rw[if_pos Zaa];omega
 split
 rename_i hc
 refine absurd ?_ (h (foldI b-55).toNat Zaa)
 unfold eS;rw[if_neg Zaa];omega
 rfl
section
open Go Go.RowKit Go.Lib
set_option maxHeartbeats 1000000 in
set_option maxRecDepth 100000 in
theorem LA(b:Int)(h0:0<=b)(h1:b<256)(hlo:decide ((97:Int)<=b)=false)(w:World):Calls Tryz.prog 198 #[.int .u8 b] w fun e w'=>e=.returned (.tuple #[.int .i64 (max (mc b) 0),.bool (decide (0<=mc b))])/\∃ pos,w'=w.iter ⟨#[48,49,50,51,52,53,54,55,56,57,65,66,67,68,69,70]⟩ pos:=by
 have HF:Aside (foldI b=b):=by
  have:=of_decide_eq_false hlo;unfold Aside foldI;rw[if_neg Zaa]
 go_enter Tryz.func198,Tryz.ntmps198
 go_wp2
 go_loopg [4,5] 16 (fun g _ _ wx=> ∃ i:Nat,i+g=16/\wx=w.iter ⟨#[48,49,50,51,52,53,54,55,56,57,65,66,67,68,69,70]⟩ i/\∀ j:Nat,j<i->eS j≠foldI b)
 case atStart=>exact⟨0,Zaa,rfl,fun j hj=>by omega⟩
 case round=>
  obtain⟨i,hig,rfl,hno⟩:=hrel
  have HN:Aside (∀ j:Nat,j<i->eS j≠foldI b):=hno
  clear hno
  cases gk with
  | zero=>
    obtain rfl:i=16:=Zaa
    have hnx:=run_next_end (P:=Tryz.prog) w ⟨#[48,49,50,51,52,53,54,55,56,57,65,66,67,68,69,70]⟩ 16
    go_wp2
    go_ret2
    exact⟨by rw[vr HN.out];rfl,_,rfl⟩
  | succ g=>
    have hi:i<(⟨#[48,49,50,51,52,53,54,55,56,57,65,66,67,68,69,70]⟩:ByteArray).size:=by show i<16;omega
    have hfa:((((⟨#[48,49,50,51,52,53,54,55,56,57,65,66,67,68,69,70]⟩:ByteArray)[i]'hi).toNat:Nat):Int)=eS i:=xE i hi
    have hlt:((⟨#[48,49,50,51,52,53,54,55,56,57,65,66,67,68,69,70]⟩:ByteArray)[i]'hi).toNat<128:=by have:=vc (show i<16 from hi);omega
    have hnx:=fun ty=>run_next_ascii (P:=Tryz.prog) w ⟨#[48,49,50,51,52,53,54,55,56,57,65,66,67,68,69,70]⟩ i ty hi hlt
    rw[hfa]at hnx
    clear hlt hfa
    cases hin:(eS i==b)
    · have HI:Aside ((eS i==b)=false):=hin
      go_wp2
      go_roundg g
      case measure=>omega
      case rel=>exact⟨i+1,Zaa,rfl,fun j hj=>by
       by_cases e:j=i
       subst e;rw[HF.out];exact beq_eq_false_iff_ne.1 HI.out
       exact HN.out j Zaa⟩
    have HI:Aside ((eS i==b)=true):=hin
    go_wp2
    go_ret2
    exact⟨by rw[xP (by have:i<16:=hi;exact this) (by rw[HF.out];exact Zbj.1 HI.out)];simp,_,rfl⟩
set_option maxHeartbeats 1000000 in
set_option maxRecDepth 100000 in
theorem LQ(b:Int)(h0:0<=b)(h1:b<256)(hlo:decide ((97:Int)<=b)=true)(hhi:decide (b<=102)=false)(w:World):Calls Tryz.prog 198 #[.int .u8 b] w fun e w'=>e=.returned (.tuple #[.int .i64 (max (mc b) 0),.bool (decide (0<=mc b))])/\∃ pos,w'=w.iter ⟨#[48,49,50,51,52,53,54,55,56,57,65,66,67,68,69,70]⟩ pos:=by
 have HF:Aside (foldI b=b):=by
  have:=of_decide_eq_false hhi;unfold Aside foldI;rw[if_neg Zaa]
 go_enter Tryz.func198,Tryz.ntmps198
 go_wp2
 go_loopg [4,5] 16 (fun g _ _ wx=> ∃ i:Nat,i+g=16/\wx=w.iter ⟨#[48,49,50,51,52,53,54,55,56,57,65,66,67,68,69,70]⟩ i/\∀ j:Nat,j<i->eS j≠foldI b)
 case atStart=>exact⟨0,Zaa,rfl,fun j hj=>by omega⟩
 case round=>
  obtain⟨i,hig,rfl,hno⟩:=hrel
  have HN:Aside (∀ j:Nat,j<i->eS j≠foldI b):=hno
  clear hno
  cases gk with
  | zero=>
    obtain rfl:i=16:=Zaa
    have hnx:=run_next_end (P:=Tryz.prog) w ⟨#[48,49,50,51,52,53,54,55,56,57,65,66,67,68,69,70]⟩ 16
    go_wp2
    go_ret2
    exact⟨by rw[vr HN.out];rfl,_,rfl⟩
  | succ g=>
    have hi:i<(⟨#[48,49,50,51,52,53,54,55,56,57,65,66,67,68,69,70]⟩:ByteArray).size:=by show i<16;omega
    have hfa:((((⟨#[48,49,50,51,52,53,54,55,56,57,65,66,67,68,69,70]⟩:ByteArray)[i]'hi).toNat:Nat):Int)=eS i:=xE i hi
    have hlt:((⟨#[48,49,50,51,52,53,54,55,56,57,65,66,67,68,69,70]⟩:ByteArray)[i]'hi).toNat<128:=by have:=vc (show i<16 from hi);omega
    have hnx:=fun ty=>run_next_ascii (P:=Tryz.prog) w ⟨#[48,49,50,51,52,53,54,55,56,57,65,66,67,68,69,70]⟩ i ty hi hlt
    rw[hfa]at hnx
    clear hlt hfa
    cases hin:(eS i==b)
    · have HI:Aside ((eS i==b)=false):=hin
      go_wp2
      go_roundg g
      case measure=>omega
      case rel=>exact⟨i+1,Zaa,rfl,fun j hj=>by
       by_cases e:j=i
       subst e;rw[HF.out];exact beq_eq_false_iff_ne.1 HI.out
       exact HN.out j Zaa⟩
    have HI:Aside ((eS i==b)=true):=hin
    go_wp2
    go_ret2
    exact⟨by rw[xP (by have:i<16:=hi;exact this) (by rw[HF.out];exact Zbj.1 HI.out)];simp,_,rfl⟩
set_option maxHeartbeats 1000000 in
set_option maxRecDepth 100000 in
theorem GU(b:Int)(h0:0<=b)(h1:b<256)(hlo:decide ((97:Int)<=b)=true)(hhi:decide (b<=102)=true)(w:World):Calls Tryz.prog 198 #[.int .u8 b] w fun e w'=>e=.returned (.tuple #[.int .i64 (max (mc b) 0),.bool (decide (0<=mc b))])/\∃ pos,w'=w.iter ⟨#[48,49,50,51,52,53,54,55,56,57,65,66,67,68,69,70]⟩ pos:=by
 have HF:Aside (foldI b=(b-32) % 256):=by
  have:=of_decide_eq_true hhi;have:=of_decide_eq_true hlo;unfold Aside foldI;rw[if_pos Zaa];omega
 go_enter Tryz.func198,Tryz.ntmps198
 go_wp2
 go_loopg [4,5] 16 (fun g _ _ wx=> ∃ i:Nat,i+g=16/\wx=w.iter ⟨#[48,49,50,51,52,53,54,55,56,57,65,66,67,68,69,70]⟩ i/\∀ j:Nat,j<i->eS j≠foldI b)
 case atStart=>exact⟨0,Zaa,rfl,fun j hj=>by omega⟩
 case round=>
  obtain⟨i,hig,rfl,hno⟩:=hrel
  have HN:Aside (∀ j:Nat,j<i->eS j≠foldI b):=hno
  clear hno
  cases gk with
  | zero=>
    obtain rfl:i=16:=Zaa
    have hnx:=run_next_end (P:=Tryz.prog) w ⟨#[48,49,50,51,52,53,54,55,56,57,65,66,67,68,69,70]⟩ 16
    go_wp2
    go_ret2
    exact⟨by rw[vr HN.out];rfl,_,rfl⟩
  | succ g=>
    have hi:i<(⟨#[48,49,50,51,52,53,54,55,56,57,65,66,67,68,69,70]⟩:ByteArray).size:=by show i<16;omega
    have hfa:((((⟨#[48,49,50,51,52,53,54,55,56,57,65,66,67,68,69,70]⟩:ByteArray)[i]'hi).toNat:Nat):Int)=eS i:=xE i hi
    have hlt:((⟨#[48,49,50,51,52,53,54,55,56,57,65,66,67,68,69,70]⟩:ByteArray)[i]'hi).toNat<128:=by have:=vc (show i<16 from hi);omega
    have hnx:=fun ty=>run_next_ascii (P:=Tryz.prog) w ⟨#[48,49,50,51,52,53,54,55,56,57,65,66,67,68,69,70]⟩ i ty hi hlt
    rw[hfa]at hnx
    clear hlt hfa
    cases hin:(eS i==(b-32) % 256)
    · have HI:Aside ((eS i==(b-32) % 256)=false):=hin
      go_wp2
      go_roundg g
      case measure=>omega
      case rel=>exact⟨i+1,Zaa,rfl,fun j hj=>by
       by_cases e:j=i
       subst e;rw[HF.out];exact beq_eq_false_iff_ne.1 HI.out
       exact HN.out j Zaa⟩
    have HI:Aside ((eS i==(b-32) % 256)=true):=hin
    go_wp2
    go_ret2
    exact⟨by rw[xP (by have:i<16:=hi;exact this) (by rw[HF.out];exact Zbj.1 HI.out)];simp,_,rfl⟩
theorem Lm(b:UInt8):PC Tryz.prog 198 [uN b.toNat] (fun r=>r=.tup [iV (max (cU b) 0),bV (decide (0<=cU b))]):=by
 refine⟨eV Tryz.func198 Zac Zac,fun w Pb cargs hP hargs=>?_⟩
 obtain⟨r,rfl,h1⟩:=jc hargs
 obtain rfl:=nn h1
 have hb:=b.toNat_lt
 have h:Calls Tryz.prog 198 #[.int .u8 b.toNat] w fun e w'=>e=.returned (.tuple #[.int .i64 (max (mc b.toNat) 0),.bool (decide (0<=mc b.toNat))])/\∃ pos,w'=w.iter ⟨#[48,49,50,51,52,53,54,55,56,57,65,66,67,68,69,70]⟩ pos:=by
  cases h1:decide ((97:Int)<=b.toNat)
  exact LA _ Zaa Zaa h1 w
  cases h2:decide ((b.toNat:Int)<=102)
  exact LQ _ Zaa Zaa h1 h2 w
  exact GU _ Zaa Zaa h1 h2 w
 rw[IB]at h
 refine h.mono ?_
 rintro e w' ⟨rfl,pos,rfl⟩
 exact⟨_,_,[],Pb,rfl,rfl,uI rfl rfl,Za8,Zab,fun _ h=>h,fun _ h=>.inl h,⟨rfl,rfl,rfl,by simp[World.iter],fun k hk=>alloc_old w _ k hk⟩⟩
theorem Mi(b:UInt8):PF Tryz.prog 198 [uN b.toNat] [] (fun r h=>r=.tup [iV (max (cU b) 0),bV (decide (0<=cU b))]/\h=[]):=jz rfl rfl (Lm b)
end
def ZV:ZT Tryz.prog:=⟨3,iN 0,ew (cs:=[.int .i64 0]) Zac Zac⟩
def ZU:ZT Tryz.prog:=⟨4,bV false,ew (cs:=[.bool false]) Zac Zac⟩
def ND:ZT Tryz.prog:=⟨24,.sl true [],ew (cs:=[.slice none 0 0]) Zac Zac⟩
def fo:ZT Tryz.prog:=⟨30,.agg [sV [],iN 0,.sl true [],.sl true [],.sl true []],ew (cs:=[.string ⟨#[]⟩,.int .i64 0,.slice none 0 0,.slice none 0 0,.slice none 0 0]) Zac Zac⟩
def NS:ZT Tryz.prog:=⟨65,.agg [.lit (.map none),.lit (.pointer none)],ew (cs:=[.map none,.pointer none]) Zac Zac⟩
def lp:ZT Tryz.prog:=⟨69,.agg [.sl true [],.sl true [],iN 0],ew (cs:=[.slice none 0 0,.slice none 0 0,.int .i64 0]) Zac Zac⟩
def AY:ZT Tryz.prog:=⟨72,.agg [sV [],iN 0,bV false,.agg [.sl true [],.sl true [],iN 0],iN 0,.sl true []],ew (cs:=[.string ⟨#[]⟩,.int .i64 0,.bool false,.slice none 0 0,.slice none 0 0,.int .i64 0,.int .i64 0,.slice none 0 0]) Zac Zac⟩
def NQ:ZT Tryz.prog:=⟨80,.agg [.sl true [],iN 0],ew (cs:=[.slice none 0 0,.int .i64 0]) Zac Zac⟩
def pe:ZT Tryz.prog:=⟨82,.agg [sV [],sV [],sV [],iN 0],ew (cs:=[.string ⟨#[]⟩,.string ⟨#[]⟩,.string ⟨#[]⟩,.int .i64 0]) Zac Zac⟩
def yf:ZT Tryz.prog:=⟨94,.agg [iN 0,sV [],iN 0],ew (cs:=[.int .i64 0,.string ⟨#[]⟩,.int .i64 0]) Zac Zac⟩
def dw:ZT Tryz.prog:=⟨96,.agg [sV [],.sl true [],bV false,sV []],ew (cs:=[.string ⟨#[]⟩,.slice none 0 0,.bool false,.string ⟨#[]⟩]) Zac Zac⟩
def zD:ZT Tryz.prog:=⟨100,.agg [iN 0,bV false],ew (cs:=[.int .i64 0,.bool false]) Zac Zac⟩
def rB:ZT Tryz.prog:=⟨115,.agg [sV [],iN 0],ew (cs:=[.string ⟨#[]⟩,.int .i64 0]) Zac Zac⟩
def wz:ZT Tryz.prog:=⟨137,.agg [bV false,sV []],ew (cs:=[.bool false,.string ⟨#[]⟩]) Zac Zac⟩
def Nt:ZT Tryz.prog:=⟨149,.agg [.lit .nilFunc,.lit .nilFunc],ew (cs:=[.nilFunc,.nilFunc]) Zac Zac⟩
def Nl:ZT Tryz.prog:=⟨193,.agg [.sl true [],bV false],ew (cs:=[.slice none 0 0,.bool false]) Zac Zac⟩
def Nn:ZT Tryz.prog:=⟨216,.agg [.lit .nilFunc,.lit .nilFunc,.lit .nilFunc],ew (cs:=[.nilFunc,.nilFunc,.nilFunc]) Zac Zac⟩
def oe:ZT Tryz.prog:=⟨220,.agg [sV []],ew (cs:=[.string ⟨#[]⟩]) Zac Zac⟩
def Ew:ZT Tryz.prog:=⟨222,.agg [.agg [bV false,sV []]],ew (cs:=[.bool false,.string ⟨#[]⟩]) Zac Zac⟩
def Jp:ZT Tryz.prog:=⟨225,.agg [iN 0],ew (cs:=[.int .i64 0]) Zac Zac⟩
theorem mixed:Tryz.prog.follows .mixedOrders=true:=Zac
abbrev qp(s:BL)(c:UInt8):V:=.tup [sV ((af c s).1),sV ((af c s).2.1),bV ((af c s).2.2)]
abbrev mX(s:BL)(c:UInt8)(i:Nat):Prop:=i<=s.length/\af c s=(s.take i++(af c (s.drop i)).1,(af c (s.drop i)).2.1,(af c (s.drop i)).2.2)
def oN(s:BL)(c:UInt8):o6 Tryz.prog:=.mk 108 [sV s,uN c.toNat] [] (s.length<=4611686018427387904) (qp s c) [] (by
 intro hs
 refine aB (N:=27) (rs:=[.tmp 4,.tmp 5,.tmp 6]) Tryz.func108
  (.q 3<|.q 1<|.loop (Nat) (fun (i:Nat)=>⟨[(0,sV s),(1,uN c.toNat),(7,iN i)],[]⟩) (fun (i:Nat)=>mX s c i) (fun (i:Nat)=>s.length-i) (fun (i:Nat)=>.q 4<|.br (.q 5<|.br (.dx 8 [0,1,2,3,4,5,6,7] [] []<|.q 1<|.q 1<|.q 1<|.q 1<|.q 1<|.q 1<|.q 1<|.q 1<|.q 2<|.nil) (.q 3<|.nil)) (.q 4<|.nil)))
  ((∃ j7:Nat,(mX s c j7)/\E (sV s)/\E (uN c.toNat)/\Q (iN 0) (iN j7)/\True)/\∀ i:Nat,(mX s c i)->Br (r8 (i:Int) (s.length:Int)) (Ix (i:Int) s/\Br (r6 (((s.getD i 0).toNat:Nat):Int) (c.toNat:Int)) (Sx (0:Int) (i:Int) s/\m8 ((i:Int)+1)/\Sx ((i+1:Nat):Int) (s.length:Int) s/\Q (.tup [sV ((s.take i).drop ((0:Int).toNat)),sV ((s.take s.length).drop (i+1)),bV true]) (qp s c)) (m8 ((i:Int)+1)/\∃ c9:Nat,(mX s c c9)/\(s.length-c9<s.length-i)/\E (sV s)/\E (uN c.toNat)/\Q (iN (i+1)) (iN c9)/\True)) (Q (.tup [sV s,sV [],bV false]) (qp s c))) ?_
 refine⟨⟨0,?_,rfl,rfl,rfl,trivial⟩,?_⟩
 unfold mX
 simp_all
 rintro i ⟨hi,O3⟩
 refine bI (fun l3=>?_) fun l3=>?_
 refine⟨Zaa,?_⟩
 refine bI (fun l6=>?_) fun l6=>?_
 refine⟨Zaa,Zaa,Zaa,?_⟩
 unfold Q qp
 have he:s.getD i 0=c:=UInt8.toNat_inj.1 (by exact_mod_cast l6)
 rw[O3,drop_cons (by omega:i<s.length) 0,af,if_pos he]
 simp
 refine⟨Zaa,?_⟩
 refine⟨i+1,?_,?_,rfl,rfl,rfl,trivial⟩
 unfold mX
 refine⟨Zaa,?_⟩
 have hne: ¬ s.getD i 0=c:=fun h=>l6 (by rw[h])
 rw[O3,drop_cons (by omega:i<s.length) 0]
 simp only[af,if_neg hne,bA (by omega:i<s.length) 0,List.append_assoc,List.cons_append,List.nil_append]
 exact Zai
 unfold Q qp
 have hl:s.length<=i:=Zaa
 rw[O3,Za6 hl,af,Zax hl]
 simp)
def nR(n:Int)(lo:Int)(up:Int):o6 Tryz.prog:=.mk 51 [iV n,iV lo,iV up] [] True (bV (x4 n lo up)) [] (by
 intro _
 refine aB (N:=15) (rs:=[.tmp 6]) Tryz.func51
  (.q 1<|.q 9<|.nil)
  (Pk (A8 n lo) ((A8 n lo)==true) true/\Q (bV ((A8 n lo)&&(E5 n up))) (bV (x4 n lo up))) ?_
 refine⟨⟨fun h=>by rw[h] <;> rfl,fun _=>rfl⟩,?_⟩
 unfold Q
 refine Zbk bV ?_
 rw[Za4]
 simp[x4])
def lR(b:UInt8):o6 Tryz.prog:=.mk 156 [uN b.toNat] [] True (bV (eW b)) [] (by
 intro _
 refine aB (N:=25) (rs:=[.tmp 2]) Tryz.func156
  (.q 1<|.q 23<|.nil)
  ((fun v1:Int=>(fun v2:Bool=>(Pk (A8 v1 97) ((A8 v1 97)==true) true/\Gd v2 (Pk (A8 v1 48) (v2&&((A8 v1 48)==true)) true)/\Pk ((A8 v1 97)&&(E5 v1 122)) true v2/\Pk (((A8 v1 97)&&(E5 v1 122))||((A8 v1 48)&&(E5 v1 57))) true ((((A8 v1 97)&&(E5 v1 122))||((A8 v1 48)&&(E5 v1 57)))==false)/\Pk ((((A8 v1 97)&&(E5 v1 122))||((A8 v1 48)&&(E5 v1 57)))||(r6 v1 46)) true (((((A8 v1 97)&&(E5 v1 122))||((A8 v1 48)&&(E5 v1 57)))||(r6 v1 46))==false)/\Q (bV (((((A8 v1 97)&&(E5 v1 122))||((A8 v1 48)&&(E5 v1 57)))||(r6 v1 46))||(r6 v1 45))) (bV (eW b)))) (((A8 v1 97)&&(E5 v1 122))==false)) (b.toNat:Int)) ?_
 refine⟨⟨fun h=>by rw[h] <;> rfl,fun _=>rfl⟩,fun hG=>⟨fun h=>by rw[h];exact(Zam _ _).mpr ⟨hG,rfl⟩,fun _=>rfl⟩,⟨fun _=>rfl,fun h=>by rw[h] <;> rfl⟩,⟨fun _=>rfl,fun h=>by rw[h] <;> rfl⟩,⟨fun _=>rfl,fun h=>by rw[h] <;> rfl⟩,?_⟩
 unfold Q
 refine Zbk bV ?_
 rw[Za4]
 simp[eW]
 try omega)
def mT(b:UInt8):o6 Tryz.prog:=.mk 167 [uN b.toNat] [] True (bV (eW b)) [] (by
 intro _
 refine aB (N:=25) (rs:=[.tmp 2]) Tryz.func167
  (.q 1<|.q 23<|.nil)
  ((fun v1:Int=>(fun v2:Bool=>(Pk (A8 v1 97) ((A8 v1 97)==true) true/\Gd v2 (Pk (A8 v1 48) (v2&&((A8 v1 48)==true)) true)/\Pk ((A8 v1 97)&&(E5 v1 122)) true v2/\Pk (((A8 v1 97)&&(E5 v1 122))||((A8 v1 48)&&(E5 v1 57))) true ((((A8 v1 97)&&(E5 v1 122))||((A8 v1 48)&&(E5 v1 57)))==false)/\Pk ((((A8 v1 97)&&(E5 v1 122))||((A8 v1 48)&&(E5 v1 57)))||(r6 v1 46)) true (((((A8 v1 97)&&(E5 v1 122))||((A8 v1 48)&&(E5 v1 57)))||(r6 v1 46))==false)/\Q (bV (((((A8 v1 97)&&(E5 v1 122))||((A8 v1 48)&&(E5 v1 57)))||(r6 v1 46))||(r6 v1 45))) (bV (eW b)))) (((A8 v1 97)&&(E5 v1 122))==false)) (b.toNat:Int)) ?_
 refine⟨⟨fun h=>by rw[h] <;> rfl,fun _=>rfl⟩,fun hG=>⟨fun h=>by rw[h];exact(Zam _ _).mpr ⟨hG,rfl⟩,fun _=>rfl⟩,⟨fun _=>rfl,fun h=>by rw[h] <;> rfl⟩,⟨fun _=>rfl,fun h=>by rw[h] <;> rfl⟩,⟨fun _=>rfl,fun h=>by rw[h] <;> rfl⟩,?_⟩
 unfold Q
 refine Zbk bV ?_
 rw[Za4]
 simp[eW]
 try omega)
def lW(b:UInt8):o6 Tryz.prog:=.mk 187 [uN b.toNat] [] True (iV (cU b)) [] (by
 intro _
 refine aB (N:=35) (rs:=[.tmp 2]) Tryz.func187
  (.q 1<|.q 7<|.br (.q 4<|.nil) (.q 7<|.br (.q 5<|.nil) (.q 7<|.br (.q 5<|.nil) (.q 1<|.nil))))
  ((fun v1:Int=>(Pk (A8 v1 48) ((A8 v1 48)==true) true/\Br ((A8 v1 48)&&(E5 v1 57)) (Rh (v1-48)/\m8 (v1-48)/\Q (iV (v1-48)) (iV (cU b))) (Pk (A8 v1 97) ((A8 v1 97)==true) true/\Br ((A8 v1 97)&&(E5 v1 102)) (Rh (v1-97)/\m8 (v1-97)/\m8 ((v1-97)+10)/\Q (iV ((v1-97)+10)) (iV (cU b))) (Pk (A8 v1 65) ((A8 v1 65)==true) true/\Br ((A8 v1 65)&&(E5 v1 70)) (Rh (v1-65)/\m8 (v1-65)/\m8 ((v1-65)+10)/\Q (iV ((v1-65)+10)) (iV (cU b))) (Q (iV (-1)) (iV (cU b))))))) (b.toNat:Int)) ?_
 refine⟨⟨fun h=>by rw[h] <;> rfl,fun _=>rfl⟩,?_⟩
 refine bI (fun l3=>?_) fun l3=>?_
 · refine⟨by have:=Zbb b;omega,by have:=Zbb b;omega,?_⟩
   unfold Q
   have:=b.toNat_lt
   refine Zbk iV ?_
   unfold cU
   repeat (split <;> try omega)
 · refine⟨⟨fun h=>by rw[h] <;> rfl,fun _=>rfl⟩,?_⟩
   refine bI (fun l6=>?_) fun l6=>?_
   · refine⟨by have:=Zbb b;omega,by have:=Zbb b;omega,by have:=Zbb b;omega,?_⟩
     unfold Q
     have:=b.toNat_lt
     refine Zbk iV ?_
     unfold cU
     repeat (split <;> try omega)
   · refine⟨⟨fun h=>by rw[h] <;> rfl,fun _=>rfl⟩,?_⟩
     refine bI (fun n0=>?_) fun n0=>?_
     · refine⟨by have:=Zbb b;omega,by have:=Zbb b;omega,by have:=Zbb b;omega,?_⟩
       unfold Q
       have:=b.toNat_lt
       refine Zbk iV ?_
       unfold cU
       repeat (split <;> try omega)
     · unfold Q
       have:=b.toNat_lt
       refine Zbk iV ?_
       unfold cU
       repeat (split <;> try omega))
def ym(s:BL):o6 Tryz.prog:=.mk 135 [sV s] [] (s.length<=4611686018427387904) (bV (cW s)) [] (by
 intro hs
 refine aB (N:=23) (rs:=[.tmp 2]) Tryz.func135
  (.q 1<|.q 1<|.loop (Nat) (fun (i:Nat)=>⟨[(0,sV s),(3,iN i)],[]⟩) (fun (i:Nat)=>i<=s.length/\∀ j,j<i->iK (s.getD j 0)=true) (fun (i:Nat)=>s.length-i) (fun (i:Nat)=>.q 4<|.br (.q 10<|.br (.q 1<|.nil) (.q 3<|.nil)) (.q 2<|.c (nR (s.length:Int) (1:Int) (5:Int)) []<|.q 1<|.nil)))
  ((∃ j7:Nat,(j7<=s.length/\∀ j,j<j7->iK (s.getD j 0)=true)/\E (sV s)/\Q (iN 0) (iN j7)/\True)/\∀ i:Nat,(i<=s.length/\∀ j,j<i->iK (s.getD j 0)=true)->(fun v1:Int=>Br (r8 (i:Int) (s.length:Int)) (Ix (i:Int) s/\Gd ((r8 v1 97)==false) (Ix (i:Int) s)/\Pk (r8 v1 97) true ((r8 v1 97)==false)/\Br ((r8 v1 97)||(w3 v1 122)) (Q (bV false) (bV (cW s))) (m8 ((i:Int)+1)/\∃ c9:Nat,(c9<=s.length/\∀ j,j<c9->iK (s.getD j 0)=true)/\(s.length-c9<s.length-i)/\E (sV s)/\Q (iN (i+1)) (iN c9)/\True)) ((nR (s.length:Int) (1:Int) (5:Int)).sm/\(True)/\Q (bV (x4 (s.length:Int) (1:Int) (5:Int))) (bV (cW s)))) (((s.getD i 0).toNat:Nat):Int)) ?_
 refine⟨⟨0,?_,rfl,rfl,trivial⟩,?_⟩
 simp_all
 rintro i ⟨hi,QZ⟩
 refine bI (fun l3=>?_) fun l3=>?_
 refine⟨Zaa,fun hG=>by(try simp only[nb]at hG);omega,⟨fun _=>rfl,fun h=>by rw[h] <;> rfl⟩,?_⟩
 refine bI (fun l6=>?_) fun l6=>?_
 unfold Q
 rw[show cW s=false from by unfold cW gW;rw[all_false (i:=i) (d:=0) Zaa (by simp only[iK,decide_eq_false_iff_not];omega)];rfl]
 refine⟨Zaa,?_⟩
 refine⟨i+1,?_,?_,rfl,rfl,trivial⟩
 refine⟨Zaa,bJ QZ ?_⟩
 simp only[iK,Zbi];omega
 exact Zai
 refine⟨rfl,trivial,?_⟩
 unfold Q
 unfold cW
 rw[show gW s=true from all_true (d:=0) fun j hj=>QZ j Zaa]
 rw[Bool.true_and])
def rW(s:BL):o6 Tryz.prog:=.mk 48 [sV s] [] (s.length<=4611686018427387904) (bV (aZ s)) [] (by
 intro hs
 refine aB (N:=23) (rs:=[.tmp 2]) Tryz.func48
  (.q 1<|.q 1<|.loop (Nat) (fun (i:Nat)=>⟨[(0,sV s),(3,iN i)],[]⟩) (fun (i:Nat)=>i<=s.length/\∀ j,j<i->iK (s.getD j 0)=true) (fun (i:Nat)=>s.length-i) (fun (i:Nat)=>.q 4<|.br (.q 10<|.br (.q 1<|.nil) (.q 3<|.nil)) (.q 2<|.c (nR (s.length:Int) (1:Int) (8:Int)) []<|.q 1<|.nil)))
  ((∃ j7:Nat,(j7<=s.length/\∀ j,j<j7->iK (s.getD j 0)=true)/\E (sV s)/\Q (iN 0) (iN j7)/\True)/\∀ i:Nat,(i<=s.length/\∀ j,j<i->iK (s.getD j 0)=true)->(fun v1:Int=>Br (r8 (i:Int) (s.length:Int)) (Ix (i:Int) s/\Gd ((r8 v1 97)==false) (Ix (i:Int) s)/\Pk (r8 v1 97) true ((r8 v1 97)==false)/\Br ((r8 v1 97)||(w3 v1 122)) (Q (bV false) (bV (aZ s))) (m8 ((i:Int)+1)/\∃ c9:Nat,(c9<=s.length/\∀ j,j<c9->iK (s.getD j 0)=true)/\(s.length-c9<s.length-i)/\E (sV s)/\Q (iN (i+1)) (iN c9)/\True)) ((nR (s.length:Int) (1:Int) (8:Int)).sm/\(True)/\Q (bV (x4 (s.length:Int) (1:Int) (8:Int))) (bV (aZ s)))) (((s.getD i 0).toNat:Nat):Int)) ?_
 refine⟨⟨0,?_,rfl,rfl,trivial⟩,?_⟩
 simp_all
 rintro i ⟨hi,QZ⟩
 refine bI (fun l3=>?_) fun l3=>?_
 refine⟨Zaa,fun hG=>by(try simp only[nb]at hG);omega,⟨fun _=>rfl,fun h=>by rw[h] <;> rfl⟩,?_⟩
 refine bI (fun l6=>?_) fun l6=>?_
 unfold Q
 rw[show aZ s=false from by unfold aZ gW;rw[all_false (i:=i) (d:=0) Zaa (by simp only[iK,decide_eq_false_iff_not];omega)];rfl]
 refine⟨Zaa,?_⟩
 refine⟨i+1,?_,?_,rfl,rfl,trivial⟩
 refine⟨Zaa,bJ QZ ?_⟩
 simp only[iK,Zbi];omega
 exact Zai
 refine⟨rfl,trivial,?_⟩
 unfold Q
 unfold aZ
 rw[show gW s=true from all_true (d:=0) fun j hj=>QZ j Zaa]
 rw[Bool.true_and])
def og(s:BL):o6 Tryz.prog:=.mk 69 [sV s] [] (s.length<=4611686018427387904) (bV (gW s)) [] (by
 intro hs
 refine aB (N:=20) (rs:=[.tmp 2]) Tryz.func69
  (.q 1<|.q 1<|.loop (Nat) (fun (i:Nat)=>⟨[(0,sV s),(3,iN i)],[]⟩) (fun (i:Nat)=>i<=s.length/\∀ j,j<i->iK (s.getD j 0)=true) (fun (i:Nat)=>s.length-i) (fun (i:Nat)=>.q 4<|.br (.q 10<|.br (.q 1<|.nil) (.q 3<|.nil)) (.q 1<|.nil)))
  ((∃ j7:Nat,(j7<=s.length/\∀ j,j<j7->iK (s.getD j 0)=true)/\E (sV s)/\Q (iN 0) (iN j7)/\True)/\∀ i:Nat,(i<=s.length/\∀ j,j<i->iK (s.getD j 0)=true)->(fun v1:Int=>Br (r8 (i:Int) (s.length:Int)) (Ix (i:Int) s/\Gd ((r8 v1 97)==false) (Ix (i:Int) s)/\Pk (r8 v1 97) true ((r8 v1 97)==false)/\Br ((r8 v1 97)||(w3 v1 122)) (Q (bV false) (bV (gW s))) (m8 ((i:Int)+1)/\∃ c9:Nat,(c9<=s.length/\∀ j,j<c9->iK (s.getD j 0)=true)/\(s.length-c9<s.length-i)/\E (sV s)/\Q (iN (i+1)) (iN c9)/\True)) (Q (bV true) (bV (gW s)))) (((s.getD i 0).toNat:Nat):Int)) ?_
 refine⟨⟨0,?_,rfl,rfl,trivial⟩,?_⟩
 simp_all
 rintro i ⟨hi,QZ⟩
 refine bI (fun l3=>?_) fun l3=>?_
 refine⟨Zaa,fun hG=>by(try simp only[nb]at hG);omega,⟨fun _=>rfl,fun h=>by rw[h] <;> rfl⟩,?_⟩
 refine bI (fun l6=>?_) fun l6=>?_
 unfold Q
 rw[show gW s=false from by unfold gW;rw[all_false (i:=i) (d:=0) Zaa (by simp only[iK,decide_eq_false_iff_not];omega)]]
 refine⟨Zaa,?_⟩
 refine⟨i+1,?_,?_,rfl,rfl,trivial⟩
 refine⟨Zaa,bJ QZ ?_⟩
 simp only[iK,Zbi];omega
 exact Zai
 unfold Q
 rw[show gW s=true from all_true (d:=0) fun j hj=>QZ j Zaa])
def pZ(s:BL):o6 Tryz.prog:=.mk 84 [sV s] [] (s.length<=4611686018427387904) (bV (cW s)) [] (by
 intro hs
 refine aB (N:=15) (rs:=[.tmp 2]) Tryz.func84
  (.q 1<|.q 10<|.cg (og s)<|.q 2<|.nil)
  ((fun v1:Int=>(Pk (A8 v1 1) ((A8 v1 1)==true) true/\Gd (((A8 v1 1)&&(E5 v1 5))==true) (((s.length<=4611686018427387904))/\(og s).sm)/\Pk ((A8 v1 1)&&(E5 v1 5)) (((A8 v1 1)&&(E5 v1 5))==true) true/\Q (bV (((A8 v1 1)&&(E5 v1 5))&&(gW s))) (bV (cW s)))) (s.length:Int)) ?_
 refine⟨⟨fun h=>by rw[h] <;> rfl,fun _=>rfl⟩,fun hG=>⟨by(try simp only[nb]at hG);first | assumption | omega | (simp;omega),rfl⟩,⟨fun h=>by rw[h] <;> rfl,fun _=>rfl⟩,?_⟩
 unfold Q
 refine Zbk bV ?_
 rw[Za4]
 simp[cW,x4,and_comm,and_assoc]
 try omega)
def iD(s:BL):o6 Tryz.prog:=.mk 39 [sV s] [] (s.length<=4611686018427387904) (bV (aZ s)) [] (by
 intro hs
 refine aB (N:=15) (rs:=[.tmp 2]) Tryz.func39
  (.q 1<|.q 10<|.cg (og s)<|.q 2<|.nil)
  ((fun v1:Int=>(Pk (A8 v1 1) ((A8 v1 1)==true) true/\Gd (((A8 v1 1)&&(E5 v1 8))==true) (((s.length<=4611686018427387904))/\(og s).sm)/\Pk ((A8 v1 1)&&(E5 v1 8)) (((A8 v1 1)&&(E5 v1 8))==true) true/\Q (bV (((A8 v1 1)&&(E5 v1 8))&&(gW s))) (bV (aZ s)))) (s.length:Int)) ?_
 refine⟨⟨fun h=>by rw[h] <;> rfl,fun _=>rfl⟩,fun hG=>⟨by(try simp only[nb]at hG);first | assumption | omega | (simp;omega),rfl⟩,⟨fun h=>by rw[h] <;> rfl,fun _=>rfl⟩,?_⟩
 unfold Q
 refine Zbk bV ?_
 rw[Za4]
 simp[aZ,x4,and_comm,and_assoc]
 try omega)
end Go.Proofs.YtelggdgnblpjdaaGreatDoor