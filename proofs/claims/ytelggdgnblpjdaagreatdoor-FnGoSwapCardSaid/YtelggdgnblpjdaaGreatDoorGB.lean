/-
  Words and walks for the laws of pedlar's seat: what each function of the program computes, and that it does; no conditions beyond those that each statement names.
-/
import Derived.Test.YtelggdgnblpjdaaGreatDoorGA
import Derived.Scope
import Derived.Laws.MakeOwn
import Derived.MapKept
import Derived.Test.YtelggdgnblpjdaaGreatDoorProg
import Derived.Shelf.Strings.OnBuilder
import Derived.Shelf.Strings.Search2
import Derived.Shelf.Strings.Search3
import Derived.Shelf.Strings.Count
import Derived.Shelf.Strings.SplitCore
import Derived.Shelf.Strings.IndexAnyAll
import Derived.Shelf.Slices.Turned
import Derived.Shelf.Slices.Clone
import Derived.Lib.Join
import Derived.Lib.IndexAny
import Derived.Lib.SplitLaws
import Derived.WalkKit
import Derived.Laws.RangeString
import Derived.Deep.LoopGhost
set_option linter.unusedVariables false
set_option linter.unusedSimpArgs false
set_option linter.unnecessarySimpa false
set_option linter.unusedSectionVars false
namespace Go.Proofs.YtelggdgnblpjdaaGreatDoor
open Go Go.RowKit
set_option maxRecDepth 20000
mutual
def V.Nv(ρ:l6->l6):V->V
 | .hd r p sz g o lo n c=>.hd (ρ r) p sz g o lo n c
 | .ptr r p g o=>.ptr (ρ r) p g o
 | .agg vs=>.agg (V.uI ρ vs)
 | .tup vs=>.tup (V.uI ρ vs)
 | v=>v
def V.uI(ρ:l6->l6):List V->List V
 | []=>[]
 | v::vs=>v.Nv ρ::V.uI ρ vs
end
def Um:V->V
 | .tup _=>.b7
 | .gv _ _=>.b7
 | v=>v
def AS.tk(A:AS):List Operand->List V×AS
 | []=>([],A)
 | x::xs=>match (A.drop x).tk xs with
   | (vs,B)=>(Um (A.ev x)::vs,B)
section
variable {w w':World} {Pb Kb Pb':Nat->Prop} {N:Nat} {A A' B:AS} {a:Act} {F:l6->List Nat} {P:Program} {ops:Array Oper}
mutual
theorem Gb(ρ:l6->l6):∀ (v:V) {cs F},R w Pb v cs F->R w Pb (v.Nv ρ) cs F
 | .agg vs,_,_,h=>by simp only[R,V.Nv]at h ⊢;exact sx ρ vs h
 | .tup _,_,_,h=>by simp[R]at h
 | .hd ..,_,_,h=>h
 | .ptr ..,_,_,h=>h
 | .gv _ _,_,_,h=>h
 | .lit _,_,_,h=>h
 | .sl ..,_,_,h=>h
 | .own ..,_,_,h=>h
 | .ow ..,_,_,h=>h
 | .om ..,_,_,h=>h
 | .mp _,_,_,h=>h
 | .ep _,_,_,h=>h
 | .b7,_,_,h=>h
theorem sx(ρ:l6->l6):∀ (vs:List V) {cs F},RL w Pb vs cs F->RL w Pb (V.uI ρ vs) cs F
 | [],_,_,h=>h
 | v::vs,_,_,h=>by
   obtain⟨c1,c2,F1,F2,rfl,rfl,h1,h2⟩:=h
   exact⟨c1,c2,F1,F2,rfl,rfl,Gb ρ v h1,sx ρ vs h2⟩
end
theorem HV(ρ:l6->l6){v:V}{x:Value}{F1:List Nat}(h:NM w Pb v x F1):NM w Pb (v.Nv ρ) x F1:=by
 cases v with
 | agg us=>obtain⟨cs,rfl,h⟩:=h;exact⟨cs,rfl,sx ρ us h⟩
 | tup vs=>simp[NM,R]at h
 | _=>exact h
theorem yP(ρ:l6->l6):∀ (vs:List V) {xs F1},RVs w Pb vs xs F1->RVs w Pb (V.uI ρ vs) xs F1
 | [],_,_,h=>h
 | v::vs,xs,F1,h=>by
   obtain⟨x,xs',Fa,Fb,rfl,rfl,h1,h2⟩:=(sI (v::vs)).1 h
   exact(sI (v.Nv ρ::V.uI ρ vs)).2 ⟨x,xs',Fa,Fb,rfl,rfl,HV ρ h1,yP ρ vs h2⟩
theorem JK(ρ:l6->l6){v:V}{x:Value}{F1:List Nat}(h:RV w Pb v x F1):RV w Pb (v.Nv ρ) x F1:=by
 cases v with
 | agg us=>obtain⟨cs,rfl,h⟩:=h;exact⟨cs,rfl,sx ρ us h⟩
 | tup us=>obtain⟨cs,rfl,h⟩:=h;exact⟨cs,rfl,yP ρ us h⟩
 | _=>exact h
def QA(w:World)(Pb:Nat->Prop):List V->List Value->List (List Nat)->Prop
 | [],[],[]=>True
 | v::vs,x::xs,F::Fs=>RV w Pb v x F/\QA w Pb vs xs Fs
 | _,_,_=>False
theorem oe:∀ {vs us:List V} {xs ys:List Value} {Fs Gs:List (List Nat)},QA w Pb vs xs Fs->QA w Pb us ys Gs->QA w Pb (vs++us) (xs++ys) (Fs++Gs)
 | [],_,[],_,[],_,_,h=>h
 | _::_,_,_::_,_,_::_,_,h,k=>⟨h.1,oe h.2 k⟩
 | [],_,_::_,_,_,_,h,_=>h.elim
 | [],_,[],_,_::_,_,h,_=>h.elim
 | _::_,_,[],_,_,_,h,_=>h.elim
 | _::_,_,_::_,_,[],_,h,_=>h.elim
theorem yQ:∀ {vs:List V} {xs:List Value} {Fs:List (List Nat)},QA w Pb vs xs Fs->xs.length=vs.length/\Fs.length=vs.length
 | [],[],[],_=>⟨rfl,rfl⟩
 | _::_,_::_,_::_,h=>by have:=yQ h.2;simp[this.1,this.2]
 | [],_::_,_,h=>h.elim
 | [],[],_::_,h=>h.elim
 | _::_,[],_,h=>h.elim
 | _::_,_::_,[],h=>h.elim
theorem Ab:∀ {vs:List V} {xs:List Value} {Fs:List (List Nat)} {i:Nat} {v:V} {x:Value},QA w Pb vs xs Fs->vs[i]? =some v->xs[i]? =some x->RV w Pb v x (Fs.getD i [])
 | v::vs,x::xs,F::Fs,0,_,_,h,h1,h2=>by simp at h1 h2;subst h1 h2;exact h.1
 | v::vs,x::xs,F::Fs,i+1,_,_,h,h1,h2=>by simpa using Ab (i:=i) h.2 (by simpa using h1) (by simpa using h2)
 | [],_,_,_,_,_,_,h1,_=>by simp at h1
 | _::_,[],_,_,_,_,h,_,_=>h.elim
 | _::_,_::_,[],_,_,_,h,_,_=>h.elim
theorem CE:∀ {vs us:List V} {xs:List Value} {Fs:List (List Nat)},QA w Pb vs xs Fs->QA w Pb (Mw vs us) xs Fs
 | [],us,[],[],_=>by simp only[Mw];trivial
 | v::vs,[],_,_,h=>by simpa only[Mw] using h
 | v::vs,u::us,x::xs,F::Fs,h=>⟨wj u h.1,CE h.2⟩
 | [],_,_::_,_,h=>h.elim
 | [],_,[],_::_,h=>h.elim
 | _::_,_::_,[],_,h=>h.elim
 | _::_,_::_,_::_,[],h=>h.elim
theorem oN:∀ (l:List Value),QA w Pb (l.map cV) l (l.map fun _=>[])
 | []=>trivial
 | x::l=>⟨qj x,oN l⟩
theorem Ju{v:V}{x:Value}{Fx:List Nat}(h:RV w Pb v x Fx):∃ Fy,RV w Pb (Um v) x Fy/\(Fy=Fx\/Fy=[]):=by
 cases v with
 | tup _=>exact⟨[],rfl,.inr rfl⟩
 | gv _ _=>exact⟨[],rfl,.inr rfl⟩
 | _=>exact⟨Fx,h,.inl rfl⟩
theorem r7.tk:∀ (xs:List Operand) {A:AS} {F:l6->List Nat},r7 N Pb Kb A a w F->∃ Fl F',QA w Pb (A.tk xs).1 (xs.map a.eval) Fl/\r7 N Pb Kb (A.tk xs).2 a w F'/\
 (∀ i,(Fl.getD i []).Nodup)/\(∀ i j,i≠j->∀ g,g∈Fl.getD i []->g ∉ Fl.getD j [])/\(∀ i r g,g∈Fl.getD i []->g ∉ F' r)/\(∀ i g,g∈Fl.getD i []->¬ Kb g/\g<w.heap.size)/\
 (∀ r g,g∈F' r->g∈F r)/\(∀ i g,g∈Fl.getD i []->∃ r,g∈F r)
 | [],A,F,hs=>⟨[],F,trivial,hs,Z8,Z8,Z8,Z8,fun _ _ h=>h,Z8⟩
 | x::xs,A,F,hs=>by
   obtain⟨Fx,F1,h1,h2,h3,h4,h5,h6,h7⟩:=hs.take x
   obtain⟨Fl,F2,k1,k2,k3,k4,k5,k6,k7,k8⟩:=r7.tk xs h2
   obtain⟨Fy,QW,TE⟩:=Ju h1
   have Vn:∀ g,g∈Fy->g∈Fx:=fun g hg=>by rcases TE with rfl | rfl <;> simp_all
   have hyn:Fy.Nodup:=by rcases TE with rfl | rfl <;> simp_all
   have hx:∀ i g,g∈Fy->g ∉ Fl.getD i []:=fun i g hg c=>by
    obtain⟨r,hr⟩:=k8 i g c
    exact h4 r g (Vn g hg) hr
   refine⟨Fy::Fl,F2,⟨QW,k1⟩,k2,fun i=>?_,fun i j hne g hg=>?_,fun i r g hg=>?_,fun i g hg=>?_,fun r g hg=>h6 r g (k7 r g hg),fun i g hg=>?_⟩
   cases i with
   | zero=>exact hyn
   | succ i=>simpa using k3 i
   cases i with
   | zero=>
     cases j with
     | zero=>exact absurd rfl hne
     | succ j=>simpa using hx j g (by simpa using hg)
   | succ i=>
     cases j with
     | zero=>exact fun c=>hx i g (by simpa using c) (by simpa using hg)
     | succ j=>simpa using k4 i j Z9 g (by simpa using hg)
   cases i with
   | zero=>exact fun c=>h4 r g (Vn g (by simpa using hg)) (k7 r g c)
   | succ i=>exact k5 i r g (by simpa using hg)
   cases i with
   | zero=>exact h5 g (Vn g (by simpa using hg))
   | succ i=>exact k6 i g (by simpa using hg)
   cases i with
   | zero=>exact h7 g (Vn g (by simpa using hg))
   | succ i=>
     obtain⟨r,hr⟩:=k8 i g (by simpa using hg)
     exact⟨r,h6 r g hr⟩
def Nu(ks:List (Nat×Nat)):List (Nat×Nat):=ks.map fun p=>(p.2,p.1)
def jr(ks:List (Nat×Nat)):l6->l6
 | .key k=>match lk k ks with | some q=>.key q | none=>.key k
 | r=>r
def news(ρ:l6->l6)(H:List (Nat×(Nat×V))):List (Nat×Nat)->List (Nat×(Nat×V))
 | []=>[]
 | (k,q)::r=>match lk k H with
   | some (g,v)=>(q,(g,v.Nv ρ))::news ρ H r
   | none=>news ρ H r
def tY(ks:List (Nat×Nat))(h:List (Nat×(Nat×V))):List (Nat×(Nat×V)):=h.filter fun p=>(lk p.1 (Nu ks)).isNone
theorem gx(ks:List (Nat×Nat)):∀ (h:List (Nat×(Nat×V))) (q:Nat),lk q (tY ks h)=if (lk q (Nu ks)).isNone then lk q h else none
 | [],q=>by simp[tY,lk]
 | (k,v)::h,q=>by
   have ih:=gx ks h q
   simp only[tY,List.filter_cons]at ih ⊢
   by_cases hk:(lk k (Nu ks)).isNone=true
   rw[if_pos hk]
   simp only[lk]
   by_cases e:q=k
   subst e;rw[if_pos rfl,if_pos rfl,if_pos hk]
   rw[if_neg e,if_neg e];exact ih
   rw[if_neg hk,ih]
   simp only[lk]
   by_cases e:q=k
   subst e;rw[if_neg hk,if_neg hk]
   rw[if_neg e]
theorem kZ{α:Type}:∀ {l:List (Nat×α)} {q:Nat},q ∉ l.map (·.1)->lk q l=none
 | [],_,_=>rfl
 | (k,v)::l,q,h=>by
   simp only[Zw,List.mem_cons,not_or]at h
   simp only[lk];rw[if_neg h.1];exact kZ h.2
theorem nK{ρ:l6->l6}{H:List (Nat×(Nat×V))}:∀ {ks:List (Nat×Nat)} {q:Nat},Mk (ks.map (·.2))=true->
 lk q (news ρ H ks)=(lk q (Nu ks)).bind fun k=>(lk k H).map fun gv=>(gv.1,gv.2.Nv ρ)
 | [],q,_=>rfl
 | (k,q0)::ks,q,h=>by
   simp only[Zw,Mk,ZX,Bool.not_eq_true',Zs,decide_eq_false_iff_not]at h
   have ih:=nK (ρ:=ρ) (H:=H) (ks:=ks) (q:=q) h.2
   simp only[news,Nu,Zw,lk]
   by_cases e:q=q0
   subst e
   rw[if_pos rfl]
   simp only[Option.bind_some]
   cases hk:lk k H with
   | some gv=>simp only[lk,if_true,Option.map_some]
   | none=>
     simp only[Option.map_none]
     rw[ih,kZ];rfl
     simp only[Nu,List.map_map,Function.comp_def];exact h.1
   rw[if_neg e]
   cases hk:lk k H with
   | some gv=>simp only[lk];rw[if_neg e];exact ih
   | none=>exact ih
def AS.back(A:AS)(ks:List (Nat×Nat))(H:List (Nat×(Nat×V))):AS:=⟨A.t,news (jr ks) H ks++tY ks A.h⟩
theorem jL{α:Type}(t:Nat)(l1 l2:List (Nat×α)):lk t (l1++l2)=match lk t l1 with | some v=>some v | none=>lk t l2:=Dl t l1 l2
def jG(B:AS)(ks:List (Nat×Nat)):List (Nat×(Nat×V))->Prop
 | []=>True
 | (k,(g,v))::r=>(match lk k ks with | some q=>(match lk q B.h with | some (g',v')=>(g',wk v' v)=(g,v) | none=>False) | none=>False)/\jG B ks r
theorem sh{B:AS}{ks:List (Nat×Nat)}:∀ {H:List (Nat×(Nat×V))} {k g:Nat} {v:V},jG B ks H->lk k H=some (g,v)->∃ q v',lk k ks=some q/\lk q B.h=some (g,v')/\wk v' v=v
 | [],_,_,_,_,h=>by simp[lk]at h
 | (k0,(g0,v0))::H,k,g,v,h,e=>by
   simp only[lk]at e
   split at e
   rename_i e';subst e';cases e
   have h1:=h.1
   split at h1
   rename_i q hq
   split at h1
   rename_i g' v' Wj
   simp only[ZV]at h1
   exact⟨q,v',hq,by rw[Wj,h1.1],h1.2⟩
   exact h1.elim
   exact h1.elim
   exact sh h.2 e
theorem sG{α:Type}:∀ {l:List (Nat×α)} {k:Nat} {v:α},lk k l=some v->(k,v)∈l
 | [],_,_,h=>by simp[lk]at h
 | (k0,v0)::l,k,v,h=>by
   simp only[lk]at h
   split at h
   rename_i e;subst e;cases h;simp
   exact List.mem_cons_of_mem _ (sG h)
theorem mC{α:Type}:∀ {l:List (Nat×α)} {k:Nat} {v:α},Mk (l.map (·.1))=true->(k,v)∈l->lk k l=some v
 | (k0,v0)::l,k,v,h,hm=>by
   simp only[Zw,Mk,ZX,Bool.not_eq_true',Zs,decide_eq_false_iff_not]at h
   simp only[lk]
   rcases List.mem_cons.1 hm with e | hm
   cases e;rw[if_pos rfl]
   have hne:k≠k0:=fun c=>h.1 (by rw[<- c];exact List.mem_map.2 ⟨_,hm,rfl⟩)
   rw[if_neg hne];exact mC h.2 hm
theorem nk{ks:List (Nat×Nat)}{k q:Nat}(h1:Mk (ks.map (·.1))=true)(h2:Mk (ks.map (·.2))=true):lk k ks=some q↔lk q (Nu ks)=some k:=by
 have e:(Nu ks).map (·.1)=ks.map (·.2):=by simp[Nu,List.map_map,Function.comp_def]
 constructor
 intro h
 refine mC (by rw[e];exact h2) ?_
 exact List.mem_map.2 ⟨(k,q),sG h,rfl⟩
 intro h
 have hm:=sG h
 simp only[Nu,List.mem_map,ZV]at hm
 obtain⟨⟨x,y⟩,hm,e1,e2⟩:=hm
 simp only at e1 e2
 subst e1 e2
 exact mC h1 hm
open Classical in
theorem mz{o:Oper} {K:AS->Prop} {f:FuncId} {fx:Operand} {xs:Array Operand} {J4:Array TypeId} {first w4:Array Value} {args:List V} {H:List (Nat×(Nat×V))}
 {Q:V->List (Nat×(Nat×V))->Prop} (ks:List (Nat×Nat)) (ho:o.op=.call { callee:=.value fx,args:=xs,argTypes:=J4 }) (WD:A.ev fx=.lit (.func (.func f) first w4))
 (hd:bX N o.dst) (O3:Mk (ks.map (·.1))=true) (M':Mk (ks.map (·.2))=true) (hc:PF P f args H Q)
 (hargs:Mw (first.toList.map cV++(A.tk xs.toList).1++w4.toList.map cV) args=args) (hlen:args.length=(first.toList.map cV++(A.tk xs.toList).1++w4.toList.map cV).length)
 (OH:jG (A.tk xs.toList).2 ks H)
 (hK:∀ r H',Q r H'->K (((A.tk xs.toList).2.back ks H').put o.dst (r.Nv (jr ks)))):D3 P N o A K:=by
 intro Pb Kb a w F Q' hs
 have hfv:=bH hs WD
 unfold Oper.wp
 have x8:(execOp a.eval o).run P w=.ok (.enter f (first++xs.map a.eval++w4)) w:=by
  simp only[execOp,ho,resolve,hfv,Deferred.ofValue,ZK,ZJ,ZS,invoke]
  exact hc.1 _ w
 rw[x8,Oper.upon_enter]
 obtain⟨Fl,F2,k1,k2,k3,k4,k5,k6,k7,k8⟩:=hs.tk xs.toList
 let B:=(A.tk xs.toList).2
 have hle:(⟨B.t,tY ks B.h⟩:AS).le B:=⟨fun _=>.inr rfl,fun q=>by
  simp only[gx];split
  exact .inr rfl
  exact .inl rfl⟩
 let F3:l6->List Nat:=fun r=>match r with
  | .slot i=>F2 (.slot i)
  | .key q=>if (lk q (Nu ks)).isNone then F2 (.key q) else []
 have Rf:∀ r g,g∈F3 r->g∈F2 r:=fun r g hg=>by
  cases r with
  | slot i=>exact hg
  | key q=>simp only[F3]at hg;split at hg
           exact hg
           simp at hg
 have LW:r7 N Pb Kb ⟨B.t,tY ks B.h⟩ a w F3:=by
  refine⟨k2.size,k2.defers,k2.slot,fun q g v hq=>?_,fun r r' hne g hg c=>k2.bP r r' hne g (Rf r g hg) (Rf r' g c),fun r=>?_,fun r g hg=>k2.free r g (Rf r g hg),k2.sub,k2.bound⟩
  simp only[gx]at hq
  split at hq
  rename_i hn
  obtain⟨F',e,hA⟩:=k2.root q g v hq
  exact⟨F',by simp only[F3];rw[if_pos hn];exact e,hA⟩
  simp at hq
  cases r with
  | slot i=>exact k2.nodup _
  | key q=>simp only[F3];split
           exact k2.nodup _
           exact ZA
 let Kc:Nat->Prop:=fun g=>Kb g\/∃ r,g∈F3 r
 let FL:=first.toList.map (fun _=>([]:List Nat))++Fl++w4.toList.map (fun _=>([]:List Nat))
 have XR:QA w Pb (first.toList.map cV++(A.tk xs.toList).1++w4.toList.map cV) (first.toList++xs.toList.map a.eval++w4.toList) FL:=
  oe (oe (oN _) k1) (oN _)
 have U8:∀ i g,g∈FL.getD i []->∃ j,FL.getD i []=Fl.getD j []/\i=first.toList.length+j:=by
  intro i g hg
  simp only[FL,ZZ,List.append_assoc]at hg ⊢
  by_cases h1:i<first.toList.length
  rw[ZB (by simpa using h1),List.getElem?_map]at hg
  cases he:first.toList[i]? <;> rw[he]at hg <;> simp at hg
  have hij:i=first.toList.length+(i-first.toList.length):=Z9
  rw[ZG (by simpa using h1)]at hg ⊢
  simp only[ZM]at hg ⊢
  by_cases h2:i-first.toList.length<Fl.length
  rw[ZB h2]
  exact⟨_,rfl,hij⟩
  rw[ZG Z9,List.getElem?_map]at hg
  cases he:w4.toList[i-first.toList.length-Fl.length]? <;> rw[he]at hg <;> simp at hg
 let FC:l6->List Nat:=fun r=>match r with
  | .slot i=>FL.getD i []
  | .key k=>match lk k ks with
    | some q=>if lk k H=none then [] else F2 (.key q)
    | none=>[]
 have WU:∀ r g,g∈FC r->(∃ i j,r=.slot i/\g∈Fl.getD j []/\i=first.toList.length+j)\/(∃ k q,r=.key k/\lk k ks=some q/\g∈F2 (.key q)):=by
  intro r g hg
  cases r with
  | slot i=>
    obtain⟨j,e,hj⟩:=U8 i g hg
    exact .inl ⟨i,j,rfl,by rw[<- e];exact hg,hj⟩
  | key k=>
    simp only[FC]at hg
    split at hg
    rename_i q hq
    split at hg
    simp at hg
    exact .inr ⟨k,q,rfl,hq,hg⟩
    simp at hg
 have WV:∀ k q,lk k ks=some q->∀ r g,g∈F2 (.key q)->g ∉ F3 r:=by
  intro k q hq r g hg c
  cases r with
  | slot i=>exact k2.bP (.key q) (.slot i) Z8 g hg c
  | key q'=>
    simp only[F3]at c
    split at c
    rename_i hn
    have hne:(l6.key q)≠.key q':=fun e=>by
     cases e
     rw[(nk O3 M').1 hq]at hn;simp at hn
    exact k2.bP _ _ hne g hg c
    simp at c
 have Re:∀ r g,g∈FC r->¬ Kc g/\g<w.heap.size:=by
  intro r g hg
  rcases WU r g hg with ⟨i,j,_,h,_⟩ | ⟨k,q,_,hq,h⟩
  refine⟨fun c=>?_,(k6 j g h).2⟩
  rcases c with c | ⟨r',c⟩
  exact(k6 j g h).1 c
  exact k5 j r' g h (Rf r' g c)
  refine⟨fun c=>?_,(k2.free _ g h).2⟩
  rcases c with c | ⟨r',c⟩
  exact(k2.free _ g h).1 c
  exact WV k q hq r' g h c
 have hi:VM w Pb Kc args (first.toList++xs.toList.map a.eval++w4.toList) H FC:=by
  have hl:=yQ XR
  have XQ:=CE (us:=args) XR
  rw[hargs]at XQ
  refine⟨by rw[hl.1,hlen],fun i v x hv hx=>Ab XQ hv hx,fun k g v UU=>?_,fun i UY=>?_,fun r r' hne g hg c=>?_,fun r=>?_,Re,fun g hg=>.inl (k2.sub g hg),fun g hg=>?_⟩
  obtain⟨q,v',h1,h2,h3⟩:=sh OH UU
  obtain⟨F',e,hA⟩:=k2.root q g v' h2
  refine⟨F',?_,by have:=Bj v hA;rw[h3]at this;exact this⟩
  simp only[FC,h1];rw[if_neg (by rw[UU];simp)];exact e
  simp only[FC]
  rw[ZZ,List.getElem?_eq_none (by rw[hl.2,<- hlen];exact UY)];rfl
  rcases WU r g hg with ⟨i,j,e1,h,e1'⟩ | ⟨k,q,e1,hq,h⟩ <;> rcases WU r' g c with ⟨i',j',e2,h',T6⟩ | ⟨k',q',e2,Wj,h'⟩
  refine k4 j j' (fun e=>hne ?_) g h h'
  rw[e1,e2,e1',T6,e]
  exact k5 j (.key q') g h h'
  exact k5 j' (.key q) g h' h
  have Wi:q=q':=Classical.byContradiction fun Wi=>k2.bP (.key q) (.key q') (fun e=>Wi (by cases e;rfl)) g h h'
  subst Wi
  have:=(nk O3 M').1 hq
  rw[(nk O3 M').1 Wj]at this
  cases this
  exact hne (by rw[e1,e2])
  cases r with
  | slot i=>
    by_cases he:FL.getD i []=[]
    simp only[FC];rw[he];exact ZA
    obtain⟨g,hg⟩:=List.exists_mem_of_ne_nil _ he
    obtain⟨j,e,_⟩:=U8 i g hg
    simp only[FC];rw[e];exact k3 j
  | key k=>
    simp only[FC]
    split
    split
    exact ZA
    exact k2.nodup _
    exact ZA
  rcases hg with h | ⟨r,h⟩
  exact k2.bound g h
  exact(LW.free r g h).2
 have I4:=hc.2 w Pb Kc _ FC hi
 have e:(first.toList++xs.toList.map a.eval++w4.toList).toArray=first++xs.map a.eval++w4:=by
  apply Array.ext';simp
 rw[e]at I4
 refine I4.mono ?_
 rintro e w' ⟨r,x,H',Pb',C4,F',rfl,hq,hf⟩
 have O2:w5 Kb w w':=⟨hf.ee.os,hf.ee.tape,hf.ee.output,hf.ee.size,fun g hg=>hf.ee.block g (.inl hg),hf.ee.shape⟩
 let K2:Nat->Prop:=fun g=>Kb g\/(C4 g/\¬ ∃ r,g∈F3 r)
 have XO:∀ r g,g∈F3 r->¬ Pb' g:=fun r g hg c=>by
  rcases hf.PX g c with h | h
  exact(LW.free r g hg).1 (LW.sub g h)
  exact h (.inr ⟨r,hg⟩)
 have UE:∀ g,Pb' g->K2 g:=fun g hg=>by
  rcases hf.PX g hg with h | h
  exact .inl (LW.sub g h)
  exact .inr ⟨hf.sub g hg,fun⟨r,c⟩=>h (.inr ⟨r,c⟩)⟩
 have Na:∀ r g,g∈F' r->(¬ K2 g/\g<w'.heap.size)/\∀ r',g ∉ F3 r':=fun r g hg=>by
  have h:=hf.free r g hg
  refine⟨⟨fun c=>?_,h.2⟩,fun r' c=>h.1 (hf.mK g (.inr ⟨r',c⟩))⟩
  rcases c with c | c
  exact h.1 (hf.mK g (.inl c))
  exact h.1 c.1
 let F4:l6->List Nat:=fun r=>match r with
  | .slot i=>F3 (.slot i)
  | .key q=>match lk q (Nu ks) with
    | some k=>if lk k H'=none then [] else F' (.key k)
    | none=>F3 (.key q)
 have VE:∀ r g,g∈F4 r->g∈F3 r\/∃ q k,r=.key q/\lk q (Nu ks)=some k/\g∈F' (.key k):=fun r g hg=>by
  cases r with
  | slot i=>exact .inl hg
  | key q=>
    simp only[F4]at hg
    split at hg
    rename_i k hk
    split at hg
    simp at hg
    exact .inr ⟨q,k,rfl,hk,hg⟩
    exact .inl hg
 have Xz:r7 N Pb' K2 (B.back ks H') a w' F4:=by
  refine⟨LW.size,LW.defers,fun i=>?_,fun q g v hq=>?_,fun r r' hne g hg c=>?_,fun r=>?_,fun r g hg=>?_,UE,fun g hg=>?_⟩
  exact lv _ (LW.slot i) (fun g hg=>hf.ee.block g (.inl (LW.sub g hg))) (fun g hg=>hf.ee.block g (.inr ⟨.slot i,hg⟩)) hf.mP (fun g hg=>XO (.slot i) g hg)
  simp only[AS.back,jL,nK M']at hq
  cases UD:lk q (Nu ks) with
  | some k=>
    rw[UD]at hq
    simp only[Option.bind_some]at hq
    cases Vu:lk k H' with
    | some gv=>
      rw[Vu]at hq
      simp only[Option.map_some,ZY,ZV]at hq
      obtain⟨g0,v0⟩:=gv
      obtain⟨rfl,rfl⟩:=hq
      obtain⟨F1,e1,cs,cells,hb,hr,I5⟩:=hf.root k g0 v0 Vu
      exact⟨F1,by simp only[F4,UD];rw[if_neg (by rw[Vu];simp)];exact e1,cs,cells,hb,Gb _ _ hr,I5⟩
    | none=>
      rw[Vu]at hq
      simp only[Option.map_none]at hq
      rw[gx,UD]at hq
      simp at hq
  | none=>
    rw[UD]at hq
    simp only[Option.bind_none]at hq
    obtain⟨F1,e1,hA⟩:=LW.root q g v hq
    refine⟨F1,by simp only[F4,UD];exact e1,?_⟩
    obtain⟨cs,cells,⟨el,fr,hb,hfr⟩,hr,I5⟩:=hA
    have hin:∀ y,y∈g::F1->w'.heap[y]? =w.heap[y]? :=fun y hy=>hf.ee.block y (.inr ⟨.key q,by rw[e1];exact hy⟩)
    exact⟨cs,cells,⟨el,fr,(hin g Z8).trans hb,hfr⟩,fi _ hr (fun y hy=>hf.ee.block y (.inl (LW.sub y hy))) (fun y hy=>hin y (by simp[hy])) hf.mP (fun y hy=>XO (.key q) y (by rw[e1];simp[hy])),I5⟩
  rcases VE r g hg with h | ⟨q,k,e1,h1,h2⟩ <;> rcases VE r' g c with h' | ⟨q',k',e2,QM,VF⟩
  exact LW.bP r r' hne g h h'
  exact(Na _ g VF).2 r h
  exact(Na _ g h2).2 r' h'
  have S9:k=k':=Classical.byContradiction fun S9=>hf.bP (.key k) (.key k') (fun e=>S9 (by cases e;rfl)) g h2 VF
  subst S9
  have e3:=(nk O3 M').2 h1
  rw[(nk O3 M').2 QM]at e3
  cases e3
  exact hne (by rw[e1,e2])
  cases r with
  | slot i=>exact LW.nodup (.slot i)
  | key q=>
    simp only[F4]
    split
    split
    exact ZA
    exact hf.nodup _
    exact LW.nodup (.key q)
  rcases VE r g hg with h | ⟨q,k,_,_,h2⟩
  have h3:=LW.free r g h
  refine⟨fun c=>?_,Nat.lt_of_lt_of_le h3.2 hf.ee.size⟩
  rcases c with c | c
  exact h3.1 c
  exact c.2 ⟨r,h⟩
  exact(Na _ g h2).1
  rcases hg with h | h
  exact Nat.lt_of_lt_of_le (LW.bound g h) hf.ee.size
  exact hf.bound g h.1
 have Qn:∀ A' a' F5,K A'->r7 N Pb' K2 A' a' w' F5->Nx N Pb Kb w K a' w':=fun A' a' F5 hk SX=>
  ⟨A',Pb',K2,F5,hk,SX,hf.mP,fun g hg=>.inl hg,fun g hg=>by
   rcases hf.PX g hg with h | h
   exact .inl h
   exact .inr fun c=>h (.inl c),O2⟩
 cases K5:o.dst with
 | none=>exact Qn _ _ F4 (hK r H' hq) (by rw[K5];exact Xz)
 | some d=>
   rw[K5]at hd
   refine Qn _ _ (bO F4 (.slot d) (F' (.slot 0))) (hK r H' hq) ?_
   rw[K5]
   refine Xz.put hd (JK _ hf.val) (fun rt _ g hg c=>?_) (hf.nodup _) (fun g hg=>(Na _ g hg).1)
   rcases VE rt g c with h | ⟨q,k,_,_,h2⟩
   exact(Na _ g hg).2 rt h
   exact hf.bP (.slot 0) (.key k) Z8 g hg h2
end
section
variable {w w':World} {Pb Kb Pb':Nat->Prop} {N:Nat} {A A' A1 B:AS} {a:Act} {F:l6->List Nat} {P:Program} {ops:Array Oper}
theorem rH:∀ (vs:List V) {cs F} {j:Nat} {x:V},RL w Pb vs cs F->vs[j]? =some x->∃ cj Fj,R w Pb x cj Fj/\(∀ i u,cj[i]? =some u->cs[V.ns (vs.take j)+i]? =some u)/\
 ∀ x',R w Pb x' cj Fj->RL w Pb (vs.set j x') cs F
 | [],_,_,_,_,_,h=>by simp at h
 | v::vs,cs,F,0,x,h,hj=>by
   obtain⟨c1,c2,F1,F2,rfl,rfl,h1,h2⟩:=h
   simp at hj;subst hj
   exact⟨c1,F1,h1,fun i u hu=>by simp only[List.take_zero,V.ns,ZO];rw[ZB (ZH.1 hu).1];exact hu,fun x' hx=>⟨c1,c2,F1,F2,rfl,rfl,hx,h2⟩⟩
 | v::vs,cs,F,j+1,x,h,hj=>by
   obtain⟨c1,c2,F1,F2,rfl,rfl,h1,h2⟩:=h
   obtain⟨cj,Fj,k1,k2,k3⟩:=rH vs h2 (by simpa using hj)
   refine⟨cj,Fj,k1,fun i u hu=>?_,fun x' hx=>⟨c1,c2,F1,F2,rfl,rfl,h1,k3 x' hx⟩⟩
   have:=k2 i u hu
   simp only[List.take_succ_cons,V.ns]
   rw[<- dR v h1,Zr,ZG Z9]
   rw[show c1.length+(V.ns (vs.take j)+i)-c1.length=V.ns (vs.take j)+i from Z9];exact this
theorem qt:∀ (p:List Nat) {v u:V} {g o g' o':Nat} {cs:List Value} {F:List Nat},R w Pb v cs F->V.at g o v p=some (g',o',u)->
 ∃ cu Fu,R w Pb u cu Fu/\∀ u',u'.n=u.n->R w Pb u' cu Fu->R w Pb (v.set p u') cs F/\(v.set p u').n=v.n
 | [],v,u,g,o,g',o',cs,F,h,e=>by
   simp only[V.at,ZY,ZV]at e
   obtain⟨rfl,rfl,rfl⟩:=e
   exact⟨cs,F,h,fun u' hn hu=>⟨hu,hn⟩⟩
 | j::p,v,u,g,o,g',o',cs,F,h,e=>by
   simp only[V.at]at e
   split at e
   rename_i vs
   split at e
   rename_i x hx
   simp only[R]at h
   obtain⟨cj,Fj,k1,k2,k3⟩:=rH vs h hx
   obtain⟨cu,Fu,m1,m2⟩:=qt p k1 e
   refine⟨cu,Fu,m1,fun u' hn hu=>?_⟩
   obtain⟨q1,q2⟩:=m2 u' hn hu
   have h3:=k3 _ q1
   refine⟨by simp only[V.set,hx,R];exact h3,?_⟩
   simp only[V.set,hx,V.n]
   rw[<- gX _ h3,<- gX _ h]
   simp at e
   rename_i sz xs g1 o1 c1
   split at e
   rename_i x hx
   rcases h with ⟨_,rfl,_⟩ | ⟨h1,h2,h3,h4,h5,h6,flat,F',cells,h7,hr,hb,hsz,hc⟩
   simp at hx
   obtain⟨cj,Fj,k1,k2,k3⟩:=rH xs hr hx
   obtain⟨cu,Fu,m1,m2⟩:=qt p k1 e
   refine⟨cu,Fu,m1,fun u' hn hu=>?_⟩
   obtain⟨q1,q2⟩:=m2 u' hn hu
   refine⟨?_,by simp only[V.set,hx];rfl⟩
   simp only[V.set,hx]
   refine .inr ⟨h1,h2,by simpa using h3,by simpa using h4,fun y hy=>?_,h6,flat,F',cells,h7,k3 _ q1,hb,hsz,hc⟩
   rcases List.mem_or_eq_of_mem_set hy with h | h
   exact h5 y h
   rw[h,q2];exact h5 x (ZD hx)
   simp at e
   simp at e
theorem r7.qv(hs:r7 N Pb Kb A a w F){r:l6}{p:List Nat}{g o:Nat}{u:V}(w8:A.at r p=some (g,o,u)):
 ∃ cu Fu,R w Pb u cu Fu/\∀ u',u'.n=u.n->R w Pb u' cu Fu->r7 N Pb Kb (A.setAt r p u') a w F:=by
 cases r with
 | key k=>
   simp only[AS.at]at w8
   split at w8
   rename_i g0 t hk
   obtain⟨F0,hF,cs,cells,hb,hr,hc⟩:=hs.root k g0 t hk
   obtain⟨cu,Fu,h1,h2⟩:=qt p hr w8
   refine⟨cu,Fu,h1,fun u' hn hu=>⟨hs.size,hs.defers,fun i=>?_,fun k' g1 v1 K3=>?_,hs.bP,hs.nodup,hs.free,hs.sub,hs.bound⟩⟩
   have:(A.setAt (.key k) p u').get i=A.get i:=by simp only[AS.setAt,hk];rfl
   rw[this];exact hs.slot i
   simp only[AS.setAt,hk,lk]at K3
   split at K3
   rename_i e;subst e
   simp only[ZY,ZV]at K3
   obtain⟨rfl,rfl⟩:=K3
   exact⟨F0,hF,cs,cells,hb,(h2 u' hn hu).1,hc⟩
   exact hs.root k' g1 v1 K3
   simp at w8
 | slot i=>
   simp only[AS.at]at w8
   split at w8
   rename_i sz xs g0 o0 c0 j p' hg
   have hr:=hs.slot i
   rw[hg]at hr
   have hr:R w Pb (.own sz xs g0 o0 c0) [a.tmps.getD i undef] (F (.slot i)):=hr
   obtain⟨cu,Fu,h1,h2⟩:=qt (j::p') hr w8
   refine⟨cu,Fu,h1,fun u' hn hu=>⟨hs.size,hs.defers,fun t=>?_,hs.root,hs.bP,hs.nodup,hs.free,hs.sub,hs.bound⟩⟩
   by_cases e:t=i
   subst e
   simp only[AS.setAt,AS.get,lk,if_true,Option.getD_some]
   have h3:=(h2 u' hn hu).1
   have e2:(A.get t).set (j::p') u'=(V.own sz xs g0 o0 c0).set (j::p') u':=by rw[hg]
   have e3:∃ ys,(V.own sz xs g0 o0 c0).set (j::p') u'=.own sz ys g0 o0 c0:=by
    simp only[V.set];split
    exact⟨_,rfl⟩
    exact⟨_,rfl⟩
   obtain⟨ys,e3⟩:=e3
   show RV w Pb ((A.get t).set (j::p') u') _ _
   rw[e2,e3];rw[e3]at h3
   exact h3
   simp only[AS.setAt,AS.get,lk];rw[if_neg e];exact hs.slot t
   simp at w8
theorem It{K:AS->Prop}(t sz:Nat)(ht:t<N)(hg:A.get t=.sl true [])(h:K (A.put (some t) (.own sz [] 0 0 0))):Hx N A K:=
 Hx.simple h fun Pb Kb a w F hs=>by
  have hr:=hs.slot t
  rw[hg]at hr
  obtain⟨hF,B,cc,hv,_,Og,_⟩:=hr
  have Oy:cc=0:=Og rfl
  subst Oy
  exact⟨_,hs.xO ht (.inl ⟨rfl,rfl,hF,B,hv⟩)⟩
theorem xj{K:AS->Prop}{r:l6}{p:List Nat}{g o sz:Nat}(w8:A.at r p=some (g,o,.sl true []))(h:K (A.setAt r p (.own sz [] 0 0 0))):Hx N A K:=
 Hx.simple h fun Pb Kb a w F hs=>by
  obtain⟨cu,Fu,hr,hk⟩:=hs.qv w8
  obtain⟨hF,B,cc,hv,_,Og,_⟩:=hr
  have Oy:cc=0:=Og rfl
  subst Oy
  exact⟨_,hk (.own sz [] 0 0 0) rfl (.inl ⟨rfl,rfl,hF,B,hv⟩)⟩
theorem zb{K:AS->Prop}{t sz:Nat}{xs:List V}(ht:t<N)(hg:A.get t=.ow sz xs)(h:∀ g o c,K (A.put (some t) (.own sz xs g o c))):Hx N A K:=fun Pb Kb a w F hs=>by
 have hr:=hs.slot t
 rw[hg]at hr
 have hr:R w Pb (.ow sz xs) [a.tmps.getD t undef] (F (.slot t)):=hr
 obtain⟨g,o,c,hr⟩:=DX.1 hr
 exact⟨_,Pb,Kb,_,h g o c,hs.xO ht hr,fun _ h=>h,fun _ h=>h,fun _ h=>.inl h⟩
theorem oX{K:AS->Prop}{r:l6}{p:List Nat}{g o sz:Nat}{xs:List V}(w8:A.at r p=some (g,o,.ow sz xs))(h:∀ g o c,K (A.setAt r p (.own sz xs g o c))):Hx N A K:=fun Pb Kb a w F hs=>by
 obtain⟨cu,Fu,h1,h2⟩:=hs.qv w8
 obtain⟨g,o,c,hr⟩:=DX.1 h1
 exact⟨_,Pb,Kb,_,h g o c,h2 _ rfl hr,fun _ h=>h,fun _ h=>h,fun _ h=>.inl h⟩
theorem BV{K:AS->Prop}{r:l6}{p:List Nat}{g o:Nat}{u:V}(u':V)(w8:A.at r p=some (g,o,u))(hn:(wk u u').n=u.n)(h:K (A.setAt r p (wk u u'))):Hx N A K:=fun Pb Kb a w F hs=>by
 obtain⟨cu,Fu,h1,h2⟩:=hs.qv w8
 exact⟨_,Pb,Kb,_,h,h2 _ hn (nY u u' h1),fun _ h=>h,fun _ h=>h,fun _ h=>.inl h⟩
theorem KC{K:AS->Prop}{t:Nat}(u:V)(ht:t<N)(h:K (A.put (some t) (wk (A.get t) u))):Hx N A K:=
 Hx.simple h fun _ _ _ _ _ hs=>⟨_,hs.xO ht (wj u (hs.slot t))⟩
theorem ET{K:AS->Prop} {t i sz n g o c:Nat} {xs:List V} (ht:t<N) (hi:i<N) (TF:t≠i) (h1:A.get t=.hd (.slot i) [] sz g o 0 n c) (h2:A.get i=.own sz xs g o c) (hn:n=xs.length)
 (h:K ((A.put (some i) .b7).put (some t) (.own sz xs g o c))):Hx N A K:=
 Hx.simple h fun _ _ _ _ _ hs=>hs.gg ht hi TF h1 h2 hn
theorem Db{K:AS->Prop}{t:Nat}(ht:t<N)(ho:(A.get t).cB=true)(h:K (A.put (some t) (A.get t).er)):Hx N A K:=fun Pb Kb a w F hs=>by
 obtain⟨Pb',C4,F',h1,h2,h3,h4⟩:=hs.freeze ho ht
 exact⟨_,Pb',C4,F',h,h1,h2,h3,h4⟩
theorem r7.eqv(hs:r7 N Pb Kb A a w F)(h:B8 A B):r7 N Pb Kb B a w F:=
 ⟨hs.size,hs.defers,fun i=>by rw[<- h.1 i];exact hs.slot i,fun k g v hk=>hs.root k g v (by rw[h.2 k];exact hk),hs.bP,hs.nodup,hs.free,hs.sub,hs.bound⟩
theorem IQ{K:AS->Prop}{t:Nat}(v:V)(e:A.get t=v)(h:K (A.put (some t) v)):Hx N A K:=
 Hx.simple h fun _ _ _ _ _ hs=>⟨_,hs.eqv ⟨fun i=>by
  rw[AS.au];split
  rename_i h;rw[h,e]
  rfl,fun _=>rfl⟩⟩
theorem IV{K:AS->Prop}{k g:Nat}(v:V)(e:lk k A.h=some (g,v))(h:K ⟨A.t,(k,(g,v))::A.h⟩):Hx N A K:=
 Hx.simple h fun _ _ _ _ _ hs=>⟨_,hs.eqv ⟨fun _=>rfl,fun i=>by
  simp only[lk];split
  rename_i h;rw[h,e]
  rfl⟩⟩
theorem Ld{K:AS->Prop}{k k' g:Nat}{v:V}(e:lk k A.h=some (g,v))(hn:lk k' A.h=none)(h:K ⟨A.t,(k',(g,v))::A.h.filter fun p=>p.1 != k⟩):Hx N A K:=
 Hx.simple h fun Pb Kb a w F hs=>by
  have hne:k'≠k:=fun c=>by rw[c,e]at hn;cases hn
  have hf:∀ (l:List (Nat×(Nat×V))) q,lk q (l.filter fun p=>p.1 != k)=if q=k then none else lk q l:=by
   intro l
   induction l with
   | nil=>intro q;simp[lk]
   | cons x l ih=>
     intro q
     obtain⟨i,u⟩:=x
     simp only[List.filter_cons]
     by_cases hi:i=k
     subst hi
     simp only[bne_self_eq_false,Bool.false_eq_true,if_false,ih q,lk]
     by_cases c:q=i
     rw[if_pos c,if_pos c]
     rw[if_neg c,if_neg c,if_neg c]
     rw[if_pos (by simpa using hi)]
     simp only[lk,ih q]
     by_cases c:q=i
     subst c;rw[if_pos rfl,if_pos rfl,if_neg hi]
     rw[if_neg c,if_neg c]
  let σ:l6->l6:=fun r=>if r=.key k' then .key k else if r=.key k then .key k' else r
  have hσ:∀ r r',σ r=σ r'->r=r':=fun r r' h=>by
   simp only[σ]at h
   repeat' split at h
   all_goals simp_all
  refine⟨fun r=>if r=.key k then [] else F (σ r),hs.size,hs.defers,fun i=>?_,fun q g0 v0 hq=>?_,fun r r' Wn y hy=>?_,fun r=>?_,fun r y hy=>?_,hs.sub,hs.bound⟩
  have:F (σ (.slot i))=F (.slot i):=by simp[σ]
  simp only[reduceCtorEq,if_false,this];exact hs.slot i
  simp only[lk,hf]at hq
  split at hq
  rename_i c;subst c
  simp only[ZY,ZV]at hq
  obtain⟨rfl,rfl⟩:=hq
  obtain⟨F',h1,h2⟩:=hs.root k g v e
  refine⟨F',?_,h2⟩
  rw[if_neg (by simpa using hne)]
  simp only[σ,if_true];exact h1
  rename_i c
  split at hq
  simp at hq
  rename_i c2
  obtain⟨F',h1,h2⟩:=hs.root q g0 v0 hq
  refine⟨F',?_,h2⟩
  rw[if_neg (by simpa using c2)]
  have:σ (.key q)=.key q:=by simp only[σ];rw[if_neg (by simpa using c),if_neg (by simpa using c2)]
  rw[this];exact h1
  split at hy
  simp at hy
  split
  simp
  exact hs.bP _ _ (fun c=>Wn (hσ _ _ c)) y hy
  split
  exact ZA
  exact hs.nodup _
  split at hy
  simp at hy
  exact hs.free _ y hy
theorem GG{K:AS->Prop}(h1:PY A B.t)(h2:Pe A B.h)(h:K B):Hx N A K:=Hx.simple h fun _ _ _ _ _ hs=>hs.Xj h1 h2
theorem AP{o:Oper}{K:AS->Prop}{x:Operand}(ho:o.op=.move x)(hd:bX N o.dst)(hK:K ((A.drop x).put o.dst (A.ev x))):D3 P N o A K:=by
 intro Pb Kb a w F Q hs
 obtain⟨Fx,F',hr,x5,hnd,s6,hfr,_⟩:=hs.take x
 unfold Oper.wp
 have:(execOp a.eval o).run P w=.ok (.value (a.eval x)) w:=by simp only[execOp,ho];rfl
 rw[this,Oper.upon_value]
 cases K5:o.dst with
 | none=>exact⟨_,Pb,Kb,F',hK,by rw[K5];exact x5,fun _ h=>h,fun _ h=>h,fun _ h=>.inl h,w5.refl _ _⟩
 | some d=>
   rw[K5]at hd hK
   exact⟨_,Pb,Kb,_,hK,x5.put hd hr (fun r _ g hg=>s6 r g hg) hnd hfr,fun _ h=>h,fun _ h=>h,fun _ h=>.inl h,w5.refl _ _⟩
theorem tE{o:Oper} {K:AS->Prop} {d T:Nat} {x:Operand} {r:l6} {p:List Nat} {g g':Nat} {i:TI} {u:V} (ho:o.op=.load T x) (hd:o.dst=some d) (hN:d<N) (hi:ti P T=some i)
 (hx:A.ev x=.ptr r p g g') (w8:A.at r p=some (g,g',u)) (hn:u.n=i.sz) (ha:i.d.agg=u.isAgg) (hK:K ((A.setAt r p u.kill).put (some d) u)):D3 P N o A K:=by
 intro Pb Kb a w F Q hs
 obtain⟨_,R4⟩:=dr hs x
 rw[hx]at R4
 have hp:a.eval x=.pointer (some ⟨g,g',none⟩):=by have:=R4.2;simpa using this
 obtain⟨Fr,Fu,x5,⟨cs,cells,hb,J',hc⟩,hnd,s6,hfr⟩:=hs.split w8
 obtain⟨y,hy,D4⟩:=lg (w:=w) hi J' hn ha (g:=g) (o:=g') (fun j u hu=>by rw[dD hb];exact hc j u hu)
 unfold Oper.wp
 have:(execOp a.eval o).run P w=.ok (.value y) w:=by
  simp only[execOp,ho,Instr.loadAt,hp,Instr.sureAddr,ZK,ZJ,ZS,hy]
 rw[this,Oper.upon_value,hd]
 exact⟨_,Pb,Kb,_,hK,x5.put hN D4 (fun r _ g hg=>s6 r g hg) hnd hfr,fun _ h=>h,fun _ h=>h,fun _ h=>.inl h,w5.refl _ _⟩
def Ue(A:AS)(s:Operand)(sz:Nat):Option (Prop×AS×List V):=
 match s with
 | .const (.slice none 0 0)=>some (True,A,[])
 | .tmp t=>match A.get t with
   | .sl true []=>some (True,A,[])
   | .own I2 xs _ _ _=>some (I2=sz,A.put (some t) .b7,xs)
   | .hd (.slot i) [] I2 g o 0 n c=>match A.get i with
     | .own Mj xs g2 o2 c2=>some ((I2,Mj,g2,o2,c2,n)=(sz,sz,g,o,c,xs.length),A.put (some i) .b7,xs)
     | _=>none
   | .hd (.key k) p I2 g o 0 n c=>match A.at (.key k) p with
     | some (_,_,.own Mj xs g2 o2 c2)=>some ((I2,Mj,g2,o2,c2,n)=(sz,sz,g,o,c,xs.length),A.setAt (.key k) p .b7,xs)
     | _=>none
   | _=>none
 | _=>none
theorem Ds{s:Operand}{sz:Nat}{C:Prop}{xs:List V}(h:Ue A s sz=some (C,A1,xs))(hC:C)(hs:r7 N Pb Kb A a w F):
 ∃ Fx F' g o c,r7 N Pb Kb A1 a w F'/\R w Pb (.own sz xs g o c) [a.eval s] Fx/\Fx.Nodup/\(∀ r g,g∈Fx->g ∉ F' r)/\(∀ g,g∈Fx->¬ Kb g/\g<w.heap.size):=by
 have Rp:∀ {t:Nat} {r:l6} {p:List Nat} {sz g o n c:Nat} {xs:List V} {cs:List Value} {Fx:List Nat},A.get t=.hd r p sz g o 0 n c->n=xs.length->R w Pb (.own sz xs g o c) cs Fx->R w Pb (.own sz xs g o c) [a.eval (.tmp t)] Fx:=by
  intro t r p sz g o n c xs cs Fx hg hn hr
  subst hn
  have hh:=hs.slot t
  rw[hg]at hh
  obtain⟨_,hle,B,hv,hB⟩:=hh
  have hv:a.eval (.tmp t)=.slice B xs.length c:=(List.cons.inj hv).1
  rw[hv]
  rcases hr with ⟨rfl,rfl,rfl,A0,_⟩ | ⟨h1,h2,h3,h4,h5⟩
  exact .inl ⟨rfl,rfl,rfl,B,rfl⟩
  have:=hB h1
  rw[Nat.zero_mul,Nat.add_zero]at this
  subst this
  exact .inr ⟨h1,h2,h3,rfl,h5⟩
 unfold Ue at h
 split at h
 simp only[ZY,ZV]at h
 obtain⟨_,rfl,rfl⟩:=h
 exact⟨[],F,0,0,0,hs,.inl ⟨rfl,rfl,rfl,none,rfl⟩,ZA,Z8,Z8⟩
 · rename_i t
   split at h
   rename_i hg
   simp only[ZY,ZV]at h
   obtain⟨_,rfl,rfl⟩:=h
   have M8:=hs.slot t
   rw[hg]at M8
   obtain⟨_,B,c,hv,_,Og,_⟩:=M8
   have Oy:c=0:=Og rfl
   subst Oy
   exact⟨[],F,0,0,0,hs,.inl ⟨rfl,rfl,rfl,B,hv⟩,ZA,Z8,Z8⟩
   rename_i I2 xs' g o c hg
   simp only[ZY,ZV]at h
   obtain⟨rfl,rfl,rfl⟩:=h
   subst hC
   obtain⟨Fx,F',hr,x5,hnd,s6,hfr,_⟩:=hs.take (.tmp t)
   rw[nX hg]at x5
   have hr:RV w Pb (A.get t) (a.eval (.tmp t)) Fx:=hr
   rw[hg]at hr
   exact⟨Fx,F',g,o,c,x5,hr,hnd,s6,hfr⟩
   · rename_i i I2 g o n c hg
     split at h
     case h_2=>simp at h
     rename_i Mj xs' g2 o2 c2 hi
     simp only[ZY,ZV]at h
     obtain⟨rfl,rfl,rfl⟩:=h
     obtain⟨rfl,rfl,rfl,rfl,rfl,hn⟩:=hC
     obtain⟨Fx,F',hr,x5,hnd,s6,hfr,_⟩:=hs.take (.tmp i)
     rw[nX hi]at x5
     have hr:RV w Pb (A.get i) (a.eval (.tmp i)) Fx:=hr
     rw[hi]at hr
     exact⟨Fx,F',_,_,_,x5,Rp hg hn (cs:=[a.eval (.tmp i)]) hr,hnd,s6,hfr⟩
   · rename_i k p I2 g o n c hg
     split at h
     case h_2=>simp at h
     rename_i g0 o0 Mj xs' g2 o2 c2 w8
     simp only[ZY,ZV]at h
     obtain⟨rfl,rfl,rfl⟩:=h
     obtain⟨rfl,rfl,rfl,rfl,rfl,hn⟩:=hC
     obtain⟨Fr,Fu,x5,⟨cs,cells,hb,J',hc⟩,hnd,s6,hfr⟩:=hs.split w8
     exact⟨Fu,_,_,_,_,x5,Rp hg hn J',hnd,s6,hfr⟩
   simp at h
 simp at h
theorem zO{o:Oper} {K:AS->Prop} {d T T2 e e2:Nat} {s x:Operand} {t:TI} {C Cx:Prop} {xs ys:List V} (ho:o.op=.call { callee:=.builtin .append,args:= #[s,x],argTypes:= #[T,T2] }) (P6:o.type=T)
 (hd:o.dst=some d) (hN:d<N) (hT:tD P T=some (.sl e)) (Rb:tD P T2=some (.sl e2)) (ht:ti P e=some t) (hz:∃ inf z,P.info? e=some inf/\inf.zero=some z/\z.cells.size=t.sz) (hsz:0<t.sz) (QJ:0<t.J9)
 (hb:Ue A s t.sz=some (C,A1,xs)) (hC:C) (hx:Nw A x=some (Cx,ys)) (U9:Cx) (S4:V.ay ys=false) (Qu:aC t.sz ys)
 (hbig:(xs.length+ys.length)*t.J9<=140737488355328)
 (hK:∀ g o c,K (A1.put (some d) (.own t.sz (xs++ys) g o c))):D3 P N o A K:=by
 intro Pb Kb a w F Q hs
 obtain⟨B2,c2,A9,L0,K9,Oh,hl2⟩:=lE (P:=P) hs hx U9 Qu S4
 obtain⟨Fx,F',g0,o0,c0,x5,hr,hnd,s6,hfr⟩:=Ds hb hC hs
 obtain⟨v,w',F2,g',o',c',x8,J1,K9,H6,Oj,Ql,M'⟩:=qO hT Rb ht hz hsz QJ x5 hr s6 hfr (Fy:=[]) (by simpa using hnd) Z8 Z8 L0 K9 Oh hl2 Qu hbig
 have Mm:(execOp a.eval o).run P w=.ok (.value v) w':=by
  simp only[execOp,ho,resolve,invoke,builtin,ZK,ZJ,ZS,P6]
  have e:(#[s,x].map a.eval)= #[a.eval s,a.eval x]:=Z8
  rw[e,x8];rfl
 unfold Oper.wp
 rw[Mm,Oper.upon_value,hd]
 exact⟨_,Pb,Kb,_,hK g' o' c',J1.put hN K9 (fun r _ g hg=>Oj r g hg) H6 Ql,fun _ h=>h,fun _ h=>h,fun _ h=>.inl h,M'⟩
def Tn(A:AS)(s:Operand)(sz:Nat):Option (Prop×List V):=
 match s with
 | .tmp t=>match A.get t with
   | .sl true (x::xs)=>some (aC sz (x::xs),x::xs)
   | _=>none
 | _=>none
theorem xB{o:Oper} {K:AS->Prop} {d T T2 e e2:Nat} {s x:Operand} {t:TI} {C Cx:Prop} {xs ys:List V} (ho:o.op=.call { callee:=.builtin .append,args:= #[s,x],argTypes:= #[T,T2] }) (P6:o.type=T)
 (hd:o.dst=some d) (hN:d<N) (hT:tD P T=some (.sl e)) (Rb:tD P T2=some (.sl e2)) (ht:ti P e=some t) (hz:∃ inf z,P.info? e=some inf/\inf.zero=some z/\z.cells.size=t.sz) (hsz:0<t.sz) (QJ:0<t.J9)
 (hb:Tn A s t.sz=some (C,xs)) (hC:C) (E5:0<ys.length) (hx:Nw A x=some (Cx,ys)) (U9:Cx) (S4:V.ay ys=false) (Qu:aC t.sz ys)
 (hbig:(xs.length+ys.length)*t.J9<=140737488355328)
 (hK:∀ g o c,K (A.put (some d) (.own t.sz (xs++ys) g o c))):D3 P N o A K:=by
 intro Pb Kb a w F Q hs
 obtain⟨B2,c2,A9,L0,K9,Oh,hl2⟩:=lE (P:=P) hs hx U9 Qu S4
 have hr:R w Pb (.sl true xs) [a.eval s] []/\aC t.sz xs:=by
  unfold Tn at hb
  split at hb
  rename_i q
  split at hb
  rename_i x' xs' hg
  simp only[ZY,ZV]at hb
  obtain⟨rfl,rfl⟩:=hb
  have M8:=hs.slot q
  rw[hg]at M8
  have hF:F (.slot q)=[]:=M8.1
  rw[hF]at M8
  exact⟨M8,hC⟩
  simp at hb
  simp at hb
 obtain⟨v,w',F2,g',o',c',x8,J1,K9,H6,Oj,Ql,M'⟩:=yC hT Rb ht hz hsz QJ hs hr.1 hr.2 E5 L0 K9 Oh hl2 Qu hbig
 have Mm:(execOp a.eval o).run P w=.ok (.value v) w':=by
  simp only[execOp,ho,resolve,invoke,builtin,ZK,ZJ,ZS,P6]
  have e:(#[s,x].map a.eval)= #[a.eval s,a.eval x]:=Z8
  rw[e,x8];rfl
 unfold Oper.wp
 rw[Mm,Oper.upon_value,hd]
 exact⟨_,Pb,Kb,_,hK g' o' c',J1.put hN K9 (fun r _ g hg=>Oj r g hg) H6 Ql,fun _ h=>h,fun _ h=>h,fun _ h=>.inl h,M'⟩
end
mutual
def V.plain:V->Bool
 | .lit _=>true
 | .agg vs=>V.lD vs
 | .tup vs=>V.lD vs
 | _=>false
def V.lD:List V->Bool
 | []=>true
 | v::vs=>v.plain&&V.lD vs
end
def oB(A:AS):List Operand->Prop×List V
 | []=>(True,[])
 | x::xs=>match oB A xs with
   | (C,vs)=>match A.ev x with
     | .hd .. =>match Nw A x with
       | some (Cx,ys)=>(Cx/\C,.sl false ys::vs)
       | none=>(C,A.cp x::vs)
     | _=>(C,A.cp x::vs)
section
variable {w w':World} {Pb Kb Pb':Nat->Prop} {N:Nat} {A A' B:AS} {a:Act} {F:l6->List Nat} {P:Program} {ops:Array Oper}
mutual
theorem tW:∀ (v:V) {cs F},v.plain=true->R w Pb v cs F->R w' Pb' v cs []/\F=[]
 | .lit x,cs,F,_,h=>⟨⟨h.1,h.2.1,rfl⟩,h.2.2⟩
 | .agg vs,cs,F,hp,h=>by simp only[R]at h ⊢;simp only[V.plain]at hp;exact oS vs hp h
 | .tup _,_,_,_,h=>by simp[R]at h
 | .gv _ _,_,_,hp,_=>by simp[V.plain]at hp
 | .sl ..,_,_,hp,_=>by simp[V.plain]at hp
 | .own ..,_,_,hp,_=>by simp[V.plain]at hp
 | .ow ..,_,_,hp,_=>by simp[V.plain]at hp
 | .om ..,_,_,hp,_=>by simp[V.plain]at hp
 | .mp ..,_,_,hp,_=>by simp[V.plain]at hp
 | .hd ..,_,_,hp,_=>by simp[V.plain]at hp
 | .ptr ..,_,_,hp,_=>by simp[V.plain]at hp
 | .ep _,_,_,hp,_=>by simp[V.plain]at hp
 | .b7,_,_,hp,_=>by simp[V.plain]at hp
theorem oS:∀ (vs:List V) {cs F},V.lD vs=true->RL w Pb vs cs F->RL w' Pb' vs cs []/\F=[]
 | [],cs,F,_,h=>⟨⟨h.1,rfl⟩,h.2⟩
 | v::vs,cs,F,hp,h=>by
   simp only[V.lD,ZX]at hp
   obtain⟨c1,c2,F1,F2,h1,h2,h3,h4⟩:=h
   have k1:=tW v hp.1 h3
   have k2:=oS vs hp.2 h4
   exact⟨⟨c1,c2,[],[],h1,rfl,k1.1,k2.1⟩,by rw[h2,k1.2,k2.2];rfl⟩
end
theorem vv:∀ (vs:List V) {xs F},V.lD vs=true->RVs w Pb vs xs F->RVs w' Pb' vs xs []/\F=[]
 | [],xs,F,_,h=>⟨⟨h.1,rfl⟩,h.2⟩
 | v::vs,xs,F,hp,h=>by
   simp only[V.lD,ZX]at hp
   obtain⟨x,xs',F1,F2,h1,h2,h3,h4⟩:=h
   have k2:=vv vs hp.2 h4
   subst h1 h2
   cases v with
   | agg us=>
     obtain⟨cs,e,h3⟩:=h3
     have k1:=oS (w':=w') (Pb':=Pb') us (by simpa[V.plain] using hp.1) h3
     exact⟨⟨x,xs',[],[],rfl,rfl,⟨cs,e,k1.1⟩,k2.1⟩,by rw[k1.2,k2.2];rfl⟩
   | lit y=>have k1:=tW (w':=w') (Pb':=Pb') (.lit y) hp.1 h3;exact⟨⟨x,xs',[],[],rfl,rfl,k1.1,k2.1⟩,by rw[k1.2,k2.2];rfl⟩
   | tup us=>exact absurd h3 (by simp[R])
   | _=>simp[V.plain]at hp
theorem FN(v:V){x F}(hp:v.plain=true)(h:RV w Pb v x F):RV w' Pb' v x []/\F=[]:=by
 cases v with
 | tup vs=>obtain⟨xs,e,h⟩:=h;have:=vv (w':=w') (Pb':=Pb') vs (by simpa[V.plain] using hp) h;exact⟨⟨xs,e,this.1⟩,this.2⟩
 | agg us=>obtain⟨cs,e,h⟩:=h;have:=oS (w':=w') (Pb':=Pb') us (by simpa[V.plain] using hp) h;exact⟨⟨cs,e,this.1⟩,this.2⟩
 | lit y=>exact tW (w:=w) (Pb:=Pb) (w':=w') (Pb':=Pb') (.lit y) hp h
 | _=>simp[V.plain]at hp
theorem KZ{Fo:List Nat} {Mj g2 o2 c2 lo n c:Nat} {xs:List V} {Rh:List Value} (hr:R w Pb (.own Mj xs g2 o2 c2) Rh Fo) (hle:n<=c) {B:Option Addr} (hB:0<c->B=some ⟨g2,o2+lo*Mj,none⟩) (hn:lo+n<=xs.length) (ho:V.ay xs=false)
 (k1:∀ g,Pb g->Pb' g) (k2:∀ g,g<w.heap.size->Pb' g):R w Pb' (.sl false ((xs.drop lo).take n)) [.slice B n c] []:=by
 have hlen:((xs.drop lo).take n).length=n:=Z0
 refine⟨rfl,B,c,by rw[hlen],by rw[hlen];exact hle,Z8,?_⟩
 by_cases Wp:n=0
 subst Wp;exact .inl Z8
 right
 rcases hr with ⟨_,rfl,_⟩ | ⟨h1,h2,h3,hx,hN,_,flat,F',cells,rfl,hr,hb,hsz,hc⟩
 simp at hn;omega
 have hF:=fc xs ho hr
 subst hF
 obtain⟨c1,OJ,ME⟩:=nu xs lo hr
 obtain⟨c3,TL,U5⟩:=nr _ n OJ
 refine⟨g2,o2+lo*Mj,Mj,c3,hB Z9,k2 g2 (by obtain⟨e,fr,hb,_⟩:=hb;exact(Zt.1 hb).1),h2,fun x hx=>hN x (List.mem_of_mem_drop (List.mem_of_mem_take hx)),dK _ TL (fun _ _=>rfl) Z8 k1 Z8,fun j u hu=>?_⟩
 rw[dD hb]
 have:=ME j u (U5 j u hu)
 rw[dC xs lo hN Z9]at this
 have:=hc _ _ this
 simpa[Zr] using this
theorem HD(hs:r7 N Pb Kb A a w F){x:Operand}{C:Prop}{ys:List V}{r:l6}{p:List Nat}{sz g o lo n c:Nat}(he:A.ev x=.hd r p sz g o lo n c)(h:Nw A x=some (C,ys))(hC:C):R w (fun g=>g<w.heap.size) (.sl false ys) [a.eval x] []:=by
 obtain⟨Fx,hr⟩:=dr hs x
 rw[he]at hr
 obtain⟨_,hle,B,hv,hB⟩:=hr
 have hv:a.eval x=.slice B n c:=(List.cons.inj hv).1
 have key:∀ u Fo Rh,R w Pb u Rh Fo->jA lo n sz g o u=some (C,ys)->R w (fun g=>g<w.heap.size) (.sl false ys) [a.eval x] []:=by
  intro u Fo Rh J' hu
  unfold jA at hu
  split at hu
  rename_i Mj xs g2 o2 c2
  simp only[ZY,ZV]at hu
  obtain⟨rfl,rfl⟩:=hu
  obtain⟨⟨rfl,rfl,rfl⟩,Wv,R5,_⟩:=hC
  rw[hv]
  exact KZ J' hle hB Wv R5 (fun k h=>hs.bound k (hs.sub k h)) fun g hg=>hg
  simp at hu
 unfold Nw at h
 rw[he]at h
 simp only at h
 split at h
 rename_i i
 have M8:=hs.slot i
 unfold jA at h
 split at h
 rename_i Mj xs g2 o2 c2 hg
 rw[hg]at M8
 exact key (.own Mj xs g2 o2 c2) _ _ M8 (by unfold jA;exact h)
 simp at h
 rename_i k p'
 split at h
 rename_i a0 b0 u w8
 obtain⟨F',cs,cells,hb,J',r6⟩:=iz hs w8
 exact key u F' cs J' h
 simp at h
 simp at h
theorem pb(hs:r7 N Pb Kb A a w F):∀ (xs:List Operand) {C:Prop} {vs:List V},oB A xs=(C,vs)->C->RVs w (fun g=>g<w.heap.size) vs (xs.map a.eval) []
 | [],C,vs,h,_=>by simp only[oB,ZV]at h;obtain⟨_,rfl⟩:=h;exact⟨rfl,rfl⟩
 | x::xs,C,vs,h,hC=>by
   have plain:∀ Vc,RVs w (fun g=>g<w.heap.size) Vc (xs.map a.eval) []->RVs w (fun g=>g<w.heap.size) (A.cp x::Vc) ((x::xs).map a.eval) []:=fun Vc h'=>by
    have h1:=rr hs [x]
    have h1:=rP (w':=w) (Pb':=fun g=>g<w.heap.size) _ h1 (fun _ _=>rfl) (fun _ _=>rfl) (fun k h=>hs.bound k (hs.sub k h)) Z8
    obtain⟨y,ys,F1,F2,e1,e2,h2,_⟩:=h1
    simp only[Zw,List.map_nil,List.cons.injEq]at e1
    obtain⟨rfl,_⟩:=e1
    have e2:=e2.symm
    simp only[List.append_eq_nil_iff]at e2
    obtain⟨rfl,_⟩:=e2
    exact⟨a.eval x,xs.map a.eval,[],[],rfl,rfl,h2,h'⟩
   cases hl:oB A xs with
   | mk C0 vs0=>
     simp only[oB,hl]at h
     split at h
     rename_i r p sz g o lo n c he
     split at h
     rename_i Cx ys e
     simp only[ZV]at h
     obtain⟨rfl,rfl⟩:=h
     exact⟨a.eval x,xs.map a.eval,[],[],rfl,rfl,HD hs he e hC.1,pb hs xs hl hC.2⟩
     simp only[ZV]at h
     obtain⟨rfl,rfl⟩:=h
     exact plain _ (pb hs xs hl hC)
     simp only[ZV]at h
     obtain⟨rfl,rfl⟩:=h
     exact plain _ (pb hs xs hl hC)
theorem EA{o:Oper} {K:AS->Prop} {f:FuncId} {xs:Array Operand} {J4:Array TypeId} {args:List V} {Q:V->Prop} {C:Prop} {vs:List V} (ho:o.op=.call { callee:=.value (.func f),args:=xs,argTypes:=J4 })
 (hd:bX N o.dst) (hc:PC P f args Q) (hl:oB A xs.toList=(C,vs)) (hC:C) (hargs:Mw vs args=args) (hp:∀ r,Q r->r.plain=true) (hK:∀ r,Q r->K (A.put o.dst r)):D3 P N o A K:=by
 intro Pb Kb a w F Q' hs
 unfold Oper.wp
 have x8:(execOp a.eval o).run P w=.ok (.enter f (xs.map a.eval)) w:=by
  simp only[execOp,ho,resolve,Act.eval,Deferred.ofValue,ZK,ZJ,ZS,invoke]
  have:=hc.1 (xs.map a.eval) w
  simpa using this
 rw[x8,Oper.upon_enter]
 have h0:=pb hs xs.toList hl hC
 have h0:=nn _ args h0
 rw[hargs]at h0
 have I4:=hc.2 w (fun g=>g<w.heap.size) (xs.toList.map a.eval) (fun g hg=>hg) h0
 have e:(xs.toList.map a.eval).toArray=xs.map a.eval:=by rw[<- Array.toList_map,Array.toArray_toList]
 rw[e]at I4
 refine I4.mono ?_
 rintro e w' ⟨r,x,Fr,Pb',rfl,hq,hr,hnd,hfr,h1,h2,hb⟩
 have x5:r7 N Pb Kb A a w' F:=hs.grow hb.block hb.size (fun _ h=>h) (fun g hg=>.inl hg) hs.sub
 obtain⟨F',J1⟩:=x5.nT (d:=o.dst) hd (FN (w':=w') (Pb':=Pb) r (hp r hq) hr).1
 exact⟨_,Pb,Kb,F',hK r hq,J1,fun _ h=>h,fun _ h=>h,fun g h=>.inl h,w5.ya hb hs.bound⟩
end
section
variable {w w':World} {Pb Kb Pb':Nat->Prop} {N:Nat} {A A' B:AS} {a:Act} {F:l6->List Nat} {P:Program} {ops:Array Oper}
theorem yW{o:Oper} {K:AS->Prop} {d T e len:Nat} {a8:Array (Nat×Operand)} {i:TI} {vs:List V} (ho:o.op=.buildSlice T len a8) (hd:o.dst=some d) (hN:d<N) (hT:tD P T=some (.sl e)) (hi:ti P e=some i)
 (P5:ey A 0 a8.toList=some vs) (hB:QP P T e len i vs=true) (h0:0<len) (hK:∀ g,K (A.put (some d) (.own i.sz vs g 0 len))):D3 P N o A K:=by
 simp only[QP,ZX,Zp]at hB
 obtain⟨⟨⟨⟨b1,hlen⟩,OE⟩,G6⟩,hv⟩:=hB
 obtain⟨inf,z,K4,hzero,_⟩:=kC b1
 have OE:=Nat.le_of_ble_eq_true OE
 have G6:=Nat.lt_of_succ_le (Nat.le_of_ble_eq_true G6)
 have hv:=uy hv
 intro Pb Kb a w F Q hs
 obtain⟨xs,h1,h2,h3,h4⟩:=lB hs a8.toList 0 P5 hv
 have hu:=gJ hT
 obtain⟨QV,_,E',_,hsz,_,_⟩:=il hi
 rw[K4]at E'
 obtain rfl:=Option.some.inj E'
 have hfl:=Great.fill_whole G6 xs ((Array.range (len*i.sz)).map (z.cells[· % z.cells.size]!)) h2 (by simp[h4,hlen])
 have hmul: ¬ len*inf.size=0:=by rw[hsz];exact Nat.mul_ne_zero Z9 Z9
 have hb:=run_buildSlice (P:=P) w T e len (a8.map fun (i,x)=>(i,a.eval x)) _ inf z hu K4 hzero (by rw[hsz];omega) hmul (by rw[Array.toList_map,h1,hsz];exact hfl)
 have hx:(execOp a.eval o).run P w=.ok (.value (.slice (some ⟨w.heap.size,0,none⟩) len len)) (w.alloc (.cells (xs.flatMap fun v=>v.cells.toList).toArray e)):=by
  simp only[execOp,ho,ZK,hb,ZS,ZJ]
 unfold Oper.wp
 rw[hx,Oper.upon_value,hd]
 have MD:=hs.mA (.cells (xs.flatMap fun v=>v.cells.toList).toArray e)
 have M9:=dK (w':=w.alloc (.cells (xs.flatMap fun v=>v.cells.toList).toArray e)) (Pb':=Pb) vs h3 (fun g hg=>alloc_old w _ g (hs.bound g (hs.sub g hg))) Z8 (fun g hg=>hg) Z8
 have hcs:(xs.flatMap fun v=>v.cells.toList).length=len*i.sz:=by
  rw[gX _ h3,np vs (fun v QY=>(hv v QY).2),hlen]
 have Ol: ¬ Kb w.heap.size:=fun h=>by have:=hs.bound _ h;omega
 have hR:R (w.alloc (.cells (xs.flatMap fun v=>v.cells.toList).toArray e)) Pb (.own i.sz vs w.heap.size 0 len) [.slice (some ⟨w.heap.size,0,none⟩) len len] [w.heap.size]:=
  .inr ⟨h0,G6,Z9,by rw[hlen],fun v QY=>(hv v QY).2,fun c=>Ol (hs.sub _ c),_,[],_,rfl,M9,⟨e,(0,0),ft w _,fun i _ h=>by omega⟩,by simp only[List.size_toArray];rw[hcs];omega,fun j u hu=>by simpa using hu⟩
 exact⟨_,Pb,Kb,_,hK _,MD.put hN hR (fun r _ g hg=>by
  obtain rfl:=ZP.1 hg
  intro c;have:=(hs.free r _ c).2;omega) Z8 (fun g hg=>by
  obtain rfl:=ZP.1 hg
  exact⟨Ol,by rw[dh];omega⟩),fun _ h=>h,fun _ h=>h,fun _ h=>.inl h,w5.alloc hs.bound _⟩
theorem BR{K:AS->Prop} {t sz n g o c g0 o0:Nat} {xs:List V} {r:l6} {p:List Nat} (h2:A.get t=.own sz xs g o c) (w8:(A.put (some t) .b7).at r p=some (g0,o0,.hd (.slot t) [] sz g o 0 n c)) (hn:n=xs.length)
 (h:K ((A.put (some t) .b7).setAt r p (.own sz xs g o c))):Hx N A K:=Hx.simple h fun Pb Kb a w F hs=>by
 subst hn
 obtain⟨Fx,F1,hr,MD,hnd,s6,hfr,_⟩:=hs.take (.tmp t)
 rw[nX h2]at MD
 have hr:RV w Pb (A.get t) (a.tmps.getD t undef) Fx:=hr
 rw[h2]at hr
 obtain⟨Fp,cs,cells,hb,hp,hc⟩:=iz MD w8
 obtain⟨_,hle,B,rfl,hB⟩:=hp
 have D4:R w Pb (.own sz xs g o c) [.slice B xs.length c] Fx:=by
  rcases hr with ⟨rfl,rfl,rfl,A0,_⟩ | ⟨k1,k2,k3,k4,k5⟩
  exact .inl ⟨rfl,rfl,rfl,B,rfl⟩
  have:=hB k1
  rw[Nat.zero_mul,Nat.add_zero]at this
  subst this
  exact .inr ⟨k1,k2,k3,rfl,k5⟩
 obtain⟨F2,J1,_⟩:=MD.store (w':=w) (v:=.own sz xs g o c) w8 D4 rfl hnd s6 hfr ⟨rfl,rfl,rfl,rfl,fun _ _=>rfl,Shp.refl _,fun m9 I'=>⟨m9,I',rfl,fun _ _=>rfl,fun j u hu=>by
  have e:m9=cells:=by
   obtain⟨e1,f1,q1,_⟩:=hb
   obtain⟨e2,f2,q2,_⟩:=I'
   rw[q1]at q2
   simp only[ZY,Obj.cells.injEq]at q2
   exact q2.1.symm
  rw[e];exact hc j u hu⟩⟩
 exact⟨F2,J1⟩
theorem xH{o:Oper} {K:AS->Prop} {d T T2 e e2 t0:Nat} {x:Operand} {t:TI} {Cx:Prop} {xs ys:List V} {r:l6} {p:List Nat} {sz g o1 n c g0 o0:Nat} (ho:o.op=.call { callee:=.builtin .append,args:= #[.tmp t0,x],argTypes:= #[T,T2] }) (P6:o.type=T)
 (hd:o.dst=some d) (hN:d<N) (hT:tD P T=some (.sl e)) (Rb:tD P T2=some (.sl e2)) (ht:ti P e=some t) (hz:∃ inf z,P.info? e=some inf/\inf.zero=some z/\z.cells.size=t.sz) (hsz:0<t.sz) (QJ:0<t.J9)
 (hg:A.get t0=.hd r p sz g o1 0 n c) (w8:A.at r p=some (g0,o0,.own sz xs g o1 c)) (e9:sz=t.sz) (hn:n=xs.length) (hx:Nw A x=some (Cx,ys)) (U9:Cx) (S4:V.ay ys=false) (Qu:aC t.sz ys)
 (hbig:(xs.length+ys.length)*t.J9<=140737488355328)
 (hK:∀ g o c,K ((A.setAt r p .b7).put (some d) (.own t.sz (xs++ys) g o c))):D3 P N o A K:=by
 subst e9 hn
 intro Pb Kb a w F Q hs
 obtain⟨B2,c2,A9,L0,K9,Oh,hl2⟩:=lE (P:=P) hs hx U9 Qu S4
 obtain⟨Fr,Fu,x5,⟨cs,cells,hb,J',hc⟩,hnd,s6,hfr⟩:=hs.split w8
 have hr:R w Pb (.own t.sz xs g o1 c) [a.eval (.tmp t0)] Fu:=by
  have hh:=hs.slot t0
  rw[hg]at hh
  obtain⟨_,hle,B,hv,hB⟩:=hh
  have hv:a.eval (.tmp t0)=.slice B xs.length c:=(List.cons.inj hv).1
  rw[hv]
  rcases J' with ⟨rfl,rfl,rfl,A0,_⟩ | ⟨h1,h2,h3,h4,h5⟩
  exact .inl ⟨rfl,rfl,rfl,B,rfl⟩
  have:=hB h1
  rw[Nat.zero_mul,Nat.add_zero]at this
  subst this
  exact .inr ⟨h1,h2,h3,rfl,h5⟩
 obtain⟨v,w',F2,g',o',c',x8,J1,K9,H6,Oj,Ql,M'⟩:=qO hT Rb ht hz hsz QJ x5 hr s6 hfr (Fy:=[]) (by simpa using hnd) Z8 Z8 L0 K9 Oh hl2 Qu hbig
 have Mm:(execOp a.eval o).run P w=.ok (.value v) w':=by
  simp only[execOp,ho,resolve,invoke,builtin,ZK,ZJ,ZS,P6]
  have e:(#[.tmp t0,x].map a.eval)= #[a.eval (.tmp t0),a.eval x]:=Z8
  rw[e,x8];rfl
 unfold Oper.wp
 rw[Mm,Oper.upon_value,hd]
 exact⟨_,Pb,Kb,_,hK g' o' c',J1.put hN K9 (fun r _ g hg=>Oj r g hg) H6 Ql,fun _ h=>h,fun _ h=>h,fun _ h=>.inl h,M'⟩
theorem sw:∀ (vs:List V) {xs:List Value} {F:List Nat} {i:Nat} {v:V},RVs w Pb vs xs F->vs[i]? =some v->v.isVal=true->
 ∃ x Fa Fi Fb,xs[i]? =some x/\F=Fa++Fi++Fb/\RV w Pb v x Fi/\RVs w Pb (vs.set i .b7) xs (Fa++Fb)
 | [],_,_,_,_,_,h,_=>by simp at h
 | u::vs,xs,F,0,v,h,hi,hv=>by
   obtain⟨x,xs',F1,F2,rfl,rfl,h1,h2⟩:=h
   simp at hi;subst hi
   refine⟨x,[],F1,F2,rfl,Z8,?_,⟨x,xs',[],F2,rfl,rfl,rfl,h2⟩⟩
   cases u <;> first | exact h1 | simp[V.isVal]at hv
 | u::vs,xs,F,i+1,v,h,hi,hv=>by
   obtain⟨x,xs',F1,F2,rfl,rfl,h1,h2⟩:=h
   obtain⟨y,Fa,Fi,Fb,k1,rfl,k3,k4⟩:=sw vs h2 (by simpa using hi) hv
   exact⟨y,F1++Fa,Fi,Fb,by simpa using k1,Z8,k3,⟨x,xs',F1,Fa++Fb,rfl,Z8,h1,k4⟩⟩
theorem wc{o:Oper} {K:AS->Prop} {t i d:Nat} {vs:List V} {v:V} (ho:o.op=.extract (.tmp t) i) (hd:o.dst=some d) (hN:d<N) (ht:t<N) (R0:d≠t) (hg:A.get t=.tup vs) (hi:vs[i]? =some v) (hv:v.isVal=true)
 (hK:K ((A.put (some t) (.tup (vs.set i .b7))).put (some d) v)):D3 P N o A K:=by
 intro Pb Kb a w F Q hs
 have M8:=hs.slot t
 rw[hg]at M8
 obtain⟨xs,hx,hr⟩:=M8
 obtain⟨x,Fa,Fi,Fb,k1,k2,k3,k4⟩:=sw vs hr hi hv
 have hnd:=hs.nodup (.slot t)
 rw[k2]at hnd
 have Nf:∀ g,g∈Fa++Fb->g∈F (.slot t):=fun g hg=>by rw[k2];simp only[ZN]at hg ⊢;rcases hg with h | h <;> simp[h]
 have R1:∀ g,g∈Fi->g∈F (.slot t):=fun g hg=>by rw[k2];simp[hg]
 have H6:(Fa++Fb).Nodup/\Fi.Nodup/\∀ g,g∈Fi->g ∉ Fa++Fb:=by
  simp only[List.nodup_append,ZN]at hnd ⊢
  grind
 have MD:=hs.put (d:=t) (v:=.tup (vs.set i .b7)) (x:=a.tmps.getD t undef) (F':=Fa++Fb) ht ⟨xs,hx,k4⟩ (fun r hr g hg c=>hs.bP (.slot t) r (Ne.symm hr) g (Nf g hg) c) H6.1 (fun g hg=>hs.free _ g (Nf g hg))
 rw[oQ]at MD
 unfold Oper.wp
 have x8:(execOp a.eval o).run P w=.ok (.value x) w:=by
  have Te:a.eval (.tmp t)=.tuple xs:=hx
  have hxi:xs[i]? =some x:=by simpa using k1
  simp only[execOp,ho,Te,Instr.extract,hxi,ZK,ZJ,ZS]
 rw[x8,Oper.upon_value,hd]
 refine⟨_,Pb,Kb,_,hK,MD.put (d:=d) (F':=Fi) hN k3 (fun r hr g hg c=>?_) H6.2.1 (fun g hg=>hs.free _ g (R1 g hg)),fun _ h=>h,fun _ h=>h,fun _ h=>.inl h,w5.refl _ _⟩
 simp only[bO]at c
 split at c
 exact H6.2.2 g hg c
 rename_i hne;exact hs.bP (.slot t) r (Ne.symm hne) g (R1 g hg) c
end
def cj:List Prop->Prop->Prop
 | [],k=>k
 | c::r,k=>c/\cj r k
theorem lI:∀ {l:List Prop} {k:Prop},cj l k↔(∀ c,c∈l->c)/\k
 | [],k=>by simp[cj]
 | c::r,k=>by
   rw[cj,lI (l:=r),List.forall_mem_cons,and_assoc]
abbrev GT:=List (Nat×(Nat×Bool))
def AF(ops:Array Oper)(j:Nat):Option Nat:=(ops[j]?).bind (·.dst)
def qm(ops:Array Oper)(d:Nat)(gt:GT):GT:=gt.filter fun e=>!(e.1==d||AF ops e.2.1==some d)
def wh(ops:Array Oper)(d j:Nat)(b:Bool)(gt:GT):GT:=match AF ops j==some d with
 | true=>qm ops d gt
 | false=>(d,(j,b))::qm ops d gt
def QQ(ops:Array Oper)(gt:GT)(A:AS):Prop:= ∀ e,e∈gt->∀ c v,A.get e.1=.gv c v->MQ A ops e.2.1 e.2.2=some c
section
variable {P:Program} {N:Nat} {ops:Array Oper} {A A':AS} {gt:GT}
theorem BK:QQ ops [] A:=fun e h=>by simp at h
theorem zT{d j:Nat}{b:Bool}{u:V}(h:AF ops j≠some d):MQ (A.put (some d) u) ops j b=MQ A ops j b:=by
 unfold MQ
 unfold AF at h
 cases hj:(ops[j]?).bind (·.dst) with
 | none=>rfl
 | some t=>
   simp only[Option.map_some]
   rw[AS.au,if_neg (fun c=>h (by rw[hj,c]))]
theorem tP{d:Nat}{u:V}(h:QQ ops gt A):QQ ops (qm ops d gt) (A.put (some d) u):=fun e he c v hv=>by
 unfold qm at he
 rw[List.mem_filter]at he
 obtain⟨h1,h2⟩:=he
 simp only[Bool.not_eq_true',Bool.or_eq_false_iff,beq_eq_false_iff_ne,ne_eq]at h2
 rw[AS.au,if_neg h2.1]at hv
 rw[zT h2.2]
 exact h e h1 c v hv
theorem BW{d j:Nat}{b G:Bool}{u:V}(h:QQ ops gt A)(hG:MQ A ops j b=some G):QQ ops (wh ops d j b gt) (A.put (some d) (.gv G u)):=by
 unfold wh
 split
 exact tP h
 rename_i e1
 intro e he c v hv
 rcases List.mem_cons.1 he with rfl | he
 rw[AS.au,if_pos rfl]at hv
 cases hv
 rw[zT (by simpa using e1)];exact hG
 exact tP h e he c v hv
def XV(ops:Array Oper)(d:Option Nat)(j:Nat)(b:Bool)(gt:GT):GT:=match d with
 | some d=>wh ops d j b gt
 | none=>gt
theorem GL{d:Option Nat}{j:Nat}{b G:Bool}{u:V}(h:QQ ops gt A)(hG:MQ A ops j b=some G):QQ ops (XV ops d j b gt) (A.put d (.gv G u)):=by
 cases d with
 | none=>exact h
 | some d=>exact BW h hG
theorem HC{x:Operand}(h:(A.ev x).cB=false):A.drop x=A:=by
 cases x with
 | tmp t=>exact if_neg (by simpa[AS.ev] using h)
 | _=>rfl
def Ps(G:Bool)(jb:Nat×Bool)(gt:GT):List Operand->AS->List Prop×AS
 | [],A=>([],A)
 | .tmp t::r,A=>match A.get t with
   | .gv b v=>match Ps G jb gt r (A.put (some t) v),gt.contains (t,jb)&&!v.cB&&!v.fH with
     | (C,B),true=>(C,B)
     | (C,B),false=>(nz G b v::C,B)
   | _=>Ps G jb gt r A
 | _::r,A=>Ps G jb gt r A
theorem ky{G:Bool}{jb:Nat×Bool}:∀ (xs:List Operand) {A B:AS} {l:List Prop},(∀ t,(t,jb)∈gt->∀ c v,A.get t=.gv c v->c=G)->Ps G jb gt xs A=(l,B)->(∀ c,c∈l->c)->∃ C,AS.un G xs A=(C,B)/\C
 | [],A,B,l,_,h,_=>by simp only[Ps,ZV]at h;exact⟨True,by simp only[AS.un,h.2],trivial⟩
 | x::xs,A,B,l,hi,h,hl=>by
   cases x with
   | tmp t=>
     simp only[Ps]at h
     simp only[AS.un]
     split at h
     rename_i b v hg
     rw[hg]
     have WB:v.fH=false->∀ t',(t',jb)∈gt->∀ c u,(A.put (some t) v).get t'=.gv c u->c=G:=fun hv t' ht c u hu=>by
      rw[AS.au]at hu
      split at hu
      rw[hu]at hv;simp[V.fH]at hv
      exact hi t' ht c u hu
     split at h
     rename_i C1 B1 hu hc
     simp only[ZV]at h
     obtain⟨rfl,rfl⟩:=h
     simp only[ZX,Bool.not_eq_true',List.contains_iff_mem]at hc
     obtain⟨C2,e1,e2⟩:=ky xs (WB hc.2) hu hl
     simp only[e1]
     refine⟨_,rfl,?_,e2⟩
     unfold nz
     rw[hc.1.2,hc.2,hi t hc.1.1 b v hg]
     exact fun h=>h
     rename_i C1 B1 hu hc
     simp only[ZV]at h
     obtain⟨rfl,rfl⟩:=h
     have h0:=hl _ (List.mem_cons_self ..)
     have hv:v.fH=false:=by
      unfold nz at h0
      split at h0
      rename_i e;rw[Bool.or_eq_false_iff]at e;exact e.2
      exact h0.elim
     obtain⟨C2,e1,e2⟩:=ky xs (WB hv) hu (fun c hc=>hl c (List.mem_cons_of_mem _ hc))
     simp only[e1]
     exact⟨_,rfl,h0,e2⟩
     rename_i hn
     have:=ky xs hi h hl
     split
     rename_i b v hg;exact absurd hg (hn b v)
     exact this
   | _=>exact ky xs hi h hl
def qf(P:Program)(N:Nat)(ops:Array Oper):Nat->List Oper->List V->GT->AS->Option (List Prop×AS×GT)
 | 0,_,_,gt,A=>some ([],A,gt)
 | _+1,[],_,gt,A=>some ([],A,gt)
 | n+1,o::rest,u9,gt,A=>
   match o.dst with
   | none=>none
   | some d=>if d<N then
     match o.guard with
     | some (j,b)=>match MQ A ops j b with
       | some G=>match Ps G (j,b) gt (gH o.op) A with
         | (C0,B)=>match sY P B o.op u9 with
           | some (C,v,u9)=>if (OB N (gH o.op)&&!v.fH)=true then match qf P N ops n rest u9 (wh ops d j b gt) (A.put (some d) (.gv G v)) with
             | some (C',r)=>some (C0++(if kH o.op=true then C' else (G=true->C)::C'),r)
             | none=>none else none
           | none=>none
       | none=>none
     | none=>match o.op with
       | .assign x=>qf P N ops n rest u9 (if (A.ev x).cB=true then [] else qm ops d gt) ((A.drop x).put (some d) (A.ev x))
       | op=>match sY P A op u9 with
         | some (C,v,u9)=>match qf P N ops n rest u9 (qm ops d gt) (A.put (some d) v) with
           | some (C',r)=>if kH op=true then some (C',r) else some (C::C',r)
           | none=>none
         | none=>none
     else none
theorem qp:∀ (n:Nat) {l:List Oper} {u9:List V} {gt TZ:GT} {A A':AS} {cs:List Prop},qf P N ops n l u9 gt A=some (cs,A',TZ)->QQ ops gt A->(∀ c,c∈cs->c)->
 (∃ C,lQ P N ops n l u9 A=some (C,A')/\C)/\QQ ops TZ A'
 | 0,l,u9,gt,TZ,A,A',cs,h,hi,hc=>by
   simp only[qf,ZY,ZV]at h
   obtain⟨_,rfl,rfl⟩:=h
   exact⟨⟨True,by simp only[lQ],trivial⟩,hi⟩
 | n+1,[],u9,gt,TZ,A,A',cs,h,hi,hc=>by
   simp only[qf,ZY,ZV]at h
   obtain⟨_,rfl,rfl⟩:=h
   exact⟨⟨True,by simp only[lQ],trivial⟩,hi⟩
 | n+1,o::l,u9,gt,TZ,A,A',cs,h,hi,hc=>by
   unfold qf at h
   unfold lQ
   split at h
   cases h
   rename_i d hd
   split at h
   case isFalse=>cases h
   rename_i Q7
   simp only[hd,if_pos Q7]
   split at h
   rename_i j b hg
   simp only[hg]
   split at h
   rename_i G hG
   split at h
   rename_i C0 B hu
   split at h
   rename_i C v Nz hs
   split at h
   rename_i hk
   split at h
   rename_i C' A1 hr
   simp only[ZY,ZV]at h
   obtain⟨rfl,rfl⟩:=h
   obtain⟨C1,e1,e2⟩:=ky (gH o.op) (fun t ht c v hv=>by have:=hi _ ht c v hv;rw[hG]at this;exact(Option.some.inj this).symm) hu (fun c Qq=>hc c (List.mem_append_left _ Qq))
   obtain⟨⟨C2,e3,e4⟩,e5⟩:=qp n hr (BW hi hG) (fun c Qq=>hc c (List.mem_append_right _ (by split <;> simp[Qq])))
   refine⟨?_,e5⟩
   simp only[hG,e1,hs,if_pos hk,e3]
   refine⟨_,rfl,fun Mb=>⟨e2,?_⟩,e4⟩
   by_cases ht:kH o.op=true
   exact lq ht hs
   exact hc (G=true->C) (List.mem_append_right _ (by rw[if_neg ht];exact List.mem_cons_self ..)) Mb
   cases h
   cases h
   cases h
   cases h
   rename_i hg
   simp only[hg]
   split at h
   rename_i x hx
   obtain⟨⟨C,e1,e2⟩,e3⟩:=qp n h (by
    split
    exact BK
    rename_i ho
    rw[HC (by simpa using ho)]
    exact tP hi) hc
   simp only[hx]
   exact⟨⟨C,e1,e2⟩,e3⟩
   rename_i hx
   split at h
   rename_i C v Nz hs
   split at h
   rename_i C' r hr
   have key:(∀ c,c∈C'->c)/\C/\r=(A',TZ):=by
    split at h
    rename_i ht
    simp only[ZY,ZV]at h
    obtain⟨rfl,rfl⟩:=h
    exact⟨hc,lq ht hs,rfl⟩
    simp only[ZY,ZV]at h
    obtain⟨rfl,rfl⟩:=h
    exact⟨fun c Qq=>hc c (List.mem_cons_of_mem _ Qq),hc _ (List.mem_cons_self ..),rfl⟩
   obtain⟨k1,k2,rfl⟩:=key
   obtain⟨⟨C2,e3,e4⟩,e5⟩:=qp n hr (tP hi) k1
   refine⟨?_,e5⟩
   split
   rename_i L0;exact absurd L0 (hx _)
   simp only[hs,e3]
   split
   exact⟨_,rfl,e4⟩
   exact⟨_,rfl,k2,e4⟩
   cases h
   cases h
def lM(B:AS)(ks:List (Nat×Nat)):List (Nat×(Nat×V))->Prop->Prop
 | [],p=>p
 | (k,(g,v))::r,p=>(match lk k ks with | some q=>(match lk q B.h with | some (g',v')=>(g',wk v' v)=(g,v) | none=>False) | none=>False)/\lM B ks r p
theorem hZ{B:AS}{ks:List (Nat×Nat)}:∀ {H:List (Nat×(Nat×V))} {p:Prop},lM B ks H p->jG B ks H/\p
 | [],p,h=>⟨trivial,h⟩
 | (k,(g,v))::r,p,h=>by
   obtain⟨h1,h2⟩:=h
   obtain⟨h3,h4⟩:=hZ h2
   exact⟨⟨h1,h3⟩,h4⟩
def EE(A:AS):List (Nat×(Nat×V))->Prop->Prop
 | [],p=>p
 | (k,(g,v))::r,p=>(match lk k A.h with | some (g',v')=>(g',wk v' v)=(g,v) | none=>False)/\EE A r p
theorem wN:∀ {H:List (Nat×(Nat×V))} {p:Prop},EE A H p->Pe A H/\p
 | [],p,h=>⟨trivial,h⟩
 | (k,(g,v))::r,p,h=>by
   obtain⟨h1,h2⟩:=h
   obtain⟨h3,h4⟩:=wN h2
   exact⟨⟨h1,h3⟩,h4⟩
def EI(A:AS):List (Nat×V)->Prop->Prop
 | [],p=>p
 | (k,v)::r,p=>(wk (A.get k) v=v)/\EI A r p
theorem rQ:∀ {H:List (Nat×V)} {p:Prop},EI A H p->PY A H/\p
 | [],p,h=>⟨trivial,h⟩
 | (k,v)::r,p,h=>by
   obtain⟨h1,h2⟩:=h
   obtain⟨h3,h4⟩:=rQ h2
   exact⟨⟨h1,h3⟩,h4⟩
def TB(A B:AS):Prop:=EI A B.t (EE A B.h True)
theorem qq{B:AS}(h:TB A B):PY A B.t/\Pe A B.h:=⟨(rQ h).1,(wN (rQ h).2).1⟩
def wT(A:AS):List ResultVar->Option (List Prop×List (l6×V))
 | []=>some ([],[])
 | r::rs=>match wT A rs with
   | some (C,xs)=>match r with
     | .tmp t=>some (C,(.slot t,A.get t)::xs)
     | .cell t _=>match A.get t with
       | .ptr (.key k) [] g 0=>match lk k A.h with
         | some (g',v)=>some ((g'=g)::C,(.key k,v)::xs)
         | none=>none
       | _=>none
   | none=>none
theorem qu:∀ {rs:List ResultVar} {C:List Prop} {xs:List (l6×V)},wT A rs=some (C,xs)->(∀ c,c∈C->c)->∃ C',uk A rs=some (C',xs)/\C'
 | [],C,xs,h,_=>by simp only[wT,ZY,ZV]at h;rw[<- h.2];exact⟨_,rfl,trivial⟩
 | r::rs,C,xs,h,hC=>by
   simp only[wT]at h
   simp only[uk]
   split at h
   rename_i C1 xs1 e
   split at h
   simp only[ZY,ZV]at h
   obtain⟨rfl,rfl⟩:=h
   obtain⟨C',e1,e2⟩:=qu e hC
   simp only[e1]
   exact⟨_,rfl,e2⟩
   split at h
   rename_i k g e2
   split at h
   rename_i g' v e3
   simp only[ZY,ZV]at h
   obtain⟨rfl,rfl⟩:=h
   obtain⟨C',e4,e5⟩:=qu e (fun c hc=>hC c (List.mem_cons_of_mem _ hc))
   simp only[e4,e2,e3]
   exact⟨_,rfl,hC _ (List.mem_cons_self ..),e5⟩
   cases h
   cases h
   cases h
def ra(A:AS):List (Nat×(Nat×V))->Prop->Prop
 | [],p=>p
 | (k,(g,v))::r,p=>p/\ra A r (match lk k A.h with | some (g',v')=>(g',wk v' v)=(g,v) | none=>False)
theorem rB:∀ {H:List (Nat×(Nat×V))} {p:Prop},ra A H p->p/\Pe A H
 | [],p,h=>⟨h,trivial⟩
 | (k,(g,v))::r,p,h=>by
   obtain⟨h1,h2⟩:=h
   exact⟨h1,rB h2⟩
end
structure o8 (P:Program) where
 f:FuncId
 args:List V
 H:List (Nat×(Nat×V)):=[]
 pre:Prop:=True
 res:V
 H':List (Nat×(Nat×V)):=[]
 ok:pre->PF P f args H (fun r h=>r=res/\h=H')
structure E7 (P:Program) where
 X:Type
 f:FuncId
 args:List V
 H:List (Nat×(Nat×V)):=[]
 pre:Prop:=True
 post:X->Prop
 res:X->V
 H':X->List (Nat×(Nat×V)):=fun _=>[]
 ok:pre->PF P f args H (fun r h=> ∃ x,post x/\r=res x/\h=H' x)
structure Cu (P:Program) where
 X:Type
 pre:Nat->Oper->AS->Prop
 post:X->Oper->AS->AS
 ok:∀ {N:Nat} {o:Oper} {A:AS} {K:AS->Prop},o.guard=none->pre N o A->(∀ x,K (post x o A))->D3 P N o A K
structure Eu (P:Program) where
 X:Type
 pre:Nat->Oper->AS->List Nat->List Nat->Prop
 U:Oper->AS->X->AS->AS
 Ul:∀ {N:Nat} {o:Oper} {A:AS} {Sl Hl:List Nat},pre N o A Sl Hl->∀ fs,Qz (U o A) fs Sl Hl
 prom:List Nat:=[]
 Xd:∀ {N:Nat} {o:Oper} {A:AS} {Sl Hl:List Nat},pre N o A Sl Hl->∀ q,q∈prom->∀ x B,LY (U o A x B).h q=LY B.h q:=by intro _ _ _ _ _ _ q hq;exact absurd hq List.not_mem_nil
 ok:∀ {N:Nat} {o:Oper} {A A':AS} {Sl Hl:List Nat},o.guard=none->pre N o A Sl Hl->(∀ t,Operand.tmp t∈o.op.operands.toList->A'.get t=A.get t)->(∀ k,lk k A'.h=lk k A.h)->D3 P N o A' fun B=> ∃ x,B=U o A x A'
def o8.sm{P:Program}(c:o8 P):Prop:=c.args=c.args
def E7.sm{P:Program}(c:E7 P):Prop:=c.args=c.args
inductive Hint where
 | H2 (t sz:Nat)
 | Vb (t:Nat) (u:V)
 | wkR (r:l6) (p:List Nat) (u:V)
 | gg (t:Nat)
 | fz (t:Nat)
 | o4 (t:Nat) (v:V)
 | z6 (k:Nat) (v:V)
 | to (B:AS)
 | rk (k k':Nat)
 | A4 (r:l6) (p:List Nat) (sz:Nat)
 | OQ (r:l6) (p:List Nat) (g o sz:Nat)
 | Qy (r:l6) (p:List Nat) (g o t:Nat)
 | OP (r:l6) (p:List Nat) (g o:Nat) (v u:V)
inductive Sc (P:Program):Type 1
 | nil
 | h (x:Hint) (k:Sc P)
 | ot (t:Nat) (k:Nat->Nat->Nat->Sc P)
 | oR (r:l6) (p:List Nat) (k:Nat->Nat->Nat->Sc P)
 | r (n:Nat) (u9:List V) (k:Sc P)
 | mv (k:Sc P)
 | c (c:o8 P) (ks:List (Nat×Nat)) (k:Sc P)
 | cx (c:E7 P) (ks:List (Nat×Nat)) (k:c.X->Sc P)
 | cg (c:o8 P) (k:Sc P)
 | al (z:ZT P) (k:Nat->Sc P)
 | bx (k:Nat->Sc P)
 | st (QU:Option V) (k:Sc P)
 | ap (k:Nat->Nat->Nat->Sc P)
 | bd (z:ZT P) (k:Sc P)
 | bs (k:Sc P)
 | J9 (bs:BL) (k:Sc P)
 | sb (l:BL) (k:Nat->Nat->Sc P)
 | mm (k:Sc P)
 | rs (k:Sc P)
 | br (a b:Sc P)
 | join (X:Type) (B:X->AS) (ok:X->Prop) (a b:Sc P) (k:X->Sc P)
 | loop (X:Type) (inv:X->AS) (ok:X->Prop) (m:X->Nat) (k:X->Sc P)
 | dx (m:Nat) (pl:List Nat) (tb:List (Nat×OO)) (zs:List (Nat×ZT P)) (k:Sc P)
 | ua (k:Nat->Sc P)
 | ux (z:Option (ZT P)) (k:Nat->Nat->Nat->Sc P)
 | cl (c:o8 P) (k:Sc P)
 | sp (b:Bool) (a1 a2:Sc P)
 | gt (k:Sc P)
 | gf (v:V) (k:Sc P)
 | ex (X:Type) (post:X->Prop) (k:X->Sc P)
 | Pv (r:l6) (p:List Nat) (g o sz:Nat) (xs:List V) (k:Nat->Nat->Nat->Sc P)
 | W4 (xs:List V) (g o:Nat) (k:Nat->Nat->Nat->Sc P)
 | bo (k:Nat->Sc P)
 | cu (c:Cu P) (k:c.X->Sc P)
 | eu (c:Eu P) (k:c.X->Sc P)
def NJ(N:Nat):Option Nat->Bool
 | none=>true
 | some d=>Nat.blt d N
theorem dL{N:Nat}{d:Option Nat}(h:NJ N d=true):bX N d:=by
 cases d with
 | none=>trivial
 | some d=>exact Nat.lt_of_succ_le (Nat.le_of_ble_eq_true h)
theorem bu{a b:Nat}(h:Nat.blt a b=true):a<b:=Nat.lt_of_succ_le (Nat.le_of_ble_eq_true h)
def wz(N:Nat)(x:Hint)(A:AS)(K:AS->Prop):Prop:=
 match x with
 | .H2 t sz=>match Nat.blt t N,A.get t with
   | true,.sl true []=>K (A.put (some t) (.own sz [] 0 0 0))
   | _,_=>False
 | .Vb t u=>match Nat.blt t N with
   | true=>K (A.put (some t) (wk (A.get t) u))
   | false=>False
 | .wkR r p u=>match A.at r p with
   | some (_,_,v)=>match (wk v u).n==v.n with
     | true=>K (A.setAt r p (wk v u))
     | false=>False
   | none=>False
 | .gg t=>match A.get t with
   | .hd (.slot i) [] sz g o 0 n c=>match A.get i with
     | .own I2 xs g' o' c'=>match Nat.blt t N&&Nat.blt i N&&!(t==i) with
       | true=>(sz,g,o,c,n)=(I2,g',o',c',xs.length)/\K ((A.put (some i) .b7).put (some t) (.own I2 xs g' o' c'))
       | false=>False
     | _=>False
   | _=>False
 | .fz t=>match Nat.blt t N&&(A.get t).cB with
   | true=>K (A.put (some t) (A.get t).er)
   | false=>False
 | .o4 t v=>A.get t=v/\K (A.put (some t) v)
 | .z6 k v=>match lk k A.h with
   | some (g,u)=>u=v/\K ⟨A.t,(k,(g,v))::A.h⟩
   | none=>False
 | .to B=>PY A B.t/\Pe A B.h/\K B
 | .rk k k'=>match lk k A.h,lk k' A.h with
   | some gv,none=>K ⟨A.t,(k',gv)::A.h.filter fun p=>p.1 != k⟩
   | _,_=>False
 | .A4 r p sz=>match A.at r p with
   | some (_,_,.sl true [])=>K (A.setAt r p (.own sz [] 0 0 0))
   | _=>False
 | .OQ r p g o sz=>A.at r p=some (g,o,.sl true [])/\K (A.setAt r p (.own sz [] 0 0 0))
 | .Qy r p g o t=>match A.get t with
   | .own sz xs g1 o1 c=>(A.put (some t) .b7).at r p=some (g,o,.hd (.slot t) [] sz g1 o1 0 xs.length c)/\K ((A.put (some t) .b7).setAt r p (.own sz xs g1 o1 c))
   | _=>False
 | .OP r p g o v u=>A.at r p=some (g,o,v)/\match (wk v u).n==v.n with
   | true=>K (A.setAt r p (wk v u))
   | false=>False
def NO{P:Program}(N:Nat):Sc P->AS->(AS->Sc P->Prop)->Prop
 | .h x k,A,K=>wz N x A fun B=>NO N k B K
 | .ot t k,A,K=>match Nat.blt t N,A.get t with
   | true,.ow sz xs=> ∀ g o c,NO N (k g o c) (A.put (some t) (.own sz xs g o c)) K
   | _,_=>False
 | .oR r p k,A,K=>match A.at r p with
   | some (_,_,.ow sz xs)=> ∀ g o c,NO N (k g o c) (A.setAt r p (.own sz xs g o c)) K
   | _=>False
 | .ex X post k,A,K=>(∃ x,post x)/\∀ x,post x->NO N (k x) A K
 | .Pv r p g0 o0 sz xs k,A,K=>A.at r p=some (g0,o0,.ow sz xs)/\∀ g o1 c,NO N (k g o1 c) (A.setAt r p (.own sz xs g o1 c)) K
 | s,A,K=>K A s
def lK(P:Program)(T T2:Nat):Option TI:=
 match tD P T,tD P T2 with
 | some (.sl e),some (.sl _)=>match ti P e with
   | some t=>match Ui P e t.sz&&Nat.blt 0 t.sz&&Nat.blt 0 t.J9 with
     | true=>some t
     | false=>none
   | none=>none
 | _,_=>none
def xe(P:Program)(T:Nat):Bool:=match tD P T with
 | some (.sl e)=>match tD P e with
   | some (.int .u8)=>true
   | _=>false
 | _=>false
def isStr(P:Program)(T:Nat):Bool:=match tD P T with
 | some .str=>true
 | _=>false
def B6{P:Program}(N:Nat)(ops:Array Oper):GT->Sc P->List Oper->AS->(AS->Sc P->Prop)->Prop
 | QN,s,[],A,K=>K A s
 | QN,.r n u9 k,l,A,K=>match qf P N ops n l u9 QN A with
   | some (C,A',XW)=>cj C (B6 N ops XW k (l.drop n) A' K)
   | none=>False
 | QN,.cg c k,o::l,A,K=>match o.op,o.guard with
   | .call ⟨.value (.func f),xs,_⟩,some (j,b)=>match f==c.f&&NJ N o.dst&&OB N xs.toList&&!c.res.er.fH&&!c.res.er.cB,c.H,MQ A ops j b with
     | true,[],some G=>match Ps G (j,b) QN xs.toList A with
       | (C,B)=>cj C ((G=true->c.pre/\Mw (xs.toList.map B.cp) c.args=c.args)/\B6 N ops (XV ops o.dst j b QN) k l (A.put o.dst (.gv G c.res.er)) K)
     | _,_,_=>False
   | _,_=>False
 | QN,.ex X post k,o::l,A,K=>(∃ x,post x)/\∀ x,post x->B6 N ops [] (k x) (o::l) A K
 | QN,.sp b a1 a2,o::l,A,K=>(b=true->B6 N ops [] a1 (o::l) A K)/\(b=false->B6 N ops [] a2 (o::l) A K)
 | QN,.gt k,o::l,A,K=>match o.guard with
   | some (j,b)=>match MQ A ops j b with
     | some G=>G=true/\B6 N ops [] k (⟨o.dst,o.op,o.type,o.pos,o.after,none⟩ :: l) A K
     | none=>False
   | none=>False
 | QN,.gf v k,o::l,A,K=>match o.guard with
   | some (j,b)=>match MQ A ops j b,NJ N o.dst with
     | some G,true=>G=false/\B6 N ops [] k l (A.put o.dst (.gv false v)) K
     | _,_=>False
   | none=>False
 | QN,s,o::l,A,K=>match o.guard with
   | some _=>False
   | none=>match s with
     | .h x k=>wz N x A fun B=>B6 N ops [] k (o::l) B K
     | .Pv r p g0 o0 sz xs k=>A.at r p=some (g0,o0,.ow sz xs)/\∀ g o1 c,B6 N ops [] (k g o1 c) (o::l) (A.setAt r p (.own sz xs g o1 c)) K
     | .cu c k=>c.pre N o A/\∀ x,B6 N ops [] (k x) l (c.post x o A) K
     | .bo k=>match o.op,o.dst with
       | .buildSlice T len a8,some d=>match tD P T with
         | some (.sl e)=>match ti P e,ey A 0 a8.toList with
           | some i,some vs=>match QP P T e len i vs&&Nat.blt d N&&Nat.blt 0 len with
             | true=> ∀ g,B6 N ops [] (k g) l (A.put (some d) (.own i.sz vs g 0 len)) K
             | false=>False
           | _,_=>False
         | _=>False
       | _,_=>False
     | .W4 xs g0 o0 k=>match o.op,o.dst with
       | .call ⟨.builtin .append,⟨[.tmp t0,x]⟩,⟨[T,T2]⟩⟩,some d=>match o.type==T&&Nat.blt d N,lK P T T2 with
         | true,some t=>match A.get t0,Nw A x with
           | .hd r p sz g o1 0 n c,some (Cx,ys)=>(A.at r p=some (g0,o0,.own sz xs g o1 c)/\sz=t.sz/\n=xs.length)/\Cx/\V.ay ys=false/\aC t.sz ys/\(xs.length+ys.length)*t.J9<=140737488355328/\
            ∀ g2 o2 c2,B6 N ops [] (k g2 o2 c2) l ((A.setAt r p .b7).put (some d) (.own t.sz (xs++ys) g2 o2 c2)) K
           | _,_=>False
         | _,_=>False
       | _,_=>False
     | .cl c k=>match o.op with
       | .call ⟨.value (.func f),xs,_⟩=>match f==c.f&&NJ N o.dst&&c.res.plain,c.H,oB A xs.toList with
         | true,[],(C,vs)=>C/\Mw vs c.args=c.args/\c.pre/\B6 N ops [] k l (A.put o.dst c.res) K
         | _,_,_=>False
       | _=>False
     | .ot t k=>match Nat.blt t N,A.get t with
       | true,.ow sz xs=> ∀ g o1 c,B6 N ops [] (k g o1 c) (o::l) (A.put (some t) (.own sz xs g o1 c)) K
       | _,_=>False
     | .oR r p k=>match A.at r p with
       | some (_,_,.ow sz xs)=> ∀ g o1 c,B6 N ops [] (k g o1 c) (o::l) (A.setAt r p (.own sz xs g o1 c)) K
       | _=>False
     | .mv k=>match o.op with
       | .move x=>match NJ N o.dst with
         | true=>B6 N ops [] k l ((A.drop x).put o.dst (A.ev x)) K
         | false=>False
       | .extract (.tmp t) i=>match o.dst,A.get t with
         | some d,.tup vs=>match vs[i]? with
           | some v=>match Nat.blt d N&&Nat.blt t N&&!(d==t)&&v.isVal with
             | true=>B6 N ops [] k l ((A.put (some t) (.tup (vs.set i .b7))).put (some d) v) K
             | false=>False
           | none=>False
         | _,_=>False
       | .load T x=>match o.dst,ti P T,A.ev x with
         | some d,some i,.ptr r p g g'=>match A.at r p with
           | some (g2,Rg,u)=>match Nat.blt d N&&u.n==i.sz&&i.d.agg==u.isAgg with
             | true=>(g2,Rg)=(g,g')/\B6 N ops [] k l ((A.setAt r p u.kill).put (some d) u) K
             | false=>False
           | none=>False
         | _,_,_=>False
       | _=>False
     | .c c ks k=>match o.op with
       | .call ⟨.value fx,xs,_⟩=>match A.ev fx,A.tk xs.toList with
         | .lit (.func (.func f) first w4),(vs,B)=>match f==c.f&&NJ N o.dst&&Mk (ks.map (·.1))&&Mk (ks.map (·.2))&&c.args.length==(first.toList.map cV++vs++w4.toList.map cV).length with
           | true=>Mw (first.toList.map cV++vs++w4.toList.map cV) c.args=c.args/\lM B ks c.H (c.pre/\B6 N ops [] k l ((B.back ks c.H').put o.dst (c.res.Nv (jr ks))) K)
           | false=>False
         | _,_=>False
       | _=>False
     | .cx c ks k=>match o.op with
       | .call ⟨.value fx,xs,_⟩=>match A.ev fx,A.tk xs.toList with
         | .lit (.func (.func f) first w4),(vs,B)=>match f==c.f&&NJ N o.dst&&Mk (ks.map (·.1))&&Mk (ks.map (·.2))&&c.args.length==(first.toList.map cV++vs++w4.toList.map cV).length with
           | true=>Mw (first.toList.map cV++vs++w4.toList.map cV) c.args=c.args/\lM B ks c.H (c.pre/\∀ x,c.post x->B6 N ops [] (k x) l ((B.back ks (c.H' x)).put o.dst ((c.res x).Nv (jr ks))) K)
           | false=>False
         | _,_=>False
       | _=>False
     | .al z k=>match o.op,o.dst with
       | .alloc T,some d=>match T==z.T&&Nat.blt d N with
         | true=> ∀ g,B6 N ops [] (k g) l ⟨(d,.ptr (.key d) [] g 0)::A.t,(d,(g,z.v))::A.h⟩ K
         | false=>False
       | _,_=>False
     | .bx k=>match o.op,o.dst with
       | .box _ x,some d=>match Nat.blt d N&&(A.cp x).isVal with
         | true=> ∀ g,B6 N ops [] (k g) l ⟨(d,.ptr (.key d) [] g 0)::A.t,(d,(g,A.cp x))::A.h⟩ K
         | false=>False
       | _,_=>False
     | .st QU k=>match o.op,o.dst with
       | .store T x y,none=>match ti P T,A.ev x with
         | some i,.ptr r p g g'=>match QU with
           | none=>match (A.drop y).at r p with
             | some (g2,Rg,u)=>match (A.ev y).isVal&&(A.ev y).n==u.n&&(A.ev y).n==i.sz with
               | true=>(g2,Rg)=(g,g')/\B6 N ops [] k l ((A.drop y).setAt r p (A.ev y)) K
               | false=>False
             | none=>False
           | some u=>match (A.ev y).isVal&&(A.ev y).n==u.n&&(A.ev y).n==i.sz with
             | true=>(A.drop y).at r p=some (g,g',u)/\B6 N ops [] k l ((A.drop y).setAt r p (A.ev y)) K
             | false=>False
         | _,_=>False
       | _,_=>False
     | .ap k=>match o.op,o.dst with
       | .call ⟨.builtin .append,⟨[s,x]⟩,⟨[T,T2]⟩⟩,some d=>match o.type==T&&Nat.blt d N,lK P T T2 with
         | true,some t=>match Ue A s t.sz,Nw A x with
           | some (C,A1,xs),some (Cx,ys)=>C/\Cx/\V.ay ys=false/\aC t.sz ys/\(xs.length+ys.length)*t.J9<=140737488355328/\
            ∀ g o1 c,B6 N ops [] (k g o1 c) l (A1.put (some d) (.own t.sz (xs++ys) g o1 c)) K
           | none,some (Cx,ys)=>match Tn A s t.sz with
             | some (C,xs)=>(C/\0<ys.length)/\Cx/\V.ay ys=false/\aC t.sz ys/\(xs.length+ys.length)*t.J9<=140737488355328/\
               ∀ g o1 c,B6 N ops [] (k g o1 c) l (A.put (some d) (.own t.sz (xs++ys) g o1 c)) K
             | none=>False
           | _,_=>False
         | _,_=>False
       | _,_=>False
     | .bd z k=>match o.op with
       | .build T a8=>match T==z.T&&NJ N o.dst,z.v with
         | true,.agg zs=>match kr P A T zs a8.toList with
           | some v=>B6 N ops [] k l (A.put o.dst v) K
           | none=>False
         | _,_=>False
       | _=>False
     | .bs k=>match o.op with
       | .buildSlice T len a8=>match tD P T with
         | some (.sl e)=>match ti P e,ey A 0 a8.toList with
           | some i,some vs=>match QP P T e len i vs&&NJ N o.dst with
             | true=>B6 N ops [] k l (A.put o.dst (.sl true vs)) K
             | false=>False
           | _,_=>False
         | _=>False
       | _=>False
     | .J9 bs k=>match o.op with
       | .convert src dst x=>match xe P src&&isStr P dst&&NJ N o.dst,Nw A x with
         | true,some (C,ys)=>C/\ys=bs.map m7/\B6 N ops [] k l (A.put o.dst (sV bs)) K
         | _,_=>False
       | _=>False
     | .sb bs k=>match o.op,o.dst with
       | .convert src dst x,some d=>match isStr P src&&xe P dst&&Nat.blt d N with
         | true=>A.ev x=sV bs/\∀ g c,B6 N ops [] (k g c) l (A.put (some d) (.own 1 (bs.map m7) g 0 c)) K
         | false=>False
       | _,_=>False
     | .mm k=>match o.op with
       | .call ⟨.builtin b,⟨[x,y]⟩,_⟩=>match A.ev x,A.ev y,NJ N o.dst,b with
         | .lit (.int kd p),.lit (.int PZ q),true,.max=>PZ=kd/\B6 N ops [] k l (A.put o.dst (.lit (.int kd (max p q)))) K
         | .lit (.int kd p),.lit (.int PZ q),true,.min=>PZ=kd/\B6 N ops [] k l (A.put o.dst (.lit (.int kd (min p q)))) K
         | _,_,_,_=>False
       | _=>False
     | .rs k=>match o.op,o.dst with
       | .assign x,some i=>match A.ev x,A.get i,Nat.blt i N with
         | .hd (.slot i') [] I2 g' o' lo n c',.own sz xs g o1 c,true=>(i',I2,g',o')=(i,sz,g,o1)/\(lo+n<=xs.length/\lo+c'<=c/\V.ay xs=false)/\
          B6 N ops [] k l (A.put (some i) (.own sz ((xs.drop lo).take n) g (o1+lo*sz) c')) K
         | _,_,_=>False
       | _,_=>False
     | _=>False
section
variable {P:Program} {N:Nat} {ops:Array Oper} {A A' A1 B:AS}
variable {w:World} {Pb Kb:Nat->Prop} {a:Act} {F:l6->List Nat}
theorem yo{x:Hint}{A:AS}{K:AS->Prop}(h:wz N x A K):Hx N A K:=by
 unfold wz at h
 split at h
 split at h
 rename_i e1 e2;exact It _ _ (bu e1) e2 h
 exact h.elim
 split at h
 rename_i e1;exact KC _ (bu e1) h
 exact h.elim
 split at h
 rename_i e1
 split at h
 rename_i e2;exact BV _ e1 (by simpa using e2) h
 exact h.elim
 exact h.elim
 split at h
 rename_i e1
 split at h
 rename_i e2
 split at h
 rename_i e3
 simp only[ZX,Bool.not_eq_true',beq_eq_false_iff_ne]at e3
 obtain⟨hq,h⟩:=h
 simp only[ZV]at hq
 obtain⟨rfl,rfl,rfl,rfl,hn⟩:=hq
 exact ET (bu e3.1.1) (bu e3.1.2) e3.2 e1 e2 hn h
 exact h.elim
 exact h.elim
 exact h.elim
 split at h
 rename_i e1
 simp only[ZX]at e1
 exact Db (bu e1.1) e1.2 h
 exact h.elim
 exact IQ _ h.1 h.2
 split at h
 rename_i e1
 obtain⟨rfl,h⟩:=h
 exact IV _ e1 h
 exact h.elim
 exact GG h.1 h.2.1 h.2.2
 split at h
 rename_i e1 e2;exact Ld e1 e2 h
 exact h.elim
 split at h
 rename_i e1;exact xj e1 h
 exact h.elim
 exact xj h.1 h.2
 split at h
 rename_i e1;exact BR e1 h.1 rfl h.2
 exact h.elim
 obtain⟨h1,h⟩:=h
 split at h
 rename_i e2;exact BV _ h1 (by simpa using e2) h
 exact h.elim
theorem ju:∀ (s:Sc P) {A:AS} {K:AS->Sc P->Prop},NO N s A K->Hx N A fun B=> ∃ s',K B s':=by
 intro s
 induction s with
 | h x k ih=>intro A K h;exact(yo h).bind fun B hB=>ih hB
 | ot t k ih=>
   intro A K h
   simp only[NO]at h
   split at h
   rename_i e1 e2
   exact(zb (bu e1) e2 (K:=fun B=>Hx N B fun B=> ∃ s',K B s') fun g o c=>ih g o c (h g o c)).bind fun _ hB=>hB
   exact h.elim
 | oR r p k ih=>
   intro A K h
   simp only[NO]at h
   split at h
   rename_i e1
   exact(oX e1 (K:=fun B=>Hx N B fun B=> ∃ s',K B s') fun g o c=>ih g o c (h g o c)).bind fun _ hB=>hB
   exact h.elim
 | ex X post k ih=>
   intro A K h
   obtain⟨⟨x,hx⟩,h⟩:=h
   exact ih x (h x hx)
 | Pv r p g0 o0 sz xs k ih=>
   intro A K h
   exact(oX h.1 (K:=fun B=>Hx N B fun B=> ∃ s',K B s') fun g o c=>ih g o c (h.2 g o c)).bind fun _ hB=>hB
 | _=>intro A K h;exact Hx.of ⟨_,h⟩
theorem gP{T T2:Nat}{t:TI}(h:lK P T T2=some t):∃ e e2,tD P T=some (.sl e)/\tD P T2=some (.sl e2)/\ti P e=some t/\Ui P e t.sz=true/\0<t.sz/\0<t.J9:=by
 unfold lK at h
 split at h
 rename_i e e2 h1 h2
 split at h
 rename_i t' h3
 split at h
 rename_i h4
 simp only[ZY]at h;subst h
 simp only[ZX]at h4
 exact⟨e,e2,h1,h2,h3,h4.1.1,bu h4.1.2,bu h4.2⟩
 simp at h
 simp at h
 simp at h
theorem uu{T:Nat}(h:xe P T=true):∃ e,tD P T=some (.sl e)/\tD P e=some (.int .u8):=by
 unfold xe at h
 split at h
 rename_i e h1
 split at h
 rename_i h2;exact⟨e,h1,h2⟩
 simp at h
 simp at h
theorem rh{T:Nat}(h:isStr P T=true):tD P T=some .str:=by
 unfold isStr at h
 split at h
 rename_i h1;exact h1
 simp at h
theorem CM:∀ (s:Sc P) {gt:GT} {l:List Oper} {A:AS} {K:AS->Sc P->Prop},B6 N ops gt s l A K->(hg:QQ ops gt A:=by exact BK)->WL P N ops l A fun B=> ∃ s',K B s':=by
 intro s
 induction s with
 | nil=>
   intro gt l A K h H7
   cases l with
   | nil=>exact⟨_,h⟩
   | cons o l=>simp only[B6]at h;split at h <;> exact h.elim
 | r n u9 k ih=>
   intro gt l A K h H7
   cases l with
   | nil=>exact⟨_,h⟩
   | cons o l=>
     simp only[B6]at h
     split at h
     rename_i C A' XW e
     obtain⟨h1,h2⟩:=lI.1 h
     obtain⟨⟨C1,e1,e2⟩,e3⟩:=qp n e H7 h1
     exact nt n e1 e2 (ih h2 e3)
     exact h.elim
 | cg c k ih=>
   intro gt l A K h H7
   cases l with
   | nil=>exact⟨_,h⟩
   | cons o l=>
     obtain⟨dst,op,ty,pos,after,B9⟩:=o
     simp only[B6]at h
     split at h
     rename_i _ _ f xs J4 j b
     split at h
     rename_i G h1 h2 h3
     revert h
     cases hu:Ps G (j,b) gt xs.toList A with | mk C0 B=>?_
     intro h
     obtain⟨Oy,h⟩:=lI.1 h
     obtain⟨C1,u1,u2⟩:=ky xs.toList (fun t ht c v hv=>by have:=H7 _ ht c v hv;rw[h3]at this;exact(Option.some.inj this).symm) hu Oy
     simp only[ZX,Zp,Bool.not_eq_true']at h1
     obtain⟨⟨⟨⟨h1,h4⟩,h5⟩,h6⟩,h7⟩:=h1
     subst h1
     refine Ed (dL h4) h3 u1 h5 rfl (fun hG=>⟨u2,?_,h6,h7⟩) (ih h.2 (GL H7 h3))
     obtain⟨Qd,hw⟩:=h.1 hG
     have hc:=c.ok Qd
     rw[h2]at hc
     have hp:=hc.Bu
     refine⟨hp.1,fun w Pb cargs k1 k2=>?_⟩
     refine(hp.2 w Pb cargs k1 (by have:=nn _ c.args k2;rw[hw]at this;exact this)).mono ?_
     rintro e w' ⟨r,x,F,Pb',rfl,⟨H,q1,_⟩,rest⟩
     exact⟨r,x,F,Pb',rfl,by rw[q1],rest⟩
     exact h.elim
     exact h.elim
 | ex X post k ih=>
   intro gt l A K h H7
   cases l with
   | nil=>exact⟨_,h⟩
   | cons o l=>
     simp only[B6]at h
     obtain⟨⟨x,hx⟩,h⟩:=h
     exact ih x (h x hx)
 | Pv r p g0 o0 sz xs k ih=>
   intro gt l A K h H7
   cases l with
   | nil=>exact⟨_,h⟩
   | cons o l=>
     simp only[B6]at h
     split at h
     exact h.elim
     rename_i hg
     exact qD hg (oX h.1 fun g o1 c=>ih g o1 c (h.2 g o1 c))
 | cu c k ih=>
   intro gt l A K h H7
   cases l with
   | nil=>exact⟨_,h⟩
   | cons o l=>
     obtain⟨dst,op,ty,pos,after,B9⟩:=o
     simp only[B6]at h
     split at h
     exact h.elim
     rename_i hg
     show D3 P N _ A _
     exact c.ok rfl h.1 fun x=>ih x (h.2 x)
 | bo k ih=>
   intro gt l A K h H7
   cases l with
   | nil=>exact⟨_,h⟩
   | cons o l=>
     obtain⟨dst,op,ty,pos,after,B9⟩:=o
     simp only[B6]at h
     split at h
     exact h.elim
     show D3 P N _ A _
     split at h
     split at h
     rename_i e e1
     split at h
     rename_i i vs e2 e3
     split at h
     rename_i e4
     simp only[ZX]at e4
     exact yW rfl rfl (bu e4.1.2) e1 e2 e3 e4.1.1 (bu e4.2) fun g=>ih g (h g)
     exact h.elim
     exact h.elim
     exact h.elim
     exact h.elim
 | W4 xs g0 o0 k ih=>
   intro gt l A K h H7
   cases l with
   | nil=>exact⟨_,h⟩
   | cons o l=>
     obtain⟨dst,op,ty,pos,after,B9⟩:=o
     simp only[B6]at h
     split at h
     exact h.elim
     show D3 P N _ A _
     split at h
     split at h
     rename_i t e1 e2
     split at h
     rename_i e3 e4
     simp only[ZX,Zp]at e1
     obtain⟨⟨k1,k2,k3⟩,k4,k5,k6,k7,k8⟩:=h
     obtain⟨e,e',q1,q2,q3,q4,q5,q6⟩:=gP e2
     exact xH rfl e1.1 rfl (bu e1.2) q1 q2 q3 (kC q4) q5 q6 e3 k1 k2 k3 e4 k4 k5 k6 k7 fun g o1 c=>ih g o1 c (k8 g o1 c)
     exact h.elim
     exact h.elim
     exact h.elim
 | sp b a1 a2 TD TC=>
   intro gt l A K h H7
   cases l with
   | nil=>exact⟨_,h⟩
   | cons o l=>
     simp only[B6]at h
     cases b with
     | true=>exact TD (h.1 rfl)
     | false=>exact TC (h.2 rfl)
 | gt k ih=>
   intro gt l A K h H7
   cases l with
   | nil=>exact⟨_,h⟩
   | cons o l=>
     obtain⟨dst,op,ty,pos,after,B9⟩:=o
     simp only[B6]at h
     split at h
     rename_i j b
     split at h
     rename_i G hG
     exact nP rfl hG (fun _=>ih h.2) (fun hf=>by rw[h.1]at hf;cases hf)
     exact h.elim
     exact h.elim
 | gf v k ih=>
   intro gt l A K h H7
   cases l with
   | nil=>exact⟨_,h⟩
   | cons o l=>
     obtain⟨dst,op,ty,pos,after,B9⟩:=o
     simp only[B6]at h
     split at h
     rename_i j b
     split at h
     rename_i G hG hd
     exact nP rfl hG (fun ht=>by rw[h.1]at ht;cases ht) (fun _=>⟨dL hd,.gv false v,fun _ _=>⟨rfl,⟨(fun hh=>Bool.noConfusion hh),fun _=>rfl⟩⟩,ih h.2⟩)
     exact h.elim
     exact h.elim
 | cl c k ih=>
   intro gt l A K h H7
   cases l with
   | nil=>exact⟨_,h⟩
   | cons o l=>
     obtain⟨dst,op,ty,pos,after,B9⟩:=o
     simp only[B6]at h
     split at h
     exact h.elim
     show D3 P N _ A _
     split at h
     split at h
     rename_i C vs e1 e2 e3
     simp only[ZX,Zp]at e1
     obtain⟨⟨rfl,e1⟩,e4⟩:=e1
     obtain⟨k1,k2,k3,k4⟩:=h
     have hc:=c.ok k3
     rw[e2]at hc
     have hp:=hc.Bu
     refine EA (Q:=fun r=>r=c.res) rfl (dL e1) ⟨hp.1,fun w Pb cargs q1 q2=>?_⟩ e3 k1 k2 (fun r hr=>by rw[hr];exact e4) (fun r hr=>by rw[hr];exact ih k4)
     refine(hp.2 w Pb cargs q1 q2).mono ?_
     rintro e w' ⟨r,x,F,Pb',rfl,⟨H,q,_⟩,rest⟩
     exact⟨r,x,F,Pb',rfl,q,rest⟩
     exact h.elim
     exact h.elim
 | h x k ih=>
   intro gt l A K h H7
   cases l with
   | nil=>exact⟨_,h⟩
   | cons o l=>
     simp only[B6]at h
     split at h
     exact h.elim
     rename_i hg;exact qD hg ((yo h).mono fun B hB=>ih hB)
 | ot t k ih=>
   intro gt l A K h H7
   cases l with
   | nil=>exact⟨_,h⟩
   | cons o l=>
     simp only[B6]at h
     split at h
     exact h.elim
     rename_i hg
     split at h
     rename_i e1 e2;exact qD hg (zb (bu e1) e2 fun g o1 c=>ih g o1 c (h g o1 c))
     exact h.elim
 | oR r p k ih=>
   intro gt l A K h H7
   cases l with
   | nil=>exact⟨_,h⟩
   | cons o l=>
     simp only[B6]at h
     split at h
     exact h.elim
     rename_i hg
     split at h
     rename_i e1;exact qD hg (oX e1 fun g o1 c=>ih g o1 c (h g o1 c))
     exact h.elim
 | mv k ih=>
   intro gt l A K h H7
   cases l with
   | nil=>exact⟨_,h⟩
   | cons o l=>
     obtain⟨dst,op,ty,pos,after,B9⟩:=o
     simp only[B6]at h
     split at h
     exact h.elim
     show D3 P N _ A _
     split at h
     split at h
     rename_i e;exact AP rfl (dL e) (ih h)
     exact h.elim
     split at h
     rename_i d vs e1
     split at h
     rename_i v e2
     split at h
     rename_i e3
     simp only[ZX,Bool.not_eq_true',beq_eq_false_iff_ne]at e3
     exact wc rfl rfl (bu e3.1.1.1) (bu e3.1.1.2) e3.1.2 e1 e2 e3.2 (ih h)
     exact h.elim
     exact h.elim
     exact h.elim
     split at h
     rename_i d i r p g g' e1 e2
     split at h
     rename_i g2 Rg u e3
     split at h
     rename_i e4
     simp only[ZX,Zp]at e4
     obtain⟨hq,h⟩:=h
     simp only[ZV]at hq
     obtain⟨rfl,rfl⟩:=hq
     exact tE rfl rfl (bu e4.1.1) e1 e2 e3 e4.1.2 e4.2 (ih h)
     exact h.elim
     exact h.elim
     exact h.elim
     exact h.elim
 | c c ks k ih=>
   intro gt l A K h H7
   cases l with
   | nil=>exact⟨_,h⟩
   | cons o l=>
     obtain⟨dst,op,ty,pos,after,B9⟩:=o
     simp only[B6]at h
     split at h
     exact h.elim
     show D3 P N _ A _
     split at h
     split at h
     rename_i vs B e1 e2
     split at h
     rename_i e3
     simp only[ZX,Zp]at e3
     obtain⟨⟨⟨⟨h1,h2⟩,h3⟩,h4⟩,h5⟩:=e3
     subst h1
     obtain⟨k1,h⟩:=h
     obtain⟨k2,k3,k4⟩:=hZ h
     refine mz ks rfl e1 (dL h2) h3 h4 (c.ok k3) (by rw[e2];exact k1) (by rw[e2];exact h5) (by rw[e2];exact k2) ?_
     rintro r H' ⟨rfl,rfl⟩
     rw[e2];exact ih k4
     exact h.elim
     exact h.elim
     exact h.elim
 | cx c ks k ih=>
   intro gt l A K h H7
   cases l with
   | nil=>exact⟨_,h⟩
   | cons o l=>
     obtain⟨dst,op,ty,pos,after,B9⟩:=o
     simp only[B6]at h
     split at h
     exact h.elim
     show D3 P N _ A _
     split at h
     split at h
     rename_i vs B e1 e2
     split at h
     rename_i e3
     simp only[ZX,Zp]at e3
     obtain⟨⟨⟨⟨h1,h2⟩,h3⟩,h4⟩,h5⟩:=e3
     subst h1
     obtain⟨k1,h⟩:=h
     obtain⟨k2,k3,k4⟩:=hZ h
     refine mz ks rfl e1 (dL h2) h3 h4 (c.ok k3) (by rw[e2];exact k1) (by rw[e2];exact h5) (by rw[e2];exact k2) ?_
     rintro r H' ⟨x,hx,rfl,rfl⟩
     rw[e2];exact ih x (k4 x hx)
     exact h.elim
     exact h.elim
     exact h.elim
 | al z k ih=>
   intro gt l A K h H7
   cases l with
   | nil=>exact⟨_,h⟩
   | cons o l=>
     obtain⟨dst,op,ty,pos,after,B9⟩:=o
     simp only[B6]at h
     split at h
     exact h.elim
     show D3 P N _ A _
     split at h
     split at h
     rename_i e
     simp only[ZX,Zp]at e
     obtain⟨rfl,e⟩:=e
     exact pM rfl rfl (bu e) z.ok fun g=>ih g (h g)
     exact h.elim
     exact h.elim
 | bx k ih=>
   intro gt l A K h H7
   cases l with
   | nil=>exact⟨_,h⟩
   | cons o l=>
     obtain⟨dst,op,ty,pos,after,B9⟩:=o
     simp only[B6]at h
     split at h
     exact h.elim
     show D3 P N _ A _
     split at h
     split at h
     rename_i e
     simp only[ZX]at e
     exact Ii rfl rfl (bu e.1) e.2 fun g=>ih g (h g)
     exact h.elim
     exact h.elim
 | st QU k ih=>
   intro gt l A K h H7
   cases l with
   | nil=>exact⟨_,h⟩
   | cons o l=>
     obtain⟨dst,op,ty,pos,after,B9⟩:=o
     simp only[B6]at h
     split at h
     exact h.elim
     show D3 P N _ A _
     split at h
     split at h
     rename_i i r p g g' e1 e2
     split at h
     split at h
     rename_i g2 Rg u e3
     split at h
     rename_i e4
     simp only[ZX,Zp]at e4
     obtain⟨hq,h⟩:=h
     simp only[ZV]at hq
     obtain⟨rfl,rfl⟩:=hq
     exact vj rfl rfl e1 e2 e3 e4.1.1 e4.1.2 e4.2 (ih h)
     exact h.elim
     exact h.elim
     split at h
     rename_i u e4
     simp only[ZX,Zp]at e4
     exact vj rfl rfl e1 e2 h.1 e4.1.1 e4.1.2 e4.2 (ih h.2)
     exact h.elim
     exact h.elim
     exact h.elim
 | ap k ih=>
   intro gt l A K h H7
   cases l with
   | nil=>exact⟨_,h⟩
   | cons o l=>
     obtain⟨dst,op,ty,pos,after,B9⟩:=o
     simp only[B6]at h
     split at h
     exact h.elim
     show D3 P N _ A _
     split at h
     split at h
     rename_i t e1 e2
     split at h
     rename_i e3 e4
     simp only[ZX,Zp]at e1
     obtain⟨k1,k2,k3,k4,k5,k6⟩:=h
     obtain⟨e,e',q1,q2,q3,q4,q5,q6⟩:=gP e2
     exact zO rfl e1.1 rfl (bu e1.2) q1 q2 q3 (kC q4) q5 q6 e3 k1 e4 k2 k3 k4 k5 fun g o1 c=>ih g o1 c (k6 g o1 c)
     rename_i e3 e4
     split at h
     rename_i e5
     simp only[ZX,Zp]at e1
     obtain⟨k1,k2,k3,k4,k5,k6⟩:=h
     obtain⟨e,e',q1,q2,q3,q4,q5,q6⟩:=gP e2
     exact xB rfl e1.1 rfl (bu e1.2) q1 q2 q3 (kC q4) q5 q6 e5 k1.1 k1.2 e4 k2 k3 k4 k5 fun g o1 c=>ih g o1 c (k6 g o1 c)
     exact h.elim
     exact h.elim
     exact h.elim
     exact h.elim
 | bd z k ih=>
   intro gt l A K h H7
   cases l with
   | nil=>exact⟨_,h⟩
   | cons o l=>
     obtain⟨dst,op,ty,pos,after,B9⟩:=o
     simp only[B6]at h
     split at h
     exact h.elim
     split at h
     split at h
     rename_i zs e1 e2
     split at h
     rename_i v e3
     simp only[ZX,Zp]at e1
     obtain⟨rfl,e1⟩:=e1
     have hz:=z.ok
     rw[e2]at hz
     exact Ei zs v hz (dL e1) e3 (ih h)
     exact h.elim
     exact h.elim
     exact h.elim
 | bs k ih=>
   intro gt l A K h H7
   cases l with
   | nil=>exact⟨_,h⟩
   | cons o l=>
     obtain⟨dst,op,ty,pos,after,B9⟩:=o
     simp only[B6]at h
     split at h
     exact h.elim
     split at h
     split at h
     rename_i e e1
     split at h
     rename_i i vs e2 e3
     split at h
     rename_i e4
     simp only[ZX]at e4
     exact wb e i vs ⟨e1,e2⟩ (dL e4.2) e3 e4.1 (ih h)
     exact h.elim
     exact h.elim
     exact h.elim
     exact h.elim
 | J9 bs k ih=>
   intro gt l A K h H7
   cases l with
   | nil=>exact⟨_,h⟩
   | cons o l=>
     obtain⟨dst,op,ty,pos,after,B9⟩:=o
     simp only[B6]at h
     split at h
     exact h.elim
     split at h
     split at h
     rename_i C ys e1 e2
     simp only[ZX]at e1
     obtain⟨hC,rfl,h⟩:=h
     obtain⟨e,q1,q2⟩:=uu e1.1.1
     exact yy e C bs ⟨q1,q2,rh e1.1.2⟩ (dL e1.2) e2 hC (ih h)
     exact h.elim
     exact h.elim
 | sb bs k ih=>
   intro gt l A K h H7
   cases l with
   | nil=>exact⟨_,h⟩
   | cons o l=>
     obtain⟨dst,op,ty,pos,after,B9⟩:=o
     simp only[B6]at h
     split at h
     exact h.elim
     split at h
     split at h
     rename_i e1
     simp only[ZX]at e1
     obtain⟨e,q1,q2⟩:=uu e1.1.2
     exact yK e bs ⟨rh e1.1.1,q1,q2⟩ (bu e1.2) h.1 fun g c=>ih g c (h.2 g c)
     exact h.elim
     exact h.elim
 | mm k ih=>
   intro gt l A K h H7
   cases l with
   | nil=>exact⟨_,h⟩
   | cons o l=>
     obtain⟨dst,op,ty,pos,after,B9⟩:=o
     simp only[B6]at h
     split at h
     exact h.elim
     split at h
     split at h
     rename_i kd p PZ q e1 e2 e3
     obtain⟨rfl,h⟩:=h
     exact Jz _ p q (dL e3) e1 e2 (ih h)
     rename_i kd p PZ q e1 e2 e3
     obtain⟨rfl,h⟩:=h
     exact JP _ p q (dL e3) e1 e2 (ih h)
     exact h.elim
     exact h.elim
 | rs k ih=>
   intro gt l A K h H7
   cases l with
   | nil=>exact⟨_,h⟩
   | cons o l=>
     obtain⟨dst,op,ty,pos,after,B9⟩:=o
     simp only[B6]at h
     split at h
     exact h.elim
     split at h
     split at h
     rename_i e1 e2 e3
     obtain⟨hq,⟨h1,h2,h3⟩,h⟩:=h
     simp only[ZV]at hq
     obtain⟨rfl,rfl,rfl,rfl⟩:=hq
     exact Bc _ _ _ _ (bu e3) e1 e2 h1 h2 h3 (ih h)
     exact h.elim
     exact h.elim
 | _=>
   intro gt l A K h H7
   cases l with
   | nil=>exact⟨_,h⟩
   | cons o l=>simp only[B6]at h;split at h <;> exact h.elim
end
section
variable {P:Program} {N:Nat} {ops:Array Oper} {A A' A1 B:AS}
def mi(P:Program)(N:Nat)(ops:Array Oper)(o:Oper)(A:AS)(v:V):Prop:=
 ∀ A':AS,(∀ t,t∈o.looksAt ops->A'.get t=A.get t)->gd ops o A' (D3 P N o A' (fun B=>B8 B (A'.put o.dst v))) (bX N o.dst/\∀ w Pb,RV w Pb v undef [])
theorem xi{o:Oper}{x:Operand}(hg:o.guard=none)(ho:o.op=.assign x)(hd:bX N o.dst)(hn:(A.ev x).cB=false):mi P N ops o A (A.ev x):=by
 intro A' h1
 unfold gd
 rw[hg]
 simp only
 have e1:A'.ev x=A.ev x:=bb fun t ht=>h1 t (dS (by rw[ho,ht];simp[Op.operands]))
 have e2:A'.drop x=A':=by
  cases x with
  | tmp t=>
    have e3:A'.get t=A.get t:=e1
    have Qg:(A.get t).cB=false:=hn
    simp[AS.drop,e3,Qg]
  | _=>rfl
 rw[<- e1]
 refine sE ho hd ?_
 rw[e2]
 exact⟨fun _=>rfl,fun _=>rfl⟩
theorem Bb{d:Option Nat} {f:FuncId} {xs:Array Operand} {J4:Array TypeId} {ty:TypeId} {pos:String} {after:Array Edge}
 {Q:V->Prop} {E:V} (hd:bX N d) (hc:PC P f (xs.toList.map A.cp) Q) (hE:∀ r,Q r->r.er=E):
 mi P N ops ⟨d,.call { callee:=.value (.func f),args:=xs,argTypes:=J4 },ty,pos,after,none⟩ A E:=fun A' h1=>by
 unfold gd
 refine mT rfl hd ?_ hE ⟨fun _=>rfl,fun _=>rfl⟩
 rw[pV fun t ht=>h1 t (dS (by simp[Op.operands,Call.operands];simpa using ht))]
 exact hc
theorem rR{d:Option Nat} {T len ty:Nat} {a8:Array (Nat×Operand)} {pos:String} {after:Array Edge} (e:Nat) (i:TI) (vs:List V)
 (P6:tD P T=some (.sl e)/\ti P e=some i) (hd:bX N d) (P5:ey A 0 a8.toList=some vs) (hB:QP P T e len i vs=true):
 mi P N ops ⟨d,.buildSlice T len a8,ty,pos,after,none⟩ A (.sl true vs):=fun A' h1=>by
 show D3 P N _ A' _
 refine BP rfl hd P6.1 P6.2 ?_ hB ⟨fun _=>rfl,fun _=>rfl⟩
 rw[mU (A:=A) _ _ (fun t ht=>h1 t (dS (by simpa[Op.operands] using ht)))]
 exact P5
theorem yD{d:Option Nat} {T ty:Nat} {a8:Array (Nat×Operand)} {pos:String} {after:Array Edge} (zs:List V) (v:V)
 (hz:lU P T (.agg zs)) (hd:bX N d) (hb:kr P A T zs a8.toList=some v):mi P N ops ⟨d,.build T a8,ty,pos,after,none⟩ A v:=fun A' h1=>by
 show D3 P N _ A' _
 have e:kr P A' T zs a8.toList=some v:=by
  rw[<- hb]
  unfold kr
  have:(a8.toList.map fun (i,x)=>(i,A'.cp x))=a8.toList.map fun (i,x)=>(i,A.cp x):=by
   apply List.map_congr_left
   rintro⟨i,x⟩ hx
   simp only
   rw[jN (x:=x) fun t ht=>h1 t (dS (by
    subst ht
    simp only[Op.operands,List.mem_map]
    exact⟨(i,.tmp t),hx,rfl⟩))]
  rw[this]
 obtain⟨C,k1,k2⟩:=vZ e
 exact vS rfl hd hz k1 k2 ⟨fun _=>rfl,fun _=>rfl⟩
theorem ud{d:Option Nat} {src dst ty:Nat} {x:Operand} {pos:String} {after:Array Edge} (e:Nat) (full:Bool) (bs:BL)
 (ht:tD P src=some (.sl e)/\tD P e=some (.int .u8)/\tD P dst=some .str) (hd:bX N d) (hx:A.ev x=.sl full (bs.map m7)):
 mi P N ops ⟨d,.convert src dst x,ty,pos,after,none⟩ A (sV bs):=fun A' h1=>by
 show D3 P N _ A' _
 have e1:A'.ev x=.sl full (bs.map m7):=by rw[<- hx];exact bb fun t ht=>h1 t (dS (by rw[ht];simp[Op.operands]))
 exact qd rfl hd ht.1 ht.2.1 ht.2.2 (C:=True) (by simp only[Nw,e1]) trivial ⟨fun _=>rfl,fun _=>rfl⟩
def gL(b:Option (Sum Nat (Nat×List Nat)))(B:AS):AS:=match b with
 | none=>B
 | some (.inl t)=>B.put (some t) .b7
 | some (.inr (k,p))=>B.setAt (.key k) p .b7
def Ud(A:AS)(s:Operand)(sz:Nat):Option (Prop×Option (Sum Nat (Nat×List Nat))×List V):=
 match s with
 | .const (.slice none 0 0)=>some (True,none,[])
 | .tmp t=>match A.get t with
   | .sl true []=>some (True,none,[])
   | .own I2 xs _ _ _=>some (I2=sz,some (.inl t),xs)
   | .hd (.slot i) [] I2 g o 0 n c=>match A.get i with
     | .own Mj xs g2 o2 c2=>some ((I2,Mj,g2,o2,c2,n)=(sz,sz,g,o,c,xs.length),some (.inl i),xs)
     | _=>none
   | .hd (.key k) p I2 g o 0 n c=>match A.at (.key k) p with
     | some (_,_,.own Mj xs g2 o2 c2)=>some ((I2,Mj,g2,o2,c2,n)=(sz,sz,g,o,c,xs.length),some (.inr (k,p)),xs)
     | _=>none
   | _=>none
 | _=>none
theorem Hh{s:Operand}{sz:Nat}{C:Prop}{b:Option (Sum Nat (Nat×List Nat))}{xs:List V}(h:Ud A s sz=some (C,b,xs)):Ue A s sz=some (C,gL b A,xs):=by
 have fin:∀ {C':Prop} {b':Option (Sum Nat (Nat×List Nat))} {xs':List V},some (C',b',xs')=some (C,b,xs)->some (C',gL b' A,xs')=some (C,gL b A,xs):=fun h=>by
  have h:=Option.some.inj h;have h1:=(Prod.mk.inj h).1;have h2:=(Prod.mk.inj (Prod.mk.inj h).2).1;have h3:=(Prod.mk.inj (Prod.mk.inj h).2).2;rw[h1,h2,h3]
 unfold Ud at h
 unfold Ue
 split at h
 exact fin h
 split at h
 rename_i e;(try simp only[e]);exact fin h
 rename_i e;(try simp only[e]);exact fin h
 rename_i e;(try simp only[e])
 split at h
 rename_i e2;(try simp only[e2]);exact fin h
 simp at h
 rename_i e;(try simp only[e])
 split at h
 rename_i e2;(try simp only[e2]);exact fin h
 simp at h
 simp at h
 simp at h
def ng(s:Operand)(Sl El Hl:List Nat):Option (Sum Nat (Nat×List Nat))->Bool
 | none=>true
 | some (.inl t)=>Sl.contains t&&(match s with | .tmp q=>q==t||El.contains t | _=>false)
 | some (.inr (k,_))=>Hl.contains k
theorem CD{s:Operand} {sz:Nat} {C:Prop} {b:Option (Sum Nat (Nat×List Nat))} {xs:List V} {Sl El Hl:List Nat} (h:Ud A s sz=some (C,b,xs)) (hb:ng s Sl El Hl b=true)
 (h1:∀ t,s=.tmp t->A'.get t=A.get t) (h2:∀ t,t∈El->A'.get t=A.get t) (h3:∀ k,lk k A'.h=lk k A.h):Ud A' s sz=some (C,b,xs):=by
 unfold Ud at h ⊢
 split at h
 exact h
 rename_i t
 have hg:=h1 t rfl
 have hk:∀ k p,A'.at (.key k) p=A.at (.key k) p:=fun k p=>by simp only[AS.at,h3]
 simp only[hg,hk]
 split at h
 exact h
 exact h
 rename_i i I2 g o n c e
 split at h
 rename_i Mj xs2 g2 o2 c2 e2
 have:A'.get i=A.get i:=by
  simp only[ZY]at h
  obtain⟨_,h⟩:=Prod.mk.inj h;obtain⟨rfl,_⟩:=Prod.mk.inj h
  simp only[ng,ZX,Bool.or_eq_true,Zp]at hb
  rcases hb.2 with q | q
  rw[<- q];exact hg
  exact h2 i (by simpa using q)
 simp only[this,e2];exact h
 simp at h
 exact h
 simp at h
 simp at h
def AI(P:Program)(N:Nat)(Sl El Hl:List Nat)(o:Oper)(A:AS)(z:Option (ZT P)):Option (Prop×(Nat×Nat×Nat->AS->AS)):=
 match o.op,o.dst with
 | .alloc T,some d=>match z with
   | some z=>match T==z.T&&Nat.blt d N&&Sl.contains d&&Hl.contains d with
     | true=>some (True,fun gh B=>⟨(d,.ptr (.key d) [] gh.1 0)::B.t,(d,(gh.1,z.v))::B.h⟩)
     | false=>none
   | none=>none
 | .call ⟨.builtin .append,⟨[s,x]⟩,⟨[T,T2]⟩⟩,some d=>match o.type==T&&Nat.blt d N&&Sl.contains d,lK P T T2 with
   | true,some t=>match Ud A s t.sz,A.ev x with
     | some (C,b,xs),.sl _ ys=>match ng s Sl El Hl b with
       | true=>some (C/\V.ay ys=false/\aC t.sz ys/\(xs.length+ys.length)*t.J9<=140737488355328,fun gh B=>(gL b B).put (some d) (.own t.sz (xs++ys) gh.1 gh.2.1 gh.2.2))
       | false=>none
     | none,.sl _ ys=>match Tn A s t.sz with
       | some (C,xs)=>some ((C/\0<ys.length)/\V.ay ys=false/\aC t.sz ys/\(xs.length+ys.length)*t.J9<=140737488355328,fun gh B=>B.put (some d) (.own t.sz (xs++ys) gh.1 gh.2.1 gh.2.2))
       | none=>none
     | _,_=>none
   | _,_=>none
 | .load T x,some d=>match ti P T,A.ev x with
   | some i,.ptr (.key k) p g g'=>match A.at (.key k) p with
     | some (g2,Rg,u)=>match Nat.blt d N&&u.n==i.sz&&i.d.agg==u.isAgg&&Sl.contains d&&Hl.contains k with
       | true=>some ((g2,Rg)=(g,g'),fun _ B=>(B.setAt (.key k) p u.kill).put (some d) u)
       | false=>none
     | none=>none
   | _,_=>none
 | _,_=>none
theorem bN{k:Nat}{p:List Nat}{v:V}{t:Nat}:(B.setAt (.key k) p v).get t=B.get t:=by
 simp only[AS.setAt];split <;> rfl
theorem ri{k q:Nat}{p:List Nat}{v:V}(h:q≠k):lk q (B.setAt (.key k) p v).h=lk q B.h:=by
 simp only[AS.setAt];split
 simp only[lk];rw[if_neg h]
 rfl
theorem gz{k q:Nat}{p:List Nat}{v:V}{B':AS}(h:∀ k,lk k B.h=lk k B'.h):lk q (B.setAt (.key k) p v).h=lk q (B'.setAt (.key k) p v).h:=by
 simp only[AS.setAt]
 rw[<- h k]
 split
 simp only[lk];split
 rfl
 exact h q
 exact h q
theorem lA{B C:AS}{d:Option Nat}{v:V}(h:B8 B C):B8 (B.put d v) (C.put d v):=by
 cases d with
 | none=>exact h
 | some d'=>exact⟨fun t=>by rw[AS.au,AS.au];split
                            rfl
                            exact h.1 t,h.2⟩
theorem oI{k k0:Nat}{p:List Nat}{v:V}{gv:Nat×V}(h:k≠k0):B8 (AS.setAt ⟨B.t,(k,gv)::B.h⟩ (.key k0) p v) ⟨(B.setAt (.key k0) p v).t,(k,gv)::(B.setAt (.key k0) p v).h⟩:=by
 have e:lk k0 ((k,gv)::B.h)=lk k0 B.h:=by simp only[lk];rw[if_neg (Ne.symm h)]
 simp only[AS.setAt,e]
 split
 refine⟨fun _=>rfl,fun x=>?_⟩
 simp only[lk]
 by_cases c:x=k
 rw[if_pos c,if_neg (fun c2=>h (c.symm.trans c2)),if_pos c]
 rw[if_neg c,if_neg c]
 exact⟨fun _=>rfl,fun _=>rfl⟩
theorem rJ{A B:AS}{k:Nat}{gv:Nat×V}{d:Nat}{v:V}(h:B8 A ⟨B.t,(k,gv)::B.h⟩):B8 (A.put (some d) v) ⟨(B.put (some d) v).t,(k,gv)::(B.put (some d) v).h⟩:=lA h
theorem Ih{Sl El Hl:List Nat}{o:Oper}{z:Option (ZT P)}{C:Prop}{U:Nat×Nat×Nat->AS->AS}(h:AI P N Sl El Hl o A z=some (C,U))(hC:C)(d:Nat)(hd:o.dst=some d):
 UOk U Sl Hl d/\KX P N ops El U o A:=by
 obtain⟨dst,op,ty,pos,after,B9⟩:=o
 simp only at hd;subst hd
 unfold AI at h
 simp only at h
 split at h
 rename_i T d' e
 simp only[ZY]at e;subst e
 split at h
 rename_i z
 split at h
 rename_i e
 simp only[ZY,ZV]at h
 obtain⟨_,rfl⟩:=h
 simp only[ZX,Zp,Zs,Zq]at e
 obtain⟨⟨⟨rfl,e1⟩,e2⟩,e3⟩:=e
 refine⟨⟨fun gh B t ht=>?_,fun gh B k hk=>?_,fun gh B B' hB=>⟨fun t=>?_,fun k=>?_⟩,fun gh B t v ht=>⟨fun q=>?_,fun k=>rfl⟩,fun gh B v=>⟨fun q=>?_,fun k=>rfl⟩,fun gh B k gv hq=>?_⟩,fun A' _ _ K hK=>?_⟩
 simp only[AS.get,lk];rw[if_neg (fun c=>ht (by rw[c];exact e2))]
 simp only[lk];rw[if_neg (fun c=>hk (by rw[c];exact e3))]
 simp only[AS.get,lk];split
 rfl
 exact hB.1 t
 simp only[lk];split
 rfl
 exact hB.2 k
 simp only[AS.put,AS.get,lk]
 by_cases c:q=d
 subst c;rw[if_pos rfl,if_neg (fun c=>ht (by rw[<- c];exact e2)),if_pos rfl]
 rw[if_neg c,if_neg c]
 simp only[AS.put,AS.get,lk]
 by_cases c:q=d
 subst c;simp
 rw[if_neg c,if_neg c,if_neg c]
 refine⟨fun _=>rfl,fun x=>?_⟩
 simp only[lk]
 by_cases c:x=d
 rw[if_pos c,if_neg (fun c2=>hq (by rw[<- c2,c];exact e3)),if_pos c]
 rw[if_neg c,if_neg c]
 exact pM rfl rfl (bu e1) z.ok fun g=>hK (g,0,0)
 simp at h
 simp at h
 rename_i s x T T2 d' e
 simp only[ZY]at e;subst e
 split at h
 rename_i t e1 e2
 split at h
 rename_i Cb b xs fl ys e3 e4
 split at h
 rename_i e5
 simp only[ZY,ZV]at h
 obtain⟨rfl,rfl⟩:=h
 simp only[ZX,Zp,Zs,Zq]at e1
 obtain⟨⟨rfl,e1⟩,e6⟩:=e1
 obtain⟨k1,k3,k4,k5⟩:=hC
 have tg:∀ (B:AS) t,t ∉ Sl->(gL b B).get t=B.get t:=fun B t ht=>by
  cases b with
  | none=>rfl
  | some b=>cases b with
    | inl q=>
      simp only[ng,ZX,Zs,Zq]at e5
      simp only[gL];rw[AS.au,if_neg (fun c=>ht (by rw[c];exact e5.1))]
    | inr kp=>simp only[gL];exact bN
 have VP:∀ (B B':AS) t,B.get t=B'.get t->(gL b B).get t=(gL b B').get t:=fun B B' t ht=>by
  cases b with
  | none=>exact ht
  | some b=>cases b with
    | inl q=>simp only[gL];rw[AS.au,AS.au,ht]
    | inr kp=>simp only[gL];rw[bN,bN];exact ht
 have th:∀ (B B':AS) k,(∀ k,lk k B.h=lk k B'.h)->lk k (gL b B).h=lk k (gL b B').h:=fun B B' k hk=>by
  cases b with
  | none=>exact hk k
  | some b=>cases b with
    | inl q=>exact hk k
    | inr kp=>exact gz hk
 refine⟨⟨fun gh B q hq=>?_,fun gh B k hk=>?_,fun gh B B' hB=>?_,fun gh B q v hq=>⟨fun q2=>?_,fun k=>th _ _ k fun _=>rfl⟩,fun gh B v=>⟨fun q=>?_,fun k=>th _ _ k fun _=>rfl⟩,fun gh B k gv hq=>?_⟩,fun A' h1 h2 K hK=>?_⟩
 rw[AS.au,if_neg (fun c=>hq (by rw[c];exact e6))];exact tg B q hq
 show lk k (gL b B).h=_
 cases b with
 | none=>rfl
 | some b=>cases b with
   | inl q=>rfl
   | inr kp=>
     obtain⟨k0,p0⟩:=kp
     simp only[ng,Zs,Zq]at e5
     exact ri (fun c=>hk (by rw[c];exact e5))
 exact lA ⟨fun q=>VP _ _ q (hB.1 q),fun k=>th _ _ k hB.2⟩
 rw[AS.au,AS.au,AS.au]
 by_cases c:q2=d
 subst c;rw[if_pos rfl,if_neg (fun c=>hq (by rw[<- c];exact e6)),if_pos rfl]
 rw[if_neg c]
 by_cases c2:q2=q
 subst c2;rw[if_pos rfl,tg _ _ hq,AS.au,if_pos rfl]
 rw[if_neg c2,if_neg c];exact VP _ _ _ (by rw[AS.au,if_neg c2])
 rw[AS.au,AS.au]
 by_cases c:q=d
 rw[if_pos c,if_pos c]
 rw[if_neg c,if_neg c];exact VP _ _ _ (by rw[AS.au,if_neg c])
 refine rJ ?_
 cases b with
 | none=>exact⟨fun _=>rfl,fun _=>rfl⟩
 | some b=>cases b with
   | inl q=>exact⟨fun _=>rfl,fun _=>rfl⟩
   | inr kp=>
     obtain⟨k0,p0⟩:=kp
     simp only[ng,Zs,Zq]at e5
     exact oI (fun c=>hq (by rw[c];exact e5))
 obtain⟨e,e',q1,q2,q3,q4,q5,q6⟩:=gP e2
 have hs:∀ t,s=.tmp t->A'.get t=A.get t:=fun t ht=>h1 t (.inl (dS (by subst ht;simp[Op.operands,Call.operands])))
 have hx:A'.ev x=A.ev x:=bb fun t ht=>h1 t (.inl (dS (by subst ht;simp[Op.operands,Call.operands])))
 have Pz:=Hh (CD e3 e5 hs (fun t ht=>h1 t (.inr ht)) h2)
 exact zO rfl rfl rfl (bu e1) q1 q2 q3 (kC q4) q5 q6 Pz k1 (by unfold Nw;rw[hx,e4]) trivial k3 k4 k5 fun g o1 c=>hK (g,o1,c)
 simp at h
 rename_i fl ys e3 e4
 split at h
 rename_i C0 xs e5
 simp only[ZY,ZV]at h
 obtain⟨rfl,rfl⟩:=h
 simp only[ZX,Zp,Zs,Zq]at e1
 obtain⟨⟨rfl,e1⟩,e6⟩:=e1
 obtain⟨⟨k1,k2⟩,k3,k4,k5⟩:=hC
 refine⟨⟨fun gh B q hq=>?_,fun gh B k hk=>rfl,fun gh B B' hB=>lA hB,fun gh B q v hq=>⟨fun q2=>?_,fun k=>rfl⟩,fun gh B v=>⟨fun q=>?_,fun k=>rfl⟩,fun gh B k gv hq=>⟨fun _=>rfl,fun _=>rfl⟩⟩,fun A' h1 h2 K hK=>?_⟩
 rw[AS.au,if_neg (fun c=>hq (by rw[c];exact e6))]
 rw[AS.au,AS.au,AS.au,AS.au]
 by_cases c:q2=d
 subst c;rw[if_pos rfl,if_neg (fun c=>hq (by rw[<- c];exact e6)),if_pos rfl]
 rw[if_neg c,if_neg c]
 rw[AS.au,AS.au,AS.au]
 split <;> rfl
 obtain⟨e,e',q1,q2,q3,q4,q5,q6⟩:=gP e2
 have hs:Tn A' s t.sz=Tn A s t.sz:=by
  cases s with
  | tmp q=>simp only[Tn,h1 q (.inl (dS (by simp[Op.operands,Call.operands])))]
  | _=>rfl
 have hx:A'.ev x=A.ev x:=bb fun t ht=>h1 t (.inl (dS (by subst ht;simp[Op.operands,Call.operands])))
 exact xB rfl rfl rfl (bu e1) q1 q2 q3 (kC q4) q5 q6 (by rw[hs];exact e5) k1 k2 (by unfold Nw;rw[hx,e4]) trivial k3 k4 k5 fun g o1 c=>hK (g,o1,c)
 simp at h
 simp at h
 simp at h
 rename_i T x d' e
 simp only[ZY]at e;subst e
 split at h
 rename_i i k p g g' e1 e2
 split at h
 rename_i g2 Rg u e3
 split at h
 rename_i e4
 simp only[ZY]at h
 obtain⟨hq,rfl⟩:=Prod.mk.inj h
 subst hq
 obtain⟨rfl,rfl⟩:=Prod.mk.inj hC
 simp only[ZX,Zp,Zs,Zq]at e4
 obtain⟨⟨⟨⟨e4,e5⟩,e6⟩,e7⟩,e8⟩:=e4
 refine⟨⟨fun gh B q hq=>?_,fun gh B q hq=>?_,fun gh B B' hB=>?_,fun gh B q v hq=>⟨fun q2=>?_,fun k=>gz fun _=>rfl⟩,fun gh B v=>⟨fun q=>?_,fun k=>gz fun _=>rfl⟩,fun gh B k gv hq=>rJ (oI (fun c=>hq (by rw[c];exact e8)))⟩,fun A' h1 h2 K hK=>?_⟩
 rw[AS.au,if_neg (fun c=>hq (by rw[c];exact e7))];exact bN
 exact ri (fun c=>hq (by rw[c];exact e8))
 exact lA ⟨fun q=>by rw[bN,bN];exact hB.1 q,fun k=>gz hB.2⟩
 rw[AS.au,AS.au,AS.au]
 by_cases c:q2=d
 subst c;rw[if_pos rfl,if_neg (fun c=>hq (by rw[<- c];exact e7)),if_pos rfl]
 rw[if_neg c]
 by_cases c2:q2=q
 subst c2;rw[if_pos rfl,bN,AS.au,if_pos rfl]
 rw[if_neg c2,if_neg c,bN,bN,AS.au,if_neg c2]
 rw[AS.au,AS.au]
 by_cases c:q=d
 rw[if_pos c,if_pos c]
 rw[if_neg c,if_neg c,bN,bN,AS.au,if_neg c]
 have hx:A'.ev x=A.ev x:=bb fun t ht=>h1 t (.inl (dS (by subst ht;simp[Op.operands])))
 exact tE rfl rfl (bu e4) e1 (by rw[hx];exact e2) (by simp only[AS.at,h2];simpa only[AS.at] using e3) e5 e6 (hK (0,0,0))
 simp at h
 simp at h
 simp at h
 simp at h
end
section
variable {P:Program} {N:Nat} {ops:Array Oper} {A A' A1 B:AS} {sp:Nat} {Sl El Hl:List Nat} {U:Nat×Nat×Nat->AS->AS}
theorem Hp{d:Option Nat}{xs:Array Operand}{J4:Array TypeId}{ty:TypeId}{pos:String}{after:Array Edge}(c:o8 P)(hd:bX N d)(hH:c.H=[])(k1:Mw (xs.toList.map A.cp) c.args=c.args)(k2:c.pre):
 mi P N ops ⟨d,.call { callee:=.value (.func c.f),args:=xs,argTypes:=J4 },ty,pos,after,none⟩ A c.res.er:=by
 have hc:=c.ok k2
 rw[hH]at hc
 have hp:=hc.Bu
 refine Bb (Q:=fun r=>r=c.res) hd ?_ (fun r hr=>by rw[hr])
 refine⟨hp.1,fun w Pb cargs q1 q2=>?_⟩
 refine(hp.2 w Pb cargs q1 (by have:=nn _ c.args q2;rw[k1]at this;exact this)).mono ?_
 rintro e w' ⟨r,x,F,Pb',rfl,⟨H,q,_⟩,rest⟩
 exact⟨r,x,F,Pb',rfl,q,rest⟩
end
def XJ(A:AS)(l:List Nat)(k:Nat):List Nat->Bool
 | [i]=>Nat.blt i 100&&l.contains (hM+(100*k+i))&&(LY A.h (100*k+i)).isSome
 | _=>false
def Up(Hl prom:List Nat):Bool:=Hl.all fun x=>Nat.blt x hM||prom.contains (x-hM)
theorem sN{Hl prom:List Nat}{q:Nat}(h:Up Hl prom=true)(hq:hM+q∈Hl):q∈prom:=by
 have:=ZI.1 h _ hq
 rw[Bool.or_eq_true]at this
 rcases this with h | h
 exfalso
 have:hM+q<hM:=by simpa[Nat.blt_eq] using h
 omega
 rw[Nat.add_sub_cancel_left]at h
 simpa using h
def Bv(a b:List Nat):Bool:=a.all fun x=>b.contains x&&Nat.blt x hM
theorem ID{a b:List Nat}{A A':AS}(h:Bv a b=true)(h2:Rj A' A (some b)):∀ k,k∈a->lk k A'.h=lk k A.h:=fun k hk=>by
 have:=ZI.1 h k hk
 rw[ZX]at this
 have h3:=h2 k (by simpa using this.1)
 unfold O7 at h3
 rw[if_pos this.2]at h3
 exact h3
theorem Dz{A:AS}{k i g o n:Nat}{v:V}(h:LY A.h (100*k+i)=some (g,o,v,n))(hi:i<100):∃ sz xs g1 o1 c,v=.own sz [] g1 o1 c/\n=xs.length/\A.at (.key k) [i]=some (g,o,.own sz xs g1 o1 c):=by
 unfold LY at h
 rw[show (100*k+i) / 100=k from Z9,show (100*k+i) % 100=i from Z9]at h
 split at h
 rename_i g0 v0 e
 split at h
 rename_i g' o' sz xs g1 o1 c e2
 simp only[ZY,ZV]at h
 obtain⟨rfl,rfl,rfl,rfl⟩:=h
 exact⟨sz,xs,g1,o1,c,rfl,rfl,by simp only[AS.at,e,e2]⟩
 cases h
 cases h
theorem GP{A A':AS}{k i g o:Nat}{T:TI}(h:LY A'.h (100*k+i)=LY A.h (100*k+i))(hi:i<100)(hs:(LY A.h (100*k+i)).isSome=true):
 jw A' (some T) (.ptr (.key k) [i] g o)=jw A (some T) (.ptr (.key k) [i] g o):=by
 obtain⟨⟨g1,o1,v,n⟩,e⟩:=Option.isSome_iff_exists.1 hs
 obtain⟨sz,xs,g2,o2,c,rfl,rfl,e1⟩:=Dz e hi
 obtain⟨I2,xs',Rg,o2',c',h1,h2,e2⟩:=Dz (h.trans e) hi
 cases h1
 simp only[jw,e1,e2,V.Po,h2,V.n,V.isAgg]
def kQ(El:List Nat)(fr:Option (List Nat))(A:AS):Op->Bool
 | .load _ x=>match A.ev x with
   | .ptr (.slot i) _ _ _=>El.contains i
   | .ptr (.key k) p _ _=>match fr with
     | none=>true
     | some l=>(Nat.blt k hM&&l.contains k)||XJ A l k p
   | _=>true
 | _=>true
def eE(A:AS):List Operand->List Nat
 | []=>[]
 | x::xs=>match x with
   | .tmp t=>match (A.get t).cB with
     | true=>t::eE (A.drop x) xs
     | false=>eE (A.drop x) xs
   | _=>eE (A.drop x) xs
def iG(ts:List Nat)(A:AS):AS:=⟨ts.map (fun t=>(t,V.b7))++A.t,A.h⟩
def sub(a b:List Nat):Bool:=a.all fun x=>b.contains x
def uR(ops:Array Oper)(tb:List (Nat×OO)){P:Program}(zs:List (Nat×ZT P))(i:Nat)(o:Oper):Bool:=
 (lk i zs).isNone&&!(ba ops tb i).Va&&(ba ops tb i).Sl==o.dst.toList&&(ba ops tb i).Hl==[]
def me(P:Program)(N:Nat)(ops:Array Oper)(tb:List (Nat×OO))(zs:List (Nat×ZT P)):Nat->List Nat->List V->AS->Option (Prop×AS)
 | 0,_,_,A=>some (True,A)
 | _+1,[],_,A=>some (True,A)
 | n+1,i::rest,u9,A=>
   match ops[i]? with
   | none=>none
   | some o=>match uR ops tb zs i o with
     | false=>none
     | true=>match o.dst with
       | none=>none
       | some d=>if d<N then
         match o.guard with
         | some (j,b)=>match MQ A ops j b with
           | some G=>match AS.un G (gH o.op) A with
             | (C0,B)=>match sY P B o.op u9 with
               | some (C,v,u9)=>if (OB N (gH o.op)&&!v.fH&&kQ (ba ops tb i).El (ba ops tb i).fr B o.op)=true then match me P N ops tb zs n rest u9 (A.put (some d) (.gv G v)) with
                 | some (C',A')=>some ((G=true->C0/\C)/\C',A')
                 | none=>none else none
               | none=>none
           | none=>none
         | none=>match o.op with
           | .assign x=>if (A.ev x).cB=false then me P N ops tb zs n rest u9 (A.put (some d) (A.ev x)) else none
           | op=>if kQ (ba ops tb i).El (ba ops tb i).fr A op=true then match sY P A op u9 with
             | some (C,v,u9)=>match me P N ops tb zs n rest u9 (A.put (some d) v) with
               | some (C',A')=>if kH op=true then some (C',A') else some (C/\C',A')
               | none=>none
             | none=>none else none
         else none
def mF(P:Program)(N:Nat)(ops:Array Oper)(tb:List (Nat×OO))(zs:List (Nat×ZT P)):Nat->List Nat->List V->AS->Option (List Prop×AS)
 | 0,_,_,A=>some ([],A)
 | _+1,[],_,A=>some ([],A)
 | n+1,i::rest,u9,A=>
   match ops[i]? with
   | none=>none
   | some o=>match uR ops tb zs i o with
     | false=>none
     | true=>match o.dst with
       | none=>none
       | some d=>if d<N then
         match o.guard with
         | some (j,b)=>match MQ A ops j b with
           | some G=>match Ps G (j,b) [] (gH o.op) A with
             | (C0,B)=>match sY P B o.op u9 with
               | some (C,v,u9)=>if (OB N (gH o.op)&&!v.fH&&kQ (ba ops tb i).El (ba ops tb i).fr B o.op)=true then match mF P N ops tb zs n rest u9 (A.put (some d) (.gv G v)) with
                 | some (C',A')=>some (C0++(if kH o.op=true then C' else (G=true->C)::C'),A')
                 | none=>none else none
               | none=>none
           | none=>none
         | none=>match o.op with
           | .assign x=>if (A.ev x).cB=false then mF P N ops tb zs n rest u9 (A.put (some d) (A.ev x)) else none
           | op=>if kQ (ba ops tb i).El (ba ops tb i).fr A op=true then match sY P A op u9 with
             | some (C,v,u9)=>match mF P N ops tb zs n rest u9 (A.put (some d) v) with
               | some (C',A')=>if kH op=true then some (C',A') else some (C::C',A')
               | none=>none
             | none=>none else none
         else none
section
variable {P:Program} {N:Nat} {ops:Array Oper} {tb:List (Nat×OO)} {zs:List (Nat×ZT P)}
theorem oC:∀ (n:Nat) {l:List Nat} {u9:List V} {A A':AS} {cs:List Prop},mF P N ops tb zs n l u9 A=some (cs,A')->(∀ c,c∈cs->c)->∃ C,me P N ops tb zs n l u9 A=some (C,A')/\C
 | 0,l,u9,A,A',cs,h,hc=>by
   simp only[mF,ZY,ZV]at h
   obtain⟨_,rfl⟩:=h
   exact⟨True,by simp only[me],trivial⟩
 | n+1,[],u9,A,A',cs,h,hc=>by
   simp only[mF,ZY,ZV]at h
   obtain⟨_,rfl⟩:=h
   exact⟨True,by simp only[me],trivial⟩
 | n+1,i::l,u9,A,A',cs,h,hc=>by
   unfold mF at h
   unfold me
   split at h
   cases h
   rename_i o ho
   simp only[ho]
   split at h
   cases h
   rename_i hv
   split at h
   cases h
   rename_i d hd
   split at h
   case isFalse=>cases h
   rename_i Q7
   simp only[hd,if_pos Q7]
   split at h
   rename_i j b hg
   split at h
   rename_i G hG
   split at h
   rename_i C0 B hu
   split at h
   rename_i C v Nz hs
   split at h
   rename_i hk
   split at h
   rename_i C' A1 hr
   simp only[ZY,ZV]at h
   obtain⟨rfl,rfl⟩:=h
   obtain⟨C1,e1,e2⟩:=ky (gH o.op) (fun t ht=>by simp at ht) hu (fun c Qq=>hc c (List.mem_append_left _ Qq))
   obtain⟨C2,e3,e4⟩:=oC n hr (fun c Qq=>hc c (List.mem_append_right _ (by split <;> simp[Qq])))
   simp only[hG,e1,hs,if_pos hk,e3]
   refine⟨_,rfl,fun Mb=>⟨e2,?_⟩,e4⟩
   by_cases ht:kH o.op=true
   exact lq ht hs
   exact hc (G=true->C) (List.mem_append_right _ (by rw[if_neg ht];exact List.mem_cons_self ..)) Mb
   cases h
   cases h
   cases h
   cases h
   · rename_i hg
     split at h
     rename_i x hx
     split at h
     rename_i ho
     obtain⟨C,e1,e2⟩:=oC n h hc
     simp only[hx,if_pos ho]
     exact⟨C,e1,e2⟩
     cases h
     · rename_i hx
       split at h
       case isFalse=>cases h
       rename_i Vq
       split at h
       rename_i C v Nz hs
       split at h
       rename_i C' A1 hr
       have key:(∀ c,c∈C'->c)/\C/\A1=A':=by
        split at h
        rename_i ht
        simp only[ZY,ZV]at h
        obtain⟨rfl,rfl⟩:=h
        exact⟨hc,lq ht hs,rfl⟩
        simp only[ZY,ZV]at h
        obtain⟨rfl,rfl⟩:=h
        exact⟨fun c Qq=>hc c (List.mem_cons_of_mem _ Qq),hc _ (List.mem_cons_self ..),rfl⟩
       obtain⟨k1,k2,rfl⟩:=key
       obtain⟨C2,e3,e4⟩:=oC n hr k1
       simp only[if_pos Vq,hs,e3]
       split
       exact⟨_,rfl,e4⟩
       exact⟨_,rfl,k2,e4⟩
       cases h
       cases h
end
def iI(d:Option Nat)(ts:List Nat)(ks:List (Nat×Nat))(r:V)(H:List (Nat×(Nat×V)))(A:AS):AS:=((iG ts A).back ks H).put d r
def L2{P:Program}(N:Nat)(ops:Array Oper)(tb:List (Nat×OO))(zs:List (Nat×ZT P)):Sc P->List Nat->AS->(AS->Sc P->Prop)->Prop
 | s,[],A,K=>K A s
 | .r n u9 k,l,A,K=>match mF P N ops tb zs n l u9 A with
   | some (C,A')=>cj C (L2 N ops tb zs k (l.drop n) A' K)
   | none=>False
 | .h x k,i::l,A,K=>match x with
   | .o4 t v=>A.get t=v/\L2 N ops tb zs k (i::l) (A.put (some t) v) K
   | .z6 q v=>match lk q A.h with
     | some (g,u)=>u=v/\L2 N ops tb zs k (i::l) ⟨A.t,(q,(g,v))::A.h⟩ K
     | none=>False
   | _=>False
 | .ua k,i::l,A,K=>match ops[i]?,lk i zs with
   | some o,some z=> ∀ g,L2 N ops tb zs (k g) l (NL (o.dst.getD 0) z.v g A) K
   | _,_=>False
 | .cg c k,i::l,A,K=>match ops[i]?,lk i zs with
   | some o,none=>match uR ops tb zs i o,o.op,o.guard with
     | true,.call ⟨.value (.func f),xs,_⟩,some (j,b)=>match f==c.f&&NJ N o.dst&&OB N xs.toList&&!c.res.er.fH&&!c.res.er.cB,c.H,MQ A ops j b with
       | true,[],some G=>match Ps G (j,b) [] xs.toList A with
         | (C,B)=>cj C ((G=true->c.pre/\Mw (xs.toList.map B.cp) c.args=c.args)/\L2 N ops tb zs k l (A.put o.dst (.gv G c.res.er)) K)
       | _,_,_=>False
     | _,_,_=>False
   | _,_=>False
 | s,i::l,A,K=>match ops[i]?,lk i zs with
   | none,_=>False
   | _,some _=>False
   | some o,none=>match o.guard with
     | some _=>False
     | none=>match (ba ops tb i).Va with
       | false=>match uR ops tb zs i o with
         | true=>match s with
           | .c c _ k=>match o.op with
             | .call ⟨.value (.func f),xs,_⟩=>match f==c.f&&NJ N o.dst,c.H with
               | true,[]=>Mw (xs.toList.map A.cp) c.args=c.args/\c.pre/\L2 N ops tb zs k l (A.put o.dst c.res.er) K
               | _,_=>False
             | _=>False
           | .bd z k=>match o.op with
             | .build T a8=>match T==z.T&&NJ N o.dst,z.v with
               | true,.agg us=>match kr P A T us a8.toList with
                 | some v=>L2 N ops tb zs k l (A.put o.dst v) K
                 | none=>False
               | _,_=>False
             | _=>False
           | .bs k=>match o.op with
             | .buildSlice T len a8=>match tD P T with
               | some (.sl e)=>match ti P e,ey A 0 a8.toList with
                 | some t,some vs=>match QP P T e len t vs&&NJ N o.dst with
                   | true=>L2 N ops tb zs k l (A.put o.dst (.sl true vs)) K
                   | false=>False
                 | _,_=>False
               | _=>False
             | _=>False
           | .mm k=>match o.op with
             | .call ⟨.builtin b,⟨[x,y]⟩,_⟩=>match A.ev x,A.ev y,NJ N o.dst,b with
               | .lit (.int kd p),.lit (.int PZ q),true,.max=>PZ=kd/\L2 N ops tb zs k l (A.put o.dst (.lit (.int kd (max p q)))) K
               | .lit (.int kd p),.lit (.int PZ q),true,.min=>PZ=kd/\L2 N ops tb zs k l (A.put o.dst (.lit (.int kd (min p q)))) K
               | _,_,_,_=>False
             | _=>False
           | .J9 bs k=>match o.op with
             | .convert src dst x=>match xe P src&&isStr P dst&&NJ N o.dst,A.ev x with
               | true,.sl _ ys=>ys=bs.map m7/\L2 N ops tb zs k l (A.put o.dst (sV bs)) K
               | _,_=>False
             | _=>False
           | _=>False
         | false=>False
       | true=>match s with
         | .ux z k=>match AI P N (ba ops tb i).Sl (ba ops tb i).El (ba ops tb i).Hl o A z,(ba ops tb i).fr,Up (ba ops tb i).Hl [] with
           | some (C,U),none,true=>C/\∀ g o1 c,L2 N ops tb zs (k g o1 c) l (U (g,o1,c) A) K
           | _,_,_=>False
         | .eu c k=>match (ba ops tb i).fr,Up (ba ops tb i).Hl c.prom with
           | none,true=>c.pre N o A (ba ops tb i).Sl (ba ops tb i).Hl/\∀ x,L2 N ops tb zs (k x) l (c.U o A x A) K
           | _,_=>False
         | .c c ks k=>match o.op with
           | .call ⟨.value fx,xs,_⟩=>match A.ev fx,A.tk xs.toList,(ba ops tb i).fr with
             | .lit (.func (.func f) first w4),(vs,_),some fl=>
               match f==c.f&&NJ N o.dst&&Mk (ks.map (·.1))&&Mk (ks.map (·.2))&&c.args.length==(first.toList.map cV++vs++w4.toList.map cV).length&&
                sub (eE A xs.toList) (ba ops tb i).Sl&&sub o.dst.toList (ba ops tb i).Sl&&sub (ks.map (·.2)) (ba ops tb i).Hl&&Bv (ks.map (·.2)) fl&&Up (ba ops tb i).Hl [] with
               | true=>Mw (first.toList.map cV++vs++w4.toList.map cV) c.args=c.args/\lM A ks c.H (c.pre/\L2 N ops tb zs k l (iI o.dst (eE A xs.toList) ks (c.res.Nv (jr ks)) c.H' A) K)
               | false=>False
             | _,_,_=>False
           | _=>False
         | .cx c ks k=>match o.op with
           | .call ⟨.value fx,xs,_⟩=>match A.ev fx,A.tk xs.toList,(ba ops tb i).fr with
             | .lit (.func (.func f) first w4),(vs,_),some fl=>
               match f==c.f&&NJ N o.dst&&Mk (ks.map (·.1))&&Mk (ks.map (·.2))&&c.args.length==(first.toList.map cV++vs++w4.toList.map cV).length&&
                sub (eE A xs.toList) (ba ops tb i).Sl&&sub o.dst.toList (ba ops tb i).Sl&&sub (ks.map (·.2)) (ba ops tb i).Hl&&Bv (ks.map (·.2)) fl&&Up (ba ops tb i).Hl [] with
               | true=>Mw (first.toList.map cV++vs++w4.toList.map cV) c.args=c.args/\lM A ks c.H (c.pre/\∀ x,c.post x->L2 N ops tb zs (k x) l (iI o.dst (eE A xs.toList) ks ((c.res x).Nv (jr ks)) (c.H' x) A) K)
               | false=>False
             | _,_,_=>False
           | _=>False
         | _=>False
section
variable {P:Program} {N:Nat} {ops:Array Oper} {A A' A1 B:AS} {tb:List (Nat×OO)} {zs:List (Nat×ZT P)}
theorem mu{ts:List Nat}{t:Nat}:(iG ts A).get t=if t∈ts then .b7 else A.get t:=by
 induction ts with
 | nil=>simp[iG]
 | cons a ts ih=>
   simp only[iG,AS.get,Zw,List.cons_append,lk]at ih ⊢
   by_cases e:t=a
   rw[if_pos e,if_pos (by simp[e])];rfl
   rw[if_neg e,ih]
   by_cases e2:t∈ts
   rw[if_pos e2,if_pos (by simp[e2])]
   rw[if_neg e2,if_neg (by simp[e,e2])]
theorem rf:∀ (xs:List Operand) {A:AS},B8 (A.tk xs).2 (iG (eE A xs) A)
 | [],A=>⟨fun _=>rfl,fun _=>rfl⟩
 | x::xs,A=>by
   have ih:=rf xs (A:=A.drop x)
   simp only[AS.tk]
   have e:(match (A.drop x).tk xs with | (vs,B)=>((Um (A.ev x)::vs,B):List V×AS)).2=((A.drop x).tk xs).2:=rfl
   rw[e]
   have hh:(A.drop x).h=A.h:=by
    cases x with
    | tmp t=>simp only[AS.drop];split <;> rfl
    | _=>rfl
   refine⟨fun q=>?_,fun k=>by rw[ih.2 k];simp only[iG,hh]⟩
   rw[ih.1 q,mu,mu]
   cases x with
   | tmp t=>
     cases ho:(A.get t).cB with
     | true=>
       have ed:A.drop (.tmp t)=A.put (some t) .b7:=by simp[AS.drop,ho]
       have eo:eE A (.tmp t::xs)=t::eE (A.drop (.tmp t)) xs:=by simp only[eE,ho]
       simp only[eo,ed,List.mem_cons]
       by_cases c:q=t
       subst c
       simp only[true_or,if_true]
       split
       rfl
       rw[AS.au,if_pos rfl]
       by_cases c2:q∈eE (A.put (some t) .b7) xs
       rw[if_pos c2,if_pos (.inr c2)]
       rw[if_neg c2,if_neg (by simp[c,c2]),AS.au,if_neg c]
     | false=>
       have ed:A.drop (.tmp t)=A:=by simp[AS.drop,ho]
       have eo:eE A (.tmp t::xs)=eE (A.drop (.tmp t)) xs:=by simp only[eE,ho]
       simp only[eo,ed]
   | _=>rfl
theorem AN{x:Operand}(h:∀ t,x=.tmp t->A'.get t=A.get t){q:Nat}(hq:A'.get q=A.get q):(A'.drop x).get q=(A.drop x).get q:=by
 cases x with
 | tmp t=>
   simp only[AS.drop,h t rfl]
   split
   rw[AS.au,AS.au];split
   rfl
   exact hq
   exact hq
 | _=>exact hq
theorem rE:∀ (xs:List Operand) {A A':AS},(∀ t,Operand.tmp t∈xs->A'.get t=A.get t)->(A'.tk xs).1=(A.tk xs).1/\eE A' xs=eE A xs
 | [],A,A',_=>⟨rfl,rfl⟩
 | x::xs,A,A',h=>by
   have hx:∀ t,x=.tmp t->A'.get t=A.get t:=fun t e=>h t (by simp[e])
   have ih:=rE xs (A:=A.drop x) (A':=A'.drop x) fun t ht=>AN hx (h t (by simp[ht]))
   refine⟨?_,?_⟩
   show Um (A'.ev x)::((A'.drop x).tk xs).1=Um (A.ev x)::((A.drop x).tk xs).1
   rw[ih.1,bb (x:=x) hx]
   cases x with
   | tmp t=>simp only[eE,hx t rfl,ih.2]
   | _=>simp only[eE];exact ih.2
theorem EO{ks:List (Nat×Nat)}{H:List (Nat×(Nat×V))}{t:Nat}:(A.back ks H).get t=A.get t:=rfl
theorem zU{ks:List (Nat×Nat)}{H:List (Nat×(Nat×V))}{k:Nat}(hn:Mk (ks.map (·.2))=true)(hk:k ∉ ks.map (·.2)):lk k (A.back ks H).h=lk k A.h:=by
 have hs:lk k (Nu ks)=none:=kZ (by simpa[Nu,List.map_map,Function.comp_def] using hk)
 simp only[AS.back]
 rw[jL,nK hn,hs]
 simp only[Option.bind_none]
 rw[gx,hs];rfl
theorem nR{ks:List (Nat×Nat)}{H:List (Nat×(Nat×V))}(h:∀ k,lk k A.h=lk k B.h)(k:Nat):lk k (A.back ks H).h=lk k (B.back ks H).h:=by
 simp only[AS.back]
 rw[jL,jL,gx,gx,h]
theorem Jv{ks:List (Nat×Nat)}{k q:Nat}(h:lk k ks=some q):q∈ks.map (·.2):=List.mem_map.2 ⟨_,sG h,rfl⟩
theorem kF{ks:List (Nat×Nat)}(h:∀ k,k∈ks.map (·.2)->lk k B.h=lk k A.h):∀ {H:List (Nat×(Nat×V))},jG A ks H->jG B ks H
 | [],_=>trivial
 | (k,(g,v))::H,hr=>by
   refine⟨?_,kF h hr.2⟩
   have:=hr.1
   split at this
   rename_i q e
   rw[h q (Jv e)];exact this
   exact this.elim
theorem gO{d:Option Nat}{ts:List Nat}{ks:List (Nat×Nat)}{r:V}{H:List (Nat×(Nat×V))}{t:Nat}:(iI d ts ks r H A).get t=if d=some t then r else if t∈ts then .b7 else A.get t:=by
 unfold iI
 cases d with
 | none=>rw[if_neg Z8];exact mu
 | some d=>
   rw[AS.au,EO,mu]
   by_cases e:t=d
   subst e;rw[if_pos rfl,if_pos rfl]
   have e2: ¬ (some d=some t):=fun c=>e (by simpa using c.symm)
   rw[if_neg e,if_neg e2]
theorem iQ{d:Option Nat}{ts:List Nat}{ks:List (Nat×Nat)}{r:V}{H:List (Nat×(Nat×V))}:(iI d ts ks r H A).h=(A.back ks H).h:=by
 unfold iI;rw[mf];rfl
theorem wI{G:Type} {d:Option Nat} {ts:List Nat} {ks:List (Nat×Nat)} {r:G->V} {H:G->List (Nat×(Nat×V))} {fs Sl Hl:List Nat} (hn:Mk (ks.map (·.2))=true)
 (h1:sub ts Sl=true) (h2:sub d.toList Sl=true) (h3:sub (ks.map (·.2)) Hl=true):Qz (fun g B=>iI d ts ks (r g) (H g) B) fs Sl Hl:=by
 have sb:∀ {a b:List Nat},sub a b=true->∀ x,x∈a->x∈b:=fun h x hx=>by
  unfold sub at h;rw[ZI]at h;simpa using h x hx
 have h1:=sb h1;have h2:=sb h2;have h3:=sb h3
 refine⟨fun g B t ht=>?_,fun g B k hk=>?_,fun g B B' hB=>⟨fun t=>?_,fun k=>?_⟩,fun g B t v ht _=>⟨fun q=>?_,fun k=>?_⟩,fun g B k gv hk=>⟨fun t=>?_,fun x=>?_⟩⟩
 rw[gO,if_neg (fun c=>ht (h2 t (by rw[c];simp))),if_neg (fun c=>ht (h1 t c))]
 rw[iQ];exact zU hn (fun c=>hk (h3 k c))
 rw[gO,gO,hB.1 t]
 rw[iQ,iQ];exact nR hB.2 k
 rw[gO,AS.au,AS.au,gO]
 by_cases c:q=t
 subst c;rw[if_pos rfl,if_pos rfl,if_neg (fun c=>ht (h2 q (by rw[c];simp))),if_neg (fun c=>ht (h1 q c))]
 rw[if_neg c,if_neg c]
 rw[iQ];show _=lk k (iI d ts ks (r g) (H g) B).h;rw[iQ];rfl
 show (iI d ts ks (r g) (H g) _).get t=(iI d ts ks (r g) (H g) B).get t
 rw[gO,gO];rfl
 rw[iQ,iQ]
 have hs:lk k (Nu ks)=none:=kZ (by simpa[Nu,List.map_map,Function.comp_def] using fun c=>hk (h3 k c))
 simp only[AS.back]
 rw[jL,gx]
 simp only[lk]
 by_cases c:x=k
 subst c
 rw[if_pos rfl,if_pos rfl,nK hn,hs];rfl
 rw[if_neg c,if_neg c,jL,gx]
theorem qF{i:Nat}{o:Oper}{t:Nat}(ho:ops[i]? =some o)(h:Operand.tmp t∈o.op.operands.toList):t∈fb ops tb i:=by
 unfold fb;rw[ho,ZN];exact .inl (dS h)
theorem sM{i:Nat}{o:Oper}{t:Nat}(ho:ops[i]? =some o)(h:t∈o.looksAt ops):t∈fb ops tb i:=by
 unfold fb;rw[ho,ZN];exact .inl h
theorem AU{i:Nat}{t:Nat}(h:t∈(ba ops tb i).El):t∈fb ops tb i:=by
 unfold fb;rw[ZN];exact .inr h
theorem yf{i:Nat} {d:Option Nat} {fx:Operand} {xs:Array Operand} {J4:Array TypeId} {ty:TypeId} {pos:String} {after:Array Edge} {f:FuncId} {first w4:Array Value} {args:List V} {H:List (Nat×(Nat×V))} {ks:List (Nat×Nat)}
 {G:Type} {res:G->V} {H':G->List (Nat×(Nat×V))}
 (ho:ops[i]? =some ⟨d,.call ⟨.value fx,xs,J4⟩,ty,pos,after,none⟩) (WD:A.ev fx=.lit (.func (.func f) first w4)) (hd:bX N d) (O3:Mk (ks.map (·.1))=true) (M':Mk (ks.map (·.2))=true)
 (hc:PF P f args H (fun r h=> ∃ g,r=res g/\h=H' g)) (hargs:Mw (first.toList.map cV++(A.tk xs.toList).1++w4.toList.map cV) args=args) (hlen:args.length=(first.toList.map cV++(A.tk xs.toList).1++w4.toList.map cV).length)
 (hr:jG A ks H) {fl:List Nat} (hfl:Bv (ks.map (·.2)) fl=true):Ug P N ⟨d,.call ⟨.value fx,xs,J4⟩,ty,pos,after,none⟩ A (fun g B=>iI d (eE A xs.toList) ks ((res g).Nv (jr ks)) (H' g) B) (fb ops tb i) (some fl):=by
 refine⟨rfl,fun A' h1 h2=>?_⟩
 have Te:A'.ev fx=A.ev fx:=bb fun t ht=>h1 t (qF ho (by subst ht;simp[Op.operands,Call.operands]))
 obtain⟨t1,t2⟩:=rE xs.toList (A:=A) (A':=A') fun t ht=>h1 t (qF ho (by simp only[Op.operands,Call.operands];simp;right;simpa using ht))
 have RZ:=rf xs.toList (A:=A')
 refine mz (A:=A') ks rfl (by rw[Te];exact WD) hd O3 M' hc (by rw[t1];exact hargs) (by rw[t1];exact hlen) (kF (fun k hk=>(RZ.2 k).trans (ID hfl h2 k hk)) hr) ?_
 rintro r H0 ⟨g,rfl,rfl⟩
 refine⟨g,?_⟩
 unfold iI
 rw[<- t2]
 exact IW ⟨fun t=>RZ.1 t,fun k=>nR RZ.2 k⟩
theorem sU{El:List Nat} {fr:Option (List Nat)} {op:Op} (h:∀ t,Operand.tmp t∈op.operands.toList->A'.get t=A.get t) (hk:Rj A' A fr) (hr:∀ i,i∈El->A'.get i=A.get i)
 (hf:kQ El fr A op=true):E9 P A' op=E9 P A op:=by
 cases op with
 | move x=>simp only[E9,NN,AH,jN (x:=x) fun t e=>h t (by simp[Op.operands,e]),bb (x:=x) fun t e=>h t (by simp[Op.operands,e])]
 | pick c a b=>
   have h1:=bb (x:=c) fun t e=>h t (by simp[Op.operands,e])
   have h2:=bb (x:=a) fun t e=>h t (by simp[Op.operands,e])
   have h3:=bb (x:=b) fun t e=>h t (by simp[Op.operands,e])
   simp only[E9,NN,AM,h1,h2,h3]
 | binOp op T x y T'=>simp only[E9,NN,bb (x:=x) fun t e=>h t (by simp[Op.operands,e]),bb (x:=y) fun t e=>h t (by simp[Op.operands,e])]
 | unOp op T x=>simp only[E9,NN,bb (x:=x) fun t e=>h t (by simp[Op.operands,e])]
 | convert s d x=>simp only[E9,NN,bb (x:=x) fun t e=>h t (by simp[Op.operands,e])]
 | index T x y=>simp only[E9,NN,bb (x:=x) fun t e=>h t (by simp[Op.operands,e]),bb (x:=y) fun t e=>h t (by simp[Op.operands,e])]
 | slice T x lo hi m=>
   have h1:=bb (x:=x) fun t e=>h t (by simp[Op.operands,e])
   have h2:=sH (x:=lo) fun t e=>h t (by simp[Op.operands,e])
   have h3:=sH (x:=hi) fun t e=>h t (by simp[Op.operands,e])
   cases m with
   | none=>simp only[E9,h1,h2,h3]
   | some m=>rfl
 | extract x i=>simp only[E9,NN,bb (x:=x) fun t e=>h t (by simp[Op.operands,e])]
 | call c=>
   simp only[E9,NN,sZ]
   split
   split
   rename_i x T hx _
   rw[bb (x:=x) fun t e=>h t (by simp[Op.operands,Call.operands,hx,e])]
   rfl
   split
   rename_i x y hx
   rw[bb (x:=x) fun t e=>h t (by simp[Op.operands,Call.operands,hx,e]),bb (x:=y) fun t e=>h t (by simp[Op.operands,Call.operands,hx,e])]
   rfl
   rfl
 | fieldAddr T x j=>simp only[E9,bb (x:=x) fun t e=>h t (by simp[Op.operands,e])]
 | field T x j=>simp only[E9,jN (x:=x) fun t e=>h t (by simp[Op.operands,e])]
 | indexAddr T x y=>simp only[E9,bb (x:=x) fun t e=>h t (by simp[Op.operands,e]),bb (x:=y) fun t e=>h t (by simp[Op.operands,e])]
 | load T x=>
   have h1:=bb (x:=x) fun t e=>h t (by simp[Op.operands,e])
   simp only[E9,h1,jw]
   split
   split
   rename_i r p g o e
   cases r with
   | key k=>
     have:lk k A'.h=lk k A.h\/∃ i,p=[i]/\i<100/\LY A'.h (100*k+i)=LY A.h (100*k+i)/\(LY A.h (100*k+i)).isSome=true:=by
      cases fr with
      | none=>exact .inl (hk k)
      | some l=>
        simp only[kQ,e,Bool.or_eq_true,ZX]at hf
        rcases hf with ⟨c1,c2⟩ | hf
        have h3:=hk k (by simpa using c2)
        unfold O7 at h3
        rw[if_pos c1]at h3
        exact .inl h3
        unfold XJ at hf
        split at hf
        rename_i i
        simp only[ZX]at hf
        refine .inr ⟨i,rfl,by simpa[Nat.blt_eq] using hf.1.1,?_,hf.2⟩
        have h3:=hk _ (by simpa using hf.1.2)
        unfold O7 at h3
        rw[if_neg (by simp[Nat.blt_eq]),Nat.add_sub_cancel_left]at h3
        exact h3
        cases hf
     rcases this with e2 | ⟨i,rfl,c1,c2,c3⟩
     simp only[AS.at,e2]
     have:=GP (T:=by assumption) (g:=g) (o:=o) c2 c1 c3
     simpa only[jw] using this
   | slot i=>
     have:A'.at (.slot i) p=A.at (.slot i) p:=by
      unfold AS.at
      simp only[kQ,e,Zs,Zq]at hf
      simp only[hr i hf]
     rw[this]
   rfl
   rfl
   rfl
 | nilCheck x=>simp only[E9,bb (x:=x) fun t e=>h t (by simp[Op.operands,e])]
 | makeInterface T x=>simp only[E9,jN (x:=x) fun t e=>h t (by simp[Op.operands,e])]
 | typeAssert x xT T b=>
   cases b with
   | true=>simp only[E9,bb (x:=x) fun t e=>h t (by simp[Op.operands,e])]
   | false=>rfl
 | makeFunc fn p q=>
   have e1:p.toList.map A'.ev=p.toList.map A.ev:=List.map_congr_left fun x hx=>bb fun t e=>h t (by subst e;simp only[Op.operands,Array.toList_append,ZN];exact .inl hx)
   have e2:q.toList.map A'.ev=q.toList.map A.ev:=List.map_congr_left fun x hx=>bb fun t e=>h t (by subst e;simp only[Op.operands,Array.toList_append,ZN];exact .inr hx)
   simp only[E9,e1,e2]
 | _=>rfl
theorem jR{i:Nat}{o:Oper}{v:V}{fr:Option (List Nat)}(ho:ops[i]? =some o)(h:mi P N ops o A v):Rl P N ops o A v (fb ops tb i) fr:=fun A' h1 _=>h A' fun t ht=>h1 t (sM ho ht)
theorem zx{i:Nat}{o:Oper}{C:Prop}{v:V}{fr:Option (List Nat)}(ho:ops[i]? =some o)(hg:o.guard=none)(h:E9 P A o.op=some (C,v))(hC:C)(hd:bX N o.dst)(hf:kQ (ba ops tb i).El fr A o.op=true):Rl P N ops o A v (fb ops tb i) fr:=by
 intro A' h1 hk
 unfold gd
 rw[hg]
 simp only
 refine uD (C:=C) (v:=v) ?_ hC hd ⟨fun _=>rfl,fun _=>rfl⟩
 rw[sU (A:=A) (fun t ht=>h1 t (qF ho ht)) hk (fun i hi=>h1 i (AU hi)) hf]
 exact h
theorem BM{i:Nat} {o:Oper} {xs:List Operand} {j:Nat} {b G:Bool} {C:Prop} {B:AS} {v:V} {fr:Option (List Nat)} (ho:ops[i]? =some o) (hg:o.guard=some (j,b)) (hG:MQ A ops j b=some G) (hu:AS.un G xs A=(C,B))
 (QX:∀ t,Operand.tmp t∈xs->Operand.tmp t∈o.op.operands.toList) (K1:OB N xs=true) (hd:bX N o.dst) (hf:kQ (ba ops tb i).El fr B o.op=true) (hC:G=true->C/\v.fH=false/\∃ C',E9 P B o.op=some (C',v)/\C'):Rl P N ops o A (.gv G v) (fb ops tb i) fr:=by
 intro A' h1 hk
 have Tl:MQ A' ops j b=some G:=by
  rw[<- hG]
  unfold MQ
  cases hj:(ops[j]?).bind (·.dst) with
  | none=>rfl
  | some d=>
    simp only[Option.map_some]
    rw[h1 d (sM ho (by unfold Oper.looksAt;rw[ZN];right;rw[hg];simp[hj]))]
 obtain⟨B',k1,k2,k3,k4⟩:=iO xs (A':=A') hu (fun t ht=>h1 t (qF ho (QX t ht)))
 have J6:E9 P B' o.op=E9 P B o.op:=by
  refine sU (A:=B) (fun t ht=>k2 t (h1 t (qF ho ht))) ?_ (fun i hi=>k2 i (h1 i (AU hi))) hf
  cases fr with
  | none=>exact fun k=>by rw[k3,k4];exact hk k
  | some l=>exact fun k hl=>(tt (A:=A') (fun k=>by rw[k3]) k).trans ((hk k hl).trans (tt (fun k=>by rw[k4]) k))
 refine nP hg Tl (fun Mb=>?_) (fun R'=>⟨hd,fun _ _=>⟨rfl,(fun h=>by rw[R']at h;cases h),fun _=>rfl⟩⟩)
 obtain⟨c1,c3,C',x4,c2⟩:=hC Mb
 rw[<- J6]at x4
 refine gY (v:=.gv G v) hd ⟨fun _=>rfl,fun _=>rfl⟩ fun Pb Kb a w F hs=>?_
 obtain⟨F',x5⟩:=iJ Mb _ k1 c1 hs (nq K1)
 obtain⟨x,hx,hr⟩:=tX x4 c2 x5 rfl
 exact⟨x,hx,rfl,fun _=>xz hr c3,fun h=>by rw[Mb]at h;cases h⟩
theorem Dh{i:Nat} {d:Option Nat} {f:FuncId} {xs:Array Operand} {J4:Array TypeId} {ty:TypeId} {pos:String} {after:Array Edge}
 {j:Nat} {b G:Bool} {C:Prop} {B:AS} {E:V} {fr:Option (List Nat)} (ho:ops[i]? =some ⟨d,.call ⟨.value (.func f),xs,J4⟩,ty,pos,after,some (j,b)⟩) (hd:bX N d) (hG:MQ A ops j b=some G) (hu:AS.un G xs.toList A=(C,B)) (K1:OB N xs.toList=true)
 (hc:G=true->C/\PC P f (xs.toList.map B.cp) (fun r=>r.er=E)/\E.fH=false/\E.cB=false):Rl P N ops ⟨d,.call ⟨.value (.func f),xs,J4⟩,ty,pos,after,some (j,b)⟩ A (.gv G E) (fb ops tb i) fr:=by
 intro A' h1 hk
 have Tl:MQ A' ops j b=some G:=by
  rw[<- hG]
  unfold MQ
  cases hj:(ops[j]?).bind (·.dst) with
  | none=>rfl
  | some d=>
    simp only[Option.map_some]
    rw[h1 d (sM ho (by unfold Oper.looksAt;rw[ZN];right;simp[hj]))]
 have hx:∀ t,Operand.tmp t∈xs.toList->A'.get t=A.get t:=fun t ht=>h1 t (qF ho (by simp[Op.operands,Call.operands];simpa using ht))
 obtain⟨B',k1,k2,k3,k4⟩:=iO xs.toList (A':=A') hu hx
 refine nP (j:=j) (b:=b) rfl Tl (fun Mb=>?_) (fun R'=>⟨hd,fun _ _=>⟨rfl,(fun h=>by rw[R']at h;cases h),fun _=>rfl⟩⟩)
 obtain⟨c1,c2,c3,c4⟩:=hc Mb
 rw[<- pV (A':=B') (A:=B) fun t ht=>k2 t (hx t ht)]at c2
 intro Pb Kb a w F Q' hs
 obtain⟨F',x5⟩:=iJ Mb _ k1 c1 hs (nq K1)
 have hw:=lV Mb _ k1 c1
 have I4:=mT (N:=N) (o:=⟨d,.call { callee:=.value (.func f),args:=xs,argTypes:=J4 },ty,pos,after,some (j,b)⟩) (K:=fun A1=>A1=B'.put d E) (A:=B') rfl hd c2 (fun _ h=>h) rfl
 refine Oper.wp_mono ?_ (I4 Pb Kb a w F' Q' x5)
 rintro a' w' ⟨A1,Pb',C4,F2,rfl,J1,q3,q4,q5,q6⟩
 refine⟨A'.put d (.gv G E),Pb',C4,F2,⟨fun _=>rfl,fun _=>rfl⟩,J1.wrap ?_,q3,q4,q5,q6⟩
 cases d with
 | none=>exact hw
 | some d=>
   refine⟨fun i=>?_,hw.2⟩
   rw[AS.au,AS.au]
   by_cases e:i=d
   rw[if_pos e,if_pos e];exact .inr ⟨G,rfl,Mb,c4,c3⟩
   rw[if_neg e,if_neg e];exact hw.1 i
theorem fL{i:Nat}{o:Oper}{l:List Nat}{v:V}{K:AS->Prop}(ho:ops[i]? =some o)(hv:uR ops tb zs i o=true)(h:Rl P N ops o A v (fb ops tb i) (ba ops tb i).fr)(hK:Mh P N ops tb zs l (A.put o.dst v) K):Mh P N ops tb zs (i::l) A K:=by
 unfold uR at hv
 simp only[ZX,Bool.not_eq_true',Zp]at hv
 refine⟨o,ho,?_⟩
 rw[show lk i zs=none from by simpa using hv.1.1.1]
 simp only
 rw[hv.1.1.2]
 exact⟨hv.1.2,hv.2,v,h,hK⟩
theorem ny{K:AS->Prop}:∀ (n:Nat) {l:List Nat} (u9:List V) {A:AS} (C:Prop) (A':AS),
 me P N ops tb zs n l u9 A=some (C,A')->C->Mh P N ops tb zs (l.drop n) A' K->Mh P N ops tb zs l A K
 | 0,l,u9,A,C,A',h,hC,hK=>by
   simp only[me,ZY,ZV]at h;obtain⟨_,rfl⟩:=h;simpa using hK
 | n+1,[],u9,A,C,A',h,hC,hK=>by
   simp only[me,ZY,ZV]at h;obtain⟨_,rfl⟩:=h;simpa using hK
 | n+1,i::l,u9,A,C,A',h,hC,hK=>by
   have Oi:(i::l).drop (n+1)=l.drop n:=rfl
   rw[Oi]at hK
   unfold me at h
   split at h
   simp at h
   rename_i o ho
   split at h
   simp at h
   rename_i Mq
   split at h
   simp at h
   rename_i d hd
   split at h
   case isFalse=>simp at h
   rename_i Q7
   have Nh:bX N o.dst:=by rw[hd];exact Q7
   cases hg:o.guard with
   | some jb=>
     obtain⟨j,b⟩:=jb
     rw[hg]at h
     simp only at h
     split at h
     case h_2=>simp at h
     rename_i G hG
     cases hu:AS.un G (gH o.op) A with
     | mk C0 B=>
       rw[hu]at h
       simp only at h
       split at h
       case h_2=>simp at h
       rename_i C1 v N2 x4
       split at h
       case isFalse=>simp at h
       rename_i K1
       simp only[ZX,Bool.not_eq_true']at K1
       split at h
       case h_2=>simp at h
       rename_i C2 A2 hr
       simp only[ZY,ZV]at h
       obtain⟨rfl,rfl⟩:=h
       exact fL ho Mq (BM (v:=v) ho hg hG hu (BO _) K1.1.1 Nh K1.2 (fun Mb=>⟨(hC.1 Mb).1,K1.1.2,qn x4 (hC.1 Mb).2⟩)) (by rw[hd];exact ny n N2 C2 A2 hr hC.2 hK)
   | none=>
     rw[hg]at h
     simp only at h
     split at h
     · rename_i x K0
       split at h
       case isFalse=>simp at h
       rename_i H5
       exact fL ho Mq (jR ho (xi hg K0 Nh H5)) (by rw[hd];exact ny n u9 C A' h hC hK)
     · split at h
       case isFalse=>simp at h
       rename_i Vq
       split at h
       case h_2=>simp at h
       rename_i C1 v N2 x4
       split at h
       case h_2=>simp at h
       rename_i C2 A2 hr
       split at h
       rename_i ht
       simp only[ZY,ZV]at h
       obtain⟨rfl,rfl⟩:=h
       obtain⟨C',h1,h2⟩:=qn x4 (lq ht x4)
       exact fL ho Mq (zx ho hg h1 h2 Nh Vq) (by rw[hd];exact ny n N2 C2 A2 hr hC hK)
       simp only[ZY,ZV]at h
       obtain⟨rfl,rfl⟩:=h
       obtain⟨C',h1,h2⟩:=qn x4 hC.1
       exact fL ho Mq (zx ho hg h1 h2 Nh Vq) (by rw[hd];exact ny n N2 C2 A2 hr hC.2 hK)
theorem qk{i:Nat} {o:Oper} {l:List Nat} {K:AS->Prop} {G:Type} {U:G->AS->AS} (ho:ops[i]? =some o) (hz:lk i zs=none) (he:(ba ops tb i).Va=true) (h1:Ug P N o A U (fb ops tb i) (ba ops tb i).fr)
 (h2:Tq U (fb ops tb i) (ba ops tb i).Sl (ba ops tb i).Hl) (hK:∀ g,Mh P N ops tb zs l (U g A) K):Mh P N ops tb zs (i::l) A K:=by
 refine⟨o,ho,?_⟩
 rw[hz]
 simp only
 rw[he]
 exact⟨G,U,h1,h2,hK⟩
theorem xJ{d:Option Nat}{x y:Operand}{J4:Array TypeId}{ty:TypeId}{pos:String}{after:Array Edge}{kd:IntKind}{p q r:Int}{b:Builtin}(hd:bX N d)(hx:A.ev x=.lit (.int kd p))(hy:A.ev y=.lit (.int kd q))(hb:(b=.max/\r=max p q)\/(b=.min/\r=min p q)):
 mi P N ops ⟨d,.call ⟨.builtin b,⟨[x,y]⟩,J4⟩,ty,pos,after,none⟩ A (.lit (.int kd r)):=fun A' h1=>by
 show D3 P N _ A' _
 have e1:A'.ev x=A.ev x:=bb fun t ht=>h1 t (dS (by subst ht;simp[Op.operands,Call.operands]))
 have e2:A'.ev y=A.ev y:=bb fun t ht=>h1 t (dS (by subst ht;simp[Op.operands,Call.operands]))
 exact xy rfl hd (by rw[e1];exact hx) (by rw[e2];exact hy) hb ⟨fun _=>rfl,fun _=>rfl⟩
theorem Kz:∀ (s:Sc P) {l:List Nat} {A:AS} {K:AS->Sc P->Prop},L2 N ops tb zs s l A K->Mh P N ops tb zs l A fun B=> ∃ B',B8 B B'/\∃ s',K B' s':=by
 intro s
 have cl:∀ {K:AS->Sc P->Prop} (A B:AS),B8 A B->(∃ B',B8 A B'/\∃ s',K B' s')->∃ B',B8 B B'/\∃ s',K B' s':=fun A B h ⟨B',h1,h2⟩=>⟨B',h.symm.trans h1,h2⟩
 induction s with
 | r n u9 k ih=>
   intro l A K h
   cases l with
   | nil=>exact⟨_,B8.iR,_,h⟩
   | cons i l=>
     simp only[L2]at h
     split at h
     rename_i C A' e
     obtain⟨h1,h2⟩:=lI.1 h
     obtain⟨C1,e1,e2⟩:=oC n e h1
     exact ny n u9 C1 A' e1 e2 (ih h2)
     exact h.elim
 | h x k ih=>
   intro l A K h
   cases l with
   | nil=>exact⟨_,B8.iR,_,h⟩
   | cons i l=>
     simp only[L2]at h
     split at h
     rename_i t v
     refine dZ cl _ ?_ (ih h.2)
     refine⟨fun q=>?_,fun _=>rfl⟩
     rw[AS.au];split
     rename_i e;subst e;exact h.1.symm
     rfl
     rename_i q v
     split at h
     rename_i g u e
     obtain⟨rfl,h⟩:=h
     refine dZ cl _ ?_ (ih h)
     refine⟨fun _=>rfl,fun k=>?_⟩
     simp only[lk];split
     rename_i e2;subst e2;exact e.symm
     rfl
     exact h.elim
     exact h.elim
 | ux z k ih=>
   intro l A K h
   cases l with
   | nil=>exact⟨_,B8.iR,_,h⟩
   | cons i l=>
     simp only[L2]at h
     split at h
     exact h.elim
     exact h.elim
     rename_i o ho hz
     split at h
     exact h.elim
     rename_i hg
     split at h
     split at h <;> exact h.elim
     rename_i he
     split at h
     rename_i C U e1 e2 e3
     obtain⟨d,hd⟩:∃ d,o.dst=some d:=by
      unfold AI at e1
      split at e1 <;> first | exact⟨_,by assumption⟩ | simp at e1
     obtain⟨hU,hE⟩:=Ih (ops:=ops) e1 h.1 d hd
     refine qk ho hz he ⟨hg,fun A' h1 h2=>?_⟩ ⟨⟨hU.g,hU.h,hU.c,fun g B t v ht _=>hU.p g B t v ht,hU.q⟩,fun q hq=>absurd (sN e3 hq) List.not_mem_nil⟩ fun g=>ih _ _ _ (h.2 g.1 g.2.1 g.2.2)
     rw[e2]at h2
     exact hE A' (fun t ht=>by
      rcases ht with ht | ht
      exact h1 t (sM ho ht)
      exact h1 t (AU ht)) h2 _ fun g=>⟨g,⟨fun _=>rfl,fun _=>rfl⟩⟩
     exact h.elim
 | eu c k ih=>
   intro l A K h
   cases l with
   | nil=>exact⟨_,B8.iR,_,h⟩
   | cons i l=>
     simp only[L2]at h
     split at h
     exact h.elim
     exact h.elim
     rename_i o ho hz
     split at h
     exact h.elim
     rename_i hg
     split at h
     split at h <;> exact h.elim
     rename_i he
     split at h
     rename_i e2 e3
     refine qk ho hz he ⟨hg,fun A' h1 h2=>?_⟩ ⟨c.Ul h.1 _,fun q hq g B=>c.Xd h.1 q (sN e3 hq) g B⟩ fun g=>ih g (h.2 g)
     rw[e2]at h2
     exact FT (c.ok hg h.1 (fun t ht=>h1 t (sM ho (dS ht))) h2) fun B ⟨x,hB⟩=>⟨x,by subst hB;exact⟨fun _=>rfl,fun _=>rfl⟩⟩
     exact h.elim
 | ua k ih=>
   intro l A K h
   cases l with
   | nil=>exact⟨_,B8.iR,_,h⟩
   | cons i l=>
     simp only[L2]at h
     split at h
     rename_i o z ho hz
     refine⟨o,ho,?_⟩
     rw[hz]
     exact fun g=>ih g (h g)
     exact h.elim
 | c c ks k ih=>
   intro l A K h
   cases l with
   | nil=>exact⟨_,B8.iR,_,h⟩
   | cons i l=>
     simp only[L2]at h
     split at h
     exact h.elim
     exact h.elim
     rename_i o ho hz
     obtain⟨dst,op,ty,pos,after,B9⟩:=o
     split at h
     exact h.elim
     rename_i hg
     simp only at hg;subst hg
     split at h
     split at h
     rename_i hv
     split at h
     rename_i heq
     simp only at heq;subst heq
     split at h
     rename_i e3 e4
     rw[ZX,Zp]at e3
     obtain⟨rfl,e3⟩:=e3
     exact fL ho hv (jR ho (Hp c (dL e3) e4 h.1 h.2.1)) (ih h.2.2)
     exact h.elim
     exact h.elim
     exact h.elim
     rename_i he
     split at h
     rename_i fx xs J4 heq
     simp only at heq;subst heq
     split at h
     rename_i f first w4 vs B fl e1 e2 e3
     split at h
     rename_i e4
     simp only[ZX,Zp]at e4
     obtain⟨⟨⟨⟨⟨⟨⟨⟨⟨rfl,q1⟩,q2⟩,q3⟩,q4⟩,q5⟩,q6⟩,q7⟩,q8⟩,q9⟩:=e4
     have htk:(A.tk xs.toList).1=vs:=by rw[e2]
     replace h:=And.intro h.1 (hZ h.2)
     have U3:=yf (P:=P) (N:=N) (A:=A) (tb:=tb) (i:=i) (G:=Unit) (res:=fun _=>c.res) (H':=fun _=>c.H') (ks:=ks) (H:=c.H) (args:=c.args) ho e1 (dL q1) q2 q3
      ((c.ok h.2.2.1).mono fun r H ⟨a,b⟩=>⟨(),a,b⟩) (by rw[htk];exact h.1) (by rw[htk];exact q4) h.2.1 q8
     rw[<- e3]at U3
     exact qk ho hz he U3 ⟨wI q3 q5 q6 q7,fun q hq=>absurd (sN q9 hq) List.not_mem_nil⟩ fun _=>ih h.2.2.2
     exact h.elim
     exact h.elim
     exact h.elim
 | cx c ks k ih=>
   intro l A K h
   cases l with
   | nil=>exact⟨_,B8.iR,_,h⟩
   | cons i l=>
     simp only[L2]at h
     split at h
     exact h.elim
     exact h.elim
     rename_i o ho hz
     obtain⟨dst,op,ty,pos,after,B9⟩:=o
     split at h
     exact h.elim
     rename_i hg
     simp only at hg;subst hg
     split at h
     split at h <;> exact h.elim
     rename_i he
     split at h
     rename_i fx xs J4 heq
     simp only at heq;subst heq
     split at h
     rename_i f first w4 vs B fl e1 e2 e3
     split at h
     rename_i e4
     simp only[ZX,Zp]at e4
     obtain⟨⟨⟨⟨⟨⟨⟨⟨⟨rfl,q1⟩,q2⟩,q3⟩,q4⟩,q5⟩,q6⟩,q7⟩,q8⟩,q9⟩:=e4
     have htk:(A.tk xs.toList).1=vs:=by rw[e2]
     replace h:=And.intro h.1 (hZ h.2)
     have U3:=yf (P:=P) (N:=N) (A:=A) (tb:=tb) (i:=i) (G:={ x:c.X // c.post x }) (res:=fun x=>c.res x.1) (H':=fun x=>c.H' x.1) (ks:=ks) (H:=c.H) (args:=c.args) ho e1 (dL q1) q2 q3
      ((c.ok h.2.2.1).mono fun r H ⟨x,hx,a,b⟩=>⟨⟨x,hx⟩,a,b⟩) (by rw[htk];exact h.1) (by rw[htk];exact q4) h.2.1 q8
     rw[<- e3]at U3
     exact qk ho hz he U3 ⟨wI q3 q5 q6 q7,fun q hq=>absurd (sN q9 hq) List.not_mem_nil⟩ fun x=>ih _ (h.2.2.2 x.1 x.2)
     exact h.elim
     exact h.elim
     exact h.elim
 | bd z k ih=>
   intro l A K h
   cases l with
   | nil=>exact⟨_,B8.iR,_,h⟩
   | cons i l=>
     simp only[L2]at h
     split at h
     exact h.elim
     exact h.elim
     rename_i o ho hz
     obtain⟨dst,op,ty,pos,after,B9⟩:=o
     split at h
     exact h.elim
     rename_i hg
     simp only at hg;subst hg
     split at h
     split at h
     rename_i hv
     split at h
     rename_i heq
     simp only at heq;subst heq
     split at h
     rename_i us e3 e4
     split at h
     rename_i v e5
     rw[ZX,Zp]at e3
     obtain⟨rfl,e3⟩:=e3
     have hz:=z.ok
     rw[e4]at hz
     exact fL ho hv (jR ho (yD us v hz (dL e3) e5)) (ih h)
     exact h.elim
     exact h.elim
     exact h.elim
     exact h.elim
     exact h.elim
 | bs k ih=>
   intro l A K h
   cases l with
   | nil=>exact⟨_,B8.iR,_,h⟩
   | cons i l=>
     simp only[L2]at h
     split at h
     exact h.elim
     exact h.elim
     rename_i o ho hz
     obtain⟨dst,op,ty,pos,after,B9⟩:=o
     split at h
     exact h.elim
     rename_i hg
     simp only at hg;subst hg
     split at h
     split at h
     rename_i hv
     split at h
     rename_i heq
     simp only at heq;subst heq
     split at h
     rename_i e e3
     split at h
     rename_i t vs e4 e5
     split at h
     rename_i e6
     rw[ZX]at e6
     exact fL ho hv (jR ho (rR e t vs ⟨e3,e4⟩ (dL e6.2) e5 e6.1)) (ih h)
     exact h.elim
     exact h.elim
     exact h.elim
     exact h.elim
     exact h.elim
     exact h.elim
 | cg c k ih=>
   intro l A K h
   cases l with
   | nil=>exact⟨_,B8.iR,_,h⟩
   | cons i l=>
     simp only[L2]at h
     split at h
     case h_2=>exact h.elim
     rename_i o ho hz
     obtain⟨dst,op,ty,pos,after,B9⟩:=o
     split at h
     case h_2=>exact h.elim
     rename_i f xs J4 j b hv e1 e2
     simp only at e1 e2;subst e1 e2
     split at h
     case h_2=>exact h.elim
     rename_i G h1 h2 h3
     simp only[ZX,Zp,Bool.not_eq_true']at h1
     obtain⟨⟨⟨⟨rfl,h4⟩,h5⟩,h6⟩,h7⟩:=h1
     revert h
     cases hu:Ps G (j,b) [] xs.toList A with | mk C B=>?_
     intro h
     obtain⟨hC,h⟩:=lI.1 h
     obtain⟨C1,u1,u2⟩:=ky xs.toList (fun t ht=>by simp at ht) hu hC
     refine fL ho hv (Dh ho (dL h4) h3 u1 h5 (fun hG=>⟨u2,?_,h6,h7⟩)) (ih h.2)
     obtain⟨Qd,hw⟩:=h.1 hG
     have hc:=c.ok Qd
     rw[h2]at hc
     have hp:=hc.Bu
     refine⟨hp.1,fun w Pb cargs k1 k2=>?_⟩
     refine(hp.2 w Pb cargs k1 (by have:=nn _ c.args k2;rw[hw]at this;exact this)).mono ?_
     rintro e w' ⟨r,x,F,Pb',rfl,⟨H,q1,_⟩,rest⟩
     exact⟨r,x,F,Pb',rfl,by rw[q1],rest⟩
 | mm k ih=>
   intro l A K h
   cases l with
   | nil=>exact⟨_,B8.iR,_,h⟩
   | cons i l=>
     simp only[L2]at h
     split at h
     exact h.elim
     exact h.elim
     rename_i o ho hz
     obtain⟨dst,op,ty,pos,after,B9⟩:=o
     split at h
     exact h.elim
     rename_i hg
     simp only at hg;subst hg
     split at h
     split at h
     rename_i hv
     split at h
     rename_i heq
     simp only at heq;subst heq
     split at h
     rename_i kd p PZ q e1 e2 e3
     obtain⟨rfl,h⟩:=h
     exact fL ho hv (jR ho (xJ (dL e3) e1 e2 (.inl ⟨rfl,rfl⟩))) (ih h)
     rename_i kd p PZ q e1 e2 e3
     obtain⟨rfl,h⟩:=h
     exact fL ho hv (jR ho (xJ (dL e3) e1 e2 (.inr ⟨rfl,rfl⟩))) (ih h)
     exact h.elim
     exact h.elim
     exact h.elim
     exact h.elim
 | J9 bs k ih=>
   intro l A K h
   cases l with
   | nil=>exact⟨_,B8.iR,_,h⟩
   | cons i l=>
     simp only[L2]at h
     split at h
     exact h.elim
     exact h.elim
     rename_i o ho hz
     obtain⟨dst,op,ty,pos,after,B9⟩:=o
     split at h
     exact h.elim
     rename_i hg
     simp only at hg;subst hg
     split at h
     split at h
     rename_i hv
     split at h
     rename_i heq
     simp only at heq;subst heq
     split at h
     rename_i fl ys e1 e2
     simp only[ZX]at e1
     obtain⟨rfl,h⟩:=h
     obtain⟨e,q1,q2⟩:=uu e1.1.1
     exact fL ho hv (jR ho (ud e fl bs ⟨q1,q2,rh e1.1.2⟩ (dL e1.2) e2)) (ih h)
     exact h.elim
     exact h.elim
     exact h.elim
     exact h.elim
 | _=>
   intro l A K h
   cases l with
   | nil=>exact⟨_,B8.iR,_,h⟩
   | cons i l=>
     simp only[L2]at h
     (repeat' split at h) <;> exact h.elim
theorem oY{K K':AS->Prop}(hK:∀ B,K B->K' B):∀ (l:List Nat) {A:AS},Mh P N ops tb zs l A K->Mh P N ops tb zs l A K'
 | [],A,h=>hK A h
 | i::l,A,h=>by
   obtain⟨o,ho,h⟩:=h
   refine⟨o,ho,?_⟩
   split at h
   exact fun g=>oY hK l (h g)
   split at h
   obtain⟨e1,e2,v,h1,h2⟩:=h;exact⟨e1,e2,v,h1,oY hK l h2⟩
   obtain⟨G,U,h1,h2,h3⟩:=h;exact⟨G,U,h1,h2,fun g=>oY hK l (h3 g)⟩
end
section
variable {P:Program} {N:Nat} {ops:Array Oper} {A:AS}
end
def go{P:Program}(N:Nat):Code->AS->Sc P->(Exit->AS->Sc P->Prop)->Prop
 | .skip,A,s,K=>K .normal A s
 | .label _,A,s,K=>K .normal A s
 | .exit i,A,s,K=>K (.exit i) A s
 | .goto i,A,s,K=>K (.goto i) A s
 | .ret,A,s,K=>NO N s A fun A s=>K .ret A s
 | .seq x y,A,s,K=>go N x A s fun e A s=>match e with
   | .normal=>go N y A s K
   | e=>K e A s
 | .block id c,A,s,K=>go N c A s fun e A s=>match e with
   | .exit j=>match j==id with
     | true=>K .normal A s
     | false=>K (.exit j) A s
   | e=>K e A s
 | .cond c x y,A,s,K=>NO N s A fun A s=>match A.ev c,s with
   | .lit (.bool b),.br s1 s2=>(b=true->go N x A s1 K)/\(b=false->go N y A s2 K)
   | .lit (.bool b),.join X B ok s1 s2 k=>
     (b=true->go N x A s1 fun e A' s'=>match e with
      | .normal=>NO N s' A' fun A' _=> ∃ x,ok x/\TB A' (B x)
      | e=>K e A' s')/\
     (b=false->go N y A s2 fun e A' s'=>match e with
      | .normal=>NO N s' A' fun A' _=> ∃ x,ok x/\TB A' (B x)
      | e=>K e A' s')/\
     ∀ x,ok x->K .normal (B x) (k x)
   | _,_=>False
 | .scope c,A,s,K=>go N c A s fun e A s=>match e with
   | .goto _=>False
   | e=>K e A s
 | .loop c,A,s,K=>NO N s A fun A s=>match s with
   | .loop X inv ok m k=>(∃ x,ok x/\TB A (inv x))/\∀ x,ok x->go N c (inv x) (k x) fun e A' s'=>match e with
     | .normal=>NO N s' A' fun A' _=> ∃ y,ok y/\m y<m x/\TB A' (inv y)
     | e=>K e A' s'
   | _=>False
 | .region _ ops false,A,s,K=>NO N s A fun A s=>B6 N ops [] s ops.toList A fun A s=>K .normal A s
 | .region _ ops true,A,s,K=>NO N s A fun A s=>match s with
   | .dx m pl tb zs k=>match P.follows .mixedOrders&&oZ ops m tb zs pl&&AQ ops m pl&&Ay N ops zs with
     | true=>L2 N ops tb zs k pl A fun A s=>B6 N ops [] s (ops.toList.drop m) A fun A s=>K .normal A s
     | false=>False
   | _=>False
 | _,_,_,_=>False
section
variable {P:Program} {N:Nat} {ops:Array Oper} {A A' A1 B:AS}
variable {w:World} {Pb Kb:Nat->Prop} {a:Act} {F:l6->List Nat}
theorem HT{X:Type} {c:Code} {Q:Exit->AS->Prop} (inv:X->AS) (ok:X->Prop) (m:X->Nat) (h0:∃ x,ok x/\PY A (inv x).t/\Pe A (inv x).h)
 (round:∀ x,ok x->T P N c (inv x) fun e A'=>match e with
  | .normal=>Hx N A' fun A'=> ∃ y,ok y/\m y<m x/\PY A' (inv y).t/\Pe A' (inv y).h
  | e=>Q e A'):T P N (.loop c) A Q:=by
 obtain⟨x0,RW,l0,r0⟩:=h0
 refine Jg (fun n A=> ∃ x,m x=n/\ok x/\PY A (inv x).t/\Pe A (inv x).h) (m x0) ⟨x0,rfl,RW,l0,r0⟩ ?_
 rintro n A ⟨x,rfl,hx,h1,h2⟩
 refine KP h1 h2 (kY (ku (round x hx) fun e A' hq=>?_))
 cases e with
 | normal=>exact Hx.mono hq fun B ⟨y,k1,k2,k3,k4⟩=>⟨m y,k2,y,rfl,k1,k3,k4⟩
 | _=>exact Hx.of hq
def ngo(Q:Exit->AS->Prop):Exit->AS->Prop
 | .goto _,_=>False
 | e,A=>Q e A
theorem IB{c:Code}{Q:Exit->AS->Prop}(h:T P N c A (ngo Q)):T P N (.scope c) A Q:=by
 intro Pb Kb a w F hs
 refine wp_scope_straight (wp_mono (h Pb Kb a w F hs) fun e a' w' hn=>?_)
 cases e with
 | goto l=>obtain⟨_,_,_,_,h,_⟩:=hn;exact h
 | _=>exact hn
theorem GB:∀ (c:Code) {A:AS} {s:Sc P} {K:Exit->AS->Sc P->Prop},go N c A s K->T P N c A fun e B=> ∃ s',K e B s':=by
 intro c
 induction c with
 | skip=>intro A s K h;exact IX ⟨_,h⟩
 | label l=>intro A s K h;exact GH ⟨_,h⟩
 | exit i=>intro A s K h;exact Jj ⟨_,h⟩
 | goto i=>intro A s K h;exact Kw ⟨_,h⟩
 | ret=>intro A s K h;exact mX ((ju s h).mono fun B hB=>KO hB)
 | seq x y TD TC=>
   intro A s K h
   refine KJ (ku (TD h) fun e B hB=>?_)
   obtain⟨s',hB⟩:=hB
   cases e with
   | normal=>exact TC hB
   | _=>exact⟨_,hB⟩
 | scope c ih=>
   intro A s K h
   refine IB (ku (ih h) fun e B hB=>?_)
   obtain⟨s',hB⟩:=hB
   cases e with
   | goto l=>exact hB
   | _=>exact⟨_,hB⟩
 | block id c ih=>
   intro A s K h
   refine Ho (ku (ih h) fun e B hB=>?_)
   obtain⟨s',hB⟩:=hB
   cases e with
   | exit j=>
     simp only[W1]
     simp only at hB
     split at hB
     rename_i e;rw[if_pos (by simpa using e)];exact⟨_,hB⟩
     rename_i e;rw[if_neg (by simpa using e)];exact⟨_,hB⟩
   | _=>exact⟨_,hB⟩
 | cond c x y TD TC=>
   intro A s K h
   refine mX ((ju s h).mono fun B hB=>?_)
   obtain⟨s',hB⟩:=hB
   split at hB
   rename_i e
   exact BY e (fun hb=>TD (hB.1 hb)) (fun hb=>TC (hB.2 hb))
   rename_i b X I ok s1 s2 k e
   obtain⟨h1,h2,h3⟩:=hB
   have step:∀ (z:Code) (K':Exit->AS->Sc P->Prop),(∀ A' s',K' .normal A' s'->NO N s' A' fun A' _=> ∃ x,ok x/\TB A' (I x))->(∀ e,e≠.normal->∀ A' s',K' e A' s'->K e A' s')->
    (T P N z B fun e A'=> ∃ s',K' e A' s')->T P N z B fun e A'=> ∃ s',K e A' s':=fun z K' hn ho hz=>by
    refine kY (ku hz fun e A' hq=>?_)
    obtain⟨s',hq⟩:=hq
    by_cases he:e=.normal
    subst he
    refine(ju s' (hn _ _ hq)).bind fun B' WY=>?_
    obtain⟨_,x,k1,k2⟩:=WY
    exact GG (qq k2).1 (qq k2).2 ⟨_,h3 x k1⟩
    exact Hx.of ⟨_,ho e he _ _ hq⟩
   refine BY e (fun hb=>step _ _ ?_ ?_ (TD (h1 hb))) (fun hb=>step _ _ ?_ ?_ (TC (h2 hb)))
   exact fun _ _ h=>h
   intro e he A' s' h;cases e <;> first | exact h | exact absurd rfl he
   exact fun _ _ h=>h
   intro e he A' s' h;cases e <;> first | exact h | exact absurd rfl he
   exact hB.elim
 | loop c ih=>
   intro A s K h
   refine mX ((ju s h).mono fun B hB=>?_)
   obtain⟨s',hB⟩:=hB
   split at hB
   rename_i X inv ok m k
   refine HT inv ok m (by obtain⟨x,a,b⟩:=hB.1;exact⟨x,a,qq b⟩) fun x hx=>ku (ih (hB.2 x hx)) fun e A' hq=>?_
   obtain⟨s',hq⟩:=hq
   cases e with
   | normal=>exact(ju s' hq).mono fun B ⟨_,y,a,b,c⟩=>⟨y,a,b,qq c⟩
   | _=>exact⟨_,hq⟩
   exact hB.elim
 | region id ops draw=>
   intro A s K h
   cases draw with
   | false=>exact mX ((ju s h).mono fun B ⟨s',hB⟩=>Ep (CM s' hB))
   | true=>
     refine mX ((ju s h).mono fun B hB=>?_)
     obtain⟨s',hB⟩:=hB
     split at hB
     split at hB
     rename_i e
     simp only[ZX]at e
     exact uz e.1.1.1 e.1.1.2 e.2 e.1.2 (oY (fun B ⟨B',hA,s',hB⟩=>⟨B',hA,CM s' hB⟩) _ (Kz _ hB))
     exact hB.elim
     exact hB.elim
 | _=>intro A s K h;exact h.elim
def oP(H:List (Nat×(Nat×V)))(xs:List l6):Bool:=xs.all fun r=>match r with
 | .key k=>(lk k H).isNone
 | .slot _=>true
def uQ(rs:List ResultVar)(Q:V->AS->Prop)(H:List (Nat×(Nat×V)))(A:AS):Prop:=match wT A rs with
    | some (C,xs)=>match jl P rs xs&&nodupB (xs.map (·.1))&&oP H (xs.map (·.1)) with
      | true=>cj C (Q (one (xs.map (·.2))) A)
      | false=>False
    | none=>False
def EK(N:Nat)(rs:List ResultVar)(Q:V->AS->Prop)(H:List (Nat×(Nat×V))):Exit->AS->Sc P->Prop:=fun e A s=>match e with
 | .normal=>NO N s A fun A _=>uQ (P:=P) rs Q H A
 | .ret=>uQ (P:=P) rs Q H A
 | _=>False
theorem pc{H:List (Nat×(Nat×V))}{xs:List l6}(h:oP H xs=true)(k:Nat)(hk:lk k H≠none):l6.key k ∉ xs:=fun c=>by
 unfold oP at h
 rw[ZI]at h
 have:=h _ c
 simp only[Option.isNone_iff_eq_none]at this
 exact hk this
theorem PF.Xa{f:FuncId} {args:List V} {H:List (Nat×(Nat×V))} {X:Type} {post:X->Prop} {E:X->V} {H':X->List (Nat×(Nat×V))}
 (h:PF P f args H (fun r h=> ∃ x,post x/\wk r (E x)=E x/\h=H' x)):PF P f args H (fun r h=> ∃ x,post x/\r=E x/\h=H' x):=
 ⟨h.1,fun w Pb Kb cargs F hi=>(h.2 w Pb Kb cargs F hi).mono fun e w'=>by
  rintro⟨r,x,H1,Pb',C4,F',rfl,⟨z,q1,q2,rfl⟩,hf⟩
  exact⟨E z,x,H' z,Pb',C4,F',rfl,⟨z,q1,rfl,rfl⟩,by have:=wj (E z) hf.val;rw[q2]at this;exact⟨this,hf.root,hf.bP,hf.nodup,hf.free,hf.sub,hf.bound,hf.mP,hf.mK,hf.PX,hf.ee⟩⟩⟩
theorem eK{f:FuncId} {fn:Func} {c:Code} {args:List V} {H:List (Nat×(Nat×V))} {N:Nat} {rs:List ResultVar} {X:Type} {post:X->Prop} {E:X->V} {H':X->List (Nat×(Nat×V))}
 (hf:P.funcs[f]? =some fn) (UN:(fn.name== "runtime.NumGoroutine")=false) (hb:fn.body=some c) (hN:fn.ntmps=N) (TJ:fn.results.toList=rs) (hlen:Nat.ble args.length N=true)
 (HK:List (Nat×(Nat×V))) (hHK:∀ x k,lk k (H' x)≠none->lk k HK≠none)
 (sc:Sc P) (VC:Prop) (he:VC=go N c ⟨enum 0 args,H⟩ sc (EK N rs (fun v A=> ∃ x,post x/\ra A (H' x) (wk v (E x)=E x)) HK)) (h:VC):
 PF P f args H (fun r h=> ∃ x,post x/\r=E x/\h=H' x):=by
 subst hN TJ
 rw[he]at h
 refine PF.Xa (Ap hf hb (dF hf UN (by rw[hb];rfl)) (Nat.le_of_ble_eq_true hlen) (kY (ku (GB _ h) ?_)))
 rintro e A0 ⟨s0,hq⟩
 have fin:∀ A,(e=.normal\/e=.ret)->uQ (P:=P) fn.results.toList (fun v A=> ∃ x,post x/\ra A (H' x) (wk v (E x)=E x)) HK A->FI P fn.results.toList (fun r h=> ∃ x,post x/\wk r (E x)=E x/\h=H' x) e A:=fun A he hq=>by
  unfold uQ at hq
  split at hq
  rename_i C xs e1
  split at hq
  rename_i e2
  simp only[ZX]at e2
  obtain⟨hC,x,q1,hq⟩:=lI.1 hq
  obtain⟨q2,q3⟩:=rB hq
  obtain⟨C',f1,f2⟩:=qu e1 hC
  exact⟨he,xs,H' x,qG f1 f2,nM e2.1.1,rV e2.1.2,q3,fun k hk=>pc e2.2 k (hHK x k hk),x,q1,q2,rfl⟩
  exact hq.elim
  exact hq.elim
 cases e with
 | normal=>exact(ju s0 hq).mono fun B ⟨_,hB⟩=>fin B (.inl rfl) hB
 | ret=>exact Hx.of (fin A0 (.inr rfl) hq)
 | _=>exact hq.elim
theorem Jk{f:FuncId} {fn:Func} {c:Code} {args:List V} {H:List (Nat×(Nat×V))} {N:Nat} {rs:List ResultVar} {E:V} {H':List (Nat×(Nat×V))}
 (hf:P.funcs[f]? =some fn) (UN:(fn.name== "runtime.NumGoroutine")=false) (hb:fn.body=some c) (hN:fn.ntmps=N) (TJ:fn.results.toList=rs) (hlen:Nat.ble args.length N=true)
 (sc:Sc P) (VC:Prop) (he:VC=go N c ⟨enum 0 args,H⟩ sc (EK N rs (fun v A=>ra A H' (wk v E=E)) H')) (h:VC):
 PF P f args H (fun r h=>r=E/\h=H'):=by
 subst hN TJ
 rw[he]at h
 have:=PF.Xa (X:=Unit) (post:=fun _=>True) (E:=fun _=>E) (H':=fun _=>H') (Ap (P:=P) (f:=f) (args:=args) (H:=H) (Q:=fun r h=> ∃ _:Unit,True/\wk r E=E/\h=H') hf hb (dF hf UN (by rw[hb];rfl)) (Nat.le_of_ble_eq_true hlen) (kY (ku (GB _ h) ?_)))
 exact this.mono fun r H ⟨_,_,h1,h2⟩=>⟨h1,h2⟩
 rintro e A0 ⟨s0,hq⟩
 have fin:∀ A,(e=.normal\/e=.ret)->uQ (P:=P) fn.results.toList (fun v A=>ra A H' (wk v E=E)) H' A->FI P fn.results.toList (fun r h=> ∃ _:Unit,True/\wk r E=E/\h=H') e A:=fun A he hq=>by
  unfold uQ at hq
  split at hq
  rename_i C xs e1
  split at hq
  rename_i e2
  simp only[ZX]at e2
  obtain⟨hC,hq⟩:=lI.1 hq
  obtain⟨q2,q3⟩:=rB hq
  obtain⟨C',f1,f2⟩:=qu e1 hC
  exact⟨he,xs,H',qG f1 f2,nM e2.1.1,rV e2.1.2,q3,fun k hk=>pc e2.2 k hk,(),trivial,q2,rfl⟩
  exact hq.elim
  exact hq.elim
 cases e with
 | normal=>exact(ju s0 hq).mono fun B ⟨_,hB⟩=>fin B (.inl rfl) hB
 | ret=>exact Hx.of (fin A0 (.inr rfl) hq)
 | _=>exact hq.elim
end
theorem fC{xs:List V}{j sz g0 o0 g o c:Nat}{v:V}(h:xs[j]? =some v):V.at g0 o0 (.own sz xs g o c) [j]=some (g,o+j*sz,v):=by simp only[V.at,h]
theorem lJ{xs ys:List V}{j sz g o c:Nat}{x v:V}(h:xs[j]? =some x)(e:xs.set j v=ys):V.set (.own sz xs g o c) [j] v=.own sz ys g o c:=by simp only[V.set,h,e]
theorem Tp{x y:V}{r:List V}(h:x=y):V.agg (x::r)=V.agg (y::r):=by rw[h]
theorem mS{x y u:V}{r:List V}{p:List Nat}(h:V.set x p u=y):V.set (.agg (x::r)) (0::p) u=V.agg (y::r):=by rw[<- h];rfl
theorem Ni{a0 a1 x y:V}{r:List V}(h:x=y):V.agg (a0::a1::x::r)=V.agg (a0::a1::y::r):=by rw[h]
theorem dz{a0 a1 x y u:V}{r:List V}{p:List Nat}(h:V.set x p u=y):V.set (.agg (a0::a1::x::r)) (2::p) u=V.agg (a0::a1::y::r):=by rw[<- h];rfl
theorem LL{a0 a1 a2 a3 a4 x y u:V}{r:List V}{p:List Nat}(h:V.set x p u=y):V.set (.agg (a0::a1::a2::a3::a4::x::r)) (5::p) u=V.agg (a0::a1::a2::a3::a4::y::r):=by rw[<- h];rfl
abbrev m6(x:Int):Prop:= -9223372036854775808<=x/\x<=9223372036854775807
abbrev Ov(x:Int):Prop:=0<=x/\x<=255
abbrev Ix{α:Type}(i:Int)(s:List α):Prop:=0<=i/\i<s.length
abbrev Sx{α:Type}(lo hi:Int)(s:List α):Prop:=0<=lo/\lo<=hi/\hi<=s.length
abbrev Ex(i:Int)(xs:List V)(v:V):Prop:=0<=i/\xs[Int.toNat i]? =some v
abbrev s4(a b:Int):Bool:=decide (a<b)
abbrev C6(a b:Int):Bool:=decide (a<=b)
abbrev s7(a b:Int):Bool:=decide (a>b)
abbrev x6(a b:Int):Bool:=decide (a>=b)
abbrev o6(a b:Int):Bool:=a==b
abbrev A7(a b:Int):Bool:=a != b
abbrev Br(b:Bool)(p q:Prop):Prop:=(b=true->p)/\(b=false->q)
abbrev Gd(b:Bool)(p:Prop):Prop:=b=true->p
abbrev Q(x y:V):Prop:=x=y
abbrev E(x:V):Prop:=x=x
abbrev Qr(g:Nat)(x:V)(g':Nat)(y:V):Prop:=(g,x)=(g',y)
abbrev Er(g:Nat)(x:V):Prop:=(g,x)=(g,x)
abbrev Z(g o:Nat):Prop:=(g,o)=(g,o)
abbrev In(i:Int)(n:Nat):Prop:=0<=i/\i<n
abbrev Pk(c a b:Bool):Prop:=(c=true->a=true)/\(c=false->b=true)
theorem nb:(∀ (p:Prop) [Decidable p],(decide p=true)=p)/\(∀ (p:Prop) [Decidable p],(decide p=false)= ¬ p)/\(∀ a b:Int,(¬ a<b)=(b<=a))/\(∀ a b:Int,(¬ a<=b)=(b<a))/\(∀ a b:Int,(a>b)=(b<a))/\(∀ a b:Int,(a>=b)=(b<=a))/\
 (∀ (α:Type) [BEq α] [LawfulBEq α] (a b:α),((a==b)=true)=(a=b))/\(∀ (α:Type) [BEq α] [LawfulBEq α] (a b:α),((a==b)=false)= ¬ a=b)/\
 (∀ (α:Type) [BEq α] [LawfulBEq α] (a b:α),((a != b)=true)= ¬ a=b)/\(∀ (α:Type) [BEq α] [LawfulBEq α] (a b:α),((a != b)=false)=(a=b))/\
 (∀ a b:Bool,((a||b)=true)=(a=true\/b=true))/\(∀ a b:Bool,((a||b)=false)=(a=false/\b=false))/\(∀ a b:Bool,((a&&b)=true)=(a=true/\b=true))/\(∀ a b:Bool,((a&&b)=false)=(a=true->b=false))/\
 (∀ a:Bool,((!a)=true)=(a=false))/\(∀ a:Bool,((!a)=false)=(a=true))/\(∀ a:Bool,(¬ a=true)=(a=false))/\(∀ a:Bool,(¬ a=false)=(a=true))/\(∀ p:Prop,(¬ ¬ p)=p)/\
 (∀ a:Bool,(a==true)=a)/\(∀ a:Bool,(a==false)=!a)/\(∀ a:Bool,(true&&a)=a)/\(∀ a:Bool,(a&&true)=a)/\((!true)=false)/\((!false)=true)/\(∀ a:Bool,(!!a)=a)/\(∀ (α β:Type) (f:α->β) (l:List α),(l.map f).length=l.length):=by
 refine⟨fun p _=>by simp,fun p _=>by simp,fun a b=>by simp,fun a b=>by simp,fun a b=>rfl,fun a b=>rfl,fun α _ _ a b=>by simp,fun α _ _ a b=>by simp,fun α _ _ a b=>by simp,fun α _ _ a b=>by simp,fun a b=>by simp,fun a b=>by simp,fun a b=>by simp,fun a b=>by cases a <;> simp,
  fun a=>by simp,fun a=>by simp,fun a=>by simp,fun a=>by simp,fun p=>by simp,fun a=>by simp,fun a=>by simp,fun a=>by simp,fun a=>by simp,rfl,rfl,fun a=>by simp,fun _ _ f l=>ZM ..⟩
section
variable {w w':World} {Pb Kb Pb':Nat->Prop} {N:Nat} {A A' A1 B:AS} {a:Act} {F:l6->List Nat}
end
theorem aq{P:Program} {f:FuncId} {fn:Func} {args:List V} {H:List (Nat×(Nat×V))} {N:Nat} {rs:List ResultVar} {E:V} {H':List (Nat×(Nat×V))}
 (hf:P.funcs[f]? =some fn) (sc:Sc P) (VC:Prop) (h:VC) (UN:(fn.name== "runtime.NumGoroutine")=false:=by kernel_rfl) (hb:fn.body.isSome=true:=by kernel_rfl) (hN:fn.ntmps=N:=by kernel_rfl) (TJ:fn.results.toList=rs:=by kernel_rfl) (hlen:Nat.ble args.length N=true:=by kernel_rfl)
 (he:VC=go N (fn.body.getD .skip) ⟨enum 0 args,H⟩ sc (EK N rs (fun v A=>ra A H' (wk v E=E)) H'):=by kernel_rfl):PF P f args H (fun r h=>r=E/\h=H'):=by
 cases WH:fn.body with
 | none=>rw[WH]at hb;cases hb
 | some c=>
   rw[WH]at he
   exact Jk hf UN WH hN TJ hlen sc VC he h
abbrev Sc.q{P:Program}(n:Nat)(k:Sc P):Sc P:=.r n [] k
theorem bI{c:Bool}{P Q p q:Prop}(a:p->P)(b:q->Q)(h1:(c=true)=p:=by first | (conv=>lhs;simp only[nb]) | rfl)(h2:(c=false)=q:=by first | (conv=>lhs;simp only[nb]) | rfl):Br c P Q:=⟨fun h=>a (h1 ▸ h),fun h=>b (h2 ▸ h)⟩
mutual
def V.lits:V->Option (List Value)
 | .lit x=>if x.oneCell' then some [x] else none
 | .agg vs=>V.qs vs
 | _=>none
def V.qs:List V->Option (List Value)
 | []=>some []
 | v::vs=>match v.lits,V.qs vs with
   | some a,some b=>some (a++b)
   | _,_=>none
end
def V.val? :V->Option Value
 | .lit x=>if x.oneCell' then some x else none
 | .agg us=>(V.qs us).map fun l=>.agg l.toArray
 | .ptr _ _ g o=>some (.pointer (some ⟨g,o,none⟩))
 | _=>none
section
variable {w w':World} {Pb Kb Pb':Nat->Prop} {N:Nat} {A A' B:AS} {a:Act} {F:l6->List Nat} {P:Program} {ops:Array Oper}
mutual
theorem yx:∀ (v:V) {l},v.lits=some l->∀ {cs F},R w Pb v cs F↔cs=l/\F=[]
 | .lit x,l,h,cs,F=>by
   simp only[V.lits]at h
   split at h
   rename_i hx;simp at h;subst h;simp only[R];exact⟨fun h=>h.2,fun h=>⟨hx,h⟩⟩
   simp at h
 | .agg vs,l,h,cs,F=>by simp only[V.lits]at h;simp only[R];exact qy vs h
 | .sl ..,_,h,_,_=>by simp[V.lits]at h
 | .tup _,_,h,_,_=>by simp[V.lits]at h
 | .gv _ _,_,h,_,_=>by simp[V.lits]at h
 | .own ..,_,h,_,_=>by simp[V.lits]at h
 | .hd ..,_,h,_,_=>by simp[V.lits]at h
 | .ow ..,_,h,_,_=>by simp[V.lits]at h
 | .om ..,_,h,_,_=>by simp[V.lits]at h
 | .mp ..,_,h,_,_=>by simp[V.lits]at h
 | .ptr ..,_,h,_,_=>by simp[V.lits]at h
 | .ep _,_,h,_,_=>by simp[V.lits]at h
 | .b7,_,h,_,_=>by simp[V.lits]at h
theorem qy:∀ (vs:List V) {l},V.qs vs=some l->∀ {cs F},RL w Pb vs cs F↔cs=l/\F=[]
 | [],l,h,cs,F=>by simp[V.qs]at h;subst h;simp[RL]
 | v::vs,l,h,cs,F=>by
   simp only[V.qs]at h
   split at h
   rename_i a b h1 h2
   simp at h;subst h
   simp only[RL,yx v h1,qy vs h2]
   exact⟨fun⟨_,_,_,_,e1,e2,⟨e3,e4⟩,e5,e6⟩=>⟨by rw[e1,e3,e5],by rw[e2,e4,e6];rfl⟩,fun⟨e1,e2⟩=>⟨_,_,_,_,e1,(by rw[e2];rfl:_=([]:List Nat)++[]),⟨rfl,rfl⟩,rfl,rfl⟩⟩
   simp at h
end
theorem Ky{v:V}{x y:Value}{Fx:List Nat}(h:v.val? =some y)(hr:RV w Pb v x Fx):x=y/\Fx=[]:=by
 cases v with
 | lit z=>
   simp only[V.val?]at h
   split at h
   obtain⟨_,e,hF⟩:=(hr:R w Pb (.lit z) [x] Fx);simp at e h;exact⟨by rw[e,h],hF⟩
   simp at h
 | agg us=>
   simp only[V.val?,Option.map_eq_some_iff]at h
   obtain⟨l,h1,rfl⟩:=h
   obtain⟨cs,rfl,hr⟩:=(hr:∃ cs,x=.agg cs/\RL w Pb us cs.toList Fx)
   obtain⟨e1,e2⟩:=(qy us h1).1 hr
   exact⟨by rw[<- e1],e2⟩
 | ptr r p g o=>
   simp only[V.val?,ZY]at h;subst h
   obtain⟨hF,e⟩:=(hr:R w Pb (.ptr r p g o) [x] Fx);simp at e;exact⟨e,hF⟩
 | _=>simp[V.val?]at h
theorem tM{v:V}{y:Value}(h:v.val? =some y):RV w Pb v y []:=by
 cases v with
 | lit z=>
   simp only[V.val?]at h
   split at h
   rename_i hz;simp at h;subst h;exact⟨hz,rfl,rfl⟩
   simp at h
 | agg us=>
   simp only[V.val?,Option.map_eq_some_iff]at h
   obtain⟨l,h1,rfl⟩:=h
   exact⟨_,rfl,(qy us h1).2 ⟨rfl,rfl⟩⟩
 | ptr r p g o=>
   simp only[V.val?,ZY]at h;subst h
   exact⟨rfl,rfl⟩
 | _=>simp[V.val?]at h
theorem xE(hs:r7 N Pb Kb A a w F){x:Operand}{y:Value}(h:(A.ev x).val? =some y):a.eval x=y:=by
 obtain⟨_,hr⟩:=dr hs x
 exact(Ky h hr).1
theorem Ar{v:V}{y:Value}{vs:List V}{xs:List Value}(h:v.val? =some y)(hr:RVs w Pb vs xs []):RVs w Pb (v::vs) (y::xs) []:=by
 have:=tM (w:=w) (Pb:=Pb) h
 refine⟨y,xs,[],[],rfl,rfl,?_,hr⟩
 cases v with
 | agg us=>exact this
 | lit _=>exact this
 | ptr _ _ _ _=>exact this
 | _=>simp[V.val?]at h
theorem qh{v1 v2:V}{y1 y2:Value}(h1:v1.val? =some y1)(h2:v2.val? =some y2):RV w Pb (.tup [v1,v2]) (.tuple #[y1,y2]) []:=
 ⟨_,rfl,Ar h1 (Ar h2 ⟨rfl,rfl⟩)⟩
theorem r7.mod(hs:r7 N Pb Kb A a w F) {t g:Nat} {v':V} (hg:g∈F (.slot t)) (hk:∀ k,k≠g->w'.heap[k]? =w.heap[k]?) (hsz:w'.heap.size=w.heap.size)
 (hv:RV w' Pb v' (a.tmps.getD t undef) (F (.slot t))):r7 N Pb Kb (A.put (some t) v') a w' F where
 size:=hs.size
 defers:=hs.defers
 slot:=fun i=>by
  rw[AS.au]
  split
  rename_i e;subst e;exact hv
  rename_i e
  refine lv _ (hs.slot i) (fun x hx=>hk x fun c=>?_) (fun x hx=>hk x fun c=>?_) (fun _ h=>h) (fun x hx c=>(hs.free _ x hx).1 (hs.sub x c))
  subst c;exact(hs.free _ _ hg).1 (hs.sub _ hx)
  subst c;exact hs.bP (.slot i) (.slot t) (fun c=>e (by injection c)) _ hx hg
 root:=fun k g' v h=>by
  obtain⟨F',e,hA⟩:=hs.root k g' v h
  refine⟨F',e,?_⟩
  have hne:∀ x,x∈g'::F'->x≠g:=fun x hx c=>by
   subst c;exact hs.bP (.key k) (.slot t) Z8 _ (by rw[e];exact hx) hg
  obtain⟨cs,cells,⟨e1,fr,hb,hfr⟩,hr,hc⟩:=hA
  exact⟨cs,cells,⟨e1,fr,(hk g' (hne g' Z8)).trans hb,hfr⟩,fi _ hr (fun x hx=>hk x fun c=>by subst c;exact(hs.free _ _ hg).1 (hs.sub _ hx)) (fun x hx=>hk x (hne x (by simp[hx]))) (fun _ h=>h)
   (fun x hx c=>(hs.free (.key k) x (by rw[e];simp[hx])).1 (hs.sub x c)),hc⟩
 bP:=hs.bP
 nodup:=hs.nodup
 free:=fun r x hx=>by rw[hsz];exact hs.free r x hx
 sub:=hs.sub
 bound:=fun x hx=>by rw[hsz];exact hs.bound x hx
theorem fN{o:Oper} {K:AS->Prop} {d:Nat} {v:V} (hd:o.dst=some d) (hN:d<N) (hK:K (A.put (some d) v))
 (h:∀ Pb Kb a w F,r7 N Pb Kb A a w F->∃ x,(execOp a.eval o).run P w=.ok (.value x) w/\RV w Pb v x []):D3 P N o A K:=
 gY (by rw[hd];exact hN) (by rw[hd];exact hK) h
end
section
variable {P:Program}
def VW:Cu P where
 X:=Unit
 pre N o A:=match o.op,o.dst with
  | .makeInterface T x,some d=>match Nat.blt d N,tD P T,(A.ev x).val? with
    | true,some _,some y=>(∃ td,P.underlying T=some td/\(∀ i,td≠.interface i))/\(Value.iface T y).oneCell'=true
    | _,_,_=>False
  | _,_=>False
 post _ o A:=match o.op,o.dst with
  | .makeInterface T x,some d=>match (A.ev x).val? with
    | some y=>A.put (some d) (.lit (.iface T y))
    | none=>A
  | _,_=>A
 ok:=by
  rintro N ⟨dst,op,ty,pos,after,B9⟩ A K-hp hK
  replace hK:=hK ()
  simp only at hp hK
  split at hp
  rename_i T x d
  split at hp
  rename_i td0 y e1 e2 e3
  obtain⟨⟨td,h1,h2⟩,h3⟩:=hp
  simp only[e3]at hK
  refine fN rfl (bu e1) hK fun Pb Kb a w F hs=>⟨.iface T y,?_,cU h3⟩
  have hy:=xE hs e3
  have hu:=ax (w:=w) h1
  cases td with
  | interface i=>exact absurd rfl (h2 i)
  | _=>simp[execOp,Instr.makeInterface,ZK,hu,hy]
  exact hp.elim
  exact hp.elim
def Vh(v:V):Cu P where
 X:=Unit
 pre N o A:=match o.op,o.dst with
  | .typeAssert x _ T true,some d=>match Nat.blt d N,A.ev x,v.val? with
    | true,.lit (.iface T' y),some y'=>(∃ td,P.underlying T=some td/\(∀ i,td≠.interface i))/\T'=T/\y'=y
    | _,_,_=>False
  | _,_=>False
 post _ o A:=match o.dst with
  | some d=>A.put (some d) (.tup [v,bV true])
  | none=>A
 ok:=by
  rintro N ⟨dst,op,ty,pos,after,B9⟩ A K-hp hK
  replace hK:=hK ()
  simp only at hp hK
  split at hp
  rename_i x T1 T d
  split at hp
  rename_i T' y y' e1 e2 e3
  obtain⟨⟨td,h1,h2⟩,rfl,rfl⟩:=hp
  refine fN rfl (bu e1) hK fun Pb Kb a w F hs=>⟨.tuple #[y',.bool true],?_,qh e3 rfl⟩
  have hy:=bH hs e2
  have hu:=ax (w:=w) h1
  cases td with
  | interface i=>exact absurd rfl (h2 i)
  | _=>simp[execOp,Instr.typeAssert,ZK,hu,hy]
  exact hp.elim
  exact hp.elim
def Un(z:ZT P):Cu P where
 X:=Unit
 pre N o A:=match o.op,o.dst with
  | .typeAssert x _ T true,some d=>match Nat.blt d N,A.ev x,T==z.T with
    | true,.lit (.iface T' y),true=>(∃ td,P.underlying T=some td/\(∀ i,td≠.interface i))/\T'≠T/\(∃ y,z.v.val? =some y/\∀ w,(zeroValue T).run P w=.ok y w)
    | _,_,_=>False
  | _,_=>False
 post _ o A:=match o.dst with
  | some d=>A.put (some d) (.tup [z.v,bV false])
  | none=>A
 ok:=by
  rintro N ⟨dst,op,ty,pos,after,B9⟩ A K-hp hK
  replace hK:=hK ()
  simp only at hp hK
  split at hp
  rename_i x T1 T d
  split at hp
  rename_i T' y e1 e2 e3
  obtain⟨⟨td,h1,h2⟩,hne,y2,hz,Us⟩:=hp
  refine fN rfl (bu e1) hK fun Pb Kb a w F hs=>⟨.tuple #[y2,.bool false],?_,qh hz rfl⟩
  have hy:=bH hs e2
  have hu:=ax (w:=w) h1
  cases td with
  | interface i=>exact absurd rfl (h2 i)
  | _=>simp[execOp,Instr.typeAssert,ZK,hu,hy,hne,Us]
  exact hp.elim
  exact hp.elim
def ij :List V->Option (List Value)
 | []=>some []
 | v::vs=>match v.val?,ij vs with
   | some y,some ys=>some (y::ys)
   | _,_=>none
theorem kP{N:Nat}{Pb Kb:Nat->Prop}{A:AS}{a:Act}{w:World}{F:l6->List Nat}(hs:r7 N Pb Kb A a w F):∀ (xs:List Operand) {ys:List Value},ij (xs.map A.ev)=some ys->xs.map a.eval=ys
 | [],ys,h=>by simp[ij]at h;simp[h]
 | x::xs,ys,h=>by
   simp only[Zw,ij]at h
   split at h
   rename_i y VN h1 h2
   simp at h;subst h
   rw[Zw,xE hs h1,kP hs xs h2]
   simp at h
def RJ:Cu P where
 X:=Unit
 pre N o A:=match o.op,o.dst with
  | .makeFunc fn first w4,some d=>match Nat.blt d N,ij (first.toList.map A.ev),ij (w4.toList.map A.ev) with
    | true,some l1,some l2=>(Value.func fn l1.toArray l2.toArray).oneCell'=true
    | _,_,_=>False
  | _,_=>False
 post _ o A:=match o.op,o.dst with
  | .makeFunc fn first w4,some d=>match ij (first.toList.map A.ev),ij (w4.toList.map A.ev) with
    | some l1,some l2=>A.put (some d) (.lit (.func fn l1.toArray l2.toArray))
    | _,_=>A
  | _,_=>A
 ok:=by
  rintro N ⟨dst,op,ty,pos,after,B9⟩ A K-hp hK
  replace hK:=hK ()
  simp only at hp hK
  split at hp
  rename_i fn first w4 d
  split at hp
  rename_i l1 l2 e1 e2 e3
  simp only[e2,e3]at hK
  refine fN rfl (bu e1) hK fun Pb Kb a w F hs=>⟨.func fn l1.toArray l2.toArray,?_,cU hp⟩
  have h1:=kP hs _ e2
  have h2:=kP hs _ e3
  have h1:first.map a.eval=l1.toArray:=by rw[<- h1];apply Array.ext';simp
  have h2:w4.map a.eval=l2.toArray:=by rw[<- h2];apply Array.ext';simp
  simp only[execOp,Instr.makeFunc,ZK,ZS,ZJ,h1,h2]
  exact hp.elim
  exact hp.elim
end
section
variable {w w':World} {Pb Kb Pb':Nat->Prop} {N:Nat} {A A' B:AS} {a:Act} {F:l6->List Nat} {P:Program} {ops:Array Oper}
theorem CK{v:V}{x:Value}(h:v.lits=some [x]):∀ n,RL w Pb (List.replicate n v) (List.replicate n x) []
 | 0=>⟨rfl,rfl⟩
 | n+1=>⟨[x],List.replicate n x,[],[],rfl,rfl,(yx v h).2 ⟨rfl,rfl⟩,CK h n⟩
theorem Lm{x:Value}{n:Nat}{zc:Array Value}(h:zc.toList=[x]):madeCells zc (n*1)=(List.replicate n x).toArray:=by
 have hz:zc= #[x]:=by rw[<- Array.toList_inj];simpa using h
 subst hz
 apply Array.ext
 simp[madeCells]
 intro i h1 h2;simp[madeCells,Nat.mod_one]at h1 ⊢
def Xg(z:ZT P)(n:Nat):Cu P where
 X:=Nat
 pre N o A:=match o.op,o.dst with
  | .makeSlice T l c,some d=>match Nat.blt d N,tD P T,ti P z.T with
    | true,some (.sl e),some i=>(e=z.T/\i.sz=1/\(∃ x,z.v.lits=some [x])/\z.v.n=1)/\A.ev l=.lit (.int .i64 n)/\A.ev c=.lit (.int .i64 n)/\1<=n/\n*i.J9<=140737488355328/\n<=9223372036854775807
    | _,_,_=>False
  | _,_=>False
 post g o A:=match o.dst with
  | some d=>A.put (some d) (.own 1 (List.replicate n z.v) g 0 n)
  | none=>A
 ok:=by
  rintro N ⟨dst,op,ty,pos,after,B9⟩ A K-hp hK
  simp only at hp hK
  split at hp
  rename_i T l c d
  split at hp
  rename_i e i e1 e2 e3
  obtain⟨⟨rfl,hsz,⟨x,hx⟩,Ut⟩,hl,hc,h1,QJ,h63⟩:=hp
  obtain⟨inf,z0,K4,hzero,hfl⟩:=z.ok
  obtain⟨QV,_,E',_,P8,Qt,_⟩:=il e3
  rw[K4]at E'
  obtain rfl:=Option.some.inj E'
  have hu:=gJ e2
  intro Pb Kb a w F Q hs
  have hl:=bH hs hl
  have hc:=bH hs hc
  have hz0:z0.cells.toList=[x]:=by
   have h1:=pY (w:=w) (Pb:=Pb) z.v hfl
   exact((yx z.v hx).1 h1).1
  have hm:=run_make (P:=P) w T z.T inf z0 hu K4 hzero .i64 .i64 n n Z9 Z9 (by rw[Qt,<- Int.natCast_mul,Nat.mul_comm];omega) Z9
  rw[Int.toNat_natCast,P8,hsz,Lm hz0]at hm
  have Mm:(execOp a.eval ⟨some d,.makeSlice T l c,ty,pos,after,B9⟩).run P w=.ok (.value (.slice (some ⟨w.heap.size,0,none⟩) n n)) (w.alloc (.cells (List.replicate n x).toArray z.T)):=by
   simp only[execOp,ZK,hl,hc,hm,ZS,ZJ]
  unfold Oper.wp
  rw[Mm,Oper.upon_value]
  have MD:=hs.mA (.cells (List.replicate n x).toArray z.T)
  have Ol: ¬ Kb w.heap.size:=fun h=>by have:=hs.bound _ h;omega
  have hR:R (w.alloc (.cells (List.replicate n x).toArray z.T)) Pb (.own 1 (List.replicate n z.v) w.heap.size 0 n) [.slice (some ⟨w.heap.size,0,none⟩) n n] [w.heap.size]:=
   .inr ⟨h1,Nat.one_pos,Z8,Z8,fun v QY=>by rw[List.eq_of_mem_replicate QY];exact Ut,fun c=>Ol (hs.sub _ c),_,[],_,rfl,CK hx n,⟨z.T,(0,0),ft w _,fun i _ h=>by omega⟩,Z8,fun j u hu=>by rw[ZO,List.getElem?_toArray];exact hu⟩
  exact⟨_,Pb,Kb,_,hK _,MD.put (bu e1) hR (fun r _ g hg=>by
   obtain rfl:=ZP.1 hg
   intro c;have:=(hs.free r _ c).2;omega) Z8 (fun g hg=>by
   obtain rfl:=ZP.1 hg
   exact⟨Ol,by rw[dh];omega⟩),fun _ h=>h,fun _ h=>h,fun _ h=>.inl h,w5.alloc hs.bound _⟩
  exact hp.elim
  exact hp.elim
def bM:List (BL×Value)->BL->Option Value
 | [],_=>none
 | p::r,k=>if p.1=k then some p.2 else bM r k
def dI:List (BL×Value)->BL->Value->List (BL×Value)
 | [],k,x=>[(k,x)]
 | p::r,k,x=>if p.1=k then (k,x)::r else p::dI r k x
theorem str_inj{a b:BL}:((⟨a.toArray⟩:ByteArray)== ⟨b.toArray⟩)=decide (a=b):=by
 rw[ZE,MapKept.bytes_beq]
 simp
theorem jt(k:BL):∀ (es:List (BL×Value)) (l:List MapEntry) (i:Nat),l.map (fun e=>(e.key,e.val))=es.map (fun p=>(Value.string ⟨p.1.toArray⟩,p.2))->
 (bM es k=none->Instr.findNow .string (.string ⟨k.toArray⟩) l i=some none)/\
 (∀ x,bM es k=some x->∃ j,Instr.findNow .string (.string ⟨k.toArray⟩) l i=some (some (i+j,x))/\j<l.length/\(∃ e,l[j]? =some e/\e.key=.string ⟨k.toArray⟩)/\
  ∀ y,(l.modify j fun e=>{ e with key:=.string ⟨k.toArray⟩,val:=y }).map (fun e=>(e.key,e.val))=(dI es k y).map (fun p=>(Value.string ⟨p.1.toArray⟩,p.2)))
 | [],l,i,h=>by
   have:l=[]:=by simpa using h
   subst this
   simp[bM,Instr.findNow]
 | p::r,l,i,h=>by
   cases l with
   | nil=>simp at h
   | cons e l=>
     simp only[Zw,List.cons.injEq,ZV]at h
     obtain⟨⟨h1,h2⟩,h3⟩:=h
     obtain⟨i1,i2⟩:=jt k r l (i+1) h3
     simp only[bM,dI,Instr.findNow,h1,Instr.sameNow,str_inj]
     by_cases hk:p.1=k
     subst hk
     simp only[if_true,decide_true]
     refine⟨Z8,fun x hx=>⟨0,?_,Z8,⟨e,rfl,h1⟩,fun y=>?_⟩⟩
     simp at hx;rw[h2,hx];rfl
     simp[h3]
     have K3: ¬ k=p.1:=fun c=>hk c.symm
     simp only[if_neg hk,decide_eq_false K3]
     refine⟨i1,fun x hx=>?_⟩
     obtain⟨j,j1,j2,⟨e',j3,j4⟩,j5⟩:=i2 x hx
     refine⟨j+1,by rw[j1];congr 2;simp;omega,Z0,⟨e',by simpa using j3,j4⟩,fun y=>?_⟩
     have:=j5 y
     simp only[List.modify_succ_cons,Zw,this,h1,h2]
theorem rz(k:BL)(y:Value):∀ (es:List (BL×Value)),bM es k=none->dI es k y=es++[(k,y)]
 | [],_=>rfl
 | p::r,h=>by
   simp only[bM]at h
   split at h
   simp at h
   rename_i hk;simp only[dI,if_neg hk,rz k y r h,List.cons_append]
theorem lL{e:Bool}{n:Nat}{T:Nat}{k:ByteArray}(h:P.underlying T=some .string):(Instr.checkKey e (n+1) T (.string k)).run P w=.ok () w:=by
 unfold Instr.checkKey
 simp[ZK,ax (w:=w) h]
theorem wZ{k:ByteArray}{n:Nat}:Instr.sameBits n (.string k) (.string k)=true:=by
 unfold Instr.sameBits
 exact(MapKept.bytes_beq k k).2 rfl
def Vl:Cu P where
 X:=Nat
 pre N o A:=match o.op,o.dst with
  | .makeMap _ none,some d=>match Nat.blt d N with
    | true=>True
    | false=>False
  | _,_=>False
 post g o A:=match o.dst with
  | some d=>A.put (some d) (.om [] g)
  | none=>A
 ok:=by
  rintro N ⟨dst,op,ty,pos,after,B9⟩ A K-hp hK
  simp only at hp hK
  split at hp
  rename_i T d
  split at hp
  rename_i e1
  intro Pb Kb a w F Q hs
  have Mm:(execOp a.eval ⟨some d,.makeMap T none,ty,pos,after,B9⟩).run P w=.ok (.value (.map (some w.heap.size))) (w.alloc (.map #[] 0)):=rfl
  unfold Oper.wp
  rw[Mm,Oper.upon_value]
  have MD:=hs.mA (.map #[] 0)
  have Ol: ¬ Kb w.heap.size:=fun h=>by have:=hs.bound _ h;omega
  have hR:R (w.alloc (.map #[] 0)) Pb (.om [] w.heap.size) [.map (some w.heap.size)] [w.heap.size]:=
   ⟨rfl,rfl,fun c=>Ol (hs.sub _ c),#[],0,ft w _,rfl,Z8,Z8⟩
  exact⟨_,Pb,Kb,_,hK _,MD.put (bu e1) hR (fun r _ g hg=>by
   obtain rfl:=ZP.1 hg
   intro c;have:=(hs.free r _ c).2;omega) Z8 (fun g hg=>by
   obtain rfl:=ZP.1 hg
   exact⟨Ol,by rw[dh];omega⟩),fun _ h=>h,fun _ h=>h,fun _ h=>.inl h,w5.alloc hs.bound _⟩
  exact hp.elim
  exact hp.elim
def TA(t0:Nat)(es:List (BL×Value))(k:BL)(y:Value):Cu P where
 X:=Unit
 pre N o A:=match o.op,o.dst with
  | .mapUpdate T m kx x,none=>match tD P T,Nat.blt t0 N with
    | some (.map kt _),true=>match tD P kt,A.ev m,A.get t0 with
      | some .str,.lit (.map (some g)),.om NP g'=>(g'=g/\NP=es)/\A.ev kx=sV k/\(A.ev x).val? =some y
      | _,_,_=>False
    | _,_=>False
  | _,_=>False
 post _ o A:=match A.get t0 with
  | .om _ g=>A.put (some t0) (.om (dI es k y) g)
  | _=>A
 ok:=by
  rintro N ⟨dst,op,ty,pos,after,B9⟩ A K-hp hK
  replace hK:=hK ()
  simp only at hp hK
  split at hp
  rename_i T m kx x
  split at hp
  rename_i kt et e1 e2
  split at hp
  rename_i g NP g' e3 e4 e5
  obtain⟨⟨rfl,rfl⟩,hk,hy⟩:=hp
  rw[e5]at hK
  intro Pb Kb a w F Q hs
  have hm:=bH hs e4
  have hk:=bH hs hk
  have hy:=xE hs hy
  have h0:=hs.slot t0
  rw[e5]at h0
  have h0:R w Pb (.om NP g') [a.tmps.getD t0 undef] (F (.slot t0)):=h0
  obtain⟨hF,hc,Wo,en,cl,hb,QI,hnd,hcl⟩:=h0
  obtain⟨td,hu,hd⟩:=cb e1
  have hu:P.underlying T=some (.map kt et):=by
   cases td <;> simp_all[da]
  obtain⟨QS,M7,Py⟩:=cb e3
  have M7:P.underlying kt=some .string:=by
   cases QS <;> simp_all[da]
  have R9:∀ w:World,(Instr.checkKey false 10000 kt (.string (Str k))).run P w=.ok () w:=fun w=>lL M7
  obtain⟨f1,f2⟩:=jt k NP en.toList 0 QI
  have hw:∃ PE QO,(Instr.mapUpdate T (.map (some g')) (.string (Str k)) y).run P w=.ok () { w with heap:=w.heap.setIfInBounds g' (.map PE QO) }/\
   PE.toList.map (fun e=>(e.key,e.val))=(dI NP k y).map (fun p=>(.string ⟨p.1.toArray⟩,p.2))/\(PE.toList.map (·.born)).Nodup/\∀ e∈PE.toList,e.born<QO:=by
   cases Pj:bM NP k with
   | none=>
     have:=f1 Pj
     refine⟨en.push { key:=.string (Str k),val:=y,born:=cl },cl+1,?_,?_,?_,?_⟩
     rw[show (⟨k.toArray⟩:ByteArray)=Str k from rfl]at this
     simp[Instr.mapUpdate,run_underlying hu,MapKept.run_getObj_map hb,R9,MapKept.run_findKey M7 this,MapKept.run_setObj_map _ hb,Result.andThen]
     rw[rz k y NP Pj];simp[QI,Str]
     simp only[Array.toList_push,Zz,Zw,List.map_nil]
     rw[List.nodup_append]
     refine⟨hnd,Z8,fun a ha b hb=>?_⟩
     simp only[ZP]at hb
     obtain⟨e,he,rfl⟩:=List.mem_map.1 ha
     have:=hcl e he;omega
     intro e he
     simp only[Array.toList_push,ZN,ZP]at he
     rcases he with he | rfl
     have:=hcl e he;omega
     simp
   | some x0=>
     obtain⟨j,j1,j2,⟨e,j3,j4⟩,j5⟩:=f2 x0 Pj
     rw[ZO]at j1
     refine⟨en.modify j fun e=>{ e with key:=.string (Str k),val:=y },cl,?_,?_,?_,?_⟩
     rw[show (⟨k.toArray⟩:ByteArray)=Str k from rfl]at j1
     have Ta:((en[j]?).map (·.key)).getD (.string (Str k))=.string (Str k):=by
      have:en[j]? =some e:=by rw[<- Array.getElem?_toList];exact j3
      rw[this];exact j4
     simp[Instr.mapUpdate,run_underlying hu,MapKept.run_getObj_map hb,R9,MapKept.run_findKey M7 j1,Ta,Instr.keyThatStays,wZ,MapKept.run_setObj_map _ hb,Result.andThen]
     rw[Array.toList_modify];exact j5 y
     rw[Array.toList_modify]
     have:(en.toList.modify j fun e=>{ e with key:=.string (Str k),val:=y }).map (·.born)=en.toList.map (·.born):=by
      apply List.ext_getElem?
      intro i
      simp only[List.getElem?_map,List.getElem?_modify]
      cases en.toList[i]? with
      | none=>rfl
      | some e=>simp only[Option.map_eq_map,Option.map_some];split <;> rfl
     rw[this];exact hnd
     intro e he
     rw[Array.toList_modify]at he
     obtain⟨i,hi⟩:=List.mem_iff_getElem?.1 he
     rw[List.getElem?_modify]at hi
     obtain⟨e',h1,h2⟩:=Option.map_eq_some_iff.1 hi
     have:=hcl e' (ZD h1)
     rw[<- h2];split <;> simpa using this
  obtain⟨PE,QO,x8,q1,q2,q3⟩:=hw
  have TU:g'<w.heap.size:=(hs.free (.slot t0) g' (by rw[hF];simp)).2
  have Mm:(execOp a.eval ⟨none,.mapUpdate T m kx x,ty,pos,after,B9⟩).run P w=.ok .skip { w with heap:=w.heap.setIfInBounds g' (.map PE QO) }:=by
   simp[execOp,hm,hk,hy,x8,Result.andThen]
  unfold Oper.wp
  rw[Mm,Oper.upon_skip]
  have hne:∀ k,k≠g'->(w.heap.setIfInBounds g' (.map PE QO))[k]? =w.heap[k]? :=fun k hk=>by
   rw[Array.getElem?_setIfInBounds_ne (Ne.symm hk)]
  refine⟨_,Pb,Kb,F,hK,hs.mod (w':={ w with heap:=w.heap.setIfInBounds g' (.map PE QO) }) (t:=t0) (g:=g') (by rw[hF];simp) hne Z8 ?_,fun _ h=>h,fun _ h=>h,fun _ h=>.inl h,⟨rfl,rfl,rfl,Z8,fun k hk=>hne k fun c=>(hs.free (.slot t0) g' (by rw[hF];simp)).1 (c ▸ hk),fun k c _ _ hk=>⟨c,by rw[hne k (by rintro rfl;rw[hb]at hk;cases hk)];exact hk,rfl⟩⟩⟩
  exact(⟨hF,hc,Wo,PE,QO,(by simp[TU]:(w.heap.setIfInBounds g' (.map PE QO))[g']? =some (.map PE QO)),q1,q2,q3⟩:R { w with heap:=w.heap.setIfInBounds g' (.map PE QO) } Pb (.om (dI NP k y) g') _ _)
  exact hp.elim
  exact hp.elim
  exact hp.elim
def mlC(t0:Nat):Cu P where
 X:=Unit
 pre N o A:=match o.op,o.dst with
  | .call ⟨.builtin .len,⟨[x]⟩,⟨[T]⟩⟩,some d=>match tD P T,Nat.blt d N with
    | some (.map _ _),true=>match A.ev x,A.get t0 with
      | .lit (.map (some g)),.om _ g'=>g'=g
      | _,_=>False
    | _,_=>False
  | _,_=>False
 post _ o A:=match o.dst,A.get t0 with
  | some d,.om es _=>A.put (some d) (.lit (.int .i64 es.length))
  | _,_=>A
 ok:=by
  rintro N ⟨dst,op,ty,pos,after,B9⟩ A K-hp hK
  replace hK:=hK ()
  simp only at hp hK
  split at hp
  rename_i x T d
  split at hp
  rename_i kt et e1 e2
  split at hp
  rename_i g es g' e3 e4
  subst hp
  rw[e4]at hK
  refine fN rfl (bu e2) hK fun Pb Kb a w F hs=>⟨.int .i64 es.length,?_,cU rfl⟩
  have hm:=bH hs e3
  have h0:=hs.slot t0
  rw[e4]at h0
  have h0:R w Pb (.om es g') [a.tmps.getD t0 undef] (F (.slot t0)):=h0
  obtain⟨hF,hc,Wo,en,cl,hb,QI,hnd,hcl⟩:=h0
  obtain⟨td,hu,hd⟩:=cb e1
  have hu:P.underlying T=some (.map kt et):=by
   cases td <;> simp_all[da]
  have hl:en.size=es.length:=by
   have:=Zo List.length QI
   simpa using this
  have hr:((#[x]:Array Operand).map a.eval)= #[.map (some g')]:=by simp[hm]
  simp[execOp,resolve,Deferred.ofValue,invoke,builtin,Builtin.len_,hm,run_underlying hu,MapKept.run_getObj_map hb,Result.andThen,hl,goInt]
  exact hp.elim
  exact hp.elim
  exact hp.elim
def lkC(es:List (BL×Value))(k:BL)(v:V)(ok:Bool):Cu P where
 X:=Unit
 pre N o A:=match o.op,o.dst with
  | .lookup T x kx true,some d=>match tD P T,Nat.blt d N with
    | some (.map kt et),true=>match tD P kt,A.ev x with
      | some .str,.mp NP=>(NP=es)/\A.ev kx=sV k/\((ok=true/\∃ y,bM es k=some y/\v.val? =some y)\/(ok=false/\bM es k=none/\∃ y,v.val? =some y/\∀ w,(zeroValue et).run P w=.ok y w))
      | _,_=>False
    | _,_=>False
  | _,_=>False
 post _ o A:=match o.dst with
  | some d=>A.put (some d) (.tup [v,bV ok])
  | none=>A
 ok:=by
  rintro N ⟨dst,op,ty,pos,after,B9⟩ A K-hp hK
  replace hK:=hK ()
  simp only at hp hK
  split at hp
  rename_i T x kx d
  split at hp
  rename_i kt et e1 e2
  split at hp
  rename_i NP e3 e4
  obtain⟨rfl,hk,hy⟩:=hp
  obtain⟨td,hu,hd⟩:=cb e1
  have hu:P.underlying T=some (.map kt et):=by
   cases td <;> simp_all[da]
  obtain⟨QS,M7,Py⟩:=cb e3
  have M7:P.underlying kt=some .string:=by
   cases QS <;> simp_all[da]
  have Mq:∃ y,v.val? =some y:=by
   rcases hy with ⟨_,y,_,h⟩ | ⟨_,_,y,h,_⟩ <;> exact⟨y,h⟩
  obtain⟨y,hv⟩:=Mq
  refine fN rfl (bu e2) hK fun Pb Kb a w F hs=>⟨.tuple #[y,.bool ok],?_,qh hv rfl⟩
  have hk:=bH hs hk
  obtain⟨_,hx⟩:=dr hs x
  rw[e4]at hx
  have hx:R w Pb (.mp NP) [a.eval x] _:=hx
  obtain⟨_,g,hc,_,en,cl,hb,QI,_,_⟩:=hx
  simp only[List.cons.injEq,and_true]at hc
  obtain⟨f1,f2⟩:=jt k NP en.toList 0 QI
  have R9:∀ e,(Instr.checkKey e 10000 kt (.string (Str k))).run P w=.ok () w:=fun e=>lL M7
  rcases hy with ⟨rfl,y',h1,h2⟩ | ⟨rfl,h1,y',h2,Us⟩
  rw[hv]at h2;obtain rfl:=Option.some.inj h2
  obtain⟨j,j1,_⟩:=f2 _ h1
  rw[show (⟨k.toArray⟩:ByteArray)=Str k from rfl]at j1
  simp[execOp,hc,hk,Instr.lookup,run_underlying hu,MapKept.run_getObj_map hb,R9,MapKept.run_findKey M7 j1,Result.andThen]
  rw[hv]at h2;obtain rfl:=Option.some.inj h2
  have j1:=f1 h1
  rw[show (⟨k.toArray⟩:ByteArray)=Str k from rfl]at j1
  simp[execOp,hc,hk,Instr.lookup,run_underlying hu,MapKept.run_getObj_map hb,R9,MapKept.run_findKey M7 j1,Result.andThen,Us]
  exact hp.elim
  exact hp.elim
  exact hp.elim
def Xh:Cu P where
 X:=Unit
 pre N o A:=match o.op,o.dst with
  | .call ⟨.builtin .len,⟨[x]⟩,⟨[T]⟩⟩,some d=>match tD P T,Nat.blt d N with
    | some (.map _ _),true=>match A.ev x with
      | .mp _=>True
      | _=>False
    | _,_=>False
  | _,_=>False
 post _ o A:=match o.op,o.dst with
  | .call ⟨.builtin .len,⟨[x]⟩,⟨[_]⟩⟩,some d=>match A.ev x with
    | .mp es=>A.put (some d) (.lit (.int .i64 es.length))
    | _=>A
  | _,_=>A
 ok:=by
  rintro N ⟨dst,op,ty,pos,after,B9⟩ A K-hp hK
  replace hK:=hK ()
  simp only at hp hK
  split at hp
  rename_i x T d
  split at hp
  rename_i kt et e1 e2
  split at hp
  rename_i es e3
  simp only[e3]at hK
  refine fN rfl (bu e2) hK fun Pb Kb a w F hs=>⟨.int .i64 es.length,?_,cU rfl⟩
  obtain⟨_,hx⟩:=dr hs x
  rw[e3]at hx
  have hx:R w Pb (.mp es) [a.eval x] _:=hx
  obtain⟨_,g,hm,_,en,cl,hb,QI,_,_⟩:=hx
  simp only[List.cons.injEq,and_true]at hm
  obtain⟨td,hu,hd⟩:=cb e1
  have hu:P.underlying T=some (.map kt et):=by
   cases td <;> simp_all[da]
  have hl:en.size=es.length:=by
   have:=Zo List.length QI
   simpa using this
  simp[execOp,resolve,Deferred.ofValue,invoke,builtin,Builtin.len_,hm,run_underlying hu,MapKept.run_getObj_map hb,Result.andThen,hl,goInt]
  exact hp.elim
  exact hp.elim
  exact hp.elim
end
theorem drop_cons{α:Type}{l:List α}{i:Nat}(h:i<l.length)(d:α):l.drop i=l.getD i d::l.drop (i+1):=by
 rw[List.drop_eq_getElem_cons h,ZZ,ZR h];rfl
theorem aW{α:Type}{l:List α}{i:Nat}(h:i<l.length)(d:α):l.take (i+1)=l.take i++[l.getD i d]:=by
 rw[List.take_add_one,ZZ,ZR h];rfl
theorem all_false{α:Type}{l:List α}{p:α->Bool}{i:Nat}{d:α}(h:i<l.length)(hp:p (l.getD i d)=false):l.all p=false:=by
 rw[List.all_eq_false]
 refine⟨l.getD i d,?_,by rw[hp];decide⟩
 rw[ZZ,ZR h];exact List.getElem_mem h
theorem all_true{α:Type}{l:List α}{p:α->Bool}{d:α}(hp:∀ j,j<l.length->p (l.getD j d)=true):l.all p=true:=by
 rw[ZI]
 intro x hx
 obtain⟨j,hj,rfl⟩:=List.getElem_of_mem hx
 have:=hp j hj
 rwa [ZZ,ZR hj]at this
theorem bE{p:Nat->Prop}{i:Nat}(h:∀ j,j<i->p j)(hi:p i):∀ j,j<i+1->p j:=fun j hj=>by
 rcases Nat.lt_succ_iff_lt_or_eq.1 hj with h' | rfl
 exact h j h'
 exact hi
def ab(c:UInt8):BL->BL×BL×Bool
 | []=>([],[],false)
 | x::r=>if x=c then ([],r,true) else (x::(ab c r).1,(ab c r).2.1,(ab c r).2.2)
def fG(b:UInt8):Bool:=decide (97<=b.toNat/\b.toNat<=122)
def dE(b:UInt8):Bool:=decide ((97<=b.toNat/\b.toNat<=122)\/(48<=b.toNat/\b.toNat<=57)\/b.toNat=46\/b.toNat=45)
def bW(b:UInt8):Int:=if 48<=b.toNat/\b.toNat<=57 then b.toNat-48 else if 97<=b.toNat/\b.toNat<=102 then b.toNat-87 else if 65<=b.toNat/\b.toNat<=70 then b.toNat-55 else -1
def z8(n lo hi:Int):Bool:=decide (lo<=n/\n<=hi)
def fa(s:BL):Bool:=s.all fG
def ck(s:BL):Bool:=fa s&&z8 s.length 1 5
def bp(s:BL):Bool:=fa s&&z8 s.length 1 8
def eM(s part:BL)(from_:Nat):Int:=
 if h:from_+part.length<=s.length then (if (s.drop from_).take part.length=part then (from_:Int) else eM s part (from_+1)) else -1
 termination_by s.length+1-from_
def gW(b:UInt8):Bool:=dE b||decide (b.toNat=47\/b.toNat=42\/b.toNat=63\/b.toNat=37\/(65<=b.toNat/\b.toNat<=70))
def jI(p:BL)(j:Nat):Bool:=gW (p.getD j 0)||(decide ((p.getD j 0).toNat=36)&&decide (j+1=p.length))
def aZ(p:BL):Bool:=decide (1<=p.length/\p.length<=16/\(p.getD 0 0).toNat=47/\∀ j,j<p.length->jI p j=true)
def js:BL:=[48,49,50,51,52,53,54,55,56,57,65,66,67,68,69,70]
def eG(b:UInt8):BL:=[37,js.getD (b.toNat / 16) 0,js.getD (b.toNat % 16) 0]
def ef(b:UInt8):BL:=if dE b then [b] else eG b
def cJ(a b:UInt8):UInt8:=UInt8.ofNat (bW a*16+bW b).toNat
def bw:BL->Option BL
 | []=>some []
 | [c]=>if c.toNat=37 then none else some (ef c)
 | [c,d]=>if c.toNat=37\/d.toNat=37 then none else some (ef c++ef d)
 | c::a::b::r=>if c.toNat=37 then (if 0<=bW a/\0<=bW b then (bw r).map (ef (cJ a b)++ ·) else none) else (bw (a::b::r)).map (ef c++ ·)
def bF(s:BL):BL×Bool:=if s.length<=60 then (match bw s with | some x=>(x,true) | none=>([],false)) else ([],false)
def eF(s:BL):Bool:=(bF s).2&&((bF s).1==s)
theorem CH{c:UInt8}{r:BL}(h: ¬ c.toNat=37):bw (c::r)=(bw r).map (ef c++ ·):=by
 match r with
 | []=>simp[bw,h]
 | [d]=>by_cases hd:d.toNat=37 <;> simp[bw,h,hd]
 | a::b::r=>simp[bw,h]
theorem mr{s:BL}{i:Nat}(hi:i<s.length)(h: ¬ (s.getD i 0).toNat=37):bw (s.drop i)=(bw (s.drop (i+1))).map (ef (s.getD i 0)++ ·):=by
 rw[drop_cons hi 0,CH h]
theorem oW{s:BL}{i:Nat}(hi:i+2<s.length)(h:(s.getD i 0).toNat=37)(h1:0<=bW (s.getD (i+1) 0))(h2:0<=bW (s.getD (i+2) 0)):
 bw (s.drop i)=(bw (s.drop (i+3))).map (ef (cJ (s.getD (i+1) 0) (s.getD (i+2) 0))++ ·):=by
 rw[drop_cons (by omega:i<s.length) 0,drop_cons (by omega:i+1<s.length) 0,drop_cons (by omega:i+1+1<s.length) 0]
 simp only[bw,h,if_true,h1,h2,and_self,Zr]
theorem xw{s:BL}{i:Nat}(hi:i<s.length)(h:(s.getD i 0).toNat=37)(h1:s.length<=i+2\/bW (s.getD (i+1) 0)<0\/bW (s.getD (i+2) 0)<0):bw (s.drop i)=none:=by
 rw[drop_cons hi 0]
 by_cases h2:i+2<s.length
 rw[drop_cons (by omega:i+1<s.length) 0,drop_cons (by omega:i+1+1<s.length) 0]
 simp only[bw,h,if_true]
 rw[if_neg]
 rintro⟨k1,k2⟩
 have e:i+1+1=i+2:=rfl
 rw[e]at k2
 omega
 by_cases h3:i+1<s.length
 rw[drop_cons h3 0,ZC Z9]
 simp only[bw,h,true_or,if_true]
 rw[ZC Z9]
 simp only[bw,h,if_true]
theorem fe(b:UInt8):bW b<16:=by unfold bW;repeat (split <;> try omega)
theorem gy(b:UInt8): -1<=bW b:=by unfold bW;repeat (split <;> try omega)
theorem rn{a b:UInt8}(h1:0<=bW a)(h2:0<=bW b):((cJ a b).toNat:Int)=bW a*16+bW b:=by
 have:=fe a;have:=fe b
 unfold cJ
 rw[UInt8.toNat_ofNat']
 omega
theorem pd{α:Type}{l:List α}{k:Nat}(h:k<l.length)(d:α):(l.take (k+1)).drop k=[l.getD k d]:=by
 rw[aW h d,List.drop_append_of_le_length Z0,ZC Z0];rfl
theorem eA(b:UInt8):(ef b).length<=3:=by unfold ef eG;split <;> simp
theorem rX:∀ (s:BL) {x:BL},bw s=some x->x.length<=3*s.length
 | [],x,h=>by simp[bw]at h;subst h;simp
 | [c],x,h=>by
   simp only[bw]at h;split at h
   simp at h
   simp only[ZY]at h;subst h;have:=eA c;simpa using this
 | [c,d],x,h=>by
   simp only[bw]at h;split at h
   simp at h
   simp only[ZY]at h;subst h;have:=eA c;have:=eA d;simp;omega
 | c::a::b::r,x,h=>by
   simp only[bw]at h
   split at h
   split at h
   simp only[Option.map_eq_some_iff]at h
   obtain⟨y,hy,rfl⟩:=h
   have:=rX r hy;have:=eA (cJ a b);simp;omega
   simp at h
   simp only[Option.map_eq_some_iff]at h
   obtain⟨y,hy,rfl⟩:=h
   have:=rX (a::b::r) hy;have:=eA c;simp at *;omega
theorem nO(s:BL):(bF s).1.length<=180:=by
 unfold bF
 split
 split
 rename_i x h;have:=rX s h;simp only;omega
 simp
 simp
def ah(c:UInt8):BL->List BL
 | []=>[[]]
 | x::r=>if x=c then []::ah c r else (x::(ah c r).headD [])::(ah c r).tail
theorem sS(c:UInt8):∀ r,ah c r=(ab c r).1::(if (ab c r).2.2=true then ah c (ab c r).2.1 else [])
 | []=>rfl
 | x::r=>by
   have ih:=sS c r
   by_cases h:x=c
   simp only[ah,ab,if_pos h,if_true]
   simp only[ah,ab,if_neg h]
   rw[ih];rfl
theorem xM(c:UInt8):∀ r,(ab c r).2.2=true->(ab c r).2.1.length<r.length
 | [],h=>by simp[ab]at h
 | x::r,h=>by
   simp only[ab]at h ⊢
   by_cases e:x=c
   rw[if_pos e];simp
   rw[if_neg e]at h ⊢
   have:=xM c r h
   simp only[ZU];omega
theorem kE(c:UInt8):∀ r,(ab c r).1.length+(ab c r).2.1.length<=r.length
 | []=>by simp[ab]
 | x::r=>by
   simp only[ab]
   by_cases e:x=c
   rw[if_pos e];simp
   rw[if_neg e];have:=kE c r;simp only[ZU];omega
def cv(o:List BL)(p:BL):List BL:=if p=[]\/p=[46] then o else if p=[46,46] then o.dropLast else o++[p]
def bG(ps:List BL):List BL:=ps.foldl cv []
theorem fU{ps:List BL}{i:Nat}(h:i<ps.length):bG (ps.take (i+1))=cv (bG (ps.take i)) (ps.getD i []):=by
 unfold bG
 rw[aW h [],List.foldl_append];rfl
structure r8 where
 c9:BL
 a8:List BL
 asks:Bool
 ask:BL
def bS:List BL->BL
 | []=>[]
 | [p]=>p
 | p::q::r=>p++[47]++bS (q::r)
theorem kX(p:BL):∀ (ps:List BL),bS (ps++[p])=if ps=[] then p else bS ps++[47]++p
 | []=>rfl
 | [q]=>by simp[bS]
 | q::r::t=>by
   have:=kX p (r::t)
   simp only[List.cons_append,bS]at this ⊢
   rw[this,if_neg Z8,if_neg Z8]
   simp[List.append_assoc]
def bD(a:r8):BL:=[47]++bS a.a8++(if a.asks=true then [63]++a.ask else [])
def cd(a:r8):BL:=[47,47]++a.c9++bD a
def dM(p:BL):Bool:=eF p&&!(p==[])&&!(p==[46])&&!(p==[46,46])
def aG(a:r8):Bool:=ck a.c9&&decide (a.a8.length<=5)&&eF a.ask&&(a.asks||a.ask==[])&&a.a8.all dM&&decide ((cd a).length<=60)
def dH(a:r8):Prop:=a.c9.length<=1048576/\a.ask.length<=1048576/\a.a8.length<=1048576/\∀ i,(a.a8.getD i []).length<=1048576
theorem qe{ps:List BL}(h:∀ i,(ps.getD i []).length<=1048576):∀ i,i<=ps.length->(bS (ps.take i)).length<=i*1048577
 | 0,_=>by simp[bS]
 | i+1,hi=>by
   have:=qe h i Z9
   have h2:=h i
   rw[aW (by omega:i<ps.length) [],kX]
   split
   omega
   simp only[ZW,ZU,ZQ];omega
theorem DJ{a:r8}(h:dH a):(bD a).length<=2199023255552:=by
 obtain⟨h1,h2,h3,h4⟩:=h
 have:=qe h4 a.a8.length (Zy _)
 rw[List.take_length]at this
 unfold bD
 split <;> simp <;> omega
theorem mg{s:BL}(h:eF s=true):s.length<=60:=by
 unfold eF bF at h
 split at h
 assumption
 simp at h
def du(b:UInt8):UInt8:=if 65<=b.toNat/\b.toNat<=90 then b+32 else b
def aO(s:BL):BL:=s.map du
theorem vN{x:UInt8}(h:65<=x.toNat/\x.toNat<=90):(du x).toNat=x.toNat+32:=by
 unfold du
 rw[if_pos h,UInt8.toNat_add]
 have:(32:UInt8).toNat=32:=rfl
 omega
theorem pG{s l:BL}{i:Nat}(hi:i<s.length)(h:l=aO (s.take i)++s.drop i):l.getD i 0=s.getD i 0:=by
 have hl:(aO (s.take i)).length=i:=by simp[aO];omega
 rw[h,ZZ,ZG Z9,hl,Nat.sub_self,drop_cons hi 0];rfl
theorem tz{s l:BL}{i:Nat}(hi:i<s.length)(h:l=aO (s.take i)++s.drop i):l.set i (du (s.getD i 0))=aO (s.take (i+1))++s.drop (i+1):=by
 have hl:(aO (s.take i)).length=i:=by simp[aO];omega
 rw[h,List.set_append_right _ _ Z9,hl,Nat.sub_self,drop_cons hi 0,aW hi 0]
 simp[aO]
theorem vE{s l:BL}{i:Nat}(hi:i<s.length)(h:l=aO (s.take i)++s.drop i):l.set i (du (l.getD i 0))=aO (s.take (i+1))++s.drop (i+1):=by
 rw[pG hi h];exact tz hi h
theorem tn{s l:BL}{i:Nat}(hi:i<s.length)(h:l=aO (s.take i)++s.drop i)(hn: ¬ (65<=(l.getD i 0).toNat/\(l.getD i 0).toNat<=90)):l=aO (s.take (i+1))++s.drop (i+1):=by
 rw[<- tz hi h]
 rw[pG hi h]at hn
 rw[show du (s.getD i 0)=s.getD i 0 from if_neg hn,<- pG hi h]
 have hlt:i<l.length:=by rw[h];simp[aO];omega
 apply List.ext_getElem?
 intro j
 by_cases e:i=j
 subst e;simp[hlt]
 rw[List.getElem?_set_ne e]
def oA(o:Option r8):r8:=o.getD ⟨[],[],false,[]⟩
def eg(x:BL):BL:=(bF x).1
def eL(x:BL):Bool:=(bF x).2
def bT(h:BL)(fr:List BL)(n0:BL):Option r8:=
 if ((ah 47 (ab 63 n0).1).all eL&&eL (ab 63 n0).2.1)=true then
  (if aG ⟨h,bG (fr++(ah 47 (ab 63 n0).1).map eg),(ab 63 n0).2.2,eg (ab 63 n0).2.1⟩=true then some ⟨h,bG (fr++(ah 47 (ab 63 n0).1).map eg),(ab 63 n0).2.2,eg (ab 63 n0).2.1⟩ else none) else none
theorem qc(c:UInt8):∀ s:BL,(ah c s).length<=s.length+1
 | []=>by simp[ah]
 | x::r=>by
   have:=qc c r
   simp only[ah]
   split
   simp;omega
   simp;omega
theorem CJ(l:List BL)(n:Nat)(h:∀ p∈l,p.length<=n):(l.headD []).length<=n:=by
 cases l with
 | nil=>simp
 | cons a l=>exact h a Z8
theorem vp(c:UInt8):∀ (s:BL),∀ p∈ah c s,p.length<=s.length
 | [],p,hp=>by simp[ah]at hp;subst hp;simp
 | x::r,p,hp=>by
   have ih:=vp c r
   simp only[ah]at hp
   split at hp
   simp only[List.mem_cons]at hp
   rcases hp with rfl | hp
   simp
   have:=ih p hp;simp;omega
   simp only[List.mem_cons]at hp
   rcases hp with rfl | hp
   have:=CJ _ _ ih;simp at this ⊢;omega
   have:=ih p (List.mem_of_mem_tail hp);simp;omega
theorem jH{ps:List BL}{n:Nat}(h:∀ p∈ps,p.length<=n)(i:Nat):(ps.getD i []).length<=n:=by
 rw[ZZ]
 cases e:ps[i]? with
 | none=>simp
 | some p=>exact h p (ZD e)
theorem pn(c:UInt8)(s:BL)(i:Nat):((ah c s).getD i []).length<=s.length:=jH (vp c s) i
theorem tC(ps:List BL):∀ (o:List BL),(∀ p∈ps.foldl cv o,p∈o\/p∈ps)/\(ps.foldl cv o).length<=o.length+ps.length:=by
 induction ps with
 | nil=>intro o;exact⟨fun p h=>.inl h,Z8⟩
 | cons q ps ih=>
   intro o
   obtain⟨h1,h2⟩:=ih (cv o q)
   have hs:(∀ p∈cv o q,p∈o\/p=q)/\(cv o q).length<=o.length+1:=by
    unfold cv
    split
    exact⟨fun p h=>.inl h,Z9⟩
    split
    exact⟨fun p h=>.inl (List.dropLast_subset _ h),Z0⟩
    exact⟨fun p h=>by simpa using h,Z8⟩
   refine⟨fun p hp=>?_,by simp only[List.foldl_cons,ZU];omega⟩
   rcases h1 p hp with h | h
   rcases hs.1 p h with h | h
   exact .inl h
   exact .inr (by simp[h])
   exact .inr (by simp[h])
theorem vH{ps:List BL}{p:BL}(h:p∈bG ps):p∈ps:=by
 rcases (tC ps []).1 p h with h | h
 simp at h
 exact h
theorem vd(ps:List BL):(bG ps).length<=ps.length:=by have:=(tC ps []).2;simp only[ZQ,ZO]at this;exact this
theorem Kk{a:r8}{ls:List BL}{k:Bool}{q:BL}(ha:dH a)(hp:a.a8.length<=1000)(hl:ls.length<=2000):dH ⟨a.c9,bG (a.a8++ls.map eg),k,eg q⟩:=by
 obtain⟨h1,h2,h3,h4⟩:=ha
 refine⟨h1,?_,?_,fun i=>?_⟩
 have:=nO q;simp only[eg];omega
 have:=vd (a.a8++ls.map eg);simp only[ZW,ZM]at this ⊢;omega
 refine jH (n:=1048576) (fun p UK=>?_) i
 rcases ZN.1 (vH UK) with h | h
 obtain⟨j,hj,rfl⟩:=List.getElem_of_mem h
 have:=h4 j
 rwa [ZZ,ZR hj]at this
 obtain⟨y,_,rfl⟩:=List.mem_map.1 h
 have:=nO y;simp only[eg];omega
def gF(c:UInt8):Bool:=decide (¬ (c.toNat=47\/c.toNat=63))
theorem xZ{s:BL}{p:UInt8->Bool}:∀ {i:Nat},i<=s.length->(∀ j,j<i->p (s.getD j 0)=true)->(i=s.length\/p (s.getD i 0)=false)->s.takeWhile p=s.take i/\s.dropWhile p=s.drop i:=by
 induction s with
 | nil=>intro i hi _ _;simp
 | cons x s ih=>
   intro i hi h1 h2
   cases i with
   | zero=>
     rcases h2 with h2 | h2
     simp at h2
     have:p x=false:=by simpa using h2
     simp[List.takeWhile_cons,List.dropWhile_cons,this]
   | succ i=>
     have hx:p x=true:=by simpa using h1 0 Z9
     obtain⟨k1,k2⟩:=ih (i:=i) (by simpa using hi) (fun j hj=>by have:=h1 (j+1) Z9;simpa using this) (by
      rcases h2 with h2 | h2
      left;simpa using h2
      right;simpa using h2)
     simp[List.takeWhile_cons,List.dropWhile_cons,hx,k1,k2]
def dg(rest:BL):Option r8:=bT (aO (rest.takeWhile gF)) [] (rest.dropWhile gF)
def aA(raw:BL):Option r8:=
 if raw.length<=60/\2<=(ab 35 raw).1.length/\(ab 35 raw).1.take 2=[47,47] then dg ((ab 35 raw).1.drop 2) else none
def bj(a:r8):BL:=if aG a=true then cd a else []
def aD(s:BL):Bool:=(aA s).isSome&&(bj (oA (aA s))==s)
theorem JS{h:BL}{fr:List BL}{n0:BL}{a:r8}(e:bT h fr n0=some a):aG a=true:=by
 unfold bT at e
 split at e
 split at e
 rename_i hk;simp only[ZY]at e;subst e;exact hk
 simp at e
 simp at e
theorem Ie{s:BL}{a:r8}(e:aA s=some a):aG a=true:=by
 unfold aA at e
 split at e
 exact JS e
 simp at e
theorem KM{a:r8}(h:aG a=true):dH a:=by
 unfold aG ck z8 at h
 simp only[ZX,Zq,ZI]at h
 obtain⟨⟨⟨⟨⟨⟨_,h1⟩,h2⟩,h3⟩,_⟩,h4⟩,_⟩:=h
 have:=mg h3
 refine⟨Z9,Z9,Z9,fun i=>jH (n:=1048576) (fun p hp=>?_) i⟩
 have:=h4 p hp
 unfold dM at this
 simp only[ZX]at this
 have:=mg this.1.1.1
 omega
theorem si(s:BL):dH (oA (aA s)):=by
 cases e:aA s with
 | none=>exact⟨by simp[oA],by simp[oA],by simp[oA],by simp[oA]⟩
 | some a=>exact KM (Ie e)
def eT(p:BL):Bool:=decide ((p.getD (p.length-1) 0).toNat=36)
def bA(p:BL):BL:=if eT p=true then p.take (p.length-1) else p
def ml(e:Bool)(s:BL):Nat->List BL->Bool
 | at_,[]=>!e||decide (at_=s.length)
 | at_,p::r=>if (e&&r.isEmpty)=true then decide (at_+p.length<=s.length)&&(s.drop (s.length-p.length)==p)
   else if eM s p at_<0 then false else ml e s ((eM s p at_).toNat+p.length) r
def ym(p s:BL):Bool:=
 ((ah 42 (bA p)).headD []).isPrefixOf s&&ml (eT p) s ((ah 42 (bA p)).headD []).length (ah 42 (bA p)).tail
theorem LU{e:Bool}{s p:BL}{q:Nat}{r:List BL}(h: ¬ (e=true/\r=[]))(hf:eM s p q<0):ml e s q (p::r)=false:=by
 simp only[ml]
 rw[if_neg (by simpa using h),if_pos hf]
structure s5 where
 H3:Bool
 path:BL
def cQ(p s:BL):Bool:=aZ p&&decide (s.length<=60)&&ym p s
def dV(s:BL)(x:Int×Bool)(r:s5):Int×Bool:=
 if cQ r.path s=false\/(r.path.length:Int)<x.1 then x else (r.path.length,r.H3||(decide ((r.path.length:Int)=x.1)&&x.2))
def bh(rs:List s5)(s:BL):Bool:=(rs.foldl (dV s) (-1,true)).2
theorem tQ{p:BL}(h:aZ p=true):1<=p.length/\p.length<=16:=by
 unfold aZ at h;simp only[Zq]at h;exact⟨h.1,h.2.1⟩
theorem foldl_succ{α β:Type}{f:β->α->β}{b:β}{l:List α}{i:Nat}{d:α}(h:i<l.length):(l.take (i+1)).foldl f b=f ((l.take i).foldl f b) (l.getD i d):=by
 rw[aW h d,List.foldl_append];rfl
abbrev an(r:s5):V:=.agg [bV r.H3,sV r.path]
def im(m:Int)(n:Int)(c:UInt8):Int:=min (n*10+(c.toNat-48)) m
def gU(s:BL)(m:Int):Int:=if s.all (fun c=>decide (48<=c.toNat/\c.toNat<=57))=true then s.foldl (im m) 0 else 0
structure k9 where
 na:List BL
 ru:List s5
 wa:Nat
abbrev bB(g:k9):V:=.agg [.sl false (g.na.map sV),.sl false (g.ru.map an),iV g.wa]
def ic:List BL:=[[47],[47,97],[47,98],[47,97,47],[47,42,98],[47,97,36],[47,99],[47,42,63],[47,97,47,98],[47,42,47,98,36],[47,36],[47,98,42,99],[47,110,111,116,105,99,101],[47,42]]
def aH:List BL:=[[97,98],[99,100],[101],[102,111,120]]
def m4(s:BL):Prop:= ∀ c,c∈s->c.toNat<128
def En(s:BL):Bool:=s.all fun c=>decide (c.toNat<128)
theorem bn{s:BL}(h:En s=true):m4 s:=fun c hc=>by
 have:=ZI.1 h c hc;simpa using this
theorem aT:m4 []:=fun c hc=>by simp at hc
theorem m4.app{a b:BL}(h1:m4 a)(h2:m4 b):m4 (a++b):=fun c hc=>(ZN.1 hc).elim (h1 c) (h2 c)
theorem dp{l:List BL}{x:BL}(h:l.all En=true)(hx:x∈l):m4 x:=bn (ZI.1 h x hx)
theorem dP{l:List BL}(h:l.all En=true)(i:Nat):m4 (l.getD i []):=by
 rw[ZZ]
 cases e:l[i]? with
 | none=>exact aT
 | some x=>exact dp h (ZD e)
structure B0 (g:k9):Prop where
 nl:g.na.length<=2
 nb:∀ x,x∈g.na->x.length<=5
 rl:g.ru.length<=4
 rb:∀ r,r∈g.ru->r.path∈ic
 w:g.wa<=6
 ac:∀ x,x∈g.na->m4 x
theorem bC{l:List BL}{n:Nat}(h:l.all (fun x=>Nat.ble x.length n)=true){x:BL}(hx:x∈l):x.length<=n:=Nat.le_of_ble_eq_true (ZI.1 h x hx)
theorem fE{α:Type}{P:α->Prop}{l:List α}{x:α}(h:∀ y,y∈l->P y)(hx:P x):∀ y,y∈l++[x]->P y:=fun y hy=>by
 rcases ZN.1 hy with q | q
 exact h y q
 rw[ZP.1 q];exact hx
abbrev zqR:s5:=⟨false,[]⟩
abbrev zqG:k9:=⟨[],[],0⟩
structure Pg where
 addr:BL
 text:BL
 lead:BL
 l8:Int
def m0:Pg:=⟨[],[],[],0⟩
def A3:List Pg->BL->Pg×Bool
 | [],_=>(m0,false)
 | p::r,a=>if p.addr=a then (p,true) else A3 r a
theorem Bx{l:List BL}(h:l.length<=2)(hx:∀ x,x∈l->x.length<=6):(bS l).length<=13:=by
 match l,h with
 | [],_=>simp[bS]
 | [x],_=>have:=hx x Z8;simp[bS];omega
 | [x,y],_=>have:=hx x Z8;have:=hx y Z8;simp[bS];omega
theorem cF{l:List BL}{n:Nat}(h:l.all (fun x=>Nat.ble x.length n)=true)(i:Nat):(l.getD i []).length<=n:=by
 rw[ZZ]
 cases e:l[i]? with
 | none=>simp
 | some x=>exact bC h (ZD e)
theorem mG{a:r8}(h1:a.c9.length<=3)(h2:a.a8.length<=2)(h3:∀ x,x∈a.a8->x.length<=6)(h4:a.ask.length<=5):dH a/\(bj a).length<=25:=by
 refine⟨⟨Z9,Z9,Z9,fun i=>?_⟩,?_⟩
 rw[ZZ]
 cases e:a.a8[i]? with
 | none=>simp
 | some x=>have:=h3 x (ZD e);simp;omega
 have:=Bx h2 h3
 unfold bj cd bD
 split
 split <;> simp <;> omega
 simp
def dt(n:Nat):BL:=if n<10 then [UInt8.ofNat (48+n)] else dt (n / 10)++[UInt8.ofNat (48+n % 10)]
 termination_by n
theorem oG(n:Nat)(h:n<=1000000):(dt n).length<=7:=by
 have:∀ k n,n<10 ^ (k+1)->(dt n).length<=k+1:=by
  intro k
  induction k with
  | zero=>intro n hn;rw[dt,if_pos Z9];simp
  | succ k ih=>
    intro n hn
    rw[dt]
    split
    simp
    have:=ih (n / 10) (by rw[Nat.pow_succ]at hn;omega)
    simp;omega
 exact this 6 n Z9
abbrev r4(p:Pg):V:=.agg [sV p.addr,sV p.text,sV p.lead,iV p.l8]
theorem qE{gs:List k9}(hg:∀ y,y∈gs->B0 y)(i:Nat):B0 (gs.getD i ⟨[],[],0⟩):=by
 rw[ZZ]
 cases e:gs[i]? with
 | none=>exact⟨Z8,Z8,Z8,Z8,Z8,Z8⟩
 | some x=>exact hg x (ZD e)
theorem fu{gs:List k9}(hg:∀ y,y∈gs->B0 y)(i k:Nat):((gs.getD i ⟨[],[],0⟩).na.getD k []).length<=5:=by
 rw[ZZ (l:=k9.na _)]
 cases e:(gs.getD i ⟨[],[],0⟩).na[k]? with
 | none=>simp
 | some x=>exact(qE hg i).nb x (ZD e)
theorem qb{gs:List k9}(hg:∀ y,y∈gs->B0 y)(i k:Nat):m4 ((gs.getD i ⟨[],[],0⟩).na.getD k []):=by
 rw[ZZ (l:=k9.na _)]
 cases e:(gs.getD i ⟨[],[],0⟩).na[k]? with
 | none=>exact aT
 | some x=>exact(qE hg i).ac x (ZD e)
theorem pB{gs:List k9}(hg:∀ y,y∈gs->B0 y)(i k:Nat):m4 ((gs.getD i ⟨[],[],0⟩).ru.getD k ⟨false,[]⟩).path:=by
 rw[ZZ (l:=k9.ru _)]
 cases e:(gs.getD i ⟨[],[],0⟩).ru[k]? with
 | none=>exact aT
 | some x=>exact dp rfl ((qE hg i).rb x (ZD e))
theorem fj{gs:List k9}(hg:∀ y,y∈gs->B0 y)(i k:Nat):((gs.getD i ⟨[],[],0⟩).ru.getD k ⟨false,[]⟩).path.length<=7:=by
 rw[ZZ (l:=k9.ru _)]
 cases e:(gs.getD i ⟨[],[],0⟩).ru[k]? with
 | none=>simp
 | some x=>exact bC rfl ((qE hg i).rb x (ZD e))
theorem pK:∀ {l:List BL},(∀ x,x∈l->m4 x)->m4 (bS l)
 | [],_=>aT
 | [p],h=>h p Z8
 | p::q::r,h=>((h p Z8).app (bn rfl)).app (pK fun x hx=>h x (by simp[hx]))
theorem zB{a:r8}(h1:m4 a.c9)(h2:∀ x,x∈a.a8->m4 x)(h3:m4 a.ask):m4 (bj a):=by
 unfold bj cd bD
 split
 refine((bn rfl).app h1).app (((bn rfl).app (pK h2)).app ?_)
 split
 exact(bn rfl).app h3
 exact aT
 exact aT
theorem jP(n:Nat):m4 (dt n):=by
 induction n using Nat.strongRecOn with
 | ind n ih=>
   rw[dt]
   split
   intro c hc
   rw[ZP.1 hc,UInt8.toNat_ofNat'];omega
   refine(ih (n / 10) Z9).app ?_
   intro c hc
   rw[ZP.1 hc,UInt8.toNat_ofNat'];omega
structure n7 (y:Pg):Prop where
 a:y.addr.length<=30
 t:y.text.length<=300
 l:y.lead.length<=30
 f:0<=y.l8/\y.l8<=10
 aa:m4 y.addr
 la:m4 y.lead
 ta:m4 y.text
theorem Hc{w:List Pg}{a:BL}(h:(A3 w a).2=true):1<=w.length:=by
 cases w with
 | nil=>simp[A3]at h
 | cons p r=>simp
theorem oD{l:List Int}(h:l.all (fun x=>decide (0<=x/\x<=10))=true)(i:Nat):0<=l.getD i 0/\l.getD i 0<=10:=by
 rw[ZZ]
 cases e:l[i]? with
 | none=>simp
 | some x=>simpa using ZI.1 h x (ZD e)
theorem mb{w:List Pg}(h:∀ y,y∈w->n7 y)(i:Nat):n7 (w.getD i m0):=by
 rw[ZZ]
 cases e:w[i]? with
 | none=>exact⟨by simp[m0],by simp[m0],by simp[m0],by simp[m0],aT,aT,aT⟩
 | some x=>exact h x (ZD e)
theorem uE{α:Type}{P:α->Prop}{l:List α}{i:Nat}{x:α}(h:∀ y,y∈l->P y)(hx:P x):∀ y,y∈l.set i x->P y:=fun y hy=>by
 rcases List.mem_or_eq_of_mem_set hy with q | q
 exact h y q
 rw[q];exact hx
theorem az{xs:List V}{j sz g0 o0 g o c:Nat}{v:V}{p:List Nat}{r:Nat×Nat×V}(h:xs[j]? =some v)(e:V.at g (o+j*sz) v p=some r):V.at g0 o0 (.own sz xs g o c) (j::p)=some r:=by simp only[V.at,h];exact e
theorem aP{xs ys:List V}{j sz g o c:Nat}{x v:V}{p:List Nat}(h:xs[j]? =some x)(e:xs.set j (V.set x p v)=ys):V.set (.own sz xs g o c) (j::p) v=.own sz ys g o c:=by simp only[V.set,h,e]
def dq(y:Pg):Bool:=aD y.addr&&decide (y.text.length<=300)&&z8 y.l8 0 9&&(y.lead==[]||(y.text==[]&&aD y.lead))
def av(w:List Pg):Bool:=decide (∀ i,i<w.length->dq (w.getD i m0)=true/\∀ k,k<i->(w.getD k m0).addr≠(w.getD i m0).addr)&&decide (w.length<=12)
def ai(h:BL):BL:=[47,47]++h++[47,110,111,116,105,99,101]
def ae(w:List Pg)(a:BL)(n:Int):Int×BL:=
 if (A3 w a).2=false then (0,[]) else if n<(A3 w a).1.l8 then (3,[]) else if (A3 w a).1.lead=[] then (1,(A3 w a).1.text) else (2,(A3 w a).1.lead)
theorem Jm{y:Pg}(h:((aD y.addr=true/\(y.text.length:Int)<=300)/\z8 y.l8 0 9=true)/\(¬ y.lead=[]->y.text=[]/\aD y.lead=true)):dq y=true:=by
 unfold dq
 obtain⟨⟨⟨h1,h2⟩,h3⟩,h4⟩:=h
 rw[h1,h3,decide_eq_true Z9]
 by_cases hl:y.lead=[]
 simp[hl]
 obtain⟨h5,h6⟩:=h4 hl
 simp[h5,h6]
theorem IZ{y:Pg}(h:((aD y.addr=false\/300<(y.text.length:Int))\/z8 y.l8 0 9=false)\/¬ y.lead=[]/\(¬ y.text=[]\/aD y.lead=false)):dq y=false:=by
 unfold dq
 rcases h with ((h | h) | h) | ⟨h,h' | h'⟩
 simp[h]
 rw[decide_eq_false Z9];simp
 simp[h]
 simp[h,h']
 simp[h,h']
theorem vI{w:List Pg}{i:Nat}(hi:i<w.length)(h: ¬ (dq (w.getD i m0)=true/\∀ k,k<i->(w.getD k m0).addr≠(w.getD i m0).addr)):av w=false:=by
 unfold av
 rw[decide_eq_false (fun c=>h (c i hi))];rfl
theorem Bf{w:List Pg}(h:∀ i,i<w.length->dq (w.getD i m0)=true/\∀ k,k<i->(w.getD k m0).addr≠(w.getD i m0).addr):av w=decide (w.length<=12):=by
 unfold av
 rw[decide_eq_true h];rfl
def dB(gs:List k9)(f:k9->k9):List k9:=match gs.getLast? with
 | none=>gs
 | some z=>gs.dropLast++[f z]
def gp(gs:List k9):Nat:=match gs.getLast? with
 | none=>0
 | some z=>z.ru.length
def iF(gs:List k9)(w r:BL)(b:Bool):List k9×Bool:=
 if w=[99,97,108,108,101,114]/\(r=[42]\/bp r=true) then
  if b=true\/gs=[] then (gs++[⟨[r],[],0⟩],false) else (dB gs fun z=>⟨z.na++[r],z.ru,z.wa⟩,false)
 else if gs=[] then (gs,b)
 else if (w=[108,101,116]\/w=[98,97,114])/\aZ r=true/\gp gs<6 then (dB gs fun z=>⟨z.na,z.ru++[⟨w==[108,101,116],r⟩],z.wa⟩,true)
 else if w=[119,97,105,116] then (dB gs fun z=>⟨z.na,z.ru,(gU r 20).toNat⟩,true)
 else (gs,b)
theorem fA(l:List k9)(z:k9)(f:k9->k9):dB (l++[z]) f=l++[f z]:=by simp[dB]
theorem kJ(l:List k9)(z:k9):gp (l++[z])=z.ru.length:=by simp[gp]
theorem lr{α:Type}{l:List α}(h:l≠[]):∃ x:List α×α,l=x.1++[x.2]:=⟨(l.dropLast,l.getLast h),(List.dropLast_concat_getLast h).symm⟩
theorem yB{m:Int}(hm:0<=m){n:Int}(hn:0<=n){c:UInt8}(hc:48<=c.toNat):0<=im m n c:=by
 unfold im
 omega
theorem Hr{s:BL}{m:Int}(hm:0<=m):0<=gU s m:=by
 unfold gU
 split
 rename_i h
 rw[ZI]at h
 have:∀ (l:BL) (n:Int),0<=n->(∀ c,c∈l->48<=c.toNat)->0<=l.foldl (im m) n:=by
  intro l
  induction l with
  | nil=>intro n hn _;exact hn
  | cons c l ih=>intro n hn hl;exact ih _ (yB hm hn (hl c Z8)) fun d hd=>hl d (by simp[hd])
 exact this s 0 Z9 fun c hc=>by have:=h c hc;simp at this;exact this.1
 exact Int.le_refl 0
abbrev aJ(g:k9):V:=.agg [.ow 1 (g.na.map sV),.ow 2 (g.ru.map an),iV g.wa]
theorem aR{α:Type}{f:α->V}{l:List α}{v:V}:(l.map f++[v])[l.length]? =some v:=Z8
theorem de{α:Type}{f:α->V}{l:List α}{v u:V}:(l.map f++[v]).set l.length u=l.map f++[u]:=Z8
theorem GU(g:k9):(aJ g).er=bB g:=by
 simp only[aJ,V.er,V.D5,aM (f:=sV) (fun _=>rfl),aM (f:=an) (fun _=>rfl)]
theorem wF:∀ (l:List k9),V.D5 (l.map aJ)=l.map bB
 | []=>rfl
 | g::l=>by simp only[Zw,V.D5,wF l];rw[GU]
def dT(x:List k9×Bool)(l:BL):List k9×Bool:=iF x.1 (ab 32 l).1 (ab 32 l).2.1 x.2
def cn(t:BL):List k9:=(((ah 10 t).take 40).foldl dT ([],false)).1
structure J0 (n:Nat) (gs:List k9):Prop where
 len:gs.length<=n
 each:∀ y,y∈gs->y.na.length<=n/\y.ru.length<=6
theorem J0.mono{n m:Nat}{gs:List k9}(h:J0 n gs)(hm:n<=m):J0 m gs:=⟨Nat.le_trans h.len hm,fun y hy=>⟨Nat.le_trans (h.each y hy).1 hm,(h.each y hy).2⟩⟩
theorem J0.set{n:Nat}{gs:List k9}{f:k9->k9}(h:J0 n gs)(hf:∀ z,gs.getLast? =some z->(f z).na.length<=n+1/\(f z).ru.length<=6):J0 (n+1) (dB gs f):=by
 unfold dB
 split
 exact h.mono Z9
 rename_i z hz
 refine⟨?_,fun y hy=>?_⟩
 have:=h.len
 have hne:gs≠[]:=by rintro rfl;simp at hz
 have:=List.length_pos_iff.2 hne
 simp;omega
 rcases ZN.1 hy with hy | hy
 have:=h.each y (List.dropLast_subset _ hy)
 exact⟨Z9,this.2⟩
 rw[ZP.1 hy];exact hf z hz
theorem GZ{n:Nat}{gs:List k9}{w d:BL}{b:Bool}(h:J0 n gs):J0 (n+1) (iF gs w d b).1:=by
 have hl:∀ z,gs.getLast? =some z->z.na.length<=n/\z.ru.length<=6:=fun z hz=>h.each z (List.mem_of_getLast? hz)
 unfold iF
 split
 split
 refine⟨by have:=h.len;simp;omega,fun y hy=>?_⟩
 rcases ZN.1 hy with hy | hy
 have:=h.each y hy;exact⟨Z9,this.2⟩
 rw[ZP.1 hy];simp
 exact h.set fun z hz=>⟨by have:=hl z hz;simp;omega,(hl z hz).2⟩
 split
 exact h.mono Z9
 split
 rename_i hc
 refine h.set fun z hz=>⟨by have:=hl z hz;simp only;omega,?_⟩
 have:=hc.2.2
 unfold gp at this
 rw[hz]at this
 simp only at this
 simp only[ZW,ZU,ZQ];omega
 split
 exact h.set fun z hz=>⟨by have:=hl z hz;simp only;omega,(hl z hz).2⟩
 exact h.mono Z9
theorem Dv{α:Type}{l:List α}{i:Nat}(h1:i<=l.length)(h2:i<=40)(h:(i:Int)<l.length->(40:Int)<=i):l.take 40=l.take i:=by
 rcases Nat.lt_or_ge i l.length with hl | hl
 have:=h Z9
 rw[show i=40 from Z9]
 rw[ZL Z9,ZL Z9]
def cW(n:BL)(x:(List s5×Nat)×Bool)(g:k9):(List s5×Nat)×Bool:=if g.na.any (fun y=>y==n)=true then ((x.1.1++g.ru,max x.1.2 g.wa),true) else x
def Pt(gs:List k9)(n:BL):k9×Bool:=(⟨[n],(gs.foldl (cW n) (([],0),false)).1.1,(gs.foldl (cW n) (([],0),false)).1.2⟩,(gs.foldl (cW n) (([],0),false)).2)
def fD(gs:List k9)(n:BL):k9:=if (Pt gs n).2=true then (Pt gs n).1 else (Pt gs [42]).1
theorem vG:∀ (l:List BL) {k:Nat} {x:List k9×Bool},J0 k x.1->J0 (k+l.length) (l.foldl dT x).1
 | [],k,x,h=>h
 | a::l,k,x,h=>by
   have:=vG l (k:=k+1) (x:=dT x a) (GZ h)
   exact this.mono Z0
theorem mD(t:BL):J0 40 (cn t):=by
 have:=vG ((ah 10 t).take 40) (k:=0) (x:=([],false)) ⟨Z8,Z8⟩
 exact this.mono Z0
theorem J0.ru{n:Nat}{gs:List k9}(h:J0 n gs)(i:Nat):(gs.getD i ⟨[],[],0⟩).ru.length<=100/\(gs.getD i ⟨[],[],0⟩).na.length<=n:=by
 rw[ZZ]
 cases e:gs[i]? with
 | none=>simp
 | some x=>have:=h.each x (ZD e);exact⟨by simp only[Option.getD_some];omega,this.1⟩
def bL(k:Int)(t n:BL):k9:=if k=1 then fD (cn t) n else if k=3 then ⟨[n],[⟨false,[47]⟩],0⟩ else fD [] n
def vD(w:List Pg)(d n:BL):k9:=
 if av w=true/\ck d=true/\bp n=true then ⟨[n],(bL (ae w (ai d) 2).1 (ae w (ai d) 2).2 n).ru,(bL (ae w (ai d) 2).1 (ae w (ai d) 2).2 n).wa⟩ else ⟨[],[],0⟩
theorem nE:∀ (w:List Pg) (a:BL),(A3 w a).2=true->∃ i,(A3 w a).1=w.getD i m0
 | [],a,h=>by simp[A3]at h
 | p::r,a,h=>by
   unfold A3 at h ⊢
   split
   exact⟨0,rfl⟩
   rename_i hp
   rw[if_neg hp]at h
   obtain⟨i,hi⟩:=nE r a h
   exact⟨i+1,by rw[hi];simp⟩
theorem yd{w:List Pg}{a:BL}{k:Int}{m:Nat}(h:∀ i,(w.getD i m0).text.length<=m/\(w.getD i m0).lead.length<=m):(ae w a k).2.length<=m:=by
 unfold ae
 split
 simp
 rename_i h1
 have h1:(A3 w a).2=true:=by simpa using h1
 obtain⟨i,hi⟩:=nE w a h1
 have:=h i
 rw[hi]
 split
 simp
 split <;> simp only <;> omega
def mL(gs:List k9):Prop:= ∀ y,y∈gs->∀ r,r∈y.ru->r.path.length<=16
theorem mL.set{gs:List k9}{f:k9->k9}(h:mL gs)(hf:∀ z,gs.getLast? =some z->∀ r,r∈(f z).ru->r.path.length<=16):mL (dB gs f):=by
 unfold dB
 split
 exact h
 rename_i z hz
 intro y hy
 rcases ZN.1 hy with hy | hy
 exact h y (List.dropLast_subset _ hy)
 rw[ZP.1 hy];exact hf z hz
theorem Ip{gs:List k9}{w d:BL}{b:Bool}(h:mL gs):mL (iF gs w d b).1:=by
 have hl:∀ z,gs.getLast? =some z->∀ r,r∈z.ru->r.path.length<=16:=fun z hz=>h z (List.mem_of_getLast? hz)
 unfold iF
 split
 split
 intro y hy
 rcases ZN.1 hy with hy | hy
 exact h y hy
 rw[ZP.1 hy];simp
 exact h.set fun z hz=>hl z hz
 split
 exact h
 split
 rename_i hc
 refine h.set fun z hz r hr=>?_
 rcases ZN.1 hr with hr | hr
 exact hl z hz r hr
 rw[ZP.1 hr];exact(tQ hc.2.1).2
 split
 exact h.set fun z hz=>hl z hz
 exact h
theorem Cn(t:BL):mL (cn t):=by
 have:∀ (l:List BL) (x:List k9×Bool),mL x.1->mL (l.foldl dT x).1:=by
  intro l
  induction l with
  | nil=>exact fun x h=>h
  | cons a l ih=>exact fun x h=>ih _ (Ip h)
 exact this _ _ (by intro y hy;simp at hy)
structure Tr (m:Nat) (x:(List s5×Nat)×Bool):Prop where
 l:x.1.1.length<=6*m
 r:∀ r,r∈x.1.1->r.path.length<=16
theorem Gk(n:BL):∀ (gs:List k9) {m k:Nat} {x:(List s5×Nat)×Bool},Tr m x->J0 k gs->mL gs->Tr (m+gs.length) (gs.foldl (cW n) x)
 | [],m,k,x,h,_,_=>h
 | g::gs,m,k,x,h,h1,h2=>by
   have hs:Tr (m+1) (cW n x g):=by
    unfold cW
    split
    refine⟨?_,fun r hr=>?_⟩
    have:=h.l;have:=(h1.each g Z8).2;simp only[ZW];omega
    rcases ZN.1 hr with hr | hr
    exact h.r r hr
    exact h2 g Z8 r hr
    exact⟨by have:=h.l;omega,h.r⟩
   have:=Gk n gs (k:=k) hs ⟨by have:=h1.len;simp at this;omega,fun y hy=>h1.each y (by simp[hy])⟩ (fun y hy=>h2 y (by simp[hy]))
   rw[List.foldl_cons,ZU,show m+(gs.length+1)=m+1+gs.length from Z9]
   exact this
theorem zP{gs:List k9}(n:BL)(h1:J0 40 gs)(h2:mL gs):(fD gs n).ru.length<=240/\∀ r,r∈(fD gs n).ru->r.path.length<=16:=by
 have key:∀ q,(Pt gs q).1.ru.length<=240/\∀ r,r∈(Pt gs q).1.ru->r.path.length<=16:=fun q=>by
  have:=Gk q gs (m:=0) (x:=(([],0),false)) ⟨Z8,Z8⟩ h1 h2
  exact⟨by have h3:=this.l;have:=h1.len;unfold Pt;simp only;omega,this.r⟩
 unfold fD
 split
 exact key n
 exact key [42]
theorem ue(k:Int)(t n:BL):(bL k t n).ru.length<=240/\∀ r,r∈(bL k t n).ru->r.path.length<=16:=by
 unfold bL
 split
 exact zP n (mD t) (Cn t)
 split
 exact⟨Z8,Z8⟩
 exact zP n ⟨Z8,Z8⟩ (fun y hy=>by simp at hy)
def kU(w:List Pg)(n p:BL):Bool:=av w&&bp n&&(aA p).isSome&&bh (vD w (oA (aA p)).c9 n).ru (bD (oA (aA p)))
def eI(s p:BL):Bool:=decide (p.length<=s.length)&&(s.take p.length==p)
def fO(s p:BL):Bool:=decide (p.length<=s.length)&&(s.drop (s.length-p.length)==p)
def bU(s p:BL):BL:=if fO s p=true then s.take (s.length-p.length) else s
theorem tI{s p:BL}(h:fO s p=true):p.length<=s.length:=by unfold fO at h;simp at h;exact h.1
theorem Ke{s p:BL}(h:eI s p=true):p.length<=s.length:=by unfold eI at h;simp at h;exact h.1
def dn(p:BL):Bool:=decide (1<=p.length/\p.length<=16/\(p.getD 0 0).toNat=47)&&(bU p [36]).all gW
end Go.Proofs.YtelggdgnblpjdaaGreatDoor
namespace Go.Proofs
open Go.Shelf
def Tryz.qW:Go.Shelf.Ren:=⟨fun | 156=>132 | 165=>160 | 166=>161 | 169=>162 | 240=>185 | 241=>186 | 276=>199 | 277=>200 | n=>n,fun | 31=>24 | 9=>9 | 3=>3 | 4=>4 | 0=>0 | 20=>20 | 72=>203 | 76=>205 | 70=>201 | 37=>22 | 75=>111 | 127=>232 | 164=>239 | 5=>5 | 80=>207 | n=>n,fun | n=>n⟩
theorem Tryz.zt:Go.Proofs.Lays.n156 Tryz.prog Tryz.qW:={
 mixed:=Z7
 f156:=Tryz.func132.trans (Zo some Z7)
 f165:=Tryz.func160.trans (Zo some Z7)
 f166:=Tryz.func161.trans (Zo some Z7)
 f169:=Tryz.func162.trans (Zo some Z7)
 f240:=Tryz.func185.trans (Zo some Z7)
 f241:=Tryz.func186.trans (Zo some Z7)
 f276:=Tryz.func199.trans (Zo some Z7)
 f277:=Tryz.func200.trans (Zo some Z7)
 t0:=Tryz.underlying0
 a0:=Tryz.isAgg0
 z0:=Tryz.sizeOf0
 v0:=Tryz.zeroValue0
 t3:=Tryz.underlying3
 a3:=Tryz.isAgg3
 z3:=Tryz.sizeOf3
 v3:=Tryz.zeroValue3
 t4:=Tryz.underlying4
 a4:=Tryz.isAgg4
 z4:=Tryz.sizeOf4
 v4:=Tryz.zeroValue4
 t9:=Tryz.underlying9
 a9:=Tryz.isAgg9
 z9:=Tryz.sizeOf9
 v9:=Tryz.zeroValue9
 t20:=Tryz.underlying20
 a20:=Tryz.isAgg20
 z20:=Tryz.sizeOf20
 v20:=Tryz.zeroValue20
 t31:=Tryz.underlying24
 a31:=Tryz.isAgg24
 z31:=Tryz.sizeOf24
 v31:=Tryz.zeroValue24
 t37:=Tryz.underlying22
 a37:=Tryz.isAgg22
 z37:=Tryz.sizeOf22
 v37:=Tryz.zeroValue22
 t70:=Tryz.underlying201
 a70:=Tryz.isAgg201
 z70:=Tryz.sizeOf201
 v70:=Tryz.zeroValue201
 t72:=Tryz.underlying203
 a72:=Tryz.isAgg203
 z72:=Tryz.sizeOf203
 v72:=Tryz.zeroValue203
 t75:=Tryz.underlying111
 a75:=Tryz.isAgg111
 z75:=Tryz.sizeOf111
 v75:=Tryz.zeroValue111
 t76:=Tryz.underlying205
 a76:=Tryz.isAgg205
 z76:=Tryz.sizeOf205
 v76:=Tryz.zeroValue205
 t127:=Tryz.underlying232
 a127:=Tryz.isAgg232
 z127:=Tryz.sizeOf232
 v127:=Tryz.zeroValue232
 t164:=Tryz.underlying239
 a164:=Tryz.isAgg239
 z164:=Tryz.sizeOf239
 v164:=Tryz.zeroValue239 }
theorem Tryz.kI:Builder.Extra Tryz.prog Tryz.qW:={
 sizeBuilder:=Z7
 liesBuilder:=Z7
 t5:=Tryz.underlying5
 a5:=Tryz.isAgg5
 z5:=Tryz.sizeOf5
 v5:=Tryz.zeroValue5
 infoByte:=Z7
 cellsByte:=Z7
 sizeByte:=Z7
 neB5:=by decide }
open Go.RowKit in
theorem Tryz.strings_Join_none(a:Option Addr)(c:Nat)(sep:ByteArray)(w:World):
 Calls Tryz.prog 132 #[.slice a 0 c,.string sep] w fun e w'=>e=.returned (.string ⟨#[]⟩)/\w'=w:=Any.strings_Join_none Tryz.zt Tryz.kI a c sep w
open Go.RowKit in
theorem Tryz.strings_Join(bk o c:Nat)(xs:List ByteArray)(sep:ByteArray)(w:World)(hcells:∀ (j:Nat) x,xs[j]? =some x->w.cell? ⟨bk,o+j,none⟩=some (.string x))(hbk:bk<w.heap.size)(hN:xs.length<=140737488355328)(hcap:xs.length<=c)(hlen:(Lib.join (xs.map (·.data.toList)) sep.data.toList).length<=140737488355328):
 Calls Tryz.prog 132 #[.slice (some ⟨bk,o,none⟩) xs.length c,.string sep] w fun e w'=>e=.returned (.string ⟨(Lib.join (xs.map (·.data.toList)) sep.data.toList).toArray⟩)/\Below w.heap.size w w':=Any.strings_Join Tryz.zt Tryz.kI bk o c xs sep w hcells hbk hN hcap hlen
def Tryz.yL:Go.Shelf.Ren:=⟨fun | 219=>168 | 217=>189 | 225=>190 | 224=>191 | 267=>192 | 266=>201 | 314=>202 | n=>n,fun | 9=>9 | 3=>3 | 4=>4 | 5=>5 | 46=>231 | 146=>243 | 51=>242 | n=>n,fun | 1=>1 | n=>n⟩
theorem Tryz.Is:Go.Proofs.Lays.n219 Tryz.prog Tryz.yL:={
 mixed:=Z7
 f217:=Tryz.func189.trans (Zo some Z7)
 f219:=Tryz.func168.trans (Zo some Z7)
 f224:=Tryz.func191.trans (Zo some Z7)
 f225:=Tryz.func190.trans (Zo some Z7)
 f266:=Tryz.func201.trans (Zo some Z7)
 f267:=Tryz.func192.trans (Zo some Z7)
 f314:=Tryz.func202.trans (Zo some Z7)
 t3:=Tryz.underlying3
 a3:=Tryz.isAgg3
 z3:=Tryz.sizeOf3
 v3:=Tryz.zeroValue3
 t4:=Tryz.underlying4
 a4:=Tryz.isAgg4
 z4:=Tryz.sizeOf4
 v4:=Tryz.zeroValue4
 t5:=Tryz.underlying5
 a5:=Tryz.isAgg5
 z5:=Tryz.sizeOf5
 v5:=Tryz.zeroValue5
 t9:=Tryz.underlying9
 a9:=Tryz.isAgg9
 z9:=Tryz.sizeOf9
 v9:=Tryz.zeroValue9
 t46:=Tryz.underlying231
 a46:=Tryz.isAgg231
 z46:=Tryz.sizeOf231
 v46:=Tryz.zeroValue231
 t51:=Tryz.underlying242
 a51:=Tryz.isAgg242
 z51:=Tryz.sizeOf242
 v51:=Tryz.zeroValue242
 t146:=Tryz.underlying243
 a146:=Tryz.isAgg243
 z146:=Tryz.sizeOf243
 v146:=Tryz.zeroValue243
 g1:=by kernel_rfl }
open Go.RowKit Go.Lib in
theorem Tryz.stringslite_Index_one(s:ByteArray)(c:UInt8)(w:World):
 Calls Tryz.prog 168 #[.string s,.string ⟨#[c]⟩] w fun e w'=>e=.returned (.int .i64 (Lib.indexByte s.data.toList c))/\w'=w:=Any.stringslite_Index_one Tryz.Is s c w
def Tryz.yN:Go.Shelf.Ren:=⟨fun | 143=>197 | 219=>168 | 217=>189 | 225=>190 | 224=>191 | 267=>192 | 266=>201 | 314=>202 | n=>n,fun | 9=>9 | 3=>3 | 4=>4 | 5=>5 | 46=>231 | 146=>243 | 51=>242 | n=>n,fun | 1=>1 | n=>n⟩
theorem Tryz.Ik:Go.Proofs.Lays.n143 Tryz.prog Tryz.yN:={
 mixed:=Z7
 f143:=Tryz.func197.trans (Zo some Z7)
 f217:=Tryz.func189.trans (Zo some Z7)
 f219:=Tryz.func168.trans (Zo some Z7)
 f224:=Tryz.func191.trans (Zo some Z7)
 f225:=Tryz.func190.trans (Zo some Z7)
 f266:=Tryz.func201.trans (Zo some Z7)
 f267:=Tryz.func192.trans (Zo some Z7)
 f314:=Tryz.func202.trans (Zo some Z7)
 t3:=Tryz.underlying3
 a3:=Tryz.isAgg3
 z3:=Tryz.sizeOf3
 v3:=Tryz.zeroValue3
 t4:=Tryz.underlying4
 a4:=Tryz.isAgg4
 z4:=Tryz.sizeOf4
 v4:=Tryz.zeroValue4
 t5:=Tryz.underlying5
 a5:=Tryz.isAgg5
 z5:=Tryz.sizeOf5
 v5:=Tryz.zeroValue5
 t9:=Tryz.underlying9
 a9:=Tryz.isAgg9
 z9:=Tryz.sizeOf9
 v9:=Tryz.zeroValue9
 t46:=Tryz.underlying231
 a46:=Tryz.isAgg231
 z46:=Tryz.sizeOf231
 v46:=Tryz.zeroValue231
 t51:=Tryz.underlying242
 a51:=Tryz.isAgg242
 z51:=Tryz.sizeOf242
 v51:=Tryz.zeroValue242
 t146:=Tryz.underlying243
 a146:=Tryz.isAgg243
 z146:=Tryz.sizeOf243
 v146:=Tryz.zeroValue243
 g1:=by kernel_rfl }
open Go.RowKit Go.Lib in
theorem Tryz.strings_Index_one(s:ByteArray)(c:UInt8)(w:World):
 Calls Tryz.prog 197 #[.string s,.string ⟨#[c]⟩] w fun e w'=>e=.returned (.int .i64 (Lib.indexByte s.data.toList c))/\w'=w:=Any.strings_Index_one Tryz.Ik s c w
def Tryz.yF:Go.Shelf.Ren:=⟨fun | 138=>196 | 195=>203 | 218=>205 | 143=>197 | 219=>168 | 217=>189 | 225=>190 | 224=>191 | 267=>192 | 266=>201 | 314=>202 | n=>n,fun | 9=>9 | 3=>3 | 4=>4 | 5=>5 | 0=>0 | 46=>231 | 146=>243 | 51=>242 | n=>n,fun | 1=>1 | n=>n⟩
theorem Tryz.HH:Go.Proofs.Lays.n138 Tryz.prog Tryz.yF:={
 mixed:=Z7
 f138:=Tryz.func196.trans (Zo some Z7)
 f143:=Tryz.func197.trans (Zo some Z7)
 f195:=Tryz.func203.trans (Zo some Z7)
 f217:=Tryz.func189.trans (Zo some Z7)
 f218:=Tryz.func205.trans (Zo some Z7)
 f219:=Tryz.func168.trans (Zo some Z7)
 f224:=Tryz.func191.trans (Zo some Z7)
 f225:=Tryz.func190.trans (Zo some Z7)
 f266:=Tryz.func201.trans (Zo some Z7)
 f267:=Tryz.func192.trans (Zo some Z7)
 f314:=Tryz.func202.trans (Zo some Z7)
 t0:=Tryz.underlying0
 a0:=Tryz.isAgg0
 z0:=Tryz.sizeOf0
 v0:=Tryz.zeroValue0
 t3:=Tryz.underlying3
 a3:=Tryz.isAgg3
 z3:=Tryz.sizeOf3
 v3:=Tryz.zeroValue3
 t4:=Tryz.underlying4
 a4:=Tryz.isAgg4
 z4:=Tryz.sizeOf4
 v4:=Tryz.zeroValue4
 t5:=Tryz.underlying5
 a5:=Tryz.isAgg5
 z5:=Tryz.sizeOf5
 v5:=Tryz.zeroValue5
 t9:=Tryz.underlying9
 a9:=Tryz.isAgg9
 z9:=Tryz.sizeOf9
 v9:=Tryz.zeroValue9
 t46:=Tryz.underlying231
 a46:=Tryz.isAgg231
 z46:=Tryz.sizeOf231
 v46:=Tryz.zeroValue231
 t51:=Tryz.underlying242
 a51:=Tryz.isAgg242
 z51:=Tryz.sizeOf242
 v51:=Tryz.zeroValue242
 t146:=Tryz.underlying243
 a146:=Tryz.isAgg243
 z146:=Tryz.sizeOf243
 v146:=Tryz.zeroValue243
 g1:=by kernel_rfl }
open Go.RowKit Go.Lib in
theorem Tryz.strings_Count_one(s:ByteArray)(c:UInt8)(w:World):
 Calls Tryz.prog 196 #[.string s,.string ⟨#[c]⟩] w fun e w'=>e=.returned (.int .i64 (Lib.countByte s.data.toList c))/\w'=w:=Any.strings_Count_one Tryz.HH s c w
def Tryz.eV:Go.Shelf.Ren:=⟨fun | 221=>180 | 268=>195 | 138=>196 | 143=>197 | 195=>203 | 197=>204 | 218=>205 | 219=>168 | 260=>206 | 217=>189 | 225=>190 | 224=>191 | 267=>192 | 266=>201 | 314=>202 | n=>n,fun | 9=>9 | 3=>3 | 31=>24 | 4=>4 | 0=>0 | 105=>245 | 21=>21 | 5=>5 | 46=>231 | 119=>247 | 139=>250 | 138=>249 | 146=>243 | 51=>242 | n=>n,fun | 1=>1 | 3=>2 | 4=>3 | n=>n⟩
theorem Tryz.GQ:Go.Proofs.Lays.n221 Tryz.prog Tryz.eV:={
 mixed:=Z7
 f138:=Tryz.func196.trans (Zo some Z7)
 f143:=Tryz.func197.trans (Zo some Z7)
 f195:=Tryz.func203.trans (Zo some Z7)
 f197:=Tryz.func204.trans (Zo some Z7)
 f217:=Tryz.func189.trans (Zo some Z7)
 f218:=Tryz.func205.trans (Zo some Z7)
 f219:=Tryz.func168.trans (Zo some Z7)
 f221:=Tryz.func180.trans (Zo some Z7)
 f224:=Tryz.func191.trans (Zo some Z7)
 f225:=Tryz.func190.trans (Zo some Z7)
 f260:=Tryz.func206.trans (Zo some Z7)
 f266:=Tryz.func201.trans (Zo some Z7)
 f267:=Tryz.func192.trans (Zo some Z7)
 f268:=Tryz.func195.trans (Zo some Z7)
 f314:=Tryz.func202.trans (Zo some Z7)
 t0:=Tryz.underlying0
 a0:=Tryz.isAgg0
 z0:=Tryz.sizeOf0
 v0:=Tryz.zeroValue0
 t3:=Tryz.underlying3
 a3:=Tryz.isAgg3
 z3:=Tryz.sizeOf3
 v3:=Tryz.zeroValue3
 t4:=Tryz.underlying4
 a4:=Tryz.isAgg4
 z4:=Tryz.sizeOf4
 v4:=Tryz.zeroValue4
 t5:=Tryz.underlying5
 a5:=Tryz.isAgg5
 z5:=Tryz.sizeOf5
 v5:=Tryz.zeroValue5
 t9:=Tryz.underlying9
 a9:=Tryz.isAgg9
 z9:=Tryz.sizeOf9
 v9:=Tryz.zeroValue9
 t21:=Tryz.underlying21
 a21:=Tryz.isAgg21
 z21:=Tryz.sizeOf21
 v21:=Tryz.zeroValue21
 t31:=Tryz.underlying24
 a31:=Tryz.isAgg24
 z31:=Tryz.sizeOf24
 v31:=Tryz.zeroValue24
 t46:=Tryz.underlying231
 a46:=Tryz.isAgg231
 z46:=Tryz.sizeOf231
 v46:=Tryz.zeroValue231
 t51:=Tryz.underlying242
 a51:=Tryz.isAgg242
 z51:=Tryz.sizeOf242
 v51:=Tryz.zeroValue242
 t105:=Tryz.underlying245
 a105:=Tryz.isAgg245
 z105:=Tryz.sizeOf245
 v105:=Tryz.zeroValue245
 t119:=Tryz.underlying247
 a119:=Tryz.isAgg247
 z119:=Tryz.sizeOf247
 t138:=Tryz.underlying249
 a138:=Tryz.isAgg249
 z138:=Tryz.sizeOf249
 v138:=Tryz.zeroValue249
 t139:=Tryz.underlying250
 a139:=Tryz.isAgg250
 z139:=Tryz.sizeOf250
 v139:=Tryz.zeroValue250
 t146:=Tryz.underlying243
 a146:=Tryz.isAgg243
 z146:=Tryz.sizeOf243
 v146:=Tryz.zeroValue243
 g1:=Z7
 g3:=Z7
 g4:=by kernel_rfl }
def Tryz.yA:Go.Shelf.Ren:=⟨fun | 153=>142 | 152=>170 | 226=>171 | 227=>172 | 228=>173 | 137=>193 | 119=>194 | 224=>191 | 225=>190 | 217=>189 | 266=>201 | n=>n,fun | 9=>9 | 3=>3 | 4=>4 | 5=>5 | 21=>21 | 117=>213 | 116=>212 | 0=>0 | 46=>231 | 124=>236 | n=>n,fun | n=>n⟩
theorem Tryz.Hs:Go.Proofs.Lays.n153 Tryz.prog Tryz.yA:={
 mixed:=Z7
 f119:=Tryz.func194.trans (Zo some Z7)
 f137:=Tryz.func193.trans (Zo some Z7)
 f152:=Tryz.func170.trans (Zo some Z7)
 f153:=Tryz.func142.trans (Zo some Z7)
 f217:=Tryz.func189.trans (Zo some Z7)
 f224:=Tryz.func191.trans (Zo some Z7)
 f225:=Tryz.func190.trans (Zo some Z7)
 f226:=Tryz.func171.trans (Zo some Z7)
 f227:=Tryz.func172.trans (Zo some Z7)
 f228:=Tryz.func173.trans (Zo some Z7)
 f266:=Tryz.func201.trans (Zo some Z7)
 t0:=Tryz.underlying0
 a0:=Tryz.isAgg0
 z0:=Tryz.sizeOf0
 v0:=Tryz.zeroValue0
 t3:=Tryz.underlying3
 a3:=Tryz.isAgg3
 z3:=Tryz.sizeOf3
 v3:=Tryz.zeroValue3
 t4:=Tryz.underlying4
 a4:=Tryz.isAgg4
 z4:=Tryz.sizeOf4
 v4:=Tryz.zeroValue4
 t5:=Tryz.underlying5
 a5:=Tryz.isAgg5
 z5:=Tryz.sizeOf5
 v5:=Tryz.zeroValue5
 t9:=Tryz.underlying9
 a9:=Tryz.isAgg9
 z9:=Tryz.sizeOf9
 v9:=Tryz.zeroValue9
 t21:=Tryz.underlying21
 a21:=Tryz.isAgg21
 z21:=Tryz.sizeOf21
 v21:=Tryz.zeroValue21
 t46:=Tryz.underlying231
 a46:=Tryz.isAgg231
 z46:=Tryz.sizeOf231
 v46:=Tryz.zeroValue231
 t116:=Tryz.underlying212
 a116:=Tryz.isAgg212
 z116:=Tryz.sizeOf212
 t117:=Tryz.underlying213
 a117:=Tryz.isAgg213
 z117:=Tryz.sizeOf213
 v117:=Tryz.zeroValue213
 t124:=Tryz.underlying236
 a124:=Tryz.isAgg236
 z124:=Tryz.sizeOf236
 v124:=Tryz.zeroValue236 }
open Go.RowKit Go.Lib in
theorem Tryz.strings_IndexAny_laid(s chars:ByteArray)(w:World)(hs:s.size<4294967281)(hcs:chars.size<4294967281)(has:∀ (j:Nat) b,s.data.toList[j]? =some b->b.toNat<128)(hac:∀ (j:Nat) b,chars.data.toList[j]? =some b->b.toNat<128):
 Calls Tryz.prog 142 #[.string s,.string chars] w fun e w'=>e=.returned (.int .i64 (Lib.indexAny s.data.toList chars.data.toList))/\Below w.heap.size w w':=Any.strings_IndexAny_laid Tryz.Hs Z7 s chars w hs hcs has hac
def Tryz.yJ:Go.Shelf.Ren:=⟨fun | 110=>59 | 109=>88 | n=>n,fun | 31=>24 | 9=>9 | 4=>4 | 3=>3 | 0=>0 | n=>n,fun | n=>n⟩
theorem Tryz.zK:Go.Proofs.Lays.n110 Tryz.prog Tryz.yJ:={
 mixed:=Z7
 f109:=Tryz.func88.trans (Zo some Z7)
 f110:=Tryz.func59.trans (Zo some Z7)
 t0:=Tryz.underlying0
 a0:=Tryz.isAgg0
 z0:=Tryz.sizeOf0
 v0:=Tryz.zeroValue0
 t3:=Tryz.underlying3
 a3:=Tryz.isAgg3
 z3:=Tryz.sizeOf3
 v3:=Tryz.zeroValue3
 t4:=Tryz.underlying4
 a4:=Tryz.isAgg4
 z4:=Tryz.sizeOf4
 v4:=Tryz.zeroValue4
 t9:=Tryz.underlying9
 a9:=Tryz.isAgg9
 z9:=Tryz.sizeOf9
 v9:=Tryz.zeroValue9
 t31:=Tryz.underlying24
 a31:=Tryz.isAgg24
 z31:=Tryz.sizeOf24
 v31:=Tryz.zeroValue24 }
open Go.Lib in
theorem Tryz.slices_Contains_string(b off n c:Nat)(zs:List ByteArray)(x:ByteArray)(w:World)(hz:n<=zs.length)(hbig:n<=9223372036854775807)(hc:∀ j,j<zs.length->w.cell? ⟨b,off+j,none⟩=some (.string (zs.getD j ByteArray.empty))):
 Calls Tryz.prog 59 #[.slice (some ⟨b,off,none⟩) n c,.string x] w fun e w'=>e=.returned (.bool (Lib.containsS (zs.take n) x))/\w'=w:=Any.slices_Contains_string Tryz.zK b off n c zs x w hz hbig hc
open Go.Lib in
theorem Tryz.slices_Contains_string_empty(a:Option Addr)(c:Nat)(x:ByteArray)(w:World):
 Calls Tryz.prog 59 #[.slice a 0 c,.string x] w fun e w'=>e=.returned (.bool false)/\w'=w:=Any.slices_Contains_string_empty Tryz.zK a c x w
def Tryz.we:Go.Shelf.Ren:=⟨fun | 16=>40 | n=>n,fun | 24=>24 | 9=>9 | 4=>4 | n=>n,fun | n=>n⟩
theorem Tryz.pD:Go.Proofs.Lays2.n16 Tryz.prog Tryz.we:={
 mixed:=Z7
 f16:=Tryz.func40.trans (Zo some Z7)
 t4:=Tryz.underlying4
 a4:=Tryz.isAgg4
 z4:=Tryz.sizeOf4
 v4:=Tryz.zeroValue4
 t9:=Tryz.underlying9
 a9:=Tryz.isAgg9
 z9:=Tryz.sizeOf9
 v9:=Tryz.zeroValue9
 t24:=Tryz.underlying24
 a24:=Tryz.isAgg24
 z24:=Tryz.sizeOf24
 v24:=Tryz.zeroValue24
 i9:=by kernel_rfl }
open Go.RowKit Go.Lib in
theorem Tryz.slices_Clone_string(b off n c:Nat)(zs:List ByteArray)(w:World)(hz:n<=zs.length)(hbig:n*16<=140737488355328)(hc:∀ j,j<zs.length->w.cell? ⟨b,off+j,none⟩=some (.string (zs.getD j ByteArray.empty))):
 Calls Tryz.prog 40 #[.slice (some ⟨b,off,none⟩) n c] w fun e w'=> ∃ v',e=.returned v'/\w'.ownsRow w.heap.size 9 1 v' n ((zs.take n).map (Value.string))/\v'≠.slice none 0 0/\Below w.heap.size w w':=Any.slices_Clone_string Tryz.pD b off n c zs w hz hbig hc
open Go.RowKit Go.Lib in
theorem Tryz.slices_Clone_string_nil(n c:Nat)(w:World):
 Calls Tryz.prog 40 #[.slice none n c] w fun e w'=>e=.returned (.slice none 0 0)/\w'=w:=Any.slices_Clone_string_nil Tryz.pD n c w
open Go.RowKit Go.Lib in
theorem Tryz.slices_Clone_string_zero(a:Addr)(c:Nat)(w:World):
 Calls Tryz.prog 40 #[.slice (some a) 0 c] w fun e w'=> ∃ v',e=.returned v'/\w'.ownsRow w.heap.size 9 1 v' 0 []/\v'≠.slice none 0 0/\Below w.heap.size w w':=Any.slices_Clone_string_zero Tryz.pD a c w
end Go.Proofs
namespace Go.Proofs.YtelggdgnblpjdaaGreatDoor
open Go Go.RowKit
set_option maxRecDepth 20000
section
variable {P:Program}
theorem fT{f:FuncId}{args:List V}{Q:V->Prop}(ho:V.ay args=false)(hp:args.all (fun v=>match v with | .b7=>false | .gv _ _=>false | .tup _=>false | _=>true)=true)(h:PC P f args Q):PF P f args [] (fun r h=>Q r/\h=[]):=by
 refine⟨h.1,fun w Pb Kb cargs F hi=>?_⟩
 have hF0:∀ i v x,args[i]? =some v->cargs[i]? =some x->F (.slot i)=[]:=fun i v x hv hx=>by
  have hr:=hi.slot i v x hv hx
  have hm:=ZD hv
  exact uc (w:=w) (Pb:=Pb) (by
   have:∀ (l:List V),V.ay l=false->∀ v∈l,v.cB=false:=by
    intro l;induction l with
    | nil=>intro _ v hv;simp at hv
    | cons a r ih=>
      intro h v hv
      simp only[V.ay,Bool.or_eq_false_iff]at h
      rcases List.mem_cons.1 hv with rfl | hv
      exact h.1
      exact ih h.2 v hv
   exact this _ ho v hm) hr
 have hrv:∀ (l:List V) (c:List Value),l.length=c.length->(∀ (i:Nat) v x,l[i]? =some v->c[i]? =some x->RV w Pb v x []/\v∈args)->RVs w Pb l c []:=by
  intro l
  induction l with
  | nil=>intro c hl _;cases c with | nil=>exact⟨rfl,rfl⟩ | cons _ _=>simp at hl
  | cons v r ih=>
    intro c hl hx
    cases c with
    | nil=>simp at hl
    | cons x c=>
      obtain⟨h0,hm⟩:=hx 0 v x rfl rfl
      have hv:=ZI.1 hp v hm
      refine⟨x,c,[],[],rfl,rfl,?_,ih c (by simpa using hl) fun i v' x' h1 h2=>hx (i+1) v' x' (by simpa using h1) (by simpa using h2)⟩
      cases v <;> first | exact h0 | simp at hv
 have hR:RVs w Pb args cargs []:=hrv args cargs hi.len.symm fun i v x hv hx=>by
  have:=hi.slot i v x hv hx
  rw[hF0 i v x hv hx]at this
  exact⟨this,ZD hv⟩
 refine(h.2 w Pb cargs (fun g hg=>hi.bound g (hi.sub g hg)) hR).mono ?_
 rintro e w' ⟨r,x,Fr,Pb',rfl,hq,hrv,hnd,hfr,hP1,hP2,hB⟩
 refine⟨r,x,[],Pb',fun g=>Kb g\/Pb' g,(fun r=>match r with | .slot i=>if i=0 then Fr else [] | .key _=>[]),rfl,⟨hq,rfl⟩,?_⟩
 have hold:∀ g,Kb g->g<w.heap.size:=hi.bound
 refine⟨by simpa using hrv,fun k g v hk=>by simp[lk]at hk,fun r r' hne g hg=>?_,fun r=>?_,fun r g hg=>?_,fun g h=>.inr h,fun g h=>?_,hP1,fun _ h=>.inl h,fun g hg=>?_,⟨hB.os,hB.tape,hB.output,hB.size,fun g hg=>hB.block g (hold g hg),Shp.of_eq hB.block⟩⟩
 cases r with
 | slot i=>
   simp only at hg;split at hg
   rename_i hi0
   cases r' with
   | slot j=>simp only;rw[if_neg (fun c=>hne (by rw[hi0,c]))];simp
   | key k=>simp
   simp at hg
 | key k=>simp at hg
 cases r <;> simp only
 split
 exact hnd
 exact ZA
 exact ZA
 cases r with
 | slot i=>
   simp only at hg;split at hg
   obtain⟨h1,h2,h3⟩:=hfr g hg
   exact⟨fun c=>c.elim (fun c=>by have:=hold g c;omega) h3,h2⟩
   simp at hg
 | key k=>simp at hg
 rcases h with h | h
 have:=hold g h;have:=hB.size;omega
 rcases hP2 g h with h | h
 have:=hold g (hi.sub g h);have:=hB.size;omega
 exact h.2
 rcases hP2 g hg with h | h
 exact .inl h
 exact .inr fun c=>by have:=hold g c;omega
def RVm(w:World)(Pb:Nat->Prop)(v:V)(x:Value):Prop:=match v with | .agg us=> ∃ cs,x=.agg cs/\RL w Pb us cs.toList [] | .b7=>([]:List Nat)=[] | v=>R w Pb v [x] []
theorem xh{w:World}{Pb:Nat->Prop}{v:V}{vs:List V}{xs:List Value}(h:RVs w Pb (v::vs) xs []):∃ x r,xs=x::r/\RVm w Pb v x/\RVs w Pb vs r []:=by
 obtain⟨x,r,F1,F2,e,hF,h1,h2⟩:=h
 have hF:=List.append_eq_nil_iff.1 hF.symm
 obtain⟨rfl,rfl⟩:=hF
 exact⟨x,r,e,h1,h2⟩
theorem fM{w:World}{Pb:Nat->Prop}{y:Value}{vs:List V}{xs:List Value}(h:RVs w Pb (.lit y::vs) xs []):∃ r,xs=y::r/\RVs w Pb vs r []:=by
 obtain⟨x,r,e,h1,h2⟩:=xh h
 obtain⟨_,e1,_⟩:=h1
 simp only[List.cons.injEq,and_true]at e1
 exact⟨r,by rw[e,e1],h2⟩
theorem jT{w:World}{Pb:Nat->Prop}{xs:List Value}(h:RVs w Pb [] xs []):xs=[]:=h.1
theorem yc{w:World}{Pb:Nat->Prop}{f:Bool}{l:List BL}{vs:List V}{xs:List Value}(h:RVs w Pb (.sl f (l.map sV)::vs) xs []):∃ A c r,xs=.slice A l.length c::r/\RVs w Pb vs r []/\l.length<=c/\
 (l=[]\/∃ b o,A=some ⟨b,o,none⟩/\Pb b/\∀ j x,(l.map Str)[j]? =some x->w.cell? ⟨b,o+j,none⟩=some (.string x)):=by
 obtain⟨x,r,e,h1,h2⟩:=xh h
 obtain⟨_,A,c,e1,hle,_,hx⟩:=h1
 simp only[List.cons.injEq,and_true,ZM]at e1 hle
 refine⟨A,c,r,by rw[e,e1],h2,hle,?_⟩
 rcases hx with hx | ⟨b,o,sz,flat,hA,hb,hs,hn,hr,hc⟩
 left;simpa using hx
 right
 refine⟨b,o,hA,hb,fun j x hj=>hc j _ ?_⟩
 have hfl:∀ (l:List BL) {flat:List Value} {F},RL w Pb (l.map sV) flat F->flat=l.map fun t=>.string (Str t):=by
  intro l;induction l with
  | nil=>intro flat F h;exact h.1
  | cons t r ih=>
    intro flat F h
    obtain⟨c1,c2,F1,F2,e1,_,h1,h2⟩:=h
    rw[e1,ih h2,h1.2.1];rfl
 rw[hfl l hr]
 rw[List.getElem?_map]at hj ⊢
 cases hl:l[j]? with
 | none=>rw[hl]at hj;simp at hj
 | some t=>rw[hl]at hj;simp at hj;simp[hj]
theorem sR{f:FuncId}{args:List V}{res:V}{y:Value}(he:lT P f)(hv:res.val? =some y)(h:∀ (w:World) (Pb:Nat->Prop) cargs,(∀ g,Pb g->g<w.heap.size)->RVs w Pb args cargs []->Calls P f cargs.toArray w fun e w'=>e=.returned y/\Below w.heap.size w w'):PC P f args (fun r=>r=res):=by
 refine⟨he,fun w Pb cargs hP hargs=>(h w Pb cargs hP hargs).mono ?_⟩
 rintro e w' ⟨rfl,hB⟩
 exact⟨res,y,[],Pb,rfl,rfl,tM hv,ZA,Z8,fun _ h=>h,fun _ h=>.inl h,hB⟩
end
def cM(c:UInt8):BL->List BL
 | []=>[[]]
 | b::l=>if b=c then []::cM c l else match cM c l with
   | []=>[[b]]
   | p::r=>(b::p)::r
theorem BX(c:UInt8):∀ l,cM c l≠[]
 | []=>by simp[cM]
 | b::l=>by
   unfold cM;split
   simp
   split <;> simp
theorem mQ(c:UInt8):∀ l,Lib.indexByte l c= -1->cM c l=[l]
 | [],_=>rfl
 | b::l,h=>by
   unfold Lib.indexByte at h
   split at h
   simp at h
   rename_i hb
   have hb:b≠c:=by simpa using hb
   split at h
   rename_i h1
   have:=mQ c l (by simpa using h1)
   unfold cM
   rw[if_neg hb,this]
   have:=Lib.indexByte_ge l c;omega
theorem oL(c:UInt8):∀ l (i:Nat),Lib.indexByte l c=i->cM c l=l.take i::cM c (l.drop (i+1))/\i<l.length/\l.count c=(l.drop (i+1)).count c+1
 | [],i,h=>by unfold Lib.indexByte at h;omega
 | b::l,i,h=>by
   unfold Lib.indexByte at h
   split at h
   rename_i hb
   have hb:b=c:=by simpa using hb
   have:i=0:=Z9
   subst this hb
   simp[cM]
   rename_i hb
   have hb:b≠c:=by simpa using hb
   split at h
   omega
   rename_i h1
   have:=Lib.indexByte_ge l c
   have h1:Lib.indexByte l c≠ -1:=by simpa using h1
   obtain⟨j,rfl⟩:∃ j,i=j+1:=⟨i-1,Z9⟩
   obtain⟨k1,k2,k3⟩:=oL c l j Z9
   refine⟨?_,Z0,by simp[List.count_cons,hb,k3]⟩
   conv=>lhs;unfold cM
   rw[if_neg hb,k1]
   simp
theorem wW(c:UInt8):∀ (k:Nat) (s:BL),s.count c=k->Lib.splitK [c] 0 k s=cM c s
 | 0,s,h=>by
   have:Lib.indexByte s c= -1:=by
    by_cases hc:Lib.indexByte s c= -1
    exact hc
    have h1:=Lib.indexByte_ge s c
    obtain⟨i,hi⟩:∃ i:Nat,Lib.indexByte s c=i:=⟨(Lib.indexByte s c).toNat,Z9⟩
    have:=(oL c s i hi).2.2;omega
   rw[mQ c s this];rfl
 | k+1,s,h=>by
   by_cases hc:Lib.indexByte s c= -1
   rw[mQ c s hc]
   unfold Lib.splitK;rw[Lib.index_one,hc];rfl
   have h1:=Lib.indexByte_ge s c
   obtain⟨i,hi⟩:∃ i:Nat,Lib.indexByte s c=i:=⟨(Lib.indexByte s c).toNat,Z9⟩
   obtain⟨k1,k2,k3⟩:=oL c s i hi
   rw[k1]
   unfold Lib.splitK
   rw[Lib.index_one,hi]
   have: ¬ ((i:Int)== -1)=true:=Z8
   rw[if_neg this]
   simp only[Int.toNat_natCast,Nat.add_zero,Zv]
   rw[wW c k _ Z9]
theorem vw(c:UInt8):∀ s,Lib.indexByte s c= -1->ab c s=(s,[],false)
 | [],_=>rfl
 | b::l,h=>by
   unfold Lib.indexByte at h
   split at h
   simp at h
   rename_i hb
   have hb:b≠c:=by simpa using hb
   split at h
   rename_i h1
   have:=vw c l (by simpa using h1)
   simp only[ab,if_neg hb,this]
   have:=Lib.indexByte_ge l c;omega
theorem rY(c:UInt8):∀ s (i:Nat),Lib.indexByte s c=i->ab c s=(s.take i,s.drop (i+1),true)/\i<s.length
 | [],i,h=>by unfold Lib.indexByte at h;omega
 | b::l,i,h=>by
   unfold Lib.indexByte at h
   split at h
   rename_i hb
   have hb:b=c:=by simpa using hb
   have:i=0:=Z9
   subst this
   simp[ab,hb]
   rename_i hb
   have hb:b≠c:=by simpa using hb
   split at h
   omega
   rename_i h1
   have:=Lib.indexByte_ge l c
   have h1:Lib.indexByte l c≠ -1:=by simpa using h1
   obtain⟨j,rfl⟩:∃ j,i=j+1:=⟨i-1,Z9⟩
   obtain⟨k1,k2⟩:=rY c l j Z9
   refine⟨?_,Z0⟩
   simp only[ab,if_neg hb,k1];rfl
theorem IK(s:BL)(c:UInt8)(h:0<=Lib.indexByte s c):Lib.indexByte s c<s.length:=by
 obtain⟨i,hi⟩:∃ i:Nat,Lib.indexByte s c=i:=⟨(Lib.indexByte s c).toNat,Z9⟩
 have:=(rY c s i hi).2;omega
theorem HE{s:BL}{c:UInt8}(h:Lib.indexByte s c<0):ab c s=(s,[],false):=vw c s (by have:=Lib.indexByte_ge s c;omega)
theorem ER{s:BL}{c:UInt8}(h:0<=Lib.indexByte s c):ab c s=(s.take (Lib.indexByte s c).toNat,s.drop ((Lib.indexByte s c).toNat+1),true):=(rY c s _ Z9).1
theorem wL(c:UInt8):∀ s,cM c s=ah c s
 | []=>rfl
 | b::l=>by
   have ih:=wL c l
   unfold cM ah
   split
   rw[ih]
   rw[ih]
   cases h:ah c l with
   | nil=>exact absurd (ih.trans h) (BX c l)
   | cons p r=>rfl
theorem sv:∀ (l:List BL),Lib.join l [47]=bS l
 | []=>rfl
 | [p]=>Lib.join_one p _
 | p::q::r=>by
   have:=sv (q::r)
   rw[Lib.join_cons]at this ⊢
   simp only[Lib.joinTail,Zw,List.flatten_cons]at this ⊢
   rw[show bS (p::q::r)=p++[47]++bS (q::r) from rfl,<- this]
   simp
theorem IG(s:BL): -1<=Lib.indexAny s [47,63]:=Lib.indexAny_ge _ s
theorem rS:∀ (s:BL),(Lib.indexAny s [47,63]<0->s.takeWhile gF=s/\s.dropWhile gF=[])/\(0<=Lib.indexAny s [47,63]->s.takeWhile gF=s.take (Lib.indexAny s [47,63]).toNat/\s.dropWhile gF=s.drop (Lib.indexAny s [47,63]).toNat/\(Lib.indexAny s [47,63]).toNat<s.length)
 | []=>by simp[Lib.indexAny]
 | b::l=>by
   obtain⟨i1,i2⟩:=rS l
   have hg:=IG l
   have hn:gF b=!([47,63]:BL).contains b:=by
    unfold gF
    have:(b.toNat=47↔b=47)/\(b.toNat=63↔b=63):=⟨by rw[<- UInt8.toNat_inj];rfl,by rw[<- UInt8.toNat_inj];rfl⟩
    rw[ZE]
    simp[this]
   unfold Lib.indexAny
   cases hc:([47,63]:BL).contains b with
   | true=>
     rw[hc]at hn
     simp[List.takeWhile_cons,List.dropWhile_cons,hn]
   | false=>
     rw[hc]at hn
     simp only[Bool.false_eq_true,if_false]
     by_cases h1:Lib.indexAny l [47,63]= -1
     obtain⟨k1,k2⟩:=i1 Z9
     rw[h1]
     simp[List.takeWhile_cons,List.dropWhile_cons,hn,k1,k2]
     obtain⟨k1,k2,k3⟩:=i2 Z9
     rw[if_neg (by simpa using h1)]
     refine⟨fun h=>by omega,fun _=>?_⟩
     rw[show (Lib.indexAny l [47,63]+1).toNat=(Lib.indexAny l [47,63]).toNat+1 from Z9]
     simp[List.takeWhile_cons,List.dropWhile_cons,hn,k1,k2,k3]
def gN(s:BL)(i:Nat):Bool:=decide (i+2<s.length)&&(decide (0<=bW (s.getD (i+1) 0))&&decide (0<=bW (s.getD (i+2) 0)))
def cG(s:BL)(i:Nat):UInt8:=if gN s i=true then cJ (s.getD (i+1) 0) (s.getD (i+2) 0) else 0
theorem fW{s:BL}{i:Nat}:gN s i=true↔i+2<s.length/\0<=bW (s.getD (i+1) 0)/\0<=bW (s.getD (i+2) 0):=by
 unfold gN;simp
theorem pS{s:BL}{i:Nat}(h:gN s i=true):cG s i=cJ (s.getD (i+1) 0) (s.getD (i+2) 0):=if_pos h
theorem xt{s:BL}{i:Nat}(h:gN s i=false):cG s i=0:=if_neg (by rw[h];decide)
theorem fg(l:BL):(Str l).data.toList=l:=rfl
theorem HZ(s:BL)(c:UInt8):PC Tryz.prog 168 [sV s,sV [c]] (fun r=>r=iV (Lib.indexByte s c)):=by
 refine sR (dF Tryz.func168 Z7 Z7) rfl fun w Pb cargs hP hargs=>?_
 obtain⟨r,rfl,h1⟩:=fM hargs
 obtain⟨r,rfl,h2⟩:=fM h1
 obtain rfl:=jT h2
 refine(Tryz.stringslite_Index_one (Str s) c w).mono ?_
 rintro e w' ⟨rfl,rfl⟩
 exact⟨by rw[fg],Below.refl _ _⟩
theorem HB(s:BL)(c:UInt8):PF Tryz.prog 168 [sV s,sV [c]] [] (fun r h=>r=iV (Lib.indexByte s c)/\h=[]):=fT rfl rfl (HZ s c)
theorem KA(s:BL)(hs:s.length<=1000000)(ha:∀ c,c∈s->c.toNat<128):PF Tryz.prog 142 [sV s,sV [47,63]] [] (fun r h=>r=iV (Lib.indexAny s [47,63])/\h=[]):=by
 refine fT rfl rfl (sR (dF Tryz.func142 Z7 Z7) rfl fun w Pb cargs hP hargs=>?_)
 obtain⟨r,rfl,h1⟩:=fM hargs
 obtain⟨r,rfl,h2⟩:=fM h1
 obtain rfl:=jT h2
 refine(Tryz.strings_IndexAny_laid (Str s) (Str [47,63]) w (by rw[fS];omega) (by rw[fS];decide) (fun j b hb=>?_) (fun j b hb=>?_)).mono ?_
 rw[fg]at hb;exact ha b (ZD hb)
 rw[fg]at hb
 have:=ZD hb
 simp at this;rcases this with rfl | rfl <;> decide
 rintro e w' ⟨rfl,hB⟩
 exact⟨by rw[fg,fg],hB⟩
theorem BZ(l:List BL):(l.map Str).map (·.data.toList)=l:=by
 rw[List.map_map];conv=>rhs;rw[<- List.map_id l]
 apply List.map_congr_left;intro x _;exact fg x
theorem Io(f:Bool)(l:List BL)(sep:BL)(hl:l.length<=1000000)(hj:(Lib.join l sep).length<=1000000):PF Tryz.prog 132 [.sl f (l.map sV),sV sep] [] (fun r h=>r=sV (Lib.join l sep)/\h=[]):=by
 refine fT rfl rfl (sR (dF Tryz.func132 Z7 Z7) rfl fun w Pb cargs hP hargs=>?_)
 obtain⟨A,c,r,rfl,h1,hle,hc⟩:=yc hargs
 obtain⟨r,rfl,h2⟩:=fM h1
 obtain rfl:=jT h2
 rcases hc with rfl | ⟨b,o,rfl,hb,hc⟩
 refine(Tryz.strings_Join_none A c (Str sep) w).mono ?_
 rintro e w' ⟨rfl,rfl⟩
 exact⟨rfl,Below.refl _ _⟩
 have:=Tryz.strings_Join b o c (l.map Str) (Str sep) w hc (hP b hb) Z0 (by simpa using hle) (by rw[BZ,fg];omega)
 rw[ZM]at this
 refine this.mono ?_
 rintro e w' ⟨rfl,hB⟩
 exact⟨by rw[BZ,fg];rfl,hB⟩
theorem Js(f:Bool)(l:List BL)(x:BL)(hl:l.length<=1000000):PF Tryz.prog 59 [.sl f (l.map sV),sV x] [] (fun r h=>r=bV (l.contains x)/\h=[]):=by
 refine fT rfl rfl (sR (dF Tryz.func59 Z7 Z7) rfl fun w Pb cargs hP hargs=>?_)
 obtain⟨A,c,r,rfl,h1,hle,hc⟩:=yc hargs
 obtain⟨r,rfl,h2⟩:=fM h1
 obtain rfl:=jT h2
 rcases hc with rfl | ⟨b,o,rfl,hb,hc⟩
 refine(Tryz.slices_Contains_string_empty A c (Str x) w).mono ?_
 rintro e w' ⟨rfl,rfl⟩
 exact⟨rfl,Below.refl _ _⟩
 refine(Tryz.slices_Contains_string b o l.length c (l.map Str) (Str x) w Z8 Z9 (fun j hj=>?_)).mono ?_
 apply hc;rw[ZZ,ZR hj];rfl
 rintro e w' ⟨rfl,rfl⟩
 refine⟨?_,Below.refl _ _⟩
 congr 2
 rw[ZE,Lib.containsS_iff,List.contains_iff_mem,ZL Z8,List.mem_map]
 exact⟨fun⟨y,h1,h2⟩=>by
  have:y=x:=by rw[<- fg y,h2,fg]
  rw[<- this];exact h1,fun h=>⟨x,h,rfl⟩⟩
theorem EU(s:BL)(c:UInt8)(hs:s.length<=1000000):PC Tryz.prog 180 [sV s,sV [c],iV 0,iV (-1)] (fun r=>r=.sl true ((cM c s).map sV)):=by
 refine⟨dF Tryz.func180 Z7 Z7,fun w Pb cargs hP hargs=>?_⟩
 obtain⟨r,rfl,h1⟩:=fM hargs
 obtain⟨r,rfl,h2⟩:=fM h1
 obtain⟨r,rfl,h3⟩:=fM h2
 obtain⟨r,rfl,h4⟩:=fM h3
 obtain rfl:=jT h4
 have hcnt:Lib.countB (Str s) (Str [c])=s.count c:=by
  show Lib.count (Str s).data.toList (Str [c]).data.toList=_
  rw[fg,fg,Lib.count_one]
 have hI:∀ (x:ByteArray) (cs:Array Value),x.size<=(Str s).size->Calls Tryz.prog (Tryz.eV.f 143) #[.string x,.string (Str [c])] (w.alloc (.cells cs (Tryz.eV.t 9))) fun e w'=>e=.returned (.int .i64 (Lib.indexB x (Str [c])))/\w'=w.alloc (.cells cs (Tryz.eV.t 9)):=fun x cs _=>
  (Tryz.strings_Index_one x c _).mono fun e w' h=>by
   rw[show Lib.indexB x (Str [c])=Lib.indexByte x.data.toList c from Lib.index_one _ _];exact h
 have hC:Calls Tryz.prog (Tryz.eV.f 138) #[.string (Str s),.string (Str [c])] w fun e w'=>e=.returned (.int .i64 (Lib.countB (Str s) (Str [c])))/\w'=w:=
  (Tryz.strings_Count_one (Str s) c w).mono fun e w' h=>by
   rw[hcnt];exact h
 have hcl:s.count c<=s.length:=List.count_le_length
 have hg:=Any.strings_genSplit_core Tryz.GQ Z7 (Str s) (Str [c]) 0 (-1) (s.count c+1) w (by rw[fS];omega) (by rw[fS];simp) (Nat.zero_le _) hI hC Z6 Z6 (by rw[if_pos Z6,hcnt,fS];omega)
 have hlen:(Lib.splitB (Str [c]) 0 (s.count c) (Str s)).length=s.count c+1:=Lib.splitB_all _ (by rw[fS];simp) 0 _ _ hcnt
 have hdat:(Lib.splitB (Str [c]) 0 (s.count c) (Str s)).map (·.data.toList)=cM c s:=by
  rw[Lib.splitB_data,fg,fg];exact wW c _ s rfl
 have hl2:(cM c s).length=s.count c+1:=by rw[<- hdat,ZM,hlen]
 have hcells:Lib.cellsOf (Lib.splitB (Str [c]) 0 (s.count c) (Str s)) (s.count c+1)=((cM c s).map fun t=>Value.string (Str t)).toArray:=by
  rw[<- hlen,Lib.cellsOf_full,<- hdat,List.map_map]
  congr 1
 refine hg.mono ?_
 rintro e w' ⟨he,hw⟩
 rw[Nat.add_sub_cancel,hlen]at he
 rw[Nat.add_sub_cancel,hcells]at hw
 subst hw
 refine⟨_,_,[],fun g=>Pb g\/g=w.heap.size,he,rfl,?_,ZA,Z8,fun _ h=>.inl h,fun g h=>h.imp id fun h=>⟨Z9,by rw[dh];omega⟩,⟨rfl,rfl,rfl,by rw[dh];omega,fun k hk=>alloc_old w _ k hk⟩⟩
 refine⟨rfl,_,_,by rw[ZM,hl2],by simp[hl2],fun _=>by simp[hl2],.inr ⟨_,_,1,(cM c s).map fun t=>Value.string (Str t),rfl,.inr rfl,Nat.one_pos,fun v hv=>?_,?_,fun j u hu=>?_⟩⟩
 obtain⟨t,_,rfl⟩:=List.mem_map.1 hv;rfl
 have:∀ (l:List BL) (w:World) (Pb:Nat->Prop),RL w Pb (l.map sV) (l.map fun t=>Value.string (Str t)) []:=by
  intro l w Pb;induction l with
  | nil=>exact⟨rfl,rfl⟩
  | cons t r ih=>exact⟨[_],_,[],[],rfl,rfl,⟨rfl,rfl,rfl⟩,ih⟩
 exact this _ _ _
 rw[ZO]
 have:(w.alloc (.cells ((cM c s).map fun t=>Value.string (Str t)).toArray (Tryz.eV.t 9))).heap[w.heap.size]? =some (.cells ((cM c s).map fun t=>Value.string (Str t)).toArray (Tryz.eV.t 9) (0,0)):=ft w _
 have hb:Blk (w.alloc (.cells ((cM c s).map fun t=>Value.string (Str t)).toArray (Tryz.eV.t 9))) w.heap.size ((cM c s).map fun t=>Value.string (Str t)).toArray:=⟨_,(0,0),this,fun i _ h=>by omega⟩
 rw[dD hb,List.getElem?_toArray];exact hu
theorem FK(s:BL)(c:UInt8)(hs:s.length<=1000000):PF Tryz.prog 180 [sV s,sV [c],iV 0,iV (-1)] [] (fun r h=>r=.sl true ((cM c s).map sV)/\h=[]):=fT rfl rfl (EU s c hs)
theorem Ge(w:World)(Pb:Nat->Prop):∀ (l:List BL),RL w Pb (l.map sV) (l.map fun t=>Value.string (Str t)) []
 | []=>⟨rfl,rfl⟩
 | _::r=>⟨[_],_,[],[],rfl,rfl,⟨rfl,rfl,rfl⟩,Ge w Pb r⟩
theorem tc{w w':World}{Pb:Nat->Prop}{v:Value}{l:List BL}(hP:∀ g,Pb g->g<w.heap.size)(h:w'.ownsRow w.heap.size 9 1 v l.length (l.map fun t=>Value.string (Str t))):
 ∃ F,RV w' Pb (.ow 1 (l.map sV)) v F/\F.Nodup/\∀ g,g∈F->w.heap.size<=g/\g<w'.heap.size/\¬ Pb g:=by
 obtain⟨_,h⟩:=h
 rcases h with ⟨rfl,h0⟩ | ⟨g,cap,cur,rfl,hg,hb,hle,_,hsz,htk⟩
 have:l=[]:=ZF h0
 subst this
 exact⟨[],⟨0,0,0,.inl ⟨rfl,rfl,rfl,none,rfl⟩⟩,ZA,Z8⟩
 have hnp: ¬ Pb g:=fun c=>by have:=hP g c;omega
 by_cases hc:cap=0
 subst hc
 have:l=[]:=ZF Z9
 subst this
 exact⟨[],⟨0,0,0,.inl ⟨rfl,rfl,rfl,_,rfl⟩⟩,ZA,Z8⟩
 have hgl:g<w'.heap.size:=by
  cases hh:w'.heap[g]? with
  | none=>rw[hh]at hb;cases hb
  | some o=>exact(Zt.1 hh).1
 refine⟨[g],⟨g,0,cap,.inr ⟨Z9,Nat.one_pos,by simpa using hle,Z8,fun v hv=>?_,hnp,_,[],cur,rfl,Ge w' Pb l,⟨9,(0,0),hb,fun i _ h=>by omega⟩,Z9,fun j u hu=>?_⟩⟩,Z8,fun x hx=>?_⟩
 obtain⟨t,_,rfl⟩:=List.mem_map.1 hv;rfl
 rw[<- htk,List.getElem?_take]at hu
 split at hu
 rw[ZO,<- Array.getElem?_toList];exact hu
 simp at hu
 obtain rfl:=ZP.1 hx
 exact⟨hg,hgl,hnp⟩
theorem Fw(f:Bool)(l:List BL)(hl:l.length<=1000000):PC Tryz.prog 40 [.sl f (l.map sV)] (fun r=>r=.ow 1 (l.map sV)):=by
 refine⟨dF Tryz.func40 Z7 Z7,fun w Pb cargs hP hargs=>?_⟩
 obtain⟨A,c,r,rfl,h1,hle,hc⟩:=yc hargs
 obtain rfl:=jT h1
 rcases hc with rfl | ⟨b,o,rfl,hb,hc⟩
 cases A with
 | none=>
   refine(Tryz.slices_Clone_string_nil 0 c w).mono ?_
   rintro e w' ⟨rfl,rfl⟩
   exact⟨_,_,[],Pb,rfl,rfl,⟨0,0,0,.inl ⟨rfl,rfl,rfl,none,rfl⟩⟩,ZA,Z8,fun _ h=>h,fun _ h=>.inl h,Below.refl _ _⟩
 | some a=>
   refine(Tryz.slices_Clone_string_zero a c w).mono ?_
   rintro e w' ⟨v,rfl,hr,_,hB⟩
   obtain⟨F,k1,k2,k3⟩:=tc (l:=[]) hP hr
   exact⟨_,_,F,Pb,rfl,rfl,k1,k2,k3,fun _ h=>h,fun _ h=>.inl h,hB⟩
 refine(Tryz.slices_Clone_string b o l.length c (l.map Str) w Z8 Z9 (fun j hj=>?_)).mono ?_
 apply hc;rw[ZZ,ZR hj];rfl
 rintro e w' ⟨v,rfl,hr,_,hB⟩
 rw[ZL Z8,List.map_map]at hr
 obtain⟨F,k1,k2,k3⟩:=tc hP hr
 exact⟨_,_,F,Pb,rfl,rfl,k1,k2,k3,fun _ h=>h,fun _ h=>.inl h,hB⟩
theorem FU(f:Bool)(l:List BL)(hl:l.length<=1000000):PF Tryz.prog 40 [.sl f (l.map sV)] [] (fun r h=>r=.ow 1 (l.map sV)/\h=[]):=fT rfl rfl (Fw f l hl)
def foldI(b:Int):Int:=if 97<=b/\b<=102 then b-32 else b
def dA(i:Nat):Int:=if i<10 then 48+i else 55+i
def jj(b:Int):Int:=if 48<=foldI b/\foldI b<=57 then foldI b-48 else if 65<=foldI b/\foldI b<=70 then foldI b-55 else -1
theorem uB:∀ i,(h:i<16)->((((⟨#[48,49,50,51,52,53,54,55,56,57,65,66,67,68,69,70]⟩:ByteArray)[i]'h).toNat:Nat):Int)=dA i:=Z6
theorem rU{i:Nat}(h:i<16):dA i<128:=by unfold dA;split <;> omega
theorem DU(b:UInt8):jj b.toNat=bW b:=by
 unfold jj foldI bW
 have:=b.toNat_lt
 repeat' split
 all_goals omega
theorem uq{b:Int}{i:Nat}(hi:i<16)(h:dA i=foldI b):jj b=i:=by
 unfold dA at h
 unfold jj
 split at h
 rw[if_pos Z9];omega
 rw[if_neg Z9,if_pos Z9];omega
theorem rq{b:Int}(h:∀ j:Nat,j<16->dA j≠foldI b):jj b= -1:=by
 unfold jj
 split
 rename_i hc
 refine absurd ?_ (h (foldI b-48).toNat Z9)
 unfold dA;rw[if_pos Z9];omega
 split
 rename_i hc
 refine absurd ?_ (h (foldI b-55).toNat Z9)
 unfold dA;rw[if_neg Z9];omega
 rfl
section
open Go Go.RowKit Go.Lib
set_option maxHeartbeats 1000000 in
set_option maxRecDepth 100000 in
theorem Jp(b:Int)(h0:0<=b)(h1:b<256)(hlo:decide ((97:Int)<=b)=false)(w:World):Calls Tryz.prog 198 #[.int .u8 b] w fun e w'=>e=.returned (.tuple #[.int .i64 (max (jj b) 0),.bool (decide (0<=jj b))])/\∃ pos,w'=w.iter ⟨#[48,49,50,51,52,53,54,55,56,57,65,66,67,68,69,70]⟩ pos:=by
 have HF:Aside (foldI b=b):=by
  have:=of_decide_eq_false hlo;unfold Aside foldI;rw[if_neg Z9]
 go_enter Tryz.func198,Tryz.ntmps198
 go_wp2
 go_loopg [4,5] 16 (fun g _ _ wx=> ∃ i:Nat,i+g=16/\wx=w.iter ⟨#[48,49,50,51,52,53,54,55,56,57,65,66,67,68,69,70]⟩ i/\∀ j:Nat,j<i->dA j≠foldI b)
 case atStart=>exact⟨0,Z9,rfl,fun j hj=>by omega⟩
 case round=>
  obtain⟨i,hig,rfl,hno⟩:=hrel
  have HN:Aside (∀ j:Nat,j<i->dA j≠foldI b):=hno
  clear hno
  cases gk with
  | zero=>
    obtain rfl:i=16:=Z9
    have hnx:=run_next_end (P:=Tryz.prog) w ⟨#[48,49,50,51,52,53,54,55,56,57,65,66,67,68,69,70]⟩ 16
    go_wp2
    go_ret2
    exact⟨by rw[rq HN.out];rfl,_,rfl⟩
  | succ g=>
    have hi:i<(⟨#[48,49,50,51,52,53,54,55,56,57,65,66,67,68,69,70]⟩:ByteArray).size:=by show i<16;omega
    have hfa:((((⟨#[48,49,50,51,52,53,54,55,56,57,65,66,67,68,69,70]⟩:ByteArray)[i]'hi).toNat:Nat):Int)=dA i:=uB i hi
    have hlt:((⟨#[48,49,50,51,52,53,54,55,56,57,65,66,67,68,69,70]⟩:ByteArray)[i]'hi).toNat<128:=by have:=rU (show i<16 from hi);omega
    have hnx:=fun ty=>run_next_ascii (P:=Tryz.prog) w ⟨#[48,49,50,51,52,53,54,55,56,57,65,66,67,68,69,70]⟩ i ty hi hlt
    rw[hfa]at hnx
    clear hlt hfa
    cases hin:(dA i==b)
    · have HI:Aside ((dA i==b)=false):=hin
      go_wp2
      go_roundg g
      case measure=>omega
      case rel=>exact⟨i+1,Z9,rfl,fun j hj=>by
       by_cases e:j=i
       subst e;rw[HF.out];exact beq_eq_false_iff_ne.1 HI.out
       exact HN.out j Z9⟩
    have HI:Aside ((dA i==b)=true):=hin
    go_wp2
    go_ret2
    exact⟨by rw[uq (by have:i<16:=hi;exact this) (by rw[HF.out];exact Zp.1 HI.out)];simp,_,rfl⟩
set_option maxHeartbeats 1000000 in
set_option maxRecDepth 100000 in
theorem Ks(b:Int)(h0:0<=b)(h1:b<256)(hlo:decide ((97:Int)<=b)=true)(hhi:decide (b<=102)=false)(w:World):Calls Tryz.prog 198 #[.int .u8 b] w fun e w'=>e=.returned (.tuple #[.int .i64 (max (jj b) 0),.bool (decide (0<=jj b))])/\∃ pos,w'=w.iter ⟨#[48,49,50,51,52,53,54,55,56,57,65,66,67,68,69,70]⟩ pos:=by
 have HF:Aside (foldI b=b):=by
  have:=of_decide_eq_false hhi;unfold Aside foldI;rw[if_neg Z9]
 go_enter Tryz.func198,Tryz.ntmps198
 go_wp2
 go_loopg [4,5] 16 (fun g _ _ wx=> ∃ i:Nat,i+g=16/\wx=w.iter ⟨#[48,49,50,51,52,53,54,55,56,57,65,66,67,68,69,70]⟩ i/\∀ j:Nat,j<i->dA j≠foldI b)
 case atStart=>exact⟨0,Z9,rfl,fun j hj=>by omega⟩
 case round=>
  obtain⟨i,hig,rfl,hno⟩:=hrel
  have HN:Aside (∀ j:Nat,j<i->dA j≠foldI b):=hno
  clear hno
  cases gk with
  | zero=>
    obtain rfl:i=16:=Z9
    have hnx:=run_next_end (P:=Tryz.prog) w ⟨#[48,49,50,51,52,53,54,55,56,57,65,66,67,68,69,70]⟩ 16
    go_wp2
    go_ret2
    exact⟨by rw[rq HN.out];rfl,_,rfl⟩
  | succ g=>
    have hi:i<(⟨#[48,49,50,51,52,53,54,55,56,57,65,66,67,68,69,70]⟩:ByteArray).size:=by show i<16;omega
    have hfa:((((⟨#[48,49,50,51,52,53,54,55,56,57,65,66,67,68,69,70]⟩:ByteArray)[i]'hi).toNat:Nat):Int)=dA i:=uB i hi
    have hlt:((⟨#[48,49,50,51,52,53,54,55,56,57,65,66,67,68,69,70]⟩:ByteArray)[i]'hi).toNat<128:=by have:=rU (show i<16 from hi);omega
    have hnx:=fun ty=>run_next_ascii (P:=Tryz.prog) w ⟨#[48,49,50,51,52,53,54,55,56,57,65,66,67,68,69,70]⟩ i ty hi hlt
    rw[hfa]at hnx
    clear hlt hfa
    cases hin:(dA i==b)
    · have HI:Aside ((dA i==b)=false):=hin
      go_wp2
      go_roundg g
      case measure=>omega
      case rel=>exact⟨i+1,Z9,rfl,fun j hj=>by
       by_cases e:j=i
       subst e;rw[HF.out];exact beq_eq_false_iff_ne.1 HI.out
       exact HN.out j Z9⟩
    have HI:Aside ((dA i==b)=true):=hin
    go_wp2
    go_ret2
    exact⟨by rw[uq (by have:i<16:=hi;exact this) (by rw[HF.out];exact Zp.1 HI.out)];simp,_,rfl⟩
set_option maxHeartbeats 1000000 in
set_option maxRecDepth 100000 in
theorem EY(b:Int)(h0:0<=b)(h1:b<256)(hlo:decide ((97:Int)<=b)=true)(hhi:decide (b<=102)=true)(w:World):Calls Tryz.prog 198 #[.int .u8 b] w fun e w'=>e=.returned (.tuple #[.int .i64 (max (jj b) 0),.bool (decide (0<=jj b))])/\∃ pos,w'=w.iter ⟨#[48,49,50,51,52,53,54,55,56,57,65,66,67,68,69,70]⟩ pos:=by
 have HF:Aside (foldI b=(b-32) % 256):=by
  have:=of_decide_eq_true hhi;have:=of_decide_eq_true hlo;unfold Aside foldI;rw[if_pos Z9];omega
 go_enter Tryz.func198,Tryz.ntmps198
 go_wp2
 go_loopg [4,5] 16 (fun g _ _ wx=> ∃ i:Nat,i+g=16/\wx=w.iter ⟨#[48,49,50,51,52,53,54,55,56,57,65,66,67,68,69,70]⟩ i/\∀ j:Nat,j<i->dA j≠foldI b)
 case atStart=>exact⟨0,Z9,rfl,fun j hj=>by omega⟩
 case round=>
  obtain⟨i,hig,rfl,hno⟩:=hrel
  have HN:Aside (∀ j:Nat,j<i->dA j≠foldI b):=hno
  clear hno
  cases gk with
  | zero=>
    obtain rfl:i=16:=Z9
    have hnx:=run_next_end (P:=Tryz.prog) w ⟨#[48,49,50,51,52,53,54,55,56,57,65,66,67,68,69,70]⟩ 16
    go_wp2
    go_ret2
    exact⟨by rw[rq HN.out];rfl,_,rfl⟩
  | succ g=>
    have hi:i<(⟨#[48,49,50,51,52,53,54,55,56,57,65,66,67,68,69,70]⟩:ByteArray).size:=by show i<16;omega
    have hfa:((((⟨#[48,49,50,51,52,53,54,55,56,57,65,66,67,68,69,70]⟩:ByteArray)[i]'hi).toNat:Nat):Int)=dA i:=uB i hi
    have hlt:((⟨#[48,49,50,51,52,53,54,55,56,57,65,66,67,68,69,70]⟩:ByteArray)[i]'hi).toNat<128:=by have:=rU (show i<16 from hi);omega
    have hnx:=fun ty=>run_next_ascii (P:=Tryz.prog) w ⟨#[48,49,50,51,52,53,54,55,56,57,65,66,67,68,69,70]⟩ i ty hi hlt
    rw[hfa]at hnx
    clear hlt hfa
    cases hin:(dA i==(b-32) % 256)
    · have HI:Aside ((dA i==(b-32) % 256)=false):=hin
      go_wp2
      go_roundg g
      case measure=>omega
      case rel=>exact⟨i+1,Z9,rfl,fun j hj=>by
       by_cases e:j=i
       subst e;rw[HF.out];exact beq_eq_false_iff_ne.1 HI.out
       exact HN.out j Z9⟩
    have HI:Aside ((dA i==(b-32) % 256)=true):=hin
    go_wp2
    go_ret2
    exact⟨by rw[uq (by have:i<16:=hi;exact this) (by rw[HF.out];exact Zp.1 HI.out)];simp,_,rfl⟩
theorem JY(b:UInt8):PC Tryz.prog 198 [uN b.toNat] (fun r=>r=.tup [iV (max (bW b) 0),bV (decide (0<=bW b))]):=by
 refine⟨dF Tryz.func198 Z7 Z7,fun w Pb cargs hP hargs=>?_⟩
 obtain⟨r,rfl,h1⟩:=fM hargs
 obtain rfl:=jT h1
 have hb:=b.toNat_lt
 have h:Calls Tryz.prog 198 #[.int .u8 b.toNat] w fun e w'=>e=.returned (.tuple #[.int .i64 (max (jj b.toNat) 0),.bool (decide (0<=jj b.toNat))])/\∃ pos,w'=w.iter ⟨#[48,49,50,51,52,53,54,55,56,57,65,66,67,68,69,70]⟩ pos:=by
  cases h1:decide ((97:Int)<=b.toNat)
  exact Jp _ Z9 Z9 h1 w
  cases h2:decide ((b.toNat:Int)<=102)
  exact Ks _ Z9 Z9 h1 h2 w
  exact EY _ Z9 Z9 h1 h2 w
 rw[DU]at h
 refine h.mono ?_
 rintro e w' ⟨rfl,pos,rfl⟩
 exact⟨_,_,[],Pb,rfl,rfl,qh rfl rfl,ZA,Z8,fun _ h=>h,fun _ h=>.inl h,⟨rfl,rfl,rfl,by simp[World.iter],fun k hk=>alloc_old w _ k hk⟩⟩
theorem Jd(b:UInt8):PF Tryz.prog 198 [uN b.toNat] [] (fun r h=>r=.tup [iV (max (bW b) 0),bV (decide (0<=bW b))]/\h=[]):=fT rfl rfl (JY b)
end
def W7:ZT Tryz.prog:=⟨3,iN 0,dk (cs:=[.int .i64 0]) Z7 Z7⟩
def W6:ZT Tryz.prog:=⟨4,bV false,dk (cs:=[.bool false]) Z7 Z7⟩
def LK:ZT Tryz.prog:=⟨24,.sl true [],dk (cs:=[.slice none 0 0]) Z7 Z7⟩
def fP:ZT Tryz.prog:=⟨30,.agg [sV [],iN 0,.sl true [],.sl true [],.sl true []],dk (cs:=[.string ⟨#[]⟩,.int .i64 0,.slice none 0 0,.slice none 0 0,.slice none 0 0]) Z7 Z7⟩
def Lw:ZT Tryz.prog:=⟨65,.agg [.lit (.map none),.lit (.pointer none)],dk (cs:=[.map none,.pointer none]) Z7 Z7⟩
def iA:ZT Tryz.prog:=⟨69,.agg [.sl true [],.sl true [],iN 0],dk (cs:=[.slice none 0 0,.slice none 0 0,.int .i64 0]) Z7 Z7⟩
def FG:ZT Tryz.prog:=⟨72,.agg [sV [],iN 0,bV false,.agg [.sl true [],.sl true [],iN 0],iN 0,.sl true []],dk (cs:=[.string ⟨#[]⟩,.int .i64 0,.bool false,.slice none 0 0,.slice none 0 0,.int .i64 0,.int .i64 0,.slice none 0 0]) Z7 Z7⟩
def LD:ZT Tryz.prog:=⟨80,.agg [.sl true [],iN 0],dk (cs:=[.slice none 0 0,.int .i64 0]) Z7 Z7⟩
def lX:ZT Tryz.prog:=⟨82,.agg [sV [],sV [],sV [],iN 0],dk (cs:=[.string ⟨#[]⟩,.string ⟨#[]⟩,.string ⟨#[]⟩,.int .i64 0]) Z7 Z7⟩
def Fq:ZT Tryz.prog:=⟨94,.agg [iN 0,sV [],iN 0],dk (cs:=[.int .i64 0,.string ⟨#[]⟩,.int .i64 0]) Z7 Z7⟩
def cY:ZT Tryz.prog:=⟨96,.agg [sV [],.sl true [],bV false,sV []],dk (cs:=[.string ⟨#[]⟩,.slice none 0 0,.bool false,.string ⟨#[]⟩]) Z7 Z7⟩
def Lb:ZT Tryz.prog:=⟨100,.agg [iN 0,bV false],dk (cs:=[.int .i64 0,.bool false]) Z7 Z7⟩
def og:ZT Tryz.prog:=⟨115,.agg [sV [],iN 0],dk (cs:=[.string ⟨#[]⟩,.int .i64 0]) Z7 Z7⟩
def sO:ZT Tryz.prog:=⟨137,.agg [bV false,sV []],dk (cs:=[.bool false,.string ⟨#[]⟩]) Z7 Z7⟩
def KH:ZT Tryz.prog:=⟨149,.agg [.lit .nilFunc,.lit .nilFunc],dk (cs:=[.nilFunc,.nilFunc]) Z7 Z7⟩
def KD:ZT Tryz.prog:=⟨193,.agg [.sl true [],bV false],dk (cs:=[.slice none 0 0,.bool false]) Z7 Z7⟩
def KW:ZT Tryz.prog:=⟨216,.agg [.lit .nilFunc,.lit .nilFunc,.lit .nilFunc],dk (cs:=[.nilFunc,.nilFunc,.nilFunc]) Z7 Z7⟩
def kW:ZT Tryz.prog:=⟨220,.agg [sV []],dk (cs:=[.string ⟨#[]⟩]) Z7 Z7⟩
def Bt:ZT Tryz.prog:=⟨222,.agg [.agg [bV false,sV []]],dk (cs:=[.bool false,.string ⟨#[]⟩]) Z7 Z7⟩
def Gi:ZT Tryz.prog:=⟨225,.agg [iN 0],dk (cs:=[.int .i64 0]) Z7 Z7⟩
theorem mixed:Tryz.prog.follows .mixedOrders=true:=Z7
abbrev nf(s:BL)(c:UInt8):V:=.tup [sV ((ab c s).1),sV ((ab c s).2.1),bV ((ab c s).2.2)]
abbrev jM(s:BL)(c:UInt8)(i:Nat):Prop:=i<=s.length/\ab c s=(s.take i++(ab c (s.drop i)).1,(ab c (s.drop i)).2.1,(ab c (s.drop i)).2.2)
def lu(s:BL)(c:UInt8):o8 Tryz.prog:=.mk 108 [sV s,uN c.toNat] [] (s.length<=4611686018427387904) (nf s c) [] (by
 intro hs
 refine aq (N:=27) (rs:=[.tmp 4,.tmp 5,.tmp 6]) Tryz.func108
  (.q 3<|.q 1<|.loop (Nat) (fun (i:Nat)=>⟨[(0,sV s),(1,uN c.toNat),(7,iN i)],[]⟩) (fun (i:Nat)=>jM s c i) (fun (i:Nat)=>s.length-i) (fun (i:Nat)=>.q 4<|.br (.q 5<|.br (.dx 8 [0,1,2,3,4,5,6,7] [] []<|.q 1<|.q 1<|.q 1<|.q 1<|.q 1<|.q 1<|.q 1<|.q 1<|.q 2<|.nil) (.q 3<|.nil)) (.q 4<|.nil)))
  ((∃ h9:Nat,(jM s c h9)/\E (sV s)/\E (uN c.toNat)/\Q (iN 0) (iN h9)/\True)/\∀ i:Nat,(jM s c i)->Br (s4 (i:Int) (s.length:Int)) (Ix (i:Int) s/\Br (o6 (((s.getD i 0).toNat:Nat):Int) (c.toNat:Int)) (Sx (0:Int) (i:Int) s/\m6 ((i:Int)+1)/\Sx ((i+1:Nat):Int) (s.length:Int) s/\Q (.tup [sV ((s.take i).drop ((0:Int).toNat)),sV ((s.take s.length).drop (i+1)),bV true]) (nf s c)) (m6 ((i:Int)+1)/\∃ b9:Nat,(jM s c b9)/\(s.length-b9<s.length-i)/\E (sV s)/\E (uN c.toNat)/\Q (iN (i+1)) (iN b9)/\True)) (Q (.tup [sV s,sV [],bV false]) (nf s c))) ?_
 refine⟨⟨0,?_,rfl,rfl,rfl,trivial⟩,?_⟩
 unfold jM
 simp_all
 rintro i ⟨hi,Ms⟩
 refine bI (fun j7=>?_) fun j7=>?_
 refine⟨Z9,?_⟩
 refine bI (fun l4=>?_) fun l4=>?_
 refine⟨Z9,Z9,Z9,?_⟩
 unfold Q nf
 have he:s.getD i 0=c:=UInt8.toNat_inj.1 (by exact_mod_cast l4)
 rw[Ms,drop_cons (by omega:i<s.length) 0,ab,if_pos he]
 simp
 refine⟨Z9,?_⟩
 refine⟨i+1,?_,?_,rfl,rfl,rfl,trivial⟩
 unfold jM
 refine⟨Z9,?_⟩
 have hne: ¬ s.getD i 0=c:=fun h=>l4 (by rw[h])
 rw[Ms,drop_cons (by omega:i<s.length) 0]
 simp only[ab,if_neg hne,aW (by omega:i<s.length) 0,List.append_assoc,List.cons_append,List.nil_append]
 exact Z1
 unfold Q nf
 have hl:s.length<=i:=Z9
 rw[Ms,ZC hl,ab,ZL hl]
 simp)
def kA(n:Int)(lo:Int)(up:Int):o8 Tryz.prog:=.mk 51 [iV n,iV lo,iV up] [] True (bV (z8 n lo up)) [] (by
 intro _
 refine aq (N:=15) (rs:=[.tmp 6]) Tryz.func51
  (.q 1<|.q 9<|.nil)
  (Pk (x6 n lo) ((x6 n lo)==true) true/\Q (bV ((x6 n lo)&&(C6 n up))) (bV (z8 n lo up))) ?_
 refine⟨⟨fun h=>by rw[h] <;> rfl,fun _=>rfl⟩,?_⟩
 unfold Q
 refine Zo bV ?_
 rw[ZE]
 simp[z8])
def iW(b:UInt8):o8 Tryz.prog:=.mk 156 [uN b.toNat] [] True (bV (dE b)) [] (by
 intro _
 refine aq (N:=25) (rs:=[.tmp 2]) Tryz.func156
  (.q 1<|.q 23<|.nil)
  ((fun v1:Int=>(fun v2:Bool=>(Pk (x6 v1 97) ((x6 v1 97)==true) true/\Gd v2 (Pk (x6 v1 48) (v2&&((x6 v1 48)==true)) true)/\Pk ((x6 v1 97)&&(C6 v1 122)) true v2/\Pk (((x6 v1 97)&&(C6 v1 122))||((x6 v1 48)&&(C6 v1 57))) true ((((x6 v1 97)&&(C6 v1 122))||((x6 v1 48)&&(C6 v1 57)))==false)/\Pk ((((x6 v1 97)&&(C6 v1 122))||((x6 v1 48)&&(C6 v1 57)))||(o6 v1 46)) true (((((x6 v1 97)&&(C6 v1 122))||((x6 v1 48)&&(C6 v1 57)))||(o6 v1 46))==false)/\Q (bV (((((x6 v1 97)&&(C6 v1 122))||((x6 v1 48)&&(C6 v1 57)))||(o6 v1 46))||(o6 v1 45))) (bV (dE b)))) (((x6 v1 97)&&(C6 v1 122))==false)) (b.toNat:Int)) ?_
 refine⟨⟨fun h=>by rw[h] <;> rfl,fun _=>rfl⟩,fun hG=>⟨fun h=>by rw[h];exact(ZX _ _).mpr ⟨hG,rfl⟩,fun _=>rfl⟩,⟨fun _=>rfl,fun h=>by rw[h] <;> rfl⟩,⟨fun _=>rfl,fun h=>by rw[h] <;> rfl⟩,⟨fun _=>rfl,fun h=>by rw[h] <;> rfl⟩,?_⟩
 unfold Q
 refine Zo bV ?_
 rw[ZE]
 simp[dE]
 try omega)
def jQ(b:UInt8):o8 Tryz.prog:=.mk 167 [uN b.toNat] [] True (bV (dE b)) [] (by
 intro _
 refine aq (N:=25) (rs:=[.tmp 2]) Tryz.func167
  (.q 1<|.q 23<|.nil)
  ((fun v1:Int=>(fun v2:Bool=>(Pk (x6 v1 97) ((x6 v1 97)==true) true/\Gd v2 (Pk (x6 v1 48) (v2&&((x6 v1 48)==true)) true)/\Pk ((x6 v1 97)&&(C6 v1 122)) true v2/\Pk (((x6 v1 97)&&(C6 v1 122))||((x6 v1 48)&&(C6 v1 57))) true ((((x6 v1 97)&&(C6 v1 122))||((x6 v1 48)&&(C6 v1 57)))==false)/\Pk ((((x6 v1 97)&&(C6 v1 122))||((x6 v1 48)&&(C6 v1 57)))||(o6 v1 46)) true (((((x6 v1 97)&&(C6 v1 122))||((x6 v1 48)&&(C6 v1 57)))||(o6 v1 46))==false)/\Q (bV (((((x6 v1 97)&&(C6 v1 122))||((x6 v1 48)&&(C6 v1 57)))||(o6 v1 46))||(o6 v1 45))) (bV (dE b)))) (((x6 v1 97)&&(C6 v1 122))==false)) (b.toNat:Int)) ?_
 refine⟨⟨fun h=>by rw[h] <;> rfl,fun _=>rfl⟩,fun hG=>⟨fun h=>by rw[h];exact(ZX _ _).mpr ⟨hG,rfl⟩,fun _=>rfl⟩,⟨fun _=>rfl,fun h=>by rw[h] <;> rfl⟩,⟨fun _=>rfl,fun h=>by rw[h] <;> rfl⟩,⟨fun _=>rfl,fun h=>by rw[h] <;> rfl⟩,?_⟩
 unfold Q
 refine Zo bV ?_
 rw[ZE]
 simp[dE]
 try omega)
def iU(b:UInt8):o8 Tryz.prog:=.mk 187 [uN b.toNat] [] True (iV (bW b)) [] (by
 intro _
 refine aq (N:=35) (rs:=[.tmp 2]) Tryz.func187
  (.q 1<|.q 7<|.br (.q 4<|.nil) (.q 7<|.br (.q 5<|.nil) (.q 7<|.br (.q 5<|.nil) (.q 1<|.nil))))
  ((fun v1:Int=>(Pk (x6 v1 48) ((x6 v1 48)==true) true/\Br ((x6 v1 48)&&(C6 v1 57)) (Ov (v1-48)/\m6 (v1-48)/\Q (iV (v1-48)) (iV (bW b))) (Pk (x6 v1 97) ((x6 v1 97)==true) true/\Br ((x6 v1 97)&&(C6 v1 102)) (Ov (v1-97)/\m6 (v1-97)/\m6 ((v1-97)+10)/\Q (iV ((v1-97)+10)) (iV (bW b))) (Pk (x6 v1 65) ((x6 v1 65)==true) true/\Br ((x6 v1 65)&&(C6 v1 70)) (Ov (v1-65)/\m6 (v1-65)/\m6 ((v1-65)+10)/\Q (iV ((v1-65)+10)) (iV (bW b))) (Q (iV (-1)) (iV (bW b))))))) (b.toNat:Int)) ?_
 refine⟨⟨fun h=>by rw[h] <;> rfl,fun _=>rfl⟩,?_⟩
 refine bI (fun j7=>?_) fun j7=>?_
 · refine⟨by have:=Zx b;omega,by have:=Zx b;omega,?_⟩
   unfold Q
   have:=b.toNat_lt
   refine Zo iV ?_
   unfold bW
   repeat (split <;> try omega)
 · refine⟨⟨fun h=>by rw[h] <;> rfl,fun _=>rfl⟩,?_⟩
   refine bI (fun l4=>?_) fun l4=>?_
   · refine⟨by have:=Zx b;omega,by have:=Zx b;omega,by have:=Zx b;omega,?_⟩
     unfold Q
     have:=b.toNat_lt
     refine Zo iV ?_
     unfold bW
     repeat (split <;> try omega)
   · refine⟨⟨fun h=>by rw[h] <;> rfl,fun _=>rfl⟩,?_⟩
     refine bI (fun m8=>?_) fun m8=>?_
     · refine⟨by have:=Zx b;omega,by have:=Zx b;omega,by have:=Zx b;omega,?_⟩
       unfold Q
       have:=b.toNat_lt
       refine Zo iV ?_
       unfold bW
       repeat (split <;> try omega)
     · unfold Q
       have:=b.toNat_lt
       refine Zo iV ?_
       unfold bW
       repeat (split <;> try omega))
def vL(s:BL):o8 Tryz.prog:=.mk 135 [sV s] [] (s.length<=4611686018427387904) (bV (ck s)) [] (by
 intro hs
 refine aq (N:=23) (rs:=[.tmp 2]) Tryz.func135
  (.q 1<|.q 1<|.loop (Nat) (fun (i:Nat)=>⟨[(0,sV s),(3,iN i)],[]⟩) (fun (i:Nat)=>i<=s.length/\∀ j,j<i->fG (s.getD j 0)=true) (fun (i:Nat)=>s.length-i) (fun (i:Nat)=>.q 4<|.br (.q 10<|.br (.q 1<|.nil) (.q 3<|.nil)) (.q 2<|.c (kA (s.length:Int) (1:Int) (5:Int)) []<|.q 1<|.nil)))
  ((∃ h9:Nat,(h9<=s.length/\∀ j,j<h9->fG (s.getD j 0)=true)/\E (sV s)/\Q (iN 0) (iN h9)/\True)/\∀ i:Nat,(i<=s.length/\∀ j,j<i->fG (s.getD j 0)=true)->(fun v1:Int=>Br (s4 (i:Int) (s.length:Int)) (Ix (i:Int) s/\Gd ((s4 v1 97)==false) (Ix (i:Int) s)/\Pk (s4 v1 97) true ((s4 v1 97)==false)/\Br ((s4 v1 97)||(s7 v1 122)) (Q (bV false) (bV (ck s))) (m6 ((i:Int)+1)/\∃ b9:Nat,(b9<=s.length/\∀ j,j<b9->fG (s.getD j 0)=true)/\(s.length-b9<s.length-i)/\E (sV s)/\Q (iN (i+1)) (iN b9)/\True)) ((kA (s.length:Int) (1:Int) (5:Int)).sm/\(True)/\Q (bV (z8 (s.length:Int) (1:Int) (5:Int))) (bV (ck s)))) (((s.getD i 0).toNat:Nat):Int)) ?_
 refine⟨⟨0,?_,rfl,rfl,trivial⟩,?_⟩
 simp_all
 rintro i ⟨hi,Oc⟩
 refine bI (fun j7=>?_) fun j7=>?_
 refine⟨Z9,fun hG=>by(try simp only[nb]at hG);omega,⟨fun _=>rfl,fun h=>by rw[h] <;> rfl⟩,?_⟩
 refine bI (fun l4=>?_) fun l4=>?_
 unfold Q
 rw[show ck s=false from by unfold ck fa;rw[all_false (i:=i) (d:=0) Z9 (by simp only[fG,decide_eq_false_iff_not];omega)];rfl]
 refine⟨Z9,?_⟩
 refine⟨i+1,?_,?_,rfl,rfl,trivial⟩
 refine⟨Z9,bE Oc ?_⟩
 simp only[fG,Zq];omega
 exact Z1
 refine⟨rfl,trivial,?_⟩
 unfold Q
 unfold ck
 rw[show fa s=true from all_true (d:=0) fun j hj=>Oc j Z9]
 rw[Bool.true_and])
def ob(s:BL):o8 Tryz.prog:=.mk 48 [sV s] [] (s.length<=4611686018427387904) (bV (bp s)) [] (by
 intro hs
 refine aq (N:=23) (rs:=[.tmp 2]) Tryz.func48
  (.q 1<|.q 1<|.loop (Nat) (fun (i:Nat)=>⟨[(0,sV s),(3,iN i)],[]⟩) (fun (i:Nat)=>i<=s.length/\∀ j,j<i->fG (s.getD j 0)=true) (fun (i:Nat)=>s.length-i) (fun (i:Nat)=>.q 4<|.br (.q 10<|.br (.q 1<|.nil) (.q 3<|.nil)) (.q 2<|.c (kA (s.length:Int) (1:Int) (8:Int)) []<|.q 1<|.nil)))
  ((∃ h9:Nat,(h9<=s.length/\∀ j,j<h9->fG (s.getD j 0)=true)/\E (sV s)/\Q (iN 0) (iN h9)/\True)/\∀ i:Nat,(i<=s.length/\∀ j,j<i->fG (s.getD j 0)=true)->(fun v1:Int=>Br (s4 (i:Int) (s.length:Int)) (Ix (i:Int) s/\Gd ((s4 v1 97)==false) (Ix (i:Int) s)/\Pk (s4 v1 97) true ((s4 v1 97)==false)/\Br ((s4 v1 97)||(s7 v1 122)) (Q (bV false) (bV (bp s))) (m6 ((i:Int)+1)/\∃ b9:Nat,(b9<=s.length/\∀ j,j<b9->fG (s.getD j 0)=true)/\(s.length-b9<s.length-i)/\E (sV s)/\Q (iN (i+1)) (iN b9)/\True)) ((kA (s.length:Int) (1:Int) (8:Int)).sm/\(True)/\Q (bV (z8 (s.length:Int) (1:Int) (8:Int))) (bV (bp s)))) (((s.getD i 0).toNat:Nat):Int)) ?_
 refine⟨⟨0,?_,rfl,rfl,trivial⟩,?_⟩
 simp_all
 rintro i ⟨hi,Oc⟩
 refine bI (fun j7=>?_) fun j7=>?_
 refine⟨Z9,fun hG=>by(try simp only[nb]at hG);omega,⟨fun _=>rfl,fun h=>by rw[h] <;> rfl⟩,?_⟩
 refine bI (fun l4=>?_) fun l4=>?_
 unfold Q
 rw[show bp s=false from by unfold bp fa;rw[all_false (i:=i) (d:=0) Z9 (by simp only[fG,decide_eq_false_iff_not];omega)];rfl]
 refine⟨Z9,?_⟩
 refine⟨i+1,?_,?_,rfl,rfl,trivial⟩
 refine⟨Z9,bE Oc ?_⟩
 simp only[fG,Zq];omega
 exact Z1
 refine⟨rfl,trivial,?_⟩
 unfold Q
 unfold bp
 rw[show fa s=true from all_true (d:=0) fun j hj=>Oc j Z9]
 rw[Bool.true_and])
def kO(s:BL):o8 Tryz.prog:=.mk 69 [sV s] [] (s.length<=4611686018427387904) (bV (fa s)) [] (by
 intro hs
 refine aq (N:=20) (rs:=[.tmp 2]) Tryz.func69
  (.q 1<|.q 1<|.loop (Nat) (fun (i:Nat)=>⟨[(0,sV s),(3,iN i)],[]⟩) (fun (i:Nat)=>i<=s.length/\∀ j,j<i->fG (s.getD j 0)=true) (fun (i:Nat)=>s.length-i) (fun (i:Nat)=>.q 4<|.br (.q 10<|.br (.q 1<|.nil) (.q 3<|.nil)) (.q 1<|.nil)))
  ((∃ h9:Nat,(h9<=s.length/\∀ j,j<h9->fG (s.getD j 0)=true)/\E (sV s)/\Q (iN 0) (iN h9)/\True)/\∀ i:Nat,(i<=s.length/\∀ j,j<i->fG (s.getD j 0)=true)->(fun v1:Int=>Br (s4 (i:Int) (s.length:Int)) (Ix (i:Int) s/\Gd ((s4 v1 97)==false) (Ix (i:Int) s)/\Pk (s4 v1 97) true ((s4 v1 97)==false)/\Br ((s4 v1 97)||(s7 v1 122)) (Q (bV false) (bV (fa s))) (m6 ((i:Int)+1)/\∃ b9:Nat,(b9<=s.length/\∀ j,j<b9->fG (s.getD j 0)=true)/\(s.length-b9<s.length-i)/\E (sV s)/\Q (iN (i+1)) (iN b9)/\True)) (Q (bV true) (bV (fa s)))) (((s.getD i 0).toNat:Nat):Int)) ?_
 refine⟨⟨0,?_,rfl,rfl,trivial⟩,?_⟩
 simp_all
 rintro i ⟨hi,Oc⟩
 refine bI (fun j7=>?_) fun j7=>?_
 refine⟨Z9,fun hG=>by(try simp only[nb]at hG);omega,⟨fun _=>rfl,fun h=>by rw[h] <;> rfl⟩,?_⟩
 refine bI (fun l4=>?_) fun l4=>?_
 unfold Q
 rw[show fa s=false from by unfold fa;rw[all_false (i:=i) (d:=0) Z9 (by simp only[fG,decide_eq_false_iff_not];omega)]]
 refine⟨Z9,?_⟩
 refine⟨i+1,?_,?_,rfl,rfl,trivial⟩
 refine⟨Z9,bE Oc ?_⟩
 simp only[fG,Zq];omega
 exact Z1
 unfold Q
 rw[show fa s=true from all_true (d:=0) fun j hj=>Oc j Z9])
def mE(s:BL):o8 Tryz.prog:=.mk 84 [sV s] [] (s.length<=4611686018427387904) (bV (ck s)) [] (by
 intro hs
 refine aq (N:=15) (rs:=[.tmp 2]) Tryz.func84
  (.q 1<|.q 10<|.cg (kO s)<|.q 2<|.nil)
  ((fun v1:Int=>(Pk (x6 v1 1) ((x6 v1 1)==true) true/\Gd (((x6 v1 1)&&(C6 v1 5))==true) (((s.length<=4611686018427387904))/\(kO s).sm)/\Pk ((x6 v1 1)&&(C6 v1 5)) (((x6 v1 1)&&(C6 v1 5))==true) true/\Q (bV (((x6 v1 1)&&(C6 v1 5))&&(fa s))) (bV (ck s)))) (s.length:Int)) ?_
 refine⟨⟨fun h=>by rw[h] <;> rfl,fun _=>rfl⟩,fun hG=>⟨by(try simp only[nb]at hG);first | assumption | omega | (simp;omega),rfl⟩,⟨fun h=>by rw[h] <;> rfl,fun _=>rfl⟩,?_⟩
 unfold Q
 refine Zo bV ?_
 rw[ZE]
 simp[ck,z8,and_comm,and_assoc]
 try omega)
def jE(s:BL):o8 Tryz.prog:=.mk 39 [sV s] [] (s.length<=4611686018427387904) (bV (bp s)) [] (by
 intro hs
 refine aq (N:=15) (rs:=[.tmp 2]) Tryz.func39
  (.q 1<|.q 10<|.cg (kO s)<|.q 2<|.nil)
  ((fun v1:Int=>(Pk (x6 v1 1) ((x6 v1 1)==true) true/\Gd (((x6 v1 1)&&(C6 v1 8))==true) (((s.length<=4611686018427387904))/\(kO s).sm)/\Pk ((x6 v1 1)&&(C6 v1 8)) (((x6 v1 1)&&(C6 v1 8))==true) true/\Q (bV (((x6 v1 1)&&(C6 v1 8))&&(fa s))) (bV (bp s)))) (s.length:Int)) ?_
 refine⟨⟨fun h=>by rw[h] <;> rfl,fun _=>rfl⟩,fun hG=>⟨by(try simp only[nb]at hG);first | assumption | omega | (simp;omega),rfl⟩,⟨fun h=>by rw[h] <;> rfl,fun _=>rfl⟩,?_⟩
 unfold Q
 refine Zo bV ?_
 rw[ZE]
 simp[bp,z8,and_comm,and_assoc]
 try omega)
end Go.Proofs.YtelggdgnblpjdaaGreatDoor