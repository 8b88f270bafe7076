/-
  Words and walks for the laws of pedlar's seat: what each function of the program computes, and that it does; no conditions beyond those that each statement names.
-/
import Derived.Test.YtngholilfbdfkabGreatDoorGA
import Derived.Scope
import Derived.Laws.MakeOwn
import Derived.MapKept
import Derived.Test.YtngholilfbdfkabGreatDoorProg
import Derived.Shelf.Strings.OnBuilder
import Derived.Shelf.Strings.Search2
import Derived.Shelf.Strings.Search3
import Derived.Shelf.Strings.Count
import Derived.Shelf.Strings.SplitCore
import Derived.Shelf.Strings.IndexAnyAll
import Derived.Shelf.Slices.Turned
import Derived.Shelf.Slices.Clone
import Derived.Lib.Join
import Derived.Lib.IndexAny
import Derived.Lib.SplitLaws
import Derived.WalkKit
import Derived.Laws.RangeString
import Derived.Deep.LoopGhost
set_option linter.unusedVariables false
set_option linter.unusedSimpArgs false
set_option linter.unnecessarySimpa false
set_option linter.unusedSectionVars false
namespace Go.Proofs.YtngholilfbdfkabGreatDoor
open Go Go.RowKit
set_option maxRecDepth 20000
mutual
def V.QU(ρ:l9->l9):V->V
 | .hd r p sz g o lo n c=>.hd (ρ r) p sz g o lo n c
 | .ptr r p g o=>.ptr (ρ r) p g o
 | .agg vs=>.agg (V.wW ρ vs)
 | .tup vs=>.tup (V.wW ρ vs)
 | v=>v
def V.wW(ρ:l9->l9):List V->List V
 | []=>[]
 | v::vs=>v.QU ρ::V.wW ρ vs
end
def X8:V->V
 | .tup _=>.b9
 | .gv _ _=>.b9
 | v=>v
def AS.tk(A:AS):List Operand->List V×AS
 | []=>([],A)
 | x::xs=>match (A.drop x).tk xs with
   | (vs,B)=>(X8 (A.ev x)::vs,B)
section
variable {w w':World} {Pb Kb Pb':Nat->Prop} {N:Nat} {A A' B:AS} {a:Act} {F:l9->List Nat} {P:Program} {ops:Array Oper}
mutual
theorem HU(ρ:l9->l9):∀ (v:V) {cs F},R w Pb v cs F->R w Pb (v.QU ρ) cs F
 | .agg vs,_,_,h=>by simp only[R,V.QU]at h ⊢;exact uO ρ vs h
 | .tup _,_,_,h=>by simp[R]at h
 | .hd ..,_,_,h=>h
 | .ptr ..,_,_,h=>h
 | .gv _ _,_,_,h=>h
 | .lit _,_,_,h=>h
 | .sl ..,_,_,h=>h
 | .own ..,_,_,h=>h
 | .ow ..,_,_,h=>h
 | .om ..,_,_,h=>h
 | .mp _,_,_,h=>h
 | .ep _,_,_,h=>h
 | .b9,_,_,h=>h
theorem uO(ρ:l9->l9):∀ (vs:List V) {cs F},RL w Pb vs cs F->RL w Pb (V.wW ρ vs) cs F
 | [],_,_,h=>h
 | v::vs,_,_,h=>by
   obtain⟨c1,c2,F1,F2,rfl,rfl,h1,h2⟩:=h;exact⟨c1,c2,F1,F2,rfl,rfl,HU ρ v h1,uO ρ vs h2⟩
end
theorem JS(ρ:l9->l9){v:V}{x:Value}{F1:List Nat}(h:Ro w Pb v x F1):Ro w Pb (v.QU ρ) x F1:=by
 cases v with
 | agg us=>obtain⟨cs,rfl,h⟩:=h;exact⟨cs,rfl,uO ρ us h⟩
 | tup vs=>simp[Ro,R]at h
 | _=>exact h
theorem AY(ρ:l9->l9):∀ (vs:List V) {xs F1},RVs w Pb vs xs F1->RVs w Pb (V.wW ρ vs) xs F1
 | [],_,_,h=>h
 | v::vs,xs,F1,h=>by
   obtain⟨x,xs',Fa,Fb,rfl,rfl,h1,h2⟩:=(va (v::vs)).1 h;exact(va (v.QU ρ::V.wW ρ vs)).2 ⟨x,xs',Fa,Fb,rfl,rfl,JS ρ h1,AY ρ vs h2⟩
theorem LH(ρ:l9->l9){v:V}{x:Value}{F1:List Nat}(h:RV w Pb v x F1):RV w Pb (v.QU ρ) x F1:=by
 cases v with
 | agg us=>obtain⟨cs,rfl,h⟩:=h;exact⟨cs,rfl,uO ρ us h⟩
 | tup us=>obtain⟨cs,rfl,h⟩:=h;exact⟨cs,rfl,AY ρ us h⟩
 | _=>exact h
def Uu(w:World)(Pb:Nat->Prop):List V->List Value->List (List Nat)->Prop
 | [],[],[]=>True
 | v::vs,x::xs,F::Fs=>RV w Pb v x F/\Uu w Pb vs xs Fs
 | _,_,_=>False
theorem pO:∀ {vs us:List V} {xs ys:List Value} {Fs Gs:List (List Nat)},Uu w Pb vs xs Fs->Uu w Pb us ys Gs->Uu w Pb (vs++us) (xs++ys) (Fs++Gs)
 | [],_,[],_,[],_,_,h=>h
 | _::_,_,_::_,_,_::_,_,h,k=>⟨h.1,pO h.2 k⟩
 | [],_,_::_,_,_,_,h,_=>h.elim
 | [],_,[],_,_::_,_,h,_=>h.elim
 | _::_,_,[],_,_,_,h,_=>h.elim
 | _::_,_,_::_,_,[],_,h,_=>h.elim
theorem Ba:∀ {vs:List V} {xs:List Value} {Fs:List (List Nat)},Uu w Pb vs xs Fs->xs.length=vs.length/\Fs.length=vs.length
 | [],[],[],_=>⟨rfl,rfl⟩
 | _::_,_::_,_::_,h=>by have:=Ba h.2;simp[this.1,this.2]
 | [],_::_,_,h=>h.elim
 | [],[],_::_,h=>h.elim
 | _::_,[],_,h=>h.elim
 | _::_,_::_,[],h=>h.elim
theorem Ck:∀ {vs:List V} {xs:List Value} {Fs:List (List Nat)} {i:Nat} {v:V} {x:Value},Uu w Pb vs xs Fs->vs[i]? =some v->xs[i]? =some x->RV w Pb v x (Fs.getD i [])
 | v::vs,x::xs,F::Fs,0,_,_,h,h1,h2=>by simp at h1 h2;subst h1 h2;exact h.1
 | v::vs,x::xs,F::Fs,i+1,_,_,h,h1,h2=>by simpa using Ck (i:=i) h.2 (by simpa using h1) (by simpa using h2)
 | [],_,_,_,_,_,_,h1,_=>by simp at h1
 | _::_,[],_,_,_,_,h,_,_=>h.elim
 | _::_,_::_,[],_,_,_,h,_,_=>h.elim
theorem EJ:∀ {vs us:List V} {xs:List Value} {Fs:List (List Nat)},Uu w Pb vs xs Fs->Uu w Pb (PW vs us) xs Fs
 | [],us,[],[],_=>by simp only[PW];trivial
 | v::vs,[],_,_,h=>by simpa only[PW] using h
 | v::vs,u::us,x::xs,F::Fs,h=>⟨yr u h.1,EJ h.2⟩
 | [],_,_::_,_,h=>h.elim
 | [],_,[],_::_,h=>h.elim
 | _::_,_::_,[],_,h=>h.elim
 | _::_,_::_,_::_,[],h=>h.elim
theorem qi:∀ (l:List Value),Uu w Pb (l.map cV) l (l.map fun _=>[])
 | []=>trivial
 | x::l=>⟨rQ x,qi l⟩
theorem Lo{v:V}{x:Value}{Fx:List Nat}(h:RV w Pb v x Fx):∃ Fy,RV w Pb (X8 v) x Fy/\(Fy=Fx\/Fy=[]):=by
 cases v with
 | tup _=>exact⟨[],rfl,.inr rfl⟩
 | gv _ _=>exact⟨[],rfl,.inr rfl⟩
 | _=>exact⟨Fx,h,.inl rfl⟩
theorem u7.tk:∀ (xs:List Operand) {A:AS} {F:l9->List Nat},u7 N Pb Kb A a w F->∃ Fl F',Uu w Pb (A.tk xs).1 (xs.map a.eval) Fl/\u7 N Pb Kb (A.tk xs).2 a w F'/\
 (∀ i,(Fl.getD i []).Nodup)/\(∀ i j,i≠j->∀ g,g∈Fl.getD i []->g ∉ Fl.getD j [])/\(∀ i r g,g∈Fl.getD i []->g ∉ F' r)/\(∀ i g,g∈Fl.getD i []->¬ Kb g/\g<w.heap.size)/\
 (∀ r g,g∈F' r->g∈F r)/\(∀ i g,g∈Fl.getD i []->∃ r,g∈F r)
 | [],A,F,hs=>⟨[],F,trivial,hs,Zad,Zad,Zad,Zad,fun _ _ h=>h,Zad⟩
 | x::xs,A,F,hs=>by
   obtain⟨Fx,F1,h1,h2,h3,h4,h5,h6,h7⟩:=hs.take x;obtain⟨Fl,F2,k1,k2,k3,k4,k5,k6,k7,k8⟩:=u7.tk xs h2;obtain⟨Fy,hy1,Xv⟩:=Lo h1;have YY:∀ g,g∈Fy->g∈Fx:=fun g hg=>by rcases Xv with rfl | rfl <;> simp_all
   have hyn:Fy.Nodup:=by rcases Xv with rfl | rfl <;> simp_all
   have hx:∀ i g,g∈Fy->g ∉ Fl.getD i []:=fun i g hg c=>by
    obtain⟨r,hr⟩:=k8 i g c;exact h4 r g (YY g hg) hr
   refine⟨Fy::Fl,F2,⟨hy1,k1⟩,k2,fun i=>?_,fun i j hne g hg=>?_,fun i r g hg=>?_,fun i g hg=>?_,fun r g hg=>h6 r g (k7 r g hg),fun i g hg=>?_⟩;cases i with
   | zero=>exact hyn
   | succ i=>simpa using k3 i
   cases i with
   | zero=>
     cases j with
     | zero=>exact absurd rfl hne
     | succ j=>simpa using hx j g (by simpa using hg)
   | succ i=>
     cases j with
     | zero=>exact fun c=>hx i g (by simpa using c) (by simpa using hg)
     | succ j=>simpa using k4 i j Zac g (by simpa using hg)
   cases i with
   | zero=>exact fun c=>h4 r g (YY g (by simpa using hg)) (k7 r g c)
   | succ i=>exact k5 i r g (by simpa using hg)
   cases i with
   | zero=>exact h5 g (YY g (by simpa using hg))
   | succ i=>exact k6 i g (by simpa using hg)
   cases i with
   | zero=>exact h7 g (YY g (by simpa using hg))
   | succ i=>
     obtain⟨r,hr⟩:=k8 i g (by simpa using hg);exact⟨r,h6 r g hr⟩
def Rb(ks:List (Nat×Nat)):List (Nat×Nat):=ks.map fun p=>(p.2,p.1)
def jN(ks:List (Nat×Nat)):l9->l9
 | .key k=>match lk k ks with | some q=>.key q | none=>.key k
 | r=>r
def FA(ks:List (Nat×Nat))(H:List (Nat×(Nat×V))):List (Nat×(Nat×V))->List (Nat×(Nat×V)):=fun rest=>match ks with
 | []=>rest
 | (k,q)::r=>match lk k H with
   | some (g,v)=>(q,(g,v.QU (jN ks)))::FA r H rest
   | none=>FA r H rest
def news(ρ:l9->l9)(H:List (Nat×(Nat×V))):List (Nat×Nat)->List (Nat×(Nat×V))
 | []=>[]
 | (k,q)::r=>match lk k H with
   | some (g,v)=>(q,(g,v.QU ρ))::news ρ H r
   | none=>news ρ H r
def wu(ks:List (Nat×Nat))(h:List (Nat×(Nat×V))):List (Nat×(Nat×V)):=h.filter fun p=>(lk p.1 (Rb ks)).isNone
theorem iD(ks:List (Nat×Nat)):∀ (h:List (Nat×(Nat×V))) (q:Nat),lk q (wu ks h)=if (lk q (Rb ks)).isNone then lk q h else none
 | [],q=>by simp[wu,lk]
 | (k,v)::h,q=>by
   have ih:=iD ks h q;simp only[wu,List.filter_cons]at ih ⊢;by_cases hk:(lk k (Rb ks)).isNone=true;rw[if_pos hk];simp only[lk];by_cases e:q=k;subst e;rw[if_pos rfl,if_pos rfl,if_pos hk];rw[if_neg e,if_neg e];exact ih;rw[if_neg hk,ih];simp only[lk];by_cases e:q=k;subst e;rw[if_neg hk,if_neg hk];rw[if_neg e]
theorem mu{α:Type}:∀ {l:List (Nat×α)} {q:Nat},q ∉ l.map (·.1)->lk q l=none
 | [],_,_=>rfl
 | (k,v)::l,q,h=>by
   simp only[Zbe,List.mem_cons,not_or]at h;simp only[lk];rw[if_neg h.1];exact mu h.2
theorem pq{ρ:l9->l9}{H:List (Nat×(Nat×V))}:∀ {ks:List (Nat×Nat)} {q:Nat},PL (ks.map (·.2))=true->
 lk q (news ρ H ks)=(lk q (Rb ks)).bind fun k=>(lk k H).map fun gv=>(gv.1,gv.2.QU ρ)
 | [],q,_=>rfl
 | (k,q0)::ks,q,h=>by
   simp only[Zbe,PL,Zao,Bool.not_eq_true',Zbi,decide_eq_false_iff_not]at h;have ih:=pq (ρ:=ρ) (H:=H) (ks:=ks) (q:=q) h.2;simp only[news,Rb,Zbe,lk];by_cases e:q=q0;subst e;rw[if_pos rfl];simp only[Option.bind_some];cases hk:lk k H with
   | some gv=>simp only[lk,if_true,Option.map_some]
   | none=>
     simp only[Option.map_none];rw[ih,mu];rfl;simp only[Rb,List.map_map,Function.comp_def];exact h.1
   rw[if_neg e];cases hk:lk k H with
   | some gv=>simp only[lk];rw[if_neg e];exact ih
   | none=>exact ih
def AS.back(A:AS)(ks:List (Nat×Nat))(H:List (Nat×(Nat×V))):AS:=⟨A.t,news (jN ks) H ks++wu ks A.h⟩
theorem lp{α:Type}(t:Nat)(l1 l2:List (Nat×α)):lk t (l1++l2)=match lk t l1 with | some v=>some v | none=>lk t l2:=FF t l1 l2
def lh(B:AS)(ks:List (Nat×Nat)):List (Nat×(Nat×V))->Prop
 | []=>True
 | (k,(g,v))::r=>(match lk k ks with | some q=>(match lk q B.h with | some (g',v')=>(g',wk v' v)=(g,v) | none=>False) | none=>False)/\lh B ks r
theorem uE{B:AS}{ks:List (Nat×Nat)}:∀ {H:List (Nat×(Nat×V))} {k g:Nat} {v:V},lh B ks H->lk k H=some (g,v)->∃ q v',lk k ks=some q/\lk q B.h=some (g,v')/\wk v' v=v
 | [],_,_,_,_,h=>by simp[lk]at h
 | (k0,(g0,v0))::H,k,g,v,h,e=>by
   simp only[lk]at e;split at e;rename_i e';subst e';cases e;have h1:=h.1;split at h1;rename_i q hq;split at h1;rename_i g' v' hq';simp only[Zaq]at h1;exact⟨q,v',hq,by rw[hq',h1.1],h1.2⟩;exact h1.elim;exact h1.elim;exact uE h.2 e
theorem uX{α:Type}:∀ {l:List (Nat×α)} {k:Nat} {v:α},lk k l=some v->(k,v)∈l
 | [],_,_,h=>by simp[lk]at h
 | (k0,v0)::l,k,v,h=>by
   simp only[lk]at h;split at h;rename_i e;subst e;cases h;simp;exact List.mem_cons_of_mem _ (uX h)
theorem ob{α:Type}:∀ {l:List (Nat×α)} {k:Nat} {v:α},PL (l.map (·.1))=true->(k,v)∈l->lk k l=some v
 | (k0,v0)::l,k,v,h,hm=>by
   simp only[Zbe,PL,Zao,Bool.not_eq_true',Zbi,decide_eq_false_iff_not]at h;simp only[lk];rcases List.mem_cons.1 hm with e | hm;cases e;rw[if_pos rfl];have hne:k≠k0:=fun c=>h.1 (by rw[<- c];exact List.mem_map.2 ⟨_,hm,rfl⟩);rw[if_neg hne];exact ob h.2 hm
theorem oV{ks:List (Nat×Nat)}{k q:Nat}(h1:PL (ks.map (·.1))=true)(h2:PL (ks.map (·.2))=true):lk k ks=some q↔lk q (Rb ks)=some k:=by
 have e:(Rb ks).map (·.1)=ks.map (·.2):=by simp[Rb,List.map_map,Function.comp_def]
 constructor;intro h;refine ob (by rw[e];exact h2) ?_;exact List.mem_map.2 ⟨(k,q),uX h,rfl⟩;intro h;have hm:=uX h;simp only[Rb,List.mem_map,Zaq]at hm;obtain⟨⟨x,y⟩,hm,e1,e2⟩:=hm;simp only at e1 e2;subst e1 e2;exact ob h1 hm
open Classical in
theorem nX{o:Oper} {K:AS->Prop} {f:FuncId} {fx:Operand} {xs:Array Operand} {M6:Array TypeId} {first A6:Array Value} {args:List V} {H:List (Nat×(Nat×V))}
 {Q:V->List (Nat×(Nat×V))->Prop} (ks:List (Nat×Nat)) (ho:o.op=.call { callee:=.value fx,args:=xs,argTypes:=M6 }) (hfx:A.ev fx=.lit (.func (.func f) first A6))
 (hd:cB N o.dst) (SL:PL (ks.map (·.1))=true) (P6:PL (ks.map (·.2))=true) (hc:PF P f args H Q)
 (hargs:PW (first.toList.map cV++(A.tk xs.toList).1++A6.toList.map cV) args=args) (hlen:args.length=(first.toList.map cV++(A.tk xs.toList).1++A6.toList.map cV).length)
 (Sm:lh (A.tk xs.toList).2 ks H)
 (hK:∀ r H',Q r H'->K (((A.tk xs.toList).2.back ks H').put o.dst (r.QU (jN ks)))):F9 P N o A K:=by
 intro Pb Kb a w F Q' hs;have hfv:=bX hs hfx;unfold Oper.wp;have B5:(execOp a.eval o).run P w=.ok (.enter f (first++xs.map a.eval++A6)) w:=by
  simp only[execOp,ho,resolve,hfv,Deferred.ofValue,Za0,Za1,Zas,invoke];exact hc.1 _ w
 rw[B5,Oper.upon_enter];obtain⟨Fl,F2,k1,k2,k3,k4,k5,k6,k7,k8⟩:=hs.tk xs.toList
 let B:=(A.tk xs.toList).2
 have hle:(⟨B.t,wu ks B.h⟩:AS).le B:=⟨fun _=>.inr rfl,fun q=>by
  simp only[iD];split;exact .inr rfl;exact .inl rfl⟩
 let F3:l9->List Nat:=fun r=>match r with
  | .slot i=>F2 (.slot i)
  | .key q=>if (lk q (Rb ks)).isNone then F2 (.key q) else []
 have U':∀ r g,g∈F3 r->g∈F2 r:=fun r g hg=>by
  cases r with
  | slot i=>exact hg
  | key q=>simp only[F3]at hg;split at hg;exact hg;simp at hg
 have Pj:u7 N Pb Kb ⟨B.t,wu ks B.h⟩ a w F3:=by
  refine⟨k2.size,k2.defers,k2.slot,fun q g v hq=>?_,fun r r' hne g hg c=>k2.ck r r' hne g (U' r g hg) (U' r' g c),fun r=>?_,fun r g hg=>k2.free r g (U' r g hg),k2.sub,k2.bound⟩;simp only[iD]at hq;split at hq;rename_i hn;obtain⟨F',e,hA⟩:=k2.root q g v hq;exact⟨F',by simp only[F3];rw[if_pos hn];exact e,hA⟩;simp at hq;cases r with
  | slot i=>exact k2.nodup _
  | key q=>simp only[F3];split;exact k2.nodup _;exact Zba
 let Kc:Nat->Prop:=fun g=>Kb g\/∃ r,g∈F3 r
 let FL:=first.toList.map (fun _=>([]:List Nat))++Fl++A6.toList.map (fun _=>([]:List Nat))
 have hFl:Uu w Pb (first.toList.map cV++(A.tk xs.toList).1++A6.toList.map cV) (first.toList++xs.toList.map a.eval++A6.toList) FL:=
  pO (pO (qi _) k1) (qi _)
 have YH:∀ i g,g∈FL.getD i []->∃ j,FL.getD i []=Fl.getD j []/\i=first.toList.length+j:=by
  intro i g hg;simp only[FL,Zam,List.append_assoc]at hg ⊢;by_cases h1:i<first.toList.length
  rw[Za9 Zb0,List.getElem?_map]at hg;cases he:first.toList[i]? <;> rw[he]at hg <;> simp at hg
  have Zb:i=first.toList.length+(i-first.toList.length):=Zac
  rw[Za4 Zb0]at hg ⊢;simp only[Zay]at hg ⊢;by_cases h2:i-first.toList.length<Fl.length
  rw[Za9 h2];exact⟨_,rfl,Zb⟩;rw[Za4 Zac,List.getElem?_map]at hg;cases he:A6.toList[i-first.toList.length-Fl.length]? <;> rw[he]at hg <;> simp at hg
 let FC:l9->List Nat:=fun r=>match r with
  | .slot i=>FL.getD i []
  | .key k=>match lk k ks with
    | some q=>if lk k H=none then [] else F2 (.key q)
    | none=>[]
 have hFC:∀ r g,g∈FC r->(∃ i j,r=.slot i/\g∈Fl.getD j []/\i=first.toList.length+j)\/(∃ k q,r=.key k/\lk k ks=some q/\g∈F2 (.key q)):=by
  intro r g hg;cases r with
  | slot i=>
    obtain⟨j,e,hj⟩:=YH i g hg;exact .inl ⟨i,j,rfl,by rw[<- e];exact hg,hj⟩
  | key k=>
    simp only[FC]at hg;split at hg;rename_i q hq;split at hg;simp at hg;exact .inr ⟨k,q,rfl,hq,hg⟩;simp at hg
 have hF3q:∀ k q,lk k ks=some q->∀ r g,g∈F2 (.key q)->g ∉ F3 r:=by
  intro k q hq r g hg c;cases r with
  | slot i=>exact k2.ck (.key q) (.slot i) Zad g hg c
  | key q'=>
    simp only[F3]at c;split at c;rename_i hn;have hne:(l9.key q)≠.key q':=fun e=>by
     cases e;rw[(oV SL P6).1 hq]at hn;simp at hn
    exact k2.ck _ _ hne g hg c;simp at c
 have U9:∀ r g,g∈FC r->¬ Kc g/\g<w.heap.size:=by
  intro r g hg;rcases hFC r g hg with ⟨i,j,_,h,_⟩ | ⟨k,q,_,hq,h⟩;refine⟨fun c=>?_,(k6 j g h).2⟩;rcases c with c | ⟨r',c⟩;exact(k6 j g h).1 c;exact k5 j r' g h (U' r' g c);refine⟨fun c=>?_,(k2.free _ g h).2⟩;rcases c with c | ⟨r',c⟩;exact(k2.free _ g h).1 c;exact hF3q k q hq r' g h c
 have hi:Zo w Pb Kc args (first.toList++xs.toList.map a.eval++A6.toList) H FC:=by
  have hl:=Ba hFl;have hFw:=EJ (us:=args) hFl;rw[hargs]at hFw;refine⟨by rw[hl.1,hlen],fun i v x hv hx=>Ck hFw hv hx,fun k g v Yz=>?_,fun i XC=>?_,fun r r' hne g hg c=>?_,fun r=>?_,U9,fun g hg=>.inl (k2.sub g hg),fun g hg=>?_⟩;obtain⟨q,v',h1,h2,h3⟩:=uE Sm Yz;obtain⟨F',e,hA⟩:=k2.root q g v' h2;refine⟨F',?_,by have:=Dv v hA;rw[h3]at this;exact this⟩;simp only[FC,h1];rw[if_neg (by rw[Yz];simp)];exact e;simp only[FC];rw[Zam,List.getElem?_eq_none (by rw[hl.2,<- hlen];exact XC)];rfl;rcases hFC r g hg with ⟨i,j,e1,h,e1'⟩ | ⟨k,q,e1,hq,h⟩ <;> rcases hFC r' g c with ⟨i',j',e2,h',XR⟩ | ⟨k',q',e2,hq',h'⟩;refine k4 j j' (fun e=>hne ?_) g h h';rw[e1,e2,e1',XR,e];exact k5 j (.key q') g h h';exact k5 j' (.key q) g h' h;have hqq:q=q':=Classical.byContradiction fun hqq=>k2.ck (.key q) (.key q') (fun e=>hqq (by cases e;rfl)) g h h';subst hqq;have:=(oV SL P6).1 hq;rw[(oV SL P6).1 hq']at this;cases this;exact hne (by rw[e1,e2]);cases r with
  | slot i=>
    by_cases he:FL.getD i []=[];simp only[FC];rw[he];exact Zba;obtain⟨g,hg⟩:=List.exists_mem_of_ne_nil _ he;obtain⟨j,e,_⟩:=YH i g hg;simp only[FC];rw[e];exact k3 j
  | key k=>
    simp only[FC];split;split;exact Zba;exact k2.nodup _;exact Zba
  rcases hg with h | ⟨r,h⟩;exact k2.bound g h;exact(Pj.free r g h).2
 have L8:=hc.2 w Pb Kc _ FC hi;have e:(first.toList++xs.toList.map a.eval++A6.toList).toArray=first++xs.map a.eval++A6:=by
  apply Array.ext';simp
 rw[e]at L8;refine L8.mono ?_;rintro e w' ⟨r,x,H',Pb',E7,F',rfl,hq,hf⟩;have SK:A3 Kb w w':=⟨hf.fb.os,hf.fb.tape,hf.fb.output,hf.fb.size,fun g hg=>hf.fb.block g (.inl hg),hf.fb.shape⟩
 let K2:Nat->Prop:=fun g=>Kb g\/(E7 g/\¬ ∃ r,g∈F3 r)
 have hP3:∀ r g,g∈F3 r->¬ Pb' g:=fun r g hg c=>by
  rcases hf.Tv g c with h | h;exact(Pj.free r g hg).1 (Pj.sub g h);exact h (.inr ⟨r,hg⟩)
 have Yi:∀ g,Pb' g->K2 g:=fun g hg=>by
  rcases hf.Tv g hg with h | h;exact .inl (Pj.sub g h);exact .inr ⟨hf.sub g hg,fun⟨r,c⟩=>h (.inr ⟨r,c⟩)⟩
 have QD:∀ r g,g∈F' r->(¬ K2 g/\g<w'.heap.size)/\∀ r',g ∉ F3 r':=fun r g hg=>by
  have h:=hf.free r g hg;refine⟨⟨fun c=>?_,h.2⟩,fun r' c=>h.1 (hf.mK g (.inr ⟨r',c⟩))⟩;rcases c with c | c;exact h.1 (hf.mK g (.inl c));exact h.1 c.1
 let F4:l9->List Nat:=fun r=>match r with
  | .slot i=>F3 (.slot i)
  | .key q=>match lk q (Rb ks) with
    | some k=>if lk k H'=none then [] else F' (.key k)
    | none=>F3 (.key q)
 have Zi:∀ r g,g∈F4 r->g∈F3 r\/∃ q k,r=.key q/\lk q (Rb ks)=some k/\g∈F' (.key k):=fun r g hg=>by
  cases r with
  | slot i=>exact .inl hg
  | key q=>
    simp only[F4]at hg;split at hg;rename_i k hk;split at hg;simp at hg;exact .inr ⟨q,k,rfl,hk,hg⟩;exact .inl hg
 have hs4:u7 N Pb' K2 (B.back ks H') a w' F4:=by
  refine⟨Pj.size,Pj.defers,fun i=>?_,fun q g v hq=>?_,fun r r' hne g hg c=>?_,fun r=>?_,fun r g hg=>?_,Yi,fun g hg=>?_⟩;exact mI _ (Pj.slot i) (fun g hg=>hf.fb.block g (.inl (Pj.sub g hg))) (fun g hg=>hf.fb.block g (.inr ⟨.slot i,hg⟩)) hf.mP (fun g hg=>hP3 (.slot i) g hg);simp only[AS.back,lp,pq P6]at hq;cases Yh:lk q (Rb ks) with
  | some k=>
    rw[Yh]at hq;simp only[Option.bind_some]at hq;cases Y9:lk k H' with
    | some gv=>
      rw[Y9]at hq;simp only[Option.map_some,Zan,Zaq]at hq;obtain⟨g0,v0⟩:=gv;obtain⟨rfl,rfl⟩:=hq;obtain⟨F1,e1,cs,cells,hb,hr,L9⟩:=hf.root k g0 v0 Y9;exact⟨F1,by simp only[F4,Yh];rw[if_neg (by rw[Y9];simp)];exact e1,cs,cells,hb,HU _ _ hr,L9⟩
    | none=>
      rw[Y9]at hq;simp only[Option.map_none]at hq;rw[iD,Yh]at hq;simp at hq
  | none=>
    rw[Yh]at hq;simp only[Option.bind_none]at hq;obtain⟨F1,e1,hA⟩:=Pj.root q g v hq;refine⟨F1,by simp only[F4,Yh];exact e1,?_⟩;obtain⟨cs,cells,⟨el,fr,hb,hfr⟩,hr,L9⟩:=hA;have hin:∀ y,y∈g::F1->w'.heap[y]? =w.heap[y]? :=fun y hy=>hf.fb.block y (.inr ⟨.key q,by rw[e1];exact hy⟩);exact⟨cs,cells,⟨el,fr,(hin g Zad).trans hb,hfr⟩,gD _ hr (fun y hy=>hf.fb.block y (.inl (Pj.sub y hy))) (fun y hy=>hin y (by simp[hy])) hf.mP (fun y hy=>hP3 (.key q) y (by rw[e1];simp[hy])),L9⟩
  rcases Zi r g hg with h | ⟨q,k,e1,h1,h2⟩ <;> rcases Zi r' g c with h' | ⟨q',k',e2,UI,Zj⟩;exact Pj.ck r r' hne g h h';exact(QD _ g Zj).2 r h;exact(QD _ g h2).2 r' h';have WV:k=k':=Classical.byContradiction fun WV=>hf.ck (.key k) (.key k') (fun e=>WV (by cases e;rfl)) g h2 Zj;subst WV;have e3:=(oV SL P6).2 h1;rw[(oV SL P6).2 UI]at e3;cases e3;exact hne (by rw[e1,e2]);cases r with
  | slot i=>exact Pj.nodup (.slot i)
  | key q=>
    simp only[F4];split;split;exact Zba;exact hf.nodup _;exact Pj.nodup (.key q)
  rcases Zi r g hg with h | ⟨q,k,_,_,h2⟩;have h3:=Pj.free r g h;refine⟨fun c=>?_,Nat.lt_of_lt_of_le h3.2 hf.fb.size⟩;rcases c with c | c;exact h3.1 c;exact c.2 ⟨r,h⟩;exact(QD _ g h2).1;rcases hg with h | h;exact Nat.lt_of_lt_of_le (Pj.bound g h) hf.fb.size;exact hf.bound g h.1
 have T5:∀ A' a' F5,K A'->u7 N Pb' K2 A' a' w' F5->Nx N Pb Kb w K a' w':=fun A' a' F5 hk WH=>
  ⟨A',Pb',K2,F5,hk,WH,hf.mP,fun g hg=>.inl hg,fun g hg=>by
   rcases hf.Tv g hg with h | h;exact .inl h;exact .inr fun c=>h (.inl c),SK⟩
 cases OY:o.dst with
 | none=>exact T5 _ _ F4 (hK r H' hq) (by rw[OY];exact hs4)
 | some d=>
   rw[OY]at hd;refine T5 _ _ (cf F4 (.slot d) (F' (.slot 0))) (hK r H' hq) ?_;rw[OY];refine hs4.put hd (LH _ hf.val) (fun rt _ g hg c=>?_) (hf.nodup _) (fun g hg=>(QD _ g hg).1);rcases Zi rt g c with h | ⟨q,k,_,_,h2⟩;exact(QD _ g hg).2 rt h;exact hf.ck (.slot 0) (.key k) Zad g hg h2
end
section
variable {w w':World} {Pb Kb Pb':Nat->Prop} {N:Nat} {A A' A1 B:AS} {a:Act} {F:l9->List Nat} {P:Program} {ops:Array Oper}
theorem ub:∀ (vs:List V) {cs F} {j:Nat} {x:V},RL w Pb vs cs F->vs[j]? =some x->∃ cj Fj,R w Pb x cj Fj/\(∀ i u,cj[i]? =some u->cs[V.ns (vs.take j)+i]? =some u)/\
 ∀ x',R w Pb x' cj Fj->RL w Pb (vs.set j x') cs F
 | [],_,_,_,_,_,h=>by simp at h
 | v::vs,cs,F,0,x,h,hj=>by
   obtain⟨c1,c2,F1,F2,rfl,rfl,h1,h2⟩:=h;simp at hj;subst hj;exact⟨c1,F1,h1,fun i u hu=>by simp only[List.take_zero,V.ns,Zaw];rw[Za9 (Za3.1 hu).1];exact hu,fun x' hx=>⟨c1,c2,F1,F2,rfl,rfl,hx,h2⟩⟩
 | v::vs,cs,F,j+1,x,h,hj=>by
   obtain⟨c1,c2,F1,F2,rfl,rfl,h1,h2⟩:=h;obtain⟨cj,Fj,k1,k2,k3⟩:=ub vs h2 Zbp;refine⟨cj,Fj,k1,fun i u hu=>?_,fun x' hx=>⟨c1,c2,F1,F2,rfl,rfl,h1,k3 x' hx⟩⟩;have:=k2 i u hu;simp only[List.take_succ_cons,V.ns];rw[<- eI v h1,Zbj,Za4 Zac];rw[show c1.length+(V.ns (vs.take j)+i)-c1.length=V.ns (vs.take j)+i from Zac];exact this
theorem sk:∀ (p:List Nat) {v u:V} {g o g' o':Nat} {cs:List Value} {F:List Nat},R w Pb v cs F->V.at g o v p=some (g',o',u)->
 ∃ cu Fu,R w Pb u cu Fu/\∀ u',u'.n=u.n->R w Pb u' cu Fu->R w Pb (v.set p u') cs F/\(v.set p u').n=v.n
 | [],v,u,g,o,g',o',cs,F,h,e=>by
   simp only[V.at,Zan,Zaq]at e;obtain⟨rfl,rfl,rfl⟩:=e;exact⟨cs,F,h,fun u' hn hu=>⟨hu,hn⟩⟩
 | j::p,v,u,g,o,g',o',cs,F,h,e=>by
   simp only[V.at]at e;split at e;rename_i vs;split at e;rename_i x hx;simp only[R]at h;obtain⟨cj,Fj,k1,k2,k3⟩:=ub vs h hx;obtain⟨cu,Fu,m1,m2⟩:=sk p k1 e;refine⟨cu,Fu,m1,fun u' hn hu=>?_⟩;obtain⟨q1,q2⟩:=m2 u' hn hu;have h3:=k3 _ q1;refine⟨by simp only[V.set,hx,R];exact h3,?_⟩;simp only[V.set,hx,V.n];rw[<- jh _ h3,<- jh _ h];simp at e;rename_i sz xs g1 o1 c1;split at e;rename_i x hx;rcases h with ⟨_,rfl,_⟩ | ⟨h1,h2,h3,h4,h5,h6,flat,F',cells,h7,hr,hb,hsz,hc⟩;simp at hx;obtain⟨cj,Fj,k1,k2,k3⟩:=ub xs hr hx;obtain⟨cu,Fu,m1,m2⟩:=sk p k1 e;refine⟨cu,Fu,m1,fun u' hn hu=>?_⟩;obtain⟨q1,q2⟩:=m2 u' hn hu;refine⟨?_,by simp only[V.set,hx];rfl⟩;simp only[V.set,hx];refine .inr ⟨h1,h2,by simpa using h3,by simpa using h4,fun y hy=>?_,h6,flat,F',cells,h7,k3 _ q1,hb,hsz,hc⟩;rcases List.mem_or_eq_of_mem_set hy with h | h;exact h5 y h;rw[h,q2];exact h5 x (Za7 hx);simp at e;simp at e
theorem u7.sq(hs:u7 N Pb Kb A a w F){r:l9}{p:List Nat}{g o:Nat}{u:V}(A7:A.at r p=some (g,o,u)):
 ∃ cu Fu,R w Pb u cu Fu/\∀ u',u'.n=u.n->R w Pb u' cu Fu->u7 N Pb Kb (A.setAt r p u') a w F:=by
 cases r with
 | key k=>
   simp only[AS.at]at A7;split at A7;rename_i g0 t hk;obtain⟨F0,hF,cs,cells,hb,hr,hc⟩:=hs.root k g0 t hk;obtain⟨cu,Fu,h1,h2⟩:=sk p hr A7;refine⟨cu,Fu,h1,fun u' hn hu=>⟨hs.size,hs.defers,fun i=>?_,fun k' g1 v1 Rg=>?_,hs.ck,hs.nodup,hs.free,hs.sub,hs.bound⟩⟩;have:(A.setAt (.key k) p u').get i=A.get i:=by simp only[AS.setAt,hk];rfl
   rw[this];exact hs.slot i;simp only[AS.setAt,hk,lk]at Rg;split at Rg;rename_i e;subst e;simp only[Zan,Zaq]at Rg;obtain⟨rfl,rfl⟩:=Rg;exact⟨F0,hF,cs,cells,hb,(h2 u' hn hu).1,hc⟩;exact hs.root k' g1 v1 Rg;simp at A7
 | slot i=>
   simp only[AS.at]at A7;split at A7;rename_i sz xs g0 o0 c0 j p' hg;have hr:=hs.slot i;rw[hg]at hr;have hr:R w Pb (.own sz xs g0 o0 c0) [a.tmps.getD i undef] (F (.slot i)):=hr;obtain⟨cu,Fu,h1,h2⟩:=sk (j::p') hr A7;refine⟨cu,Fu,h1,fun u' hn hu=>⟨hs.size,hs.defers,fun t=>?_,hs.root,hs.ck,hs.nodup,hs.free,hs.sub,hs.bound⟩⟩;by_cases e:t=i;subst e;simp only[AS.setAt,AS.get,lk,if_true,Option.getD_some];have h3:=(h2 u' hn hu).1;have e2:(A.get t).set (j::p') u'=(V.own sz xs g0 o0 c0).set (j::p') u':=by rw[hg]
   have e3:∃ ys,(V.own sz xs g0 o0 c0).set (j::p') u'=.own sz ys g0 o0 c0:=by
    simp only[V.set];split;exact⟨_,rfl⟩;exact⟨_,rfl⟩
   obtain⟨ys,e3⟩:=e3;show RV w Pb ((A.get t).set (j::p') u') _ _;rw[e2,e3];rw[e3]at h3;exact h3;simp only[AS.setAt,AS.get,lk];rw[if_neg e];exact hs.slot t;simp at A7
theorem Kp{K:AS->Prop}(t sz:Nat)(ht:t<N)(hg:A.get t=.sl true [])(h:K (A.put (some t) (.own sz [] 0 0 0))):Hx N A K:=
 Hx.simple h fun Pb Kb a w F hs=>by
  have hr:=hs.slot t;rw[hg]at hr;obtain⟨hF,B,cc,hv,_,RW,_⟩:=hr;have RZ:cc=0:=RW rfl;subst RZ;exact⟨_,hs.zW ht (.inl ⟨rfl,rfl,hF,B,hv⟩)⟩
theorem zk{K:AS->Prop}{r:l9}{p:List Nat}{g o sz:Nat}(A7:A.at r p=some (g,o,.sl true []))(h:K (A.setAt r p (.own sz [] 0 0 0))):Hx N A K:=
 Hx.simple h fun Pb Kb a w F hs=>by
  obtain⟨cu,Fu,hr,hk⟩:=hs.sq A7;obtain⟨hF,B,cc,hv,_,RW,_⟩:=hr;have RZ:cc=0:=RW rfl;subst RZ;exact⟨_,hk (.own sz [] 0 0 0) rfl (.inl ⟨rfl,rfl,hF,B,hv⟩)⟩
theorem Bm{K:AS->Prop}{t sz:Nat}{xs:List V}(ht:t<N)(hg:A.get t=.ow sz xs)(h:∀ g o c,K (A.put (some t) (.own sz xs g o c))):Hx N A K:=fun Pb Kb a w F hs=>by
 have hr:=hs.slot t;rw[hg]at hr;have hr:R w Pb (.ow sz xs) [a.tmps.getD t undef] (F (.slot t)):=hr;obtain⟨g,o,c,hr⟩:=Gl.1 hr;exact⟨_,Pb,Kb,_,h g o c,hs.zW ht hr,fun _ h=>h,fun _ h=>h,fun _ h=>.inl h⟩
theorem qq{K:AS->Prop}{r:l9}{p:List Nat}{g o sz:Nat}{xs:List V}(A7:A.at r p=some (g,o,.ow sz xs))(h:∀ g o c,K (A.setAt r p (.own sz xs g o c))):Hx N A K:=fun Pb Kb a w F hs=>by
 obtain⟨cu,Fu,h1,h2⟩:=hs.sq A7;obtain⟨g,o,c,hr⟩:=Gl.1 h1;exact⟨_,Pb,Kb,_,h g o c,h2 _ rfl hr,fun _ h=>h,fun _ h=>h,fun _ h=>.inl h⟩
theorem Eb{K:AS->Prop}{r:l9}{p:List Nat}{g o:Nat}{u:V}(u':V)(A7:A.at r p=some (g,o,u))(hn:(wk u u').n=u.n)(h:K (A.setAt r p (wk u u'))):Hx N A K:=fun Pb Kb a w F hs=>by
 obtain⟨cu,Fu,h1,h2⟩:=hs.sq A7;exact⟨_,Pb,Kb,_,h,h2 _ hn (pF u u' h1),fun _ h=>h,fun _ h=>h,fun _ h=>.inl h⟩
theorem MK{K:AS->Prop}{t:Nat}(u:V)(ht:t<N)(h:K (A.put (some t) (wk (A.get t) u))):Hx N A K:=
 Hx.simple h fun _ _ _ _ _ hs=>⟨_,hs.zW ht (yr u (hs.slot t))⟩
theorem GZ{K:AS->Prop} {t i sz n g o c:Nat} {xs:List V} (ht:t<N) (hi:i<N) (VP:t≠i) (h1:A.get t=.hd (.slot i) [] sz g o 0 n c) (h2:A.get i=.own sz xs g o c) (hn:n=xs.length)
 (h:K ((A.put (some i) .b9).put (some t) (.own sz xs g o c))):Hx N A K:=
 Hx.simple h fun _ _ _ _ _ hs=>hs.fV ht hi VP h1 h2 hn
theorem Fh{K:AS->Prop}{t:Nat}(ht:t<N)(ho:(A.get t).df=true)(h:K (A.put (some t) (A.get t).er)):Hx N A K:=fun Pb Kb a w F hs=>by
 obtain⟨Pb',E7,F',h1,h2,h3,h4⟩:=hs.freeze ho ht;exact⟨_,Pb',E7,F',h,h1,h2,h3,h4⟩
theorem u7.eqv(hs:u7 N Pb Kb A a w F)(h:D' A B):u7 N Pb Kb B a w F:=
 ⟨hs.size,hs.defers,fun i=>by rw[<- h.1 i];exact hs.slot i,fun k g v hk=>hs.root k g v (by rw[h.2 k];exact hk),hs.ck,hs.nodup,hs.free,hs.sub,hs.bound⟩
theorem KG{K:AS->Prop}{t:Nat}(v:V)(e:A.get t=v)(h:K (A.put (some t) v)):Hx N A K:=
 Hx.simple h fun _ _ _ _ _ hs=>⟨_,hs.eqv ⟨fun i=>by
  rw[AS.aB];split;rename_i h;rw[h,e];rfl,fun _=>rfl⟩⟩
theorem KM{K:AS->Prop}{k g:Nat}(v:V)(e:lk k A.h=some (g,v))(h:K ⟨A.t,(k,(g,v))::A.h⟩):Hx N A K:=
 Hx.simple h fun _ _ _ _ _ hs=>⟨_,hs.eqv ⟨fun _=>rfl,fun i=>by
  simp only[lk];split;rename_i h;rw[h,e];rfl⟩⟩
theorem NI{K:AS->Prop}{k k' g:Nat}{v:V}(e:lk k A.h=some (g,v))(hn:lk k' A.h=none)(h:K ⟨A.t,(k',(g,v))::A.h.filter fun p=>p.1 != k⟩):Hx N A K:=
 Hx.simple h fun Pb Kb a w F hs=>by
  have hne:k'≠k:=fun c=>by rw[c,e]at hn;cases hn
  have hf:∀ (l:List (Nat×(Nat×V))) q,lk q (l.filter fun p=>p.1 != k)=if q=k then none else lk q l:=by
   intro l;induction l with
   | nil=>intro q;simp[lk]
   | cons x l ih=>
     intro q;obtain⟨i,u⟩:=x;simp only[List.filter_cons];by_cases hi:i=k;subst hi;simp only[bne_self_eq_false,Bool.false_eq_true,if_false,ih q,lk];by_cases c:q=i;rw[if_pos c,if_pos c];rw[if_neg c,if_neg c,if_neg c];rw[if_pos Zbn];simp only[lk,ih q];by_cases c:q=i;subst c;rw[if_pos rfl,if_pos rfl,if_neg hi];rw[if_neg c,if_neg c]
  let σ:l9->l9:=fun r=>if r=.key k' then .key k else if r=.key k then .key k' else r
  have hσ:∀ r r',σ r=σ r'->r=r':=fun r r' h=>by
   simp only[σ]at h;repeat' split at h
   all_goals simp_all
  refine⟨fun r=>if r=.key k then [] else F (σ r),hs.size,hs.defers,fun i=>?_,fun q g0 v0 hq=>?_,fun r r' hne' y hy=>?_,fun r=>?_,fun r y hy=>?_,hs.sub,hs.bound⟩;have:F (σ (.slot i))=F (.slot i):=by simp[σ]
  simp only[reduceCtorEq,if_false,this];exact hs.slot i;simp only[lk,hf]at hq;split at hq;rename_i c;subst c;simp only[Zan,Zaq]at hq;obtain⟨rfl,rfl⟩:=hq;obtain⟨F',h1,h2⟩:=hs.root k g v e;refine⟨F',?_,h2⟩;rw[if_neg (by simpa using hne)];simp only[σ,if_true];exact h1;rename_i c;split at hq;simp at hq;rename_i c2;obtain⟨F',h1,h2⟩:=hs.root q g0 v0 hq;refine⟨F',?_,h2⟩;rw[if_neg (by simpa using c2)];have:σ (.key q)=.key q:=by simp only[σ];rw[if_neg (by simpa using c),if_neg (by simpa using c2)]
  rw[this];exact h1;split at hy;simp at hy;split;simp;exact hs.ck _ _ (fun c=>hne' (hσ _ _ c)) y hy;split;exact Zba;exact hs.nodup _;split at hy;simp at hy;exact hs.free _ y hy
theorem IS{K:AS->Prop}(h1:Tx A B.t)(h2:S0 A B.h)(h:K B):Hx N A K:=Hx.simple h fun _ _ _ _ _ hs=>hs.leW h1 h2
theorem Dc{o:Oper}{K:AS->Prop}{x:Operand}(ho:o.op=.move x)(hd:cB N o.dst)(hK:K ((A.drop x).put o.dst (A.ev x))):F9 P N o A K:=by
 intro Pb Kb a w F Q hs;obtain⟨Fx,F',hr,A8,hnd,w7,hfr,_⟩:=hs.take x;unfold Oper.wp;have:(execOp a.eval o).run P w=.ok (.value (a.eval x)) w:=by simp only[execOp,ho];rfl
 rw[this,Oper.upon_value];cases OY:o.dst with
 | none=>exact⟨_,Pb,Kb,F',hK,by rw[OY];exact A8,fun _ h=>h,fun _ h=>h,fun _ h=>.inl h,A3.refl _ _⟩
 | some d=>
   rw[OY]at hd hK;exact⟨_,Pb,Kb,_,hK,A8.put hd hr (fun r _ g hg=>w7 r g hg) hnd hfr,fun _ h=>h,fun _ h=>h,fun _ h=>.inl h,A3.refl _ _⟩
theorem vP{o:Oper} {K:AS->Prop} {d T:Nat} {x:Operand} {r:l9} {p:List Nat} {g g':Nat} {i:TI} {u:V} (ho:o.op=.load T x) (hd:o.dst=some d) (hN:d<N) (hi:ti P T=some i)
 (hx:A.ev x=.ptr r p g g') (A7:A.at r p=some (g,g',u)) (hn:u.n=i.sz) (ha:i.d.agg=u.isAgg) (hK:K ((A.setAt r p u.kill).put (some d) u)):F9 P N o A K:=by
 intro Pb Kb a w F Q hs;obtain⟨_,VU⟩:=dS hs x;rw[hx]at VU;have hp:a.eval x=.pointer (some ⟨g,g',none⟩):=by have:=VU.2;simpa using this
 obtain⟨Fr,Fu,A8,⟨cs,cells,hb,N0,hc⟩,hnd,w7,hfr⟩:=hs.split A7;obtain⟨y,hy,F7⟩:=mD (w:=w) hi N0 hn ha (g:=g) (o:=g') (fun j u hu=>by rw[eh hb];exact hc j u hu);unfold Oper.wp;have:(execOp a.eval o).run P w=.ok (.value y) w:=by
  simp only[execOp,ho,Instr.loadAt,hp,Instr.sureAddr,Za0,Za1,Zas,hy]
 rw[this,Oper.upon_value,hd];exact⟨_,Pb,Kb,_,hK,A8.put hN F7 (fun r _ g hg=>w7 r g hg) hnd hfr,fun _ h=>h,fun _ h=>h,fun _ h=>.inl h,A3.refl _ _⟩
def Wm(A:AS)(s:Operand)(sz:Nat):Option (Prop×AS×List V):=
 match s with
 | .const (.slice none 0 0)=>some (True,A,[])
 | .tmp t=>match A.get t with
   | .sl true []=>some (True,A,[])
   | .own L3 xs _ _ _=>some (L3=sz,A.put (some t) .b9,xs)
   | .hd (.slot i) [] L3 g o 0 n c=>match A.get i with
     | .own PK xs g2 o2 c2=>some ((L3,PK,g2,o2,c2,n)=(sz,sz,g,o,c,xs.length),A.put (some i) .b9,xs)
     | _=>none
   | .hd (.key k) p L3 g o 0 n c=>match A.at (.key k) p with
     | some (_,_,.own PK xs g2 o2 c2)=>some ((L3,PK,g2,o2,c2,n)=(sz,sz,g,o,c,xs.length),A.setAt (.key k) p .b9,xs)
     | _=>none
   | _=>none
 | _=>none
theorem FM{s:Operand}{sz:Nat}{C:Prop}{xs:List V}(h:Wm A s sz=some (C,A1,xs))(hC:C)(hs:u7 N Pb Kb A a w F):
 ∃ Fx F' g o c,u7 N Pb Kb A1 a w F'/\R w Pb (.own sz xs g o c) [a.eval s] Fx/\Fx.Nodup/\(∀ r g,g∈Fx->g ∉ F' r)/\(∀ g,g∈Fx->¬ Kb g/\g<w.heap.size):=by
 have Vl:∀ {t:Nat} {r:l9} {p:List Nat} {sz g o n c:Nat} {xs:List V} {cs:List Value} {Fx:List Nat},A.get t=.hd r p sz g o 0 n c->n=xs.length->R w Pb (.own sz xs g o c) cs Fx->R w Pb (.own sz xs g o c) [a.eval (.tmp t)] Fx:=by
  intro t r p sz g o n c xs cs Fx hg hn hr;subst hn;have hh:=hs.slot t;rw[hg]at hh;obtain⟨_,hle,B,hv,hB⟩:=hh;have hv:a.eval (.tmp t)=.slice B xs.length c:=(List.cons.inj hv).1;rw[hv];rcases hr with ⟨rfl,rfl,rfl,A0,_⟩ | ⟨h1,h2,h3,h4,h5⟩;exact .inl ⟨rfl,rfl,rfl,B,rfl⟩;have:=hB h1;rw[Nat.zero_mul,Nat.add_zero]at this;subst this;exact .inr ⟨h1,h2,h3,rfl,h5⟩
 unfold Wm at h;split at h;simp only[Zan,Zaq]at h;obtain⟨_,rfl,rfl⟩:=h;exact⟨[],F,0,0,0,hs,.inl ⟨rfl,rfl,rfl,none,rfl⟩,Zba,Zad,Zad⟩
 · rename_i t;split at h;rename_i hg;simp only[Zan,Zaq]at h;obtain⟨_,rfl,rfl⟩:=h;have P4:=hs.slot t;rw[hg]at P4;obtain⟨_,B,c,hv,_,RW,_⟩:=P4;have RZ:c=0:=RW rfl;subst RZ;exact⟨[],F,0,0,0,hs,.inl ⟨rfl,rfl,rfl,B,hv⟩,Zba,Zad,Zad⟩;rename_i L3 xs' g o c hg;simp only[Zan,Zaq]at h;obtain⟨rfl,rfl,rfl⟩:=h;subst hC;obtain⟨Fx,F',hr,A8,hnd,w7,hfr,_⟩:=hs.take (.tmp t);rw[pE hg]at A8;have hr:RV w Pb (A.get t) (a.eval (.tmp t)) Fx:=hr;rw[hg]at hr;exact⟨Fx,F',g,o,c,A8,hr,hnd,w7,hfr⟩
   · rename_i i L3 g o n c hg;split at h
     case h_2=>simp at h
     rename_i PK xs' g2 o2 c2 hi;simp only[Zan,Zaq]at h;obtain⟨rfl,rfl,rfl⟩:=h;obtain⟨rfl,rfl,rfl,rfl,rfl,hn⟩:=hC;obtain⟨Fx,F',hr,A8,hnd,w7,hfr,_⟩:=hs.take (.tmp i);rw[pE hi]at A8;have hr:RV w Pb (A.get i) (a.eval (.tmp i)) Fx:=hr;rw[hi]at hr;exact⟨Fx,F',_,_,_,A8,Vl hg hn (cs:=[a.eval (.tmp i)]) hr,hnd,w7,hfr⟩
   · rename_i k p L3 g o n c hg;split at h
     case h_2=>simp at h
     rename_i g0 o0 PK xs' g2 o2 c2 A7;simp only[Zan,Zaq]at h;obtain⟨rfl,rfl,rfl⟩:=h;obtain⟨rfl,rfl,rfl,rfl,rfl,hn⟩:=hC;obtain⟨Fr,Fu,A8,⟨cs,cells,hb,N0,hc⟩,hnd,w7,hfr⟩:=hs.split A7;exact⟨Fu,_,_,_,_,A8,Vl hg hn N0,hnd,w7,hfr⟩
   simp at h
 simp at h
theorem wQ{o:Oper} {K:AS->Prop} {d T T2 e e2:Nat} {s x:Operand} {t:TI} {C Cx:Prop} {xs ys:List V} (ho:o.op=.call { callee:=.builtin .append,args:= #[s,x],argTypes:= #[T,T2] }) (TG:o.type=T)
 (hd:o.dst=some d) (hN:d<N) (hT:tD P T=some (.sl e)) (Ud:tD P T2=some (.sl e2)) (ht:ti P e=some t) (hz:∃ inf z,P.info? e=some inf/\inf.zero=some z/\z.cells.size=t.sz) (hsz:0<t.sz) (UG:0<t.N4)
 (hb:Wm A s t.sz=some (C,A1,xs)) (hC:C) (hx:Qz A x=some (Cx,ys)) (YI:Cx) (WO:V.ax ys=false) (Ue:aS t.sz ys)
 (hbig:(xs.length+ys.length)*t.N4<=140737488355328)
 (hK:∀ g o c,K (A1.put (some d) (.own t.sz (xs++ys) g o c))):F9 P N o A K:=by
 intro Pb Kb a w F Q hs;obtain⟨B2,c2,D7,Q0,O8,Ri,hl2⟩:=mU (P:=P) hs hx YI Ue WO;obtain⟨Fx,F',g0,o0,c0,A8,hr,hnd,w7,hfr⟩:=FM hb hC hs;obtain⟨v,w',F2,g',o',c',B5,L7,O8,K8,RY,T3,P6⟩:=sZ hT Ud ht hz hsz UG A8 hr w7 hfr (Fy:=[]) (by simpa using hnd) Zad Zad Q0 O8 Ri hl2 Ue hbig;have PM:(execOp a.eval o).run P w=.ok (.value v) w':=by
  simp only[execOp,ho,resolve,invoke,builtin,Za0,Za1,Zas,TG];have e:(#[s,x].map a.eval)= #[a.eval s,a.eval x]:=Zad;rw[e,B5];rfl
 unfold Oper.wp;rw[PM,Oper.upon_value,hd];exact⟨_,Pb,Kb,_,hK g' o' c',L7.put hN O8 (fun r _ g hg=>RY r g hg) K8 T3,fun _ h=>h,fun _ h=>h,fun _ h=>.inl h,P6⟩
def Xc(A:AS)(s:Operand)(sz:Nat):Option (Prop×List V):=
 match s with
 | .tmp t=>match A.get t with
   | .sl true (x::xs)=>some (aS sz (x::xs),x::xs)
   | _=>none
 | _=>none
theorem zK{o:Oper} {K:AS->Prop} {d T T2 e e2:Nat} {s x:Operand} {t:TI} {C Cx:Prop} {xs ys:List V} (ho:o.op=.call { callee:=.builtin .append,args:= #[s,x],argTypes:= #[T,T2] }) (TG:o.type=T)
 (hd:o.dst=some d) (hN:d<N) (hT:tD P T=some (.sl e)) (Ud:tD P T2=some (.sl e2)) (ht:ti P e=some t) (hz:∃ inf z,P.info? e=some inf/\inf.zero=some z/\z.cells.size=t.sz) (hsz:0<t.sz) (UG:0<t.N4)
 (hb:Xc A s t.sz=some (C,xs)) (hC:C) (SD:0<ys.length) (hx:Qz A x=some (Cx,ys)) (YI:Cx) (WO:V.ax ys=false) (Ue:aS t.sz ys)
 (hbig:(xs.length+ys.length)*t.N4<=140737488355328)
 (hK:∀ g o c,K (A.put (some d) (.own t.sz (xs++ys) g o c))):F9 P N o A K:=by
 intro Pb Kb a w F Q hs;obtain⟨B2,c2,D7,Q0,O8,Ri,hl2⟩:=mU (P:=P) hs hx YI Ue WO;have hr:R w Pb (.sl true xs) [a.eval s] []/\aS t.sz xs:=by
  unfold Xc at hb;split at hb;rename_i q;split at hb;rename_i x' xs' hg;simp only[Zan,Zaq]at hb;obtain⟨rfl,rfl⟩:=hb;have P4:=hs.slot q;rw[hg]at P4;have hF:F (.slot q)=[]:=P4.1;rw[hF]at P4;exact⟨P4,hC⟩;simp at hb;simp at hb
 obtain⟨v,w',F2,g',o',c',B5,L7,O8,K8,RY,T3,P6⟩:=AN hT Ud ht hz hsz UG hs hr.1 hr.2 SD Q0 O8 Ri hl2 Ue hbig;have PM:(execOp a.eval o).run P w=.ok (.value v) w':=by
  simp only[execOp,ho,resolve,invoke,builtin,Za0,Za1,Zas,TG];have e:(#[s,x].map a.eval)= #[a.eval s,a.eval x]:=Zad;rw[e,B5];rfl
 unfold Oper.wp;rw[PM,Oper.upon_value,hd];exact⟨_,Pb,Kb,_,hK g' o' c',L7.put hN O8 (fun r _ g hg=>RY r g hg) K8 T3,fun _ h=>h,fun _ h=>h,fun _ h=>.inl h,P6⟩
end
mutual
def V.plain:V->Bool
 | .lit _=>true
 | .agg vs=>V.mT vs
 | .tup vs=>V.mT vs
 | _=>false
def V.mT:List V->Bool
 | []=>true
 | v::vs=>v.plain&&V.mT vs
end
def qb(A:AS):List Operand->Prop×List V
 | []=>(True,[])
 | x::xs=>match qb A xs with
   | (C,vs)=>match A.ev x with
     | .hd .. =>match Qz A x with
       | some (Cx,ys)=>(Cx/\C,.sl false ys::vs)
       | none=>(C,A.cp x::vs)
     | _=>(C,A.cp x::vs)
section
variable {w w':World} {Pb Kb Pb':Nat->Prop} {N:Nat} {A A' B:AS} {a:Act} {F:l9->List Nat} {P:Program} {ops:Array Oper}
mutual
theorem wj:∀ (v:V) {cs F},v.plain=true->R w Pb v cs F->R w' Pb' v cs []/\F=[]
 | .lit x,cs,F,_,h=>⟨⟨h.1,h.2.1,rfl⟩,h.2.2⟩
 | .agg vs,cs,F,hp,h=>by simp only[R]at h ⊢;simp only[V.plain]at hp;exact qn vs hp h
 | .tup _,_,_,_,h=>by simp[R]at h
 | .gv _ _,_,_,hp,_=>by simp[V.plain]at hp
 | .sl ..,_,_,hp,_=>by simp[V.plain]at hp
 | .own ..,_,_,hp,_=>by simp[V.plain]at hp
 | .ow ..,_,_,hp,_=>by simp[V.plain]at hp
 | .om ..,_,_,hp,_=>by simp[V.plain]at hp
 | .mp ..,_,_,hp,_=>by simp[V.plain]at hp
 | .hd ..,_,_,hp,_=>by simp[V.plain]at hp
 | .ptr ..,_,_,hp,_=>by simp[V.plain]at hp
 | .ep _,_,_,hp,_=>by simp[V.plain]at hp
 | .b9,_,_,hp,_=>by simp[V.plain]at hp
theorem qn:∀ (vs:List V) {cs F},V.mT vs=true->RL w Pb vs cs F->RL w' Pb' vs cs []/\F=[]
 | [],cs,F,_,h=>⟨⟨h.1,rfl⟩,h.2⟩
 | v::vs,cs,F,hp,h=>by
   simp only[V.mT,Zao]at hp;obtain⟨c1,c2,F1,F2,h1,h2,h3,h4⟩:=h;have k1:=wj v hp.1 h3;have k2:=qn vs hp.2 h4;exact⟨⟨c1,c2,[],[],h1,rfl,k1.1,k2.1⟩,by rw[h2,k1.2,k2.2];rfl⟩
end
theorem xC:∀ (vs:List V) {xs F},V.mT vs=true->RVs w Pb vs xs F->RVs w' Pb' vs xs []/\F=[]
 | [],xs,F,_,h=>⟨⟨h.1,rfl⟩,h.2⟩
 | v::vs,xs,F,hp,h=>by
   simp only[V.mT,Zao]at hp;obtain⟨x,xs',F1,F2,h1,h2,h3,h4⟩:=h;have k2:=xC vs hp.2 h4;subst h1 h2;cases v with
   | agg us=>
     obtain⟨cs,e,h3⟩:=h3;have k1:=qn (w':=w') (Pb':=Pb') us (by simpa[V.plain] using hp.1) h3;exact⟨⟨x,xs',[],[],rfl,rfl,⟨cs,e,k1.1⟩,k2.1⟩,by rw[k1.2,k2.2];rfl⟩
   | lit y=>have k1:=wj (w':=w') (Pb':=Pb') (.lit y) hp.1 h3;exact⟨⟨x,xs',[],[],rfl,rfl,k1.1,k2.1⟩,by rw[k1.2,k2.2];rfl⟩
   | tup us=>exact absurd h3 (by simp[R])
   | _=>simp[V.plain]at hp
theorem HC(v:V){x F}(hp:v.plain=true)(h:RV w Pb v x F):RV w' Pb' v x []/\F=[]:=by
 cases v with
 | tup vs=>obtain⟨xs,e,h⟩:=h;have:=xC (w':=w') (Pb':=Pb') vs (by simpa[V.plain] using hp) h;exact⟨⟨xs,e,this.1⟩,this.2⟩
 | agg us=>obtain⟨cs,e,h⟩:=h;have:=qn (w':=w') (Pb':=Pb') us (by simpa[V.plain] using hp) h;exact⟨⟨cs,e,this.1⟩,this.2⟩
 | lit y=>exact wj (w:=w) (Pb:=Pb) (w':=w') (Pb':=Pb') (.lit y) hp h
 | _=>simp[V.plain]at hp
theorem NC{Fo:List Nat} {PK g2 o2 c2 lo n c:Nat} {xs:List V} {Vb:List Value} (hr:R w Pb (.own PK xs g2 o2 c2) Vb Fo) (hle:n<=c) {B:Option Addr} (hB:0<c->B=some ⟨g2,o2+lo*PK,none⟩) (hn:lo+n<=xs.length) (ho:V.ax xs=false)
 (k1:∀ g,Pb g->Pb' g) (k2:∀ g,g<w.heap.size->Pb' g):R w Pb' (.sl false ((xs.drop lo).take n)) [.slice B n c] []:=by
 have hlen:((xs.drop lo).take n).length=n:=Zal;refine⟨rfl,B,c,by rw[hlen],by rw[hlen];exact hle,Zad,?_⟩;by_cases hn0:n=0;subst hn0;exact .inl Zad;right;rcases hr with ⟨_,rfl,_⟩ | ⟨h1,h2,h3,hx,hN,_,flat,F',cells,rfl,hr,hb,hsz,hc⟩;simp at hn;omega;have hF:=gg xs ho hr;subst hF;obtain⟨c1,Sn,P7⟩:=pb xs lo hr;obtain⟨c3,Xx,YD⟩:=oZ _ n Sn;refine⟨g2,o2+lo*PK,PK,c3,hB Zac,k2 g2 (by obtain⟨e,fr,hb,_⟩:=hb;exact(Zbh.1 hb).1),h2,fun x hx=>hN x (List.mem_of_mem_drop (List.mem_of_mem_take hx)),eH _ Xx (fun _ _=>rfl) Zad k1 Zad,fun j u hu=>?_⟩;rw[eh hb];have:=P7 j u (YD j u hu);rw[eg xs lo hN Zac]at this;have:=hc _ _ this;simpa[Zbj] using this
theorem JH(hs:u7 N Pb Kb A a w F){x:Operand}{C:Prop}{ys:List V}{r:l9}{p:List Nat}{sz g o lo n c:Nat}(he:A.ev x=.hd r p sz g o lo n c)(h:Qz A x=some (C,ys))(hC:C):R w (fun g=>g<w.heap.size) (.sl false ys) [a.eval x] []:=by
 obtain⟨Fx,hr⟩:=dS hs x;rw[he]at hr;obtain⟨_,hle,B,hv,hB⟩:=hr;have hv:a.eval x=.slice B n c:=(List.cons.inj hv).1;have key:∀ u Fo Vb,R w Pb u Vb Fo->jC lo n sz g o u=some (C,ys)->R w (fun g=>g<w.heap.size) (.sl false ys) [a.eval x] []:=by
  intro u Fo Vb N0 hu;unfold jC at hu;split at hu;rename_i PK xs g2 o2 c2;simp only[Zan,Zaq]at hu;obtain⟨rfl,rfl⟩:=hu;obtain⟨⟨rfl,rfl,rfl⟩,hln,VV,_⟩:=hC;rw[hv];exact NC N0 hle hB hln VV (fun k h=>hs.bound k (hs.sub k h)) fun g hg=>hg;simp at hu
 unfold Qz at h;rw[he]at h;simp only at h;split at h;rename_i i;have P4:=hs.slot i;unfold jC at h;split at h;rename_i PK xs g2 o2 c2 hg;rw[hg]at P4;exact key (.own PK xs g2 o2 c2) _ _ P4 (by unfold jC;exact h);simp at h;rename_i k p';split at h;rename_i a0 b0 u A7;obtain⟨F',cs,cells,hb,N0,u0⟩:=iw hs A7;exact key u F' cs N0 h;simp at h;simp at h
theorem qu(hs:u7 N Pb Kb A a w F):∀ (xs:List Operand) {C:Prop} {vs:List V},qb A xs=(C,vs)->C->RVs w (fun g=>g<w.heap.size) vs (xs.map a.eval) []
 | [],C,vs,h,_=>by simp only[qb,Zaq]at h;obtain⟨_,rfl⟩:=h;exact⟨rfl,rfl⟩
 | x::xs,C,vs,h,hC=>by
   have plain:∀ YP,RVs w (fun g=>g<w.heap.size) YP (xs.map a.eval) []->RVs w (fun g=>g<w.heap.size) (A.cp x::YP) ((x::xs).map a.eval) []:=fun YP h'=>by
    have h1:=tO hs [x];have h1:=uj (w':=w) (Pb':=fun g=>g<w.heap.size) _ h1 (fun _ _=>rfl) (fun _ _=>rfl) (fun k h=>hs.bound k (hs.sub k h)) Zad;obtain⟨y,ys,F1,F2,e1,e2,h2,_⟩:=h1;simp only[Zbe,List.map_nil,List.cons.injEq]at e1;obtain⟨rfl,_⟩:=e1;have e2:=e2.symm;simp only[List.append_eq_nil_iff]at e2;obtain⟨rfl,_⟩:=e2;exact⟨a.eval x,xs.map a.eval,[],[],rfl,rfl,h2,h'⟩
   cases hl:qb A xs with
   | mk C0 vs0=>
     simp only[qb,hl]at h;split at h;rename_i r p sz g o lo n c he;split at h;rename_i Cx ys e;simp only[Zaq]at h;obtain⟨rfl,rfl⟩:=h;exact⟨a.eval x,xs.map a.eval,[],[],rfl,rfl,JH hs he e hC.1,qu hs xs hl hC.2⟩;simp only[Zaq]at h;obtain⟨rfl,rfl⟩:=h;exact plain _ (qu hs xs hl hC);simp only[Zaq]at h;obtain⟨rfl,rfl⟩:=h;exact plain _ (qu hs xs hl hC)
theorem GK{o:Oper} {K:AS->Prop} {f:FuncId} {xs:Array Operand} {M6:Array TypeId} {args:List V} {Q:V->Prop} {C:Prop} {vs:List V} (ho:o.op=.call { callee:=.value (.func f),args:=xs,argTypes:=M6 })
 (hd:cB N o.dst) (hc:PC P f args Q) (hl:qb A xs.toList=(C,vs)) (hC:C) (hargs:PW vs args=args) (hp:∀ r,Q r->r.plain=true) (hK:∀ r,Q r->K (A.put o.dst r)):F9 P N o A K:=by
 intro Pb Kb a w F Q' hs;unfold Oper.wp;have B5:(execOp a.eval o).run P w=.ok (.enter f (xs.map a.eval)) w:=by
  simp only[execOp,ho,resolve,Act.eval,Deferred.ofValue,Za0,Za1,Zas,invoke];have:=hc.1 (xs.map a.eval) w;simpa using this
 rw[B5,Oper.upon_enter];have h0:=qu hs xs.toList hl hC;have h0:=oW _ args h0;rw[hargs]at h0;have L8:=hc.2 w (fun g=>g<w.heap.size) (xs.toList.map a.eval) (fun g hg=>hg) h0;have e:(xs.toList.map a.eval).toArray=xs.map a.eval:=by rw[<- Array.toList_map,Array.toArray_toList]
 rw[e]at L8;refine L8.mono ?_;rintro e w' ⟨r,x,Fr,Pb',rfl,hq,hr,hnd,hfr,h1,h2,hb⟩;have A8:u7 N Pb Kb A a w' F:=hs.grow hb.block hb.size (fun _ h=>h) (fun g hg=>.inl hg) hs.sub;obtain⟨F',L7⟩:=A8.pz (d:=o.dst) hd (HC (w':=w') (Pb':=Pb) r (hp r hq) hr).1;exact⟨_,Pb,Kb,F',hK r hq,L7,fun _ h=>h,fun _ h=>h,fun g h=>.inl h,A3.Ak hb hs.bound⟩
end
section
variable {w w':World} {Pb Kb Pb':Nat->Prop} {N:Nat} {A A' B:AS} {a:Act} {F:l9->List Nat} {P:Program} {ops:Array Oper}
theorem Bh{o:Oper} {K:AS->Prop} {d T e len:Nat} {c9:Array (Nat×Operand)} {i:TI} {vs:List V} (ho:o.op=.buildSlice T len c9) (hd:o.dst=some d) (hN:d<N) (hT:tD P T=some (.sl e)) (hi:ti P e=some i)
 (TF:eX A 0 c9.toList=some vs) (hB:UL P T e len i vs=true) (h0:0<len) (hK:∀ g,K (A.put (some d) (.own i.sz vs g 0 len))):F9 P N o A K:=by
 simp only[UL,Zao,Zbl]at hB;obtain⟨⟨⟨⟨b1,hlen⟩,Si⟩,J'⟩,hv⟩:=hB;obtain⟨inf,z,OX,hzero,_⟩:=kQ b1;have Si:=Nat.le_of_ble_eq_true Si;have J':=Nat.lt_of_succ_le (Nat.le_of_ble_eq_true J');have hv:=wM hv;intro Pb Kb a w F Q hs;obtain⟨xs,h1,h2,h3,h4⟩:=mS hs c9.toList 0 TF hv;have hu:=iQ hT;obtain⟨UR,_,J3,_,hsz,_,_⟩:=jv hi;rw[OX]at J3;obtain rfl:=Option.some.inj J3;have hfl:=Great.fill_whole J' xs ((Array.range (len*i.sz)).map (z.cells[· % z.cells.size]!)) h2 (by simp[h4,hlen]);have hmul: ¬ len*inf.size=0:=by rw[hsz];exact Nat.mul_ne_zero Zac Zac
 have hb:=run_buildSlice (P:=P) w T e len (c9.map fun (i,x)=>(i,a.eval x)) _ inf z hu OX hzero (by rw[hsz];omega) hmul (by rw[Array.toList_map,h1,hsz];exact hfl);have hx:(execOp a.eval o).run P w=.ok (.value (.slice (some ⟨w.heap.size,0,none⟩) len len)) (w.alloc (.cells (xs.flatMap fun v=>v.cells.toList).toArray e)):=by
  simp only[execOp,ho,Za0,hb,Zas,Za1]
 unfold Oper.wp;rw[hx,Oper.upon_value,hd];have Pl:=hs.nY (.cells (xs.flatMap fun v=>v.cells.toList).toArray e);have QC:=eH (w':=w.alloc (.cells (xs.flatMap fun v=>v.cells.toList).toArray e)) (Pb':=Pb) vs h3 (fun g hg=>alloc_old w _ g (hs.bound g (hs.sub g hg))) Zad (fun g hg=>hg) Zad;have hcs:(xs.flatMap fun v=>v.cells.toList).length=len*i.sz:=by
  rw[jh _ h3,oX vs (fun v UT=>(hv v UT).2),hlen]
 have R1: ¬ Kb w.heap.size:=fun h=>by have:=hs.bound _ h;omega
 have hR:R (w.alloc (.cells (xs.flatMap fun v=>v.cells.toList).toArray e)) Pb (.own i.sz vs w.heap.size 0 len) [.slice (some ⟨w.heap.size,0,none⟩) len len] [w.heap.size]:=
  .inr ⟨h0,J',Zac,by rw[hlen],fun v UT=>(hv v UT).2,fun c=>R1 (hs.sub _ c),_,[],_,rfl,QC,⟨e,(0,0),gJ w _,fun i _ h=>by omega⟩,by simp only[List.size_toArray];rw[hcs];omega,fun j u hu=>by simpa using hu⟩
 exact⟨_,Pb,Kb,_,hK _,Pl.put hN hR (fun r _ g hg=>by
  obtain rfl:=Zav.1 hg;intro c;have:=(hs.free r _ c).2;omega) Zad (fun g hg=>by
  obtain rfl:=Zav.1 hg;exact⟨R1,Zbx⟩),fun _ h=>h,fun _ h=>h,fun _ h=>.inl h,A3.alloc hs.bound _⟩
theorem DY{K:AS->Prop} {t sz n g o c g0 o0:Nat} {xs:List V} {r:l9} {p:List Nat} (h2:A.get t=.own sz xs g o c) (A7:(A.put (some t) .b9).at r p=some (g0,o0,.hd (.slot t) [] sz g o 0 n c)) (hn:n=xs.length)
 (h:K ((A.put (some t) .b9).setAt r p (.own sz xs g o c))):Hx N A K:=Hx.simple h fun Pb Kb a w F hs=>by
 subst hn;obtain⟨Fx,F1,hr,Pl,hnd,w7,hfr,_⟩:=hs.take (.tmp t);rw[pE h2]at Pl;have hr:RV w Pb (A.get t) (a.tmps.getD t undef) Fx:=hr;rw[h2]at hr;obtain⟨Fp,cs,cells,hb,hp,hc⟩:=iw Pl A7;obtain⟨_,hle,B,rfl,hB⟩:=hp;have F7:R w Pb (.own sz xs g o c) [.slice B xs.length c] Fx:=by
  rcases hr with ⟨rfl,rfl,rfl,A0,_⟩ | ⟨k1,k2,k3,k4,k5⟩;exact .inl ⟨rfl,rfl,rfl,B,rfl⟩;have:=hB k1;rw[Nat.zero_mul,Nat.add_zero]at this;subst this;exact .inr ⟨k1,k2,k3,rfl,k5⟩
 obtain⟨F2,L7,_⟩:=Pl.store (w':=w) (v:=.own sz xs g o c) A7 F7 rfl hnd w7 hfr ⟨rfl,rfl,rfl,rfl,fun _ _=>rfl,Shp.refl _,fun n8 K4=>⟨n8,K4,rfl,fun _ _=>rfl,fun j u hu=>by
  have e:n8=cells:=by
   obtain⟨e1,f1,q1,_⟩:=hb;obtain⟨e2,f2,q2,_⟩:=K4;rw[q1]at q2;simp only[Zan,Obj.cells.injEq]at q2;exact q2.1.symm
  rw[e];exact hc j u hu⟩⟩
 exact⟨F2,L7⟩
theorem EU{K:AS->Prop} {sz n g o c g0 o0 g1 o1:Nat} {xs:List V} {r r0:l9} {p p0:List Nat} (h2:A.at r0 p0=some (g1,o1,.own sz xs g o c)) (A7:(A.setAt r0 p0 .b9).at r p=some (g0,o0,.hd r0 p0 sz g o 0 n c)) (hn:n=xs.length)
 (h:K ((A.setAt r0 p0 .b9).setAt r p (.own sz xs g o c))):Hx N A K:=Hx.simple h fun Pb Kb a w F hs=>by
 subst hn;obtain⟨Fr,Fu,Pl,⟨cs0,Rm,Uc,N0,RZ⟩,hnd,w7,hfr⟩:=hs.split h2;have Pl:u7 N Pb Kb (A.setAt r0 p0 .b9) a w _:=Pl;obtain⟨Fp,cs,cells,hb,hp,hc⟩:=iw Pl A7;obtain⟨_,hle,B,rfl,hB⟩:=hp;have F7:R w Pb (.own sz xs g o c) [.slice B xs.length c] Fu:=by
  rcases N0 with ⟨rfl,rfl,rfl,A0,_⟩ | ⟨k1,k2,k3,k4,k5⟩;exact .inl ⟨rfl,rfl,rfl,B,rfl⟩;have:=hB k1;rw[Nat.zero_mul,Nat.add_zero]at this;subst this;exact .inr ⟨k1,k2,k3,rfl,k5⟩
 obtain⟨F2,L7,_⟩:=Pl.store (w':=w) (v:=.own sz xs g o c) A7 F7 rfl hnd w7 hfr ⟨rfl,rfl,rfl,rfl,fun _ _=>rfl,Shp.refl _,fun n8 K4=>⟨n8,K4,rfl,fun _ _=>rfl,fun j u hu=>by
  have e:n8=cells:=by
   obtain⟨e1,f1,q1,_⟩:=hb;obtain⟨e2,f2,q2,_⟩:=K4;rw[q1]at q2;simp only[Zan,Obj.cells.injEq]at q2;exact q2.1.symm
  rw[e];exact hc j u hu⟩⟩
 exact⟨F2,L7⟩
theorem zO{o:Oper} {K:AS->Prop} {d T T2 e e2 t0:Nat} {x:Operand} {t:TI} {Cx:Prop} {xs ys:List V} {r:l9} {p:List Nat} {sz g o1 n c g0 o0:Nat} (ho:o.op=.call { callee:=.builtin .append,args:= #[.tmp t0,x],argTypes:= #[T,T2] }) (TG:o.type=T)
 (hd:o.dst=some d) (hN:d<N) (hT:tD P T=some (.sl e)) (Ud:tD P T2=some (.sl e2)) (ht:ti P e=some t) (hz:∃ inf z,P.info? e=some inf/\inf.zero=some z/\z.cells.size=t.sz) (hsz:0<t.sz) (UG:0<t.N4)
 (hg:A.get t0=.hd r p sz g o1 0 n c) (A7:A.at r p=some (g0,o0,.own sz xs g o1 c)) (e9:sz=t.sz) (hn:n=xs.length) (hx:Qz A x=some (Cx,ys)) (YI:Cx) (WO:V.ax ys=false) (Ue:aS t.sz ys)
 (hbig:(xs.length+ys.length)*t.N4<=140737488355328)
 (hK:∀ g o c,K ((A.setAt r p .b9).put (some d) (.own t.sz (xs++ys) g o c))):F9 P N o A K:=by
 subst e9 hn;intro Pb Kb a w F Q hs;obtain⟨B2,c2,D7,Q0,O8,Ri,hl2⟩:=mU (P:=P) hs hx YI Ue WO;obtain⟨Fr,Fu,A8,⟨cs,cells,hb,N0,hc⟩,hnd,w7,hfr⟩:=hs.split A7;have hr:R w Pb (.own t.sz xs g o1 c) [a.eval (.tmp t0)] Fu:=by
  have hh:=hs.slot t0;rw[hg]at hh;obtain⟨_,hle,B,hv,hB⟩:=hh;have hv:a.eval (.tmp t0)=.slice B xs.length c:=(List.cons.inj hv).1;rw[hv];rcases N0 with ⟨rfl,rfl,rfl,A0,_⟩ | ⟨h1,h2,h3,h4,h5⟩;exact .inl ⟨rfl,rfl,rfl,B,rfl⟩;have:=hB h1;rw[Nat.zero_mul,Nat.add_zero]at this;subst this;exact .inr ⟨h1,h2,h3,rfl,h5⟩
 obtain⟨v,w',F2,g',o',c',B5,L7,O8,K8,RY,T3,P6⟩:=sZ hT Ud ht hz hsz UG A8 hr w7 hfr (Fy:=[]) (by simpa using hnd) Zad Zad Q0 O8 Ri hl2 Ue hbig;have PM:(execOp a.eval o).run P w=.ok (.value v) w':=by
  simp only[execOp,ho,resolve,invoke,builtin,Za0,Za1,Zas,TG];have e:(#[.tmp t0,x].map a.eval)= #[a.eval (.tmp t0),a.eval x]:=Zad;rw[e,B5];rfl
 unfold Oper.wp;rw[PM,Oper.upon_value,hd];exact⟨_,Pb,Kb,_,hK g' o' c',L7.put hN O8 (fun r _ g hg=>RY r g hg) K8 T3,fun _ h=>h,fun _ h=>h,fun _ h=>.inl h,P6⟩
theorem uM:∀ (vs:List V) {xs:List Value} {F:List Nat} {i:Nat} {v:V},RVs w Pb vs xs F->vs[i]? =some v->v.isVal=true->
 ∃ x Fa Fi Fb,xs[i]? =some x/\F=Fa++Fi++Fb/\RV w Pb v x Fi/\RVs w Pb (vs.set i .b9) xs (Fa++Fb)
 | [],_,_,_,_,_,h,_=>by simp at h
 | u::vs,xs,F,0,v,h,hi,hv=>by
   obtain⟨x,xs',F1,F2,rfl,rfl,h1,h2⟩:=h;simp at hi;subst hi;refine⟨x,[],F1,F2,rfl,Zad,?_,⟨x,xs',[],F2,rfl,rfl,rfl,h2⟩⟩;cases u <;> first | exact h1 | simp[V.isVal]at hv
 | u::vs,xs,F,i+1,v,h,hi,hv=>by
   obtain⟨x,xs',F1,F2,rfl,rfl,h1,h2⟩:=h;obtain⟨y,Fa,Fi,Fb,k1,rfl,k3,k4⟩:=uM vs h2 Zbn hv;exact⟨y,F1++Fa,Fi,Fb,by simpa using k1,Zad,k3,⟨x,xs',F1,Fa++Fb,rfl,Zad,h1,k4⟩⟩
theorem yl{o:Oper} {K:AS->Prop} {t i d:Nat} {vs:List V} {v:V} (ho:o.op=.extract (.tmp t) i) (hd:o.dst=some d) (hN:d<N) (ht:t<N) (htd:d≠t) (hg:A.get t=.tup vs) (hi:vs[i]? =some v) (hv:v.isVal=true)
 (hK:K ((A.put (some t) (.tup (vs.set i .b9))).put (some d) v)):F9 P N o A K:=by
 intro Pb Kb a w F Q hs;have P4:=hs.slot t;rw[hg]at P4;obtain⟨xs,hx,hr⟩:=P4;obtain⟨x,Fa,Fi,Fb,k1,k2,k3,k4⟩:=uM vs hr hi hv;have hnd:=hs.nodup (.slot t);rw[k2]at hnd;have TL:∀ g,g∈Fa++Fb->g∈F (.slot t):=fun g hg=>by rw[k2];simp only[Zax]at hg ⊢;rcases hg with h | h <;> simp[h]
 have VR:∀ g,g∈Fi->g∈F (.slot t):=fun g hg=>by rw[k2];simp[hg]
 have K8:(Fa++Fb).Nodup/\Fi.Nodup/\∀ g,g∈Fi->g ∉ Fa++Fb:=by
  simp only[List.nodup_append,Zax]at hnd ⊢;grind
 have Pl:=hs.put (d:=t) (v:=.tup (vs.set i .b9)) (x:=a.tmps.getD t undef) (F':=Fa++Fb) ht ⟨xs,hx,k4⟩ (fun r hr g hg c=>hs.ck (.slot t) r (Ne.symm hr) g (TL g hg) c) K8.1 (fun g hg=>hs.free _ g (TL g hg));rw[ql]at Pl;unfold Oper.wp;have B5:(execOp a.eval o).run P w=.ok (.value x) w:=by
  have W3:a.eval (.tmp t)=.tuple xs:=hx;have hxi:xs[i]? =some x:=by simpa using k1
  simp only[execOp,ho,W3,Instr.extract,hxi,Za0,Za1,Zas]
 rw[B5,Oper.upon_value,hd];refine⟨_,Pb,Kb,_,hK,Pl.put (d:=d) (F':=Fi) hN k3 (fun r hr g hg c=>?_) K8.2.1 (fun g hg=>hs.free _ g (VR g hg)),fun _ h=>h,fun _ h=>h,fun _ h=>.inl h,A3.refl _ _⟩;simp only[cf]at c;split at c;exact K8.2.2 g hg c;rename_i hne;exact hs.ck (.slot t) r (Ne.symm hne) g (VR g hg) c
end
def cj:List Prop->Prop->Prop
 | [],k=>k
 | c::r,k=>c/\cj r k
theorem kz:∀ {l:List Prop} {k:Prop},cj l k↔(∀ c,c∈l->c)/\k
 | [],k=>by simp[cj]
 | c::r,k=>by
   rw[cj,kz (l:=r),List.forall_mem_cons,and_assoc]
abbrev GT:=List (Nat×(Nat×Bool))
def CR(ops:Array Oper)(j:Nat):Option Nat:=(ops[j]?).bind (·.dst)
def rU(ops:Array Oper)(d:Nat)(gt:GT):GT:=gt.filter fun e=>!(e.1==d||CR ops e.2.1==some d)
def yq(ops:Array Oper)(d j:Nat)(b:Bool)(gt:GT):GT:=match CR ops j==some d with
 | true=>rU ops d gt
 | false=>(d,(j,b))::rU ops d gt
def UM(ops:Array Oper)(gt:GT)(A:AS):Prop:= ∀ e,e∈gt->∀ c v,A.get e.1=.gv c v->PG A ops e.2.1 e.2.2=some c
section
variable {P:Program} {N:Nat} {ops:Array Oper} {A A':AS} {gt:GT}
theorem DT:UM ops [] A:=fun e h=>by simp at h
theorem Ca{d j:Nat}{b:Bool}{u:V}(h:CR ops j≠some d):PG (A.put (some d) u) ops j b=PG A ops j b:=by
 unfold PG;unfold CR at h;cases hj:(ops[j]?).bind (·.dst) with
 | none=>rfl
 | some t=>
   simp only[Option.map_some];rw[AS.aB,if_neg (fun c=>h (by rw[hj,c]))]
theorem vZ{d:Nat}{u:V}(h:UM ops gt A):UM ops (rU ops d gt) (A.put (some d) u):=fun e he c v hv=>by
 unfold rU at he;rw[List.mem_filter]at he;obtain⟨h1,h2⟩:=he;simp only[Bool.not_eq_true',Bool.or_eq_false_iff,beq_eq_false_iff_ne,ne_eq]at h2;rw[AS.aB,if_neg h2.1]at hv;rw[Ca h2.2];exact h e h1 c v hv
theorem Ec{d j:Nat}{b G:Bool}{u:V}(h:UM ops gt A)(hG:PG A ops j b=some G):UM ops (yq ops d j b gt) (A.put (some d) (.gv G u)):=by
 unfold yq;split;exact vZ h;rename_i e1;intro e he c v hv;rcases List.mem_cons.1 he with rfl | he;rw[AS.aB,if_pos rfl]at hv;cases hv;rw[Ca (by simpa using e1)];exact hG;exact vZ h e he c v hv
def gtA(ops:Array Oper)(d:Option Nat)(j:Nat)(b:Bool)(gt:GT):GT:=match d with
 | some d=>yq ops d j b gt
 | none=>gt
theorem IX{d:Option Nat}{j:Nat}{b G:Bool}{u:V}(h:UM ops gt A)(hG:PG A ops j b=some G):UM ops (gtA ops d j b gt) (A.put d (.gv G u)):=by
 cases d with
 | none=>exact h
 | some d=>exact Ec h hG
theorem JG{x:Operand}(h:(A.ev x).df=false):A.drop x=A:=by
 cases x with
 | tmp t=>exact if_neg (by simpa[AS.ev] using h)
 | _=>rfl
def SA(G:Bool)(jb:Nat×Bool)(gt:GT):List Operand->AS->List Prop×AS
 | [],A=>([],A)
 | .tmp t::r,A=>match A.get t with
   | .gv b v=>match SA G jb gt r (A.put (some t) v),gt.contains (t,jb)&&!v.df&&!v.fX with
     | (C,B),true=>(C,B)
     | (C,B),false=>(pe G b v::C,B)
   | _=>SA G jb gt r A
 | _::r,A=>SA G jb gt r A
theorem jH{G:Bool}{jb:Nat×Bool}:∀ (xs:List Operand) {A B:AS} {l:List Prop},(∀ t,(t,jb)∈gt->∀ c v,A.get t=.gv c v->c=G)->SA G jb gt xs A=(l,B)->(∀ c,c∈l->c)->∃ C,AS.un G xs A=(C,B)/\C
 | [],A,B,l,_,h,_=>by simp only[SA,Zaq]at h;exact⟨True,by simp only[AS.un,h.2],trivial⟩
 | x::xs,A,B,l,hi,h,hl=>by
   cases x with
   | tmp t=>
     simp only[SA]at h;simp only[AS.un];split at h;rename_i b v hg;rw[hg];have hi':v.fX=false->∀ t',(t',jb)∈gt->∀ c u,(A.put (some t) v).get t'=.gv c u->c=G:=fun hv t' ht c u hu=>by
      rw[AS.aB]at hu;split at hu;rw[hu]at hv;simp[V.fX]at hv;exact hi t' ht c u hu
     split at h;rename_i C1 B1 hu hc;simp only[Zaq]at h;obtain⟨rfl,rfl⟩:=h;simp only[Zao,Bool.not_eq_true',List.contains_iff_mem]at hc;obtain⟨C2,e1,e2⟩:=jH xs (hi' hc.2) hu hl;simp only[e1];refine⟨_,rfl,?_,e2⟩;unfold pe;rw[hc.1.2,hc.2,hi t hc.1.1 b v hg];exact fun h=>h;rename_i C1 B1 hu hc;simp only[Zaq]at h;obtain⟨rfl,rfl⟩:=h;have h0:=hl _ (List.mem_cons_self ..);have hv:v.fX=false:=by
      unfold pe at h0;split at h0;rename_i e;rw[Bool.or_eq_false_iff]at e;exact e.2;exact h0.elim
     obtain⟨C2,e1,e2⟩:=jH xs (hi' hv) hu (fun c hc=>hl c (List.mem_cons_of_mem _ hc));simp only[e1];exact⟨_,rfl,h0,e2⟩;rename_i hn;have:=jH xs hi h hl;split;rename_i b v hg;exact absurd hg (hn b v);exact this
   | _=>exact jH xs hi h hl
def rK(P:Program)(N:Nat)(ops:Array Oper):Nat->List Oper->List V->GT->AS->Option (List Prop×AS×GT)
 | 0,_,_,gt,A=>some ([],A,gt)
 | _+1,[],_,gt,A=>some ([],A,gt)
 | n+1,o::rest,A4,gt,A=>
   match o.dst with
   | none=>none
   | some d=>if d<N then
     match o.guard with
     | some (j,b)=>match PG A ops j b with
       | some G=>match SA G (j,b) gt (iO o.op) A with
         | (C0,B)=>match sY P B o.op A4 with
           | some (C,v,A4)=>if (Rr N (iO o.op)&&!v.fX)=true then match rK P N ops n rest A4 (yq ops d j b gt) (A.put (some d) (.gv G v)) with
             | some (C',r)=>some (C0++(if mb o.op=true then C' else (G=true->C)::C'),r)
             | none=>none else none
           | none=>none
       | none=>none
     | none=>match o.op with
       | .assign x=>rK P N ops n rest A4 (if (A.ev x).df=true then [] else rU ops d gt) ((A.drop x).put (some d) (A.ev x))
       | op=>match sY P A op A4 with
         | some (C,v,A4)=>match rK P N ops n rest A4 (rU ops d gt) (A.put (some d) v) with
           | some (C',r)=>if mb op=true then some (C',r) else some (C::C',r)
           | none=>none
         | none=>none
     else none
theorem rX:∀ (n:Nat) {l:List Oper} {A4:List V} {gt XK:GT} {A A':AS} {cs:List Prop},rK P N ops n l A4 gt A=some (cs,A',XK)->UM ops gt A->(∀ c,c∈cs->c)->
 (∃ C,nn P N ops n l A4 A=some (C,A')/\C)/\UM ops XK A'
 | 0,l,A4,gt,XK,A,A',cs,h,hi,hc=>by
   simp only[rK,Zan,Zaq]at h;obtain⟨_,rfl,rfl⟩:=h;exact⟨⟨True,by simp only[nn],trivial⟩,hi⟩
 | n+1,[],A4,gt,XK,A,A',cs,h,hi,hc=>by
   simp only[rK,Zan,Zaq]at h;obtain⟨_,rfl,rfl⟩:=h;exact⟨⟨True,by simp only[nn],trivial⟩,hi⟩
 | n+1,o::l,A4,gt,XK,A,A',cs,h,hi,hc=>by
   unfold rK at h;unfold nn;split at h;cases h;rename_i d hd;split at h
   case isFalse=>cases h
   rename_i U4;simp only[hd,if_pos U4];split at h;rename_i j b hg;simp only[hg];split at h;rename_i G hG;split at h;rename_i C0 B hu;split at h;rename_i C v Rc hs;split at h;rename_i hk;split at h;rename_i C' A1 hr;simp only[Zan,Zaq]at h;obtain⟨rfl,rfl⟩:=h;obtain⟨C1,e1,e2⟩:=jH (iO o.op) (fun t ht c v hv=>by have:=hi _ ht c v hv;rw[hG]at this;exact(Option.some.inj this).symm) hu (fun c T9=>hc c (List.mem_append_left _ T9));obtain⟨⟨C2,e3,e4⟩,e5⟩:=rX n hr (Ec hi hG) (fun c T9=>hc c (List.mem_append_right _ (by split <;> simp[T9])));refine⟨?_,e5⟩;simp only[hG,e1,hs,if_pos hk,e3];refine⟨_,rfl,fun OZ=>⟨e2,?_⟩,e4⟩;by_cases ht:mb o.op=true;exact mG ht hs;exact hc (G=true->C) (List.mem_append_right _ (by rw[if_neg ht];exact List.mem_cons_self ..)) OZ;cases h;cases h;cases h;cases h;rename_i hg;simp only[hg];split at h;rename_i x hx;obtain⟨⟨C,e1,e2⟩,e3⟩:=rX n h (by
    split;exact DT;rename_i ho;rw[JG (by simpa using ho)];exact vZ hi) hc
   simp only[hx];exact⟨⟨C,e1,e2⟩,e3⟩;rename_i hx;split at h;rename_i C v Rc hs;split at h;rename_i C' r hr;have key:(∀ c,c∈C'->c)/\C/\r=(A',XK):=by
    split at h;rename_i ht;simp only[Zan,Zaq]at h;obtain⟨rfl,rfl⟩:=h;exact⟨hc,mG ht hs,rfl⟩;simp only[Zan,Zaq]at h;obtain⟨rfl,rfl⟩:=h;exact⟨fun c T9=>hc c (List.mem_cons_of_mem _ T9),hc _ (List.mem_cons_self ..),rfl⟩
   obtain⟨k1,k2,rfl⟩:=key;obtain⟨⟨C2,e3,e4⟩,e5⟩:=rX n hr (vZ hi) k1;refine⟨?_,e5⟩;split;rename_i Q0;exact absurd Q0 (hx _);simp only[hs,e3];split;exact⟨_,rfl,e4⟩;exact⟨_,rfl,k2,e4⟩;cases h;cases h
def nk(B:AS)(ks:List (Nat×Nat)):List (Nat×(Nat×V))->Prop->Prop
 | [],p=>p
 | (k,(g,v))::r,p=>(match lk k ks with | some q=>(match lk q B.h with | some (g',v')=>(g',wk v' v)=(g,v) | none=>False) | none=>False)/\nk B ks r p
theorem jn{B:AS}{ks:List (Nat×Nat)}:∀ {H:List (Nat×(Nat×V))} {p:Prop},nk B ks H p->lh B ks H/\p
 | [],p,h=>⟨trivial,h⟩
 | (k,(g,v))::r,p,h=>by
   obtain⟨h1,h2⟩:=h;obtain⟨h3,h4⟩:=jn h2;exact⟨⟨h1,h3⟩,h4⟩
def GN(A:AS):List (Nat×(Nat×V))->Prop->Prop
 | [],p=>p
 | (k,(g,v))::r,p=>(match lk k A.h with | some (g',v')=>(g',wk v' v)=(g,v) | none=>False)/\GN A r p
theorem yL:∀ {H:List (Nat×(Nat×V))} {p:Prop},GN A H p->S0 A H/\p
 | [],p,h=>⟨trivial,h⟩
 | (k,(g,v))::r,p,h=>by
   obtain⟨h1,h2⟩:=h;obtain⟨h3,h4⟩:=yL h2;exact⟨⟨h1,h3⟩,h4⟩
def GQ(A:AS):List (Nat×V)->Prop->Prop
 | [],p=>p
 | (k,v)::r,p=>(wk (A.get k) v=v)/\GQ A r p
theorem uk:∀ {H:List (Nat×V)} {p:Prop},GQ A H p->Tx A H/\p
 | [],p,h=>⟨trivial,h⟩
 | (k,v)::r,p,h=>by
   obtain⟨h1,h2⟩:=h;obtain⟨h3,h4⟩:=uk h2;exact⟨⟨h1,h3⟩,h4⟩
def Xr(A B:AS):Prop:=GQ A B.t (GN A B.h True)
theorem rZ{B:AS}(h:Xr A B):Tx A B.t/\S0 A B.h:=⟨(uk h).1,(yL (uk h).2).1⟩
def yP(A:AS):List ResultVar->Option (List Prop×List (l9×V))
 | []=>some ([],[])
 | r::rs=>match yP A rs with
   | some (C,xs)=>match r with
     | .tmp t=>some (C,(.slot t,A.get t)::xs)
     | .cell t _=>match A.get t with
       | .ptr (.key k) [] g 0=>match lk k A.h with
         | some (g',v)=>some ((g'=g)::C,(.key k,v)::xs)
         | none=>none
       | _=>none
   | none=>none
theorem so:∀ {rs:List ResultVar} {C:List Prop} {xs:List (l9×V)},yP A rs=some (C,xs)->(∀ c,c∈C->c)->∃ C',wF A rs=some (C',xs)/\C'
 | [],C,xs,h,_=>by simp only[yP,Zan,Zaq]at h;rw[<- h.2];exact⟨_,rfl,trivial⟩
 | r::rs,C,xs,h,hC=>by
   simp only[yP]at h;simp only[wF];split at h;rename_i C1 xs1 e;split at h;simp only[Zan,Zaq]at h;obtain⟨rfl,rfl⟩:=h;obtain⟨C',e1,e2⟩:=so e hC;simp only[e1];exact⟨_,rfl,e2⟩;split at h;rename_i k g e2;split at h;rename_i g' v e3;simp only[Zan,Zaq]at h;obtain⟨rfl,rfl⟩:=h;obtain⟨C',e4,e5⟩:=so e (fun c hc=>hC c (List.mem_cons_of_mem _ hc));simp only[e4,e2,e3];exact⟨_,rfl,hC _ (List.mem_cons_self ..),e5⟩;cases h;cases h;cases h
def py(A:AS):List (Nat×(Nat×V))->Prop->Prop
 | [],p=>p
 | (k,(g,v))::r,p=>p/\py A r (match lk k A.h with | some (g',v')=>(g',wk v' v)=(g,v) | none=>False)
theorem tV:∀ {H:List (Nat×(Nat×V))} {p:Prop},py A H p->p/\S0 A H
 | [],p,h=>⟨h,trivial⟩
 | (k,(g,v))::r,p,h=>by
   obtain⟨h1,h2⟩:=h;exact⟨h1,tV h2⟩
end
structure Wo (P:Program) where
 f:FuncId
 args:List V
 H:List (Nat×(Nat×V)):=[]
 pre:Prop:=True
 res:V
 H':List (Nat×(Nat×V)):=[]
 ok:pre->PF P f args H (fun r h=>r=res/\h=H')
structure Vh (P:Program) where
 X:Type
 f:FuncId
 args:List V
 H:List (Nat×(Nat×V)):=[]
 pre:Prop:=True
 post:X->Prop
 res:X->V
 H':X->List (Nat×(Nat×V)):=fun _=>[]
 ok:pre->PF P f args H (fun r h=> ∃ x,post x/\r=res x/\h=H' x)
structure Cu (P:Program) where
 X:Type
 pre:Nat->Oper->AS->Prop
 post:X->Oper->AS->AS
 ok:∀ {N:Nat} {o:Oper} {A:AS} {K:AS->Prop},o.guard=none->pre N o A->(∀ x,K (post x o A))->F9 P N o A K
structure Eu (P:Program) where
 X:Type
 pre:Nat->Oper->AS->List Nat->List Nat->Prop
 U:Oper->AS->X->AS->AS
 Wr:∀ {N:Nat} {o:Oper} {A:AS} {Sl Hl:List Nat},pre N o A Sl Hl->∀ fs,S9 (U o A) fs Sl Hl
 prom:List Nat:=[]
 pok:∀ {N:Nat} {o:Oper} {A:AS} {Sl Hl:List Nat},pre N o A Sl Hl->∀ q,q∈prom->∀ x B,N1 (U o A x B).h q=N1 B.h q:=by intro _ _ _ _ _ _ q hq;exact absurd hq List.not_mem_nil
 ok:∀ {N:Nat} {o:Oper} {A A':AS} {Sl Hl:List Nat},o.guard=none->pre N o A Sl Hl->(∀ t,Operand.tmp t∈o.op.operands.toList->A'.get t=A.get t)->(∀ k,lk k A'.h=lk k A.h)->F9 P N o A' fun B=> ∃ x,B=U o A x A'
structure Vu (P:Program) where
 v:V
 pre:Nat->Array Oper->Oper->AS->Prop
 ok:∀ {N:Nat} {ops:Array Oper} {o:Oper} {A:AS} {fs:List Nat} {fr:Option (List Nat)},pre N ops o A->(∀ t,t∈o.looksAt ops->t∈fs)->Ut P N ops o A v fs fr
def Wo.sm{P:Program}(c:Wo P):Prop:=c.args=c.args
def Vh.sm{P:Program}(c:Vh P):Prop:=c.args=c.args
inductive Hint where
 | I7 (t sz:Nat)
 | YO (t:Nat) (u:V)
 | wkR (r:l9) (p:List Nat) (u:V)
 | fV (t:Nat)
 | fz (t:Nat)
 | m8 (t:Nat) (v:V)
 | s8 (k:Nat) (v:V)
 | to (B:AS)
 | rk (k k':Nat)
 | B8 (r:l9) (p:List Nat) (sz:Nat)
 | SB (r:l9) (p:List Nat) (g o sz:Nat)
 | Rk (r:l9) (p:List Nat) (g o t:Nat)
 | Pw (r:l9) (p:List Nat) (g o:Nat) (v u:V)
 | Qw (r0:l9) (p0:List Nat) (r:l9) (p:List Nat) (g o:Nat)
inductive Sc (P:Program):Type 1
 | nil
 | h (x:Hint) (k:Sc P)
 | ot (t:Nat) (k:Nat->Nat->Nat->Sc P)
 | oR (r:l9) (p:List Nat) (k:Nat->Nat->Nat->Sc P)
 | r (n:Nat) (A4:List V) (k:Sc P)
 | mv (k:Sc P)
 | c (c:Wo P) (ks:List (Nat×Nat)) (k:Sc P)
 | cx (c:Vh P) (ks:List (Nat×Nat)) (k:c.X->Sc P)
 | cg (c:Wo P) (k:Sc P)
 | al (z:ZT P) (k:Nat->Sc P)
 | bx (k:Nat->Sc P)
 | st (old:Option V) (k:Sc P)
 | ap (k:Nat->Nat->Nat->Sc P)
 | bd (z:ZT P) (k:Sc P)
 | bs (k:Sc P)
 | N4 (bs:BL) (k:Sc P)
 | sb (l:BL) (k:Nat->Nat->Sc P)
 | mm (k:Sc P)
 | rs (k:Sc P)
 | br (a b:Sc P)
 | join (X:Type) (B:X->AS) (ok:X->Prop) (a b:Sc P) (k:X->Sc P)
 | loop (X:Type) (inv:X->AS) (ok:X->Prop) (m:X->Nat) (k:X->Sc P)
 | dx (m:Nat) (pl:List Nat) (tb:List (Nat×Sa)) (zs:List (Nat×ZT P)) (k:Sc P)
 | ua (k:Nat->Sc P)
 | ux (z:Option (ZT P)) (k:Nat->Nat->Nat->Sc P)
 | cl (c:Wo P) (k:Sc P)
 | sp (b:Bool) (a1 a2:Sc P)
 | gt (k:Sc P)
 | gf (v:V) (k:Sc P)
 | ex (X:Type) (post:X->Prop) (k:X->Sc P)
 | QV (r:l9) (p:List Nat) (g o sz:Nat) (xs:List V) (k:Nat->Nat->Nat->Sc P)
 | YN (xs:List V) (g o:Nat) (k:Nat->Nat->Nat->Sc P)
 | bo (k:Nat->Sc P)
 | cu (c:Cu P) (k:c.X->Sc P)
 | eu (c:Eu P) (k:c.X->Sc P)
 | vu (c:Vu P) (k:Sc P)
def QP(N:Nat):Option Nat->Bool
 | none=>true
 | some d=>Nat.blt d N
theorem dV{N:Nat}{d:Option Nat}(h:QP N d=true):cB N d:=by
 cases d with
 | none=>trivial
 | some d=>exact Nat.lt_of_succ_le (Nat.le_of_ble_eq_true h)
theorem bF{a b:Nat}(h:Nat.blt a b=true):a<b:=Nat.lt_of_succ_le (Nat.le_of_ble_eq_true h)
def yB(N:Nat)(x:Hint)(A:AS)(K:AS->Prop):Prop:=
 match x with
 | .I7 t sz=>match Nat.blt t N,A.get t with
   | true,.sl true []=>K (A.put (some t) (.own sz [] 0 0 0))
   | _,_=>False
 | .YO t u=>match Nat.blt t N with
   | true=>K (A.put (some t) (wk (A.get t) u))
   | false=>False
 | .wkR r p u=>match A.at r p with
   | some (_,_,v)=>match (wk v u).n==v.n with
     | true=>K (A.setAt r p (wk v u))
     | false=>False
   | none=>False
 | .fV t=>match A.get t with
   | .hd (.slot i) [] sz g o 0 n c=>match A.get i with
     | .own L3 xs g' o' c'=>match Nat.blt t N&&Nat.blt i N&&!(t==i) with
       | true=>(sz,g,o,c,n)=(L3,g',o',c',xs.length)/\K ((A.put (some i) .b9).put (some t) (.own L3 xs g' o' c'))
       | false=>False
     | _=>False
   | _=>False
 | .fz t=>match Nat.blt t N&&(A.get t).df with
   | true=>K (A.put (some t) (A.get t).er)
   | false=>False
 | .m8 t v=>A.get t=v/\K (A.put (some t) v)
 | .s8 k v=>match lk k A.h with
   | some (g,u)=>u=v/\K ⟨A.t,(k,(g,v))::A.h⟩
   | none=>False
 | .to B=>Tx A B.t/\S0 A B.h/\K B
 | .rk k k'=>match lk k A.h,lk k' A.h with
   | some gv,none=>K ⟨A.t,(k',gv)::A.h.filter fun p=>p.1 != k⟩
   | _,_=>False
 | .B8 r p sz=>match A.at r p with
   | some (_,_,.sl true [])=>K (A.setAt r p (.own sz [] 0 0 0))
   | _=>False
 | .SB r p g o sz=>A.at r p=some (g,o,.sl true [])/\K (A.setAt r p (.own sz [] 0 0 0))
 | .Rk r p g o t=>match A.get t with
   | .own sz xs g1 o1 c=>(A.put (some t) .b9).at r p=some (g,o,.hd (.slot t) [] sz g1 o1 0 xs.length c)/\K ((A.put (some t) .b9).setAt r p (.own sz xs g1 o1 c))
   | _=>False
 | .Pw r p g o v u=>A.at r p=some (g,o,v)/\match (wk v u).n==v.n with
   | true=>K (A.setAt r p (wk v u))
   | false=>False
 | .Qw r0 p0 r p g o=>match A.at r0 p0 with
   | some (_,_,.own sz xs g1 o1 c)=>(A.setAt r0 p0 .b9).at r p=some (g,o,.hd r0 p0 sz g1 o1 0 xs.length c)/\K ((A.setAt r0 p0 .b9).setAt r p (.own sz xs g1 o1 c))
   | _=>False
def Rt{P:Program}(N:Nat):Sc P->AS->(AS->Sc P->Prop)->Prop
 | .h x k,A,K=>yB N x A fun B=>Rt N k B K
 | .ot t k,A,K=>match Nat.blt t N,A.get t with
   | true,.ow sz xs=> ∀ g o c,Rt N (k g o c) (A.put (some t) (.own sz xs g o c)) K
   | _,_=>False
 | .oR r p k,A,K=>match A.at r p with
   | some (_,_,.ow sz xs)=> ∀ g o c,Rt N (k g o c) (A.setAt r p (.own sz xs g o c)) K
   | _=>False
 | .ex X post k,A,K=>(∃ x,post x)/\∀ x,post x->Rt N (k x) A K
 | .QV r p g0 o0 sz xs k,A,K=>A.at r p=some (g0,o0,.ow sz xs)/\∀ g o1 c,Rt N (k g o1 c) (A.setAt r p (.own sz xs g o1 c)) K
 | s,A,K=>K A s
def lV(P:Program)(T T2:Nat):Option TI:=
 match tD P T,tD P T2 with
 | some (.sl e),some (.sl _)=>match ti P e with
   | some t=>match X5 P e t.sz&&Nat.blt 0 t.sz&&Nat.blt 0 t.N4 with
     | true=>some t
     | false=>none
   | none=>none
 | _,_=>none
def zd(P:Program)(T:Nat):Bool:=match tD P T with
 | some (.sl e)=>match tD P e with
   | some (.int .u8)=>true
   | _=>false
 | _=>false
def isStr(P:Program)(T:Nat):Bool:=match tD P T with
 | some .str=>true
 | _=>false
def E3{P:Program}(N:Nat)(ops:Array Oper):GT->Sc P->List Oper->AS->(AS->Sc P->Prop)->Prop
 | UJ,s,[],A,K=>K A s
 | UJ,.r n A4 k,l,A,K=>match rK P N ops n l A4 UJ A with
   | some (C,A',gt1)=>cj C (E3 N ops gt1 k (l.drop n) A' K)
   | none=>False
 | UJ,.cg c k,o::l,A,K=>match o.op,o.guard with
   | .call ⟨.value (.func f),xs,_⟩,some (j,b)=>match f==c.f&&QP N o.dst&&Rr N xs.toList&&!c.res.er.fX&&!c.res.er.df,c.H,PG A ops j b with
     | true,[],some G=>match SA G (j,b) UJ xs.toList A with
       | (C,B)=>cj C ((G=true->c.pre/\PW (xs.toList.map B.cp) c.args=c.args)/\E3 N ops (gtA ops o.dst j b UJ) k l (A.put o.dst (.gv G c.res.er)) K)
     | _,_,_=>False
   | _,_=>False
 | UJ,.ex X post k,o::l,A,K=>(∃ x,post x)/\∀ x,post x->E3 N ops [] (k x) (o::l) A K
 | UJ,.sp b a1 a2,o::l,A,K=>(b=true->E3 N ops [] a1 (o::l) A K)/\(b=false->E3 N ops [] a2 (o::l) A K)
 | UJ,.gt k,o::l,A,K=>match o.guard with
   | some (j,b)=>match PG A ops j b with
     | some G=>G=true/\E3 N ops [] k (⟨o.dst,o.op,o.type,o.pos,o.after,none⟩ :: l) A K
     | none=>False
   | none=>False
 | UJ,.gf v k,o::l,A,K=>match o.guard with
   | some (j,b)=>match PG A ops j b,QP N o.dst with
     | some G,true=>G=false/\E3 N ops [] k l (A.put o.dst (.gv false v)) K
     | _,_=>False
   | none=>False
 | UJ,s,o::l,A,K=>match o.guard with
   | some _=>False
   | none=>match s with
     | .h x k=>yB N x A fun B=>E3 N ops [] k (o::l) B K
     | .QV r p g0 o0 sz xs k=>A.at r p=some (g0,o0,.ow sz xs)/\∀ g o1 c,E3 N ops [] (k g o1 c) (o::l) (A.setAt r p (.own sz xs g o1 c)) K
     | .cu c k=>c.pre N o A/\∀ x,E3 N ops [] (k x) l (c.post x o A) K
     | .bo k=>match o.op,o.dst with
       | .buildSlice T len c9,some d=>match tD P T with
         | some (.sl e)=>match ti P e,eX A 0 c9.toList with
           | some i,some vs=>match UL P T e len i vs&&Nat.blt d N&&Nat.blt 0 len with
             | true=> ∀ g,E3 N ops [] (k g) l (A.put (some d) (.own i.sz vs g 0 len)) K
             | false=>False
           | _,_=>False
         | _=>False
       | _,_=>False
     | .YN xs g0 o0 k=>match o.op,o.dst with
       | .call ⟨.builtin .append,⟨[.tmp t0,x]⟩,⟨[T,T2]⟩⟩,some d=>match o.type==T&&Nat.blt d N,lV P T T2 with
         | true,some t=>match A.get t0,Qz A x with
           | .hd r p sz g o1 0 n c,some (Cx,ys)=>(A.at r p=some (g0,o0,.own sz xs g o1 c)/\sz=t.sz/\n=xs.length)/\Cx/\V.ax ys=false/\aS t.sz ys/\(xs.length+ys.length)*t.N4<=140737488355328/\
            ∀ g2 o2 c2,E3 N ops [] (k g2 o2 c2) l ((A.setAt r p .b9).put (some d) (.own t.sz (xs++ys) g2 o2 c2)) K
           | _,_=>False
         | _,_=>False
       | _,_=>False
     | .cl c k=>match o.op with
       | .call ⟨.value (.func f),xs,_⟩=>match f==c.f&&QP N o.dst&&c.res.plain,c.H,qb A xs.toList with
         | true,[],(C,vs)=>C/\PW vs c.args=c.args/\c.pre/\E3 N ops [] k l (A.put o.dst c.res) K
         | _,_,_=>False
       | _=>False
     | .ot t k=>match Nat.blt t N,A.get t with
       | true,.ow sz xs=> ∀ g o1 c,E3 N ops [] (k g o1 c) (o::l) (A.put (some t) (.own sz xs g o1 c)) K
       | _,_=>False
     | .oR r p k=>match A.at r p with
       | some (_,_,.ow sz xs)=> ∀ g o1 c,E3 N ops [] (k g o1 c) (o::l) (A.setAt r p (.own sz xs g o1 c)) K
       | _=>False
     | .mv k=>match o.op with
       | .move x=>match QP N o.dst with
         | true=>E3 N ops [] k l ((A.drop x).put o.dst (A.ev x)) K
         | false=>False
       | .extract (.tmp t) i=>match o.dst,A.get t with
         | some d,.tup vs=>match vs[i]? with
           | some v=>match Nat.blt d N&&Nat.blt t N&&!(d==t)&&v.isVal with
             | true=>E3 N ops [] k l ((A.put (some t) (.tup (vs.set i .b9))).put (some d) v) K
             | false=>False
           | none=>False
         | _,_=>False
       | .load T x=>match o.dst,ti P T,A.ev x with
         | some d,some i,.ptr r p g g'=>match A.at r p with
           | some (g2,Va,u)=>match Nat.blt d N&&u.n==i.sz&&i.d.agg==u.isAgg with
             | true=>(g2,Va)=(g,g')/\E3 N ops [] k l ((A.setAt r p u.kill).put (some d) u) K
             | false=>False
           | none=>False
         | _,_,_=>False
       | _=>False
     | .c c ks k=>match o.op with
       | .call ⟨.value fx,xs,_⟩=>match A.ev fx,A.tk xs.toList with
         | .lit (.func (.func f) first A6),(vs,B)=>match f==c.f&&QP N o.dst&&PL (ks.map (·.1))&&PL (ks.map (·.2))&&c.args.length==(first.toList.map cV++vs++A6.toList.map cV).length with
           | true=>PW (first.toList.map cV++vs++A6.toList.map cV) c.args=c.args/\nk B ks c.H (c.pre/\E3 N ops [] k l ((B.back ks c.H').put o.dst (c.res.QU (jN ks))) K)
           | false=>False
         | _,_=>False
       | _=>False
     | .cx c ks k=>match o.op with
       | .call ⟨.value fx,xs,_⟩=>match A.ev fx,A.tk xs.toList with
         | .lit (.func (.func f) first A6),(vs,B)=>match f==c.f&&QP N o.dst&&PL (ks.map (·.1))&&PL (ks.map (·.2))&&c.args.length==(first.toList.map cV++vs++A6.toList.map cV).length with
           | true=>PW (first.toList.map cV++vs++A6.toList.map cV) c.args=c.args/\nk B ks c.H (c.pre/\∀ x,c.post x->E3 N ops [] (k x) l ((B.back ks (c.H' x)).put o.dst ((c.res x).QU (jN ks))) K)
           | false=>False
         | _,_=>False
       | _=>False
     | .al z k=>match o.op,o.dst with
       | .alloc T,some d=>match T==z.T&&Nat.blt d N with
         | true=> ∀ g,E3 N ops [] (k g) l ⟨(d,.ptr (.key d) [] g 0)::A.t,(d,(g,z.v))::A.h⟩ K
         | false=>False
       | _,_=>False
     | .bx k=>match o.op,o.dst with
       | .box _ x,some d=>match Nat.blt d N&&(A.cp x).isVal with
         | true=> ∀ g,E3 N ops [] (k g) l ⟨(d,.ptr (.key d) [] g 0)::A.t,(d,(g,A.cp x))::A.h⟩ K
         | false=>False
       | _,_=>False
     | .st old k=>match o.op,o.dst with
       | .store T x y,none=>match ti P T,A.ev x with
         | some i,.ptr r p g g'=>match old with
           | none=>match (A.drop y).at r p with
             | some (g2,Va,u)=>match (A.ev y).isVal&&(A.ev y).n==u.n&&(A.ev y).n==i.sz with
               | true=>(g2,Va)=(g,g')/\E3 N ops [] k l ((A.drop y).setAt r p (A.ev y)) K
               | false=>False
             | none=>False
           | some u=>match (A.ev y).isVal&&(A.ev y).n==u.n&&(A.ev y).n==i.sz with
             | true=>(A.drop y).at r p=some (g,g',u)/\E3 N ops [] k l ((A.drop y).setAt r p (A.ev y)) K
             | false=>False
         | _,_=>False
       | _,_=>False
     | .ap k=>match o.op,o.dst with
       | .call ⟨.builtin .append,⟨[s,x]⟩,⟨[T,T2]⟩⟩,some d=>match o.type==T&&Nat.blt d N,lV P T T2 with
         | true,some t=>match Wm A s t.sz,Qz A x with
           | some (C,A1,xs),some (Cx,ys)=>C/\Cx/\V.ax ys=false/\aS t.sz ys/\(xs.length+ys.length)*t.N4<=140737488355328/\
            ∀ g o1 c,E3 N ops [] (k g o1 c) l (A1.put (some d) (.own t.sz (xs++ys) g o1 c)) K
           | none,some (Cx,ys)=>match Xc A s t.sz with
             | some (C,xs)=>(C/\0<ys.length)/\Cx/\V.ax ys=false/\aS t.sz ys/\(xs.length+ys.length)*t.N4<=140737488355328/\
               ∀ g o1 c,E3 N ops [] (k g o1 c) l (A.put (some d) (.own t.sz (xs++ys) g o1 c)) K
             | none=>False
           | _,_=>False
         | _,_=>False
       | _,_=>False
     | .bd z k=>match o.op with
       | .build T c9=>match T==z.T&&QP N o.dst,z.v with
         | true,.agg zs=>match iU P A T zs c9.toList with
           | some v=>E3 N ops [] k l (A.put o.dst v) K
           | none=>False
         | _,_=>False
       | _=>False
     | .bs k=>match o.op with
       | .buildSlice T len c9=>match tD P T with
         | some (.sl e)=>match ti P e,eX A 0 c9.toList with
           | some i,some vs=>match UL P T e len i vs&&QP N o.dst with
             | true=>E3 N ops [] k l (A.put o.dst (.sl true vs)) K
             | false=>False
           | _,_=>False
         | _=>False
       | _=>False
     | .N4 bs k=>match o.op with
       | .convert src dst x=>match zd P src&&isStr P dst&&QP N o.dst,Qz A x with
         | true,some (C,ys)=>C/\ys=bs.map w3/\E3 N ops [] k l (A.put o.dst (sV bs)) K
         | _,_=>False
       | _=>False
     | .sb bs k=>match o.op,o.dst with
       | .convert src dst x,some d=>match isStr P src&&zd P dst&&Nat.blt d N with
         | true=>A.ev x=sV bs/\∀ g c,E3 N ops [] (k g c) l (A.put (some d) (.own 1 (bs.map w3) g 0 c)) K
         | false=>False
       | _,_=>False
     | .mm k=>match o.op with
       | .call ⟨.builtin b,⟨[x,y]⟩,_⟩=>match A.ev x,A.ev y,QP N o.dst,b with
         | .lit (.int kd p),.lit (.int Ty q),true,.max=>Ty=kd/\E3 N ops [] k l (A.put o.dst (.lit (.int kd (max p q)))) K
         | .lit (.int kd p),.lit (.int Ty q),true,.min=>Ty=kd/\E3 N ops [] k l (A.put o.dst (.lit (.int kd (min p q)))) K
         | _,_,_,_=>False
       | _=>False
     | .rs k=>match o.op,o.dst with
       | .assign x,some i=>match A.ev x,A.get i,Nat.blt i N with
         | .hd (.slot i') [] L3 g' o' lo n c',.own sz xs g o1 c,true=>(i',L3,g',o')=(i,sz,g,o1)/\(lo+n<=xs.length/\lo+c'<=c/\V.ax xs=false)/\
          E3 N ops [] k l (A.put (some i) (.own sz ((xs.drop lo).take n) g (o1+lo*sz) c')) K
         | _,_,_=>False
       | _,_=>False
     | _=>False
section
variable {P:Program} {N:Nat} {ops:Array Oper} {A A' A1 B:AS}
variable {w:World} {Pb Kb:Nat->Prop} {a:Act} {F:l9->List Nat}
theorem AA{x:Hint}{A:AS}{K:AS->Prop}(h:yB N x A K):Hx N A K:=by
 unfold yB at h;split at h;split at h;rename_i e1 e2;exact Kp _ _ (bF e1) e2 h;exact h.elim;split at h;rename_i e1;exact MK _ (bF e1) h;exact h.elim;split at h;rename_i e1;split at h;rename_i e2;exact Eb _ e1 (by simpa using e2) h;exact h.elim;exact h.elim;split at h;rename_i e1;split at h;rename_i e2;split at h;rename_i e3;simp only[Zao,Bool.not_eq_true',beq_eq_false_iff_ne]at e3;obtain⟨hq,h⟩:=h;simp only[Zaq]at hq;obtain⟨rfl,rfl,rfl,rfl,hn⟩:=hq;exact GZ (bF e3.1.1) (bF e3.1.2) e3.2 e1 e2 hn h;exact h.elim;exact h.elim;exact h.elim;split at h;rename_i e1;simp only[Zao]at e1;exact Fh (bF e1.1) e1.2 h;exact h.elim;exact KG _ h.1 h.2;split at h;rename_i e1;obtain⟨rfl,h⟩:=h;exact KM _ e1 h;exact h.elim;exact IS h.1 h.2.1 h.2.2;split at h;rename_i e1 e2;exact NI e1 e2 h;exact h.elim;split at h;rename_i e1;exact zk e1 h;exact h.elim;exact zk h.1 h.2;split at h;rename_i e1;exact DY e1 h.1 rfl h.2;exact h.elim;obtain⟨h1,h⟩:=h;split at h;rename_i e2;exact Eb _ h1 (by simpa using e2) h;exact h.elim;split at h;rename_i e1;exact EU e1 h.1 rfl h.2;exact h.elim
theorem kN:∀ (s:Sc P) {A:AS} {K:AS->Sc P->Prop},Rt N s A K->Hx N A fun B=> ∃ s',K B s':=by
 intro s;induction s with
 | h x k ih=>intro A K h;exact(AA h).bind fun B hB=>ih hB
 | ot t k ih=>
   intro A K h;simp only[Rt]at h;split at h;rename_i e1 e2;exact(Bm (bF e1) e2 (K:=fun B=>Hx N B fun B=> ∃ s',K B s') fun g o c=>ih g o c (h g o c)).bind fun _ hB=>hB;exact h.elim
 | oR r p k ih=>
   intro A K h;simp only[Rt]at h;split at h;rename_i e1;exact(qq e1 (K:=fun B=>Hx N B fun B=> ∃ s',K B s') fun g o c=>ih g o c (h g o c)).bind fun _ hB=>hB;exact h.elim
 | ex X post k ih=>
   intro A K h;obtain⟨⟨x,hx⟩,h⟩:=h;exact ih x (h x hx)
 | QV r p g0 o0 sz xs k ih=>
   intro A K h;exact(qq h.1 (K:=fun B=>Hx N B fun B=> ∃ s',K B s') fun g o c=>ih g o c (h.2 g o c)).bind fun _ hB=>hB
 | _=>intro A K h;exact Hx.of ⟨_,h⟩
theorem hX{T T2:Nat}{t:TI}(h:lV P T T2=some t):∃ e e2,tD P T=some (.sl e)/\tD P T2=some (.sl e2)/\ti P e=some t/\X5 P e t.sz=true/\0<t.sz/\0<t.N4:=by
 unfold lV at h;split at h;rename_i e e2 h1 h2;split at h;rename_i t' h3;split at h;rename_i h4;simp only[Zan]at h;subst h;simp only[Zao]at h4;exact⟨e,e2,h1,h2,h3,h4.1.1,bF h4.1.2,bF h4.2⟩;simp at h;simp at h;simp at h
theorem wJ{T:Nat}(h:zd P T=true):∃ e,tD P T=some (.sl e)/\tD P e=some (.int .u8):=by
 unfold zd at h;split at h;rename_i e h1;split at h;rename_i h2;exact⟨e,h1,h2⟩;simp at h;simp at h
theorem tJ{T:Nat}(h:isStr P T=true):tD P T=some .str:=by
 unfold isStr at h;split at h;rename_i h1;exact h1;simp at h
theorem ES:∀ (s:Sc P) {gt:GT} {l:List Oper} {A:AS} {K:AS->Sc P->Prop},E3 N ops gt s l A K->(hg:UM ops gt A:=by exact DT)->WL P N ops l A fun B=> ∃ s',K B s':=by
 intro s;induction s with
 | nil=>
   intro gt l A K h K9;cases l with
   | nil=>exact⟨_,h⟩
   | cons o l=>simp only[E3]at h;split at h <;> exact h.elim
 | r n A4 k ih=>
   intro gt l A K h K9;cases l with
   | nil=>exact⟨_,h⟩
   | cons o l=>
     simp only[E3]at h;split at h;rename_i C A' gt1 e;obtain⟨h1,h2⟩:=kz.1 h;obtain⟨⟨C1,e1,e2⟩,e3⟩:=rX n e K9 h1;exact pa n e1 e2 (ih h2 e3);exact h.elim
 | cg c k ih=>
   intro gt l A K h K9;cases l with
   | nil=>exact⟨_,h⟩
   | cons o l=>
     obtain⟨dst,op,ty,pos,after,D4⟩:=o;simp only[E3]at h;split at h;rename_i _ _ f xs M6 j b;split at h;rename_i G h1 h2 h3;revert h;cases hu:SA G (j,b) gt xs.toList A with | mk C0 B=>?_
     intro h;obtain⟨RZ,h⟩:=kz.1 h;obtain⟨C1,u1,u2⟩:=jH xs.toList (fun t ht c v hv=>by have:=K9 _ ht c v hv;rw[h3]at this;exact(Option.some.inj this).symm) hu RZ;simp only[Zao,Zbl,Bool.not_eq_true']at h1;obtain⟨⟨⟨⟨h1,h4⟩,h5⟩,h6⟩,h7⟩:=h1;subst h1;refine Gt (dV h4) h3 u1 h5 rfl (fun hG=>⟨u2,?_,h6,h7⟩) (ih h.2 (IX K9 h3));obtain⟨TU,hw⟩:=h.1 hG;have hc:=c.ok TU;rw[h2]at hc;have hp:=hc.DB;refine⟨hp.1,fun w Pb cargs k1 k2=>?_⟩;refine(hp.2 w Pb cargs k1 (by have:=oW _ c.args k2;rw[hw]at this;exact this)).mono ?_;rintro e w' ⟨r,x,F,Pb',rfl,⟨H,q1,_⟩,rest⟩;exact⟨r,x,F,Pb',rfl,by rw[q1],rest⟩;exact h.elim;exact h.elim
 | ex X post k ih=>
   intro gt l A K h K9;cases l with
   | nil=>exact⟨_,h⟩
   | cons o l=>
     simp only[E3]at h;obtain⟨⟨x,hx⟩,h⟩:=h;exact ih x (h x hx)
 | QV r p g0 o0 sz xs k ih=>
   intro gt l A K h K9;cases l with
   | nil=>exact⟨_,h⟩
   | cons o l=>
     simp only[E3]at h;split at h;exact h.elim;rename_i hg;exact sD hg (qq h.1 fun g o1 c=>ih g o1 c (h.2 g o1 c))
 | cu c k ih=>
   intro gt l A K h K9;cases l with
   | nil=>exact⟨_,h⟩
   | cons o l=>
     obtain⟨dst,op,ty,pos,after,D4⟩:=o;simp only[E3]at h;split at h;exact h.elim;rename_i hg;show F9 P N _ A _;exact c.ok rfl h.1 fun x=>ih x (h.2 x)
 | bo k ih=>
   intro gt l A K h K9;cases l with
   | nil=>exact⟨_,h⟩
   | cons o l=>
     obtain⟨dst,op,ty,pos,after,D4⟩:=o;simp only[E3]at h;split at h;exact h.elim;show F9 P N _ A _;split at h;split at h;rename_i e e1;split at h;rename_i i vs e2 e3;split at h;rename_i e4;simp only[Zao]at e4;exact Bh rfl rfl (bF e4.1.2) e1 e2 e3 e4.1.1 (bF e4.2) fun g=>ih g (h g);exact h.elim;exact h.elim;exact h.elim;exact h.elim
 | YN xs g0 o0 k ih=>
   intro gt l A K h K9;cases l with
   | nil=>exact⟨_,h⟩
   | cons o l=>
     obtain⟨dst,op,ty,pos,after,D4⟩:=o;simp only[E3]at h;split at h;exact h.elim;show F9 P N _ A _;split at h;split at h;rename_i t e1 e2;split at h;rename_i e3 e4;simp only[Zao,Zbl]at e1;obtain⟨⟨k1,k2,k3⟩,k4,k5,k6,k7,k8⟩:=h;obtain⟨e,e',q1,q2,q3,q4,q5,q6⟩:=hX e2;exact zO rfl e1.1 rfl (bF e1.2) q1 q2 q3 (kQ q4) q5 q6 e3 k1 k2 k3 e4 k4 k5 k6 k7 fun g o1 c=>ih g o1 c (k8 g o1 c);exact h.elim;exact h.elim;exact h.elim
 | sp b a1 a2 Xt Xs=>
   intro gt l A K h K9;cases l with
   | nil=>exact⟨_,h⟩
   | cons o l=>
     simp only[E3]at h;cases b with
     | true=>exact Xt (h.1 rfl)
     | false=>exact Xs (h.2 rfl)
 | gt k ih=>
   intro gt l A K h K9;cases l with
   | nil=>exact⟨_,h⟩
   | cons o l=>
     obtain⟨dst,op,ty,pos,after,D4⟩:=o;simp only[E3]at h;split at h;rename_i j b;split at h;rename_i G hG;exact nK rfl hG (fun _=>ih h.2) (fun hf=>by rw[h.1]at hf;cases hf);exact h.elim;exact h.elim
 | gf v k ih=>
   intro gt l A K h K9;cases l with
   | nil=>exact⟨_,h⟩
   | cons o l=>
     obtain⟨dst,op,ty,pos,after,D4⟩:=o;simp only[E3]at h;split at h;rename_i j b;split at h;rename_i G hG hd;exact nK rfl hG (fun ht=>by rw[h.1]at ht;cases ht) (fun _=>⟨dV hd,.gv false v,fun _ _=>⟨rfl,⟨(fun hh=>Bool.noConfusion hh),fun _=>rfl⟩⟩,ih h.2⟩);exact h.elim;exact h.elim
 | cl c k ih=>
   intro gt l A K h K9;cases l with
   | nil=>exact⟨_,h⟩
   | cons o l=>
     obtain⟨dst,op,ty,pos,after,D4⟩:=o;simp only[E3]at h;split at h;exact h.elim;show F9 P N _ A _;split at h;split at h;rename_i C vs e1 e2 e3;simp only[Zao,Zbl]at e1;obtain⟨⟨rfl,e1⟩,e4⟩:=e1;obtain⟨k1,k2,k3,k4⟩:=h;have hc:=c.ok k3;rw[e2]at hc;have hp:=hc.DB;refine GK (Q:=fun r=>r=c.res) rfl (dV e1) ⟨hp.1,fun w Pb cargs q1 q2=>?_⟩ e3 k1 k2 (fun r hr=>by rw[hr];exact e4) (fun r hr=>by rw[hr];exact ih k4);refine(hp.2 w Pb cargs q1 q2).mono ?_;rintro e w' ⟨r,x,F,Pb',rfl,⟨H,q,_⟩,rest⟩;exact⟨r,x,F,Pb',rfl,q,rest⟩;exact h.elim;exact h.elim
 | h x k ih=>
   intro gt l A K h K9;cases l with
   | nil=>exact⟨_,h⟩
   | cons o l=>
     simp only[E3]at h;split at h;exact h.elim;rename_i hg;exact sD hg ((AA h).mono fun B hB=>ih hB)
 | ot t k ih=>
   intro gt l A K h K9;cases l with
   | nil=>exact⟨_,h⟩
   | cons o l=>
     simp only[E3]at h;split at h;exact h.elim;rename_i hg;split at h;rename_i e1 e2;exact sD hg (Bm (bF e1) e2 fun g o1 c=>ih g o1 c (h g o1 c));exact h.elim
 | oR r p k ih=>
   intro gt l A K h K9;cases l with
   | nil=>exact⟨_,h⟩
   | cons o l=>
     simp only[E3]at h;split at h;exact h.elim;rename_i hg;split at h;rename_i e1;exact sD hg (qq e1 fun g o1 c=>ih g o1 c (h g o1 c));exact h.elim
 | mv k ih=>
   intro gt l A K h K9;cases l with
   | nil=>exact⟨_,h⟩
   | cons o l=>
     obtain⟨dst,op,ty,pos,after,D4⟩:=o;simp only[E3]at h;split at h;exact h.elim;show F9 P N _ A _;split at h;split at h;rename_i e;exact Dc rfl (dV e) (ih h);exact h.elim;split at h;rename_i d vs e1;split at h;rename_i v e2;split at h;rename_i e3;simp only[Zao,Bool.not_eq_true',beq_eq_false_iff_ne]at e3;exact yl rfl rfl (bF e3.1.1.1) (bF e3.1.1.2) e3.1.2 e1 e2 e3.2 (ih h);exact h.elim;exact h.elim;exact h.elim;split at h;rename_i d i r p g g' e1 e2;split at h;rename_i g2 Va u e3;split at h;rename_i e4;simp only[Zao,Zbl]at e4;obtain⟨hq,h⟩:=h;simp only[Zaq]at hq;obtain⟨rfl,rfl⟩:=hq;exact vP rfl rfl (bF e4.1.1) e1 e2 e3 e4.1.2 e4.2 (ih h);exact h.elim;exact h.elim;exact h.elim;exact h.elim
 | c c ks k ih=>
   intro gt l A K h K9;cases l with
   | nil=>exact⟨_,h⟩
   | cons o l=>
     obtain⟨dst,op,ty,pos,after,D4⟩:=o;simp only[E3]at h;split at h;exact h.elim;show F9 P N _ A _;split at h;split at h;rename_i vs B e1 e2;split at h;rename_i e3;simp only[Zao,Zbl]at e3;obtain⟨⟨⟨⟨h1,h2⟩,h3⟩,h4⟩,h5⟩:=e3;subst h1;obtain⟨k1,h⟩:=h;obtain⟨k2,k3,k4⟩:=jn h;refine nX ks rfl e1 (dV h2) h3 h4 (c.ok k3) (by rw[e2];exact k1) (by rw[e2];exact h5) (by rw[e2];exact k2) ?_;rintro r H' ⟨rfl,rfl⟩;rw[e2];exact ih k4;exact h.elim;exact h.elim;exact h.elim
 | cx c ks k ih=>
   intro gt l A K h K9;cases l with
   | nil=>exact⟨_,h⟩
   | cons o l=>
     obtain⟨dst,op,ty,pos,after,D4⟩:=o;simp only[E3]at h;split at h;exact h.elim;show F9 P N _ A _;split at h;split at h;rename_i vs B e1 e2;split at h;rename_i e3;simp only[Zao,Zbl]at e3;obtain⟨⟨⟨⟨h1,h2⟩,h3⟩,h4⟩,h5⟩:=e3;subst h1;obtain⟨k1,h⟩:=h;obtain⟨k2,k3,k4⟩:=jn h;refine nX ks rfl e1 (dV h2) h3 h4 (c.ok k3) (by rw[e2];exact k1) (by rw[e2];exact h5) (by rw[e2];exact k2) ?_;rintro r H' ⟨x,hx,rfl,rfl⟩;rw[e2];exact ih x (k4 x hx);exact h.elim;exact h.elim;exact h.elim
 | al z k ih=>
   intro gt l A K h K9;cases l with
   | nil=>exact⟨_,h⟩
   | cons o l=>
     obtain⟨dst,op,ty,pos,after,D4⟩:=o;simp only[E3]at h;split at h;exact h.elim;show F9 P N _ A _;split at h;split at h;rename_i e;simp only[Zao,Zbl]at e;obtain⟨rfl,e⟩:=e;exact ra rfl rfl (bF e) z.ok fun g=>ih g (h g);exact h.elim;exact h.elim
 | bx k ih=>
   intro gt l A K h K9;cases l with
   | nil=>exact⟨_,h⟩
   | cons o l=>
     obtain⟨dst,op,ty,pos,after,D4⟩:=o;simp only[E3]at h;split at h;exact h.elim;show F9 P N _ A _;split at h;split at h;rename_i e;simp only[Zao]at e;exact Ke rfl rfl (bF e.1) e.2 fun g=>ih g (h g);exact h.elim;exact h.elim
 | st old k ih=>
   intro gt l A K h K9;cases l with
   | nil=>exact⟨_,h⟩
   | cons o l=>
     obtain⟨dst,op,ty,pos,after,D4⟩:=o;simp only[E3]at h;split at h;exact h.elim;show F9 P N _ A _;split at h;split at h;rename_i i r p g g' e1 e2;split at h;split at h;rename_i g2 Va u e3;split at h;rename_i e4;simp only[Zao,Zbl]at e4;obtain⟨hq,h⟩:=h;simp only[Zaq]at hq;obtain⟨rfl,rfl⟩:=hq;exact qM rfl rfl e1 e2 e3 e4.1.1 e4.1.2 e4.2 (ih h);exact h.elim;exact h.elim;split at h;rename_i u e4;simp only[Zao,Zbl]at e4;exact qM rfl rfl e1 e2 h.1 e4.1.1 e4.1.2 e4.2 (ih h.2);exact h.elim;exact h.elim;exact h.elim
 | ap k ih=>
   intro gt l A K h K9;cases l with
   | nil=>exact⟨_,h⟩
   | cons o l=>
     obtain⟨dst,op,ty,pos,after,D4⟩:=o;simp only[E3]at h;split at h;exact h.elim;show F9 P N _ A _;split at h;split at h;rename_i t e1 e2;split at h;rename_i e3 e4;simp only[Zao,Zbl]at e1;obtain⟨k1,k2,k3,k4,k5,k6⟩:=h;obtain⟨e,e',q1,q2,q3,q4,q5,q6⟩:=hX e2;exact wQ rfl e1.1 rfl (bF e1.2) q1 q2 q3 (kQ q4) q5 q6 e3 k1 e4 k2 k3 k4 k5 fun g o1 c=>ih g o1 c (k6 g o1 c);rename_i e3 e4;split at h;rename_i e5;simp only[Zao,Zbl]at e1;obtain⟨k1,k2,k3,k4,k5,k6⟩:=h;obtain⟨e,e',q1,q2,q3,q4,q5,q6⟩:=hX e2;exact zK rfl e1.1 rfl (bF e1.2) q1 q2 q3 (kQ q4) q5 q6 e5 k1.1 k1.2 e4 k2 k3 k4 k5 fun g o1 c=>ih g o1 c (k6 g o1 c);exact h.elim;exact h.elim;exact h.elim;exact h.elim
 | bd z k ih=>
   intro gt l A K h K9;cases l with
   | nil=>exact⟨_,h⟩
   | cons o l=>
     obtain⟨dst,op,ty,pos,after,D4⟩:=o;simp only[E3]at h;split at h;exact h.elim;split at h;split at h;rename_i zs e1 e2;split at h;rename_i v e3;simp only[Zao,Zbl]at e1;obtain⟨rfl,e1⟩:=e1;have hz:=z.ok;rw[e2]at hz;exact Gx zs v hz (dV e1) e3 (ih h);exact h.elim;exact h.elim;exact h.elim
 | bs k ih=>
   intro gt l A K h K9;cases l with
   | nil=>exact⟨_,h⟩
   | cons o l=>
     obtain⟨dst,op,ty,pos,after,D4⟩:=o;simp only[E3]at h;split at h;exact h.elim;split at h;split at h;rename_i e e1;split at h;rename_i i vs e2 e3;split at h;rename_i e4;simp only[Zao]at e4;exact yj e i vs ⟨e1,e2⟩ (dV e4.2) e3 e4.1 (ih h);exact h.elim;exact h.elim;exact h.elim;exact h.elim
 | N4 bs k ih=>
   intro gt l A K h K9;cases l with
   | nil=>exact⟨_,h⟩
   | cons o l=>
     obtain⟨dst,op,ty,pos,after,D4⟩:=o;simp only[E3]at h;split at h;exact h.elim;split at h;split at h;rename_i C ys e1 e2;simp only[Zao]at e1;obtain⟨hC,rfl,h⟩:=h;obtain⟨e,q1,q2⟩:=wJ e1.1.1;exact AJ e C bs ⟨q1,q2,tJ e1.1.2⟩ (dV e1.2) e2 hC (ih h);exact h.elim;exact h.elim
 | sb bs k ih=>
   intro gt l A K h K9;cases l with
   | nil=>exact⟨_,h⟩
   | cons o l=>
     obtain⟨dst,op,ty,pos,after,D4⟩:=o;simp only[E3]at h;split at h;exact h.elim;split at h;split at h;rename_i e1;simp only[Zao]at e1;obtain⟨e,q1,q2⟩:=wJ e1.1.2;exact AT e bs ⟨tJ e1.1.1,q1,q2⟩ (bF e1.2) h.1 fun g c=>ih g c (h.2 g c);exact h.elim;exact h.elim
 | mm k ih=>
   intro gt l A K h K9;cases l with
   | nil=>exact⟨_,h⟩
   | cons o l=>
     obtain⟨dst,op,ty,pos,after,D4⟩:=o;simp only[E3]at h;split at h;exact h.elim;split at h;split at h;rename_i kd p Ty q e1 e2 e3;obtain⟨rfl,h⟩:=h;exact Lt _ p q (dV e3) e1 e2 (ih h);rename_i kd p Ty q e1 e2 e3;obtain⟨rfl,h⟩:=h;exact LL _ p q (dV e3) e1 e2 (ih h);exact h.elim;exact h.elim
 | rs k ih=>
   intro gt l A K h K9;cases l with
   | nil=>exact⟨_,h⟩
   | cons o l=>
     obtain⟨dst,op,ty,pos,after,D4⟩:=o;simp only[E3]at h;split at h;exact h.elim;split at h;split at h;rename_i e1 e2 e3;obtain⟨hq,⟨h1,h2,h3⟩,h⟩:=h;simp only[Zaq]at hq;obtain⟨rfl,rfl,rfl,rfl⟩:=hq;exact Dp _ _ _ _ (bF e3) e1 e2 h1 h2 h3 (ih h);exact h.elim;exact h.elim
 | _=>
   intro gt l A K h K9;cases l with
   | nil=>exact⟨_,h⟩
   | cons o l=>simp only[E3]at h;split at h <;> exact h.elim
end
section
variable {P:Program} {N:Nat} {ops:Array Oper} {A A' A1 B:AS}
def nN(P:Program)(N:Nat)(ops:Array Oper)(o:Oper)(A:AS)(v:V):Prop:=
 ∀ A':AS,(∀ t,t∈o.looksAt ops->A'.get t=A.get t)->gd ops o A' (F9 P N o A' (fun B=>D' B (A'.put o.dst v))) (cB N o.dst/\∀ w Pb,RV w Pb v undef [])
def Oc(ops:Array Oper)(Sl Hl:List Nat)(A:AS):Op->Bool
 | .load _ x=>match A.ev x with
   | .ptr (.slot i) _ _ _=>ops.toList.all (fun o=>o.dst != some i)&&!Sl.contains i
   | .ptr (.key k) _ _ _=>!Hl.contains k
   | _=>true
 | _=>true
theorem zj{o:Oper}{x:Operand}(hg:o.guard=none)(ho:o.op=.assign x)(hd:cB N o.dst)(hn:(A.ev x).df=false):nN P N ops o A (A.ev x):=by
 intro A' h1;unfold gd;rw[hg];simp only;have e1:A'.ev x=A.ev x:=bp fun t ht=>h1 t (dX (by rw[ho,ht];simp[Op.operands]));have e2:A'.drop x=A':=by
  cases x with
  | tmp t=>
    have e3:A'.get t=A.get t:=e1;have VW:(A.get t).df=false:=hn;simp[AS.drop,e3,VW]
  | _=>rfl
 rw[<- e1];refine uV ho hd ?_;rw[e2];exact⟨fun _=>rfl,fun _=>rfl⟩
theorem Dn{d:Option Nat} {f:FuncId} {xs:Array Operand} {M6:Array TypeId} {ty:TypeId} {pos:String} {after:Array Edge}
 {Q:V->Prop} {E:V} (hd:cB N d) (hc:PC P f (xs.toList.map A.cp) Q) (hE:∀ r,Q r->r.er=E):
 nN P N ops ⟨d,.call { callee:=.value (.func f),args:=xs,argTypes:=M6 },ty,pos,after,none⟩ A E:=fun A' h1=>by
 unfold gd;refine oD rfl hd ?_ hE ⟨fun _=>rfl,fun _=>rfl⟩;rw[ry fun t ht=>h1 t (dX (by simp[Op.operands,Call.operands];simpa using ht))];exact hc
theorem um{d:Option Nat} {T len ty:Nat} {c9:Array (Nat×Operand)} {pos:String} {after:Array Edge} (e:Nat) (i:TI) (vs:List V)
 (TG:tD P T=some (.sl e)/\ti P e=some i) (hd:cB N d) (TF:eX A 0 c9.toList=some vs) (hB:UL P T e len i vs=true):
 nN P N ops ⟨d,.buildSlice T len c9,ty,pos,after,none⟩ A (.sl true vs):=fun A' h1=>by
 show F9 P N _ A' _;refine DX rfl hd TG.1 TG.2 ?_ hB ⟨fun _=>rfl,fun _=>rfl⟩;rw[oH (A:=A) _ _ (fun t ht=>h1 t (dX (by simpa[Op.operands] using ht)))];exact TF
theorem AO{d:Option Nat} {T ty:Nat} {c9:Array (Nat×Operand)} {pos:String} {after:Array Edge} (zs:List V) (v:V)
 (hz:nt P T (.agg zs)) (hd:cB N d) (hb:iU P A T zs c9.toList=some v):nN P N ops ⟨d,.build T c9,ty,pos,after,none⟩ A v:=fun A' h1=>by
 show F9 P N _ A' _;have e:iU P A' T zs c9.toList=some v:=by
  rw[<- hb];unfold iU;have:(c9.toList.map fun (i,x)=>(i,A'.cp x))=c9.toList.map fun (i,x)=>(i,A.cp x):=by
   apply List.map_congr_left;rintro⟨i,x⟩ hx;simp only;rw[jU (x:=x) fun t ht=>h1 t (dX (by
    subst ht;simp only[Op.operands,List.mem_map];exact⟨(i,.tmp t),hx,rfl⟩))]
  rw[this]
 obtain⟨C,k1,k2⟩:=rH e;exact yb rfl hd hz k1 k2 ⟨fun _=>rfl,fun _=>rfl⟩
theorem wA{d:Option Nat} {src dst ty:Nat} {x:Operand} {pos:String} {after:Array Edge} (e:Nat) (full:Bool) (bs:BL)
 (ht:tD P src=some (.sl e)/\tD P e=some (.int .u8)/\tD P dst=some .str) (hd:cB N d) (hx:A.ev x=.sl full (bs.map w3)):
 nN P N ops ⟨d,.convert src dst x,ty,pos,after,none⟩ A (sV bs):=fun A' h1=>by
 show F9 P N _ A' _;have e1:A'.ev x=.sl full (bs.map w3):=by rw[<- hx];exact bp fun t ht=>h1 t (dX (by rw[ht];simp[Op.operands]))
 exact rI rfl hd ht.1 ht.2.1 ht.2.2 (C:=True) (by simp only[Qz,e1]) trivial ⟨fun _=>rfl,fun _=>rfl⟩
def iR(b:Option (Sum Nat (Nat×List Nat)))(B:AS):AS:=match b with
 | none=>B
 | some (.inl t)=>B.put (some t) .b9
 | some (.inr (k,p))=>B.setAt (.key k) p .b9
def X1(A:AS)(s:Operand)(sz:Nat):Option (Prop×Option (Sum Nat (Nat×List Nat))×List V):=
 match s with
 | .const (.slice none 0 0)=>some (True,none,[])
 | .tmp t=>match A.get t with
   | .sl true []=>some (True,none,[])
   | .own L3 xs _ _ _=>some (L3=sz,some (.inl t),xs)
   | .hd (.slot i) [] L3 g o 0 n c=>match A.get i with
     | .own PK xs g2 o2 c2=>some ((L3,PK,g2,o2,c2,n)=(sz,sz,g,o,c,xs.length),some (.inl i),xs)
     | _=>none
   | .hd (.key k) p L3 g o 0 n c=>match A.at (.key k) p with
     | some (_,_,.own PK xs g2 o2 c2)=>some ((L3,PK,g2,o2,c2,n)=(sz,sz,g,o,c,xs.length),some (.inr (k,p)),xs)
     | _=>none
   | _=>none
 | _=>none
theorem Jm{s:Operand}{sz:Nat}{C:Prop}{b:Option (Sum Nat (Nat×List Nat))}{xs:List V}(h:X1 A s sz=some (C,b,xs)):Wm A s sz=some (C,iR b A,xs):=by
 have fin:∀ {C':Prop} {b':Option (Sum Nat (Nat×List Nat))} {xs':List V},some (C',b',xs')=some (C,b,xs)->some (C',iR b' A,xs')=some (C,iR b A,xs):=fun h=>by
  have h:=Option.some.inj h;have h1:=(Prod.mk.inj h).1;have h2:=(Prod.mk.inj (Prod.mk.inj h).2).1;have h3:=(Prod.mk.inj (Prod.mk.inj h).2).2;rw[h1,h2,h3]
 unfold X1 at h;unfold Wm;split at h;exact fin h;split at h;rename_i e;(try simp only[e]);exact fin h;rename_i e;(try simp only[e]);exact fin h;rename_i e;(try simp only[e]);split at h;rename_i e2;(try simp only[e2]);exact fin h;simp at h;rename_i e;(try simp only[e]);split at h;rename_i e2;(try simp only[e2]);exact fin h;simp at h;simp at h;simp at h
def oP(s:Operand)(Sl El Hl:List Nat):Option (Sum Nat (Nat×List Nat))->Bool
 | none=>true
 | some (.inl t)=>Sl.contains t&&(match s with | .tmp q=>q==t||El.contains t | _=>false)
 | some (.inr (k,_))=>Hl.contains k
theorem EI{s:Operand} {sz:Nat} {C:Prop} {b:Option (Sum Nat (Nat×List Nat))} {xs:List V} {Sl El Hl:List Nat} (h:X1 A s sz=some (C,b,xs)) (hb:oP s Sl El Hl b=true)
 (h1:∀ t,s=.tmp t->A'.get t=A.get t) (h2:∀ t,t∈El->A'.get t=A.get t) (h3:∀ k,lk k A'.h=lk k A.h):X1 A' s sz=some (C,b,xs):=by
 unfold X1 at h ⊢;split at h;exact h;rename_i t;have hg:=h1 t rfl;have hk:∀ k p,A'.at (.key k) p=A.at (.key k) p:=fun k p=>by simp only[AS.at,h3]
 simp only[hg,hk];split at h;exact h;exact h;rename_i i L3 g o n c e;split at h;rename_i PK xs2 g2 o2 c2 e2;have:A'.get i=A.get i:=by
  simp only[Zan]at h;obtain⟨_,h⟩:=Prod.mk.inj h;obtain⟨rfl,_⟩:=Prod.mk.inj h;simp only[oP,Zao,Bool.or_eq_true,Zbl]at hb;rcases hb.2 with q | q;rw[<- q];exact hg;exact h2 i (by simpa using q)
 simp only[this,e2];exact h;simp at h;exact h;simp at h;simp at h
def CV(P:Program)(N:Nat)(Sl El Hl:List Nat)(o:Oper)(A:AS)(z:Option (ZT P)):Option (Prop×(Nat×Nat×Nat->AS->AS)):=
 match o.op,o.dst with
 | .alloc T,some d=>match z with
   | some z=>match T==z.T&&Nat.blt d N&&Sl.contains d&&Hl.contains d with
     | true=>some (True,fun gh B=>⟨(d,.ptr (.key d) [] gh.1 0)::B.t,(d,(gh.1,z.v))::B.h⟩)
     | false=>none
   | none=>none
 | .call ⟨.builtin .append,⟨[s,x]⟩,⟨[T,T2]⟩⟩,some d=>match o.type==T&&Nat.blt d N&&Sl.contains d,lV P T T2 with
   | true,some t=>match X1 A s t.sz,A.ev x with
     | some (C,b,xs),.sl _ ys=>match oP s Sl El Hl b with
       | true=>some (C/\V.ax ys=false/\aS t.sz ys/\(xs.length+ys.length)*t.N4<=140737488355328,fun gh B=>(iR b B).put (some d) (.own t.sz (xs++ys) gh.1 gh.2.1 gh.2.2))
       | false=>none
     | none,.sl _ ys=>match Xc A s t.sz with
       | some (C,xs)=>some ((C/\0<ys.length)/\V.ax ys=false/\aS t.sz ys/\(xs.length+ys.length)*t.N4<=140737488355328,fun gh B=>B.put (some d) (.own t.sz (xs++ys) gh.1 gh.2.1 gh.2.2))
       | none=>none
     | _,_=>none
   | _,_=>none
 | .load T x,some d=>match ti P T,A.ev x with
   | some i,.ptr (.key k) p g g'=>match A.at (.key k) p with
     | some (g2,Va,u)=>match Nat.blt d N&&u.n==i.sz&&i.d.agg==u.isAgg&&Sl.contains d&&Hl.contains k with
       | true=>some ((g2,Va)=(g,g'),fun _ B=>(B.setAt (.key k) p u.kill).put (some d) u)
       | false=>none
     | none=>none
   | _,_=>none
 | _,_=>none
theorem bD{k:Nat}{p:List Nat}{v:V}{t:Nat}:(B.setAt (.key k) p v).get t=B.get t:=by
 simp only[AS.setAt];split <;> rfl
theorem pG{k q:Nat}{p:List Nat}{v:V}(h:q≠k):lk q (B.setAt (.key k) p v).h=lk q B.h:=by
 simp only[AS.setAt];split;simp only[lk];rw[if_neg h];rfl
theorem fM{k q:Nat}{p:List Nat}{v:V}{B':AS}(h:∀ k,lk k B.h=lk k B'.h):lk q (B.setAt (.key k) p v).h=lk q (B'.setAt (.key k) p v).h:=by
 simp only[AS.setAt];rw[<- h k];split;simp only[lk];split;rfl;exact h q;exact h q
theorem mM{B C:AS}{d:Option Nat}{v:V}(h:D' B C):D' (B.put d v) (C.put d v):=by
 cases d with
 | none=>exact h
 | some d'=>exact⟨fun t=>by rw[AS.aB,AS.aB];split
                            rfl;exact h.1 t,h.2⟩
theorem mw{k k0:Nat}{p:List Nat}{v:V}{gv:Nat×V}(h:k≠k0):D' (AS.setAt ⟨B.t,(k,gv)::B.h⟩ (.key k0) p v) ⟨(B.setAt (.key k0) p v).t,(k,gv)::(B.setAt (.key k0) p v).h⟩:=by
 have e:lk k0 ((k,gv)::B.h)=lk k0 B.h:=by simp only[lk];rw[if_neg (Ne.symm h)]
 simp only[AS.setAt,e];split;refine⟨fun _=>rfl,fun x=>?_⟩;simp only[lk];by_cases c:x=k;rw[if_pos c,if_neg (fun c2=>h (c.symm.trans c2)),if_pos c];rw[if_neg c,if_neg c];exact⟨fun _=>rfl,fun _=>rfl⟩
theorem ud{A B:AS}{k:Nat}{gv:Nat×V}{d:Nat}{v:V}(h:D' A ⟨B.t,(k,gv)::B.h⟩):D' (A.put (some d) v) ⟨(B.put (some d) v).t,(k,gv)::(B.put (some d) v).h⟩:=mM h
theorem Ka{Sl El Hl:List Nat}{o:Oper}{z:Option (ZT P)}{C:Prop}{U:Nat×Nat×Nat->AS->AS}(h:CV P N Sl El Hl o A z=some (C,U))(hC:C)(d:Nat)(hd:o.dst=some d):
 UOk U Sl Hl d/\Nw P N ops El U o A:=by
 obtain⟨dst,op,ty,pos,after,D4⟩:=o;simp only at hd;subst hd;unfold CV at h;simp only at h;split at h;rename_i T d' e;simp only[Zan]at e;subst e;split at h;rename_i z;split at h;rename_i e;simp only[Zan,Zaq]at h;obtain⟨_,rfl⟩:=h;simp only[Zao,Zbl,Zbi,Zbk]at e;obtain⟨⟨⟨rfl,e1⟩,e2⟩,e3⟩:=e;refine⟨⟨fun gh B t ht=>?_,fun gh B k hk=>?_,fun gh B B' hB=>⟨fun t=>?_,fun k=>?_⟩,fun gh B t v ht=>⟨fun q=>?_,fun k=>rfl⟩,fun gh B v=>⟨fun q=>?_,fun k=>rfl⟩,fun gh B k gv hq=>?_⟩,fun A' _ _ K hK=>?_⟩;simp only[AS.get,lk];rw[if_neg (fun c=>ht (by rw[c];exact e2))];simp only[lk];rw[if_neg (fun c=>hk (by rw[c];exact e3))];simp only[AS.get,lk];split;rfl;exact hB.1 t;simp only[lk];split;rfl;exact hB.2 k;simp only[AS.put,AS.get,lk];by_cases c:q=d;subst c;rw[if_pos rfl,if_neg (fun c=>ht (by rw[<- c];exact e2)),if_pos rfl];rw[if_neg c,if_neg c];simp only[AS.put,AS.get,lk];by_cases c:q=d;subst c;simp;rw[if_neg c,if_neg c,if_neg c];refine⟨fun _=>rfl,fun x=>?_⟩;simp only[lk];by_cases c:x=d;rw[if_pos c,if_neg (fun c2=>hq (by rw[<- c2,c];exact e3)),if_pos c];rw[if_neg c,if_neg c];exact ra rfl rfl (bF e1) z.ok fun g=>hK (g,0,0);simp at h;simp at h;rename_i s x T T2 d' e;simp only[Zan]at e;subst e;split at h;rename_i t e1 e2;split at h;rename_i Cb b xs fl ys e3 e4;split at h;rename_i e5;simp only[Zan,Zaq]at h;obtain⟨rfl,rfl⟩:=h;simp only[Zao,Zbl,Zbi,Zbk]at e1;obtain⟨⟨rfl,e1⟩,e6⟩:=e1;obtain⟨k1,k3,k4,k5⟩:=hC;have tg:∀ (B:AS) t,t ∉ Sl->(iR b B).get t=B.get t:=fun B t ht=>by
  cases b with
  | none=>rfl
  | some b=>cases b with
    | inl q=>
      simp only[oP,Zao,Zbi,Zbk]at e5;simp only[iR];rw[AS.aB,if_neg (fun c=>ht (by rw[c];exact e5.1))]
    | inr kp=>simp only[iR];exact bD
 have Zt:∀ (B B':AS) t,B.get t=B'.get t->(iR b B).get t=(iR b B').get t:=fun B B' t ht=>by
  cases b with
  | none=>exact ht
  | some b=>cases b with
    | inl q=>simp only[iR];rw[AS.aB,AS.aB,ht]
    | inr kp=>simp only[iR];rw[bD,bD];exact ht
 have th:∀ (B B':AS) k,(∀ k,lk k B.h=lk k B'.h)->lk k (iR b B).h=lk k (iR b B').h:=fun B B' k hk=>by
  cases b with
  | none=>exact hk k
  | some b=>cases b with
    | inl q=>exact hk k
    | inr kp=>exact fM hk
 refine⟨⟨fun gh B q hq=>?_,fun gh B k hk=>?_,fun gh B B' hB=>?_,fun gh B q v hq=>⟨fun q2=>?_,fun k=>th _ _ k fun _=>rfl⟩,fun gh B v=>⟨fun q=>?_,fun k=>th _ _ k fun _=>rfl⟩,fun gh B k gv hq=>?_⟩,fun A' h1 h2 K hK=>?_⟩;rw[AS.aB,if_neg (fun c=>hq (by rw[c];exact e6))];exact tg B q hq;show lk k (iR b B).h=_;cases b with
 | none=>rfl
 | some b=>cases b with
   | inl q=>rfl
   | inr kp=>
     obtain⟨k0,p0⟩:=kp;simp only[oP,Zbi,Zbk]at e5;exact pG (fun c=>hk (by rw[c];exact e5))
 exact mM ⟨fun q=>Zt _ _ q (hB.1 q),fun k=>th _ _ k hB.2⟩;rw[AS.aB,AS.aB,AS.aB];by_cases c:q2=d;subst c;rw[if_pos rfl,if_neg (fun c=>hq (by rw[<- c];exact e6)),if_pos rfl];rw[if_neg c];by_cases c2:q2=q;subst c2;rw[if_pos rfl,tg _ _ hq,AS.aB,if_pos rfl];rw[if_neg c2,if_neg c];exact Zt _ _ _ (by rw[AS.aB,if_neg c2]);rw[AS.aB,AS.aB];by_cases c:q=d;rw[if_pos c,if_pos c];rw[if_neg c,if_neg c];exact Zt _ _ _ (by rw[AS.aB,if_neg c]);refine ud ?_;cases b with
 | none=>exact⟨fun _=>rfl,fun _=>rfl⟩
 | some b=>cases b with
   | inl q=>exact⟨fun _=>rfl,fun _=>rfl⟩
   | inr kp=>
     obtain⟨k0,p0⟩:=kp;simp only[oP,Zbi,Zbk]at e5;exact mw (fun c=>hq (by rw[c];exact e5))
 obtain⟨e,e',q1,q2,q3,q4,q5,q6⟩:=hX e2;have hs:∀ t,s=.tmp t->A'.get t=A.get t:=fun t ht=>h1 t (.inl (dX Zb1));have hx:A'.ev x=A.ev x:=bp fun t ht=>h1 t (.inl (dX Zb1));have Td:=Jm (EI e3 e5 hs (fun t ht=>h1 t (.inr ht)) h2);exact wQ rfl rfl rfl (bF e1) q1 q2 q3 (kQ q4) q5 q6 Td k1 (by unfold Qz;rw[hx,e4]) trivial k3 k4 k5 fun g o1 c=>hK (g,o1,c);simp at h;rename_i fl ys e3 e4;split at h;rename_i C0 xs e5;simp only[Zan,Zaq]at h;obtain⟨rfl,rfl⟩:=h;simp only[Zao,Zbl,Zbi,Zbk]at e1;obtain⟨⟨rfl,e1⟩,e6⟩:=e1;obtain⟨⟨k1,k2⟩,k3,k4,k5⟩:=hC;refine⟨⟨fun gh B q hq=>?_,fun gh B k hk=>rfl,fun gh B B' hB=>mM hB,fun gh B q v hq=>⟨fun q2=>?_,fun k=>rfl⟩,fun gh B v=>⟨fun q=>?_,fun k=>rfl⟩,fun gh B k gv hq=>⟨fun _=>rfl,fun _=>rfl⟩⟩,fun A' h1 h2 K hK=>?_⟩;rw[AS.aB,if_neg (fun c=>hq (by rw[c];exact e6))];rw[AS.aB,AS.aB,AS.aB,AS.aB];by_cases c:q2=d;subst c;rw[if_pos rfl,if_neg (fun c=>hq (by rw[<- c];exact e6)),if_pos rfl];rw[if_neg c,if_neg c];rw[AS.aB,AS.aB,AS.aB];split <;> rfl;obtain⟨e,e',q1,q2,q3,q4,q5,q6⟩:=hX e2;have hs:Xc A' s t.sz=Xc A s t.sz:=by
  cases s with
  | tmp q=>simp only[Xc,h1 q (.inl (dX (by simp[Op.operands,Call.operands])))]
  | _=>rfl
 have hx:A'.ev x=A.ev x:=bp fun t ht=>h1 t (.inl (dX Zb1));exact zK rfl rfl rfl (bF e1) q1 q2 q3 (kQ q4) q5 q6 (by rw[hs];exact e5) k1 k2 (by unfold Qz;rw[hx,e4]) trivial k3 k4 k5 fun g o1 c=>hK (g,o1,c);simp at h;simp at h;simp at h;rename_i T x d' e;simp only[Zan]at e;subst e;split at h;rename_i i k p g g' e1 e2;split at h;rename_i g2 Va u e3;split at h;rename_i e4;simp only[Zan]at h;obtain⟨hq,rfl⟩:=Prod.mk.inj h;subst hq;obtain⟨rfl,rfl⟩:=Prod.mk.inj hC;simp only[Zao,Zbl,Zbi,Zbk]at e4;obtain⟨⟨⟨⟨e4,e5⟩,e6⟩,e7⟩,e8⟩:=e4;refine⟨⟨fun gh B q hq=>?_,fun gh B q hq=>?_,fun gh B B' hB=>?_,fun gh B q v hq=>⟨fun q2=>?_,fun k=>fM fun _=>rfl⟩,fun gh B v=>⟨fun q=>?_,fun k=>fM fun _=>rfl⟩,fun gh B k gv hq=>ud (mw (fun c=>hq (by rw[c];exact e8)))⟩,fun A' h1 h2 K hK=>?_⟩;rw[AS.aB,if_neg (fun c=>hq (by rw[c];exact e7))];exact bD;exact pG (fun c=>hq (by rw[c];exact e8));exact mM ⟨fun q=>by rw[bD,bD];exact hB.1 q,fun k=>fM hB.2⟩;rw[AS.aB,AS.aB,AS.aB];by_cases c:q2=d;subst c;rw[if_pos rfl,if_neg (fun c=>hq (by rw[<- c];exact e7)),if_pos rfl];rw[if_neg c];by_cases c2:q2=q;subst c2;rw[if_pos rfl,bD,AS.aB,if_pos rfl];rw[if_neg c2,if_neg c,bD,bD,AS.aB,if_neg c2];rw[AS.aB,AS.aB];by_cases c:q=d;rw[if_pos c,if_pos c];rw[if_neg c,if_neg c,bD,bD,AS.aB,if_neg c];have hx:A'.ev x=A.ev x:=bp fun t ht=>h1 t (.inl (dX Zb2));exact vP rfl rfl (bF e4) e1 (by rw[hx];exact e2) (by simp only[AS.at,h2];simpa only[AS.at] using e3) e5 e6 (hK (0,0,0));simp at h;simp at h;simp at h;simp at h
end
section
variable {P:Program} {N:Nat} {ops:Array Oper} {A A' A1 B:AS} {sp:Nat} {Sl El Hl:List Nat} {U:Nat×Nat×Nat->AS->AS}
theorem Jv{d:Option Nat}{xs:Array Operand}{M6:Array TypeId}{ty:TypeId}{pos:String}{after:Array Edge}(c:Wo P)(hd:cB N d)(hH:c.H=[])(k1:PW (xs.toList.map A.cp) c.args=c.args)(k2:c.pre):
 nN P N ops ⟨d,.call { callee:=.value (.func c.f),args:=xs,argTypes:=M6 },ty,pos,after,none⟩ A c.res.er:=by
 have hc:=c.ok k2;rw[hH]at hc;have hp:=hc.DB;refine Dn (Q:=fun r=>r=c.res) hd ?_ (fun r hr=>by rw[hr]);refine⟨hp.1,fun w Pb cargs q1 q2=>?_⟩;refine(hp.2 w Pb cargs q1 (by have:=oW _ c.args q2;rw[k1]at this;exact this)).mono ?_;rintro e w' ⟨r,x,F,Pb',rfl,⟨H,q,_⟩,rest⟩;exact⟨r,x,F,Pb',rfl,q,rest⟩
end
def hdP(A:AS)(l:List Nat)(k:Nat):List Nat->Bool
 | [i]=>Nat.blt i 10&&l.contains (hM+(100*k+i))&&(N1 A.h (100*k+i)).isSome
 | [i,j]=>(Nat.blt 0 i&&Nat.blt i 10&&Nat.blt j 10)&&l.contains (hM+(100*k+(10*i+j)))&&(N1 A.h (100*k+(10*i+j))).isSome
 | _=>false
theorem DE{i:Nat}(h:i<10):Tn i=[i]:=if_pos (by simpa[Nat.blt_eq] using h)
theorem Ic{i j:Nat}(h:0<i)(hj:j<10):Tn (10*i+j)=[i,j]:=by
 unfold Tn;rw[if_neg (by rw[Nat.blt_eq];omega),show (10*i+j) / 10=i from Zac,show (10*i+j) % 10=j from Zac]
theorem Mz{A:AS}{l:List Nat}{k:Nat}{p:List Nat}(h:hdP A l k p=true):∃ m,p=Tn m/\m<100/\hM+(100*k+m)∈l/\(N1 A.h (100*k+m)).isSome=true:=by
 unfold hdP at h;split at h;rename_i i;simp only[Zao]at h;have hi:i<10:=by simpa[Nat.blt_eq] using h.1.1
 exact⟨i,(DE hi).symm,Zac,by simpa using h.1.2,h.2⟩;rename_i i j;simp only[Zao]at h;have h1:0<i:=by simpa[Nat.blt_eq] using h.1.1.1.1
 have h2:i<10:=by simpa[Nat.blt_eq] using h.1.1.1.2
 have h3:j<10:=by simpa[Nat.blt_eq] using h.1.1.2
 exact⟨10*i+j,(Ic h1 h3).symm,Zac,by simpa using h.1.2,h.2⟩;cases h
def X'(Hl prom:List Nat):Bool:=Hl.all fun x=>Nat.blt x hM||prom.contains (x-hM)
theorem ve{Hl prom:List Nat}{q:Nat}(h:X' Hl prom=true)(hq:hM+q∈Hl):q∈prom:=by
 have:=Za2.1 h _ hq;rw[Bool.or_eq_true]at this;rcases this with h | h;exfalso;have:hM+q<hM:=by simpa[Nat.blt_eq] using h
 omega;rw[Nat.add_sub_cancel_left]at h;simpa using h
def DC(a b:List Nat):Bool:=a.all fun x=>b.contains x&&Nat.blt x hM
theorem Kv{a b:List Nat}{A A':AS}(h:DC a b=true)(h2:Vd A' A (some b)):∀ k,k∈a->lk k A'.h=lk k A.h:=fun k hk=>by
 have:=Za2.1 h k hk;rw[Zao]at this;have h3:=h2 k (by simpa using this.1);unfold SV at h3;rw[if_pos this.2]at h3;exact h3
theorem FT{A:AS}{k i g o n:Nat}{v:V}(h:N1 A.h (100*k+i)=some (g,o,v,n))(hi:i<100):∃ sz xs g1 o1 c,v=.own sz [] g1 o1 c/\n=xs.length/\A.at (.key k) (Tn i)=some (g,o,.own sz xs g1 o1 c):=by
 unfold N1 at h;rw[show (100*k+i) / 100=k from Zac,show (100*k+i) % 100=i from Zac]at h;split at h;rename_i g0 v0 e;unfold T8 at h;split at h;rename_i g' o' sz xs g1 o1 c e2;simp only[Zan,Zaq]at h;obtain⟨rfl,rfl,rfl,rfl⟩:=h;exact⟨sz,xs,g1,o1,c,rfl,rfl,by simp only[AS.at,e,e2]⟩;cases h;cases h
theorem Ja{A A':AS}{k i g o:Nat}{T:TI}(h:N1 A'.h (100*k+i)=N1 A.h (100*k+i))(hi:i<100)(hs:(N1 A.h (100*k+i)).isSome=true):
 kP A' (some T) (.ptr (.key k) (Tn i) g o)=kP A (some T) (.ptr (.key k) (Tn i) g o):=by
 obtain⟨⟨g1,o1,v,n⟩,e⟩:=Option.isSome_iff_exists.1 hs;obtain⟨sz,xs,g2,o2,c,rfl,rfl,e1⟩:=FT e hi;obtain⟨L3,xs',Va,o2',c',h1,h2,e2⟩:=FT (h.trans e) hi;cases h1;simp only[kP,e1,e2,V.S6,h2,V.n,V.isAgg]
def mn(El:List Nat)(fr:Option (List Nat))(A:AS):Op->Bool
 | .load _ x=>match A.ev x with
   | .ptr (.slot i) _ _ _=>El.contains i
   | .ptr (.key k) p _ _=>match fr with
     | none=>true
     | some l=>(Nat.blt k hM&&l.contains k)||hdP A l k p
   | _=>true
 | _=>true
def fg(A:AS):List Operand->List Nat
 | []=>[]
 | x::xs=>match x with
   | .tmp t=>match (A.get t).df with
     | true=>t::fg (A.drop x) xs
     | false=>fg (A.drop x) xs
   | _=>fg (A.drop x) xs
def jM(ts:List Nat)(A:AS):AS:=⟨ts.map (fun t=>(t,V.b9))++A.t,A.h⟩
def sub(a b:List Nat):Bool:=a.all fun x=>b.contains x
def uv(ops:Array Oper)(tb:List (Nat×Sa)){P:Program}(zs:List (Nat×ZT P))(i:Nat)(o:Oper):Bool:=
 (lk i zs).isNone&&!(bC ops tb i).YM&&(bC ops tb i).Sl==o.dst.toList&&(bC ops tb i).Hl==[]
def nE(P:Program)(N:Nat)(ops:Array Oper)(tb:List (Nat×Sa))(zs:List (Nat×ZT P)):Nat->List Nat->List V->AS->Option (Prop×AS)
 | 0,_,_,A=>some (True,A)
 | _+1,[],_,A=>some (True,A)
 | n+1,i::rest,A4,A=>
   match ops[i]? with
   | none=>none
   | some o=>match uv ops tb zs i o with
     | false=>none
     | true=>match o.dst with
       | none=>none
       | some d=>if d<N then
         match o.guard with
         | some (j,b)=>match PG A ops j b with
           | some G=>match AS.un G (iO o.op) A with
             | (C0,B)=>match sY P B o.op A4 with
               | some (C,v,A4)=>if (Rr N (iO o.op)&&!v.fX&&mn (bC ops tb i).El (bC ops tb i).fr B o.op)=true then match nE P N ops tb zs n rest A4 (A.put (some d) (.gv G v)) with
                 | some (C',A')=>some ((G=true->C0/\C)/\C',A')
                 | none=>none else none
               | none=>none
           | none=>none
         | none=>match o.op with
           | .assign x=>if (A.ev x).df=false then nE P N ops tb zs n rest A4 (A.put (some d) (A.ev x)) else none
           | op=>if mn (bC ops tb i).El (bC ops tb i).fr A op=true then match sY P A op A4 with
             | some (C,v,A4)=>match nE P N ops tb zs n rest A4 (A.put (some d) v) with
               | some (C',A')=>if mb op=true then some (C',A') else some (C/\C',A')
               | none=>none
             | none=>none else none
         else none
def og(P:Program)(N:Nat)(ops:Array Oper)(tb:List (Nat×Sa))(zs:List (Nat×ZT P)):Nat->List Nat->List V->AS->Option (List Prop×AS)
 | 0,_,_,A=>some ([],A)
 | _+1,[],_,A=>some ([],A)
 | n+1,i::rest,A4,A=>
   match ops[i]? with
   | none=>none
   | some o=>match uv ops tb zs i o with
     | false=>none
     | true=>match o.dst with
       | none=>none
       | some d=>if d<N then
         match o.guard with
         | some (j,b)=>match PG A ops j b with
           | some G=>match SA G (j,b) [] (iO o.op) A with
             | (C0,B)=>match sY P B o.op A4 with
               | some (C,v,A4)=>if (Rr N (iO o.op)&&!v.fX&&mn (bC ops tb i).El (bC ops tb i).fr B o.op)=true then match og P N ops tb zs n rest A4 (A.put (some d) (.gv G v)) with
                 | some (C',A')=>some (C0++(if mb o.op=true then C' else (G=true->C)::C'),A')
                 | none=>none else none
               | none=>none
           | none=>none
         | none=>match o.op with
           | .assign x=>if (A.ev x).df=false then og P N ops tb zs n rest A4 (A.put (some d) (A.ev x)) else none
           | op=>if mn (bC ops tb i).El (bC ops tb i).fr A op=true then match sY P A op A4 with
             | some (C,v,A4)=>match og P N ops tb zs n rest A4 (A.put (some d) v) with
               | some (C',A')=>if mb op=true then some (C',A') else some (C::C',A')
               | none=>none
             | none=>none else none
         else none
section
variable {P:Program} {N:Nat} {ops:Array Oper} {tb:List (Nat×Sa)} {zs:List (Nat×ZT P)}
theorem qc:∀ (n:Nat) {l:List Nat} {A4:List V} {A A':AS} {cs:List Prop},og P N ops tb zs n l A4 A=some (cs,A')->(∀ c,c∈cs->c)->∃ C,nE P N ops tb zs n l A4 A=some (C,A')/\C
 | 0,l,A4,A,A',cs,h,hc=>by
   simp only[og,Zan,Zaq]at h;obtain⟨_,rfl⟩:=h;exact⟨True,by simp only[nE],trivial⟩
 | n+1,[],A4,A,A',cs,h,hc=>by
   simp only[og,Zan,Zaq]at h;obtain⟨_,rfl⟩:=h;exact⟨True,by simp only[nE],trivial⟩
 | n+1,i::l,A4,A,A',cs,h,hc=>by
   unfold og at h;unfold nE;split at h;cases h;rename_i o ho;simp only[ho];split at h;cases h;rename_i hv;split at h;cases h;rename_i d hd;split at h
   case isFalse=>cases h
   rename_i U4;simp only[hd,if_pos U4];split at h;rename_i j b hg;split at h;rename_i G hG;split at h;rename_i C0 B hu;split at h;rename_i C v Rc hs;split at h;rename_i hk;split at h;rename_i C' A1 hr;simp only[Zan,Zaq]at h;obtain⟨rfl,rfl⟩:=h;obtain⟨C1,e1,e2⟩:=jH (iO o.op) (fun t ht=>by simp at ht) hu (fun c T9=>hc c (List.mem_append_left _ T9));obtain⟨C2,e3,e4⟩:=qc n hr (fun c T9=>hc c (List.mem_append_right _ (by split <;> simp[T9])));simp only[hG,e1,hs,if_pos hk,e3];refine⟨_,rfl,fun OZ=>⟨e2,?_⟩,e4⟩;by_cases ht:mb o.op=true;exact mG ht hs;exact hc (G=true->C) (List.mem_append_right _ (by rw[if_neg ht];exact List.mem_cons_self ..)) OZ;cases h;cases h;cases h;cases h
   · rename_i hg;split at h;rename_i x hx;split at h;rename_i ho;obtain⟨C,e1,e2⟩:=qc n h hc;simp only[hx,if_pos ho];exact⟨C,e1,e2⟩;cases h
     · rename_i hx;split at h
       case isFalse=>cases h
       rename_i Y2;split at h;rename_i C v Rc hs;split at h;rename_i C' A1 hr;have key:(∀ c,c∈C'->c)/\C/\A1=A':=by
        split at h;rename_i ht;simp only[Zan,Zaq]at h;obtain⟨rfl,rfl⟩:=h;exact⟨hc,mG ht hs,rfl⟩;simp only[Zan,Zaq]at h;obtain⟨rfl,rfl⟩:=h;exact⟨fun c T9=>hc c (List.mem_cons_of_mem _ T9),hc _ (List.mem_cons_self ..),rfl⟩
       obtain⟨k1,k2,rfl⟩:=key;obtain⟨C2,e3,e4⟩:=qc n hr k1;simp only[if_pos Y2,hs,e3];split;exact⟨_,rfl,e4⟩;exact⟨_,rfl,k2,e4⟩;cases h;cases h
end
def jO(d:Option Nat)(ts:List Nat)(ks:List (Nat×Nat))(r:V)(H:List (Nat×(Nat×V)))(A:AS):AS:=((jM ts A).back ks H).put d r
def O9{P:Program}(N:Nat)(ops:Array Oper)(tb:List (Nat×Sa))(zs:List (Nat×ZT P)):Sc P->List Nat->AS->(AS->Sc P->Prop)->Prop
 | s,[],A,K=>K A s
 | .r n A4 k,l,A,K=>match og P N ops tb zs n l A4 A with
   | some (C,A')=>cj C (O9 N ops tb zs k (l.drop n) A' K)
   | none=>False
 | .h x k,i::l,A,K=>match x with
   | .m8 t v=>A.get t=v/\O9 N ops tb zs k (i::l) (A.put (some t) v) K
   | .s8 q v=>match lk q A.h with
     | some (g,u)=>u=v/\O9 N ops tb zs k (i::l) ⟨A.t,(q,(g,v))::A.h⟩ K
     | none=>False
   | _=>False
 | .ua k,i::l,A,K=>match ops[i]?,lk i zs with
   | some o,some z=> ∀ g,O9 N ops tb zs (k g) l (Rn (o.dst.getD 0) z.v g A) K
   | _,_=>False
 | .cg c k,i::l,A,K=>match ops[i]?,lk i zs with
   | some o,none=>match uv ops tb zs i o,o.op,o.guard with
     | true,.call ⟨.value (.func f),xs,_⟩,some (j,b)=>match f==c.f&&QP N o.dst&&Rr N xs.toList&&!c.res.er.fX&&!c.res.er.df,c.H,PG A ops j b with
       | true,[],some G=>match SA G (j,b) [] xs.toList A with
         | (C,B)=>cj C ((G=true->c.pre/\PW (xs.toList.map B.cp) c.args=c.args)/\O9 N ops tb zs k l (A.put o.dst (.gv G c.res.er)) K)
       | _,_,_=>False
     | _,_,_=>False
   | _,_=>False
 | .vu c k,i::l,A,K=>match ops[i]?,lk i zs with
   | some o,none=>match uv ops tb zs i o with
     | true=>c.pre N ops o A/\O9 N ops tb zs k l (A.put o.dst c.v) K
     | false=>False
   | _,_=>False
 | s,i::l,A,K=>match ops[i]?,lk i zs with
   | none,_=>False
   | _,some _=>False
   | some o,none=>match o.guard with
     | some _=>False
     | none=>match (bC ops tb i).YM with
       | false=>match uv ops tb zs i o with
         | true=>match s with
           | .c c _ k=>match o.op with
             | .call ⟨.value (.func f),xs,_⟩=>match f==c.f&&QP N o.dst,c.H with
               | true,[]=>PW (xs.toList.map A.cp) c.args=c.args/\c.pre/\O9 N ops tb zs k l (A.put o.dst c.res.er) K
               | _,_=>False
             | _=>False
           | .bd z k=>match o.op with
             | .build T c9=>match T==z.T&&QP N o.dst,z.v with
               | true,.agg us=>match iU P A T us c9.toList with
                 | some v=>O9 N ops tb zs k l (A.put o.dst v) K
                 | none=>False
               | _,_=>False
             | _=>False
           | .bs k=>match o.op with
             | .buildSlice T len c9=>match tD P T with
               | some (.sl e)=>match ti P e,eX A 0 c9.toList with
                 | some t,some vs=>match UL P T e len t vs&&QP N o.dst with
                   | true=>O9 N ops tb zs k l (A.put o.dst (.sl true vs)) K
                   | false=>False
                 | _,_=>False
               | _=>False
             | _=>False
           | .mm k=>match o.op with
             | .call ⟨.builtin b,⟨[x,y]⟩,_⟩=>match A.ev x,A.ev y,QP N o.dst,b with
               | .lit (.int kd p),.lit (.int Ty q),true,.max=>Ty=kd/\O9 N ops tb zs k l (A.put o.dst (.lit (.int kd (max p q)))) K
               | .lit (.int kd p),.lit (.int Ty q),true,.min=>Ty=kd/\O9 N ops tb zs k l (A.put o.dst (.lit (.int kd (min p q)))) K
               | _,_,_,_=>False
             | _=>False
           | .N4 bs k=>match o.op with
             | .convert src dst x=>match zd P src&&isStr P dst&&QP N o.dst,A.ev x with
               | true,.sl _ ys=>ys=bs.map w3/\O9 N ops tb zs k l (A.put o.dst (sV bs)) K
               | _,_=>False
             | _=>False
           | _=>False
         | false=>False
       | true=>match s with
         | .ux z k=>match CV P N (bC ops tb i).Sl (bC ops tb i).El (bC ops tb i).Hl o A z,(bC ops tb i).fr,X' (bC ops tb i).Hl [] with
           | some (C,U),none,true=>C/\∀ g o1 c,O9 N ops tb zs (k g o1 c) l (U (g,o1,c) A) K
           | _,_,_=>False
         | .eu c k=>match (bC ops tb i).fr,X' (bC ops tb i).Hl c.prom with
           | none,true=>c.pre N o A (bC ops tb i).Sl (bC ops tb i).Hl/\∀ x,O9 N ops tb zs (k x) l (c.U o A x A) K
           | _,_=>False
         | .c c ks k=>match o.op with
           | .call ⟨.value fx,xs,_⟩=>match A.ev fx,A.tk xs.toList,(bC ops tb i).fr with
             | .lit (.func (.func f) first A6),(vs,_),some fl=>
               match f==c.f&&QP N o.dst&&PL (ks.map (·.1))&&PL (ks.map (·.2))&&c.args.length==(first.toList.map cV++vs++A6.toList.map cV).length&&
                sub (fg A xs.toList) (bC ops tb i).Sl&&sub o.dst.toList (bC ops tb i).Sl&&sub (ks.map (·.2)) (bC ops tb i).Hl&&DC (ks.map (·.2)) fl&&X' (bC ops tb i).Hl [] with
               | true=>PW (first.toList.map cV++vs++A6.toList.map cV) c.args=c.args/\nk A ks c.H (c.pre/\O9 N ops tb zs k l (jO o.dst (fg A xs.toList) ks (c.res.QU (jN ks)) c.H' A) K)
               | false=>False
             | _,_,_=>False
           | _=>False
         | .cx c ks k=>match o.op with
           | .call ⟨.value fx,xs,_⟩=>match A.ev fx,A.tk xs.toList,(bC ops tb i).fr with
             | .lit (.func (.func f) first A6),(vs,_),some fl=>
               match f==c.f&&QP N o.dst&&PL (ks.map (·.1))&&PL (ks.map (·.2))&&c.args.length==(first.toList.map cV++vs++A6.toList.map cV).length&&
                sub (fg A xs.toList) (bC ops tb i).Sl&&sub o.dst.toList (bC ops tb i).Sl&&sub (ks.map (·.2)) (bC ops tb i).Hl&&DC (ks.map (·.2)) fl&&X' (bC ops tb i).Hl [] with
               | true=>PW (first.toList.map cV++vs++A6.toList.map cV) c.args=c.args/\nk A ks c.H (c.pre/\∀ x,c.post x->O9 N ops tb zs (k x) l (jO o.dst (fg A xs.toList) ks ((c.res x).QU (jN ks)) (c.H' x) A) K)
               | false=>False
             | _,_,_=>False
           | _=>False
         | _=>False
section
variable {P:Program} {N:Nat} {ops:Array Oper} {A A' A1 B:AS} {tb:List (Nat×Sa)} {zs:List (Nat×ZT P)}
theorem nU{ts:List Nat}{t:Nat}:(jM ts A).get t=if t∈ts then .b9 else A.get t:=by
 induction ts with
 | nil=>simp[jM]
 | cons a ts ih=>
   simp only[jM,AS.get,Zbe,List.cons_append,lk]at ih ⊢;by_cases e:t=a;rw[if_pos e,if_pos (by simp[e])];rfl;rw[if_neg e,ih];by_cases e2:t∈ts;rw[if_pos e2,if_pos (by simp[e2])];rw[if_neg e2,if_neg (by simp[e,e2])]
theorem tG:∀ (xs:List Operand) {A:AS},D' (A.tk xs).2 (jM (fg A xs) A)
 | [],A=>⟨fun _=>rfl,fun _=>rfl⟩
 | x::xs,A=>by
   have ih:=tG xs (A:=A.drop x);simp only[AS.tk];have e:(match (A.drop x).tk xs with | (vs,B)=>((X8 (A.ev x)::vs,B):List V×AS)).2=((A.drop x).tk xs).2:=rfl;rw[e];have hh:(A.drop x).h=A.h:=by
    cases x with
    | tmp t=>simp only[AS.drop];split <;> rfl
    | _=>rfl
   refine⟨fun q=>?_,fun k=>by rw[ih.2 k];simp only[jM,hh]⟩;rw[ih.1 q,nU,nU];cases x with
   | tmp t=>
     cases ho:(A.get t).df with
     | true=>
       have ed:A.drop (.tmp t)=A.put (some t) .b9:=by simp[AS.drop,ho]
       have eo:fg A (.tmp t::xs)=t::fg (A.drop (.tmp t)) xs:=by simp only[fg,ho]
       simp only[eo,ed,List.mem_cons];by_cases c:q=t;subst c;simp only[true_or,if_true];split;rfl;rw[AS.aB,if_pos rfl];by_cases c2:q∈fg (A.put (some t) .b9) xs;rw[if_pos c2,if_pos (.inr c2)];rw[if_neg c2,if_neg (by simp[c,c2]),AS.aB,if_neg c]
     | false=>
       have ed:A.drop (.tmp t)=A:=by simp[AS.drop,ho]
       have eo:fg A (.tmp t::xs)=fg (A.drop (.tmp t)) xs:=by simp only[fg,ho]
       simp only[eo,ed]
   | _=>rfl
theorem CZ{x:Operand}(h:∀ t,x=.tmp t->A'.get t=A.get t){q:Nat}(hq:A'.get q=A.get q):(A'.drop x).get q=(A.drop x).get q:=by
 cases x with
 | tmp t=>
   simp only[AS.drop,h t rfl];split;rw[AS.aB,AS.aB];split;rfl;exact hq;exact hq
 | _=>exact hq
theorem tY:∀ (xs:List Operand) {A A':AS},(∀ t,Operand.tmp t∈xs->A'.get t=A.get t)->(A'.tk xs).1=(A.tk xs).1/\fg A' xs=fg A xs
 | [],A,A',_=>⟨rfl,rfl⟩
 | x::xs,A,A',h=>by
   have hx:∀ t,x=.tmp t->A'.get t=A.get t:=fun t e=>h t (by simp[e]);have ih:=tY xs (A:=A.drop x) (A':=A'.drop x) fun t ht=>CZ hx (h t (by simp[ht]));refine⟨?_,?_⟩;show X8 (A'.ev x)::((A'.drop x).tk xs).1=X8 (A.ev x)::((A.drop x).tk xs).1;rw[ih.1,bp (x:=x) hx];cases x with
   | tmp t=>simp only[fg,hx t rfl,ih.2]
   | _=>simp only[fg];exact ih.2
theorem GV{ks:List (Nat×Nat)}{H:List (Nat×(Nat×V))}{t:Nat}:(A.back ks H).get t=A.get t:=rfl
theorem Cc{ks:List (Nat×Nat)}{H:List (Nat×(Nat×V))}{k:Nat}(hn:PL (ks.map (·.2))=true)(hk:k ∉ ks.map (·.2)):lk k (A.back ks H).h=lk k A.h:=by
 have hs:lk k (Rb ks)=none:=mu (by simpa[Rb,List.map_map,Function.comp_def] using hk);simp only[AS.back];rw[lp,pq hn,hs];simp only[Option.bind_none];rw[iD,hs];rfl
theorem px{ks:List (Nat×Nat)}{H:List (Nat×(Nat×V))}(h:∀ k,lk k A.h=lk k B.h)(k:Nat):lk k (A.back ks H).h=lk k (B.back ks H).h:=by
 simp only[AS.back];rw[lp,lp,iD,iD,h]
theorem Lq{ks:List (Nat×Nat)}{k q:Nat}(h:lk k ks=some q):q∈ks.map (·.2):=List.mem_map.2 ⟨_,uX h,rfl⟩
theorem lX{ks:List (Nat×Nat)}(h:∀ k,k∈ks.map (·.2)->lk k B.h=lk k A.h):∀ {H:List (Nat×(Nat×V))},lh A ks H->lh B ks H
 | [],_=>trivial
 | (k,(g,v))::H,hr=>by
   refine⟨?_,lX h hr.2⟩;have:=hr.1;split at this;rename_i q e;rw[h q (Lq e)];exact this;exact this.elim
theorem iY{d:Option Nat}{ts:List Nat}{ks:List (Nat×Nat)}{r:V}{H:List (Nat×(Nat×V))}{t:Nat}:(jO d ts ks r H A).get t=if d=some t then r else if t∈ts then .b9 else A.get t:=by
 unfold jO;cases d with
 | none=>rw[if_neg Zad];exact nU
 | some d=>
   rw[AS.aB,GV,nU];by_cases e:t=d;subst e;rw[if_pos rfl,if_pos rfl];have e2: ¬ (some d=some t):=fun c=>e (by simpa using c.symm);rw[if_neg e,if_neg e2]
theorem jS{d:Option Nat}{ts:List Nat}{ks:List (Nat×Nat)}{r:V}{H:List (Nat×(Nat×V))}:(jO d ts ks r H A).h=(A.back ks H).h:=by
 unfold jO;rw[nI];rfl
theorem yF{G:Type} {d:Option Nat} {ts:List Nat} {ks:List (Nat×Nat)} {r:G->V} {H:G->List (Nat×(Nat×V))} {fs Sl Hl:List Nat} (hn:PL (ks.map (·.2))=true)
 (h1:sub ts Sl=true) (h2:sub d.toList Sl=true) (h3:sub (ks.map (·.2)) Hl=true):S9 (fun g B=>jO d ts ks (r g) (H g) B) fs Sl Hl:=by
 have sb:∀ {a b:List Nat},sub a b=true->∀ x,x∈a->x∈b:=fun h x hx=>by
  unfold sub at h;rw[Za2]at h;simpa using h x hx
 have h1:=sb h1;have h2:=sb h2;have h3:=sb h3;refine⟨fun g B t ht=>?_,fun g B k hk=>?_,fun g B B' hB=>⟨fun t=>?_,fun k=>?_⟩,fun g B t v ht _=>⟨fun q=>?_,fun k=>?_⟩,fun g B k gv hk=>⟨fun t=>?_,fun x=>?_⟩⟩;rw[iY,if_neg (fun c=>ht (h2 t (by rw[c];simp))),if_neg (fun c=>ht (h1 t c))];rw[jS];exact Cc hn (fun c=>hk (h3 k c));rw[iY,iY,hB.1 t];rw[jS,jS];exact px hB.2 k;rw[iY,AS.aB,AS.aB,iY];by_cases c:q=t;subst c;rw[if_pos rfl,if_pos rfl,if_neg (fun c=>ht (h2 q (by rw[c];simp))),if_neg (fun c=>ht (h1 q c))];rw[if_neg c,if_neg c];rw[jS];show _=lk k (jO d ts ks (r g) (H g) B).h;rw[jS];rfl;show (jO d ts ks (r g) (H g) _).get t=(jO d ts ks (r g) (H g) B).get t;rw[iY,iY];rfl;rw[jS,jS];have hs:lk k (Rb ks)=none:=mu (by simpa[Rb,List.map_map,Function.comp_def] using fun c=>hk (h3 k c));simp only[AS.back];rw[lp,iD];simp only[lk];by_cases c:x=k;subst c;rw[if_pos rfl,if_pos rfl,pq hn,hs];rfl;rw[if_neg c,if_neg c,lp,iD]
theorem sH{i:Nat}{o:Oper}{t:Nat}(ho:ops[i]? =some o)(h:Operand.tmp t∈o.op.operands.toList):t∈fZ ops tb i:=by
 unfold fZ;rw[ho,Zax];exact .inl (dX h)
theorem sh{i:Nat}{o:Oper}{t:Nat}(ho:ops[i]? =some o)(h:t∈o.looksAt ops):t∈fZ ops tb i:=by
 unfold fZ;rw[ho,Zax];exact .inl h
theorem Di{i t:Nat}(h:t∈(bC ops tb i).El):t∈fZ ops tb i:=by
 unfold fZ;rw[Zax];exact .inr h
theorem Aq{i:Nat} {d:Option Nat} {fx:Operand} {xs:Array Operand} {M6:Array TypeId} {ty:TypeId} {pos:String} {after:Array Edge} {f:FuncId} {first A6:Array Value} {args:List V} {H:List (Nat×(Nat×V))} {ks:List (Nat×Nat)}
 {G:Type} {res:G->V} {H':G->List (Nat×(Nat×V))}
 (ho:ops[i]? =some ⟨d,.call ⟨.value fx,xs,M6⟩,ty,pos,after,none⟩) (hfx:A.ev fx=.lit (.func (.func f) first A6)) (hd:cB N d) (SL:PL (ks.map (·.1))=true) (P6:PL (ks.map (·.2))=true)
 (hc:PF P f args H (fun r h=> ∃ g,r=res g/\h=H' g)) (hargs:PW (first.toList.map cV++(A.tk xs.toList).1++A6.toList.map cV) args=args) (hlen:args.length=(first.toList.map cV++(A.tk xs.toList).1++A6.toList.map cV).length)
 (hr:lh A ks H) {fl:List Nat} (hfl:DC (ks.map (·.2)) fl=true):X3 P N ⟨d,.call ⟨.value fx,xs,M6⟩,ty,pos,after,none⟩ A (fun g B=>jO d (fg A xs.toList) ks ((res g).QU (jN ks)) (H' g) B) (fZ ops tb i) (some fl):=by
 refine⟨rfl,fun A' h1 h2=>?_⟩;have W3:A'.ev fx=A.ev fx:=bp fun t ht=>h1 t (sH ho Zb1);obtain⟨t1,t2⟩:=tY xs.toList (A:=A) (A':=A') fun t ht=>h1 t (sH ho (by simp only[Op.operands,Call.operands];simp;right;simpa using ht));have VQ:=tG xs.toList (A:=A');refine nX (A:=A') ks rfl (by rw[W3];exact hfx) hd SL P6 hc (by rw[t1];exact hargs) (by rw[t1];exact hlen) (lX (fun k hk=>(VQ.2 k).trans (Kv hfl h2 k hk)) hr) ?_;rintro r H0 ⟨g,rfl,rfl⟩;refine⟨g,?_⟩;unfold jO;rw[<- t2];exact KN ⟨fun t=>VQ.1 t,fun k=>px VQ.2 k⟩
theorem vk{El:List Nat} {fr:Option (List Nat)} {op:Op} (h:∀ t,Operand.tmp t∈op.operands.toList->A'.get t=A.get t) (hk:Vd A' A fr) (hr:∀ i,i∈El->A'.get i=A.get i)
 (hf:mn El fr A op=true):J1 P A' op=J1 P A op:=by
 cases op with
 | move x=>simp only[J1,Rq,CT,jU (x:=x) fun t e=>h t (by simp[Op.operands,e]),bp (x:=x) fun t e=>h t (by simp[Op.operands,e])]
 | pick c a b=>
   have h1:=bp (x:=c) fun t e=>h t Zb3;have h2:=bp (x:=a) fun t e=>h t Zb3;have h3:=bp (x:=b) fun t e=>h t Zb3;simp only[J1,Rq,CY,h1,h2,h3]
 | binOp op T x y T'=>simp only[J1,Rq,bp (x:=x) fun t e=>h t (by simp[Op.operands,e]),bp (x:=y) fun t e=>h t (by simp[Op.operands,e])]
 | unOp op T x=>simp only[J1,Rq,bp (x:=x) fun t e=>h t (by simp[Op.operands,e])]
 | convert s d x=>simp only[J1,Rq,bp (x:=x) fun t e=>h t (by simp[Op.operands,e])]
 | index T x y=>simp only[J1,Rq,bp (x:=x) fun t e=>h t (by simp[Op.operands,e]),bp (x:=y) fun t e=>h t (by simp[Op.operands,e])]
 | slice T x lo hi m=>
   have h1:=bp (x:=x) fun t e=>h t Zb3;have h2:=uZ (x:=lo) fun t e=>h t Zb3;have h3:=uZ (x:=hi) fun t e=>h t Zb3;cases m with
   | none=>simp only[J1,h1,h2,h3]
   | some m=>rfl
 | extract x i=>simp only[J1,Rq,bp (x:=x) fun t e=>h t (by simp[Op.operands,e])]
 | call c=>
   simp only[J1,Rq,vn];split;split;rename_i x T hx _;rw[bp (x:=x) fun t e=>h t Zb4];rfl;split;rename_i x y hx;rw[bp (x:=x) fun t e=>h t Zb4,bp (x:=y) fun t e=>h t Zb4];rfl;rfl
 | fieldAddr T x j=>simp only[J1,bp (x:=x) fun t e=>h t (by simp[Op.operands,e])]
 | field T x j=>simp only[J1,jU (x:=x) fun t e=>h t (by simp[Op.operands,e])]
 | indexAddr T x y=>simp only[J1,bp (x:=x) fun t e=>h t (by simp[Op.operands,e]),bp (x:=y) fun t e=>h t (by simp[Op.operands,e])]
 | load T x=>
   have h1:=bp (x:=x) fun t e=>h t Zb3;simp only[J1,h1,kP];split;split;rename_i r p g o e;cases r with
   | key k=>
     have:lk k A'.h=lk k A.h\/∃ i,p=Tn i/\i<100/\N1 A'.h (100*k+i)=N1 A.h (100*k+i)/\(N1 A.h (100*k+i)).isSome=true:=by
      cases fr with
      | none=>exact .inl (hk k)
      | some l=>
        simp only[mn,e,Bool.or_eq_true,Zao]at hf;rcases hf with ⟨c1,c2⟩ | hf;have h3:=hk k (by simpa using c2);unfold SV at h3;rw[if_pos c1]at h3;exact .inl h3;obtain⟨i,f1,f2,f3,f4⟩:=Mz hf;refine .inr ⟨i,f1,f2,?_,f4⟩;have h3:=hk _ f3;unfold SV at h3;rw[if_neg (by simp[Nat.blt_eq]),Nat.add_sub_cancel_left]at h3;exact h3
     rcases this with e2 | ⟨i,rfl,c1,c2,c3⟩;simp only[AS.at,e2];have:=Ja (T:=by assumption) (g:=g) (o:=o) c2 c1 c3;simpa only[kP] using this
   | slot i=>
     have:A'.at (.slot i) p=A.at (.slot i) p:=by
      unfold AS.at;simp only[mn,e,Zbi,Zbk]at hf;simp only[hr i hf]
     rw[this]
   rfl;rfl;rfl
 | nilCheck x=>simp only[J1,bp (x:=x) fun t e=>h t (by simp[Op.operands,e])]
 | makeInterface T x=>simp only[J1,jU (x:=x) fun t e=>h t (by simp[Op.operands,e])]
 | typeAssert x xT T b=>
   cases b with
   | true=>simp only[J1,bp (x:=x) fun t e=>h t (by simp[Op.operands,e])]
   | false=>rfl
 | makeFunc fn p q=>
   have e1:p.toList.map A'.ev=p.toList.map A.ev:=List.map_congr_left fun x hx=>bp fun t e=>h t (by subst e;simp only[Op.operands,Array.toList_append,Zax];exact .inl hx);have e2:q.toList.map A'.ev=q.toList.map A.ev:=List.map_congr_left fun x hx=>bp fun t e=>h t (by subst e;simp only[Op.operands,Array.toList_append,Zax];exact .inr hx);simp only[J1,e1,e2]
 | _=>rfl
theorem lC{i:Nat}{o:Oper}{v:V}{fr:Option (List Nat)}(ho:ops[i]? =some o)(h:nN P N ops o A v):Ut P N ops o A v (fZ ops tb i) fr:=fun A' h1 _=>h A' fun t ht=>h1 t (sh ho ht)
theorem BG{i:Nat}{o:Oper}{C:Prop}{v:V}{fr:Option (List Nat)}(ho:ops[i]? =some o)(hg:o.guard=none)(h:J1 P A o.op=some (C,v))(hC:C)(hd:cB N o.dst)(hf:mn (bC ops tb i).El fr A o.op=true):Ut P N ops o A v (fZ ops tb i) fr:=by
 intro A' h1 hk;unfold gd;rw[hg];simp only;refine wT (C:=C) (v:=v) ?_ hC hd ⟨fun _=>rfl,fun _=>rfl⟩;rw[vk (A:=A) (fun t ht=>h1 t (sH ho ht)) hk (fun i hi=>h1 i (Di hi)) hf];exact h
theorem DU{i:Nat} {o:Oper} {xs:List Operand} {j:Nat} {b G:Bool} {C:Prop} {B:AS} {v:V} {fr:Option (List Nat)} (ho:ops[i]? =some o) (hg:o.guard=some (j,b)) (hG:PG A ops j b=some G) (hu:AS.un G xs A=(C,B))
 (Ta:∀ t,Operand.tmp t∈xs->Operand.tmp t∈o.op.operands.toList) (PD:Rr N xs=true) (hd:cB N o.dst) (hf:mn (bC ops tb i).El fr B o.op=true) (hC:G=true->C/\v.fX=false/\∃ C',J1 P B o.op=some (C',v)/\C'):Ut P N ops o A (.gv G v) (fZ ops tb i) fr:=by
 intro A' h1 hk;have YG:PG A' ops j b=some G:=by
  rw[<- hG];unfold PG;cases hj:(ops[j]?).bind (·.dst) with
  | none=>rfl
  | some d=>
    simp only[Option.map_some];rw[h1 d (sh ho (by unfold Oper.looksAt;rw[Zax];right;rw[hg];simp[hj]))]
 obtain⟨B',k1,k2,k3,k4⟩:=ja xs (A':=A') hu (fun t ht=>h1 t (sH ho (Ta t ht)));have M':J1 P B' o.op=J1 P B o.op:=by
  refine vk (A:=B) (fun t ht=>k2 t (h1 t (sH ho ht))) ?_ (fun i hi=>k2 i (h1 i (Di hi))) hf;cases fr with
  | none=>exact fun k=>by rw[k3,k4];exact hk k
  | some l=>exact fun k hl=>(vF (A:=A') (fun k=>by rw[k3]) k).trans ((hk k hl).trans (vF (fun k=>by rw[k4]) k))
 refine nK hg YG (fun OZ=>?_) (fun UH=>⟨hd,fun _ _=>⟨rfl,(fun h=>Zby),fun _=>rfl⟩⟩);obtain⟨c1,c3,C',B4,c2⟩:=hC OZ;rw[<- M']at B4;refine hY (v:=.gv G v) hd ⟨fun _=>rfl,fun _=>rfl⟩ fun Pb Kb a w F hs=>?_;obtain⟨F',A8⟩:=iT OZ _ k1 c1 hs (nh PD);obtain⟨x,hx,hr⟩:=wo B4 c2 A8 rfl;exact⟨x,hx,rfl,fun _=>vf hr c3,fun h=>by rw[OZ]at h;cases h⟩
theorem Fz{i:Nat} {d:Option Nat} {f:FuncId} {xs:Array Operand} {M6:Array TypeId} {ty:TypeId} {pos:String} {after:Array Edge}
 {j:Nat} {b G:Bool} {C:Prop} {B:AS} {E:V} {fr:Option (List Nat)} (ho:ops[i]? =some ⟨d,.call ⟨.value (.func f),xs,M6⟩,ty,pos,after,some (j,b)⟩) (hd:cB N d) (hG:PG A ops j b=some G) (hu:AS.un G xs.toList A=(C,B)) (PD:Rr N xs.toList=true)
 (hc:G=true->C/\PC P f (xs.toList.map B.cp) (fun r=>r.er=E)/\E.fX=false/\E.df=false):Ut P N ops ⟨d,.call ⟨.value (.func f),xs,M6⟩,ty,pos,after,some (j,b)⟩ A (.gv G E) (fZ ops tb i) fr:=by
 intro A' h1 hk;have YG:PG A' ops j b=some G:=by
  rw[<- hG];unfold PG;cases hj:(ops[j]?).bind (·.dst) with
  | none=>rfl
  | some d=>
    simp only[Option.map_some];rw[h1 d (sh ho (by unfold Oper.looksAt;rw[Zax];right;simp[hj]))]
 have hx:∀ t,Operand.tmp t∈xs.toList->A'.get t=A.get t:=fun t ht=>h1 t (sH ho (by simp[Op.operands,Call.operands];simpa using ht));obtain⟨B',k1,k2,k3,k4⟩:=ja xs.toList (A':=A') hu hx;refine nK (j:=j) (b:=b) rfl YG (fun OZ=>?_) (fun UH=>⟨hd,fun _ _=>⟨rfl,(fun h=>Zby),fun _=>rfl⟩⟩);obtain⟨c1,c2,c3,c4⟩:=hc OZ;rw[<- ry (A':=B') (A:=B) fun t ht=>k2 t (hx t ht)]at c2;intro Pb Kb a w F Q' hs;obtain⟨F',A8⟩:=iT OZ _ k1 c1 hs (nh PD);have hw:=nu OZ _ k1 c1;have L8:=oD (N:=N) (o:=⟨d,.call { callee:=.value (.func f),args:=xs,argTypes:=M6 },ty,pos,after,some (j,b)⟩) (K:=fun A1=>A1=B'.put d E) (A:=B') rfl hd c2 (fun _ h=>h) rfl;refine Oper.wp_mono ?_ (L8 Pb Kb a w F' Q' A8);rintro a' w' ⟨A1,Pb',E7,F2,rfl,L7,q3,q4,q5,q6⟩;refine⟨A'.put d (.gv G E),Pb',E7,F2,⟨fun _=>rfl,fun _=>rfl⟩,L7.wrap ?_,q3,q4,q5,q6⟩;cases d with
 | none=>exact hw
 | some d=>
   refine⟨fun i=>?_,hw.2⟩;rw[AS.aB,AS.aB];by_cases e:i=d;rw[if_pos e,if_pos e];exact .inr ⟨G,rfl,OZ,c4,c3⟩;rw[if_neg e,if_neg e];exact hw.1 i
theorem gn{i:Nat}{o:Oper}{l:List Nat}{v:V}{K:AS->Prop}(ho:ops[i]? =some o)(hv:uv ops tb zs i o=true)(h:Ut P N ops o A v (fZ ops tb i) (bC ops tb i).fr)(hK:PJ P N ops tb zs l (A.put o.dst v) K):PJ P N ops tb zs (i::l) A K:=by
 unfold uv at hv;simp only[Zao,Bool.not_eq_true',Zbl]at hv;refine⟨o,ho,?_⟩;rw[show lk i zs=none from by simpa using hv.1.1.1];simp only;rw[hv.1.1.2];exact⟨hv.1.2,hv.2,v,h,hK⟩
theorem pd{K:AS->Prop}:∀ (n:Nat) {l:List Nat} (A4:List V) {A:AS} (C:Prop) (A':AS),
 nE P N ops tb zs n l A4 A=some (C,A')->C->PJ P N ops tb zs (l.drop n) A' K->PJ P N ops tb zs l A K
 | 0,l,A4,A,C,A',h,hC,hK=>by
   simp only[nE,Zan,Zaq]at h;obtain⟨_,rfl⟩:=h;simpa using hK
 | n+1,[],A4,A,C,A',h,hC,hK=>by
   simp only[nE,Zan,Zaq]at h;obtain⟨_,rfl⟩:=h;simpa using hK
 | n+1,i::l,A4,A,C,A',h,hC,hK=>by
   have RX:(i::l).drop (n+1)=l.drop n:=rfl;rw[RX]at hK;unfold nE at h;split at h;simp at h;rename_i o ho;split at h;simp at h;rename_i PQ;split at h;simp at h;rename_i d hd;split at h
   case isFalse=>simp at h
   rename_i U4;have QM:cB N o.dst:=by rw[hd];exact U4
   cases hg:o.guard with
   | some jb=>
     obtain⟨j,b⟩:=jb;rw[hg]at h;simp only at h;split at h
     case h_2=>simp at h
     rename_i G hG;cases hu:AS.un G (iO o.op) A with
     | mk C0 B=>
       rw[hu]at h;simp only at h;split at h
       case h_2=>simp at h
       rename_i C1 v RE B4;split at h
       case isFalse=>simp at h
       rename_i PD;simp only[Zao,Bool.not_eq_true']at PD;split at h
       case h_2=>simp at h
       rename_i C2 A2 hr;simp only[Zan,Zaq]at h;obtain⟨rfl,rfl⟩:=h;exact gn ho PQ (DU (v:=v) ho hg hG hu (DW _) PD.1.1 QM PD.2 (fun OZ=>⟨(hC.1 OZ).1,PD.1.2,rV B4 (hC.1 OZ).2⟩)) (by rw[hd];exact pd n RE C2 A2 hr hC.2 hK)
   | none=>
     rw[hg]at h;simp only at h;split at h
     · rename_i x OW;split at h
       case isFalse=>simp at h
       rename_i K7;exact gn ho PQ (lC ho (zj hg OW QM K7)) (by rw[hd];exact pd n A4 C A' h hC hK)
     · split at h
       case isFalse=>simp at h
       rename_i Y2;split at h
       case h_2=>simp at h
       rename_i C1 v RE B4;split at h
       case h_2=>simp at h
       rename_i C2 A2 hr;split at h;rename_i ht;simp only[Zan,Zaq]at h;obtain⟨rfl,rfl⟩:=h;obtain⟨C',h1,h2⟩:=rV B4 (mG ht B4);exact gn ho PQ (BG ho hg h1 h2 QM Y2) (by rw[hd];exact pd n RE C2 A2 hr hC hK);simp only[Zan,Zaq]at h;obtain⟨rfl,rfl⟩:=h;obtain⟨C',h1,h2⟩:=rV B4 hC.1;exact gn ho PQ (BG ho hg h1 h2 QM Y2) (by rw[hd];exact pd n RE C2 A2 hr hC.2 hK)
theorem rR{i:Nat} {o:Oper} {l:List Nat} {K:AS->Prop} {G:Type} {U:G->AS->AS} (ho:ops[i]? =some o) (hz:lk i zs=none) (he:(bC ops tb i).YM=true) (h1:X3 P N o A U (fZ ops tb i) (bC ops tb i).fr)
 (h2:Xe U (fZ ops tb i) (bC ops tb i).Sl (bC ops tb i).Hl) (hK:∀ g,PJ P N ops tb zs l (U g A) K):PJ P N ops tb zs (i::l) A K:=by
 refine⟨o,ho,?_⟩;rw[hz];simp only;rw[he];exact⟨G,U,h1,h2,hK⟩
theorem zQ{d:Option Nat}{x y:Operand}{M6:Array TypeId}{ty:TypeId}{pos:String}{after:Array Edge}{kd:IntKind}{p q r:Int}{b:Builtin}(hd:cB N d)(hx:A.ev x=.lit (.int kd p))(hy:A.ev y=.lit (.int kd q))(hb:(b=.max/\r=max p q)\/(b=.min/\r=min p q)):
 nN P N ops ⟨d,.call ⟨.builtin b,⟨[x,y]⟩,M6⟩,ty,pos,after,none⟩ A (.lit (.int kd r)):=fun A' h1=>by
 show F9 P N _ A' _;have e1:A'.ev x=A.ev x:=bp fun t ht=>h1 t (dX Zb1);have e2:A'.ev y=A.ev y:=bp fun t ht=>h1 t (dX Zb1);exact zH rfl hd (by rw[e1];exact hx) (by rw[e2];exact hy) hb ⟨fun _=>rfl,fun _=>rfl⟩
theorem MG:∀ (s:Sc P) {l:List Nat} {A:AS} {K:AS->Sc P->Prop},O9 N ops tb zs s l A K->PJ P N ops tb zs l A fun B=> ∃ B',D' B B'/\∃ s',K B' s':=by
 intro s;have cl:∀ {K:AS->Sc P->Prop} (A B:AS),D' A B->(∃ B',D' A B'/\∃ s',K B' s')->∃ B',D' B B'/\∃ s',K B' s':=fun A B h ⟨B',h1,h2⟩=>⟨B',h.symm.trans h1,h2⟩;induction s with
 | r n A4 k ih=>
   intro l A K h;cases l with
   | nil=>exact⟨_,D'.jF,_,h⟩
   | cons i l=>
     simp only[O9]at h;split at h;rename_i C A' e;obtain⟨h1,h2⟩:=kz.1 h;obtain⟨C1,e1,e2⟩:=qc n e h1;exact pd n A4 C1 A' e1 e2 (ih h2);exact h.elim
 | h x k ih=>
   intro l A K h;cases l with
   | nil=>exact⟨_,D'.jF,_,h⟩
   | cons i l=>
     simp only[O9]at h;split at h;rename_i t v;refine eO cl _ ?_ (ih h.2);refine⟨fun q=>?_,fun _=>rfl⟩;rw[AS.aB];split;rename_i e;subst e;exact h.1.symm;rfl;rename_i q v;split at h;rename_i g u e;obtain⟨rfl,h⟩:=h;refine eO cl _ ?_ (ih h);refine⟨fun _=>rfl,fun k=>?_⟩;simp only[lk];split;rename_i e2;subst e2;exact e.symm;rfl;exact h.elim;exact h.elim
 | ux z k ih=>
   intro l A K h;cases l with
   | nil=>exact⟨_,D'.jF,_,h⟩
   | cons i l=>
     simp only[O9]at h;split at h;exact h.elim;exact h.elim;rename_i o ho hz;split at h;exact h.elim;rename_i hg;split at h;split at h <;> exact h.elim;rename_i he;split at h;rename_i C U e1 e2 e3;obtain⟨d,hd⟩:∃ d,o.dst=some d:=by
      unfold CV at e1;split at e1 <;> first | exact⟨_,by assumption⟩ | simp at e1
     obtain⟨hU,hE⟩:=Ka (ops:=ops) e1 h.1 d hd;refine rR ho hz he ⟨hg,fun A' h1 h2=>?_⟩ ⟨⟨hU.g,hU.h,hU.c,fun g B t v ht _=>hU.p g B t v ht,hU.q⟩,fun q hq=>absurd (ve e3 hq) List.not_mem_nil⟩ fun g=>ih _ _ _ (h.2 g.1 g.2.1 g.2.2);rw[e2]at h2;exact hE A' (fun t ht=>by
      rcases ht with ht | ht;exact h1 t (sh ho ht);exact h1 t (Di ht)) h2 _ fun g=>⟨g,⟨fun _=>rfl,fun _=>rfl⟩⟩
     exact h.elim
 | eu c k ih=>
   intro l A K h;cases l with
   | nil=>exact⟨_,D'.jF,_,h⟩
   | cons i l=>
     simp only[O9]at h;split at h;exact h.elim;exact h.elim;rename_i o ho hz;split at h;exact h.elim;rename_i hg;split at h;split at h <;> exact h.elim;rename_i he;split at h;rename_i e2 e3;refine rR ho hz he ⟨hg,fun A' h1 h2=>?_⟩ ⟨c.Wr h.1 _,fun q hq g B=>c.pok h.1 q (ve e3 hq) g B⟩ fun g=>ih g (h.2 g);rw[e2]at h2;exact HH (c.ok hg h.1 (fun t ht=>h1 t (sh ho (dX ht))) h2) fun B ⟨x,hB⟩=>⟨x,by subst hB;exact⟨fun _=>rfl,fun _=>rfl⟩⟩;exact h.elim
 | vu c k ih=>
   intro l A K h;cases l with
   | nil=>exact⟨_,D'.jF,_,h⟩
   | cons i l=>
     simp only[O9]at h;split at h;rename_i o ho hz;split at h;rename_i hv;exact gn ho hv (c.ok h.1 fun t ht=>sh ho ht) (ih h.2);exact h.elim;exact h.elim
 | ua k ih=>
   intro l A K h;cases l with
   | nil=>exact⟨_,D'.jF,_,h⟩
   | cons i l=>
     simp only[O9]at h;split at h;rename_i o z ho hz;refine⟨o,ho,?_⟩;rw[hz];exact fun g=>ih g (h g);exact h.elim
 | c c ks k ih=>
   intro l A K h;cases l with
   | nil=>exact⟨_,D'.jF,_,h⟩
   | cons i l=>
     simp only[O9]at h;split at h;exact h.elim;exact h.elim;rename_i o ho hz;obtain⟨dst,op,ty,pos,after,D4⟩:=o;split at h;exact h.elim;rename_i hg;simp only at hg;subst hg;split at h;split at h;rename_i hv;split at h;rename_i heq;simp only at heq;subst heq;split at h;rename_i e3 e4;rw[Zao,Zbl]at e3;obtain⟨rfl,e3⟩:=e3;exact gn ho hv (lC ho (Jv c (dV e3) e4 h.1 h.2.1)) (ih h.2.2);exact h.elim;exact h.elim;exact h.elim;rename_i he;split at h;rename_i fx xs M6 heq;simp only at heq;subst heq;split at h;rename_i f first A6 vs B fl e1 e2 e3
     split at h;rename_i e4;simp only[Zao,Zbl]at e4;obtain⟨⟨⟨⟨⟨⟨⟨⟨⟨rfl,q1⟩,q2⟩,q3⟩,q4⟩,q5⟩,q6⟩,q7⟩,q8⟩,q9⟩:=e4;have htk:(A.tk xs.toList).1=vs:=by rw[e2]
     replace h:=And.intro h.1 (jn h.2)
     have YB:=Aq (P:=P) (N:=N) (A:=A) (tb:=tb) (i:=i) (G:=Unit) (res:=fun _=>c.res) (H':=fun _=>c.H') (ks:=ks) (H:=c.H) (args:=c.args) ho e1 (dV q1) q2 q3
      ((c.ok h.2.2.1).mono fun r H ⟨a,b⟩=>⟨(),a,b⟩) (by rw[htk];exact h.1) (by rw[htk];exact q4) h.2.1 q8
     rw[<- e3]at YB;exact rR ho hz he YB ⟨yF q3 q5 q6 q7,fun q hq=>absurd (ve q9 hq) List.not_mem_nil⟩ fun _=>ih h.2.2.2;exact h.elim;exact h.elim;exact h.elim
 | cx c ks k ih=>
   intro l A K h;cases l with
   | nil=>exact⟨_,D'.jF,_,h⟩
   | cons i l=>
     simp only[O9]at h;split at h;exact h.elim;exact h.elim;rename_i o ho hz;obtain⟨dst,op,ty,pos,after,D4⟩:=o;split at h;exact h.elim;rename_i hg;simp only at hg;subst hg;split at h;split at h <;> exact h.elim;rename_i he;split at h;rename_i fx xs M6 heq;simp only at heq;subst heq;split at h;rename_i f first A6 vs B fl e1 e2 e3
     split at h;rename_i e4;simp only[Zao,Zbl]at e4;obtain⟨⟨⟨⟨⟨⟨⟨⟨⟨rfl,q1⟩,q2⟩,q3⟩,q4⟩,q5⟩,q6⟩,q7⟩,q8⟩,q9⟩:=e4;have htk:(A.tk xs.toList).1=vs:=by rw[e2]
     replace h:=And.intro h.1 (jn h.2)
     have YB:=Aq (P:=P) (N:=N) (A:=A) (tb:=tb) (i:=i) (G:={ x:c.X // c.post x }) (res:=fun x=>c.res x.1) (H':=fun x=>c.H' x.1) (ks:=ks) (H:=c.H) (args:=c.args) ho e1 (dV q1) q2 q3
      ((c.ok h.2.2.1).mono fun r H ⟨x,hx,a,b⟩=>⟨⟨x,hx⟩,a,b⟩) (by rw[htk];exact h.1) (by rw[htk];exact q4) h.2.1 q8
     rw[<- e3]at YB;exact rR ho hz he YB ⟨yF q3 q5 q6 q7,fun q hq=>absurd (ve q9 hq) List.not_mem_nil⟩ fun x=>ih _ (h.2.2.2 x.1 x.2);exact h.elim;exact h.elim;exact h.elim
 | bd z k ih=>
   intro l A K h;cases l with
   | nil=>exact⟨_,D'.jF,_,h⟩
   | cons i l=>
     simp only[O9]at h;split at h;exact h.elim;exact h.elim;rename_i o ho hz;obtain⟨dst,op,ty,pos,after,D4⟩:=o;split at h;exact h.elim;rename_i hg;simp only at hg;subst hg;split at h;split at h;rename_i hv;split at h;rename_i heq;simp only at heq;subst heq;split at h;rename_i us e3 e4;split at h;rename_i v e5;rw[Zao,Zbl]at e3;obtain⟨rfl,e3⟩:=e3;have hz:=z.ok;rw[e4]at hz;exact gn ho hv (lC ho (AO us v hz (dV e3) e5)) (ih h);exact h.elim;exact h.elim;exact h.elim;exact h.elim;exact h.elim
 | bs k ih=>
   intro l A K h;cases l with
   | nil=>exact⟨_,D'.jF,_,h⟩
   | cons i l=>
     simp only[O9]at h;split at h;exact h.elim;exact h.elim;rename_i o ho hz;obtain⟨dst,op,ty,pos,after,D4⟩:=o;split at h;exact h.elim;rename_i hg;simp only at hg;subst hg;split at h;split at h;rename_i hv;split at h;rename_i heq;simp only at heq;subst heq;split at h;rename_i e e3;split at h;rename_i t vs e4 e5;split at h;rename_i e6;rw[Zao]at e6;exact gn ho hv (lC ho (um e t vs ⟨e3,e4⟩ (dV e6.2) e5 e6.1)) (ih h);exact h.elim;exact h.elim;exact h.elim;exact h.elim;exact h.elim;exact h.elim
 | cg c k ih=>
   intro l A K h;cases l with
   | nil=>exact⟨_,D'.jF,_,h⟩
   | cons i l=>
     simp only[O9]at h;split at h
     case h_2=>exact h.elim
     rename_i o ho hz;obtain⟨dst,op,ty,pos,after,D4⟩:=o;split at h
     case h_2=>exact h.elim
     rename_i f xs M6 j b hv e1 e2;simp only at e1 e2;subst e1 e2;split at h
     case h_2=>exact h.elim
     rename_i G h1 h2 h3;simp only[Zao,Zbl,Bool.not_eq_true']at h1;obtain⟨⟨⟨⟨rfl,h4⟩,h5⟩,h6⟩,h7⟩:=h1;revert h;cases hu:SA G (j,b) [] xs.toList A with | mk C B=>?_
     intro h;obtain⟨hC,h⟩:=kz.1 h;obtain⟨C1,u1,u2⟩:=jH xs.toList (fun t ht=>by simp at ht) hu hC;refine gn ho hv (Fz ho (dV h4) h3 u1 h5 (fun hG=>⟨u2,?_,h6,h7⟩)) (ih h.2);obtain⟨TU,hw⟩:=h.1 hG;have hc:=c.ok TU;rw[h2]at hc;have hp:=hc.DB;refine⟨hp.1,fun w Pb cargs k1 k2=>?_⟩;refine(hp.2 w Pb cargs k1 (by have:=oW _ c.args k2;rw[hw]at this;exact this)).mono ?_;rintro e w' ⟨r,x,F,Pb',rfl,⟨H,q1,_⟩,rest⟩;exact⟨r,x,F,Pb',rfl,by rw[q1],rest⟩
 | mm k ih=>
   intro l A K h;cases l with
   | nil=>exact⟨_,D'.jF,_,h⟩
   | cons i l=>
     simp only[O9]at h;split at h;exact h.elim;exact h.elim;rename_i o ho hz;obtain⟨dst,op,ty,pos,after,D4⟩:=o;split at h;exact h.elim;rename_i hg;simp only at hg;subst hg;split at h;split at h;rename_i hv;split at h;rename_i heq;simp only at heq;subst heq;split at h;rename_i kd p Ty q e1 e2 e3;obtain⟨rfl,h⟩:=h;exact gn ho hv (lC ho (zQ (dV e3) e1 e2 (.inl ⟨rfl,rfl⟩))) (ih h);rename_i kd p Ty q e1 e2 e3;obtain⟨rfl,h⟩:=h;exact gn ho hv (lC ho (zQ (dV e3) e1 e2 (.inr ⟨rfl,rfl⟩))) (ih h);exact h.elim;exact h.elim;exact h.elim;exact h.elim
 | N4 bs k ih=>
   intro l A K h;cases l with
   | nil=>exact⟨_,D'.jF,_,h⟩
   | cons i l=>
     simp only[O9]at h;split at h;exact h.elim;exact h.elim;rename_i o ho hz;obtain⟨dst,op,ty,pos,after,D4⟩:=o;split at h;exact h.elim;rename_i hg;simp only at hg;subst hg;split at h;split at h;rename_i hv;split at h;rename_i heq;simp only at heq;subst heq;split at h;rename_i fl ys e1 e2;simp only[Zao]at e1;obtain⟨rfl,h⟩:=h;obtain⟨e,q1,q2⟩:=wJ e1.1.1;exact gn ho hv (lC ho (wA e fl bs ⟨q1,q2,tJ e1.1.2⟩ (dV e1.2) e2)) (ih h);exact h.elim;exact h.elim;exact h.elim;exact h.elim
 | _=>
   intro l A K h;cases l with
   | nil=>exact⟨_,D'.jF,_,h⟩
   | cons i l=>
     simp only[O9]at h
     (repeat' split at h) <;> exact h.elim
theorem qs{K K':AS->Prop}(hK:∀ B,K B->K' B):∀ (l:List Nat) {A:AS},PJ P N ops tb zs l A K->PJ P N ops tb zs l A K'
 | [],A,h=>hK A h
 | i::l,A,h=>by
   obtain⟨o,ho,h⟩:=h;refine⟨o,ho,?_⟩;split at h;exact fun g=>qs hK l (h g);split at h;obtain⟨e1,e2,v,h1,h2⟩:=h;exact⟨e1,e2,v,h1,qs hK l h2⟩;obtain⟨G,U,h1,h2,h3⟩:=h;exact⟨G,U,h1,h2,fun g=>qs hK l (h3 g)⟩
end
section
variable {P:Program} {N:Nat} {ops:Array Oper} {A:AS}
end
def go{P:Program}(N:Nat):Code->AS->Sc P->(Exit->AS->Sc P->Prop)->Prop
 | .skip,A,s,K=>K .normal A s
 | .label _,A,s,K=>K .normal A s
 | .exit i,A,s,K=>K (.exit i) A s
 | .goto i,A,s,K=>K (.goto i) A s
 | .ret,A,s,K=>Rt N s A fun A s=>K .ret A s
 | .seq x y,A,s,K=>go N x A s fun e A s=>match e with
   | .normal=>go N y A s K
   | e=>K e A s
 | .block id c,A,s,K=>go N c A s fun e A s=>match e with
   | .exit j=>match j==id with
     | true=>K .normal A s
     | false=>K (.exit j) A s
   | e=>K e A s
 | .cond c x y,A,s,K=>Rt N s A fun A s=>match A.ev c,s with
   | .lit (.bool b),.br s1 s2=>(b=true->go N x A s1 K)/\(b=false->go N y A s2 K)
   | .lit (.bool b),.join X B ok s1 s2 k=>
     (b=true->go N x A s1 fun e A' s'=>match e with
      | .normal=>Rt N s' A' fun A' _=> ∃ x,ok x/\Xr A' (B x)
      | e=>K e A' s')/\
     (b=false->go N y A s2 fun e A' s'=>match e with
      | .normal=>Rt N s' A' fun A' _=> ∃ x,ok x/\Xr A' (B x)
      | e=>K e A' s')/\
     ∀ x,ok x->K .normal (B x) (k x)
   | _,_=>False
 | .scope c,A,s,K=>go N c A s fun e A s=>match e with
   | .goto _=>False
   | e=>K e A s
 | .loop c,A,s,K=>Rt N s A fun A s=>match s with
   | .loop X inv ok m k=>(∃ x,ok x/\Xr A (inv x))/\∀ x,ok x->go N c (inv x) (k x) fun e A' s'=>match e with
     | .normal=>Rt N s' A' fun A' _=> ∃ y,ok y/\m y<m x/\Xr A' (inv y)
     | e=>K e A' s'
   | _=>False
 | .region _ ops false,A,s,K=>Rt N s A fun A s=>E3 N ops [] s ops.toList A fun A s=>K .normal A s
 | .region _ ops true,A,s,K=>Rt N s A fun A s=>match s with
   | .dx m pl tb zs k=>match P.follows .mixedOrders&&qt ops m tb zs pl&&Dd ops m pl&&CL N ops zs with
     | true=>O9 N ops tb zs k pl A fun A s=>E3 N ops [] s (ops.toList.drop m) A fun A s=>K .normal A s
     | false=>False
   | _=>False
 | _,_,_,_=>False
section
variable {P:Program} {N:Nat} {ops:Array Oper} {A A' A1 B:AS}
variable {w:World} {Pb Kb:Nat->Prop} {a:Act} {F:l9->List Nat}
theorem JQ{X:Type} {c:Code} {Q:Exit->AS->Prop} (inv:X->AS) (ok:X->Prop) (m:X->Nat) (h0:∃ x,ok x/\Tx A (inv x).t/\S0 A (inv x).h)
 (round:∀ x,ok x->T P N c (inv x) fun e A'=>match e with
  | .normal=>Hx N A' fun A'=> ∃ y,ok y/\m y<m x/\Tx A' (inv y).t/\S0 A' (inv y).h
  | e=>Q e A'):T P N (.loop c) A Q:=by
 obtain⟨x0,hx0,l0,r0⟩:=h0;refine Lb (fun n A=> ∃ x,m x=n/\ok x/\Tx A (inv x).t/\S0 A (inv x).h) (m x0) ⟨x0,rfl,hx0,l0,r0⟩ ?_;rintro n A ⟨x,rfl,hx,h1,h2⟩;refine Nc h1 h2 (mr (lR (round x hx) fun e A' hq=>?_));cases e with
 | normal=>exact Hx.mono hq fun B ⟨y,k1,k2,k3,k4⟩=>⟨m y,k2,y,rfl,k1,k3,k4⟩
 | _=>exact Hx.of hq
def ngo(Q:Exit->AS->Prop):Exit->AS->Prop
 | .goto _,_=>False
 | e,A=>Q e A
theorem Ku{c:Code}{Q:Exit->AS->Prop}(h:T P N c A (ngo Q)):T P N (.scope c) A Q:=by
 intro Pb Kb a w F hs;refine wp_scope_straight (wp_mono (h Pb Kb a w F hs) fun e a' w' hn=>?_);cases e with
 | goto l=>obtain⟨_,_,_,_,h,_⟩:=hn;exact h
 | _=>exact hn
theorem IM:∀ (c:Code) {A:AS} {s:Sc P} {K:Exit->AS->Sc P->Prop},go N c A s K->T P N c A fun e B=> ∃ s',K e B s':=by
 intro c;induction c with
 | skip=>intro A s K h;exact KR ⟨_,h⟩
 | label l=>intro A s K h;exact IV ⟨_,h⟩
 | exit i=>intro A s K h;exact Ld ⟨_,h⟩
 | goto i=>intro A s K h;exact My ⟨_,h⟩
 | ret=>intro A s K h;exact oL ((kN s h).mono fun B hB=>Nb hB)
 | seq x y Xt Xs=>
   intro A s K h;refine MR (lR (Xt h) fun e B hB=>?_);obtain⟨s',hB⟩:=hB;cases e with
   | normal=>exact Xs hB
   | _=>exact⟨_,hB⟩
 | scope c ih=>
   intro A s K h;refine Ku (lR (ih h) fun e B hB=>?_);obtain⟨s',hB⟩:=hB;cases e with
   | goto l=>exact hB
   | _=>exact⟨_,hB⟩
 | block id c ih=>
   intro A s K h;refine Jt (lR (ih h) fun e B hB=>?_);obtain⟨s',hB⟩:=hB;cases e with
   | exit j=>
     simp only[blk];simp only at hB;split at hB;rename_i e;rw[if_pos Zb5];exact⟨_,hB⟩;rename_i e;rw[if_neg Zb5];exact⟨_,hB⟩
   | _=>exact⟨_,hB⟩
 | cond c x y Xt Xs=>
   intro A s K h;refine oL ((kN s h).mono fun B hB=>?_);obtain⟨s',hB⟩:=hB;split at hB;rename_i e;exact Ee e (fun hb=>Xt (hB.1 hb)) (fun hb=>Xs (hB.2 hb));rename_i b X I ok s1 s2 k e;obtain⟨h1,h2,h3⟩:=hB
   have step:∀ (z:Code) (K':Exit->AS->Sc P->Prop),(∀ A' s',K' .normal A' s'->Rt N s' A' fun A' _=> ∃ x,ok x/\Xr A' (I x))->(∀ e,e≠.normal->∀ A' s',K' e A' s'->K e A' s')->
    (T P N z B fun e A'=> ∃ s',K' e A' s')->T P N z B fun e A'=> ∃ s',K e A' s':=fun z K' hn ho hz=>by
    refine mr (lR hz fun e A' hq=>?_);obtain⟨s',hq⟩:=hq;by_cases he:e=.normal;subst he;refine(kN s' (hn _ _ hq)).bind fun B' hB'=>?_;obtain⟨_,x,k1,k2⟩:=hB';exact IS (rZ k2).1 (rZ k2).2 ⟨_,h3 x k1⟩;exact Hx.of ⟨_,ho e he _ _ hq⟩
   refine Ee e (fun hb=>step _ _ ?_ ?_ (Xt (h1 hb))) (fun hb=>step _ _ ?_ ?_ (Xs (h2 hb)));exact fun _ _ h=>h;intro e he A' s' h;cases e <;> first | exact h | exact absurd rfl he
   exact fun _ _ h=>h;intro e he A' s' h;cases e <;> first | exact h | exact absurd rfl he
   exact hB.elim
 | loop c ih=>
   intro A s K h;refine oL ((kN s h).mono fun B hB=>?_);obtain⟨s',hB⟩:=hB;split at hB;rename_i X inv ok m k;refine JQ inv ok m (by obtain⟨x,a,b⟩:=hB.1;exact⟨x,a,rZ b⟩) fun x hx=>lR (ih (hB.2 x hx)) fun e A' hq=>?_;obtain⟨s',hq⟩:=hq;cases e with
   | normal=>exact(kN s' hq).mono fun B ⟨_,y,a,b,c⟩=>⟨y,a,b,rZ c⟩
   | _=>exact⟨_,hq⟩
   exact hB.elim
 | region id ops draw=>
   intro A s K h;cases draw with
   | false=>exact oL ((kN s h).mono fun B ⟨s',hB⟩=>GD (ES s' hB))
   | true=>
     refine oL ((kN s h).mono fun B hB=>?_);obtain⟨s',hB⟩:=hB;split at hB;split at hB;rename_i e;simp only[Zao]at e;exact wN e.1.1.1 e.1.1.2 e.2 e.1.2 (qs (fun B ⟨B',hA,s',hB⟩=>⟨B',hA,ES s' hB⟩) _ (MG _ hB));exact hB.elim;exact hB.elim
 | _=>intro A s K h;exact h.elim
def qk(H:List (Nat×(Nat×V)))(xs:List l9):Bool:=xs.all fun r=>match r with
 | .key k=>(lk k H).isNone
 | .slot _=>true
def xb(rs:List ResultVar)(Q:V->AS->Prop)(H:List (Nat×(Nat×V)))(A:AS):Prop:=match yP A rs with
    | some (C,xs)=>match kF P rs xs&&nodupB (xs.map (·.1))&&qk H (xs.map (·.1)) with
      | true=>cj C (Q (one (xs.map (·.2))) A)
      | false=>False
    | none=>False
def zI(N:Nat)(rs:List ResultVar)(Q:V->AS->Prop)(H:List (Nat×(Nat×V))):Exit->AS->Sc P->Prop:=fun e A s=>match e with
 | .normal=>Rt N s A fun A _=>xb (P:=P) rs Q H A
 | .ret=>xb (P:=P) rs Q H A
 | _=>False
theorem qx{H:List (Nat×(Nat×V))}{xs:List l9}(h:qk H xs=true)(k:Nat)(hk:lk k H≠none):l9.key k ∉ xs:=fun c=>by
 unfold qk at h;rw[Za2]at h;have:=h _ c;simp only[Option.isNone_iff_eq_none]at this;exact hk this
theorem PF.wkr{f:FuncId} {args:List V} {H:List (Nat×(Nat×V))} {X:Type} {post:X->Prop} {E:X->V} {H':X->List (Nat×(Nat×V))}
 (h:PF P f args H (fun r h=> ∃ x,post x/\wk r (E x)=E x/\h=H' x)):PF P f args H (fun r h=> ∃ x,post x/\r=E x/\h=H' x):=
 ⟨h.1,fun w Pb Kb cargs F hi=>(h.2 w Pb Kb cargs F hi).mono fun e w'=>by
  rintro⟨r,x,H1,Pb',E7,F',rfl,⟨z,q1,q2,rfl⟩,hf⟩;exact⟨E z,x,H' z,Pb',E7,F',rfl,⟨z,q1,rfl,rfl⟩,by have:=yr (E z) hf.val;rw[q2]at this;exact⟨this,hf.root,hf.ck,hf.nodup,hf.free,hf.sub,hf.bound,hf.mP,hf.mK,hf.Tv,hf.fb⟩⟩⟩
theorem uH{f:FuncId} {fn:Func} {c:Code} {args:List V} {H:List (Nat×(Nat×V))} {N:Nat} {rs:List ResultVar} {X:Type} {post:X->Prop} {E:X->V} {H':X->List (Nat×(Nat×V))}
 (hf:P.funcs[f]? =some fn) (UZ:(fn.name== "runtime.NumGoroutine")=false) (hb:fn.body=some c) (hN:fn.ntmps=N) (Ym:fn.results.toList=rs) (hlen:Nat.ble args.length N=true)
 (HK:List (Nat×(Nat×V))) (hHK:∀ x k,lk k (H' x)≠none->lk k HK≠none)
 (sc:Sc P) (VC:Prop) (he:VC=go N c ⟨enum 0 args,H⟩ sc (zI N rs (fun v A=> ∃ x,post x/\py A (H' x) (wk v (E x)=E x)) HK)) (h:VC):
 PF P f args H (fun r h=> ∃ x,post x/\r=E x/\h=H' x):=by
 subst hN Ym;rw[he]at h;refine PF.wkr (CC hf hb (ey hf UZ (by rw[hb];rfl)) (Nat.le_of_ble_eq_true hlen) (mr (lR (IM _ h) ?_)));rintro e A0 ⟨s0,hq⟩;have fin:∀ A,(e=.normal\/e=.ret)->xb (P:=P) fn.results.toList (fun v A=> ∃ x,post x/\py A (H' x) (wk v (E x)=E x)) HK A->HA P fn.results.toList (fun r h=> ∃ x,post x/\wk r (E x)=E x/\h=H' x) e A:=fun A he hq=>by
  unfold xb at hq;split at hq;rename_i C xs e1;split at hq;rename_i e2;simp only[Zao]at e2;obtain⟨hC,x,q1,hq⟩:=kz.1 hq;obtain⟨q2,q3⟩:=tV hq;obtain⟨C',f1,f2⟩:=so e1 hC;exact⟨he,xs,H' x,sI f1 f2,pt e2.1.1,uu e2.1.2,q3,fun k hk=>qx e2.2 k (hHK x k hk),x,q1,q2,rfl⟩;exact hq.elim;exact hq.elim
 cases e with
 | normal=>exact(kN s0 hq).mono fun B ⟨_,hB⟩=>fin B (.inl rfl) hB
 | ret=>exact Hx.of (fin A0 (.inr rfl) hq)
 | _=>exact hq.elim
theorem Le{f:FuncId} {fn:Func} {c:Code} {args:List V} {H:List (Nat×(Nat×V))} {N:Nat} {rs:List ResultVar} {E:V} {H':List (Nat×(Nat×V))}
 (hf:P.funcs[f]? =some fn) (UZ:(fn.name== "runtime.NumGoroutine")=false) (hb:fn.body=some c) (hN:fn.ntmps=N) (Ym:fn.results.toList=rs) (hlen:Nat.ble args.length N=true)
 (sc:Sc P) (VC:Prop) (he:VC=go N c ⟨enum 0 args,H⟩ sc (zI N rs (fun v A=>py A H' (wk v E=E)) H')) (h:VC):
 PF P f args H (fun r h=>r=E/\h=H'):=by
 subst hN Ym;rw[he]at h;have:=PF.wkr (X:=Unit) (post:=fun _=>True) (E:=fun _=>E) (H':=fun _=>H') (CC (P:=P) (f:=f) (args:=args) (H:=H) (Q:=fun r h=> ∃ _:Unit,True/\wk r E=E/\h=H') hf hb (ey hf UZ (by rw[hb];rfl)) (Nat.le_of_ble_eq_true hlen) (mr (lR (IM _ h) ?_)));exact this.mono fun r H ⟨_,_,h1,h2⟩=>⟨h1,h2⟩;rintro e A0 ⟨s0,hq⟩;have fin:∀ A,(e=.normal\/e=.ret)->xb (P:=P) fn.results.toList (fun v A=>py A H' (wk v E=E)) H' A->HA P fn.results.toList (fun r h=> ∃ _:Unit,True/\wk r E=E/\h=H') e A:=fun A he hq=>by
  unfold xb at hq;split at hq;rename_i C xs e1;split at hq;rename_i e2;simp only[Zao]at e2;obtain⟨hC,hq⟩:=kz.1 hq;obtain⟨q2,q3⟩:=tV hq;obtain⟨C',f1,f2⟩:=so e1 hC;exact⟨he,xs,H',sI f1 f2,pt e2.1.1,uu e2.1.2,q3,fun k hk=>qx e2.2 k hk,(),trivial,q2,rfl⟩;exact hq.elim;exact hq.elim
 cases e with
 | normal=>exact(kN s0 hq).mono fun B ⟨_,hB⟩=>fin B (.inl rfl) hB
 | ret=>exact Hx.of (fin A0 (.inr rfl) hq)
 | _=>exact hq.elim
end
theorem gO{xs:List V}{j sz g0 o0 g o c:Nat}{v:V}(h:xs[j]? =some v):V.at g0 o0 (.own sz xs g o c) [j]=some (g,o+j*sz,v):=by simp only[V.at,h]
theorem nf{xs ys:List V}{j sz g o c:Nat}{x v:V}(h:xs[j]? =some x)(e:xs.set j v=ys):V.set (.own sz xs g o c) [j] v=.own sz ys g o c:=by simp only[V.set,h,e]
theorem Xd{x y:V}{r:List V}(h:x=y):V.agg (x::r)=V.agg (y::r):=by rw[h]
theorem oC{x y u:V}{r:List V}{p:List Nat}(h:V.set x p u=y):V.set (.agg (x::r)) (0::p) u=V.agg (y::r):=by rw[<- h];rfl
theorem Q6{a0 x y:V}{r:List V}(h:x=y):V.agg (a0::x::r)=V.agg (a0::y::r):=by rw[h]
theorem Hf{a0 x y u:V}{r:List V}{p:List Nat}(h:V.set x p u=y):V.set (.agg (a0::x::r)) (1::p) u=V.agg (a0::y::r):=by rw[<- h];rfl
theorem I9{a0 a1 x y:V}{r:List V}(h:x=y):V.agg (a0::a1::x::r)=V.agg (a0::a1::y::r):=by rw[h]
theorem nH{a0 a1 x y u:V}{r:List V}{p:List Nat}(h:V.set x p u=y):V.set (.agg (a0::a1::x::r)) (2::p) u=V.agg (a0::a1::y::r):=by rw[<- h];rfl
theorem OE{a0 a1 a2 a3 a4 x y u:V}{r:List V}{p:List Nat}(h:V.set x p u=y):V.set (.agg (a0::a1::a2::a3::a4::x::r)) (5::p) u=V.agg (a0::a1::a2::a3::a4::y::r):=by rw[<- h];rfl
abbrev m5(x:Int):Prop:= -9223372036854775808<=x/\x<=9223372036854775807
abbrev Rv(x:Int):Prop:=0<=x/\x<=255
abbrev Ix{α:Type}(i:Int)(s:List α):Prop:=0<=i/\i<s.length
abbrev Sx{α:Type}(lo hi:Int)(s:List α):Prop:=0<=lo/\lo<=hi/\hi<=s.length
abbrev Ex(i:Int)(xs:List V)(v:V):Prop:=0<=i/\xs[Int.toNat i]? =some v
abbrev r6(a b:Int):Bool:=decide (a<b)
abbrev E2(a b:Int):Bool:=decide (a<=b)
abbrev s7(a b:Int):Bool:=decide (a>b)
abbrev A9(a b:Int):Bool:=decide (a>=b)
abbrev o4(a b:Int):Bool:=a==b
abbrev D1(a b:Int):Bool:=a != b
abbrev Br(b:Bool)(p q:Prop):Prop:=(b=true->p)/\(b=false->q)
abbrev Gd(b:Bool)(p:Prop):Prop:=b=true->p
abbrev Q(x y:V):Prop:=x=y
abbrev E(x:V):Prop:=x=x
abbrev Qr(g:Nat)(x:V)(g':Nat)(y:V):Prop:=(g,x)=(g',y)
abbrev Er(g:Nat)(x:V):Prop:=(g,x)=(g,x)
abbrev Z(g o:Nat):Prop:=(g,o)=(g,o)
abbrev In(i:Int)(n:Nat):Prop:=0<=i/\i<n
abbrev Pk(c a b:Bool):Prop:=(c=true->a=true)/\(c=false->b=true)
theorem nb:(∀ (p:Prop) [Decidable p],(decide p=true)=p)/\(∀ (p:Prop) [Decidable p],(decide p=false)= ¬ p)/\(∀ a b:Int,(¬ a<b)=(b<=a))/\(∀ a b:Int,(¬ a<=b)=(b<a))/\(∀ a b:Int,(a>b)=(b<a))/\(∀ a b:Int,(a>=b)=(b<=a))/\
 (∀ (α:Type) [BEq α] [LawfulBEq α] (a b:α),((a==b)=true)=(a=b))/\(∀ (α:Type) [BEq α] [LawfulBEq α] (a b:α),((a==b)=false)= ¬ a=b)/\
 (∀ (α:Type) [BEq α] [LawfulBEq α] (a b:α),((a != b)=true)= ¬ a=b)/\(∀ (α:Type) [BEq α] [LawfulBEq α] (a b:α),((a != b)=false)=(a=b))/\
 (∀ a b:Bool,((a||b)=true)=(a=true\/b=true))/\(∀ a b:Bool,((a||b)=false)=(a=false/\b=false))/\(∀ a b:Bool,((a&&b)=true)=(a=true/\b=true))/\(∀ a b:Bool,((a&&b)=false)=(a=true->b=false))/\
 (∀ a:Bool,((!a)=true)=(a=false))/\(∀ a:Bool,((!a)=false)=(a=true))/\(∀ a:Bool,(¬ a=true)=(a=false))/\(∀ a:Bool,(¬ a=false)=(a=true))/\(∀ p:Prop,(¬ ¬ p)=p)/\
 (∀ a:Bool,(a==true)=a)/\(∀ a:Bool,(a==false)=!a)/\(∀ a:Bool,(true&&a)=a)/\(∀ a:Bool,(a&&true)=a)/\((!true)=false)/\((!false)=true)/\(∀ a:Bool,(!!a)=a)/\(∀ (α β:Type) (f:α->β) (l:List α),(l.map f).length=l.length):=by
 refine⟨fun p _=>by simp,fun p _=>by simp,fun a b=>by simp,fun a b=>by simp,fun a b=>rfl,fun a b=>rfl,fun α _ _ a b=>by simp,fun α _ _ a b=>by simp,fun α _ _ a b=>by simp,fun α _ _ a b=>by simp,fun a b=>by simp,fun a b=>by simp,fun a b=>by simp,fun a b=>by cases a <;> simp,
  fun a=>by simp,fun a=>by simp,fun a=>by simp,fun a=>by simp,fun p=>by simp,fun a=>by simp,fun a=>by simp,fun a=>by simp,fun a=>by simp,rfl,rfl,fun a=>by simp,fun _ _ f l=>Zay ..⟩
section
variable {w w':World} {Pb Kb Pb':Nat->Prop} {N:Nat} {A A' A1 B:AS} {a:Act} {F:l9->List Nat}
end
theorem NU{P:Program} {f:FuncId} {fn:Func} {args:List V} {H:List (Nat×(Nat×V))} {N:Nat} {rs:List ResultVar} {E:V} {H':List (Nat×(Nat×V))}
 (hf:P.funcs[f]? =some fn) (sc:Sc P) (VC:Prop) (h:VC) (UZ:(fn.name== "runtime.NumGoroutine")=false:=by kernel_rfl) (hb:fn.body.isSome=true:=by kernel_rfl) (hN:fn.ntmps=N:=by kernel_rfl) (Ym:fn.results.toList=rs:=by kernel_rfl) (hlen:Nat.ble args.length N=true:=by kernel_rfl)
 (he:VC=go N (fn.body.getD .skip) ⟨enum 0 args,H⟩ sc (zI N rs (fun v A=>py A H' (wk v E=E)) H'):=by kernel_rfl):PF P f args H (fun r h=>r=E/\h=H'):=by
 cases W1:fn.body with
 | none=>rw[W1]at hb;cases hb
 | some c=>
   rw[W1]at he;exact Le hf UZ W1 hN Ym hlen sc VC he h
abbrev Sc.q{P:Program}(n:Nat)(k:Sc P):Sc P:=.r n [] k
theorem bI{c:Bool}{P Q p q:Prop}(a:p->P)(b:q->Q)(h1:(c=true)=p:=by first | (conv=>lhs;simp only[nb]) | rfl)(h2:(c=false)=q:=by first | (conv=>lhs;simp only[nb]) | rfl):Br c P Q:=⟨fun h=>a (h1 ▸ h),fun h=>b (h2 ▸ h)⟩
theorem aq{P:Program}{f:FuncId}{fn:Func}{args:List V}{H:List (Nat×(Nat×V))}{E:V}{H':List (Nat×(Nat×V))}(hf:P.funcs[f]? =some fn)(sc:Sc P)(VC:Prop)(h:VC)(UZ:(fn.name== "runtime.NumGoroutine")=false:=by kernel_rfl)(hb:fn.body.isSome=true:=by kernel_rfl)(hlen:Nat.ble args.length fn.ntmps=true:=by kernel_rfl)(he:VC=go fn.ntmps (fn.body.getD .skip) ⟨enum 0 args,H⟩ sc (zI fn.ntmps fn.results.toList (fun v A=>py A H' (wk v E=E)) H'):=by kernel_rfl):PF P f args H (fun r h=>r=E/\h=H'):=NU hf sc VC h UZ hb rfl rfl hlen he
theorem fU{P:Program}{f:FuncId}{fn:Func}{args:List V}{H:List (Nat×(Nat×V))}{X:Type}{post:X->Prop}{E:X->V}{H':X->List (Nat×(Nat×V))}(hf:P.funcs[f]? =some fn)(sc:Sc P)(VC:Prop)(h:VC)(UZ:(fn.name== "runtime.NumGoroutine")=false:=by kernel_rfl)(hb:fn.body.isSome=true:=by kernel_rfl)(hlen:Nat.ble args.length fn.ntmps=true:=by kernel_rfl)(hHK:∀ x k,lk k (H' x)≠none->lk k (H.map fun x=>(x.1,(0,V.b9)))≠none:=by intro _ k;simp[lk])(he:VC=go fn.ntmps (fn.body.getD .skip) ⟨enum 0 args,H⟩ sc (zI fn.ntmps fn.results.toList (fun v A=> ∃ x,post x/\py A (H' x) (wk v (E x)=E x)) (H.map fun x=>(x.1,(0,V.b9)))):=by kernel_rfl):PF P f args H (fun r h=> ∃ x,post x/\r=E x/\h=H' x):=by
 cases W1:fn.body with
 | none=>rw[W1]at hb;cases hb
 | some c=>
   rw[W1]at he;exact uH hf UZ W1 rfl rfl hlen _ hHK sc VC he h
abbrev kp(k g:Nat):V:=.ptr (.key k) [] g 0
abbrev n6(a b:List Nat):Sa:=⟨false,[],some a,b,[]⟩
abbrev Sc.C6{P:Program}(m:Nat)(tb:List (Nat×Sa))(k:Sc P):Sc P:=.dx m (List.range m) tb [] k
abbrev Sc.o6{P:Program}(k:Sc P):Sc P:=.r 1 [.b9] k
def Sc.l8{P:Program}:Nat->Sc P->Sc P
 | 0,k=>k
 | n+1,k=>.r 1 [] (Sc.l8 n k)
theorem ak{p:Prop}(h:p:=by repeat' (first | exact rfl | exact trivial | exact fun h=>h | exact fun hG=>rfl | exact fun hG=>trivial | exact fun hG=>⟨trivial,rfl⟩ | exact fun _=>rfl | exact fun _=>trivial | exact fun _ h=>h | exact⟨fun _=>rfl,fun h=>by rw[h] <;> rfl⟩ | exact⟨fun h=>by rw[h] <;> rfl,fun _=>rfl⟩ | exact fun hG=>⟨fun h=>by rw[h];exact(Zao _ _).mpr ⟨hG,rfl⟩,fun _=>rfl⟩ | exact fun hG=>⟨fun _=>rfl,fun h=>by rw[h];exact(Zao _ _).mpr ⟨hG,rfl⟩⟩ | omega | refine And.intro ?_ ?_ | ((try simp only[Zay]at *);omega) | ((try simp only[Zay]at *);(try simp only[Zap,Zay,Zar,Zau,List.length_take,List.length_drop]);omega) | (simp[aS,V.n,V.ns]) | exact fun hG=>by(try simp only[nb]at hG);omega | exact fun hG=>by(try simp only[nb]at hG);(try simp only[Zay]at *);omega | exact fun hG=>by(try simp only[nb]at hG);(try simp only[Zay]at *);(try simp only[Zap,Zay,Zar,Zau,List.length_take,List.length_drop]);omega | (simp;omega) | assumption)):p:=h
theorem ag{A Z:Prop}(z:Z)(a:A:=by exact ak):A/\Z:=⟨a,z⟩
theorem aQ{A B Z:Prop}(z:Z)(a:A/\B:=by exact ak):A/\B/\Z:=⟨a.1,a.2,z⟩
theorem aX{A B C Z:Prop}(z:Z)(a:A/\B/\C:=by exact ak):A/\B/\C/\Z:=⟨a.1,a.2.1,a.2.2,z⟩
theorem cF{A B C D Z:Prop}(z:Z)(a:A/\B/\C/\D:=by exact ak):A/\B/\C/\D/\Z:=⟨a.1,a.2.1,a.2.2.1,a.2.2.2,z⟩
theorem ej{A B C D E Z:Prop}(z:Z)(a:A/\B/\C/\D/\E:=by exact ak):A/\B/\C/\D/\E/\Z:=⟨a.1,a.2.1,a.2.2.1,a.2.2.2.1,a.2.2.2.2,z⟩
theorem lu{A B C D E F Z:Prop}(z:Z)(a:A/\B/\C/\D/\E/\F:=by exact ak):A/\B/\C/\D/\E/\F/\Z:=⟨a.1,a.2.1,a.2.2.1,a.2.2.2.1,a.2.2.2.2.1,a.2.2.2.2.2,z⟩
theorem za{A B C D E F G Z:Prop}(z:Z)(a:A/\B/\C/\D/\E/\F/\G:=by exact ak):A/\B/\C/\D/\E/\F/\G/\Z:=⟨a.1,a.2.1,a.2.2.1,a.2.2.2.1,a.2.2.2.2.1,a.2.2.2.2.2.1,a.2.2.2.2.2.2,z⟩
theorem fW{A B C D E F G H Z:Prop}(z:Z)(a:A/\B/\C/\D/\E/\F/\G/\H:=by exact ak):A/\B/\C/\D/\E/\F/\G/\H/\Z:=⟨a.1,a.2.1,a.2.2.1,a.2.2.2.1,a.2.2.2.2.1,a.2.2.2.2.2.1,a.2.2.2.2.2.2.1,a.2.2.2.2.2.2.2,z⟩
mutual
def V.lits:V->Option (List Value)
 | .lit x=>if x.oneCell' then some [x] else none
 | .agg vs=>V.sd vs
 | _=>none
def V.sd:List V->Option (List Value)
 | []=>some []
 | v::vs=>match v.lits,V.sd vs with
   | some a,some b=>some (a++b)
   | _,_=>none
end
def V.val?:V->Option Value
 | .lit x=>if x.oneCell' then some x else none
 | .agg us=>(V.sd us).map fun l=>.agg l.toArray
 | .ptr _ _ g o=>some (.pointer (some ⟨g,o,none⟩))
 | _=>none
section
variable {w w':World} {Pb Kb Pb':Nat->Prop} {N:Nat} {A A' B:AS} {a:Act} {F:l9->List Nat} {P:Program} {ops:Array Oper}
mutual
theorem AI:∀ (v:V) {l},v.lits=some l->∀ {cs F},R w Pb v cs F↔cs=l/\F=[]
 | .lit x,l,h,cs,F=>by
   simp only[V.lits]at h;split at h;rename_i hx;simp at h;subst h;simp only[R];exact⟨fun h=>h.2,fun h=>⟨hx,h⟩⟩;simp at h
 | .agg vs,l,h,cs,F=>by simp only[V.lits]at h;simp only[R];exact sw vs h
 | .sl ..,_,h,_,_=>by simp[V.lits]at h
 | .tup _,_,h,_,_=>by simp[V.lits]at h
 | .gv _ _,_,h,_,_=>by simp[V.lits]at h
 | .own ..,_,h,_,_=>by simp[V.lits]at h
 | .hd ..,_,h,_,_=>by simp[V.lits]at h
 | .ow ..,_,h,_,_=>by simp[V.lits]at h
 | .om ..,_,h,_,_=>by simp[V.lits]at h
 | .mp ..,_,h,_,_=>by simp[V.lits]at h
 | .ptr ..,_,h,_,_=>by simp[V.lits]at h
 | .ep _,_,h,_,_=>by simp[V.lits]at h
 | .b9,_,h,_,_=>by simp[V.lits]at h
theorem sw:∀ (vs:List V) {l},V.sd vs=some l->∀ {cs F},RL w Pb vs cs F↔cs=l/\F=[]
 | [],l,h,cs,F=>by simp[V.sd]at h;subst h;simp[RL]
 | v::vs,l,h,cs,F=>by
   simp only[V.sd]at h;split at h;rename_i a b h1 h2;simp at h;subst h;simp only[RL,AI v h1,sw vs h2];exact⟨fun⟨_,_,_,_,e1,e2,⟨e3,e4⟩,e5,e6⟩=>⟨by rw[e1,e3,e5],by rw[e2,e4,e6];rfl⟩,fun⟨e1,e2⟩=>⟨_,_,_,_,e1,(by rw[e2];rfl:_=([]:List Nat)++[]),⟨rfl,rfl⟩,rfl,rfl⟩⟩;simp at h
end
theorem ME{v:V}{x y:Value}{Fx:List Nat}(h:v.val? =some y)(hr:RV w Pb v x Fx):x=y/\Fx=[]:=by
 cases v with
 | lit z=>
   simp only[V.val?]at h;split at h;obtain⟨_,e,hF⟩:=(hr:R w Pb (.lit z) [x] Fx);simp at e h;exact⟨by rw[e,h],hF⟩;simp at h
 | agg us=>
   simp only[V.val?,Option.map_eq_some_iff]at h;obtain⟨l,h1,rfl⟩:=h;obtain⟨cs,rfl,hr⟩:=(hr:∃ cs,x=.agg cs/\RL w Pb us cs.toList Fx);obtain⟨e1,e2⟩:=(sw us h1).1 hr;exact⟨by rw[<- e1],e2⟩
 | ptr r p g o=>
   simp only[V.val?,Zan]at h;subst h;obtain⟨hF,e⟩:=(hr:R w Pb (.ptr r p g o) [x] Fx);simp at e;exact⟨e,hF⟩
 | _=>simp[V.val?]at h
theorem vU{v:V}{y:Value}(h:v.val? =some y):RV w Pb v y []:=by
 cases v with
 | lit z=>
   simp only[V.val?]at h;split at h;rename_i hz;simp at h;subst h;exact⟨hz,rfl,rfl⟩;simp at h
 | agg us=>
   simp only[V.val?,Option.map_eq_some_iff]at h;obtain⟨l,h1,rfl⟩:=h;exact⟨_,rfl,(sw us h1).2 ⟨rfl,rfl⟩⟩
 | ptr r p g o=>
   simp only[V.val?,Zan]at h;subst h;exact⟨rfl,rfl⟩
 | _=>simp[V.val?]at h
theorem nj(hs:u7 N Pb Kb A a w F){x:Operand}{y:Value}(h:(A.ev x).val? =some y):a.eval x=y:=by
 obtain⟨_,hr⟩:=dS hs x;exact(ME h hr).1
theorem CF{v:V}{y:Value}{vs:List V}{xs:List Value}(h:v.val? =some y)(hr:RVs w Pb vs xs []):RVs w Pb (v::vs) (y::xs) []:=by
 have:=vU (w:=w) (Pb:=Pb) h;refine⟨y,xs,[],[],rfl,rfl,?_,hr⟩;cases v with
 | agg us=>exact this
 | lit _=>exact this
 | ptr _ _ _ _=>exact this
 | _=>simp[V.val?]at h
theorem rL{v1 v2:V}{y1 y2:Value}(h1:v1.val? =some y1)(h2:v2.val? =some y2):RV w Pb (.tup [v1,v2]) (.tuple #[y1,y2]) []:=
 ⟨_,rfl,CF h1 (CF h2 ⟨rfl,rfl⟩)⟩
theorem u7.mod(hs:u7 N Pb Kb A a w F) {t g:Nat} {v':V} (hg:g∈F (.slot t)) (hk:∀ k,k≠g->w'.heap[k]? =w.heap[k]?) (hsz:w'.heap.size=w.heap.size)
 (hv:RV w' Pb v' (a.tmps.getD t undef) (F (.slot t))):u7 N Pb Kb (A.put (some t) v') a w' F where
 size:=hs.size
 defers:=hs.defers
 slot:=fun i=>by
  rw[AS.aB];split;rename_i e;subst e;exact hv;rename_i e;refine mI _ (hs.slot i) (fun x hx=>hk x fun c=>?_) (fun x hx=>hk x fun c=>?_) (fun _ h=>h) (fun x hx c=>(hs.free _ x hx).1 (hs.sub x c));subst c;exact(hs.free _ _ hg).1 (hs.sub _ hx);subst c;exact hs.ck (.slot i) (.slot t) (fun c=>e (by injection c)) _ hx hg
 root:=fun k g' v h=>by
  obtain⟨F',e,hA⟩:=hs.root k g' v h;refine⟨F',e,?_⟩;have hne:∀ x,x∈g'::F'->x≠g:=fun x hx c=>by
   subst c;exact hs.ck (.key k) (.slot t) Zad _ (by rw[e];exact hx) hg
  obtain⟨cs,cells,⟨e1,fr,hb,hfr⟩,hr,hc⟩:=hA
  exact⟨cs,cells,⟨e1,fr,(hk g' (hne g' Zad)).trans hb,hfr⟩,gD _ hr (fun x hx=>hk x fun c=>by subst c;exact(hs.free _ _ hg).1 (hs.sub _ hx)) (fun x hx=>hk x (hne x (by simp[hx]))) (fun _ h=>h)
   (fun x hx c=>(hs.free (.key k) x (by rw[e];simp[hx])).1 (hs.sub x c)),hc⟩
 ck:=hs.ck
 nodup:=hs.nodup
 free:=fun r x hx=>by rw[hsz];exact hs.free r x hx
 sub:=hs.sub
 bound:=fun x hx=>by rw[hsz];exact hs.bound x hx
theorem gu{o:Oper} {K:AS->Prop} {d:Nat} {v:V} (hd:o.dst=some d) (hN:d<N) (hK:K (A.put (some d) v))
 (h:∀ Pb Kb a w F,u7 N Pb Kb A a w F->∃ x,(execOp a.eval o).run P w=.ok (.value x) w/\RV w Pb v x []):F9 P N o A K:=
 hY (by rw[hd];exact hN) (by rw[hd];exact hK) h
end
section
variable {P:Program}
def ZE:Cu P where
 X:=Unit
 pre N o A:=match o.op,o.dst with
  | .makeInterface T x,some d=>match Nat.blt d N,tD P T,(A.ev x).val? with
    | true,some _,some y=>(∃ td,P.underlying T=some td/\(∀ i,td≠.interface i))/\(Value.iface T y).oneCell'=true
    | _,_,_=>False
  | _,_=>False
 post _ o A:=match o.op,o.dst with
  | .makeInterface T x,some d=>match (A.ev x).val? with
    | some y=>A.put (some d) (.lit (.iface T y))
    | none=>A
  | _,_=>A
 ok:=by
  rintro N ⟨dst,op,ty,pos,after,D4⟩ A K-hp hK;replace hK:=hK ();simp only at hp hK;split at hp;rename_i T x d;split at hp;rename_i td0 y e1 e2 e3;obtain⟨⟨td,h1,h2⟩,h3⟩:=hp;simp only[e3]at hK;refine gu rfl (bF e1) hK fun Pb Kb a w F hs=>⟨.iface T y,?_,dq h3⟩;have hy:=nj hs e3;have hu:=aH (w:=w) h1;cases td with
  | interface i=>exact absurd rfl (h2 i)
  | _=>simp[execOp,Instr.makeInterface,Za0,hu,hy]
  exact hp.elim;exact hp.elim
def YS(v:V):Cu P where
 X:=Unit
 pre N o A:=match o.op,o.dst with
  | .typeAssert x _ T true,some d=>match Nat.blt d N,A.ev x,v.val? with
    | true,.lit (.iface T' y),some y'=>(∃ td,P.underlying T=some td/\(∀ i,td≠.interface i))/\T'=T/\y'=y
    | _,_,_=>False
  | _,_=>False
 post _ o A:=match o.dst with
  | some d=>A.put (some d) (.tup [v,bV true])
  | none=>A
 ok:=by
  rintro N ⟨dst,op,ty,pos,after,D4⟩ A K-hp hK;replace hK:=hK ();simp only at hp hK;split at hp;rename_i x T1 T d;split at hp;rename_i T' y y' e1 e2 e3;obtain⟨⟨td,h1,h2⟩,rfl,rfl⟩:=hp;refine gu rfl (bF e1) hK fun Pb Kb a w F hs=>⟨.tuple #[y',.bool true],?_,rL e3 rfl⟩;have hy:=bX hs e2;have hu:=aH (w:=w) h1;cases td with
  | interface i=>exact absurd rfl (h2 i)
  | _=>simp[execOp,Instr.typeAssert,Za0,hu,hy]
  exact hp.elim;exact hp.elim
def X9(z:ZT P):Cu P where
 X:=Unit
 pre N o A:=match o.op,o.dst with
  | .typeAssert x _ T true,some d=>match Nat.blt d N,A.ev x,T==z.T with
    | true,.lit (.iface T' y),true=>(∃ td,P.underlying T=some td/\(∀ i,td≠.interface i))/\T'≠T/\(∃ y,z.v.val? =some y/\∀ w,(zeroValue T).run P w=.ok y w)
    | _,_,_=>False
  | _,_=>False
 post _ o A:=match o.dst with
  | some d=>A.put (some d) (.tup [z.v,bV false])
  | none=>A
 ok:=by
  rintro N ⟨dst,op,ty,pos,after,D4⟩ A K-hp hK;replace hK:=hK ();simp only at hp hK;split at hp;rename_i x T1 T d;split at hp;rename_i T' y e1 e2 e3;obtain⟨⟨td,h1,h2⟩,hne,y2,hz,Xu⟩:=hp;refine gu rfl (bF e1) hK fun Pb Kb a w F hs=>⟨.tuple #[y2,.bool false],?_,rL hz rfl⟩;have hy:=bX hs e2;have hu:=aH (w:=w) h1;cases td with
  | interface i=>exact absurd rfl (h2 i)
  | _=>simp[execOp,Instr.typeAssert,Za0,hu,hy,hne,Xu]
  exact hp.elim;exact hp.elim
def js:List V->Option (List Value)
 | []=>some []
 | v::vs=>match v.val?,js vs with
   | some y,some ys=>some (y::ys)
   | _,_=>none
theorem ml{N:Nat}{Pb Kb:Nat->Prop}{A:AS}{a:Act}{w:World}{F:l9->List Nat}(hs:u7 N Pb Kb A a w F):∀ (xs:List Operand) {ys:List Value},js (xs.map A.ev)=some ys->xs.map a.eval=ys
 | [],ys,h=>by simp[js]at h;simp[h]
 | x::xs,ys,h=>by
   simp only[Zbe,js]at h;split at h;rename_i y Zp h1 h2;simp at h;subst h;rw[Zbe,nj hs h1,ml hs xs h2];simp at h
def UQ:Cu P where
 X:=Unit
 pre N o A:=match o.op,o.dst with
  | .makeFunc fn first A6,some d=>match Nat.blt d N,js (first.toList.map A.ev),js (A6.toList.map A.ev) with
    | true,some l1,some l2=>(Value.func fn l1.toArray l2.toArray).oneCell'=true
    | _,_,_=>False
  | _,_=>False
 post _ o A:=match o.op,o.dst with
  | .makeFunc fn first A6,some d=>match js (first.toList.map A.ev),js (A6.toList.map A.ev) with
    | some l1,some l2=>A.put (some d) (.lit (.func fn l1.toArray l2.toArray))
    | _,_=>A
  | _,_=>A
 ok:=by
  rintro N ⟨dst,op,ty,pos,after,D4⟩ A K-hp hK;replace hK:=hK ();simp only at hp hK;split at hp;rename_i fn first A6 d
  split at hp;rename_i l1 l2 e1 e2 e3;simp only[e2,e3]at hK;refine gu rfl (bF e1) hK fun Pb Kb a w F hs=>⟨.func fn l1.toArray l2.toArray,?_,dq hp⟩;have h1:=ml hs _ e2;have h2:=ml hs _ e3;have h1:first.map a.eval=l1.toArray:=by rw[<- h1];apply Array.ext';simp
  have h2:A6.map a.eval=l2.toArray:=by rw[<- h2];apply Array.ext';simp
  simp only[execOp,Instr.makeFunc,Za0,Zas,Za1,h1,h2];exact hp.elim;exact hp.elim
end
section
variable {w w':World} {Pb Kb Pb':Nat->Prop} {N:Nat} {A A' B:AS} {a:Act} {F:l9->List Nat} {P:Program} {ops:Array Oper}
theorem EP{v:V}{x:Value}(h:v.lits=some [x]):∀ n,RL w Pb (List.replicate n v) (List.replicate n x) []
 | 0=>⟨rfl,rfl⟩
 | n+1=>⟨[x],List.replicate n x,[],[],rfl,rfl,(AI v h).2 ⟨rfl,rfl⟩,EP h n⟩
theorem NW{x:Value}{n:Nat}{zc:Array Value}(h:zc.toList=[x]):madeCells zc (n*1)=(List.replicate n x).toArray:=by
 have hz:zc= #[x]:=by rw[<- Array.toList_inj];simpa using h
 subst hz;apply Array.ext;simp[madeCells];intro i h1 h2;simp[madeCells,Nat.mod_one]at h1 ⊢
def msC(z:ZT P)(n:Nat):Cu P where
 X:=Nat
 pre N o A:=match o.op,o.dst with
  | .makeSlice T l c,some d=>match Nat.blt d N,tD P T,ti P z.T with
    | true,some (.sl e),some i=>(e=z.T/\i.sz=1/\(∃ x,z.v.lits=some [x])/\z.v.n=1)/\A.ev l=.lit (.int .i64 n)/\A.ev c=.lit (.int .i64 n)/\1<=n/\n*i.N4<=140737488355328/\n<=9223372036854775807
    | _,_,_=>False
  | _,_=>False
 post g o A:=match o.dst with
  | some d=>A.put (some d) (.own 1 (List.replicate n z.v) g 0 n)
  | none=>A
 ok:=by
  rintro N ⟨dst,op,ty,pos,after,D4⟩ A K-hp hK;simp only at hp hK;split at hp;rename_i T l c d;split at hp;rename_i e i e1 e2 e3;obtain⟨⟨rfl,hsz,⟨x,hx⟩,Yc⟩,hl,hc,h1,UG,h63⟩:=hp;obtain⟨inf,z0,OX,hzero,hfl⟩:=z.ok;obtain⟨UR,_,J3,_,TJ,Ub,_⟩:=jv e3;rw[OX]at J3;obtain rfl:=Option.some.inj J3;have hu:=iQ e2;intro Pb Kb a w F Q hs;have hl:=bX hs hl;have hc:=bX hs hc;have P3:z0.cells.toList=[x]:=by
   have h1:=rD (w:=w) (Pb:=Pb) z.v hfl;exact((AI z.v hx).1 h1).1
  have hm:=run_make (P:=P) w T z.T inf z0 hu OX hzero .i64 .i64 n n Zac Zac (by rw[Ub,<- Int.natCast_mul,Nat.mul_comm];omega) Zac;rw[Int.toNat_natCast,TJ,hsz,NW P3]at hm;have PM:(execOp a.eval ⟨some d,.makeSlice T l c,ty,pos,after,D4⟩).run P w=.ok (.value (.slice (some ⟨w.heap.size,0,none⟩) n n)) (w.alloc (.cells (List.replicate n x).toArray z.T)):=by
   simp only[execOp,Za0,hl,hc,hm,Zas,Za1]
  unfold Oper.wp;rw[PM,Oper.upon_value];have Pl:=hs.nY (.cells (List.replicate n x).toArray z.T);have R1: ¬ Kb w.heap.size:=fun h=>by have:=hs.bound _ h;omega
  have hR:R (w.alloc (.cells (List.replicate n x).toArray z.T)) Pb (.own 1 (List.replicate n z.v) w.heap.size 0 n) [.slice (some ⟨w.heap.size,0,none⟩) n n] [w.heap.size]:=
   .inr ⟨h1,Nat.one_pos,Zad,Zad,fun v UT=>by rw[List.eq_of_mem_replicate UT];exact Yc,fun c=>R1 (hs.sub _ c),_,[],_,rfl,EP hx n,⟨z.T,(0,0),gJ w _,fun i _ h=>by omega⟩,Zad,fun j u hu=>by rw[Zaw,List.getElem?_toArray];exact hu⟩
  exact⟨_,Pb,Kb,_,hK _,Pl.put (bF e1) hR (fun r _ g hg=>by
   obtain rfl:=Zav.1 hg;intro c;have:=(hs.free r _ c).2;omega) Zad (fun g hg=>by
   obtain rfl:=Zav.1 hg;exact⟨R1,Zbx⟩),fun _ h=>h,fun _ h=>h,fun _ h=>.inl h,A3.alloc hs.bound _⟩
  exact hp.elim;exact hp.elim
def cD:List (BL×Value)->BL->Option Value
 | [],_=>none
 | p::r,k=>if p.1=k then some p.2 else cD r k
def fp:List (BL×Value)->BL->Value->List (BL×Value)
 | [],k,x=>[(k,x)]
 | p::r,k,x=>if p.1=k then (k,x)::r else p::fp r k x
theorem str_inj{a b:BL}:((⟨a.toArray⟩:ByteArray)== ⟨b.toArray⟩)=decide (a=b):=by
 rw[Za6,MapKept.bytes_beq];simp
theorem kL(k:BL):∀ (es:List (BL×Value)) (l:List MapEntry) (i:Nat),l.map (fun e=>(e.key,e.val))=es.map (fun p=>(Value.string ⟨p.1.toArray⟩,p.2))->
 (cD es k=none->Instr.findNow .string (.string ⟨k.toArray⟩) l i=some none)/\
 (∀ x,cD es k=some x->∃ j,Instr.findNow .string (.string ⟨k.toArray⟩) l i=some (some (i+j,x))/\j<l.length/\(∃ e,l[j]? =some e/\e.key=.string ⟨k.toArray⟩)/\
  ∀ y,(l.modify j fun e=>{ e with key:=.string ⟨k.toArray⟩,val:=y }).map (fun e=>(e.key,e.val))=(fp es k y).map (fun p=>(Value.string ⟨p.1.toArray⟩,p.2)))
 | [],l,i,h=>by
   have:l=[]:=Zbq
   subst this;simp[cD,Instr.findNow]
 | p::r,l,i,h=>by
   cases l with
   | nil=>simp at h
   | cons e l=>
     simp only[Zbe,List.cons.injEq,Zaq]at h;obtain⟨⟨h1,h2⟩,h3⟩:=h;obtain⟨i1,i2⟩:=kL k r l (i+1) h3;simp only[cD,fp,Instr.findNow,h1,Instr.sameNow,str_inj];by_cases hk:p.1=k;subst hk;simp only[if_true,decide_true];refine⟨Zad,fun x hx=>⟨0,?_,Zad,⟨e,rfl,h1⟩,fun y=>?_⟩⟩;simp at hx;rw[h2,hx];rfl;simp[h3];have Rg: ¬ k=p.1:=fun c=>hk c.symm;simp only[if_neg hk,decide_eq_false Rg];refine⟨i1,fun x hx=>?_⟩;obtain⟨j,j1,j2,⟨e',j3,j4⟩,j5⟩:=i2 x hx;refine⟨j+1,by rw[j1];congr 2;simp;omega,Zal,⟨e',by simpa using j3,j4⟩,fun y=>?_⟩;have:=j5 y;simp only[List.modify_succ_cons,Zbe,this,h1,h2]
theorem tR(k:BL)(y:Value):∀ (es:List (BL×Value)),cD es k=none->fp es k y=es++[(k,y)]
 | [],_=>rfl
 | p::r,h=>by
   simp only[cD]at h;split at h;simp at h;rename_i hk;simp only[fp,if_neg hk,tR k y r h,List.cons_append]
theorem ni{e:Bool}{n T:Nat}{k:ByteArray}(h:P.underlying T=some .string):(Instr.checkKey e (n+1) T (.string k)).run P w=.ok () w:=by
 unfold Instr.checkKey;simp[Za0,aH (w:=w) h]
theorem yW{k:ByteArray}{n:Nat}:Instr.sameBits n (.string k) (.string k)=true:=by
 unfold Instr.sameBits;exact(MapKept.bytes_beq k k).2 rfl
def ZD:Cu P where
 X:=Nat
 pre N o A:=match o.op,o.dst with
  | .makeMap _ none,some d=>match Nat.blt d N with
    | true=>True
    | false=>False
  | _,_=>False
 post g o A:=match o.dst with
  | some d=>A.put (some d) (.om [] g)
  | none=>A
 ok:=by
  rintro N ⟨dst,op,ty,pos,after,D4⟩ A K-hp hK;simp only at hp hK;split at hp;rename_i T d;split at hp;rename_i e1;intro Pb Kb a w F Q hs;have PM:(execOp a.eval ⟨some d,.makeMap T none,ty,pos,after,D4⟩).run P w=.ok (.value (.map (some w.heap.size))) (w.alloc (.map #[] 0)):=rfl;unfold Oper.wp;rw[PM,Oper.upon_value];have Pl:=hs.nY (.map #[] 0);have R1: ¬ Kb w.heap.size:=fun h=>by have:=hs.bound _ h;omega
  have hR:R (w.alloc (.map #[] 0)) Pb (.om [] w.heap.size) [.map (some w.heap.size)] [w.heap.size]:=
   ⟨rfl,rfl,fun c=>R1 (hs.sub _ c),#[],0,gJ w _,rfl,Zad,Zad⟩
  exact⟨_,Pb,Kb,_,hK _,Pl.put (bF e1) hR (fun r _ g hg=>by
   obtain rfl:=Zav.1 hg;intro c;have:=(hs.free r _ c).2;omega) Zad (fun g hg=>by
   obtain rfl:=Zav.1 hg;exact⟨R1,Zbx⟩),fun _ h=>h,fun _ h=>h,fun _ h=>.inl h,A3.alloc hs.bound _⟩
  exact hp.elim;exact hp.elim
def ZC(t0:Nat)(es:List (BL×Value))(k:BL)(y:Value):Cu P where
 X:=Unit
 pre N o A:=match o.op,o.dst with
  | .mapUpdate T m kx x,none=>match tD P T,Nat.blt t0 N with
    | some (.map kt _),true=>match tD P kt,A.ev m,A.get t0 with
      | some .str,.lit (.map (some g)),.om Ru g'=>(g'=g/\Ru=es)/\A.ev kx=sV k/\(A.ev x).val? =some y
      | _,_,_=>False
    | _,_=>False
  | _,_=>False
 post _ o A:=match A.get t0 with
  | .om _ g=>A.put (some t0) (.om (fp es k y) g)
  | _=>A
 ok:=by
  rintro N ⟨dst,op,ty,pos,after,D4⟩ A K-hp hK;replace hK:=hK ();simp only at hp hK;split at hp;rename_i T m kx x;split at hp;rename_i kt et e1 e2;split at hp;rename_i g Ru g' e3 e4 e5;obtain⟨⟨rfl,rfl⟩,hk,hy⟩:=hp;rw[e5]at hK;intro Pb Kb a w F Q hs;have hm:=bX hs e4;have hk:=bX hs hk;have hy:=nj hs hy;have h0:=hs.slot t0;rw[e5]at h0;have h0:R w Pb (.om Ru g') [a.tmps.getD t0 undef] (F (.slot t0)):=h0;obtain⟨hF,hc,hnP,en,cl,hb,UF,hnd,hcl⟩:=h0;obtain⟨td,hu,hd⟩:=cP e1;have hu:P.underlying T=some (.map kt et):=by
   cases td <;> simp_all[dH]
  obtain⟨UP,QB,Tc⟩:=cP e3;have QB:P.underlying kt=some .string:=by
   cases UP <;> simp_all[dH]
  have VZ:∀ w:World,(Instr.checkKey false 10000 kt (.string (Str k))).run P w=.ok () w:=fun w=>ni QB;obtain⟨f1,f2⟩:=kL k Ru en.toList 0 UF
  have hw:∃ Tf UK,(Instr.mapUpdate T (.map (some g')) (.string (Str k)) y).run P w=.ok () { w with heap:=w.heap.setIfInBounds g' (.map Tf UK) }/\
   Tf.toList.map (fun e=>(e.key,e.val))=(fp Ru k y).map (fun p=>(.string ⟨p.1.toArray⟩,p.2))/\(Tf.toList.map (·.born)).Nodup/\∀ e∈Tf.toList,e.born<UK:=by
   cases hlk:cD Ru k with
   | none=>
     have:=f1 hlk;refine⟨en.push { key:=.string (Str k),val:=y,born:=cl },cl+1,?_,?_,?_,?_⟩;rw[show (⟨k.toArray⟩:ByteArray)=Str k from rfl]at this;simp[Instr.mapUpdate,run_underlying hu,MapKept.run_getObj_map hb,VZ,MapKept.run_findKey QB this,MapKept.run_setObj_map _ hb,Result.andThen];rw[tR k y Ru hlk];simp[UF,Str];simp only[Array.toList_push,Zbb,Zbe,List.map_nil];rw[List.nodup_append];refine⟨hnd,Zad,fun a ha b hb=>?_⟩;simp only[Zav]at hb;obtain⟨e,he,rfl⟩:=List.mem_map.1 ha;have:=hcl e he;omega;intro e he;simp only[Array.toList_push,Zax,Zav]at he;rcases he with he | rfl;have:=hcl e he;omega;simp
   | some x0=>
     obtain⟨j,j1,j2,⟨e,j3,j4⟩,j5⟩:=f2 x0 hlk;rw[Zaw]at j1;refine⟨en.modify j fun e=>{ e with key:=.string (Str k),val:=y },cl,?_,?_,?_,?_⟩;rw[show (⟨k.toArray⟩:ByteArray)=Str k from rfl]at j1;have WW:((en[j]?).map (·.key)).getD (.string (Str k))=.string (Str k):=by
      have:en[j]? =some e:=by rw[<- Array.getElem?_toList];exact j3
      rw[this];exact j4
     simp[Instr.mapUpdate,run_underlying hu,MapKept.run_getObj_map hb,VZ,MapKept.run_findKey QB j1,WW,Instr.keyThatStays,yW,MapKept.run_setObj_map _ hb,Result.andThen];rw[Array.toList_modify];exact j5 y;rw[Array.toList_modify];have:(en.toList.modify j fun e=>{ e with key:=.string (Str k),val:=y }).map (·.born)=en.toList.map (·.born):=by
      apply List.ext_getElem?;intro i;simp only[List.getElem?_map,List.getElem?_modify];cases en.toList[i]? with
      | none=>rfl
      | some e=>simp only[Option.map_eq_map,Option.map_some];split <;> rfl
     rw[this];exact hnd;intro e he;rw[Array.toList_modify]at he;obtain⟨i,hi⟩:=List.mem_iff_getElem?.1 he;rw[List.getElem?_modify]at hi;obtain⟨e',h1,h2⟩:=Option.map_eq_some_iff.1 hi;have:=hcl e' (Za7 h1);rw[<- h2];split <;> simpa using this
  obtain⟨Tf,UK,B5,q1,q2,q3⟩:=hw;have hgs:g'<w.heap.size:=(hs.free (.slot t0) g' (by rw[hF];simp)).2;have PM:(execOp a.eval ⟨none,.mapUpdate T m kx x,ty,pos,after,D4⟩).run P w=.ok .skip { w with heap:=w.heap.setIfInBounds g' (.map Tf UK) }:=by
   simp[execOp,hm,hk,hy,B5,Result.andThen]
  unfold Oper.wp;rw[PM,Oper.upon_skip];have hne:∀ k,k≠g'->(w.heap.setIfInBounds g' (.map Tf UK))[k]? =w.heap[k]? :=fun k hk=>by
   rw[Array.getElem?_setIfInBounds_ne (Ne.symm hk)]
  refine⟨_,Pb,Kb,F,hK,hs.mod (w':={ w with heap:=w.heap.setIfInBounds g' (.map Tf UK) }) (t:=t0) (g:=g') (by rw[hF];simp) hne Zad ?_,fun _ h=>h,fun _ h=>h,fun _ h=>.inl h,⟨rfl,rfl,rfl,Zad,fun k hk=>hne k fun c=>(hs.free (.slot t0) g' (by rw[hF];simp)).1 (c ▸ hk),fun k c _ _ hk=>⟨c,by rw[hne k (by rintro rfl;rw[hb]at hk;cases hk)];exact hk,rfl⟩⟩⟩;exact(⟨hF,hc,hnP,Tf,UK,(by simp[hgs]:(w.heap.setIfInBounds g' (.map Tf UK))[g']? =some (.map Tf UK)),q1,q2,q3⟩:R { w with heap:=w.heap.setIfInBounds g' (.map Tf UK) } Pb (.om (fp Ru k y) g') _ _);exact hp.elim;exact hp.elim;exact hp.elim
def mlC(t0:Nat):Cu P where
 X:=Unit
 pre N o A:=match o.op,o.dst with
  | .call ⟨.builtin .len,⟨[x]⟩,⟨[T]⟩⟩,some d=>match tD P T,Nat.blt d N with
    | some (.map _ _),true=>match A.ev x,A.get t0 with
      | .lit (.map (some g)),.om _ g'=>g'=g
      | _,_=>False
    | _,_=>False
  | _,_=>False
 post _ o A:=match o.dst,A.get t0 with
  | some d,.om es _=>A.put (some d) (.lit (.int .i64 es.length))
  | _,_=>A
 ok:=by
  rintro N ⟨dst,op,ty,pos,after,D4⟩ A K-hp hK;replace hK:=hK ();simp only at hp hK;split at hp;rename_i x T d;split at hp;rename_i kt et e1 e2;split at hp;rename_i g es g' e3 e4;subst hp;rw[e4]at hK;refine gu rfl (bF e2) hK fun Pb Kb a w F hs=>⟨.int .i64 es.length,?_,dq rfl⟩;have hm:=bX hs e3;have h0:=hs.slot t0;rw[e4]at h0;have h0:R w Pb (.om es g') [a.tmps.getD t0 undef] (F (.slot t0)):=h0;obtain⟨hF,hc,hnP,en,cl,hb,UF,hnd,hcl⟩:=h0;obtain⟨td,hu,hd⟩:=cP e1;have hu:P.underlying T=some (.map kt et):=by
   cases td <;> simp_all[dH]
  have hl:en.size=es.length:=by
   have:=Zbm List.length UF;simpa using this
  have hr:((#[x]:Array Operand).map a.eval)= #[.map (some g')]:=by simp[hm]
  simp[execOp,resolve,Deferred.ofValue,invoke,builtin,Builtin.len_,hm,run_underlying hu,MapKept.run_getObj_map hb,Result.andThen,hl,goInt];exact hp.elim;exact hp.elim;exact hp.elim
def lkC(es:List (BL×Value))(k:BL)(v:V)(ok:Bool):Cu P where
 X:=Unit
 pre N o A:=match o.op,o.dst with
  | .lookup T x kx true,some d=>match tD P T,Nat.blt d N with
    | some (.map kt et),true=>match tD P kt,A.ev x with
      | some .str,.mp Ru=>(Ru=es)/\A.ev kx=sV k/\((ok=true/\∃ y,cD es k=some y/\v.val? =some y)\/(ok=false/\cD es k=none/\∃ y,v.val? =some y/\∀ w,(zeroValue et).run P w=.ok y w))
      | _,_=>False
    | _,_=>False
  | _,_=>False
 post _ o A:=match o.dst with
  | some d=>A.put (some d) (.tup [v,bV ok])
  | none=>A
 ok:=by
  rintro N ⟨dst,op,ty,pos,after,D4⟩ A K-hp hK;replace hK:=hK ();simp only at hp hK;split at hp;rename_i T x kx d;split at hp;rename_i kt et e1 e2;split at hp;rename_i Ru e3 e4;obtain⟨rfl,hk,hy⟩:=hp;obtain⟨td,hu,hd⟩:=cP e1;have hu:P.underlying T=some (.map kt et):=by
   cases td <;> simp_all[dH]
  obtain⟨UP,QB,Tc⟩:=cP e3;have QB:P.underlying kt=some .string:=by
   cases UP <;> simp_all[dH]
  have PQ:∃ y,v.val? =some y:=by
   rcases hy with ⟨_,y,_,h⟩ | ⟨_,_,y,h,_⟩ <;> exact⟨y,h⟩
  obtain⟨y,hv⟩:=PQ;refine gu rfl (bF e2) hK fun Pb Kb a w F hs=>⟨.tuple #[y,.bool ok],?_,rL hv rfl⟩;have hk:=bX hs hk;obtain⟨_,hx⟩:=dS hs x;rw[e4]at hx;have hx:R w Pb (.mp Ru) [a.eval x] _:=hx;obtain⟨_,g,hc,_,en,cl,hb,UF,_,_⟩:=hx;simp only[List.cons.injEq,and_true]at hc;obtain⟨f1,f2⟩:=kL k Ru en.toList 0 UF;have VZ:∀ e,(Instr.checkKey e 10000 kt (.string (Str k))).run P w=.ok () w:=fun e=>ni QB;rcases hy with ⟨rfl,y',h1,h2⟩ | ⟨rfl,h1,y',h2,Xu⟩;rw[hv]at h2;obtain rfl:=Option.some.inj h2;obtain⟨j,j1,_⟩:=f2 _ h1;rw[show (⟨k.toArray⟩:ByteArray)=Str k from rfl]at j1;simp[execOp,hc,hk,Instr.lookup,run_underlying hu,MapKept.run_getObj_map hb,VZ,MapKept.run_findKey QB j1,Result.andThen];rw[hv]at h2;obtain rfl:=Option.some.inj h2;have j1:=f1 h1;rw[show (⟨k.toArray⟩:ByteArray)=Str k from rfl]at j1;simp[execOp,hc,hk,Instr.lookup,run_underlying hu,MapKept.run_getObj_map hb,VZ,MapKept.run_findKey QB j1,Result.andThen,Xu];exact hp.elim;exact hp.elim;exact hp.elim
def mnC:Cu P where
 X:=Unit
 pre N o A:=match o.op,o.dst with
  | .call ⟨.builtin .len,⟨[x]⟩,⟨[T]⟩⟩,some d=>match tD P T,Nat.blt d N with
    | some (.map _ _),true=>match A.ev x with
      | .mp _=>True
      | _=>False
    | _,_=>False
  | _,_=>False
 post _ o A:=match o.op,o.dst with
  | .call ⟨.builtin .len,⟨[x]⟩,⟨[_]⟩⟩,some d=>match A.ev x with
    | .mp es=>A.put (some d) (.lit (.int .i64 es.length))
    | _=>A
  | _,_=>A
 ok:=by
  rintro N ⟨dst,op,ty,pos,after,D4⟩ A K-hp hK;replace hK:=hK ();simp only at hp hK;split at hp;rename_i x T d;split at hp;rename_i kt et e1 e2;split at hp;rename_i es e3;simp only[e3]at hK;refine gu rfl (bF e2) hK fun Pb Kb a w F hs=>⟨.int .i64 es.length,?_,dq rfl⟩;obtain⟨_,hx⟩:=dS hs x;rw[e3]at hx;have hx:R w Pb (.mp es) [a.eval x] _:=hx;obtain⟨_,g,hm,_,en,cl,hb,UF,_,_⟩:=hx;simp only[List.cons.injEq,and_true]at hm;obtain⟨td,hu,hd⟩:=cP e1;have hu:P.underlying T=some (.map kt et):=by
   cases td <;> simp_all[dH]
  have hl:en.size=es.length:=by
   have:=Zbm List.length UF;simpa using this
  simp[execOp,resolve,Deferred.ofValue,invoke,builtin,Builtin.len_,hm,run_underlying hu,MapKept.run_getObj_map hb,Result.andThen,hl,goInt];exact hp.elim;exact hp.elim;exact hp.elim
end
theorem drop_cons{α:Type}{l:List α}{i:Nat}(h:i<l.length)(d:α):l.drop i=l.getD i d::l.drop (i+1):=by
 rw[List.drop_eq_getElem_cons h,Zam,Zat h];rfl
theorem aW{α:Type}{l:List α}{i:Nat}(h:i<l.length)(d:α):l.take (i+1)=l.take i++[l.getD i d]:=by
 rw[List.take_add_one,Zam,Zat h];rfl
theorem all_false{α:Type}{l:List α}{p:α->Bool}{i:Nat}{d:α}(h:i<l.length)(hp:p (l.getD i d)=false):l.all p=false:=by
 rw[List.all_eq_false];refine⟨l.getD i d,?_,by rw[hp];decide⟩;rw[Zam,Zat h];exact List.getElem_mem h
theorem all_true{α:Type}{l:List α}{p:α->Bool}{d:α}(hp:∀ j,j<l.length->p (l.getD j d)=true):l.all p=true:=by
 rw[Za2];intro x hx;obtain⟨j,hj,rfl⟩:=List.getElem_of_mem hx;have:=hp j hj
 rwa [Zam,Zat hj]at this
theorem bm{p:Nat->Prop}{i:Nat}(h:∀ j,j<i->p j)(hi:p i):∀ j,j<i+1->p j:=fun j hj=>by
 rcases Nat.lt_succ_iff_lt_or_eq.1 hj with h' | rfl;exact h j h';exact hi
def ab(c:UInt8):BL->BL×BL×Bool
 | []=>([],[],false)
 | x::r=>if x=c then ([],r,true) else (x::(ab c r).1,(ab c r).2.1,(ab c r).2.2)
def kE(b:UInt8):Bool:=decide (97<=b.toNat/\b.toNat<=122)
def ew(b:UInt8):Bool:=decide ((97<=b.toNat/\b.toNat<=122)\/(48<=b.toNat/\b.toNat<=57)\/b.toNat=46\/b.toNat=45)
def cw(b:UInt8):Int:=if 48<=b.toNat/\b.toNat<=57 then b.toNat-48 else if 97<=b.toNat/\b.toNat<=102 then b.toNat-87 else if 65<=b.toNat/\b.toNat<=70 then b.toNat-55 else -1
def A5(n lo hi:Int):Bool:=decide (lo<=n/\n<=hi)
def fS(s:BL):Bool:=s.all kE
def cZ(s:BL):Bool:=fS s&&A5 s.length 1 5
def cC(s:BL):Bool:=fS s&&A5 s.length 1 8
def cm(s part:BL)(from_:Nat):Int:=
 if h:from_+part.length<=s.length then (if (s.drop from_).take part.length=part then (from_:Int) else cm s part (from_+1)) else -1
 termination_by s.length+1-from_
def jT(b:UInt8):Bool:=ew b||decide (b.toNat=47\/b.toNat=42\/b.toNat=63\/b.toNat=37\/(65<=b.toNat/\b.toNat<=70))
def ng(p:BL)(j:Nat):Bool:=jT (p.getD j 0)||(decide ((p.getD j 0).toNat=36)&&decide (j+1=p.length))
def bc(p:BL):Bool:=decide (1<=p.length/\p.length<=16/\(p.getD 0 0).toNat=47/\∀ j,j<p.length->ng p j=true)
def kK:BL:=[48,49,50,51,52,53,54,55,56,57,65,66,67,68,69,70]
def fi(b:UInt8):BL:=[37,kK.getD (b.toNat / 16) 0,kK.getD (b.toNat % 16) 0]
def eQ(b:UInt8):BL:=if ew b then [b] else fi b
def dr(a b:UInt8):UInt8:=UInt8.ofNat (cw a*16+cw b).toNat
def cN:BL->Option BL
 | []=>some []
 | [c]=>if c.toNat=37 then none else some (eQ c)
 | [c,d]=>if c.toNat=37\/d.toNat=37 then none else some (eQ c++eQ d)
 | c::a::b::r=>if c.toNat=37 then (if 0<=cw a/\0<=cw b then (cN r).map (eQ (dr a b)++ ·) else none) else (cN (a::b::r)).map (eQ c++ ·)
def bZ(s:BL):BL×Bool:=if s.length<=60 then (match cN s with | some x=>(x,true) | none=>([],false)) else ([],false)
def fh(s:BL):Bool:=(bZ s).2&&((bZ s).1==s)
theorem EM{c:UInt8}{r:BL}(h: ¬ c.toNat=37):cN (c::r)=(cN r).map (eQ c++ ·):=by
 match r with
 | []=>simp[cN,h]
 | [d]=>by_cases hd:d.toNat=37 <;> simp[cN,h,hd]
 | a::b::r=>simp[cN,h]
theorem nR{s:BL}{i:Nat}(hi:i<s.length)(h: ¬ (s.getD i 0).toNat=37):cN (s.drop i)=(cN (s.drop (i+1))).map (eQ (s.getD i 0)++ ·):=by
 rw[drop_cons hi 0,EM h]
theorem qp{s:BL}{i:Nat}(hi:i+2<s.length)(h:(s.getD i 0).toNat=37)(h1:0<=cw (s.getD (i+1) 0))(h2:0<=cw (s.getD (i+2) 0)):
 cN (s.drop i)=(cN (s.drop (i+3))).map (eQ (dr (s.getD (i+1) 0) (s.getD (i+2) 0))++ ·):=by
 rw[drop_cons (by omega:i<s.length) 0,drop_cons (by omega:i+1<s.length) 0,drop_cons (by omega:i+1+1<s.length) 0];simp only[cN,h,if_true,h1,h2,and_self,Zbj]
theorem zB{s:BL}{i:Nat}(hi:i<s.length)(h:(s.getD i 0).toNat=37)(h1:s.length<=i+2\/cw (s.getD (i+1) 0)<0\/cw (s.getD (i+2) 0)<0):cN (s.drop i)=none:=by
 rw[drop_cons hi 0];by_cases h2:i+2<s.length;rw[drop_cons (by omega:i+1<s.length) 0,drop_cons (by omega:i+1+1<s.length) 0];simp only[cN,h,if_true];rw[if_neg];rintro⟨k1,k2⟩;have e:i+1+1=i+2:=rfl;rw[e]at k2;omega;by_cases h3:i+1<s.length;rw[drop_cons h3 0,Za8 Zac];simp only[cN,h,true_or,if_true];rw[Za8 Zac];simp only[cN,h,if_true]
theorem gp(b:UInt8):cw b<16:=by unfold cw;repeat (split <;> try omega)
theorem iF(b:UInt8): -1<=cw b:=by unfold cw;repeat (split <;> try omega)
theorem tM{a b:UInt8}(h1:0<=cw a)(h2:0<=cw b):((dr a b).toNat:Int)=cw a*16+cw b:=by
 have:=gp a;have:=gp b;unfold dr;rw[UInt8.toNat_ofNat'];omega
theorem qy{α:Type}{l:List α}{k:Nat}(h:k<l.length)(d:α):(l.take (k+1)).drop k=[l.getD k d]:=by
 rw[aW h d,List.drop_append_of_le_length Zal,Za8 Zal];rfl
theorem eZ(b:UInt8):(eQ b).length<=3:=by unfold eQ fi;split <;> simp
theorem uz:∀ (s:BL) {x:BL},cN s=some x->x.length<=3*s.length
 | [],x,h=>by simp[cN]at h;subst h;simp
 | [c],x,h=>by
   simp only[cN]at h;split at h;simp at h;simp only[Zan]at h;subst h;have:=eZ c;simpa using this
 | [c,d],x,h=>by
   simp only[cN]at h;split at h;simp at h;simp only[Zan]at h;subst h;have:=eZ c;have:=eZ d;simp;omega
 | c::a::b::r,x,h=>by
   simp only[cN]at h;split at h;split at h;simp only[Option.map_eq_some_iff]at h;obtain⟨y,hy,rfl⟩:=h;have:=uz r hy;have:=eZ (dr a b);simp;omega;simp at h;simp only[Option.map_eq_some_iff]at h;obtain⟨y,hy,rfl⟩:=h;have:=uz (a::b::r) hy;have:=eZ c;simp at *;omega
theorem pw(s:BL):(bZ s).1.length<=180:=by
 unfold bZ;split;split;rename_i x h;have:=uz s h;simp only;omega;simp;simp
def ae(c:UInt8):BL->List BL
 | []=>[[]]
 | x::r=>if x=c then []::ae c r else (x::(ae c r).headD [])::(ae c r).tail
theorem pV(c:UInt8):∀ r,ae c r=(ab c r).1::(if (ab c r).2.2=true then ae c (ab c r).2.1 else [])
 | []=>rfl
 | x::r=>by
   have ih:=pV c r;by_cases h:x=c;simp only[ae,ab,if_pos h,if_true];simp only[ae,ab,if_neg h];rw[ih];rfl
theorem zU(c:UInt8):∀ r,(ab c r).2.2=true->(ab c r).2.1.length<r.length
 | [],h=>by simp[ab]at h
 | x::r,h=>by
   simp only[ab]at h ⊢;by_cases e:x=c;rw[if_pos e];simp;rw[if_neg e]at h ⊢;have:=zU c r h;simp only[Zar];omega
theorem kW(c:UInt8):∀ r,(ab c r).1.length+(ab c r).2.1.length<=r.length
 | []=>by simp[ab]
 | x::r=>by
   simp only[ab];by_cases e:x=c;rw[if_pos e];simp;rw[if_neg e];have:=kW c r;simp only[Zar];omega
def de(o:List BL)(p:BL):List BL:=if p=[]\/p=[46] then o else if p=[46,46] then o.dropLast else o++[p]
def cd(ps:List BL):List BL:=ps.foldl de []
theorem ie{ps:List BL}{i:Nat}(h:i<ps.length):cd (ps.take (i+1))=de (cd (ps.take i)) (ps.getD i []):=by
 unfold cd;rw[aW h [],List.foldl_append];rfl
structure w4 where
 j8:BL
 c9:List BL
 asks:Bool
 ask:BL
def cJ:List BL->BL
 | []=>[]
 | [p]=>p
 | p::q::r=>p++[47]++cJ (q::r)
theorem mq(p:BL):∀ (ps:List BL),cJ (ps++[p])=if ps=[] then p else cJ ps++[47]++p
 | []=>rfl
 | [q]=>by simp[cJ]
 | q::r::t=>by
   have:=mq p (r::t);simp only[List.cons_append,cJ]at this ⊢;rw[this,if_neg Zad,if_neg Zad];simp[List.append_assoc]
def bJ(a:w4):BL:=[47]++cJ a.c9++(if a.asks=true then [63]++a.ask else [])
def da(a:w4):BL:=[47,47]++a.j8++bJ a
def fE(p:BL):Bool:=fh p&&!(p==[])&&!(p==[46])&&!(p==[46,46])
def aF(a:w4):Bool:=cZ a.j8&&decide (a.c9.length<=5)&&fh a.ask&&(a.asks||a.ask==[])&&a.c9.all fE&&decide ((da a).length<=60)
def dg(a:w4):Prop:=a.j8.length<=1048576/\a.ask.length<=1048576/\a.c9.length<=1048576/\∀ i,(a.c9.getD i []).length<=1048576
theorem rJ{ps:List BL}(h:∀ i,(ps.getD i []).length<=1048576):∀ i,i<=ps.length->(cJ (ps.take i)).length<=i*1048577
 | 0,_=>by simp[cJ]
 | i+1,hi=>by
   have:=rJ h i Zac;have h2:=h i;rw[aW (by omega:i<ps.length) [],mq];split;omega;simp only[Zap,Zar,Zau];omega
theorem yi{a:w4}(h:dg a):(bJ a).length<=2199023255552:=by
 obtain⟨h1,h2,h3,h4⟩:=h;have:=rJ h4 a.c9.length (Zbc _);rw[List.take_length]at this;unfold bJ;split <;> simp <;> omega
theorem nJ{s:BL}(h:fh s=true):s.length<=60:=by
 unfold fh bZ at h;split at h;assumption;simp at h
def dW(b:UInt8):UInt8:=if 65<=b.toNat/\b.toNat<=90 then b+32 else b
def bK(s:BL):BL:=s.map dW
theorem xY{x:UInt8}(h:65<=x.toNat/\x.toNat<=90):(dW x).toNat=x.toNat+32:=by
 unfold dW;rw[if_pos h,UInt8.toNat_add];have:(32:UInt8).toNat=32:=rfl;omega
theorem qV{s l:BL}{i:Nat}(hi:i<s.length)(h:l=bK (s.take i)++s.drop i):l.getD i 0=s.getD i 0:=by
 have hl:(bK (s.take i)).length=i:=by simp[bK];omega
 rw[h,Zam,Za4 Zac,hl,Nat.sub_self,drop_cons hi 0];rfl
theorem vL{s l:BL}{i:Nat}(hi:i<s.length)(h:l=bK (s.take i)++s.drop i):l.set i (dW (s.getD i 0))=bK (s.take (i+1))++s.drop (i+1):=by
 have hl:(bK (s.take i)).length=i:=by simp[bK];omega
 rw[h,List.set_append_right _ _ Zac,hl,Nat.sub_self,drop_cons hi 0,aW hi 0];simp[bK]
theorem xO{s l:BL}{i:Nat}(hi:i<s.length)(h:l=bK (s.take i)++s.drop i):l.set i (dW (l.getD i 0))=bK (s.take (i+1))++s.drop (i+1):=by
 rw[qV hi h];exact vL hi h
theorem vD{s l:BL}{i:Nat}(hi:i<s.length)(h:l=bK (s.take i)++s.drop i)(hn: ¬ (65<=(l.getD i 0).toNat/\(l.getD i 0).toNat<=90)):l=bK (s.take (i+1))++s.drop (i+1):=by
 rw[<- vL hi h];rw[qV hi h]at hn;rw[show dW (s.getD i 0)=s.getD i 0 from if_neg hn,<- qV hi h];have hlt:i<l.length:=by rw[h];simp[bK];omega
 apply List.ext_getElem?;intro j;by_cases e:i=j;subst e;simp[hlt];rw[List.getElem?_set_ne e]
def oA(o:Option w4):w4:=o.getD ⟨[],[],false,[]⟩
def eR(x:BL):BL:=(bZ x).1
def fy(x:BL):Bool:=(bZ x).2
def cq(h:BL)(fr:List BL)(r5:BL):Option w4:=
 if ((ae 47 (ab 63 r5).1).all fy&&fy (ab 63 r5).2.1)=true then
  (if aF ⟨h,cd (fr++(ae 47 (ab 63 r5).1).map eR),(ab 63 r5).2.2,eR (ab 63 r5).2.1⟩=true then some ⟨h,cd (fr++(ae 47 (ab 63 r5).1).map eR),(ab 63 r5).2.2,eR (ab 63 r5).2.1⟩ else none) else none
theorem oo(c:UInt8):∀ s:BL,(ae c s).length<=s.length+1
 | []=>by simp[ae]
 | x::r=>by
   have:=oo c r;simp only[ae];split;simp;omega;simp;omega
theorem EN(l:List BL)(n:Nat)(h:∀ p∈l,p.length<=n):(l.headD []).length<=n:=by
 cases l with
 | nil=>simp
 | cons a l=>exact h a Zad
theorem xy(c:UInt8):∀ (s:BL),∀ p∈ae c s,p.length<=s.length
 | [],p,hp=>by simp[ae]at hp;subst hp;simp
 | x::r,p,hp=>by
   have ih:=xy c r;simp only[ae]at hp;split at hp;simp only[List.mem_cons]at hp;rcases hp with rfl | hp;simp;have:=ih p hp;simp;omega;simp only[List.mem_cons]at hp;rcases hp with rfl | hp;have:=EN _ _ ih;simp at this ⊢;omega;have:=ih p (List.mem_of_mem_tail hp);simp;omega
theorem ij{ps:List BL}{n:Nat}(h:∀ p∈ps,p.length<=n)(i:Nat):(ps.getD i []).length<=n:=by
 rw[Zam];cases e:ps[i]? with
 | none=>simp
 | some p=>exact h p (Za7 e)
theorem gY(c:UInt8)(s:BL)(i:Nat):((ae c s).getD i []).length<=s.length:=ij (xy c s) i
theorem vO(ps:List BL):∀ (o:List BL),(∀ p∈ps.foldl de o,p∈o\/p∈ps)/\(ps.foldl de o).length<=o.length+ps.length:=by
 induction ps with
 | nil=>intro o;exact⟨fun p h=>.inl h,Zad⟩
 | cons q ps ih=>
   intro o;obtain⟨h1,h2⟩:=ih (de o q);have hs:(∀ p∈de o q,p∈o\/p=q)/\(de o q).length<=o.length+1:=by
    unfold de;split;exact⟨fun p h=>.inl h,Zac⟩;split;exact⟨fun p h=>.inl (List.dropLast_subset _ h),Zal⟩;exact⟨fun p h=>Zbq,Zad⟩
   refine⟨fun p hp=>?_,by simp only[List.foldl_cons,Zar];omega⟩;rcases h1 p hp with h | h;rcases hs.1 p h with h | h;exact .inl h;exact .inr (by simp[h]);exact .inr (by simp[h])
theorem xU{ps:List BL}{p:BL}(h:p∈cd ps):p∈ps:=by
 rcases (vO ps []).1 p h with h | h;simp at h;exact h
theorem xi(ps:List BL):(cd ps).length<=ps.length:=by have:=(vO ps []).2;simp only[Zau,Zaw]at this;exact this
theorem Mh{a:w4}{ls:List BL}{k:Bool}{q:BL}(ha:dg a)(hp:a.c9.length<=1000)(hl:ls.length<=2000):dg ⟨a.j8,cd (a.c9++ls.map eR),k,eR q⟩:=by
 obtain⟨h1,h2,h3,h4⟩:=ha;refine⟨h1,?_,?_,fun i=>?_⟩;have:=pw q;simp only[eR];omega;have:=xi (a.c9++ls.map eR);simp only[Zap,Zay]at this ⊢;omega;refine ij (n:=1048576) (fun p Yq=>?_) i;rcases Zax.1 (xU Yq) with h | h;obtain⟨j,hj,rfl⟩:=List.getElem_of_mem h;have:=h4 j
 rwa [Zam,Zat hj]at this
 obtain⟨y,_,rfl⟩:=List.mem_map.1 h;have:=pw y;simp only[eR];omega
def jG(c:UInt8):Bool:=decide (¬ (c.toNat=47\/c.toNat=63))
theorem Aj{s:BL}{p:UInt8->Bool}:∀ {i:Nat},i<=s.length->(∀ j,j<i->p (s.getD j 0)=true)->(i=s.length\/p (s.getD i 0)=false)->s.takeWhile p=s.take i/\s.dropWhile p=s.drop i:=by
 induction s with
 | nil=>intro i hi _ _;simp
 | cons x s ih=>
   intro i hi h1 h2;cases i with
   | zero=>
     rcases h2 with h2 | h2;simp at h2;have:p x=false:=Zb6
     simp[List.takeWhile_cons,List.dropWhile_cons,this]
   | succ i=>
     have hx:p x=true:=by simpa using h1 0 Zac
     obtain⟨k1,k2⟩:=ih (i:=i) Zbn (fun j hj=>by have:=h1 (j+1) Zac;simpa using this) (by
      rcases h2 with h2 | h2;left;simpa using h2;right;simpa using h2)
     simp[List.takeWhile_cons,List.dropWhile_cons,hx,k1,k2]
def dN(rest:BL):Option w4:=cq (bK (rest.takeWhile jG)) [] (rest.dropWhile jG)
def aO(raw:BL):Option w4:=
 if raw.length<=60/\2<=(ab 35 raw).1.length/\(ab 35 raw).1.take 2=[47,47] then dN ((ab 35 raw).1.drop 2) else none
def bw(a:w4):BL:=if aF a=true then da a else []
def ay(s:BL):Bool:=(aO s).isSome&&(bw (oA (aO s))==s)
theorem LP{h:BL}{fr:List BL}{r5:BL}{a:w4}(e:cq h fr r5=some a):aF a=true:=by
 unfold cq at e;split at e;split at e;rename_i hk;simp only[Zan]at e;subst e;exact hk;simp at e;simp at e
theorem JZ{s:BL}{a:w4}(e:aO s=some a):aF a=true:=by
 unfold aO at e;split at e;exact LP e;simp at e
theorem MW{a:w4}(h:aF a=true):dg a:=by
 unfold aF cZ A5 at h;simp only[Zao,Zbk,Za2]at h;obtain⟨⟨⟨⟨⟨⟨_,h1⟩,h2⟩,h3⟩,_⟩,h4⟩,_⟩:=h;have:=nJ h3;refine⟨Zac,Zac,Zac,fun i=>ij (n:=1048576) (fun p hp=>?_) i⟩;have:=h4 p hp;unfold fE at this;simp only[Zao]at this;have:=nJ this.1.1.1;omega
theorem rM(s:BL):dg (oA (aO s)):=by
 cases e:aO s with
 | none=>exact⟨by simp[oA],by simp[oA],by simp[oA],by simp[oA]⟩
 | some a=>exact MW (JZ e)
def cR(p:BL):Bool:=decide ((p.getD (p.length-1) 0).toNat=36)
def aA(p:BL):BL:=if cR p=true then p.take (p.length-1) else p
def iM(e:Bool)(s:BL):Nat->List BL->Bool
 | at_,[]=>!e||decide (at_=s.length)
 | at_,p::r=>if (e&&r.isEmpty)=true then decide (at_+p.length<=s.length)&&(s.drop (s.length-p.length)==p)
   else if cm s p at_<0 then false else iM e s ((cm s p at_).toNat+p.length) r
def lB(p s:BL):Bool:=
 ((ae 42 (aA p)).headD []).isPrefixOf s&&iM (cR p) s ((ae 42 (aA p)).headD []).length (ae 42 (aA p)).tail
theorem zX(s p:BL)(f:Nat):cm s p f<0\/(f:Int)<=cm s p f/\cm s p f+p.length<=s.length:=by
 rw[cm];split;split;right;constructor <;> omega;rcases zX s p (f+1) with h | ⟨h1,h2⟩;exact .inl h;exact .inr ⟨Zac,h2⟩;left;omega
 termination_by s.length+1-f
theorem En(c:UInt8)(s:BL):1<=(ae c s).length:=by
 rw[pV];simp
theorem Cz{p:BL}(h:1<=p.length):((((p.getD (Int.toNat ((p.length:Int)-1)) 0).toNat:Int))==36)=cR p:=by
 have:Int.toNat ((p.length:Int)-1)=p.length-1:=Zac;rw[this];unfold cR;rw[Za6];simp only[Zbl,Zbk];omega
theorem EE{p:BL}(h:cR p=true):(p.take (Int.toNat ((p.length:Int)-1))).drop (Int.toNat 0)=aA p:=by
 have:Int.toNat ((p.length:Int)-1)=p.length-1:=Zac;rw[this];unfold aA;rw[if_pos h];rfl
theorem FV{p:BL}(h:cR p=false):p=aA p:=by unfold aA;rw[if_neg (by rw[h];decide)]
theorem Lu{s x:BL}(h:s.take x.length=x):x.isPrefixOf s=true:=by
 rw[List.isPrefixOf_iff_prefix];rw[<- h];exact List.take_prefix _ _
theorem Jo{s x:BL}(h: ¬ s.take x.length=x):x.isPrefixOf s=false:=by
 rw[Bool.eq_false_iff];intro h';rw[List.isPrefixOf_iff_prefix]at h';exact h (List.prefix_iff_eq_take.1 h').symm
theorem MC{e:Bool}{s p:BL}{q:Nat}{r:List BL}(h: ¬ (e=true/\r=[]))(hf:0<=cm s p q):iM e s q (p::r)=iM e s ((cm s p q).toNat+p.length) r:=by
 simp only[iM];rw[if_neg Zbq,if_neg Zac]
theorem Mk{e:Bool}{s p:BL}{q:Nat}{r:List BL}(h: ¬ (e=true/\r=[]))(hf:cm s p q<0):iM e s q (p::r)=false:=by
 simp only[iM];rw[if_neg Zbq,if_pos hf]
theorem Gr{s p:BL}{q:Nat}:iM true s q [p]=(decide (q+p.length<=s.length)&&(s.drop (s.length-p.length)==p)):=by
 simp only[iM,List.isEmpty_nil,Bool.and_self,if_true]
structure r7 where
 C3:Bool
 path:BL
def du(p s:BL):Bool:=bc p&&decide (s.length<=60)&&lB p s
def dt(s:BL)(x:Int×Bool)(r:r7):Int×Bool:=
 if du r.path s=false\/(r.path.length:Int)<x.1 then x else (r.path.length,r.C3||(decide ((r.path.length:Int)=x.1)&&x.2))
def bT(rs:List r7)(s:BL):Bool:=(rs.foldl (dt s) (-1,true)).2
theorem mC{p:BL}(h:bc p=true):1<=p.length/\p.length<=16:=by
 unfold bc at h;simp only[Zbk]at h;exact⟨h.1,h.2.1⟩
theorem foldl_succ{α β:Type}{f:β->α->β}{b:β}{l:List α}{i:Nat}{d:α}(h:i<l.length):(l.take (i+1)).foldl f b=f ((l.take i).foldl f b) (l.getD i d):=by
 rw[aW h d,List.foldl_append];rfl
abbrev au(r:r7):V:=.agg [bV r.C3,sV r.path]
def gQ(m n:Int)(c:UInt8):Int:=min (n*10+(c.toNat-48)) m
def ez(s:BL)(m:Int):Int:=if s.all (fun c=>decide (48<=c.toNat/\c.toNat<=57))=true then s.foldl (gQ m) 0 else 0
structure l7 where
 na:List BL
 ru:List r7
 wa:Nat
abbrev bY(g:l7):V:=.agg [.sl false (g.na.map sV),.sl false (g.ru.map au),iV g.wa]
def kv:List BL:=[[47],[47,97],[47,98],[47,97,47],[47,42,98],[47,97,36],[47,99],[47,42,63],[47,97,47,98],[47,42,47,98,36],[47,36],[47,98,42,99],[47,110,111,116,105,99,101],[47,42]]
def bb:List BL:=[[97,98],[99,100],[101],[102,111,120]]
def o8(s:BL):Prop:= ∀ c,c∈s->c.toNat<128
def GB(s:BL):Bool:=s.all fun c=>decide (c.toNat<128)
theorem bS{s:BL}(h:GB s=true):o8 s:=fun c hc=>by
 have:=Za2.1 h c hc;simpa using this
theorem bu:o8 []:=fun c hc=>by simp at hc
theorem o8.app{a b:BL}(h1:o8 a)(h2:o8 b):o8 (a++b):=fun c hc=>(Zax.1 hc).elim (h1 c) (h2 c)
theorem ee{l:List BL}{x:BL}(h:l.all GB=true)(hx:x∈l):o8 x:=bS (Za2.1 h x hx)
theorem eK{l:List BL}(h:l.all GB=true)(i:Nat):o8 (l.getD i []):=by
 rw[Zam];cases e:l[i]? with
 | none=>exact bu
 | some x=>exact ee h (Za7 e)
structure G3 (g:l7):Prop where
 nl:g.na.length<=2
 nb:∀ x,x∈g.na->x.length<=5
 rl:g.ru.length<=4
 rb:∀ r,r∈g.ru->r.path∈kv
 w:g.wa<=6
 ac:∀ x,x∈g.na->o8 x
theorem bM{l:List BL}{n:Nat}(h:l.all (fun x=>Nat.ble x.length n)=true){x:BL}(hx:x∈l):x.length<=n:=Nat.le_of_ble_eq_true (Za2.1 h x hx)
theorem jt{α:Type}{P:α->Prop}{l:List α}{x:α}(h:∀ y,y∈l->P y)(hx:P x):∀ y,y∈l++[x]->P y:=fun y hy=>by
 rcases Zax.1 hy with q | q;exact h y q;rw[Zav.1 q];exact hx
abbrev zqR:r7:=⟨false,[]⟩
abbrev zqG:l7:=⟨[],[],0⟩
structure Pg where
 addr:BL
 text:BL
 lead:BL
 o5:Int
def r9:Pg:=⟨[],[],[],0⟩
def D9:List Pg->BL->Pg×Bool
 | [],_=>(r9,false)
 | p::r,a=>if p.addr=a then (p,true) else D9 r a
theorem DF{l:List BL}(h:l.length<=2)(hx:∀ x,x∈l->x.length<=6):(cJ l).length<=13:=by
 match l,h with
 | [],_=>simp[cJ]
 | [x],_=>have:=hx x Zad;simp[cJ];omega
 | [x,y],_=>have:=hx x Zad;have:=hx y Zad;simp[cJ];omega
theorem dn{l:List BL}{n:Nat}(h:l.all (fun x=>Nat.ble x.length n)=true)(i:Nat):(l.getD i []).length<=n:=by
 rw[Zam];cases e:l[i]? with
 | none=>simp
 | some x=>exact bM h (Za7 e)
theorem oj{a:w4}(h1:a.j8.length<=3)(h2:a.c9.length<=2)(h3:∀ x,x∈a.c9->x.length<=6)(h4:a.ask.length<=5):dg a/\(bw a).length<=25:=by
 refine⟨⟨Zac,Zac,Zac,fun i=>?_⟩,?_⟩;rw[Zam];cases e:a.c9[i]? with
 | none=>simp
 | some x=>have:=h3 x (Za7 e);simp;omega
 have:=DF h2 h3;unfold bw da bJ;split;split <;> simp <;> omega;simp
def eU(n:Nat):BL:=if n<10 then [UInt8.ofNat (48+n)] else eU (n / 10)++[UInt8.ofNat (48+n % 10)]
 termination_by n
theorem Ao(n:Nat)(h:n<=1000000):(eU n).length<=7:=by
 have:∀ k n,n<10 ^ (k+1)->(eU n).length<=k+1:=by
  intro k;induction k with
  | zero=>intro n hn;rw[eU,if_pos Zac];simp
  | succ k ih=>
    intro n hn;rw[eU];split;simp;have:=ih (n / 10) (by rw[Nat.pow_succ]at hn;omega);simp;omega
 exact this 6 n Zac
abbrev B7(p:Pg):V:=.agg [sV p.addr,sV p.text,sV p.lead,iV p.o5]
theorem sG{gs:List l7}(hg:∀ y,y∈gs->G3 y)(i:Nat):G3 (gs.getD i ⟨[],[],0⟩):=by
 rw[Zam];cases e:gs[i]? with
 | none=>exact⟨Zad,Zad,Zad,Zad,Zad,Zad⟩
 | some x=>exact hg x (Za7 e)
theorem gK{gs:List l7}(hg:∀ y,y∈gs->G3 y)(i k:Nat):((gs.getD i ⟨[],[],0⟩).na.getD k []).length<=5:=by
 rw[Zam (l:=l7.na _)];cases e:(gs.getD i ⟨[],[],0⟩).na[k]? with
 | none=>simp
 | some x=>exact(sG hg i).nb x (Za7 e)
theorem rG{gs:List l7}(hg:∀ y,y∈gs->G3 y)(i k:Nat):o8 ((gs.getD i ⟨[],[],0⟩).na.getD k []):=by
 rw[Zam (l:=l7.na _)];cases e:(gs.getD i ⟨[],[],0⟩).na[k]? with
 | none=>exact bu
 | some x=>exact(sG hg i).ac x (Za7 e)
theorem qR{gs:List l7}(hg:∀ y,y∈gs->G3 y)(i k:Nat):o8 ((gs.getD i ⟨[],[],0⟩).ru.getD k ⟨false,[]⟩).path:=by
 rw[Zam (l:=l7.ru _)];cases e:(gs.getD i ⟨[],[],0⟩).ru[k]? with
 | none=>exact bu
 | some x=>exact ee rfl ((sG hg i).rb x (Za7 e))
theorem gF{gs:List l7}(hg:∀ y,y∈gs->G3 y)(i k:Nat):((gs.getD i ⟨[],[],0⟩).ru.getD k ⟨false,[]⟩).path.length<=7:=by
 rw[Zam (l:=l7.ru _)];cases e:(gs.getD i ⟨[],[],0⟩).ru[k]? with
 | none=>simp
 | some x=>exact bM rfl ((sG hg i).rb x (Za7 e))
theorem qZ:∀ {l:List BL},(∀ x,x∈l->o8 x)->o8 (cJ l)
 | [],_=>bu
 | [p],h=>h p Zad
 | p::q::r,h=>((h p Zad).app (bS rfl)).app (qZ fun x hx=>h x (by simp[hx]))
theorem BI{a:w4}(h1:o8 a.j8)(h2:∀ x,x∈a.c9->o8 x)(h3:o8 a.ask):o8 (bw a):=by
 unfold bw da bJ;split;refine((bS rfl).app h1).app (((bS rfl).app (qZ h2)).app ?_);split;exact(bS rfl).app h3;exact bu;exact bu
theorem nB(n:Nat):o8 (eU n):=by
 induction n using Nat.strongRecOn with
 | ind n ih=>
   rw[eU];split;intro c hc;rw[Zav.1 hc,UInt8.toNat_ofNat'];omega;refine(ih (n / 10) Zac).app ?_;intro c hc;rw[Zav.1 hc,UInt8.toNat_ofNat'];omega
structure r8 (y:Pg):Prop where
 a:y.addr.length<=30
 t:y.text.length<=300
 l:y.lead.length<=30
 f:0<=y.o5/\y.o5<=10
 aa:o8 y.addr
 la:o8 y.lead
 ta:o8 y.text
theorem Jh{w:List Pg}{a:BL}(h:(D9 w a).2=true):1<=w.length:=by
 cases w with
 | nil=>simp[D9]at h
 | cons p r=>simp
theorem qd{l:List Int}(h:l.all (fun x=>decide (0<=x/\x<=10))=true)(i:Nat):0<=l.getD i 0/\l.getD i 0<=10:=by
 rw[Zam];cases e:l[i]? with
 | none=>simp
 | some x=>simpa using Za2.1 h x (Za7 e)
theorem qm{w:List Pg}(h:∀ y,y∈w->r8 y)(i:Nat):r8 (w.getD i r9):=by
 rw[Zam];cases e:w[i]? with
 | none=>exact⟨by simp[r9],by simp[r9],by simp[r9],by simp[r9],bu,bu,bu⟩
 | some x=>exact h x (Za7 e)
theorem aR{xs:List V}{j sz g0 o0 g o c:Nat}{v:V}{p:List Nat}{r:Nat×Nat×V}(h:xs[j]? =some v)(e:V.at g (o+j*sz) v p=some r):V.at g0 o0 (.own sz xs g o c) (j::p)=some r:=by simp only[V.at,h];exact e
theorem bB{xs ys:List V}{j sz g o c:Nat}{x v:V}{p:List Nat}(h:xs[j]? =some x)(e:xs.set j (V.set x p v)=ys):V.set (.own sz xs g o c) (j::p) v=.own sz ys g o c:=by simp only[V.set,h,e]
def eW(y:Pg):Bool:=ay y.addr&&decide (y.text.length<=300)&&A5 y.o5 0 9&&(y.lead==[]||(y.text==[]&&ay y.lead))
def aK(w:List Pg):Bool:=decide (∀ i,i<w.length->eW (w.getD i r9)=true/\∀ k,k<i->(w.getD k r9).addr≠(w.getD i r9).addr)&&decide (w.length<=12)
def aI(h:BL):BL:=[47,47]++h++[47,110,111,116,105,99,101]
def ah(w:List Pg)(a:BL)(n:Int):Int×BL:=
 if (D9 w a).2=false then (0,[]) else if n<(D9 w a).1.o5 then (3,[]) else if (D9 w a).1.lead=[] then (1,(D9 w a).1.text) else (2,(D9 w a).1.lead)
theorem Lg{y:Pg}(h:((ay y.addr=true/\(y.text.length:Int)<=300)/\A5 y.o5 0 9=true)/\(¬ y.lead=[]->y.text=[]/\ay y.lead=true)):eW y=true:=by
 unfold eW;obtain⟨⟨⟨h1,h2⟩,h3⟩,h4⟩:=h;rw[h1,h3,decide_eq_true Zac];by_cases hl:y.lead=[];simp[hl];obtain⟨h5,h6⟩:=h4 hl;simp[h5,h6]
theorem KU{y:Pg}(h:((ay y.addr=false\/300<(y.text.length:Int))\/A5 y.o5 0 9=false)\/¬ y.lead=[]/\(¬ y.text=[]\/ay y.lead=false)):eW y=false:=by
 unfold eW;rcases h with ((h | h) | h) | ⟨h,h' | h'⟩;simp[h];rw[decide_eq_false Zac];simp;simp[h];simp[h,h'];simp[h,h']
theorem xV{w:List Pg}{i:Nat}(hi:i<w.length)(h: ¬ (eW (w.getD i r9)=true/\∀ k,k<i->(w.getD k r9).addr≠(w.getD i r9).addr)):aK w=false:=by
 unfold aK;rw[decide_eq_false (fun c=>h (c i hi))];rfl
theorem Ds{w:List Pg}(h:∀ i,i<w.length->eW (w.getD i r9)=true/\∀ k,k<i->(w.getD k r9).addr≠(w.getD i r9).addr):aK w=decide (w.length<=12):=by
 unfold aK;rw[decide_eq_true h];rfl
def ef(gs:List l7)(f:l7->l7):List l7:=match gs.getLast? with
 | none=>gs
 | some z=>gs.dropLast++[f z]
def iA(gs:List l7):Nat:=match gs.getLast? with
 | none=>0
 | some z=>z.ru.length
def dG(gs:List l7)(w r:BL)(b:Bool):List l7×Bool:=
 if w=[99,97,108,108,101,114]/\(r=[42]\/cC r=true) then
  if b=true\/gs=[] then (gs++[⟨[r],[],0⟩],false) else (ef gs fun z=>⟨z.na++[r],z.ru,z.wa⟩,false)
 else if gs=[] then (gs,b)
 else if (w=[108,101,116]\/w=[98,97,114])/\bc r=true/\iA gs<6 then (ef gs fun z=>⟨z.na,z.ru++[⟨w==[108,101,116],r⟩],z.wa⟩,true)
 else if w=[119,97,105,116] then (ef gs fun z=>⟨z.na,z.ru,(ez r 20).toNat⟩,true)
 else (gs,b)
theorem eJ(l:List l7)(z:l7)(f:l7->l7):ef (l++[z]) f=l++[f z]:=by simp[ef]
theorem ia(l:List l7)(z:l7):iA (l++[z])=z.ru.length:=by simp[iA]
theorem jY{α:Type}{l:List α}(h:l≠[]):∃ x:List α×α,l=x.1++[x.2]:=⟨(l.dropLast,l.getLast h),(List.dropLast_concat_getLast h).symm⟩
theorem AM{m:Int}(hm:0<=m){n:Int}(hn:0<=n){c:UInt8}(hc:48<=c.toNat):0<=gQ m n c:=by
 unfold gQ;omega
theorem BC{s:BL}{m:Int}(hm:0<=m):0<=ez s m:=by
 unfold ez;split;rename_i h;rw[Za2]at h;have:∀ (l:BL) (n:Int),0<=n->(∀ c,c∈l->48<=c.toNat)->0<=l.foldl (gQ m) n:=by
  intro l;induction l with
  | nil=>intro n hn _;exact hn
  | cons c l ih=>intro n hn hl;exact ih _ (AM hm hn (hl c Zad)) fun d hd=>hl d (by simp[hd])
 exact this s 0 Zac fun c hc=>by have:=h c hc;simp at this;exact this.1
 exact Int.le_refl 0
abbrev az(g:l7):V:=.agg [.ow 1 (g.na.map sV),.ow 2 (g.ru.map au),iV g.wa]
theorem aw{α:Type}{f:α->V}{l:List α}{v:V}:(l.map f++[v])[l.length]? =some v:=Zad
theorem bG{α:Type}{f:α->V}{l:List α}{v u:V}:(l.map f++[v]).set l.length u=l.map f++[u]:=Zad
theorem Jd(g:l7):(az g).er=bY g:=by
 simp only[az,V.er,V.E4,aV (f:=sV) (fun _=>rfl),aV (f:=au) (fun _=>rfl)]
theorem tE:∀ (l:List l7),V.E4 (l.map az)=l.map bY
 | []=>rfl
 | g::l=>by simp only[Zbe,V.E4,tE l];rw[Jd]
def eF(x:List l7×Bool)(l:BL):List l7×Bool:=dG x.1 (ab 32 l).1 (ab 32 l).2.1 x.2
def bH(t:BL):List l7:=(((ae 10 t).take 40).foldl eF ([],false)).1
structure L2 (n:Nat) (gs:List l7):Prop where
 len:gs.length<=n
 each:∀ y,y∈gs->y.na.length<=n/\y.ru.length<=6
theorem L2.mono{n m:Nat}{gs:List l7}(h:L2 n gs)(hm:n<=m):L2 m gs:=⟨Nat.le_trans h.len hm,fun y hy=>⟨Nat.le_trans (h.each y hy).1 hm,(h.each y hy).2⟩⟩
theorem L2.set{n:Nat}{gs:List l7}{f:l7->l7}(h:L2 n gs)(hf:∀ z,gs.getLast? =some z->(f z).na.length<=n+1/\(f z).ru.length<=6):L2 (n+1) (ef gs f):=by
 unfold ef;split;exact h.mono Zac;rename_i z hz;refine⟨?_,fun y hy=>?_⟩;have:=h.len;have hne:gs≠[]:=by rintro rfl;simp at hz
 have:=List.length_pos_iff.2 hne;simp;omega;rcases Zax.1 hy with hy | hy;have:=h.each y (List.dropLast_subset _ hy);exact⟨Zac,this.2⟩;rw[Zav.1 hy];exact hf z hz
theorem Bp{n:Nat}{gs:List l7}{w d:BL}{b:Bool}(h:L2 n gs):L2 (n+1) (dG gs w d b).1:=by
 have hl:∀ z,gs.getLast? =some z->z.na.length<=n/\z.ru.length<=6:=fun z hz=>h.each z (List.mem_of_getLast? hz);unfold dG;split;split;refine⟨by have:=h.len;simp;omega,fun y hy=>?_⟩;rcases Zax.1 hy with hy | hy;have:=h.each y hy;exact⟨Zac,this.2⟩;rw[Zav.1 hy];simp;exact h.set fun z hz=>⟨by have:=hl z hz;simp;omega,(hl z hz).2⟩;split;exact h.mono Zac;split;rename_i hc;refine h.set fun z hz=>⟨Zb7,?_⟩;have:=hc.2.2;unfold iA at this;rw[hz]at this;simp only at this;simp only[Zap,Zar,Zau];omega;split;exact h.set fun z hz=>⟨Zb7,(hl z hz).2⟩;exact h.mono Zac
theorem ug(c:UInt8):∀ (s:BL),(ab c s).1.length<=s.length/\(ab c s).2.1.length<=s.length
 | []=>by simp[ab]
 | x::s=>by
   have:=ug c s;unfold ab;split <;> simp <;> omega
theorem Av{α:Type}{l:List α}{i:Nat}(h1:i<=l.length)(h2:i<=40)(h:(i:Int)<l.length->(40:Int)<=i):l.take 40=l.take i:=by
 rcases Nat.lt_or_ge i l.length with hl | hl;have:=h Zac;rw[show i=40 from Zac];rw[Zaz Zac,Zaz Zac]
def dD(n:BL)(x:(List r7×Nat)×Bool)(g:l7):(List r7×Nat)×Bool:=if g.na.any (fun y=>y==n)=true then ((x.1.1++g.ru,max x.1.2 g.wa),true) else x
def QA(gs:List l7)(n:BL):l7×Bool:=(⟨[n],(gs.foldl (dD n) (([],0),false)).1.1,(gs.foldl (dD n) (([],0),false)).1.2⟩,(gs.foldl (dD n) (([],0),false)).2)
theorem any_succ{α:Type}{f:α->Bool}{l:List α}{i:Nat}{d:α}(h:i<l.length):(l.take (i+1)).any f=((l.take i).any f||f (l.getD i d)):=by
 rw[aW h d,List.any_append];simp
def eE(gs:List l7)(n:BL):l7:=if (QA gs n).2=true then (QA gs n).1 else (QA gs [42]).1
theorem xR:∀ (l:List BL) {k:Nat} {x:List l7×Bool},L2 k x.1->L2 (k+l.length) (l.foldl eF x).1
 | [],k,x,h=>h
 | a::l,k,x,h=>by
   have:=xR l (k:=k+1) (x:=eF x a) (Bp h);exact this.mono Zal
theorem ji(t:BL):L2 40 (bH t):=by
 have:=xR ((ae 10 t).take 40) (k:=0) (x:=([],false)) ⟨Zad,Zad⟩;exact this.mono Zal
theorem L2.ru{n:Nat}{gs:List l7}(h:L2 n gs)(i:Nat):(gs.getD i ⟨[],[],0⟩).ru.length<=100/\(gs.getD i ⟨[],[],0⟩).na.length<=n:=by
 rw[Zam];cases e:gs[i]? with
 | none=>simp
 | some x=>have:=h.each x (Za7 e);exact⟨by simp only[Option.getD_some];omega,this.1⟩
def cL(k:Int)(t n:BL):l7:=if k=1 then eE (bH t) n else if k=3 then ⟨[n],[⟨false,[47]⟩],0⟩ else eE [] n
theorem sA:∀ (w:List Pg) (a:BL),(D9 w a).2=true->∃ i,(D9 w a).1=w.getD i r9
 | [],a,h=>by simp[D9]at h
 | p::r,a,h=>by
   unfold D9 at h ⊢;split;exact⟨0,rfl⟩;rename_i hp;rw[if_neg hp]at h;obtain⟨i,hi⟩:=sA r a h;exact⟨i+1,by rw[hi];simp⟩
theorem ui{w:List Pg}{a:BL}{k:Int}{m:Nat}(h:∀ i,(w.getD i r9).text.length<=m/\(w.getD i r9).lead.length<=m):(ah w a k).2.length<=m:=by
 unfold ah;split;simp;rename_i h1;have h1:(D9 w a).2=true:=Zb0
 obtain⟨i,hi⟩:=sA w a h1;have:=h i;rw[hi];split;simp;split <;> simp only <;> omega
def ou(gs:List l7):Prop:= ∀ y,y∈gs->∀ r,r∈y.ru->r.path.length<=16
theorem ou.set{gs:List l7}{f:l7->l7}(h:ou gs)(hf:∀ z,gs.getLast? =some z->∀ r,r∈(f z).ru->r.path.length<=16):ou (ef gs f):=by
 unfold ef;split;exact h;rename_i z hz;intro y hy;rcases Zax.1 hy with hy | hy;exact h y (List.dropLast_subset _ hy);rw[Zav.1 hy];exact hf z hz
theorem Kj{gs:List l7}{w d:BL}{b:Bool}(h:ou gs):ou (dG gs w d b).1:=by
 have hl:∀ z,gs.getLast? =some z->∀ r,r∈z.ru->r.path.length<=16:=fun z hz=>h z (List.mem_of_getLast? hz);unfold dG;split;split;intro y hy;rcases Zax.1 hy with hy | hy;exact h y hy;rw[Zav.1 hy];simp;exact h.set fun z hz=>hl z hz;split;exact h;split;rename_i hc;refine h.set fun z hz r hr=>?_;rcases Zax.1 hr with hr | hr;exact hl z hz r hr;rw[Zav.1 hr];exact(mC hc.2.1).2;split;exact h.set fun z hz=>hl z hz;exact h
theorem Et(t:BL):ou (bH t):=by
 have:∀ (l:List BL) (x:List l7×Bool),ou x.1->ou (l.foldl eF x).1:=by
  intro l;induction l with
  | nil=>exact fun x h=>h
  | cons a l ih=>exact fun x h=>ih _ (Kj h)
 exact this _ _ (by intro y hy;simp at hy)
structure Xf (m:Nat) (x:(List r7×Nat)×Bool):Prop where
 l:x.1.1.length<=6*m
 r:∀ r,r∈x.1.1->r.path.length<=16
theorem Ik(n:BL):∀ (gs:List l7) {m k:Nat} {x:(List r7×Nat)×Bool},Xf m x->L2 k gs->ou gs->Xf (m+gs.length) (gs.foldl (dD n) x)
 | [],m,k,x,h,_,_=>h
 | g::gs,m,k,x,h,h1,h2=>by
   have hs:Xf (m+1) (dD n x g):=by
    unfold dD;split;refine⟨?_,fun r hr=>?_⟩;have:=h.l;have:=(h1.each g Zad).2;simp only[Zap];omega;rcases Zax.1 hr with hr | hr;exact h.r r hr;exact h2 g Zad r hr;exact⟨by have:=h.l;omega,h.r⟩
   have:=Ik n gs (k:=k) hs ⟨by have:=h1.len;simp at this;omega,fun y hy=>h1.each y (by simp[hy])⟩ (fun y hy=>h2 y (by simp[hy]));rw[List.foldl_cons,Zar,show m+(gs.length+1)=m+1+gs.length from Zac];exact this
theorem BX{gs:List l7}(n:BL)(h1:L2 40 gs)(h2:ou gs):(eE gs n).ru.length<=240/\∀ r,r∈(eE gs n).ru->r.path.length<=16:=by
 have key:∀ q,(QA gs q).1.ru.length<=240/\∀ r,r∈(QA gs q).1.ru->r.path.length<=16:=fun q=>by
  have:=Ik q gs (m:=0) (x:=(([],0),false)) ⟨Zad,Zad⟩ h1 h2;exact⟨by have h3:=this.l;have:=h1.len;unfold QA;simp only;omega,this.r⟩
 unfold eE;split;exact key n;exact key [42]
theorem oU(k:Int)(t n:BL):(cL k t n).ru.length<=240/\∀ r,r∈(cL k t n).ru->r.path.length<=16:=by
 unfold cL;split;exact BX n (ji t) (Et t);split;exact⟨Zad,Zad⟩;exact BX n ⟨Zad,Zad⟩ (fun y hy=>by simp at hy)
def fm(s p:BL):Bool:=decide (p.length<=s.length)&&(s.take p.length==p)
def gX(s p:BL):Bool:=decide (p.length<=s.length)&&(s.drop (s.length-p.length)==p)
def cK(s p:BL):BL:=if gX s p=true then s.take (s.length-p.length) else s
theorem vR{s p:BL}(h:gX s p=true):p.length<=s.length:=by unfold gX at h;simp at h;exact h.1
theorem Mb{s p:BL}(h:fm s p=true):p.length<=s.length:=by unfold fm at h;simp at h;exact h.1
def dQ(p:BL):Bool:=decide (1<=p.length/\p.length<=16/\(p.getD 0 0).toNat=47)&&(cK p [36]).all jT
end Go.Proofs.YtngholilfbdfkabGreatDoor
namespace Go.Proofs
open Go.Shelf
def Tryz.tz:Go.Shelf.Ren:=⟨fun | 156=>166 | 165=>196 | 166=>197 | 169=>198 | 240=>218 | 241=>219 | 276=>229 | 277=>230 | n=>n,fun | 31=>25 | 9=>9 | 3=>3 | 4=>4 | 0=>0 | 20=>20 | 72=>222 | 76=>223 | 70=>220 | 37=>22 | 75=>112 | 127=>244 | 164=>257 | 5=>5 | 80=>225 | n=>n,fun | n=>n⟩
theorem Tryz.BD:Go.Proofs.Lays.n156 Tryz.prog Tryz.tz:={
 mixed:=Zae
 f156:=Tryz.func166.trans (Zbm some Zae)
 f165:=Tryz.func196.trans (Zbm some Zae)
 f166:=Tryz.func197.trans (Zbm some Zae)
 f169:=Tryz.func198.trans (Zbm some Zae)
 f240:=Tryz.func218.trans (Zbm some Zae)
 f241:=Tryz.func219.trans (Zbm some Zae)
 f276:=Tryz.func229.trans (Zbm some Zae)
 f277:=Tryz.func230.trans (Zbm some Zae)
 t0:=Tryz.underlying0
 a0:=Tryz.isAgg0
 z0:=Tryz.sizeOf0
 v0:=Tryz.zeroValue0
 t3:=Tryz.underlying3
 a3:=Tryz.isAgg3
 z3:=Tryz.sizeOf3
 v3:=Tryz.zeroValue3
 t4:=Tryz.underlying4
 a4:=Tryz.isAgg4
 z4:=Tryz.sizeOf4
 v4:=Tryz.zeroValue4
 t9:=Tryz.underlying9
 a9:=Tryz.isAgg9
 z9:=Tryz.sizeOf9
 v9:=Tryz.zeroValue9
 t20:=Tryz.underlying20
 a20:=Tryz.isAgg20
 z20:=Tryz.sizeOf20
 v20:=Tryz.zeroValue20
 t31:=Tryz.underlying25
 a31:=Tryz.isAgg25
 z31:=Tryz.sizeOf25
 v31:=Tryz.zeroValue25
 t37:=Tryz.underlying22
 a37:=Tryz.isAgg22
 z37:=Tryz.sizeOf22
 v37:=Tryz.zeroValue22
 t70:=Tryz.underlying220
 a70:=Tryz.isAgg220
 z70:=Tryz.sizeOf220
 v70:=Tryz.zeroValue220
 t72:=Tryz.underlying222
 a72:=Tryz.isAgg222
 z72:=Tryz.sizeOf222
 v72:=Tryz.zeroValue222
 t75:=Tryz.underlying112
 a75:=Tryz.isAgg112
 z75:=Tryz.sizeOf112
 v75:=Tryz.zeroValue112
 t76:=Tryz.underlying223
 a76:=Tryz.isAgg223
 z76:=Tryz.sizeOf223
 v76:=Tryz.zeroValue223
 t127:=Tryz.underlying244
 a127:=Tryz.isAgg244
 z127:=Tryz.sizeOf244
 v127:=Tryz.zeroValue244
 t164:=Tryz.underlying257
 a164:=Tryz.isAgg257
 z164:=Tryz.sizeOf257
 v164:=Tryz.zeroValue257 }
theorem Tryz.mc:Builder.Extra Tryz.prog Tryz.tz:={
 sizeBuilder:=Zae
 liesBuilder:=Zae
 t5:=Tryz.underlying5
 a5:=Tryz.isAgg5
 z5:=Tryz.sizeOf5
 v5:=Tryz.zeroValue5
 infoByte:=Zae
 cellsByte:=Zae
 sizeByte:=Zae
 neB5:=by decide }
open Go.RowKit in
theorem Tryz.strings_Join_none(a:Option Addr)(c:Nat)(sep:ByteArray)(w:World):
 Calls Tryz.prog 166 #[.slice a 0 c,.string sep] w fun e w'=>e=.returned (.string ⟨#[]⟩)/\w'=w:=Any.strings_Join_none Tryz.BD Tryz.mc a c sep w
open Go.RowKit in
theorem Tryz.strings_Join(bk o c:Nat)(xs:List ByteArray)(sep:ByteArray)(w:World)(hcells:∀ (j:Nat) x,xs[j]? =some x->w.cell? ⟨bk,o+j,none⟩=some (.string x))(hbk:bk<w.heap.size)(hN:xs.length<=140737488355328)(hcap:xs.length<=c)(hlen:(Lib.join (xs.map (·.data.toList)) sep.data.toList).length<=140737488355328):
 Calls Tryz.prog 166 #[.slice (some ⟨bk,o,none⟩) xs.length c,.string sep] w fun e w'=>e=.returned (.string ⟨(Lib.join (xs.map (·.data.toList)) sep.data.toList).toArray⟩)/\Below w.heap.size w w':=Any.strings_Join Tryz.BD Tryz.mc bk o c xs sep w hcells hbk hN hcap hlen
def Tryz.AU:Go.Shelf.Ren:=⟨fun | 219=>113 | 217=>157 | 225=>158 | 224=>159 | 267=>160 | 266=>190 | 314=>191 | n=>n,fun | 9=>9 | 3=>3 | 4=>4 | 5=>5 | 46=>196 | 146=>216 | 51=>215 | n=>n,fun | 1=>1 | n=>n⟩
theorem Tryz.Ko:Go.Proofs.Lays.n219 Tryz.prog Tryz.AU:={
 mixed:=Zae
 f217:=Tryz.func157.trans (Zbm some Zae)
 f219:=Tryz.func113.trans (Zbm some Zae)
 f224:=Tryz.func159.trans (Zbm some Zae)
 f225:=Tryz.func158.trans (Zbm some Zae)
 f266:=Tryz.func190.trans (Zbm some Zae)
 f267:=Tryz.func160.trans (Zbm some Zae)
 f314:=Tryz.func191.trans (Zbm some Zae)
 t3:=Tryz.underlying3
 a3:=Tryz.isAgg3
 z3:=Tryz.sizeOf3
 v3:=Tryz.zeroValue3
 t4:=Tryz.underlying4
 a4:=Tryz.isAgg4
 z4:=Tryz.sizeOf4
 v4:=Tryz.zeroValue4
 t5:=Tryz.underlying5
 a5:=Tryz.isAgg5
 z5:=Tryz.sizeOf5
 v5:=Tryz.zeroValue5
 t9:=Tryz.underlying9
 a9:=Tryz.isAgg9
 z9:=Tryz.sizeOf9
 v9:=Tryz.zeroValue9
 t46:=Tryz.underlying196
 a46:=Tryz.isAgg196
 z46:=Tryz.sizeOf196
 v46:=Tryz.zeroValue196
 t51:=Tryz.underlying215
 a51:=Tryz.isAgg215
 z51:=Tryz.sizeOf215
 v51:=Tryz.zeroValue215
 t146:=Tryz.underlying216
 a146:=Tryz.isAgg216
 z146:=Tryz.sizeOf216
 v146:=Tryz.zeroValue216
 g1:=by kernel_rfl }
open Go.RowKit Go.Lib in
theorem Tryz.stringslite_Index_one(s:ByteArray)(c:UInt8)(w:World):
 Calls Tryz.prog 113 #[.string s,.string ⟨#[c]⟩] w fun e w'=>e=.returned (.int .i64 (Lib.indexByte s.data.toList c))/\w'=w:=Any.stringslite_Index_one Tryz.Ko s c w
def Tryz.AW:Go.Shelf.Ren:=⟨fun | 143=>195 | 219=>113 | 217=>157 | 225=>158 | 224=>159 | 267=>160 | 266=>190 | 314=>191 | n=>n,fun | 9=>9 | 3=>3 | 4=>4 | 5=>5 | 46=>196 | 146=>216 | 51=>215 | n=>n,fun | 1=>1 | n=>n⟩
theorem Tryz.Kf:Go.Proofs.Lays.n143 Tryz.prog Tryz.AW:={
 mixed:=Zae
 f143:=Tryz.func195.trans (Zbm some Zae)
 f217:=Tryz.func157.trans (Zbm some Zae)
 f219:=Tryz.func113.trans (Zbm some Zae)
 f224:=Tryz.func159.trans (Zbm some Zae)
 f225:=Tryz.func158.trans (Zbm some Zae)
 f266:=Tryz.func190.trans (Zbm some Zae)
 f267:=Tryz.func160.trans (Zbm some Zae)
 f314:=Tryz.func191.trans (Zbm some Zae)
 t3:=Tryz.underlying3
 a3:=Tryz.isAgg3
 z3:=Tryz.sizeOf3
 v3:=Tryz.zeroValue3
 t4:=Tryz.underlying4
 a4:=Tryz.isAgg4
 z4:=Tryz.sizeOf4
 v4:=Tryz.zeroValue4
 t5:=Tryz.underlying5
 a5:=Tryz.isAgg5
 z5:=Tryz.sizeOf5
 v5:=Tryz.zeroValue5
 t9:=Tryz.underlying9
 a9:=Tryz.isAgg9
 z9:=Tryz.sizeOf9
 v9:=Tryz.zeroValue9
 t46:=Tryz.underlying196
 a46:=Tryz.isAgg196
 z46:=Tryz.sizeOf196
 v46:=Tryz.zeroValue196
 t51:=Tryz.underlying215
 a51:=Tryz.isAgg215
 z51:=Tryz.sizeOf215
 v51:=Tryz.zeroValue215
 t146:=Tryz.underlying216
 a146:=Tryz.isAgg216
 z146:=Tryz.sizeOf216
 v146:=Tryz.zeroValue216
 g1:=by kernel_rfl }
open Go.RowKit Go.Lib in
theorem Tryz.strings_Index_one(s:ByteArray)(c:UInt8)(w:World):
 Calls Tryz.prog 195 #[.string s,.string ⟨#[c]⟩] w fun e w'=>e=.returned (.int .i64 (Lib.indexByte s.data.toList c))/\w'=w:=Any.strings_Index_one Tryz.Kf s c w
def Tryz.AP:Go.Shelf.Ren:=⟨fun | 138=>194 | 195=>215 | 218=>217 | 143=>195 | 219=>113 | 217=>157 | 225=>158 | 224=>159 | 267=>160 | 266=>190 | 314=>191 | n=>n,fun | 9=>9 | 3=>3 | 4=>4 | 5=>5 | 0=>0 | 46=>196 | 146=>216 | 51=>215 | n=>n,fun | 1=>1 | n=>n⟩
theorem Tryz.JK:Go.Proofs.Lays.n138 Tryz.prog Tryz.AP:={
 mixed:=Zae
 f138:=Tryz.func194.trans (Zbm some Zae)
 f143:=Tryz.func195.trans (Zbm some Zae)
 f195:=Tryz.func215.trans (Zbm some Zae)
 f217:=Tryz.func157.trans (Zbm some Zae)
 f218:=Tryz.func217.trans (Zbm some Zae)
 f219:=Tryz.func113.trans (Zbm some Zae)
 f224:=Tryz.func159.trans (Zbm some Zae)
 f225:=Tryz.func158.trans (Zbm some Zae)
 f266:=Tryz.func190.trans (Zbm some Zae)
 f267:=Tryz.func160.trans (Zbm some Zae)
 f314:=Tryz.func191.trans (Zbm some Zae)
 t0:=Tryz.underlying0
 a0:=Tryz.isAgg0
 z0:=Tryz.sizeOf0
 v0:=Tryz.zeroValue0
 t3:=Tryz.underlying3
 a3:=Tryz.isAgg3
 z3:=Tryz.sizeOf3
 v3:=Tryz.zeroValue3
 t4:=Tryz.underlying4
 a4:=Tryz.isAgg4
 z4:=Tryz.sizeOf4
 v4:=Tryz.zeroValue4
 t5:=Tryz.underlying5
 a5:=Tryz.isAgg5
 z5:=Tryz.sizeOf5
 v5:=Tryz.zeroValue5
 t9:=Tryz.underlying9
 a9:=Tryz.isAgg9
 z9:=Tryz.sizeOf9
 v9:=Tryz.zeroValue9
 t46:=Tryz.underlying196
 a46:=Tryz.isAgg196
 z46:=Tryz.sizeOf196
 v46:=Tryz.zeroValue196
 t51:=Tryz.underlying215
 a51:=Tryz.isAgg215
 z51:=Tryz.sizeOf215
 v51:=Tryz.zeroValue215
 t146:=Tryz.underlying216
 a146:=Tryz.isAgg216
 z146:=Tryz.sizeOf216
 v146:=Tryz.zeroValue216
 g1:=by kernel_rfl }
open Go.RowKit Go.Lib in
theorem Tryz.strings_Count_one(s:ByteArray)(c:UInt8)(w:World):
 Calls Tryz.prog 194 #[.string s,.string ⟨#[c]⟩] w fun e w'=>e=.returned (.int .i64 (Lib.countByte s.data.toList c))/\w'=w:=Any.strings_Count_one Tryz.JK s c w
def Tryz.fK:Go.Shelf.Ren:=⟨fun | 221=>165 | 268=>193 | 138=>194 | 143=>195 | 195=>215 | 197=>216 | 218=>217 | 219=>113 | 260=>228 | 217=>157 | 225=>158 | 224=>159 | 267=>160 | 266=>190 | 314=>191 | n=>n,fun | 9=>9 | 3=>3 | 31=>25 | 4=>4 | 0=>0 | 105=>242 | 21=>21 | 5=>5 | 46=>196 | 119=>261 | 139=>264 | 138=>263 | 146=>216 | 51=>215 | n=>n,fun | 1=>1 | 3=>2 | 4=>3 | n=>n⟩
theorem Tryz.Jb:Go.Proofs.Lays.n221 Tryz.prog Tryz.fK:={
 mixed:=Zae
 f138:=Tryz.func194.trans (Zbm some Zae)
 f143:=Tryz.func195.trans (Zbm some Zae)
 f195:=Tryz.func215.trans (Zbm some Zae)
 f197:=Tryz.func216.trans (Zbm some Zae)
 f217:=Tryz.func157.trans (Zbm some Zae)
 f218:=Tryz.func217.trans (Zbm some Zae)
 f219:=Tryz.func113.trans (Zbm some Zae)
 f221:=Tryz.func165.trans (Zbm some Zae)
 f224:=Tryz.func159.trans (Zbm some Zae)
 f225:=Tryz.func158.trans (Zbm some Zae)
 f260:=Tryz.func228.trans (Zbm some Zae)
 f266:=Tryz.func190.trans (Zbm some Zae)
 f267:=Tryz.func160.trans (Zbm some Zae)
 f268:=Tryz.func193.trans (Zbm some Zae)
 f314:=Tryz.func191.trans (Zbm some Zae)
 t0:=Tryz.underlying0
 a0:=Tryz.isAgg0
 z0:=Tryz.sizeOf0
 v0:=Tryz.zeroValue0
 t3:=Tryz.underlying3
 a3:=Tryz.isAgg3
 z3:=Tryz.sizeOf3
 v3:=Tryz.zeroValue3
 t4:=Tryz.underlying4
 a4:=Tryz.isAgg4
 z4:=Tryz.sizeOf4
 v4:=Tryz.zeroValue4
 t5:=Tryz.underlying5
 a5:=Tryz.isAgg5
 z5:=Tryz.sizeOf5
 v5:=Tryz.zeroValue5
 t9:=Tryz.underlying9
 a9:=Tryz.isAgg9
 z9:=Tryz.sizeOf9
 v9:=Tryz.zeroValue9
 t21:=Tryz.underlying21
 a21:=Tryz.isAgg21
 z21:=Tryz.sizeOf21
 v21:=Tryz.zeroValue21
 t31:=Tryz.underlying25
 a31:=Tryz.isAgg25
 z31:=Tryz.sizeOf25
 v31:=Tryz.zeroValue25
 t46:=Tryz.underlying196
 a46:=Tryz.isAgg196
 z46:=Tryz.sizeOf196
 v46:=Tryz.zeroValue196
 t51:=Tryz.underlying215
 a51:=Tryz.isAgg215
 z51:=Tryz.sizeOf215
 v51:=Tryz.zeroValue215
 t105:=Tryz.underlying242
 a105:=Tryz.isAgg242
 z105:=Tryz.sizeOf242
 v105:=Tryz.zeroValue242
 t119:=Tryz.underlying261
 a119:=Tryz.isAgg261
 z119:=Tryz.sizeOf261
 t138:=Tryz.underlying263
 a138:=Tryz.isAgg263
 z138:=Tryz.sizeOf263
 v138:=Tryz.zeroValue263
 t139:=Tryz.underlying264
 a139:=Tryz.isAgg264
 z139:=Tryz.sizeOf264
 v139:=Tryz.zeroValue264
 t146:=Tryz.underlying216
 a146:=Tryz.isAgg216
 z146:=Tryz.sizeOf216
 v146:=Tryz.zeroValue216
 g1:=Zae
 g3:=Zae
 g4:=by kernel_rfl }
def Tryz.AL:Go.Shelf.Ren:=⟨fun | 153=>77 | 152=>115 | 226=>116 | 227=>117 | 228=>118 | 137=>161 | 119=>162 | 224=>159 | 225=>158 | 217=>157 | 266=>190 | n=>n,fun | 9=>9 | 3=>3 | 4=>4 | 5=>5 | 21=>21 | 117=>159 | 116=>158 | 0=>0 | 46=>196 | 124=>198 | n=>n,fun | n=>n⟩
theorem Tryz.Jx:Go.Proofs.Lays.n153 Tryz.prog Tryz.AL:={
 mixed:=Zae
 f119:=Tryz.func162.trans (Zbm some Zae)
 f137:=Tryz.func161.trans (Zbm some Zae)
 f152:=Tryz.func115.trans (Zbm some Zae)
 f153:=Tryz.func77.trans (Zbm some Zae)
 f217:=Tryz.func157.trans (Zbm some Zae)
 f224:=Tryz.func159.trans (Zbm some Zae)
 f225:=Tryz.func158.trans (Zbm some Zae)
 f226:=Tryz.func116.trans (Zbm some Zae)
 f227:=Tryz.func117.trans (Zbm some Zae)
 f228:=Tryz.func118.trans (Zbm some Zae)
 f266:=Tryz.func190.trans (Zbm some Zae)
 t0:=Tryz.underlying0
 a0:=Tryz.isAgg0
 z0:=Tryz.sizeOf0
 v0:=Tryz.zeroValue0
 t3:=Tryz.underlying3
 a3:=Tryz.isAgg3
 z3:=Tryz.sizeOf3
 v3:=Tryz.zeroValue3
 t4:=Tryz.underlying4
 a4:=Tryz.isAgg4
 z4:=Tryz.sizeOf4
 v4:=Tryz.zeroValue4
 t5:=Tryz.underlying5
 a5:=Tryz.isAgg5
 z5:=Tryz.sizeOf5
 v5:=Tryz.zeroValue5
 t9:=Tryz.underlying9
 a9:=Tryz.isAgg9
 z9:=Tryz.sizeOf9
 v9:=Tryz.zeroValue9
 t21:=Tryz.underlying21
 a21:=Tryz.isAgg21
 z21:=Tryz.sizeOf21
 v21:=Tryz.zeroValue21
 t46:=Tryz.underlying196
 a46:=Tryz.isAgg196
 z46:=Tryz.sizeOf196
 v46:=Tryz.zeroValue196
 t116:=Tryz.underlying158
 a116:=Tryz.isAgg158
 z116:=Tryz.sizeOf158
 t117:=Tryz.underlying159
 a117:=Tryz.isAgg159
 z117:=Tryz.sizeOf159
 v117:=Tryz.zeroValue159
 t124:=Tryz.underlying198
 a124:=Tryz.isAgg198
 z124:=Tryz.sizeOf198
 v124:=Tryz.zeroValue198 }
open Go.RowKit Go.Lib in
theorem Tryz.strings_IndexAny_laid(s chars:ByteArray)(w:World)(hs:s.size<4294967281)(hcs:chars.size<4294967281)(has:∀ (j:Nat) b,s.data.toList[j]? =some b->b.toNat<128)(hac:∀ (j:Nat) b,chars.data.toList[j]? =some b->b.toNat<128):
 Calls Tryz.prog 77 #[.string s,.string chars] w fun e w'=>e=.returned (.int .i64 (Lib.indexAny s.data.toList chars.data.toList))/\Below w.heap.size w w':=Any.strings_IndexAny_laid Tryz.Jx Zae s chars w hs hcs has hac
def Tryz.AR:Go.Shelf.Ren:=⟨fun | 110=>52 | 109=>86 | n=>n,fun | 31=>25 | 9=>9 | 4=>4 | 3=>3 | 0=>0 | n=>n,fun | n=>n⟩
theorem Tryz.BT:Go.Proofs.Lays.n110 Tryz.prog Tryz.AR:={
 mixed:=Zae
 f109:=Tryz.func86.trans (Zbm some Zae)
 f110:=Tryz.func52.trans (Zbm some Zae)
 t0:=Tryz.underlying0
 a0:=Tryz.isAgg0
 z0:=Tryz.sizeOf0
 v0:=Tryz.zeroValue0
 t3:=Tryz.underlying3
 a3:=Tryz.isAgg3
 z3:=Tryz.sizeOf3
 v3:=Tryz.zeroValue3
 t4:=Tryz.underlying4
 a4:=Tryz.isAgg4
 z4:=Tryz.sizeOf4
 v4:=Tryz.zeroValue4
 t9:=Tryz.underlying9
 a9:=Tryz.isAgg9
 z9:=Tryz.sizeOf9
 v9:=Tryz.zeroValue9
 t31:=Tryz.underlying25
 a31:=Tryz.isAgg25
 z31:=Tryz.sizeOf25
 v31:=Tryz.zeroValue25 }
open Go.Lib in
theorem Tryz.slices_Contains_string(b off n c:Nat)(zs:List ByteArray)(x:ByteArray)(w:World)(hz:n<=zs.length)(hbig:n<=9223372036854775807)(hc:∀ j,j<zs.length->w.cell? ⟨b,off+j,none⟩=some (.string (zs.getD j ByteArray.empty))):
 Calls Tryz.prog 52 #[.slice (some ⟨b,off,none⟩) n c,.string x] w fun e w'=>e=.returned (.bool (Lib.containsS (zs.take n) x))/\w'=w:=Any.slices_Contains_string Tryz.BT b off n c zs x w hz hbig hc
open Go.Lib in
theorem Tryz.slices_Contains_string_empty(a:Option Addr)(c:Nat)(x:ByteArray)(w:World):
 Calls Tryz.prog 52 #[.slice a 0 c,.string x] w fun e w'=>e=.returned (.bool false)/\w'=w:=Any.slices_Contains_string_empty Tryz.BT a c x w
def Tryz.ym:Go.Shelf.Ren:=⟨fun | 16=>85 | n=>n,fun | 24=>25 | 9=>9 | 4=>4 | n=>n,fun | n=>n⟩
theorem Tryz.qT:Go.Proofs.Lays2.n16 Tryz.prog Tryz.ym:={
 mixed:=Zae
 f16:=Tryz.func85.trans (Zbm some Zae)
 t4:=Tryz.underlying4
 a4:=Tryz.isAgg4
 z4:=Tryz.sizeOf4
 v4:=Tryz.zeroValue4
 t9:=Tryz.underlying9
 a9:=Tryz.isAgg9
 z9:=Tryz.sizeOf9
 v9:=Tryz.zeroValue9
 t24:=Tryz.underlying25
 a24:=Tryz.isAgg25
 z24:=Tryz.sizeOf25
 v24:=Tryz.zeroValue25
 i9:=by kernel_rfl }
open Go.RowKit Go.Lib in
theorem Tryz.slices_Clone_string(b off n c:Nat)(zs:List ByteArray)(w:World)(hz:n<=zs.length)(hbig:n*16<=140737488355328)(hc:∀ j,j<zs.length->w.cell? ⟨b,off+j,none⟩=some (.string (zs.getD j ByteArray.empty))):
 Calls Tryz.prog 85 #[.slice (some ⟨b,off,none⟩) n c] w fun e w'=> ∃ v',e=.returned v'/\w'.ownsRow w.heap.size 9 1 v' n ((zs.take n).map (Value.string))/\v'≠.slice none 0 0/\Below w.heap.size w w':=Any.slices_Clone_string Tryz.qT b off n c zs w hz hbig hc
open Go.RowKit Go.Lib in
theorem Tryz.slices_Clone_string_nil(n c:Nat)(w:World):
 Calls Tryz.prog 85 #[.slice none n c] w fun e w'=>e=.returned (.slice none 0 0)/\w'=w:=Any.slices_Clone_string_nil Tryz.qT n c w
open Go.RowKit Go.Lib in
theorem Tryz.slices_Clone_string_zero(a:Addr)(c:Nat)(w:World):
 Calls Tryz.prog 85 #[.slice (some a) 0 c] w fun e w'=> ∃ v',e=.returned v'/\w'.ownsRow w.heap.size 9 1 v' 0 []/\v'≠.slice none 0 0/\Below w.heap.size w w':=Any.slices_Clone_string_zero Tryz.qT a c w
end Go.Proofs
namespace Go.Proofs.YtngholilfbdfkabGreatDoor
open Go Go.RowKit
set_option maxRecDepth 20000
section
variable {P:Program}
theorem ic{f:FuncId}{args:List V}{Q:V->Prop}(ho:V.ax args=false)(hp:args.all (fun v=>match v with | .b9=>false | .gv _ _=>false | .tup _=>false | _=>true)=true)(h:PC P f args Q):PF P f args [] (fun r h=>Q r/\h=[]):=by
 refine⟨h.1,fun w Pb Kb cargs F hi=>?_⟩;have hF0:∀ i v x,args[i]? =some v->cargs[i]? =some x->F (.slot i)=[]:=fun i v x hv hx=>by
  have hr:=hi.slot i v x hv hx;have hm:=Za7 hv;exact wz (w:=w) (Pb:=Pb) (by
   have:∀ (l:List V),V.ax l=false->∀ v∈l,v.df=false:=by
    intro l;induction l with
    | nil=>intro _ v hv;simp at hv
    | cons a r ih=>
      intro h v hv;simp only[V.ax,Bool.or_eq_false_iff]at h;rcases List.mem_cons.1 hv with rfl | hv;exact h.1;exact ih h.2 v hv
   exact this _ ho v hm) hr
 have hrv:∀ (l:List V) (c:List Value),l.length=c.length->(∀ (i:Nat) v x,l[i]? =some v->c[i]? =some x->RV w Pb v x []/\v∈args)->RVs w Pb l c []:=by
  intro l;induction l with
  | nil=>intro c hl _;cases c with | nil=>exact⟨rfl,rfl⟩ | cons _ _=>simp at hl
  | cons v r ih=>
    intro c hl hx;cases c with
    | nil=>simp at hl
    | cons x c=>
      obtain⟨h0,hm⟩:=hx 0 v x rfl rfl;have hv:=Za2.1 hp v hm;refine⟨x,c,[],[],rfl,rfl,?_,ih c (by simpa using hl) fun i v' x' h1 h2=>hx (i+1) v' x' Zb0 Zb6⟩;cases v <;> first | exact h0 | simp at hv
 have hR:RVs w Pb args cargs []:=hrv args cargs hi.len.symm fun i v x hv hx=>by
  have:=hi.slot i v x hv hx;rw[hF0 i v x hv hx]at this;exact⟨this,Za7 hv⟩
 refine(h.2 w Pb cargs (fun g hg=>hi.bound g (hi.sub g hg)) hR).mono ?_;rintro e w' ⟨r,x,Fr,Pb',rfl,hq,hrv,hnd,hfr,hP1,hP2,hB⟩;refine⟨r,x,[],Pb',fun g=>Kb g\/Pb' g,(fun r=>match r with | .slot i=>if i=0 then Fr else [] | .key _=>[]),rfl,⟨hq,rfl⟩,?_⟩;have hold:∀ g,Kb g->g<w.heap.size:=hi.bound;refine⟨by simpa using hrv,fun k g v hk=>by simp[lk]at hk,fun r r' hne g hg=>?_,fun r=>?_,fun r g hg=>?_,fun g h=>.inr h,fun g h=>?_,hP1,fun _ h=>.inl h,fun g hg=>?_,⟨hB.os,hB.tape,hB.output,hB.size,fun g hg=>hB.block g (hold g hg),Shp.of_eq hB.block⟩⟩;cases r with
 | slot i=>
   simp only at hg;split at hg;rename_i hi0;cases r' with
   | slot j=>simp only;rw[if_neg (fun c=>hne (by rw[hi0,c]))];simp
   | key k=>simp
   simp at hg
 | key k=>simp at hg
 cases r <;> simp only;split;exact hnd;exact Zba;exact Zba;cases r with
 | slot i=>
   simp only at hg;split at hg;obtain⟨h1,h2,h3⟩:=hfr g hg;exact⟨fun c=>c.elim (fun c=>by have:=hold g c;omega) h3,h2⟩;simp at hg
 | key k=>simp at hg
 rcases h with h | h;have:=hold g h;have:=hB.size;omega;rcases hP2 g h with h | h;have:=hold g (hi.sub g h);have:=hB.size;omega;exact h.2;rcases hP2 g hg with h | h;exact .inl h;exact .inr fun c=>by have:=hold g c;omega
def RVm(w:World)(Pb:Nat->Prop)(v:V)(x:Value):Prop:=match v with | .agg us=> ∃ cs,x=.agg cs/\RL w Pb us cs.toList [] | .b9=>([]:List Nat)=[] | v=>R w Pb v [x] []
theorem zi{w:World}{Pb:Nat->Prop}{v:V}{vs:List V}{xs:List Value}(h:RVs w Pb (v::vs) xs []):∃ x r,xs=x::r/\RVm w Pb v x/\RVs w Pb vs r []:=by
 obtain⟨x,r,F1,F2,e,hF,h1,h2⟩:=h;have hF:=List.append_eq_nil_iff.1 hF.symm;obtain⟨rfl,rfl⟩:=hF;exact⟨x,r,e,h1,h2⟩
theorem gW{w:World}{Pb:Nat->Prop}{y:Value}{vs:List V}{xs:List Value}(h:RVs w Pb (.lit y::vs) xs []):∃ r,xs=y::r/\RVs w Pb vs r []:=by
 obtain⟨x,r,e,h1,h2⟩:=zi h;obtain⟨_,e1,_⟩:=h1;simp only[List.cons.injEq,and_true]at e1;exact⟨r,by rw[e,e1],h2⟩
theorem lD{w:World}{Pb:Nat->Prop}{xs:List Value}(h:RVs w Pb [] xs []):xs=[]:=h.1
theorem An{w:World}{Pb:Nat->Prop}{f:Bool}{l:List BL}{vs:List V}{xs:List Value}(h:RVs w Pb (.sl f (l.map sV)::vs) xs []):∃ A c r,xs=.slice A l.length c::r/\RVs w Pb vs r []/\l.length<=c/\
 (l=[]\/∃ b o,A=some ⟨b,o,none⟩/\Pb b/\∀ j x,(l.map Str)[j]? =some x->w.cell? ⟨b,o+j,none⟩=some (.string x)):=by
 obtain⟨x,r,e,h1,h2⟩:=zi h;obtain⟨_,A,c,e1,hle,_,hx⟩:=h1;simp only[List.cons.injEq,and_true,Zay]at e1 hle;refine⟨A,c,r,by rw[e,e1],h2,hle,?_⟩;rcases hx with hx | ⟨b,o,sz,flat,hA,hb,hs,hn,hr,hc⟩;left;simpa using hx;right;refine⟨b,o,hA,hb,fun j x hj=>hc j _ ?_⟩;have hfl:∀ (l:List BL) {flat:List Value} {F},RL w Pb (l.map sV) flat F->flat=l.map fun t=>.string (Str t):=by
  intro l;induction l with
  | nil=>intro flat F h;exact h.1
  | cons t r ih=>
    intro flat F h;obtain⟨c1,c2,F1,F2,e1,_,h1,h2⟩:=h;rw[e1,ih h2,h1.2.1];rfl
 rw[hfl l hr];rw[List.getElem?_map]at hj ⊢;cases hl:l[j]? with
 | none=>rw[hl]at hj;simp at hj
 | some t=>rw[hl]at hj;simp at hj;simp[hj]
theorem vj{f:FuncId}{args:List V}{res:V}{y:Value}(he:nr P f)(hv:res.val? =some y)(h:∀ (w:World) (Pb:Nat->Prop) cargs,(∀ g,Pb g->g<w.heap.size)->RVs w Pb args cargs []->Calls P f cargs.toArray w fun e w'=>e=.returned y/\Below w.heap.size w w'):PC P f args (fun r=>r=res):=by
 refine⟨he,fun w Pb cargs hP hargs=>(h w Pb cargs hP hargs).mono ?_⟩;rintro e w' ⟨rfl,hB⟩;exact⟨res,y,[],Pb,rfl,rfl,vU hv,Zba,Zad,fun _ h=>h,fun _ h=>.inl h,hB⟩
end
def dv(c:UInt8):BL->List BL
 | []=>[[]]
 | b::l=>if b=c then []::dv c l else match dv c l with
   | []=>[[b]]
   | p::r=>(b::p)::r
theorem Ed(c:UInt8):∀ l,dv c l≠[]
 | []=>by simp[dv]
 | b::l=>by
   unfold dv;split;simp;split <;> simp
theorem oB(c:UInt8):∀ l,Lib.indexByte l c= -1->dv c l=[l]
 | [],_=>rfl
 | b::l,h=>by
   unfold Lib.indexByte at h;split at h;simp at h;rename_i hb;have hb:b≠c:=Zbz
   split at h;rename_i h1;have:=oB c l Zb0;unfold dv;rw[if_neg hb,this];have:=Lib.indexByte_ge l c;omega
theorem qh(c:UInt8):∀ l (i:Nat),Lib.indexByte l c=i->dv c l=l.take i::dv c (l.drop (i+1))/\i<l.length/\l.count c=(l.drop (i+1)).count c+1
 | [],i,h=>by unfold Lib.indexByte at h;omega
 | b::l,i,h=>by
   unfold Lib.indexByte at h;split at h;rename_i hb;have hb:b=c:=Zbz
   have:i=0:=Zac;subst this hb;simp[dv];rename_i hb;have hb:b≠c:=Zbz
   split at h;omega;rename_i h1;have:=Lib.indexByte_ge l c;have h1:Lib.indexByte l c≠ -1:=Zb0
   obtain⟨j,rfl⟩:∃ j,i=j+1:=⟨i-1,Zac⟩;obtain⟨k1,k2,k3⟩:=qh c l j Zac;refine⟨?_,Zal,by simp[List.count_cons,hb,k3]⟩;conv=>lhs;unfold dv
   rw[if_neg hb,k1];simp
theorem yS(c:UInt8):∀ (k:Nat) (s:BL),s.count c=k->Lib.splitK [c] 0 k s=dv c s
 | 0,s,h=>by
   have:Lib.indexByte s c= -1:=by
    by_cases hc:Lib.indexByte s c= -1;exact hc;have h1:=Lib.indexByte_ge s c;obtain⟨i,hi⟩:∃ i:Nat,Lib.indexByte s c=i:=⟨(Lib.indexByte s c).toNat,Zac⟩;have:=(qh c s i hi).2.2;omega
   rw[oB c s this];rfl
 | k+1,s,h=>by
   by_cases hc:Lib.indexByte s c= -1;rw[oB c s hc];unfold Lib.splitK;rw[Lib.index_one,hc];rfl;have h1:=Lib.indexByte_ge s c;obtain⟨i,hi⟩:∃ i:Nat,Lib.indexByte s c=i:=⟨(Lib.indexByte s c).toNat,Zac⟩;obtain⟨k1,k2,k3⟩:=qh c s i hi;rw[k1];unfold Lib.splitK;rw[Lib.index_one,hi];have: ¬ ((i:Int)== -1)=true:=Zad;rw[if_neg this];simp only[Int.toNat_natCast,Nat.add_zero,Zbf];rw[yS c k _ Zac]
theorem xE(c:UInt8):∀ s,Lib.indexByte s c= -1->ab c s=(s,[],false)
 | [],_=>rfl
 | b::l,h=>by
   unfold Lib.indexByte at h;split at h;simp at h;rename_i hb;have hb:b≠c:=Zbz
   split at h;rename_i h1;have:=xE c l Zb0;simp only[ab,if_neg hb,this];have:=Lib.indexByte_ge l c;omega
theorem uA(c:UInt8):∀ s (i:Nat),Lib.indexByte s c=i->ab c s=(s.take i,s.drop (i+1),true)/\i<s.length
 | [],i,h=>by unfold Lib.indexByte at h;omega
 | b::l,i,h=>by
   unfold Lib.indexByte at h;split at h;rename_i hb;have hb:b=c:=Zbz
   have:i=0:=Zac;subst this;simp[ab,hb];rename_i hb;have hb:b≠c:=Zbz
   split at h;omega;rename_i h1;have:=Lib.indexByte_ge l c;have h1:Lib.indexByte l c≠ -1:=Zb0
   obtain⟨j,rfl⟩:∃ j,i=j+1:=⟨i-1,Zac⟩;obtain⟨k1,k2⟩:=uA c l j Zac;refine⟨?_,Zal⟩;simp only[ab,if_neg hb,k1];rfl
theorem Kz(s:BL)(c:UInt8)(h:0<=Lib.indexByte s c):Lib.indexByte s c<s.length:=by
 obtain⟨i,hi⟩:∃ i:Nat,Lib.indexByte s c=i:=⟨(Lib.indexByte s c).toNat,Zac⟩;have:=(uA c s i hi).2;omega
theorem JI{s:BL}{c:UInt8}(h:Lib.indexByte s c<0):ab c s=(s,[],false):=xE c s (by have:=Lib.indexByte_ge s c;omega)
theorem GX{s:BL}{c:UInt8}(h:0<=Lib.indexByte s c):ab c s=(s.take (Lib.indexByte s c).toNat,s.drop ((Lib.indexByte s c).toNat+1),true):=(uA c s _ Zac).1
theorem yJ(c:UInt8):∀ s,dv c s=ae c s
 | []=>rfl
 | b::l=>by
   have ih:=yJ c l;unfold dv ae;split;rw[ih];rw[ih];cases h:ae c l with
   | nil=>exact absurd (ih.trans h) (Ed c l)
   | cons p r=>rfl
theorem uL:∀ (l:List BL),Lib.join l [47]=cJ l
 | []=>rfl
 | [p]=>Lib.join_one p _
 | p::q::r=>by
   have:=uL (q::r);rw[Lib.join_cons]at this ⊢;simp only[Lib.joinTail,Zbe,List.flatten_cons]at this ⊢;rw[show cJ (p::q::r)=p++[47]++cJ (q::r) from rfl,<- this];simp
theorem Kw(s:BL): -1<=Lib.indexAny s [47,63]:=Lib.indexAny_ge _ s
theorem uo:∀ (s:BL),(Lib.indexAny s [47,63]<0->s.takeWhile jG=s/\s.dropWhile jG=[])/\(0<=Lib.indexAny s [47,63]->s.takeWhile jG=s.take (Lib.indexAny s [47,63]).toNat/\s.dropWhile jG=s.drop (Lib.indexAny s [47,63]).toNat/\(Lib.indexAny s [47,63]).toNat<s.length)
 | []=>by simp[Lib.indexAny]
 | b::l=>by
   obtain⟨i1,i2⟩:=uo l;have hg:=Kw l;have hn:jG b=!([47,63]:BL).contains b:=by
    unfold jG;have:(b.toNat=47↔b=47)/\(b.toNat=63↔b=63):=⟨by rw[<- UInt8.toNat_inj];rfl,by rw[<- UInt8.toNat_inj];rfl⟩;rw[Za6];simp[this]
   unfold Lib.indexAny;cases hc:([47,63]:BL).contains b with
   | true=>
     rw[hc]at hn;simp[List.takeWhile_cons,List.dropWhile_cons,hn]
   | false=>
     rw[hc]at hn;simp only[Bool.false_eq_true,if_false];by_cases h1:Lib.indexAny l [47,63]= -1;obtain⟨k1,k2⟩:=i1 Zac;rw[h1];simp[List.takeWhile_cons,List.dropWhile_cons,hn,k1,k2];obtain⟨k1,k2,k3⟩:=i2 Zac;rw[if_neg Zb0];refine⟨fun h=>by omega,fun _=>?_⟩;rw[show (Lib.indexAny l [47,63]+1).toNat=(Lib.indexAny l [47,63]).toNat+1 from Zac];simp[List.takeWhile_cons,List.dropWhile_cons,hn,k1,k2,k3]
def iW(s:BL)(i:Nat):Bool:=decide (i+2<s.length)&&(decide (0<=cw (s.getD (i+1) 0))&&decide (0<=cw (s.getD (i+2) 0)))
def dA(s:BL)(i:Nat):UInt8:=if iW s i=true then dr (s.getD (i+1) 0) (s.getD (i+2) 0) else 0
theorem ig{s:BL}{i:Nat}:iW s i=true↔i+2<s.length/\0<=cw (s.getD (i+1) 0)/\0<=cw (s.getD (i+2) 0):=by
 unfold iW;simp
theorem rn{s:BL}{i:Nat}(h:iW s i=true):dA s i=dr (s.getD (i+1) 0) (s.getD (i+2) 0):=if_pos h
theorem zx{s:BL}{i:Nat}(h:iW s i=false):dA s i=0:=if_neg (by rw[h];decide)
theorem gz(l:BL):(Str l).data.toList=l:=rfl
theorem JX(s:BL)(c:UInt8):PC Tryz.prog 113 [sV s,sV [c]] (fun r=>r=iV (Lib.indexByte s c)):=by
 refine vj (ey Tryz.func113 Zae Zae) rfl fun w Pb cargs hP hargs=>?_;obtain⟨r,rfl,h1⟩:=gW hargs;obtain⟨r,rfl,h2⟩:=gW h1;obtain rfl:=lD h2;refine(Tryz.stringslite_Index_one (Str s) c w).mono ?_;rintro e w' ⟨rfl,rfl⟩;exact⟨by rw[gz],Below.refl _ _⟩
theorem JF(s:BL)(c:UInt8):PF Tryz.prog 113 [sV s,sV [c]] [] (fun r h=>r=iV (Lib.indexByte s c)/\h=[]):=ic rfl rfl (JX s c)
theorem MI(s:BL)(hs:s.length<=1000000)(ha:∀ c,c∈s->c.toNat<128):PF Tryz.prog 77 [sV s,sV [47,63]] [] (fun r h=>r=iV (Lib.indexAny s [47,63])/\h=[]):=by
 refine ic rfl rfl (vj (ey Tryz.func77 Zae Zae) rfl fun w Pb cargs hP hargs=>?_);obtain⟨r,rfl,h1⟩:=gW hargs;obtain⟨r,rfl,h2⟩:=gW h1;obtain rfl:=lD h2;refine(Tryz.strings_IndexAny_laid (Str s) (Str [47,63]) w (by rw[ib];omega) (by rw[ib];decide) (fun j b hb=>?_) (fun j b hb=>?_)).mono ?_;rw[gz]at hb;exact ha b (Za7 hb);rw[gz]at hb;have:=Za7 hb;simp at this;rcases this with rfl | rfl <;> decide;rintro e w' ⟨rfl,hB⟩;exact⟨by rw[gz,gz],hB⟩
theorem Eg(l:List BL):(l.map Str).map (·.data.toList)=l:=by
 rw[List.map_map];conv=>rhs;rw[<- List.map_id l]
 apply List.map_congr_left;intro x _;exact gz x
theorem Ki(f:Bool)(l:List BL)(sep:BL)(hl:l.length<=1000000)(hj:(Lib.join l sep).length<=1000000):PF Tryz.prog 166 [.sl f (l.map sV),sV sep] [] (fun r h=>r=sV (Lib.join l sep)/\h=[]):=by
 refine ic rfl rfl (vj (ey Tryz.func166 Zae Zae) rfl fun w Pb cargs hP hargs=>?_);obtain⟨A,c,r,rfl,h1,hle,hc⟩:=An hargs;obtain⟨r,rfl,h2⟩:=gW h1;obtain rfl:=lD h2;rcases hc with rfl | ⟨b,o,rfl,hb,hc⟩;refine(Tryz.strings_Join_none A c (Str sep) w).mono ?_;rintro e w' ⟨rfl,rfl⟩;exact⟨rfl,Below.refl _ _⟩;have:=Tryz.strings_Join b o c (l.map Str) (Str sep) w hc (hP b hb) Zal (by simpa using hle) (by rw[Eg,gz];omega);rw[Zay]at this;refine this.mono ?_;rintro e w' ⟨rfl,hB⟩;exact⟨by rw[Eg,gz];rfl,hB⟩
theorem Ll(f:Bool)(l:List BL)(x:BL)(hl:l.length<=1000000):PF Tryz.prog 52 [.sl f (l.map sV),sV x] [] (fun r h=>r=bV (l.contains x)/\h=[]):=by
 refine ic rfl rfl (vj (ey Tryz.func52 Zae Zae) rfl fun w Pb cargs hP hargs=>?_);obtain⟨A,c,r,rfl,h1,hle,hc⟩:=An hargs;obtain⟨r,rfl,h2⟩:=gW h1;obtain rfl:=lD h2;rcases hc with rfl | ⟨b,o,rfl,hb,hc⟩;refine(Tryz.slices_Contains_string_empty A c (Str x) w).mono ?_;rintro e w' ⟨rfl,rfl⟩;exact⟨rfl,Below.refl _ _⟩;refine(Tryz.slices_Contains_string b o l.length c (l.map Str) (Str x) w Zad Zac (fun j hj=>?_)).mono ?_;apply hc;rw[Zam,Zat hj];rfl;rintro e w' ⟨rfl,rfl⟩;refine⟨?_,Below.refl _ _⟩;congr 2;rw[Za6,Lib.containsS_iff,List.contains_iff_mem,Zaz Zad,List.mem_map];exact⟨fun⟨y,h1,h2⟩=>by
  have:y=x:=by rw[<- gz y,h2,gz]
  rw[<- this];exact h1,fun h=>⟨x,h,rfl⟩⟩
theorem Hb(s:BL)(c:UInt8)(hs:s.length<=1000000):PC Tryz.prog 165 [sV s,sV [c],iV 0,iV (-1)] (fun r=>r=.sl true ((dv c s).map sV)):=by
 refine⟨ey Tryz.func165 Zae Zae,fun w Pb cargs hP hargs=>?_⟩;obtain⟨r,rfl,h1⟩:=gW hargs;obtain⟨r,rfl,h2⟩:=gW h1;obtain⟨r,rfl,h3⟩:=gW h2;obtain⟨r,rfl,h4⟩:=gW h3;obtain rfl:=lD h4;have hcnt:Lib.countB (Str s) (Str [c])=s.count c:=by
  show Lib.count (Str s).data.toList (Str [c]).data.toList=_;rw[gz,gz,Lib.count_one]
 have hI:∀ (x:ByteArray) (cs:Array Value),x.size<=(Str s).size->Calls Tryz.prog (Tryz.fK.f 143) #[.string x,.string (Str [c])] (w.alloc (.cells cs (Tryz.fK.t 9))) fun e w'=>e=.returned (.int .i64 (Lib.indexB x (Str [c])))/\w'=w.alloc (.cells cs (Tryz.fK.t 9)):=fun x cs _=>
  (Tryz.strings_Index_one x c _).mono fun e w' h=>by
   rw[show Lib.indexB x (Str [c])=Lib.indexByte x.data.toList c from Lib.index_one _ _];exact h
 have hC:Calls Tryz.prog (Tryz.fK.f 138) #[.string (Str s),.string (Str [c])] w fun e w'=>e=.returned (.int .i64 (Lib.countB (Str s) (Str [c])))/\w'=w:=
  (Tryz.strings_Count_one (Str s) c w).mono fun e w' h=>by
   rw[hcnt];exact h
 have hcl:s.count c<=s.length:=List.count_le_length;have hg:=Any.strings_genSplit_core Tryz.Jb Zae (Str s) (Str [c]) 0 (-1) (s.count c+1) w (by rw[ib];omega) (by rw[ib];simp) (Nat.zero_le _) hI hC Zaf Zaf (by rw[if_pos Zaf,hcnt,ib];omega);have hlen:(Lib.splitB (Str [c]) 0 (s.count c) (Str s)).length=s.count c+1:=Lib.splitB_all _ (by rw[ib];simp) 0 _ _ hcnt;have hdat:(Lib.splitB (Str [c]) 0 (s.count c) (Str s)).map (·.data.toList)=dv c s:=by
  rw[Lib.splitB_data,gz,gz];exact yS c _ s rfl
 have hl2:(dv c s).length=s.count c+1:=by rw[<- hdat,Zay,hlen]
 have hcells:Lib.cellsOf (Lib.splitB (Str [c]) 0 (s.count c) (Str s)) (s.count c+1)=((dv c s).map fun t=>Value.string (Str t)).toArray:=by
  rw[<- hlen,Lib.cellsOf_full,<- hdat,List.map_map];congr 1
 refine hg.mono ?_;rintro e w' ⟨he,hw⟩;rw[Nat.add_sub_cancel,hlen]at he;rw[Nat.add_sub_cancel,hcells]at hw;subst hw;refine⟨_,_,[],fun g=>Pb g\/g=w.heap.size,he,rfl,?_,Zba,Zad,fun _ h=>.inl h,fun g h=>h.imp id fun h=>⟨Zac,Zbx⟩,⟨rfl,rfl,rfl,Zbx,fun k hk=>alloc_old w _ k hk⟩⟩;refine⟨rfl,_,_,by rw[Zay,hl2],by simp[hl2],fun _=>by simp[hl2],.inr ⟨_,_,1,(dv c s).map fun t=>Value.string (Str t),rfl,.inr rfl,Nat.one_pos,fun v hv=>?_,?_,fun j u hu=>?_⟩⟩;obtain⟨t,_,rfl⟩:=List.mem_map.1 hv;rfl;have:∀ (l:List BL) (w:World) (Pb:Nat->Prop),RL w Pb (l.map sV) (l.map fun t=>Value.string (Str t)) []:=by
  intro l w Pb;induction l with
  | nil=>exact⟨rfl,rfl⟩
  | cons t r ih=>exact⟨[_],_,[],[],rfl,rfl,⟨rfl,rfl,rfl⟩,ih⟩
 exact this _ _ _;rw[Zaw];have:(w.alloc (.cells ((dv c s).map fun t=>Value.string (Str t)).toArray (Tryz.fK.t 9))).heap[w.heap.size]? =some (.cells ((dv c s).map fun t=>Value.string (Str t)).toArray (Tryz.fK.t 9) (0,0)):=gJ w _;have hb:Blk (w.alloc (.cells ((dv c s).map fun t=>Value.string (Str t)).toArray (Tryz.fK.t 9))) w.heap.size ((dv c s).map fun t=>Value.string (Str t)).toArray:=⟨_,(0,0),this,fun i _ h=>by omega⟩;rw[eh hb,List.getElem?_toArray];exact hu
theorem HB(s:BL)(c:UInt8)(hs:s.length<=1000000):PF Tryz.prog 165 [sV s,sV [c],iV 0,iV (-1)] [] (fun r h=>r=.sl true ((dv c s).map sV)/\h=[]):=ic rfl rfl (Hb s c hs)
theorem HY(w:World)(Pb:Nat->Prop):∀ (l:List BL),RL w Pb (l.map sV) (l.map fun t=>Value.string (Str t)) []
 | []=>⟨rfl,rfl⟩
 | _::r=>⟨[_],_,[],[],rfl,rfl,⟨rfl,rfl,rfl⟩,HY w Pb r⟩
theorem vt{w w':World}{Pb:Nat->Prop}{v:Value}{l:List BL}(hP:∀ g,Pb g->g<w.heap.size)(h:w'.ownsRow w.heap.size 9 1 v l.length (l.map fun t=>Value.string (Str t))):
 ∃ F,RV w' Pb (.ow 1 (l.map sV)) v F/\F.Nodup/\∀ g,g∈F->w.heap.size<=g/\g<w'.heap.size/\¬ Pb g:=by
 obtain⟨_,h⟩:=h;rcases h with ⟨rfl,h0⟩ | ⟨g,cap,cur,rfl,hg,hb,hle,_,hsz,htk⟩;have:l=[]:=Za5 h0;subst this;exact⟨[],⟨0,0,0,.inl ⟨rfl,rfl,rfl,none,rfl⟩⟩,Zba,Zad⟩;have hnp: ¬ Pb g:=fun c=>by have:=hP g c;omega
 by_cases hc:cap=0;subst hc;have:l=[]:=Za5 Zac;subst this;exact⟨[],⟨0,0,0,.inl ⟨rfl,rfl,rfl,_,rfl⟩⟩,Zba,Zad⟩;have hgl:g<w'.heap.size:=by
  cases hh:w'.heap[g]? with
  | none=>rw[hh]at hb;cases hb
  | some o=>exact(Zbh.1 hh).1
 refine⟨[g],⟨g,0,cap,.inr ⟨Zac,Nat.one_pos,by simpa using hle,Zad,fun v hv=>?_,hnp,_,[],cur,rfl,HY w' Pb l,⟨9,(0,0),hb,fun i _ h=>by omega⟩,Zac,fun j u hu=>?_⟩⟩,Zad,fun x hx=>?_⟩;obtain⟨t,_,rfl⟩:=List.mem_map.1 hv;rfl;rw[<- htk,List.getElem?_take]at hu;split at hu;rw[Zaw,<- Array.getElem?_toList];exact hu;simp at hu;obtain rfl:=Zav.1 hx;exact⟨hg,hgl,hnp⟩
theorem Hr(f:Bool)(l:List BL)(hl:l.length<=1000000):PC Tryz.prog 85 [.sl f (l.map sV)] (fun r=>r=.ow 1 (l.map sV)):=by
 refine⟨ey Tryz.func85 Zae Zae,fun w Pb cargs hP hargs=>?_⟩;obtain⟨A,c,r,rfl,h1,hle,hc⟩:=An hargs;obtain rfl:=lD h1;rcases hc with rfl | ⟨b,o,rfl,hb,hc⟩;cases A with
 | none=>
   refine(Tryz.slices_Clone_string_nil 0 c w).mono ?_;rintro e w' ⟨rfl,rfl⟩;exact⟨_,_,[],Pb,rfl,rfl,⟨0,0,0,.inl ⟨rfl,rfl,rfl,none,rfl⟩⟩,Zba,Zad,fun _ h=>h,fun _ h=>.inl h,Below.refl _ _⟩
 | some a=>
   refine(Tryz.slices_Clone_string_zero a c w).mono ?_;rintro e w' ⟨v,rfl,hr,_,hB⟩;obtain⟨F,k1,k2,k3⟩:=vt (l:=[]) hP hr;exact⟨_,_,F,Pb,rfl,rfl,k1,k2,k3,fun _ h=>h,fun _ h=>.inl h,hB⟩
 refine(Tryz.slices_Clone_string b o l.length c (l.map Str) w Zad Zac (fun j hj=>?_)).mono ?_;apply hc;rw[Zam,Zat hj];rfl;rintro e w' ⟨v,rfl,hr,_,hB⟩;rw[Zaz Zad,List.map_map]at hr;obtain⟨F,k1,k2,k3⟩:=vt hP hr;exact⟨_,_,F,Pb,rfl,rfl,k1,k2,k3,fun _ h=>h,fun _ h=>.inl h,hB⟩
theorem HJ(f:Bool)(l:List BL)(hl:l.length<=1000000):PF Tryz.prog 85 [.sl f (l.map sV)] [] (fun r h=>r=.ow 1 (l.map sV)/\h=[]):=ic rfl rfl (Hr f l hl)
def foldI(b:Int):Int:=if 97<=b/\b<=102 then b-32 else b
def ec(i:Nat):Int:=if i<10 then 48+i else 55+i
def kD(b:Int):Int:=if 48<=foldI b/\foldI b<=57 then foldI b-48 else if 65<=foldI b/\foldI b<=70 then foldI b-55 else -1
theorem wP:∀ i,(h:i<16)->((((⟨#[48,49,50,51,52,53,54,55,56,57,65,66,67,68,69,70]⟩:ByteArray)[i]'h).toNat:Nat):Int)=ec i:=Zaf
theorem ur{i:Nat}(h:i<16):ec i<128:=by unfold ec;split <;> omega
theorem Gh(b:UInt8):kD b.toNat=cw b:=by
 unfold kD foldI cw;have:=b.toNat_lt;repeat' split
 all_goals omega
theorem wI{b:Int}{i:Nat}(hi:i<16)(h:ec i=foldI b):kD b=i:=by
 unfold ec at h;unfold kD;split at h;rw[if_pos Zac];omega;rw[if_neg Zac,if_pos Zac];omega
theorem tN{b:Int}(h:∀ j:Nat,j<16->ec j≠foldI b):kD b= -1:=by
 unfold kD;split;rename_i hc;refine absurd ?_ (h (foldI b-48).toNat Zac);unfold ec;rw[if_pos Zac];omega;split;rename_i hc;refine absurd ?_ (h (foldI b-55).toNat Zac);unfold ec;rw[if_neg Zac];omega;rfl
section
open Go Go.RowKit Go.Lib
set_option maxHeartbeats 1000000 in
set_option maxRecDepth 100000 in
theorem Li(b:Int)(h0:0<=b)(h1:b<256)(hlo:decide ((97:Int)<=b)=false)(w:World):Calls Tryz.prog 192 #[.int .u8 b] w fun e w'=>e=.returned (.tuple #[.int .i64 (max (kD b) 0),.bool (decide (0<=kD b))])/\∃ pos,w'=w.iter ⟨#[48,49,50,51,52,53,54,55,56,57,65,66,67,68,69,70]⟩ pos:=by
 have HF:Aside (foldI b=b):=by
  have:=of_decide_eq_false hlo;unfold Aside foldI;rw[if_neg Zac]
 go_enter Tryz.func192,Tryz.ntmps192
 go_wp2
 go_loopg [4,5] 16 (fun g _ _ wx=> ∃ i:Nat,i+g=16/\wx=w.iter ⟨#[48,49,50,51,52,53,54,55,56,57,65,66,67,68,69,70]⟩ i/\∀ j:Nat,j<i->ec j≠foldI b)
 case atStart=>exact⟨0,Zac,rfl,fun j hj=>by omega⟩
 case round=>
  obtain⟨i,hig,rfl,hno⟩:=hrel;have HN:Aside (∀ j:Nat,j<i->ec j≠foldI b):=hno;clear hno;cases gk with
  | zero=>
    obtain rfl:i=16:=Zac;have hnx:=run_next_end (P:=Tryz.prog) w ⟨#[48,49,50,51,52,53,54,55,56,57,65,66,67,68,69,70]⟩ 16
    go_wp2
    go_ret2
    exact⟨by rw[tN HN.out];rfl,_,rfl⟩
  | succ g=>
    have hi:i<(⟨#[48,49,50,51,52,53,54,55,56,57,65,66,67,68,69,70]⟩:ByteArray).size:=by show i<16;omega
    have hfa:((((⟨#[48,49,50,51,52,53,54,55,56,57,65,66,67,68,69,70]⟩:ByteArray)[i]'hi).toNat:Nat):Int)=ec i:=wP i hi;have hlt:((⟨#[48,49,50,51,52,53,54,55,56,57,65,66,67,68,69,70]⟩:ByteArray)[i]'hi).toNat<128:=Zb8
    have hnx:=fun ty=>run_next_ascii (P:=Tryz.prog) w ⟨#[48,49,50,51,52,53,54,55,56,57,65,66,67,68,69,70]⟩ i ty hi hlt;rw[hfa]at hnx;clear hlt hfa;cases hin:(ec i==b)
    · have HI:Aside ((ec i==b)=false):=hin
      go_wp2
      go_roundg g
      case measure=>omega
      case rel=>exact⟨i+1,Zac,rfl,fun j hj=>by
       by_cases e:j=i;subst e;rw[HF.out];exact beq_eq_false_iff_ne.1 HI.out;exact HN.out j Zac⟩
    have HI:Aside ((ec i==b)=true):=hin
    go_wp2
    go_ret2
    exact⟨Zb9,_,rfl⟩
set_option maxHeartbeats 1000000 in
set_option maxRecDepth 100000 in
theorem Mt(b:Int)(h0:0<=b)(h1:b<256)(hlo:decide ((97:Int)<=b)=true)(hhi:decide (b<=102)=false)(w:World):Calls Tryz.prog 192 #[.int .u8 b] w fun e w'=>e=.returned (.tuple #[.int .i64 (max (kD b) 0),.bool (decide (0<=kD b))])/\∃ pos,w'=w.iter ⟨#[48,49,50,51,52,53,54,55,56,57,65,66,67,68,69,70]⟩ pos:=by
 have HF:Aside (foldI b=b):=by
  have:=of_decide_eq_false hhi;unfold Aside foldI;rw[if_neg Zac]
 go_enter Tryz.func192,Tryz.ntmps192
 go_wp2
 go_loopg [4,5] 16 (fun g _ _ wx=> ∃ i:Nat,i+g=16/\wx=w.iter ⟨#[48,49,50,51,52,53,54,55,56,57,65,66,67,68,69,70]⟩ i/\∀ j:Nat,j<i->ec j≠foldI b)
 case atStart=>exact⟨0,Zac,rfl,fun j hj=>by omega⟩
 case round=>
  obtain⟨i,hig,rfl,hno⟩:=hrel;have HN:Aside (∀ j:Nat,j<i->ec j≠foldI b):=hno;clear hno;cases gk with
  | zero=>
    obtain rfl:i=16:=Zac;have hnx:=run_next_end (P:=Tryz.prog) w ⟨#[48,49,50,51,52,53,54,55,56,57,65,66,67,68,69,70]⟩ 16
    go_wp2
    go_ret2
    exact⟨by rw[tN HN.out];rfl,_,rfl⟩
  | succ g=>
    have hi:i<(⟨#[48,49,50,51,52,53,54,55,56,57,65,66,67,68,69,70]⟩:ByteArray).size:=by show i<16;omega
    have hfa:((((⟨#[48,49,50,51,52,53,54,55,56,57,65,66,67,68,69,70]⟩:ByteArray)[i]'hi).toNat:Nat):Int)=ec i:=wP i hi;have hlt:((⟨#[48,49,50,51,52,53,54,55,56,57,65,66,67,68,69,70]⟩:ByteArray)[i]'hi).toNat<128:=Zb8
    have hnx:=fun ty=>run_next_ascii (P:=Tryz.prog) w ⟨#[48,49,50,51,52,53,54,55,56,57,65,66,67,68,69,70]⟩ i ty hi hlt;rw[hfa]at hnx;clear hlt hfa;cases hin:(ec i==b)
    · have HI:Aside ((ec i==b)=false):=hin
      go_wp2
      go_roundg g
      case measure=>omega
      case rel=>exact⟨i+1,Zac,rfl,fun j hj=>by
       by_cases e:j=i;subst e;rw[HF.out];exact beq_eq_false_iff_ne.1 HI.out;exact HN.out j Zac⟩
    have HI:Aside ((ec i==b)=true):=hin
    go_wp2
    go_ret2
    exact⟨Zb9,_,rfl⟩
set_option maxHeartbeats 1000000 in
set_option maxRecDepth 100000 in
theorem Hh(b:Int)(h0:0<=b)(h1:b<256)(hlo:decide ((97:Int)<=b)=true)(hhi:decide (b<=102)=true)(w:World):Calls Tryz.prog 192 #[.int .u8 b] w fun e w'=>e=.returned (.tuple #[.int .i64 (max (kD b) 0),.bool (decide (0<=kD b))])/\∃ pos,w'=w.iter ⟨#[48,49,50,51,52,53,54,55,56,57,65,66,67,68,69,70]⟩ pos:=by
 have HF:Aside (foldI b=(b-32) % 256):=by
  have:=of_decide_eq_true hhi;have:=of_decide_eq_true hlo;unfold Aside foldI;rw[if_pos Zac];omega
 go_enter Tryz.func192,Tryz.ntmps192
 go_wp2
 go_loopg [4,5] 16 (fun g _ _ wx=> ∃ i:Nat,i+g=16/\wx=w.iter ⟨#[48,49,50,51,52,53,54,55,56,57,65,66,67,68,69,70]⟩ i/\∀ j:Nat,j<i->ec j≠foldI b)
 case atStart=>exact⟨0,Zac,rfl,fun j hj=>by omega⟩
 case round=>
  obtain⟨i,hig,rfl,hno⟩:=hrel;have HN:Aside (∀ j:Nat,j<i->ec j≠foldI b):=hno;clear hno;cases gk with
  | zero=>
    obtain rfl:i=16:=Zac;have hnx:=run_next_end (P:=Tryz.prog) w ⟨#[48,49,50,51,52,53,54,55,56,57,65,66,67,68,69,70]⟩ 16
    go_wp2
    go_ret2
    exact⟨by rw[tN HN.out];rfl,_,rfl⟩
  | succ g=>
    have hi:i<(⟨#[48,49,50,51,52,53,54,55,56,57,65,66,67,68,69,70]⟩:ByteArray).size:=by show i<16;omega
    have hfa:((((⟨#[48,49,50,51,52,53,54,55,56,57,65,66,67,68,69,70]⟩:ByteArray)[i]'hi).toNat:Nat):Int)=ec i:=wP i hi;have hlt:((⟨#[48,49,50,51,52,53,54,55,56,57,65,66,67,68,69,70]⟩:ByteArray)[i]'hi).toNat<128:=Zb8
    have hnx:=fun ty=>run_next_ascii (P:=Tryz.prog) w ⟨#[48,49,50,51,52,53,54,55,56,57,65,66,67,68,69,70]⟩ i ty hi hlt;rw[hfa]at hnx;clear hlt hfa;cases hin:(ec i==(b-32) % 256)
    · have HI:Aside ((ec i==(b-32) % 256)=false):=hin
      go_wp2
      go_roundg g
      case measure=>omega
      case rel=>exact⟨i+1,Zac,rfl,fun j hj=>by
       by_cases e:j=i;subst e;rw[HF.out];exact beq_eq_false_iff_ne.1 HI.out;exact HN.out j Zac⟩
    have HI:Aside ((ec i==(b-32) % 256)=true):=hin
    go_wp2
    go_ret2
    exact⟨Zb9,_,rfl⟩
theorem LZ(b:UInt8):PC Tryz.prog 192 [uN b.toNat] (fun r=>r=.tup [iV (max (cw b) 0),bV (decide (0<=cw b))]):=by
 refine⟨ey Tryz.func192 Zae Zae,fun w Pb cargs hP hargs=>?_⟩;obtain⟨r,rfl,h1⟩:=gW hargs;obtain rfl:=lD h1;have hb:=b.toNat_lt;have h:Calls Tryz.prog 192 #[.int .u8 b.toNat] w fun e w'=>e=.returned (.tuple #[.int .i64 (max (kD b.toNat) 0),.bool (decide (0<=kD b.toNat))])/\∃ pos,w'=w.iter ⟨#[48,49,50,51,52,53,54,55,56,57,65,66,67,68,69,70]⟩ pos:=by
  cases h1:decide ((97:Int)<=b.toNat);exact Li _ Zac Zac h1 w;cases h2:decide ((b.toNat:Int)<=102);exact Mt _ Zac Zac h1 h2 w;exact Hh _ Zac Zac h1 h2 w
 rw[Gh]at h;refine h.mono ?_;rintro e w' ⟨rfl,pos,rfl⟩;exact⟨_,_,[],Pb,rfl,rfl,rL rfl rfl,Zba,Zad,fun _ h=>h,fun _ h=>.inl h,⟨rfl,rfl,rfl,by simp[World.iter],fun k hk=>alloc_old w _ k hk⟩⟩
theorem KY(b:UInt8):PF Tryz.prog 192 [uN b.toNat] [] (fun r h=>r=.tup [iV (max (cw b) 0),bV (decide (0<=cw b))]/\h=[]):=ic rfl rfl (LZ b)
end
def zt3:ZT Tryz.prog:=⟨3,iN 0,dR (cs:=[.int .i64 0]) Zae Zae⟩
def zt4:ZT Tryz.prog:=⟨4,bV false,dR (cs:=[.bool false]) Zae Zae⟩
def OL:ZT Tryz.prog:=⟨25,.sl true [],dR (cs:=[.slice none 0 0]) Zae Zae⟩
def fo:ZT Tryz.prog:=⟨28,.agg [sV [],iN 0,.sl true [],.sl true [],.sl true []],dR (cs:=[.string ⟨#[]⟩,.int .i64 0,.slice none 0 0,.slice none 0 0,.slice none 0 0]) Zae Zae⟩
def wq:ZT Tryz.prog:=⟨35,.agg [iN 0,sV [],iN 0],dR (cs:=[.int .i64 0,.string ⟨#[]⟩,.int .i64 0]) Zae Zae⟩
def fB:ZT Tryz.prog:=⟨47,.agg [.sl true [],.sl true [],iN 0],dR (cs:=[.slice none 0 0,.slice none 0 0,.int .i64 0]) Zae Zae⟩
def tU:ZT Tryz.prog:=⟨50,.agg [sV [],iN 0,bV false,.agg [.sl true [],.sl true [],iN 0],iN 0,.sl true []],dR (cs:=[.string ⟨#[]⟩,.int .i64 0,.bool false,.slice none 0 0,.slice none 0 0,.int .i64 0,.int .i64 0,.slice none 0 0]) Zae Zae⟩
def lY:ZT Tryz.prog:=⟨52,.agg [sV [],iN 0],dR (cs:=[.string ⟨#[]⟩,.int .i64 0]) Zae Zae⟩
def cO:ZT Tryz.prog:=⟨57,.agg [sV [],.sl true [],bV false,sV []],dR (cs:=[.string ⟨#[]⟩,.slice none 0 0,.bool false,.string ⟨#[]⟩]) Zae Zae⟩
def Oz:ZT Tryz.prog:=⟨79,.agg [.lit (.map none),.lit (.pointer none)],dR (cs:=[.map none,.pointer none]) Zae Zae⟩
def Ng:ZT Tryz.prog:=⟨102,.agg [.sl true [],iN 0],dR (cs:=[.slice none 0 0,.int .i64 0]) Zae Zae⟩
def kT:ZT Tryz.prog:=⟨106,.agg [sV [],sV [],sV [],iN 0],dR (cs:=[.string ⟨#[]⟩,.string ⟨#[]⟩,.string ⟨#[]⟩,.int .i64 0]) Zae Zae⟩
def pR:ZT Tryz.prog:=⟨136,.agg [bV false,sV []],dR (cs:=[.bool false,.string ⟨#[]⟩]) Zae Zae⟩
def Nd:ZT Tryz.prog:=⟨153,.agg [.lit .nilFunc,.lit .nilFunc],dR (cs:=[.nilFunc,.nilFunc]) Zae Zae⟩
def MT:ZT Tryz.prog:=⟨164,.agg [.lit .nilFunc,.lit .nilFunc,.lit .nilFunc],dR (cs:=[.nilFunc,.nilFunc,.nilFunc]) Zae Zae⟩
def NG:ZT Tryz.prog:=⟨233,.agg [.sl true [],bV false],dR (cs:=[.slice none 0 0,.bool false]) Zae Zae⟩
def my:ZT Tryz.prog:=⟨248,.agg [sV []],dR (cs:=[.string ⟨#[]⟩]) Zae Zae⟩
def CP:ZT Tryz.prog:=⟨250,.agg [.agg [bV false,sV []]],dR (cs:=[.bool false,.string ⟨#[]⟩]) Zae Zae⟩
def IU:ZT Tryz.prog:=⟨252,.agg [iN 0],dR (cs:=[.int .i64 0]) Zae Zae⟩
abbrev av:=Wo Tryz.prog
abbrev fY:=Vh Tryz.prog
abbrev OT:=Sc Tryz.prog
abbrev oO(s:BL)(c:UInt8):V:=.tup [sV ((ab c s).1),sV ((ab c s).2.1),bV ((ab c s).2.2)]
abbrev lr(s:BL)(c:UInt8)(i:Nat):Prop:=i<=s.length/\ab c s=(s.take i++(ab c (s.drop i)).1,(ab c (s.drop i)).2.1,(ab c (s.drop i)).2.2)
def iE(s:BL)(c:UInt8):av:=.mk 135 [sV s,uN c.toNat] [] (s.length<=4611686018427387904) (oO s c) [] (by
 intro hs
 refine aq Tryz.func135
  (.q 3<|.q 1<|.loop Nat (fun i=>⟨[(0,sV s),(1,uN c.toNat),(7,iN i)],[]⟩) (fun i=>lr s c i) (fun i=>s.length-i) (fun i=>.q 4<|.br (.q 5<|.br (.C6 8 []<|.l8 8<|.q 2<|.nil) (.q 3<|.nil)) (.q 4<|.nil)))
  ((∃ j6:Nat,(lr s c j6)/\E (sV s)/\E (uN c.toNat)/\Q (iN 0) (iN j6)/\True)/\∀ i:Nat,(lr s c i)->Br (r6 (i:Int) (s.length:Int)) (Ix (i:Int) s/\Br (o4 (((s.getD i 0).toNat:Nat):Int) (c.toNat:Int)) (Sx (0:Int) (i:Int) s/\m5 ((i:Int)+1)/\Sx ((i+1:Nat):Int) (s.length:Int) s/\Q (.tup [sV ((s.take i).drop ((0:Int).toNat)),sV ((s.take s.length).drop (i+1)),bV true]) (oO s c)) (m5 ((i:Int)+1)/\∃ b7:Nat,(lr s c b7)/\(s.length-b7<s.length-i)/\E (sV s)/\E (uN c.toNat)/\Q (iN (i+1)) (iN b7)/\True)) (Q (.tup [sV s,sV [],bV false]) (oO s c))) ?_
 refine⟨⟨0,?_,ak⟩,?_⟩;unfold lr;simp_all;rintro i ⟨hi,PE⟩;refine bI (fun j7=>?_) fun j7=>?_;refine ag (bI (fun l3=>?_) fun l3=>?_);refine aX ?_;unfold Q oO;have he:s.getD i 0=c:=UInt8.toNat_inj.1 (by exact_mod_cast l3);rw[PE,drop_cons (by omega:i<s.length) 0,ab,if_pos he];simp;refine ag ⟨i+1,?_,?_,ak⟩;unfold lr;refine ag ?_;have hne: ¬ s.getD i 0=c:=fun h=>l3 (by rw[h]);rw[PE,drop_cons (by omega:i<s.length) 0];simp only[ab,if_neg hne,aW (by omega:i<s.length) 0,List.append_assoc,List.cons_append,List.nil_append];exact Zak;unfold Q oO;have hl:s.length<=i:=Zac;rw[PE,Za8 hl,ab,Zaz hl];simp)
def di(n lo up:Int):av:=.mk 27 [iV n,iV lo,iV up] [] True (bV (A5 n lo up)) [] (by
 intro _
 refine aq Tryz.func27
  (.q 1<|.q 9<|.nil)
  (Pk (A9 n lo) ((A9 n lo)==true) true/\Q (bV ((A9 n lo)&&(E2 n up))) (bV (A5 n lo up))) ?_
 refine ag ?_;unfold Q;refine Zbm bV ?_;rw[Za6];simp[A5])
def kb(b:UInt8):av:=.mk 137 [uN b.toNat] [] True (bV (ew b)) [] (by
 intro _
 refine aq Tryz.func137
  (.q 1<|.q 23<|.nil)
  ((fun v1:Int=>(fun v2:Bool=>(Pk (A9 v1 97) ((A9 v1 97)==true) true/\Gd v2 (Pk (A9 v1 48) (v2&&((A9 v1 48)==true)) true)/\Pk ((A9 v1 97)&&(E2 v1 122)) true v2/\Pk (((A9 v1 97)&&(E2 v1 122))||((A9 v1 48)&&(E2 v1 57))) true ((((A9 v1 97)&&(E2 v1 122))||((A9 v1 48)&&(E2 v1 57)))==false)/\Pk ((((A9 v1 97)&&(E2 v1 122))||((A9 v1 48)&&(E2 v1 57)))||(o4 v1 46)) true (((((A9 v1 97)&&(E2 v1 122))||((A9 v1 48)&&(E2 v1 57)))||(o4 v1 46))==false)/\Q (bV (((((A9 v1 97)&&(E2 v1 122))||((A9 v1 48)&&(E2 v1 57)))||(o4 v1 46))||(o4 v1 45))) (bV (ew b)))) (((A9 v1 97)&&(E2 v1 122))==false)) (b.toNat:Int)) ?_
 refine ej ?_;unfold Q;refine Zbm bV ?_;rw[Za6];simp[ew];try omega)
def lA(b:UInt8):av:=.mk 164 [uN b.toNat] [] True (bV (ew b)) [] (by
 intro _
 refine aq Tryz.func164
  (.q 1<|.q 23<|.nil)
  ((fun v1:Int=>(fun v2:Bool=>(Pk (A9 v1 97) ((A9 v1 97)==true) true/\Gd v2 (Pk (A9 v1 48) (v2&&((A9 v1 48)==true)) true)/\Pk ((A9 v1 97)&&(E2 v1 122)) true v2/\Pk (((A9 v1 97)&&(E2 v1 122))||((A9 v1 48)&&(E2 v1 57))) true ((((A9 v1 97)&&(E2 v1 122))||((A9 v1 48)&&(E2 v1 57)))==false)/\Pk ((((A9 v1 97)&&(E2 v1 122))||((A9 v1 48)&&(E2 v1 57)))||(o4 v1 46)) true (((((A9 v1 97)&&(E2 v1 122))||((A9 v1 48)&&(E2 v1 57)))||(o4 v1 46))==false)/\Q (bV (((((A9 v1 97)&&(E2 v1 122))||((A9 v1 48)&&(E2 v1 57)))||(o4 v1 46))||(o4 v1 45))) (bV (ew b)))) (((A9 v1 97)&&(E2 v1 122))==false)) (b.toNat:Int)) ?_
 refine ej ?_;unfold Q;refine Zbm bV ?_;rw[Za6];simp[ew];try omega)
def jX(b:UInt8):av:=.mk 220 [uN b.toNat] [] True (iV (cw b)) [] (by
 intro _
 refine aq Tryz.func220
  (.q 1<|.q 7<|.br (.q 4<|.nil) (.q 7<|.br (.q 5<|.nil) (.q 7<|.br (.q 5<|.nil) (.q 1<|.nil))))
  ((fun v1:Int=>(Pk (A9 v1 48) ((A9 v1 48)==true) true/\Br ((A9 v1 48)&&(E2 v1 57)) (Rv (v1-48)/\m5 (v1-48)/\Q (iV (v1-48)) (iV (cw b))) (Pk (A9 v1 97) ((A9 v1 97)==true) true/\Br ((A9 v1 97)&&(E2 v1 102)) (Rv (v1-97)/\m5 (v1-97)/\m5 ((v1-97)+10)/\Q (iV ((v1-97)+10)) (iV (cw b))) (Pk (A9 v1 65) ((A9 v1 65)==true) true/\Br ((A9 v1 65)&&(E2 v1 70)) (Rv (v1-65)/\m5 (v1-65)/\m5 ((v1-65)+10)/\Q (iV ((v1-65)+10)) (iV (cw b))) (Q (iV (-1)) (iV (cw b))))))) (b.toNat:Int)) ?_
 refine ag (bI (fun j7=>?_) fun j7=>?_)
 · refine⟨Zca,Zca,?_⟩;unfold Q;have:=b.toNat_lt;refine Zbm iV ?_;unfold cw;repeat (split <;> try omega)
 · refine ag (bI (fun l3=>?_) fun l3=>?_)
   · refine⟨Zca,Zca,Zca,?_⟩;unfold Q;have:=b.toNat_lt;refine Zbm iV ?_;unfold cw;repeat (split <;> try omega)
   · refine ag (bI (fun m7=>?_) fun m7=>?_)
     · refine⟨Zca,Zca,Zca,?_⟩;unfold Q;have:=b.toNat_lt;refine Zbm iV ?_;unfold cw;repeat (split <;> try omega)
     · unfold Q;have:=b.toNat_lt;refine Zbm iV ?_;unfold cw;repeat (split <;> try omega))
def od(s:BL):av:=.mk 94 [sV s] [] (s.length<=4611686018427387904) (bV (cZ s)) [] (by
 intro hs
 refine aq Tryz.func94
  (.l8 2<|.loop Nat (fun i=>⟨[(0,sV s),(3,iN i)],[]⟩) (fun i=>i<=s.length/\∀ j,j<i->kE (s.getD j 0)=true) (fun i=>s.length-i) (fun i=>.q 4<|.br (.q 10<|.br (.q 1<|.nil) (.q 3<|.nil)) (.q 2<|.c (di (s.length:Int) (1:Int) (5:Int)) []<|.q 1<|.nil)))
  ((fun v1:Nat->Prop=>((∃ j6:Nat,(v1 j6)/\E (sV s)/\Q (iN 0) (iN j6)/\True)/\∀ i:Nat,(v1 i)->(fun v2:Int=>Br (r6 (i:Int) (s.length:Int)) (Ix (i:Int) s/\Gd ((r6 v2 97)==false) (Ix (i:Int) s)/\Pk (r6 v2 97) true ((r6 v2 97)==false)/\Br ((r6 v2 97)||(s7 v2 122)) (Q (bV false) (bV (cZ s))) (m5 ((i:Int)+1)/\∃ b7:Nat,(v1 b7)/\(s.length-b7<s.length-i)/\E (sV s)/\Q (iN (i+1)) (iN b7)/\True)) ((di (s.length:Int) (1:Int) (5:Int)).sm/\(True)/\Q (bV (A5 (s.length:Int) (1:Int) (5:Int))) (bV (cZ s)))) (((s.getD i 0).toNat:Nat):Int))) (fun j6:Nat=>j6<=s.length/\∀ j,j<j6->kE (s.getD j 0)=true)) ?_
 refine⟨⟨0,?_,ak⟩,?_⟩;simp_all;rintro i ⟨hi,RS⟩;refine bI (fun j7=>?_) fun j7=>?_;refine aX (bI (fun l3=>?_) fun l3=>?_);rw[show cZ s=false from by unfold cZ fS;rw[all_false (i:=i) (d:=0) Zac Zcb];rfl];refine ag ⟨i+1,?_,?_,ak⟩;refine ag (bm RS ?_);simp only[kE,Zbk];omega;exact Zak;refine aQ ?_;unfold Q;unfold cZ;rw[show fS s=true from all_true (d:=0) fun j hj=>RS j Zac];rw[Bool.true_and])
def iZ(s:BL):av:=.mk 58 [sV s] [] (s.length<=4611686018427387904) (bV (cC s)) [] (by
 intro hs
 refine aq Tryz.func58
  (.l8 2<|.loop Nat (fun i=>⟨[(0,sV s),(3,iN i)],[]⟩) (fun i=>i<=s.length/\∀ j,j<i->kE (s.getD j 0)=true) (fun i=>s.length-i) (fun i=>.q 4<|.br (.q 10<|.br (.q 1<|.nil) (.q 3<|.nil)) (.q 2<|.c (di (s.length:Int) (1:Int) (8:Int)) []<|.q 1<|.nil)))
  ((fun v1:Nat->Prop=>((∃ j6:Nat,(v1 j6)/\E (sV s)/\Q (iN 0) (iN j6)/\True)/\∀ i:Nat,(v1 i)->(fun v2:Int=>Br (r6 (i:Int) (s.length:Int)) (Ix (i:Int) s/\Gd ((r6 v2 97)==false) (Ix (i:Int) s)/\Pk (r6 v2 97) true ((r6 v2 97)==false)/\Br ((r6 v2 97)||(s7 v2 122)) (Q (bV false) (bV (cC s))) (m5 ((i:Int)+1)/\∃ b7:Nat,(v1 b7)/\(s.length-b7<s.length-i)/\E (sV s)/\Q (iN (i+1)) (iN b7)/\True)) ((di (s.length:Int) (1:Int) (8:Int)).sm/\(True)/\Q (bV (A5 (s.length:Int) (1:Int) (8:Int))) (bV (cC s)))) (((s.getD i 0).toNat:Nat):Int))) (fun j6:Nat=>j6<=s.length/\∀ j,j<j6->kE (s.getD j 0)=true)) ?_
 refine⟨⟨0,?_,ak⟩,?_⟩;simp_all;rintro i ⟨hi,RS⟩;refine bI (fun j7=>?_) fun j7=>?_;refine aX (bI (fun l3=>?_) fun l3=>?_);rw[show cC s=false from by unfold cC fS;rw[all_false (i:=i) (d:=0) Zac Zcb];rfl];refine ag ⟨i+1,?_,?_,ak⟩;refine ag (bm RS ?_);simp only[kE,Zbk];omega;exact Zak;refine aQ ?_;unfold Q;unfold cC;rw[show fS s=true from all_true (d:=0) fun j hj=>RS j Zac];rw[Bool.true_and])
def mj(s:BL):av:=.mk 67 [sV s] [] (s.length<=4611686018427387904) (bV (fS s)) [] (by
 intro hs
 refine aq Tryz.func67
  (.l8 2<|.loop Nat (fun i=>⟨[(0,sV s),(3,iN i)],[]⟩) (fun i=>i<=s.length/\∀ j,j<i->kE (s.getD j 0)=true) (fun i=>s.length-i) (fun i=>.q 4<|.br (.q 10<|.br (.q 1<|.nil) (.q 3<|.nil)) (.q 1<|.nil)))
  ((fun v1:Nat->Prop=>((∃ j6:Nat,(v1 j6)/\E (sV s)/\Q (iN 0) (iN j6)/\True)/\∀ i:Nat,(v1 i)->(fun v2:Int=>Br (r6 (i:Int) (s.length:Int)) (Ix (i:Int) s/\Gd ((r6 v2 97)==false) (Ix (i:Int) s)/\Pk (r6 v2 97) true ((r6 v2 97)==false)/\Br ((r6 v2 97)||(s7 v2 122)) (Q (bV false) (bV (fS s))) (m5 ((i:Int)+1)/\∃ b7:Nat,(v1 b7)/\(s.length-b7<s.length-i)/\E (sV s)/\Q (iN (i+1)) (iN b7)/\True)) (Q (bV true) (bV (fS s)))) (((s.getD i 0).toNat:Nat):Int))) (fun j6:Nat=>j6<=s.length/\∀ j,j<j6->kE (s.getD j 0)=true)) ?_
 refine⟨⟨0,?_,ak⟩,?_⟩;simp_all;rintro i ⟨hi,RS⟩;refine bI (fun j7=>?_) fun j7=>?_;refine aX (bI (fun l3=>?_) fun l3=>?_);rw[show fS s=false from by unfold fS;rw[all_false (i:=i) (d:=0) Zac Zcb]];refine ag ⟨i+1,?_,?_,ak⟩;refine ag (bm RS ?_);simp only[kE,Zbk];omega;exact Zak;rw[show fS s=true from all_true (d:=0) fun j hj=>RS j Zac])
def oe(s:BL):av:=.mk 69 [sV s] [] (s.length<=4611686018427387904) (bV (cZ s)) [] (by
 intro hs
 refine aq Tryz.func69
  (.q 1<|.q 10<|.cg (mj s)<|.q 2<|.nil)
  ((fun v1:Int=>(Pk (A9 v1 1) ((A9 v1 1)==true) true/\Gd (((A9 v1 1)&&(E2 v1 5))==true) (((s.length<=4611686018427387904))/\(mj s).sm)/\Pk ((A9 v1 1)&&(E2 v1 5)) (((A9 v1 1)&&(E2 v1 5))==true) true/\Q (bV (((A9 v1 1)&&(E2 v1 5))&&(fS s))) (bV (cZ s)))) (s.length:Int)) ?_
 refine ag ⟨fun hG=>⟨Zcc,rfl⟩,ag ?_⟩;unfold Q;refine Zbm bV ?_;rw[Za6];simp[cZ,A5,and_comm,and_assoc];try omega)
def pP(s:BL):av:=.mk 36 [sV s] [] (s.length<=4611686018427387904) (bV (cC s)) [] (by
 intro hs
 refine aq Tryz.func36
  (.q 1<|.q 10<|.cg (mj s)<|.q 2<|.nil)
  ((fun v1:Int=>(Pk (A9 v1 1) ((A9 v1 1)==true) true/\Gd (((A9 v1 1)&&(E2 v1 8))==true) (((s.length<=4611686018427387904))/\(mj s).sm)/\Pk ((A9 v1 1)&&(E2 v1 8)) (((A9 v1 1)&&(E2 v1 8))==true) true/\Q (bV (((A9 v1 1)&&(E2 v1 8))&&(fS s))) (bV (cC s)))) (s.length:Int)) ?_
 refine ag ⟨fun hG=>⟨Zcc,rfl⟩,ag ?_⟩;unfold Q;refine Zbm bV ?_;rw[Za6];simp[cC,A5,and_comm,and_assoc];try omega)
end Go.Proofs.YtngholilfbdfkabGreatDoor