/-
  Words and walks for the laws of pedlar's seat: what each function of the program computes, and that it does; no conditions beyond those that each statement names.
-/
import Derived.Test.YtjkdagkclihpjaaGreatDoorGA
import Derived.Scope
import Derived.Laws.MakeOwn
import Derived.MapKept
import Derived.Test.YtjkdagkclihpjaaGreatDoorProg
import Derived.Shelf.Strings.OnBuilder
import Derived.Shelf.Strings.Search2
import Derived.Shelf.Strings.Search3
import Derived.Shelf.Strings.Count
import Derived.Shelf.Strings.SplitCore
import Derived.Shelf.Strings.IndexAnyAll
import Derived.Shelf.Slices.Turned
import Derived.Shelf.Slices.Clone
import Derived.Lib.Join
import Derived.Lib.IndexAny
import Derived.Lib.SplitLaws
import Derived.WalkKit
import Derived.Laws.RangeString
import Derived.Deep.LoopGhost
set_option linter.unusedVariables false
set_option linter.unusedSimpArgs false
set_option linter.unnecessarySimpa false
set_option linter.unusedSectionVars false
namespace Go.Proofs.YtjkdagkclihpjaaGreatDoor
open Go Go.RowKit
set_option maxRecDepth 20000
mutual
def V.Q9(ρ:m4->m4):V->V
 | .hd r p sz g o lo n c=>.hd (ρ r) p sz g o lo n c
 | .ptr r p g o=>.ptr (ρ r) p g o
 | .agg vs=>.agg (V.xc ρ vs)
 | .tup vs=>.tup (V.xc ρ vs)
 | v=>v
def V.xc(ρ:m4->m4):List V->List V
 | []=>[]
 | v::vs=>v.Q9 ρ::V.xc ρ vs
end
def Yk:V->V
 | .tup _=>.c9
 | .gv _ _=>.c9
 | v=>v
def AS.tk(A:AS):List Operand->List V×AS
 | []=>([],A)
 | x::xs=>match (A.drop x).tk xs with
   | (vs,B)=>(Yk (A.ev x)::vs,B)
section
variable {w w':World} {Pb Kb Pb':Nat->Prop} {N:Nat} {A A' B:AS} {a:Act} {F:m4->List Nat} {P:Program} {ops:Array Oper}
mutual
theorem Ik(ρ:m4->m4):∀ (v:V) {cs F},R w Pb v cs F->R w Pb (v.Q9 ρ) cs F
 | .agg vs,_,_,h=>by simp only[R,V.Q9]at h ⊢;exact uP ρ vs h
 | .tup _,_,_,h=>by simp[R]at h
 | .hd ..,_,_,h=>h
 | .ptr ..,_,_,h=>h
 | .gv _ _,_,_,h=>h
 | .lit _,_,_,h=>h
 | .sl ..,_,_,h=>h
 | .own ..,_,_,h=>h
 | .ow ..,_,_,h=>h
 | .om ..,_,_,h=>h
 | .mp _,_,_,h=>h
 | .ep _,_,_,h=>h
 | .c9,_,_,h=>h
theorem uP(ρ:m4->m4):∀ (vs:List V) {cs F},RL w Pb vs cs F->RL w Pb (V.xc ρ vs) cs F
 | [],_,_,h=>h
 | v::vs,_,_,h=>by
   obtain⟨c1,c2,F1,F2,rfl,rfl,h1,h2⟩:=h;exact⟨c1,c2,F1,F2,rfl,rfl,Ik ρ v h1,uP ρ vs h2⟩
end
theorem Ki(ρ:m4->m4){v:V}{x:Value}{F1:List Nat}(h:RD w Pb v x F1):RD w Pb (v.Q9 ρ) x F1:=by
 cases v with
 | agg us=>obtain⟨cs,rfl,h⟩:=h;exact⟨cs,rfl,uP ρ us h⟩
 | tup vs=>simp[RD,R]at h
 | _=>exact h
theorem Bk(ρ:m4->m4):∀ (vs:List V) {xs F1},RVs w Pb vs xs F1->RVs w Pb (V.xc ρ vs) xs F1
 | [],_,_,h=>h
 | v::vs,xs,F1,h=>by
   obtain⟨x,xs',Fa,Fb,rfl,rfl,h1,h2⟩:=(vb (v::vs)).1 h;exact(vb (v.Q9 ρ::V.xc ρ vs)).2 ⟨x,xs',Fa,Fb,rfl,rfl,Ki ρ h1,Bk ρ vs h2⟩
theorem LQ(ρ:m4->m4){v:V}{x:Value}{F1:List Nat}(h:RV w Pb v x F1):RV w Pb (v.Q9 ρ) x F1:=by
 cases v with
 | agg us=>obtain⟨cs,rfl,h⟩:=h;exact⟨cs,rfl,uP ρ us h⟩
 | tup us=>obtain⟨cs,rfl,h⟩:=h;exact⟨cs,rfl,Bk ρ us h⟩
 | _=>exact h
def UF(w:World)(Pb:Nat->Prop):List V->List Value->List (List Nat)->Prop
 | [],[],[]=>True
 | v::vs,x::xs,F::Fs=>RV w Pb v x F/\UF w Pb vs xs Fs
 | _,_,_=>False
theorem pW:∀ {vs us:List V} {xs ys:List Value} {Fs Gs:List (List Nat)},UF w Pb vs xs Fs->UF w Pb us ys Gs->UF w Pb (vs++us) (xs++ys) (Fs++Gs)
 | [],_,[],_,[],_,_,h=>h
 | _::_,_,_::_,_,_::_,_,h,k=>⟨h.1,pW h.2 k⟩
 | [],_,_::_,_,_,_,h,_=>h.elim
 | [],_,[],_,_::_,_,h,_=>h.elim
 | _::_,_,[],_,_,_,h,_=>h.elim
 | _::_,_,_::_,_,[],_,h,_=>h.elim
theorem Bm:∀ {vs:List V} {xs:List Value} {Fs:List (List Nat)},UF w Pb vs xs Fs->xs.length=vs.length/\Fs.length=vs.length
 | [],[],[],_=>⟨rfl,rfl⟩
 | _::_,_::_,_::_,h=>by have:=Bm h.2;simp[this.1,this.2]
 | [],_::_,_,h=>h.elim
 | [],[],_::_,h=>h.elim
 | _::_,[],_,h=>h.elim
 | _::_,_::_,[],h=>h.elim
theorem Cz:∀ {vs:List V} {xs:List Value} {Fs:List (List Nat)} {i:Nat} {v:V} {x:Value},UF w Pb vs xs Fs->vs[i]? =some v->xs[i]? =some x->RV w Pb v x (Fs.getD i [])
 | v::vs,x::xs,F::Fs,0,_,_,h,h1,h2=>by simp at h1 h2;subst h1 h2;exact h.1
 | v::vs,x::xs,F::Fs,i+1,_,_,h,h1,h2=>by simpa using Cz (i:=i) h.2 (by simpa using h1) (by simpa using h2)
 | [],_,_,_,_,_,_,h1,_=>by simp at h1
 | _::_,[],_,_,_,_,h,_,_=>h.elim
 | _::_,_::_,[],_,_,_,h,_,_=>h.elim
theorem EX:∀ {vs us:List V} {xs:List Value} {Fs:List (List Nat)},UF w Pb vs xs Fs->UF w Pb (Qa vs us) xs Fs
 | [],us,[],[],_=>by simp only[Qa];trivial
 | v::vs,[],_,_,h=>by simpa only[Qa] using h
 | v::vs,u::us,x::xs,F::Fs,h=>⟨yC u h.1,EX h.2⟩
 | [],_,_::_,_,h=>h.elim
 | [],_,[],_::_,h=>h.elim
 | _::_,_::_,[],_,h=>h.elim
 | _::_,_::_,_::_,[],h=>h.elim
theorem qp:∀ (l:List Value),UF w Pb (l.map cV) l (l.map fun _=>[])
 | []=>trivial
 | x::l=>⟨rX x,qp l⟩
theorem Lz{v:V}{x:Value}{Fx:List Nat}(h:RV w Pb v x Fx):∃ Fy,RV w Pb (Yk v) x Fy/\(Fy=Fx\/Fy=[]):=by
 cases v with
 | tup _=>exact⟨[],rfl,.inr rfl⟩
 | gv _ _=>exact⟨[],rfl,.inr rfl⟩
 | _=>exact⟨Fx,h,.inl rfl⟩
theorem w3.tk:∀ (xs:List Operand) {A:AS} {F:m4->List Nat},w3 N Pb Kb A a w F->∃ Fl F',UF w Pb (A.tk xs).1 (xs.map a.eval) Fl/\w3 N Pb Kb (A.tk xs).2 a w F'/\
 (∀ i,(Fl.getD i []).Nodup)/\(∀ i j,i≠j->∀ g,g∈Fl.getD i []->g ∉ Fl.getD j [])/\(∀ i r g,g∈Fl.getD i []->g ∉ F' r)/\(∀ i g,g∈Fl.getD i []->¬ Kb g/\g<w.heap.size)/\
 (∀ r g,g∈F' r->g∈F r)/\(∀ i g,g∈Fl.getD i []->∃ r,g∈F r)
 | [],A,F,hs=>⟨[],F,trivial,hs,Zad,Zad,Zad,Zad,fun _ _ h=>h,Zad⟩
 | x::xs,A,F,hs=>by
   obtain⟨Fx,F1,h1,h2,h3,h4,h5,h6,h7⟩:=hs.take x;obtain⟨Fl,F2,k1,k2,k3,k4,k5,k6,k7,k8⟩:=w3.tk xs h2;obtain⟨Fy,hy1,XK⟩:=Lz h1;have Zb:∀ g,g∈Fy->g∈Fx:=fun g hg=>by rcases XK with rfl | rfl <;> simp_all
   have hyn:Fy.Nodup:=by rcases XK with rfl | rfl <;> simp_all
   have hx:∀ i g,g∈Fy->g ∉ Fl.getD i []:=fun i g hg c=>by
    obtain⟨r,hr⟩:=k8 i g c;exact h4 r g (Zb g hg) hr
   refine⟨Fy::Fl,F2,⟨hy1,k1⟩,k2,fun i=>?_,fun i j hne g hg=>?_,fun i r g hg=>?_,fun i g hg=>?_,fun r g hg=>h6 r g (k7 r g hg),fun i g hg=>?_⟩;cases i with
   | zero=>exact hyn
   | succ i=>simpa using k3 i
   cases i with
   | zero=>
     cases j with
     | zero=>exact absurd rfl hne
     | succ j=>simpa using hx j g (by simpa using hg)
   | succ i=>
     cases j with
     | zero=>exact fun c=>hx i g (by simpa using c) (by simpa using hg)
     | succ j=>simpa using k4 i j Zac g (by simpa using hg)
   cases i with
   | zero=>exact fun c=>h4 r g (Zb g (by simpa using hg)) (k7 r g c)
   | succ i=>exact k5 i r g (by simpa using hg)
   cases i with
   | zero=>exact h5 g (Zb g (by simpa using hg))
   | succ i=>exact k6 i g (by simpa using hg)
   cases i with
   | zero=>exact h7 g (Zb g (by simpa using hg))
   | succ i=>
     obtain⟨r,hr⟩:=k8 i g (by simpa using hg);exact⟨r,h6 r g hr⟩
def Rq(ks:List (Nat×Nat)):List (Nat×Nat):=ks.map fun p=>(p.2,p.1)
def jO(ks:List (Nat×Nat)):m4->m4
 | .key k=>match lk k ks with | some q=>.key q | none=>.key k
 | r=>r
def FO(ks:List (Nat×Nat))(H:List (Nat×(Nat×V))):List (Nat×(Nat×V))->List (Nat×(Nat×V)):=fun rest=>match ks with
 | []=>rest
 | (k,q)::r=>match lk k H with
   | some (g,v)=>(q,(g,v.Q9 (jO ks)))::FO r H rest
   | none=>FO r H rest
def news(ρ:m4->m4)(H:List (Nat×(Nat×V))):List (Nat×Nat)->List (Nat×(Nat×V))
 | []=>[]
 | (k,q)::r=>match lk k H with
   | some (g,v)=>(q,(g,v.Q9 ρ))::news ρ H r
   | none=>news ρ H r
def wB(ks:List (Nat×Nat))(h:List (Nat×(Nat×V))):List (Nat×(Nat×V)):=h.filter fun p=>(lk p.1 (Rq ks)).isNone
theorem iF(ks:List (Nat×Nat)):∀ (h:List (Nat×(Nat×V))) (q:Nat),lk q (wB ks h)=if (lk q (Rq ks)).isNone then lk q h else none
 | [],q=>by simp[wB,lk]
 | (k,v)::h,q=>by
   have ih:=iF ks h q;simp only[wB,List.filter_cons]at ih ⊢;by_cases hk:(lk k (Rq ks)).isNone=true;rw[if_pos hk];simp only[lk];by_cases e:q=k;subst e;rw[if_pos rfl,if_pos rfl,if_pos hk];rw[if_neg e,if_neg e];exact ih;rw[if_neg hk,ih];simp only[lk];by_cases e:q=k;subst e;rw[if_neg hk,if_neg hk];rw[if_neg e]
theorem mA{α:Type}:∀ {l:List (Nat×α)} {q:Nat},q ∉ l.map (·.1)->lk q l=none
 | [],_,_=>rfl
 | (k,v)::l,q,h=>by
   simp only[Zbe,List.mem_cons,not_or]at h;simp only[lk];rw[if_neg h.1];exact mA h.2
theorem px{ρ:m4->m4}{H:List (Nat×(Nat×V))}:∀ {ks:List (Nat×Nat)} {q:Nat},P0 (ks.map (·.2))=true->
 lk q (news ρ H ks)=(lk q (Rq ks)).bind fun k=>(lk k H).map fun gv=>(gv.1,gv.2.Q9 ρ)
 | [],q,_=>rfl
 | (k,q0)::ks,q,h=>by
   simp only[Zbe,P0,Zao,Bool.not_eq_true',Zbi,decide_eq_false_iff_not]at h;have ih:=px (ρ:=ρ) (H:=H) (ks:=ks) (q:=q) h.2;simp only[news,Rq,Zbe,lk];by_cases e:q=q0;subst e;rw[if_pos rfl];simp only[Option.bind_some];cases hk:lk k H with
   | some gv=>simp only[lk,if_true,Option.map_some]
   | none=>
     simp only[Option.map_none];rw[ih,mA];rfl;simp only[Rq,List.map_map,Function.comp_def];exact h.1
   rw[if_neg e];cases hk:lk k H with
   | some gv=>simp only[lk];rw[if_neg e];exact ih
   | none=>exact ih
def AS.back(A:AS)(ks:List (Nat×Nat))(H:List (Nat×(Nat×V))):AS:=⟨A.t,news (jO ks) H ks++wB ks A.h⟩
theorem lr{α:Type}(t:Nat)(l1 l2:List (Nat×α)):lk t (l1++l2)=match lk t l1 with | some v=>some v | none=>lk t l2:=FT t l1 l2
def ln(B:AS)(ks:List (Nat×Nat)):List (Nat×(Nat×V))->Prop
 | []=>True
 | (k,(g,v))::r=>(match lk k ks with | some q=>(match lk q B.h with | some (g',v')=>(g',wk v' v)=(g,v) | none=>False) | none=>False)/\ln B ks r
theorem uE{B:AS}{ks:List (Nat×Nat)}:∀ {H:List (Nat×(Nat×V))} {k g:Nat} {v:V},ln B ks H->lk k H=some (g,v)->∃ q v',lk k ks=some q/\lk q B.h=some (g,v')/\wk v' v=v
 | [],_,_,_,_,h=>by simp[lk]at h
 | (k0,(g0,v0))::H,k,g,v,h,e=>by
   simp only[lk]at e;split at e;rename_i e';subst e';cases e;have h1:=h.1;split at h1;rename_i q hq;split at h1;rename_i g' v' hq';simp only[Zaq]at h1;exact⟨q,v',hq,by rw[hq',h1.1],h1.2⟩;exact h1.elim;exact h1.elim;exact uE h.2 e
theorem uY{α:Type}:∀ {l:List (Nat×α)} {k:Nat} {v:α},lk k l=some v->(k,v)∈l
 | [],_,_,h=>by simp[lk]at h
 | (k0,v0)::l,k,v,h=>by
   simp only[lk]at h;split at h;rename_i e;subst e;cases h;simp;exact List.mem_cons_of_mem _ (uY h)
theorem od{α:Type}:∀ {l:List (Nat×α)} {k:Nat} {v:α},P0 (l.map (·.1))=true->(k,v)∈l->lk k l=some v
 | (k0,v0)::l,k,v,h,hm=>by
   simp only[Zbe,P0,Zao,Bool.not_eq_true',Zbi,decide_eq_false_iff_not]at h;simp only[lk];rcases List.mem_cons.1 hm with e | hm;cases e;rw[if_pos rfl];have hne:k≠k0:=fun c=>h.1 (by rw[<- c];exact List.mem_map.2 ⟨_,hm,rfl⟩);rw[if_neg hne];exact od h.2 hm
theorem oY{ks:List (Nat×Nat)}{k q:Nat}(h1:P0 (ks.map (·.1))=true)(h2:P0 (ks.map (·.2))=true):lk k ks=some q↔lk q (Rq ks)=some k:=by
 have e:(Rq ks).map (·.1)=ks.map (·.2):=by simp[Rq,List.map_map,Function.comp_def]
 constructor;intro h;refine od (by rw[e];exact h2) ?_;exact List.mem_map.2 ⟨(k,q),uY h,rfl⟩;intro h;have hm:=uY h;simp only[Rq,List.mem_map,Zaq]at hm;obtain⟨⟨x,y⟩,hm,e1,e2⟩:=hm;simp only at e1 e2;subst e1 e2;exact od h1 hm
open Classical in
theorem nZ{o:Oper} {K:AS->Prop} {f:FuncId} {fx:Operand} {xs:Array Operand} {N2:Array TypeId} {first A7:Array Value} {args:List V} {H:List (Nat×(Nat×V))}
 {Q:V->List (Nat×(Nat×V))->Prop} (ks:List (Nat×Nat)) (ho:o.op=.call { callee:=.value fx,args:=xs,argTypes:=N2 }) (hfx:A.ev fx=.lit (.func (.func f) first A7))
 (hd:cI N o.dst) (S1:P0 (ks.map (·.1))=true) (Qk:P0 (ks.map (·.2))=true) (hc:PF P f args H Q)
 (hargs:Qa (first.toList.map cV++(A.tk xs.toList).1++A7.toList.map cV) args=args) (hlen:args.length=(first.toList.map cV++(A.tk xs.toList).1++A7.toList.map cV).length)
 (SC:ln (A.tk xs.toList).2 ks H)
 (hK:∀ r H',Q r H'->K (((A.tk xs.toList).2.back ks H').put o.dst (r.Q9 (jO ks)))):F9 P N o A K:=by
 intro Pb Kb a w F Q' hs;have hfv:=bY hs hfx;unfold Oper.wp;have B6:(execOp a.eval o).run P w=.ok (.enter f (first++xs.map a.eval++A7)) w:=by
  simp only[execOp,ho,resolve,hfv,Deferred.ofValue,Za0,Za1,Zas,invoke];exact hc.1 _ w
 rw[B6,Oper.upon_enter];obtain⟨Fl,F2,k1,k2,k3,k4,k5,k6,k7,k8⟩:=hs.tk xs.toList
 let B:=(A.tk xs.toList).2
 have hle:(⟨B.t,wB ks B.h⟩:AS).le B:=⟨fun _=>.inr rfl,fun q=>by
  simp only[iF];split;exact .inr rfl;exact .inl rfl⟩
 let F3:m4->List Nat:=fun r=>match r with
  | .slot i=>F2 (.slot i)
  | .key q=>if (lk q (Rq ks)).isNone then F2 (.key q) else []
 have Vm:∀ r g,g∈F3 r->g∈F2 r:=fun r g hg=>by
  cases r with
  | slot i=>exact hg
  | key q=>simp only[F3]at hg;split at hg;exact hg;simp at hg
 have Pz:w3 N Pb Kb ⟨B.t,wB ks B.h⟩ a w F3:=by
  refine⟨k2.size,k2.defers,k2.slot,fun q g v hq=>?_,fun r r' hne g hg c=>k2.cm r r' hne g (Vm r g hg) (Vm r' g c),fun r=>?_,fun r g hg=>k2.free r g (Vm r g hg),k2.sub,k2.bound⟩;simp only[iF]at hq;split at hq;rename_i hn;obtain⟨F',e,hA⟩:=k2.root q g v hq;exact⟨F',by simp only[F3];rw[if_pos hn];exact e,hA⟩;simp at hq;cases r with
  | slot i=>exact k2.nodup _
  | key q=>simp only[F3];split;exact k2.nodup _;exact Zba
 let Kc:Nat->Prop:=fun g=>Kb g\/∃ r,g∈F3 r
 let FL:=first.toList.map (fun _=>([]:List Nat))++Fl++A7.toList.map (fun _=>([]:List Nat))
 have hFl:UF w Pb (first.toList.map cV++(A.tk xs.toList).1++A7.toList.map cV) (first.toList++xs.toList.map a.eval++A7.toList) FL:=
  pW (pW (qp _) k1) (qp _)
 have YW:∀ i g,g∈FL.getD i []->∃ j,FL.getD i []=Fl.getD j []/\i=first.toList.length+j:=by
  intro i g hg;simp only[FL,Zam,List.append_assoc]at hg ⊢;by_cases h1:i<first.toList.length
  rw[Za9 Zbz,List.getElem?_map]at hg;cases he:first.toList[i]? <;> rw[he]at hg <;> simp at hg
  have Zq:i=first.toList.length+(i-first.toList.length):=Zac
  rw[Za4 Zbz]at hg ⊢;simp only[Zay]at hg ⊢;by_cases h2:i-first.toList.length<Fl.length
  rw[Za9 h2];exact⟨_,rfl,Zq⟩;rw[Za4 Zac,List.getElem?_map]at hg;cases he:A7.toList[i-first.toList.length-Fl.length]? <;> rw[he]at hg <;> simp at hg
 let FC:m4->List Nat:=fun r=>match r with
  | .slot i=>FL.getD i []
  | .key k=>match lk k ks with
    | some q=>if lk k H=none then [] else F2 (.key q)
    | none=>[]
 have hFC:∀ r g,g∈FC r->(∃ i j,r=.slot i/\g∈Fl.getD j []/\i=first.toList.length+j)\/(∃ k q,r=.key k/\lk k ks=some q/\g∈F2 (.key q)):=by
  intro r g hg;cases r with
  | slot i=>
    obtain⟨j,e,hj⟩:=YW i g hg;exact .inl ⟨i,j,rfl,by rw[<- e];exact hg,hj⟩
  | key k=>
    simp only[FC]at hg;split at hg;rename_i q hq;split at hg;simp at hg;exact .inr ⟨k,q,rfl,hq,hg⟩;simp at hg
 have hF3q:∀ k q,lk k ks=some q->∀ r g,g∈F2 (.key q)->g ∉ F3 r:=by
  intro k q hq r g hg c;cases r with
  | slot i=>exact k2.cm (.key q) (.slot i) Zad g hg c
  | key q'=>
    simp only[F3]at c;split at c;rename_i hn;have hne:(m4.key q)≠.key q':=fun e=>by
     cases e;rw[(oY S1 Qk).1 hq]at hn;simp at hn
    exact k2.cm _ _ hne g hg c;simp at c
 have Vl:∀ r g,g∈FC r->¬ Kc g/\g<w.heap.size:=by
  intro r g hg;rcases hFC r g hg with ⟨i,j,_,h,_⟩ | ⟨k,q,_,hq,h⟩;refine⟨fun c=>?_,(k6 j g h).2⟩;rcases c with c | ⟨r',c⟩;exact(k6 j g h).1 c;exact k5 j r' g h (Vm r' g c);refine⟨fun c=>?_,(k2.free _ g h).2⟩;rcases c with c | ⟨r',c⟩;exact(k2.free _ g h).1 c;exact hF3q k q hq r' g h c
 have hi:ZC w Pb Kc args (first.toList++xs.toList.map a.eval++A7.toList) H FC:=by
  have hl:=Bm hFl;have hFw:=EX (us:=args) hFl;rw[hargs]at hFw;refine⟨by rw[hl.1,hlen],fun i v x hv hx=>Cz hFw hv hx,fun k g v YO=>?_,fun i XQ=>?_,fun r r' hne g hg c=>?_,fun r=>?_,Vl,fun g hg=>.inl (k2.sub g hg),fun g hg=>?_⟩;obtain⟨q,v',h1,h2,h3⟩:=uE SC YO;obtain⟨F',e,hA⟩:=k2.root q g v' h2;refine⟨F',?_,by have:=DH v hA;rw[h3]at this;exact this⟩;simp only[FC,h1];rw[if_neg (by rw[YO];simp)];exact e;simp only[FC];rw[Zam,List.getElem?_eq_none (by rw[hl.2,<- hlen];exact XQ)];rfl;rcases hFC r g hg with ⟨i,j,e1,h,e1'⟩ | ⟨k,q,e1,hq,h⟩ <;> rcases hFC r' g c with ⟨i',j',e2,h',X4⟩ | ⟨k',q',e2,hq',h'⟩;refine k4 j j' (fun e=>hne ?_) g h h';rw[e1,e2,e1',X4,e];exact k5 j (.key q') g h h';exact k5 j' (.key q) g h' h;have hqq:q=q':=Classical.byContradiction fun hqq=>k2.cm (.key q) (.key q') (fun e=>hqq (by cases e;rfl)) g h h';subst hqq;have:=(oY S1 Qk).1 hq;rw[(oY S1 Qk).1 hq']at this;cases this;exact hne (by rw[e1,e2]);cases r with
  | slot i=>
    by_cases he:FL.getD i []=[];simp only[FC];rw[he];exact Zba;obtain⟨g,hg⟩:=List.exists_mem_of_ne_nil _ he;obtain⟨j,e,_⟩:=YW i g hg;simp only[FC];rw[e];exact k3 j
  | key k=>
    simp only[FC];split;split;exact Zba;exact k2.nodup _;exact Zba
  rcases hg with h | ⟨r,h⟩;exact k2.bound g h;exact(Pz.free r g h).2
 have M5:=hc.2 w Pb Kc _ FC hi;have e:(first.toList++xs.toList.map a.eval++A7.toList).toArray=first++xs.map a.eval++A7:=by
  apply Array.ext';simp
 rw[e]at M5;refine M5.mono ?_;rintro e w' ⟨r,x,H',Pb',E7,F',rfl,hq,hf⟩;have S0:A4 Kb w w':=⟨hf.fc.os,hf.fc.tape,hf.fc.output,hf.fc.size,fun g hg=>hf.fc.block g (.inl hg),hf.fc.shape⟩
 let K2:Nat->Prop:=fun g=>Kb g\/(E7 g/\¬ ∃ r,g∈F3 r)
 have hP3:∀ r g,g∈F3 r->¬ Pb' g:=fun r g hg c=>by
  rcases hf.TM g c with h | h;exact(Pz.free r g hg).1 (Pz.sub g h);exact h (.inr ⟨r,hg⟩)
 have Yv:∀ g,Pb' g->K2 g:=fun g hg=>by
  rcases hf.TM g hg with h | h;exact .inl (Pz.sub g h);exact .inr ⟨hf.sub g hg,fun⟨r,c⟩=>h (.inr ⟨r,c⟩)⟩
 have QT:∀ r g,g∈F' r->(¬ K2 g/\g<w'.heap.size)/\∀ r',g ∉ F3 r':=fun r g hg=>by
  have h:=hf.free r g hg;refine⟨⟨fun c=>?_,h.2⟩,fun r' c=>h.1 (hf.mK g (.inr ⟨r',c⟩))⟩;rcases c with c | c;exact h.1 (hf.mK g (.inl c));exact h.1 c.1
 let F4:m4->List Nat:=fun r=>match r with
  | .slot i=>F3 (.slot i)
  | .key q=>match lk q (Rq ks) with
    | some k=>if lk k H'=none then [] else F' (.key k)
    | none=>F3 (.key q)
 have Zw:∀ r g,g∈F4 r->g∈F3 r\/∃ q k,r=.key q/\lk q (Rq ks)=some k/\g∈F' (.key k):=fun r g hg=>by
  cases r with
  | slot i=>exact .inl hg
  | key q=>
    simp only[F4]at hg;split at hg;rename_i k hk;split at hg;simp at hg;exact .inr ⟨q,k,rfl,hk,hg⟩;exact .inl hg
 have hs4:w3 N Pb' K2 (B.back ks H') a w' F4:=by
  refine⟨Pz.size,Pz.defers,fun i=>?_,fun q g v hq=>?_,fun r r' hne g hg c=>?_,fun r=>?_,fun r g hg=>?_,Yv,fun g hg=>?_⟩;exact mN _ (Pz.slot i) (fun g hg=>hf.fc.block g (.inl (Pz.sub g hg))) (fun g hg=>hf.fc.block g (.inr ⟨.slot i,hg⟩)) hf.mP (fun g hg=>hP3 (.slot i) g hg);simp only[AS.back,lr,px Qk]at hq;cases Yu:lk q (Rq ks) with
  | some k=>
    rw[Yu]at hq;simp only[Option.bind_some]at hq;cases Zn:lk k H' with
    | some gv=>
      rw[Zn]at hq;simp only[Option.map_some,Zan,Zaq]at hq;obtain⟨g0,v0⟩:=gv;obtain⟨rfl,rfl⟩:=hq;obtain⟨F1,e1,cs,cells,hb,hr,M6⟩:=hf.root k g0 v0 Zn;exact⟨F1,by simp only[F4,Yu];rw[if_neg (by rw[Zn];simp)];exact e1,cs,cells,hb,Ik _ _ hr,M6⟩
    | none=>
      rw[Zn]at hq;simp only[Option.map_none]at hq;rw[iF,Yu]at hq;simp at hq
  | none=>
    rw[Yu]at hq;simp only[Option.bind_none]at hq;obtain⟨F1,e1,hA⟩:=Pz.root q g v hq;refine⟨F1,by simp only[F4,Yu];exact e1,?_⟩;obtain⟨cs,cells,⟨el,fr,hb,hfr⟩,hr,M6⟩:=hA;have hin:∀ y,y∈g::F1->w'.heap[y]? =w.heap[y]? :=fun y hy=>hf.fc.block y (.inr ⟨.key q,by rw[e1];exact hy⟩);exact⟨cs,cells,⟨el,fr,(hin g Zad).trans hb,hfr⟩,gF _ hr (fun y hy=>hf.fc.block y (.inl (Pz.sub y hy))) (fun y hy=>hin y (by simp[hy])) hf.mP (fun y hy=>hP3 (.key q) y (by rw[e1];simp[hy])),M6⟩
  rcases Zw r g hg with h | ⟨q,k,e1,h1,h2⟩ <;> rcases Zw r' g c with h' | ⟨q',k',e2,UT,Zx⟩;exact Pz.cm r r' hne g h h';exact(QT _ g Zx).2 r h;exact(QT _ g h2).2 r' h';have Xa:k=k':=Classical.byContradiction fun Xa=>hf.cm (.key k) (.key k') (fun e=>Xa (by cases e;rfl)) g h2 Zx;subst Xa;have e3:=(oY S1 Qk).2 h1;rw[(oY S1 Qk).2 UT]at e3;cases e3;exact hne (by rw[e1,e2]);cases r with
  | slot i=>exact Pz.nodup (.slot i)
  | key q=>
    simp only[F4];split;split;exact Zba;exact hf.nodup _;exact Pz.nodup (.key q)
  rcases Zw r g hg with h | ⟨q,k,_,_,h2⟩;have h3:=Pz.free r g h;refine⟨fun c=>?_,Nat.lt_of_lt_of_le h3.2 hf.fc.size⟩;rcases c with c | c;exact h3.1 c;exact c.2 ⟨r,h⟩;exact(QT _ g h2).1;rcases hg with h | h;exact Nat.lt_of_lt_of_le (Pz.bound g h) hf.fc.size;exact hf.bound g h.1
 have Ui:∀ A' a' F5,K A'->w3 N Pb' K2 A' a' w' F5->Nx N Pb Kb w K a' w':=fun A' a' F5 hk WX=>
  ⟨A',Pb',K2,F5,hk,WX,hf.mP,fun g hg=>.inl hg,fun g hg=>by
   rcases hf.TM g hg with h | h;exact .inl h;exact .inr fun c=>h (.inl c),S0⟩
 cases Pf:o.dst with
 | none=>exact Ui _ _ F4 (hK r H' hq) (by rw[Pf];exact hs4)
 | some d=>
   rw[Pf]at hd;refine Ui _ _ (ck F4 (.slot d) (F' (.slot 0))) (hK r H' hq) ?_;rw[Pf];refine hs4.put hd (LQ _ hf.val) (fun rt _ g hg c=>?_) (hf.nodup _) (fun g hg=>(QT _ g hg).1);rcases Zw rt g c with h | ⟨q,k,_,_,h2⟩;exact(QT _ g hg).2 rt h;exact hf.cm (.slot 0) (.key k) Zad g hg h2
end
section
variable {w w':World} {Pb Kb Pb':Nat->Prop} {N:Nat} {A A' A1 B:AS} {a:Act} {F:m4->List Nat} {P:Program} {ops:Array Oper}
theorem tZ:∀ (vs:List V) {cs F} {j:Nat} {x:V},RL w Pb vs cs F->vs[j]? =some x->∃ cj Fj,R w Pb x cj Fj/\(∀ i u,cj[i]? =some u->cs[V.ns (vs.take j)+i]? =some u)/\
 ∀ x',R w Pb x' cj Fj->RL w Pb (vs.set j x') cs F
 | [],_,_,_,_,_,h=>by simp at h
 | v::vs,cs,F,0,x,h,hj=>by
   obtain⟨c1,c2,F1,F2,rfl,rfl,h1,h2⟩:=h;simp at hj;subst hj;exact⟨c1,F1,h1,fun i u hu=>by simp only[List.take_zero,V.ns,Zaw];rw[Za9 (Za3.1 hu).1];exact hu,fun x' hx=>⟨c1,c2,F1,F2,rfl,rfl,hx,h2⟩⟩
 | v::vs,cs,F,j+1,x,h,hj=>by
   obtain⟨c1,c2,F1,F2,rfl,rfl,h1,h2⟩:=h;obtain⟨cj,Fj,k1,k2,k3⟩:=tZ vs h2 Zbp;refine⟨cj,Fj,k1,fun i u hu=>?_,fun x' hx=>⟨c1,c2,F1,F2,rfl,rfl,h1,k3 x' hx⟩⟩;have:=k2 i u hu;simp only[List.take_succ_cons,V.ns];rw[<- eH v h1,Zbj,Za4 Zac];rw[show c1.length+(V.ns (vs.take j)+i)-c1.length=V.ns (vs.take j)+i from Zac];exact this
theorem sx:∀ (p:List Nat) {v u:V} {g o g' o':Nat} {cs:List Value} {F:List Nat},R w Pb v cs F->V.at g o v p=some (g',o',u)->
 ∃ cu Fu,R w Pb u cu Fu/\∀ u',u'.n=u.n->R w Pb u' cu Fu->R w Pb (v.set p u') cs F/\(v.set p u').n=v.n
 | [],v,u,g,o,g',o',cs,F,h,e=>by
   simp only[V.at,Zan,Zaq]at e;obtain⟨rfl,rfl,rfl⟩:=e;exact⟨cs,F,h,fun u' hn hu=>⟨hu,hn⟩⟩
 | j::p,v,u,g,o,g',o',cs,F,h,e=>by
   simp only[V.at]at e;split at e;rename_i vs;split at e;rename_i x hx;simp only[R]at h;obtain⟨cj,Fj,k1,k2,k3⟩:=tZ vs h hx;obtain⟨cu,Fu,m1,m2⟩:=sx p k1 e;refine⟨cu,Fu,m1,fun u' hn hu=>?_⟩;obtain⟨q1,q2⟩:=m2 u' hn hu;have h3:=k3 _ q1;refine⟨by simp only[V.set,hx,R];exact h3,?_⟩;simp only[V.set,hx,V.n];rw[<- jj _ h3,<- jj _ h];simp at e;rename_i sz xs g1 o1 c1;split at e;rename_i x hx;rcases h with ⟨_,rfl,_⟩ | ⟨h1,h2,h3,h4,h5,h6,flat,F',cells,h7,hr,hb,hsz,hc⟩;simp at hx;obtain⟨cj,Fj,k1,k2,k3⟩:=tZ xs hr hx;obtain⟨cu,Fu,m1,m2⟩:=sx p k1 e;refine⟨cu,Fu,m1,fun u' hn hu=>?_⟩;obtain⟨q1,q2⟩:=m2 u' hn hu;refine⟨?_,by simp only[V.set,hx];rfl⟩;simp only[V.set,hx];refine .inr ⟨h1,h2,by simpa using h3,by simpa using h4,fun y hy=>?_,h6,flat,F',cells,h7,k3 _ q1,hb,hsz,hc⟩;rcases List.mem_or_eq_of_mem_set hy with h | h;exact h5 y h;rw[h,q2];exact h5 x (Za7 hx);simp at e;simp at e
theorem w3.sA(hs:w3 N Pb Kb A a w F){r:m4}{p:List Nat}{g o:Nat}{u:V}(A8:A.at r p=some (g,o,u)):
 ∃ cu Fu,R w Pb u cu Fu/\∀ u',u'.n=u.n->R w Pb u' cu Fu->w3 N Pb Kb (A.setAt r p u') a w F:=by
 cases r with
 | key k=>
   simp only[AS.at]at A8;split at A8;rename_i g0 t hk;obtain⟨F0,hF,cs,cells,hb,hr,hc⟩:=hs.root k g0 t hk;obtain⟨cu,Fu,h1,h2⟩:=sx p hr A8;refine⟨cu,Fu,h1,fun u' hn hu=>⟨hs.size,hs.defers,fun i=>?_,fun k' g1 v1 Rv=>?_,hs.cm,hs.nodup,hs.free,hs.sub,hs.bound⟩⟩;have:(A.setAt (.key k) p u').get i=A.get i:=by simp only[AS.setAt,hk];rfl
   rw[this];exact hs.slot i;simp only[AS.setAt,hk,lk]at Rv;split at Rv;rename_i e;subst e;simp only[Zan,Zaq]at Rv;obtain⟨rfl,rfl⟩:=Rv;exact⟨F0,hF,cs,cells,hb,(h2 u' hn hu).1,hc⟩;exact hs.root k' g1 v1 Rv;simp at A8
 | slot i=>
   simp only[AS.at]at A8;split at A8;rename_i sz xs g0 o0 c0 j p' hg;have hr:=hs.slot i;rw[hg]at hr;have hr:R w Pb (.own sz xs g0 o0 c0) [a.tmps.getD i undef] (F (.slot i)):=hr;obtain⟨cu,Fu,h1,h2⟩:=sx (j::p') hr A8;refine⟨cu,Fu,h1,fun u' hn hu=>⟨hs.size,hs.defers,fun t=>?_,hs.root,hs.cm,hs.nodup,hs.free,hs.sub,hs.bound⟩⟩;by_cases e:t=i;subst e;simp only[AS.setAt,AS.get,lk,if_true,Option.getD_some];have h3:=(h2 u' hn hu).1;have e2:(A.get t).set (j::p') u'=(V.own sz xs g0 o0 c0).set (j::p') u':=by rw[hg]
   have e3:∃ ys,(V.own sz xs g0 o0 c0).set (j::p') u'=.own sz ys g0 o0 c0:=by
    simp only[V.set];split;exact⟨_,rfl⟩;exact⟨_,rfl⟩
   obtain⟨ys,e3⟩:=e3;show RV w Pb ((A.get t).set (j::p') u') _ _;rw[e2,e3];rw[e3]at h3;exact h3;simp only[AS.setAt,AS.get,lk];rw[if_neg e];exact hs.slot t;simp at A8
theorem KC{K:AS->Prop}(t sz:Nat)(ht:t<N)(hg:A.get t=.sl true [])(h:K (A.put (some t) (.own sz [] 0 0 0))):Hx N A K:=
 Hx.simple h fun Pb Kb a w F hs=>by
  have hr:=hs.slot t;rw[hg]at hr;obtain⟨hF,B,cc,hv,_,R8,_⟩:=hr;have Sb:cc=0:=R8 rfl;subst Sb;exact⟨_,hs.Ag ht (.inl ⟨rfl,rfl,hF,B,hv⟩)⟩
theorem zx{K:AS->Prop}{r:m4}{p:List Nat}{g o sz:Nat}(A8:A.at r p=some (g,o,.sl true []))(h:K (A.setAt r p (.own sz [] 0 0 0))):Hx N A K:=
 Hx.simple h fun Pb Kb a w F hs=>by
  obtain⟨cu,Fu,hr,hk⟩:=hs.sA A8;obtain⟨hF,B,cc,hv,_,R8,_⟩:=hr;have Sb:cc=0:=R8 rfl;subst Sb;exact⟨_,hk (.own sz [] 0 0 0) rfl (.inl ⟨rfl,rfl,hF,B,hv⟩)⟩
theorem Bz{K:AS->Prop}{t sz:Nat}{xs:List V}(ht:t<N)(hg:A.get t=.ow sz xs)(h:∀ g o c,K (A.put (some t) (.own sz xs g o c))):Hx N A K:=fun Pb Kb a w F hs=>by
 have hr:=hs.slot t;rw[hg]at hr;have hr:R w Pb (.ow sz xs) [a.tmps.getD t undef] (F (.slot t)):=hr;obtain⟨g,o,c,hr⟩:=GA.1 hr;exact⟨_,Pb,Kb,_,h g o c,hs.Ag ht hr,fun _ h=>h,fun _ h=>h,fun _ h=>.inl h⟩
theorem qx{K:AS->Prop}{r:m4}{p:List Nat}{g o sz:Nat}{xs:List V}(A8:A.at r p=some (g,o,.ow sz xs))(h:∀ g o c,K (A.setAt r p (.own sz xs g o c))):Hx N A K:=fun Pb Kb a w F hs=>by
 obtain⟨cu,Fu,h1,h2⟩:=hs.sA A8;obtain⟨g,o,c,hr⟩:=GA.1 h1;exact⟨_,Pb,Kb,_,h g o c,h2 _ rfl hr,fun _ h=>h,fun _ h=>h,fun _ h=>.inl h⟩
theorem Ep{K:AS->Prop}{r:m4}{p:List Nat}{g o:Nat}{u:V}(u':V)(A8:A.at r p=some (g,o,u))(hn:(wk u u').n=u.n)(h:K (A.setAt r p (wk u u'))):Hx N A K:=fun Pb Kb a w F hs=>by
 obtain⟨cu,Fu,h1,h2⟩:=hs.sA A8;exact⟨_,Pb,Kb,_,h,h2 _ hn (pL u u' h1),fun _ h=>h,fun _ h=>h,fun _ h=>.inl h⟩
theorem MS{K:AS->Prop}{t:Nat}(u:V)(ht:t<N)(h:K (A.put (some t) (wk (A.get t) u))):Hx N A K:=
 Hx.simple h fun _ _ _ _ _ hs=>⟨_,hs.Ag ht (yC u (hs.slot t))⟩
theorem Hn{K:AS->Prop} {t i sz n g o c:Nat} {xs:List V} (ht:t<N) (hi:i<N) (V2:t≠i) (h1:A.get t=.hd (.slot i) [] sz g o 0 n c) (h2:A.get i=.own sz xs g o c) (hn:n=xs.length)
 (h:K ((A.put (some i) .c9).put (some t) (.own sz xs g o c))):Hx N A K:=
 Hx.simple h fun _ _ _ _ _ hs=>hs.fX ht hi V2 h1 h2 hn
theorem FG{K:AS->Prop}{t:Nat}(ht:t<N)(ho:(A.get t).df=true)(h:K (A.put (some t) (A.get t).er)):Hx N A K:=fun Pb Kb a w F hs=>by
 obtain⟨Pb',E7,F',h1,h2,h3,h4⟩:=hs.freeze ho ht;exact⟨_,Pb',E7,F',h,h1,h2,h3,h4⟩
theorem w3.eqv(hs:w3 N Pb Kb A a w F)(h:E1 A B):w3 N Pb Kb B a w F:=
 ⟨hs.size,hs.defers,fun i=>by rw[<- h.1 i];exact hs.slot i,fun k g v hk=>hs.root k g v (by rw[h.2 k];exact hk),hs.cm,hs.nodup,hs.free,hs.sub,hs.bound⟩
theorem KR{K:AS->Prop}{t:Nat}(v:V)(e:A.get t=v)(h:K (A.put (some t) v)):Hx N A K:=
 Hx.simple h fun _ _ _ _ _ hs=>⟨_,hs.eqv ⟨fun i=>by
  rw[AS.aC];split;rename_i h;rw[h,e];rfl,fun _=>rfl⟩⟩
theorem KX{K:AS->Prop}{k g:Nat}(v:V)(e:lk k A.h=some (g,v))(h:K ⟨A.t,(k,(g,v))::A.h⟩):Hx N A K:=
 Hx.simple h fun _ _ _ _ _ hs=>⟨_,hs.eqv ⟨fun _=>rfl,fun i=>by
  simp only[lk];split;rename_i h;rw[h,e];rfl⟩⟩
theorem NN{K:AS->Prop}{k k' g:Nat}{v:V}(e:lk k A.h=some (g,v))(hn:lk k' A.h=none)(h:K ⟨A.t,(k',(g,v))::A.h.filter fun p=>p.1 != k⟩):Hx N A K:=
 Hx.simple h fun Pb Kb a w F hs=>by
  have hne:k'≠k:=fun c=>by rw[c,e]at hn;cases hn
  have hf:∀ (l:List (Nat×(Nat×V))) q,lk q (l.filter fun p=>p.1 != k)=if q=k then none else lk q l:=by
   intro l;induction l with
   | nil=>intro q;simp[lk]
   | cons x l ih=>
     intro q;obtain⟨i,u⟩:=x;simp only[List.filter_cons];by_cases hi:i=k;subst hi;simp only[bne_self_eq_false,Bool.false_eq_true,if_false,ih q,lk];by_cases c:q=i;rw[if_pos c,if_pos c];rw[if_neg c,if_neg c,if_neg c];rw[if_pos Zbn];simp only[lk,ih q];by_cases c:q=i;subst c;rw[if_pos rfl,if_pos rfl,if_neg hi];rw[if_neg c,if_neg c]
  let σ:m4->m4:=fun r=>if r=.key k' then .key k else if r=.key k then .key k' else r
  have hσ:∀ r r',σ r=σ r'->r=r':=fun r r' h=>by
   simp only[σ]at h;repeat' split at h
   all_goals simp_all
  refine⟨fun r=>if r=.key k then [] else F (σ r),hs.size,hs.defers,fun i=>?_,fun q g0 v0 hq=>?_,fun r r' hne' y hy=>?_,fun r=>?_,fun r y hy=>?_,hs.sub,hs.bound⟩;have:F (σ (.slot i))=F (.slot i):=by simp[σ]
  simp only[reduceCtorEq,if_false,this];exact hs.slot i;simp only[lk,hf]at hq;split at hq;rename_i c;subst c;simp only[Zan,Zaq]at hq;obtain⟨rfl,rfl⟩:=hq;obtain⟨F',h1,h2⟩:=hs.root k g v e;refine⟨F',?_,h2⟩;rw[if_neg (by simpa using hne)];simp only[σ,if_true];exact h1;rename_i c;split at hq;simp at hq;rename_i c2;obtain⟨F',h1,h2⟩:=hs.root q g0 v0 hq;refine⟨F',?_,h2⟩;rw[if_neg (by simpa using c2)];have:σ (.key q)=.key q:=by simp only[σ];rw[if_neg (by simpa using c),if_neg (by simpa using c2)]
  rw[this];exact h1;split at hy;simp at hy;split;simp;exact hs.cm _ _ (fun c=>hne' (hσ _ _ c)) y hy;split;exact Zba;exact hs.nodup _;split at hy;simp at hy;exact hs.free _ y hy
theorem Jh{K:AS->Prop}(h1:TO A B.t)(h2:Tc A B.h)(h:K B):Hx N A K:=Hx.simple h fun _ _ _ _ _ hs=>hs.leW h1 h2
theorem Dp{o:Oper}{K:AS->Prop}{x:Operand}(ho:o.op=.move x)(hd:cI N o.dst)(hK:K ((A.drop x).put o.dst (A.ev x))):F9 P N o A K:=by
 intro Pb Kb a w F Q hs;obtain⟨Fx,F',hr,B0,hnd,w8,hfr,_⟩:=hs.take x;unfold Oper.wp;have:(execOp a.eval o).run P w=.ok (.value (a.eval x)) w:=by simp only[execOp,ho];rfl
 rw[this,Oper.upon_value];cases Pf:o.dst with
 | none=>exact⟨_,Pb,Kb,F',hK,by rw[Pf];exact B0,fun _ h=>h,fun _ h=>h,fun _ h=>.inl h,A4.refl _ _⟩
 | some d=>
   rw[Pf]at hd hK;exact⟨_,Pb,Kb,_,hK,B0.put hd hr (fun r _ g hg=>w8 r g hg) hnd hfr,fun _ h=>h,fun _ h=>h,fun _ h=>.inl h,A4.refl _ _⟩
theorem vT{o:Oper} {K:AS->Prop} {d T:Nat} {x:Operand} {r:m4} {p:List Nat} {g g':Nat} {i:TI} {u:V} (ho:o.op=.load T x) (hd:o.dst=some d) (hN:d<N) (hi:ti P T=some i)
 (hx:A.ev x=.ptr r p g g') (A8:A.at r p=some (g,g',u)) (hn:u.n=i.sz) (ha:i.d.agg=u.isAgg) (hK:K ((A.setAt r p u.kill).put (some d) u)):F9 P N o A K:=by
 intro Pb Kb a w F Q hs;obtain⟨_,V8⟩:=dS hs x;rw[hx]at V8;have hp:a.eval x=.pointer (some ⟨g,g',none⟩):=by have:=V8.2;simpa using this
 obtain⟨Fr,Fu,B0,⟨cs,cells,hb,N7,hc⟩,hnd,w8,hfr⟩:=hs.split A8;obtain⟨y,hy,F7⟩:=mH (w:=w) hi N7 hn ha (g:=g) (o:=g') (fun j u hu=>by rw[eg hb];exact hc j u hu);unfold Oper.wp;have:(execOp a.eval o).run P w=.ok (.value y) w:=by
  simp only[execOp,ho,Instr.loadAt,hp,Instr.sureAddr,Za0,Za1,Zas,hy]
 rw[this,Oper.upon_value,hd];exact⟨_,Pb,Kb,_,hK,B0.put hN F7 (fun r _ g hg=>w8 r g hg) hnd hfr,fun _ h=>h,fun _ h=>h,fun _ h=>.inl h,A4.refl _ _⟩
def WB(A:AS)(s:Operand)(sz:Nat):Option (Prop×AS×List V):=
 match s with
 | .const (.slice none 0 0)=>some (True,A,[])
 | .tmp t=>match A.get t with
   | .sl true []=>some (True,A,[])
   | .own M0 xs _ _ _=>some (M0=sz,A.put (some t) .c9,xs)
   | .hd (.slot i) [] M0 g o 0 n c=>match A.get i with
     | .own PZ xs g2 o2 c2=>some ((M0,PZ,g2,o2,c2,n)=(sz,sz,g,o,c,xs.length),A.put (some i) .c9,xs)
     | _=>none
   | .hd (.key k) p M0 g o 0 n c=>match A.at (.key k) p with
     | some (_,_,.own PZ xs g2 o2 c2)=>some ((M0,PZ,g2,o2,c2,n)=(sz,sz,g,o,c,xs.length),A.setAt (.key k) p .c9,xs)
     | _=>none
   | _=>none
 | _=>none
theorem Ga{s:Operand}{sz:Nat}{C:Prop}{xs:List V}(h:WB A s sz=some (C,A1,xs))(hC:C)(hs:w3 N Pb Kb A a w F):
 ∃ Fx F' g o c,w3 N Pb Kb A1 a w F'/\R w Pb (.own sz xs g o c) [a.eval s] Fx/\Fx.Nodup/\(∀ r g,g∈Fx->g ∉ F' r)/\(∀ g,g∈Fx->¬ Kb g/\g<w.heap.size):=by
 have Vz:∀ {t:Nat} {r:m4} {p:List Nat} {sz g o n c:Nat} {xs:List V} {cs:List Value} {Fx:List Nat},A.get t=.hd r p sz g o 0 n c->n=xs.length->R w Pb (.own sz xs g o c) cs Fx->R w Pb (.own sz xs g o c) [a.eval (.tmp t)] Fx:=by
  intro t r p sz g o n c xs cs Fx hg hn hr;subst hn;have hh:=hs.slot t;rw[hg]at hh;obtain⟨_,hle,B,hv,hB⟩:=hh;have hv:a.eval (.tmp t)=.slice B xs.length c:=(List.cons.inj hv).1;rw[hv];rcases hr with ⟨rfl,rfl,rfl,A0,_⟩ | ⟨h1,h2,h3,h4,h5⟩;exact .inl ⟨rfl,rfl,rfl,B,rfl⟩;have:=hB h1;rw[Nat.zero_mul,Nat.add_zero]at this;subst this;exact .inr ⟨h1,h2,h3,rfl,h5⟩
 unfold WB at h;split at h;simp only[Zan,Zaq]at h;obtain⟨_,rfl,rfl⟩:=h;exact⟨[],F,0,0,0,hs,.inl ⟨rfl,rfl,rfl,none,rfl⟩,Zba,Zad,Zad⟩
 · rename_i t;split at h;rename_i hg;simp only[Zan,Zaq]at h;obtain⟨_,rfl,rfl⟩:=h;have Qi:=hs.slot t;rw[hg]at Qi;obtain⟨_,B,c,hv,_,R8,_⟩:=Qi;have Sb:c=0:=R8 rfl;subst Sb;exact⟨[],F,0,0,0,hs,.inl ⟨rfl,rfl,rfl,B,hv⟩,Zba,Zad,Zad⟩;rename_i M0 xs' g o c hg;simp only[Zan,Zaq]at h;obtain⟨rfl,rfl,rfl⟩:=h;subst hC;obtain⟨Fx,F',hr,B0,hnd,w8,hfr,_⟩:=hs.take (.tmp t);rw[pK hg]at B0;have hr:RV w Pb (A.get t) (a.eval (.tmp t)) Fx:=hr;rw[hg]at hr;exact⟨Fx,F',g,o,c,B0,hr,hnd,w8,hfr⟩
   · rename_i i M0 g o n c hg;split at h
     case h_2=>simp at h
     rename_i PZ xs' g2 o2 c2 hi;simp only[Zan,Zaq]at h;obtain⟨rfl,rfl,rfl⟩:=h;obtain⟨rfl,rfl,rfl,rfl,rfl,hn⟩:=hC;obtain⟨Fx,F',hr,B0,hnd,w8,hfr,_⟩:=hs.take (.tmp i);rw[pK hi]at B0;have hr:RV w Pb (A.get i) (a.eval (.tmp i)) Fx:=hr;rw[hi]at hr;exact⟨Fx,F',_,_,_,B0,Vz hg hn (cs:=[a.eval (.tmp i)]) hr,hnd,w8,hfr⟩
   · rename_i k p M0 g o n c hg;split at h
     case h_2=>simp at h
     rename_i g0 o0 PZ xs' g2 o2 c2 A8;simp only[Zan,Zaq]at h;obtain⟨rfl,rfl,rfl⟩:=h;obtain⟨rfl,rfl,rfl,rfl,rfl,hn⟩:=hC;obtain⟨Fr,Fu,B0,⟨cs,cells,hb,N7,hc⟩,hnd,w8,hfr⟩:=hs.split A8;exact⟨Fu,_,_,_,_,B0,Vz hg hn N7,hnd,w8,hfr⟩
   simp at h
 simp at h
theorem wW{o:Oper} {K:AS->Prop} {d T T2 e e2:Nat} {s x:Operand} {t:TI} {C Cx:Prop} {xs ys:List V} (ho:o.op=.call { callee:=.builtin .append,args:= #[s,x],argTypes:= #[T,T2] }) (TZ:o.type=T)
 (hd:o.dst=some d) (hN:d<N) (hT:tD P T=some (.sl e)) (Uq:tD P T2=some (.sl e2)) (ht:ti P e=some t) (hz:∃ inf z,P.info? e=some inf/\inf.zero=some z/\z.cells.size=t.sz) (hsz:0<t.sz) (US:0<t.O0)
 (hb:WB A s t.sz=some (C,A1,xs)) (hC:C) (hx:QP A x=some (Cx,ys)) (YX:Cx) (W3:V.ax ys=false) (Ur:aR t.sz ys)
 (hbig:(xs.length+ys.length)*t.O0<=140737488355328)
 (hK:∀ g o c,K (A1.put (some d) (.own t.sz (xs++ys) g o c))):F9 P N o A K:=by
 intro Pb Kb a w F Q hs;obtain⟨B2,c2,D9,Rf,Ps,R9,hl2⟩:=mY (P:=P) hs hx YX Ur W3;obtain⟨Fx,F',g0,o0,c0,B0,hr,hnd,w8,hfr⟩:=Ga hb hC hs;obtain⟨v,w',F2,g',o',c',B6,M4,Ps,L6,Sa,Ug,Qk⟩:=sZ hT Uq ht hz hsz US B0 hr w8 hfr (Fy:=[]) (by simpa using hnd) Zad Zad Rf Ps R9 hl2 Ur hbig;have P1:(execOp a.eval o).run P w=.ok (.value v) w':=by
  simp only[execOp,ho,resolve,invoke,builtin,Za0,Za1,Zas,TZ];have e:(#[s,x].map a.eval)= #[a.eval s,a.eval x]:=Zad;rw[e,B6];rfl
 unfold Oper.wp;rw[P1,Oper.upon_value,hd];exact⟨_,Pb,Kb,_,hK g' o' c',M4.put hN Ps (fun r _ g hg=>Sa r g hg) L6 Ug,fun _ h=>h,fun _ h=>h,fun _ h=>.inl h,Qk⟩
def Xq(A:AS)(s:Operand)(sz:Nat):Option (Prop×List V):=
 match s with
 | .tmp t=>match A.get t with
   | .sl true (x::xs)=>some (aR sz (x::xs),x::xs)
   | _=>none
 | _=>none
theorem zU{o:Oper} {K:AS->Prop} {d T T2 e e2:Nat} {s x:Operand} {t:TI} {C Cx:Prop} {xs ys:List V} (ho:o.op=.call { callee:=.builtin .append,args:= #[s,x],argTypes:= #[T,T2] }) (TZ:o.type=T)
 (hd:o.dst=some d) (hN:d<N) (hT:tD P T=some (.sl e)) (Uq:tD P T2=some (.sl e2)) (ht:ti P e=some t) (hz:∃ inf z,P.info? e=some inf/\inf.zero=some z/\z.cells.size=t.sz) (hsz:0<t.sz) (US:0<t.O0)
 (hb:Xq A s t.sz=some (C,xs)) (hC:C) (SU:0<ys.length) (hx:QP A x=some (Cx,ys)) (YX:Cx) (W3:V.ax ys=false) (Ur:aR t.sz ys)
 (hbig:(xs.length+ys.length)*t.O0<=140737488355328)
 (hK:∀ g o c,K (A.put (some d) (.own t.sz (xs++ys) g o c))):F9 P N o A K:=by
 intro Pb Kb a w F Q hs;obtain⟨B2,c2,D9,Rf,Ps,R9,hl2⟩:=mY (P:=P) hs hx YX Ur W3;have hr:R w Pb (.sl true xs) [a.eval s] []/\aR t.sz xs:=by
  unfold Xq at hb;split at hb;rename_i q;split at hb;rename_i x' xs' hg;simp only[Zan,Zaq]at hb;obtain⟨rfl,rfl⟩:=hb;have Qi:=hs.slot q;rw[hg]at Qi;have hF:F (.slot q)=[]:=Qi.1;rw[hF]at Qi;exact⟨Qi,hC⟩;simp at hb;simp at hb
 obtain⟨v,w',F2,g',o',c',B6,M4,Ps,L6,Sa,Ug,Qk⟩:=Ba hT Uq ht hz hsz US hs hr.1 hr.2 SU Rf Ps R9 hl2 Ur hbig;have P1:(execOp a.eval o).run P w=.ok (.value v) w':=by
  simp only[execOp,ho,resolve,invoke,builtin,Za0,Za1,Zas,TZ];have e:(#[s,x].map a.eval)= #[a.eval s,a.eval x]:=Zad;rw[e,B6];rfl
 unfold Oper.wp;rw[P1,Oper.upon_value,hd];exact⟨_,Pb,Kb,_,hK g' o' c',M4.put hN Ps (fun r _ g hg=>Sa r g hg) L6 Ug,fun _ h=>h,fun _ h=>h,fun _ h=>.inl h,Qk⟩
end
mutual
def V.plain:V->Bool
 | .lit _=>true
 | .agg vs=>V.mX vs
 | .tup vs=>V.mX vs
 | _=>false
def V.mX:List V->Bool
 | []=>true
 | v::vs=>v.plain&&V.mX vs
end
def qi(A:AS):List Operand->Prop×List V
 | []=>(True,[])
 | x::xs=>match qi A xs with
   | (C,vs)=>match A.ev x with
     | .hd .. =>match QP A x with
       | some (Cx,ys)=>(Cx/\C,.sl false ys::vs)
       | none=>(C,A.cp x::vs)
     | _=>(C,A.cp x::vs)
section
variable {w w':World} {Pb Kb Pb':Nat->Prop} {N:Nat} {A A' B:AS} {a:Act} {F:m4->List Nat} {P:Program} {ops:Array Oper}
mutual
theorem wy:∀ (v:V) {cs F},v.plain=true->R w Pb v cs F->R w' Pb' v cs []/\F=[]
 | .lit x,cs,F,_,h=>⟨⟨h.1,h.2.1,rfl⟩,h.2.2⟩
 | .agg vs,cs,F,hp,h=>by simp only[R]at h ⊢;simp only[V.plain]at hp;exact qu vs hp h
 | .tup _,_,_,_,h=>by simp[R]at h
 | .gv _ _,_,_,hp,_=>by simp[V.plain]at hp
 | .sl ..,_,_,hp,_=>by simp[V.plain]at hp
 | .own ..,_,_,hp,_=>by simp[V.plain]at hp
 | .ow ..,_,_,hp,_=>by simp[V.plain]at hp
 | .om ..,_,_,hp,_=>by simp[V.plain]at hp
 | .mp ..,_,_,hp,_=>by simp[V.plain]at hp
 | .hd ..,_,_,hp,_=>by simp[V.plain]at hp
 | .ptr ..,_,_,hp,_=>by simp[V.plain]at hp
 | .ep _,_,_,hp,_=>by simp[V.plain]at hp
 | .c9,_,_,hp,_=>by simp[V.plain]at hp
theorem qu:∀ (vs:List V) {cs F},V.mX vs=true->RL w Pb vs cs F->RL w' Pb' vs cs []/\F=[]
 | [],cs,F,_,h=>⟨⟨h.1,rfl⟩,h.2⟩
 | v::vs,cs,F,hp,h=>by
   simp only[V.mX,Zao]at hp;obtain⟨c1,c2,F1,F2,h1,h2,h3,h4⟩:=h;have k1:=wy v hp.1 h3;have k2:=qu vs hp.2 h4;exact⟨⟨c1,c2,[],[],h1,rfl,k1.1,k2.1⟩,by rw[h2,k1.2,k2.2];rfl⟩
end
theorem xK:∀ (vs:List V) {xs F},V.mX vs=true->RVs w Pb vs xs F->RVs w' Pb' vs xs []/\F=[]
 | [],xs,F,_,h=>⟨⟨h.1,rfl⟩,h.2⟩
 | v::vs,xs,F,hp,h=>by
   simp only[V.mX,Zao]at hp;obtain⟨x,xs',F1,F2,h1,h2,h3,h4⟩:=h;have k2:=xK vs hp.2 h4;subst h1 h2;cases v with
   | agg us=>
     obtain⟨cs,e,h3⟩:=h3;have k1:=qu (w':=w') (Pb':=Pb') us (by simpa[V.plain] using hp.1) h3;exact⟨⟨x,xs',[],[],rfl,rfl,⟨cs,e,k1.1⟩,k2.1⟩,by rw[k1.2,k2.2];rfl⟩
   | lit y=>have k1:=wy (w':=w') (Pb':=Pb') (.lit y) hp.1 h3;exact⟨⟨x,xs',[],[],rfl,rfl,k1.1,k2.1⟩,by rw[k1.2,k2.2];rfl⟩
   | tup us=>exact absurd h3 (by simp[R])
   | _=>simp[V.plain]at hp
theorem HW(v:V){x F}(hp:v.plain=true)(h:RV w Pb v x F):RV w' Pb' v x []/\F=[]:=by
 cases v with
 | tup vs=>obtain⟨xs,e,h⟩:=h;have:=xK (w':=w') (Pb':=Pb') vs (by simpa[V.plain] using hp) h;exact⟨⟨xs,e,this.1⟩,this.2⟩
 | agg us=>obtain⟨cs,e,h⟩:=h;have:=qu (w':=w') (Pb':=Pb') us (by simpa[V.plain] using hp) h;exact⟨⟨cs,e,this.1⟩,this.2⟩
 | lit y=>exact wy (w:=w) (Pb:=Pb) (w':=w') (Pb':=Pb') (.lit y) hp h
 | _=>simp[V.plain]at hp
theorem NI{Fo:List Nat} {PZ g2 o2 c2 lo n c:Nat} {xs:List V} {Vo:List Value} (hr:R w Pb (.own PZ xs g2 o2 c2) Vo Fo) (hle:n<=c) {B:Option Addr} (hB:0<c->B=some ⟨g2,o2+lo*PZ,none⟩) (hn:lo+n<=xs.length) (ho:V.ax xs=false)
 (k1:∀ g,Pb g->Pb' g) (k2:∀ g,g<w.heap.size->Pb' g):R w Pb' (.sl false ((xs.drop lo).take n)) [.slice B n c] []:=by
 have hlen:((xs.drop lo).take n).length=n:=Zal;refine⟨rfl,B,c,by rw[hlen],by rw[hlen];exact hle,Zad,?_⟩;by_cases hn0:n=0;subst hn0;exact .inl Zad;right;rcases hr with ⟨_,rfl,_⟩ | ⟨h1,h2,h3,hx,hN,_,flat,F',cells,rfl,hr,hb,hsz,hc⟩;simp at hn;omega;have hF:=gi xs ho hr;subst hF;obtain⟨c1,SD,Ql⟩:=pf xs lo hr;obtain⟨c3,XM,YT⟩:=pd _ n SD;refine⟨g2,o2+lo*PZ,PZ,c3,hB Zac,k2 g2 (by obtain⟨e,fr,hb,_⟩:=hb;exact(Zbh.1 hb).1),h2,fun x hx=>hN x (List.mem_of_mem_drop (List.mem_of_mem_take hx)),eF _ XM (fun _ _=>rfl) Zad k1 Zad,fun j u hu=>?_⟩;rw[eg hb];have:=Ql j u (YT j u hu);rw[ef xs lo hN Zac]at this;have:=hc _ _ this;simpa[Zbj] using this
theorem JV(hs:w3 N Pb Kb A a w F){x:Operand}{C:Prop}{ys:List V}{r:m4}{p:List Nat}{sz g o lo n c:Nat}(he:A.ev x=.hd r p sz g o lo n c)(h:QP A x=some (C,ys))(hC:C):R w (fun g=>g<w.heap.size) (.sl false ys) [a.eval x] []:=by
 obtain⟨Fx,hr⟩:=dS hs x;rw[he]at hr;obtain⟨_,hle,B,hv,hB⟩:=hr;have hv:a.eval x=.slice B n c:=(List.cons.inj hv).1;have key:∀ u Fo Vo,R w Pb u Vo Fo->jF lo n sz g o u=some (C,ys)->R w (fun g=>g<w.heap.size) (.sl false ys) [a.eval x] []:=by
  intro u Fo Vo N7 hu;unfold jF at hu;split at hu;rename_i PZ xs g2 o2 c2;simp only[Zan,Zaq]at hu;obtain⟨rfl,rfl⟩:=hu;obtain⟨⟨rfl,rfl,rfl⟩,hln,V9,_⟩:=hC;rw[hv];exact NI N7 hle hB hln V9 (fun k h=>hs.bound k (hs.sub k h)) fun g hg=>hg;simp at hu
 unfold QP at h;rw[he]at h;simp only at h;split at h;rename_i i;have Qi:=hs.slot i;unfold jF at h;split at h;rename_i PZ xs g2 o2 c2 hg;rw[hg]at Qi;exact key (.own PZ xs g2 o2 c2) _ _ Qi (by unfold jF;exact h);simp at h;rename_i k p';split at h;rename_i a0 b0 u A8;obtain⟨F',cs,cells,hb,N7,u0⟩:=iz hs A8;exact key u F' cs N7 h;simp at h;simp at h
theorem qB(hs:w3 N Pb Kb A a w F):∀ (xs:List Operand) {C:Prop} {vs:List V},qi A xs=(C,vs)->C->RVs w (fun g=>g<w.heap.size) vs (xs.map a.eval) []
 | [],C,vs,h,_=>by simp only[qi,Zaq]at h;obtain⟨_,rfl⟩:=h;exact⟨rfl,rfl⟩
 | x::xs,C,vs,h,hC=>by
   have plain:∀ Y3,RVs w (fun g=>g<w.heap.size) Y3 (xs.map a.eval) []->RVs w (fun g=>g<w.heap.size) (A.cp x::Y3) ((x::xs).map a.eval) []:=fun Y3 h'=>by
    have h1:=tN hs [x];have h1:=uh (w':=w) (Pb':=fun g=>g<w.heap.size) _ h1 (fun _ _=>rfl) (fun _ _=>rfl) (fun k h=>hs.bound k (hs.sub k h)) Zad;obtain⟨y,ys,F1,F2,e1,e2,h2,_⟩:=h1;simp only[Zbe,List.map_nil,List.cons.injEq]at e1;obtain⟨rfl,_⟩:=e1;have e2:=e2.symm;simp only[List.append_eq_nil_iff]at e2;obtain⟨rfl,_⟩:=e2;exact⟨a.eval x,xs.map a.eval,[],[],rfl,rfl,h2,h'⟩
   cases hl:qi A xs with
   | mk C0 vs0=>
     simp only[qi,hl]at h;split at h;rename_i r p sz g o lo n c he;split at h;rename_i Cx ys e;simp only[Zaq]at h;obtain⟨rfl,rfl⟩:=h;exact⟨a.eval x,xs.map a.eval,[],[],rfl,rfl,JV hs he e hC.1,qB hs xs hl hC.2⟩;simp only[Zaq]at h;obtain⟨rfl,rfl⟩:=h;exact plain _ (qB hs xs hl hC);simp only[Zaq]at h;obtain⟨rfl,rfl⟩:=h;exact plain _ (qB hs xs hl hC)
theorem GY{o:Oper} {K:AS->Prop} {f:FuncId} {xs:Array Operand} {N2:Array TypeId} {args:List V} {Q:V->Prop} {C:Prop} {vs:List V} (ho:o.op=.call { callee:=.value (.func f),args:=xs,argTypes:=N2 })
 (hd:cI N o.dst) (hc:PC P f args Q) (hl:qi A xs.toList=(C,vs)) (hC:C) (hargs:Qa vs args=args) (hp:∀ r,Q r->r.plain=true) (hK:∀ r,Q r->K (A.put o.dst r)):F9 P N o A K:=by
 intro Pb Kb a w F Q' hs;unfold Oper.wp;have B6:(execOp a.eval o).run P w=.ok (.enter f (xs.map a.eval)) w:=by
  simp only[execOp,ho,resolve,Act.eval,Deferred.ofValue,Za0,Za1,Zas,invoke];have:=hc.1 (xs.map a.eval) w;simpa using this
 rw[B6,Oper.upon_enter];have h0:=qB hs xs.toList hl hC;have h0:=oZ _ args h0;rw[hargs]at h0;have M5:=hc.2 w (fun g=>g<w.heap.size) (xs.toList.map a.eval) (fun g hg=>hg) h0;have e:(xs.toList.map a.eval).toArray=xs.map a.eval:=by rw[<- Array.toList_map,Array.toArray_toList]
 rw[e]at M5;refine M5.mono ?_;rintro e w' ⟨r,x,Fr,Pb',rfl,hq,hr,hnd,hfr,h1,h2,hb⟩;have B0:w3 N Pb Kb A a w' F:=hs.grow hb.block hb.size (fun _ h=>h) (fun g hg=>.inl hg) hs.sub;obtain⟨F',M4⟩:=B0.pF (d:=o.dst) hd (HW (w':=w') (Pb':=Pb) r (hp r hq) hr).1;exact⟨_,Pb,Kb,F',hK r hq,M4,fun _ h=>h,fun _ h=>h,fun g h=>.inl h,A4.Av hb hs.bound⟩
end
section
variable {w w':World} {Pb Kb Pb':Nat->Prop} {N:Nat} {A A' B:AS} {a:Act} {F:m4->List Nat} {P:Program} {ops:Array Oper}
theorem Bu{o:Oper} {K:AS->Prop} {d T e len:Nat} {e9:Array (Nat×Operand)} {i:TI} {vs:List V} (ho:o.op=.buildSlice T len e9) (hd:o.dst=some d) (hN:d<N) (hT:tD P T=some (.sl e)) (hi:ti P e=some i)
 (TY:eY A 0 e9.toList=some vs) (hB:UX P T e len i vs=true) (h0:0<len) (hK:∀ g,K (A.put (some d) (.own i.sz vs g 0 len))):F9 P N o A K:=by
 simp only[UX,Zao,Zbl]at hB;obtain⟨⟨⟨⟨b1,hlen⟩,Sz⟩,K4⟩,hv⟩:=hB;obtain⟨inf,z,O',hzero,_⟩:=kT b1;have Sz:=Nat.le_of_ble_eq_true Sz;have K4:=Nat.lt_of_succ_le (Nat.le_of_ble_eq_true K4);have hv:=wS hv;intro Pb Kb a w F Q hs;obtain⟨xs,h1,h2,h3,h4⟩:=mW hs e9.toList 0 TY hv;have hu:=iW hT;obtain⟨U5,_,J4,_,hsz,_,_⟩:=jy hi;rw[O']at J4;obtain rfl:=Option.some.inj J4;have hfl:=Great.fill_whole K4 xs ((Array.range (len*i.sz)).map (z.cells[· % z.cells.size]!)) h2 (by simp[h4,hlen]);have hmul: ¬ len*inf.size=0:=by rw[hsz];exact Nat.mul_ne_zero Zac Zac
 have hb:=run_buildSlice (P:=P) w T e len (e9.map fun (i,x)=>(i,a.eval x)) _ inf z hu O' hzero (by rw[hsz];omega) hmul (by rw[Array.toList_map,h1,hsz];exact hfl);have hx:(execOp a.eval o).run P w=.ok (.value (.slice (some ⟨w.heap.size,0,none⟩) len len)) (w.alloc (.cells (xs.flatMap fun v=>v.cells.toList).toArray e)):=by
  simp only[execOp,ho,Za0,hb,Zas,Za1]
 unfold Oper.wp;rw[hx,Oper.upon_value,hd];have PA:=hs.ob (.cells (xs.flatMap fun v=>v.cells.toList).toArray e);have QS:=eF (w':=w.alloc (.cells (xs.flatMap fun v=>v.cells.toList).toArray e)) (Pb':=Pb) vs h3 (fun g hg=>alloc_old w _ g (hs.bound g (hs.sub g hg))) Zad (fun g hg=>hg) Zad;have hcs:(xs.flatMap fun v=>v.cells.toList).length=len*i.sz:=by
  rw[jj _ h3,pa vs (fun v U7=>(hv v U7).2),hlen]
 have Se: ¬ Kb w.heap.size:=fun h=>by have:=hs.bound _ h;omega
 have hR:R (w.alloc (.cells (xs.flatMap fun v=>v.cells.toList).toArray e)) Pb (.own i.sz vs w.heap.size 0 len) [.slice (some ⟨w.heap.size,0,none⟩) len len] [w.heap.size]:=
  .inr ⟨h0,K4,Zac,by rw[hlen],fun v U7=>(hv v U7).2,fun c=>Se (hs.sub _ c),_,[],_,rfl,QS,⟨e,(0,0),gK w _,fun i _ h=>by omega⟩,by simp only[List.size_toArray];rw[hcs];omega,fun j u hu=>by simpa using hu⟩
 exact⟨_,Pb,Kb,_,hK _,PA.put hN hR (fun r _ g hg=>by
  obtain rfl:=Zav.1 hg;intro c;have:=(hs.free r _ c).2;omega) Zad (fun g hg=>by
  obtain rfl:=Zav.1 hg;exact⟨Se,Zbx⟩),fun _ h=>h,fun _ h=>h,fun _ h=>.inl h,A4.alloc hs.bound _⟩
theorem Em{K:AS->Prop} {t sz n g o c g0 o0:Nat} {xs:List V} {r:m4} {p:List Nat} (h2:A.get t=.own sz xs g o c) (A8:(A.put (some t) .c9).at r p=some (g0,o0,.hd (.slot t) [] sz g o 0 n c)) (hn:n=xs.length)
 (h:K ((A.put (some t) .c9).setAt r p (.own sz xs g o c))):Hx N A K:=Hx.simple h fun Pb Kb a w F hs=>by
 subst hn;obtain⟨Fx,F1,hr,PA,hnd,w8,hfr,_⟩:=hs.take (.tmp t);rw[pK h2]at PA;have hr:RV w Pb (A.get t) (a.tmps.getD t undef) Fx:=hr;rw[h2]at hr;obtain⟨Fp,cs,cells,hb,hp,hc⟩:=iz PA A8;obtain⟨_,hle,B,rfl,hB⟩:=hp;have F7:R w Pb (.own sz xs g o c) [.slice B xs.length c] Fx:=by
  rcases hr with ⟨rfl,rfl,rfl,A0,_⟩ | ⟨k1,k2,k3,k4,k5⟩;exact .inl ⟨rfl,rfl,rfl,B,rfl⟩;have:=hB k1;rw[Nat.zero_mul,Nat.add_zero]at this;subst this;exact .inr ⟨k1,k2,k3,rfl,k5⟩
 obtain⟨F2,M4,_⟩:=PA.store (w':=w) (v:=.own sz xs g o c) A8 F7 rfl hnd w8 hfr ⟨rfl,rfl,rfl,rfl,fun _ _=>rfl,Shp.refl _,fun o4 L2=>⟨o4,L2,rfl,fun _ _=>rfl,fun j u hu=>by
  have e:o4=cells:=by
   obtain⟨e1,f1,q1,_⟩:=hb;obtain⟨e2,f2,q2,_⟩:=L2;rw[q1]at q2;simp only[Zan,Obj.cells.injEq]at q2;exact q2.1.symm
  rw[e];exact hc j u hu⟩⟩
 exact⟨F2,M4⟩
theorem Fq{K:AS->Prop} {sz n g o c g0 o0 g1 o1:Nat} {xs:List V} {r r0:m4} {p p0:List Nat} (h2:A.at r0 p0=some (g1,o1,.own sz xs g o c)) (A8:(A.setAt r0 p0 .c9).at r p=some (g0,o0,.hd r0 p0 sz g o 0 n c)) (hn:n=xs.length)
 (h:K ((A.setAt r0 p0 .c9).setAt r p (.own sz xs g o c))):Hx N A K:=Hx.simple h fun Pb Kb a w F hs=>by
 subst hn;obtain⟨Fr,Fu,PA,⟨cs0,RB,Up,N7,Sb⟩,hnd,w8,hfr⟩:=hs.split h2;have PA:w3 N Pb Kb (A.setAt r0 p0 .c9) a w _:=PA;obtain⟨Fp,cs,cells,hb,hp,hc⟩:=iz PA A8;obtain⟨_,hle,B,rfl,hB⟩:=hp;have F7:R w Pb (.own sz xs g o c) [.slice B xs.length c] Fu:=by
  rcases N7 with ⟨rfl,rfl,rfl,A0,_⟩ | ⟨k1,k2,k3,k4,k5⟩;exact .inl ⟨rfl,rfl,rfl,B,rfl⟩;have:=hB k1;rw[Nat.zero_mul,Nat.add_zero]at this;subst this;exact .inr ⟨k1,k2,k3,rfl,k5⟩
 obtain⟨F2,M4,_⟩:=PA.store (w':=w) (v:=.own sz xs g o c) A8 F7 rfl hnd w8 hfr ⟨rfl,rfl,rfl,rfl,fun _ _=>rfl,Shp.refl _,fun o4 L2=>⟨o4,L2,rfl,fun _ _=>rfl,fun j u hu=>by
  have e:o4=cells:=by
   obtain⟨e1,f1,q1,_⟩:=hb;obtain⟨e2,f2,q2,_⟩:=L2;rw[q1]at q2;simp only[Zan,Obj.cells.injEq]at q2;exact q2.1.symm
  rw[e];exact hc j u hu⟩⟩
 exact⟨F2,M4⟩
theorem zY{o:Oper} {K:AS->Prop} {d T T2 e e2 t0:Nat} {x:Operand} {t:TI} {Cx:Prop} {xs ys:List V} {r:m4} {p:List Nat} {sz g o1 n c g0 o0:Nat} (ho:o.op=.call { callee:=.builtin .append,args:= #[.tmp t0,x],argTypes:= #[T,T2] }) (TZ:o.type=T)
 (hd:o.dst=some d) (hN:d<N) (hT:tD P T=some (.sl e)) (Uq:tD P T2=some (.sl e2)) (ht:ti P e=some t) (hz:∃ inf z,P.info? e=some inf/\inf.zero=some z/\z.cells.size=t.sz) (hsz:0<t.sz) (US:0<t.O0)
 (hg:A.get t0=.hd r p sz g o1 0 n c) (A8:A.at r p=some (g0,o0,.own sz xs g o1 c)) (j6:sz=t.sz) (hn:n=xs.length) (hx:QP A x=some (Cx,ys)) (YX:Cx) (W3:V.ax ys=false) (Ur:aR t.sz ys)
 (hbig:(xs.length+ys.length)*t.O0<=140737488355328)
 (hK:∀ g o c,K ((A.setAt r p .c9).put (some d) (.own t.sz (xs++ys) g o c))):F9 P N o A K:=by
 subst j6 hn;intro Pb Kb a w F Q hs;obtain⟨B2,c2,D9,Rf,Ps,R9,hl2⟩:=mY (P:=P) hs hx YX Ur W3;obtain⟨Fr,Fu,B0,⟨cs,cells,hb,N7,hc⟩,hnd,w8,hfr⟩:=hs.split A8;have hr:R w Pb (.own t.sz xs g o1 c) [a.eval (.tmp t0)] Fu:=by
  have hh:=hs.slot t0;rw[hg]at hh;obtain⟨_,hle,B,hv,hB⟩:=hh;have hv:a.eval (.tmp t0)=.slice B xs.length c:=(List.cons.inj hv).1;rw[hv];rcases N7 with ⟨rfl,rfl,rfl,A0,_⟩ | ⟨h1,h2,h3,h4,h5⟩;exact .inl ⟨rfl,rfl,rfl,B,rfl⟩;have:=hB h1;rw[Nat.zero_mul,Nat.add_zero]at this;subst this;exact .inr ⟨h1,h2,h3,rfl,h5⟩
 obtain⟨v,w',F2,g',o',c',B6,M4,Ps,L6,Sa,Ug,Qk⟩:=sZ hT Uq ht hz hsz US B0 hr w8 hfr (Fy:=[]) (by simpa using hnd) Zad Zad Rf Ps R9 hl2 Ur hbig;have P1:(execOp a.eval o).run P w=.ok (.value v) w':=by
  simp only[execOp,ho,resolve,invoke,builtin,Za0,Za1,Zas,TZ];have e:(#[.tmp t0,x].map a.eval)= #[a.eval (.tmp t0),a.eval x]:=Zad;rw[e,B6];rfl
 unfold Oper.wp;rw[P1,Oper.upon_value,hd];exact⟨_,Pb,Kb,_,hK g' o' c',M4.put hN Ps (fun r _ g hg=>Sa r g hg) L6 Ug,fun _ h=>h,fun _ h=>h,fun _ h=>.inl h,Qk⟩
theorem uO:∀ (vs:List V) {xs:List Value} {F:List Nat} {i:Nat} {v:V},RVs w Pb vs xs F->vs[i]? =some v->v.isVal=true->
 ∃ x Fa Fi Fb,xs[i]? =some x/\F=Fa++Fi++Fb/\RV w Pb v x Fi/\RVs w Pb (vs.set i .c9) xs (Fa++Fb)
 | [],_,_,_,_,_,h,_=>by simp at h
 | u::vs,xs,F,0,v,h,hi,hv=>by
   obtain⟨x,xs',F1,F2,rfl,rfl,h1,h2⟩:=h;simp at hi;subst hi;refine⟨x,[],F1,F2,rfl,Zad,?_,⟨x,xs',[],F2,rfl,rfl,rfl,h2⟩⟩;cases u <;> first | exact h1 | simp[V.isVal]at hv
 | u::vs,xs,F,i+1,v,h,hi,hv=>by
   obtain⟨x,xs',F1,F2,rfl,rfl,h1,h2⟩:=h;obtain⟨y,Fa,Fi,Fb,k1,rfl,k3,k4⟩:=uO vs h2 Zbn hv;exact⟨y,F1++Fa,Fi,Fb,by simpa using k1,Zad,k3,⟨x,xs',F1,Fa++Fb,rfl,Zad,h1,k4⟩⟩
theorem yw{o:Oper} {K:AS->Prop} {t i d:Nat} {vs:List V} {v:V} (ho:o.op=.extract (.tmp t) i) (hd:o.dst=some d) (hN:d<N) (ht:t<N) (htd:d≠t) (hg:A.get t=.tup vs) (hi:vs[i]? =some v) (hv:v.isVal=true)
 (hK:K ((A.put (some t) (.tup (vs.set i .c9))).put (some d) v)):F9 P N o A K:=by
 intro Pb Kb a w F Q hs;have Qi:=hs.slot t;rw[hg]at Qi;obtain⟨xs,hx,hr⟩:=Qi;obtain⟨x,Fa,Fi,Fb,k1,k2,k3,k4⟩:=uO vs hr hi hv;have hnd:=hs.nodup (.slot t);rw[k2]at hnd;have T4:∀ g,g∈Fa++Fb->g∈F (.slot t):=fun g hg=>by rw[k2];simp only[Zax]at hg ⊢;rcases hg with h | h <;> simp[h]
 have V4:∀ g,g∈Fi->g∈F (.slot t):=fun g hg=>by rw[k2];simp[hg]
 have L6:(Fa++Fb).Nodup/\Fi.Nodup/\∀ g,g∈Fi->g ∉ Fa++Fb:=by
  simp only[List.nodup_append,Zax]at hnd ⊢;grind
 have PA:=hs.put (d:=t) (v:=.tup (vs.set i .c9)) (x:=a.tmps.getD t undef) (F':=Fa++Fb) ht ⟨xs,hx,k4⟩ (fun r hr g hg c=>hs.cm (.slot t) r (Ne.symm hr) g (T4 g hg) c) L6.1 (fun g hg=>hs.free _ g (T4 g hg));rw[qt]at PA;unfold Oper.wp;have B6:(execOp a.eval o).run P w=.ok (.value x) w:=by
  have Xh:a.eval (.tmp t)=.tuple xs:=hx;have hxi:xs[i]? =some x:=by simpa using k1
  simp only[execOp,ho,Xh,Instr.extract,hxi,Za0,Za1,Zas]
 rw[B6,Oper.upon_value,hd];refine⟨_,Pb,Kb,_,hK,PA.put (d:=d) (F':=Fi) hN k3 (fun r hr g hg c=>?_) L6.2.1 (fun g hg=>hs.free _ g (V4 g hg)),fun _ h=>h,fun _ h=>h,fun _ h=>.inl h,A4.refl _ _⟩;simp only[ck]at c;split at c;exact L6.2.2 g hg c;rename_i hne;exact hs.cm (.slot t) r (Ne.symm hne) g (V4 g hg) c
end
def cj:List Prop->Prop->Prop
 | [],k=>k
 | c::r,k=>c/\cj r k
theorem nj:∀ {l:List Prop} {k:Prop},cj l k↔(∀ c,c∈l->c)/\k
 | [],k=>by simp[cj]
 | c::r,k=>by
   rw[cj,nj (l:=r),List.forall_mem_cons,and_assoc]
abbrev GT:=List (Nat×(Nat×Bool))
def Dd(ops:Array Oper)(j:Nat):Option Nat:=(ops[j]?).bind (·.dst)
def sf(ops:Array Oper)(d:Nat)(gt:GT):GT:=gt.filter fun e=>!(e.1==d||Dd ops e.2.1==some d)
def yB(ops:Array Oper)(d j:Nat)(b:Bool)(gt:GT):GT:=match Dd ops j==some d with
 | true=>sf ops d gt
 | false=>(d,(j,b))::sf ops d gt
def U0(ops:Array Oper)(gt:GT)(A:AS):Prop:= ∀ e,e∈gt->∀ c v,A.get e.1=.gv c v->QC A ops e.2.1 e.2.2=some c
section
variable {P:Program} {N:Nat} {ops:Array Oper} {A A':AS} {gt:GT}
theorem Eg:U0 ops [] A:=fun e h=>by simp at h
theorem Cn{d j:Nat}{b:Bool}{u:V}(h:Dd ops j≠some d):QC (A.put (some d) u) ops j b=QC A ops j b:=by
 unfold QC;unfold Dd at h;cases hj:(ops[j]?).bind (·.dst) with
 | none=>rfl
 | some t=>
   simp only[Option.map_some];rw[AS.aC,if_neg (fun c=>h (by rw[hj,c]))]
theorem wg{d:Nat}{u:V}(h:U0 ops gt A):U0 ops (sf ops d gt) (A.put (some d) u):=fun e he c v hv=>by
 unfold sf at he;rw[List.mem_filter]at he;obtain⟨h1,h2⟩:=he;simp only[Bool.not_eq_true',Bool.or_eq_false_iff,beq_eq_false_iff_ne,ne_eq]at h2;rw[AS.aC,if_neg h2.1]at hv;rw[Cn h2.2];exact h e h1 c v hv
theorem Es{d j:Nat}{b G:Bool}{u:V}(h:U0 ops gt A)(hG:QC A ops j b=some G):U0 ops (yB ops d j b gt) (A.put (some d) (.gv G u)):=by
 unfold yB;split;exact wg h;rename_i e1;intro e he c v hv;rcases List.mem_cons.1 he with rfl | he;rw[AS.aC,if_pos rfl]at hv;cases hv;rw[Cn (by simpa using e1)];exact hG;exact wg h e he c v hv
def gtA(ops:Array Oper)(d:Option Nat)(j:Nat)(b:Bool)(gt:GT):GT:=match d with
 | some d=>yB ops d j b gt
 | none=>gt
theorem Jl{d:Option Nat}{j:Nat}{b G:Bool}{u:V}(h:U0 ops gt A)(hG:QC A ops j b=some G):U0 ops (gtA ops d j b gt) (A.put d (.gv G u)):=by
 cases d with
 | none=>exact h
 | some d=>exact Es h hG
theorem JU{x:Operand}(h:(A.ev x).df=false):A.drop x=A:=by
 cases x with
 | tmp t=>exact if_neg (by simpa[AS.ev] using h)
 | _=>rfl
def Tn(G:Bool)(jb:Nat×Bool)(gt:GT):List Operand->AS->List Prop×AS
 | [],A=>([],A)
 | .tmp t::r,A=>match A.get t with
   | .gv b v=>match Tn G jb gt r (A.put (some t) v),gt.contains (t,jb)&&!v.df&&!v.gT with
     | (C,B),true=>(C,B)
     | (C,B),false=>(pj G b v::C,B)
   | _=>Tn G jb gt r A
 | _::r,A=>Tn G jb gt r A
theorem lX{G:Bool}{jb:Nat×Bool}:∀ (xs:List Operand) {A B:AS} {l:List Prop},(∀ t,(t,jb)∈gt->∀ c v,A.get t=.gv c v->c=G)->Tn G jb gt xs A=(l,B)->(∀ c,c∈l->c)->∃ C,AS.un G xs A=(C,B)/\C
 | [],A,B,l,_,h,_=>by simp only[Tn,Zaq]at h;exact⟨True,by simp only[AS.un,h.2],trivial⟩
 | x::xs,A,B,l,hi,h,hl=>by
   cases x with
   | tmp t=>
     simp only[Tn]at h;simp only[AS.un];split at h;rename_i b v hg;rw[hg];have hi':v.gT=false->∀ t',(t',jb)∈gt->∀ c u,(A.put (some t) v).get t'=.gv c u->c=G:=fun hv t' ht c u hu=>by
      rw[AS.aC]at hu;split at hu;rw[hu]at hv;simp[V.gT]at hv;exact hi t' ht c u hu
     split at h;rename_i C1 B1 hu hc;simp only[Zaq]at h;obtain⟨rfl,rfl⟩:=h;simp only[Zao,Bool.not_eq_true',List.contains_iff_mem]at hc;obtain⟨C2,e1,e2⟩:=lX xs (hi' hc.2) hu hl;simp only[e1];refine⟨_,rfl,?_,e2⟩;unfold pj;rw[hc.1.2,hc.2,hi t hc.1.1 b v hg];exact fun h=>h;rename_i C1 B1 hu hc;simp only[Zaq]at h;obtain⟨rfl,rfl⟩:=h;have h0:=hl _ (List.mem_cons_self ..);have hv:v.gT=false:=by
      unfold pj at h0;split at h0;rename_i e;rw[Bool.or_eq_false_iff]at e;exact e.2;exact h0.elim
     obtain⟨C2,e1,e2⟩:=lX xs (hi' hv) hu (fun c hc=>hl c (List.mem_cons_of_mem _ hc));simp only[e1];exact⟨_,rfl,h0,e2⟩;rename_i hn;have:=lX xs hi h hl;split;rename_i b v hg;exact absurd hg (hn b v);exact this
   | _=>exact lX xs hi h hl
def rR(P:Program)(N:Nat)(ops:Array Oper):Nat->List Oper->List V->GT->AS->Option (List Prop×AS×GT)
 | 0,_,_,gt,A=>some ([],A,gt)
 | _+1,[],_,gt,A=>some ([],A,gt)
 | n+1,o::rest,A5,gt,A=>
   match o.dst with
   | none=>none
   | some d=>if d<N then
     match o.guard with
     | some (j,b)=>match QC A ops j b with
       | some G=>match Tn G (j,b) gt (iT o.op) A with
         | (C0,B)=>match sY P B o.op A5 with
           | some (C,v,A5)=>if (St N (iT o.op)&&!v.gT)=true then match rR P N ops n rest A5 (yB ops d j b gt) (A.put (some d) (.gv G v)) with
             | some (C',r)=>some (C0++(if mg o.op=true then C' else (G=true->C)::C'),r)
             | none=>none else none
           | none=>none
       | none=>none
     | none=>match o.op with
       | .assign x=>rR P N ops n rest A5 (if (A.ev x).df=true then [] else sf ops d gt) ((A.drop x).put (some d) (A.ev x))
       | op=>match sY P A op A5 with
         | some (C,v,A5)=>match rR P N ops n rest A5 (sf ops d gt) (A.put (some d) v) with
           | some (C',r)=>if mg op=true then some (C',r) else some (C::C',r)
           | none=>none
         | none=>none
     else none
theorem sk:∀ (n:Nat) {l:List Oper} {A5:List V} {gt XX:GT} {A A':AS} {cs:List Prop},rR P N ops n l A5 gt A=some (cs,A',XX)->U0 ops gt A->(∀ c,c∈cs->c)->
 (∃ C,nt P N ops n l A5 A=some (C,A')/\C)/\U0 ops XX A'
 | 0,l,A5,gt,XX,A,A',cs,h,hi,hc=>by
   simp only[rR,Zan,Zaq]at h;obtain⟨_,rfl,rfl⟩:=h;exact⟨⟨True,by simp only[nt],trivial⟩,hi⟩
 | n+1,[],A5,gt,XX,A,A',cs,h,hi,hc=>by
   simp only[rR,Zan,Zaq]at h;obtain⟨_,rfl,rfl⟩:=h;exact⟨⟨True,by simp only[nt],trivial⟩,hi⟩
 | n+1,o::l,A5,gt,XX,A,A',cs,h,hi,hc=>by
   unfold rR at h;unfold nt;split at h;cases h;rename_i d hd;split at h
   case isFalse=>cases h
   rename_i Vg;simp only[hd,if_pos Vg];split at h;rename_i j b hg;simp only[hg];split at h;rename_i G hG;split at h;rename_i C0 B hu;split at h;rename_i C v Rr hs;split at h;rename_i hk;split at h;rename_i C' A1 hr;simp only[Zan,Zaq]at h;obtain⟨rfl,rfl⟩:=h;obtain⟨C1,e1,e2⟩:=lX (iT o.op) (fun t ht c v hv=>by have:=hi _ ht c v hv;rw[hG]at this;exact(Option.some.inj this).symm) hu (fun c Um=>hc c (List.mem_append_left _ Um));obtain⟨⟨C2,e3,e4⟩,e5⟩:=sk n hr (Es hi hG) (fun c Um=>hc c (List.mem_append_right _ (by split <;> simp[Um])));refine⟨?_,e5⟩;simp only[hG,e1,hs,if_pos hk,e3];refine⟨_,rfl,fun PV=>⟨e2,?_⟩,e4⟩;by_cases ht:mg o.op=true;exact mL ht hs;exact hc (G=true->C) (List.mem_append_right _ (by rw[if_neg ht];exact List.mem_cons_self ..)) PV;cases h;cases h;cases h;cases h;rename_i hg;simp only[hg];split at h;rename_i x hx;obtain⟨⟨C,e1,e2⟩,e3⟩:=sk n h (by
    split;exact Eg;rename_i ho;rw[JU (by simpa using ho)];exact wg hi) hc
   simp only[hx];exact⟨⟨C,e1,e2⟩,e3⟩;rename_i hx;split at h;rename_i C v Rr hs;split at h;rename_i C' r hr;have key:(∀ c,c∈C'->c)/\C/\r=(A',XX):=by
    split at h;rename_i ht;simp only[Zan,Zaq]at h;obtain⟨rfl,rfl⟩:=h;exact⟨hc,mL ht hs,rfl⟩;simp only[Zan,Zaq]at h;obtain⟨rfl,rfl⟩:=h;exact⟨fun c Um=>hc c (List.mem_cons_of_mem _ Um),hc _ (List.mem_cons_self ..),rfl⟩
   obtain⟨k1,k2,rfl⟩:=key;obtain⟨⟨C2,e3,e4⟩,e5⟩:=sk n hr (wg hi) k1;refine⟨?_,e5⟩;split;rename_i Rf;exact absurd Rf (hx _);simp only[hs,e3];split;exact⟨_,rfl,e4⟩;exact⟨_,rfl,k2,e4⟩;cases h;cases h
def nr(B:AS)(ks:List (Nat×Nat)):List (Nat×(Nat×V))->Prop->Prop
 | [],p=>p
 | (k,(g,v))::r,p=>(match lk k ks with | some q=>(match lk q B.h with | some (g',v')=>(g',wk v' v)=(g,v) | none=>False) | none=>False)/\nr B ks r p
theorem jr{B:AS}{ks:List (Nat×Nat)}:∀ {H:List (Nat×(Nat×V))} {p:Prop},nr B ks H p->ln B ks H/\p
 | [],p,h=>⟨trivial,h⟩
 | (k,(g,v))::r,p,h=>by
   obtain⟨h1,h2⟩:=h;obtain⟨h3,h4⟩:=jr h2;exact⟨⟨h1,h3⟩,h4⟩
def Hb(A:AS):List (Nat×(Nat×V))->Prop->Prop
 | [],p=>p
 | (k,(g,v))::r,p=>(match lk k A.h with | some (g',v')=>(g',wk v' v)=(g,v) | none=>False)/\Hb A r p
theorem yU:∀ {H:List (Nat×(Nat×V))} {p:Prop},Hb A H p->Tc A H/\p
 | [],p,h=>⟨trivial,h⟩
 | (k,(g,v))::r,p,h=>by
   obtain⟨h1,h2⟩:=h;obtain⟨h3,h4⟩:=yU h2;exact⟨⟨h1,h3⟩,h4⟩
def He(A:AS):List (Nat×V)->Prop->Prop
 | [],p=>p
 | (k,v)::r,p=>(wk (A.get k) v=v)/\He A r p
theorem ui:∀ {H:List (Nat×V)} {p:Prop},He A H p->TO A H/\p
 | [],p,h=>⟨trivial,h⟩
 | (k,v)::r,p,h=>by
   obtain⟨h1,h2⟩:=h;obtain⟨h3,h4⟩:=ui h2;exact⟨⟨h1,h3⟩,h4⟩
def XG(A B:AS):Prop:=He A B.t (Hb A B.h True)
theorem sq{B:AS}(h:XG A B):TO A B.t/\Tc A B.h:=⟨(ui h).1,(yU (ui h).2).1⟩
def yY(A:AS):List ResultVar->Option (List Prop×List (m4×V))
 | []=>some ([],[])
 | r::rs=>match yY A rs with
   | some (C,xs)=>match r with
     | .tmp t=>some (C,(.slot t,A.get t)::xs)
     | .cell t _=>match A.get t with
       | .ptr (.key k) [] g 0=>match lk k A.h with
         | some (g',v)=>some ((g'=g)::C,(.key k,v)::xs)
         | none=>none
       | _=>none
   | none=>none
theorem sy:∀ {rs:List ResultVar} {C:List Prop} {xs:List (m4×V)},yY A rs=some (C,xs)->(∀ c,c∈C->c)->∃ C',wK A rs=some (C',xs)/\C'
 | [],C,xs,h,_=>by simp only[yY,Zan,Zaq]at h;rw[<- h.2];exact⟨_,rfl,trivial⟩
 | r::rs,C,xs,h,hC=>by
   simp only[yY]at h;simp only[wK];split at h;rename_i C1 xs1 e;split at h;simp only[Zan,Zaq]at h;obtain⟨rfl,rfl⟩:=h;obtain⟨C',e1,e2⟩:=sy e hC;simp only[e1];exact⟨_,rfl,e2⟩;split at h;rename_i k g e2;split at h;rename_i g' v e3;simp only[Zan,Zaq]at h;obtain⟨rfl,rfl⟩:=h;obtain⟨C',e4,e5⟩:=sy e (fun c hc=>hC c (List.mem_cons_of_mem _ hc));simp only[e4,e2,e3];exact⟨_,rfl,hC _ (List.mem_cons_self ..),e5⟩;cases h;cases h;cases h
def pE(A:AS):List (Nat×(Nat×V))->Prop->Prop
 | [],p=>p
 | (k,(g,v))::r,p=>p/\pE A r (match lk k A.h with | some (g',v')=>(g',wk v' v)=(g,v) | none=>False)
theorem tS:∀ {H:List (Nat×(Nat×V))} {p:Prop},pE A H p->p/\Tc A H
 | [],p,h=>⟨h,trivial⟩
 | (k,(g,v))::r,p,h=>by
   obtain⟨h1,h2⟩:=h;exact⟨h1,tS h2⟩
end
structure WD (P:Program) where
 f:FuncId
 args:List V
 H:List (Nat×(Nat×V)):=[]
 pre:Prop:=True
 res:V
 H':List (Nat×(Nat×V)):=[]
 ok:pre->PF P f args H (fun r h=>r=res/\h=H')
structure Vv (P:Program) where
 X:Type
 f:FuncId
 args:List V
 H:List (Nat×(Nat×V)):=[]
 pre:Prop:=True
 post:X->Prop
 res:X->V
 H':X->List (Nat×(Nat×V)):=fun _=>[]
 ok:pre->PF P f args H (fun r h=> ∃ x,post x/\r=res x/\h=H' x)
structure Cu (P:Program) where
 X:Type
 pre:Nat->Oper->AS->Prop
 post:X->Oper->AS->AS
 ok:∀ {N:Nat} {o:Oper} {A:AS} {K:AS->Prop},o.guard=none->pre N o A->(∀ x,K (post x o A))->F9 P N o A K
structure Eu (P:Program) where
 X:Type
 pre:Nat->Oper->AS->List Nat->List Nat->Prop
 U:Oper->AS->X->AS->AS
 WH:∀ {N:Nat} {o:Oper} {A:AS} {Sl Hl:List Nat},pre N o A Sl Hl->∀ fs,Tl (U o A) fs Sl Hl
 prom:List Nat:=[]
 pok:∀ {N:Nat} {o:Oper} {A:AS} {Sl Hl:List Nat},pre N o A Sl Hl->∀ q,q∈prom->∀ x B,N8 (U o A x B).h q=N8 B.h q:=by intro _ _ _ _ _ _ q hq;exact absurd hq List.not_mem_nil
 ok:∀ {N:Nat} {o:Oper} {A A':AS} {Sl Hl:List Nat},o.guard=none->pre N o A Sl Hl->(∀ t,Operand.tmp t∈o.op.operands.toList->A'.get t=A.get t)->(∀ k,lk k A'.h=lk k A.h)->F9 P N o A' fun B=> ∃ x,B=U o A x A'
structure Vu (P:Program) where
 v:V
 pre:Nat->Array Oper->Oper->AS->Prop
 ok:∀ {N:Nat} {ops:Array Oper} {o:Oper} {A:AS} {fs:List Nat} {fr:Option (List Nat)},pre N ops o A->(∀ t,t∈o.looksAt ops->t∈fs)->UZ P N ops o A v fs fr
def WD.sm{P:Program}(c:WD P):Prop:=c.args=c.args
def Vv.sm{P:Program}(c:Vv P):Prop:=c.args=c.args
inductive Hint where
 | I7 (t sz:Nat)
 | Xv (t:Nat) (u:V)
 | wkR (r:m4) (p:List Nat) (u:V)
 | fX (t:Nat)
 | fz (t:Nat)
 | m9 (t:Nat) (v:V)
 | s8 (k:Nat) (v:V)
 | to (B:AS)
 | rk (k k':Nat)
 | B9 (r:m4) (p:List Nat) (sz:Nat)
 | SQ (r:m4) (p:List Nat) (g o sz:Nat)
 | Rz (r:m4) (p:List Nat) (g o t:Nat)
 | PN (r:m4) (p:List Nat) (g o:Nat) (v u:V)
 | QM (r0:m4) (p0:List Nat) (r:m4) (p:List Nat) (g o:Nat)
inductive Sc (P:Program):Type 1
 | nil
 | h (x:Hint) (k:Sc P)
 | ot (t:Nat) (k:Nat->Nat->Nat->Sc P)
 | oR (r:m4) (p:List Nat) (k:Nat->Nat->Nat->Sc P)
 | r (n:Nat) (A5:List V) (k:Sc P)
 | mv (k:Sc P)
 | c (c:WD P) (ks:List (Nat×Nat)) (k:Sc P)
 | cx (c:Vv P) (ks:List (Nat×Nat)) (k:c.X->Sc P)
 | cg (c:WD P) (k:Sc P)
 | al (z:ZT P) (k:Nat->Sc P)
 | bx (k:Nat->Sc P)
 | st (old:Option V) (k:Sc P)
 | ap (k:Nat->Nat->Nat->Sc P)
 | bd (z:ZT P) (k:Sc P)
 | bs (k:Sc P)
 | O0 (bs:BL) (k:Sc P)
 | sb (l:BL) (k:Nat->Nat->Sc P)
 | mm (k:Sc P)
 | rs (k:Sc P)
 | br (a b:Sc P)
 | join (X:Type) (B:X->AS) (ok:X->Prop) (a b:Sc P) (k:X->Sc P)
 | loop (X:Type) (inv:X->AS) (ok:X->Prop) (m:X->Nat) (k:X->Sc P)
 | dx (m:Nat) (pl:List Nat) (tb:List (Nat×Sq)) (zs:List (Nat×ZT P)) (k:Sc P)
 | ua (k:Nat->Sc P)
 | ux (z:Option (ZT P)) (k:Nat->Nat->Nat->Sc P)
 | cl (c:WD P) (k:Sc P)
 | sp (b:Bool) (a1 a2:Sc P)
 | gt (k:Sc P)
 | gf (v:V) (k:Sc P)
 | ex (X:Type) (post:X->Prop) (k:X->Sc P)
 | Ra (r:m4) (p:List Nat) (g o sz:Nat) (xs:List V) (k:Nat->Nat->Nat->Sc P)
 | Y2 (xs:List V) (g o:Nat) (k:Nat->Nat->Nat->Sc P)
 | bo (k:Nat->Sc P)
 | cu (c:Cu P) (k:c.X->Sc P)
 | eu (c:Eu P) (k:c.X->Sc P)
 | vu (c:Vu P) (k:Sc P)
def Ry(N:Nat):Option Nat->Bool
 | none=>true
 | some d=>Nat.blt d N
theorem eG{N:Nat}{d:Option Nat}(h:Ry N d=true):cI N d:=by
 cases d with
 | none=>trivial
 | some d=>exact Nat.lt_of_succ_le (Nat.le_of_ble_eq_true h)
theorem bG{a b:Nat}(h:Nat.blt a b=true):a<b:=Nat.lt_of_succ_le (Nat.le_of_ble_eq_true h)
def yJ(N:Nat)(x:Hint)(A:AS)(K:AS->Prop):Prop:=
 match x with
 | .I7 t sz=>match Nat.blt t N,A.get t with
   | true,.sl true []=>K (A.put (some t) (.own sz [] 0 0 0))
   | _,_=>False
 | .Xv t u=>match Nat.blt t N with
   | true=>K (A.put (some t) (wk (A.get t) u))
   | false=>False
 | .wkR r p u=>match A.at r p with
   | some (_,_,v)=>match (wk v u).n==v.n with
     | true=>K (A.setAt r p (wk v u))
     | false=>False
   | none=>False
 | .fX t=>match A.get t with
   | .hd (.slot i) [] sz g o 0 n c=>match A.get i with
     | .own M0 xs g' o' c'=>match Nat.blt t N&&Nat.blt i N&&!(t==i) with
       | true=>(sz,g,o,c,n)=(M0,g',o',c',xs.length)/\K ((A.put (some i) .c9).put (some t) (.own M0 xs g' o' c'))
       | false=>False
     | _=>False
   | _=>False
 | .fz t=>match Nat.blt t N&&(A.get t).df with
   | true=>K (A.put (some t) (A.get t).er)
   | false=>False
 | .m9 t v=>A.get t=v/\K (A.put (some t) v)
 | .s8 k v=>match lk k A.h with
   | some (g,u)=>u=v/\K ⟨A.t,(k,(g,v))::A.h⟩
   | none=>False
 | .to B=>TO A B.t/\Tc A B.h/\K B
 | .rk k k'=>match lk k A.h,lk k' A.h with
   | some gv,none=>K ⟨A.t,(k',gv)::A.h.filter fun p=>p.1 != k⟩
   | _,_=>False
 | .B9 r p sz=>match A.at r p with
   | some (_,_,.sl true [])=>K (A.setAt r p (.own sz [] 0 0 0))
   | _=>False
 | .SQ r p g o sz=>A.at r p=some (g,o,.sl true [])/\K (A.setAt r p (.own sz [] 0 0 0))
 | .Rz r p g o t=>match A.get t with
   | .own sz xs g1 o1 c=>(A.put (some t) .c9).at r p=some (g,o,.hd (.slot t) [] sz g1 o1 0 xs.length c)/\K ((A.put (some t) .c9).setAt r p (.own sz xs g1 o1 c))
   | _=>False
 | .PN r p g o v u=>A.at r p=some (g,o,v)/\match (wk v u).n==v.n with
   | true=>K (A.setAt r p (wk v u))
   | false=>False
 | .QM r0 p0 r p g o=>match A.at r0 p0 with
   | some (_,_,.own sz xs g1 o1 c)=>(A.setAt r0 p0 .c9).at r p=some (g,o,.hd r0 p0 sz g1 o1 0 xs.length c)/\K ((A.setAt r0 p0 .c9).setAt r p (.own sz xs g1 o1 c))
   | _=>False
def RG{P:Program}(N:Nat):Sc P->AS->(AS->Sc P->Prop)->Prop
 | .h x k,A,K=>yJ N x A fun B=>RG N k B K
 | .ot t k,A,K=>match Nat.blt t N,A.get t with
   | true,.ow sz xs=> ∀ g o c,RG N (k g o c) (A.put (some t) (.own sz xs g o c)) K
   | _,_=>False
 | .oR r p k,A,K=>match A.at r p with
   | some (_,_,.ow sz xs)=> ∀ g o c,RG N (k g o c) (A.setAt r p (.own sz xs g o c)) K
   | _=>False
 | .ex X post k,A,K=>(∃ x,post x)/\∀ x,post x->RG N (k x) A K
 | .Ra r p g0 o0 sz xs k,A,K=>A.at r p=some (g0,o0,.ow sz xs)/\∀ g o1 c,RG N (k g o1 c) (A.setAt r p (.own sz xs g o1 c)) K
 | s,A,K=>K A s
def lZ(P:Program)(T T2:Nat):Option TI:=
 match tD P T,tD P T2 with
 | some (.sl e),some (.sl _)=>match ti P e with
   | some t=>match Yh P e t.sz&&Nat.blt 0 t.sz&&Nat.blt 0 t.O0 with
     | true=>some t
     | false=>none
   | none=>none
 | _,_=>none
def zm(P:Program)(T:Nat):Bool:=match tD P T with
 | some (.sl e)=>match tD P e with
   | some (.int .u8)=>true
   | _=>false
 | _=>false
def isStr(P:Program)(T:Nat):Bool:=match tD P T with
 | some .str=>true
 | _=>false
def E5{P:Program}(N:Nat)(ops:Array Oper):GT->Sc P->List Oper->AS->(AS->Sc P->Prop)->Prop
 | UU,s,[],A,K=>K A s
 | UU,.r n A5 k,l,A,K=>match rR P N ops n l A5 UU A with
   | some (C,A',gt1)=>cj C (E5 N ops gt1 k (l.drop n) A' K)
   | none=>False
 | UU,.cg c k,o::l,A,K=>match o.op,o.guard with
   | .call ⟨.value (.func f),xs,_⟩,some (j,b)=>match f==c.f&&Ry N o.dst&&St N xs.toList&&!c.res.er.gT&&!c.res.er.df,c.H,QC A ops j b with
     | true,[],some G=>match Tn G (j,b) UU xs.toList A with
       | (C,B)=>cj C ((G=true->c.pre/\Qa (xs.toList.map B.cp) c.args=c.args)/\E5 N ops (gtA ops o.dst j b UU) k l (A.put o.dst (.gv G c.res.er)) K)
     | _,_,_=>False
   | _,_=>False
 | UU,.ex X post k,o::l,A,K=>(∃ x,post x)/\∀ x,post x->E5 N ops [] (k x) (o::l) A K
 | UU,.sp b a1 a2,o::l,A,K=>(b=true->E5 N ops [] a1 (o::l) A K)/\(b=false->E5 N ops [] a2 (o::l) A K)
 | UU,.gt k,o::l,A,K=>match o.guard with
   | some (j,b)=>match QC A ops j b with
     | some G=>G=true/\E5 N ops [] k (⟨o.dst,o.op,o.type,o.pos,o.after,none⟩ :: l) A K
     | none=>False
   | none=>False
 | UU,.gf v k,o::l,A,K=>match o.guard with
   | some (j,b)=>match QC A ops j b,Ry N o.dst with
     | some G,true=>G=false/\E5 N ops [] k l (A.put o.dst (.gv false v)) K
     | _,_=>False
   | none=>False
 | UU,s,o::l,A,K=>match o.guard with
   | some _=>False
   | none=>match s with
     | .h x k=>yJ N x A fun B=>E5 N ops [] k (o::l) B K
     | .Ra r p g0 o0 sz xs k=>A.at r p=some (g0,o0,.ow sz xs)/\∀ g o1 c,E5 N ops [] (k g o1 c) (o::l) (A.setAt r p (.own sz xs g o1 c)) K
     | .cu c k=>c.pre N o A/\∀ x,E5 N ops [] (k x) l (c.post x o A) K
     | .bo k=>match o.op,o.dst with
       | .buildSlice T len e9,some d=>match tD P T with
         | some (.sl e)=>match ti P e,eY A 0 e9.toList with
           | some i,some vs=>match UX P T e len i vs&&Nat.blt d N&&Nat.blt 0 len with
             | true=> ∀ g,E5 N ops [] (k g) l (A.put (some d) (.own i.sz vs g 0 len)) K
             | false=>False
           | _,_=>False
         | _=>False
       | _,_=>False
     | .Y2 xs g0 o0 k=>match o.op,o.dst with
       | .call ⟨.builtin .append,⟨[.tmp t0,x]⟩,⟨[T,T2]⟩⟩,some d=>match o.type==T&&Nat.blt d N,lZ P T T2 with
         | true,some t=>match A.get t0,QP A x with
           | .hd r p sz g o1 0 n c,some (Cx,ys)=>(A.at r p=some (g0,o0,.own sz xs g o1 c)/\sz=t.sz/\n=xs.length)/\Cx/\V.ax ys=false/\aR t.sz ys/\(xs.length+ys.length)*t.O0<=140737488355328/\
            ∀ g2 o2 c2,E5 N ops [] (k g2 o2 c2) l ((A.setAt r p .c9).put (some d) (.own t.sz (xs++ys) g2 o2 c2)) K
           | _,_=>False
         | _,_=>False
       | _,_=>False
     | .cl c k=>match o.op with
       | .call ⟨.value (.func f),xs,_⟩=>match f==c.f&&Ry N o.dst&&c.res.plain,c.H,qi A xs.toList with
         | true,[],(C,vs)=>C/\Qa vs c.args=c.args/\c.pre/\E5 N ops [] k l (A.put o.dst c.res) K
         | _,_,_=>False
       | _=>False
     | .ot t k=>match Nat.blt t N,A.get t with
       | true,.ow sz xs=> ∀ g o1 c,E5 N ops [] (k g o1 c) (o::l) (A.put (some t) (.own sz xs g o1 c)) K
       | _,_=>False
     | .oR r p k=>match A.at r p with
       | some (_,_,.ow sz xs)=> ∀ g o1 c,E5 N ops [] (k g o1 c) (o::l) (A.setAt r p (.own sz xs g o1 c)) K
       | _=>False
     | .mv k=>match o.op with
       | .move x=>match Ry N o.dst with
         | true=>E5 N ops [] k l ((A.drop x).put o.dst (A.ev x)) K
         | false=>False
       | .extract (.tmp t) i=>match o.dst,A.get t with
         | some d,.tup vs=>match vs[i]? with
           | some v=>match Nat.blt d N&&Nat.blt t N&&!(d==t)&&v.isVal with
             | true=>E5 N ops [] k l ((A.put (some t) (.tup (vs.set i .c9))).put (some d) v) K
             | false=>False
           | none=>False
         | _,_=>False
       | .load T x=>match o.dst,ti P T,A.ev x with
         | some d,some i,.ptr r p g g'=>match A.at r p with
           | some (g2,Vn,u)=>match Nat.blt d N&&u.n==i.sz&&i.d.agg==u.isAgg with
             | true=>(g2,Vn)=(g,g')/\E5 N ops [] k l ((A.setAt r p u.kill).put (some d) u) K
             | false=>False
           | none=>False
         | _,_,_=>False
       | _=>False
     | .c c ks k=>match o.op with
       | .call ⟨.value fx,xs,_⟩=>match A.ev fx,A.tk xs.toList with
         | .lit (.func (.func f) first A7),(vs,B)=>match f==c.f&&Ry N o.dst&&P0 (ks.map (·.1))&&P0 (ks.map (·.2))&&c.args.length==(first.toList.map cV++vs++A7.toList.map cV).length with
           | true=>Qa (first.toList.map cV++vs++A7.toList.map cV) c.args=c.args/\nr B ks c.H (c.pre/\E5 N ops [] k l ((B.back ks c.H').put o.dst (c.res.Q9 (jO ks))) K)
           | false=>False
         | _,_=>False
       | _=>False
     | .cx c ks k=>match o.op with
       | .call ⟨.value fx,xs,_⟩=>match A.ev fx,A.tk xs.toList with
         | .lit (.func (.func f) first A7),(vs,B)=>match f==c.f&&Ry N o.dst&&P0 (ks.map (·.1))&&P0 (ks.map (·.2))&&c.args.length==(first.toList.map cV++vs++A7.toList.map cV).length with
           | true=>Qa (first.toList.map cV++vs++A7.toList.map cV) c.args=c.args/\nr B ks c.H (c.pre/\∀ x,c.post x->E5 N ops [] (k x) l ((B.back ks (c.H' x)).put o.dst ((c.res x).Q9 (jO ks))) K)
           | false=>False
         | _,_=>False
       | _=>False
     | .al z k=>match o.op,o.dst with
       | .alloc T,some d=>match T==z.T&&Nat.blt d N with
         | true=> ∀ g,E5 N ops [] (k g) l ⟨(d,.ptr (.key d) [] g 0)::A.t,(d,(g,z.v))::A.h⟩ K
         | false=>False
       | _,_=>False
     | .bx k=>match o.op,o.dst with
       | .box _ x,some d=>match Nat.blt d N&&(A.cp x).isVal with
         | true=> ∀ g,E5 N ops [] (k g) l ⟨(d,.ptr (.key d) [] g 0)::A.t,(d,(g,A.cp x))::A.h⟩ K
         | false=>False
       | _,_=>False
     | .st old k=>match o.op,o.dst with
       | .store T x y,none=>match ti P T,A.ev x with
         | some i,.ptr r p g g'=>match old with
           | none=>match (A.drop y).at r p with
             | some (g2,Vn,u)=>match (A.ev y).isVal&&(A.ev y).n==u.n&&(A.ev y).n==i.sz with
               | true=>(g2,Vn)=(g,g')/\E5 N ops [] k l ((A.drop y).setAt r p (A.ev y)) K
               | false=>False
             | none=>False
           | some u=>match (A.ev y).isVal&&(A.ev y).n==u.n&&(A.ev y).n==i.sz with
             | true=>(A.drop y).at r p=some (g,g',u)/\E5 N ops [] k l ((A.drop y).setAt r p (A.ev y)) K
             | false=>False
         | _,_=>False
       | _,_=>False
     | .ap k=>match o.op,o.dst with
       | .call ⟨.builtin .append,⟨[s,x]⟩,⟨[T,T2]⟩⟩,some d=>match o.type==T&&Nat.blt d N,lZ P T T2 with
         | true,some t=>match WB A s t.sz,QP A x with
           | some (C,A1,xs),some (Cx,ys)=>C/\Cx/\V.ax ys=false/\aR t.sz ys/\(xs.length+ys.length)*t.O0<=140737488355328/\
            ∀ g o1 c,E5 N ops [] (k g o1 c) l (A1.put (some d) (.own t.sz (xs++ys) g o1 c)) K
           | none,some (Cx,ys)=>match Xq A s t.sz with
             | some (C,xs)=>(C/\0<ys.length)/\Cx/\V.ax ys=false/\aR t.sz ys/\(xs.length+ys.length)*t.O0<=140737488355328/\
               ∀ g o1 c,E5 N ops [] (k g o1 c) l (A.put (some d) (.own t.sz (xs++ys) g o1 c)) K
             | none=>False
           | _,_=>False
         | _,_=>False
       | _,_=>False
     | .bd z k=>match o.op with
       | .build T e9=>match T==z.T&&Ry N o.dst,z.v with
         | true,.agg zs=>match lU P A T zs e9.toList with
           | some v=>E5 N ops [] k l (A.put o.dst v) K
           | none=>False
         | _,_=>False
       | _=>False
     | .bs k=>match o.op with
       | .buildSlice T len e9=>match tD P T with
         | some (.sl e)=>match ti P e,eY A 0 e9.toList with
           | some i,some vs=>match UX P T e len i vs&&Ry N o.dst with
             | true=>E5 N ops [] k l (A.put o.dst (.sl true vs)) K
             | false=>False
           | _,_=>False
         | _=>False
       | _=>False
     | .O0 bs k=>match o.op with
       | .convert src dst x=>match zm P src&&isStr P dst&&Ry N o.dst,QP A x with
         | true,some (C,ys)=>C/\ys=bs.map u7/\E5 N ops [] k l (A.put o.dst (sV bs)) K
         | _,_=>False
       | _=>False
     | .sb bs k=>match o.op,o.dst with
       | .convert src dst x,some d=>match isStr P src&&zm P dst&&Nat.blt d N with
         | true=>A.ev x=sV bs/\∀ g c,E5 N ops [] (k g c) l (A.put (some d) (.own 1 (bs.map u7) g 0 c)) K
         | false=>False
       | _,_=>False
     | .mm k=>match o.op with
       | .call ⟨.builtin b,⟨[x,y]⟩,_⟩=>match A.ev x,A.ev y,Ry N o.dst,b with
         | .lit (.int kd p),.lit (.int TQ q),true,.max=>TQ=kd/\E5 N ops [] k l (A.put o.dst (.lit (.int kd (max p q)))) K
         | .lit (.int kd p),.lit (.int TQ q),true,.min=>TQ=kd/\E5 N ops [] k l (A.put o.dst (.lit (.int kd (min p q)))) K
         | _,_,_,_=>False
       | _=>False
     | .rs k=>match o.op,o.dst with
       | .assign x,some i=>match A.ev x,A.get i,Nat.blt i N with
         | .hd (.slot i') [] M0 g' o' lo n c',.own sz xs g o1 c,true=>(i',M0,g',o')=(i,sz,g,o1)/\(lo+n<=xs.length/\lo+c'<=c/\V.ax xs=false)/\
          E5 N ops [] k l (A.put (some i) (.own sz ((xs.drop lo).take n) g (o1+lo*sz) c')) K
         | _,_,_=>False
       | _,_=>False
     | _=>False
section
variable {P:Program} {N:Nat} {ops:Array Oper} {A A' A1 B:AS}
variable {w:World} {Pb Kb:Nat->Prop} {a:Act} {F:m4->List Nat}
theorem AN{x:Hint}{A:AS}{K:AS->Prop}(h:yJ N x A K):Hx N A K:=by
 unfold yJ at h;split at h;split at h;rename_i e1 e2;exact KC _ _ (bG e1) e2 h;exact h.elim;split at h;rename_i e1;exact MS _ (bG e1) h;exact h.elim;split at h;rename_i e1;split at h;rename_i e2;exact Ep _ e1 (by simpa using e2) h;exact h.elim;exact h.elim;split at h;rename_i e1;split at h;rename_i e2;split at h;rename_i e3;simp only[Zao,Bool.not_eq_true',beq_eq_false_iff_ne]at e3;obtain⟨hq,h⟩:=h;simp only[Zaq]at hq;obtain⟨rfl,rfl,rfl,rfl,hn⟩:=hq;exact Hn (bG e3.1.1) (bG e3.1.2) e3.2 e1 e2 hn h;exact h.elim;exact h.elim;exact h.elim;split at h;rename_i e1;simp only[Zao]at e1;exact FG (bG e1.1) e1.2 h;exact h.elim;exact KR _ h.1 h.2;split at h;rename_i e1;obtain⟨rfl,h⟩:=h;exact KX _ e1 h;exact h.elim;exact Jh h.1 h.2.1 h.2.2;split at h;rename_i e1 e2;exact NN e1 e2 h;exact h.elim;split at h;rename_i e1;exact zx e1 h;exact h.elim;exact zx h.1 h.2;split at h;rename_i e1;exact Em e1 h.1 rfl h.2;exact h.elim;obtain⟨h1,h⟩:=h;split at h;rename_i e2;exact Ep _ h1 (by simpa using e2) h;exact h.elim;split at h;rename_i e1;exact Fq e1 h.1 rfl h.2;exact h.elim
theorem kQ:∀ (s:Sc P) {A:AS} {K:AS->Sc P->Prop},RG N s A K->Hx N A fun B=> ∃ s',K B s':=by
 intro s;induction s with
 | h x k ih=>intro A K h;exact(AN h).bind fun B hB=>ih hB
 | ot t k ih=>
   intro A K h;simp only[RG]at h;split at h;rename_i e1 e2;exact(Bz (bG e1) e2 (K:=fun B=>Hx N B fun B=> ∃ s',K B s') fun g o c=>ih g o c (h g o c)).bind fun _ hB=>hB;exact h.elim
 | oR r p k ih=>
   intro A K h;simp only[RG]at h;split at h;rename_i e1;exact(qx e1 (K:=fun B=>Hx N B fun B=> ∃ s',K B s') fun g o c=>ih g o c (h g o c)).bind fun _ hB=>hB;exact h.elim
 | ex X post k ih=>
   intro A K h;obtain⟨⟨x,hx⟩,h⟩:=h;exact ih x (h x hx)
 | Ra r p g0 o0 sz xs k ih=>
   intro A K h;exact(qx h.1 (K:=fun B=>Hx N B fun B=> ∃ s',K B s') fun g o c=>ih g o c (h.2 g o c)).bind fun _ hB=>hB
 | _=>intro A K h;exact Hx.of ⟨_,h⟩
theorem ia{T T2:Nat}{t:TI}(h:lZ P T T2=some t):∃ e e2,tD P T=some (.sl e)/\tD P T2=some (.sl e2)/\ti P e=some t/\Yh P e t.sz=true/\0<t.sz/\0<t.O0:=by
 unfold lZ at h;split at h;rename_i e e2 h1 h2;split at h;rename_i t' h3;split at h;rename_i h4;simp only[Zan]at h;subst h;simp only[Zao]at h4;exact⟨e,e2,h1,h2,h3,h4.1.1,bG h4.1.2,bG h4.2⟩;simp at h;simp at h;simp at h
theorem wP{T:Nat}(h:zm P T=true):∃ e,tD P T=some (.sl e)/\tD P e=some (.int .u8):=by
 unfold zm at h;split at h;rename_i e h1;split at h;rename_i h2;exact⟨e,h1,h2⟩;simp at h;simp at h
theorem tI{T:Nat}(h:isStr P T=true):tD P T=some .str:=by
 unfold isStr at h;split at h;rename_i h1;exact h1;simp at h
theorem Fk:∀ (s:Sc P) {gt:GT} {l:List Oper} {A:AS} {K:AS->Sc P->Prop},E5 N ops gt s l A K->(hg:U0 ops gt A:=by exact Eg)->WL P N ops l A fun B=> ∃ s',K B s':=by
 intro s;induction s with
 | nil=>
   intro gt l A K h L7;cases l with
   | nil=>exact⟨_,h⟩
   | cons o l=>simp only[E5]at h;split at h <;> exact h.elim
 | r n A5 k ih=>
   intro gt l A K h L7;cases l with
   | nil=>exact⟨_,h⟩
   | cons o l=>
     simp only[E5]at h;split at h;rename_i C A' gt1 e;obtain⟨h1,h2⟩:=nj.1 h;obtain⟨⟨C1,e1,e2⟩,e3⟩:=sk n e L7 h1;exact pe n e1 e2 (ih h2 e3);exact h.elim
 | cg c k ih=>
   intro gt l A K h L7;cases l with
   | nil=>exact⟨_,h⟩
   | cons o l=>
     obtain⟨dst,op,ty,pos,after,D8⟩:=o;simp only[E5]at h;split at h;rename_i _ _ f xs N2 j b;split at h;rename_i G h1 h2 h3;revert h;cases hu:Tn G (j,b) gt xs.toList A with | mk C0 B=>?_
     intro h;obtain⟨Sb,h⟩:=nj.1 h;obtain⟨C1,u1,u2⟩:=lX xs.toList (fun t ht c v hv=>by have:=L7 _ ht c v hv;rw[h3]at this;exact(Option.some.inj this).symm) hu Sb;simp only[Zao,Zbl,Bool.not_eq_true']at h1;obtain⟨⟨⟨⟨h1,h4⟩,h5⟩,h6⟩,h7⟩:=h1;subst h1;refine GH (eG h4) h3 u1 h5 rfl (fun hG=>⟨u2,?_,h6,h7⟩) (ih h.2 (Jl L7 h3));obtain⟨T9,hw⟩:=h.1 hG;have hc:=c.ok T9;rw[h2]at hc;have hp:=hc.DO;refine⟨hp.1,fun w Pb cargs k1 k2=>?_⟩;refine(hp.2 w Pb cargs k1 (by have:=oZ _ c.args k2;rw[hw]at this;exact this)).mono ?_;rintro e w' ⟨r,x,F,Pb',rfl,⟨H,q1,_⟩,rest⟩;exact⟨r,x,F,Pb',rfl,by rw[q1],rest⟩;exact h.elim;exact h.elim
 | ex X post k ih=>
   intro gt l A K h L7;cases l with
   | nil=>exact⟨_,h⟩
   | cons o l=>
     simp only[E5]at h;obtain⟨⟨x,hx⟩,h⟩:=h;exact ih x (h x hx)
 | Ra r p g0 o0 sz xs k ih=>
   intro gt l A K h L7;cases l with
   | nil=>exact⟨_,h⟩
   | cons o l=>
     simp only[E5]at h;split at h;exact h.elim;rename_i hg;exact sK hg (qx h.1 fun g o1 c=>ih g o1 c (h.2 g o1 c))
 | cu c k ih=>
   intro gt l A K h L7;cases l with
   | nil=>exact⟨_,h⟩
   | cons o l=>
     obtain⟨dst,op,ty,pos,after,D8⟩:=o;simp only[E5]at h;split at h;exact h.elim;rename_i hg;show F9 P N _ A _;exact c.ok rfl h.1 fun x=>ih x (h.2 x)
 | bo k ih=>
   intro gt l A K h L7;cases l with
   | nil=>exact⟨_,h⟩
   | cons o l=>
     obtain⟨dst,op,ty,pos,after,D8⟩:=o;simp only[E5]at h;split at h;exact h.elim;show F9 P N _ A _;split at h;split at h;rename_i e e1;split at h;rename_i i vs e2 e3;split at h;rename_i e4;simp only[Zao]at e4;exact Bu rfl rfl (bG e4.1.2) e1 e2 e3 e4.1.1 (bG e4.2) fun g=>ih g (h g);exact h.elim;exact h.elim;exact h.elim;exact h.elim
 | Y2 xs g0 o0 k ih=>
   intro gt l A K h L7;cases l with
   | nil=>exact⟨_,h⟩
   | cons o l=>
     obtain⟨dst,op,ty,pos,after,D8⟩:=o;simp only[E5]at h;split at h;exact h.elim;show F9 P N _ A _;split at h;split at h;rename_i t e1 e2;split at h;rename_i e3 e4;simp only[Zao,Zbl]at e1;obtain⟨⟨k1,k2,k3⟩,k4,k5,k6,k7,k8⟩:=h;obtain⟨e,e',q1,q2,q3,q4,q5,q6⟩:=ia e2;exact zY rfl e1.1 rfl (bG e1.2) q1 q2 q3 (kT q4) q5 q6 e3 k1 k2 k3 e4 k4 k5 k6 k7 fun g o1 c=>ih g o1 c (k8 g o1 c);exact h.elim;exact h.elim;exact h.elim
 | sp b a1 a2 XI XH=>
   intro gt l A K h L7;cases l with
   | nil=>exact⟨_,h⟩
   | cons o l=>
     simp only[E5]at h;cases b with
     | true=>exact XI (h.1 rfl)
     | false=>exact XH (h.2 rfl)
 | gt k ih=>
   intro gt l A K h L7;cases l with
   | nil=>exact⟨_,h⟩
   | cons o l=>
     obtain⟨dst,op,ty,pos,after,D8⟩:=o;simp only[E5]at h;split at h;rename_i j b;split at h;rename_i G hG;exact pC rfl hG (fun _=>ih h.2) (fun hf=>by rw[h.1]at hf;cases hf);exact h.elim;exact h.elim
 | gf v k ih=>
   intro gt l A K h L7;cases l with
   | nil=>exact⟨_,h⟩
   | cons o l=>
     obtain⟨dst,op,ty,pos,after,D8⟩:=o;simp only[E5]at h;split at h;rename_i j b;split at h;rename_i G hG hd;exact pC rfl hG (fun ht=>by rw[h.1]at ht;cases ht) (fun _=>⟨eG hd,.gv false v,fun _ _=>⟨rfl,⟨(fun hh=>Bool.noConfusion hh),fun _=>rfl⟩⟩,ih h.2⟩);exact h.elim;exact h.elim
 | cl c k ih=>
   intro gt l A K h L7;cases l with
   | nil=>exact⟨_,h⟩
   | cons o l=>
     obtain⟨dst,op,ty,pos,after,D8⟩:=o;simp only[E5]at h;split at h;exact h.elim;show F9 P N _ A _;split at h;split at h;rename_i C vs e1 e2 e3;simp only[Zao,Zbl]at e1;obtain⟨⟨rfl,e1⟩,e4⟩:=e1;obtain⟨k1,k2,k3,k4⟩:=h;have hc:=c.ok k3;rw[e2]at hc;have hp:=hc.DO;refine GY (Q:=fun r=>r=c.res) rfl (eG e1) ⟨hp.1,fun w Pb cargs q1 q2=>?_⟩ e3 k1 k2 (fun r hr=>by rw[hr];exact e4) (fun r hr=>by rw[hr];exact ih k4);refine(hp.2 w Pb cargs q1 q2).mono ?_;rintro e w' ⟨r,x,F,Pb',rfl,⟨H,q,_⟩,rest⟩;exact⟨r,x,F,Pb',rfl,q,rest⟩;exact h.elim;exact h.elim
 | h x k ih=>
   intro gt l A K h L7;cases l with
   | nil=>exact⟨_,h⟩
   | cons o l=>
     simp only[E5]at h;split at h;exact h.elim;rename_i hg;exact sK hg ((AN h).mono fun B hB=>ih hB)
 | ot t k ih=>
   intro gt l A K h L7;cases l with
   | nil=>exact⟨_,h⟩
   | cons o l=>
     simp only[E5]at h;split at h;exact h.elim;rename_i hg;split at h;rename_i e1 e2;exact sK hg (Bz (bG e1) e2 fun g o1 c=>ih g o1 c (h g o1 c));exact h.elim
 | oR r p k ih=>
   intro gt l A K h L7;cases l with
   | nil=>exact⟨_,h⟩
   | cons o l=>
     simp only[E5]at h;split at h;exact h.elim;rename_i hg;split at h;rename_i e1;exact sK hg (qx e1 fun g o1 c=>ih g o1 c (h g o1 c));exact h.elim
 | mv k ih=>
   intro gt l A K h L7;cases l with
   | nil=>exact⟨_,h⟩
   | cons o l=>
     obtain⟨dst,op,ty,pos,after,D8⟩:=o;simp only[E5]at h;split at h;exact h.elim;show F9 P N _ A _;split at h;split at h;rename_i e;exact Dp rfl (eG e) (ih h);exact h.elim;split at h;rename_i d vs e1;split at h;rename_i v e2;split at h;rename_i e3;simp only[Zao,Bool.not_eq_true',beq_eq_false_iff_ne]at e3;exact yw rfl rfl (bG e3.1.1.1) (bG e3.1.1.2) e3.1.2 e1 e2 e3.2 (ih h);exact h.elim;exact h.elim;exact h.elim;split at h;rename_i d i r p g g' e1 e2;split at h;rename_i g2 Vn u e3;split at h;rename_i e4;simp only[Zao,Zbl]at e4;obtain⟨hq,h⟩:=h;simp only[Zaq]at hq;obtain⟨rfl,rfl⟩:=hq;exact vT rfl rfl (bG e4.1.1) e1 e2 e3 e4.1.2 e4.2 (ih h);exact h.elim;exact h.elim;exact h.elim;exact h.elim
 | c c ks k ih=>
   intro gt l A K h L7;cases l with
   | nil=>exact⟨_,h⟩
   | cons o l=>
     obtain⟨dst,op,ty,pos,after,D8⟩:=o;simp only[E5]at h;split at h;exact h.elim;show F9 P N _ A _;split at h;split at h;rename_i vs B e1 e2;split at h;rename_i e3;simp only[Zao,Zbl]at e3;obtain⟨⟨⟨⟨h1,h2⟩,h3⟩,h4⟩,h5⟩:=e3;subst h1;obtain⟨k1,h⟩:=h;obtain⟨k2,k3,k4⟩:=jr h;refine nZ ks rfl e1 (eG h2) h3 h4 (c.ok k3) (by rw[e2];exact k1) (by rw[e2];exact h5) (by rw[e2];exact k2) ?_;rintro r H' ⟨rfl,rfl⟩;rw[e2];exact ih k4;exact h.elim;exact h.elim;exact h.elim
 | cx c ks k ih=>
   intro gt l A K h L7;cases l with
   | nil=>exact⟨_,h⟩
   | cons o l=>
     obtain⟨dst,op,ty,pos,after,D8⟩:=o;simp only[E5]at h;split at h;exact h.elim;show F9 P N _ A _;split at h;split at h;rename_i vs B e1 e2;split at h;rename_i e3;simp only[Zao,Zbl]at e3;obtain⟨⟨⟨⟨h1,h2⟩,h3⟩,h4⟩,h5⟩:=e3;subst h1;obtain⟨k1,h⟩:=h;obtain⟨k2,k3,k4⟩:=jr h;refine nZ ks rfl e1 (eG h2) h3 h4 (c.ok k3) (by rw[e2];exact k1) (by rw[e2];exact h5) (by rw[e2];exact k2) ?_;rintro r H' ⟨x,hx,rfl,rfl⟩;rw[e2];exact ih x (k4 x hx);exact h.elim;exact h.elim;exact h.elim
 | al z k ih=>
   intro gt l A K h L7;cases l with
   | nil=>exact⟨_,h⟩
   | cons o l=>
     obtain⟨dst,op,ty,pos,after,D8⟩:=o;simp only[E5]at h;split at h;exact h.elim;show F9 P N _ A _;split at h;split at h;rename_i e;simp only[Zao,Zbl]at e;obtain⟨rfl,e⟩:=e;exact rn rfl rfl (bG e) z.ok fun g=>ih g (h g);exact h.elim;exact h.elim
 | bx k ih=>
   intro gt l A K h L7;cases l with
   | nil=>exact⟨_,h⟩
   | cons o l=>
     obtain⟨dst,op,ty,pos,after,D8⟩:=o;simp only[E5]at h;split at h;exact h.elim;show F9 P N _ A _;split at h;split at h;rename_i e;simp only[Zao]at e;exact Kq rfl rfl (bG e.1) e.2 fun g=>ih g (h g);exact h.elim;exact h.elim
 | st old k ih=>
   intro gt l A K h L7;cases l with
   | nil=>exact⟨_,h⟩
   | cons o l=>
     obtain⟨dst,op,ty,pos,after,D8⟩:=o;simp only[E5]at h;split at h;exact h.elim;show F9 P N _ A _;split at h;split at h;rename_i i r p g g' e1 e2;split at h;split at h;rename_i g2 Vn u e3;split at h;rename_i e4;simp only[Zao,Zbl]at e4;obtain⟨hq,h⟩:=h;simp only[Zaq]at hq;obtain⟨rfl,rfl⟩:=hq;exact qT rfl rfl e1 e2 e3 e4.1.1 e4.1.2 e4.2 (ih h);exact h.elim;exact h.elim;split at h;rename_i u e4;simp only[Zao,Zbl]at e4;exact qT rfl rfl e1 e2 h.1 e4.1.1 e4.1.2 e4.2 (ih h.2);exact h.elim;exact h.elim;exact h.elim
 | ap k ih=>
   intro gt l A K h L7;cases l with
   | nil=>exact⟨_,h⟩
   | cons o l=>
     obtain⟨dst,op,ty,pos,after,D8⟩:=o;simp only[E5]at h;split at h;exact h.elim;show F9 P N _ A _;split at h;split at h;rename_i t e1 e2;split at h;rename_i e3 e4;simp only[Zao,Zbl]at e1;obtain⟨k1,k2,k3,k4,k5,k6⟩:=h;obtain⟨e,e',q1,q2,q3,q4,q5,q6⟩:=ia e2;exact wW rfl e1.1 rfl (bG e1.2) q1 q2 q3 (kT q4) q5 q6 e3 k1 e4 k2 k3 k4 k5 fun g o1 c=>ih g o1 c (k6 g o1 c);rename_i e3 e4;split at h;rename_i e5;simp only[Zao,Zbl]at e1;obtain⟨k1,k2,k3,k4,k5,k6⟩:=h;obtain⟨e,e',q1,q2,q3,q4,q5,q6⟩:=ia e2;exact zU rfl e1.1 rfl (bG e1.2) q1 q2 q3 (kT q4) q5 q6 e5 k1.1 k1.2 e4 k2 k3 k4 k5 fun g o1 c=>ih g o1 c (k6 g o1 c);exact h.elim;exact h.elim;exact h.elim;exact h.elim
 | bd z k ih=>
   intro gt l A K h L7;cases l with
   | nil=>exact⟨_,h⟩
   | cons o l=>
     obtain⟨dst,op,ty,pos,after,D8⟩:=o;simp only[E5]at h;split at h;exact h.elim;split at h;split at h;rename_i zs e1 e2;split at h;rename_i v e3;simp only[Zao,Zbl]at e1;obtain⟨rfl,e1⟩:=e1;have hz:=z.ok;rw[e2]at hz;exact GL zs v hz (eG e1) e3 (ih h);exact h.elim;exact h.elim;exact h.elim
 | bs k ih=>
   intro gt l A K h L7;cases l with
   | nil=>exact⟨_,h⟩
   | cons o l=>
     obtain⟨dst,op,ty,pos,after,D8⟩:=o;simp only[E5]at h;split at h;exact h.elim;split at h;split at h;rename_i e e1;split at h;rename_i i vs e2 e3;split at h;rename_i e4;simp only[Zao]at e4;exact yv e i vs ⟨e1,e2⟩ (eG e4.2) e3 e4.1 (ih h);exact h.elim;exact h.elim;exact h.elim;exact h.elim
 | O0 bs k ih=>
   intro gt l A K h L7;cases l with
   | nil=>exact⟨_,h⟩
   | cons o l=>
     obtain⟨dst,op,ty,pos,after,D8⟩:=o;simp only[E5]at h;split at h;exact h.elim;split at h;split at h;rename_i C ys e1 e2;simp only[Zao]at e1;obtain⟨hC,rfl,h⟩:=h;obtain⟨e,q1,q2⟩:=wP e1.1.1;exact AW e C bs ⟨q1,q2,tI e1.1.2⟩ (eG e1.2) e2 hC (ih h);exact h.elim;exact h.elim
 | sb bs k ih=>
   intro gt l A K h L7;cases l with
   | nil=>exact⟨_,h⟩
   | cons o l=>
     obtain⟨dst,op,ty,pos,after,D8⟩:=o;simp only[E5]at h;split at h;exact h.elim;split at h;split at h;rename_i e1;simp only[Zao]at e1;obtain⟨e,q1,q2⟩:=wP e1.1.2;exact Bf e bs ⟨tI e1.1.1,q1,q2⟩ (bG e1.2) h.1 fun g c=>ih g c (h.2 g c);exact h.elim;exact h.elim
 | mm k ih=>
   intro gt l A K h L7;cases l with
   | nil=>exact⟨_,h⟩
   | cons o l=>
     obtain⟨dst,op,ty,pos,after,D8⟩:=o;simp only[E5]at h;split at h;exact h.elim;split at h;split at h;rename_i kd p TQ q e1 e2 e3;obtain⟨rfl,h⟩:=h;exact LF _ p q (eG e3) e1 e2 (ih h);rename_i kd p TQ q e1 e2 e3;obtain⟨rfl,h⟩:=h;exact LW _ p q (eG e3) e1 e2 (ih h);exact h.elim;exact h.elim
 | rs k ih=>
   intro gt l A K h L7;cases l with
   | nil=>exact⟨_,h⟩
   | cons o l=>
     obtain⟨dst,op,ty,pos,after,D8⟩:=o;simp only[E5]at h;split at h;exact h.elim;split at h;split at h;rename_i e1 e2 e3;obtain⟨hq,⟨h1,h2,h3⟩,h⟩:=h;simp only[Zaq]at hq;obtain⟨rfl,rfl,rfl,rfl⟩:=hq;exact DB _ _ _ _ (bG e3) e1 e2 h1 h2 h3 (ih h);exact h.elim;exact h.elim
 | _=>
   intro gt l A K h L7;cases l with
   | nil=>exact⟨_,h⟩
   | cons o l=>simp only[E5]at h;split at h <;> exact h.elim
end
section
variable {P:Program} {N:Nat} {ops:Array Oper} {A A' A1 B:AS}
def nP(P:Program)(N:Nat)(ops:Array Oper)(o:Oper)(A:AS)(v:V):Prop:=
 ∀ A':AS,(∀ t,t∈o.looksAt ops->A'.get t=A.get t)->gd ops o A' (F9 P N o A' (fun B=>E1 B (A'.put o.dst v))) (cI N o.dst/\∀ w Pb,RV w Pb v undef [])
def Oi(ops:Array Oper)(Sl Hl:List Nat)(A:AS):Op->Bool
 | .load _ x=>match A.ev x with
   | .ptr (.slot i) _ _ _=>ops.toList.all (fun o=>o.dst != some i)&&!Sl.contains i
   | .ptr (.key k) _ _ _=>!Hl.contains k
   | _=>true
 | _=>true
theorem zw{o:Oper}{x:Operand}(hg:o.guard=none)(ho:o.op=.assign x)(hd:cI N o.dst)(hn:(A.ev x).df=false):nP P N ops o A (A.ev x):=by
 intro A' h1;unfold gd;rw[hg];simp only;have e1:A'.ev x=A.ev x:=bB fun t ht=>h1 t (eL (by rw[ho,ht];simp[Op.operands]));have e2:A'.drop x=A':=by
  cases x with
  | tmp t=>
    have e3:A'.get t=A.get t:=e1;have V':(A.get t).df=false:=hn;simp[AS.drop,e3,V']
  | _=>rfl
 rw[<- e1];refine uW ho hd ?_;rw[e2];exact⟨fun _=>rfl,fun _=>rfl⟩
theorem DA{d:Option Nat} {f:FuncId} {xs:Array Operand} {N2:Array TypeId} {ty:TypeId} {pos:String} {after:Array Edge}
 {Q:V->Prop} {E:V} (hd:cI N d) (hc:PC P f (xs.toList.map A.cp) Q) (hE:∀ r,Q r->r.er=E):
 nP P N ops ⟨d,.call { callee:=.value (.func f),args:=xs,argTypes:=N2 },ty,pos,after,none⟩ A E:=fun A' h1=>by
 unfold gd;refine oH rfl hd ?_ hE ⟨fun _=>rfl,fun _=>rfl⟩;rw[rF fun t ht=>h1 t (eL (by simp[Op.operands,Call.operands];simpa using ht))];exact hc
theorem uj{d:Option Nat} {T len ty:Nat} {e9:Array (Nat×Operand)} {pos:String} {after:Array Edge} (e:Nat) (i:TI) (vs:List V)
 (TZ:tD P T=some (.sl e)/\ti P e=some i) (hd:cI N d) (TY:eY A 0 e9.toList=some vs) (hB:UX P T e len i vs=true):
 nP P N ops ⟨d,.buildSlice T len e9,ty,pos,after,none⟩ A (.sl true vs):=fun A' h1=>by
 show F9 P N _ A' _;refine Ek rfl hd TZ.1 TZ.2 ?_ hB ⟨fun _=>rfl,fun _=>rfl⟩;rw[oK (A:=A) _ _ (fun t ht=>h1 t (eL (by simpa[Op.operands] using ht)))];exact TY
theorem Bb{d:Option Nat} {T ty:Nat} {e9:Array (Nat×Operand)} {pos:String} {after:Array Edge} (zs:List V) (v:V)
 (hz:nz P T (.agg zs)) (hd:cI N d) (hb:lU P A T zs e9.toList=some v):nP P N ops ⟨d,.build T e9,ty,pos,after,none⟩ A v:=fun A' h1=>by
 show F9 P N _ A' _;have e:lU P A' T zs e9.toList=some v:=by
  rw[<- hb];unfold lU;have:(e9.toList.map fun (i,x)=>(i,A'.cp x))=e9.toList.map fun (i,x)=>(i,A.cp x):=by
   apply List.map_congr_left;rintro⟨i,x⟩ hx;simp only;rw[ly (x:=x) fun t ht=>h1 t (eL (by
    subst ht;simp only[Op.operands,List.mem_map];exact⟨(i,.tmp t),hx,rfl⟩))]
  rw[this]
 obtain⟨C,k1,k2⟩:=yr e;exact yj rfl hd hz k1 k2 ⟨fun _=>rfl,fun _=>rfl⟩
theorem wG{d:Option Nat} {src dst ty:Nat} {x:Operand} {pos:String} {after:Array Edge} (e:Nat) (full:Bool) (bs:BL)
 (ht:tD P src=some (.sl e)/\tD P e=some (.int .u8)/\tD P dst=some .str) (hd:cI N d) (hx:A.ev x=.sl full (bs.map u7)):
 nP P N ops ⟨d,.convert src dst x,ty,pos,after,none⟩ A (sV bs):=fun A' h1=>by
 show F9 P N _ A' _;have e1:A'.ev x=.sl full (bs.map u7):=by rw[<- hx];exact bB fun t ht=>h1 t (eL (by rw[ht];simp[Op.operands]))
 exact rP rfl hd ht.1 ht.2.1 ht.2.2 (C:=True) (by simp only[QP,e1]) trivial ⟨fun _=>rfl,fun _=>rfl⟩
def iX(b:Option (Sum Nat (Nat×List Nat)))(B:AS):AS:=match b with
 | none=>B
 | some (.inl t)=>B.put (some t) .c9
 | some (.inr (k,p))=>B.setAt (.key k) p .c9
def Yd(A:AS)(s:Operand)(sz:Nat):Option (Prop×Option (Sum Nat (Nat×List Nat))×List V):=
 match s with
 | .const (.slice none 0 0)=>some (True,none,[])
 | .tmp t=>match A.get t with
   | .sl true []=>some (True,none,[])
   | .own M0 xs _ _ _=>some (M0=sz,some (.inl t),xs)
   | .hd (.slot i) [] M0 g o 0 n c=>match A.get i with
     | .own PZ xs g2 o2 c2=>some ((M0,PZ,g2,o2,c2,n)=(sz,sz,g,o,c,xs.length),some (.inl i),xs)
     | _=>none
   | .hd (.key k) p M0 g o 0 n c=>match A.at (.key k) p with
     | some (_,_,.own PZ xs g2 o2 c2)=>some ((M0,PZ,g2,o2,c2,n)=(sz,sz,g,o,c,xs.length),some (.inr (k,p)),xs)
     | _=>none
   | _=>none
 | _=>none
theorem JB{s:Operand}{sz:Nat}{C:Prop}{b:Option (Sum Nat (Nat×List Nat))}{xs:List V}(h:Yd A s sz=some (C,b,xs)):WB A s sz=some (C,iX b A,xs):=by
 have fin:∀ {C':Prop} {b':Option (Sum Nat (Nat×List Nat))} {xs':List V},some (C',b',xs')=some (C,b,xs)->some (C',iX b' A,xs')=some (C,iX b A,xs):=fun h=>by
  have h:=Option.some.inj h;have h1:=(Prod.mk.inj h).1;have h2:=(Prod.mk.inj (Prod.mk.inj h).2).1;have h3:=(Prod.mk.inj (Prod.mk.inj h).2).2;rw[h1,h2,h3]
 unfold Yd at h;unfold WB;split at h;exact fin h;split at h;rename_i e;(try simp only[e]);exact fin h;rename_i e;(try simp only[e]);exact fin h;rename_i e;(try simp only[e]);split at h;rename_i e2;(try simp only[e2]);exact fin h;simp at h;rename_i e;(try simp only[e]);split at h;rename_i e2;(try simp only[e2]);exact fin h;simp at h;simp at h;simp at h
def oV(s:Operand)(Sl El Hl:List Nat):Option (Sum Nat (Nat×List Nat))->Bool
 | none=>true
 | some (.inl t)=>Sl.contains t&&(match s with | .tmp q=>q==t||El.contains t | _=>false)
 | some (.inr (k,_))=>Hl.contains k
theorem EW{s:Operand} {sz:Nat} {C:Prop} {b:Option (Sum Nat (Nat×List Nat))} {xs:List V} {Sl El Hl:List Nat} (h:Yd A s sz=some (C,b,xs)) (hb:oV s Sl El Hl b=true)
 (h1:∀ t,s=.tmp t->A'.get t=A.get t) (h2:∀ t,t∈El->A'.get t=A.get t) (h3:∀ k,lk k A'.h=lk k A.h):Yd A' s sz=some (C,b,xs):=by
 unfold Yd at h ⊢;split at h;exact h;rename_i t;have hg:=h1 t rfl;have hk:∀ k p,A'.at (.key k) p=A.at (.key k) p:=fun k p=>by simp only[AS.at,h3]
 simp only[hg,hk];split at h;exact h;exact h;rename_i i M0 g o n c e;split at h;rename_i PZ xs2 g2 o2 c2 e2;have:A'.get i=A.get i:=by
  simp only[Zan]at h;obtain⟨_,h⟩:=Prod.mk.inj h;obtain⟨rfl,_⟩:=Prod.mk.inj h;simp only[oV,Zao,Bool.or_eq_true,Zbl]at hb;rcases hb.2 with q | q;rw[<- q];exact hg;exact h2 i (by simpa using q)
 simp only[this,e2];exact h;simp at h;exact h;simp at h;simp at h
def Dh(P:Program)(N:Nat)(Sl El Hl:List Nat)(o:Oper)(A:AS)(z:Option (ZT P)):Option (Prop×(Nat×Nat×Nat->AS->AS)):=
 match o.op,o.dst with
 | .alloc T,some d=>match z with
   | some z=>match T==z.T&&Nat.blt d N&&Sl.contains d&&Hl.contains d with
     | true=>some (True,fun gh B=>⟨(d,.ptr (.key d) [] gh.1 0)::B.t,(d,(gh.1,z.v))::B.h⟩)
     | false=>none
   | none=>none
 | .call ⟨.builtin .append,⟨[s,x]⟩,⟨[T,T2]⟩⟩,some d=>match o.type==T&&Nat.blt d N&&Sl.contains d,lZ P T T2 with
   | true,some t=>match Yd A s t.sz,A.ev x with
     | some (C,b,xs),.sl _ ys=>match oV s Sl El Hl b with
       | true=>some (C/\V.ax ys=false/\aR t.sz ys/\(xs.length+ys.length)*t.O0<=140737488355328,fun gh B=>(iX b B).put (some d) (.own t.sz (xs++ys) gh.1 gh.2.1 gh.2.2))
       | false=>none
     | none,.sl _ ys=>match Xq A s t.sz with
       | some (C,xs)=>some ((C/\0<ys.length)/\V.ax ys=false/\aR t.sz ys/\(xs.length+ys.length)*t.O0<=140737488355328,fun gh B=>B.put (some d) (.own t.sz (xs++ys) gh.1 gh.2.1 gh.2.2))
       | none=>none
     | _,_=>none
   | _,_=>none
 | .load T x,some d=>match ti P T,A.ev x with
   | some i,.ptr (.key k) p g g'=>match A.at (.key k) p with
     | some (g2,Vn,u)=>match Nat.blt d N&&u.n==i.sz&&i.d.agg==u.isAgg&&Sl.contains d&&Hl.contains k with
       | true=>some ((g2,Vn)=(g,g'),fun _ B=>(B.setAt (.key k) p u.kill).put (some d) u)
       | false=>none
     | none=>none
   | _,_=>none
 | _,_=>none
theorem bE{k:Nat}{p:List Nat}{v:V}{t:Nat}:(B.setAt (.key k) p v).get t=B.get t:=by
 simp only[AS.setAt];split <;> rfl
theorem pM{k q:Nat}{p:List Nat}{v:V}(h:q≠k):lk q (B.setAt (.key k) p v).h=lk q B.h:=by
 simp only[AS.setAt];split;simp only[lk];rw[if_neg h];rfl
theorem fN{k q:Nat}{p:List Nat}{v:V}{B':AS}(h:∀ k,lk k B.h=lk k B'.h):lk q (B.setAt (.key k) p v).h=lk q (B'.setAt (.key k) p v).h:=by
 simp only[AS.setAt];rw[<- h k];split;simp only[lk];split;rfl;exact h q;exact h q
theorem mS{B C:AS}{d:Option Nat}{v:V}(h:E1 B C):E1 (B.put d v) (C.put d v):=by
 cases d with
 | none=>exact h
 | some d'=>exact⟨fun t=>by rw[AS.aC,AS.aC];split
                            rfl;exact h.1 t,h.2⟩
theorem mB{k k0:Nat}{p:List Nat}{v:V}{gv:Nat×V}(h:k≠k0):E1 (AS.setAt ⟨B.t,(k,gv)::B.h⟩ (.key k0) p v) ⟨(B.setAt (.key k0) p v).t,(k,gv)::(B.setAt (.key k0) p v).h⟩:=by
 have e:lk k0 ((k,gv)::B.h)=lk k0 B.h:=by simp only[lk];rw[if_neg (Ne.symm h)]
 simp only[AS.setAt,e];split;refine⟨fun _=>rfl,fun x=>?_⟩;simp only[lk];by_cases c:x=k;rw[if_pos c,if_neg (fun c2=>h (c.symm.trans c2)),if_pos c];rw[if_neg c,if_neg c];exact⟨fun _=>rfl,fun _=>rfl⟩
theorem uc{A B:AS}{k:Nat}{gv:Nat×V}{d:Nat}{v:V}(h:E1 A ⟨B.t,(k,gv)::B.h⟩):E1 (A.put (some d) v) ⟨(B.put (some d) v).t,(k,gv)::(B.put (some d) v).h⟩:=mS h
theorem Ko{Sl El Hl:List Nat}{o:Oper}{z:Option (ZT P)}{C:Prop}{U:Nat×Nat×Nat->AS->AS}(h:Dh P N Sl El Hl o A z=some (C,U))(hC:C)(d:Nat)(hd:o.dst=some d):
 UOk U Sl Hl d/\NC P N ops El U o A:=by
 obtain⟨dst,op,ty,pos,after,D8⟩:=o;simp only at hd;subst hd;unfold Dh at h;simp only at h;split at h;rename_i T d' e;simp only[Zan]at e;subst e;split at h;rename_i z;split at h;rename_i e;simp only[Zan,Zaq]at h;obtain⟨_,rfl⟩:=h;simp only[Zao,Zbl,Zbi,Zbk]at e;obtain⟨⟨⟨rfl,e1⟩,e2⟩,e3⟩:=e;refine⟨⟨fun gh B t ht=>?_,fun gh B k hk=>?_,fun gh B B' hB=>⟨fun t=>?_,fun k=>?_⟩,fun gh B t v ht=>⟨fun q=>?_,fun k=>rfl⟩,fun gh B v=>⟨fun q=>?_,fun k=>rfl⟩,fun gh B k gv hq=>?_⟩,fun A' _ _ K hK=>?_⟩;simp only[AS.get,lk];rw[if_neg (fun c=>ht (by rw[c];exact e2))];simp only[lk];rw[if_neg (fun c=>hk (by rw[c];exact e3))];simp only[AS.get,lk];split;rfl;exact hB.1 t;simp only[lk];split;rfl;exact hB.2 k;simp only[AS.put,AS.get,lk];by_cases c:q=d;subst c;rw[if_pos rfl,if_neg (fun c=>ht (by rw[<- c];exact e2)),if_pos rfl];rw[if_neg c,if_neg c];simp only[AS.put,AS.get,lk];by_cases c:q=d;subst c;simp;rw[if_neg c,if_neg c,if_neg c];refine⟨fun _=>rfl,fun x=>?_⟩;simp only[lk];by_cases c:x=d;rw[if_pos c,if_neg (fun c2=>hq (by rw[<- c2,c];exact e3)),if_pos c];rw[if_neg c,if_neg c];exact rn rfl rfl (bG e1) z.ok fun g=>hK (g,0,0);simp at h;simp at h;rename_i s x T T2 d' e;simp only[Zan]at e;subst e;split at h;rename_i t e1 e2;split at h;rename_i Cb b xs fl ys e3 e4;split at h;rename_i e5;simp only[Zan,Zaq]at h;obtain⟨rfl,rfl⟩:=h;simp only[Zao,Zbl,Zbi,Zbk]at e1;obtain⟨⟨rfl,e1⟩,e6⟩:=e1;obtain⟨k1,k3,k4,k5⟩:=hC;have tg:∀ (B:AS) t,t ∉ Sl->(iX b B).get t=B.get t:=fun B t ht=>by
  cases b with
  | none=>rfl
  | some b=>cases b with
    | inl q=>
      simp only[oV,Zao,Zbi,Zbk]at e5;simp only[iX];rw[AS.aC,if_neg (fun c=>ht (by rw[c];exact e5.1))]
    | inr kp=>simp only[iX];exact bE
 have ZH:∀ (B B':AS) t,B.get t=B'.get t->(iX b B).get t=(iX b B').get t:=fun B B' t ht=>by
  cases b with
  | none=>exact ht
  | some b=>cases b with
    | inl q=>simp only[iX];rw[AS.aC,AS.aC,ht]
    | inr kp=>simp only[iX];rw[bE,bE];exact ht
 have th:∀ (B B':AS) k,(∀ k,lk k B.h=lk k B'.h)->lk k (iX b B).h=lk k (iX b B').h:=fun B B' k hk=>by
  cases b with
  | none=>exact hk k
  | some b=>cases b with
    | inl q=>exact hk k
    | inr kp=>exact fN hk
 refine⟨⟨fun gh B q hq=>?_,fun gh B k hk=>?_,fun gh B B' hB=>?_,fun gh B q v hq=>⟨fun q2=>?_,fun k=>th _ _ k fun _=>rfl⟩,fun gh B v=>⟨fun q=>?_,fun k=>th _ _ k fun _=>rfl⟩,fun gh B k gv hq=>?_⟩,fun A' h1 h2 K hK=>?_⟩;rw[AS.aC,if_neg (fun c=>hq (by rw[c];exact e6))];exact tg B q hq;show lk k (iX b B).h=_;cases b with
 | none=>rfl
 | some b=>cases b with
   | inl q=>rfl
   | inr kp=>
     obtain⟨k0,p0⟩:=kp;simp only[oV,Zbi,Zbk]at e5;exact pM (fun c=>hk (by rw[c];exact e5))
 exact mS ⟨fun q=>ZH _ _ q (hB.1 q),fun k=>th _ _ k hB.2⟩;rw[AS.aC,AS.aC,AS.aC];by_cases c:q2=d;subst c;rw[if_pos rfl,if_neg (fun c=>hq (by rw[<- c];exact e6)),if_pos rfl];rw[if_neg c];by_cases c2:q2=q;subst c2;rw[if_pos rfl,tg _ _ hq,AS.aC,if_pos rfl];rw[if_neg c2,if_neg c];exact ZH _ _ _ (by rw[AS.aC,if_neg c2]);rw[AS.aC,AS.aC];by_cases c:q=d;rw[if_pos c,if_pos c];rw[if_neg c,if_neg c];exact ZH _ _ _ (by rw[AS.aC,if_neg c]);refine uc ?_;cases b with
 | none=>exact⟨fun _=>rfl,fun _=>rfl⟩
 | some b=>cases b with
   | inl q=>exact⟨fun _=>rfl,fun _=>rfl⟩
   | inr kp=>
     obtain⟨k0,p0⟩:=kp;simp only[oV,Zbi,Zbk]at e5;exact mB (fun c=>hq (by rw[c];exact e5))
 obtain⟨e,e',q1,q2,q3,q4,q5,q6⟩:=ia e2;have hs:∀ t,s=.tmp t->A'.get t=A.get t:=fun t ht=>h1 t (.inl (eL Zb0));have hx:A'.ev x=A.ev x:=bB fun t ht=>h1 t (.inl (eL Zb0));have Ts:=JB (EW e3 e5 hs (fun t ht=>h1 t (.inr ht)) h2);exact wW rfl rfl rfl (bG e1) q1 q2 q3 (kT q4) q5 q6 Ts k1 (by unfold QP;rw[hx,e4]) trivial k3 k4 k5 fun g o1 c=>hK (g,o1,c);simp at h;rename_i fl ys e3 e4;split at h;rename_i C0 xs e5;simp only[Zan,Zaq]at h;obtain⟨rfl,rfl⟩:=h;simp only[Zao,Zbl,Zbi,Zbk]at e1;obtain⟨⟨rfl,e1⟩,e6⟩:=e1;obtain⟨⟨k1,k2⟩,k3,k4,k5⟩:=hC;refine⟨⟨fun gh B q hq=>?_,fun gh B k hk=>rfl,fun gh B B' hB=>mS hB,fun gh B q v hq=>⟨fun q2=>?_,fun k=>rfl⟩,fun gh B v=>⟨fun q=>?_,fun k=>rfl⟩,fun gh B k gv hq=>⟨fun _=>rfl,fun _=>rfl⟩⟩,fun A' h1 h2 K hK=>?_⟩;rw[AS.aC,if_neg (fun c=>hq (by rw[c];exact e6))];rw[AS.aC,AS.aC,AS.aC,AS.aC];by_cases c:q2=d;subst c;rw[if_pos rfl,if_neg (fun c=>hq (by rw[<- c];exact e6)),if_pos rfl];rw[if_neg c,if_neg c];rw[AS.aC,AS.aC,AS.aC];split <;> rfl;obtain⟨e,e',q1,q2,q3,q4,q5,q6⟩:=ia e2;have hs:Xq A' s t.sz=Xq A s t.sz:=by
  cases s with
  | tmp q=>simp only[Xq,h1 q (.inl (eL (by simp[Op.operands,Call.operands])))]
  | _=>rfl
 have hx:A'.ev x=A.ev x:=bB fun t ht=>h1 t (.inl (eL Zb0));exact zU rfl rfl rfl (bG e1) q1 q2 q3 (kT q4) q5 q6 (by rw[hs];exact e5) k1 k2 (by unfold QP;rw[hx,e4]) trivial k3 k4 k5 fun g o1 c=>hK (g,o1,c);simp at h;simp at h;simp at h;rename_i T x d' e;simp only[Zan]at e;subst e;split at h;rename_i i k p g g' e1 e2;split at h;rename_i g2 Vn u e3;split at h;rename_i e4;simp only[Zan]at h;obtain⟨hq,rfl⟩:=Prod.mk.inj h;subst hq;obtain⟨rfl,rfl⟩:=Prod.mk.inj hC;simp only[Zao,Zbl,Zbi,Zbk]at e4;obtain⟨⟨⟨⟨e4,e5⟩,e6⟩,e7⟩,e8⟩:=e4;refine⟨⟨fun gh B q hq=>?_,fun gh B q hq=>?_,fun gh B B' hB=>?_,fun gh B q v hq=>⟨fun q2=>?_,fun k=>fN fun _=>rfl⟩,fun gh B v=>⟨fun q=>?_,fun k=>fN fun _=>rfl⟩,fun gh B k gv hq=>uc (mB (fun c=>hq (by rw[c];exact e8)))⟩,fun A' h1 h2 K hK=>?_⟩;rw[AS.aC,if_neg (fun c=>hq (by rw[c];exact e7))];exact bE;exact pM (fun c=>hq (by rw[c];exact e8));exact mS ⟨fun q=>by rw[bE,bE];exact hB.1 q,fun k=>fN hB.2⟩;rw[AS.aC,AS.aC,AS.aC];by_cases c:q2=d;subst c;rw[if_pos rfl,if_neg (fun c=>hq (by rw[<- c];exact e7)),if_pos rfl];rw[if_neg c];by_cases c2:q2=q;subst c2;rw[if_pos rfl,bE,AS.aC,if_pos rfl];rw[if_neg c2,if_neg c,bE,bE,AS.aC,if_neg c2];rw[AS.aC,AS.aC];by_cases c:q=d;rw[if_pos c,if_pos c];rw[if_neg c,if_neg c,bE,bE,AS.aC,if_neg c];have hx:A'.ev x=A.ev x:=bB fun t ht=>h1 t (.inl (eL (by subst ht;simp[Op.operands])));exact vT rfl rfl (bG e4) e1 (by rw[hx];exact e2) (by simp only[AS.at,h2];simpa only[AS.at] using e3) e5 e6 (hK (0,0,0));simp at h;simp at h;simp at h;simp at h
end
section
variable {P:Program} {N:Nat} {ops:Array Oper} {A A' A1 B:AS} {sp:Nat} {Sl El Hl:List Nat} {U:Nat×Nat×Nat->AS->AS}
theorem JJ{d:Option Nat}{xs:Array Operand}{N2:Array TypeId}{ty:TypeId}{pos:String}{after:Array Edge}(c:WD P)(hd:cI N d)(hH:c.H=[])(k1:Qa (xs.toList.map A.cp) c.args=c.args)(k2:c.pre):
 nP P N ops ⟨d,.call { callee:=.value (.func c.f),args:=xs,argTypes:=N2 },ty,pos,after,none⟩ A c.res.er:=by
 have hc:=c.ok k2;rw[hH]at hc;have hp:=hc.DO;refine DA (Q:=fun r=>r=c.res) hd ?_ (fun r hr=>by rw[hr]);refine⟨hp.1,fun w Pb cargs q1 q2=>?_⟩;refine(hp.2 w Pb cargs q1 (by have:=oZ _ c.args q2;rw[k1]at this;exact this)).mono ?_;rintro e w' ⟨r,x,F,Pb',rfl,⟨H,q,_⟩,rest⟩;exact⟨r,x,F,Pb',rfl,q,rest⟩
end
def hdP(A:AS)(l:List Nat)(k:Nat):List Nat->Bool
 | [i]=>Nat.blt i 10&&l.contains (hM+(100*k+i))&&(N8 A.h (100*k+i)).isSome
 | [i,j]=>(Nat.blt 0 i&&Nat.blt i 10&&Nat.blt j 10)&&l.contains (hM+(100*k+(10*i+j)))&&(N8 A.h (100*k+(10*i+j))).isSome
 | _=>false
theorem DR{i:Nat}(h:i<10):TC i=[i]:=if_pos (by simpa[Nat.blt_eq] using h)
theorem It{i j:Nat}(h:0<i)(hj:j<10):TC (10*i+j)=[i,j]:=by
 unfold TC;rw[if_neg (by rw[Nat.blt_eq];omega),show (10*i+j) / 10=i from Zac,show (10*i+j) % 10=j from Zac]
theorem MH{A:AS}{l:List Nat}{k:Nat}{p:List Nat}(h:hdP A l k p=true):∃ m,p=TC m/\m<100/\hM+(100*k+m)∈l/\(N8 A.h (100*k+m)).isSome=true:=by
 unfold hdP at h;split at h;rename_i i;simp only[Zao]at h;have hi:i<10:=by simpa[Nat.blt_eq] using h.1.1
 exact⟨i,(DR hi).symm,Zac,by simpa using h.1.2,h.2⟩;rename_i i j;simp only[Zao]at h;have h1:0<i:=by simpa[Nat.blt_eq] using h.1.1.1.1
 have h2:i<10:=by simpa[Nat.blt_eq] using h.1.1.1.2
 have h3:j<10:=by simpa[Nat.blt_eq] using h.1.1.2
 exact⟨10*i+j,(It h1 h3).symm,Zac,by simpa using h.1.2,h.2⟩;cases h
def Ym(Hl prom:List Nat):Bool:=Hl.all fun x=>Nat.blt x hM||prom.contains (x-hM)
theorem vg{Hl prom:List Nat}{q:Nat}(h:Ym Hl prom=true)(hq:hM+q∈Hl):q∈prom:=by
 have:=Za2.1 h _ hq;rw[Bool.or_eq_true]at this;rcases this with h | h;exfalso;have:hM+q<hM:=by simpa[Nat.blt_eq] using h
 omega;rw[Nat.add_sub_cancel_left]at h;simpa using h
def DP(a b:List Nat):Bool:=a.all fun x=>b.contains x&&Nat.blt x hM
theorem KG{a b:List Nat}{A A':AS}(h:DP a b=true)(h2:Vq A' A (some b)):∀ k,k∈a->lk k A'.h=lk k A.h:=fun k hk=>by
 have:=Za2.1 h k hk;rw[Zao]at this;have h3:=h2 k (by simpa using this.1);unfold S8 at h3;rw[if_pos this.2]at h3;exact h3
theorem Gh{A:AS}{k i g o n:Nat}{v:V}(h:N8 A.h (100*k+i)=some (g,o,v,n))(hi:i<100):∃ sz xs g1 o1 c,v=.own sz [] g1 o1 c/\n=xs.length/\A.at (.key k) (TC i)=some (g,o,.own sz xs g1 o1 c):=by
 unfold N8 at h;rw[show (100*k+i) / 100=k from Zac,show (100*k+i) % 100=i from Zac]at h;split at h;rename_i g0 v0 e;unfold Ul at h;split at h;rename_i g' o' sz xs g1 o1 c e2;simp only[Zan,Zaq]at h;obtain⟨rfl,rfl,rfl,rfl⟩:=h;exact⟨sz,xs,g1,o1,c,rfl,rfl,by simp only[AS.at,e,e2]⟩;cases h;cases h
theorem Jp{A A':AS}{k i g o:Nat}{T:TI}(h:N8 A'.h (100*k+i)=N8 A.h (100*k+i))(hi:i<100)(hs:(N8 A.h (100*k+i)).isSome=true):
 kS A' (some T) (.ptr (.key k) (TC i) g o)=kS A (some T) (.ptr (.key k) (TC i) g o):=by
 obtain⟨⟨g1,o1,v,n⟩,e⟩:=Option.isSome_iff_exists.1 hs;obtain⟨sz,xs,g2,o2,c,rfl,rfl,e1⟩:=Gh e hi;obtain⟨M0,xs',Vn,o2',c',h1,h2,e2⟩:=Gh (h.trans e) hi;cases h1;simp only[kS,e1,e2,V.Ti,h2,V.n,V.isAgg]
def mr(El:List Nat)(fr:Option (List Nat))(A:AS):Op->Bool
 | .load _ x=>match A.ev x with
   | .ptr (.slot i) _ _ _=>El.contains i
   | .ptr (.key k) p _ _=>match fr with
     | none=>true
     | some l=>(Nat.blt k hM&&l.contains k)||hdP A l k p
   | _=>true
 | _=>true
def fh(A:AS):List Operand->List Nat
 | []=>[]
 | x::xs=>match x with
   | .tmp t=>match (A.get t).df with
     | true=>t::fh (A.drop x) xs
     | false=>fh (A.drop x) xs
   | _=>fh (A.drop x) xs
def jN(ts:List Nat)(A:AS):AS:=⟨ts.map (fun t=>(t,V.c9))++A.t,A.h⟩
def sub(a b:List Nat):Bool:=a.all fun x=>b.contains x
def ur(ops:Array Oper)(tb:List (Nat×Sq)){P:Program}(zs:List (Nat×ZT P))(i:Nat)(o:Oper):Bool:=
 (lk i zs).isNone&&!(bD ops tb i).Y1&&(bD ops tb i).Sl==o.dst.toList&&(bD ops tb i).Hl==[]
def nJ(P:Program)(N:Nat)(ops:Array Oper)(tb:List (Nat×Sq))(zs:List (Nat×ZT P)):Nat->List Nat->List V->AS->Option (Prop×AS)
 | 0,_,_,A=>some (True,A)
 | _+1,[],_,A=>some (True,A)
 | n+1,i::rest,A5,A=>
   match ops[i]? with
   | none=>none
   | some o=>match ur ops tb zs i o with
     | false=>none
     | true=>match o.dst with
       | none=>none
       | some d=>if d<N then
         match o.guard with
         | some (j,b)=>match QC A ops j b with
           | some G=>match AS.un G (iT o.op) A with
             | (C0,B)=>match sY P B o.op A5 with
               | some (C,v,A5)=>if (St N (iT o.op)&&!v.gT&&mr (bD ops tb i).El (bD ops tb i).fr B o.op)=true then match nJ P N ops tb zs n rest A5 (A.put (some d) (.gv G v)) with
                 | some (C',A')=>some ((G=true->C0/\C)/\C',A')
                 | none=>none else none
               | none=>none
           | none=>none
         | none=>match o.op with
           | .assign x=>if (A.ev x).df=false then nJ P N ops tb zs n rest A5 (A.put (some d) (A.ev x)) else none
           | op=>if mr (bD ops tb i).El (bD ops tb i).fr A op=true then match sY P A op A5 with
             | some (C,v,A5)=>match nJ P N ops tb zs n rest A5 (A.put (some d) v) with
               | some (C',A')=>if mg op=true then some (C',A') else some (C/\C',A')
               | none=>none
             | none=>none else none
         else none
def oj(P:Program)(N:Nat)(ops:Array Oper)(tb:List (Nat×Sq))(zs:List (Nat×ZT P)):Nat->List Nat->List V->AS->Option (List Prop×AS)
 | 0,_,_,A=>some ([],A)
 | _+1,[],_,A=>some ([],A)
 | n+1,i::rest,A5,A=>
   match ops[i]? with
   | none=>none
   | some o=>match ur ops tb zs i o with
     | false=>none
     | true=>match o.dst with
       | none=>none
       | some d=>if d<N then
         match o.guard with
         | some (j,b)=>match QC A ops j b with
           | some G=>match Tn G (j,b) [] (iT o.op) A with
             | (C0,B)=>match sY P B o.op A5 with
               | some (C,v,A5)=>if (St N (iT o.op)&&!v.gT&&mr (bD ops tb i).El (bD ops tb i).fr B o.op)=true then match oj P N ops tb zs n rest A5 (A.put (some d) (.gv G v)) with
                 | some (C',A')=>some (C0++(if mg o.op=true then C' else (G=true->C)::C'),A')
                 | none=>none else none
               | none=>none
           | none=>none
         | none=>match o.op with
           | .assign x=>if (A.ev x).df=false then oj P N ops tb zs n rest A5 (A.put (some d) (A.ev x)) else none
           | op=>if mr (bD ops tb i).El (bD ops tb i).fr A op=true then match sY P A op A5 with
             | some (C,v,A5)=>match oj P N ops tb zs n rest A5 (A.put (some d) v) with
               | some (C',A')=>if mg op=true then some (C',A') else some (C::C',A')
               | none=>none
             | none=>none else none
         else none
section
variable {P:Program} {N:Nat} {ops:Array Oper} {tb:List (Nat×Sq)} {zs:List (Nat×ZT P)}
theorem qj:∀ (n:Nat) {l:List Nat} {A5:List V} {A A':AS} {cs:List Prop},oj P N ops tb zs n l A5 A=some (cs,A')->(∀ c,c∈cs->c)->∃ C,nJ P N ops tb zs n l A5 A=some (C,A')/\C
 | 0,l,A5,A,A',cs,h,hc=>by
   simp only[oj,Zan,Zaq]at h;obtain⟨_,rfl⟩:=h;exact⟨True,by simp only[nJ],trivial⟩
 | n+1,[],A5,A,A',cs,h,hc=>by
   simp only[oj,Zan,Zaq]at h;obtain⟨_,rfl⟩:=h;exact⟨True,by simp only[nJ],trivial⟩
 | n+1,i::l,A5,A,A',cs,h,hc=>by
   unfold oj at h;unfold nJ;split at h;cases h;rename_i o ho;simp only[ho];split at h;cases h;rename_i hv;split at h;cases h;rename_i d hd;split at h
   case isFalse=>cases h
   rename_i Vg;simp only[hd,if_pos Vg];split at h;rename_i j b hg;split at h;rename_i G hG;split at h;rename_i C0 B hu;split at h;rename_i C v Rr hs;split at h;rename_i hk;split at h;rename_i C' A1 hr;simp only[Zan,Zaq]at h;obtain⟨rfl,rfl⟩:=h;obtain⟨C1,e1,e2⟩:=lX (iT o.op) (fun t ht=>by simp at ht) hu (fun c Um=>hc c (List.mem_append_left _ Um));obtain⟨C2,e3,e4⟩:=qj n hr (fun c Um=>hc c (List.mem_append_right _ (by split <;> simp[Um])));simp only[hG,e1,hs,if_pos hk,e3];refine⟨_,rfl,fun PV=>⟨e2,?_⟩,e4⟩;by_cases ht:mg o.op=true;exact mL ht hs;exact hc (G=true->C) (List.mem_append_right _ (by rw[if_neg ht];exact List.mem_cons_self ..)) PV;cases h;cases h;cases h;cases h
   · rename_i hg;split at h;rename_i x hx;split at h;rename_i ho;obtain⟨C,e1,e2⟩:=qj n h hc;simp only[hx,if_pos ho];exact⟨C,e1,e2⟩;cases h
     · rename_i hx;split at h
       case isFalse=>cases h
       rename_i Zf;split at h;rename_i C v Rr hs;split at h;rename_i C' A1 hr;have key:(∀ c,c∈C'->c)/\C/\A1=A':=by
        split at h;rename_i ht;simp only[Zan,Zaq]at h;obtain⟨rfl,rfl⟩:=h;exact⟨hc,mL ht hs,rfl⟩;simp only[Zan,Zaq]at h;obtain⟨rfl,rfl⟩:=h;exact⟨fun c Um=>hc c (List.mem_cons_of_mem _ Um),hc _ (List.mem_cons_self ..),rfl⟩
       obtain⟨k1,k2,rfl⟩:=key;obtain⟨C2,e3,e4⟩:=qj n hr k1;simp only[if_pos Zf,hs,e3];split;exact⟨_,rfl,e4⟩;exact⟨_,rfl,k2,e4⟩;cases h;cases h
end
def jP(d:Option Nat)(ts:List Nat)(ks:List (Nat×Nat))(r:V)(H:List (Nat×(Nat×V)))(A:AS):AS:=((jN ts A).back ks H).put d r
def Pt{P:Program}(N:Nat)(ops:Array Oper)(tb:List (Nat×Sq))(zs:List (Nat×ZT P)):Sc P->List Nat->AS->(AS->Sc P->Prop)->Prop
 | s,[],A,K=>K A s
 | .r n A5 k,l,A,K=>match oj P N ops tb zs n l A5 A with
   | some (C,A')=>cj C (Pt N ops tb zs k (l.drop n) A' K)
   | none=>False
 | .h x k,i::l,A,K=>match x with
   | .m9 t v=>A.get t=v/\Pt N ops tb zs k (i::l) (A.put (some t) v) K
   | .s8 q v=>match lk q A.h with
     | some (g,u)=>u=v/\Pt N ops tb zs k (i::l) ⟨A.t,(q,(g,v))::A.h⟩ K
     | none=>False
   | _=>False
 | .ua k,i::l,A,K=>match ops[i]?,lk i zs with
   | some o,some z=> ∀ g,Pt N ops tb zs (k g) l (RC (o.dst.getD 0) z.v g A) K
   | _,_=>False
 | .cg c k,i::l,A,K=>match ops[i]?,lk i zs with
   | some o,none=>match ur ops tb zs i o,o.op,o.guard with
     | true,.call ⟨.value (.func f),xs,_⟩,some (j,b)=>match f==c.f&&Ry N o.dst&&St N xs.toList&&!c.res.er.gT&&!c.res.er.df,c.H,QC A ops j b with
       | true,[],some G=>match Tn G (j,b) [] xs.toList A with
         | (C,B)=>cj C ((G=true->c.pre/\Qa (xs.toList.map B.cp) c.args=c.args)/\Pt N ops tb zs k l (A.put o.dst (.gv G c.res.er)) K)
       | _,_,_=>False
     | _,_,_=>False
   | _,_=>False
 | .vu c k,i::l,A,K=>match ops[i]?,lk i zs with
   | some o,none=>match ur ops tb zs i o with
     | true=>c.pre N ops o A/\Pt N ops tb zs k l (A.put o.dst c.v) K
     | false=>False
   | _,_=>False
 | s,i::l,A,K=>match ops[i]?,lk i zs with
   | none,_=>False
   | _,some _=>False
   | some o,none=>match o.guard with
     | some _=>False
     | none=>match (bD ops tb i).Y1 with
       | false=>match ur ops tb zs i o with
         | true=>match s with
           | .c c _ k=>match o.op with
             | .call ⟨.value (.func f),xs,_⟩=>match f==c.f&&Ry N o.dst,c.H with
               | true,[]=>Qa (xs.toList.map A.cp) c.args=c.args/\c.pre/\Pt N ops tb zs k l (A.put o.dst c.res.er) K
               | _,_=>False
             | _=>False
           | .bd z k=>match o.op with
             | .build T e9=>match T==z.T&&Ry N o.dst,z.v with
               | true,.agg us=>match lU P A T us e9.toList with
                 | some v=>Pt N ops tb zs k l (A.put o.dst v) K
                 | none=>False
               | _,_=>False
             | _=>False
           | .bs k=>match o.op with
             | .buildSlice T len e9=>match tD P T with
               | some (.sl e)=>match ti P e,eY A 0 e9.toList with
                 | some t,some vs=>match UX P T e len t vs&&Ry N o.dst with
                   | true=>Pt N ops tb zs k l (A.put o.dst (.sl true vs)) K
                   | false=>False
                 | _,_=>False
               | _=>False
             | _=>False
           | .mm k=>match o.op with
             | .call ⟨.builtin b,⟨[x,y]⟩,_⟩=>match A.ev x,A.ev y,Ry N o.dst,b with
               | .lit (.int kd p),.lit (.int TQ q),true,.max=>TQ=kd/\Pt N ops tb zs k l (A.put o.dst (.lit (.int kd (max p q)))) K
               | .lit (.int kd p),.lit (.int TQ q),true,.min=>TQ=kd/\Pt N ops tb zs k l (A.put o.dst (.lit (.int kd (min p q)))) K
               | _,_,_,_=>False
             | _=>False
           | .O0 bs k=>match o.op with
             | .convert src dst x=>match zm P src&&isStr P dst&&Ry N o.dst,A.ev x with
               | true,.sl _ ys=>ys=bs.map u7/\Pt N ops tb zs k l (A.put o.dst (sV bs)) K
               | _,_=>False
             | _=>False
           | _=>False
         | false=>False
       | true=>match s with
         | .ux z k=>match Dh P N (bD ops tb i).Sl (bD ops tb i).El (bD ops tb i).Hl o A z,(bD ops tb i).fr,Ym (bD ops tb i).Hl [] with
           | some (C,U),none,true=>C/\∀ g o1 c,Pt N ops tb zs (k g o1 c) l (U (g,o1,c) A) K
           | _,_,_=>False
         | .eu c k=>match (bD ops tb i).fr,Ym (bD ops tb i).Hl c.prom with
           | none,true=>c.pre N o A (bD ops tb i).Sl (bD ops tb i).Hl/\∀ x,Pt N ops tb zs (k x) l (c.U o A x A) K
           | _,_=>False
         | .c c ks k=>match o.op with
           | .call ⟨.value fx,xs,_⟩=>match A.ev fx,A.tk xs.toList,(bD ops tb i).fr with
             | .lit (.func (.func f) first A7),(vs,_),some fl=>
               match f==c.f&&Ry N o.dst&&P0 (ks.map (·.1))&&P0 (ks.map (·.2))&&c.args.length==(first.toList.map cV++vs++A7.toList.map cV).length&&
                sub (fh A xs.toList) (bD ops tb i).Sl&&sub o.dst.toList (bD ops tb i).Sl&&sub (ks.map (·.2)) (bD ops tb i).Hl&&DP (ks.map (·.2)) fl&&Ym (bD ops tb i).Hl [] with
               | true=>Qa (first.toList.map cV++vs++A7.toList.map cV) c.args=c.args/\nr A ks c.H (c.pre/\Pt N ops tb zs k l (jP o.dst (fh A xs.toList) ks (c.res.Q9 (jO ks)) c.H' A) K)
               | false=>False
             | _,_,_=>False
           | _=>False
         | .cx c ks k=>match o.op with
           | .call ⟨.value fx,xs,_⟩=>match A.ev fx,A.tk xs.toList,(bD ops tb i).fr with
             | .lit (.func (.func f) first A7),(vs,_),some fl=>
               match f==c.f&&Ry N o.dst&&P0 (ks.map (·.1))&&P0 (ks.map (·.2))&&c.args.length==(first.toList.map cV++vs++A7.toList.map cV).length&&
                sub (fh A xs.toList) (bD ops tb i).Sl&&sub o.dst.toList (bD ops tb i).Sl&&sub (ks.map (·.2)) (bD ops tb i).Hl&&DP (ks.map (·.2)) fl&&Ym (bD ops tb i).Hl [] with
               | true=>Qa (first.toList.map cV++vs++A7.toList.map cV) c.args=c.args/\nr A ks c.H (c.pre/\∀ x,c.post x->Pt N ops tb zs (k x) l (jP o.dst (fh A xs.toList) ks ((c.res x).Q9 (jO ks)) (c.H' x) A) K)
               | false=>False
             | _,_,_=>False
           | _=>False
         | _=>False
section
variable {P:Program} {N:Nat} {ops:Array Oper} {A A' A1 B:AS} {tb:List (Nat×Sq)} {zs:List (Nat×ZT P)}
theorem nW{ts:List Nat}{t:Nat}:(jN ts A).get t=if t∈ts then .c9 else A.get t:=by
 induction ts with
 | nil=>simp[jN]
 | cons a ts ih=>
   simp only[jN,AS.get,Zbe,List.cons_append,lk]at ih ⊢;by_cases e:t=a;rw[if_pos e,if_pos (by simp[e])];rfl;rw[if_neg e,ih];by_cases e2:t∈ts;rw[if_pos e2,if_pos (by simp[e2])];rw[if_neg e2,if_neg (by simp[e,e2])]
theorem tG:∀ (xs:List Operand) {A:AS},E1 (A.tk xs).2 (jN (fh A xs) A)
 | [],A=>⟨fun _=>rfl,fun _=>rfl⟩
 | x::xs,A=>by
   have ih:=tG xs (A:=A.drop x);simp only[AS.tk];have e:(match (A.drop x).tk xs with | (vs,B)=>((Yk (A.ev x)::vs,B):List V×AS)).2=((A.drop x).tk xs).2:=rfl;rw[e];have hh:(A.drop x).h=A.h:=by
    cases x with
    | tmp t=>simp only[AS.drop];split <;> rfl
    | _=>rfl
   refine⟨fun q=>?_,fun k=>by rw[ih.2 k];simp only[jN,hh]⟩;rw[ih.1 q,nW,nW];cases x with
   | tmp t=>
     cases ho:(A.get t).df with
     | true=>
       have ed:A.drop (.tmp t)=A.put (some t) .c9:=by simp[AS.drop,ho]
       have eo:fh A (.tmp t::xs)=t::fh (A.drop (.tmp t)) xs:=by simp only[fh,ho]
       simp only[eo,ed,List.mem_cons];by_cases c:q=t;subst c;simp only[true_or,if_true];split;rfl;rw[AS.aC,if_pos rfl];by_cases c2:q∈fh (A.put (some t) .c9) xs;rw[if_pos c2,if_pos (.inr c2)];rw[if_neg c2,if_neg (by simp[c,c2]),AS.aC,if_neg c]
     | false=>
       have ed:A.drop (.tmp t)=A:=by simp[AS.drop,ho]
       have eo:fh A (.tmp t::xs)=fh (A.drop (.tmp t)) xs:=by simp only[fh,ho]
       simp only[eo,ed]
   | _=>rfl
theorem Dl{x:Operand}(h:∀ t,x=.tmp t->A'.get t=A.get t){q:Nat}(hq:A'.get q=A.get q):(A'.drop x).get q=(A.drop x).get q:=by
 cases x with
 | tmp t=>
   simp only[AS.drop,h t rfl];split;rw[AS.aC,AS.aC];split;rfl;exact hq;exact hq
 | _=>exact hq
theorem tX:∀ (xs:List Operand) {A A':AS},(∀ t,Operand.tmp t∈xs->A'.get t=A.get t)->(A'.tk xs).1=(A.tk xs).1/\fh A' xs=fh A xs
 | [],A,A',_=>⟨rfl,rfl⟩
 | x::xs,A,A',h=>by
   have hx:∀ t,x=.tmp t->A'.get t=A.get t:=fun t e=>h t (by simp[e]);have ih:=tX xs (A:=A.drop x) (A':=A'.drop x) fun t ht=>Dl hx (h t (by simp[ht]));refine⟨?_,?_⟩;show Yk (A'.ev x)::((A'.drop x).tk xs).1=Yk (A.ev x)::((A.drop x).tk xs).1;rw[ih.1,bB (x:=x) hx];cases x with
   | tmp t=>simp only[fh,hx t rfl,ih.2]
   | _=>simp only[fh];exact ih.2
theorem Hi{ks:List (Nat×Nat)}{H:List (Nat×(Nat×V))}{t:Nat}:(A.back ks H).get t=A.get t:=rfl
theorem Co{ks:List (Nat×Nat)}{H:List (Nat×(Nat×V))}{k:Nat}(hn:P0 (ks.map (·.2))=true)(hk:k ∉ ks.map (·.2)):lk k (A.back ks H).h=lk k A.h:=by
 have hs:lk k (Rq ks)=none:=mA (by simpa[Rq,List.map_map,Function.comp_def] using hk);simp only[AS.back];rw[lr,px hn,hs];simp only[Option.bind_none];rw[iF,hs];rfl
theorem pD{ks:List (Nat×Nat)}{H:List (Nat×(Nat×V))}(h:∀ k,lk k A.h=lk k B.h)(k:Nat):lk k (A.back ks H).h=lk k (B.back ks H).h:=by
 simp only[AS.back];rw[lr,lr,iF,iF,h]
theorem LB{ks:List (Nat×Nat)}{k q:Nat}(h:lk k ks=some q):q∈ks.map (·.2):=List.mem_map.2 ⟨_,uY h,rfl⟩
theorem mb{ks:List (Nat×Nat)}(h:∀ k,k∈ks.map (·.2)->lk k B.h=lk k A.h):∀ {H:List (Nat×(Nat×V))},ln A ks H->ln B ks H
 | [],_=>trivial
 | (k,(g,v))::H,hr=>by
   refine⟨?_,mb h hr.2⟩;have:=hr.1;split at this;rename_i q e;rw[h q (LB e)];exact this;exact this.elim
theorem jc{d:Option Nat}{ts:List Nat}{ks:List (Nat×Nat)}{r:V}{H:List (Nat×(Nat×V))}{t:Nat}:(jP d ts ks r H A).get t=if d=some t then r else if t∈ts then .c9 else A.get t:=by
 unfold jP;cases d with
 | none=>rw[if_neg Zad];exact nW
 | some d=>
   rw[AS.aC,Hi,nW];by_cases e:t=d;subst e;rw[if_pos rfl,if_pos rfl];have e2: ¬ (some d=some t):=fun c=>e (by simpa using c.symm);rw[if_neg e,if_neg e2]
theorem jU{d:Option Nat}{ts:List Nat}{ks:List (Nat×Nat)}{r:V}{H:List (Nat×(Nat×V))}:(jP d ts ks r H A).h=(A.back ks H).h:=by
 unfold jP;rw[nM];rfl
theorem yN{G:Type} {d:Option Nat} {ts:List Nat} {ks:List (Nat×Nat)} {r:G->V} {H:G->List (Nat×(Nat×V))} {fs Sl Hl:List Nat} (hn:P0 (ks.map (·.2))=true)
 (h1:sub ts Sl=true) (h2:sub d.toList Sl=true) (h3:sub (ks.map (·.2)) Hl=true):Tl (fun g B=>jP d ts ks (r g) (H g) B) fs Sl Hl:=by
 have sb:∀ {a b:List Nat},sub a b=true->∀ x,x∈a->x∈b:=fun h x hx=>by
  unfold sub at h;rw[Za2]at h;simpa using h x hx
 have h1:=sb h1;have h2:=sb h2;have h3:=sb h3;refine⟨fun g B t ht=>?_,fun g B k hk=>?_,fun g B B' hB=>⟨fun t=>?_,fun k=>?_⟩,fun g B t v ht _=>⟨fun q=>?_,fun k=>?_⟩,fun g B k gv hk=>⟨fun t=>?_,fun x=>?_⟩⟩;rw[jc,if_neg (fun c=>ht (h2 t (by rw[c];simp))),if_neg (fun c=>ht (h1 t c))];rw[jU];exact Co hn (fun c=>hk (h3 k c));rw[jc,jc,hB.1 t];rw[jU,jU];exact pD hB.2 k;rw[jc,AS.aC,AS.aC,jc];by_cases c:q=t;subst c;rw[if_pos rfl,if_pos rfl,if_neg (fun c=>ht (h2 q (by rw[c];simp))),if_neg (fun c=>ht (h1 q c))];rw[if_neg c,if_neg c];rw[jU];show _=lk k (jP d ts ks (r g) (H g) B).h;rw[jU];rfl;show (jP d ts ks (r g) (H g) _).get t=(jP d ts ks (r g) (H g) B).get t;rw[jc,jc];rfl;rw[jU,jU];have hs:lk k (Rq ks)=none:=mA (by simpa[Rq,List.map_map,Function.comp_def] using fun c=>hk (h3 k c));simp only[AS.back];rw[lr,iF];simp only[lk];by_cases c:x=k;subst c;rw[if_pos rfl,if_pos rfl,px hn,hs];rfl;rw[if_neg c,if_neg c,lr,iF]
theorem sO{i:Nat}{o:Oper}{t:Nat}(ho:ops[i]? =some o)(h:Operand.tmp t∈o.op.operands.toList):t∈gg ops tb i:=by
 unfold gg;rw[ho,Zax];exact .inl (eL h)
theorem sv{i:Nat}{o:Oper}{t:Nat}(ho:ops[i]? =some o)(h:t∈o.looksAt ops):t∈gg ops tb i:=by
 unfold gg;rw[ho,Zax];exact .inl h
theorem Dv{i t:Nat}(h:t∈(bD ops tb i).El):t∈gg ops tb i:=by
 unfold gg;rw[Zax];exact .inr h
theorem AD{i:Nat} {d:Option Nat} {fx:Operand} {xs:Array Operand} {N2:Array TypeId} {ty:TypeId} {pos:String} {after:Array Edge} {f:FuncId} {first A7:Array Value} {args:List V} {H:List (Nat×(Nat×V))} {ks:List (Nat×Nat)}
 {G:Type} {res:G->V} {H':G->List (Nat×(Nat×V))}
 (ho:ops[i]? =some ⟨d,.call ⟨.value fx,xs,N2⟩,ty,pos,after,none⟩) (hfx:A.ev fx=.lit (.func (.func f) first A7)) (hd:cI N d) (S1:P0 (ks.map (·.1))=true) (Qk:P0 (ks.map (·.2))=true)
 (hc:PF P f args H (fun r h=> ∃ g,r=res g/\h=H' g)) (hargs:Qa (first.toList.map cV++(A.tk xs.toList).1++A7.toList.map cV) args=args) (hlen:args.length=(first.toList.map cV++(A.tk xs.toList).1++A7.toList.map cV).length)
 (hr:ln A ks H) {fl:List Nat} (hfl:DP (ks.map (·.2)) fl=true):Yf P N ⟨d,.call ⟨.value fx,xs,N2⟩,ty,pos,after,none⟩ A (fun g B=>jP d (fh A xs.toList) ks ((res g).Q9 (jO ks)) (H' g) B) (gg ops tb i) (some fl):=by
 refine⟨rfl,fun A' h1 h2=>?_⟩;have Xh:A'.ev fx=A.ev fx:=bB fun t ht=>h1 t (sO ho Zb0);obtain⟨t1,t2⟩:=tX xs.toList (A:=A) (A':=A') fun t ht=>h1 t (sO ho (by simp only[Op.operands,Call.operands];simp;right;simpa using ht));have V3:=tG xs.toList (A:=A');refine nZ (A:=A') ks rfl (by rw[Xh];exact hfx) hd S1 Qk hc (by rw[t1];exact hargs) (by rw[t1];exact hlen) (mb (fun k hk=>(V3.2 k).trans (KG hfl h2 k hk)) hr) ?_;rintro r H0 ⟨g,rfl,rfl⟩;refine⟨g,?_⟩;unfold jP;rw[<- t2];exact KY ⟨fun t=>V3.1 t,fun k=>pD V3.2 k⟩
theorem vk{El:List Nat} {fr:Option (List Nat)} {op:Op} (h:∀ t,Operand.tmp t∈op.operands.toList->A'.get t=A.get t) (hk:Vq A' A fr) (hr:∀ i,i∈El->A'.get i=A.get i)
 (hf:mr El fr A op=true):J1 P A' op=J1 P A op:=by
 cases op with
 | move x=>simp only[J1,RE,Df,ly (x:=x) fun t e=>h t (by simp[Op.operands,e]),bB (x:=x) fun t e=>h t (by simp[Op.operands,e])]
 | pick c a b=>
   have h1:=bB (x:=c) fun t e=>h t Zb1;have h2:=bB (x:=a) fun t e=>h t Zb1;have h3:=bB (x:=b) fun t e=>h t Zb1;simp only[J1,RE,Dk,h1,h2,h3]
 | binOp op T x y T'=>simp only[J1,RE,bB (x:=x) fun t e=>h t (by simp[Op.operands,e]),bB (x:=y) fun t e=>h t (by simp[Op.operands,e])]
 | unOp op T x=>simp only[J1,RE,bB (x:=x) fun t e=>h t (by simp[Op.operands,e])]
 | convert s d x=>simp only[J1,RE,bB (x:=x) fun t e=>h t (by simp[Op.operands,e])]
 | index T x y=>simp only[J1,RE,bB (x:=x) fun t e=>h t (by simp[Op.operands,e]),bB (x:=y) fun t e=>h t (by simp[Op.operands,e])]
 | slice T x lo hi m=>
   have h1:=bB (x:=x) fun t e=>h t Zb1;have h2:=va (x:=lo) fun t e=>h t Zb1;have h3:=va (x:=hi) fun t e=>h t Zb1;cases m with
   | none=>simp only[J1,h1,h2,h3]
   | some m=>rfl
 | extract x i=>simp only[J1,RE,bB (x:=x) fun t e=>h t (by simp[Op.operands,e])]
 | call c=>
   simp only[J1,RE,vp];split;split;rename_i x T hx _;rw[bB (x:=x) fun t e=>h t Zb2];rfl;split;rename_i x y hx;rw[bB (x:=x) fun t e=>h t Zb2,bB (x:=y) fun t e=>h t Zb2];rfl;rfl
 | fieldAddr T x j=>simp only[J1,bB (x:=x) fun t e=>h t (by simp[Op.operands,e])]
 | field T x j=>simp only[J1,ly (x:=x) fun t e=>h t (by simp[Op.operands,e])]
 | indexAddr T x y=>simp only[J1,bB (x:=x) fun t e=>h t (by simp[Op.operands,e]),bB (x:=y) fun t e=>h t (by simp[Op.operands,e])]
 | load T x=>
   have h1:=bB (x:=x) fun t e=>h t Zb1;simp only[J1,h1,kS];split;split;rename_i r p g o e;cases r with
   | key k=>
     have:lk k A'.h=lk k A.h\/∃ i,p=TC i/\i<100/\N8 A'.h (100*k+i)=N8 A.h (100*k+i)/\(N8 A.h (100*k+i)).isSome=true:=by
      cases fr with
      | none=>exact .inl (hk k)
      | some l=>
        simp only[mr,e,Bool.or_eq_true,Zao]at hf;rcases hf with ⟨c1,c2⟩ | hf;have h3:=hk k (by simpa using c2);unfold S8 at h3;rw[if_pos c1]at h3;exact .inl h3;obtain⟨i,f1,f2,f3,f4⟩:=MH hf;refine .inr ⟨i,f1,f2,?_,f4⟩;have h3:=hk _ f3;unfold S8 at h3;rw[if_neg (by simp[Nat.blt_eq]),Nat.add_sub_cancel_left]at h3;exact h3
     rcases this with e2 | ⟨i,rfl,c1,c2,c3⟩;simp only[AS.at,e2];have:=Jp (T:=by assumption) (g:=g) (o:=o) c2 c1 c3;simpa only[kS] using this
   | slot i=>
     have:A'.at (.slot i) p=A.at (.slot i) p:=by
      unfold AS.at;simp only[mr,e,Zbi,Zbk]at hf;simp only[hr i hf]
     rw[this]
   rfl;rfl;rfl
 | nilCheck x=>simp only[J1,bB (x:=x) fun t e=>h t (by simp[Op.operands,e])]
 | makeInterface T x=>simp only[J1,ly (x:=x) fun t e=>h t (by simp[Op.operands,e])]
 | typeAssert x xT T b=>
   cases b with
   | true=>simp only[J1,bB (x:=x) fun t e=>h t (by simp[Op.operands,e])]
   | false=>rfl
 | makeFunc fn p q=>
   have e1:p.toList.map A'.ev=p.toList.map A.ev:=List.map_congr_left fun x hx=>bB fun t e=>h t (by subst e;simp only[Op.operands,Array.toList_append,Zax];exact .inl hx);have e2:q.toList.map A'.ev=q.toList.map A.ev:=List.map_congr_left fun x hx=>bB fun t e=>h t (by subst e;simp only[Op.operands,Array.toList_append,Zax];exact .inr hx);simp only[J1,e1,e2]
 | _=>rfl
theorem lF{i:Nat}{o:Oper}{v:V}{fr:Option (List Nat)}(ho:ops[i]? =some o)(h:nP P N ops o A v):UZ P N ops o A v (gg ops tb i) fr:=fun A' h1 _=>h A' fun t ht=>h1 t (sv ho ht)
theorem BT{i:Nat}{o:Oper}{C:Prop}{v:V}{fr:Option (List Nat)}(ho:ops[i]? =some o)(hg:o.guard=none)(h:J1 P A o.op=some (C,v))(hC:C)(hd:cI N o.dst)(hf:mr (bD ops tb i).El fr A o.op=true):UZ P N ops o A v (gg ops tb i) fr:=by
 intro A' h1 hk;unfold gd;rw[hg];simp only;refine wZ (C:=C) (v:=v) ?_ hC hd ⟨fun _=>rfl,fun _=>rfl⟩;rw[vk (A:=A) (fun t ht=>h1 t (sO ho ht)) hk (fun i hi=>h1 i (Dv hi)) hf];exact h
theorem Eh{i:Nat} {o:Oper} {xs:List Operand} {j:Nat} {b G:Bool} {C:Prop} {B:AS} {v:V} {fr:Option (List Nat)} (ho:ops[i]? =some o) (hg:o.guard=some (j,b)) (hG:QC A ops j b=some G) (hu:AS.un G xs A=(C,B))
 (UL:∀ t,Operand.tmp t∈xs->Operand.tmp t∈o.op.operands.toList) (P5:St N xs=true) (hd:cI N o.dst) (hf:mr (bD ops tb i).El fr B o.op=true) (hC:G=true->C/\v.gT=false/\∃ C',J1 P B o.op=some (C',v)/\C'):UZ P N ops o A (.gv G v) (gg ops tb i) fr:=by
 intro A' h1 hk;have hG':QC A' ops j b=some G:=by
  rw[<- hG];unfold QC;cases hj:(ops[j]?).bind (·.dst) with
  | none=>rfl
  | some d=>
    simp only[Option.map_some];rw[h1 d (sv ho (by unfold Oper.looksAt;rw[Zax];right;rw[hg];simp[hj]))]
 obtain⟨B',k1,k2,k3,k4⟩:=jS xs (A':=A') hu (fun t ht=>h1 t (sO ho (UL t ht)));have N6:J1 P B' o.op=J1 P B o.op:=by
  refine vk (A:=B) (fun t ht=>k2 t (h1 t (sO ho ht))) ?_ (fun i hi=>k2 i (h1 i (Dv hi))) hf;cases fr with
  | none=>exact fun k=>by rw[k3,k4];exact hk k
  | some l=>exact fun k hl=>(vJ (A:=A') (fun k=>by rw[k3]) k).trans ((hk k hl).trans (vJ (fun k=>by rw[k4]) k))
 refine pC hg hG' (fun PV=>?_) (fun We=>⟨hd,fun _ _=>⟨rfl,(fun h=>by rw[We]at h;cases h),fun _=>rfl⟩⟩);obtain⟨c1,c3,C',B5,c2⟩:=hC PV;rw[<- N6]at B5;refine jl (v:=.gv G v) hd ⟨fun _=>rfl,fun _=>rfl⟩ fun Pb Kb a w F hs=>?_;obtain⟨F',B0⟩:=jQ PV _ k1 c1 hs (pc P5);obtain⟨x,hx,hr⟩:=wA B5 c2 B0 rfl;exact⟨x,hx,rfl,fun _=>zR hr c3,fun h=>by rw[PV]at h;cases h⟩
theorem FN{i:Nat} {d:Option Nat} {f:FuncId} {xs:Array Operand} {N2:Array TypeId} {ty:TypeId} {pos:String} {after:Array Edge}
 {j:Nat} {b G:Bool} {C:Prop} {B:AS} {E:V} {fr:Option (List Nat)} (ho:ops[i]? =some ⟨d,.call ⟨.value (.func f),xs,N2⟩,ty,pos,after,some (j,b)⟩) (hd:cI N d) (hG:QC A ops j b=some G) (hu:AS.un G xs.toList A=(C,B)) (P5:St N xs.toList=true)
 (hc:G=true->C/\PC P f (xs.toList.map B.cp) (fun r=>r.er=E)/\E.gT=false/\E.df=false):UZ P N ops ⟨d,.call ⟨.value (.func f),xs,N2⟩,ty,pos,after,some (j,b)⟩ A (.gv G E) (gg ops tb i) fr:=by
 intro A' h1 hk;have hG':QC A' ops j b=some G:=by
  rw[<- hG];unfold QC;cases hj:(ops[j]?).bind (·.dst) with
  | none=>rfl
  | some d=>
    simp only[Option.map_some];rw[h1 d (sv ho (by unfold Oper.looksAt;rw[Zax];right;simp[hj]))]
 have hx:∀ t,Operand.tmp t∈xs.toList->A'.get t=A.get t:=fun t ht=>h1 t (sO ho (by simp[Op.operands,Call.operands];simpa using ht));obtain⟨B',k1,k2,k3,k4⟩:=jS xs.toList (A':=A') hu hx;refine pC (j:=j) (b:=b) rfl hG' (fun PV=>?_) (fun We=>⟨hd,fun _ _=>⟨rfl,(fun h=>by rw[We]at h;cases h),fun _=>rfl⟩⟩);obtain⟨c1,c2,c3,c4⟩:=hc PV;rw[<- rF (A':=B') (A:=B) fun t ht=>k2 t (hx t ht)]at c2;intro Pb Kb a w F Q' hs;obtain⟨F',B0⟩:=jQ PV _ k1 c1 hs (pc P5);have hw:=nA PV _ k1 c1;have M5:=oH (N:=N) (o:=⟨d,.call { callee:=.value (.func f),args:=xs,argTypes:=N2 },ty,pos,after,some (j,b)⟩) (K:=fun A1=>A1=B'.put d E) (A:=B') rfl hd c2 (fun _ h=>h) rfl;refine Oper.wp_mono ?_ (M5 Pb Kb a w F' Q' B0);rintro a' w' ⟨A1,Pb',E7,F2,rfl,M4,q3,q4,q5,q6⟩;refine⟨A'.put d (.gv G E),Pb',E7,F2,⟨fun _=>rfl,fun _=>rfl⟩,M4.wrap ?_,q3,q4,q5,q6⟩;cases d with
 | none=>exact hw
 | some d=>
   refine⟨fun i=>?_,hw.2⟩;rw[AS.aC,AS.aC];by_cases e:i=d;rw[if_pos e,if_pos e];exact .inr ⟨G,rfl,PV,c4,c3⟩;rw[if_neg e,if_neg e];exact hw.1 i
theorem gp{i:Nat}{o:Oper}{l:List Nat}{v:V}{K:AS->Prop}(ho:ops[i]? =some o)(hv:ur ops tb zs i o=true)(h:UZ P N ops o A v (gg ops tb i) (bD ops tb i).fr)(hK:PY P N ops tb zs l (A.put o.dst v) K):PY P N ops tb zs (i::l) A K:=by
 unfold ur at hv;simp only[Zao,Bool.not_eq_true',Zbl]at hv;refine⟨o,ho,?_⟩;rw[show lk i zs=none from by simpa using hv.1.1.1];simp only;rw[hv.1.1.2];exact⟨hv.1.2,hv.2,v,h,hK⟩
theorem ph{K:AS->Prop}:∀ (n:Nat) {l:List Nat} (A5:List V) {A:AS} (C:Prop) (A':AS),
 nJ P N ops tb zs n l A5 A=some (C,A')->C->PY P N ops tb zs (l.drop n) A' K->PY P N ops tb zs l A K
 | 0,l,A5,A,C,A',h,hC,hK=>by
   simp only[nJ,Zan,Zaq]at h;obtain⟨_,rfl⟩:=h;simpa using hK
 | n+1,[],A5,A,C,A',h,hC,hK=>by
   simp only[nJ,Zan,Zaq]at h;obtain⟨_,rfl⟩:=h;simpa using hK
 | n+1,i::l,A5,A,C,A',h,hC,hK=>by
   have R':(i::l).drop (n+1)=l.drop n:=rfl;rw[R']at hK;unfold nJ at h;split at h;simp at h;rename_i o ho;split at h;simp at h;rename_i P4;split at h;simp at h;rename_i d hd;split at h
   case isFalse=>simp at h
   rename_i Vg;have Q2:cI N o.dst:=by rw[hd];exact Vg
   cases hg:o.guard with
   | some jb=>
     obtain⟨j,b⟩:=jb;rw[hg]at h;simp only at h;split at h
     case h_2=>simp at h
     rename_i G hG;cases hu:AS.un G (iT o.op) A with
     | mk C0 B=>
       rw[hu]at h;simp only at h;split at h
       case h_2=>simp at h
       rename_i C1 v RT B5;split at h
       case isFalse=>simp at h
       rename_i P5;simp only[Zao,Bool.not_eq_true']at P5;split at h
       case h_2=>simp at h
       rename_i C2 A2 hr;simp only[Zan,Zaq]at h;obtain⟨rfl,rfl⟩:=h;exact gp ho P4 (Eh (v:=v) ho hg hG hu (Ej _) P5.1.1 Q2 P5.2 (fun PV=>⟨(hC.1 PV).1,P5.1.2,sh B5 (hC.1 PV).2⟩)) (by rw[hd];exact ph n RT C2 A2 hr hC.2 hK)
   | none=>
     rw[hg]at h;simp only at h;split at h
     · rename_i x O9;split at h
       case isFalse=>simp at h
       rename_i L5;exact gp ho P4 (lF ho (zw hg O9 Q2 L5)) (by rw[hd];exact ph n A5 C A' h hC hK)
     · split at h
       case isFalse=>simp at h
       rename_i Zf;split at h
       case h_2=>simp at h
       rename_i C1 v RT B5;split at h
       case h_2=>simp at h
       rename_i C2 A2 hr;split at h;rename_i ht;simp only[Zan,Zaq]at h;obtain⟨rfl,rfl⟩:=h;obtain⟨C',h1,h2⟩:=sh B5 (mL ht B5);exact gp ho P4 (BT ho hg h1 h2 Q2 Zf) (by rw[hd];exact ph n RT C2 A2 hr hC hK);simp only[Zan,Zaq]at h;obtain⟨rfl,rfl⟩:=h;obtain⟨C',h1,h2⟩:=sh B5 hC.1;exact gp ho P4 (BT ho hg h1 h2 Q2 Zf) (by rw[hd];exact ph n RT C2 A2 hr hC.2 hK)
theorem rY{i:Nat} {o:Oper} {l:List Nat} {K:AS->Prop} {G:Type} {U:G->AS->AS} (ho:ops[i]? =some o) (hz:lk i zs=none) (he:(bD ops tb i).Y1=true) (h1:Yf P N o A U (gg ops tb i) (bD ops tb i).fr)
 (h2:Xs U (gg ops tb i) (bD ops tb i).Sl (bD ops tb i).Hl) (hK:∀ g,PY P N ops tb zs l (U g A) K):PY P N ops tb zs (i::l) A K:=by
 refine⟨o,ho,?_⟩;rw[hz];simp only;rw[he];exact⟨G,U,h1,h2,hK⟩
theorem Aa{d:Option Nat}{x y:Operand}{N2:Array TypeId}{ty:TypeId}{pos:String}{after:Array Edge}{kd:IntKind}{p q r:Int}{b:Builtin}(hd:cI N d)(hx:A.ev x=.lit (.int kd p))(hy:A.ev y=.lit (.int kd q))(hb:(b=.max/\r=max p q)\/(b=.min/\r=min p q)):
 nP P N ops ⟨d,.call ⟨.builtin b,⟨[x,y]⟩,N2⟩,ty,pos,after,none⟩ A (.lit (.int kd r)):=fun A' h1=>by
 show F9 P N _ A' _;have e1:A'.ev x=A.ev x:=bB fun t ht=>h1 t (eL Zb0);have e2:A'.ev y=A.ev y:=bB fun t ht=>h1 t (eL Zb0);exact zQ rfl hd (by rw[e1];exact hx) (by rw[e2];exact hy) hb ⟨fun _=>rfl,fun _=>rfl⟩
theorem MO:∀ (s:Sc P) {l:List Nat} {A:AS} {K:AS->Sc P->Prop},Pt N ops tb zs s l A K->PY P N ops tb zs l A fun B=> ∃ B',E1 B B'/\∃ s',K B' s':=by
 intro s;have cl:∀ {K:AS->Sc P->Prop} (A B:AS),E1 A B->(∃ B',E1 A B'/\∃ s',K B' s')->∃ B',E1 B B'/\∃ s',K B' s':=fun A B h ⟨B',h1,h2⟩=>⟨B',h.symm.trans h1,h2⟩;induction s with
 | r n A5 k ih=>
   intro l A K h;cases l with
   | nil=>exact⟨_,E1.jH,_,h⟩
   | cons i l=>
     simp only[Pt]at h;split at h;rename_i C A' e;obtain⟨h1,h2⟩:=nj.1 h;obtain⟨C1,e1,e2⟩:=qj n e h1;exact ph n A5 C1 A' e1 e2 (ih h2);exact h.elim
 | h x k ih=>
   intro l A K h;cases l with
   | nil=>exact⟨_,E1.jH,_,h⟩
   | cons i l=>
     simp only[Pt]at h;split at h;rename_i t v;refine eP cl _ ?_ (ih h.2);refine⟨fun q=>?_,fun _=>rfl⟩;rw[AS.aC];split;rename_i e;subst e;exact h.1.symm;rfl;rename_i q v;split at h;rename_i g u e;obtain⟨rfl,h⟩:=h;refine eP cl _ ?_ (ih h);refine⟨fun _=>rfl,fun k=>?_⟩;simp only[lk];split;rename_i e2;subst e2;exact e.symm;rfl;exact h.elim;exact h.elim
 | ux z k ih=>
   intro l A K h;cases l with
   | nil=>exact⟨_,E1.jH,_,h⟩
   | cons i l=>
     simp only[Pt]at h;split at h;exact h.elim;exact h.elim;rename_i o ho hz;split at h;exact h.elim;rename_i hg;split at h;split at h <;> exact h.elim;rename_i he;split at h;rename_i C U e1 e2 e3;obtain⟨d,hd⟩:∃ d,o.dst=some d:=by
      unfold Dh at e1;split at e1 <;> first | exact⟨_,by assumption⟩ | simp at e1
     obtain⟨hU,hE⟩:=Ko (ops:=ops) e1 h.1 d hd;refine rY ho hz he ⟨hg,fun A' h1 h2=>?_⟩ ⟨⟨hU.g,hU.h,hU.c,fun g B t v ht _=>hU.p g B t v ht,hU.q⟩,fun q hq=>absurd (vg e3 hq) List.not_mem_nil⟩ fun g=>ih _ _ _ (h.2 g.1 g.2.1 g.2.2);rw[e2]at h2;exact hE A' (fun t ht=>by
      rcases ht with ht | ht;exact h1 t (sv ho ht);exact h1 t (Dv ht)) h2 _ fun g=>⟨g,⟨fun _=>rfl,fun _=>rfl⟩⟩
     exact h.elim
 | eu c k ih=>
   intro l A K h;cases l with
   | nil=>exact⟨_,E1.jH,_,h⟩
   | cons i l=>
     simp only[Pt]at h;split at h;exact h.elim;exact h.elim;rename_i o ho hz;split at h;exact h.elim;rename_i hg;split at h;split at h <;> exact h.elim;rename_i he;split at h;rename_i e2 e3;refine rY ho hz he ⟨hg,fun A' h1 h2=>?_⟩ ⟨c.WH h.1 _,fun q hq g B=>c.pok h.1 q (vg e3 hq) g B⟩ fun g=>ih g (h.2 g);rw[e2]at h2;exact Ia (c.ok hg h.1 (fun t ht=>h1 t (sv ho (eL ht))) h2) fun B ⟨x,hB⟩=>⟨x,by subst hB;exact⟨fun _=>rfl,fun _=>rfl⟩⟩;exact h.elim
 | vu c k ih=>
   intro l A K h;cases l with
   | nil=>exact⟨_,E1.jH,_,h⟩
   | cons i l=>
     simp only[Pt]at h;split at h;rename_i o ho hz;split at h;rename_i hv;exact gp ho hv (c.ok h.1 fun t ht=>sv ho ht) (ih h.2);exact h.elim;exact h.elim
 | ua k ih=>
   intro l A K h;cases l with
   | nil=>exact⟨_,E1.jH,_,h⟩
   | cons i l=>
     simp only[Pt]at h;split at h;rename_i o z ho hz;refine⟨o,ho,?_⟩;rw[hz];exact fun g=>ih g (h g);exact h.elim
 | c c ks k ih=>
   intro l A K h;cases l with
   | nil=>exact⟨_,E1.jH,_,h⟩
   | cons i l=>
     simp only[Pt]at h;split at h;exact h.elim;exact h.elim;rename_i o ho hz;obtain⟨dst,op,ty,pos,after,D8⟩:=o;split at h;exact h.elim;rename_i hg;simp only at hg;subst hg;split at h;split at h;rename_i hv;split at h;rename_i heq;simp only at heq;subst heq;split at h;rename_i e3 e4;rw[Zao,Zbl]at e3;obtain⟨rfl,e3⟩:=e3;exact gp ho hv (lF ho (JJ c (eG e3) e4 h.1 h.2.1)) (ih h.2.2);exact h.elim;exact h.elim;exact h.elim;rename_i he;split at h;rename_i fx xs N2 heq;simp only at heq;subst heq;split at h;rename_i f first A7 vs B fl e1 e2 e3
     split at h;rename_i e4;simp only[Zao,Zbl]at e4;obtain⟨⟨⟨⟨⟨⟨⟨⟨⟨rfl,q1⟩,q2⟩,q3⟩,q4⟩,q5⟩,q6⟩,q7⟩,q8⟩,q9⟩:=e4;have htk:(A.tk xs.toList).1=vs:=by rw[e2]
     replace h:=And.intro h.1 (jr h.2)
     have YR:=AD (P:=P) (N:=N) (A:=A) (tb:=tb) (i:=i) (G:=Unit) (res:=fun _=>c.res) (H':=fun _=>c.H') (ks:=ks) (H:=c.H) (args:=c.args) ho e1 (eG q1) q2 q3
      ((c.ok h.2.2.1).mono fun r H ⟨a,b⟩=>⟨(),a,b⟩) (by rw[htk];exact h.1) (by rw[htk];exact q4) h.2.1 q8
     rw[<- e3]at YR;exact rY ho hz he YR ⟨yN q3 q5 q6 q7,fun q hq=>absurd (vg q9 hq) List.not_mem_nil⟩ fun _=>ih h.2.2.2;exact h.elim;exact h.elim;exact h.elim
 | cx c ks k ih=>
   intro l A K h;cases l with
   | nil=>exact⟨_,E1.jH,_,h⟩
   | cons i l=>
     simp only[Pt]at h;split at h;exact h.elim;exact h.elim;rename_i o ho hz;obtain⟨dst,op,ty,pos,after,D8⟩:=o;split at h;exact h.elim;rename_i hg;simp only at hg;subst hg;split at h;split at h <;> exact h.elim;rename_i he;split at h;rename_i fx xs N2 heq;simp only at heq;subst heq;split at h;rename_i f first A7 vs B fl e1 e2 e3
     split at h;rename_i e4;simp only[Zao,Zbl]at e4;obtain⟨⟨⟨⟨⟨⟨⟨⟨⟨rfl,q1⟩,q2⟩,q3⟩,q4⟩,q5⟩,q6⟩,q7⟩,q8⟩,q9⟩:=e4;have htk:(A.tk xs.toList).1=vs:=by rw[e2]
     replace h:=And.intro h.1 (jr h.2)
     have YR:=AD (P:=P) (N:=N) (A:=A) (tb:=tb) (i:=i) (G:={ x:c.X // c.post x }) (res:=fun x=>c.res x.1) (H':=fun x=>c.H' x.1) (ks:=ks) (H:=c.H) (args:=c.args) ho e1 (eG q1) q2 q3
      ((c.ok h.2.2.1).mono fun r H ⟨x,hx,a,b⟩=>⟨⟨x,hx⟩,a,b⟩) (by rw[htk];exact h.1) (by rw[htk];exact q4) h.2.1 q8
     rw[<- e3]at YR;exact rY ho hz he YR ⟨yN q3 q5 q6 q7,fun q hq=>absurd (vg q9 hq) List.not_mem_nil⟩ fun x=>ih _ (h.2.2.2 x.1 x.2);exact h.elim;exact h.elim;exact h.elim
 | bd z k ih=>
   intro l A K h;cases l with
   | nil=>exact⟨_,E1.jH,_,h⟩
   | cons i l=>
     simp only[Pt]at h;split at h;exact h.elim;exact h.elim;rename_i o ho hz;obtain⟨dst,op,ty,pos,after,D8⟩:=o;split at h;exact h.elim;rename_i hg;simp only at hg;subst hg;split at h;split at h;rename_i hv;split at h;rename_i heq;simp only at heq;subst heq;split at h;rename_i us e3 e4;split at h;rename_i v e5;rw[Zao,Zbl]at e3;obtain⟨rfl,e3⟩:=e3;have hz:=z.ok;rw[e4]at hz;exact gp ho hv (lF ho (Bb us v hz (eG e3) e5)) (ih h);exact h.elim;exact h.elim;exact h.elim;exact h.elim;exact h.elim
 | bs k ih=>
   intro l A K h;cases l with
   | nil=>exact⟨_,E1.jH,_,h⟩
   | cons i l=>
     simp only[Pt]at h;split at h;exact h.elim;exact h.elim;rename_i o ho hz;obtain⟨dst,op,ty,pos,after,D8⟩:=o;split at h;exact h.elim;rename_i hg;simp only at hg;subst hg;split at h;split at h;rename_i hv;split at h;rename_i heq;simp only at heq;subst heq;split at h;rename_i e e3;split at h;rename_i t vs e4 e5;split at h;rename_i e6;rw[Zao]at e6;exact gp ho hv (lF ho (uj e t vs ⟨e3,e4⟩ (eG e6.2) e5 e6.1)) (ih h);exact h.elim;exact h.elim;exact h.elim;exact h.elim;exact h.elim;exact h.elim
 | cg c k ih=>
   intro l A K h;cases l with
   | nil=>exact⟨_,E1.jH,_,h⟩
   | cons i l=>
     simp only[Pt]at h;split at h
     case h_2=>exact h.elim
     rename_i o ho hz;obtain⟨dst,op,ty,pos,after,D8⟩:=o;split at h
     case h_2=>exact h.elim
     rename_i f xs N2 j b hv e1 e2;simp only at e1 e2;subst e1 e2;split at h
     case h_2=>exact h.elim
     rename_i G h1 h2 h3;simp only[Zao,Zbl,Bool.not_eq_true']at h1;obtain⟨⟨⟨⟨rfl,h4⟩,h5⟩,h6⟩,h7⟩:=h1;revert h;cases hu:Tn G (j,b) [] xs.toList A with | mk C B=>?_
     intro h;obtain⟨hC,h⟩:=nj.1 h;obtain⟨C1,u1,u2⟩:=lX xs.toList (fun t ht=>by simp at ht) hu hC;refine gp ho hv (FN ho (eG h4) h3 u1 h5 (fun hG=>⟨u2,?_,h6,h7⟩)) (ih h.2);obtain⟨T9,hw⟩:=h.1 hG;have hc:=c.ok T9;rw[h2]at hc;have hp:=hc.DO;refine⟨hp.1,fun w Pb cargs k1 k2=>?_⟩;refine(hp.2 w Pb cargs k1 (by have:=oZ _ c.args k2;rw[hw]at this;exact this)).mono ?_;rintro e w' ⟨r,x,F,Pb',rfl,⟨H,q1,_⟩,rest⟩;exact⟨r,x,F,Pb',rfl,by rw[q1],rest⟩
 | mm k ih=>
   intro l A K h;cases l with
   | nil=>exact⟨_,E1.jH,_,h⟩
   | cons i l=>
     simp only[Pt]at h;split at h;exact h.elim;exact h.elim;rename_i o ho hz;obtain⟨dst,op,ty,pos,after,D8⟩:=o;split at h;exact h.elim;rename_i hg;simp only at hg;subst hg;split at h;split at h;rename_i hv;split at h;rename_i heq;simp only at heq;subst heq;split at h;rename_i kd p TQ q e1 e2 e3;obtain⟨rfl,h⟩:=h;exact gp ho hv (lF ho (Aa (eG e3) e1 e2 (.inl ⟨rfl,rfl⟩))) (ih h);rename_i kd p TQ q e1 e2 e3;obtain⟨rfl,h⟩:=h;exact gp ho hv (lF ho (Aa (eG e3) e1 e2 (.inr ⟨rfl,rfl⟩))) (ih h);exact h.elim;exact h.elim;exact h.elim;exact h.elim
 | O0 bs k ih=>
   intro l A K h;cases l with
   | nil=>exact⟨_,E1.jH,_,h⟩
   | cons i l=>
     simp only[Pt]at h;split at h;exact h.elim;exact h.elim;rename_i o ho hz;obtain⟨dst,op,ty,pos,after,D8⟩:=o;split at h;exact h.elim;rename_i hg;simp only at hg;subst hg;split at h;split at h;rename_i hv;split at h;rename_i heq;simp only at heq;subst heq;split at h;rename_i fl ys e1 e2;simp only[Zao]at e1;obtain⟨rfl,h⟩:=h;obtain⟨e,q1,q2⟩:=wP e1.1.1;exact gp ho hv (lF ho (wG e fl bs ⟨q1,q2,tI e1.1.2⟩ (eG e1.2) e2)) (ih h);exact h.elim;exact h.elim;exact h.elim;exact h.elim
 | _=>
   intro l A K h;cases l with
   | nil=>exact⟨_,E1.jH,_,h⟩
   | cons i l=>
     simp only[Pt]at h
     (repeat' split at h) <;> exact h.elim
theorem qz{K K':AS->Prop}(hK:∀ B,K B->K' B):∀ (l:List Nat) {A:AS},PY P N ops tb zs l A K->PY P N ops tb zs l A K'
 | [],A,h=>hK A h
 | i::l,A,h=>by
   obtain⟨o,ho,h⟩:=h;refine⟨o,ho,?_⟩;split at h;exact fun g=>qz hK l (h g);split at h;obtain⟨e1,e2,v,h1,h2⟩:=h;exact⟨e1,e2,v,h1,qz hK l h2⟩;obtain⟨G,U,h1,h2,h3⟩:=h;exact⟨G,U,h1,h2,fun g=>qz hK l (h3 g)⟩
end
section
variable {P:Program} {N:Nat} {ops:Array Oper} {A:AS}
end
def go{P:Program}(N:Nat):Code->AS->Sc P->(Exit->AS->Sc P->Prop)->Prop
 | .skip,A,s,K=>K .normal A s
 | .label _,A,s,K=>K .normal A s
 | .exit i,A,s,K=>K (.exit i) A s
 | .goto i,A,s,K=>K (.goto i) A s
 | .ret,A,s,K=>RG N s A fun A s=>K .ret A s
 | .seq x y,A,s,K=>go N x A s fun e A s=>match e with
   | .normal=>go N y A s K
   | e=>K e A s
 | .block id c,A,s,K=>go N c A s fun e A s=>match e with
   | .exit j=>match j==id with
     | true=>K .normal A s
     | false=>K (.exit j) A s
   | e=>K e A s
 | .cond c x y,A,s,K=>RG N s A fun A s=>match A.ev c,s with
   | .lit (.bool b),.br s1 s2=>(b=true->go N x A s1 K)/\(b=false->go N y A s2 K)
   | .lit (.bool b),.join X B ok s1 s2 k=>
     (b=true->go N x A s1 fun e A' s'=>match e with
      | .normal=>RG N s' A' fun A' _=> ∃ x,ok x/\XG A' (B x)
      | e=>K e A' s')/\
     (b=false->go N y A s2 fun e A' s'=>match e with
      | .normal=>RG N s' A' fun A' _=> ∃ x,ok x/\XG A' (B x)
      | e=>K e A' s')/\
     ∀ x,ok x->K .normal (B x) (k x)
   | _,_=>False
 | .scope c,A,s,K=>go N c A s fun e A s=>match e with
   | .goto _=>False
   | e=>K e A s
 | .loop c,A,s,K=>RG N s A fun A s=>match s with
   | .loop X inv ok m k=>(∃ x,ok x/\XG A (inv x))/\∀ x,ok x->go N c (inv x) (k x) fun e A' s'=>match e with
     | .normal=>RG N s' A' fun A' _=> ∃ y,ok y/\m y<m x/\XG A' (inv y)
     | e=>K e A' s'
   | _=>False
 | .region _ ops false,A,s,K=>RG N s A fun A s=>E5 N ops [] s ops.toList A fun A s=>K .normal A s
 | .region _ ops true,A,s,K=>RG N s A fun A s=>match s with
   | .dx m pl tb zs k=>match P.follows .mixedOrders&&qA ops m tb zs pl&&Dq ops m pl&&CX N ops zs with
     | true=>Pt N ops tb zs k pl A fun A s=>E5 N ops [] s (ops.toList.drop m) A fun A s=>K .normal A s
     | false=>False
   | _=>False
 | _,_,_,_=>False
section
variable {P:Program} {N:Nat} {ops:Array Oper} {A A' A1 B:AS}
variable {w:World} {Pb Kb:Nat->Prop} {a:Act} {F:m4->List Nat}
theorem Kg{X:Type} {c:Code} {Q:Exit->AS->Prop} (inv:X->AS) (ok:X->Prop) (m:X->Nat) (h0:∃ x,ok x/\TO A (inv x).t/\Tc A (inv x).h)
 (round:∀ x,ok x->T P N c (inv x) fun e A'=>match e with
  | .normal=>Hx N A' fun A'=> ∃ y,ok y/\m y<m x/\TO A' (inv y).t/\Tc A' (inv y).h
  | e=>Q e A'):T P N (.loop c) A Q:=by
 obtain⟨x0,hx0,l0,r0⟩:=h0;refine Lm (fun n A=> ∃ x,m x=n/\ok x/\TO A (inv x).t/\Tc A (inv x).h) (m x0) ⟨x0,rfl,hx0,l0,r0⟩ ?_;rintro n A ⟨x,rfl,hx,h1,h2⟩;refine Nj h1 h2 (mz (lV (round x hx) fun e A' hq=>?_));cases e with
 | normal=>exact Hx.mono hq fun B ⟨y,k1,k2,k3,k4⟩=>⟨m y,k2,y,rfl,k1,k3,k4⟩
 | _=>exact Hx.of hq
def ngo(Q:Exit->AS->Prop):Exit->AS->Prop
 | .goto _,_=>False
 | e,A=>Q e A
theorem KF{c:Code}{Q:Exit->AS->Prop}(h:T P N c A (ngo Q)):T P N (.scope c) A Q:=by
 intro Pb Kb a w F hs;refine wp_scope_straight (wp_mono (h Pb Kb a w F hs) fun e a' w' hn=>?_);cases e with
 | goto l=>obtain⟨_,_,_,_,h,_⟩:=hn;exact h
 | _=>exact hn
theorem Jd:∀ (c:Code) {A:AS} {s:Sc P} {K:Exit->AS->Sc P->Prop},go N c A s K->T P N c A fun e B=> ∃ s',K e B s':=by
 intro c;induction c with
 | skip=>intro A s K h;exact Lc ⟨_,h⟩
 | label l=>intro A s K h;exact Jj ⟨_,h⟩
 | exit i=>intro A s K h;exact Lp ⟨_,h⟩
 | goto i=>intro A s K h;exact MG ⟨_,h⟩
 | ret=>intro A s K h;exact oO ((kQ s h).mono fun B hB=>Ni hB)
 | seq x y XI XH=>
   intro A s K h;refine MZ (lV (XI h) fun e B hB=>?_);obtain⟨s',hB⟩:=hB;cases e with
   | normal=>exact XH hB
   | _=>exact⟨_,hB⟩
 | scope c ih=>
   intro A s K h;refine KF (lV (ih h) fun e B hB=>?_);obtain⟨s',hB⟩:=hB;cases e with
   | goto l=>exact hB
   | _=>exact⟨_,hB⟩
 | block id c ih=>
   intro A s K h;refine JH (lV (ih h) fun e B hB=>?_);obtain⟨s',hB⟩:=hB;cases e with
   | exit j=>
     simp only[blk];simp only at hB;split at hB;rename_i e;rw[if_pos Zb3];exact⟨_,hB⟩;rename_i e;rw[if_neg Zb3];exact⟨_,hB⟩
   | _=>exact⟨_,hB⟩
 | cond c x y XI XH=>
   intro A s K h;refine oO ((kQ s h).mono fun B hB=>?_);obtain⟨s',hB⟩:=hB;split at hB;rename_i e;exact Ev e (fun hb=>XI (hB.1 hb)) (fun hb=>XH (hB.2 hb));rename_i b X I ok s1 s2 k e;obtain⟨h1,h2,h3⟩:=hB
   have step:∀ (z:Code) (K':Exit->AS->Sc P->Prop),(∀ A' s',K' .normal A' s'->RG N s' A' fun A' _=> ∃ x,ok x/\XG A' (I x))->(∀ e,e≠.normal->∀ A' s',K' e A' s'->K e A' s')->
    (T P N z B fun e A'=> ∃ s',K' e A' s')->T P N z B fun e A'=> ∃ s',K e A' s':=fun z K' hn ho hz=>by
    refine mz (lV hz fun e A' hq=>?_);obtain⟨s',hq⟩:=hq;by_cases he:e=.normal;subst he;refine(kQ s' (hn _ _ hq)).bind fun B' hB'=>?_;obtain⟨_,x,k1,k2⟩:=hB';exact Jh (sq k2).1 (sq k2).2 ⟨_,h3 x k1⟩;exact Hx.of ⟨_,ho e he _ _ hq⟩
   refine Ev e (fun hb=>step _ _ ?_ ?_ (XI (h1 hb))) (fun hb=>step _ _ ?_ ?_ (XH (h2 hb)));exact fun _ _ h=>h;intro e he A' s' h;cases e <;> first | exact h | exact absurd rfl he
   exact fun _ _ h=>h;intro e he A' s' h;cases e <;> first | exact h | exact absurd rfl he
   exact hB.elim
 | loop c ih=>
   intro A s K h;refine oO ((kQ s h).mono fun B hB=>?_);obtain⟨s',hB⟩:=hB;split at hB;rename_i X inv ok m k;refine Kg inv ok m (by obtain⟨x,a,b⟩:=hB.1;exact⟨x,a,sq b⟩) fun x hx=>lV (ih (hB.2 x hx)) fun e A' hq=>?_;obtain⟨s',hq⟩:=hq;cases e with
   | normal=>exact(kQ s' hq).mono fun B ⟨_,y,a,b,c⟩=>⟨y,a,b,sq c⟩
   | _=>exact⟨_,hq⟩
   exact hB.elim
 | region id ops draw=>
   intro A s K h;cases draw with
   | false=>exact oO ((kQ s h).mono fun B ⟨s',hB⟩=>GR (Fk s' hB))
   | true=>
     refine oO ((kQ s h).mono fun B hB=>?_);obtain⟨s',hB⟩:=hB;split at hB;split at hB;rename_i e;simp only[Zao]at e;exact wU e.1.1.1 e.1.1.2 e.2 e.1.2 (qz (fun B ⟨B',hA,s',hB⟩=>⟨B',hA,Fk s' hB⟩) _ (MO _ hB));exact hB.elim;exact hB.elim
 | _=>intro A s K h;exact h.elim
def qs(H:List (Nat×(Nat×V)))(xs:List m4):Bool:=xs.all fun r=>match r with
 | .key k=>(lk k H).isNone
 | .slot _=>true
def xh(rs:List ResultVar)(Q:V->AS->Prop)(H:List (Nat×(Nat×V)))(A:AS):Prop:=match yY A rs with
    | some (C,xs)=>match kH P rs xs&&nodupB (xs.map (·.1))&&qs H (xs.map (·.1)) with
      | true=>cj C (Q (one (xs.map (·.2))) A)
      | false=>False
    | none=>False
def zS(N:Nat)(rs:List ResultVar)(Q:V->AS->Prop)(H:List (Nat×(Nat×V))):Exit->AS->Sc P->Prop:=fun e A s=>match e with
 | .normal=>RG N s A fun A _=>xh (P:=P) rs Q H A
 | .ret=>xh (P:=P) rs Q H A
 | _=>False
theorem qE{H:List (Nat×(Nat×V))}{xs:List m4}(h:qs H xs=true)(k:Nat)(hk:lk k H≠none):m4.key k ∉ xs:=fun c=>by
 unfold qs at h;rw[Za2]at h;have:=h _ c;simp only[Option.isNone_iff_eq_none]at this;exact hk this
theorem PF.wkr{f:FuncId} {args:List V} {H:List (Nat×(Nat×V))} {X:Type} {post:X->Prop} {E:X->V} {H':X->List (Nat×(Nat×V))}
 (h:PF P f args H (fun r h=> ∃ x,post x/\wk r (E x)=E x/\h=H' x)):PF P f args H (fun r h=> ∃ x,post x/\r=E x/\h=H' x):=
 ⟨h.1,fun w Pb Kb cargs F hi=>(h.2 w Pb Kb cargs F hi).mono fun e w'=>by
  rintro⟨r,x,H1,Pb',E7,F',rfl,⟨z,q1,q2,rfl⟩,hf⟩;exact⟨E z,x,H' z,Pb',E7,F',rfl,⟨z,q1,rfl,rfl⟩,by have:=yC (E z) hf.val;rw[q2]at this;exact⟨this,hf.root,hf.cm,hf.nodup,hf.free,hf.sub,hf.bound,hf.mP,hf.mK,hf.TM,hf.fc⟩⟩⟩
theorem uI{f:FuncId} {fn:Func} {c:Code} {args:List V} {H:List (Nat×(Nat×V))} {N:Nat} {rs:List ResultVar} {X:Type} {post:X->Prop} {E:X->V} {H':X->List (Nat×(Nat×V))}
 (hf:P.funcs[f]? =some fn) (Vb:(fn.name== "runtime.NumGoroutine")=false) (hb:fn.body=some c) (hN:fn.ntmps=N) (YA:fn.results.toList=rs) (hlen:Nat.ble args.length N=true)
 (HK:List (Nat×(Nat×V))) (hHK:∀ x k,lk k (H' x)≠none->lk k HK≠none)
 (sc:Sc P) (VC:Prop) (he:VC=go N c ⟨enum 0 args,H⟩ sc (zS N rs (fun v A=> ∃ x,post x/\pE A (H' x) (wk v (E x)=E x)) HK)) (h:VC):
 PF P f args H (fun r h=> ∃ x,post x/\r=E x/\h=H' x):=by
 subst hN YA;rw[he]at h;refine PF.wkr (CO hf hb (ew hf Vb (by rw[hb];rfl)) (Nat.le_of_ble_eq_true hlen) (mz (lV (Jd _ h) ?_)));rintro e A0 ⟨s0,hq⟩;have fin:∀ A,(e=.normal\/e=.ret)->xh (P:=P) fn.results.toList (fun v A=> ∃ x,post x/\pE A (H' x) (wk v (E x)=E x)) HK A->HU P fn.results.toList (fun r h=> ∃ x,post x/\wk r (E x)=E x/\h=H' x) e A:=fun A he hq=>by
  unfold xh at hq;split at hq;rename_i C xs e1;split at hq;rename_i e2;simp only[Zao]at e2;obtain⟨hC,x,q1,hq⟩:=nj.1 hq;obtain⟨q2,q3⟩:=tS hq;obtain⟨C',f1,f2⟩:=sy e1 hC;exact⟨he,xs,H' x,sP f1 f2,pz e2.1.1,uq e2.1.2,q3,fun k hk=>qE e2.2 k (hHK x k hk),x,q1,q2,rfl⟩;exact hq.elim;exact hq.elim
 cases e with
 | normal=>exact(kQ s0 hq).mono fun B ⟨_,hB⟩=>fin B (.inl rfl) hB
 | ret=>exact Hx.of (fin A0 (.inr rfl) hq)
 | _=>exact hq.elim
theorem Lq{f:FuncId} {fn:Func} {c:Code} {args:List V} {H:List (Nat×(Nat×V))} {N:Nat} {rs:List ResultVar} {E:V} {H':List (Nat×(Nat×V))}
 (hf:P.funcs[f]? =some fn) (Vb:(fn.name== "runtime.NumGoroutine")=false) (hb:fn.body=some c) (hN:fn.ntmps=N) (YA:fn.results.toList=rs) (hlen:Nat.ble args.length N=true)
 (sc:Sc P) (VC:Prop) (he:VC=go N c ⟨enum 0 args,H⟩ sc (zS N rs (fun v A=>pE A H' (wk v E=E)) H')) (h:VC):
 PF P f args H (fun r h=>r=E/\h=H'):=by
 subst hN YA;rw[he]at h;have:=PF.wkr (X:=Unit) (post:=fun _=>True) (E:=fun _=>E) (H':=fun _=>H') (CO (P:=P) (f:=f) (args:=args) (H:=H) (Q:=fun r h=> ∃ _:Unit,True/\wk r E=E/\h=H') hf hb (ew hf Vb (by rw[hb];rfl)) (Nat.le_of_ble_eq_true hlen) (mz (lV (Jd _ h) ?_)));exact this.mono fun r H ⟨_,_,h1,h2⟩=>⟨h1,h2⟩;rintro e A0 ⟨s0,hq⟩;have fin:∀ A,(e=.normal\/e=.ret)->xh (P:=P) fn.results.toList (fun v A=>pE A H' (wk v E=E)) H' A->HU P fn.results.toList (fun r h=> ∃ _:Unit,True/\wk r E=E/\h=H') e A:=fun A he hq=>by
  unfold xh at hq;split at hq;rename_i C xs e1;split at hq;rename_i e2;simp only[Zao]at e2;obtain⟨hC,hq⟩:=nj.1 hq;obtain⟨q2,q3⟩:=tS hq;obtain⟨C',f1,f2⟩:=sy e1 hC;exact⟨he,xs,H',sP f1 f2,pz e2.1.1,uq e2.1.2,q3,fun k hk=>qE e2.2 k hk,(),trivial,q2,rfl⟩;exact hq.elim;exact hq.elim
 cases e with
 | normal=>exact(kQ s0 hq).mono fun B ⟨_,hB⟩=>fin B (.inl rfl) hB
 | ret=>exact Hx.of (fin A0 (.inr rfl) hq)
 | _=>exact hq.elim
end
theorem gP{xs:List V}{j sz g0 o0 g o c:Nat}{v:V}(h:xs[j]? =some v):V.at g0 o0 (.own sz xs g o c) [j]=some (g,o+j*sz,v):=by simp only[V.at,h]
theorem nk{xs ys:List V}{j sz g o c:Nat}{x v:V}(h:xs[j]? =some x)(e:xs.set j v=ys):V.set (.own sz xs g o c) [j] v=.own sz ys g o c:=by simp only[V.set,h,e]
theorem Xr{x y:V}{r:List V}(h:x=y):V.agg (x::r)=V.agg (y::r):=by rw[h]
theorem oG{x y u:V}{r:List V}{p:List Nat}(h:V.set x p u=y):V.set (.agg (x::r)) (0::p) u=V.agg (y::r):=by rw[<- h];rfl
theorem Rl{a0 x y:V}{r:List V}(h:x=y):V.agg (a0::x::r)=V.agg (a0::y::r):=by rw[h]
theorem Ht{a0 x y u:V}{r:List V}{p:List Nat}(h:V.set x p u=y):V.set (.agg (a0::x::r)) (1::p) u=V.agg (a0::y::r):=by rw[<- h];rfl
theorem I9{a0 a1 x y:V}{r:List V}(h:x=y):V.agg (a0::a1::x::r)=V.agg (a0::a1::y::r):=by rw[h]
theorem nL{a0 a1 x y u:V}{r:List V}{p:List Nat}(h:V.set x p u=y):V.set (.agg (a0::a1::x::r)) (2::p) u=V.agg (a0::a1::y::r):=by rw[<- h];rfl
theorem ON{a0 a1 a2 a3 a4 x y u:V}{r:List V}{p:List Nat}(h:V.set x p u=y):V.set (.agg (a0::a1::a2::a3::a4::x::r)) (5::p) u=V.agg (a0::a1::a2::a3::a4::y::r):=by rw[<- h];rfl
abbrev m6(x:Int):Prop:= -9223372036854775808<=x/\x<=9223372036854775807
abbrev RI(x:Int):Prop:=0<=x/\x<=255
abbrev Ix{α:Type}(i:Int)(s:List α):Prop:=0<=i/\i<s.length
abbrev Sx{α:Type}(lo hi:Int)(s:List α):Prop:=0<=lo/\lo<=hi/\hi<=s.length
abbrev Ex(i:Int)(xs:List V)(v:V):Prop:=0<=i/\xs[Int.toNat i]? =some v
abbrev r5(a b:Int):Bool:=decide (a<b)
abbrev E4(a b:Int):Bool:=decide (a<=b)
abbrev s6(a b:Int):Bool:=decide (a>b)
abbrev A9(a b:Int):Bool:=decide (a>=b)
abbrev o6(a b:Int):Bool:=a==b
abbrev D2(a b:Int):Bool:=a != b
abbrev Br(b:Bool)(p q:Prop):Prop:=(b=true->p)/\(b=false->q)
abbrev Gd(b:Bool)(p:Prop):Prop:=b=true->p
abbrev Q(x y:V):Prop:=x=y
abbrev E(x:V):Prop:=x=x
abbrev Qr(g:Nat)(x:V)(g':Nat)(y:V):Prop:=(g,x)=(g',y)
abbrev Er(g:Nat)(x:V):Prop:=(g,x)=(g,x)
abbrev Z(g o:Nat):Prop:=(g,o)=(g,o)
abbrev In(i:Int)(n:Nat):Prop:=0<=i/\i<n
abbrev Pk(c a b:Bool):Prop:=(c=true->a=true)/\(c=false->b=true)
theorem nb:(∀ (p:Prop) [Decidable p],(decide p=true)=p)/\(∀ (p:Prop) [Decidable p],(decide p=false)= ¬ p)/\(∀ a b:Int,(¬ a<b)=(b<=a))/\(∀ a b:Int,(¬ a<=b)=(b<a))/\(∀ a b:Int,(a>b)=(b<a))/\(∀ a b:Int,(a>=b)=(b<=a))/\
 (∀ (α:Type) [BEq α] [LawfulBEq α] (a b:α),((a==b)=true)=(a=b))/\(∀ (α:Type) [BEq α] [LawfulBEq α] (a b:α),((a==b)=false)= ¬ a=b)/\
 (∀ (α:Type) [BEq α] [LawfulBEq α] (a b:α),((a != b)=true)= ¬ a=b)/\(∀ (α:Type) [BEq α] [LawfulBEq α] (a b:α),((a != b)=false)=(a=b))/\
 (∀ a b:Bool,((a||b)=true)=(a=true\/b=true))/\(∀ a b:Bool,((a||b)=false)=(a=false/\b=false))/\(∀ a b:Bool,((a&&b)=true)=(a=true/\b=true))/\(∀ a b:Bool,((a&&b)=false)=(a=true->b=false))/\
 (∀ a:Bool,((!a)=true)=(a=false))/\(∀ a:Bool,((!a)=false)=(a=true))/\(∀ a:Bool,(¬ a=true)=(a=false))/\(∀ a:Bool,(¬ a=false)=(a=true))/\(∀ p:Prop,(¬ ¬ p)=p)/\
 (∀ a:Bool,(a==true)=a)/\(∀ a:Bool,(a==false)=!a)/\(∀ a:Bool,(true&&a)=a)/\(∀ a:Bool,(a&&true)=a)/\((!true)=false)/\((!false)=true)/\(∀ a:Bool,(!!a)=a)/\(∀ (α β:Type) (f:α->β) (l:List α),(l.map f).length=l.length):=by
 refine⟨fun p _=>by simp,fun p _=>by simp,fun a b=>by simp,fun a b=>by simp,fun a b=>rfl,fun a b=>rfl,fun α _ _ a b=>by simp,fun α _ _ a b=>by simp,fun α _ _ a b=>by simp,fun α _ _ a b=>by simp,fun a b=>by simp,fun a b=>by simp,fun a b=>by simp,fun a b=>by cases a <;> simp,
  fun a=>by simp,fun a=>by simp,fun a=>by simp,fun a=>by simp,fun p=>by simp,fun a=>by simp,fun a=>by simp,fun a=>by simp,fun a=>by simp,rfl,rfl,fun a=>by simp,fun _ _ f l=>Zay ..⟩
section
variable {w w':World} {Pb Kb Pb':Nat->Prop} {N:Nat} {A A' A1 B:AS} {a:Act} {F:m4->List Nat}
end
theorem NZ{P:Program} {f:FuncId} {fn:Func} {args:List V} {H:List (Nat×(Nat×V))} {N:Nat} {rs:List ResultVar} {E:V} {H':List (Nat×(Nat×V))}
 (hf:P.funcs[f]? =some fn) (sc:Sc P) (VC:Prop) (h:VC) (Vb:(fn.name== "runtime.NumGoroutine")=false:=by kernel_rfl) (hb:fn.body.isSome=true:=by kernel_rfl) (hN:fn.ntmps=N:=by kernel_rfl) (YA:fn.results.toList=rs:=by kernel_rfl) (hlen:Nat.ble args.length N=true:=by kernel_rfl)
 (he:VC=go N (fn.body.getD .skip) ⟨enum 0 args,H⟩ sc (zS N rs (fun v A=>pE A H' (wk v E=E)) H'):=by kernel_rfl):PF P f args H (fun r h=>r=E/\h=H'):=by
 cases Xg:fn.body with
 | none=>rw[Xg]at hb;cases hb
 | some c=>
   rw[Xg]at he;exact Lq hf Vb Xg hN YA hlen sc VC he h
abbrev Sc.q{P:Program}(n:Nat)(k:Sc P):Sc P:=.r n [] k
theorem bI{c:Bool}{P Q p q:Prop}(a:p->P)(b:q->Q)(h1:(c=true)=p:=by first | (conv=>lhs;simp only[nb]) | rfl)(h2:(c=false)=q:=by first | (conv=>lhs;simp only[nb]) | rfl):Br c P Q:=⟨fun h=>a (h1 ▸ h),fun h=>b (h2 ▸ h)⟩
theorem au{P:Program}{f:FuncId}{fn:Func}{args:List V}{H:List (Nat×(Nat×V))}{E:V}{H':List (Nat×(Nat×V))}(hf:P.funcs[f]? =some fn)(sc:Sc P)(VC:Prop)(h:VC)(Vb:(fn.name== "runtime.NumGoroutine")=false:=by kernel_rfl)(hb:fn.body.isSome=true:=by kernel_rfl)(hlen:Nat.ble args.length fn.ntmps=true:=by kernel_rfl)(he:VC=go fn.ntmps (fn.body.getD .skip) ⟨enum 0 args,H⟩ sc (zS fn.ntmps fn.results.toList (fun v A=>pE A H' (wk v E=E)) H'):=by kernel_rfl):PF P f args H (fun r h=>r=E/\h=H'):=NZ hf sc VC h Vb hb rfl rfl hlen he
theorem fW{P:Program}{f:FuncId}{fn:Func}{args:List V}{H:List (Nat×(Nat×V))}{X:Type}{post:X->Prop}{E:X->V}{H':X->List (Nat×(Nat×V))}(hf:P.funcs[f]? =some fn)(sc:Sc P)(VC:Prop)(h:VC)(Vb:(fn.name== "runtime.NumGoroutine")=false:=by kernel_rfl)(hb:fn.body.isSome=true:=by kernel_rfl)(hlen:Nat.ble args.length fn.ntmps=true:=by kernel_rfl)(hHK:∀ x k,lk k (H' x)≠none->lk k (H.map fun x=>(x.1,(0,V.c9)))≠none:=by intro _ k;simp[lk])(he:VC=go fn.ntmps (fn.body.getD .skip) ⟨enum 0 args,H⟩ sc (zS fn.ntmps fn.results.toList (fun v A=> ∃ x,post x/\pE A (H' x) (wk v (E x)=E x)) (H.map fun x=>(x.1,(0,V.c9)))):=by kernel_rfl):PF P f args H (fun r h=> ∃ x,post x/\r=E x/\h=H' x):=by
 cases Xg:fn.body with
 | none=>rw[Xg]at hb;cases hb
 | some c=>
   rw[Xg]at he;exact uI hf Vb Xg rfl rfl hlen _ hHK sc VC he h
abbrev kp(k g:Nat):V:=.ptr (.key k) [] g 0
abbrev n6(a b:List Nat):Sq:=⟨false,[],some a,b,[]⟩
abbrev Sc.C6{P:Program}(m:Nat)(tb:List (Nat×Sq))(k:Sc P):Sc P:=.dx m (List.range m) tb [] k
abbrev Sc.n9{P:Program}(k:Sc P):Sc P:=.r 1 [.c9] k
def Sc.l8{P:Program}:Nat->Sc P->Sc P
 | 0,k=>k
 | n+1,k=>.r 1 [] (Sc.l8 n k)
theorem ak{p:Prop}(h:p:=by repeat' (first | exact rfl | exact trivial | exact fun h=>h | exact fun hG=>rfl | exact fun hG=>trivial | exact fun hG=>⟨trivial,rfl⟩ | exact fun _=>rfl | exact fun _=>trivial | exact fun _ h=>h | exact⟨fun _=>rfl,fun h=>by rw[h] <;> rfl⟩ | exact⟨fun h=>by rw[h] <;> rfl,fun _=>rfl⟩ | exact fun hG=>⟨fun h=>by rw[h];exact(Zao _ _).mpr ⟨hG,rfl⟩,fun _=>rfl⟩ | exact fun hG=>⟨fun _=>rfl,fun h=>by rw[h];exact(Zao _ _).mpr ⟨hG,rfl⟩⟩ | omega | refine And.intro ?_ ?_ | ((try simp only[Zay]at *);omega) | ((try simp only[Zay]at *);(try simp only[Zap,Zay,Zar,Zau,List.length_take,List.length_drop]);omega) | (simp[aR,V.n,V.ns]) | exact fun hG=>by(try simp only[nb]at hG);omega | exact fun hG=>by(try simp only[nb]at hG);(try simp only[Zay]at *);omega | exact fun hG=>by(try simp only[nb]at hG);(try simp only[Zay]at *);(try simp only[Zap,Zay,Zar,Zau,List.length_take,List.length_drop]);omega | (simp;omega) | assumption)):p:=h
theorem ah{A Z:Prop}(z:Z)(a:A:=by exact ak):A/\Z:=⟨a,z⟩
theorem aS{A B Z:Prop}(z:Z)(a:A/\B:=by exact ak):A/\B/\Z:=⟨a.1,a.2,z⟩
theorem aY{A B C Z:Prop}(z:Z)(a:A/\B/\C:=by exact ak):A/\B/\C/\Z:=⟨a.1,a.2.1,a.2.2,z⟩
theorem cF{A B C D Z:Prop}(z:Z)(a:A/\B/\C/\D:=by exact ak):A/\B/\C/\D/\Z:=⟨a.1,a.2.1,a.2.2.1,a.2.2.2,z⟩
theorem eh{A B C D E Z:Prop}(z:Z)(a:A/\B/\C/\D/\E:=by exact ak):A/\B/\C/\D/\E/\Z:=⟨a.1,a.2.1,a.2.2.1,a.2.2.2.1,a.2.2.2.2,z⟩
theorem lx{A B C D E F Z:Prop}(z:Z)(a:A/\B/\C/\D/\E/\F:=by exact ak):A/\B/\C/\D/\E/\F/\Z:=⟨a.1,a.2.1,a.2.2.1,a.2.2.2.1,a.2.2.2.2.1,a.2.2.2.2.2,z⟩
theorem zk{A B C D E F G Z:Prop}(z:Z)(a:A/\B/\C/\D/\E/\F/\G:=by exact ak):A/\B/\C/\D/\E/\F/\G/\Z:=⟨a.1,a.2.1,a.2.2.1,a.2.2.2.1,a.2.2.2.2.1,a.2.2.2.2.2.1,a.2.2.2.2.2.2,z⟩
theorem fY{A B C D E F G H Z:Prop}(z:Z)(a:A/\B/\C/\D/\E/\F/\G/\H:=by exact ak):A/\B/\C/\D/\E/\F/\G/\H/\Z:=⟨a.1,a.2.1,a.2.2.1,a.2.2.2.1,a.2.2.2.2.1,a.2.2.2.2.2.1,a.2.2.2.2.2.2.1,a.2.2.2.2.2.2.2,z⟩
mutual
def V.lits:V->Option (List Value)
 | .lit x=>if x.oneCell' then some [x] else none
 | .agg vs=>V.sr vs
 | _=>none
def V.sr:List V->Option (List Value)
 | []=>some []
 | v::vs=>match v.lits,V.sr vs with
   | some a,some b=>some (a++b)
   | _,_=>none
end
def V.val?:V->Option Value
 | .lit x=>if x.oneCell' then some x else none
 | .agg us=>(V.sr us).map fun l=>.agg l.toArray
 | .ptr _ _ g o=>some (.pointer (some ⟨g,o,none⟩))
 | _=>none
section
variable {w w':World} {Pb Kb Pb':Nat->Prop} {N:Nat} {A A' B:AS} {a:Act} {F:m4->List Nat} {P:Program} {ops:Array Oper}
mutual
theorem AV:∀ (v:V) {l},v.lits=some l->∀ {cs F},R w Pb v cs F↔cs=l/\F=[]
 | .lit x,l,h,cs,F=>by
   simp only[V.lits]at h;split at h;rename_i hx;simp at h;subst h;simp only[R];exact⟨fun h=>h.2,fun h=>⟨hx,h⟩⟩;simp at h
 | .agg vs,l,h,cs,F=>by simp only[V.lits]at h;simp only[R];exact sF vs h
 | .sl ..,_,h,_,_=>by simp[V.lits]at h
 | .tup _,_,h,_,_=>by simp[V.lits]at h
 | .gv _ _,_,h,_,_=>by simp[V.lits]at h
 | .own ..,_,h,_,_=>by simp[V.lits]at h
 | .hd ..,_,h,_,_=>by simp[V.lits]at h
 | .ow ..,_,h,_,_=>by simp[V.lits]at h
 | .om ..,_,h,_,_=>by simp[V.lits]at h
 | .mp ..,_,h,_,_=>by simp[V.lits]at h
 | .ptr ..,_,h,_,_=>by simp[V.lits]at h
 | .ep _,_,h,_,_=>by simp[V.lits]at h
 | .c9,_,h,_,_=>by simp[V.lits]at h
theorem sF:∀ (vs:List V) {l},V.sr vs=some l->∀ {cs F},RL w Pb vs cs F↔cs=l/\F=[]
 | [],l,h,cs,F=>by simp[V.sr]at h;subst h;simp[RL]
 | v::vs,l,h,cs,F=>by
   simp only[V.sr]at h;split at h;rename_i a b h1 h2;simp at h;subst h;simp only[RL,AV v h1,sF vs h2];exact⟨fun⟨_,_,_,_,e1,e2,⟨e3,e4⟩,e5,e6⟩=>⟨by rw[e1,e3,e5],by rw[e2,e4,e6];rfl⟩,fun⟨e1,e2⟩=>⟨_,_,_,_,e1,(by rw[e2];rfl:_=([]:List Nat)++[]),⟨rfl,rfl⟩,rfl,rfl⟩⟩;simp at h
end
theorem MM{v:V}{x y:Value}{Fx:List Nat}(h:v.val? =some y)(hr:RV w Pb v x Fx):x=y/\Fx=[]:=by
 cases v with
 | lit z=>
   simp only[V.val?]at h;split at h;obtain⟨_,e,hF⟩:=(hr:R w Pb (.lit z) [x] Fx);simp at e h;exact⟨by rw[e,h],hF⟩;simp at h
 | agg us=>
   simp only[V.val?,Option.map_eq_some_iff]at h;obtain⟨l,h1,rfl⟩:=h;obtain⟨cs,rfl,hr⟩:=(hr:∃ cs,x=.agg cs/\RL w Pb us cs.toList Fx);obtain⟨e1,e2⟩:=(sF us h1).1 hr;exact⟨by rw[<- e1],e2⟩
 | ptr r p g o=>
   simp only[V.val?,Zan]at h;subst h;obtain⟨hF,e⟩:=(hr:R w Pb (.ptr r p g o) [x] Fx);simp at e;exact⟨e,hF⟩
 | _=>simp[V.val?]at h
theorem vZ{v:V}{y:Value}(h:v.val? =some y):RV w Pb v y []:=by
 cases v with
 | lit z=>
   simp only[V.val?]at h;split at h;rename_i hz;simp at h;subst h;exact⟨hz,rfl,rfl⟩;simp at h
 | agg us=>
   simp only[V.val?,Option.map_eq_some_iff]at h;obtain⟨l,h1,rfl⟩:=h;exact⟨_,rfl,(sF us h1).2 ⟨rfl,rfl⟩⟩
 | ptr r p g o=>
   simp only[V.val?,Zan]at h;subst h;exact⟨rfl,rfl⟩
 | _=>simp[V.val?]at h
theorem rq(hs:w3 N Pb Kb A a w F){x:Operand}{y:Value}(h:(A.ev x).val? =some y):a.eval x=y:=by
 obtain⟨_,hr⟩:=dS hs x;exact(MM h hr).1
theorem CR{v:V}{y:Value}{vs:List V}{xs:List Value}(h:v.val? =some y)(hr:RVs w Pb vs xs []):RVs w Pb (v::vs) (y::xs) []:=by
 have:=vZ (w:=w) (Pb:=Pb) h;refine⟨y,xs,[],[],rfl,rfl,?_,hr⟩;cases v with
 | agg us=>exact this
 | lit _=>exact this
 | ptr _ _ _ _=>exact this
 | _=>simp[V.val?]at h
theorem rS{v1 v2:V}{y1 y2:Value}(h1:v1.val? =some y1)(h2:v2.val? =some y2):RV w Pb (.tup [v1,v2]) (.tuple #[y1,y2]) []:=
 ⟨_,rfl,CR h1 (CR h2 ⟨rfl,rfl⟩)⟩
theorem w3.mod(hs:w3 N Pb Kb A a w F) {t g:Nat} {v':V} (hg:g∈F (.slot t)) (hk:∀ k,k≠g->w'.heap[k]? =w.heap[k]?) (hsz:w'.heap.size=w.heap.size)
 (hv:RV w' Pb v' (a.tmps.getD t undef) (F (.slot t))):w3 N Pb Kb (A.put (some t) v') a w' F where
 size:=hs.size
 defers:=hs.defers
 slot:=fun i=>by
  rw[AS.aC];split;rename_i e;subst e;exact hv;rename_i e;refine mN _ (hs.slot i) (fun x hx=>hk x fun c=>?_) (fun x hx=>hk x fun c=>?_) (fun _ h=>h) (fun x hx c=>(hs.free _ x hx).1 (hs.sub x c));subst c;exact(hs.free _ _ hg).1 (hs.sub _ hx);subst c;exact hs.cm (.slot i) (.slot t) (fun c=>e (by injection c)) _ hx hg
 root:=fun k g' v h=>by
  obtain⟨F',e,hA⟩:=hs.root k g' v h;refine⟨F',e,?_⟩;have hne:∀ x,x∈g'::F'->x≠g:=fun x hx c=>by
   subst c;exact hs.cm (.key k) (.slot t) Zad _ (by rw[e];exact hx) hg
  obtain⟨cs,cells,⟨e1,fr,hb,hfr⟩,hr,hc⟩:=hA
  exact⟨cs,cells,⟨e1,fr,(hk g' (hne g' Zad)).trans hb,hfr⟩,gF _ hr (fun x hx=>hk x fun c=>by subst c;exact(hs.free _ _ hg).1 (hs.sub _ hx)) (fun x hx=>hk x (hne x (by simp[hx]))) (fun _ h=>h)
   (fun x hx c=>(hs.free (.key k) x (by rw[e];simp[hx])).1 (hs.sub x c)),hc⟩
 cm:=hs.cm
 nodup:=hs.nodup
 free:=fun r x hx=>by rw[hsz];exact hs.free r x hx
 sub:=hs.sub
 bound:=fun x hx=>by rw[hsz];exact hs.bound x hx
theorem gy{o:Oper} {K:AS->Prop} {d:Nat} {v:V} (hd:o.dst=some d) (hN:d<N) (hK:K (A.put (some d) v))
 (h:∀ Pb Kb a w F,w3 N Pb Kb A a w F->∃ x,(execOp a.eval o).run P w=.ok (.value x) w/\RV w Pb v x []):F9 P N o A K:=
 jl (by rw[hd];exact hN) (by rw[hd];exact hK) h
end
section
variable {P:Program}
def ZR:Cu P where
 X:=Unit
 pre N o A:=match o.op,o.dst with
  | .makeInterface T x,some d=>match Nat.blt d N,tD P T,(A.ev x).val? with
    | true,some _,some y=>(∃ td,P.underlying T=some td/\(∀ i,td≠.interface i))/\(Value.iface T y).oneCell'=true
    | _,_,_=>False
  | _,_=>False
 post _ o A:=match o.op,o.dst with
  | .makeInterface T x,some d=>match (A.ev x).val? with
    | some y=>A.put (some d) (.lit (.iface T y))
    | none=>A
  | _,_=>A
 ok:=by
  rintro N ⟨dst,op,ty,pos,after,D8⟩ A K-hp hK;replace hK:=hK ();simp only at hp hK;split at hp;rename_i T x d;split at hp;rename_i td0 y e1 e2 e3;obtain⟨⟨td,h1,h2⟩,h3⟩:=hp;simp only[e3]at hK;refine gy rfl (bG e1) hK fun Pb Kb a w F hs=>⟨.iface T y,?_,du h3⟩;have hy:=rq hs e3;have hu:=aK (w:=w) h1;cases td with
  | interface i=>exact absurd rfl (h2 i)
  | _=>simp[execOp,Instr.makeInterface,Za0,hu,hy]
  exact hp.elim;exact hp.elim
def Y6(v:V):Cu P where
 X:=Unit
 pre N o A:=match o.op,o.dst with
  | .typeAssert x _ T true,some d=>match Nat.blt d N,A.ev x,v.val? with
    | true,.lit (.iface T' y),some y'=>(∃ td,P.underlying T=some td/\(∀ i,td≠.interface i))/\T'=T/\y'=y
    | _,_,_=>False
  | _,_=>False
 post _ o A:=match o.dst with
  | some d=>A.put (some d) (.tup [v,bV true])
  | none=>A
 ok:=by
  rintro N ⟨dst,op,ty,pos,after,D8⟩ A K-hp hK;replace hK:=hK ();simp only at hp hK;split at hp;rename_i x T1 T d;split at hp;rename_i T' y y' e1 e2 e3;obtain⟨⟨td,h1,h2⟩,rfl,rfl⟩:=hp;refine gy rfl (bG e1) hK fun Pb Kb a w F hs=>⟨.tuple #[y',.bool true],?_,rS e3 rfl⟩;have hy:=bY hs e2;have hu:=aK (w:=w) h1;cases td with
  | interface i=>exact absurd rfl (h2 i)
  | _=>simp[execOp,Instr.typeAssert,Za0,hu,hy]
  exact hp.elim;exact hp.elim
def Yl(z:ZT P):Cu P where
 X:=Unit
 pre N o A:=match o.op,o.dst with
  | .typeAssert x _ T true,some d=>match Nat.blt d N,A.ev x,T==z.T with
    | true,.lit (.iface T' y),true=>(∃ td,P.underlying T=some td/\(∀ i,td≠.interface i))/\T'≠T/\(∃ y,z.v.val? =some y/\∀ w,(zeroValue T).run P w=.ok y w)
    | _,_,_=>False
  | _,_=>False
 post _ o A:=match o.dst with
  | some d=>A.put (some d) (.tup [z.v,bV false])
  | none=>A
 ok:=by
  rintro N ⟨dst,op,ty,pos,after,D8⟩ A K-hp hK;replace hK:=hK ();simp only at hp hK;split at hp;rename_i x T1 T d;split at hp;rename_i T' y e1 e2 e3;obtain⟨⟨td,h1,h2⟩,hne,y2,hz,XJ⟩:=hp;refine gy rfl (bG e1) hK fun Pb Kb a w F hs=>⟨.tuple #[y2,.bool false],?_,rS hz rfl⟩;have hy:=bY hs e2;have hu:=aK (w:=w) h1;cases td with
  | interface i=>exact absurd rfl (h2 i)
  | _=>simp[execOp,Instr.typeAssert,Za0,hu,hy,hne,XJ]
  exact hp.elim;exact hp.elim
def jv:List V->Option (List Value)
 | []=>some []
 | v::vs=>match v.val?,jv vs with
   | some y,some ys=>some (y::ys)
   | _,_=>none
theorem mq{N:Nat}{Pb Kb:Nat->Prop}{A:AS}{a:Act}{w:World}{F:m4->List Nat}(hs:w3 N Pb Kb A a w F):∀ (xs:List Operand) {ys:List Value},jv (xs.map A.ev)=some ys->xs.map a.eval=ys
 | [],ys,h=>by simp[jv]at h;simp[h]
 | x::xs,ys,h=>by
   simp only[Zbe,jv]at h;split at h;rename_i y ZD h1 h2;simp at h;subst h;rw[Zbe,rq hs h1,mq hs xs h2];simp at h
def U4:Cu P where
 X:=Unit
 pre N o A:=match o.op,o.dst with
  | .makeFunc fn first A7,some d=>match Nat.blt d N,jv (first.toList.map A.ev),jv (A7.toList.map A.ev) with
    | true,some l1,some l2=>(Value.func fn l1.toArray l2.toArray).oneCell'=true
    | _,_,_=>False
  | _,_=>False
 post _ o A:=match o.op,o.dst with
  | .makeFunc fn first A7,some d=>match jv (first.toList.map A.ev),jv (A7.toList.map A.ev) with
    | some l1,some l2=>A.put (some d) (.lit (.func fn l1.toArray l2.toArray))
    | _,_=>A
  | _,_=>A
 ok:=by
  rintro N ⟨dst,op,ty,pos,after,D8⟩ A K-hp hK;replace hK:=hK ();simp only at hp hK;split at hp;rename_i fn first A7 d
  split at hp;rename_i l1 l2 e1 e2 e3;simp only[e2,e3]at hK;refine gy rfl (bG e1) hK fun Pb Kb a w F hs=>⟨.func fn l1.toArray l2.toArray,?_,du hp⟩;have h1:=mq hs _ e2;have h2:=mq hs _ e3;have h1:first.map a.eval=l1.toArray:=by rw[<- h1];apply Array.ext';simp
  have h2:A7.map a.eval=l2.toArray:=by rw[<- h2];apply Array.ext';simp
  simp only[execOp,Instr.makeFunc,Za0,Zas,Za1,h1,h2];exact hp.elim;exact hp.elim
end
section
variable {w w':World} {Pb Kb Pb':Nat->Prop} {N:Nat} {A A' B:AS} {a:Act} {F:m4->List Nat} {P:Program} {ops:Array Oper}
theorem Fg{v:V}{x:Value}(h:v.lits=some [x]):∀ n,RL w Pb (List.replicate n v) (List.replicate n x) []
 | 0=>⟨rfl,rfl⟩
 | n+1=>⟨[x],List.replicate n x,[],[],rfl,rfl,(AV v h).2 ⟨rfl,rfl⟩,Fg h n⟩
theorem Oc{x:Value}{n:Nat}{zc:Array Value}(h:zc.toList=[x]):madeCells zc (n*1)=(List.replicate n x).toArray:=by
 have hz:zc= #[x]:=by rw[<- Array.toList_inj];simpa using h
 subst hz;apply Array.ext;simp[madeCells];intro i h1 h2;simp[madeCells,Nat.mod_one]at h1 ⊢
def msC(z:ZT P)(n:Nat):Cu P where
 X:=Nat
 pre N o A:=match o.op,o.dst with
  | .makeSlice T l c,some d=>match Nat.blt d N,tD P T,ti P z.T with
    | true,some (.sl e),some i=>(e=z.T/\i.sz=1/\(∃ x,z.v.lits=some [x])/\z.v.n=1)/\A.ev l=.lit (.int .i64 n)/\A.ev c=.lit (.int .i64 n)/\1<=n/\n*i.O0<=140737488355328/\n<=9223372036854775807
    | _,_,_=>False
  | _,_=>False
 post g o A:=match o.dst with
  | some d=>A.put (some d) (.own 1 (List.replicate n z.v) g 0 n)
  | none=>A
 ok:=by
  rintro N ⟨dst,op,ty,pos,after,D8⟩ A K-hp hK;simp only at hp hK;split at hp;rename_i T l c d;split at hp;rename_i e i e1 e2 e3;obtain⟨⟨rfl,hsz,⟨x,hx⟩,Yp⟩,hl,hc,h1,US,h63⟩:=hp;obtain⟨inf,z0,O',hzero,hfl⟩:=z.ok;obtain⟨U5,_,J4,_,T3,Uo,_⟩:=jy e3;rw[O']at J4;obtain rfl:=Option.some.inj J4;have hu:=iW e2;intro Pb Kb a w F Q hs;have hl:=bY hs hl;have hc:=bY hs hc;have Qh:z0.cells.toList=[x]:=by
   have h1:=rK (w:=w) (Pb:=Pb) z.v hfl;exact((AV z.v hx).1 h1).1
  have hm:=run_make (P:=P) w T z.T inf z0 hu O' hzero .i64 .i64 n n Zac Zac (by rw[Uo,<- Int.natCast_mul,Nat.mul_comm];omega) Zac;rw[Int.toNat_natCast,T3,hsz,Oc Qh]at hm;have P1:(execOp a.eval ⟨some d,.makeSlice T l c,ty,pos,after,D8⟩).run P w=.ok (.value (.slice (some ⟨w.heap.size,0,none⟩) n n)) (w.alloc (.cells (List.replicate n x).toArray z.T)):=by
   simp only[execOp,Za0,hl,hc,hm,Zas,Za1]
  unfold Oper.wp;rw[P1,Oper.upon_value];have PA:=hs.ob (.cells (List.replicate n x).toArray z.T);have Se: ¬ Kb w.heap.size:=fun h=>by have:=hs.bound _ h;omega
  have hR:R (w.alloc (.cells (List.replicate n x).toArray z.T)) Pb (.own 1 (List.replicate n z.v) w.heap.size 0 n) [.slice (some ⟨w.heap.size,0,none⟩) n n] [w.heap.size]:=
   .inr ⟨h1,Nat.one_pos,Zad,Zad,fun v U7=>by rw[List.eq_of_mem_replicate U7];exact Yp,fun c=>Se (hs.sub _ c),_,[],_,rfl,Fg hx n,⟨z.T,(0,0),gK w _,fun i _ h=>by omega⟩,Zad,fun j u hu=>by rw[Zaw,List.getElem?_toArray];exact hu⟩
  exact⟨_,Pb,Kb,_,hK _,PA.put (bG e1) hR (fun r _ g hg=>by
   obtain rfl:=Zav.1 hg;intro c;have:=(hs.free r _ c).2;omega) Zad (fun g hg=>by
   obtain rfl:=Zav.1 hg;exact⟨Se,Zbx⟩),fun _ h=>h,fun _ h=>h,fun _ h=>.inl h,A4.alloc hs.bound _⟩
  exact hp.elim;exact hp.elim
def cC:List (BL×Value)->BL->Option Value
 | [],_=>none
 | p::r,k=>if p.1=k then some p.2 else cC r k
def ft:List (BL×Value)->BL->Value->List (BL×Value)
 | [],k,x=>[(k,x)]
 | p::r,k,x=>if p.1=k then (k,x)::r else p::ft r k x
theorem str_inj{a b:BL}:((⟨a.toArray⟩:ByteArray)== ⟨b.toArray⟩)=decide (a=b):=by
 rw[Za6,MapKept.bytes_beq];simp
theorem kO(k:BL):∀ (es:List (BL×Value)) (l:List MapEntry) (i:Nat),l.map (fun e=>(e.key,e.val))=es.map (fun p=>(Value.string ⟨p.1.toArray⟩,p.2))->
 (cC es k=none->Instr.findNow .string (.string ⟨k.toArray⟩) l i=some none)/\
 (∀ x,cC es k=some x->∃ j,Instr.findNow .string (.string ⟨k.toArray⟩) l i=some (some (i+j,x))/\j<l.length/\(∃ e,l[j]? =some e/\e.key=.string ⟨k.toArray⟩)/\
  ∀ y,(l.modify j fun e=>{ e with key:=.string ⟨k.toArray⟩,val:=y }).map (fun e=>(e.key,e.val))=(ft es k y).map (fun p=>(Value.string ⟨p.1.toArray⟩,p.2)))
 | [],l,i,h=>by
   have:l=[]:=Zbq
   subst this;simp[cC,Instr.findNow]
 | p::r,l,i,h=>by
   cases l with
   | nil=>simp at h
   | cons e l=>
     simp only[Zbe,List.cons.injEq,Zaq]at h;obtain⟨⟨h1,h2⟩,h3⟩:=h;obtain⟨i1,i2⟩:=kO k r l (i+1) h3;simp only[cC,ft,Instr.findNow,h1,Instr.sameNow,str_inj];by_cases hk:p.1=k;subst hk;simp only[if_true,decide_true];refine⟨Zad,fun x hx=>⟨0,?_,Zad,⟨e,rfl,h1⟩,fun y=>?_⟩⟩;simp at hx;rw[h2,hx];rfl;simp[h3];have Rv: ¬ k=p.1:=fun c=>hk c.symm;simp only[if_neg hk,decide_eq_false Rv];refine⟨i1,fun x hx=>?_⟩;obtain⟨j,j1,j2,⟨e',j3,j4⟩,j5⟩:=i2 x hx;refine⟨j+1,by rw[j1];congr 2;simp;omega,Zal,⟨e',by simpa using j3,j4⟩,fun y=>?_⟩;have:=j5 y;simp only[List.modify_succ_cons,Zbe,this,h1,h2]
theorem tQ(k:BL)(y:Value):∀ (es:List (BL×Value)),cC es k=none->ft es k y=es++[(k,y)]
 | [],_=>rfl
 | p::r,h=>by
   simp only[cC]at h;split at h;simp at h;rename_i hk;simp only[ft,if_neg hk,tQ k y r h,List.cons_append]
theorem nq{e:Bool}{n T:Nat}{k:ByteArray}(h:P.underlying T=some .string):(Instr.checkKey e (n+1) T (.string k)).run P w=.ok () w:=by
 unfold Instr.checkKey;simp[Za0,aK (w:=w) h]
theorem zg{k:ByteArray}{n:Nat}:Instr.sameBits n (.string k) (.string k)=true:=by
 unfold Instr.sameBits;exact(MapKept.bytes_beq k k).2 rfl
def ZQ:Cu P where
 X:=Nat
 pre N o A:=match o.op,o.dst with
  | .makeMap _ none,some d=>match Nat.blt d N with
    | true=>True
    | false=>False
  | _,_=>False
 post g o A:=match o.dst with
  | some d=>A.put (some d) (.om [] g)
  | none=>A
 ok:=by
  rintro N ⟨dst,op,ty,pos,after,D8⟩ A K-hp hK;simp only at hp hK;split at hp;rename_i T d;split at hp;rename_i e1;intro Pb Kb a w F Q hs;have P1:(execOp a.eval ⟨some d,.makeMap T none,ty,pos,after,D8⟩).run P w=.ok (.value (.map (some w.heap.size))) (w.alloc (.map #[] 0)):=rfl;unfold Oper.wp;rw[P1,Oper.upon_value];have PA:=hs.ob (.map #[] 0);have Se: ¬ Kb w.heap.size:=fun h=>by have:=hs.bound _ h;omega
  have hR:R (w.alloc (.map #[] 0)) Pb (.om [] w.heap.size) [.map (some w.heap.size)] [w.heap.size]:=
   ⟨rfl,rfl,fun c=>Se (hs.sub _ c),#[],0,gK w _,rfl,Zad,Zad⟩
  exact⟨_,Pb,Kb,_,hK _,PA.put (bG e1) hR (fun r _ g hg=>by
   obtain rfl:=Zav.1 hg;intro c;have:=(hs.free r _ c).2;omega) Zad (fun g hg=>by
   obtain rfl:=Zav.1 hg;exact⟨Se,Zbx⟩),fun _ h=>h,fun _ h=>h,fun _ h=>.inl h,A4.alloc hs.bound _⟩
  exact hp.elim;exact hp.elim
def ZP(t0:Nat)(es:List (BL×Value))(k:BL)(y:Value):Cu P where
 X:=Unit
 pre N o A:=match o.op,o.dst with
  | .mapUpdate T m kx x,none=>match tD P T,Nat.blt t0 N with
    | some (.map kt _),true=>match tD P kt,A.ev m,A.get t0 with
      | some .str,.lit (.map (some g)),.om RH g'=>(g'=g/\RH=es)/\A.ev kx=sV k/\(A.ev x).val? =some y
      | _,_,_=>False
    | _,_=>False
  | _,_=>False
 post _ o A:=match A.get t0 with
  | .om _ g=>A.put (some t0) (.om (ft es k y) g)
  | _=>A
 ok:=by
  rintro N ⟨dst,op,ty,pos,after,D8⟩ A K-hp hK;replace hK:=hK ();simp only at hp hK;split at hp;rename_i T m kx x;split at hp;rename_i kt et e1 e2;split at hp;rename_i g RH g' e3 e4 e5;obtain⟨⟨rfl,rfl⟩,hk,hy⟩:=hp;rw[e5]at hK;intro Pb Kb a w F Q hs;have hm:=bY hs e4;have hk:=bY hs hk;have hy:=rq hs hy;have h0:=hs.slot t0;rw[e5]at h0;have h0:R w Pb (.om RH g') [a.tmps.getD t0 undef] (F (.slot t0)):=h0;obtain⟨hF,hc,hnP,en,cl,hb,UR,hnd,hcl⟩:=h0;obtain⟨td,hu,hd⟩:=cP e1;have hu:P.underlying T=some (.map kt et):=by
   cases td <;> simp_all[dG]
  obtain⟨U3,QR,Tr⟩:=cP e3;have QR:P.underlying kt=some .string:=by
   cases U3 <;> simp_all[dG]
  have Wc:∀ w:World,(Instr.checkKey false 10000 kt (.string (Str k))).run P w=.ok () w:=fun w=>nq QR;obtain⟨f1,f2⟩:=kO k RH en.toList 0 UR
  have hw:∃ Tu UW,(Instr.mapUpdate T (.map (some g')) (.string (Str k)) y).run P w=.ok () { w with heap:=w.heap.setIfInBounds g' (.map Tu UW) }/\
   Tu.toList.map (fun e=>(e.key,e.val))=(ft RH k y).map (fun p=>(.string ⟨p.1.toArray⟩,p.2))/\(Tu.toList.map (·.born)).Nodup/\∀ e∈Tu.toList,e.born<UW:=by
   cases hlk:cC RH k with
   | none=>
     have:=f1 hlk;refine⟨en.push { key:=.string (Str k),val:=y,born:=cl },cl+1,?_,?_,?_,?_⟩;rw[show (⟨k.toArray⟩:ByteArray)=Str k from rfl]at this;simp[Instr.mapUpdate,run_underlying hu,MapKept.run_getObj_map hb,Wc,MapKept.run_findKey QR this,MapKept.run_setObj_map _ hb,Result.andThen];rw[tQ k y RH hlk];simp[UR,Str];simp only[Array.toList_push,Zbb,Zbe,List.map_nil];rw[List.nodup_append];refine⟨hnd,Zad,fun a ha b hb=>?_⟩;simp only[Zav]at hb;obtain⟨e,he,rfl⟩:=List.mem_map.1 ha;have:=hcl e he;omega;intro e he;simp only[Array.toList_push,Zax,Zav]at he;rcases he with he | rfl;have:=hcl e he;omega;simp
   | some x0=>
     obtain⟨j,j1,j2,⟨e,j3,j4⟩,j5⟩:=f2 x0 hlk;rw[Zaw]at j1;refine⟨en.modify j fun e=>{ e with key:=.string (Str k),val:=y },cl,?_,?_,?_,?_⟩;rw[show (⟨k.toArray⟩:ByteArray)=Str k from rfl]at j1;have Xb:((en[j]?).map (·.key)).getD (.string (Str k))=.string (Str k):=by
      have:en[j]? =some e:=by rw[<- Array.getElem?_toList];exact j3
      rw[this];exact j4
     simp[Instr.mapUpdate,run_underlying hu,MapKept.run_getObj_map hb,Wc,MapKept.run_findKey QR j1,Xb,Instr.keyThatStays,zg,MapKept.run_setObj_map _ hb,Result.andThen];rw[Array.toList_modify];exact j5 y;rw[Array.toList_modify];have:(en.toList.modify j fun e=>{ e with key:=.string (Str k),val:=y }).map (·.born)=en.toList.map (·.born):=by
      apply List.ext_getElem?;intro i;simp only[List.getElem?_map,List.getElem?_modify];cases en.toList[i]? with
      | none=>rfl
      | some e=>simp only[Option.map_eq_map,Option.map_some];split <;> rfl
     rw[this];exact hnd;intro e he;rw[Array.toList_modify]at he;obtain⟨i,hi⟩:=List.mem_iff_getElem?.1 he;rw[List.getElem?_modify]at hi;obtain⟨e',h1,h2⟩:=Option.map_eq_some_iff.1 hi;have:=hcl e' (Za7 h1);rw[<- h2];split <;> simpa using this
  obtain⟨Tu,UW,B6,q1,q2,q3⟩:=hw;have hgs:g'<w.heap.size:=(hs.free (.slot t0) g' (by rw[hF];simp)).2;have P1:(execOp a.eval ⟨none,.mapUpdate T m kx x,ty,pos,after,D8⟩).run P w=.ok .skip { w with heap:=w.heap.setIfInBounds g' (.map Tu UW) }:=by
   simp[execOp,hm,hk,hy,B6,Result.andThen]
  unfold Oper.wp;rw[P1,Oper.upon_skip];have hne:∀ k,k≠g'->(w.heap.setIfInBounds g' (.map Tu UW))[k]? =w.heap[k]? :=fun k hk=>by
   rw[Array.getElem?_setIfInBounds_ne (Ne.symm hk)]
  refine⟨_,Pb,Kb,F,hK,hs.mod (w':={ w with heap:=w.heap.setIfInBounds g' (.map Tu UW) }) (t:=t0) (g:=g') (by rw[hF];simp) hne Zad ?_,fun _ h=>h,fun _ h=>h,fun _ h=>.inl h,⟨rfl,rfl,rfl,Zad,fun k hk=>hne k fun c=>(hs.free (.slot t0) g' (by rw[hF];simp)).1 (c ▸ hk),fun k c _ _ hk=>⟨c,by rw[hne k (by rintro rfl;rw[hb]at hk;cases hk)];exact hk,rfl⟩⟩⟩;exact(⟨hF,hc,hnP,Tu,UW,(by simp[hgs]:(w.heap.setIfInBounds g' (.map Tu UW))[g']? =some (.map Tu UW)),q1,q2,q3⟩:R { w with heap:=w.heap.setIfInBounds g' (.map Tu UW) } Pb (.om (ft RH k y) g') _ _);exact hp.elim;exact hp.elim;exact hp.elim
def mlC(t0:Nat):Cu P where
 X:=Unit
 pre N o A:=match o.op,o.dst with
  | .call ⟨.builtin .len,⟨[x]⟩,⟨[T]⟩⟩,some d=>match tD P T,Nat.blt d N with
    | some (.map _ _),true=>match A.ev x,A.get t0 with
      | .lit (.map (some g)),.om _ g'=>g'=g
      | _,_=>False
    | _,_=>False
  | _,_=>False
 post _ o A:=match o.dst,A.get t0 with
  | some d,.om es _=>A.put (some d) (.lit (.int .i64 es.length))
  | _,_=>A
 ok:=by
  rintro N ⟨dst,op,ty,pos,after,D8⟩ A K-hp hK;replace hK:=hK ();simp only at hp hK;split at hp;rename_i x T d;split at hp;rename_i kt et e1 e2;split at hp;rename_i g es g' e3 e4;subst hp;rw[e4]at hK;refine gy rfl (bG e2) hK fun Pb Kb a w F hs=>⟨.int .i64 es.length,?_,du rfl⟩;have hm:=bY hs e3;have h0:=hs.slot t0;rw[e4]at h0;have h0:R w Pb (.om es g') [a.tmps.getD t0 undef] (F (.slot t0)):=h0;obtain⟨hF,hc,hnP,en,cl,hb,UR,hnd,hcl⟩:=h0;obtain⟨td,hu,hd⟩:=cP e1;have hu:P.underlying T=some (.map kt et):=by
   cases td <;> simp_all[dG]
  have hl:en.size=es.length:=by
   have:=Zbm List.length UR;simpa using this
  have hr:((#[x]:Array Operand).map a.eval)= #[.map (some g')]:=by simp[hm]
  simp[execOp,resolve,Deferred.ofValue,invoke,builtin,Builtin.len_,hm,run_underlying hu,MapKept.run_getObj_map hb,Result.andThen,hl,goInt];exact hp.elim;exact hp.elim;exact hp.elim
def lkC(es:List (BL×Value))(k:BL)(v:V)(ok:Bool):Cu P where
 X:=Unit
 pre N o A:=match o.op,o.dst with
  | .lookup T x kx true,some d=>match tD P T,Nat.blt d N with
    | some (.map kt et),true=>match tD P kt,A.ev x with
      | some .str,.mp RH=>(RH=es)/\A.ev kx=sV k/\((ok=true/\∃ y,cC es k=some y/\v.val? =some y)\/(ok=false/\cC es k=none/\∃ y,v.val? =some y/\∀ w,(zeroValue et).run P w=.ok y w))
      | _,_=>False
    | _,_=>False
  | _,_=>False
 post _ o A:=match o.dst with
  | some d=>A.put (some d) (.tup [v,bV ok])
  | none=>A
 ok:=by
  rintro N ⟨dst,op,ty,pos,after,D8⟩ A K-hp hK;replace hK:=hK ();simp only at hp hK;split at hp;rename_i T x kx d;split at hp;rename_i kt et e1 e2;split at hp;rename_i RH e3 e4;obtain⟨rfl,hk,hy⟩:=hp;obtain⟨td,hu,hd⟩:=cP e1;have hu:P.underlying T=some (.map kt et):=by
   cases td <;> simp_all[dG]
  obtain⟨U3,QR,Tr⟩:=cP e3;have QR:P.underlying kt=some .string:=by
   cases U3 <;> simp_all[dG]
  have P4:∃ y,v.val? =some y:=by
   rcases hy with ⟨_,y,_,h⟩ | ⟨_,_,y,h,_⟩ <;> exact⟨y,h⟩
  obtain⟨y,hv⟩:=P4;refine gy rfl (bG e2) hK fun Pb Kb a w F hs=>⟨.tuple #[y,.bool ok],?_,rS hv rfl⟩;have hk:=bY hs hk;obtain⟨_,hx⟩:=dS hs x;rw[e4]at hx;have hx:R w Pb (.mp RH) [a.eval x] _:=hx;obtain⟨_,g,hc,_,en,cl,hb,UR,_,_⟩:=hx;simp only[List.cons.injEq,and_true]at hc;obtain⟨f1,f2⟩:=kO k RH en.toList 0 UR;have Wc:∀ e,(Instr.checkKey e 10000 kt (.string (Str k))).run P w=.ok () w:=fun e=>nq QR;rcases hy with ⟨rfl,y',h1,h2⟩ | ⟨rfl,h1,y',h2,XJ⟩;rw[hv]at h2;obtain rfl:=Option.some.inj h2;obtain⟨j,j1,_⟩:=f2 _ h1;rw[show (⟨k.toArray⟩:ByteArray)=Str k from rfl]at j1;simp[execOp,hc,hk,Instr.lookup,run_underlying hu,MapKept.run_getObj_map hb,Wc,MapKept.run_findKey QR j1,Result.andThen];rw[hv]at h2;obtain rfl:=Option.some.inj h2;have j1:=f1 h1;rw[show (⟨k.toArray⟩:ByteArray)=Str k from rfl]at j1;simp[execOp,hc,hk,Instr.lookup,run_underlying hu,MapKept.run_getObj_map hb,Wc,MapKept.run_findKey QR j1,Result.andThen,XJ];exact hp.elim;exact hp.elim;exact hp.elim
def mnC:Cu P where
 X:=Unit
 pre N o A:=match o.op,o.dst with
  | .call ⟨.builtin .len,⟨[x]⟩,⟨[T]⟩⟩,some d=>match tD P T,Nat.blt d N with
    | some (.map _ _),true=>match A.ev x with
      | .mp _=>True
      | _=>False
    | _,_=>False
  | _,_=>False
 post _ o A:=match o.op,o.dst with
  | .call ⟨.builtin .len,⟨[x]⟩,⟨[_]⟩⟩,some d=>match A.ev x with
    | .mp es=>A.put (some d) (.lit (.int .i64 es.length))
    | _=>A
  | _,_=>A
 ok:=by
  rintro N ⟨dst,op,ty,pos,after,D8⟩ A K-hp hK;replace hK:=hK ();simp only at hp hK;split at hp;rename_i x T d;split at hp;rename_i kt et e1 e2;split at hp;rename_i es e3;simp only[e3]at hK;refine gy rfl (bG e2) hK fun Pb Kb a w F hs=>⟨.int .i64 es.length,?_,du rfl⟩;obtain⟨_,hx⟩:=dS hs x;rw[e3]at hx;have hx:R w Pb (.mp es) [a.eval x] _:=hx;obtain⟨_,g,hm,_,en,cl,hb,UR,_,_⟩:=hx;simp only[List.cons.injEq,and_true]at hm;obtain⟨td,hu,hd⟩:=cP e1;have hu:P.underlying T=some (.map kt et):=by
   cases td <;> simp_all[dG]
  have hl:en.size=es.length:=by
   have:=Zbm List.length UR;simpa using this
  simp[execOp,resolve,Deferred.ofValue,invoke,builtin,Builtin.len_,hm,run_underlying hu,MapKept.run_getObj_map hb,Result.andThen,hl,goInt];exact hp.elim;exact hp.elim;exact hp.elim
end
theorem drop_cons{α:Type}{l:List α}{i:Nat}(h:i<l.length)(d:α):l.drop i=l.getD i d::l.drop (i+1):=by
 rw[List.drop_eq_getElem_cons h,Zam,Zat h];rfl
theorem aX{α:Type}{l:List α}{i:Nat}(h:i<l.length)(d:α):l.take (i+1)=l.take i++[l.getD i d]:=by
 rw[List.take_add_one,Zam,Zat h];rfl
theorem all_false{α:Type}{l:List α}{p:α->Bool}{i:Nat}{d:α}(h:i<l.length)(hp:p (l.getD i d)=false):l.all p=false:=by
 rw[List.all_eq_false];refine⟨l.getD i d,?_,by rw[hp];decide⟩;rw[Zam,Zat h];exact List.getElem_mem h
theorem all_true{α:Type}{l:List α}{p:α->Bool}{d:α}(hp:∀ j,j<l.length->p (l.getD j d)=true):l.all p=true:=by
 rw[Za2];intro x hx;obtain⟨j,hj,rfl⟩:=List.getElem_of_mem hx;have:=hp j hj
 rwa [Zam,Zat hj]at this
theorem bg{p:Nat->Prop}{i:Nat}(h:∀ j,j<i->p j)(hi:p i):∀ j,j<i+1->p j:=fun j hj=>by
 rcases Nat.lt_succ_iff_lt_or_eq.1 hj with h' | rfl;exact h j h';exact hi
def ab(c:UInt8):BL->BL×BL×Bool
 | []=>([],[],false)
 | x::r=>if x=c then ([],r,true) else (x::(ab c r).1,(ab c r).2.1,(ab c r).2.2)
def kG(b:UInt8):Bool:=decide (97<=b.toNat/\b.toNat<=122)
def ej(b:UInt8):Bool:=decide ((97<=b.toNat/\b.toNat<=122)\/(48<=b.toNat/\b.toNat<=57)\/b.toNat=46\/b.toNat=45)
def cw(b:UInt8):Int:=if 48<=b.toNat/\b.toNat<=57 then b.toNat-48 else if 97<=b.toNat/\b.toNat<=102 then b.toNat-87 else if 65<=b.toNat/\b.toNat<=70 then b.toNat-55 else -1
def A6(n lo hi:Int):Bool:=decide (lo<=n/\n<=hi)
def fT(s:BL):Bool:=s.all kG
def cW(s:BL):Bool:=fT s&&A6 s.length 1 5
def cB(s:BL):Bool:=fT s&&A6 s.length 1 8
def cn(s part:BL)(from_:Nat):Int:=
 if h:from_+part.length<=s.length then (if (s.drop from_).take part.length=part then (from_:Int) else cn s part (from_+1)) else -1
 termination_by s.length+1-from_
def jV(b:UInt8):Bool:=ej b||decide (b.toNat=47\/b.toNat=42\/b.toNat=63\/b.toNat=37\/(65<=b.toNat/\b.toNat<=70))
def np(p:BL)(j:Nat):Bool:=jV (p.getD j 0)||(decide ((p.getD j 0).toNat=36)&&decide (j+1=p.length))
def bf(p:BL):Bool:=decide (1<=p.length/\p.length<=16/\(p.getD 0 0).toNat=47/\∀ j,j<p.length->np p j=true)
def kN:BL:=[48,49,50,51,52,53,54,55,56,57,65,66,67,68,69,70]
def fj(b:UInt8):BL:=[37,kN.getD (b.toNat / 16) 0,kN.getD (b.toNat % 16) 0]
def eR(b:UInt8):BL:=if ej b then [b] else fj b
def dq(a b:UInt8):UInt8:=UInt8.ofNat (cw a*16+cw b).toNat
def cO:BL->Option BL
 | []=>some []
 | [c]=>if c.toNat=37 then none else some (eR c)
 | [c,d]=>if c.toNat=37\/d.toNat=37 then none else some (eR c++eR d)
 | c::a::b::r=>if c.toNat=37 then (if 0<=cw a/\0<=cw b then (cO r).map (eR (dq a b)++ ·) else none) else (cO (a::b::r)).map (eR c++ ·)
def cb(s:BL):BL×Bool:=if s.length<=60 then (match cO s with | some x=>(x,true) | none=>([],false)) else ([],false)
def fi(s:BL):Bool:=(cb s).2&&((cb s).1==s)
theorem Fc{c:UInt8}{r:BL}(h: ¬ c.toNat=37):cO (c::r)=(cO r).map (eR c++ ·):=by
 match r with
 | []=>simp[cO,h]
 | [d]=>by_cases hd:d.toNat=37 <;> simp[cO,h,hd]
 | a::b::r=>simp[cO,h]
theorem nT{s:BL}{i:Nat}(hi:i<s.length)(h: ¬ (s.getD i 0).toNat=37):cO (s.drop i)=(cO (s.drop (i+1))).map (eR (s.getD i 0)++ ·):=by
 rw[drop_cons hi 0,Fc h]
theorem qw{s:BL}{i:Nat}(hi:i+2<s.length)(h:(s.getD i 0).toNat=37)(h1:0<=cw (s.getD (i+1) 0))(h2:0<=cw (s.getD (i+2) 0)):
 cO (s.drop i)=(cO (s.drop (i+3))).map (eR (dq (s.getD (i+1) 0) (s.getD (i+2) 0))++ ·):=by
 rw[drop_cons (by omega:i<s.length) 0,drop_cons (by omega:i+1<s.length) 0,drop_cons (by omega:i+1+1<s.length) 0];simp only[cO,h,if_true,h1,h2,and_self,Zbj]
theorem zK{s:BL}{i:Nat}(hi:i<s.length)(h:(s.getD i 0).toNat=37)(h1:s.length<=i+2\/cw (s.getD (i+1) 0)<0\/cw (s.getD (i+2) 0)<0):cO (s.drop i)=none:=by
 rw[drop_cons hi 0];by_cases h2:i+2<s.length;rw[drop_cons (by omega:i+1<s.length) 0,drop_cons (by omega:i+1+1<s.length) 0];simp only[cO,h,if_true];rw[if_neg];rintro⟨k1,k2⟩;have e:i+1+1=i+2:=rfl;rw[e]at k2;omega;by_cases h3:i+1<s.length;rw[drop_cons h3 0,Za8 Zac];simp only[cO,h,true_or,if_true];rw[Za8 Zac];simp only[cO,h,if_true]
theorem gu(b:UInt8):cw b<16:=by unfold cw;repeat (split <;> try omega)
theorem iH(b:UInt8): -1<=cw b:=by unfold cw;repeat (split <;> try omega)
theorem tL{a b:UInt8}(h1:0<=cw a)(h2:0<=cw b):((dq a b).toNat:Int)=cw a*16+cw b:=by
 have:=gu a;have:=gu b;unfold dq;rw[UInt8.toNat_ofNat'];omega
theorem qF{α:Type}{l:List α}{k:Nat}(h:k<l.length)(d:α):(l.take (k+1)).drop k=[l.getD k d]:=by
 rw[aX h d,List.drop_append_of_le_length Zal,Za8 Zal];rfl
theorem fa(b:UInt8):(eR b).length<=3:=by unfold eR fj;split <;> simp
theorem uy:∀ (s:BL) {x:BL},cO s=some x->x.length<=3*s.length
 | [],x,h=>by simp[cO]at h;subst h;simp
 | [c],x,h=>by
   simp only[cO]at h;split at h;simp at h;simp only[Zan]at h;subst h;have:=fa c;simpa using this
 | [c,d],x,h=>by
   simp only[cO]at h;split at h;simp at h;simp only[Zan]at h;subst h;have:=fa c;have:=fa d;simp;omega
 | c::a::b::r,x,h=>by
   simp only[cO]at h;split at h;split at h;simp only[Option.map_eq_some_iff]at h;obtain⟨y,hy,rfl⟩:=h;have:=uy r hy;have:=fa (dq a b);simp;omega;simp at h;simp only[Option.map_eq_some_iff]at h;obtain⟨y,hy,rfl⟩:=h;have:=uy (a::b::r) hy;have:=fa c;simp at *;omega
theorem pB(s:BL):(cb s).1.length<=180:=by
 unfold cb;split;split;rename_i x h;have:=uy s h;simp only;omega;simp;simp
def af(c:UInt8):BL->List BL
 | []=>[[]]
 | x::r=>if x=c then []::af c r else (x::(af c r).headD [])::(af c r).tail
theorem qc(c:UInt8):∀ r,af c r=(ab c r).1::(if (ab c r).2.2=true then af c (ab c r).2.1 else [])
 | []=>rfl
 | x::r=>by
   have ih:=qc c r;by_cases h:x=c;simp only[af,ab,if_pos h,if_true];simp only[af,ab,if_neg h];rw[ih];rfl
theorem Ae(c:UInt8):∀ r,(ab c r).2.2=true->(ab c r).2.1.length<r.length
 | [],h=>by simp[ab]at h
 | x::r,h=>by
   simp only[ab]at h ⊢;by_cases e:x=c;rw[if_pos e];simp;rw[if_neg e]at h ⊢;have:=Ae c r h;simp only[Zar];omega
theorem kY(c:UInt8):∀ r,(ab c r).1.length+(ab c r).2.1.length<=r.length
 | []=>by simp[ab]
 | x::r=>by
   simp only[ab];by_cases e:x=c;rw[if_pos e];simp;rw[if_neg e];have:=kY c r;simp only[Zar];omega
def de(o:List BL)(p:BL):List BL:=if p=[]\/p=[46] then o else if p=[46,46] then o.dropLast else o++[p]
def cf(ps:List BL):List BL:=ps.foldl de []
theorem ij{ps:List BL}{i:Nat}(h:i<ps.length):cf (ps.take (i+1))=de (cf (ps.take i)) (ps.getD i []):=by
 unfold cf;rw[aX h [],List.foldl_append];rfl
structure w4 where
 j9:BL
 e9:List BL
 asks:Bool
 ask:BL
def cJ:List BL->BL
 | []=>[]
 | [p]=>p
 | p::q::r=>p++[47]++cJ (q::r)
theorem my(p:BL):∀ (ps:List BL),cJ (ps++[p])=if ps=[] then p else cJ ps++[47]++p
 | []=>rfl
 | [q]=>by simp[cJ]
 | q::r::t=>by
   have:=my p (r::t);simp only[List.cons_append,cJ]at this ⊢;rw[this,if_neg Zad,if_neg Zad];simp[List.append_assoc]
def bL(a:w4):BL:=[47]++cJ a.e9++(if a.asks=true then [63]++a.ask else [])
def da(a:w4):BL:=[47,47]++a.j9++bL a
def fF(p:BL):Bool:=fi p&&!(p==[])&&!(p==[46])&&!(p==[46,46])
def aI(a:w4):Bool:=cW a.j9&&decide (a.e9.length<=5)&&fi a.ask&&(a.asks||a.ask==[])&&a.e9.all fF&&decide ((da a).length<=60)
def dg(a:w4):Prop:=a.j9.length<=1048576/\a.ask.length<=1048576/\a.e9.length<=1048576/\∀ i,(a.e9.getD i []).length<=1048576
theorem rQ{ps:List BL}(h:∀ i,(ps.getD i []).length<=1048576):∀ i,i<=ps.length->(cJ (ps.take i)).length<=i*1048577
 | 0,_=>by simp[cJ]
 | i+1,hi=>by
   have:=rQ h i Zac;have h2:=h i;rw[aX (by omega:i<ps.length) [],my];split;omega;simp only[Zap,Zar,Zau];omega
theorem yu{a:w4}(h:dg a):(bL a).length<=2199023255552:=by
 obtain⟨h1,h2,h3,h4⟩:=h;have:=rQ h4 a.e9.length (Zbc _);rw[List.take_length]at this;unfold bL;split <;> simp <;> omega
theorem nN{s:BL}(h:fi s=true):s.length<=60:=by
 unfold fi cb at h;split at h;assumption;simp at h
def dV(b:UInt8):UInt8:=if 65<=b.toNat/\b.toNat<=90 then b+32 else b
def bM(s:BL):BL:=s.map dV
theorem yg{x:UInt8}(h:65<=x.toNat/\x.toNat<=90):(dV x).toNat=x.toNat+32:=by
 unfold dV;rw[if_pos h,UInt8.toNat_add];have:(32:UInt8).toNat=32:=rfl;omega
theorem rh{s l:BL}{i:Nat}(hi:i<s.length)(h:l=bM (s.take i)++s.drop i):l.getD i 0=s.getD i 0:=by
 have hl:(bM (s.take i)).length=i:=by simp[bM];omega
 rw[h,Zam,Za4 Zac,hl,Nat.sub_self,drop_cons hi 0];rfl
theorem vP{s l:BL}{i:Nat}(hi:i<s.length)(h:l=bM (s.take i)++s.drop i):l.set i (dV (s.getD i 0))=bM (s.take (i+1))++s.drop (i+1):=by
 have hl:(bM (s.take i)).length=i:=by simp[bM];omega
 rw[h,List.set_append_right _ _ Zac,hl,Nat.sub_self,drop_cons hi 0,aX hi 0];simp[bM]
theorem xX{s l:BL}{i:Nat}(hi:i<s.length)(h:l=bM (s.take i)++s.drop i):l.set i (dV (l.getD i 0))=bM (s.take (i+1))++s.drop (i+1):=by
 rw[rh hi h];exact vP hi h
theorem vH{s l:BL}{i:Nat}(hi:i<s.length)(h:l=bM (s.take i)++s.drop i)(hn: ¬ (65<=(l.getD i 0).toNat/\(l.getD i 0).toNat<=90)):l=bM (s.take (i+1))++s.drop (i+1):=by
 rw[<- vP hi h];rw[rh hi h]at hn;rw[show dV (s.getD i 0)=s.getD i 0 from if_neg hn,<- rh hi h];have hlt:i<l.length:=by rw[h];simp[bM];omega
 apply List.ext_getElem?;intro j;by_cases e:i=j;subst e;simp[hlt];rw[List.getElem?_set_ne e]
def oA(o:Option w4):w4:=o.getD ⟨[],[],false,[]⟩
def eU(x:BL):BL:=(cb x).1
def fA(x:BL):Bool:=(cb x).2
def ct(h:BL)(fr:List BL)(r7:BL):Option w4:=
 if ((af 47 (ab 63 r7).1).all fA&&fA (ab 63 r7).2.1)=true then
  (if aI ⟨h,cf (fr++(af 47 (ab 63 r7).1).map eU),(ab 63 r7).2.2,eU (ab 63 r7).2.1⟩=true then some ⟨h,cf (fr++(af 47 (ab 63 r7).1).map eU),(ab 63 r7).2.2,eU (ab 63 r7).2.1⟩ else none) else none
theorem ou(c:UInt8):∀ s:BL,(af c s).length<=s.length+1
 | []=>by simp[af]
 | x::r=>by
   have:=ou c r;simp only[af];split;simp;omega;simp;omega
theorem Fe(l:List BL)(n:Nat)(h:∀ p∈l,p.length<=n):(l.headD []).length<=n:=by
 cases l with
 | nil=>simp
 | cons a l=>exact h a Zad
theorem xG(c:UInt8):∀ (s:BL),∀ p∈af c s,p.length<=s.length
 | [],p,hp=>by simp[af]at hp;subst hp;simp
 | x::r,p,hp=>by
   have ih:=xG c r;simp only[af]at hp;split at hp;simp only[List.mem_cons]at hp;rcases hp with rfl | hp;simp;have:=ih p hp;simp;omega;simp only[List.mem_cons]at hp;rcases hp with rfl | hp;have:=Fe _ _ ih;simp at this ⊢;omega;have:=ih p (List.mem_of_mem_tail hp);simp;omega
theorem im{ps:List BL}{n:Nat}(h:∀ p∈ps,p.length<=n)(i:Nat):(ps.getD i []).length<=n:=by
 rw[Zam];cases e:ps[i]? with
 | none=>simp
 | some p=>exact h p (Za7 e)
theorem hX(c:UInt8)(s:BL)(i:Nat):((af c s).getD i []).length<=s.length:=im (xG c s) i
theorem vS(ps:List BL):∀ (o:List BL),(∀ p∈ps.foldl de o,p∈o\/p∈ps)/\(ps.foldl de o).length<=o.length+ps.length:=by
 induction ps with
 | nil=>intro o;exact⟨fun p h=>.inl h,Zad⟩
 | cons q ps ih=>
   intro o;obtain⟨h1,h2⟩:=ih (de o q);have hs:(∀ p∈de o q,p∈o\/p=q)/\(de o q).length<=o.length+1:=by
    unfold de;split;exact⟨fun p h=>.inl h,Zac⟩;split;exact⟨fun p h=>.inl (List.dropLast_subset _ h),Zal⟩;exact⟨fun p h=>Zbq,Zad⟩
   refine⟨fun p hp=>?_,by simp only[List.foldl_cons,Zar];omega⟩;rcases h1 p hp with h | h;rcases hs.1 p h with h | h;exact .inl h;exact .inr (by simp[h]);exact .inr (by simp[h])
theorem yc{ps:List BL}{p:BL}(h:p∈cf ps):p∈ps:=by
 rcases (vS ps []).1 p h with h | h;simp at h;exact h
theorem xq(ps:List BL):(cf ps).length<=ps.length:=by have:=(vS ps []).2;simp only[Zau,Zaw]at this;exact this
theorem Ms{a:w4}{ls:List BL}{k:Bool}{q:BL}(ha:dg a)(hp:a.e9.length<=1000)(hl:ls.length<=2000):dg ⟨a.j9,cf (a.e9++ls.map eU),k,eU q⟩:=by
 obtain⟨h1,h2,h3,h4⟩:=ha;refine⟨h1,?_,?_,fun i=>?_⟩;have:=pB q;simp only[eU];omega;have:=xq (a.e9++ls.map eU);simp only[Zap,Zay]at this ⊢;omega;refine im (n:=1048576) (fun p YF=>?_) i;rcases Zax.1 (yc YF) with h | h;obtain⟨j,hj,rfl⟩:=List.getElem_of_mem h;have:=h4 j
 rwa [Zam,Zat hj]at this
 obtain⟨y,_,rfl⟩:=List.mem_map.1 h;have:=pB y;simp only[eU];omega
def jI(c:UInt8):Bool:=decide (¬ (c.toNat=47\/c.toNat=63))
theorem Au{s:BL}{p:UInt8->Bool}:∀ {i:Nat},i<=s.length->(∀ j,j<i->p (s.getD j 0)=true)->(i=s.length\/p (s.getD i 0)=false)->s.takeWhile p=s.take i/\s.dropWhile p=s.drop i:=by
 induction s with
 | nil=>intro i hi _ _;simp
 | cons x s ih=>
   intro i hi h1 h2;cases i with
   | zero=>
     rcases h2 with h2 | h2;simp at h2;have:p x=false:=Zb4
     simp[List.takeWhile_cons,List.dropWhile_cons,this]
   | succ i=>
     have hx:p x=true:=by simpa using h1 0 Zac
     obtain⟨k1,k2⟩:=ih (i:=i) Zbn (fun j hj=>by have:=h1 (j+1) Zac;simpa using this) (by
      rcases h2 with h2 | h2;left;simpa using h2;right;simpa using h2)
     simp[List.takeWhile_cons,List.dropWhile_cons,hx,k1,k2]
def dM(rest:BL):Option w4:=ct (bM (rest.takeWhile jI)) [] (rest.dropWhile jI)
def aP(raw:BL):Option w4:=
 if raw.length<=60/\2<=(ab 35 raw).1.length/\(ab 35 raw).1.take 2=[47,47] then dM ((ab 35 raw).1.drop 2) else none
def bz(a:w4):BL:=if aI a=true then da a else []
def az(s:BL):Bool:=(aP s).isSome&&(bz (oA (aP s))==s)
theorem Mb{h:BL}{fr:List BL}{r7:BL}{a:w4}(e:ct h fr r7=some a):aI a=true:=by
 unfold ct at e;split at e;split at e;rename_i hk;simp only[Zan]at e;subst e;exact hk;simp at e;simp at e
theorem Kn{s:BL}{a:w4}(e:aP s=some a):aI a=true:=by
 unfold aP at e;split at e;exact Mb e;simp at e
theorem Nd{a:w4}(h:aI a=true):dg a:=by
 unfold aI cW A6 at h;simp only[Zao,Zbk,Za2]at h;obtain⟨⟨⟨⟨⟨⟨_,h1⟩,h2⟩,h3⟩,_⟩,h4⟩,_⟩:=h;have:=nN h3;refine⟨Zac,Zac,Zac,fun i=>im (n:=1048576) (fun p hp=>?_) i⟩;have:=h4 p hp;unfold fF at this;simp only[Zao]at this;have:=nN this.1.1.1;omega
theorem rT(s:BL):dg (oA (aP s)):=by
 cases e:aP s with
 | none=>exact⟨by simp[oA],by simp[oA],by simp[oA],by simp[oA]⟩
 | some a=>exact Nd (Kn e)
def cQ(p:BL):Bool:=decide ((p.getD (p.length-1) 0).toNat=36)
def aB(p:BL):BL:=if cQ p=true then p.take (p.length-1) else p
def iS(e:Bool)(s:BL):Nat->List BL->Bool
 | at_,[]=>!e||decide (at_=s.length)
 | at_,p::r=>if (e&&r.isEmpty)=true then decide (at_+p.length<=s.length)&&(s.drop (s.length-p.length)==p)
   else if cn s p at_<0 then false else iS e s ((cn s p at_).toNat+p.length) r
def lE(p s:BL):Bool:=
 ((af 42 (aB p)).headD []).isPrefixOf s&&iS (cQ p) s ((af 42 (aB p)).headD []).length (af 42 (aB p)).tail
theorem Ai(s p:BL)(f:Nat):cn s p f<0\/(f:Int)<=cn s p f/\cn s p f+p.length<=s.length:=by
 rw[cn];split;split;right;constructor <;> omega;rcases Ai s p (f+1) with h | ⟨h1,h2⟩;exact .inl h;exact .inr ⟨Zac,h2⟩;left;omega
 termination_by s.length+1-f
theorem EE(c:UInt8)(s:BL):1<=(af c s).length:=by
 rw[qc];simp
theorem CM{p:BL}(h:1<=p.length):((((p.getD (Int.toNat ((p.length:Int)-1)) 0).toNat:Int))==36)=cQ p:=by
 have:Int.toNat ((p.length:Int)-1)=p.length-1:=Zac;rw[this];unfold cQ;rw[Za6];simp only[Zbl,Zbk];omega
theorem ES{p:BL}(h:cQ p=true):(p.take (Int.toNat ((p.length:Int)-1))).drop (Int.toNat 0)=aB p:=by
 have:Int.toNat ((p.length:Int)-1)=p.length-1:=Zac;rw[this];unfold aB;rw[if_pos h];rfl
theorem Gj{p:BL}(h:cQ p=false):p=aB p:=by unfold aB;rw[if_neg (by rw[h];decide)]
theorem LG{s x:BL}(h:s.take x.length=x):x.isPrefixOf s=true:=by
 rw[List.isPrefixOf_iff_prefix];rw[<- h];exact List.take_prefix _ _
theorem JC{s x:BL}(h: ¬ s.take x.length=x):x.isPrefixOf s=false:=by
 rw[Bool.eq_false_iff];intro h';rw[List.isPrefixOf_iff_prefix]at h';exact h (List.prefix_iff_eq_take.1 h').symm
theorem MK{e:Bool}{s p:BL}{q:Nat}{r:List BL}(h: ¬ (e=true/\r=[]))(hf:0<=cn s p q):iS e s q (p::r)=iS e s ((cn s p q).toNat+p.length) r:=by
 simp only[iS];rw[if_neg Zbq,if_neg Zac]
theorem Mv{e:Bool}{s p:BL}{q:Nat}{r:List BL}(h: ¬ (e=true/\r=[]))(hf:cn s p q<0):iS e s q (p::r)=false:=by
 simp only[iS];rw[if_neg Zbq,if_pos hf]
theorem GG{s p:BL}{q:Nat}:iS true s q [p]=(decide (q+p.length<=s.length)&&(s.drop (s.length-p.length)==p)):=by
 simp only[iS,List.isEmpty_nil,Bool.and_self,if_true]
structure r9 where
 C3:Bool
 path:BL
def dt(p s:BL):Bool:=bf p&&decide (s.length<=60)&&lE p s
def dr(s:BL)(x:Int×Bool)(r:r9):Int×Bool:=
 if dt r.path s=false\/(r.path.length:Int)<x.1 then x else (r.path.length,r.C3||(decide ((r.path.length:Int)=x.1)&&x.2))
def bU(rs:List r9)(s:BL):Bool:=(rs.foldl (dr s) (-1,true)).2
theorem mG{p:BL}(h:bf p=true):1<=p.length/\p.length<=16:=by
 unfold bf at h;simp only[Zbk]at h;exact⟨h.1,h.2.1⟩
theorem foldl_succ{α β:Type}{f:β->α->β}{b:β}{l:List α}{i:Nat}{d:α}(h:i<l.length):(l.take (i+1)).foldl f b=f ((l.take i).foldl f b) (l.getD i d):=by
 rw[aX h d,List.foldl_append];rfl
abbrev av(r:r9):V:=.agg [bV r.C3,sV r.path]
def gU(m n:Int)(c:UInt8):Int:=min (n*10+(c.toNat-48)) m
def ey(s:BL)(m:Int):Int:=if s.all (fun c=>decide (48<=c.toNat/\c.toNat<=57))=true then s.foldl (gU m) 0 else 0
structure l9 where
 na:List BL
 ru:List r9
 wa:Nat
abbrev bZ(g:l9):V:=.agg [.sl false (g.na.map sV),.sl false (g.ru.map av),iV g.wa]
def kz:List BL:=[[47],[47,97],[47,98],[47,97,47],[47,42,98],[47,97,36],[47,99],[47,42,63],[47,97,47,98],[47,42,47,98,36],[47,36],[47,98,42,99],[47,110,111,116,105,99,101],[47,42]]
def bc:List BL:=[[97,98],[99,100],[101],[102,111,120]]
def o8(s:BL):Prop:= ∀ c,c∈s->c.toNat<128
def GP(s:BL):Bool:=s.all fun c=>decide (c.toNat<128)
theorem bT{s:BL}(h:GP s=true):o8 s:=fun c hc=>by
 have:=Za2.1 h c hc;simpa using this
theorem bw:o8 []:=fun c hc=>by simp at hc
theorem o8.app{a b:BL}(h1:o8 a)(h2:o8 b):o8 (a++b):=fun c hc=>(Zax.1 hc).elim (h1 c) (h2 c)
theorem ec{l:List BL}{x:BL}(h:l.all GP=true)(hx:x∈l):o8 x:=bT (Za2.1 h x hx)
theorem eJ{l:List BL}(h:l.all GP=true)(i:Nat):o8 (l.getD i []):=by
 rw[Zam];cases e:l[i]? with
 | none=>exact bw
 | some x=>exact ec h (Za7 e)
structure G3 (g:l9):Prop where
 nl:g.na.length<=2
 nb:∀ x,x∈g.na->x.length<=5
 rl:g.ru.length<=4
 rb:∀ r,r∈g.ru->r.path∈kz
 w:g.wa<=6
 ac:∀ x,x∈g.na->o8 x
theorem bO{l:List BL}{n:Nat}(h:l.all (fun x=>Nat.ble x.length n)=true){x:BL}(hx:x∈l):x.length<=n:=Nat.le_of_ble_eq_true (Za2.1 h x hx)
theorem jw{α:Type}{P:α->Prop}{l:List α}{x:α}(h:∀ y,y∈l->P y)(hx:P x):∀ y,y∈l++[x]->P y:=fun y hy=>by
 rcases Zax.1 hy with q | q;exact h y q;rw[Zav.1 q];exact hx
abbrev zqR:r9:=⟨false,[]⟩
abbrev zqG:l9:=⟨[],[],0⟩
structure Pg where
 addr:BL
 text:BL
 lead:BL
 o9:Int
def r8:Pg:=⟨[],[],[],0⟩
def E0:List Pg->BL->Pg×Bool
 | [],_=>(r8,false)
 | p::r,a=>if p.addr=a then (p,true) else E0 r a
theorem DS{l:List BL}(h:l.length<=2)(hx:∀ x,x∈l->x.length<=6):(cJ l).length<=13:=by
 match l,h with
 | [],_=>simp[cJ]
 | [x],_=>have:=hx x Zad;simp[cJ];omega
 | [x,y],_=>have:=hx x Zad;have:=hx y Zad;simp[cJ];omega
theorem dn{l:List BL}{n:Nat}(h:l.all (fun x=>Nat.ble x.length n)=true)(i:Nat):(l.getD i []).length<=n:=by
 rw[Zam];cases e:l[i]? with
 | none=>simp
 | some x=>exact bO h (Za7 e)
theorem oq{a:w4}(h1:a.j9.length<=3)(h2:a.e9.length<=2)(h3:∀ x,x∈a.e9->x.length<=6)(h4:a.ask.length<=5):dg a/\(bz a).length<=25:=by
 refine⟨⟨Zac,Zac,Zac,fun i=>?_⟩,?_⟩;rw[Zam];cases e:a.e9[i]? with
 | none=>simp
 | some x=>have:=h3 x (Za7 e);simp;omega
 have:=DS h2 h3;unfold bz da bL;split;split <;> simp <;> omega;simp
def eV(n:Nat):BL:=if n<10 then [UInt8.ofNat (48+n)] else eV (n / 10)++[UInt8.ofNat (48+n % 10)]
 termination_by n
theorem AA(n:Nat)(h:n<=1000000):(eV n).length<=7:=by
 have:∀ k n,n<10 ^ (k+1)->(eV n).length<=k+1:=by
  intro k;induction k with
  | zero=>intro n hn;rw[eV,if_pos Zac];simp
  | succ k ih=>
    intro n hn;rw[eV];split;simp;have:=ih (n / 10) (by rw[Nat.pow_succ]at hn;omega);simp;omega
 exact this 6 n Zac
abbrev B8(p:Pg):V:=.agg [sV p.addr,sV p.text,sV p.lead,iV p.o9]
theorem sN{gs:List l9}(hg:∀ y,y∈gs->G3 y)(i:Nat):G3 (gs.getD i ⟨[],[],0⟩):=by
 rw[Zam];cases e:gs[i]? with
 | none=>exact⟨Zad,Zad,Zad,Zad,Zad,Zad⟩
 | some x=>exact hg x (Za7 e)
theorem gL{gs:List l9}(hg:∀ y,y∈gs->G3 y)(i k:Nat):((gs.getD i ⟨[],[],0⟩).na.getD k []).length<=5:=by
 rw[Zam (l:=l9.na _)];cases e:(gs.getD i ⟨[],[],0⟩).na[k]? with
 | none=>simp
 | some x=>exact(sN hg i).nb x (Za7 e)
theorem rO{gs:List l9}(hg:∀ y,y∈gs->G3 y)(i k:Nat):o8 ((gs.getD i ⟨[],[],0⟩).na.getD k []):=by
 rw[Zam (l:=l9.na _)];cases e:(gs.getD i ⟨[],[],0⟩).na[k]? with
 | none=>exact bw
 | some x=>exact(sN hg i).ac x (Za7 e)
theorem qY{gs:List l9}(hg:∀ y,y∈gs->G3 y)(i k:Nat):o8 ((gs.getD i ⟨[],[],0⟩).ru.getD k ⟨false,[]⟩).path:=by
 rw[Zam (l:=l9.ru _)];cases e:(gs.getD i ⟨[],[],0⟩).ru[k]? with
 | none=>exact bw
 | some x=>exact ec rfl ((sN hg i).rb x (Za7 e))
theorem gG{gs:List l9}(hg:∀ y,y∈gs->G3 y)(i k:Nat):((gs.getD i ⟨[],[],0⟩).ru.getD k ⟨false,[]⟩).path.length<=7:=by
 rw[Zam (l:=l9.ru _)];cases e:(gs.getD i ⟨[],[],0⟩).ru[k]? with
 | none=>simp
 | some x=>exact bO rfl ((sN hg i).rb x (Za7 e))
theorem rm:∀ {l:List BL},(∀ x,x∈l->o8 x)->o8 (cJ l)
 | [],_=>bw
 | [p],h=>h p Zad
 | p::q::r,h=>((h p Zad).app (bT rfl)).app (rm fun x hx=>h x (by simp[hx]))
theorem BV{a:w4}(h1:o8 a.j9)(h2:∀ x,x∈a.e9->o8 x)(h3:o8 a.ask):o8 (bz a):=by
 unfold bz da bL;split;refine((bT rfl).app h1).app (((bT rfl).app (rm h2)).app ?_);split;exact(bT rfl).app h3;exact bw;exact bw
theorem nF(n:Nat):o8 (eV n):=by
 induction n using Nat.strongRecOn with
 | ind n ih=>
   rw[eV];split;intro c hc;rw[Zav.1 hc,UInt8.toNat_ofNat'];omega;refine(ih (n / 10) Zac).app ?_;intro c hc;rw[Zav.1 hc,UInt8.toNat_ofNat'];omega
structure r6 (y:Pg):Prop where
 a:y.addr.length<=30
 t:y.text.length<=300
 l:y.lead.length<=30
 f:0<=y.o9/\y.o9<=10
 aa:o8 y.addr
 la:o8 y.lead
 ta:o8 y.text
theorem Jw{w:List Pg}{a:BL}(h:(E0 w a).2=true):1<=w.length:=by
 cases w with
 | nil=>simp[E0]at h
 | cons p r=>simp
theorem qk{l:List Int}(h:l.all (fun x=>decide (0<=x/\x<=10))=true)(i:Nat):0<=l.getD i 0/\l.getD i 0<=10:=by
 rw[Zam];cases e:l[i]? with
 | none=>simp
 | some x=>simpa using Za2.1 h x (Za7 e)
theorem nH{w:List Pg}(h:∀ y,y∈w->r6 y)(i:Nat):r6 (w.getD i r8):=by
 rw[Zam];cases e:w[i]? with
 | none=>exact⟨by simp[r8],by simp[r8],by simp[r8],by simp[r8],bw,bw,bw⟩
 | some x=>exact h x (Za7 e)
theorem aU{xs:List V}{j sz g0 o0 g o c:Nat}{v:V}{p:List Nat}{r:Nat×Nat×V}(h:xs[j]? =some v)(e:V.at g (o+j*sz) v p=some r):V.at g0 o0 (.own sz xs g o c) (j::p)=some r:=by simp only[V.at,h];exact e
theorem bC{xs ys:List V}{j sz g o c:Nat}{x v:V}{p:List Nat}(h:xs[j]? =some x)(e:xs.set j (V.set x p v)=ys):V.set (.own sz xs g o c) (j::p) v=.own sz ys g o c:=by simp only[V.set,h,e]
def eX(y:Pg):Bool:=az y.addr&&decide (y.text.length<=300)&&A6 y.o9 0 9&&(y.lead==[]||(y.text==[]&&az y.lead))
def aF(w:List Pg):Bool:=decide (∀ i,i<w.length->eX (w.getD i r8)=true/\∀ k,k<i->(w.getD k r8).addr≠(w.getD i r8).addr)&&decide (w.length<=12)
def aL(h:BL):BL:=[47,47]++h++[47,110,111,116,105,99,101]
def ai(w:List Pg)(a:BL)(n:Int):Int×BL:=
 if (E0 w a).2=false then (0,[]) else if n<(E0 w a).1.o9 then (3,[]) else if (E0 w a).1.lead=[] then (1,(E0 w a).1.text) else (2,(E0 w a).1.lead)
theorem Ls{y:Pg}(h:((az y.addr=true/\(y.text.length:Int)<=300)/\A6 y.o9 0 9=true)/\(¬ y.lead=[]->y.text=[]/\az y.lead=true)):eX y=true:=by
 unfold eX;obtain⟨⟨⟨h1,h2⟩,h3⟩,h4⟩:=h;rw[h1,h3,decide_eq_true Zac];by_cases hl:y.lead=[];simp[hl];obtain⟨h5,h6⟩:=h4 hl;simp[h5,h6]
theorem Lf{y:Pg}(h:((az y.addr=false\/300<(y.text.length:Int))\/A6 y.o9 0 9=false)\/¬ y.lead=[]/\(¬ y.text=[]\/az y.lead=false)):eX y=false:=by
 unfold eX;rcases h with ((h | h) | h) | ⟨h,h' | h'⟩;simp[h];rw[decide_eq_false Zac];simp;simp[h];simp[h,h'];simp[h,h']
theorem yd{w:List Pg}{i:Nat}(hi:i<w.length)(h: ¬ (eX (w.getD i r8)=true/\∀ k,k<i->(w.getD k r8).addr≠(w.getD i r8).addr)):aF w=false:=by
 unfold aF;rw[decide_eq_false (fun c=>h (c i hi))];rfl
theorem DE{w:List Pg}(h:∀ i,i<w.length->eX (w.getD i r8)=true/\∀ k,k<i->(w.getD k r8).addr≠(w.getD i r8).addr):aF w=decide (w.length<=12):=by
 unfold aF;rw[decide_eq_true h];rfl
def ee(gs:List l9)(f:l9->l9):List l9:=match gs.getLast? with
 | none=>gs
 | some z=>gs.dropLast++[f z]
def iC(gs:List l9):Nat:=match gs.getLast? with
 | none=>0
 | some z=>z.ru.length
def dF(gs:List l9)(w r:BL)(b:Bool):List l9×Bool:=
 if w=[99,97,108,108,101,114]/\(r=[42]\/cB r=true) then
  if b=true\/gs=[] then (gs++[⟨[r],[],0⟩],false) else (ee gs fun z=>⟨z.na++[r],z.ru,z.wa⟩,false)
 else if gs=[] then (gs,b)
 else if (w=[108,101,116]\/w=[98,97,114])/\bf r=true/\iC gs<6 then (ee gs fun z=>⟨z.na,z.ru++[⟨w==[108,101,116],r⟩],z.wa⟩,true)
 else if w=[119,97,105,116] then (ee gs fun z=>⟨z.na,z.ru,(ey r 20).toNat⟩,true)
 else (gs,b)
theorem eI(l:List l9)(z:l9)(f:l9->l9):ee (l++[z]) f=l++[f z]:=by simp[ee]
theorem ic(l:List l9)(z:l9):iC (l++[z])=z.ru.length:=by simp[iC]
theorem ka{α:Type}{l:List α}(h:l≠[]):∃ x:List α×α,l=x.1++[x.2]:=⟨(l.dropLast,l.getLast h),(List.dropLast_concat_getLast h).symm⟩
theorem AZ{m:Int}(hm:0<=m){n:Int}(hn:0<=n){c:UInt8}(hc:48<=c.toNat):0<=gU m n c:=by
 unfold gU;omega
theorem BP{s:BL}{m:Int}(hm:0<=m):0<=ey s m:=by
 unfold ey;split;rename_i h;rw[Za2]at h;have:∀ (l:BL) (n:Int),0<=n->(∀ c,c∈l->48<=c.toNat)->0<=l.foldl (gU m) n:=by
  intro l;induction l with
  | nil=>intro n hn _;exact hn
  | cons c l ih=>intro n hn hl;exact ih _ (AZ hm hn (hl c Zad)) fun d hd=>hl d (by simp[hd])
 exact this s 0 Zac fun c hc=>by have:=h c hc;simp at this;exact this.1
 exact Int.le_refl 0
abbrev aA(g:l9):V:=.agg [.ow 1 (g.na.map sV),.ow 2 (g.ru.map av),iV g.wa]
theorem ay{α:Type}{f:α->V}{l:List α}{v:V}:(l.map f++[v])[l.length]? =some v:=Zad
theorem bJ{α:Type}{f:α->V}{l:List α}{v u:V}:(l.map f++[v]).set l.length u=l.map f++[u]:=Zad
theorem Js(g:l9):(aA g).er=bZ g:=by
 simp only[aA,V.er,V.E6,aW (f:=sV) (fun _=>rfl),aW (f:=av) (fun _=>rfl)]
theorem tE:∀ (l:List l9),V.E6 (l.map aA)=l.map bZ
 | []=>rfl
 | g::l=>by simp only[Zbe,V.E6,tE l];rw[Js]
def eD(x:List l9×Bool)(l:BL):List l9×Bool:=dF x.1 (ab 32 l).1 (ab 32 l).2.1 x.2
def bK(t:BL):List l9:=(((af 10 t).take 40).foldl eD ([],false)).1
structure L' (n:Nat) (gs:List l9):Prop where
 len:gs.length<=n
 each:∀ y,y∈gs->y.na.length<=n/\y.ru.length<=6
theorem L'.mono{n m:Nat}{gs:List l9}(h:L' n gs)(hm:n<=m):L' m gs:=⟨Nat.le_trans h.len hm,fun y hy=>⟨Nat.le_trans (h.each y hy).1 hm,(h.each y hy).2⟩⟩
theorem L'.set{n:Nat}{gs:List l9}{f:l9->l9}(h:L' n gs)(hf:∀ z,gs.getLast? =some z->(f z).na.length<=n+1/\(f z).ru.length<=6):L' (n+1) (ee gs f):=by
 unfold ee;split;exact h.mono Zac;rename_i z hz;refine⟨?_,fun y hy=>?_⟩;have:=h.len;have hne:gs≠[]:=by rintro rfl;simp at hz
 have:=List.length_pos_iff.2 hne;simp;omega;rcases Zax.1 hy with hy | hy;have:=h.each y (List.dropLast_subset _ hy);exact⟨Zac,this.2⟩;rw[Zav.1 hy];exact hf z hz
theorem BC{n:Nat}{gs:List l9}{w d:BL}{b:Bool}(h:L' n gs):L' (n+1) (dF gs w d b).1:=by
 have hl:∀ z,gs.getLast? =some z->z.na.length<=n/\z.ru.length<=6:=fun z hz=>h.each z (List.mem_of_getLast? hz);unfold dF;split;split;refine⟨by have:=h.len;simp;omega,fun y hy=>?_⟩;rcases Zax.1 hy with hy | hy;have:=h.each y hy;exact⟨Zac,this.2⟩;rw[Zav.1 hy];simp;exact h.set fun z hz=>⟨by have:=hl z hz;simp;omega,(hl z hz).2⟩;split;exact h.mono Zac;split;rename_i hc;refine h.set fun z hz=>⟨Zb5,?_⟩;have:=hc.2.2;unfold iC at this;rw[hz]at this;simp only at this;simp only[Zap,Zar,Zau];omega;split;exact h.set fun z hz=>⟨Zb5,(hl z hz).2⟩;exact h.mono Zac
theorem ue(c:UInt8):∀ (s:BL),(ab c s).1.length<=s.length/\(ab c s).2.1.length<=s.length
 | []=>by simp[ab]
 | x::s=>by
   have:=ue c s;unfold ab;split <;> simp <;> omega
theorem AI{α:Type}{l:List α}{i:Nat}(h1:i<=l.length)(h2:i<=40)(h:(i:Int)<l.length->(40:Int)<=i):l.take 40=l.take i:=by
 rcases Nat.lt_or_ge i l.length with hl | hl;have:=h Zac;rw[show i=40 from Zac];rw[Zaz Zac,Zaz Zac]
def dD(n:BL)(x:(List r9×Nat)×Bool)(g:l9):(List r9×Nat)×Bool:=if g.na.any (fun y=>y==n)=true then ((x.1.1++g.ru,max x.1.2 g.wa),true) else x
def QQ(gs:List l9)(n:BL):l9×Bool:=(⟨[n],(gs.foldl (dD n) (([],0),false)).1.1,(gs.foldl (dD n) (([],0),false)).1.2⟩,(gs.foldl (dD n) (([],0),false)).2)
theorem any_succ{α:Type}{f:α->Bool}{l:List α}{i:Nat}{d:α}(h:i<l.length):(l.take (i+1)).any f=((l.take i).any f||f (l.getD i d)):=by
 rw[aX h d,List.any_append];simp
def eC(gs:List l9)(n:BL):l9:=if (QQ gs n).2=true then (QQ gs n).1 else (QQ gs [42]).1
theorem ya:∀ (l:List BL) {k:Nat} {x:List l9×Bool},L' k x.1->L' (k+l.length) (l.foldl eD x).1
 | [],k,x,h=>h
 | a::l,k,x,h=>by
   have:=ya l (k:=k+1) (x:=eD x a) (BC h);exact this.mono Zal
theorem jk(t:BL):L' 40 (bK t):=by
 have:=ya ((af 10 t).take 40) (k:=0) (x:=([],false)) ⟨Zad,Zad⟩;exact this.mono Zal
theorem L'.ru{n:Nat}{gs:List l9}(h:L' n gs)(i:Nat):(gs.getD i ⟨[],[],0⟩).ru.length<=100/\(gs.getD i ⟨[],[],0⟩).na.length<=n:=by
 rw[Zam];cases e:gs[i]? with
 | none=>simp
 | some x=>have:=h.each x (Za7 e);exact⟨by simp only[Option.getD_some];omega,this.1⟩
def cM(k:Int)(t n:BL):l9:=if k=1 then eC (bK t) n else if k=3 then ⟨[n],[⟨false,[47]⟩],0⟩ else eC [] n
theorem sH:∀ (w:List Pg) (a:BL),(E0 w a).2=true->∃ i,(E0 w a).1=w.getD i r8
 | [],a,h=>by simp[E0]at h
 | p::r,a,h=>by
   unfold E0 at h ⊢;split;exact⟨0,rfl⟩;rename_i hp;rw[if_neg hp]at h;obtain⟨i,hi⟩:=sH r a h;exact⟨i+1,by rw[hi];simp⟩
theorem ug{w:List Pg}{a:BL}{k:Int}{m:Nat}(h:∀ i,(w.getD i r8).text.length<=m/\(w.getD i r8).lead.length<=m):(ai w a k).2.length<=m:=by
 unfold ai;split;simp;rename_i h1;have h1:(E0 w a).2=true:=Zbz
 obtain⟨i,hi⟩:=sH w a h1;have:=h i;rw[hi];split;simp;split <;> simp only <;> omega
def oy(gs:List l9):Prop:= ∀ y,y∈gs->∀ r,r∈y.ru->r.path.length<=16
theorem oy.set{gs:List l9}{f:l9->l9}(h:oy gs)(hf:∀ z,gs.getLast? =some z->∀ r,r∈(f z).ru->r.path.length<=16):oy (ee gs f):=by
 unfold ee;split;exact h;rename_i z hz;intro y hy;rcases Zax.1 hy with hy | hy;exact h y (List.dropLast_subset _ hy);rw[Zav.1 hy];exact hf z hz
theorem Kw{gs:List l9}{w d:BL}{b:Bool}(h:oy gs):oy (dF gs w d b).1:=by
 have hl:∀ z,gs.getLast? =some z->∀ r,r∈z.ru->r.path.length<=16:=fun z hz=>h z (List.mem_of_getLast? hz);unfold dF;split;split;intro y hy;rcases Zax.1 hy with hy | hy;exact h y hy;rw[Zav.1 hy];simp;exact h.set fun z hz=>hl z hz;split;exact h;split;rename_i hc;refine h.set fun z hz r hr=>?_;rcases Zax.1 hr with hr | hr;exact hl z hz r hr;rw[Zav.1 hr];exact(mG hc.2.1).2;split;exact h.set fun z hz=>hl z hz;exact h
theorem EI(t:BL):oy (bK t):=by
 have:∀ (l:List BL) (x:List l9×Bool),oy x.1->oy (l.foldl eD x).1:=by
  intro l;induction l with
  | nil=>exact fun x h=>h
  | cons a l ih=>exact fun x h=>ih _ (Kw h)
 exact this _ _ (by intro y hy;simp at hy)
structure Xt (m:Nat) (x:(List r9×Nat)×Bool):Prop where
 l:x.1.1.length<=6*m
 r:∀ r,r∈x.1.1->r.path.length<=16
theorem IA(n:BL):∀ (gs:List l9) {m k:Nat} {x:(List r9×Nat)×Bool},Xt m x->L' k gs->oy gs->Xt (m+gs.length) (gs.foldl (dD n) x)
 | [],m,k,x,h,_,_=>h
 | g::gs,m,k,x,h,h1,h2=>by
   have hs:Xt (m+1) (dD n x g):=by
    unfold dD;split;refine⟨?_,fun r hr=>?_⟩;have:=h.l;have:=(h1.each g Zad).2;simp only[Zap];omega;rcases Zax.1 hr with hr | hr;exact h.r r hr;exact h2 g Zad r hr;exact⟨by have:=h.l;omega,h.r⟩
   have:=IA n gs (k:=k) hs ⟨by have:=h1.len;simp at this;omega,fun y hy=>h1.each y (by simp[hy])⟩ (fun y hy=>h2 y (by simp[hy]));rw[List.foldl_cons,Zar,show m+(gs.length+1)=m+1+gs.length from Zac];exact this
theorem Ck{gs:List l9}(n:BL)(h1:L' 40 gs)(h2:oy gs):(eC gs n).ru.length<=240/\∀ r,r∈(eC gs n).ru->r.path.length<=16:=by
 have key:∀ q,(QQ gs q).1.ru.length<=240/\∀ r,r∈(QQ gs q).1.ru->r.path.length<=16:=fun q=>by
  have:=IA q gs (m:=0) (x:=(([],0),false)) ⟨Zad,Zad⟩ h1 h2;exact⟨by have h3:=this.l;have:=h1.len;unfold QQ;simp only;omega,this.r⟩
 unfold eC;split;exact key n;exact key [42]
theorem oX(k:Int)(t n:BL):(cM k t n).ru.length<=240/\∀ r,r∈(cM k t n).ru->r.path.length<=16:=by
 unfold cM;split;exact Ck n (jk t) (EI t);split;exact⟨Zad,Zad⟩;exact Ck n ⟨Zad,Zad⟩ (fun y hy=>by simp at hy)
def fp(s p:BL):Bool:=decide (p.length<=s.length)&&(s.take p.length==p)
def gZ(s p:BL):Bool:=decide (p.length<=s.length)&&(s.drop (s.length-p.length)==p)
def cL(s p:BL):BL:=if gZ s p=true then s.take (s.length-p.length) else s
theorem vW{s p:BL}(h:gZ s p=true):p.length<=s.length:=by unfold gZ at h;simp at h;exact h.1
theorem Mm{s p:BL}(h:fp s p=true):p.length<=s.length:=by unfold fp at h;simp at h;exact h.1
def dQ(p:BL):Bool:=decide (1<=p.length/\p.length<=16/\(p.getD 0 0).toNat=47)&&(cL p [36]).all jV
end Go.Proofs.YtjkdagkclihpjaaGreatDoor
namespace Go.Proofs
open Go.Shelf
def Tryz.tz:Go.Shelf.Ren:=⟨fun | 156=>158 | 165=>190 | 166=>191 | 169=>192 | 240=>212 | 241=>213 | 276=>224 | 277=>225 | n=>n,fun | 31=>25 | 9=>9 | 3=>3 | 4=>4 | 0=>0 | 20=>20 | 72=>219 | 76=>220 | 70=>217 | 37=>22 | 75=>104 | 127=>241 | 164=>254 | 5=>5 | 80=>222 | n=>n,fun | n=>n⟩
theorem Tryz.BQ:Go.Proofs.Lays.n156 Tryz.prog Tryz.tz:={
 mixed:=Zae
 f156:=Tryz.func158.trans (Zbm some Zae)
 f165:=Tryz.func190.trans (Zbm some Zae)
 f166:=Tryz.func191.trans (Zbm some Zae)
 f169:=Tryz.func192.trans (Zbm some Zae)
 f240:=Tryz.func212.trans (Zbm some Zae)
 f241:=Tryz.func213.trans (Zbm some Zae)
 f276:=Tryz.func224.trans (Zbm some Zae)
 f277:=Tryz.func225.trans (Zbm some Zae)
 t0:=Tryz.underlying0
 a0:=Tryz.isAgg0
 z0:=Tryz.sizeOf0
 v0:=Tryz.zeroValue0
 t3:=Tryz.underlying3
 a3:=Tryz.isAgg3
 z3:=Tryz.sizeOf3
 v3:=Tryz.zeroValue3
 t4:=Tryz.underlying4
 a4:=Tryz.isAgg4
 z4:=Tryz.sizeOf4
 v4:=Tryz.zeroValue4
 t9:=Tryz.underlying9
 a9:=Tryz.isAgg9
 z9:=Tryz.sizeOf9
 v9:=Tryz.zeroValue9
 t20:=Tryz.underlying20
 a20:=Tryz.isAgg20
 z20:=Tryz.sizeOf20
 v20:=Tryz.zeroValue20
 t31:=Tryz.underlying25
 a31:=Tryz.isAgg25
 z31:=Tryz.sizeOf25
 v31:=Tryz.zeroValue25
 t37:=Tryz.underlying22
 a37:=Tryz.isAgg22
 z37:=Tryz.sizeOf22
 v37:=Tryz.zeroValue22
 t70:=Tryz.underlying217
 a70:=Tryz.isAgg217
 z70:=Tryz.sizeOf217
 v70:=Tryz.zeroValue217
 t72:=Tryz.underlying219
 a72:=Tryz.isAgg219
 z72:=Tryz.sizeOf219
 v72:=Tryz.zeroValue219
 t75:=Tryz.underlying104
 a75:=Tryz.isAgg104
 z75:=Tryz.sizeOf104
 v75:=Tryz.zeroValue104
 t76:=Tryz.underlying220
 a76:=Tryz.isAgg220
 z76:=Tryz.sizeOf220
 v76:=Tryz.zeroValue220
 t127:=Tryz.underlying241
 a127:=Tryz.isAgg241
 z127:=Tryz.sizeOf241
 v127:=Tryz.zeroValue241
 t164:=Tryz.underlying254
 a164:=Tryz.isAgg254
 z164:=Tryz.sizeOf254
 v164:=Tryz.zeroValue254 }
theorem Tryz.mh:Builder.Extra Tryz.prog Tryz.tz:={
 sizeBuilder:=Zae
 liesBuilder:=Zae
 t5:=Tryz.underlying5
 a5:=Tryz.isAgg5
 z5:=Tryz.sizeOf5
 v5:=Tryz.zeroValue5
 infoByte:=Zae
 cellsByte:=Zae
 sizeByte:=Zae
 neB5:=by decide }
open Go.RowKit in
theorem Tryz.strings_Join_none(a:Option Addr)(c:Nat)(sep:ByteArray)(w:World):
 Calls Tryz.prog 158 #[.slice a 0 c,.string sep] w fun e w'=>e=.returned (.string ⟨#[]⟩)/\w'=w:=Any.strings_Join_none Tryz.BQ Tryz.mh a c sep w
open Go.RowKit in
theorem Tryz.strings_Join(bk o c:Nat)(xs:List ByteArray)(sep:ByteArray)(w:World)(hcells:∀ (j:Nat) x,xs[j]? =some x->w.cell? ⟨bk,o+j,none⟩=some (.string x))(hbk:bk<w.heap.size)(hN:xs.length<=140737488355328)(hcap:xs.length<=c)(hlen:(Lib.join (xs.map (·.data.toList)) sep.data.toList).length<=140737488355328):
 Calls Tryz.prog 158 #[.slice (some ⟨bk,o,none⟩) xs.length c,.string sep] w fun e w'=>e=.returned (.string ⟨(Lib.join (xs.map (·.data.toList)) sep.data.toList).toArray⟩)/\Below w.heap.size w w':=Any.strings_Join Tryz.BQ Tryz.mh bk o c xs sep w hcells hbk hN hcap hlen
def Tryz.Bg:Go.Shelf.Ren:=⟨fun | 219=>106 | 217=>149 | 225=>150 | 224=>151 | 267=>152 | 266=>184 | 314=>185 | n=>n,fun | 9=>9 | 3=>3 | 4=>4 | 5=>5 | 46=>192 | 146=>213 | 51=>212 | n=>n,fun | 1=>1 | n=>n⟩
theorem Tryz.KB:Go.Proofs.Lays.n219 Tryz.prog Tryz.Bg:={
 mixed:=Zae
 f217:=Tryz.func149.trans (Zbm some Zae)
 f219:=Tryz.func106.trans (Zbm some Zae)
 f224:=Tryz.func151.trans (Zbm some Zae)
 f225:=Tryz.func150.trans (Zbm some Zae)
 f266:=Tryz.func184.trans (Zbm some Zae)
 f267:=Tryz.func152.trans (Zbm some Zae)
 f314:=Tryz.func185.trans (Zbm some Zae)
 t3:=Tryz.underlying3
 a3:=Tryz.isAgg3
 z3:=Tryz.sizeOf3
 v3:=Tryz.zeroValue3
 t4:=Tryz.underlying4
 a4:=Tryz.isAgg4
 z4:=Tryz.sizeOf4
 v4:=Tryz.zeroValue4
 t5:=Tryz.underlying5
 a5:=Tryz.isAgg5
 z5:=Tryz.sizeOf5
 v5:=Tryz.zeroValue5
 t9:=Tryz.underlying9
 a9:=Tryz.isAgg9
 z9:=Tryz.sizeOf9
 v9:=Tryz.zeroValue9
 t46:=Tryz.underlying192
 a46:=Tryz.isAgg192
 z46:=Tryz.sizeOf192
 v46:=Tryz.zeroValue192
 t51:=Tryz.underlying212
 a51:=Tryz.isAgg212
 z51:=Tryz.sizeOf212
 v51:=Tryz.zeroValue212
 t146:=Tryz.underlying213
 a146:=Tryz.isAgg213
 z146:=Tryz.sizeOf213
 v146:=Tryz.zeroValue213
 g1:=by kernel_rfl }
open Go.RowKit Go.Lib in
theorem Tryz.stringslite_Index_one(s:ByteArray)(c:UInt8)(w:World):
 Calls Tryz.prog 106 #[.string s,.string ⟨#[c]⟩] w fun e w'=>e=.returned (.int .i64 (Lib.indexByte s.data.toList c))/\w'=w:=Any.stringslite_Index_one Tryz.KB s c w
def Tryz.Bi:Go.Shelf.Ren:=⟨fun | 143=>189 | 219=>106 | 217=>149 | 225=>150 | 224=>151 | 267=>152 | 266=>184 | 314=>185 | n=>n,fun | 9=>9 | 3=>3 | 4=>4 | 5=>5 | 46=>192 | 146=>213 | 51=>212 | n=>n,fun | 1=>1 | n=>n⟩
theorem Tryz.Kr:Go.Proofs.Lays.n143 Tryz.prog Tryz.Bi:={
 mixed:=Zae
 f143:=Tryz.func189.trans (Zbm some Zae)
 f217:=Tryz.func149.trans (Zbm some Zae)
 f219:=Tryz.func106.trans (Zbm some Zae)
 f224:=Tryz.func151.trans (Zbm some Zae)
 f225:=Tryz.func150.trans (Zbm some Zae)
 f266:=Tryz.func184.trans (Zbm some Zae)
 f267:=Tryz.func152.trans (Zbm some Zae)
 f314:=Tryz.func185.trans (Zbm some Zae)
 t3:=Tryz.underlying3
 a3:=Tryz.isAgg3
 z3:=Tryz.sizeOf3
 v3:=Tryz.zeroValue3
 t4:=Tryz.underlying4
 a4:=Tryz.isAgg4
 z4:=Tryz.sizeOf4
 v4:=Tryz.zeroValue4
 t5:=Tryz.underlying5
 a5:=Tryz.isAgg5
 z5:=Tryz.sizeOf5
 v5:=Tryz.zeroValue5
 t9:=Tryz.underlying9
 a9:=Tryz.isAgg9
 z9:=Tryz.sizeOf9
 v9:=Tryz.zeroValue9
 t46:=Tryz.underlying192
 a46:=Tryz.isAgg192
 z46:=Tryz.sizeOf192
 v46:=Tryz.zeroValue192
 t51:=Tryz.underlying212
 a51:=Tryz.isAgg212
 z51:=Tryz.sizeOf212
 v51:=Tryz.zeroValue212
 t146:=Tryz.underlying213
 a146:=Tryz.isAgg213
 z146:=Tryz.sizeOf213
 v146:=Tryz.zeroValue213
 g1:=by kernel_rfl }
open Go.RowKit Go.Lib in
theorem Tryz.strings_Index_one(s:ByteArray)(c:UInt8)(w:World):
 Calls Tryz.prog 189 #[.string s,.string ⟨#[c]⟩] w fun e w'=>e=.returned (.int .i64 (Lib.indexByte s.data.toList c))/\w'=w:=Any.strings_Index_one Tryz.Kr s c w
def Tryz.Bc:Go.Shelf.Ren:=⟨fun | 138=>188 | 195=>209 | 218=>211 | 143=>189 | 219=>106 | 217=>149 | 225=>150 | 224=>151 | 267=>152 | 266=>184 | 314=>185 | n=>n,fun | 9=>9 | 3=>3 | 4=>4 | 5=>5 | 0=>0 | 46=>192 | 146=>213 | 51=>212 | n=>n,fun | 1=>1 | n=>n⟩
theorem Tryz.JY:Go.Proofs.Lays.n138 Tryz.prog Tryz.Bc:={
 mixed:=Zae
 f138:=Tryz.func188.trans (Zbm some Zae)
 f143:=Tryz.func189.trans (Zbm some Zae)
 f195:=Tryz.func209.trans (Zbm some Zae)
 f217:=Tryz.func149.trans (Zbm some Zae)
 f218:=Tryz.func211.trans (Zbm some Zae)
 f219:=Tryz.func106.trans (Zbm some Zae)
 f224:=Tryz.func151.trans (Zbm some Zae)
 f225:=Tryz.func150.trans (Zbm some Zae)
 f266:=Tryz.func184.trans (Zbm some Zae)
 f267:=Tryz.func152.trans (Zbm some Zae)
 f314:=Tryz.func185.trans (Zbm some Zae)
 t0:=Tryz.underlying0
 a0:=Tryz.isAgg0
 z0:=Tryz.sizeOf0
 v0:=Tryz.zeroValue0
 t3:=Tryz.underlying3
 a3:=Tryz.isAgg3
 z3:=Tryz.sizeOf3
 v3:=Tryz.zeroValue3
 t4:=Tryz.underlying4
 a4:=Tryz.isAgg4
 z4:=Tryz.sizeOf4
 v4:=Tryz.zeroValue4
 t5:=Tryz.underlying5
 a5:=Tryz.isAgg5
 z5:=Tryz.sizeOf5
 v5:=Tryz.zeroValue5
 t9:=Tryz.underlying9
 a9:=Tryz.isAgg9
 z9:=Tryz.sizeOf9
 v9:=Tryz.zeroValue9
 t46:=Tryz.underlying192
 a46:=Tryz.isAgg192
 z46:=Tryz.sizeOf192
 v46:=Tryz.zeroValue192
 t51:=Tryz.underlying212
 a51:=Tryz.isAgg212
 z51:=Tryz.sizeOf212
 v51:=Tryz.zeroValue212
 t146:=Tryz.underlying213
 a146:=Tryz.isAgg213
 z146:=Tryz.sizeOf213
 v146:=Tryz.zeroValue213
 g1:=by kernel_rfl }
open Go.RowKit Go.Lib in
theorem Tryz.strings_Count_one(s:ByteArray)(c:UInt8)(w:World):
 Calls Tryz.prog 188 #[.string s,.string ⟨#[c]⟩] w fun e w'=>e=.returned (.int .i64 (Lib.countByte s.data.toList c))/\w'=w:=Any.strings_Count_one Tryz.JY s c w
def Tryz.fL:Go.Shelf.Ren:=⟨fun | 221=>157 | 268=>187 | 138=>188 | 143=>189 | 195=>209 | 197=>210 | 218=>211 | 219=>106 | 260=>223 | 217=>149 | 225=>150 | 224=>151 | 267=>152 | 266=>184 | 314=>185 | n=>n,fun | 9=>9 | 3=>3 | 31=>25 | 4=>4 | 0=>0 | 105=>239 | 21=>21 | 5=>5 | 46=>192 | 119=>258 | 139=>261 | 138=>260 | 146=>213 | 51=>212 | n=>n,fun | 1=>1 | 3=>2 | 4=>3 | n=>n⟩
theorem Tryz.Jq:Go.Proofs.Lays.n221 Tryz.prog Tryz.fL:={
 mixed:=Zae
 f138:=Tryz.func188.trans (Zbm some Zae)
 f143:=Tryz.func189.trans (Zbm some Zae)
 f195:=Tryz.func209.trans (Zbm some Zae)
 f197:=Tryz.func210.trans (Zbm some Zae)
 f217:=Tryz.func149.trans (Zbm some Zae)
 f218:=Tryz.func211.trans (Zbm some Zae)
 f219:=Tryz.func106.trans (Zbm some Zae)
 f221:=Tryz.func157.trans (Zbm some Zae)
 f224:=Tryz.func151.trans (Zbm some Zae)
 f225:=Tryz.func150.trans (Zbm some Zae)
 f260:=Tryz.func223.trans (Zbm some Zae)
 f266:=Tryz.func184.trans (Zbm some Zae)
 f267:=Tryz.func152.trans (Zbm some Zae)
 f268:=Tryz.func187.trans (Zbm some Zae)
 f314:=Tryz.func185.trans (Zbm some Zae)
 t0:=Tryz.underlying0
 a0:=Tryz.isAgg0
 z0:=Tryz.sizeOf0
 v0:=Tryz.zeroValue0
 t3:=Tryz.underlying3
 a3:=Tryz.isAgg3
 z3:=Tryz.sizeOf3
 v3:=Tryz.zeroValue3
 t4:=Tryz.underlying4
 a4:=Tryz.isAgg4
 z4:=Tryz.sizeOf4
 v4:=Tryz.zeroValue4
 t5:=Tryz.underlying5
 a5:=Tryz.isAgg5
 z5:=Tryz.sizeOf5
 v5:=Tryz.zeroValue5
 t9:=Tryz.underlying9
 a9:=Tryz.isAgg9
 z9:=Tryz.sizeOf9
 v9:=Tryz.zeroValue9
 t21:=Tryz.underlying21
 a21:=Tryz.isAgg21
 z21:=Tryz.sizeOf21
 v21:=Tryz.zeroValue21
 t31:=Tryz.underlying25
 a31:=Tryz.isAgg25
 z31:=Tryz.sizeOf25
 v31:=Tryz.zeroValue25
 t46:=Tryz.underlying192
 a46:=Tryz.isAgg192
 z46:=Tryz.sizeOf192
 v46:=Tryz.zeroValue192
 t51:=Tryz.underlying212
 a51:=Tryz.isAgg212
 z51:=Tryz.sizeOf212
 v51:=Tryz.zeroValue212
 t105:=Tryz.underlying239
 a105:=Tryz.isAgg239
 z105:=Tryz.sizeOf239
 v105:=Tryz.zeroValue239
 t119:=Tryz.underlying258
 a119:=Tryz.isAgg258
 z119:=Tryz.sizeOf258
 t138:=Tryz.underlying260
 a138:=Tryz.isAgg260
 z138:=Tryz.sizeOf260
 v138:=Tryz.zeroValue260
 t139:=Tryz.underlying261
 a139:=Tryz.isAgg261
 z139:=Tryz.sizeOf261
 v139:=Tryz.zeroValue261
 t146:=Tryz.underlying213
 a146:=Tryz.isAgg213
 z146:=Tryz.sizeOf213
 v146:=Tryz.zeroValue213
 g1:=Zae
 g3:=Zae
 g4:=by kernel_rfl }
def Tryz.AY:Go.Shelf.Ren:=⟨fun | 153=>65 | 152=>108 | 226=>109 | 227=>110 | 228=>111 | 137=>153 | 119=>154 | 224=>151 | 225=>150 | 217=>149 | 266=>184 | n=>n,fun | 9=>9 | 3=>3 | 4=>4 | 5=>5 | 21=>21 | 117=>156 | 116=>155 | 0=>0 | 46=>192 | 124=>194 | n=>n,fun | n=>n⟩
theorem Tryz.JL:Go.Proofs.Lays.n153 Tryz.prog Tryz.AY:={
 mixed:=Zae
 f119:=Tryz.func154.trans (Zbm some Zae)
 f137:=Tryz.func153.trans (Zbm some Zae)
 f152:=Tryz.func108.trans (Zbm some Zae)
 f153:=Tryz.func65.trans (Zbm some Zae)
 f217:=Tryz.func149.trans (Zbm some Zae)
 f224:=Tryz.func151.trans (Zbm some Zae)
 f225:=Tryz.func150.trans (Zbm some Zae)
 f226:=Tryz.func109.trans (Zbm some Zae)
 f227:=Tryz.func110.trans (Zbm some Zae)
 f228:=Tryz.func111.trans (Zbm some Zae)
 f266:=Tryz.func184.trans (Zbm some Zae)
 t0:=Tryz.underlying0
 a0:=Tryz.isAgg0
 z0:=Tryz.sizeOf0
 v0:=Tryz.zeroValue0
 t3:=Tryz.underlying3
 a3:=Tryz.isAgg3
 z3:=Tryz.sizeOf3
 v3:=Tryz.zeroValue3
 t4:=Tryz.underlying4
 a4:=Tryz.isAgg4
 z4:=Tryz.sizeOf4
 v4:=Tryz.zeroValue4
 t5:=Tryz.underlying5
 a5:=Tryz.isAgg5
 z5:=Tryz.sizeOf5
 v5:=Tryz.zeroValue5
 t9:=Tryz.underlying9
 a9:=Tryz.isAgg9
 z9:=Tryz.sizeOf9
 v9:=Tryz.zeroValue9
 t21:=Tryz.underlying21
 a21:=Tryz.isAgg21
 z21:=Tryz.sizeOf21
 v21:=Tryz.zeroValue21
 t46:=Tryz.underlying192
 a46:=Tryz.isAgg192
 z46:=Tryz.sizeOf192
 v46:=Tryz.zeroValue192
 t116:=Tryz.underlying155
 a116:=Tryz.isAgg155
 z116:=Tryz.sizeOf155
 t117:=Tryz.underlying156
 a117:=Tryz.isAgg156
 z117:=Tryz.sizeOf156
 v117:=Tryz.zeroValue156
 t124:=Tryz.underlying194
 a124:=Tryz.isAgg194
 z124:=Tryz.sizeOf194
 v124:=Tryz.zeroValue194 }
open Go.RowKit Go.Lib in
theorem Tryz.strings_IndexAny_laid(s chars:ByteArray)(w:World)(hs:s.size<4294967281)(hcs:chars.size<4294967281)(has:∀ (j:Nat) b,s.data.toList[j]? =some b->b.toNat<128)(hac:∀ (j:Nat) b,chars.data.toList[j]? =some b->b.toNat<128):
 Calls Tryz.prog 65 #[.string s,.string chars] w fun e w'=>e=.returned (.int .i64 (Lib.indexAny s.data.toList chars.data.toList))/\Below w.heap.size w w':=Any.strings_IndexAny_laid Tryz.JL Zae s chars w hs hcs has hac
def Tryz.Be:Go.Shelf.Ren:=⟨fun | 110=>36 | 109=>75 | n=>n,fun | 31=>25 | 9=>9 | 4=>4 | 3=>3 | 0=>0 | n=>n,fun | n=>n⟩
theorem Tryz.Cg:Go.Proofs.Lays.n110 Tryz.prog Tryz.Be:={
 mixed:=Zae
 f109:=Tryz.func75.trans (Zbm some Zae)
 f110:=Tryz.func36.trans (Zbm some Zae)
 t0:=Tryz.underlying0
 a0:=Tryz.isAgg0
 z0:=Tryz.sizeOf0
 v0:=Tryz.zeroValue0
 t3:=Tryz.underlying3
 a3:=Tryz.isAgg3
 z3:=Tryz.sizeOf3
 v3:=Tryz.zeroValue3
 t4:=Tryz.underlying4
 a4:=Tryz.isAgg4
 z4:=Tryz.sizeOf4
 v4:=Tryz.zeroValue4
 t9:=Tryz.underlying9
 a9:=Tryz.isAgg9
 z9:=Tryz.sizeOf9
 v9:=Tryz.zeroValue9
 t31:=Tryz.underlying25
 a31:=Tryz.isAgg25
 z31:=Tryz.sizeOf25
 v31:=Tryz.zeroValue25 }
open Go.Lib in
theorem Tryz.slices_Contains_string(b off n c:Nat)(zs:List ByteArray)(x:ByteArray)(w:World)(hz:n<=zs.length)(hbig:n<=9223372036854775807)(hc:∀ j,j<zs.length->w.cell? ⟨b,off+j,none⟩=some (.string (zs.getD j ByteArray.empty))):
 Calls Tryz.prog 36 #[.slice (some ⟨b,off,none⟩) n c,.string x] w fun e w'=>e=.returned (.bool (Lib.containsS (zs.take n) x))/\w'=w:=Any.slices_Contains_string Tryz.Cg b off n c zs x w hz hbig hc
open Go.Lib in
theorem Tryz.slices_Contains_string_empty(a:Option Addr)(c:Nat)(x:ByteArray)(w:World):
 Calls Tryz.prog 36 #[.slice a 0 c,.string x] w fun e w'=>e=.returned (.bool false)/\w'=w:=Any.slices_Contains_string_empty Tryz.Cg a c x w
def Tryz.yx:Go.Shelf.Ren:=⟨fun | 16=>74 | n=>n,fun | 24=>25 | 9=>9 | 4=>4 | n=>n,fun | n=>n⟩
theorem Tryz.ra:Go.Proofs.Lays2.n16 Tryz.prog Tryz.yx:={
 mixed:=Zae
 f16:=Tryz.func74.trans (Zbm some Zae)
 t4:=Tryz.underlying4
 a4:=Tryz.isAgg4
 z4:=Tryz.sizeOf4
 v4:=Tryz.zeroValue4
 t9:=Tryz.underlying9
 a9:=Tryz.isAgg9
 z9:=Tryz.sizeOf9
 v9:=Tryz.zeroValue9
 t24:=Tryz.underlying25
 a24:=Tryz.isAgg25
 z24:=Tryz.sizeOf25
 v24:=Tryz.zeroValue25
 i9:=by kernel_rfl }
open Go.RowKit Go.Lib in
theorem Tryz.slices_Clone_string(b off n c:Nat)(zs:List ByteArray)(w:World)(hz:n<=zs.length)(hbig:n*16<=140737488355328)(hc:∀ j,j<zs.length->w.cell? ⟨b,off+j,none⟩=some (.string (zs.getD j ByteArray.empty))):
 Calls Tryz.prog 74 #[.slice (some ⟨b,off,none⟩) n c] w fun e w'=> ∃ v',e=.returned v'/\w'.ownsRow w.heap.size 9 1 v' n ((zs.take n).map (Value.string))/\v'≠.slice none 0 0/\Below w.heap.size w w':=Any.slices_Clone_string Tryz.ra b off n c zs w hz hbig hc
open Go.RowKit Go.Lib in
theorem Tryz.slices_Clone_string_nil(n c:Nat)(w:World):
 Calls Tryz.prog 74 #[.slice none n c] w fun e w'=>e=.returned (.slice none 0 0)/\w'=w:=Any.slices_Clone_string_nil Tryz.ra n c w
open Go.RowKit Go.Lib in
theorem Tryz.slices_Clone_string_zero(a:Addr)(c:Nat)(w:World):
 Calls Tryz.prog 74 #[.slice (some a) 0 c] w fun e w'=> ∃ v',e=.returned v'/\w'.ownsRow w.heap.size 9 1 v' 0 []/\v'≠.slice none 0 0/\Below w.heap.size w w':=Any.slices_Clone_string_zero Tryz.ra a c w
end Go.Proofs
namespace Go.Proofs.YtjkdagkclihpjaaGreatDoor
open Go Go.RowKit
set_option maxRecDepth 20000
section
variable {P:Program}
theorem ig{f:FuncId}{args:List V}{Q:V->Prop}(ho:V.ax args=false)(hp:args.all (fun v=>match v with | .c9=>false | .gv _ _=>false | .tup _=>false | _=>true)=true)(h:PC P f args Q):PF P f args [] (fun r h=>Q r/\h=[]):=by
 refine⟨h.1,fun w Pb Kb cargs F hi=>?_⟩;have hF0:∀ i v x,args[i]? =some v->cargs[i]? =some x->F (.slot i)=[]:=fun i v x hv hx=>by
  have hr:=hi.slot i v x hv hx;have hm:=Za7 hv;exact wF (w:=w) (Pb:=Pb) (by
   have:∀ (l:List V),V.ax l=false->∀ v∈l,v.df=false:=by
    intro l;induction l with
    | nil=>intro _ v hv;simp at hv
    | cons a r ih=>
      intro h v hv;simp only[V.ax,Bool.or_eq_false_iff]at h;rcases List.mem_cons.1 hv with rfl | hv;exact h.1;exact ih h.2 v hv
   exact this _ ho v hm) hr
 have hrv:∀ (l:List V) (c:List Value),l.length=c.length->(∀ (i:Nat) v x,l[i]? =some v->c[i]? =some x->RV w Pb v x []/\v∈args)->RVs w Pb l c []:=by
  intro l;induction l with
  | nil=>intro c hl _;cases c with | nil=>exact⟨rfl,rfl⟩ | cons _ _=>simp at hl
  | cons v r ih=>
    intro c hl hx;cases c with
    | nil=>simp at hl
    | cons x c=>
      obtain⟨h0,hm⟩:=hx 0 v x rfl rfl;have hv:=Za2.1 hp v hm;refine⟨x,c,[],[],rfl,rfl,?_,ih c (by simpa using hl) fun i v' x' h1 h2=>hx (i+1) v' x' Zbz Zb4⟩;cases v <;> first | exact h0 | simp at hv
 have hR:RVs w Pb args cargs []:=hrv args cargs hi.len.symm fun i v x hv hx=>by
  have:=hi.slot i v x hv hx;rw[hF0 i v x hv hx]at this;exact⟨this,Za7 hv⟩
 refine(h.2 w Pb cargs (fun g hg=>hi.bound g (hi.sub g hg)) hR).mono ?_;rintro e w' ⟨r,x,Fr,Pb',rfl,hq,hrv,hnd,hfr,hP1,hP2,hB⟩;refine⟨r,x,[],Pb',fun g=>Kb g\/Pb' g,(fun r=>match r with | .slot i=>if i=0 then Fr else [] | .key _=>[]),rfl,⟨hq,rfl⟩,?_⟩;have hold:∀ g,Kb g->g<w.heap.size:=hi.bound;refine⟨by simpa using hrv,fun k g v hk=>by simp[lk]at hk,fun r r' hne g hg=>?_,fun r=>?_,fun r g hg=>?_,fun g h=>.inr h,fun g h=>?_,hP1,fun _ h=>.inl h,fun g hg=>?_,⟨hB.os,hB.tape,hB.output,hB.size,fun g hg=>hB.block g (hold g hg),Shp.of_eq hB.block⟩⟩;cases r with
 | slot i=>
   simp only at hg;split at hg;rename_i hi0;cases r' with
   | slot j=>simp only;rw[if_neg (fun c=>hne (by rw[hi0,c]))];simp
   | key k=>simp
   simp at hg
 | key k=>simp at hg
 cases r <;> simp only;split;exact hnd;exact Zba;exact Zba;cases r with
 | slot i=>
   simp only at hg;split at hg;obtain⟨h1,h2,h3⟩:=hfr g hg;exact⟨fun c=>c.elim (fun c=>by have:=hold g c;omega) h3,h2⟩;simp at hg
 | key k=>simp at hg
 rcases h with h | h;have:=hold g h;have:=hB.size;omega;rcases hP2 g h with h | h;have:=hold g (hi.sub g h);have:=hB.size;omega;exact h.2;rcases hP2 g hg with h | h;exact .inl h;exact .inr fun c=>by have:=hold g c;omega
def RVm(w:World)(Pb:Nat->Prop)(v:V)(x:Value):Prop:=match v with | .agg us=> ∃ cs,x=.agg cs/\RL w Pb us cs.toList [] | .c9=>([]:List Nat)=[] | v=>R w Pb v [x] []
theorem zu{w:World}{Pb:Nat->Prop}{v:V}{vs:List V}{xs:List Value}(h:RVs w Pb (v::vs) xs []):∃ x r,xs=x::r/\RVm w Pb v x/\RVs w Pb vs r []:=by
 obtain⟨x,r,F1,F2,e,hF,h1,h2⟩:=h;have hF:=List.append_eq_nil_iff.1 hF.symm;obtain⟨rfl,rfl⟩:=hF;exact⟨x,r,e,h1,h2⟩
theorem gY{w:World}{Pb:Nat->Prop}{y:Value}{vs:List V}{xs:List Value}(h:RVs w Pb (.lit y::vs) xs []):∃ r,xs=y::r/\RVs w Pb vs r []:=by
 obtain⟨x,r,e,h1,h2⟩:=zu h;obtain⟨_,e1,_⟩:=h1;simp only[List.cons.injEq,and_true]at e1;exact⟨r,by rw[e,e1],h2⟩
theorem lG{w:World}{Pb:Nat->Prop}{xs:List Value}(h:RVs w Pb [] xs []):xs=[]:=h.1
theorem Az{w:World}{Pb:Nat->Prop}{f:Bool}{l:List BL}{vs:List V}{xs:List Value}(h:RVs w Pb (.sl f (l.map sV)::vs) xs []):∃ A c r,xs=.slice A l.length c::r/\RVs w Pb vs r []/\l.length<=c/\
 (l=[]\/∃ b o,A=some ⟨b,o,none⟩/\Pb b/\∀ j x,(l.map Str)[j]? =some x->w.cell? ⟨b,o+j,none⟩=some (.string x)):=by
 obtain⟨x,r,e,h1,h2⟩:=zu h;obtain⟨_,A,c,e1,hle,_,hx⟩:=h1;simp only[List.cons.injEq,and_true,Zay]at e1 hle;refine⟨A,c,r,by rw[e,e1],h2,hle,?_⟩;rcases hx with hx | ⟨b,o,sz,flat,hA,hb,hs,hn,hr,hc⟩;left;simpa using hx;right;refine⟨b,o,hA,hb,fun j x hj=>hc j _ ?_⟩;have hfl:∀ (l:List BL) {flat:List Value} {F},RL w Pb (l.map sV) flat F->flat=l.map fun t=>.string (Str t):=by
  intro l;induction l with
  | nil=>intro flat F h;exact h.1
  | cons t r ih=>
    intro flat F h;obtain⟨c1,c2,F1,F2,e1,_,h1,h2⟩:=h;rw[e1,ih h2,h1.2.1];rfl
 rw[hfl l hr];rw[List.getElem?_map]at hj ⊢;cases hl:l[j]? with
 | none=>rw[hl]at hj;simp at hj
 | some t=>rw[hl]at hj;simp at hj;simp[hj]
theorem vj{f:FuncId}{args:List V}{res:V}{y:Value}(he:ny P f)(hv:res.val? =some y)(h:∀ (w:World) (Pb:Nat->Prop) cargs,(∀ g,Pb g->g<w.heap.size)->RVs w Pb args cargs []->Calls P f cargs.toArray w fun e w'=>e=.returned y/\Below w.heap.size w w'):PC P f args (fun r=>r=res):=by
 refine⟨he,fun w Pb cargs hP hargs=>(h w Pb cargs hP hargs).mono ?_⟩;rintro e w' ⟨rfl,hB⟩;exact⟨res,y,[],Pb,rfl,rfl,vZ hv,Zba,Zad,fun _ h=>h,fun _ h=>.inl h,hB⟩
end
def dv(c:UInt8):BL->List BL
 | []=>[[]]
 | b::l=>if b=c then []::dv c l else match dv c l with
   | []=>[[b]]
   | p::r=>(b::p)::r
theorem Et(c:UInt8):∀ l,dv c l≠[]
 | []=>by simp[dv]
 | b::l=>by
   unfold dv;split;simp;split <;> simp
theorem oF(c:UInt8):∀ l,Lib.indexByte l c= -1->dv c l=[l]
 | [],_=>rfl
 | b::l,h=>by
   unfold Lib.indexByte at h;split at h;simp at h;rename_i hb;have hb:b≠c:=Zby
   split at h;rename_i h1;have:=oF c l Zbz;unfold dv;rw[if_neg hb,this];have:=Lib.indexByte_ge l c;omega
theorem qo(c:UInt8):∀ l (i:Nat),Lib.indexByte l c=i->dv c l=l.take i::dv c (l.drop (i+1))/\i<l.length/\l.count c=(l.drop (i+1)).count c+1
 | [],i,h=>by unfold Lib.indexByte at h;omega
 | b::l,i,h=>by
   unfold Lib.indexByte at h;split at h;rename_i hb;have hb:b=c:=Zby
   have:i=0:=Zac;subst this hb;simp[dv];rename_i hb;have hb:b≠c:=Zby
   split at h;omega;rename_i h1;have:=Lib.indexByte_ge l c;have h1:Lib.indexByte l c≠ -1:=Zbz
   obtain⟨j,rfl⟩:∃ j,i=j+1:=⟨i-1,Zac⟩;obtain⟨k1,k2,k3⟩:=qo c l j Zac;refine⟨?_,Zal,by simp[List.count_cons,hb,k3]⟩;conv=>lhs;unfold dv
   rw[if_neg hb,k1];simp
theorem zb(c:UInt8):∀ (k:Nat) (s:BL),s.count c=k->Lib.splitK [c] 0 k s=dv c s
 | 0,s,h=>by
   have:Lib.indexByte s c= -1:=by
    by_cases hc:Lib.indexByte s c= -1;exact hc;have h1:=Lib.indexByte_ge s c;obtain⟨i,hi⟩:∃ i:Nat,Lib.indexByte s c=i:=⟨(Lib.indexByte s c).toNat,Zac⟩;have:=(qo c s i hi).2.2;omega
   rw[oF c s this];rfl
 | k+1,s,h=>by
   by_cases hc:Lib.indexByte s c= -1;rw[oF c s hc];unfold Lib.splitK;rw[Lib.index_one,hc];rfl;have h1:=Lib.indexByte_ge s c;obtain⟨i,hi⟩:∃ i:Nat,Lib.indexByte s c=i:=⟨(Lib.indexByte s c).toNat,Zac⟩;obtain⟨k1,k2,k3⟩:=qo c s i hi;rw[k1];unfold Lib.splitK;rw[Lib.index_one,hi];have: ¬ ((i:Int)== -1)=true:=Zad;rw[if_neg this];simp only[Int.toNat_natCast,Nat.add_zero,Zbf];rw[zb c k _ Zac]
theorem xM(c:UInt8):∀ s,Lib.indexByte s c= -1->ab c s=(s,[],false)
 | [],_=>rfl
 | b::l,h=>by
   unfold Lib.indexByte at h;split at h;simp at h;rename_i hb;have hb:b≠c:=Zby
   split at h;rename_i h1;have:=xM c l Zbz;simp only[ab,if_neg hb,this];have:=Lib.indexByte_ge l c;omega
theorem uz(c:UInt8):∀ s (i:Nat),Lib.indexByte s c=i->ab c s=(s.take i,s.drop (i+1),true)/\i<s.length
 | [],i,h=>by unfold Lib.indexByte at h;omega
 | b::l,i,h=>by
   unfold Lib.indexByte at h;split at h;rename_i hb;have hb:b=c:=Zby
   have:i=0:=Zac;subst this;simp[ab,hb];rename_i hb;have hb:b≠c:=Zby
   split at h;omega;rename_i h1;have:=Lib.indexByte_ge l c;have h1:Lib.indexByte l c≠ -1:=Zbz
   obtain⟨j,rfl⟩:∃ j,i=j+1:=⟨i-1,Zac⟩;obtain⟨k1,k2⟩:=uz c l j Zac;refine⟨?_,Zal⟩;simp only[ab,if_neg hb,k1];rfl
theorem KK(s:BL)(c:UInt8)(h:0<=Lib.indexByte s c):Lib.indexByte s c<s.length:=by
 obtain⟨i,hi⟩:∃ i:Nat,Lib.indexByte s c=i:=⟨(Lib.indexByte s c).toNat,Zac⟩;have:=(uz c s i hi).2;omega
theorem JW{s:BL}{c:UInt8}(h:Lib.indexByte s c<0):ab c s=(s,[],false):=xM c s (by have:=Lib.indexByte_ge s c;omega)
theorem Hk{s:BL}{c:UInt8}(h:0<=Lib.indexByte s c):ab c s=(s.take (Lib.indexByte s c).toNat,s.drop ((Lib.indexByte s c).toNat+1),true):=(uz c s _ Zac).1
theorem yR(c:UInt8):∀ s,dv c s=af c s
 | []=>rfl
 | b::l=>by
   have ih:=yR c l;unfold dv af;split;rw[ih];rw[ih];cases h:af c l with
   | nil=>exact absurd (ih.trans h) (Et c l)
   | cons p r=>rfl
theorem uM:∀ (l:List BL),Lib.join l [47]=cJ l
 | []=>rfl
 | [p]=>Lib.join_one p _
 | p::q::r=>by
   have:=uM (q::r);rw[Lib.join_cons]at this ⊢;simp only[Lib.joinTail,Zbe,List.flatten_cons]at this ⊢;rw[show cJ (p::q::r)=p++[47]++cJ (q::r) from rfl,<- this];simp
theorem KH(s:BL): -1<=Lib.indexAny s [47,63]:=Lib.indexAny_ge _ s
theorem uk:∀ (s:BL),(Lib.indexAny s [47,63]<0->s.takeWhile jI=s/\s.dropWhile jI=[])/\(0<=Lib.indexAny s [47,63]->s.takeWhile jI=s.take (Lib.indexAny s [47,63]).toNat/\s.dropWhile jI=s.drop (Lib.indexAny s [47,63]).toNat/\(Lib.indexAny s [47,63]).toNat<s.length)
 | []=>by simp[Lib.indexAny]
 | b::l=>by
   obtain⟨i1,i2⟩:=uk l;have hg:=KH l;have hn:jI b=!([47,63]:BL).contains b:=by
    unfold jI;have:(b.toNat=47↔b=47)/\(b.toNat=63↔b=63):=⟨by rw[<- UInt8.toNat_inj];rfl,by rw[<- UInt8.toNat_inj];rfl⟩;rw[Za6];simp[this]
   unfold Lib.indexAny;cases hc:([47,63]:BL).contains b with
   | true=>
     rw[hc]at hn;simp[List.takeWhile_cons,List.dropWhile_cons,hn]
   | false=>
     rw[hc]at hn;simp only[Bool.false_eq_true,if_false];by_cases h1:Lib.indexAny l [47,63]= -1;obtain⟨k1,k2⟩:=i1 Zac;rw[h1];simp[List.takeWhile_cons,List.dropWhile_cons,hn,k1,k2];obtain⟨k1,k2,k3⟩:=i2 Zac;rw[if_neg Zbz];refine⟨fun h=>by omega,fun _=>?_⟩;rw[show (Lib.indexAny l [47,63]+1).toNat=(Lib.indexAny l [47,63]).toNat+1 from Zac];simp[List.takeWhile_cons,List.dropWhile_cons,hn,k1,k2,k3]
def iZ(s:BL)(i:Nat):Bool:=decide (i+2<s.length)&&(decide (0<=cw (s.getD (i+1) 0))&&decide (0<=cw (s.getD (i+2) 0)))
def dA(s:BL)(i:Nat):UInt8:=if iZ s i=true then dq (s.getD (i+1) 0) (s.getD (i+2) 0) else 0
theorem il{s:BL}{i:Nat}:iZ s i=true↔i+2<s.length/\0<=cw (s.getD (i+1) 0)/\0<=cw (s.getD (i+2) 0):=by
 unfold iZ;simp
theorem rB{s:BL}{i:Nat}(h:iZ s i=true):dA s i=dq (s.getD (i+1) 0) (s.getD (i+2) 0):=if_pos h
theorem zH{s:BL}{i:Nat}(h:iZ s i=false):dA s i=0:=if_neg (by rw[h];decide)
theorem gB(l:BL):(Str l).data.toList=l:=rfl
theorem Km(s:BL)(c:UInt8):PC Tryz.prog 106 [sV s,sV [c]] (fun r=>r=iV (Lib.indexByte s c)):=by
 refine vj (ew Tryz.func106 Zae Zae) rfl fun w Pb cargs hP hargs=>?_;obtain⟨r,rfl,h1⟩:=gY hargs;obtain⟨r,rfl,h2⟩:=gY h1;obtain rfl:=lG h2;refine(Tryz.stringslite_Index_one (Str s) c w).mono ?_;rintro e w' ⟨rfl,rfl⟩;exact⟨by rw[gB],Below.refl _ _⟩
theorem JT(s:BL)(c:UInt8):PF Tryz.prog 106 [sV s,sV [c]] [] (fun r h=>r=iV (Lib.indexByte s c)/\h=[]):=ig rfl rfl (Km s c)
theorem MQ(s:BL)(hs:s.length<=1000000)(ha:∀ c,c∈s->c.toNat<128):PF Tryz.prog 65 [sV s,sV [47,63]] [] (fun r h=>r=iV (Lib.indexAny s [47,63])/\h=[]):=by
 refine ig rfl rfl (vj (ew Tryz.func65 Zae Zae) rfl fun w Pb cargs hP hargs=>?_);obtain⟨r,rfl,h1⟩:=gY hargs;obtain⟨r,rfl,h2⟩:=gY h1;obtain rfl:=lG h2;refine(Tryz.strings_IndexAny_laid (Str s) (Str [47,63]) w (by rw[ie];omega) (by rw[ie];decide) (fun j b hb=>?_) (fun j b hb=>?_)).mono ?_;rw[gB]at hb;exact ha b (Za7 hb);rw[gB]at hb;have:=Za7 hb;simp at this;rcases this with rfl | rfl <;> decide;rintro e w' ⟨rfl,hB⟩;exact⟨by rw[gB,gB],hB⟩
theorem Ey(l:List BL):(l.map Str).map (·.data.toList)=l:=by
 rw[List.map_map];conv=>rhs;rw[<- List.map_id l]
 apply List.map_congr_left;intro x _;exact gB x
theorem Kv(f:Bool)(l:List BL)(sep:BL)(hl:l.length<=1000000)(hj:(Lib.join l sep).length<=1000000):PF Tryz.prog 158 [.sl f (l.map sV),sV sep] [] (fun r h=>r=sV (Lib.join l sep)/\h=[]):=by
 refine ig rfl rfl (vj (ew Tryz.func158 Zae Zae) rfl fun w Pb cargs hP hargs=>?_);obtain⟨A,c,r,rfl,h1,hle,hc⟩:=Az hargs;obtain⟨r,rfl,h2⟩:=gY h1;obtain rfl:=lG h2;rcases hc with rfl | ⟨b,o,rfl,hb,hc⟩;refine(Tryz.strings_Join_none A c (Str sep) w).mono ?_;rintro e w' ⟨rfl,rfl⟩;exact⟨rfl,Below.refl _ _⟩;have:=Tryz.strings_Join b o c (l.map Str) (Str sep) w hc (hP b hb) Zal (by simpa using hle) (by rw[Ey,gB];omega);rw[Zay]at this;refine this.mono ?_;rintro e w' ⟨rfl,hB⟩;exact⟨by rw[Ey,gB];rfl,hB⟩
theorem Lx(f:Bool)(l:List BL)(x:BL)(hl:l.length<=1000000):PF Tryz.prog 36 [.sl f (l.map sV),sV x] [] (fun r h=>r=bV (l.contains x)/\h=[]):=by
 refine ig rfl rfl (vj (ew Tryz.func36 Zae Zae) rfl fun w Pb cargs hP hargs=>?_);obtain⟨A,c,r,rfl,h1,hle,hc⟩:=Az hargs;obtain⟨r,rfl,h2⟩:=gY h1;obtain rfl:=lG h2;rcases hc with rfl | ⟨b,o,rfl,hb,hc⟩;refine(Tryz.slices_Contains_string_empty A c (Str x) w).mono ?_;rintro e w' ⟨rfl,rfl⟩;exact⟨rfl,Below.refl _ _⟩;refine(Tryz.slices_Contains_string b o l.length c (l.map Str) (Str x) w Zad Zac (fun j hj=>?_)).mono ?_;apply hc;rw[Zam,Zat hj];rfl;rintro e w' ⟨rfl,rfl⟩;refine⟨?_,Below.refl _ _⟩;congr 2;rw[Za6,Lib.containsS_iff,List.contains_iff_mem,Zaz Zad,List.mem_map];exact⟨fun⟨y,h1,h2⟩=>by
  have:y=x:=by rw[<- gB y,h2,gB]
  rw[<- this];exact h1,fun h=>⟨x,h,rfl⟩⟩
theorem Hp(s:BL)(c:UInt8)(hs:s.length<=1000000):PC Tryz.prog 157 [sV s,sV [c],iV 0,iV (-1)] (fun r=>r=.sl true ((dv c s).map sV)):=by
 refine⟨ew Tryz.func157 Zae Zae,fun w Pb cargs hP hargs=>?_⟩;obtain⟨r,rfl,h1⟩:=gY hargs;obtain⟨r,rfl,h2⟩:=gY h1;obtain⟨r,rfl,h3⟩:=gY h2;obtain⟨r,rfl,h4⟩:=gY h3;obtain rfl:=lG h4;have hcnt:Lib.countB (Str s) (Str [c])=s.count c:=by
  show Lib.count (Str s).data.toList (Str [c]).data.toList=_;rw[gB,gB,Lib.count_one]
 have hI:∀ (x:ByteArray) (cs:Array Value),x.size<=(Str s).size->Calls Tryz.prog (Tryz.fL.f 143) #[.string x,.string (Str [c])] (w.alloc (.cells cs (Tryz.fL.t 9))) fun e w'=>e=.returned (.int .i64 (Lib.indexB x (Str [c])))/\w'=w.alloc (.cells cs (Tryz.fL.t 9)):=fun x cs _=>
  (Tryz.strings_Index_one x c _).mono fun e w' h=>by
   rw[show Lib.indexB x (Str [c])=Lib.indexByte x.data.toList c from Lib.index_one _ _];exact h
 have hC:Calls Tryz.prog (Tryz.fL.f 138) #[.string (Str s),.string (Str [c])] w fun e w'=>e=.returned (.int .i64 (Lib.countB (Str s) (Str [c])))/\w'=w:=
  (Tryz.strings_Count_one (Str s) c w).mono fun e w' h=>by
   rw[hcnt];exact h
 have hcl:s.count c<=s.length:=List.count_le_length;have hg:=Any.strings_genSplit_core Tryz.Jq Zae (Str s) (Str [c]) 0 (-1) (s.count c+1) w (by rw[ie];omega) (by rw[ie];simp) (Nat.zero_le _) hI hC Zaf Zaf (by rw[if_pos Zaf,hcnt,ie];omega);have hlen:(Lib.splitB (Str [c]) 0 (s.count c) (Str s)).length=s.count c+1:=Lib.splitB_all _ (by rw[ie];simp) 0 _ _ hcnt;have hdat:(Lib.splitB (Str [c]) 0 (s.count c) (Str s)).map (·.data.toList)=dv c s:=by
  rw[Lib.splitB_data,gB,gB];exact zb c _ s rfl
 have hl2:(dv c s).length=s.count c+1:=by rw[<- hdat,Zay,hlen]
 have hcells:Lib.cellsOf (Lib.splitB (Str [c]) 0 (s.count c) (Str s)) (s.count c+1)=((dv c s).map fun t=>Value.string (Str t)).toArray:=by
  rw[<- hlen,Lib.cellsOf_full,<- hdat,List.map_map];congr 1
 refine hg.mono ?_;rintro e w' ⟨he,hw⟩;rw[Nat.add_sub_cancel,hlen]at he;rw[Nat.add_sub_cancel,hcells]at hw;subst hw;refine⟨_,_,[],fun g=>Pb g\/g=w.heap.size,he,rfl,?_,Zba,Zad,fun _ h=>.inl h,fun g h=>h.imp id fun h=>⟨Zac,Zbx⟩,⟨rfl,rfl,rfl,Zbx,fun k hk=>alloc_old w _ k hk⟩⟩;refine⟨rfl,_,_,by rw[Zay,hl2],by simp[hl2],fun _=>by simp[hl2],.inr ⟨_,_,1,(dv c s).map fun t=>Value.string (Str t),rfl,.inr rfl,Nat.one_pos,fun v hv=>?_,?_,fun j u hu=>?_⟩⟩;obtain⟨t,_,rfl⟩:=List.mem_map.1 hv;rfl;have:∀ (l:List BL) (w:World) (Pb:Nat->Prop),RL w Pb (l.map sV) (l.map fun t=>Value.string (Str t)) []:=by
  intro l w Pb;induction l with
  | nil=>exact⟨rfl,rfl⟩
  | cons t r ih=>exact⟨[_],_,[],[],rfl,rfl,⟨rfl,rfl,rfl⟩,ih⟩
 exact this _ _ _;rw[Zaw];have:(w.alloc (.cells ((dv c s).map fun t=>Value.string (Str t)).toArray (Tryz.fL.t 9))).heap[w.heap.size]? =some (.cells ((dv c s).map fun t=>Value.string (Str t)).toArray (Tryz.fL.t 9) (0,0)):=gK w _;have hb:Blk (w.alloc (.cells ((dv c s).map fun t=>Value.string (Str t)).toArray (Tryz.fL.t 9))) w.heap.size ((dv c s).map fun t=>Value.string (Str t)).toArray:=⟨_,(0,0),this,fun i _ h=>by omega⟩;rw[eg hb,List.getElem?_toArray];exact hu
theorem HV(s:BL)(c:UInt8)(hs:s.length<=1000000):PF Tryz.prog 157 [sV s,sV [c],iV 0,iV (-1)] [] (fun r h=>r=.sl true ((dv c s).map sV)/\h=[]):=ig rfl rfl (Hp s c hs)
theorem Ip(w:World)(Pb:Nat->Prop):∀ (l:List BL),RL w Pb (l.map sV) (l.map fun t=>Value.string (Str t)) []
 | []=>⟨rfl,rfl⟩
 | _::r=>⟨[_],_,[],[],rfl,rfl,⟨rfl,rfl,rfl⟩,Ip w Pb r⟩
theorem vz{w w':World}{Pb:Nat->Prop}{v:Value}{l:List BL}(hP:∀ g,Pb g->g<w.heap.size)(h:w'.ownsRow w.heap.size 9 1 v l.length (l.map fun t=>Value.string (Str t))):
 ∃ F,RV w' Pb (.ow 1 (l.map sV)) v F/\F.Nodup/\∀ g,g∈F->w.heap.size<=g/\g<w'.heap.size/\¬ Pb g:=by
 obtain⟨_,h⟩:=h;rcases h with ⟨rfl,h0⟩ | ⟨g,cap,cur,rfl,hg,hb,hle,_,hsz,htk⟩;have:l=[]:=Za5 h0;subst this;exact⟨[],⟨0,0,0,.inl ⟨rfl,rfl,rfl,none,rfl⟩⟩,Zba,Zad⟩;have hnp: ¬ Pb g:=fun c=>by have:=hP g c;omega
 by_cases hc:cap=0;subst hc;have:l=[]:=Za5 Zac;subst this;exact⟨[],⟨0,0,0,.inl ⟨rfl,rfl,rfl,_,rfl⟩⟩,Zba,Zad⟩;have hgl:g<w'.heap.size:=by
  cases hh:w'.heap[g]? with
  | none=>rw[hh]at hb;cases hb
  | some o=>exact(Zbh.1 hh).1
 refine⟨[g],⟨g,0,cap,.inr ⟨Zac,Nat.one_pos,by simpa using hle,Zad,fun v hv=>?_,hnp,_,[],cur,rfl,Ip w' Pb l,⟨9,(0,0),hb,fun i _ h=>by omega⟩,Zac,fun j u hu=>?_⟩⟩,Zad,fun x hx=>?_⟩;obtain⟨t,_,rfl⟩:=List.mem_map.1 hv;rfl;rw[<- htk,List.getElem?_take]at hu;split at hu;rw[Zaw,<- Array.getElem?_toList];exact hu;simp at hu;obtain rfl:=Zav.1 hx;exact⟨hg,hgl,hnp⟩
theorem HH(f:Bool)(l:List BL)(hl:l.length<=1000000):PC Tryz.prog 74 [.sl f (l.map sV)] (fun r=>r=.ow 1 (l.map sV)):=by
 refine⟨ew Tryz.func74 Zae Zae,fun w Pb cargs hP hargs=>?_⟩;obtain⟨A,c,r,rfl,h1,hle,hc⟩:=Az hargs;obtain rfl:=lG h1;rcases hc with rfl | ⟨b,o,rfl,hb,hc⟩;cases A with
 | none=>
   refine(Tryz.slices_Clone_string_nil 0 c w).mono ?_;rintro e w' ⟨rfl,rfl⟩;exact⟨_,_,[],Pb,rfl,rfl,⟨0,0,0,.inl ⟨rfl,rfl,rfl,none,rfl⟩⟩,Zba,Zad,fun _ h=>h,fun _ h=>.inl h,Below.refl _ _⟩
 | some a=>
   refine(Tryz.slices_Clone_string_zero a c w).mono ?_;rintro e w' ⟨v,rfl,hr,_,hB⟩;obtain⟨F,k1,k2,k3⟩:=vz (l:=[]) hP hr;exact⟨_,_,F,Pb,rfl,rfl,k1,k2,k3,fun _ h=>h,fun _ h=>.inl h,hB⟩
 refine(Tryz.slices_Clone_string b o l.length c (l.map Str) w Zad Zac (fun j hj=>?_)).mono ?_;apply hc;rw[Zam,Zat hj];rfl;rintro e w' ⟨v,rfl,hr,_,hB⟩;rw[Zaz Zad,List.map_map]at hr;obtain⟨F,k1,k2,k3⟩:=vz hP hr;exact⟨_,_,F,Pb,rfl,rfl,k1,k2,k3,fun _ h=>h,fun _ h=>.inl h,hB⟩
theorem Ib(f:Bool)(l:List BL)(hl:l.length<=1000000):PF Tryz.prog 74 [.sl f (l.map sV)] [] (fun r h=>r=.ow 1 (l.map sV)/\h=[]):=ig rfl rfl (HH f l hl)
def foldI(b:Int):Int:=if 97<=b/\b<=102 then b-32 else b
def dZ(i:Nat):Int:=if i<10 then 48+i else 55+i
def kF(b:Int):Int:=if 48<=foldI b/\foldI b<=57 then foldI b-48 else if 65<=foldI b/\foldI b<=70 then foldI b-55 else -1
theorem wV:∀ i,(h:i<16)->((((⟨#[48,49,50,51,52,53,54,55,56,57,65,66,67,68,69,70]⟩:ByteArray)[i]'h).toNat:Nat):Int)=dZ i:=Zaf
theorem uo{i:Nat}(h:i<16):dZ i<128:=by unfold dZ;split <;> omega
theorem Gw(b:UInt8):kF b.toNat=cw b:=by
 unfold kF foldI cw;have:=b.toNat_lt;repeat' split
 all_goals omega
theorem wN{b:Int}{i:Nat}(hi:i<16)(h:dZ i=foldI b):kF b=i:=by
 unfold dZ at h;unfold kF;split at h;rw[if_pos Zac];omega;rw[if_neg Zac,if_pos Zac];omega
theorem tM{b:Int}(h:∀ j:Nat,j<16->dZ j≠foldI b):kF b= -1:=by
 unfold kF;split;rename_i hc;refine absurd ?_ (h (foldI b-48).toNat Zac);unfold dZ;rw[if_pos Zac];omega;split;rename_i hc;refine absurd ?_ (h (foldI b-55).toNat Zac);unfold dZ;rw[if_neg Zac];omega;rfl
section
open Go Go.RowKit Go.Lib
set_option maxHeartbeats 1000000 in
set_option maxRecDepth 100000 in
theorem Lu(b:Int)(h0:0<=b)(h1:b<256)(hlo:decide ((97:Int)<=b)=false)(w:World):Calls Tryz.prog 186 #[.int .u8 b] w fun e w'=>e=.returned (.tuple #[.int .i64 (max (kF b) 0),.bool (decide (0<=kF b))])/\∃ pos,w'=w.iter ⟨#[48,49,50,51,52,53,54,55,56,57,65,66,67,68,69,70]⟩ pos:=by
 have HF:Aside (foldI b=b):=by
  have:=of_decide_eq_false hlo;unfold Aside foldI;rw[if_neg Zac]
 go_enter Tryz.func186,Tryz.ntmps186
 go_wp2
 go_loopg [4,5] 16 (fun g _ _ wx=> ∃ i:Nat,i+g=16/\wx=w.iter ⟨#[48,49,50,51,52,53,54,55,56,57,65,66,67,68,69,70]⟩ i/\∀ j:Nat,j<i->dZ j≠foldI b)
 case atStart=>exact⟨0,Zac,rfl,fun j hj=>by omega⟩
 case round=>
  obtain⟨i,hig,rfl,hno⟩:=hrel;have HN:Aside (∀ j:Nat,j<i->dZ j≠foldI b):=hno;clear hno;cases gk with
  | zero=>
    obtain rfl:i=16:=Zac;have hnx:=run_next_end (P:=Tryz.prog) w ⟨#[48,49,50,51,52,53,54,55,56,57,65,66,67,68,69,70]⟩ 16
    go_wp2
    go_ret2
    exact⟨by rw[tM HN.out];rfl,_,rfl⟩
  | succ g=>
    have hi:i<(⟨#[48,49,50,51,52,53,54,55,56,57,65,66,67,68,69,70]⟩:ByteArray).size:=by show i<16;omega
    have hfa:((((⟨#[48,49,50,51,52,53,54,55,56,57,65,66,67,68,69,70]⟩:ByteArray)[i]'hi).toNat:Nat):Int)=dZ i:=wV i hi;have hlt:((⟨#[48,49,50,51,52,53,54,55,56,57,65,66,67,68,69,70]⟩:ByteArray)[i]'hi).toNat<128:=Zb6
    have hnx:=fun ty=>run_next_ascii (P:=Tryz.prog) w ⟨#[48,49,50,51,52,53,54,55,56,57,65,66,67,68,69,70]⟩ i ty hi hlt;rw[hfa]at hnx;clear hlt hfa;cases hin:(dZ i==b)
    · have HI:Aside ((dZ i==b)=false):=hin
      go_wp2
      go_roundg g
      case measure=>omega
      case rel=>exact⟨i+1,Zac,rfl,fun j hj=>by
       by_cases e:j=i;subst e;rw[HF.out];exact beq_eq_false_iff_ne.1 HI.out;exact HN.out j Zac⟩
    have HI:Aside ((dZ i==b)=true):=hin
    go_wp2
    go_ret2
    exact⟨Zb7,_,rfl⟩
set_option maxHeartbeats 1000000 in
set_option maxRecDepth 100000 in
theorem MC(b:Int)(h0:0<=b)(h1:b<256)(hlo:decide ((97:Int)<=b)=true)(hhi:decide (b<=102)=false)(w:World):Calls Tryz.prog 186 #[.int .u8 b] w fun e w'=>e=.returned (.tuple #[.int .i64 (max (kF b) 0),.bool (decide (0<=kF b))])/\∃ pos,w'=w.iter ⟨#[48,49,50,51,52,53,54,55,56,57,65,66,67,68,69,70]⟩ pos:=by
 have HF:Aside (foldI b=b):=by
  have:=of_decide_eq_false hhi;unfold Aside foldI;rw[if_neg Zac]
 go_enter Tryz.func186,Tryz.ntmps186
 go_wp2
 go_loopg [4,5] 16 (fun g _ _ wx=> ∃ i:Nat,i+g=16/\wx=w.iter ⟨#[48,49,50,51,52,53,54,55,56,57,65,66,67,68,69,70]⟩ i/\∀ j:Nat,j<i->dZ j≠foldI b)
 case atStart=>exact⟨0,Zac,rfl,fun j hj=>by omega⟩
 case round=>
  obtain⟨i,hig,rfl,hno⟩:=hrel;have HN:Aside (∀ j:Nat,j<i->dZ j≠foldI b):=hno;clear hno;cases gk with
  | zero=>
    obtain rfl:i=16:=Zac;have hnx:=run_next_end (P:=Tryz.prog) w ⟨#[48,49,50,51,52,53,54,55,56,57,65,66,67,68,69,70]⟩ 16
    go_wp2
    go_ret2
    exact⟨by rw[tM HN.out];rfl,_,rfl⟩
  | succ g=>
    have hi:i<(⟨#[48,49,50,51,52,53,54,55,56,57,65,66,67,68,69,70]⟩:ByteArray).size:=by show i<16;omega
    have hfa:((((⟨#[48,49,50,51,52,53,54,55,56,57,65,66,67,68,69,70]⟩:ByteArray)[i]'hi).toNat:Nat):Int)=dZ i:=wV i hi;have hlt:((⟨#[48,49,50,51,52,53,54,55,56,57,65,66,67,68,69,70]⟩:ByteArray)[i]'hi).toNat<128:=Zb6
    have hnx:=fun ty=>run_next_ascii (P:=Tryz.prog) w ⟨#[48,49,50,51,52,53,54,55,56,57,65,66,67,68,69,70]⟩ i ty hi hlt;rw[hfa]at hnx;clear hlt hfa;cases hin:(dZ i==b)
    · have HI:Aside ((dZ i==b)=false):=hin
      go_wp2
      go_roundg g
      case measure=>omega
      case rel=>exact⟨i+1,Zac,rfl,fun j hj=>by
       by_cases e:j=i;subst e;rw[HF.out];exact beq_eq_false_iff_ne.1 HI.out;exact HN.out j Zac⟩
    have HI:Aside ((dZ i==b)=true):=hin
    go_wp2
    go_ret2
    exact⟨Zb7,_,rfl⟩
set_option maxHeartbeats 1000000 in
set_option maxRecDepth 100000 in
theorem Hv(b:Int)(h0:0<=b)(h1:b<256)(hlo:decide ((97:Int)<=b)=true)(hhi:decide (b<=102)=true)(w:World):Calls Tryz.prog 186 #[.int .u8 b] w fun e w'=>e=.returned (.tuple #[.int .i64 (max (kF b) 0),.bool (decide (0<=kF b))])/\∃ pos,w'=w.iter ⟨#[48,49,50,51,52,53,54,55,56,57,65,66,67,68,69,70]⟩ pos:=by
 have HF:Aside (foldI b=(b-32) % 256):=by
  have:=of_decide_eq_true hhi;have:=of_decide_eq_true hlo;unfold Aside foldI;rw[if_pos Zac];omega
 go_enter Tryz.func186,Tryz.ntmps186
 go_wp2
 go_loopg [4,5] 16 (fun g _ _ wx=> ∃ i:Nat,i+g=16/\wx=w.iter ⟨#[48,49,50,51,52,53,54,55,56,57,65,66,67,68,69,70]⟩ i/\∀ j:Nat,j<i->dZ j≠foldI b)
 case atStart=>exact⟨0,Zac,rfl,fun j hj=>by omega⟩
 case round=>
  obtain⟨i,hig,rfl,hno⟩:=hrel;have HN:Aside (∀ j:Nat,j<i->dZ j≠foldI b):=hno;clear hno;cases gk with
  | zero=>
    obtain rfl:i=16:=Zac;have hnx:=run_next_end (P:=Tryz.prog) w ⟨#[48,49,50,51,52,53,54,55,56,57,65,66,67,68,69,70]⟩ 16
    go_wp2
    go_ret2
    exact⟨by rw[tM HN.out];rfl,_,rfl⟩
  | succ g=>
    have hi:i<(⟨#[48,49,50,51,52,53,54,55,56,57,65,66,67,68,69,70]⟩:ByteArray).size:=by show i<16;omega
    have hfa:((((⟨#[48,49,50,51,52,53,54,55,56,57,65,66,67,68,69,70]⟩:ByteArray)[i]'hi).toNat:Nat):Int)=dZ i:=wV i hi;have hlt:((⟨#[48,49,50,51,52,53,54,55,56,57,65,66,67,68,69,70]⟩:ByteArray)[i]'hi).toNat<128:=Zb6
    have hnx:=fun ty=>run_next_ascii (P:=Tryz.prog) w ⟨#[48,49,50,51,52,53,54,55,56,57,65,66,67,68,69,70]⟩ i ty hi hlt;rw[hfa]at hnx;clear hlt hfa;cases hin:(dZ i==(b-32) % 256)
    · have HI:Aside ((dZ i==(b-32) % 256)=false):=hin
      go_wp2
      go_roundg g
      case measure=>omega
      case rel=>exact⟨i+1,Zac,rfl,fun j hj=>by
       by_cases e:j=i;subst e;rw[HF.out];exact beq_eq_false_iff_ne.1 HI.out;exact HN.out j Zac⟩
    have HI:Aside ((dZ i==(b-32) % 256)=true):=hin
    go_wp2
    go_ret2
    exact⟨Zb7,_,rfl⟩
theorem Mk(b:UInt8):PC Tryz.prog 186 [uN b.toNat] (fun r=>r=.tup [iV (max (cw b) 0),bV (decide (0<=cw b))]):=by
 refine⟨ew Tryz.func186 Zae Zae,fun w Pb cargs hP hargs=>?_⟩;obtain⟨r,rfl,h1⟩:=gY hargs;obtain rfl:=lG h1;have hb:=b.toNat_lt;have h:Calls Tryz.prog 186 #[.int .u8 b.toNat] w fun e w'=>e=.returned (.tuple #[.int .i64 (max (kF b.toNat) 0),.bool (decide (0<=kF b.toNat))])/\∃ pos,w'=w.iter ⟨#[48,49,50,51,52,53,54,55,56,57,65,66,67,68,69,70]⟩ pos:=by
  cases h1:decide ((97:Int)<=b.toNat);exact Lu _ Zac Zac h1 w;cases h2:decide ((b.toNat:Int)<=102);exact MC _ Zac Zac h1 h2 w;exact Hv _ Zac Zac h1 h2 w
 rw[Gw]at h;refine h.mono ?_;rintro e w' ⟨rfl,pos,rfl⟩;exact⟨_,_,[],Pb,rfl,rfl,rS rfl rfl,Zba,Zad,fun _ h=>h,fun _ h=>.inl h,⟨rfl,rfl,rfl,by simp[World.iter],fun k hk=>alloc_old w _ k hk⟩⟩
theorem Lj(b:UInt8):PF Tryz.prog 186 [uN b.toNat] [] (fun r h=>r=.tup [iV (max (cw b) 0),bV (decide (0<=cw b))]/\h=[]):=ig rfl rfl (Mk b)
end
def zt3:ZT Tryz.prog:=⟨3,iN 0,dR (cs:=[.int .i64 0]) Zae Zae⟩
def zt4:ZT Tryz.prog:=⟨4,bV false,dR (cs:=[.bool false]) Zae Zae⟩
def OU:ZT Tryz.prog:=⟨25,.sl true [],dR (cs:=[.slice none 0 0]) Zae Zae⟩
def fq:ZT Tryz.prog:=⟨28,.agg [sV [],iN 0,.sl true [],.sl true [],.sl true []],dR (cs:=[.string ⟨#[]⟩,.int .i64 0,.slice none 0 0,.slice none 0 0,.slice none 0 0]) Zae Zae⟩
def xl:ZT Tryz.prog:=⟨37,.agg [iN 0,sV [],iN 0],dR (cs:=[.int .i64 0,.string ⟨#[]⟩,.int .i64 0]) Zae Zae⟩
def fC:ZT Tryz.prog:=⟨40,.agg [.sl true [],.sl true [],iN 0],dR (cs:=[.slice none 0 0,.slice none 0 0,.int .i64 0]) Zae Zae⟩
def tV:ZT Tryz.prog:=⟨43,.agg [sV [],iN 0,bV false,.agg [.sl true [],.sl true [],iN 0],iN 0,.sl true []],dR (cs:=[.string ⟨#[]⟩,.int .i64 0,.bool false,.slice none 0 0,.slice none 0 0,.int .i64 0,.int .i64 0,.slice none 0 0]) Zae Zae⟩
def ox:ZT Tryz.prog:=⟨48,.agg [sV [],iN 0],dR (cs:=[.string ⟨#[]⟩,.int .i64 0]) Zae Zae⟩
def cK:ZT Tryz.prog:=⟨50,.agg [sV [],.sl true [],bV false,sV []],dR (cs:=[.string ⟨#[]⟩,.slice none 0 0,.bool false,.string ⟨#[]⟩]) Zae Zae⟩
def OJ:ZT Tryz.prog:=⟨73,.agg [.lit (.map none),.lit (.pointer none)],dR (cs:=[.map none,.pointer none]) Zae Zae⟩
def OS:ZT Tryz.prog:=⟨94,.agg [.sl true [],iN 0],dR (cs:=[.slice none 0 0,.int .i64 0]) Zae Zae⟩
def nn:ZT Tryz.prog:=⟨97,.agg [sV [],sV [],sV [],iN 0],dR (cs:=[.string ⟨#[]⟩,.string ⟨#[]⟩,.string ⟨#[]⟩,.int .i64 0]) Zae Zae⟩
def pV:ZT Tryz.prog:=⟨131,.agg [bV false,sV []],dR (cs:=[.bool false,.string ⟨#[]⟩]) Zae Zae⟩
def NQ:ZT Tryz.prog:=⟨148,.agg [.lit .nilFunc,.lit .nilFunc],dR (cs:=[.nilFunc,.nilFunc]) Zae Zae⟩
def Nq:ZT Tryz.prog:=⟨161,.agg [.lit .nilFunc,.lit .nilFunc,.lit .nilFunc],dR (cs:=[.nilFunc,.nilFunc,.nilFunc]) Zae Zae⟩
def Nz:ZT Tryz.prog:=⟨230,.agg [.sl true [],bV false],dR (cs:=[.slice none 0 0,.bool false]) Zae Zae⟩
def mu:ZT Tryz.prog:=⟨245,.agg [sV []],dR (cs:=[.string ⟨#[]⟩]) Zae Zae⟩
def Db:ZT Tryz.prog:=⟨247,.agg [.agg [bV false,sV []]],dR (cs:=[.bool false,.string ⟨#[]⟩]) Zae Zae⟩
def IV:ZT Tryz.prog:=⟨249,.agg [iN 0],dR (cs:=[.int .i64 0]) Zae Zae⟩
abbrev aw:=WD Tryz.prog
abbrev fZ:=Vv Tryz.prog
abbrev Pe:=Sc Tryz.prog
abbrev oU(s:BL)(c:UInt8):V:=.tup [sV ((ab c s).1),sV ((ab c s).2.1),bV ((ab c s).2.2)]
abbrev lv(s:BL)(c:UInt8)(i:Nat):Prop:=i<=s.length/\ab c s=(s.take i++(ab c (s.drop i)).1,(ab c (s.drop i)).2.1,(ab c (s.drop i)).2.2)
def iG(s:BL)(c:UInt8):aw:=.mk 128 [sV s,uN c.toNat] [] (s.length<=4611686018427387904) (oU s c) [] (by
 intro hs
 refine au Tryz.func128
  (.q 3<|.q 1<|.loop Nat (fun i=>⟨[(0,sV s),(1,uN c.toNat),(7,iN i)],[]⟩) (fun i=>lv s c i) (fun i=>s.length-i) (fun i=>.q 4<|.br (.q 5<|.br (.C6 8 []<|.l8 8<|.q 2<|.nil) (.q 3<|.nil)) (.q 4<|.nil)))
  ((∃ j7:Nat,(lv s c j7)/\E (sV s)/\E (uN c.toNat)/\Q (iN 0) (iN j7)/\True)/\∀ i:Nat,(lv s c i)->Br (r5 (i:Int) (s.length:Int)) (Ix (i:Int) s/\Br (o6 (((s.getD i 0).toNat:Nat):Int) (c.toNat:Int)) (Sx (0:Int) (i:Int) s/\m6 ((i:Int)+1)/\Sx ((i+1:Nat):Int) (s.length:Int) s/\Q (.tup [sV ((s.take i).drop ((0:Int).toNat)),sV ((s.take s.length).drop (i+1)),bV true]) (oU s c)) (m6 ((i:Int)+1)/\∃ b9:Nat,(lv s c b9)/\(s.length-b9<s.length-i)/\E (sV s)/\E (uN c.toNat)/\Q (iN (i+1)) (iN b9)/\True)) (Q (.tup [sV s,sV [],bV false]) (oU s c))) ?_
 refine⟨⟨0,?_,ak⟩,?_⟩;unfold lv;simp_all;rintro i ⟨hi,PU⟩;refine bI (fun j8=>?_) fun j8=>?_;refine ah (bI (fun l4=>?_) fun l4=>?_);refine aY ?_;unfold Q oU;have he:s.getD i 0=c:=UInt8.toNat_inj.1 (by exact_mod_cast l4);rw[PU,drop_cons (by omega:i<s.length) 0,ab,if_pos he];simp;refine ah ⟨i+1,?_,?_,ak⟩;unfold lv;refine ah ?_;have hne: ¬ s.getD i 0=c:=fun h=>l4 (by rw[h]);rw[PU,drop_cons (by omega:i<s.length) 0];simp only[ab,if_neg hne,aX (by omega:i<s.length) 0,List.append_assoc,List.cons_append,List.nil_append];exact Zak;unfold Q oU;have hl:s.length<=i:=Zac;rw[PU,Za8 hl,ab,Zaz hl];simp)
def di(n lo up:Int):aw:=.mk 43 [iV n,iV lo,iV up] [] True (bV (A6 n lo up)) [] (by
 intro _
 refine au Tryz.func43
  (.q 1<|.q 9<|.nil)
  (Pk (A9 n lo) ((A9 n lo)==true) true/\Q (bV ((A9 n lo)&&(E4 n up))) (bV (A6 n lo up))) ?_
 refine ah ?_;unfold Q;refine Zbm bV ?_;rw[Za6];simp[A6])
def ke(b:UInt8):aw:=.mk 130 [uN b.toNat] [] True (bV (ej b)) [] (by
 intro _
 refine au Tryz.func130
  (.q 1<|.q 23<|.nil)
  ((fun v1:Int=>(fun v2:Bool=>(Pk (A9 v1 97) ((A9 v1 97)==true) true/\Gd v2 (Pk (A9 v1 48) (v2&&((A9 v1 48)==true)) true)/\Pk ((A9 v1 97)&&(E4 v1 122)) true v2/\Pk (((A9 v1 97)&&(E4 v1 122))||((A9 v1 48)&&(E4 v1 57))) true ((((A9 v1 97)&&(E4 v1 122))||((A9 v1 48)&&(E4 v1 57)))==false)/\Pk ((((A9 v1 97)&&(E4 v1 122))||((A9 v1 48)&&(E4 v1 57)))||(o6 v1 46)) true (((((A9 v1 97)&&(E4 v1 122))||((A9 v1 48)&&(E4 v1 57)))||(o6 v1 46))==false)/\Q (bV (((((A9 v1 97)&&(E4 v1 122))||((A9 v1 48)&&(E4 v1 57)))||(o6 v1 46))||(o6 v1 45))) (bV (ej b)))) (((A9 v1 97)&&(E4 v1 122))==false)) (b.toNat:Int)) ?_
 refine eh ?_;unfold Q;refine Zbm bV ?_;rw[Za6];simp[ej];try omega)
def lD(b:UInt8):aw:=.mk 156 [uN b.toNat] [] True (bV (ej b)) [] (by
 intro _
 refine au Tryz.func156
  (.q 1<|.q 23<|.nil)
  ((fun v1:Int=>(fun v2:Bool=>(Pk (A9 v1 97) ((A9 v1 97)==true) true/\Gd v2 (Pk (A9 v1 48) (v2&&((A9 v1 48)==true)) true)/\Pk ((A9 v1 97)&&(E4 v1 122)) true v2/\Pk (((A9 v1 97)&&(E4 v1 122))||((A9 v1 48)&&(E4 v1 57))) true ((((A9 v1 97)&&(E4 v1 122))||((A9 v1 48)&&(E4 v1 57)))==false)/\Pk ((((A9 v1 97)&&(E4 v1 122))||((A9 v1 48)&&(E4 v1 57)))||(o6 v1 46)) true (((((A9 v1 97)&&(E4 v1 122))||((A9 v1 48)&&(E4 v1 57)))||(o6 v1 46))==false)/\Q (bV (((((A9 v1 97)&&(E4 v1 122))||((A9 v1 48)&&(E4 v1 57)))||(o6 v1 46))||(o6 v1 45))) (bV (ej b)))) (((A9 v1 97)&&(E4 v1 122))==false)) (b.toNat:Int)) ?_
 refine eh ?_;unfold Q;refine Zbm bV ?_;rw[Za6];simp[ej];try omega)
def jY(b:UInt8):aw:=.mk 214 [uN b.toNat] [] True (iV (cw b)) [] (by
 intro _
 refine au Tryz.func214
  (.q 1<|.q 7<|.br (.q 4<|.nil) (.q 7<|.br (.q 5<|.nil) (.q 7<|.br (.q 5<|.nil) (.q 1<|.nil))))
  ((fun v1:Int=>(Pk (A9 v1 48) ((A9 v1 48)==true) true/\Br ((A9 v1 48)&&(E4 v1 57)) (RI (v1-48)/\m6 (v1-48)/\Q (iV (v1-48)) (iV (cw b))) (Pk (A9 v1 97) ((A9 v1 97)==true) true/\Br ((A9 v1 97)&&(E4 v1 102)) (RI (v1-97)/\m6 (v1-97)/\m6 ((v1-97)+10)/\Q (iV ((v1-97)+10)) (iV (cw b))) (Pk (A9 v1 65) ((A9 v1 65)==true) true/\Br ((A9 v1 65)&&(E4 v1 70)) (RI (v1-65)/\m6 (v1-65)/\m6 ((v1-65)+10)/\Q (iV ((v1-65)+10)) (iV (cw b))) (Q (iV (-1)) (iV (cw b))))))) (b.toNat:Int)) ?_
 refine ah (bI (fun j8=>?_) fun j8=>?_)
 · refine⟨Zb8,Zb8,?_⟩;unfold Q;have:=b.toNat_lt;refine Zbm iV ?_;unfold cw;repeat (split <;> try omega)
 · refine ah (bI (fun l4=>?_) fun l4=>?_)
   · refine⟨Zb8,Zb8,Zb8,?_⟩;unfold Q;have:=b.toNat_lt;refine Zbm iV ?_;unfold cw;repeat (split <;> try omega)
   · refine ah (bI (fun m8=>?_) fun m8=>?_)
     · refine⟨Zb8,Zb8,Zb8,?_⟩;unfold Q;have:=b.toNat_lt;refine Zbm iV ?_;unfold cw;repeat (split <;> try omega)
     · unfold Q;have:=b.toNat_lt;refine Zbm iV ?_;unfold cw;repeat (split <;> try omega))
def og(s:BL):aw:=.mk 84 [sV s] [] (s.length<=4611686018427387904) (bV (cW s)) [] (by
 intro hs
 refine au Tryz.func84
  (.l8 2<|.loop Nat (fun i=>⟨[(0,sV s),(3,iN i)],[]⟩) (fun i=>i<=s.length/\∀ j,j<i->kG (s.getD j 0)=true) (fun i=>s.length-i) (fun i=>.q 4<|.br (.q 10<|.br (.q 1<|.nil) (.q 3<|.nil)) (.q 2<|.c (di (s.length:Int) (1:Int) (5:Int)) []<|.q 1<|.nil)))
  ((fun v1:Nat->Prop=>((∃ j7:Nat,(v1 j7)/\E (sV s)/\Q (iN 0) (iN j7)/\True)/\∀ i:Nat,(v1 i)->(fun v2:Int=>Br (r5 (i:Int) (s.length:Int)) (Ix (i:Int) s/\Gd ((r5 v2 97)==false) (Ix (i:Int) s)/\Pk (r5 v2 97) true ((r5 v2 97)==false)/\Br ((r5 v2 97)||(s6 v2 122)) (Q (bV false) (bV (cW s))) (m6 ((i:Int)+1)/\∃ b9:Nat,(v1 b9)/\(s.length-b9<s.length-i)/\E (sV s)/\Q (iN (i+1)) (iN b9)/\True)) ((di (s.length:Int) (1:Int) (5:Int)).sm/\(True)/\Q (bV (A6 (s.length:Int) (1:Int) (5:Int))) (bV (cW s)))) (((s.getD i 0).toNat:Nat):Int))) (fun j7:Nat=>j7<=s.length/\∀ j,j<j7->kG (s.getD j 0)=true)) ?_
 refine⟨⟨0,?_,ak⟩,?_⟩;simp_all;rintro i ⟨hi,R5⟩;refine bI (fun j8=>?_) fun j8=>?_;refine aY (bI (fun l4=>?_) fun l4=>?_);rw[show cW s=false from by unfold cW fT;rw[all_false (i:=i) (d:=0) Zac Zb9];rfl];refine ah ⟨i+1,?_,?_,ak⟩;refine ah (bg R5 ?_);simp only[kG,Zbk];omega;exact Zak;refine aS ?_;unfold Q;unfold cW;rw[show fT s=true from all_true (d:=0) fun j hj=>R5 j Zac];rw[Bool.true_and])
def jd(s:BL):aw:=.mk 44 [sV s] [] (s.length<=4611686018427387904) (bV (cB s)) [] (by
 intro hs
 refine au Tryz.func44
  (.l8 2<|.loop Nat (fun i=>⟨[(0,sV s),(3,iN i)],[]⟩) (fun i=>i<=s.length/\∀ j,j<i->kG (s.getD j 0)=true) (fun i=>s.length-i) (fun i=>.q 4<|.br (.q 10<|.br (.q 1<|.nil) (.q 3<|.nil)) (.q 2<|.c (di (s.length:Int) (1:Int) (8:Int)) []<|.q 1<|.nil)))
  ((fun v1:Nat->Prop=>((∃ j7:Nat,(v1 j7)/\E (sV s)/\Q (iN 0) (iN j7)/\True)/\∀ i:Nat,(v1 i)->(fun v2:Int=>Br (r5 (i:Int) (s.length:Int)) (Ix (i:Int) s/\Gd ((r5 v2 97)==false) (Ix (i:Int) s)/\Pk (r5 v2 97) true ((r5 v2 97)==false)/\Br ((r5 v2 97)||(s6 v2 122)) (Q (bV false) (bV (cB s))) (m6 ((i:Int)+1)/\∃ b9:Nat,(v1 b9)/\(s.length-b9<s.length-i)/\E (sV s)/\Q (iN (i+1)) (iN b9)/\True)) ((di (s.length:Int) (1:Int) (8:Int)).sm/\(True)/\Q (bV (A6 (s.length:Int) (1:Int) (8:Int))) (bV (cB s)))) (((s.getD i 0).toNat:Nat):Int))) (fun j7:Nat=>j7<=s.length/\∀ j,j<j7->kG (s.getD j 0)=true)) ?_
 refine⟨⟨0,?_,ak⟩,?_⟩;simp_all;rintro i ⟨hi,R5⟩;refine bI (fun j8=>?_) fun j8=>?_;refine aY (bI (fun l4=>?_) fun l4=>?_);rw[show cB s=false from by unfold cB fT;rw[all_false (i:=i) (d:=0) Zac Zb9];rfl];refine ah ⟨i+1,?_,?_,ak⟩;refine ah (bg R5 ?_);simp only[kG,Zbk];omega;exact Zak;refine aS ?_;unfold Q;unfold cB;rw[show fT s=true from all_true (d:=0) fun j hj=>R5 j Zac];rw[Bool.true_and])
def mo(s:BL):aw:=.mk 102 [sV s] [] (s.length<=4611686018427387904) (bV (fT s)) [] (by
 intro hs
 refine au Tryz.func102
  (.l8 2<|.loop Nat (fun i=>⟨[(0,sV s),(3,iN i)],[]⟩) (fun i=>i<=s.length/\∀ j,j<i->kG (s.getD j 0)=true) (fun i=>s.length-i) (fun i=>.q 4<|.br (.q 10<|.br (.q 1<|.nil) (.q 3<|.nil)) (.q 1<|.nil)))
  ((fun v1:Nat->Prop=>((∃ j7:Nat,(v1 j7)/\E (sV s)/\Q (iN 0) (iN j7)/\True)/\∀ i:Nat,(v1 i)->(fun v2:Int=>Br (r5 (i:Int) (s.length:Int)) (Ix (i:Int) s/\Gd ((r5 v2 97)==false) (Ix (i:Int) s)/\Pk (r5 v2 97) true ((r5 v2 97)==false)/\Br ((r5 v2 97)||(s6 v2 122)) (Q (bV false) (bV (fT s))) (m6 ((i:Int)+1)/\∃ b9:Nat,(v1 b9)/\(s.length-b9<s.length-i)/\E (sV s)/\Q (iN (i+1)) (iN b9)/\True)) (Q (bV true) (bV (fT s)))) (((s.getD i 0).toNat:Nat):Int))) (fun j7:Nat=>j7<=s.length/\∀ j,j<j7->kG (s.getD j 0)=true)) ?_
 refine⟨⟨0,?_,ak⟩,?_⟩;simp_all;rintro i ⟨hi,R5⟩;refine bI (fun j8=>?_) fun j8=>?_;refine aY (bI (fun l4=>?_) fun l4=>?_);rw[show fT s=false from by unfold fT;rw[all_false (i:=i) (d:=0) Zac Zb9]];refine ah ⟨i+1,?_,?_,ak⟩;refine ah (bg R5 ?_);simp only[kG,Zbk];omega;exact Zak;rw[show fT s=true from all_true (d:=0) fun j hj=>R5 j Zac])
def oh(s:BL):aw:=.mk 68 [sV s] [] (s.length<=4611686018427387904) (bV (cW s)) [] (by
 intro hs
 refine au Tryz.func68
  (.q 1<|.q 10<|.cg (mo s)<|.q 2<|.nil)
  ((fun v1:Int=>(Pk (A9 v1 1) ((A9 v1 1)==true) true/\Gd (((A9 v1 1)&&(E4 v1 5))==true) (((s.length<=4611686018427387904))/\(mo s).sm)/\Pk ((A9 v1 1)&&(E4 v1 5)) (((A9 v1 1)&&(E4 v1 5))==true) true/\Q (bV (((A9 v1 1)&&(E4 v1 5))&&(fT s))) (bV (cW s)))) (s.length:Int)) ?_
 refine ah ⟨fun hG=>⟨Zca,rfl⟩,ah ?_⟩;unfold Q;refine Zbm bV ?_;rw[Za6];simp[cW,A6,and_comm,and_assoc];try omega)
def pX(s:BL):aw:=.mk 53 [sV s] [] (s.length<=4611686018427387904) (bV (cB s)) [] (by
 intro hs
 refine au Tryz.func53
  (.q 1<|.q 10<|.cg (mo s)<|.q 2<|.nil)
  ((fun v1:Int=>(Pk (A9 v1 1) ((A9 v1 1)==true) true/\Gd (((A9 v1 1)&&(E4 v1 8))==true) (((s.length<=4611686018427387904))/\(mo s).sm)/\Pk ((A9 v1 1)&&(E4 v1 8)) (((A9 v1 1)&&(E4 v1 8))==true) true/\Q (bV (((A9 v1 1)&&(E4 v1 8))&&(fT s))) (bV (cB s)))) (s.length:Int)) ?_
 refine ah ⟨fun hG=>⟨Zca,rfl⟩,ah ?_⟩;unfold Q;refine Zbm bV ?_;rw[Za6];simp[cB,A6,and_comm,and_assoc];try omega)
end Go.Proofs.YtjkdagkclihpjaaGreatDoor