/-
  Words and walks for the laws of pedlar's seat: what each function of the program computes, and that it does; no conditions beyond those that each statement names.
-/
import Derived.Test.YtngholilfbdfkabGreatDoorGA
import Derived.Scope
import Derived.Laws.MakeOwn
import Derived.MapKept
import Derived.Test.YtngholilfbdfkabGreatDoorProg
import Derived.Shelf.Strings.OnBuilder
import Derived.Shelf.Strings.Search2
import Derived.Shelf.Strings.Search3
import Derived.Shelf.Strings.Count
import Derived.Shelf.Strings.SplitCore
import Derived.Shelf.Strings.IndexAnyAll
import Derived.Shelf.Slices.Turned
import Derived.Shelf.Slices.Clone
import Derived.Lib.Join
import Derived.Lib.IndexAny
import Derived.Lib.SplitLaws
import Derived.WalkKit
import Derived.Laws.RangeString
import Derived.Deep.LoopGhost
set_option linter.unusedVariables false
set_option linter.unusedSimpArgs false
set_option linter.unnecessarySimpa false
set_option linter.unusedSectionVars false
namespace Go.Proofs.YtngholilfbdfkabGreatDoor
open Go Go.RowKit
set_option maxRecDepth 20000
mutual
def V.RC(ρ:m7->m7):V->V
 | .hd r p sz g o lo n c=>.hd (ρ r) p sz g o lo n c
 | .ptr r p g o=>.ptr (ρ r) p g o
 | .agg vs=>.agg (V.yW ρ vs)
 | .tup vs=>.tup (V.yW ρ vs)
 | v=>v
def V.yW(ρ:m7->m7):List V->List V
 | []=>[]
 | v::vs=>v.RC ρ::V.yW ρ vs
end
def Yz:V->V
 | .tup _=>.c9
 | .gv _ _=>.c9
 | v=>v
def AS.tk(A:AS):List Operand->List V×AS
 | []=>([],A)
 | x::xs=>match (A.drop x).tk xs with
   | (vs,B)=>(Yz (A.ev x)::vs,B)
section
variable {w w':World} {Pb Kb Pb':Nat->Prop} {N:Nat} {A A' B:AS} {a:Act} {F:m7->List Nat} {P:Program} {ops:Array Oper}
mutual
theorem Kn(ρ:m7->m7):∀ (v:V) {cs F},R w Pb v cs F->R w Pb (v.RC ρ) cs F
 | .agg vs,_,_,h=>by simp only[R,V.RC]at h ⊢;exact wK ρ vs h
 | .tup _,_,_,h=>by simp[R]at h
 | .hd ..,_,_,h=>h
 | .ptr ..,_,_,h=>h
 | .gv _ _,_,_,h=>h
 | .lit _,_,_,h=>h
 | .sl ..,_,_,h=>h
 | .own ..,_,_,h=>h
 | .ow ..,_,_,h=>h
 | .om ..,_,_,h=>h
 | .mp _,_,_,h=>h
 | .ep _,_,_,h=>h
 | .c9,_,_,h=>h
theorem wK(ρ:m7->m7):∀ (vs:List V) {cs F},RL w Pb vs cs F->RL w Pb (V.yW ρ vs) cs F
 | [],_,_,h=>h
 | v::vs,_,_,h=>by
   obtain⟨c1,c2,F1,F2,rfl,rfl,h1,h2⟩:=h;exact⟨c1,c2,F1,F2,rfl,rfl,Kn ρ v h1,wK ρ vs h2⟩
end
theorem LJ(ρ:m7->m7){v:V}{x:Value}{F1:List Nat}(h:R5 w Pb v x F1):R5 w Pb (v.RC ρ) x F1:=by
 cases v with
 | agg us=>obtain⟨cs,rfl,h⟩:=h;exact⟨cs,rfl,wK ρ us h⟩
 | tup vs=>simp[R5,R]at h
 | _=>exact h
theorem CE(ρ:m7->m7):∀ (vs:List V) {xs F1},RVs w Pb vs xs F1->RVs w Pb (V.yW ρ vs) xs F1
 | [],_,_,h=>h
 | v::vs,xs,F1,h=>by
   obtain⟨x,xs',Fa,Fb,rfl,rfl,h1,h2⟩:=(wY (v::vs)).1 h;exact(wY (v.RC ρ::V.yW ρ vs)).2 ⟨x,xs',Fa,Fb,rfl,rfl,LJ ρ h1,CE ρ vs h2⟩
theorem Nd(ρ:m7->m7){v:V}{x:Value}{F1:List Nat}(h:RV w Pb v x F1):RV w Pb (v.RC ρ) x F1:=by
 cases v with
 | agg us=>obtain⟨cs,rfl,h⟩:=h;exact⟨cs,rfl,wK ρ us h⟩
 | tup us=>obtain⟨cs,rfl,h⟩:=h;exact⟨cs,rfl,CE ρ us h⟩
 | _=>exact h
def U9(w:World)(Pb:Nat->Prop):List V->List Value->List (List Nat)->Prop
 | [],[],[]=>True
 | v::vs,x::xs,F::Fs=>RV w Pb v x F/\U9 w Pb vs xs Fs
 | _,_,_=>False
theorem rH:∀ {vs us:List V} {xs ys:List Value} {Fs Gs:List (List Nat)},U9 w Pb vs xs Fs->U9 w Pb us ys Gs->U9 w Pb (vs++us) (xs++ys) (Fs++Gs)
 | [],_,[],_,[],_,_,h=>h
 | _::_,_,_::_,_,_::_,_,h,k=>⟨h.1,rH h.2 k⟩
 | [],_,_::_,_,_,_,h,_=>h.elim
 | [],_,[],_,_::_,_,h,_=>h.elim
 | _::_,_,[],_,_,_,h,_=>h.elim
 | _::_,_,_::_,_,[],_,h,_=>h.elim
theorem CG:∀ {vs:List V} {xs:List Value} {Fs:List (List Nat)},U9 w Pb vs xs Fs->xs.length=vs.length/\Fs.length=vs.length
 | [],[],[],_=>⟨rfl,rfl⟩
 | _::_,_::_,_::_,h=>by have:=CG h.2;simp[this.1,this.2]
 | [],_::_,_,h=>h.elim
 | [],[],_::_,h=>h.elim
 | _::_,[],_,h=>h.elim
 | _::_,_::_,[],h=>h.elim
theorem DD:∀ {vs:List V} {xs:List Value} {Fs:List (List Nat)} {i:Nat} {v:V} {x:Value},U9 w Pb vs xs Fs->vs[i]? =some v->xs[i]? =some x->RV w Pb v x (Fs.getD i [])
 | v::vs,x::xs,F::Fs,0,_,_,h,h1,h2=>by simp at h1 h2;subst h1 h2;exact h.1
 | v::vs,x::xs,F::Fs,i+1,_,_,h,h1,h2=>by simpa using DD (i:=i) h.2 (by simpa using h1) (by simpa using h2)
 | [],_,_,_,_,_,_,h1,_=>by simp at h1
 | _::_,[],_,_,_,_,h,_,_=>h.elim
 | _::_,_::_,[],_,_,_,h,_,_=>h.elim
theorem Hb:∀ {vs us:List V} {xs:List Value} {Fs:List (List Nat)},U9 w Pb vs xs Fs->U9 w Pb (QA vs us) xs Fs
 | [],us,[],[],_=>by simp only[QA];trivial
 | v::vs,[],_,_,h=>by simpa only[QA] using h
 | v::vs,u::us,x::xs,F::Fs,h=>⟨Ad u h.1,Hb h.2⟩
 | [],_,_::_,_,h=>h.elim
 | [],_,[],_::_,h=>h.elim
 | _::_,_::_,[],_,h=>h.elim
 | _::_,_::_,_::_,[],h=>h.elim
theorem sh:∀ (l:List Value),U9 w Pb (l.map cV) l (l.map fun _=>[])
 | []=>trivial
 | x::l=>⟨uh x,sh l⟩
theorem MO{v:V}{x:Value}{Fx:List Nat}(h:RV w Pb v x Fx):∃ Fy,RV w Pb (Yz v) x Fy/\(Fy=Fx\/Fy=[]):=by
 cases v with
 | tup _=>exact⟨[],rfl,.inr rfl⟩
 | gv _ _=>exact⟨[],rfl,.inr rfl⟩
 | _=>exact⟨Fx,h,.inl rfl⟩
theorem x2.tk:∀ (xs:List Operand) {A:AS} {F:m7->List Nat},x2 N Pb Kb A a w F->∃ Fl F',U9 w Pb (A.tk xs).1 (xs.map a.eval) Fl/\x2 N Pb Kb (A.tk xs).2 a w F'/\
 (∀ i,(Fl.getD i []).Nodup)/\(∀ i j,i≠j->∀ g,g∈Fl.getD i []->g ∉ Fl.getD j [])/\(∀ i r g,g∈Fl.getD i []->g ∉ F' r)/\(∀ i g,g∈Fl.getD i []->¬ Kb g/\g<w.heap.size)/\
 (∀ r g,g∈F' r->g∈F r)/\(∀ i g,g∈Fl.getD i []->∃ r,g∈F r)
 | [],A,F,hs=>⟨[],F,trivial,hs,Zad,Zad,Zad,Zad,fun _ _ h=>h,Zad⟩
 | x::xs,A,F,hs=>by
   obtain⟨Fx,F1,h1,h2,h3,h4,h5,h6,h7⟩:=hs.take x;obtain⟨Fl,F2,k1,k2,k3,k4,k5,k6,k7,k8⟩:=x2.tk xs h2;obtain⟨Fy,hy1,Ya⟩:=MO h1;have ZF:∀ g,g∈Fy->g∈Fx:=fun g hg=>by rcases Ya with rfl | rfl <;> simp_all
   have hyn:Fy.Nodup:=by rcases Ya with rfl | rfl <;> simp_all
   have hx:∀ i g,g∈Fy->g ∉ Fl.getD i []:=fun i g hg c=>by
    obtain⟨r,hr⟩:=k8 i g c;exact h4 r g (ZF g hg) hr
   refine⟨Fy::Fl,F2,⟨hy1,k1⟩,k2,fun i=>?_,fun i j hne g hg=>?_,fun i r g hg=>?_,fun i g hg=>?_,fun r g hg=>h6 r g (k7 r g hg),fun i g hg=>?_⟩;cases i with
   | zero=>exact hyn
   | succ i=>simpa using k3 i
   cases i with
   | zero=>
     cases j with
     | zero=>exact absurd rfl hne
     | succ j=>simpa using hx j g (by simpa using hg)
   | succ i=>
     cases j with
     | zero=>exact fun c=>hx i g (by simpa using c) (by simpa using hg)
     | succ j=>simpa using k4 i j Zac g (by simpa using hg)
   cases i with
   | zero=>exact fun c=>h4 r g (ZF g (by simpa using hg)) (k7 r g c)
   | succ i=>exact k5 i r g (by simpa using hg)
   cases i with
   | zero=>exact h5 g (ZF g (by simpa using hg))
   | succ i=>exact k6 i g (by simpa using hg)
   cases i with
   | zero=>exact h7 g (ZF g (by simpa using hg))
   | succ i=>
     obtain⟨r,hr⟩:=k8 i g (by simpa using hg);exact⟨r,h6 r g hr⟩
def RP(ks:List (Nat×Nat)):List (Nat×Nat):=ks.map fun p=>(p.2,p.1)
def kI(ks:List (Nat×Nat)):m7->m7
 | .key k=>match lk k ks with | some q=>.key q | none=>.key k
 | r=>r
def HA(ks:List (Nat×Nat))(H:List (Nat×(Nat×V))):List (Nat×(Nat×V))->List (Nat×(Nat×V)):=fun rest=>match ks with
 | []=>rest
 | (k,q)::r=>match lk k H with
   | some (g,v)=>(q,(g,v.RC (kI ks)))::HA r H rest
   | none=>HA r H rest
def news(ρ:m7->m7)(H:List (Nat×(Nat×V))):List (Nat×Nat)->List (Nat×(Nat×V))
 | []=>[]
 | (k,q)::r=>match lk k H with
   | some (g,v)=>(q,(g,v.RC ρ))::news ρ H r
   | none=>news ρ H r
def yl(ks:List (Nat×Nat))(h:List (Nat×(Nat×V))):List (Nat×(Nat×V)):=h.filter fun p=>(lk p.1 (RP ks)).isNone
theorem jl(ks:List (Nat×Nat)):∀ (h:List (Nat×(Nat×V))) (q:Nat),lk q (yl ks h)=if (lk q (RP ks)).isNone then lk q h else none
 | [],q=>by simp[yl,lk]
 | (k,v)::h,q=>by
   have ih:=jl ks h q;simp only[yl,List.filter_cons]at ih ⊢;by_cases hk:(lk k (RP ks)).isNone=true;rw[if_pos hk];simp only[lk];by_cases e:q=k;subst e;rw[if_pos rfl,if_pos rfl,if_pos hk];rw[if_neg e,if_neg e];exact ih;rw[if_neg hk,ih];simp only[lk];by_cases e:q=k;subst e;rw[if_neg hk,if_neg hk];rw[if_neg e]
theorem nT{α:Type}:∀ {l:List (Nat×α)} {q:Nat},q ∉ l.map (·.1)->lk q l=none
 | [],_,_=>rfl
 | (k,v)::l,q,h=>by
   simp only[Zbe,List.mem_cons,not_or]at h;simp only[lk];rw[if_neg h.1];exact nT h.2
theorem qT{ρ:m7->m7}{H:List (Nat×(Nat×V))}:∀ {ks:List (Nat×Nat)} {q:Nat},Qt (ks.map (·.2))=true->
 lk q (news ρ H ks)=(lk q (RP ks)).bind fun k=>(lk k H).map fun gv=>(gv.1,gv.2.RC ρ)
 | [],q,_=>rfl
 | (k,q0)::ks,q,h=>by
   simp only[Zbe,Qt,Zao,Bool.not_eq_true',Zbi,decide_eq_false_iff_not]at h;have ih:=qT (ρ:=ρ) (H:=H) (ks:=ks) (q:=q) h.2;simp only[news,RP,Zbe,lk];by_cases e:q=q0;subst e;rw[if_pos rfl];simp only[Option.bind_some];cases hk:lk k H with
   | some gv=>simp only[lk,if_true,Option.map_some]
   | none=>
     simp only[Option.map_none];rw[ih,nT];rfl;simp only[RP,List.map_map,Function.comp_def];exact h.1
   rw[if_neg e];cases hk:lk k H with
   | some gv=>simp only[lk];rw[if_neg e];exact ih
   | none=>exact ih
def AS.back(A:AS)(ks:List (Nat×Nat))(H:List (Nat×(Nat×V))):AS:=⟨A.t,news (kI ks) H ks++yl ks A.h⟩
theorem mB{α:Type}(t:Nat)(l1 l2:List (Nat×α)):lk t (l1++l2)=match lk t l1 with | some v=>some v | none=>lk t l2:=HE t l1 l2
def mw(B:AS)(ks:List (Nat×Nat)):List (Nat×(Nat×V))->Prop
 | []=>True
 | (k,(g,v))::r=>(match lk k ks with | some q=>(match lk q B.h with | some (g',v')=>(g',wk v' v)=(g,v) | none=>False) | none=>False)/\mw B ks r
theorem wy{B:AS}{ks:List (Nat×Nat)}:∀ {H:List (Nat×(Nat×V))} {k g:Nat} {v:V},mw B ks H->lk k H=some (g,v)->∃ q v',lk k ks=some q/\lk q B.h=some (g,v')/\wk v' v=v
 | [],_,_,_,_,h=>by simp[lk]at h
 | (k0,(g0,v0))::H,k,g,v,h,e=>by
   simp only[lk]at e;split at e;rename_i e';subst e';cases e;have h1:=h.1;split at h1;rename_i q hq;split at h1;rename_i g' v' hq';simp only[Zaq]at h1;exact⟨q,v',hq,by rw[hq',h1.1],h1.2⟩;exact h1.elim;exact h1.elim;exact wy h.2 e
theorem wU{α:Type}:∀ {l:List (Nat×α)} {k:Nat} {v:α},lk k l=some v->(k,v)∈l
 | [],_,_,h=>by simp[lk]at h
 | (k0,v0)::l,k,v,h=>by
   simp only[lk]at h;split at h;rename_i e;subst e;cases h;simp;exact List.mem_cons_of_mem _ (wU h)
theorem pM{α:Type}:∀ {l:List (Nat×α)} {k:Nat} {v:α},Qt (l.map (·.1))=true->(k,v)∈l->lk k l=some v
 | (k0,v0)::l,k,v,h,hm=>by
   simp only[Zbe,Qt,Zao,Bool.not_eq_true',Zbi,decide_eq_false_iff_not]at h;simp only[lk];rcases List.mem_cons.1 hm with e | hm;cases e;rw[if_pos rfl];have hne:k≠k0:=fun c=>h.1 (by rw[<- c];exact List.mem_map.2 ⟨_,hm,rfl⟩);rw[if_neg hne];exact pM h.2 hm
theorem qo{ks:List (Nat×Nat)}{k q:Nat}(h1:Qt (ks.map (·.1))=true)(h2:Qt (ks.map (·.2))=true):lk k ks=some q↔lk q (RP ks)=some k:=by
 have e:(RP ks).map (·.1)=ks.map (·.2):=by simp[RP,List.map_map,Function.comp_def]
 constructor;intro h;refine pM (by rw[e];exact h2) ?_;exact List.mem_map.2 ⟨(k,q),wU h,rfl⟩;intro h;have hm:=wU h;simp only[RP,List.mem_map,Zaq]at hm;obtain⟨⟨x,y⟩,hm,e1,e2⟩:=hm;simp only at e1 e2;subst e1 e2;exact pM h1 hm
open Classical in
theorem pJ{o:Oper} {K:AS->Prop} {f:FuncId} {fx:Operand} {xs:Array Operand} {Pt:Array TypeId} {first C6:Array Value} {args:List V} {H:List (Nat×(Nat×V))}
 {Q:V->List (Nat×(Nat×V))->Prop} (ks:List (Nat×Nat)) (ho:o.op=.call { callee:=.value fx,args:=xs,argTypes:=Pt }) (hfx:A.ev fx=.lit (.func (.func f) first C6))
 (hd:dh N o.dst) (Tm:Qt (ks.map (·.1))=true) (PR:Qt (ks.map (·.2))=true) (hc:PF P f args H Q)
 (hargs:QA (first.toList.map cV++(A.tk xs.toList).1++C6.toList.map cV) args=args) (hlen:args.length=(first.toList.map cV++(A.tk xs.toList).1++C6.toList.map cV).length)
 (S7:mw (A.tk xs.toList).2 ks H)
 (hK:∀ r H',Q r H'->K (((A.tk xs.toList).2.back ks H').put o.dst (r.RC (kI ks)))):J1 P N o A K:=by
 intro Pb Kb a w F Q' hs;have hfv:=cy hs hfx;unfold Oper.wp;have C9:(execOp a.eval o).run P w=.ok (.enter f (first++xs.map a.eval++C6)) w:=by
  simp only[execOp,ho,resolve,hfv,Deferred.ofValue,Za0,Za1,Zas,invoke];exact hc.1 _ w
 rw[C9,Oper.upon_enter];obtain⟨Fl,F2,k1,k2,k3,k4,k5,k6,k7,k8⟩:=hs.tk xs.toList
 let B:=(A.tk xs.toList).2
 have hle:(⟨B.t,yl ks B.h⟩:AS).le B:=⟨fun _=>.inr rfl,fun q=>by
  simp only[jl];split;exact .inr rfl;exact .inl rfl⟩
 let F3:m7->List Nat:=fun r=>match r with
  | .slot i=>F2 (.slot i)
  | .key q=>if (lk q (RP ks)).isNone then F2 (.key q) else []
 have VQ:∀ r g,g∈F3 r->g∈F2 r:=fun r g hg=>by
  cases r with
  | slot i=>exact hg
  | key q=>simp only[F3]at hg;split at hg;exact hg;simp at hg
 have P6:x2 N Pb Kb ⟨B.t,yl ks B.h⟩ a w F3:=by
  refine⟨k2.size,k2.defers,k2.slot,fun q g v hq=>?_,fun r r' hne g hg c=>k2.cM r r' hne g (VQ r g hg) (VQ r' g c),fun r=>?_,fun r g hg=>k2.free r g (VQ r g hg),k2.sub,k2.bound⟩;simp only[jl]at hq;split at hq;rename_i hn;obtain⟨F',e,hA⟩:=k2.root q g v hq;exact⟨F',by simp only[F3];rw[if_pos hn];exact e,hA⟩;simp at hq;cases r with
  | slot i=>exact k2.nodup _
  | key q=>simp only[F3];split;exact k2.nodup _;exact Zba
 let Kc:Nat->Prop:=fun g=>Kb g\/∃ r,g∈F3 r
 let FL:=first.toList.map (fun _=>([]:List Nat))++Fl++C6.toList.map (fun _=>([]:List Nat))
 have hFl:U9 w Pb (first.toList.map cV++(A.tk xs.toList).1++C6.toList.map cV) (first.toList++xs.toList.map a.eval++C6.toList) FL:=
  rH (rH (sh _) k1) (sh _)
 have Zl:∀ i g,g∈FL.getD i []->∃ j,FL.getD i []=Fl.getD j []/\i=first.toList.length+j:=by
  intro i g hg;simp only[FL,Zam,List.append_assoc]at hg ⊢;by_cases h1:i<first.toList.length
  rw[Za9 Zbz,List.getElem?_map]at hg;cases he:first.toList[i]? <;> rw[he]at hg <;> simp at hg
  have XK:i=first.toList.length+(i-first.toList.length):=Zac
  rw[Za4 Zbz]at hg ⊢;simp only[Zay]at hg ⊢;by_cases h2:i-first.toList.length<Fl.length
  rw[Za9 h2];exact⟨_,rfl,XK⟩;rw[Za4 Zac,List.getElem?_map]at hg;cases he:C6.toList[i-first.toList.length-Fl.length]? <;> rw[he]at hg <;> simp at hg
 let FC:m7->List Nat:=fun r=>match r with
  | .slot i=>FL.getD i []
  | .key k=>match lk k ks with
    | some q=>if lk k H=none then [] else F2 (.key q)
    | none=>[]
 have hFC:∀ r g,g∈FC r->(∃ i j,r=.slot i/\g∈Fl.getD j []/\i=first.toList.length+j)\/(∃ k q,r=.key k/\lk k ks=some q/\g∈F2 (.key q)):=by
  intro r g hg;cases r with
  | slot i=>
    obtain⟨j,e,hj⟩:=Zl i g hg;exact .inl ⟨i,j,rfl,by rw[<- e];exact hg,hj⟩
  | key k=>
    simp only[FC]at hg;split at hg;rename_i q hq;split at hg;simp at hg;exact .inr ⟨k,q,rfl,hq,hg⟩;simp at hg
 have hF3q:∀ k q,lk k ks=some q->∀ r g,g∈F2 (.key q)->g ∉ F3 r:=by
  intro k q hq r g hg c;cases r with
  | slot i=>exact k2.cM (.key q) (.slot i) Zad g hg c
  | key q'=>
    simp only[F3]at c;split at c;rename_i hn;have hne:(m7.key q)≠.key q':=fun e=>by
     cases e;rw[(qo Tm PR).1 hq]at hn;simp at hn
    exact k2.cM _ _ hne g hg c;simp at c
 have VP:∀ r g,g∈FC r->¬ Kc g/\g<w.heap.size:=by
  intro r g hg;rcases hFC r g hg with ⟨i,j,_,h,_⟩ | ⟨k,q,_,hq,h⟩;refine⟨fun c=>?_,(k6 j g h).2⟩;rcases c with c | ⟨r',c⟩;exact(k6 j g h).1 c;exact k5 j r' g h (VQ r' g c);refine⟨fun c=>?_,(k2.free _ g h).2⟩;rcases c with c | ⟨r',c⟩;exact(k2.free _ g h).1 c;exact hF3q k q hq r' g h c
 have hi:Z1 w Pb Kc args (first.toList++xs.toList.map a.eval++C6.toList) H FC:=by
  have hl:=CG hFl;have hFw:=Hb (us:=args) hFl;rw[hargs]at hFw;refine⟨by rw[hl.1,hlen],fun i v x hv hx=>DD hFw hv hx,fun k g v Y9=>?_,fun i Za=>?_,fun r r' hne g hg c=>?_,fun r=>?_,VP,fun g hg=>.inl (k2.sub g hg),fun g hg=>?_⟩;obtain⟨q,v',h1,h2,h3⟩:=wy S7 Y9;obtain⟨F',e,hA⟩:=k2.root q g v' h2;refine⟨F',?_,by have:=Fw v hA;rw[h3]at this;exact this⟩;simp only[FC,h1];rw[if_neg (by rw[Y9];simp)];exact e;simp only[FC];rw[Zam,List.getElem?_eq_none (by rw[hl.2,<- hlen];exact Za)];rfl;rcases hFC r g hg with ⟨i,j,e1,h,e1'⟩ | ⟨k,q,e1,hq,h⟩ <;> rcases hFC r' g c with ⟨i',j',e2,h',Yn⟩ | ⟨k',q',e2,hq',h'⟩;refine k4 j j' (fun e=>hne ?_) g h h';rw[e1,e2,e1',Yn,e];exact k5 j (.key q') g h h';exact k5 j' (.key q) g h' h;have hqq:q=q':=Classical.byContradiction fun hqq=>k2.cM (.key q) (.key q') (fun e=>hqq (by cases e;rfl)) g h h';subst hqq;have:=(qo Tm PR).1 hq;rw[(qo Tm PR).1 hq']at this;cases this;exact hne (by rw[e1,e2]);cases r with
  | slot i=>
    by_cases he:FL.getD i []=[];simp only[FC];rw[he];exact Zba;obtain⟨g,hg⟩:=List.exists_mem_of_ne_nil _ he;obtain⟨j,e,_⟩:=Zl i g hg;simp only[FC];rw[e];exact k3 j
  | key k=>
    simp only[FC];split;split;exact Zba;exact k2.nodup _;exact Zba
  rcases hg with h | ⟨r,h⟩;exact k2.bound g h;exact(P6.free r g h).2
 have Pn:=hc.2 w Pb Kc _ FC hi;have e:(first.toList++xs.toList.map a.eval++C6.toList).toArray=first++xs.map a.eval++C6:=by
  apply Array.ext';simp
 rw[e]at Pn;refine Pn.mono ?_;rintro e w' ⟨r,x,H',Pb',I4,F',rfl,hq,hf⟩;have Tl:B6 Kb w w':=⟨hf.fC.os,hf.fC.tape,hf.fC.output,hf.fC.size,fun g hg=>hf.fC.block g (.inl hg),hf.fC.shape⟩
 let K2:Nat->Prop:=fun g=>Kb g\/(I4 g/\¬ ∃ r,g∈F3 r)
 have hP3:∀ r g,g∈F3 r->¬ Pb' g:=fun r g hg c=>by
  rcases hf.Ul g c with h | h;exact(P6.free r g hg).1 (P6.sub g h);exact h (.inr ⟨r,hg⟩)
 have YO:∀ g,Pb' g->K2 g:=fun g hg=>by
  rcases hf.Ul g hg with h | h;exact .inl (P6.sub g h);exact .inr ⟨hf.sub g hg,fun⟨r,c⟩=>h (.inr ⟨r,c⟩)⟩
 have Rj:∀ r g,g∈F' r->(¬ K2 g/\g<w'.heap.size)/\∀ r',g ∉ F3 r':=fun r g hg=>by
  have h:=hf.free r g hg;refine⟨⟨fun c=>?_,h.2⟩,fun r' c=>h.1 (hf.mK g (.inr ⟨r',c⟩))⟩;rcases c with c | c;exact h.1 (hf.mK g (.inl c));exact h.1 c.1
 let F4:m7->List Nat:=fun r=>match r with
  | .slot i=>F3 (.slot i)
  | .key q=>match lk q (RP ks) with
    | some k=>if lk k H'=none then [] else F' (.key k)
    | none=>F3 (.key q)
 have ZV:∀ r g,g∈F4 r->g∈F3 r\/∃ q k,r=.key q/\lk q (RP ks)=some k/\g∈F' (.key k):=fun r g hg=>by
  cases r with
  | slot i=>exact .inl hg
  | key q=>
    simp only[F4]at hg;split at hg;rename_i k hk;split at hg;simp at hg;exact .inr ⟨q,k,rfl,hk,hg⟩;exact .inl hg
 have hs4:x2 N Pb' K2 (B.back ks H') a w' F4:=by
  refine⟨P6.size,P6.defers,fun i=>?_,fun q g v hq=>?_,fun r r' hne g hg c=>?_,fun r=>?_,fun r g hg=>?_,YO,fun g hg=>?_⟩;exact oo _ (P6.slot i) (fun g hg=>hf.fC.block g (.inl (P6.sub g hg))) (fun g hg=>hf.fC.block g (.inr ⟨.slot i,hg⟩)) hf.mP (fun g hg=>hP3 (.slot i) g hg);simp only[AS.back,mB,qT PR]at hq;cases YN:lk q (RP ks) with
  | some k=>
    rw[YN]at hq;simp only[Option.bind_some]at hq;cases ZM:lk k H' with
    | some gv=>
      rw[ZM]at hq;simp only[Option.map_some,Zan,Zaq]at hq;obtain⟨g0,v0⟩:=gv;obtain⟨rfl,rfl⟩:=hq;obtain⟨F1,e1,cs,cells,hb,hr,Po⟩:=hf.root k g0 v0 ZM;exact⟨F1,by simp only[F4,YN];rw[if_neg (by rw[ZM];simp)];exact e1,cs,cells,hb,Kn _ _ hr,Po⟩
    | none=>
      rw[ZM]at hq;simp only[Option.map_none]at hq;rw[jl,YN]at hq;simp at hq
  | none=>
    rw[YN]at hq;simp only[Option.bind_none]at hq;obtain⟨F1,e1,hA⟩:=P6.root q g v hq;refine⟨F1,by simp only[F4,YN];exact e1,?_⟩;obtain⟨cs,cells,⟨el,fr,hb,hfr⟩,hr,Po⟩:=hA;have hin:∀ y,y∈g::F1->w'.heap[y]? =w.heap[y]? :=fun y hy=>hf.fC.block y (.inr ⟨.key q,by rw[e1];exact hy⟩);exact⟨cs,cells,⟨el,fr,(hin g Zad).trans hb,hfr⟩,hY _ hr (fun y hy=>hf.fC.block y (.inl (P6.sub y hy))) (fun y hy=>hin y (by simp[hy])) hf.mP (fun y hy=>hP3 (.key q) y (by rw[e1];simp[hy])),Po⟩
  rcases ZV r g hg with h | ⟨q,k,e1,h1,h2⟩ <;> rcases ZV r' g c with h' | ⟨q',k',e2,Vh,ZW⟩;exact P6.cM r r' hne g h h';exact(Rj _ g ZW).2 r h;exact(Rj _ g h2).2 r' h';have XF:k=k':=Classical.byContradiction fun XF=>hf.cM (.key k) (.key k') (fun e=>XF (by cases e;rfl)) g h2 ZW;subst XF;have e3:=(qo Tm PR).2 h1;rw[(qo Tm PR).2 Vh]at e3;cases e3;exact hne (by rw[e1,e2]);cases r with
  | slot i=>exact P6.nodup (.slot i)
  | key q=>
    simp only[F4];split;split;exact Zba;exact hf.nodup _;exact P6.nodup (.key q)
  rcases ZV r g hg with h | ⟨q,k,_,_,h2⟩;have h3:=P6.free r g h;refine⟨fun c=>?_,Nat.lt_of_lt_of_le h3.2 hf.fC.size⟩;rcases c with c | c;exact h3.1 c;exact c.2 ⟨r,h⟩;exact(Rj _ g h2).1;rcases hg with h | h;exact Nat.lt_of_lt_of_le (P6.bound g h) hf.fC.size;exact hf.bound g h.1
 have US:∀ A' a' F5,K A'->x2 N Pb' K2 A' a' w' F5->Nx N Pb Kb w K a' w':=fun A' a' F5 hk Xt=>
  ⟨A',Pb',K2,F5,hk,Xt,hf.mP,fun g hg=>.inl hg,fun g hg=>by
   rcases hf.Ul g hg with h | h;exact .inl h;exact .inr fun c=>h (.inl c),Tl⟩
 cases PX:o.dst with
 | none=>exact US _ _ F4 (hK r H' hq) (by rw[PX];exact hs4)
 | some d=>
   rw[PX]at hd;refine US _ _ (cK F4 (.slot d) (F' (.slot 0))) (hK r H' hq) ?_;rw[PX];refine hs4.put hd (Nd _ hf.val) (fun rt _ g hg c=>?_) (hf.nodup _) (fun g hg=>(Rj _ g hg).1);rcases ZV rt g c with h | ⟨q,k,_,_,h2⟩;exact(Rj _ g hg).2 rt h;exact hf.cM (.slot 0) (.key k) Zad g hg h2
end
section
variable {w w':World} {Pb Kb Pb':Nat->Prop} {N:Nat} {A A' A1 B:AS} {a:Act} {F:m7->List Nat} {P:Program} {ops:Array Oper}
theorem vL:∀ (vs:List V) {cs F} {j:Nat} {x:V},RL w Pb vs cs F->vs[j]? =some x->∃ cj Fj,R w Pb x cj Fj/\(∀ i u,cj[i]? =some u->cs[V.ns (vs.take j)+i]? =some u)/\
 ∀ x',R w Pb x' cj Fj->RL w Pb (vs.set j x') cs F
 | [],_,_,_,_,_,h=>by simp at h
 | v::vs,cs,F,0,x,h,hj=>by
   obtain⟨c1,c2,F1,F2,rfl,rfl,h1,h2⟩:=h;simp at hj;subst hj;exact⟨c1,F1,h1,fun i u hu=>by simp only[List.take_zero,V.ns,Zaw];rw[Za9 (Za3.1 hu).1];exact hu,fun x' hx=>⟨c1,c2,F1,F2,rfl,rfl,hx,h2⟩⟩
 | v::vs,cs,F,j+1,x,h,hj=>by
   obtain⟨c1,c2,F1,F2,rfl,rfl,h1,h2⟩:=h;obtain⟨cj,Fj,k1,k2,k3⟩:=vL vs h2 Zbp;refine⟨cj,Fj,k1,fun i u hu=>?_,fun x' hx=>⟨c1,c2,F1,F2,rfl,rfl,h1,k3 x' hx⟩⟩;have:=k2 i u hu;simp only[List.take_succ_cons,V.ns];rw[<- eX v h1,Zbj,Za4 Zac];rw[show c1.length+(V.ns (vs.take j)+i)-c1.length=V.ns (vs.take j)+i from Zac];exact this
theorem uB:∀ (p:List Nat) {v u:V} {g o g' o':Nat} {cs:List Value} {F:List Nat},R w Pb v cs F->V.at g o v p=some (g',o',u)->
 ∃ cu Fu,R w Pb u cu Fu/\∀ u',u'.n=u.n->R w Pb u' cu Fu->R w Pb (v.set p u') cs F/\(v.set p u').n=v.n
 | [],v,u,g,o,g',o',cs,F,h,e=>by
   simp only[V.at,Zan,Zaq]at e;obtain⟨rfl,rfl,rfl⟩:=e;exact⟨cs,F,h,fun u' hn hu=>⟨hu,hn⟩⟩
 | j::p,v,u,g,o,g',o',cs,F,h,e=>by
   simp only[V.at]at e;split at e;rename_i vs;split at e;rename_i x hx;simp only[R]at h;obtain⟨cj,Fj,k1,k2,k3⟩:=vL vs h hx;obtain⟨cu,Fu,m1,m2⟩:=uB p k1 e;refine⟨cu,Fu,m1,fun u' hn hu=>?_⟩;obtain⟨q1,q2⟩:=m2 u' hn hu;have h3:=k3 _ q1;refine⟨by simp only[V.set,hx,R];exact h3,?_⟩;simp only[V.set,hx,V.n];rw[<- jK _ h3,<- jK _ h];simp at e;rename_i sz xs g1 o1 c1;split at e;rename_i x hx;rcases h with ⟨_,rfl,_⟩ | ⟨h1,h2,h3,h4,h5,h6,flat,F',cells,h7,hr,hb,hsz,hc⟩;simp at hx;obtain⟨cj,Fj,k1,k2,k3⟩:=vL xs hr hx;obtain⟨cu,Fu,m1,m2⟩:=uB p k1 e;refine⟨cu,Fu,m1,fun u' hn hu=>?_⟩;obtain⟨q1,q2⟩:=m2 u' hn hu;refine⟨?_,by simp only[V.set,hx];rfl⟩;simp only[V.set,hx];refine .inr ⟨h1,h2,by simpa using h3,by simpa using h4,fun y hy=>?_,h6,flat,F',cells,h7,k3 _ q1,hb,hsz,hc⟩;rcases List.mem_or_eq_of_mem_set hy with h | h;exact h5 y h;rw[h,q2];exact h5 x (Za7 hx);simp at e;simp at e
theorem x2.uD(hs:x2 N Pb Kb A a w F){r:m7}{p:List Nat}{g o:Nat}{u:V}(C4:A.at r p=some (g,o,u)):
 ∃ cu Fu,R w Pb u cu Fu/\∀ u',u'.n=u.n->R w Pb u' cu Fu->x2 N Pb Kb (A.setAt r p u') a w F:=by
 cases r with
 | key k=>
   simp only[AS.at]at C4;split at C4;rename_i g0 t hk;obtain⟨F0,hF,cs,cells,hb,hr,hc⟩:=hs.root k g0 t hk;obtain⟨cu,Fu,h1,h2⟩:=uB p hr C4;refine⟨cu,Fu,h1,fun u' hn hu=>⟨hs.size,hs.defers,fun i=>?_,fun k' g1 v1 RX=>?_,hs.cM,hs.nodup,hs.free,hs.sub,hs.bound⟩⟩;have:(A.setAt (.key k) p u').get i=A.get i:=by simp only[AS.setAt,hk];rfl
   rw[this];exact hs.slot i;simp only[AS.setAt,hk,lk]at RX;split at RX;rename_i e;subst e;simp only[Zan,Zaq]at RX;obtain⟨rfl,rfl⟩:=RX;exact⟨F0,hF,cs,cells,hb,(h2 u' hn hu).1,hc⟩;exact hs.root k' g1 v1 RX;simp at C4
 | slot i=>
   simp only[AS.at]at C4;split at C4;rename_i sz xs g0 o0 c0 j p' hg;have hr:=hs.slot i;rw[hg]at hr;have hr:R w Pb (.own sz xs g0 o0 c0) [a.tmps.getD i undef] (F (.slot i)):=hr;obtain⟨cu,Fu,h1,h2⟩:=uB (j::p') hr C4;refine⟨cu,Fu,h1,fun u' hn hu=>⟨hs.size,hs.defers,fun t=>?_,hs.root,hs.cM,hs.nodup,hs.free,hs.sub,hs.bound⟩⟩;by_cases e:t=i;subst e;simp only[AS.setAt,AS.get,lk,if_true,Option.getD_some];have h3:=(h2 u' hn hu).1;have e2:(A.get t).set (j::p') u'=(V.own sz xs g0 o0 c0).set (j::p') u':=by rw[hg]
   have e3:∃ ys,(V.own sz xs g0 o0 c0).set (j::p') u'=.own sz ys g0 o0 c0:=by
    simp only[V.set];split;exact⟨_,rfl⟩;exact⟨_,rfl⟩
   obtain⟨ys,e3⟩:=e3;show RV w Pb ((A.get t).set (j::p') u') _ _;rw[e2,e3];rw[e3]at h3;exact h3;simp only[AS.setAt,AS.get,lk];rw[if_neg e];exact hs.slot t;simp at C4
theorem Ma{K:AS->Prop}(t sz:Nat)(ht:t<N)(hg:A.get t=.sl true [])(h:K (A.put (some t) (.own sz [] 0 0 0))):Hx N A K:=
 Hx.simple h fun Pb Kb a w F hs=>by
  have hr:=hs.slot t;rw[hg]at hr;obtain⟨hF,B,cc,hv,_,Sy,_⟩:=hr;have SC:cc=0:=Sy rfl;subst SC;exact⟨_,hs.By ht (.inl ⟨rfl,rfl,hF,B,hv⟩)⟩
theorem AR{K:AS->Prop}{r:m7}{p:List Nat}{g o sz:Nat}(C4:A.at r p=some (g,o,.sl true []))(h:K (A.setAt r p (.own sz [] 0 0 0))):Hx N A K:=
 Hx.simple h fun Pb Kb a w F hs=>by
  obtain⟨cu,Fu,hr,hk⟩:=hs.uD C4;obtain⟨hF,B,cc,hv,_,Sy,_⟩:=hr;have SC:cc=0:=Sy rfl;subst SC;exact⟨_,hk (.own sz [] 0 0 0) rfl (.inl ⟨rfl,rfl,hF,B,hv⟩)⟩
theorem CP{K:AS->Prop}{t sz:Nat}{xs:List V}(ht:t<N)(hg:A.get t=.ow sz xs)(h:∀ g o c,K (A.put (some t) (.own sz xs g o c))):Hx N A K:=fun Pb Kb a w F hs=>by
 have hr:=hs.slot t;rw[hg]at hr;have hr:R w Pb (.ow sz xs) [a.tmps.getD t undef] (F (.slot t)):=hr;obtain⟨g,o,c,hr⟩:=Is.1 hr;exact⟨_,Pb,Kb,_,h g o c,hs.By ht hr,fun _ h=>h,fun _ h=>h,fun _ h=>.inl h⟩
theorem sw{K:AS->Prop}{r:m7}{p:List Nat}{g o sz:Nat}{xs:List V}(C4:A.at r p=some (g,o,.ow sz xs))(h:∀ g o c,K (A.setAt r p (.own sz xs g o c))):Hx N A K:=fun Pb Kb a w F hs=>by
 obtain⟨cu,Fu,h1,h2⟩:=hs.uD C4;obtain⟨g,o,c,hr⟩:=Is.1 h1;exact⟨_,Pb,Kb,_,h g o c,h2 _ rfl hr,fun _ h=>h,fun _ h=>h,fun _ h=>.inl h⟩
theorem Gy{K:AS->Prop}{r:m7}{p:List Nat}{g o:Nat}{u:V}(u':V)(C4:A.at r p=some (g,o,u))(hn:(wk u u').n=u.n)(h:K (A.setAt r p (wk u u'))):Hx N A K:=fun Pb Kb a w F hs=>by
 obtain⟨cu,Fu,h1,h2⟩:=hs.uD C4;exact⟨_,Pb,Kb,_,h,h2 _ hn (ry u u' h1),fun _ h=>h,fun _ h=>h,fun _ h=>.inl h⟩
theorem NW{K:AS->Prop}{t:Nat}(u:V)(ht:t<N)(h:K (A.put (some t) (wk (A.get t) u))):Hx N A K:=
 Hx.simple h fun _ _ _ _ _ hs=>⟨_,hs.By ht (Ad u (hs.slot t))⟩
theorem Jr{K:AS->Prop} {t i sz n g o c:Nat} {xs:List V} (ht:t<N) (hi:i<N) (Vc:t≠i) (h1:A.get t=.hd (.slot i) [] sz g o 0 n c) (h2:A.get i=.own sz xs g o c) (hn:n=xs.length)
 (h:K ((A.put (some i) .c9).put (some t) (.own sz xs g o c))):Hx N A K:=
 Hx.simple h fun _ _ _ _ _ hs=>hs.gi ht hi Vc h1 h2 hn
theorem Hs{K:AS->Prop}{t:Nat}(ht:t<N)(ho:(A.get t).dE=true)(h:K (A.put (some t) (A.get t).er)):Hx N A K:=fun Pb Kb a w F hs=>by
 obtain⟨Pb',I4,F',h1,h2,h3,h4⟩:=hs.freeze ho ht;exact⟨_,Pb',I4,F',h,h1,h2,h3,h4⟩
theorem x2.eqv(hs:x2 N Pb Kb A a w F)(h:H2 A B):x2 N Pb Kb B a w F:=
 ⟨hs.size,hs.defers,fun i=>by rw[<- h.1 i];exact hs.slot i,fun k g v hk=>hs.root k g v (by rw[h.2 k];exact hk),hs.cM,hs.nodup,hs.free,hs.sub,hs.bound⟩
theorem Mn{K:AS->Prop}{t:Nat}(v:V)(e:A.get t=v)(h:K (A.put (some t) v)):Hx N A K:=
 Hx.simple h fun _ _ _ _ _ hs=>⟨_,hs.eqv ⟨fun i=>by
  rw[AS.aO];split;rename_i h;rw[h,e];rfl,fun _=>rfl⟩⟩
theorem Ms{K:AS->Prop}{k g:Nat}(v:V)(e:lk k A.h=some (g,v))(h:K ⟨A.t,(k,(g,v))::A.h⟩):Hx N A K:=
 Hx.simple h fun _ _ _ _ _ hs=>⟨_,hs.eqv ⟨fun _=>rfl,fun i=>by
  simp only[lk];split;rename_i h;rw[h,e];rfl⟩⟩
theorem Ov{K:AS->Prop}{k k' g:Nat}{v:V}(e:lk k A.h=some (g,v))(hn:lk k' A.h=none)(h:K ⟨A.t,(k',(g,v))::A.h.filter fun p=>p.1 != k⟩):Hx N A K:=
 Hx.simple h fun Pb Kb a w F hs=>by
  have hne:k'≠k:=fun c=>by rw[c,e]at hn;cases hn
  have hf:∀ (l:List (Nat×(Nat×V))) q,lk q (l.filter fun p=>p.1 != k)=if q=k then none else lk q l:=by
   intro l;induction l with
   | nil=>intro q;simp[lk]
   | cons x l ih=>
     intro q;obtain⟨i,u⟩:=x;simp only[List.filter_cons];by_cases hi:i=k;subst hi;simp only[bne_self_eq_false,Bool.false_eq_true,if_false,ih q,lk];by_cases c:q=i;rw[if_pos c,if_pos c];rw[if_neg c,if_neg c,if_neg c];rw[if_pos Zbn];simp only[lk,ih q];by_cases c:q=i;subst c;rw[if_pos rfl,if_pos rfl,if_neg hi];rw[if_neg c,if_neg c]
  let σ:m7->m7:=fun r=>if r=.key k' then .key k else if r=.key k then .key k' else r
  have hσ:∀ r r',σ r=σ r'->r=r':=fun r r' h=>by
   simp only[σ]at h;repeat' split at h
   all_goals simp_all
  refine⟨fun r=>if r=.key k then [] else F (σ r),hs.size,hs.defers,fun i=>?_,fun q g0 v0 hq=>?_,fun r r' hne' y hy=>?_,fun r=>?_,fun r y hy=>?_,hs.sub,hs.bound⟩;have:F (σ (.slot i))=F (.slot i):=by simp[σ]
  simp only[reduceCtorEq,if_false,this];exact hs.slot i;simp only[lk,hf]at hq;split at hq;rename_i c;subst c;simp only[Zan,Zaq]at hq;obtain⟨rfl,rfl⟩:=hq;obtain⟨F',h1,h2⟩:=hs.root k g v e;refine⟨F',?_,h2⟩;rw[if_neg (by simpa using hne)];simp only[σ,if_true];exact h1;rename_i c;split at hq;simp at hq;rename_i c2;obtain⟨F',h1,h2⟩:=hs.root q g0 v0 hq;refine⟨F',?_,h2⟩;rw[if_neg (by simpa using c2)];have:σ (.key q)=.key q:=by simp only[σ];rw[if_neg (by simpa using c),if_neg (by simpa using c2)]
  rw[this];exact h1;split at hy;simp at hy;split;simp;exact hs.cM _ _ (fun c=>hne' (hσ _ _ c)) y hy;split;exact Zba;exact hs.nodup _;split at hy;simp at hy;exact hs.free _ y hy
theorem KN{K:AS->Prop}(h1:Um A B.t)(h2:TC A B.h)(h:K B):Hx N A K:=Hx.simple h fun _ _ _ _ _ hs=>hs.leW h1 h2
theorem EL{o:Oper}{K:AS->Prop}{x:Operand}(ho:o.op=.move x)(hd:dh N o.dst)(hK:K ((A.drop x).put o.dst (A.ev x))):J1 P N o A K:=by
 intro Pb Kb a w F Q hs;obtain⟨Fx,F',hr,C8,hnd,x9,hfr,_⟩:=hs.take x;unfold Oper.wp;have:(execOp a.eval o).run P w=.ok (.value (a.eval x)) w:=by simp only[execOp,ho];rfl
 rw[this,Oper.upon_value];cases PX:o.dst with
 | none=>exact⟨_,Pb,Kb,F',hK,by rw[PX];exact C8,fun _ h=>h,fun _ h=>h,fun _ h=>.inl h,B6.refl _ _⟩
 | some d=>
   rw[PX]at hd hK;exact⟨_,Pb,Kb,_,hK,C8.put hd hr (fun r _ g hg=>x9 r g hg) hnd hfr,fun _ h=>h,fun _ h=>h,fun _ h=>.inl h,B6.refl _ _⟩
theorem xL{o:Oper} {K:AS->Prop} {d T:Nat} {x:Operand} {r:m7} {p:List Nat} {g g':Nat} {i:TI} {u:V} (ho:o.op=.load T x) (hd:o.dst=some d) (hN:d<N) (hi:ti P T=some i)
 (hx:A.ev x=.ptr r p g g') (C4:A.at r p=some (g,g',u)) (hn:u.n=i.sz) (ha:i.d.agg=u.isAgg) (hK:K ((A.setAt r p u.kill).put (some d) u)):J1 P N o A K:=by
 intro Pb Kb a w F Q hs;obtain⟨_,Wy⟩:=eE hs x;rw[hx]at Wy;have hp:a.eval x=.pointer (some ⟨g,g',none⟩):=by have:=Wy.2;simpa using this
 obtain⟨Fr,Fu,C8,⟨cs,cells,hb,PD,hc⟩,hnd,x9,hfr⟩:=hs.split C4;obtain⟨y,hy,I8⟩:=ob (w:=w) hi PD hn ha (g:=g) (o:=g') (fun j u hu=>by rw[eP hb];exact hc j u hu);unfold Oper.wp;have:(execOp a.eval o).run P w=.ok (.value y) w:=by
  simp only[execOp,ho,Instr.loadAt,hp,Instr.sureAddr,Za0,Za1,Zas,hy]
 rw[this,Oper.upon_value,hd];exact⟨_,Pb,Kb,_,hK,C8.put hN I8 (fun r _ g hg=>x9 r g hg) hnd hfr,fun _ h=>h,fun _ h=>h,fun _ h=>.inl h,B6.refl _ _⟩
def Vl(A:AS)(s:Operand)(sz:Nat):Option (Prop×AS×List V):=
 match s with
 | .const (.slice none 0 0)=>some (True,A,[])
 | .tmp t=>match A.get t with
   | .sl true []=>some (True,A,[])
   | .own Pf xs _ _ _=>some (Pf=sz,A.put (some t) .c9,xs)
   | .hd (.slot i) [] Pf g o 0 n c=>match A.get i with
     | .own Qq xs g2 o2 c2=>some ((Pf,Qq,g2,o2,c2,n)=(sz,sz,g,o,c,xs.length),A.put (some i) .c9,xs)
     | _=>none
   | .hd (.key k) p Pf g o 0 n c=>match A.at (.key k) p with
     | some (_,_,.own Qq xs g2 o2 c2)=>some ((Pf,Qq,g2,o2,c2,n)=(sz,sz,g,o,c,xs.length),A.setAt (.key k) p .c9,xs)
     | _=>none
   | _=>none
 | _=>none
theorem HM{s:Operand}{sz:Nat}{C:Prop}{xs:List V}(h:Vl A s sz=some (C,A1,xs))(hC:C)(hs:x2 N Pb Kb A a w F):
 ∃ Fx F' g o c,x2 N Pb Kb A1 a w F'/\R w Pb (.own sz xs g o c) [a.eval s] Fx/\Fx.Nodup/\(∀ r g,g∈Fx->g ∉ F' r)/\(∀ g,g∈Fx->¬ Kb g/\g<w.heap.size):=by
 have V2:∀ {t:Nat} {r:m7} {p:List Nat} {sz g o n c:Nat} {xs:List V} {cs:List Value} {Fx:List Nat},A.get t=.hd r p sz g o 0 n c->n=xs.length->R w Pb (.own sz xs g o c) cs Fx->R w Pb (.own sz xs g o c) [a.eval (.tmp t)] Fx:=by
  intro t r p sz g o n c xs cs Fx hg hn hr;subst hn;have hh:=hs.slot t;rw[hg]at hh;obtain⟨_,hle,B,hv,hB⟩:=hh;have hv:a.eval (.tmp t)=.slice B xs.length c:=(List.cons.inj hv).1;rw[hv];rcases hr with ⟨rfl,rfl,rfl,A0,_⟩ | ⟨h1,h2,h3,h4,h5⟩;exact .inl ⟨rfl,rfl,rfl,B,rfl⟩;have:=hB h1;rw[Nat.zero_mul,Nat.add_zero]at this;subst this;exact .inr ⟨h1,h2,h3,rfl,h5⟩
 unfold Vl at h;split at h;simp only[Zan,Zaq]at h;obtain⟨_,rfl,rfl⟩:=h;exact⟨[],F,0,0,0,hs,.inl ⟨rfl,rfl,rfl,none,rfl⟩,Zba,Zad,Zad⟩
 · rename_i t;split at h;rename_i hg;simp only[Zan,Zaq]at h;obtain⟨_,rfl,rfl⟩:=h;have P5:=hs.slot t;rw[hg]at P5;obtain⟨_,B,c,hv,_,Sy,_⟩:=P5;have SC:c=0:=Sy rfl;subst SC;exact⟨[],F,0,0,0,hs,.inl ⟨rfl,rfl,rfl,B,hv⟩,Zba,Zad,Zad⟩;rename_i Pf xs' g o c hg;simp only[Zan,Zaq]at h;obtain⟨rfl,rfl,rfl⟩:=h;subst hC;obtain⟨Fx,F',hr,C8,hnd,x9,hfr,_⟩:=hs.take (.tmp t);rw[rv hg]at C8;have hr:RV w Pb (A.get t) (a.eval (.tmp t)) Fx:=hr;rw[hg]at hr;exact⟨Fx,F',g,o,c,C8,hr,hnd,x9,hfr⟩
   · rename_i i Pf g o n c hg;split at h
     case h_2=>simp at h
     rename_i Qq xs' g2 o2 c2 hi;simp only[Zan,Zaq]at h;obtain⟨rfl,rfl,rfl⟩:=h;obtain⟨rfl,rfl,rfl,rfl,rfl,hn⟩:=hC;obtain⟨Fx,F',hr,C8,hnd,x9,hfr,_⟩:=hs.take (.tmp i);rw[rv hi]at C8;have hr:RV w Pb (A.get i) (a.eval (.tmp i)) Fx:=hr;rw[hi]at hr;exact⟨Fx,F',_,_,_,C8,V2 hg hn (cs:=[a.eval (.tmp i)]) hr,hnd,x9,hfr⟩
   · rename_i k p Pf g o n c hg;split at h
     case h_2=>simp at h
     rename_i g0 o0 Qq xs' g2 o2 c2 C4;simp only[Zan,Zaq]at h;obtain⟨rfl,rfl,rfl⟩:=h;obtain⟨rfl,rfl,rfl,rfl,rfl,hn⟩:=hC;obtain⟨Fr,Fu,C8,⟨cs,cells,hb,PD,hc⟩,hnd,x9,hfr⟩:=hs.split C4;exact⟨Fu,_,_,_,_,C8,V2 hg hn PD,hnd,x9,hfr⟩
   simp at h
 simp at h
theorem uF{o:Oper} {K:AS->Prop} {d T T2 e e2:Nat} {s x:Operand} {t:TI} {C Cx:Prop} {xs ys:List V} (ho:o.op=.call { callee:=.builtin .append,args:= #[s,x],argTypes:= #[T,T2] }) (Uu:o.type=T)
 (hd:o.dst=some d) (hN:d<N) (hT:tD P T=some (.sl e)) (VM:tD P T2=some (.sl e2)) (ht:ti P e=some t) (hz:∃ inf z,P.info? e=some inf/\inf.zero=some z/\z.cells.size=t.sz) (hsz:0<t.sz) (Vg:0<t.Pq)
 (hb:Vl A s t.sz=some (C,A1,xs)) (hC:C) (hx:QI A x=some (Cx,ys)) (Zm:Cx) (Xz:V.aF ys=false) (U3:aW t.sz ys)
 (hbig:(xs.length+ys.length)*t.Pq<=140737488355328)
 (hK:∀ g o c,K (A1.put (some d) (.own t.sz (xs++ys) g o c))):J1 P N o A K:=by
 intro Pb Kb a w F Q hs;obtain⟨B2,c2,G8,RG,P1,Sz,hl2⟩:=oC (P:=P) hs hx Zm U3 Xz;obtain⟨Fx,F',g0,o0,c0,C8,hr,hnd,x9,hfr⟩:=HM hb hC hs;obtain⟨v,w',F2,g',o',c',C9,Pm,P1,O8,SB,UQ,PR⟩:=uX hT VM ht hz hsz Vg C8 hr x9 hfr (Fy:=[]) (by simpa using hnd) Zad Zad RG P1 Sz hl2 U3 hbig;have Qu:(execOp a.eval o).run P w=.ok (.value v) w':=by
  simp only[execOp,ho,resolve,invoke,builtin,Za0,Za1,Zas,Uu];have e:(#[s,x].map a.eval)= #[a.eval s,a.eval x]:=Zad;rw[e,C9];rfl
 unfold Oper.wp;rw[Qu,Oper.upon_value,hd];exact⟨_,Pb,Kb,_,hK g' o' c',Pm.put hN P1 (fun r _ g hg=>SB r g hg) O8 UQ,fun _ h=>h,fun _ h=>h,fun _ h=>.inl h,PR⟩
def XY(A:AS)(s:Operand)(sz:Nat):Option (Prop×List V):=
 match s with
 | .tmp t=>match A.get t with
   | .sl true (x::xs)=>some (aW sz (x::xs),x::xs)
   | _=>none
 | _=>none
theorem Bl{o:Oper} {K:AS->Prop} {d T T2 e e2:Nat} {s x:Operand} {t:TI} {C Cx:Prop} {xs ys:List V} (ho:o.op=.call { callee:=.builtin .append,args:= #[s,x],argTypes:= #[T,T2] }) (Uu:o.type=T)
 (hd:o.dst=some d) (hN:d<N) (hT:tD P T=some (.sl e)) (VM:tD P T2=some (.sl e2)) (ht:ti P e=some t) (hz:∃ inf z,P.info? e=some inf/\inf.zero=some z/\z.cells.size=t.sz) (hsz:0<t.sz) (Vg:0<t.Pq)
 (hb:XY A s t.sz=some (C,xs)) (hC:C) (S0:0<ys.length) (hx:QI A x=some (Cx,ys)) (Zm:Cx) (Xz:V.aF ys=false) (U3:aW t.sz ys)
 (hbig:(xs.length+ys.length)*t.Pq<=140737488355328)
 (hK:∀ g o c,K (A.put (some d) (.own t.sz (xs++ys) g o c))):J1 P N o A K:=by
 intro Pb Kb a w F Q hs;obtain⟨B2,c2,G8,RG,P1,Sz,hl2⟩:=oC (P:=P) hs hx Zm U3 Xz;have hr:R w Pb (.sl true xs) [a.eval s] []/\aW t.sz xs:=by
  unfold XY at hb;split at hb;rename_i q;split at hb;rename_i x' xs' hg;simp only[Zan,Zaq]at hb;obtain⟨rfl,rfl⟩:=hb;have P5:=hs.slot q;rw[hg]at P5;have hF:F (.slot q)=[]:=P5.1;rw[hF]at P5;exact⟨P5,hC⟩;simp at hb;simp at hb
 obtain⟨v,w',F2,g',o',c',C9,Pm,P1,O8,SB,UQ,PR⟩:=Cr hT VM ht hz hsz Vg hs hr.1 hr.2 S0 RG P1 Sz hl2 U3 hbig;have Qu:(execOp a.eval o).run P w=.ok (.value v) w':=by
  simp only[execOp,ho,resolve,invoke,builtin,Za0,Za1,Zas,Uu];have e:(#[s,x].map a.eval)= #[a.eval s,a.eval x]:=Zad;rw[e,C9];rfl
 unfold Oper.wp;rw[Qu,Oper.upon_value,hd];exact⟨_,Pb,Kb,_,hK g' o' c',Pm.put hN P1 (fun r _ g hg=>SB r g hg) O8 UQ,fun _ h=>h,fun _ h=>h,fun _ h=>.inl h,PR⟩
end
mutual
def V.plain:V->Bool
 | .lit _=>true
 | .agg vs=>V.oB vs
 | .tup vs=>V.oB vs
 | _=>false
def V.oB:List V->Bool
 | []=>true
 | v::vs=>v.plain&&V.oB vs
end
def rV(A:AS):List Operand->Prop×List V
 | []=>(True,[])
 | x::xs=>match rV A xs with
   | (C,vs)=>match A.ev x with
     | .hd .. =>match QI A x with
       | some (Cx,ys)=>(Cx/\C,.sl false ys::vs)
       | none=>(C,A.cp x::vs)
     | _=>(C,A.cp x::vs)
section
variable {w w':World} {Pb Kb Pb':Nat->Prop} {N:Nat} {A A' B:AS} {a:Act} {F:m7->List Nat} {P:Program} {ops:Array Oper}
mutual
theorem ye:∀ (v:V) {cs F},v.plain=true->R w Pb v cs F->R w' Pb' v cs []/\F=[]
 | .lit x,cs,F,_,h=>⟨⟨h.1,h.2.1,rfl⟩,h.2.2⟩
 | .agg vs,cs,F,hp,h=>by simp only[R]at h ⊢;simp only[V.plain]at hp;exact sq vs hp h
 | .tup _,_,_,_,h=>by simp[R]at h
 | .gv _ _,_,_,hp,_=>by simp[V.plain]at hp
 | .sl ..,_,_,hp,_=>by simp[V.plain]at hp
 | .own ..,_,_,hp,_=>by simp[V.plain]at hp
 | .ow ..,_,_,hp,_=>by simp[V.plain]at hp
 | .om ..,_,_,hp,_=>by simp[V.plain]at hp
 | .mp ..,_,_,hp,_=>by simp[V.plain]at hp
 | .hd ..,_,_,hp,_=>by simp[V.plain]at hp
 | .ptr ..,_,_,hp,_=>by simp[V.plain]at hp
 | .ep _,_,_,hp,_=>by simp[V.plain]at hp
 | .c9,_,_,hp,_=>by simp[V.plain]at hp
theorem sq:∀ (vs:List V) {cs F},V.oB vs=true->RL w Pb vs cs F->RL w' Pb' vs cs []/\F=[]
 | [],cs,F,_,h=>⟨⟨h.1,rfl⟩,h.2⟩
 | v::vs,cs,F,hp,h=>by
   simp only[V.oB,Zao]at hp;obtain⟨c1,c2,F1,F2,h1,h2,h3,h4⟩:=h;have k1:=ye v hp.1 h3;have k2:=sq vs hp.2 h4;exact⟨⟨c1,c2,[],[],h1,rfl,k1.1,k2.1⟩,by rw[h2,k1.2,k2.2];rfl⟩
end
theorem zy:∀ (vs:List V) {xs F},V.oB vs=true->RVs w Pb vs xs F->RVs w' Pb' vs xs []/\F=[]
 | [],xs,F,_,h=>⟨⟨h.1,rfl⟩,h.2⟩
 | v::vs,xs,F,hp,h=>by
   simp only[V.oB,Zao]at hp;obtain⟨x,xs',F1,F2,h1,h2,h3,h4⟩:=h;have k2:=zy vs hp.2 h4;subst h1 h2;cases v with
   | agg us=>
     obtain⟨cs,e,h3⟩:=h3;have k1:=sq (w':=w') (Pb':=Pb') us (by simpa[V.plain] using hp.1) h3;exact⟨⟨x,xs',[],[],rfl,rfl,⟨cs,e,k1.1⟩,k2.1⟩,by rw[k1.2,k2.2];rfl⟩
   | lit y=>have k1:=ye (w':=w') (Pb':=Pb') (.lit y) hp.1 h3;exact⟨⟨x,xs',[],[],rfl,rfl,k1.1,k2.1⟩,by rw[k1.2,k2.2];rfl⟩
   | tup us=>exact absurd h3 (by simp[R])
   | _=>simp[V.plain]at hp
theorem JV(v:V){x F}(hp:v.plain=true)(h:RV w Pb v x F):RV w' Pb' v x []/\F=[]:=by
 cases v with
 | tup vs=>obtain⟨xs,e,h⟩:=h;have:=zy (w':=w') (Pb':=Pb') vs (by simpa[V.plain] using hp) h;exact⟨⟨xs,e,this.1⟩,this.2⟩
 | agg us=>obtain⟨cs,e,h⟩:=h;have:=sq (w':=w') (Pb':=Pb') us (by simpa[V.plain] using hp) h;exact⟨⟨cs,e,this.1⟩,this.2⟩
 | lit y=>exact ye (w:=w) (Pb:=Pb) (w':=w') (Pb':=Pb') (.lit y) hp h
 | _=>simp[V.plain]at hp
theorem On{Fo:List Nat} {Qq g2 o2 c2 lo n c:Nat} {xs:List V} {VS:List Value} (hr:R w Pb (.own Qq xs g2 o2 c2) VS Fo) (hle:n<=c) {B:Option Addr} (hB:0<c->B=some ⟨g2,o2+lo*Qq,none⟩) (hn:lo+n<=xs.length) (ho:V.aF xs=false)
 (k1:∀ g,Pb g->Pb' g) (k2:∀ g,g<w.heap.size->Pb' g):R w Pb' (.sl false ((xs.drop lo).take n)) [.slice B n c] []:=by
 have hlen:((xs.drop lo).take n).length=n:=Zal;refine⟨rfl,B,c,by rw[hlen],by rw[hlen];exact hle,Zad,?_⟩;by_cases hn0:n=0;subst hn0;exact .inl Zad;right;rcases hr with ⟨_,rfl,_⟩ | ⟨h1,h2,h3,hx,hN,_,flat,F',cells,rfl,hr,hb,hsz,hc⟩;simp at hn;omega;have hF:=gQ xs ho hr;subst hF;obtain⟨c1,S8,QE⟩:=qD xs lo hr;obtain⟨c3,Yc,Zg⟩:=qy _ n S8;refine⟨g2,o2+lo*Qq,Qq,c3,hB Zac,k2 g2 (by obtain⟨e,fr,hb,_⟩:=hb;exact(Zbh.1 hb).1),h2,fun x hx=>hN x (List.mem_of_mem_drop (List.mem_of_mem_take hx)),eZ _ Yc (fun _ _=>rfl) Zad k1 Zad,fun j u hu=>?_⟩;rw[eP hb];have:=QE j u (Zg j u hu);rw[eM xs lo hN Zac]at this;have:=hc _ _ this;simpa[Zbj] using this
theorem Ly(hs:x2 N Pb Kb A a w F){x:Operand}{C:Prop}{ys:List V}{r:m7}{p:List Nat}{sz g o lo n c:Nat}(he:A.ev x=.hd r p sz g o lo n c)(h:QI A x=some (C,ys))(hC:C):R w (fun g=>g<w.heap.size) (.sl false ys) [a.eval x] []:=by
 obtain⟨Fx,hr⟩:=eE hs x;rw[he]at hr;obtain⟨_,hle,B,hv,hB⟩:=hr;have hv:a.eval x=.slice B n c:=(List.cons.inj hv).1;have key:∀ u Fo VS,R w Pb u VS Fo->je lo n sz g o u=some (C,ys)->R w (fun g=>g<w.heap.size) (.sl false ys) [a.eval x] []:=by
  intro u Fo VS PD hu;unfold je at hu;split at hu;rename_i Qq xs g2 o2 c2;simp only[Zan,Zaq]at hu;obtain⟨rfl,rfl⟩:=hu;obtain⟨⟨rfl,rfl,rfl⟩,hln,Wz,_⟩:=hC;rw[hv];exact On PD hle hB hln Wz (fun k h=>hs.bound k (hs.sub k h)) fun g hg=>hg;simp at hu
 unfold QI at h;rw[he]at h;simp only at h;split at h;rename_i i;have P5:=hs.slot i;unfold je at h;split at h;rename_i Qq xs g2 o2 c2 hg;rw[hg]at P5;exact key (.own Qq xs g2 o2 c2) _ _ P5 (by unfold je;exact h);simp at h;rename_i k p';split at h;rename_i a0 b0 u C4;obtain⟨F',cs,cells,hb,PD,w9⟩:=jc hs C4;exact key u F' cs PD h;simp at h;simp at h
theorem sA(hs:x2 N Pb Kb A a w F):∀ (xs:List Operand) {C:Prop} {vs:List V},rV A xs=(C,vs)->C->RVs w (fun g=>g<w.heap.size) vs (xs.map a.eval) []
 | [],C,vs,h,_=>by simp only[rV,Zaq]at h;obtain⟨_,rfl⟩:=h;exact⟨rfl,rfl⟩
 | x::xs,C,vs,h,hC=>by
   have plain:∀ Zw,RVs w (fun g=>g<w.heap.size) Zw (xs.map a.eval) []->RVs w (fun g=>g<w.heap.size) (A.cp x::Zw) ((x::xs).map a.eval) []:=fun Zw h'=>by
    have h1:=vw hs [x];have h1:=vS (w':=w) (Pb':=fun g=>g<w.heap.size) _ h1 (fun _ _=>rfl) (fun _ _=>rfl) (fun k h=>hs.bound k (hs.sub k h)) Zad;obtain⟨y,ys,F1,F2,e1,e2,h2,_⟩:=h1;simp only[Zbe,List.map_nil,List.cons.injEq]at e1;obtain⟨rfl,_⟩:=e1;have e2:=e2.symm;simp only[List.append_eq_nil_iff]at e2;obtain⟨rfl,_⟩:=e2;exact⟨a.eval x,xs.map a.eval,[],[],rfl,rfl,h2,h'⟩
   cases hl:rV A xs with
   | mk C0 vs0=>
     simp only[rV,hl]at h;split at h;rename_i r p sz g o lo n c he;split at h;rename_i Cx ys e;simp only[Zaq]at h;obtain⟨rfl,rfl⟩:=h;exact⟨a.eval x,xs.map a.eval,[],[],rfl,rfl,Ly hs he e hC.1,sA hs xs hl hC.2⟩;simp only[Zaq]at h;obtain⟨rfl,rfl⟩:=h;exact plain _ (sA hs xs hl hC);simp only[Zaq]at h;obtain⟨rfl,rfl⟩:=h;exact plain _ (sA hs xs hl hC)
theorem IX{o:Oper} {K:AS->Prop} {f:FuncId} {xs:Array Operand} {Pt:Array TypeId} {args:List V} {Q:V->Prop} {C:Prop} {vs:List V} (ho:o.op=.call { callee:=.value (.func f),args:=xs,argTypes:=Pt })
 (hd:dh N o.dst) (hc:PC P f args Q) (hl:rV A xs.toList=(C,vs)) (hC:C) (hargs:QA vs args=args) (hp:∀ r,Q r->r.plain=true) (hK:∀ r,Q r->K (A.put o.dst r)):J1 P N o A K:=by
 intro Pb Kb a w F Q' hs;unfold Oper.wp;have C9:(execOp a.eval o).run P w=.ok (.enter f (xs.map a.eval)) w:=by
  simp only[execOp,ho,resolve,Act.eval,Deferred.ofValue,Za0,Za1,Zas,invoke];have:=hc.1 (xs.map a.eval) w;simpa using this
 rw[C9,Oper.upon_enter];have h0:=sA hs xs.toList hl hC;have h0:=qs _ args h0;rw[hargs]at h0;have Pn:=hc.2 w (fun g=>g<w.heap.size) (xs.toList.map a.eval) (fun g hg=>hg) h0;have e:(xs.toList.map a.eval).toArray=xs.map a.eval:=by rw[<- Array.toList_map,Array.toArray_toList]
 rw[e]at Pn;refine Pn.mono ?_;rintro e w' ⟨r,x,Fr,Pb',rfl,hq,hr,hnd,hfr,h1,h2,hb⟩;have C8:x2 N Pb Kb A a w' F:=hs.grow hb.block hb.size (fun _ h=>h) (fun g hg=>.inl hg) hs.sub;obtain⟨F',Pm⟩:=C8.rj (d:=o.dst) hd (JV (w':=w') (Pb':=Pb) r (hp r hq) hr).1;exact⟨_,Pb,Kb,F',hK r hq,Pm,fun _ h=>h,fun _ h=>h,fun g h=>.inl h,B6.BM hb hs.bound⟩
end
section
variable {w w':World} {Pb Kb Pb':Nat->Prop} {N:Nat} {A A' B:AS} {a:Act} {F:m7->List Nat} {P:Program} {ops:Array Oper}
theorem CM{o:Oper} {K:AS->Prop} {d T e len:Nat} {h9:Array (Nat×Operand)} {i:TI} {vs:List V} (ho:o.op=.buildSlice T len h9) (hd:o.dst=some d) (hN:d<N) (hT:tD P T=some (.sl e)) (hi:ti P e=some i)
 (Ut:fw A 0 h9.toList=some vs) (hB:Vk P T e len i vs=true) (h0:0<len) (hK:∀ g,K (A.put (some d) (.own i.sz vs g 0 len))):J1 P N o A K:=by
 simp only[Vk,Zao,Zbl]at hB;obtain⟨⟨⟨⟨b1,hlen⟩,S4⟩,L8⟩,hv⟩:=hB;obtain⟨inf,z,PW,hzero,_⟩:=kA b1;have S4:=Nat.le_of_ble_eq_true S4;have L8:=Nat.lt_of_succ_le (Nat.le_of_ble_eq_true L8);have hv:=yK hv;intro Pb Kb a w F Q hs;obtain⟨xs,h1,h2,h3,h4⟩:=oz hs h9.toList 0 Ut hv;have hu:=jw hT;obtain⟨Vr,_,M7,_,hsz,_,_⟩:=ke hi;rw[PW]at M7;obtain rfl:=Option.some.inj M7;have hfl:=Great.fill_whole L8 xs ((Array.range (len*i.sz)).map (z.cells[· % z.cells.size]!)) h2 (by simp[h4,hlen]);have hmul: ¬ len*inf.size=0:=by rw[hsz];exact Nat.mul_ne_zero Zac Zac
 have hb:=run_buildSlice (P:=P) w T e len (h9.map fun (i,x)=>(i,a.eval x)) _ inf z hu PW hzero (by rw[hsz];omega) hmul (by rw[Array.toList_map,h1,hsz];exact hfl);have hx:(execOp a.eval o).run P w=.ok (.value (.slice (some ⟨w.heap.size,0,none⟩) len len)) (w.alloc (.cells (xs.flatMap fun v=>v.cells.toList).toArray e)):=by
  simp only[execOp,ho,Za0,hb,Zas,Za1]
 unfold Oper.wp;rw[hx,Oper.upon_value,hd];have P7:=hs.pK (.cells (xs.flatMap fun v=>v.cells.toList).toArray e);have Q5:=eZ (w':=w.alloc (.cells (xs.flatMap fun v=>v.cells.toList).toArray e)) (Pb':=Pb) vs h3 (fun g hg=>alloc_old w _ g (hs.bound g (hs.sub g hg))) Zad (fun g hg=>hg) Zad;have hcs:(xs.flatMap fun v=>v.cells.toList).length=len*i.sz:=by
  rw[jK _ h3,qt vs (fun v Vy=>(hv v Vy).2),hlen]
 have SE: ¬ Kb w.heap.size:=fun h=>by have:=hs.bound _ h;omega
 have hR:R (w.alloc (.cells (xs.flatMap fun v=>v.cells.toList).toArray e)) Pb (.own i.sz vs w.heap.size 0 len) [.slice (some ⟨w.heap.size,0,none⟩) len len] [w.heap.size]:=
  .inr ⟨h0,L8,Zac,by rw[hlen],fun v Vy=>(hv v Vy).2,fun c=>SE (hs.sub _ c),_,[],_,rfl,Q5,⟨e,(0,0),ig w _,fun i _ h=>by omega⟩,by simp only[List.size_toArray];rw[hcs];omega,fun j u hu=>by simpa using hu⟩
 exact⟨_,Pb,Kb,_,hK _,P7.put hN hR (fun r _ g hg=>by
  obtain rfl:=Zav.1 hg;intro c;have:=(hs.free r _ c).2;omega) Zad (fun g hg=>by
  obtain rfl:=Zav.1 hg;exact⟨SE,Zbx⟩),fun _ h=>h,fun _ h=>h,fun _ h=>.inl h,B6.alloc hs.bound _⟩
theorem Gv{K:AS->Prop} {t sz n g o c g0 o0:Nat} {xs:List V} {r:m7} {p:List Nat} (h2:A.get t=.own sz xs g o c) (C4:(A.put (some t) .c9).at r p=some (g0,o0,.hd (.slot t) [] sz g o 0 n c)) (hn:n=xs.length)
 (h:K ((A.put (some t) .c9).setAt r p (.own sz xs g o c))):Hx N A K:=Hx.simple h fun Pb Kb a w F hs=>by
 subst hn;obtain⟨Fx,F1,hr,P7,hnd,x9,hfr,_⟩:=hs.take (.tmp t);rw[rv h2]at P7;have hr:RV w Pb (A.get t) (a.tmps.getD t undef) Fx:=hr;rw[h2]at hr;obtain⟨Fp,cs,cells,hb,hp,hc⟩:=jc P7 C4;obtain⟨_,hle,B,rfl,hB⟩:=hp;have I8:R w Pb (.own sz xs g o c) [.slice B xs.length c] Fx:=by
  rcases hr with ⟨rfl,rfl,rfl,A0,_⟩ | ⟨k1,k2,k3,k4,k5⟩;exact .inl ⟨rfl,rfl,rfl,B,rfl⟩;have:=hB k1;rw[Nat.zero_mul,Nat.add_zero]at this;subst this;exact .inr ⟨k1,k2,k3,rfl,k5⟩
 obtain⟨F2,Pm,_⟩:=P7.store (w':=w) (v:=.own sz xs g o c) C4 I8 rfl hnd x9 hfr ⟨rfl,rfl,rfl,rfl,fun _ _=>rfl,Shp.refl _,fun r5 OZ=>⟨r5,OZ,rfl,fun _ _=>rfl,fun j u hu=>by
  have e:r5=cells:=by
   obtain⟨e1,f1,q1,_⟩:=hb;obtain⟨e2,f2,q2,_⟩:=OZ;rw[q1]at q2;simp only[Zan,Obj.cells.injEq]at q2;exact q2.1.symm
  rw[e];exact hc j u hu⟩⟩
 exact⟨F2,Pm⟩
theorem Hj{K:AS->Prop} {sz n g o c g0 o0 g1 o1:Nat} {xs:List V} {r r0:m7} {p p0:List Nat} (h2:A.at r0 p0=some (g1,o1,.own sz xs g o c)) (C4:(A.setAt r0 p0 .c9).at r p=some (g0,o0,.hd r0 p0 sz g o 0 n c)) (hn:n=xs.length)
 (h:K ((A.setAt r0 p0 .c9).setAt r p (.own sz xs g o c))):Hx N A K:=Hx.simple h fun Pb Kb a w F hs=>by
 subst hn;obtain⟨Fr,Fu,P7,⟨cs0,R2,U0,PD,SC⟩,hnd,x9,hfr⟩:=hs.split h2;have P7:x2 N Pb Kb (A.setAt r0 p0 .c9) a w _:=P7;obtain⟨Fp,cs,cells,hb,hp,hc⟩:=jc P7 C4;obtain⟨_,hle,B,rfl,hB⟩:=hp;have I8:R w Pb (.own sz xs g o c) [.slice B xs.length c] Fu:=by
  rcases PD with ⟨rfl,rfl,rfl,A0,_⟩ | ⟨k1,k2,k3,k4,k5⟩;exact .inl ⟨rfl,rfl,rfl,B,rfl⟩;have:=hB k1;rw[Nat.zero_mul,Nat.add_zero]at this;subst this;exact .inr ⟨k1,k2,k3,rfl,k5⟩
 obtain⟨F2,Pm,_⟩:=P7.store (w':=w) (v:=.own sz xs g o c) C4 I8 rfl hnd x9 hfr ⟨rfl,rfl,rfl,rfl,fun _ _=>rfl,Shp.refl _,fun r5 OZ=>⟨r5,OZ,rfl,fun _ _=>rfl,fun j u hu=>by
  have e:r5=cells:=by
   obtain⟨e1,f1,q1,_⟩:=hb;obtain⟨e2,f2,q2,_⟩:=OZ;rw[q1]at q2;simp only[Zan,Obj.cells.injEq]at q2;exact q2.1.symm
  rw[e];exact hc j u hu⟩⟩
 exact⟨F2,Pm⟩
theorem Bp{o:Oper} {K:AS->Prop} {d T T2 e e2 t0:Nat} {x:Operand} {t:TI} {Cx:Prop} {xs ys:List V} {r:m7} {p:List Nat} {sz g o1 n c g0 o0:Nat} (ho:o.op=.call { callee:=.builtin .append,args:= #[.tmp t0,x],argTypes:= #[T,T2] }) (Uu:o.type=T)
 (hd:o.dst=some d) (hN:d<N) (hT:tD P T=some (.sl e)) (VM:tD P T2=some (.sl e2)) (ht:ti P e=some t) (hz:∃ inf z,P.info? e=some inf/\inf.zero=some z/\z.cells.size=t.sz) (hsz:0<t.sz) (Vg:0<t.Pq)
 (hg:A.get t0=.hd r p sz g o1 0 n c) (C4:A.at r p=some (g0,o0,.own sz xs g o1 c)) (e9:sz=t.sz) (hn:n=xs.length) (hx:QI A x=some (Cx,ys)) (Zm:Cx) (Xz:V.aF ys=false) (U3:aW t.sz ys)
 (hbig:(xs.length+ys.length)*t.Pq<=140737488355328)
 (hK:∀ g o c,K ((A.setAt r p .c9).put (some d) (.own t.sz (xs++ys) g o c))):J1 P N o A K:=by
 subst e9 hn;intro Pb Kb a w F Q hs;obtain⟨B2,c2,G8,RG,P1,Sz,hl2⟩:=oC (P:=P) hs hx Zm U3 Xz;obtain⟨Fr,Fu,C8,⟨cs,cells,hb,PD,hc⟩,hnd,x9,hfr⟩:=hs.split C4;have hr:R w Pb (.own t.sz xs g o1 c) [a.eval (.tmp t0)] Fu:=by
  have hh:=hs.slot t0;rw[hg]at hh;obtain⟨_,hle,B,hv,hB⟩:=hh;have hv:a.eval (.tmp t0)=.slice B xs.length c:=(List.cons.inj hv).1;rw[hv];rcases PD with ⟨rfl,rfl,rfl,A0,_⟩ | ⟨h1,h2,h3,h4,h5⟩;exact .inl ⟨rfl,rfl,rfl,B,rfl⟩;have:=hB h1;rw[Nat.zero_mul,Nat.add_zero]at this;subst this;exact .inr ⟨h1,h2,h3,rfl,h5⟩
 obtain⟨v,w',F2,g',o',c',C9,Pm,P1,O8,SB,UQ,PR⟩:=uX hT VM ht hz hsz Vg C8 hr x9 hfr (Fy:=[]) (by simpa using hnd) Zad Zad RG P1 Sz hl2 U3 hbig;have Qu:(execOp a.eval o).run P w=.ok (.value v) w':=by
  simp only[execOp,ho,resolve,invoke,builtin,Za0,Za1,Zas,Uu];have e:(#[.tmp t0,x].map a.eval)= #[a.eval (.tmp t0),a.eval x]:=Zad;rw[e,C9];rfl
 unfold Oper.wp;rw[Qu,Oper.upon_value,hd];exact⟨_,Pb,Kb,_,hK g' o' c',Pm.put hN P1 (fun r _ g hg=>SB r g hg) O8 UQ,fun _ h=>h,fun _ h=>h,fun _ h=>.inl h,PR⟩
theorem wJ:∀ (vs:List V) {xs:List Value} {F:List Nat} {i:Nat} {v:V},RVs w Pb vs xs F->vs[i]? =some v->v.isVal=true->
 ∃ x Fa Fi Fb,xs[i]? =some x/\F=Fa++Fi++Fb/\RV w Pb v x Fi/\RVs w Pb (vs.set i .c9) xs (Fa++Fb)
 | [],_,_,_,_,_,h,_=>by simp at h
 | u::vs,xs,F,0,v,h,hi,hv=>by
   obtain⟨x,xs',F1,F2,rfl,rfl,h1,h2⟩:=h;simp at hi;subst hi;refine⟨x,[],F1,F2,rfl,Zad,?_,⟨x,xs',[],F2,rfl,rfl,rfl,h2⟩⟩;cases u <;> first | exact h1 | simp[V.isVal]at hv
 | u::vs,xs,F,i+1,v,h,hi,hv=>by
   obtain⟨x,xs',F1,F2,rfl,rfl,h1,h2⟩:=h;obtain⟨y,Fa,Fi,Fb,k1,rfl,k3,k4⟩:=wJ vs h2 Zbn hv;exact⟨y,F1++Fa,Fi,Fb,by simpa using k1,Zad,k3,⟨x,xs',F1,Fa++Fb,rfl,Zad,h1,k4⟩⟩
theorem zZ{o:Oper} {K:AS->Prop} {t i d:Nat} {vs:List V} {v:V} (ho:o.op=.extract (.tmp t) i) (hd:o.dst=some d) (hN:d<N) (ht:t<N) (htd:d≠t) (hg:A.get t=.tup vs) (hi:vs[i]? =some v) (hv:v.isVal=true)
 (hK:K ((A.put (some t) (.tup (vs.set i .c9))).put (some d) v)):J1 P N o A K:=by
 intro Pb Kb a w F Q hs;have P5:=hs.slot t;rw[hg]at P5;obtain⟨xs,hx,hr⟩:=P5;obtain⟨x,Fa,Fi,Fb,k1,k2,k3,k4⟩:=wJ vs hr hi hv;have hnd:=hs.nodup (.slot t);rw[k2]at hnd;have Uy:∀ g,g∈Fa++Fb->g∈F (.slot t):=fun g hg=>by rw[k2];simp only[Zax]at hg ⊢;rcases hg with h | h <;> simp[h]
 have Wv:∀ g,g∈Fi->g∈F (.slot t):=fun g hg=>by rw[k2];simp[hg]
 have O8:(Fa++Fb).Nodup/\Fi.Nodup/\∀ g,g∈Fi->g ∉ Fa++Fb:=by
  simp only[List.nodup_append,Zax]at hnd ⊢;grind
 have P7:=hs.put (d:=t) (v:=.tup (vs.set i .c9)) (x:=a.tmps.getD t undef) (F':=Fa++Fb) ht ⟨xs,hx,k4⟩ (fun r hr g hg c=>hs.cM (.slot t) r (Ne.symm hr) g (Uy g hg) c) O8.1 (fun g hg=>hs.free _ g (Uy g hg));rw[so]at P7;unfold Oper.wp;have C9:(execOp a.eval o).run P w=.ok (.value x) w:=by
  have XN:a.eval (.tmp t)=.tuple xs:=hx;have hxi:xs[i]? =some x:=by simpa using k1
  simp only[execOp,ho,XN,Instr.extract,hxi,Za0,Za1,Zas]
 rw[C9,Oper.upon_value,hd];refine⟨_,Pb,Kb,_,hK,P7.put (d:=d) (F':=Fi) hN k3 (fun r hr g hg c=>?_) O8.2.1 (fun g hg=>hs.free _ g (Wv g hg)),fun _ h=>h,fun _ h=>h,fun _ h=>.inl h,B6.refl _ _⟩;simp only[cK]at c;split at c;exact O8.2.2 g hg c;rename_i hne;exact hs.cM (.slot t) r (Ne.symm hne) g (Wv g hg) c
end
def cj:List Prop->Prop->Prop
 | [],k=>k
 | c::r,k=>c/\cj r k
theorem oK:∀ {l:List Prop} {k:Prop},cj l k↔(∀ c,c∈l->c)/\k
 | [],k=>by simp[cj]
 | c::r,k=>by
   rw[cj,oK (l:=r),List.forall_mem_cons,and_assoc]
abbrev GT:=List (Nat×(Nat×Bool))
def Ek(ops:Array Oper)(j:Nat):Option Nat:=(ops[j]?).bind (·.dst)
def um(ops:Array Oper)(d:Nat)(gt:GT):GT:=gt.filter fun e=>!(e.1==d||Ek ops e.2.1==some d)
def Ac(ops:Array Oper)(d j:Nat)(b:Bool)(gt:GT):GT:=match Ek ops j==some d with
 | true=>um ops d gt
 | false=>(d,(j,b))::um ops d gt
def Vn(ops:Array Oper)(gt:GT)(A:AS):Prop:= ∀ e,e∈gt->∀ c v,A.get e.1=.gv c v->QR A ops e.2.1 e.2.2=some c
section
variable {P:Program} {N:Nat} {ops:Array Oper} {A A':AS} {gt:GT}
theorem Gp:Vn ops [] A:=fun e h=>by simp at h
theorem Du{d j:Nat}{b:Bool}{u:V}(h:Ek ops j≠some d):QR (A.put (some d) u) ops j b=QR A ops j b:=by
 unfold QR;unfold Ek at h;cases hj:(ops[j]?).bind (·.dst) with
 | none=>rfl
 | some t=>
   simp only[Option.map_some];rw[AS.aO,if_neg (fun c=>h (by rw[hj,c]))]
theorem xY{d:Nat}{u:V}(h:Vn ops gt A):Vn ops (um ops d gt) (A.put (some d) u):=fun e he c v hv=>by
 unfold um at he;rw[List.mem_filter]at he;obtain⟨h1,h2⟩:=he;simp only[Bool.not_eq_true',Bool.or_eq_false_iff,beq_eq_false_iff_ne,ne_eq]at h2;rw[AS.aO,if_neg h2.1]at hv;rw[Du h2.2];exact h e h1 c v hv
theorem Gz{d j:Nat}{b G:Bool}{u:V}(h:Vn ops gt A)(hG:QR A ops j b=some G):Vn ops (Ac ops d j b gt) (A.put (some d) (.gv G u)):=by
 unfold Ac;split;exact xY h;rename_i e1;intro e he c v hv;rcases List.mem_cons.1 he with rfl | he;rw[AS.aO,if_pos rfl]at hv;cases hv;rw[Du (by simpa using e1)];exact hG;exact xY h e he c v hv
def gtA(ops:Array Oper)(d:Option Nat)(j:Nat)(b:Bool)(gt:GT):GT:=match d with
 | some d=>Ac ops d j b gt
 | none=>gt
theorem KR{d:Option Nat}{j:Nat}{b G:Bool}{u:V}(h:Vn ops gt A)(hG:QR A ops j b=some G):Vn ops (gtA ops d j b gt) (A.put d (.gv G u)):=by
 cases d with
 | none=>exact h
 | some d=>exact Gz h hG
theorem Lx{x:Operand}(h:(A.ev x).dE=false):A.drop x=A:=by
 cases x with
 | tmp t=>exact if_neg (by simpa[AS.ev] using h)
 | _=>rfl
def T3(G:Bool)(jb:Nat×Bool)(gt:GT):List Operand->AS->List Prop×AS
 | [],A=>([],A)
 | .tmp t::r,A=>match A.get t with
   | .gv b v=>match T3 G jb gt r (A.put (some t) v),gt.contains (t,jb)&&!v.dE&&!v.iw with
     | (C,B),true=>(C,B)
     | (C,B),false=>(qH G b v::C,B)
   | _=>T3 G jb gt r A
 | _::r,A=>T3 G jb gt r A
theorem np{G:Bool}{jb:Nat×Bool}:∀ (xs:List Operand) {A B:AS} {l:List Prop},(∀ t,(t,jb)∈gt->∀ c v,A.get t=.gv c v->c=G)->T3 G jb gt xs A=(l,B)->(∀ c,c∈l->c)->∃ C,AS.un G xs A=(C,B)/\C
 | [],A,B,l,_,h,_=>by simp only[T3,Zaq]at h;exact⟨True,by simp only[AS.un,h.2],trivial⟩
 | x::xs,A,B,l,hi,h,hl=>by
   cases x with
   | tmp t=>
     simp only[T3]at h;simp only[AS.un];split at h;rename_i b v hg;rw[hg];have hi':v.iw=false->∀ t',(t',jb)∈gt->∀ c u,(A.put (some t) v).get t'=.gv c u->c=G:=fun hv t' ht c u hu=>by
      rw[AS.aO]at hu;split at hu;rw[hu]at hv;simp[V.iw]at hv;exact hi t' ht c u hu
     split at h;rename_i C1 B1 hu hc;simp only[Zaq]at h;obtain⟨rfl,rfl⟩:=h;simp only[Zao,Bool.not_eq_true',List.contains_iff_mem]at hc;obtain⟨C2,e1,e2⟩:=np xs (hi' hc.2) hu hl;simp only[e1];refine⟨_,rfl,?_,e2⟩;unfold qH;rw[hc.1.2,hc.2,hi t hc.1.1 b v hg];exact fun h=>h;rename_i C1 B1 hu hc;simp only[Zaq]at h;obtain⟨rfl,rfl⟩:=h;have h0:=hl _ (List.mem_cons_self ..);have hv:v.iw=false:=by
      unfold qH at h0;split at h0;rename_i e;rw[Bool.or_eq_false_iff]at e;exact e.2;exact h0.elim
     obtain⟨C2,e1,e2⟩:=np xs (hi' hv) hu (fun c hc=>hl c (List.mem_cons_of_mem _ hc));simp only[e1];exact⟨_,rfl,h0,e2⟩;rename_i hn;have:=np xs hi h hl;split;rename_i b v hg;exact absurd hg (hn b v);exact this
   | _=>exact np xs hi h hl
def ud(P:Program)(N:Nat)(ops:Array Oper):Nat->List Oper->List V->GT->AS->Option (List Prop×AS×GT)
 | 0,_,_,gt,A=>some ([],A,gt)
 | _+1,[],_,gt,A=>some ([],A,gt)
 | n+1,o::rest,C5,gt,A=>
   match o.dst with
   | none=>none
   | some d=>if d<N then
     match o.guard with
     | some (j,b)=>match QR A ops j b with
       | some G=>match T3 G (j,b) gt (jv o.op) A with
         | (C0,B)=>match sY P B o.op C5 with
           | some (C,v,C5)=>if (SW N (jv o.op)&&!v.iw)=true then match ud P N ops n rest C5 (Ac ops d j b gt) (A.put (some d) (.gv G v)) with
             | some (C',r)=>some (C0++(if nD o.op=true then C' else (G=true->C)::C'),r)
             | none=>none else none
           | none=>none
       | none=>none
     | none=>match o.op with
       | .assign x=>ud P N ops n rest C5 (if (A.ev x).dE=true then [] else um ops d gt) ((A.drop x).put (some d) (A.ev x))
       | op=>match sY P A op C5 with
         | some (C,v,C5)=>match ud P N ops n rest C5 (um ops d gt) (A.put (some d) v) with
           | some (C',r)=>if nD op=true then some (C',r) else some (C::C',r)
           | none=>none
         | none=>none
     else none
theorem uu:∀ (n:Nat) {l:List Oper} {C5:List V} {gt Yk:GT} {A A':AS} {cs:List Prop},ud P N ops n l C5 gt A=some (cs,A',Yk)->Vn ops gt A->(∀ c,c∈cs->c)->
 (∃ C,pa P N ops n l C5 A=some (C,A')/\C)/\Vn ops Yk A'
 | 0,l,C5,gt,Yk,A,A',cs,h,hi,hc=>by
   simp only[ud,Zan,Zaq]at h;obtain⟨_,rfl,rfl⟩:=h;exact⟨⟨True,by simp only[pa],trivial⟩,hi⟩
 | n+1,[],C5,gt,Yk,A,A',cs,h,hi,hc=>by
   simp only[ud,Zan,Zaq]at h;obtain⟨_,rfl,rfl⟩:=h;exact⟨⟨True,by simp only[pa],trivial⟩,hi⟩
 | n+1,o::l,C5,gt,Yk,A,A',cs,h,hi,hc=>by
   unfold ud at h;unfold pa;split at h;cases h;rename_i d hd;split at h
   case isFalse=>cases h
   rename_i VI;simp only[hd,if_pos VI];split at h;rename_i j b hg;simp only[hg];split at h;rename_i G hG;split at h;rename_i C0 B hu;split at h;rename_i C v RQ hs;split at h;rename_i hk;split at h;rename_i C' A1 hr;simp only[Zan,Zaq]at h;obtain⟨rfl,rfl⟩:=h;obtain⟨C1,e1,e2⟩:=np (jv o.op) (fun t ht c v hv=>by have:=hi _ ht c v hv;rw[hG]at this;exact(Option.some.inj this).symm) hu (fun c UX=>hc c (List.mem_append_left _ UX));obtain⟨⟨C2,e3,e4⟩,e5⟩:=uu n hr (Gz hi hG) (fun c UX=>hc c (List.mem_append_right _ (by split <;> simp[UX])));refine⟨?_,e5⟩;simp only[hG,e1,hs,if_pos hk,e3];refine⟨_,rfl,fun Qk=>⟨e2,?_⟩,e4⟩;by_cases ht:nD o.op=true;exact og ht hs;exact hc (G=true->C) (List.mem_append_right _ (by rw[if_neg ht];exact List.mem_cons_self ..)) Qk;cases h;cases h;cases h;cases h;rename_i hg;simp only[hg];split at h;rename_i x hx;obtain⟨⟨C,e1,e2⟩,e3⟩:=uu n h (by
    split;exact Gp;rename_i ho;rw[Lx (by simpa using ho)];exact xY hi) hc
   simp only[hx];exact⟨⟨C,e1,e2⟩,e3⟩;rename_i hx;split at h;rename_i C v RQ hs;split at h;rename_i C' r hr;have key:(∀ c,c∈C'->c)/\C/\r=(A',Yk):=by
    split at h;rename_i ht;simp only[Zan,Zaq]at h;obtain⟨rfl,rfl⟩:=h;exact⟨hc,og ht hs,rfl⟩;simp only[Zan,Zaq]at h;obtain⟨rfl,rfl⟩:=h;exact⟨fun c UX=>hc c (List.mem_cons_of_mem _ UX),hc _ (List.mem_cons_self ..),rfl⟩
   obtain⟨k1,k2,rfl⟩:=key;obtain⟨⟨C2,e3,e4⟩,e5⟩:=uu n hr (xY hi) k1;refine⟨?_,e5⟩;split;rename_i RG;exact absurd RG (hx _);simp only[hs,e3];split;exact⟨_,rfl,e4⟩;exact⟨_,rfl,k2,e4⟩;cases h;cases h
def oY(B:AS)(ks:List (Nat×Nat)):List (Nat×(Nat×V))->Prop->Prop
 | [],p=>p
 | (k,(g,v))::r,p=>(match lk k ks with | some q=>(match lk q B.h with | some (g',v')=>(g',wk v' v)=(g,v) | none=>False) | none=>False)/\oY B ks r p
theorem jT{B:AS}{ks:List (Nat×Nat)}:∀ {H:List (Nat×(Nat×V))} {p:Prop},oY B ks H p->mw B ks H/\p
 | [],p,h=>⟨trivial,h⟩
 | (k,(g,v))::r,p,h=>by
   obtain⟨h1,h2⟩:=h;obtain⟨h3,h4⟩:=jT h2;exact⟨⟨h1,h3⟩,h4⟩
def Jb(A:AS):List (Nat×(Nat×V))->Prop->Prop
 | [],p=>p
 | (k,(g,v))::r,p=>(match lk k A.h with | some (g',v')=>(g',wk v' v)=(g,v) | none=>False)/\Jb A r p
theorem Ax:∀ {H:List (Nat×(Nat×V))} {p:Prop},Jb A H p->TC A H/\p
 | [],p,h=>⟨trivial,h⟩
 | (k,(g,v))::r,p,h=>by
   obtain⟨h1,h2⟩:=h;obtain⟨h3,h4⟩:=Ax h2;exact⟨⟨h1,h3⟩,h4⟩
def Je(A:AS):List (Nat×V)->Prop->Prop
 | [],p=>p
 | (k,v)::r,p=>(wk (A.get k) v=v)/\Je A r p
theorem vT:∀ {H:List (Nat×V)} {p:Prop},Je A H p->Um A H/\p
 | [],p,h=>⟨trivial,h⟩
 | (k,v)::r,p,h=>by
   obtain⟨h1,h2⟩:=h;obtain⟨h3,h4⟩:=vT h2;exact⟨⟨h1,h3⟩,h4⟩
def X8(A B:AS):Prop:=Je A B.t (Jb A B.h True)
theorem uy{B:AS}(h:X8 A B):Um A B.t/\TC A B.h:=⟨(vT h).1,(Ax (vT h).2).1⟩
def AB(A:AS):List ResultVar->Option (List Prop×List (m7×V))
 | []=>some ([],[])
 | r::rs=>match AB A rs with
   | some (C,xs)=>match r with
     | .tmp t=>some (C,(.slot t,A.get t)::xs)
     | .cell t _=>match A.get t with
       | .ptr (.key k) [] g 0=>match lk k A.h with
         | some (g',v)=>some ((g'=g)::C,(.key k,v)::xs)
         | none=>none
       | _=>none
   | none=>none
theorem uC:∀ {rs:List ResultVar} {C:List Prop} {xs:List (m7×V)},AB A rs=some (C,xs)->(∀ c,c∈C->c)->∃ C',yy A rs=some (C',xs)/\C'
 | [],C,xs,h,_=>by simp only[AB,Zan,Zaq]at h;rw[<- h.2];exact⟨_,rfl,trivial⟩
 | r::rs,C,xs,h,hC=>by
   simp only[AB]at h;simp only[yy];split at h;rename_i C1 xs1 e;split at h;simp only[Zan,Zaq]at h;obtain⟨rfl,rfl⟩:=h;obtain⟨C',e1,e2⟩:=uC e hC;simp only[e1];exact⟨_,rfl,e2⟩;split at h;rename_i k g e2;split at h;rename_i g' v e3;simp only[Zan,Zaq]at h;obtain⟨rfl,rfl⟩:=h;obtain⟨C',e4,e5⟩:=uC e (fun c hc=>hC c (List.mem_cons_of_mem _ hc));simp only[e4,e2,e3];exact⟨_,rfl,hC _ (List.mem_cons_self ..),e5⟩;cases h;cases h;cases h
def ri(A:AS):List (Nat×(Nat×V))->Prop->Prop
 | [],p=>p
 | (k,(g,v))::r,p=>p/\ri A r (match lk k A.h with | some (g',v')=>(g',wk v' v)=(g,v) | none=>False)
theorem vE:∀ {H:List (Nat×(Nat×V))} {p:Prop},ri A H p->p/\TC A H
 | [],p,h=>⟨h,trivial⟩
 | (k,(g,v))::r,p,h=>by
   obtain⟨h1,h2⟩:=h;exact⟨h1,vE h2⟩
end
structure W7 (P:Program) where
 f:FuncId
 args:List V
 H:List (Nat×(Nat×V)):=[]
 pre:Prop:=True
 res:V
 H':List (Nat×(Nat×V)):=[]
 ok:pre->PF P f args H (fun r h=>r=res/\h=H')
structure VX (P:Program) where
 X:Type
 f:FuncId
 args:List V
 H:List (Nat×(Nat×V)):=[]
 pre:Prop:=True
 post:X->Prop
 res:X->V
 H':X->List (Nat×(Nat×V)):=fun _=>[]
 ok:pre->PF P f args H (fun r h=> ∃ x,post x/\r=res x/\h=H' x)
structure Cu (P:Program) where
 X:Type
 pre:Nat->Oper->AS->Prop
 post:X->Oper->AS->AS
 ok:∀ {N:Nat} {o:Oper} {A:AS} {K:AS->Prop},o.guard=none->pre N o A->(∀ x,K (post x o A))->J1 P N o A K
structure Eu (P:Program) where
 X:Type
 pre:Nat->Oper->AS->List Nat->List Nat->Prop
 U:Oper->AS->X->AS->AS
 V0:∀ {N:Nat} {o:Oper} {A:AS} {Sl Hl:List Nat},pre N o A Sl Hl->∀ fs,TZ (U o A) fs Sl Hl
 prom:List Nat:=[]
 pok:∀ {N:Nat} {o:Oper} {A:AS} {Sl Hl:List Nat},pre N o A Sl Hl->∀ q,q∈prom->∀ x B,PE (U o A x B).h q=PE B.h q:=by intro _ _ _ _ _ _ q hq;exact absurd hq List.not_mem_nil
 ok:∀ {N:Nat} {o:Oper} {A A':AS} {Sl Hl:List Nat},o.guard=none->pre N o A Sl Hl->(∀ t,Operand.tmp t∈o.op.operands.toList->A'.get t=A.get t)->(∀ k,lk k A'.h=lk k A.h)->J1 P N o A' fun B=> ∃ x,B=U o A x A'
structure Vu (P:Program) where
 v:V
 pre:Nat->Array Oper->Oper->AS->Prop
 ok:∀ {N:Nat} {ops:Array Oper} {o:Oper} {A:AS} {fs:List Nat} {fr:Option (List Nat)},pre N ops o A->(∀ t,t∈o.looksAt ops->t∈fs)->Vm P N ops o A v fs fr
def W7.sm{P:Program}(c:W7 P):Prop:=c.args=c.args
def VX.sm{P:Program}(c:VX P):Prop:=c.args=c.args
inductive Hint where
 | L6 (t sz:Nat)
 | Zv (t:Nat) (u:V)
 | Z3 (r:m7) (p:List Nat) (u:V)
 | gi (t:Nat)
 | fz (t:Nat)
 | n8 (t:Nat) (v:V)
 | r4 (k:Nat) (v:V)
 | to (B:AS)
 | rk (k k':Nat)
 | B9 (r:m7) (p:List Nat) (sz:Nat)
 | Tf (r:m7) (p:List Nat) (g o sz:Nat)
 | R0 (r:m7) (p:List Nat) (g o t:Nat)
 | Pe (r:m7) (p:List Nat) (g o:Nat) (v u:V)
 | O' (r0:m7) (p0:List Nat) (r:m7) (p:List Nat) (g o:Nat)
inductive Sc (P:Program):Type 1
 | nil
 | h (x:Hint) (k:Sc P)
 | ot (t:Nat) (k:Nat->Nat->Nat->Sc P)
 | oR (r:m7) (p:List Nat) (k:Nat->Nat->Nat->Sc P)
 | r (n:Nat) (C5:List V) (k:Sc P)
 | mv (k:Sc P)
 | c (c:W7 P) (ks:List (Nat×Nat)) (k:Sc P)
 | cx (c:VX P) (ks:List (Nat×Nat)) (k:c.X->Sc P)
 | cg (c:W7 P) (k:Sc P)
 | al (z:ZT P) (k:Nat->Sc P)
 | bx (k:Nat->Sc P)
 | st (old:Option V) (k:Sc P)
 | ap (k:Nat->Nat->Nat->Sc P)
 | bd (z:ZT P) (k:Sc P)
 | bs (k:Sc P)
 | Pq (bs:BL) (k:Sc P)
 | sb (l:BL) (k:Nat->Nat->Sc P)
 | mm (k:Sc P)
 | rs (k:Sc P)
 | br (a b:Sc P)
 | join (X:Type) (B:X->AS) (ok:X->Prop) (a b:Sc P) (k:X->Sc P)
 | loop (X:Type) (inv:X->AS) (ok:X->Prop) (m:X->Nat) (k:X->Sc P)
 | dx (m:Nat) (pl:List Nat) (tb:List (Nat×SO)) (zs:List (Nat×ZT P)) (k:Sc P)
 | ua (k:Nat->Sc P)
 | ux (z:Option (ZT P)) (k:Nat->Nat->Nat->Sc P)
 | cl (c:W7 P) (k:Sc P)
 | sp (b:Bool) (a1 a2:Sc P)
 | gt (k:Sc P)
 | gf (v:V) (k:Sc P)
 | ex (X:Type) (post:X->Prop) (k:X->Sc P)
 | QB (r:m7) (p:List Nat) (g o sz:Nat) (xs:List V) (k:Nat->Nat->Nat->Sc P)
 | Zu (xs:List V) (g o:Nat) (k:Nat->Nat->Nat->Sc P)
 | bo (k:Nat->Sc P)
 | cu (c:Cu P) (k:c.X->Sc P)
 | eu (c:Eu P) (k:c.X->Sc P)
 | vu (c:Vu P) (k:Sc P)
def RZ(N:Nat):Option Nat->Bool
 | none=>true
 | some d=>Nat.blt d N
theorem fa{N:Nat}{d:Option Nat}(h:RZ N d=true):dh N d:=by
 cases d with
 | none=>trivial
 | some d=>exact Nat.lt_of_succ_le (Nat.le_of_ble_eq_true h)
theorem bP{a b:Nat}(h:Nat.blt a b=true):a<b:=Nat.lt_of_succ_le (Nat.le_of_ble_eq_true h)
def Ak(N:Nat)(x:Hint)(A:AS)(K:AS->Prop):Prop:=
 match x with
 | .L6 t sz=>match Nat.blt t N,A.get t with
   | true,.sl true []=>K (A.put (some t) (.own sz [] 0 0 0))
   | _,_=>False
 | .Zv t u=>match Nat.blt t N with
   | true=>K (A.put (some t) (wk (A.get t) u))
   | false=>False
 | .Z3 r p u=>match A.at r p with
   | some (_,_,v)=>match (wk v u).n==v.n with
     | true=>K (A.setAt r p (wk v u))
     | false=>False
   | none=>False
 | .gi t=>match A.get t with
   | .hd (.slot i) [] sz g o 0 n c=>match A.get i with
     | .own Pf xs g' o' c'=>match Nat.blt t N&&Nat.blt i N&&!(t==i) with
       | true=>(sz,g,o,c,n)=(Pf,g',o',c',xs.length)/\K ((A.put (some i) .c9).put (some t) (.own Pf xs g' o' c'))
       | false=>False
     | _=>False
   | _=>False
 | .fz t=>match Nat.blt t N&&(A.get t).dE with
   | true=>K (A.put (some t) (A.get t).er)
   | false=>False
 | .n8 t v=>A.get t=v/\K (A.put (some t) v)
 | .r4 k v=>match lk k A.h with
   | some (g,u)=>u=v/\K ⟨A.t,(k,(g,v))::A.h⟩
   | none=>False
 | .to B=>Um A B.t/\TC A B.h/\K B
 | .rk k k'=>match lk k A.h,lk k' A.h with
   | some gv,none=>K ⟨A.t,(k',gv)::A.h.filter fun p=>p.1 != k⟩
   | _,_=>False
 | .B9 r p sz=>match A.at r p with
   | some (_,_,.sl true [])=>K (A.setAt r p (.own sz [] 0 0 0))
   | _=>False
 | .Tf r p g o sz=>A.at r p=some (g,o,.sl true [])/\K (A.setAt r p (.own sz [] 0 0 0))
 | .R0 r p g o t=>match A.get t with
   | .own sz xs g1 o1 c=>(A.put (some t) .c9).at r p=some (g,o,.hd (.slot t) [] sz g1 o1 0 xs.length c)/\K ((A.put (some t) .c9).setAt r p (.own sz xs g1 o1 c))
   | _=>False
 | .Pe r p g o v u=>A.at r p=some (g,o,v)/\match (wk v u).n==v.n with
   | true=>K (A.setAt r p (wk v u))
   | false=>False
 | .O' r0 p0 r p g o=>match A.at r0 p0 with
   | some (_,_,.own sz xs g1 o1 c)=>(A.setAt r0 p0 .c9).at r p=some (g,o,.hd r0 p0 sz g1 o1 0 xs.length c)/\K ((A.setAt r0 p0 .c9).setAt r p (.own sz xs g1 o1 c))
   | _=>False
def R7{P:Program}(N:Nat):Sc P->AS->(AS->Sc P->Prop)->Prop
 | .h x k,A,K=>Ak N x A fun B=>R7 N k B K
 | .ot t k,A,K=>match Nat.blt t N,A.get t with
   | true,.ow sz xs=> ∀ g o c,R7 N (k g o c) (A.put (some t) (.own sz xs g o c)) K
   | _,_=>False
 | .oR r p k,A,K=>match A.at r p with
   | some (_,_,.ow sz xs)=> ∀ g o c,R7 N (k g o c) (A.setAt r p (.own sz xs g o c)) K
   | _=>False
 | .ex X post k,A,K=>(∃ x,post x)/\∀ x,post x->R7 N (k x) A K
 | .QB r p g0 o0 sz xs k,A,K=>A.at r p=some (g0,o0,.ow sz xs)/\∀ g o1 c,R7 N (k g o1 c) (A.setAt r p (.own sz xs g o1 c)) K
 | s,A,K=>K A s
def lI(P:Program)(T T2:Nat):Option TI:=
 match tD P T,tD P T2 with
 | some (.sl e),some (.sl _)=>match ti P e with
   | some t=>match Yw P e t.sz&&Nat.blt 0 t.sz&&Nat.blt 0 t.Pq with
     | true=>some t
     | false=>none
   | none=>none
 | _,_=>none
def AN(P:Program)(T:Nat):Bool:=match tD P T with
 | some (.sl e)=>match tD P e with
   | some (.int .u8)=>true
   | _=>false
 | _=>false
def isStr(P:Program)(T:Nat):Bool:=match tD P T with
 | some .str=>true
 | _=>false
def H9{P:Program}(N:Nat)(ops:Array Oper):GT->Sc P->List Oper->AS->(AS->Sc P->Prop)->Prop
 | Vi,s,[],A,K=>K A s
 | Vi,.r n C5 k,l,A,K=>match ud P N ops n l C5 Vi A with
   | some (C,A',gt1)=>cj C (H9 N ops gt1 k (l.drop n) A' K)
   | none=>False
 | Vi,.cg c k,o::l,A,K=>match o.op,o.guard with
   | .call ⟨.value (.func f),xs,_⟩,some (j,b)=>match f==c.f&&RZ N o.dst&&SW N xs.toList&&!c.res.er.iw&&!c.res.er.dE,c.H,QR A ops j b with
     | true,[],some G=>match T3 G (j,b) Vi xs.toList A with
       | (C,B)=>cj C ((G=true->c.pre/\QA (xs.toList.map B.cp) c.args=c.args)/\H9 N ops (gtA ops o.dst j b Vi) k l (A.put o.dst (.gv G c.res.er)) K)
     | _,_,_=>False
   | _,_=>False
 | Vi,.ex X post k,o::l,A,K=>(∃ x,post x)/\∀ x,post x->H9 N ops [] (k x) (o::l) A K
 | Vi,.sp b a1 a2,o::l,A,K=>(b=true->H9 N ops [] a1 (o::l) A K)/\(b=false->H9 N ops [] a2 (o::l) A K)
 | Vi,.gt k,o::l,A,K=>match o.guard with
   | some (j,b)=>match QR A ops j b with
     | some G=>G=true/\H9 N ops [] k (⟨o.dst,o.op,o.type,o.pos,o.after,none⟩ :: l) A K
     | none=>False
   | none=>False
 | Vi,.gf v k,o::l,A,K=>match o.guard with
   | some (j,b)=>match QR A ops j b,RZ N o.dst with
     | some G,true=>G=false/\H9 N ops [] k l (A.put o.dst (.gv false v)) K
     | _,_=>False
   | none=>False
 | Vi,s,o::l,A,K=>match o.guard with
   | some _=>False
   | none=>match s with
     | .h x k=>Ak N x A fun B=>H9 N ops [] k (o::l) B K
     | .QB r p g0 o0 sz xs k=>A.at r p=some (g0,o0,.ow sz xs)/\∀ g o1 c,H9 N ops [] (k g o1 c) (o::l) (A.setAt r p (.own sz xs g o1 c)) K
     | .cu c k=>c.pre N o A/\∀ x,H9 N ops [] (k x) l (c.post x o A) K
     | .bo k=>match o.op,o.dst with
       | .buildSlice T len h9,some d=>match tD P T with
         | some (.sl e)=>match ti P e,fw A 0 h9.toList with
           | some i,some vs=>match Vk P T e len i vs&&Nat.blt d N&&Nat.blt 0 len with
             | true=> ∀ g,H9 N ops [] (k g) l (A.put (some d) (.own i.sz vs g 0 len)) K
             | false=>False
           | _,_=>False
         | _=>False
       | _,_=>False
     | .Zu xs g0 o0 k=>match o.op,o.dst with
       | .call ⟨.builtin .append,⟨[.tmp t0,x]⟩,⟨[T,T2]⟩⟩,some d=>match o.type==T&&Nat.blt d N,lI P T T2 with
         | true,some t=>match A.get t0,QI A x with
           | .hd r p sz g o1 0 n c,some (Cx,ys)=>(A.at r p=some (g0,o0,.own sz xs g o1 c)/\sz=t.sz/\n=xs.length)/\Cx/\V.aF ys=false/\aW t.sz ys/\(xs.length+ys.length)*t.Pq<=140737488355328/\
            ∀ g2 o2 c2,H9 N ops [] (k g2 o2 c2) l ((A.setAt r p .c9).put (some d) (.own t.sz (xs++ys) g2 o2 c2)) K
           | _,_=>False
         | _,_=>False
       | _,_=>False
     | .cl c k=>match o.op with
       | .call ⟨.value (.func f),xs,_⟩=>match f==c.f&&RZ N o.dst&&c.res.plain,c.H,rV A xs.toList with
         | true,[],(C,vs)=>C/\QA vs c.args=c.args/\c.pre/\H9 N ops [] k l (A.put o.dst c.res) K
         | _,_,_=>False
       | _=>False
     | .ot t k=>match Nat.blt t N,A.get t with
       | true,.ow sz xs=> ∀ g o1 c,H9 N ops [] (k g o1 c) (o::l) (A.put (some t) (.own sz xs g o1 c)) K
       | _,_=>False
     | .oR r p k=>match A.at r p with
       | some (_,_,.ow sz xs)=> ∀ g o1 c,H9 N ops [] (k g o1 c) (o::l) (A.setAt r p (.own sz xs g o1 c)) K
       | _=>False
     | .mv k=>match o.op with
       | .move x=>match RZ N o.dst with
         | true=>H9 N ops [] k l ((A.drop x).put o.dst (A.ev x)) K
         | false=>False
       | .extract (.tmp t) i=>match o.dst,A.get t with
         | some d,.tup vs=>match vs[i]? with
           | some v=>match Nat.blt d N&&Nat.blt t N&&!(d==t)&&v.isVal with
             | true=>H9 N ops [] k l ((A.put (some t) (.tup (vs.set i .c9))).put (some d) v) K
             | false=>False
           | none=>False
         | _,_=>False
       | .load T x=>match o.dst,ti P T,A.ev x with
         | some d,some i,.ptr r p g g'=>match A.at r p with
           | some (g2,VR,u)=>match Nat.blt d N&&u.n==i.sz&&i.d.agg==u.isAgg with
             | true=>(g2,VR)=(g,g')/\H9 N ops [] k l ((A.setAt r p u.kill).put (some d) u) K
             | false=>False
           | none=>False
         | _,_,_=>False
       | _=>False
     | .c c ks k=>match o.op with
       | .call ⟨.value fx,xs,_⟩=>match A.ev fx,A.tk xs.toList with
         | .lit (.func (.func f) first C6),(vs,B)=>match f==c.f&&RZ N o.dst&&Qt (ks.map (·.1))&&Qt (ks.map (·.2))&&c.args.length==(first.toList.map cV++vs++C6.toList.map cV).length with
           | true=>QA (first.toList.map cV++vs++C6.toList.map cV) c.args=c.args/\oY B ks c.H (c.pre/\H9 N ops [] k l ((B.back ks c.H').put o.dst (c.res.RC (kI ks))) K)
           | false=>False
         | _,_=>False
       | _=>False
     | .cx c ks k=>match o.op with
       | .call ⟨.value fx,xs,_⟩=>match A.ev fx,A.tk xs.toList with
         | .lit (.func (.func f) first C6),(vs,B)=>match f==c.f&&RZ N o.dst&&Qt (ks.map (·.1))&&Qt (ks.map (·.2))&&c.args.length==(first.toList.map cV++vs++C6.toList.map cV).length with
           | true=>QA (first.toList.map cV++vs++C6.toList.map cV) c.args=c.args/\oY B ks c.H (c.pre/\∀ x,c.post x->H9 N ops [] (k x) l ((B.back ks (c.H' x)).put o.dst ((c.res x).RC (kI ks))) K)
           | false=>False
         | _,_=>False
       | _=>False
     | .al z k=>match o.op,o.dst with
       | .alloc T,some d=>match T==z.T&&Nat.blt d N with
         | true=> ∀ g,H9 N ops [] (k g) l ⟨(d,.ptr (.key d) [] g 0)::A.t,(d,(g,z.v))::A.h⟩ K
         | false=>False
       | _,_=>False
     | .bx k=>match o.op,o.dst with
       | .box _ x,some d=>match Nat.blt d N&&(A.cp x).isVal with
         | true=> ∀ g,H9 N ops [] (k g) l ⟨(d,.ptr (.key d) [] g 0)::A.t,(d,(g,A.cp x))::A.h⟩ K
         | false=>False
       | _,_=>False
     | .st old k=>match o.op,o.dst with
       | .store T x y,none=>match ti P T,A.ev x with
         | some i,.ptr r p g g'=>match old with
           | none=>match (A.drop y).at r p with
             | some (g2,VR,u)=>match (A.ev y).isVal&&(A.ev y).n==u.n&&(A.ev y).n==i.sz with
               | true=>(g2,VR)=(g,g')/\H9 N ops [] k l ((A.drop y).setAt r p (A.ev y)) K
               | false=>False
             | none=>False
           | some u=>match (A.ev y).isVal&&(A.ev y).n==u.n&&(A.ev y).n==i.sz with
             | true=>(A.drop y).at r p=some (g,g',u)/\H9 N ops [] k l ((A.drop y).setAt r p (A.ev y)) K
             | false=>False
         | _,_=>False
       | _,_=>False
     | .ap k=>match o.op,o.dst with
       | .call ⟨.builtin .append,⟨[s,x]⟩,⟨[T,T2]⟩⟩,some d=>match o.type==T&&Nat.blt d N,lI P T T2 with
         | true,some t=>match Vl A s t.sz,QI A x with
           | some (C,A1,xs),some (Cx,ys)=>C/\Cx/\V.aF ys=false/\aW t.sz ys/\(xs.length+ys.length)*t.Pq<=140737488355328/\
            ∀ g o1 c,H9 N ops [] (k g o1 c) l (A1.put (some d) (.own t.sz (xs++ys) g o1 c)) K
           | none,some (Cx,ys)=>match XY A s t.sz with
             | some (C,xs)=>(C/\0<ys.length)/\Cx/\V.aF ys=false/\aW t.sz ys/\(xs.length+ys.length)*t.Pq<=140737488355328/\
               ∀ g o1 c,H9 N ops [] (k g o1 c) l (A.put (some d) (.own t.sz (xs++ys) g o1 c)) K
             | none=>False
           | _,_=>False
         | _,_=>False
       | _,_=>False
     | .bd z k=>match o.op with
       | .build T h9=>match T==z.T&&RZ N o.dst,z.v with
         | true,.agg zs=>match nj P A T zs h9.toList with
           | some v=>H9 N ops [] k l (A.put o.dst v) K
           | none=>False
         | _,_=>False
       | _=>False
     | .bs k=>match o.op with
       | .buildSlice T len h9=>match tD P T with
         | some (.sl e)=>match ti P e,fw A 0 h9.toList with
           | some i,some vs=>match Vk P T e len i vs&&RZ N o.dst with
             | true=>H9 N ops [] k l (A.put o.dst (.sl true vs)) K
             | false=>False
           | _,_=>False
         | _=>False
       | _=>False
     | .Pq bs k=>match o.op with
       | .convert src dst x=>match AN P src&&isStr P dst&&RZ N o.dst,QI A x with
         | true,some (C,ys)=>C/\ys=bs.map w6/\H9 N ops [] k l (A.put o.dst (sV bs)) K
         | _,_=>False
       | _=>False
     | .sb bs k=>match o.op,o.dst with
       | .convert src dst x,some d=>match isStr P src&&AN P dst&&Nat.blt d N with
         | true=>A.ev x=sV bs/\∀ g c,H9 N ops [] (k g c) l (A.put (some d) (.own 1 (bs.map w6) g 0 c)) K
         | false=>False
       | _,_=>False
     | .mm k=>match o.op with
       | .call ⟨.builtin b,⟨[x,y]⟩,_⟩=>match A.ev x,A.ev y,RZ N o.dst,b with
         | .lit (.int kd p),.lit (.int Un q),true,.max=>Un=kd/\H9 N ops [] k l (A.put o.dst (.lit (.int kd (max p q)))) K
         | .lit (.int kd p),.lit (.int Un q),true,.min=>Un=kd/\H9 N ops [] k l (A.put o.dst (.lit (.int kd (min p q)))) K
         | _,_,_,_=>False
       | _=>False
     | .rs k=>match o.op,o.dst with
       | .assign x,some i=>match A.ev x,A.get i,Nat.blt i N with
         | .hd (.slot i') [] Pf g' o' lo n c',.own sz xs g o1 c,true=>(i',Pf,g',o')=(i,sz,g,o1)/\(lo+n<=xs.length/\lo+c'<=c/\V.aF xs=false)/\
          H9 N ops [] k l (A.put (some i) (.own sz ((xs.drop lo).take n) g (o1+lo*sz) c')) K
         | _,_,_=>False
       | _,_=>False
     | _=>False
section
variable {P:Program} {N:Nat} {ops:Array Oper} {A A' A1 B:AS}
variable {w:World} {Pb Kb:Nat->Prop} {a:Act} {F:m7->List Nat}
theorem Cg{x:Hint}{A:AS}{K:AS->Prop}(h:Ak N x A K):Hx N A K:=by
 unfold Ak at h;split at h;split at h;rename_i e1 e2;exact Ma _ _ (bP e1) e2 h;exact h.elim;split at h;rename_i e1;exact NW _ (bP e1) h;exact h.elim;split at h;rename_i e1;split at h;rename_i e2;exact Gy _ e1 (by simpa using e2) h;exact h.elim;exact h.elim;split at h;rename_i e1;split at h;rename_i e2;split at h;rename_i e3;simp only[Zao,Bool.not_eq_true',beq_eq_false_iff_ne]at e3;obtain⟨hq,h⟩:=h;simp only[Zaq]at hq;obtain⟨rfl,rfl,rfl,rfl,hn⟩:=hq;exact Jr (bP e3.1.1) (bP e3.1.2) e3.2 e1 e2 hn h;exact h.elim;exact h.elim;exact h.elim;split at h;rename_i e1;simp only[Zao]at e1;exact Hs (bP e1.1) e1.2 h;exact h.elim;exact Mn _ h.1 h.2;split at h;rename_i e1;obtain⟨rfl,h⟩:=h;exact Ms _ e1 h;exact h.elim;exact KN h.1 h.2.1 h.2.2;split at h;rename_i e1 e2;exact Ov e1 e2 h;exact h.elim;split at h;rename_i e1;exact AR e1 h;exact h.elim;exact AR h.1 h.2;split at h;rename_i e1;exact Gv e1 h.1 rfl h.2;exact h.elim;obtain⟨h1,h⟩:=h;split at h;rename_i e2;exact Gy _ h1 (by simpa using e2) h;exact h.elim;split at h;rename_i e1;exact Hj e1 h.1 rfl h.2;exact h.elim
theorem lU:∀ (s:Sc P) {A:AS} {K:AS->Sc P->Prop},R7 N s A K->Hx N A fun B=> ∃ s',K B s':=by
 intro s;induction s with
 | h x k ih=>intro A K h;exact(Cg h).bind fun B hB=>ih hB
 | ot t k ih=>
   intro A K h;simp only[R7]at h;split at h;rename_i e1 e2;exact(CP (bP e1) e2 (K:=fun B=>Hx N B fun B=> ∃ s',K B s') fun g o c=>ih g o c (h g o c)).bind fun _ hB=>hB;exact h.elim
 | oR r p k ih=>
   intro A K h;simp only[R7]at h;split at h;rename_i e1;exact(sw e1 (K:=fun B=>Hx N B fun B=> ∃ s',K B s') fun g o c=>ih g o c (h g o c)).bind fun _ hB=>hB;exact h.elim
 | ex X post k ih=>
   intro A K h;obtain⟨⟨x,hx⟩,h⟩:=h;exact ih x (h x hx)
 | QB r p g0 o0 sz xs k ih=>
   intro A K h;exact(sw h.1 (K:=fun B=>Hx N B fun B=> ∃ s',K B s') fun g o c=>ih g o c (h.2 g o c)).bind fun _ hB=>hB
 | _=>intro A K h;exact Hx.of ⟨_,h⟩
theorem ib{T T2:Nat}{t:TI}(h:lI P T T2=some t):∃ e e2,tD P T=some (.sl e)/\tD P T2=some (.sl e2)/\ti P e=some t/\Yw P e t.sz=true/\0<t.sz/\0<t.Pq:=by
 unfold lI at h;split at h;rename_i e e2 h1 h2;split at h;rename_i t' h3;split at h;rename_i h4;simp only[Zan]at h;subst h;simp only[Zao]at h4;exact⟨e,e2,h1,h2,h3,h4.1.1,bP h4.1.2,bP h4.2⟩;simp at h;simp at h;simp at h
theorem yG{T:Nat}(h:AN P T=true):∃ e,tD P T=some (.sl e)/\tD P e=some (.int .u8):=by
 unfold AN at h;split at h;rename_i e h1;split at h;rename_i h2;exact⟨e,h1,h2⟩;simp at h;simp at h
theorem vo{T:Nat}(h:isStr P T=true):tD P T=some .str:=by
 unfold isStr at h;split at h;rename_i h1;exact h1;simp at h
theorem Hi:∀ (s:Sc P) {gt:GT} {l:List Oper} {A:AS} {K:AS->Sc P->Prop},H9 N ops gt s l A K->(hg:Vn ops gt A:=by exact Gp)->WL P N ops l A fun B=> ∃ s',K B s':=by
 intro s;induction s with
 | nil=>
   intro gt l A K h O9;cases l with
   | nil=>exact⟨_,h⟩
   | cons o l=>simp only[H9]at h;split at h <;> exact h.elim
 | r n C5 k ih=>
   intro gt l A K h O9;cases l with
   | nil=>exact⟨_,h⟩
   | cons o l=>
     simp only[H9]at h;split at h;rename_i C A' gt1 e;obtain⟨h1,h2⟩:=oK.1 h;obtain⟨⟨C1,e1,e2⟩,e3⟩:=uu n e O9 h1;exact qC n e1 e2 (ih h2 e3);exact h.elim
 | cg c k ih=>
   intro gt l A K h O9;cases l with
   | nil=>exact⟨_,h⟩
   | cons o l=>
     obtain⟨dst,op,ty,pos,after,E9⟩:=o;simp only[H9]at h;split at h;rename_i _ _ f xs Pt j b;split at h;rename_i G h1 h2 h3;revert h;cases hu:T3 G (j,b) gt xs.toList A with | mk C0 B=>?_
     intro h;obtain⟨SC,h⟩:=oK.1 h;obtain⟨C1,u1,u2⟩:=np xs.toList (fun t ht c v hv=>by have:=O9 _ ht c v hv;rw[h3]at this;exact(Option.some.inj this).symm) hu SC;simp only[Zao,Zbl,Bool.not_eq_true']at h1;obtain⟨⟨⟨⟨h1,h4⟩,h5⟩,h6⟩,h7⟩:=h1;subst h1;refine Iz (fa h4) h3 u1 h5 rfl (fun hG=>⟨u2,?_,h6,h7⟩) (ih h.2 (KR O9 h3));obtain⟨UH,hw⟩:=h.1 hG;have hc:=c.ok UH;rw[h2]at hc;have hp:=hc.FI;refine⟨hp.1,fun w Pb cargs k1 k2=>?_⟩;refine(hp.2 w Pb cargs k1 (by have:=qs _ c.args k2;rw[hw]at this;exact this)).mono ?_;rintro e w' ⟨r,x,F,Pb',rfl,⟨H,q1,_⟩,rest⟩;exact⟨r,x,F,Pb',rfl,by rw[q1],rest⟩;exact h.elim;exact h.elim
 | ex X post k ih=>
   intro gt l A K h O9;cases l with
   | nil=>exact⟨_,h⟩
   | cons o l=>
     simp only[H9]at h;obtain⟨⟨x,hx⟩,h⟩:=h;exact ih x (h x hx)
 | QB r p g0 o0 sz xs k ih=>
   intro gt l A K h O9;cases l with
   | nil=>exact⟨_,h⟩
   | cons o l=>
     simp only[H9]at h;split at h;exact h.elim;rename_i hg;exact uK hg (sw h.1 fun g o1 c=>ih g o1 c (h.2 g o1 c))
 | cu c k ih=>
   intro gt l A K h O9;cases l with
   | nil=>exact⟨_,h⟩
   | cons o l=>
     obtain⟨dst,op,ty,pos,after,E9⟩:=o;simp only[H9]at h;split at h;exact h.elim;rename_i hg;show J1 P N _ A _;exact c.ok rfl h.1 fun x=>ih x (h.2 x)
 | bo k ih=>
   intro gt l A K h O9;cases l with
   | nil=>exact⟨_,h⟩
   | cons o l=>
     obtain⟨dst,op,ty,pos,after,E9⟩:=o;simp only[H9]at h;split at h;exact h.elim;show J1 P N _ A _;split at h;split at h;rename_i e e1;split at h;rename_i i vs e2 e3;split at h;rename_i e4;simp only[Zao]at e4;exact CM rfl rfl (bP e4.1.2) e1 e2 e3 e4.1.1 (bP e4.2) fun g=>ih g (h g);exact h.elim;exact h.elim;exact h.elim;exact h.elim
 | Zu xs g0 o0 k ih=>
   intro gt l A K h O9;cases l with
   | nil=>exact⟨_,h⟩
   | cons o l=>
     obtain⟨dst,op,ty,pos,after,E9⟩:=o;simp only[H9]at h;split at h;exact h.elim;show J1 P N _ A _;split at h;split at h;rename_i t e1 e2;split at h;rename_i e3 e4;simp only[Zao,Zbl]at e1;obtain⟨⟨k1,k2,k3⟩,k4,k5,k6,k7,k8⟩:=h;obtain⟨e,e',q1,q2,q3,q4,q5,q6⟩:=ib e2;exact Bp rfl e1.1 rfl (bP e1.2) q1 q2 q3 (kA q4) q5 q6 e3 k1 k2 k3 e4 k4 k5 k6 k7 fun g o1 c=>ih g o1 c (k8 g o1 c);exact h.elim;exact h.elim;exact h.elim
 | sp b a1 a2 X' X9=>
   intro gt l A K h O9;cases l with
   | nil=>exact⟨_,h⟩
   | cons o l=>
     simp only[H9]at h;cases b with
     | true=>exact X' (h.1 rfl)
     | false=>exact X9 (h.2 rfl)
 | gt k ih=>
   intro gt l A K h O9;cases l with
   | nil=>exact⟨_,h⟩
   | cons o l=>
     obtain⟨dst,op,ty,pos,after,E9⟩:=o;simp only[H9]at h;split at h;rename_i j b;split at h;rename_i G hG;exact ra rfl hG (fun _=>ih h.2) (fun hf=>by rw[h.1]at hf;cases hf);exact h.elim;exact h.elim
 | gf v k ih=>
   intro gt l A K h O9;cases l with
   | nil=>exact⟨_,h⟩
   | cons o l=>
     obtain⟨dst,op,ty,pos,after,E9⟩:=o;simp only[H9]at h;split at h;rename_i j b;split at h;rename_i G hG hd;exact ra rfl hG (fun ht=>by rw[h.1]at ht;cases ht) (fun _=>⟨fa hd,.gv false v,fun _ _=>⟨rfl,⟨(fun hh=>Bool.noConfusion hh),fun _=>rfl⟩⟩,ih h.2⟩);exact h.elim;exact h.elim
 | cl c k ih=>
   intro gt l A K h O9;cases l with
   | nil=>exact⟨_,h⟩
   | cons o l=>
     obtain⟨dst,op,ty,pos,after,E9⟩:=o;simp only[H9]at h;split at h;exact h.elim;show J1 P N _ A _;split at h;split at h;rename_i C vs e1 e2 e3;simp only[Zao,Zbl]at e1;obtain⟨⟨rfl,e1⟩,e4⟩:=e1;obtain⟨k1,k2,k3,k4⟩:=h;have hc:=c.ok k3;rw[e2]at hc;have hp:=hc.FI;refine IX (Q:=fun r=>r=c.res) rfl (fa e1) ⟨hp.1,fun w Pb cargs q1 q2=>?_⟩ e3 k1 k2 (fun r hr=>by rw[hr];exact e4) (fun r hr=>by rw[hr];exact ih k4);refine(hp.2 w Pb cargs q1 q2).mono ?_;rintro e w' ⟨r,x,F,Pb',rfl,⟨H,q,_⟩,rest⟩;exact⟨r,x,F,Pb',rfl,q,rest⟩;exact h.elim;exact h.elim
 | h x k ih=>
   intro gt l A K h O9;cases l with
   | nil=>exact⟨_,h⟩
   | cons o l=>
     simp only[H9]at h;split at h;exact h.elim;rename_i hg;exact uK hg ((Cg h).mono fun B hB=>ih hB)
 | ot t k ih=>
   intro gt l A K h O9;cases l with
   | nil=>exact⟨_,h⟩
   | cons o l=>
     simp only[H9]at h;split at h;exact h.elim;rename_i hg;split at h;rename_i e1 e2;exact uK hg (CP (bP e1) e2 fun g o1 c=>ih g o1 c (h g o1 c));exact h.elim
 | oR r p k ih=>
   intro gt l A K h O9;cases l with
   | nil=>exact⟨_,h⟩
   | cons o l=>
     simp only[H9]at h;split at h;exact h.elim;rename_i hg;split at h;rename_i e1;exact uK hg (sw e1 fun g o1 c=>ih g o1 c (h g o1 c));exact h.elim
 | mv k ih=>
   intro gt l A K h O9;cases l with
   | nil=>exact⟨_,h⟩
   | cons o l=>
     obtain⟨dst,op,ty,pos,after,E9⟩:=o;simp only[H9]at h;split at h;exact h.elim;show J1 P N _ A _;split at h;split at h;rename_i e;exact EL rfl (fa e) (ih h);exact h.elim;split at h;rename_i d vs e1;split at h;rename_i v e2;split at h;rename_i e3;simp only[Zao,Bool.not_eq_true',beq_eq_false_iff_ne]at e3;exact zZ rfl rfl (bP e3.1.1.1) (bP e3.1.1.2) e3.1.2 e1 e2 e3.2 (ih h);exact h.elim;exact h.elim;exact h.elim;split at h;rename_i d i r p g g' e1 e2;split at h;rename_i g2 VR u e3;split at h;rename_i e4;simp only[Zao,Zbl]at e4;obtain⟨hq,h⟩:=h;simp only[Zaq]at hq;obtain⟨rfl,rfl⟩:=hq;exact xL rfl rfl (bP e4.1.1) e1 e2 e3 e4.1.2 e4.2 (ih h);exact h.elim;exact h.elim;exact h.elim;exact h.elim
 | c c ks k ih=>
   intro gt l A K h O9;cases l with
   | nil=>exact⟨_,h⟩
   | cons o l=>
     obtain⟨dst,op,ty,pos,after,E9⟩:=o;simp only[H9]at h;split at h;exact h.elim;show J1 P N _ A _;split at h;split at h;rename_i vs B e1 e2;split at h;rename_i e3;simp only[Zao,Zbl]at e3;obtain⟨⟨⟨⟨h1,h2⟩,h3⟩,h4⟩,h5⟩:=e3;subst h1;obtain⟨k1,h⟩:=h;obtain⟨k2,k3,k4⟩:=jT h;refine pJ ks rfl e1 (fa h2) h3 h4 (c.ok k3) (by rw[e2];exact k1) (by rw[e2];exact h5) (by rw[e2];exact k2) ?_;rintro r H' ⟨rfl,rfl⟩;rw[e2];exact ih k4;exact h.elim;exact h.elim;exact h.elim
 | cx c ks k ih=>
   intro gt l A K h O9;cases l with
   | nil=>exact⟨_,h⟩
   | cons o l=>
     obtain⟨dst,op,ty,pos,after,E9⟩:=o;simp only[H9]at h;split at h;exact h.elim;show J1 P N _ A _;split at h;split at h;rename_i vs B e1 e2;split at h;rename_i e3;simp only[Zao,Zbl]at e3;obtain⟨⟨⟨⟨h1,h2⟩,h3⟩,h4⟩,h5⟩:=e3;subst h1;obtain⟨k1,h⟩:=h;obtain⟨k2,k3,k4⟩:=jT h;refine pJ ks rfl e1 (fa h2) h3 h4 (c.ok k3) (by rw[e2];exact k1) (by rw[e2];exact h5) (by rw[e2];exact k2) ?_;rintro r H' ⟨x,hx,rfl,rfl⟩;rw[e2];exact ih x (k4 x hx);exact h.elim;exact h.elim;exact h.elim
 | al z k ih=>
   intro gt l A K h O9;cases l with
   | nil=>exact⟨_,h⟩
   | cons o l=>
     obtain⟨dst,op,ty,pos,after,E9⟩:=o;simp only[H9]at h;split at h;exact h.elim;show J1 P N _ A _;split at h;split at h;rename_i e;simp only[Zao,Zbl]at e;obtain⟨rfl,e⟩:=e;exact tw rfl rfl (bP e) z.ok fun g=>ih g (h g);exact h.elim;exact h.elim
 | bx k ih=>
   intro gt l A K h O9;cases l with
   | nil=>exact⟨_,h⟩
   | cons o l=>
     obtain⟨dst,op,ty,pos,after,E9⟩:=o;simp only[H9]at h;split at h;exact h.elim;show J1 P N _ A _;split at h;split at h;rename_i e;simp only[Zao]at e;exact LR rfl rfl (bP e.1) e.2 fun g=>ih g (h g);exact h.elim;exact h.elim
 | st old k ih=>
   intro gt l A K h O9;cases l with
   | nil=>exact⟨_,h⟩
   | cons o l=>
     obtain⟨dst,op,ty,pos,after,E9⟩:=o;simp only[H9]at h;split at h;exact h.elim;show J1 P N _ A _;split at h;split at h;rename_i i r p g g' e1 e2;split at h;split at h;rename_i g2 VR u e3;split at h;rename_i e4;simp only[Zao,Zbl]at e4;obtain⟨hq,h⟩:=h;simp only[Zaq]at hq;obtain⟨rfl,rfl⟩:=hq;exact sS rfl rfl e1 e2 e3 e4.1.1 e4.1.2 e4.2 (ih h);exact h.elim;exact h.elim;split at h;rename_i u e4;simp only[Zao,Zbl]at e4;exact sS rfl rfl e1 e2 h.1 e4.1.1 e4.1.2 e4.2 (ih h.2);exact h.elim;exact h.elim;exact h.elim
 | ap k ih=>
   intro gt l A K h O9;cases l with
   | nil=>exact⟨_,h⟩
   | cons o l=>
     obtain⟨dst,op,ty,pos,after,E9⟩:=o;simp only[H9]at h;split at h;exact h.elim;show J1 P N _ A _;split at h;split at h;rename_i t e1 e2;split at h;rename_i e3 e4;simp only[Zao,Zbl]at e1;obtain⟨k1,k2,k3,k4,k5,k6⟩:=h;obtain⟨e,e',q1,q2,q3,q4,q5,q6⟩:=ib e2;exact uF rfl e1.1 rfl (bP e1.2) q1 q2 q3 (kA q4) q5 q6 e3 k1 e4 k2 k3 k4 k5 fun g o1 c=>ih g o1 c (k6 g o1 c);rename_i e3 e4;split at h;rename_i e5;simp only[Zao,Zbl]at e1;obtain⟨k1,k2,k3,k4,k5,k6⟩:=h;obtain⟨e,e',q1,q2,q3,q4,q5,q6⟩:=ib e2;exact Bl rfl e1.1 rfl (bP e1.2) q1 q2 q3 (kA q4) q5 q6 e5 k1.1 k1.2 e4 k2 k3 k4 k5 fun g o1 c=>ih g o1 c (k6 g o1 c);exact h.elim;exact h.elim;exact h.elim;exact h.elim
 | bd z k ih=>
   intro gt l A K h O9;cases l with
   | nil=>exact⟨_,h⟩
   | cons o l=>
     obtain⟨dst,op,ty,pos,after,E9⟩:=o;simp only[H9]at h;split at h;exact h.elim;split at h;split at h;rename_i zs e1 e2;split at h;rename_i v e3;simp only[Zao,Zbl]at e1;obtain⟨rfl,e1⟩:=e1;have hz:=z.ok;rw[e2]at hz;exact IG zs v hz (fa e1) e3 (ih h);exact h.elim;exact h.elim;exact h.elim
 | bs k ih=>
   intro gt l A K h O9;cases l with
   | nil=>exact⟨_,h⟩
   | cons o l=>
     obtain⟨dst,op,ty,pos,after,E9⟩:=o;simp only[H9]at h;split at h;exact h.elim;split at h;split at h;rename_i e e1;split at h;rename_i i vs e2 e3;split at h;rename_i e4;simp only[Zao]at e4;exact zY e i vs ⟨e1,e2⟩ (fa e4.2) e3 e4.1 (ih h);exact h.elim;exact h.elim;exact h.elim;exact h.elim
 | Pq bs k ih=>
   intro gt l A K h O9;cases l with
   | nil=>exact⟨_,h⟩
   | cons o l=>
     obtain⟨dst,op,ty,pos,after,E9⟩:=o;simp only[H9]at h;split at h;exact h.elim;split at h;split at h;rename_i C ys e1 e2;simp only[Zao]at e1;obtain⟨hC,rfl,h⟩:=h;obtain⟨e,q1,q2⟩:=yG e1.1.1;exact Cn e C bs ⟨q1,q2,vo e1.1.2⟩ (fa e1.2) e2 hC (ih h);exact h.elim;exact h.elim
 | sb bs k ih=>
   intro gt l A K h O9;cases l with
   | nil=>exact⟨_,h⟩
   | cons o l=>
     obtain⟨dst,op,ty,pos,after,E9⟩:=o;simp only[H9]at h;split at h;exact h.elim;split at h;split at h;rename_i e1;simp only[Zao]at e1;obtain⟨e,q1,q2⟩:=yG e1.1.2;exact Cz e bs ⟨vo e1.1.1,q1,q2⟩ (bP e1.2) h.1 fun g c=>ih g c (h.2 g c);exact h.elim;exact h.elim
 | mm k ih=>
   intro gt l A K h O9;cases l with
   | nil=>exact⟨_,h⟩
   | cons o l=>
     obtain⟨dst,op,ty,pos,after,E9⟩:=o;simp only[H9]at h;split at h;exact h.elim;split at h;split at h;rename_i kd p Un q e1 e2 e3;obtain⟨rfl,h⟩:=h;exact MS _ p q (fa e3) e1 e2 (ih h);rename_i kd p Un q e1 e2 e3;obtain⟨rfl,h⟩:=h;exact Ni _ p q (fa e3) e1 e2 (ih h);exact h.elim;exact h.elim
 | rs k ih=>
   intro gt l A K h O9;cases l with
   | nil=>exact⟨_,h⟩
   | cons o l=>
     obtain⟨dst,op,ty,pos,after,E9⟩:=o;simp only[H9]at h;split at h;exact h.elim;split at h;split at h;rename_i e1 e2 e3;obtain⟨hq,⟨h1,h2,h3⟩,h⟩:=h;simp only[Zaq]at hq;obtain⟨rfl,rfl,rfl,rfl⟩:=hq;exact Ff _ _ _ _ (bP e3) e1 e2 h1 h2 h3 (ih h);exact h.elim;exact h.elim
 | _=>
   intro gt l A K h O9;cases l with
   | nil=>exact⟨_,h⟩
   | cons o l=>simp only[H9]at h;split at h <;> exact h.elim
end
section
variable {P:Program} {N:Nat} {ops:Array Oper} {A A' A1 B:AS}
def pA(P:Program)(N:Nat)(ops:Array Oper)(o:Oper)(A:AS)(v:V):Prop:=
 ∀ A':AS,(∀ t,t∈o.looksAt ops->A'.get t=A.get t)->gd ops o A' (J1 P N o A' (fun B=>H2 B (A'.put o.dst v))) (dh N o.dst/\∀ w Pb,RV w Pb v undef [])
def OE(ops:Array Oper)(Sl Hl:List Nat)(A:AS):Op->Bool
 | .load _ x=>match A.ev x with
   | .ptr (.slot i) _ _ _=>ops.toList.all (fun o=>o.dst != some i)&&!Sl.contains i
   | .ptr (.key k) _ _ _=>!Hl.contains k
   | _=>true
 | _=>true
theorem AQ{o:Oper}{x:Operand}(hg:o.guard=none)(ho:o.op=.assign x)(hd:dh N o.dst)(hn:(A.ev x).dE=false):pA P N ops o A (A.ev x):=by
 intro A' h1;unfold gd;rw[hg];simp only;have e1:A'.ev x=A.ev x:=bK fun t ht=>h1 t (fh (by rw[ho,ht];simp[Op.operands]));have e2:A'.drop x=A':=by
  cases x with
  | tmp t=>
    have e3:A'.get t=A.get t:=e1;have WA:(A.get t).dE=false:=hn;simp[AS.drop,e3,WA]
  | _=>rfl
 rw[<- e1];refine wQ ho hd ?_;rw[e2];exact⟨fun _=>rfl,fun _=>rfl⟩
theorem Fe{d:Option Nat} {f:FuncId} {xs:Array Operand} {Pt:Array TypeId} {ty:TypeId} {pos:String} {after:Array Edge}
 {Q:V->Prop} {E:V} (hd:dh N d) (hc:PC P f (xs.toList.map A.cp) Q) (hE:∀ r,Q r->r.er=E):
 pA P N ops ⟨d,.call { callee:=.value (.func f),args:=xs,argTypes:=Pt },ty,pos,after,none⟩ A E:=fun A' h1=>by
 unfold gd;refine qc rfl hd ?_ hE ⟨fun _=>rfl,fun _=>rfl⟩;rw[tM fun t ht=>h1 t (fh (by simp[Op.operands,Call.operands];simpa using ht))];exact hc
theorem vV{d:Option Nat} {T len ty:Nat} {h9:Array (Nat×Operand)} {pos:String} {after:Array Edge} (e:Nat) (i:TI) (vs:List V)
 (Uu:tD P T=some (.sl e)/\ti P e=some i) (hd:dh N d) (Ut:fw A 0 h9.toList=some vs) (hB:Vk P T e len i vs=true):
 pA P N ops ⟨d,.buildSlice T len h9,ty,pos,after,none⟩ A (.sl true vs):=fun A' h1=>by
 show J1 P N _ A' _;refine Gu rfl hd Uu.1 Uu.2 ?_ hB ⟨fun _=>rfl,fun _=>rfl⟩;rw[qg (A:=A) _ _ (fun t ht=>h1 t (fh (by simpa[Op.operands] using ht)))];exact Ut
theorem Cs{d:Option Nat} {T ty:Nat} {h9:Array (Nat×Operand)} {pos:String} {after:Array Edge} (zs:List V) (v:V)
 (hz:pf P T (.agg zs)) (hd:dh N d) (hb:nj P A T zs h9.toList=some v):pA P N ops ⟨d,.build T h9,ty,pos,after,none⟩ A v:=fun A' h1=>by
 show J1 P N _ A' _;have e:nj P A' T zs h9.toList=some v:=by
  rw[<- hb];unfold nj;have:(h9.toList.map fun (i,x)=>(i,A'.cp x))=h9.toList.map fun (i,x)=>(i,A.cp x):=by
   apply List.map_congr_left;rintro⟨i,x⟩ hx;simp only;rw[mE (x:=x) fun t ht=>h1 t (fh (by
    subst ht;simp only[Op.operands,List.mem_map];exact⟨(i,.tmp t),hx,rfl⟩))]
  rw[this]
 obtain⟨C,k1,k2⟩:=zW e;exact zR rfl hd hz k1 k2 ⟨fun _=>rfl,fun _=>rfl⟩
theorem yp{d:Option Nat} {src dst ty:Nat} {x:Operand} {pos:String} {after:Array Edge} (e:Nat) (full:Bool) (bs:BL)
 (ht:tD P src=some (.sl e)/\tD P e=some (.int .u8)/\tD P dst=some .str) (hd:dh N d) (hx:A.ev x=.sl full (bs.map w6)):
 pA P N ops ⟨d,.convert src dst x,ty,pos,after,none⟩ A (sV bs):=fun A' h1=>by
 show J1 P N _ A' _;have e1:A'.ev x=.sl full (bs.map w6):=by rw[<- hx];exact bK fun t ht=>h1 t (fh (by rw[ht];simp[Op.operands]))
 exact ub rfl hd ht.1 ht.2.1 ht.2.2 (C:=True) (by simp only[QI,e1]) trivial ⟨fun _=>rfl,fun _=>rfl⟩
def jx(b:Option (Sum Nat (Nat×List Nat)))(B:AS):AS:=match b with
 | none=>B
 | some (.inl t)=>B.put (some t) .c9
 | some (.inr (k,p))=>B.setAt (.key k) p .c9
def Ys(A:AS)(s:Operand)(sz:Nat):Option (Prop×Option (Sum Nat (Nat×List Nat))×List V):=
 match s with
 | .const (.slice none 0 0)=>some (True,none,[])
 | .tmp t=>match A.get t with
   | .sl true []=>some (True,none,[])
   | .own Pf xs _ _ _=>some (Pf=sz,some (.inl t),xs)
   | .hd (.slot i) [] Pf g o 0 n c=>match A.get i with
     | .own Qq xs g2 o2 c2=>some ((Pf,Qq,g2,o2,c2,n)=(sz,sz,g,o,c,xs.length),some (.inl i),xs)
     | _=>none
   | .hd (.key k) p Pf g o 0 n c=>match A.at (.key k) p with
     | some (_,_,.own Qq xs g2 o2 c2)=>some ((Pf,Qq,g2,o2,c2,n)=(sz,sz,g,o,c,xs.length),some (.inr (k,p)),xs)
     | _=>none
   | _=>none
 | _=>none
theorem Lg{s:Operand}{sz:Nat}{C:Prop}{b:Option (Sum Nat (Nat×List Nat))}{xs:List V}(h:Ys A s sz=some (C,b,xs)):Vl A s sz=some (C,jx b A,xs):=by
 have fin:∀ {C':Prop} {b':Option (Sum Nat (Nat×List Nat))} {xs':List V},some (C',b',xs')=some (C,b,xs)->some (C',jx b' A,xs')=some (C,jx b A,xs):=fun h=>by
  have h:=Option.some.inj h;have h1:=(Prod.mk.inj h).1;have h2:=(Prod.mk.inj (Prod.mk.inj h).2).1;have h3:=(Prod.mk.inj (Prod.mk.inj h).2).2;rw[h1,h2,h3]
 unfold Ys at h;unfold Vl;split at h;exact fin h;split at h;rename_i e;(try simp only[e]);exact fin h;rename_i e;(try simp only[e]);exact fin h;rename_i e;(try simp only[e]);split at h;rename_i e2;(try simp only[e2]);exact fin h;simp at h;rename_i e;(try simp only[e]);split at h;rename_i e2;(try simp only[e2]);exact fin h;simp at h;simp at h;simp at h
def qm(s:Operand)(Sl El Hl:List Nat):Option (Sum Nat (Nat×List Nat))->Bool
 | none=>true
 | some (.inl t)=>Sl.contains t&&(match s with | .tmp q=>q==t||El.contains t | _=>false)
 | some (.inr (k,_))=>Hl.contains k
theorem Ha{s:Operand} {sz:Nat} {C:Prop} {b:Option (Sum Nat (Nat×List Nat))} {xs:List V} {Sl El Hl:List Nat} (h:Ys A s sz=some (C,b,xs)) (hb:qm s Sl El Hl b=true)
 (h1:∀ t,s=.tmp t->A'.get t=A.get t) (h2:∀ t,t∈El->A'.get t=A.get t) (h3:∀ k,lk k A'.h=lk k A.h):Ys A' s sz=some (C,b,xs):=by
 unfold Ys at h ⊢;split at h;exact h;rename_i t;have hg:=h1 t rfl;have hk:∀ k p,A'.at (.key k) p=A.at (.key k) p:=fun k p=>by simp only[AS.at,h3]
 simp only[hg,hk];split at h;exact h;exact h;rename_i i Pf g o n c e;split at h;rename_i Qq xs2 g2 o2 c2 e2;have:A'.get i=A.get i:=by
  simp only[Zan]at h;obtain⟨_,h⟩:=Prod.mk.inj h;obtain⟨rfl,_⟩:=Prod.mk.inj h;simp only[qm,Zao,Bool.or_eq_true,Zbl]at hb;rcases hb.2 with q | q;rw[<- q];exact hg;exact h2 i (by simpa using q)
 simp only[this,e2];exact h;simp at h;exact h;simp at h;simp at h
def Et(P:Program)(N:Nat)(Sl El Hl:List Nat)(o:Oper)(A:AS)(z:Option (ZT P)):Option (Prop×(Nat×Nat×Nat->AS->AS)):=
 match o.op,o.dst with
 | .alloc T,some d=>match z with
   | some z=>match T==z.T&&Nat.blt d N&&Sl.contains d&&Hl.contains d with
     | true=>some (True,fun gh B=>⟨(d,.ptr (.key d) [] gh.1 0)::B.t,(d,(gh.1,z.v))::B.h⟩)
     | false=>none
   | none=>none
 | .call ⟨.builtin .append,⟨[s,x]⟩,⟨[T,T2]⟩⟩,some d=>match o.type==T&&Nat.blt d N&&Sl.contains d,lI P T T2 with
   | true,some t=>match Ys A s t.sz,A.ev x with
     | some (C,b,xs),.sl _ ys=>match qm s Sl El Hl b with
       | true=>some (C/\V.aF ys=false/\aW t.sz ys/\(xs.length+ys.length)*t.Pq<=140737488355328,fun gh B=>(jx b B).put (some d) (.own t.sz (xs++ys) gh.1 gh.2.1 gh.2.2))
       | false=>none
     | none,.sl _ ys=>match XY A s t.sz with
       | some (C,xs)=>some ((C/\0<ys.length)/\V.aF ys=false/\aW t.sz ys/\(xs.length+ys.length)*t.Pq<=140737488355328,fun gh B=>B.put (some d) (.own t.sz (xs++ys) gh.1 gh.2.1 gh.2.2))
       | none=>none
     | _,_=>none
   | _,_=>none
 | .load T x,some d=>match ti P T,A.ev x with
   | some i,.ptr (.key k) p g g'=>match A.at (.key k) p with
     | some (g2,VR,u)=>match Nat.blt d N&&u.n==i.sz&&i.d.agg==u.isAgg&&Sl.contains d&&Hl.contains k with
       | true=>some ((g2,VR)=(g,g'),fun _ B=>(B.setAt (.key k) p u.kill).put (some d) u)
       | false=>none
     | none=>none
   | _,_=>none
 | _,_=>none
theorem bW{k:Nat}{p:List Nat}{v:V}{t:Nat}:(B.setAt (.key k) p v).get t=B.get t:=by
 simp only[AS.setAt];split <;> rfl
theorem rz{k q:Nat}{p:List Nat}{v:V}(h:q≠k):lk q (B.setAt (.key k) p v).h=lk q B.h:=by
 simp only[AS.setAt];split;simp only[lk];rw[if_neg h];rfl
theorem gy{k q:Nat}{p:List Nat}{v:V}{B':AS}(h:∀ k,lk k B.h=lk k B'.h):lk q (B.setAt (.key k) p v).h=lk q (B'.setAt (.key k) p v).h:=by
 simp only[AS.setAt];rw[<- h k];split;simp only[lk];split;rfl;exact h q;exact h q
theorem ov{B C:AS}{d:Option Nat}{v:V}(h:H2 B C):H2 (B.put d v) (C.put d v):=by
 cases d with
 | none=>exact h
 | some d'=>exact⟨fun t=>by rw[AS.aO,AS.aO];split
                            rfl;exact h.1 t,h.2⟩
theorem nU{k k0:Nat}{p:List Nat}{v:V}{gv:Nat×V}(h:k≠k0):H2 (AS.setAt ⟨B.t,(k,gv)::B.h⟩ (.key k0) p v) ⟨(B.setAt (.key k0) p v).t,(k,gv)::(B.setAt (.key k0) p v).h⟩:=by
 have e:lk k0 ((k,gv)::B.h)=lk k0 B.h:=by simp only[lk];rw[if_neg (Ne.symm h)]
 simp only[AS.setAt,e];split;refine⟨fun _=>rfl,fun x=>?_⟩;simp only[lk];by_cases c:x=k;rw[if_pos c,if_neg (fun c2=>h (c.symm.trans c2)),if_pos c];rw[if_neg c,if_neg c];exact⟨fun _=>rfl,fun _=>rfl⟩
theorem vO{A B:AS}{k:Nat}{gv:Nat×V}{d:Nat}{v:V}(h:H2 A ⟨B.t,(k,gv)::B.h⟩):H2 (A.put (some d) v) ⟨(B.put (some d) v).t,(k,gv)::(B.put (some d) v).h⟩:=ov h
theorem LQ{Sl El Hl:List Nat}{o:Oper}{z:Option (ZT P)}{C:Prop}{U:Nat×Nat×Nat->AS->AS}(h:Et P N Sl El Hl o A z=some (C,U))(hC:C)(d:Nat)(hd:o.dst=some d):
 UOk U Sl Hl d/\Om P N ops El U o A:=by
 obtain⟨dst,op,ty,pos,after,E9⟩:=o;simp only at hd;subst hd;unfold Et at h;simp only at h;split at h;rename_i T d' e;simp only[Zan]at e;subst e;split at h;rename_i z;split at h;rename_i e;simp only[Zan,Zaq]at h;obtain⟨_,rfl⟩:=h;simp only[Zao,Zbl,Zbi,Zbk]at e;obtain⟨⟨⟨rfl,e1⟩,e2⟩,e3⟩:=e;refine⟨⟨fun gh B t ht=>?_,fun gh B k hk=>?_,fun gh B B' hB=>⟨fun t=>?_,fun k=>?_⟩,fun gh B t v ht=>⟨fun q=>?_,fun k=>rfl⟩,fun gh B v=>⟨fun q=>?_,fun k=>rfl⟩,fun gh B k gv hq=>?_⟩,fun A' _ _ K hK=>?_⟩;simp only[AS.get,lk];rw[if_neg (fun c=>ht (by rw[c];exact e2))];simp only[lk];rw[if_neg (fun c=>hk (by rw[c];exact e3))];simp only[AS.get,lk];split;rfl;exact hB.1 t;simp only[lk];split;rfl;exact hB.2 k;simp only[AS.put,AS.get,lk];by_cases c:q=d;subst c;rw[if_pos rfl,if_neg (fun c=>ht (by rw[<- c];exact e2)),if_pos rfl];rw[if_neg c,if_neg c];simp only[AS.put,AS.get,lk];by_cases c:q=d;subst c;simp;rw[if_neg c,if_neg c,if_neg c];refine⟨fun _=>rfl,fun x=>?_⟩;simp only[lk];by_cases c:x=d;rw[if_pos c,if_neg (fun c2=>hq (by rw[<- c2,c];exact e3)),if_pos c];rw[if_neg c,if_neg c];exact tw rfl rfl (bP e1) z.ok fun g=>hK (g,0,0);simp at h;simp at h;rename_i s x T T2 d' e;simp only[Zan]at e;subst e;split at h;rename_i t e1 e2;split at h;rename_i Cb b xs fl ys e3 e4;split at h;rename_i e5;simp only[Zan,Zaq]at h;obtain⟨rfl,rfl⟩:=h;simp only[Zao,Zbl,Zbi,Zbk]at e1;obtain⟨⟨rfl,e1⟩,e6⟩:=e1;obtain⟨k1,k3,k4,k5⟩:=hC;have tg:∀ (B:AS) t,t ∉ Sl->(jx b B).get t=B.get t:=fun B t ht=>by
  cases b with
  | none=>rfl
  | some b=>cases b with
    | inl q=>
      simp only[qm,Zao,Zbi,Zbk]at e5;simp only[jx];rw[AS.aO,if_neg (fun c=>ht (by rw[c];exact e5.1))]
    | inr kp=>simp only[jx];exact bW
 have Z7:∀ (B B':AS) t,B.get t=B'.get t->(jx b B).get t=(jx b B').get t:=fun B B' t ht=>by
  cases b with
  | none=>exact ht
  | some b=>cases b with
    | inl q=>simp only[jx];rw[AS.aO,AS.aO,ht]
    | inr kp=>simp only[jx];rw[bW,bW];exact ht
 have th:∀ (B B':AS) k,(∀ k,lk k B.h=lk k B'.h)->lk k (jx b B).h=lk k (jx b B').h:=fun B B' k hk=>by
  cases b with
  | none=>exact hk k
  | some b=>cases b with
    | inl q=>exact hk k
    | inr kp=>exact gy hk
 refine⟨⟨fun gh B q hq=>?_,fun gh B k hk=>?_,fun gh B B' hB=>?_,fun gh B q v hq=>⟨fun q2=>?_,fun k=>th _ _ k fun _=>rfl⟩,fun gh B v=>⟨fun q=>?_,fun k=>th _ _ k fun _=>rfl⟩,fun gh B k gv hq=>?_⟩,fun A' h1 h2 K hK=>?_⟩;rw[AS.aO,if_neg (fun c=>hq (by rw[c];exact e6))];exact tg B q hq;show lk k (jx b B).h=_;cases b with
 | none=>rfl
 | some b=>cases b with
   | inl q=>rfl
   | inr kp=>
     obtain⟨k0,p0⟩:=kp;simp only[qm,Zbi,Zbk]at e5;exact rz (fun c=>hk (by rw[c];exact e5))
 exact ov ⟨fun q=>Z7 _ _ q (hB.1 q),fun k=>th _ _ k hB.2⟩;rw[AS.aO,AS.aO,AS.aO];by_cases c:q2=d;subst c;rw[if_pos rfl,if_neg (fun c=>hq (by rw[<- c];exact e6)),if_pos rfl];rw[if_neg c];by_cases c2:q2=q;subst c2;rw[if_pos rfl,tg _ _ hq,AS.aO,if_pos rfl];rw[if_neg c2,if_neg c];exact Z7 _ _ _ (by rw[AS.aO,if_neg c2]);rw[AS.aO,AS.aO];by_cases c:q=d;rw[if_pos c,if_pos c];rw[if_neg c,if_neg c];exact Z7 _ _ _ (by rw[AS.aO,if_neg c]);refine vO ?_;cases b with
 | none=>exact⟨fun _=>rfl,fun _=>rfl⟩
 | some b=>cases b with
   | inl q=>exact⟨fun _=>rfl,fun _=>rfl⟩
   | inr kp=>
     obtain⟨k0,p0⟩:=kp;simp only[qm,Zbi,Zbk]at e5;exact nU (fun c=>hq (by rw[c];exact e5))
 obtain⟨e,e',q1,q2,q3,q4,q5,q6⟩:=ib e2;have hs:∀ t,s=.tmp t->A'.get t=A.get t:=fun t ht=>h1 t (.inl (fh Zb0));have hx:A'.ev x=A.ev x:=bK fun t ht=>h1 t (.inl (fh Zb0));have T7:=Lg (Ha e3 e5 hs (fun t ht=>h1 t (.inr ht)) h2);exact uF rfl rfl rfl (bP e1) q1 q2 q3 (kA q4) q5 q6 T7 k1 (by unfold QI;rw[hx,e4]) trivial k3 k4 k5 fun g o1 c=>hK (g,o1,c);simp at h;rename_i fl ys e3 e4;split at h;rename_i C0 xs e5;simp only[Zan,Zaq]at h;obtain⟨rfl,rfl⟩:=h;simp only[Zao,Zbl,Zbi,Zbk]at e1;obtain⟨⟨rfl,e1⟩,e6⟩:=e1;obtain⟨⟨k1,k2⟩,k3,k4,k5⟩:=hC;refine⟨⟨fun gh B q hq=>?_,fun gh B k hk=>rfl,fun gh B B' hB=>ov hB,fun gh B q v hq=>⟨fun q2=>?_,fun k=>rfl⟩,fun gh B v=>⟨fun q=>?_,fun k=>rfl⟩,fun gh B k gv hq=>⟨fun _=>rfl,fun _=>rfl⟩⟩,fun A' h1 h2 K hK=>?_⟩;rw[AS.aO,if_neg (fun c=>hq (by rw[c];exact e6))];rw[AS.aO,AS.aO,AS.aO,AS.aO];by_cases c:q2=d;subst c;rw[if_pos rfl,if_neg (fun c=>hq (by rw[<- c];exact e6)),if_pos rfl];rw[if_neg c,if_neg c];rw[AS.aO,AS.aO,AS.aO];split <;> rfl;obtain⟨e,e',q1,q2,q3,q4,q5,q6⟩:=ib e2;have hs:XY A' s t.sz=XY A s t.sz:=by
  cases s with
  | tmp q=>simp only[XY,h1 q (.inl (fh (by simp[Op.operands,Call.operands])))]
  | _=>rfl
 have hx:A'.ev x=A.ev x:=bK fun t ht=>h1 t (.inl (fh Zb0));exact Bl rfl rfl rfl (bP e1) q1 q2 q3 (kA q4) q5 q6 (by rw[hs];exact e5) k1 k2 (by unfold QI;rw[hx,e4]) trivial k3 k4 k5 fun g o1 c=>hK (g,o1,c);simp at h;simp at h;simp at h;rename_i T x d' e;simp only[Zan]at e;subst e;split at h;rename_i i k p g g' e1 e2;split at h;rename_i g2 VR u e3;split at h;rename_i e4;simp only[Zan]at h;obtain⟨hq,rfl⟩:=Prod.mk.inj h;subst hq;obtain⟨rfl,rfl⟩:=Prod.mk.inj hC;simp only[Zao,Zbl,Zbi,Zbk]at e4;obtain⟨⟨⟨⟨e4,e5⟩,e6⟩,e7⟩,e8⟩:=e4;refine⟨⟨fun gh B q hq=>?_,fun gh B q hq=>?_,fun gh B B' hB=>?_,fun gh B q v hq=>⟨fun q2=>?_,fun k=>gy fun _=>rfl⟩,fun gh B v=>⟨fun q=>?_,fun k=>gy fun _=>rfl⟩,fun gh B k gv hq=>vO (nU (fun c=>hq (by rw[c];exact e8)))⟩,fun A' h1 h2 K hK=>?_⟩;rw[AS.aO,if_neg (fun c=>hq (by rw[c];exact e7))];exact bW;exact rz (fun c=>hq (by rw[c];exact e8));exact ov ⟨fun q=>by rw[bW,bW];exact hB.1 q,fun k=>gy hB.2⟩;rw[AS.aO,AS.aO,AS.aO];by_cases c:q2=d;subst c;rw[if_pos rfl,if_neg (fun c=>hq (by rw[<- c];exact e7)),if_pos rfl];rw[if_neg c];by_cases c2:q2=q;subst c2;rw[if_pos rfl,bW,AS.aO,if_pos rfl];rw[if_neg c2,if_neg c,bW,bW,AS.aO,if_neg c2];rw[AS.aO,AS.aO];by_cases c:q=d;rw[if_pos c,if_pos c];rw[if_neg c,if_neg c,bW,bW,AS.aO,if_neg c];have hx:A'.ev x=A.ev x:=bK fun t ht=>h1 t (.inl (fh (by subst ht;simp[Op.operands])));exact xL rfl rfl (bP e4) e1 (by rw[hx];exact e2) (by simp only[AS.at,h2];simpa only[AS.at] using e3) e5 e6 (hK (0,0,0));simp at h;simp at h;simp at h;simp at h
end
section
variable {P:Program} {N:Nat} {ops:Array Oper} {A A' A1 B:AS} {sp:Nat} {Sl El Hl:List Nat} {U:Nat×Nat×Nat->AS->AS}
theorem Lo{d:Option Nat}{xs:Array Operand}{Pt:Array TypeId}{ty:TypeId}{pos:String}{after:Array Edge}(c:W7 P)(hd:dh N d)(hH:c.H=[])(k1:QA (xs.toList.map A.cp) c.args=c.args)(k2:c.pre):
 pA P N ops ⟨d,.call { callee:=.value (.func c.f),args:=xs,argTypes:=Pt },ty,pos,after,none⟩ A c.res.er:=by
 have hc:=c.ok k2;rw[hH]at hc;have hp:=hc.FI;refine Fe (Q:=fun r=>r=c.res) hd ?_ (fun r hr=>by rw[hr]);refine⟨hp.1,fun w Pb cargs q1 q2=>?_⟩;refine(hp.2 w Pb cargs q1 (by have:=qs _ c.args q2;rw[k1]at this;exact this)).mono ?_;rintro e w' ⟨r,x,F,Pb',rfl,⟨H,q,_⟩,rest⟩;exact⟨r,x,F,Pb',rfl,q,rest⟩
end
def hdP(A:AS)(l:List Nat)(k:Nat):List Nat->Bool
 | [i]=>Nat.blt i 10&&l.contains (hM+(100*k+i))&&(PE A.h (100*k+i)).isSome
 | [i,j]=>(Nat.blt 0 i&&Nat.blt i 10&&Nat.blt j 10)&&l.contains (hM+(100*k+(10*i+j)))&&(PE A.h (100*k+(10*i+j))).isSome
 | _=>false
theorem FM{i:Nat}(h:i<10):Ui i=[i]:=if_pos (by simpa[Nat.blt_eq] using h)
theorem Ku{i j:Nat}(h:0<i)(hj:j<10):Ui (10*i+j)=[i,j]:=by
 unfold Ui;rw[if_neg (by rw[Nat.blt_eq];omega),show (10*i+j) / 10=i from Zac,show (10*i+j) % 10=j from Zac]
theorem NO{A:AS}{l:List Nat}{k:Nat}{p:List Nat}(h:hdP A l k p=true):∃ m,p=Ui m/\m<100/\hM+(100*k+m)∈l/\(PE A.h (100*k+m)).isSome=true:=by
 unfold hdP at h;split at h;rename_i i;simp only[Zao]at h;have hi:i<10:=by simpa[Nat.blt_eq] using h.1.1
 exact⟨i,(FM hi).symm,Zac,by simpa using h.1.2,h.2⟩;rename_i i j;simp only[Zao]at h;have h1:0<i:=by simpa[Nat.blt_eq] using h.1.1.1.1
 have h2:i<10:=by simpa[Nat.blt_eq] using h.1.1.1.2
 have h3:j<10:=by simpa[Nat.blt_eq] using h.1.1.2
 exact⟨10*i+j,(Ku h1 h3).symm,Zac,by simpa using h.1.2,h.2⟩;cases h
def YB(Hl prom:List Nat):Bool:=Hl.all fun x=>Nat.blt x hM||prom.contains (x-hM)
theorem xe{Hl prom:List Nat}{q:Nat}(h:YB Hl prom=true)(hq:hM+q∈Hl):q∈prom:=by
 have:=Za2.1 h _ hq;rw[Bool.or_eq_true]at this;rcases this with h | h;exfalso;have:hM+q<hM:=by simpa[Nat.blt_eq] using h
 omega;rw[Nat.add_sub_cancel_left]at h;simpa using h
def FJ(a b:List Nat):Bool:=a.all fun x=>b.contains x&&Nat.blt x hM
theorem Me{a b:List Nat}{A A':AS}(h:FJ a b=true)(h2:VU A' A (some b)):∀ k,k∈a->lk k A'.h=lk k A.h:=fun k hk=>by
 have:=Za2.1 h k hk;rw[Zao]at this;have h3:=h2 k (by simpa using this.1);unfold Ts at h3;rw[if_pos this.2]at h3;exact h3
theorem HV{A:AS}{k i g o n:Nat}{v:V}(h:PE A.h (100*k+i)=some (g,o,v,n))(hi:i<100):∃ sz xs g1 o1 c,v=.own sz [] g1 o1 c/\n=xs.length/\A.at (.key k) (Ui i)=some (g,o,.own sz xs g1 o1 c):=by
 unfold PE at h;rw[show (100*k+i) / 100=k from Zac,show (100*k+i) % 100=i from Zac]at h;split at h;rename_i g0 v0 e;unfold UW at h;split at h;rename_i g' o' sz xs g1 o1 c e2;simp only[Zan,Zaq]at h;obtain⟨rfl,rfl,rfl,rfl⟩:=h;exact⟨sz,xs,g1,o1,c,rfl,rfl,by simp only[AS.at,e,e2]⟩;cases h;cases h
theorem KU{A A':AS}{k i g o:Nat}{T:TI}(h:PE A'.h (100*k+i)=PE A.h (100*k+i))(hi:i<100)(hs:(PE A.h (100*k+i)).isSome=true):
 lZ A' (some T) (.ptr (.key k) (Ui i) g o)=lZ A (some T) (.ptr (.key k) (Ui i) g o):=by
 obtain⟨⟨g1,o1,v,n⟩,e⟩:=Option.isSome_iff_exists.1 hs;obtain⟨sz,xs,g2,o2,c,rfl,rfl,e1⟩:=HV e hi;obtain⟨Pf,xs',VR,o2',c',h1,h2,e2⟩:=HV (h.trans e) hi;cases h1;simp only[lZ,e1,e2,V.TT,h2,V.n,V.isAgg]
def nO(El:List Nat)(fr:Option (List Nat))(A:AS):Op->Bool
 | .load _ x=>match A.ev x with
   | .ptr (.slot i) _ _ _=>El.contains i
   | .ptr (.key k) p _ _=>match fr with
     | none=>true
     | some l=>(Nat.blt k hM&&l.contains k)||hdP A l k p
   | _=>true
 | _=>true
def fI(A:AS):List Operand->List Nat
 | []=>[]
 | x::xs=>match x with
   | .tmp t=>match (A.get t).dE with
     | true=>t::fI (A.drop x) xs
     | false=>fI (A.drop x) xs
   | _=>fI (A.drop x) xs
def kH(ts:List Nat)(A:AS):AS:=⟨ts.map (fun t=>(t,V.c9))++A.t,A.h⟩
def sub(a b:List Nat):Bool:=a.all fun x=>b.contains x
def wb(ops:Array Oper)(tb:List (Nat×SO)){P:Program}(zs:List (Nat×ZT P))(i:Nat)(o:Oper):Bool:=
 (lk i zs).isNone&&!(bS ops tb i).Zr&&(bS ops tb i).Sl==o.dst.toList&&(bS ops tb i).Hl==[]
def pq(P:Program)(N:Nat)(ops:Array Oper)(tb:List (Nat×SO))(zs:List (Nat×ZT P)):Nat->List Nat->List V->AS->Option (Prop×AS)
 | 0,_,_,A=>some (True,A)
 | _+1,[],_,A=>some (True,A)
 | n+1,i::rest,C5,A=>
   match ops[i]? with
   | none=>none
   | some o=>match wb ops tb zs i o with
     | false=>none
     | true=>match o.dst with
       | none=>none
       | some d=>if d<N then
         match o.guard with
         | some (j,b)=>match QR A ops j b with
           | some G=>match AS.un G (jv o.op) A with
             | (C0,B)=>match sY P B o.op C5 with
               | some (C,v,C5)=>if (SW N (jv o.op)&&!v.iw&&nO (bS ops tb i).El (bS ops tb i).fr B o.op)=true then match pq P N ops tb zs n rest C5 (A.put (some d) (.gv G v)) with
                 | some (C',A')=>some ((G=true->C0/\C)/\C',A')
                 | none=>none else none
               | none=>none
           | none=>none
         | none=>match o.op with
           | .assign x=>if (A.ev x).dE=false then pq P N ops tb zs n rest C5 (A.put (some d) (A.ev x)) else none
           | op=>if nO (bS ops tb i).El (bS ops tb i).fr A op=true then match sY P A op C5 with
             | some (C,v,C5)=>match pq P N ops tb zs n rest C5 (A.put (some d) v) with
               | some (C',A')=>if nD op=true then some (C',A') else some (C/\C',A')
               | none=>none
             | none=>none else none
         else none
def pP(P:Program)(N:Nat)(ops:Array Oper)(tb:List (Nat×SO))(zs:List (Nat×ZT P)):Nat->List Nat->List V->AS->Option (List Prop×AS)
 | 0,_,_,A=>some ([],A)
 | _+1,[],_,A=>some ([],A)
 | n+1,i::rest,C5,A=>
   match ops[i]? with
   | none=>none
   | some o=>match wb ops tb zs i o with
     | false=>none
     | true=>match o.dst with
       | none=>none
       | some d=>if d<N then
         match o.guard with
         | some (j,b)=>match QR A ops j b with
           | some G=>match T3 G (j,b) [] (jv o.op) A with
             | (C0,B)=>match sY P B o.op C5 with
               | some (C,v,C5)=>if (SW N (jv o.op)&&!v.iw&&nO (bS ops tb i).El (bS ops tb i).fr B o.op)=true then match pP P N ops tb zs n rest C5 (A.put (some d) (.gv G v)) with
                 | some (C',A')=>some (C0++(if nD o.op=true then C' else (G=true->C)::C'),A')
                 | none=>none else none
               | none=>none
           | none=>none
         | none=>match o.op with
           | .assign x=>if (A.ev x).dE=false then pP P N ops tb zs n rest C5 (A.put (some d) (A.ev x)) else none
           | op=>if nO (bS ops tb i).El (bS ops tb i).fr A op=true then match sY P A op C5 with
             | some (C,v,C5)=>match pP P N ops tb zs n rest C5 (A.put (some d) v) with
               | some (C',A')=>if nD op=true then some (C',A') else some (C::C',A')
               | none=>none
             | none=>none else none
         else none
section
variable {P:Program} {N:Nat} {ops:Array Oper} {tb:List (Nat×SO)} {zs:List (Nat×ZT P)}
theorem rW:∀ (n:Nat) {l:List Nat} {C5:List V} {A A':AS} {cs:List Prop},pP P N ops tb zs n l C5 A=some (cs,A')->(∀ c,c∈cs->c)->∃ C,pq P N ops tb zs n l C5 A=some (C,A')/\C
 | 0,l,C5,A,A',cs,h,hc=>by
   simp only[pP,Zan,Zaq]at h;obtain⟨_,rfl⟩:=h;exact⟨True,by simp only[pq],trivial⟩
 | n+1,[],C5,A,A',cs,h,hc=>by
   simp only[pP,Zan,Zaq]at h;obtain⟨_,rfl⟩:=h;exact⟨True,by simp only[pq],trivial⟩
 | n+1,i::l,C5,A,A',cs,h,hc=>by
   unfold pP at h;unfold pq;split at h;cases h;rename_i o ho;simp only[ho];split at h;cases h;rename_i hv;split at h;cases h;rename_i d hd;split at h
   case isFalse=>cases h
   rename_i VI;simp only[hd,if_pos VI];split at h;rename_i j b hg;split at h;rename_i G hG;split at h;rename_i C0 B hu;split at h;rename_i C v RQ hs;split at h;rename_i hk;split at h;rename_i C' A1 hr;simp only[Zan,Zaq]at h;obtain⟨rfl,rfl⟩:=h;obtain⟨C1,e1,e2⟩:=np (jv o.op) (fun t ht=>by simp at ht) hu (fun c UX=>hc c (List.mem_append_left _ UX));obtain⟨C2,e3,e4⟩:=rW n hr (fun c UX=>hc c (List.mem_append_right _ (by split <;> simp[UX])));simp only[hG,e1,hs,if_pos hk,e3];refine⟨_,rfl,fun Qk=>⟨e2,?_⟩,e4⟩;by_cases ht:nD o.op=true;exact og ht hs;exact hc (G=true->C) (List.mem_append_right _ (by rw[if_neg ht];exact List.mem_cons_self ..)) Qk;cases h;cases h;cases h;cases h
   · rename_i hg;split at h;rename_i x hx;split at h;rename_i ho;obtain⟨C,e1,e2⟩:=rW n h hc;simp only[hx,if_pos ho];exact⟨C,e1,e2⟩;cases h
     · rename_i hx;split at h
       case isFalse=>cases h
       rename_i ZH;split at h;rename_i C v RQ hs;split at h;rename_i C' A1 hr;have key:(∀ c,c∈C'->c)/\C/\A1=A':=by
        split at h;rename_i ht;simp only[Zan,Zaq]at h;obtain⟨rfl,rfl⟩:=h;exact⟨hc,og ht hs,rfl⟩;simp only[Zan,Zaq]at h;obtain⟨rfl,rfl⟩:=h;exact⟨fun c UX=>hc c (List.mem_cons_of_mem _ UX),hc _ (List.mem_cons_self ..),rfl⟩
       obtain⟨k1,k2,rfl⟩:=key;obtain⟨C2,e3,e4⟩:=rW n hr k1;simp only[if_pos ZH,hs,e3];split;exact⟨_,rfl,e4⟩;exact⟨_,rfl,k2,e4⟩;cases h;cases h
end
def kK(d:Option Nat)(ts:List Nat)(ks:List (Nat×Nat))(r:V)(H:List (Nat×(Nat×V)))(A:AS):AS:=((kH ts A).back ks H).put d r
def P2{P:Program}(N:Nat)(ops:Array Oper)(tb:List (Nat×SO))(zs:List (Nat×ZT P)):Sc P->List Nat->AS->(AS->Sc P->Prop)->Prop
 | s,[],A,K=>K A s
 | .r n C5 k,l,A,K=>match pP P N ops tb zs n l C5 A with
   | some (C,A')=>cj C (P2 N ops tb zs k (l.drop n) A' K)
   | none=>False
 | .h x k,i::l,A,K=>match x with
   | .n8 t v=>A.get t=v/\P2 N ops tb zs k (i::l) (A.put (some t) v) K
   | .r4 q v=>match lk q A.h with
     | some (g,u)=>u=v/\P2 N ops tb zs k (i::l) ⟨A.t,(q,(g,v))::A.h⟩ K
     | none=>False
   | _=>False
 | .ua k,i::l,A,K=>match ops[i]?,lk i zs with
   | some o,some z=> ∀ g,P2 N ops tb zs (k g) l (R3 (o.dst.getD 0) z.v g A) K
   | _,_=>False
 | .cg c k,i::l,A,K=>match ops[i]?,lk i zs with
   | some o,none=>match wb ops tb zs i o,o.op,o.guard with
     | true,.call ⟨.value (.func f),xs,_⟩,some (j,b)=>match f==c.f&&RZ N o.dst&&SW N xs.toList&&!c.res.er.iw&&!c.res.er.dE,c.H,QR A ops j b with
       | true,[],some G=>match T3 G (j,b) [] xs.toList A with
         | (C,B)=>cj C ((G=true->c.pre/\QA (xs.toList.map B.cp) c.args=c.args)/\P2 N ops tb zs k l (A.put o.dst (.gv G c.res.er)) K)
       | _,_,_=>False
     | _,_,_=>False
   | _,_=>False
 | .vu c k,i::l,A,K=>match ops[i]?,lk i zs with
   | some o,none=>match wb ops tb zs i o with
     | true=>c.pre N ops o A/\P2 N ops tb zs k l (A.put o.dst c.v) K
     | false=>False
   | _,_=>False
 | s,i::l,A,K=>match ops[i]?,lk i zs with
   | none,_=>False
   | _,some _=>False
   | some o,none=>match o.guard with
     | some _=>False
     | none=>match (bS ops tb i).Zr with
       | false=>match wb ops tb zs i o with
         | true=>match s with
           | .c c _ k=>match o.op with
             | .call ⟨.value (.func f),xs,_⟩=>match f==c.f&&RZ N o.dst,c.H with
               | true,[]=>QA (xs.toList.map A.cp) c.args=c.args/\c.pre/\P2 N ops tb zs k l (A.put o.dst c.res.er) K
               | _,_=>False
             | _=>False
           | .bd z k=>match o.op with
             | .build T h9=>match T==z.T&&RZ N o.dst,z.v with
               | true,.agg us=>match nj P A T us h9.toList with
                 | some v=>P2 N ops tb zs k l (A.put o.dst v) K
                 | none=>False
               | _,_=>False
             | _=>False
           | .bs k=>match o.op with
             | .buildSlice T len h9=>match tD P T with
               | some (.sl e)=>match ti P e,fw A 0 h9.toList with
                 | some t,some vs=>match Vk P T e len t vs&&RZ N o.dst with
                   | true=>P2 N ops tb zs k l (A.put o.dst (.sl true vs)) K
                   | false=>False
                 | _,_=>False
               | _=>False
             | _=>False
           | .mm k=>match o.op with
             | .call ⟨.builtin b,⟨[x,y]⟩,_⟩=>match A.ev x,A.ev y,RZ N o.dst,b with
               | .lit (.int kd p),.lit (.int Un q),true,.max=>Un=kd/\P2 N ops tb zs k l (A.put o.dst (.lit (.int kd (max p q)))) K
               | .lit (.int kd p),.lit (.int Un q),true,.min=>Un=kd/\P2 N ops tb zs k l (A.put o.dst (.lit (.int kd (min p q)))) K
               | _,_,_,_=>False
             | _=>False
           | .Pq bs k=>match o.op with
             | .convert src dst x=>match AN P src&&isStr P dst&&RZ N o.dst,A.ev x with
               | true,.sl _ ys=>ys=bs.map w6/\P2 N ops tb zs k l (A.put o.dst (sV bs)) K
               | _,_=>False
             | _=>False
           | _=>False
         | false=>False
       | true=>match s with
         | .ux z k=>match Et P N (bS ops tb i).Sl (bS ops tb i).El (bS ops tb i).Hl o A z,(bS ops tb i).fr,YB (bS ops tb i).Hl [] with
           | some (C,U),none,true=>C/\∀ g o1 c,P2 N ops tb zs (k g o1 c) l (U (g,o1,c) A) K
           | _,_,_=>False
         | .eu c k=>match (bS ops tb i).fr,YB (bS ops tb i).Hl c.prom with
           | none,true=>c.pre N o A (bS ops tb i).Sl (bS ops tb i).Hl/\∀ x,P2 N ops tb zs (k x) l (c.U o A x A) K
           | _,_=>False
         | .c c ks k=>match o.op with
           | .call ⟨.value fx,xs,_⟩=>match A.ev fx,A.tk xs.toList,(bS ops tb i).fr with
             | .lit (.func (.func f) first C6),(vs,_),some fl=>
               match f==c.f&&RZ N o.dst&&Qt (ks.map (·.1))&&Qt (ks.map (·.2))&&c.args.length==(first.toList.map cV++vs++C6.toList.map cV).length&&
                sub (fI A xs.toList) (bS ops tb i).Sl&&sub o.dst.toList (bS ops tb i).Sl&&sub (ks.map (·.2)) (bS ops tb i).Hl&&FJ (ks.map (·.2)) fl&&YB (bS ops tb i).Hl [] with
               | true=>QA (first.toList.map cV++vs++C6.toList.map cV) c.args=c.args/\oY A ks c.H (c.pre/\P2 N ops tb zs k l (kK o.dst (fI A xs.toList) ks (c.res.RC (kI ks)) c.H' A) K)
               | false=>False
             | _,_,_=>False
           | _=>False
         | .cx c ks k=>match o.op with
           | .call ⟨.value fx,xs,_⟩=>match A.ev fx,A.tk xs.toList,(bS ops tb i).fr with
             | .lit (.func (.func f) first C6),(vs,_),some fl=>
               match f==c.f&&RZ N o.dst&&Qt (ks.map (·.1))&&Qt (ks.map (·.2))&&c.args.length==(first.toList.map cV++vs++C6.toList.map cV).length&&
                sub (fI A xs.toList) (bS ops tb i).Sl&&sub o.dst.toList (bS ops tb i).Sl&&sub (ks.map (·.2)) (bS ops tb i).Hl&&FJ (ks.map (·.2)) fl&&YB (bS ops tb i).Hl [] with
               | true=>QA (first.toList.map cV++vs++C6.toList.map cV) c.args=c.args/\oY A ks c.H (c.pre/\∀ x,c.post x->P2 N ops tb zs (k x) l (kK o.dst (fI A xs.toList) ks ((c.res x).RC (kI ks)) (c.H' x) A) K)
               | false=>False
             | _,_,_=>False
           | _=>False
         | _=>False
section
variable {P:Program} {N:Nat} {ops:Array Oper} {A A' A1 B:AS} {tb:List (Nat×SO)} {zs:List (Nat×ZT P)}
theorem pG{ts:List Nat}{t:Nat}:(kH ts A).get t=if t∈ts then .c9 else A.get t:=by
 induction ts with
 | nil=>simp[kH]
 | cons a ts ih=>
   simp only[kH,AS.get,Zbe,List.cons_append,lk]at ih ⊢;by_cases e:t=a;rw[if_pos e,if_pos (by simp[e])];rfl;rw[if_neg e,ih];by_cases e2:t∈ts;rw[if_pos e2,if_pos (by simp[e2])];rw[if_neg e2,if_neg (by simp[e,e2])]
theorem vm:∀ (xs:List Operand) {A:AS},H2 (A.tk xs).2 (kH (fI A xs) A)
 | [],A=>⟨fun _=>rfl,fun _=>rfl⟩
 | x::xs,A=>by
   have ih:=vm xs (A:=A.drop x);simp only[AS.tk];have e:(match (A.drop x).tk xs with | (vs,B)=>((Yz (A.ev x)::vs,B):List V×AS)).2=((A.drop x).tk xs).2:=rfl;rw[e];have hh:(A.drop x).h=A.h:=by
    cases x with
    | tmp t=>simp only[AS.drop];split <;> rfl
    | _=>rfl
   refine⟨fun q=>?_,fun k=>by rw[ih.2 k];simp only[kH,hh]⟩;rw[ih.1 q,pG,pG];cases x with
   | tmp t=>
     cases ho:(A.get t).dE with
     | true=>
       have ed:A.drop (.tmp t)=A.put (some t) .c9:=by simp[AS.drop,ho]
       have eo:fI A (.tmp t::xs)=t::fI (A.drop (.tmp t)) xs:=by simp only[fI,ho]
       simp only[eo,ed,List.mem_cons];by_cases c:q=t;subst c;simp only[true_or,if_true];split;rfl;rw[AS.aO,if_pos rfl];by_cases c2:q∈fI (A.put (some t) .c9) xs;rw[if_pos c2,if_pos (.inr c2)];rw[if_neg c2,if_neg (by simp[c,c2]),AS.aO,if_neg c]
     | false=>
       have ed:A.drop (.tmp t)=A:=by simp[AS.drop,ho]
       have eo:fI A (.tmp t::xs)=fI (A.drop (.tmp t)) xs:=by simp only[fI,ho]
       simp only[eo,ed]
   | _=>rfl
theorem EH{x:Operand}(h:∀ t,x=.tmp t->A'.get t=A.get t){q:Nat}(hq:A'.get q=A.get q):(A'.drop x).get q=(A.drop x).get q:=by
 cases x with
 | tmp t=>
   simp only[AS.drop,h t rfl];split;rw[AS.aO,AS.aO];split;rfl;exact hq;exact hq
 | _=>exact hq
theorem vI:∀ (xs:List Operand) {A A':AS},(∀ t,Operand.tmp t∈xs->A'.get t=A.get t)->(A'.tk xs).1=(A.tk xs).1/\fI A' xs=fI A xs
 | [],A,A',_=>⟨rfl,rfl⟩
 | x::xs,A,A',h=>by
   have hx:∀ t,x=.tmp t->A'.get t=A.get t:=fun t e=>h t (by simp[e]);have ih:=vI xs (A:=A.drop x) (A':=A'.drop x) fun t ht=>EH hx (h t (by simp[ht]));refine⟨?_,?_⟩;show Yz (A'.ev x)::((A'.drop x).tk xs).1=Yz (A.ev x)::((A.drop x).tk xs).1;rw[ih.1,bK (x:=x) hx];cases x with
   | tmp t=>simp only[fI,hx t rfl,ih.2]
   | _=>simp only[fI];exact ih.2
theorem Jk{ks:List (Nat×Nat)}{H:List (Nat×(Nat×V))}{t:Nat}:(A.back ks H).get t=A.get t:=rfl
theorem Dv{ks:List (Nat×Nat)}{H:List (Nat×(Nat×V))}{k:Nat}(hn:Qt (ks.map (·.2))=true)(hk:k ∉ ks.map (·.2)):lk k (A.back ks H).h=lk k A.h:=by
 have hs:lk k (RP ks)=none:=nT (by simpa[RP,List.map_map,Function.comp_def] using hk);simp only[AS.back];rw[mB,qT hn,hs];simp only[Option.bind_none];rw[jl,hs];rfl
theorem rf{ks:List (Nat×Nat)}{H:List (Nat×(Nat×V))}(h:∀ k,lk k A.h=lk k B.h)(k:Nat):lk k (A.back ks H).h=lk k (B.back ks H).h:=by
 simp only[AS.back];rw[mB,mB,jl,jl,h]
theorem MP{ks:List (Nat×Nat)}{k q:Nat}(h:lk k ks=some q):q∈ks.map (·.2):=List.mem_map.2 ⟨_,wU h,rfl⟩
theorem nA{ks:List (Nat×Nat)}(h:∀ k,k∈ks.map (·.2)->lk k B.h=lk k A.h):∀ {H:List (Nat×(Nat×V))},mw A ks H->mw B ks H
 | [],_=>trivial
 | (k,(g,v))::H,hr=>by
   refine⟨?_,nA h hr.2⟩;have:=hr.1;split at this;rename_i q e;rw[h q (MP e)];exact this;exact this.elim
theorem jC{d:Option Nat}{ts:List Nat}{ks:List (Nat×Nat)}{r:V}{H:List (Nat×(Nat×V))}{t:Nat}:(kK d ts ks r H A).get t=if d=some t then r else if t∈ts then .c9 else A.get t:=by
 unfold kK;cases d with
 | none=>rw[if_neg Zad];exact pG
 | some d=>
   rw[AS.aO,Jk,pG];by_cases e:t=d;subst e;rw[if_pos rfl,if_pos rfl];have e2: ¬ (some d=some t):=fun c=>e (by simpa using c.symm);rw[if_neg e,if_neg e2]
theorem kU{d:Option Nat}{ts:List Nat}{ks:List (Nat×Nat)}{r:V}{H:List (Nat×(Nat×V))}:(kK d ts ks r H A).h=(A.back ks H).h:=by
 unfold kK;rw[pt];rfl
theorem Aq{G:Type} {d:Option Nat} {ts:List Nat} {ks:List (Nat×Nat)} {r:G->V} {H:G->List (Nat×(Nat×V))} {fs Sl Hl:List Nat} (hn:Qt (ks.map (·.2))=true)
 (h1:sub ts Sl=true) (h2:sub d.toList Sl=true) (h3:sub (ks.map (·.2)) Hl=true):TZ (fun g B=>kK d ts ks (r g) (H g) B) fs Sl Hl:=by
 have sb:∀ {a b:List Nat},sub a b=true->∀ x,x∈a->x∈b:=fun h x hx=>by
  unfold sub at h;rw[Za2]at h;simpa using h x hx
 have h1:=sb h1;have h2:=sb h2;have h3:=sb h3;refine⟨fun g B t ht=>?_,fun g B k hk=>?_,fun g B B' hB=>⟨fun t=>?_,fun k=>?_⟩,fun g B t v ht _=>⟨fun q=>?_,fun k=>?_⟩,fun g B k gv hk=>⟨fun t=>?_,fun x=>?_⟩⟩;rw[jC,if_neg (fun c=>ht (h2 t (by rw[c];simp))),if_neg (fun c=>ht (h1 t c))];rw[kU];exact Dv hn (fun c=>hk (h3 k c));rw[jC,jC,hB.1 t];rw[kU,kU];exact rf hB.2 k;rw[jC,AS.aO,AS.aO,jC];by_cases c:q=t;subst c;rw[if_pos rfl,if_pos rfl,if_neg (fun c=>ht (h2 q (by rw[c];simp))),if_neg (fun c=>ht (h1 q c))];rw[if_neg c,if_neg c];rw[kU];show _=lk k (kK d ts ks (r g) (H g) B).h;rw[kU];rfl;show (kK d ts ks (r g) (H g) _).get t=(kK d ts ks (r g) (H g) B).get t;rw[jC,jC];rfl;rw[kU,kU];have hs:lk k (RP ks)=none:=nT (by simpa[RP,List.map_map,Function.comp_def] using fun c=>hk (h3 k c));simp only[AS.back];rw[mB,jl];simp only[lk];by_cases c:x=k;subst c;rw[if_pos rfl,if_pos rfl,qT hn,hs];rfl;rw[if_neg c,if_neg c,mB,jl]
theorem uO{i:Nat}{o:Oper}{t:Nat}(ho:ops[i]? =some o)(h:Operand.tmp t∈o.op.operands.toList):t∈gP ops tb i:=by
 unfold gP;rw[ho,Zax];exact .inl (fh h)
theorem uA{i:Nat}{o:Oper}{t:Nat}(ho:ops[i]? =some o)(h:t∈o.looksAt ops):t∈gP ops tb i:=by
 unfold gP;rw[ho,Zax];exact .inl h
theorem ER{i t:Nat}(h:t∈(bS ops tb i).El):t∈gP ops tb i:=by
 unfold gP;rw[Zax];exact .inr h
theorem BV{i:Nat} {d:Option Nat} {fx:Operand} {xs:Array Operand} {Pt:Array TypeId} {ty:TypeId} {pos:String} {after:Array Edge} {f:FuncId} {first C6:Array Value} {args:List V} {H:List (Nat×(Nat×V))} {ks:List (Nat×Nat)}
 {G:Type} {res:G->V} {H':G->List (Nat×(Nat×V))}
 (ho:ops[i]? =some ⟨d,.call ⟨.value fx,xs,Pt⟩,ty,pos,after,none⟩) (hfx:A.ev fx=.lit (.func (.func f) first C6)) (hd:dh N d) (Tm:Qt (ks.map (·.1))=true) (PR:Qt (ks.map (·.2))=true)
 (hc:PF P f args H (fun r h=> ∃ g,r=res g/\h=H' g)) (hargs:QA (first.toList.map cV++(A.tk xs.toList).1++C6.toList.map cV) args=args) (hlen:args.length=(first.toList.map cV++(A.tk xs.toList).1++C6.toList.map cV).length)
 (hr:mw A ks H) {fl:List Nat} (hfl:FJ (ks.map (·.2)) fl=true):Yu P N ⟨d,.call ⟨.value fx,xs,Pt⟩,ty,pos,after,none⟩ A (fun g B=>kK d (fI A xs.toList) ks ((res g).RC (kI ks)) (H' g) B) (gP ops tb i) (some fl):=by
 refine⟨rfl,fun A' h1 h2=>?_⟩;have XN:A'.ev fx=A.ev fx:=bK fun t ht=>h1 t (uO ho Zb0);obtain⟨t1,t2⟩:=vI xs.toList (A:=A) (A':=A') fun t ht=>h1 t (uO ho (by simp only[Op.operands,Call.operands];simp;right;simpa using ht));have Wu:=vm xs.toList (A:=A');refine pJ (A:=A') ks rfl (by rw[XN];exact hfx) hd Tm PR hc (by rw[t1];exact hargs) (by rw[t1];exact hlen) (nA (fun k hk=>(Wu.2 k).trans (Me hfl h2 k hk)) hr) ?_;rintro r H0 ⟨g,rfl,rfl⟩;refine⟨g,?_⟩;unfold kK;rw[<- t2];exact Mt ⟨fun t=>Wu.1 t,fun k=>rf Wu.2 k⟩
theorem xi{El:List Nat} {fr:Option (List Nat)} {op:Op} (h:∀ t,Operand.tmp t∈op.operands.toList->A'.get t=A.get t) (hk:VU A' A fr) (hr:∀ i,i∈El->A'.get i=A.get i)
 (hf:nO El fr A op=true):M6 P A' op=M6 P A op:=by
 cases op with
 | move x=>simp only[M6,R6,Eo,mE (x:=x) fun t e=>h t (by simp[Op.operands,e]),bK (x:=x) fun t e=>h t (by simp[Op.operands,e])]
 | pick c a b=>
   have h1:=bK (x:=c) fun t e=>h t Zb1;have h2:=bK (x:=a) fun t e=>h t Zb1;have h3:=bK (x:=b) fun t e=>h t Zb1;simp only[M6,R6,EF,h1,h2,h3]
 | binOp op T x y T'=>simp only[M6,R6,bK (x:=x) fun t e=>h t (by simp[Op.operands,e]),bK (x:=y) fun t e=>h t (by simp[Op.operands,e])]
 | unOp op T x=>simp only[M6,R6,bK (x:=x) fun t e=>h t (by simp[Op.operands,e])]
 | convert s d x=>simp only[M6,R6,bK (x:=x) fun t e=>h t (by simp[Op.operands,e])]
 | index T x y=>simp only[M6,R6,bK (x:=x) fun t e=>h t (by simp[Op.operands,e]),bK (x:=y) fun t e=>h t (by simp[Op.operands,e])]
 | slice T x lo hi m=>
   have h1:=bK (x:=x) fun t e=>h t Zb1;have h2:=wX (x:=lo) fun t e=>h t Zb1;have h3:=wX (x:=hi) fun t e=>h t Zb1;cases m with
   | none=>simp only[M6,h1,h2,h3]
   | some m=>rfl
 | extract x i=>simp only[M6,R6,bK (x:=x) fun t e=>h t (by simp[Op.operands,e])]
 | call c=>
   simp only[M6,R6,xl];split;split;rename_i x T hx _;rw[bK (x:=x) fun t e=>h t Zb2];rfl;split;rename_i x y hx;rw[bK (x:=x) fun t e=>h t Zb2,bK (x:=y) fun t e=>h t Zb2];rfl;rfl
 | fieldAddr T x j=>simp only[M6,bK (x:=x) fun t e=>h t (by simp[Op.operands,e])]
 | field T x j=>simp only[M6,mE (x:=x) fun t e=>h t (by simp[Op.operands,e])]
 | indexAddr T x y=>simp only[M6,bK (x:=x) fun t e=>h t (by simp[Op.operands,e]),bK (x:=y) fun t e=>h t (by simp[Op.operands,e])]
 | load T x=>
   have h1:=bK (x:=x) fun t e=>h t Zb1;simp only[M6,h1,lZ];split;split;rename_i r p g o e;cases r with
   | key k=>
     have:lk k A'.h=lk k A.h\/∃ i,p=Ui i/\i<100/\PE A'.h (100*k+i)=PE A.h (100*k+i)/\(PE A.h (100*k+i)).isSome=true:=by
      cases fr with
      | none=>exact .inl (hk k)
      | some l=>
        simp only[nO,e,Bool.or_eq_true,Zao]at hf;rcases hf with ⟨c1,c2⟩ | hf;have h3:=hk k (by simpa using c2);unfold Ts at h3;rw[if_pos c1]at h3;exact .inl h3;obtain⟨i,f1,f2,f3,f4⟩:=NO hf;refine .inr ⟨i,f1,f2,?_,f4⟩;have h3:=hk _ f3;unfold Ts at h3;rw[if_neg (by simp[Nat.blt_eq]),Nat.add_sub_cancel_left]at h3;exact h3
     rcases this with e2 | ⟨i,rfl,c1,c2,c3⟩;simp only[AS.at,e2];have:=KU (T:=by assumption) (g:=g) (o:=o) c2 c1 c3;simpa only[lZ] using this
   | slot i=>
     have:A'.at (.slot i) p=A.at (.slot i) p:=by
      unfold AS.at;simp only[nO,e,Zbi,Zbk]at hf;simp only[hr i hf]
     rw[this]
   rfl;rfl;rfl
 | nilCheck x=>simp only[M6,bK (x:=x) fun t e=>h t (by simp[Op.operands,e])]
 | makeInterface T x=>simp only[M6,mE (x:=x) fun t e=>h t (by simp[Op.operands,e])]
 | typeAssert x xT T b=>
   cases b with
   | true=>simp only[M6,bK (x:=x) fun t e=>h t (by simp[Op.operands,e])]
   | false=>rfl
 | makeFunc fn p q=>
   have e1:p.toList.map A'.ev=p.toList.map A.ev:=List.map_congr_left fun x hx=>bK fun t e=>h t (by subst e;simp only[Op.operands,Array.toList_append,Zax];exact .inl hx);have e2:q.toList.map A'.ev=q.toList.map A.ev:=List.map_congr_left fun x hx=>bK fun t e=>h t (by subst e;simp only[Op.operands,Array.toList_append,Zax];exact .inr hx);simp only[M6,e1,e2]
 | _=>rfl
theorem mL{i:Nat}{o:Oper}{v:V}{fr:Option (List Nat)}(ho:ops[i]? =some o)(h:pA P N ops o A v):Vm P N ops o A v (gP ops tb i) fr:=fun A' h1 _=>h A' fun t ht=>h1 t (uA ho ht)
theorem Dd{i:Nat}{o:Oper}{C:Prop}{v:V}{fr:Option (List Nat)}(ho:ops[i]? =some o)(hg:o.guard=none)(h:M6 P A o.op=some (C,v))(hC:C)(hd:dh N o.dst)(hf:nO (bS ops tb i).El fr A o.op=true):Vm P N ops o A v (gP ops tb i) fr:=by
 intro A' h1 hk;unfold gd;rw[hg];simp only;refine yR (C:=C) (v:=v) ?_ hC hd ⟨fun _=>rfl,fun _=>rfl⟩;rw[xi (A:=A) (fun t ht=>h1 t (uO ho ht)) hk (fun i hi=>h1 i (ER hi)) hf];exact h
theorem Gq{i:Nat} {o:Oper} {xs:List Operand} {j:Nat} {b G:Bool} {C:Prop} {B:AS} {v:V} {fr:Option (List Nat)} (ho:ops[i]? =some o) (hg:o.guard=some (j,b)) (hG:QR A ops j b=some G) (hu:AS.un G xs A=(C,B))
 (Vv:∀ t,Operand.tmp t∈xs->Operand.tmp t∈o.op.operands.toList) (Qx:SW N xs=true) (hd:dh N o.dst) (hf:nO (bS ops tb i).El fr B o.op=true) (hC:G=true->C/\v.iw=false/\∃ C',M6 P B o.op=some (C',v)/\C'):Vm P N ops o A (.gv G v) (gP ops tb i) fr:=by
 intro A' h1 hk;have hG':QR A' ops j b=some G:=by
  rw[<- hG];unfold QR;cases hj:(ops[j]?).bind (·.dst) with
  | none=>rfl
  | some d=>
    simp only[Option.map_some];rw[h1 d (uA ho (by unfold Oper.looksAt;rw[Zax];right;rw[hg];simp[hj]))]
 obtain⟨B',k1,k2,k3,k4⟩:=kS xs (A':=A') hu (fun t ht=>h1 t (uO ho (Vv t ht)));have PB:M6 P B' o.op=M6 P B o.op:=by
  refine xi (A:=B) (fun t ht=>k2 t (h1 t (uO ho ht))) ?_ (fun i hi=>k2 i (h1 i (ER hi))) hf;cases fr with
  | none=>exact fun k=>by rw[k3,k4];exact hk k
  | some l=>exact fun k hl=>(xD (A:=A') (fun k=>by rw[k3]) k).trans ((hk k hl).trans (xD (fun k=>by rw[k4]) k))
 refine ra hg hG' (fun Qk=>?_) (fun WG=>⟨hd,fun _ _=>⟨rfl,(fun h=>by rw[WG]at h;cases h),fun _=>rfl⟩⟩);obtain⟨c1,c3,C',D4,c2⟩:=hC Qk;rw[<- PB]at D4;refine jM (v:=.gv G v) hd ⟨fun _=>rfl,fun _=>rfl⟩ fun Pb Kb a w F hs=>?_;obtain⟨F',C8⟩:=kN Qk _ k1 c1 hs (qx Qx);obtain⟨x,hx,hr⟩:=yi D4 c2 C8 rfl;exact⟨x,hx,rfl,fun _=>Bi hr c3,fun h=>by rw[Qk]at h;cases h⟩
theorem Hz{i:Nat} {d:Option Nat} {f:FuncId} {xs:Array Operand} {Pt:Array TypeId} {ty:TypeId} {pos:String} {after:Array Edge}
 {j:Nat} {b G:Bool} {C:Prop} {B:AS} {E:V} {fr:Option (List Nat)} (ho:ops[i]? =some ⟨d,.call ⟨.value (.func f),xs,Pt⟩,ty,pos,after,some (j,b)⟩) (hd:dh N d) (hG:QR A ops j b=some G) (hu:AS.un G xs.toList A=(C,B)) (Qx:SW N xs.toList=true)
 (hc:G=true->C/\PC P f (xs.toList.map B.cp) (fun r=>r.er=E)/\E.iw=false/\E.dE=false):Vm P N ops ⟨d,.call ⟨.value (.func f),xs,Pt⟩,ty,pos,after,some (j,b)⟩ A (.gv G E) (gP ops tb i) fr:=by
 intro A' h1 hk;have hG':QR A' ops j b=some G:=by
  rw[<- hG];unfold QR;cases hj:(ops[j]?).bind (·.dst) with
  | none=>rfl
  | some d=>
    simp only[Option.map_some];rw[h1 d (uA ho (by unfold Oper.looksAt;rw[Zax];right;simp[hj]))]
 have hx:∀ t,Operand.tmp t∈xs.toList->A'.get t=A.get t:=fun t ht=>h1 t (uO ho (by simp[Op.operands,Call.operands];simpa using ht));obtain⟨B',k1,k2,k3,k4⟩:=kS xs.toList (A':=A') hu hx;refine ra (j:=j) (b:=b) rfl hG' (fun Qk=>?_) (fun WG=>⟨hd,fun _ _=>⟨rfl,(fun h=>by rw[WG]at h;cases h),fun _=>rfl⟩⟩);obtain⟨c1,c2,c3,c4⟩:=hc Qk;rw[<- tM (A':=B') (A:=B) fun t ht=>k2 t (hx t ht)]at c2;intro Pb Kb a w F Q' hs;obtain⟨F',C8⟩:=kN Qk _ k1 c1 hs (qx Qx);have hw:=pg Qk _ k1 c1;have Pn:=qc (N:=N) (o:=⟨d,.call { callee:=.value (.func f),args:=xs,argTypes:=Pt },ty,pos,after,some (j,b)⟩) (K:=fun A1=>A1=B'.put d E) (A:=B') rfl hd c2 (fun _ h=>h) rfl;refine Oper.wp_mono ?_ (Pn Pb Kb a w F' Q' C8);rintro a' w' ⟨A1,Pb',I4,F2,rfl,Pm,q3,q4,q5,q6⟩;refine⟨A'.put d (.gv G E),Pb',I4,F2,⟨fun _=>rfl,fun _=>rfl⟩,Pm.wrap ?_,q3,q4,q5,q6⟩;cases d with
 | none=>exact hw
 | some d=>
   refine⟨fun i=>?_,hw.2⟩;rw[AS.aO,AS.aO];by_cases e:i=d;rw[if_pos e,if_pos e];exact .inr ⟨G,rfl,Qk,c4,c3⟩;rw[if_neg e,if_neg e];exact hw.1 i
theorem gV{i:Nat}{o:Oper}{l:List Nat}{v:V}{K:AS->Prop}(ho:ops[i]? =some o)(hv:wb ops tb zs i o=true)(h:Vm P N ops o A v (gP ops tb i) (bS ops tb i).fr)(hK:Qp P N ops tb zs l (A.put o.dst v) K):Qp P N ops tb zs (i::l) A K:=by
 unfold wb at hv;simp only[Zao,Bool.not_eq_true',Zbl]at hv;refine⟨o,ho,?_⟩;rw[show lk i zs=none from by simpa using hv.1.1.1];simp only;rw[hv.1.1.2];exact⟨hv.1.2,hv.2,v,h,hK⟩
theorem qG{K:AS->Prop}:∀ (n:Nat) {l:List Nat} (C5:List V) {A:AS} (C:Prop) (A':AS),
 pq P N ops tb zs n l C5 A=some (C,A')->C->Qp P N ops tb zs (l.drop n) A' K->Qp P N ops tb zs l A K
 | 0,l,C5,A,C,A',h,hC,hK=>by
   simp only[pq,Zan,Zaq]at h;obtain⟨_,rfl⟩:=h;simpa using hK
 | n+1,[],C5,A,C,A',h,hC,hK=>by
   simp only[pq,Zan,Zaq]at h;obtain⟨_,rfl⟩:=h;simpa using hK
 | n+1,i::l,C5,A,C,A',h,hC,hK=>by
   have SA:(i::l).drop (n+1)=l.drop n:=rfl;rw[SA]at hK;unfold pq at h;split at h;simp at h;rename_i o ho;split at h;simp at h;rename_i PA;split at h;simp at h;rename_i d hd;split at h
   case isFalse=>simp at h
   rename_i VI;have Rv:dh N o.dst:=by rw[hd];exact VI
   cases hg:o.guard with
   | some jb=>
     obtain⟨j,b⟩:=jb;rw[hg]at h;simp only at h;split at h
     case h_2=>simp at h
     rename_i G hG;cases hu:AS.un G (jv o.op) A with
     | mk C0 B=>
       rw[hu]at h;simp only at h;split at h
       case h_2=>simp at h
       rename_i C1 v Si D4;split at h
       case isFalse=>simp at h
       rename_i Qx;simp only[Zao,Bool.not_eq_true']at Qx;split at h
       case h_2=>simp at h
       rename_i C2 A2 hr;simp only[Zan,Zaq]at h;obtain⟨rfl,rfl⟩:=h;exact gV ho PA (Gq (v:=v) ho hg hG hu (Gt _) Qx.1.1 Rv Qx.2 (fun Qk=>⟨(hC.1 Qk).1,Qx.1.2,uo D4 (hC.1 Qk).2⟩)) (by rw[hd];exact qG n Si C2 A2 hr hC.2 hK)
   | none=>
     rw[hg]at h;simp only at h;split at h
     · rename_i x PV;split at h
       case isFalse=>simp at h
       rename_i O7;exact gV ho PA (mL ho (AQ hg PV Rv O7)) (by rw[hd];exact qG n C5 C A' h hC hK)
     · split at h
       case isFalse=>simp at h
       rename_i ZH;split at h
       case h_2=>simp at h
       rename_i C1 v Si D4;split at h
       case h_2=>simp at h
       rename_i C2 A2 hr;split at h;rename_i ht;simp only[Zan,Zaq]at h;obtain⟨rfl,rfl⟩:=h;obtain⟨C',h1,h2⟩:=uo D4 (og ht D4);exact gV ho PA (Dd ho hg h1 h2 Rv ZH) (by rw[hd];exact qG n Si C2 A2 hr hC hK);simp only[Zan,Zaq]at h;obtain⟨rfl,rfl⟩:=h;obtain⟨C',h1,h2⟩:=uo D4 hC.1;exact gV ho PA (Dd ho hg h1 h2 Rv ZH) (by rw[hd];exact qG n Si C2 A2 hr hC.2 hK)
theorem ui{i:Nat} {o:Oper} {l:List Nat} {K:AS->Prop} {G:Type} {U:G->AS->AS} (ho:ops[i]? =some o) (hz:lk i zs=none) (he:(bS ops tb i).Zr=true) (h1:Yu P N o A U (gP ops tb i) (bS ops tb i).fr)
 (h2:X0 U (gP ops tb i) (bS ops tb i).Sl (bS ops tb i).Hl) (hK:∀ g,Qp P N ops tb zs l (U g A) K):Qp P N ops tb zs (i::l) A K:=by
 refine⟨o,ho,?_⟩;rw[hz];simp only;rw[he];exact⟨G,U,h1,h2,hK⟩
theorem Bs{d:Option Nat}{x y:Operand}{Pt:Array TypeId}{ty:TypeId}{pos:String}{after:Array Edge}{kd:IntKind}{p q r:Int}{b:Builtin}(hd:dh N d)(hx:A.ev x=.lit (.int kd p))(hy:A.ev y=.lit (.int kd q))(hb:(b=.max/\r=max p q)\/(b=.min/\r=min p q)):
 pA P N ops ⟨d,.call ⟨.builtin b,⟨[x,y]⟩,Pt⟩,ty,pos,after,none⟩ A (.lit (.int kd r)):=fun A' h1=>by
 show J1 P N _ A' _;have e1:A'.ev x=A.ev x:=bK fun t ht=>h1 t (fh Zb0);have e2:A'.ev y=A.ev y:=bK fun t ht=>h1 t (fh Zb0);exact Bh rfl hd (by rw[e1];exact hx) (by rw[e2];exact hy) hb ⟨fun _=>rfl,fun _=>rfl⟩
theorem NT:∀ (s:Sc P) {l:List Nat} {A:AS} {K:AS->Sc P->Prop},P2 N ops tb zs s l A K->Qp P N ops tb zs l A fun B=> ∃ B',H2 B B'/\∃ s',K B' s':=by
 intro s;have cl:∀ {K:AS->Sc P->Prop} (A B:AS),H2 A B->(∃ B',H2 A B'/\∃ s',K B' s')->∃ B',H2 B B'/\∃ s',K B' s':=fun A B h ⟨B',h1,h2⟩=>⟨B',h.symm.trans h1,h2⟩;induction s with
 | r n C5 k ih=>
   intro l A K h;cases l with
   | nil=>exact⟨_,H2.ku,_,h⟩
   | cons i l=>
     simp only[P2]at h;split at h;rename_i C A' e;obtain⟨h1,h2⟩:=oK.1 h;obtain⟨C1,e1,e2⟩:=rW n e h1;exact qG n C5 C1 A' e1 e2 (ih h2);exact h.elim
 | h x k ih=>
   intro l A K h;cases l with
   | nil=>exact⟨_,H2.ku,_,h⟩
   | cons i l=>
     simp only[P2]at h;split at h;rename_i t v;refine fm cl _ ?_ (ih h.2);refine⟨fun q=>?_,fun _=>rfl⟩;rw[AS.aO];split;rename_i e;subst e;exact h.1.symm;rfl;rename_i q v;split at h;rename_i g u e;obtain⟨rfl,h⟩:=h;refine fm cl _ ?_ (ih h);refine⟨fun _=>rfl,fun k=>?_⟩;simp only[lk];split;rename_i e2;subst e2;exact e.symm;rfl;exact h.elim;exact h.elim
 | ux z k ih=>
   intro l A K h;cases l with
   | nil=>exact⟨_,H2.ku,_,h⟩
   | cons i l=>
     simp only[P2]at h;split at h;exact h.elim;exact h.elim;rename_i o ho hz;split at h;exact h.elim;rename_i hg;split at h;split at h <;> exact h.elim;rename_i he;split at h;rename_i C U e1 e2 e3;obtain⟨d,hd⟩:∃ d,o.dst=some d:=by
      unfold Et at e1;split at e1 <;> first | exact⟨_,by assumption⟩ | simp at e1
     obtain⟨hU,hE⟩:=LQ (ops:=ops) e1 h.1 d hd;refine ui ho hz he ⟨hg,fun A' h1 h2=>?_⟩ ⟨⟨hU.g,hU.h,hU.c,fun g B t v ht _=>hU.p g B t v ht,hU.q⟩,fun q hq=>absurd (xe e3 hq) List.not_mem_nil⟩ fun g=>ih _ _ _ (h.2 g.1 g.2.1 g.2.2);rw[e2]at h2;exact hE A' (fun t ht=>by
      rcases ht with ht | ht;exact h1 t (uA ho ht);exact h1 t (ER ht)) h2 _ fun g=>⟨g,⟨fun _=>rfl,fun _=>rfl⟩⟩
     exact h.elim
 | eu c k ih=>
   intro l A K h;cases l with
   | nil=>exact⟨_,H2.ku,_,h⟩
   | cons i l=>
     simp only[P2]at h;split at h;exact h.elim;exact h.elim;rename_i o ho hz;split at h;exact h.elim;rename_i hg;split at h;split at h <;> exact h.elim;rename_i he;split at h;rename_i e2 e3;refine ui ho hz he ⟨hg,fun A' h1 h2=>?_⟩ ⟨c.V0 h.1 _,fun q hq g B=>c.pok h.1 q (xe e3 hq) g B⟩ fun g=>ih g (h.2 g);rw[e2]at h2;exact Kf (c.ok hg h.1 (fun t ht=>h1 t (uA ho (fh ht))) h2) fun B ⟨x,hB⟩=>⟨x,by subst hB;exact⟨fun _=>rfl,fun _=>rfl⟩⟩;exact h.elim
 | vu c k ih=>
   intro l A K h;cases l with
   | nil=>exact⟨_,H2.ku,_,h⟩
   | cons i l=>
     simp only[P2]at h;split at h;rename_i o ho hz;split at h;rename_i hv;exact gV ho hv (c.ok h.1 fun t ht=>uA ho ht) (ih h.2);exact h.elim;exact h.elim
 | ua k ih=>
   intro l A K h;cases l with
   | nil=>exact⟨_,H2.ku,_,h⟩
   | cons i l=>
     simp only[P2]at h;split at h;rename_i o z ho hz;refine⟨o,ho,?_⟩;rw[hz];exact fun g=>ih g (h g);exact h.elim
 | c c ks k ih=>
   intro l A K h;cases l with
   | nil=>exact⟨_,H2.ku,_,h⟩
   | cons i l=>
     simp only[P2]at h;split at h;exact h.elim;exact h.elim;rename_i o ho hz;obtain⟨dst,op,ty,pos,after,E9⟩:=o;split at h;exact h.elim;rename_i hg;simp only at hg;subst hg;split at h;split at h;rename_i hv;split at h;rename_i heq;simp only at heq;subst heq;split at h;rename_i e3 e4;rw[Zao,Zbl]at e3;obtain⟨rfl,e3⟩:=e3;exact gV ho hv (mL ho (Lo c (fa e3) e4 h.1 h.2.1)) (ih h.2.2);exact h.elim;exact h.elim;exact h.elim;rename_i he;split at h;rename_i fx xs Pt heq;simp only at heq;subst heq;split at h;rename_i f first C6 vs B fl e1 e2 e3
     split at h;rename_i e4;simp only[Zao,Zbl]at e4;obtain⟨⟨⟨⟨⟨⟨⟨⟨⟨rfl,q1⟩,q2⟩,q3⟩,q4⟩,q5⟩,q6⟩,q7⟩,q8⟩,q9⟩:=e4;have htk:(A.tk xs.toList).1=vs:=by rw[e2]
     replace h:=And.intro h.1 (jT h.2)
     have Zd:=BV (P:=P) (N:=N) (A:=A) (tb:=tb) (i:=i) (G:=Unit) (res:=fun _=>c.res) (H':=fun _=>c.H') (ks:=ks) (H:=c.H) (args:=c.args) ho e1 (fa q1) q2 q3
      ((c.ok h.2.2.1).mono fun r H ⟨a,b⟩=>⟨(),a,b⟩) (by rw[htk];exact h.1) (by rw[htk];exact q4) h.2.1 q8
     rw[<- e3]at Zd;exact ui ho hz he Zd ⟨Aq q3 q5 q6 q7,fun q hq=>absurd (xe q9 hq) List.not_mem_nil⟩ fun _=>ih h.2.2.2;exact h.elim;exact h.elim;exact h.elim
 | cx c ks k ih=>
   intro l A K h;cases l with
   | nil=>exact⟨_,H2.ku,_,h⟩
   | cons i l=>
     simp only[P2]at h;split at h;exact h.elim;exact h.elim;rename_i o ho hz;obtain⟨dst,op,ty,pos,after,E9⟩:=o;split at h;exact h.elim;rename_i hg;simp only at hg;subst hg;split at h;split at h <;> exact h.elim;rename_i he;split at h;rename_i fx xs Pt heq;simp only at heq;subst heq;split at h;rename_i f first C6 vs B fl e1 e2 e3
     split at h;rename_i e4;simp only[Zao,Zbl]at e4;obtain⟨⟨⟨⟨⟨⟨⟨⟨⟨rfl,q1⟩,q2⟩,q3⟩,q4⟩,q5⟩,q6⟩,q7⟩,q8⟩,q9⟩:=e4;have htk:(A.tk xs.toList).1=vs:=by rw[e2]
     replace h:=And.intro h.1 (jT h.2)
     have Zd:=BV (P:=P) (N:=N) (A:=A) (tb:=tb) (i:=i) (G:={ x:c.X // c.post x }) (res:=fun x=>c.res x.1) (H':=fun x=>c.H' x.1) (ks:=ks) (H:=c.H) (args:=c.args) ho e1 (fa q1) q2 q3
      ((c.ok h.2.2.1).mono fun r H ⟨x,hx,a,b⟩=>⟨⟨x,hx⟩,a,b⟩) (by rw[htk];exact h.1) (by rw[htk];exact q4) h.2.1 q8
     rw[<- e3]at Zd;exact ui ho hz he Zd ⟨Aq q3 q5 q6 q7,fun q hq=>absurd (xe q9 hq) List.not_mem_nil⟩ fun x=>ih _ (h.2.2.2 x.1 x.2);exact h.elim;exact h.elim;exact h.elim
 | bd z k ih=>
   intro l A K h;cases l with
   | nil=>exact⟨_,H2.ku,_,h⟩
   | cons i l=>
     simp only[P2]at h;split at h;exact h.elim;exact h.elim;rename_i o ho hz;obtain⟨dst,op,ty,pos,after,E9⟩:=o;split at h;exact h.elim;rename_i hg;simp only at hg;subst hg;split at h;split at h;rename_i hv;split at h;rename_i heq;simp only at heq;subst heq;split at h;rename_i us e3 e4;split at h;rename_i v e5;rw[Zao,Zbl]at e3;obtain⟨rfl,e3⟩:=e3;have hz:=z.ok;rw[e4]at hz;exact gV ho hv (mL ho (Cs us v hz (fa e3) e5)) (ih h);exact h.elim;exact h.elim;exact h.elim;exact h.elim;exact h.elim
 | bs k ih=>
   intro l A K h;cases l with
   | nil=>exact⟨_,H2.ku,_,h⟩
   | cons i l=>
     simp only[P2]at h;split at h;exact h.elim;exact h.elim;rename_i o ho hz;obtain⟨dst,op,ty,pos,after,E9⟩:=o;split at h;exact h.elim;rename_i hg;simp only at hg;subst hg;split at h;split at h;rename_i hv;split at h;rename_i heq;simp only at heq;subst heq;split at h;rename_i e e3;split at h;rename_i t vs e4 e5;split at h;rename_i e6;rw[Zao]at e6;exact gV ho hv (mL ho (vV e t vs ⟨e3,e4⟩ (fa e6.2) e5 e6.1)) (ih h);exact h.elim;exact h.elim;exact h.elim;exact h.elim;exact h.elim;exact h.elim
 | cg c k ih=>
   intro l A K h;cases l with
   | nil=>exact⟨_,H2.ku,_,h⟩
   | cons i l=>
     simp only[P2]at h;split at h
     case h_2=>exact h.elim
     rename_i o ho hz;obtain⟨dst,op,ty,pos,after,E9⟩:=o;split at h
     case h_2=>exact h.elim
     rename_i f xs Pt j b hv e1 e2;simp only at e1 e2;subst e1 e2;split at h
     case h_2=>exact h.elim
     rename_i G h1 h2 h3;simp only[Zao,Zbl,Bool.not_eq_true']at h1;obtain⟨⟨⟨⟨rfl,h4⟩,h5⟩,h6⟩,h7⟩:=h1;revert h;cases hu:T3 G (j,b) [] xs.toList A with | mk C B=>?_
     intro h;obtain⟨hC,h⟩:=oK.1 h;obtain⟨C1,u1,u2⟩:=np xs.toList (fun t ht=>by simp at ht) hu hC;refine gV ho hv (Hz ho (fa h4) h3 u1 h5 (fun hG=>⟨u2,?_,h6,h7⟩)) (ih h.2);obtain⟨UH,hw⟩:=h.1 hG;have hc:=c.ok UH;rw[h2]at hc;have hp:=hc.FI;refine⟨hp.1,fun w Pb cargs k1 k2=>?_⟩;refine(hp.2 w Pb cargs k1 (by have:=qs _ c.args k2;rw[hw]at this;exact this)).mono ?_;rintro e w' ⟨r,x,F,Pb',rfl,⟨H,q1,_⟩,rest⟩;exact⟨r,x,F,Pb',rfl,by rw[q1],rest⟩
 | mm k ih=>
   intro l A K h;cases l with
   | nil=>exact⟨_,H2.ku,_,h⟩
   | cons i l=>
     simp only[P2]at h;split at h;exact h.elim;exact h.elim;rename_i o ho hz;obtain⟨dst,op,ty,pos,after,E9⟩:=o;split at h;exact h.elim;rename_i hg;simp only at hg;subst hg;split at h;split at h;rename_i hv;split at h;rename_i heq;simp only at heq;subst heq;split at h;rename_i kd p Un q e1 e2 e3;obtain⟨rfl,h⟩:=h;exact gV ho hv (mL ho (Bs (fa e3) e1 e2 (.inl ⟨rfl,rfl⟩))) (ih h);rename_i kd p Un q e1 e2 e3;obtain⟨rfl,h⟩:=h;exact gV ho hv (mL ho (Bs (fa e3) e1 e2 (.inr ⟨rfl,rfl⟩))) (ih h);exact h.elim;exact h.elim;exact h.elim;exact h.elim
 | Pq bs k ih=>
   intro l A K h;cases l with
   | nil=>exact⟨_,H2.ku,_,h⟩
   | cons i l=>
     simp only[P2]at h;split at h;exact h.elim;exact h.elim;rename_i o ho hz;obtain⟨dst,op,ty,pos,after,E9⟩:=o;split at h;exact h.elim;rename_i hg;simp only at hg;subst hg;split at h;split at h;rename_i hv;split at h;rename_i heq;simp only at heq;subst heq;split at h;rename_i fl ys e1 e2;simp only[Zao]at e1;obtain⟨rfl,h⟩:=h;obtain⟨e,q1,q2⟩:=yG e1.1.1;exact gV ho hv (mL ho (yp e fl bs ⟨q1,q2,vo e1.1.2⟩ (fa e1.2) e2)) (ih h);exact h.elim;exact h.elim;exact h.elim;exact h.elim
 | _=>
   intro l A K h;cases l with
   | nil=>exact⟨_,H2.ku,_,h⟩
   | cons i l=>
     simp only[P2]at h
     (repeat' split at h) <;> exact h.elim
theorem sx{K K':AS->Prop}(hK:∀ B,K B->K' B):∀ (l:List Nat) {A:AS},Qp P N ops tb zs l A K->Qp P N ops tb zs l A K'
 | [],A,h=>hK A h
 | i::l,A,h=>by
   obtain⟨o,ho,h⟩:=h;refine⟨o,ho,?_⟩;split at h;exact fun g=>sx hK l (h g);split at h;obtain⟨e1,e2,v,h1,h2⟩:=h;exact⟨e1,e2,v,h1,sx hK l h2⟩;obtain⟨G,U,h1,h2,h3⟩:=h;exact⟨G,U,h1,h2,fun g=>sx hK l (h3 g)⟩
end
section
variable {P:Program} {N:Nat} {ops:Array Oper} {A:AS}
end
def go{P:Program}(N:Nat):Code->AS->Sc P->(Exit->AS->Sc P->Prop)->Prop
 | .skip,A,s,K=>K .normal A s
 | .label _,A,s,K=>K .normal A s
 | .exit i,A,s,K=>K (.exit i) A s
 | .goto i,A,s,K=>K (.goto i) A s
 | .ret,A,s,K=>R7 N s A fun A s=>K .ret A s
 | .seq x y,A,s,K=>go N x A s fun e A s=>match e with
   | .normal=>go N y A s K
   | e=>K e A s
 | .block id c,A,s,K=>go N c A s fun e A s=>match e with
   | .exit j=>match j==id with
     | true=>K .normal A s
     | false=>K (.exit j) A s
   | e=>K e A s
 | .cond c x y,A,s,K=>R7 N s A fun A s=>match A.ev c,s with
   | .lit (.bool b),.br s1 s2=>(b=true->go N x A s1 K)/\(b=false->go N y A s2 K)
   | .lit (.bool b),.join X B ok s1 s2 k=>
     (b=true->go N x A s1 fun e A' s'=>match e with
      | .normal=>R7 N s' A' fun A' _=> ∃ x,ok x/\X8 A' (B x)
      | e=>K e A' s')/\
     (b=false->go N y A s2 fun e A' s'=>match e with
      | .normal=>R7 N s' A' fun A' _=> ∃ x,ok x/\X8 A' (B x)
      | e=>K e A' s')/\
     ∀ x,ok x->K .normal (B x) (k x)
   | _,_=>False
 | .scope c,A,s,K=>go N c A s fun e A s=>match e with
   | .goto _=>False
   | e=>K e A s
 | .loop c,A,s,K=>R7 N s A fun A s=>match s with
   | .loop X inv ok m k=>(∃ x,ok x/\X8 A (inv x))/\∀ x,ok x->go N c (inv x) (k x) fun e A' s'=>match e with
     | .normal=>R7 N s' A' fun A' _=> ∃ y,ok y/\m y<m x/\X8 A' (inv y)
     | e=>K e A' s'
   | _=>False
 | .region _ ops false,A,s,K=>R7 N s A fun A s=>H9 N ops [] s ops.toList A fun A s=>K .normal A s
 | .region _ ops true,A,s,K=>R7 N s A fun A s=>match s with
   | .dx m pl tb zs k=>match P.follows .mixedOrders&&sy ops m tb zs pl&&EM ops m pl&&Ec N ops zs with
     | true=>P2 N ops tb zs k pl A fun A s=>H9 N ops [] s (ops.toList.drop m) A fun A s=>K .normal A s
     | false=>False
   | _=>False
 | _,_,_,_=>False
section
variable {P:Program} {N:Nat} {ops:Array Oper} {A A' A1 B:AS}
variable {w:World} {Pb Kb:Nat->Prop} {a:Act} {F:m7->List Nat}
theorem LI{X:Type} {c:Code} {Q:Exit->AS->Prop} (inv:X->AS) (ok:X->Prop) (m:X->Nat) (h0:∃ x,ok x/\Um A (inv x).t/\TC A (inv x).h)
 (round:∀ x,ok x->T P N c (inv x) fun e A'=>match e with
  | .normal=>Hx N A' fun A'=> ∃ y,ok y/\m y<m x/\Um A' (inv y).t/\TC A' (inv y).h
  | e=>Q e A'):T P N (.loop c) A Q:=by
 obtain⟨x0,hx0,l0,r0⟩:=h0;refine MD (fun n A=> ∃ x,m x=n/\ok x/\Um A (inv x).t/\TC A (inv x).h) (m x0) ⟨x0,rfl,hx0,l0,r0⟩ ?_;rintro n A ⟨x,rfl,hx,h1,h2⟩;refine Of h1 h2 (nS (nk (round x hx) fun e A' hq=>?_));cases e with
 | normal=>exact Hx.mono hq fun B ⟨y,k1,k2,k3,k4⟩=>⟨m y,k2,y,rfl,k1,k3,k4⟩
 | _=>exact Hx.of hq
def ngo(Q:Exit->AS->Prop):Exit->AS->Prop
 | .goto _,_=>False
 | e,A=>Q e A
theorem Md{c:Code}{Q:Exit->AS->Prop}(h:T P N c A (ngo Q)):T P N (.scope c) A Q:=by
 intro Pb Kb a w F hs;refine wp_scope_straight (wp_mono (h Pb Kb a w F hs) fun e a' w' hn=>?_);cases e with
 | goto l=>obtain⟨_,_,_,_,h,_⟩:=hn;exact h
 | _=>exact hn
theorem KK:∀ (c:Code) {A:AS} {s:Sc P} {K:Exit->AS->Sc P->Prop},go N c A s K->T P N c A fun e B=> ∃ s',K e B s':=by
 intro c;induction c with
 | skip=>intro A s K h;exact Mu ⟨_,h⟩
 | label l=>intro A s K h;exact KP ⟨_,h⟩
 | exit i=>intro A s K h;exact MF ⟨_,h⟩
 | goto i=>intro A s K h;exact NN ⟨_,h⟩
 | ret=>intro A s K h;exact qi ((lU s h).mono fun B hB=>Oe hB)
 | seq x y X' X9=>
   intro A s K h;refine NY (nk (X' h) fun e B hB=>?_);obtain⟨s',hB⟩:=hB;cases e with
   | normal=>exact X9 hB
   | _=>exact⟨_,hB⟩
 | scope c ih=>
   intro A s K h;refine Md (nk (ih h) fun e B hB=>?_);obtain⟨s',hB⟩:=hB;cases e with
   | goto l=>exact hB
   | _=>exact⟨_,hB⟩
 | block id c ih=>
   intro A s K h;refine Lm (nk (ih h) fun e B hB=>?_);obtain⟨s',hB⟩:=hB;cases e with
   | exit j=>
     simp only[blk];simp only at hB;split at hB;rename_i e;rw[if_pos Zb3];exact⟨_,hB⟩;rename_i e;rw[if_neg Zb3];exact⟨_,hB⟩
   | _=>exact⟨_,hB⟩
 | cond c x y X' X9=>
   intro A s K h;refine qi ((lU s h).mono fun B hB=>?_);obtain⟨s',hB⟩:=hB;split at hB;rename_i e;exact GB e (fun hb=>X' (hB.1 hb)) (fun hb=>X9 (hB.2 hb));rename_i b X I ok s1 s2 k e;obtain⟨h1,h2,h3⟩:=hB
   have step:∀ (z:Code) (K':Exit->AS->Sc P->Prop),(∀ A' s',K' .normal A' s'->R7 N s' A' fun A' _=> ∃ x,ok x/\X8 A' (I x))->(∀ e,e≠.normal->∀ A' s',K' e A' s'->K e A' s')->
    (T P N z B fun e A'=> ∃ s',K' e A' s')->T P N z B fun e A'=> ∃ s',K e A' s':=fun z K' hn ho hz=>by
    refine nS (nk hz fun e A' hq=>?_);obtain⟨s',hq⟩:=hq;by_cases he:e=.normal;subst he;refine(lU s' (hn _ _ hq)).bind fun B' hB'=>?_;obtain⟨_,x,k1,k2⟩:=hB';exact KN (uy k2).1 (uy k2).2 ⟨_,h3 x k1⟩;exact Hx.of ⟨_,ho e he _ _ hq⟩
   refine GB e (fun hb=>step _ _ ?_ ?_ (X' (h1 hb))) (fun hb=>step _ _ ?_ ?_ (X9 (h2 hb)));exact fun _ _ h=>h;intro e he A' s' h;cases e <;> first | exact h | exact absurd rfl he
   exact fun _ _ h=>h;intro e he A' s' h;cases e <;> first | exact h | exact absurd rfl he
   exact hB.elim
 | loop c ih=>
   intro A s K h;refine qi ((lU s h).mono fun B hB=>?_);obtain⟨s',hB⟩:=hB;split at hB;rename_i X inv ok m k;refine LI inv ok m (by obtain⟨x,a,b⟩:=hB.1;exact⟨x,a,uy b⟩) fun x hx=>nk (ih (hB.2 x hx)) fun e A' hq=>?_;obtain⟨s',hq⟩:=hq;cases e with
   | normal=>exact(lU s' hq).mono fun B ⟨_,y,a,b,c⟩=>⟨y,a,b,uy c⟩
   | _=>exact⟨_,hq⟩
   exact hB.elim
 | region id ops draw=>
   intro A s K h;cases draw with
   | false=>exact qi ((lU s h).mono fun B ⟨s',hB⟩=>IM (Hi s' hB))
   | true=>
     refine qi ((lU s h).mono fun B hB=>?_);obtain⟨s',hB⟩:=hB;split at hB;split at hB;rename_i e;simp only[Zao]at e;exact yL e.1.1.1 e.1.1.2 e.2 e.1.2 (sx (fun B ⟨B',hA,s',hB⟩=>⟨B',hA,Hi s' hB⟩) _ (NT _ hB));exact hB.elim;exact hB.elim
 | _=>intro A s K h;exact h.elim
def sk(H:List (Nat×(Nat×V)))(xs:List m7):Bool:=xs.all fun r=>match r with
 | .key k=>(lk k H).isNone
 | .slot _=>true
def zd(rs:List ResultVar)(Q:V->AS->Prop)(H:List (Nat×(Nat×V)))(A:AS):Prop:=match AB A rs with
    | some (C,xs)=>match lM P rs xs&&nodupB (xs.map (·.1))&&sk H (xs.map (·.1)) with
      | true=>cj C (Q (one (xs.map (·.2))) A)
      | false=>False
    | none=>False
def Bj(N:Nat)(rs:List ResultVar)(Q:V->AS->Prop)(H:List (Nat×(Nat×V))):Exit->AS->Sc P->Prop:=fun e A s=>match e with
 | .normal=>R7 N s A fun A _=>zd (P:=P) rs Q H A
 | .ret=>zd (P:=P) rs Q H A
 | _=>False
theorem sD{H:List (Nat×(Nat×V))}{xs:List m7}(h:sk H xs=true)(k:Nat)(hk:lk k H≠none):m7.key k ∉ xs:=fun c=>by
 unfold sk at h;rw[Za2]at h;have:=h _ c;simp only[Option.isNone_iff_eq_none]at this;exact hk this
theorem PF.wkr{f:FuncId} {args:List V} {H:List (Nat×(Nat×V))} {X:Type} {post:X->Prop} {E:X->V} {H':X->List (Nat×(Nat×V))}
 (h:PF P f args H (fun r h=> ∃ x,post x/\wk r (E x)=E x/\h=H' x)):PF P f args H (fun r h=> ∃ x,post x/\r=E x/\h=H' x):=
 ⟨h.1,fun w Pb Kb cargs F hi=>(h.2 w Pb Kb cargs F hi).mono fun e w'=>by
  rintro⟨r,x,H1,Pb',I4,F',rfl,⟨z,q1,q2,rfl⟩,hf⟩;exact⟨E z,x,H' z,Pb',I4,F',rfl,⟨z,q1,rfl,rfl⟩,by have:=Ad (E z) hf.val;rw[q2]at this;exact⟨this,hf.root,hf.cM,hf.nodup,hf.free,hf.sub,hf.bound,hf.mP,hf.mK,hf.Ul,hf.fC⟩⟩⟩
theorem ug{f:FuncId} {fn:Func} {c:Code} {args:List V} {H:List (Nat×(Nat×V))} {N:Nat} {rs:List ResultVar} {X:Type} {post:X->Prop} {E:X->V} {H':X->List (Nat×(Nat×V))}
 (hf:P.funcs[f]? =some fn) (VD:(fn.name== "runtime.NumGoroutine")=false) (hb:fn.body=some c) (hN:fn.ntmps=N) (YS:fn.results.toList=rs) (hlen:Nat.ble args.length N=true)
 (HK:List (Nat×(Nat×V))) (hHK:∀ x k,lk k (H' x)≠none->lk k HK≠none)
 (sc:Sc P) (VC:Prop) (he:VC=go N c ⟨enum 0 args,H⟩ sc (Bj N rs (fun v A=> ∃ x,post x/\ri A (H' x) (wk v (E x)=E x)) HK)) (h:VC):
 PF P f args H (fun r h=> ∃ x,post x/\r=E x/\h=H' x):=by
 subst hN YS;rw[he]at h;refine PF.wkr (DQ hf hb (eU hf VD (by rw[hb];rfl)) (Nat.le_of_ble_eq_true hlen) (nS (nk (KK _ h) ?_)));rintro e A0 ⟨s0,hq⟩;have fin:∀ A,(e=.normal\/e=.ret)->zd (P:=P) fn.results.toList (fun v A=> ∃ x,post x/\ri A (H' x) (wk v (E x)=E x)) HK A->JS P fn.results.toList (fun r h=> ∃ x,post x/\wk r (E x)=E x/\h=H' x) e A:=fun A he hq=>by
  unfold zd at hq;split at hq;rename_i C xs e1;split at hq;rename_i e2;simp only[Zao]at e2;obtain⟨hC,x,q1,hq⟩:=oK.1 hq;obtain⟨q2,q3⟩:=vE hq;obtain⟨C',f1,f2⟩:=uC e1 hC;exact⟨he,xs,H' x,uP f1 f2,qW e2.1.1,vZ e2.1.2,q3,fun k hk=>sD e2.2 k (hHK x k hk),x,q1,q2,rfl⟩;exact hq.elim;exact hq.elim
 cases e with
 | normal=>exact(lU s0 hq).mono fun B ⟨_,hB⟩=>fin B (.inl rfl) hB
 | ret=>exact Hx.of (fin A0 (.inr rfl) hq)
 | _=>exact hq.elim
theorem MG{f:FuncId} {fn:Func} {c:Code} {args:List V} {H:List (Nat×(Nat×V))} {N:Nat} {rs:List ResultVar} {E:V} {H':List (Nat×(Nat×V))}
 (hf:P.funcs[f]? =some fn) (VD:(fn.name== "runtime.NumGoroutine")=false) (hb:fn.body=some c) (hN:fn.ntmps=N) (YS:fn.results.toList=rs) (hlen:Nat.ble args.length N=true)
 (sc:Sc P) (VC:Prop) (he:VC=go N c ⟨enum 0 args,H⟩ sc (Bj N rs (fun v A=>ri A H' (wk v E=E)) H')) (h:VC):
 PF P f args H (fun r h=>r=E/\h=H'):=by
 subst hN YS;rw[he]at h;have:=PF.wkr (X:=Unit) (post:=fun _=>True) (E:=fun _=>E) (H':=fun _=>H') (DQ (P:=P) (f:=f) (args:=args) (H:=H) (Q:=fun r h=> ∃ _:Unit,True/\wk r E=E/\h=H') hf hb (eU hf VD (by rw[hb];rfl)) (Nat.le_of_ble_eq_true hlen) (nS (nk (KK _ h) ?_)));exact this.mono fun r H ⟨_,_,h1,h2⟩=>⟨h1,h2⟩;rintro e A0 ⟨s0,hq⟩;have fin:∀ A,(e=.normal\/e=.ret)->zd (P:=P) fn.results.toList (fun v A=>ri A H' (wk v E=E)) H' A->JS P fn.results.toList (fun r h=> ∃ _:Unit,True/\wk r E=E/\h=H') e A:=fun A he hq=>by
  unfold zd at hq;split at hq;rename_i C xs e1;split at hq;rename_i e2;simp only[Zao]at e2;obtain⟨hC,hq⟩:=oK.1 hq;obtain⟨q2,q3⟩:=vE hq;obtain⟨C',f1,f2⟩:=uC e1 hC;exact⟨he,xs,H',uP f1 f2,qW e2.1.1,vZ e2.1.2,q3,fun k hk=>sD e2.2 k hk,(),trivial,q2,rfl⟩;exact hq.elim;exact hq.elim
 cases e with
 | normal=>exact(lU s0 hq).mono fun B ⟨_,hB⟩=>fin B (.inl rfl) hB
 | ret=>exact Hx.of (fin A0 (.inr rfl) hq)
 | _=>exact hq.elim
end
theorem iu{xs:List V}{j sz g0 o0 g o c:Nat}{v:V}(h:xs[j]? =some v):V.at g0 o0 (.own sz xs g o c) [j]=some (g,o+j*sz,v):=by simp only[V.at,h]
theorem oL{xs ys:List V}{j sz g o c:Nat}{x v:V}(h:xs[j]? =some x)(e:xs.set j v=ys):V.set (.own sz xs g o c) [j] v=.own sz ys g o c:=by simp only[V.set,h,e]
theorem XZ{x y:V}{r:List V}(h:x=y):V.agg (x::r)=V.agg (y::r):=by rw[h]
theorem qb{x y u:V}{r:List V}{p:List Nat}(h:V.set x p u=y):V.set (.agg (x::r)) (0::p) u=V.agg (y::r):=by rw[<- h];rfl
theorem O3{a0 x y:V}{r:List V}(h:x=y):V.agg (a0::x::r)=V.agg (a0::y::r):=by rw[h]
theorem Fz{a0 x y u:V}{r:List V}{p:List Nat}(h:V.set x p u=y):V.set (.agg (a0::x::r)) (1::p) u=V.agg (a0::y::r):=by rw[<- h];rfl
theorem F9{a0 a1 x y:V}{r:List V}(h:x=y):V.agg (a0::a1::x::r)=V.agg (a0::a1::y::r):=by rw[h]
theorem nE{a0 a1 x y u:V}{r:List V}{p:List Nat}(h:V.set x p u=y):V.set (.agg (a0::a1::x::r)) (2::p) u=V.agg (a0::a1::y::r):=by rw[<- h];rfl
theorem OO{a0 a1 a2 a3 a4 x y u:V}{r:List V}{p:List Nat}(h:V.set x p u=y):V.set (.agg (a0::a1::a2::a3::a4::x::r)) (5::p) u=V.agg (a0::a1::a2::a3::a4::y::r):=by rw[<- h];rfl
abbrev m6(x:Int):Prop:= -9223372036854775808<=x/\x<=9223372036854775807
abbrev R9(x:Int):Prop:=0<=x/\x<=255
abbrev Ix{α:Type}(i:Int)(s:List α):Prop:=0<=i/\i<s.length
abbrev Sx{α:Type}(lo hi:Int)(s:List α):Prop:=0<=lo/\lo<=hi/\hi<=s.length
abbrev Ex(i:Int)(xs:List V)(v:V):Prop:=0<=i/\xs[Int.toNat i]? =some v
abbrev s4(a b:Int):Bool:=decide (a<b)
abbrev G'(a b:Int):Bool:=decide (a<=b)
abbrev s9(a b:Int):Bool:=decide (a>b)
abbrev D0(a b:Int):Bool:=decide (a>=b)
abbrev o5(a b:Int):Bool:=a==b
abbrev D7(a b:Int):Bool:=a != b
abbrev Br(b:Bool)(p q:Prop):Prop:=(b=true->p)/\(b=false->q)
abbrev Gd(b:Bool)(p:Prop):Prop:=b=true->p
abbrev Q(x y:V):Prop:=x=y
abbrev E(x:V):Prop:=x=x
abbrev Qr(g:Nat)(x:V)(g':Nat)(y:V):Prop:=(g,x)=(g',y)
abbrev Er(g:Nat)(x:V):Prop:=(g,x)=(g,x)
abbrev Z(g o:Nat):Prop:=(g,o)=(g,o)
abbrev In(i:Int)(n:Nat):Prop:=0<=i/\i<n
abbrev Pk(c a b:Bool):Prop:=(c=true->a=true)/\(c=false->b=true)
theorem nb:(∀ (p:Prop) [Decidable p],(decide p=true)=p)/\(∀ (p:Prop) [Decidable p],(decide p=false)= ¬ p)/\(∀ a b:Int,(¬ a<b)=(b<=a))/\(∀ a b:Int,(¬ a<=b)=(b<a))/\(∀ a b:Int,(a>b)=(b<a))/\(∀ a b:Int,(a>=b)=(b<=a))/\
 (∀ (α:Type) [BEq α] [LawfulBEq α] (a b:α),((a==b)=true)=(a=b))/\(∀ (α:Type) [BEq α] [LawfulBEq α] (a b:α),((a==b)=false)= ¬ a=b)/\
 (∀ (α:Type) [BEq α] [LawfulBEq α] (a b:α),((a != b)=true)= ¬ a=b)/\(∀ (α:Type) [BEq α] [LawfulBEq α] (a b:α),((a != b)=false)=(a=b))/\
 (∀ a b:Bool,((a||b)=true)=(a=true\/b=true))/\(∀ a b:Bool,((a||b)=false)=(a=false/\b=false))/\(∀ a b:Bool,((a&&b)=true)=(a=true/\b=true))/\(∀ a b:Bool,((a&&b)=false)=(a=true->b=false))/\
 (∀ a:Bool,((!a)=true)=(a=false))/\(∀ a:Bool,((!a)=false)=(a=true))/\(∀ a:Bool,(¬ a=true)=(a=false))/\(∀ a:Bool,(¬ a=false)=(a=true))/\(∀ p:Prop,(¬ ¬ p)=p)/\
 (∀ a:Bool,(a==true)=a)/\(∀ a:Bool,(a==false)=!a)/\(∀ a:Bool,(true&&a)=a)/\(∀ a:Bool,(a&&true)=a)/\((!true)=false)/\((!false)=true)/\(∀ a:Bool,(!!a)=a)/\(∀ (α β:Type) (f:α->β) (l:List α),(l.map f).length=l.length):=by
 refine⟨fun p _=>by simp,fun p _=>by simp,fun a b=>by simp,fun a b=>by simp,fun a b=>rfl,fun a b=>rfl,fun α _ _ a b=>by simp,fun α _ _ a b=>by simp,fun α _ _ a b=>by simp,fun α _ _ a b=>by simp,fun a b=>by simp,fun a b=>by simp,fun a b=>by simp,fun a b=>by cases a <;> simp,
  fun a=>by simp,fun a=>by simp,fun a=>by simp,fun a=>by simp,fun p=>by simp,fun a=>by simp,fun a=>by simp,fun a=>by simp,fun a=>by simp,rfl,rfl,fun a=>by simp,fun _ _ f l=>Zay ..⟩
section
variable {w w':World} {Pb Kb Pb':Nat->Prop} {N:Nat} {A A' A1 B:AS} {a:Act} {F:m7->List Nat}
end
theorem OC{P:Program} {f:FuncId} {fn:Func} {args:List V} {H:List (Nat×(Nat×V))} {N:Nat} {rs:List ResultVar} {E:V} {H':List (Nat×(Nat×V))}
 (hf:P.funcs[f]? =some fn) (sc:Sc P) (VC:Prop) (h:VC) (VD:(fn.name== "runtime.NumGoroutine")=false:=by kernel_rfl) (hb:fn.body.isSome=true:=by kernel_rfl) (hN:fn.ntmps=N:=by kernel_rfl) (YS:fn.results.toList=rs:=by kernel_rfl) (hlen:Nat.ble args.length N=true:=by kernel_rfl)
 (he:VC=go N (fn.body.getD .skip) ⟨enum 0 args,H⟩ sc (Bj N rs (fun v A=>ri A H' (wk v E=E)) H'):=by kernel_rfl):PF P f args H (fun r h=>r=E/\h=H'):=by
 cases XM:fn.body with
 | none=>rw[XM]at hb;cases hb
 | some c=>
   rw[XM]at he;exact MG hf VD XM hN YS hlen sc VC he h
abbrev Sc.q{P:Program}(n:Nat)(k:Sc P):Sc P:=.r n [] k
theorem bI{c:Bool}{P Q p q:Prop}(a:p->P)(b:q->Q)(h1:(c=true)=p:=by first | (conv=>lhs;simp only[nb]) | rfl)(h2:(c=false)=q:=by first | (conv=>lhs;simp only[nb]) | rfl):Br c P Q:=⟨fun h=>a (h1 ▸ h),fun h=>b (h2 ▸ h)⟩
theorem au{P:Program}{f:FuncId}{fn:Func}{args:List V}{H:List (Nat×(Nat×V))}{E:V}{H':List (Nat×(Nat×V))}(hf:P.funcs[f]? =some fn)(sc:Sc P)(VC:Prop)(h:VC)(VD:(fn.name== "runtime.NumGoroutine")=false:=by kernel_rfl)(hb:fn.body.isSome=true:=by kernel_rfl)(hlen:Nat.ble args.length fn.ntmps=true:=by kernel_rfl)(he:VC=go fn.ntmps (fn.body.getD .skip) ⟨enum 0 args,H⟩ sc (Bj fn.ntmps fn.results.toList (fun v A=>ri A H' (wk v E=E)) H'):=by kernel_rfl):PF P f args H (fun r h=>r=E/\h=H'):=OC hf sc VC h VD hb rfl rfl hlen he
theorem fK{P:Program}{f:FuncId}{fn:Func}{args:List V}{H:List (Nat×(Nat×V))}{X:Type}{post:X->Prop}{E:X->V}{H':X->List (Nat×(Nat×V))}(hf:P.funcs[f]? =some fn)(sc:Sc P)(VC:Prop)(h:VC)(VD:(fn.name== "runtime.NumGoroutine")=false:=by kernel_rfl)(hb:fn.body.isSome=true:=by kernel_rfl)(hlen:Nat.ble args.length fn.ntmps=true:=by kernel_rfl)(hHK:∀ x k,lk k (H' x)≠none->lk k (H.map fun x=>(x.1,(0,V.c9)))≠none:=by intro _ k;simp[lk])(he:VC=go fn.ntmps (fn.body.getD .skip) ⟨enum 0 args,H⟩ sc (Bj fn.ntmps fn.results.toList (fun v A=> ∃ x,post x/\ri A (H' x) (wk v (E x)=E x)) (H.map fun x=>(x.1,(0,V.c9)))):=by kernel_rfl):PF P f args H (fun r h=> ∃ x,post x/\r=E x/\h=H' x):=by
 cases XM:fn.body with
 | none=>rw[XM]at hb;cases hb
 | some c=>
   rw[XM]at he;exact ug hf VD XM rfl rfl hlen _ hHK sc VC he h
abbrev kp(k g:Nat):V:=.ptr (.key k) [] g 0
abbrev m5(a b:List Nat):SO:=⟨false,[],some a,b,[]⟩
abbrev Sc.A7{P:Program}(m:Nat)(tb:List (Nat×SO))(k:Sc P):Sc P:=.dx m (List.range m) tb [] k
abbrev Sc.n9{P:Program}(k:Sc P):Sc P:=.r 1 [.c9] k
def Sc.l7{P:Program}:Nat->Sc P->Sc P
 | 0,k=>k
 | n+1,k=>.r 1 [] (Sc.l7 n k)
theorem ao{p:Prop}(h:p:=by repeat' (first | exact rfl | exact trivial | exact fun h=>h | exact fun hG=>rfl | exact fun hG=>trivial | exact fun hG=>⟨trivial,rfl⟩ | exact fun _=>rfl | exact fun _=>trivial | exact fun _ h=>h | exact⟨fun _=>rfl,fun h=>by rw[h] <;> rfl⟩ | exact⟨fun h=>by rw[h] <;> rfl,fun _=>rfl⟩ | exact fun hG=>⟨fun h=>by rw[h];exact(Zao _ _).mpr ⟨hG,rfl⟩,fun _=>rfl⟩ | exact fun hG=>⟨fun _=>rfl,fun h=>by rw[h];exact(Zao _ _).mpr ⟨hG,rfl⟩⟩ | omega | refine And.intro ?_ ?_ | ((try simp only[Zay]at *);omega) | ((try simp only[Zay]at *);(try simp only[Zap,Zay,Zar,Zau,List.length_take,List.length_drop]);omega) | (simp[aW,V.n,V.ns]) | exact fun hG=>by(try simp only[nb]at hG);omega | exact fun hG=>by(try simp only[nb]at hG);(try simp only[Zay]at *);omega | exact fun hG=>by(try simp only[nb]at hG);(try simp only[Zay]at *);(try simp only[Zap,Zay,Zar,Zau,List.length_take,List.length_drop]);omega | (simp;omega) | assumption)):p:=h
theorem ak{A Z:Prop}(z:Z)(a:A:=by exact ao):A/\Z:=⟨a,z⟩
theorem bb{A B Z:Prop}(z:Z)(a:A/\B:=by exact ao):A/\B/\Z:=⟨a.1,a.2,z⟩
theorem bm{A B C Z:Prop}(z:Z)(a:A/\B/\C:=by exact ao):A/\B/\C/\Z:=⟨a.1,a.2.1,a.2.2,z⟩
theorem df{A B C D Z:Prop}(z:Z)(a:A/\B/\C/\D:=by exact ao):A/\B/\C/\D/\Z:=⟨a.1,a.2.1,a.2.2.1,a.2.2.2,z⟩
theorem eQ{A B C D E Z:Prop}(z:Z)(a:A/\B/\C/\D/\E:=by exact ao):A/\B/\C/\D/\E/\Z:=⟨a.1,a.2.1,a.2.2.1,a.2.2.2.1,a.2.2.2.2,z⟩
theorem mD{A B C D E F Z:Prop}(z:Z)(a:A/\B/\C/\D/\E/\F:=by exact ao):A/\B/\C/\D/\E/\F/\Z:=⟨a.1,a.2.1,a.2.2.1,a.2.2.2.1,a.2.2.2.2.1,a.2.2.2.2.2,z⟩
theorem AM{A B C D E F G Z:Prop}(z:Z)(a:A/\B/\C/\D/\E/\F/\G:=by exact ao):A/\B/\C/\D/\E/\F/\G/\Z:=⟨a.1,a.2.1,a.2.2.1,a.2.2.2.1,a.2.2.2.2.1,a.2.2.2.2.2.1,a.2.2.2.2.2.2,z⟩
theorem gN{A B C D E F G H Z:Prop}(z:Z)(a:A/\B/\C/\D/\E/\F/\G/\H:=by exact ao):A/\B/\C/\D/\E/\F/\G/\H/\Z:=⟨a.1,a.2.1,a.2.2.1,a.2.2.2.1,a.2.2.2.2.1,a.2.2.2.2.2.1,a.2.2.2.2.2.2.1,a.2.2.2.2.2.2.2,z⟩
mutual
def V.lits:V->Option (List Value)
 | .lit x=>if x.oneCell' then some [x] else none
 | .agg vs=>V.uz vs
 | _=>none
def V.uz:List V->Option (List Value)
 | []=>some []
 | v::vs=>match v.lits,V.uz vs with
   | some a,some b=>some (a++b)
   | _,_=>none
end
def V.val?:V->Option Value
 | .lit x=>if x.oneCell' then some x else none
 | .agg us=>(V.uz us).map fun l=>.agg l.toArray
 | .ptr _ _ g o=>some (.pointer (some ⟨g,o,none⟩))
 | _=>none
section
variable {w w':World} {Pb Kb Pb':Nat->Prop} {N:Nat} {A A' B:AS} {a:Act} {F:m7->List Nat} {P:Program} {ops:Array Oper}
mutual
theorem Cm:∀ (v:V) {l},v.lits=some l->∀ {cs F},R w Pb v cs F↔cs=l/\F=[]
 | .lit x,l,h,cs,F=>by
   simp only[V.lits]at h;split at h;rename_i hx;simp at h;subst h;simp only[R];exact⟨fun h=>h.2,fun h=>⟨hx,h⟩⟩;simp at h
 | .agg vs,l,h,cs,F=>by simp only[V.lits]at h;simp only[R];exact uH vs h
 | .sl ..,_,h,_,_=>by simp[V.lits]at h
 | .tup _,_,h,_,_=>by simp[V.lits]at h
 | .gv _ _,_,h,_,_=>by simp[V.lits]at h
 | .own ..,_,h,_,_=>by simp[V.lits]at h
 | .hd ..,_,h,_,_=>by simp[V.lits]at h
 | .ow ..,_,h,_,_=>by simp[V.lits]at h
 | .om ..,_,h,_,_=>by simp[V.lits]at h
 | .mp ..,_,h,_,_=>by simp[V.lits]at h
 | .ptr ..,_,h,_,_=>by simp[V.lits]at h
 | .ep _,_,h,_,_=>by simp[V.lits]at h
 | .c9,_,h,_,_=>by simp[V.lits]at h
theorem uH:∀ (vs:List V) {l},V.uz vs=some l->∀ {cs F},RL w Pb vs cs F↔cs=l/\F=[]
 | [],l,h,cs,F=>by simp[V.uz]at h;subst h;simp[RL]
 | v::vs,l,h,cs,F=>by
   simp only[V.uz]at h;split at h;rename_i a b h1 h2;simp at h;subst h;simp only[RL,Cm v h1,uH vs h2];exact⟨fun⟨_,_,_,_,e1,e2,⟨e3,e4⟩,e5,e6⟩=>⟨by rw[e1,e3,e5],by rw[e2,e4,e6];rfl⟩,fun⟨e1,e2⟩=>⟨_,_,_,_,e1,(by rw[e2];rfl:_=([]:List Nat)++[]),⟨rfl,rfl⟩,rfl,rfl⟩⟩;simp at h
end
theorem NS{v:V}{x y:Value}{Fx:List Nat}(h:v.val? =some y)(hr:RV w Pb v x Fx):x=y/\Fx=[]:=by
 cases v with
 | lit z=>
   simp only[V.val?]at h;split at h;obtain⟨_,e,hF⟩:=(hr:R w Pb (.lit z) [x] Fx);simp at e h;exact⟨by rw[e,h],hF⟩;simp at h
 | agg us=>
   simp only[V.val?,Option.map_eq_some_iff]at h;obtain⟨l,h1,rfl⟩:=h;obtain⟨cs,rfl,hr⟩:=(hr:∃ cs,x=.agg cs/\RL w Pb us cs.toList Fx);obtain⟨e1,e2⟩:=(uH us h1).1 hr;exact⟨by rw[<- e1],e2⟩
 | ptr r p g o=>
   simp only[V.val?,Zan]at h;subst h;obtain⟨hF,e⟩:=(hr:R w Pb (.ptr r p g o) [x] Fx);simp at e;exact⟨e,hF⟩
 | _=>simp[V.val?]at h
theorem xS{v:V}{y:Value}(h:v.val? =some y):RV w Pb v y []:=by
 cases v with
 | lit z=>
   simp only[V.val?]at h;split at h;rename_i hz;simp at h;subst h;exact⟨hz,rfl,rfl⟩;simp at h
 | agg us=>
   simp only[V.val?,Option.map_eq_some_iff]at h;obtain⟨l,h1,rfl⟩:=h;exact⟨_,rfl,(uH us h1).2 ⟨rfl,rfl⟩⟩
 | ptr r p g o=>
   simp only[V.val?,Zan]at h;subst h;exact⟨rfl,rfl⟩
 | _=>simp[V.val?]at h
theorem oX(hs:x2 N Pb Kb A a w F){x:Operand}{y:Value}(h:(A.ev x).val? =some y):a.eval x=y:=by
 obtain⟨_,hr⟩:=eE hs x;exact(NS h hr).1
theorem DS{v:V}{y:Value}{vs:List V}{xs:List Value}(h:v.val? =some y)(hr:RVs w Pb vs xs []):RVs w Pb (v::vs) (y::xs) []:=by
 have:=xS (w:=w) (Pb:=Pb) h;refine⟨y,xs,[],[],rfl,rfl,?_,hr⟩;cases v with
 | agg us=>exact this
 | lit _=>exact this
 | ptr _ _ _ _=>exact this
 | _=>simp[V.val?]at h
theorem ue{v1 v2:V}{y1 y2:Value}(h1:v1.val? =some y1)(h2:v2.val? =some y2):RV w Pb (.tup [v1,v2]) (.tuple #[y1,y2]) []:=
 ⟨_,rfl,DS h1 (DS h2 ⟨rfl,rfl⟩)⟩
theorem x2.mod(hs:x2 N Pb Kb A a w F) {t g:Nat} {v':V} (hg:g∈F (.slot t)) (hk:∀ k,k≠g->w'.heap[k]? =w.heap[k]?) (hsz:w'.heap.size=w.heap.size)
 (hv:RV w' Pb v' (a.tmps.getD t undef) (F (.slot t))):x2 N Pb Kb (A.put (some t) v') a w' F where
 size:=hs.size
 defers:=hs.defers
 slot:=fun i=>by
  rw[AS.aO];split;rename_i e;subst e;exact hv;rename_i e;refine oo _ (hs.slot i) (fun x hx=>hk x fun c=>?_) (fun x hx=>hk x fun c=>?_) (fun _ h=>h) (fun x hx c=>(hs.free _ x hx).1 (hs.sub x c));subst c;exact(hs.free _ _ hg).1 (hs.sub _ hx);subst c;exact hs.cM (.slot i) (.slot t) (fun c=>e (by injection c)) _ hx hg
 root:=fun k g' v h=>by
  obtain⟨F',e,hA⟩:=hs.root k g' v h;refine⟨F',e,?_⟩;have hne:∀ x,x∈g'::F'->x≠g:=fun x hx c=>by
   subst c;exact hs.cM (.key k) (.slot t) Zad _ (by rw[e];exact hx) hg
  obtain⟨cs,cells,⟨e1,fr,hb,hfr⟩,hr,hc⟩:=hA
  exact⟨cs,cells,⟨e1,fr,(hk g' (hne g' Zad)).trans hb,hfr⟩,hY _ hr (fun x hx=>hk x fun c=>by subst c;exact(hs.free _ _ hg).1 (hs.sub _ hx)) (fun x hx=>hk x (hne x (by simp[hx]))) (fun _ h=>h)
   (fun x hx c=>(hs.free (.key k) x (by rw[e];simp[hx])).1 (hs.sub x c)),hc⟩
 cM:=hs.cM
 nodup:=hs.nodup
 free:=fun r x hx=>by rw[hsz];exact hs.free r x hx
 sub:=hs.sub
 bound:=fun x hx=>by rw[hsz];exact hs.bound x hx
theorem gF{o:Oper} {K:AS->Prop} {d:Nat} {v:V} (hd:o.dst=some d) (hN:d<N) (hK:K (A.put (some d) v))
 (h:∀ Pb Kb a w F,x2 N Pb Kb A a w F->∃ x,(execOp a.eval o).run P w=.ok (.value x) w/\RV w Pb v x []):J1 P N o A K:=
 jM (by rw[hd];exact hN) (by rw[hd];exact hK) h
end
section
variable {P:Program}
def miC:Cu P where
 X:=Unit
 pre N o A:=match o.op,o.dst with
  | .makeInterface T x,some d=>match Nat.blt d N,tD P T,(A.ev x).val? with
    | true,some _,some y=>(∃ td,P.underlying T=some td/\(∀ i,td≠.interface i))/\(Value.iface T y).oneCell'=true
    | _,_,_=>False
  | _,_=>False
 post _ o A:=match o.op,o.dst with
  | .makeInterface T x,some d=>match (A.ev x).val? with
    | some y=>A.put (some d) (.lit (.iface T y))
    | none=>A
  | _,_=>A
 ok:=by
  rintro N ⟨dst,op,ty,pos,after,E9⟩ A K-hp hK;replace hK:=hK ();simp only at hp hK;split at hp;rename_i T x d;split at hp;rename_i td0 y e1 e2 e3;obtain⟨⟨td,h1,h2⟩,h3⟩:=hp;simp only[e3]at hK;refine gF rfl (bP e1) hK fun Pb Kb a w F hs=>⟨.iface T y,?_,dJ h3⟩;have hy:=oX hs e3;have hu:=aV (w:=w) h1;cases td with
  | interface i=>exact absurd rfl (h2 i)
  | _=>simp[execOp,Instr.makeInterface,Za0,hu,hy]
  exact hp.elim;exact hp.elim
def Zz(v:V):Cu P where
 X:=Unit
 pre N o A:=match o.op,o.dst with
  | .typeAssert x _ T true,some d=>match Nat.blt d N,A.ev x,v.val? with
    | true,.lit (.iface T' y),some y'=>(∃ td,P.underlying T=some td/\(∀ i,td≠.interface i))/\T'=T/\y'=y
    | _,_,_=>False
  | _,_=>False
 post _ o A:=match o.dst with
  | some d=>A.put (some d) (.tup [v,bV true])
  | none=>A
 ok:=by
  rintro N ⟨dst,op,ty,pos,after,E9⟩ A K-hp hK;replace hK:=hK ();simp only at hp hK;split at hp;rename_i x T1 T d;split at hp;rename_i T' y y' e1 e2 e3;obtain⟨⟨td,h1,h2⟩,rfl,rfl⟩:=hp;refine gF rfl (bP e1) hK fun Pb Kb a w F hs=>⟨.tuple #[y',.bool true],?_,ue e3 rfl⟩;have hy:=cy hs e2;have hu:=aV (w:=w) h1;cases td with
  | interface i=>exact absurd rfl (h2 i)
  | _=>simp[execOp,Instr.typeAssert,Za0,hu,hy]
  exact hp.elim;exact hp.elim
def YA(z:ZT P):Cu P where
 X:=Unit
 pre N o A:=match o.op,o.dst with
  | .typeAssert x _ T true,some d=>match Nat.blt d N,A.ev x,T==z.T with
    | true,.lit (.iface T' y),true=>(∃ td,P.underlying T=some td/\(∀ i,td≠.interface i))/\T'≠T/\(∃ y,z.v.val? =some y/\∀ w,(zeroValue T).run P w=.ok y w)
    | _,_,_=>False
  | _,_=>False
 post _ o A:=match o.dst with
  | some d=>A.put (some d) (.tup [z.v,bV false])
  | none=>A
 ok:=by
  rintro N ⟨dst,op,ty,pos,after,E9⟩ A K-hp hK;replace hK:=hK ();simp only at hp hK;split at hp;rename_i x T1 T d;split at hp;rename_i T' y e1 e2 e3;obtain⟨⟨td,h1,h2⟩,hne,y2,hz,YD⟩:=hp;refine gF rfl (bP e1) hK fun Pb Kb a w F hs=>⟨.tuple #[y2,.bool false],?_,ue hz rfl⟩;have hy:=cy hs e2;have hu:=aV (w:=w) h1;cases td with
  | interface i=>exact absurd rfl (h2 i)
  | _=>simp[execOp,Instr.typeAssert,Za0,hu,hy,hne,YD]
  exact hp.elim;exact hp.elim
def ka:List V->Option (List Value)
 | []=>some []
 | v::vs=>match v.val?,ka vs with
   | some y,some ys=>some (y::ys)
   | _,_=>none
theorem nN{N:Nat}{Pb Kb:Nat->Prop}{A:AS}{a:Act}{w:World}{F:m7->List Nat}(hs:x2 N Pb Kb A a w F):∀ (xs:List Operand) {ys:List Value},ka (xs.map A.ev)=some ys->xs.map a.eval=ys
 | [],ys,h=>by simp[ka]at h;simp[h]
 | x::xs,ys,h=>by
   simp only[Zbe,ka]at h;split at h;rename_i y Z2 h1 h2;simp at h;subst h;rw[Zbe,oX hs h1,nN hs xs h2];simp at h
def Wh:Cu P where
 X:=Unit
 pre N o A:=match o.op,o.dst with
  | .makeFunc fn first C6,some d=>match Nat.blt d N,ka (first.toList.map A.ev),ka (C6.toList.map A.ev) with
    | true,some l1,some l2=>(Value.func fn l1.toArray l2.toArray).oneCell'=true
    | _,_,_=>False
  | _,_=>False
 post _ o A:=match o.op,o.dst with
  | .makeFunc fn first C6,some d=>match ka (first.toList.map A.ev),ka (C6.toList.map A.ev) with
    | some l1,some l2=>A.put (some d) (.lit (.func fn l1.toArray l2.toArray))
    | _,_=>A
  | _,_=>A
 ok:=by
  rintro N ⟨dst,op,ty,pos,after,E9⟩ A K-hp hK;replace hK:=hK ();simp only at hp hK;split at hp;rename_i fn first C6 d
  split at hp;rename_i l1 l2 e1 e2 e3;simp only[e2,e3]at hK;refine gF rfl (bP e1) hK fun Pb Kb a w F hs=>⟨.func fn l1.toArray l2.toArray,?_,dJ hp⟩;have h1:=nN hs _ e2;have h2:=nN hs _ e3;have h1:first.map a.eval=l1.toArray:=by rw[<- h1];apply Array.ext';simp
  have h2:C6.map a.eval=l2.toArray:=by rw[<- h2];apply Array.ext';simp
  simp only[execOp,Instr.makeFunc,Za0,Zas,Za1,h1,h2];exact hp.elim;exact hp.elim
end
section
variable {w w':World} {Pb Kb Pb':Nat->Prop} {N:Nat} {A A' B:AS} {a:Act} {F:m7->List Nat} {P:Program} {ops:Array Oper}
theorem Hg{v:V}{x:Value}(h:v.lits=some [x]):∀ n,RL w Pb (List.replicate n v) (List.replicate n x) []
 | 0=>⟨rfl,rfl⟩
 | n+1=>⟨[x],List.replicate n x,[],[],rfl,rfl,(Cm v h).2 ⟨rfl,rfl⟩,Hg h n⟩
theorem OD{x:Value}{n:Nat}{zc:Array Value}(h:zc.toList=[x]):madeCells zc (n*1)=(List.replicate n x).toArray:=by
 have hz:zc= #[x]:=by rw[<- Array.toList_inj];simpa using h
 subst hz;apply Array.ext;simp[madeCells];intro i h1 h2;simp[madeCells,Nat.mod_one]at h1 ⊢
def msC(z:ZT P)(n:Nat):Cu P where
 X:=Nat
 pre N o A:=match o.op,o.dst with
  | .makeSlice T l c,some d=>match Nat.blt d N,tD P T,ti P z.T with
    | true,some (.sl e),some i=>(e=z.T/\i.sz=1/\(∃ x,z.v.lits=some [x])/\z.v.n=1)/\A.ev l=.lit (.int .i64 n)/\A.ev c=.lit (.int .i64 n)/\1<=n/\n*i.Pq<=140737488355328/\n<=9223372036854775807
    | _,_,_=>False
  | _,_=>False
 post g o A:=match o.dst with
  | some d=>A.put (some d) (.own 1 (List.replicate n z.v) g 0 n)
  | none=>A
 ok:=by
  rintro N ⟨dst,op,ty,pos,after,E9⟩ A K-hp hK;simp only at hp hK;split at hp;rename_i T l c d;split at hp;rename_i e i e1 e2 e3;obtain⟨⟨rfl,hsz,⟨x,hx⟩,YE⟩,hl,hc,h1,Vg,h63⟩:=hp;obtain⟨inf,z0,PW,hzero,hfl⟩:=z.ok;obtain⟨Vr,_,M7,_,Ux,UZ,_⟩:=ke e3;rw[PW]at M7;obtain rfl:=Option.some.inj M7;have hu:=jw e2;intro Pb Kb a w F Q hs;have hl:=cy hs hl;have hc:=cy hs hc;have K7:z0.cells.toList=[x]:=by
   have h1:=tS (w:=w) (Pb:=Pb) z.v hfl;exact((Cm z.v hx).1 h1).1
  have hm:=run_make (P:=P) w T z.T inf z0 hu PW hzero .i64 .i64 n n Zac Zac (by rw[UZ,<- Int.natCast_mul,Nat.mul_comm];omega) Zac;rw[Int.toNat_natCast,Ux,hsz,OD K7]at hm;have Qu:(execOp a.eval ⟨some d,.makeSlice T l c,ty,pos,after,E9⟩).run P w=.ok (.value (.slice (some ⟨w.heap.size,0,none⟩) n n)) (w.alloc (.cells (List.replicate n x).toArray z.T)):=by
   simp only[execOp,Za0,hl,hc,hm,Zas,Za1]
  unfold Oper.wp;rw[Qu,Oper.upon_value];have P7:=hs.pK (.cells (List.replicate n x).toArray z.T);have SE: ¬ Kb w.heap.size:=fun h=>by have:=hs.bound _ h;omega
  have hR:R (w.alloc (.cells (List.replicate n x).toArray z.T)) Pb (.own 1 (List.replicate n z.v) w.heap.size 0 n) [.slice (some ⟨w.heap.size,0,none⟩) n n] [w.heap.size]:=
   .inr ⟨h1,Nat.one_pos,Zad,Zad,fun v Vy=>by rw[List.eq_of_mem_replicate Vy];exact YE,fun c=>SE (hs.sub _ c),_,[],_,rfl,Hg hx n,⟨z.T,(0,0),ig w _,fun i _ h=>by omega⟩,Zad,fun j u hu=>by rw[Zaw,List.getElem?_toArray];exact hu⟩
  exact⟨_,Pb,Kb,_,hK _,P7.put (bP e1) hR (fun r _ g hg=>by
   obtain rfl:=Zav.1 hg;intro c;have:=(hs.free r _ c).2;omega) Zad (fun g hg=>by
   obtain rfl:=Zav.1 hg;exact⟨SE,Zbx⟩),fun _ h=>h,fun _ h=>h,fun _ h=>.inl h,B6.alloc hs.bound _⟩
  exact hp.elim;exact hp.elim
def dc:List (BL×Value)->BL->Option Value
 | [],_=>none
 | p::r,k=>if p.1=k then some p.2 else dc r k
def fN:List (BL×Value)->BL->Value->List (BL×Value)
 | [],k,x=>[(k,x)]
 | p::r,k,x=>if p.1=k then (k,x)::r else p::fN r k x
theorem str_inj{a b:BL}:((⟨a.toArray⟩:ByteArray)== ⟨b.toArray⟩)=decide (a=b):=by
 rw[Za6,MapKept.bytes_beq];simp
theorem lS(k:BL):∀ (es:List (BL×Value)) (l:List MapEntry) (i:Nat),l.map (fun e=>(e.key,e.val))=es.map (fun p=>(Value.string ⟨p.1.toArray⟩,p.2))->
 (dc es k=none->Instr.findNow .string (.string ⟨k.toArray⟩) l i=some none)/\
 (∀ x,dc es k=some x->∃ j,Instr.findNow .string (.string ⟨k.toArray⟩) l i=some (some (i+j,x))/\j<l.length/\(∃ e,l[j]? =some e/\e.key=.string ⟨k.toArray⟩)/\
  ∀ y,(l.modify j fun e=>{ e with key:=.string ⟨k.toArray⟩,val:=y }).map (fun e=>(e.key,e.val))=(fN es k y).map (fun p=>(Value.string ⟨p.1.toArray⟩,p.2)))
 | [],l,i,h=>by
   have:l=[]:=Zbq
   subst this;simp[dc,Instr.findNow]
 | p::r,l,i,h=>by
   cases l with
   | nil=>simp at h
   | cons e l=>
     simp only[Zbe,List.cons.injEq,Zaq]at h;obtain⟨⟨h1,h2⟩,h3⟩:=h;obtain⟨i1,i2⟩:=lS k r l (i+1) h3;simp only[dc,fN,Instr.findNow,h1,Instr.sameNow,str_inj];by_cases hk:p.1=k;subst hk;simp only[if_true,decide_true];refine⟨Zad,fun x hx=>⟨0,?_,Zad,⟨e,rfl,h1⟩,fun y=>?_⟩⟩;simp at hx;rw[h2,hx];rfl;simp[h3];have RX: ¬ k=p.1:=fun c=>hk c.symm;simp only[if_neg hk,decide_eq_false RX];refine⟨i1,fun x hx=>?_⟩;obtain⟨j,j1,j2,⟨e',j3,j4⟩,j5⟩:=i2 x hx;refine⟨j+1,by rw[j1];congr 2;simp;omega,Zal,⟨e',by simpa using j3,j4⟩,fun y=>?_⟩;have:=j5 y;simp only[List.modify_succ_cons,Zbe,this,h1,h2]
theorem vB(k:BL)(y:Value):∀ (es:List (BL×Value)),dc es k=none->fN es k y=es++[(k,y)]
 | [],_=>rfl
 | p::r,h=>by
   simp only[dc]at h;split at h;simp at h;rename_i hk;simp only[fN,if_neg hk,vB k y r h,List.cons_append]
theorem oW{e:Bool}{n T:Nat}{k:ByteArray}(h:P.underlying T=some .string):(Instr.checkKey e (n+1) T (.string k)).run P w=.ok () w:=by
 unfold Instr.checkKey;simp[Za0,aV (w:=w) h]
theorem AG{k:ByteArray}{n:Nat}:Instr.sameBits n (.string k) (.string k)=true:=by
 unfold Instr.sameBits;exact(MapKept.bytes_beq k k).2 rfl
def mmC:Cu P where
 X:=Nat
 pre N o A:=match o.op,o.dst with
  | .makeMap _ none,some d=>match Nat.blt d N with
    | true=>True
    | false=>False
  | _,_=>False
 post g o A:=match o.dst with
  | some d=>A.put (some d) (.om [] g)
  | none=>A
 ok:=by
  rintro N ⟨dst,op,ty,pos,after,E9⟩ A K-hp hK;simp only at hp hK;split at hp;rename_i T d;split at hp;rename_i e1;intro Pb Kb a w F Q hs;have Qu:(execOp a.eval ⟨some d,.makeMap T none,ty,pos,after,E9⟩).run P w=.ok (.value (.map (some w.heap.size))) (w.alloc (.map #[] 0)):=rfl;unfold Oper.wp;rw[Qu,Oper.upon_value];have P7:=hs.pK (.map #[] 0);have SE: ¬ Kb w.heap.size:=fun h=>by have:=hs.bound _ h;omega
  have hR:R (w.alloc (.map #[] 0)) Pb (.om [] w.heap.size) [.map (some w.heap.size)] [w.heap.size]:=
   ⟨rfl,rfl,fun c=>SE (hs.sub _ c),#[],0,ig w _,rfl,Zad,Zad⟩
  exact⟨_,Pb,Kb,_,hK _,P7.put (bP e1) hR (fun r _ g hg=>by
   obtain rfl:=Zav.1 hg;intro c;have:=(hs.free r _ c).2;omega) Zad (fun g hg=>by
   obtain rfl:=Zav.1 hg;exact⟨SE,Zbx⟩),fun _ h=>h,fun _ h=>h,fun _ h=>.inl h,B6.alloc hs.bound _⟩
  exact hp.elim;exact hp.elim
def muC(t0:Nat)(es:List (BL×Value))(k:BL)(y:Value):Cu P where
 X:=Unit
 pre N o A:=match o.op,o.dst with
  | .mapUpdate T m kx x,none=>match tD P T,Nat.blt t0 N with
    | some (.map kt _),true=>match tD P kt,A.ev m,A.get t0 with
      | some .str,.lit (.map (some g)),.om R8 g'=>(g'=g/\R8=es)/\A.ev kx=sV k/\(A.ev x).val? =some y
      | _,_,_=>False
    | _,_=>False
  | _,_=>False
 post _ o A:=match A.get t0 with
  | .om _ g=>A.put (some t0) (.om (fN es k y) g)
  | _=>A
 ok:=by
  rintro N ⟨dst,op,ty,pos,after,E9⟩ A K-hp hK;replace hK:=hK ();simp only at hp hK;split at hp;rename_i T m kx x;split at hp;rename_i kt et e1 e2;split at hp;rename_i g R8 g' e3 e4 e5;obtain⟨⟨rfl,rfl⟩,hk,hy⟩:=hp;rw[e5]at hK;intro Pb Kb a w F Q hs;have hm:=cy hs e4;have hk:=cy hs hk;have hy:=oX hs hy;have h0:=hs.slot t0;rw[e5]at h0;have h0:R w Pb (.om R8 g') [a.tmps.getD t0 undef] (F (.slot t0)):=h0;obtain⟨hF,hc,hnP,en,cl,hb,Vf,hnd,hcl⟩:=h0;obtain⟨td,hu,hd⟩:=dq e1;have hu:P.underlying T=some (.map kt et):=by
   cases td <;> simp_all[dX]
  obtain⟨Vq,Ri,T6⟩:=dq e3;have Ri:P.underlying kt=some .string:=by
   cases Vq <;> simp_all[dX]
  have WE:∀ w:World,(Instr.checkKey false 10000 kt (.string (Str k))).run P w=.ok () w:=fun w=>oW Ri;obtain⟨f1,f2⟩:=lS k R8 en.toList 0 Vf
  have hw:∃ T9 Vj,(Instr.mapUpdate T (.map (some g')) (.string (Str k)) y).run P w=.ok () { w with heap:=w.heap.setIfInBounds g' (.map T9 Vj) }/\
   T9.toList.map (fun e=>(e.key,e.val))=(fN R8 k y).map (fun p=>(.string ⟨p.1.toArray⟩,p.2))/\(T9.toList.map (·.born)).Nodup/\∀ e∈T9.toList,e.born<Vj:=by
   cases hlk:dc R8 k with
   | none=>
     have:=f1 hlk;refine⟨en.push { key:=.string (Str k),val:=y,born:=cl },cl+1,?_,?_,?_,?_⟩;rw[show (⟨k.toArray⟩:ByteArray)=Str k from rfl]at this;simp[Instr.mapUpdate,run_underlying hu,MapKept.run_getObj_map hb,WE,MapKept.run_findKey Ri this,MapKept.run_setObj_map _ hb,Result.andThen];rw[vB k y R8 hlk];simp[Vf,Str];simp only[Array.toList_push,Zbb,Zbe,List.map_nil];rw[List.nodup_append];refine⟨hnd,Zad,fun a ha b hb=>?_⟩;simp only[Zav]at hb;obtain⟨e,he,rfl⟩:=List.mem_map.1 ha;have:=hcl e he;omega;intro e he;simp only[Array.toList_push,Zax,Zav]at he;rcases he with he | rfl;have:=hcl e he;omega;simp
   | some x0=>
     obtain⟨j,j1,j2,⟨e,j3,j4⟩,j5⟩:=f2 x0 hlk;rw[Zaw]at j1;refine⟨en.modify j fun e=>{ e with key:=.string (Str k),val:=y },cl,?_,?_,?_,?_⟩;rw[show (⟨k.toArray⟩:ByteArray)=Str k from rfl]at j1;have XG:((en[j]?).map (·.key)).getD (.string (Str k))=.string (Str k):=by
      have:en[j]? =some e:=by rw[<- Array.getElem?_toList];exact j3
      rw[this];exact j4
     simp[Instr.mapUpdate,run_underlying hu,MapKept.run_getObj_map hb,WE,MapKept.run_findKey Ri j1,XG,Instr.keyThatStays,AG,MapKept.run_setObj_map _ hb,Result.andThen];rw[Array.toList_modify];exact j5 y;rw[Array.toList_modify];have:(en.toList.modify j fun e=>{ e with key:=.string (Str k),val:=y }).map (·.born)=en.toList.map (·.born):=by
      apply List.ext_getElem?;intro i;simp only[List.getElem?_map,List.getElem?_modify];cases en.toList[i]? with
      | none=>rfl
      | some e=>simp only[Option.map_eq_map,Option.map_some];split <;> rfl
     rw[this];exact hnd;intro e he;rw[Array.toList_modify]at he;obtain⟨i,hi⟩:=List.mem_iff_getElem?.1 he;rw[List.getElem?_modify]at hi;obtain⟨e',h1,h2⟩:=Option.map_eq_some_iff.1 hi;have:=hcl e' (Za7 h1);rw[<- h2];split <;> simpa using this
  obtain⟨T9,Vj,C9,q1,q2,q3⟩:=hw;have hgs:g'<w.heap.size:=(hs.free (.slot t0) g' (by rw[hF];simp)).2;have Qu:(execOp a.eval ⟨none,.mapUpdate T m kx x,ty,pos,after,E9⟩).run P w=.ok .skip { w with heap:=w.heap.setIfInBounds g' (.map T9 Vj) }:=by
   simp[execOp,hm,hk,hy,C9,Result.andThen]
  unfold Oper.wp;rw[Qu,Oper.upon_skip];have hne:∀ k,k≠g'->(w.heap.setIfInBounds g' (.map T9 Vj))[k]? =w.heap[k]? :=fun k hk=>by
   rw[Array.getElem?_setIfInBounds_ne (Ne.symm hk)]
  refine⟨_,Pb,Kb,F,hK,hs.mod (w':={ w with heap:=w.heap.setIfInBounds g' (.map T9 Vj) }) (t:=t0) (g:=g') (by rw[hF];simp) hne Zad ?_,fun _ h=>h,fun _ h=>h,fun _ h=>.inl h,⟨rfl,rfl,rfl,Zad,fun k hk=>hne k fun c=>(hs.free (.slot t0) g' (by rw[hF];simp)).1 (c ▸ hk),fun k c _ _ hk=>⟨c,by rw[hne k (by rintro rfl;rw[hb]at hk;cases hk)];exact hk,rfl⟩⟩⟩;exact(⟨hF,hc,hnP,T9,Vj,(by simp[hgs]:(w.heap.setIfInBounds g' (.map T9 Vj))[g']? =some (.map T9 Vj)),q1,q2,q3⟩:R { w with heap:=w.heap.setIfInBounds g' (.map T9 Vj) } Pb (.om (fN R8 k y) g') _ _);exact hp.elim;exact hp.elim;exact hp.elim
def mlC(t0:Nat):Cu P where
 X:=Unit
 pre N o A:=match o.op,o.dst with
  | .call ⟨.builtin .len,⟨[x]⟩,⟨[T]⟩⟩,some d=>match tD P T,Nat.blt d N with
    | some (.map _ _),true=>match A.ev x,A.get t0 with
      | .lit (.map (some g)),.om _ g'=>g'=g
      | _,_=>False
    | _,_=>False
  | _,_=>False
 post _ o A:=match o.dst,A.get t0 with
  | some d,.om es _=>A.put (some d) (.lit (.int .i64 es.length))
  | _,_=>A
 ok:=by
  rintro N ⟨dst,op,ty,pos,after,E9⟩ A K-hp hK;replace hK:=hK ();simp only at hp hK;split at hp;rename_i x T d;split at hp;rename_i kt et e1 e2;split at hp;rename_i g es g' e3 e4;subst hp;rw[e4]at hK;refine gF rfl (bP e2) hK fun Pb Kb a w F hs=>⟨.int .i64 es.length,?_,dJ rfl⟩;have hm:=cy hs e3;have h0:=hs.slot t0;rw[e4]at h0;have h0:R w Pb (.om es g') [a.tmps.getD t0 undef] (F (.slot t0)):=h0;obtain⟨hF,hc,hnP,en,cl,hb,Vf,hnd,hcl⟩:=h0;obtain⟨td,hu,hd⟩:=dq e1;have hu:P.underlying T=some (.map kt et):=by
   cases td <;> simp_all[dX]
  have hl:en.size=es.length:=by
   have:=Zbm List.length Vf;simpa using this
  have hr:((#[x]:Array Operand).map a.eval)= #[.map (some g')]:=by simp[hm]
  simp[execOp,resolve,Deferred.ofValue,invoke,builtin,Builtin.len_,hm,run_underlying hu,MapKept.run_getObj_map hb,Result.andThen,hl,goInt];exact hp.elim;exact hp.elim;exact hp.elim
def lkC(es:List (BL×Value))(k:BL)(v:V)(ok:Bool):Cu P where
 X:=Unit
 pre N o A:=match o.op,o.dst with
  | .lookup T x kx true,some d=>match tD P T,Nat.blt d N with
    | some (.map kt et),true=>match tD P kt,A.ev x with
      | some .str,.mp R8=>(R8=es)/\A.ev kx=sV k/\((ok=true/\∃ y,dc es k=some y/\v.val? =some y)\/(ok=false/\dc es k=none/\∃ y,v.val? =some y/\∀ w,(zeroValue et).run P w=.ok y w))
      | _,_=>False
    | _,_=>False
  | _,_=>False
 post _ o A:=match o.dst with
  | some d=>A.put (some d) (.tup [v,bV ok])
  | none=>A
 ok:=by
  rintro N ⟨dst,op,ty,pos,after,E9⟩ A K-hp hK;replace hK:=hK ();simp only at hp hK;split at hp;rename_i T x kx d;split at hp;rename_i kt et e1 e2;split at hp;rename_i R8 e3 e4;obtain⟨rfl,hk,hy⟩:=hp;obtain⟨td,hu,hd⟩:=dq e1;have hu:P.underlying T=some (.map kt et):=by
   cases td <;> simp_all[dX]
  obtain⟨Vq,Ri,T6⟩:=dq e3;have Ri:P.underlying kt=some .string:=by
   cases Vq <;> simp_all[dX]
  have PA:∃ y,v.val? =some y:=by
   rcases hy with ⟨_,y,_,h⟩ | ⟨_,_,y,h,_⟩ <;> exact⟨y,h⟩
  obtain⟨y,hv⟩:=PA;refine gF rfl (bP e2) hK fun Pb Kb a w F hs=>⟨.tuple #[y,.bool ok],?_,ue hv rfl⟩;have hk:=cy hs hk;obtain⟨_,hx⟩:=eE hs x;rw[e4]at hx;have hx:R w Pb (.mp R8) [a.eval x] _:=hx;obtain⟨_,g,hc,_,en,cl,hb,Vf,_,_⟩:=hx;simp only[List.cons.injEq,and_true]at hc;obtain⟨f1,f2⟩:=lS k R8 en.toList 0 Vf;have WE:∀ e,(Instr.checkKey e 10000 kt (.string (Str k))).run P w=.ok () w:=fun e=>oW Ri;rcases hy with ⟨rfl,y',h1,h2⟩ | ⟨rfl,h1,y',h2,YD⟩;rw[hv]at h2;obtain rfl:=Option.some.inj h2;obtain⟨j,j1,_⟩:=f2 _ h1;rw[show (⟨k.toArray⟩:ByteArray)=Str k from rfl]at j1;simp[execOp,hc,hk,Instr.lookup,run_underlying hu,MapKept.run_getObj_map hb,WE,MapKept.run_findKey Ri j1,Result.andThen];rw[hv]at h2;obtain rfl:=Option.some.inj h2;have j1:=f1 h1;rw[show (⟨k.toArray⟩:ByteArray)=Str k from rfl]at j1;simp[execOp,hc,hk,Instr.lookup,run_underlying hu,MapKept.run_getObj_map hb,WE,MapKept.run_findKey Ri j1,Result.andThen,YD];exact hp.elim;exact hp.elim;exact hp.elim
def mnC:Cu P where
 X:=Unit
 pre N o A:=match o.op,o.dst with
  | .call ⟨.builtin .len,⟨[x]⟩,⟨[T]⟩⟩,some d=>match tD P T,Nat.blt d N with
    | some (.map _ _),true=>match A.ev x with
      | .mp _=>True
      | _=>False
    | _,_=>False
  | _,_=>False
 post _ o A:=match o.op,o.dst with
  | .call ⟨.builtin .len,⟨[x]⟩,⟨[_]⟩⟩,some d=>match A.ev x with
    | .mp es=>A.put (some d) (.lit (.int .i64 es.length))
    | _=>A
  | _,_=>A
 ok:=by
  rintro N ⟨dst,op,ty,pos,after,E9⟩ A K-hp hK;replace hK:=hK ();simp only at hp hK;split at hp;rename_i x T d;split at hp;rename_i kt et e1 e2;split at hp;rename_i es e3;simp only[e3]at hK;refine gF rfl (bP e2) hK fun Pb Kb a w F hs=>⟨.int .i64 es.length,?_,dJ rfl⟩;obtain⟨_,hx⟩:=eE hs x;rw[e3]at hx;have hx:R w Pb (.mp es) [a.eval x] _:=hx;obtain⟨_,g,hm,_,en,cl,hb,Vf,_,_⟩:=hx;simp only[List.cons.injEq,and_true]at hm;obtain⟨td,hu,hd⟩:=dq e1;have hu:P.underlying T=some (.map kt et):=by
   cases td <;> simp_all[dX]
  have hl:en.size=es.length:=by
   have:=Zbm List.length Vf;simpa using this
  simp[execOp,resolve,Deferred.ofValue,invoke,builtin,Builtin.len_,hm,run_underlying hu,MapKept.run_getObj_map hb,Result.andThen,hl,goInt];exact hp.elim;exact hp.elim;exact hp.elim
end
theorem drop_cons{α:Type}{l:List α}{i:Nat}(h:i<l.length)(d:α):l.drop i=l.getD i d::l.drop (i+1):=by
 rw[List.drop_eq_getElem_cons h,Zam,Zat h];rfl
theorem ba{α:Type}{l:List α}{i:Nat}(h:i<l.length)(d:α):l.take (i+1)=l.take i++[l.getD i d]:=by
 rw[List.take_add_one,Zam,Zat h];rfl
theorem all_false{α:Type}{l:List α}{p:α->Bool}{i:Nat}{d:α}(h:i<l.length)(hp:p (l.getD i d)=false):l.all p=false:=by
 rw[List.all_eq_false];refine⟨l.getD i d,?_,by rw[hp];decide⟩;rw[Zam,Zat h];exact List.getElem_mem h
theorem all_true{α:Type}{l:List α}{p:α->Bool}{d:α}(hp:∀ j,j<l.length->p (l.getD j d)=true):l.all p=true:=by
 rw[Za2];intro x hx;obtain⟨j,hj,rfl⟩:=List.getElem_of_mem hx;have:=hp j hj
 rwa [Zam,Zat hj]at this
theorem bh{p:Nat->Prop}{i:Nat}(h:∀ j,j<i->p j)(hi:p i):∀ j,j<i+1->p j:=fun j hj=>by
 rcases Nat.lt_succ_iff_lt_or_eq.1 hj with h' | rfl;exact h j h';exact hi
def ab(c:UInt8):BL->BL×BL×Bool
 | []=>([],[],false)
 | x::r=>if x=c then ([],r,true) else (x::(ab c r).1,(ab c r).2.1,(ab c r).2.2)
def lL(b:UInt8):Bool:=decide (97<=b.toNat/\b.toNat<=122)
def eR(b:UInt8):Bool:=decide ((97<=b.toNat/\b.toNat<=122)\/(48<=b.toNat/\b.toNat<=57)\/b.toNat=46\/b.toNat=45)
def cZ(b:UInt8):Int:=if 48<=b.toNat/\b.toNat<=57 then b.toNat-48 else if 97<=b.toNat/\b.toNat<=102 then b.toNat-87 else if 65<=b.toNat/\b.toNat<=70 then b.toNat-55 else -1
def w5(n lo hi:Int):Bool:=decide (lo<=n/\n<=hi)
def gK(s:BL):Bool:=s.all lL
def db(s:BL):Bool:=gK s&&w5 s.length 1 5
def cC(s:BL):Bool:=gK s&&w5 s.length 1 8
def cO(s part:BL)(from_:Nat):Int:=
 if h:from_+part.length<=s.length then (if (s.drop from_).take part.length=part then (from_:Int) else cO s part (from_+1)) else -1
 termination_by s.length+1-from_
def kV(b:UInt8):Bool:=eR b||decide (b.toNat=47\/b.toNat=42\/b.toNat=63\/b.toNat=37\/(65<=b.toNat/\b.toNat<=70))
def oV(p:BL)(j:Nat):Bool:=kV (p.getD j 0)||(decide ((p.getD j 0).toNat=36)&&decide (j+1=p.length))
def aY(p:BL):Bool:=decide (1<=p.length/\p.length<=16/\(p.getD 0 0).toNat=47/\∀ j,j<p.length->oV p j=true)
def lR:BL:=[48,49,50,51,52,53,54,55,56,57,65,66,67,68,69,70]
def fL(b:UInt8):BL:=[37,lR.getD (b.toNat / 16) 0,lR.getD (b.toNat % 16) 0]
def fp(b:UInt8):BL:=if eR b then [b] else fL b
def dL(a b:UInt8):UInt8:=UInt8.ofNat (cZ a*16+cZ b).toNat
def dn:BL->Option BL
 | []=>some []
 | [c]=>if c.toNat=37 then none else some (fp c)
 | [c,d]=>if c.toNat=37\/d.toNat=37 then none else some (fp c++fp d)
 | c::a::b::r=>if c.toNat=37 then (if 0<=cZ a/\0<=cZ b then (dn r).map (fp (dL a b)++ ·) else none) else (dn (a::b::r)).map (fp c++ ·)
def cG(s:BL):BL×Bool:=if s.length<=60 then (match dn s with | some x=>(x,true) | none=>([],false)) else ([],false)
def fJ(s:BL):Bool:=(cG s).2&&((cG s).1==s)
theorem He{c:UInt8}{r:BL}(h: ¬ c.toNat=37):dn (c::r)=(dn r).map (fp c++ ·):=by
 match r with
 | []=>simp[dn,h]
 | [d]=>by_cases hd:d.toNat=37 <;> simp[dn,h,hd]
 | a::b::r=>simp[dn,h]
theorem pD{s:BL}{i:Nat}(hi:i<s.length)(h: ¬ (s.getD i 0).toNat=37):dn (s.drop i)=(dn (s.drop (i+1))).map (fp (s.getD i 0)++ ·):=by
 rw[drop_cons hi 0,He h]
theorem sv{s:BL}{i:Nat}(hi:i+2<s.length)(h:(s.getD i 0).toNat=37)(h1:0<=cZ (s.getD (i+1) 0))(h2:0<=cZ (s.getD (i+2) 0)):
 dn (s.drop i)=(dn (s.drop (i+3))).map (fp (dL (s.getD (i+1) 0) (s.getD (i+2) 0))++ ·):=by
 rw[drop_cons (by omega:i<s.length) 0,drop_cons (by omega:i+1<s.length) 0,drop_cons (by omega:i+1+1<s.length) 0];simp only[dn,h,if_true,h1,h2,and_self,Zbj]
theorem Bd{s:BL}{i:Nat}(hi:i<s.length)(h:(s.getD i 0).toNat=37)(h1:s.length<=i+2\/cZ (s.getD (i+1) 0)<0\/cZ (s.getD (i+2) 0)<0):dn (s.drop i)=none:=by
 rw[drop_cons hi 0];by_cases h2:i+2<s.length;rw[drop_cons (by omega:i+1<s.length) 0,drop_cons (by omega:i+1+1<s.length) 0];simp only[dn,h,if_true];rw[if_neg];rintro⟨k1,k2⟩;have e:i+1+1=i+2:=rfl;rw[e]at k2;omega;by_cases h3:i+1<s.length;rw[drop_cons h3 0,Za8 Zac];simp only[dn,h,true_or,if_true];rw[Za8 Zac];simp only[dn,h,if_true]
theorem gW(b:UInt8):cZ b<16:=by unfold cZ;repeat (split <;> try omega)
theorem jn(b:UInt8): -1<=cZ b:=by unfold cZ;repeat (split <;> try omega)
theorem vt{a b:UInt8}(h1:0<=cZ a)(h2:0<=cZ b):((dL a b).toNat:Int)=cZ a*16+cZ b:=by
 have:=gW a;have:=gW b;unfold dL;rw[UInt8.toNat_ofNat'];omega
theorem sE{α:Type}{l:List α}{k:Nat}(h:k<l.length)(d:α):(l.take (k+1)).drop k=[l.getD k d]:=by
 rw[ba h d,List.drop_append_of_le_length Zal,Za8 Zal];rfl
theorem fA(b:UInt8):(fp b).length<=3:=by unfold fp fL;split <;> simp
theorem wh:∀ (s:BL) {x:BL},dn s=some x->x.length<=3*s.length
 | [],x,h=>by simp[dn]at h;subst h;simp
 | [c],x,h=>by
   simp only[dn]at h;split at h;simp at h;simp only[Zan]at h;subst h;have:=fA c;simpa using this
 | [c,d],x,h=>by
   simp only[dn]at h;split at h;simp at h;simp only[Zan]at h;subst h;have:=fA c;have:=fA d;simp;omega
 | c::a::b::r,x,h=>by
   simp only[dn]at h;split at h;split at h;simp only[Option.map_eq_some_iff]at h;obtain⟨y,hy,rfl⟩:=h;have:=wh r hy;have:=fA (dL a b);simp;omega;simp at h;simp only[Option.map_eq_some_iff]at h;obtain⟨y,hy,rfl⟩:=h;have:=wh (a::b::r) hy;have:=fA c;simp at *;omega
theorem qZ(s:BL):(cG s).1.length<=180:=by
 unfold cG;split;split;rename_i x h;have:=wh s h;simp only;omega;simp;simp
def ag(c:UInt8):BL->List BL
 | []=>[[]]
 | x::r=>if x=c then []::ag c r else (x::(ag c r).headD [])::(ag c r).tail
theorem rQ(c:UInt8):∀ r,ag c r=(ab c r).1::(if (ab c r).2.2=true then ag c (ab c r).2.1 else [])
 | []=>rfl
 | x::r=>by
   have ih:=rQ c r;by_cases h:x=c;simp only[ag,ab,if_pos h,if_true];simp only[ag,ab,if_neg h];rw[ih];rfl
theorem Bv(c:UInt8):∀ r,(ab c r).2.2=true->(ab c r).2.1.length<r.length
 | [],h=>by simp[ab]at h
 | x::r,h=>by
   simp only[ab]at h ⊢;by_cases e:x=c;rw[if_pos e];simp;rw[if_neg e]at h ⊢;have:=Bv c r h;simp only[Zar];omega
theorem mh(c:UInt8):∀ r,(ab c r).1.length+(ab c r).2.1.length<=r.length
 | []=>by simp[ab]
 | x::r=>by
   simp only[ab];by_cases e:x=c;rw[if_pos e];simp;rw[if_neg e];have:=mh c r;simp only[Zar];omega
def dD(o:List BL)(p:BL):List BL:=if p=[]\/p=[46] then o else if p=[46,46] then o.dropLast else o++[p]
def cJ(ps:List BL):List BL:=ps.foldl dD []
theorem iM{ps:List BL}{i:Nat}(h:i<ps.length):cJ (ps.take (i+1))=dD (cJ (ps.take i)) (ps.getD i []):=by
 unfold cJ;rw[ba h [],List.foldl_append];rfl
structure x3 where
 l3:BL
 h9:List BL
 asks:Bool
 ask:BL
def dk:List BL->BL
 | []=>[]
 | [p]=>p
 | p::q::r=>p++[47]++dk (q::r)
theorem nR(p:BL):∀ (ps:List BL),dk (ps++[p])=if ps=[] then p else dk ps++[47]++p
 | []=>rfl
 | [q]=>by simp[dk]
 | q::r::t=>by
   have:=nR p (r::t);simp only[List.cons_append,dk]at this ⊢;rw[this,if_neg Zad,if_neg Zad];simp[List.append_assoc]
def bZ(a:x3):BL:=[47]++dk a.h9++(if a.asks=true then [63]++a.ask else [])
def dy(a:x3):BL:=[47,47]++a.l3++bZ a
def fW(p:BL):Bool:=fJ p&&!(p==[])&&!(p==[46])&&!(p==[46,46])
def aR(a:x3):Bool:=db a.l3&&decide (a.h9.length<=5)&&fJ a.ask&&(a.asks||a.ask==[])&&a.h9.all fW&&decide ((dy a).length<=60)
def dC(a:x3):Prop:=a.l3.length<=1048576/\a.ask.length<=1048576/\a.h9.length<=1048576/\∀ i,(a.h9.getD i []).length<=1048576
theorem uc{ps:List BL}(h:∀ i,(ps.getD i []).length<=1048576):∀ i,i<=ps.length->(dk (ps.take i)).length<=i*1048577
 | 0,_=>by simp[dk]
 | i+1,hi=>by
   have:=uc h i Zac;have h2:=h i;rw[ba (by omega:i<ps.length) [],nR];split;omega;simp only[Zap,Zar,Zau];omega
theorem zX{a:x3}(h:dC a):(bZ a).length<=2199023255552:=by
 obtain⟨h1,h2,h3,h4⟩:=h;have:=uc h4 a.h9.length (Zbc _);rw[List.take_length]at this;unfold bZ;split <;> simp <;> omega
theorem pv{s:BL}(h:fJ s=true):s.length<=60:=by
 unfold fJ cG at h;split at h;assumption;simp at h
def eG(b:UInt8):UInt8:=if 65<=b.toNat/\b.toNat<=90 then b+32 else b
def cf(s:BL):BL:=s.map eG
theorem zO{x:UInt8}(h:65<=x.toNat/\x.toNat<=90):(eG x).toNat=x.toNat+32:=by
 unfold eG;rw[if_pos h,UInt8.toNat_add];have:(32:UInt8).toNat=32:=rfl;omega
theorem tm{s l:BL}{i:Nat}(hi:i<s.length)(h:l=cf (s.take i)++s.drop i):l.getD i 0=s.getD i 0:=by
 have hl:(cf (s.take i)).length=i:=by simp[cf];omega
 rw[h,Zam,Za4 Zac,hl,Nat.sub_self,drop_cons hi 0];rfl
theorem xH{s l:BL}{i:Nat}(hi:i<s.length)(h:l=cf (s.take i)++s.drop i):l.set i (eG (s.getD i 0))=cf (s.take (i+1))++s.drop (i+1):=by
 have hl:(cf (s.take i)).length=i:=by simp[cf];omega
 rw[h,List.set_append_right _ _ Zac,hl,Nat.sub_self,drop_cons hi 0,ba hi 0];simp[cf]
theorem zH{s l:BL}{i:Nat}(hi:i<s.length)(h:l=cf (s.take i)++s.drop i):l.set i (eG (l.getD i 0))=cf (s.take (i+1))++s.drop (i+1):=by
 rw[tm hi h];exact xH hi h
theorem xB{s l:BL}{i:Nat}(hi:i<s.length)(h:l=cf (s.take i)++s.drop i)(hn: ¬ (65<=(l.getD i 0).toNat/\(l.getD i 0).toNat<=90)):l=cf (s.take (i+1))++s.drop (i+1):=by
 rw[<- xH hi h];rw[tm hi h]at hn;rw[show eG (s.getD i 0)=s.getD i 0 from if_neg hn,<- tm hi h];have hlt:i<l.length:=by rw[h];simp[cf];omega
 apply List.ext_getElem?;intro j;by_cases e:i=j;subst e;simp[hlt];rw[List.getElem?_set_ne e]
def oA(o:Option x3):x3:=o.getD ⟨[],[],false,[]⟩
def fq(x:BL):BL:=(cG x).1
def fR(x:BL):Bool:=(cG x).2
def cU(h:BL)(fr:List BL)(u7:BL):Option x3:=
 if ((ag 47 (ab 63 u7).1).all fR&&fR (ab 63 u7).2.1)=true then
  (if aR ⟨h,cJ (fr++(ag 47 (ab 63 u7).1).map fq),(ab 63 u7).2.2,fq (ab 63 u7).2.1⟩=true then some ⟨h,cJ (fr++(ag 47 (ab 63 u7).1).map fq),(ab 63 u7).2.2,fq (ab 63 u7).2.1⟩ else none) else none
theorem pT(c:UInt8):∀ s:BL,(ag c s).length<=s.length+1
 | []=>by simp[ag]
 | x::r=>by
   have:=pT c r;simp only[ag];split;simp;omega;simp;omega
theorem Hf(l:List BL)(n:Nat)(h:∀ p∈l,p.length<=n):(l.headD []).length<=n:=by
 cases l with
 | nil=>simp
 | cons a l=>exact h a Zad
theorem zu(c:UInt8):∀ (s:BL),∀ p∈ag c s,p.length<=s.length
 | [],p,hp=>by simp[ag]at hp;subst hp;simp
 | x::r,p,hp=>by
   have ih:=zu c r;simp only[ag]at hp;split at hp;simp only[List.mem_cons]at hp;rcases hp with rfl | hp;simp;have:=ih p hp;simp;omega;simp only[List.mem_cons]at hp;rcases hp with rfl | hp;have:=Hf _ _ ih;simp at this ⊢;omega;have:=ih p (List.mem_of_mem_tail hp);simp;omega
theorem iP{ps:List BL}{n:Nat}(h:∀ p∈ps,p.length<=n)(i:Nat):(ps.getD i []).length<=n:=by
 rw[Zam];cases e:ps[i]? with
 | none=>simp
 | some p=>exact h p (Za7 e)
theorem iE(c:UInt8)(s:BL)(i:Nat):((ag c s).getD i []).length<=s.length:=iP (zu c s) i
theorem xK(ps:List BL):∀ (o:List BL),(∀ p∈ps.foldl dD o,p∈o\/p∈ps)/\(ps.foldl dD o).length<=o.length+ps.length:=by
 induction ps with
 | nil=>intro o;exact⟨fun p h=>.inl h,Zad⟩
 | cons q ps ih=>
   intro o;obtain⟨h1,h2⟩:=ih (dD o q);have hs:(∀ p∈dD o q,p∈o\/p=q)/\(dD o q).length<=o.length+1:=by
    unfold dD;split;exact⟨fun p h=>.inl h,Zac⟩;split;exact⟨fun p h=>.inl (List.dropLast_subset _ h),Zal⟩;exact⟨fun p h=>Zbq,Zad⟩
   refine⟨fun p hp=>?_,by simp only[List.foldl_cons,Zar];omega⟩;rcases h1 p hp with h | h;rcases hs.1 p h with h | h;exact .inl h;exact .inr (by simp[h]);exact .inr (by simp[h])
theorem zL{ps:List BL}{p:BL}(h:p∈cJ ps):p∈ps:=by
 rcases (xK ps []).1 p h with h | h;simp at h;exact h
theorem zi(ps:List BL):(cJ ps).length<=ps.length:=by have:=(xK ps []).2;simp only[Zau,Zaw]at this;exact this
theorem NA{a:x3}{ls:List BL}{k:Bool}{q:BL}(ha:dC a)(hp:a.h9.length<=1000)(hl:ls.length<=2000):dC ⟨a.l3,cJ (a.h9++ls.map fq),k,fq q⟩:=by
 obtain⟨h1,h2,h3,h4⟩:=ha;refine⟨h1,?_,?_,fun i=>?_⟩;have:=qZ q;simp only[fq];omega;have:=zi (a.h9++ls.map fq);simp only[Zap,Zay]at this ⊢;omega;refine iP (n:=1048576) (fun p YY=>?_) i;rcases Zax.1 (zL YY) with h | h;obtain⟨j,hj,rfl⟩:=List.getElem_of_mem h;have:=h4 j
 rwa [Zam,Zat hj]at this
 obtain⟨y,_,rfl⟩:=List.mem_map.1 h;have:=qZ y;simp only[fq];omega
def kv(c:UInt8):Bool:=decide (¬ (c.toNat=47\/c.toNat=63))
theorem BK{s:BL}{p:UInt8->Bool}:∀ {i:Nat},i<=s.length->(∀ j,j<i->p (s.getD j 0)=true)->(i=s.length\/p (s.getD i 0)=false)->s.takeWhile p=s.take i/\s.dropWhile p=s.drop i:=by
 induction s with
 | nil=>intro i hi _ _;simp
 | cons x s ih=>
   intro i hi h1 h2;cases i with
   | zero=>
     rcases h2 with h2 | h2;simp at h2;have:p x=false:=Zb4
     simp[List.takeWhile_cons,List.dropWhile_cons,this]
   | succ i=>
     have hx:p x=true:=by simpa using h1 0 Zac
     obtain⟨k1,k2⟩:=ih (i:=i) Zbn (fun j hj=>by have:=h1 (j+1) Zac;simpa using this) (by
      rcases h2 with h2 | h2;left;simpa using h2;right;simpa using h2)
     simp[List.takeWhile_cons,List.dropWhile_cons,hx,k1,k2]
def ew(rest:BL):Option x3:=cU (cf (rest.takeWhile kv)) [] (rest.dropWhile kv)
def aT(raw:BL):Option x3:=
 if raw.length<=60/\2<=(ab 35 raw).1.length/\(ab 35 raw).1.take 2=[47,47] then ew ((ab 35 raw).1.drop 2) else none
def bJ(a:x3):BL:=if aR a=true then dy a else []
def ar(s:BL):Bool:=(aT s).isSome&&(bJ (oA (aT s))==s)
theorem Nl{h:BL}{fr:List BL}{u7:BL}{a:x3}(e:cU h fr u7=some a):aR a=true:=by
 unfold cU at e;split at e;split at e;rename_i hk;simp only[Zan]at e;subst e;exact hk;simp at e;simp at e
theorem LP{s:BL}{a:x3}(e:aT s=some a):aR a=true:=by
 unfold aT at e;split at e;exact Nl e;simp at e
theorem Ob{a:x3}(h:aR a=true):dC a:=by
 unfold aR db w5 at h;simp only[Zao,Zbk,Za2]at h;obtain⟨⟨⟨⟨⟨⟨_,h1⟩,h2⟩,h3⟩,_⟩,h4⟩,_⟩:=h;have:=pv h3;refine⟨Zac,Zac,Zac,fun i=>iP (n:=1048576) (fun p hp=>?_) i⟩;have:=h4 p hp;unfold fW at this;simp only[Zao]at this;have:=pv this.1.1.1;omega
theorem rh(s:BL):dC (oA (aT s)):=by
 cases e:aT s with
 | none=>exact⟨by simp[oA],by simp[oA],by simp[oA],by simp[oA]⟩
 | some a=>exact Ob (LP e)
def dt(p:BL):Bool:=decide ((p.getD (p.length-1) 0).toNat=36)
def aN(p:BL):BL:=if dt p=true then p.take (p.length-1) else p
def ju(e:Bool)(s:BL):Nat->List BL->Bool
 | at_,[]=>!e||decide (at_=s.length)
 | at_,p::r=>if (e&&r.isEmpty)=true then decide (at_+p.length<=s.length)&&(s.drop (s.length-p.length)==p)
   else if cO s p at_<0 then false else ju e s ((cO s p at_).toNat+p.length) r
def mJ(p s:BL):Bool:=
 ((ag 42 (aN p)).headD []).isPrefixOf s&&ju (dt p) s ((ag 42 (aN p)).headD []).length (ag 42 (aN p)).tail
theorem Bz(s p:BL)(f:Nat):cO s p f<0\/(f:Int)<=cO s p f/\cO s p f+p.length<=s.length:=by
 rw[cO];split;split;right;constructor <;> omega;rcases Bz s p (f+1) with h | ⟨h1,h2⟩;exact .inl h;exact .inr ⟨Zac,h2⟩;left;omega
 termination_by s.length+1-f
theorem GJ(c:UInt8)(s:BL):1<=(ag c s).length:=by
 rw[rQ];simp
theorem DP{p:BL}(h:1<=p.length):((((p.getD (Int.toNat ((p.length:Int)-1)) 0).toNat:Int))==36)=dt p:=by
 have:Int.toNat ((p.length:Int)-1)=p.length-1:=Zac;rw[this];unfold dt;rw[Za6];simp only[Zbl,Zbk];omega
theorem GY{p:BL}(h:dt p=true):(p.take (Int.toNat ((p.length:Int)-1))).drop (Int.toNat 0)=aN p:=by
 have:Int.toNat ((p.length:Int)-1)=p.length-1:=Zac;rw[this];unfold aN;rw[if_pos h];rfl
theorem HX{p:BL}(h:dt p=false):p=aN p:=by unfold aN;rw[if_neg (by rw[h];decide)]
theorem MT{s x:BL}(h:s.take x.length=x):x.isPrefixOf s=true:=by
 rw[List.isPrefixOf_iff_prefix];rw[<- h];exact List.take_prefix _ _
theorem Lh{s x:BL}(h: ¬ s.take x.length=x):x.isPrefixOf s=false:=by
 rw[Bool.eq_false_iff];intro h';rw[List.isPrefixOf_iff_prefix]at h';exact h (List.prefix_iff_eq_take.1 h').symm
theorem NR{e:Bool}{s p:BL}{q:Nat}{r:List BL}(h: ¬ (e=true/\r=[]))(hf:0<=cO s p q):ju e s q (p::r)=ju e s ((cO s p q).toNat+p.length) r:=by
 simp only[ju];rw[if_neg Zbq,if_neg Zac]
theorem NC{e:Bool}{s p:BL}{q:Nat}{r:List BL}(h: ¬ (e=true/\r=[]))(hf:cO s p q<0):ju e s q (p::r)=false:=by
 simp only[ju];rw[if_neg Zbq,if_pos hf]
theorem Iy{s p:BL}{q:Nat}:ju true s q [p]=(decide (q+p.length<=s.length)&&(s.drop (s.length-p.length)==p)):=by
 simp only[ju,List.isEmpty_nil,Bool.and_self,if_true]
structure s5 where
 A5:Bool
 path:BL
def dN(p s:BL):Bool:=aY p&&decide (s.length<=60)&&mJ p s
def dM(s:BL)(x:Int×Bool)(r:s5):Int×Bool:=
 if dN r.path s=false\/(r.path.length:Int)<x.1 then x else (r.path.length,r.A5||(decide ((r.path.length:Int)=x.1)&&x.2))
def bD(rs:List s5)(s:BL):Bool:=(rs.foldl (dM s) (-1,true)).2
theorem nZ{p:BL}(h:aY p=true):1<=p.length/\p.length<=16:=by
 unfold aY at h;simp only[Zbk]at h;exact⟨h.1,h.2.1⟩
theorem foldl_succ{α β:Type}{f:β->α->β}{b:β}{l:List α}{i:Nat}{d:α}(h:i<l.length):(l.take (i+1)).foldl f b=f ((l.take i).foldl f b) (l.getD i d):=by
 rw[ba h d,List.foldl_append];rfl
abbrev av(r:s5):V:=.agg [bV r.A5,sV r.path]
def iy(m n:Int)(c:UInt8):Int:=min (n*10+(c.toNat-48)) m
def eV(s:BL)(m:Int):Int:=if s.all (fun c=>decide (48<=c.toNat/\c.toNat<=57))=true then s.foldl (iy m) 0 else 0
structure l9 where
 na:List BL
 ru:List s5
 wa:Nat
abbrev cB(g:l9):V:=.agg [.sl false (g.na.map sV),.sl false (g.ru.map av),iV g.wa]
def lC:List BL:=[[47],[47,97],[47,98],[47,97,47],[47,42,98],[47,97,36],[47,99],[47,42,63],[47,97,47,98],[47,42,47,98,36],[47,36],[47,98,42,99],[47,110,111,116,105,99,101],[47,42]]
def bn:List BL:=[[97,98],[99,100],[101],[102,111,120]]
def r9(s:BL):Prop:= ∀ c,c∈s->c.toNat<128
def IK(s:BL):Bool:=s.all fun c=>decide (c.toNat<128)
theorem ct{s:BL}(h:IK s=true):r9 s:=fun c hc=>by
 have:=Za2.1 h c hc;simpa using this
theorem bH:r9 []:=fun c hc=>by simp at hc
theorem r9.app{a b:BL}(h1:r9 a)(h2:r9 b):r9 (a++b):=fun c hc=>(Zax.1 hc).elim (h1 c) (h2 c)
theorem eL{l:List BL}{x:BL}(h:l.all IK=true)(hx:x∈l):r9 x:=ct (Za2.1 h x hx)
theorem fe{l:List BL}(h:l.all IK=true)(i:Nat):r9 (l.getD i []):=by
 rw[Zam];cases e:l[i]? with
 | none=>exact bH
 | some x=>exact eL h (Za7 e)
structure J4 (g:l9):Prop where
 nl:g.na.length<=2
 nb:∀ x,x∈g.na->x.length<=5
 rl:g.ru.length<=4
 rb:∀ r,r∈g.ru->r.path∈lC
 w:g.wa<=6
 ac:∀ x,x∈g.na->r9 x
theorem cd{l:List BL}{n:Nat}(h:l.all (fun x=>Nat.ble x.length n)=true){x:BL}(hx:x∈l):x.length<=n:=Nat.le_of_ble_eq_true (Za2.1 h x hx)
theorem kb{α:Type}{P:α->Prop}{l:List α}{x:α}(h:∀ y,y∈l->P y)(hx:P x):∀ y,y∈l++[x]->P y:=fun y hy=>by
 rcases Zax.1 hy with q | q;exact h y q;rw[Zav.1 q];exact hx
abbrev zqR:s5:=⟨false,[]⟩
abbrev zqG:l9:=⟨[],[],0⟩
structure Pg where
 addr:BL
 text:BL
 lead:BL
 s3:Int
def s8:Pg:=⟨[],[],[],0⟩
def G6:List Pg->BL->Pg×Bool
 | [],_=>(s8,false)
 | p::r,a=>if p.addr=a then (p,true) else G6 r a
theorem FR{l:List BL}(h:l.length<=2)(hx:∀ x,x∈l->x.length<=6):(dk l).length<=13:=by
 match l,h with
 | [],_=>simp[dk]
 | [x],_=>have:=hx x Zad;simp[dk];omega
 | [x,y],_=>have:=hx x Zad;have:=hx y Zad;simp[dk];omega
theorem dH{l:List BL}{n:Nat}(h:l.all (fun x=>Nat.ble x.length n)=true)(i:Nat):(l.getD i []).length<=n:=by
 rw[Zam];cases e:l[i]? with
 | none=>simp
 | some x=>exact cd h (Za7 e)
theorem pR{a:x3}(h1:a.l3.length<=3)(h2:a.h9.length<=2)(h3:∀ x,x∈a.h9->x.length<=6)(h4:a.ask.length<=5):dC a/\(bJ a).length<=25:=by
 refine⟨⟨Zac,Zac,Zac,fun i=>?_⟩,?_⟩;rw[Zam];cases e:a.h9[i]? with
 | none=>simp
 | some x=>have:=h3 x (Za7 e);simp;omega
 have:=FR h2 h3;unfold bJ dy bZ;split;split <;> simp <;> omega;simp
def ft(n:Nat):BL:=if n<10 then [UInt8.ofNat (48+n)] else ft (n / 10)++[UInt8.ofNat (48+n % 10)]
 termination_by n
theorem BS(n:Nat)(h:n<=1000000):(ft n).length<=7:=by
 have:∀ k n,n<10 ^ (k+1)->(ft n).length<=k+1:=by
  intro k;induction k with
  | zero=>intro n hn;rw[ft,if_pos Zac];simp
  | succ k ih=>
    intro n hn;rw[ft];split;simp;have:=ih (n / 10) (by rw[Nat.pow_succ]at hn;omega);simp;omega
 exact this 6 n Zac
abbrev B8(p:Pg):V:=.agg [sV p.addr,sV p.text,sV p.lead,iV p.s3]
theorem uM{gs:List l9}(hg:∀ y,y∈gs->J4 y)(i:Nat):J4 (gs.getD i ⟨[],[],0⟩):=by
 rw[Zam];cases e:gs[i]? with
 | none=>exact⟨Zad,Zad,Zad,Zad,Zad,Zad⟩
 | some x=>exact hg x (Za7 e)
theorem ij{gs:List l9}(hg:∀ y,y∈gs->J4 y)(i k:Nat):((gs.getD i ⟨[],[],0⟩).na.getD k []).length<=5:=by
 rw[Zam (l:=l9.na _)];cases e:(gs.getD i ⟨[],[],0⟩).na[k]? with
 | none=>simp
 | some x=>exact(uM hg i).nb x (Za7 e)
theorem tZ{gs:List l9}(hg:∀ y,y∈gs->J4 y)(i k:Nat):r9 ((gs.getD i ⟨[],[],0⟩).na.getD k []):=by
 rw[Zam (l:=l9.na _)];cases e:(gs.getD i ⟨[],[],0⟩).na[k]? with
 | none=>exact bH
 | some x=>exact(uM hg i).ac x (Za7 e)
theorem tc{gs:List l9}(hg:∀ y,y∈gs->J4 y)(i k:Nat):r9 ((gs.getD i ⟨[],[],0⟩).ru.getD k ⟨false,[]⟩).path:=by
 rw[Zam (l:=l9.ru _)];cases e:(gs.getD i ⟨[],[],0⟩).ru[k]? with
 | none=>exact bH
 | some x=>exact eL rfl ((uM hg i).rb x (Za7 e))
theorem hZ{gs:List l9}(hg:∀ y,y∈gs->J4 y)(i k:Nat):((gs.getD i ⟨[],[],0⟩).ru.getD k ⟨false,[]⟩).path.length<=7:=by
 rw[Zam (l:=l9.ru _)];cases e:(gs.getD i ⟨[],[],0⟩).ru[k]? with
 | none=>simp
 | some x=>exact cd rfl ((uM hg i).rb x (Za7 e))
theorem tv:∀ {l:List BL},(∀ x,x∈l->r9 x)->r9 (dk l)
 | [],_=>bH
 | [p],h=>h p Zad
 | p::q::r,h=>((h p Zad).app (ct rfl)).app (tv fun x hx=>h x (by simp[hx]))
theorem Df{a:x3}(h1:r9 a.l3)(h2:∀ x,x∈a.h9->r9 x)(h3:r9 a.ask):r9 (bJ a):=by
 unfold bJ dy bZ;split;refine((ct rfl).app h1).app (((ct rfl).app (tv h2)).app ?_);split;exact(ct rfl).app h3;exact bH;exact bH
theorem pn(n:Nat):r9 (ft n):=by
 induction n using Nat.strongRecOn with
 | ind n ih=>
   rw[ft];split;intro c hc;rw[Zav.1 hc,UInt8.toNat_ofNat'];omega;refine(ih (n / 10) Zac).app ?_;intro c hc;rw[Zav.1 hc,UInt8.toNat_ofNat'];omega
structure o6 (y:Pg):Prop where
 a:y.addr.length<=30
 t:y.text.length<=300
 l:y.lead.length<=30
 f:0<=y.s3/\y.s3<=10
 aa:r9 y.addr
 la:r9 y.lead
 ta:r9 y.text
theorem Lc{w:List Pg}{a:BL}(h:(G6 w a).2=true):1<=w.length:=by
 cases w with
 | nil=>simp[G6]at h
 | cons p r=>simp
theorem rX{l:List Int}(h:l.all (fun x=>decide (0<=x/\x<=10))=true)(i:Nat):0<=l.getD i 0/\l.getD i 0<=10:=by
 rw[Zam];cases e:l[i]? with
 | none=>simp
 | some x=>simpa using Za2.1 h x (Za7 e)
theorem jd{w:List Pg}(h:∀ y,y∈w->o6 y)(i:Nat):o6 (w.getD i s8):=by
 rw[Zam];cases e:w[i]? with
 | none=>exact⟨by simp[s8],by simp[s8],by simp[s8],by simp[s8],bH,bH,bH⟩
 | some x=>exact h x (Za7 e)
theorem aQ{xs:List V}{j sz g0 o0 g o c:Nat}{v:V}{p:List Nat}{r:Nat×Nat×V}(h:xs[j]? =some v)(e:V.at g (o+j*sz) v p=some r):V.at g0 o0 (.own sz xs g o c) (j::p)=some r:=by simp only[V.at,h];exact e
theorem bG{xs ys:List V}{j sz g o c:Nat}{x v:V}{p:List Nat}(h:xs[j]? =some x)(e:xs.set j (V.set x p v)=ys):V.set (.own sz xs g o c) (j::p) v=.own sz ys g o c:=by simp only[V.set,h,e]
def fu(y:Pg):Bool:=ar y.addr&&decide (y.text.length<=300)&&w5 y.s3 0 9&&(y.lead==[]||(y.text==[]&&ar y.lead))
def aH(w:List Pg):Bool:=decide (∀ i,i<w.length->fu (w.getD i s8)=true/\∀ k,k<i->(w.getD k s8).addr≠(w.getD i s8).addr)&&decide (w.length<=12)
def aB(h:BL):BL:=[47,47]++h++[47,110,111,116,105,99,101]
def af(w:List Pg)(a:BL)(n:Int):Int×BL:=
 if (G6 w a).2=false then (0,[]) else if n<(G6 w a).1.s3 then (3,[]) else if (G6 w a).1.lead=[] then (1,(G6 w a).1.text) else (2,(G6 w a).1.lead)
theorem MI{y:Pg}(h:((ar y.addr=true/\(y.text.length:Int)<=300)/\w5 y.s3 0 9=true)/\(¬ y.lead=[]->y.text=[]/\ar y.lead=true)):fu y=true:=by
 unfold fu;obtain⟨⟨⟨h1,h2⟩,h3⟩,h4⟩:=h;rw[h1,h3,decide_eq_true Zac];by_cases hl:y.lead=[];simp[hl];obtain⟨h5,h6⟩:=h4 hl;simp[h5,h6]
theorem Mw{y:Pg}(h:((ar y.addr=false\/300<(y.text.length:Int))\/w5 y.s3 0 9=false)\/¬ y.lead=[]/\(¬ y.text=[]\/ar y.lead=false)):fu y=false:=by
 unfold fu;rcases h with ((h | h) | h) | ⟨h,h' | h'⟩;simp[h];rw[decide_eq_false Zac];simp;simp[h];simp[h,h'];simp[h,h']
theorem zM{w:List Pg}{i:Nat}(hi:i<w.length)(h: ¬ (fu (w.getD i s8)=true/\∀ k,k<i->(w.getD k s8).addr≠(w.getD i s8).addr)):aH w=false:=by
 unfold aH;rw[decide_eq_false (fun c=>h (c i hi))];rfl
theorem Fk{w:List Pg}(h:∀ i,i<w.length->fu (w.getD i s8)=true/\∀ k,k<i->(w.getD k s8).addr≠(w.getD i s8).addr):aH w=decide (w.length<=12):=by
 unfold aH;rw[decide_eq_true h];rfl
def dY(gs:List l9)(f:l9->l9):List l9:=match gs.getLast? with
 | none=>gs
 | some z=>gs.dropLast++[f z]
def ji(gs:List l9):Nat:=match gs.getLast? with
 | none=>0
 | some z=>z.ru.length
def dF(gs:List l9)(w r:BL)(b:Bool):List l9×Bool:=
 if w=[99,97,108,108,101,114]/\(r=[42]\/cC r=true) then
  if b=true\/gs=[] then (gs++[⟨[r],[],0⟩],false) else (dY gs fun z=>⟨z.na++[r],z.ru,z.wa⟩,false)
 else if gs=[] then (gs,b)
 else if (w=[108,101,116]\/w=[98,97,114])/\aY r=true/\ji gs<6 then (dY gs fun z=>⟨z.na,z.ru++[⟨w==[108,101,116],r⟩],z.wa⟩,true)
 else if w=[119,97,105,116] then (dY gs fun z=>⟨z.na,z.ru,(eV r 20).toNat⟩,true)
 else (gs,b)
theorem ez(l:List l9)(z:l9)(f:l9->l9):dY (l++[z]) f=l++[f z]:=by simp[dY]
theorem iI(l:List l9)(z:l9):ji (l++[z])=z.ru.length:=by simp[ji]
theorem jX{α:Type}{l:List α}(h:l≠[]):∃ x:List α×α,l=x.1++[x.2]:=⟨(l.dropLast,l.getLast h),(List.dropLast_concat_getLast h).symm⟩
theorem Cq{m:Int}(hm:0<=m){n:Int}(hn:0<=n){c:UInt8}(hc:48<=c.toNat):0<=iy m n c:=by
 unfold iy;omega
theorem CZ{s:BL}{m:Int}(hm:0<=m):0<=eV s m:=by
 unfold eV;split;rename_i h;rw[Za2]at h;have:∀ (l:BL) (n:Int),0<=n->(∀ c,c∈l->48<=c.toNat)->0<=l.foldl (iy m) n:=by
  intro l;induction l with
  | nil=>intro n hn _;exact hn
  | cons c l ih=>intro n hn hl;exact ih _ (Cq hm hn (hl c Zad)) fun d hd=>hl d (by simp[hd])
 exact this s 0 Zac fun c hc=>by have:=h c hc;simp at this;exact this.1
 exact Int.le_refl 0
abbrev aM(g:l9):V:=.agg [.ow 1 (g.na.map sV),.ow 2 (g.ru.map av),iV g.wa]
theorem aG{α:Type}{f:α->V}{l:List α}{v:V}:(l.map f++[v])[l.length]? =some v:=Zad
theorem bU{α:Type}{f:α->V}{l:List α}{v u:V}:(l.map f++[v]).set l.length u=l.map f++[u]:=Zad
theorem KX(g:l9):(aM g).er=cB g:=by
 simp only[aM,V.er,V.D9,aU (f:=sV) (fun _=>rfl),aU (f:=av) (fun _=>rfl)]
theorem vk:∀ (l:List l9),V.D9 (l.map aM)=l.map cB
 | []=>rfl
 | g::l=>by simp only[Zbe,V.D9,vk l];rw[KX]
def dK(x:List l9×Bool)(l:BL):List l9×Bool:=dF x.1 (ab 32 l).1 (ab 32 l).2.1 x.2
def bR(t:BL):List l9:=(((ag 10 t).take 40).foldl dK ([],false)).1
structure Pc (n:Nat) (gs:List l9):Prop where
 len:gs.length<=n
 each:∀ y,y∈gs->y.na.length<=n/\y.ru.length<=6
theorem Pc.mono{n m:Nat}{gs:List l9}(h:Pc n gs)(hm:n<=m):Pc m gs:=⟨Nat.le_trans h.len hm,fun y hy=>⟨Nat.le_trans (h.each y hy).1 hm,(h.each y hy).2⟩⟩
theorem Pc.set{n:Nat}{gs:List l9}{f:l9->l9}(h:Pc n gs)(hf:∀ z,gs.getLast? =some z->(f z).na.length<=n+1/\(f z).ru.length<=6):Pc (n+1) (dY gs f):=by
 unfold dY;split;exact h.mono Zac;rename_i z hz;refine⟨?_,fun y hy=>?_⟩;have:=h.len;have hne:gs≠[]:=by rintro rfl;simp at hz
 have:=List.length_pos_iff.2 hne;simp;omega;rcases Zax.1 hy with hy | hy;have:=h.each y (List.dropLast_subset _ hy);exact⟨Zac,this.2⟩;rw[Zav.1 hy];exact hf z hz
theorem CR{n:Nat}{gs:List l9}{w d:BL}{b:Bool}(h:Pc n gs):Pc (n+1) (dF gs w d b).1:=by
 have hl:∀ z,gs.getLast? =some z->z.na.length<=n/\z.ru.length<=6:=fun z hz=>h.each z (List.mem_of_getLast? hz);unfold dF;split;split;refine⟨by have:=h.len;simp;omega,fun y hy=>?_⟩;rcases Zax.1 hy with hy | hy;have:=h.each y hy;exact⟨Zac,this.2⟩;rw[Zav.1 hy];simp;exact h.set fun z hz=>⟨by have:=hl z hz;simp;omega,(hl z hz).2⟩;split;exact h.mono Zac;split;rename_i hc;refine h.set fun z hz=>⟨Zb5,?_⟩;have:=hc.2.2;unfold ji at this;rw[hz]at this;simp only at this;simp only[Zap,Zar,Zau];omega;split;exact h.set fun z hz=>⟨Zb5,(hl z hz).2⟩;exact h.mono Zac
theorem vQ(c:UInt8):∀ (s:BL),(ab c s).1.length<=s.length/\(ab c s).2.1.length<=s.length
 | []=>by simp[ab]
 | x::s=>by
   have:=vQ c s;unfold ab;split <;> simp <;> omega
theorem BZ{α:Type}{l:List α}{i:Nat}(h1:i<=l.length)(h2:i<=40)(h:(i:Int)<l.length->(40:Int)<=i):l.take 40=l.take i:=by
 rcases Nat.lt_or_ge i l.length with hl | hl;have:=h Zac;rw[show i=40 from Zac];rw[Zaz Zac,Zaz Zac]
def du(n:BL)(x:(List s5×Nat)×Bool)(g:l9):(List s5×Nat)×Bool:=if g.na.any (fun y=>y==n)=true then ((x.1.1++g.ru,max x.1.2 g.wa),true) else x
def QJ(gs:List l9)(n:BL):l9×Bool:=(⟨[n],(gs.foldl (du n) (([],0),false)).1.1,(gs.foldl (du n) (([],0),false)).1.2⟩,(gs.foldl (du n) (([],0),false)).2)
theorem any_succ{α:Type}{f:α->Bool}{l:List α}{i:Nat}{d:α}(h:i<l.length):(l.take (i+1)).any f=((l.take i).any f||f (l.getD i d)):=by
 rw[ba h d,List.any_append];simp
def eC(gs:List l9)(n:BL):l9:=if (QJ gs n).2=true then (QJ gs n).1 else (QJ gs [42]).1
theorem zK:∀ (l:List BL) {k:Nat} {x:List l9×Bool},Pc k x.1->Pc (k+l.length) (l.foldl dK x).1
 | [],k,x,h=>h
 | a::l,k,x,h=>by
   have:=zK l (k:=k+1) (x:=dK x a) (CR h);exact this.mono Zal
theorem jL(t:BL):Pc 40 (bR t):=by
 have:=zK ((ag 10 t).take 40) (k:=0) (x:=([],false)) ⟨Zad,Zad⟩;exact this.mono Zal
theorem Pc.ru{n:Nat}{gs:List l9}(h:Pc n gs)(i:Nat):(gs.getD i ⟨[],[],0⟩).ru.length<=100/\(gs.getD i ⟨[],[],0⟩).na.length<=n:=by
 rw[Zam];cases e:gs[i]? with
 | none=>simp
 | some x=>have:=h.each x (Za7 e);exact⟨by simp only[Option.getD_some];omega,this.1⟩
def cq(k:Int)(t n:BL):l9:=if k=1 then eC (bR t) n else if k=3 then ⟨[n],[⟨false,[47]⟩],0⟩ else eC [] n
theorem uI:∀ (w:List Pg) (a:BL),(G6 w a).2=true->∃ i,(G6 w a).1=w.getD i s8
 | [],a,h=>by simp[G6]at h
 | p::r,a,h=>by
   unfold G6 at h ⊢;split;exact⟨0,rfl⟩;rename_i hp;rw[if_neg hp]at h;obtain⟨i,hi⟩:=uI r a h;exact⟨i+1,by rw[hi];simp⟩
theorem rZ{w:List Pg}{a:BL}{k:Int}{m:Nat}(h:∀ i,(w.getD i s8).text.length<=m/\(w.getD i s8).lead.length<=m):(af w a k).2.length<=m:=by
 unfold af;split;simp;rename_i h1;have h1:(G6 w a).2=true:=Zbz
 obtain⟨i,hi⟩:=uI w a h1;have:=h i;rw[hi];split;simp;split <;> simp only <;> omega
def pV(gs:List l9):Prop:= ∀ y,y∈gs->∀ r,r∈y.ru->r.path.length<=16
theorem pV.set{gs:List l9}{f:l9->l9}(h:pV gs)(hf:∀ z,gs.getLast? =some z->∀ r,r∈(f z).ru->r.path.length<=16):pV (dY gs f):=by
 unfold dY;split;exact h;rename_i z hz;intro y hy;rcases Zax.1 hy with hy | hy;exact h y (List.dropLast_subset _ hy);rw[Zav.1 hy];exact hf z hz
theorem LW{gs:List l9}{w d:BL}{b:Bool}(h:pV gs):pV (dF gs w d b).1:=by
 have hl:∀ z,gs.getLast? =some z->∀ r,r∈z.ru->r.path.length<=16:=fun z hz=>h z (List.mem_of_getLast? hz);unfold dF;split;split;intro y hy;rcases Zax.1 hy with hy | hy;exact h y hy;rw[Zav.1 hy];simp;exact h.set fun z hz=>hl z hz;split;exact h;split;rename_i hc;refine h.set fun z hz r hr=>?_;rcases Zax.1 hr with hr | hr;exact hl z hz r hr;rw[Zav.1 hr];exact(nZ hc.2.1).2;split;exact h.set fun z hz=>hl z hz;exact h
theorem GN(t:BL):pV (bR t):=by
 have:∀ (l:List BL) (x:List l9×Bool),pV x.1->pV (l.foldl dK x).1:=by
  intro l;induction l with
  | nil=>exact fun x h=>h
  | cons a l ih=>exact fun x h=>ih _ (LW h)
 exact this _ _ (by intro y hy;simp at hy)
structure X1 (m:Nat) (x:(List s5×Nat)×Bool):Prop where
 l:x.1.1.length<=6*m
 r:∀ r,r∈x.1.1->r.path.length<=16
theorem Kw(n:BL):∀ (gs:List l9) {m k:Nat} {x:(List s5×Nat)×Bool},X1 m x->Pc k gs->pV gs->X1 (m+gs.length) (gs.foldl (du n) x)
 | [],m,k,x,h,_,_=>h
 | g::gs,m,k,x,h,h1,h2=>by
   have hs:X1 (m+1) (du n x g):=by
    unfold du;split;refine⟨?_,fun r hr=>?_⟩;have:=h.l;have:=(h1.each g Zad).2;simp only[Zap];omega;rcases Zax.1 hr with hr | hr;exact h.r r hr;exact h2 g Zad r hr;exact⟨by have:=h.l;omega,h.r⟩
   have:=Kw n gs (k:=k) hs ⟨by have:=h1.len;simp at this;omega,fun y hy=>h1.each y (by simp[hy])⟩ (fun y hy=>h2 y (by simp[hy]));rw[List.foldl_cons,Zar,show m+(gs.length+1)=m+1+gs.length from Zac];exact this
theorem Dr{gs:List l9}(n:BL)(h1:Pc 40 gs)(h2:pV gs):(eC gs n).ru.length<=240/\∀ r,r∈(eC gs n).ru->r.path.length<=16:=by
 have key:∀ q,(QJ gs q).1.ru.length<=240/\∀ r,r∈(QJ gs q).1.ru->r.path.length<=16:=fun q=>by
  have:=Kw q gs (m:=0) (x:=(([],0),false)) ⟨Zad,Zad⟩ h1 h2;exact⟨by have h3:=this.l;have:=h1.len;unfold QJ;simp only;omega,this.r⟩
 unfold eC;split;exact key n;exact key [42]
theorem mq(k:Int)(t n:BL):(cq k t n).ru.length<=240/\∀ r,r∈(cq k t n).ru->r.path.length<=16:=by
 unfold cq;split;exact Dr n (jL t) (GN t);split;exact⟨Zad,Zad⟩;exact Dr n ⟨Zad,Zad⟩ (fun y hy=>by simp at hy)
def fM(s p:BL):Bool:=decide (p.length<=s.length)&&(s.take p.length==p)
def iD(s p:BL):Bool:=decide (p.length<=s.length)&&(s.drop (s.length-p.length)==p)
def dm(s p:BL):BL:=if iD s p=true then s.take (s.length-p.length) else s
theorem xP{s p:BL}(h:iD s p=true):p.length<=s.length:=by unfold iD at h;simp at h;exact h.1
theorem Nv{s p:BL}(h:fM s p=true):p.length<=s.length:=by unfold fM at h;simp at h;exact h.1
def eB(p:BL):Bool:=decide (1<=p.length/\p.length<=16/\(p.getD 0 0).toNat=47)&&(dm p [36]).all kV
end Go.Proofs.YtngholilfbdfkabGreatDoor
namespace Go.Proofs
open Go.Shelf
def Tryz.vg:Go.Shelf.Ren:=⟨fun | 156=>166 | 165=>196 | 166=>197 | 169=>198 | 240=>218 | 241=>219 | 276=>229 | 277=>230 | n=>n,fun | 31=>25 | 9=>9 | 3=>3 | 4=>4 | 0=>0 | 20=>20 | 72=>222 | 76=>223 | 70=>220 | 37=>22 | 75=>112 | 127=>244 | 164=>257 | 5=>5 | 80=>225 | n=>n,fun | n=>n⟩
theorem Tryz.Da:Go.Proofs.Lays.n156 Tryz.prog Tryz.vg:={
 mixed:=Zae
 f156:=Tryz.func166.trans (Zbm some Zae)
 f165:=Tryz.func196.trans (Zbm some Zae)
 f166:=Tryz.func197.trans (Zbm some Zae)
 f169:=Tryz.func198.trans (Zbm some Zae)
 f240:=Tryz.func218.trans (Zbm some Zae)
 f241:=Tryz.func219.trans (Zbm some Zae)
 f276:=Tryz.func229.trans (Zbm some Zae)
 f277:=Tryz.func230.trans (Zbm some Zae)
 t0:=Tryz.underlying0
 a0:=Tryz.isAgg0
 z0:=Tryz.sizeOf0
 v0:=Tryz.zeroValue0
 t3:=Tryz.underlying3
 a3:=Tryz.isAgg3
 z3:=Tryz.sizeOf3
 v3:=Tryz.zeroValue3
 t4:=Tryz.underlying4
 a4:=Tryz.isAgg4
 z4:=Tryz.sizeOf4
 v4:=Tryz.zeroValue4
 t9:=Tryz.underlying9
 a9:=Tryz.isAgg9
 z9:=Tryz.sizeOf9
 v9:=Tryz.zeroValue9
 t20:=Tryz.underlying20
 a20:=Tryz.isAgg20
 z20:=Tryz.sizeOf20
 v20:=Tryz.zeroValue20
 t31:=Tryz.underlying25
 a31:=Tryz.isAgg25
 z31:=Tryz.sizeOf25
 v31:=Tryz.zeroValue25
 t37:=Tryz.underlying22
 a37:=Tryz.isAgg22
 z37:=Tryz.sizeOf22
 v37:=Tryz.zeroValue22
 t70:=Tryz.underlying220
 a70:=Tryz.isAgg220
 z70:=Tryz.sizeOf220
 v70:=Tryz.zeroValue220
 t72:=Tryz.underlying222
 a72:=Tryz.isAgg222
 z72:=Tryz.sizeOf222
 v72:=Tryz.zeroValue222
 t75:=Tryz.underlying112
 a75:=Tryz.isAgg112
 z75:=Tryz.sizeOf112
 v75:=Tryz.zeroValue112
 t76:=Tryz.underlying223
 a76:=Tryz.isAgg223
 z76:=Tryz.sizeOf223
 v76:=Tryz.zeroValue223
 t127:=Tryz.underlying244
 a127:=Tryz.isAgg244
 z127:=Tryz.sizeOf244
 v127:=Tryz.zeroValue244
 t164:=Tryz.underlying257
 a164:=Tryz.isAgg257
 z164:=Tryz.sizeOf257
 v164:=Tryz.zeroValue257 }
theorem Tryz.nF:Builder.Extra Tryz.prog Tryz.vg:={
 sizeBuilder:=Zae
 liesBuilder:=Zae
 t5:=Tryz.underlying5
 a5:=Tryz.isAgg5
 z5:=Tryz.sizeOf5
 v5:=Tryz.zeroValue5
 infoByte:=Zae
 cellsByte:=Zae
 sizeByte:=Zae
 neB5:=by decide }
open Go.RowKit in
theorem Tryz.strings_Join_none(a:Option Addr)(c:Nat)(sep:ByteArray)(w:World):
 Calls Tryz.prog 166 #[.slice a 0 c,.string sep] w fun e w'=>e=.returned (.string ⟨#[]⟩)/\w'=w:=Any.strings_Join_none Tryz.Da Tryz.nF a c sep w
open Go.RowKit in
theorem Tryz.strings_Join(bk o c:Nat)(xs:List ByteArray)(sep:ByteArray)(w:World)(hcells:∀ (j:Nat) x,xs[j]? =some x->w.cell? ⟨bk,o+j,none⟩=some (.string x))(hbk:bk<w.heap.size)(hN:xs.length<=140737488355328)(hcap:xs.length<=c)(hlen:(Lib.join (xs.map (·.data.toList)) sep.data.toList).length<=140737488355328):
 Calls Tryz.prog 166 #[.slice (some ⟨bk,o,none⟩) xs.length c,.string sep] w fun e w'=>e=.returned (.string ⟨(Lib.join (xs.map (·.data.toList)) sep.data.toList).toArray⟩)/\Below w.heap.size w w':=Any.strings_Join Tryz.Da Tryz.nF bk o c xs sep w hcells hbk hN hcap hlen
def Tryz.CA:Go.Shelf.Ren:=⟨fun | 219=>113 | 217=>157 | 225=>158 | 224=>159 | 267=>160 | 266=>190 | 314=>191 | n=>n,fun | 9=>9 | 3=>3 | 4=>4 | 5=>5 | 46=>196 | 146=>216 | 51=>215 | n=>n,fun | 1=>1 | n=>n⟩
theorem Tryz.LZ:Go.Proofs.Lays.n219 Tryz.prog Tryz.CA:={
 mixed:=Zae
 f217:=Tryz.func157.trans (Zbm some Zae)
 f219:=Tryz.func113.trans (Zbm some Zae)
 f224:=Tryz.func159.trans (Zbm some Zae)
 f225:=Tryz.func158.trans (Zbm some Zae)
 f266:=Tryz.func190.trans (Zbm some Zae)
 f267:=Tryz.func160.trans (Zbm some Zae)
 f314:=Tryz.func191.trans (Zbm some Zae)
 t3:=Tryz.underlying3
 a3:=Tryz.isAgg3
 z3:=Tryz.sizeOf3
 v3:=Tryz.zeroValue3
 t4:=Tryz.underlying4
 a4:=Tryz.isAgg4
 z4:=Tryz.sizeOf4
 v4:=Tryz.zeroValue4
 t5:=Tryz.underlying5
 a5:=Tryz.isAgg5
 z5:=Tryz.sizeOf5
 v5:=Tryz.zeroValue5
 t9:=Tryz.underlying9
 a9:=Tryz.isAgg9
 z9:=Tryz.sizeOf9
 v9:=Tryz.zeroValue9
 t46:=Tryz.underlying196
 a46:=Tryz.isAgg196
 z46:=Tryz.sizeOf196
 v46:=Tryz.zeroValue196
 t51:=Tryz.underlying215
 a51:=Tryz.isAgg215
 z51:=Tryz.sizeOf215
 v51:=Tryz.zeroValue215
 t146:=Tryz.underlying216
 a146:=Tryz.isAgg216
 z146:=Tryz.sizeOf216
 v146:=Tryz.zeroValue216
 g1:=by kernel_rfl }
open Go.RowKit Go.Lib in
theorem Tryz.stringslite_Index_one(s:ByteArray)(c:UInt8)(w:World):
 Calls Tryz.prog 113 #[.string s,.string ⟨#[c]⟩] w fun e w'=>e=.returned (.int .i64 (Lib.indexByte s.data.toList c))/\w'=w:=Any.stringslite_Index_one Tryz.LZ s c w
def Tryz.CC:Go.Shelf.Ren:=⟨fun | 143=>195 | 219=>113 | 217=>157 | 225=>158 | 224=>159 | 267=>160 | 266=>190 | 314=>191 | n=>n,fun | 9=>9 | 3=>3 | 4=>4 | 5=>5 | 46=>196 | 146=>216 | 51=>215 | n=>n,fun | 1=>1 | n=>n⟩
theorem Tryz.LS:Go.Proofs.Lays.n143 Tryz.prog Tryz.CC:={
 mixed:=Zae
 f143:=Tryz.func195.trans (Zbm some Zae)
 f217:=Tryz.func157.trans (Zbm some Zae)
 f219:=Tryz.func113.trans (Zbm some Zae)
 f224:=Tryz.func159.trans (Zbm some Zae)
 f225:=Tryz.func158.trans (Zbm some Zae)
 f266:=Tryz.func190.trans (Zbm some Zae)
 f267:=Tryz.func160.trans (Zbm some Zae)
 f314:=Tryz.func191.trans (Zbm some Zae)
 t3:=Tryz.underlying3
 a3:=Tryz.isAgg3
 z3:=Tryz.sizeOf3
 v3:=Tryz.zeroValue3
 t4:=Tryz.underlying4
 a4:=Tryz.isAgg4
 z4:=Tryz.sizeOf4
 v4:=Tryz.zeroValue4
 t5:=Tryz.underlying5
 a5:=Tryz.isAgg5
 z5:=Tryz.sizeOf5
 v5:=Tryz.zeroValue5
 t9:=Tryz.underlying9
 a9:=Tryz.isAgg9
 z9:=Tryz.sizeOf9
 v9:=Tryz.zeroValue9
 t46:=Tryz.underlying196
 a46:=Tryz.isAgg196
 z46:=Tryz.sizeOf196
 v46:=Tryz.zeroValue196
 t51:=Tryz.underlying215
 a51:=Tryz.isAgg215
 z51:=Tryz.sizeOf215
 v51:=Tryz.zeroValue215
 t146:=Tryz.underlying216
 a146:=Tryz.isAgg216
 z146:=Tryz.sizeOf216
 v146:=Tryz.zeroValue216
 g1:=by kernel_rfl }
open Go.RowKit Go.Lib in
theorem Tryz.strings_Index_one(s:ByteArray)(c:UInt8)(w:World):
 Calls Tryz.prog 195 #[.string s,.string ⟨#[c]⟩] w fun e w'=>e=.returned (.int .i64 (Lib.indexByte s.data.toList c))/\w'=w:=Any.strings_Index_one Tryz.LS s c w
def Tryz.Ct:Go.Shelf.Ren:=⟨fun | 138=>194 | 195=>215 | 218=>217 | 143=>195 | 219=>113 | 217=>157 | 225=>158 | 224=>159 | 267=>160 | 266=>190 | 314=>191 | n=>n,fun | 9=>9 | 3=>3 | 4=>4 | 5=>5 | 0=>0 | 46=>196 | 146=>216 | 51=>215 | n=>n,fun | 1=>1 | n=>n⟩
theorem Tryz.LB:Go.Proofs.Lays.n138 Tryz.prog Tryz.Ct:={
 mixed:=Zae
 f138:=Tryz.func194.trans (Zbm some Zae)
 f143:=Tryz.func195.trans (Zbm some Zae)
 f195:=Tryz.func215.trans (Zbm some Zae)
 f217:=Tryz.func157.trans (Zbm some Zae)
 f218:=Tryz.func217.trans (Zbm some Zae)
 f219:=Tryz.func113.trans (Zbm some Zae)
 f224:=Tryz.func159.trans (Zbm some Zae)
 f225:=Tryz.func158.trans (Zbm some Zae)
 f266:=Tryz.func190.trans (Zbm some Zae)
 f267:=Tryz.func160.trans (Zbm some Zae)
 f314:=Tryz.func191.trans (Zbm some Zae)
 t0:=Tryz.underlying0
 a0:=Tryz.isAgg0
 z0:=Tryz.sizeOf0
 v0:=Tryz.zeroValue0
 t3:=Tryz.underlying3
 a3:=Tryz.isAgg3
 z3:=Tryz.sizeOf3
 v3:=Tryz.zeroValue3
 t4:=Tryz.underlying4
 a4:=Tryz.isAgg4
 z4:=Tryz.sizeOf4
 v4:=Tryz.zeroValue4
 t5:=Tryz.underlying5
 a5:=Tryz.isAgg5
 z5:=Tryz.sizeOf5
 v5:=Tryz.zeroValue5
 t9:=Tryz.underlying9
 a9:=Tryz.isAgg9
 z9:=Tryz.sizeOf9
 v9:=Tryz.zeroValue9
 t46:=Tryz.underlying196
 a46:=Tryz.isAgg196
 z46:=Tryz.sizeOf196
 v46:=Tryz.zeroValue196
 t51:=Tryz.underlying215
 a51:=Tryz.isAgg215
 z51:=Tryz.sizeOf215
 v51:=Tryz.zeroValue215
 t146:=Tryz.underlying216
 a146:=Tryz.isAgg216
 z146:=Tryz.sizeOf216
 v146:=Tryz.zeroValue216
 g1:=by kernel_rfl }
open Go.RowKit Go.Lib in
theorem Tryz.strings_Count_one(s:ByteArray)(c:UInt8)(w:World):
 Calls Tryz.prog 194 #[.string s,.string ⟨#[c]⟩] w fun e w'=>e=.returned (.int .i64 (Lib.countByte s.data.toList c))/\w'=w:=Any.strings_Count_one Tryz.LB s c w
def Tryz.gp:Go.Shelf.Ren:=⟨fun | 221=>165 | 268=>193 | 138=>194 | 143=>195 | 195=>215 | 197=>216 | 218=>217 | 219=>113 | 260=>228 | 217=>157 | 225=>158 | 224=>159 | 267=>160 | 266=>190 | 314=>191 | n=>n,fun | 9=>9 | 3=>3 | 31=>25 | 4=>4 | 0=>0 | 105=>242 | 21=>21 | 5=>5 | 46=>196 | 119=>261 | 139=>264 | 138=>263 | 146=>216 | 51=>215 | n=>n,fun | 1=>1 | 3=>2 | 4=>3 | n=>n⟩
theorem Tryz.KV:Go.Proofs.Lays.n221 Tryz.prog Tryz.gp:={
 mixed:=Zae
 f138:=Tryz.func194.trans (Zbm some Zae)
 f143:=Tryz.func195.trans (Zbm some Zae)
 f195:=Tryz.func215.trans (Zbm some Zae)
 f197:=Tryz.func216.trans (Zbm some Zae)
 f217:=Tryz.func157.trans (Zbm some Zae)
 f218:=Tryz.func217.trans (Zbm some Zae)
 f219:=Tryz.func113.trans (Zbm some Zae)
 f221:=Tryz.func165.trans (Zbm some Zae)
 f224:=Tryz.func159.trans (Zbm some Zae)
 f225:=Tryz.func158.trans (Zbm some Zae)
 f260:=Tryz.func228.trans (Zbm some Zae)
 f266:=Tryz.func190.trans (Zbm some Zae)
 f267:=Tryz.func160.trans (Zbm some Zae)
 f268:=Tryz.func193.trans (Zbm some Zae)
 f314:=Tryz.func191.trans (Zbm some Zae)
 t0:=Tryz.underlying0
 a0:=Tryz.isAgg0
 z0:=Tryz.sizeOf0
 v0:=Tryz.zeroValue0
 t3:=Tryz.underlying3
 a3:=Tryz.isAgg3
 z3:=Tryz.sizeOf3
 v3:=Tryz.zeroValue3
 t4:=Tryz.underlying4
 a4:=Tryz.isAgg4
 z4:=Tryz.sizeOf4
 v4:=Tryz.zeroValue4
 t5:=Tryz.underlying5
 a5:=Tryz.isAgg5
 z5:=Tryz.sizeOf5
 v5:=Tryz.zeroValue5
 t9:=Tryz.underlying9
 a9:=Tryz.isAgg9
 z9:=Tryz.sizeOf9
 v9:=Tryz.zeroValue9
 t21:=Tryz.underlying21
 a21:=Tryz.isAgg21
 z21:=Tryz.sizeOf21
 v21:=Tryz.zeroValue21
 t31:=Tryz.underlying25
 a31:=Tryz.isAgg25
 z31:=Tryz.sizeOf25
 v31:=Tryz.zeroValue25
 t46:=Tryz.underlying196
 a46:=Tryz.isAgg196
 z46:=Tryz.sizeOf196
 v46:=Tryz.zeroValue196
 t51:=Tryz.underlying215
 a51:=Tryz.isAgg215
 z51:=Tryz.sizeOf215
 v51:=Tryz.zeroValue215
 t105:=Tryz.underlying242
 a105:=Tryz.isAgg242
 z105:=Tryz.sizeOf242
 v105:=Tryz.zeroValue242
 t119:=Tryz.underlying261
 a119:=Tryz.isAgg261
 z119:=Tryz.sizeOf261
 t138:=Tryz.underlying263
 a138:=Tryz.isAgg263
 z138:=Tryz.sizeOf263
 v138:=Tryz.zeroValue263
 t139:=Tryz.underlying264
 a139:=Tryz.isAgg264
 z139:=Tryz.sizeOf264
 v139:=Tryz.zeroValue264
 t146:=Tryz.underlying216
 a146:=Tryz.isAgg216
 z146:=Tryz.sizeOf216
 v146:=Tryz.zeroValue216
 g1:=Zae
 g3:=Zae
 g4:=by kernel_rfl }
def Tryz.Cp:Go.Shelf.Ren:=⟨fun | 153=>77 | 152=>115 | 226=>116 | 227=>117 | 228=>118 | 137=>161 | 119=>162 | 224=>159 | 225=>158 | 217=>157 | 266=>190 | n=>n,fun | 9=>9 | 3=>3 | 4=>4 | 5=>5 | 21=>21 | 117=>159 | 116=>158 | 0=>0 | 46=>196 | 124=>198 | n=>n,fun | n=>n⟩
theorem Tryz.Lq:Go.Proofs.Lays.n153 Tryz.prog Tryz.Cp:={
 mixed:=Zae
 f119:=Tryz.func162.trans (Zbm some Zae)
 f137:=Tryz.func161.trans (Zbm some Zae)
 f152:=Tryz.func115.trans (Zbm some Zae)
 f153:=Tryz.func77.trans (Zbm some Zae)
 f217:=Tryz.func157.trans (Zbm some Zae)
 f224:=Tryz.func159.trans (Zbm some Zae)
 f225:=Tryz.func158.trans (Zbm some Zae)
 f226:=Tryz.func116.trans (Zbm some Zae)
 f227:=Tryz.func117.trans (Zbm some Zae)
 f228:=Tryz.func118.trans (Zbm some Zae)
 f266:=Tryz.func190.trans (Zbm some Zae)
 t0:=Tryz.underlying0
 a0:=Tryz.isAgg0
 z0:=Tryz.sizeOf0
 v0:=Tryz.zeroValue0
 t3:=Tryz.underlying3
 a3:=Tryz.isAgg3
 z3:=Tryz.sizeOf3
 v3:=Tryz.zeroValue3
 t4:=Tryz.underlying4
 a4:=Tryz.isAgg4
 z4:=Tryz.sizeOf4
 v4:=Tryz.zeroValue4
 t5:=Tryz.underlying5
 a5:=Tryz.isAgg5
 z5:=Tryz.sizeOf5
 v5:=Tryz.zeroValue5
 t9:=Tryz.underlying9
 a9:=Tryz.isAgg9
 z9:=Tryz.sizeOf9
 v9:=Tryz.zeroValue9
 t21:=Tryz.underlying21
 a21:=Tryz.isAgg21
 z21:=Tryz.sizeOf21
 v21:=Tryz.zeroValue21
 t46:=Tryz.underlying196
 a46:=Tryz.isAgg196
 z46:=Tryz.sizeOf196
 v46:=Tryz.zeroValue196
 t116:=Tryz.underlying158
 a116:=Tryz.isAgg158
 z116:=Tryz.sizeOf158
 t117:=Tryz.underlying159
 a117:=Tryz.isAgg159
 z117:=Tryz.sizeOf159
 v117:=Tryz.zeroValue159
 t124:=Tryz.underlying198
 a124:=Tryz.isAgg198
 z124:=Tryz.sizeOf198
 v124:=Tryz.zeroValue198 }
open Go.RowKit Go.Lib in
theorem Tryz.strings_IndexAny_laid(s chars:ByteArray)(w:World)(hs:s.size<4294967281)(hcs:chars.size<4294967281)(has:∀ (j:Nat) b,s.data.toList[j]? =some b->b.toNat<128)(hac:∀ (j:Nat) b,chars.data.toList[j]? =some b->b.toNat<128):
 Calls Tryz.prog 77 #[.string s,.string chars] w fun e w'=>e=.returned (.int .i64 (Lib.indexAny s.data.toList chars.data.toList))/\Below w.heap.size w w':=Any.strings_IndexAny_laid Tryz.Lq Zae s chars w hs hcs has hac
def Tryz.Cy:Go.Shelf.Ren:=⟨fun | 110=>52 | 109=>86 | n=>n,fun | 31=>25 | 9=>9 | 4=>4 | 3=>3 | 0=>0 | n=>n,fun | n=>n⟩
theorem Tryz.Dn:Go.Proofs.Lays.n110 Tryz.prog Tryz.Cy:={
 mixed:=Zae
 f109:=Tryz.func86.trans (Zbm some Zae)
 f110:=Tryz.func52.trans (Zbm some Zae)
 t0:=Tryz.underlying0
 a0:=Tryz.isAgg0
 z0:=Tryz.sizeOf0
 v0:=Tryz.zeroValue0
 t3:=Tryz.underlying3
 a3:=Tryz.isAgg3
 z3:=Tryz.sizeOf3
 v3:=Tryz.zeroValue3
 t4:=Tryz.underlying4
 a4:=Tryz.isAgg4
 z4:=Tryz.sizeOf4
 v4:=Tryz.zeroValue4
 t9:=Tryz.underlying9
 a9:=Tryz.isAgg9
 z9:=Tryz.sizeOf9
 v9:=Tryz.zeroValue9
 t31:=Tryz.underlying25
 a31:=Tryz.isAgg25
 z31:=Tryz.sizeOf25
 v31:=Tryz.zeroValue25 }
open Go.Lib in
theorem Tryz.slices_Contains_string(b off n c:Nat)(zs:List ByteArray)(x:ByteArray)(w:World)(hz:n<=zs.length)(hbig:n<=9223372036854775807)(hc:∀ j,j<zs.length->w.cell? ⟨b,off+j,none⟩=some (.string (zs.getD j ByteArray.empty))):
 Calls Tryz.prog 52 #[.slice (some ⟨b,off,none⟩) n c,.string x] w fun e w'=>e=.returned (.bool (Lib.containsS (zs.take n) x))/\w'=w:=Any.slices_Contains_string Tryz.Dn b off n c zs x w hz hbig hc
open Go.Lib in
theorem Tryz.slices_Contains_string_empty(a:Option Addr)(c:Nat)(x:ByteArray)(w:World):
 Calls Tryz.prog 52 #[.slice a 0 c,.string x] w fun e w'=>e=.returned (.bool false)/\w'=w:=Any.slices_Contains_string_empty Tryz.Dn a c x w
def Tryz.Aa:Go.Shelf.Ren:=⟨fun | 16=>85 | n=>n,fun | 24=>25 | 9=>9 | 4=>4 | n=>n,fun | n=>n⟩
theorem Tryz.tj:Go.Proofs.Lays2.n16 Tryz.prog Tryz.Aa:={
 mixed:=Zae
 f16:=Tryz.func85.trans (Zbm some Zae)
 t4:=Tryz.underlying4
 a4:=Tryz.isAgg4
 z4:=Tryz.sizeOf4
 v4:=Tryz.zeroValue4
 t9:=Tryz.underlying9
 a9:=Tryz.isAgg9
 z9:=Tryz.sizeOf9
 v9:=Tryz.zeroValue9
 t24:=Tryz.underlying25
 a24:=Tryz.isAgg25
 z24:=Tryz.sizeOf25
 v24:=Tryz.zeroValue25
 i9:=by kernel_rfl }
open Go.RowKit Go.Lib in
theorem Tryz.slices_Clone_string(b off n c:Nat)(zs:List ByteArray)(w:World)(hz:n<=zs.length)(hbig:n*16<=140737488355328)(hc:∀ j,j<zs.length->w.cell? ⟨b,off+j,none⟩=some (.string (zs.getD j ByteArray.empty))):
 Calls Tryz.prog 85 #[.slice (some ⟨b,off,none⟩) n c] w fun e w'=> ∃ v',e=.returned v'/\w'.ownsRow w.heap.size 9 1 v' n ((zs.take n).map (Value.string))/\v'≠.slice none 0 0/\Below w.heap.size w w':=Any.slices_Clone_string Tryz.tj b off n c zs w hz hbig hc
open Go.RowKit Go.Lib in
theorem Tryz.slices_Clone_string_nil(n c:Nat)(w:World):
 Calls Tryz.prog 85 #[.slice none n c] w fun e w'=>e=.returned (.slice none 0 0)/\w'=w:=Any.slices_Clone_string_nil Tryz.tj n c w
open Go.RowKit Go.Lib in
theorem Tryz.slices_Clone_string_zero(a:Addr)(c:Nat)(w:World):
 Calls Tryz.prog 85 #[.slice (some a) 0 c] w fun e w'=> ∃ v',e=.returned v'/\w'.ownsRow w.heap.size 9 1 v' 0 []/\v'≠.slice none 0 0/\Below w.heap.size w w':=Any.slices_Clone_string_zero Tryz.tj a c w
end Go.Proofs
namespace Go.Proofs.YtngholilfbdfkabGreatDoor
open Go Go.RowKit
set_option maxRecDepth 20000
section
variable {P:Program}
theorem iL{f:FuncId}{args:List V}{Q:V->Prop}(ho:V.aF args=false)(hp:args.all (fun v=>match v with | .c9=>false | .gv _ _=>false | .tup _=>false | _=>true)=true)(h:PC P f args Q):PF P f args [] (fun r h=>Q r/\h=[]):=by
 refine⟨h.1,fun w Pb Kb cargs F hi=>?_⟩;have hF0:∀ i v x,args[i]? =some v->cargs[i]? =some x->F (.slot i)=[]:=fun i v x hv hx=>by
  have hr:=hi.slot i v x hv hx;have hm:=Za7 hv;exact yo (w:=w) (Pb:=Pb) (by
   have:∀ (l:List V),V.aF l=false->∀ v∈l,v.dE=false:=by
    intro l;induction l with
    | nil=>intro _ v hv;simp at hv
    | cons a r ih=>
      intro h v hv;simp only[V.aF,Bool.or_eq_false_iff]at h;rcases List.mem_cons.1 hv with rfl | hv;exact h.1;exact ih h.2 v hv
   exact this _ ho v hm) hr
 have hrv:∀ (l:List V) (c:List Value),l.length=c.length->(∀ (i:Nat) v x,l[i]? =some v->c[i]? =some x->RV w Pb v x []/\v∈args)->RVs w Pb l c []:=by
  intro l;induction l with
  | nil=>intro c hl _;cases c with | nil=>exact⟨rfl,rfl⟩ | cons _ _=>simp at hl
  | cons v r ih=>
    intro c hl hx;cases c with
    | nil=>simp at hl
    | cons x c=>
      obtain⟨h0,hm⟩:=hx 0 v x rfl rfl;have hv:=Za2.1 hp v hm;refine⟨x,c,[],[],rfl,rfl,?_,ih c (by simpa using hl) fun i v' x' h1 h2=>hx (i+1) v' x' Zbz Zb4⟩;cases v <;> first | exact h0 | simp at hv
 have hR:RVs w Pb args cargs []:=hrv args cargs hi.len.symm fun i v x hv hx=>by
  have:=hi.slot i v x hv hx;rw[hF0 i v x hv hx]at this;exact⟨this,Za7 hv⟩
 refine(h.2 w Pb cargs (fun g hg=>hi.bound g (hi.sub g hg)) hR).mono ?_;rintro e w' ⟨r,x,Fr,Pb',rfl,hq,hrv,hnd,hfr,hP1,hP2,hB⟩;refine⟨r,x,[],Pb',fun g=>Kb g\/Pb' g,(fun r=>match r with | .slot i=>if i=0 then Fr else [] | .key _=>[]),rfl,⟨hq,rfl⟩,?_⟩;have hold:∀ g,Kb g->g<w.heap.size:=hi.bound;refine⟨by simpa using hrv,fun k g v hk=>by simp[lk]at hk,fun r r' hne g hg=>?_,fun r=>?_,fun r g hg=>?_,fun g h=>.inr h,fun g h=>?_,hP1,fun _ h=>.inl h,fun g hg=>?_,⟨hB.os,hB.tape,hB.output,hB.size,fun g hg=>hB.block g (hold g hg),Shp.of_eq hB.block⟩⟩;cases r with
 | slot i=>
   simp only at hg;split at hg;rename_i hi0;cases r' with
   | slot j=>simp only;rw[if_neg (fun c=>hne (by rw[hi0,c]))];simp
   | key k=>simp
   simp at hg
 | key k=>simp at hg
 cases r <;> simp only;split;exact hnd;exact Zba;exact Zba;cases r with
 | slot i=>
   simp only at hg;split at hg;obtain⟨h1,h2,h3⟩:=hfr g hg;exact⟨fun c=>c.elim (fun c=>by have:=hold g c;omega) h3,h2⟩;simp at hg
 | key k=>simp at hg
 rcases h with h | h;have:=hold g h;have:=hB.size;omega;rcases hP2 g h with h | h;have:=hold g (hi.sub g h);have:=hB.size;omega;exact h.2;rcases hP2 g hg with h | h;exact .inl h;exact .inr fun c=>by have:=hold g c;omega
def RVm(w:World)(Pb:Nat->Prop)(v:V)(x:Value):Prop:=match v with | .agg us=> ∃ cs,x=.agg cs/\RL w Pb us cs.toList [] | .c9=>([]:List Nat)=[] | v=>R w Pb v [x] []
theorem AP{w:World}{Pb:Nat->Prop}{v:V}{vs:List V}{xs:List Value}(h:RVs w Pb (v::vs) xs []):∃ x r,xs=x::r/\RVm w Pb v x/\RVs w Pb vs r []:=by
 obtain⟨x,r,F1,F2,e,hF,h1,h2⟩:=h;have hF:=List.append_eq_nil_iff.1 hF.symm;obtain⟨rfl,rfl⟩:=hF;exact⟨x,r,e,h1,h2⟩
theorem iC{w:World}{Pb:Nat->Prop}{y:Value}{vs:List V}{xs:List Value}(h:RVs w Pb (.lit y::vs) xs []):∃ r,xs=y::r/\RVs w Pb vs r []:=by
 obtain⟨x,r,e,h1,h2⟩:=AP h;obtain⟨_,e1,_⟩:=h1;simp only[List.cons.injEq,and_true]at e1;exact⟨r,by rw[e,e1],h2⟩
theorem mM{w:World}{Pb:Nat->Prop}{xs:List Value}(h:RVs w Pb [] xs []):xs=[]:=h.1
theorem BQ{w:World}{Pb:Nat->Prop}{f:Bool}{l:List BL}{vs:List V}{xs:List Value}(h:RVs w Pb (.sl f (l.map sV)::vs) xs []):∃ A c r,xs=.slice A l.length c::r/\RVs w Pb vs r []/\l.length<=c/\
 (l=[]\/∃ b o,A=some ⟨b,o,none⟩/\Pb b/\∀ j x,(l.map Str)[j]? =some x->w.cell? ⟨b,o+j,none⟩=some (.string x)):=by
 obtain⟨x,r,e,h1,h2⟩:=AP h;obtain⟨_,A,c,e1,hle,_,hx⟩:=h1;simp only[List.cons.injEq,and_true,Zay]at e1 hle;refine⟨A,c,r,by rw[e,e1],h2,hle,?_⟩;rcases hx with hx | ⟨b,o,sz,flat,hA,hb,hs,hn,hr,hc⟩;left;simpa using hx;right;refine⟨b,o,hA,hb,fun j x hj=>hc j _ ?_⟩;have hfl:∀ (l:List BL) {flat:List Value} {F},RL w Pb (l.map sV) flat F->flat=l.map fun t=>.string (Str t):=by
  intro l;induction l with
  | nil=>intro flat F h;exact h.1
  | cons t r ih=>
    intro flat F h;obtain⟨c1,c2,F1,F2,e1,_,h1,h2⟩:=h;rw[e1,ih h2,h1.2.1];rfl
 rw[hfl l hr];rw[List.getElem?_map]at hj ⊢;cases hl:l[j]? with
 | none=>rw[hl]at hj;simp at hj
 | some t=>rw[hl]at hj;simp at hj;simp[hj]
theorem xh{f:FuncId}{args:List V}{res:V}{y:Value}(he:pe P f)(hv:res.val? =some y)(h:∀ (w:World) (Pb:Nat->Prop) cargs,(∀ g,Pb g->g<w.heap.size)->RVs w Pb args cargs []->Calls P f cargs.toArray w fun e w'=>e=.returned y/\Below w.heap.size w w'):PC P f args (fun r=>r=res):=by
 refine⟨he,fun w Pb cargs hP hargs=>(h w Pb cargs hP hargs).mono ?_⟩;rintro e w' ⟨rfl,hB⟩;exact⟨res,y,[],Pb,rfl,rfl,xS hv,Zba,Zad,fun _ h=>h,fun _ h=>.inl h,hB⟩
end
def dQ(c:UInt8):BL->List BL
 | []=>[[]]
 | b::l=>if b=c then []::dQ c l else match dQ c l with
   | []=>[[b]]
   | p::r=>(b::p)::r
theorem GA(c:UInt8):∀ l,dQ c l≠[]
 | []=>by simp[dQ]
 | b::l=>by
   unfold dQ;split;simp;split <;> simp
theorem qa(c:UInt8):∀ l,Lib.indexByte l c= -1->dQ c l=[l]
 | [],_=>rfl
 | b::l,h=>by
   unfold Lib.indexByte at h;split at h;simp at h;rename_i hb;have hb:b≠c:=Zby
   split at h;rename_i h1;have:=qa c l Zbz;unfold dQ;rw[if_neg hb,this];have:=Lib.indexByte_ge l c;omega
theorem sf(c:UInt8):∀ l (i:Nat),Lib.indexByte l c=i->dQ c l=l.take i::dQ c (l.drop (i+1))/\i<l.length/\l.count c=(l.drop (i+1)).count c+1
 | [],i,h=>by unfold Lib.indexByte at h;omega
 | b::l,i,h=>by
   unfold Lib.indexByte at h;split at h;rename_i hb;have hb:b=c:=Zby
   have:i=0:=Zac;subst this hb;simp[dQ];rename_i hb;have hb:b≠c:=Zby
   split at h;omega;rename_i h1;have:=Lib.indexByte_ge l c;have h1:Lib.indexByte l c≠ -1:=Zbz
   obtain⟨j,rfl⟩:∃ j,i=j+1:=⟨i-1,Zac⟩;obtain⟨k1,k2,k3⟩:=sf c l j Zac;refine⟨?_,Zal,by simp[List.count_cons,hb,k3]⟩;conv=>lhs;unfold dQ
   rw[if_neg hb,k1];simp
theorem AE(c:UInt8):∀ (k:Nat) (s:BL),s.count c=k->Lib.splitK [c] 0 k s=dQ c s
 | 0,s,h=>by
   have:Lib.indexByte s c= -1:=by
    by_cases hc:Lib.indexByte s c= -1;exact hc;have h1:=Lib.indexByte_ge s c;obtain⟨i,hi⟩:∃ i:Nat,Lib.indexByte s c=i:=⟨(Lib.indexByte s c).toNat,Zac⟩;have:=(sf c s i hi).2.2;omega
   rw[qa c s this];rfl
 | k+1,s,h=>by
   by_cases hc:Lib.indexByte s c= -1;rw[qa c s hc];unfold Lib.splitK;rw[Lib.index_one,hc];rfl;have h1:=Lib.indexByte_ge s c;obtain⟨i,hi⟩:∃ i:Nat,Lib.indexByte s c=i:=⟨(Lib.indexByte s c).toNat,Zac⟩;obtain⟨k1,k2,k3⟩:=sf c s i hi;rw[k1];unfold Lib.splitK;rw[Lib.index_one,hi];have: ¬ ((i:Int)== -1)=true:=Zad;rw[if_neg this];simp only[Int.toNat_natCast,Nat.add_zero,Zbf];rw[AE c k _ Zac]
theorem zA(c:UInt8):∀ s,Lib.indexByte s c= -1->ab c s=(s,[],false)
 | [],_=>rfl
 | b::l,h=>by
   unfold Lib.indexByte at h;split at h;simp at h;rename_i hb;have hb:b≠c:=Zby
   split at h;rename_i h1;have:=zA c l Zbz;simp only[ab,if_neg hb,this];have:=Lib.indexByte_ge l c;omega
theorem wj(c:UInt8):∀ s (i:Nat),Lib.indexByte s c=i->ab c s=(s.take i,s.drop (i+1),true)/\i<s.length
 | [],i,h=>by unfold Lib.indexByte at h;omega
 | b::l,i,h=>by
   unfold Lib.indexByte at h;split at h;rename_i hb;have hb:b=c:=Zby
   have:i=0:=Zac;subst this;simp[ab,hb];rename_i hb;have hb:b≠c:=Zby
   split at h;omega;rename_i h1;have:=Lib.indexByte_ge l c;have h1:Lib.indexByte l c≠ -1:=Zbz
   obtain⟨j,rfl⟩:∃ j,i=j+1:=⟨i-1,Zac⟩;obtain⟨k1,k2⟩:=wj c l j Zac;refine⟨?_,Zal⟩;simp only[ab,if_neg hb,k1];rfl
theorem Mh(s:BL)(c:UInt8)(h:0<=Lib.indexByte s c):Lib.indexByte s c<s.length:=by
 obtain⟨i,hi⟩:∃ i:Nat,Lib.indexByte s c=i:=⟨(Lib.indexByte s c).toNat,Zac⟩;have:=(wj c s i hi).2;omega
theorem Lz{s:BL}{c:UInt8}(h:Lib.indexByte s c<0):ab c s=(s,[],false):=zA c s (by have:=Lib.indexByte_ge s c;omega)
theorem Jp{s:BL}{c:UInt8}(h:0<=Lib.indexByte s c):ab c s=(s.take (Lib.indexByte s c).toNat,s.drop ((Lib.indexByte s c).toNat+1),true):=(wj c s _ Zac).1
theorem Av(c:UInt8):∀ s,dQ c s=ag c s
 | []=>rfl
 | b::l=>by
   have ih:=Av c l;unfold dQ ag;split;rw[ih];rw[ih];cases h:ag c l with
   | nil=>exact absurd (ih.trans h) (GA c l)
   | cons p r=>rfl
theorem wI:∀ (l:List BL),Lib.join l [47]=dk l
 | []=>rfl
 | [p]=>Lib.join_one p _
 | p::q::r=>by
   have:=wI (q::r);rw[Lib.join_cons]at this ⊢;simp only[Lib.joinTail,Zbe,List.flatten_cons]at this ⊢;rw[show dk (p::q::r)=p++[47]++dk (q::r) from rfl,<- this];simp
theorem Mf(s:BL): -1<=Lib.indexAny s [47,63]:=Lib.indexAny_ge _ s
theorem vW:∀ (s:BL),(Lib.indexAny s [47,63]<0->s.takeWhile kv=s/\s.dropWhile kv=[])/\(0<=Lib.indexAny s [47,63]->s.takeWhile kv=s.take (Lib.indexAny s [47,63]).toNat/\s.dropWhile kv=s.drop (Lib.indexAny s [47,63]).toNat/\(Lib.indexAny s [47,63]).toNat<s.length)
 | []=>by simp[Lib.indexAny]
 | b::l=>by
   obtain⟨i1,i2⟩:=vW l;have hg:=Mf l;have hn:kv b=!([47,63]:BL).contains b:=by
    unfold kv;have:(b.toNat=47↔b=47)/\(b.toNat=63↔b=63):=⟨by rw[<- UInt8.toNat_inj];rfl,by rw[<- UInt8.toNat_inj];rfl⟩;rw[Za6];simp[this]
   unfold Lib.indexAny;cases hc:([47,63]:BL).contains b with
   | true=>
     rw[hc]at hn;simp[List.takeWhile_cons,List.dropWhile_cons,hn]
   | false=>
     rw[hc]at hn;simp only[Bool.false_eq_true,if_false];by_cases h1:Lib.indexAny l [47,63]= -1;obtain⟨k1,k2⟩:=i1 Zac;rw[h1];simp[List.takeWhile_cons,List.dropWhile_cons,hn,k1,k2];obtain⟨k1,k2,k3⟩:=i2 Zac;rw[if_neg Zbz];refine⟨fun h=>by omega,fun _=>?_⟩;rw[show (Lib.indexAny l [47,63]+1).toNat=(Lib.indexAny l [47,63]).toNat+1 from Zac];simp[List.takeWhile_cons,List.dropWhile_cons,hn,k1,k2,k3]
def jA(s:BL)(i:Nat):Bool:=decide (i+2<s.length)&&(decide (0<=cZ (s.getD (i+1) 0))&&decide (0<=cZ (s.getD (i+2) 0)))
def dU(s:BL)(i:Nat):UInt8:=if jA s i=true then dL (s.getD (i+1) 0) (s.getD (i+2) 0) else 0
theorem iO{s:BL}{i:Nat}:jA s i=true↔i+2<s.length/\0<=cZ (s.getD (i+1) 0)/\0<=cZ (s.getD (i+2) 0):=by
 unfold jA;simp
theorem tH{s:BL}{i:Nat}(h:jA s i=true):dU s i=dL (s.getD (i+1) 0) (s.getD (i+2) 0):=if_pos h
theorem Ba{s:BL}{i:Nat}(h:jA s i=false):dU s i=0:=if_neg (by rw[h];decide)
theorem gY(l:BL):(Str l).data.toList=l:=rfl
theorem LN(s:BL)(c:UInt8):PC Tryz.prog 113 [sV s,sV [c]] (fun r=>r=iV (Lib.indexByte s c)):=by
 refine xh (eU Tryz.func113 Zae Zae) rfl fun w Pb cargs hP hargs=>?_;obtain⟨r,rfl,h1⟩:=iC hargs;obtain⟨r,rfl,h2⟩:=iC h1;obtain rfl:=mM h2;refine(Tryz.stringslite_Index_one (Str s) c w).mono ?_;rintro e w' ⟨rfl,rfl⟩;exact⟨by rw[gY],Below.refl _ _⟩
theorem Lw(s:BL)(c:UInt8):PF Tryz.prog 113 [sV s,sV [c]] [] (fun r h=>r=iV (Lib.indexByte s c)/\h=[]):=iL rfl rfl (LN s c)
theorem NU(s:BL)(hs:s.length<=1000000)(ha:∀ c,c∈s->c.toNat<128):PF Tryz.prog 77 [sV s,sV [47,63]] [] (fun r h=>r=iV (Lib.indexAny s [47,63])/\h=[]):=by
 refine iL rfl rfl (xh (eU Tryz.func77 Zae Zae) rfl fun w Pb cargs hP hargs=>?_);obtain⟨r,rfl,h1⟩:=iC hargs;obtain⟨r,rfl,h2⟩:=iC h1;obtain rfl:=mM h2;refine(Tryz.strings_IndexAny_laid (Str s) (Str [47,63]) w (by rw[iJ];omega) (by rw[iJ];decide) (fun j b hb=>?_) (fun j b hb=>?_)).mono ?_;rw[gY]at hb;exact ha b (Za7 hb);rw[gY]at hb;have:=Za7 hb;simp at this;rcases this with rfl | rfl <;> decide;rintro e w' ⟨rfl,hB⟩;exact⟨by rw[gY,gY],hB⟩
theorem GC(l:List BL):(l.map Str).map (·.data.toList)=l:=by
 rw[List.map_map];conv=>rhs;rw[<- List.map_id l]
 apply List.map_congr_left;intro x _;exact gY x
theorem LV(f:Bool)(l:List BL)(sep:BL)(hl:l.length<=1000000)(hj:(Lib.join l sep).length<=1000000):PF Tryz.prog 166 [.sl f (l.map sV),sV sep] [] (fun r h=>r=sV (Lib.join l sep)/\h=[]):=by
 refine iL rfl rfl (xh (eU Tryz.func166 Zae Zae) rfl fun w Pb cargs hP hargs=>?_);obtain⟨A,c,r,rfl,h1,hle,hc⟩:=BQ hargs;obtain⟨r,rfl,h2⟩:=iC h1;obtain rfl:=mM h2;rcases hc with rfl | ⟨b,o,rfl,hb,hc⟩;refine(Tryz.strings_Join_none A c (Str sep) w).mono ?_;rintro e w' ⟨rfl,rfl⟩;exact⟨rfl,Below.refl _ _⟩;have:=Tryz.strings_Join b o c (l.map Str) (Str sep) w hc (hP b hb) Zal (by simpa using hle) (by rw[GC,gY];omega);rw[Zay]at this;refine this.mono ?_;rintro e w' ⟨rfl,hB⟩;exact⟨by rw[GC,gY];rfl,hB⟩
theorem MN(f:Bool)(l:List BL)(x:BL)(hl:l.length<=1000000):PF Tryz.prog 52 [.sl f (l.map sV),sV x] [] (fun r h=>r=bV (l.contains x)/\h=[]):=by
 refine iL rfl rfl (xh (eU Tryz.func52 Zae Zae) rfl fun w Pb cargs hP hargs=>?_);obtain⟨A,c,r,rfl,h1,hle,hc⟩:=BQ hargs;obtain⟨r,rfl,h2⟩:=iC h1;obtain rfl:=mM h2;rcases hc with rfl | ⟨b,o,rfl,hb,hc⟩;refine(Tryz.slices_Contains_string_empty A c (Str x) w).mono ?_;rintro e w' ⟨rfl,rfl⟩;exact⟨rfl,Below.refl _ _⟩;refine(Tryz.slices_Contains_string b o l.length c (l.map Str) (Str x) w Zad Zac (fun j hj=>?_)).mono ?_;apply hc;rw[Zam,Zat hj];rfl;rintro e w' ⟨rfl,rfl⟩;refine⟨?_,Below.refl _ _⟩;congr 2;rw[Za6,Lib.containsS_iff,List.contains_iff_mem,Zaz Zad,List.mem_map];exact⟨fun⟨y,h1,h2⟩=>by
  have:y=x:=by rw[<- gY y,h2,gY]
  rw[<- this];exact h1,fun h=>⟨x,h,rfl⟩⟩
theorem Js(s:BL)(c:UInt8)(hs:s.length<=1000000):PC Tryz.prog 165 [sV s,sV [c],iV 0,iV (-1)] (fun r=>r=.sl true ((dQ c s).map sV)):=by
 refine⟨eU Tryz.func165 Zae Zae,fun w Pb cargs hP hargs=>?_⟩;obtain⟨r,rfl,h1⟩:=iC hargs;obtain⟨r,rfl,h2⟩:=iC h1;obtain⟨r,rfl,h3⟩:=iC h2;obtain⟨r,rfl,h4⟩:=iC h3;obtain rfl:=mM h4;have hcnt:Lib.countB (Str s) (Str [c])=s.count c:=by
  show Lib.count (Str s).data.toList (Str [c]).data.toList=_;rw[gY,gY,Lib.count_one]
 have hI:∀ (x:ByteArray) (cs:Array Value),x.size<=(Str s).size->Calls Tryz.prog (Tryz.gp.f 143) #[.string x,.string (Str [c])] (w.alloc (.cells cs (Tryz.gp.t 9))) fun e w'=>e=.returned (.int .i64 (Lib.indexB x (Str [c])))/\w'=w.alloc (.cells cs (Tryz.gp.t 9)):=fun x cs _=>
  (Tryz.strings_Index_one x c _).mono fun e w' h=>by
   rw[show Lib.indexB x (Str [c])=Lib.indexByte x.data.toList c from Lib.index_one _ _];exact h
 have hC:Calls Tryz.prog (Tryz.gp.f 138) #[.string (Str s),.string (Str [c])] w fun e w'=>e=.returned (.int .i64 (Lib.countB (Str s) (Str [c])))/\w'=w:=
  (Tryz.strings_Count_one (Str s) c w).mono fun e w' h=>by
   rw[hcnt];exact h
 have hcl:s.count c<=s.length:=List.count_le_length;have hg:=Any.strings_genSplit_core Tryz.KV Zae (Str s) (Str [c]) 0 (-1) (s.count c+1) w (by rw[iJ];omega) (by rw[iJ];simp) (Nat.zero_le _) hI hC Zaf Zaf (by rw[if_pos Zaf,hcnt,iJ];omega);have hlen:(Lib.splitB (Str [c]) 0 (s.count c) (Str s)).length=s.count c+1:=Lib.splitB_all _ (by rw[iJ];simp) 0 _ _ hcnt;have hdat:(Lib.splitB (Str [c]) 0 (s.count c) (Str s)).map (·.data.toList)=dQ c s:=by
  rw[Lib.splitB_data,gY,gY];exact AE c _ s rfl
 have hl2:(dQ c s).length=s.count c+1:=by rw[<- hdat,Zay,hlen]
 have hcells:Lib.cellsOf (Lib.splitB (Str [c]) 0 (s.count c) (Str s)) (s.count c+1)=((dQ c s).map fun t=>Value.string (Str t)).toArray:=by
  rw[<- hlen,Lib.cellsOf_full,<- hdat,List.map_map];congr 1
 refine hg.mono ?_;rintro e w' ⟨he,hw⟩;rw[Nat.add_sub_cancel,hlen]at he;rw[Nat.add_sub_cancel,hcells]at hw;subst hw;refine⟨_,_,[],fun g=>Pb g\/g=w.heap.size,he,rfl,?_,Zba,Zad,fun _ h=>.inl h,fun g h=>h.imp id fun h=>⟨Zac,Zbx⟩,⟨rfl,rfl,rfl,Zbx,fun k hk=>alloc_old w _ k hk⟩⟩;refine⟨rfl,_,_,by rw[Zay,hl2],by simp[hl2],fun _=>by simp[hl2],.inr ⟨_,_,1,(dQ c s).map fun t=>Value.string (Str t),rfl,.inr rfl,Nat.one_pos,fun v hv=>?_,?_,fun j u hu=>?_⟩⟩;obtain⟨t,_,rfl⟩:=List.mem_map.1 hv;rfl;have:∀ (l:List BL) (w:World) (Pb:Nat->Prop),RL w Pb (l.map sV) (l.map fun t=>Value.string (Str t)) []:=by
  intro l w Pb;induction l with
  | nil=>exact⟨rfl,rfl⟩
  | cons t r ih=>exact⟨[_],_,[],[],rfl,rfl,⟨rfl,rfl,rfl⟩,ih⟩
 exact this _ _ _;rw[Zaw];have:(w.alloc (.cells ((dQ c s).map fun t=>Value.string (Str t)).toArray (Tryz.gp.t 9))).heap[w.heap.size]? =some (.cells ((dQ c s).map fun t=>Value.string (Str t)).toArray (Tryz.gp.t 9) (0,0)):=ig w _;have hb:Blk (w.alloc (.cells ((dQ c s).map fun t=>Value.string (Str t)).toArray (Tryz.gp.t 9))) w.heap.size ((dQ c s).map fun t=>Value.string (Str t)).toArray:=⟨_,(0,0),this,fun i _ h=>by omega⟩;rw[eP hb,List.getElem?_toArray];exact hu
theorem JU(s:BL)(c:UInt8)(hs:s.length<=1000000):PF Tryz.prog 165 [sV s,sV [c],iV 0,iV (-1)] [] (fun r h=>r=.sl true ((dQ c s).map sV)/\h=[]):=iL rfl rfl (Js s c hs)
theorem Kq(w:World)(Pb:Nat->Prop):∀ (l:List BL),RL w Pb (l.map sV) (l.map fun t=>Value.string (Str t)) []
 | []=>⟨rfl,rfl⟩
 | _::r=>⟨[_],_,[],[],rfl,rfl,⟨rfl,rfl,rfl⟩,Kq w Pb r⟩
theorem xu{w w':World}{Pb:Nat->Prop}{v:Value}{l:List BL}(hP:∀ g,Pb g->g<w.heap.size)(h:w'.ownsRow w.heap.size 9 1 v l.length (l.map fun t=>Value.string (Str t))):
 ∃ F,RV w' Pb (.ow 1 (l.map sV)) v F/\F.Nodup/\∀ g,g∈F->w.heap.size<=g/\g<w'.heap.size/\¬ Pb g:=by
 obtain⟨_,h⟩:=h;rcases h with ⟨rfl,h0⟩ | ⟨g,cap,cur,rfl,hg,hb,hle,_,hsz,htk⟩;have:l=[]:=Za5 h0;subst this;exact⟨[],⟨0,0,0,.inl ⟨rfl,rfl,rfl,none,rfl⟩⟩,Zba,Zad⟩;have hnp: ¬ Pb g:=fun c=>by have:=hP g c;omega
 by_cases hc:cap=0;subst hc;have:l=[]:=Za5 Zac;subst this;exact⟨[],⟨0,0,0,.inl ⟨rfl,rfl,rfl,_,rfl⟩⟩,Zba,Zad⟩;have hgl:g<w'.heap.size:=by
  cases hh:w'.heap[g]? with
  | none=>rw[hh]at hb;cases hb
  | some o=>exact(Zbh.1 hh).1
 refine⟨[g],⟨g,0,cap,.inr ⟨Zac,Nat.one_pos,by simpa using hle,Zad,fun v hv=>?_,hnp,_,[],cur,rfl,Kq w' Pb l,⟨9,(0,0),hb,fun i _ h=>by omega⟩,Zac,fun j u hu=>?_⟩⟩,Zad,fun x hx=>?_⟩;obtain⟨t,_,rfl⟩:=List.mem_map.1 hv;rfl;rw[<- htk,List.getElem?_take]at hu;split at hu;rw[Zaw,<- Array.getElem?_toList];exact hu;simp at hu;obtain rfl:=Zav.1 hx;exact⟨hg,hgl,hnp⟩
theorem JJ(f:Bool)(l:List BL)(hl:l.length<=1000000):PC Tryz.prog 85 [.sl f (l.map sV)] (fun r=>r=.ow 1 (l.map sV)):=by
 refine⟨eU Tryz.func85 Zae Zae,fun w Pb cargs hP hargs=>?_⟩;obtain⟨A,c,r,rfl,h1,hle,hc⟩:=BQ hargs;obtain rfl:=mM h1;rcases hc with rfl | ⟨b,o,rfl,hb,hc⟩;cases A with
 | none=>
   refine(Tryz.slices_Clone_string_nil 0 c w).mono ?_;rintro e w' ⟨rfl,rfl⟩;exact⟨_,_,[],Pb,rfl,rfl,⟨0,0,0,.inl ⟨rfl,rfl,rfl,none,rfl⟩⟩,Zba,Zad,fun _ h=>h,fun _ h=>.inl h,Below.refl _ _⟩
 | some a=>
   refine(Tryz.slices_Clone_string_zero a c w).mono ?_;rintro e w' ⟨v,rfl,hr,_,hB⟩;obtain⟨F,k1,k2,k3⟩:=xu (l:=[]) hP hr;exact⟨_,_,F,Pb,rfl,rfl,k1,k2,k3,fun _ h=>h,fun _ h=>.inl h,hB⟩
 refine(Tryz.slices_Clone_string b o l.length c (l.map Str) w Zad Zac (fun j hj=>?_)).mono ?_;apply hc;rw[Zam,Zat hj];rfl;rintro e w' ⟨v,rfl,hr,_,hB⟩;rw[Zaz Zad,List.map_map]at hr;obtain⟨F,k1,k2,k3⟩:=xu hP hr;exact⟨_,_,F,Pb,rfl,rfl,k1,k2,k3,fun _ h=>h,fun _ h=>.inl h,hB⟩
theorem Kg(f:Bool)(l:List BL)(hl:l.length<=1000000):PF Tryz.prog 85 [.sl f (l.map sV)] [] (fun r h=>r=.ow 1 (l.map sV)/\h=[]):=iL rfl rfl (JJ f l hl)
def foldI(b:Int):Int:=if 97<=b/\b<=102 then b-32 else b
def eK(i:Nat):Int:=if i<10 then 48+i else 55+i
def lK(b:Int):Int:=if 48<=foldI b/\foldI b<=57 then foldI b-48 else if 65<=foldI b/\foldI b<=70 then foldI b-55 else -1
theorem yM:∀ i,(h:i<16)->((((⟨#[48,49,50,51,52,53,54,55,56,57,65,66,67,68,69,70]⟩:ByteArray)[i]'h).toNat:Nat):Int)=eK i:=Zaf
theorem vY{i:Nat}(h:i<16):eK i<128:=by unfold eK;split <;> omega
theorem Io(b:UInt8):lK b.toNat=cZ b:=by
 unfold lK foldI cZ;have:=b.toNat_lt;repeat' split
 all_goals omega
theorem yD{b:Int}{i:Nat}(hi:i<16)(h:eK i=foldI b):lK b=i:=by
 unfold eK at h;unfold lK;split at h;rw[if_pos Zac];omega;rw[if_neg Zac,if_pos Zac];omega
theorem vv{b:Int}(h:∀ j:Nat,j<16->eK j≠foldI b):lK b= -1:=by
 unfold lK;split;rename_i hc;refine absurd ?_ (h (foldI b-48).toNat Zac);unfold eK;rw[if_pos Zac];omega;split;rename_i hc;refine absurd ?_ (h (foldI b-55).toNat Zac);unfold eK;rw[if_neg Zac];omega;rfl
section
open Go Go.RowKit Go.Lib
set_option maxHeartbeats 1000000 in
set_option maxRecDepth 100000 in
theorem MK(b:Int)(h0:0<=b)(h1:b<256)(hlo:decide ((97:Int)<=b)=false)(w:World):Calls Tryz.prog 192 #[.int .u8 b] w fun e w'=>e=.returned (.tuple #[.int .i64 (max (lK b) 0),.bool (decide (0<=lK b))])/\∃ pos,w'=w.iter ⟨#[48,49,50,51,52,53,54,55,56,57,65,66,67,68,69,70]⟩ pos:=by
 have HF:Aside (foldI b=b):=by
  have:=of_decide_eq_false hlo;unfold Aside foldI;rw[if_neg Zac]
 go_enter Tryz.func192,Tryz.ntmps192
 go_wp2
 go_loopg [4,5] 16 (fun g _ _ wx=> ∃ i:Nat,i+g=16/\wx=w.iter ⟨#[48,49,50,51,52,53,54,55,56,57,65,66,67,68,69,70]⟩ i/\∀ j:Nat,j<i->eK j≠foldI b)
 case atStart=>exact⟨0,Zac,rfl,fun j hj=>by omega⟩
 case round=>
  obtain⟨i,hig,rfl,hno⟩:=hrel;have HN:Aside (∀ j:Nat,j<i->eK j≠foldI b):=hno;clear hno;cases gk with
  | zero=>
    obtain rfl:i=16:=Zac;have hnx:=run_next_end (P:=Tryz.prog) w ⟨#[48,49,50,51,52,53,54,55,56,57,65,66,67,68,69,70]⟩ 16
    go_wp2
    go_ret2
    exact⟨by rw[vv HN.out];rfl,_,rfl⟩
  | succ g=>
    have hi:i<(⟨#[48,49,50,51,52,53,54,55,56,57,65,66,67,68,69,70]⟩:ByteArray).size:=by show i<16;omega
    have hfa:((((⟨#[48,49,50,51,52,53,54,55,56,57,65,66,67,68,69,70]⟩:ByteArray)[i]'hi).toNat:Nat):Int)=eK i:=yM i hi;have hlt:((⟨#[48,49,50,51,52,53,54,55,56,57,65,66,67,68,69,70]⟩:ByteArray)[i]'hi).toNat<128:=Zb6
    have hnx:=fun ty=>run_next_ascii (P:=Tryz.prog) w ⟨#[48,49,50,51,52,53,54,55,56,57,65,66,67,68,69,70]⟩ i ty hi hlt;rw[hfa]at hnx;clear hlt hfa;cases hin:(eK i==b)
    · have HI:Aside ((eK i==b)=false):=hin
      go_wp2
      go_roundg g
      case measure=>omega
      case rel=>exact⟨i+1,Zac,rfl,fun j hj=>by
       by_cases e:j=i;subst e;rw[HF.out];exact beq_eq_false_iff_ne.1 HI.out;exact HN.out j Zac⟩
    have HI:Aside ((eK i==b)=true):=hin
    go_wp2
    go_ret2
    exact⟨Zb7,_,rfl⟩
set_option maxHeartbeats 1000000 in
set_option maxRecDepth 100000 in
theorem NK(b:Int)(h0:0<=b)(h1:b<256)(hlo:decide ((97:Int)<=b)=true)(hhi:decide (b<=102)=false)(w:World):Calls Tryz.prog 192 #[.int .u8 b] w fun e w'=>e=.returned (.tuple #[.int .i64 (max (lK b) 0),.bool (decide (0<=lK b))])/\∃ pos,w'=w.iter ⟨#[48,49,50,51,52,53,54,55,56,57,65,66,67,68,69,70]⟩ pos:=by
 have HF:Aside (foldI b=b):=by
  have:=of_decide_eq_false hhi;unfold Aside foldI;rw[if_neg Zac]
 go_enter Tryz.func192,Tryz.ntmps192
 go_wp2
 go_loopg [4,5] 16 (fun g _ _ wx=> ∃ i:Nat,i+g=16/\wx=w.iter ⟨#[48,49,50,51,52,53,54,55,56,57,65,66,67,68,69,70]⟩ i/\∀ j:Nat,j<i->eK j≠foldI b)
 case atStart=>exact⟨0,Zac,rfl,fun j hj=>by omega⟩
 case round=>
  obtain⟨i,hig,rfl,hno⟩:=hrel;have HN:Aside (∀ j:Nat,j<i->eK j≠foldI b):=hno;clear hno;cases gk with
  | zero=>
    obtain rfl:i=16:=Zac;have hnx:=run_next_end (P:=Tryz.prog) w ⟨#[48,49,50,51,52,53,54,55,56,57,65,66,67,68,69,70]⟩ 16
    go_wp2
    go_ret2
    exact⟨by rw[vv HN.out];rfl,_,rfl⟩
  | succ g=>
    have hi:i<(⟨#[48,49,50,51,52,53,54,55,56,57,65,66,67,68,69,70]⟩:ByteArray).size:=by show i<16;omega
    have hfa:((((⟨#[48,49,50,51,52,53,54,55,56,57,65,66,67,68,69,70]⟩:ByteArray)[i]'hi).toNat:Nat):Int)=eK i:=yM i hi;have hlt:((⟨#[48,49,50,51,52,53,54,55,56,57,65,66,67,68,69,70]⟩:ByteArray)[i]'hi).toNat<128:=Zb6
    have hnx:=fun ty=>run_next_ascii (P:=Tryz.prog) w ⟨#[48,49,50,51,52,53,54,55,56,57,65,66,67,68,69,70]⟩ i ty hi hlt;rw[hfa]at hnx;clear hlt hfa;cases hin:(eK i==b)
    · have HI:Aside ((eK i==b)=false):=hin
      go_wp2
      go_roundg g
      case measure=>omega
      case rel=>exact⟨i+1,Zac,rfl,fun j hj=>by
       by_cases e:j=i;subst e;rw[HF.out];exact beq_eq_false_iff_ne.1 HI.out;exact HN.out j Zac⟩
    have HI:Aside ((eK i==b)=true):=hin
    go_wp2
    go_ret2
    exact⟨Zb7,_,rfl⟩
set_option maxHeartbeats 1000000 in
set_option maxRecDepth 100000 in
theorem Jw(b:Int)(h0:0<=b)(h1:b<256)(hlo:decide ((97:Int)<=b)=true)(hhi:decide (b<=102)=true)(w:World):Calls Tryz.prog 192 #[.int .u8 b] w fun e w'=>e=.returned (.tuple #[.int .i64 (max (lK b) 0),.bool (decide (0<=lK b))])/\∃ pos,w'=w.iter ⟨#[48,49,50,51,52,53,54,55,56,57,65,66,67,68,69,70]⟩ pos:=by
 have HF:Aside (foldI b=(b-32) % 256):=by
  have:=of_decide_eq_true hhi;have:=of_decide_eq_true hlo;unfold Aside foldI;rw[if_pos Zac];omega
 go_enter Tryz.func192,Tryz.ntmps192
 go_wp2
 go_loopg [4,5] 16 (fun g _ _ wx=> ∃ i:Nat,i+g=16/\wx=w.iter ⟨#[48,49,50,51,52,53,54,55,56,57,65,66,67,68,69,70]⟩ i/\∀ j:Nat,j<i->eK j≠foldI b)
 case atStart=>exact⟨0,Zac,rfl,fun j hj=>by omega⟩
 case round=>
  obtain⟨i,hig,rfl,hno⟩:=hrel;have HN:Aside (∀ j:Nat,j<i->eK j≠foldI b):=hno;clear hno;cases gk with
  | zero=>
    obtain rfl:i=16:=Zac;have hnx:=run_next_end (P:=Tryz.prog) w ⟨#[48,49,50,51,52,53,54,55,56,57,65,66,67,68,69,70]⟩ 16
    go_wp2
    go_ret2
    exact⟨by rw[vv HN.out];rfl,_,rfl⟩
  | succ g=>
    have hi:i<(⟨#[48,49,50,51,52,53,54,55,56,57,65,66,67,68,69,70]⟩:ByteArray).size:=by show i<16;omega
    have hfa:((((⟨#[48,49,50,51,52,53,54,55,56,57,65,66,67,68,69,70]⟩:ByteArray)[i]'hi).toNat:Nat):Int)=eK i:=yM i hi;have hlt:((⟨#[48,49,50,51,52,53,54,55,56,57,65,66,67,68,69,70]⟩:ByteArray)[i]'hi).toNat<128:=Zb6
    have hnx:=fun ty=>run_next_ascii (P:=Tryz.prog) w ⟨#[48,49,50,51,52,53,54,55,56,57,65,66,67,68,69,70]⟩ i ty hi hlt;rw[hfa]at hnx;clear hlt hfa;cases hin:(eK i==(b-32) % 256)
    · have HI:Aside ((eK i==(b-32) % 256)=false):=hin
      go_wp2
      go_roundg g
      case measure=>omega
      case rel=>exact⟨i+1,Zac,rfl,fun j hj=>by
       by_cases e:j=i;subst e;rw[HF.out];exact beq_eq_false_iff_ne.1 HI.out;exact HN.out j Zac⟩
    have HI:Aside ((eK i==(b-32) % 256)=true):=hin
    go_wp2
    go_ret2
    exact⟨Zb7,_,rfl⟩
theorem Nt(b:UInt8):PC Tryz.prog 192 [uN b.toNat] (fun r=>r=.tup [iV (max (cZ b) 0),bV (decide (0<=cZ b))]):=by
 refine⟨eU Tryz.func192 Zae Zae,fun w Pb cargs hP hargs=>?_⟩;obtain⟨r,rfl,h1⟩:=iC hargs;obtain rfl:=mM h1;have hb:=b.toNat_lt;have h:Calls Tryz.prog 192 #[.int .u8 b.toNat] w fun e w'=>e=.returned (.tuple #[.int .i64 (max (lK b.toNat) 0),.bool (decide (0<=lK b.toNat))])/\∃ pos,w'=w.iter ⟨#[48,49,50,51,52,53,54,55,56,57,65,66,67,68,69,70]⟩ pos:=by
  cases h1:decide ((97:Int)<=b.toNat);exact MK _ Zac Zac h1 w;cases h2:decide ((b.toNat:Int)<=102);exact NK _ Zac Zac h1 h2 w;exact Jw _ Zac Zac h1 h2 w
 rw[Io]at h;refine h.mono ?_;rintro e w' ⟨rfl,pos,rfl⟩;exact⟨_,_,[],Pb,rfl,rfl,ue rfl rfl,Zba,Zad,fun _ h=>h,fun _ h=>.inl h,⟨rfl,rfl,rfl,by simp[World.iter],fun k hk=>alloc_old w _ k hk⟩⟩
theorem MA(b:UInt8):PF Tryz.prog 192 [uN b.toNat] [] (fun r h=>r=.tup [iV (max (cZ b) 0),bV (decide (0<=cZ b))]/\h=[]):=iL rfl rfl (Nt b)
end
def zt3:ZT Tryz.prog:=⟨3,iN 0,eD (cs:=[.int .i64 0]) Zae Zae⟩
def zt4:ZT Tryz.prog:=⟨4,bV false,eD (cs:=[.bool false]) Zae Zae⟩
def OR:ZT Tryz.prog:=⟨25,.sl true [],eD (cs:=[.slice none 0 0]) Zae Zae⟩
def dB:ZT Tryz.prog:=⟨28,.agg [sV [],iN 0,.sl true [],.sl true [],.sl true []],eD (cs:=[.string ⟨#[]⟩,.int .i64 0,.slice none 0 0,.slice none 0 0,.slice none 0 0]) Zae Zae⟩
def sL:ZT Tryz.prog:=⟨35,.agg [iN 0,sV [],iN 0],eD (cs:=[.int .i64 0,.string ⟨#[]⟩,.int .i64 0]) Zae Zae⟩
def fT:ZT Tryz.prog:=⟨47,.agg [.sl true [],.sl true [],iN 0],eD (cs:=[.slice none 0 0,.slice none 0 0,.int .i64 0]) Zae Zae⟩
def oU:ZT Tryz.prog:=⟨50,.agg [sV [],iN 0,bV false,.agg [.sl true [],.sl true [],iN 0],iN 0,.sl true []],eD (cs:=[.string ⟨#[]⟩,.int .i64 0,.bool false,.slice none 0 0,.slice none 0 0,.int .i64 0,.int .i64 0,.slice none 0 0]) Zae Zae⟩
def my:ZT Tryz.prog:=⟨52,.agg [sV [],iN 0],eD (cs:=[.string ⟨#[]⟩,.int .i64 0]) Zae Zae⟩
def dj:ZT Tryz.prog:=⟨57,.agg [sV [],.sl true [],bV false,sV []],eD (cs:=[.string ⟨#[]⟩,.slice none 0 0,.bool false,.string ⟨#[]⟩]) Zae Zae⟩
def OK:ZT Tryz.prog:=⟨79,.agg [.lit (.map none),.lit (.pointer none)],eD (cs:=[.map none,.pointer none]) Zae Zae⟩
def Oi:ZT Tryz.prog:=⟨102,.agg [.sl true [],iN 0],eD (cs:=[.slice none 0 0,.int .i64 0]) Zae Zae⟩
def mc:ZT Tryz.prog:=⟨106,.agg [sV [],sV [],sV [],iN 0],eD (cs:=[.string ⟨#[]⟩,.string ⟨#[]⟩,.string ⟨#[]⟩,.int .i64 0]) Zae Zae⟩
def rL:ZT Tryz.prog:=⟨136,.agg [bV false,sV []],eD (cs:=[.bool false,.string ⟨#[]⟩]) Zae Zae⟩
def Og:ZT Tryz.prog:=⟨153,.agg [.lit .nilFunc,.lit .nilFunc],eD (cs:=[.nilFunc,.nilFunc]) Zae Zae⟩
def Oa:ZT Tryz.prog:=⟨164,.agg [.lit .nilFunc,.lit .nilFunc,.lit .nilFunc],eD (cs:=[.nilFunc,.nilFunc,.nilFunc]) Zae Zae⟩
def Ot:ZT Tryz.prog:=⟨233,.agg [.sl true [],bV false],eD (cs:=[.slice none 0 0,.bool false]) Zae Zae⟩
def nV:ZT Tryz.prog:=⟨248,.agg [sV []],eD (cs:=[.string ⟨#[]⟩]) Zae Zae⟩
def Ei:ZT Tryz.prog:=⟨250,.agg [.agg [bV false,sV []]],eD (cs:=[.bool false,.string ⟨#[]⟩]) Zae Zae⟩
def KO:ZT Tryz.prog:=⟨252,.agg [iN 0],eD (cs:=[.int .i64 0]) Zae Zae⟩
abbrev aC:=W7 Tryz.prog
abbrev fO:=VX Tryz.prog
abbrev OU:=Sc Tryz.prog
abbrev ql(s:BL)(c:UInt8):V:=.tup [sV ((ab c s).1),sV ((ab c s).2.1),bV ((ab c s).2.2)]
abbrev mC(s:BL)(c:UInt8)(i:Nat):Prop:=i<=s.length/\ab c s=(s.take i++(ab c (s.drop i)).1,(ab c (s.drop i)).2.1,(ab c (s.drop i)).2.2)
def jm(s:BL)(c:UInt8):aC:=.mk 135 [sV s,uN c.toNat] [] (s.length<=4611686018427387904) (ql s c) [] (by
 intro hs
 refine au Tryz.func135
  (.q 3<|.q 1<|.loop Nat (fun i=>⟨[(0,sV s),(1,uN c.toNat),(7,iN i)],[]⟩) (fun i=>mC s c i) (fun i=>s.length-i) (fun i=>.q 4<|.br (.q 5<|.br (.A7 8 []<|.l7 8<|.q 2<|.nil) (.q 3<|.nil)) (.q 4<|.nil)))
  ((∃ j6:Nat,(mC s c j6)/\E (sV s)/\E (uN c.toNat)/\Q (iN 0) (iN j6)/\True)/\∀ i:Nat,(mC s c i)->Br (s4 (i:Int) (s.length:Int)) (Ix (i:Int) s/\Br (o5 (((s.getD i 0).toNat:Nat):Int) (c.toNat:Int)) (Sx (0:Int) (i:Int) s/\m6 ((i:Int)+1)/\Sx ((i+1:Nat):Int) (s.length:Int) s/\Q (.tup [sV ((s.take i).drop ((0:Int).toNat)),sV ((s.take s.length).drop (i+1)),bV true]) (ql s c)) (m6 ((i:Int)+1)/\∃ b9:Nat,(mC s c b9)/\(s.length-b9<s.length-i)/\E (sV s)/\E (uN c.toNat)/\Q (iN (i+1)) (iN b9)/\True)) (Q (.tup [sV s,sV [],bV false]) (ql s c))) ?_
 refine⟨⟨0,?_,ao⟩,?_⟩;unfold mC;simp_all;rintro i ⟨hi,Qj⟩;refine bI (fun j8=>?_) fun j8=>?_;refine ak (bI (fun l5=>?_) fun l5=>?_);refine bm ?_;unfold Q ql;have he:s.getD i 0=c:=UInt8.toNat_inj.1 (by exact_mod_cast l5);rw[Qj,drop_cons (by omega:i<s.length) 0,ab,if_pos he];simp;refine ak ⟨i+1,?_,?_,ao⟩;unfold mC;refine ak ?_;have hne: ¬ s.getD i 0=c:=fun h=>l5 (by rw[h]);rw[Qj,drop_cons (by omega:i<s.length) 0];simp only[ab,if_neg hne,ba (by omega:i<s.length) 0,List.append_assoc,List.cons_append,List.nil_append];exact Zak;unfold Q ql;have hl:s.length<=i:=Zac;rw[Qj,Za8 hl,ab,Zaz hl];simp)
def bO(n lo up:Int):aC:=.mk 27 [iV n,iV lo,iV up] [] True (bV (w5 n lo up)) [] (by
 intro _
 refine au Tryz.func27
  (.q 1<|.q 9<|.nil)
  (Pk (D0 n lo) ((D0 n lo)==true) true/\Q (bV ((D0 n lo)&&(G' n up))) (bV (w5 n lo up))) ?_
 refine ak ?_;unfold Q;refine Zbm bV ?_;rw[Za6];simp[w5])
def lj(b:UInt8):aC:=.mk 137 [uN b.toNat] [] True (bV (eR b)) [] (by
 intro _
 refine au Tryz.func137
  (.q 1<|.q 23<|.nil)
  ((fun v1:Int=>(fun v2:Bool=>(Pk (D0 v1 97) ((D0 v1 97)==true) true/\Gd v2 (Pk (D0 v1 48) (v2&&((D0 v1 48)==true)) true)/\Pk ((D0 v1 97)&&(G' v1 122)) true v2/\Pk (((D0 v1 97)&&(G' v1 122))||((D0 v1 48)&&(G' v1 57))) true ((((D0 v1 97)&&(G' v1 122))||((D0 v1 48)&&(G' v1 57)))==false)/\Pk ((((D0 v1 97)&&(G' v1 122))||((D0 v1 48)&&(G' v1 57)))||(o5 v1 46)) true (((((D0 v1 97)&&(G' v1 122))||((D0 v1 48)&&(G' v1 57)))||(o5 v1 46))==false)/\Q (bV (((((D0 v1 97)&&(G' v1 122))||((D0 v1 48)&&(G' v1 57)))||(o5 v1 46))||(o5 v1 45))) (bV (eR b)))) (((D0 v1 97)&&(G' v1 122))==false)) (b.toNat:Int)) ?_
 refine eQ ?_;unfold Q;refine Zbm bV ?_;rw[Za6];simp[eR];try omega)
def mI(b:UInt8):aC:=.mk 164 [uN b.toNat] [] True (bV (eR b)) [] (by
 intro _
 refine au Tryz.func164
  (.q 1<|.q 23<|.nil)
  ((fun v1:Int=>(fun v2:Bool=>(Pk (D0 v1 97) ((D0 v1 97)==true) true/\Gd v2 (Pk (D0 v1 48) (v2&&((D0 v1 48)==true)) true)/\Pk ((D0 v1 97)&&(G' v1 122)) true v2/\Pk (((D0 v1 97)&&(G' v1 122))||((D0 v1 48)&&(G' v1 57))) true ((((D0 v1 97)&&(G' v1 122))||((D0 v1 48)&&(G' v1 57)))==false)/\Pk ((((D0 v1 97)&&(G' v1 122))||((D0 v1 48)&&(G' v1 57)))||(o5 v1 46)) true (((((D0 v1 97)&&(G' v1 122))||((D0 v1 48)&&(G' v1 57)))||(o5 v1 46))==false)/\Q (bV (((((D0 v1 97)&&(G' v1 122))||((D0 v1 48)&&(G' v1 57)))||(o5 v1 46))||(o5 v1 45))) (bV (eR b)))) (((D0 v1 97)&&(G' v1 122))==false)) (b.toNat:Int)) ?_
 refine eQ ?_;unfold Q;refine Zbm bV ?_;rw[Za6];simp[eR];try omega)
def lg(b:UInt8):aC:=.mk 220 [uN b.toNat] [] True (iV (cZ b)) [] (by
 intro _
 refine au Tryz.func220
  (.q 1<|.q 7<|.br (.q 4<|.nil) (.q 7<|.br (.q 5<|.nil) (.q 7<|.br (.q 5<|.nil) (.q 1<|.nil))))
  ((fun v1:Int=>(Pk (D0 v1 48) ((D0 v1 48)==true) true/\Br ((D0 v1 48)&&(G' v1 57)) (R9 (v1-48)/\m6 (v1-48)/\Q (iV (v1-48)) (iV (cZ b))) (Pk (D0 v1 97) ((D0 v1 97)==true) true/\Br ((D0 v1 97)&&(G' v1 102)) (R9 (v1-97)/\m6 (v1-97)/\m6 ((v1-97)+10)/\Q (iV ((v1-97)+10)) (iV (cZ b))) (Pk (D0 v1 65) ((D0 v1 65)==true) true/\Br ((D0 v1 65)&&(G' v1 70)) (R9 (v1-65)/\m6 (v1-65)/\m6 ((v1-65)+10)/\Q (iV ((v1-65)+10)) (iV (cZ b))) (Q (iV (-1)) (iV (cZ b))))))) (b.toNat:Int)) ?_
 refine ak (bI (fun j8=>?_) fun j8=>?_)
 · refine⟨Zb8,Zb8,?_⟩;unfold Q;have:=b.toNat_lt;refine Zbm iV ?_;unfold cZ;repeat (split <;> try omega)
 · refine ak (bI (fun l5=>?_) fun l5=>?_)
   · refine⟨Zb8,Zb8,Zb8,?_⟩;unfold Q;have:=b.toNat_lt;refine Zbm iV ?_;unfold cZ;repeat (split <;> try omega)
   · refine ak (bI (fun m8=>?_) fun m8=>?_)
     · refine⟨Zb8,Zb8,Zb8,?_⟩;unfold Q;have:=b.toNat_lt;refine Zbm iV ?_;unfold cZ;repeat (split <;> try omega)
     · unfold Q;have:=b.toNat_lt;refine Zbm iV ?_;unfold cZ;repeat (split <;> try omega))
def ly(s:BL):aC:=.mk 94 [sV s] [] (s.length<=4611686018427387904) (bV (db s)) [] (by
 intro hs
 refine au Tryz.func94
  (.l7 2<|.loop Nat (fun i=>⟨[(0,sV s),(3,iN i)],[]⟩) (fun i=>i<=s.length/\∀ j,j<i->lL (s.getD j 0)=true) (fun i=>s.length-i) (fun i=>.q 4<|.br (.q 10<|.br (.q 1<|.nil) (.q 3<|.nil)) (.q 2<|.c (bO (s.length:Int) (1:Int) (5:Int)) []<|.q 1<|.nil)))
  ((fun v1:Nat->Prop=>((∃ j6:Nat,(v1 j6)/\E (sV s)/\Q (iN 0) (iN j6)/\True)/\∀ i:Nat,(v1 i)->(fun v2:Int=>Br (s4 (i:Int) (s.length:Int)) (Ix (i:Int) s/\Gd ((s4 v2 97)==false) (Ix (i:Int) s)/\Pk (s4 v2 97) true ((s4 v2 97)==false)/\Br ((s4 v2 97)||(s9 v2 122)) (Q (bV false) (bV (db s))) (m6 ((i:Int)+1)/\∃ b9:Nat,(v1 b9)/\(s.length-b9<s.length-i)/\E (sV s)/\Q (iN (i+1)) (iN b9)/\True)) ((bO (s.length:Int) (1:Int) (5:Int)).sm/\(True)/\Q (bV (w5 (s.length:Int) (1:Int) (5:Int))) (bV (db s)))) (((s.getD i 0).toNat:Nat):Int))) (fun j6:Nat=>j6<=s.length/\∀ j,j<j6->lL (s.getD j 0)=true)) ?_
 refine⟨⟨0,?_,ao⟩,?_⟩;simp_all;rintro i ⟨hi,Su⟩;refine bI (fun j8=>?_) fun j8=>?_;refine bm (bI (fun l5=>?_) fun l5=>?_);rw[show db s=false from by unfold db gK;rw[all_false (i:=i) (d:=0) Zac Zb9];rfl];refine ak ⟨i+1,?_,?_,ao⟩;refine ak (bh Su ?_);simp only[lL,Zbk];omega;exact Zak;refine bb ?_;unfold Q;unfold db;rw[show gK s=true from all_true (d:=0) fun j hj=>Su j Zac];rw[Bool.true_and])
def ik(s:BL):aC:=.mk 58 [sV s] [] (s.length<=4611686018427387904) (bV (cC s)) [] (by
 intro hs
 refine au Tryz.func58
  (.l7 2<|.loop Nat (fun i=>⟨[(0,sV s),(3,iN i)],[]⟩) (fun i=>i<=s.length/\∀ j,j<i->lL (s.getD j 0)=true) (fun i=>s.length-i) (fun i=>.q 4<|.br (.q 10<|.br (.q 1<|.nil) (.q 3<|.nil)) (.q 2<|.c (bO (s.length:Int) (1:Int) (8:Int)) []<|.q 1<|.nil)))
  ((fun v1:Nat->Prop=>((∃ j6:Nat,(v1 j6)/\E (sV s)/\Q (iN 0) (iN j6)/\True)/\∀ i:Nat,(v1 i)->(fun v2:Int=>Br (s4 (i:Int) (s.length:Int)) (Ix (i:Int) s/\Gd ((s4 v2 97)==false) (Ix (i:Int) s)/\Pk (s4 v2 97) true ((s4 v2 97)==false)/\Br ((s4 v2 97)||(s9 v2 122)) (Q (bV false) (bV (cC s))) (m6 ((i:Int)+1)/\∃ b9:Nat,(v1 b9)/\(s.length-b9<s.length-i)/\E (sV s)/\Q (iN (i+1)) (iN b9)/\True)) ((bO (s.length:Int) (1:Int) (8:Int)).sm/\(True)/\Q (bV (w5 (s.length:Int) (1:Int) (8:Int))) (bV (cC s)))) (((s.getD i 0).toNat:Nat):Int))) (fun j6:Nat=>j6<=s.length/\∀ j,j<j6->lL (s.getD j 0)=true)) ?_
 refine⟨⟨0,?_,ao⟩,?_⟩;simp_all;rintro i ⟨hi,Su⟩;refine bI (fun j8=>?_) fun j8=>?_;refine bm (bI (fun l5=>?_) fun l5=>?_);rw[show cC s=false from by unfold cC gK;rw[all_false (i:=i) (d:=0) Zac Zb9];rfl];refine ak ⟨i+1,?_,?_,ao⟩;refine ak (bh Su ?_);simp only[lL,Zbk];omega;exact Zak;refine bb ?_;unfold Q;unfold cC;rw[show gK s=true from all_true (d:=0) fun j hj=>Su j Zac];rw[Bool.true_and])
def nL(s:BL):aC:=.mk 67 [sV s] [] (s.length<=4611686018427387904) (bV (gK s)) [] (by
 intro hs
 refine au Tryz.func67
  (.l7 2<|.loop Nat (fun i=>⟨[(0,sV s),(3,iN i)],[]⟩) (fun i=>i<=s.length/\∀ j,j<i->lL (s.getD j 0)=true) (fun i=>s.length-i) (fun i=>.q 4<|.br (.q 10<|.br (.q 1<|.nil) (.q 3<|.nil)) (.q 1<|.nil)))
  ((fun v1:Nat->Prop=>((∃ j6:Nat,(v1 j6)/\E (sV s)/\Q (iN 0) (iN j6)/\True)/\∀ i:Nat,(v1 i)->(fun v2:Int=>Br (s4 (i:Int) (s.length:Int)) (Ix (i:Int) s/\Gd ((s4 v2 97)==false) (Ix (i:Int) s)/\Pk (s4 v2 97) true ((s4 v2 97)==false)/\Br ((s4 v2 97)||(s9 v2 122)) (Q (bV false) (bV (gK s))) (m6 ((i:Int)+1)/\∃ b9:Nat,(v1 b9)/\(s.length-b9<s.length-i)/\E (sV s)/\Q (iN (i+1)) (iN b9)/\True)) (Q (bV true) (bV (gK s)))) (((s.getD i 0).toNat:Nat):Int))) (fun j6:Nat=>j6<=s.length/\∀ j,j<j6->lL (s.getD j 0)=true)) ?_
 refine⟨⟨0,?_,ao⟩,?_⟩;simp_all;rintro i ⟨hi,Su⟩;refine bI (fun j8=>?_) fun j8=>?_;refine bm (bI (fun l5=>?_) fun l5=>?_);rw[show gK s=false from by unfold gK;rw[all_false (i:=i) (d:=0) Zac Zb9]];refine ak ⟨i+1,?_,?_,ao⟩;refine ak (bh Su ?_);simp only[lL,Zbk];omega;exact Zak;rw[show gK s=true from all_true (d:=0) fun j hj=>Su j Zac])
def pO(s:BL):aC:=.mk 69 [sV s] [] (s.length<=4611686018427387904) (bV (db s)) [] (by
 intro hs
 refine au Tryz.func69
  (.q 1<|.q 10<|.cg (nL s)<|.q 2<|.nil)
  ((fun v1:Int=>(Pk (D0 v1 1) ((D0 v1 1)==true) true/\Gd (((D0 v1 1)&&(G' v1 5))==true) (((s.length<=4611686018427387904))/\(nL s).sm)/\Pk ((D0 v1 1)&&(G' v1 5)) (((D0 v1 1)&&(G' v1 5))==true) true/\Q (bV (((D0 v1 1)&&(G' v1 5))&&(gK s))) (bV (db s)))) (s.length:Int)) ?_
 refine ak ⟨fun hG=>⟨Zca,rfl⟩,ak ?_⟩;unfold Q;refine Zbm bV ?_;rw[Za6];simp[db,w5,and_comm,and_assoc];try omega)
def rI(s:BL):aC:=.mk 36 [sV s] [] (s.length<=4611686018427387904) (bV (cC s)) [] (by
 intro hs
 refine au Tryz.func36
  (.q 1<|.q 10<|.cg (nL s)<|.q 2<|.nil)
  ((fun v1:Int=>(Pk (D0 v1 1) ((D0 v1 1)==true) true/\Gd (((D0 v1 1)&&(G' v1 8))==true) (((s.length<=4611686018427387904))/\(nL s).sm)/\Pk ((D0 v1 1)&&(G' v1 8)) (((D0 v1 1)&&(G' v1 8))==true) true/\Q (bV (((D0 v1 1)&&(G' v1 8))&&(gK s))) (bV (cC s)))) (s.length:Int)) ?_
 refine ak ⟨fun hG=>⟨Zca,rfl⟩,ak ?_⟩;unfold Q;refine Zbm bV ?_;rw[Za6];simp[cC,w5,and_comm,and_assoc];try omega)
end Go.Proofs.YtngholilfbdfkabGreatDoor