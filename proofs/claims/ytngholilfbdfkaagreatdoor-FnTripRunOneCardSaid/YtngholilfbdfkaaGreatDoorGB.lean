/-
  Words and walks for the laws of pedlar's seat: what each function of the program computes, and that it does; no conditions beyond those that each statement names.
-/
import Derived.Test.YtngholilfbdfkaaGreatDoorGA
import Derived.Scope
import Derived.Laws.MakeOwn
import Derived.MapKept
import Derived.Test.YtngholilfbdfkaaGreatDoorProg
import Derived.Shelf.Strings.OnBuilder
import Derived.Shelf.Strings.Search2
import Derived.Shelf.Strings.Search3
import Derived.Shelf.Strings.Count
import Derived.Shelf.Strings.SplitCore
import Derived.Shelf.Strings.IndexAnyAll
import Derived.Shelf.Slices.Turned
import Derived.Shelf.Slices.Clone
import Derived.Lib.Join
import Derived.Lib.IndexAny
import Derived.Lib.SplitLaws
import Derived.WalkKit
import Derived.Laws.RangeString
import Derived.Deep.LoopGhost
set_option linter.unusedVariables false
set_option linter.unusedSimpArgs false
set_option linter.unnecessarySimpa false
set_option linter.unusedSectionVars false
namespace Go.Proofs.YtngholilfbdfkaaGreatDoor
open Go Go.RowKit
set_option maxRecDepth 20000
section
variable {w w':World} {Pb Kb Pb':Nat->Prop} {N:Nat} {A A' B:AS} {a:Act} {F:r5->List Nat} {P:Program} {ops:Array Oper}
structure Ini (w:World) (Pb Kb:Nat->Prop) (args:List V) (cargs:List Value) (H:List (Nat×(Nat×V))) (F:r5->List Nat):Prop where
 len:cargs.length=args.length
 slot:∀ i v x,args[i]? =some v->cargs[i]? =some x->RV w Pb v x (F (.slot i))
 root:∀ k g v,lk k H=some (g,v)->∃ F',F (.key k)=g::F'/\At w Pb v g 0 F'
 rest:∀ i,args.length<=i->F (.slot i)=[]
 du:∀ r r',r≠r'->∀ g,g∈F r->g ∉ F r'
 nodup:∀ r,(F r).Nodup
 free:∀ r g,g∈F r->¬ Kb g/\g<w.heap.size
 sub:∀ g,Pb g->Kb g
 bound:∀ g,Kb g->g<w.heap.size
structure Fin (w w':World) (Pb Kb:Nat->Prop) (r:V) (x:Value) (H:List (Nat×(Nat×V))) (Pb' N1:Nat->Prop) (F:r5->List Nat):Prop where
 val:RV w' Pb' r x (F (.slot 0))
 root:∀ k g v,lk k H=some (g,v)->∃ F',F (.key k)=g::F'/\At w' Pb' v g 0 F'
 du:∀ r r',r≠r'->∀ g,g∈F r->g ∉ F r'
 nodup:∀ r,(F r).Nodup
 free:∀ r g,g∈F r->¬ N1 g/\g<w'.heap.size
 sub:∀ g,Pb' g->N1 g
 bound:∀ g,N1 g->g<w'.heap.size
 mP:∀ g,Pb g->Pb' g
 mK:∀ g,Kb g->N1 g
 Vp:∀ g,Pb' g->Pb g\/¬ Kb g
 iq:F7 Kb w w'
def PF(P:Program)(f:FuncId)(args:List V)(H:List (Nat×(Nat×V)))(Q:V->List (Nat×(Nat×V))->Prop):Prop:=
 rH P f/\∀ (w:World) (Pb Kb:Nat->Prop) (cargs:List Value) (F:r5->List Nat),Ini w Pb Kb args cargs H F->
  Calls P f cargs.toArray w fun e w'=> ∃ r x H' Pb' N1 F',e=.returned x/\Q r H'/\Fin w w' Pb Kb r x H' Pb' N1 F'
theorem PF.mono{f:FuncId}{args:List V}{H:List (Nat×(Nat×V))}{Q Q':V->List (Nat×(Nat×V))->Prop}(h:PF P f args H Q)(hQ:∀ r H,Q r H->Q' r H):PF P f args H Q':=
 ⟨h.1,fun w Pb Kb cargs F hi=>(h.2 w Pb Kb cargs F hi).mono fun _ _ ⟨r,x,H',Pb',N1,F',e,q,rest⟩=>⟨r,x,H',Pb',N1,F',e,hQ r H' q,rest⟩⟩
def KC(P:Program)(rs:List ResultVar)(Q:V->List (Nat×(Nat×V))->Prop):Exit->AS->Prop:=fun e A=>
 (e=.normal\/e=.ret)/\∃ xs H,vg A rs=some xs/\ue P rs xs/\(xs.map (·.1)).Nodup/\UT A H/\(∀ k,lk k H≠none->r5.key k ∉ xs.map (·.1))/\Q (one (xs.map (·.2))) H
open Classical in
theorem Gk{f:FuncId} {fn:Func} {c:Code} {args:List V} {H:List (Nat×(Nat×V))} {Q:V->List (Nat×(Nat×V))->Prop} (hf:P.funcs[f]? =some fn) (hb:fn.body=some c) (he:rH P f) (hN:args.length<=fn.ntmps)
 (h:T P fn.ntmps c ⟨enum 0 args,H⟩ (KC P fn.results.toList Q)):PF P f args H Q:=by
 refine⟨he,fun w Pb Kb cargs F hi=>?_⟩;have hlen:=hi.len;refine calls_of_wp hf hb ?_;have hs:C3 fn.ntmps Pb Kb ⟨enum 0 args,H⟩ { tmps:=cargs.toArray++Array.replicate (fn.ntmps-cargs.toArray.size) undef,defers:=[] } w F:=by
  refine⟨Zal,rfl,fun i=>?_,hi.root,hi.du,hi.nodup,hi.free,hi.sub,hi.bound⟩;simp only[AS.get,EN,Nat.zero_le,if_true,Nat.sub_zero];cases hii:args[i]? with
  | none=>
    have:args.length<=i:=by simpa using hii
    rw[hi.rest i this];rfl
  | some v=>
    have hlt:i<args.length:=(Za3.1 hii).1;have hx:cargs[i]? =some (cargs[i]'Zac):=Zat Zac;have hr:=hi.slot i v _ hii hx;have e:(cargs.toArray++Array.replicate (fn.ntmps-cargs.toArray.size) undef).getD i undef=cargs[i]'Zac:=by
     rw[Array.getD_eq_getD_getElem?,Array.getElem?_append_left Zal];simp[hx]
    simp only[Option.getD_some];rw[e];exact hr
 refine wp_mono (h _ _ _ _ _ hs) ?_;rintro e a' w' ⟨A',Pb',N1,F',⟨he',xs,H',U7,RM,hnd,hH,YM,hQ⟩,H4,k1,k2,k3,k4⟩;obtain⟨x,Fr,G8,hr,Sa,hin⟩:=EC H4 U7 RM hnd;have VX:a'.defers=[]/\∃ v,(results fn a'.tmps).run P w'=.ok v w'/\(∃ r x H' Pb' N1 F',Ending.returned v=.returned x/\Q r H'/\Fin w w' Pb Kb r x H' Pb' N1 F'):=by
  refine⟨H4.defers,x,G8,_,x,H',Pb',N1,(fun r=>match r with | .slot i=>if i=0 then Fr else [] | .key k=>if lk k H'=none then [] else F' (.key k)),rfl,hQ,?_⟩;have hk:∀ k g,lk k H'≠none->g∈Fr->g ∉ F' (.key k):=fun k g hk hg c=>by
   obtain⟨r,Um,Q9⟩:=hin g hg;have hne:r≠.key k:=fun c=>YM k hk (by rw[<- c];exact Um);exact H4.du r _ hne g Q9 c
  refine⟨by simpa using hr,fun k g v hkv=>?_,fun r r' hne g hg=>?_,fun r=>?_,fun r g hg=>?_,H4.sub,H4.bound,k1,k2,k3,k4⟩;obtain⟨v',e1,e2⟩:=Dm _ hH hkv;obtain⟨F1,hF,hA⟩:=H4.root k g v' e1;refine⟨F1,?_,by have:=GZ v hA;rw[e2]at this;exact this⟩;simp only;rw[if_neg (by rw[hkv];simp)];exact hF;cases r with
  | slot i=>
    simp only at hg;split at hg;rename_i hi0;cases r' with
    | slot j=>simp only;rw[if_neg (fun c=>hne (by rw[hi0,c]))];simp
    | key k=>simp only;split;simp;rename_i YL;exact hk k g YL hg
    simp at hg
  | key k=>
    simp only at hg;split at hg;simp at hg;rename_i YL;cases r' with
    | slot j=>simp only;split;exact fun c=>hk k g YL c hg;simp
    | key k'=>simp only;split;simp;exact H4.du _ _ hne g hg
  cases r <;> simp only <;> split <;> first | exact Sa | exact Zba | exact H4.nodup _
  cases r with
  | slot i=>
    simp only at hg;split at hg;obtain⟨r,_,h⟩:=hin g hg;exact H4.free r g h;simp at hg
  | key k=>
    simp only at hg;split at hg;simp at hg;exact H4.free _ g hg
 rcases he' with rfl | rfl;exact VX;exact VX
theorem PF.Hg{f:FuncId}{args:List V}{Q:V->List (Nat×(Nat×V))->Prop}(h:PF P f args [] Q):PC P f args (fun r=> ∃ H,Q r H):=by
 refine⟨h.1,fun w Pb cargs hP hargs=>?_⟩;have hi:Ini w Pb (fun g=>g<w.heap.size) args cargs [] (fun _=>[]):=by
  refine⟨Bo _ hargs,fun i v x hv hx=>?_,fun k g v hk=>by simp[lk]at hk,fun _ _=>rfl,fun _ _ _ _ hg=>by simp at hg,fun _=>Zba,fun _ _ hg=>by simp at hg,hP,fun _ h=>h⟩;obtain⟨y,hy,hr⟩:=IX args hargs hv;rw[hx]at hy;cases hy;exact hr
 refine(h.2 w Pb _ cargs _ hi).mono ?_;rintro e w' ⟨r,x,H',Pb',N1,F',rfl,hq,hf⟩;refine⟨r,x,F' (.slot 0),Pb',rfl,⟨H',hq⟩,hf.val,hf.nodup _,fun g hg=>?_,hf.mP,fun g hg=>?_,⟨hf.iq.os,hf.iq.tape,hf.iq.output,hf.iq.size,fun k hk=>hf.iq.block k hk⟩⟩;have:=hf.free _ g hg;refine⟨Nat.le_of_not_lt fun c=>this.1 (hf.mK g c),this.2,fun c=>this.1 (hf.sub g c)⟩;rcases hf.Vp g hg with h | h;exact .inl h;exact .inr ⟨Nat.le_of_not_lt h,hf.bound g (hf.sub g hg)⟩
end
mutual
def V.SO(ρ:r5->r5):V->V
 | .hd r p sz g o lo n c=>.hd (ρ r) p sz g o lo n c
 | .ptr r p g o=>.ptr (ρ r) p g o
 | .agg vs=>.agg (V.Bs ρ vs)
 | .tup vs=>.tup (V.Bs ρ vs)
 | v=>v
def V.Bs(ρ:r5->r5):List V->List V
 | []=>[]
 | v::vs=>v.SO ρ::V.Bs ρ vs
end
def ZJ:V->V
 | .tup _=>.c9
 | .gv _ _=>.c9
 | v=>v
def AS.tk(A:AS):List Operand->List V×AS
 | []=>([],A)
 | x::xs=>match (A.drop x).tk xs with
   | (vs,B)=>(ZJ (A.ev x)::vs,B)
section
variable {w w':World} {Pb Kb Pb':Nat->Prop} {N:Nat} {A A' B:AS} {a:Act} {F:r5->List Nat} {P:Program} {ops:Array Oper}
mutual
theorem KP(ρ:r5->r5):∀ (v:V) {cs F},R w Pb v cs F->R w Pb (v.SO ρ) cs F
 | .agg vs,_,_,h=>by simp only[R,V.SO]at h ⊢;exact zO ρ vs h
 | .tup _,_,_,h=>by simp[R]at h
 | .hd ..,_,_,h=>h
 | .ptr ..,_,_,h=>h
 | .gv _ _,_,_,h=>h
 | .lit _,_,_,h=>h
 | .sl ..,_,_,h=>h
 | .own ..,_,_,h=>h
 | .ow ..,_,_,h=>h
 | .om ..,_,_,h=>h
 | .mp _,_,_,h=>h
 | .ep _,_,_,h=>h
 | .c9,_,_,h=>h
theorem zO(ρ:r5->r5):∀ (vs:List V) {cs F},RL w Pb vs cs F->RL w Pb (V.Bs ρ vs) cs F
 | [],_,_,h=>h
 | v::vs,_,_,h=>by
   obtain⟨c1,c2,F1,F2,rfl,rfl,h1,h2⟩:=h;exact⟨c1,c2,F1,F2,rfl,rfl,KP ρ v h1,zO ρ vs h2⟩
end
theorem Mi(ρ:r5->r5){v:V}{x:Value}{F1:List Nat}(h:Te w Pb v x F1):Te w Pb (v.SO ρ) x F1:=by
 cases v with
 | agg us=>obtain⟨cs,rfl,h⟩:=h;exact⟨cs,rfl,zO ρ us h⟩
 | tup vs=>simp[Te,R]at h
 | _=>exact h
theorem EJ(ρ:r5->r5):∀ (vs:List V) {xs F1},RVs w Pb vs xs F1->RVs w Pb (V.Bs ρ vs) xs F1
 | [],_,_,h=>h
 | v::vs,xs,F1,h=>by
   obtain⟨x,xs',Fa,Fb,rfl,rfl,h1,h2⟩:=(zX (v::vs)).1 h;exact(zX (v.SO ρ::V.Bs ρ vs)).2 ⟨x,xs',Fa,Fb,rfl,rfl,Mi ρ h1,EJ ρ vs h2⟩
theorem NH(ρ:r5->r5){v:V}{x:Value}{F1:List Nat}(h:RV w Pb v x F1):RV w Pb (v.SO ρ) x F1:=by
 cases v with
 | agg us=>obtain⟨cs,rfl,h⟩:=h;exact⟨cs,rfl,zO ρ us h⟩
 | tup us=>obtain⟨cs,rfl,h⟩:=h;exact⟨cs,rfl,EJ ρ us h⟩
 | _=>exact h
def Wf(w:World)(Pb:Nat->Prop):List V->List Value->List (List Nat)->Prop
 | [],[],[]=>True
 | v::vs,x::xs,F::Fs=>RV w Pb v x F/\Wf w Pb vs xs Fs
 | _,_,_=>False
theorem uD:∀ {vs us:List V} {xs ys:List Value} {Fs Gs:List (List Nat)},Wf w Pb vs xs Fs->Wf w Pb us ys Gs->Wf w Pb (vs++us) (xs++ys) (Fs++Gs)
 | [],_,[],_,[],_,_,h=>h
 | _::_,_,_::_,_,_::_,_,h,k=>⟨h.1,uD h.2 k⟩
 | [],_,_::_,_,_,_,h,_=>h.elim
 | [],_,[],_,_::_,_,h,_=>h.elim
 | _::_,_,[],_,_,_,h,_=>h.elim
 | _::_,_,_::_,_,[],_,h,_=>h.elim
theorem EL:∀ {vs:List V} {xs:List Value} {Fs:List (List Nat)},Wf w Pb vs xs Fs->xs.length=vs.length/\Fs.length=vs.length
 | [],[],[],_=>⟨rfl,rfl⟩
 | _::_,_::_,_::_,h=>by have:=EL h.2;simp[this.1,this.2]
 | [],_::_,_,h=>h.elim
 | [],[],_::_,h=>h.elim
 | _::_,[],_,h=>h.elim
 | _::_,_::_,[],h=>h.elim
theorem FX:∀ {vs:List V} {xs:List Value} {Fs:List (List Nat)} {i:Nat} {v:V} {x:Value},Wf w Pb vs xs Fs->vs[i]? =some v->xs[i]? =some x->RV w Pb v x (Fs.getD i [])
 | v::vs,x::xs,F::Fs,0,_,_,h,h1,h2=>by simp at h1 h2;subst h1 h2;exact h.1
 | v::vs,x::xs,F::Fs,i+1,_,_,h,h1,h2=>by simpa using FX (i:=i) h.2 (by simpa using h1) (by simpa using h2)
 | [],_,_,_,_,_,_,h1,_=>by simp at h1
 | _::_,[],_,_,_,_,h,_,_=>h.elim
 | _::_,_::_,[],_,_,_,h,_,_=>h.elim
theorem Ip:∀ {vs us:List V} {xs:List Value} {Fs:List (List Nat)},Wf w Pb vs xs Fs->Wf w Pb (R1 vs us) xs Fs
 | [],us,[],[],_=>by simp only[R1];trivial
 | v::vs,[],_,_,h=>by simpa only[R1] using h
 | v::vs,u::us,x::xs,F::Fs,h=>⟨CB u h.1,Ip h.2⟩
 | [],_,_::_,_,h=>h.elim
 | [],_,[],_::_,h=>h.elim
 | _::_,_::_,[],_,h=>h.elim
 | _::_,_::_,_::_,[],h=>h.elim
theorem vm:∀ (l:List Value),Wf w Pb (l.map cV) l (l.map fun _=>[])
 | []=>trivial
 | x::l=>⟨xc x,vm l⟩
theorem No{v:V}{x:Value}{Fx:List Nat}(h:RV w Pb v x Fx):∃ Fy,RV w Pb (ZJ v) x Fy/\(Fy=Fx\/Fy=[]):=by
 cases v with
 | tup _=>exact⟨[],rfl,.inr rfl⟩
 | gv _ _=>exact⟨[],rfl,.inr rfl⟩
 | _=>exact⟨Fx,h,.inl rfl⟩
theorem C3.tk:∀ (xs:List Operand) {A:AS} {F:r5->List Nat},C3 N Pb Kb A a w F->∃ Fl F',Wf w Pb (A.tk xs).1 (xs.map a.eval) Fl/\C3 N Pb Kb (A.tk xs).2 a w F'/\
 (∀ i,(Fl.getD i []).Nodup)/\(∀ i j,i≠j->∀ g,g∈Fl.getD i []->g ∉ Fl.getD j [])/\(∀ i r g,g∈Fl.getD i []->g ∉ F' r)/\(∀ i g,g∈Fl.getD i []->¬ Kb g/\g<w.heap.size)/\
 (∀ r g,g∈F' r->g∈F r)/\(∀ i g,g∈Fl.getD i []->∃ r,g∈F r)
 | [],A,F,hs=>⟨[],F,trivial,hs,Zad,Zad,Zad,Zad,fun _ _ h=>h,Zad⟩
 | x::xs,A,F,hs=>by
   obtain⟨Fx,F1,h1,h2,h3,h4,h5,h6,h7⟩:=hs.take x;obtain⟨Fl,F2,k1,k2,k3,k4,k5,k6,k7,k8⟩:=C3.tk xs h2;obtain⟨Fy,hy1,Zi⟩:=No h1;have hyx:∀ g,g∈Fy->g∈Fx:=fun g hg=>by rcases Zi with rfl | rfl <;> simp_all
   have hyn:Fy.Nodup:=by rcases Zi with rfl | rfl <;> simp_all
   have hx:∀ i g,g∈Fy->g ∉ Fl.getD i []:=fun i g hg c=>by
    obtain⟨r,hr⟩:=k8 i g c;exact h4 r g (hyx g hg) hr
   refine⟨Fy::Fl,F2,⟨hy1,k1⟩,k2,fun i=>?_,fun i j hne g hg=>?_,fun i r g hg=>?_,fun i g hg=>?_,fun r g hg=>h6 r g (k7 r g hg),fun i g hg=>?_⟩;cases i with
   | zero=>exact hyn
   | succ i=>simpa using k3 i
   cases i with
   | zero=>
     cases j with
     | zero=>exact absurd rfl hne
     | succ j=>simpa using hx j g (by simpa using hg)
   | succ i=>
     cases j with
     | zero=>exact fun c=>hx i g (by simpa using c) (by simpa using hg)
     | succ j=>simpa using k4 i j Zac g (by simpa using hg)
   cases i with
   | zero=>exact fun c=>h4 r g (hyx g (by simpa using hg)) (k7 r g c)
   | succ i=>exact k5 i r g (by simpa using hg)
   cases i with
   | zero=>exact h5 g (hyx g (by simpa using hg))
   | succ i=>exact k6 i g (by simpa using hg)
   cases i with
   | zero=>exact h7 g (hyx g (by simpa using hg))
   | succ i=>
     obtain⟨r,hr⟩:=k8 i g (by simpa using hg);exact⟨r,h6 r g hr⟩
def SZ(ks:List (Nat×Nat)):List (Nat×Nat):=ks.map fun p=>(p.2,p.1)
def nh(ks:List (Nat×Nat)):r5->r5
 | .key k=>match lk k ks with | some q=>.key q | none=>.key k
 | r=>r
def IP(ks:List (Nat×Nat))(H:List (Nat×(Nat×V))):List (Nat×(Nat×V))->List (Nat×(Nat×V)):=fun rest=>match ks with
 | []=>rest
 | (k,q)::r=>match lk k H with
   | some (g,v)=>(q,(g,v.SO (nh ks)))::IP r H rest
   | none=>IP r H rest
def news(ρ:r5->r5)(H:List (Nat×(Nat×V))):List (Nat×Nat)->List (Nat×(Nat×V))
 | []=>[]
 | (k,q)::r=>match lk k H with
   | some (g,v)=>(q,(g,v.SO ρ))::news ρ H r
   | none=>news ρ H r
def AV(ks:List (Nat×Nat))(h:List (Nat×(Nat×V))):List (Nat×(Nat×V)):=h.filter fun p=>(lk p.1 (SZ ks)).isNone
theorem lx(ks:List (Nat×Nat)):∀ (h:List (Nat×(Nat×V))) (q:Nat),lk q (AV ks h)=if (lk q (SZ ks)).isNone then lk q h else none
 | [],q=>by simp[AV,lk]
 | (k,v)::h,q=>by
   have ih:=lx ks h q;simp only[AV,List.filter_cons]at ih ⊢;by_cases hk:(lk k (SZ ks)).isNone=true;rw[if_pos hk];simp only[lk];by_cases e:q=k;subst e;rw[if_pos rfl,if_pos rfl,if_pos hk];rw[if_neg e,if_neg e];exact ih;rw[if_neg hk,ih];simp only[lk];by_cases e:q=k;subst e;rw[if_neg hk,if_neg hk];rw[if_neg e]
theorem qy{α:Type}:∀ {l:List (Nat×α)} {q:Nat},q ∉ l.map (·.1)->lk q l=none
 | [],_,_=>rfl
 | (k,v)::l,q,h=>by
   simp only[Zbe,List.mem_cons,not_or]at h;simp only[lk];rw[if_neg h.1];exact qy h.2
theorem tP{ρ:r5->r5}{H:List (Nat×(Nat×V))}:∀ {ks:List (Nat×Nat)} {q:Nat},RC (ks.map (·.2))=true->
 lk q (news ρ H ks)=(lk q (SZ ks)).bind fun k=>(lk k H).map fun gv=>(gv.1,gv.2.SO ρ)
 | [],q,_=>rfl
 | (k,q0)::ks,q,h=>by
   simp only[Zbe,RC,Zao,Bool.not_eq_true',Zbi,decide_eq_false_iff_not]at h;have ih:=tP (ρ:=ρ) (H:=H) (ks:=ks) (q:=q) h.2;simp only[news,SZ,Zbe,lk];by_cases e:q=q0;subst e;rw[if_pos rfl];simp only[Option.bind_some];cases hk:lk k H with
   | some gv=>simp only[lk,if_true,Option.map_some]
   | none=>
     simp only[Option.map_none];rw[ih,qy];rfl;simp only[SZ,List.map_map,Function.comp_def];exact h.1
   rw[if_neg e];cases hk:lk k H with
   | some gv=>simp only[lk];rw[if_neg e];exact ih
   | none=>exact ih
def AS.back(A:AS)(ks:List (Nat×Nat))(H:List (Nat×(Nat×V))):AS:=⟨A.t,news (nh ks) H ks++AV ks A.h⟩
theorem pr{α:Type}(t:Nat)(l1 l2:List (Nat×α)):lk t (l1++l2)=match lk t l1 with | some v=>some v | none=>lk t l2:=IU t l1 l2
def pf(B:AS)(ks:List (Nat×Nat)):List (Nat×(Nat×V))->Prop
 | []=>True
 | (k,(g,v))::r=>(match lk k ks with | some q=>(match lk q B.h with | some (g',v')=>(g',wk v' v)=(g,v) | none=>False) | none=>False)/\pf B ks r
theorem zE{B:AS}{ks:List (Nat×Nat)}:∀ {H:List (Nat×(Nat×V))} {k g:Nat} {v:V},pf B ks H->lk k H=some (g,v)->∃ q v',lk k ks=some q/\lk q B.h=some (g,v')/\wk v' v=v
 | [],_,_,_,_,h=>by simp[lk]at h
 | (k0,(g0,v0))::H,k,g,v,h,e=>by
   simp only[lk]at e;split at e;rename_i e';subst e';cases e;have h1:=h.1;split at h1;rename_i q hq;split at h1;rename_i g' v' hq';simp only[Zaq]at h1;exact⟨q,v',hq,by rw[hq',h1.1],h1.2⟩;exact h1.elim;exact h1.elim;exact zE h.2 e
theorem zT{α:Type}:∀ {l:List (Nat×α)} {k:Nat} {v:α},lk k l=some v->(k,v)∈l
 | [],_,_,h=>by simp[lk]at h
 | (k0,v0)::l,k,v,h=>by
   simp only[lk]at h;split at h;rename_i e;subst e;cases h;simp;exact List.mem_cons_of_mem _ (zT h)
theorem sC{α:Type}:∀ {l:List (Nat×α)} {k:Nat} {v:α},RC (l.map (·.1))=true->(k,v)∈l->lk k l=some v
 | (k0,v0)::l,k,v,h,hm=>by
   simp only[Zbe,RC,Zao,Bool.not_eq_true',Zbi,decide_eq_false_iff_not]at h;simp only[lk];rcases List.mem_cons.1 hm with e | hm;cases e;rw[if_pos rfl];have hne:k≠k0:=fun c=>h.1 (by rw[<- c];exact List.mem_map.2 ⟨_,hm,rfl⟩);rw[if_neg hne];exact sC h.2 hm
theorem tq{ks:List (Nat×Nat)}{k q:Nat}(h1:RC (ks.map (·.1))=true)(h2:RC (ks.map (·.2))=true):lk k ks=some q↔lk q (SZ ks)=some k:=by
 have e:(SZ ks).map (·.1)=ks.map (·.2):=by simp[SZ,List.map_map,Function.comp_def]
 constructor;intro h;refine sC (by rw[e];exact h2) ?_;exact List.mem_map.2 ⟨(k,q),zT h,rfl⟩;intro h;have hm:=zT h;simp only[SZ,List.mem_map,Zaq]at hm;obtain⟨⟨x,y⟩,hm,e1,e2⟩:=hm;simp only at e1 e2;subst e1 e2;exact sC h1 hm
open Classical in
theorem sy{o:Oper} {K:AS->Prop} {f:FuncId} {fx:Operand} {xs:Array Operand} {QM:Array TypeId} {first H6:Array Value} {args:List V} {H:List (Nat×(Nat×V))}
 {Q:V->List (Nat×(Nat×V))->Prop} (ks:List (Nat×Nat)) (ho:o.op=.call { callee:=.value fx,args:=xs,argTypes:=QM }) (hfx:A.ev fx=.lit (.func (.func f) first H6))
 (hd:dP N o.dst) (UJ:RC (ks.map (·.1))=true) (PR:RC (ks.map (·.2))=true) (hc:PF P f args H Q)
 (hargs:R1 (first.toList.map cV++(A.tk xs.toList).1++H6.toList.map cV) args=args) (hlen:args.length=(first.toList.map cV++(A.tk xs.toList).1++H6.toList.map cV).length)
 (Ul:pf (A.tk xs.toList).2 ks H)
 (hK:∀ r H',Q r H'->K (((A.tk xs.toList).2.back ks H').put o.dst (r.SO (nh ks)))):N' P N o A K:=by
 intro Pb Kb a w F Q' hs;have hfv:=dj hs hfx;unfold Oper.wp;have G8:(execOp a.eval o).run P w=.ok (.enter f (first++xs.map a.eval++H6)) w:=by
  simp only[execOp,ho,resolve,hfv,Deferred.ofValue,Za0,Za1,Zas,invoke];exact hc.1 _ w
 rw[G8,Oper.upon_enter];obtain⟨Fl,F2,k1,k2,k3,k4,k5,k6,k7,k8⟩:=hs.tk xs.toList
 let B:=(A.tk xs.toList).2
 have hle:(⟨B.t,AV ks B.h⟩:AS).le B:=⟨fun _=>.inr rfl,fun q=>by
  simp only[lx];split;exact .inr rfl;exact .inl rfl⟩
 let F3:r5->List Nat:=fun r=>match r with
  | .slot i=>F2 (.slot i)
  | .key q=>if (lk q (SZ ks)).isNone then F2 (.key q) else []
 have WZ:∀ r g,g∈F3 r->g∈F2 r:=fun r g hg=>by
  cases r with
  | slot i=>exact hg
  | key q=>simp only[F3]at hg;split at hg;exact hg;simp at hg
 have Ri:C3 N Pb Kb ⟨B.t,AV ks B.h⟩ a w F3:=by
  refine⟨k2.size,k2.defers,k2.slot,fun q g v hq=>?_,fun r r' hne g hg c=>k2.du r r' hne g (WZ r g hg) (WZ r' g c),fun r=>?_,fun r g hg=>k2.free r g (WZ r g hg),k2.sub,k2.bound⟩;simp only[lx]at hq;split at hq;rename_i hn;obtain⟨F',e,hA⟩:=k2.root q g v hq;exact⟨F',by simp only[F3];rw[if_pos hn];exact e,hA⟩;simp at hq;cases r with
  | slot i=>exact k2.nodup _
  | key q=>simp only[F3];split;exact k2.nodup _;exact Zba
 let Kc:Nat->Prop:=fun g=>Kb g\/∃ r,g∈F3 r
 let FL:=first.toList.map (fun _=>([]:List Nat))++Fl++H6.toList.map (fun _=>([]:List Nat))
 have hFl:Wf w Pb (first.toList.map cV++(A.tk xs.toList).1++H6.toList.map cV) (first.toList++xs.toList.map a.eval++H6.toList) FL:=
  uD (uD (vm _) k1) (vm _)
 have hFLg:∀ i g,g∈FL.getD i []->∃ j,FL.getD i []=Fl.getD j []/\i=first.toList.length+j:=by
  intro i g hg;simp only[FL,Zam,List.append_assoc]at hg ⊢;by_cases h1:i<first.toList.length
  rw[Za9 Zbz,List.getElem?_map]at hg;cases he:first.toList[i]? <;> rw[he]at hg <;> simp at hg
  have UZ:i=first.toList.length+(i-first.toList.length):=Zac
  rw[Za4 Zbz]at hg ⊢;simp only[Zay]at hg ⊢;by_cases h2:i-first.toList.length<Fl.length
  rw[Za9 h2];exact⟨_,rfl,UZ⟩;rw[Za4 Zac,List.getElem?_map]at hg;cases he:H6.toList[i-first.toList.length-Fl.length]? <;> rw[he]at hg <;> simp at hg
 let FC:r5->List Nat:=fun r=>match r with
  | .slot i=>FL.getD i []
  | .key k=>match lk k ks with
    | some q=>if lk k H=none then [] else F2 (.key q)
    | none=>[]
 have hFC:∀ r g,g∈FC r->(∃ i j,r=.slot i/\g∈Fl.getD j []/\i=first.toList.length+j)\/(∃ k q,r=.key k/\lk k ks=some q/\g∈F2 (.key q)):=by
  intro r g hg;cases r with
  | slot i=>
    obtain⟨j,e,hj⟩:=hFLg i g hg;exact .inl ⟨i,j,rfl,by rw[<- e];exact hg,hj⟩
  | key k=>
    simp only[FC]at hg;split at hg;rename_i q hq;split at hg;simp at hg;exact .inr ⟨k,q,rfl,hq,hg⟩;simp at hg
 have hF3q:∀ k q,lk k ks=some q->∀ r g,g∈F2 (.key q)->g ∉ F3 r:=by
  intro k q hq r g hg c;cases r with
  | slot i=>exact k2.du (.key q) (.slot i) Zad g hg c
  | key q'=>
    simp only[F3]at c;split at c;rename_i hn;have hne:(r5.key q)≠.key q':=fun e=>by
     cases e;rw[(tq UJ PR).1 hq]at hn;simp at hn
    exact k2.du _ _ hne g hg c;simp at c
 have WY:∀ r g,g∈FC r->¬ Kc g/\g<w.heap.size:=by
  intro r g hg;rcases hFC r g hg with ⟨i,j,_,h,_⟩ | ⟨k,q,_,hq,h⟩;refine⟨fun c=>?_,(k6 j g h).2⟩;rcases c with c | ⟨r',c⟩;exact(k6 j g h).1 c;exact k5 j r' g h (WZ r' g c);refine⟨fun c=>?_,(k2.free _ g h).2⟩;rcases c with c | ⟨r',c⟩;exact(k2.free _ g h).1 c;exact hF3q k q hq r' g h c
 have hi:Ini w Pb Kc args (first.toList++xs.toList.map a.eval++H6.toList) H FC:=by
  have hl:=EL hFl;have hFw:=Ip (us:=args) hFl;rw[hargs]at hFw;refine⟨by rw[hl.1,hlen],fun i v x hv hx=>FX hFw hv hx,fun k g v hkv=>?_,fun i hii=>?_,fun r r' hne g hg c=>?_,fun r=>?_,WY,fun g hg=>.inl (k2.sub g hg),fun g hg=>?_⟩;obtain⟨q,v',h1,h2,h3⟩:=zE Ul hkv;obtain⟨F',e,hA⟩:=k2.root q g v' h2;refine⟨F',?_,by have:=GZ v hA;rw[h3]at this;exact this⟩;simp only[FC,h1];rw[if_neg (by rw[hkv];simp)];exact e;simp only[FC];rw[Zam,List.getElem?_eq_none (by rw[hl.2,<- hlen];exact hii)];rfl;rcases hFC r g hg with ⟨i,j,e1,h,e1'⟩ | ⟨k,q,e1,hq,h⟩ <;> rcases hFC r' g c with ⟨i',j',e2,h',Zw⟩ | ⟨k',q',e2,hq',h'⟩;refine k4 j j' (fun e=>hne ?_) g h h';rw[e1,e2,e1',Zw,e];exact k5 j (.key q') g h h';exact k5 j' (.key q) g h' h;have hqq:q=q':=Classical.byContradiction fun hqq=>k2.du (.key q) (.key q') (fun e=>hqq (by cases e;rfl)) g h h';subst hqq;have:=(tq UJ PR).1 hq;rw[(tq UJ PR).1 hq']at this;cases this;exact hne (by rw[e1,e2]);cases r with
  | slot i=>
    by_cases he:FL.getD i []=[];simp only[FC];rw[he];exact Zba;obtain⟨g,hg⟩:=List.exists_mem_of_ne_nil _ he;obtain⟨j,e,_⟩:=hFLg i g hg;simp only[FC];rw[e];exact k3 j
  | key k=>
    simp only[FC];split;split;exact Zba;exact k2.nodup _;exact Zba
  rcases hg with h | ⟨r,h⟩;exact k2.bound g h;exact(Ri.free r g h).2
 have QB:=hc.2 w Pb Kc _ FC hi;have e:(first.toList++xs.toList.map a.eval++H6.toList).toArray=first++xs.map a.eval++H6:=by
  apply Array.ext';simp
 rw[e]at QB;refine QB.mono ?_;rintro e w' ⟨r,x,H',Pb',N1,F',rfl,hq,hf⟩;have UI:F7 Kb w w':=⟨hf.iq.os,hf.iq.tape,hf.iq.output,hf.iq.size,fun g hg=>hf.iq.block g (.inl hg),hf.iq.shape⟩
 let K2:Nat->Prop:=fun g=>Kb g\/(N1 g/\¬ ∃ r,g∈F3 r)
 have hP3:∀ r g,g∈F3 r->¬ Pb' g:=fun r g hg c=>by
  rcases hf.Vp g c with h | h;exact(Ri.free r g hg).1 (Ri.sub g h);exact h (.inr ⟨r,hg⟩)
 have ZY:∀ g,Pb' g->K2 g:=fun g hg=>by
  rcases hf.Vp g hg with h | h;exact .inl (Ri.sub g h);exact .inr ⟨hf.sub g hg,fun⟨r,c⟩=>h (.inr ⟨r,c⟩)⟩
 have Sy:∀ r g,g∈F' r->(¬ K2 g/\g<w'.heap.size)/\∀ r',g ∉ F3 r':=fun r g hg=>by
  have h:=hf.free r g hg;refine⟨⟨fun c=>?_,h.2⟩,fun r' c=>h.1 (hf.mK g (.inr ⟨r',c⟩))⟩;rcases c with c | c;exact h.1 (hf.mK g (.inl c));exact h.1 c.1
 let F4:r5->List Nat:=fun r=>match r with
  | .slot i=>F3 (.slot i)
  | .key q=>match lk q (SZ ks) with
    | some k=>if lk k H'=none then [] else F' (.key k)
    | none=>F3 (.key q)
 have hF4:∀ r g,g∈F4 r->g∈F3 r\/∃ q k,r=.key q/\lk q (SZ ks)=some k/\g∈F' (.key k):=fun r g hg=>by
  cases r with
  | slot i=>exact .inl hg
  | key q=>
    simp only[F4]at hg;split at hg;rename_i k hk;split at hg;simp at hg;exact .inr ⟨q,k,rfl,hk,hg⟩;exact .inl hg
 have hs4:C3 N Pb' K2 (B.back ks H') a w' F4:=by
  refine⟨Ri.size,Ri.defers,fun i=>?_,fun q g v hq=>?_,fun r r' hne g hg c=>?_,fun r=>?_,fun r g hg=>?_,ZY,fun g hg=>?_⟩;exact qI _ (Ri.slot i) (fun g hg=>hf.iq.block g (.inl (Ri.sub g hg))) (fun g hg=>hf.iq.block g (.inr ⟨.slot i,hg⟩)) hf.mP (fun g hg=>hP3 (.slot i) g hg);simp only[AS.back,pr,tP PR]at hq;cases ZX:lk q (SZ ks) with
  | some k=>
    rw[ZX]at hq;simp only[Option.bind_some]at hq;cases hkH:lk k H' with
    | some gv=>
      rw[hkH]at hq;simp only[Option.map_some,Zan,Zaq]at hq;obtain⟨g0,v0⟩:=gv;obtain⟨rfl,rfl⟩:=hq;obtain⟨F1,e1,cs,cells,hb,hr,QC⟩:=hf.root k g0 v0 hkH;exact⟨F1,by simp only[F4,ZX];rw[if_neg (by rw[hkH];simp)];exact e1,cs,cells,hb,KP _ _ hr,QC⟩
    | none=>
      rw[hkH]at hq;simp only[Option.map_none]at hq;rw[lx,ZX]at hq;simp at hq
  | none=>
    rw[ZX]at hq;simp only[Option.bind_none]at hq;obtain⟨F1,e1,hA⟩:=Ri.root q g v hq;refine⟨F1,by simp only[F4,ZX];exact e1,?_⟩;obtain⟨cs,cells,⟨el,fr,hb,hfr⟩,hr,QC⟩:=hA;have hin:∀ y,y∈g::F1->w'.heap[y]? =w.heap[y]? :=fun y hy=>hf.iq.block y (.inr ⟨.key q,by rw[e1];exact hy⟩);exact⟨cs,cells,⟨el,fr,(hin g Zad).trans hb,hfr⟩,jN _ hr (fun y hy=>hf.iq.block y (.inl (Ri.sub y hy))) (fun y hy=>hin y (by simp[hy])) hf.mP (fun y hy=>hP3 (.key q) y (by rw[e1];simp[hy])),QC⟩
  rcases hF4 r g hg with h | ⟨q,k,e1,h1,h2⟩ <;> rcases hF4 r' g c with h' | ⟨q',k',e2,Wo,h2'⟩;exact Ri.du r r' hne g h h';exact(Sy _ g h2').2 r h;exact(Sy _ g h2).2 r' h';have YL:k=k':=Classical.byContradiction fun YL=>hf.du (.key k) (.key k') (fun e=>YL (by cases e;rfl)) g h2 h2';subst YL;have e3:=(tq UJ PR).2 h1;rw[(tq UJ PR).2 Wo]at e3;cases e3;exact hne (by rw[e1,e2]);cases r with
  | slot i=>exact Ri.nodup (.slot i)
  | key q=>
    simp only[F4];split;split;exact Zba;exact hf.nodup _;exact Ri.nodup (.key q)
  rcases hF4 r g hg with h | ⟨q,k,_,_,h2⟩;have h3:=Ri.free r g h;refine⟨fun c=>?_,Nat.lt_of_lt_of_le h3.2 hf.iq.size⟩;rcases c with c | c;exact h3.1 c;exact c.2 ⟨r,h⟩;exact(Sy _ g h2).1;rcases hg with h | h;exact Nat.lt_of_lt_of_le (Ri.bound g h) hf.iq.size;exact hf.bound g h.1
 have VX:∀ A' a' F5,K A'->C3 N Pb' K2 A' a' w' F5->Nx N Pb Kb w K a' w':=fun A' a' F5 hk Yy=>
  ⟨A',Pb',K2,F5,hk,Yy,hf.mP,fun g hg=>.inl hg,fun g hg=>by
   rcases hf.Vp g hg with h | h;exact .inl h;exact .inr fun c=>h (.inl c),UI⟩
 cases Q4:o.dst with
 | none=>exact VX _ _ F4 (hK r H' hq) (by rw[Q4];exact hs4)
 | some d=>
   rw[Q4]at hd;refine VX _ _ (dr F4 (.slot d) (F' (.slot 0))) (hK r H' hq) ?_;rw[Q4];refine hs4.put hd (NH _ hf.val) (fun rt _ g hg c=>?_) (hf.nodup _) (fun g hg=>(Sy _ g hg).1);rcases hF4 rt g c with h | ⟨q,k,_,_,h2⟩;exact(Sy _ g hg).2 rt h;exact hf.du (.slot 0) (.key k) Zad g hg h2
end
section
variable {w w':World} {Pb Kb Pb':Nat->Prop} {N:Nat} {A A' A1 B:AS} {a:Act} {F:r5->List Nat} {P:Program} {ops:Array Oper}
theorem yR:∀ (vs:List V) {cs F} {j:Nat} {x:V},RL w Pb vs cs F->vs[j]? =some x->∃ cj Fj,R w Pb x cj Fj/\(∀ i u,cj[i]? =some u->cs[V.ns (vs.take j)+i]? =some u)/\
 ∀ x',R w Pb x' cj Fj->RL w Pb (vs.set j x') cs F
 | [],_,_,_,_,_,h=>by simp at h
 | v::vs,cs,F,0,x,h,hj=>by
   obtain⟨c1,c2,F1,F2,rfl,rfl,h1,h2⟩:=h;simp at hj;subst hj;exact⟨c1,F1,h1,fun i u hu=>by simp only[List.take_zero,V.ns,Zaw];rw[Za9 (Za3.1 hu).1];exact hu,fun x' hx=>⟨c1,c2,F1,F2,rfl,rfl,hx,h2⟩⟩
 | v::vs,cs,F,j+1,x,h,hj=>by
   obtain⟨c1,c2,F1,F2,rfl,rfl,h1,h2⟩:=h;obtain⟨cj,Fj,k1,k2,k3⟩:=yR vs h2 Zbp;refine⟨cj,Fj,k1,fun i u hu=>?_,fun x' hx=>⟨c1,c2,F1,F2,rfl,rfl,h1,k3 x' hx⟩⟩;have:=k2 i u hu;simp only[List.take_succ_cons,V.ns];rw[<- ft v h1,Zbj,Za4 Zac];rw[show c1.length+(V.ns (vs.take j)+i)-c1.length=V.ns (vs.take j)+i from Zac];exact this
theorem xq:∀ (p:List Nat) {v u:V} {g o g' o':Nat} {cs:List Value} {F:List Nat},R w Pb v cs F->V.at g o v p=some (g',o',u)->
 ∃ cu Fu,R w Pb u cu Fu/\∀ u',u'.n=u.n->R w Pb u' cu Fu->R w Pb (v.set p u') cs F/\(v.set p u').n=v.n
 | [],v,u,g,o,g',o',cs,F,h,e=>by
   simp only[V.at,Zan,Zaq]at e;obtain⟨rfl,rfl,rfl⟩:=e;exact⟨cs,F,h,fun u' hn hu=>⟨hu,hn⟩⟩
 | j::p,v,u,g,o,g',o',cs,F,h,e=>by
   simp only[V.at]at e;split at e;rename_i vs;split at e;rename_i x hx;simp only[R]at h;obtain⟨cj,Fj,k1,k2,k3⟩:=yR vs h hx;obtain⟨cu,Fu,m1,m2⟩:=xq p k1 e;refine⟨cu,Fu,m1,fun u' hn hu=>?_⟩;obtain⟨q1,q2⟩:=m2 u' hn hu;have h3:=k3 _ q1;refine⟨by simp only[V.set,hx,R];exact h3,?_⟩;simp only[V.set,hx,V.n];rw[<- mi _ h3,<- mi _ h];simp at e;rename_i sz xs g1 o1 c1;split at e;rename_i x hx;rcases h with ⟨_,rfl,_⟩ | ⟨h1,h2,h3,h4,h5,h6,flat,F',cells,h7,hr,hb,hsz,hc⟩;simp at hx;obtain⟨cj,Fj,k1,k2,k3⟩:=yR xs hr hx;obtain⟨cu,Fu,m1,m2⟩:=xq p k1 e;refine⟨cu,Fu,m1,fun u' hn hu=>?_⟩;obtain⟨q1,q2⟩:=m2 u' hn hu;refine⟨?_,by simp only[V.set,hx];rfl⟩;simp only[V.set,hx];refine .inr ⟨h1,h2,by simpa using h3,by simpa using h4,fun y hy=>?_,h6,flat,F',cells,h7,k3 _ q1,hb,hsz,hc⟩;rcases List.mem_or_eq_of_mem_set hy with h | h;exact h5 y h;rw[h,q2];exact h5 x (Za7 hx);simp at e;simp at e
theorem C3.xx(hs:C3 N Pb Kb A a w F){r:r5}{p:List Nat}{g o:Nat}{u:V}(G5:A.at r p=some (g,o,u)):
 ∃ cu Fu,R w Pb u cu Fu/\∀ u',u'.n=u.n->R w Pb u' cu Fu->C3 N Pb Kb (A.setAt r p u') a w F:=by
 cases r with
 | key k=>
   simp only[AS.at]at G5;split at G5;rename_i g0 t hk;obtain⟨F0,hF,cs,cells,hb,hr,hc⟩:=hs.root k g0 t hk;obtain⟨cu,Fu,h1,h2⟩:=xq p hr G5;refine⟨cu,Fu,h1,fun u' hn hu=>⟨hs.size,hs.defers,fun i=>?_,fun k' g1 v1 Sv=>?_,hs.du,hs.nodup,hs.free,hs.sub,hs.bound⟩⟩;have:(A.setAt (.key k) p u').get i=A.get i:=by simp only[AS.setAt,hk];rfl
   rw[this];exact hs.slot i;simp only[AS.setAt,hk,lk]at Sv;split at Sv;rename_i e;subst e;simp only[Zan,Zaq]at Sv;obtain⟨rfl,rfl⟩:=Sv;exact⟨F0,hF,cs,cells,hb,(h2 u' hn hu).1,hc⟩;exact hs.root k' g1 v1 Sv;simp at G5
 | slot i=>
   simp only[AS.at]at G5;split at G5;rename_i sz xs g0 o0 c0 j p' hg;have hr:=hs.slot i;rw[hg]at hr;have hr:R w Pb (.own sz xs g0 o0 c0) [a.tmps.getD i undef] (F (.slot i)):=hr;obtain⟨cu,Fu,h1,h2⟩:=xq (j::p') hr G5;refine⟨cu,Fu,h1,fun u' hn hu=>⟨hs.size,hs.defers,fun t=>?_,hs.root,hs.du,hs.nodup,hs.free,hs.sub,hs.bound⟩⟩;by_cases e:t=i;subst e;simp only[AS.setAt,AS.get,lk,if_true,Option.getD_some];have h3:=(h2 u' hn hu).1;have e2:(A.get t).set (j::p') u'=(V.own sz xs g0 o0 c0).set (j::p') u':=by rw[hg]
   have e3:∃ ys,(V.own sz xs g0 o0 c0).set (j::p') u'=.own sz ys g0 o0 c0:=by
    simp only[V.set];split;exact⟨_,rfl⟩;exact⟨_,rfl⟩
   obtain⟨ys,e3⟩:=e3;show RV w Pb ((A.get t).set (j::p') u') _ _;rw[e2,e3];rw[e3]at h3;exact h3;simp only[AS.setAt,AS.get,lk];rw[if_neg e];exact hs.slot t;simp at G5
theorem Mx{K:AS->Prop}(t sz:Nat)(ht:t<N)(hg:A.get t=.sl true [])(h:K (A.put (some t) (.own sz [] 0 0 0))):Hx N A K:=
 Hx.simple h fun Pb Kb a w F hs=>by
  have hr:=hs.slot t;rw[hg]at hr;obtain⟨hF,B,cc,hv,_,TL,_⟩:=hr;have TQ:cc=0:=TL rfl;subst TQ;exact⟨_,hs.DK ht (.inl ⟨rfl,rfl,hF,B,hv⟩)⟩
theorem Di{K:AS->Prop}{r:r5}{p:List Nat}{g o sz:Nat}(G5:A.at r p=some (g,o,.sl true []))(h:K (A.setAt r p (.own sz [] 0 0 0))):Hx N A K:=
 Hx.simple h fun Pb Kb a w F hs=>by
  obtain⟨cu,Fu,hr,hk⟩:=hs.xx G5;obtain⟨hF,B,cc,hv,_,TL,_⟩:=hr;have TQ:cc=0:=TL rfl;subst TQ;exact⟨_,hk (.own sz [] 0 0 0) rfl (.inl ⟨rfl,rfl,hF,B,hv⟩)⟩
theorem EV{K:AS->Prop}{t sz:Nat}{xs:List V}(ht:t<N)(hg:A.get t=.ow sz xs)(h:∀ g o c,K (A.put (some t) (.own sz xs g o c))):Hx N A K:=fun Pb Kb a w F hs=>by
 have hr:=hs.slot t;rw[hg]at hr;have hr:R w Pb (.ow sz xs) [a.tmps.getD t undef] (F (.slot t)):=hr;obtain⟨g,o,c,hr⟩:=Jx.1 hr;exact⟨_,Pb,Kb,_,h g o c,hs.DK ht hr,fun _ h=>h,fun _ h=>h,fun _ h=>.inl h⟩
theorem vC{K:AS->Prop}{r:r5}{p:List Nat}{g o sz:Nat}{xs:List V}(G5:A.at r p=some (g,o,.ow sz xs))(h:∀ g o c,K (A.setAt r p (.own sz xs g o c))):Hx N A K:=fun Pb Kb a w F hs=>by
 obtain⟨cu,Fu,h1,h2⟩:=hs.xx G5;obtain⟨g,o,c,hr⟩:=Jx.1 h1;exact⟨_,Pb,Kb,_,h g o c,h2 _ rfl hr,fun _ h=>h,fun _ h=>h,fun _ h=>.inl h⟩
theorem HH{K:AS->Prop}{r:r5}{p:List Nat}{g o:Nat}{u:V}(u':V)(G5:A.at r p=some (g,o,u))(hn:(wk u u').n=u.n)(h:K (A.setAt r p (wk u u'))):Hx N A K:=fun Pb Kb a w F hs=>by
 obtain⟨cu,Fu,h1,h2⟩:=hs.xx G5;exact⟨_,Pb,Kb,_,h,h2 _ hn (uj u u' h1),fun _ h=>h,fun _ h=>h,fun _ h=>.inl h⟩
theorem OB{K:AS->Prop}{t:Nat}(u:V)(ht:t<N)(h:K (A.put (some t) (wk (A.get t) u))):Hx N A K:=
 Hx.simple h fun _ _ _ _ _ hs=>⟨_,hs.DK ht (CB u (hs.slot t))⟩
theorem Kg{K:AS->Prop} {t i sz n g o c:Nat} {xs:List V} (ht:t<N) (hi:i<N) (UG:t≠i) (h1:A.get t=.hd (.slot i) [] sz g o 0 n c) (h2:A.get i=.own sz xs g o c) (hn:n=xs.length)
 (h:K ((A.put (some i) .c9).put (some t) (.own sz xs g o c))):Hx N A K:=
 Hx.simple h fun _ _ _ _ _ hs=>hs.iC ht hi UG h1 h2 hn
theorem IG{K:AS->Prop}{t:Nat}(ht:t<N)(ho:(A.get t).eE=true)(h:K (A.put (some t) (A.get t).er)):Hx N A K:=fun Pb Kb a w F hs=>by
 obtain⟨Pb',N1,F',h1,h2,h3,h4⟩:=hs.freeze ho ht;exact⟨_,Pb',N1,F',h,h1,h2,h3,h4⟩
theorem C3.eqv(hs:C3 N Pb Kb A a w F)(h:M1 A B):C3 N Pb Kb B a w F:=
 ⟨hs.size,hs.defers,fun i=>by rw[<- h.1 i];exact hs.slot i,fun k g v hk=>hs.root k g v (by rw[h.2 k];exact hk),hs.du,hs.nodup,hs.free,hs.sub,hs.bound⟩
theorem MK{K:AS->Prop}{t:Nat}(v:V)(e:A.get t=v)(h:K (A.put (some t) v)):Hx N A K:=
 Hx.simple h fun _ _ _ _ _ hs=>⟨_,hs.eqv ⟨fun i=>by
  rw[AS.bg];split;rename_i h;rw[h,e];rfl,fun _=>rfl⟩⟩
theorem MP{K:AS->Prop}{k g:Nat}(v:V)(e:lk k A.h=some (g,v))(h:K ⟨A.t,(k,(g,v))::A.h⟩):Hx N A K:=
 Hx.simple h fun _ _ _ _ _ hs=>⟨_,hs.eqv ⟨fun _=>rfl,fun i=>by
  simp only[lk];split;rename_i h;rw[h,e];rfl⟩⟩
theorem OX{K:AS->Prop}{k k' g:Nat}{v:V}(e:lk k A.h=some (g,v))(hn:lk k' A.h=none)(h:K ⟨A.t,(k',(g,v))::A.h.filter fun p=>p.1 != k⟩):Hx N A K:=
 Hx.simple h fun Pb Kb a w F hs=>by
  have hne:k'≠k:=fun c=>by rw[c,e]at hn;cases hn
  have hf:∀ (l:List (Nat×(Nat×V))) q,lk q (l.filter fun p=>p.1 != k)=if q=k then none else lk q l:=by
   intro l;induction l with
   | nil=>intro q;simp[lk]
   | cons x l ih=>
     intro q;obtain⟨i,u⟩:=x;simp only[List.filter_cons];by_cases hi:i=k;subst hi;simp only[bne_self_eq_false,Bool.false_eq_true,if_false,ih q,lk];by_cases c:q=i;rw[if_pos c,if_pos c];rw[if_neg c,if_neg c,if_neg c];rw[if_pos Zbn];simp only[lk,ih q];by_cases c:q=i;subst c;rw[if_pos rfl,if_pos rfl,if_neg hi];rw[if_neg c,if_neg c]
  let σ:r5->r5:=fun r=>if r=.key k' then .key k else if r=.key k then .key k' else r
  have hσ:∀ r r',σ r=σ r'->r=r':=fun r r' h=>by
   simp only[σ]at h;repeat' split at h
   all_goals simp_all
  refine⟨fun r=>if r=.key k then [] else F (σ r),hs.size,hs.defers,fun i=>?_,fun q g0 v0 hq=>?_,fun r r' hne' y hy=>?_,fun r=>?_,fun r y hy=>?_,hs.sub,hs.bound⟩;have:F (σ (.slot i))=F (.slot i):=by simp[σ]
  simp only[reduceCtorEq,if_false,this];exact hs.slot i;simp only[lk,hf]at hq;split at hq;rename_i c;subst c;simp only[Zan,Zaq]at hq;obtain⟨rfl,rfl⟩:=hq;obtain⟨F',h1,h2⟩:=hs.root k g v e;refine⟨F',?_,h2⟩;rw[if_neg (by simpa using hne)];simp only[σ,if_true];exact h1;rename_i c;split at hq;simp at hq;rename_i c2;obtain⟨F',h1,h2⟩:=hs.root q g0 v0 hq;refine⟨F',?_,h2⟩;rw[if_neg (by simpa using c2)];have:σ (.key q)=.key q:=by simp only[σ];rw[if_neg (by simpa using c),if_neg (by simpa using c2)]
  rw[this];exact h1;split at hy;simp at hy;split;simp;exact hs.du _ _ (fun c=>hne' (hσ _ _ c)) y hy;split;exact Zba;exact hs.nodup _;split at hy;simp at hy;exact hs.free _ y hy
theorem Lq{K:AS->Prop}(h1:Vr A B.t)(h2:UT A B.h)(h:K B):Hx N A K:=Hx.simple h fun _ _ _ _ _ hs=>hs.leW h1 h2
theorem GJ{o:Oper}{K:AS->Prop}{x:Operand}(ho:o.op=.move x)(hd:dP N o.dst)(hK:K ((A.drop x).put o.dst (A.ev x))):N' P N o A K:=by
 intro Pb Kb a w F Q hs;obtain⟨Fx,F',hr,H4,hnd,C8,hfr,_⟩:=hs.take x;unfold Oper.wp;have:(execOp a.eval o).run P w=.ok (.value (a.eval x)) w:=by simp only[execOp,ho];rfl
 rw[this,Oper.upon_value];cases Q4:o.dst with
 | none=>exact⟨_,Pb,Kb,F',hK,by rw[Q4];exact H4,fun _ h=>h,fun _ h=>h,fun _ h=>.inl h,F7.refl _ _⟩
 | some d=>
   rw[Q4]at hd hK;exact⟨_,Pb,Kb,_,hK,H4.put hd hr (fun r _ g hg=>C8 r g hg) hnd hfr,fun _ h=>h,fun _ h=>h,fun _ h=>.inl h,F7.refl _ _⟩
theorem AB{o:Oper} {K:AS->Prop} {d T:Nat} {x:Operand} {r:r5} {p:List Nat} {g g':Nat} {i:TI} {u:V} (ho:o.op=.load T x) (hd:o.dst=some d) (hN:d<N) (hi:ti P T=some i)
 (hx:A.ev x=.ptr r p g g') (G5:A.at r p=some (g,g',u)) (hn:u.n=i.sz) (ha:i.d.agg=u.isAgg) (hK:K ((A.setAt r p u.kill).put (some d) u)):N' P N o A K:=by
 intro Pb Kb a w F Q hs;obtain⟨_,XI⟩:=fv hs x;rw[hx]at XI;have hp:a.eval x=.pointer (some ⟨g,g',none⟩):=by have:=XI.2;simpa using this
 obtain⟨Fr,Fu,H4,⟨cs,cells,hb,QQ,hc⟩,hnd,C8,hfr⟩:=hs.split G5;obtain⟨y,hy,N5⟩:=qE (w:=w) hi QQ hn ha (g:=g) (o:=g') (fun j u hu=>by rw[fP hb];exact hc j u hu);unfold Oper.wp;have:(execOp a.eval o).run P w=.ok (.value y) w:=by
  simp only[execOp,ho,Instr.loadAt,hp,Instr.sureAddr,Za0,Za1,Zas,hy]
 rw[this,Oper.upon_value,hd];exact⟨_,Pb,Kb,_,hK,H4.put hN N5 (fun r _ g hg=>C8 r g hg) hnd hfr,fun _ h=>h,fun _ h=>h,fun _ h=>.inl h,F7.refl _ _⟩
def UO(A:AS)(s:Operand)(sz:Nat):Option (Prop×AS×List V):=
 match s with
 | .const (.slice none 0 0)=>some (True,A,[])
 | .tmp t=>match A.get t with
   | .sl true []=>some (True,A,[])
   | .own Qw xs _ _ _=>some (Qw=sz,A.put (some t) .c9,xs)
   | .hd (.slot i) [] Qw g o 0 n c=>match A.get i with
     | .own RB xs g2 o2 c2=>some ((Qw,RB,g2,o2,c2,n)=(sz,sz,g,o,c,xs.length),A.put (some i) .c9,xs)
     | _=>none
   | .hd (.key k) p Qw g o 0 n c=>match A.at (.key k) p with
     | some (_,_,.own RB xs g2 o2 c2)=>some ((Qw,RB,g2,o2,c2,n)=(sz,sz,g,o,c,xs.length),A.setAt (.key k) p .c9,xs)
     | _=>none
   | _=>none
 | _=>none
theorem IZ{s:Operand}{sz:Nat}{C:Prop}{xs:List V}(h:UO A s sz=some (C,A1,xs))(hC:C)(hs:C3 N Pb Kb A a w F):
 ∃ Fx F' g o c,C3 N Pb Kb A1 a w F'/\R w Pb (.own sz xs g o c) [a.eval s] Fx/\Fx.Nodup/\(∀ r g,g∈Fx->g ∉ F' r)/\(∀ g,g∈Fx->¬ Kb g/\g<w.heap.size):=by
 have Xb:∀ {t:Nat} {r:r5} {p:List Nat} {sz g o n c:Nat} {xs:List V} {cs:List Value} {Fx:List Nat},A.get t=.hd r p sz g o 0 n c->n=xs.length->R w Pb (.own sz xs g o c) cs Fx->R w Pb (.own sz xs g o c) [a.eval (.tmp t)] Fx:=by
  intro t r p sz g o n c xs cs Fx hg hn hr;subst hn;have hh:=hs.slot t;rw[hg]at hh;obtain⟨_,hle,B,hv,hB⟩:=hh;have hv:a.eval (.tmp t)=.slice B xs.length c:=(List.cons.inj hv).1;rw[hv];rcases hr with ⟨rfl,rfl,rfl,A0,_⟩ | ⟨h1,h2,h3,h4,h5⟩;exact .inl ⟨rfl,rfl,rfl,B,rfl⟩;have:=hB h1;rw[Nat.zero_mul,Nat.add_zero]at this;subst this;exact .inr ⟨h1,h2,h3,rfl,h5⟩
 unfold UO at h;split at h;simp only[Zan,Zaq]at h;obtain⟨_,rfl,rfl⟩:=h;exact⟨[],F,0,0,0,hs,.inl ⟨rfl,rfl,rfl,none,rfl⟩,Zba,Zad,Zad⟩
 · rename_i t;split at h;rename_i hg;simp only[Zan,Zaq]at h;obtain⟨_,rfl,rfl⟩:=h;have Qk:=hs.slot t;rw[hg]at Qk;obtain⟨_,B,c,hv,_,TL,_⟩:=Qk;have TQ:c=0:=TL rfl;subst TQ;exact⟨[],F,0,0,0,hs,.inl ⟨rfl,rfl,rfl,B,hv⟩,Zba,Zad,Zad⟩;rename_i Qw xs' g o c hg;simp only[Zan,Zaq]at h;obtain⟨rfl,rfl,rfl⟩:=h;subst hC;obtain⟨Fx,F',hr,H4,hnd,C8,hfr,_⟩:=hs.take (.tmp t);rw[ui hg]at H4;have hr:RV w Pb (A.get t) (a.eval (.tmp t)) Fx:=hr;rw[hg]at hr;exact⟨Fx,F',g,o,c,H4,hr,hnd,C8,hfr⟩
   · rename_i i Qw g o n c hg;split at h
     case h_2=>simp at h
     rename_i RB xs' g2 o2 c2 hi;simp only[Zan,Zaq]at h;obtain⟨rfl,rfl,rfl⟩:=h;obtain⟨rfl,rfl,rfl,rfl,rfl,hn⟩:=hC;obtain⟨Fx,F',hr,H4,hnd,C8,hfr,_⟩:=hs.take (.tmp i);rw[ui hi]at H4;have hr:RV w Pb (A.get i) (a.eval (.tmp i)) Fx:=hr;rw[hi]at hr;exact⟨Fx,F',_,_,_,H4,Xb hg hn (cs:=[a.eval (.tmp i)]) hr,hnd,C8,hfr⟩
   · rename_i k p Qw g o n c hg;split at h
     case h_2=>simp at h
     rename_i g0 o0 RB xs' g2 o2 c2 G5;simp only[Zan,Zaq]at h;obtain⟨rfl,rfl,rfl⟩:=h;obtain⟨rfl,rfl,rfl,rfl,rfl,hn⟩:=hC;obtain⟨Fr,Fu,H4,⟨cs,cells,hb,QQ,hc⟩,hnd,C8,hfr⟩:=hs.split G5;exact⟨Fu,_,_,_,_,H4,Xb hg hn QQ,hnd,C8,hfr⟩
   simp at h
 simp at h
theorem qO{o:Oper} {K:AS->Prop} {d T T2 e e2:Nat} {s x:Operand} {t:TI} {C Cx:Prop} {xs ys:List V} (ho:o.op=.call { callee:=.builtin .append,args:= #[s,x],argTypes:= #[T,T2] }) (VE:o.type=T)
 (hd:o.dst=some d) (hN:d<N) (hT:tD P T=some (.sl e)) (Ut:tD P T2=some (.sl e2)) (ht:ti P e=some t) (hz:∃ inf z,P.info? e=some inf/\inf.zero=some z/\z.cells.size=t.sz) (hsz:0<t.sz) (Wn:0<t.QD)
 (hb:UO A s t.sz=some (C,A1,xs)) (hC:C) (hx:Re A x=some (Cx,ys)) (hCx:Cx) (YE:V.aK ys=false) (V8:aX t.sz ys)
 (hbig:(xs.length+ys.length)*t.QD<=140737488355328)
 (hK:∀ g o c,K (A1.put (some d) (.own t.sz (xs++ys) g o c))):N' P N o A K:=by
 intro Pb Kb a w F Q hs;obtain⟨B2,c2,L8,SR,Q9,TM,hl2⟩:=qT (P:=P) hs hx hCx V8 YE;obtain⟨Fx,F',g0,o0,c0,H4,hr,hnd,C8,hfr⟩:=IZ hb hC hs;obtain⟨v,w',F2,g',o',c',G8,QA,Q9,Qq,TO,VV,PR⟩:=xY hT Ut ht hz hsz Wn H4 hr C8 hfr (Fy:=[]) (by simpa using hnd) Zad Zad SR Q9 TM hl2 V8 hbig;have RD:(execOp a.eval o).run P w=.ok (.value v) w':=by
  simp only[execOp,ho,resolve,invoke,builtin,Za0,Za1,Zas,VE];have e:(#[s,x].map a.eval)= #[a.eval s,a.eval x]:=Zad;rw[e,G8];rfl
 unfold Oper.wp;rw[RD,Oper.upon_value,hd];exact⟨_,Pb,Kb,_,hK g' o' c',QA.put hN Q9 (fun r _ g hg=>TO r g hg) Qq VV,fun _ h=>h,fun _ h=>h,fun _ h=>.inl h,PR⟩
def Y4(A:AS)(s:Operand)(sz:Nat):Option (Prop×List V):=
 match s with
 | .tmp t=>match A.get t with
   | .sl true (x::xs)=>some (aX sz (x::xs),x::xs)
   | _=>none
 | _=>none
theorem Dz{o:Oper} {K:AS->Prop} {d T T2 e e2:Nat} {s x:Operand} {t:TI} {C Cx:Prop} {xs ys:List V} (ho:o.op=.call { callee:=.builtin .append,args:= #[s,x],argTypes:= #[T,T2] }) (VE:o.type=T)
 (hd:o.dst=some d) (hN:d<N) (hT:tD P T=some (.sl e)) (Ut:tD P T2=some (.sl e2)) (ht:ti P e=some t) (hz:∃ inf z,P.info? e=some inf/\inf.zero=some z/\z.cells.size=t.sz) (hsz:0<t.sz) (Wn:0<t.QD)
 (hb:Y4 A s t.sz=some (C,xs)) (hC:C) (Tv:0<ys.length) (hx:Re A x=some (Cx,ys)) (hCx:Cx) (YE:V.aK ys=false) (V8:aX t.sz ys)
 (hbig:(xs.length+ys.length)*t.QD<=140737488355328)
 (hK:∀ g o c,K (A.put (some d) (.own t.sz (xs++ys) g o c))):N' P N o A K:=by
 intro Pb Kb a w F Q hs;obtain⟨B2,c2,L8,SR,Q9,TM,hl2⟩:=qT (P:=P) hs hx hCx V8 YE;have hr:R w Pb (.sl true xs) [a.eval s] []/\aX t.sz xs:=by
  unfold Y4 at hb;split at hb;rename_i q;split at hb;rename_i x' xs' hg;simp only[Zan,Zaq]at hb;obtain⟨rfl,rfl⟩:=hb;have Qk:=hs.slot q;rw[hg]at Qk;have hF:F (.slot q)=[]:=Qk.1;rw[hF]at Qk;exact⟨Qk,hC⟩;simp at hb;simp at hb
 obtain⟨v,w',F2,g',o',c',G8,QA,Q9,Qq,TO,VV,PR⟩:=Ez hT Ut ht hz hsz Wn hs hr.1 hr.2 Tv SR Q9 TM hl2 V8 hbig;have RD:(execOp a.eval o).run P w=.ok (.value v) w':=by
  simp only[execOp,ho,resolve,invoke,builtin,Za0,Za1,Zas,VE];have e:(#[s,x].map a.eval)= #[a.eval s,a.eval x]:=Zad;rw[e,G8];rfl
 unfold Oper.wp;rw[RD,Oper.upon_value,hd];exact⟨_,Pb,Kb,_,hK g' o' c',QA.put hN Q9 (fun r _ g hg=>TO r g hg) Qq VV,fun _ h=>h,fun _ h=>h,fun _ h=>.inl h,PR⟩
end
mutual
def V.plain:V->Bool
 | .lit _=>true
 | .agg vs=>V.qS vs
 | .tup vs=>V.qS vs
 | _=>false
def V.qS:List V->Bool
 | []=>true
 | v::vs=>v.plain&&V.qS vs
end
def vd(A:AS):List Operand->Prop×List V
 | []=>(True,[])
 | x::xs=>match vd A xs with
   | (C,vs)=>match A.ev x with
     | .hd .. =>match Re A x with
       | some (Cx,ys)=>(Cx/\C,.sl false ys::vs)
       | none=>(C,A.cp x::vs)
     | _=>(C,A.cp x::vs)
section
variable {w w':World} {Pb Kb Pb':Nat->Prop} {N:Nat} {A A' B:AS} {a:Act} {F:r5->List Nat} {P:Program} {ops:Array Oper}
mutual
theorem AT:∀ (v:V) {cs F},v.plain=true->R w Pb v cs F->R w' Pb' v cs []/\F=[]
 | .lit x,cs,F,_,h=>⟨⟨h.1,h.2.1,rfl⟩,h.2.2⟩
 | .agg vs,cs,F,hp,h=>by simp only[R]at h ⊢;simp only[V.plain]at hp;exact vv vs hp h
 | .tup _,_,_,_,h=>by simp[R]at h
 | .gv _ _,_,_,hp,_=>by simp[V.plain]at hp
 | .sl ..,_,_,hp,_=>by simp[V.plain]at hp
 | .own ..,_,_,hp,_=>by simp[V.plain]at hp
 | .ow ..,_,_,hp,_=>by simp[V.plain]at hp
 | .om ..,_,_,hp,_=>by simp[V.plain]at hp
 | .mp ..,_,_,hp,_=>by simp[V.plain]at hp
 | .hd ..,_,_,hp,_=>by simp[V.plain]at hp
 | .ptr ..,_,_,hp,_=>by simp[V.plain]at hp
 | .ep _,_,_,hp,_=>by simp[V.plain]at hp
 | .c9,_,_,hp,_=>by simp[V.plain]at hp
theorem vv:∀ (vs:List V) {cs F},V.qS vs=true->RL w Pb vs cs F->RL w' Pb' vs cs []/\F=[]
 | [],cs,F,_,h=>⟨⟨h.1,rfl⟩,h.2⟩
 | v::vs,cs,F,hp,h=>by
   simp only[V.qS,Zao]at hp;obtain⟨c1,c2,F1,F2,h1,h2,h3,h4⟩:=h;have k1:=AT v hp.1 h3;have k2:=vv vs hp.2 h4;exact⟨⟨c1,c2,[],[],h1,rfl,k1.1,k2.1⟩,by rw[h2,k1.2,k2.2];rfl⟩
end
theorem BP:∀ (vs:List V) {xs F},V.qS vs=true->RVs w Pb vs xs F->RVs w' Pb' vs xs []/\F=[]
 | [],xs,F,_,h=>⟨⟨h.1,rfl⟩,h.2⟩
 | v::vs,xs,F,hp,h=>by
   simp only[V.qS,Zao]at hp;obtain⟨x,xs',F1,F2,h1,h2,h3,h4⟩:=h;have k2:=BP vs hp.2 h4;subst h1 h2;cases v with
   | agg us=>
     obtain⟨cs,e,h3⟩:=h3;have k1:=vv (w':=w') (Pb':=Pb') us (by simpa[V.plain] using hp.1) h3;exact⟨⟨x,xs',[],[],rfl,rfl,⟨cs,e,k1.1⟩,k2.1⟩,by rw[k1.2,k2.2];rfl⟩
   | lit y=>have k1:=AT (w':=w') (Pb':=Pb') (.lit y) hp.1 h3;exact⟨⟨x,xs',[],[],rfl,rfl,k1.1,k2.1⟩,by rw[k1.2,k2.2];rfl⟩
   | tup us=>exact absurd h3 (by simp[R])
   | _=>simp[V.plain]at hp
theorem KE(v:V){x F}(hp:v.plain=true)(h:RV w Pb v x F):RV w' Pb' v x []/\F=[]:=by
 cases v with
 | tup vs=>obtain⟨xs,e,h⟩:=h;have:=BP (w':=w') (Pb':=Pb') vs (by simpa[V.plain] using hp) h;exact⟨⟨xs,e,this.1⟩,this.2⟩
 | agg us=>obtain⟨cs,e,h⟩:=h;have:=vv (w':=w') (Pb':=Pb') us (by simpa[V.plain] using hp) h;exact⟨⟨cs,e,this.1⟩,this.2⟩
 | lit y=>exact AT (w:=w) (Pb:=Pb) (w':=w') (Pb':=Pb') (.lit y) hp h
 | _=>simp[V.plain]at hp
theorem OT{Fo:List Nat} {RB g2 o2 c2 lo n c:Nat} {xs:List V} {W1:List Value} (hr:R w Pb (.own RB xs g2 o2 c2) W1 Fo) (hle:n<=c) {B:Option Addr} (hB:0<c->B=some ⟨g2,o2+lo*RB,none⟩) (hn:lo+n<=xs.length) (ho:V.aK xs=false)
 (k1:∀ g,Pb g->Pb' g) (k2:∀ g,g<w.heap.size->Pb' g):R w Pb' (.sl false ((xs.drop lo).take n)) [.slice B n c] []:=by
 have hlen:((xs.drop lo).take n).length=n:=Zal;refine⟨rfl,B,c,by rw[hlen],by rw[hlen];exact hle,Zad,?_⟩;by_cases hn0:n=0;subst hn0;exact .inl Zad;right;rcases hr with ⟨_,rfl,_⟩ | ⟨h1,h2,h3,hx,hN,_,flat,F',cells,rfl,hr,hb,hsz,hc⟩;simp at hn;omega;have hF:=jD xs ho hr;subst hF;obtain⟨c1,Um,R4⟩:=tE xs lo hr;obtain⟨c3,Zk,hc3⟩:=tB _ n Um;refine⟨g2,o2+lo*RB,RB,c3,hB Zac,k2 g2 (by obtain⟨e,fr,hb,_⟩:=hb;exact(Zbh.1 hb).1),h2,fun x hx=>hN x (List.mem_of_mem_drop (List.mem_of_mem_take hx)),gB _ Zk (fun _ _=>rfl) Zad k1 Zad,fun j u hu=>?_⟩;rw[fP hb];have:=R4 j u (hc3 j u hu);rw[fL xs lo hN Zac]at this;have:=hc _ _ this;simpa[Zbj] using this
theorem LZ(hs:C3 N Pb Kb A a w F){x:Operand}{C:Prop}{ys:List V}{r:r5}{p:List Nat}{sz g o lo n c:Nat}(he:A.ev x=.hd r p sz g o lo n c)(h:Re A x=some (C,ys))(hC:C):R w (fun g=>g<w.heap.size) (.sl false ys) [a.eval x] []:=by
 obtain⟨Fx,hr⟩:=fv hs x;rw[he]at hr;obtain⟨_,hle,B,hv,hB⟩:=hr;have hv:a.eval x=.slice B n c:=(List.cons.inj hv).1;have key:∀ u Fo W1,R w Pb u W1 Fo->jc lo n sz g o u=some (C,ys)->R w (fun g=>g<w.heap.size) (.sl false ys) [a.eval x] []:=by
  intro u Fo W1 QQ hu;unfold jc at hu;split at hu;rename_i RB xs g2 o2 c2;simp only[Zan,Zaq]at hu;obtain⟨rfl,rfl⟩:=hu;obtain⟨⟨rfl,rfl,rfl⟩,hln,XJ,_⟩:=hC;rw[hv];exact OT QQ hle hB hln XJ (fun k h=>hs.bound k (hs.sub k h)) fun g hg=>hg;simp at hu
 unfold Re at h;rw[he]at h;simp only at h;split at h;rename_i i;have Qk:=hs.slot i;unfold jc at h;split at h;rename_i RB xs g2 o2 c2 hg;rw[hg]at Qk;exact key (.own RB xs g2 o2 c2) _ _ Qk (by unfold jc;exact h);simp at h;rename_i k p';split at h;rename_i a0 b0 u G5;obtain⟨F',cs,cells,hb,QQ,B8⟩:=ld hs G5;exact key u F' cs QQ h;simp at h;simp at h
theorem vJ(hs:C3 N Pb Kb A a w F):∀ (xs:List Operand) {C:Prop} {vs:List V},vd A xs=(C,vs)->C->RVs w (fun g=>g<w.heap.size) vs (xs.map a.eval) []
 | [],C,vs,h,_=>by simp only[vd,Zaq]at h;obtain⟨_,rfl⟩:=h;exact⟨rfl,rfl⟩
 | x::xs,C,vs,h,hC=>by
   have plain:∀ vs',RVs w (fun g=>g<w.heap.size) vs' (xs.map a.eval) []->RVs w (fun g=>g<w.heap.size) (A.cp x::vs') ((x::xs).map a.eval) []:=fun vs' h'=>by
    have h1:=yA hs [x];have h1:=zb (w':=w) (Pb':=fun g=>g<w.heap.size) _ h1 (fun _ _=>rfl) (fun _ _=>rfl) (fun k h=>hs.bound k (hs.sub k h)) Zad;obtain⟨y,ys,F1,F2,e1,e2,h2,_⟩:=h1;simp only[Zbe,List.map_nil,List.cons.injEq]at e1;obtain⟨rfl,_⟩:=e1;have e2:=e2.symm;simp only[List.append_eq_nil_iff]at e2;obtain⟨rfl,_⟩:=e2;exact⟨a.eval x,xs.map a.eval,[],[],rfl,rfl,h2,h'⟩
   cases hl:vd A xs with
   | mk C0 vs0=>
     simp only[vd,hl]at h;split at h;rename_i r p sz g o lo n c he;split at h;rename_i Cx ys e;simp only[Zaq]at h;obtain⟨rfl,rfl⟩:=h;exact⟨a.eval x,xs.map a.eval,[],[],rfl,rfl,LZ hs he e hC.1,vJ hs xs hl hC.2⟩;simp only[Zaq]at h;obtain⟨rfl,rfl⟩:=h;exact plain _ (vJ hs xs hl hC);simp only[Zaq]at h;obtain⟨rfl,rfl⟩:=h;exact plain _ (vJ hs xs hl hC)
theorem JR{o:Oper} {K:AS->Prop} {f:FuncId} {xs:Array Operand} {QM:Array TypeId} {args:List V} {Q:V->Prop} {C:Prop} {vs:List V} (ho:o.op=.call { callee:=.value (.func f),args:=xs,argTypes:=QM })
 (hd:dP N o.dst) (hc:PC P f args Q) (hl:vd A xs.toList=(C,vs)) (hC:C) (hargs:R1 vs args=args) (hp:∀ r,Q r->r.plain=true) (hK:∀ r,Q r->K (A.put o.dst r)):N' P N o A K:=by
 intro Pb Kb a w F Q' hs;unfold Oper.wp;have G8:(execOp a.eval o).run P w=.ok (.enter f (xs.map a.eval)) w:=by
  simp only[execOp,ho,resolve,Act.eval,Deferred.ofValue,Za0,Za1,Zas,invoke];have:=hc.1 (xs.map a.eval) w;simpa using this
 rw[G8,Oper.upon_enter];have h0:=vJ hs xs.toList hl hC;have h0:=tt _ args h0;rw[hargs]at h0;have QB:=hc.2 w (fun g=>g<w.heap.size) (xs.toList.map a.eval) (fun g hg=>hg) h0;have e:(xs.toList.map a.eval).toArray=xs.map a.eval:=by rw[<- Array.toList_map,Array.toArray_toList]
 rw[e]at QB;refine QB.mono ?_;rintro e w' ⟨r,x,Fr,Pb',rfl,hq,hr,hnd,hfr,h1,h2,hb⟩;have H4:C3 N Pb Kb A a w' F:=hs.grow hb.block hb.size (fun _ h=>h) (fun g hg=>.inl hg) hs.sub;obtain⟨F',QA⟩:=H4.uc (d:=o.dst) hd (KE (w':=w') (Pb':=Pb) r (hp r hq) hr).1;exact⟨_,Pb,Kb,F',hK r hq,QA,fun _ h=>h,fun _ h=>h,fun g h=>.inl h,F7.DU hb hs.bound⟩
end
section
variable {w w':World} {Pb Kb Pb':Nat->Prop} {N:Nat} {A A' B:AS} {a:Act} {F:r5->List Nat} {P:Program} {ops:Array Oper}
theorem ES{o:Oper} {K:AS->Prop} {d T e len:Nat} {j8:Array (Nat×Operand)} {i:TI} {vs:List V} (ho:o.op=.buildSlice T len j8) (hd:o.dst=some d) (hN:d<N) (hT:tD P T=some (.sl e)) (hi:ti P e=some i)
 (VD:ig A 0 j8.toList=some vs) (hB:Wr P T e len i vs=true) (h0:0<len) (hK:∀ g,K (A.put (some d) (.own i.sz vs g 0 len))):N' P N o A K:=by
 simp only[Wr,Zao,Zbl]at hB;obtain⟨⟨⟨⟨b1,hlen⟩,Uh⟩,M8⟩,hv⟩:=hB;obtain⟨inf,z,Q3,hzero,_⟩:=lr b1;have Uh:=Nat.le_of_ble_eq_true Uh;have M8:=Nat.lt_of_succ_le (Nat.le_of_ble_eq_true M8);have hv:=Bj hv;intro Pb Kb a w F Q hs;obtain⟨xs,h1,h2,h3,h4⟩:=qQ hs j8.toList 0 VD hv;have hu:=lL hT;obtain⟨Wy,_,Qd,_,hsz,_,_⟩:=mH hi;rw[Q3]at Qd;obtain rfl:=Option.some.inj Qd;have hfl:=Great.fill_whole M8 xs ((Array.range (len*i.sz)).map (z.cells[· % z.cells.size]!)) h2 (by simp[h4,hlen]);have hmul: ¬ len*inf.size=0:=by rw[hsz];exact Nat.mul_ne_zero Zac Zac
 have hb:=run_buildSlice (P:=P) w T e len (j8.map fun (i,x)=>(i,a.eval x)) _ inf z hu Q3 hzero (by rw[hsz];omega) hmul (by rw[Array.toList_map,h1,hsz];exact hfl);have hx:(execOp a.eval o).run P w=.ok (.value (.slice (some ⟨w.heap.size,0,none⟩) len len)) (w.alloc (.cells (xs.flatMap fun v=>v.cells.toList).toArray e)):=by
  simp only[execOp,ho,Za0,hb,Zas,Za1]
 unfold Oper.wp;rw[hx,Oper.upon_value,hd];have Rj:=hs.sA (.cells (xs.flatMap fun v=>v.cells.toList).toArray e);have R':=gB (w':=w.alloc (.cells (xs.flatMap fun v=>v.cells.toList).toArray e)) (Pb':=Pb) vs h3 (fun g hg=>alloc_old w _ g (hs.bound g (hs.sub g hg))) Zad (fun g hg=>hg) Zad;have hcs:(xs.flatMap fun v=>v.cells.toList).length=len*i.sz:=by
  rw[mi _ h3,tw vs (fun v WC=>(hv v WC).2),hlen]
 have TT: ¬ Kb w.heap.size:=fun h=>by have:=hs.bound _ h;omega
 have hR:R (w.alloc (.cells (xs.flatMap fun v=>v.cells.toList).toArray e)) Pb (.own i.sz vs w.heap.size 0 len) [.slice (some ⟨w.heap.size,0,none⟩) len len] [w.heap.size]:=
  .inr ⟨h0,M8,Zac,by rw[hlen],fun v WC=>(hv v WC).2,fun c=>TT (hs.sub _ c),_,[],_,rfl,R',⟨e,(0,0),jU w _,fun i _ h=>by omega⟩,by simp only[List.size_toArray];rw[hcs];omega,fun j u hu=>by simpa using hu⟩
 exact⟨_,Pb,Kb,_,hK _,Rj.put hN hR (fun r _ g hg=>by
  obtain rfl:=Zav.1 hg;intro c;have:=(hs.free r _ c).2;omega) Zad (fun g hg=>by
  obtain rfl:=Zav.1 hg;exact⟨TT,Zbx⟩),fun _ h=>h,fun _ h=>h,fun _ h=>.inl h,F7.alloc hs.bound _⟩
theorem HD{K:AS->Prop} {t sz n g o c g0 o0:Nat} {xs:List V} {r:r5} {p:List Nat} (h2:A.get t=.own sz xs g o c) (G5:(A.put (some t) .c9).at r p=some (g0,o0,.hd (.slot t) [] sz g o 0 n c)) (hn:n=xs.length)
 (h:K ((A.put (some t) .c9).setAt r p (.own sz xs g o c))):Hx N A K:=Hx.simple h fun Pb Kb a w F hs=>by
 subst hn;obtain⟨Fx,F1,hr,Rj,hnd,C8,hfr,_⟩:=hs.take (.tmp t);rw[ui h2]at Rj;have hr:RV w Pb (A.get t) (a.tmps.getD t undef) Fx:=hr;rw[h2]at hr;obtain⟨Fp,cs,cells,hb,hp,hc⟩:=ld Rj G5;obtain⟨_,hle,B,rfl,hB⟩:=hp;have N5:R w Pb (.own sz xs g o c) [.slice B xs.length c] Fx:=by
  rcases hr with ⟨rfl,rfl,rfl,A0,_⟩ | ⟨k1,k2,k3,k4,k5⟩;exact .inl ⟨rfl,rfl,rfl,B,rfl⟩;have:=hB k1;rw[Nat.zero_mul,Nat.add_zero]at this;subst this;exact .inr ⟨k1,k2,k3,rfl,k5⟩
 obtain⟨F2,QA,_⟩:=Rj.store (w':=w) (v:=.own sz xs g o c) G5 N5 rfl hnd C8 hfr ⟨rfl,rfl,rfl,rfl,fun _ _=>rfl,Shp.refl _,fun x4 Qn=>⟨x4,Qn,rfl,fun _ _=>rfl,fun j u hu=>by
  have e:x4=cells:=by
   obtain⟨e1,f1,q1,_⟩:=hb;obtain⟨e2,f2,q2,_⟩:=Qn;rw[q1]at q2;simp only[Zan,Obj.cells.injEq]at q2;exact q2.1.symm
  rw[e];exact hc j u hu⟩⟩
 exact⟨F2,QA⟩
theorem Iy{K:AS->Prop} {sz n g o c g0 o0 g1 o1:Nat} {xs:List V} {r r0:r5} {p p0:List Nat} (h2:A.at r0 p0=some (g1,o1,.own sz xs g o c)) (G5:(A.setAt r0 p0 .c9).at r p=some (g0,o0,.hd r0 p0 sz g o 0 n c)) (hn:n=xs.length)
 (h:K ((A.setAt r0 p0 .c9).setAt r p (.own sz xs g o c))):Hx N A K:=Hx.simple h fun Pb Kb a w F hs=>by
 subst hn;obtain⟨Fr,Fu,Rj,⟨cs0,Tc,V5,QQ,TQ⟩,hnd,C8,hfr⟩:=hs.split h2;have Rj:C3 N Pb Kb (A.setAt r0 p0 .c9) a w _:=Rj;obtain⟨Fp,cs,cells,hb,hp,hc⟩:=ld Rj G5;obtain⟨_,hle,B,rfl,hB⟩:=hp;have N5:R w Pb (.own sz xs g o c) [.slice B xs.length c] Fu:=by
  rcases QQ with ⟨rfl,rfl,rfl,A0,_⟩ | ⟨k1,k2,k3,k4,k5⟩;exact .inl ⟨rfl,rfl,rfl,B,rfl⟩;have:=hB k1;rw[Nat.zero_mul,Nat.add_zero]at this;subst this;exact .inr ⟨k1,k2,k3,rfl,k5⟩
 obtain⟨F2,QA,_⟩:=Rj.store (w':=w) (v:=.own sz xs g o c) G5 N5 rfl hnd C8 hfr ⟨rfl,rfl,rfl,rfl,fun _ _=>rfl,Shp.refl _,fun x4 Qn=>⟨x4,Qn,rfl,fun _ _=>rfl,fun j u hu=>by
  have e:x4=cells:=by
   obtain⟨e1,f1,q1,_⟩:=hb;obtain⟨e2,f2,q2,_⟩:=Qn;rw[q1]at q2;simp only[Zan,Obj.cells.injEq]at q2;exact q2.1.symm
  rw[e];exact hc j u hu⟩⟩
 exact⟨F2,QA⟩
theorem DD{o:Oper} {K:AS->Prop} {d T T2 e e2 t0:Nat} {x:Operand} {t:TI} {Cx:Prop} {xs ys:List V} {r:r5} {p:List Nat} {sz g o1 n c g0 o0:Nat} (ho:o.op=.call { callee:=.builtin .append,args:= #[.tmp t0,x],argTypes:= #[T,T2] }) (VE:o.type=T)
 (hd:o.dst=some d) (hN:d<N) (hT:tD P T=some (.sl e)) (Ut:tD P T2=some (.sl e2)) (ht:ti P e=some t) (hz:∃ inf z,P.info? e=some inf/\inf.zero=some z/\z.cells.size=t.sz) (hsz:0<t.sz) (Wn:0<t.QD)
 (hg:A.get t0=.hd r p sz g o1 0 n c) (G5:A.at r p=some (g0,o0,.own sz xs g o1 c)) (b9:sz=t.sz) (hn:n=xs.length) (hx:Re A x=some (Cx,ys)) (hCx:Cx) (YE:V.aK ys=false) (V8:aX t.sz ys)
 (hbig:(xs.length+ys.length)*t.QD<=140737488355328)
 (hK:∀ g o c,K ((A.setAt r p .c9).put (some d) (.own t.sz (xs++ys) g o c))):N' P N o A K:=by
 subst b9 hn;intro Pb Kb a w F Q hs;obtain⟨B2,c2,L8,SR,Q9,TM,hl2⟩:=qT (P:=P) hs hx hCx V8 YE;obtain⟨Fr,Fu,H4,⟨cs,cells,hb,QQ,hc⟩,hnd,C8,hfr⟩:=hs.split G5;have hr:R w Pb (.own t.sz xs g o1 c) [a.eval (.tmp t0)] Fu:=by
  have hh:=hs.slot t0;rw[hg]at hh;obtain⟨_,hle,B,hv,hB⟩:=hh;have hv:a.eval (.tmp t0)=.slice B xs.length c:=(List.cons.inj hv).1;rw[hv];rcases QQ with ⟨rfl,rfl,rfl,A0,_⟩ | ⟨h1,h2,h3,h4,h5⟩;exact .inl ⟨rfl,rfl,rfl,B,rfl⟩;have:=hB h1;rw[Nat.zero_mul,Nat.add_zero]at this;subst this;exact .inr ⟨h1,h2,h3,rfl,h5⟩
 obtain⟨v,w',F2,g',o',c',G8,QA,Q9,Qq,TO,VV,PR⟩:=xY hT Ut ht hz hsz Wn H4 hr C8 hfr (Fy:=[]) (by simpa using hnd) Zad Zad SR Q9 TM hl2 V8 hbig;have RD:(execOp a.eval o).run P w=.ok (.value v) w':=by
  simp only[execOp,ho,resolve,invoke,builtin,Za0,Za1,Zas,VE];have e:(#[.tmp t0,x].map a.eval)= #[a.eval (.tmp t0),a.eval x]:=Zad;rw[e,G8];rfl
 unfold Oper.wp;rw[RD,Oper.upon_value,hd];exact⟨_,Pb,Kb,_,hK g' o' c',QA.put hN Q9 (fun r _ g hg=>TO r g hg) Qq VV,fun _ h=>h,fun _ h=>h,fun _ h=>.inl h,PR⟩
theorem zN:∀ (vs:List V) {xs:List Value} {F:List Nat} {i:Nat} {v:V},RVs w Pb vs xs F->vs[i]? =some v->v.isVal=true->
 ∃ x Fa Fi Fb,xs[i]? =some x/\F=Fa++Fi++Fb/\RV w Pb v x Fi/\RVs w Pb (vs.set i .c9) xs (Fa++Fb)
 | [],_,_,_,_,_,h,_=>by simp at h
 | u::vs,xs,F,0,v,h,hi,hv=>by
   obtain⟨x,xs',F1,F2,rfl,rfl,h1,h2⟩:=h;simp at hi;subst hi;refine⟨x,[],F1,F2,rfl,Zad,?_,⟨x,xs',[],F2,rfl,rfl,rfl,h2⟩⟩;cases u <;> first | exact h1 | simp[V.isVal]at hv
 | u::vs,xs,F,i+1,v,h,hi,hv=>by
   obtain⟨x,xs',F1,F2,rfl,rfl,h1,h2⟩:=h;obtain⟨y,Fa,Fi,Fb,k1,rfl,k3,k4⟩:=zN vs h2 Zbn hv;exact⟨y,F1++Fa,Fi,Fb,by simpa using k1,Zad,k3,⟨x,xs',F1,Fa++Fb,rfl,Zad,h1,k4⟩⟩
theorem Ct{o:Oper} {K:AS->Prop} {t i d:Nat} {vs:List V} {v:V} (ho:o.op=.extract (.tmp t) i) (hd:o.dst=some d) (hN:d<N) (ht:t<N) (htd:d≠t) (hg:A.get t=.tup vs) (hi:vs[i]? =some v) (hv:v.isVal=true)
 (hK:K ((A.put (some t) (.tup (vs.set i .c9))).put (some d) v)):N' P N o A K:=by
 intro Pb Kb a w F Q hs;have Qk:=hs.slot t;rw[hg]at Qk;obtain⟨xs,hx,hr⟩:=Qk;obtain⟨x,Fa,Fi,Fb,k1,k2,k3,k4⟩:=zN vs hr hi hv;have hnd:=hs.nodup (.slot t);rw[k2]at hnd;have VJ:∀ g,g∈Fa++Fb->g∈F (.slot t):=fun g hg=>by rw[k2];simp only[Zax]at hg ⊢;rcases hg with h | h <;> simp[h]
 have XF:∀ g,g∈Fi->g∈F (.slot t):=fun g hg=>by rw[k2];simp[hg]
 have Qq:(Fa++Fb).Nodup/\Fi.Nodup/\∀ g,g∈Fi->g ∉ Fa++Fb:=by
  simp only[List.nodup_append,Zax]at hnd ⊢;grind
 have Rj:=hs.put (d:=t) (v:=.tup (vs.set i .c9)) (x:=a.tmps.getD t undef) (F':=Fa++Fb) ht ⟨xs,hx,k4⟩ (fun r hr g hg c=>hs.du (.slot t) r (Ne.symm hr) g (VJ g hg) c) Qq.1 (fun g hg=>hs.free _ g (VJ g hg));rw[vt]at Rj;unfold Oper.wp;have G8:(execOp a.eval o).run P w=.ok (.value x) w:=by
  have YT:a.eval (.tmp t)=.tuple xs:=hx;have hxi:xs[i]? =some x:=by simpa using k1
  simp only[execOp,ho,YT,Instr.extract,hxi,Za0,Za1,Zas]
 rw[G8,Oper.upon_value,hd];refine⟨_,Pb,Kb,_,hK,Rj.put (d:=d) (F':=Fi) hN k3 (fun r hr g hg c=>?_) Qq.2.1 (fun g hg=>hs.free _ g (XF g hg)),fun _ h=>h,fun _ h=>h,fun _ h=>.inl h,F7.refl _ _⟩;simp only[dr]at c;split at c;exact Qq.2.2 g hg c;rename_i hne;exact hs.du (.slot t) r (Ne.symm hne) g (XF g hg) c
end
def cj:List Prop->Prop->Prop
 | [],k=>k
 | c::r,k=>c/\cj r k
theorem qZ:∀ {l:List Prop} {k:Prop},cj l k↔(∀ c,c∈l->c)/\k
 | [],k=>by simp[cj]
 | c::r,k=>by
   rw[cj,qZ (l:=r),List.forall_mem_cons,and_assoc]
abbrev GT:=List (Nat×(Nat×Bool))
def Gx(ops:Array Oper)(j:Nat):Option Nat:=(ops[j]?).bind (·.dst)
def xh(ops:Array Oper)(d:Nat)(gt:GT):GT:=gt.filter fun e=>!(e.1==d||Gx ops e.2.1==some d)
def CA(ops:Array Oper)(d j:Nat)(b:Bool)(gt:GT):GT:=match Gx ops j==some d with
 | true=>xh ops d gt
 | false=>(d,(j,b))::xh ops d gt
def Wt(ops:Array Oper)(gt:GT)(A:AS):Prop:= ∀ e,e∈gt->∀ c v,A.get e.1=.gv c v->Sh A ops e.2.1 e.2.2=some c
section
variable {P:Program} {N:Nat} {ops:Array Oper} {A A':AS} {gt:GT}
theorem Hy:Wt ops [] A:=fun e h=>by simp at h
theorem FO{d j:Nat}{b:Bool}{u:V}(h:Gx ops j≠some d):Sh (A.put (some d) u) ops j b=Sh A ops j b:=by
 unfold Sh;unfold Gx at h;cases hj:(ops[j]?).bind (·.dst) with
 | none=>rfl
 | some t=>
   simp only[Option.map_some];rw[AS.bg,if_neg (fun c=>h (by rw[hj,c]))]
theorem AM{d:Nat}{u:V}(h:Wt ops gt A):Wt ops (xh ops d gt) (A.put (some d) u):=fun e he c v hv=>by
 unfold xh at he;rw[List.mem_filter]at he;obtain⟨h1,h2⟩:=he;simp only[Bool.not_eq_true',Bool.or_eq_false_iff,beq_eq_false_iff_ne,ne_eq]at h2;rw[AS.bg,if_neg h2.1]at hv;rw[FO h2.2];exact h e h1 c v hv
theorem HJ{d j:Nat}{b G:Bool}{u:V}(h:Wt ops gt A)(hG:Sh A ops j b=some G):Wt ops (CA ops d j b gt) (A.put (some d) (.gv G u)):=by
 unfold CA;split;exact AM h;rename_i e1;intro e he c v hv;rcases List.mem_cons.1 he with rfl | he;rw[AS.bg,if_pos rfl]at hv;cases hv;rw[FO (by simpa using e1)];exact hG;exact AM h e he c v hv
def gtA(ops:Array Oper)(d:Option Nat)(j:Nat)(b:Bool)(gt:GT):GT:=match d with
 | some d=>CA ops d j b gt
 | none=>gt
theorem Lt{d:Option Nat}{j:Nat}{b G:Bool}{u:V}(h:Wt ops gt A)(hG:Sh A ops j b=some G):Wt ops (gtA ops d j b gt) (A.put d (.gv G u)):=by
 cases d with
 | none=>exact h
 | some d=>exact HJ h hG
theorem LY{x:Operand}(h:(A.ev x).eE=false):A.drop x=A:=by
 cases x with
 | tmp t=>exact if_neg (by simpa[AS.ev] using h)
 | _=>rfl
def U5(G:Bool)(jb:Nat×Bool)(gt:GT):List Operand->AS->List Prop×AS
 | [],A=>([],A)
 | .tmp t::r,A=>match A.get t with
   | .gv b v=>match U5 G jb gt r (A.put (some t) v),gt.contains (t,jb)&&!v.eE&&!v.kg with
     | (C,B),true=>(C,B)
     | (C,B),false=>(tI G b v::C,B)
   | _=>U5 G jb gt r A
 | _::r,A=>U5 G jb gt r A
theorem qa{G:Bool}{jb:Nat×Bool}:∀ (xs:List Operand) {A B:AS} {l:List Prop},(∀ t,(t,jb)∈gt->∀ c v,A.get t=.gv c v->c=G)->U5 G jb gt xs A=(l,B)->(∀ c,c∈l->c)->∃ C,AS.un G xs A=(C,B)/\C
 | [],A,B,l,_,h,_=>by simp only[U5,Zaq]at h;exact⟨True,by simp only[AS.un,h.2],trivial⟩
 | x::xs,A,B,l,hi,h,hl=>by
   cases x with
   | tmp t=>
     simp only[U5]at h;simp only[AS.un];split at h;rename_i b v hg;rw[hg];have hi':v.kg=false->∀ t',(t',jb)∈gt->∀ c u,(A.put (some t) v).get t'=.gv c u->c=G:=fun hv t' ht c u hu=>by
      rw[AS.bg]at hu;split at hu;rw[hu]at hv;simp[V.kg]at hv;exact hi t' ht c u hu
     split at h;rename_i C1 B1 hu hc;simp only[Zaq]at h;obtain⟨rfl,rfl⟩:=h;simp only[Zao,Bool.not_eq_true',List.contains_iff_mem]at hc;obtain⟨C2,e1,e2⟩:=qa xs (hi' hc.2) hu hl;simp only[e1];refine⟨_,rfl,?_,e2⟩;unfold tI;rw[hc.1.2,hc.2,hi t hc.1.1 b v hg];exact fun h=>h;rename_i C1 B1 hu hc;simp only[Zaq]at h;obtain⟨rfl,rfl⟩:=h;have h0:=hl _ (List.mem_cons_self ..);have hv:v.kg=false:=by
      unfold tI at h0;split at h0;rename_i e;rw[Bool.or_eq_false_iff]at e;exact e.2;exact h0.elim
     obtain⟨C2,e1,e2⟩:=qa xs (hi' hv) hu (fun c hc=>hl c (List.mem_cons_of_mem _ hc));simp only[e1];exact⟨_,rfl,h0,e2⟩;rename_i hn;have:=qa xs hi h hl;split;rename_i b v hg;exact absurd hg (hn b v);exact this
   | _=>exact qa xs hi h hl
def wZ(P:Program)(N:Nat)(ops:Array Oper):Nat->List Oper->List V->GT->AS->Option (List Prop×AS×GT)
 | 0,_,_,gt,A=>some ([],A,gt)
 | _+1,[],_,gt,A=>some ([],A,gt)
 | n+1,o::rest,H3,gt,A=>
   match o.dst with
   | none=>none
   | some d=>if d<N then
     match o.guard with
     | some (j,b)=>match Sh A ops j b with
       | some G=>match U5 G (j,b) gt (lJ o.op) A with
         | (C0,B)=>match sY P B o.op H3 with
           | some (C,v,H3)=>if (T6 N (lJ o.op)&&!v.kg)=true then match wZ P N ops n rest H3 (CA ops d j b gt) (A.put (some d) (.gv G v)) with
             | some (C',r)=>some (C0++(if qj o.op=true then C' else (G=true->C)::C'),r)
             | none=>none else none
           | none=>none
       | none=>none
     | none=>match o.op with
       | .assign x=>wZ P N ops n rest H3 (if (A.ev x).eE=true then [] else xh ops d gt) ((A.drop x).put (some d) (A.ev x))
       | op=>match sY P A op H3 with
         | some (C,v,H3)=>match wZ P N ops n rest H3 (xh ops d gt) (A.put (some d) v) with
           | some (C',r)=>if qj op=true then some (C',r) else some (C::C',r)
           | none=>none
         | none=>none
     else none
theorem xk:∀ (n:Nat) {l:List Oper} {H3:List V} {gt Zt:GT} {A A':AS} {cs:List Prop},wZ P N ops n l H3 gt A=some (cs,A',Zt)->Wt ops gt A->(∀ c,c∈cs->c)->
 (∃ C,rD P N ops n l H3 A=some (C,A')/\C)/\Wt ops Zt A'
 | 0,l,H3,gt,Zt,A,A',cs,h,hi,hc=>by
   simp only[wZ,Zan,Zaq]at h;obtain⟨_,rfl,rfl⟩:=h;exact⟨⟨True,by simp only[rD],trivial⟩,hi⟩
 | n+1,[],H3,gt,Zt,A,A',cs,h,hi,hc=>by
   simp only[wZ,Zan,Zaq]at h;obtain⟨_,rfl,rfl⟩:=h;exact⟨⟨True,by simp only[rD],trivial⟩,hi⟩
 | n+1,o::l,H3,gt,Zt,A,A',cs,h,hi,hc=>by
   unfold wZ at h;unfold rD;split at h;cases h;rename_i d hd;split at h
   case isFalse=>cases h
   rename_i WT;simp only[hd,if_pos WT];split at h;rename_i j b hg;simp only[hg];split at h;rename_i G hG;split at h;rename_i C0 B hu;split at h;rename_i C v S0 hs;split at h;rename_i hk;split at h;rename_i C' A1 hr;simp only[Zan,Zaq]at h;obtain⟨rfl,rfl⟩:=h;obtain⟨C1,e1,e2⟩:=qa (lJ o.op) (fun t ht c v hv=>by have:=hi _ ht c v hv;rw[hG]at this;exact(Option.some.inj this).symm) hu (fun c V2=>hc c (List.mem_append_left _ V2));obtain⟨⟨C2,e3,e4⟩,e5⟩:=xk n hr (HJ hi hG) (fun c V2=>hc c (List.mem_append_right _ (by split <;> simp[V2])));refine⟨?_,e5⟩;simp only[hG,e1,hs,if_pos hk,e3];refine⟨_,rfl,fun Rx=>⟨e2,?_⟩,e4⟩;by_cases ht:qj o.op=true;exact qG ht hs;exact hc (G=true->C) (List.mem_append_right _ (by rw[if_neg ht];exact List.mem_cons_self ..)) Rx;cases h;cases h;cases h;cases h;rename_i hg;simp only[hg];split at h;rename_i x hx;obtain⟨⟨C,e1,e2⟩,e3⟩:=xk n h (by
    split;exact Hy;rename_i ho;rw[LY (by simpa using ho)];exact AM hi) hc
   simp only[hx];exact⟨⟨C,e1,e2⟩,e3⟩;rename_i hx;split at h;rename_i C v S0 hs;split at h;rename_i C' r hr;have key:(∀ c,c∈C'->c)/\C/\r=(A',Zt):=by
    split at h;rename_i ht;simp only[Zan,Zaq]at h;obtain⟨rfl,rfl⟩:=h;exact⟨hc,qG ht hs,rfl⟩;simp only[Zan,Zaq]at h;obtain⟨rfl,rfl⟩:=h;exact⟨fun c V2=>hc c (List.mem_cons_of_mem _ V2),hc _ (List.mem_cons_self ..),rfl⟩
   obtain⟨k1,k2,rfl⟩:=key;obtain⟨⟨C2,e3,e4⟩,e5⟩:=xk n hr (AM hi) k1;refine⟨?_,e5⟩;split;rename_i SR;exact absurd SR (hx _);simp only[hs,e3];split;exact⟨_,rfl,e4⟩;exact⟨_,rfl,k2,e4⟩;cases h;cases h
def rz(B:AS)(ks:List (Nat×Nat)):List (Nat×(Nat×V))->Prop->Prop
 | [],p=>p
 | (k,(g,v))::r,p=>(match lk k ks with | some q=>(match lk q B.h with | some (g',v')=>(g',wk v' v)=(g,v) | none=>False) | none=>False)/\rz B ks r p
theorem mA{B:AS}{ks:List (Nat×Nat)}:∀ {H:List (Nat×(Nat×V))} {p:Prop},rz B ks H p->pf B ks H/\p
 | [],p,h=>⟨trivial,h⟩
 | (k,(g,v))::r,p,h=>by
   obtain⟨h1,h2⟩:=h;obtain⟨h3,h4⟩:=mA h2;exact⟨⟨h1,h3⟩,h4⟩
def JU(A:AS):List (Nat×(Nat×V))->Prop->Prop
 | [],p=>p
 | (k,(g,v))::r,p=>(match lk k A.h with | some (g',v')=>(g',wk v' v)=(g,v) | none=>False)/\JU A r p
theorem CQ:∀ {H:List (Nat×(Nat×V))} {p:Prop},JU A H p->UT A H/\p
 | [],p,h=>⟨trivial,h⟩
 | (k,(g,v))::r,p,h=>by
   obtain⟨h1,h2⟩:=h;obtain⟨h3,h4⟩:=CQ h2;exact⟨⟨h1,h3⟩,h4⟩
def JX(A:AS):List (Nat×V)->Prop->Prop
 | [],p=>p
 | (k,v)::r,p=>(wk (A.get k) v=v)/\JX A r p
theorem zd:∀ {H:List (Nat×V)} {p:Prop},JX A H p->Vr A H/\p
 | [],p,h=>⟨trivial,h⟩
 | (k,v)::r,p,h=>by
   obtain⟨h1,h2⟩:=h;obtain⟨h3,h4⟩:=zd h2;exact⟨⟨h1,h3⟩,h4⟩
def Zf(A B:AS):Prop:=JX A B.t (JU A B.h True)
theorem xm{B:AS}(h:Zf A B):Vr A B.t/\UT A B.h:=⟨(zd h).1,(CQ (zd h).2).1⟩
def CV(A:AS):List ResultVar->Option (List Prop×List (r5×V))
 | []=>some ([],[])
 | r::rs=>match CV A rs with
   | some (C,xs)=>match r with
     | .tmp t=>some (C,(.slot t,A.get t)::xs)
     | .cell t _=>match A.get t with
       | .ptr (.key k) [] g 0=>match lk k A.h with
         | some (g',v)=>some ((g'=g)::C,(.key k,v)::xs)
         | none=>none
       | _=>none
   | none=>none
theorem xu:∀ {rs:List ResultVar} {C:List Prop} {xs:List (r5×V)},CV A rs=some (C,xs)->(∀ c,c∈C->c)->∃ C',Bd A rs=some (C',xs)/\C'
 | [],C,xs,h,_=>by simp only[CV,Zan,Zaq]at h;rw[<- h.2];exact⟨_,rfl,trivial⟩
 | r::rs,C,xs,h,hC=>by
   simp only[CV]at h;simp only[Bd];split at h;rename_i C1 xs1 e;split at h;simp only[Zan,Zaq]at h;obtain⟨rfl,rfl⟩:=h;obtain⟨C',e1,e2⟩:=xu e hC;simp only[e1];exact⟨_,rfl,e2⟩;split at h;rename_i k g e2;split at h;rename_i g' v e3;simp only[Zan,Zaq]at h;obtain⟨rfl,rfl⟩:=h;obtain⟨C',e4,e5⟩:=xu e (fun c hc=>hC c (List.mem_cons_of_mem _ hc));simp only[e4,e2,e3];exact⟨_,rfl,hC _ (List.mem_cons_self ..),e5⟩;cases h;cases h;cases h
def ub(A:AS):List (Nat×(Nat×V))->Prop->Prop
 | [],p=>p
 | (k,(g,v))::r,p=>p/\ub A r (match lk k A.h with | some (g',v')=>(g',wk v' v)=(g,v) | none=>False)
theorem yJ:∀ {H:List (Nat×(Nat×V))} {p:Prop},ub A H p->p/\UT A H
 | [],p,h=>⟨h,trivial⟩
 | (k,(g,v))::r,p,h=>by
   obtain⟨h1,h2⟩:=h;exact⟨h1,yJ h2⟩
end
structure Yc (P:Program) where
 f:FuncId
 args:List V
 H:List (Nat×(Nat×V)):=[]
 pre:Prop:=True
 res:V
 H':List (Nat×(Nat×V)):=[]
 ok:pre->PF P f args H (fun r h=>r=res/\h=H')
structure W7 (P:Program) where
 X:Type
 f:FuncId
 args:List V
 H:List (Nat×(Nat×V)):=[]
 pre:Prop:=True
 post:X->Prop
 res:X->V
 H':X->List (Nat×(Nat×V)):=fun _=>[]
 ok:pre->PF P f args H (fun r h=> ∃ x,post x/\r=res x/\h=H' x)
structure Cu (P:Program) where
 X:Type
 pre:Nat->Oper->AS->Prop
 post:X->Oper->AS->AS
 ok:∀ {N:Nat} {o:Oper} {A:AS} {K:AS->Prop},o.guard=none->pre N o A->(∀ x,K (post x o A))->N' P N o A K
structure Eu (P:Program) where
 X:Type
 pre:Nat->Oper->AS->List Nat->List Nat->Prop
 U:Oper->AS->X->AS->AS
 Wh:∀ {N:Nat} {o:Oper} {A:AS} {Sl Hl:List Nat},pre N o A Sl Hl->∀ fs,U4 (U o A) fs Sl Hl
 prom:List Nat:=[]
 pok:∀ {N:Nat} {o:Oper} {A:AS} {Sl Hl:List Nat},pre N o A Sl Hl->∀ q,q∈prom->∀ x B,QR (U o A x B).h q=QR B.h q:=by intro _ _ _ _ _ _ q hq;exact absurd hq List.not_mem_nil
 ok:∀ {N:Nat} {o:Oper} {A A':AS} {Sl Hl:List Nat},o.guard=none->pre N o A Sl Hl->(∀ t,Operand.tmp t∈o.op.operands.toList->A'.get t=A.get t)->(∀ k,lk k A'.h=lk k A.h)->N' P N o A' fun B=> ∃ x,B=U o A x A'
structure Vu (P:Program) where
 v:V
 pre:Nat->Array Oper->Oper->AS->Prop
 ok:∀ {N:Nat} {ops:Array Oper} {o:Oper} {A:AS} {fs:List Nat} {fr:Option (List Nat)},pre N ops o A->(∀ t,t∈o.looksAt ops->t∈fs)->Ws P N ops o A v fs fr
def Yc.sm{P:Program}(c:Yc P):Prop:=c.args=c.args
def W7.sm{P:Program}(c:W7 P):Prop:=c.args=c.args
inductive Hint where
 | O8 (t sz:Nat)
 | wkt (t:Nat) (u:V)
 | ZG (r:r5) (p:List Nat) (u:V)
 | iC (t:Nat)
 | fz (t:Nat)
 | o9 (t:Nat) (v:V)
 | o8 (k:Nat) (v:V)
 | to (B:AS)
 | rk (k k':Nat)
 | s7 (r:r5) (p:List Nat) (sz:Nat)
 | UB (r:r5) (p:List Nat) (g o sz:Nat)
 | Ta (r:r5) (p:List Nat) (g o t:Nat)
 | O1 (r:r5) (p:List Nat) (g o:Nat) (v u:V)
 | L1 (r0:r5) (p0:List Nat) (r:r5) (p:List Nat) (g o:Nat)
inductive Sc (P:Program):Type 1
 | nil
 | h (x:Hint) (k:Sc P)
 | ot (t:Nat) (k:Nat->Nat->Nat->Sc P)
 | oR (r:r5) (p:List Nat) (k:Nat->Nat->Nat->Sc P)
 | r (n:Nat) (H3:List V) (k:Sc P)
 | mv (k:Sc P)
 | c (c:Yc P) (ks:List (Nat×Nat)) (k:Sc P)
 | cx (c:W7 P) (ks:List (Nat×Nat)) (k:c.X->Sc P)
 | cg (c:Yc P) (k:Sc P)
 | al (z:ZT P) (k:Nat->Sc P)
 | bx (k:Nat->Sc P)
 | st (old:Option V) (k:Sc P)
 | ap (k:Nat->Nat->Nat->Sc P)
 | bd (z:ZT P) (k:Sc P)
 | bs (k:Sc P)
 | QD (bs:BL) (k:Sc P)
 | sb (l:BL) (k:Nat->Nat->Sc P)
 | mm (k:Sc P)
 | rs (k:Sc P)
 | br (a b:Sc P)
 | join (X:Type) (B:X->AS) (ok:X->Prop) (a b:Sc P) (k:X->Sc P)
 | loop (X:Type) (inv:X->AS) (ok:X->Prop) (m:X->Nat) (k:X->Sc P)
 | dx (m:Nat) (pl:List Nat) (tb:List (Nat×TZ)) (zs:List (Nat×ZT P)) (k:Sc P)
 | ua (k:Nat->Sc P)
 | ux (z:Option (ZT P)) (k:Nat->Nat->Nat->Sc P)
 | cl (c:Yc P) (k:Sc P)
 | sp (b:Bool) (a1 a2:Sc P)
 | gt (k:Sc P)
 | gf (v:V) (k:Sc P)
 | ex (X:Type) (post:X->Prop) (k:X->Sc P)
 | Qx (r:r5) (p:List Nat) (g o sz:Nat) (xs:List V) (k:Nat->Nat->Nat->Sc P)
 | apx (xs:List V) (g o:Nat) (k:Nat->Nat->Nat->Sc P)
 | bo (k:Nat->Sc P)
 | cu (c:Cu P) (k:c.X->Sc P)
 | eu (c:Eu P) (k:c.X->Sc P)
 | vu (c:Vu P) (k:Sc P)
def S'(N:Nat):Option Nat->Bool
 | none=>true
 | some d=>Nat.blt d N
theorem gC{N:Nat}{d:Option Nat}(h:S' N d=true):dP N d:=by
 cases d with
 | none=>trivial
 | some d=>exact Nat.lt_of_succ_le (Nat.le_of_ble_eq_true h)
theorem cv{a b:Nat}(h:Nat.blt a b=true):a<b:=Nat.lt_of_succ_le (Nat.le_of_ble_eq_true h)
def CH(N:Nat)(x:Hint)(A:AS)(K:AS->Prop):Prop:=
 match x with
 | .O8 t sz=>match Nat.blt t N,A.get t with
   | true,.sl true []=>K (A.put (some t) (.own sz [] 0 0 0))
   | _,_=>False
 | .wkt t u=>match Nat.blt t N with
   | true=>K (A.put (some t) (wk (A.get t) u))
   | false=>False
 | .ZG r p u=>match A.at r p with
   | some (_,_,v)=>match (wk v u).n==v.n with
     | true=>K (A.setAt r p (wk v u))
     | false=>False
   | none=>False
 | .iC t=>match A.get t with
   | .hd (.slot i) [] sz g o 0 n c=>match A.get i with
     | .own Qw xs g' o' c'=>match Nat.blt t N&&Nat.blt i N&&!(t==i) with
       | true=>(sz,g,o,c,n)=(Qw,g',o',c',xs.length)/\K ((A.put (some i) .c9).put (some t) (.own Qw xs g' o' c'))
       | false=>False
     | _=>False
   | _=>False
 | .fz t=>match Nat.blt t N&&(A.get t).eE with
   | true=>K (A.put (some t) (A.get t).er)
   | false=>False
 | .o9 t v=>A.get t=v/\K (A.put (some t) v)
 | .o8 k v=>match lk k A.h with
   | some (g,u)=>u=v/\K ⟨A.t,(k,(g,v))::A.h⟩
   | none=>False
 | .to B=>Vr A B.t/\UT A B.h/\K B
 | .rk k k'=>match lk k A.h,lk k' A.h with
   | some gv,none=>K ⟨A.t,(k',gv)::A.h.filter fun p=>p.1 != k⟩
   | _,_=>False
 | .s7 r p sz=>match A.at r p with
   | some (_,_,.sl true [])=>K (A.setAt r p (.own sz [] 0 0 0))
   | _=>False
 | .UB r p g o sz=>A.at r p=some (g,o,.sl true [])/\K (A.setAt r p (.own sz [] 0 0 0))
 | .Ta r p g o t=>match A.get t with
   | .own sz xs g1 o1 c=>(A.put (some t) .c9).at r p=some (g,o,.hd (.slot t) [] sz g1 o1 0 xs.length c)/\K ((A.put (some t) .c9).setAt r p (.own sz xs g1 o1 c))
   | _=>False
 | .O1 r p g o v u=>A.at r p=some (g,o,v)/\match (wk v u).n==v.n with
   | true=>K (A.setAt r p (wk v u))
   | false=>False
 | .L1 r0 p0 r p g o=>match A.at r0 p0 with
   | some (_,_,.own sz xs g1 o1 c)=>(A.setAt r0 p0 .c9).at r p=some (g,o,.hd r0 p0 sz g1 o1 0 xs.length c)/\K ((A.setAt r0 p0 .c9).setAt r p (.own sz xs g1 o1 c))
   | _=>False
def Tg{P:Program}(N:Nat):Sc P->AS->(AS->Sc P->Prop)->Prop
 | .h x k,A,K=>CH N x A fun B=>Tg N k B K
 | .ot t k,A,K=>match Nat.blt t N,A.get t with
   | true,.ow sz xs=> ∀ g o c,Tg N (k g o c) (A.put (some t) (.own sz xs g o c)) K
   | _,_=>False
 | .oR r p k,A,K=>match A.at r p with
   | some (_,_,.ow sz xs)=> ∀ g o c,Tg N (k g o c) (A.setAt r p (.own sz xs g o c)) K
   | _=>False
 | .ex X post k,A,K=>(∃ x,post x)/\∀ x,post x->Tg N (k x) A K
 | .Qx r p g0 o0 sz xs k,A,K=>A.at r p=some (g0,o0,.ow sz xs)/\∀ g o1 c,Tg N (k g o1 c) (A.setAt r p (.own sz xs g o1 c)) K
 | s,A,K=>K A s
def lW(P:Program)(T T2:Nat):Option TI:=
 match tD P T,tD P T2 with
 | some (.sl e),some (.sl _)=>match ti P e with
   | some t=>match ZF P e t.sz&&Nat.blt 0 t.sz&&Nat.blt 0 t.QD with
     | true=>some t
     | false=>none
   | none=>none
 | _,_=>none
def De(P:Program)(T:Nat):Bool:=match tD P T with
 | some (.sl e)=>match tD P e with
   | some (.int .u8)=>true
   | _=>false
 | _=>false
def isStr(P:Program)(T:Nat):Bool:=match tD P T with
 | some .str=>true
 | _=>false
def M9{P:Program}(N:Nat)(ops:Array Oper):GT->Sc P->List Oper->AS->(AS->Sc P->Prop)->Prop
 | Wp,s,[],A,K=>K A s
 | Wp,.r n H3 k,l,A,K=>match wZ P N ops n l H3 Wp A with
   | some (C,A',gt1)=>cj C (M9 N ops gt1 k (l.drop n) A' K)
   | none=>False
 | Wp,.cg c k,o::l,A,K=>match o.op,o.guard with
   | .call ⟨.value (.func f),xs,_⟩,some (j,b)=>match f==c.f&&S' N o.dst&&T6 N xs.toList&&!c.res.er.kg&&!c.res.er.eE,c.H,Sh A ops j b with
     | true,[],some G=>match U5 G (j,b) Wp xs.toList A with
       | (C,B)=>cj C ((G=true->c.pre/\R1 (xs.toList.map B.cp) c.args=c.args)/\M9 N ops (gtA ops o.dst j b Wp) k l (A.put o.dst (.gv G c.res.er)) K)
     | _,_,_=>False
   | _,_=>False
 | Wp,.ex X post k,o::l,A,K=>(∃ x,post x)/\∀ x,post x->M9 N ops [] (k x) (o::l) A K
 | Wp,.sp b a1 a2,o::l,A,K=>(b=true->M9 N ops [] a1 (o::l) A K)/\(b=false->M9 N ops [] a2 (o::l) A K)
 | Wp,.gt k,o::l,A,K=>match o.guard with
   | some (j,b)=>match Sh A ops j b with
     | some G=>G=true/\M9 N ops [] k (⟨o.dst,o.op,o.type,o.pos,o.after,none⟩ :: l) A K
     | none=>False
   | none=>False
 | Wp,.gf v k,o::l,A,K=>match o.guard with
   | some (j,b)=>match Sh A ops j b,S' N o.dst with
     | some G,true=>G=false/\M9 N ops [] k l (A.put o.dst (.gv false v)) K
     | _,_=>False
   | none=>False
 | Wp,s,o::l,A,K=>match o.guard with
   | some _=>False
   | none=>match s with
     | .h x k=>CH N x A fun B=>M9 N ops [] k (o::l) B K
     | .Qx r p g0 o0 sz xs k=>A.at r p=some (g0,o0,.ow sz xs)/\∀ g o1 c,M9 N ops [] (k g o1 c) (o::l) (A.setAt r p (.own sz xs g o1 c)) K
     | .cu c k=>c.pre N o A/\∀ x,M9 N ops [] (k x) l (c.post x o A) K
     | .bo k=>match o.op,o.dst with
       | .buildSlice T len j8,some d=>match tD P T with
         | some (.sl e)=>match ti P e,ig A 0 j8.toList with
           | some i,some vs=>match Wr P T e len i vs&&Nat.blt d N&&Nat.blt 0 len with
             | true=> ∀ g,M9 N ops [] (k g) l (A.put (some d) (.own i.sz vs g 0 len)) K
             | false=>False
           | _,_=>False
         | _=>False
       | _,_=>False
     | .apx xs g0 o0 k=>match o.op,o.dst with
       | .call ⟨.builtin .append,⟨[.tmp t0,x]⟩,⟨[T,T2]⟩⟩,some d=>match o.type==T&&Nat.blt d N,lW P T T2 with
         | true,some t=>match A.get t0,Re A x with
           | .hd r p sz g o1 0 n c,some (Cx,ys)=>(A.at r p=some (g0,o0,.own sz xs g o1 c)/\sz=t.sz/\n=xs.length)/\Cx/\V.aK ys=false/\aX t.sz ys/\(xs.length+ys.length)*t.QD<=140737488355328/\
            ∀ g2 o2 c2,M9 N ops [] (k g2 o2 c2) l ((A.setAt r p .c9).put (some d) (.own t.sz (xs++ys) g2 o2 c2)) K
           | _,_=>False
         | _,_=>False
       | _,_=>False
     | .cl c k=>match o.op with
       | .call ⟨.value (.func f),xs,_⟩=>match f==c.f&&S' N o.dst&&c.res.plain,c.H,vd A xs.toList with
         | true,[],(C,vs)=>C/\R1 vs c.args=c.args/\c.pre/\M9 N ops [] k l (A.put o.dst c.res) K
         | _,_,_=>False
       | _=>False
     | .ot t k=>match Nat.blt t N,A.get t with
       | true,.ow sz xs=> ∀ g o1 c,M9 N ops [] (k g o1 c) (o::l) (A.put (some t) (.own sz xs g o1 c)) K
       | _,_=>False
     | .oR r p k=>match A.at r p with
       | some (_,_,.ow sz xs)=> ∀ g o1 c,M9 N ops [] (k g o1 c) (o::l) (A.setAt r p (.own sz xs g o1 c)) K
       | _=>False
     | .mv k=>match o.op with
       | .move x=>match S' N o.dst with
         | true=>M9 N ops [] k l ((A.drop x).put o.dst (A.ev x)) K
         | false=>False
       | .extract (.tmp t) i=>match o.dst,A.get t with
         | some d,.tup vs=>match vs[i]? with
           | some v=>match Nat.blt d N&&Nat.blt t N&&!(d==t)&&v.isVal with
             | true=>M9 N ops [] k l ((A.put (some t) (.tup (vs.set i .c9))).put (some d) v) K
             | false=>False
           | none=>False
         | _,_=>False
       | .load T x=>match o.dst,ti P T,A.ev x with
         | some d,some i,.ptr r p g g'=>match A.at r p with
           | some (g2,W0,u)=>match Nat.blt d N&&u.n==i.sz&&i.d.agg==u.isAgg with
             | true=>(g2,W0)=(g,g')/\M9 N ops [] k l ((A.setAt r p u.kill).put (some d) u) K
             | false=>False
           | none=>False
         | _,_,_=>False
       | _=>False
     | .c c ks k=>match o.op with
       | .call ⟨.value fx,xs,_⟩=>match A.ev fx,A.tk xs.toList with
         | .lit (.func (.func f) first H6),(vs,B)=>match f==c.f&&S' N o.dst&&RC (ks.map (·.1))&&RC (ks.map (·.2))&&c.args.length==(first.toList.map cV++vs++H6.toList.map cV).length with
           | true=>R1 (first.toList.map cV++vs++H6.toList.map cV) c.args=c.args/\rz B ks c.H (c.pre/\M9 N ops [] k l ((B.back ks c.H').put o.dst (c.res.SO (nh ks))) K)
           | false=>False
         | _,_=>False
       | _=>False
     | .cx c ks k=>match o.op with
       | .call ⟨.value fx,xs,_⟩=>match A.ev fx,A.tk xs.toList with
         | .lit (.func (.func f) first H6),(vs,B)=>match f==c.f&&S' N o.dst&&RC (ks.map (·.1))&&RC (ks.map (·.2))&&c.args.length==(first.toList.map cV++vs++H6.toList.map cV).length with
           | true=>R1 (first.toList.map cV++vs++H6.toList.map cV) c.args=c.args/\rz B ks c.H (c.pre/\∀ x,c.post x->M9 N ops [] (k x) l ((B.back ks (c.H' x)).put o.dst ((c.res x).SO (nh ks))) K)
           | false=>False
         | _,_=>False
       | _=>False
     | .al z k=>match o.op,o.dst with
       | .alloc T,some d=>match T==z.T&&Nat.blt d N with
         | true=> ∀ g,M9 N ops [] (k g) l ⟨(d,.ptr (.key d) [] g 0)::A.t,(d,(g,z.v))::A.h⟩ K
         | false=>False
       | _,_=>False
     | .bx k=>match o.op,o.dst with
       | .box _ x,some d=>match Nat.blt d N&&(A.cp x).isVal with
         | true=> ∀ g,M9 N ops [] (k g) l ⟨(d,.ptr (.key d) [] g 0)::A.t,(d,(g,A.cp x))::A.h⟩ K
         | false=>False
       | _,_=>False
     | .st old k=>match o.op,o.dst with
       | .store T x y,none=>match ti P T,A.ev x with
         | some i,.ptr r p g g'=>match old with
           | none=>match (A.drop y).at r p with
             | some (g2,W0,u)=>match (A.ev y).isVal&&(A.ev y).n==u.n&&(A.ev y).n==i.sz with
               | true=>(g2,W0)=(g,g')/\M9 N ops [] k l ((A.drop y).setAt r p (A.ev y)) K
               | false=>False
             | none=>False
           | some u=>match (A.ev y).isVal&&(A.ev y).n==u.n&&(A.ev y).n==i.sz with
             | true=>(A.drop y).at r p=some (g,g',u)/\M9 N ops [] k l ((A.drop y).setAt r p (A.ev y)) K
             | false=>False
         | _,_=>False
       | _,_=>False
     | .ap k=>match o.op,o.dst with
       | .call ⟨.builtin .append,⟨[s,x]⟩,⟨[T,T2]⟩⟩,some d=>match o.type==T&&Nat.blt d N,lW P T T2 with
         | true,some t=>match UO A s t.sz,Re A x with
           | some (C,A1,xs),some (Cx,ys)=>C/\Cx/\V.aK ys=false/\aX t.sz ys/\(xs.length+ys.length)*t.QD<=140737488355328/\
            ∀ g o1 c,M9 N ops [] (k g o1 c) l (A1.put (some d) (.own t.sz (xs++ys) g o1 c)) K
           | none,some (Cx,ys)=>match Y4 A s t.sz with
             | some (C,xs)=>(C/\0<ys.length)/\Cx/\V.aK ys=false/\aX t.sz ys/\(xs.length+ys.length)*t.QD<=140737488355328/\
               ∀ g o1 c,M9 N ops [] (k g o1 c) l (A.put (some d) (.own t.sz (xs++ys) g o1 c)) K
             | none=>False
           | _,_=>False
         | _,_=>False
       | _,_=>False
     | .bd z k=>match o.op with
       | .build T j8=>match T==z.T&&S' N o.dst,z.v with
         | true,.agg zs=>match pW P A T zs j8.toList with
           | some v=>M9 N ops [] k l (A.put o.dst v) K
           | none=>False
         | _,_=>False
       | _=>False
     | .bs k=>match o.op with
       | .buildSlice T len j8=>match tD P T with
         | some (.sl e)=>match ti P e,ig A 0 j8.toList with
           | some i,some vs=>match Wr P T e len i vs&&S' N o.dst with
             | true=>M9 N ops [] k l (A.put o.dst (.sl true vs)) K
             | false=>False
           | _,_=>False
         | _=>False
       | _=>False
     | .QD bs k=>match o.op with
       | .convert src dst x=>match De P src&&isStr P dst&&S' N o.dst,Re A x with
         | true,some (C,ys)=>C/\ys=bs.map B7/\M9 N ops [] k l (A.put o.dst (sV bs)) K
         | _,_=>False
       | _=>False
     | .sb bs k=>match o.op,o.dst with
       | .convert src dst x,some d=>match isStr P src&&De P dst&&Nat.blt d N with
         | true=>A.ev x=sV bs/\∀ g c,M9 N ops [] (k g c) l (A.put (some d) (.own 1 (bs.map B7) g 0 c)) K
         | false=>False
       | _,_=>False
     | .mm k=>match o.op with
       | .call ⟨.builtin b,⟨[x,y]⟩,_⟩=>match A.ev x,A.ev y,S' N o.dst,b with
         | .lit (.int kd p),.lit (.int Vs q),true,.max=>Vs=kd/\M9 N ops [] k l (A.put o.dst (.lit (.int kd (max p q)))) K
         | .lit (.int kd p),.lit (.int Vs q),true,.min=>Vs=kd/\M9 N ops [] k l (A.put o.dst (.lit (.int kd (min p q)))) K
         | _,_,_,_=>False
       | _=>False
     | .rs k=>match o.op,o.dst with
       | .assign x,some i=>match A.ev x,A.get i,Nat.blt i N with
         | .hd (.slot i') [] Qw g' o' lo n c',.own sz xs g o1 c,true=>(i',Qw,g',o')=(i,sz,g,o1)/\(lo+n<=xs.length/\lo+c'<=c/\V.aK xs=false)/\
          M9 N ops [] k l (A.put (some i) (.own sz ((xs.drop lo).take n) g (o1+lo*sz) c')) K
         | _,_,_=>False
       | _,_=>False
     | _=>False
section
variable {P:Program} {N:Nat} {ops:Array Oper} {A A' A1 B:AS}
variable {w:World} {Pb Kb:Nat->Prop} {a:Act} {F:r5->List Nat}
theorem Ek{x:Hint}{A:AS}{K:AS->Prop}(h:CH N x A K):Hx N A K:=by
 unfold CH at h;split at h;split at h;rename_i e1 e2;exact Mx _ _ (cv e1) e2 h;exact h.elim;split at h;rename_i e1;exact OB _ (cv e1) h;exact h.elim;split at h;rename_i e1;split at h;rename_i e2;exact HH _ e1 (by simpa using e2) h;exact h.elim;exact h.elim;split at h;rename_i e1;split at h;rename_i e2;split at h;rename_i e3;simp only[Zao,Bool.not_eq_true',beq_eq_false_iff_ne]at e3;obtain⟨hq,h⟩:=h;simp only[Zaq]at hq;obtain⟨rfl,rfl,rfl,rfl,hn⟩:=hq;exact Kg (cv e3.1.1) (cv e3.1.2) e3.2 e1 e2 hn h;exact h.elim;exact h.elim;exact h.elim;split at h;rename_i e1;simp only[Zao]at e1;exact IG (cv e1.1) e1.2 h;exact h.elim;exact MK _ h.1 h.2;split at h;rename_i e1;obtain⟨rfl,h⟩:=h;exact MP _ e1 h;exact h.elim;exact Lq h.1 h.2.1 h.2.2;split at h;rename_i e1 e2;exact OX e1 e2 h;exact h.elim;split at h;rename_i e1;exact Di e1 h;exact h.elim;exact Di h.1 h.2;split at h;rename_i e1;exact HD e1 h.1 rfl h.2;exact h.elim;obtain⟨h1,h⟩:=h;split at h;rename_i e2;exact HH _ h1 (by simpa using e2) h;exact h.elim;split at h;rename_i e1;exact Iy e1 h.1 rfl h.2;exact h.elim
theorem oB:∀ (s:Sc P) {A:AS} {K:AS->Sc P->Prop},Tg N s A K->Hx N A fun B=> ∃ s',K B s':=by
 intro s;induction s with
 | h x k ih=>intro A K h;exact(Ek h).bind fun B hB=>ih hB
 | ot t k ih=>
   intro A K h;simp only[Tg]at h;split at h;rename_i e1 e2;exact(EV (cv e1) e2 (K:=fun B=>Hx N B fun B=> ∃ s',K B s') fun g o c=>ih g o c (h g o c)).bind fun _ hB=>hB;exact h.elim
 | oR r p k ih=>
   intro A K h;simp only[Tg]at h;split at h;rename_i e1;exact(vC e1 (K:=fun B=>Hx N B fun B=> ∃ s',K B s') fun g o c=>ih g o c (h g o c)).bind fun _ hB=>hB;exact h.elim
 | ex X post k ih=>
   intro A K h;obtain⟨⟨x,hx⟩,h⟩:=h;exact ih x (h x hx)
 | Qx r p g0 o0 sz xs k ih=>
   intro A K h;exact(vC h.1 (K:=fun B=>Hx N B fun B=> ∃ s',K B s') fun g o c=>ih g o c (h.2 g o c)).bind fun _ hB=>hB
 | _=>intro A K h;exact Hx.of ⟨_,h⟩
theorem iI{T T2:Nat}{t:TI}(h:lW P T T2=some t):∃ e e2,tD P T=some (.sl e)/\tD P T2=some (.sl e2)/\ti P e=some t/\ZF P e t.sz=true/\0<t.sz/\0<t.QD:=by
 unfold lW at h;split at h;rename_i e e2 h1 h2;split at h;rename_i t' h3;split at h;rename_i h4;simp only[Zan]at h;subst h;simp only[Zao]at h4;exact⟨e,e2,h1,h2,h3,h4.1.1,cv h4.1.2,cv h4.2⟩;simp at h;simp at h;simp at h
theorem Bg{T:Nat}(h:De P T=true):∃ e,tD P T=some (.sl e)/\tD P e=some (.int .u8):=by
 unfold De at h;split at h;rename_i e h1;split at h;rename_i h2;exact⟨e,h1,h2⟩;simp at h;simp at h
theorem yr{T:Nat}(h:isStr P T=true):tD P T=some .str:=by
 unfold isStr at h;split at h;rename_i h1;exact h1;simp at h
theorem Iw:∀ (s:Sc P) {gt:GT} {l:List Oper} {A:AS} {K:AS->Sc P->Prop},M9 N ops gt s l A K->(hg:Wt ops gt A:=by exact Hy)->WL P N ops l A fun B=> ∃ s',K B s':=by
 intro s;induction s with
 | nil=>
   intro gt l A K h Qs;cases l with
   | nil=>exact⟨_,h⟩
   | cons o l=>simp only[M9]at h;split at h <;> exact h.elim
 | r n H3 k ih=>
   intro gt l A K h Qs;cases l with
   | nil=>exact⟨_,h⟩
   | cons o l=>
     simp only[M9]at h;split at h;rename_i C A' gt1 e;obtain⟨h1,h2⟩:=qZ.1 h;obtain⟨⟨C1,e1,e2⟩,e3⟩:=xk n e Qs h1;exact tC n e1 e2 (ih h2 e3);exact h.elim
 | cg c k ih=>
   intro gt l A K h Qs;cases l with
   | nil=>exact⟨_,h⟩
   | cons o l=>
     obtain⟨dst,op,ty,pos,after,I6⟩:=o;simp only[M9]at h;split at h;rename_i _ _ f xs QM j b;split at h;rename_i G h1 h2 h3;revert h;cases hu:U5 G (j,b) gt xs.toList A with | mk C0 B=>?_
     intro h;obtain⟨TQ,h⟩:=qZ.1 h;obtain⟨C1,u1,u2⟩:=qa xs.toList (fun t ht c v hv=>by have:=Qs _ ht c v hv;rw[h3]at this;exact(Option.some.inj this).symm) hu TQ;simp only[Zao,Zbl,Bool.not_eq_true']at h1;obtain⟨⟨⟨⟨h1,h4⟩,h5⟩,h6⟩,h7⟩:=h1;subst h1;refine JD (gC h4) h3 u1 h5 rfl (fun hG=>⟨u2,?_,h6,h7⟩) (ih h.2 (Lt Qs h3));obtain⟨VP,hw⟩:=h.1 hG;have hc:=c.ok VP;rw[h2]at hc;have hp:=hc.Hg;refine⟨hp.1,fun w Pb cargs k1 k2=>?_⟩;refine(hp.2 w Pb cargs k1 (by have:=tt _ c.args k2;rw[hw]at this;exact this)).mono ?_;rintro e w' ⟨r,x,F,Pb',rfl,⟨H,q1,_⟩,rest⟩;exact⟨r,x,F,Pb',rfl,by rw[q1],rest⟩;exact h.elim;exact h.elim
 | ex X post k ih=>
   intro gt l A K h Qs;cases l with
   | nil=>exact⟨_,h⟩
   | cons o l=>
     simp only[M9]at h;obtain⟨⟨x,hx⟩,h⟩:=h;exact ih x (h x hx)
 | Qx r p g0 o0 sz xs k ih=>
   intro gt l A K h Qs;cases l with
   | nil=>exact⟨_,h⟩
   | cons o l=>
     simp only[M9]at h;split at h;exact h.elim;rename_i hg;exact xG hg (vC h.1 fun g o1 c=>ih g o1 c (h.2 g o1 c))
 | cu c k ih=>
   intro gt l A K h Qs;cases l with
   | nil=>exact⟨_,h⟩
   | cons o l=>
     obtain⟨dst,op,ty,pos,after,I6⟩:=o;simp only[M9]at h;split at h;exact h.elim;rename_i hg;show N' P N _ A _;exact c.ok rfl h.1 fun x=>ih x (h.2 x)
 | bo k ih=>
   intro gt l A K h Qs;cases l with
   | nil=>exact⟨_,h⟩
   | cons o l=>
     obtain⟨dst,op,ty,pos,after,I6⟩:=o;simp only[M9]at h;split at h;exact h.elim;show N' P N _ A _;split at h;split at h;rename_i e e1;split at h;rename_i i vs e2 e3;split at h;rename_i e4;simp only[Zao]at e4;exact ES rfl rfl (cv e4.1.2) e1 e2 e3 e4.1.1 (cv e4.2) fun g=>ih g (h g);exact h.elim;exact h.elim;exact h.elim;exact h.elim
 | apx xs g0 o0 k ih=>
   intro gt l A K h Qs;cases l with
   | nil=>exact⟨_,h⟩
   | cons o l=>
     obtain⟨dst,op,ty,pos,after,I6⟩:=o;simp only[M9]at h;split at h;exact h.elim;show N' P N _ A _;split at h;split at h;rename_i t e1 e2;split at h;rename_i e3 e4;simp only[Zao,Zbl]at e1;obtain⟨⟨k1,k2,k3⟩,k4,k5,k6,k7,k8⟩:=h;obtain⟨e,e',q1,q2,q3,q4,q5,q6⟩:=iI e2;exact DD rfl e1.1 rfl (cv e1.2) q1 q2 q3 (lr q4) q5 q6 e3 k1 k2 k3 e4 k4 k5 k6 k7 fun g o1 c=>ih g o1 c (k8 g o1 c);exact h.elim;exact h.elim;exact h.elim
 | sp b a1 a2 Zh Zg=>
   intro gt l A K h Qs;cases l with
   | nil=>exact⟨_,h⟩
   | cons o l=>
     simp only[M9]at h;cases b with
     | true=>exact Zh (h.1 rfl)
     | false=>exact Zg (h.2 rfl)
 | gt k ih=>
   intro gt l A K h Qs;cases l with
   | nil=>exact⟨_,h⟩
   | cons o l=>
     obtain⟨dst,op,ty,pos,after,I6⟩:=o;simp only[M9]at h;split at h;rename_i j b;split at h;rename_i G hG;exact tX rfl hG (fun _=>ih h.2) (fun hf=>by rw[h.1]at hf;cases hf);exact h.elim;exact h.elim
 | gf v k ih=>
   intro gt l A K h Qs;cases l with
   | nil=>exact⟨_,h⟩
   | cons o l=>
     obtain⟨dst,op,ty,pos,after,I6⟩:=o;simp only[M9]at h;split at h;rename_i j b;split at h;rename_i G hG hd;exact tX rfl hG (fun ht=>by rw[h.1]at ht;cases ht) (fun _=>⟨gC hd,.gv false v,fun _ _=>⟨rfl,⟨(fun hh=>Bool.noConfusion hh),fun _=>rfl⟩⟩,ih h.2⟩);exact h.elim;exact h.elim
 | cl c k ih=>
   intro gt l A K h Qs;cases l with
   | nil=>exact⟨_,h⟩
   | cons o l=>
     obtain⟨dst,op,ty,pos,after,I6⟩:=o;simp only[M9]at h;split at h;exact h.elim;show N' P N _ A _;split at h;split at h;rename_i C vs e1 e2 e3;simp only[Zao,Zbl]at e1;obtain⟨⟨rfl,e1⟩,e4⟩:=e1;obtain⟨k1,k2,k3,k4⟩:=h;have hc:=c.ok k3;rw[e2]at hc;have hp:=hc.Hg;refine JR (Q:=fun r=>r=c.res) rfl (gC e1) ⟨hp.1,fun w Pb cargs q1 q2=>?_⟩ e3 k1 k2 (fun r hr=>by rw[hr];exact e4) (fun r hr=>by rw[hr];exact ih k4);refine(hp.2 w Pb cargs q1 q2).mono ?_;rintro e w' ⟨r,x,F,Pb',rfl,⟨H,q,_⟩,rest⟩;exact⟨r,x,F,Pb',rfl,q,rest⟩;exact h.elim;exact h.elim
 | h x k ih=>
   intro gt l A K h Qs;cases l with
   | nil=>exact⟨_,h⟩
   | cons o l=>
     simp only[M9]at h;split at h;exact h.elim;rename_i hg;exact xG hg ((Ek h).mono fun B hB=>ih hB)
 | ot t k ih=>
   intro gt l A K h Qs;cases l with
   | nil=>exact⟨_,h⟩
   | cons o l=>
     simp only[M9]at h;split at h;exact h.elim;rename_i hg;split at h;rename_i e1 e2;exact xG hg (EV (cv e1) e2 fun g o1 c=>ih g o1 c (h g o1 c));exact h.elim
 | oR r p k ih=>
   intro gt l A K h Qs;cases l with
   | nil=>exact⟨_,h⟩
   | cons o l=>
     simp only[M9]at h;split at h;exact h.elim;rename_i hg;split at h;rename_i e1;exact xG hg (vC e1 fun g o1 c=>ih g o1 c (h g o1 c));exact h.elim
 | mv k ih=>
   intro gt l A K h Qs;cases l with
   | nil=>exact⟨_,h⟩
   | cons o l=>
     obtain⟨dst,op,ty,pos,after,I6⟩:=o;simp only[M9]at h;split at h;exact h.elim;show N' P N _ A _;split at h;split at h;rename_i e;exact GJ rfl (gC e) (ih h);exact h.elim;split at h;rename_i d vs e1;split at h;rename_i v e2;split at h;rename_i e3;simp only[Zao,Bool.not_eq_true',beq_eq_false_iff_ne]at e3;exact Ct rfl rfl (cv e3.1.1.1) (cv e3.1.1.2) e3.1.2 e1 e2 e3.2 (ih h);exact h.elim;exact h.elim;exact h.elim;split at h;rename_i d i r p g g' e1 e2;split at h;rename_i g2 W0 u e3;split at h;rename_i e4;simp only[Zao,Zbl]at e4;obtain⟨hq,h⟩:=h;simp only[Zaq]at hq;obtain⟨rfl,rfl⟩:=hq;exact AB rfl rfl (cv e4.1.1) e1 e2 e3 e4.1.2 e4.2 (ih h);exact h.elim;exact h.elim;exact h.elim;exact h.elim
 | c c ks k ih=>
   intro gt l A K h Qs;cases l with
   | nil=>exact⟨_,h⟩
   | cons o l=>
     obtain⟨dst,op,ty,pos,after,I6⟩:=o;simp only[M9]at h;split at h;exact h.elim;show N' P N _ A _;split at h;split at h;rename_i vs B e1 e2;split at h;rename_i e3;simp only[Zao,Zbl]at e3;obtain⟨⟨⟨⟨h1,h2⟩,h3⟩,h4⟩,h5⟩:=e3;subst h1;obtain⟨k1,h⟩:=h;obtain⟨k2,k3,k4⟩:=mA h;refine sy ks rfl e1 (gC h2) h3 h4 (c.ok k3) (by rw[e2];exact k1) (by rw[e2];exact h5) (by rw[e2];exact k2) ?_;rintro r H' ⟨rfl,rfl⟩;rw[e2];exact ih k4;exact h.elim;exact h.elim;exact h.elim
 | cx c ks k ih=>
   intro gt l A K h Qs;cases l with
   | nil=>exact⟨_,h⟩
   | cons o l=>
     obtain⟨dst,op,ty,pos,after,I6⟩:=o;simp only[M9]at h;split at h;exact h.elim;show N' P N _ A _;split at h;split at h;rename_i vs B e1 e2;split at h;rename_i e3;simp only[Zao,Zbl]at e3;obtain⟨⟨⟨⟨h1,h2⟩,h3⟩,h4⟩,h5⟩:=e3;subst h1;obtain⟨k1,h⟩:=h;obtain⟨k2,k3,k4⟩:=mA h;refine sy ks rfl e1 (gC h2) h3 h4 (c.ok k3) (by rw[e2];exact k1) (by rw[e2];exact h5) (by rw[e2];exact k2) ?_;rintro r H' ⟨x,hx,rfl,rfl⟩;rw[e2];exact ih x (k4 x hx);exact h.elim;exact h.elim;exact h.elim
 | al z k ih=>
   intro gt l A K h Qs;cases l with
   | nil=>exact⟨_,h⟩
   | cons o l=>
     obtain⟨dst,op,ty,pos,after,I6⟩:=o;simp only[M9]at h;split at h;exact h.elim;show N' P N _ A _;split at h;split at h;rename_i e;simp only[Zao,Zbl]at e;obtain⟨rfl,e⟩:=e;exact wB rfl rfl (cv e) z.ok fun g=>ih g (h g);exact h.elim;exact h.elim
 | bx k ih=>
   intro gt l A K h Qs;cases l with
   | nil=>exact⟨_,h⟩
   | cons o l=>
     obtain⟨dst,op,ty,pos,after,I6⟩:=o;simp only[M9]at h;split at h;exact h.elim;show N' P N _ A _;split at h;split at h;rename_i e;simp only[Zao]at e;exact Mp rfl rfl (cv e.1) e.2 fun g=>ih g (h g);exact h.elim;exact h.elim
 | st old k ih=>
   intro gt l A K h Qs;cases l with
   | nil=>exact⟨_,h⟩
   | cons o l=>
     obtain⟨dst,op,ty,pos,after,I6⟩:=o;simp only[M9]at h;split at h;exact h.elim;show N' P N _ A _;split at h;split at h;rename_i i r p g g' e1 e2;split at h;split at h;rename_i g2 W0 u e3;split at h;rename_i e4;simp only[Zao,Zbl]at e4;obtain⟨hq,h⟩:=h;simp only[Zaq]at hq;obtain⟨rfl,rfl⟩:=hq;exact vW rfl rfl e1 e2 e3 e4.1.1 e4.1.2 e4.2 (ih h);exact h.elim;exact h.elim;split at h;rename_i u e4;simp only[Zao,Zbl]at e4;exact vW rfl rfl e1 e2 h.1 e4.1.1 e4.1.2 e4.2 (ih h.2);exact h.elim;exact h.elim;exact h.elim
 | ap k ih=>
   intro gt l A K h Qs;cases l with
   | nil=>exact⟨_,h⟩
   | cons o l=>
     obtain⟨dst,op,ty,pos,after,I6⟩:=o;simp only[M9]at h;split at h;exact h.elim;show N' P N _ A _;split at h;split at h;rename_i t e1 e2;split at h;rename_i e3 e4;simp only[Zao,Zbl]at e1;obtain⟨k1,k2,k3,k4,k5,k6⟩:=h;obtain⟨e,e',q1,q2,q3,q4,q5,q6⟩:=iI e2;exact qO rfl e1.1 rfl (cv e1.2) q1 q2 q3 (lr q4) q5 q6 e3 k1 e4 k2 k3 k4 k5 fun g o1 c=>ih g o1 c (k6 g o1 c);rename_i e3 e4;split at h;rename_i e5;simp only[Zao,Zbl]at e1;obtain⟨k1,k2,k3,k4,k5,k6⟩:=h;obtain⟨e,e',q1,q2,q3,q4,q5,q6⟩:=iI e2;exact Dz rfl e1.1 rfl (cv e1.2) q1 q2 q3 (lr q4) q5 q6 e5 k1.1 k1.2 e4 k2 k3 k4 k5 fun g o1 c=>ih g o1 c (k6 g o1 c);exact h.elim;exact h.elim;exact h.elim;exact h.elim
 | bd z k ih=>
   intro gt l A K h Qs;cases l with
   | nil=>exact⟨_,h⟩
   | cons o l=>
     obtain⟨dst,op,ty,pos,after,I6⟩:=o;simp only[M9]at h;split at h;exact h.elim;split at h;split at h;rename_i zs e1 e2;split at h;rename_i v e3;simp only[Zao,Zbl]at e1;obtain⟨rfl,e1⟩:=e1;have hz:=z.ok;rw[e2]at hz;exact JH zs v hz (gC e1) e3 (ih h);exact h.elim;exact h.elim;exact h.elim
 | bs k ih=>
   intro gt l A K h Qs;cases l with
   | nil=>exact⟨_,h⟩
   | cons o l=>
     obtain⟨dst,op,ty,pos,after,I6⟩:=o;simp only[M9]at h;split at h;exact h.elim;split at h;split at h;rename_i e e1;split at h;rename_i i vs e2 e3;split at h;rename_i e4;simp only[Zao]at e4;exact Co e i vs ⟨e1,e2⟩ (gC e4.2) e3 e4.1 (ih h);exact h.elim;exact h.elim;exact h.elim;exact h.elim
 | QD bs k ih=>
   intro gt l A K h Qs;cases l with
   | nil=>exact⟨_,h⟩
   | cons o l=>
     obtain⟨dst,op,ty,pos,after,I6⟩:=o;simp only[M9]at h;split at h;exact h.elim;split at h;split at h;rename_i C ys e1 e2;simp only[Zao]at e1;obtain⟨hC,rfl,h⟩:=h;obtain⟨e,q1,q2⟩:=Bg e1.1.1;exact Et e C bs ⟨q1,q2,yr e1.1.2⟩ (gC e1.2) e2 hC (ih h);exact h.elim;exact h.elim
 | sb bs k ih=>
   intro gt l A K h Qs;cases l with
   | nil=>exact⟨_,h⟩
   | cons o l=>
     obtain⟨dst,op,ty,pos,after,I6⟩:=o;simp only[M9]at h;split at h;exact h.elim;split at h;split at h;rename_i e1;simp only[Zao]at e1;obtain⟨e,q1,q2⟩:=Bg e1.1.2;exact EE e bs ⟨yr e1.1.1,q1,q2⟩ (cv e1.2) h.1 fun g c=>ih g c (h.2 g c);exact h.elim;exact h.elim
 | mm k ih=>
   intro gt l A K h Qs;cases l with
   | nil=>exact⟨_,h⟩
   | cons o l=>
     obtain⟨dst,op,ty,pos,after,I6⟩:=o;simp only[M9]at h;split at h;exact h.elim;split at h;split at h;rename_i kd p Vs q e1 e2 e3;obtain⟨rfl,h⟩:=h;exact Ns _ p q (gC e3) e1 e2 (ih h);rename_i kd p Vs q e1 e2 e3;obtain⟨rfl,h⟩:=h;exact NM _ p q (gC e3) e1 e2 (ih h);exact h.elim;exact h.elim
 | rs k ih=>
   intro gt l A K h Qs;cases l with
   | nil=>exact⟨_,h⟩
   | cons o l=>
     obtain⟨dst,op,ty,pos,after,I6⟩:=o;simp only[M9]at h;split at h;exact h.elim;split at h;split at h;rename_i e1 e2 e3;obtain⟨hq,⟨h1,h2,h3⟩,h⟩:=h;simp only[Zaq]at hq;obtain⟨rfl,rfl,rfl,rfl⟩:=hq;exact GS _ _ _ _ (cv e3) e1 e2 h1 h2 h3 (ih h);exact h.elim;exact h.elim
 | _=>
   intro gt l A K h Qs;cases l with
   | nil=>exact⟨_,h⟩
   | cons o l=>simp only[M9]at h;split at h <;> exact h.elim
end
section
variable {P:Program} {N:Nat} {ops:Array Oper} {A A' A1 B:AS}
def sj(P:Program)(N:Nat)(ops:Array Oper)(o:Oper)(A:AS)(v:V):Prop:=
 ∀ A':AS,(∀ t,t∈o.looksAt ops->A'.get t=A.get t)->gd ops o A' (N' P N o A' (fun B=>M1 B (A'.put o.dst v))) (dP N o.dst/\∀ w Pb,RV w Pb v undef [])
def Pq(ops:Array Oper)(Sl Hl:List Nat)(A:AS):Op->Bool
 | .load _ x=>match A.ev x with
   | .ptr (.slot i) _ _ _=>ops.toList.all (fun o=>o.dst != some i)&&!Sl.contains i
   | .ptr (.key k) _ _ _=>!Hl.contains k
   | _=>true
 | _=>true
theorem Dh{o:Oper}{x:Operand}(hg:o.guard=none)(ho:o.op=.assign x)(hd:dP N o.dst)(hn:(A.ev x).eE=false):sj P N ops o A (A.ev x):=by
 intro A' h1;unfold gd;rw[hg];simp only;have e1:A'.ev x=A.ev x:=cw fun t ht=>h1 t (gO (by rw[ho,ht];simp[Op.operands]));have e2:A'.drop x=A':=by
  cases x with
  | tmp t=>
    have e3:A'.get t=A.get t:=e1;have XK:(A.get t).eE=false:=hn;simp[AS.drop,e3,XK]
  | _=>rfl
 rw[<- e1];refine zR ho hd ?_;rw[e2];exact⟨fun _=>rfl,fun _=>rfl⟩
theorem GR{d:Option Nat} {f:FuncId} {xs:Array Operand} {QM:Array TypeId} {ty:TypeId} {pos:String} {after:Array Edge}
 {Q:V->Prop} {E:V} (hd:dP N d) (hc:PC P f (xs.toList.map A.cp) Q) (hE:∀ r,Q r->r.er=E):
 sj P N ops ⟨d,.call { callee:=.value (.func f),args:=xs,argTypes:=QM },ty,pos,after,none⟩ A E:=fun A' h1=>by
 unfold gd;refine sR rfl hd ?_ hE ⟨fun _=>rfl,fun _=>rfl⟩;rw[wM fun t ht=>h1 t (gO (by simp[Op.operands,Call.operands];simpa using ht))];exact hc
theorem ze{d:Option Nat} {T len ty:Nat} {j8:Array (Nat×Operand)} {pos:String} {after:Array Edge} (e:Nat) (i:TI) (vs:List V)
 (VE:tD P T=some (.sl e)/\ti P e=some i) (hd:dP N d) (VD:ig A 0 j8.toList=some vs) (hB:Wr P T e len i vs=true):
 sj P N ops ⟨d,.buildSlice T len j8,ty,pos,after,none⟩ A (.sl true vs):=fun A' h1=>by
 show N' P N _ A' _;refine HC rfl hd VE.1 VE.2 ?_ hB ⟨fun _=>rfl,fun _=>rfl⟩;rw[sU (A:=A) _ _ (fun t ht=>h1 t (gO (by simpa[Op.operands] using ht)))];exact VD
theorem EA{d:Option Nat} {T ty:Nat} {j8:Array (Nat×Operand)} {pos:String} {after:Array Edge} (zs:List V) (v:V)
 (hz:rJ P T (.agg zs)) (hd:dP N d) (hb:pW P A T zs j8.toList=some v):sj P N ops ⟨d,.build T j8,ty,pos,after,none⟩ A v:=fun A' h1=>by
 show N' P N _ A' _;have e:pW P A' T zs j8.toList=some v:=by
  rw[<- hb];unfold pW;have:(j8.toList.map fun (i,x)=>(i,A'.cp x))=j8.toList.map fun (i,x)=>(i,A.cp x):=by
   apply List.map_congr_left;rintro⟨i,x⟩ hx;simp only;rw[px (x:=x) fun t ht=>h1 t (gO (by
    subst ht;simp only[Op.operands,List.mem_map];exact⟨(i,.tmp t),hx,rfl⟩))]
  rw[this]
 obtain⟨C,k1,k2⟩:=Cm e;exact Ch rfl hd hz k1 k2 ⟨fun _=>rfl,fun _=>rfl⟩
theorem AZ{d:Option Nat} {src dst ty:Nat} {x:Operand} {pos:String} {after:Array Edge} (e:Nat) (full:Bool) (bs:BL)
 (ht:tD P src=some (.sl e)/\tD P e=some (.int .u8)/\tD P dst=some .str) (hd:dP N d) (hx:A.ev x=.sl full (bs.map B7)):
 sj P N ops ⟨d,.convert src dst x,ty,pos,after,none⟩ A (sV bs):=fun A' h1=>by
 show N' P N _ A' _;have e1:A'.ev x=.sl full (bs.map B7):=by rw[<- hx];exact cw fun t ht=>h1 t (gO (by rw[ht];simp[Op.operands]))
 exact wX rfl hd ht.1 ht.2.1 ht.2.2 (C:=True) (by simp only[Re,e1]) trivial ⟨fun _=>rfl,fun _=>rfl⟩
def lN(b:Option (Sum Nat (Nat×List Nat)))(B:AS):AS:=match b with
 | none=>B
 | some (.inl t)=>B.put (some t) .c9
 | some (.inr (k,p))=>B.setAt (.key k) p .c9
def ZB(A:AS)(s:Operand)(sz:Nat):Option (Prop×Option (Sum Nat (Nat×List Nat))×List V):=
 match s with
 | .const (.slice none 0 0)=>some (True,none,[])
 | .tmp t=>match A.get t with
   | .sl true []=>some (True,none,[])
   | .own Qw xs _ _ _=>some (Qw=sz,some (.inl t),xs)
   | .hd (.slot i) [] Qw g o 0 n c=>match A.get i with
     | .own RB xs g2 o2 c2=>some ((Qw,RB,g2,o2,c2,n)=(sz,sz,g,o,c,xs.length),some (.inl i),xs)
     | _=>none
   | .hd (.key k) p Qw g o 0 n c=>match A.at (.key k) p with
     | some (_,_,.own RB xs g2 o2 c2)=>some ((Qw,RB,g2,o2,c2,n)=(sz,sz,g,o,c,xs.length),some (.inr (k,p)),xs)
     | _=>none
   | _=>none
 | _=>none
theorem LH{s:Operand}{sz:Nat}{C:Prop}{b:Option (Sum Nat (Nat×List Nat))}{xs:List V}(h:ZB A s sz=some (C,b,xs)):UO A s sz=some (C,lN b A,xs):=by
 have fin:∀ {C':Prop} {b':Option (Sum Nat (Nat×List Nat))} {xs':List V},some (C',b',xs')=some (C,b,xs)->some (C',lN b' A,xs')=some (C,lN b A,xs):=fun h=>by
  have h:=Option.some.inj h;have h1:=(Prod.mk.inj h).1;have h2:=(Prod.mk.inj (Prod.mk.inj h).2).1;have h3:=(Prod.mk.inj (Prod.mk.inj h).2).2;rw[h1,h2,h3]
 unfold ZB at h;unfold UO;split at h;exact fin h;split at h;rename_i e;(try simp only[e]);exact fin h;rename_i e;(try simp only[e]);exact fin h;rename_i e;(try simp only[e]);split at h;rename_i e2;(try simp only[e2]);exact fin h;simp at h;rename_i e;(try simp only[e]);split at h;rename_i e2;(try simp only[e2]);exact fin h;simp at h;simp at h;simp at h
def tm(s:Operand)(Sl El Hl:List Nat):Option (Sum Nat (Nat×List Nat))->Bool
 | none=>true
 | some (.inl t)=>Sl.contains t&&(match s with | .tmp q=>q==t||El.contains t | _=>false)
 | some (.inr (k,_))=>Hl.contains k
theorem Io{s:Operand} {sz:Nat} {C:Prop} {b:Option (Sum Nat (Nat×List Nat))} {xs:List V} {Sl El Hl:List Nat} (h:ZB A s sz=some (C,b,xs)) (hb:tm s Sl El Hl b=true)
 (h1:∀ t,s=.tmp t->A'.get t=A.get t) (h2:∀ t,t∈El->A'.get t=A.get t) (h3:∀ k,lk k A'.h=lk k A.h):ZB A' s sz=some (C,b,xs):=by
 unfold ZB at h ⊢;split at h;exact h;rename_i t;have hg:=h1 t rfl;have hk:∀ k p,A'.at (.key k) p=A.at (.key k) p:=fun k p=>by simp only[AS.at,h3]
 simp only[hg,hk];split at h;exact h;exact h;rename_i i Qw g o n c e;split at h;rename_i RB xs2 g2 o2 c2 e2;have:A'.get i=A.get i:=by
  simp only[Zan]at h;obtain⟨_,h⟩:=Prod.mk.inj h;obtain⟨rfl,_⟩:=Prod.mk.inj h;simp only[tm,Zao,Bool.or_eq_true,Zbl]at hb;rcases hb.2 with q | q;rw[<- q];exact hg;exact h2 i (by simpa using q)
 simp only[this,e2];exact h;simp at h;exact h;simp at h;simp at h
def GB(P:Program)(N:Nat)(Sl El Hl:List Nat)(o:Oper)(A:AS)(z:Option (ZT P)):Option (Prop×(Nat×Nat×Nat->AS->AS)):=
 match o.op,o.dst with
 | .alloc T,some d=>match z with
   | some z=>match T==z.T&&Nat.blt d N&&Sl.contains d&&Hl.contains d with
     | true=>some (True,fun gh B=>⟨(d,.ptr (.key d) [] gh.1 0)::B.t,(d,(gh.1,z.v))::B.h⟩)
     | false=>none
   | none=>none
 | .call ⟨.builtin .append,⟨[s,x]⟩,⟨[T,T2]⟩⟩,some d=>match o.type==T&&Nat.blt d N&&Sl.contains d,lW P T T2 with
   | true,some t=>match ZB A s t.sz,A.ev x with
     | some (C,b,xs),.sl _ ys=>match tm s Sl El Hl b with
       | true=>some (C/\V.aK ys=false/\aX t.sz ys/\(xs.length+ys.length)*t.QD<=140737488355328,fun gh B=>(lN b B).put (some d) (.own t.sz (xs++ys) gh.1 gh.2.1 gh.2.2))
       | false=>none
     | none,.sl _ ys=>match Y4 A s t.sz with
       | some (C,xs)=>some ((C/\0<ys.length)/\V.aK ys=false/\aX t.sz ys/\(xs.length+ys.length)*t.QD<=140737488355328,fun gh B=>B.put (some d) (.own t.sz (xs++ys) gh.1 gh.2.1 gh.2.2))
       | none=>none
     | _,_=>none
   | _,_=>none
 | .load T x,some d=>match ti P T,A.ev x with
   | some i,.ptr (.key k) p g g'=>match A.at (.key k) p with
     | some (g2,W0,u)=>match Nat.blt d N&&u.n==i.sz&&i.d.agg==u.isAgg&&Sl.contains d&&Hl.contains k with
       | true=>some ((g2,W0)=(g,g'),fun _ B=>(B.setAt (.key k) p u.kill).put (some d) u)
       | false=>none
     | none=>none
   | _,_=>none
 | _,_=>none
theorem cP{k:Nat}{p:List Nat}{v:V}{t:Nat}:(B.setAt (.key k) p v).get t=B.get t:=by
 simp only[AS.setAt];split <;> rfl
theorem uk{k q:Nat}{p:List Nat}{v:V}(h:q≠k):lk q (B.setAt (.key k) p v).h=lk q B.h:=by
 simp only[AS.setAt];split;simp only[lk];rw[if_neg h];rfl
theorem jh{k q:Nat}{p:List Nat}{v:V}{B':AS}(h:∀ k,lk k B.h=lk k B'.h):lk q (B.setAt (.key k) p v).h=lk q (B'.setAt (.key k) p v).h:=by
 simp only[AS.setAt];rw[<- h k];split;simp only[lk];split;rfl;exact h q;exact h q
theorem qM{B C:AS}{d:Option Nat}{v:V}(h:M1 B C):M1 (B.put d v) (C.put d v):=by
 cases d with
 | none=>exact h
 | some d'=>exact⟨fun t=>by rw[AS.bg,AS.bg];split
                            rfl;exact h.1 t,h.2⟩
theorem qz{k k0:Nat}{p:List Nat}{v:V}{gv:Nat×V}(h:k≠k0):M1 (AS.setAt ⟨B.t,(k,gv)::B.h⟩ (.key k0) p v) ⟨(B.setAt (.key k0) p v).t,(k,gv)::(B.setAt (.key k0) p v).h⟩:=by
 have e:lk k0 ((k,gv)::B.h)=lk k0 B.h:=by simp only[lk];rw[if_neg (Ne.symm h)]
 simp only[AS.setAt,e];split;refine⟨fun _=>rfl,fun x=>?_⟩;simp only[lk];by_cases c:x=k;rw[if_pos c,if_neg (fun c2=>h (c.symm.trans c2)),if_pos c];rw[if_neg c,if_neg c];exact⟨fun _=>rfl,fun _=>rfl⟩
theorem yT{A B:AS}{k:Nat}{gv:Nat×V}{d:Nat}{v:V}(h:M1 A ⟨B.t,(k,gv)::B.h⟩):M1 (A.put (some d) v) ⟨(B.put (some d) v).t,(k,gv)::(B.put (some d) v).h⟩:=qM h
theorem Mo{Sl El Hl:List Nat}{o:Oper}{z:Option (ZT P)}{C:Prop}{U:Nat×Nat×Nat->AS->AS}(h:GB P N Sl El Hl o A z=some (C,U))(hC:C)(d:Nat)(hd:o.dst=some d):
 UOk U Sl Hl d/\OS P N ops El U o A:=by
 obtain⟨dst,op,ty,pos,after,I6⟩:=o;simp only at hd;subst hd;unfold GB at h;simp only at h;split at h;rename_i T d' e;simp only[Zan]at e;subst e;split at h;rename_i z;split at h;rename_i e;simp only[Zan,Zaq]at h;obtain⟨_,rfl⟩:=h;simp only[Zao,Zbl,Zbi,Zbk]at e;obtain⟨⟨⟨rfl,e1⟩,e2⟩,e3⟩:=e;refine⟨⟨fun gh B t ht=>?_,fun gh B k hk=>?_,fun gh B B' hB=>⟨fun t=>?_,fun k=>?_⟩,fun gh B t v ht=>⟨fun q=>?_,fun k=>rfl⟩,fun gh B v=>⟨fun q=>?_,fun k=>rfl⟩,fun gh B k gv hq=>?_⟩,fun A' _ _ K hK=>?_⟩;simp only[AS.get,lk];rw[if_neg (fun c=>ht (by rw[c];exact e2))];simp only[lk];rw[if_neg (fun c=>hk (by rw[c];exact e3))];simp only[AS.get,lk];split;rfl;exact hB.1 t;simp only[lk];split;rfl;exact hB.2 k;simp only[AS.put,AS.get,lk];by_cases c:q=d;subst c;rw[if_pos rfl,if_neg (fun c=>ht (by rw[<- c];exact e2)),if_pos rfl];rw[if_neg c,if_neg c];simp only[AS.put,AS.get,lk];by_cases c:q=d;subst c;simp;rw[if_neg c,if_neg c,if_neg c];refine⟨fun _=>rfl,fun x=>?_⟩;simp only[lk];by_cases c:x=d;rw[if_pos c,if_neg (fun c2=>hq (by rw[<- c2,c];exact e3)),if_pos c];rw[if_neg c,if_neg c];exact wB rfl rfl (cv e1) z.ok fun g=>hK (g,0,0);simp at h;simp at h;rename_i s x T T2 d' e;simp only[Zan]at e;subst e;split at h;rename_i t e1 e2;split at h;rename_i Cb b xs fl ys e3 e4;split at h;rename_i e5;simp only[Zan,Zaq]at h;obtain⟨rfl,rfl⟩:=h;simp only[Zao,Zbl,Zbi,Zbk]at e1;obtain⟨⟨rfl,e1⟩,e6⟩:=e1;obtain⟨k1,k3,k4,k5⟩:=hC;have tg:∀ (B:AS) t,t ∉ Sl->(lN b B).get t=B.get t:=fun B t ht=>by
  cases b with
  | none=>rfl
  | some b=>cases b with
    | inl q=>
      simp only[tm,Zao,Zbi,Zbk]at e5;simp only[lN];rw[AS.bg,if_neg (fun c=>ht (by rw[c];exact e5.1))]
    | inr kp=>simp only[lN];exact cP
 have tg2:∀ (B B':AS) t,B.get t=B'.get t->(lN b B).get t=(lN b B').get t:=fun B B' t ht=>by
  cases b with
  | none=>exact ht
  | some b=>cases b with
    | inl q=>simp only[lN];rw[AS.bg,AS.bg,ht]
    | inr kp=>simp only[lN];rw[cP,cP];exact ht
 have th:∀ (B B':AS) k,(∀ k,lk k B.h=lk k B'.h)->lk k (lN b B).h=lk k (lN b B').h:=fun B B' k hk=>by
  cases b with
  | none=>exact hk k
  | some b=>cases b with
    | inl q=>exact hk k
    | inr kp=>exact jh hk
 refine⟨⟨fun gh B q hq=>?_,fun gh B k hk=>?_,fun gh B B' hB=>?_,fun gh B q v hq=>⟨fun q2=>?_,fun k=>th _ _ k fun _=>rfl⟩,fun gh B v=>⟨fun q=>?_,fun k=>th _ _ k fun _=>rfl⟩,fun gh B k gv hq=>?_⟩,fun A' h1 h2 K hK=>?_⟩;rw[AS.bg,if_neg (fun c=>hq (by rw[c];exact e6))];exact tg B q hq;show lk k (lN b B).h=_;cases b with
 | none=>rfl
 | some b=>cases b with
   | inl q=>rfl
   | inr kp=>
     obtain⟨k0,p0⟩:=kp;simp only[tm,Zbi,Zbk]at e5;exact uk (fun c=>hk (by rw[c];exact e5))
 exact qM ⟨fun q=>tg2 _ _ q (hB.1 q),fun k=>th _ _ k hB.2⟩;rw[AS.bg,AS.bg,AS.bg];by_cases c:q2=d;subst c;rw[if_pos rfl,if_neg (fun c=>hq (by rw[<- c];exact e6)),if_pos rfl];rw[if_neg c];by_cases c2:q2=q;subst c2;rw[if_pos rfl,tg _ _ hq,AS.bg,if_pos rfl];rw[if_neg c2,if_neg c];exact tg2 _ _ _ (by rw[AS.bg,if_neg c2]);rw[AS.bg,AS.bg];by_cases c:q=d;rw[if_pos c,if_pos c];rw[if_neg c,if_neg c];exact tg2 _ _ _ (by rw[AS.bg,if_neg c]);refine yT ?_;cases b with
 | none=>exact⟨fun _=>rfl,fun _=>rfl⟩
 | some b=>cases b with
   | inl q=>exact⟨fun _=>rfl,fun _=>rfl⟩
   | inr kp=>
     obtain⟨k0,p0⟩:=kp;simp only[tm,Zbi,Zbk]at e5;exact qz (fun c=>hq (by rw[c];exact e5))
 obtain⟨e,e',q1,q2,q3,q4,q5,q6⟩:=iI e2;have hs:∀ t,s=.tmp t->A'.get t=A.get t:=fun t ht=>h1 t (.inl (gO Zb0));have hx:A'.ev x=A.ev x:=cw fun t ht=>h1 t (.inl (gO Zb0));have Va:=LH (Io e3 e5 hs (fun t ht=>h1 t (.inr ht)) h2);exact qO rfl rfl rfl (cv e1) q1 q2 q3 (lr q4) q5 q6 Va k1 (by unfold Re;rw[hx,e4]) trivial k3 k4 k5 fun g o1 c=>hK (g,o1,c);simp at h;rename_i fl ys e3 e4;split at h;rename_i C0 xs e5;simp only[Zan,Zaq]at h;obtain⟨rfl,rfl⟩:=h;simp only[Zao,Zbl,Zbi,Zbk]at e1;obtain⟨⟨rfl,e1⟩,e6⟩:=e1;obtain⟨⟨k1,k2⟩,k3,k4,k5⟩:=hC;refine⟨⟨fun gh B q hq=>?_,fun gh B k hk=>rfl,fun gh B B' hB=>qM hB,fun gh B q v hq=>⟨fun q2=>?_,fun k=>rfl⟩,fun gh B v=>⟨fun q=>?_,fun k=>rfl⟩,fun gh B k gv hq=>⟨fun _=>rfl,fun _=>rfl⟩⟩,fun A' h1 h2 K hK=>?_⟩;rw[AS.bg,if_neg (fun c=>hq (by rw[c];exact e6))];rw[AS.bg,AS.bg,AS.bg,AS.bg];by_cases c:q2=d;subst c;rw[if_pos rfl,if_neg (fun c=>hq (by rw[<- c];exact e6)),if_pos rfl];rw[if_neg c,if_neg c];rw[AS.bg,AS.bg,AS.bg];split <;> rfl;obtain⟨e,e',q1,q2,q3,q4,q5,q6⟩:=iI e2;have hs:Y4 A' s t.sz=Y4 A s t.sz:=by
  cases s with
  | tmp q=>simp only[Y4,h1 q (.inl (gO (by simp[Op.operands,Call.operands])))]
  | _=>rfl
 have hx:A'.ev x=A.ev x:=cw fun t ht=>h1 t (.inl (gO Zb0));exact Dz rfl rfl rfl (cv e1) q1 q2 q3 (lr q4) q5 q6 (by rw[hs];exact e5) k1 k2 (by unfold Re;rw[hx,e4]) trivial k3 k4 k5 fun g o1 c=>hK (g,o1,c);simp at h;simp at h;simp at h;rename_i T x d' e;simp only[Zan]at e;subst e;split at h;rename_i i k p g g' e1 e2;split at h;rename_i g2 W0 u e3;split at h;rename_i e4;simp only[Zan]at h;obtain⟨hq,rfl⟩:=Prod.mk.inj h;subst hq;obtain⟨rfl,rfl⟩:=Prod.mk.inj hC;simp only[Zao,Zbl,Zbi,Zbk]at e4;obtain⟨⟨⟨⟨e4,e5⟩,e6⟩,e7⟩,e8⟩:=e4;refine⟨⟨fun gh B q hq=>?_,fun gh B q hq=>?_,fun gh B B' hB=>?_,fun gh B q v hq=>⟨fun q2=>?_,fun k=>jh fun _=>rfl⟩,fun gh B v=>⟨fun q=>?_,fun k=>jh fun _=>rfl⟩,fun gh B k gv hq=>yT (qz (fun c=>hq (by rw[c];exact e8)))⟩,fun A' h1 h2 K hK=>?_⟩;rw[AS.bg,if_neg (fun c=>hq (by rw[c];exact e7))];exact cP;exact uk (fun c=>hq (by rw[c];exact e8));exact qM ⟨fun q=>by rw[cP,cP];exact hB.1 q,fun k=>jh hB.2⟩;rw[AS.bg,AS.bg,AS.bg];by_cases c:q2=d;subst c;rw[if_pos rfl,if_neg (fun c=>hq (by rw[<- c];exact e7)),if_pos rfl];rw[if_neg c];by_cases c2:q2=q;subst c2;rw[if_pos rfl,cP,AS.bg,if_pos rfl];rw[if_neg c2,if_neg c,cP,cP,AS.bg,if_neg c2];rw[AS.bg,AS.bg];by_cases c:q=d;rw[if_pos c,if_pos c];rw[if_neg c,if_neg c,cP,cP,AS.bg,if_neg c];have hx:A'.ev x=A.ev x:=cw fun t ht=>h1 t (.inl (gO (by subst ht;simp[Op.operands])));exact AB rfl rfl (cv e4) e1 (by rw[hx];exact e2) (by simp only[AS.at,h2];simpa only[AS.at] using e3) e5 e6 (hK (0,0,0));simp at h;simp at h;simp at h;simp at h
end
section
variable {P:Program} {N:Nat} {ops:Array Oper} {A A' A1 B:AS} {sp:Nat} {Sl El Hl:List Nat} {U:Nat×Nat×Nat->AS->AS}
theorem LO{d:Option Nat}{xs:Array Operand}{QM:Array TypeId}{ty:TypeId}{pos:String}{after:Array Edge}(c:Yc P)(hd:dP N d)(hH:c.H=[])(k1:R1 (xs.toList.map A.cp) c.args=c.args)(k2:c.pre):
 sj P N ops ⟨d,.call { callee:=.value (.func c.f),args:=xs,argTypes:=QM },ty,pos,after,none⟩ A c.res.er:=by
 have hc:=c.ok k2;rw[hH]at hc;have hp:=hc.Hg;refine GR (Q:=fun r=>r=c.res) hd ?_ (fun r hr=>by rw[hr]);refine⟨hp.1,fun w Pb cargs q1 q2=>?_⟩;refine(hp.2 w Pb cargs q1 (by have:=tt _ c.args q2;rw[k1]at this;exact this)).mono ?_;rintro e w' ⟨r,x,F,Pb',rfl,⟨H,q,_⟩,rest⟩;exact⟨r,x,F,Pb',rfl,q,rest⟩
end
def hdP(A:AS)(l:List Nat)(k:Nat):List Nat->Bool
 | [i]=>Nat.blt i 10&&l.contains (hM+(100*k+i))&&(QR A.h (100*k+i)).isSome
 | [i,j]=>(Nat.blt 0 i&&Nat.blt i 10&&Nat.blt j 10)&&l.contains (hM+(100*k+(10*i+j)))&&(QR A.h (100*k+(10*i+j))).isSome
 | _=>false
theorem Hj{i:Nat}(h:i<10):Vl i=[i]:=if_pos (by simpa[Nat.blt_eq] using h)
theorem KU{i j:Nat}(h:0<i)(hj:j<10):Vl (10*i+j)=[i,j]:=by
 unfold Vl;rw[if_neg (by rw[Nat.blt_eq];omega),show (10*i+j) / 10=i from Zac,show (10*i+j) % 10=j from Zac]
theorem Ot{A:AS}{l:List Nat}{k:Nat}{p:List Nat}(h:hdP A l k p=true):∃ m,p=Vl m/\m<100/\hM+(100*k+m)∈l/\(QR A.h (100*k+m)).isSome=true:=by
 unfold hdP at h;split at h;rename_i i;simp only[Zao]at h;have hi:i<10:=by simpa[Nat.blt_eq] using h.1.1
 exact⟨i,(Hj hi).symm,Zac,by simpa using h.1.2,h.2⟩;rename_i i j;simp only[Zao]at h;have h1:0<i:=by simpa[Nat.blt_eq] using h.1.1.1.1
 have h2:i<10:=by simpa[Nat.blt_eq] using h.1.1.1.2
 have h3:j<10:=by simpa[Nat.blt_eq] using h.1.1.2
 exact⟨10*i+j,(KU h1 h3).symm,Zac,by simpa using h.1.2,h.2⟩;cases h
def ZL(Hl prom:List Nat):Bool:=Hl.all fun x=>Nat.blt x hM||prom.contains (x-hM)
theorem Ac{Hl prom:List Nat}{q:Nat}(h:ZL Hl prom=true)(hq:hM+q∈Hl):q∈prom:=by
 have:=Za2.1 h _ hq;rw[Bool.or_eq_true]at this;rcases this with h | h;exfalso;have:hM+q<hM:=by simpa[Nat.blt_eq] using h
 omega;rw[Nat.add_sub_cancel_left]at h;simpa using h
def Hh(a b:List Nat):Bool:=a.all fun x=>b.contains x&&Nat.blt x hM
theorem MB{a b:List Nat}{A A':AS}(h:Hh a b=true)(h2:W4 A' A (some b)):∀ k,k∈a->lk k A'.h=lk k A.h:=fun k hk=>by
 have:=Za2.1 h k hk;rw[Zao]at this;have h3:=h2 k (by simpa using this.1);unfold UP at h3;rw[if_pos this.2]at h3;exact h3
theorem Jf{A:AS}{k i g o n:Nat}{v:V}(h:QR A.h (100*k+i)=some (g,o,v,n))(hi:i<100):∃ sz xs g1 o1 c,v=.own sz [] g1 o1 c/\n=xs.length/\A.at (.key k) (Vl i)=some (g,o,.own sz xs g1 o1 c):=by
 unfold QR at h;rw[show (100*k+i) / 100=k from Zac,show (100*k+i) % 100=i from Zac]at h;split at h;rename_i g0 v0 e;unfold V1 at h;split at h;rename_i g' o' sz xs g1 o1 c e2;simp only[Zan,Zaq]at h;obtain⟨rfl,rfl,rfl,rfl⟩:=h;exact⟨sz,xs,g1,o1,c,rfl,rfl,by simp only[AS.at,e,e2]⟩;cases h;cases h
theorem Lw{A A':AS}{k i g o:Nat}{T:TI}(h:QR A'.h (100*k+i)=QR A.h (100*k+i))(hi:i<100)(hs:(QR A.h (100*k+i)).isSome=true):
 oG A' (some T) (.ptr (.key k) (Vl i) g o)=oG A (some T) (.ptr (.key k) (Vl i) g o):=by
 obtain⟨⟨g1,o1,v,n⟩,e⟩:=Option.isSome_iff_exists.1 hs;obtain⟨sz,xs,g2,o2,c,rfl,rfl,e1⟩:=Jf e hi;obtain⟨Qw,xs',W0,o2',c',h1,h2,e2⟩:=Jf (h.trans e) hi;cases h1;simp only[oG,e1,e2,V.U2,h2,V.n,V.isAgg]
def qu(El:List Nat)(fr:Option (List Nat))(A:AS):Op->Bool
 | .load _ x=>match A.ev x with
   | .ptr (.slot i) _ _ _=>El.contains i
   | .ptr (.key k) p _ _=>match fr with
     | none=>true
     | some l=>(Nat.blt k hM&&l.contains k)||hdP A l k p
   | _=>true
 | _=>true
def iz(A:AS):List Operand->List Nat
 | []=>[]
 | x::xs=>match x with
   | .tmp t=>match (A.get t).eE with
     | true=>t::iz (A.drop x) xs
     | false=>iz (A.drop x) xs
   | _=>iz (A.drop x) xs
def ng(ts:List Nat)(A:AS):AS:=⟨ts.map (fun t=>(t,V.c9))++A.t,A.h⟩
def sub(a b:List Nat):Bool:=a.all fun x=>b.contains x
def zl(ops:Array Oper)(tb:List (Nat×TZ)){P:Program}(zs:List (Nat×ZT P))(i:Nat)(o:Oper):Bool:=
 (lk i zs).isNone&&!(cM ops tb i).eff&&(cM ops tb i).Sl==o.dst.toList&&(cM ops tb i).Hl==[]
def rT(P:Program)(N:Nat)(ops:Array Oper)(tb:List (Nat×TZ))(zs:List (Nat×ZT P)):Nat->List Nat->List V->AS->Option (Prop×AS)
 | 0,_,_,A=>some (True,A)
 | _+1,[],_,A=>some (True,A)
 | n+1,i::rest,H3,A=>
   match ops[i]? with
   | none=>none
   | some o=>match zl ops tb zs i o with
     | false=>none
     | true=>match o.dst with
       | none=>none
       | some d=>if d<N then
         match o.guard with
         | some (j,b)=>match Sh A ops j b with
           | some G=>match AS.un G (lJ o.op) A with
             | (C0,B)=>match sY P B o.op H3 with
               | some (C,v,H3)=>if (T6 N (lJ o.op)&&!v.kg&&qu (cM ops tb i).El (cM ops tb i).fr B o.op)=true then match rT P N ops tb zs n rest H3 (A.put (some d) (.gv G v)) with
                 | some (C',A')=>some ((G=true->C0/\C)/\C',A')
                 | none=>none else none
               | none=>none
           | none=>none
         | none=>match o.op with
           | .assign x=>if (A.ev x).eE=false then rT P N ops tb zs n rest H3 (A.put (some d) (A.ev x)) else none
           | op=>if qu (cM ops tb i).El (cM ops tb i).fr A op=true then match sY P A op H3 with
             | some (C,v,H3)=>match rT P N ops tb zs n rest H3 (A.put (some d) v) with
               | some (C',A')=>if qj op=true then some (C',A') else some (C/\C',A')
               | none=>none
             | none=>none else none
         else none
def sF(P:Program)(N:Nat)(ops:Array Oper)(tb:List (Nat×TZ))(zs:List (Nat×ZT P)):Nat->List Nat->List V->AS->Option (List Prop×AS)
 | 0,_,_,A=>some ([],A)
 | _+1,[],_,A=>some ([],A)
 | n+1,i::rest,H3,A=>
   match ops[i]? with
   | none=>none
   | some o=>match zl ops tb zs i o with
     | false=>none
     | true=>match o.dst with
       | none=>none
       | some d=>if d<N then
         match o.guard with
         | some (j,b)=>match Sh A ops j b with
           | some G=>match U5 G (j,b) [] (lJ o.op) A with
             | (C0,B)=>match sY P B o.op H3 with
               | some (C,v,H3)=>if (T6 N (lJ o.op)&&!v.kg&&qu (cM ops tb i).El (cM ops tb i).fr B o.op)=true then match sF P N ops tb zs n rest H3 (A.put (some d) (.gv G v)) with
                 | some (C',A')=>some (C0++(if qj o.op=true then C' else (G=true->C)::C'),A')
                 | none=>none else none
               | none=>none
           | none=>none
         | none=>match o.op with
           | .assign x=>if (A.ev x).eE=false then sF P N ops tb zs n rest H3 (A.put (some d) (A.ev x)) else none
           | op=>if qu (cM ops tb i).El (cM ops tb i).fr A op=true then match sY P A op H3 with
             | some (C,v,H3)=>match sF P N ops tb zs n rest H3 (A.put (some d) v) with
               | some (C',A')=>if qj op=true then some (C',A') else some (C::C',A')
               | none=>none
             | none=>none else none
         else none
section
variable {P:Program} {N:Nat} {ops:Array Oper} {tb:List (Nat×TZ)} {zs:List (Nat×ZT P)}
theorem ve:∀ (n:Nat) {l:List Nat} {H3:List V} {A A':AS} {cs:List Prop},sF P N ops tb zs n l H3 A=some (cs,A')->(∀ c,c∈cs->c)->∃ C,rT P N ops tb zs n l H3 A=some (C,A')/\C
 | 0,l,H3,A,A',cs,h,hc=>by
   simp only[sF,Zan,Zaq]at h;obtain⟨_,rfl⟩:=h;exact⟨True,by simp only[rT],trivial⟩
 | n+1,[],H3,A,A',cs,h,hc=>by
   simp only[sF,Zan,Zaq]at h;obtain⟨_,rfl⟩:=h;exact⟨True,by simp only[rT],trivial⟩
 | n+1,i::l,H3,A,A',cs,h,hc=>by
   unfold sF at h;unfold rT;split at h;cases h;rename_i o ho;simp only[ho];split at h;cases h;rename_i hv;split at h;cases h;rename_i d hd;split at h
   case isFalse=>cases h
   rename_i WT;simp only[hd,if_pos WT];split at h;rename_i j b hg;split at h;rename_i G hG;split at h;rename_i C0 B hu;split at h;rename_i C v S0 hs;split at h;rename_i hk;split at h;rename_i C' A1 hr;simp only[Zan,Zaq]at h;obtain⟨rfl,rfl⟩:=h;obtain⟨C1,e1,e2⟩:=qa (lJ o.op) (fun t ht=>by simp at ht) hu (fun c V2=>hc c (List.mem_append_left _ V2));obtain⟨C2,e3,e4⟩:=ve n hr (fun c V2=>hc c (List.mem_append_right _ (by split <;> simp[V2])));simp only[hG,e1,hs,if_pos hk,e3];refine⟨_,rfl,fun Rx=>⟨e2,?_⟩,e4⟩;by_cases ht:qj o.op=true;exact qG ht hs;exact hc (G=true->C) (List.mem_append_right _ (by rw[if_neg ht];exact List.mem_cons_self ..)) Rx;cases h;cases h;cases h;cases h
   · rename_i hg;split at h;rename_i x hx;split at h;rename_i ho;obtain⟨C,e1,e2⟩:=ve n h hc;simp only[hx,if_pos ho];exact⟨C,e1,e2⟩;cases h
     · rename_i hx;split at h
       case isFalse=>cases h
       rename_i hrf;split at h;rename_i C v S0 hs;split at h;rename_i C' A1 hr;have key:(∀ c,c∈C'->c)/\C/\A1=A':=by
        split at h;rename_i ht;simp only[Zan,Zaq]at h;obtain⟨rfl,rfl⟩:=h;exact⟨hc,qG ht hs,rfl⟩;simp only[Zan,Zaq]at h;obtain⟨rfl,rfl⟩:=h;exact⟨fun c V2=>hc c (List.mem_cons_of_mem _ V2),hc _ (List.mem_cons_self ..),rfl⟩
       obtain⟨k1,k2,rfl⟩:=key;obtain⟨C2,e3,e4⟩:=ve n hr k1;simp only[if_pos hrf,hs,e3];split;exact⟨_,rfl,e4⟩;exact⟨_,rfl,k2,e4⟩;cases h;cases h
end
def ni(d:Option Nat)(ts:List Nat)(ks:List (Nat×Nat))(r:V)(H:List (Nat×(Nat×V)))(A:AS):AS:=((ng ts A).back ks H).put d r
def Ra{P:Program}(N:Nat)(ops:Array Oper)(tb:List (Nat×TZ))(zs:List (Nat×ZT P)):Sc P->List Nat->AS->(AS->Sc P->Prop)->Prop
 | s,[],A,K=>K A s
 | .r n H3 k,l,A,K=>match sF P N ops tb zs n l H3 A with
   | some (C,A')=>cj C (Ra N ops tb zs k (l.drop n) A' K)
   | none=>False
 | .h x k,i::l,A,K=>match x with
   | .o9 t v=>A.get t=v/\Ra N ops tb zs k (i::l) (A.put (some t) v) K
   | .o8 q v=>match lk q A.h with
     | some (g,u)=>u=v/\Ra N ops tb zs k (i::l) ⟨A.t,(q,(g,v))::A.h⟩ K
     | none=>False
   | _=>False
 | .ua k,i::l,A,K=>match ops[i]?,lk i zs with
   | some o,some z=> ∀ g,Ra N ops tb zs (k g) l (Td (o.dst.getD 0) z.v g A) K
   | _,_=>False
 | .cg c k,i::l,A,K=>match ops[i]?,lk i zs with
   | some o,none=>match zl ops tb zs i o,o.op,o.guard with
     | true,.call ⟨.value (.func f),xs,_⟩,some (j,b)=>match f==c.f&&S' N o.dst&&T6 N xs.toList&&!c.res.er.kg&&!c.res.er.eE,c.H,Sh A ops j b with
       | true,[],some G=>match U5 G (j,b) [] xs.toList A with
         | (C,B)=>cj C ((G=true->c.pre/\R1 (xs.toList.map B.cp) c.args=c.args)/\Ra N ops tb zs k l (A.put o.dst (.gv G c.res.er)) K)
       | _,_,_=>False
     | _,_,_=>False
   | _,_=>False
 | .vu c k,i::l,A,K=>match ops[i]?,lk i zs with
   | some o,none=>match zl ops tb zs i o with
     | true=>c.pre N ops o A/\Ra N ops tb zs k l (A.put o.dst c.v) K
     | false=>False
   | _,_=>False
 | s,i::l,A,K=>match ops[i]?,lk i zs with
   | none,_=>False
   | _,some _=>False
   | some o,none=>match o.guard with
     | some _=>False
     | none=>match (cM ops tb i).eff with
       | false=>match zl ops tb zs i o with
         | true=>match s with
           | .c c _ k=>match o.op with
             | .call ⟨.value (.func f),xs,_⟩=>match f==c.f&&S' N o.dst,c.H with
               | true,[]=>R1 (xs.toList.map A.cp) c.args=c.args/\c.pre/\Ra N ops tb zs k l (A.put o.dst c.res.er) K
               | _,_=>False
             | _=>False
           | .bd z k=>match o.op with
             | .build T j8=>match T==z.T&&S' N o.dst,z.v with
               | true,.agg us=>match pW P A T us j8.toList with
                 | some v=>Ra N ops tb zs k l (A.put o.dst v) K
                 | none=>False
               | _,_=>False
             | _=>False
           | .bs k=>match o.op with
             | .buildSlice T len j8=>match tD P T with
               | some (.sl e)=>match ti P e,ig A 0 j8.toList with
                 | some t,some vs=>match Wr P T e len t vs&&S' N o.dst with
                   | true=>Ra N ops tb zs k l (A.put o.dst (.sl true vs)) K
                   | false=>False
                 | _,_=>False
               | _=>False
             | _=>False
           | .mm k=>match o.op with
             | .call ⟨.builtin b,⟨[x,y]⟩,_⟩=>match A.ev x,A.ev y,S' N o.dst,b with
               | .lit (.int kd p),.lit (.int Vs q),true,.max=>Vs=kd/\Ra N ops tb zs k l (A.put o.dst (.lit (.int kd (max p q)))) K
               | .lit (.int kd p),.lit (.int Vs q),true,.min=>Vs=kd/\Ra N ops tb zs k l (A.put o.dst (.lit (.int kd (min p q)))) K
               | _,_,_,_=>False
             | _=>False
           | .QD bs k=>match o.op with
             | .convert src dst x=>match De P src&&isStr P dst&&S' N o.dst,A.ev x with
               | true,.sl _ ys=>ys=bs.map B7/\Ra N ops tb zs k l (A.put o.dst (sV bs)) K
               | _,_=>False
             | _=>False
           | _=>False
         | false=>False
       | true=>match s with
         | .ux z k=>match GB P N (cM ops tb i).Sl (cM ops tb i).El (cM ops tb i).Hl o A z,(cM ops tb i).fr,ZL (cM ops tb i).Hl [] with
           | some (C,U),none,true=>C/\∀ g o1 c,Ra N ops tb zs (k g o1 c) l (U (g,o1,c) A) K
           | _,_,_=>False
         | .eu c k=>match (cM ops tb i).fr,ZL (cM ops tb i).Hl c.prom with
           | none,true=>c.pre N o A (cM ops tb i).Sl (cM ops tb i).Hl/\∀ x,Ra N ops tb zs (k x) l (c.U o A x A) K
           | _,_=>False
         | .c c ks k=>match o.op with
           | .call ⟨.value fx,xs,_⟩=>match A.ev fx,A.tk xs.toList,(cM ops tb i).fr with
             | .lit (.func (.func f) first H6),(vs,_),some fl=>
               match f==c.f&&S' N o.dst&&RC (ks.map (·.1))&&RC (ks.map (·.2))&&c.args.length==(first.toList.map cV++vs++H6.toList.map cV).length&&
                sub (iz A xs.toList) (cM ops tb i).Sl&&sub o.dst.toList (cM ops tb i).Sl&&sub (ks.map (·.2)) (cM ops tb i).Hl&&Hh (ks.map (·.2)) fl&&ZL (cM ops tb i).Hl [] with
               | true=>R1 (first.toList.map cV++vs++H6.toList.map cV) c.args=c.args/\rz A ks c.H (c.pre/\Ra N ops tb zs k l (ni o.dst (iz A xs.toList) ks (c.res.SO (nh ks)) c.H' A) K)
               | false=>False
             | _,_,_=>False
           | _=>False
         | .cx c ks k=>match o.op with
           | .call ⟨.value fx,xs,_⟩=>match A.ev fx,A.tk xs.toList,(cM ops tb i).fr with
             | .lit (.func (.func f) first H6),(vs,_),some fl=>
               match f==c.f&&S' N o.dst&&RC (ks.map (·.1))&&RC (ks.map (·.2))&&c.args.length==(first.toList.map cV++vs++H6.toList.map cV).length&&
                sub (iz A xs.toList) (cM ops tb i).Sl&&sub o.dst.toList (cM ops tb i).Sl&&sub (ks.map (·.2)) (cM ops tb i).Hl&&Hh (ks.map (·.2)) fl&&ZL (cM ops tb i).Hl [] with
               | true=>R1 (first.toList.map cV++vs++H6.toList.map cV) c.args=c.args/\rz A ks c.H (c.pre/\∀ x,c.post x->Ra N ops tb zs (k x) l (ni o.dst (iz A xs.toList) ks ((c.res x).SO (nh ks)) (c.H' x) A) K)
               | false=>False
             | _,_,_=>False
           | _=>False
         | _=>False
section
variable {P:Program} {N:Nat} {ops:Array Oper} {A A' A1 B:AS} {tb:List (Nat×TZ)} {zs:List (Nat×ZT P)}
theorem sv{ts:List Nat}{t:Nat}:(ng ts A).get t=if t∈ts then .c9 else A.get t:=by
 induction ts with
 | nil=>simp[ng]
 | cons a ts ih=>
   simp only[ng,AS.get,Zbe,List.cons_append,lk]at ih ⊢;by_cases e:t=a;rw[if_pos e,if_pos (by simp[e])];rfl;rw[if_neg e,ih];by_cases e2:t∈ts;rw[if_pos e2,if_pos (by simp[e2])];rw[if_neg e2,if_neg (by simp[e,e2])]
theorem yq:∀ (xs:List Operand) {A:AS},M1 (A.tk xs).2 (ng (iz A xs) A)
 | [],A=>⟨fun _=>rfl,fun _=>rfl⟩
 | x::xs,A=>by
   have ih:=yq xs (A:=A.drop x);simp only[AS.tk];have e:(match (A.drop x).tk xs with | (vs,B)=>((ZJ (A.ev x)::vs,B):List V×AS)).2=((A.drop x).tk xs).2:=rfl;rw[e];have hh:(A.drop x).h=A.h:=by
    cases x with
    | tmp t=>simp only[AS.drop];split <;> rfl
    | _=>rfl
   refine⟨fun q=>?_,fun k=>by rw[ih.2 k];simp only[ng,hh]⟩;rw[ih.1 q,sv,sv];cases x with
   | tmp t=>
     cases ho:(A.get t).eE with
     | true=>
       have ed:A.drop (.tmp t)=A.put (some t) .c9:=by simp[AS.drop,ho]
       have eo:iz A (.tmp t::xs)=t::iz (A.drop (.tmp t)) xs:=by simp only[iz,ho]
       simp only[eo,ed,List.mem_cons];by_cases c:q=t;subst c;simp only[true_or,if_true];split;rfl;rw[AS.bg,if_pos rfl];by_cases c2:q∈iz (A.put (some t) .c9) xs;rw[if_pos c2,if_pos (.inr c2)];rw[if_neg c2,if_neg (by simp[c,c2]),AS.bg,if_neg c]
     | false=>
       have ed:A.drop (.tmp t)=A:=by simp[AS.drop,ho]
       have eo:iz A (.tmp t::xs)=iz (A.drop (.tmp t)) xs:=by simp only[iz,ho]
       simp only[eo,ed]
   | _=>rfl
theorem GG{x:Operand}(h:∀ t,x=.tmp t->A'.get t=A.get t){q:Nat}(hq:A'.get q=A.get q):(A'.drop x).get q=(A.drop x).get q:=by
 cases x with
 | tmp t=>
   simp only[AS.drop,h t rfl];split;rw[AS.bg,AS.bg];split;rfl;exact hq;exact hq
 | _=>exact hq
theorem yO:∀ (xs:List Operand) {A A':AS},(∀ t,Operand.tmp t∈xs->A'.get t=A.get t)->(A'.tk xs).1=(A.tk xs).1/\iz A' xs=iz A xs
 | [],A,A',_=>⟨rfl,rfl⟩
 | x::xs,A,A',h=>by
   have hx:∀ t,x=.tmp t->A'.get t=A.get t:=fun t e=>h t (by simp[e]);have ih:=yO xs (A:=A.drop x) (A':=A'.drop x) fun t ht=>GG hx (h t (by simp[ht]));refine⟨?_,?_⟩;show ZJ (A'.ev x)::((A'.drop x).tk xs).1=ZJ (A.ev x)::((A.drop x).tk xs).1;rw[ih.1,cw (x:=x) hx];cases x with
   | tmp t=>simp only[iz,hx t rfl,ih.2]
   | _=>simp only[iz];exact ih.2
theorem Ka{ks:List (Nat×Nat)}{H:List (Nat×(Nat×V))}{t:Nat}:(A.back ks H).get t=A.get t:=rfl
theorem FP{ks:List (Nat×Nat)}{H:List (Nat×(Nat×V))}{k:Nat}(hn:RC (ks.map (·.2))=true)(hk:k ∉ ks.map (·.2)):lk k (A.back ks H).h=lk k A.h:=by
 have hs:lk k (SZ ks)=none:=qy (by simpa[SZ,List.map_map,Function.comp_def] using hk);simp only[AS.back];rw[pr,tP hn,hs];simp only[Option.bind_none];rw[lx,hs];rfl
theorem tZ{ks:List (Nat×Nat)}{H:List (Nat×(Nat×V))}(h:∀ k,lk k A.h=lk k B.h)(k:Nat):lk k (A.back ks H).h=lk k (B.back ks H).h:=by
 simp only[AS.back];rw[pr,pr,lx,lx,h]
theorem Np{ks:List (Nat×Nat)}{k q:Nat}(h:lk k ks=some q):q∈ks.map (·.2):=List.mem_map.2 ⟨_,zT h,rfl⟩
theorem qh{ks:List (Nat×Nat)}(h:∀ k,k∈ks.map (·.2)->lk k B.h=lk k A.h):∀ {H:List (Nat×(Nat×V))},pf A ks H->pf B ks H
 | [],_=>trivial
 | (k,(g,v))::H,hr=>by
   refine⟨?_,qh h hr.2⟩;have:=hr.1;split at this;rename_i q e;rw[h q (Np e)];exact this;exact this.elim
theorem lV{d:Option Nat}{ts:List Nat}{ks:List (Nat×Nat)}{r:V}{H:List (Nat×(Nat×V))}{t:Nat}:(ni d ts ks r H A).get t=if d=some t then r else if t∈ts then .c9 else A.get t:=by
 unfold ni;cases d with
 | none=>rw[if_neg Zad];exact sv
 | some d=>
   rw[AS.bg,Ka,sv];by_cases e:t=d;subst e;rw[if_pos rfl,if_pos rfl];have e2: ¬ (some d=some t):=fun c=>e (by simpa using c.symm);rw[if_neg e,if_neg e2]
theorem nz{d:Option Nat}{ts:List Nat}{ks:List (Nat×Nat)}{r:V}{H:List (Nat×(Nat×V))}:(ni d ts ks r H A).h=(A.back ks H).h:=by
 unfold ni;rw[rY];rfl
theorem CL{G:Type} {d:Option Nat} {ts:List Nat} {ks:List (Nat×Nat)} {r:G->V} {H:G->List (Nat×(Nat×V))} {fs Sl Hl:List Nat} (hn:RC (ks.map (·.2))=true)
 (h1:sub ts Sl=true) (h2:sub d.toList Sl=true) (h3:sub (ks.map (·.2)) Hl=true):U4 (fun g B=>ni d ts ks (r g) (H g) B) fs Sl Hl:=by
 have sb:∀ {a b:List Nat},sub a b=true->∀ x,x∈a->x∈b:=fun h x hx=>by
  unfold sub at h;rw[Za2]at h;simpa using h x hx
 have h1:=sb h1;have h2:=sb h2;have h3:=sb h3;refine⟨fun g B t ht=>?_,fun g B k hk=>?_,fun g B B' hB=>⟨fun t=>?_,fun k=>?_⟩,fun g B t v ht _=>⟨fun q=>?_,fun k=>?_⟩,fun g B k gv hk=>⟨fun t=>?_,fun x=>?_⟩⟩;rw[lV,if_neg (fun c=>ht (h2 t (by rw[c];simp))),if_neg (fun c=>ht (h1 t c))];rw[nz];exact FP hn (fun c=>hk (h3 k c));rw[lV,lV,hB.1 t];rw[nz,nz];exact tZ hB.2 k;rw[lV,AS.bg,AS.bg,lV];by_cases c:q=t;subst c;rw[if_pos rfl,if_pos rfl,if_neg (fun c=>ht (h2 q (by rw[c];simp))),if_neg (fun c=>ht (h1 q c))];rw[if_neg c,if_neg c];rw[nz];show _=lk k (ni d ts ks (r g) (H g) B).h;rw[nz];rfl;show (ni d ts ks (r g) (H g) _).get t=(ni d ts ks (r g) (H g) B).get t;rw[lV,lV];rfl;rw[nz,nz];have hs:lk k (SZ ks)=none:=qy (by simpa[SZ,List.map_map,Function.comp_def] using fun c=>hk (h3 k c));simp only[AS.back];rw[pr,lx];simp only[lk];by_cases c:x=k;subst c;rw[if_pos rfl,if_pos rfl,tP hn,hs];rfl;rw[if_neg c,if_neg c,pr,lx]
theorem xJ{i:Nat}{o:Oper}{t:Nat}(ho:ops[i]? =some o)(h:Operand.tmp t∈o.op.operands.toList):t∈jC ops tb i:=by
 unfold jC;rw[ho,Zax];exact .inl (gO h)
theorem xp{i:Nat}{o:Oper}{t:Nat}(ho:ops[i]? =some o)(h:t∈o.looksAt ops):t∈jC ops tb i:=by
 unfold jC;rw[ho,Zax];exact .inl h
theorem GN{i t:Nat}(h:t∈(cM ops tb i).El):t∈jC ops tb i:=by
 unfold jC;rw[Zax];exact .inr h
theorem Ea{i:Nat} {d:Option Nat} {fx:Operand} {xs:Array Operand} {QM:Array TypeId} {ty:TypeId} {pos:String} {after:Array Edge} {f:FuncId} {first H6:Array Value} {args:List V} {H:List (Nat×(Nat×V))} {ks:List (Nat×Nat)}
 {G:Type} {res:G->V} {H':G->List (Nat×(Nat×V))}
 (ho:ops[i]? =some ⟨d,.call ⟨.value fx,xs,QM⟩,ty,pos,after,none⟩) (hfx:A.ev fx=.lit (.func (.func f) first H6)) (hd:dP N d) (UJ:RC (ks.map (·.1))=true) (PR:RC (ks.map (·.2))=true)
 (hc:PF P f args H (fun r h=> ∃ g,r=res g/\h=H' g)) (hargs:R1 (first.toList.map cV++(A.tk xs.toList).1++H6.toList.map cV) args=args) (hlen:args.length=(first.toList.map cV++(A.tk xs.toList).1++H6.toList.map cV).length)
 (hr:pf A ks H) {fl:List Nat} (hfl:Hh (ks.map (·.2)) fl=true):ZD P N ⟨d,.call ⟨.value fx,xs,QM⟩,ty,pos,after,none⟩ A (fun g B=>ni d (iz A xs.toList) ks ((res g).SO (nh ks)) (H' g) B) (jC ops tb i) (some fl):=by
 refine⟨rfl,fun A' h1 h2=>?_⟩;have YT:A'.ev fx=A.ev fx:=cw fun t ht=>h1 t (xJ ho Zb0);obtain⟨t1,t2⟩:=yO xs.toList (A:=A) (A':=A') fun t ht=>h1 t (xJ ho (by simp only[Op.operands,Call.operands];simp;right;simpa using ht));have XE:=yq xs.toList (A:=A');refine sy (A:=A') ks rfl (by rw[YT];exact hfx) hd UJ PR hc (by rw[t1];exact hargs) (by rw[t1];exact hlen) (qh (fun k hk=>(XE.2 k).trans (MB hfl h2 k hk)) hr) ?_;rintro r H0 ⟨g,rfl,rfl⟩;refine⟨g,?_⟩;unfold ni;rw[<- t2];exact MQ ⟨fun t=>XE.1 t,fun k=>tZ XE.2 k⟩
theorem Ag{El:List Nat} {fr:Option (List Nat)} {op:Op} (h:∀ t,Operand.tmp t∈op.operands.toList->A'.get t=A.get t) (hk:W4 A' A fr) (hr:∀ i,i∈El->A'.get i=A.get i)
 (hf:qu El fr A op=true):Qb P A' op=Qb P A op:=by
 cases op with
 | move x=>simp only[Qb,Tf,Gz,px (x:=x) fun t e=>h t (by simp[Op.operands,e]),cw (x:=x) fun t e=>h t (by simp[Op.operands,e])]
 | pick c a b=>
   have h1:=cw (x:=c) fun t e=>h t Zb1;have h2:=cw (x:=a) fun t e=>h t Zb1;have h3:=cw (x:=b) fun t e=>h t Zb1;simp only[Qb,Tf,GF,h1,h2,h3]
 | binOp op T x y T'=>simp only[Qb,Tf,cw (x:=x) fun t e=>h t (by simp[Op.operands,e]),cw (x:=y) fun t e=>h t (by simp[Op.operands,e])]
 | unOp op T x=>simp only[Qb,Tf,cw (x:=x) fun t e=>h t (by simp[Op.operands,e])]
 | convert s d x=>simp only[Qb,Tf,cw (x:=x) fun t e=>h t (by simp[Op.operands,e])]
 | index T x y=>simp only[Qb,Tf,cw (x:=x) fun t e=>h t (by simp[Op.operands,e]),cw (x:=y) fun t e=>h t (by simp[Op.operands,e])]
 | slice T x lo hi m=>
   have h1:=cw (x:=x) fun t e=>h t Zb1;have h2:=zW (x:=lo) fun t e=>h t Zb1;have h3:=zW (x:=hi) fun t e=>h t Zb1;cases m with
   | none=>simp only[Qb,h1,h2,h3]
   | some m=>rfl
 | extract x i=>simp only[Qb,Tf,cw (x:=x) fun t e=>h t (by simp[Op.operands,e])]
 | call c=>
   simp only[Qb,Tf,Ak];split;split;rename_i x T hx _;rw[cw (x:=x) fun t e=>h t Zb2];rfl;split;rename_i x y hx;rw[cw (x:=x) fun t e=>h t Zb2,cw (x:=y) fun t e=>h t Zb2];rfl;rfl
 | fieldAddr T x j=>simp only[Qb,cw (x:=x) fun t e=>h t (by simp[Op.operands,e])]
 | field T x j=>simp only[Qb,px (x:=x) fun t e=>h t (by simp[Op.operands,e])]
 | indexAddr T x y=>simp only[Qb,cw (x:=x) fun t e=>h t (by simp[Op.operands,e]),cw (x:=y) fun t e=>h t (by simp[Op.operands,e])]
 | load T x=>
   have h1:=cw (x:=x) fun t e=>h t Zb1;simp only[Qb,h1,oG];split;split;rename_i r p g o e;cases r with
   | key k=>
     have:lk k A'.h=lk k A.h\/∃ i,p=Vl i/\i<100/\QR A'.h (100*k+i)=QR A.h (100*k+i)/\(QR A.h (100*k+i)).isSome=true:=by
      cases fr with
      | none=>exact .inl (hk k)
      | some l=>
        simp only[qu,e,Bool.or_eq_true,Zao]at hf;rcases hf with ⟨c1,c2⟩ | hf;have h3:=hk k (by simpa using c2);unfold UP at h3;rw[if_pos c1]at h3;exact .inl h3;obtain⟨i,f1,f2,f3,f4⟩:=Ot hf;refine .inr ⟨i,f1,f2,?_,f4⟩;have h3:=hk _ f3;unfold UP at h3;rw[if_neg (by simp[Nat.blt_eq]),Nat.add_sub_cancel_left]at h3;exact h3
     rcases this with e2 | ⟨i,rfl,c1,c2,c3⟩;simp only[AS.at,e2];have:=Lw (T:=by assumption) (g:=g) (o:=o) c2 c1 c3;simpa only[oG] using this
   | slot i=>
     have:A'.at (.slot i) p=A.at (.slot i) p:=by
      unfold AS.at;simp only[qu,e,Zbi,Zbk]at hf;simp only[hr i hf]
     rw[this]
   rfl;rfl;rfl
 | nilCheck x=>simp only[Qb,cw (x:=x) fun t e=>h t (by simp[Op.operands,e])]
 | makeInterface T x=>simp only[Qb,px (x:=x) fun t e=>h t (by simp[Op.operands,e])]
 | typeAssert x xT T b=>
   cases b with
   | true=>simp only[Qb,cw (x:=x) fun t e=>h t (by simp[Op.operands,e])]
   | false=>rfl
 | makeFunc fn p q=>
   have e1:p.toList.map A'.ev=p.toList.map A.ev:=List.map_congr_left fun x hx=>cw fun t e=>h t (by subst e;simp only[Op.operands,Array.toList_append,Zax];exact .inl hx);have e2:q.toList.map A'.ev=q.toList.map A.ev:=List.map_congr_left fun x hx=>cw fun t e=>h t (by subst e;simp only[Op.operands,Array.toList_append,Zax];exact .inr hx);simp only[Qb,e1,e2]
 | _=>rfl
theorem pG{i:Nat}{o:Oper}{v:V}{fr:Option (List Nat)}(ho:ops[i]? =some o)(h:sj P N ops o A v):Ws P N ops o A v (jC ops tb i) fr:=fun A' h1 _=>h A' fun t ht=>h1 t (xp ho ht)
theorem Fw{i:Nat}{o:Oper}{C:Prop}{v:V}{fr:Option (List Nat)}(ho:ops[i]? =some o)(hg:o.guard=none)(h:Qb P A o.op=some (C,v))(hC:C)(hd:dP N o.dst)(hf:qu (cM ops tb i).El fr A o.op=true):Ws P N ops o A v (jC ops tb i) fr:=by
 intro A' h1 hk;unfold gd;rw[hg];simp only;refine Bp (C:=C) (v:=v) ?_ hC hd ⟨fun _=>rfl,fun _=>rfl⟩;rw[Ag (A:=A) (fun t ht=>h1 t (xJ ho ht)) hk (fun i hi=>h1 i (GN hi)) hf];exact h
theorem Hz{i:Nat} {o:Oper} {xs:List Operand} {j:Nat} {b G:Bool} {C:Prop} {B:AS} {v:V} {fr:Option (List Nat)} (ho:ops[i]? =some o) (hg:o.guard=some (j,b)) (hG:Sh A ops j b=some G) (hu:AS.un G xs A=(C,B))
 (U7:∀ t,Operand.tmp t∈xs->Operand.tmp t∈o.op.operands.toList) (RM:T6 N xs=true) (hd:dP N o.dst) (hf:qu (cM ops tb i).El fr B o.op=true) (hC:G=true->C/\v.kg=false/\∃ C',Qb P B o.op=some (C',v)/\C'):Ws P N ops o A (.gv G v) (jC ops tb i) fr:=by
 intro A' h1 hk;have hG':Sh A' ops j b=some G:=by
  rw[<- hG];unfold Sh;cases hj:(ops[j]?).bind (·.dst) with
  | none=>rfl
  | some d=>
    simp only[Option.map_some];rw[h1 d (xp ho (by unfold Oper.looksAt;rw[Zax];right;rw[hg];simp[hj]))]
 obtain⟨B',k1,k2,k3,k4⟩:=nt xs (A':=A') hu (fun t ht=>h1 t (xJ ho (U7 t ht)));have QP:Qb P B' o.op=Qb P B o.op:=by
  refine Ag (A:=B) (fun t ht=>k2 t (h1 t (xJ ho ht))) ?_ (fun i hi=>k2 i (h1 i (GN hi))) hf;cases fr with
  | none=>exact fun k=>by rw[k3,k4];exact hk k
  | some l=>exact fun k hl=>(As (A:=A') (fun k=>by rw[k3]) k).trans ((hk k hl).trans (As (fun k=>by rw[k4]) k))
 refine tX hg hG' (fun Rx=>?_) (fun XO=>⟨hd,fun _ _=>⟨rfl,(fun h=>by rw[XO]at h;cases h),fun _=>rfl⟩⟩);obtain⟨c1,c3,C',I2,c2⟩:=hC Rx;rw[<- QP]at I2;refine mn (v:=.gv G v) hd ⟨fun _=>rfl,fun _=>rfl⟩ fun Pb Kb a w F hs=>?_;obtain⟨F',H4⟩:=nj Rx _ k1 c1 hs (tA RM);obtain⟨x,hx,hr⟩:=AU I2 c2 H4 rfl;exact⟨x,hx,rfl,fun _=>Dw hr c3,fun h=>by rw[Rx]at h;cases h⟩
theorem IN{i:Nat} {d:Option Nat} {f:FuncId} {xs:Array Operand} {QM:Array TypeId} {ty:TypeId} {pos:String} {after:Array Edge}
 {j:Nat} {b G:Bool} {C:Prop} {B:AS} {E:V} {fr:Option (List Nat)} (ho:ops[i]? =some ⟨d,.call ⟨.value (.func f),xs,QM⟩,ty,pos,after,some (j,b)⟩) (hd:dP N d) (hG:Sh A ops j b=some G) (hu:AS.un G xs.toList A=(C,B)) (RM:T6 N xs.toList=true)
 (hc:G=true->C/\PC P f (xs.toList.map B.cp) (fun r=>r.er=E)/\E.kg=false/\E.eE=false):Ws P N ops ⟨d,.call ⟨.value (.func f),xs,QM⟩,ty,pos,after,some (j,b)⟩ A (.gv G E) (jC ops tb i) fr:=by
 intro A' h1 hk;have hG':Sh A' ops j b=some G:=by
  rw[<- hG];unfold Sh;cases hj:(ops[j]?).bind (·.dst) with
  | none=>rfl
  | some d=>
    simp only[Option.map_some];rw[h1 d (xp ho (by unfold Oper.looksAt;rw[Zax];right;simp[hj]))]
 have hx:∀ t,Operand.tmp t∈xs.toList->A'.get t=A.get t:=fun t ht=>h1 t (xJ ho (by simp[Op.operands,Call.operands];simpa using ht));obtain⟨B',k1,k2,k3,k4⟩:=nt xs.toList (A':=A') hu hx;refine tX (j:=j) (b:=b) rfl hG' (fun Rx=>?_) (fun XO=>⟨hd,fun _ _=>⟨rfl,(fun h=>by rw[XO]at h;cases h),fun _=>rfl⟩⟩);obtain⟨c1,c2,c3,c4⟩:=hc Rx;rw[<- wM (A':=B') (A:=B) fun t ht=>k2 t (hx t ht)]at c2;intro Pb Kb a w F Q' hs;obtain⟨F',H4⟩:=nj Rx _ k1 c1 hs (tA RM);have hw:=rK Rx _ k1 c1;have QB:=sR (N:=N) (o:=⟨d,.call { callee:=.value (.func f),args:=xs,argTypes:=QM },ty,pos,after,some (j,b)⟩) (K:=fun A1=>A1=B'.put d E) (A:=B') rfl hd c2 (fun _ h=>h) rfl;refine Oper.wp_mono ?_ (QB Pb Kb a w F' Q' H4);rintro a' w' ⟨A1,Pb',N1,F2,rfl,QA,q3,q4,q5,q6⟩;refine⟨A'.put d (.gv G E),Pb',N1,F2,⟨fun _=>rfl,fun _=>rfl⟩,QA.wrap ?_,q3,q4,q5,q6⟩;cases d with
 | none=>exact hw
 | some d=>
   refine⟨fun i=>?_,hw.2⟩;rw[AS.bg,AS.bg];by_cases e:i=d;rw[if_pos e,if_pos e];exact .inr ⟨G,rfl,Rx,c4,c3⟩;rw[if_neg e,if_neg e];exact hw.1 i
theorem jG{i:Nat}{o:Oper}{l:List Nat}{v:V}{K:AS->Prop}(ho:ops[i]? =some o)(hv:zl ops tb zs i o=true)(h:Ws P N ops o A v (jC ops tb i) (cM ops tb i).fr)(hK:RA P N ops tb zs l (A.put o.dst v) K):RA P N ops tb zs (i::l) A K:=by
 unfold zl at hv;simp only[Zao,Bool.not_eq_true',Zbl]at hv;refine⟨o,ho,?_⟩;rw[show lk i zs=none from by simpa using hv.1.1.1];simp only;rw[hv.1.1.2];exact⟨hv.1.2,hv.2,v,h,hK⟩
theorem tH{K:AS->Prop}:∀ (n:Nat) {l:List Nat} (H3:List V) {A:AS} (C:Prop) (A':AS),
 rT P N ops tb zs n l H3 A=some (C,A')->C->RA P N ops tb zs (l.drop n) A' K->RA P N ops tb zs l A K
 | 0,l,H3,A,C,A',h,hC,hK=>by
   simp only[rT,Zan,Zaq]at h;obtain⟨_,rfl⟩:=h;simpa using hK
 | n+1,[],H3,A,C,A',h,hC,hK=>by
   simp only[rT,Zan,Zaq]at h;obtain⟨_,rfl⟩:=h;simpa using hK
 | n+1,i::l,H3,A,C,A',h,hC,hK=>by
   have TN:(i::l).drop (n+1)=l.drop n:=rfl;rw[TN]at hK;unfold rT at h;split at h;simp at h;rename_i o ho;split at h;simp at h;rename_i Qc;split at h;simp at h;rename_i d hd;split at h
   case isFalse=>simp at h
   rename_i WT;have SH:dP N o.dst:=by rw[hd];exact WT
   cases hg:o.guard with
   | some jb=>
     obtain⟨j,b⟩:=jb;rw[hg]at h;simp only at h;split at h
     case h_2=>simp at h
     rename_i G hG;cases hu:AS.un G (lJ o.op) A with
     | mk C0 B=>
       rw[hu]at h;simp only at h;split at h
       case h_2=>simp at h
       rename_i C1 v Tr I2;split at h
       case isFalse=>simp at h
       rename_i RM;simp only[Zao,Bool.not_eq_true']at RM;split at h
       case h_2=>simp at h
       rename_i C2 A2 hr;simp only[Zan,Zaq]at h;obtain⟨rfl,rfl⟩:=h;exact jG ho Qc (Hz (v:=v) ho hg hG hu (HB _) RM.1.1 SH RM.2 (fun Rx=>⟨(hC.1 Rx).1,RM.1.2,xi I2 (hC.1 Rx).2⟩)) (by rw[hd];exact tH n Tr C2 A2 hr hC.2 hK)
   | none=>
     rw[hg]at h;simp only at h;split at h
     · rename_i x Q2;split at h
       case isFalse=>simp at h
       rename_i Qp;exact jG ho Qc (pG ho (Dh hg Q2 SH Qp)) (by rw[hd];exact tH n H3 C A' h hC hK)
     · split at h
       case isFalse=>simp at h
       rename_i hrf;split at h
       case h_2=>simp at h
       rename_i C1 v Tr I2;split at h
       case h_2=>simp at h
       rename_i C2 A2 hr;split at h;rename_i ht;simp only[Zan,Zaq]at h;obtain⟨rfl,rfl⟩:=h;obtain⟨C',h1,h2⟩:=xi I2 (qG ht I2);exact jG ho Qc (Fw ho hg h1 h2 SH hrf) (by rw[hd];exact tH n Tr C2 A2 hr hC hK);simp only[Zan,Zaq]at h;obtain⟨rfl,rfl⟩:=h;obtain⟨C',h1,h2⟩:=xi I2 hC.1;exact jG ho Qc (Fw ho hg h1 h2 SH hrf) (by rw[hd];exact tH n Tr C2 A2 hr hC.2 hK)
theorem xd{i:Nat} {o:Oper} {l:List Nat} {K:AS->Prop} {G:Type} {U:G->AS->AS} (ho:ops[i]? =some o) (hz:lk i zs=none) (he:(cM ops tb i).eff=true) (h1:ZD P N o A U (jC ops tb i) (cM ops tb i).fr)
 (h2:Y7 U (jC ops tb i) (cM ops tb i).Sl (cM ops tb i).Hl) (hK:∀ g,RA P N ops tb zs l (U g A) K):RA P N ops tb zs (i::l) A K:=by
 refine⟨o,ho,?_⟩;rw[hz];simp only;rw[he];exact⟨G,U,h1,h2,hK⟩
theorem DF{d:Option Nat}{x y:Operand}{QM:Array TypeId}{ty:TypeId}{pos:String}{after:Array Edge}{kd:IntKind}{p q r:Int}{b:Builtin}(hd:dP N d)(hx:A.ev x=.lit (.int kd p))(hy:A.ev y=.lit (.int kd q))(hb:(b=.max/\r=max p q)\/(b=.min/\r=min p q)):
 sj P N ops ⟨d,.call ⟨.builtin b,⟨[x,y]⟩,QM⟩,ty,pos,after,none⟩ A (.lit (.int kd r)):=fun A' h1=>by
 show N' P N _ A' _;have e1:A'.ev x=A.ev x:=cw fun t ht=>h1 t (gO Zb0);have e2:A'.ev y=A.ev y:=cw fun t ht=>h1 t (gO Zb0);exact Dv rfl hd (by rw[e1];exact hx) (by rw[e2];exact hy) hb ⟨fun _=>rfl,fun _=>rfl⟩
theorem Oy:∀ (s:Sc P) {l:List Nat} {A:AS} {K:AS->Sc P->Prop},Ra N ops tb zs s l A K->RA P N ops tb zs l A fun B=> ∃ B',M1 B B'/\∃ s',K B' s':=by
 intro s;have cl:∀ {K:AS->Sc P->Prop} (A B:AS),M1 A B->(∃ B',M1 A B'/\∃ s',K B' s')->∃ B',M1 B B'/\∃ s',K B' s':=fun A B h ⟨B',h1,h2⟩=>⟨B',h.symm.trans h1,h2⟩;induction s with
 | r n H3 k ih=>
   intro l A K h;cases l with
   | nil=>exact⟨_,M1.mQ,_,h⟩
   | cons i l=>
     simp only[Ra]at h;split at h;rename_i C A' e;obtain⟨h1,h2⟩:=qZ.1 h;obtain⟨C1,e1,e2⟩:=ve n e h1;exact tH n H3 C1 A' e1 e2 (ih h2);exact h.elim
 | h x k ih=>
   intro l A K h;cases l with
   | nil=>exact⟨_,M1.mQ,_,h⟩
   | cons i l=>
     simp only[Ra]at h;split at h;rename_i t v;refine hY cl _ ?_ (ih h.2);refine⟨fun q=>?_,fun _=>rfl⟩;rw[AS.bg];split;rename_i e;subst e;exact h.1.symm;rfl;rename_i q v;split at h;rename_i g u e;obtain⟨rfl,h⟩:=h;refine hY cl _ ?_ (ih h);refine⟨fun _=>rfl,fun k=>?_⟩;simp only[lk];split;rename_i e2;subst e2;exact e.symm;rfl;exact h.elim;exact h.elim
 | ux z k ih=>
   intro l A K h;cases l with
   | nil=>exact⟨_,M1.mQ,_,h⟩
   | cons i l=>
     simp only[Ra]at h;split at h;exact h.elim;exact h.elim;rename_i o ho hz;split at h;exact h.elim;rename_i hg;split at h;split at h <;> exact h.elim;rename_i he;split at h;rename_i C U e1 e2 e3;obtain⟨d,hd⟩:∃ d,o.dst=some d:=by
      unfold GB at e1;split at e1 <;> first | exact⟨_,by assumption⟩ | simp at e1
     obtain⟨hU,hE⟩:=Mo (ops:=ops) e1 h.1 d hd;refine xd ho hz he ⟨hg,fun A' h1 h2=>?_⟩ ⟨⟨hU.g,hU.h,hU.c,fun g B t v ht _=>hU.p g B t v ht,hU.q⟩,fun q hq=>absurd (Ac e3 hq) List.not_mem_nil⟩ fun g=>ih _ _ _ (h.2 g.1 g.2.1 g.2.2);rw[e2]at h2;exact hE A' (fun t ht=>by
      rcases ht with ht | ht;exact h1 t (xp ho ht);exact h1 t (GN ht)) h2 _ fun g=>⟨g,⟨fun _=>rfl,fun _=>rfl⟩⟩
     exact h.elim
 | eu c k ih=>
   intro l A K h;cases l with
   | nil=>exact⟨_,M1.mQ,_,h⟩
   | cons i l=>
     simp only[Ra]at h;split at h;exact h.elim;exact h.elim;rename_i o ho hz;split at h;exact h.elim;rename_i hg;split at h;split at h <;> exact h.elim;rename_i he;split at h;rename_i e2 e3;refine xd ho hz he ⟨hg,fun A' h1 h2=>?_⟩ ⟨c.Wh h.1 _,fun q hq g B=>c.pok h.1 q (Ac e3 hq) g B⟩ fun g=>ih g (h.2 g);rw[e2]at h2;exact KI (c.ok hg h.1 (fun t ht=>h1 t (xp ho (gO ht))) h2) fun B ⟨x,hB⟩=>⟨x,by subst hB;exact⟨fun _=>rfl,fun _=>rfl⟩⟩;exact h.elim
 | vu c k ih=>
   intro l A K h;cases l with
   | nil=>exact⟨_,M1.mQ,_,h⟩
   | cons i l=>
     simp only[Ra]at h;split at h;rename_i o ho hz;split at h;rename_i hv;exact jG ho hv (c.ok h.1 fun t ht=>xp ho ht) (ih h.2);exact h.elim;exact h.elim
 | ua k ih=>
   intro l A K h;cases l with
   | nil=>exact⟨_,M1.mQ,_,h⟩
   | cons i l=>
     simp only[Ra]at h;split at h;rename_i o z ho hz;refine⟨o,ho,?_⟩;rw[hz];exact fun g=>ih g (h g);exact h.elim
 | c c ks k ih=>
   intro l A K h;cases l with
   | nil=>exact⟨_,M1.mQ,_,h⟩
   | cons i l=>
     simp only[Ra]at h;split at h;exact h.elim;exact h.elim;rename_i o ho hz;obtain⟨dst,op,ty,pos,after,I6⟩:=o;split at h;exact h.elim;rename_i hg;simp only at hg;subst hg;split at h;split at h;rename_i hv;split at h;rename_i heq;simp only at heq;subst heq;split at h;rename_i e3 e4;rw[Zao,Zbl]at e3;obtain⟨rfl,e3⟩:=e3;exact jG ho hv (pG ho (LO c (gC e3) e4 h.1 h.2.1)) (ih h.2.2);exact h.elim;exact h.elim;exact h.elim;rename_i he;split at h;rename_i fx xs QM heq;simp only at heq;subst heq;split at h;rename_i f first H6 vs B fl e1 e2 e3
     split at h;rename_i e4;simp only[Zao,Zbl]at e4;obtain⟨⟨⟨⟨⟨⟨⟨⟨⟨rfl,q1⟩,q2⟩,q3⟩,q4⟩,q5⟩,q6⟩,q7⟩,q8⟩,q9⟩:=e4;have htk:(A.tk xs.toList).1=vs:=by rw[e2]
     replace h:=And.intro h.1 (mA h.2)
     have he1:=Ea (P:=P) (N:=N) (A:=A) (tb:=tb) (i:=i) (G:=Unit) (res:=fun _=>c.res) (H':=fun _=>c.H') (ks:=ks) (H:=c.H) (args:=c.args) ho e1 (gC q1) q2 q3
      ((c.ok h.2.2.1).mono fun r H ⟨a,b⟩=>⟨(),a,b⟩) (by rw[htk];exact h.1) (by rw[htk];exact q4) h.2.1 q8
     rw[<- e3]at he1;exact xd ho hz he he1 ⟨CL q3 q5 q6 q7,fun q hq=>absurd (Ac q9 hq) List.not_mem_nil⟩ fun _=>ih h.2.2.2;exact h.elim;exact h.elim;exact h.elim
 | cx c ks k ih=>
   intro l A K h;cases l with
   | nil=>exact⟨_,M1.mQ,_,h⟩
   | cons i l=>
     simp only[Ra]at h;split at h;exact h.elim;exact h.elim;rename_i o ho hz;obtain⟨dst,op,ty,pos,after,I6⟩:=o;split at h;exact h.elim;rename_i hg;simp only at hg;subst hg;split at h;split at h <;> exact h.elim;rename_i he;split at h;rename_i fx xs QM heq;simp only at heq;subst heq;split at h;rename_i f first H6 vs B fl e1 e2 e3
     split at h;rename_i e4;simp only[Zao,Zbl]at e4;obtain⟨⟨⟨⟨⟨⟨⟨⟨⟨rfl,q1⟩,q2⟩,q3⟩,q4⟩,q5⟩,q6⟩,q7⟩,q8⟩,q9⟩:=e4;have htk:(A.tk xs.toList).1=vs:=by rw[e2]
     replace h:=And.intro h.1 (mA h.2)
     have he1:=Ea (P:=P) (N:=N) (A:=A) (tb:=tb) (i:=i) (G:={ x:c.X // c.post x }) (res:=fun x=>c.res x.1) (H':=fun x=>c.H' x.1) (ks:=ks) (H:=c.H) (args:=c.args) ho e1 (gC q1) q2 q3
      ((c.ok h.2.2.1).mono fun r H ⟨x,hx,a,b⟩=>⟨⟨x,hx⟩,a,b⟩) (by rw[htk];exact h.1) (by rw[htk];exact q4) h.2.1 q8
     rw[<- e3]at he1;exact xd ho hz he he1 ⟨CL q3 q5 q6 q7,fun q hq=>absurd (Ac q9 hq) List.not_mem_nil⟩ fun x=>ih _ (h.2.2.2 x.1 x.2);exact h.elim;exact h.elim;exact h.elim
 | bd z k ih=>
   intro l A K h;cases l with
   | nil=>exact⟨_,M1.mQ,_,h⟩
   | cons i l=>
     simp only[Ra]at h;split at h;exact h.elim;exact h.elim;rename_i o ho hz;obtain⟨dst,op,ty,pos,after,I6⟩:=o;split at h;exact h.elim;rename_i hg;simp only at hg;subst hg;split at h;split at h;rename_i hv;split at h;rename_i heq;simp only at heq;subst heq;split at h;rename_i us e3 e4;split at h;rename_i v e5;rw[Zao,Zbl]at e3;obtain⟨rfl,e3⟩:=e3;have hz:=z.ok;rw[e4]at hz;exact jG ho hv (pG ho (EA us v hz (gC e3) e5)) (ih h);exact h.elim;exact h.elim;exact h.elim;exact h.elim;exact h.elim
 | bs k ih=>
   intro l A K h;cases l with
   | nil=>exact⟨_,M1.mQ,_,h⟩
   | cons i l=>
     simp only[Ra]at h;split at h;exact h.elim;exact h.elim;rename_i o ho hz;obtain⟨dst,op,ty,pos,after,I6⟩:=o;split at h;exact h.elim;rename_i hg;simp only at hg;subst hg;split at h;split at h;rename_i hv;split at h;rename_i heq;simp only at heq;subst heq;split at h;rename_i e e3;split at h;rename_i t vs e4 e5;split at h;rename_i e6;rw[Zao]at e6;exact jG ho hv (pG ho (ze e t vs ⟨e3,e4⟩ (gC e6.2) e5 e6.1)) (ih h);exact h.elim;exact h.elim;exact h.elim;exact h.elim;exact h.elim;exact h.elim
 | cg c k ih=>
   intro l A K h;cases l with
   | nil=>exact⟨_,M1.mQ,_,h⟩
   | cons i l=>
     simp only[Ra]at h;split at h
     case h_2=>exact h.elim
     rename_i o ho hz;obtain⟨dst,op,ty,pos,after,I6⟩:=o;split at h
     case h_2=>exact h.elim
     rename_i f xs QM j b hv e1 e2;simp only at e1 e2;subst e1 e2;split at h
     case h_2=>exact h.elim
     rename_i G h1 h2 h3;simp only[Zao,Zbl,Bool.not_eq_true']at h1;obtain⟨⟨⟨⟨rfl,h4⟩,h5⟩,h6⟩,h7⟩:=h1;revert h;cases hu:U5 G (j,b) [] xs.toList A with | mk C B=>?_
     intro h;obtain⟨hC,h⟩:=qZ.1 h;obtain⟨C1,u1,u2⟩:=qa xs.toList (fun t ht=>by simp at ht) hu hC;refine jG ho hv (IN ho (gC h4) h3 u1 h5 (fun hG=>⟨u2,?_,h6,h7⟩)) (ih h.2);obtain⟨VP,hw⟩:=h.1 hG;have hc:=c.ok VP;rw[h2]at hc;have hp:=hc.Hg;refine⟨hp.1,fun w Pb cargs k1 k2=>?_⟩;refine(hp.2 w Pb cargs k1 (by have:=tt _ c.args k2;rw[hw]at this;exact this)).mono ?_;rintro e w' ⟨r,x,F,Pb',rfl,⟨H,q1,_⟩,rest⟩;exact⟨r,x,F,Pb',rfl,by rw[q1],rest⟩
 | mm k ih=>
   intro l A K h;cases l with
   | nil=>exact⟨_,M1.mQ,_,h⟩
   | cons i l=>
     simp only[Ra]at h;split at h;exact h.elim;exact h.elim;rename_i o ho hz;obtain⟨dst,op,ty,pos,after,I6⟩:=o;split at h;exact h.elim;rename_i hg;simp only at hg;subst hg;split at h;split at h;rename_i hv;split at h;rename_i heq;simp only at heq;subst heq;split at h;rename_i kd p Vs q e1 e2 e3;obtain⟨rfl,h⟩:=h;exact jG ho hv (pG ho (DF (gC e3) e1 e2 (.inl ⟨rfl,rfl⟩))) (ih h);rename_i kd p Vs q e1 e2 e3;obtain⟨rfl,h⟩:=h;exact jG ho hv (pG ho (DF (gC e3) e1 e2 (.inr ⟨rfl,rfl⟩))) (ih h);exact h.elim;exact h.elim;exact h.elim;exact h.elim
 | QD bs k ih=>
   intro l A K h;cases l with
   | nil=>exact⟨_,M1.mQ,_,h⟩
   | cons i l=>
     simp only[Ra]at h;split at h;exact h.elim;exact h.elim;rename_i o ho hz;obtain⟨dst,op,ty,pos,after,I6⟩:=o;split at h;exact h.elim;rename_i hg;simp only at hg;subst hg;split at h;split at h;rename_i hv;split at h;rename_i heq;simp only at heq;subst heq;split at h;rename_i fl ys e1 e2;simp only[Zao]at e1;obtain⟨rfl,h⟩:=h;obtain⟨e,q1,q2⟩:=Bg e1.1.1;exact jG ho hv (pG ho (AZ e fl bs ⟨q1,q2,yr e1.1.2⟩ (gC e1.2) e2)) (ih h);exact h.elim;exact h.elim;exact h.elim;exact h.elim
 | _=>
   intro l A K h;cases l with
   | nil=>exact⟨_,M1.mQ,_,h⟩
   | cons i l=>
     simp only[Ra]at h
     (repeat' split at h) <;> exact h.elim
theorem vE{K K':AS->Prop}(hK:∀ B,K B->K' B):∀ (l:List Nat) {A:AS},RA P N ops tb zs l A K->RA P N ops tb zs l A K'
 | [],A,h=>hK A h
 | i::l,A,h=>by
   obtain⟨o,ho,h⟩:=h;refine⟨o,ho,?_⟩;split at h;exact fun g=>vE hK l (h g);split at h;obtain⟨e1,e2,v,h1,h2⟩:=h;exact⟨e1,e2,v,h1,vE hK l h2⟩;obtain⟨G,U,h1,h2,h3⟩:=h;exact⟨G,U,h1,h2,fun g=>vE hK l (h3 g)⟩
end
section
variable {P:Program} {N:Nat} {ops:Array Oper} {A:AS}
end
def go{P:Program}(N:Nat):Code->AS->Sc P->(Exit->AS->Sc P->Prop)->Prop
 | .skip,A,s,K=>K .normal A s
 | .label _,A,s,K=>K .normal A s
 | .exit i,A,s,K=>K (.exit i) A s
 | .goto i,A,s,K=>K (.goto i) A s
 | .ret,A,s,K=>Tg N s A fun A s=>K .ret A s
 | .seq x y,A,s,K=>go N x A s fun e A s=>match e with
   | .normal=>go N y A s K
   | e=>K e A s
 | .block id c,A,s,K=>go N c A s fun e A s=>match e with
   | .exit j=>match j==id with
     | true=>K .normal A s
     | false=>K (.exit j) A s
   | e=>K e A s
 | .cond c x y,A,s,K=>Tg N s A fun A s=>match A.ev c,s with
   | .lit (.bool b),.br s1 s2=>(b=true->go N x A s1 K)/\(b=false->go N y A s2 K)
   | .lit (.bool b),.join X B ok s1 s2 k=>
     (b=true->go N x A s1 fun e A' s'=>match e with
      | .normal=>Tg N s' A' fun A' _=> ∃ x,ok x/\Zf A' (B x)
      | e=>K e A' s')/\
     (b=false->go N y A s2 fun e A' s'=>match e with
      | .normal=>Tg N s' A' fun A' _=> ∃ x,ok x/\Zf A' (B x)
      | e=>K e A' s')/\
     ∀ x,ok x->K .normal (B x) (k x)
   | _,_=>False
 | .scope c,A,s,K=>go N c A s fun e A s=>match e with
   | .goto _=>False
   | e=>K e A s
 | .loop c,A,s,K=>Tg N s A fun A s=>match s with
   | .loop X inv ok m k=>(∃ x,ok x/\Zf A (inv x))/\∀ x,ok x->go N c (inv x) (k x) fun e A' s'=>match e with
     | .normal=>Tg N s' A' fun A' _=> ∃ y,ok y/\m y<m x/\Zf A' (inv y)
     | e=>K e A' s'
   | _=>False
 | .region _ ops false,A,s,K=>Tg N s A fun A s=>M9 N ops [] s ops.toList A fun A s=>K .normal A s
 | .region _ ops true,A,s,K=>Tg N s A fun A s=>match s with
   | .dx m pl tb zs k=>match P.follows .mixedOrders&&vH ops m tb zs pl&&GK ops m pl&&Gr N ops zs with
     | true=>Ra N ops tb zs k pl A fun A s=>M9 N ops [] s (ops.toList.drop m) A fun A s=>K .normal A s
     | false=>False
   | _=>False
 | _,_,_,_=>False
section
variable {P:Program} {N:Nat} {ops:Array Oper} {A A' A1 B:AS}
variable {w:World} {Pb Kb:Nat->Prop} {a:Act} {F:r5->List Nat}
theorem Mh{X:Type} {c:Code} {Q:Exit->AS->Prop} (inv:X->AS) (ok:X->Prop) (m:X->Nat) (h0:∃ x,ok x/\Vr A (inv x).t/\UT A (inv x).h)
 (round:∀ x,ok x->T P N c (inv x) fun e A'=>match e with
  | .normal=>Hx N A' fun A'=> ∃ y,ok y/\m y<m x/\Vr A' (inv y).t/\UT A' (inv y).h
  | e=>Q e A'):T P N (.loop c) A Q:=by
 obtain⟨x0,hx0,l0,r0⟩:=h0;refine Na (fun n A=> ∃ x,m x=n/\ok x/\Vr A (inv x).t/\UT A (inv x).h) (m x0) ⟨x0,rfl,hx0,l0,r0⟩ ?_;rintro n A ⟨x,rfl,hx,h1,h2⟩;refine OK h1 h2 (qx (pX (round x hx) fun e A' hq=>?_));cases e with
 | normal=>exact Hx.mono hq fun B ⟨y,k1,k2,k3,k4⟩=>⟨m y,k2,y,rfl,k1,k3,k4⟩
 | _=>exact Hx.of hq
def ngo(Q:Exit->AS->Prop):Exit->AS->Prop
 | .goto _,_=>False
 | e,A=>Q e A
theorem MA{c:Code}{Q:Exit->AS->Prop}(h:T P N c A (ngo Q)):T P N (.scope c) A Q:=by
 intro Pb Kb a w F hs;refine wp_scope_straight (wp_mono (h Pb Kb a w F hs) fun e a' w' hn=>?_);cases e with
 | goto l=>obtain⟨_,_,_,_,h,_⟩:=hn;exact h
 | _=>exact hn
theorem Lm:∀ (c:Code) {A:AS} {s:Sc P} {K:Exit->AS->Sc P->Prop},go N c A s K->T P N c A fun e B=> ∃ s',K e B s':=by
 intro c;induction c with
 | skip=>intro A s K h;exact MR ⟨_,h⟩
 | label l=>intro A s K h;exact Lr ⟨_,h⟩
 | exit i=>intro A s K h;exact Nc ⟨_,h⟩
 | goto i=>intro A s K h;exact Oq ⟨_,h⟩
 | ret=>intro A s K h;exact sX ((oB s h).mono fun B hB=>OJ hB)
 | seq x y Zh Zg=>
   intro A s K h;refine OE (pX (Zh h) fun e B hB=>?_);obtain⟨s',hB⟩:=hB;cases e with
   | normal=>exact Zg hB
   | _=>exact⟨_,hB⟩
 | scope c ih=>
   intro A s K h;refine MA (pX (ih h) fun e B hB=>?_);obtain⟨s',hB⟩:=hB;cases e with
   | goto l=>exact hB
   | _=>exact⟨_,hB⟩
 | block id c ih=>
   intro A s K h;refine LN (pX (ih h) fun e B hB=>?_);obtain⟨s',hB⟩:=hB;cases e with
   | exit j=>
     simp only[blk];simp only at hB;split at hB;rename_i e;rw[if_pos Zb3];exact⟨_,hB⟩;rename_i e;rw[if_neg Zb3];exact⟨_,hB⟩
   | _=>exact⟨_,hB⟩
 | cond c x y Zh Zg=>
   intro A s K h;refine sX ((oB s h).mono fun B hB=>?_);obtain⟨s',hB⟩:=hB;split at hB;rename_i e;exact HM e (fun hb=>Zh (hB.1 hb)) (fun hb=>Zg (hB.2 hb));rename_i b X I ok s1 s2 k e;obtain⟨h1,h2,h3⟩:=hB
   have step:∀ (z:Code) (K':Exit->AS->Sc P->Prop),(∀ A' s',K' .normal A' s'->Tg N s' A' fun A' _=> ∃ x,ok x/\Zf A' (I x))->(∀ e,e≠.normal->∀ A' s',K' e A' s'->K e A' s')->
    (T P N z B fun e A'=> ∃ s',K' e A' s')->T P N z B fun e A'=> ∃ s',K e A' s':=fun z K' hn ho hz=>by
    refine qx (pX hz fun e A' hq=>?_);obtain⟨s',hq⟩:=hq;by_cases he:e=.normal;subst he;refine(oB s' (hn _ _ hq)).bind fun B' hB'=>?_;obtain⟨_,x,k1,k2⟩:=hB';exact Lq (xm k2).1 (xm k2).2 ⟨_,h3 x k1⟩;exact Hx.of ⟨_,ho e he _ _ hq⟩
   refine HM e (fun hb=>step _ _ ?_ ?_ (Zh (h1 hb))) (fun hb=>step _ _ ?_ ?_ (Zg (h2 hb)));exact fun _ _ h=>h;intro e he A' s' h;cases e <;> first | exact h | exact absurd rfl he
   exact fun _ _ h=>h;intro e he A' s' h;cases e <;> first | exact h | exact absurd rfl he
   exact hB.elim
 | loop c ih=>
   intro A s K h;refine sX ((oB s h).mono fun B hB=>?_);obtain⟨s',hB⟩:=hB;split at hB;rename_i X inv ok m k;refine Mh inv ok m (by obtain⟨x,a,b⟩:=hB.1;exact⟨x,a,xm b⟩) fun x hx=>pX (ih (hB.2 x hx)) fun e A' hq=>?_;obtain⟨s',hq⟩:=hq;cases e with
   | normal=>exact(oB s' hq).mono fun B ⟨_,y,a,b,c⟩=>⟨y,a,b,xm c⟩
   | _=>exact⟨_,hq⟩
   exact hB.elim
 | region id ops draw=>
   intro A s K h;cases draw with
   | false=>exact sX ((oB s h).mono fun B ⟨s',hB⟩=>JM (Iw s' hB))
   | true=>
     refine sX ((oB s h).mono fun B hB=>?_);obtain⟨s',hB⟩:=hB;split at hB;split at hB;rename_i e;simp only[Zao]at e;exact Bk e.1.1.1 e.1.1.2 e.2 e.1.2 (vE (fun B ⟨B',hA,s',hB⟩=>⟨B',hA,Iw s' hB⟩) _ (Oy _ hB));exact hB.elim;exact hB.elim
 | _=>intro A s K h;exact h.elim
def vr(H:List (Nat×(Nat×V)))(xs:List r5):Bool:=xs.all fun r=>match r with
 | .key k=>(lk k H).isNone
 | .slot _=>true
def Bw(rs:List ResultVar)(Q:V->AS->Prop)(H:List (Nat×(Nat×V)))(A:AS):Prop:=match CV A rs with
    | some (C,xs)=>match oh P rs xs&&nodupB (xs.map (·.1))&&vr H (xs.map (·.1)) with
      | true=>cj C (Q (one (xs.map (·.2))) A)
      | false=>False
    | none=>False
def Dx(N:Nat)(rs:List ResultVar)(Q:V->AS->Prop)(H:List (Nat×(Nat×V))):Exit->AS->Sc P->Prop:=fun e A s=>match e with
 | .normal=>Tg N s A fun A _=>Bw (P:=P) rs Q H A
 | .ret=>Bw (P:=P) rs Q H A
 | _=>False
theorem vK{H:List (Nat×(Nat×V))}{xs:List r5}(h:vr H xs=true)(k:Nat)(hk:lk k H≠none):r5.key k ∉ xs:=fun c=>by
 unfold vr at h;rw[Za2]at h;have:=h _ c;simp only[Option.isNone_iff_eq_none]at this;exact hk this
theorem PF.wkr{f:FuncId} {args:List V} {H:List (Nat×(Nat×V))} {X:Type} {post:X->Prop} {E:X->V} {H':X->List (Nat×(Nat×V))}
 (h:PF P f args H (fun r h=> ∃ x,post x/\wk r (E x)=E x/\h=H' x)):PF P f args H (fun r h=> ∃ x,post x/\r=E x/\h=H' x):=
 ⟨h.1,fun w Pb Kb cargs F hi=>(h.2 w Pb Kb cargs F hi).mono fun e w'=>by
  rintro⟨r,x,H1,Pb',N1,F',rfl,⟨z,q1,q2,rfl⟩,hf⟩;exact⟨E z,x,H' z,Pb',N1,F',rfl,⟨z,q1,rfl,rfl⟩,by have:=CB (E z) hf.val;rw[q2]at this;exact⟨this,hf.root,hf.du,hf.nodup,hf.free,hf.sub,hf.bound,hf.mP,hf.mK,hf.Vp,hf.iq⟩⟩⟩
theorem sh{f:FuncId} {fn:Func} {c:Code} {args:List V} {H:List (Nat×(Nat×V))} {N:Nat} {rs:List ResultVar} {X:Type} {post:X->Prop} {E:X->V} {H':X->List (Nat×(Nat×V))}
 (hf:P.funcs[f]? =some fn) (WK:(fn.name== "runtime.NumGoroutine")=false) (hb:fn.body=some c) (hN:fn.ntmps=N) (Z1:fn.results.toList=rs) (hlen:Nat.ble args.length N=true)
 (HK:List (Nat×(Nat×V))) (hHK:∀ x k,lk k (H' x)≠none->lk k HK≠none)
 (sc:Sc P) (VC:Prop) (he:VC=go N c ⟨enum 0 args,H⟩ sc (Dx N rs (fun v A=> ∃ x,post x/\ub A (H' x) (wk v (E x)=E x)) HK)) (h:VC):
 PF P f args H (fun r h=> ∃ x,post x/\r=E x/\h=H' x):=by
 subst hN Z1;rw[he]at h;refine PF.wkr (Gk hf hb (fS hf WK (by rw[hb];rfl)) (Nat.le_of_ble_eq_true hlen) (qx (pX (Lm _ h) ?_)));rintro e A0 ⟨s0,hq⟩;have fin:∀ A,(e=.normal\/e=.ret)->Bw (P:=P) fn.results.toList (fun v A=> ∃ x,post x/\ub A (H' x) (wk v (E x)=E x)) HK A->KC P fn.results.toList (fun r h=> ∃ x,post x/\wk r (E x)=E x/\h=H' x) e A:=fun A he hq=>by
  unfold Bw at hq;split at hq;rename_i C xs e1;split at hq;rename_i e2;simp only[Zao]at e2;obtain⟨hC,x,q1,hq⟩:=qZ.1 hq;obtain⟨q2,q3⟩:=yJ hq;obtain⟨C',f1,f2⟩:=xu e1 hC;exact⟨he,xs,H' x,xK f1 f2,tR e2.1.1,zj e2.1.2,q3,fun k hk=>vK e2.2 k (hHK x k hk),x,q1,q2,rfl⟩;exact hq.elim;exact hq.elim
 cases e with
 | normal=>exact(oB s0 hq).mono fun B ⟨_,hB⟩=>fin B (.inl rfl) hB
 | ret=>exact Hx.of (fin A0 (.inr rfl) hq)
 | _=>exact hq.elim
theorem Nd{f:FuncId} {fn:Func} {c:Code} {args:List V} {H:List (Nat×(Nat×V))} {N:Nat} {rs:List ResultVar} {E:V} {H':List (Nat×(Nat×V))}
 (hf:P.funcs[f]? =some fn) (WK:(fn.name== "runtime.NumGoroutine")=false) (hb:fn.body=some c) (hN:fn.ntmps=N) (Z1:fn.results.toList=rs) (hlen:Nat.ble args.length N=true)
 (sc:Sc P) (VC:Prop) (he:VC=go N c ⟨enum 0 args,H⟩ sc (Dx N rs (fun v A=>ub A H' (wk v E=E)) H')) (h:VC):
 PF P f args H (fun r h=>r=E/\h=H'):=by
 subst hN Z1;rw[he]at h;have:=PF.wkr (X:=Unit) (post:=fun _=>True) (E:=fun _=>E) (H':=fun _=>H') (Gk (P:=P) (f:=f) (args:=args) (H:=H) (Q:=fun r h=> ∃ _:Unit,True/\wk r E=E/\h=H') hf hb (fS hf WK (by rw[hb];rfl)) (Nat.le_of_ble_eq_true hlen) (qx (pX (Lm _ h) ?_)));exact this.mono fun r H ⟨_,_,h1,h2⟩=>⟨h1,h2⟩;rintro e A0 ⟨s0,hq⟩;have fin:∀ A,(e=.normal\/e=.ret)->Bw (P:=P) fn.results.toList (fun v A=>ub A H' (wk v E=E)) H' A->KC P fn.results.toList (fun r h=> ∃ _:Unit,True/\wk r E=E/\h=H') e A:=fun A he hq=>by
  unfold Bw at hq;split at hq;rename_i C xs e1;split at hq;rename_i e2;simp only[Zao]at e2;obtain⟨hC,hq⟩:=qZ.1 hq;obtain⟨q2,q3⟩:=yJ hq;obtain⟨C',f1,f2⟩:=xu e1 hC;exact⟨he,xs,H',xK f1 f2,tR e2.1.1,zj e2.1.2,q3,fun k hk=>vK e2.2 k hk,(),trivial,q2,rfl⟩;exact hq.elim;exact hq.elim
 cases e with
 | normal=>exact(oB s0 hq).mono fun B ⟨_,hB⟩=>fin B (.inl rfl) hB
 | ret=>exact Hx.of (fin A0 (.inr rfl) hq)
 | _=>exact hq.elim
end
theorem ka{xs:List V}{j sz g0 o0 g o c:Nat}{v:V}(h:xs[j]? =some v):V.at g0 o0 (.own sz xs g o c) [j]=some (g,o+j*sz,v):=by simp only[V.at,h]
theorem ra{xs ys:List V}{j sz g o c:Nat}{x v:V}(h:xs[j]? =some x)(e:xs.set j v=ys):V.set (.own sz xs g o c) [j] v=.own sz ys g o c:=by simp only[V.set,h,e]
theorem Y6{x y:V}{r:List V}(h:x=y):V.agg (x::r)=V.agg (y::r):=by rw[h]
theorem sQ{x y u:V}{r:List V}{p:List Nat}(h:V.set x p u=y):V.set (.agg (x::r)) (0::p) u=V.agg (y::r):=by rw[<- h];rfl
theorem J4{a0 x y:V}{r:List V}(h:x=y):V.agg (a0::x::r)=V.agg (a0::y::r):=by rw[h]
theorem Bm{a0 x y u:V}{r:List V}{p:List Nat}(h:V.set x p u=y):V.set (.agg (a0::x::r)) (1::p) u=V.agg (a0::y::r):=by rw[<- h];rfl
theorem D3{a0 a1 x y:V}{r:List V}(h:x=y):V.agg (a0::a1::x::r)=V.agg (a0::a1::y::r):=by rw[h]
theorem oQ{a0 a1 x y u:V}{r:List V}{p:List Nat}(h:V.set x p u=y):V.set (.agg (a0::a1::x::r)) (2::p) u=V.agg (a0::a1::y::r):=by rw[<- h];rfl
theorem Pz{a0 a1 a2 a3 a4 x y u:V}{r:List V}{p:List Nat}(h:V.set x p u=y):V.set (.agg (a0::a1::a2::a3::a4::x::r)) (5::p) u=V.agg (a0::a1::a2::a3::a4::y::r):=by rw[<- h];rfl
abbrev n8(x:Int):Prop:= -9223372036854775808<=x/\x<=9223372036854775807
abbrev Ti(x:Int):Prop:=0<=x/\x<=255
abbrev Ix{α:Type}(i:Int)(s:List α):Prop:=0<=i/\i<s.length
abbrev Sx{α:Type}(lo hi:Int)(s:List α):Prop:=0<=lo/\lo<=hi/\hi<=s.length
abbrev Ex(i:Int)(xs:List V)(v:V):Prop:=0<=i/\xs[Int.toNat i]? =some v
abbrev s4(a b:Int):Bool:=decide (a<b)
abbrev M6(a b:Int):Bool:=decide (a<=b)
abbrev s9(a b:Int):Bool:=decide (a>b)
abbrev G3(a b:Int):Bool:=decide (a>=b)
abbrev r4(a b:Int):Bool:=a==b
abbrev G0(a b:Int):Bool:=a != b
abbrev Br(b:Bool)(p q:Prop):Prop:=(b=true->p)/\(b=false->q)
abbrev Gd(b:Bool)(p:Prop):Prop:=b=true->p
abbrev Q(x y:V):Prop:=x=y
abbrev E(x:V):Prop:=x=x
abbrev Qr(g:Nat)(x:V)(g':Nat)(y:V):Prop:=(g,x)=(g',y)
abbrev Er(g:Nat)(x:V):Prop:=(g,x)=(g,x)
abbrev Z(g o:Nat):Prop:=(g,o)=(g,o)
abbrev In(i:Int)(n:Nat):Prop:=0<=i/\i<n
abbrev Pk(c a b:Bool):Prop:=(c=true->a=true)/\(c=false->b=true)
theorem nb:(∀ (p:Prop) [Decidable p],(decide p=true)=p)/\(∀ (p:Prop) [Decidable p],(decide p=false)= ¬ p)/\(∀ a b:Int,(¬ a<b)=(b<=a))/\(∀ a b:Int,(¬ a<=b)=(b<a))/\(∀ a b:Int,(a>b)=(b<a))/\(∀ a b:Int,(a>=b)=(b<=a))/\
 (∀ (α:Type) [BEq α] [LawfulBEq α] (a b:α),((a==b)=true)=(a=b))/\(∀ (α:Type) [BEq α] [LawfulBEq α] (a b:α),((a==b)=false)= ¬ a=b)/\
 (∀ (α:Type) [BEq α] [LawfulBEq α] (a b:α),((a != b)=true)= ¬ a=b)/\(∀ (α:Type) [BEq α] [LawfulBEq α] (a b:α),((a != b)=false)=(a=b))/\
 (∀ a b:Bool,((a||b)=true)=(a=true\/b=true))/\(∀ a b:Bool,((a||b)=false)=(a=false/\b=false))/\(∀ a b:Bool,((a&&b)=true)=(a=true/\b=true))/\(∀ a b:Bool,((a&&b)=false)=(a=true->b=false))/\
 (∀ a:Bool,((!a)=true)=(a=false))/\(∀ a:Bool,((!a)=false)=(a=true))/\(∀ a:Bool,(¬ a=true)=(a=false))/\(∀ a:Bool,(¬ a=false)=(a=true))/\(∀ p:Prop,(¬ ¬ p)=p)/\
 (∀ a:Bool,(a==true)=a)/\(∀ a:Bool,(a==false)=!a)/\(∀ a:Bool,(true&&a)=a)/\(∀ a:Bool,(a&&true)=a)/\((!true)=false)/\((!false)=true)/\(∀ a:Bool,(!!a)=a)/\(∀ (α β:Type) (f:α->β) (l:List α),(l.map f).length=l.length):=by
 refine⟨fun p _=>by simp,fun p _=>by simp,fun a b=>by simp,fun a b=>by simp,fun a b=>rfl,fun a b=>rfl,fun α _ _ a b=>by simp,fun α _ _ a b=>by simp,fun α _ _ a b=>by simp,fun α _ _ a b=>by simp,fun a b=>by simp,fun a b=>by simp,fun a b=>by simp,fun a b=>by cases a <;> simp,
  fun a=>by simp,fun a=>by simp,fun a=>by simp,fun a=>by simp,fun p=>by simp,fun a=>by simp,fun a=>by simp,fun a=>by simp,fun a=>by simp,rfl,rfl,fun a=>by simp,fun _ _ f l=>Zay ..⟩
section
variable {w w':World} {Pb Kb Pb':Nat->Prop} {N:Nat} {A A' A1 B:AS} {a:Act} {F:r5->List Nat}
end
theorem Pl{P:Program} {f:FuncId} {fn:Func} {args:List V} {H:List (Nat×(Nat×V))} {N:Nat} {rs:List ResultVar} {E:V} {H':List (Nat×(Nat×V))}
 (hf:P.funcs[f]? =some fn) (sc:Sc P) (VC:Prop) (h:VC) (WK:(fn.name== "runtime.NumGoroutine")=false:=by kernel_rfl) (hb:fn.body.isSome=true:=by kernel_rfl) (hN:fn.ntmps=N:=by kernel_rfl) (Z1:fn.results.toList=rs:=by kernel_rfl) (hlen:Nat.ble args.length N=true:=by kernel_rfl)
 (he:VC=go N (fn.body.getD .skip) ⟨enum 0 args,H⟩ sc (Dx N rs (fun v A=>ub A H' (wk v E=E)) H'):=by kernel_rfl):PF P f args H (fun r h=>r=E/\h=H'):=by
 cases YS:fn.body with
 | none=>rw[YS]at hb;cases hb
 | some c=>
   rw[YS]at he;exact Nd hf WK YS hN Z1 hlen sc VC he h
abbrev Sc.q{P:Program}(n:Nat)(k:Sc P):Sc P:=.r n [] k
theorem bI{c:Bool}{P Q p q:Prop}(a:p->P)(b:q->Q)(h1:(c=true)=p:=by first | (conv=>lhs;simp only[nb]) | rfl)(h2:(c=false)=q:=by first | (conv=>lhs;simp only[nb]) | rfl):Br c P Q:=⟨fun h=>a (h1 ▸ h),fun h=>b (h2 ▸ h)⟩
theorem aA{P:Program}{f:FuncId}{fn:Func}{args:List V}{H:List (Nat×(Nat×V))}{E:V}{H':List (Nat×(Nat×V))}(hf:P.funcs[f]? =some fn)(sc:Sc P)(VC:Prop)(h:VC)(WK:(fn.name== "runtime.NumGoroutine")=false:=by kernel_rfl)(hb:fn.body.isSome=true:=by kernel_rfl)(hlen:Nat.ble args.length fn.ntmps=true:=by kernel_rfl)(he:VC=go fn.ntmps (fn.body.getD .skip) ⟨enum 0 args,H⟩ sc (Dx fn.ntmps fn.results.toList (fun v A=>ub A H' (wk v E=E)) H'):=by kernel_rfl):PF P f args H (fun r h=>r=E/\h=H'):=Pl hf sc VC h WK hb rfl rfl hlen he
theorem fA{P:Program}{f:FuncId}{fn:Func}{args:List V}{H:List (Nat×(Nat×V))}{X:Type}{post:X->Prop}{E:X->V}{H':X->List (Nat×(Nat×V))}(hf:P.funcs[f]? =some fn)(sc:Sc P)(VC:Prop)(h:VC)(WK:(fn.name== "runtime.NumGoroutine")=false:=by kernel_rfl)(hb:fn.body.isSome=true:=by kernel_rfl)(hlen:Nat.ble args.length fn.ntmps=true:=by kernel_rfl)(hHK:∀ x k,lk k (H' x)≠none->lk k (H.map fun x=>(x.1,(0,V.c9)))≠none:=by intro _ k hk;simpa[lk] using hk)(he:VC=go fn.ntmps (fn.body.getD .skip) ⟨enum 0 args,H⟩ sc (Dx fn.ntmps fn.results.toList (fun v A=> ∃ x,post x/\ub A (H' x) (wk v (E x)=E x)) (H.map fun x=>(x.1,(0,V.c9)))):=by kernel_rfl):PF P f args H (fun r h=> ∃ x,post x/\r=E x/\h=H' x):=by
 cases YS:fn.body with
 | none=>rw[YS]at hb;cases hb
 | some c=>
   rw[YS]at he;exact sh hf WK YS rfl rfl hlen _ hHK sc VC he h
abbrev kp(k g:Nat):V:=.ptr (.key k) [] g 0
abbrev l9(a b:List Nat):TZ:=⟨false,[],some a,b,[]⟩
abbrev Sc.A3{P:Program}(m:Nat)(tb:List (Nat×TZ))(k:Sc P):Sc P:=.dx m (List.range m) tb [] k
abbrev Sc.m7{P:Program}(k:Sc P):Sc P:=.r 1 [.c9] k
def Sc.l7{P:Program}:Nat->Sc P->Sc P
 | 0,k=>k
 | n+1,k=>.r 1 [] (Sc.l7 n k)
theorem aI{p:Prop}(h:p:=by repeat' (first | exact rfl | exact trivial | exact fun h=>h | exact fun hG=>rfl | exact fun hG=>trivial | exact fun hG=>⟨trivial,rfl⟩ | exact fun _=>rfl | exact fun _=>trivial | exact fun _ h=>h | exact⟨fun _=>rfl,fun h=>by rw[h] <;> rfl⟩ | exact⟨fun h=>by rw[h] <;> rfl,fun _=>rfl⟩ | exact fun hG=>⟨fun h=>by rw[h];exact(Zao _ _).mpr ⟨hG,rfl⟩,fun _=>rfl⟩ | exact fun hG=>⟨fun _=>rfl,fun h=>by rw[h];exact(Zao _ _).mpr ⟨hG,rfl⟩⟩ | omega | refine And.intro ?_ ?_ | ((try simp only[Zay]at *);omega) | ((try simp only[Zay]at *);(try simp only[Zap,Zay,Zar,Zau,List.length_take,List.length_drop]);omega) | (simp[aX,V.n,V.ns]) | exact fun hG=>by(try simp only[nb]at hG);omega | exact fun hG=>by(try simp only[nb]at hG);(try simp only[Zay]at *);omega | exact fun hG=>by(try simp only[nb]at hG);(try simp only[Zay]at *);(try simp only[Zap,Zay,Zar,Zau,List.length_take,List.length_drop]);omega | (simp;omega) | assumption)):p:=h
theorem az{A Z:Prop}(z:Z)(a:A:=by exact aI):A/\Z:=⟨a,z⟩
theorem bJ{A B Z:Prop}(z:Z)(a:A/\B:=by exact aI):A/\B/\Z:=⟨a.1,a.2,z⟩
theorem bN{A B C Z:Prop}(z:Z)(a:A/\B/\C:=by exact aI):A/\B/\C/\Z:=⟨a.1,a.2.1,a.2.2,z⟩
theorem dM{A B C D Z:Prop}(z:Z)(a:A/\B/\C/\D:=by exact aI):A/\B/\C/\D/\Z:=⟨a.1,a.2.1,a.2.2.1,a.2.2.2,z⟩
theorem fQ{A B C D E Z:Prop}(z:Z)(a:A/\B/\C/\D/\E:=by exact aI):A/\B/\C/\D/\E/\Z:=⟨a.1,a.2.1,a.2.2.1,a.2.2.2.1,a.2.2.2.2,z⟩
theorem pw{A B C D E F Z:Prop}(z:Z)(a:A/\B/\C/\D/\E/\F:=by exact aI):A/\B/\C/\D/\E/\F/\Z:=⟨a.1,a.2.1,a.2.2.1,a.2.2.2.1,a.2.2.2.2.1,a.2.2.2.2.2,z⟩
theorem Dd{A B C D E F G Z:Prop}(z:Z)(a:A/\B/\C/\D/\E/\F/\G:=by exact aI):A/\B/\C/\D/\E/\F/\G/\Z:=⟨a.1,a.2.1,a.2.2.1,a.2.2.2.1,a.2.2.2.2.1,a.2.2.2.2.2.1,a.2.2.2.2.2.2,z⟩
theorem jB{A B C D E F G H Z:Prop}(z:Z)(a:A/\B/\C/\D/\E/\F/\G/\H:=by exact aI):A/\B/\C/\D/\E/\F/\G/\H/\Z:=⟨a.1,a.2.1,a.2.2.1,a.2.2.2.1,a.2.2.2.2.1,a.2.2.2.2.2.1,a.2.2.2.2.2.2.1,a.2.2.2.2.2.2.2,z⟩
mutual
def V.lits:V->Option (List Value)
 | .lit x=>if x.oneCell' then some [x] else none
 | .agg vs=>V.xn vs
 | _=>none
def V.xn:List V->Option (List Value)
 | []=>some []
 | v::vs=>match v.lits,V.xn vs with
   | some a,some b=>some (a++b)
   | _,_=>none
end
def V.val?:V->Option Value
 | .lit x=>if x.oneCell' then some x else none
 | .agg us=>(V.xn us).map fun l=>.agg l.toArray
 | .ptr _ _ g o=>some (.pointer (some ⟨g,o,none⟩))
 | _=>none
section
variable {w w':World} {Pb Kb Pb':Nat->Prop} {N:Nat} {A A' B:AS} {a:Act} {F:r5->List Nat} {P:Program} {ops:Array Oper}
mutual
theorem Es:∀ (v:V) {l},v.lits=some l->∀ {cs F},R w Pb v cs F↔cs=l/\F=[]
 | .lit x,l,h,cs,F=>by
   simp only[V.lits]at h;split at h;rename_i hx;simp at h;subst h;simp only[R];exact⟨fun h=>h.2,fun h=>⟨hx,h⟩⟩;simp at h
 | .agg vs,l,h,cs,F=>by simp only[V.lits]at h;simp only[R];exact xD vs h
 | .sl ..,_,h,_,_=>by simp[V.lits]at h
 | .tup _,_,h,_,_=>by simp[V.lits]at h
 | .gv _ _,_,h,_,_=>by simp[V.lits]at h
 | .own ..,_,h,_,_=>by simp[V.lits]at h
 | .hd ..,_,h,_,_=>by simp[V.lits]at h
 | .ow ..,_,h,_,_=>by simp[V.lits]at h
 | .om ..,_,h,_,_=>by simp[V.lits]at h
 | .mp ..,_,h,_,_=>by simp[V.lits]at h
 | .ptr ..,_,h,_,_=>by simp[V.lits]at h
 | .ep _,_,h,_,_=>by simp[V.lits]at h
 | .c9,_,h,_,_=>by simp[V.lits]at h
theorem xD:∀ (vs:List V) {l},V.xn vs=some l->∀ {cs F},RL w Pb vs cs F↔cs=l/\F=[]
 | [],l,h,cs,F=>by simp[V.xn]at h;subst h;simp[RL]
 | v::vs,l,h,cs,F=>by
   simp only[V.xn]at h;split at h;rename_i a b h1 h2;simp at h;subst h;simp only[RL,Es v h1,xD vs h2];exact⟨fun⟨_,_,_,_,e1,e2,⟨e3,e4⟩,e5,e6⟩=>⟨by rw[e1,e3,e5],by rw[e2,e4,e6];rfl⟩,fun⟨e1,e2⟩=>⟨_,_,_,_,e1,(by rw[e2];rfl:_=([]:List Nat)++[]),⟨rfl,rfl⟩,rfl,rfl⟩⟩;simp at h
end
theorem Ox{v:V}{x y:Value}{Fx:List Nat}(h:v.val? =some y)(hr:RV w Pb v x Fx):x=y/\Fx=[]:=by
 cases v with
 | lit z=>
   simp only[V.val?]at h;split at h;obtain⟨_,e,hF⟩:=(hr:R w Pb (.lit z) [x] Fx);simp at e h;exact⟨by rw[e,h],hF⟩;simp at h
 | agg us=>
   simp only[V.val?,Option.map_eq_some_iff]at h;obtain⟨l,h1,rfl⟩:=h;obtain⟨cs,rfl,hr⟩:=(hr:∃ cs,x=.agg cs/\RL w Pb us cs.toList Fx);obtain⟨e1,e2⟩:=(xD us h1).1 hr;exact⟨by rw[<- e1],e2⟩
 | ptr r p g o=>
   simp only[V.val?,Zan]at h;subst h;obtain⟨hF,e⟩:=(hr:R w Pb (.ptr r p g o) [x] Fx);simp at e;exact⟨e,hF⟩
 | _=>simp[V.val?]at h
theorem AJ{v:V}{y:Value}(h:v.val? =some y):RV w Pb v y []:=by
 cases v with
 | lit z=>
   simp only[V.val?]at h;split at h;rename_i hz;simp at h;subst h;exact⟨hz,rfl,rfl⟩;simp at h
 | agg us=>
   simp only[V.val?,Option.map_eq_some_iff]at h;obtain⟨l,h1,rfl⟩:=h;exact⟨_,rfl,(xD us h1).2 ⟨rfl,rfl⟩⟩
 | ptr r p g o=>
   simp only[V.val?,Zan]at h;subst h;exact⟨rfl,rfl⟩
 | _=>simp[V.val?]at h
theorem ma(hs:C3 N Pb Kb A a w F){x:Operand}{y:Value}(h:(A.ev x).val? =some y):a.eval x=y:=by
 obtain⟨_,hr⟩:=fv hs x;exact(Ox h hr).1
theorem Gm{v:V}{y:Value}{vs:List V}{xs:List Value}(h:v.val? =some y)(hr:RVs w Pb vs xs []):RVs w Pb (v::vs) (y::xs) []:=by
 have:=AJ (w:=w) (Pb:=Pb) h;refine⟨y,xs,[],[],rfl,rfl,?_,hr⟩;cases v with
 | agg us=>exact this
 | lit _=>exact this
 | ptr _ _ _ _=>exact this
 | _=>simp[V.val?]at h
theorem xa{v1 v2:V}{y1 y2:Value}(h1:v1.val? =some y1)(h2:v2.val? =some y2):RV w Pb (.tup [v1,v2]) (.tuple #[y1,y2]) []:=
 ⟨_,rfl,Gm h1 (Gm h2 ⟨rfl,rfl⟩)⟩
theorem C3.mod(hs:C3 N Pb Kb A a w F) {t g:Nat} {v':V} (hg:g∈F (.slot t)) (hk:∀ k,k≠g->w'.heap[k]? =w.heap[k]?) (hsz:w'.heap.size=w.heap.size)
 (hv:RV w' Pb v' (a.tmps.getD t undef) (F (.slot t))):C3 N Pb Kb (A.put (some t) v') a w' F where
 size:=hs.size
 defers:=hs.defers
 slot:=fun i=>by
  rw[AS.bg];split;rename_i e;subst e;exact hv;rename_i e;refine qI _ (hs.slot i) (fun x hx=>hk x fun c=>?_) (fun x hx=>hk x fun c=>?_) (fun _ h=>h) (fun x hx c=>(hs.free _ x hx).1 (hs.sub x c));subst c;exact(hs.free _ _ hg).1 (hs.sub _ hx);subst c;exact hs.du (.slot i) (.slot t) (fun c=>e (by injection c)) _ hx hg
 root:=fun k g' v h=>by
  obtain⟨F',e,hA⟩:=hs.root k g' v h;refine⟨F',e,?_⟩;have hne:∀ x,x∈g'::F'->x≠g:=fun x hx c=>by
   subst c;exact hs.du (.key k) (.slot t) Zad _ (by rw[e];exact hx) hg
  obtain⟨cs,cells,⟨e1,fr,hb,hfr⟩,hr,hc⟩:=hA
  exact⟨cs,cells,⟨e1,fr,(hk g' (hne g' Zad)).trans hb,hfr⟩,jN _ hr (fun x hx=>hk x fun c=>by subst c;exact(hs.free _ _ hg).1 (hs.sub _ hx)) (fun x hx=>hk x (hne x (by simp[hx]))) (fun _ h=>h)
   (fun x hx c=>(hs.free (.key k) x (by rw[e];simp[hx])).1 (hs.sub x c)),hc⟩
 du:=hs.du
 nodup:=hs.nodup
 free:=fun r x hx=>by rw[hsz];exact hs.free r x hx
 sub:=hs.sub
 bound:=fun x hx=>by rw[hsz];exact hs.bound x hx
theorem iu{o:Oper} {K:AS->Prop} {d:Nat} {v:V} (hd:o.dst=some d) (hN:d<N) (hK:K (A.put (some d) v))
 (h:∀ Pb Kb a w F,C3 N Pb Kb A a w F->∃ x,(execOp a.eval o).run P w=.ok (.value x) w/\RV w Pb v x []):N' P N o A K:=
 mn (by rw[hd];exact hN) (by rw[hd];exact hK) h
end
section
variable {P:Program}
def miC:Cu P where
 X:=Unit
 pre N o A:=match o.op,o.dst with
  | .makeInterface T x,some d=>match Nat.blt d N,tD P T,(A.ev x).val? with
    | true,some _,some y=>(∃ td,P.underlying T=some td/\(∀ i,td≠.interface i))/\(Value.iface T y).oneCell'=true
    | _,_,_=>False
  | _,_=>False
 post _ o A:=match o.op,o.dst with
  | .makeInterface T x,some d=>match (A.ev x).val? with
    | some y=>A.put (some d) (.lit (.iface T y))
    | none=>A
  | _,_=>A
 ok:=by
  rintro N ⟨dst,op,ty,pos,after,I6⟩ A K-hp hK;replace hK:=hK ();simp only at hp hK;split at hp;rename_i T x d;split at hp;rename_i td0 y e1 e2 e3;obtain⟨⟨td,h1,h2⟩,h3⟩:=hp;simp only[e3]at hK;refine iu rfl (cv e1) hK fun Pb Kb a w F hs=>⟨.iface T y,?_,eA h3⟩;have hy:=ma hs e3;have hu:=bz (w:=w) h1;cases td with
  | interface i=>exact absurd rfl (h2 i)
  | _=>simp[execOp,Instr.makeInterface,Za0,hu,hy]
  exact hp.elim;exact hp.elim
def taC(v:V):Cu P where
 X:=Unit
 pre N o A:=match o.op,o.dst with
  | .typeAssert x _ T true,some d=>match Nat.blt d N,A.ev x,v.val? with
    | true,.lit (.iface T' y),some y'=>(∃ td,P.underlying T=some td/\(∀ i,td≠.interface i))/\T'=T/\y'=y
    | _,_,_=>False
  | _,_=>False
 post _ o A:=match o.dst with
  | some d=>A.put (some d) (.tup [v,bV true])
  | none=>A
 ok:=by
  rintro N ⟨dst,op,ty,pos,after,I6⟩ A K-hp hK;replace hK:=hK ();simp only at hp hK;split at hp;rename_i x T1 T d;split at hp;rename_i T' y y' e1 e2 e3;obtain⟨⟨td,h1,h2⟩,rfl,rfl⟩:=hp;refine iu rfl (cv e1) hK fun Pb Kb a w F hs=>⟨.tuple #[y',.bool true],?_,xa e3 rfl⟩;have hy:=dj hs e2;have hu:=bz (w:=w) h1;cases td with
  | interface i=>exact absurd rfl (h2 i)
  | _=>simp[execOp,Instr.typeAssert,Za0,hu,hy]
  exact hp.elim;exact hp.elim
def ZK(z:ZT P):Cu P where
 X:=Unit
 pre N o A:=match o.op,o.dst with
  | .typeAssert x _ T true,some d=>match Nat.blt d N,A.ev x,T==z.T with
    | true,.lit (.iface T' y),true=>(∃ td,P.underlying T=some td/\(∀ i,td≠.interface i))/\T'≠T/\(∃ y,z.v.val? =some y/\∀ w,(zeroValue T).run P w=.ok y w)
    | _,_,_=>False
  | _,_=>False
 post _ o A:=match o.dst with
  | some d=>A.put (some d) (.tup [z.v,bV false])
  | none=>A
 ok:=by
  rintro N ⟨dst,op,ty,pos,after,I6⟩ A K-hp hK;replace hK:=hK ();simp only at hp hK;split at hp;rename_i x T1 T d;split at hp;rename_i T' y e1 e2 e3;obtain⟨⟨td,h1,h2⟩,hne,y2,hz,Xx⟩:=hp;refine iu rfl (cv e1) hK fun Pb Kb a w F hs=>⟨.tuple #[y2,.bool false],?_,xa hz rfl⟩;have hy:=dj hs e2;have hu:=bz (w:=w) h1;cases td with
  | interface i=>exact absurd rfl (h2 i)
  | _=>simp[execOp,Instr.typeAssert,Za0,hu,hy,hne,Xx]
  exact hp.elim;exact hp.elim
def mE:List V->Option (List Value)
 | []=>some []
 | v::vs=>match v.val?,mE vs with
   | some y,some ys=>some (y::ys)
   | _,_=>none
theorem qt{N:Nat}{Pb Kb:Nat->Prop}{A:AS}{a:Act}{w:World}{F:r5->List Nat}(hs:C3 N Pb Kb A a w F):∀ (xs:List Operand) {ys:List Value},mE (xs.map A.ev)=some ys->xs.map a.eval=ys
 | [],ys,h=>by simp[mE]at h;simp[h]
 | x::xs,ys,h=>by
   simp only[Zbe,mE]at h;split at h;rename_i y ys' h1 h2;simp at h;subst h;rw[Zbe,ma hs h1,qt hs xs h2];simp at h
def Vq:Cu P where
 X:=Unit
 pre N o A:=match o.op,o.dst with
  | .makeFunc fn first H6,some d=>match Nat.blt d N,mE (first.toList.map A.ev),mE (H6.toList.map A.ev) with
    | true,some l1,some l2=>(Value.func fn l1.toArray l2.toArray).oneCell'=true
    | _,_,_=>False
  | _,_=>False
 post _ o A:=match o.op,o.dst with
  | .makeFunc fn first H6,some d=>match mE (first.toList.map A.ev),mE (H6.toList.map A.ev) with
    | some l1,some l2=>A.put (some d) (.lit (.func fn l1.toArray l2.toArray))
    | _,_=>A
  | _,_=>A
 ok:=by
  rintro N ⟨dst,op,ty,pos,after,I6⟩ A K-hp hK;replace hK:=hK ();simp only at hp hK;split at hp;rename_i fn first H6 d
  split at hp;rename_i l1 l2 e1 e2 e3;simp only[e2,e3]at hK;refine iu rfl (cv e1) hK fun Pb Kb a w F hs=>⟨.func fn l1.toArray l2.toArray,?_,eA hp⟩;have h1:=qt hs _ e2;have h2:=qt hs _ e3;have h1:first.map a.eval=l1.toArray:=by rw[<- h1];apply Array.ext';simp
  have h2:H6.map a.eval=l2.toArray:=by rw[<- h2];apply Array.ext';simp
  simp only[execOp,Instr.makeFunc,Za0,Zas,Za1,h1,h2];exact hp.elim;exact hp.elim
end
section
variable {w w':World} {Pb Kb Pb':Nat->Prop} {N:Nat} {A A' B:AS} {a:Act} {F:r5->List Nat} {P:Program} {ops:Array Oper}
theorem Iu{v:V}{x:Value}(h:v.lits=some [x]):∀ n,RL w Pb (List.replicate n v) (List.replicate n x) []
 | 0=>⟨rfl,rfl⟩
 | n+1=>⟨[x],List.replicate n x,[],[],rfl,rfl,(Es v h).2 ⟨rfl,rfl⟩,Iu h n⟩
theorem Pm{x:Value}{n:Nat}{zc:Array Value}(h:zc.toList=[x]):madeCells zc (n*1)=(List.replicate n x).toArray:=by
 have hz:zc= #[x]:=by rw[<- Array.toList_inj];simpa using h
 subst hz;apply Array.ext;simp[madeCells];intro i h1 h2;simp[madeCells,Nat.mod_one]at h1 ⊢
def msC(z:ZT P)(n:Nat):Cu P where
 X:=Nat
 pre N o A:=match o.op,o.dst with
  | .makeSlice T l c,some d=>match Nat.blt d N,tD P T,ti P z.T with
    | true,some (.sl e),some i=>(e=z.T/\i.sz=1/\(∃ x,z.v.lits=some [x])/\z.v.n=1)/\A.ev l=.lit (.int .i64 n)/\A.ev c=.lit (.int .i64 n)/\1<=n/\n*i.QD<=140737488355328/\n<=9223372036854775807
    | _,_,_=>False
  | _,_=>False
 post g o A:=match o.dst with
  | some d=>A.put (some d) (.own 1 (List.replicate n z.v) g 0 n)
  | none=>A
 ok:=by
  rintro N ⟨dst,op,ty,pos,after,I6⟩ A K-hp hK;simp only at hp hK;split at hp;rename_i T l c d;split at hp;rename_i e i e1 e2 e3;obtain⟨⟨rfl,hsz,⟨x,hx⟩,ZN⟩,hl,hc,h1,Wn,h63⟩:=hp;obtain⟨inf,z0,Q3,hzero,hfl⟩:=z.ok;obtain⟨Wy,_,Qd,_,VI,V4,_⟩:=mH e3;rw[Q3]at Qd;obtain rfl:=Option.some.inj Qd;have hu:=lL e2;intro Pb Kb a w F Q hs;have hl:=dj hs hl;have hc:=dj hs hc;have G7:z0.cells.toList=[x]:=by
   have h1:=wS (w:=w) (Pb:=Pb) z.v hfl;exact((Es z.v hx).1 h1).1
  have hm:=run_make (P:=P) w T z.T inf z0 hu Q3 hzero .i64 .i64 n n Zac Zac (by rw[V4,<- Int.natCast_mul,Nat.mul_comm];omega) Zac;rw[Int.toNat_natCast,VI,hsz,Pm G7]at hm;have RD:(execOp a.eval ⟨some d,.makeSlice T l c,ty,pos,after,I6⟩).run P w=.ok (.value (.slice (some ⟨w.heap.size,0,none⟩) n n)) (w.alloc (.cells (List.replicate n x).toArray z.T)):=by
   simp only[execOp,Za0,hl,hc,hm,Zas,Za1]
  unfold Oper.wp;rw[RD,Oper.upon_value];have Rj:=hs.sA (.cells (List.replicate n x).toArray z.T);have TT: ¬ Kb w.heap.size:=fun h=>by have:=hs.bound _ h;omega
  have hR:R (w.alloc (.cells (List.replicate n x).toArray z.T)) Pb (.own 1 (List.replicate n z.v) w.heap.size 0 n) [.slice (some ⟨w.heap.size,0,none⟩) n n] [w.heap.size]:=
   .inr ⟨h1,Nat.one_pos,Zad,Zad,fun v WC=>by rw[List.eq_of_mem_replicate WC];exact ZN,fun c=>TT (hs.sub _ c),_,[],_,rfl,Iu hx n,⟨z.T,(0,0),jU w _,fun i _ h=>by omega⟩,Zad,fun j u hu=>by rw[Zaw,List.getElem?_toArray];exact hu⟩
  exact⟨_,Pb,Kb,_,hK _,Rj.put (cv e1) hR (fun r _ g hg=>by
   obtain rfl:=Zav.1 hg;intro c;have:=(hs.free r _ c).2;omega) Zad (fun g hg=>by
   obtain rfl:=Zav.1 hg;exact⟨TT,Zbx⟩),fun _ h=>h,fun _ h=>h,fun _ h=>.inl h,F7.alloc hs.bound _⟩
  exact hp.elim;exact hp.elim
def dL:List (BL×Value)->BL->Option Value
 | [],_=>none
 | p::r,k=>if p.1=k then some p.2 else dL r k
def iK:List (BL×Value)->BL->Value->List (BL×Value)
 | [],k,x=>[(k,x)]
 | p::r,k,x=>if p.1=k then (k,x)::r else p::iK r k x
theorem str_inj{a b:BL}:((⟨a.toArray⟩:ByteArray)== ⟨b.toArray⟩)=decide (a=b):=by
 rw[Za6,MapKept.bytes_beq];simp
theorem oy(k:BL):∀ (es:List (BL×Value)) (l:List MapEntry) (i:Nat),l.map (fun e=>(e.key,e.val))=es.map (fun p=>(Value.string ⟨p.1.toArray⟩,p.2))->
 (dL es k=none->Instr.findNow .string (.string ⟨k.toArray⟩) l i=some none)/\
 (∀ x,dL es k=some x->∃ j,Instr.findNow .string (.string ⟨k.toArray⟩) l i=some (some (i+j,x))/\j<l.length/\(∃ e,l[j]? =some e/\e.key=.string ⟨k.toArray⟩)/\
  ∀ y,(l.modify j fun e=>{ e with key:=.string ⟨k.toArray⟩,val:=y }).map (fun e=>(e.key,e.val))=(iK es k y).map (fun p=>(Value.string ⟨p.1.toArray⟩,p.2)))
 | [],l,i,h=>by
   have:l=[]:=Zbq
   subst this;simp[dL,Instr.findNow]
 | p::r,l,i,h=>by
   cases l with
   | nil=>simp at h
   | cons e l=>
     simp only[Zbe,List.cons.injEq,Zaq]at h;obtain⟨⟨h1,h2⟩,h3⟩:=h;obtain⟨i1,i2⟩:=oy k r l (i+1) h3;simp only[dL,iK,Instr.findNow,h1,Instr.sameNow,str_inj];by_cases hk:p.1=k;subst hk;simp only[if_true,decide_true];refine⟨Zad,fun x hx=>⟨0,?_,Zad,⟨e,rfl,h1⟩,fun y=>?_⟩⟩;simp at hx;rw[h2,hx];rfl;simp[h3];have Sv: ¬ k=p.1:=fun c=>hk c.symm;simp only[if_neg hk,decide_eq_false Sv];refine⟨i1,fun x hx=>?_⟩;obtain⟨j,j1,j2,⟨e',j3,j4⟩,j5⟩:=i2 x hx;refine⟨j+1,by rw[j1];congr 2;simp;omega,Zal,⟨e',by simpa using j3,j4⟩,fun y=>?_⟩;have:=j5 y;simp only[List.modify_succ_cons,Zbe,this,h1,h2]
theorem yD(k:BL)(y:Value):∀ (es:List (BL×Value)),dL es k=none->iK es k y=es++[(k,y)]
 | [],_=>rfl
 | p::r,h=>by
   simp only[dL]at h;split at h;simp at h;rename_i hk;simp only[iK,if_neg hk,yD k y r h,List.cons_append]
theorem rv{e:Bool}{n T:Nat}{k:ByteArray}(h:P.underlying T=some .string):(Instr.checkKey e (n+1) T (.string k)).run P w=.ok () w:=by
 unfold Instr.checkKey;simp[Za0,bz (w:=w) h]
theorem CZ{k:ByteArray}{n:Nat}:Instr.sameBits n (.string k) (.string k)=true:=by
 unfold Instr.sameBits;exact(MapKept.bytes_beq k k).2 rfl
def mmC:Cu P where
 X:=Nat
 pre N o A:=match o.op,o.dst with
  | .makeMap _ none,some d=>match Nat.blt d N with
    | true=>True
    | false=>False
  | _,_=>False
 post g o A:=match o.dst with
  | some d=>A.put (some d) (.om [] g)
  | none=>A
 ok:=by
  rintro N ⟨dst,op,ty,pos,after,I6⟩ A K-hp hK;simp only at hp hK;split at hp;rename_i T d;split at hp;rename_i e1;intro Pb Kb a w F Q hs;have RD:(execOp a.eval ⟨some d,.makeMap T none,ty,pos,after,I6⟩).run P w=.ok (.value (.map (some w.heap.size))) (w.alloc (.map #[] 0)):=rfl;unfold Oper.wp;rw[RD,Oper.upon_value];have Rj:=hs.sA (.map #[] 0);have TT: ¬ Kb w.heap.size:=fun h=>by have:=hs.bound _ h;omega
  have hR:R (w.alloc (.map #[] 0)) Pb (.om [] w.heap.size) [.map (some w.heap.size)] [w.heap.size]:=
   ⟨rfl,rfl,fun c=>TT (hs.sub _ c),#[],0,jU w _,rfl,Zad,Zad⟩
  exact⟨_,Pb,Kb,_,hK _,Rj.put (cv e1) hR (fun r _ g hg=>by
   obtain rfl:=Zav.1 hg;intro c;have:=(hs.free r _ c).2;omega) Zad (fun g hg=>by
   obtain rfl:=Zav.1 hg;exact⟨TT,Zbx⟩),fun _ h=>h,fun _ h=>h,fun _ h=>.inl h,F7.alloc hs.bound _⟩
  exact hp.elim;exact hp.elim
def muC(t0:Nat)(es:List (BL×Value))(k:BL)(y:Value):Cu P where
 X:=Unit
 pre N o A:=match o.op,o.dst with
  | .mapUpdate T m kx x,none=>match tD P T,Nat.blt t0 N with
    | some (.map kt _),true=>match tD P kt,A.ev m,A.get t0 with
      | some .str,.lit (.map (some g)),.om Th g'=>(g'=g/\Th=es)/\A.ev kx=sV k/\(A.ev x).val? =some y
      | _,_,_=>False
    | _,_=>False
  | _,_=>False
 post _ o A:=match A.get t0 with
  | .om _ g=>A.put (some t0) (.om (iK es k y) g)
  | _=>A
 ok:=by
  rintro N ⟨dst,op,ty,pos,after,I6⟩ A K-hp hK;replace hK:=hK ();simp only at hp hK;split at hp;rename_i T m kx x;split at hp;rename_i kt et e1 e2;split at hp;rename_i g Th g' e3 e4 e5;obtain⟨⟨rfl,rfl⟩,hk,hy⟩:=hp;rw[e5]at hK;intro Pb Kb a w F Q hs;have hm:=dj hs e4;have hk:=dj hs hk;have hy:=ma hs hy;have h0:=hs.slot t0;rw[e5]at h0;have h0:R w Pb (.om Th g') [a.tmps.getD t0 undef] (F (.slot t0)):=h0;obtain⟨hF,hc,hnP,en,cl,hb,Wm,hnd,hcl⟩:=h0;obtain⟨td,hu,hd⟩:=dY e1;have hu:P.underlying T=some (.map kt et):=by
   cases td <;> simp_all[fa]
  obtain⟨Ww,St,U'⟩:=dY e3;have St:P.underlying kt=some .string:=by
   cases Ww <;> simp_all[fa]
  have XN:∀ w:World,(Instr.checkKey false 10000 kt (.string (Str k))).run P w=.ok () w:=fun w=>rv St;obtain⟨f1,f2⟩:=oy k Th en.toList 0 Wm
  have hw:∃ Vc Wq,(Instr.mapUpdate T (.map (some g')) (.string (Str k)) y).run P w=.ok () { w with heap:=w.heap.setIfInBounds g' (.map Vc Wq) }/\
   Vc.toList.map (fun e=>(e.key,e.val))=(iK Th k y).map (fun p=>(.string ⟨p.1.toArray⟩,p.2))/\(Vc.toList.map (·.born)).Nodup/\∀ e∈Vc.toList,e.born<Wq:=by
   cases hlk:dL Th k with
   | none=>
     have:=f1 hlk;refine⟨en.push { key:=.string (Str k),val:=y,born:=cl },cl+1,?_,?_,?_,?_⟩;rw[show (⟨k.toArray⟩:ByteArray)=Str k from rfl]at this;simp[Instr.mapUpdate,run_underlying hu,MapKept.run_getObj_map hb,XN,MapKept.run_findKey St this,MapKept.run_setObj_map _ hb,Result.andThen];rw[yD k y Th hlk];simp[Wm,Str];simp only[Array.toList_push,Zbb,Zbe,List.map_nil];rw[List.nodup_append];refine⟨hnd,Zad,fun a ha b hb=>?_⟩;simp only[Zav]at hb;obtain⟨e,he,rfl⟩:=List.mem_map.1 ha;have:=hcl e he;omega;intro e he;simp only[Array.toList_push,Zax,Zav]at he;rcases he with he | rfl;have:=hcl e he;omega;simp
   | some x0=>
     obtain⟨j,j1,j2,⟨e,j3,j4⟩,j5⟩:=f2 x0 hlk;rw[Zaw]at j1;refine⟨en.modify j fun e=>{ e with key:=.string (Str k),val:=y },cl,?_,?_,?_,?_⟩;rw[show (⟨k.toArray⟩:ByteArray)=Str k from rfl]at j1;have YM:((en[j]?).map (·.key)).getD (.string (Str k))=.string (Str k):=by
      have:en[j]? =some e:=by rw[<- Array.getElem?_toList];exact j3
      rw[this];exact j4
     simp[Instr.mapUpdate,run_underlying hu,MapKept.run_getObj_map hb,XN,MapKept.run_findKey St j1,YM,Instr.keyThatStays,CZ,MapKept.run_setObj_map _ hb,Result.andThen];rw[Array.toList_modify];exact j5 y;rw[Array.toList_modify];have:(en.toList.modify j fun e=>{ e with key:=.string (Str k),val:=y }).map (·.born)=en.toList.map (·.born):=by
      apply List.ext_getElem?;intro i;simp only[List.getElem?_map,List.getElem?_modify];cases en.toList[i]? with
      | none=>rfl
      | some e=>simp only[Option.map_eq_map,Option.map_some];split <;> rfl
     rw[this];exact hnd;intro e he;rw[Array.toList_modify]at he;obtain⟨i,hi⟩:=List.mem_iff_getElem?.1 he;rw[List.getElem?_modify]at hi;obtain⟨e',h1,h2⟩:=Option.map_eq_some_iff.1 hi;have:=hcl e' (Za7 h1);rw[<- h2];split <;> simpa using this
  obtain⟨Vc,Wq,G8,q1,q2,q3⟩:=hw;have hgs:g'<w.heap.size:=(hs.free (.slot t0) g' (by rw[hF];simp)).2;have RD:(execOp a.eval ⟨none,.mapUpdate T m kx x,ty,pos,after,I6⟩).run P w=.ok .skip { w with heap:=w.heap.setIfInBounds g' (.map Vc Wq) }:=by
   simp[execOp,hm,hk,hy,G8,Result.andThen]
  unfold Oper.wp;rw[RD,Oper.upon_skip];have hne:∀ k,k≠g'->(w.heap.setIfInBounds g' (.map Vc Wq))[k]? =w.heap[k]? :=fun k hk=>by
   rw[Array.getElem?_setIfInBounds_ne (Ne.symm hk)]
  refine⟨_,Pb,Kb,F,hK,hs.mod (w':={ w with heap:=w.heap.setIfInBounds g' (.map Vc Wq) }) (t:=t0) (g:=g') (by rw[hF];simp) hne Zad ?_,fun _ h=>h,fun _ h=>h,fun _ h=>.inl h,⟨rfl,rfl,rfl,Zad,fun k hk=>hne k fun c=>(hs.free (.slot t0) g' (by rw[hF];simp)).1 (c ▸ hk),fun k c _ _ hk=>⟨c,by rw[hne k (by rintro rfl;rw[hb]at hk;cases hk)];exact hk,rfl⟩⟩⟩;exact(⟨hF,hc,hnP,Vc,Wq,(by simp[hgs]:(w.heap.setIfInBounds g' (.map Vc Wq))[g']? =some (.map Vc Wq)),q1,q2,q3⟩:R { w with heap:=w.heap.setIfInBounds g' (.map Vc Wq) } Pb (.om (iK Th k y) g') _ _);exact hp.elim;exact hp.elim;exact hp.elim
def mlC(t0:Nat):Cu P where
 X:=Unit
 pre N o A:=match o.op,o.dst with
  | .call ⟨.builtin .len,⟨[x]⟩,⟨[T]⟩⟩,some d=>match tD P T,Nat.blt d N with
    | some (.map _ _),true=>match A.ev x,A.get t0 with
      | .lit (.map (some g)),.om _ g'=>g'=g
      | _,_=>False
    | _,_=>False
  | _,_=>False
 post _ o A:=match o.dst,A.get t0 with
  | some d,.om es _=>A.put (some d) (.lit (.int .i64 es.length))
  | _,_=>A
 ok:=by
  rintro N ⟨dst,op,ty,pos,after,I6⟩ A K-hp hK;replace hK:=hK ();simp only at hp hK;split at hp;rename_i x T d;split at hp;rename_i kt et e1 e2;split at hp;rename_i g es g' e3 e4;subst hp;rw[e4]at hK;refine iu rfl (cv e2) hK fun Pb Kb a w F hs=>⟨.int .i64 es.length,?_,eA rfl⟩;have hm:=dj hs e3;have h0:=hs.slot t0;rw[e4]at h0;have h0:R w Pb (.om es g') [a.tmps.getD t0 undef] (F (.slot t0)):=h0;obtain⟨hF,hc,hnP,en,cl,hb,Wm,hnd,hcl⟩:=h0;obtain⟨td,hu,hd⟩:=dY e1;have hu:P.underlying T=some (.map kt et):=by
   cases td <;> simp_all[fa]
  have hl:en.size=es.length:=by
   have:=Zbm List.length Wm;simpa using this
  have hr:((#[x]:Array Operand).map a.eval)= #[.map (some g')]:=by simp[hm]
  simp[execOp,resolve,Deferred.ofValue,invoke,builtin,Builtin.len_,hm,run_underlying hu,MapKept.run_getObj_map hb,Result.andThen,hl,goInt];exact hp.elim;exact hp.elim;exact hp.elim
def lkC(es:List (BL×Value))(k:BL)(v:V)(ok:Bool):Cu P where
 X:=Unit
 pre N o A:=match o.op,o.dst with
  | .lookup T x kx true,some d=>match tD P T,Nat.blt d N with
    | some (.map kt et),true=>match tD P kt,A.ev x with
      | some .str,.mp Th=>(Th=es)/\A.ev kx=sV k/\((ok=true/\∃ y,dL es k=some y/\v.val? =some y)\/(ok=false/\dL es k=none/\∃ y,v.val? =some y/\∀ w,(zeroValue et).run P w=.ok y w))
      | _,_=>False
    | _,_=>False
  | _,_=>False
 post _ o A:=match o.dst with
  | some d=>A.put (some d) (.tup [v,bV ok])
  | none=>A
 ok:=by
  rintro N ⟨dst,op,ty,pos,after,I6⟩ A K-hp hK;replace hK:=hK ();simp only at hp hK;split at hp;rename_i T x kx d;split at hp;rename_i kt et e1 e2;split at hp;rename_i Th e3 e4;obtain⟨rfl,hk,hy⟩:=hp;obtain⟨td,hu,hd⟩:=dY e1;have hu:P.underlying T=some (.map kt et):=by
   cases td <;> simp_all[fa]
  obtain⟨Ww,St,U'⟩:=dY e3;have St:P.underlying kt=some .string:=by
   cases Ww <;> simp_all[fa]
  have Qc:∃ y,v.val? =some y:=by
   rcases hy with ⟨_,y,_,h⟩ | ⟨_,_,y,h,_⟩ <;> exact⟨y,h⟩
  obtain⟨y,hv⟩:=Qc;refine iu rfl (cv e2) hK fun Pb Kb a w F hs=>⟨.tuple #[y,.bool ok],?_,xa hv rfl⟩;have hk:=dj hs hk;obtain⟨_,hx⟩:=fv hs x;rw[e4]at hx;have hx:R w Pb (.mp Th) [a.eval x] _:=hx;obtain⟨_,g,hc,_,en,cl,hb,Wm,_,_⟩:=hx;simp only[List.cons.injEq,and_true]at hc;obtain⟨f1,f2⟩:=oy k Th en.toList 0 Wm;have XN:∀ e,(Instr.checkKey e 10000 kt (.string (Str k))).run P w=.ok () w:=fun e=>rv St;rcases hy with ⟨rfl,y',h1,h2⟩ | ⟨rfl,h1,y',h2,Xx⟩;rw[hv]at h2;obtain rfl:=Option.some.inj h2;obtain⟨j,j1,_⟩:=f2 _ h1;rw[show (⟨k.toArray⟩:ByteArray)=Str k from rfl]at j1;simp[execOp,hc,hk,Instr.lookup,run_underlying hu,MapKept.run_getObj_map hb,XN,MapKept.run_findKey St j1,Result.andThen];rw[hv]at h2;obtain rfl:=Option.some.inj h2;have j1:=f1 h1;rw[show (⟨k.toArray⟩:ByteArray)=Str k from rfl]at j1;simp[execOp,hc,hk,Instr.lookup,run_underlying hu,MapKept.run_getObj_map hb,XN,MapKept.run_findKey St j1,Result.andThen,Xx];exact hp.elim;exact hp.elim;exact hp.elim
def mnC:Cu P where
 X:=Unit
 pre N o A:=match o.op,o.dst with
  | .call ⟨.builtin .len,⟨[x]⟩,⟨[T]⟩⟩,some d=>match tD P T,Nat.blt d N with
    | some (.map _ _),true=>match A.ev x with
      | .mp _=>True
      | _=>False
    | _,_=>False
  | _,_=>False
 post _ o A:=match o.op,o.dst with
  | .call ⟨.builtin .len,⟨[x]⟩,⟨[_]⟩⟩,some d=>match A.ev x with
    | .mp es=>A.put (some d) (.lit (.int .i64 es.length))
    | _=>A
  | _,_=>A
 ok:=by
  rintro N ⟨dst,op,ty,pos,after,I6⟩ A K-hp hK;replace hK:=hK ();simp only at hp hK;split at hp;rename_i x T d;split at hp;rename_i kt et e1 e2;split at hp;rename_i es e3;simp only[e3]at hK;refine iu rfl (cv e2) hK fun Pb Kb a w F hs=>⟨.int .i64 es.length,?_,eA rfl⟩;obtain⟨_,hx⟩:=fv hs x;rw[e3]at hx;have hx:R w Pb (.mp es) [a.eval x] _:=hx;obtain⟨_,g,hm,_,en,cl,hb,Wm,_,_⟩:=hx;simp only[List.cons.injEq,and_true]at hm;obtain⟨td,hu,hd⟩:=dY e1;have hu:P.underlying T=some (.map kt et):=by
   cases td <;> simp_all[fa]
  have hl:en.size=es.length:=by
   have:=Zbm List.length Wm;simpa using this
  simp[execOp,resolve,Deferred.ofValue,invoke,builtin,Builtin.len_,hm,run_underlying hu,MapKept.run_getObj_map hb,Result.andThen,hl,goInt];exact hp.elim;exact hp.elim;exact hp.elim
end
theorem drop_cons{α:Type}{l:List α}{i:Nat}(h:i<l.length)(d:α):l.drop i=l.getD i d::l.drop (i+1):=by
 rw[List.drop_eq_getElem_cons h,Zam,Zat h];rfl
theorem aZ{α:Type}{l:List α}{i:Nat}(h:i<l.length)(d:α):l.take (i+1)=l.take i++[l.getD i d]:=by
 rw[List.take_add_one,Zam,Zat h];rfl
theorem all_false{α:Type}{l:List α}{p:α->Bool}{i:Nat}{d:α}(h:i<l.length)(hp:p (l.getD i d)=false):l.all p=false:=by
 rw[List.all_eq_false];refine⟨l.getD i d,?_,by rw[hp];decide⟩;rw[Zam,Zat h];exact List.getElem_mem h
theorem all_true{α:Type}{l:List α}{p:α->Bool}{d:α}(hp:∀ j,j<l.length->p (l.getD j d)=true):l.all p=true:=by
 rw[Za2];intro x hx;obtain⟨j,hj,rfl⟩:=List.getElem_of_mem hx;have:=hp j hj
 rwa [Zam,Zat hj]at this
theorem bm{p:Nat->Prop}{i:Nat}(h:∀ j,j<i->p j)(hi:p i):∀ j,j<i+1->p j:=fun j hj=>by
 rcases Nat.lt_succ_iff_lt_or_eq.1 hj with h' | rfl;exact h j h';exact hi
def aj(c:UInt8):BL->BL×BL×Bool
 | []=>([],[],false)
 | x::r=>if x=c then ([],r,true) else (x::(aj c r).1,(aj c r).2.1,(aj c r).2.2)
def og(b:UInt8):Bool:=decide (97<=b.toNat/\b.toNat<=122)
def fR(b:UInt8):Bool:=decide ((97<=b.toNat/\b.toNat<=122)\/(48<=b.toNat/\b.toNat<=57)\/b.toNat=46\/b.toNat=45)
def dH(b:UInt8):Int:=if 48<=b.toNat/\b.toNat<=57 then b.toNat-48 else if 97<=b.toNat/\b.toNat<=102 then b.toNat-87 else if 65<=b.toNat/\b.toNat<=70 then b.toNat-55 else -1
def w6(n lo hi:Int):Bool:=decide (lo<=n/\n<=hi)
def jv(s:BL):Bool:=s.all og
def dg(s:BL):Bool:=jv s&&w6 s.length 1 5
def cN(s:BL):Bool:=jv s&&w6 s.length 1 8
def dw(s part:BL)(from_:Nat):Int:=
 if h:from_+part.length<=s.length then (if (s.drop from_).take part.length=part then (from_:Int) else dw s part (from_+1)) else -1
 termination_by s.length+1-from_
def nA(b:UInt8):Bool:=fR b||decide (b.toNat=47\/b.toNat=42\/b.toNat=63\/b.toNat=37\/(65<=b.toNat/\b.toNat<=70))
def rr(p:BL)(j:Nat):Bool:=nA (p.getD j 0)||(decide ((p.getD j 0).toNat=36)&&decide (j+1=p.length))
def aS(p:BL):Bool:=decide (1<=p.length/\p.length<=16/\(p.getD 0 0).toNat=47/\∀ j,j<p.length->rr p j=true)
def ox:BL:=[48,49,50,51,52,53,54,55,56,57,65,66,67,68,69,70]
def iB(b:UInt8):BL:=[37,ox.getD (b.toNat / 16) 0,ox.getD (b.toNat % 16) 0]
def hZ(b:UInt8):BL:=if fR b then [b] else iB b
def eK(a b:UInt8):UInt8:=UInt8.ofNat (dH a*16+dH b).toNat
def dW:BL->Option BL
 | []=>some []
 | [c]=>if c.toNat=37 then none else some (hZ c)
 | [c,d]=>if c.toNat=37\/d.toNat=37 then none else some (hZ c++hZ d)
 | c::a::b::r=>if c.toNat=37 then (if 0<=dH a/\0<=dH b then (dW r).map (hZ (eK a b)++ ·) else none) else (dW (a::b::r)).map (hZ c++ ·)
def dp(s:BL):BL×Bool:=if s.length<=60 then (match dW s with | some x=>(x,true) | none=>([],false)) else ([],false)
def iA(s:BL):Bool:=(dp s).2&&((dp s).1==s)
theorem Is{c:UInt8}{r:BL}(h: ¬ c.toNat=37):dW (c::r)=(dW r).map (hZ c++ ·):=by
 match r with
 | []=>simp[dW,h]
 | [d]=>by_cases hd:d.toNat=37 <;> simp[dW,h,hd]
 | a::b::r=>simp[dW,h]
theorem sr{s:BL}{i:Nat}(hi:i<s.length)(h: ¬ (s.getD i 0).toNat=37):dW (s.drop i)=(dW (s.drop (i+1))).map (hZ (s.getD i 0)++ ·):=by
 rw[drop_cons hi 0,Is h]
theorem vB{s:BL}{i:Nat}(hi:i+2<s.length)(h:(s.getD i 0).toNat=37)(h1:0<=dH (s.getD (i+1) 0))(h2:0<=dH (s.getD (i+2) 0)):
 dW (s.drop i)=(dW (s.drop (i+3))).map (hZ (eK (s.getD (i+1) 0) (s.getD (i+2) 0))++ ·):=by
 rw[drop_cons (by omega:i<s.length) 0,drop_cons (by omega:i+1<s.length) 0,drop_cons (by omega:i+1+1<s.length) 0];simp only[dW,h,if_true,h1,h2,and_self,Zbj]
theorem Ds{s:BL}{i:Nat}(hi:i<s.length)(h:(s.getD i 0).toNat=37)(h1:s.length<=i+2\/dH (s.getD (i+1) 0)<0\/dH (s.getD (i+2) 0)<0):dW (s.drop i)=none:=by
 rw[drop_cons hi 0];by_cases h2:i+2<s.length;rw[drop_cons (by omega:i+1<s.length) 0,drop_cons (by omega:i+1+1<s.length) 0];simp only[dW,h,if_true];rw[if_neg];rintro⟨k1,k2⟩;have e:i+1+1=i+2:=rfl;rw[e]at k2;omega;by_cases h3:i+1<s.length;rw[drop_cons h3 0,Za8 Zac];simp only[dW,h,true_or,if_true];rw[Za8 Zac];simp only[dW,h,if_true]
theorem jH(b:UInt8):dH b<16:=by unfold dH;repeat (split <;> try omega)
theorem lA(b:UInt8): -1<=dH b:=by unfold dH;repeat (split <;> try omega)
theorem yw{a b:UInt8}(h1:0<=dH a)(h2:0<=dH b):((eK a b).toNat:Int)=dH a*16+dH b:=by
 have:=jH a;have:=jH b;unfold eK;rw[UInt8.toNat_ofNat'];omega
theorem vL{α:Type}{l:List α}{k:Nat}(h:k<l.length)(d:α):(l.take (k+1)).drop k=[l.getD k d]:=by
 rw[aZ h d,List.drop_append_of_le_length Zal,Za8 Zal];rfl
theorem il(b:UInt8):(hZ b).length<=3:=by unfold hZ iB;split <;> simp
theorem zu:∀ (s:BL) {x:BL},dW s=some x->x.length<=3*s.length
 | [],x,h=>by simp[dW]at h;subst h;simp
 | [c],x,h=>by
   simp only[dW]at h;split at h;simp at h;simp only[Zan]at h;subst h;have:=il c;simpa using this
 | [c,d],x,h=>by
   simp only[dW]at h;split at h;simp at h;simp only[Zan]at h;subst h;have:=il c;have:=il d;simp;omega
 | c::a::b::r,x,h=>by
   simp only[dW]at h;split at h;split at h;simp only[Option.map_eq_some_iff]at h;obtain⟨y,hy,rfl⟩:=h;have:=zu r hy;have:=il (eK a b);simp;omega;simp at h;simp only[Option.map_eq_some_iff]at h;obtain⟨y,hy,rfl⟩:=h;have:=zu (a::b::r) hy;have:=il c;simp at *;omega
theorem tV(s:BL):(dp s).1.length<=180:=by
 unfold dp;split;split;rename_i x h;have:=zu s h;simp only;omega;simp;simp
def ao(c:UInt8):BL->List BL
 | []=>[[]]
 | x::r=>if x=c then []::ao c r else (x::(ao c r).headD [])::(ao c r).tail
theorem uS(c:UInt8):∀ r,ao c r=(aj c r).1::(if (aj c r).2.2=true then ao c (aj c r).2.1 else [])
 | []=>rfl
 | x::r=>by
   have ih:=uS c r;by_cases h:x=c;simp only[ao,aj,if_pos h,if_true];simp only[ao,aj,if_neg h];rw[ih];rfl
theorem DI(c:UInt8):∀ r,(aj c r).2.2=true->(aj c r).2.1.length<r.length
 | [],h=>by simp[aj]at h
 | x::r,h=>by
   simp only[aj]at h ⊢;by_cases e:x=c;rw[if_pos e];simp;rw[if_neg e]at h ⊢;have:=DI c r h;simp only[Zar];omega
theorem oU(c:UInt8):∀ r,(aj c r).1.length+(aj c r).2.1.length<=r.length
 | []=>by simp[aj]
 | x::r=>by
   simp only[aj];by_cases e:x=c;rw[if_pos e];simp;rw[if_neg e];have:=oU c r;simp only[Zar];omega
def eC(o:List BL)(p:BL):List BL:=if p=[]\/p=[46] then o else if p=[46,46] then o.dropLast else o++[p]
def dq(ps:List BL):List BL:=ps.foldl eC []
theorem kS{ps:List BL}{i:Nat}(h:i<ps.length):dq (ps.take (i+1))=eC (dq (ps.take i)) (ps.getD i []):=by
 unfold dq;rw[aZ h [],List.foldl_append];rfl
structure B9 where
 l5:BL
 j8:List BL
 asks:Bool
 ask:BL
def dR:List BL->BL
 | []=>[]
 | [p]=>p
 | p::q::r=>p++[47]++dR (q::r)
theorem qw(p:BL):∀ (ps:List BL),dR (ps++[p])=if ps=[] then p else dR ps++[47]++p
 | []=>rfl
 | [q]=>by simp[dR]
 | q::r::t=>by
   have:=qw p (r::t);simp only[List.cons_append,dR]at this ⊢;rw[this,if_neg Zad,if_neg Zad];simp[List.append_assoc]
def cO(a:B9):BL:=[47]++dR a.j8++(if a.asks=true then [63]++a.ask else [])
def ew(a:B9):BL:=[47,47]++a.l5++cO a
def iY(p:BL):Bool:=iA p&&!(p==[])&&!(p==[46])&&!(p==[46,46])
def bu(a:B9):Bool:=dg a.l5&&decide (a.j8.length<=5)&&iA a.ask&&(a.asks||a.ask==[])&&a.j8.all iY&&decide ((ew a).length<=60)
def eg(a:B9):Prop:=a.l5.length<=1048576/\a.ask.length<=1048576/\a.j8.length<=1048576/\∀ i,(a.j8.getD i []).length<=1048576
theorem wY{ps:List BL}(h:∀ i,(ps.getD i []).length<=1048576):∀ i,i<=ps.length->(dR (ps.take i)).length<=i*1048577
 | 0,_=>by simp[dR]
 | i+1,hi=>by
   have:=wY h i Zac;have h2:=h i;rw[aZ (by omega:i<ps.length) [],qw];split;omega;simp only[Zap,Zar,Zau];omega
theorem Cn{a:B9}(h:eg a):(cO a).length<=2199023255552:=by
 obtain⟨h1,h2,h3,h4⟩:=h;have:=wY h4 a.j8.length (Zbc _);rw[List.take_length]at this;unfold cO;split <;> simp <;> omega
theorem rZ{s:BL}(h:iA s=true):s.length<=60:=by
 unfold iA dp at h;split at h;assumption;simp at h
def fE(b:UInt8):UInt8:=if 65<=b.toNat/\b.toNat<=90 then b+32 else b
def cZ(s:BL):BL:=s.map fE
theorem Ce{x:UInt8}(h:65<=x.toNat/\x.toNat<=90):(fE x).toNat=x.toNat+32:=by
 unfold fE;rw[if_pos h,UInt8.toNat_add];have:(32:UInt8).toNat=32:=rfl;omega
theorem wm{s l:BL}{i:Nat}(hi:i<s.length)(h:l=cZ (s.take i)++s.drop i):l.getD i 0=s.getD i 0:=by
 have hl:(cZ (s.take i)).length=i:=by simp[cZ];omega
 rw[h,Zam,Za4 Zac,hl,Nat.sub_self,drop_cons hi 0];rfl
theorem Ax{s l:BL}{i:Nat}(hi:i<s.length)(h:l=cZ (s.take i)++s.drop i):l.set i (fE (s.getD i 0))=cZ (s.take (i+1))++s.drop (i+1):=by
 have hl:(cZ (s.take i)).length=i:=by simp[cZ];omega
 rw[h,List.set_append_right _ _ Zac,hl,Nat.sub_self,drop_cons hi 0,aZ hi 0];simp[cZ]
theorem BW{s l:BL}{i:Nat}(hi:i<s.length)(h:l=cZ (s.take i)++s.drop i):l.set i (fE (l.getD i 0))=cZ (s.take (i+1))++s.drop (i+1):=by
 rw[wm hi h];exact Ax hi h
theorem Aq{s l:BL}{i:Nat}(hi:i<s.length)(h:l=cZ (s.take i)++s.drop i)(hn: ¬ (65<=(l.getD i 0).toNat/\(l.getD i 0).toNat<=90)):l=cZ (s.take (i+1))++s.drop (i+1):=by
 rw[<- Ax hi h];rw[wm hi h]at hn;rw[show fE (s.getD i 0)=s.getD i 0 from if_neg hn,<- wm hi h];have hlt:i<l.length:=by rw[h];simp[cZ];omega
 apply List.ext_getElem?;intro j;by_cases e:i=j;subst e;simp[hlt];rw[List.getElem?_set_ne e]
def oA(o:Option B9):B9:=o.getD ⟨[],[],false,[]⟩
def ia(x:BL):BL:=(dp x).1
def iS(x:BL):Bool:=(dp x).2
def dE(h:BL)(fr:List BL)(A4:BL):Option B9:=
 if ((ao 47 (aj 63 A4).1).all iS&&iS (aj 63 A4).2.1)=true then
  (if bu ⟨h,dq (fr++(ao 47 (aj 63 A4).1).map ia),(aj 63 A4).2.2,ia (aj 63 A4).2.1⟩=true then some ⟨h,dq (fr++(ao 47 (aj 63 A4).1).map ia),(aj 63 A4).2.2,ia (aj 63 A4).2.1⟩ else none) else none
theorem sI(c:UInt8):∀ s:BL,(ao c s).length<=s.length+1
 | []=>by simp[ao]
 | x::r=>by
   have:=sI c r;simp only[ao];split;simp;omega;simp;omega
theorem It(l:List BL)(n:Nat)(h:∀ p∈l,p.length<=n):(l.headD []).length<=n:=by
 cases l with
 | nil=>simp
 | cons a l=>exact h a Zad
theorem BM(c:UInt8):∀ (s:BL),∀ p∈ao c s,p.length<=s.length
 | [],p,hp=>by simp[ao]at hp;subst hp;simp
 | x::r,p,hp=>by
   have ih:=BM c r;simp only[ao]at hp;split at hp;simp only[List.mem_cons]at hp;rcases hp with rfl | hp;simp;have:=ih p hp;simp;omega;simp only[List.mem_cons]at hp;rcases hp with rfl | hp;have:=It _ _ ih;simp at this ⊢;omega;have:=ih p (List.mem_of_mem_tail hp);simp;omega
theorem kU{ps:List BL}{n:Nat}(h:∀ p∈ps,p.length<=n)(i:Nat):(ps.getD i []).length<=n:=by
 rw[Zam];cases e:ps[i]? with
 | none=>simp
 | some p=>exact h p (Za7 e)
theorem kF(c:UInt8)(s:BL)(i:Nat):((ao c s).getD i []).length<=s.length:=kU (BM c s) i
theorem AA(ps:List BL):∀ (o:List BL),(∀ p∈ps.foldl eC o,p∈o\/p∈ps)/\(ps.foldl eC o).length<=o.length+ps.length:=by
 induction ps with
 | nil=>intro o;exact⟨fun p h=>.inl h,Zad⟩
 | cons q ps ih=>
   intro o;obtain⟨h1,h2⟩:=ih (eC o q);have hs:(∀ p∈eC o q,p∈o\/p=q)/\(eC o q).length<=o.length+1:=by
    unfold eC;split;exact⟨fun p h=>.inl h,Zac⟩;split;exact⟨fun p h=>.inl (List.dropLast_subset _ h),Zal⟩;exact⟨fun p h=>Zbq,Zad⟩
   refine⟨fun p hp=>?_,by simp only[List.foldl_cons,Zar];omega⟩;rcases h1 p hp with h | h;rcases hs.1 p h with h | h;exact .inl h;exact .inr (by simp[h]);exact .inr (by simp[h])
theorem Ca{ps:List BL}{p:BL}(h:p∈dq ps):p∈ps:=by
 rcases (AA ps []).1 p h with h | h;simp at h;exact h
theorem BB(ps:List BL):(dq ps).length<=ps.length:=by have:=(AA ps []).2;simp only[Zau,Zaw]at this;exact this
theorem Oc{a:B9}{ls:List BL}{k:Bool}{q:BL}(ha:eg a)(hp:a.j8.length<=1000)(hl:ls.length<=2000):eg ⟨a.l5,dq (a.j8++ls.map ia),k,ia q⟩:=by
 obtain⟨h1,h2,h3,h4⟩:=ha;refine⟨h1,?_,?_,fun i=>?_⟩;have:=tV q;simp only[ia];omega;have:=BB (a.j8++ls.map ia);simp only[Zap,Zay]at this ⊢;omega;refine kU (n:=1048576) (fun p Z5=>?_) i;rcases Zax.1 (Ca Z5) with h | h;obtain⟨j,hj,rfl⟩:=List.getElem_of_mem h;have:=h4 j
 rwa [Zam,Zat hj]at this
 obtain⟨y,_,rfl⟩:=List.mem_map.1 h;have:=tV y;simp only[ia];omega
def mS(c:UInt8):Bool:=decide (¬ (c.toNat=47\/c.toNat=63))
theorem DT{s:BL}{p:UInt8->Bool}:∀ {i:Nat},i<=s.length->(∀ j,j<i->p (s.getD j 0)=true)->(i=s.length\/p (s.getD i 0)=false)->s.takeWhile p=s.take i/\s.dropWhile p=s.drop i:=by
 induction s with
 | nil=>intro i hi _ _;simp
 | cons x s ih=>
   intro i hi h1 h2;cases i with
   | zero=>
     rcases h2 with h2 | h2;simp at h2;have:p x=false:=Zb4
     simp[List.takeWhile_cons,List.dropWhile_cons,this]
   | succ i=>
     have hx:p x=true:=by simpa using h1 0 Zac
     obtain⟨k1,k2⟩:=ih (i:=i) Zbn (fun j hj=>by have:=h1 (j+1) Zac;simpa using this) (by
      rcases h2 with h2 | h2;left;simpa using h2;right;simpa using h2)
     simp[List.takeWhile_cons,List.dropWhile_cons,hx,k1,k2]
def fj(rest:BL):Option B9:=dE (cZ (rest.takeWhile mS)) [] (rest.dropWhile mS)
def aT(raw:BL):Option B9:=
 if raw.length<=60/\2<=(aj 35 raw).1.length/\(aj 35 raw).1.take 2=[47,47] then fj ((aj 35 raw).1.drop 2) else none
def cF(a:B9):BL:=if bu a=true then ew a else []
def aq(s:BL):Bool:=(aT s).isSome&&(cF (oA (aT s))==s)
theorem NP{h:BL}{fr:List BL}{A4:BL}{a:B9}(e:dE h fr A4=some a):bu a=true:=by
 unfold dE at e;split at e;split at e;rename_i hk;simp only[Zan]at e;subst e;exact hk;simp at e;simp at e
theorem Mn{s:BL}{a:B9}(e:aT s=some a):bu a=true:=by
 unfold aT at e;split at e;exact NP e;simp at e
theorem OG{a:B9}(h:bu a=true):eg a:=by
 unfold bu dg w6 at h;simp only[Zao,Zbk,Za2]at h;obtain⟨⟨⟨⟨⟨⟨_,h1⟩,h2⟩,h3⟩,_⟩,h4⟩,_⟩:=h;have:=rZ h3;refine⟨Zac,Zac,Zac,fun i=>kU (n:=1048576) (fun p hp=>?_) i⟩;have:=h4 p hp;unfold iY at this;simp only[Zao]at this;have:=rZ this.1.1.1;omega
theorem qp(s:BL):eg (oA (aT s)):=by
 cases e:aT s with
 | none=>exact⟨by simp[oA],by simp[oA],by simp[oA],by simp[oA]⟩
 | some a=>exact OG (Mn e)
def ef(p:BL):Bool:=decide ((p.getD (p.length-1) 0).toNat=36)
def bc(p:BL):BL:=if ef p=true then p.take (p.length-1) else p
def lI(e:Bool)(s:BL):Nat->List BL->Bool
 | at_,[]=>!e||decide (at_=s.length)
 | at_,p::r=>if (e&&r.isEmpty)=true then decide (at_+p.length<=s.length)&&(s.drop (s.length-p.length)==p)
   else if dw s p at_<0 then false else lI e s ((dw s p at_).toNat+p.length) r
def pF(p s:BL):Bool:=
 ((ao 42 (bc p)).headD []).isPrefixOf s&&lI (ef p) s ((ao 42 (bc p)).headD []).length (ao 42 (bc p)).tail
theorem DL(s p:BL)(f:Nat):dw s p f<0\/(f:Int)<=dw s p f/\dw s p f+p.length<=s.length:=by
 rw[dw];split;split;right;constructor <;> omega;rcases DL s p (f+1) with h | ⟨h1,h2⟩;exact .inl h;exact .inr ⟨Zac,h2⟩;left;omega
 termination_by s.length+1-f
theorem HW(c:UInt8)(s:BL):1<=(ao c s).length:=by
 rw[uS];simp
theorem Gj{p:BL}(h:1<=p.length):((((p.getD (Int.toNat ((p.length:Int)-1)) 0).toNat:Int))==36)=ef p:=by
 have:Int.toNat ((p.length:Int)-1)=p.length-1:=Zac;rw[this];unfold ef;rw[Za6];simp only[Zbl,Zbk];omega
theorem Il{p:BL}(h:ef p=true):(p.take (Int.toNat ((p.length:Int)-1))).drop (Int.toNat 0)=bc p:=by
 have:Int.toNat ((p.length:Int)-1)=p.length-1:=Zac;rw[this];unfold bc;rw[if_pos h];rfl
theorem Jh{p:BL}(h:ef p=false):p=bc p:=by unfold bc;rw[if_neg (by rw[h];decide)]
theorem Nt{s x:BL}(h:s.take x.length=x):x.isPrefixOf s=true:=by
 rw[List.isPrefixOf_iff_prefix];rw[<- h];exact List.take_prefix _ _
theorem LI{s x:BL}(h: ¬ s.take x.length=x):x.isPrefixOf s=false:=by
 rw[Bool.eq_false_iff];intro h';rw[List.isPrefixOf_iff_prefix]at h';exact h (List.prefix_iff_eq_take.1 h').symm
theorem Ow{e:Bool}{s p:BL}{q:Nat}{r:List BL}(h: ¬ (e=true/\r=[]))(hf:0<=dw s p q):lI e s q (p::r)=lI e s ((dw s p q).toNat+p.length) r:=by
 simp only[lI];rw[if_neg Zbq,if_neg Zac]
theorem Oe{e:Bool}{s p:BL}{q:Nat}{r:List BL}(h: ¬ (e=true/\r=[]))(hf:dw s p q<0):lI e s q (p::r)=false:=by
 simp only[lI];rw[if_neg Zbq,if_pos hf]
theorem JC{s p:BL}{q:Nat}:lI true s q [p]=(decide (q+p.length<=s.length)&&(s.drop (s.length-p.length)==p)):=by
 simp only[lI,List.isEmpty_nil,Bool.and_self,if_true]
structure u0 where
 z8:Bool
 path:BL
def eN(p s:BL):Bool:=aS p&&decide (s.length<=60)&&pF p s
def eL(s:BL)(x:Int×Bool)(r:u0):Int×Bool:=
 if eN r.path s=false\/(r.path.length:Int)<x.1 then x else (r.path.length,r.z8||(decide ((r.path.length:Int)=x.1)&&x.2))
def bA(rs:List u0)(s:BL):Bool:=(rs.foldl (eL s) (-1,true)).2
theorem qD{p:BL}(h:aS p=true):1<=p.length/\p.length<=16:=by
 unfold aS at h;simp only[Zbk]at h;exact⟨h.1,h.2.1⟩
theorem foldl_succ{α β:Type}{f:β->α->β}{b:β}{l:List α}{i:Nat}{d:α}(h:i<l.length):(l.take (i+1)).foldl f b=f ((l.take i).foldl f b) (l.getD i d):=by
 rw[aZ h d,List.foldl_append];rfl
abbrev aE(r:u0):V:=.agg [bV r.z8,sV r.path]
def kh(m n:Int)(c:UInt8):Int:=min (n*10+(c.toNat-48)) m
def fU(s:BL)(m:Int):Int:=if s.all (fun c=>decide (48<=c.toNat/\c.toNat<=57))=true then s.foldl (kh m) 0 else 0
structure m8 where
 na:List BL
 ru:List u0
 wa:Nat
abbrev dk(g:m8):V:=.agg [.sl false (g.na.map sV),.sl false (g.ru.map aE),iV g.wa]
def nV:List BL:=[[47],[47,97],[47,98],[47,97,47],[47,42,98],[47,97,36],[47,99],[47,42,63],[47,97,47,98],[47,42,47,98,36],[47,36],[47,98,42,99],[47,110,111,116,105,99,101],[47,42]]
def bQ:List BL:=[[97,98],[99,100],[101],[102,111,120]]
def w7(s:BL):Prop:= ∀ c,c∈s->c.toNat<128
def JK(s:BL):Bool:=s.all fun c=>decide (c.toNat<128)
theorem dc{s:BL}(h:JK s=true):w7 s:=fun c hc=>by
 have:=Za2.1 h c hc;simpa using this
theorem cD:w7 []:=fun c hc=>by simp at hc
theorem w7.app{a b:BL}(h1:w7 a)(h2:w7 b):w7 (a++b):=fun c hc=>(Zax.1 hc).elim (h1 c) (h2 c)
theorem fI{l:List BL}{x:BL}(h:l.all JK=true)(hx:x∈l):w7 x:=dc (Za2.1 h x hx)
theorem gJ{l:List BL}(h:l.all JK=true)(i:Nat):w7 (l.getD i []):=by
 rw[Zam];cases e:l[i]? with
 | none=>exact cD
 | some x=>exact fI h (Za7 e)
structure O2 (g:m8):Prop where
 nl:g.na.length<=2
 nb:∀ x,x∈g.na->x.length<=5
 rl:g.ru.length<=4
 rb:∀ r,r∈g.ru->r.path∈nV
 w:g.wa<=6
 ac:∀ x,x∈g.na->w7 x
theorem cK{l:List BL}{n:Nat}(h:l.all (fun x=>Nat.ble x.length n)=true){x:BL}(hx:x∈l):x.length<=n:=Nat.le_of_ble_eq_true (Za2.1 h x hx)
theorem mF{α:Type}{P:α->Prop}{l:List α}{x:α}(h:∀ y,y∈l->P y)(hx:P x):∀ y,y∈l++[x]->P y:=fun y hy=>by
 rcases Zax.1 hy with q | q;exact h y q;rw[Zav.1 q];exact hx
abbrev zqR:u0:=⟨false,[]⟩
abbrev zqG:m8:=⟨[],[],0⟩
structure Pg where
 addr:BL
 text:BL
 lead:BL
 x3:Int
def s6:Pg:=⟨[],[],[],0⟩
def J8:List Pg->BL->Pg×Bool
 | [],_=>(s6,false)
 | p::r,a=>if p.addr=a then (p,true) else J8 r a
theorem Hk{l:List BL}(h:l.length<=2)(hx:∀ x,x∈l->x.length<=6):(dR l).length<=13:=by
 match l,h with
 | [],_=>simp[dR]
 | [x],_=>have:=hx x Zad;simp[dR];omega
 | [x,y],_=>have:=hx x Zad;have:=hx y Zad;simp[dR];omega
theorem eJ{l:List BL}{n:Nat}(h:l.all (fun x=>Nat.ble x.length n)=true)(i:Nat):(l.getD i []).length<=n:=by
 rw[Zam];cases e:l[i]? with
 | none=>simp
 | some x=>exact cK h (Za7 e)
theorem sH{a:B9}(h1:a.l5.length<=3)(h2:a.j8.length<=2)(h3:∀ x,x∈a.j8->x.length<=6)(h4:a.ask.length<=5):eg a/\(cF a).length<=25:=by
 refine⟨⟨Zac,Zac,Zac,fun i=>?_⟩,?_⟩;rw[Zam];cases e:a.j8[i]? with
 | none=>simp
 | some x=>have:=h3 x (Za7 e);simp;omega
 have:=Hk h2 h3;unfold cF ew cO;split;split <;> simp <;> omega;simp
def ib(n:Nat):BL:=if n<10 then [UInt8.ofNat (48+n)] else ib (n / 10)++[UInt8.ofNat (48+n % 10)]
 termination_by n
theorem DY(n:Nat)(h:n<=1000000):(ib n).length<=7:=by
 have:∀ k n,n<10 ^ (k+1)->(ib n).length<=k+1:=by
  intro k;induction k with
  | zero=>intro n hn;rw[ib,if_pos Zac];simp
  | succ k ih=>
    intro n hn;rw[ib];split;simp;have:=ih (n / 10) (by rw[Nat.pow_succ]at hn;omega);simp;omega
 exact this 6 n Zac
abbrev D4(p:Pg):V:=.agg [sV p.addr,sV p.text,sV p.lead,iV p.x3]
theorem xI{gs:List m8}(hg:∀ y,y∈gs->O2 y)(i:Nat):O2 (gs.getD i ⟨[],[],0⟩):=by
 rw[Zam];cases e:gs[i]? with
 | none=>exact⟨Zad,Zad,Zad,Zad,Zad,Zad⟩
 | some x=>exact hg x (Za7 e)
theorem jV{gs:List m8}(hg:∀ y,y∈gs->O2 y)(i k:Nat):((gs.getD i ⟨[],[],0⟩).na.getD k []).length<=5:=by
 rw[Zam (l:=m8.na _)];cases e:(gs.getD i ⟨[],[],0⟩).na[k]? with
 | none=>simp
 | some x=>exact(xI hg i).nb x (Za7 e)
theorem wW{gs:List m8}(hg:∀ y,y∈gs->O2 y)(i k:Nat):w7 ((gs.getD i ⟨[],[],0⟩).na.getD k []):=by
 rw[Zam (l:=m8.na _)];cases e:(gs.getD i ⟨[],[],0⟩).na[k]? with
 | none=>exact cD
 | some x=>exact(xI hg i).ac x (Za7 e)
theorem wc{gs:List m8}(hg:∀ y,y∈gs->O2 y)(i k:Nat):w7 ((gs.getD i ⟨[],[],0⟩).ru.getD k ⟨false,[]⟩).path:=by
 rw[Zam (l:=m8.ru _)];cases e:(gs.getD i ⟨[],[],0⟩).ru[k]? with
 | none=>exact cD
 | some x=>exact fI rfl ((xI hg i).rb x (Za7 e))
theorem jO{gs:List m8}(hg:∀ y,y∈gs->O2 y)(i k:Nat):((gs.getD i ⟨[],[],0⟩).ru.getD k ⟨false,[]⟩).path.length<=7:=by
 rw[Zam (l:=m8.ru _)];cases e:(gs.getD i ⟨[],[],0⟩).ru[k]? with
 | none=>simp
 | some x=>exact cK rfl ((xI hg i).rb x (Za7 e))
theorem wA:∀ {l:List BL},(∀ x,x∈l->w7 x)->w7 (dR l)
 | [],_=>cD
 | [p],h=>h p Zad
 | p::q::r,h=>((h p Zad).app (dc rfl)).app (wA fun x hx=>h x (by simp[hx]))
theorem FA{a:B9}(h1:w7 a.l5)(h2:∀ x,x∈a.j8->w7 x)(h3:w7 a.ask):w7 (cF a):=by
 unfold cF ew cO;split;refine((dc rfl).app h1).app (((dc rfl).app (wA h2)).app ?_);split;exact(dc rfl).app h3;exact cD;exact cD
theorem rP(n:Nat):w7 (ib n):=by
 induction n using Nat.strongRecOn with
 | ind n ih=>
   rw[ib];split;intro c hc;rw[Zav.1 hc,UInt8.toNat_ofNat'];omega;refine(ih (n / 10) Zac).app ?_;intro c hc;rw[Zav.1 hc,UInt8.toNat_ofNat'];omega
structure n6 (y:Pg):Prop where
 a:y.addr.length<=30
 t:y.text.length<=300
 l:y.lead.length<=30
 f:0<=y.x3/\y.x3<=10
 aa:w7 y.addr
 la:w7 y.lead
 ta:w7 y.text
theorem LC{w:List Pg}{a:BL}(h:(J8 w a).2=true):1<=w.length:=by
 cases w with
 | nil=>simp[J8]at h
 | cons p r=>simp
theorem vf{l:List Int}(h:l.all (fun x=>decide (0<=x/\x<=10))=true)(i:Nat):0<=l.getD i 0/\l.getD i 0<=10:=by
 rw[Zam];cases e:l[i]? with
 | none=>simp
 | some x=>simpa using Za2.1 h x (Za7 e)
theorem fG{w:List Pg}(h:∀ y,y∈w->n6 y)(i:Nat):n6 (w.getD i s6):=by
 rw[Zam];cases e:w[i]? with
 | none=>exact⟨by simp[s6],by simp[s6],by simp[s6],by simp[s6],cD,cD,cD⟩
 | some x=>exact h x (Za7 e)
theorem aO{xs:List V}{j sz g0 o0 g o c:Nat}{v:V}{p:List Nat}{r:Nat×Nat×V}(h:xs[j]? =some v)(e:V.at g (o+j*sz) v p=some r):V.at g0 o0 (.own sz xs g o c) (j::p)=some r:=by simp only[V.at,h];exact e
theorem bZ{xs ys:List V}{j sz g o c:Nat}{x v:V}{p:List Nat}(h:xs[j]? =some x)(e:xs.set j (V.set x p v)=ys):V.set (.own sz xs g o c) (j::p) v=.own sz ys g o c:=by simp only[V.set,h,e]
def ic(y:Pg):Bool:=aq y.addr&&decide (y.text.length<=300)&&w6 y.x3 0 9&&(y.lead==[]||(y.text==[]&&aq y.lead))
def au(w:List Pg):Bool:=decide (∀ i,i<w.length->ic (w.getD i s6)=true/\∀ k,k<i->(w.getD k s6).addr≠(w.getD i s6).addr)&&decide (w.length<=12)
def aw(h:BL):BL:=[47,47]++h++[47,110,111,116,105,99,101]
def af(w:List Pg)(a:BL)(n:Int):Int×BL:=
 if (J8 w a).2=false then (0,[]) else if n<(J8 w a).1.x3 then (3,[]) else if (J8 w a).1.lead=[] then (1,(J8 w a).1.text) else (2,(J8 w a).1.lead)
theorem Ng{y:Pg}(h:((aq y.addr=true/\(y.text.length:Int)<=300)/\w6 y.x3 0 9=true)/\(¬ y.lead=[]->y.text=[]/\aq y.lead=true)):ic y=true:=by
 unfold ic;obtain⟨⟨⟨h1,h2⟩,h3⟩,h4⟩:=h;rw[h1,h3,decide_eq_true Zac];by_cases hl:y.lead=[];simp[hl];obtain⟨h5,h6⟩:=h4 hl;simp[h5,h6]
theorem MT{y:Pg}(h:((aq y.addr=false\/300<(y.text.length:Int))\/w6 y.x3 0 9=false)\/¬ y.lead=[]/\(¬ y.text=[]\/aq y.lead=false)):ic y=false:=by
 unfold ic;rcases h with ((h | h) | h) | ⟨h,h' | h'⟩;simp[h];rw[decide_eq_false Zac];simp;simp[h];simp[h,h'];simp[h,h']
theorem Cc{w:List Pg}{i:Nat}(hi:i<w.length)(h: ¬ (ic (w.getD i s6)=true/\∀ k,k<i->(w.getD k s6).addr≠(w.getD i s6).addr)):au w=false:=by
 unfold au;rw[decide_eq_false (fun c=>h (c i hi))];rfl
theorem GW{w:List Pg}(h:∀ i,i<w.length->ic (w.getD i s6)=true/\∀ k,k<i->(w.getD k s6).addr≠(w.getD i s6).addr):au w=decide (w.length<=12):=by
 unfold au;rw[decide_eq_true h];rfl
def dX(gs:List m8)(f:m8->m8):List m8:=match gs.getLast? with
 | none=>gs
 | some z=>gs.dropLast++[f z]
def lp(gs:List m8):Nat:=match gs.getLast? with
 | none=>0
 | some z=>z.ru.length
def dI(gs:List m8)(w r:BL)(b:Bool):List m8×Bool:=
 if w=[99,97,108,108,101,114]/\(r=[42]\/cN r=true) then
  if b=true\/gs=[] then (gs++[⟨[r],[],0⟩],false) else (dX gs fun z=>⟨z.na++[r],z.ru,z.wa⟩,false)
 else if gs=[] then (gs,b)
 else if (w=[108,101,116]\/w=[98,97,114])/\aS r=true/\lp gs<6 then (dX gs fun z=>⟨z.na,z.ru++[⟨w==[108,101,116],r⟩],z.wa⟩,true)
 else if w=[119,97,105,116] then (dX gs fun z=>⟨z.na,z.ru,(fU r 20).toNat⟩,true)
 else (gs,b)
theorem ej(l:List m8)(z:m8)(f:m8->m8):dX (l++[z]) f=l++[f z]:=by simp[dX]
theorem kN(l:List m8)(z:m8):lp (l++[z])=z.ru.length:=by simp[lp]
theorem kc{α:Type}{l:List α}(h:l≠[]):∃ x:List α×α,l=x.1++[x.2]:=⟨(l.dropLast,l.getLast h),(List.dropLast_concat_getLast h).symm⟩
theorem Ey{m:Int}(hm:0<=m){n:Int}(hn:0<=n){c:UInt8}(hc:48<=c.toNat):0<=kh m n c:=by
 unfold kh;omega
theorem Fk{s:BL}{m:Int}(hm:0<=m):0<=fU s m:=by
 unfold fU;split;rename_i h;rw[Za2]at h;have:∀ (l:BL) (n:Int),0<=n->(∀ c,c∈l->48<=c.toNat)->0<=l.foldl (kh m) n:=by
  intro l;induction l with
  | nil=>intro n hn _;exact hn
  | cons c l ih=>intro n hn hl;exact ih _ (Ey hm hn (hl c Zad)) fun d hd=>hl d (by simp[hd])
 exact this s 0 Zac fun c hc=>by have:=h c hc;simp at this;exact this.1
 exact Int.le_refl 0
abbrev ba(g:m8):V:=.agg [.ow 1 (g.na.map sV),.ow 2 (g.ru.map aE),iV g.wa]
theorem aP{α:Type}{f:α->V}{l:List α}{v:V}:(l.map f++[v])[l.length]? =some v:=Zad
theorem cy{α:Type}{f:α->V}{l:List α}{v u:V}:(l.map f++[v]).set l.length u=l.map f++[u]:=Zad
theorem Lz(g:m8):(ba g).er=dk g:=by
 simp only[ba,V.er,V.G4,aU (f:=sV) (fun _=>rfl),aU (f:=aE) (fun _=>rfl)]
theorem yl:∀ (l:List m8),V.G4 (l.map ba)=l.map dk
 | []=>rfl
 | g::l=>by simp only[Zbe,V.G4,yl l];rw[Lz]
def di(x:List m8×Bool)(l:BL):List m8×Bool:=dI x.1 (aj 32 l).1 (aj 32 l).2.1 x.2
def ct(t:BL):List m8:=(((ao 10 t).take 40).foldl di ([],false)).1
structure Qv (n:Nat) (gs:List m8):Prop where
 len:gs.length<=n
 each:∀ y,y∈gs->y.na.length<=n/\y.ru.length<=6
theorem Qv.mono{n m:Nat}{gs:List m8}(h:Qv n gs)(hm:n<=m):Qv m gs:=⟨Nat.le_trans h.len hm,fun y hy=>⟨Nat.le_trans (h.each y hy).1 hm,(h.each y hy).2⟩⟩
theorem Qv.set{n:Nat}{gs:List m8}{f:m8->m8}(h:Qv n gs)(hf:∀ z,gs.getLast? =some z->(f z).na.length<=n+1/\(f z).ru.length<=6):Qv (n+1) (dX gs f):=by
 unfold dX;split;exact h.mono Zac;rename_i z hz;refine⟨?_,fun y hy=>?_⟩;have:=h.len;have hne:gs≠[]:=by rintro rfl;simp at hz
 have:=List.length_pos_iff.2 hne;simp;omega;rcases Zax.1 hy with hy | hy;have:=h.each y (List.dropLast_subset _ hy);exact⟨Zac,this.2⟩;rw[Zav.1 hy];exact hf z hz
theorem EX{n:Nat}{gs:List m8}{w d:BL}{b:Bool}(h:Qv n gs):Qv (n+1) (dI gs w d b).1:=by
 have hl:∀ z,gs.getLast? =some z->z.na.length<=n/\z.ru.length<=6:=fun z hz=>h.each z (List.mem_of_getLast? hz);unfold dI;split;split;refine⟨by have:=h.len;simp;omega,fun y hy=>?_⟩;rcases Zax.1 hy with hy | hy;have:=h.each y hy;exact⟨Zac,this.2⟩;rw[Zav.1 hy];simp;exact h.set fun z hz=>⟨by have:=hl z hz;simp;omega,(hl z hz).2⟩;split;exact h.mono Zac;split;rename_i hc;refine h.set fun z hz=>⟨Zb5,?_⟩;have:=hc.2.2;unfold lp at this;rw[hz]at this;simp only at this;simp only[Zap,Zar,Zau];omega;split;exact h.set fun z hz=>⟨Zb5,(hl z hz).2⟩;exact h.mono Zac
theorem yX(c:UInt8):∀ (s:BL),(aj c s).1.length<=s.length/\(aj c s).2.1.length<=s.length
 | []=>by simp[aj]
 | x::s=>by
   have:=yX c s;unfold aj;split <;> simp <;> omega
theorem Ef{α:Type}{l:List α}{i:Nat}(h1:i<=l.length)(h2:i<=40)(h:(i:Int)<l.length->(40:Int)<=i):l.take 40=l.take i:=by
 rcases Nat.lt_or_ge i l.length with hl | hl;have:=h Zac;rw[show i=40 from Zac];rw[Zaz Zac,Zaz Zac]
def de(n:BL)(x:(List u0×Nat)×Bool)(g:m8):(List u0×Nat)×Bool:=if g.na.any (fun y=>y==n)=true then ((x.1.1++g.ru,max x.1.2 g.wa),true) else x
def Rf(gs:List m8)(n:BL):m8×Bool:=(⟨[n],(gs.foldl (de n) (([],0),false)).1.1,(gs.foldl (de n) (([],0),false)).1.2⟩,(gs.foldl (de n) (([],0),false)).2)
theorem any_succ{α:Type}{f:α->Bool}{l:List α}{i:Nat}{d:α}(h:i<l.length):(l.take (i+1)).any f=((l.take i).any f||f (l.getD i d)):=by
 rw[aZ h d,List.any_append];simp
def eP(gs:List m8)(n:BL):m8:=if (Rf gs n).2=true then (Rf gs n).1 else (Rf gs [42]).1
theorem BZ:∀ (l:List BL) {k:Nat} {x:List m8×Bool},Qv k x.1->Qv (k+l.length) (l.foldl di x).1
 | [],k,x,h=>h
 | a::l,k,x,h=>by
   have:=BZ l (k:=k+1) (x:=di x a) (EX h);exact this.mono Zal
theorem ml(t:BL):Qv 40 (ct t):=by
 have:=BZ ((ao 10 t).take 40) (k:=0) (x:=([],false)) ⟨Zad,Zad⟩;exact this.mono Zal
theorem Qv.ru{n:Nat}{gs:List m8}(h:Qv n gs)(i:Nat):(gs.getD i ⟨[],[],0⟩).ru.length<=100/\(gs.getD i ⟨[],[],0⟩).na.length<=n:=by
 rw[Zam];cases e:gs[i]? with
 | none=>simp
 | some x=>have:=h.each x (Za7 e);exact⟨by simp only[Option.getD_some];omega,this.1⟩
def bR(k:Int)(t n:BL):m8:=if k=1 then eP (ct t) n else if k=3 then ⟨[n],[⟨false,[47]⟩],0⟩ else eP [] n
theorem xE:∀ (w:List Pg) (a:BL),(J8 w a).2=true->∃ i,(J8 w a).1=w.getD i s6
 | [],a,h=>by simp[J8]at h
 | p::r,a,h=>by
   unfold J8 at h ⊢;split;exact⟨0,rfl⟩;rename_i hp;rw[if_neg hp]at h;obtain⟨i,hi⟩:=xE r a h;exact⟨i+1,by rw[hi];simp⟩
theorem pA{w:List Pg}{a:BL}{k:Int}{m:Nat}(h:∀ i,(w.getD i s6).text.length<=m/\(w.getD i s6).lead.length<=m):(af w a k).2.length<=m:=by
 unfold af;split;simp;rename_i h1;have h1:(J8 w a).2=true:=Zbz
 obtain⟨i,hi⟩:=xE w a h1;have:=h i;rw[hi];split;simp;split <;> simp only <;> omega
def sK(gs:List m8):Prop:= ∀ y,y∈gs->∀ r,r∈y.ru->r.path.length<=16
theorem sK.set{gs:List m8}{f:m8->m8}(h:sK gs)(hf:∀ z,gs.getLast? =some z->∀ r,r∈(f z).ru->r.path.length<=16):sK (dX gs f):=by
 unfold dX;split;exact h;rename_i z hz;intro y hy;rcases Zax.1 hy with hy | hy;exact h y (List.dropLast_subset _ hy);rw[Zav.1 hy];exact hf z hz
theorem Mt{gs:List m8}{w d:BL}{b:Bool}(h:sK gs):sK (dI gs w d b).1:=by
 have hl:∀ z,gs.getLast? =some z->∀ r,r∈z.ru->r.path.length<=16:=fun z hz=>h z (List.mem_of_getLast? hz);unfold dI;split;split;intro y hy;rcases Zax.1 hy with hy | hy;exact h y hy;rw[Zav.1 hy];simp;exact h.set fun z hz=>hl z hz;split;exact h;split;rename_i hc;refine h.set fun z hz r hr=>?_;rcases Zax.1 hr with hr | hr;exact hl z hz r hr;rw[Zav.1 hr];exact(qD hc.2.1).2;split;exact h.set fun z hz=>hl z hz;exact h
theorem Ia(t:BL):sK (ct t):=by
 have:∀ (l:List BL) (x:List m8×Bool),sK x.1->sK (l.foldl di x).1:=by
  intro l;induction l with
  | nil=>exact fun x h=>h
  | cons a l ih=>exact fun x h=>ih _ (Mt h)
 exact this _ _ (by intro y hy;simp at hy)
structure Y8 (m:Nat) (x:(List u0×Nat)×Bool):Prop where
 l:x.1.1.length<=6*m
 r:∀ r,r∈x.1.1->r.path.length<=16
theorem KW(n:BL):∀ (gs:List m8) {m k:Nat} {x:(List u0×Nat)×Bool},Y8 m x->Qv k gs->sK gs->Y8 (m+gs.length) (gs.foldl (de n) x)
 | [],m,k,x,h,_,_=>h
 | g::gs,m,k,x,h,h1,h2=>by
   have hs:Y8 (m+1) (de n x g):=by
    unfold de;split;refine⟨?_,fun r hr=>?_⟩;have:=h.l;have:=(h1.each g Zad).2;simp only[Zap];omega;rcases Zax.1 hr with hr | hr;exact h.r r hr;exact h2 g Zad r hr;exact⟨by have:=h.l;omega,h.r⟩
   have:=KW n gs (k:=k) hs ⟨by have:=h1.len;simp at this;omega,fun y hy=>h1.each y (by simp[hy])⟩ (fun y hy=>h2 y (by simp[hy]));rw[List.foldl_cons,Zar,show m+(gs.length+1)=m+1+gs.length from Zac];exact this
theorem FK{gs:List m8}(n:BL)(h1:Qv 40 gs)(h2:sK gs):(eP gs n).ru.length<=240/\∀ r,r∈(eP gs n).ru->r.path.length<=16:=by
 have key:∀ q,(Rf gs q).1.ru.length<=240/\∀ r,r∈(Rf gs q).1.ru->r.path.length<=16:=fun q=>by
  have:=KW q gs (m:=0) (x:=(([],0),false)) ⟨Zad,Zad⟩ h1 h2;exact⟨by have h3:=this.l;have:=h1.len;unfold Rf;simp only;omega,this.r⟩
 unfold eP;split;exact key n;exact key [42]
theorem ke(k:Int)(t n:BL):(bR k t n).ru.length<=240/\∀ r,r∈(bR k t n).ru->r.path.length<=16:=by
 unfold bR;split;exact FK n (ml t) (Ia t);split;exact⟨Zad,Zad⟩;exact FK n ⟨Zad,Zad⟩ (fun y hy=>Zb6)
def iE(s p:BL):Bool:=decide (p.length<=s.length)&&(s.take p.length==p)
def kC(s p:BL):Bool:=decide (p.length<=s.length)&&(s.drop (s.length-p.length)==p)
def dU(s p:BL):BL:=if kC s p=true then s.take (s.length-p.length) else s
theorem AE{s p:BL}(h:kC s p=true):p.length<=s.length:=by unfold kC at h;simp at h;exact h.1
theorem NY{s p:BL}(h:iE s p=true):p.length<=s.length:=by unfold iE at h;simp at h;exact h.1
def fo(p:BL):Bool:=decide (1<=p.length/\p.length<=16/\(p.getD 0 0).toNat=47)&&(dU p [36]).all nA
end Go.Proofs.YtngholilfbdfkaaGreatDoor
namespace Go.Proofs
open Go.Shelf
def Tryz.yg:Go.Shelf.Ren:=⟨fun | 156=>181 | 165=>205 | 166=>206 | 169=>207 | 240=>220 | 241=>221 | 276=>226 | 277=>227 | n=>n,fun | 31=>25 | 9=>9 | 3=>3 | 4=>4 | 0=>0 | 20=>20 | 72=>234 | 76=>235 | 70=>232 | 37=>22 | 75=>99 | 127=>251 | 164=>259 | 5=>5 | 80=>237 | n=>n,fun | n=>n⟩
theorem Tryz.Fm:Go.Proofs.Lays.n156 Tryz.prog Tryz.yg:={
 mixed:=Zae
 f156:=Tryz.func181.trans (Zbm some Zae)
 f165:=Tryz.func205.trans (Zbm some Zae)
 f166:=Tryz.func206.trans (Zbm some Zae)
 f169:=Tryz.func207.trans (Zbm some Zae)
 f240:=Tryz.func220.trans (Zbm some Zae)
 f241:=Tryz.func221.trans (Zbm some Zae)
 f276:=Tryz.func226.trans (Zbm some Zae)
 f277:=Tryz.func227.trans (Zbm some Zae)
 t0:=Tryz.underlying0
 a0:=Tryz.isAgg0
 z0:=Tryz.sizeOf0
 v0:=Tryz.zeroValue0
 t3:=Tryz.underlying3
 a3:=Tryz.isAgg3
 z3:=Tryz.sizeOf3
 v3:=Tryz.zeroValue3
 t4:=Tryz.underlying4
 a4:=Tryz.isAgg4
 z4:=Tryz.sizeOf4
 v4:=Tryz.zeroValue4
 t9:=Tryz.underlying9
 a9:=Tryz.isAgg9
 z9:=Tryz.sizeOf9
 v9:=Tryz.zeroValue9
 t20:=Tryz.underlying20
 a20:=Tryz.isAgg20
 z20:=Tryz.sizeOf20
 v20:=Tryz.zeroValue20
 t31:=Tryz.underlying25
 a31:=Tryz.isAgg25
 z31:=Tryz.sizeOf25
 v31:=Tryz.zeroValue25
 t37:=Tryz.underlying22
 a37:=Tryz.isAgg22
 z37:=Tryz.sizeOf22
 v37:=Tryz.zeroValue22
 t70:=Tryz.underlying232
 a70:=Tryz.isAgg232
 z70:=Tryz.sizeOf232
 v70:=Tryz.zeroValue232
 t72:=Tryz.underlying234
 a72:=Tryz.isAgg234
 z72:=Tryz.sizeOf234
 v72:=Tryz.zeroValue234
 t75:=Tryz.underlying99
 a75:=Tryz.isAgg99
 z75:=Tryz.sizeOf99
 v75:=Tryz.zeroValue99
 t76:=Tryz.underlying235
 a76:=Tryz.isAgg235
 z76:=Tryz.sizeOf235
 v76:=Tryz.zeroValue235
 t127:=Tryz.underlying251
 a127:=Tryz.isAgg251
 z127:=Tryz.sizeOf251
 v127:=Tryz.zeroValue251
 t164:=Tryz.underlying259
 a164:=Tryz.isAgg259
 z164:=Tryz.sizeOf259
 v164:=Tryz.zeroValue259 }
theorem Tryz.qk:Builder.Extra Tryz.prog Tryz.yg:={
 sizeBuilder:=Zae
 liesBuilder:=Zae
 t5:=Tryz.underlying5
 a5:=Tryz.isAgg5
 z5:=Tryz.sizeOf5
 v5:=Tryz.zeroValue5
 infoByte:=Zae
 cellsByte:=Zae
 sizeByte:=Zae
 neB5:=by decide }
open Go.RowKit in
theorem Tryz.strings_Join_none(a:Option Addr)(c:Nat)(sep:ByteArray)(w:World):
 Calls Tryz.prog 181 #[.slice a 0 c,.string sep] w fun e w'=>e=.returned (.string ⟨#[]⟩)/\w'=w:=Any.strings_Join_none Tryz.Fm Tryz.qk a c sep w
open Go.RowKit in
theorem Tryz.strings_Join(bk o c:Nat)(xs:List ByteArray)(sep:ByteArray)(w:World)(hcells:∀ (j:Nat) x,xs[j]? =some x->w.cell? ⟨bk,o+j,none⟩=some (.string x))(hbk:bk<w.heap.size)(hN:xs.length<=140737488355328)(hcap:xs.length<=c)(hlen:(Lib.join (xs.map (·.data.toList)) sep.data.toList).length<=140737488355328):
 Calls Tryz.prog 181 #[.slice (some ⟨bk,o,none⟩) xs.length c,.string sep] w fun e w'=>e=.returned (.string ⟨(Lib.join (xs.map (·.data.toList)) sep.data.toList).toArray⟩)/\Below w.heap.size w w':=Any.strings_Join Tryz.Fm Tryz.qk bk o c xs sep w hcells hbk hN hcap hlen
def Tryz.EF:Go.Shelf.Ren:=⟨fun | 219=>94 | 217=>135 | 225=>136 | 224=>137 | 267=>138 | 266=>174 | 314=>175 | n=>n,fun | 9=>9 | 3=>3 | 4=>4 | 5=>5 | 46=>185 | 146=>209 | 51=>208 | n=>n,fun | 1=>1 | n=>n⟩
theorem Tryz.Mw:Go.Proofs.Lays.n219 Tryz.prog Tryz.EF:={
 mixed:=Zae
 f217:=Tryz.func135.trans (Zbm some Zae)
 f219:=Tryz.func94.trans (Zbm some Zae)
 f224:=Tryz.func137.trans (Zbm some Zae)
 f225:=Tryz.func136.trans (Zbm some Zae)
 f266:=Tryz.func174.trans (Zbm some Zae)
 f267:=Tryz.func138.trans (Zbm some Zae)
 f314:=Tryz.func175.trans (Zbm some Zae)
 t3:=Tryz.underlying3
 a3:=Tryz.isAgg3
 z3:=Tryz.sizeOf3
 v3:=Tryz.zeroValue3
 t4:=Tryz.underlying4
 a4:=Tryz.isAgg4
 z4:=Tryz.sizeOf4
 v4:=Tryz.zeroValue4
 t5:=Tryz.underlying5
 a5:=Tryz.isAgg5
 z5:=Tryz.sizeOf5
 v5:=Tryz.zeroValue5
 t9:=Tryz.underlying9
 a9:=Tryz.isAgg9
 z9:=Tryz.sizeOf9
 v9:=Tryz.zeroValue9
 t46:=Tryz.underlying185
 a46:=Tryz.isAgg185
 z46:=Tryz.sizeOf185
 v46:=Tryz.zeroValue185
 t51:=Tryz.underlying208
 a51:=Tryz.isAgg208
 z51:=Tryz.sizeOf208
 v51:=Tryz.zeroValue208
 t146:=Tryz.underlying209
 a146:=Tryz.isAgg209
 z146:=Tryz.sizeOf209
 v146:=Tryz.zeroValue209
 g1:=by kernel_rfl }
open Go.RowKit Go.Lib in
theorem Tryz.stringslite_Index_one(s:ByteArray)(c:UInt8)(w:World):
 Calls Tryz.prog 94 #[.string s,.string ⟨#[c]⟩] w fun e w'=>e=.returned (.int .i64 (Lib.indexByte s.data.toList c))/\w'=w:=Any.stringslite_Index_one Tryz.Mw s c w
def Tryz.EH:Go.Shelf.Ren:=⟨fun | 143=>179 | 219=>94 | 217=>135 | 225=>136 | 224=>137 | 267=>138 | 266=>174 | 314=>175 | n=>n,fun | 9=>9 | 3=>3 | 4=>4 | 5=>5 | 46=>185 | 146=>209 | 51=>208 | n=>n,fun | 1=>1 | n=>n⟩
theorem Tryz.Mq:Go.Proofs.Lays.n143 Tryz.prog Tryz.EH:={
 mixed:=Zae
 f143:=Tryz.func179.trans (Zbm some Zae)
 f217:=Tryz.func135.trans (Zbm some Zae)
 f219:=Tryz.func94.trans (Zbm some Zae)
 f224:=Tryz.func137.trans (Zbm some Zae)
 f225:=Tryz.func136.trans (Zbm some Zae)
 f266:=Tryz.func174.trans (Zbm some Zae)
 f267:=Tryz.func138.trans (Zbm some Zae)
 f314:=Tryz.func175.trans (Zbm some Zae)
 t3:=Tryz.underlying3
 a3:=Tryz.isAgg3
 z3:=Tryz.sizeOf3
 v3:=Tryz.zeroValue3
 t4:=Tryz.underlying4
 a4:=Tryz.isAgg4
 z4:=Tryz.sizeOf4
 v4:=Tryz.zeroValue4
 t5:=Tryz.underlying5
 a5:=Tryz.isAgg5
 z5:=Tryz.sizeOf5
 v5:=Tryz.zeroValue5
 t9:=Tryz.underlying9
 a9:=Tryz.isAgg9
 z9:=Tryz.sizeOf9
 v9:=Tryz.zeroValue9
 t46:=Tryz.underlying185
 a46:=Tryz.isAgg185
 z46:=Tryz.sizeOf185
 v46:=Tryz.zeroValue185
 t51:=Tryz.underlying208
 a51:=Tryz.isAgg208
 z51:=Tryz.sizeOf208
 v51:=Tryz.zeroValue208
 t146:=Tryz.underlying209
 a146:=Tryz.isAgg209
 z146:=Tryz.sizeOf209
 v146:=Tryz.zeroValue209
 g1:=by kernel_rfl }
open Go.RowKit Go.Lib in
theorem Tryz.strings_Index_one(s:ByteArray)(c:UInt8)(w:World):
 Calls Tryz.prog 179 #[.string s,.string ⟨#[c]⟩] w fun e w'=>e=.returned (.int .i64 (Lib.indexByte s.data.toList c))/\w'=w:=Any.strings_Index_one Tryz.Mq s c w
def Tryz.EB:Go.Shelf.Ren:=⟨fun | 138=>178 | 195=>201 | 218=>203 | 143=>179 | 219=>94 | 217=>135 | 225=>136 | 224=>137 | 267=>138 | 266=>174 | 314=>175 | n=>n,fun | 9=>9 | 3=>3 | 4=>4 | 5=>5 | 0=>0 | 46=>185 | 146=>209 | 51=>208 | n=>n,fun | 1=>1 | n=>n⟩
theorem Tryz.Mc:Go.Proofs.Lays.n138 Tryz.prog Tryz.EB:={
 mixed:=Zae
 f138:=Tryz.func178.trans (Zbm some Zae)
 f143:=Tryz.func179.trans (Zbm some Zae)
 f195:=Tryz.func201.trans (Zbm some Zae)
 f217:=Tryz.func135.trans (Zbm some Zae)
 f218:=Tryz.func203.trans (Zbm some Zae)
 f219:=Tryz.func94.trans (Zbm some Zae)
 f224:=Tryz.func137.trans (Zbm some Zae)
 f225:=Tryz.func136.trans (Zbm some Zae)
 f266:=Tryz.func174.trans (Zbm some Zae)
 f267:=Tryz.func138.trans (Zbm some Zae)
 f314:=Tryz.func175.trans (Zbm some Zae)
 t0:=Tryz.underlying0
 a0:=Tryz.isAgg0
 z0:=Tryz.sizeOf0
 v0:=Tryz.zeroValue0
 t3:=Tryz.underlying3
 a3:=Tryz.isAgg3
 z3:=Tryz.sizeOf3
 v3:=Tryz.zeroValue3
 t4:=Tryz.underlying4
 a4:=Tryz.isAgg4
 z4:=Tryz.sizeOf4
 v4:=Tryz.zeroValue4
 t5:=Tryz.underlying5
 a5:=Tryz.isAgg5
 z5:=Tryz.sizeOf5
 v5:=Tryz.zeroValue5
 t9:=Tryz.underlying9
 a9:=Tryz.isAgg9
 z9:=Tryz.sizeOf9
 v9:=Tryz.zeroValue9
 t46:=Tryz.underlying185
 a46:=Tryz.isAgg185
 z46:=Tryz.sizeOf185
 v46:=Tryz.zeroValue185
 t51:=Tryz.underlying208
 a51:=Tryz.isAgg208
 z51:=Tryz.sizeOf208
 v51:=Tryz.zeroValue208
 t146:=Tryz.underlying209
 a146:=Tryz.isAgg209
 z146:=Tryz.sizeOf209
 v146:=Tryz.zeroValue209
 g1:=by kernel_rfl }
open Go.RowKit Go.Lib in
theorem Tryz.strings_Count_one(s:ByteArray)(c:UInt8)(w:World):
 Calls Tryz.prog 178 #[.string s,.string ⟨#[c]⟩] w fun e w'=>e=.returned (.int .i64 (Lib.countByte s.data.toList c))/\w'=w:=Any.strings_Count_one Tryz.Mc s c w
def Tryz.jf:Go.Shelf.Ren:=⟨fun | 221=>144 | 268=>177 | 138=>178 | 143=>179 | 195=>201 | 197=>202 | 218=>203 | 219=>94 | 260=>219 | 217=>135 | 225=>136 | 224=>137 | 267=>138 | 266=>174 | 314=>175 | n=>n,fun | 9=>9 | 3=>3 | 31=>25 | 4=>4 | 0=>0 | 105=>230 | 21=>21 | 5=>5 | 46=>185 | 119=>255 | 139=>258 | 138=>257 | 146=>209 | 51=>208 | n=>n,fun | 1=>1 | 3=>2 | 4=>3 | n=>n⟩
theorem Tryz.Lx:Go.Proofs.Lays.n221 Tryz.prog Tryz.jf:={
 mixed:=Zae
 f138:=Tryz.func178.trans (Zbm some Zae)
 f143:=Tryz.func179.trans (Zbm some Zae)
 f195:=Tryz.func201.trans (Zbm some Zae)
 f197:=Tryz.func202.trans (Zbm some Zae)
 f217:=Tryz.func135.trans (Zbm some Zae)
 f218:=Tryz.func203.trans (Zbm some Zae)
 f219:=Tryz.func94.trans (Zbm some Zae)
 f221:=Tryz.func144.trans (Zbm some Zae)
 f224:=Tryz.func137.trans (Zbm some Zae)
 f225:=Tryz.func136.trans (Zbm some Zae)
 f260:=Tryz.func219.trans (Zbm some Zae)
 f266:=Tryz.func174.trans (Zbm some Zae)
 f267:=Tryz.func138.trans (Zbm some Zae)
 f268:=Tryz.func177.trans (Zbm some Zae)
 f314:=Tryz.func175.trans (Zbm some Zae)
 t0:=Tryz.underlying0
 a0:=Tryz.isAgg0
 z0:=Tryz.sizeOf0
 v0:=Tryz.zeroValue0
 t3:=Tryz.underlying3
 a3:=Tryz.isAgg3
 z3:=Tryz.sizeOf3
 v3:=Tryz.zeroValue3
 t4:=Tryz.underlying4
 a4:=Tryz.isAgg4
 z4:=Tryz.sizeOf4
 v4:=Tryz.zeroValue4
 t5:=Tryz.underlying5
 a5:=Tryz.isAgg5
 z5:=Tryz.sizeOf5
 v5:=Tryz.zeroValue5
 t9:=Tryz.underlying9
 a9:=Tryz.isAgg9
 z9:=Tryz.sizeOf9
 v9:=Tryz.zeroValue9
 t21:=Tryz.underlying21
 a21:=Tryz.isAgg21
 z21:=Tryz.sizeOf21
 v21:=Tryz.zeroValue21
 t31:=Tryz.underlying25
 a31:=Tryz.isAgg25
 z31:=Tryz.sizeOf25
 v31:=Tryz.zeroValue25
 t46:=Tryz.underlying185
 a46:=Tryz.isAgg185
 z46:=Tryz.sizeOf185
 v46:=Tryz.zeroValue185
 t51:=Tryz.underlying208
 a51:=Tryz.isAgg208
 z51:=Tryz.sizeOf208
 v51:=Tryz.zeroValue208
 t105:=Tryz.underlying230
 a105:=Tryz.isAgg230
 z105:=Tryz.sizeOf230
 v105:=Tryz.zeroValue230
 t119:=Tryz.underlying255
 a119:=Tryz.isAgg255
 z119:=Tryz.sizeOf255
 t138:=Tryz.underlying257
 a138:=Tryz.isAgg257
 z138:=Tryz.sizeOf257
 v138:=Tryz.zeroValue257
 t139:=Tryz.underlying258
 a139:=Tryz.isAgg258
 z139:=Tryz.sizeOf258
 v139:=Tryz.zeroValue258
 t146:=Tryz.underlying209
 a146:=Tryz.isAgg209
 z146:=Tryz.sizeOf209
 v146:=Tryz.zeroValue209
 g1:=Zae
 g3:=Zae
 g4:=by kernel_rfl }
def Tryz.Ew:Go.Shelf.Ren:=⟨fun | 153=>57 | 152=>96 | 226=>97 | 227=>98 | 228=>99 | 137=>140 | 119=>141 | 224=>137 | 225=>136 | 217=>135 | 266=>174 | n=>n,fun | 9=>9 | 3=>3 | 4=>4 | 5=>5 | 21=>21 | 117=>145 | 116=>144 | 0=>0 | 46=>185 | 124=>188 | n=>n,fun | n=>n⟩
theorem Tryz.LQ:Go.Proofs.Lays.n153 Tryz.prog Tryz.Ew:={
 mixed:=Zae
 f119:=Tryz.func141.trans (Zbm some Zae)
 f137:=Tryz.func140.trans (Zbm some Zae)
 f152:=Tryz.func96.trans (Zbm some Zae)
 f153:=Tryz.func57.trans (Zbm some Zae)
 f217:=Tryz.func135.trans (Zbm some Zae)
 f224:=Tryz.func137.trans (Zbm some Zae)
 f225:=Tryz.func136.trans (Zbm some Zae)
 f226:=Tryz.func97.trans (Zbm some Zae)
 f227:=Tryz.func98.trans (Zbm some Zae)
 f228:=Tryz.func99.trans (Zbm some Zae)
 f266:=Tryz.func174.trans (Zbm some Zae)
 t0:=Tryz.underlying0
 a0:=Tryz.isAgg0
 z0:=Tryz.sizeOf0
 v0:=Tryz.zeroValue0
 t3:=Tryz.underlying3
 a3:=Tryz.isAgg3
 z3:=Tryz.sizeOf3
 v3:=Tryz.zeroValue3
 t4:=Tryz.underlying4
 a4:=Tryz.isAgg4
 z4:=Tryz.sizeOf4
 v4:=Tryz.zeroValue4
 t5:=Tryz.underlying5
 a5:=Tryz.isAgg5
 z5:=Tryz.sizeOf5
 v5:=Tryz.zeroValue5
 t9:=Tryz.underlying9
 a9:=Tryz.isAgg9
 z9:=Tryz.sizeOf9
 v9:=Tryz.zeroValue9
 t21:=Tryz.underlying21
 a21:=Tryz.isAgg21
 z21:=Tryz.sizeOf21
 v21:=Tryz.zeroValue21
 t46:=Tryz.underlying185
 a46:=Tryz.isAgg185
 z46:=Tryz.sizeOf185
 v46:=Tryz.zeroValue185
 t116:=Tryz.underlying144
 a116:=Tryz.isAgg144
 z116:=Tryz.sizeOf144
 t117:=Tryz.underlying145
 a117:=Tryz.isAgg145
 z117:=Tryz.sizeOf145
 v117:=Tryz.zeroValue145
 t124:=Tryz.underlying188
 a124:=Tryz.isAgg188
 z124:=Tryz.sizeOf188
 v124:=Tryz.zeroValue188 }
open Go.RowKit Go.Lib in
theorem Tryz.strings_IndexAny_laid(s chars:ByteArray)(w:World)(hs:s.size<4294967281)(hcs:chars.size<4294967281)(has:∀ (j:Nat) b,s.data.toList[j]? =some b->b.toNat<128)(hac:∀ (j:Nat) b,chars.data.toList[j]? =some b->b.toNat<128):
 Calls Tryz.prog 57 #[.string s,.string chars] w fun e w'=>e=.returned (.int .i64 (Lib.indexAny s.data.toList chars.data.toList))/\Below w.heap.size w w':=Any.strings_IndexAny_laid Tryz.LQ Zae s chars w hs hcs has hac
def Tryz.ED:Go.Shelf.Ren:=⟨fun | 110=>65 | 109=>106 | n=>n,fun | 31=>25 | 9=>9 | 4=>4 | 3=>3 | 0=>0 | n=>n,fun | n=>n⟩
theorem Tryz.FI:Go.Proofs.Lays.n110 Tryz.prog Tryz.ED:={
 mixed:=Zae
 f109:=Tryz.func106.trans (Zbm some Zae)
 f110:=Tryz.func65.trans (Zbm some Zae)
 t0:=Tryz.underlying0
 a0:=Tryz.isAgg0
 z0:=Tryz.sizeOf0
 v0:=Tryz.zeroValue0
 t3:=Tryz.underlying3
 a3:=Tryz.isAgg3
 z3:=Tryz.sizeOf3
 v3:=Tryz.zeroValue3
 t4:=Tryz.underlying4
 a4:=Tryz.isAgg4
 z4:=Tryz.sizeOf4
 v4:=Tryz.zeroValue4
 t9:=Tryz.underlying9
 a9:=Tryz.isAgg9
 z9:=Tryz.sizeOf9
 v9:=Tryz.zeroValue9
 t31:=Tryz.underlying25
 a31:=Tryz.isAgg25
 z31:=Tryz.sizeOf25
 v31:=Tryz.zeroValue25 }
open Go.Lib in
theorem Tryz.slices_Contains_string(b off n c:Nat)(zs:List ByteArray)(x:ByteArray)(w:World)(hz:n<=zs.length)(hbig:n<=9223372036854775807)(hc:∀ j,j<zs.length->w.cell? ⟨b,off+j,none⟩=some (.string (zs.getD j ByteArray.empty))):
 Calls Tryz.prog 65 #[.slice (some ⟨b,off,none⟩) n c,.string x] w fun e w'=>e=.returned (.bool (Lib.containsS (zs.take n) x))/\w'=w:=Any.slices_Contains_string Tryz.FI b off n c zs x w hz hbig hc
open Go.Lib in
theorem Tryz.slices_Contains_string_empty(a:Option Addr)(c:Nat)(x:ByteArray)(w:World):
 Calls Tryz.prog 65 #[.slice a 0 c,.string x] w fun e w'=>e=.returned (.bool false)/\w'=w:=Any.slices_Contains_string_empty Tryz.FI a c x w
def Tryz.Cy:Go.Shelf.Ren:=⟨fun | 16=>86 | n=>n,fun | 24=>25 | 9=>9 | 4=>4 | n=>n,fun | n=>n⟩
theorem Tryz.wg:Go.Proofs.Lays2.n16 Tryz.prog Tryz.Cy:={
 mixed:=Zae
 f16:=Tryz.func86.trans (Zbm some Zae)
 t4:=Tryz.underlying4
 a4:=Tryz.isAgg4
 z4:=Tryz.sizeOf4
 v4:=Tryz.zeroValue4
 t9:=Tryz.underlying9
 a9:=Tryz.isAgg9
 z9:=Tryz.sizeOf9
 v9:=Tryz.zeroValue9
 t24:=Tryz.underlying25
 a24:=Tryz.isAgg25
 z24:=Tryz.sizeOf25
 v24:=Tryz.zeroValue25
 i9:=by kernel_rfl }
open Go.RowKit Go.Lib in
theorem Tryz.slices_Clone_string(b off n c:Nat)(zs:List ByteArray)(w:World)(hz:n<=zs.length)(hbig:n*16<=140737488355328)(hc:∀ j,j<zs.length->w.cell? ⟨b,off+j,none⟩=some (.string (zs.getD j ByteArray.empty))):
 Calls Tryz.prog 86 #[.slice (some ⟨b,off,none⟩) n c] w fun e w'=> ∃ v',e=.returned v'/\w'.ownsRow w.heap.size 9 1 v' n ((zs.take n).map (Value.string))/\v'≠.slice none 0 0/\Below w.heap.size w w':=Any.slices_Clone_string Tryz.wg b off n c zs w hz hbig hc
open Go.RowKit Go.Lib in
theorem Tryz.slices_Clone_string_nil(n c:Nat)(w:World):
 Calls Tryz.prog 86 #[.slice none n c] w fun e w'=>e=.returned (.slice none 0 0)/\w'=w:=Any.slices_Clone_string_nil Tryz.wg n c w
open Go.RowKit Go.Lib in
theorem Tryz.slices_Clone_string_zero(a:Addr)(c:Nat)(w:World):
 Calls Tryz.prog 86 #[.slice (some a) 0 c] w fun e w'=> ∃ v',e=.returned v'/\w'.ownsRow w.heap.size 9 1 v' 0 []/\v'≠.slice none 0 0/\Below w.heap.size w w':=Any.slices_Clone_string_zero Tryz.wg a c w
end Go.Proofs
namespace Go.Proofs.YtngholilfbdfkaaGreatDoor
open Go Go.RowKit
set_option maxRecDepth 20000
section
variable {P:Program}
theorem kR{f:FuncId}{args:List V}{Q:V->Prop}(ho:V.aK args=false)(hp:args.all (fun v=>match v with | .c9=>false | .gv _ _=>false | .tup _=>false | _=>true)=true)(h:PC P f args Q):PF P f args [] (fun r h=>Q r/\h=[]):=by
 refine⟨h.1,fun w Pb Kb cargs F hi=>?_⟩;have hF0:∀ i v x,args[i]? =some v->cargs[i]? =some x->F (.slot i)=[]:=fun i v x hv hx=>by
  have hr:=hi.slot i v x hv hx;have hm:=Za7 hv;exact AY (w:=w) (Pb:=Pb) (by
   have:∀ (l:List V),V.aK l=false->∀ v∈l,v.eE=false:=by
    intro l;induction l with
    | nil=>intro _ v hv;simp at hv
    | cons a r ih=>
      intro h v hv;simp only[V.aK,Bool.or_eq_false_iff]at h;rcases List.mem_cons.1 hv with rfl | hv;exact h.1;exact ih h.2 v hv
   exact this _ ho v hm) hr
 have hrv:∀ (l:List V) (c:List Value),l.length=c.length->(∀ (i:Nat) v x,l[i]? =some v->c[i]? =some x->RV w Pb v x []/\v∈args)->RVs w Pb l c []:=by
  intro l;induction l with
  | nil=>intro c hl _;cases c with | nil=>exact⟨rfl,rfl⟩ | cons _ _=>simp at hl
  | cons v r ih=>
    intro c hl hx;cases c with
    | nil=>simp at hl
    | cons x c=>
      obtain⟨h0,hm⟩:=hx 0 v x rfl rfl;have hv:=Za2.1 hp v hm;refine⟨x,c,[],[],rfl,rfl,?_,ih c (by simpa using hl) fun i v' x' h1 h2=>hx (i+1) v' x' Zbz Zb4⟩;cases v <;> first | exact h0 | simp at hv
 have hR:RVs w Pb args cargs []:=hrv args cargs hi.len.symm fun i v x hv hx=>by
  have:=hi.slot i v x hv hx;rw[hF0 i v x hv hx]at this;exact⟨this,Za7 hv⟩
 refine(h.2 w Pb cargs (fun g hg=>hi.bound g (hi.sub g hg)) hR).mono ?_;rintro e w' ⟨r,x,Fr,Pb',rfl,hq,hrv,hnd,hfr,hP1,hP2,hB⟩;refine⟨r,x,[],Pb',fun g=>Kb g\/Pb' g,(fun r=>match r with | .slot i=>if i=0 then Fr else [] | .key _=>[]),rfl,⟨hq,rfl⟩,?_⟩;have hold:∀ g,Kb g->g<w.heap.size:=hi.bound;refine⟨by simpa using hrv,fun k g v hk=>by simp[lk]at hk,fun r r' hne g hg=>?_,fun r=>?_,fun r g hg=>?_,fun g h=>.inr h,fun g h=>?_,hP1,fun _ h=>.inl h,fun g hg=>?_,⟨hB.os,hB.tape,hB.output,hB.size,fun g hg=>hB.block g (hold g hg),Shp.of_eq hB.block⟩⟩;cases r with
 | slot i=>
   simp only at hg;split at hg;rename_i hi0;cases r' with
   | slot j=>simp only;rw[if_neg (fun c=>hne (by rw[hi0,c]))];simp
   | key k=>simp
   simp at hg
 | key k=>simp at hg
 cases r <;> simp only;split;exact hnd;exact Zba;exact Zba;cases r with
 | slot i=>
   simp only at hg;split at hg;obtain⟨h1,h2,h3⟩:=hfr g hg;exact⟨fun c=>c.elim (fun c=>by have:=hold g c;omega) h3,h2⟩;simp at hg
 | key k=>simp at hg
 rcases h with h | h;have:=hold g h;have:=hB.size;omega;rcases hP2 g h with h | h;have:=hold g (hi.sub g h);have:=hB.size;omega;exact h.2;rcases hP2 g hg with h | h;exact .inl h;exact .inr fun c=>by have:=hold g c;omega
def RVm(w:World)(Pb:Nat->Prop)(v:V)(x:Value):Prop:=match v with | .agg us=> ∃ cs,x=.agg cs/\RL w Pb us cs.toList [] | .c9=>([]:List Nat)=[] | v=>R w Pb v [x] []
theorem Dg{w:World}{Pb:Nat->Prop}{v:V}{vs:List V}{xs:List Value}(h:RVs w Pb (v::vs) xs []):∃ x r,xs=x::r/\RVm w Pb v x/\RVs w Pb vs r []:=by
 obtain⟨x,r,F1,F2,e,hF,h1,h2⟩:=h;have hF:=List.append_eq_nil_iff.1 hF.symm;obtain⟨rfl,rfl⟩:=hF;exact⟨x,r,e,h1,h2⟩
theorem kv{w:World}{Pb:Nat->Prop}{y:Value}{vs:List V}{xs:List Value}(h:RVs w Pb (.lit y::vs) xs []):∃ r,xs=y::r/\RVs w Pb vs r []:=by
 obtain⟨x,r,e,h1,h2⟩:=Dg h;obtain⟨_,e1,_⟩:=h1;simp only[List.cons.injEq,and_true]at e1;exact⟨r,by rw[e,e1],h2⟩
theorem pH{w:World}{Pb:Nat->Prop}{xs:List Value}(h:RVs w Pb [] xs []):xs=[]:=h.1
theorem DX{w:World}{Pb:Nat->Prop}{f:Bool}{l:List BL}{vs:List V}{xs:List Value}(h:RVs w Pb (.sl f (l.map sV)::vs) xs []):∃ A c r,xs=.slice A l.length c::r/\RVs w Pb vs r []/\l.length<=c/\
 (l=[]\/∃ b o,A=some ⟨b,o,none⟩/\Pb b/\∀ j x,(l.map Str)[j]? =some x->w.cell? ⟨b,o+j,none⟩=some (.string x)):=by
 obtain⟨x,r,e,h1,h2⟩:=Dg h;obtain⟨_,A,c,e1,hle,_,hx⟩:=h1;simp only[List.cons.injEq,and_true,Zay]at e1 hle;refine⟨A,c,r,by rw[e,e1],h2,hle,?_⟩;rcases hx with hx | ⟨b,o,sz,flat,hA,hb,hs,hn,hr,hc⟩;left;simpa using hx;right;refine⟨b,o,hA,hb,fun j x hj=>hc j _ ?_⟩;have hfl:∀ (l:List BL) {flat:List Value} {F},RL w Pb (l.map sV) flat F->flat=l.map fun t=>.string (Str t):=by
  intro l;induction l with
  | nil=>intro flat F h;exact h.1
  | cons t r ih=>
    intro flat F h;obtain⟨c1,c2,F1,F2,e1,_,h1,h2⟩:=h;rw[e1,ih h2,h1.2.1];rfl
 rw[hfl l hr];rw[List.getElem?_map]at hj ⊢;cases hl:l[j]? with
 | none=>rw[hl]at hj;simp at hj
 | some t=>rw[hl]at hj;simp at hj;simp[hj]
theorem Af{f:FuncId}{args:List V}{res:V}{y:Value}(he:rH P f)(hv:res.val? =some y)(h:∀ (w:World) (Pb:Nat->Prop) cargs,(∀ g,Pb g->g<w.heap.size)->RVs w Pb args cargs []->Calls P f cargs.toArray w fun e w'=>e=.returned y/\Below w.heap.size w w'):PC P f args (fun r=>r=res):=by
 refine⟨he,fun w Pb cargs hP hargs=>(h w Pb cargs hP hargs).mono ?_⟩;rintro e w' ⟨rfl,hB⟩;exact⟨res,y,[],Pb,rfl,rfl,AJ hv,Zba,Zad,fun _ h=>h,fun _ h=>.inl h,hB⟩
end
def eR(c:UInt8):BL->List BL
 | []=>[[]]
 | b::l=>if b=c then []::eR c l else match eR c l with
   | []=>[[b]]
   | p::r=>(b::p)::r
theorem HL(c:UInt8):∀ l,eR c l≠[]
 | []=>by simp[eR]
 | b::l=>by
   unfold eR;split;simp;split <;> simp
theorem sP(c:UInt8):∀ l,Lib.indexByte l c= -1->eR c l=[l]
 | [],_=>rfl
 | b::l,h=>by
   unfold Lib.indexByte at h;split at h;simp at h;rename_i hb;have hb:b≠c:=Zby
   split at h;rename_i h1;have:=sP c l Zbz;unfold eR;rw[if_neg hb,this];have:=Lib.indexByte_ge l c;omega
theorem vl(c:UInt8):∀ l (i:Nat),Lib.indexByte l c=i->eR c l=l.take i::eR c (l.drop (i+1))/\i<l.length/\l.count c=(l.drop (i+1)).count c+1
 | [],i,h=>by unfold Lib.indexByte at h;omega
 | b::l,i,h=>by
   unfold Lib.indexByte at h;split at h;rename_i hb;have hb:b=c:=Zby
   have:i=0:=Zac;subst this hb;simp[eR];rename_i hb;have hb:b≠c:=Zby
   split at h;omega;rename_i h1;have:=Lib.indexByte_ge l c;have h1:Lib.indexByte l c≠ -1:=Zbz
   obtain⟨j,rfl⟩:∃ j,i=j+1:=⟨i-1,Zac⟩;obtain⟨k1,k2,k3⟩:=vl c l j Zac;refine⟨?_,Zal,by simp[List.count_cons,hb,k3]⟩;conv=>lhs;unfold eR
   rw[if_neg hb,k1];simp
theorem CX(c:UInt8):∀ (k:Nat) (s:BL),s.count c=k->Lib.splitK [c] 0 k s=eR c s
 | 0,s,h=>by
   have:Lib.indexByte s c= -1:=by
    by_cases hc:Lib.indexByte s c= -1;exact hc;have h1:=Lib.indexByte_ge s c;obtain⟨i,hi⟩:∃ i:Nat,Lib.indexByte s c=i:=⟨(Lib.indexByte s c).toNat,Zac⟩;have:=(vl c s i hi).2.2;omega
   rw[sP c s this];rfl
 | k+1,s,h=>by
   by_cases hc:Lib.indexByte s c= -1;rw[sP c s hc];unfold Lib.splitK;rw[Lib.index_one,hc];rfl;have h1:=Lib.indexByte_ge s c;obtain⟨i,hi⟩:∃ i:Nat,Lib.indexByte s c=i:=⟨(Lib.indexByte s c).toNat,Zac⟩;obtain⟨k1,k2,k3⟩:=vl c s i hi;rw[k1];unfold Lib.splitK;rw[Lib.index_one,hi];have: ¬ ((i:Int)== -1)=true:=Zad;rw[if_neg this];simp only[Int.toNat_natCast,Nat.add_zero,Zbf];rw[CX c k _ Zac]
theorem BQ(c:UInt8):∀ s,Lib.indexByte s c= -1->aj c s=(s,[],false)
 | [],_=>rfl
 | b::l,h=>by
   unfold Lib.indexByte at h;split at h;simp at h;rename_i hb;have hb:b≠c:=Zby
   split at h;rename_i h1;have:=BQ c l Zbz;simp only[aj,if_neg hb,this];have:=Lib.indexByte_ge l c;omega
theorem zw(c:UInt8):∀ s (i:Nat),Lib.indexByte s c=i->aj c s=(s.take i,s.drop (i+1),true)/\i<s.length
 | [],i,h=>by unfold Lib.indexByte at h;omega
 | b::l,i,h=>by
   unfold Lib.indexByte at h;split at h;rename_i hb;have hb:b=c:=Zby
   have:i=0:=Zac;subst this;simp[aj,hb];rename_i hb;have hb:b≠c:=Zby
   split at h;omega;rename_i h1;have:=Lib.indexByte_ge l c;have h1:Lib.indexByte l c≠ -1:=Zbz
   obtain⟨j,rfl⟩:∃ j,i=j+1:=⟨i-1,Zac⟩;obtain⟨k1,k2⟩:=zw c l j Zac;refine⟨?_,Zal⟩;simp only[aj,if_neg hb,k1];rfl
theorem ME(s:BL)(c:UInt8)(h:0<=Lib.indexByte s c):Lib.indexByte s c<s.length:=by
 obtain⟨i,hi⟩:∃ i:Nat,Lib.indexByte s c=i:=⟨(Lib.indexByte s c).toNat,Zac⟩;have:=(zw c s i hi).2;omega
theorem Ma{s:BL}{c:UInt8}(h:Lib.indexByte s c<0):aj c s=(s,[],false):=BQ c s (by have:=Lib.indexByte_ge s c;omega)
theorem Ke{s:BL}{c:UInt8}(h:0<=Lib.indexByte s c):aj c s=(s.take (Lib.indexByte s c).toNat,s.drop ((Lib.indexByte s c).toNat+1),true):=(zw c s _ Zac).1
theorem CO(c:UInt8):∀ s,eR c s=ao c s
 | []=>rfl
 | b::l=>by
   have ih:=CO c l;unfold eR ao;split;rw[ih];rw[ih];cases h:ao c l with
   | nil=>exact absurd (ih.trans h) (HL c l)
   | cons p r=>rfl
theorem zM:∀ (l:List BL),Lib.join l [47]=dR l
 | []=>rfl
 | [p]=>Lib.join_one p _
 | p::q::r=>by
   have:=zM (q::r);rw[Lib.join_cons]at this ⊢;simp only[Lib.joinTail,Zbe,List.flatten_cons]at this ⊢;rw[show dR (p::q::r)=p++[47]++dR (q::r) from rfl,<- this];simp
theorem MC(s:BL): -1<=Lib.indexAny s [47,63]:=Lib.indexAny_ge _ s
theorem zf:∀ (s:BL),(Lib.indexAny s [47,63]<0->s.takeWhile mS=s/\s.dropWhile mS=[])/\(0<=Lib.indexAny s [47,63]->s.takeWhile mS=s.take (Lib.indexAny s [47,63]).toNat/\s.dropWhile mS=s.drop (Lib.indexAny s [47,63]).toNat/\(Lib.indexAny s [47,63]).toNat<s.length)
 | []=>by simp[Lib.indexAny]
 | b::l=>by
   obtain⟨i1,i2⟩:=zf l;have hg:=MC l;have hn:mS b=!([47,63]:BL).contains b:=by
    unfold mS;have:(b.toNat=47↔b=47)/\(b.toNat=63↔b=63):=⟨by rw[<- UInt8.toNat_inj];rfl,by rw[<- UInt8.toNat_inj];rfl⟩;rw[Za6];simp[this]
   unfold Lib.indexAny;cases hc:([47,63]:BL).contains b with
   | true=>
     rw[hc]at hn;simp[List.takeWhile_cons,List.dropWhile_cons,hn]
   | false=>
     rw[hc]at hn;simp only[Bool.false_eq_true,if_false];by_cases h1:Lib.indexAny l [47,63]= -1;obtain⟨k1,k2⟩:=i1 Zac;rw[h1];simp[List.takeWhile_cons,List.dropWhile_cons,hn,k1,k2];obtain⟨k1,k2,k3⟩:=i2 Zac;rw[if_neg Zbz];refine⟨fun h=>by omega,fun _=>?_⟩;rw[show (Lib.indexAny l [47,63]+1).toNat=(Lib.indexAny l [47,63]).toNat+1 from Zac];simp[List.takeWhile_cons,List.dropWhile_cons,hn,k1,k2,k3]
def lS(s:BL)(i:Nat):Bool:=decide (i+2<s.length)&&(decide (0<=dH (s.getD (i+1) 0))&&decide (0<=dH (s.getD (i+2) 0)))
def eX(s:BL)(i:Nat):UInt8:=if lS s i=true then eK (s.getD (i+1) 0) (s.getD (i+2) 0) else 0
theorem kT{s:BL}{i:Nat}:lS s i=true↔i+2<s.length/\0<=dH (s.getD (i+1) 0)/\0<=dH (s.getD (i+2) 0):=by
 unfold lS;simp
theorem wH{s:BL}{i:Nat}(h:lS s i=true):eX s i=eK (s.getD (i+1) 0) (s.getD (i+2) 0):=if_pos h
theorem Dq{s:BL}{i:Nat}(h:lS s i=false):eX s i=0:=if_neg (by rw[h];decide)
theorem jJ(l:BL):(Str l).data.toList=l:=rfl
theorem Ml(s:BL)(c:UInt8):PC Tryz.prog 94 [sV s,sV [c]] (fun r=>r=iV (Lib.indexByte s c)):=by
 refine Af (fS Tryz.func94 Zae Zae) rfl fun w Pb cargs hP hargs=>?_;obtain⟨r,rfl,h1⟩:=kv hargs;obtain⟨r,rfl,h2⟩:=kv h1;obtain rfl:=pH h2;refine(Tryz.stringslite_Index_one (Str s) c w).mono ?_;rintro e w' ⟨rfl,rfl⟩;exact⟨by rw[jJ],Below.refl _ _⟩
theorem LX(s:BL)(c:UInt8):PF Tryz.prog 94 [sV s,sV [c]] [] (fun r h=>r=iV (Lib.indexByte s c)/\h=[]):=kR rfl rfl (Ml s c)
theorem Oz(s:BL)(hs:s.length<=1000000)(ha:∀ c,c∈s->c.toNat<128):PF Tryz.prog 57 [sV s,sV [47,63]] [] (fun r h=>r=iV (Lib.indexAny s [47,63])/\h=[]):=by
 refine kR rfl rfl (Af (fS Tryz.func57 Zae Zae) rfl fun w Pb cargs hP hargs=>?_);obtain⟨r,rfl,h1⟩:=kv hargs;obtain⟨r,rfl,h2⟩:=kv h1;obtain rfl:=pH h2;refine(Tryz.strings_IndexAny_laid (Str s) (Str [47,63]) w (by rw[kQ];omega) (by rw[kQ];decide) (fun j b hb=>?_) (fun j b hb=>?_)).mono ?_;rw[jJ]at hb;exact ha b (Za7 hb);rw[jJ]at hb;have:=Za7 hb;simp at this;rcases this with rfl | rfl <;> decide;rintro e w' ⟨rfl,hB⟩;exact⟨by rw[jJ,jJ],hB⟩
theorem HP(l:List BL):(l.map Str).map (·.data.toList)=l:=by
 rw[List.map_map];conv=>rhs;rw[<- List.map_id l]
 apply List.map_congr_left;intro x _;exact jJ x
theorem Ms(f:Bool)(l:List BL)(sep:BL)(hl:l.length<=1000000)(hj:(Lib.join l sep).length<=1000000):PF Tryz.prog 181 [.sl f (l.map sV),sV sep] [] (fun r h=>r=sV (Lib.join l sep)/\h=[]):=by
 refine kR rfl rfl (Af (fS Tryz.func181 Zae Zae) rfl fun w Pb cargs hP hargs=>?_);obtain⟨A,c,r,rfl,h1,hle,hc⟩:=DX hargs;obtain⟨r,rfl,h2⟩:=kv h1;obtain rfl:=pH h2;rcases hc with rfl | ⟨b,o,rfl,hb,hc⟩;refine(Tryz.strings_Join_none A c (Str sep) w).mono ?_;rintro e w' ⟨rfl,rfl⟩;exact⟨rfl,Below.refl _ _⟩;have:=Tryz.strings_Join b o c (l.map Str) (Str sep) w hc (hP b hb) Zal (by simpa using hle) (by rw[HP,jJ];omega);rw[Zay]at this;refine this.mono ?_;rintro e w' ⟨rfl,hB⟩;exact⟨by rw[HP,jJ];rfl,hB⟩
theorem Nn(f:Bool)(l:List BL)(x:BL)(hl:l.length<=1000000):PF Tryz.prog 65 [.sl f (l.map sV),sV x] [] (fun r h=>r=bV (l.contains x)/\h=[]):=by
 refine kR rfl rfl (Af (fS Tryz.func65 Zae Zae) rfl fun w Pb cargs hP hargs=>?_);obtain⟨A,c,r,rfl,h1,hle,hc⟩:=DX hargs;obtain⟨r,rfl,h2⟩:=kv h1;obtain rfl:=pH h2;rcases hc with rfl | ⟨b,o,rfl,hb,hc⟩;refine(Tryz.slices_Contains_string_empty A c (Str x) w).mono ?_;rintro e w' ⟨rfl,rfl⟩;exact⟨rfl,Below.refl _ _⟩;refine(Tryz.slices_Contains_string b o l.length c (l.map Str) (Str x) w Zad Zac (fun j hj=>?_)).mono ?_;apply hc;rw[Zam,Zat hj];rfl;rintro e w' ⟨rfl,rfl⟩;refine⟨?_,Below.refl _ _⟩;congr 2;rw[Za6,Lib.containsS_iff,List.contains_iff_mem,Zaz Zad,List.mem_map];exact⟨fun⟨y,h1,h2⟩=>by
  have:y=x:=by rw[<- jJ y,h2,jJ]
  rw[<- this];exact h1,fun h=>⟨x,h,rfl⟩⟩
theorem Kh(s:BL)(c:UInt8)(hs:s.length<=1000000):PC Tryz.prog 144 [sV s,sV [c],iV 0,iV (-1)] (fun r=>r=.sl true ((eR c s).map sV)):=by
 refine⟨fS Tryz.func144 Zae Zae,fun w Pb cargs hP hargs=>?_⟩;obtain⟨r,rfl,h1⟩:=kv hargs;obtain⟨r,rfl,h2⟩:=kv h1;obtain⟨r,rfl,h3⟩:=kv h2;obtain⟨r,rfl,h4⟩:=kv h3;obtain rfl:=pH h4;have hcnt:Lib.countB (Str s) (Str [c])=s.count c:=by
  show Lib.count (Str s).data.toList (Str [c]).data.toList=_;rw[jJ,jJ,Lib.count_one]
 have hI:∀ (x:ByteArray) (cs:Array Value),x.size<=(Str s).size->Calls Tryz.prog (Tryz.jf.f 143) #[.string x,.string (Str [c])] (w.alloc (.cells cs (Tryz.jf.t 9))) fun e w'=>e=.returned (.int .i64 (Lib.indexB x (Str [c])))/\w'=w.alloc (.cells cs (Tryz.jf.t 9)):=fun x cs _=>
  (Tryz.strings_Index_one x c _).mono fun e w' h=>by
   rw[show Lib.indexB x (Str [c])=Lib.indexByte x.data.toList c from Lib.index_one _ _];exact h
 have hC:Calls Tryz.prog (Tryz.jf.f 138) #[.string (Str s),.string (Str [c])] w fun e w'=>e=.returned (.int .i64 (Lib.countB (Str s) (Str [c])))/\w'=w:=
  (Tryz.strings_Count_one (Str s) c w).mono fun e w' h=>by
   rw[hcnt];exact h
 have hcl:s.count c<=s.length:=List.count_le_length;have hg:=Any.strings_genSplit_core Tryz.Lx Zae (Str s) (Str [c]) 0 (-1) (s.count c+1) w (by rw[kQ];omega) (by rw[kQ];simp) (Nat.zero_le _) hI hC Zaf Zaf (by rw[if_pos Zaf,hcnt,kQ];omega);have hlen:(Lib.splitB (Str [c]) 0 (s.count c) (Str s)).length=s.count c+1:=Lib.splitB_all _ (by rw[kQ];simp) 0 _ _ hcnt;have hdat:(Lib.splitB (Str [c]) 0 (s.count c) (Str s)).map (·.data.toList)=eR c s:=by
  rw[Lib.splitB_data,jJ,jJ];exact CX c _ s rfl
 have hl2:(eR c s).length=s.count c+1:=by rw[<- hdat,Zay,hlen]
 have hcells:Lib.cellsOf (Lib.splitB (Str [c]) 0 (s.count c) (Str s)) (s.count c+1)=((eR c s).map fun t=>Value.string (Str t)).toArray:=by
  rw[<- hlen,Lib.cellsOf_full,<- hdat,List.map_map];congr 1
 refine hg.mono ?_;rintro e w' ⟨he,hw⟩;rw[Nat.add_sub_cancel,hlen]at he;rw[Nat.add_sub_cancel,hcells]at hw;subst hw;refine⟨_,_,[],fun g=>Pb g\/g=w.heap.size,he,rfl,?_,Zba,Zad,fun _ h=>.inl h,fun g h=>h.imp id fun h=>⟨Zac,Zbx⟩,⟨rfl,rfl,rfl,Zbx,fun k hk=>alloc_old w _ k hk⟩⟩;refine⟨rfl,_,_,by rw[Zay,hl2],by simp[hl2],fun _=>by simp[hl2],.inr ⟨_,_,1,(eR c s).map fun t=>Value.string (Str t),rfl,.inr rfl,Nat.one_pos,fun v hv=>?_,?_,fun j u hu=>?_⟩⟩;obtain⟨t,_,rfl⟩:=List.mem_map.1 hv;rfl;have:∀ (l:List BL) (w:World) (Pb:Nat->Prop),RL w Pb (l.map sV) (l.map fun t=>Value.string (Str t)) []:=by
  intro l w Pb;induction l with
  | nil=>exact⟨rfl,rfl⟩
  | cons t r ih=>exact⟨[_],_,[],[],rfl,rfl,⟨rfl,rfl,rfl⟩,ih⟩
 exact this _ _ _;rw[Zaw];have:(w.alloc (.cells ((eR c s).map fun t=>Value.string (Str t)).toArray (Tryz.jf.t 9))).heap[w.heap.size]? =some (.cells ((eR c s).map fun t=>Value.string (Str t)).toArray (Tryz.jf.t 9) (0,0)):=jU w _;have hb:Blk (w.alloc (.cells ((eR c s).map fun t=>Value.string (Str t)).toArray (Tryz.jf.t 9))) w.heap.size ((eR c s).map fun t=>Value.string (Str t)).toArray:=⟨_,(0,0),this,fun i _ h=>by omega⟩;rw[fP hb,List.getElem?_toArray];exact hu
theorem KD(s:BL)(c:UInt8)(hs:s.length<=1000000):PF Tryz.prog 144 [sV s,sV [c],iV 0,iV (-1)] [] (fun r h=>r=.sl true ((eR c s).map sV)/\h=[]):=kR rfl rfl (Kh s c hs)
theorem KR(w:World)(Pb:Nat->Prop):∀ (l:List BL),RL w Pb (l.map sV) (l.map fun t=>Value.string (Str t)) []
 | []=>⟨rfl,rfl⟩
 | _::r=>⟨[_],_,[],[],rfl,rfl,⟨rfl,rfl,rfl⟩,KR w Pb r⟩
theorem Al{w w':World}{Pb:Nat->Prop}{v:Value}{l:List BL}(hP:∀ g,Pb g->g<w.heap.size)(h:w'.ownsRow w.heap.size 9 1 v l.length (l.map fun t=>Value.string (Str t))):
 ∃ F,RV w' Pb (.ow 1 (l.map sV)) v F/\F.Nodup/\∀ g,g∈F->w.heap.size<=g/\g<w'.heap.size/\¬ Pb g:=by
 obtain⟨_,h⟩:=h;rcases h with ⟨rfl,h0⟩ | ⟨g,cap,cur,rfl,hg,hb,hle,_,hsz,htk⟩;have:l=[]:=Za5 h0;subst this;exact⟨[],⟨0,0,0,.inl ⟨rfl,rfl,rfl,none,rfl⟩⟩,Zba,Zad⟩;have hnp: ¬ Pb g:=fun c=>by have:=hP g c;omega
 by_cases hc:cap=0;subst hc;have:l=[]:=Za5 Zac;subst this;exact⟨[],⟨0,0,0,.inl ⟨rfl,rfl,rfl,_,rfl⟩⟩,Zba,Zad⟩;have hgl:g<w'.heap.size:=by
  cases hh:w'.heap[g]? with
  | none=>rw[hh]at hb;cases hb
  | some o=>exact(Zbh.1 hh).1
 refine⟨[g],⟨g,0,cap,.inr ⟨Zac,Nat.one_pos,by simpa using hle,Zad,fun v hv=>?_,hnp,_,[],cur,rfl,KR w' Pb l,⟨9,(0,0),hb,fun i _ h=>by omega⟩,Zac,fun j u hu=>?_⟩⟩,Zad,fun x hx=>?_⟩;obtain⟨t,_,rfl⟩:=List.mem_map.1 hv;rfl;rw[<- htk,List.getElem?_take]at hu;split at hu;rw[Zaw,<- Array.getElem?_toList];exact hu;simp at hu;obtain rfl:=Zav.1 hx;exact⟨hg,hgl,hnp⟩
theorem Kv(f:Bool)(l:List BL)(hl:l.length<=1000000):PC Tryz.prog 86 [.sl f (l.map sV)] (fun r=>r=.ow 1 (l.map sV)):=by
 refine⟨fS Tryz.func86 Zae Zae,fun w Pb cargs hP hargs=>?_⟩;obtain⟨A,c,r,rfl,h1,hle,hc⟩:=DX hargs;obtain rfl:=pH h1;rcases hc with rfl | ⟨b,o,rfl,hb,hc⟩;cases A with
 | none=>
   refine(Tryz.slices_Clone_string_nil 0 c w).mono ?_;rintro e w' ⟨rfl,rfl⟩;exact⟨_,_,[],Pb,rfl,rfl,⟨0,0,0,.inl ⟨rfl,rfl,rfl,none,rfl⟩⟩,Zba,Zad,fun _ h=>h,fun _ h=>.inl h,Below.refl _ _⟩
 | some a=>
   refine(Tryz.slices_Clone_string_zero a c w).mono ?_;rintro e w' ⟨v,rfl,hr,_,hB⟩;obtain⟨F,k1,k2,k3⟩:=Al (l:=[]) hP hr;exact⟨_,_,F,Pb,rfl,rfl,k1,k2,k3,fun _ h=>h,fun _ h=>.inl h,hB⟩
 refine(Tryz.slices_Clone_string b o l.length c (l.map Str) w Zad Zac (fun j hj=>?_)).mono ?_;apply hc;rw[Zam,Zat hj];rfl;rintro e w' ⟨v,rfl,hr,_,hB⟩;rw[Zaz Zad,List.map_map]at hr;obtain⟨F,k1,k2,k3⟩:=Al hP hr;exact⟨_,_,F,Pb,rfl,rfl,k1,k2,k3,fun _ h=>h,fun _ h=>.inl h,hB⟩
theorem KJ(f:Bool)(l:List BL)(hl:l.length<=1000000):PF Tryz.prog 86 [.sl f (l.map sV)] [] (fun r h=>r=.ow 1 (l.map sV)/\h=[]):=kR rfl rfl (Kv f l hl)
def foldI(b:Int):Int:=if 97<=b/\b<=102 then b-32 else b
def fH(i:Nat):Int:=if i<10 then 48+i else 55+i
def od(b:Int):Int:=if 48<=foldI b/\foldI b<=57 then foldI b-48 else if 65<=foldI b/\foldI b<=70 then foldI b-55 else -1
theorem Bl:∀ i,(h:i<16)->((((⟨#[48,49,50,51,52,53,54,55,56,57,65,66,67,68,69,70]⟩:ByteArray)[i]'h).toNat:Nat):Int)=fH i:=Zaf
theorem zi{i:Nat}(h:i<16):fH i<128:=by unfold fH;split <;> omega
theorem Ju(b:UInt8):od b.toNat=dH b:=by
 unfold od foldI dH;have:=b.toNat_lt;repeat' split
 all_goals omega
theorem Bf{b:Int}{i:Nat}(hi:i<16)(h:fH i=foldI b):od b=i:=by
 unfold fH at h;unfold od;split at h;rw[if_pos Zac];omega;rw[if_neg Zac,if_pos Zac];omega
theorem yy{b:Int}(h:∀ j:Nat,j<16->fH j≠foldI b):od b= -1:=by
 unfold od;split;rename_i hc;refine absurd ?_ (h (foldI b-48).toNat Zac);unfold fH;rw[if_pos Zac];omega;split;rename_i hc;refine absurd ?_ (h (foldI b-55).toNat Zac);unfold fH;rw[if_neg Zac];omega;rfl
section
open Go Go.RowKit Go.Lib
set_option maxHeartbeats 1000000 in
set_option maxRecDepth 100000 in
theorem Nj(b:Int)(h0:0<=b)(h1:b<256)(hlo:decide ((97:Int)<=b)=false)(w:World):Calls Tryz.prog 176 #[.int .u8 b] w fun e w'=>e=.returned (.tuple #[.int .i64 (max (od b) 0),.bool (decide (0<=od b))])/\∃ pos,w'=w.iter ⟨#[48,49,50,51,52,53,54,55,56,57,65,66,67,68,69,70]⟩ pos:=by
 have HF:Aside (foldI b=b):=by
  have:=of_decide_eq_false hlo;unfold Aside foldI;rw[if_neg Zac]
 go_enter Tryz.func176,Tryz.ntmps176
 go_wp2
 go_loopg [4,5] 16 (fun g _ _ wx=> ∃ i:Nat,i+g=16/\wx=w.iter ⟨#[48,49,50,51,52,53,54,55,56,57,65,66,67,68,69,70]⟩ i/\∀ j:Nat,j<i->fH j≠foldI b)
 case atStart=>exact⟨0,Zac,rfl,fun j hj=>by omega⟩
 case round=>
  obtain⟨i,hig,rfl,hno⟩:=hrel;have HN:Aside (∀ j:Nat,j<i->fH j≠foldI b):=hno;clear hno;cases gk with
  | zero=>
    obtain rfl:i=16:=Zac;have hnx:=run_next_end (P:=Tryz.prog) w ⟨#[48,49,50,51,52,53,54,55,56,57,65,66,67,68,69,70]⟩ 16
    go_wp2
    go_ret2
    exact⟨by rw[yy HN.out];rfl,_,rfl⟩
  | succ g=>
    have hi:i<(⟨#[48,49,50,51,52,53,54,55,56,57,65,66,67,68,69,70]⟩:ByteArray).size:=by show i<16;omega
    have hfa:((((⟨#[48,49,50,51,52,53,54,55,56,57,65,66,67,68,69,70]⟩:ByteArray)[i]'hi).toNat:Nat):Int)=fH i:=Bl i hi;have hlt:((⟨#[48,49,50,51,52,53,54,55,56,57,65,66,67,68,69,70]⟩:ByteArray)[i]'hi).toNat<128:=Zb7
    have hnx:=fun ty=>run_next_ascii (P:=Tryz.prog) w ⟨#[48,49,50,51,52,53,54,55,56,57,65,66,67,68,69,70]⟩ i ty hi hlt;rw[hfa]at hnx;clear hlt hfa;cases hin:(fH i==b)
    · have HI:Aside ((fH i==b)=false):=hin
      go_wp2
      go_roundg g
      case measure=>omega
      case rel=>exact⟨i+1,Zac,rfl,fun j hj=>by
       by_cases e:j=i;subst e;rw[HF.out];exact beq_eq_false_iff_ne.1 HI.out;exact HN.out j Zac⟩
    have HI:Aside ((fH i==b)=true):=hin
    go_wp2
    go_ret2
    exact⟨Zb8,_,rfl⟩
set_option maxHeartbeats 1000000 in
set_option maxRecDepth 100000 in
theorem Ol(b:Int)(h0:0<=b)(h1:b<256)(hlo:decide ((97:Int)<=b)=true)(hhi:decide (b<=102)=false)(w:World):Calls Tryz.prog 176 #[.int .u8 b] w fun e w'=>e=.returned (.tuple #[.int .i64 (max (od b) 0),.bool (decide (0<=od b))])/\∃ pos,w'=w.iter ⟨#[48,49,50,51,52,53,54,55,56,57,65,66,67,68,69,70]⟩ pos:=by
 have HF:Aside (foldI b=b):=by
  have:=of_decide_eq_false hhi;unfold Aside foldI;rw[if_neg Zac]
 go_enter Tryz.func176,Tryz.ntmps176
 go_wp2
 go_loopg [4,5] 16 (fun g _ _ wx=> ∃ i:Nat,i+g=16/\wx=w.iter ⟨#[48,49,50,51,52,53,54,55,56,57,65,66,67,68,69,70]⟩ i/\∀ j:Nat,j<i->fH j≠foldI b)
 case atStart=>exact⟨0,Zac,rfl,fun j hj=>by omega⟩
 case round=>
  obtain⟨i,hig,rfl,hno⟩:=hrel;have HN:Aside (∀ j:Nat,j<i->fH j≠foldI b):=hno;clear hno;cases gk with
  | zero=>
    obtain rfl:i=16:=Zac;have hnx:=run_next_end (P:=Tryz.prog) w ⟨#[48,49,50,51,52,53,54,55,56,57,65,66,67,68,69,70]⟩ 16
    go_wp2
    go_ret2
    exact⟨by rw[yy HN.out];rfl,_,rfl⟩
  | succ g=>
    have hi:i<(⟨#[48,49,50,51,52,53,54,55,56,57,65,66,67,68,69,70]⟩:ByteArray).size:=by show i<16;omega
    have hfa:((((⟨#[48,49,50,51,52,53,54,55,56,57,65,66,67,68,69,70]⟩:ByteArray)[i]'hi).toNat:Nat):Int)=fH i:=Bl i hi;have hlt:((⟨#[48,49,50,51,52,53,54,55,56,57,65,66,67,68,69,70]⟩:ByteArray)[i]'hi).toNat<128:=Zb7
    have hnx:=fun ty=>run_next_ascii (P:=Tryz.prog) w ⟨#[48,49,50,51,52,53,54,55,56,57,65,66,67,68,69,70]⟩ i ty hi hlt;rw[hfa]at hnx;clear hlt hfa;cases hin:(fH i==b)
    · have HI:Aside ((fH i==b)=false):=hin
      go_wp2
      go_roundg g
      case measure=>omega
      case rel=>exact⟨i+1,Zac,rfl,fun j hj=>by
       by_cases e:j=i;subst e;rw[HF.out];exact beq_eq_false_iff_ne.1 HI.out;exact HN.out j Zac⟩
    have HI:Aside ((fH i==b)=true):=hin
    go_wp2
    go_ret2
    exact⟨Zb8,_,rfl⟩
set_option maxHeartbeats 1000000 in
set_option maxRecDepth 100000 in
theorem Kl(b:Int)(h0:0<=b)(h1:b<256)(hlo:decide ((97:Int)<=b)=true)(hhi:decide (b<=102)=true)(w:World):Calls Tryz.prog 176 #[.int .u8 b] w fun e w'=>e=.returned (.tuple #[.int .i64 (max (od b) 0),.bool (decide (0<=od b))])/\∃ pos,w'=w.iter ⟨#[48,49,50,51,52,53,54,55,56,57,65,66,67,68,69,70]⟩ pos:=by
 have HF:Aside (foldI b=(b-32) % 256):=by
  have:=of_decide_eq_true hhi;have:=of_decide_eq_true hlo;unfold Aside foldI;rw[if_pos Zac];omega
 go_enter Tryz.func176,Tryz.ntmps176
 go_wp2
 go_loopg [4,5] 16 (fun g _ _ wx=> ∃ i:Nat,i+g=16/\wx=w.iter ⟨#[48,49,50,51,52,53,54,55,56,57,65,66,67,68,69,70]⟩ i/\∀ j:Nat,j<i->fH j≠foldI b)
 case atStart=>exact⟨0,Zac,rfl,fun j hj=>by omega⟩
 case round=>
  obtain⟨i,hig,rfl,hno⟩:=hrel;have HN:Aside (∀ j:Nat,j<i->fH j≠foldI b):=hno;clear hno;cases gk with
  | zero=>
    obtain rfl:i=16:=Zac;have hnx:=run_next_end (P:=Tryz.prog) w ⟨#[48,49,50,51,52,53,54,55,56,57,65,66,67,68,69,70]⟩ 16
    go_wp2
    go_ret2
    exact⟨by rw[yy HN.out];rfl,_,rfl⟩
  | succ g=>
    have hi:i<(⟨#[48,49,50,51,52,53,54,55,56,57,65,66,67,68,69,70]⟩:ByteArray).size:=by show i<16;omega
    have hfa:((((⟨#[48,49,50,51,52,53,54,55,56,57,65,66,67,68,69,70]⟩:ByteArray)[i]'hi).toNat:Nat):Int)=fH i:=Bl i hi;have hlt:((⟨#[48,49,50,51,52,53,54,55,56,57,65,66,67,68,69,70]⟩:ByteArray)[i]'hi).toNat<128:=Zb7
    have hnx:=fun ty=>run_next_ascii (P:=Tryz.prog) w ⟨#[48,49,50,51,52,53,54,55,56,57,65,66,67,68,69,70]⟩ i ty hi hlt;rw[hfa]at hnx;clear hlt hfa;cases hin:(fH i==(b-32) % 256)
    · have HI:Aside ((fH i==(b-32) % 256)=false):=hin
      go_wp2
      go_roundg g
      case measure=>omega
      case rel=>exact⟨i+1,Zac,rfl,fun j hj=>by
       by_cases e:j=i;subst e;rw[HF.out];exact beq_eq_false_iff_ne.1 HI.out;exact HN.out j Zac⟩
    have HI:Aside ((fH i==(b-32) % 256)=true):=hin
    go_wp2
    go_ret2
    exact⟨Zb8,_,rfl⟩
theorem NW(b:UInt8):PC Tryz.prog 176 [uN b.toNat] (fun r=>r=.tup [iV (max (dH b) 0),bV (decide (0<=dH b))]):=by
 refine⟨fS Tryz.func176 Zae Zae,fun w Pb cargs hP hargs=>?_⟩;obtain⟨r,rfl,h1⟩:=kv hargs;obtain rfl:=pH h1;have hb:=b.toNat_lt;have h:Calls Tryz.prog 176 #[.int .u8 b.toNat] w fun e w'=>e=.returned (.tuple #[.int .i64 (max (od b.toNat) 0),.bool (decide (0<=od b.toNat))])/\∃ pos,w'=w.iter ⟨#[48,49,50,51,52,53,54,55,56,57,65,66,67,68,69,70]⟩ pos:=by
  cases h1:decide ((97:Int)<=b.toNat);exact Nj _ Zac Zac h1 w;cases h2:decide ((b.toNat:Int)<=102);exact Ol _ Zac Zac h1 h2 w;exact Kl _ Zac Zac h1 h2 w
 rw[Ju]at h;refine h.mono ?_;rintro e w' ⟨rfl,pos,rfl⟩;exact⟨_,_,[],Pb,rfl,rfl,xa rfl rfl,Zba,Zad,fun _ h=>h,fun _ h=>.inl h,⟨rfl,rfl,rfl,by simp[World.iter],fun k hk=>alloc_old w _ k hk⟩⟩
theorem MX(b:UInt8):PF Tryz.prog 176 [uN b.toNat] [] (fun r h=>r=.tup [iV (max (dH b) 0),bV (decide (0<=dH b))]/\h=[]):=kR rfl rfl (NW b)
end
def zt3:ZT Tryz.prog:=⟨3,iN 0,fu (cs:=[.int .i64 0]) Zae Zae⟩
def zt4:ZT Tryz.prog:=⟨4,bV false,fu (cs:=[.bool false]) Zae Zae⟩
def PD:ZT Tryz.prog:=⟨25,.sl true [],fu (cs:=[.slice none 0 0]) Zae Zae⟩
def cm:ZT Tryz.prog:=⟨28,.agg [sV [],iN 0,.sl true [],.sl true [],.sl true []],fu (cs:=[.string ⟨#[]⟩,.int .i64 0,.slice none 0 0,.slice none 0 0,.slice none 0 0]) Zae Zae⟩
def mT:ZT Tryz.prog:=⟨37,.agg [iN 0,sV [],iN 0],fu (cs:=[.int .i64 0,.string ⟨#[]⟩,.int .i64 0]) Zae Zae⟩
def dC:ZT Tryz.prog:=⟨39,.agg [sV [],.sl true [],bV false,sV []],fu (cs:=[.string ⟨#[]⟩,.slice none 0 0,.bool false,.string ⟨#[]⟩]) Zae Zae⟩
def iU:ZT Tryz.prog:=⟨45,.agg [.sl true [],.sl true [],iN 0],fu (cs:=[.slice none 0 0,.slice none 0 0,.int .i64 0]) Zae Zae⟩
def kP:ZT Tryz.prog:=⟨48,.agg [sV [],iN 0,bV false,.agg [.sl true [],.sl true [],iN 0],iN 0,.sl true []],fu (cs:=[.string ⟨#[]⟩,.int .i64 0,.bool false,.slice none 0 0,.slice none 0 0,.int .i64 0,.int .i64 0,.slice none 0 0]) Zae Zae⟩
def kX:ZT Tryz.prog:=⟨52,.agg [sV [],iN 0],fu (cs:=[.string ⟨#[]⟩,.int .i64 0]) Zae Zae⟩
def PE:ZT Tryz.prog:=⟨72,.agg [.lit (.map none),.lit (.pointer none)],fu (cs:=[.map none,.pointer none]) Zae Zae⟩
def ri:ZT Tryz.prog:=⟨87,.agg [sV [],sV [],sV [],iN 0],fu (cs:=[.string ⟨#[]⟩,.string ⟨#[]⟩,.string ⟨#[]⟩,.int .i64 0]) Zae Zae⟩
def Pv:ZT Tryz.prog:=⟨92,.agg [.sl true [],iN 0],fu (cs:=[.slice none 0 0,.int .i64 0]) Zae Zae⟩
def uW:ZT Tryz.prog:=⟨113,.agg [bV false,sV []],fu (cs:=[.bool false,.string ⟨#[]⟩]) Zae Zae⟩
def Pp:ZT Tryz.prog:=⟨139,.agg [.lit .nilFunc,.lit .nilFunc],fu (cs:=[.nilFunc,.nilFunc]) Zae Zae⟩
def OO:ZT Tryz.prog:=⟨221,.agg [.sl true [],bV false],fu (cs:=[.slice none 0 0,.bool false]) Zae Zae⟩
def qs:ZT Tryz.prog:=⟨241,.agg [sV []],fu (cs:=[.string ⟨#[]⟩]) Zae Zae⟩
def Hf:ZT Tryz.prog:=⟨243,.agg [.agg [bV false,sV []]],fu (cs:=[.bool false,.string ⟨#[]⟩]) Zae Zae⟩
def KX:ZT Tryz.prog:=⟨245,.agg [iN 0],fu (cs:=[.int .i64 0]) Zae Zae⟩
def Pn:ZT Tryz.prog:=⟨254,.agg [.lit .nilFunc,.lit .nilFunc,.lit .nilFunc],fu (cs:=[.nilFunc,.nilFunc,.nilFunc]) Zae Zae⟩
abbrev aG:=Yc Tryz.prog
abbrev fy:=W7 Tryz.prog
abbrev PI:=Sc Tryz.prog
abbrev tl(s:BL)(c:UInt8):V:=.tup [sV ((aj c s).1),sV ((aj c s).2.1),bV ((aj c s).2.2)]
abbrev pt(s:BL)(c:UInt8)(i:Nat):Prop:=i<=s.length/\aj c s=(s.take i++(aj c (s.drop i)).1,(aj c (s.drop i)).2.1,(aj c (s.drop i)).2.2)
def ly(s:BL)(c:UInt8):aG:=.mk 107 [sV s,uN c.toNat] [] (s.length<=4611686018427387904) (tl s c) [] (by
 intro hs
 refine aA Tryz.func107
  (.q 3<|.q 1<|.loop Nat (fun i=>⟨[(0,sV s),(1,uN c.toNat),(7,iN i)],[]⟩) (fun i=>pt s c i) (fun i=>s.length-i) (fun i=>.q 4<|.br (.q 5<|.br (.A3 8 []<|.l7 8<|.q 2<|.nil) (.q 3<|.nil)) (.q 4<|.nil)))
  ((∃ j7:Nat,(pt s c j7)/\E (sV s)/\E (uN c.toNat)/\Q (iN 0) (iN j7)/\True)/\∀ i:Nat,(pt s c i)->Br (s4 (i:Int) (s.length:Int)) (Ix (i:Int) s/\Br (r4 (((s.getD i 0).toNat:Nat):Int) (c.toNat:Int)) (Sx (0:Int) (i:Int) s/\n8 ((i:Int)+1)/\Sx ((i+1:Nat):Int) (s.length:Int) s/\Q (.tup [sV ((s.take i).drop ((0:Int).toNat)),sV ((s.take s.length).drop (i+1)),bV true]) (tl s c)) (n8 ((i:Int)+1)/\∃ e9:Nat,(pt s c e9)/\(s.length-e9<s.length-i)/\E (sV s)/\E (uN c.toNat)/\Q (iN (i+1)) (iN e9)/\True)) (Q (.tup [sV s,sV [],bV false]) (tl s c))) ?_
 refine⟨⟨0,?_,aI⟩,?_⟩;unfold pt;simp_all;rintro i ⟨hi,Rw⟩;refine bI (fun l4=>?_) fun l4=>?_;refine az (bI (fun l6=>?_) fun l6=>?_);refine bN ?_;unfold Q tl;have he:s.getD i 0=c:=UInt8.toNat_inj.1 (by exact_mod_cast l6);rw[Rw,drop_cons (by omega:i<s.length) 0,aj,if_pos he];simp;refine az ⟨i+1,?_,?_,aI⟩;unfold pt;refine az ?_;have hne: ¬ s.getD i 0=c:=fun h=>l6 (by rw[h]);rw[Rw,drop_cons (by omega:i<s.length) 0];simp only[aj,if_neg hne,aZ (by omega:i<s.length) 0,List.append_assoc,List.cons_append,List.nil_append];exact Zak;unfold Q tl;have hl:s.length<=i:=Zac;rw[Rw,Za8 hl,aj,Zaz hl];simp)
def bB(n lo up:Int):aG:=.mk 39 [iV n,iV lo,iV up] [] True (bV (w6 n lo up)) [] (by
 intro _
 refine aA Tryz.func39
  (.q 1<|.q 9<|.nil)
  (Pk (G3 n lo) ((G3 n lo)==true) true/\Q (bV ((G3 n lo)&&(M6 n up))) (bV (w6 n lo up))) ?_
 refine az ?_;unfold Q;refine Zbm bV ?_;rw[Za6];simp[w6])
def nI(b:UInt8):aG:=.mk 111 [uN b.toNat] [] True (bV (fR b)) [] (by
 intro _
 refine aA Tryz.func111
  (.q 1<|.q 23<|.nil)
  ((fun v1:Int=>(fun v2:Bool=>(Pk (G3 v1 97) ((G3 v1 97)==true) true/\Gd v2 (Pk (G3 v1 48) (v2&&((G3 v1 48)==true)) true)/\Pk ((G3 v1 97)&&(M6 v1 122)) true v2/\Pk (((G3 v1 97)&&(M6 v1 122))||((G3 v1 48)&&(M6 v1 57))) true ((((G3 v1 97)&&(M6 v1 122))||((G3 v1 48)&&(M6 v1 57)))==false)/\Pk ((((G3 v1 97)&&(M6 v1 122))||((G3 v1 48)&&(M6 v1 57)))||(r4 v1 46)) true (((((G3 v1 97)&&(M6 v1 122))||((G3 v1 48)&&(M6 v1 57)))||(r4 v1 46))==false)/\Q (bV (((((G3 v1 97)&&(M6 v1 122))||((G3 v1 48)&&(M6 v1 57)))||(r4 v1 46))||(r4 v1 45))) (bV (fR b)))) (((G3 v1 97)&&(M6 v1 122))==false)) (b.toNat:Int)) ?_
 refine fQ ?_;unfold Q;refine Zbm bV ?_;rw[Za6];simp[fR];try omega)
def pE(b:UInt8):aG:=.mk 143 [uN b.toNat] [] True (bV (fR b)) [] (by
 intro _
 refine aA Tryz.func143
  (.q 1<|.q 23<|.nil)
  ((fun v1:Int=>(fun v2:Bool=>(Pk (G3 v1 97) ((G3 v1 97)==true) true/\Gd v2 (Pk (G3 v1 48) (v2&&((G3 v1 48)==true)) true)/\Pk ((G3 v1 97)&&(M6 v1 122)) true v2/\Pk (((G3 v1 97)&&(M6 v1 122))||((G3 v1 48)&&(M6 v1 57))) true ((((G3 v1 97)&&(M6 v1 122))||((G3 v1 48)&&(M6 v1 57)))==false)/\Pk ((((G3 v1 97)&&(M6 v1 122))||((G3 v1 48)&&(M6 v1 57)))||(r4 v1 46)) true (((((G3 v1 97)&&(M6 v1 122))||((G3 v1 48)&&(M6 v1 57)))||(r4 v1 46))==false)/\Q (bV (((((G3 v1 97)&&(M6 v1 122))||((G3 v1 48)&&(M6 v1 57)))||(r4 v1 46))||(r4 v1 45))) (bV (fR b)))) (((G3 v1 97)&&(M6 v1 122))==false)) (b.toNat:Int)) ?_
 refine fQ ?_;unfold Q;refine Zbm bV ?_;rw[Za6];simp[fR];try omega)
def nF(b:UInt8):aG:=.mk 208 [uN b.toNat] [] True (iV (dH b)) [] (by
 intro _
 refine aA Tryz.func208
  (.q 1<|.q 7<|.br (.q 4<|.nil) (.q 7<|.br (.q 5<|.nil) (.q 7<|.br (.q 5<|.nil) (.q 1<|.nil))))
  ((fun v1:Int=>(Pk (G3 v1 48) ((G3 v1 48)==true) true/\Br ((G3 v1 48)&&(M6 v1 57)) (Ti (v1-48)/\n8 (v1-48)/\Q (iV (v1-48)) (iV (dH b))) (Pk (G3 v1 97) ((G3 v1 97)==true) true/\Br ((G3 v1 97)&&(M6 v1 102)) (Ti (v1-97)/\n8 (v1-97)/\n8 ((v1-97)+10)/\Q (iV ((v1-97)+10)) (iV (dH b))) (Pk (G3 v1 65) ((G3 v1 65)==true) true/\Br ((G3 v1 65)&&(M6 v1 70)) (Ti (v1-65)/\n8 (v1-65)/\n8 ((v1-65)+10)/\Q (iV ((v1-65)+10)) (iV (dH b))) (Q (iV (-1)) (iV (dH b))))))) (b.toNat:Int)) ?_
 refine az (bI (fun l4=>?_) fun l4=>?_)
 · refine⟨Zb9,Zb9,?_⟩;unfold Q;have:=b.toNat_lt;refine Zbm iV ?_;unfold dH;repeat (split <;> try omega)
 · refine az (bI (fun l6=>?_) fun l6=>?_)
   · refine⟨Zb9,Zb9,Zb9,?_⟩;unfold Q;have:=b.toNat_lt;refine Zbm iV ?_;unfold dH;repeat (split <;> try omega)
   · refine az (bI (fun n9=>?_) fun n9=>?_)
     · refine⟨Zb9,Zb9,Zb9,?_⟩;unfold Q;have:=b.toNat_lt;refine Zbm iV ?_;unfold dH;repeat (split <;> try omega)
     · unfold Q;have:=b.toNat_lt;refine Zbm iV ?_;unfold dH;repeat (split <;> try omega))
def jk(s:BL):aG:=.mk 68 [sV s] [] (s.length<=4611686018427387904) (bV (dg s)) [] (by
 intro hs
 refine aA Tryz.func68
  (.l7 2<|.loop Nat (fun i=>⟨[(0,sV s),(3,iN i)],[]⟩) (fun i=>i<=s.length/\∀ j,j<i->og (s.getD j 0)=true) (fun i=>s.length-i) (fun i=>.q 4<|.br (.q 10<|.br (.q 1<|.nil) (.q 3<|.nil)) (.q 2<|.c (bB (s.length:Int) (1:Int) (5:Int)) []<|.q 1<|.nil)))
  ((fun v1:Nat->Prop=>((∃ j7:Nat,(v1 j7)/\E (sV s)/\Q (iN 0) (iN j7)/\True)/\∀ i:Nat,(v1 i)->(fun v2:Int=>Br (s4 (i:Int) (s.length:Int)) (Ix (i:Int) s/\Gd ((s4 v2 97)==false) (Ix (i:Int) s)/\Pk (s4 v2 97) true ((s4 v2 97)==false)/\Br ((s4 v2 97)||(s9 v2 122)) (Q (bV false) (bV (dg s))) (n8 ((i:Int)+1)/\∃ e9:Nat,(v1 e9)/\(s.length-e9<s.length-i)/\E (sV s)/\Q (iN (i+1)) (iN e9)/\True)) ((bB (s.length:Int) (1:Int) (5:Int)).sm/\(True)/\Q (bV (w6 (s.length:Int) (1:Int) (5:Int))) (bV (dg s)))) (((s.getD i 0).toNat:Nat):Int))) (fun j7:Nat=>j7<=s.length/\∀ j,j<j7->og (s.getD j 0)=true)) ?_
 refine⟨⟨0,?_,aI⟩,?_⟩;simp_all;rintro i ⟨hi,TG⟩;refine bI (fun l4=>?_) fun l4=>?_;refine bN (bI (fun l6=>?_) fun l6=>?_);rw[show dg s=false from by unfold dg jv;rw[all_false (i:=i) (d:=0) Zac Zca];rfl];refine az ⟨i+1,?_,?_,aI⟩;refine az (bm TG ?_);simp only[og,Zbk];omega;exact Zak;refine bJ ?_;unfold Q;unfold dg;rw[show jv s=true from all_true (d:=0) fun j hj=>TG j Zac];rw[Bool.true_and])
def gL(s:BL):aG:=.mk 38 [sV s] [] (s.length<=4611686018427387904) (bV (cN s)) [] (by
 intro hs
 refine aA Tryz.func38
  (.l7 2<|.loop Nat (fun i=>⟨[(0,sV s),(3,iN i)],[]⟩) (fun i=>i<=s.length/\∀ j,j<i->og (s.getD j 0)=true) (fun i=>s.length-i) (fun i=>.q 4<|.br (.q 10<|.br (.q 1<|.nil) (.q 3<|.nil)) (.q 2<|.c (bB (s.length:Int) (1:Int) (8:Int)) []<|.q 1<|.nil)))
  ((fun v1:Nat->Prop=>((∃ j7:Nat,(v1 j7)/\E (sV s)/\Q (iN 0) (iN j7)/\True)/\∀ i:Nat,(v1 i)->(fun v2:Int=>Br (s4 (i:Int) (s.length:Int)) (Ix (i:Int) s/\Gd ((s4 v2 97)==false) (Ix (i:Int) s)/\Pk (s4 v2 97) true ((s4 v2 97)==false)/\Br ((s4 v2 97)||(s9 v2 122)) (Q (bV false) (bV (cN s))) (n8 ((i:Int)+1)/\∃ e9:Nat,(v1 e9)/\(s.length-e9<s.length-i)/\E (sV s)/\Q (iN (i+1)) (iN e9)/\True)) ((bB (s.length:Int) (1:Int) (8:Int)).sm/\(True)/\Q (bV (w6 (s.length:Int) (1:Int) (8:Int))) (bV (cN s)))) (((s.getD i 0).toNat:Nat):Int))) (fun j7:Nat=>j7<=s.length/\∀ j,j<j7->og (s.getD j 0)=true)) ?_
 refine⟨⟨0,?_,aI⟩,?_⟩;simp_all;rintro i ⟨hi,TG⟩;refine bI (fun l4=>?_) fun l4=>?_;refine bN (bI (fun l6=>?_) fun l6=>?_);rw[show cN s=false from by unfold cN jv;rw[all_false (i:=i) (d:=0) Zac Zca];rfl];refine az ⟨i+1,?_,?_,aI⟩;refine az (bm TG ?_);simp only[og,Zbk];omega;exact Zak;refine bJ ?_;unfold Q;unfold cN;rw[show jv s=true from all_true (d:=0) fun j hj=>TG j Zac];rw[Bool.true_and])
def qq(s:BL):aG:=.mk 60 [sV s] [] (s.length<=4611686018427387904) (bV (jv s)) [] (by
 intro hs
 refine aA Tryz.func60
  (.l7 2<|.loop Nat (fun i=>⟨[(0,sV s),(3,iN i)],[]⟩) (fun i=>i<=s.length/\∀ j,j<i->og (s.getD j 0)=true) (fun i=>s.length-i) (fun i=>.q 4<|.br (.q 10<|.br (.q 1<|.nil) (.q 3<|.nil)) (.q 1<|.nil)))
  ((fun v1:Nat->Prop=>((∃ j7:Nat,(v1 j7)/\E (sV s)/\Q (iN 0) (iN j7)/\True)/\∀ i:Nat,(v1 i)->(fun v2:Int=>Br (s4 (i:Int) (s.length:Int)) (Ix (i:Int) s/\Gd ((s4 v2 97)==false) (Ix (i:Int) s)/\Pk (s4 v2 97) true ((s4 v2 97)==false)/\Br ((s4 v2 97)||(s9 v2 122)) (Q (bV false) (bV (jv s))) (n8 ((i:Int)+1)/\∃ e9:Nat,(v1 e9)/\(s.length-e9<s.length-i)/\E (sV s)/\Q (iN (i+1)) (iN e9)/\True)) (Q (bV true) (bV (jv s)))) (((s.getD i 0).toNat:Nat):Int))) (fun j7:Nat=>j7<=s.length/\∀ j,j<j7->og (s.getD j 0)=true)) ?_
 refine⟨⟨0,?_,aI⟩,?_⟩;simp_all;rintro i ⟨hi,TG⟩;refine bI (fun l4=>?_) fun l4=>?_;refine bN (bI (fun l6=>?_) fun l6=>?_);rw[show jv s=false from by unfold jv;rw[all_false (i:=i) (d:=0) Zac Zca]];refine az ⟨i+1,?_,?_,aI⟩;refine az (bm TG ?_);simp only[og,Zbk];omega;exact Zak;rw[show jv s=true from all_true (d:=0) fun j hj=>TG j Zac])
def sE(s:BL):aG:=.mk 62 [sV s] [] (s.length<=4611686018427387904) (bV (dg s)) [] (by
 intro hs
 refine aA Tryz.func62
  (.q 1<|.q 10<|.cg (qq s)<|.q 2<|.nil)
  ((fun v1:Int=>(Pk (G3 v1 1) ((G3 v1 1)==true) true/\Gd (((G3 v1 1)&&(M6 v1 5))==true) (((s.length<=4611686018427387904))/\(qq s).sm)/\Pk ((G3 v1 1)&&(M6 v1 5)) (((G3 v1 1)&&(M6 v1 5))==true) true/\Q (bV (((G3 v1 1)&&(M6 v1 5))&&(jv s))) (bV (dg s)))) (s.length:Int)) ?_
 refine az ⟨fun hG=>⟨Zcb,rfl⟩,az ?_⟩;unfold Q;refine Zbm bV ?_;rw[Za6];simp[dg,w6,and_comm,and_assoc];try omega)
def uF(s:BL):aG:=.mk 30 [sV s] [] (s.length<=4611686018427387904) (bV (cN s)) [] (by
 intro hs
 refine aA Tryz.func30
  (.q 1<|.q 10<|.cg (qq s)<|.q 2<|.nil)
  ((fun v1:Int=>(Pk (G3 v1 1) ((G3 v1 1)==true) true/\Gd (((G3 v1 1)&&(M6 v1 8))==true) (((s.length<=4611686018427387904))/\(qq s).sm)/\Pk ((G3 v1 1)&&(M6 v1 8)) (((G3 v1 1)&&(M6 v1 8))==true) true/\Q (bV (((G3 v1 1)&&(M6 v1 8))&&(jv s))) (bV (cN s)))) (s.length:Int)) ?_
 refine az ⟨fun hG=>⟨Zcb,rfl⟩,az ?_⟩;unfold Q;refine Zbm bV ?_;rw[Za6];simp[cN,w6,and_comm,and_assoc];try omega)
end Go.Proofs.YtngholilfbdfkaaGreatDoor