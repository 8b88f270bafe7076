/-
  Words and walks for the laws of pedlar's seat: what each function of the program computes, and that it does; no conditions beyond those that each statement names.
-/
import Derived.Calls
import Derived.Below
import Derived.LoopN
import Derived.Tactics
import Derived.Laws.Sem
import Derived.IntWalk
import Derived.Lib.MinMax
import Derived.Laws.Cells
import Derived.Orders
import Derived.KernelRfl
import Derived.Lib.Strings
import Derived.Great.BuildSlice
import Derived.Laws.Append
import Derived.Laws.BytesString
import Derived.Lib.ConvBytes
set_option linter.unusedVariables false
set_option linter.unusedSimpArgs false
set_option linter.unnecessarySimpa false
set_option linter.unusedSectionVars false
namespace Go
abbrev BL:=List UInt8
theorem Zaa{p:Prop}(h:p:=by first | rfl | simp_all):p:=h
theorem Zab{p:Prop}(h:p:=by first | rfl | exact ⟨rfl, rfl⟩ | simp_all):p:=h
theorem Zac{p:Prop}(h:p:=by omega):p:=h
theorem Zad{p:Prop}(h:p:=by simp):p:=h
theorem Zae{p:Prop}(h:p:=by kernel_rfl):p:=h
theorem Zaf{p:Prop}(h:p:=by decide):p:=h
theorem Zag{p:Prop}(h:p:=by first | assumption | omega | (simp; omega)):p:=h
theorem Zah{p:Prop}(h:p:=by first | rfl | simp | (simp; omega)):p:=h
theorem Zai{p:Prop}(h:p:=by (try simp only [List.length_append, List.length_cons, List.length_nil]); omega):p:=h
theorem Zaj{p:Prop}(h:p:=by (try simp only [List.length_map] at *); omega):p:=h
theorem Zak{p:Prop}(h:p:=by first | (solve | simp) | omega | (simp; omega)):p:=h
theorem Zal{p:Prop}(h:p:=by simp; omega):p:=h
theorem Zam{α:Type _}{l:List α}{i:Nat}{a:α}:l.getD i a=l[i]?.getD a:=List.getD_eq_getElem?_getD ..
theorem Zan{α:Type _}(a b:α):(some a=some b)=(a=b):=Option.some.injEq ..
theorem Zao(a b:Bool):((a&&b)=true)=(a=true/\b=true):=Bool.and_eq_true ..
theorem Zap{α:Type _}{as bs:List α}:(as++bs).length=as.length+bs.length:=List.length_append ..
theorem Zaq{α:Type _}{β:Type _}(a:α)(b:β)(c:α)(d:β):((a,b)=(c,d))=(a=c/\b=d):=Prod.mk.injEq ..
theorem Zar{α:Type _}{a:α}{as:List α}:(a::as).length=as.length+1:=List.length_cons ..
theorem Zas{α β:Type}(a:α)(w:World)(f:α->World->Result β):(Result.ok a w).andThen f=f a w:=Result.andThen_ok ..
theorem Zat{α:Type _}{l:List α}{i:Nat}(h:i<l.length):l[i]?=some l[i]:=List.getElem?_eq_getElem h
theorem Zau{α:Type _}:([]:List α).length=0:=List.length_nil
theorem Zav{α:Type _}{a b:α}:a∈[b]↔a=b:=List.mem_singleton ..
theorem Zaw(n:Nat):0+n=n:=Nat.zero_add ..
theorem Zax{α:Type _}{a:α}{s t:List α}:a∈s++t↔a∈s\/a∈t:=List.mem_append ..
theorem Zay{α:Type _}{β:Type _}{as:List α}(f:α->β):(as.map f).length=as.length:=List.length_map ..
theorem Zaz{α:Type _}{i:Nat}{l:List α}(h:l.length<=i):l.take i=l:=List.take_of_length_le h
theorem Za0{α β:Type}(P:Program)(w:World)(x:Sem α)(f:α->Sem β):(x>>=f).run P w=(x.run P w).andThen fun a w=>(f a).run P w:=Sem.run_bind ..
theorem Za1{α:Type}(P:Program)(w:World)(a:α):(pure a:Sem α).run P w=.ok a w:=Sem.run_pure ..
theorem Za2{α:Type _}{p:α->Bool}{l:List α}:l.all p=true↔∀x,x∈l->p x=true:=List.all_eq_true ..
theorem Za3{α:Type _}{i:Nat}{a:α}{l:List α}:l[i]?=some a↔∃h:i<l.length,l[i]=a:=List.getElem?_eq_some_iff ..
theorem Za4{α:Type _}{l₁ l₂:List α}{i:Nat}:l₁.length<=i->(l₁++l₂)[i]?=l₂[i-l₁.length]?:=List.getElem?_append_right
theorem Za5{α:Type _}{l:List α}:l.length=0->l=[]:=List.eq_nil_of_length_eq_zero
theorem Za6{a b:Bool}:a=b↔(a=true↔b=true):=Bool.eq_iff_iff ..
theorem Za7{α:Type _}{l:List α}{i:Nat}{a:α}(e:l[i]?=some a):a∈l:=List.mem_of_getElem? e
theorem Za8{α:Type _}{as:List α}{i:Nat}(h:as.length<=i):as.drop i=[]:=List.drop_eq_nil_of_le h
theorem Za9{α:Type _}{l₁ l₂:List α}{i:Nat}(hn:i<l₁.length):(l₁++l₂)[i]?=l₁[i]?:=List.getElem?_append_left hn
theorem Zba{α:Type _}:([]:List α).Nodup:=List.nodup_nil
theorem Zbb{α:Type _}{β:Type _}{f:α->β}{l₁ l₂:List α}:(l₁++l₂).map f=l₁.map f++l₂.map f:=List.map_append ..
theorem Zbc(n:Nat):n<=n:=Nat.le_refl ..
theorem Zbd(n:UInt8):n.toNat<2^8:=UInt8.toNat_lt ..
theorem Zbe{α:Type _}{β:Type _}{f:α->β}{a:α}{l:List α}:(a::l).map f=f a::l.map f:=List.map_cons ..
theorem Zbf{α:Type _}{a:α}:[a].length=1:=List.length_singleton ..
theorem Zbg{α:Type _}{a:α}{l:List α}:a∈l↔∃(i:Nat)(h:i<l.length),l[i]=a:=List.mem_iff_getElem ..
theorem Zbh{α:Type _}{i:Nat}{b:α}{xs:Array α}:xs[i]?=some b↔∃h:i<xs.size,xs[i]=b:=Array.getElem?_eq_some_iff ..
theorem Zbi{α:Type _}[BEq α][LawfulBEq α](a:α)(as:List α):as.contains a=decide (a∈as):=List.contains_eq_mem ..
theorem Zbj(n m k:Nat):n+m+k=n+(m+k):=Nat.add_assoc ..
theorem Zbk{p:Prop}[Decidable p]:(decide p=true)=p:=decide_eq_true_eq ..
theorem Zbl{α:Type _}[BEq α][LawfulBEq α]{a b:α}:(a==b)=true↔a=b:=beq_iff_eq ..
theorem Zbm{α:Type _}{β:Type _}{a b:α}(f:α->β)(h:a=b):f a=f b:=congrArg f h
theorem Zbn{p:Prop}(h:p:=by simpa using hi):p:=h
theorem Zbo{p:Prop}(h:p:=by simp[execOp,resolve,invoke,builtin,Builtin.len_,hc,aH hu,goInt]):p:=h
theorem Zbp{p:Prop}(h:p:=by simpa using hj):p:=h
theorem Zbq{p:Prop}(h:p:=by simpa using h):p:=h
theorem Zbr{p:Prop}(h:p:=by have:=(Za3.1 hx).1;omega):p:=h
theorem Zbs{p:Prop}(h:p:=by rw[Zbj];exact L9 _ _ (Qv i u hu)):p:=h
theorem Zbt{p:Prop}(h:p:=by simpa using hx):p:=h
theorem Zbu{p:Prop}(h:p:=by simp only[execOp,ho,Za0,hy,Zas,Za1]):p:=h
theorem Zbv{p:Prop}(h:p:=by simp at hx ⊢;rcases hx with h | h <;> simp[h]):p:=h
theorem Zbw{p:Prop}(h:p:=by simp at c ⊢;rcases c with h | h <;> simp[h]):p:=h
theorem Zbx{p:Prop}(h:p:=by rw[dK];omega):p:=h
theorem Zby{p:Prop}(h:p:=by rw[UH]at h;cases h):p:=h
theorem Zbz{p:Prop}(h:p:=by simpa using hb):p:=h
theorem Zb0{p:Prop}(h:p:=by simpa using h1):p:=h
theorem Zb1{p:Prop}(h:p:=by subst ht;simp[Op.operands,Call.operands]):p:=h
theorem Zb2{p:Prop}(h:p:=by subst ht;simp[Op.operands]):p:=h
theorem Zb3{p:Prop}(h:p:=by simp[Op.operands,e]):p:=h
theorem Zb4{p:Prop}(h:p:=by simp[Op.operands,Call.operands,hx,e]):p:=h
theorem Zb5{p:Prop}(h:p:=by simpa using e):p:=h
theorem Zb6{p:Prop}(h:p:=by simpa using h2):p:=h
theorem Zb7{p:Prop}(h:p:=by have:=hl z hz;simp only;omega):p:=h
theorem Zb8{p:Prop}(h:p:=by have:=ur (show i<16 from hi);omega):p:=h
theorem Zb9{p:Prop}(h:p:=by rw[wI (by have:i<16:=hi;exact this) (by rw[HF.out];exact Zbl.1 HI.out)];simp):p:=h
theorem Zca{p:Prop}(h:p:=by have:=Zbd b;omega):p:=h
theorem Zcb{p:Prop}(h:p:=by simp only[kE,decide_eq_false_iff_not];omega):p:=h
theorem Zcc{p:Prop}(h:p:=by (try simp only[nb]at hG);first | assumption | omega | (simp;omega)):p:=h
theorem Zcd{p:Prop}(h:p:=by have:=Zbd (s.getD i 0);omega):p:=h
theorem Zce{p:Prop}(h:p:=by have:=gp (s.getD (i+1) 0);have:=iF (s.getD (i+1) 0);have:=gp (s.getD (i+2) 0);have:=iF (s.getD (i+2) 0);omega):p:=h
theorem Zcf{p:Prop}(h:p:=by exact Zbm (V.sl false) (aV (fun _=>rfl) _)):p:=h
theorem Zcg{p:Prop}(h:p:=by exact ag (af (d:=[]) Zac)):p:=h
theorem Zch{p:Prop}(h:p:=by simp <;> omega):p:=h
theorem Zci{p:Prop}(h:p:=by simpa using l3):p:=h
theorem Zcj{p:Prop}(h:p:=by first | assumption | exact rM _ | simp_all):p:=h
theorem Zck{p:Prop}(h:p:=by rw[j7];decide):p:=h
theorem Zcl{p:Prop}(h:p:=by rw[Zaw];exact af (d:=0) Zac):p:=h
theorem Zcm{p:Prop}(h:p:=by exact (bQ (f:=sV) (fun _=>rfl) _)):p:=h
theorem Zcn{p:Prop}(h:p:=by exact (cQ (f:=sV) (fun _=>rfl) _)):p:=h
theorem Zco{p:Prop}(h:p:=by rw[Zaz Zac]at h3;exact h3):p:=h
theorem Zcp{p:Prop}(h:p:=by first | (solve | simp) | (simp;omega)):p:=h
theorem Zcq{p:Prop}(h:p:=by rintro⟨k1,k2⟩;have k3:=Zbm List.length k2;simp only[List.length_drop,Zau]at k3;exact x2 k1 Zac):p:=h
theorem Zcr{p:Prop}(h:p:=by (try simp only[nb]at hG);omega):p:=h
theorem Zcs{p:Prop}(h:p:=by exact ag (af (d:=(⟨false,[]⟩:r7)) Zac)):p:=h
theorem Zct{p:Prop}(h:p:=by simp[Q];omega):p:=h
theorem Zcu{p:Prop}(h:p:=by exact aQ ⟨Zad,Zad⟩):p:=h
theorem Zcv{p:Prop}(h:p:=by exact jt h2 ⟨Zad,Zad,Zad,Zad,Zad,by first | (solve | simp) | (intro x hx;rw[Zav.1 hx];exact bS rfl)⟩):p:=h
theorem Zcw{p:Prop}(h:p:=by exact (oj (dn rfl _) (by simp only;omega) (fun x hx=>(h2 x hx).1) (by first | exact bM rfl QX | simp)).1):p:=h
theorem Zcx{p:Prop}(h:p:=by simp only;omega):p:=h
theorem Zcy{p:Prop}(h:p:=by (try dsimp only);repeat (first | assumption | exact bu | exact bS rfl | exact ee rfl (by assumption) | exact o8.drop (by apply And.right;apply And.right;apply And.right;assumption) _ | (apply And.right;apply And.right;apply And.right;assumption) | apply o8.app)):p:=h
theorem Zcz{p:Prop}(h:p:=by first | omega | (simp;omega)):p:=h
theorem Zc0{p:Prop}(h:p:=by (try simp only[Zap,Zar,Zau]);(try have:=bM (n:=11) rfl C4);omega):p:=h
theorem Zc1{p:Prop}(h:p:=by simp only[Zap,Zar,Zau];omega):p:=h
theorem Zc2{p:Prop}(h:p:=by exact ag (af (d:=r9) Zac)):p:=h
theorem Zc3{p:Prop}(h:p:=by exact ag (af (d:=(⟨[],[],0⟩:l7)) Zac)):p:=h
theorem Zc4{p:Prop}(h:p:=by (try have:=gK (gs:=gs) hg i k);(try have:=gF (gs:=gs) hg i k);(try simp only[Zap,Zar,Zau]);omega):p:=h
theorem Zc5{p:Prop}(h:p:=by (try dsimp only);repeat (first | assumption | exact bu | exact bS rfl | exact rG hg _ _ | exact qR hg _ _ | exact nB _ | apply o8.app)):p:=h
theorem Zc6{p:Prop}(h:p:=by (try have:=dn (l:=bb) (n:=3) rfl i);(try simp only[Zap,Zar,Zau]);omega):p:=h
theorem Zc7{p:Prop}(h:p:=by (try dsimp only);repeat (first | assumption | exact G5.2.2.2 | exact I2.2.2.2 | exact I0.2.2.2 | exact bu | exact bS rfl | exact L4.2 | exact I1.2.2.2 | exact eK rfl i | apply o8.app)):p:=h
theorem Zc8{p:Prop}(h:p:=by simp only[Zay];omega):p:=h
theorem Zc9{p:Prop}(h:p:=by first | exact Yg.2.2.2 | (rename_i hq;exact hq.2.2.2) | (apply And.right;apply And.right;apply And.right;assumption)):p:=h
theorem Zda{p:Prop}(h:p:=by simpa using j7):p:=h
theorem Zdb{p:Prop}(h:p:=by simpa using m7):p:=h
theorem Zdc{p:Prop}(h:p:=by exact aR (aw) rfl):p:=h
theorem Zdd{p:Prop}(h:p:=by exact bB (aw) (bG)):p:=h
theorem Zde{p:Prop}(h:p:=by exact (Zbm iV (by rw[hz];simp))):p:=h
theorem Zdf{p:Prop}(h:p:=by exact aR (by rw[Zaw];exact aw) rfl):p:=h
theorem Zdg{p:Prop}(h:p:=by exact bB (by rw[Zaw];exact aw) (by rw[Zaw];exact bG)):p:=h
theorem Zdh{p:Prop}(h:p:=by exact Zbm (V.own 3 · g0 o0 c0) (by rw[Zbb (f:=az)];rfl)):p:=h
theorem Zdi{p:Prop}(h:p:=by exact (bQ (f:=au) (fun _=>rfl) _)):p:=h
theorem Zdj{p:Prop}(h:p:=by exact (cQ (f:=au) (fun _=>rfl) _)):p:=h
theorem Zdk{p:Prop}(h:p:=by first | (rw[Za6];simp;omega) | (rw[Za6];simp)):p:=h
theorem Zdl{p:Prop}(h:p:=by exact bm h2 (by simpa using m7)):p:=h
theorem Zdm{p:Prop}(h:p:=by first | (rw[Za6];simp_all;done) | grind):p:=h
theorem Zdn{p:Prop}(h:p:=by first | (refine Zbm iV ?_;simp;done) | (refine Zbm iV ?_;omega)):p:=h
theorem Zdo{p:Prop}(h:p:=by exact gO (by rw[Zaw];exact af (d:=false) Zac)):p:=h
theorem Zdp{p:Prop}(h:p:=by exact nf (by rw[Zaw];exact af (d:=false) Zac) (by rw[Zaw];exact(List.map_set ..).symm)):p:=h
theorem Zdq{p:Prop}(h:p:=by intro i h;cases h):p:=h
theorem Zdr{p:Prop}(h:p:=by exact Xd (Zbm (V.own 3 · gr fr cr) (by rw[hz,Zbb];rfl))):p:=h
theorem Zds{p:Prop}(h:p:=by unfold Q;refine Zbm iV ?_;simp):p:=h
theorem Zdt{p:Prop}(h:p:=by exact fQ.trans (aR (by rw[Zaw];exact aw) rfl)):p:=h
theorem Zdu{p:Prop}(h:p:=by exact oC (bB (by rw[Zaw];exact aw) (by rw[Zaw];exact bG))):p:=h
theorem Zdv{p:Prop}(h:p:=by exact Xd (Zbm (V.own 3 · gr fr cr) (by rw[Zbb (f:=az)];rfl))):p:=h
theorem Zdw{p:Prop}(h:p:=by exact bm h2 (by simpa using l3)):p:=h
theorem Zdx{p:Prop}(h:p:=by first | rfl | exact Zbm iV Zac):p:=h
theorem Zdy{p:Prop}(h:p:=by unfold Q;refine Zbm (V.sl false) ?_;rw[List.map_take,show (max (((a.c9.map sV).length:Int)-1) 0).toNat=a.c9.length-1 from Zal];rfl):p:=h
theorem Zdz{p:Prop}(h:p:=by have:=List.length_pos_iff.2 m7;omega):p:=h
theorem Zd0{p:Prop}(h:p:=by simp only[List.length_take];omega):p:=h
theorem Zd1{p:Prop}(h:p:=by first | exact mH l3 m7 | exact mN l3 m7 | exact mQ l3):p:=h
theorem Zd2{p:Prop}(h:p:=by rw[h2,Zay,List.length_take];omega):p:=h
theorem Zd3{p:Prop}(h:p:=by exact (bq (f:=2) rfl).trans (aR (by rw[Zaw];exact af (d:=e9) Zac) rfl)):p:=h
theorem Zd4{p:Prop}(h:p:=by exact (bq (f:=2) rfl).trans (aR (af (d:=e9) Zac) rfl)):p:=h
theorem Zd5{p:Prop}(h:p:=by exact I9 (Zbm (V.own 8 · g o c) (gP (d:=e9) Zac))):p:=h
theorem Zd6{p:Prop}(h:p:=by first | rfl | (exfalso;omega) | (simp only[Zaw]) | (simp;omega)):p:=h
theorem Zd7{p:Prop}(h:p:=by rw[List.take_append_drop];exact hf):p:=h
theorem Zd8{p:Prop}(h:p:=by exact (bq (f:=2) rfl).trans (aR (dj Zac) ((bq (f:=5) rfl).trans (aR (by rw[Zaw];exact af (d:=j9) Zac) rfl)))):p:=h
theorem Zd9{p:Prop}(h:p:=by exact bQ (f:=aj) (fun _=>rfl) _):p:=h
theorem Zea{p:Prop}(h:p:=by have:=hy.ta _ (aM (d:=j9) hne);omega):p:=h
theorem Zeb{p:Prop}(h:p:=by exact aJ (af (d:=[]) Zac)):p:=h
theorem Zec{p:Prop}(h:p:=by (try simp only[Zap,Zay,Zar,Zau]);(try have:=Zc);omega):p:=h
theorem Zed{p:Prop}(h:p:=by (try simp only[Zay]at *);try simp only[Zap,Zar,Zay,List.length_take,List.length_drop,Zau]at *;omega):p:=h
theorem Zee{p:Prop}(h:p:=by rw[List.length_set];omega):p:=h
theorem Zef{p:Prop}(h:p:=by exact aJ (af (d:=e9) Zac)):p:=h
theorem Zeg{p:Prop}(h:p:=by exact Q6 (I9 (Zbm (V.own 8 · g o c) (gP (d:=e9) Zac)))):p:=h
theorem Zeh{p:Prop}(h:p:=by rw[Zaw];exact dj Zac):p:=h
theorem Zei{p:Prop}(h:p:=by exact⟨Zac,af (d:=(0:Int)) (by simp only[Zar,Zau];omega)⟩):p:=h
theorem Zej{p:Prop}(h:p:=by exact (bq (f:=1) rfl).trans ((bq (f:=2) rfl).trans (aR (by rw[Zaw];exact af (d:=e9) Zac) rfl))):p:=h
theorem Zek{p:Prop}(h:p:=by exact (bq (f:=1) rfl).trans ((bq (f:=2) rfl).trans (aR (by rw[Zaw];exact dj Zac) ((bq (f:=5) rfl).trans (aR (by rw[Zaw];exact af (d:=j9) Zac) rfl))))):p:=h
theorem Zel{p:Prop}(h:p:=by exact Q6 (I9 (Zbm (V.own 8 · g2 o2 c2) (eC (f:=an) (x:=(C5 w (zs.getD ix e9) b6)) Zac)))):p:=h
theorem Zem{p:Prop}(h:p:=by exact (Zbm iV (by rw[Wy.1];exact(Int.toNat_of_nonneg j7.1.1).symm))):p:=h
theorem Zen{p:Prop}(h:p:=by (try simp only[nb]at hG);rw[he]):p:=h
theorem Zeo{p:Prop}(h:p:=by exact aJ fun i=>by have:=hz i;exact⟨by have:=this.a;omega,by have:=this.l;omega⟩):p:=h
theorem Zep{p:Prop}(h:p:=by have:=(L6.2.1 x hx).1;omega):p:=h
theorem Zeq{p:Prop}(h:p:=by rw[mV,aV (f:=sV) (fun _=>rfl),aV (f:=aP) (fun _=>rfl)]):p:=h
theorem Zer{p:Prop}(h:p:=by exact yX Zac Zac (fun x hx=>⟨by have:=(L6.2.1 x hx).1;omega,(L6.2.1 x hx).2⟩)):p:=h
theorem Zes{p:Prop}(h:p:=by exact I9 (Zbm (V.own 8 · g2 o2 c2) (gP (d:=e9) Zac))):p:=h
theorem Zet{p:Prop}(h:p:=by (try simp only[Zap,Zay,Zar,Zau]);(try have hQ3:=x6.2.2.1.e);(try have hQ4:=x6.2.2.1.l);omega):p:=h
end Go
namespace Go.Proofs.YtngholilfbdfkabGreatDoor
open Go Go.RowKit
set_option maxRecDepth 20000
inductive l9 where
 | slot (i:Nat)
 | key (k:Nat)
 deriving DecidableEq
inductive V where
 | lit (x:Value)
 | agg (vs:List V)
 | tup (vs:List V)
 | sl (full:Bool) (xs:List V)
 | own (sz:Nat) (xs:List V) (g o c:Nat)
 | ow (sz:Nat) (xs:List V)
 | om (es:List (BL×Value)) (g:Nat)
 | mp (es:List (BL×Value))
 | hd (r:l9) (p:List Nat) (sz g o lo n c:Nat)
 | ptr (r:l9) (p:List Nat) (g o:Nat)
 | ep (v:V)
 | b9
 | gv (b:Bool) (v:V)
mutual
def V.n:V->Nat
 | .agg vs=>V.ns vs
 | _=>1
def V.ns:List V->Nat
 | []=>0
 | v::vs=>v.n+V.ns vs
end
def aS(sz:Nat)(xs:List V):Prop:= ∀ x∈xs,x.n=sz
def Blk(w:World)(g:Nat)(cells:Array Value):Prop:=
 ∃ e fr,w.heap[g]? =some (.cells cells e fr)/\∀ i,i<cells.size->¬ (fr.1<=i/\i<fr.2)
def vI(w:World)(g:Nat)(es:List (BL×Value)):Prop:=
 ∃ en cl,w.heap[g]? =some (.map en cl)/\en.toList.map (fun e=>(e.key,e.val))=es.map (fun p=>(.string ⟨p.1.toArray⟩,p.2))/\(en.toList.map (·.born)).Nodup/\∀ e∈en.toList,e.born<cl
mutual
def R(w:World)(Pb:Nat->Prop):V->List Value->List Nat->Prop
 | .lit x,cs,F=>x.oneCell'=true/\cs=[x]/\F=[]
 | .agg vs,cs,F=>RL w Pb vs cs F
 | .tup _,_,_=>False
 | .gv _ _,_,_=>False
 | .sl full xs,cs,F=>F=[]/\∃ A c,cs=[.slice A xs.length c]/\xs.length<=c/\(full=true->c=xs.length)/\
  (xs=[]\/∃ b o sz flat,A=some ⟨b,o,none⟩/\Pb b/\0<sz/\aS sz xs/\RL w Pb xs flat []/\
   ∀ j u,flat[j]? =some u->w.cell? ⟨b,o+j,none⟩=some u)
 | .own sz xs g o c,cs,F=>(c=0/\xs=[]/\F=[]/\∃ A,cs=[.slice A 0 0])\/
  (0<c/\0<sz/\xs.length<=c/\cs=[.slice (some ⟨g,o,none⟩) xs.length c]/\aS sz xs/\¬ Pb g/\
   ∃ flat F' cells,F=g::F'/\RL w Pb xs flat F'/\Blk w g cells/\o+c*sz<=cells.size/\
     ∀ j u,flat[j]? =some u->cells[o+j]? =some u)
 | .ow sz xs,cs,F=> ∃ g o c,(c=0/\xs=[]/\F=[]/\∃ A,cs=[.slice A 0 0])\/
  (0<c/\0<sz/\xs.length<=c/\cs=[.slice (some ⟨g,o,none⟩) xs.length c]/\aS sz xs/\¬ Pb g/\
   ∃ flat F' cells,F=g::F'/\RL w Pb xs flat F'/\Blk w g cells/\o+c*sz<=cells.size/\
     ∀ j u,flat[j]? =some u->cells[o+j]? =some u)
 | .om es g,cs,F=>F=[g]/\cs=[.map (some g)]/\¬ Pb g/\vI w g es
 | .mp es,cs,F=>F=[]/\∃ g,cs=[.map (some g)]/\Pb g/\vI w g es
 | .hd _ _ sz g o lo n c,cs,F=>F=[]/\n<=c/\∃ A,cs=[.slice A n c]/\(0<c->A=some ⟨g,o+lo*sz,none⟩)
 | .ptr _ _ g o,cs,F=>F=[]/\cs=[.pointer (some ⟨g,o,none⟩)]
 | .ep v,cs,F=>F=[]/\∃ b o flat,cs=[.pointer (some ⟨b,o,none⟩)]/\Pb b/\R w Pb v flat []/\
  ∀ j u,flat[j]? =some u->w.cell? ⟨b,o+j,none⟩=some u
 | .b9,cs,F=>F=[]/\∃ x,cs=[x]/\x.oneCell'=true
def RL(w:World)(Pb:Nat->Prop):List V->List Value->List Nat->Prop
 | [],cs,F=>cs=[]/\F=[]
 | v::vs,cs,F=> ∃ c1 c2 F1 F2,cs=c1++c2/\F=F1++F2/\R w Pb v c1 F1/\RL w Pb vs c2 F2
end
section
variable {w w':World} {Pb Pb':Nat->Prop}
theorem Gl{sz:Nat}{xs:List V}{cs:List Value}{F:List Nat}:R w Pb (.ow sz xs) cs F↔∃ g o c,R w Pb (.own sz xs g o c) cs F:=by simp only[R]
theorem vI.fb{g:Nat}{es:List (BL×Value)}(h:vI w g es)(k:w'.heap[g]? =w.heap[g]?):vI w' g es:=by
 obtain⟨en,cl,h1,h2⟩:=h;exact⟨en,cl,k.trans h1,h2⟩
mutual
theorem eI:∀ (v:V) {cs F},R w Pb v cs F->cs.length=v.n
 | .lit x,cs,F,h=>by obtain⟨_,rfl,_⟩:=h;rfl
 | .agg vs,cs,F,h=>by simp only[R]at h;simpa[V.n] using jh vs h
 | .tup _,_,_,h=>by simp[R]at h
 | .gv _ _,_,_,h=>by simp[R]at h
 | .sl _ xs,cs,F,h=>by obtain⟨_,A,c,rfl,_⟩:=h;rfl
 | .own sz xs g o c,cs,F,h=>by
  rcases h with ⟨_,_,_,A,rfl⟩ | ⟨_,_,_,rfl,_⟩ <;> rfl
 | .ow sz xs,cs,F,h=>by
  obtain⟨g,o,c,h⟩:=h;rcases h with ⟨_,_,_,A,rfl⟩ | ⟨_,_,_,rfl,_⟩ <;> rfl
 | .om ..,cs,F,h=>by obtain⟨_,rfl,_⟩:=h;rfl
 | .mp _,cs,F,h=>by obtain⟨_,g,rfl,_⟩:=h;rfl
 | .hd ..,cs,F,h=>by obtain⟨_,_,A,rfl,_⟩:=h;rfl
 | .ptr ..,cs,F,h=>by obtain⟨_,rfl⟩:=h;rfl
 | .ep v,cs,F,h=>by obtain⟨_,b,o,flat,rfl,_⟩:=h;rfl
 | .b9,cs,F,h=>by obtain⟨_,x,rfl,_⟩:=h;rfl
theorem jh:∀ (vs:List V) {cs F},RL w Pb vs cs F->cs.length=V.ns vs
 | [],cs,F,h=>by obtain⟨rfl,_⟩:=h;rfl
 | v::vs,cs,F,h=>by
     obtain⟨c1,c2,F1,F2,rfl,_,h1,h2⟩:=h;simp[V.ns,eI v h1,jh vs h2]
end
mutual
theorem gD:∀ (v:V) {cs F},R w Pb v cs F->(∀ g,Pb g->w'.heap[g]? =w.heap[g]?)->(∀ g,g∈F->w'.heap[g]? =w.heap[g]?)->
 (∀ g,Pb g->Pb' g)->(∀ g,g∈F->¬ Pb' g)->R w' Pb' v cs F
 | .lit x,cs,F,h,_,_,_,_=>h
 | .agg vs,cs,F,h,k1,k2,k3,k4=>by simp only[R]at h ⊢;exact eH vs h k1 k2 k3 k4
 | .tup _,_,_,h,_,_,_,_=>by simp[R]at h
 | .gv _ _,_,_,h,_,_,_,_=>by simp[R]at h
 | .sl full xs,cs,F,h,k1,_,k3,_=>by
  obtain⟨hF,A,c,hc,hl,hf,hx⟩:=h;refine⟨hF,A,c,hc,hl,hf,?_⟩;rcases hx with hx | ⟨b,o,sz,flat,hA,hb,hs,hn,hr,u0⟩;exact .inl hx;exact .inr ⟨b,o,sz,flat,hA,k3 b hb,hs,hn,eH xs hr k1 Zad k3 Zad,fun j u hu=>by
   rw[<- u0 j u hu];exact World.cell?_of_block (w:=w) (k1 b hb)⟩
 | .own sz xs g o c,cs,F,h,k1,k2,k3,k4=>by
  rcases h with h | ⟨h1,h2,h3,h4,h5,h6,flat,F',cells,hF,hr,⟨e,fr,hb,hfr⟩,hsz,u0⟩;exact .inl h;subst hF
  exact .inr ⟨h1,h2,h3,h4,h5,k4 g Zad,flat,F',cells,rfl,eH xs hr k1 (fun g hg=>k2 g (by simp[hg])) k3 (fun g hg=>k4 g (by simp[hg])),
   ⟨e,fr,(k2 g Zad).trans hb,hfr⟩,hsz,u0⟩
 | .ow sz xs,cs,F,h,k1,k2,k3,k4=>by
  obtain⟨g,o,c,h⟩:=h;refine⟨g,o,c,?_⟩;rcases h with h | ⟨h1,h2,h3,h4,h5,h6,flat,F',cells,hF,hr,⟨e,fr,hb,hfr⟩,hsz,u0⟩;exact .inl h;subst hF
  exact .inr ⟨h1,h2,h3,h4,h5,k4 g Zad,flat,F',cells,rfl,eH xs hr k1 (fun g hg=>k2 g (by simp[hg])) k3 (fun g hg=>k4 g (by simp[hg])),
   ⟨e,fr,(k2 g Zad).trans hb,hfr⟩,hsz,u0⟩
 | .om es g,cs,F,h,_,k2,_,k4=>by
  obtain⟨rfl,h1,h2,h3⟩:=h;exact⟨rfl,h1,k4 g Zad,h3.fb (k2 g Zad)⟩
 | .mp es,cs,F,h,k1,_,k3,_=>by
  obtain⟨h0,g,h1,h2,h3⟩:=h;exact⟨h0,g,h1,k3 g h2,h3.fb (k1 g h2)⟩
 | .hd ..,cs,F,h,_,_,_,_=>h
 | .ptr ..,cs,F,h,_,_,_,_=>h
 | .ep v,cs,F,h,k1,_,k3,_=>by
  obtain⟨hF,b,o,flat,hc,hb,hr,u0⟩:=h;exact⟨hF,b,o,flat,hc,k3 b hb,gD v hr k1 Zad k3 Zad,fun j u hu=>by
   rw[<- u0 j u hu];exact World.cell?_of_block (w:=w) (k1 b hb)⟩
 | .b9,cs,F,h,_,_,_,_=>h
theorem eH:∀ (vs:List V) {cs F},RL w Pb vs cs F->(∀ g,Pb g->w'.heap[g]? =w.heap[g]?)->(∀ g,g∈F->w'.heap[g]? =w.heap[g]?)->
 (∀ g,Pb g->Pb' g)->(∀ g,g∈F->¬ Pb' g)->RL w' Pb' vs cs F
 | [],cs,F,h,_,_,_,_=>h
 | v::vs,cs,F,h,k1,k2,k3,k4=>by
     obtain⟨c1,c2,F1,F2,hc,rfl,h1,h2⟩:=h
     exact⟨c1,c2,F1,F2,hc,rfl,gD v h1 k1 (fun g hg=>k2 g (by simp[hg])) k3 (fun g hg=>k4 g (by simp[hg])),
      eH vs h2 k1 (fun g hg=>k2 g (by simp[hg])) k3 (fun g hg=>k4 g (by simp[hg]))⟩
end
end
structure AS where
 t:List (Nat×V)
 h:List (Nat×(Nat×V))
def lk{α:Type}(i:Nat):List (Nat×α)->Option α
 | []=>none
 | (k,v)::r=>if i=k then some v else lk i r
def AS.get(A:AS)(i:Nat):V:=(lk i A.t).getD .b9
def AS.put(A:AS)(d:Option Nat)(v:V):AS:=match d with | some d=>{ A with t:=(d,v)::A.t } | none=>A
theorem AS.aB(A:AS)(d i:Nat)(v:V):(A.put (some d) v).get i=if i=d then v else A.get i:=by
 simp only[AS.get,AS.put,lk];split <;> rfl
def RVs(w:World)(Pb:Nat->Prop):List V->List Value->List Nat->Prop
 | [],xs,F=>xs=[]/\F=[]
 | v::vs,xs,F=> ∃ x xs' F1 F2,xs=x::xs'/\F=F1++F2/\(match v with
     | .agg us=> ∃ cs,x=.agg cs/\RL w Pb us cs.toList F1
     | .b9=>F1=[]
     | v=>R w Pb v [x] F1)/\RVs w Pb vs xs' F2
def Wn(w:World)(Pb:Nat->Prop)(v:V)(x:Value)(F:List Nat):Prop:=
 match v with
 | .tup vs=> ∃ xs:Array Value,x=.tuple xs/\RVs w Pb vs xs.toList F
 | .agg us=> ∃ cs,x=.agg cs/\RL w Pb us cs.toList F
 | .b9=>F=[]
 | v=>R w Pb v [x] F
def RV(w:World)(Pb:Nat->Prop)(v:V)(x:Value)(F:List Nat):Prop:=
 match v with
 | .gv b u=>F=[]/\(b=true->Wn w Pb u x [])/\(b=false->x=undef)
 | v=>Wn w Pb v x F
theorem uj{w w':World}{Pb Pb':Nat->Prop}:∀ (vs:List V) {xs F},RVs w Pb vs xs F->(∀ g,Pb g->w'.heap[g]? =w.heap[g]?)->(∀ g,g∈F->w'.heap[g]? =w.heap[g]?)->
 (∀ g,Pb g->Pb' g)->(∀ g,g∈F->¬ Pb' g)->RVs w' Pb' vs xs F
 | [],_,_,h,_,_,_,_=>h
 | v::vs,xs,F,h,k1,k2,k3,k4=>by
   obtain⟨x,xs',F1,F2,hx,rfl,h1,h2⟩:=h;refine⟨x,xs',F1,F2,hx,rfl,?_,uj vs h2 k1 (fun g hg=>k2 g (by simp[hg])) k3 (fun g hg=>k4 g (by simp[hg]))⟩;cases v with
   | agg us=>obtain⟨cs,e,h1⟩:=h1;exact⟨cs,e,eH us h1 k1 (fun g hg=>k2 g (by simp[hg])) k3 (fun g hg=>k4 g (by simp[hg]))⟩
   | b9=>exact h1
   | _=>exact gD _ h1 k1 (fun g hg=>k2 g (by simp[hg])) k3 (fun g hg=>k4 g (by simp[hg]))
theorem fC{w w':World} {Pb Pb':Nat->Prop} (v:V) {x F} (h:Wn w Pb v x F) (k1:∀ g,Pb g->w'.heap[g]? =w.heap[g]?) (k2:∀ g,g∈F->w'.heap[g]? =w.heap[g]?)
 (k3:∀ g,Pb g->Pb' g) (k4:∀ g,g∈F->¬ Pb' g):Wn w' Pb' v x F:=by
 cases v with
 | tup vs=>obtain⟨xs,e,h⟩:=h;exact⟨xs,e,uj vs h k1 k2 k3 k4⟩
 | agg us=>obtain⟨cs,e,h⟩:=h;exact⟨cs,e,eH us h k1 k2 k3 k4⟩
 | b9=>exact h
 | _=>exact gD _ h k1 k2 k3 k4
theorem mI{w w':World} {Pb Pb':Nat->Prop} (v:V) {x F} (h:RV w Pb v x F) (k1:∀ g,Pb g->w'.heap[g]? =w.heap[g]?) (k2:∀ g,g∈F->w'.heap[g]? =w.heap[g]?)
 (k3:∀ g,Pb g->Pb' g) (k4:∀ g,g∈F->¬ Pb' g):RV w' Pb' v x F:=by
 cases v with
 | gv b u=>obtain⟨hF,h1,h2⟩:=h;exact⟨hF,fun hb=>fC u (h1 hb) k1 Zad k3 Zad,h2⟩
 | tup vs=>exact fC (.tup vs) h k1 k2 k3 k4
 | agg us=>exact fC (.agg us) h k1 k2 k3 k4
 | b9=>exact h
 | own sz xs g o c=>exact fC (.own sz xs g o c) h k1 k2 k3 k4
 | ow sz xs=>exact fC (.ow sz xs) h k1 k2 k3 k4
 | om es g=>exact fC (.om es g) h k1 k2 k3 k4
 | mp es=>exact fC (.mp es) h k1 k2 k3 k4
 | lit x=>exact fC (.lit x) h k1 k2 k3 k4
 | sl f xs=>exact fC (.sl f xs) h k1 k2 k3 k4
 | hd r p sz g o lo n c=>exact fC (.hd r p sz g o lo n c) h k1 k2 k3 k4
 | ptr r p g o=>exact fC (.ptr r p g o) h k1 k2 k3 k4
 | ep v=>exact fC (.ep v) h k1 k2 k3 k4
def Shp(w w':World):Prop:= ∀ (g:Nat) (c:Array Value) (e:TypeId) (fr:Nat×Nat),w.heap[g]? =some (.cells c e fr)->∃ c':Array Value,w'.heap[g]? =some (.cells c' e fr)/\c'.size=c.size
theorem Shp.refl(w:World):Shp w w:=fun _ c _ _ h=>⟨c,h,rfl⟩
theorem Shp.trans{a b c:World}(h:Shp a b)(k:Shp b c):Shp a c:=fun g x e fr hx=>by
 obtain⟨y,h1,h2⟩:=h g x e fr hx;obtain⟨z,k1,k2⟩:=k g y e fr h1;exact⟨z,k1,k2.trans h2⟩
theorem Shp.of_eq{w w':World}(h:∀ g:Nat,g<w.heap.size->w'.heap[g]? =w.heap[g]?):Shp w w':=fun g c e fr hc=>by
 have hl:g<w.heap.size:=(Zbh.1 hc).1;exact⟨c,(h g hl).trans hc,rfl⟩
structure A3 (Pb:Nat->Prop) (w w':World):Prop where
 os:w'.os=w.os
 tape:w'.tape=w.tape
 output:w'.output=w.output
 size:w.heap.size<=w'.heap.size
 block:∀ g,Pb g->w'.heap[g]? =w.heap[g]?
 shape:Shp w w'
theorem A3.refl(Pb:Nat->Prop)(w:World):A3 Pb w w:=⟨rfl,rfl,rfl,Zbc _,fun _ _=>rfl,Shp.refl _⟩
theorem A3.trans{Pb Pb':Nat->Prop}{a b c:World}(h:A3 Pb a b)(k:A3 Pb' b c)(hp:∀ g,Pb g->Pb' g):A3 Pb a c:=
 ⟨k.os.trans h.os,k.tape.trans h.tape,k.output.trans h.output,Nat.le_trans h.size k.size,fun g hg=>(k.block g (hp g hg)).trans (h.block g hg),h.shape.trans k.shape⟩
def At(w:World)(Pb:Nat->Prop)(v:V)(g o:Nat)(F:List Nat):Prop:=
 ∃ cs cells,Blk w g cells/\R w Pb v cs F/\∀ j u,cs[j]? =some u->cells[o+j]? =some u
structure u7 (N:Nat) (Pb Kb:Nat->Prop) (A:AS) (a:Act) (w:World) (F:l9->List Nat):Prop where
 size:a.tmps.size=N
 defers:a.defers=[]
 slot:∀ i,RV w Pb (A.get i) (a.tmps.getD i undef) (F (.slot i))
 root:∀ k g v,lk k A.h=some (g,v)->∃ F',F (.key k)=g::F'/\At w Pb v g 0 F'
 ck:∀ r r',r≠r'->∀ g,g∈F r->g ∉ F r'
 nodup:∀ r,(F r).Nodup
 free:∀ r g,g∈F r->¬ Kb g/\g<w.heap.size
 sub:∀ g,Pb g->Kb g
 bound:∀ g,Kb g->g<w.heap.size
def Nx(N:Nat)(Pb Kb:Nat->Prop)(w:World)(K:AS->Prop)(a':Act)(w':World):Prop:=
 ∃ A' Pb' E7 F',K A'/\u7 N Pb' E7 A' a' w' F'/\(∀ g,Pb g->Pb' g)/\(∀ g,Kb g->E7 g)/\(∀ g,Pb' g->Pb g\/¬ Kb g)/\A3 Kb w w'
def cf(F:l9->List Nat)(r:l9)(l:List Nat):l9->List Nat:=fun r'=>if r'=r then l else F r'
theorem u7.put{N:Nat} {Pb Kb:Nat->Prop} {A:AS} {a:Act} {w:World} {F:l9->List Nat} (h:u7 N Pb Kb A a w F) {d:Nat} {v:V} {x:Value} {F':List Nat}
 (hd:d<N) (hv:RV w Pb v x F') (h1:∀ r,r≠.slot d->∀ g,g∈F'->g ∉ F r) (h2:F'.Nodup) (h3:∀ g,g∈F'->¬ Kb g/\g<w.heap.size):
 u7 N Pb Kb (A.put (some d) v) (a.put (some d) x) w (cf F (.slot d) F') where
 size:=by simp[Act.put,h.size]
 defers:=by simpa[Act.put] using h.defers
 slot:=fun i=>by
  rw[AS.aB];by_cases e:i=d;subst e;simp only[if_true,cf];have hx:(a.put (some i) x).tmps.getD i undef=x:=by simp[Act.put,h.size,hd]
  rw[hx];exact hv;have hne:l9.slot i≠l9.slot d:=fun c=>e (by injection c);simp only[if_neg e,cf,if_neg hne];have hx:(a.put (some d) x).tmps.getD i undef=a.tmps.getD i undef:=by
   simp[Act.put,Array.getElem?_setIfInBounds_ne (Ne.symm e)]
  rw[hx];exact h.slot i
 root:=fun k g v hk=>by
  obtain⟨PI,e,hr⟩:=h.root k g v hk;exact⟨PI,by simpa[cf] using e,hr⟩
 ck:=fun r r' hne g hg=>by
  simp only[cf]at hg ⊢;by_cases e:r=.slot d;subst e;rw[if_neg (Ne.symm hne)];simp only[if_true]at hg;exact h1 r' (Ne.symm hne) g hg;rw[if_neg e]at hg;by_cases e':r'=.slot d;rw[if_pos e'];exact fun RU=>h1 r e g RU hg;rw[if_neg e'];exact h.ck r r' hne g hg
 nodup:=fun r=>by
  simp only[cf];split;exact h2;exact h.nodup r
 free:=fun r g hg=>by
  simp only[cf]at hg;split at hg;exact h3 g hg;exact h.free r g hg
 sub:=h.sub
 bound:=h.bound
def cB(N:Nat)(d:Option Nat):Prop:=match d with | some d=>d<N | none=>True
theorem u7.pz{N:Nat} {Pb Kb:Nat->Prop} {A:AS} {a:Act} {w:World} {F:l9->List Nat} (h:u7 N Pb Kb A a w F) {d:Option Nat} {v:V} {x:Value}
 (hd:cB N d) (hv:RV w Pb v x []):∃ F',u7 N Pb Kb (A.put d v) (a.put d x) w F':=by
 cases d with
 | none=>exact⟨F,h⟩
 | some d=>exact⟨_,h.put hd hv Zad Zad Zad⟩
def F9(P:Program)(N:Nat)(o:Oper)(A:AS)(K:AS->Prop):Prop:=
 ∀ Pb Kb a w F Q,u7 N Pb Kb A a w F->o.wp P a w (Nx N Pb Kb w K) Q
theorem hY{P:Program} {N:Nat} {o:Oper} {A:AS} {K:AS->Prop} {v:V} (hd:cB N o.dst) (hK:K (A.put o.dst v))
 (h:∀ Pb Kb a w F,u7 N Pb Kb A a w F->∃ x,(execOp a.eval o).run P w=.ok (.value x) w/\RV w Pb v x []):F9 P N o A K:=by
 intro Pb Kb a w F Q hs;obtain⟨x,hx,hr⟩:=h Pb Kb a w F hs;unfold Oper.wp;rw[hx,Oper.upon_value];obtain⟨F',A8⟩:=hs.pz hd hr;exact⟨_,Pb,Kb,F',hK,A8,fun _ h=>h,fun _ h=>h,fun _ h=>.inl h,A3.refl _ _⟩
inductive D where
 | int (k:IntKind) | bool | str | ptr (e:Nat) | sl (e:Nat) | arr (n e:Nat) | map (k e:Nat) | st (fs:List (Nat×Nat)) | other
 deriving DecidableEq
structure TI where
 sz:Nat
 N4:Nat
 d:D
def dH:TypeDesc->D
 | .int k=>.int k | .bool=>.bool | .string=>.str | .pointer e=>.ptr e | .slice e=>.sl e | .array n e=>.arr n e | .map k e=>.map k e
 | .struct fs=>.st (fs.toList.map fun f=>(f.offset,f.type))
 | _=>.other
def ti(P:Program)(T:Nat):Option TI:=match P.info? T,P.underlying T with | some i,some d=>some ⟨i.size,i.bytes,dH d⟩ | _,_=>none
def D.agg:D->Bool | .st _ | .arr _ _=>true | _=>false
theorem jv{P:Program}{T:Nat}{i:TI}(h:ti P T=some i):∃ inf d,P.info? T=some inf/\P.underlying T=some d/\inf.size=i.sz/\inf.bytes=i.N4/\dH d=i.d:=by
 unfold ti at h;cases h1:P.info? T with
 | none=>simp[h1]at h
 | some inf=>cases h2:P.underlying T with
   | none=>simp[h1,h2]at h
   | some d=>simp[h1,h2]at h;subst h;exact⟨inf,d,rfl,rfl,rfl,rfl,rfl⟩
def Vc:Value->V
 | .slice none 0 0=>.sl true []
 | x=>.lit x
def cV:Value->V
 | .agg cs=>if cs.toList.all (·.oneCell') then .agg (cs.toList.map Vc) else .b9
 | .tuple _=>.b9
 | x=>Vc x
def AS.ev(A:AS):Operand->V
 | .tmp i=>A.get i
 | .const v=>cV v
 | .global g=>.ptr (.key (9000+g)) [] g 0
 | .func f=>.lit (.func (.func f) #[] #[])
mutual
def V.S6(r:l9)(p:List Nat):V->V
 | .own sz xs g o c=>.hd r p sz g o 0 xs.length c
 | .ow .. =>.b9
 | .om _ g=>.lit (.map (some g))
 | .agg vs=>.agg (V.GY r p 0 vs)
 | v=>v
def V.GY(r:l9)(p:List Nat)(j:Nat):List V->List V
 | []=>[]
 | v::vs=>v.S6 r (p++[j])::V.GY r p (j+1) vs
end
mutual
def V.df:V->Bool
 | .own .. =>true
 | .ow .. =>true
 | .om .. =>true
 | .agg vs=>V.ax vs
 | .tup vs=>V.ax vs
 | _=>false
def V.ax:List V->Bool
 | []=>false
 | v::vs=>v.df||V.ax vs
end
def V.cp(r:l9):V->V
 | .tup _=>.b9
 | .gv _ _=>.b9
 | v=>v.S6 r []
def CT(A:AS)(x:Operand)(y:V):V:=
 match A.ev x with
 | .tup vs=>if V.ax vs=true then .b9 else .tup vs
 | _=>y
def AS.cp(A:AS):Operand->V
 | .tmp i=>(A.get i).cp (.slot i)
 | x=>A.ev x
def jQ(op:BinOp)(k:IntKind)(a b:Int):Option (Prop×V):=
 match op with
 | .add=>some (True,.lit (.int k (k.wrap (a+b))))
 | .sub=>some (True,.lit (.int k (k.wrap (a-b))))
 | .mul=>some (True,.lit (.int k (k.wrap (a*b))))
 | .quo=>some (b≠0,.lit (.int k (k.wrap (a.tdiv b))))
 | .rem=>some (b≠0,.lit (.int k (a.tmod b)))
 | .eql=>some (True,.lit (.bool (a==b)))
 | .neq=>some (True,.lit (.bool (a != b)))
 | .lss=>some (True,.lit (.bool (decide (a<b))))
 | .leq=>some (True,.lit (.bool (decide (a<=b))))
 | .gtr=>some (True,.lit (.bool (decide (a>b))))
 | .geq=>some (True,.lit (.bool (decide (a>=b))))
 | .and=>some (True,.lit (.int k (k.wrap ((BitVec.ofInt k.bits a &&& BitVec.ofInt k.bits b).toNat))))
 | .xor=>some (True,.lit (.int k (k.wrap ((BitVec.ofInt k.bits a ^^^ BitVec.ofInt k.bits b).toNat))))
 | .shr=>some (0<=b,.lit (.int k (a.fdiv (2 ^ min b.toNat k.bits))))
 | .shl=>some (0<=b,.lit (.int k (k.wrap (a*2 ^ min b.toNat k.bits))))
 | _=>none
def S1(k:IntKind)(n:Int):Prop:=
 match k with
 | .i64=> -9223372036854775808<=n/\n<=9223372036854775807
 | .i32=> -2147483648<=n/\n<=2147483647
 | .u8=>0<=n/\n<=255
 | k=>k.wrap n=n
def wy(op:BinOp)(k:IntKind)(a b:Int):Option (Prop×V):=
 match op with
 | .add=>some (S1 k (a+b),.lit (.int k (a+b)))
 | .sub=>some (S1 k (a-b),.lit (.int k (a-b)))
 | .mul=>some (S1 k (a*b),.lit (.int k (a*b)))
 | .quo=>some (0<=a/\0<b/\S1 k a,.lit (.int k (a / b)))
 | .rem=>some (0<=a/\0<b,.lit (.int k (a % b)))
 | .and=>some (0<=a/\0<=b/\S1 k a/\S1 k b,.lit (.int k ((a.toNat &&& b.toNat:Nat):Int)))
 | .xor=>some (0<=a/\0<=b/\S1 k a/\S1 k b,.lit (.int k ((a.toNat ^^^ b.toNat:Nat):Int)))
 | .shr=>some (0<=b/\b<k.bits,.lit (.int k (a.fdiv (2 ^ b.toNat))))
 | op=>jQ op k a b
def xd(op:BinOp)(a b:ByteArray):Option (Prop×V):=
 match op with
 | .add=>some (a.size+b.size<=4611686018427387904,.lit (.string (a++b)))
 | .eql=>some (True,.lit (.bool (a.toList==b.toList)))
 | .neq=>some (True,.lit (.bool (!(a.toList==b.toList))))
 | _=>none
def CO(op:BinOp)(a b:Bool):Option (Prop×V):=
 match op with
 | .eql=>some (True,.lit (.bool (a==b)))
 | .neq=>some (True,.lit (.bool (!(a==b))))
 | _=>none
def uq(op:BinOp)(d:Option D)(x y:V):Option (Prop×V):=
 match d,x,y with
 | some (.int _),.lit (.int k a),.lit (.int k' b)=>if op=.shr\/op=.shl then wy op k a b else if k=k' then wy op k a b else none
 | some .str,.lit (.string a),.lit (.string b)=>xd op a b
 | some .bool,.lit (.bool a),.lit (.bool b)=>CO op a b
 | _,_,_=>none
def Zs(op:UnOp)(x:V):Option (Prop×V):=
 match op,x with
 | .not,.lit (.bool b)=>some (True,.lit (.bool (!b)))
 | .neg,.lit (.int k n)=>some (S1 k (-n),.lit (.int k (-n)))
 | _,_=>none
def tD(P:Program)(T:Nat):Option D:=(ti P T).map (·.d)
def Zk:V->Bool×V
 | .gv b v=>(b,v)
 | v=>(true,v)
def CY(A:AS)(a b:Operand):V->Option (Prop×V)
 | .lit (.bool c)=>match Zk (A.ev a),Zk (A.ev b) with
   | (ga,.lit (.bool x)),(gb,.lit (.bool y))=>some ((c=true->ga=true)/\(c=false->gb=true),.lit (.bool (cond c x y)))
   | _,_=>none
 | _=>none
def Ij:Option D->Option D->V->Option (Prop×V)
 | some (.int _),some (.int k),.lit (.int _ n)=>some (S1 k n,.lit (.int k n))
 | some .str,some .str,.lit (.string s)=>some (True,.lit (.string s))
 | _,_,_=>none
def btV(s:ByteArray)(i:Int):V:=.lit (.int .u8 (s.data.getD i.toNat 0).toNat)
def GR:Option D->V->V->Option (Prop×V)
 | some .str,.lit (.string s),.lit (.int _ i)=>some (0<=i/\i<s.size,btV s i)
 | _,_,_=>none
def Wu:Option V->Option Int
 | none=>some 0
 | some (.lit (.int _ l))=>some l
 | _=>none
def VX(n:Nat):Option V->Option Int
 | none=>some n
 | some (.lit (.int _ l))=>some l
 | _=>none
def GW(s:ByteArray)(lo hi:Option V):Option (Prop×V):=
 match Wu lo,VX s.size hi with
 | some l,some h=>some (0<=l/\l<=h/\h<=s.size,.lit (.string (s.extract l.toNat h.toNat)))
 | _,_=>none
def CK(d:Option D)(x:V)(lo hi:Option V):Option (Prop×V):=
 match d,x with
 | some .str,.lit (.string s)=>GW s lo hi
 | _,_=>none
def zR:Option D->V->Option (Prop×V)
 | some .str,.lit (.string s)=>some (True,.lit (.int .i64 s.size))
 | some (.sl _),.sl _ xs=>some (True,.lit (.int .i64 xs.length))
 | some (.sl _),.own _ xs _ _ _=>some (True,.lit (.int .i64 xs.length))
 | some (.sl _),.hd _ _ _ _ _ _ n _=>some (True,.lit (.int .i64 n))
 | _,_=>none
def Gz:V->Nat->Option (Prop×V)
 | .tup vs,i=>match vs[i]? with
   | some v=>if v.df then none else some (True,v)
   | none=>none
 | _,_=>none
def DJ:V->V->Option (Prop×V)
 | .lit (.int k a),.lit (.int k' b)=>if k=k' then some (True,.lit (.int k (max a b))) else none
 | _,_=>none
def vn(P:Program)(A:AS)(c:Call):Option (Prop×V):=
 match c.callee with
 | .builtin .len=>match c.args.toList,c.argTypes.toList with
   | [x],[T]=>zR (tD P T) (A.ev x)
   | _,_=>none
 | .builtin .max=>match c.args.toList with
   | [x,y]=>DJ (A.ev x) (A.ev y)
   | _=>none
 | _=>none
def Rq(P:Program)(A:AS):Op->Option (Prop×V)
 | .move x=>some (True,CT A x (A.cp x))
 | .pick c a b=>CY A a b (A.ev c)
 | .binOp op T x y _=>uq op (tD P T) (A.ev x) (A.ev y)
 | .unOp op _ x=>Zs op (A.ev x)
 | .convert s d x=>Ij (tD P s) (tD P d) (A.ev x)
 | .index T x i=>GR (tD P T) (A.ev x) (A.ev i)
 | .slice T x lo hi none=>CK (tD P T) (A.ev x) (lo.map A.ev) (hi.map A.ev)
 | .call c=>vn P A c
 | .extract x i=>Gz (A.ev x) i
 | _=>none
section
variable {w:World} {Pb:Nat->Prop}
mutual
theorem kA(r:l9):∀ (v:V) (p:List Nat) {cs F},R w Pb v cs F->R w Pb (v.S6 r p) cs []
 | .own sz xs g o c,p,cs,F,h=>by
   rcases h with ⟨h1,h2,h3,A,h4⟩ | ⟨h1,h2,h3,h4,_⟩;subst h1 h2;exact⟨rfl,Zbc _,A,h4,fun h=>absurd h Zac⟩;exact⟨rfl,h3,_,h4,fun _=>by simp⟩
 | .ow ..,_,_,_,h=>by
   obtain⟨g,o,c,h⟩:=h;rcases h with ⟨h1,h2,h3,A,h4⟩ | ⟨h1,h2,h3,h4,_⟩;exact⟨rfl,_,h4,rfl⟩;exact⟨rfl,_,h4,rfl⟩
 | .om ..,_,_,_,h=>⟨rfl,h.2.1,rfl⟩
 | .mp ..,_,_,_,h=>⟨rfl,h.2⟩
 | .agg vs,p,cs,F,h=>by simp only[R,V.S6]at h ⊢;exact Ah r vs p 0 h
 | .tup _,_,_,_,h=>by simp[R]at h
 | .gv _ _,_,_,_,h=>by simp[R]at h
 | .lit x,_,_,_,h=>⟨h.1,h.2.1,rfl⟩
 | .sl ..,_,_,_,h=>⟨rfl,h.2⟩
 | .hd ..,_,_,_,h=>⟨rfl,h.2⟩
 | .ptr ..,_,_,_,h=>⟨rfl,h.2⟩
 | .ep _,_,_,_,h=>⟨rfl,h.2⟩
 | .b9,_,_,_,h=>⟨rfl,h.2⟩
theorem Ah(r:l9):∀ (vs:List V) (p:List Nat) (j:Nat) {cs F},RL w Pb vs cs F->RL w Pb (V.GY r p j vs) cs []
 | [],_,_,_,_,h=>⟨h.1,rfl⟩
 | v::vs,p,j,cs,F,h=>by
   obtain⟨c1,c2,F1,F2,rfl,_,h1,h2⟩:=h;exact⟨c1,c2,[],[],rfl,rfl,kA r v _ h1,Ah r vs p (j+1) h2⟩
end
mutual
theorem je:∀ (v:V) {cs F},v.df=false->R w Pb v cs F->F=[]
 | .own ..,_,_,ho,_=>by simp[V.df]at ho
 | .ow ..,_,_,ho,_=>by simp[V.df]at ho
 | .om ..,_,_,ho,_=>by simp[V.df]at ho
 | .mp ..,_,_,_,h=>h.1
 | .agg vs,_,_,ho,h=>by simp only[R]at h;exact gg vs (by simpa[V.df] using ho) h
 | .tup _,_,_,_,h=>by simp[R]at h
 | .gv _ _,_,_,_,h=>by simp[R]at h
 | .lit x,_,_,_,h=>h.2.2
 | .sl ..,_,_,_,h=>h.1
 | .hd ..,_,_,_,h=>h.1
 | .ptr ..,_,_,_,h=>h.1
 | .ep _,_,_,_,h=>h.1
 | .b9,_,_,_,h=>h.1
theorem gg:∀ (vs:List V) {cs F},V.ax vs=false->RL w Pb vs cs F->F=[]
 | [],_,_,_,h=>h.2
 | v::vs,_,_,ho,h=>by
   obtain⟨c1,c2,F1,F2,_,rfl,h1,h2⟩:=h;simp only[V.ax,Bool.or_eq_false_iff]at ho;rw[je v ho.1 h1,gg vs ho.2 h2];rfl
end
theorem tC:∀ (vs:List V) {xs F},V.ax vs=false->RVs w Pb vs xs F->F=[]
 | [],_,_,_,h=>h.2
 | v::vs,_,_,ho,h=>by
   obtain⟨x,xs',F1,F2,_,rfl,h1,h2⟩:=h;simp only[V.ax,Bool.or_eq_false_iff]at ho;rw[tC vs ho.2 h2];cases v with
   | agg us=>obtain⟨cs,_,h1⟩:=h1;rw[gg us (by simpa[V.df] using ho.1) h1];rfl
   | b9=>rw[h1];rfl
   | tup _=>simp[R]at h1
   | gv _ _=>simp[R]at h1
   | _=>rw[je _ ho.1 h1];rfl
theorem Mc{v:V}{x:Value}{F:List Nat}(r:l9)(h:RV w Pb v x F):RV w Pb (v.cp r) x []:=by
 cases v with
 | tup _=>rfl
 | gv _ _=>rfl
 | agg us=>obtain⟨cs,e,h⟩:=h;exact⟨cs,e,Ah r us [] 0 h⟩
 | b9=>rfl
 | own sz xs g o c=>exact kA (w:=w) (Pb:=Pb) r (.own sz xs g o c) [] h
 | ow sz xs=>rfl
 | om es g=>exact kA (w:=w) (Pb:=Pb) r (.om es g) [] h
 | mp es=>exact kA (w:=w) (Pb:=Pb) r (.mp es) [] h
 | lit x=>exact kA (w:=w) (Pb:=Pb) r (.lit x) [] h
 | sl f xs=>exact kA (w:=w) (Pb:=Pb) r (.sl f xs) [] h
 | hd r' p sz g o lo n c=>exact kA (w:=w) (Pb:=Pb) r (.hd r' p sz g o lo n c) [] h
 | ptr r' p g o=>exact kA (w:=w) (Pb:=Pb) r (.ptr r' p g o) [] h
 | ep v=>exact kA (w:=w) (Pb:=Pb) r (.ep v) [] h
theorem Iu{x:Value}(h:x.oneCell'=true):R w Pb (Vc x) [x] []:=by
 unfold Vc;split;exact⟨rfl,none,0,rfl,Zbc _,fun _=>rfl,.inl rfl⟩;exact⟨h,rfl,rfl⟩
theorem DV:∀ (l:List Value),l.all (·.oneCell')=true->RL w Pb (l.map Vc) l []
 | [],_=>⟨rfl,rfl⟩
 | x::l,h=>by
   simp only[List.all_cons,Zao]at h;exact⟨[x],l,[],[],rfl,rfl,Iu h.1,DV l h.2⟩
theorem rQ(x:Value):RV w Pb (cV x) x []:=by
 cases x with
 | agg cs=>
   unfold cV;by_cases h:cs.toList.all (·.oneCell')=true;simp only[h,if_true];exact⟨cs,rfl,DV _ h⟩;simp only[h];rfl
 | tuple _=>rfl
 | slice a n c=>
   have h:=Iu (w:=w) (Pb:=Pb) (x:=.slice a n c) rfl;unfold cV;simp only;revert h;unfold Vc;split <;> exact fun h=>h
 | _=>exact⟨rfl,rfl,rfl⟩
variable {N:Nat} {Kb:Nat->Prop} {A:AS} {a:Act} {F:l9->List Nat}
theorem dS(h:u7 N Pb Kb A a w F)(x:Operand):∃ Fx,RV w Pb (A.ev x) (a.eval x) Fx:=by
 cases x with
 | tmp i=>exact⟨_,h.slot i⟩
 | const v=>exact⟨[],rQ v⟩
 | global g=>exact⟨[],rfl,rfl⟩
 | func f=>exact⟨[],rfl,rfl,rfl⟩
theorem bX(h:u7 N Pb Kb A a w F){x:Operand}{y:Value}(e:A.ev x=.lit y):a.eval x=y:=by
 obtain⟨Fx,hr⟩:=dS h x;rw[e]at hr;have:=hr.2.1;simpa using this
theorem pZ(h:u7 N Pb Kb A a w F)(x:Operand):RV w Pb (A.cp x) (a.eval x) []:=by
 cases x with
 | tmp i=>exact Mc (.slot i) (h.slot i)
 | const v=>exact rQ v
 | global g=>exact⟨rfl,rfl⟩
 | func f=>exact⟨rfl,rfl,rfl⟩
variable {P:Program}
theorem aH{T:Nat}{d:TypeDesc}(h:P.underlying T=some d):(underlying T).run P w=.ok d w:=by
 simp[underlying,h]
theorem cP{T:Nat}{d:D}(h:tD P T=some d):∃ td,P.underlying T=some td/\dH td=d:=by
 unfold tD at h;cases hi:ti P T with
 | none=>simp[hi]at h
 | some i=>
   obtain⟨inf,td,_,h2,_,_,h5⟩:=jv hi;simp[hi]at h;exact⟨td,h2,h5.trans h⟩
theorem sQ(op:BinOp)(T:Nat)(x y:Operand){u v:Value}(hu:∀ cs,u≠.agg cs)(hn:u≠.nilIface):(eqGuard op T x y u v).run P w=.ok () w:=by
 unfold eqGuard;cases op <;> first | rfl | (cases u <;> first | (exact absurd rfl hn) | (exact absurd rfl (hu _)) | rfl)
theorem Hd{op:BinOp}{k:IntKind}{p q:Int}{C:Prop}{v:V}(h:jQ op k p q=some (C,v))(hC:C){T:Nat}(hs:op=.shr\/op=.shl->∀ yk,∃ x,(binOp op T (.int k p) (.int yk q)).run P w=.ok x w/\v=.lit x/\x.oneCell'=true):
 ∃ x,(binOp op T (.int k p) (.int k q)).run P w=.ok x w/\v=.lit x/\x.oneCell'=true:=by
 cases op <;> simp only[jQ,Zan,Zaq,reduceCtorEq]at h <;> obtain⟨rfl,rfl⟩:=h
 all_goals first
  | exact hs (.inl rfl) k
  | exact hs (.inr rfl) k
  | (refine⟨_,?_,rfl,rfl⟩
     simp only[binOp,ne_eq,not_true_eq_false,if_false];first | rfl | (unfold Op.intDiv;rw[if_neg hC];rfl))
theorem DQ{op:BinOp}(ho:op=.shr\/op=.shl){k yk:IntKind}{p q:Int}{C:Prop}{v:V}(h:jQ op k p q=some (C,v))(hC:C){T:Nat}:
 ∃ x,(binOp op T (.int k p) (.int yk q)).run P w=.ok x w/\v=.lit x/\x.oneCell'=true:=by
 rcases ho with rfl | rfl <;> simp only[jQ,Zan,Zaq]at h <;> obtain⟨rfl,rfl⟩:=h <;>
  exact⟨_,by simp[binOp,Op.shift,Int.not_lt.2 hC],rfl,rfl⟩
theorem uC{T:Nat}(hu:P.underlying T=some .bool)(p q:Bool):(Op.equal T (.bool p) (.bool q)).run P w=.ok (p==q) w:=by
 obtain⟨n,hn⟩:∃ n,Op.maxDepth=n+1:=⟨9999,rfl⟩;unfold Op.equal;rw[hn];simp only[Op.equalIn,Za0,aH hu,Zas,Za1]
theorem lg{k:IntKind}{n:Int}(h:S1 k n):k.wrap n=n:=by
 cases k <;> simp only[S1]at h <;> first | exact h | (simp only[IntKind.wrap,IntKind.bits,IntKind.signed,Bool.true_and,Bool.false_and];split <;> simp_all <;> omega)
def XD(k:IntKind):Nat:=if k.signed then k.bits-1 else k.bits
theorem FB(k:IntKind):2 ^ XD k<=2 ^ k.bits:=Nat.pow_le_pow_right Zaf (by unfold XD;split <;> omega)
theorem uB{k:IntKind}{m:Nat}(h:m<2 ^ XD k):k.wrap (m:Int)=m:=by
 unfold IntKind.wrap;cases k <;> simp[XD,IntKind.bits,IntKind.signed]at h ⊢ <;> omega
theorem nq{k:IntKind}{n:Int}(h:S1 k n)(h0:0<=n):n.toNat<2 ^ XD k:=by
 have hw:=lg h;obtain⟨q,rfl⟩:=Int.eq_ofNat_of_zero_le h0;unfold IntKind.wrap at hw;cases k <;> simp[IntKind.bits,IntKind.signed,XD]at hw ⊢ <;> (try split at hw) <;> omega
theorem xh{op:BinOp}{k:IntKind}{p q:Int}{C:Prop}{v:V}(h:wy op k p q=some (C,v))(hC:C):∃ C',jQ op k p q=some (C',v)/\C':=by
 cases op <;> simp only[wy,Zan,Zaq]at h
 case add=>obtain⟨rfl,rfl⟩:=h;exact⟨_,by simp only[jQ,lg hC],trivial⟩
 case sub=>obtain⟨rfl,rfl⟩:=h;exact⟨_,by simp only[jQ,lg hC],trivial⟩
 case mul=>obtain⟨rfl,rfl⟩:=h;exact⟨_,by simp only[jQ,lg hC],trivial⟩
 case quo=>
  obtain⟨rfl,rfl⟩:=h;obtain⟨h0,h1,h2⟩:=hC;refine⟨_,?_,show q≠0 by omega⟩;have e:p.tdiv q=p / q:=Int.tdiv_eq_ediv_of_nonneg h0;have hd:0<=p / q:=Int.ediv_nonneg h0 Zac;have hle:p / q<=p:=Int.ediv_le_self _ h0;have hb:=nq h2 h0;have:=uB (k:=k) (m:=(p / q).toNat) Zac;rw[Int.toNat_of_nonneg hd]at this;simp only[jQ,e,this]
 case rem=>
  obtain⟨rfl,rfl⟩:=h;obtain⟨h0,h1⟩:=hC;refine⟨_,?_,show q≠0 by omega⟩;simp only[jQ,Int.tmod_eq_emod_of_nonneg h0]
 case and=>
  obtain⟨rfl,rfl⟩:=h;obtain⟨h0,h1,h2,h3⟩:=hC;refine⟨_,?_,trivial⟩;obtain⟨a,rfl⟩:=Int.eq_ofNat_of_zero_le h0;obtain⟨b,rfl⟩:=Int.eq_ofNat_of_zero_le h1;have ha:=nq h2 h0;have hb:=nq h3 h1;have hk:=FB k;simp only[Int.toNat_natCast]at ha hb;have e:(BitVec.ofInt k.bits (a:Int) &&& BitVec.ofInt k.bits (b:Int)).toNat=a &&& b:=by
   simp only[BitVec.toNat_and,BitVec.toNat_ofInt];rw[Int.emod_eq_of_lt Zac (by exact_mod_cast Nat.lt_of_lt_of_le ha hk),Int.emod_eq_of_lt Zac (by exact_mod_cast Nat.lt_of_lt_of_le hb hk)];rfl
  have:=uB (k:=k) (m:=a &&& b) (Nat.lt_of_le_of_lt Nat.and_le_left ha);simp only[jQ,e,this,Int.toNat_natCast]
 case xor=>
  obtain⟨rfl,rfl⟩:=h;obtain⟨h0,h1,h2,h3⟩:=hC;refine⟨_,?_,trivial⟩;obtain⟨a,rfl⟩:=Int.eq_ofNat_of_zero_le h0;obtain⟨b,rfl⟩:=Int.eq_ofNat_of_zero_le h1;have ha:=nq h2 h0;have hb:=nq h3 h1;have hk:=FB k;simp only[Int.toNat_natCast]at ha hb;have e:(BitVec.ofInt k.bits (a:Int) ^^^ BitVec.ofInt k.bits (b:Int)).toNat=a ^^^ b:=by
   simp only[BitVec.toNat_xor,BitVec.toNat_ofInt];rw[Int.emod_eq_of_lt Zac (by exact_mod_cast Nat.lt_of_lt_of_le ha hk),Int.emod_eq_of_lt Zac (by exact_mod_cast Nat.lt_of_lt_of_le hb hk)];rfl
  have:=uB (k:=k) (m:=a ^^^ b) (Nat.xor_lt_two_pow ha hb);simp only[jQ,e,this,Int.toNat_natCast]
 case shr=>
  obtain⟨rfl,rfl⟩:=h;obtain⟨h1,h2⟩:=hC;refine⟨_,?_,h1⟩;have:min q.toNat k.bits=q.toNat:=Zac;simp only[jQ,this]
 all_goals exact⟨_,h,hC⟩
theorem Gu{op:BinOp}{x y:V}{C:Prop}{v:V}{T:Nat}(h:uq op (tD P T) x y=some (C,v))(hC:C):
 ∃ u u',x=.lit u/\y=.lit u'/\(∀ cs,u≠.agg cs)/\u≠.nilIface/\∃ z,(binOp op T u u').run P w=.ok z w/\v=.lit z/\z.oneCell'=true:=by
 unfold uq at h;split at h;rename_i k p k' q _;refine⟨_,_,rfl,rfl,Zad,Zad,?_⟩;split at h;rename_i ho;obtain⟨C',h',hC'⟩:=xh h hC;exact DQ ho h' hC';rename_i ho;split at h;rename_i hk;subst hk;obtain⟨C',h',hC'⟩:=xh h hC;exact Hd h' hC' (fun h=>absurd h ho);simp at h;rename_i p q _;refine⟨_,_,rfl,rfl,Zad,Zad,?_⟩;cases op <;> simp only[xd,Zan,Zaq,reduceCtorEq]at h <;> obtain⟨rfl,rfl⟩:=h;refine⟨_,?_,rfl,rfl⟩;have: ¬ (((p.size+q.size:Nat):Int)>IntKind.i64.max):=by
  have:IntKind.i64.max=9223372036854775807:=Zaf;omega
 simp only[binOp,Op.stringOp,if_neg this,Za1];exact⟨_,rfl,rfl,rfl⟩;exact⟨_,rfl,rfl,rfl⟩;rename_i p q hT;refine⟨_,_,rfl,rfl,Zad,Zad,?_⟩;obtain⟨td,hu,hd⟩:=cP hT;have htd:td=.bool:=by cases td <;> simp[dH]at hd ⊢
 subst htd;cases op <;> simp only[CO,Zan,Zaq,reduceCtorEq]at h <;> obtain⟨rfl,rfl⟩:=h;exact⟨_,by simp only[binOp,Za0,uC hu,Zas,Za1],rfl,rfl⟩;exact⟨_,by simp only[binOp,Za0,uC hu,Zas,Za1],rfl,rfl⟩;simp at h
theorem dq{x:Value}(h:x.oneCell'=true):RV w Pb (.lit x) x []:=⟨h,rfl,rfl⟩
theorem Al(h:u7 N Pb Kb A a w F){lo:Option Operand}{l:Int}(hl:Wu (lo.map A.ev)=some l):(lo=none/\l=0)\/∃ k,(lo.map a.eval)=some (.int k l):=by
 cases lo with
 | none=>simp[Wu]at hl;exact .inl ⟨rfl,hl.symm⟩
 | some x=>
   right;simp only[Option.map_some,Wu]at hl;cases hx:A.ev x with
   | lit y=>
     cases y with
     | int k l'=>rw[hx]at hl;simp at hl;subst hl;exact⟨k,by simp[bX h hx]⟩
     | _=>rw[hx]at hl;simp at hl
   | _=>rw[hx]at hl;simp at hl
theorem wX(h:u7 N Pb Kb A a w F){n:Nat}{hi:Option Operand}{l:Int}(hl:VX n (hi.map A.ev)=some l):(hi=none/\l=n)\/∃ k,(hi.map a.eval)=some (.int k l):=by
 cases hi with
 | none=>simp[VX]at hl;exact .inl ⟨rfl,hl.symm⟩
 | some x=>
   right;simp only[Option.map_some,VX]at hl;cases hx:A.ev x with
   | lit y=>
     cases y with
     | int k l'=>rw[hx]at hl;simp at hl;subst hl;exact⟨k,by simp[bX h hx]⟩
     | _=>rw[hx]at hl;simp at hl
   | _=>rw[hx]at hl;simp at hl
theorem jr{k:IntKind}{i:Int}{y:Nat}{code:BoundsCode}(h0:0<=i)(h1:i<=y):(Instr.sliceBound (.int k i) y code).run P w=.ok i.toNat w:=by
 simp[Instr.sliceBound,asIntOf,h0,h1]
theorem kS{sl:Bool} {n c:Nat} {lo hi:Option Value} {l h:Int} (hlo:(lo=none/\l=0)\/∃ k,lo=some (.int k l)) (hhi:(hi=none/\h=n)\/∃ k,hi=some (.int k h))
 (h0:0<=l) (h1:l<=h) (h2:h<=(c:Nat)) (hn:n<=c):(Instr.sliceBounds sl n c lo hi none).run P w=.ok (l.toNat,h.toNat,c) w:=by
 have hb:(h.toNat:Int)=h:=Int.toNat_of_nonneg Zac;rcases hlo with ⟨rfl,rfl⟩ | ⟨k,rfl⟩ <;> rcases hhi with ⟨rfl,rfl⟩ | ⟨k',rfl⟩;simp[Instr.sliceBounds];simp only[Instr.sliceBounds,Za0,Za1,Zas,jr (w:=w) (P:=P) (k:=k') (code:=if sl then .sliceAcap else .sliceAlen) (show 0<=h by omega) h2];rfl;simp only[Instr.sliceBounds,Za0,Za1,Zas,Option.isSome,Bool.false_eq_true,if_false,jr (w:=w) (P:=P) (k:=k) (y:=n) (code:=.sliceB) h0 h1];rfl
 simp only[Instr.sliceBounds,Za0,Za1,Zas,Option.isSome,Bool.false_eq_true,if_false,jr (w:=w) (P:=P) (k:=k') (code:=if sl then .sliceAcap else .sliceAlen) (show 0<=h by omega) h2,
  jr (w:=w) (P:=P) (k:=k) (y:=h.toNat) (code:=.sliceB) h0 Zac]
theorem BJ:∀ (vs:List V) {xs:List Value} {F:List Nat} {i:Nat} {v:V},RVs w Pb vs xs F->vs[i]? =some v->v.df=false->∃ x,xs[i]? =some x/\RV w Pb v x []
 | [],_,_,_,_,_,h,_=>by simp at h
 | v::vs,xs,F,0,u,h,hi,ho=>by
     obtain⟨x,xs',F1,F2,rfl,rfl,h1,h2⟩:=h;simp at hi;subst hi;refine⟨x,rfl,?_⟩;cases v with
     | agg us=>obtain⟨cs,e,h1⟩:=h1;exact⟨cs,e,by rw[gg us (by simpa[V.df] using ho) h1]at h1;exact h1⟩
     | b9=>rfl
     | tup us=>simp[R]at h1
     | gv _ _=>simp[R]at h1
     | own=>simp[V.df]at ho
     | ow=>simp[V.df]at ho
     | om=>simp[V.df]at ho
     | mp=>exact⟨rfl,h1.2⟩
     | lit=>exact⟨h1.1,h1.2.1,rfl⟩
     | sl=>exact⟨rfl,h1.2⟩
     | hd=>exact⟨rfl,h1.2⟩
     | ptr=>exact⟨rfl,h1.2⟩
     | ep=>exact⟨rfl,h1.2⟩
 | v::vs,xs,F,i+1,u,h,hi,ho=>by
     obtain⟨x,xs',F1,F2,rfl,rfl,h1,h2⟩:=h;obtain⟨y,hy,hr⟩:=BJ vs h2 Zbn ho;exact⟨y,by simpa using hy,hr⟩
theorem Cd{op:Op}{C:Prop}{v:V}(h:Rq P A op=some (C,v))(hC:C)(hs:u7 N Pb Kb A a w F){o:Oper}(ho:o.op=op):
 ∃ x,(execOp a.eval o).run P w=.ok (.value x) w/\RV w Pb v x []:=by
 obtain⟨dst,op',ty,pos,after,guard⟩:=o;subst ho;unfold Rq at h;split at h;rename_i x OW;subst OW;simp at h;obtain⟨_,rfl⟩:=h;refine⟨_,rfl,?_⟩;unfold CT;split;rename_i vs e;obtain⟨Fx,hr⟩:=dS hs x;rw[e]at hr;split;rfl;rename_i ho;obtain⟨xs,hx,hr⟩:=hr;have hF:=tC vs (by simpa using ho) hr;subst hF;exact⟨xs,hx,hr⟩;exact pZ hs x
 · rename_i c p q OW;subst OW;unfold CY at h;split at h
   case h_2=>simp at h
   · rename_i c' e;split at h
     case h_2=>simp at h
     rename_i ga x gb y ea eb;simp only[Zan,Zaq]at h;obtain⟨rfl,rfl⟩:=h;have ex:∀ (z:Operand) (g b:Bool),Zk (A.ev z)=(g,.lit (.bool b))->g=true->a.eval z=.bool b:=fun z g b hz hg=>by
      obtain⟨Fx,hr⟩:=dS hs z;unfold Zk at hz;split at hz;rename_i b' v' e';simp only[Zaq]at hz;obtain⟨rfl,rfl⟩:=hz;rw[e']at hr;have:=(hr.2.1 hg).2.1;simpa using this;simp only[Zaq]at hz;rw[hz.2]at hr;have:=hr.2.1;simpa using this
     simp only[execOp,bX hs e,asBool,Za0,Za1,Zas];cases c';exact⟨.bool y,by simp[ex q gb y eb (hC.2 rfl)],dq rfl⟩;exact⟨.bool x,by simp[ex p ga x ea (hC.1 rfl)],dq rfl⟩
 rename_i op T x y _ OW;subst OW;obtain⟨u,u',hx,hy,hu,hn,z,hz,rfl,h1⟩:=Gu (w:=w) (P:=P) h hC;refine⟨z,?_,dq h1⟩;simp only[execOp,bX hs hx,bX hs hy,Za0,sQ op T x y hu hn,Zas,hz,Za1];rename_i op T x OW;subst OW;unfold Zs at h;split at h <;> simp only[Zan,Zaq,reduceCtorEq]at h;rename_i b e;obtain⟨_,rfl⟩:=h;exact⟨_,by simp only[execOp,bX hs e];rfl,dq rfl⟩;rename_i k n e;obtain⟨rfl,rfl⟩:=h;exact⟨_,by simp only[execOp,bX hs e];rw[show -n=IntKind.wrap k (0-n) by rw[Int.zero_sub];exact(lg hC).symm];rfl,dq rfl⟩;rename_i s d x OW;subst OW;unfold Ij at h;split at h <;> simp only[Zan,Zaq,reduceCtorEq]at h;rename_i k0 k k1 n A8 VY e;obtain⟨rfl,rfl⟩:=h;obtain⟨td,hu,hd⟩:=cP A8;obtain⟨Zv,WE,VY⟩:=cP VY;cases td <;> simp[dH]at hd;cases Zv <;> simp[dH]at VY;subst hd VY;exact⟨.int _ (IntKind.wrap _ n),by simp only[execOp,bX hs e,convert,Za0,aH hu,aH WE,Zas];rfl,by rw[lg hC];exact dq rfl⟩;rename_i s' A8 VY e;obtain⟨_,rfl⟩:=h;obtain⟨td,hu,hd⟩:=cP A8;obtain⟨Zv,WE,VY⟩:=cP VY;cases td <;> simp[dH]at hd;cases Zv <;> simp[dH]at VY;exact⟨_,by simp only[execOp,bX hs e,convert,Za0,aH hu,aH WE,Zas];rfl,dq rfl⟩;rename_i T x i OW;subst OW;unfold GR at h;split at h <;> simp only[Zan,Zaq,reduceCtorEq]at h;rename_i s k i' A8 e e';obtain⟨rfl,rfl⟩:=h;obtain⟨td,hu,hd⟩:=cP A8;cases td <;> simp[dH]at hd;obtain⟨h0,h1⟩:=hC;have hlt:i'.toNat<s.size:=Zac;refine⟨.int .u8 (s.data.getD i'.toNat 0).toNat,?_,dq rfl⟩;have hg:s[i'.toNat]? =some (s.data.getD i'.toNat 0):=by
  rw[getElem?_pos s i'.toNat hlt];have U2:i'.toNat<s.data.size:=hlt;simp only[Array.getD,dif_pos U2];rfl
 simp only[execOp,bX hs e,bX hs e',Instr.index,asIntOf,Za0,aH hu,Za1,Zas,if_pos h0,hg];rename_i T x lo hi OW;subst OW;unfold CK at h;split at h;rename_i s A8 e;unfold GW at h;obtain⟨td,hu,hd⟩:=cP A8;cases td <;> simp[dH]at hd;split at h;rename_i l h' hl hh;simp only[Zan,Zaq]at h;obtain⟨rfl,rfl⟩:=h;obtain⟨h0,h1,h2⟩:=hC;have b1:=Al hs hl;have b2:=wX hs hh;have b1':(lo.map a.eval=none/\l=0)\/∃ k,lo.map a.eval=some (.int k l):=b1.imp (fun⟨e,f⟩=>⟨by simp[e],f⟩) id;have b2':(hi.map a.eval=none/\h'=s.size)\/∃ k,hi.map a.eval=some (.int k h'):=b2.imp (fun⟨e,f⟩=>⟨by simp[e],f⟩) id;refine⟨_,?_,dq rfl⟩
 simp only[execOp,Instr.sliceAt,bX hs e,Za0,aH hu,Zas,Instr.slice,Option.map_none,Option.isSome,Bool.false_eq_true,if_false,Za1,
  kS (w:=w) (P:=P) (sl:=false) b1' b2' h0 h1 h2 (Zbc _)]
 simp at h;simp at h
 · rename_i c OW;subst OW;unfold vn at h;split at h
   case h_3=>simp at h
   case h_2=>
    rename_i W4;split at h
    case h_2=>simp at h
    rename_i x y hargs;obtain⟨callee,args,argTypes⟩:=c;obtain rfl:callee=.builtin .max:=W4;obtain rfl:args= #[x,y]:=by rw[<- Array.toArray_toList (xs:=args)];exact Zbm _ hargs
    unfold DJ at h;split at h;rename_i k p k' q e1 e2;split at h;rename_i hk;subst hk;simp only[Zan,Zaq]at h;obtain⟨hCe,rfl⟩:=h;clear hCe;have e:(#[x,y].map a.eval)= #[.int k p,.int k q]:=by simp[bX hs e1,bX hs e2]
    exact⟨_,by simp only[execOp,resolve,invoke,builtin,Za0,Za1,Zas,e,Lib.run_max_ints],dq rfl⟩;simp at h;simp at h
   rename_i W4;split at h
   case h_2=>simp at h
   rename_i x T hargs Z6;obtain⟨callee,args,argTypes⟩:=c;obtain rfl:callee=.builtin .len:=W4;obtain rfl:args= #[x]:=by rw[<- Array.toArray_toList (xs:=args)];exact Zbm _ hargs
   obtain rfl:argTypes= #[T]:=by rw[<- Array.toArray_toList (xs:=argTypes)];exact Zbm _ Z6
   unfold zR at h;split at h <;> simp only[Zan,Zaq,reduceCtorEq]at h <;> (obtain⟨hCe,rfl⟩:=h;clear hCe);rename_i s A8 e;obtain⟨td,hu,hd⟩:=cP A8;cases td <;> simp[dH]at hd;exact⟨_,by simp[execOp,resolve,invoke,builtin,Builtin.len_,bX hs e,aH hu,goInt],dq rfl⟩
   all_goals
    rename_i A8 e;obtain⟨td,hu,hd⟩:=cP A8;cases td <;> simp[dH]at hd;obtain⟨Fx,hr⟩:=dS hs x;rw[e]at hr
   obtain⟨_,A',c,hc,_⟩:=hr;simp at hc;exact⟨_,Zbo,dq rfl⟩
   rcases hr with ⟨_,rfl,_,A',hc⟩ | ⟨_,_,_,hc,_⟩ <;> simp at hc <;>
    exact⟨_,Zbo,dq rfl⟩
   obtain⟨_,_,A',hc,_⟩:=hr;simp at hc;exact⟨_,Zbo,dq rfl⟩
 rename_i x i OW;subst OW;unfold Gz at h;split at h;rename_i i _ _ vs e;split at h;rename_i v' hv;split at h;simp at h;rename_i ho;simp at h;obtain⟨_,rfl⟩:=h;obtain⟨Fx,hr⟩:=dS hs x;rw[e]at hr;obtain⟨xs,Ta,hr⟩:=hr;obtain⟨x',PM,F7⟩:=BJ vs hr hv (by simpa using ho);refine⟨x',?_,F7⟩;have ZZ:xs[i]? =some x':=by simpa using PM
 simp only[execOp,Ta,Instr.extract,ZZ,Za0,Za1,Zas];simp at h;simp at h;simp at h
end
def V.at(g o:Nat)(v:V):List Nat->Option (Nat×Nat×V)
 | []=>some (g,o,v)
 | j::p=>match v with
   | .agg vs=>match vs[j]? with
     | some u=>V.at g (o+V.ns (vs.take j)) u p
     | none=>none
   | .own sz xs g' o' _=>match xs[j]? with
     | some u=>V.at g' (o'+j*sz) u p
     | none=>none
   | _=>none
def V.sub(v:V):List Nat->Option V
 | []=>some v
 | j::p=>match v with
   | .agg vs=>match vs[j]? with
     | some u=>V.sub u p
     | none=>none
   | .own _ xs _ _ _=>match xs[j]? with
     | some u=>V.sub u p
     | none=>none
   | _=>none
def AS.at(A:AS)(r:l9)(p:List Nat):Option (Nat×Nat×V):=
 match r with
 | .key k=>match lk k A.h with
   | some (g,v)=>V.at g 0 v p
   | none=>none
 | .slot i=>match A.get i,p with
   | .own sz xs g o c,j::p=>V.at 0 0 (.own sz xs g o c) (j::p)
   | _,_=>none
def AS.sub(A:AS)(r:l9)(p:List Nat):Option V:=
 match r with
 | .key k=>match lk k A.h with
   | some (_,v)=>V.sub v p
   | none=>none
 | .slot i=>match A.get i with
   | .tup _=>none
   | v=>V.sub v p
def V.isAgg:V->Bool | .agg _=>true | _=>false
section
variable {w:World} {Pb Kb:Nat->Prop}
theorem gG:∀ (vs:List V) {cs F} {j:Nat} {v:V},RL w Pb vs cs F->vs[j]? =some v->
 ∃ c F',R w Pb v c F'/\(∀ g,g∈F'->g∈F)/\∀ i u,c[i]? =some u->cs[V.ns (vs.take j)+i]? =some u
 | [],_,_,_,_,_,h=>by simp at h
 | v::vs,cs,F,0,u,h,hj=>by
   obtain⟨c1,c2,F1,F2,rfl,rfl,h1,h2⟩:=h;simp at hj;subst hj;refine⟨c1,F1,h1,by simp_all,fun i u hu=>?_⟩;simp only[List.take_zero,V.ns,Zaw];rw[Za9 (Za3.1 hu).1];exact hu
 | v::vs,cs,F,j+1,u,h,hj=>by
   obtain⟨c1,c2,F1,F2,rfl,rfl,h1,h2⟩:=h;obtain⟨c,F',hr,hF,hc⟩:=gG vs h2 Zbp;refine⟨c,F',hr,fun g hg=>by simp[hF g hg],fun i u hu=>?_⟩;have hl:=eI v h1;simp only[List.take_succ_cons,V.ns];rw[<- hl,Zbj,Za4 Zac];have e:c1.length+(V.ns (vs.take j)+i)-c1.length=V.ns (vs.take j)+i:=Zac;rw[e];exact hc i u hu
theorem eg{sz:Nat}:∀ (xs:List V) (j:Nat),aS sz xs->j<=xs.length->V.ns (xs.take j)=j*sz
 | _,0,_,_=>by simp[V.ns]
 | [],j+1,_,h=>by simp at h
 | v::vs,j+1,ha,h=>by
   simp only[List.take_succ_cons,V.ns,ha v Zad];rw[eg vs j (fun x hx=>ha x (by simp[hx])) Zbq];rw[Nat.add_mul];omega
theorem qo:∀ (p:List Nat) {v u:V} {g o g' o':Nat} {F},At w Pb v g o F->V.at g o v p=some (g',o',u)->∃ F',At w Pb u g' o' F'/\∀ x,x∈F'->x∈F
 | [],v,u,g,o,g',o',F,h,e=>by
   simp only[V.at,Zan,Zaq]at e;obtain⟨rfl,rfl,rfl⟩:=e;exact⟨F,h,fun _ h=>h⟩
 | j::p,v,u,g,o,g',o',F,h,e=>by
   simp only[V.at]at e;obtain⟨cs,cells,hb,hr,hc⟩:=h;split at e;rename_i vs;split at e;rename_i x hx;simp only[R]at hr;obtain⟨c,F',F7,hF,L9⟩:=gG vs hr hx;obtain⟨PI,h2,hF2⟩:=qo p (v:=x) ⟨c,cells,hb,F7,fun i u hu=>by rw[Zbj];exact hc _ _ (L9 i u hu)⟩ e;exact⟨PI,h2,fun y hy=>hF y (hF2 y hy)⟩;simp at e;rename_i sz xs g1 o1 c1;split at e;rename_i x hx;rcases hr with ⟨_,rfl,_⟩ | ⟨_,_,_,_,ha,_,flat,F',n8,rfl,hr,K4,_,L9⟩;simp at hx;obtain⟨c,PI,F7,hF,Qv⟩:=gG xs hr hx;have hj:j<=xs.length:=Zbr
   rw[eg xs j ha hj]at Qv;obtain⟨F3,h3,hF3⟩:=qo p (v:=x) ⟨c,n8,K4,F7,fun i u hu=>Zbs⟩ e;exact⟨F3,h3,fun y hy=>by simp[hF y (hF3 y hy)]⟩;simp at e;simp at e
theorem eh{g o:Nat}{cells:Array Value}(h:Blk w g cells):w.cell? ⟨g,o,none⟩=cells[o]? :=by
 obtain⟨e,fr,hb,_⟩:=h;simp[World.cell?,hb]
theorem dY(g o j:Nat):(⟨g,o,none⟩:Addr).add j=⟨g,o+j,none⟩:=by unfold Addr.add;split <;> simp_all
theorem xe{P:Program}{T:Nat}{i:TI}(h:ti P T=some i):(isAgg T).run P w=.ok i.d.agg w:=by
 obtain⟨inf,d,_,h2,_,_,h5⟩:=jv h;unfold isAgg;simp only[Za0,aH h2,Zas];rw[<- h5];cases d <;> rfl
theorem dc{P:Program}{T:Nat}{i:TI}(h:ti P T=some i):(sizeOf T).run P w=.ok i.sz w:=by
 obtain⟨inf,d,h1,_,h3,_,_⟩:=jv h;simp[sizeOf,typeInfo,h1,h3]
theorem mD{P:Program} {T:Nat} {i:TI} (h:ti P T=some i) {v:V} {cs:List Value} {g o:Nat} {F} (hr:R w Pb v cs F) (hn:v.n=i.sz) (ha:i.d.agg=v.isAgg)
 (hc:∀ j u,cs[j]? =some u->w.cell? ⟨g,o+j,none⟩=some u):∃ x,(loadVar T ⟨g,o,none⟩).run P w=.ok x w/\RV w Pb v x F:=by
 unfold loadVar;simp only[Za0,xe h,Zas];have hl:=eI v hr;cases v with
 | agg vs=>
   simp only[V.isAgg]at ha;rw[ha];simp only[if_true,Za0,dc h,Zas];rw[<- hn,<- hl,run_loadCells_list w _ cs (fun j v hv=>by rw[dY];exact hc j v hv)];exact⟨_,rfl,_,rfl,hr⟩
 | tup _=>simp[R]at hr
 | gv _ _=>simp[R]at hr
 | b9=>
   simp only[V.isAgg]at ha;rw[ha];obtain⟨hF,x,rfl,hx⟩:=hr;have:=hc 0 x rfl;simp only[Nat.add_zero]at this;exact⟨x,by simp[this],hF⟩
 | _=>
   simp only[V.isAgg]at ha;rw[ha];simp only[V.n]at hl;obtain⟨x,rfl⟩:=List.length_eq_one_iff.1 hl;have:=hc 0 x rfl;simp only[Nat.add_zero]at this;exact⟨x,by simp[this],hr⟩
end
def kJ(P:Program)(d:Option D)(x:V)(j:Nat):Option (Prop×V):=
 match d with
 | some (.st fs)=>match fs[j]? with
   | some (off,T)=>match ti P T with
     | some i=>match x with
       | .ptr r p g o=>some (i.sz≠0,.ptr r (p++[j]) g (o+off))
       | .ep (.agg vs)=>match vs[j]? with
         | some v=>some (i.sz≠0/\V.ns (vs.take j)=off,.ep v)
         | none=>none
       | _=>none
     | none=>none
   | none=>none
 | _=>none
def vX(P:Program)(d:Option D)(x:V)(j:Nat):Option (Prop×V):=
 match d with
 | some (.st fs)=>match fs[j]? with
   | some (off,T)=>match ti P T with
     | some i=>match x with
       | .agg vs=>match vs[j]? with
         | some v=>some (V.ns (vs.take j)=off/\i.sz=v.n/\i.d.agg=v.isAgg,v)
         | none=>none
       | _=>none
     | none=>none
   | none=>none
 | _=>none
def kP(A:AS)(i:Option TI)(x:V):Option (Prop×V):=
 match i with
 | some i=>match x with
   | .ptr r p g o=>match A.at r p with
     | some (g',o',v)=>some (g'=g/\o'=o/\v.n=i.sz/\i.d.agg=v.isAgg,v.S6 r p)
     | none=>none
   | .ep v=>some (v.n=i.sz/\i.d.agg=v.isAgg,v)
   | _=>none
 | none=>none
def jz(P:Program)(d:Option D)(x i:V):Option (Prop×V):=
 match d,i with
 | some (.sl e),.lit (.int _ i)=>match ti P e with
   | some t=>match x with
     | .sl _ xs=>some (0<=i/\i<xs.length/\(xs.getD i.toNat .b9).n=t.sz,.ep (xs.getD i.toNat .b9))
     | .hd r p sz g o lo n _=>some (0<=i/\i<n/\sz=t.sz,.ptr r (p++[lo+i.toNat]) g (o+(lo+i.toNat)*sz))
     | _=>none
   | none=>none
 | some (.arr n e),.lit (.int _ i)=>match ti P e with
   | some t=>match x with
     | .ptr r p g o=>some (0<=i/\i<n,.ptr r (p++[i.toNat]) g (o+i.toNat*t.sz))
     | _=>none
   | none=>none
 | _,_=>none
def De(P:Program)(d:Option D)(x:V)(lo hi:Option V):Option (Prop×V):=
 match d with
 | some (.sl e)=>match ti P e with
   | some t=>match x with
     | .sl _ xs=>match Wu lo,VX xs.length hi with
       | some l,some h=>some (0<=l/\l<=h/\h<=xs.length/\∀ x∈xs,x.n=t.sz,.sl false ((xs.take h.toNat).drop l.toNat))
       | _,_=>none
     | .hd r p sz g o Pq n c=>match Wu lo,VX n hi with
       | some l,some h=>some (0<=l/\l<=h/\h<=n/\sz=t.sz,.hd r p sz g o (Pq+l.toNat) (h.toNat-l.toNat) (c-l.toNat))
       | _,_=>none
     | _=>none
   | none=>none
 | _=>none
def mZ:V->Option Value
 | .lit x=>some x
 | .ptr _ _ g o=>some (.pointer (some ⟨g,o,none⟩))
 | _=>none
def jJ:List V->Option (List Value)
 | []=>some []
 | v::vs=>match mZ v,jJ vs with
   | some x,some xs=>some (x::xs)
   | _,_=>none
def valOf:V->Option Value
 | .agg vs=>match jJ vs with
   | some xs=>some (.agg xs.toArray)
   | none=>none
 | v=>mZ v
def Mr:V->Option (Prop×V)
 | .ptr r p g o=>some (True,.ptr r p g o)
 | .ep v=>some (True,.ep v)
 | _=>none
def DM:Option TypeDesc->Bool
 | some (.interface _)=>true
 | none=>true
 | _=>false
def LJ(P:Program)(T:Nat)(x:V):Option (Prop×V):=
 if DM (P.underlying T)=true then none else match valOf x with
  | some y=>some (True,.lit (.iface T y))
  | none=>none
def zeroV(P:Program)(T:Nat):Option V:=match P.info? T with
 | some i=>i.zero.map cV
 | none=>none
def Lf(P:Program)(T:Nat)(x:V):Option (Prop×V):=
 if DM (P.underlying T)=true then none else match x,zeroV P T with
  | .lit (.iface t v),some z=>some (True,if t=T then .tup [cV v,.lit (.bool true)] else .tup [z,.lit (.bool false)])
  | .lit .nilIface,some z=>some (True,.tup [z,.lit (.bool false)])
  | _,_=>none
def LB(fn:Fn)(a b:List V):Option (Prop×V):=match jJ a,jJ b with
 | some x,some y=>some (True,.lit (.func fn x.toArray y.toArray))
 | _,_=>none
def J1(P:Program)(A:AS)(op:Op):Option (Prop×V):=
 match op with
 | .load T x=>kP A (ti P T) (A.ev x)
 | .fieldAddr T x j=>kJ P (tD P T) (A.ev x) j
 | .field T x j=>vX P (tD P T) (A.cp x) j
 | .indexAddr T x i=>jz P (tD P T) (A.ev x) (A.ev i)
 | .slice T x lo hi none=>match tD P T with
   | some .str=>CK (some .str) (A.ev x) (lo.map A.ev) (hi.map A.ev)
   | d=>De P d (A.ev x) (lo.map A.ev) (hi.map A.ev)
 | .nilCheck x=>Mr (A.ev x)
 | .makeInterface T x=>LJ P T (A.cp x)
 | .typeAssert x _ T true=>Lf P T (A.ev x)
 | .makeFunc fn a b=>LB fn (a.toList.map A.ev) (b.toList.map A.ev)
 | op=>Rq P A op
section
variable {w:World} {Pb Kb:Nat->Prop} {N:Nat} {A:AS} {a:Act} {F:l9->List Nat} {P:Program}
theorem iw(h:u7 N Pb Kb A a w F){r:l9}{p:List Nat}{g o:Nat}{v:V}(e:A.at r p=some (g,o,v)):∃ F',At w Pb v g o F':=by
 unfold AS.at at e;split at e;rename_i k;split at e;rename_i g' v' hk;obtain⟨F',_,hr⟩:=h.root k g' v' hk;obtain⟨PI,h2,_⟩:=qo p (v:=v') (g:=g') (o:=0) hr e;exact⟨PI,h2⟩;simp at e;rename_i i;split at e;rename_i sz xs g' o' c j p hi;have hr:=h.slot i;rw[hi]at hr;simp only[V.at]at e;split at e;rename_i x hx;rcases hr with ⟨_,rfl,_⟩ | ⟨_,_,_,_,ha,_,flat,F',n8,_,hr,K4,_,L9⟩;simp at hx;obtain⟨c,PI,F7,hF,Qv⟩:=gG xs hr hx;have hj:j<=xs.length:=Zbr
 rw[eg xs j ha hj]at Qv;obtain⟨F3,h3,_⟩:=qo p (v:=x) ⟨c,n8,K4,F7,fun i u hu=>Zbs⟩ e;exact⟨F3,h3⟩;simp at e;simp at e
theorem DR(hs:u7 N Pb Kb A a w F){T:Nat}{x:Operand}{C:Prop}{v:V}(h:kP A (ti P T) (A.ev x)=some (C,v))(hC:C):
 ∃ y,(Instr.loadAt T (a.eval x)).run P w=.ok y w/\RV w Pb v y []:=by
 unfold kP at h;split at h
 case h_2=>simp at h
 rename_i i hi;obtain⟨Fx,hr⟩:=dS hs x;split at h;rename_i r p g o e;rw[e]at hr;split at h;rename_i g' o' u A7;simp only[Zan,Zaq]at h;obtain⟨rfl,rfl⟩:=h;obtain⟨rfl,rfl,hn,ha⟩:=hC;obtain⟨F',cs,cells,hb,N0,u0⟩:=iw hs A7;have hx:a.eval x=.pointer (some ⟨g',o',none⟩):=by have:=hr.2;simpa using this
 obtain⟨y,hy,F7⟩:=mD (w:=w) hi (kA r u p N0) (g:=g') (o:=o') (by
  have:(u.S6 r p).n=u.n:=by
   have h1:=eI _ (kA r u p N0);have h2:=eI _ N0;omega
  omega) (by rw[ha];cases u <;> rfl) (fun j u hu=>by rw[eh hb];exact u0 j u hu)
 exact⟨y,by simp only[Instr.loadAt,hx,Instr.sureAddr,Za0,Za1,Zas,hy],F7⟩;simp at h;rename_i u e;rw[e]at hr;simp only[Zan,Zaq]at h;obtain⟨rfl,rfl⟩:=h;obtain⟨hn,ha⟩:=hC;obtain⟨_,b,o,flat,hx,hb,N0,u0⟩:=hr;have hx:a.eval x=.pointer (some ⟨b,o,none⟩):=Zbt
 obtain⟨y,hy,F7⟩:=mD (w:=w) hi N0 hn ha u0;exact⟨y,by simp only[Instr.loadAt,hx,Instr.sureAddr,Za0,Za1,Zas,hy],F7⟩;simp at h
theorem CS{T:Nat}{fs:List (Nat×Nat)}(h:tD P T=some (.st fs)):∃ fl:Array Field,P.underlying T=some (.struct fl)/\fl.toList.map (fun f=>(f.offset,f.type))=fs:=by
 obtain⟨td,hu,hd⟩:=cP h;cases td <;> simp[dH]at hd;rename_i fl;exact⟨fl,hu,hd⟩
theorem yM{fl:Array Field}{fs:List (Nat×Nat)}(h:fl.toList.map (fun f=>(f.offset,f.type))=fs){j off T:Nat}(e:fs[j]? =some (off,T)):∃ f,fl[j]? =some f/\f.offset=off/\f.type=T:=by
 subst h;simp only[List.getElem?_map]at e;cases hf:fl.toList[j]? with
 | none=>rw[hf]at e;simp at e
 | some f=>rw[hf]at e;simp at e;exact⟨f,by simpa using hf,e⟩
theorem wK(hs:u7 N Pb Kb A a w F){T:Nat}{x:Operand}{j:Nat}{C:Prop}{v:V}(h:kJ P (tD P T) (A.ev x) j=some (C,v))(hC:C):
 ∃ y,(Instr.fieldAt T (a.eval x) j).run P w=.ok y w/\RV w Pb v y []:=by
 unfold kJ at h;split at h
 case h_2=>simp at h
 rename_i fs hT;split at h
 case h_2=>simp at h
 rename_i off T' hj;split at h
 case h_2=>simp at h
 rename_i i hi;obtain⟨fl,hu,hfl⟩:=CS hT;obtain⟨f,hf,ho,ht⟩:=yM hfl hj;obtain⟨Fx,hr⟩:=dS hs x;split at h;rename_i r p g o e;rw[e]at hr;simp only[Zan,Zaq]at h;obtain⟨rfl,rfl⟩:=h;have hx:a.eval x=.pointer (some ⟨g,o,none⟩):=by have:=hr.2;simpa using this
 refine⟨.pointer (some ⟨g,o+off,none⟩),?_,rfl,rfl⟩;simp only[Instr.fieldAt,Za0,aH hu,Zas,hf,hx,Instr.sureAddr,Za1,fieldPlace,ht,dc hi,if_neg hC,ho,dY]
 · rename_i vs e;rw[e]at hr;split at h
   case h_2=>simp at h
   rename_i u WE;simp only[Zan,Zaq]at h;obtain⟨rfl,rfl⟩:=h;obtain⟨h0,WQ⟩:=hC;obtain⟨_,b,o,flat,hx,hb,N0,u0⟩:=hr;have hx:a.eval x=.pointer (some ⟨b,o,none⟩):=Zbt
   simp only[R]at N0;obtain⟨c,F',F7,hF,L9⟩:=gG vs N0 WE;have QD:F'=[]:=List.eq_nil_iff_forall_not_mem.2 fun g hg=>by simpa using hF g hg
   subst QD;refine⟨.pointer (some ⟨b,o+off,none⟩),?_,rfl,b,o+off,c,rfl,hb,F7,fun i u hu=>by rw[<- WQ,Zbj];exact u0 _ _ (L9 i u hu)⟩;simp only[Instr.fieldAt,Za0,aH hu,Zas,hf,hx,Instr.sureAddr,Za1,fieldPlace,ht,dc hi,if_neg h0,ho,dY]
 simp at h
theorem Da(hs:u7 N Pb Kb A a w F){T:Nat}{x:Operand}{j:Nat}{C:Prop}{v:V}(h:vX P (tD P T) (A.cp x) j=some (C,v))(hC:C):
 ∃ y,(Instr.field T (a.eval x) j).run P w=.ok y w/\RV w Pb v y []:=by
 unfold vX at h;split at h
 case h_2=>simp at h
 rename_i fs hT;split at h
 case h_2=>simp at h
 rename_i off T' hj;split at h
 case h_2=>simp at h
 rename_i i hi;obtain⟨fl,hu,hfl⟩:=CS hT;obtain⟨f,hf,ho,ht⟩:=yM hfl hj;have hr:=pZ hs x;split at h
 case h_2=>simp at h
 rename_i vs e;rw[e]at hr;split at h
 case h_2=>simp at h
 rename_i u WE;simp only[Zan,Zaq]at h;obtain⟨rfl,rfl⟩:=h;obtain⟨WQ,hn,ha⟩:=hC;obtain⟨cs,hx,hr⟩:=hr;obtain⟨c,F',F7,hF,L9⟩:=gG vs hr WE;have QD:F'=[]:=List.eq_nil_iff_forall_not_mem.2 fun g hg=>by simpa using hF g hg
 subst QD;have hl:=eI _ F7;simp only[Instr.field,Za0,aH hu,Zas,hf,hx,asAgg,Za1,part,ht,xe hi,ho];rw[WQ]at L9;cases u with
 | agg us=>
   simp only[V.isAgg]at ha;rw[ha];simp only[if_true,Za0,dc hi,Zas,Za1];refine⟨_,rfl,_,rfl,?_⟩;have hcs:(cs.extract off (off+i.sz)).toList=c:=by
    apply List.ext_getElem?;intro k;by_cases hk:k<c.length;have h1:=L9 k _ (Zat hk);rw[Zat hk];simp only[Array.getElem?_toList]at h1 ⊢;rw[Array.getElem?_extract];have hlt:=(Zbh.1 h1).1;rw[if_pos Zac];exact h1;have hz:(cs.extract off (off+i.sz)).toList.length<=i.sz:=by
     rw[Array.length_toList,Array.size_extract];omega
    rw[List.getElem?_eq_none Zac,List.getElem?_eq_none Zac]
   rw[hcs];simp only[R]at F7;exact F7
 | tup _=>simp[R]at F7
 | gv _ _=>simp[R]at F7
 | b9=>
   simp only[V.isAgg]at ha;rw[ha];obtain⟨_,y,rfl,hy⟩:=F7;have h1:=L9 0 y rfl;simp only[Nat.add_zero,Array.getElem?_toList]at h1;exact⟨y,by simp[h1],rfl⟩
 | _=>
   simp only[V.isAgg]at ha;rw[ha];simp only[V.n]at hl;obtain⟨y,rfl⟩:=List.length_eq_one_iff.1 hl;have h1:=L9 0 y rfl;simp only[Nat.add_zero,Array.getElem?_toList]at h1;exact⟨y,by simp[h1],F7⟩
theorem iQ{T e:Nat}(h:tD P T=some (.sl e)):P.underlying T=some (.slice e):=by
 obtain⟨td,hu,hd⟩:=cP h;cases td <;> simp[dH]at hd;subst hd;exact hu
theorem getD_some{xs:List V}{i:Nat}(h:i<xs.length):xs[i]? =some (xs.getD i .b9):=by
 simp[List.getD,Zat h]
theorem Lw{T n e:Nat}(h:tD P T=some (.arr n e)):P.underlying T=some (.array n e):=by
 obtain⟨td,hu,hd⟩:=cP h;cases td <;> simp[dH]at hd;obtain⟨rfl,rfl⟩:=hd;exact hu
theorem wL(hs:u7 N Pb Kb A a w F){T:Nat}{x ix:Operand}{C:Prop}{v:V}(h:jz P (tD P T) (A.ev x) (A.ev ix)=some (C,v))(hC:C):
 ∃ y,(Instr.indexAt T (a.eval x) (a.eval ix)).run P w=.ok y w/\RV w Pb v y []:=by
 unfold jz at h;split at h
 case h_3=>simp at h
 case h_2=>
  rename_i n e k i hT hi;have hu:=Lw hT;split at h
  case h_2=>simp at h
  rename_i t ht;obtain⟨Fx,hr⟩:=dS hs x;split at h
  case h_2=>simp at h
  rename_i r p g o hx;rw[hx]at hr;simp only[Zan,Zaq]at h;obtain⟨rfl,rfl⟩:=h;have hv:a.eval x=.pointer (some ⟨g,o,none⟩):=by have:=hr.2;simpa using this
  refine⟨.pointer (some ⟨g,o+i.toNat*t.sz,none⟩),?_,rfl,rfl⟩;simp only[Instr.indexAt,bX hs hi,asIntOf,Za0,Za1,Zas,aH hu,hv,Instr.sureAddr,if_pos (⟨hC.1,hC.2⟩:0<=i/\i<(n:Int)),dc ht,dY]
 rename_i e k i hT hi;have hu:=iQ hT;split at h
 case h_2=>simp at h
 rename_i t ht;obtain⟨Fx,hr⟩:=dS hs x;split at h;rename_i full xs hx;rw[hx]at hr;simp only[Zan,Zaq]at h;obtain⟨rfl,rfl⟩:=h;obtain⟨h0,h1,hn⟩:=hC;have hlt:i.toNat<xs.length:=Zac;obtain⟨_,A',c,hv,hl,_,hz⟩:=hr;have hv:a.eval x=.slice A' xs.length c:=by simpa using hv
 rcases hz with rfl | ⟨b,o,sz,flat,rfl,hb,_,hN,QC,u0⟩;simp at hlt;obtain⟨cu,F',F7,hF,L9⟩:=gG xs QC (getD_some hlt);have QD:F'=[]:=List.eq_nil_iff_forall_not_mem.2 fun g hg=>by simpa using hF g hg
 subst QD;rw[eg xs _ hN Zac]at L9;have hsz:sz=t.sz:=by rw[<- hn];exact(hN _ (Za7 (getD_some hlt))).symm
 refine⟨.pointer (some ⟨b,o+i.toNat*t.sz,none⟩),?_,rfl,b,o+i.toNat*t.sz,cu,rfl,hb,F7,fun j u hu=>by rw[<- hsz,Zbj];exact u0 _ _ (L9 j u hu)⟩;simp only[Instr.indexAt,bX hs hi,asIntOf,Za0,Za1,Zas,aH hu,hv,if_pos (⟨h0,h1⟩:0<=i/\i<(xs.length:Int)),dc ht,dY];rename_i r p sz g o lo n c hx;rw[hx]at hr;simp only[Zan,Zaq]at h;obtain⟨rfl,rfl⟩:=h;obtain⟨h0,h1,hn⟩:=hC;obtain⟨_,Xy,A',hv,hA⟩:=hr;have hv:a.eval x=.slice A' n c:=by simpa using hv
 obtain rfl:=hA Zac;refine⟨.pointer (some ⟨g,o+(lo+i.toNat)*sz,none⟩),?_,rfl,rfl⟩;simp only[Instr.indexAt,bX hs hi,asIntOf,Za0,Za1,Zas,aH hu,hv,if_pos (⟨h0,h1⟩:0<=i/\i<(n:Int)),dc ht,dY];subst hn;rw[Zbj,<- Nat.add_mul];simp at h
theorem pb:∀ (vs:List V) (k:Nat) {cs:List Value},RL w Pb vs cs []->∃ c':List Value,RL w Pb (vs.drop k) c' []/\∀ i u,c'[i]? =some u->cs[V.ns (vs.take k)+i]? =some u
 | vs,0,cs,h=>⟨cs,h,fun i u hu=>by simpa[V.ns] using hu⟩
 | [],k+1,cs,h=>⟨[],by simpa using⟨rfl,rfl⟩,fun i u hu=>by simp at hu⟩
 | v::vs,k+1,cs,h=>by
   obtain⟨c1,c2,F1,F2,rfl,hF,h1,h2⟩:=h;have hF2:F2=[]:=by have:=hF.symm;simp at this;exact this.2
   subst hF2;obtain⟨c',hr,hc⟩:=pb vs k h2;refine⟨c',by simpa using hr,fun i u hu=>?_⟩;have hl:=eI v h1;simp only[List.take_succ_cons,V.ns];rw[<- hl,Zbj,Za4 Zac];have e:c1.length+(V.ns (vs.take k)+i)-c1.length=V.ns (vs.take k)+i:=Zac;rw[e];exact hc i u hu
theorem oZ:∀ (vs:List V) (k:Nat) {cs:List Value},RL w Pb vs cs []->∃ c':List Value,RL w Pb (vs.take k) c' []/\∀ (i:Nat) u,c'[i]? =some u->cs[i]? =some u
 | vs,0,cs,h=>⟨[],by simpa using⟨rfl,rfl⟩,fun i u hu=>by simp at hu⟩
 | [],k+1,cs,h=>⟨[],by simpa using⟨rfl,rfl⟩,fun i u hu=>by simp at hu⟩
 | v::vs,k+1,cs,h=>by
   obtain⟨c1,c2,F1,F2,rfl,hF,h1,h2⟩:=h;have QD:=hF.symm;simp at QD;obtain⟨rfl,rfl⟩:=QD;obtain⟨c',hr,hc⟩:=oZ vs k h2;refine⟨c1++c',⟨c1,c',[],[],rfl,rfl,h1,hr⟩,fun i u hu=>?_⟩;by_cases hi:i<c1.length;rw[Za9 hi]at hu ⊢;exact hu;rw[Za4 Zac]at hu ⊢;exact hc _ _ hu
theorem FY(hs:u7 N Pb Kb A a w F){T:Nat}{x:Operand}{lo hi:Option Operand}{C:Prop}{v:V}(h:De P (tD P T) (A.ev x) (lo.map A.ev) (hi.map A.ev)=some (C,v))(hC:C):
 ∃ y,(Instr.sliceAt T (a.eval x) (lo.map a.eval) (hi.map a.eval) none).run P w=.ok y w/\RV w Pb v y []:=by
 unfold De at h;split at h
 case h_2=>simp at h
 rename_i e hT;have hu:=iQ hT;split at h
 case h_2=>simp at h
 rename_i t ht;obtain⟨Fx,hr⟩:=dS hs x;split at h
 · rename_i full xs hx;rw[hx]at hr;split at h
   case h_2=>simp at h
   rename_i l h' hl hh;simp only[Zan,Zaq]at h;obtain⟨rfl,rfl⟩:=h;obtain⟨h0,h1,h2,hn⟩:=hC;have b1:(lo.map a.eval=none/\l=0)\/∃ k,lo.map a.eval=some (.int k l):=(Al hs hl).imp (fun⟨e,f⟩=>⟨by simp[e],f⟩) id;have b2:(hi.map a.eval=none/\h'=xs.length)\/∃ k,hi.map a.eval=some (.int k h'):=(wX hs hh).imp (fun⟨e,f⟩=>⟨by simp[e],f⟩) id;obtain⟨_,A',c,hv,Yy,_,hz⟩:=hr;have hv:a.eval x=.slice A' xs.length c:=by simpa using hv
   have hlen:((xs.take h'.toNat).drop l.toNat).length=h'.toNat-l.toNat:=Zal;refine⟨.slice (if c=l.toNat then A' else A'.map (·.add (l.toNat*t.sz))) (h'.toNat-l.toNat) (c-l.toNat),?_,?_⟩;simp only[Instr.sliceAt,Instr.slice,Za0,aH hu,Zas,hv,kS (w:=w) (P:=P) (sl:=true) b1 b2 h0 h1 (show h'<=(c:Nat) by omega) Yy,dc ht,Za1];refine⟨rfl,_,c-l.toNat,by rw[hlen],Zac,Zad,?_⟩;by_cases he:h'.toNat-l.toNat=0;left;exact Za5 Zac;right;rcases hz with rfl | ⟨b,o,sz,flat,rfl,hb,Z8,hN,QC,u0⟩;simp at h2;omega;have hsz:sz=t.sz:=by
    cases xs with
    | nil=>simp at h2;omega
    | cons x0 xs=>rw[<- hn x0 Zad];exact(hN x0 Zad).symm
   obtain⟨c1,Sn,P7⟩:=oZ xs h'.toNat QC;obtain⟨c2,O8,Ua⟩:=pb _ l.toNat Sn;have SN:aS sz (xs.take h'.toNat):=fun x hx=>hN x (List.mem_of_mem_take hx);rw[eg _ _ SN Zal]at Ua;rw[if_neg Zac];refine⟨b,o+l.toNat*t.sz,sz,c2,by simp[dY],hb,Z8,fun x hx=>SN x (List.mem_of_mem_drop hx),O8,fun j u hu=>?_⟩;rw[<- hsz,Zbj];exact u0 _ _ (P7 _ _ (Ua j u hu))
 · rename_i r p sz g o Pq n c hx;rw[hx]at hr;split at h
   case h_2=>simp at h
   rename_i l h' hl hh;simp only[Zan,Zaq]at h;obtain⟨rfl,rfl⟩:=h;obtain⟨h0,h1,h2,hn⟩:=hC;have b1:(lo.map a.eval=none/\l=0)\/∃ k,lo.map a.eval=some (.int k l):=(Al hs hl).imp (fun⟨e,f⟩=>⟨by simp[e],f⟩) id;have b2:(hi.map a.eval=none/\h'=n)\/∃ k,hi.map a.eval=some (.int k h'):=(wX hs hh).imp (fun⟨e,f⟩=>⟨by simp[e],f⟩) id;obtain⟨_,Xy,A',hv,hA⟩:=hr;have hv:a.eval x=.slice A' n c:=by simpa using hv
   refine⟨.slice (if c=l.toNat then A' else A'.map (·.add (l.toNat*t.sz))) (h'.toNat-l.toNat) (c-l.toNat),?_,?_⟩;simp only[Instr.sliceAt,Instr.slice,Za0,aH hu,Zas,hv,kS (w:=w) (P:=P) (sl:=true) b1 b2 h0 h1 (show h'<=(c:Nat) by omega) Xy,dc ht,Za1];refine⟨rfl,Zac,_,rfl,fun hc=>?_⟩;rw[if_neg Zac,hA Zac];subst hn;simp only[Option.map_some,dY,Nat.add_mul,Zbj]
 simp at h
theorem tS{v:V}{y:Value}{cs:List Value}{F1:List Nat}(hy:mZ v=some y)(h:R w Pb v cs F1):cs=[y]/\y.oneCell'=true:=by
 cases v <;> simp only[mZ,Zan,reduceCtorEq]at hy;subst hy;exact⟨h.2.1,h.1⟩;subst hy;exact⟨h.2,rfl⟩
theorem yN:∀ {vs:List V} {xs cs:List Value} {F1:List Nat},jJ vs=some xs->RL w Pb vs cs F1->cs=xs
 | [],xs,cs,F1,h,hr=>by simp only[jJ,Zan]at h;rw[<- h,hr.1]
 | v::vs,xs,cs,F1,h,hr=>by
   simp only[jJ]at h;split at h;rename_i y ys e1 e2;simp only[Zan]at h;subst h;obtain⟨c1,c2,Fa,Fb,rfl,_,h1,h2⟩:=hr;rw[(tS e1 h1).1,yN e2 h2];rfl;simp at h
theorem zN{v:V}{y x:Value}{F1:List Nat}(hy:valOf v=some y)(h:RV w Pb v x F1):x=y:=by
 cases v with
 | agg vs=>
   simp only[valOf]at hy;split at hy;rename_i xs e;simp only[Zan]at hy;obtain⟨cs,rfl,hr⟩:=h;rw[<- hy,<- yN e hr];simp at hy
 | lit z=>have:=(tS (w:=w) (Pb:=Pb) (v:=.lit z) (y:=y) (cs:=[x]) hy h).1;simpa using this
 | ptr r p g o=>have:=(tS (w:=w) (Pb:=Pb) (v:=.ptr r p g o) (y:=y) (cs:=[x]) hy h).1;simpa using this
 | _=>simp[valOf,mZ]at hy
theorem rf(hs:u7 N Pb Kb A a w F):∀ (l:List Operand) {xs:List Value},jJ (l.map A.ev)=some xs->l.map a.eval=xs
 | [],xs,h=>by simpa[jJ] using h
 | x::l,xs,h=>by
   simp only[Zbe,jJ]at h;split at h;rename_i y ys e1 e2;simp only[Zan]at h;subst h;obtain⟨Fx,hr⟩:=dS hs x;have:valOf (A.ev x)=some y:=by
    cases hv:A.ev x <;> rw[hv]at e1 <;> simp only[mZ,reduceCtorEq,Zan]at e1 <;> simp[valOf,mZ,e1]
   rw[Zbe,zN this hr,rf hs l e2];simp at h
theorem xQ{T:Nat}(h: ¬ DM (P.underlying T)=true):∃ d,P.underlying T=some d/\∀ m,d≠.interface m:=by
 cases e:P.underlying T with
 | none=>rw[e]at h;exact absurd rfl h
 | some d=>exact⟨d,rfl,fun m c=>by rw[e,c]at h;exact h rfl⟩
theorem wo{op:Op}{C:Prop}{v:V}(h:J1 P A op=some (C,v))(hC:C)(hs:u7 N Pb Kb A a w F){o:Oper}(ho:o.op=op):
 ∃ x,(execOp a.eval o).run P w=.ok (.value x) w/\RV w Pb v x []:=by
 unfold J1 at h;split at h;obtain⟨y,hy,hr⟩:=DR hs h hC;exact⟨y,Zbu,hr⟩;obtain⟨y,hy,hr⟩:=wK hs h hC;exact⟨y,Zbu,hr⟩;obtain⟨y,hy,hr⟩:=Da hs h hC;exact⟨y,Zbu,hr⟩;obtain⟨y,hy,hr⟩:=wL hs h hC;exact⟨y,Zbu,hr⟩;rename_i T x lo hi;split at h;rename_i hT;refine Cd (op:=.slice T x lo hi none) (C:=C) (v:=v) ?_ hC hs ho;unfold Rq;simp only[hT];exact h;obtain⟨y,hy,hr⟩:=FY hs h hC;exact⟨y,by simp only[execOp,ho,Za0,hy,Option.map_none,Zas,Za1],hr⟩;rename_i x;unfold Mr at h;obtain⟨Fx,hr⟩:=dS hs x;split at h <;> rename_i e <;> simp only[Zan,Zaq,reduceCtorEq]at h <;> obtain⟨_,rfl⟩:=h <;> rw[e]at hr;have hx:=(List.cons.inj hr.2).1;have hx:a.eval x=.pointer (some ⟨_,_,none⟩):=hx;exact⟨_,by simp only[execOp,ho,hx];rfl,⟨rfl,rfl⟩⟩;have h1:=hr.1;obtain⟨_,b,o',flat,hx,h2⟩:=hr;have hx:=(List.cons.inj hx).1;exact⟨_,by simp only[execOp,ho,hx];rfl,⟨rfl,b,o',flat,rfl,h2⟩⟩;rename_i T x;unfold LJ at h;split at h;simp at h;rename_i hi;obtain⟨d,hd,hn⟩:=xQ hi;split at h;rename_i y e;simp only[Zan,Zaq]at h;obtain⟨_,rfl⟩:=h;have hx:=zN e (pZ hs x);refine⟨.iface T y,?_,dq rfl⟩;have:(Instr.makeInterface T (a.eval x)).run P w=.ok (.iface T y) w:=by
  rw[hx];simp only[Instr.makeInterface,Za0,aH hd,Zas];cases d <;> first | rfl | exact absurd rfl (hn _)
 simp only[execOp,ho,Za0,this,Zas,Za1];simp at h
 · rename_i x xT T;unfold Lf at h;split at h;simp at h;rename_i hi;obtain⟨d,hd,hn⟩:=xQ hi;have zr:∀ z,zeroV P T=some z->∃ y,(zeroValue T).run P w=.ok y w/\RV w Pb z y []:=fun z hz=>by
    unfold zeroV at hz;split at hz;rename_i i hi;simp only[Option.map_eq_some_iff]at hz;obtain⟨y,hy,rfl⟩:=hz;exact⟨y,by simp[zeroValue,typeInfo,hi,hy],rQ y⟩;simp at hz
   have tu:∀ (v1:V) (x1:Value) (b:Bool),RV w Pb v1 x1 []->((∀ us,v1≠.tup us)/\∀ b u,v1≠.gv b u)->RV w Pb (.tup [v1,.lit (.bool b)]) (.tuple #[x1,.bool b]) []:=fun v1 x1 b h1 WT=>by
    refine⟨_,rfl,x1,[.bool b],[],[],rfl,rfl,?_,.bool b,[],[],[],rfl,rfl,⟨rfl,rfl,rfl⟩,rfl,rfl⟩;cases v1 with
    | tup us=>exact absurd rfl (WT.1 us)
    | gv b u=>exact absurd rfl (WT.2 b u)
    | _=>exact h1
   have cvn:∀ y:Value,(∀ us,cV y≠.tup us)/\∀ b u,cV y≠.gv b u:=fun y=>by
    constructor <;> intros <;> unfold cV <;> repeat' split
    all_goals first | (solve | simp) | (unfold Vc;split <;> simp)
   have zn:∀ z,zeroV P T=some z->(∀ us,z≠.tup us)/\∀ b u,z≠.gv b u:=fun z hz=>by
    unfold zeroV at hz;split at hz;simp only[Option.map_eq_some_iff]at hz;obtain⟨y,hy,rfl⟩:=hz;exact cvn y;simp at hz
   split at h;rename_i t v z hx hz;simp only[Zan,Zaq]at h;obtain⟨_,rfl⟩:=h;have hx:=bX hs hx;obtain⟨y,hy,Yk⟩:=zr z hz;by_cases ht:t=T;refine⟨.tuple #[v,.bool true],?_,by rw[if_pos ht];exact tu _ _ _ (rQ v) (cvn v)⟩;have:(Instr.typeAssert (a.eval x) xT T true).run P w=.ok (.tuple #[v,.bool true]) w:=by
    rw[hx];simp only[Instr.typeAssert,Za0,aH hd,Zas];cases d <;> first | exact absurd rfl (hn _) | simp[ht]
   simp only[execOp,ho,Za0,this,Zas,Za1];refine⟨.tuple #[y,.bool false],?_,by rw[if_neg ht];exact tu _ _ _ Yk (zn z hz)⟩;have:(Instr.typeAssert (a.eval x) xT T true).run P w=.ok (.tuple #[y,.bool false]) w:=by
    rw[hx];simp only[Instr.typeAssert,Za0,aH hd,Zas];cases d <;> first | exact absurd rfl (hn _) | simp[ht,hy]
   simp only[execOp,ho,Za0,this,Zas,Za1];rename_i z hx hz;simp only[Zan,Zaq]at h;obtain⟨_,rfl⟩:=h;have hx:=bX hs hx;obtain⟨y,hy,Yk⟩:=zr z hz;refine⟨.tuple #[y,.bool false],?_,tu _ _ _ Yk (zn z hz)⟩;have:(Instr.typeAssert (a.eval x) xT T true).run P w=.ok (.tuple #[y,.bool false]) w:=by
    rw[hx];simp only[Instr.typeAssert,Za0,aH hd,Zas];cases d <;> first | exact absurd rfl (hn _) | simp[hy]
   simp only[execOp,ho,Za0,this,Zas,Za1];simp at h
 rename_i fn p q;unfold LB at h;split at h;rename_i xs ys e1 e2;simp only[Zan,Zaq]at h;obtain⟨_,rfl⟩:=h;refine⟨.func fn xs.toArray ys.toArray,?_,dq rfl⟩;have h1:p.map a.eval=xs.toArray:=by apply Array.ext';simpa using rf hs _ e1
 have h2:q.map a.eval=ys.toArray:=by apply Array.ext';simpa using rf hs _ e2
 simp only[execOp,ho,h1,h2];rfl;simp at h;exact Cd h hC hs ho
end
section
variable {w:World} {Pb Kb:Nat->Prop} {N:Nat} {A A':AS} {a:Act} {F:l9->List Nat} {P:Program}
theorem wz{v:V}{x:Value}{F:List Nat}(ho:v.df=false)(h:RV w Pb v x F):F=[]:=by
 cases v with
 | tup vs=>obtain⟨xs,_,h⟩:=h;exact tC vs (by simpa[V.df] using ho) h
 | gv _ _=>exact h.1
 | agg us=>obtain⟨cs,_,h⟩:=h;exact gg us (by simpa[V.df] using ho) h
 | b9=>exact h
 | own sz xs g o c=>exact je (w:=w) (Pb:=Pb) _ ho h
 | ow sz xs=>exact je (w:=w) (Pb:=Pb) _ ho h
 | om es g=>exact je (w:=w) (Pb:=Pb) _ ho h
 | mp es=>exact je (w:=w) (Pb:=Pb) _ ho h
 | lit x=>exact je (w:=w) (Pb:=Pb) _ ho h
 | sl f xs=>exact je (w:=w) (Pb:=Pb) _ ho h
 | hd r p sz g o lo n c=>exact je (w:=w) (Pb:=Pb) _ ho h
 | ptr r p g o=>exact je (w:=w) (Pb:=Pb) _ ho h
 | ep v=>exact je (w:=w) (Pb:=Pb) _ ho h
def AS.drop(A:AS):Operand->AS
 | .tmp i=>if (A.get i).df then A.put (some i) .b9 else A
 | _=>A
def AS.le(A' A:AS):Prop:=(∀ i,A'.get i=.b9\/A'.get i=A.get i)/\(∀ k,lk k A'.h=none\/lk k A'.h=lk k A.h)
open Classical in
theorem u7.le(hs:u7 N Pb Kb A a w F)(h:A'.le A):∃ F',u7 N Pb Kb A' a w F'/\∀ r g,g∈F' r->g∈F r:=by
 refine⟨fun r=>match r with | .slot i=>if A'.get i=.b9 then [] else F (.slot i) | .key k=>if lk k A'.h=none then [] else F (.key k),?_,?_⟩;have key:∀ r g,g∈(match r with | .slot i=>if A'.get i=.b9 then [] else F (.slot i) | .key k=>if lk k A'.h=none then [] else F (.key k):List Nat)->g∈F r:=by
  intro r g hg;cases r <;> simp only at hg <;> split at hg <;> simp_all
 refine⟨hs.size,hs.defers,fun i=>?_,fun k g v hk=>?_,fun r r' hne g hg=>?_,fun r=>?_,fun r g hg=>hs.free r g (key r g hg),hs.sub,hs.bound⟩;rcases h.1 i with e | e;simp only[e,if_true];rfl;simp only;split;rename_i e';rw[e'];rfl;rw[e];exact hs.slot i;simp only;rw[if_neg (by rw[hk];simp)];rcases h.2 k with e | e;rw[e]at hk;simp at hk;rw[e]at hk;exact hs.root k g v hk;exact fun RU=>hs.ck r r' hne g (key r g hg) (key r' g RU);cases r <;> simp only <;> split <;> first | exact Zba | exact hs.nodup _
 intro r g hg;cases r <;> simp only at hg <;> split at hg <;> simp_all
theorem u7.take(hs:u7 N Pb Kb A a w F)(x:Operand):∃ Fx F',RV w Pb (A.ev x) (a.eval x) Fx/\u7 N Pb Kb (A.drop x) a w F'/\Fx.Nodup/\
 (∀ r g,g∈Fx->g ∉ F' r)/\(∀ g,g∈Fx->¬ Kb g/\g<w.heap.size)/\(∀ r g,g∈F' r->g∈F r)/\∀ g,g∈Fx->∃ r,g∈F r:=by
 cases x with
 | tmp i=>
   by_cases ho:(A.get i).df=true;have hn:(A.drop (.tmp i))=A.put (some i) .b9:=by simp[AS.drop,ho]
   refine⟨F (.slot i),cf F (.slot i) [],hs.slot i,?_,hs.nodup _,fun r g hg=>?_,fun g hg=>hs.free _ g hg,fun r g hg=>?_,fun g hg=>⟨_,hg⟩⟩;rw[hn];refine⟨hs.size,hs.defers,fun j=>?_,fun k g v hk=>?_,fun r r' hne g hg=>?_,fun r=>?_,fun r g hg=>?_,hs.sub,hs.bound⟩;rw[AS.aB];by_cases e:j=i;subst e;simp[cf,RV,Wn];have:l9.slot j≠l9.slot i:=fun c=>e (by injection c);simp only[if_neg e,cf,if_neg this];exact hs.slot j;obtain⟨F',e,hr⟩:=hs.root k g v hk;exact⟨F',by simpa[cf] using e,hr⟩;simp only[cf]at hg ⊢;split at hg;simp at hg;split;simp;exact hs.ck r r' hne g hg;simp only[cf];split;exact Zba;exact hs.nodup r;simp only[cf]at hg;split at hg;simp at hg;exact hs.free r g hg;simp only[cf];split;simp;rename_i hne;exact hs.ck _ r (Ne.symm hne) g hg;simp only[cf]at hg;split at hg;simp at hg;exact hg;have SJ:(A.get i).df=false:=by simpa using ho
   have hF:=wz SJ (hs.slot i);refine⟨[],F,by have:=hs.slot i;rw[hF]at this;exact this,by simp[AS.drop,SJ];exact hs,Zba,Zad,Zad,fun _ _ h=>h,Zad⟩
 | const v=>exact⟨[],F,rQ v,hs,Zba,Zad,Zad,fun _ _ h=>h,Zad⟩
 | global g=>exact⟨[],F,⟨rfl,rfl⟩,hs,Zba,Zad,Zad,fun _ _ h=>h,Zad⟩
 | func f=>exact⟨[],F,⟨rfl,rfl,rfl⟩,hs,Zba,Zad,Zad,fun _ _ h=>h,Zad⟩
theorem wT{o:Oper}{K:AS->Prop}{C:Prop}{v:V}(h:J1 P A o.op=some (C,v))(hC:C)(hd:cB N o.dst)(hK:K (A.put o.dst v)):F9 P N o A K:=
 hY hd hK fun _ _ _ _ _ hs=>wo h hC hs rfl
theorem uV{o:Oper}{K:AS->Prop}{x:Operand}(ho:o.op=.assign x)(hd:cB N o.dst)(hK:K ((A.drop x).put o.dst (A.ev x))):F9 P N o A K:=by
 intro Pb Kb a w F Q hs;obtain⟨Fx,F',hr,A8,hnd,w7,hfr,_⟩:=hs.take x;unfold Oper.wp;have:(execOp a.eval o).run P w=.ok (.value (a.eval x)) w:=by simp only[execOp,ho];rfl
 rw[this,Oper.upon_value];cases OY:o.dst with
 | none=>exact⟨_,Pb,Kb,F',hK,by rw[OY];exact A8,fun _ h=>h,fun _ h=>h,fun _ h=>.inl h,A3.refl _ _⟩
 | some d=>
   rw[OY]at hd hK;exact⟨_,Pb,Kb,_,hK,A8.put hd hr (fun r _ g hg=>w7 r g hg) hnd hfr,fun _ h=>h,fun _ h=>h,fun _ h=>.inl h,A3.refl _ _⟩
def gd(ops:Array Oper)(o:Oper)(A:AS)(x y:Prop):Prop:=
 match o.guard with
 | none=>x
 | some (j,b)=>match ((ops[j]?).bind (·.dst)).map A.get with
   | some (.lit (.bool b'))=>if b'=b then x else y
   | some (.gv c (.lit (.bool b')))=>if (c&&(b'==b))=true then x else y
   | _=>False
def WL(P:Program)(N:Nat)(ops:Array Oper):List Oper->AS->(AS->Prop)->Prop
 | [],A,K=>K A
 | o::rest,A,K=>gd ops o A (F9 P N o A fun A'=>WL P N ops rest A' K) (cB N o.dst/\∃ u,(∀ w Pb,RV w Pb u undef [])/\WL P N ops rest (A.put o.dst u) K)
theorem uh{ops:Array Oper}{o:Oper}{x y:Prop}(h:gd ops o A x y)(hs:u7 N Pb Kb A a w F):
 (Region.wanted o (yielded ops a.tmps)=true/\x)\/(Region.wanted o (yielded ops a.tmps)=false/\y):=by
 unfold gd at h;unfold Region.wanted;split at h;rename_i hg;rw[hg];exact .inl ⟨rfl,h⟩;rename_i j b hg;rw[hg];split at h;rename_i b' hd;simp only[Option.map_eq_some_iff]at hd;obtain⟨d,N1,Tc⟩:=hd;have hr:=hs.slot d;rw[Tc]at hr;have hx:a.tmps.getD d undef=.bool b':=by have:=hr.2.1;simpa using this
 have hy:yielded ops a.tmps j=some b':=by
  unfold yielded;rw[N1];simp only[Option.bind_some];cases ht:a.tmps[d]? with
  | none=>simp[ht,undef]at hx
  | some u=>simp[ht]at hx;subst hx;rfl
 simp only[hy];split at h;rename_i e;subst e;exact .inl ⟨Zad,h⟩;rename_i e;exact .inr ⟨by simp[e],h⟩;rename_i c b' hd;simp only[Option.map_eq_some_iff]at hd;obtain⟨d,N1,Tc⟩:=hd;have hr:=hs.slot d;rw[Tc]at hr;obtain⟨_,Sn,O8⟩:=hr;cases c with
 | false=>
   have hx:=O8 rfl;have hy:yielded ops a.tmps j=none:=by
    unfold yielded;rw[N1];simp only[Option.bind_some];cases ht:a.tmps[d]? with
    | none=>simp
    | some u=>simp[ht]at hx;subst hx;rfl
   simp only[hy];simp only[Bool.false_and,Bool.false_eq_true,if_false]at h;exact .inr ⟨Zad,h⟩
 | true=>
   have hx:a.tmps.getD d undef=.bool b':=by have:=(Sn rfl).2.1;simpa using this
   have hy:yielded ops a.tmps j=some b':=by
    unfold yielded;rw[N1];simp only[Option.bind_some];cases ht:a.tmps[d]? with
    | none=>simp[ht,undef]at hx
    | some u=>simp[ht]at hx;subst hx;rfl
   simp only[hy];simp only[Bool.true_and,Zbl]at h;split at h;rename_i e;subst e;exact .inl ⟨Zad,h⟩;rename_i e;exact .inr ⟨by simp[e],h⟩
 exact h.elim
theorem Nx.mono{K K':AS->Prop}{a':Act}{w':World}(h:Nx N Pb Kb w K a' w')(hK:∀ A,K A->K' A):Nx N Pb Kb w K' a' w':=by
 obtain⟨A',Pb',E7,F',h1,h2⟩:=h;exact⟨A',Pb',E7,F',hK _ h1,h2⟩
theorem Nx.step{K:AS->Prop} {Pb' E7:Nat->Prop} {Ve:Act} {w' UO:World} (h3:∀ g,Pb g->Pb' g) (h4:∀ g,Kb g->E7 g) (h5:∀ g,Pb' g->Pb g\/¬ Kb g) (h6:A3 Kb w w')
 (h:Nx N Pb' E7 w' K Ve UO):Nx N Pb Kb w K Ve UO:=by
 obtain⟨A2,Qx,QG,F2,k1,k2,k3,k4,k5,k6⟩:=h;refine⟨A2,Qx,QG,F2,k1,k2,fun g hg=>k3 g (h3 g hg),fun g hg=>k4 g (h4 g hg),fun g hg=>?_,h6.trans k6 h4⟩;rcases k5 g hg with h | h;exact h5 g h;exact .inr fun c=>h (h4 g c)
theorem qY{ops:Array Oper}{Q:Exit->Act->World->Prop}:∀ (l:List Oper) {A:AS} {K:AS->Prop} {Pb Kb:Nat->Prop} {a:Act} {w:World} {F:l9->List Nat},
 WL P N ops l A K->u7 N Pb Kb A a w F->(∀ a' w',Nx N Pb Kb w K a' w'->Q .normal a' w')->wpList P ops Q l a w
 | [],A,K,Pb,Kb,a,w,F,h,hs,hQ=>hQ _ _ ⟨A,Pb,Kb,F,h,hs,fun _ h=>h,fun _ h=>h,fun _ h=>.inl h,A3.refl _ _⟩
 | o::rest,A,K,Pb,Kb,a,w,F,h,hs,hQ=>by
   unfold wpList;rcases uh h hs with ⟨hw,h⟩ | ⟨hw,hd,u,hu,h⟩;rw[if_pos hw];refine .inl (Oper.wp_mono (K:=Nx N Pb Kb w fun A'=>WL P N ops rest A' K) ?_ (h Pb Kb a w F Q hs));intro a' w' ⟨A',Pb',E7,F',h1,h2,h3,h4,h5,h6⟩;exact qY rest h1 h2 fun Ve UO hn=>hQ Ve UO (Nx.step h3 h4 h5 h6 hn);rw[if_neg (by simp[hw])];obtain⟨F',A8⟩:=hs.pz (d:=o.dst) (v:=u) (x:=undef) hd (hu w Pb);exact qY rest h A8 hQ
def T(P:Program)(N:Nat)(c:Code)(A:AS)(Q:Exit->AS->Prop):Prop:=
 ∀ Pb Kb a w F,u7 N Pb Kb A a w F->c.wp P (fun e a' w'=>Nx N Pb Kb w (Q e) a' w') a w
theorem lR{c:Code}{Q Q':Exit->AS->Prop}(h:T P N c A Q)(hQ:∀ e A,Q e A->Q' e A):T P N c A Q':=
 fun Pb Kb a w F hs=>wp_mono (h Pb Kb a w F hs) fun e _ _ hn=>hn.mono (hQ e)
theorem KR{Q:Exit->AS->Prop}(h:Q .normal A):T P N .skip A Q:=
 fun Pb Kb _ _ F hs=>wp_skip ⟨A,Pb,Kb,F,h,hs,fun _ h=>h,fun _ h=>h,fun _ h=>.inl h,A3.refl _ _⟩
theorem IV{l:Nat}{Q:Exit->AS->Prop}(h:Q .normal A):T P N (.label l) A Q:=
 fun Pb Kb _ _ F hs=>wp_label ⟨A,Pb,Kb,F,h,hs,fun _ h=>h,fun _ h=>h,fun _ h=>.inl h,A3.refl _ _⟩
theorem Ld{i:Nat}{Q:Exit->AS->Prop}(h:Q (.exit i) A):T P N (.exit i) A Q:=
 fun Pb Kb _ _ F hs=>wp_exit ⟨A,Pb,Kb,F,h,hs,fun _ h=>h,fun _ h=>h,fun _ h=>.inl h,A3.refl _ _⟩
theorem My{i:Nat}{Q:Exit->AS->Prop}(h:Q (.goto i) A):T P N (.goto i) A Q:=
 fun Pb Kb _ _ F hs=>wp_goto ⟨A,Pb,Kb,F,h,hs,fun _ h=>h,fun _ h=>h,fun _ h=>.inl h,A3.refl _ _⟩
theorem Nb{Q:Exit->AS->Prop}(h:Q .ret A):T P N .ret A Q:=
 fun Pb Kb _ _ F hs=>wp_ret ⟨A,Pb,Kb,F,h,hs,fun _ h=>h,fun _ h=>h,fun _ h=>.inl h,A3.refl _ _⟩
def thn(f:AS->Prop)(Q:Exit->AS->Prop):Exit->AS->Prop
 | .normal,A=>f A
 | e,A=>Q e A
theorem MR{x y:Code}{Q:Exit->AS->Prop}(h:T P N x A (thn (fun A'=>T P N y A' Q) Q)):T P N (.seq x y) A Q:=by
 intro Pb Kb a w F hs;refine wp_seq (wp_mono (h Pb Kb a w F hs) fun e a' w' hn=>?_);cases e with
 | normal=>
   obtain⟨A',Pb',E7,F',h1,h2,h3,h4,h5,h6⟩:=hn;exact wp_mono (h1 Pb' E7 a' w' F' h2) fun e _ _ hn=>Nx.step h3 h4 h5 h6 hn
 | _=>exact hn
theorem Ee{c:Operand}{x y:Code}{Q:Exit->AS->Prop}{b:Bool}(hc:A.ev c=.lit (.bool b))(ht:b=true->T P N x A Q)(hf:b=false->T P N y A Q):T P N (.cond c x y) A Q:=
 fun Pb Kb a w F hs=>wp_cond_split (bX hs hc) (fun h=>ht h Pb Kb a w F hs) (fun h=>hf h Pb Kb a w F hs)
def blk(id:Nat)(Q:Exit->AS->Prop):Exit->AS->Prop
 | .exit Ww,A=>if Ww=id then Q .normal A else Q (.exit Ww) A
 | e,A=>Q e A
theorem Jt{id:Nat}{c:Code}{Q:Exit->AS->Prop}(h:T P N c A (blk id Q)):T P N (.block id c) A Q:=by
 intro Pb Kb a w F hs;refine wp_block (wp_mono (h Pb Kb a w F hs) fun e a' w' hn=>?_);cases e with
 | exit Ww=>
   simp only[Exit.inBlock];have hb:∀ A,blk id Q (.exit Ww) A=if Ww=id then Q .normal A else Q (.exit Ww) A:=fun _=>rfl;by_cases e:Ww=id;rw[if_pos e];exact hn.mono fun A h=>by rw[hb,if_pos e]at h;exact h
   rw[if_neg e];exact hn.mono fun A h=>by rw[hb,if_neg e]at h;exact h
 | _=>exact hn
theorem Lb{c:Code} {Q:Exit->AS->Prop} (I:Nat->AS->Prop) (n:Nat) (h0:I n A)
 (round:∀ n A,I n A->T P N c A (thn (fun A'=> ∃ m,m<n/\I m A') Q)):T P N (.loop c) A Q:=by
 have key:∀ n A (Pb Kb:Nat->Prop) a w F,I n A->u7 N Pb Kb A a w F->∀ (b:Frame) (k:List Item) (cs:List Frame),
  ∃ e a' w',Nx N Pb Kb w (Q e) a' w'/\Arrives P (lone (b.at a (.code c :: .inLoop c::k)) cs w) b k cs e a' w':=by
  intro n;induction n using Nat.strongRecOn with
  | _ n ih=>
    intro A Pb Kb a w F hI hs b k cs;obtain⟨e,S8,SX,hq,R0⟩:=round n A hI Pb Kb a w F hs b (.inLoop c::k) cs;cases e with
    | normal=>
      obtain⟨A',Pb',E7,F',⟨m,hm,hI'⟩,h2,h3,h4,h5,h6⟩:=hq;obtain⟨x7,a₂,Sd,Yp,U7⟩:=ih m hm A' Pb' E7 S8 SX F' hI' h2 b k cs;exact⟨x7,a₂,Sd,Nx.step h3 h4 h5 h6 Yp,.of_steps (Steps.trans R0 (.one step_inLoop)) U7⟩
    | exit id=>exact⟨_,S8,SX,hq,.pass (x:=.inLoop c) rfl (fun _ _=>.inl Zad) R0⟩
    | goto l=>exact⟨_,S8,SX,hq,.pass (x:=.inLoop c) rfl (fun _ _=>.inl Zad) R0⟩
    | ret=>exact⟨_,S8,SX,hq,.pass (x:=.inLoop c) rfl (fun _ _=>.inl Zad) R0⟩
    | panic ch=>exact⟨_,S8,SX,hq,.pass (x:=.inLoop c) rfl (fun _ _=>.inl Zad) R0⟩
    | outgrown=>exact⟨_,S8,SX,hq,.pass (x:=.inLoop c) rfl (fun _ _=>.inl Zad) R0⟩
 intro Pb Kb a w F hs b k cs;obtain⟨e,a',w',hq,R0⟩:=key n A Pb Kb a w F h0 hs b k cs;exact⟨e,a',w',hq,.of_steps (.one step_loop) R0⟩
theorem GD{id:Nat}{ops:Array Oper}{Q:Exit->AS->Prop}(h:WL P N ops ops.toList A (Q .normal)):T P N (.region id ops false) A Q:=
 fun _ _ _ _ _ hs=>wp_region_list (qY _ h hs fun _ _ hn=>hn)
end
mutual
def V.er:V->V
 | .own _ xs _ _ _=>.sl false (V.E4 xs)
 | .ow _ xs=>.sl false (V.E4 xs)
 | .om es _=>.mp es
 | .agg vs=>.agg (V.E4 vs)
 | .tup vs=>.tup (V.E4 vs)
 | .gv _ _=>.b9
 | v=>v
def V.E4:List V->List V
 | []=>[]
 | v::vs=>v.er::V.E4 vs
end
def nr(P:Program)(f:FuncId):Prop:= ∀ args w,(callFunc f args).run P w=.ok (.enter f args) w
def PC(P:Program)(f:FuncId)(args:List V)(Q:V->Prop):Prop:=
 nr P f/\∀ (w:World) (Pb:Nat->Prop) (cargs:List Value),(∀ g,Pb g->g<w.heap.size)->RVs w Pb args cargs []->
  Calls P f cargs.toArray w fun e w'=> ∃ r x F Pb',e=.returned x/\Q r/\RV w' Pb' r x F/\F.Nodup/\(∀ g,g∈F->w.heap.size<=g/\g<w'.heap.size/\¬ Pb' g)/\
   (∀ g,Pb g->Pb' g)/\(∀ g,Pb' g->Pb g\/(w.heap.size<=g/\g<w'.heap.size))/\Below w.heap.size w w'
section
variable {w w':World} {Pb Kb Pb':Nat->Prop} {N:Nat} {A A':AS} {a:Act} {F:l9->List Nat} {P:Program}
mutual
theorem Hv:∀ v:V,v.er.n=v.n
 | .own .. =>rfl | .ow .. =>rfl | .om .. =>rfl | .mp .. =>rfl | .agg vs=>by simp only[V.er,V.n];exact Il vs
 | .tup _=>rfl | .gv _ _=>rfl | .lit _=>rfl | .sl .. =>rfl | .hd .. =>rfl | .ptr .. =>rfl | .ep _=>rfl | .b9=>rfl
theorem Il:∀ vs:List V,V.ns (V.E4 vs)=V.ns vs
 | []=>rfl | v::vs=>by simp only[V.E4,V.ns,Hv v,Il vs]
end
theorem lz:∀ vs:List V,V.E4 vs=vs.map V.er
 | []=>rfl | v::vs=>by simp[V.E4,lz vs]
mutual
theorem il:∀ (v:V) {cs F},R w Pb v cs F->(∀ g,Pb g->Pb' g)->(∀ g,g∈F->Pb' g)->R w Pb' v.er cs []
 | .lit x,_,_,h,_,_=>⟨h.1,h.2.1,rfl⟩
 | .agg vs,_,_,h,k1,k2=>by simp only[R,V.er]at h ⊢;exact rW vs h k1 k2
 | .tup _,_,_,h,_,_=>by simp[R]at h
 | .gv _ _,_,_,h,_,_=>by simp[R]at h
 | .sl full xs,cs,F,h,k1,k2=>by
   have hF:=h.1;subst hF;exact gD (w:=w) (.sl full xs) h (fun _ _=>rfl) Zad k1 Zad
 | .own sz xs g o c,cs,F,h,k1,k2=>by
   rcases h with ⟨rfl,rfl,rfl,A,rfl⟩ | ⟨h1,h2,h3,rfl,h5,h6,flat,F',cells,rfl,hr,hb,hsz,u0⟩;exact⟨rfl,A,0,rfl,Zbc _,fun h=>by simp at h,.inl rfl⟩;refine⟨rfl,some ⟨g,o,none⟩,c,by rw[lz];simp,by rw[lz];simpa using h3,fun h=>by simp at h,?_⟩;by_cases hx:xs=[];subst hx;exact .inl rfl;refine .inr ⟨g,o,sz,flat,rfl,k2 g Zad,h2,?_,rW xs hr k1 (fun g hg=>k2 g (by simp[hg])),fun j u hu=>by rw[eh hb];exact u0 j u hu⟩;intro v hv;rw[lz]at hv;obtain⟨u,hu,rfl⟩:=List.mem_map.1 hv;rw[Hv];exact h5 u hu
 | .ow sz xs,cs,F,h,k1,k2=>by
   obtain⟨g,o,c,h⟩:=h;rcases h with ⟨rfl,rfl,rfl,A,rfl⟩ | ⟨h1,h2,h3,rfl,h5,h6,flat,F',cells,rfl,hr,hb,hsz,u0⟩;exact⟨rfl,A,0,rfl,Zbc _,fun h=>by simp at h,.inl rfl⟩;refine⟨rfl,some ⟨g,o,none⟩,c,by rw[lz];simp,by rw[lz];simpa using h3,fun h=>by simp at h,?_⟩;by_cases hx:xs=[];subst hx;exact .inl rfl;refine .inr ⟨g,o,sz,flat,rfl,k2 g Zad,h2,?_,rW xs hr k1 (fun g hg=>k2 g (by simp[hg])),fun j u hu=>by rw[eh hb];exact u0 j u hu⟩;intro v hv;rw[lz]at hv;obtain⟨u,hu,rfl⟩:=List.mem_map.1 hv;rw[Hv];exact h5 u hu
 | .om es g,cs,F,h,k1,k2=>⟨rfl,g,h.2.1,k2 g (by rw[h.1];simp),h.2.2.2⟩
 | .mp es,cs,F,h,k1,_=>by obtain⟨_,g,h1,h2,h3⟩:=h;exact⟨rfl,g,h1,k1 g h2,h3⟩
 | .hd ..,_,_,h,_,_=>⟨rfl,h.2⟩
 | .ptr ..,_,_,h,_,_=>⟨rfl,h.2⟩
 | .ep v,cs,F,h,k1,k2=>by
   have hF:=h.1;subst hF;exact gD (w:=w) (.ep v) h (fun _ _=>rfl) Zad k1 Zad
 | .b9,_,_,h,_,_=>⟨rfl,h.2⟩
theorem rW:∀ (vs:List V) {cs F},RL w Pb vs cs F->(∀ g,Pb g->Pb' g)->(∀ g,g∈F->Pb' g)->RL w Pb' (V.E4 vs) cs []
 | [],_,_,h,_,_=>⟨h.1,rfl⟩
 | v::vs,_,_,h,k1,k2=>by
   obtain⟨c1,c2,F1,F2,rfl,rfl,h1,h2⟩:=h;exact⟨c1,c2,[],[],rfl,rfl,il v h1 k1 (fun g hg=>k2 g (by simp[hg])),rW vs h2 k1 (fun g hg=>k2 g (by simp[hg]))⟩
end
theorem DS:∀ (vs:List V) {xs F},RVs w Pb vs xs F->(∀ g,Pb g->Pb' g)->(∀ g,g∈F->Pb' g)->RVs w Pb' (V.E4 vs) xs []
 | [],_,_,h,_,_=>⟨h.1,rfl⟩
 | v::vs,_,_,h,k1,k2=>by
   obtain⟨x,xs',F1,F2,rfl,rfl,h1,h2⟩:=h;refine⟨x,xs',[],[],rfl,rfl,?_,DS vs h2 k1 (fun g hg=>k2 g (by simp[hg]))⟩;have Uy:∀ g,g∈F1->Pb' g:=fun g hg=>k2 g (by simp[hg]);cases v with
   | agg us=>obtain⟨cs,e,h1⟩:=h1;exact⟨cs,e,rW us h1 k1 Uy⟩
   | b9=>rfl
   | tup _=>simp[R]at h1
   | gv _ _=>simp[R]at h1
   | own sz xs g o c=>exact il (w:=w) (Pb:=Pb) (.own sz xs g o c) h1 k1 Uy
   | ow sz xs=>exact il (w:=w) (Pb:=Pb) (.ow sz xs) h1 k1 Uy
   | om es g=>exact il (w:=w) (Pb:=Pb) (.om es g) h1 k1 Uy
   | mp es=>exact il (w:=w) (Pb:=Pb) (.mp es) h1 k1 Uy
   | lit x=>exact il (w:=w) (Pb:=Pb) (.lit x) h1 k1 Uy
   | sl f xs=>exact il (w:=w) (Pb:=Pb) (.sl f xs) h1 k1 Uy
   | hd r p sz g o lo n c=>exact il (w:=w) (Pb:=Pb) (.hd r p sz g o lo n c) h1 k1 Uy
   | ptr r p g o=>exact il (w:=w) (Pb:=Pb) (.ptr r p g o) h1 k1 Uy
   | ep v=>exact il (w:=w) (Pb:=Pb) (.ep v) h1 k1 Uy
theorem Ir{v:V}{x:Value}{F:List Nat}(h:RV w Pb v x F)(k1:∀ g,Pb g->Pb' g)(k2:∀ g,g∈F->Pb' g):RV w Pb' v.er x []:=by
 cases v with
 | tup vs=>obtain⟨xs,e,h⟩:=h;exact⟨xs,e,DS vs h k1 k2⟩
 | gv _ _=>rfl
 | agg us=>obtain⟨cs,e,h⟩:=h;exact⟨cs,e,rW us h k1 k2⟩
 | b9=>rfl
 | own sz xs g o c=>exact il (w:=w) (Pb:=Pb) (.own sz xs g o c) h k1 k2
 | ow sz xs=>exact il (w:=w) (Pb:=Pb) (.ow sz xs) h k1 k2
 | om es g=>exact il (w:=w) (Pb:=Pb) (.om es g) h k1 k2
 | mp es=>exact il (w:=w) (Pb:=Pb) (.mp es) h k1 k2
 | lit x=>exact il (w:=w) (Pb:=Pb) (.lit x) h k1 k2
 | sl f xs=>exact il (w:=w) (Pb:=Pb) (.sl f xs) h k1 k2
 | hd r p sz g o lo n c=>exact il (w:=w) (Pb:=Pb) (.hd r p sz g o lo n c) h k1 k2
 | ptr r p g o=>exact il (w:=w) (Pb:=Pb) (.ptr r p g o) h k1 k2
 | ep v=>exact il (w:=w) (Pb:=Pb) (.ep v) h k1 k2
theorem u7.grow{Qx QG:Nat->Prop} (hs:u7 N Pb Kb A a w F) (hb:∀ k,k<w.heap.size->w'.heap[k]? =w.heap[k]?) (hsz:w.heap.size<=w'.heap.size) (h1:∀ g,Pb g->Qx g)
 (h4:∀ g,QG g->Kb g\/(w.heap.size<=g/\g<w'.heap.size)) (h5:∀ g,Qx g->QG g):u7 N Qx QG A a w' F where
 size:=hs.size
 defers:=hs.defers
 slot:=fun i=>mI _ (hs.slot i) (fun g hg=>hb g (hs.bound g (hs.sub g hg))) (fun g hg=>hb g (hs.free _ g hg).2) h1 (fun g hg c=>by
  have hf:=hs.free _ g hg;rcases h4 g (h5 g c) with h | h;exact hf.1 h;omega)
 root:=fun k g v hk=>by
  obtain⟨F',e,cs,cells,⟨e',fr,K4,hfr⟩,hr,hc⟩:=hs.root k g v hk;have hin:∀ x,x∈g::F'->x<w.heap.size/\¬ Qx x:=fun x hx=>by
   have hf:=hs.free (.key k) x (by rw[e];exact hx);refine⟨hf.2,fun c=>?_⟩;rcases h4 x (h5 x c) with h | h;exact hf.1 h;omega
  exact⟨F',e,cs,cells,⟨e',fr,(hb g (hin g Zad).1).trans K4,hfr⟩,gD _ hr (fun g hg=>hb g (hs.bound g (hs.sub g hg))) (fun x hx=>hb x (hin x (by simp[hx])).1) h1 (fun x hx=>(hin x (by simp[hx])).2),hc⟩
 ck:=hs.ck
 nodup:=hs.nodup
 free:=fun r g hg=>by
  have hf:=hs.free r g hg;refine⟨fun c=>?_,Zac⟩;rcases h4 g c with h | h;exact hf.1 h;omega
 sub:=h5
 bound:=fun g hg=>by
  rcases h4 g hg with h | h;have:=hs.bound g h;omega;exact h.2
theorem A3.Ak(h:Below w.heap.size w w')(hK:∀ g,Kb g->g<w.heap.size):A3 Kb w w':=
 ⟨h.os,h.tape,h.output,h.size,fun g hg=>h.block g (hK g hg),Shp.of_eq h.block⟩
theorem tO(hs:u7 N Pb Kb A a w F):∀ xs:List Operand,RVs w Pb (xs.map A.cp) (xs.map a.eval) []
 | []=>⟨rfl,rfl⟩
 | x::xs=>by
   refine⟨a.eval x,xs.map a.eval,[],[],rfl,rfl,?_,tO hs xs⟩;have h:=pZ hs x;cases hv:A.cp x with
   | tup vs=>
     exfalso;cases x with
     | tmp i=>
       simp only[AS.cp]at hv;cases hg:A.get i <;> rw[hg]at hv <;> first | (solve | simp only[V.cp,V.S6,reduceCtorEq]at hv) | (unfold V.cp at hv;simp only[V.S6,reduceCtorEq]at hv)
     | const c=>
       simp only[AS.cp,AS.ev]at hv;cases c <;> simp[cV,Vc]at hv;split at hv <;> simp at hv;split at hv <;> simp at hv
     | _=>simp[AS.cp,AS.ev]at hv
   | gv b u=>
     exfalso;cases x with
     | tmp i=>
       simp only[AS.cp]at hv;cases hg:A.get i <;> rw[hg]at hv <;> first | (solve | simp only[V.cp,V.S6,reduceCtorEq]at hv) | (unfold V.cp at hv;simp only[V.S6,reduceCtorEq]at hv)
     | const c=>
       simp only[AS.cp,AS.ev]at hv;cases c <;> simp[cV,Vc]at hv;split at hv <;> simp at hv;split at hv <;> simp at hv
     | _=>simp[AS.cp,AS.ev]at hv
   | agg us=>rw[hv]at h;exact h
   | b9=>rfl
   | own sz xs g o c=>rw[hv]at h;exact h
   | ow sz xs=>rw[hv]at h;exact h
   | om es g=>rw[hv]at h;exact h
   | mp es=>rw[hv]at h;exact h
   | lit x=>rw[hv]at h;exact h
   | sl f xs=>rw[hv]at h;exact h
   | hd r p sz g o lo n c=>rw[hv]at h;exact h
   | ptr r p g o=>rw[hv]at h;exact h
   | ep v=>rw[hv]at h;exact h
theorem GH{o:Oper} {K:AS->Prop} {f:FuncId} {xs:Array Operand} {M6:Array TypeId} {Q:V->Prop} (ho:o.op=.call { callee:=.value (.func f),args:=xs,argTypes:=M6 })
 (hd:cB N o.dst) (hc:PC P f (xs.toList.map A.cp) Q) (hK:∀ r,Q r->K (A.put o.dst r)):F9 P N o A K:=by
 intro Pb Kb a w F Q' hs;unfold Oper.wp;have B5:(execOp a.eval o).run P w=.ok (.enter f (xs.map a.eval)) w:=by
  simp only[execOp,ho,resolve,Act.eval,Deferred.ofValue,Za0,Za1,Zas,invoke];have:=hc.1 (xs.map a.eval) w;simpa using this
 rw[B5,Oper.upon_enter];have hargs:=tO hs xs.toList;have L8:=hc.2 w Pb (xs.toList.map a.eval) (fun g hg=>hs.bound g (hs.sub g hg)) hargs;have e:(xs.toList.map a.eval).toArray=xs.map a.eval:=by rw[<- Array.toList_map,Array.toArray_toList]
 rw[e]at L8;refine L8.mono ?_;rintro e w' ⟨r,x,Fr,Pb',rfl,hq,hr,hnd,hfr,h1,h2,hb⟩;have A8:u7 N Pb' (fun g=>Kb g\/Pb' g) A a w' F:=hs.grow hb.block hb.size h1 (fun g hg=>by
  rcases hg with h | h;exact .inl h;rcases h2 g h with h | h;exact .inl (hs.sub g h);exact .inr h) (fun g hg=>.inr hg)
 have T0:∀ g,g∈Fr->¬ (Kb g\/Pb' g)/\g<w'.heap.size:=fun g hg=>by
  obtain⟨f1,f2,f3⟩:=hfr g hg;refine⟨fun c=>?_,f2⟩;rcases c with c | c;have:=hs.bound g c;omega;exact f3 c
 have hnx:∀ A' a' F',K A'->u7 N Pb' (fun g=>Kb g\/Pb' g) A' a' w' F'->Nx N Pb Kb w K a' w':=fun A' a' F' hk WH=>
  ⟨A',Pb',_,F',hk,WH,h1,fun g hg=>.inl hg,fun g hg=>by
   rcases h2 g hg with h | h;exact .inl h;exact .inr fun c=>by have:=hs.bound g c;omega,A3.Ak hb hs.bound⟩
 cases OY:o.dst with
 | none=>exact hnx _ _ F (hK r hq) (by rw[OY];exact A8)
 | some d=>
   rw[OY]at hd;refine hnx _ _ (cf F (.slot d) Fr) (hK r hq) ?_;rw[OY];refine A8.put hd hr (fun rt _ g hg=>?_) hnd T0;intro L9;have:=(hs.free rt g L9).2;have:=(hfr g hg).1;omega
theorem oD{o:Oper} {K:AS->Prop} {f:FuncId} {xs:Array Operand} {M6:Array TypeId} {Q:V->Prop} {E:V} (ho:o.op=.call { callee:=.value (.func f),args:=xs,argTypes:=M6 })
 (hd:cB N o.dst) (hc:PC P f (xs.toList.map A.cp) Q) (hE:∀ r,Q r->r.er=E) (hK:K (A.put o.dst E)):F9 P N o A K:=by
 have L9:PC P f (xs.toList.map A.cp) (fun r=>r=E):=by
  refine⟨hc.1,fun w Pb cargs h1 h2=>(hc.2 w Pb cargs h1 h2).mono ?_⟩;rintro e w' ⟨r,x,Fr,Pb',rfl,hq,hr,hnd,hfr,k1,k2,hb⟩;refine⟨E,x,[],fun g=>Pb' g\/g∈Fr,rfl,rfl,?_,Zba,Zad,fun g hg=>.inl (k1 g hg),fun g hg=>?_,hb⟩;rw[<- hE r hq];exact Ir hr (fun g hg=>.inl hg) (fun g hg=>.inr hg);rcases hg with h | h;exact k2 g h;obtain⟨f1,f2,_⟩:=hfr g h;exact .inr ⟨f1,f2⟩
 exact GH ho hd L9 fun r hr=>by rw[hr];exact hK
def enum(k:Nat):List V->List (Nat×V)
 | []=>[]
 | v::vs=>(k,v)::enum (k+1) vs
def yH(A:AS):ResultVar->Option (l9×V)
 | .tmp t=>some (.slot t,A.get t)
 | .cell t _=>match A.get t with
   | .ptr (.key k) [] g 0=>match lk k A.h with
     | some (g',v)=>if g'=g then some (.key k,v) else none
     | none=>none
   | _=>none
def qf(A:AS):List ResultVar->Option (List (l9×V))
 | []=>some []
 | r::rs=>match yH A r,qf A rs with
   | some x,some xs=>some (x::xs)
   | _,_=>none
def pA(P:Program):List ResultVar->List (l9×V)->Prop
 | .cell _ T::rs,(_,v)::xs=>(match ti P T with | some i=>v.n=i.sz/\i.d.agg=v.isAgg | none=>False)/\pA P rs xs
 | .tmp _::rs,(_,v)::xs=>(match v with | .tup _=>False | .gv _ _=>False | _=>True)/\pA P rs xs
 | [],[]=>True
 | _,_=>False
def one(vs:List V):V:=match vs with | [v]=>v | vs=>.tup vs
theorem Bc:∀ (vs:List V) (k i:Nat),lk i (enum k vs)=if k<=i then vs[i-k]? else none
 | [],k,i=>by simp[enum,lk]
 | v::vs,k,i=>by
   simp only[enum,lk];by_cases h:i=k;subst h;simp;rw[if_neg h,Bc vs (k+1) i];by_cases h':k+1<=i;rw[if_pos h',if_pos Zac];have:i-k=(i-(k+1))+1:=Zac;rw[this];rfl;rw[if_neg h',if_neg Zac]
theorem FJ:∀ (vs:List V) {xs:List Value} {i:Nat} {v:V},RVs w Pb vs xs []->vs[i]? =some v->∃ x,xs[i]? =some x/\RV w Pb v x []
 | [],_,_,_,_,h=>by simp at h
 | v::vs,xs,0,u,h,hi=>by
     obtain⟨x,xs',F1,F2,rfl,hF,h1,h2⟩:=h;have hF1:F1=[]:=by have:=hF.symm;simp at this;exact this.1
     subst hF1;simp at hi;subst hi;refine⟨x,rfl,?_⟩;cases v with
     | agg us=>exact h1
     | b9=>exact h1
     | tup us=>simp[R]at h1
     | gv _ _=>simp[R]at h1
     | _=>exact h1
 | v::vs,xs,i+1,u,h,hi=>by
     obtain⟨x,xs',F1,F2,rfl,hF,h1,h2⟩:=h;have hF2:F2=[]:=by have:=hF.symm;simp at this;exact this.2
     subst hF2;obtain⟨y,hy,hr⟩:=FJ vs h2 Zbn;exact⟨y,by simpa using hy,hr⟩
theorem wS:∀ (vs:List V) {xs:List Value} {F},RVs w Pb vs xs F->xs.length=vs.length
 | [],_,_,h=>by rw[h.1];rfl
 | v::vs,_,_,h=>by
   obtain⟨x,xs',F1,F2,rfl,_,_,h2⟩:=h;simp[wS vs h2]
def Xh(a:Act):ResultVar->Sem Value
 | .tmp t=>pure (a.tmps.getD t undef)
 | .cell t T=>do loadVar T (<- asAddr (a.tmps.getD t undef))
def Ro(w:World)(Pb:Nat->Prop)(v:V)(x:Value)(F:List Nat):Prop:=match v with
 | .agg us=> ∃ cs,x=.agg cs/\RL w Pb us cs.toList F
 | .b9=>F=[]
 | v=>R w Pb v [x] F
theorem EZ{v:V}{x:Value}{F1:List Nat}(h:RV w Pb v x F1)(hn:(∀ us,v≠.tup us)/\∀ b u,v≠.gv b u):Ro w Pb v x F1:=by
 cases v with
 | tup us=>exact absurd rfl (hn.1 us)
 | gv b u=>exact absurd rfl (hn.2 b u)
 | _=>exact h
theorem LR{i:Option TI}{v:V}(h:match i with | some i=>v.n=i.sz/\i.d.agg=v.isAgg | none=>False):∃ j,i=some j/\v.n=j.sz/\j.d.agg=v.isAgg:=by
 cases i with
 | none=>exact h.elim
 | some j=>exact⟨j,rfl,h⟩
instance:LawfulMonad Sem:=LawfulMonad.mk' Sem (id_map:=fun x=>by
 show x.bind (fun a=>Sem.pure (id a))=x;exact Sem.bind_pure' x)
 (pure_bind:=fun _ _=>rfl) (bind_assoc:=fun x f g=>Sem.bind_assoc' x f g)
theorem xN(hs:u7 N Pb Kb A a w F):∀ (rs:List ResultVar) {xs:List (l9×V)},qf A rs=some xs->pA P rs xs->(xs.map (·.1)).Nodup->
 ∃ (vs:List Value) (Fr:List Nat),(rs.mapM (Xh a)).run P w=.ok vs w/\
   RVs w Pb (xs.map (·.2)) vs Fr/\Fr.Nodup/\(∀ g,g∈Fr->∃ r,r∈xs.map (·.1)/\g∈F r)
 | [],xs,h,_,_=>by
   simp[qf]at h;subst h;exact⟨[],[],rfl,⟨rfl,rfl⟩,Zba,Zad⟩
 | r::rs,xs,h,PD,hnd=>by
   simp only[qf]at h;split at h
   case h_2=>simp at h
   rename_i x xs' hx Ta;simp only[Zan]at h;subst h;simp only[Zbe,List.nodup_cons]at hnd;have hok2:pA P rs xs':=by
    obtain⟨xr,xv⟩:=x;cases r <;> exact PD.2
   obtain⟨vs,Fr,B5,hrv,Qg,hin⟩:=xN hs rs Ta hok2 hnd.2;have h1:∃ (v:Value) (F1:List Nat),(Xh a r).run P w=.ok v w/\RV w Pb x.2 v F1/\((∀ us,x.2≠.tup us)/\∀ b u,x.2≠.gv b u)/\F1.Nodup/\∀ g,g∈F1->g∈F x.1:=by
    cases r with
    | tmp t=>
      simp only[yH,Zan]at hx;subst hx;have PD:=PD.1;exact⟨_,F (.slot t),rfl,hs.slot t,⟨fun us e=>by have e':A.get t=.tup us:=e;rw[e']at PD;exact PD,fun b u e=>by have e':A.get t=.gv b u:=e;rw[e']at PD;exact PD⟩,hs.nodup _,fun _ h=>h⟩
    | cell t T=>
      simp only[yH]at hx;split at hx
      case h_2=>simp at hx
      rename_i k g hg;split at hx
      case h_2=>simp at hx
      rename_i g' v hk;split at hx
      case isFalse=>simp at hx
      rename_i e;subst e;simp only[Zan]at hx;subst hx;have UY:=PD.1;obtain⟨i,hi,UY⟩:=LR UY;obtain⟨F',e,cs,cells,hb,hr,hc⟩:=hs.root k g' v hk;have hp:=hs.slot t;rw[hg]at hp;have hp:a.tmps.getD t undef=.pointer (some ⟨g',0,none⟩):=by have:=hp.2;simpa using this
      obtain⟨y,hy,Yk⟩:=mD (w:=w) hi hr UY.1 UY.2 (g:=g') (o:=0) (fun j u hu=>by rw[eh hb];exact hc j u hu);refine⟨y,F',by simp only[Xh,hp,asAddr,Za0,Za1,Zas,hy],Yk,?_,?_,?_⟩;exact⟨fun us e=>by simp only at e;subst e;simp[R]at hr,fun b u e=>by simp only at e;subst e;simp[R]at hr⟩;have:=hs.nodup (.key k);rw[e]at this;exact(List.nodup_cons.1 this).2;intro g hg;rw[e];simp[hg]
   obtain⟨v,F1,hv,Sn,hnt,WS,YA⟩:=h1;refine⟨v::vs,F1++Fr,?_,?_,?_,?_⟩;rw[List.mapM_cons];simp only[Za0,Za1];rw[hv];simp only[Zas,B5];exact⟨v,vs,F1,Fr,rfl,rfl,EZ Sn hnt,hrv⟩;refine List.nodup_append.2 ⟨WS,Qg,fun p hp q hq e=>?_⟩;subst e;obtain⟨r',F7,RU⟩:=hin p hq;exact hs.ck x.1 r' (fun c=>hnd.1 (by rw[c];exact F7)) p (YA p hp) RU;intro g hg;rcases Zax.1 hg with h | h;exact⟨x.1,Zad,YA g h⟩;obtain⟨r',F7,RU⟩:=hin g h;exact⟨r',by simp only[Zbe,List.mem_cons];exact .inr F7,RU⟩
theorem DZ:∀ (us:List V) {vs:List Value} {Fr:List Nat},RVs w Pb us vs Fr->RV w Pb (one us) (if h:vs.toArray.size=1 then vs.toArray[0] else .tuple vs.toArray) Fr
 | [],vs,Fr,h=>by obtain⟨rfl,rfl⟩:=h;exact⟨#[],rfl,rfl,rfl⟩
 | [v],vs,Fr,h=>by
   obtain⟨x,xs',F1,F2,rfl,rfl,h1,h2⟩:=h;obtain⟨rfl,rfl⟩:=h2;simp only[List.append_nil];show RV w Pb v x F1;cases v with
   | tup _=>simp[R]at h1
   | gv _ _=>simp[R]at h1
   | _=>exact h1
 | v::v'::us,vs,Fr,h=>by
   have hl:=wS _ h;rw[dif_neg (by simp at hl ⊢;omega)];exact⟨vs.toArray,rfl,Zbq⟩
theorem AQ(hs:u7 N Pb Kb A a w F){fn:Func}{xs:List (l9×V)}(h1:qf A fn.results.toList=some xs)(h2:pA P fn.results.toList xs)(h3:(xs.map (·.1)).Nodup):
 ∃ x Fr,(results fn a.tmps).run P w=.ok x w/\RV w Pb (one (xs.map (·.2))) x Fr/\Fr.Nodup/\∀ g,g∈Fr->∃ r,r∈xs.map (·.1)/\g∈F r:=by
 obtain⟨vs,Fr,B5,hrv,hnd,hin⟩:=xN hs _ h1 h2 h3;have hm:(fn.results.mapM (Xh a)).run P w=.ok vs.toArray w:=by
  rw[<- Array.toArray_toList (xs:=fn.results),List.mapM_toArray,Sem.run_map,B5];rfl
 have hfun:(results fn a.tmps).run P w=.ok (if h:vs.toArray.size=1 then vs.toArray[0] else .tuple vs.toArray) w:=by
  show ((fn.results.mapM (Xh a)).bind _).run P w=_;have:=Za0 (P:=P) (w:=w) (x:=fn.results.mapM (Xh a)) (f:=fun vs=>(pure (if h:vs.size=1 then vs[0] else .tuple vs):Sem Value));rw[hm]at this;exact this
 exact⟨_,Fr,hfun,DZ _ hrv,hnd,hin⟩
end
def Str(l:BL):ByteArray:=⟨l.toArray⟩
theorem ib(l:BL):(Str l).size=l.length:=by simp[Str,ByteArray.size]
theorem JB(a b:BL):Str a++Str b=Str (a++b):=by
 apply ByteArray.ext;simp[Str]
theorem Jr(l:BL)(i j:Nat):(Str l).extract i j=Str ((l.take j).drop i):=by
 apply ByteArray.ext;rw[ByteArray.data_extract];simp[Str,List.extract,List.drop_take]
theorem LM(l:BL)(i:Int):btV (Str l) i=.lit (.int .u8 (l.getD i.toNat 0).toNat):=by
 unfold btV Str;simp[Array.getD,List.getD];split <;> simp_all
def Ma(P:Program)(N:Nat):List Oper->AS->Prop×AS×List Oper
 | [],A=>(True,A,[])
 | o::rest,A=>match o.guard with
   | some _=>(True,A,o::rest)
   | none=>match o.op with
     | .assign x=>match Ma P N rest ((A.drop x).put o.dst (A.ev x)) with
       | (C,r)=>(cB N o.dst/\C,r)
     | op=>match J1 P A op with
       | some (C,v)=>match Ma P N rest (A.put o.dst v) with
         | (C',r)=>(cB N o.dst/\C/\C',r)
       | none=>(True,A,o::rest)
theorem ey{P:Program}{f:FuncId}{fn:Func}(hf:P.funcs[f]? =some fn)(hn:(fn.name== "runtime.NumGoroutine")=false)(hb:fn.body.isNone=false):nr P f:=by
 intro args w;unfold callFunc;simp only[Za0,run_program,Zas,hf,hn,hb,Bool.false_eq_true,if_false,Za1]
def V.set(v:V):List Nat->V->V
 | [],u=>u
 | j::p,u=>match v with
   | .agg vs=>match vs[j]? with
     | some x=>.agg (vs.set j (V.set x p u))
     | none=>v
   | .own sz xs g o c=>match xs[j]? with
     | some x=>.own sz (xs.set j (V.set x p u)) g o c
     | none=>v
   | _=>v
section
variable {w w':World} {Pb Kb:Nat->Prop}
def Wp(w:World)(Pb:Nat->Prop)(vs:List V)(g o:Nat)(F:List Nat):Prop:=
 ∃ cs cells,Blk w g cells/\RL w Pb vs cs F/\∀ j u,cs[j]? =some u->cells[o+j]? =some u
theorem uc{v:V}{vs:List V}{g o:Nat}{F:List Nat}:Wp w Pb (v::vs) g o F↔∃ F1 F2,F=F1++F2/\At w Pb v g o F1/\Wp w Pb vs g (o+v.n) F2:=by
 constructor;rintro⟨cs,cells,hb,⟨c1,c2,F1,F2,rfl,rfl,h1,h2⟩,hc⟩;refine⟨F1,F2,rfl,⟨c1,cells,hb,h1,fun j u hu=>hc j u ?_⟩,⟨c2,cells,hb,h2,fun j u hu=>?_⟩⟩;rw[Za9 (Za3.1 hu).1];exact hu;have hl:=eI v h1;rw[<- hl,Zbj];refine hc _ u ?_;rw[Za4 Zac];have e:c1.length+j-c1.length=j:=Zac;rw[e];exact hu;rintro⟨F1,F2,rfl,⟨c1,cells,⟨e1,f1,hb,hf⟩,h1,P7⟩,⟨c2,n8,⟨e2,f2,K4,_⟩,h2,Ua⟩⟩;rw[hb]at K4;simp only[Zan,Obj.cells.injEq]at K4;obtain⟨rfl,_,_⟩:=K4;refine⟨c1++c2,cells,⟨e1,f1,hb,hf⟩,⟨c1,c2,F1,F2,rfl,rfl,h1,h2⟩,fun j u hu=>?_⟩;have hl:=eI v h1;by_cases hj:j<c1.length;rw[Za9 hj]at hu;exact P7 j u hu;rw[Za4 Zac]at hu;have:=Ua _ u hu;rw[<- hl]at this;have e:o+c1.length+(j-c1.length)=o+j:=Zac
 rwa [e]at this
theorem AB{vs:List V}{g o:Nat}{F:List Nat}:At w Pb (.agg vs) g o F↔Wp w Pb vs g o F:=by
 constructor;rintro⟨cs,cells,hb,h,hc⟩;exact⟨cs,cells,hb,by simpa only[R] using h,hc⟩;rintro⟨cs,cells,hb,h,hc⟩;exact⟨cs,cells,hb,by simpa only[R] using h,hc⟩
theorem xm{l:List Value}{cells:Array Value}{o:Nat}(h:∀ j u,l[j]? =some u->cells[o+j]? =some u)(hl:l≠[]):o+l.length<=cells.size:=by
 have J':0<l.length:=List.length_pos_iff.2 hl;have:=h (l.length-1) _ (Zat Zac);have:=(Zbh.1 this).1;omega
theorem pC{v:V} {g o:Nat} {F:List Nat} (h:At w Pb v g o F) (k1:∀ x,Pb x->w'.heap[x]? =w.heap[x]?) (k2:∀ x,x∈F->w'.heap[x]? =w.heap[x]?) (k3:∀ x,x∈F->¬ Pb x)
 (k4:∀ cells,Blk w g cells->∃ n8,Blk w' g n8/\∀ j,o<=j->j<o+v.n->n8[j]? =cells[j]?):At w' Pb v g o F:=by
 obtain⟨cs,cells,hb,hr,hc⟩:=h;obtain⟨n8,K4,he⟩:=k4 cells hb;refine⟨cs,n8,K4,gD v hr k1 k2 (fun _ h=>h) k3,fun j u hu=>?_⟩;have hl:=eI v hr;have hj:=(Za3.1 hu).1;rw[he _ Zac Zac];exact hc j u hu
theorem EX{vs:List V} {g o:Nat} {F:List Nat} (h:Wp w Pb vs g o F) (k1:∀ x,Pb x->w'.heap[x]? =w.heap[x]?) (k2:∀ x,x∈F->w'.heap[x]? =w.heap[x]?) (k3:∀ x,x∈F->¬ Pb x)
 (k4:∀ cells,Blk w g cells->∃ n8,Blk w' g n8/\∀ j,o<=j->j<o+V.ns vs->n8[j]? =cells[j]?):Wp w' Pb vs g o F:=by
 rw[<- AB]at h ⊢;exact pC h k1 k2 k3 k4
structure C9 (w w':World) (g o:Nat) (cs:List Value):Prop where
 os:w'.os=w.os
 tape:w'.tape=w.tape
 output:w'.output=w.output
 size:w'.heap.size=w.heap.size
 PS:∀ k,k≠g->w'.heap[k]? =w.heap[k]?
 shape:Shp w w'
 QK:∀ cells,Blk w g cells->∃ n8,Blk w' g n8/\n8.size=cells.size/\(∀ j,j<o\/o+cs.length<=j->n8[j]? =cells[j]?)/\(∀ j u,cs[j]? =some u->n8[o+j]? =some u)
theorem iy:∀ (p:List Nat) {v u:V} {g o g' o':Nat} {F},At w Pb v g o F->V.at g o v p=some (g',o',u)->(g'=g/\o<=o'/\o'+u.n<=o+v.n)\/g'∈F
 | [],v,u,g,o,g',o',F,h,e=>by
   simp only[V.at,Zan,Zaq]at e;obtain⟨rfl,rfl,rfl⟩:=e;exact .inl ⟨rfl,Zbc _,Zbc _⟩
 | j::p,v,u,g,o,g',o',F,h,e=>by
   simp only[V.at]at e;split at e;rename_i vs;split at e;rename_i x hx;obtain⟨cs,cells,hb,hr,hc⟩:=h;simp only[R]at hr;obtain⟨c,F',F7,hF,L9⟩:=gG vs hr hx;rcases iy p (v:=x) ⟨c,cells,hb,F7,fun i u hu=>by rw[Zbj];exact hc _ _ (L9 i u hu)⟩ e with ⟨h1,h2,h3⟩ | h1;left;refine⟨h1,Zac,?_⟩;have hle:V.ns (vs.take j)+x.n<=V.ns vs:=by
    clear e hr hc F7 L9 hF h3 h2;induction vs generalizing j with
    | nil=>simp at hx
    | cons v0 vs ih=>
      cases j with
      | zero=>simp at hx;subst hx;simp[V.ns]
      | succ j=>have:=ih (j:=j) (by simpa using hx);simp only[List.take_succ_cons,V.ns];omega
   simp only[V.n];omega;exact .inr (hF _ h1);simp at e;rename_i sz xs g1 o1 c1;split at e;rename_i x hx;obtain⟨cs,cells,hb,hr,hc⟩:=h;rcases hr with ⟨_,rfl,_⟩ | ⟨_,_,_,_,ha,_,flat,F',n8,rfl,hr,K4,_,L9⟩;simp at hx;obtain⟨c,PI,F7,hF,Qv⟩:=gG xs hr hx;have hj:j<=xs.length:=Zbr
   rw[eg xs j ha hj]at Qv;rcases iy p (v:=x) ⟨c,n8,K4,F7,fun i u hu=>Zbs⟩ e with ⟨h1,_⟩ | h1;right;simp[h1];right;simp[hF _ h1];simp at e;simp at e
theorem mJ:∀ (p:List Nat) {v u u':V} {g o g' o':Nat},V.at g o v p=some (g',o',u)->u'.n=u.n->(v.set p u').n=v.n
 | [],v,u,u',g,o,g',o',e,h=>by
   simp only[V.at,Zan,Zaq]at e;obtain⟨_,_,rfl⟩:=e;exact h
 | j::p,v,u,u',g,o,g',o',e,h=>by
   simp only[V.at]at e;simp only[V.set];split at e;rename_i vs;split at e;rename_i x hx;have ih:=mJ p e h;simp only[hx,V.n];clear e;induction vs generalizing j with
   | nil=>simp at hx
   | cons v0 vs ihv=>
     cases j with
     | zero=>simp at hx;subst hx;simp[V.ns,ih]
     | succ j=>simp only[List.set_cons_succ,V.ns];rw[ihv j (by simpa using hx)]
   simp at e;split at e;rename_i x hx;(try simp only[hx]);rfl;simp at e;simp at e
def SS(w w':World)(Pb:Nat->Prop)(p:List Nat):Prop:= ∀ (v u u':V) (g o g' o':Nat) (F PI:List Nat) (SQ:List Value),At w Pb v g o F->(g::F).Nodup->(∀ x,x∈g::F->¬ Pb x)->V.at g o v p=some (g',o',u)->
    R w' Pb u' SQ PI->u'.n=u.n->PI.Nodup->(∀ x,x∈PI->x ∉ g::F)->C9 w w' g' o' SQ->(∀ x,Pb x->w'.heap[x]? =w.heap[x]?)->
    ∃ F1,At w' Pb (v.set p u') g o F1/\(g::F1).Nodup/\∀ x,x∈F1->x∈F\/x∈PI
theorem wB{w w':World} {Pb:Nat->Prop} {p:List Nat} (IH:SS w w' Pb p) {x u u':V} {g g' o':Nat} {PI:List Nat} {SQ:List Value} (hr:R w' Pb u' SQ PI) (hn:u'.n=u.n) (Qg:PI.Nodup)
 (B4:C9 w w' g' o' SQ) (k1:∀ x,Pb x->w'.heap[x]? =w.heap[x]?):
 ∀ (vs:List V) (o:Nat) (F:List Nat) (j:Nat),Wp w Pb vs g o F->(g::F).Nodup->(∀ x,x∈g::F->¬ Pb x)->(∀ x,x∈PI->x ∉ g::F)->vs[j]? =some x->V.at g (o+V.ns (vs.take j)) x p=some (g',o',u)->
   ∃ F1,Wp w' Pb (vs.set j (x.set p u')) g o F1/\(g::F1).Nodup/\∀ y,y∈F1->y∈F\/y∈PI:=by
 have hcs':=eI u' hr;intro vs;induction vs with
 | nil=>intro o F j _ _ _ _ hx;simp at hx
 | cons v0 vs ih=>
   intro o F j h hnd hP w7 hx e;rw[uc]at h;obtain⟨F1,F2,rfl,h1,h2⟩:=h;have K8:=List.nodup_cons.1 hnd;have Td:=List.nodup_append.1 K8.2;have UE:g ∉ F1:=fun c=>K8.1 (by simp[c]);have Zd:g ∉ F2:=fun c=>K8.1 (by simp[c]);cases j with
   | zero=>
     simp at hx;subst hx;simp only[List.take_zero,V.ns,Nat.add_zero]at e;have WS:(g::F1).Nodup:=List.nodup_cons.2 ⟨UE,Td.1⟩;obtain⟨F1',hA,hN,hI⟩:=IH _ _ _ _ _ _ _ _ _ _ h1 WS (fun x hx=>hP x Zbv) e hr hn Qg (fun x hx c=>w7 x hx Zbw) B4 k1;have Yo:=iy p h1 e;have hA2:Wp w' Pb vs g (o+v0.n) F2:=by
      refine EX h2 k1 (fun x hx=>B4.PS x ?_) (fun x hx=>hP x (by simp[hx])) (fun cells hb=>?_);rintro rfl;rcases Yo with ⟨rfl,_⟩ | h;exact Zd hx;exact Td.2.2 _ h _ hx rfl;rcases Yo with ⟨rfl,Sn,O8⟩ | h;obtain⟨n8,K4,_,Qh,_⟩:=B4.QK cells hb;exact⟨n8,K4,fun j Za _=>Qh j (.inr Zac)⟩;have hne:g≠g':=fun c=>UE (by rw[c];exact h);obtain⟨e',fr,hb,hf⟩:=hb;exact⟨cells,⟨e',fr,(B4.PS g hne).trans hb,hf⟩,fun _ _ _=>rfl⟩
     refine⟨F1'++F2,?_,?_,?_⟩;simp only[List.set_cons_zero];rw[uc];refine⟨F1',F2,rfl,hA,?_⟩;rw[mJ p e hn];exact hA2;have SN:=List.nodup_cons.1 hN;refine List.nodup_cons.2 ⟨fun c=>?_,List.nodup_append.2 ⟨SN.2,Td.2.1,fun x hx y hy c=>?_⟩⟩;rcases Zax.1 c with c | c;exact SN.1 c;exact Zd c;subst c;rcases hI x hx with h | h;exact Td.2.2 _ h _ hy rfl;exact w7 x h (by simp[hy]);intro y hy;rcases Zax.1 hy with h | h;rcases hI y h with h | h;left;simp[h];right;exact h;left;simp[h]
   | succ j=>
     simp only[List.take_succ_cons,V.ns,<- Zbj]at e;have PM:vs[j]? =some x:=Zbt
     obtain⟨F2',hA,hN,hI⟩:=ih (o+v0.n) F2 j h2 (List.nodup_cons.2 ⟨Zd,Td.2.1⟩) (fun x hx=>hP x Zbv) (fun x hx c=>w7 x hx Zbw) PM e;have Yo:(g'=g/\o+v0.n<=o')\/g'∈F2:=by
      obtain⟨cs,cells,hb,O8,Ua⟩:=h2;obtain⟨c,F',F7,hF,L9⟩:=gG vs O8 PM;rcases iy p (v:=x) ⟨c,cells,hb,F7,fun i u hu=>by rw[Zbj];exact Ua _ _ (L9 i u hu)⟩ e with ⟨h1,h2,h3⟩ | h1;exact .inl ⟨h1,Zac⟩;exact .inr (hF _ h1)
     have hA1:At w' Pb v0 g o F1:=by
      refine pC h1 k1 (fun x hx=>B4.PS x ?_) (fun x hx=>hP x (by simp[hx])) (fun cells hb=>?_);rintro rfl;rcases Yo with ⟨rfl,_⟩ | h;exact UE hx;exact Td.2.2 _ hx _ h rfl;rcases Yo with ⟨rfl,Sn⟩ | h;obtain⟨n8,K4,_,Qh,_⟩:=B4.QK cells hb;exact⟨n8,K4,fun j _ hj=>Qh j (.inl Zac)⟩;have hne:g≠g':=fun c=>Zd (by rw[c];exact h);obtain⟨e',fr,hb,hf⟩:=hb;exact⟨cells,⟨e',fr,(B4.PS g hne).trans hb,hf⟩,fun _ _ _=>rfl⟩
     refine⟨F1++F2',?_,?_,?_⟩;simp only[List.set_cons_succ];rw[uc];exact⟨F1,F2',rfl,hA1,hA⟩;have SN:=List.nodup_cons.1 hN;refine List.nodup_cons.2 ⟨fun c=>?_,List.nodup_append.2 ⟨Td.1,SN.2,fun x hx y hy c=>?_⟩⟩;rcases Zax.1 c with c | c;exact UE c;exact SN.1 c;subst c;rcases hI x hy with h | h;exact Td.2.2 _ hx _ h rfl;exact w7 x h (by simp[hx]);intro y hy;rcases Zax.1 hy with h | h;left;simp[h];rcases hI y h with h | h;left;simp[h];right;exact h
theorem yK{w w':World}{Pb:Nat->Prop}:∀ p,SS w w' Pb p
 | []=>fun v u u' g o g' o' F PI SQ h hnd hP e hr hn Qg w7 B4 k1=>by
   simp only[V.at,Zan,Zaq]at e;obtain⟨rfl,rfl,rfl⟩:=e;obtain⟨cs,cells,hb,_,_⟩:=h;obtain⟨n8,K4,_,_,L9⟩:=B4.QK cells hb;exact⟨PI,⟨SQ,n8,K4,hr,L9⟩,List.nodup_cons.2 ⟨fun hg=>w7 g hg Zad,Qg⟩,fun x hx=>.inr hx⟩
 | j::p=>fun v u u' g o g' o' F PI SQ h hnd hP e hr hn Qg w7 B4 k1=>by
   have IH:SS w w' Pb p:=yK p;simp only[V.at]at e;simp only[V.set];split at e;rename_i vs;split at e;rename_i x hx
   (try simp only[hx])
   rw[AB]at h;obtain⟨F1,h1,h2,h3⟩:=wB IH hr hn Qg B4 k1 vs o F j h hnd hP w7 hx e;exact⟨F1,AB.2 h1,h2,h3⟩;simp at e;rename_i sz xs g1 o1 c1;split at e;rename_i x hx
   (try simp only[hx])
   obtain⟨cs,cells,hb,UX,hc⟩:=h;rcases UX with ⟨_,rfl,_⟩ | ⟨RZ,e9,Yy,hcs,ha,UE,flat,F',L1,rfl,QC,j7,hsz,P7⟩;simp at hx;have K8:=List.nodup_cons.1 hnd;have hj:j<=xs.length:=Zbr
   have e':V.at g1 (o1+V.ns (xs.take j)) x p=some (g',o',u):=by rw[eg xs j ha hj];exact e
   obtain⟨F1,⟨O',PH,Sq,WJ,W5⟩,hN,hI⟩:=wB IH hr hn Qg B4 k1 xs o1 F' j ⟨flat,L1,j7,QC,P7⟩ K8.2 (fun x hx=>hP x Zbv) (fun x hx c=>w7 x hx Zbw) hx e';have RU:g'=g1\/g'∈F':=by
    obtain⟨c,F2,F7,hF,L9⟩:=gG xs QC hx;rcases iy p (v:=x) ⟨c,L1,j7,F7,fun i u hu=>by rw[Zbj];exact P7 _ _ (L9 i u hu)⟩ e' with ⟨h1,_⟩ | h1;exact .inl h1;exact .inr (hF _ h1)
   have hne:g≠g':=by
    rintro rfl;rcases RU with h | h;exact K8.1 (by simp[h]);exact K8.1 (by simp[h])
   obtain⟨e1,fr,hbg,hfr⟩:=hb;have TJ:PH.size=L1.size:=by
    by_cases TZ:g1=g';subst TZ;obtain⟨c2,⟨e2,f2,l3,_⟩,L7,_⟩:=B4.QK L1 j7;obtain⟨e3,f3,m7,_⟩:=Sq;rw[l3]at m7;simp only[Zan,Obj.cells.injEq]at m7;obtain⟨rfl,_,_⟩:=m7;exact L7;obtain⟨e2,f2,l3,_⟩:=j7;obtain⟨e3,f3,m7,_⟩:=Sq;rw[B4.PS g1 TZ,l3]at m7;simp only[Zan,Obj.cells.injEq]at m7;rw[m7.1]
   refine⟨g1::F1,⟨cs,cells,⟨e1,fr,(B4.PS g hne).trans hbg,hfr⟩,.inr ⟨RZ,e9,by simpa using Yy,by simpa using hcs,?_,UE,O',F1,PH,rfl,WJ,Sq,Zac,W5⟩,hc⟩,?_,?_⟩;intro y hy;rcases List.mem_or_eq_of_mem_set hy with h | h;exact ha y h;rw[h,mJ p e' hn];exact ha x (Za7 hx);refine List.nodup_cons.2 ⟨fun c=>?_,hN⟩;rcases List.mem_cons.1 c with h | h;exact K8.1 (by simp[h]);rcases hI g h with h | h;exact K8.1 (by simp[h]);exact w7 g h Zad;intro y hy;rcases List.mem_cons.1 hy with h | h;left;simp[h];rcases hI y h with h | h;left;simp[h];right;exact h;simp at e;simp at e
end
section
variable {w w':World} {Pb Kb:Nat->Prop} {N:Nat} {A A':AS} {a:Act} {F:l9->List Nat} {P:Program}
mutual
theorem kU:∀ (v:V) {cs F},R w Pb v cs F->∀ c,c∈cs->c.oneCell'=true
 | .lit x,_,_,h=>by obtain⟨h1,rfl,_⟩:=h;simpa using h1
 | .agg vs,_,_,h=>by simp only[R]at h;exact qI vs h
 | .tup _,_,_,h=>by simp[R]at h
 | .gv _ _,_,_,h=>by simp[R]at h
 | .sl ..,_,_,h=>by obtain⟨_,A,c,rfl,_⟩:=h;simp[Value.oneCell']
 | .own ..,_,_,h=>by rcases h with ⟨_,_,_,A,rfl⟩ | ⟨_,_,_,rfl,_⟩ <;> simp[Value.oneCell']
 | .hd ..,_,_,h=>by obtain⟨_,_,A,rfl,_⟩:=h;simp[Value.oneCell']
 | .ow ..,_,_,h=>by obtain⟨g,o,c,h⟩:=h;rcases h with ⟨_,_,_,A,rfl⟩ | ⟨_,_,_,rfl,_⟩ <;> simp[Value.oneCell']
 | .om ..,_,_,h=>by obtain⟨_,rfl,_⟩:=h;simp[Value.oneCell']
 | .mp ..,_,_,h=>by obtain⟨_,g,rfl,_⟩:=h;simp[Value.oneCell']
 | .ptr ..,_,_,h=>by obtain⟨_,rfl⟩:=h;simp[Value.oneCell']
 | .ep _,_,_,h=>by obtain⟨_,b,o,flat,rfl,_⟩:=h;simp[Value.oneCell']
 | .b9,_,_,h=>by obtain⟨_,x,rfl,hx⟩:=h;simpa using hx
theorem qI:∀ (vs:List V) {cs F},RL w Pb vs cs F->∀ c,c∈cs->c.oneCell'=true
 | [],_,_,h=>by rw[h.1];simp
 | v::vs,_,_,h=>by
   obtain⟨c1,c2,F1,F2,rfl,_,h1,h2⟩:=h;intro c hc;rcases Zax.1 hc with h | h;exact kU v h1 c h;exact qI vs h2 c h
end
def V.isVal:V->Bool | .tup _=>false | .gv _ _=>false | .b9=>false | _=>true
theorem gH{x:Value}(h:x.oneCell'=true):x.cells= #[x]:=by cases x <;> simp[Value.oneCell']at h <;> rfl
theorem zo{v:V}{x:Value}{Fv:List Nat}(h:RV w Pb v x Fv)(hv:v.isVal=true):R w Pb v x.cells.toList Fv:=by
 cases v with
 | tup _=>simp[V.isVal]at hv
 | gv _ _=>simp[V.isVal]at hv
 | b9=>simp[V.isVal]at hv
 | agg us=>obtain⟨cs,rfl,h⟩:=h;simp only[R,Value.cells];exact h
 | own sz xs g o c=>have h:R w Pb (.own sz xs g o c) [x] Fv:=h;rw[gH (kU _ h x Zad)];exact h
 | ow sz xs=>have h:R w Pb (.ow sz xs) [x] Fv:=h;rw[gH (kU _ h x Zad)];exact h
 | om es g=>have h:R w Pb (.om es g) [x] Fv:=h;rw[gH (kU _ h x Zad)];exact h
 | mp es=>have h:R w Pb (.mp es) [x] Fv:=h;rw[gH (kU _ h x Zad)];exact h
 | lit y=>have h:R w Pb (.lit y) [x] Fv:=h;rw[gH (kU _ h x Zad)];exact h
 | sl f xs=>have h:R w Pb (.sl f xs) [x] Fv:=h;rw[gH (kU _ h x Zad)];exact h
 | hd r p sz g o lo n c=>have h:R w Pb (.hd r p sz g o lo n c) [x] Fv:=h;rw[gH (kU _ h x Zad)];exact h
 | ptr r p g o=>have h:R w Pb (.ptr r p g o) [x] Fv:=h;rw[gH (kU _ h x Zad)];exact h
 | ep v=>have h:R w Pb (.ep v) [x] Fv:=h;rw[gH (kU _ h x Zad)];exact h
theorem C9.nil(w:World)(g o:Nat):C9 w w g o []:=
 ⟨rfl,rfl,rfl,rfl,fun _ _=>rfl,Shp.refl _,fun cells hb=>⟨cells,hb,rfl,fun _ _=>rfl,fun j u hu=>by simp at hu⟩⟩
theorem C9.cons{w1 w2:World}{g o:Nat}{v:Value}{vs:List Value}(h1:C9 w w1 g o [v])(h2:C9 w1 w2 g (o+1) vs):C9 w w2 g o (v::vs):=by
 refine⟨h2.os.trans h1.os,h2.tape.trans h1.tape,h2.output.trans h1.output,h2.size.trans h1.size,fun k hk=>(h2.PS k hk).trans (h1.PS k hk),h1.shape.trans h2.shape,fun cells hb=>?_⟩;obtain⟨c1,j7,Pl,W2,WT⟩:=h1.QK cells hb;obtain⟨c2,l3,L7,Ri,Xz⟩:=h2.QK c1 j7;refine⟨c2,l3,L7.trans Pl,fun j hj=>?_,fun j u hu=>?_⟩;simp only[Zar]at hj;rw[Ri j Zac,W2 j Zal];cases j with
 | zero=>
   simp at hu;subst hu;rw[Ri _ Zac];exact WT 0 v rfl
 | succ j=>
   have:=Xz j u (by simpa using hu);rw[<- this];congr 1;omega
theorem gT{g o:Nat}:∀ (vs:List Value) (i:Nat) (w:World) (cells:Array Value),Blk w g cells->o+i+vs.length<=cells.size->(∀ v,v∈vs->v.oneCell'=true)->
 ∃ w',(storeCells ⟨g,o,none⟩ vs i).run P w=.ok () w'/\C9 w w' g (o+i) vs
 | [],i,w,cells,_,_,_=>⟨w,rfl,C9.nil w g _⟩
 | v::vs,i,w,cells,hb,hl,h1=>by
   obtain⟨e,fr,Uc,hfr⟩:=hb;simp only[Zar]at hl;have hlt:o+i<cells.size:=Zac;have hc:w.cell? ⟨g,o+i,none⟩=some cells[o+i]:=by simp[World.cell?,Uc,hlt]
   have hf:w.frozen? ⟨g,o+i,none⟩=false:=by
    have:=hfr (o+i) Zac;simp only[World.frozen?,Uc,Bool.and_eq_false_iff,decide_eq_false_iff_not];by_cases h:fr.1<=o+i;right;exact fun c=>this ⟨h,c⟩;left;exact h
   have B4:C9 w (w.setCell ⟨g,o+i,none⟩ v) g (o+i) [v]:=by
    refine⟨rfl,rfl,rfl,by simp[World.setCell],fun k hk=>Below.heap_setCell _ _ _ _ hk,fun k c e2 fr2 hk=>?_,fun n8 K4=>?_⟩;by_cases hkg:k=g;subst hkg;exact⟨c.setIfInBounds (o+i) v,by simp[World.setCell,Array.getElem?_modify,hk],Zad⟩;exact⟨c,(Below.heap_setCell _ _ _ _ hkg).trans hk,rfl⟩;obtain⟨e',Zm,K4,hfr'⟩:=K4;refine⟨n8.setIfInBounds (o+i) v,⟨e',Zm,?_,by simpa using hfr'⟩,Zad,fun j hj=>?_,fun j u hu=>?_⟩;simp[World.setCell,Array.getElem?_modify,K4];rw[Array.getElem?_setIfInBounds_ne];simp at hj;omega;cases j with
    | zero=>
      simp at hu;subst hu;rw[Uc]at K4;simp only[Zan,Obj.cells.injEq]at K4;obtain⟨rfl,_,_⟩:=K4;simp[hlt]
    | succ j=>simp at hu
   have j7:Blk (w.setCell ⟨g,o+i,none⟩ v) g (cells.setIfInBounds (o+i) v):=
    ⟨e,fr,by simp[World.setCell,Array.getElem?_modify,Uc],by simpa using hfr⟩
   obtain⟨w',hr,M'⟩:=gT (g:=g) (o:=o) vs (i+1) _ _ j7 (by rw[Array.size_setIfInBounds];omega) (fun u hu=>h1 u (by simp[hu]));refine⟨w',?_,B4.cons (by rw[Zbj];exact M')⟩;simp only[storeCells,Za0,dY,run_store P w _ v .plain (h1 v Zad),hc,hf,Bool.false_eq_true,if_false,Zas];exact hr
theorem IW{p:List Nat} {x u u':V} {sz j g1 o1 c1 g' o':Nat} {xs:List V} {cs SQ:List Value} {F1 PI:List Nat} (UX:R w Pb (.own sz xs g1 o1 c1) cs F1) (hnd:F1.Nodup) (hP:∀ x,x∈F1->¬ Pb x)
 (hx:xs[j]? =some x) (e:V.at g1 (o1+j*sz) x p=some (g',o',u)) (hr:R w' Pb u' SQ PI) (hn:u'.n=u.n) (Qg:PI.Nodup) (w7:∀ x,x∈PI->x ∉ F1) (B4:C9 w w' g' o' SQ)
 (k1:∀ x,Pb x->w'.heap[x]? =w.heap[x]?):∃ F2,R w' Pb (.own sz (xs.set j (x.set p u')) g1 o1 c1) cs F2/\F2.Nodup/\(∀ y,y∈F2->y∈F1\/y∈PI)/\g'∈F1:=by
 rcases UX with ⟨_,rfl,_⟩ | ⟨RZ,e9,Yy,hcs,ha,UE,flat,F',L1,rfl,QC,j7,hsz,P7⟩;simp at hx;have hj:j<=xs.length:=Zbr
 have e':V.at g1 (o1+V.ns (xs.take j)) x p=some (g',o',u):=by rw[eg xs j ha hj];exact e
 obtain⟨F2,⟨O',PH,Sq,WJ,W5⟩,hN,hI⟩:=wB (yK p) hr hn Qg B4 k1 xs o1 F' j ⟨flat,L1,j7,QC,P7⟩ hnd hP w7 hx e';have RU:g'=g1\/g'∈F':=by
  obtain⟨c,F2,F7,hF,L9⟩:=gG xs QC hx;rcases iy p (v:=x) ⟨c,L1,j7,F7,fun i u hu=>by rw[Zbj];exact P7 _ _ (L9 i u hu)⟩ e' with ⟨h1,_⟩ | h1;exact .inl h1;exact .inr (hF _ h1)
 have TJ:PH.size=L1.size:=by
  by_cases TZ:g1=g';subst TZ;obtain⟨c2,⟨e2,f2,l3,_⟩,L7,_⟩:=B4.QK L1 j7;obtain⟨e3,f3,m7,_⟩:=Sq;rw[l3]at m7;simp only[Zan,Obj.cells.injEq]at m7;obtain⟨rfl,_,_⟩:=m7;exact L7;obtain⟨e2,f2,l3,_⟩:=j7;obtain⟨e3,f3,m7,_⟩:=Sq;rw[B4.PS g1 TZ,l3]at m7;simp only[Zan,Obj.cells.injEq]at m7;rw[m7.1]
 refine⟨g1::F2,.inr ⟨RZ,e9,by simpa using Yy,by simpa using hcs,?_,UE,O',F2,PH,rfl,WJ,Sq,Zac,W5⟩,hN,?_,?_⟩;intro y hy;rcases List.mem_or_eq_of_mem_set hy with h | h;exact ha y h;rw[h,mJ p e' hn];exact ha x (Za7 hx);intro y hy;rcases List.mem_cons.1 hy with h | h;left;simp[h];rcases hI y h with h | h;left;simp[h];right;exact h;rcases RU with h | h <;> simp[h]
def AS.setAt(A:AS)(r:l9)(p:List Nat)(v:V):AS:=
 match r with
 | .key k=>match lk k A.h with
   | some (g,t)=>{ A with h:=(k,(g,t.set p v))::A.h }
   | none=>A
 | .slot i=>{ A with t:=(i,(A.get i).set p v)::A.t }
theorem u7.store(hs:u7 N Pb Kb A a w F) {r:l9} {p:List Nat} {g o:Nat} {old v:V} {cs:List Value} {Fv:List Nat} (A7:A.at r p=some (g,o,old)) (hr:R w Pb v cs Fv) (hn:v.n=old.n)
 (hnd:Fv.Nodup) (w7:∀ r g,g∈Fv->g ∉ F r) (hfr:∀ g,g∈Fv->¬ Kb g/\g<w.heap.size) (B4:C9 w w' g o cs):∃ F',u7 N Pb Kb (A.setAt r p v) a w' F'/\¬ Kb g:=by
 have XH:∀ r g,g∈F r->¬ Pb g:=fun r g hg c=>(hs.free r g hg).1 (hs.sub g c)
 have main:∃ Fr,g∈F r/\(∀ x,Pb x->w'.heap[x]? =w.heap[x]?)/\Fr.Nodup/\(∀ y,y∈Fr->y∈F r\/y∈Fv)/\
  (match r with
   | .key k=> ∀ g0 t,lk k A.h=some (g0,t)->∃ F',Fr=g0::F'/\At w' Pb (t.set p v) g0 0 F'
   | .slot i=>RV w' Pb ((A.get i).set p v) (a.tmps.getD i undef) Fr):=by
  have kk:∀ r,g∈F r->∀ x,Pb x->w'.heap[x]? =w.heap[x]? :=fun r hg x hx=>B4.PS x (by rintro rfl;exact XH r _ hg hx);have F7:∀ r,g∈F r->R w' Pb v cs Fv:=fun r hg=>gD v hr (kk r hg) (fun x hx=>B4.PS x (by rintro rfl;exact w7 r _ hx hg)) (fun _ h=>h) (fun x hx c=>(hfr x hx).1 (hs.sub x c));cases r with
  | key k=>
    simp only[AS.at]at A7;split at A7
    case h_2=>simp at A7
    rename_i g0 t hk;obtain⟨F',e,hA⟩:=hs.root k g0 t hk;have SM:g∈F (.key k):=by
     rw[e];rcases iy p hA A7 with ⟨rfl,_⟩ | h;simp;simp[h]
    have Yv:=hs.nodup (.key k);rw[e]at Yv;obtain⟨F1,h1,h2,h3⟩:=yK (w:=w) (w':=w') p _ _ _ _ _ _ _ _ _ _ hA Yv (fun x hx=>XH (.key k) x (by rw[e];exact hx)) A7 (F7 _ SM) hn hnd (fun x hx c=>w7 (.key k) x hx (by rw[e];exact c)) B4 (kk _ SM);refine⟨g0::F1,SM,kk _ SM,h2,fun y hy=>?_,fun g0' t' Rg=>?_⟩;rw[e];rcases List.mem_cons.1 hy with h | h;left;simp[h];rcases h3 y h with h | h;left;simp[h];exact .inr h;rw[hk]at Rg;simp only[Zan,Zaq]at Rg;obtain⟨rfl,rfl⟩:=Rg;exact⟨F1,rfl,h1⟩
  | slot i=>
    simp only[AS.at]at A7;split at A7
    case h_2=>simp at A7
    rename_i sz xs g1 o1 c1 j p hi;have hrv:=hs.slot i;rw[hi]at hrv;simp only[V.at]at A7;split at A7
    case h_2=>simp at A7
    rename_i x hx;have SM:g∈F (.slot i):=by
     rcases hrv with ⟨_,rfl,_⟩ | ⟨_,_,_,_,ha,_,flat,F',n8,hF,QC,K4,_,L9⟩;simp at hx;obtain⟨c,PI,F7,QD,Qv⟩:=gG xs QC hx;have hj:j<=xs.length:=Zbr
     rw[eg xs j ha hj]at Qv;rw[hF];rcases iy p (v:=x) ⟨c,n8,K4,F7,fun i u hu=>Zbs⟩ A7 with ⟨rfl,_⟩ | h;simp;simp[QD _ h]
    obtain⟨F2,h1,h2,h3,_⟩:=IW (w:=w) (w':=w') hrv (hs.nodup _) (XH _) hx A7 (F7 _ SM) hn hnd (w7 _) B4 (kk _ SM);refine⟨F2,SM,kk _ SM,h2,h3,?_⟩;simp only[hi,V.set,hx];exact h1
 obtain⟨Fr,SM,kk,hndr,WY,hm⟩:=main;have T0:∀ y,y∈Fr->¬ Kb y/\y<w.heap.size:=fun y hy=>by
  rcases WY y hy with h | h;exact hs.free r y h;exact hfr y h
 have Qh:∀ r' x,r'≠r->x∈F r'->w'.heap[x]? =w.heap[x]? :=fun r' x hne hx=>B4.PS x (by rintro rfl;exact hs.ck r' r hne _ hx SM);refine⟨cf F r Fr,⟨?_,?_,fun i=>?_,fun k g0 t hk=>?_,fun r1 r2 hne y hy=>?_,fun r1=>?_,fun r1 y hy=>?_,hs.sub,fun y hy=>by rw[B4.size];exact hs.bound y hy⟩,(hs.free r g SM).1⟩;exact hs.size;exact hs.defers;by_cases UB:r=.slot i;subst UB;simp only[cf,if_true,AS.setAt,AS.get,lk,Option.getD_some];exact hm;simp only[cf,if_neg (Ne.symm UB)];have:(A.setAt r p v).get i=A.get i:=by
  cases r with
  | key k=>simp only[AS.setAt];split <;> rfl
  | slot j=>simp only[AS.setAt,AS.get,lk];rw[if_neg (fun c=>UB (by rw[c]))]
 rw[this];exact mI _ (hs.slot i) kk (fun x hx=>Qh _ x (Ne.symm UB) hx) (fun _ h=>h) (fun x hx=>XH _ x hx);by_cases UU:r=.key k;subst UU;simp only[AS.setAt]at hk;have S3:∃ g1 t1,lk k A.h=some (g1,t1):=by
  simp only[AS.at]at A7;split at A7;rename_i g1 t1 h;exact⟨g1,t1,h⟩;simp at A7
 obtain⟨g1,t1,S3⟩:=S3;rw[S3]at hk;simp only[lk,if_true,Zan,Zaq]at hk;obtain⟨rfl,rfl⟩:=hk;obtain⟨F',e,hA⟩:=hm _ _ S3;exact⟨F',by simp[cf,e],hA⟩;have Rg:lk k A.h=some (g0,t):=by
  cases r with
  | slot j=>exact hk
  | key k'=>
    simp only[AS.setAt]at hk;split at hk;simp only[lk]at hk;rwa [if_neg (fun c=>UU (by rw[c]))]at hk;exact hk
 obtain⟨F',e,hA⟩:=hs.root k g0 t Rg;refine⟨F',by simp only[cf,if_neg (Ne.symm UU)];exact e,pC hA kk (fun x hx=>Qh (.key k) x (Ne.symm UU) (by rw[e];simp[hx])) (fun x hx=>XH (.key k) x (by rw[e];simp[hx])) (fun cells hb=>?_)⟩;obtain⟨e',fr,hb,hf⟩:=hb;exact⟨cells,⟨e',fr,(Qh (.key k) g0 (Ne.symm UU) (by rw[e];simp)).trans hb,hf⟩,fun _ _ _=>rfl⟩;simp only[cf]at hy ⊢;split at hy;rename_i h1;rw[if_neg (fun c=>hne (h1.trans c.symm))];subst h1;rcases WY y hy with h | h;exact hs.ck _ _ hne y h;exact w7 r2 y h;rename_i h1;split;rename_i h2;subst h2;intro c;rcases WY y c with h | h;exact hs.ck _ _ hne y hy h;exact w7 r1 y h hy;exact hs.ck r1 r2 hne y hy;simp only[cf];split;exact hndr;exact hs.nodup r1;simp only[cf]at hy;rw[B4.size];split at hy;exact T0 y hy;exact hs.free r1 y hy
end
mutual
def V.flat:V->Option (List Value)
 | .lit x=>if x.oneCell' then some [x] else none
 | .sl true []=>some [.slice none 0 0]
 | .agg vs=>V.we vs
 | _=>none
def V.we:List V->Option (List Value)
 | []=>some []
 | v::vs=>match v.flat,V.we vs with
   | some a,some b=>some (a++b)
   | _,_=>none
end
def nt(P:Program)(T:Nat)(v:V):Prop:= ∃ inf z,P.info? T=some inf/\inf.zero=some z/\v.flat=some z.cells.toList
section
variable {w w':World} {Pb Kb:Nat->Prop} {N:Nat} {A A':AS} {a:Act} {F:l9->List Nat} {P:Program}
mutual
theorem rD:∀ (v:V) {cs},v.flat=some cs->R w Pb v cs []
 | .lit x,cs,h=>by
   simp only[V.flat]at h;split at h;rename_i hx;simp at h;subst h;exact⟨hx,rfl,rfl⟩;simp at h
 | .sl true [],cs,h=>by simp[V.flat]at h;subst h;exact⟨rfl,none,0,rfl,Zbc _,fun _=>rfl,.inl rfl⟩
 | .sl true (x::xs),cs,h=>by simp[V.flat]at h
 | .sl false xs,cs,h=>by simp[V.flat]at h
 | .agg vs,cs,h=>by simp only[V.flat]at h;simp only[R];exact CD vs h
 | .tup _,_,h=>by simp[V.flat]at h
 | .gv _ _,_,h=>by simp[V.flat]at h
 | .own ..,_,h=>by simp[V.flat]at h
 | .hd ..,_,h=>by simp[V.flat]at h
 | .ow ..,_,h=>by simp[V.flat]at h
 | .om ..,_,h=>by simp[V.flat]at h
 | .mp ..,_,h=>by simp[V.flat]at h
 | .ptr ..,_,h=>by simp[V.flat]at h
 | .ep _,_,h=>by simp[V.flat]at h
 | .b9,_,h=>by simp[V.flat]at h
theorem CD:∀ (vs:List V) {cs},V.we vs=some cs->RL w Pb vs cs []
 | [],cs,h=>by simp[V.we]at h;subst h;exact⟨rfl,rfl⟩
 | v::vs,cs,h=>by
   simp only[V.we]at h;split at h;rename_i a b h1 h2;simp at h;subst h;exact⟨a,b,[],[],rfl,rfl,rD v h1,CD vs h2⟩;simp at h
end
theorem alloc_old(w:World)(o:Obj)(k:Nat)(h:k<w.heap.size):(w.alloc o).heap[k]? =w.heap[k]? :=Below.heap_alloc w o k h
theorem dK(w:World)(o:Obj):(w.alloc o).heap.size=w.heap.size+1:=Zad
theorem gJ(w:World)(o:Obj):(w.alloc o).heap[w.heap.size]? =some o:=heap_alloc_new w o
theorem u7.nY(hs:u7 N Pb Kb A a w F)(o:Obj):u7 N Pb Kb A a (w.alloc o) F:=
 hs.grow (fun k hk=>alloc_old w o k hk) Zbx (fun _ h=>h) (fun g hg=>.inl hg) hs.sub
theorem u7.NH(hs:u7 N Pb Kb A a w F)(o:Obj):u7 N (fun g=>Pb g\/g=w.heap.size) (fun g=>Kb g\/g=w.heap.size) A a (w.alloc o) F:=
 hs.grow (fun k hk=>alloc_old w o k hk) Zbx (fun _ h=>.inl h) (fun g hg=>hg.imp id fun h=>Zbx) (fun g hg=>hg.imp (hs.sub g) id)
theorem u7.Co(hs:u7 N Pb Kb A a w F){k g:Nat}{v:V}{Fv:List Nat}(hA:At w Pb v g 0 Fv)(hnd:(g::Fv).Nodup)(w7:∀ r x,x∈g::Fv->x ∉ F r)(hfr:∀ x,x∈g::Fv->¬ Kb x/\x<w.heap.size):
 u7 N Pb Kb { A with h:=(k,(g,v))::A.h } a w (cf F (.key k) (g::Fv)) where
 size:=hs.size
 defers:=hs.defers
 slot:=fun i=>by simp only[cf,reduceCtorEq,if_false];exact hs.slot i
 root:=fun k' g' v' hk=>by
  simp only[lk]at hk;by_cases e:k'=k;subst e;simp only[if_true,Zan,Zaq]at hk;obtain⟨rfl,rfl⟩:=hk;exact⟨Fv,by simp[cf],hA⟩;rw[if_neg e]at hk;obtain⟨F',e',YJ⟩:=hs.root k' g' v' hk;exact⟨F',by simp only[cf];rw[if_neg (fun c=>e (by injection c))];exact e',YJ⟩
 ck:=fun r r' hne x hx=>by
  simp only[cf]at hx ⊢;split at hx;rename_i h1;rw[if_neg (fun c=>hne (h1.trans c.symm))];exact w7 r' x hx;split;exact fun c=>w7 r x c hx;exact hs.ck r r' hne x hx
 nodup:=fun r=>by
  simp only[cf];split;exact hnd;exact hs.nodup r
 free:=fun r x hx=>by
  simp only[cf]at hx;split at hx;exact hfr x hx;exact hs.free r x hx
 sub:=hs.sub
 bound:=hs.bound
theorem A3.alloc(hK:∀ g,Kb g->g<w.heap.size)(o:Obj):A3 Kb w (w.alloc o):=
 ⟨rfl,rfl,rfl,Zbx,fun g hg=>alloc_old w o g (hK g hg),Shp.of_eq fun g hg=>alloc_old w o g hg⟩
theorem u7.IY(hs:u7 N Pb Kb A a w F){d:Nat}(hd:d<N){v:V}{cs:Array Value}{e:TypeId}(hr:R w Pb v cs.toList []):
 ∃ F',u7 N Pb Kb ⟨(A.put (some d) (.ptr (.key d) [] w.heap.size 0)).t,(d,(w.heap.size,v))::A.h⟩ (a.put (some d) (.pointer (some ⟨w.heap.size,0,none⟩))) (w.alloc (.cells cs e)) F':=by
 have h1:=hs.nY (.cells cs e);have h2:=h1.put (d:=d) (v:=.ptr (.key d) [] w.heap.size 0) (x:=.pointer (some ⟨w.heap.size,0,none⟩)) (F':=[]) hd ⟨rfl,rfl⟩ Zad Zad Zad
 have hA:At (w.alloc (.cells cs e)) Pb v w.heap.size 0 []:=
  ⟨cs.toList,cs,⟨e,(0,0),gJ w _,fun i _ h=>by omega⟩,gD v hr (fun g hg=>alloc_old w _ g (hs.bound g (hs.sub g hg))) Zad (fun _ h=>h) Zad,fun j u hu=>by simpa using hu⟩
 refine⟨_,h2.Co (k:=d) hA Zad (fun r x hx c=>?_) (fun x hx=>?_)⟩;simp at hx;subst hx;simp only[cf]at c;split at c;simp at c;have:=(hs.free r _ c).2;omega;simp at hx;subst hx;refine⟨fun c=>?_,Zbx⟩;have:=hs.bound _ c;omega
theorem tl{o:Oper} {K:AS->Prop} {d:Nat} {v:V} (hd:o.dst=some d) (hN:d<N)
 (B5:∀ Pb Kb a w F,u7 N Pb Kb A a w F->∃ cs e,(execOp a.eval o).run P w=.ok (.value (.pointer (some ⟨w.heap.size,0,none⟩))) (w.alloc (.cells cs e))/\R w Pb v cs.toList [])
 (hK:∀ g,K ⟨(A.put (some d) (.ptr (.key d) [] g 0)).t,(d,(g,v))::A.h⟩):F9 P N o A K:=by
 intro Pb Kb a w F Q hs;obtain⟨cs,e,hx,hr⟩:=B5 Pb Kb a w F hs;unfold Oper.wp;rw[hx,Oper.upon_value,hd];obtain⟨F',A8⟩:=hs.IY hN (e:=e) hr;exact⟨_,Pb,Kb,F',hK _,A8,fun _ h=>h,fun _ h=>h,fun _ h=>.inl h,A3.alloc hs.bound _⟩
theorem jB(e:TypeId)(cs:Array Value):(newRow e cs).run P w=.ok ⟨w.heap.size,0,none⟩ (w.alloc (.cells cs e)):=rfl
theorem ra{o:Oper} {K:AS->Prop} {d T:Nat} {v:V} (ho:o.op=.alloc T) (hd:o.dst=some d) (hN:d<N) (hz:nt P T v)
 (hK:∀ g,K ⟨(A.put (some d) (.ptr (.key d) [] g 0)).t,(d,(g,v))::A.h⟩):F9 P N o A K:=by
 refine tl hd hN (fun Pb Kb a w F hs=>?_) hK;obtain⟨inf,z,h1,h2,h3⟩:=hz;refine⟨z.cells,T,?_,rD v h3⟩;simp[execOp,ho,Instr.alloc,zeroValue,typeInfo,h1,h2,newVar,jB]
theorem Ke{o:Oper} {K:AS->Prop} {d T:Nat} {x:Operand} (ho:o.op=.box T x) (hd:o.dst=some d) (hN:d<N) (hv:(A.cp x).isVal=true)
 (hK:∀ g,K ⟨(A.put (some d) (.ptr (.key d) [] g 0)).t,(d,(g,A.cp x))::A.h⟩):F9 P N o A K:=by
 refine tl hd hN (fun Pb Kb a w F hs=>?_) hK;exact⟨(a.eval x).cells,T,by simp[execOp,ho,Instr.box,newVar,jB],zo (pZ hs x) hv⟩
theorem qM{o:Oper} {K:AS->Prop} {T:Nat} {x y:Operand} {r:l9} {p:List Nat} {g g':Nat} {i:TI} {old:V} (ho:o.op=.store T x y) (hd:o.dst=none) (hi:ti P T=some i)
 (hx:A.ev x=.ptr r p g g') (A7:(A.drop y).at r p=some (g,g',old)) (hv:(A.ev y).isVal=true) (hn:(A.ev y).n=old.n) (VW:(A.ev y).n=i.sz) (hK:K ((A.drop y).setAt r p (A.ev y))):F9 P N o A K:=by
 intro Pb Kb a w F Q hs;obtain⟨Fx,F',hr,A8,hnd,w7,hfr,_⟩:=hs.take y;obtain⟨_,VU⟩:=dS hs x;rw[hx]at VU;have hp:a.eval x=.pointer (some ⟨g,g',none⟩):=by have:=VU.2;simpa using this
 have hR:=zo hr hv;obtain⟨_,cs0,cells,hb,UX,RZ⟩:=iw A8 A7;have WU:=eI _ UX;have hl:=eI _ hR;have hle:g'+(a.eval y).cells.toList.length<=cells.size\/(a.eval y).cells.toList=[]:=by
  by_cases hne:cs0=[];right;exact Za5 (by rw[hl,hn,<- WU,hne];rfl);left;have:=xm RZ hne;omega
 have B4:∃ w',(storeCells ⟨g,g',none⟩ (a.eval y).cells.toList 0).run P w=.ok () w'/\C9 w w' g g' (a.eval y).cells.toList:=by
  rcases hle with h | h;obtain⟨w',h1,h2⟩:=gT (P:=P) (g:=g) (o:=g') (a.eval y).cells.toList 0 w cells hb Zac (kU _ hR);exact⟨w',h1,h2⟩;rw[h];exact⟨w,rfl,C9.nil w g g'⟩
 obtain⟨w',B5,B4⟩:=B4;have hx:(execOp a.eval o).run P w=.ok .skip w':=by
  have hsz:(a.eval y).cells.size=i.sz:=by rw[<- VW,<- hl];simp
  simp only[execOp,ho,Instr.storeAt,hp,Instr.sureAddr,Za0,Za1,Zas,storeVar,dc hi,hsz,ne_eq,not_true_eq_false,if_false,B5]
 unfold Oper.wp;rw[hx,Oper.upon_skip,hd];obtain⟨F2,L7,hg⟩:=A8.store A7 hR hn hnd w7 hfr B4;exact⟨_,Pb,Kb,F2,hK,L7,fun _ h=>h,fun _ h=>h,fun _ h=>.inl h,⟨B4.os,B4.tape,B4.output,by rw[B4.size];omega,fun k hk=>B4.PS k (fun c=>hg (c ▸ hk)),B4.shape⟩⟩
def eX(A:AS)(k:Nat):List (Nat×Operand)->Option (List V)
 | []=>some []
 | (i,x)::r=>if i=k then match eX A (k+1) r with | some vs=>some (A.cp x::vs) | none=>none else none
theorem mS(hs:u7 N Pb Kb A a w F){s:Nat}:∀ (c9:List (Nat×Operand)) (k:Nat) {vs:List V},eX A k c9=some vs->(∀ v,v∈vs->v.isVal=true/\v.n=s)->
 ∃ xs:List Value,(c9.map fun (i,x)=>(i,a.eval x))=(xs.zipIdx k).map (fun x=>(x.2,x.1))/\(∀ x,x∈xs->x.cells.size=s)/\RL w Pb vs (xs.flatMap fun v=>v.cells.toList) []/\xs.length=vs.length
 | [],k,vs,h,_=>by simp[eX]at h;subst h;exact⟨[],rfl,Zad,⟨rfl,rfl⟩,rfl⟩
 | (i,x)::r,k,vs,h,hv=>by
   simp only[eX]at h;split at h
   case isFalse=>simp at h
   rename_i e;subst e;split at h
   case h_2=>simp at h
   rename_i YP hr;simp at h;subst h;obtain⟨xs,h1,h2,h3,h4⟩:=mS hs r (i+1) hr (fun v UT=>hv v (by simp[UT]));have hR:=zo (pZ hs x) (hv (A.cp x) Zad).1;have hl:=eI _ hR;refine⟨a.eval x::xs,by simp[h1],?_,⟨_,_,[],[],Zad,rfl,hR,h3⟩,by simp[h4]⟩;intro y hy;rcases List.mem_cons.1 hy with rfl | h;rw[<- (hv (A.cp x) Zad).2,<- hl];simp;exact h2 y h
theorem wH{o:Oper} {K:AS->Prop} {T e len:Nat} {c9:Array (Nat×Operand)} {i:TI} {vs:List V} (ho:o.op=.buildSlice T len c9) (hd:cB N o.dst) (hT:tD P T=some (.sl e)) (hi:ti P e=some i)
 (hz:∃ inf z,P.info? e=some inf/\inf.zero=some z) (TF:eX A 0 c9.toList=some vs) (hlen:vs.length=len) (Si:len*i.sz<=16777216) (J':0<i.sz) (hv:∀ v,v∈vs->v.isVal=true/\v.n=i.sz)
 (hK:K (A.put o.dst (.sl true vs))):F9 P N o A K:=by
 intro Pb Kb a w F Q hs;obtain⟨inf,z,OX,hzero⟩:=hz;obtain⟨xs,h1,h2,h3,h4⟩:=mS hs c9.toList 0 TF hv;have hu:=iQ hT;obtain⟨UR,_,J3,_,hsz,_,_⟩:=jv hi;rw[OX]at J3;obtain rfl:=Option.some.inj J3;by_cases h0:len=0;have Z2:vs=[]:=Za5 Zac;subst Z2;subst h0;have Y3:c9.toList=[]:=by
  cases TV:c9.toList with
  | nil=>rfl
  | cons p ps=>rw[TV]at h1;rw[Za5 h4]at h1;simp at h1
 have hp:c9= #[]:=by rw[<- Array.toArray_toList (xs:=c9),Y3]
 subst hp;have hx:(execOp a.eval o).run P w=.ok (.value (.slice (some ⟨w.heap.size,0,none⟩) 0 0)) (w.alloc (.cells #[] e)):=by
  simp[execOp,ho,Instr.buildSlice,aH hu,dc hi,Instr.fill,jB];congr 2;apply Array.ext';simp
 unfold Oper.wp;rw[hx,Oper.upon_value];obtain⟨F',A8⟩:=(hs.nY (.cells #[] e)).pz (d:=o.dst) (v:=.sl true []) (x:=.slice (some ⟨w.heap.size,0,none⟩) 0 0) hd ⟨rfl,_,0,rfl,Zbc _,fun _=>rfl,.inl rfl⟩;exact⟨_,Pb,Kb,F',hK,A8,fun _ h=>h,fun _ h=>h,fun _ h=>.inl h,A3.alloc hs.bound _⟩;have hfl:=Great.fill_whole J' xs ((Array.range (len*i.sz)).map (z.cells[· % z.cells.size]!)) h2 (by simp[h4,hlen]);have hmul: ¬ len*inf.size=0:=by rw[hsz];exact Nat.mul_ne_zero h0 Zac
 have hb:=run_buildSlice (P:=P) w T e len (c9.map fun (i,x)=>(i,a.eval x)) _ inf z hu OX hzero (by rw[hsz];omega) hmul (by rw[Array.toList_map,h1,hsz];exact hfl);have hx:(execOp a.eval o).run P w=.ok (.value (.slice (some ⟨w.heap.size,0,none⟩) len len)) (w.alloc (.cells (xs.flatMap fun v=>v.cells.toList).toArray e)):=by
  simp only[execOp,ho,Za0,hb,Zas,Za1]
 unfold Oper.wp;rw[hx,Oper.upon_value];have Pl:=hs.NH (.cells (xs.flatMap fun v=>v.cells.toList).toArray e);have QC:=eH (w':=w.alloc (.cells (xs.flatMap fun v=>v.cells.toList).toArray e)) (Pb':=fun g=>Pb g\/g=w.heap.size) vs h3 (fun g hg=>alloc_old w _ g (hs.bound g (hs.sub g hg))) Zad (fun g hg=>.inl hg) Zad
 obtain⟨F',A8⟩:=Pl.pz (d:=o.dst) (v:=.sl true vs) (x:=.slice (some ⟨w.heap.size,0,none⟩) len len) hd ⟨rfl,some ⟨w.heap.size,0,none⟩,len,by rw[hlen],Zac,fun _=>hlen.symm,
  .inr ⟨w.heap.size,0,i.sz,_,rfl,.inr rfl,J',fun v UT=>(hv v UT).2,QC,fun j u hu=>by
   rw[eh (cells:=(xs.flatMap fun v=>v.cells.toList).toArray) ⟨e,(0,0),gJ w _,fun i _ h=>by omega⟩];simpa using hu⟩⟩
 exact⟨_,_,_,F',hK,A8,fun _ h=>.inl h,fun _ h=>.inl h,fun g hg=>by
  rcases hg with h | h;exact .inl h;right;intro c;have:=hs.bound g c;omega,A3.alloc hs.bound _⟩
end
section
variable {w w':World} {Pb Kb:Nat->Prop} {N:Nat} {A A':AS} {a:Act} {F:l9->List Nat} {P:Program}
def mL(P:Program):List (Nat×Nat)->Option (List (Nat×Nat))
 | []=>some []
 | (off,T)::r=>match ti P T,mL P r with
   | some i,some ps=>some ((off,i.sz)::ps)
   | _,_=>none
def pJ(places:List (Nat×Nat)):List V->List (Nat×V)->Option (Prop×List V)
 | zs,[]=>some (True,zs)
 | zs,(i,v)::r=>match places[i]?,zs[i]? with
   | some (off,sz),some z=>match pJ places (zs.set i v) r with
     | some (C,zs')=>some (V.ns (zs.take i)=off/\v.n=sz/\z.n=sz/\v.isVal=true/\C,zs')
     | none=>none
   | _,_=>none
def rr(P:Program)(A:AS)(T:Nat)(zs:List V)(c9:List (Nat×Operand)):Option (Prop×V):=
 match tD P T with
 | some (.st fs)=>match mL P fs with
   | some places=>match pJ places zs (c9.map fun (i,x)=>(i,A.cp x)) with
     | some (C,vs)=>some (C,.agg vs)
     | none=>none
   | none=>none
 | _=>none
theorem ye:∀ (zs:List V) {cs:List Value} {i:Nat} {z v:V} {c:List Value},RL w Pb zs cs []->zs[i]? =some z->R w Pb v c []->c.length=z.n->
 RL w Pb (zs.set i v) (cs.take (V.ns (zs.take i))++c++cs.drop (V.ns (zs.take i)+z.n)) []
 | [],_,_,_,_,_,_,h,_,_=>by simp at h
 | z0::zs,cs,0,z,v,c,h,hi,hr,hn=>by
   obtain⟨c1,c2,F1,F2,rfl,hF,h1,h2⟩:=h;have QD:=hF.symm;simp at QD;obtain⟨rfl,rfl⟩:=QD;simp at hi;subst hi;have hl:=eI _ h1;simp only[List.take_zero,V.ns,Zaw,List.nil_append,List.set_cons_zero];rw[<- hl,List.drop_left];exact⟨c,c2,[],[],rfl,rfl,hr,h2⟩
 | z0::zs,cs,i+1,z,v,c,h,hi,hr,hn=>by
   obtain⟨c1,c2,F1,F2,rfl,hF,h1,h2⟩:=h;have QD:=hF.symm;simp at QD;obtain⟨rfl,rfl⟩:=QD;have hl:=eI _ h1;have ih:=ye zs h2 Zbn hr hn;simp only[List.take_succ_cons,V.ns,List.set_cons_succ];refine⟨c1,_,[],[],?_,rfl,h1,ih⟩;rw[<- hl,List.take_append,List.drop_append];have e1:(List.take (c1.length+V.ns (zs.take i)) c1)=c1:=Zaz Zac;have e2:(List.drop (c1.length+V.ns (zs.take i)+z.n) c1)=[]:=Za8 Zac;rw[e1,e2];have e3:c1.length+V.ns (zs.take i)-c1.length=V.ns (zs.take i):=Zac;have e4:c1.length+V.ns (zs.take i)+z.n-c1.length=V.ns (zs.take i)+z.n:=Zac;rw[e3,e4];simp
theorem DA(cells:Array Value) (off:Nat) (c:List Value) (h:off+c.length<=cells.size) {r:Array Value} (hs:r.size=cells.size)
 (hk:∀ k,r[k]? =if off+0<=k/\k<off+0+c.length/\k<cells.size then c[k-(off+0)]? else cells[k]?):r.toList=cells.toList.take off++c++cells.toList.drop (off+c.length):=by
 apply List.ext_getElem?;intro k;rw[Array.getElem?_toList,hk k];simp only[Nat.add_zero];by_cases h1:k<off;rw[if_neg Zac,List.append_assoc,Za9 Zal,List.getElem?_take,if_pos h1];simp;by_cases h2:k<off+c.length;rw[if_pos ⟨Zac,h2,Zac⟩,List.append_assoc,Za4 Zal,Za9 Zal];congr 1;simp;omega;rw[if_neg Zac,Za4 Zal,List.getElem?_drop];have:off+c.length+(k-(cells.toList.take off++c).length)=k:=Zal;rw[this];simp
theorem tm(hs:u7 N Pb Kb A a w F){places:List (Nat×Nat)}:∀ (c9:List (Nat×Operand)) {zs:List V} {C:Prop} {vs:List V} {cells:Array Value},pJ places zs (c9.map fun (i,x)=>(i,A.cp x))=some (C,vs)->C->
 RL w Pb zs cells.toList []->∃ n8,Instr.fill (places.toArray[·]?) cells (c9.map fun (i,x)=>(i,a.eval x))=some n8/\RL w Pb vs n8.toList []
 | [],zs,C,vs,cells,h,_,hr=>by simp[pJ]at h;obtain⟨_,rfl⟩:=h;exact⟨cells,rfl,hr⟩
 | (i,x)::r,zs,C,vs,cells,h,hC,hr=>by
   simp only[Zbe,pJ]at h;split at h
   case h_2=>simp at h
   rename_i off sz z hp hz;split at h
   case h_2=>simp at h
   rename_i C' zs' hf;simp only[Zan,Zaq]at h;obtain⟨rfl,rfl⟩:=h;obtain⟨h1,h2,h3,h4,h5⟩:=hC;have hR:=zo (pZ hs x) h4;have hl:=eI _ hR;obtain⟨cz,F',Xw,_,hcz⟩:=gG zs hr hz;have hlz:=eI _ Xw;have hle:off+(a.eval x).cells.toList.length<=cells.size:=by
    by_cases hne:cz=[];have:sz=0:=by rw[<- h3,<- hlz,hne];rfl
    have hns:V.ns (zs.take i)<=cells.size:=by
     have WU:=jh _ hr;have:V.ns (zs.take i)<=V.ns zs:=by
      clear hf hr hcz Xw hp WU h1;induction zs generalizing i with
      | nil=>simp[V.ns]
      | cons z0 zs ih=>cases i with
        | zero=>simp[V.ns]
        | succ i=>simp only[List.take_succ_cons,V.ns];have:=ih (i:=i) (by simpa using hz);omega
     simpa[<- WU] using this
    rw[hl,h2];omega;have:=xm (cells:=cells) (o:=off) (l:=cz) (fun j u hu=>by rw[<- h1];have:=hcz j u hu;simpa using this) hne;omega
   obtain⟨g1,g2⟩:=Great.foldl_set off (a.eval x).cells.toList 0 cells;have hseg:=DA cells off (a.eval x).cells.toList hle g1 g2;have O8:=ye zs hr hz hR (by rw[hl,h2,h3]);rw[h1,h3,<- h2,<- hl,<- hseg]at O8;obtain⟨n8,T6,F7⟩:=tm hs r hf h5 O8;refine⟨n8,?_,F7⟩;simp only[Zbe];unfold Instr.fill;have Yq:places.toArray[i]? =some (off,sz):=by simpa using hp
   simp only[Yq];rw[if_neg (by
    have e1:(a.eval x).cells.size=sz:=by rw[<- h2,<- hl];simp
    simp only[e1,ne_eq,not_true_eq_false,decide_false,Bool.false_or,Zbk];rw[<- e1];simpa using hle)]
   rw[<- T6];congr 1;rw[<- Array.foldl_toList,Array.toList_zipIdx]
theorem FI{fl:Array Field}{fs:List (Nat×Nat)}(h:fl.toList.map (fun f=>(f.offset,f.type))=fs){places:List (Nat×Nat)}(hp:mL P fs=some places):
 fl.toList.mapM (fun f=>(P.info? f.type).map fun i=>(f.offset,i.size))=some places:=by
 subst h;generalize fl.toList=l at hp;induction l generalizing places with
 | nil=>simp[mL]at hp;subst hp;rfl
 | cons f l ih=>
   simp only[Zbe,mL]at hp;split at hp
   case h_2=>simp at hp
   rename_i i ps hi hps;simp at hp;subst hp;obtain⟨inf,_,h1,_,h3,_,_⟩:=jv hi;simp[List.mapM_cons,h1,ih hps,h3]
theorem vv(hs:u7 N Pb Kb A a w F){T:Nat}{c9:Array (Nat×Operand)}{zs:List V}{C:Prop}{v:V}(hz:nt P T (.agg zs))(h:rr P A T zs c9.toList=some (C,v))(hC:C):
 ∃ y,(Instr.build T (c9.map fun (i,x)=>(i,a.eval x))).run P w=.ok y w/\RV w Pb v y []:=by
 unfold rr at h;split at h
 case h_2=>simp at h
 rename_i fs hT;split at h
 case h_2=>simp at h
 rename_i places hp;split at h
 case h_2=>simp at h
 rename_i C' vs hf;simp only[Zan,Zaq]at h;obtain⟨rfl,rfl⟩:=h;obtain⟨fl,hu,hfl⟩:=CS hT;obtain⟨inf,z,h1,h2,h3⟩:=hz;have hr:=rD (w:=w) (Pb:=Pb) _ h3;simp only[R]at hr;obtain⟨n8,T6,F7⟩:=tm hs c9.toList hf hC hr;refine⟨.agg n8,run_build w T _ n8 ?_,n8,rfl,F7⟩;unfold Program.built;simp only[h1,hu,h2,FI hfl hp];rw[Array.toList_map];exact T6
theorem yb{o:Oper} {K:AS->Prop} {T:Nat} {c9:Array (Nat×Operand)} {zs:List V} {C:Prop} {v:V} (ho:o.op=.build T c9) (hd:cB N o.dst) (hz:nt P T (.agg zs))
 (h:rr P A T zs c9.toList=some (C,v)) (hC:C) (hK:K (A.put o.dst v)):F9 P N o A K:=
 hY hd hK fun Pb Kb a w F hs=>by
  obtain⟨y,hy,hr⟩:=vv hs hz h hC;exact⟨y,Zbu,hr⟩
theorem u7.freeze(hs:u7 N Pb Kb A a w F){i:Nat}(hi:(A.get i).df=true)(hi':i<N):∃ Pb' E7 F',u7 N Pb' E7 (A.put (some i) (A.get i).er) a w F'/\(∀ g,Pb g->Pb' g)/\(∀ g,Kb g->E7 g)/\(∀ g,Pb' g->Pb g\/¬ Kb g):=by
 refine⟨fun g=>Pb g\/g∈F (.slot i),fun g=>Kb g\/g∈F (.slot i),cf F (.slot i) [],?_,fun g h=>.inl h,fun g h=>.inl h,fun g h=>h.imp id fun h=>(hs.free _ g h).1⟩;have WR:∀ r,r≠.slot i->∀ g,g∈F r->¬ (Pb g\/g∈F (.slot i))/\¬ (Kb g\/g∈F (.slot i)):=fun r hr g hg=>by
  refine⟨fun c=>?_,fun c=>?_⟩ <;> rcases c with c | c;exact(hs.free r g hg).1 (hs.sub g c);exact hs.ck r _ hr g hg c;exact(hs.free r g hg).1 c;exact hs.ck r _ hr g hg c
 refine⟨hs.size,hs.defers,fun j=>?_,fun k g v hk=>?_,fun r r' hne g hg=>?_,fun r=>?_,fun r g hg=>?_,fun g h=>h.imp (hs.sub g) id,fun g h=>?_⟩;rw[AS.aB];by_cases e:j=i;subst e;simp only[if_true,cf];exact Ir (hs.slot j) (fun g h=>.inl h) (fun g h=>.inr h);have hne:l9.slot j≠l9.slot i:=fun c=>e (by injection c);simp only[if_neg e,cf,if_neg hne];exact mI _ (hs.slot j) (fun _ _=>rfl) (fun _ _=>rfl) (fun g h=>.inl h) (fun g hg=>(WR _ hne g hg).1);obtain⟨F',e,hA⟩:=hs.root k g v hk;refine⟨F',by simpa[cf] using e,?_⟩;obtain⟨cs,cells,hb,hr,hc⟩:=hA;exact⟨cs,cells,hb,gD _ hr (fun _ _=>rfl) (fun _ _=>rfl) (fun g h=>.inl h) (fun x hx=>(WR (.key k) Zad x (by rw[e];simp[hx])).1),hc⟩;simp only[cf]at hg ⊢;split at hg;simp at hg;split;simp;exact hs.ck r r' hne g hg;simp only[cf];split;exact Zba;exact hs.nodup r;simp only[cf]at hg;split at hg;simp at hg;rename_i hne;exact⟨(WR r hne g hg).2,(hs.free r g hg).2⟩;rcases h with h | h;exact hs.bound g h;exact(hs.free _ g h).2
theorem u7.PS(hs:u7 N Pb Kb A a w F){g:Nat}(hg:∀ r,g ∉ F r)(hK: ¬ Kb g)(hf:∀ k,k≠g->w'.heap[k]? =w.heap[k]?)(hsz:w'.heap.size=w.heap.size):u7 N Pb Kb A a w' F where
 size:=hs.size
 defers:=hs.defers
 slot:=fun i=>mI _ (hs.slot i) (fun x hx=>hf x (by rintro rfl;exact hK (hs.sub _ hx))) (fun x hx=>hf x (by rintro rfl;exact hg _ hx)) (fun _ h=>h) (fun x hx c=>(hs.free _ x hx).1 (hs.sub x c))
 root:=fun k g0 v hk=>by
  obtain⟨F',e,hA⟩:=hs.root k g0 v hk;have hg0:g0≠g:=by rintro rfl;exact hg (.key k) (by rw[e];simp)
  refine⟨F',e,pC hA (fun x hx=>hf x (by rintro rfl;exact hK (hs.sub _ hx))) (fun x hx=>hf x (by rintro rfl;exact hg (.key k) (by rw[e];simp[hx]))) (fun x hx c=>(hs.free (.key k) x (by rw[e];simp[hx])).1 (hs.sub x c)) (fun cells hb=>?_)⟩;obtain⟨e',fr,hb,hfr⟩:=hb;exact⟨cells,⟨e',fr,(hf g0 hg0).trans hb,hfr⟩,fun _ _ _=>rfl⟩
 ck:=hs.ck
 nodup:=hs.nodup
 free:=fun r x hx=>by rw[hsz];exact hs.free r x hx
 sub:=hs.sub
 bound:=fun x hx=>by rw[hsz];exact hs.bound x hx
theorem jj:∀ (xs ys:List V) {c1 c2:List Value} {F1 F2:List Nat},RL w Pb xs c1 F1->RL w Pb ys c2 F2->RL w Pb (xs++ys) (c1++c2) (F1++F2)
 | [],ys,c1,c2,F1,F2,h1,h2=>by obtain⟨rfl,rfl⟩:=h1;exact h2
 | x::xs,ys,c1,c2,F1,F2,h1,h2=>by
   obtain⟨d1,d2,G1,G2,rfl,rfl,k1,k2⟩:=h1;exact⟨d1,d2++c2,G1,G2++F2,Zad,Zad,k1,jj xs ys k2 h2⟩
theorem oX{sz:Nat}(xs:List V)(h:aS sz xs):V.ns xs=xs.length*sz:=by
 have:=eg xs xs.length h (Zbc _);simpa using this
theorem yT{full:Bool}{ys:List V}{x:Value}(h:R w Pb (.sl full ys) [x] []){s:Nat}(hs:aS s ys):∃ (B:Option Addr) (c:Nat) (flat:List Value),x=.slice B ys.length c/\RL w Pb ys flat []/\
 (∀ w1:World,(∀ ad,w1.cell? ad=w.cell? ad)->(Builtin.firstCells s ys.length x).run P w1=.ok flat.toArray w1)/\flat.length=ys.length*s:=by
 obtain⟨_,A,c,hx,hl,_,hz⟩:=h;have hx:x=.slice A ys.length c:=Zbt
 subst hx;rcases hz with rfl | ⟨b,o,sz,flat,rfl,hb,hsz,hN,hr,hc⟩;refine⟨A,c,[],rfl,⟨rfl,rfl⟩,fun w1 _=>?_,Zad⟩;cases A with
 | none=>rfl
 | some ad=>simp only[Builtin.firstCells,Zau,Nat.zero_mul];rfl
 have hl2:=jh _ hr;by_cases he:ys=[];subst he;obtain⟨rfl,_⟩:=hr;exact⟨_,c,[],rfl,⟨rfl,rfl⟩,fun w1 _=>by simp only[Builtin.firstCells,Zau,Nat.zero_mul];rfl,Zad⟩;rw[oX ys hs]at hl2;exact⟨_,c,flat,rfl,hr,fun w1 h1=>by simp only[Builtin.firstCells];rw[<- hl2];exact run_loadCells_list w1 _ flat (fun j v hv=>by rw[dY,h1];exact hc j v hv),hl2⟩
theorem xj{sz g o c:Nat}{xs:List V}{x:Value}{Fx:List Nat}(h:R w Pb (.own sz xs g o c) [x] Fx):∃ (B:Option Addr) (flat:List Value) (F':List Nat),x=.slice B xs.length c/\RL w Pb xs flat F'/\
 (∀ w1:World,(∀ ad,w1.cell? ad=w.cell? ad)->(Builtin.firstCells sz xs.length x).run P w1=.ok flat.toArray w1)/\(0<c->B=some ⟨g,o,none⟩/\aS sz xs/\0<sz/\Fx=g::F'/\flat.length=xs.length*sz)/\(c=0->xs=[]/\Fx=[]/\F'=[]/\flat=[])/\xs.length<=c:=by
 rcases h with ⟨rfl,rfl,rfl,A,hx⟩ | ⟨h1,h2,h3,hx,hN,_,flat,F',cells,rfl,hr,hb,hsz,hc⟩;have hx:x=.slice A 0 0:=Zbt
 subst hx;refine⟨A,[],[],rfl,⟨rfl,rfl⟩,fun w1 _=>?_,fun h=>absurd h Zac,fun _=>⟨rfl,rfl,rfl,rfl⟩,Zbc _⟩;cases A with
 | none=>rfl
 | some ad=>simp only[Builtin.firstCells,Zau,Nat.zero_mul];rfl
 have hx:x=.slice (some ⟨g,o,none⟩) xs.length c:=Zbt
 subst hx;have hl:=jh _ hr;rw[oX xs hN]at hl;refine⟨_,flat,F',rfl,hr,fun w1 h1=>?_,fun _=>⟨rfl,hN,h2,rfl,hl⟩,fun h=>absurd h Zac,h3⟩;simp only[Builtin.firstCells];rw[<- hl];exact run_loadCells_list w1 _ flat (fun j v hv=>by rw[dY,h1,eh hb];exact hc j v hv)
theorem qz{e:Nat}{inf:TypeInfo}{z:Value}(h1:P.info? e=some inf)(h2:inf.zero=some z):(zeroValue e).run P w=.ok z w:=by simp[zeroValue,typeInfo,h1,h2]
theorem sZ{T T2 e e2:Nat} {t:TI} (hT:tD P T=some (.sl e)) (Ud:tD P T2=some (.sl e2)) (ht:ti P e=some t) (hz:∃ inf z,P.info? e=some inf/\inf.zero=some z/\z.cells.size=t.sz) (hsz:0<t.sz) (UG:0<t.N4)
 (hs:u7 N Pb Kb A a w F) {xs ys:List V} {g o c:Nat} {s x:Value} {Fx:List Nat} {B2:Option Addr} {c2:Nat} {D7:List Value} (K7:R w Pb (.own t.sz xs g o c) [s] Fx) (w7:∀ r g,g∈Fx->g ∉ F r) (hfr:∀ g,g∈Fx->¬ Kb g/\g<w.heap.size) {Fy:List Nat} (hnd:(Fx++Fy).Nodup) (hyd:∀ r g,g∈Fy->g ∉ F r) (Yd:∀ g,g∈Fy->¬ Kb g/\g<w.heap.size)
 (Q0:x=.slice B2 ys.length c2) (O8:RL w Pb ys D7 Fy) (Ql:∀ w1:World,(∀ ad,w1.cell? ad=w.cell? ad)->(Builtin.firstCells t.sz ys.length x).run P w1=.ok D7.toArray w1) (hl2:D7.length=ys.length*t.sz) (hN:aS t.sz ys) (hbig:(xs.length+ys.length)*t.N4<=140737488355328):
 ∃ v w' F2 g' o' c',(Builtin.append_ #[T,T2] T #[s,x]).run P w=.ok v w'/\u7 N Pb Kb A a w' F/\R w' Pb (.own t.sz (xs++ys) g' o' c') [v] F2/\F2.Nodup/\(∀ r g,g∈F2->g ∉ F r)/\(∀ g,g∈F2->¬ Kb g/\g<w'.heap.size)/\A3 Kb w w':=by
 have hu:=iQ hT;have QB:=iQ Ud;obtain⟨inf,z,OX,hzero,ZG⟩:=hz;obtain⟨UR,_,J3,_,TJ,Ub,_⟩:=jv ht;rw[OX]at J3;obtain rfl:=Option.some.inj J3;obtain⟨B,flat,F',rfl,hr,Rh,J',TA,hle⟩:=xj (P:=P) K7;subst Q0;have RT:(Builtin.lenOf (.slice B2 ys.length c2)).run P w=.ok ys.length w:=rfl;have XH:∀ r g,g∈F r->¬ Pb g:=fun r g hg c=>(hs.free r g hg).1 (hs.sub g c);have Yu:xs.length+ys.length<=140737488355328:=Nat.le_trans (Nat.le_mul_of_pos_right _ UG) hbig;unfold Builtin.append_;simp only[List.getElem?_toArray,List.getElem?_cons_zero,List.getElem?_cons_succ,Za0,aH hu,Zas];simp only[dc ht,Zas];simp only[aH QB,Zas,Za1];rw[if_neg (show ¬ (false=true) by decide)];rw[Za0,RT];simp only[Zas];by_cases RR:xs.length+ys.length<=c
 ·
  rw[if_pos RR];simp only[Za0,Bool.not_false,if_true,Ql w (fun _=>rfl),Zas];by_cases hc:c=0;obtain⟨rfl,rfl,rfl,rfl⟩:=TA hc;have SD:ys=[]:=Za5 Zac;subst SD;have Ri:D7=[]:=Za5 (by simpa using hl2);subst Ri;refine⟨.slice B 0 c,w,[],g,o,0,?_,hs,.inl ⟨rfl,rfl,rfl,B,by rw[hc]⟩,Zba,Zad,Zad,A3.refl _ _⟩;cases B with
  | none=>simp
  | some ad=>simp[storeCells]
  obtain⟨rfl,W9,_,rfl,hl1⟩:=J' Zac;rcases K7 with ⟨h0,_⟩ | ⟨_,_,_,_,_,W8,O',PI,cells,XI,F7,hb,WG,u0⟩;exact absurd h0 hc;simp only[List.cons.injEq,true_and]at XI;subst XI;have hle':o+xs.length*t.sz+D7.length<=cells.size:=by
   rw[hl2];have:(xs.length+ys.length)*t.sz<=c*t.sz:=Nat.mul_le_mul_right _ RR;rw[Nat.add_mul]at this;omega
  obtain⟨w',B4,M'⟩:=gT (P:=P) (g:=g) (o:=o+xs.length*t.sz) D7 0 w cells hb Zac (qI _ O8);have hg:=hfr g Zad;have A8:u7 N Pb Kb A a w' F:=hs.PS (fun r=>w7 r g Zad) hg.1 M'.PS M'.size;have Y8:∀ k,Pb k->w'.heap[k]? =w.heap[k]? :=fun k hk=>M'.PS k (by rintro rfl;exact W8 hk);have hgA:g ∉ F'++Fy:=(List.nodup_cons.1 hnd).1;have SM:g ∉ F':=fun c=>hgA (by simp[c]);have hgY:g ∉ Fy:=fun c=>hgA (by simp[c]);have hkF:∀ k,k∈F'->w'.heap[k]? =w.heap[k]? :=fun k hk=>M'.PS k (by rintro rfl;exact SM hk);obtain⟨n8,K4,L7,Qh,TW⟩:=M'.QK cells hb;have TO:=eH (w':=w') (Pb':=Pb) xs hr Y8 hkF (fun _ h=>h) (fun k hk c=>(hfr k (by simp[hk])).1 (hs.sub k c));have TN:=eH (w':=w') (Pb':=Pb) ys O8 Y8 (fun k hk=>M'.PS k (by rintro rfl;exact hgY hk)) (fun _ h=>h) (fun k hk c=>(Yd k hk).1 (hs.sub k c));have T4:O'=flat\/True:=.inr trivial;have hgy:∀ k,k∈g::(F'++Fy)->(¬ Kb k/\k<w.heap.size)/\∀ r,k ∉ F r:=fun k hk=>by
   rcases Zax.1 (show k∈(g::F')++Fy from hk) with h | h;exact⟨hfr k h,fun r=>w7 r k h⟩;exact⟨Yd k h,fun r=>hyd r k h⟩
  refine⟨.slice (some ⟨g,o,none⟩) (xs.length+ys.length) c,w',g::(F'++Fy),g,o,c,?_,A8,.inr ⟨Zac,hsz,Zal,Zad,?_,W8,flat++D7,F'++Fy,n8,rfl,jj xs ys TO TN,K4,Zac,?_⟩,hnd,fun r k hk=>(hgy k hk).2 r,fun k hk=>by rw[M'.size];exact(hgy k hk).1,⟨M'.os,M'.tape,M'.output,by rw[M'.size];omega,fun k hk=>M'.PS k (by rintro rfl;exact hg.1 hk),M'.shape⟩⟩;have e1:(Array.toList D7.toArray)=D7:=Zad;simp only[dY,Za0];rw[B4];simp only[Zas,Za1];intro v hv;rcases Zax.1 hv with h | h;exact W9 v h;exact hN v h;intro j u hu;by_cases hj:j<flat.length;rw[Za9 hj]at hu;rw[Qh _ Zac];have h1:(loadCells ⟨g,o,none⟩ O'.length).run P w=.ok O'.toArray w:=run_loadCells_list w _ O' (fun j v hv=>by rw[dY,eh hb];exact u0 j v hv);have hl1':O'.length=xs.length*t.sz:=by rw[jh _ F7,oX xs W9]
  have h2:=Rh w (fun _=>rfl);simp only[Builtin.firstCells]at h2;rw[<- hl1',h1]at h2;simp only[Result.ok.injEq,and_true]at h2;have:O'=flat:=by have:=Zbm Array.toList h2;simpa using this
  subst this;exact u0 j u hu;rw[Za4 Zac]at hu;have:=TW _ u hu;rw[<- this];congr 1;omega
 ·
  rw[if_neg RR];have hlt:c<xs.length+ys.length:=Zac;have hmx:IntKind.i64.max=9223372036854775807:=Zaf;have U1: ¬ (((xs.length+ys.length:Nat):Int)>IntKind.i64.max/\((false=true)\/inf.bytes=0)):=by
   rw[hmx];rintro⟨h1,_⟩;omega
  have hcap: ¬ Builtin.nextslicecap (xs.length+ys.length) c*inf.bytes>281474976710656:=by
   have:=growslice_fits (bytes:=t.N4) hlt hbig;rw[Ub];omega
  have VP:∀ w,(typeInfo e).run P w=.ok inf w:=fun w=>by simp[typeInfo,OX]
  obtain⟨nc,Xy,YC⟩:∃ nc,xs.length+ys.length<=nc/\(choose (.appendCap (xs.length+ys.length) c e)).run P w=.ok nc { w with drawn:=w.drawn+1 }:=by
   exact⟨(Question.appendCap (xs.length+ys.length) c e).cut (w.tape w.drawn (Question.appendCap (xs.length+ys.length) c e)),by simp only[Question.cut];exact Nat.le_add_right _ _,by rw[run_choose,if_neg (by simp[Question.forced])]⟩
  obtain⟨w1,Re⟩:∃ w1:World,w1={ w with drawn:=w.drawn+1 }:=⟨_,rfl⟩;rw[<- Re]at YC;have K0:w1.heap=w.heap:=by rw[Re]
  have P7:∀ ad,w1.cell? ad=w.cell? ad:=fun ad=>by rw[Re];rfl
  have W2:=Rh w1 P7;have Ri:=Ql w1 P7;have ZF:=fun w=>qz (w:=w) OX hzero;obtain⟨cells,hcells⟩:∃ cells:Array Value,cells=flat.toArray++D7.toArray++Builtin.zeroCells z.cells (nc-(xs.length+ys.length)):=⟨_,rfl⟩;have hlf:flat.length=xs.length*t.sz:=by
   by_cases hc:c=0;obtain⟨rfl,_,_,rfl⟩:=TA hc;simp;exact(J' Zac).2.2.2.2
  have U5:cells.size=nc*t.sz:=by
   rw[hcells];simp only[Array.size_append,List.size_toArray,Builtin.zeroCells,Array.size_map,Array.size_range,ZG,hlf,hl2];rw[<- Nat.add_mul,<- Nat.add_mul];congr 1;omega
  have hdr:u7 N Pb Kb A a w1 F:=hs.grow (fun k _=>by rw[K0]) (by rw[K0];exact Zbc _) (fun _ h=>h) (fun g h=>.inl h) hs.sub;have U8:∀ k,k∈F'->k∈Fx:=fun k hk=>by
   by_cases hc:c=0;rw[(TA hc).2.2.1]at hk;simp at hk;rw[(J' Zac).2.2.2.1];simp[hk]
  have hFn:(F'++Fy).Nodup:=by
   by_cases hc:c=0;rw[(TA hc).2.2.1];exact(List.nodup_append.1 hnd).2.1;have:=hnd;rw[(J' Zac).2.2.2.1]at this;exact(List.nodup_cons.1 this).2
  have W9:aS t.sz xs:=by
   by_cases hc:c=0;rw[(TA hc).1];intro v hv;simp at hv;exact(J' Zac).2.1
  have hold:∀ k,k<w.heap.size->(w1.alloc (.cells cells e)).heap[k]? =w.heap[k]? :=fun k hk=>by
   rw[alloc_old w1 _ k (by rw[K0];exact hk),K0]
  have TH:(w1.alloc (.cells cells e)).heap.size=w.heap.size+1:=by rw[dK,K0]
  have Rf:w.heap.size=w1.heap.size:=by rw[K0]
  have TO:=eH (w':=w1.alloc (.cells cells e)) (Pb':=Pb) xs hr (fun k hk=>hold k (hs.bound k (hs.sub k hk))) (fun k hk=>hold k (hfr k (U8 k hk)).2) (fun _ h=>h) (fun k hk cc=>(hfr k (U8 k hk)).1 (hs.sub k cc));have TN:=eH (w':=w1.alloc (.cells cells e)) (Pb':=Pb) ys O8 (fun k hk=>hold k (hs.bound k (hs.sub k hk))) (fun k hk=>hold k (Yd k hk).2) (fun _ h=>h) (fun k hk cc=>(Yd k hk).1 (hs.sub k cc));have Xb:∀ k,k∈F'++Fy->(¬ Kb k/\k<w.heap.size)/\∀ r,k ∉ F r:=fun k hk=>by
   rcases Zax.1 hk with h | h;exact⟨hfr k (U8 k h),fun r=>w7 r k (U8 k h)⟩;exact⟨Yd k h,fun r=>hyd r k h⟩
  have R1: ¬ Kb w.heap.size:=fun cc=>by have:=hs.bound _ cc;omega
  refine⟨.slice (some ⟨w.heap.size,0,none⟩) (xs.length+ys.length) nc,w1.alloc (.cells cells e),w.heap.size::(F'++Fy),w.heap.size,0,nc,?_,hdr.nY _,.inr ⟨Zac,hsz,by simpa using Xy,Zad,?_,fun cc=>R1 (hs.sub _ cc),flat++D7,F'++Fy,cells,rfl,
   jj xs ys TO TN,⟨e,(0,0),by rw[Rf];exact gJ w1 _,fun i _ h=>by omega⟩,by rw[U5];omega,fun j u hu=>?_⟩,?_,?_,?_,⟨?_,?_,?_,by rw[TH];omega,fun k hk=>hold k (hs.bound k hk),Shp.of_eq hold⟩⟩
  simp only[Sem.run_ite,Za0,VP,Zas,if_neg U1,if_neg hcap,Za1,YC,W2,Ri,Bool.not_false,if_true,run_askRoom,ZF,jB];rw[hcells,Rf];intro v hv;rcases Zax.1 hv with h | h;exact W9 v h;exact hN v h;rw[hcells,Zaw];have hj:=(Za3.1 hu).1;rw[Array.getElem?_append_left Zbp];simpa using hu;refine List.nodup_cons.2 ⟨fun cc=>?_,hFn⟩;have:=(Xb _ cc).1.2;omega;intro r k hk cc;rcases List.mem_cons.1 hk with rfl | h;have:=(hs.free r _ cc).2;omega;exact(Xb k h).2 r cc;intro k hk;rw[TH];rcases List.mem_cons.1 hk with rfl | h;exact⟨R1,Zac⟩;have:=(Xb k h).1;exact⟨this.1,Zac⟩;rw[Re];rfl;rw[Re];rfl;rw[Re];rfl
theorem AN{T T2 e e2:Nat} {t:TI} (hT:tD P T=some (.sl e)) (Ud:tD P T2=some (.sl e2)) (ht:ti P e=some t) (hz:∃ inf z,P.info? e=some inf/\inf.zero=some z/\z.cells.size=t.sz) (hsz:0<t.sz) (UG:0<t.N4)
 (hs:u7 N Pb Kb A a w F) {xs ys:List V} {s x:Value} {B2:Option Addr} {c2:Nat} {D7:List Value} (K7:R w Pb (.sl true xs) [s] []) (W9:aS t.sz xs) (SD:0<ys.length)
 (Q0:x=.slice B2 ys.length c2) (O8:RL w Pb ys D7 []) (Ql:∀ w1:World,(∀ ad,w1.cell? ad=w.cell? ad)->(Builtin.firstCells t.sz ys.length x).run P w1=.ok D7.toArray w1) (hl2:D7.length=ys.length*t.sz) (hN:aS t.sz ys) (hbig:(xs.length+ys.length)*t.N4<=140737488355328):
 ∃ v w' F2 g' o' c',(Builtin.append_ #[T,T2] T #[s,x]).run P w=.ok v w'/\u7 N Pb Kb A a w' F/\R w' Pb (.own t.sz (xs++ys) g' o' c') [v] F2/\F2.Nodup/\(∀ r g,g∈F2->g ∉ F r)/\(∀ g,g∈F2->¬ Kb g/\g<w'.heap.size)/\A3 Kb w w':=by
 have hu:=iQ hT;have QB:=iQ Ud;obtain⟨inf,z,OX,hzero,ZG⟩:=hz;obtain⟨UR,_,J3,_,TJ,Ub,_⟩:=jv ht;rw[OX]at J3;obtain rfl:=Option.some.inj J3;obtain⟨B,c,flat,rfl,hr,Rh,hlf⟩:=yT (P:=P) K7 W9;have hcx:c=xs.length:=by
  obtain⟨_,A0,c0,h1,_,h2,_⟩:=K7;have h1:=(List.cons.inj h1).1;simp only[Value.slice.injEq]at h1;rw[h1.2.2];exact h2 rfl
 subst Q0;have RT:(Builtin.lenOf (.slice B2 ys.length c2)).run P w=.ok ys.length w:=rfl;have Yu:xs.length+ys.length<=140737488355328:=Nat.le_trans (Nat.le_mul_of_pos_right _ UG) hbig;unfold Builtin.append_;simp only[List.getElem?_toArray,List.getElem?_cons_zero,List.getElem?_cons_succ,Za0,aH hu,Zas];simp only[dc ht,Zas];simp only[aH QB,Zas,Za1];rw[if_neg (show ¬ (false=true) by decide)];rw[Za0,RT];simp only[Zas];have RR: ¬ (xs.length+ys.length<=c):=Zac;rw[if_neg RR];have hlt:c<xs.length+ys.length:=Zac;have hmx:IntKind.i64.max=9223372036854775807:=Zaf;have U1: ¬ (((xs.length+ys.length:Nat):Int)>IntKind.i64.max/\((false=true)\/inf.bytes=0)):=by
  rw[hmx];rintro⟨h1,_⟩;omega
 have hcap: ¬ Builtin.nextslicecap (xs.length+ys.length) c*inf.bytes>281474976710656:=by
  have:=growslice_fits (bytes:=t.N4) hlt hbig;rw[Ub];omega
 have VP:∀ w,(typeInfo e).run P w=.ok inf w:=fun w=>by simp[typeInfo,OX]
 obtain⟨nc,Xy,YC⟩:∃ nc,xs.length+ys.length<=nc/\(choose (.appendCap (xs.length+ys.length) c e)).run P w=.ok nc { w with drawn:=w.drawn+1 }:=by
  exact⟨(Question.appendCap (xs.length+ys.length) c e).cut (w.tape w.drawn (Question.appendCap (xs.length+ys.length) c e)),by simp only[Question.cut];exact Nat.le_add_right _ _,by rw[run_choose,if_neg (by simp[Question.forced])]⟩
 obtain⟨w1,Re⟩:∃ w1:World,w1={ w with drawn:=w.drawn+1 }:=⟨_,rfl⟩;rw[<- Re]at YC;have K0:w1.heap=w.heap:=by rw[Re]
 have P7:∀ ad,w1.cell? ad=w.cell? ad:=fun ad=>by rw[Re];rfl
 have W2:=Rh w1 P7;have Ri:=Ql w1 P7;have ZF:=fun w=>qz (w:=w) OX hzero;obtain⟨cells,hcells⟩:∃ cells:Array Value,cells=flat.toArray++D7.toArray++Builtin.zeroCells z.cells (nc-(xs.length+ys.length)):=⟨_,rfl⟩;have U5:cells.size=nc*t.sz:=by
  rw[hcells];simp only[Array.size_append,List.size_toArray,Builtin.zeroCells,Array.size_map,Array.size_range,ZG,hlf,hl2];rw[<- Nat.add_mul,<- Nat.add_mul];congr 1;omega
 have hdr:u7 N Pb Kb A a w1 F:=hs.grow (fun k _=>by rw[K0]) (by rw[K0];exact Zbc _) (fun _ h=>h) (fun g h=>.inl h) hs.sub;have hold:∀ k,k<w.heap.size->(w1.alloc (.cells cells e)).heap[k]? =w.heap[k]? :=fun k hk=>by
  rw[alloc_old w1 _ k (by rw[K0];exact hk),K0]
 have TH:(w1.alloc (.cells cells e)).heap.size=w.heap.size+1:=by rw[dK,K0]
 have Rf:w.heap.size=w1.heap.size:=by rw[K0]
 have TO:=eH (w':=w1.alloc (.cells cells e)) (Pb':=Pb) xs hr (fun k hk=>hold k (hs.bound k (hs.sub k hk))) Zad (fun _ h=>h) Zad;have TN:=eH (w':=w1.alloc (.cells cells e)) (Pb':=Pb) ys O8 (fun k hk=>hold k (hs.bound k (hs.sub k hk))) Zad (fun _ h=>h) Zad;have R1: ¬ Kb w.heap.size:=fun cc=>by have:=hs.bound _ cc;omega
 refine⟨.slice (some ⟨w.heap.size,0,none⟩) (xs.length+ys.length) nc,w1.alloc (.cells cells e),[w.heap.size],w.heap.size,0,nc,?_,hdr.nY _,.inr ⟨Zac,hsz,by simpa using Xy,Zad,?_,fun cc=>R1 (hs.sub _ cc),flat++D7,[],cells,rfl,
  jj xs ys TO TN,⟨e,(0,0),by rw[Rf];exact gJ w1 _,fun i _ h=>by omega⟩,by rw[U5];omega,fun j u hu=>?_⟩,?_,?_,?_,⟨?_,?_,?_,by rw[TH];omega,fun k hk=>hold k (hs.bound k hk),Shp.of_eq hold⟩⟩
 simp only[Sem.run_ite,Za0,VP,Zas,if_neg U1,if_neg hcap,Za1,YC,W2,Ri,Bool.not_false,if_true,run_askRoom,ZF,jB];rw[hcells,Rf];intro v hv;rcases Zax.1 hv with h | h;exact W9 v h;exact hN v h;rw[hcells,Zaw];have hj:=(Za3.1 hu).1;rw[Array.getElem?_append_left Zbp];simpa using hu;simp;intro r k hk cc;obtain rfl:=Zav.1 hk;have:=(hs.free r _ cc).2;omega;intro k hk;rw[TH];obtain rfl:=Zav.1 hk;exact⟨R1,Zac⟩;rw[Re];rfl;rw[Re];rfl;rw[Re];rfl
def jC(lo n sz g o:Nat):V->Option (Prop×List V)
 | .own PK xs g2 o2 _=>some ((sz=PK/\g=g2/\o=o2)/\lo+n<=xs.length/\V.ax xs=false/\aS PK xs,(xs.drop lo).take n)
 | _=>none
def Qz(A:AS)(x:Operand):Option (Prop×List V):=
 match A.ev x with
 | .sl _ xs=>some (True,xs)
 | .own _ xs _ _ _=>some (True,xs)
 | .hd r p sz g o lo n _=>match r,p with
   | .slot i,[]=>jC lo n sz g o (A.get i)
   | .key k,p=>match A.at (.key k) p with
     | some (_,_,u)=>jC lo n sz g o u
     | none=>none
   | _,_=>none
 | _=>none
theorem pL:∀ (xs:List V) (k:Nat),V.ax xs=false->V.ax (xs.drop k)=false
 | xs,0,h=>h
 | [],k+1,h=>by simpa using h
 | v::vs,k+1,h=>by
   simp only[V.ax,Bool.or_eq_false_iff]at h;exact pL vs k h.2
theorem Hn{Fo:List Nat}{PK g2 o2 c2 lo n c:Nat}{xs:List V}{Vb:List Value}(hr:R w Pb (.own PK xs g2 o2 c2) Vb Fo)(hle:n<=c){B:Option Addr}(hB:0<c->B=some ⟨g2,o2+lo*PK,none⟩)(hn:lo+n<=xs.length)(ho:V.ax xs=false){s:Nat}(hs:aS s ((xs.drop lo).take n)):
 ∃ (flat:List Value),RL w Pb ((xs.drop lo).take n) flat []/\(∀ w1:World,(∀ ad,w1.cell? ad=w.cell? ad)->(Builtin.firstCells s n (.slice B n c)).run P w1=.ok flat.toArray w1)/\flat.length=n*s:=by
 by_cases hn0:n=0;subst hn0;refine⟨[],by simp[RL],fun w1 _=>?_,Zad⟩;cases B with
 | none=>rfl
 | some ad=>simp only[Builtin.firstCells,Nat.zero_mul];rfl
 rcases hr with ⟨_,rfl,_⟩ | ⟨h1,h2,h3,hx,hN,_,flat,F',cells,_,hr,hb,hsz,hc⟩;simp at hn;omega;have hF:=gg xs ho hr;subst hF;have L7:s=PK:=by
  have hne:(xs.drop lo).take n≠[]:=by
   intro e;have:=Zbm List.length e;simp at this;omega
  obtain⟨v,hv⟩:=List.exists_mem_of_ne_nil _ hne;rw[<- hs v hv,<- hN v (List.mem_of_mem_drop (List.mem_of_mem_take hv))]
 subst L7;obtain⟨c1,Sn,P7⟩:=pb xs lo hr;obtain⟨c3,Xx,YD⟩:=oZ _ n Sn;have hl:c3.length=n*s:=by
  rw[jh _ Xx,oX _ (fun x hx=>hN x (List.mem_of_mem_drop (List.mem_of_mem_take hx)))];have:((xs.drop lo).take n).length=n:=Zal;rw[this]
 refine⟨c3,Xx,fun w1 Re=>?_,hl⟩;have hB':=hB Zac;subst hB';simp only[Builtin.firstCells];rw[<- hl];refine run_loadCells_list w1 _ c3 (fun j v hv=>?_);rw[dY,Re,eh hb];have:=P7 j v (YD j v hv);rw[eg xs lo hN Zac]at this;have:=hc _ _ this;simpa[Zbj] using this
theorem mU(hs:u7 N Pb Kb A a w F){x:Operand}{C:Prop}{ys:List V}(h:Qz A x=some (C,ys))(hC:C){s:Nat}(L0:aS s ys)(ho:V.ax ys=false):
 ∃ (B:Option Addr) (c:Nat) (flat:List Value),a.eval x=.slice B ys.length c/\RL w Pb ys flat []/\
   (∀ w1:World,(∀ ad,w1.cell? ad=w.cell? ad)->(Builtin.firstCells s ys.length (a.eval x)).run P w1=.ok flat.toArray w1)/\flat.length=ys.length*s:=by
 obtain⟨Fx,hr⟩:=dS hs x;unfold Qz at h;split at h;rename_i full xs e;simp only[Zan,Zaq]at h;obtain⟨_,rfl⟩:=h;rw[e]at hr;have hr:R w Pb (.sl full xs) [a.eval x] Fx:=hr;have hF:Fx=[]:=hr.1;subst hF;obtain⟨B,c,flat,h1,h2,h3,h4⟩:=yT (P:=P) hr L0;exact⟨B,c,flat,h1,h2,h3,h4⟩;rename_i sz xs g o c e;simp only[Zan,Zaq]at h;obtain⟨_,rfl⟩:=h;rw[e]at hr;have hr:R w Pb (.own sz xs g o c) [a.eval x] Fx:=hr;have UX:=hr;obtain⟨B,flat,F',h1,h2,h3,h4,h5,h6⟩:=xj (P:=P) hr;have hF:=gg xs ho h2;subst hF;by_cases hc:0<c;obtain⟨_,SN,_,_,hl⟩:=h4 hc;by_cases he:xs=[];subst he;exact⟨B,c,flat,h1,h2,fun w1 Re=>by
  have:=h3 w1 Re;simpa[Builtin.firstCells,h1] using this,by simpa using hl⟩
 obtain⟨v,vs,rfl⟩:=List.exists_cons_of_ne_nil he;have L7:s=sz:=by rw[<- L0 v Zad,<- SN v Zad]
 subst L7;exact⟨B,c,flat,h1,h2,h3,hl⟩;obtain⟨rfl,_,_,rfl⟩:=h5 Zac;exact⟨B,c,[],h1,h2,fun w1 Re=>by
  have:=h3 w1 Re;simpa[Builtin.firstCells,h1] using this,Zad⟩
 rename_i r p sz g o lo n c e;rw[e]at hr;obtain⟨_,hle,B,hv,hB⟩:=hr;have hv:a.eval x=.slice B n c:=(List.cons.inj hv).1
 have key:∀ u Fo Vb,R w Pb u Vb Fo->jC lo n sz g o u=some (C,ys)->∃ (B:Option Addr) (c:Nat) (flat:List Value),a.eval x=.slice B ys.length c/\RL w Pb ys flat []/\
  (∀ w1:World,(∀ ad,w1.cell? ad=w.cell? ad)->(Builtin.firstCells s ys.length (a.eval x)).run P w1=.ok flat.toArray w1)/\flat.length=ys.length*s:=by
  intro u Fo Vb N0 hu;unfold jC at hu;split at hu;rename_i PK xs g2 o2 c2;simp only[Zan,Zaq]at hu;obtain⟨rfl,rfl⟩:=hu;obtain⟨⟨rfl,rfl,rfl⟩,hln,VV,_⟩:=hC;obtain⟨flat,k1,k2,k3⟩:=Hn (P:=P) N0 hle hB hln VV L0;have hlen:((xs.drop lo).take n).length=n:=Zal;rw[hlen];exact⟨B,c,flat,hv,k1,by rw[hv];exact k2,k3⟩;simp at hu
 split at h;rename_i i;have P4:=hs.slot i;unfold jC at h;split at h;rename_i PK xs g2 o2 c2 hg;rw[hg]at P4;exact key (.own PK xs g2 o2 c2) _ _ P4 (by unfold jC;exact h);simp at h;rename_i k p';split at h;rename_i a0 b0 u A7;obtain⟨F',cs,cells,hb,N0,u0⟩:=iw hs A7;exact key u F' cs N0 h;simp at h;simp at h;simp at h
theorem pE{t sz:Nat}{xs:List V}{g o c:Nat}(h:A.get t=.own sz xs g o c):A.drop (.tmp t)=A.put (some t) .b9:=by simp[AS.drop,h,V.df]
end
def D'(A B:AS):Prop:=(∀ i,A.get i=B.get i)/\∀ k,lk k A.h=lk k B.h
theorem D'.le{A B:AS}(h:D' A B):A.le B:=⟨fun i=>.inr (h.1 i),fun k=>.inr (h.2 k)⟩
theorem D'.symm{A B:AS}(h:D' A B):D' B A:=⟨fun i=>(h.1 i).symm,fun k=>(h.2 k).symm⟩
theorem D'.trans{A B C:AS}(h:D' A B)(k:D' B C):D' A C:=⟨fun i=>(h.1 i).trans (k.1 i),fun i=>(h.2 i).trans (k.2 i)⟩
def Ul(o:Oper):List Nat:=(o.after.toList.filter (Region.binds .any)).map (·.on)
section
variable {P:Program} {N:Nat} {ops:Array Oper}
theorem FF{α:Type}(t:Nat):∀ (l1 l2:List (Nat×α)),lk t (l1++l2)=match lk t l1 with | some v=>some v | none=>lk t l2
 | [],l2=>rfl
 | (k,v)::l1,l2=>by
   simp only[List.cons_append,lk];by_cases h:t=k;rw[if_pos h,if_pos h];rw[if_neg h,if_neg h];exact FF t l1 l2
def Ux(listed:Array Bool)(n:Nat):Nat:=((List.range n).filter fun i=>!listed.getD i true).length
theorem Gw{listed:Array Bool}{n:Nat}(h:Ux listed n=0):∀ j,j<n->listed.getD j true=true:=by
 intro j hj;unfold Ux at h;have:=Za5 h;rw[List.filter_eq_nil_iff]at this;simpa using this j Zbp
theorem Jc{listed:Array Bool}{n i:Nat}(hi:i<n)(hs:listed.size=n)(hu:listed.getD i true=false):Ux (listed.setIfInBounds i true) n+1=Ux listed n:=by
 unfold Ux;have h:∀ m,m<=n->((List.range m).filter fun j=>!(listed.setIfInBounds i true).getD j true).length+(if i<m then 1 else 0)=((List.range m).filter fun j=>!listed.getD j true).length:=by
  intro m;induction m with
  | zero=>simp
  | succ m ih=>
    intro hm;have ih:=ih Zac;rw[List.range_succ,List.filter_append,List.filter_append,Zap,Zap];by_cases he:m=i;subst he;have e1:(listed.setIfInBounds m true).getD m true=true:=by simp[Array.getD]
    rw[if_neg Zac]at ih;rw[List.filter_cons_of_neg (by rw[e1];decide),List.filter_cons_of_pos (by rw[hu];rfl),if_pos Zac];simp only[List.filter_nil,Zar,Zau];omega;have e1:(listed.setIfInBounds i true).getD m true=listed.getD m true:=getD_set_ne true (Ne.symm he);have e2:([m].filter fun j=>!(listed.setIfInBounds i true).getD j true).length=([m].filter fun j=>!listed.getD j true).length:=by
     cases hb:listed.getD m true with
     | true=>rw[List.filter_cons_of_neg (by rw[e1,hb];decide),List.filter_cons_of_neg (by rw[hb];decide)];rfl
     | false=>rw[List.filter_cons_of_pos (by rw[e1,hb];rfl),List.filter_cons_of_pos (by rw[hb];rfl)];rfl
    rw[e2];by_cases hlt:i<m;rw[if_pos hlt]at ih;rw[if_pos Zac];omega;rw[if_neg hlt]at ih;rw[if_neg Zac];omega
 have:=h n (Zbc _);rw[if_pos hi]at this;exact this
end
def Nw(P:Program)(N:Nat)(ops:Array Oper)(El:List Nat)(U:Nat×Nat×Nat->AS->AS)(o:Oper)(A:AS):Prop:=
 ∀ A':AS,(∀ t,t∈o.looksAt ops\/t∈El->A'.get t=A.get t)->(∀ k,lk k A'.h=lk k A.h)->∀ K:AS->Prop,(∀ gh,K (U gh A'))->F9 P N o A' K
def iL(ops:Array Oper):Nat->Nat->Nat->Bool
 | 0,_,_=>false
 | n+1,j,i=>match ops[j]? with
   | some o=>(Ul o).any fun k=>k==i||iL ops n k i
   | none=>false
theorem kH{ops:Array Oper}{L:Nat->Bool}(hcl:∀ k o,ops[k]? =some o->L k=true->∀ j,j∈Ul o->L j=true):∀ (n j i:Nat),iL ops n j i=true->L j=true->L i=true
 | 0,_,_,h,_=>by simp[iL]at h
 | n+1,j,i,h,hj=>by
   simp only[iL]at h;split at h;rename_i o ho;rw[List.any_eq_true]at h;obtain⟨k,hk,h⟩:=h;have Rg:=hcl j o ho hj k hk;rw[Bool.or_eq_true,Zbl]at h;rcases h with rfl | h;exact Rg;exact kH hcl n k i h Rg;simp at h
structure UOk (U:Nat×Nat×Nat->AS->AS) (Sl Hl:List Nat) (d:Nat):Prop where
 g:∀ gh B t,t ∉ Sl->(U gh B).get t=B.get t
 h:∀ gh B k,k ∉ Hl->lk k (U gh B).h=lk k B.h
 c:∀ gh B B',D' B B'->D' (U gh B) (U gh B')
 p:∀ gh B t v,t ∉ Sl->D' (U gh (B.put (some t) v)) ((U gh B).put (some t) v)
 d:∀ gh B v,D' (U gh (B.put (some d) v)) (U gh B)
 q:∀ gh B k gv,k ∉ Hl->D' (U gh ⟨B.t,(k,gv)::B.h⟩) ⟨(U gh B).t,(k,gv)::(U gh B).h⟩
section
variable {P:Program} {N:Nat} {ops:Array Oper}
end
structure Sa where
 YM:Bool
 El:List Nat
 fr:Option (List Nat)
 Sl:List Nat
 Hl:List Nat
structure ZT (P:Program) where
 T:Nat
 v:V
 ok:nt P T v
def Rn(d:Nat)(v:V)(g:Nat)(B:AS):AS:=⟨(d,.ptr (.key d) [] g 0)::B.t,(d,(g,v))::B.h⟩
def bC(ops:Array Oper)(tb:List (Nat×Sa))(i:Nat):Sa:=match lk i tb with
 | some e=>e
 | none=>match ops[i]? with
   | some o=>⟨false,[],(match o.op with | .load _ _=>none | _=>some []),o.dst.toList,[]⟩
   | none=>⟨false,[],none,[],[]⟩
def fZ(ops:Array Oper)(tb:List (Nat×Sa))(i:Nat):List Nat:=(match ops[i]? with | some o=>o.looksAt ops | none=>[])++(bC ops tb i).El
def X2(A' A:AS)(fs:List Nat):Prop:= ∀ t,t∈fs->A'.get t=A.get t
def hM:Nat:=1000000
def T8(g o:Nat)(v:V)(p:List Nat):Option (Nat×Nat×V×Nat):=match V.at g o v p with
 | some (g',o',.own sz xs g1 o1 c)=>some (g',o',.own sz [] g1 o1 c,xs.length)
 | _=>none
def Tn(i:Nat):List Nat:=if Nat.blt i 10=true then [i] else [i / 10,i % 10]
def N1(h:List (Nat×(Nat×V)))(q:Nat):Option (Nat×Nat×V×Nat):=match lk (q / 100) h with
 | some (g,v)=>T8 g 0 v (Tn (q % 100))
 | none=>none
theorem yY{h h':List (Nat×(Nat×V))}{q:Nat}(e:lk (q / 100) h'=lk (q / 100) h):N1 h' q=N1 h q:=by unfold N1;rw[e]
def SV(A' A:AS)(k:Nat):Prop:=if Nat.blt k hM=true then lk k A'.h=lk k A.h else N1 A'.h (k-hM)=N1 A.h (k-hM)
theorem vF{A' A:AS}(h:∀ k,lk k A'.h=lk k A.h)(k:Nat):SV A' A k:=by
 unfold SV;split;exact h k;exact yY (h _)
theorem SV.trans{A B C:AS}{k:Nat}(h1:SV A B k)(h2:SV B C k):SV A C k:=by
 unfold SV at *;split;rename_i c;rw[if_pos c]at h1 h2;exact Eq.trans h1 h2;rename_i c;rw[if_neg c]at h1 h2;exact Eq.trans h1 h2
def Vd(A' A:AS):Option (List Nat)->Prop
 | none=> ∀ k,lk k A'.h=lk k A.h
 | some fr=> ∀ k,k∈fr->SV A' A k
def Ut(P:Program)(N:Nat)(ops:Array Oper)(o:Oper)(A:AS)(v:V)(fs:List Nat)(fr:Option (List Nat)):Prop:=
 ∀ A':AS,X2 A' A fs->Vd A' A fr->gd ops o A' (F9 P N o A' (fun B=>D' B (A'.put o.dst v))) (cB N o.dst/\∀ w Pb,RV w Pb v undef [])
def X3(P:Program)(N:Nat)(o:Oper)(A:AS){G:Type}(U:G->AS->AS)(fs:List Nat)(fr:Option (List Nat)):Prop:=
 o.guard=none/\∀ A':AS,X2 A' A fs->Vd A' A fr->F9 P N o A' (fun B=> ∃ g,D' B (U g A'))
structure S9 {G:Type} (U:G->AS->AS) (fs Sl Hl:List Nat):Prop where
 g:∀ g B t,t ∉ Sl->(U g B).get t=B.get t
 h:∀ g B k,k ∉ Hl->lk k (U g B).h=lk k B.h
 c:∀ g B B',D' B B'->D' (U g B) (U g B')
 p:∀ g B t v,t ∉ Sl->t ∉ fs->D' (U g (B.put (some t) v)) ((U g B).put (some t) v)
 q:∀ g B k gv,k ∉ Hl->D' (U g ⟨B.t,(k,gv)::B.h⟩) ⟨(U g B).t,(k,gv)::(U g B).h⟩
structure Xe {G:Type} (U:G->AS->AS) (fs Sl Hl:List Nat):Prop extends S9 U fs Sl Hl where
 s:∀ q,hM+q∈Hl->∀ g B,N1 (U g B).h q=N1 B.h q
def PJ(P:Program)(N:Nat)(ops:Array Oper)(tb:List (Nat×Sa))(zs:List (Nat×ZT P)):List Nat->AS->(AS->Prop)->Prop
 | [],A,K=>K A
 | i::l,A,K=> ∃ o,ops[i]? =some o/\match lk i zs with
  | some z=> ∀ g,PJ P N ops tb zs l (Rn (o.dst.getD 0) z.v g A) K
  | none=>match (bC ops tb i).YM with
   | false=>(bC ops tb i).Sl=o.dst.toList/\(bC ops tb i).Hl=[]/\∃ v,Ut P N ops o A v (fZ ops tb i) (bC ops tb i).fr/\PJ P N ops tb zs l (A.put o.dst v) K
   | true=> ∃ (G:Type) (U:G->AS->AS),X3 P N o A U (fZ ops tb i) (bC ops tb i).fr/\Xe U (fZ ops tb i) (bC ops tb i).Sl (bC ops tb i).Hl/\∀ g,PJ P N ops tb zs l (U g A) K
def ck(a b:List Nat):Bool:=a.all fun x=>!b.contains x
def DD(a:List Nat):Option (List Nat)->Bool
 | none=>a.isEmpty
 | some b=>b.all fun x=>if Nat.blt x hM=true then !a.contains x else !a.contains ((x-hM) / 100)||a.contains x
def indep(ops:Array Oper)(tb:List (Nat×Sa)){P:Program}(zs:List (Nat×ZT P))(p i:Nat):Bool:=
 (lk i zs).isNone&&!(bC ops tb p).YM&&ck (bC ops tb p).Sl (fZ ops tb i)&&ck (bC ops tb i).Sl (fZ ops tb p)&&ck (bC ops tb p).Sl (bC ops tb i).Sl&&DD (bC ops tb i).Hl (bC ops tb p).fr
def po(ops:Array Oper)(tb:List (Nat×Sa)){P:Program}(zs:List (Nat×ZT P))(p i:Nat):Bool:=
 match lk i zs,ops[i]? with
 | some _,some o=>match lk p zs,ops[p]? with
   | some _,some o'=>o'.dst.getD 0 != o.dst.getD 0
   | none,_=>!(bC ops tb p).Sl.contains (o.dst.getD 0)&&!(fZ ops tb p).contains (o.dst.getD 0)&&!(bC ops tb p).Hl.contains (o.dst.getD 0)&&(match (bC ops tb p).fr with | some l=>l.all (fun x=>if Nat.blt x hM=true then x != o.dst.getD 0 else (x-hM) / 100 != o.dst.getD 0) | none=>false)
   | _,none=>false
 | _,_=>false
def qt(ops:Array Oper)(m:Nat)(tb:List (Nat×Sa)){P:Program}(zs:List (Nat×ZT P)):List Nat->Bool
 | []=>true
 | p::l=>(l.all fun i=>(match lk p zs with | none=>indep ops tb zs p i | some _=>false)||iL ops 64 i p||po ops tb zs p i)&&qt ops m tb zs l
def CL(N:Nat)(ops:Array Oper){P:Program}(zs:List (Nat×ZT P)):Bool:=zs.all fun x=>match ops[x.1]? with
 | some o=>(match o.op,o.dst with | .alloc T,some d=>T==x.2.T&&Nat.blt d N | _,_=>false)&&o.guard.isNone
 | none=>false
def PL(l:List Nat):Bool:=match l with
 | []=>true
 | k::r=>!r.contains k&&PL r
def Dd(ops:Array Oper)(m:Nat)(pl:List Nat):Bool:=
 (pl.all fun i=>Nat.blt i m)&&PL pl&&((List.range m).all fun i=>pl.contains i)&&Nat.ble m ops.size&&
 (ops.toList.zipIdx.all fun (o,i)=>(Ul o).all (fun k=>Nat.blt k i))&&
 ((List.range (ops.size-m)).all fun q=>match ops[m+q]? with
   | some _=>(List.range (m+q)).all fun k=>iL ops 64 (m+q) k
   | none=>false)
section
variable {P:Program} {N:Nat} {ops:Array Oper} {tb:List (Nat×Sa)} {zs:List (Nat×ZT P)}
theorem wi{a b:List Nat}(h:ck a b=true):∀ x,x∈a->x ∉ b:=fun x hx=>by
 unfold ck at h;rw[Za2]at h;simpa using h x hx
theorem D'.jF{A:AS}:D' A A:=⟨fun _=>rfl,fun _=>rfl⟩
theorem KN{A B:AS}{d:Option Nat}{v:V}(h:D' A B):D' (A.put d v) (B.put d v):=by
 cases d with
 | none=>exact h
 | some d'=>exact⟨fun t=>by rw[AS.aB,AS.aB];split
                            rfl;exact h.1 t,h.2⟩
theorem Ut.congr{o:Oper}{A B:AS}{v:V}{fs:List Nat}{fr:Option (List Nat)}(h:Ut P N ops o A v fs fr)(h1:X2 B A fs)(h2:Vd B A fr):Ut P N ops o B v fs fr:=fun A' k1 k2=>
 h A' (fun t ht=>(k1 t ht).trans (h1 t ht)) (by
   cases fr with
   | none=>exact fun k=>(k2 k).trans (h2 k)
   | some l=>exact fun k hk=>(k2 k hk).trans (h2 k hk))
theorem X3.congr{G:Type}{U:G->AS->AS}{o:Oper}{A B:AS}{fs:List Nat}{fr:Option (List Nat)}(h:X3 P N o A U fs fr)(h1:X2 B A fs)(h2:Vd B A fr):X3 P N o B U fs fr:=⟨h.1,fun A' k1 k2=>
 h.2 A' (fun t ht=>(k1 t ht).trans (h1 t ht)) (by
  cases fr with
  | none=>exact fun k=>(k2 k).trans (h2 k)
  | some l=>exact fun k hk=>(k2 k hk).trans (h2 k hk))⟩
theorem uW{A B:AS}(h:A.h=B.h)(fr:Option (List Nat)):Vd A B fr:=by
 cases fr with
 | none=>exact fun k=>by rw[h]
 | some l=>exact fun k _=>vF (fun k=>by rw[h]) k
theorem Fe{A B:AS}(h:D' A B)(fr:Option (List Nat)):Vd A B fr:=by
 cases fr with
 | none=>exact h.2
 | some l=>exact fun k _=>vF h.2 k
theorem Js{G:Type}{U:G->AS->AS}{fs Sl Hl fr:List Nat}(hU:Xe U fs Sl Hl)(hd:DD Hl (some fr)=true){k:Nat}(hk:k∈fr)(g:G)(B:AS):SV (U g B) B k:=by
 have hx:=Za2.1 hd k hk;unfold SV;split;rename_i c;rw[if_pos c]at hx;exact hU.h g B k Zbt;rename_i c;rw[if_neg c,Bool.or_eq_true]at hx;have UD:hM+(k-hM)=k:=by
  have: ¬ k<hM:=fun h=>c (by simpa[Nat.blt_eq] using h);omega
 rcases hx with hx | hx;exact yY (hU.h g B _ Zbt);exact hU.s _ (by rw[UD];simpa using hx) g B
theorem nI{A:AS}{d:Option Nat}{v:V}:(A.put d v).h=A.h:=by cases d <;> rfl
theorem jP{A:AS}{d:Option Nat}{v:V}{t:Nat}(h:t ∉ d.toList):(A.put d v).get t=A.get t:=by
 cases d with
 | none=>rfl
 | some d'=>rw[AS.aB,if_neg (by simpa using h)]
theorem Eh{d:Nat}{v:V}{g:Nat}{A B:AS}(h:D' A B):D' (Rn d v g A) (Rn d v g B):=
 ⟨fun t=>by simp only[Rn,AS.get,lk];split
            rfl
            exact h.1 t,fun k=>by simp only[Rn,lk];split;rfl;exact h.2 k⟩
theorem eO{K:AS->Prop}(hK:∀ A B,D' A B->K A->K B):∀ (l:List Nat) {A B:AS},D' A B->PJ P N ops tb zs l A K->PJ P N ops tb zs l B K
 | [],A,B,h,hA=>hK A B h hA
 | i::l,A,B,h,hA=>by
   obtain⟨o,ho,hA⟩:=hA;refine⟨o,ho,?_⟩;split at hA;exact fun g=>eO hK l (Eh h) (hA g);split at hA;obtain⟨e1,e2,v,h1,h2⟩:=hA;exact⟨e1,e2,v,h1.congr (fun t _=>(h.1 t).symm) (Fe h.symm _),eO hK l (KN h) h2⟩;obtain⟨G,U,h1,h2,h3⟩:=hA;exact⟨G,U,h1.congr (fun t _=>(h.1 t).symm) (Fe h.symm _),h2,fun g=>eO hK l (h2.c g _ _ h) (h3 g)⟩
theorem Hp{K:AS->Prop}(hK:∀ A B,D' A B->K A->K B){p i:Nat}{l:List Nat}{A:AS}(hp:lk p zs=none)(hi:indep ops tb zs p i=true)(h:PJ P N ops tb zs (p::i::l) A K):PJ P N ops tb zs (i::p::l) A K:=by
 unfold indep at hi;simp only[Zao,Bool.not_eq_true']at hi;obtain⟨⟨⟨⟨⟨hz,h1⟩,h2⟩,h3⟩,h4⟩,h5⟩:=hi;have hz:lk i zs=none:=by simpa using hz
 have h2:=wi h2;have h3:=wi h3;have h4:=wi h4;obtain⟨op,OW,h⟩:=h;rw[hp]at h;simp only at h;rw[h1]at h;obtain⟨e1,e2,v,k1,oi,hoi,h⟩:=h;refine⟨oi,hoi,?_⟩;rw[hz]at h ⊢;simp only at h ⊢;rw[e1]at h2 h4;have g1:X2 A (A.put op.dst v) (fZ ops tb i):=fun t ht=>(jP (fun c=>h2 t c ht)).symm;split at h;rename_i he;obtain⟨f1,f2,v',k2,k3⟩:=h;rw[f1]at h3 h4;refine⟨f1,f2,v',k2.congr g1 (uW nI.symm _),op,OW,?_⟩;rw[hp];simp only;rw[h1];refine⟨e1,e2,v,k1.congr (fun t ht=>jP (fun c=>h3 t c ht)) (uW nI _),?_⟩;refine eO hK l ⟨fun t=>?_,fun k=>by rw[nI,nI,nI,nI]⟩ k3;by_cases c1:t∈oi.dst.toList;cases hd:oi.dst with
 | none=>rw[hd]at c1;simp at c1
 | some d=>
   rw[hd]at c1;have c1:t=d:=by simpa using c1
   subst c1;have hn:t ∉ op.dst.toList:=fun c=>h4 t c (by rw[hd];simp);rw[AS.aB,if_pos rfl,jP hn,AS.aB,if_pos rfl]
 rw[jP c1];by_cases c2:t∈op.dst.toList;cases hd:op.dst with
 | none=>rw[hd]at c2;simp at c2
 | some d=>
   rw[hd]at c2;have c2:t=d:=by simpa using c2
   subst c2;rw[AS.aB,if_pos rfl,AS.aB,if_pos rfl]
 rw[jP c2,jP c2,jP c1];obtain⟨G,U,k2,k3,k4⟩:=h;refine⟨G,U,k2.congr g1 (uW nI.symm _),k3,fun g=>⟨op,OW,?_⟩⟩;rw[hp];simp only;rw[h1];refine⟨e1,e2,v,k1.congr (fun t ht=>k3.g g A t (fun c=>h3 t c ht)) ?_,?_⟩;cases hf:(bC ops tb p).fr with
 | none=>
   rw[hf]at h5;have:(bC ops tb i).Hl=[]:=by simpa[DD] using h5
   exact fun k=>k3.h g A k (by rw[this];simp)
 | some fr=>
   rw[hf]at h5;exact fun k hk=>Js k3 h5 hk g A
 refine eO hK l ?_ (k4 g);cases hd:op.dst with
 | none=>exact D'.jF
 | some d=>exact k3.p g A d v (fun c=>h4 d (by rw[hd];simp) c) (fun c=>h2 d (by rw[hd];simp) c)
theorem wD{d:Nat}{v:V}{g t:Nat}{A:AS}(h:t≠d):(Rn d v g A).get t=A.get t:=by simp only[Rn,AS.get,lk];rw[if_neg h]
theorem FU{d:Nat}{v:V}{g k:Nat}{A:AS}(h:k≠d):lk k (Rn d v g A).h=lk k A.h:=by simp only[Rn,lk];rw[if_neg h]
theorem Kq{d:Nat}{v:V}{g:Nat}{A:AS}{dd:Option Nat}{u:V}(h:d ∉ dd.toList):D' (Rn d v g (A.put dd u)) ((Rn d v g A).put dd u):=by
 cases dd with
 | none=>exact D'.jF
 | some d'=>
   have hne:d≠d':=Zbq
   refine⟨fun t=>?_,fun k=>rfl⟩;rw[AS.aB];by_cases c:t=d;subst c;rw[if_neg hne];simp only[Rn,AS.get,lk,if_true];rw[wD c,wD c,AS.aB]
theorem EB{K:AS->Prop}(hK:∀ A B,D' A B->K A->K B){p i:Nat}{l:List Nat}{A:AS}(hi:po ops tb zs p i=true)(h:PJ P N ops tb zs (p::i::l) A K):PJ P N ops tb zs (i::p::l) A K:=by
 unfold po at hi;split at hi
 case h_2=>simp at hi
 rename_i z o hz ho;obtain⟨op,OW,h⟩:=h;have inner:∀ {B:AS},PJ P N ops tb zs (i::l) B K->∀ g,PJ P N ops tb zs l (Rn (o.dst.getD 0) z.v g B) K:=fun h g=>by
  obtain⟨o',SJ,h⟩:=h;rw[ho]at SJ;obtain rfl:=Option.some.inj SJ;rw[hz]at h;exact h g
 refine⟨o,ho,?_⟩;rw[hz];refine fun g=>⟨op,OW,?_⟩;split at hi;rename_i z' o' ZJ Yr;rw[OW]at Yr;obtain rfl:=Option.some.inj Yr;rw[ZJ]at h ⊢;intro g';have hne:op.dst.getD 0≠o.dst.getD 0:=Zbn
 refine eO hK l ⟨fun t=>?_,fun k=>?_⟩ (inner (h g') g);simp only[Rn,AS.get,lk];by_cases c:t=o.dst.getD 0;rw[if_pos c,if_neg (fun c2=>hne (c2.symm.trans c)),if_pos c];rw[if_neg c,if_neg c];simp only[Rn,lk];by_cases c:k=o.dst.getD 0;rw[if_pos c,if_neg (fun c2=>hne (c2.symm.trans c)),if_pos c];rw[if_neg c,if_neg c];rename_i ZJ;simp only[Zao,Bool.not_eq_true',Zbi,decide_eq_false_iff_not]at hi;obtain⟨⟨⟨i1,i2⟩,i3⟩,i4⟩:=hi;rw[ZJ]at h ⊢;simp only at h ⊢;have gS:X2 (Rn (o.dst.getD 0) z.v g A) A (fZ ops tb p):=fun t ht=>wD fun c=>i2 (by rw[<- c];exact ht);have gR:Vd (Rn (o.dst.getD 0) z.v g A) A (bC ops tb p).fr:=by
  split at i4;rename_i l' hl;rw[hl];intro k hk;have i5:=Za2.1 i4 k hk;unfold SV;split;rename_i c;rw[if_pos c]at i5;exact FU (by simpa using i5);rename_i c;rw[if_neg c]at i5;exact yY (FU (by simpa using i5));simp at i4
 split at h;obtain⟨e1,e2,v,k1,h⟩:=h;refine⟨e1,e2,v,k1.congr gS gR,?_⟩;exact eO hK l (Kq (by rw[<- e1];exact i1)) (inner h g);obtain⟨G,U,k1,k2,h⟩:=h;refine⟨G,U,k1.congr gS gR,k2,fun x=>eO hK l ?_ (inner (h x) g)⟩;have e1:=k2.q x ⟨(o.dst.getD 0,.ptr (.key (o.dst.getD 0)) [] g 0)::A.t,A.h⟩ (o.dst.getD 0) (g,z.v) i3;have e2:=k2.p x A (o.dst.getD 0) (.ptr (.key (o.dst.getD 0)) [] g 0) i1 i2;refine D'.trans ?_ e1.symm;refine⟨fun t=>?_,fun k=>?_⟩;exact(e2.1 t).symm;simp only[Rn,lk];split;rfl;exact(e2.2 k).symm;simp at hi
theorem zT{K:AS->Prop}(hK:∀ A B,D' A B->K A->K B){i:Nat}{l2:List Nat}:∀ (l1:List Nat) {A:AS},(∀ p,p∈l1->(lk p zs=none/\indep ops tb zs p i=true)\/po ops tb zs p i=true)->PJ P N ops tb zs (l1++i::l2) A K->PJ P N ops tb zs (i::(l1++l2)) A K
 | [],A,_,h=>h
 | p::l1,A,hi,h=>by
   have ih:∀ A,PJ P N ops tb zs (l1++i::l2) A K->PJ P N ops tb zs (i::(l1++l2)) A K:=fun A=>zT hK l1 (fun q hq=>hi q (by simp[hq]));have h2:PJ P N ops tb zs (p::i::(l1++l2)) A K:=by
    obtain⟨o,ho,h⟩:=h;refine⟨o,ho,?_⟩;split at h;exact fun g=>ih _ (h g);split at h;obtain⟨e1,e2,v,h1,h2⟩:=h;exact⟨e1,e2,v,h1,ih _ h2⟩;obtain⟨G,U,h1,h2,h3⟩:=h;exact⟨G,U,h1,h2,fun g=>ih _ (h3 g)⟩
   rcases hi p Zad with h | h;exact Hp hK h.1 h.2 h2;exact EB hK h h2
theorem BN{α:Type}:∀ {l:List (Nat×α)} {k:Nat} {v:α},lk k l=some v->(k,v)∈l
 | [],_,_,h=>by simp[lk]at h
 | (k0,v0)::l,k,v,h=>by
   simp only[lk]at h;split at h;rename_i e;subst e;cases h;simp;exact List.mem_cons_of_mem _ (BN h)
theorem Cv{m:Nat}:∀ {pl l1 l2:List Nat} {i p:Nat},qt ops m tb zs pl=true->pl=l1++i::l2->p∈l1->((lk p zs=none/\indep ops tb zs p i=true)\/po ops tb zs p i=true)\/iL ops 64 i p=true
 | [],l1,l2,i,p,_,e,_=>by simp at e
 | q::pl,[],l2,i,p,_,_,hp=>by simp at hp
 | q::pl,x::l1,l2,i,p,h,e,hp=>by
   simp only[List.cons_append,List.cons.injEq]at e;obtain⟨rfl,rfl⟩:=e;simp only[qt,Zao,Za2]at h;rcases List.mem_cons.1 hp with rfl | hp;have:=h.1 i Zad;rw[Bool.or_eq_true,Bool.or_eq_true]at this;rcases this with (h | h) | h;split at h;exact .inl (.inl ⟨by assumption,h⟩);simp at h;exact .inr h;exact .inl (.inr h);exact Cv h.2 rfl hp
theorem oy{m:Nat}(f:Nat->Bool):∀ {pl:List Nat},qt ops m tb zs pl=true->qt ops m tb zs (pl.filter f)=true
 | [],_=>rfl
 | p::pl,h=>by
   simp only[qt,Zao,Za2]at h;simp only[List.filter_cons];split;simp only[qt,Zao,Za2];exact⟨fun i hi=>h.1 i (List.mem_filter.1 hi).1,oy f h.2⟩;exact oy f h.2
theorem yE{L:Nat->Bool}(hcl:∀ k o,ops[k]? =some o->L k=true->∀ j,j∈Ul o->L j=true){i k:Nat}{o:Oper}(ho:ops[i]? =some o)(Ze:∀ j,j∈Ul o->L j=true)(h:iL ops 64 i k=true):L k=true:=by
 have h:iL ops (63+1) i k=true:=h;generalize (63:Nat)=n at h;simp only[iL,ho]at h;rw[List.any_eq_true]at h;obtain⟨q,hq,h⟩:=h;rw[Bool.or_eq_true,Zbl]at h;rcases h with rfl | h;exact Ze _ hq;exact kH hcl n q k h (Ze _ hq)
theorem wN{id m:Nat} {pl:List Nat} {A:AS} {Q:Exit->AS->Prop} (hm:P.follows .mixedOrders=true) (hc:qt ops m tb zs pl=true) (Zg:CL N ops zs=true) (TV:Dd ops m pl=true)
 (h:PJ P N ops tb zs pl A (fun B=> ∃ B',D' B B'/\WL P N ops (ops.toList.drop m) B' (Q .normal))):T P N (.region id ops true) A Q:=by
 unfold Dd at TV;simp only[Zao,Za2]at TV;obtain⟨⟨⟨⟨⟨p1,p2⟩,p3⟩,p4⟩,p5⟩,p6⟩:=TV;have hml:=Nat.le_of_ble_eq_true p4;have WM:∀ i,i∈pl↔i<m:=fun i=>⟨fun hi=>Nat.lt_of_succ_le (Nat.le_of_ble_eq_true (p1 i hi)),fun hi=>by have:=p3 i (List.mem_range.2 hi);simpa using this⟩;have hnd:pl.Nodup:=by
  have:∀ l:List Nat,PL l=true->l.Nodup:=by
   intro l;induction l with
   | nil=>intro _;exact Zba
   | cons a l ih=>
     intro h;simp only[PL,Zao,Bool.not_eq_true',Zbi,decide_eq_false_iff_not]at h;exact List.nodup_cons.2 ⟨h.1,ih h.2⟩
  exact this pl p2
 have T7:∀ i o,ops[i]? =some o->∀ k,k∈Ul o->k<i:=fun i o ho k hk=>by
  have hmz:(o,i)∈ops.toList.zipIdx:=by rw[List.mk_mem_zipIdx_iff_getElem?];simpa using ho
  have:=p5 (o,i) hmz;simp only[Za2]at this;exact Nat.lt_of_succ_le (Nat.le_of_ble_eq_true (this k hk))
 have VO:∀ i o,ops[i]? =some o->m<=i->∀ k,k<i->iL ops 64 i k=true:=fun i o ho hi k hk=>by
  have hin:i<ops.size:=(Zbh.1 ho).1;have:=p6 (i-m) (List.mem_range.2 Zac);rw[show m+(i-m)=i from Zac,ho]at this;simp only[Za2]at this;simpa using this k (List.mem_range.2 hk)
 let Kt:AS->Prop:=fun B=> ∃ B',D' B B'/\WL P N ops (ops.toList.drop m) B' (Q .normal)
 have hKt:∀ A B,D' A B->Kt A->Kt B:=fun A B hAB ⟨B',h1,h2⟩=>⟨B',hAB.symm.trans h1,h2⟩;intro Pb Kb a w F hs;refine wp_region_any hm ?_;have e9:u7 N Pb Kb A a { w with drawn:=w.drawn+1 } F:=hs.grow (fun _ _=>rfl) (Zbc _) (fun _ h=>h) (fun g h=>.inl h) hs.sub;obtain⟨w0,hw0⟩:∃ w0:World,w0={ w with drawn:=w.drawn+1 }:=⟨_,rfl⟩;have S3:A3 Kb w w0:=by rw[hw0];exact⟨rfl,rfl,rfl,Zbc _,fun _ _=>rfl,fun _ c _ _ h=>⟨c,h,rfl⟩⟩
 rw[<- hw0]at e9 ⊢
 let rem (listed:Array Bool):List Nat:=pl.filter fun j=>!listed.getD j true
 let Ph (listed:Array Bool) (A':AS):Prop:=
  (rem listed≠[]/\PJ P N ops tb zs (rem listed) A' Kt)\/
  (∃ k,m<=k/\k<=ops.size/\(∀ j,j<ops.size->listed.getD j true=decide (j<k))/\WL P N ops (ops.toList.drop k) A' (Q .normal))
 have key:∀ fuel (listed:Array Bool) a w',listed.size=ops.size->Ux listed ops.size=fuel->
  (∀ k o,ops[k]? =some o->listed.getD k true=true->∀ j,j∈Ul o->listed.getD j true=true)->Nx N Pb Kb w0 (Ph listed) a w'->
  wpAny P .any ops (fun e a' w'=>Nx N Pb Kb w (Q e) a' w') fuel listed a w':=by
  intro fuel;induction fuel with
  | zero=>
    intro listed a w' hsz hu hcl hn;have L0:=Gw hu;refine⟨?_,(Nx.step (fun _ h=>h) (fun _ h=>h) (fun _ h=>.inl h) S3 hn).mono fun A' YJ=>?_⟩;rw[List.eq_nil_iff_forall_not_mem];intro j hj;rw[mem_ready]at hj;obtain⟨h0,o,ho,_⟩:=hj;have:=L0 j (Zbh.1 ho).1;rw[h0]at this;cases this;rcases YJ with ⟨hne,_⟩ | ⟨k,SL,P6,XB,hw⟩;exfalso;apply hne;rw[List.filter_eq_nil_iff];intro j hj;rw[L0 j (by have:=(WM j).1 hj;omega)];simp;have:k=ops.size:=by
     rcases Nat.lt_or_ge k ops.size with h | h;have:=XB k h;rw[L0 k h]at this;simp at this;omega
    subst this;rw[Za8 Zad]at hw;exact hw
  | succ fuel ih=>
    intro listed a w' hsz hu hcl hn;have U2:∀ j,j<ops.size->listed.getD j false=listed.getD j true:=fun j hj=>by
     have hj':j<listed.size:=Zac;simp[Array.getD,hj']
    constructor;intro hr;exfalso;have hex:∃ j,j<ops.size/\listed.getD j true=false:=by
     refine Classical.byContradiction fun hne=>?_;have:Ux listed ops.size=0:=by
      unfold Ux;rw[List.filter_eq_nil_iff.2];rfl;intro j hj;simp only[List.mem_range]at hj;cases hb:listed.getD j true with
      | true=>simp
      | false=>exact absurd ⟨j,hj,hb⟩ hne
     omega
    have hmin:∀ n,∀ j,j<=n->j<ops.size->listed.getD j true=false->∃ j',j'<ops.size/\listed.getD j' true=false/\∀ i,i<j'->listed.getD i true=true:=by
     intro n;induction n with
     | zero=>intro j hj h1 h2;exact⟨j,h1,h2,fun i hi=>by omega⟩
     | succ n ihn=>
       intro j hj h1 h2;by_cases hsm:∃ i,i<j/\listed.getD i true=false;obtain⟨i,hi,hf⟩:=hsm;exact ihn i Zac Zac hf;exact⟨j,h1,h2,fun i hi=>by
        cases hb:listed.getD i true with
        | true=>rfl
        | false=>exact absurd ⟨i,hi,hb⟩ hsm⟩
    obtain⟨j,Za,WX⟩:=hex;obtain⟨j',h1,h2,h3⟩:=hmin j j (Zbc _) Za WX;have ho:ops[j']? =some ops[j']:=by simp[h1]
    have:j'∈Region.ready .any ops listed:=by
     rw[mem_ready];refine⟨h2,_,ho,fun e he hb=>?_⟩;have hlt:=T7 j' _ ho e.on (by simp only[Ul,List.mem_map,List.mem_filter];exact⟨e,⟨by simpa using he,hb⟩,rfl⟩);rw[U2 _ Zac];exact h3 _ hlt
    rw[hr]at this;cases this;intro i hi;rw[mem_ready]at hi;obtain⟨hi0,o,ho,Ze⟩:=hi;have hin:i<ops.size:=(Zbh.1 ho).1;have U3:∀ k,k∈Ul o->listed.getD k true=true:=fun k hk=>by
     have hlt:=T7 i o ho k hk;simp only[Ul,List.mem_map,List.mem_filter]at hk;obtain⟨e,⟨he,hb⟩,rfl⟩:=hk;rw[<- U2 _ Zac];exact Ze e (by simpa using he) hb
    have QL:∀ k,k<ops.size->(listed.setIfInBounds i true).getD k true=(if k=i then true else listed.getD k true):=fun k hk=>by
     by_cases e:k=i;subst e;simp[Array.getD,hsz,hin];rw[if_neg e];exact getD_set_ne true (Ne.symm e)
    have hcl':∀ k o,ops[k]? =some o->(listed.setIfInBounds i true).getD k true=true->∀ j,j∈Ul o->(listed.setIfInBounds i true).getD j true=true:=fun k o' SJ hk j hj=>by
     have Y7:=(Zbh.1 SJ).1;have hjk:=T7 k o' SJ j hj;rw[QL k Y7]at hk;rw[QL j Zac];split;rfl;split at hk;rename_i e;subst e;rw[ho]at SJ;obtain rfl:=Option.some.inj SJ;exact U3 j hj;exact hcl k o' SJ hk j hj
    have Z3:Ux (listed.setIfInBounds i true) ops.size=fuel:=by have:=Jc hin hsz hi0;omega
    have S4:∀ Ve UO,Nx N Pb Kb w0 (Ph (listed.setIfInBounds i true)) Ve UO->wpAny P .any ops (fun e a' w'=>Nx N Pb Kb w (Q e) a' w') fuel (listed.setIfInBounds i true) Ve UO:=
     fun Ve UO VW=>ih _ Ve UO (by simpa using hsz) Z3 hcl' VW
    obtain⟨A',Pb',E7,F',YJ,h2,h3,h4,h5,h6⟩:=hn;rcases YJ with ⟨hne,hD⟩ | ⟨k,SL,P6,XB,hw⟩
    ·
     obtain⟨j0,hj0⟩:=List.exists_mem_of_ne_nil _ hne;obtain⟨Za,WX⟩:=List.mem_filter.1 hj0;have hj0m:=(WM j0).1 Za;have XF:listed.getD j0 true=false:=by simpa using WX
     have him:i<m:=by
      rcases Nat.lt_or_ge i m with h | h;exact h;have:=yE hcl ho U3 (VO i o ho h j0 Zac);rw[XF]at this;cases this
     have hir:i∈rem listed:=List.mem_filter.2 ⟨(WM i).2 him,by rw[hi0];rfl⟩;obtain⟨l1,l2,hl⟩:=List.append_of_mem hir;have WI:(rem listed).Nodup:=hnd.filter _;have VT:rem (listed.setIfInBounds i true)=l1++l2:=by
      have e1:rem (listed.setIfInBounds i true)=(rem listed).filter fun j=>j != i:=by
       show pl.filter _=(pl.filter _).filter _;rw[List.filter_filter];apply List.filter_congr;intro j hj;rw[QL j (by have:=(WM j).1 hj;omega)];by_cases e:j=i;subst e;simp;simp[e]
      rw[e1,hl];rw[hl]at WI;rw[List.nodup_append]at WI;obtain⟨n1,n2,n3⟩:=WI;rw[List.filter_append,List.filter_cons];simp only[bne_self_eq_false,Bool.false_eq_true,if_false];have f1:l1.filter (fun j=>j != i)=l1:=List.filter_eq_self.2 fun j hj=>by
       have:=n3 j hj i Zad;simpa using this
      have f2:l2.filter (fun j=>j != i)=l2:=List.filter_eq_self.2 fun j hj=>by
       have:=(List.nodup_cons.1 n2).1;simp only[bne_iff_ne,ne_eq];rintro rfl;exact this hj
      rw[f1,f2]
     have hind:∀ p,p∈l1->(lk p zs=none/\indep ops tb zs p i=true)\/po ops tb zs p i=true:=fun p hp=>by
      rcases Cv (oy _ hc) hl hp with h | h;exact h;exfalso;have hpr:p∈rem listed:=by rw[hl];simp[hp]
      have Y3:listed.getD p true=false:=by have:=(List.mem_filter.1 hpr).2;simpa using this
      have hanc:∀ (n j:Nat),iL ops n i j=true->listed.getD j true=true:=by
       intro n j hj;cases n with
       | zero=>simp[iL]at hj
       | succ n=>
         simp only[iL,ho]at hj;rw[List.any_eq_true]at hj;obtain⟨q,hq,hj⟩:=hj;have hql:=U3 q hq;rw[Bool.or_eq_true,Zbl]at hj;rcases hj with rfl | hj;exact hql;exact kH (L:=fun k=>listed.getD k true) hcl n q j hj hql
      have:=hanc 64 p h;rw[Y3]at this;cases this
     rw[hl]at hD;obtain⟨o',SJ,hD⟩:=zT hKt l1 hind hD;rw[ho]at SJ;obtain rfl:=Option.some.inj SJ;have WN:∀ B Qx QG a2 w2 F2,PJ P N ops tb zs (l1++l2) B Kt->u7 N Qx QG B a2 w2 F2->∃ B' F3,Ph (listed.setIfInBounds i true) B'/\u7 N Qx QG B' a2 w2 F3:=fun B Qx QG a2 w2 F2 hB Q1=>by
      by_cases TY:rem (listed.setIfInBounds i true)=[];rw[<- VT,TY]at hB;obtain⟨B',e1,e2⟩:=hB;obtain⟨F3,Pj,_⟩:=Q1.le e1.symm.le;refine⟨B',F3,.inr ⟨m,Zbc _,hml,fun j hj=>?_,e2⟩,Pj⟩;rcases Nat.lt_or_ge j m with h | h;have:j ∉ rem (listed.setIfInBounds i true):=by rw[TY];simp
      have: ¬ ((!(listed.setIfInBounds i true).getD j true)=true):=fun c=>this (List.mem_filter.2 ⟨(WM j).2 h,c⟩);simp only[Bool.not_eq_true',Bool.not_eq_false]at this;rw[this];simp[h];have hoj:ops[j]? =some ops[j]:=by simp[hj]
      rw[QL j hj,if_neg Zac];cases hb:listed.getD j true with
      | false=>simp;omega
      | true=>
        have:=kH hcl 64 j j0 (VO j _ hoj h j0 Zac) hb;rw[XF]at this;cases this
      exact⟨B,F2,.inl ⟨TY,by rw[VT];exact hB⟩,Q1⟩
     unfold Go.wpOp;simp only[ho];split at hD;rename_i z hz;unfold CL at Zg;rw[Za2]at Zg;have Sb:=Zg _ (BN hz);simp only[ho]at Sb;rw[Zao]at Sb;obtain⟨Sb,ZH⟩:=Sb;split at Sb;rename_i T d OW OY;simp only[Zao,Zbl]at Sb;have TE:Region.wanted o (yielded ops a.tmps)=true:=by unfold Region.wanted;rw[show o.guard=none from by simpa using ZH]
     rw[if_pos TE];rw[OY]at hD;refine .inl (Oper.wp_mono ?_ (ra (K:=fun B=>PJ P N ops tb zs (l1++l2) B Kt) OW OY (Nat.lt_of_succ_le (Nat.le_of_ble_eq_true Sb.2)) (by rw[Sb.1];exact z.ok) hD Pb' E7 a w' F' _ h2));rintro a2 w2 ⟨B,Qx,QG,F2,k1,k2,k3,k4,k5,k6⟩;obtain⟨B',F3,hp,Pj⟩:=WN B Qx QG a2 w2 F2 k1 k2;exact S4 a2 w2 (Nx.step h3 h4 h5 h6 ⟨B',Qx,QG,F3,hp,Pj,k3,k4,k5,k6⟩);simp at Sb;split at hD;obtain⟨_,_,v,hv,hD⟩:=hD;rcases uh (hv A' (fun _ _=>rfl) (uW rfl _)) h2 with ⟨TE,OW⟩ | ⟨TE,hd,hvd⟩;rw[if_pos TE];refine .inl (Oper.wp_mono ?_ (OW Pb' E7 a w' F' _ h2));rintro a2 w2 ⟨B,Qx,QG,F2,k1,k2,k3,k4,k5,k6⟩;obtain⟨B',F3,hp,Pj⟩:=WN B Qx QG a2 w2 F2 (eO hKt _ k1.symm hD) k2;exact S4 a2 w2 (Nx.step h3 h4 h5 h6 ⟨B',Qx,QG,F3,hp,Pj,k3,k4,k5,k6⟩);rw[if_neg (by simp[TE])];obtain⟨F2,L7⟩:=h2.pz (d:=o.dst) (v:=v) (x:=undef) hd (hvd w' Pb');obtain⟨B',F3,hp,Pj⟩:=WN _ Pb' E7 _ w' F2 hD L7;exact S4 _ w' ⟨B',Pb',E7,F3,hp,Pj,h3,h4,h5,h6⟩;obtain⟨G,U,hE,_,hD⟩:=hD;have TE:Region.wanted o (yielded ops a.tmps)=true:=by unfold Region.wanted;rw[hE.1]
     rw[if_pos TE];refine .inl (Oper.wp_mono ?_ (hE.2 A' (fun _ _=>rfl) (uW rfl _) Pb' E7 a w' F' _ h2));rintro a2 w2 ⟨B,Qx,QG,F2,⟨g,k1⟩,k2,k3,k4,k5,k6⟩;obtain⟨B',F3,hp,Pj⟩:=WN B Qx QG a2 w2 F2 (eO hKt _ k1.symm (hD g)) k2;exact S4 a2 w2 (Nx.step h3 h4 h5 h6 ⟨B',Qx,QG,F3,hp,Pj,k3,k4,k5,k6⟩)
    ·
     have hik:i=k:=by
      rw[XB i hin]at hi0;simp only[decide_eq_false_iff_not]at hi0;rcases Nat.lt_or_ge k i with h | h;have:=yE hcl ho U3 (VO i o ho Zac k h);rw[XB k Zac]at this;simp at this;omega
     subst hik;have RX:ops.toList.drop i=o::ops.toList.drop (i+1):=by
      rw[List.drop_eq_getElem_cons (by simpa using hin)];have:ops[i]=o:=by have:=Zbh.1 ho;exact this.2
      simp[this]
     rw[RX]at hw;have WN:∀ B,WL P N ops (ops.toList.drop (i+1)) B (Q .normal)->Ph (listed.setIfInBounds i true) B:=fun B hB=>
      .inr ⟨i+1,Zac,Zac,fun j hj=>by
       rw[QL j hj];split;rename_i e;subst e;simp;rename_i e;rw[XB j hj];have:(j<i)↔(j<i+1):=Zac;simp[this],hB⟩
     unfold Go.wpOp;simp only[ho];rcases uh hw h2 with ⟨TE,OW⟩ | ⟨TE,hd,u,hu,VM⟩;rw[if_pos TE];refine .inl (Oper.wp_mono ?_ (OW Pb' E7 a w' F' _ h2));intro a2 w2 Xz;exact S4 a2 w2 (Nx.step h3 h4 h5 h6 (Xz.mono WN));rw[if_neg (by simp[TE])];obtain⟨F2,L7⟩:=h2.pz (d:=o.dst) (v:=u) (x:=undef) hd (hu w' Pb');exact S4 _ w' ⟨_,Pb',E7,F2,WN _ VM,L7,h3,h4,h5,h6⟩
 have UW:∀ k,k<ops.size->(Array.replicate ops.size false).getD k true=false:=fun k hk=>by simp[Array.getD,hk]
 have VS:rem (Array.replicate ops.size false)=pl:=List.filter_eq_self.2 fun j hj=>by rw[UW j (by have:=(WM j).1 hj;omega)];rfl
 have B4:∃ A1 F1,Ph (Array.replicate ops.size false) A1/\u7 N Pb Kb A1 a w0 F1:=by
  by_cases hp:pl=[];subst hp;obtain⟨B',e1,e2⟩:=h;obtain⟨F3,Pj,_⟩:=e9.le e1.symm.le;have hm0:m=0:=by
   rcases Nat.eq_zero_or_pos m with h | h;exact h;have:=(WM 0).2 h;simp at this
  exact⟨B',F3,.inr ⟨m,Zbc _,hml,fun j hj=>by rw[UW j hj,hm0];simp,e2⟩,Pj⟩;exact⟨A,F,.inl ⟨by rw[VS];exact hp,by rw[VS];exact h⟩,e9⟩
 obtain⟨A1,F1,hP1,Pl⟩:=B4;exact key ops.size (Array.replicate ops.size false) a w0 Zad (by
  unfold Ux;rw[List.filter_eq_self.2];simp;intro j hj;simp only[List.mem_range]at hj;rw[UW j hj];rfl)
  (fun k o ho hk=>by rw[UW k (Zbh.1 ho).1]at hk;cases hk) ⟨A1,Pb,Kb,F1,hP1,Pl,fun _ h=>h,fun _ h=>h,fun _ h=>.inl h,A3.refl _ _⟩
end
section
variable {P:Program} {N:Nat} {ops:Array Oper} {A A':AS}
theorem Mq{w:World}{Pb:Nat->Prop}{v:V}{x:Value}{F:List Nat}(h:Wn w Pb v x F):RV w Pb v x F:=by
 cases v with
 | gv b u=>simp[Wn,R]at h
 | _=>exact h
def V.fX:V->Bool | .gv _ _=>true | _=>false
theorem vf{w:World}{Pb:Nat->Prop}{v:V}{x:Value}{F:List Nat}(h:RV w Pb v x F)(hn:v.fX=false):Wn w Pb v x F:=by
 cases v with
 | gv b u=>simp[V.fX]at hn
 | _=>exact h
theorem ql{a:Act}{t:Nat}:a.put (some t) (a.tmps.getD t undef)=a:=by
 cases a with
 | mk tmps defers=>
   simp only[Act.put];congr 1;apply Array.ext_getElem?;intro i;by_cases e:t=i;subst e;by_cases h:t<tmps.size;simp[h,Array.getElem?_setIfInBounds_self];simp[h,Array.getElem?_setIfInBounds];rw[Array.getElem?_setIfInBounds_ne e]
def pe(G b:Bool)(v:V):Prop:=match v.df||v.fX with
 | false=>G=true->b=true
 | true=>False
theorem yd{G b:Bool}{v:V}(h:pe G b v)(hG:G=true):b=true/\v.df=false/\v.fX=false:=by
 unfold pe at h;split at h;rename_i e;rw[Bool.or_eq_false_iff]at e;exact⟨h hG,e.1,e.2⟩;exact h.elim
def AS.un(G:Bool):List Operand->AS->Prop×AS
 | [],A=>(True,A)
 | .tmp t::r,A=>match A.get t with
   | .gv b v=>match AS.un G r (A.put (some t) v) with
     | (C,B)=>(pe G b v/\C,B)
   | _=>AS.un G r A
 | _::r,A=>AS.un G r A
theorem iT{w:World}{Pb Kb:Nat->Prop}{a:Act}{G:Bool}(hG:G=true):∀ (xs:List Operand) {A B:AS} {F:l9->List Nat} {C:Prop},AS.un G xs A=(C,B)->C->u7 N Pb Kb A a w F->(∀ t,Operand.tmp t∈xs->t<N)->∃ F',u7 N Pb Kb B a w F'
 | [],A,B,F,C,h,hC,hs,_=>by simp only[AS.un,Zaq]at h;obtain⟨_,rfl⟩:=h;exact⟨F,hs⟩
 | x::xs,A,B,F,C,h,hC,hs,hN=>by
   have SN:∀ t,Operand.tmp t∈xs->t<N:=fun t ht=>hN t (by simp[ht]);cases x with
   | tmp t=>
     simp only[AS.un]at h;split at h;rename_i b v hg;cases hu:AS.un G xs (A.put (some t) v) with
     | mk C1 B1=>
       rw[hu]at h;simp only[Zaq]at h;obtain⟨rfl,rfl⟩:=h;have hr:=hs.slot t;rw[hg]at hr;have A8:=hs.put (d:=t) (v:=v) (x:=a.tmps.getD t undef) (F':=[]) (hN t Zad) (Mq (hr.2.1 (yd hC.1 hG).1)) Zad Zad Zad;rw[ql]at A8;exact iT hG xs hu hC.2 A8 SN
     exact iT hG xs h hC hs SN
   | _=>exact iT hG xs h hC hs SN
def IC(A B:AS):Prop:=(∀ i,A.get i=B.get i\/∃ b,A.get i=.gv b (B.get i)/\b=true/\(B.get i).df=false/\(B.get i).fX=false)/\A.h=B.h
theorem u7.wrap{w:World}{Pb Kb:Nat->Prop}{a:Act}{F:l9->List Nat}{B:AS}(hs:u7 N Pb Kb B a w F)(h:IC A B):u7 N Pb Kb A a w F where
 size:=hs.size
 defers:=hs.defers
 slot:=fun i=>by
  rcases h.1 i with e | ⟨b,e,hb,ho,hg⟩;rw[e];exact hs.slot i;have hr:=hs.slot i;rw[e];have hF:=wz ho hr;rw[hF]at hr ⊢;exact⟨rfl,fun _=>vf hr hg,fun c=>by rw[hb]at c;cases c⟩
 root:=fun k g v hk=>hs.root k g v (by rw[<- h.2];exact hk)
 ck:=hs.ck
 nodup:=hs.nodup
 free:=hs.free
 sub:=hs.sub
 bound:=hs.bound
theorem nu{G:Bool}(hG:G=true):∀ (xs:List Operand) {A B:AS} {C:Prop},AS.un G xs A=(C,B)->C->IC A B
 | [],A,B,C,h,hC=>by simp only[AS.un,Zaq]at h;obtain⟨_,rfl⟩:=h;exact⟨fun _=>.inl rfl,rfl⟩
 | x::xs,A,B,C,h,hC=>by
   cases x with
   | tmp t=>
     simp only[AS.un]at h;split at h;rename_i b v hg;cases hu:AS.un G xs (A.put (some t) v) with
     | mk C1 B1=>
       rw[hu]at h;simp only[Zaq]at h;obtain⟨rfl,rfl⟩:=h;obtain⟨k1,k2⟩:=nu hG xs hu hC.2;obtain⟨hb,ho,hv⟩:=yd hC.1 hG;refine⟨fun i=>?_,k2⟩;have:=k1 i;rw[AS.aB]at this;by_cases e:i=t;subst e;rw[if_pos rfl]at this;rcases this with e' | ⟨b',e',_⟩;exact .inr ⟨b,by rw[hg,<- e'],hb,by rw[<- e'];exact ho,by rw[<- e'];exact hv⟩;rw[e']at hv;simp[V.fX]at hv;rw[if_neg e]at this;exact this
     exact nu hG xs h hC
   | _=>exact nu hG xs h hC
def PG(A:AS)(ops:Array Oper)(j:Nat)(b:Bool):Option Bool:=
 match ((ops[j]?).bind (·.dst)).map A.get with
 | some (.lit (.bool g))=>some (g==b)
 | some (.gv c (.lit (.bool g)))=>some (c&&(g==b))
 | _=>none
theorem nK{A:AS}{o:Oper}{j:Nat}{b G:Bool}{x y:Prop}(hg:o.guard=some (j,b))(h:PG A ops j b=some G)(hx:G=true->x)(hy:G=false->y):gd ops o A x y:=by
 unfold PG at h;unfold gd;rw[hg];simp only;split at h;rename_i g e;try rw[e]
 simp only[Zan]at h ⊢;subst h;split;rename_i e';exact hx (by simp[e']);rename_i e';exact hy (by simp[e']);rename_i c g e;try rw[e]
 simp only[Zan]at h ⊢;subst h;split;rename_i e';exact hx e';rename_i e';exact hy (by simpa using e');simp at h
def Rr(N:Nat):List Operand->Bool
 | []=>true
 | .tmp t::r=>decide (t<N)&&Rr N r
 | _::r=>Rr N r
theorem nh:∀ {xs:List Operand},Rr N xs=true->∀ t,Operand.tmp t∈xs->t<N
 | [],_,t,ht=>by simp at ht
 | x::xs,h,t,ht=>by
   cases x with
   | tmp t'=>
     simp only[Rr,Zao,Zbk]at h;simp only[List.mem_cons]at ht;rcases ht with e | ht;injection e with e;subst e;exact h.1;exact nh h.2 t ht
   | _=>
     simp only[List.mem_cons,reduceCtorEq,false_or]at ht;exact nh (xs:=xs) (by simpa[Rr] using h) t ht
theorem HQ{o:Oper} {l:List Oper} {K:AS->Prop} {j:Nat} {b G:Bool} {C C':Prop} {B:AS} {v:V} {xs:List Operand} (hg:o.guard=some (j,b)) (hG:PG A ops j b=some G) (hu:AS.un G xs A=(C,B))
 (B4:J1 P B o.op=some (C',v)) (PD:Rr N xs=true) (hd:cB N o.dst) (hC:G=true->C/\C'/\v.fX=false)
 (hK:WL P N ops l (A.put o.dst (.gv G v)) K):WL P N ops (o::l) A K:=by
 refine nK hg hG (fun OZ=>?_) (fun UH=>?_);obtain⟨h1,h2,h3⟩:=hC OZ;refine hY (v:=.gv G v) hd hK fun Pb Kb a w F hs=>?_;obtain⟨F',A8⟩:=iT OZ _ hu h1 hs (nh PD);obtain⟨x,hx,hr⟩:=wo B4 h2 A8 rfl;exact⟨x,hx,rfl,fun _=>vf hr h3,fun h=>by rw[OZ]at h;cases h⟩;exact⟨hd,.gv G v,fun _ _=>⟨rfl,(fun h=>Zby),fun _=>rfl⟩,hK⟩
theorem bp{x:Operand}(h:∀ t,x=.tmp t->A'.get t=A.get t):A'.ev x=A.ev x:=by
 cases x with
 | tmp t=>exact h t rfl
 | _=>rfl
theorem jU{x:Operand}(h:∀ t,x=.tmp t->A'.get t=A.get t):A'.cp x=A.cp x:=by
 cases x with
 | tmp t=>simp only[AS.cp,h t rfl]
 | _=>rfl
theorem uZ{x:Option Operand}(h:∀ t,x=some (.tmp t)->A'.get t=A.get t):x.map A'.ev=x.map A.ev:=by
 cases x with
 | none=>rfl
 | some y=>simp only[Option.map_some,bp (x:=y) fun t e=>h t (by rw[e])]
theorem ja{G:Bool}:∀ (xs:List Operand) {A A' B:AS} {C:Prop},AS.un G xs A=(C,B)->(∀ t,Operand.tmp t∈xs->A'.get t=A.get t)->
 ∃ B',AS.un G xs A'=(C,B')/\(∀ t,A'.get t=A.get t->B'.get t=B.get t)/\B'.h=A'.h/\B.h=A.h
 | [],A,A',B,C,h,_=>by
   simp only[AS.un,Zaq]at h;obtain⟨rfl,rfl⟩:=h;exact⟨A',rfl,fun _ h=>h,rfl,rfl⟩
 | x::xs,A,A',B,C,h,hx=>by
   have PM:∀ t,Operand.tmp t∈xs->A'.get t=A.get t:=fun t ht=>hx t (by simp[ht]);cases x with
   | tmp t=>
     have ht:=hx t Zad;simp only[AS.un]at h ⊢;rw[ht];split at h;rename_i b v hg;cases hu:AS.un G xs (A.put (some t) v) with
     | mk C1 B1=>
       rw[hu]at h;simp only[Zaq]at h;obtain⟨rfl,rfl⟩:=h;obtain⟨B',k1,k2,k3,k4⟩:=ja xs (A':=A'.put (some t) v) hu (fun t' Z7=>by
        rw[AS.aB,AS.aB];split;rfl;exact PM t' Z7)
       refine⟨B',by simp only[k1],fun t' Z7=>k2 t' ?_,by rw[k3];rfl,by rw[k4];rfl⟩;rw[AS.aB,AS.aB];split;rfl;exact Z7
     exact ja xs h PM
   | const c=>exact ja xs h PM
   | global g=>exact ja xs h PM
   | func f=>exact ja xs h PM
theorem dX{o:Oper}{t:Nat}(h:Operand.tmp t∈o.op.operands.toList):t∈o.looksAt ops:=by
 unfold Oper.looksAt;rw[Zax];exact .inl (List.mem_filterMap.2 ⟨_,h,rfl⟩)
theorem ry{xs:List Operand}(h:∀ t,Operand.tmp t∈xs->A'.get t=A.get t):xs.map A'.cp=xs.map A.cp:=by
 apply List.map_congr_left;intro x hx;exact jU fun t e=>h t (by rw[<- e];exact hx)
theorem Gt{K:AS->Prop} {d:Option Nat} {f:FuncId} {xs:Array Operand} {M6:Array TypeId} {ty:TypeId} {pos:String} {after:Array Edge} {rest:List Oper}
 {j:Nat} {b G:Bool} {C:Prop} {B:AS} {L:List V} {E:V} (hd:cB N d) (hG:PG A ops j b=some G) (hu:AS.un G xs.toList A=(C,B)) (PD:Rr N xs.toList=true)
 (hL:xs.toList.map B.cp=L) (hc:G=true->C/\PC P f L (fun r=>r.er=E)/\E.fX=false/\E.df=false) (hK:WL P N ops rest (A.put d (.gv G E)) K):
 WL P N ops (⟨d,.call { callee:=.value (.func f),args:=xs,argTypes:=M6 },ty,pos,after,some (j,b)⟩ :: rest) A K:=by
 subst hL;refine nK (j:=j) (b:=b) rfl hG (fun OZ=>?_) (fun UH=>⟨hd,.gv G E,fun _ _=>⟨rfl,(fun h=>Zby),fun _=>rfl⟩,hK⟩);obtain⟨h1,h2,h3,h4⟩:=hc OZ;intro Pb Kb a w F Q' hs;obtain⟨F',A8⟩:=iT OZ _ hu h1 hs (nh PD);have hw:=nu OZ _ hu h1;have L8:=oD (N:=N) (o:=⟨d,.call { callee:=.value (.func f),args:=xs,argTypes:=M6 },ty,pos,after,some (j,b)⟩) (K:=fun A'=>A'=B.put d E) (A:=B) rfl hd h2 (fun _ h=>h) rfl;refine Oper.wp_mono ?_ (L8 Pb Kb a w F' Q' A8);rintro a' w' ⟨A',Pb',E7,F2,rfl,L7,k3,k4,k5,k6⟩;refine⟨_,Pb',E7,F2,hK,L7.wrap ?_,k3,k4,k5,k6⟩;cases d with
 | none=>exact hw
 | some d=>
   refine⟨fun i=>?_,hw.2⟩;rw[AS.aB,AS.aB];by_cases e:i=d;rw[if_pos e,if_pos e];exact .inr ⟨G,rfl,OZ,h4,h3⟩;rw[if_neg e,if_neg e];exact hw.1 i
end
def Hm(op:BinOp)(a b:BL):Option (Prop×V):=
 match op with
 | .add=>some (a.length+b.length<=4611686018427387904,.lit (.string (Str (a++b))))
 | .eql=>some (True,.lit (.bool (a==b)))
 | .neq=>some (True,.lit (.bool (!(a==b))))
 | _=>none
def Dr(op:BinOp)(d:Option D)(x y:V):Option (Prop×V):=
 match d,x,y with
 | some .str,.lit (.string a),.lit (.string b)=>Hm op a.data.toList b.data.toList
 | d,x,y=>uq op d x y
def Ml:Option D->V->V->Option (Prop×V)
 | some .str,.lit (.string s),.lit (.int _ i)=>some (0<=i/\i<s.data.toList.length,.lit (.int .u8 (s.data.toList.getD i.toNat 0).toNat))
 | _,_,_=>none
def HZ(s:BL)(lo hi:Option V):Option (Prop×V):=
 match Wu lo,VX s.length hi with
 | some l,some h=>some (0<=l/\l<=h/\h<=s.length,.lit (.string (Str ((s.take h.toNat).drop l.toNat))))
 | _,_=>none
def Ls(x:V)(lo hi:Option V):Option (Prop×V):=
 match x with
 | .lit (.string s)=>HZ s.data.toList lo hi
 | _=>none
def GC:Option D->V->Option (Prop×V)
 | some .str,.lit (.string s)=>some (True,.lit (.int .i64 s.data.toList.length))
 | d,x=>zR d x
def CQ(P:Program)(A:AS)(c:Call):Option (Prop×V):=
 match c.callee with
 | .builtin .len=>match c.args.toList,c.argTypes.toList with
   | [x],[T]=>GC (tD P T) (A.ev x)
   | _,_=>none
 | .builtin .max=>match c.args.toList with
   | [x,y]=>DJ (A.ev x) (A.ev y)
   | _=>none
 | _=>none
def AF(P:Program)(d:Option D)(x:V)(j:Nat):Option (Prop×V):=
 match d with
 | some (.st fs)=>match fs[j]? with
   | some (off,T)=>match ti P T with
     | some i=>match x with
       | .agg vs=>match vs[j]? with
         | some v=>if (V.ns (vs.take j)==off&&(i.sz==v.n&&i.d.agg==v.isAgg))=true then some (True,v) else none
         | none=>none
       | _=>none
     | none=>none
   | none=>none
 | _=>none
def pD(P:Program)(d:Option D)(x:V)(j:Nat):Option (Prop×V):=
 match d with
 | some (.st fs)=>match fs[j]? with
   | some (off,T)=>match ti P T with
     | some i=>match x with
       | .ptr r p g o=>if (i.sz != 0)=true then some (True,.ptr r (p++[j]) g (o+off)) else none
       | .ep (.agg vs)=>match vs[j]? with
         | some v=>if (i.sz != 0&&V.ns (vs.take j)==off)=true then some (True,.ep v) else none
         | none=>none
       | _=>none
     | none=>none
   | none=>none
 | _=>none
def IP(A:AS)(i:Option TI)(x:V)(A4:List V):Option (Prop×V×List V):=
 match i with
 | some i=>match x with
   | .ptr r p g o=>match A4 with
     | []=>none
     | .b9::A4=>match A.at r p with
       | some (g',o',v)=>if (v.n==i.sz&&i.d.agg==v.isAgg)=true then some ((g',o')=(g,o),v.S6 r p,A4) else none
       | none=>none
     | v::A4=>if (v.n==i.sz&&i.d.agg==v.isAgg)=true then some (A.at r p=some (g,o,v),v.S6 r p,A4) else none
   | .ep v=>if (v.n==i.sz&&i.d.agg==v.isAgg)=true then some (True,v,A4) else none
   | _=>none
 | none=>none
def wO(A4:List V):Option (Prop×V)->Option (Prop×V×List V)
 | some (C,v)=>some (C,v,A4)
 | none=>none
def vB(P:Program)(d:Option D)(x i:V)(A4:List V):Option (Prop×V×List V):=
 match d,i with
 | some (.sl e),.lit (.int _ i)=>match ti P e with
   | some t=>match x with
     | .sl _ xs=>match A4 with
       | v::A4=>if (v.n==t.sz)=true then some (0<=i/\xs[i.toNat]? =some v,.ep v,A4) else none
       | []=>none
     | .hd r p sz g o lo n _=>if (sz==t.sz)=true then some (0<=i/\i<n,.ptr r (p++[lo+i.toNat]) g (o+(lo+i.toNat)*sz),A4) else none
     | _=>none
   | none=>none
 | d,i=>wO A4 (jz P d x i)
def sY(P:Program)(A:AS)(op:Op)(A4:List V):Option (Prop×V×List V):=
 match op with
 | .binOp o T x y _=>wO A4 (Dr o (tD P T) (A.ev x) (A.ev y))
 | .index T x i=>wO A4 (Ml (tD P T) (A.ev x) (A.ev i))
 | .slice T x lo hi none=>match tD P T with
   | some .str=>wO A4 (Ls (A.ev x) (lo.map A.ev) (hi.map A.ev))
   | d=>wO A4 (De P d (A.ev x) (lo.map A.ev) (hi.map A.ev))
 | .call c=>wO A4 (CQ P A c)
 | .field T x j=>wO A4 (AF P (tD P T) (A.cp x) j)
 | .fieldAddr T x j=>wO A4 (pD P (tD P T) (A.ev x) j)
 | .load T x=>IP A (ti P T) (A.ev x) A4
 | .indexAddr T x i=>vB P (tD P T) (A.ev x) (A.ev i) A4
 | op=>wO A4 (J1 P A op)
section
variable {P:Program} {N:Nat} {ops:Array Oper} {A A':AS}
theorem qg(s:ByteArray):Str s.data.toList=s:=by apply ByteArray.ext;simp[Str]
theorem eM{A4 Rc:List V}{x:Option (Prop×V)}{C:Prop}{v:V}(h:wO A4 x=some (C,v,Rc)):x=some (C,v):=by
 cases x with
 | none=>simp[wO]at h
 | some y=>obtain⟨a,b⟩:=y;simp only[wO,Zan,Zaq]at h;obtain⟨rfl,rfl,_⟩:=h;rfl
theorem JW{op:BinOp}{d:Option D}{x y:V}{C:Prop}{v:V}(h:Dr op d x y=some (C,v))(hC:C):∃ C',uq op d x y=some (C',v)/\C':=by
 unfold Dr at h;split at h;rename_i a b;simp only[uq];cases op <;> simp only[Hm,Zan,Zaq,reduceCtorEq]at h <;> obtain⟨rfl,rfl⟩:=h;refine⟨a.size+b.size<=4611686018427387904,?_,by rw[Array.length_toList,Array.length_toList]at hC;exact hC⟩;simp only[xd];rw[<- JB,qg,qg];refine⟨True,?_,trivial⟩;simp only[xd,Lib.toList_data];refine⟨True,?_,trivial⟩;simp only[xd,Lib.toList_data];exact⟨C,h,hC⟩
theorem rV{op:Op}{A4 Rc:List V}{C:Prop}{v:V}(h:sY P A op A4=some (C,v,Rc))(hC:C):∃ C',J1 P A op=some (C',v)/\C':=by
 unfold sY at h;split at h;exact JW (eM h) hC;rename_i T x i;have h:=eM h;unfold Ml at h;split at h;rename_i s k i' e1 e2 e3;simp only[Zan,Zaq]at h;obtain⟨rfl,rfl⟩:=h;refine⟨0<=i'/\i'<s.size,?_,by rw[Array.length_toList]at hC;exact hC⟩;simp only[J1,Rq,GR,e1,e2,e3];rw[<- qg s,LM];rfl;simp at h;rename_i T x lo hi;split at h;rename_i e;have h:=eM h;simp only[J1,e];unfold Ls at h;split at h;rename_i s e';unfold HZ at h;split at h;rename_i l hh e1 e2;simp only[Zan,Zaq]at h;obtain⟨rfl,rfl⟩:=h;have XR:VX s.size (hi.map A.ev)=some hh:=by
  rw[<- e2,Array.length_toList];rfl
 refine⟨0<=l/\l<=hh/\hh<=s.size,?_,by rw[Array.length_toList]at hC;exact hC⟩;simp only[CK,e',GW,e1,XR];rw[<- Jr,qg];simp at h;simp at h;rename_i d hd;have h:=eM h;refine⟨C,?_,hC⟩;simp only[J1];exact h;rename_i c;have h:=eM h;unfold CQ at h;split at h;rename_i hc;split at h;rename_i x T hx hT;simp only[J1,Rq,vn,hc,hx,hT];unfold GC at h;split at h;rename_i s e1 e2;simp only[Zan,Zaq]at h;obtain⟨rfl,rfl⟩:=h;exact⟨True,by simp only[zR,e1,e2,ByteArray.size,Array.length_toList],trivial⟩;exact⟨C,h,hC⟩;simp at h;rename_i hc;split at h;rename_i x y hx;simp only[J1,Rq,vn,hc,hx];exact⟨C,h,hC⟩;simp at h;simp at h;rename_i T x j;have h:=eM h;simp only[J1];unfold AF at h;split at h;rename_i fs e1;split at h;rename_i off T' e2;split at h;rename_i i e3;split at h;rename_i vs e4;split at h;rename_i u e5;split at h;rename_i hb;simp only[Zan,Zaq]at h;obtain⟨_,rfl⟩:=h;simp only[Zao,Zbl]at hb;exact⟨_,by simp only[vX,e1,e2,e3,e4,e5],hb⟩;simp at h;simp at h;simp at h;simp at h;simp at h;simp at h;rename_i T x j;have h:=eM h;simp only[J1];unfold pD at h;split at h;rename_i fs e1;split at h;rename_i off T' e2;split at h;rename_i i e3;split at h;rename_i r p g o e4;split at h;rename_i hb;simp only[Zan,Zaq]at h;obtain⟨_,rfl⟩:=h;exact⟨i.sz≠0,by simp only[kJ,e1,e2,e3,e4],Zbz⟩;simp at h;rename_i vs e4;split at h;rename_i u e5;split at h;rename_i hb;simp only[Zan,Zaq]at h;obtain⟨_,rfl⟩:=h;simp only[Zao,Zbl,bne_iff_ne]at hb;exact⟨_,by simp only[kJ,e1,e2,e3,e4,e5],hb⟩;simp at h;simp at h;simp at h;simp at h;simp at h;simp at h;rename_i T x;simp only[J1];unfold IP at h;split at h;rename_i i e1;split at h;rename_i r p g o e2;split at h;simp at h;split at h;rename_i g1 o1 u e3;split at h;rename_i hb;simp only[Zan]at h;obtain⟨h1,h2⟩:=Prod.mk.inj h;obtain⟨rfl,_⟩:=Prod.mk.inj h2;subst h1;obtain⟨rfl,rfl⟩:=Prod.mk.inj hC;simp only[Zao,Zbl]at hb;exact⟨g1=g1/\o1=o1/\u.n=i.sz/\i.d.agg=u.isAgg,by simp only[kP,e1,e2,e3],rfl,rfl,hb.1,hb.2⟩;simp at h;simp at h;rename_i u RE _;split at h;rename_i hb;simp only[Zan,Zaq]at h;obtain⟨rfl,rfl,_⟩:=h;simp only[Zao,Zbl]at hb;exact⟨g=g/\o=o/\u.n=i.sz/\i.d.agg=u.isAgg,by simp only[kP,e1,e2,hC],rfl,rfl,hb.1,hb.2⟩;simp at h;rename_i u e2;split at h;rename_i hb;simp only[Zan,Zaq]at h;obtain⟨_,rfl,_⟩:=h;simp only[Zao,Zbl]at hb;exact⟨_,by simp only[kP,e1,e2],hb⟩;simp at h;simp at h;simp at h;rename_i T x i;simp only[J1];unfold vB at h;split at h;rename_i e k i' e1 e2;split at h;rename_i t e3;split at h;rename_i full xs e4;split at h;rename_i u RE;split at h;rename_i hb;simp only[Zan,Zaq]at h;obtain⟨rfl,rfl,_⟩:=h;obtain⟨h0,hx⟩:=hC;have hlt:=(Za3.1 hx).1;have hv:xs.getD i'.toNat .b9=u:=by rw[Zam,hx];rfl
 exact⟨0<=i'/\i'<xs.length/\u.n=t.sz,by simp only[jz,e1,e2,e3,e4,hv],h0,Zac,Zbz⟩;simp at h;simp at h;rename_i r p sz g o lo n c e4;split at h;rename_i hb;simp only[Zan,Zaq]at h;obtain⟨rfl,rfl,_⟩:=h;exact⟨0<=i'/\i'<n/\sz=t.sz,by simp only[jz,e1,e2,e3,e4],hC.1,hC.2,Zbz⟩;simp at h;simp at h;simp at h;exact⟨C,eM h,hC⟩;exact⟨C,eM h,hC⟩
theorem HH{o:Oper}{K K':AS->Prop}(h:F9 P N o A K)(hK:∀ B,K B->K' B):F9 P N o A K':=
 fun Pb Kb a w F Q hs=>Oper.wp_mono (fun _ _ hn=>hn.mono hK) (h Pb Kb a w F Q hs)
def mb:Op->Bool
 | .move _ | .extract _ _ | .call _ | .field _ _ _ | .fieldAddr _ _ _=>true
 | .binOp o _ _ _ _=>match o with
   | .eql | .neq | .lss | .leq | .gtr | .geq=>true
   | _=>false
 | .unOp o _ _=>match o with
   | .not=>true
   | _=>false
 | _=>false
theorem mG{op:Op}{A4 Rc:List V}{C:Prop}{v:V}(ht:mb op=true)(h:sY P A op A4=some (C,v,Rc)):C:=by
 have hB:∀ {o:BinOp} {k:IntKind} {a b:Int} {C:Prop} {v:V},(o=.eql\/o=.neq\/o=.lss\/o=.leq\/o=.gtr\/o=.geq)->wy o k a b=some (C,v)->C:=by
  intro o k a b C v ho h;rcases ho with rfl | rfl | rfl | rfl | rfl | rfl <;> (simp only[wy,jQ,Zan,Zaq]at h;rw[<- h.1];trivial)
 cases op with
 | move x=>have h:=eM (show wO A4 (J1 P A (.move x))=_ from h);simp only[J1,Rq,Zan,Zaq]at h;rw[<- h.1];trivial
 | extract x i=>
   have h:=eM (show wO A4 (J1 P A (.extract x i))=_ from h);simp only[J1,Rq]at h;unfold Gz at h;repeat (split at h <;> try (solve | simp at h))
   all_goals (simp only[Zan,Zaq]at h;rw[<- h.1];trivial)
 | call c=>
   have h:=eM h;unfold CQ at h;split at h;split at h;unfold GC at h;split at h;simp only[Zan,Zaq]at h;rw[<- h.1];trivial;unfold zR at h;split at h <;> first | (solve | simp at h) | (simp only[Zan,Zaq]at h;rw[<- h.1];trivial)
   simp at h;split at h;unfold DJ at h;split at h;split at h;simp only[Zan,Zaq]at h;rw[<- h.1];trivial;simp at h;simp at h;simp at h;simp at h
 | field T x j=>
   have h:=eM h;unfold AF at h;repeat (split at h <;> try (solve | simp at h))
   all_goals (simp only[Zan,Zaq]at h;rw[<- h.1];trivial)
 | fieldAddr T x j=>
   have h:=eM h;unfold pD at h;repeat (first | (solve | simp at h) | split at h)
   all_goals first | (solve | simp at h) | (obtain⟨rfl,_⟩:=h;trivial) | (simp only[Zan,Zaq]at h;rw[<- h.1];trivial) | (split at h <;> first | (solve | simp at h) | (split at h <;> first | (solve | simp at h) | (simp only[Zan,Zaq]at h;rw[<- h.1];trivial)))
 | binOp o T x y pos=>
   have h:=eM h;have ho:o=.eql\/o=.neq\/o=.lss\/o=.leq\/o=.gtr\/o=.geq:=by cases o <;> simp[mb]at ht ⊢
   unfold Dr at h;split at h;rcases ho with rfl | rfl | rfl | rfl | rfl | rfl <;> simp only[Hm,Zan,Zaq,reduceCtorEq]at h <;> (rw[<- h.1];trivial);unfold uq at h;split at h;split at h;exact hB ho h;split at h;exact hB ho h;simp at h;rcases ho with rfl | rfl | rfl | rfl | rfl | rfl <;> simp only[xd,Zan,Zaq,reduceCtorEq]at h <;> (rw[<- h.1];trivial);rcases ho with rfl | rfl | rfl | rfl | rfl | rfl <;> simp only[CO,Zan,Zaq,reduceCtorEq]at h <;> (rw[<- h.1];trivial);simp at h
 | unOp o T x=>
   have h:=eM (show wO A4 (J1 P A (.unOp o T x))=_ from h);have ho:o=.not:=by cases o <;> simp[mb]at ht ⊢
   subst ho;simp only[J1,Rq]at h;unfold Zs at h;split at h;all_goals first | (solve | simp at h) | (simp only[Zan,Zaq]at h;rw[<- h.1];trivial) | (simp_all;done)
 | _=>simp[mb]at ht
def iO:Op->List Operand
 | .pick c _ _=>[c]
 | op=>op.operands.toList
def nn(P:Program)(N:Nat)(ops:Array Oper):Nat->List Oper->List V->AS->Option (Prop×AS)
 | 0,_,_,A=>some (True,A)
 | _+1,[],_,A=>some (True,A)
 | n+1,o::rest,A4,A=>
   match o.dst with
   | none=>none
   | some d=>if d<N then
     match o.guard with
     | some (j,b)=>match PG A ops j b with
       | some G=>match AS.un G (iO o.op) A with
         | (C0,B)=>match sY P B o.op A4 with
           | some (C,v,A4)=>if (Rr N (iO o.op)&&!v.fX)=true then match nn P N ops n rest A4 (A.put (some d) (.gv G v)) with
             | some (C',A')=>some ((G=true->C0/\C)/\C',A')
             | none=>none else none
           | none=>none
       | none=>none
     | none=>match o.op with
       | .assign x=>nn P N ops n rest A4 ((A.drop x).put (some d) (A.ev x))
       | op=>match sY P A op A4 with
         | some (C,v,A4)=>match nn P N ops n rest A4 (A.put (some d) v) with
           | some (C',A')=>if mb op=true then some (C',A') else some (C/\C',A')
           | none=>none
         | none=>none
     else none
theorem pa{K:AS->Prop}:∀ (n:Nat) {l:List Oper} {A4:List V} {A A':AS} {C:Prop},
 nn P N ops n l A4 A=some (C,A')->C->WL P N ops (l.drop n) A' K->WL P N ops l A K
 | 0,l,A4,A,A',C,h,hC,hK=>by
   simp only[nn,Zan,Zaq]at h;obtain⟨_,rfl⟩:=h;exact hK
 | n+1,[],A4,A,A',C,h,hC,hK=>by
   simp only[nn,Zan,Zaq]at h;obtain⟨_,rfl⟩:=h;exact hK
 | n+1,o::l,A4,A,A',C,h,hC,hK=>by
   have RX:(o::l).drop (n+1)=l.drop n:=rfl;rw[RX]at hK;unfold nn at h;split at h;simp at h;rename_i d hd;split at h
   case isFalse=>simp at h
   rename_i U4;have QM:cB N o.dst:=by rw[hd];exact U4
   cases hg:o.guard with
   | some jb=>
     obtain⟨j,b⟩:=jb;rw[hg]at h;simp only at h;split at h
     case h_2=>simp at h
     rename_i G hG;cases hu:AS.un G (iO o.op) A with
     | mk C0 B=>
       rw[hu]at h;simp only at h;split at h
       case h_2=>simp at h
       rename_i C1 v RE B4;split at h
       case isFalse=>simp at h
       rename_i PD;simp only[Zao,Bool.not_eq_true']at PD;split at h
       case h_2=>simp at h
       rename_i C2 A2 hr;simp only[Zan,Zaq]at h;obtain⟨rfl,rfl⟩:=h;by_cases OZ:G=true;obtain⟨C',h1,h2⟩:=rV B4 (hC.1 OZ).2;exact HQ hg hG hu h1 PD.1 QM (fun _=>⟨(hC.1 OZ).1,h2,PD.2⟩) (by rw[hd];exact pa n hr hC.2 hK);refine nK hg hG (fun c=>absurd c OZ) (fun UH=>⟨QM,.gv G v,fun _ _=>⟨rfl,(fun h=>absurd h OZ),fun _=>rfl⟩,?_⟩);rw[hd];exact pa n hr hC.2 hK
   | none=>
     rw[hg]at h;simp only at h;show gd ops o A _ _;unfold gd;rw[hg];simp only;split at h;rename_i x OW;exact uV OW QM (by rw[hd];exact pa n h hC hK)
     · split at h
       case h_2=>simp at h
       rename_i C1 v RE B4;split at h
       case h_2=>simp at h
       rename_i C2 A2 hr;split at h;rename_i ht;simp only[Zan,Zaq]at h;obtain⟨rfl,rfl⟩:=h;obtain⟨C',h1,h2⟩:=rV B4 (mG ht B4);exact wT h1 h2 QM (by rw[hd];exact pa n hr hC hK);simp only[Zan,Zaq]at h;obtain⟨rfl,rfl⟩:=h;obtain⟨C',h1,h2⟩:=rV B4 hC.1;exact wT h1 h2 QM (by rw[hd];exact pa n hr hC.2 hK)
theorem DW(op:Op):∀ t,Operand.tmp t∈iO op->Operand.tmp t∈op.operands.toList:=by
 intro t ht;cases op with
 | pick c a b=>simp only[iO,Zav]at ht;simp[Op.operands,ht]
 | _=>exact ht
def kF(P:Program):List ResultVar->List (l9×V)->Bool
 | .cell _ T::rs,(_,v)::xs=>(match ti P T with | some i=>v.n==i.sz&&i.d.agg==v.isAgg | none=>false)&&kF P rs xs
 | .tmp _::rs,(_,v)::xs=>(match v with | .tup _=>false | .gv _ _=>false | _=>true)&&kF P rs xs
 | [],[]=>true
 | _,_=>false
theorem pt:∀ {rs:List ResultVar} {xs:List (l9×V)},kF P rs xs=true->pA P rs xs
 | [],[],_=>trivial
 | .cell t T::rs,(r,v)::xs,h=>by
   simp only[kF,Zao]at h;refine⟨?_,pt h.2⟩;have h1:=h.1;cases ht:ti P T with
   | none=>rw[ht]at h1;simp at h1
   | some i=>rw[ht]at h1;simpa using h1
 | .tmp t::rs,(r,v)::xs,h=>by
   simp only[kF,Zao]at h;refine⟨?_,pt h.2⟩;have h1:=h.1;cases v <;> first | trivial | simp at h1
 | [],_::_,h=>by simp[kF]at h
 | .cell _ _::_,[],h=>by simp[kF]at h
 | .tmp _::_,[],h=>by simp[kF]at h
def nodupB:List l9->Bool
 | []=>true
 | r::rs=>!(rs.any fun x=>decide (x=r))&&nodupB rs
theorem uu:∀ {l:List l9},nodupB l=true->l.Nodup
 | [],_=>Zba
 | r::rs,h=>by
   simp only[nodupB,Zao,Bool.not_eq_true',List.any_eq_false,Zbk]at h;exact List.nodup_cons.2 ⟨fun c=>h.1 r c rfl,uu h.2⟩
abbrev iN(n:Nat):V:=.lit (.int .i64 n)
abbrev iV(x:Int):V:=.lit (.int .i64 x)
abbrev uN(n:Nat):V:=.lit (.int .u8 n)
abbrev bV(b:Bool):V:=.lit (.bool b)
abbrev sV(l:BL):V:=.lit (.string (Str l))
theorem af{α:Type}{f:α->V}{l:List α}{i:Nat}{d:α}(h:i<l.length):(l.map f)[i]? =some (f (l.getD i d)):=by
 rw[List.getElem?_map,Zat h,Zam,Zat h];rfl
theorem all_map{α:Type}{f:α->V}{l:List α}{n:Nat}(h:∀ x,(f x).n=n):∀ x∈l.map f,x.n=n:=by
 intro x hx;obtain⟨y,_,rfl⟩:=List.mem_map.1 hx;exact h y
end
section
variable {P:Program} {N:Nat} {ops:Array Oper} {A A' A1:AS}
def X5(P:Program)(e sz:Nat):Bool:=match P.info? e with
 | some inf=>match inf.zero with
   | some z=>z.cells.size==sz
   | none=>false
 | none=>false
theorem kQ{e sz:Nat}(h:X5 P e sz=true):∃ inf z,P.info? e=some inf/\inf.zero=some z/\z.cells.size=sz:=by
 unfold X5 at h;split at h;rename_i inf h1;split at h;rename_i z h2;exact⟨inf,z,h1,h2,Zbq⟩;simp at h;simp at h
def ID(P:Program)(T:Nat):Option (List Value):=match P.info? T with
 | some inf=>match inf.zero with
   | some z=>some z.cells.toList
   | none=>none
 | none=>none
theorem dR{T:Nat}{v:V}{cs:List Value}(h:ID P T=some cs)(hv:v.flat=some cs):nt P T v:=by
 unfold ID at h;split at h;rename_i inf h1;split at h;rename_i z h2;exact⟨inf,z,h1,h2,by rw[hv,h]⟩;simp at h;simp at h
def CM(sz:Nat):List V->Bool
 | []=>true
 | v::vs=>v.isVal&&v.n==sz&&CM sz vs
theorem wM{sz:Nat}:∀ {vs:List V},CM sz vs=true->∀ v,v∈vs->v.isVal=true/\v.n=sz
 | [],_,v,hv=>by simp at hv
 | u::us,h,v,hv=>by
   simp only[CM,Zao,Zbl]at h;simp only[List.mem_cons]at hv;rcases hv with rfl | hv;exact h.1;exact wM h.2 v hv
def UL(P:Program)(T e len:Nat)(i:TI)(vs:List V):Bool:=X5 P e i.sz&&vs.length==len&&Nat.ble (len*i.sz) 16777216&&Nat.blt 0 i.sz&&CM i.sz vs
theorem DX{o:Oper} {K:AS->Prop} {T e len:Nat} {c9:Array (Nat×Operand)} {i:TI} {vs:List V} (ho:o.op=.buildSlice T len c9) (hd:cB N o.dst) (hT:tD P T=some (.sl e)) (hi:ti P e=some i)
 (TF:eX A 0 c9.toList=some vs) (hB:UL P T e len i vs=true) (hK:K (A.put o.dst (.sl true vs))):F9 P N o A K:=by
 simp only[UL,Zao,Zbl]at hB;obtain⟨⟨⟨⟨h1,h2⟩,h3⟩,h4⟩,h5⟩:=hB;obtain⟨inf,z,k1,k2,_⟩:=kQ h1;exact wH ho hd hT hi ⟨inf,z,k1,k2⟩ TF h2 (Nat.le_of_ble_eq_true h3) (Nat.lt_of_succ_le (Nat.le_of_ble_eq_true h4)) (wM h5) hK
theorem yj{K:AS->Prop} {d:Option Nat} {T len ty:Nat} {c9:Array (Nat×Operand)} {pos:String} {after:Array Edge} {rest:List Oper} (e:Nat) (i:TI) (vs:List V)
 (TG:tD P T=some (.sl e)/\ti P e=some i) (hd:cB N d) (TF:eX A 0 c9.toList=some vs) (hB:UL P T e len i vs=true) (hK:WL P N ops rest (A.put d (.sl true vs)) K):
 WL P N ops (⟨d,.buildSlice T len c9,ty,pos,after,none⟩ :: rest) A K:=by
 show F9 P N _ A _;exact DX rfl hd TG.1 TG.2 TF hB hK
theorem oH:∀ (ps:List (Nat×Operand)) (k:Nat),(∀ t,Operand.tmp t∈ps.map (·.2)->A'.get t=A.get t)->eX A' k ps=eX A k ps
 | [],_,_=>rfl
 | (i,x)::r,k,h=>by
   simp only[eX];rw[oH r (k+1) (fun t ht=>h t (by simp[ht])),jU (x:=x) (fun t e=>h t (by simp[e]))]
def uI(places:List (Nat×Nat)):List V->List (Nat×V)->Option (List V)
 | zs,[]=>some zs
 | zs,(i,v)::r=>match places[i]?,zs[i]? with
   | some (off,sz),some z=>if (V.ns (zs.take i)==off&&v.n==sz&&z.n==sz&&v.isVal)=true then uI places (zs.set i v) r else none
   | _,_=>none
theorem zZ{places:List (Nat×Nat)}:∀ {ps:List (Nat×V)} {zs vs:List V},uI places zs ps=some vs->∃ C,pJ places zs ps=some (C,vs)/\C
 | [],zs,vs,h=>by simp only[uI,Zan]at h;subst h;exact⟨True,rfl,trivial⟩
 | (i,v)::r,zs,vs,h=>by
   simp only[uI]at h;split at h;rename_i off sz z h1 h2;split at h;rename_i hb;simp only[Zao,Zbl]at hb;obtain⟨C,hf,hC⟩:=zZ h;exact⟨V.ns (zs.take i)=off/\v.n=sz/\z.n=sz/\v.isVal=true/\C,by simp only[pJ,h1,h2,hf],hb.1.1.1,hb.1.1.2,hb.1.2,hb.2,hC⟩;simp at h;simp at h
def iU(P:Program)(A:AS)(T:Nat)(zs:List V)(c9:List (Nat×Operand)):Option V:=
 match tD P T with
 | some (.st fs)=>match mL P fs with
   | some places=>match uI places zs (c9.map fun (i,x)=>(i,A.cp x)) with
     | some vs=>some (.agg vs)
     | none=>none
   | none=>none
 | _=>none
theorem rH{T:Nat}{zs:List V}{c9:List (Nat×Operand)}{v:V}(h:iU P A T zs c9=some v):∃ C,rr P A T zs c9=some (C,v)/\C:=by
 unfold iU at h;split at h;rename_i fs h1;split at h;rename_i places h2;split at h;rename_i vs h3;simp only[Zan]at h;subst h;obtain⟨C,hf,hC⟩:=zZ h3;exact⟨C,by simp only[rr,h1,h2,hf],hC⟩;simp at h;simp at h;simp at h
theorem Gx{K:AS->Prop} {d:Option Nat} {T ty:Nat} {c9:Array (Nat×Operand)} {pos:String} {after:Array Edge} {rest:List Oper} (zs:List V) (v:V)
 (hz:nt P T (.agg zs)) (hd:cB N d) (hb:iU P A T zs c9.toList=some v) (hK:WL P N ops rest (A.put d v) K):
 WL P N ops (⟨d,.build T c9,ty,pos,after,none⟩ :: rest) A K:=by
 obtain⟨C,h1,h2⟩:=rH hb;show F9 P N _ A _;exact yb rfl hd hz h1 h2 hK
end
section
variable {P:Program} {N:Nat} {ops:Array Oper} {A A' A1:AS}
variable {w:World} {Pb Kb:Nat->Prop} {a:Act} {F:l9->List Nat}
def w3(b:UInt8):V:=.lit (.int .u8 b.toNat)
theorem IQ:∀ (bs:BL) {cs:List Value} {F:List Nat},RL w Pb (bs.map w3) cs F->cs=bs.map fun b=>Value.int .u8 (b.toNat:Int)
 | [],cs,F,h=>h.1
 | b::bs,cs,F,h=>by
   obtain⟨c1,c2,F1,F2,rfl,rfl,h1,h2⟩:=h;rw[IQ bs h2,h1.2.1];rfl
theorem Ap:∀ (l:BL),RL w Pb (l.map w3) (l.map fun b=>Value.int .u8 (b.toNat:Int)) []
 | []=>⟨rfl,rfl⟩
 | b::l=>⟨[.int .u8 (b.toNat:Int)],_,[],[],rfl,rfl,⟨rfl,rfl,rfl⟩,Ap l⟩
theorem pn:∀ (bs:BL),V.ax (bs.map w3)=false
 | []=>rfl
 | b::bs=>by simp[V.ax,w3,V.df,pn bs]
theorem rF(bs:BL):aS 1 (bs.map w3):=fun x hx=>by
 obtain⟨b,_,rfl⟩:=List.mem_map.1 hx;rfl
theorem Cm:∀ (bs l:BL),(bs.map fun b=>(b.toNat:Int)).foldl (fun (r:ByteArray) n=>r.push (UInt8.ofNat n.toNat)) (Str l)=Str (l++bs)
 | [],l=>by simp
 | b::bs,l=>by
   simp only[Zbe,List.foldl_cons];have:(Str l).push (UInt8.ofNat (b.toNat:Int).toNat)=Str (l++[b]):=by
    apply ByteArray.ext;simp[Str,ByteArray.push]
   rw[this,Cm bs];simp
theorem rI{o:Oper} {K:AS->Prop} {src dst e:Nat} {x:Operand} {C:Prop} {bs:BL} (ho:o.op=.convert src dst x) (hd:cB N o.dst) (h1:tD P src=some (.sl e)) (h2:tD P e=some (.int .u8)) (h3:tD P dst=some .str)
 (hx:Qz A x=some (C,bs.map w3)) (hC:C) (hK:K (A.put o.dst (sV bs))):F9 P N o A K:=by
 refine hY hd hK fun Pb Kb a w F hs=>?_;obtain⟨B,c,flat,hv,hr,hf,hl⟩:=mU (P:=P) hs hx hC (rF bs) (pn bs);obtain⟨td,Z5,N1⟩:=cP h1;obtain⟨UP,QB,Tc⟩:=cP h2;obtain⟨Zu,Z4,Zf⟩:=cP h3;cases td <;> simp[dH]at N1;cases UP <;> simp[dH]at Tc;cases Zu <;> simp[dH]at Zf;subst N1 Tc;refine⟨.string (Str bs),?_,dq rfl⟩;have T4:=IQ bs hr;simp only[execOp,ho,hv,Za0,run_convert_bytes_string w src dst _ B _ c Z5 QB Z4];have B5:(Conv.bytesToString (.slice B (bs.map w3).length c)).run P w=.ok (.string (Str bs)) w:=by
  cases B with
  | none=>
    have:=hf w (fun _=>rfl);rw[hv]at this;simp only[Builtin.firstCells]at this;have hb:flat=[]:=by
     have h:=this;simp at h;exact h
    rw[T4]at hb;have:bs=[]:=Zbz
    subst this;rfl
  | some ad=>
    have:=hf w (fun _=>rfl);rw[hv]at this;simp only[Builtin.firstCells,Nat.mul_one]at this;rw[run_bytesToString w ad _ c (bs.map fun b=>(b.toNat:Int)) (by rw[this,T4];simp[List.map_map,Function.comp_def])];have:=Cm bs [];simp only[List.nil_append]at this;rw[<- this];rfl
 rw[B5];rfl
theorem AE{o:Oper} {K:AS->Prop} {src dst e d:Nat} {x:Operand} {l:BL} (ho:o.op=.convert src dst x) (hd:o.dst=some d) (hN:d<N) (h1:tD P src=some .str) (h2:tD P dst=some (.sl e)) (h3:tD P e=some (.int .u8))
 (hx:A.ev x=sV l) (hK:∀ g c,K (A.put (some d) (.own 1 (l.map w3) g 0 c))):F9 P N o A K:=by
 intro Pb Kb a w F Q hs;obtain⟨td,Z5,N1⟩:=cP h1;obtain⟨UP,QB,Tc⟩:=cP h2;obtain⟨Zu,Z4,Zf⟩:=cP h3;cases td <;> simp[dH]at N1;cases UP <;> simp[dH]at Tc;cases Zu <;> simp[dH]at Zf;obtain rfl:=Tc;subst Zf;rename_i el;have W3:=bX hs hx;have B5:=Lib.run_convert_string_bytes (P:=P) w src dst _ (Str l) Z5 QB Z4;unfold Oper.wp;have PM:(execOp a.eval o).run P w=.ok (.value (.slice (some ⟨w.heap.size,0,none⟩) (Str l).size (grownCap w (Str l).size 0 el))) (Lib.bytesWorld w el (Str l)):=by
  simp only[execOp,ho,W3,Za0,B5,Zas];rfl
 rw[PM,Oper.upon_value,hd];have hold:=fun j (hj:j<w.heap.size)=>Lib.bytesWorld_at_old w el (Str l) j hj;have hsz:=Lib.bytesWorld_size w el (Str l);have Rf:=Lib.bytesWorld_at_new w el (Str l);obtain⟨w',VM⟩:∃ w',w'=Lib.bytesWorld w el (Str l):=⟨_,rfl⟩;obtain⟨c,hc⟩:∃ c,c=grownCap w (Str l).size 0 el:=⟨_,rfl⟩;have hcap:l.length<=c:=by
  rw[hc,<- ib];simp only[grownCap,Question.cut];exact Nat.le_add_right _ _
 have SK:A3 Kb w w':=by
  rw[VM];exact⟨rfl,rfl,rfl,Zac,fun g hg=>hold g (hs.bound g hg),Shp.of_eq hold⟩
 have A8:u7 N Pb Kb A a w' F:=hs.grow (by rw[VM];exact hold) (by rw[VM];omega) (fun _ h=>h) (fun g h=>.inl h) hs.sub;rw[<- VM,<- hc];have W0:∀ r g,g∈F r->g≠w.heap.size:=fun r g hg=>by have:=(hs.free r g hg).2;omega
 have R1: ¬ Kb w.heap.size:=fun h=>by have:=hs.bound _ h;omega
 by_cases h0:c=0;have WU:l=[]:=Za5 Zac;subst WU;have hrv:RV w' Pb (.own 1 (([]:BL).map w3) 0 0 0) (.slice (some ⟨w.heap.size,0,none⟩) (Str []).size c) []:=.inl ⟨rfl,rfl,rfl,some ⟨w.heap.size,0,none⟩,by rw[h0];rfl⟩;exact⟨_,Pb,Kb,_,hK 0 0,A8.put hN (F':=[]) hrv Zad Zba Zad,fun _ h=>h,fun _ h=>h,fun _ h=>.inl h,SK⟩;have hrv:RV w' Pb (.own 1 (l.map w3) w.heap.size 0 c) (.slice (some ⟨w.heap.size,0,none⟩) (Str l).size c) [w.heap.size]:=by
  refine .inr ⟨Zac,Zac,by simpa using hcap,?_,rF l,fun h=>R1 (hs.sub _ h),l.map (fun b=>Value.int .u8 (b.toNat:Int)),[],Lib.bytesCells w el (Str l),rfl,Ap l,?_,?_,?_⟩;simp[ib];exact⟨el,((Lib.bytesCells w el (Str l)).size,(Lib.bytesCells w el (Str l)).size+1),by rw[VM];exact Rf,fun i hi=>by simp;omega⟩;simp only[Lib.bytesCells,Array.size_append,Array.size_map,Array.size_replicate,<- hc];have:(Str l).data.size=l.length:=by simp[Str]
  rw[this,ib];omega;intro j u hu;simp only[List.getElem?_map,Option.map_eq_some_iff]at hu;obtain⟨b,hb,rfl⟩:=hu;have hj:j<l.length:=(Za3.1 hb).1;simp only[Lib.bytesCells,Zaw];rw[Array.getElem?_append_left (by simp[Str];exact hj)];simp[Str,hb]
 refine⟨_,Pb,Kb,_,hK w.heap.size c,A8.put hN (F':=[w.heap.size]) hrv ?_ Zad ?_,fun _ h=>h,fun _ h=>h,fun _ h=>.inl h,SK⟩;intro r _ g hg RU;simp only[Zav]at hg;exact W0 r g RU hg;intro g hg;simp only[Zav]at hg;subst hg;exact⟨R1,by rw[VM];omega⟩
theorem AJ{K:AS->Prop} {d:Option Nat} {src dst ty:Nat} {x:Operand} {pos:String} {after:Array Edge} {rest:List Oper} (e:Nat) (C:Prop) (bs:BL)
 (ht:tD P src=some (.sl e)/\tD P e=some (.int .u8)/\tD P dst=some .str) (hd:cB N d) (hx:Qz A x=some (C,bs.map w3)) (hC:C) (hK:WL P N ops rest (A.put d (sV bs)) K):
 WL P N ops (⟨d,.convert src dst x,ty,pos,after,none⟩ :: rest) A K:=by
 show F9 P N _ A _;exact rI rfl hd ht.1 ht.2.1 ht.2.2 hx hC hK
theorem AT{K:AS->Prop} {d src dst ty:Nat} {x:Operand} {pos:String} {after:Array Edge} {rest:List Oper} (e:Nat) (l:BL)
 (ht:tD P src=some .str/\tD P dst=some (.sl e)/\tD P e=some (.int .u8)) (hN:d<N) (hx:A.ev x=sV l) (hK:∀ g c,WL P N ops rest (A.put (some d) (.own 1 (l.map w3) g 0 c)) K):
 WL P N ops (⟨some d,.convert src dst x,ty,pos,after,none⟩ :: rest) A K:=by
 show F9 P N _ A _;exact AE rfl rfl hN ht.1 ht.2.1 ht.2.2 hx hK
theorem u7.zW(hs:u7 N Pb Kb A a w F){t:Nat}{v:V}(ht:t<N)(h:RV w Pb v (a.tmps.getD t undef) (F (.slot t))):u7 N Pb Kb (A.put (some t) v) a w F:=by
 have h2:=hs.put (d:=t) (v:=v) (x:=a.tmps.getD t undef) (F':=F (.slot t)) ht h (fun r hr g hg=>hs.ck _ _ (Ne.symm hr) g hg) (hs.nodup _) (fun g hg=>hs.free _ g hg);rw[ql]at h2;have e:cf F (.slot t) (F (.slot t))=F:=by
  funext r;unfold cf;split;rename_i e;rw[e];rfl
 rw[e]at h2;exact h2
theorem u7.fV(hs:u7 N Pb Kb A a w F){t i sz n g o c:Nat}{xs:List V}(ht:t<N)(hi:i<N)(VP:t≠i)(h1:A.get t=.hd (.slot i) [] sz g o 0 n c)(h2:A.get i=.own sz xs g o c)(hn:n=xs.length):
 ∃ F',u7 N Pb Kb ((A.put (some i) .b9).put (some t) (.own sz xs g o c)) a w F':=by
 subst hn;obtain⟨Fx,F1,hr,Pl,hnd,w7,hfr,_⟩:=hs.take (.tmp i);rw[pE h2]at Pl;have hr:RV w Pb (A.get i) (a.tmps.getD i undef) Fx:=hr;rw[h2]at hr;have hh:=hs.slot t;rw[h1]at hh;obtain⟨_,hle,B,hv,hB⟩:=hh;have hv:a.tmps.getD t undef=.slice B xs.length c:=(List.cons.inj hv).1;have F7:RV w Pb (.own sz xs g o c) (a.tmps.getD t undef) Fx:=by
  rw[hv];rcases hr with ⟨rfl,rfl,rfl,A0,_⟩ | ⟨k1,k2,k3,k4,k5⟩;exact .inl ⟨rfl,rfl,rfl,B,rfl⟩;have:=hB k1;rw[Nat.zero_mul,Nat.add_zero]at this;subst this;exact .inr ⟨k1,k2,k3,rfl,k5⟩
 have h3:=Pl.put (d:=t) (v:=.own sz xs g o c) (x:=a.tmps.getD t undef) (F':=Fx) ht F7 (fun r _ g hg=>w7 r g hg) hnd hfr;rw[ql]at h3;exact⟨_,h3⟩
theorem bQ{α:Type}{f:α->V}(hf:∀ x,(f x).df=false):∀ (l:List α),V.ax (l.map f)=false
 | []=>rfl
 | x::l=>by simp only[Zbe,V.ax,hf x,bQ hf l,Bool.or_self]
theorem cQ{α:Type}{f:α->V}{n:Nat}(hf:∀ x,(f x).n=n)(l:List α):aS n (l.map f):=fun x hx=>by
 obtain⟨y,_,rfl⟩:=List.mem_map.1 hx;exact hf y
theorem aV{α:Type}{f:α->V}(hf:∀ x,(f x).er=f x):∀ (l:List α),V.E4 (l.map f)=l.map f
 | []=>rfl
 | x::l=>by simp only[Zbe,V.E4,hf x,aV hf l]
theorem zH{o:Oper} {K:AS->Prop} {x y:Operand} {M6:Array TypeId} {k:IntKind} {p q r:Int} {b:Builtin} (ho:o.op=.call { callee:=.builtin b,args:= #[x,y],argTypes:=M6 }) (hd:cB N o.dst)
 (hx:A.ev x=.lit (.int k p)) (hy:A.ev y=.lit (.int k q)) (hb:(b=.max/\r=max p q)\/(b=.min/\r=min p q)) (hK:K (A.put o.dst (.lit (.int k r)))):F9 P N o A K:=by
 refine hY hd hK fun Pb Kb a w F hs=>⟨.int k r,?_,dq rfl⟩;have e:(#[x,y].map a.eval)= #[.int k p,.int k q]:=by simp[bX hs hx,bX hs hy]
 rcases hb with ⟨rfl,rfl⟩ | ⟨rfl,rfl⟩;simp only[execOp,ho,resolve,invoke,builtin,Za0,Za1,Zas,e,Lib.run_max_ints];simp only[execOp,ho,resolve,invoke,builtin,Za0,Za1,Zas,e,Lib.run_min_ints]
theorem Lt{K:AS->Prop} {d:Option Nat} {x y:Operand} {M6:Array TypeId} {ty:TypeId} {pos:String} {after:Array Edge} {rest:List Oper} (k:IntKind) (p q:Int) (hd:cB N d)
 (hx:A.ev x=.lit (.int k p)) (hy:A.ev y=.lit (.int k q)) (hK:WL P N ops rest (A.put d (.lit (.int k (max p q)))) K):
 WL P N ops (⟨d,.call { callee:=.builtin .max,args:= #[x,y],argTypes:=M6 },ty,pos,after,none⟩ :: rest) A K:=by
 show F9 P N _ A _;exact zH rfl hd hx hy (.inl ⟨rfl,rfl⟩) hK
theorem LL{K:AS->Prop} {d:Option Nat} {x y:Operand} {M6:Array TypeId} {ty:TypeId} {pos:String} {after:Array Edge} {rest:List Oper} (k:IntKind) (p q:Int) (hd:cB N d)
 (hx:A.ev x=.lit (.int k p)) (hy:A.ev y=.lit (.int k q)) (hK:WL P N ops rest (A.put d (.lit (.int k (min p q)))) K):
 WL P N ops (⟨d,.call { callee:=.builtin .min,args:= #[x,y],argTypes:=M6 },ty,pos,after,none⟩ :: rest) A K:=by
 show F9 P N _ A _;exact zH rfl hd hx hy (.inr ⟨rfl,rfl⟩) hK
theorem Fc{sz g o c lo n c':Nat} {xs:List V} {x y:Value} {Fx:List Nat} (hr:R w Pb (.own sz xs g o c) [x] Fx) (hle:n<=c') {B:Option Addr} (hy:y=.slice B n c') (hB:0<c'->B=some ⟨g,o+lo*sz,none⟩)
 (hn:lo+n<=xs.length) (hc:lo+c'<=c) (ho:V.ax xs=false):∃ F',R w Pb (.own sz ((xs.drop lo).take n) g (o+lo*sz) c') [y] F'/\∀ z,z∈F'->z∈Fx:=by
 subst hy;by_cases h0:c'=0;subst h0;have:n=0:=Zac;subst this;exact⟨[],.inl ⟨rfl,Zad,rfl,B,rfl⟩,Zad⟩;rcases hr with ⟨rfl,_⟩ | ⟨h1,h2,h3,_,hN,hP,flat,F',cells,hF,QC,hb,hsz,u0⟩;omega;have hF0:=gg xs ho QC;subst hF0;obtain⟨c1,Sn,P7⟩:=pb xs lo QC;obtain⟨c3,Xx,YD⟩:=oZ _ n Sn;have hlen:((xs.drop lo).take n).length=n:=Zal;refine⟨[g],.inr ⟨Zac,h2,Zac,?_,fun z hz=>hN z (List.mem_of_mem_drop (List.mem_of_mem_take hz)),hP,c3,[],cells,rfl,Xx,hb,?_,fun j u hu=>?_⟩,by rw[hF];simp⟩;rw[hlen,hB Zac];have:(lo+c')*sz<=c*sz:=Nat.mul_le_mul_right _ hc;rw[Nat.add_mul]at this;omega;have:=P7 j u (YD j u hu);rw[eg xs lo hN Zac]at this;have:=u0 _ _ this;rw[Zbj];exact this
theorem Dp{K:AS->Prop} {i:Nat} {x:Operand} {ty:TypeId} {pos:String} {after:Array Edge} {rest:List Oper} (lo n c':Nat) {sz g o c:Nat} (xs:List V) (hi:i<N)
 (hx:A.ev x=.hd (.slot i) [] sz g o lo n c') (h2:A.get i=.own sz xs g o c) (hn:lo+n<=xs.length) (hc:lo+c'<=c) (ho:V.ax xs=false)
 (hK:WL P N ops rest (A.put (some i) (.own sz ((xs.drop lo).take n) g (o+lo*sz) c')) K):WL P N ops (⟨some i,.assign x,ty,pos,after,none⟩ :: rest) A K:=by
 show F9 P N _ A _;intro Pb Kb a w F Q hs;obtain⟨_,hr⟩:=dS hs x;rw[hx]at hr;obtain⟨_,hle,B,hv,hB⟩:=hr;have hv:a.eval x=.slice B n c':=(List.cons.inj hv).1;have P4:=hs.slot i;rw[h2]at P4;obtain⟨F',F7,TL⟩:=Fc (w:=w) (Pb:=Pb) P4 hle hv hB hn hc ho;have hnd:F'.Nodup:=by
  rcases F7 with ⟨_,_,rfl,_⟩ | ⟨_,_,_,_,_,_,flat,F2,cells,hF,QC,_⟩;exact Zba;have:=gg _ (by
   have:=pL xs lo ho;have h3:∀ (l:List V) (k:Nat),V.ax l=false->V.ax (l.take k)=false:=by
    intro l;induction l with
    | nil=>intro k _;simp[V.ax]
    | cons v l ih=>
      intro k h;cases k with
      | zero=>rfl
      | succ k=>simp only[List.take_succ_cons,V.ax,Bool.or_eq_false_iff]at h ⊢;exact⟨h.1,ih k h.2⟩
   exact h3 _ n this) QC
  subst this;rw[hF];simp
 unfold Oper.wp;have:(execOp a.eval ⟨some i,.assign x,ty,pos,after,none⟩).run P w=.ok (.value (a.eval x)) w:=rfl;rw[this,Oper.upon_value];exact⟨_,Pb,Kb,_,hK,hs.put hi F7 (fun r hr g hg=>fun RU=>hs.ck _ _ (Ne.symm hr) g (TL g hg) RU) hnd (fun g hg=>hs.free _ g (TL g hg)),fun _ h=>h,fun _ h=>h,fun _ h=>.inl h,A3.refl _ _⟩
end
section
variable {P:Program} {N:Nat} {ops:Array Oper} {A A' A1:AS}
def wF(A:AS):List ResultVar->Option (Prop×List (l9×V))
 | []=>some (True,[])
 | r::rs=>match wF A rs with
   | some (C,xs)=>match r with
     | .tmp t=>some (C,(.slot t,A.get t)::xs)
     | .cell t _=>match A.get t with
       | .ptr (.key k) [] g 0=>match lk k A.h with
         | some (g',v)=>some (g'=g/\C,(.key k,v)::xs)
         | none=>none
       | _=>none
   | none=>none
theorem sI:∀ {rs:List ResultVar} {C:Prop} {xs:List (l9×V)},wF A rs=some (C,xs)->C->qf A rs=some xs
 | [],C,xs,h,_=>by simp only[wF,Zan,Zaq]at h;rw[<- h.2];rfl
 | r::rs,C,xs,h,hC=>by
   simp only[wF]at h;split at h
   case h_2=>simp at h
   rename_i C1 xs1 hr;cases r with
   | tmp t=>
     simp only[Zan,Zaq]at h;obtain⟨rfl,rfl⟩:=h;simp only[qf,yH,sI hr hC]
   | cell t T=>
     simp only at h;split at h;rename_i k g hg;split at h;rename_i g' v hk;simp only[Zan,Zaq]at h;obtain⟨rfl,rfl⟩:=h;obtain⟨rfl,hC⟩:=hC;simp only[qf,yH,hg,hk,if_true,sI hr hC];simp at h;simp at h
end
mutual
def V.kill:V->V
 | .own .. =>.b9
 | .ow .. =>.b9
 | .om .. =>.b9
 | .agg vs=>.agg (V.jM vs)
 | v=>v
def V.jM:List V->List V
 | []=>[]
 | v::vs=>v.kill::V.jM vs
end
section
variable {P:Program} {N:Nat} {ops:Array Oper} {A A' A1:AS}
variable {w:World} {Pb Kb:Nat->Prop} {a:Act} {F:l9->List Nat}
mutual
theorem zL:∀ v:V,v.kill.n=v.n
 | .own .. =>rfl
 | .ow .. =>rfl
 | .om .. =>rfl
 | .mp .. =>rfl
 | .agg vs=>by simp only[V.kill,V.n];exact Bs vs
 | .tup _=>rfl | .gv _ _=>rfl | .lit _=>rfl | .sl .. =>rfl | .hd .. =>rfl | .ptr .. =>rfl | .ep _=>rfl | .b9=>rfl
theorem Bs:∀ vs:List V,V.ns (V.jM vs)=V.ns vs
 | []=>rfl
 | v::vs=>by simp only[V.jM,V.ns,zL v,Bs vs]
end
mutual
theorem FE:∀ (v:V) {cs F},R w Pb v cs F->R w Pb v.kill cs []
 | .own sz xs g o c,cs,F,h=>by
   rcases h with ⟨_,_,_,B,rfl⟩ | ⟨_,_,_,rfl,_⟩ <;> exact⟨rfl,_,rfl,rfl⟩
 | .ow sz xs,cs,F,h=>by
   obtain⟨g,o,c,h⟩:=h;rcases h with ⟨_,_,_,B,rfl⟩ | ⟨_,_,_,rfl,_⟩ <;> exact⟨rfl,_,rfl,rfl⟩
 | .om ..,_,_,h=>⟨rfl,_,h.2.1,rfl⟩
 | .mp ..,_,_,h=>⟨rfl,h.2⟩
 | .agg vs,cs,F,h=>by simp only[R,V.kill]at h ⊢;exact Bd vs h
 | .tup _,_,_,h=>by simp[R]at h
 | .gv _ _,_,_,h=>by simp[R]at h
 | .lit x,_,_,h=>⟨h.1,h.2.1,rfl⟩
 | .sl ..,_,_,h=>⟨rfl,h.2⟩
 | .hd ..,_,_,h=>⟨rfl,h.2⟩
 | .ptr ..,_,_,h=>⟨rfl,h.2⟩
 | .ep _,_,_,h=>⟨rfl,h.2⟩
 | .b9,_,_,h=>⟨rfl,h.2⟩
theorem Bd:∀ (vs:List V) {cs F},RL w Pb vs cs F->RL w Pb (V.jM vs) cs []
 | [],_,_,h=>⟨h.1,rfl⟩
 | v::vs,_,_,h=>by
   obtain⟨c1,c2,F1,F2,rfl,rfl,h1,h2⟩:=h;exact⟨c1,c2,[],[],rfl,rfl,FE v h1,Bd vs h2⟩
end
def jL(F F1 F2:List Nat):Prop:=(∀ y,y∈F1->y∈F)/\(∀ y,y∈F2->y∈F)/\(F.Nodup->F1.Nodup/\F2.Nodup/\∀ y,y∈F1->y ∉ F2)
theorem jL.YW{X F Y F1 F2:List Nat}(h:jL F F1 F2):jL (X++F++Y) (X++F1++Y) F2:=by
 obtain⟨h1,h2,h3⟩:=h;refine⟨fun y hy=>?_,fun y hy=>by simp[h2 y hy],fun hnd=>?_⟩;simp only[Zax]at hy ⊢;rcases hy with (hy | hy) | hy;exact .inl (.inl hy);exact .inl (.inr (h1 y hy));exact .inr hy;simp only[List.nodup_append,Zax]at hnd ⊢;obtain⟨⟨n1,n2,n3⟩,n4,n5⟩:=hnd;obtain⟨k1,k2,k3⟩:=h3 n2;refine⟨⟨⟨n1,k1,fun p hp q hq=>n3 p hp q (h1 q hq)⟩,n4,fun p hp q hq=>?_⟩,k2,fun y hy Xv=>?_⟩;rcases hp with hp | hp;exact n5 p (.inl hp) q hq;exact n5 p (.inr (h1 p hp)) q hq;rcases hy with (hy | hy) | hy;exact n3 y hy y (h2 y Xv) rfl;exact k3 y hy Xv;exact n5 y (.inr (h2 y Xv)) y hy rfl
theorem mg:∀ (vs:List V) {cs F} {j:Nat} {u u':V},RL w Pb vs cs F->vs[j]? =some u->∃ c Fa Fj Fb,F=Fa++Fj++Fb/\R w Pb u c Fj/\(∀ i x,c[i]? =some x->cs[V.ns (vs.take j)+i]? =some x)/\
 ∀ Xg,R w Pb u' c Xg->RL w Pb (vs.set j u') cs (Fa++Xg++Fb)
 | [],_,_,_,_,_,_,h=>by simp at h
 | v::vs,cs,F,0,u,u',h,hj=>by
   obtain⟨c1,c2,F1,F2,rfl,rfl,h1,h2⟩:=h;simp at hj;subst hj;refine⟨c1,[],F1,F2,Zad,h1,fun i x hx=>?_,fun Xg hr=>⟨c1,c2,Xg,F2,rfl,Zad,hr,h2⟩⟩;simp only[List.take_zero,V.ns,Zaw];rw[Za9 (Za3.1 hx).1];exact hx
 | v::vs,cs,F,j+1,u,u',h,hj=>by
   obtain⟨c1,c2,F1,F2,rfl,rfl,h1,h2⟩:=h;obtain⟨c,Fa,Fj,Fb,rfl,k1,k2,k3⟩:=mg vs (u':=u') h2 Zbp;refine⟨c,F1++Fa,Fj,Fb,Zad,k1,fun i x hx=>?_,fun Xg hr=>⟨c1,c2,F1,Fa++Xg++Fb,rfl,Zad,h1,k3 Xg hr⟩⟩;have hl:=eI _ h1;simp only[List.take_succ_cons,V.ns];rw[Za4 Zac];rw[show v.n+V.ns (vs.take j)+i-c1.length=V.ns (vs.take j)+i by omega];exact k2 i x hx
theorem jL.refl(F:List Nat):jL F [] F:=⟨Zad,fun _ h=>h,fun h=>⟨Zba,h,Zad⟩⟩
theorem rP:∀ (p:List Nat) {v u:V} {g o g' o':Nat} {cs:List Value} {F:List Nat} {cells:Array Value},R w Pb v cs F->Blk w g cells->(∀ j x,cs[j]? =some x->cells[o+j]? =some x)->V.at g o v p=some (g',o',u)->
 ∃ F1 Fu,R w Pb (v.set p u.kill) cs F1/\At w Pb u g' o' Fu/\jL F F1 Fu
 | [],v,u,g,o,g',o',cs,F,cells,h,hb,hc,e=>by
   simp only[V.at,Zan,Zaq]at e;obtain⟨rfl,rfl,rfl⟩:=e;exact⟨[],F,by simpa only[V.set] using FE v h,⟨cs,cells,hb,h,hc⟩,jL.refl F⟩
 | j::p,v,u,g,o,g',o',cs,F,cells,h,hb,hc,e=>by
   cases v with
   | agg vs=>
     simp only[V.at]at e;split at e
     case h_2=>simp at e
     rename_i x hx;simp only[R]at h;obtain⟨c,Fa,Fj,Fb,rfl,k1,k2,k3⟩:=mg vs (u':=x.set p u.kill) h hx;obtain⟨F1,Fu,m1,m2,m3⟩:=rP p k1 hb (o:=o+V.ns (vs.take j)) (fun i y hy=>by rw[Zbj];exact hc _ _ (k2 i y hy)) e;exact⟨Fa++F1++Fb,Fu,by simp only[V.set,hx,R];exact k3 F1 m1,m2,m3.YW⟩
   | own sz xs g0 o0 c0=>
     simp only[V.at]at e;split at e
     case h_2=>simp at e
     rename_i x hx;rcases h with ⟨_,rfl,_⟩ | ⟨h1,h2,h3,h4,hN,h5,flat,F',Rm,rfl,hr,Uc,hsz,u0⟩;simp at hx;obtain⟨c,Fa,Fj,Fb,rfl,k1,k2,k3⟩:=mg xs (u':=x.set p u.kill) hr hx;have hj:j<xs.length:=(Za3.1 hx).1;rw[eg xs j hN Zac]at k2;obtain⟨F1,Fu,m1,m2,m3⟩:=rP p k1 Uc (o:=o0+j*sz) (fun i y hy=>by rw[Zbj];exact u0 _ _ (k2 i y hy)) e;have hn:(x.set p u.kill).n=x.n:=mJ p e (zL u);refine⟨g0::(Fa++F1++Fb),Fu,?_,m2,?_⟩;simp only[V.set,hx];refine .inr ⟨h1,h2,by simpa using h3,by simpa using h4,fun y hy=>?_,h5,flat,_,Rm,rfl,k3 F1 m1,Uc,hsz,u0⟩;rcases List.mem_or_eq_of_mem_set hy with hy | rfl;exact hN y hy;rw[hn];exact hN x (Za7 hx);have:=jL.YW (X:=g0::Fa) (Y:=Fb) m3;simpa using this
   | _=>simp[V.at]at e
theorem Ft{j:Nat}{p:List Nat}{u:V}{g o g' o' sz g0 o0 c0:Nat}{xs:List V}{cs:List Value}{F:List Nat}(h:R w Pb (.own sz xs g0 o0 c0) cs F)(e:V.at g o (.own sz xs g0 o0 c0) (j::p)=some (g',o',u)):
 ∃ F1 Fu,R w Pb ((V.own sz xs g0 o0 c0).set (j::p) u.kill) cs F1/\At w Pb u g' o' Fu/\jL F F1 Fu:=by
 simp only[V.at]at e;split at e
 case h_2=>simp at e
 rename_i x hx;rcases h with ⟨_,rfl,_⟩ | ⟨h1,h2,h3,h4,hN,h5,flat,F',Rm,rfl,hr,Uc,hsz,u0⟩;simp at hx;obtain⟨c,Fa,Fj,Fb,rfl,k1,k2,k3⟩:=mg xs (u':=x.set p u.kill) hr hx;have hj:j<xs.length:=(Za3.1 hx).1;rw[eg xs j hN Zac]at k2;obtain⟨F1,Fu,m1,m2,m3⟩:=rP p k1 Uc (o:=o0+j*sz) (fun i y hy=>by rw[Zbj];exact u0 _ _ (k2 i y hy)) e;have hn:(x.set p u.kill).n=x.n:=mJ p e (zL u);refine⟨g0::(Fa++F1++Fb),Fu,?_,m2,?_⟩;simp only[V.set,hx];refine .inr ⟨h1,h2,by simpa using h3,by simpa using h4,fun y hy=>?_,h5,flat,_,Rm,rfl,k3 F1 m1,Uc,hsz,u0⟩;rcases List.mem_or_eq_of_mem_set hy with hy | rfl;exact hN y hy;rw[hn];exact hN x (Za7 hx);have:=jL.YW (X:=g0::Fa) (Y:=Fb) m3;simpa using this
theorem u7.split(hs:u7 N Pb Kb A a w F){r:l9}{p:List Nat}{g o:Nat}{u:V}(A7:A.at r p=some (g,o,u)):
 ∃ Fr Fu,u7 N Pb Kb (A.setAt r p u.kill) a w (cf F r Fr)/\At w Pb u g o Fu/\Fu.Nodup/\(∀ r' y,y∈Fu->y ∉ cf F r Fr r')/\(∀ y,y∈Fu->¬ Kb y/\y<w.heap.size):=by
 have main:∃ Fr Fu,At w Pb u g o Fu/\jL (F r) Fr Fu/\(match r with
      | .key k=> ∀ g0 t,lk k A.h=some (g0,t)->∃ F',Fr=g0::F'/\At w Pb (t.set p u.kill) g0 0 F'
      | .slot i=>RV w Pb ((A.get i).set p u.kill) (a.tmps.getD i undef) Fr):=by
  cases r with
  | key k=>
    simp only[AS.at]at A7;split at A7;rename_i g0 t hk;obtain⟨F0,hF,cs,cells,hb,hr,hc⟩:=hs.root k g0 t hk;obtain⟨F1,Fu,m1,m2,m3⟩:=rP p hr hb hc A7;refine⟨g0::F1,Fu,m2,?_,fun g1 t1 SL=>?_⟩;rw[hF];have:=jL.YW (X:=[g0]) (Y:=[]) m3;simpa using this;rw[hk]at SL;simp only[Zan,Zaq]at SL;obtain⟨rfl,rfl⟩:=SL;exact⟨F1,rfl,cs,cells,hb,m1,hc⟩;simp at A7
  | slot i=>
    simp only[AS.at]at A7;split at A7;rename_i sz xs g0 o0 c0 j p' hg _;have hr:=hs.slot i;rw[hg]at hr;obtain⟨F1,Fu,m1,m2,m3⟩:=Ft (w:=w) (Pb:=Pb) hr A7;refine⟨F1,Fu,m2,m3,?_⟩;simp only[hg];have e:∃ ys,(V.own sz xs g0 o0 c0).set (j::p') u.kill=.own sz ys g0 o0 c0:=by
     simp only[V.set];split;exact⟨_,rfl⟩;exact⟨_,rfl⟩
    obtain⟨ys,e⟩:=e;rw[e]at m1 ⊢;exact m1;simp at A7
 obtain⟨Fr,Fu,hA,hP,hm⟩:=main;obtain⟨p1,p2,p3⟩:=hP;obtain⟨n1,n2,n3⟩:=p3 (hs.nodup r);refine⟨Fr,Fu,⟨hs.size,hs.defers,fun i=>?_,fun k g0 t hk=>?_,fun r1 r2 hne y hy=>?_,fun r1=>?_,fun r1 y hy=>?_,hs.sub,hs.bound⟩,hA,n2,fun r' y hy=>?_,fun y hy=>hs.free r y (p2 y hy)⟩;by_cases UB:r=.slot i;subst UB;simp only[cf,if_true,AS.setAt,AS.get,lk,Option.getD_some];exact hm;simp only[cf,if_neg (Ne.symm UB)];have:(A.setAt r p u.kill).get i=A.get i:=by
  cases r with
  | key k=>simp only[AS.setAt];split <;> rfl
  | slot j=>simp only[AS.setAt,AS.get,lk];rw[if_neg (fun c=>UB (by rw[c]))]
 rw[this];exact hs.slot i;by_cases UU:r=.key k;subst UU;simp only[cf,if_true];cases S3:lk k A.h with
 | none=>
   simp only[AS.setAt,S3]at hk;cases hk
 | some gt=>
   obtain⟨g1,t1⟩:=gt;simp only[AS.setAt,S3,lk,if_true,Zan,Zaq]at hk;obtain⟨rfl,rfl⟩:=hk;exact hm g1 t1 S3
 simp only[cf,if_neg (Ne.symm UU)];refine hs.root k g0 t ?_;rw[<- hk];cases r with
 | key k'=>
   have hne:k≠k':=fun c=>UU (by rw[c]);simp only[AS.setAt];split;simp only[lk];rw[if_neg hne];rfl
 | slot j=>rfl
 simp only[cf]at hy ⊢;by_cases e1:r1=r;subst e1;rw[if_pos rfl]at hy;rw[if_neg (Ne.symm hne)];exact hs.ck r1 r2 hne y (p1 y hy);rw[if_neg e1]at hy;by_cases e2:r2=r;subst e2;rw[if_pos rfl];exact fun c=>hs.ck r1 r2 hne y hy (p1 y c);rw[if_neg e2];exact hs.ck r1 r2 hne y hy;simp only[cf];split;exact n1;exact hs.nodup r1;simp only[cf]at hy;split at hy;exact hs.free r y (p1 y hy);exact hs.free r1 y hy;simp only[cf];split;exact fun c=>n3 y c hy;rename_i hne;exact fun c=>hs.ck r r' (Ne.symm hne) y (p2 y hy) c
end
mutual
def wk:V->V->V
 | .own sz xs g o c,u=>match u with | .ow _ _=>.ow sz xs | _=>.own sz xs g o c
 | .sl f xs,u=>match u with | .sl false _=>.sl false xs | .b9=>.b9 | _=>.sl f xs
 | .ptr r p g o,u=>match u with | .ptr r' p' _ _=>.ptr r' p' g o | .b9=>.b9 | _=>.ptr r p g o
 | .lit x,u=>match u with
   | .ptr r' p' _ _=>match x with
     | .pointer (some ⟨g,o,none⟩)=>.ptr r' p' g o
     | _=>.lit x
   | .b9=>if x.oneCell' then .b9 else .lit x
   | _=>.lit x
 | .hd r p sz g o lo n c,u=>match u with | .hd r' p' _ _ _ _ _ _=>.hd r' p' sz g o lo n c | .b9=>.b9 | _=>.hd r p sz g o lo n c
 | .mp es,u=>match u with | .b9=>.b9 | _=>.mp es
 | .agg vs,u=>match u with | .agg us=>.agg (PW vs us) | _=>.agg vs
 | .tup vs,u=>match u with | .tup us=>.tup (PW vs us) | _=>.tup vs
 | v,_=>v
def PW:List V->List V->List V
 | v::vs,u::us=>wk v u::PW vs us
 | vs,_=>vs
end
section
variable {w w':World} {Pb Kb Pb':Nat->Prop} {N:Nat} {A A' B:AS} {a:Act} {F:l9->List Nat} {P:Program} {ops:Array Oper}
mutual
theorem pF:∀ (v u:V) {cs F},R w Pb v cs F->R w Pb (wk v u) cs F
 | .own sz xs g o c,u,cs,F,h=>by
   simp only[wk];split;exact Gl.2 ⟨_,_,_,h⟩;exact h
 | .sl f xs,u,cs,F,h=>by
   simp only[wk];split;obtain⟨hF,B,c,hc,hl,_,hx⟩:=h;exact⟨hF,B,c,hc,hl,(fun h=>by cases h),hx⟩;obtain⟨hF,B,c,rfl,_⟩:=h;exact⟨hF,_,rfl,rfl⟩;exact h
 | .ptr r p g o,u,cs,F,h=>by
   simp only[wk];split;exact h;obtain⟨hF,rfl⟩:=h;exact⟨hF,_,rfl,rfl⟩;exact h
 | .lit x,u,cs,F,h=>by
   simp only[wk];split;split;obtain⟨_,rfl,hF⟩:=h;exact⟨hF,rfl⟩;exact h;split;rename_i hx;obtain⟨_,rfl,hF⟩:=h;exact⟨hF,x,rfl,hx⟩;exact h;exact h
 | .hd r p sz g o lo n c,u,cs,F,h=>by
   simp only[wk];split;exact h;obtain⟨hF,_,B,rfl,_⟩:=h;exact⟨hF,_,rfl,rfl⟩;exact h
 | .mp es,u,cs,F,h=>by
   simp only[wk];split;obtain⟨hF,g,rfl,_⟩:=h;exact⟨hF,_,rfl,rfl⟩;exact h
 | .agg vs,u,cs,F,h=>by
   simp only[wk];split;rename_i us;simp only[R]at h ⊢;exact Df vs us h;exact h
 | .tup vs,_,_,_,h=>by simp[R]at h
 | .gv _ _,_,_,_,h=>by simp[R]at h
 | .ow ..,u,_,_,h=>by simpa[wk] using h
 | .om ..,u,_,_,h=>by simpa[wk] using h
 | .ep _,u,_,_,h=>by simpa[wk] using h
 | .b9,u,_,_,h=>by simpa[wk] using h
theorem Df:∀ (vs us:List V) {cs F},RL w Pb vs cs F->RL w Pb (PW vs us) cs F
 | [],us,_,_,h=>by simpa[PW] using h
 | v::vs,[],_,_,h=>by simpa[PW] using h
 | v::vs,u::us,cs,F,h=>by
   obtain⟨c1,c2,F1,F2,rfl,rfl,h1,h2⟩:=h;exact⟨c1,c2,F1,F2,rfl,rfl,pF v u h1,Df vs us h2⟩
end
theorem Ey{v:V}(u:V){x:Value}{F1:List Nat}(h:Ro w Pb v x F1):Ro w Pb (wk v u) x F1:=by
 cases v with
 | agg us=>
   obtain⟨cs,rfl,h⟩:=h;simp only[wk];split;exact⟨cs,rfl,Df _ _ h⟩;exact⟨cs,rfl,h⟩
 | b9=>simpa[wk] using h
 | tup vs=>simp[Ro,R]at h
 | gv b u=>simp[Ro,R]at h
 | ow sz xs=>simpa[wk] using h
 | om es g=>simpa[wk] using h
 | ep v=>simpa[wk] using h
 | own sz xs g o c=>
   have:=pF (w:=w) (Pb:=Pb) (.own sz xs g o c) u h;simp only[wk]at this ⊢;split at this <;> simpa[Ro] using this
 | lit y=>
   have h:R w Pb (.lit y) [x] F1:=h;have hh:=h;obtain⟨ho,e,hF⟩:=hh;simp only[List.cons.injEq,and_true]at e;subst e hF;cases u with
   | ptr r' p' g' o'=>
     have:=pF (w:=w) (Pb:=Pb) (.lit x) (.ptr r' p' g' o') h;simp only[wk]at this ⊢;split at this;exact this;exact this
   | b9=>simp only[wk,ho,if_true];rfl
   | _=>exact h
 | sl f xs=>
   have:=pF (w:=w) (Pb:=Pb) (.sl f xs) u h;simp only[wk]at this ⊢;split at this;all_goals first | simpa[Ro] using this | (simp only[Ro];exact this.1)
 | ptr r p g o=>
   have:=pF (w:=w) (Pb:=Pb) (.ptr r p g o) u h;simp only[wk]at this ⊢;split at this;all_goals first | simpa[Ro] using this | (simp only[Ro];exact this.1)
 | hd r p sz g o lo n c=>
   have:=pF (w:=w) (Pb:=Pb) (.hd r p sz g o lo n c) u h;simp only[wk]at this ⊢;split at this;all_goals first | simpa[Ro] using this | (simp only[Ro];exact this.1)
 | mp es=>
   have:=pF (w:=w) (Pb:=Pb) (.mp es) u h;simp only[wk]at this ⊢;split at this;all_goals first | simpa[Ro] using this | (simp only[Ro];exact this.1)
theorem va:∀ (vs:List V) {xs:List Value} {F1:List Nat},RVs w Pb vs xs F1↔match vs with | []=>xs=[]/\F1=[] | v::vs=> ∃ x xs' Fa Fb,xs=x::xs'/\F1=Fa++Fb/\Ro w Pb v x Fa/\RVs w Pb vs xs' Fb
 | [],_,_=>Iff.rfl
 | v::vs,_,_=>Iff.rfl
theorem oW:∀ (vs us:List V) {xs F1},RVs w Pb vs xs F1->RVs w Pb (PW vs us) xs F1
 | [],us,_,_,h=>by simpa[PW] using h
 | v::vs,[],_,_,h=>by simpa[PW] using h
 | v::vs,u::us,xs,F1,h=>by
   obtain⟨x,xs',Fa,Fb,rfl,rfl,h1,h2⟩:=(va (v::vs)).1 h;exact(va (wk v u::PW vs us)).2 ⟨x,xs',Fa,Fb,rfl,rfl,Ey u h1,oW vs us h2⟩
theorem yr{v:V}(u:V){x:Value}{F1:List Nat}(h:RV w Pb v x F1):RV w Pb (wk v u) x F1:=by
 by_cases ht:∃ vs,v=.tup vs;obtain⟨vs,rfl⟩:=ht;obtain⟨xs,rfl,h⟩:=h;simp only[wk];split;exact⟨xs,rfl,oW _ _ h⟩;exact⟨xs,rfl,h⟩;by_cases hg:∃ b u',v=.gv b u';obtain⟨b,u',rfl⟩:=hg;simpa[wk] using h;have h1:=EZ h ⟨fun us e=>ht ⟨us,e⟩,fun b u e=>hg ⟨b,u,e⟩⟩;have h2:=Ey u h1;have back:∀ z:V,(∀ us,z≠.tup us)->(∀ b u,z≠.gv b u)->Ro w Pb z x F1->RV w Pb z x F1:=by
  intro z z1 z2 hz;cases z with
  | tup us=>exact absurd rfl (z1 us)
  | gv b u=>exact absurd rfl (z2 b u)
  | _=>exact hz
 refine back _ (fun us e=>?_) (fun b u e=>?_) h2
 · cases v <;> simp only[wk]at e <;> (repeat' split at e) <;> simp_all
 · cases v <;> simp only[wk]at e <;> (repeat' split at e) <;> simp_all
theorem Dv{v:V}(u:V){g o:Nat}{F1:List Nat}(h:At w Pb v g o F1):At w Pb (wk v u) g o F1:=by
 obtain⟨cs,cells,hb,hr,hc⟩:=h;exact⟨cs,cells,hb,pF v u hr,hc⟩
def Tx(A:AS):List (Nat×V)->Prop
 | []=>True
 | (k,v)::r=>wk (A.get k) v=v/\Tx A r
def S0(A:AS):List (Nat×(Nat×V))->Prop
 | []=>True
 | (k,(g,v))::r=>(match lk k A.h with | some (g',v')=>(g',wk v' v)=(g,v) | none=>False)/\S0 A r
theorem Eo:∀ (l:List (Nat×V)) {i:Nat} {v:V},Tx A l->lk i l=some v->wk (A.get i) v=v
 | [],_,_,_,h=>by simp[lk]at h
 | (k,u)::r,i,v,h,e=>by
   simp only[lk]at e;split at e;rename_i e';subst e';cases e;exact h.1;exact Eo r h.2 e
theorem zp:∀ (l:List (Nat×(Nat×V))) {i g:Nat} {v:V},S0 A l->lk i l=some (g,v)->∃ v',lk i A.h=some (g,v')/\wk v' v=v
 | [],_,_,_,_,h=>by simp[lk]at h
 | (k,(g0,u))::r,i,g,v,h,e=>by
   simp only[lk]at e;split at e;rename_i e';subst e';cases e;have h1:=h.1;split at h1;rename_i g' v' hk;simp only[Zaq]at h1;exact⟨v',by rw[hk,h1.1],h1.2⟩;exact h1.elim;exact zp r h.2 e
open Classical in
theorem u7.leW(hs:u7 N Pb Kb A a w F)(h:Tx A B.t)(k:S0 A B.h):∃ F',u7 N Pb Kb B a w F':=by
 refine⟨fun r=>match r with | .slot i=>if lk i B.t=none then [] else F (.slot i) | .key k=>if lk k B.h=none then [] else F (.key k),?_⟩;have key:∀ r g,g∈(match r with | .slot i=>if lk i B.t=none then [] else F (.slot i) | .key k=>if lk k B.h=none then [] else F (.key k):List Nat)->g∈F r:=by
  intro r g hg;cases r <;> simp only at hg <;> split at hg <;> simp_all
 refine⟨hs.size,hs.defers,fun i=>?_,fun k0 g v hk=>?_,fun r r' hne g hg=>?_,fun r=>?_,fun r g hg=>hs.free r g (key r g hg),hs.sub,hs.bound⟩;simp only;cases e:lk i B.t with
 | none=>simp only[if_true,AS.get,e];rfl
 | some v=>
   rw[if_neg Zad];have:=yr v (hs.slot i);rw[Eo _ h e]at this;simpa[AS.get,e] using this
 simp only;rw[if_neg (by rw[hk];simp)];obtain⟨v',e1,e2⟩:=zp _ k hk;obtain⟨F',hF,hA⟩:=hs.root k0 g v' e1;exact⟨F',hF,by have:=Dv v hA;rw[e2]at this;exact this⟩;exact fun RU=>hs.ck r r' hne g (key r g hg) (key r' g RU);cases r <;> simp only <;> split <;> first | exact Zba | exact hs.nodup _
def Hx(N:Nat)(A:AS)(K:AS->Prop):Prop:=
 ∀ Pb Kb a w F,u7 N Pb Kb A a w F->∃ B Pb' E7 F',K B/\u7 N Pb' E7 B a w F'/\(∀ g,Pb g->Pb' g)/\(∀ g,Kb g->E7 g)/\(∀ g,Pb' g->Pb g\/¬ Kb g)
theorem Hx.of{K:AS->Prop}(h:K A):Hx N A K:=fun Pb Kb _ _ F hs=>⟨A,Pb,Kb,F,h,hs,fun _ h=>h,fun _ h=>h,fun _ h=>.inl h⟩
theorem Hx.mono{K K':AS->Prop}(h:Hx N A K)(hK:∀ B,K B->K' B):Hx N A K':=fun Pb Kb a w F hs=>by
 obtain⟨B,Pb',E7,F',h1,h2⟩:=h Pb Kb a w F hs;exact⟨B,Pb',E7,F',hK B h1,h2⟩
theorem Hx.bind{K K':AS->Prop}(h:Hx N A K)(hK:∀ B,K B->Hx N B K'):Hx N A K':=fun Pb Kb a w F hs=>by
 obtain⟨B,Pb',E7,F',h1,h2,h3,h4,h5⟩:=h Pb Kb a w F hs;obtain⟨C,Qx,QG,F2,k1,k2,k3,k4,k5⟩:=hK B h1 Pb' E7 a w F' h2;exact⟨C,Qx,QG,F2,k1,k2,fun g hg=>k3 g (h3 g hg),fun g hg=>k4 g (h4 g hg),fun g hg=>by
  rcases k5 g hg with h | h;exact h5 g h;exact .inr fun c=>h (h4 g c)⟩
theorem Hx.simple{K:AS->Prop}(hK:K B)(h:∀ Pb Kb a w F,u7 N Pb Kb A a w F->∃ F',u7 N Pb Kb B a w F'):Hx N A K:=fun Pb Kb a w F hs=>by
 obtain⟨F',A8⟩:=h Pb Kb a w F hs;exact⟨B,Pb,Kb,F',hK,A8,fun _ h=>h,fun _ h=>h,fun _ h=>.inl h⟩
theorem Nx.hint{K:AS->Prop}{a':Act}(h:Nx N Pb Kb w (fun B=>Hx N B K) a' w'):Nx N Pb Kb w K a' w':=by
 obtain⟨A',Pb',E7,F',h1,h2,h3,h4,h5,h6⟩:=h;obtain⟨B,Qx,QG,F2,k1,k2,k3,k4,k5⟩:=h1 Pb' E7 a' w' F' h2;exact⟨B,Qx,QG,F2,k1,k2,fun g hg=>k3 g (h3 g hg),fun g hg=>k4 g (h4 g hg),fun g hg=>by
  rcases k5 g hg with h | h;exact h5 g h;exact .inr fun c=>h (h4 g c),h6⟩
theorem oL{c:Code}{Q:Exit->AS->Prop}(h:Hx N A fun B=>T P N c B Q):T P N c A Q:=by
 intro Pb Kb a w F hs;obtain⟨B,Pb',E7,F',h1,h2,h3,h4,h5⟩:=h Pb Kb a w F hs;exact wp_mono (h1 Pb' E7 a w F' h2) fun e a' w' hn=>Nx.step h3 h4 h5 (A3.refl _ _) hn
theorem mr{c:Code}{Q:Exit->AS->Prop}(h:T P N c A fun e B=>Hx N B (Q e)):T P N c A Q:=
 fun Pb Kb a w F hs=>wp_mono (h Pb Kb a w F hs) fun _ _ _ hn=>hn.hint
theorem sD{o:Oper}{l:List Oper}{K:AS->Prop}(hg:o.guard=none)(h:Hx N A fun B=>WL P N ops (o::l) B K):WL P N ops (o::l) A K:=by
 simp only[WL,gd,hg]at h ⊢;intro Pb Kb a w F Q hs;obtain⟨B,Pb',E7,F',h1,h2,h3,h4,h5⟩:=h Pb Kb a w F hs;refine Oper.wp_mono (fun a' w' hn=>?_) (h1 Pb' E7 a w F' Q h2);exact Nx.step h3 h4 h5 (A3.refl _ _) hn
theorem Nc{c:Code}{Q:Exit->AS->Prop}(h:Tx A B.t)(k:S0 A B.h)(hT:T P N c B Q):T P N c A Q:=
 oL (Hx.simple hT fun _ _ _ _ _ hs=>hs.leW h k)
end
section
variable {w w':World} {Pb Kb Pb':Nat->Prop} {N:Nat} {A A' B:AS} {a:Act} {F:l9->List Nat} {P:Program} {ops:Array Oper}
structure Zo (w:World) (Pb Kb:Nat->Prop) (args:List V) (cargs:List Value) (H:List (Nat×(Nat×V))) (F:l9->List Nat):Prop where
 len:cargs.length=args.length
 slot:∀ i v x,args[i]? =some v->cargs[i]? =some x->RV w Pb v x (F (.slot i))
 root:∀ k g v,lk k H=some (g,v)->∃ F',F (.key k)=g::F'/\At w Pb v g 0 F'
 rest:∀ i,args.length<=i->F (.slot i)=[]
 ck:∀ r r',r≠r'->∀ g,g∈F r->g ∉ F r'
 nodup:∀ r,(F r).Nodup
 free:∀ r g,g∈F r->¬ Kb g/\g<w.heap.size
 sub:∀ g,Pb g->Kb g
 bound:∀ g,Kb g->g<w.heap.size
structure Fin (w w':World) (Pb Kb:Nat->Prop) (r:V) (x:Value) (H:List (Nat×(Nat×V))) (Pb' E7:Nat->Prop) (F:l9->List Nat):Prop where
 val:RV w' Pb' r x (F (.slot 0))
 root:∀ k g v,lk k H=some (g,v)->∃ F',F (.key k)=g::F'/\At w' Pb' v g 0 F'
 ck:∀ r r',r≠r'->∀ g,g∈F r->g ∉ F r'
 nodup:∀ r,(F r).Nodup
 free:∀ r g,g∈F r->¬ E7 g/\g<w'.heap.size
 sub:∀ g,Pb' g->E7 g
 bound:∀ g,E7 g->g<w'.heap.size
 mP:∀ g,Pb g->Pb' g
 mK:∀ g,Kb g->E7 g
 Tv:∀ g,Pb' g->Pb g\/¬ Kb g
 fb:A3 Kb w w'
def PF(P:Program)(f:FuncId)(args:List V)(H:List (Nat×(Nat×V)))(Q:V->List (Nat×(Nat×V))->Prop):Prop:=
 nr P f/\∀ (w:World) (Pb Kb:Nat->Prop) (cargs:List Value) (F:l9->List Nat),Zo w Pb Kb args cargs H F->
  Calls P f cargs.toArray w fun e w'=> ∃ r x H' Pb' E7 F',e=.returned x/\Q r H'/\Fin w w' Pb Kb r x H' Pb' E7 F'
theorem PF.mono{f:FuncId}{args:List V}{H:List (Nat×(Nat×V))}{Q Q':V->List (Nat×(Nat×V))->Prop}(h:PF P f args H Q)(hQ:∀ r H,Q r H->Q' r H):PF P f args H Q':=
 ⟨h.1,fun w Pb Kb cargs F hi=>(h.2 w Pb Kb cargs F hi).mono fun _ _ ⟨r,x,H',Pb',E7,F',e,q,rest⟩=>⟨r,x,H',Pb',E7,F',e,hQ r H' q,rest⟩⟩
def HA(P:Program)(rs:List ResultVar)(Q:V->List (Nat×(Nat×V))->Prop):Exit->AS->Prop:=fun e A=>
 (e=.normal\/e=.ret)/\∃ xs H,qf A rs=some xs/\pA P rs xs/\(xs.map (·.1)).Nodup/\S0 A H/\(∀ k,lk k H≠none->l9.key k ∉ xs.map (·.1))/\Q (one (xs.map (·.2))) H
open Classical in
theorem CC{f:FuncId} {fn:Func} {c:Code} {args:List V} {H:List (Nat×(Nat×V))} {Q:V->List (Nat×(Nat×V))->Prop} (hf:P.funcs[f]? =some fn) (hb:fn.body=some c) (he:nr P f) (hN:args.length<=fn.ntmps)
 (h:T P fn.ntmps c ⟨enum 0 args,H⟩ (HA P fn.results.toList Q)):PF P f args H Q:=by
 refine⟨he,fun w Pb Kb cargs F hi=>?_⟩;have hlen:=hi.len;refine calls_of_wp hf hb ?_;have hs:u7 fn.ntmps Pb Kb ⟨enum 0 args,H⟩ { tmps:=cargs.toArray++Array.replicate (fn.ntmps-cargs.toArray.size) undef,defers:=[] } w F:=by
  refine⟨Zal,rfl,fun i=>?_,hi.root,hi.ck,hi.nodup,hi.free,hi.sub,hi.bound⟩;simp only[AS.get,Bc,Nat.zero_le,if_true,Nat.sub_zero];cases XC:args[i]? with
  | none=>
    have:args.length<=i:=by simpa using XC
    rw[hi.rest i this];rfl
  | some v=>
    have hlt:i<args.length:=(Za3.1 XC).1;have hx:cargs[i]? =some (cargs[i]'Zac):=Zat Zac;have hr:=hi.slot i v _ XC hx;have e:(cargs.toArray++Array.replicate (fn.ntmps-cargs.toArray.size) undef).getD i undef=cargs[i]'Zac:=by
     rw[Array.getD_eq_getD_getElem?,Array.getElem?_append_left Zal];simp[hx]
    simp only[Option.getD_some];rw[e];exact hr
 refine wp_mono (h _ _ _ _ _ hs) ?_;rintro e a' w' ⟨A',Pb',E7,F',⟨he',xs,H',Ta,PD,hnd,hH,WW,hQ⟩,A8,k1,k2,k3,k4⟩;obtain⟨x,Fr,B5,hr,Qg,hin⟩:=AQ A8 Ta PD hnd;have T5:a'.defers=[]/\∃ v,(results fn a'.tmps).run P w'=.ok v w'/\(∃ r x H' Pb' E7 F',Ending.returned v=.returned x/\Q r H'/\Fin w w' Pb Kb r x H' Pb' E7 F'):=by
  refine⟨A8.defers,x,B5,_,x,H',Pb',E7,(fun r=>match r with | .slot i=>if i=0 then Fr else [] | .key k=>if lk k H'=none then [] else F' (.key k)),rfl,hQ,?_⟩;have hk:∀ k g,lk k H'≠none->g∈Fr->g ∉ F' (.key k):=fun k g hk hg c=>by
   obtain⟨r,Sn,O8⟩:=hin g hg;have hne:r≠.key k:=fun c=>WW k hk (by rw[<- c];exact Sn);exact A8.ck r _ hne g O8 c
  refine⟨by simpa using hr,fun k g v Yz=>?_,fun r r' hne g hg=>?_,fun r=>?_,fun r g hg=>?_,A8.sub,A8.bound,k1,k2,k3,k4⟩;obtain⟨v',e1,e2⟩:=zp _ hH Yz;obtain⟨F1,hF,hA⟩:=A8.root k g v' e1;refine⟨F1,?_,by have:=Dv v hA;rw[e2]at this;exact this⟩;simp only;rw[if_neg (by rw[Yz];simp)];exact hF;cases r with
  | slot i=>
    simp only at hg;split at hg;rename_i hi0;cases r' with
    | slot j=>simp only;rw[if_neg (fun c=>hne (by rw[hi0,c]))];simp
    | key k=>simp only;split;simp;rename_i WV;exact hk k g WV hg
    simp at hg
  | key k=>
    simp only at hg;split at hg;simp at hg;rename_i WV;cases r' with
    | slot j=>simp only;split;exact fun c=>hk k g WV c hg;simp
    | key k'=>simp only;split;simp;exact A8.ck _ _ hne g hg
  cases r <;> simp only <;> split <;> first | exact Qg | exact Zba | exact A8.nodup _
  cases r with
  | slot i=>
    simp only at hg;split at hg;obtain⟨r,_,h⟩:=hin g hg;exact A8.free r g h;simp at hg
  | key k=>
    simp only at hg;split at hg;simp at hg;exact A8.free _ g hg
 rcases he' with rfl | rfl;exact T5;exact T5
theorem PF.DB{f:FuncId}{args:List V}{Q:V->List (Nat×(Nat×V))->Prop}(h:PF P f args [] Q):PC P f args (fun r=> ∃ H,Q r H):=by
 refine⟨h.1,fun w Pb cargs hP hargs=>?_⟩;have hi:Zo w Pb (fun g=>g<w.heap.size) args cargs [] (fun _=>[]):=by
  refine⟨wS _ hargs,fun i v x hv hx=>?_,fun k g v hk=>by simp[lk]at hk,fun _ _=>rfl,fun _ _ _ _ hg=>by simp at hg,fun _=>Zba,fun _ _ hg=>by simp at hg,hP,fun _ h=>h⟩;obtain⟨y,hy,hr⟩:=FJ args hargs hv;rw[hx]at hy;cases hy;exact hr
 refine(h.2 w Pb _ cargs _ hi).mono ?_;rintro e w' ⟨r,x,H',Pb',E7,F',rfl,hq,hf⟩;refine⟨r,x,F' (.slot 0),Pb',rfl,⟨H',hq⟩,hf.val,hf.nodup _,fun g hg=>?_,hf.mP,fun g hg=>?_,⟨hf.fb.os,hf.fb.tape,hf.fb.output,hf.fb.size,fun k hk=>hf.fb.block k hk⟩⟩;have:=hf.free _ g hg;refine⟨Nat.le_of_not_lt fun c=>this.1 (hf.mK g c),this.2,fun c=>this.1 (hf.sub g c)⟩;rcases hf.Tv g hg with h | h;exact .inl h;exact .inr ⟨Nat.le_of_not_lt h,hf.bound g (hf.sub g hg)⟩
end
end Go.Proofs.YtngholilfbdfkabGreatDoor