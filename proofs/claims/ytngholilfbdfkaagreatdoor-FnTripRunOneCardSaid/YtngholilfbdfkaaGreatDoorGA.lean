/-
  Words and walks for the laws of pedlar's seat: what each function of the program computes, and that it does; no conditions beyond those that each statement names.
-/
import Derived.Calls
import Derived.Below
import Derived.LoopN
import Derived.Tactics
import Derived.Laws.Sem
import Derived.IntWalk
import Derived.Lib.MinMax
import Derived.Laws.Cells
import Derived.Orders
import Derived.KernelRfl
import Derived.Lib.Strings
import Derived.Great.BuildSlice
import Derived.Laws.Append
import Derived.Laws.BytesString
import Derived.Lib.ConvBytes
set_option linter.unusedVariables false
set_option linter.unusedSimpArgs false
set_option linter.unnecessarySimpa false
set_option linter.unusedSectionVars false
namespace Go
abbrev BL:=List UInt8
theorem Zaa{p:Prop}(h:p:=by first | rfl | simp_all):p:=h
theorem Zab{p:Prop}(h:p:=by first | rfl | exact ⟨rfl, rfl⟩ | simp_all):p:=h
theorem Zac{p:Prop}(h:p:=by omega):p:=h
theorem Zad{p:Prop}(h:p:=by simp):p:=h
theorem Zae{p:Prop}(h:p:=by kernel_rfl):p:=h
theorem Zaf{p:Prop}(h:p:=by decide):p:=h
theorem Zag{p:Prop}(h:p:=by first | assumption | omega | (simp; omega)):p:=h
theorem Zah{p:Prop}(h:p:=by first | rfl | simp | (simp; omega)):p:=h
theorem Zai{p:Prop}(h:p:=by (try simp only [List.length_append, List.length_cons, List.length_nil]); omega):p:=h
theorem Zaj{p:Prop}(h:p:=by (try simp only [List.length_map] at *); omega):p:=h
theorem Zak{p:Prop}(h:p:=by first | (solve | simp) | omega | (simp; omega)):p:=h
theorem Zal{p:Prop}(h:p:=by simp; omega):p:=h
theorem Zam{α:Type _}{l:List α}{i:Nat}{a:α}:l.getD i a=l[i]?.getD a:=List.getD_eq_getElem?_getD ..
theorem Zan{α:Type _}(a b:α):(some a=some b)=(a=b):=Option.some.injEq ..
theorem Zao(a b:Bool):((a&&b)=true)=(a=true/\b=true):=Bool.and_eq_true ..
theorem Zap{α:Type _}{as bs:List α}:(as++bs).length=as.length+bs.length:=List.length_append ..
theorem Zaq{α:Type _}{β:Type _}(a:α)(b:β)(c:α)(d:β):((a,b)=(c,d))=(a=c/\b=d):=Prod.mk.injEq ..
theorem Zar{α:Type _}{a:α}{as:List α}:(a::as).length=as.length+1:=List.length_cons ..
theorem Zas{α β:Type}(a:α)(w:World)(f:α->World->Result β):(Result.ok a w).andThen f=f a w:=Result.andThen_ok ..
theorem Zat{α:Type _}{l:List α}{i:Nat}(h:i<l.length):l[i]?=some l[i]:=List.getElem?_eq_getElem h
theorem Zau{α:Type _}:([]:List α).length=0:=List.length_nil
theorem Zav{α:Type _}{a b:α}:a∈[b]↔a=b:=List.mem_singleton ..
theorem Zaw(n:Nat):0+n=n:=Nat.zero_add ..
theorem Zax{α:Type _}{a:α}{s t:List α}:a∈s++t↔a∈s\/a∈t:=List.mem_append ..
theorem Zay{α:Type _}{β:Type _}{as:List α}(f:α->β):(as.map f).length=as.length:=List.length_map ..
theorem Zaz{α:Type _}{i:Nat}{l:List α}(h:l.length<=i):l.take i=l:=List.take_of_length_le h
theorem Za0{α β:Type}(P:Program)(w:World)(x:Sem α)(f:α->Sem β):(x>>=f).run P w=(x.run P w).andThen fun a w=>(f a).run P w:=Sem.run_bind ..
theorem Za1{α:Type}(P:Program)(w:World)(a:α):(pure a:Sem α).run P w=.ok a w:=Sem.run_pure ..
theorem Za2{α:Type _}{p:α->Bool}{l:List α}:l.all p=true↔∀x,x∈l->p x=true:=List.all_eq_true ..
theorem Za3{α:Type _}{i:Nat}{a:α}{l:List α}:l[i]?=some a↔∃h:i<l.length,l[i]=a:=List.getElem?_eq_some_iff ..
theorem Za4{α:Type _}{l₁ l₂:List α}{i:Nat}:l₁.length<=i->(l₁++l₂)[i]?=l₂[i-l₁.length]?:=List.getElem?_append_right
theorem Za5{α:Type _}{l:List α}:l.length=0->l=[]:=List.eq_nil_of_length_eq_zero
theorem Za6{a b:Bool}:a=b↔(a=true↔b=true):=Bool.eq_iff_iff ..
theorem Za7{α:Type _}{l:List α}{i:Nat}{a:α}(e:l[i]?=some a):a∈l:=List.mem_of_getElem? e
theorem Za8{α:Type _}{as:List α}{i:Nat}(h:as.length<=i):as.drop i=[]:=List.drop_eq_nil_of_le h
theorem Za9{α:Type _}{l₁ l₂:List α}{i:Nat}(hn:i<l₁.length):(l₁++l₂)[i]?=l₁[i]?:=List.getElem?_append_left hn
theorem Zba{α:Type _}:([]:List α).Nodup:=List.nodup_nil
theorem Zbb{α:Type _}{β:Type _}{f:α->β}{l₁ l₂:List α}:(l₁++l₂).map f=l₁.map f++l₂.map f:=List.map_append ..
theorem Zbc(n:Nat):n<=n:=Nat.le_refl ..
theorem Zbd(n:UInt8):n.toNat<2^8:=UInt8.toNat_lt ..
theorem Zbe{α:Type _}{β:Type _}{f:α->β}{a:α}{l:List α}:(a::l).map f=f a::l.map f:=List.map_cons ..
theorem Zbf{α:Type _}{a:α}:[a].length=1:=List.length_singleton ..
theorem Zbg{α:Type _}{a:α}{l:List α}:a∈l↔∃(i:Nat)(h:i<l.length),l[i]=a:=List.mem_iff_getElem ..
theorem Zbh{α:Type _}{i:Nat}{b:α}{xs:Array α}:xs[i]?=some b↔∃h:i<xs.size,xs[i]=b:=Array.getElem?_eq_some_iff ..
theorem Zbi{α:Type _}[BEq α][LawfulBEq α](a:α)(as:List α):as.contains a=decide (a∈as):=List.contains_eq_mem ..
theorem Zbj(n m k:Nat):n+m+k=n+(m+k):=Nat.add_assoc ..
theorem Zbk{p:Prop}[Decidable p]:(decide p=true)=p:=decide_eq_true_eq ..
theorem Zbl{α:Type _}[BEq α][LawfulBEq α]{a b:α}:(a==b)=true↔a=b:=beq_iff_eq ..
theorem Zbm{α:Type _}{β:Type _}{a b:α}(f:α->β)(h:a=b):f a=f b:=congrArg f h
theorem Zbn{p:Prop}(h:p:=by simpa using hi):p:=h
theorem Zbo{p:Prop}(h:p:=by simp[execOp,resolve,invoke,builtin,Builtin.len_,hc,bz hu,goInt]):p:=h
theorem Zbp{p:Prop}(h:p:=by simpa using hj):p:=h
theorem Zbq{p:Prop}(h:p:=by simpa using h):p:=h
theorem Zbr{p:Prop}(h:p:=by have:=(Za3.1 hx).1;omega):p:=h
theorem Zbs{p:Prop}(h:p:=by rw[Zbj];exact QC _ _ (Sp i u hu)):p:=h
theorem Zbt{p:Prop}(h:p:=by simpa using hx):p:=h
theorem Zbu{p:Prop}(h:p:=by simp only[execOp,ho,Za0,hy,Zas,Za1]):p:=h
theorem Zbv{p:Prop}(h:p:=by simp at hx ⊢;rcases hx with h | h <;> simp[h]):p:=h
theorem Zbw{p:Prop}(h:p:=by simp at c ⊢;rcases c with h | h <;> simp[h]):p:=h
theorem Zbx{p:Prop}(h:p:=by rw[fh];omega):p:=h
theorem Zby{p:Prop}(h:p:=by simpa using hb):p:=h
theorem Zbz{p:Prop}(h:p:=by simpa using h1):p:=h
theorem Zb0{p:Prop}(h:p:=by subst ht;simp[Op.operands,Call.operands]):p:=h
theorem Zb1{p:Prop}(h:p:=by simp[Op.operands,e]):p:=h
theorem Zb2{p:Prop}(h:p:=by simp[Op.operands,Call.operands,hx,e]):p:=h
theorem Zb3{p:Prop}(h:p:=by simpa using e):p:=h
theorem Zb4{p:Prop}(h:p:=by simpa using h2):p:=h
theorem Zb5{p:Prop}(h:p:=by have:=hl z hz;simp only;omega):p:=h
theorem Zb6{p:Prop}(h:p:=by simp at hy):p:=h
theorem Zb7{p:Prop}(h:p:=by have:=zi (show i<16 from hi);omega):p:=h
theorem Zb8{p:Prop}(h:p:=by rw[Bf (by have:i<16:=hi;exact this) (by rw[HF.out];exact Zbl.1 HI.out)];simp):p:=h
theorem Zb9{p:Prop}(h:p:=by have:=Zbd b;omega):p:=h
theorem Zca{p:Prop}(h:p:=by simp only[og,decide_eq_false_iff_not];omega):p:=h
theorem Zcb{p:Prop}(h:p:=by (try simp only[nb]at hG);first | assumption | omega | (simp;omega)):p:=h
theorem Zcc{p:Prop}(h:p:=by have:=Zbd (s.getD i 0);omega):p:=h
theorem Zcd{p:Prop}(h:p:=by have:=jH (s.getD (i+1) 0);have:=lA (s.getD (i+1) 0);have:=jH (s.getD (i+2) 0);have:=lA (s.getD (i+2) 0);omega):p:=h
theorem Zce{p:Prop}(h:p:=by rw[Zap];omega):p:=h
theorem Zcf{p:Prop}(h:p:=by exact Zbm (V.sl false) (aU (fun _=>rfl) _)):p:=h
theorem Zcg{p:Prop}(h:p:=by exact az (ah (d:=[]) Zac)):p:=h
theorem Zch{p:Prop}(h:p:=by simp <;> omega):p:=h
theorem Zci{p:Prop}(h:p:=by simpa using l6):p:=h
theorem Zcj{p:Prop}(h:p:=by first | assumption | exact qp _ | simp_all):p:=h
theorem Zck{p:Prop}(h:p:=by rw[l4];decide):p:=h
theorem Zcl{p:Prop}(h:p:=by rw[Zaw];exact ah (d:=0) Zac):p:=h
theorem Zcm{p:Prop}(h:p:=by exact (bF (f:=sV) (fun _=>rfl) _)):p:=h
theorem Zcn{p:Prop}(h:p:=by exact (cd (f:=sV) (fun _=>rfl) _)):p:=h
theorem Zco{p:Prop}(h:p:=by rw[Zaz Zac]at h3;exact h3):p:=h
theorem Zcp{p:Prop}(h:p:=by first | (solve | simp) | (simp;omega)):p:=h
theorem Zcq{p:Prop}(h:p:=by rintro⟨k1,k2⟩;have k3:=Zbm List.length k2;simp only[List.length_drop,Zau]at k3;exact B6 k1 Zac):p:=h
theorem Zcr{p:Prop}(h:p:=by (try simp only[nb]at hG);omega):p:=h
theorem Zcs{p:Prop}(h:p:=by exact az (ah (d:=(⟨false,[]⟩:u0)) Zac)):p:=h
theorem Zct{p:Prop}(h:p:=by intro _ k hk;simpa[lk] using hk):p:=h
theorem Zcu{p:Prop}(h:p:=by simp[Q];omega):p:=h
theorem Zcv{p:Prop}(h:p:=by exact bJ ⟨Zad,Zad⟩):p:=h
theorem Zcw{p:Prop}(h:p:=by exact mF h2 ⟨Zad,Zad,Zad,Zad,Zad,by first | (solve | simp) | (intro x hx;rw[Zav.1 hx];exact dc rfl)⟩):p:=h
theorem Zcx{p:Prop}(h:p:=by exact (sH (eJ rfl _) (by simp only;omega) (fun x hx=>(h2 x hx).1) (by first | exact cK rfl SQ | simp)).1):p:=h
theorem Zcy{p:Prop}(h:p:=by simp only;omega):p:=h
theorem Zcz{p:Prop}(h:p:=by (try dsimp only);repeat (first | assumption | exact cD | exact dc rfl | exact fI rfl (by assumption) | exact w7.drop (by apply And.right;apply And.right;apply And.right;assumption) _ | (apply And.right;apply And.right;apply And.right;assumption) | apply w7.app)):p:=h
theorem Zc0{p:Prop}(h:p:=by first | omega | (simp;omega)):p:=h
theorem Zc1{p:Prop}(h:p:=by (try simp only[Zap,Zar,Zau]);(try have:=cK (n:=11) rfl I9);omega):p:=h
theorem Zc2{p:Prop}(h:p:=by simp only[Zap,Zar,Zau];omega):p:=h
theorem Zc3{p:Prop}(h:p:=by exact az (ah (d:=s6) Zac)):p:=h
theorem Zc4{p:Prop}(h:p:=by exact az (ah (d:=(⟨[],[],0⟩:m8)) Zac)):p:=h
theorem Zc5{p:Prop}(h:p:=by (try have:=jV (gs:=gs) hg i k);(try have:=jO (gs:=gs) hg i k);(try simp only[Zap,Zar,Zau]);omega):p:=h
theorem Zc6{p:Prop}(h:p:=by (try dsimp only);repeat (first | assumption | exact cD | exact dc rfl | exact wW hg _ _ | exact wc hg _ _ | exact rP _ | apply w7.app)):p:=h
theorem Zc7{p:Prop}(h:p:=by (try have:=eJ (l:=bQ) (n:=3) rfl i);(try simp only[Zap,Zar,Zau]);omega):p:=h
theorem Zc8{p:Prop}(h:p:=by (try dsimp only);repeat (first | assumption | exact O4.2.2.2 | exact PO.2.2.2 | exact PM.2.2.2 | exact cD | exact dc rfl | exact Qy.2 | exact PN.2.2.2 | exact gJ rfl i | apply w7.app)):p:=h
theorem Zc9{p:Prop}(h:p:=by simp only[Zay];omega):p:=h
theorem Zda{p:Prop}(h:p:=by first | exact XC.2.2.2 | (rename_i hq;exact hq.2.2.2) | (apply And.right;apply And.right;apply And.right;assumption)):p:=h
theorem Zdb{p:Prop}(h:p:=by simpa using l4):p:=h
theorem Zdc{p:Prop}(h:p:=by simpa using n9):p:=h
theorem Zdd{p:Prop}(h:p:=by exact aO (aP) rfl):p:=h
theorem Zde{p:Prop}(h:p:=by exact bZ (aP) (cy)):p:=h
theorem Zdf{p:Prop}(h:p:=by exact (Zbm iV (by rw[hz];simp))):p:=h
theorem Zdg{p:Prop}(h:p:=by exact aO (by rw[Zaw];exact aP) rfl):p:=h
theorem Zdh{p:Prop}(h:p:=by exact bZ (by rw[Zaw];exact aP) (by rw[Zaw];exact cy)):p:=h
theorem Zdi{p:Prop}(h:p:=by exact Zbm (V.own 3 · g0 o0 c0) (by rw[Zbb (f:=ba)];rfl)):p:=h
theorem Zdj{p:Prop}(h:p:=by exact (bF (f:=aE) (fun _=>rfl) _)):p:=h
theorem Zdk{p:Prop}(h:p:=by exact (cd (f:=aE) (fun _=>rfl) _)):p:=h
theorem Zdl{p:Prop}(h:p:=by first | (rw[Za6];simp;omega) | (rw[Za6];simp)):p:=h
theorem Zdm{p:Prop}(h:p:=by exact bm h2 (by simpa using n9)):p:=h
theorem Zdn{p:Prop}(h:p:=by simp[Op.operands,Call.operands]):p:=h
theorem Zdo{p:Prop}(h:p:=by first | (rw[Za6];simp_all;done) | grind):p:=h
theorem Zdp{p:Prop}(h:p:=by first | (refine Zbm iV ?_;simp;done) | (refine Zbm iV ?_;omega)):p:=h
theorem Zdq{p:Prop}(h:p:=by exact ka (by rw[Zaw];exact ah (d:=false) Zac)):p:=h
theorem Zdr{p:Prop}(h:p:=by exact ra (by rw[Zaw];exact ah (d:=false) Zac) (by rw[Zaw];exact(List.map_set ..).symm)):p:=h
theorem Zds{p:Prop}(h:p:=by intro i h;cases h):p:=h
theorem Zdt{p:Prop}(h:p:=by exact Y6 (Zbm (V.own 3 · gr fr cr) (by rw[hz,Zbb];rfl))):p:=h
theorem Zdu{p:Prop}(h:p:=by unfold Q;refine Zbm iV ?_;simp):p:=h
theorem Zdv{p:Prop}(h:p:=by exact jm.trans (aO (by rw[Zaw];exact aP) rfl)):p:=h
theorem Zdw{p:Prop}(h:p:=by exact sQ (bZ (by rw[Zaw];exact aP) (by rw[Zaw];exact cy))):p:=h
theorem Zdx{p:Prop}(h:p:=by exact Y6 (Zbm (V.own 3 · gr fr cr) (by rw[Zbb (f:=ba)];rfl))):p:=h
theorem Zdy{p:Prop}(h:p:=by exact bm h2 (by simpa using l6)):p:=h
theorem Zdz{p:Prop}(h:p:=by first | rfl | exact Zbm iV Zac):p:=h
theorem Zd0{p:Prop}(h:p:=by unfold Q;refine Zbm (V.sl false) ?_;rw[List.map_take,show (max (((a.j8.map sV).length:Int)-1) 0).toNat=a.j8.length-1 from Zal];rfl):p:=h
theorem Zd1{p:Prop}(h:p:=by have:=List.length_pos_iff.2 n9;omega):p:=h
theorem Zd2{p:Prop}(h:p:=by simp only[List.length_take];omega):p:=h
theorem Zd3{p:Prop}(h:p:=by first | exact qH l6 n9 | exact qN l6 n9 | exact qP l6):p:=h
theorem Zd4{p:Prop}(h:p:=by (try simp only[nb]at hG);exact⟨Zac,ah (d:=[]) Zac⟩):p:=h
theorem Zd5{p:Prop}(h:p:=by rw[h2,Zay,List.length_take];omega):p:=h
theorem Zd6{p:Prop}(h:p:=by exact (aN (f:=2) rfl).trans (aO (by rw[Zaw];exact ah (d:=b9) Zac) rfl)):p:=h
theorem Zd7{p:Prop}(h:p:=by exact (aN (f:=2) rfl).trans (aO (ah (d:=b9) Zac) rfl)):p:=h
theorem Zd8{p:Prop}(h:p:=by exact (bF (f:=ai) (fun _=>rfl) _)):p:=h
theorem Zd9{p:Prop}(h:p:=by exact (cd (f:=ai) (fun _=>rfl) _)):p:=h
theorem Zea{p:Prop}(h:p:=by exact (bF (f:=ay) (fun _=>rfl) _)):p:=h
theorem Zeb{p:Prop}(h:p:=by exact (cd (f:=ay) (fun _=>rfl) _)):p:=h
theorem Zec{p:Prop}(h:p:=by exact D3 (Zbm (V.own 8 · g o c) (dz (d:=b9) Zac))):p:=h
theorem Zed{p:Prop}(h:p:=by first | rfl | (exfalso;omega) | (simp only[Zaw]) | (simp;omega)):p:=h
theorem Zee{p:Prop}(h:p:=by have:=iv (k+1);omega):p:=h
theorem Zef{p:Prop}(h:p:=by rw[List.take_append_drop];exact hf):p:=h
theorem Zeg{p:Prop}(h:p:=by exact (aN (f:=2) rfl).trans (aO (cJ Zac) ((aN (f:=5) rfl).trans (aO (by rw[Zaw];exact ah (d:=j6) Zac) rfl)))):p:=h
theorem Zeh{p:Prop}(h:p:=by exact bF (f:=ai) (fun _=>rfl) _):p:=h
theorem Zei{p:Prop}(h:p:=by have:=hy.n;omega):p:=h
theorem Zej{p:Prop}(h:p:=by rw[List.length_set];exact hi):p:=h
theorem Zek{p:Prop}(h:p:=by have:=hy.ta _ (ar (d:=j6) hne);omega):p:=h
theorem Zel{p:Prop}(h:p:=by exact ak (ah (d:=[]) Zac)):p:=h
theorem Zem{p:Prop}(h:p:=by rw[h2];have:=QE.h;have:=QE.s;omega):p:=h
theorem Zen{p:Prop}(h:p:=by rw[h3];have:=QE.s;omega):p:=h
theorem Zeo{p:Prop}(h:p:=by (try simp only[Zap,Zay,Zar,Zau]);(try have:=hgx);omega):p:=h
theorem Zep{p:Prop}(h:p:=by (try simp only[Zay]at *);try simp only[Zap,Zar,Zay,List.length_take,List.length_drop,Zau]at *;omega):p:=h
theorem Zeq{p:Prop}(h:p:=by simp at hr):p:=h
theorem Zer{p:Prop}(h:p:=by unfold Rf;simp only[Zau]at a ⊢;omega):p:=h
theorem Zes{p:Prop}(h:p:=by rw[Zam,Zat hk];exact e):p:=h
theorem Zet{p:Prop}(h:p:=by obtain⟨a,b,c,d⟩:=h.it x hx;exact⟨a,b,List.mem_append_left _ c,d⟩):p:=h
theorem Zeu{p:Prop}(h:p:=by rw[<- Zav.1 hb,<- e];exact ha):p:=h
theorem Zev{p:Prop}(h:p:=by rw[<- hb,<- e,<- e2];exact(hy.it x hx).2.2.1):p:=h
theorem Zew{p:Prop}(h:p:=by rw[show (w9 w (t.hs.getD (m4 t) b9) (w5 t)).kn=(t.hs.getD (m4 t) b9).kn from rfl,hk]at q;cases q):p:=h
theorem Zex{p:Prop}(h:p:=by have:=c.2;simp only;omega):p:=h
theorem Zey{p:Prop}(h:p:=by unfold PT;split <;> rfl):p:=h
theorem Zez{p:Prop}(h:p:=by show 0<=(t.hs.getD (m4 t) b9).tr+1;have:=hy.tr;omega):p:=h
theorem Ze0{p:Prop}(h:p:=by show (t.hs.getD (m4 t) b9).tr+1<=2;omega):p:=h
theorem Ze1{p:Prop}(h:p:=by rw[l8,if_pos hg]):p:=h
theorem Ze2{p:Prop}(h:p:=by rw[l8,if_neg hg]):p:=h
theorem Ze3{p:Prop}(h:p:=by simpa using(by omega:j<hs.length)):p:=h
theorem Ze4{p:Prop}(h:p:=by have:=(h2.2 y hy).1;omega):p:=h
theorem Ze5{p:Prop}(h:p:=by rw[(h2.2 y hy).2];simp):p:=h
theorem Ze6{p:Prop}(h:p:=by show (zs.set i y).length<=1000;rw[List.length_set];omega):p:=h
theorem Ze7{p:Prop}(h:p:=by rw[List.length_set];omega):p:=h
theorem Ze8{p:Prop}(h:p:=by show (se++[s]).length<=1000;simp;omega):p:=h
theorem Ze9{p:Prop}(h:p:=by have:zs.length<=800:=h.h;omega):p:=h
theorem Zfa{p:Prop}(h:p:=by show (lk++[l]).length<=1000;simp;omega):p:=h
theorem Zfb{p:Prop}(h:p:=by exact ak (ah (d:=j6) Zac)):p:=h
theorem Zfc{p:Prop}(h:p:=by exact bm h2 ((rn l6 Zac h4 Zac h6).trans H5)):p:=h
theorem Zfd{p:Prop}(h:p:=by exact ak (ah (d:=b9) Zac)):p:=h
theorem Zfe{p:Prop}(h:p:=by exact ak (ah (d:=(⟨false,[]⟩:u0)) Zac)):p:=h
theorem Zff{p:Prop}(h:p:=by exact bm h2 ⟨by simpa using n9,fun k hk=>h4 k Zac⟩):p:=h
theorem Zfg{p:Prop}(h:p:=by simpa using R5):p:=h
theorem Zfh{p:Prop}(h:p:=by exact ak (ah (d:=r6) Zac)):p:=h
theorem Zfi{p:Prop}(h:p:=by (try simp only[nb]at hG);exact⟨Zac,ah (d:=r6) Zac⟩):p:=h
theorem Zfj{p:Prop}(h:p:=by simp only at hp;omega):p:=h
theorem Zfk{p:Prop}(h:p:=by rw[<- jo (i:=i),<- h2];exact hi):p:=h
theorem Zfl{p:Prop}(h:p:=by unfold gI;simp only[Zap,Zbf];omega):p:=h
theorem Zfm{p:Prop}(h:p:=by rw[<- e];exact hb.resolve_right fun c=>c hr):p:=h
theorem Zfn{p:Prop}(h:p:=by exact J4 (D3 (Zbm (V.own 8 · g o c) (dz (d:=b9) Zac)))):p:=h
theorem Zfo{p:Prop}(h:p:=by rw[Zaw];exact cJ Zac):p:=h
theorem Zfp{p:Prop}(h:p:=by (try simp only[nb]at hG);exact(aN (f:=1) rfl).trans ((aN (f:=2) rfl).trans (aO (by rw[Zaw];exact pv (d:=b9) Zac Zac) rfl))):p:=h
theorem Zfq{p:Prop}(h:p:=by exact J4 (D3 (Zbm (V.own 8 · g o c) (dz (f:=ae) (d:=b9) Zac).symm))):p:=h
theorem Zfr{p:Prop}(h:p:=by rw[h2,List.length_take];omega):p:=h
theorem Zfs{p:Prop}(h:p:=by exact Zbm (V.own 2 · g24 K3 K4) (List.nil_append _)):p:=h
theorem Zft{p:Prop}(h:p:=by exact Zbm (V.own 1 · RT RJ R0) (List.nil_append _)):p:=h
theorem Zfu{p:Prop}(h:p:=by exact Zbm (V.own 2 · PU QX Q1) (List.nil_append _)):p:=h
theorem Zfv{p:Prop}(h:p:=by exact Zbm (V.own 8 · E' E9 J0) (rfl)):p:=h
theorem Zfw{p:Prop}(h:p:=by exact Zbm (V.own 8 · E' E9 J0) (by rw[Zbb (f:=ae)];rfl)):p:=h
theorem Zfx{p:Prop}(h:p:=by exact Zbm (V.own 1 · QH QF QJ) (List.nil_append _)):p:=h
theorem Zfy{p:Prop}(h:p:=by exact Zbm (V.own 3 · RS RI RY) (List.nil_append _)):p:=h
theorem Zfz{p:Prop}(h:p:=by exact⟨Zac,ah (d:=(0:Int)) (by simp only[Zar,Zau];omega)⟩):p:=h
theorem Zf0{p:Prop}(h:p:=by exact Zbm (V.own 3 · I' I8 J1) Zad):p:=h
theorem Zf1{p:Prop}(h:p:=by first | omega | (have:=iv (k+1);omega)):p:=h
theorem Zf2{p:Prop}(h:p:=by exact J4 (D3 (Zbm (V.own 8 · g o c) (ck (f:=ae) (x:=({ (zs.getD ix b9) with re:=b7+(max (((zs.getD ix b9).gr.wa:Nat):Int) 1) }:j9)) Zac)))):p:=h
theorem Zf3{p:Prop}(h:p:=by exact ak fun i=>by have:=Su i;omega):p:=h
theorem Zf4{p:Prop}(h:p:=by have:=(hg y hy).1;omega):p:=h
theorem Zf5{p:Prop}(h:p:=by rw[h2,jo];have:=mo (n:=n) (zs:=zs) (se:=se) (a:=a);omega):p:=h
theorem Zf6{p:Prop}(h:p:=by exact J4 (D3 (Zbm (V.own 8 · g o c) (splitN hy Zac)))):p:=h
theorem Zf7{p:Prop}(h:p:=by (try simp only[nb]at hG);exact(aN (f:=1) rfl).trans ((aN (f:=2) rfl).trans (aO (by rw[Zaw];exact cJ Zac) ((aN (f:=5) rfl).trans (aO (by rw[Zaw];exact ah (d:=j6) (by simp only[Zay]at *;omega)) rfl))))):p:=h
theorem Zf8{p:Prop}(h:p:=by (try simp only[Zay]);omega):p:=h
theorem Zf9{p:Prop}(h:p:=by exact bj ⟨by simp only[Zay];omega,bF (f:=ai) (fun _=>rfl) _⟩):p:=h
theorem Zga{p:Prop}(h:p:=by exact J4 (D3 (Zbm (V.own 8 · g o c) (ck (f:=ae) (x:=y) Zac)))):p:=h
theorem Zgb{p:Prop}(h:p:=by unfold PK;rw[h _ (ar hk),hb];rfl):p:=h
theorem Zgc{p:Prop}(h:p:=by unfold PK;rw[hb];simp):p:=h
theorem Zgd{p:Prop}(h:p:=by exact (aN (f:=1) rfl).trans ((aN (f:=2) rfl).trans (aO (by rw[Zaw];exact ah (d:=b9) Zac) rfl))):p:=h
theorem Zge{p:Prop}(h:p:=by exact J4 (D3 (Zbm (V.own 8 · g2 o2 c2) (ck (f:=ae) (x:=({ (w3 w (zs.getD ix b9) b7) with tr:=(zs.getD ix b9).tr+1 }:j9)) Zac)))):p:=h
theorem Zgf{p:Prop}(h:p:=by have:=pA (w:=w) (a:=aw (zs.getD ix b9).na) (k:=(zs.getD ix b9).tr) (m:=300) (fun i=>⟨(hz i).t,by have:=(hz i).l;omega⟩);omega):p:=h
theorem Zgg{p:Prop}(h:p:=by have:=lz (af w (aw (zs.getD ix b9).na) (zs.getD ix b9).tr).1 (af w (aw (zs.getD ix b9).na) (zs.getD ix b9).tr).2 n;omega):p:=h
theorem Zgh{p:Prop}(h:p:=by rw[h2];exact Nat.le_trans (List.length_filter_le ..) (by rw[List.length_take];omega)):p:=h
theorem Zgi{p:Prop}(h:p:=by exact (aN (f:=1) rfl).trans ((aN (f:=2) rfl).trans (aO (by rw[Zaw];exact cJ Zac) ((aN (f:=5) rfl).trans (aO (by rw[Zaw];exact ah (d:=j6) Zac) rfl))))):p:=h
theorem Zgj{p:Prop}(h:p:=by have:=(ke (af w (aw (zs.getD ix b9).na) (zs.getD ix b9).tr).1 (af w (aw (zs.getD ix b9).na) (zs.getD ix b9).tr).2 n).2 r hr;omega):p:=h
theorem Zgk{p:Prop}(h:p:=by exact Zbm (V.own 2 · L0 K6 L3) Zad):p:=h
theorem Zgl{p:Prop}(h:p:=by exact bj ⟨Zah,aD⟩):p:=h
theorem Zgm{p:Prop}(h:p:=by rw[oJ VG Zac n9,<- h2]):p:=h
theorem Zgn{p:Prop}(h:p:=by rw[nR Zac n9];exact h2):p:=h
theorem Zgo{p:Prop}(h:p:=by exact J4 (D3 (Zbm (V.own 8 · g2 o2 c2) (ck (f:=ae) (x:=({ (w3 w (zs.getD ix b9) b7) with kn:=true,gr:=(⟨[n],(bR (af w (aw (zs.getD ix b9).na) (zs.getD ix b9).tr).1 (af w (aw (zs.getD ix b9).na) (zs.getD ix b9).tr).2 n).ru,(bR (af w (aw (zs.getD ix b9).na) (zs.getD ix b9).tr).1 (af w (aw (zs.getD ix b9).na) (zs.getD ix b9).tr).2 n).wa⟩:m8),re:=max (w3 w (zs.getD ix b9) b7).re (b7+((bR (af w (aw (zs.getD ix b9).na) (zs.getD ix b9).tr).1 (af w (aw (zs.getD ix b9).na) (zs.getD ix b9).tr).2 n).wa:Int)),td:=e }:j9)) Zac)))):p:=h
theorem Zgp{p:Prop}(h:p:=by rw[tS Yu.2 l4,h2,Zaz Zac]):p:=h
theorem Zgq{p:Prop}(h:p:=by exact bj ⟨bF (f:=ai) (fun _=>rfl) _,cd (f:=ai) (fun _=>rfl) _,by rw[<- List.map_drop,<- List.map_take];exact bF (f:=ai) (fun _=>rfl) _,by rw[<- List.map_drop,<- List.map_take];exact cd (f:=ai) (fun _=>rfl) _,aD⟩):p:=h
theorem Zgr{p:Prop}(h:p:=by exact Zbm (V.own 2 · C6.1 C6.2.1 C6.2.2) ((show (((((zs.getD ix b9).td).map ai).drop (0+1)).take (((((zs.getD ix b9).td).map ai).length)-1):List V)=((zs.getD ix b9).td.drop 1).map ai by rw[List.map_drop,Zaz Zad]))):p:=h
theorem Zgs{p:Prop}(h:p:=by exact J4 (D3 (Zbm (V.own 8 · g o c) (ck (f:=ae) (x:=({ (zs.getD ix b9) with td:=(zs.getD ix b9).td.drop 1 }:j9)) Zac)))):p:=h
theorem Zgt{p:Prop}(h:p:=by exact J4 (D3 (Zbm (V.own 8 · g2 o2 c2) (tJ hi)))):p:=h
theorem Zgu{p:Prop}(h:p:=by exact Zbm (V.own 2 · C4.1 C4.2.1 C4.2.2) Zad):p:=h
theorem Zgv{p:Prop}(h:p:=by exact J4 (D3 (Zbm (V.own 8 · g2 o2 c2) (ck (f:=ae) (x:=({ (w9 w (zs.getD ix b9) b7) with td:=(zs.getD ix b9).td.drop 1++[(⟨((zs.getD ix b9).td.getD 0 j6).ad,((zs.getD ix b9).td.getD 0 j6).tr+1⟩:r3)] }:j9)) Zac)))):p:=h
theorem Zgw{p:Prop}(h:p:=by exact J4 (D3 (Zbm (V.own 8 · g2 o2 c2) (ck (f:=ae) (x:=(w9 w (zs.getD ix b9) b7)) Zac)))):p:=h
theorem Zgx{p:Prop}(h:p:=by have:=kD S3 hz s (List.mem_of_mem_take hs);exact⟨this.1,this.2.1,this.2.2.1⟩):p:=h
theorem Zgy{p:Prop}(h:p:=by rw[h2]at hy;have q:=QE.ha y hy;have Yt:=QE.s;exact⟨by have:=q.t;omega,q.r,q.rp⟩):p:=h
theorem Zgz{p:Prop}(h:p:=by show _=bf (((aM ((zs.getD ix b9).td.getD 0 j6).ad (af w ((zs.getD ix b9).td.getD 0 j6).ad ((zs.getD ix b9).td.getD 0 j6).tr).1 (af w ((zs.getD ix b9).td.getD 0 j6).ad ((zs.getD ix b9).td.getD 0 j6).tr).2).take i).foldl av (⟨n,b7,zs.set ix (w9 w (zs.getD ix b9) b7),se,ls++[(⟨b7,((zs.getD ix b9).td.getD 0 j6).ad,(af w ((zs.getD ix b9).td.getD 0 j6).ad ((zs.getD ix b9).td.getD 0 j6).tr).1⟩:n7)]⟩:l3)).na (((aM ((zs.getD ix b9).td.getD 0 j6).ad (af w ((zs.getD ix b9).td.getD 0 j6).ad ((zs.getD ix b9).td.getD 0 j6).tr).1 (af w ((zs.getD ix b9).td.getD 0 j6).ad ((zs.getD ix b9).td.getD 0 j6).tr).2).take i).foldl av (⟨n,b7,zs.set ix (w9 w (zs.getD ix b9) b7),se,ls++[(⟨b7,((zs.getD ix b9).td.getD 0 j6).ad,(af w ((zs.getD ix b9).td.getD 0 j6).ad ((zs.getD ix b9).td.getD 0 j6).tr).1⟩:n7)]⟩:l3)).hs (((aM ((zs.getD ix b9).td.getD 0 j6).ad (af w ((zs.getD ix b9).td.getD 0 j6).ad ((zs.getD ix b9).td.getD 0 j6).tr).1 (af w ((zs.getD ix b9).td.getD 0 j6).ad ((zs.getD ix b9).td.getD 0 j6).tr).2).take i).foldl av (⟨n,b7,zs.set ix (w9 w (zs.getD ix b9) b7),se,ls++[(⟨b7,((zs.getD ix b9).td.getD 0 j6).ad,(af w ((zs.getD ix b9).td.getD 0 j6).ad ((zs.getD ix b9).td.getD 0 j6).tr).1⟩:n7)]⟩:l3)).se _;rw[hq.1]):p:=h
theorem Zg0{p:Prop}(h:p:=by rw[uo RP l4,h2,h3,Zaz Zac,(eH _ _).2.2]):p:=h
theorem Zg1{p:Prop}(h:p:=by (try simp only[nb]at hG);exact(aN (f:=1) rfl).trans ((aN (f:=2) rfl).trans (aO (by rw[Zaw];exact ah (d:=b9) Zac) rfl))):p:=h
theorem Zg2{p:Prop}(h:p:=by rw[E7,if_neg (by rw[gT,ob l4];decide)]):p:=h
theorem Zg3{p:Prop}(h:p:=by exact (Zbm iV (by rw[Rm.1];exact(Int.toNat_of_nonneg l4.1.1).symm))):p:=h
theorem Zg4{p:Prop}(h:p:=by exact J4 (J4 (Zbm iV (by rw[Rm.2,Rm.1])))):p:=h
theorem Zg5{p:Prop}(h:p:=by exact aW ⟨QG,hz,hw,S3,List.length_pos_iff.2 Qj.2.1,⟨ht.t0.s,ht.t0.h,ht.t0.sa,ht.t0.ha⟩,VF,VZ,hk.si⟩):p:=h
theorem Zg6{p:Prop}(h:p:=by rw[E7,if_pos RO,CT l6,(rO w _ _).2]):p:=h
theorem Zg7{p:Prop}(h:p:=by exact aW ⟨QG,hz,hw,hno.1,hno.2⟩):p:=h
theorem Zg8{p:Prop}(h:p:=by rw[E7,if_pos RO,En l6];rfl):p:=h
theorem Zg9{p:Prop}(h:p:=by (try simp only[nb]at hG);rw[<- he];exact hn):p:=h
theorem Zha{p:Prop}(h:p:=by (try simp only[nb]at hG);rw[he]):p:=h
theorem Zhb{p:Prop}(h:p:=by rw[N4,if_neg (by rw[e];decide)]):p:=h
theorem Zhc{p:Prop}(h:p:=by unfold Q;rfl):p:=h
theorem Zhd{p:Prop}(h:p:=by rw[lM Zac h2 h3 l6]):p:=h
theorem Zhe{p:Prop}(h:p:=by rw[lH Zac h2 h3 l6];exact h2):p:=h
theorem Zhf{p:Prop}(h:p:=by rw[lH Zac h2 h3 l6];exact h3):p:=h
theorem Zhg{p:Prop}(h:p:=by exact ak fun i=>by have:=hz i;exact⟨by have:=this.a;omega,by have:=this.l;omega⟩):p:=h
theorem Zhh{p:Prop}(h:p:=by exact aR fun _ _ _ _ _ _ _ _ _=>by kernel_rfl):p:=h
theorem Zhi{p:Prop}(h:p:=by have:=fB hk hz i (fT ht hh PR);rw[<- jX w i t];exact this):p:=h
theorem Zhj{p:Prop}(h:p:=by have:=(TK.of (fC (w:=w) i PR)).1;rw[<- jX w i t];exact this):p:=h
theorem Zhk{p:Prop}(h:p:=by have hg:=n9;rw[jy]at hg;rw[uE hg (show i+1<=m.toNat by omega)]):p:=h
theorem Zhl{p:Prop}(h:p:=by rw[show i=m.toNat from Zac]):p:=h
theorem Zhm{p:Prop}(h:p:=by exact aW fun x hx=>⟨by have:=(B5.2.1 x hx).1;omega,(B5.2.1 x hx).2⟩):p:=h
theorem Zhn{p:Prop}(h:p:=by rw[ff,aU (f:=sV) (fun _=>rfl),aU (f:=ay) (fun _=>rfl)]):p:=h
theorem Zho{p:Prop}(h:p:=by exact lj Zac Zac (fun x hx=>⟨by have:=(B5.2.1 x hx).1;omega,(B5.2.1 x hx).2⟩)):p:=h
theorem Zhp{p:Prop}(h:p:=by have:=(B5.2.1 x hx).1;omega):p:=h
theorem Zhq{p:Prop}(h:p:=by exact D3 (Zbm (V.own 8 · g2 o2 c2) (dz (d:=b9) Zac))):p:=h
theorem Zhr{p:Prop}(h:p:=by exact D3 (Zbm (V.own 8 · g2 o2 c2) (ck (f:=ae) (x:=({ (b6.1.2.hs.getD 0 b9) with re:=(([-1,5101,7]:List Int).getD D1 0) }:j9)) Zac))):p:=h
theorem Zhs{p:Prop}(h:p:=by exact D3 (Zbm (V.own 8 · g2 o2 c2) (ck (f:=ae) (x:=({ (b6.1.2.hs.getD 0 b9) with tr:=(x8:Int)-1 }:j9)) Zac))):p:=h
theorem Zht{p:Prop}(h:p:=by exact eD (by(try simp only[Zap,Zay,Zar,Zau]);(try have V7:=m0.2.2.1.e);(try have V6:=m0.2.2.1.l);omega)):p:=h
theorem Zhu{p:Prop}(h:p:=by have:=P3.1;simp only;omega):p:=h
theorem Zhv{p:Prop}(h:p:=by (try simp only[Zap,Zay,Zar,Zau]);(try have V7:=m0.2.2.1.e);(try have V6:=m0.2.2.1.l);omega):p:=h
theorem Zhw{p:Prop}(h:p:=by have:=P2.1;simp only;omega):p:=h
theorem Zhx{p:Prop}(h:p:=by exact aW ⟨Zad,Zad⟩):p:=h
theorem Zhy{p:Prop}(h:p:=by have:I7.length<=5:=cK rfl Rg;omega):p:=h
theorem Zhz{p:Prop}(h:p:=by exact D3 (Zbm (V.own 8 · g2 o2 c2) (ck (f:=ae) (x:=({ (b6.1.2.hs.getD 0 b9) with na:=C9 }:j9)) Zac))):p:=h
theorem Zh0{p:Prop}(h:p:=by have:C9.length<=5:=cK rfl Q8;omega):p:=h
theorem Zh1{p:Prop}(h:p:=by rw[gF c1.1 c1.2 c.2];rfl):p:=h
theorem Zh2{p:Prop}(h:p:=by (try simp only[nb]at hG);rw[<- he];omega):p:=h
theorem Zh3{p:Prop}(h:p:=by rw[he];simp):p:=h
theorem Zh4{p:Prop}(h:p:=by (try simp only[nb]at hG);have:=Ub.g;omega):p:=h
theorem Zh5{p:Prop}(h:p:=by (try simp only[nb]at hG);have:=Ub.r;omega):p:=h
theorem Zh6{p:Prop}(h:p:=by (try simp only[nb]at hG);have:=Ub.t;omega):p:=h
theorem Zh7{p:Prop}(h:p:=by have:=A9.2.2.2;omega):p:=h
theorem Zh8{p:Prop}(h:p:=by rw[<- MakeChecks.laidMetH_plain _ _ _ Zae];exact Y1):p:=h
theorem Zh9{p:Prop}(h:p:=by simpa using Array.mem_of_getElem? ht):p:=h
theorem Zia{p:Prop}(h:p:=by exact J4 (D3 (Zbm (V.own 8 · g o c) (ck (f:=ae) (x:=({ (zs.getD ix b9) with re:=b7+((max (((zs.getD ix b9).gr.wa:Nat):Int) 1)+(bE (k+1))) }:j9)) Zac)))):p:=h
theorem Zib{p:Prop}(h:p:=by exact J4 (D3 (Zbm (V.own 8 · g2 o2 c2) (tF (f:=ae) (a:=(w3 w (zs.getD ix b9) b7)) hi)))):p:=h
theorem Zic{p:Prop}(h:p:=by exact Zbm (V.own 2 · C5.1 C5.2.1 C5.2.2) Zad):p:=h
theorem Zid{p:Prop}(h:p:=by exact D3 (Zbm (V.own 8 · g2 o2 c2) (ck (f:=ae) (x:=({ (b6.1.2.hs.getD 0 b9) with td:=((b6.1.2.hs.getD 0 b9).td)++[(⟨s5.1,(z6:Int)⟩:r3)] }:j9)) Zac))):p:=h
theorem Zie{p:Prop}(h:p:=by exact Zbm (V.own 1 · RR RH RX) Zad):p:=h
theorem Zif{p:Prop}(h:p:=by exact Zbm (V.own 3 · RQ RG RW) Zad):p:=h
end Go
namespace Go.Proofs.YtngholilfbdfkaaGreatDoor
open Go Go.RowKit
set_option maxRecDepth 20000
inductive r5 where
 | slot (i:Nat)
 | key (k:Nat)
 deriving DecidableEq
inductive V where
 | lit (x:Value)
 | agg (vs:List V)
 | tup (vs:List V)
 | sl (full:Bool) (xs:List V)
 | own (sz:Nat) (xs:List V) (g o c:Nat)
 | ow (sz:Nat) (xs:List V)
 | om (es:List (BL×Value)) (g:Nat)
 | mp (es:List (BL×Value))
 | hd (r:r5) (p:List Nat) (sz g o lo n c:Nat)
 | ptr (r:r5) (p:List Nat) (g o:Nat)
 | ep (v:V)
 | c9
 | gv (b:Bool) (v:V)
mutual
def V.n:V->Nat
 | .agg vs=>V.ns vs
 | _=>1
def V.ns:List V->Nat
 | []=>0
 | v::vs=>v.n+V.ns vs
end
def aX(sz:Nat)(xs:List V):Prop:= ∀ x∈xs,x.n=sz
def Blk(w:World)(g:Nat)(cells:Array Value):Prop:=
 ∃ e fr,w.heap[g]? =some (.cells cells e fr)/\∀ i,i<cells.size->¬ (fr.1<=i/\i<fr.2)
def Au(w:World)(g:Nat)(es:List (BL×Value)):Prop:=
 ∃ en cl,w.heap[g]? =some (.map en cl)/\en.toList.map (fun e=>(e.key,e.val))=es.map (fun p=>(.string ⟨p.1.toArray⟩,p.2))/\(en.toList.map (·.born)).Nodup/\∀ e∈en.toList,e.born<cl
mutual
def R(w:World)(Pb:Nat->Prop):V->List Value->List Nat->Prop
 | .lit x,cs,F=>x.oneCell'=true/\cs=[x]/\F=[]
 | .agg vs,cs,F=>RL w Pb vs cs F
 | .tup _,_,_=>False
 | .gv _ _,_,_=>False
 | .sl full xs,cs,F=>F=[]/\∃ A c,cs=[.slice A xs.length c]/\xs.length<=c/\(full=true->c=xs.length)/\
  (xs=[]\/∃ b o sz flat,A=some ⟨b,o,none⟩/\Pb b/\0<sz/\aX sz xs/\RL w Pb xs flat []/\
   ∀ j u,flat[j]? =some u->w.cell? ⟨b,o+j,none⟩=some u)
 | .own sz xs g o c,cs,F=>(c=0/\xs=[]/\F=[]/\∃ A,cs=[.slice A 0 0])\/
  (0<c/\0<sz/\xs.length<=c/\cs=[.slice (some ⟨g,o,none⟩) xs.length c]/\aX sz xs/\¬ Pb g/\
   ∃ flat F' cells,F=g::F'/\RL w Pb xs flat F'/\Blk w g cells/\o+c*sz<=cells.size/\
     ∀ j u,flat[j]? =some u->cells[o+j]? =some u)
 | .ow sz xs,cs,F=> ∃ g o c,(c=0/\xs=[]/\F=[]/\∃ A,cs=[.slice A 0 0])\/
  (0<c/\0<sz/\xs.length<=c/\cs=[.slice (some ⟨g,o,none⟩) xs.length c]/\aX sz xs/\¬ Pb g/\
   ∃ flat F' cells,F=g::F'/\RL w Pb xs flat F'/\Blk w g cells/\o+c*sz<=cells.size/\
     ∀ j u,flat[j]? =some u->cells[o+j]? =some u)
 | .om es g,cs,F=>F=[g]/\cs=[.map (some g)]/\¬ Pb g/\Au w g es
 | .mp es,cs,F=>F=[]/\∃ g,cs=[.map (some g)]/\Pb g/\Au w g es
 | .hd _ _ sz g o lo n c,cs,F=>F=[]/\n<=c/\∃ A,cs=[.slice A n c]/\(0<c->A=some ⟨g,o+lo*sz,none⟩)
 | .ptr _ _ g o,cs,F=>F=[]/\cs=[.pointer (some ⟨g,o,none⟩)]
 | .ep v,cs,F=>F=[]/\∃ b o flat,cs=[.pointer (some ⟨b,o,none⟩)]/\Pb b/\R w Pb v flat []/\
  ∀ j u,flat[j]? =some u->w.cell? ⟨b,o+j,none⟩=some u
 | .c9,cs,F=>F=[]/\∃ x,cs=[x]/\x.oneCell'=true
def RL(w:World)(Pb:Nat->Prop):List V->List Value->List Nat->Prop
 | [],cs,F=>cs=[]/\F=[]
 | v::vs,cs,F=> ∃ c1 c2 F1 F2,cs=c1++c2/\F=F1++F2/\R w Pb v c1 F1/\RL w Pb vs c2 F2
end
section
variable {w w':World} {Pb Pb':Nat->Prop}
theorem Jx{sz:Nat}{xs:List V}{cs:List Value}{F:List Nat}:R w Pb (.ow sz xs) cs F↔∃ g o c,R w Pb (.own sz xs g o c) cs F:=by simp only[R]
theorem Au.iq{g:Nat}{es:List (BL×Value)}(h:Au w g es)(k:w'.heap[g]? =w.heap[g]?):Au w' g es:=by
 obtain⟨en,cl,h1,h2⟩:=h;exact⟨en,cl,k.trans h1,h2⟩
mutual
theorem ft:∀ (v:V) {cs F},R w Pb v cs F->cs.length=v.n
 | .lit x,cs,F,h=>by obtain⟨_,rfl,_⟩:=h;rfl
 | .agg vs,cs,F,h=>by simp only[R]at h;simpa[V.n] using mi vs h
 | .tup _,_,_,h=>by simp[R]at h
 | .gv _ _,_,_,h=>by simp[R]at h
 | .sl _ xs,cs,F,h=>by obtain⟨_,A,c,rfl,_⟩:=h;rfl
 | .own sz xs g o c,cs,F,h=>by
  rcases h with ⟨_,_,_,A,rfl⟩ | ⟨_,_,_,rfl,_⟩ <;> rfl
 | .ow sz xs,cs,F,h=>by
  obtain⟨g,o,c,h⟩:=h;rcases h with ⟨_,_,_,A,rfl⟩ | ⟨_,_,_,rfl,_⟩ <;> rfl
 | .om ..,cs,F,h=>by obtain⟨_,rfl,_⟩:=h;rfl
 | .mp _,cs,F,h=>by obtain⟨_,g,rfl,_⟩:=h;rfl
 | .hd ..,cs,F,h=>by obtain⟨_,_,A,rfl,_⟩:=h;rfl
 | .ptr ..,cs,F,h=>by obtain⟨_,rfl⟩:=h;rfl
 | .ep v,cs,F,h=>by obtain⟨_,b,o,flat,rfl,_⟩:=h;rfl
 | .c9,cs,F,h=>by obtain⟨_,x,rfl,_⟩:=h;rfl
theorem mi:∀ (vs:List V) {cs F},RL w Pb vs cs F->cs.length=V.ns vs
 | [],cs,F,h=>by obtain⟨rfl,_⟩:=h;rfl
 | v::vs,cs,F,h=>by
     obtain⟨c1,c2,F1,F2,rfl,_,h1,h2⟩:=h;simp[V.ns,ft v h1,mi vs h2]
end
mutual
theorem jN:∀ (v:V) {cs F},R w Pb v cs F->(∀ g,Pb g->w'.heap[g]? =w.heap[g]?)->(∀ g,g∈F->w'.heap[g]? =w.heap[g]?)->
 (∀ g,Pb g->Pb' g)->(∀ g,g∈F->¬ Pb' g)->R w' Pb' v cs F
 | .lit x,cs,F,h,_,_,_,_=>h
 | .agg vs,cs,F,h,k1,k2,k3,k4=>by simp only[R]at h ⊢;exact gB vs h k1 k2 k3 k4
 | .tup _,_,_,h,_,_,_,_=>by simp[R]at h
 | .gv _ _,_,_,h,_,_,_,_=>by simp[R]at h
 | .sl full xs,cs,F,h,k1,_,k3,_=>by
  obtain⟨hF,A,c,hc,hl,hf,hx⟩:=h;refine⟨hF,A,c,hc,hl,hf,?_⟩;rcases hx with hx | ⟨b,o,sz,flat,hA,hb,hs,hn,hr,B8⟩;exact .inl hx;exact .inr ⟨b,o,sz,flat,hA,k3 b hb,hs,hn,gB xs hr k1 Zad k3 Zad,fun j u hu=>by
   rw[<- B8 j u hu];exact World.cell?_of_block (w:=w) (k1 b hb)⟩
 | .own sz xs g o c,cs,F,h,k1,k2,k3,k4=>by
  rcases h with h | ⟨h1,h2,h3,h4,h5,h6,flat,F',cells,hF,hr,⟨e,fr,hb,hfr⟩,hsz,B8⟩;exact .inl h;subst hF
  exact .inr ⟨h1,h2,h3,h4,h5,k4 g Zad,flat,F',cells,rfl,gB xs hr k1 (fun g hg=>k2 g (by simp[hg])) k3 (fun g hg=>k4 g (by simp[hg])),
   ⟨e,fr,(k2 g Zad).trans hb,hfr⟩,hsz,B8⟩
 | .ow sz xs,cs,F,h,k1,k2,k3,k4=>by
  obtain⟨g,o,c,h⟩:=h;refine⟨g,o,c,?_⟩;rcases h with h | ⟨h1,h2,h3,h4,h5,h6,flat,F',cells,hF,hr,⟨e,fr,hb,hfr⟩,hsz,B8⟩;exact .inl h;subst hF
  exact .inr ⟨h1,h2,h3,h4,h5,k4 g Zad,flat,F',cells,rfl,gB xs hr k1 (fun g hg=>k2 g (by simp[hg])) k3 (fun g hg=>k4 g (by simp[hg])),
   ⟨e,fr,(k2 g Zad).trans hb,hfr⟩,hsz,B8⟩
 | .om es g,cs,F,h,_,k2,_,k4=>by
  obtain⟨rfl,h1,h2,h3⟩:=h;exact⟨rfl,h1,k4 g Zad,h3.iq (k2 g Zad)⟩
 | .mp es,cs,F,h,k1,_,k3,_=>by
  obtain⟨h0,g,h1,h2,h3⟩:=h;exact⟨h0,g,h1,k3 g h2,h3.iq (k1 g h2)⟩
 | .hd ..,cs,F,h,_,_,_,_=>h
 | .ptr ..,cs,F,h,_,_,_,_=>h
 | .ep v,cs,F,h,k1,_,k3,_=>by
  obtain⟨hF,b,o,flat,hc,hb,hr,B8⟩:=h;exact⟨hF,b,o,flat,hc,k3 b hb,jN v hr k1 Zad k3 Zad,fun j u hu=>by
   rw[<- B8 j u hu];exact World.cell?_of_block (w:=w) (k1 b hb)⟩
 | .c9,cs,F,h,_,_,_,_=>h
theorem gB:∀ (vs:List V) {cs F},RL w Pb vs cs F->(∀ g,Pb g->w'.heap[g]? =w.heap[g]?)->(∀ g,g∈F->w'.heap[g]? =w.heap[g]?)->
 (∀ g,Pb g->Pb' g)->(∀ g,g∈F->¬ Pb' g)->RL w' Pb' vs cs F
 | [],cs,F,h,_,_,_,_=>h
 | v::vs,cs,F,h,k1,k2,k3,k4=>by
     obtain⟨c1,c2,F1,F2,hc,rfl,h1,h2⟩:=h
     exact⟨c1,c2,F1,F2,hc,rfl,jN v h1 k1 (fun g hg=>k2 g (by simp[hg])) k3 (fun g hg=>k4 g (by simp[hg])),
      gB vs h2 k1 (fun g hg=>k2 g (by simp[hg])) k3 (fun g hg=>k4 g (by simp[hg]))⟩
end
end
structure AS where
 t:List (Nat×V)
 h:List (Nat×(Nat×V))
def lk{α:Type}(i:Nat):List (Nat×α)->Option α
 | []=>none
 | (k,v)::r=>if i=k then some v else lk i r
def AS.get(A:AS)(i:Nat):V:=(lk i A.t).getD .c9
def AS.put(A:AS)(d:Option Nat)(v:V):AS:=match d with | some d=>{ A with t:=(d,v)::A.t } | none=>A
theorem AS.bg(A:AS)(d i:Nat)(v:V):(A.put (some d) v).get i=if i=d then v else A.get i:=by
 simp only[AS.get,AS.put,lk];split <;> rfl
def RVs(w:World)(Pb:Nat->Prop):List V->List Value->List Nat->Prop
 | [],xs,F=>xs=[]/\F=[]
 | v::vs,xs,F=> ∃ x xs' F1 F2,xs=x::xs'/\F=F1++F2/\(match v with
     | .agg us=> ∃ cs,x=.agg cs/\RL w Pb us cs.toList F1
     | .c9=>F1=[]
     | v=>R w Pb v [x] F1)/\RVs w Pb vs xs' F2
def Ya(w:World)(Pb:Nat->Prop)(v:V)(x:Value)(F:List Nat):Prop:=
 match v with
 | .tup vs=> ∃ xs:Array Value,x=.tuple xs/\RVs w Pb vs xs.toList F
 | .agg us=> ∃ cs,x=.agg cs/\RL w Pb us cs.toList F
 | .c9=>F=[]
 | v=>R w Pb v [x] F
def RV(w:World)(Pb:Nat->Prop)(v:V)(x:Value)(F:List Nat):Prop:=
 match v with
 | .gv b u=>F=[]/\(b=true->Ya w Pb u x [])/\(b=false->x=undef)
 | v=>Ya w Pb v x F
theorem zb{w w':World}{Pb Pb':Nat->Prop}:∀ (vs:List V) {xs F},RVs w Pb vs xs F->(∀ g,Pb g->w'.heap[g]? =w.heap[g]?)->(∀ g,g∈F->w'.heap[g]? =w.heap[g]?)->
 (∀ g,Pb g->Pb' g)->(∀ g,g∈F->¬ Pb' g)->RVs w' Pb' vs xs F
 | [],_,_,h,_,_,_,_=>h
 | v::vs,xs,F,h,k1,k2,k3,k4=>by
   obtain⟨x,xs',F1,F2,hx,rfl,h1,h2⟩:=h;refine⟨x,xs',F1,F2,hx,rfl,?_,zb vs h2 k1 (fun g hg=>k2 g (by simp[hg])) k3 (fun g hg=>k4 g (by simp[hg]))⟩;cases v with
   | agg us=>obtain⟨cs,e,h1⟩:=h1;exact⟨cs,e,gB us h1 k1 (fun g hg=>k2 g (by simp[hg])) k3 (fun g hg=>k4 g (by simp[hg]))⟩
   | c9=>exact h1
   | _=>exact jN _ h1 k1 (fun g hg=>k2 g (by simp[hg])) k3 (fun g hg=>k4 g (by simp[hg]))
theorem iW{w w':World} {Pb Pb':Nat->Prop} (v:V) {x F} (h:Ya w Pb v x F) (k1:∀ g,Pb g->w'.heap[g]? =w.heap[g]?) (k2:∀ g,g∈F->w'.heap[g]? =w.heap[g]?)
 (k3:∀ g,Pb g->Pb' g) (k4:∀ g,g∈F->¬ Pb' g):Ya w' Pb' v x F:=by
 cases v with
 | tup vs=>obtain⟨xs,e,h⟩:=h;exact⟨xs,e,zb vs h k1 k2 k3 k4⟩
 | agg us=>obtain⟨cs,e,h⟩:=h;exact⟨cs,e,gB us h k1 k2 k3 k4⟩
 | c9=>exact h
 | _=>exact jN _ h k1 k2 k3 k4
theorem qI{w w':World} {Pb Pb':Nat->Prop} (v:V) {x F} (h:RV w Pb v x F) (k1:∀ g,Pb g->w'.heap[g]? =w.heap[g]?) (k2:∀ g,g∈F->w'.heap[g]? =w.heap[g]?)
 (k3:∀ g,Pb g->Pb' g) (k4:∀ g,g∈F->¬ Pb' g):RV w' Pb' v x F:=by
 cases v with
 | gv b u=>obtain⟨hF,h1,h2⟩:=h;exact⟨hF,fun hb=>iW u (h1 hb) k1 Zad k3 Zad,h2⟩
 | tup vs=>exact iW (.tup vs) h k1 k2 k3 k4
 | agg us=>exact iW (.agg us) h k1 k2 k3 k4
 | c9=>exact h
 | own sz xs g o c=>exact iW (.own sz xs g o c) h k1 k2 k3 k4
 | ow sz xs=>exact iW (.ow sz xs) h k1 k2 k3 k4
 | om es g=>exact iW (.om es g) h k1 k2 k3 k4
 | mp es=>exact iW (.mp es) h k1 k2 k3 k4
 | lit x=>exact iW (.lit x) h k1 k2 k3 k4
 | sl f xs=>exact iW (.sl f xs) h k1 k2 k3 k4
 | hd r p sz g o lo n c=>exact iW (.hd r p sz g o lo n c) h k1 k2 k3 k4
 | ptr r p g o=>exact iW (.ptr r p g o) h k1 k2 k3 k4
 | ep v=>exact iW (.ep v) h k1 k2 k3 k4
def Shp(w w':World):Prop:= ∀ (g:Nat) (c:Array Value) (e:TypeId) (fr:Nat×Nat),w.heap[g]? =some (.cells c e fr)->∃ c':Array Value,w'.heap[g]? =some (.cells c' e fr)/\c'.size=c.size
theorem Shp.refl(w:World):Shp w w:=fun _ c _ _ h=>⟨c,h,rfl⟩
theorem Shp.trans{a b c:World}(h:Shp a b)(k:Shp b c):Shp a c:=fun g x e fr hx=>by
 obtain⟨y,h1,h2⟩:=h g x e fr hx;obtain⟨z,k1,k2⟩:=k g y e fr h1;exact⟨z,k1,k2.trans h2⟩
theorem Shp.of_eq{w w':World}(h:∀ g:Nat,g<w.heap.size->w'.heap[g]? =w.heap[g]?):Shp w w':=fun g c e fr hc=>by
 have hl:g<w.heap.size:=(Zbh.1 hc).1;exact⟨c,(h g hl).trans hc,rfl⟩
structure F7 (Pb:Nat->Prop) (w w':World):Prop where
 os:w'.os=w.os
 tape:w'.tape=w.tape
 output:w'.output=w.output
 size:w.heap.size<=w'.heap.size
 block:∀ g,Pb g->w'.heap[g]? =w.heap[g]?
 shape:Shp w w'
theorem F7.refl(Pb:Nat->Prop)(w:World):F7 Pb w w:=⟨rfl,rfl,rfl,Zbc _,fun _ _=>rfl,Shp.refl _⟩
theorem F7.trans{Pb Pb':Nat->Prop}{a b c:World}(h:F7 Pb a b)(k:F7 Pb' b c)(hp:∀ g,Pb g->Pb' g):F7 Pb a c:=
 ⟨k.os.trans h.os,k.tape.trans h.tape,k.output.trans h.output,Nat.le_trans h.size k.size,fun g hg=>(k.block g (hp g hg)).trans (h.block g hg),h.shape.trans k.shape⟩
def At(w:World)(Pb:Nat->Prop)(v:V)(g o:Nat)(F:List Nat):Prop:=
 ∃ cs cells,Blk w g cells/\R w Pb v cs F/\∀ j u,cs[j]? =some u->cells[o+j]? =some u
structure C3 (N:Nat) (Pb Kb:Nat->Prop) (A:AS) (a:Act) (w:World) (F:r5->List Nat):Prop where
 size:a.tmps.size=N
 defers:a.defers=[]
 slot:∀ i,RV w Pb (A.get i) (a.tmps.getD i undef) (F (.slot i))
 root:∀ k g v,lk k A.h=some (g,v)->∃ F',F (.key k)=g::F'/\At w Pb v g 0 F'
 du:∀ r r',r≠r'->∀ g,g∈F r->g ∉ F r'
 nodup:∀ r,(F r).Nodup
 free:∀ r g,g∈F r->¬ Kb g/\g<w.heap.size
 sub:∀ g,Pb g->Kb g
 bound:∀ g,Kb g->g<w.heap.size
def Nx(N:Nat)(Pb Kb:Nat->Prop)(w:World)(K:AS->Prop)(a':Act)(w':World):Prop:=
 ∃ A' Pb' N1 F',K A'/\C3 N Pb' N1 A' a' w' F'/\(∀ g,Pb g->Pb' g)/\(∀ g,Kb g->N1 g)/\(∀ g,Pb' g->Pb g\/¬ Kb g)/\F7 Kb w w'
def dr(F:r5->List Nat)(r:r5)(l:List Nat):r5->List Nat:=fun r'=>if r'=r then l else F r'
theorem C3.put{N:Nat} {Pb Kb:Nat->Prop} {A:AS} {a:Act} {w:World} {F:r5->List Nat} (h:C3 N Pb Kb A a w F) {d:Nat} {v:V} {x:Value} {F':List Nat}
 (hd:d<N) (hv:RV w Pb v x F') (h1:∀ r,r≠.slot d->∀ g,g∈F'->g ∉ F r) (h2:F'.Nodup) (h3:∀ g,g∈F'->¬ Kb g/\g<w.heap.size):
 C3 N Pb Kb (A.put (some d) v) (a.put (some d) x) w (dr F (.slot d) F') where
 size:=by simp[Act.put,h.size]
 defers:=by simpa[Act.put] using h.defers
 slot:=fun i=>by
  rw[AS.bg];by_cases e:i=d;subst e;simp only[if_true,dr];have hx:(a.put (some i) x).tmps.getD i undef=x:=by simp[Act.put,h.size,hd]
  rw[hx];exact hv;have hne:r5.slot i≠r5.slot d:=fun c=>e (by injection c);simp only[if_neg e,dr,if_neg hne];have hx:(a.put (some d) x).tmps.getD i undef=a.tmps.getD i undef:=by
   simp[Act.put,Array.getElem?_setIfInBounds_ne (Ne.symm e)]
  rw[hx];exact h.slot i
 root:=fun k g v hk=>by
  obtain⟨Rz,e,hr⟩:=h.root k g v hk;exact⟨Rz,by simpa[dr] using e,hr⟩
 du:=fun r r' hne g hg=>by
  simp only[dr]at hg ⊢;by_cases e:r=.slot d;subst e;rw[if_neg (Ne.symm hne)];simp only[if_true]at hg;exact h1 r' (Ne.symm hne) g hg;rw[if_neg e]at hg;by_cases e':r'=.slot d;rw[if_pos e'];exact fun TJ=>h1 r e g TJ hg;rw[if_neg e'];exact h.du r r' hne g hg
 nodup:=fun r=>by
  simp only[dr];split;exact h2;exact h.nodup r
 free:=fun r g hg=>by
  simp only[dr]at hg;split at hg;exact h3 g hg;exact h.free r g hg
 sub:=h.sub
 bound:=h.bound
def dP(N:Nat)(d:Option Nat):Prop:=match d with | some d=>d<N | none=>True
theorem C3.uc{N:Nat} {Pb Kb:Nat->Prop} {A:AS} {a:Act} {w:World} {F:r5->List Nat} (h:C3 N Pb Kb A a w F) {d:Option Nat} {v:V} {x:Value}
 (hd:dP N d) (hv:RV w Pb v x []):∃ F',C3 N Pb Kb (A.put d v) (a.put d x) w F':=by
 cases d with
 | none=>exact⟨F,h⟩
 | some d=>exact⟨_,h.put hd hv Zad Zad Zad⟩
def N'(P:Program)(N:Nat)(o:Oper)(A:AS)(K:AS->Prop):Prop:=
 ∀ Pb Kb a w F Q,C3 N Pb Kb A a w F->o.wp P a w (Nx N Pb Kb w K) Q
theorem mn{P:Program} {N:Nat} {o:Oper} {A:AS} {K:AS->Prop} {v:V} (hd:dP N o.dst) (hK:K (A.put o.dst v))
 (h:∀ Pb Kb a w F,C3 N Pb Kb A a w F->∃ x,(execOp a.eval o).run P w=.ok (.value x) w/\RV w Pb v x []):N' P N o A K:=by
 intro Pb Kb a w F Q hs;obtain⟨x,hx,hr⟩:=h Pb Kb a w F hs;unfold Oper.wp;rw[hx,Oper.upon_value];obtain⟨F',H4⟩:=hs.uc hd hr;exact⟨_,Pb,Kb,F',hK,H4,fun _ h=>h,fun _ h=>h,fun _ h=>.inl h,F7.refl _ _⟩
inductive D where
 | int (k:IntKind) | bool | str | ptr (e:Nat) | sl (e:Nat) | arr (n e:Nat) | map (k e:Nat) | st (fs:List (Nat×Nat)) | other
 deriving DecidableEq
structure TI where
 sz:Nat
 QD:Nat
 d:D
def fa:TypeDesc->D
 | .int k=>.int k | .bool=>.bool | .string=>.str | .pointer e=>.ptr e | .slice e=>.sl e | .array n e=>.arr n e | .map k e=>.map k e
 | .struct fs=>.st (fs.toList.map fun f=>(f.offset,f.type))
 | _=>.other
def ti(P:Program)(T:Nat):Option TI:=match P.info? T,P.underlying T with | some i,some d=>some ⟨i.size,i.bytes,fa d⟩ | _,_=>none
def D.agg:D->Bool | .st _ | .arr _ _=>true | _=>false
theorem mH{P:Program}{T:Nat}{i:TI}(h:ti P T=some i):∃ inf d,P.info? T=some inf/\P.underlying T=some d/\inf.size=i.sz/\inf.bytes=i.QD/\fa d=i.d:=by
 unfold ti at h;cases h1:P.info? T with
 | none=>simp[h1]at h
 | some inf=>cases h2:P.underlying T with
   | none=>simp[h1,h2]at h
   | some d=>simp[h1,h2]at h;subst h;exact⟨inf,d,rfl,rfl,rfl,rfl,rfl⟩
def W2:Value->V
 | .slice none 0 0=>.sl true []
 | x=>.lit x
def cV:Value->V
 | .agg cs=>if cs.toList.all (·.oneCell') then .agg (cs.toList.map W2) else .c9
 | .tuple _=>.c9
 | x=>W2 x
def AS.ev(A:AS):Operand->V
 | .tmp i=>A.get i
 | .const v=>cV v
 | .global g=>.ptr (.key (9000+g)) [] g 0
 | .func f=>.lit (.func (.func f) #[] #[])
mutual
def V.U2(r:r5)(p:List Nat):V->V
 | .own sz xs g o c=>.hd r p sz g o 0 xs.length c
 | .ow .. =>.c9
 | .om _ g=>.lit (.map (some g))
 | .agg vs=>.agg (V.Kf r p 0 vs)
 | v=>v
def V.Kf(r:r5)(p:List Nat)(j:Nat):List V->List V
 | []=>[]
 | v::vs=>v.U2 r (p++[j])::V.Kf r p (j+1) vs
end
mutual
def V.eE:V->Bool
 | .own .. =>true
 | .ow .. =>true
 | .om .. =>true
 | .agg vs=>V.aK vs
 | .tup vs=>V.aK vs
 | _=>false
def V.aK:List V->Bool
 | []=>false
 | v::vs=>v.eE||V.aK vs
end
def V.cp(r:r5):V->V
 | .tup _=>.c9
 | .gv _ _=>.c9
 | v=>v.U2 r []
def Gz(A:AS)(x:Operand)(y:V):V:=
 match A.ev x with
 | .tup vs=>if V.aK vs=true then .c9 else .tup vs
 | _=>y
def AS.cp(A:AS):Operand->V
 | .tmp i=>(A.get i).cp (.slot i)
 | x=>A.ev x
def nv(op:BinOp)(k:IntKind)(a b:Int):Option (Prop×V):=
 match op with
 | .add=>some (True,.lit (.int k (k.wrap (a+b))))
 | .sub=>some (True,.lit (.int k (k.wrap (a-b))))
 | .mul=>some (True,.lit (.int k (k.wrap (a*b))))
 | .quo=>some (b≠0,.lit (.int k (k.wrap (a.tdiv b))))
 | .rem=>some (b≠0,.lit (.int k (a.tmod b)))
 | .eql=>some (True,.lit (.bool (a==b)))
 | .neq=>some (True,.lit (.bool (a != b)))
 | .lss=>some (True,.lit (.bool (decide (a<b))))
 | .leq=>some (True,.lit (.bool (decide (a<=b))))
 | .gtr=>some (True,.lit (.bool (decide (a>b))))
 | .geq=>some (True,.lit (.bool (decide (a>=b))))
 | .and=>some (True,.lit (.int k (k.wrap ((BitVec.ofInt k.bits a &&& BitVec.ofInt k.bits b).toNat))))
 | .xor=>some (True,.lit (.int k (k.wrap ((BitVec.ofInt k.bits a ^^^ BitVec.ofInt k.bits b).toNat))))
 | .shr=>some (0<=b,.lit (.int k (a.fdiv (2 ^ min b.toNat k.bits))))
 | .shl=>some (0<=b,.lit (.int k (k.wrap (a*2 ^ min b.toNat k.bits))))
 | _=>none
def UU(k:IntKind)(n:Int):Prop:=
 match k with
 | .i64=> -9223372036854775808<=n/\n<=9223372036854775807
 | .i32=> -2147483648<=n/\n<=2147483647
 | .u8=>0<=n/\n<=255
 | k=>k.wrap n=n
def AX(op:BinOp)(k:IntKind)(a b:Int):Option (Prop×V):=
 match op with
 | .add=>some (UU k (a+b),.lit (.int k (a+b)))
 | .sub=>some (UU k (a-b),.lit (.int k (a-b)))
 | .mul=>some (UU k (a*b),.lit (.int k (a*b)))
 | .quo=>some (0<=a/\0<b/\UU k a,.lit (.int k (a / b)))
 | .rem=>some (0<=a/\0<b,.lit (.int k (a % b)))
 | .and=>some (0<=a/\0<=b/\UU k a/\UU k b,.lit (.int k ((a.toNat &&& b.toNat:Nat):Int)))
 | .xor=>some (0<=a/\0<=b/\UU k a/\UU k b,.lit (.int k ((a.toNat ^^^ b.toNat:Nat):Int)))
 | .shr=>some (0<=b/\b<k.bits,.lit (.int k (a.fdiv (2 ^ b.toNat))))
 | op=>nv op k a b
def By(op:BinOp)(a b:ByteArray):Option (Prop×V):=
 match op with
 | .add=>some (a.size+b.size<=4611686018427387904,.lit (.string (a++b)))
 | .eql=>some (True,.lit (.bool (a.toList==b.toList)))
 | .neq=>some (True,.lit (.bool (!(a.toList==b.toList))))
 | _=>none
def Gv(op:BinOp)(a b:Bool):Option (Prop×V):=
 match op with
 | .eql=>some (True,.lit (.bool (a==b)))
 | .neq=>some (True,.lit (.bool (!(a==b))))
 | _=>none
def zh(op:BinOp)(d:Option D)(x y:V):Option (Prop×V):=
 match d,x,y with
 | some (.int _),.lit (.int k a),.lit (.int k' b)=>if op=.shr\/op=.shl then AX op k a b else if k=k' then AX op k a b else none
 | some .str,.lit (.string a),.lit (.string b)=>By op a b
 | some .bool,.lit (.bool a),.lit (.bool b)=>Gv op a b
 | _,_,_=>none
def unV(op:UnOp)(x:V):Option (Prop×V):=
 match op,x with
 | .not,.lit (.bool b)=>some (True,.lit (.bool (!b)))
 | .neg,.lit (.int k n)=>some (UU k (-n),.lit (.int k (-n)))
 | _,_=>none
def tD(P:Program)(T:Nat):Option D:=(ti P T).map (·.d)
def gvS:V->Bool×V
 | .gv b v=>(b,v)
 | v=>(true,v)
def GF(A:AS)(a b:Operand):V->Option (Prop×V)
 | .lit (.bool c)=>match gvS (A.ev a),gvS (A.ev b) with
   | (ga,.lit (.bool x)),(gb,.lit (.bool y))=>some ((c=true->ga=true)/\(c=false->gb=true),.lit (.bool (cond c x y)))
   | _,_=>none
 | _=>none
def KV:Option D->Option D->V->Option (Prop×V)
 | some (.int _),some (.int k),.lit (.int _ n)=>some (UU k n,.lit (.int k n))
 | some .str,some .str,.lit (.string s)=>some (True,.lit (.string s))
 | _,_,_=>none
def btV(s:ByteArray)(i:Int):V:=.lit (.int .u8 (s.data.getD i.toNat 0).toNat)
def JY:Option D->V->V->Option (Prop×V)
 | some .str,.lit (.string s),.lit (.int _ i)=>some (0<=i/\i<s.size,btV s i)
 | _,_,_=>none
def Yl:Option V->Option Int
 | none=>some 0
 | some (.lit (.int _ l))=>some l
 | _=>none
def XL(n:Nat):Option V->Option Int
 | none=>some n
 | some (.lit (.int _ l))=>some l
 | _=>none
def Kd(s:ByteArray)(lo hi:Option V):Option (Prop×V):=
 match Yl lo,XL s.size hi with
 | some l,some h=>some (0<=l/\l<=h/\h<=s.size,.lit (.string (s.extract l.toNat h.toNat)))
 | _,_=>none
def Gq(d:Option D)(x:V)(lo hi:Option V):Option (Prop×V):=
 match d,x with
 | some .str,.lit (.string s)=>Kd s lo hi
 | _,_=>none
def DG:Option D->V->Option (Prop×V)
 | some .str,.lit (.string s)=>some (True,.lit (.int .i64 s.size))
 | some (.sl _),.sl _ xs=>some (True,.lit (.int .i64 xs.length))
 | some (.sl _),.own _ xs _ _ _=>some (True,.lit (.int .i64 xs.length))
 | some (.sl _),.hd _ _ _ _ _ _ n _=>some (True,.lit (.int .i64 n))
 | _,_=>none
def JI:V->Nat->Option (Prop×V)
 | .tup vs,i=>match vs[i]? with
   | some v=>if v.eE then none else some (True,v)
   | none=>none
 | _,_=>none
def Ho:V->V->Option (Prop×V)
 | .lit (.int k a),.lit (.int k' b)=>if k=k' then some (True,.lit (.int k (max a b))) else none
 | _,_=>none
def Ak(P:Program)(A:AS)(c:Call):Option (Prop×V):=
 match c.callee with
 | .builtin .len=>match c.args.toList,c.argTypes.toList with
   | [x],[T]=>DG (tD P T) (A.ev x)
   | _,_=>none
 | .builtin .max=>match c.args.toList with
   | [x,y]=>Ho (A.ev x) (A.ev y)
   | _=>none
 | _=>none
def Tf(P:Program)(A:AS):Op->Option (Prop×V)
 | .move x=>some (True,Gz A x (A.cp x))
 | .pick c a b=>GF A a b (A.ev c)
 | .binOp op T x y _=>zh op (tD P T) (A.ev x) (A.ev y)
 | .unOp op _ x=>unV op (A.ev x)
 | .convert s d x=>KV (tD P s) (tD P d) (A.ev x)
 | .index T x i=>JY (tD P T) (A.ev x) (A.ev i)
 | .slice T x lo hi none=>Gq (tD P T) (A.ev x) (lo.map A.ev) (hi.map A.ev)
 | .call c=>Ak P A c
 | .extract x i=>JI (A.ev x) i
 | _=>none
section
variable {w:World} {Pb:Nat->Prop}
mutual
theorem nY(r:r5):∀ (v:V) (p:List Nat) {cs F},R w Pb v cs F->R w Pb (v.U2 r p) cs []
 | .own sz xs g o c,p,cs,F,h=>by
   rcases h with ⟨h1,h2,h3,A,h4⟩ | ⟨h1,h2,h3,h4,_⟩;subst h1 h2;exact⟨rfl,Zbc _,A,h4,fun h=>absurd h Zac⟩;exact⟨rfl,h3,_,h4,fun _=>by simp⟩
 | .ow ..,_,_,_,h=>by
   obtain⟨g,o,c,h⟩:=h;rcases h with ⟨h1,h2,h3,A,h4⟩ | ⟨h1,h2,h3,h4,_⟩;exact⟨rfl,_,h4,rfl⟩;exact⟨rfl,_,h4,rfl⟩
 | .om ..,_,_,_,h=>⟨rfl,h.2.1,rfl⟩
 | .mp ..,_,_,_,h=>⟨rfl,h.2⟩
 | .agg vs,p,cs,F,h=>by simp only[R,V.U2]at h ⊢;exact DS r vs p 0 h
 | .tup _,_,_,_,h=>by simp[R]at h
 | .gv _ _,_,_,_,h=>by simp[R]at h
 | .lit x,_,_,_,h=>⟨h.1,h.2.1,rfl⟩
 | .sl ..,_,_,_,h=>⟨rfl,h.2⟩
 | .hd ..,_,_,_,h=>⟨rfl,h.2⟩
 | .ptr ..,_,_,_,h=>⟨rfl,h.2⟩
 | .ep _,_,_,_,h=>⟨rfl,h.2⟩
 | .c9,_,_,_,h=>⟨rfl,h.2⟩
theorem DS(r:r5):∀ (vs:List V) (p:List Nat) (j:Nat) {cs F},RL w Pb vs cs F->RL w Pb (V.Kf r p j vs) cs []
 | [],_,_,_,_,h=>⟨h.1,rfl⟩
 | v::vs,p,j,cs,F,h=>by
   obtain⟨c1,c2,F1,F2,rfl,_,h1,h2⟩:=h;exact⟨c1,c2,[],[],rfl,rfl,nY r v _ h1,DS r vs p (j+1) h2⟩
end
mutual
theorem mb:∀ (v:V) {cs F},v.eE=false->R w Pb v cs F->F=[]
 | .own ..,_,_,ho,_=>by simp[V.eE]at ho
 | .ow ..,_,_,ho,_=>by simp[V.eE]at ho
 | .om ..,_,_,ho,_=>by simp[V.eE]at ho
 | .mp ..,_,_,_,h=>h.1
 | .agg vs,_,_,ho,h=>by simp only[R]at h;exact jD vs (by simpa[V.eE] using ho) h
 | .tup _,_,_,_,h=>by simp[R]at h
 | .gv _ _,_,_,_,h=>by simp[R]at h
 | .lit x,_,_,_,h=>h.2.2
 | .sl ..,_,_,_,h=>h.1
 | .hd ..,_,_,_,h=>h.1
 | .ptr ..,_,_,_,h=>h.1
 | .ep _,_,_,_,h=>h.1
 | .c9,_,_,_,h=>h.1
theorem jD:∀ (vs:List V) {cs F},V.aK vs=false->RL w Pb vs cs F->F=[]
 | [],_,_,_,h=>h.2
 | v::vs,_,_,ho,h=>by
   obtain⟨c1,c2,F1,F2,_,rfl,h1,h2⟩:=h;simp only[V.aK,Bool.or_eq_false_iff]at ho;rw[mb v ho.1 h1,jD vs ho.2 h2];rfl
end
theorem yj:∀ (vs:List V) {xs F},V.aK vs=false->RVs w Pb vs xs F->F=[]
 | [],_,_,_,h=>h.2
 | v::vs,_,_,ho,h=>by
   obtain⟨x,xs',F1,F2,_,rfl,h1,h2⟩:=h;simp only[V.aK,Bool.or_eq_false_iff]at ho;rw[yj vs ho.2 h2];cases v with
   | agg us=>obtain⟨cs,_,h1⟩:=h1;rw[jD us (by simpa[V.eE] using ho.1) h1];rfl
   | c9=>rw[h1];rfl
   | tup _=>simp[R]at h1
   | gv _ _=>simp[R]at h1
   | _=>rw[mb _ ho.1 h1];rfl
theorem NZ{v:V}{x:Value}{F:List Nat}(r:r5)(h:RV w Pb v x F):RV w Pb (v.cp r) x []:=by
 cases v with
 | tup _=>rfl
 | gv _ _=>rfl
 | agg us=>obtain⟨cs,e,h⟩:=h;exact⟨cs,e,DS r us [] 0 h⟩
 | c9=>rfl
 | own sz xs g o c=>exact nY (w:=w) (Pb:=Pb) r (.own sz xs g o c) [] h
 | ow sz xs=>rfl
 | om es g=>exact nY (w:=w) (Pb:=Pb) r (.om es g) [] h
 | mp es=>exact nY (w:=w) (Pb:=Pb) r (.mp es) [] h
 | lit x=>exact nY (w:=w) (Pb:=Pb) r (.lit x) [] h
 | sl f xs=>exact nY (w:=w) (Pb:=Pb) r (.sl f xs) [] h
 | hd r' p sz g o lo n c=>exact nY (w:=w) (Pb:=Pb) r (.hd r' p sz g o lo n c) [] h
 | ptr r' p g o=>exact nY (w:=w) (Pb:=Pb) r (.ptr r' p g o) [] h
 | ep v=>exact nY (w:=w) (Pb:=Pb) r (.ep v) [] h
theorem Ld{x:Value}(h:x.oneCell'=true):R w Pb (W2 x) [x] []:=by
 unfold W2;split;exact⟨rfl,none,0,rfl,Zbc _,fun _=>rfl,.inl rfl⟩;exact⟨h,rfl,rfl⟩
theorem HA:∀ (l:List Value),l.all (·.oneCell')=true->RL w Pb (l.map W2) l []
 | [],_=>⟨rfl,rfl⟩
 | x::l,h=>by
   simp only[List.all_cons,Zao]at h;exact⟨[x],l,[],[],rfl,rfl,Ld h.1,HA l h.2⟩
theorem xc(x:Value):RV w Pb (cV x) x []:=by
 cases x with
 | agg cs=>
   unfold cV;by_cases h:cs.toList.all (·.oneCell')=true;simp only[h,if_true];exact⟨cs,rfl,HA _ h⟩;simp only[h];rfl
 | tuple _=>rfl
 | slice a n c=>
   have h:=Ld (w:=w) (Pb:=Pb) (x:=.slice a n c) rfl;unfold cV;simp only;revert h;unfold W2;split <;> exact fun h=>h
 | _=>exact⟨rfl,rfl,rfl⟩
variable {N:Nat} {Kb:Nat->Prop} {A:AS} {a:Act} {F:r5->List Nat}
theorem fv(h:C3 N Pb Kb A a w F)(x:Operand):∃ Fx,RV w Pb (A.ev x) (a.eval x) Fx:=by
 cases x with
 | tmp i=>exact⟨_,h.slot i⟩
 | const v=>exact⟨[],xc v⟩
 | global g=>exact⟨[],rfl,rfl⟩
 | func f=>exact⟨[],rfl,rfl,rfl⟩
theorem dj(h:C3 N Pb Kb A a w F){x:Operand}{y:Value}(e:A.ev x=.lit y):a.eval x=y:=by
 obtain⟨Fx,hr⟩:=fv h x;rw[e]at hr;have:=hr.2.1;simpa using this
theorem vb(h:C3 N Pb Kb A a w F)(x:Operand):RV w Pb (A.cp x) (a.eval x) []:=by
 cases x with
 | tmp i=>exact NZ (.slot i) (h.slot i)
 | const v=>exact xc v
 | global g=>exact⟨rfl,rfl⟩
 | func f=>exact⟨rfl,rfl,rfl⟩
variable {P:Program}
theorem bz{T:Nat}{d:TypeDesc}(h:P.underlying T=some d):(underlying T).run P w=.ok d w:=by
 simp[underlying,h]
theorem dY{T:Nat}{d:D}(h:tD P T=some d):∃ td,P.underlying T=some td/\fa td=d:=by
 unfold tD at h;cases hi:ti P T with
 | none=>simp[hi]at h
 | some i=>
   obtain⟨inf,td,_,h2,_,_,h5⟩:=mH hi;simp[hi]at h;exact⟨td,h2,h5.trans h⟩
theorem xS(op:BinOp)(T:Nat)(x y:Operand){u v:Value}(hu:∀ cs,u≠.agg cs)(hn:u≠.nilIface):(eqGuard op T x y u v).run P w=.ok () w:=by
 unfold eqGuard;cases op <;> first | rfl | (cases u <;> first | (exact absurd rfl hn) | (exact absurd rfl (hu _)) | rfl)
theorem Kj{op:BinOp}{k:IntKind}{p q:Int}{C:Prop}{v:V}(h:nv op k p q=some (C,v))(hC:C){T:Nat}(hs:op=.shr\/op=.shl->∀ yk,∃ x,(binOp op T (.int k p) (.int yk q)).run P w=.ok x w/\v=.lit x/\x.oneCell'=true):
 ∃ x,(binOp op T (.int k p) (.int k q)).run P w=.ok x w/\v=.lit x/\x.oneCell'=true:=by
 cases op <;> simp only[nv,Zan,Zaq,reduceCtorEq]at h <;> obtain⟨rfl,rfl⟩:=h
 all_goals first
  | exact hs (.inl rfl) k
  | exact hs (.inr rfl) k
  | (refine⟨_,?_,rfl,rfl⟩
     simp only[binOp,ne_eq,not_true_eq_false,if_false];first | rfl | (unfold Op.intDiv;rw[if_neg hC];rfl))
theorem Hu{op:BinOp}(ho:op=.shr\/op=.shl){k yk:IntKind}{p q:Int}{C:Prop}{v:V}(h:nv op k p q=some (C,v))(hC:C){T:Nat}:
 ∃ x,(binOp op T (.int k p) (.int yk q)).run P w=.ok x w/\v=.lit x/\x.oneCell'=true:=by
 rcases ho with rfl | rfl <;> simp only[nv,Zan,Zaq]at h <;> obtain⟨rfl,rfl⟩:=h <;>
  exact⟨_,by simp[binOp,Op.shift,Int.not_lt.2 hC],rfl,rfl⟩
theorem zB{T:Nat}(hu:P.underlying T=some .bool)(p q:Bool):(Op.equal T (.bool p) (.bool q)).run P w=.ok (p==q) w:=by
 obtain⟨n,hn⟩:∃ n,Op.maxDepth=n+1:=⟨9999,rfl⟩;unfold Op.equal;rw[hn];simp only[Op.equalIn,Za0,bz hu,Zas,Za1]
theorem pd{k:IntKind}{n:Int}(h:UU k n):k.wrap n=n:=by
 cases k <;> simp only[UU]at h <;> first | exact h | (simp only[IntKind.wrap,IntKind.bits,IntKind.signed,Bool.true_and,Bool.false_and];split <;> simp_all <;> omega)
def Zo(k:IntKind):Nat:=if k.signed then k.bits-1 else k.bits
theorem IQ(k:IntKind):2 ^ Zo k<=2 ^ k.bits:=Nat.pow_le_pow_right Zaf (by unfold Zo;split <;> omega)
theorem zy{k:IntKind}{m:Nat}(h:m<2 ^ Zo k):k.wrap (m:Int)=m:=by
 unfold IntKind.wrap;cases k <;> simp[Zo,IntKind.bits,IntKind.signed]at h ⊢ <;> omega
theorem rG{k:IntKind}{n:Int}(h:UU k n)(h0:0<=n):n.toNat<2 ^ Zo k:=by
 have hw:=pd h;obtain⟨q,rfl⟩:=Int.eq_ofNat_of_zero_le h0;unfold IntKind.wrap at hw;cases k <;> simp[IntKind.bits,IntKind.signed,Zo]at hw ⊢ <;> (try split at hw) <;> omega
theorem BA{op:BinOp}{k:IntKind}{p q:Int}{C:Prop}{v:V}(h:AX op k p q=some (C,v))(hC:C):∃ C',nv op k p q=some (C',v)/\C':=by
 cases op <;> simp only[AX,Zan,Zaq]at h
 case add=>obtain⟨rfl,rfl⟩:=h;exact⟨_,by simp only[nv,pd hC],trivial⟩
 case sub=>obtain⟨rfl,rfl⟩:=h;exact⟨_,by simp only[nv,pd hC],trivial⟩
 case mul=>obtain⟨rfl,rfl⟩:=h;exact⟨_,by simp only[nv,pd hC],trivial⟩
 case quo=>
  obtain⟨rfl,rfl⟩:=h;obtain⟨h0,h1,h2⟩:=hC;refine⟨_,?_,show q≠0 by omega⟩;have e:p.tdiv q=p / q:=Int.tdiv_eq_ediv_of_nonneg h0;have hd:0<=p / q:=Int.ediv_nonneg h0 Zac;have hle:p / q<=p:=Int.ediv_le_self _ h0;have hb:=rG h2 h0;have:=zy (k:=k) (m:=(p / q).toNat) Zac;rw[Int.toNat_of_nonneg hd]at this;simp only[nv,e,this]
 case rem=>
  obtain⟨rfl,rfl⟩:=h;obtain⟨h0,h1⟩:=hC;refine⟨_,?_,show q≠0 by omega⟩;simp only[nv,Int.tmod_eq_emod_of_nonneg h0]
 case and=>
  obtain⟨rfl,rfl⟩:=h;obtain⟨h0,h1,h2,h3⟩:=hC;refine⟨_,?_,trivial⟩;obtain⟨a,rfl⟩:=Int.eq_ofNat_of_zero_le h0;obtain⟨b,rfl⟩:=Int.eq_ofNat_of_zero_le h1;have ha:=rG h2 h0;have hb:=rG h3 h1;have hk:=IQ k;simp only[Int.toNat_natCast]at ha hb;have e:(BitVec.ofInt k.bits (a:Int) &&& BitVec.ofInt k.bits (b:Int)).toNat=a &&& b:=by
   simp only[BitVec.toNat_and,BitVec.toNat_ofInt];rw[Int.emod_eq_of_lt Zac (by exact_mod_cast Nat.lt_of_lt_of_le ha hk),Int.emod_eq_of_lt Zac (by exact_mod_cast Nat.lt_of_lt_of_le hb hk)];rfl
  have:=zy (k:=k) (m:=a &&& b) (Nat.lt_of_le_of_lt Nat.and_le_left ha);simp only[nv,e,this,Int.toNat_natCast]
 case xor=>
  obtain⟨rfl,rfl⟩:=h;obtain⟨h0,h1,h2,h3⟩:=hC;refine⟨_,?_,trivial⟩;obtain⟨a,rfl⟩:=Int.eq_ofNat_of_zero_le h0;obtain⟨b,rfl⟩:=Int.eq_ofNat_of_zero_le h1;have ha:=rG h2 h0;have hb:=rG h3 h1;have hk:=IQ k;simp only[Int.toNat_natCast]at ha hb;have e:(BitVec.ofInt k.bits (a:Int) ^^^ BitVec.ofInt k.bits (b:Int)).toNat=a ^^^ b:=by
   simp only[BitVec.toNat_xor,BitVec.toNat_ofInt];rw[Int.emod_eq_of_lt Zac (by exact_mod_cast Nat.lt_of_lt_of_le ha hk),Int.emod_eq_of_lt Zac (by exact_mod_cast Nat.lt_of_lt_of_le hb hk)];rfl
  have:=zy (k:=k) (m:=a ^^^ b) (Nat.xor_lt_two_pow ha hb);simp only[nv,e,this,Int.toNat_natCast]
 case shr=>
  obtain⟨rfl,rfl⟩:=h;obtain⟨h1,h2⟩:=hC;refine⟨_,?_,h1⟩;have:min q.toNat k.bits=q.toNat:=Zac;simp only[nv,this]
 all_goals exact⟨_,h,hC⟩
theorem JE{op:BinOp}{x y:V}{C:Prop}{v:V}{T:Nat}(h:zh op (tD P T) x y=some (C,v))(hC:C):
 ∃ u u',x=.lit u/\y=.lit u'/\(∀ cs,u≠.agg cs)/\u≠.nilIface/\∃ z,(binOp op T u u').run P w=.ok z w/\v=.lit z/\z.oneCell'=true:=by
 unfold zh at h;split at h;rename_i k p k' q _;refine⟨_,_,rfl,rfl,Zad,Zad,?_⟩;split at h;rename_i ho;obtain⟨C',h',hC'⟩:=BA h hC;exact Hu ho h' hC';rename_i ho;split at h;rename_i hk;subst hk;obtain⟨C',h',hC'⟩:=BA h hC;exact Kj h' hC' (fun h=>absurd h ho);simp at h;rename_i p q _;refine⟨_,_,rfl,rfl,Zad,Zad,?_⟩;cases op <;> simp only[By,Zan,Zaq,reduceCtorEq]at h <;> obtain⟨rfl,rfl⟩:=h;refine⟨_,?_,rfl,rfl⟩;have: ¬ (((p.size+q.size:Nat):Int)>IntKind.i64.max):=by
  have:IntKind.i64.max=9223372036854775807:=Zaf;omega
 simp only[binOp,Op.stringOp,if_neg this,Za1];exact⟨_,rfl,rfl,rfl⟩;exact⟨_,rfl,rfl,rfl⟩;rename_i p q hT;refine⟨_,_,rfl,rfl,Zad,Zad,?_⟩;obtain⟨td,hu,hd⟩:=dY hT;have htd:td=.bool:=by cases td <;> simp[fa]at hd ⊢
 subst htd;cases op <;> simp only[Gv,Zan,Zaq,reduceCtorEq]at h <;> obtain⟨rfl,rfl⟩:=h;exact⟨_,by simp only[binOp,Za0,zB hu,Zas,Za1],rfl,rfl⟩;exact⟨_,by simp only[binOp,Za0,zB hu,Zas,Za1],rfl,rfl⟩;simp at h
theorem eA{x:Value}(h:x.oneCell'=true):RV w Pb (.lit x) x []:=⟨h,rfl,rfl⟩
theorem DV(h:C3 N Pb Kb A a w F){lo:Option Operand}{l:Int}(hl:Yl (lo.map A.ev)=some l):(lo=none/\l=0)\/∃ k,(lo.map a.eval)=some (.int k l):=by
 cases lo with
 | none=>simp[Yl]at hl;exact .inl ⟨rfl,hl.symm⟩
 | some x=>
   right;simp only[Option.map_some,Yl]at hl;cases hx:A.ev x with
   | lit y=>
     cases y with
     | int k l'=>rw[hx]at hl;simp at hl;subst hl;exact⟨k,by simp[dj h hx]⟩
     | _=>rw[hx]at hl;simp at hl
   | _=>rw[hx]at hl;simp at hl
theorem Bt(h:C3 N Pb Kb A a w F){n:Nat}{hi:Option Operand}{l:Int}(hl:XL n (hi.map A.ev)=some l):(hi=none/\l=n)\/∃ k,(hi.map a.eval)=some (.int k l):=by
 cases hi with
 | none=>simp[XL]at hl;exact .inl ⟨rfl,hl.symm⟩
 | some x=>
   right;simp only[Option.map_some,XL]at hl;cases hx:A.ev x with
   | lit y=>
     cases y with
     | int k l'=>rw[hx]at hl;simp at hl;subst hl;exact⟨k,by simp[dj h hx]⟩
     | _=>rw[hx]at hl;simp at hl
   | _=>rw[hx]at hl;simp at hl
theorem mD{k:IntKind}{i:Int}{y:Nat}{code:BoundsCode}(h0:0<=i)(h1:i<=y):(Instr.sliceBound (.int k i) y code).run P w=.ok i.toNat w:=by
 simp[Instr.sliceBound,asIntOf,h0,h1]
theorem oK{sl:Bool} {n c:Nat} {lo hi:Option Value} {l h:Int} (hlo:(lo=none/\l=0)\/∃ k,lo=some (.int k l)) (hhi:(hi=none/\h=n)\/∃ k,hi=some (.int k h))
 (h0:0<=l) (h1:l<=h) (h2:h<=(c:Nat)) (hn:n<=c):(Instr.sliceBounds sl n c lo hi none).run P w=.ok (l.toNat,h.toNat,c) w:=by
 have hb:(h.toNat:Int)=h:=Int.toNat_of_nonneg Zac;rcases hlo with ⟨rfl,rfl⟩ | ⟨k,rfl⟩ <;> rcases hhi with ⟨rfl,rfl⟩ | ⟨k',rfl⟩;simp[Instr.sliceBounds];simp only[Instr.sliceBounds,Za0,Za1,Zas,mD (w:=w) (P:=P) (k:=k') (code:=if sl then .sliceAcap else .sliceAlen) (show 0<=h by omega) h2];rfl;simp only[Instr.sliceBounds,Za0,Za1,Zas,Option.isSome,Bool.false_eq_true,if_false,mD (w:=w) (P:=P) (k:=k) (y:=n) (code:=.sliceB) h0 h1];rfl
 simp only[Instr.sliceBounds,Za0,Za1,Zas,Option.isSome,Bool.false_eq_true,if_false,mD (w:=w) (P:=P) (k:=k') (code:=if sl then .sliceAcap else .sliceAlen) (show 0<=h by omega) h2,
  mD (w:=w) (P:=P) (k:=k) (y:=h.toNat) (code:=.sliceB) h0 Zac]
theorem FB:∀ (vs:List V) {xs:List Value} {F:List Nat} {i:Nat} {v:V},RVs w Pb vs xs F->vs[i]? =some v->v.eE=false->∃ x,xs[i]? =some x/\RV w Pb v x []
 | [],_,_,_,_,_,h,_=>by simp at h
 | v::vs,xs,F,0,u,h,hi,ho=>by
     obtain⟨x,xs',F1,F2,rfl,rfl,h1,h2⟩:=h;simp at hi;subst hi;refine⟨x,rfl,?_⟩;cases v with
     | agg us=>obtain⟨cs,e,h1⟩:=h1;exact⟨cs,e,by rw[jD us (by simpa[V.eE] using ho) h1]at h1;exact h1⟩
     | c9=>rfl
     | tup us=>simp[R]at h1
     | gv _ _=>simp[R]at h1
     | own=>simp[V.eE]at ho
     | ow=>simp[V.eE]at ho
     | om=>simp[V.eE]at ho
     | mp=>exact⟨rfl,h1.2⟩
     | lit=>exact⟨h1.1,h1.2.1,rfl⟩
     | sl=>exact⟨rfl,h1.2⟩
     | hd=>exact⟨rfl,h1.2⟩
     | ptr=>exact⟨rfl,h1.2⟩
     | ep=>exact⟨rfl,h1.2⟩
 | v::vs,xs,F,i+1,u,h,hi,ho=>by
     obtain⟨x,xs',F1,F2,rfl,rfl,h1,h2⟩:=h;obtain⟨y,hy,hr⟩:=FB vs h2 Zbn ho;exact⟨y,by simpa using hy,hr⟩
theorem FQ{op:Op}{C:Prop}{v:V}(h:Tf P A op=some (C,v))(hC:C)(hs:C3 N Pb Kb A a w F){o:Oper}(ho:o.op=op):
 ∃ x,(execOp a.eval o).run P w=.ok (.value x) w/\RV w Pb v x []:=by
 obtain⟨dst,op',ty,pos,after,guard⟩:=o;subst ho;unfold Tf at h;split at h;rename_i x Q2;subst Q2;simp at h;obtain⟨_,rfl⟩:=h;refine⟨_,rfl,?_⟩;unfold Gz;split;rename_i vs e;obtain⟨Fx,hr⟩:=fv hs x;rw[e]at hr;split;rfl;rename_i ho;obtain⟨xs,hx,hr⟩:=hr;have hF:=yj vs (by simpa using ho) hr;subst hF;exact⟨xs,hx,hr⟩;exact vb hs x
 · rename_i c p q Q2;subst Q2;unfold GF at h;split at h
   case h_2=>simp at h
   · rename_i c' e;split at h
     case h_2=>simp at h
     rename_i ga x gb y ea eb;simp only[Zan,Zaq]at h;obtain⟨rfl,rfl⟩:=h;have ex:∀ (z:Operand) (g b:Bool),gvS (A.ev z)=(g,.lit (.bool b))->g=true->a.eval z=.bool b:=fun z g b hz hg=>by
      obtain⟨Fx,hr⟩:=fv hs z;unfold gvS at hz;split at hz;rename_i b' v' e';simp only[Zaq]at hz;obtain⟨rfl,rfl⟩:=hz;rw[e']at hr;have:=(hr.2.1 hg).2.1;simpa using this;simp only[Zaq]at hz;rw[hz.2]at hr;have:=hr.2.1;simpa using this
     simp only[execOp,dj hs e,asBool,Za0,Za1,Zas];cases c';exact⟨.bool y,by simp[ex q gb y eb (hC.2 rfl)],eA rfl⟩;exact⟨.bool x,by simp[ex p ga x ea (hC.1 rfl)],eA rfl⟩
 rename_i op T x y _ Q2;subst Q2;obtain⟨u,u',hx,hy,hu,hn,z,hz,rfl,h1⟩:=JE (w:=w) (P:=P) h hC;refine⟨z,?_,eA h1⟩;simp only[execOp,dj hs hx,dj hs hy,Za0,xS op T x y hu hn,Zas,hz,Za1];rename_i op T x Q2;subst Q2;unfold unV at h;split at h <;> simp only[Zan,Zaq,reduceCtorEq]at h;rename_i b e;obtain⟨_,rfl⟩:=h;exact⟨_,by simp only[execOp,dj hs e];rfl,eA rfl⟩;rename_i k n e;obtain⟨rfl,rfl⟩:=h;exact⟨_,by simp only[execOp,dj hs e];rw[show -n=IntKind.wrap k (0-n) by rw[Int.zero_sub];exact(pd hC).symm];rfl,eA rfl⟩;rename_i s d x Q2;subst Q2;unfold KV at h;split at h <;> simp only[Zan,Zaq,reduceCtorEq]at h;rename_i k0 k k1 n H4 XM e;obtain⟨rfl,rfl⟩:=h;obtain⟨td,hu,hd⟩:=dY H4;obtain⟨td',Yr,XM⟩:=dY XM;cases td <;> simp[fa]at hd;cases td' <;> simp[fa]at XM;subst hd XM;exact⟨.int _ (IntKind.wrap _ n),by simp only[execOp,dj hs e,convert,Za0,bz hu,bz Yr,Zas];rfl,by rw[pd hC];exact eA rfl⟩;rename_i s' H4 XM e;obtain⟨_,rfl⟩:=h;obtain⟨td,hu,hd⟩:=dY H4;obtain⟨td',Yr,XM⟩:=dY XM;cases td <;> simp[fa]at hd;cases td' <;> simp[fa]at XM;exact⟨_,by simp only[execOp,dj hs e,convert,Za0,bz hu,bz Yr,Zas];rfl,eA rfl⟩;rename_i T x i Q2;subst Q2;unfold JY at h;split at h <;> simp only[Zan,Zaq,reduceCtorEq]at h;rename_i s k i' H4 e e';obtain⟨rfl,rfl⟩:=h;obtain⟨td,hu,hd⟩:=dY H4;cases td <;> simp[fa]at hd;obtain⟨h0,h1⟩:=hC;have hlt:i'.toNat<s.size:=Zac;refine⟨.int .u8 (s.data.getD i'.toNat 0).toNat,?_,eA rfl⟩;have hg:s[i'.toNat]? =some (s.data.getD i'.toNat 0):=by
  rw[getElem?_pos s i'.toNat hlt];have WQ:i'.toNat<s.data.size:=hlt;simp only[Array.getD,dif_pos WQ];rfl
 simp only[execOp,dj hs e,dj hs e',Instr.index,asIntOf,Za0,bz hu,Za1,Zas,if_pos h0,hg];rename_i T x lo hi Q2;subst Q2;unfold Gq at h;split at h;rename_i s H4 e;unfold Kd at h;obtain⟨td,hu,hd⟩:=dY H4;cases td <;> simp[fa]at hd;split at h;rename_i l h' hl hh;simp only[Zan,Zaq]at h;obtain⟨rfl,rfl⟩:=h;obtain⟨h0,h1,h2⟩:=hC;have b1:=DV hs hl;have b2:=Bt hs hh;have b1':(lo.map a.eval=none/\l=0)\/∃ k,lo.map a.eval=some (.int k l):=b1.imp (fun⟨e,f⟩=>⟨by simp[e],f⟩) id;have b2':(hi.map a.eval=none/\h'=s.size)\/∃ k,hi.map a.eval=some (.int k h'):=b2.imp (fun⟨e,f⟩=>⟨by simp[e],f⟩) id;refine⟨_,?_,eA rfl⟩
 simp only[execOp,Instr.sliceAt,dj hs e,Za0,bz hu,Zas,Instr.slice,Option.map_none,Option.isSome,Bool.false_eq_true,if_false,Za1,
  oK (w:=w) (P:=P) (sl:=false) b1' b2' h0 h1 h2 (Zbc _)]
 simp at h;simp at h
 · rename_i c Q2;subst Q2;unfold Ak at h;split at h
   case h_3=>simp at h
   case h_2=>
    rename_i YU;split at h
    case h_2=>simp at h
    rename_i x y hargs;obtain⟨callee,args,argTypes⟩:=c;obtain rfl:callee=.builtin .max:=YU;obtain rfl:args= #[x,y]:=by rw[<- Array.toArray_toList (xs:=args)];exact Zbm _ hargs
    unfold Ho at h;split at h;rename_i k p k' q e1 e2;split at h;rename_i hk;subst hk;simp only[Zan,Zaq]at h;obtain⟨hCe,rfl⟩:=h;clear hCe;have e:(#[x,y].map a.eval)= #[.int k p,.int k q]:=by simp[dj hs e1,dj hs e2]
    exact⟨_,by simp only[execOp,resolve,invoke,builtin,Za0,Za1,Zas,e,Lib.run_max_ints],eA rfl⟩;simp at h;simp at h
   rename_i YU;split at h
   case h_2=>simp at h
   rename_i x T hargs htys;obtain⟨callee,args,argTypes⟩:=c;obtain rfl:callee=.builtin .len:=YU;obtain rfl:args= #[x]:=by rw[<- Array.toArray_toList (xs:=args)];exact Zbm _ hargs
   obtain rfl:argTypes= #[T]:=by rw[<- Array.toArray_toList (xs:=argTypes)];exact Zbm _ htys
   unfold DG at h;split at h <;> simp only[Zan,Zaq,reduceCtorEq]at h <;> (obtain⟨hCe,rfl⟩:=h;clear hCe);rename_i s H4 e;obtain⟨td,hu,hd⟩:=dY H4;cases td <;> simp[fa]at hd;exact⟨_,by simp[execOp,resolve,invoke,builtin,Builtin.len_,dj hs e,bz hu,goInt],eA rfl⟩
   all_goals
    rename_i H4 e;obtain⟨td,hu,hd⟩:=dY H4;cases td <;> simp[fa]at hd;obtain⟨Fx,hr⟩:=fv hs x;rw[e]at hr
   obtain⟨_,A',c,hc,_⟩:=hr;simp at hc;exact⟨_,Zbo,eA rfl⟩
   rcases hr with ⟨_,rfl,_,A',hc⟩ | ⟨_,_,_,hc,_⟩ <;> simp at hc <;>
    exact⟨_,Zbo,eA rfl⟩
   obtain⟨_,_,A',hc,_⟩:=hr;simp at hc;exact⟨_,Zbo,eA rfl⟩
 rename_i x i Q2;subst Q2;unfold JI at h;split at h;rename_i i _ _ vs e;split at h;rename_i v' hv;split at h;simp at h;rename_i ho;simp at h;obtain⟨_,rfl⟩:=h;obtain⟨Fx,hr⟩:=fv hs x;rw[e]at hr;obtain⟨xs,U7,hr⟩:=hr;obtain⟨x',RD,N5⟩:=FB vs hr hv (by simpa using ho);refine⟨x',?_,N5⟩;have hx'':xs[i]? =some x':=by simpa using RD
 simp only[execOp,U7,Instr.extract,hx'',Za0,Za1,Zas];simp at h;simp at h;simp at h
end
def V.at(g o:Nat)(v:V):List Nat->Option (Nat×Nat×V)
 | []=>some (g,o,v)
 | j::p=>match v with
   | .agg vs=>match vs[j]? with
     | some u=>V.at g (o+V.ns (vs.take j)) u p
     | none=>none
   | .own sz xs g' o' _=>match xs[j]? with
     | some u=>V.at g' (o'+j*sz) u p
     | none=>none
   | _=>none
def V.sub(v:V):List Nat->Option V
 | []=>some v
 | j::p=>match v with
   | .agg vs=>match vs[j]? with
     | some u=>V.sub u p
     | none=>none
   | .own _ xs _ _ _=>match xs[j]? with
     | some u=>V.sub u p
     | none=>none
   | _=>none
def AS.at(A:AS)(r:r5)(p:List Nat):Option (Nat×Nat×V):=
 match r with
 | .key k=>match lk k A.h with
   | some (g,v)=>V.at g 0 v p
   | none=>none
 | .slot i=>match A.get i,p with
   | .own sz xs g o c,j::p=>V.at 0 0 (.own sz xs g o c) (j::p)
   | _,_=>none
def AS.sub(A:AS)(r:r5)(p:List Nat):Option V:=
 match r with
 | .key k=>match lk k A.h with
   | some (_,v)=>V.sub v p
   | none=>none
 | .slot i=>match A.get i with
   | .tup _=>none
   | v=>V.sub v p
def V.isAgg:V->Bool | .agg _=>true | _=>false
section
variable {w:World} {Pb Kb:Nat->Prop}
theorem jP:∀ (vs:List V) {cs F} {j:Nat} {v:V},RL w Pb vs cs F->vs[j]? =some v->
 ∃ c F',R w Pb v c F'/\(∀ g,g∈F'->g∈F)/\∀ i u,c[i]? =some u->cs[V.ns (vs.take j)+i]? =some u
 | [],_,_,_,_,_,h=>by simp at h
 | v::vs,cs,F,0,u,h,hj=>by
   obtain⟨c1,c2,F1,F2,rfl,rfl,h1,h2⟩:=h;simp at hj;subst hj;refine⟨c1,F1,h1,by simp_all,fun i u hu=>?_⟩;simp only[List.take_zero,V.ns,Zaw];rw[Za9 (Za3.1 hu).1];exact hu
 | v::vs,cs,F,j+1,u,h,hj=>by
   obtain⟨c1,c2,F1,F2,rfl,rfl,h1,h2⟩:=h;obtain⟨c,F',hr,hF,hc⟩:=jP vs h2 Zbp;refine⟨c,F',hr,fun g hg=>by simp[hF g hg],fun i u hu=>?_⟩;have hl:=ft v h1;simp only[List.take_succ_cons,V.ns];rw[<- hl,Zbj,Za4 Zac];have e:c1.length+(V.ns (vs.take j)+i)-c1.length=V.ns (vs.take j)+i:=Zac;rw[e];exact hc i u hu
theorem fL{sz:Nat}:∀ (xs:List V) (j:Nat),aX sz xs->j<=xs.length->V.ns (xs.take j)=j*sz
 | _,0,_,_=>by simp[V.ns]
 | [],j+1,_,h=>by simp at h
 | v::vs,j+1,ha,h=>by
   simp only[List.take_succ_cons,V.ns,ha v Zad];rw[fL vs j (fun x hx=>ha x (by simp[hx])) Zbq];rw[Nat.add_mul];omega
theorem vA:∀ (p:List Nat) {v u:V} {g o g' o':Nat} {F},At w Pb v g o F->V.at g o v p=some (g',o',u)->∃ F',At w Pb u g' o' F'/\∀ x,x∈F'->x∈F
 | [],v,u,g,o,g',o',F,h,e=>by
   simp only[V.at,Zan,Zaq]at e;obtain⟨rfl,rfl,rfl⟩:=e;exact⟨F,h,fun _ h=>h⟩
 | j::p,v,u,g,o,g',o',F,h,e=>by
   simp only[V.at]at e;obtain⟨cs,cells,hb,hr,hc⟩:=h;split at e;rename_i vs;split at e;rename_i x hx;simp only[R]at hr;obtain⟨c,F',N5,hF,QC⟩:=jP vs hr hx;obtain⟨Rz,h2,hF2⟩:=vA p (v:=x) ⟨c,cells,hb,N5,fun i u hu=>by rw[Zbj];exact hc _ _ (QC i u hu)⟩ e;exact⟨Rz,h2,fun y hy=>hF y (hF2 y hy)⟩;simp at e;rename_i sz xs g1 o1 c1;split at e;rename_i x hx;rcases hr with ⟨_,rfl,_⟩ | ⟨_,_,_,_,ha,_,flat,F',x4,rfl,hr,Qn,_,QC⟩;simp at hx;obtain⟨c,Rz,N5,hF,Sp⟩:=jP xs hr hx;have hj:j<=xs.length:=Zbr
   rw[fL xs j ha hj]at Sp;obtain⟨F3,h3,hF3⟩:=vA p (v:=x) ⟨c,x4,Qn,N5,fun i u hu=>Zbs⟩ e;exact⟨F3,h3,fun y hy=>by simp[hF y (hF3 y hy)]⟩;simp at e;simp at e
theorem fP{g o:Nat}{cells:Array Value}(h:Blk w g cells):w.cell? ⟨g,o,none⟩=cells[o]? :=by
 obtain⟨e,fr,hb,_⟩:=h;simp[World.cell?,hb]
theorem fF(g o j:Nat):(⟨g,o,none⟩:Addr).add j=⟨g,o+j,none⟩:=by unfold Addr.add;split <;> simp_all
theorem Bz{P:Program}{T:Nat}{i:TI}(h:ti P T=some i):(isAgg T).run P w=.ok i.d.agg w:=by
 obtain⟨inf,d,_,h2,_,_,h5⟩:=mH h;unfold isAgg;simp only[Za0,bz h2,Zas];rw[<- h5];cases d <;> rfl
theorem ey{P:Program}{T:Nat}{i:TI}(h:ti P T=some i):(sizeOf T).run P w=.ok i.sz w:=by
 obtain⟨inf,d,h1,_,h3,_,_⟩:=mH h;simp[sizeOf,typeInfo,h1,h3]
theorem qE{P:Program} {T:Nat} {i:TI} (h:ti P T=some i) {v:V} {cs:List Value} {g o:Nat} {F} (hr:R w Pb v cs F) (hn:v.n=i.sz) (ha:i.d.agg=v.isAgg)
 (hc:∀ j u,cs[j]? =some u->w.cell? ⟨g,o+j,none⟩=some u):∃ x,(loadVar T ⟨g,o,none⟩).run P w=.ok x w/\RV w Pb v x F:=by
 unfold loadVar;simp only[Za0,Bz h,Zas];have hl:=ft v hr;cases v with
 | agg vs=>
   simp only[V.isAgg]at ha;rw[ha];simp only[if_true,Za0,ey h,Zas];rw[<- hn,<- hl,run_loadCells_list w _ cs (fun j v hv=>by rw[fF];exact hc j v hv)];exact⟨_,rfl,_,rfl,hr⟩
 | tup _=>simp[R]at hr
 | gv _ _=>simp[R]at hr
 | c9=>
   simp only[V.isAgg]at ha;rw[ha];obtain⟨hF,x,rfl,hx⟩:=hr;have:=hc 0 x rfl;simp only[Nat.add_zero]at this;exact⟨x,by simp[this],hF⟩
 | _=>
   simp only[V.isAgg]at ha;rw[ha];simp only[V.n]at hl;obtain⟨x,rfl⟩:=List.length_eq_one_iff.1 hl;have:=hc 0 x rfl;simp only[Nat.add_zero]at this;exact⟨x,by simp[this],hr⟩
end
def ou(P:Program)(d:Option D)(x:V)(j:Nat):Option (Prop×V):=
 match d with
 | some (.st fs)=>match fs[j]? with
   | some (off,T)=>match ti P T with
     | some i=>match x with
       | .ptr r p g o=>some (i.sz≠0,.ptr r (p++[j]) g (o+off))
       | .ep (.agg vs)=>match vs[j]? with
         | some v=>some (i.sz≠0/\V.ns (vs.take j)=off,.ep v)
         | none=>none
       | _=>none
     | none=>none
   | none=>none
 | _=>none
def AK(P:Program)(d:Option D)(x:V)(j:Nat):Option (Prop×V):=
 match d with
 | some (.st fs)=>match fs[j]? with
   | some (off,T)=>match ti P T with
     | some i=>match x with
       | .agg vs=>match vs[j]? with
         | some v=>some (V.ns (vs.take j)=off/\i.sz=v.n/\i.d.agg=v.isAgg,v)
         | none=>none
       | _=>none
     | none=>none
   | none=>none
 | _=>none
def oG(A:AS)(i:Option TI)(x:V):Option (Prop×V):=
 match i with
 | some i=>match x with
   | .ptr r p g o=>match A.at r p with
     | some (g',o',v)=>some (g'=g/\o'=o/\v.n=i.sz/\i.d.agg=v.isAgg,v.U2 r p)
     | none=>none
   | .ep v=>some (v.n=i.sz/\i.d.agg=v.isAgg,v)
   | _=>none
 | none=>none
def mL(P:Program)(d:Option D)(x i:V):Option (Prop×V):=
 match d,i with
 | some (.sl e),.lit (.int _ i)=>match ti P e with
   | some t=>match x with
     | .sl _ xs=>some (0<=i/\i<xs.length/\(xs.getD i.toNat .c9).n=t.sz,.ep (xs.getD i.toNat .c9))
     | .hd r p sz g o lo n _=>some (0<=i/\i<n/\sz=t.sz,.ptr r (p++[lo+i.toNat]) g (o+(lo+i.toNat)*sz))
     | _=>none
   | none=>none
 | some (.arr n e),.lit (.int _ i)=>match ti P e with
   | some t=>match x with
     | .ptr r p g o=>some (0<=i/\i<n,.ptr r (p++[i.toNat]) g (o+i.toNat*t.sz))
     | _=>none
   | none=>none
 | _,_=>none
def GL(P:Program)(d:Option D)(x:V)(lo hi:Option V):Option (Prop×V):=
 match d with
 | some (.sl e)=>match ti P e with
   | some t=>match x with
     | .sl _ xs=>match Yl lo,XL xs.length hi with
       | some l,some h=>some (0<=l/\l<=h/\h<=xs.length/\∀ x∈xs,x.n=t.sz,.sl false ((xs.take h.toNat).drop l.toNat))
       | _,_=>none
     | .hd r p sz g o Rl n c=>match Yl lo,XL n hi with
       | some l,some h=>some (0<=l/\l<=h/\h<=n/\sz=t.sz,.hd r p sz g o (Rl+l.toNat) (h.toNat-l.toNat) (c-l.toNat))
       | _,_=>none
     | _=>none
   | none=>none
 | _=>none
def qW:V->Option Value
 | .lit x=>some x
 | .ptr _ _ g o=>some (.pointer (some ⟨g,o,none⟩))
 | _=>none
def mX:List V->Option (List Value)
 | []=>some []
 | v::vs=>match qW v,mX vs with
   | some x,some xs=>some (x::xs)
   | _,_=>none
def valOf:V->Option Value
 | .agg vs=>match mX vs with
   | some xs=>some (.agg xs.toArray)
   | none=>none
 | v=>qW v
def Ok:V->Option (Prop×V)
 | .ptr r p g o=>some (True,.ptr r p g o)
 | .ep v=>some (True,.ep v)
 | _=>none
def Hr:Option TypeDesc->Bool
 | some (.interface _)=>true
 | none=>true
 | _=>false
def NK(P:Program)(T:Nat)(x:V):Option (Prop×V):=
 if Hr (P.underlying T)=true then none else match valOf x with
  | some y=>some (True,.lit (.iface T y))
  | none=>none
def zeroV(P:Program)(T:Nat):Option V:=match P.info? T with
 | some i=>i.zero.map cV
 | none=>none
def Nf(P:Program)(T:Nat)(x:V):Option (Prop×V):=
 if Hr (P.underlying T)=true then none else match x,zeroV P T with
  | .lit (.iface t v),some z=>some (True,if t=T then .tup [cV v,.lit (.bool true)] else .tup [z,.lit (.bool false)])
  | .lit .nilIface,some z=>some (True,.tup [z,.lit (.bool false)])
  | _,_=>none
def NB(fn:Fn)(a b:List V):Option (Prop×V):=match mX a,mX b with
 | some x,some y=>some (True,.lit (.func fn x.toArray y.toArray))
 | _,_=>none
def Qb(P:Program)(A:AS)(op:Op):Option (Prop×V):=
 match op with
 | .load T x=>oG A (ti P T) (A.ev x)
 | .fieldAddr T x j=>ou P (tD P T) (A.ev x) j
 | .field T x j=>AK P (tD P T) (A.cp x) j
 | .indexAddr T x i=>mL P (tD P T) (A.ev x) (A.ev i)
 | .slice T x lo hi none=>match tD P T with
   | some .str=>Gq (some .str) (A.ev x) (lo.map A.ev) (hi.map A.ev)
   | d=>GL P d (A.ev x) (lo.map A.ev) (hi.map A.ev)
 | .nilCheck x=>Ok (A.ev x)
 | .makeInterface T x=>NK P T (A.cp x)
 | .typeAssert x _ T true=>Nf P T (A.ev x)
 | .makeFunc fn a b=>NB fn (a.toList.map A.ev) (b.toList.map A.ev)
 | op=>Tf P A op
section
variable {w:World} {Pb Kb:Nat->Prop} {N:Nat} {A:AS} {a:Act} {F:r5->List Nat} {P:Program}
theorem ld(h:C3 N Pb Kb A a w F){r:r5}{p:List Nat}{g o:Nat}{v:V}(e:A.at r p=some (g,o,v)):∃ F',At w Pb v g o F':=by
 unfold AS.at at e;split at e;rename_i k;split at e;rename_i g' v' hk;obtain⟨F',_,hr⟩:=h.root k g' v' hk;obtain⟨Rz,h2,_⟩:=vA p (v:=v') (g:=g') (o:=0) hr e;exact⟨Rz,h2⟩;simp at e;rename_i i;split at e;rename_i sz xs g' o' c j p hi;have hr:=h.slot i;rw[hi]at hr;simp only[V.at]at e;split at e;rename_i x hx;rcases hr with ⟨_,rfl,_⟩ | ⟨_,_,_,_,ha,_,flat,F',x4,_,hr,Qn,_,QC⟩;simp at hx;obtain⟨c,Rz,N5,hF,Sp⟩:=jP xs hr hx;have hj:j<=xs.length:=Zbr
 rw[fL xs j ha hj]at Sp;obtain⟨F3,h3,_⟩:=vA p (v:=x) ⟨c,x4,Qn,N5,fun i u hu=>Zbs⟩ e;exact⟨F3,h3⟩;simp at e;simp at e
theorem Hv(hs:C3 N Pb Kb A a w F){T:Nat}{x:Operand}{C:Prop}{v:V}(h:oG A (ti P T) (A.ev x)=some (C,v))(hC:C):
 ∃ y,(Instr.loadAt T (a.eval x)).run P w=.ok y w/\RV w Pb v y []:=by
 unfold oG at h;split at h
 case h_2=>simp at h
 rename_i i hi;obtain⟨Fx,hr⟩:=fv hs x;split at h;rename_i r p g o e;rw[e]at hr;split at h;rename_i g' o' u G5;simp only[Zan,Zaq]at h;obtain⟨rfl,rfl⟩:=h;obtain⟨rfl,rfl,hn,ha⟩:=hC;obtain⟨F',cs,cells,hb,QQ,B8⟩:=ld hs G5;have hx:a.eval x=.pointer (some ⟨g',o',none⟩):=by have:=hr.2;simpa using this
 obtain⟨y,hy,N5⟩:=qE (w:=w) hi (nY r u p QQ) (g:=g') (o:=o') (by
  have:(u.U2 r p).n=u.n:=by
   have h1:=ft _ (nY r u p QQ);have h2:=ft _ QQ;omega
  omega) (by rw[ha];cases u <;> rfl) (fun j u hu=>by rw[fP hb];exact B8 j u hu)
 exact⟨y,by simp only[Instr.loadAt,hx,Instr.sureAddr,Za0,Za1,Zas,hy],N5⟩;simp at h;rename_i u e;rw[e]at hr;simp only[Zan,Zaq]at h;obtain⟨rfl,rfl⟩:=h;obtain⟨hn,ha⟩:=hC;obtain⟨_,b,o,flat,hx,hb,QQ,B8⟩:=hr;have hx:a.eval x=.pointer (some ⟨b,o,none⟩):=Zbt
 obtain⟨y,hy,N5⟩:=qE (w:=w) hi QQ hn ha B8;exact⟨y,by simp only[Instr.loadAt,hx,Instr.sureAddr,Za0,Za1,Zas,hy],N5⟩;simp at h
theorem Gy{T:Nat}{fs:List (Nat×Nat)}(h:tD P T=some (.st fs)):∃ fl:Array Field,P.underlying T=some (.struct fl)/\fl.toList.map (fun f=>(f.offset,f.type))=fs:=by
 obtain⟨td,hu,hd⟩:=dY h;cases td <;> simp[fa]at hd;rename_i fl;exact⟨fl,hu,hd⟩
theorem CR{fl:Array Field}{fs:List (Nat×Nat)}(h:fl.toList.map (fun f=>(f.offset,f.type))=fs){j off T:Nat}(e:fs[j]? =some (off,T)):∃ f,fl[j]? =some f/\f.offset=off/\f.type=T:=by
 subst h;simp only[List.getElem?_map]at e;cases hf:fl.toList[j]? with
 | none=>rw[hf]at e;simp at e
 | some f=>rw[hf]at e;simp at e;exact⟨f,by simpa using hf,e⟩
theorem Bh(hs:C3 N Pb Kb A a w F){T:Nat}{x:Operand}{j:Nat}{C:Prop}{v:V}(h:ou P (tD P T) (A.ev x) j=some (C,v))(hC:C):
 ∃ y,(Instr.fieldAt T (a.eval x) j).run P w=.ok y w/\RV w Pb v y []:=by
 unfold ou at h;split at h
 case h_2=>simp at h
 rename_i fs hT;split at h
 case h_2=>simp at h
 rename_i off T' hj;split at h
 case h_2=>simp at h
 rename_i i hi;obtain⟨fl,hu,hfl⟩:=Gy hT;obtain⟨f,hf,ho,ht⟩:=CR hfl hj;obtain⟨Fx,hr⟩:=fv hs x;split at h;rename_i r p g o e;rw[e]at hr;simp only[Zan,Zaq]at h;obtain⟨rfl,rfl⟩:=h;have hx:a.eval x=.pointer (some ⟨g,o,none⟩):=by have:=hr.2;simpa using this
 refine⟨.pointer (some ⟨g,o+off,none⟩),?_,rfl,rfl⟩;simp only[Instr.fieldAt,Za0,bz hu,Zas,hf,hx,Instr.sureAddr,Za1,fieldPlace,ht,ey hi,if_neg hC,ho,fF]
 · rename_i vs e;rw[e]at hr;split at h
   case h_2=>simp at h
   rename_i u Yr;simp only[Zan,Zaq]at h;obtain⟨rfl,rfl⟩:=h;obtain⟨h0,YF⟩:=hC;obtain⟨_,b,o,flat,hx,hb,QQ,B8⟩:=hr;have hx:a.eval x=.pointer (some ⟨b,o,none⟩):=Zbt
   simp only[R]at QQ;obtain⟨c,F',N5,hF,QC⟩:=jP vs QQ Yr;have Sy:F'=[]:=List.eq_nil_iff_forall_not_mem.2 fun g hg=>by simpa using hF g hg
   subst Sy;refine⟨.pointer (some ⟨b,o+off,none⟩),?_,rfl,b,o+off,c,rfl,hb,N5,fun i u hu=>by rw[<- YF,Zbj];exact B8 _ _ (QC i u hu)⟩;simp only[Instr.fieldAt,Za0,bz hu,Zas,hf,hx,Instr.sureAddr,Za1,fieldPlace,ht,ey hi,if_neg h0,ho,fF]
 simp at h
theorem GH(hs:C3 N Pb Kb A a w F){T:Nat}{x:Operand}{j:Nat}{C:Prop}{v:V}(h:AK P (tD P T) (A.cp x) j=some (C,v))(hC:C):
 ∃ y,(Instr.field T (a.eval x) j).run P w=.ok y w/\RV w Pb v y []:=by
 unfold AK at h;split at h
 case h_2=>simp at h
 rename_i fs hT;split at h
 case h_2=>simp at h
 rename_i off T' hj;split at h
 case h_2=>simp at h
 rename_i i hi;obtain⟨fl,hu,hfl⟩:=Gy hT;obtain⟨f,hf,ho,ht⟩:=CR hfl hj;have hr:=vb hs x;split at h
 case h_2=>simp at h
 rename_i vs e;rw[e]at hr;split at h
 case h_2=>simp at h
 rename_i u Yr;simp only[Zan,Zaq]at h;obtain⟨rfl,rfl⟩:=h;obtain⟨YF,hn,ha⟩:=hC;obtain⟨cs,hx,hr⟩:=hr;obtain⟨c,F',N5,hF,QC⟩:=jP vs hr Yr;have Sy:F'=[]:=List.eq_nil_iff_forall_not_mem.2 fun g hg=>by simpa using hF g hg
 subst Sy;have hl:=ft _ N5;simp only[Instr.field,Za0,bz hu,Zas,hf,hx,asAgg,Za1,part,ht,Bz hi,ho];rw[YF]at QC;cases u with
 | agg us=>
   simp only[V.isAgg]at ha;rw[ha];simp only[if_true,Za0,ey hi,Zas,Za1];refine⟨_,rfl,_,rfl,?_⟩;have hcs:(cs.extract off (off+i.sz)).toList=c:=by
    apply List.ext_getElem?;intro k;by_cases hk:k<c.length;have h1:=QC k _ (Zat hk);rw[Zat hk];simp only[Array.getElem?_toList]at h1 ⊢;rw[Array.getElem?_extract];have hlt:=(Zbh.1 h1).1;rw[if_pos Zac];exact h1;have hz:(cs.extract off (off+i.sz)).toList.length<=i.sz:=by
     rw[Array.length_toList,Array.size_extract];omega
    rw[List.getElem?_eq_none Zac,List.getElem?_eq_none Zac]
   rw[hcs];simp only[R]at N5;exact N5
 | tup _=>simp[R]at N5
 | gv _ _=>simp[R]at N5
 | c9=>
   simp only[V.isAgg]at ha;rw[ha];obtain⟨_,y,rfl,hy⟩:=N5;have h1:=QC 0 y rfl;simp only[Nat.add_zero,Array.getElem?_toList]at h1;exact⟨y,by simp[h1],rfl⟩
 | _=>
   simp only[V.isAgg]at ha;rw[ha];simp only[V.n]at hl;obtain⟨y,rfl⟩:=List.length_eq_one_iff.1 hl;have h1:=QC 0 y rfl;simp only[Nat.add_zero,Array.getElem?_toList]at h1;exact⟨y,by simp[h1],N5⟩
theorem lL{T e:Nat}(h:tD P T=some (.sl e)):P.underlying T=some (.slice e):=by
 obtain⟨td,hu,hd⟩:=dY h;cases td <;> simp[fa]at hd;subst hd;exact hu
theorem getD_some{xs:List V}{i:Nat}(h:i<xs.length):xs[i]? =some (xs.getD i .c9):=by
 simp[List.getD,Zat h]
theorem Nv{T n e:Nat}(h:tD P T=some (.arr n e)):P.underlying T=some (.array n e):=by
 obtain⟨td,hu,hd⟩:=dY h;cases td <;> simp[fa]at hd;obtain⟨rfl,rfl⟩:=hd;exact hu
theorem Bi(hs:C3 N Pb Kb A a w F){T:Nat}{x ix:Operand}{C:Prop}{v:V}(h:mL P (tD P T) (A.ev x) (A.ev ix)=some (C,v))(hC:C):
 ∃ y,(Instr.indexAt T (a.eval x) (a.eval ix)).run P w=.ok y w/\RV w Pb v y []:=by
 unfold mL at h;split at h
 case h_3=>simp at h
 case h_2=>
  rename_i n e k i hT hi;have hu:=Nv hT;split at h
  case h_2=>simp at h
  rename_i t ht;obtain⟨Fx,hr⟩:=fv hs x;split at h
  case h_2=>simp at h
  rename_i r p g o hx;rw[hx]at hr;simp only[Zan,Zaq]at h;obtain⟨rfl,rfl⟩:=h;have hv:a.eval x=.pointer (some ⟨g,o,none⟩):=by have:=hr.2;simpa using this
  refine⟨.pointer (some ⟨g,o+i.toNat*t.sz,none⟩),?_,rfl,rfl⟩;simp only[Instr.indexAt,dj hs hi,asIntOf,Za0,Za1,Zas,bz hu,hv,Instr.sureAddr,if_pos (⟨hC.1,hC.2⟩:0<=i/\i<(n:Int)),ey ht,fF]
 rename_i e k i hT hi;have hu:=lL hT;split at h
 case h_2=>simp at h
 rename_i t ht;obtain⟨Fx,hr⟩:=fv hs x;split at h;rename_i full xs hx;rw[hx]at hr;simp only[Zan,Zaq]at h;obtain⟨rfl,rfl⟩:=h;obtain⟨h0,h1,hn⟩:=hC;have hlt:i.toNat<xs.length:=Zac;obtain⟨_,A',c,hv,hl,_,hz⟩:=hr;have hv:a.eval x=.slice A' xs.length c:=by simpa using hv
 rcases hz with rfl | ⟨b,o,sz,flat,rfl,hb,_,hN,R',B8⟩;simp at hlt;obtain⟨cu,F',N5,hF,QC⟩:=jP xs R' (getD_some hlt);have Sy:F'=[]:=List.eq_nil_iff_forall_not_mem.2 fun g hg=>by simpa using hF g hg
 subst Sy;rw[fL xs _ hN Zac]at QC;have hsz:sz=t.sz:=by rw[<- hn];exact(hN _ (Za7 (getD_some hlt))).symm
 refine⟨.pointer (some ⟨b,o+i.toNat*t.sz,none⟩),?_,rfl,b,o+i.toNat*t.sz,cu,rfl,hb,N5,fun j u hu=>by rw[<- hsz,Zbj];exact B8 _ _ (QC j u hu)⟩;simp only[Instr.indexAt,dj hs hi,asIntOf,Za0,Za1,Zas,bz hu,hv,if_pos (⟨h0,h1⟩:0<=i/\i<(xs.length:Int)),ey ht,fF];rename_i r p sz g o lo n c hx;rw[hx]at hr;simp only[Zan,Zaq]at h;obtain⟨rfl,rfl⟩:=h;obtain⟨h0,h1,hn⟩:=hC;obtain⟨_,Zl,A',hv,hA⟩:=hr;have hv:a.eval x=.slice A' n c:=by simpa using hv
 obtain rfl:=hA Zac;refine⟨.pointer (some ⟨g,o+(lo+i.toNat)*sz,none⟩),?_,rfl,rfl⟩;simp only[Instr.indexAt,dj hs hi,asIntOf,Za0,Za1,Zas,bz hu,hv,if_pos (⟨h0,h1⟩:0<=i/\i<(n:Int)),ey ht,fF];subst hn;rw[Zbj,<- Nat.add_mul];simp at h
theorem tE:∀ (vs:List V) (k:Nat) {cs:List Value},RL w Pb vs cs []->∃ c':List Value,RL w Pb (vs.drop k) c' []/\∀ i u,c'[i]? =some u->cs[V.ns (vs.take k)+i]? =some u
 | vs,0,cs,h=>⟨cs,h,fun i u hu=>by simpa[V.ns] using hu⟩
 | [],k+1,cs,h=>⟨[],by simpa using⟨rfl,rfl⟩,fun i u hu=>by simp at hu⟩
 | v::vs,k+1,cs,h=>by
   obtain⟨c1,c2,F1,F2,rfl,hF,h1,h2⟩:=h;have hF2:F2=[]:=by have:=hF.symm;simp at this;exact this.2
   subst hF2;obtain⟨c',hr,hc⟩:=tE vs k h2;refine⟨c',by simpa using hr,fun i u hu=>?_⟩;have hl:=ft v h1;simp only[List.take_succ_cons,V.ns];rw[<- hl,Zbj,Za4 Zac];have e:c1.length+(V.ns (vs.take k)+i)-c1.length=V.ns (vs.take k)+i:=Zac;rw[e];exact hc i u hu
theorem tB:∀ (vs:List V) (k:Nat) {cs:List Value},RL w Pb vs cs []->∃ c':List Value,RL w Pb (vs.take k) c' []/\∀ (i:Nat) u,c'[i]? =some u->cs[i]? =some u
 | vs,0,cs,h=>⟨[],by simpa using⟨rfl,rfl⟩,fun i u hu=>by simp at hu⟩
 | [],k+1,cs,h=>⟨[],by simpa using⟨rfl,rfl⟩,fun i u hu=>by simp at hu⟩
 | v::vs,k+1,cs,h=>by
   obtain⟨c1,c2,F1,F2,rfl,hF,h1,h2⟩:=h;have Sy:=hF.symm;simp at Sy;obtain⟨rfl,rfl⟩:=Sy;obtain⟨c',hr,hc⟩:=tB vs k h2;refine⟨c1++c',⟨c1,c',[],[],rfl,rfl,h1,hr⟩,fun i u hu=>?_⟩;by_cases hi:i<c1.length;rw[Za9 hi]at hu ⊢;exact hu;rw[Za4 Zac]at hu ⊢;exact hc _ _ hu
theorem Jl(hs:C3 N Pb Kb A a w F){T:Nat}{x:Operand}{lo hi:Option Operand}{C:Prop}{v:V}(h:GL P (tD P T) (A.ev x) (lo.map A.ev) (hi.map A.ev)=some (C,v))(hC:C):
 ∃ y,(Instr.sliceAt T (a.eval x) (lo.map a.eval) (hi.map a.eval) none).run P w=.ok y w/\RV w Pb v y []:=by
 unfold GL at h;split at h
 case h_2=>simp at h
 rename_i e hT;have hu:=lL hT;split at h
 case h_2=>simp at h
 rename_i t ht;obtain⟨Fx,hr⟩:=fv hs x;split at h
 · rename_i full xs hx;rw[hx]at hr;split at h
   case h_2=>simp at h
   rename_i l h' hl hh;simp only[Zan,Zaq]at h;obtain⟨rfl,rfl⟩:=h;obtain⟨h0,h1,h2,hn⟩:=hC;have b1:(lo.map a.eval=none/\l=0)\/∃ k,lo.map a.eval=some (.int k l):=(DV hs hl).imp (fun⟨e,f⟩=>⟨by simp[e],f⟩) id;have b2:(hi.map a.eval=none/\h'=xs.length)\/∃ k,hi.map a.eval=some (.int k h'):=(Bt hs hh).imp (fun⟨e,f⟩=>⟨by simp[e],f⟩) id;obtain⟨_,A',c,hv,hlc,_,hz⟩:=hr;have hv:a.eval x=.slice A' xs.length c:=by simpa using hv
   have hlen:((xs.take h'.toNat).drop l.toNat).length=h'.toNat-l.toNat:=Zal;refine⟨.slice (if c=l.toNat then A' else A'.map (·.add (l.toNat*t.sz))) (h'.toNat-l.toNat) (c-l.toNat),?_,?_⟩;simp only[Instr.sliceAt,Instr.slice,Za0,bz hu,Zas,hv,oK (w:=w) (P:=P) (sl:=true) b1 b2 h0 h1 (show h'<=(c:Nat) by omega) hlc,ey ht,Za1];refine⟨rfl,_,c-l.toNat,by rw[hlen],Zac,Zad,?_⟩;by_cases he:h'.toNat-l.toNat=0;left;exact Za5 Zac;right;rcases hz with rfl | ⟨b,o,sz,flat,rfl,hb,hsz0,hN,R',B8⟩;simp at h2;omega;have hsz:sz=t.sz:=by
    cases xs with
    | nil=>simp at h2;omega
    | cons x0 xs=>rw[<- hn x0 Zad];exact(hN x0 Zad).symm
   obtain⟨c1,Um,R4⟩:=tB xs h'.toNat R';obtain⟨c2,Q9,V3⟩:=tE _ l.toNat Um;have UM:aX sz (xs.take h'.toNat):=fun x hx=>hN x (List.mem_of_mem_take hx);rw[fL _ _ UM Zal]at V3;rw[if_neg Zac];refine⟨b,o+l.toNat*t.sz,sz,c2,by simp[fF],hb,hsz0,fun x hx=>UM x (List.mem_of_mem_drop hx),Q9,fun j u hu=>?_⟩;rw[<- hsz,Zbj];exact B8 _ _ (R4 _ _ (V3 j u hu))
 · rename_i r p sz g o Rl n c hx;rw[hx]at hr;split at h
   case h_2=>simp at h
   rename_i l h' hl hh;simp only[Zan,Zaq]at h;obtain⟨rfl,rfl⟩:=h;obtain⟨h0,h1,h2,hn⟩:=hC;have b1:(lo.map a.eval=none/\l=0)\/∃ k,lo.map a.eval=some (.int k l):=(DV hs hl).imp (fun⟨e,f⟩=>⟨by simp[e],f⟩) id;have b2:(hi.map a.eval=none/\h'=n)\/∃ k,hi.map a.eval=some (.int k h'):=(Bt hs hh).imp (fun⟨e,f⟩=>⟨by simp[e],f⟩) id;obtain⟨_,Zl,A',hv,hA⟩:=hr;have hv:a.eval x=.slice A' n c:=by simpa using hv
   refine⟨.slice (if c=l.toNat then A' else A'.map (·.add (l.toNat*t.sz))) (h'.toNat-l.toNat) (c-l.toNat),?_,?_⟩;simp only[Instr.sliceAt,Instr.slice,Za0,bz hu,Zas,hv,oK (w:=w) (P:=P) (sl:=true) b1 b2 h0 h1 (show h'<=(c:Nat) by omega) Zl,ey ht,Za1];refine⟨rfl,Zac,_,rfl,fun hc=>?_⟩;rw[if_neg Zac,hA Zac];subst hn;simp only[Option.map_some,fF,Nat.add_mul,Zbj]
 simp at h
theorem yE{v:V}{y:Value}{cs:List Value}{F1:List Nat}(hy:qW v=some y)(h:R w Pb v cs F1):cs=[y]/\y.oneCell'=true:=by
 cases v <;> simp only[qW,Zan,reduceCtorEq]at hy;subst hy;exact⟨h.2.1,h.1⟩;subst hy;exact⟨h.2,rfl⟩
theorem CS:∀ {vs:List V} {xs cs:List Value} {F1:List Nat},mX vs=some xs->RL w Pb vs cs F1->cs=xs
 | [],xs,cs,F1,h,hr=>by simp only[mX,Zan]at h;rw[<- h,hr.1]
 | v::vs,xs,cs,F1,h,hr=>by
   simp only[mX]at h;split at h;rename_i y ys e1 e2;simp only[Zan]at h;subst h;obtain⟨c1,c2,Fa,Fb,rfl,_,h1,h2⟩:=hr;rw[(yE e1 h1).1,CS e2 h2];rfl;simp at h
theorem DC{v:V}{y x:Value}{F1:List Nat}(hy:valOf v=some y)(h:RV w Pb v x F1):x=y:=by
 cases v with
 | agg vs=>
   simp only[valOf]at hy;split at hy;rename_i xs e;simp only[Zan]at hy;obtain⟨cs,rfl,hr⟩:=h;rw[<- hy,<- CS e hr];simp at hy
 | lit z=>have:=(yE (w:=w) (Pb:=Pb) (v:=.lit z) (y:=y) (cs:=[x]) hy h).1;simpa using this
 | ptr r p g o=>have:=(yE (w:=w) (Pb:=Pb) (v:=.ptr r p g o) (y:=y) (cs:=[x]) hy h).1;simpa using this
 | _=>simp[valOf,qW]at hy
theorem wC(hs:C3 N Pb Kb A a w F):∀ (l:List Operand) {xs:List Value},mX (l.map A.ev)=some xs->l.map a.eval=xs
 | [],xs,h=>by simpa[mX] using h
 | x::l,xs,h=>by
   simp only[Zbe,mX]at h;split at h;rename_i y ys e1 e2;simp only[Zan]at h;subst h;obtain⟨Fx,hr⟩:=fv hs x;have:valOf (A.ev x)=some y:=by
    cases hv:A.ev x <;> rw[hv]at e1 <;> simp only[qW,reduceCtorEq,Zan]at e1 <;> simp[valOf,qW,e1]
   rw[Zbe,DC this hr,wC hs l e2];simp at h
theorem BY{T:Nat}(h: ¬ Hr (P.underlying T)=true):∃ d,P.underlying T=some d/\∀ m,d≠.interface m:=by
 cases e:P.underlying T with
 | none=>rw[e]at h;exact absurd rfl h
 | some d=>exact⟨d,rfl,fun m c=>by rw[e,c]at h;exact h rfl⟩
theorem AU{op:Op}{C:Prop}{v:V}(h:Qb P A op=some (C,v))(hC:C)(hs:C3 N Pb Kb A a w F){o:Oper}(ho:o.op=op):
 ∃ x,(execOp a.eval o).run P w=.ok (.value x) w/\RV w Pb v x []:=by
 unfold Qb at h;split at h;obtain⟨y,hy,hr⟩:=Hv hs h hC;exact⟨y,Zbu,hr⟩;obtain⟨y,hy,hr⟩:=Bh hs h hC;exact⟨y,Zbu,hr⟩;obtain⟨y,hy,hr⟩:=GH hs h hC;exact⟨y,Zbu,hr⟩;obtain⟨y,hy,hr⟩:=Bi hs h hC;exact⟨y,Zbu,hr⟩;rename_i T x lo hi;split at h;rename_i hT;refine FQ (op:=.slice T x lo hi none) (C:=C) (v:=v) ?_ hC hs ho;unfold Tf;simp only[hT];exact h;obtain⟨y,hy,hr⟩:=Jl hs h hC;exact⟨y,by simp only[execOp,ho,Za0,hy,Option.map_none,Zas,Za1],hr⟩;rename_i x;unfold Ok at h;obtain⟨Fx,hr⟩:=fv hs x;split at h <;> rename_i e <;> simp only[Zan,Zaq,reduceCtorEq]at h <;> obtain⟨_,rfl⟩:=h <;> rw[e]at hr;have hx:=(List.cons.inj hr.2).1;have hx:a.eval x=.pointer (some ⟨_,_,none⟩):=hx;exact⟨_,by simp only[execOp,ho,hx];rfl,⟨rfl,rfl⟩⟩;have h1:=hr.1;obtain⟨_,b,o',flat,hx,h2⟩:=hr;have hx:=(List.cons.inj hx).1;exact⟨_,by simp only[execOp,ho,hx];rfl,⟨rfl,b,o',flat,rfl,h2⟩⟩;rename_i T x;unfold NK at h;split at h;simp at h;rename_i hi;obtain⟨d,hd,hn⟩:=BY hi;split at h;rename_i y e;simp only[Zan,Zaq]at h;obtain⟨_,rfl⟩:=h;have hx:=DC e (vb hs x);refine⟨.iface T y,?_,eA rfl⟩;have:(Instr.makeInterface T (a.eval x)).run P w=.ok (.iface T y) w:=by
  rw[hx];simp only[Instr.makeInterface,Za0,bz hd,Zas];cases d <;> first | rfl | exact absurd rfl (hn _)
 simp only[execOp,ho,Za0,this,Zas,Za1];simp at h
 · rename_i x xT T;unfold Nf at h;split at h;simp at h;rename_i hi;obtain⟨d,hd,hn⟩:=BY hi;have zr:∀ z,zeroV P T=some z->∃ y,(zeroValue T).run P w=.ok y w/\RV w Pb z y []:=fun z hz=>by
    unfold zeroV at hz;split at hz;rename_i i hi;simp only[Option.map_eq_some_iff]at hz;obtain⟨y,hy,rfl⟩:=hz;exact⟨y,by simp[zeroValue,typeInfo,hi,hy],xc y⟩;simp at hz
   have tu:∀ (v1:V) (x1:Value) (b:Bool),RV w Pb v1 x1 []->((∀ us,v1≠.tup us)/\∀ b u,v1≠.gv b u)->RV w Pb (.tup [v1,.lit (.bool b)]) (.tuple #[x1,.bool b]) []:=fun v1 x1 b h1 YI=>by
    refine⟨_,rfl,x1,[.bool b],[],[],rfl,rfl,?_,.bool b,[],[],[],rfl,rfl,⟨rfl,rfl,rfl⟩,rfl,rfl⟩;cases v1 with
    | tup us=>exact absurd rfl (YI.1 us)
    | gv b u=>exact absurd rfl (YI.2 b u)
    | _=>exact h1
   have cvn:∀ y:Value,(∀ us,cV y≠.tup us)/\∀ b u,cV y≠.gv b u:=fun y=>by
    constructor <;> intros <;> unfold cV <;> repeat' split
    all_goals first | (solve | simp) | (unfold W2;split <;> simp)
   have zn:∀ z,zeroV P T=some z->(∀ us,z≠.tup us)/\∀ b u,z≠.gv b u:=fun z hz=>by
    unfold zeroV at hz;split at hz;simp only[Option.map_eq_some_iff]at hz;obtain⟨y,hy,rfl⟩:=hz;exact cvn y;simp at hz
   split at h;rename_i t v z hx hz;simp only[Zan,Zaq]at h;obtain⟨_,rfl⟩:=h;have hx:=dj hs hx;obtain⟨y,hy,ZZ⟩:=zr z hz;by_cases ht:t=T;refine⟨.tuple #[v,.bool true],?_,by rw[if_pos ht];exact tu _ _ _ (xc v) (cvn v)⟩;have:(Instr.typeAssert (a.eval x) xT T true).run P w=.ok (.tuple #[v,.bool true]) w:=by
    rw[hx];simp only[Instr.typeAssert,Za0,bz hd,Zas];cases d <;> first | exact absurd rfl (hn _) | simp[ht]
   simp only[execOp,ho,Za0,this,Zas,Za1];refine⟨.tuple #[y,.bool false],?_,by rw[if_neg ht];exact tu _ _ _ ZZ (zn z hz)⟩;have:(Instr.typeAssert (a.eval x) xT T true).run P w=.ok (.tuple #[y,.bool false]) w:=by
    rw[hx];simp only[Instr.typeAssert,Za0,bz hd,Zas];cases d <;> first | exact absurd rfl (hn _) | simp[ht,hy]
   simp only[execOp,ho,Za0,this,Zas,Za1];rename_i z hx hz;simp only[Zan,Zaq]at h;obtain⟨_,rfl⟩:=h;have hx:=dj hs hx;obtain⟨y,hy,ZZ⟩:=zr z hz;refine⟨.tuple #[y,.bool false],?_,tu _ _ _ ZZ (zn z hz)⟩;have:(Instr.typeAssert (a.eval x) xT T true).run P w=.ok (.tuple #[y,.bool false]) w:=by
    rw[hx];simp only[Instr.typeAssert,Za0,bz hd,Zas];cases d <;> first | exact absurd rfl (hn _) | simp[hy]
   simp only[execOp,ho,Za0,this,Zas,Za1];simp at h
 rename_i fn p q;unfold NB at h;split at h;rename_i xs ys e1 e2;simp only[Zan,Zaq]at h;obtain⟨_,rfl⟩:=h;refine⟨.func fn xs.toArray ys.toArray,?_,eA rfl⟩;have h1:p.map a.eval=xs.toArray:=by apply Array.ext';simpa using wC hs _ e1
 have h2:q.map a.eval=ys.toArray:=by apply Array.ext';simpa using wC hs _ e2
 simp only[execOp,ho,h1,h2];rfl;simp at h;exact FQ h hC hs ho
end
section
variable {w:World} {Pb Kb:Nat->Prop} {N:Nat} {A A':AS} {a:Act} {F:r5->List Nat} {P:Program}
theorem AY{v:V}{x:Value}{F:List Nat}(ho:v.eE=false)(h:RV w Pb v x F):F=[]:=by
 cases v with
 | tup vs=>obtain⟨xs,_,h⟩:=h;exact yj vs (by simpa[V.eE] using ho) h
 | gv _ _=>exact h.1
 | agg us=>obtain⟨cs,_,h⟩:=h;exact jD us (by simpa[V.eE] using ho) h
 | c9=>exact h
 | own sz xs g o c=>exact mb (w:=w) (Pb:=Pb) _ ho h
 | ow sz xs=>exact mb (w:=w) (Pb:=Pb) _ ho h
 | om es g=>exact mb (w:=w) (Pb:=Pb) _ ho h
 | mp es=>exact mb (w:=w) (Pb:=Pb) _ ho h
 | lit x=>exact mb (w:=w) (Pb:=Pb) _ ho h
 | sl f xs=>exact mb (w:=w) (Pb:=Pb) _ ho h
 | hd r p sz g o lo n c=>exact mb (w:=w) (Pb:=Pb) _ ho h
 | ptr r p g o=>exact mb (w:=w) (Pb:=Pb) _ ho h
 | ep v=>exact mb (w:=w) (Pb:=Pb) _ ho h
def AS.drop(A:AS):Operand->AS
 | .tmp i=>if (A.get i).eE then A.put (some i) .c9 else A
 | _=>A
def AS.le(A' A:AS):Prop:=(∀ i,A'.get i=.c9\/A'.get i=A.get i)/\(∀ k,lk k A'.h=none\/lk k A'.h=lk k A.h)
open Classical in
theorem C3.le(hs:C3 N Pb Kb A a w F)(h:A'.le A):∃ F',C3 N Pb Kb A' a w F'/\∀ r g,g∈F' r->g∈F r:=by
 refine⟨fun r=>match r with | .slot i=>if A'.get i=.c9 then [] else F (.slot i) | .key k=>if lk k A'.h=none then [] else F (.key k),?_,?_⟩;have key:∀ r g,g∈(match r with | .slot i=>if A'.get i=.c9 then [] else F (.slot i) | .key k=>if lk k A'.h=none then [] else F (.key k):List Nat)->g∈F r:=by
  intro r g hg;cases r <;> simp only at hg <;> split at hg <;> simp_all
 refine⟨hs.size,hs.defers,fun i=>?_,fun k g v hk=>?_,fun r r' hne g hg=>?_,fun r=>?_,fun r g hg=>hs.free r g (key r g hg),hs.sub,hs.bound⟩;rcases h.1 i with e | e;simp only[e,if_true];rfl;simp only;split;rename_i e';rw[e'];rfl;rw[e];exact hs.slot i;simp only;rw[if_neg (by rw[hk];simp)];rcases h.2 k with e | e;rw[e]at hk;simp at hk;rw[e]at hk;exact hs.root k g v hk;exact fun TJ=>hs.du r r' hne g (key r g hg) (key r' g TJ);cases r <;> simp only <;> split <;> first | exact Zba | exact hs.nodup _
 intro r g hg;cases r <;> simp only at hg <;> split at hg <;> simp_all
theorem C3.take(hs:C3 N Pb Kb A a w F)(x:Operand):∃ Fx F',RV w Pb (A.ev x) (a.eval x) Fx/\C3 N Pb Kb (A.drop x) a w F'/\Fx.Nodup/\
 (∀ r g,g∈Fx->g ∉ F' r)/\(∀ g,g∈Fx->¬ Kb g/\g<w.heap.size)/\(∀ r g,g∈F' r->g∈F r)/\∀ g,g∈Fx->∃ r,g∈F r:=by
 cases x with
 | tmp i=>
   by_cases ho:(A.get i).eE=true;have hn:(A.drop (.tmp i))=A.put (some i) .c9:=by simp[AS.drop,ho]
   refine⟨F (.slot i),dr F (.slot i) [],hs.slot i,?_,hs.nodup _,fun r g hg=>?_,fun g hg=>hs.free _ g hg,fun r g hg=>?_,fun g hg=>⟨_,hg⟩⟩;rw[hn];refine⟨hs.size,hs.defers,fun j=>?_,fun k g v hk=>?_,fun r r' hne g hg=>?_,fun r=>?_,fun r g hg=>?_,hs.sub,hs.bound⟩;rw[AS.bg];by_cases e:j=i;subst e;simp[dr,RV,Ya];have:r5.slot j≠r5.slot i:=fun c=>e (by injection c);simp only[if_neg e,dr,if_neg this];exact hs.slot j;obtain⟨F',e,hr⟩:=hs.root k g v hk;exact⟨F',by simpa[dr] using e,hr⟩;simp only[dr]at hg ⊢;split at hg;simp at hg;split;simp;exact hs.du r r' hne g hg;simp only[dr];split;exact Zba;exact hs.nodup r;simp only[dr]at hg;split at hg;simp at hg;exact hs.free r g hg;simp only[dr];split;simp;rename_i hne;exact hs.du _ r (Ne.symm hne) g hg;simp only[dr]at hg;split at hg;simp at hg;exact hg;have UH:(A.get i).eE=false:=by simpa using ho
   have hF:=AY UH (hs.slot i);refine⟨[],F,by have:=hs.slot i;rw[hF]at this;exact this,by simp[AS.drop,UH];exact hs,Zba,Zad,Zad,fun _ _ h=>h,Zad⟩
 | const v=>exact⟨[],F,xc v,hs,Zba,Zad,Zad,fun _ _ h=>h,Zad⟩
 | global g=>exact⟨[],F,⟨rfl,rfl⟩,hs,Zba,Zad,Zad,fun _ _ h=>h,Zad⟩
 | func f=>exact⟨[],F,⟨rfl,rfl,rfl⟩,hs,Zba,Zad,Zad,fun _ _ h=>h,Zad⟩
theorem Bp{o:Oper}{K:AS->Prop}{C:Prop}{v:V}(h:Qb P A o.op=some (C,v))(hC:C)(hd:dP N o.dst)(hK:K (A.put o.dst v)):N' P N o A K:=
 mn hd hK fun _ _ _ _ _ hs=>AU h hC hs rfl
theorem zR{o:Oper}{K:AS->Prop}{x:Operand}(ho:o.op=.assign x)(hd:dP N o.dst)(hK:K ((A.drop x).put o.dst (A.ev x))):N' P N o A K:=by
 intro Pb Kb a w F Q hs;obtain⟨Fx,F',hr,H4,hnd,C8,hfr,_⟩:=hs.take x;unfold Oper.wp;have:(execOp a.eval o).run P w=.ok (.value (a.eval x)) w:=by simp only[execOp,ho];rfl
 rw[this,Oper.upon_value];cases Q4:o.dst with
 | none=>exact⟨_,Pb,Kb,F',hK,by rw[Q4];exact H4,fun _ h=>h,fun _ h=>h,fun _ h=>.inl h,F7.refl _ _⟩
 | some d=>
   rw[Q4]at hd hK;exact⟨_,Pb,Kb,_,hK,H4.put hd hr (fun r _ g hg=>C8 r g hg) hnd hfr,fun _ h=>h,fun _ h=>h,fun _ h=>.inl h,F7.refl _ _⟩
def gd(ops:Array Oper)(o:Oper)(A:AS)(x y:Prop):Prop:=
 match o.guard with
 | none=>x
 | some (j,b)=>match ((ops[j]?).bind (·.dst)).map A.get with
   | some (.lit (.bool b'))=>if b'=b then x else y
   | some (.gv c (.lit (.bool b')))=>if (c&&(b'==b))=true then x else y
   | _=>False
def WL(P:Program)(N:Nat)(ops:Array Oper):List Oper->AS->(AS->Prop)->Prop
 | [],A,K=>K A
 | o::rest,A,K=>gd ops o A (N' P N o A fun A'=>WL P N ops rest A' K) (dP N o.dst/\∃ u,(∀ w Pb,RV w Pb u undef [])/\WL P N ops rest (A.put o.dst u) K)
theorem yY{ops:Array Oper}{o:Oper}{x y:Prop}(h:gd ops o A x y)(hs:C3 N Pb Kb A a w F):
 (Region.wanted o (yielded ops a.tmps)=true/\x)\/(Region.wanted o (yielded ops a.tmps)=false/\y):=by
 unfold gd at h;unfold Region.wanted;split at h;rename_i hg;rw[hg];exact .inl ⟨rfl,h⟩;rename_i j b hg;rw[hg];split at h;rename_i b' hd;simp only[Option.map_eq_some_iff]at hd;obtain⟨d,QR,U'⟩:=hd;have hr:=hs.slot d;rw[U']at hr;have hx:a.tmps.getD d undef=.bool b':=by have:=hr.2.1;simpa using this
 have hy:yielded ops a.tmps j=some b':=by
  unfold yielded;rw[QR];simp only[Option.bind_some];cases ht:a.tmps[d]? with
  | none=>simp[ht,undef]at hx
  | some u=>simp[ht]at hx;subst hx;rfl
 simp only[hy];split at h;rename_i e;subst e;exact .inl ⟨Zad,h⟩;rename_i e;exact .inr ⟨by simp[e],h⟩;rename_i c b' hd;simp only[Option.map_eq_some_iff]at hd;obtain⟨d,QR,U'⟩:=hd;have hr:=hs.slot d;rw[U']at hr;obtain⟨_,Um,Q9⟩:=hr;cases c with
 | false=>
   have hx:=Q9 rfl;have hy:yielded ops a.tmps j=none:=by
    unfold yielded;rw[QR];simp only[Option.bind_some];cases ht:a.tmps[d]? with
    | none=>simp
    | some u=>simp[ht]at hx;subst hx;rfl
   simp only[hy];simp only[Bool.false_and,Bool.false_eq_true,if_false]at h;exact .inr ⟨Zad,h⟩
 | true=>
   have hx:a.tmps.getD d undef=.bool b':=by have:=(Um rfl).2.1;simpa using this
   have hy:yielded ops a.tmps j=some b':=by
    unfold yielded;rw[QR];simp only[Option.bind_some];cases ht:a.tmps[d]? with
    | none=>simp[ht,undef]at hx
    | some u=>simp[ht]at hx;subst hx;rfl
   simp only[hy];simp only[Bool.true_and,Zbl]at h;split at h;rename_i e;subst e;exact .inl ⟨Zad,h⟩;rename_i e;exact .inr ⟨by simp[e],h⟩
 exact h.elim
theorem Nx.mono{K K':AS->Prop}{a':Act}{w':World}(h:Nx N Pb Kb w K a' w')(hK:∀ A,K A->K' A):Nx N Pb Kb w K' a' w':=by
 obtain⟨A',Pb',N1,F',h1,h2⟩:=h;exact⟨A',Pb',N1,F',hK _ h1,h2⟩
theorem Nx.step{K:AS->Prop} {Pb' N1:Nat->Prop} {W5:Act} {w' Wv:World} (h3:∀ g,Pb g->Pb' g) (h4:∀ g,Kb g->N1 g) (h5:∀ g,Pb' g->Pb g\/¬ Kb g) (h6:F7 Kb w w')
 (h:Nx N Pb' N1 w' K W5 Wv):Nx N Pb Kb w K W5 Wv:=by
 obtain⟨A2,Sr,SA,F2,k1,k2,k3,k4,k5,k6⟩:=h;refine⟨A2,Sr,SA,F2,k1,k2,fun g hg=>k3 g (h3 g hg),fun g hg=>k4 g (h4 g hg),fun g hg=>?_,h6.trans k6 h4⟩;rcases k5 g hg with h | h;exact h5 g h;exact .inr fun c=>h (h4 g c)
theorem wz{ops:Array Oper}{Q:Exit->Act->World->Prop}:∀ (l:List Oper) {A:AS} {K:AS->Prop} {Pb Kb:Nat->Prop} {a:Act} {w:World} {F:r5->List Nat},
 WL P N ops l A K->C3 N Pb Kb A a w F->(∀ a' w',Nx N Pb Kb w K a' w'->Q .normal a' w')->wpList P ops Q l a w
 | [],A,K,Pb,Kb,a,w,F,h,hs,hQ=>hQ _ _ ⟨A,Pb,Kb,F,h,hs,fun _ h=>h,fun _ h=>h,fun _ h=>.inl h,F7.refl _ _⟩
 | o::rest,A,K,Pb,Kb,a,w,F,h,hs,hQ=>by
   unfold wpList;rcases yY h hs with ⟨hw,h⟩ | ⟨hw,hd,u,hu,h⟩;rw[if_pos hw];refine .inl (Oper.wp_mono (K:=Nx N Pb Kb w fun A'=>WL P N ops rest A' K) ?_ (h Pb Kb a w F Q hs));intro a' w' ⟨A',Pb',N1,F',h1,h2,h3,h4,h5,h6⟩;exact wz rest h1 h2 fun W5 Wv hn=>hQ W5 Wv (Nx.step h3 h4 h5 h6 hn);rw[if_neg (by simp[hw])];obtain⟨F',H4⟩:=hs.uc (d:=o.dst) (v:=u) (x:=undef) hd (hu w Pb);exact wz rest h H4 hQ
def T(P:Program)(N:Nat)(c:Code)(A:AS)(Q:Exit->AS->Prop):Prop:=
 ∀ Pb Kb a w F,C3 N Pb Kb A a w F->c.wp P (fun e a' w'=>Nx N Pb Kb w (Q e) a' w') a w
theorem pX{c:Code}{Q Q':Exit->AS->Prop}(h:T P N c A Q)(hQ:∀ e A,Q e A->Q' e A):T P N c A Q':=
 fun Pb Kb a w F hs=>wp_mono (h Pb Kb a w F hs) fun e _ _ hn=>hn.mono (hQ e)
theorem MR{Q:Exit->AS->Prop}(h:Q .normal A):T P N .skip A Q:=
 fun Pb Kb _ _ F hs=>wp_skip ⟨A,Pb,Kb,F,h,hs,fun _ h=>h,fun _ h=>h,fun _ h=>.inl h,F7.refl _ _⟩
theorem Lr{l:Nat}{Q:Exit->AS->Prop}(h:Q .normal A):T P N (.label l) A Q:=
 fun Pb Kb _ _ F hs=>wp_label ⟨A,Pb,Kb,F,h,hs,fun _ h=>h,fun _ h=>h,fun _ h=>.inl h,F7.refl _ _⟩
theorem Nc{i:Nat}{Q:Exit->AS->Prop}(h:Q (.exit i) A):T P N (.exit i) A Q:=
 fun Pb Kb _ _ F hs=>wp_exit ⟨A,Pb,Kb,F,h,hs,fun _ h=>h,fun _ h=>h,fun _ h=>.inl h,F7.refl _ _⟩
theorem Oq{i:Nat}{Q:Exit->AS->Prop}(h:Q (.goto i) A):T P N (.goto i) A Q:=
 fun Pb Kb _ _ F hs=>wp_goto ⟨A,Pb,Kb,F,h,hs,fun _ h=>h,fun _ h=>h,fun _ h=>.inl h,F7.refl _ _⟩
theorem OJ{Q:Exit->AS->Prop}(h:Q .ret A):T P N .ret A Q:=
 fun Pb Kb _ _ F hs=>wp_ret ⟨A,Pb,Kb,F,h,hs,fun _ h=>h,fun _ h=>h,fun _ h=>.inl h,F7.refl _ _⟩
def thn(f:AS->Prop)(Q:Exit->AS->Prop):Exit->AS->Prop
 | .normal,A=>f A
 | e,A=>Q e A
theorem OE{x y:Code}{Q:Exit->AS->Prop}(h:T P N x A (thn (fun A'=>T P N y A' Q) Q)):T P N (.seq x y) A Q:=by
 intro Pb Kb a w F hs;refine wp_seq (wp_mono (h Pb Kb a w F hs) fun e a' w' hn=>?_);cases e with
 | normal=>
   obtain⟨A',Pb',N1,F',h1,h2,h3,h4,h5,h6⟩:=hn;exact wp_mono (h1 Pb' N1 a' w' F' h2) fun e _ _ hn=>Nx.step h3 h4 h5 h6 hn
 | _=>exact hn
theorem HM{c:Operand}{x y:Code}{Q:Exit->AS->Prop}{b:Bool}(hc:A.ev c=.lit (.bool b))(ht:b=true->T P N x A Q)(hf:b=false->T P N y A Q):T P N (.cond c x y) A Q:=
 fun Pb Kb a w F hs=>wp_cond_split (dj hs hc) (fun h=>ht h Pb Kb a w F hs) (fun h=>hf h Pb Kb a w F hs)
def blk(id:Nat)(Q:Exit->AS->Prop):Exit->AS->Prop
 | .exit Yn,A=>if Yn=id then Q .normal A else Q (.exit Yn) A
 | e,A=>Q e A
theorem LN{id:Nat}{c:Code}{Q:Exit->AS->Prop}(h:T P N c A (blk id Q)):T P N (.block id c) A Q:=by
 intro Pb Kb a w F hs;refine wp_block (wp_mono (h Pb Kb a w F hs) fun e a' w' hn=>?_);cases e with
 | exit Yn=>
   simp only[Exit.inBlock];have hb:∀ A,blk id Q (.exit Yn) A=if Yn=id then Q .normal A else Q (.exit Yn) A:=fun _=>rfl;by_cases e:Yn=id;rw[if_pos e];exact hn.mono fun A h=>by rw[hb,if_pos e]at h;exact h
   rw[if_neg e];exact hn.mono fun A h=>by rw[hb,if_neg e]at h;exact h
 | _=>exact hn
theorem Na{c:Code} {Q:Exit->AS->Prop} (I:Nat->AS->Prop) (n:Nat) (h0:I n A)
 (round:∀ n A,I n A->T P N c A (thn (fun A'=> ∃ m,m<n/\I m A') Q)):T P N (.loop c) A Q:=by
 have key:∀ n A (Pb Kb:Nat->Prop) a w F,I n A->C3 N Pb Kb A a w F->∀ (b:Frame) (k:List Item) (cs:List Frame),
  ∃ e a' w',Nx N Pb Kb w (Q e) a' w'/\Arrives P (lone (b.at a (.code c :: .inLoop c::k)) cs w) b k cs e a' w':=by
  intro n;induction n using Nat.strongRecOn with
  | _ n ih=>
    intro A Pb Kb a w F hI hs b k cs;obtain⟨e,U3,UR,hq,TR⟩:=round n A hI Pb Kb a w F hs b (.inLoop c::k) cs;cases e with
    | normal=>
      obtain⟨A',Pb',N1,F',⟨m,hm,hI'⟩,h2,h3,h4,h5,h6⟩:=hq;obtain⟨B3,a₂,T3,Z4,WW⟩:=ih m hm A' Pb' N1 U3 UR F' hI' h2 b k cs;exact⟨B3,a₂,T3,Nx.step h3 h4 h5 h6 Z4,.of_steps (Steps.trans TR (.one step_inLoop)) WW⟩
    | exit id=>exact⟨_,U3,UR,hq,.pass (x:=.inLoop c) rfl (fun _ _=>.inl Zad) TR⟩
    | goto l=>exact⟨_,U3,UR,hq,.pass (x:=.inLoop c) rfl (fun _ _=>.inl Zad) TR⟩
    | ret=>exact⟨_,U3,UR,hq,.pass (x:=.inLoop c) rfl (fun _ _=>.inl Zad) TR⟩
    | panic ch=>exact⟨_,U3,UR,hq,.pass (x:=.inLoop c) rfl (fun _ _=>.inl Zad) TR⟩
    | outgrown=>exact⟨_,U3,UR,hq,.pass (x:=.inLoop c) rfl (fun _ _=>.inl Zad) TR⟩
 intro Pb Kb a w F hs b k cs;obtain⟨e,a',w',hq,TR⟩:=key n A Pb Kb a w F h0 hs b k cs;exact⟨e,a',w',hq,.of_steps (.one step_loop) TR⟩
theorem JM{id:Nat}{ops:Array Oper}{Q:Exit->AS->Prop}(h:WL P N ops ops.toList A (Q .normal)):T P N (.region id ops false) A Q:=
 fun _ _ _ _ _ hs=>wp_region_list (wz _ h hs fun _ _ hn=>hn)
end
mutual
def V.er:V->V
 | .own _ xs _ _ _=>.sl false (V.G4 xs)
 | .ow _ xs=>.sl false (V.G4 xs)
 | .om es _=>.mp es
 | .agg vs=>.agg (V.G4 vs)
 | .tup vs=>.tup (V.G4 vs)
 | .gv _ _=>.c9
 | v=>v
def V.G4:List V->List V
 | []=>[]
 | v::vs=>v.er::V.G4 vs
end
def rH(P:Program)(f:FuncId):Prop:= ∀ args w,(callFunc f args).run P w=.ok (.enter f args) w
def PC(P:Program)(f:FuncId)(args:List V)(Q:V->Prop):Prop:=
 rH P f/\∀ (w:World) (Pb:Nat->Prop) (cargs:List Value),(∀ g,Pb g->g<w.heap.size)->RVs w Pb args cargs []->
  Calls P f cargs.toArray w fun e w'=> ∃ r x F Pb',e=.returned x/\Q r/\RV w' Pb' r x F/\F.Nodup/\(∀ g,g∈F->w.heap.size<=g/\g<w'.heap.size/\¬ Pb' g)/\
   (∀ g,Pb g->Pb' g)/\(∀ g,Pb' g->Pb g\/(w.heap.size<=g/\g<w'.heap.size))/\Below w.heap.size w w'
section
variable {w w':World} {Pb Kb Pb':Nat->Prop} {N:Nat} {A A':AS} {a:Act} {F:r5->List Nat} {P:Program}
mutual
theorem Ky:∀ v:V,v.er.n=v.n
 | .own .. =>rfl | .ow .. =>rfl | .om .. =>rfl | .mp .. =>rfl | .agg vs=>by simp only[V.er,V.n];exact KY vs
 | .tup _=>rfl | .gv _ _=>rfl | .lit _=>rfl | .sl .. =>rfl | .hd .. =>rfl | .ptr .. =>rfl | .ep _=>rfl | .c9=>rfl
theorem KY:∀ vs:List V,V.ns (V.G4 vs)=V.ns vs
 | []=>rfl | v::vs=>by simp only[V.G4,V.ns,Ky v,KY vs]
end
theorem pB:∀ vs:List V,V.G4 vs=vs.map V.er
 | []=>rfl | v::vs=>by simp[V.G4,pB vs]
mutual
theorem kY:∀ (v:V) {cs F},R w Pb v cs F->(∀ g,Pb g->Pb' g)->(∀ g,g∈F->Pb' g)->R w Pb' v.er cs []
 | .lit x,_,_,h,_,_=>⟨h.1,h.2.1,rfl⟩
 | .agg vs,_,_,h,k1,k2=>by simp only[R,V.er]at h ⊢;exact xj vs h k1 k2
 | .tup _,_,_,h,_,_=>by simp[R]at h
 | .gv _ _,_,_,h,_,_=>by simp[R]at h
 | .sl full xs,cs,F,h,k1,k2=>by
   have hF:=h.1;subst hF;exact jN (w:=w) (.sl full xs) h (fun _ _=>rfl) Zad k1 Zad
 | .own sz xs g o c,cs,F,h,k1,k2=>by
   rcases h with ⟨rfl,rfl,rfl,A,rfl⟩ | ⟨h1,h2,h3,rfl,h5,h6,flat,F',cells,rfl,hr,hb,hsz,B8⟩;exact⟨rfl,A,0,rfl,Zbc _,fun h=>by simp at h,.inl rfl⟩;refine⟨rfl,some ⟨g,o,none⟩,c,by rw[pB];simp,by rw[pB];simpa using h3,fun h=>by simp at h,?_⟩;by_cases hx:xs=[];subst hx;exact .inl rfl;refine .inr ⟨g,o,sz,flat,rfl,k2 g Zad,h2,?_,xj xs hr k1 (fun g hg=>k2 g (by simp[hg])),fun j u hu=>by rw[fP hb];exact B8 j u hu⟩;intro v hv;rw[pB]at hv;obtain⟨u,hu,rfl⟩:=List.mem_map.1 hv;rw[Ky];exact h5 u hu
 | .ow sz xs,cs,F,h,k1,k2=>by
   obtain⟨g,o,c,h⟩:=h;rcases h with ⟨rfl,rfl,rfl,A,rfl⟩ | ⟨h1,h2,h3,rfl,h5,h6,flat,F',cells,rfl,hr,hb,hsz,B8⟩;exact⟨rfl,A,0,rfl,Zbc _,fun h=>by simp at h,.inl rfl⟩;refine⟨rfl,some ⟨g,o,none⟩,c,by rw[pB];simp,by rw[pB];simpa using h3,fun h=>by simp at h,?_⟩;by_cases hx:xs=[];subst hx;exact .inl rfl;refine .inr ⟨g,o,sz,flat,rfl,k2 g Zad,h2,?_,xj xs hr k1 (fun g hg=>k2 g (by simp[hg])),fun j u hu=>by rw[fP hb];exact B8 j u hu⟩;intro v hv;rw[pB]at hv;obtain⟨u,hu,rfl⟩:=List.mem_map.1 hv;rw[Ky];exact h5 u hu
 | .om es g,cs,F,h,k1,k2=>⟨rfl,g,h.2.1,k2 g (by rw[h.1];simp),h.2.2.2⟩
 | .mp es,cs,F,h,k1,_=>by obtain⟨_,g,h1,h2,h3⟩:=h;exact⟨rfl,g,h1,k1 g h2,h3⟩
 | .hd ..,_,_,h,_,_=>⟨rfl,h.2⟩
 | .ptr ..,_,_,h,_,_=>⟨rfl,h.2⟩
 | .ep v,cs,F,h,k1,k2=>by
   have hF:=h.1;subst hF;exact jN (w:=w) (.ep v) h (fun _ _=>rfl) Zad k1 Zad
 | .c9,_,_,h,_,_=>⟨rfl,h.2⟩
theorem xj:∀ (vs:List V) {cs F},RL w Pb vs cs F->(∀ g,Pb g->Pb' g)->(∀ g,g∈F->Pb' g)->RL w Pb' (V.G4 vs) cs []
 | [],_,_,h,_,_=>⟨h.1,rfl⟩
 | v::vs,_,_,h,k1,k2=>by
   obtain⟨c1,c2,F1,F2,rfl,rfl,h1,h2⟩:=h;exact⟨c1,c2,[],[],rfl,rfl,kY v h1 k1 (fun g hg=>k2 g (by simp[hg])),xj vs h2 k1 (fun g hg=>k2 g (by simp[hg]))⟩
end
theorem Hw:∀ (vs:List V) {xs F},RVs w Pb vs xs F->(∀ g,Pb g->Pb' g)->(∀ g,g∈F->Pb' g)->RVs w Pb' (V.G4 vs) xs []
 | [],_,_,h,_,_=>⟨h.1,rfl⟩
 | v::vs,_,_,h,k1,k2=>by
   obtain⟨x,xs',F1,F2,rfl,rfl,h1,h2⟩:=h;refine⟨x,xs',[],[],rfl,rfl,?_,Hw vs h2 k1 (fun g hg=>k2 g (by simp[hg]))⟩;have Wj:∀ g,g∈F1->Pb' g:=fun g hg=>k2 g (by simp[hg]);cases v with
   | agg us=>obtain⟨cs,e,h1⟩:=h1;exact⟨cs,e,xj us h1 k1 Wj⟩
   | c9=>rfl
   | tup _=>simp[R]at h1
   | gv _ _=>simp[R]at h1
   | own sz xs g o c=>exact kY (w:=w) (Pb:=Pb) (.own sz xs g o c) h1 k1 Wj
   | ow sz xs=>exact kY (w:=w) (Pb:=Pb) (.ow sz xs) h1 k1 Wj
   | om es g=>exact kY (w:=w) (Pb:=Pb) (.om es g) h1 k1 Wj
   | mp es=>exact kY (w:=w) (Pb:=Pb) (.mp es) h1 k1 Wj
   | lit x=>exact kY (w:=w) (Pb:=Pb) (.lit x) h1 k1 Wj
   | sl f xs=>exact kY (w:=w) (Pb:=Pb) (.sl f xs) h1 k1 Wj
   | hd r p sz g o lo n c=>exact kY (w:=w) (Pb:=Pb) (.hd r p sz g o lo n c) h1 k1 Wj
   | ptr r p g o=>exact kY (w:=w) (Pb:=Pb) (.ptr r p g o) h1 k1 Wj
   | ep v=>exact kY (w:=w) (Pb:=Pb) (.ep v) h1 k1 Wj
theorem Lb{v:V}{x:Value}{F:List Nat}(h:RV w Pb v x F)(k1:∀ g,Pb g->Pb' g)(k2:∀ g,g∈F->Pb' g):RV w Pb' v.er x []:=by
 cases v with
 | tup vs=>obtain⟨xs,e,h⟩:=h;exact⟨xs,e,Hw vs h k1 k2⟩
 | gv _ _=>rfl
 | agg us=>obtain⟨cs,e,h⟩:=h;exact⟨cs,e,xj us h k1 k2⟩
 | c9=>rfl
 | own sz xs g o c=>exact kY (w:=w) (Pb:=Pb) (.own sz xs g o c) h k1 k2
 | ow sz xs=>exact kY (w:=w) (Pb:=Pb) (.ow sz xs) h k1 k2
 | om es g=>exact kY (w:=w) (Pb:=Pb) (.om es g) h k1 k2
 | mp es=>exact kY (w:=w) (Pb:=Pb) (.mp es) h k1 k2
 | lit x=>exact kY (w:=w) (Pb:=Pb) (.lit x) h k1 k2
 | sl f xs=>exact kY (w:=w) (Pb:=Pb) (.sl f xs) h k1 k2
 | hd r p sz g o lo n c=>exact kY (w:=w) (Pb:=Pb) (.hd r p sz g o lo n c) h k1 k2
 | ptr r p g o=>exact kY (w:=w) (Pb:=Pb) (.ptr r p g o) h k1 k2
 | ep v=>exact kY (w:=w) (Pb:=Pb) (.ep v) h k1 k2
theorem C3.grow{Sr SA:Nat->Prop} (hs:C3 N Pb Kb A a w F) (hb:∀ k,k<w.heap.size->w'.heap[k]? =w.heap[k]?) (hsz:w.heap.size<=w'.heap.size) (h1:∀ g,Pb g->Sr g)
 (h4:∀ g,SA g->Kb g\/(w.heap.size<=g/\g<w'.heap.size)) (h5:∀ g,Sr g->SA g):C3 N Sr SA A a w' F where
 size:=hs.size
 defers:=hs.defers
 slot:=fun i=>qI _ (hs.slot i) (fun g hg=>hb g (hs.bound g (hs.sub g hg))) (fun g hg=>hb g (hs.free _ g hg).2) h1 (fun g hg c=>by
  have hf:=hs.free _ g hg;rcases h4 g (h5 g c) with h | h;exact hf.1 h;omega)
 root:=fun k g v hk=>by
  obtain⟨F',e,cs,cells,⟨e',fr,Qn,hfr⟩,hr,hc⟩:=hs.root k g v hk;have hin:∀ x,x∈g::F'->x<w.heap.size/\¬ Sr x:=fun x hx=>by
   have hf:=hs.free (.key k) x (by rw[e];exact hx);refine⟨hf.2,fun c=>?_⟩;rcases h4 x (h5 x c) with h | h;exact hf.1 h;omega
  exact⟨F',e,cs,cells,⟨e',fr,(hb g (hin g Zad).1).trans Qn,hfr⟩,jN _ hr (fun g hg=>hb g (hs.bound g (hs.sub g hg))) (fun x hx=>hb x (hin x (by simp[hx])).1) h1 (fun x hx=>(hin x (by simp[hx])).2),hc⟩
 du:=hs.du
 nodup:=hs.nodup
 free:=fun r g hg=>by
  have hf:=hs.free r g hg;refine⟨fun c=>?_,Zac⟩;rcases h4 g c with h | h;exact hf.1 h;omega
 sub:=h5
 bound:=fun g hg=>by
  rcases h4 g hg with h | h;have:=hs.bound g h;omega;exact h.2
theorem F7.DU(h:Below w.heap.size w w')(hK:∀ g,Kb g->g<w.heap.size):F7 Kb w w':=
 ⟨h.os,h.tape,h.output,h.size,fun g hg=>h.block g (hK g hg),Shp.of_eq h.block⟩
theorem yA(hs:C3 N Pb Kb A a w F):∀ xs:List Operand,RVs w Pb (xs.map A.cp) (xs.map a.eval) []
 | []=>⟨rfl,rfl⟩
 | x::xs=>by
   refine⟨a.eval x,xs.map a.eval,[],[],rfl,rfl,?_,yA hs xs⟩;have h:=vb hs x;cases hv:A.cp x with
   | tup vs=>
     exfalso;cases x with
     | tmp i=>
       simp only[AS.cp]at hv;cases hg:A.get i <;> rw[hg]at hv <;> first | (solve | simp only[V.cp,V.U2,reduceCtorEq]at hv) | (unfold V.cp at hv;simp only[V.U2,reduceCtorEq]at hv)
     | const c=>
       simp only[AS.cp,AS.ev]at hv;cases c <;> simp[cV,W2]at hv;split at hv <;> simp at hv;split at hv <;> simp at hv
     | _=>simp[AS.cp,AS.ev]at hv
   | gv b u=>
     exfalso;cases x with
     | tmp i=>
       simp only[AS.cp]at hv;cases hg:A.get i <;> rw[hg]at hv <;> first | (solve | simp only[V.cp,V.U2,reduceCtorEq]at hv) | (unfold V.cp at hv;simp only[V.U2,reduceCtorEq]at hv)
     | const c=>
       simp only[AS.cp,AS.ev]at hv;cases c <;> simp[cV,W2]at hv;split at hv <;> simp at hv;split at hv <;> simp at hv
     | _=>simp[AS.cp,AS.ev]at hv
   | agg us=>rw[hv]at h;exact h
   | c9=>rfl
   | own sz xs g o c=>rw[hv]at h;exact h
   | ow sz xs=>rw[hv]at h;exact h
   | om es g=>rw[hv]at h;exact h
   | mp es=>rw[hv]at h;exact h
   | lit x=>rw[hv]at h;exact h
   | sl f xs=>rw[hv]at h;exact h
   | hd r p sz g o lo n c=>rw[hv]at h;exact h
   | ptr r p g o=>rw[hv]at h;exact h
   | ep v=>rw[hv]at h;exact h
theorem JP{o:Oper} {K:AS->Prop} {f:FuncId} {xs:Array Operand} {QM:Array TypeId} {Q:V->Prop} (ho:o.op=.call { callee:=.value (.func f),args:=xs,argTypes:=QM })
 (hd:dP N o.dst) (hc:PC P f (xs.toList.map A.cp) Q) (hK:∀ r,Q r->K (A.put o.dst r)):N' P N o A K:=by
 intro Pb Kb a w F Q' hs;unfold Oper.wp;have G8:(execOp a.eval o).run P w=.ok (.enter f (xs.map a.eval)) w:=by
  simp only[execOp,ho,resolve,Act.eval,Deferred.ofValue,Za0,Za1,Zas,invoke];have:=hc.1 (xs.map a.eval) w;simpa using this
 rw[G8,Oper.upon_enter];have hargs:=yA hs xs.toList;have QB:=hc.2 w Pb (xs.toList.map a.eval) (fun g hg=>hs.bound g (hs.sub g hg)) hargs;have e:(xs.toList.map a.eval).toArray=xs.map a.eval:=by rw[<- Array.toList_map,Array.toArray_toList]
 rw[e]at QB;refine QB.mono ?_;rintro e w' ⟨r,x,Fr,Pb',rfl,hq,hr,hnd,hfr,h1,h2,hb⟩;have H4:C3 N Pb' (fun g=>Kb g\/Pb' g) A a w' F:=hs.grow hb.block hb.size h1 (fun g hg=>by
  rcases hg with h | h;exact .inl h;rcases h2 g h with h | h;exact .inl (hs.sub g h);exact .inr h) (fun g hg=>.inr hg)
 have VU:∀ g,g∈Fr->¬ (Kb g\/Pb' g)/\g<w'.heap.size:=fun g hg=>by
  obtain⟨f1,f2,f3⟩:=hfr g hg;refine⟨fun c=>?_,f2⟩;rcases c with c | c;have:=hs.bound g c;omega;exact f3 c
 have hnx:∀ A' a' F',K A'->C3 N Pb' (fun g=>Kb g\/Pb' g) A' a' w' F'->Nx N Pb Kb w K a' w':=fun A' a' F' hk Yy=>
  ⟨A',Pb',_,F',hk,Yy,h1,fun g hg=>.inl hg,fun g hg=>by
   rcases h2 g hg with h | h;exact .inl h;exact .inr fun c=>by have:=hs.bound g c;omega,F7.DU hb hs.bound⟩
 cases Q4:o.dst with
 | none=>exact hnx _ _ F (hK r hq) (by rw[Q4];exact H4)
 | some d=>
   rw[Q4]at hd;refine hnx _ _ (dr F (.slot d) Fr) (hK r hq) ?_;rw[Q4];refine H4.put hd hr (fun rt _ g hg=>?_) hnd VU;intro QC;have:=(hs.free rt g QC).2;have:=(hfr g hg).1;omega
theorem sR{o:Oper} {K:AS->Prop} {f:FuncId} {xs:Array Operand} {QM:Array TypeId} {Q:V->Prop} {E:V} (ho:o.op=.call { callee:=.value (.func f),args:=xs,argTypes:=QM })
 (hd:dP N o.dst) (hc:PC P f (xs.toList.map A.cp) Q) (hE:∀ r,Q r->r.er=E) (hK:K (A.put o.dst E)):N' P N o A K:=by
 have QC:PC P f (xs.toList.map A.cp) (fun r=>r=E):=by
  refine⟨hc.1,fun w Pb cargs h1 h2=>(hc.2 w Pb cargs h1 h2).mono ?_⟩;rintro e w' ⟨r,x,Fr,Pb',rfl,hq,hr,hnd,hfr,k1,k2,hb⟩;refine⟨E,x,[],fun g=>Pb' g\/g∈Fr,rfl,rfl,?_,Zba,Zad,fun g hg=>.inl (k1 g hg),fun g hg=>?_,hb⟩;rw[<- hE r hq];exact Lb hr (fun g hg=>.inl hg) (fun g hg=>.inr hg);rcases hg with h | h;exact k2 g h;obtain⟨f1,f2,_⟩:=hfr g h;exact .inr ⟨f1,f2⟩
 exact JP ho hd QC fun r hr=>by rw[hr];exact hK
def enum(k:Nat):List V->List (Nat×V)
 | []=>[]
 | v::vs=>(k,v)::enum (k+1) vs
def CM(A:AS):ResultVar->Option (r5×V)
 | .tmp t=>some (.slot t,A.get t)
 | .cell t _=>match A.get t with
   | .ptr (.key k) [] g 0=>match lk k A.h with
     | some (g',v)=>if g'=g then some (.key k,v) else none
     | none=>none
   | _=>none
def vg(A:AS):List ResultVar->Option (List (r5×V))
 | []=>some []
 | r::rs=>match CM A r,vg A rs with
   | some x,some xs=>some (x::xs)
   | _,_=>none
def ue(P:Program):List ResultVar->List (r5×V)->Prop
 | .cell _ T::rs,(_,v)::xs=>(match ti P T with | some i=>v.n=i.sz/\i.d.agg=v.isAgg | none=>False)/\ue P rs xs
 | .tmp _::rs,(_,v)::xs=>(match v with | .tup _=>False | .gv _ _=>False | _=>True)/\ue P rs xs
 | [],[]=>True
 | _,_=>False
def one(vs:List V):V:=match vs with | [v]=>v | vs=>.tup vs
theorem EN:∀ (vs:List V) (k i:Nat),lk i (enum k vs)=if k<=i then vs[i-k]? else none
 | [],k,i=>by simp[enum,lk]
 | v::vs,k,i=>by
   simp only[enum,lk];by_cases h:i=k;subst h;simp;rw[if_neg h,EN vs (k+1) i];by_cases h':k+1<=i;rw[if_pos h',if_pos Zac];have:i-k=(i-(k+1))+1:=Zac;rw[this];rfl;rw[if_neg h',if_neg Zac]
theorem IX:∀ (vs:List V) {xs:List Value} {i:Nat} {v:V},RVs w Pb vs xs []->vs[i]? =some v->∃ x,xs[i]? =some x/\RV w Pb v x []
 | [],_,_,_,_,h=>by simp at h
 | v::vs,xs,0,u,h,hi=>by
     obtain⟨x,xs',F1,F2,rfl,hF,h1,h2⟩:=h;have hF1:F1=[]:=by have:=hF.symm;simp at this;exact this.1
     subst hF1;simp at hi;subst hi;refine⟨x,rfl,?_⟩;cases v with
     | agg us=>exact h1
     | c9=>exact h1
     | tup us=>simp[R]at h1
     | gv _ _=>simp[R]at h1
     | _=>exact h1
 | v::vs,xs,i+1,u,h,hi=>by
     obtain⟨x,xs',F1,F2,rfl,hF,h1,h2⟩:=h;have hF2:F2=[]:=by have:=hF.symm;simp at this;exact this.2
     subst hF2;obtain⟨y,hy,hr⟩:=IX vs h2 Zbn;exact⟨y,by simpa using hy,hr⟩
theorem Bo:∀ (vs:List V) {xs:List Value} {F},RVs w Pb vs xs F->xs.length=vs.length
 | [],_,_,h=>by rw[h.1];rfl
 | v::vs,_,_,h=>by
   obtain⟨x,xs',F1,F2,rfl,_,_,h2⟩:=h;simp[Bo vs h2]
def Y'(a:Act):ResultVar->Sem Value
 | .tmp t=>pure (a.tmps.getD t undef)
 | .cell t T=>do loadVar T (<- asAddr (a.tmps.getD t undef))
def Te(w:World)(Pb:Nat->Prop)(v:V)(x:Value)(F:List Nat):Prop:=match v with
 | .agg us=> ∃ cs,x=.agg cs/\RL w Pb us cs.toList F
 | .c9=>F=[]
 | v=>R w Pb v [x] F
theorem ID{v:V}{x:Value}{F1:List Nat}(h:RV w Pb v x F1)(hn:(∀ us,v≠.tup us)/\∀ b u,v≠.gv b u):Te w Pb v x F1:=by
 cases v with
 | tup us=>exact absurd rfl (hn.1 us)
 | gv b u=>exact absurd rfl (hn.2 b u)
 | _=>exact h
theorem NR{i:Option TI}{v:V}(h:match i with | some i=>v.n=i.sz/\i.d.agg=v.isAgg | none=>False):∃ j,i=some j/\v.n=j.sz/\j.d.agg=v.isAgg:=by
 cases i with
 | none=>exact h.elim
 | some j=>exact⟨j,rfl,h⟩
instance:LawfulMonad Sem:=LawfulMonad.mk' Sem (id_map:=fun x=>by
 show x.bind (fun a=>Sem.pure (id a))=x;exact Sem.bind_pure' x)
 (pure_bind:=fun _ _=>rfl) (bind_assoc:=fun x f g=>Sem.bind_assoc' x f g)
theorem BV(hs:C3 N Pb Kb A a w F):∀ (rs:List ResultVar) {xs:List (r5×V)},vg A rs=some xs->ue P rs xs->(xs.map (·.1)).Nodup->
 ∃ (vs:List Value) (Fr:List Nat),(rs.mapM (Y' a)).run P w=.ok vs w/\
   RVs w Pb (xs.map (·.2)) vs Fr/\Fr.Nodup/\(∀ g,g∈Fr->∃ r,r∈xs.map (·.1)/\g∈F r)
 | [],xs,h,_,_=>by
   simp[vg]at h;subst h;exact⟨[],[],rfl,⟨rfl,rfl⟩,Zba,Zad⟩
 | r::rs,xs,h,RM,hnd=>by
   simp only[vg]at h;split at h
   case h_2=>simp at h
   rename_i x xs' hx U7;simp only[Zan]at h;subst h;simp only[Zbe,List.nodup_cons]at hnd;have hok2:ue P rs xs':=by
    obtain⟨xr,xv⟩:=x;cases r <;> exact RM.2
   obtain⟨vs,Fr,G8,hrv,Sa,hin⟩:=BV hs rs U7 hok2 hnd.2;have h1:∃ (v:Value) (F1:List Nat),(Y' a r).run P w=.ok v w/\RV w Pb x.2 v F1/\((∀ us,x.2≠.tup us)/\∀ b u,x.2≠.gv b u)/\F1.Nodup/\∀ g,g∈F1->g∈F x.1:=by
    cases r with
    | tmp t=>
      simp only[CM,Zan]at hx;subst hx;have RM:=RM.1;exact⟨_,F (.slot t),rfl,hs.slot t,⟨fun us e=>by have e':A.get t=.tup us:=e;rw[e']at RM;exact RM,fun b u e=>by have e':A.get t=.gv b u:=e;rw[e']at RM;exact RM⟩,hs.nodup _,fun _ h=>h⟩
    | cell t T=>
      simp only[CM]at hx;split at hx
      case h_2=>simp at hx
      rename_i k g hg;split at hx
      case h_2=>simp at hx
      rename_i g' v hk;split at hx
      case isFalse=>simp at hx
      rename_i e;subst e;simp only[Zan]at hx;subst hx;have WI:=RM.1;obtain⟨i,hi,WI⟩:=NR WI;obtain⟨F',e,cs,cells,hb,hr,hc⟩:=hs.root k g' v hk;have hp:=hs.slot t;rw[hg]at hp;have hp:a.tmps.getD t undef=.pointer (some ⟨g',0,none⟩):=by have:=hp.2;simpa using this
      obtain⟨y,hy,ZZ⟩:=qE (w:=w) hi hr WI.1 WI.2 (g:=g') (o:=0) (fun j u hu=>by rw[fP hb];exact hc j u hu);refine⟨y,F',by simp only[Y',hp,asAddr,Za0,Za1,Zas,hy],ZZ,?_,?_,?_⟩;exact⟨fun us e=>by simp only at e;subst e;simp[R]at hr,fun b u e=>by simp only at e;subst e;simp[R]at hr⟩;have:=hs.nodup (.key k);rw[e]at this;exact(List.nodup_cons.1 this).2;intro g hg;rw[e];simp[hg]
   obtain⟨v,F1,hv,Um,hnt,YH,hin1⟩:=h1;refine⟨v::vs,F1++Fr,?_,?_,?_,?_⟩;rw[List.mapM_cons];simp only[Za0,Za1];rw[hv];simp only[Zas,G8];exact⟨v,vs,F1,Fr,rfl,rfl,ID Um hnt,hrv⟩;refine List.nodup_append.2 ⟨YH,Sa,fun p hp q hq e=>?_⟩;subst e;obtain⟨r',N5,TJ⟩:=hin p hq;exact hs.du x.1 r' (fun c=>hnd.1 (by rw[c];exact N5)) p (hin1 p hp) TJ;intro g hg;rcases Zax.1 hg with h | h;exact⟨x.1,Zad,hin1 g h⟩;obtain⟨r',N5,TJ⟩:=hin g h;exact⟨r',by simp only[Zbe,List.mem_cons];exact .inr N5,TJ⟩
theorem HE:∀ (us:List V) {vs:List Value} {Fr:List Nat},RVs w Pb us vs Fr->RV w Pb (one us) (if h:vs.toArray.size=1 then vs.toArray[0] else .tuple vs.toArray) Fr
 | [],vs,Fr,h=>by obtain⟨rfl,rfl⟩:=h;exact⟨#[],rfl,rfl,rfl⟩
 | [v],vs,Fr,h=>by
   obtain⟨x,xs',F1,F2,rfl,rfl,h1,h2⟩:=h;obtain⟨rfl,rfl⟩:=h2;simp only[List.append_nil];show RV w Pb v x F1;cases v with
   | tup _=>simp[R]at h1
   | gv _ _=>simp[R]at h1
   | _=>exact h1
 | v::v'::us,vs,Fr,h=>by
   have hl:=Bo _ h;rw[dif_neg (by simp at hl ⊢;omega)];exact⟨vs.toArray,rfl,Zbq⟩
theorem EC(hs:C3 N Pb Kb A a w F){fn:Func}{xs:List (r5×V)}(h1:vg A fn.results.toList=some xs)(h2:ue P fn.results.toList xs)(h3:(xs.map (·.1)).Nodup):
 ∃ x Fr,(results fn a.tmps).run P w=.ok x w/\RV w Pb (one (xs.map (·.2))) x Fr/\Fr.Nodup/\∀ g,g∈Fr->∃ r,r∈xs.map (·.1)/\g∈F r:=by
 obtain⟨vs,Fr,G8,hrv,hnd,hin⟩:=BV hs _ h1 h2 h3;have hm:(fn.results.mapM (Y' a)).run P w=.ok vs.toArray w:=by
  rw[<- Array.toArray_toList (xs:=fn.results),List.mapM_toArray,Sem.run_map,G8];rfl
 have hfun:(results fn a.tmps).run P w=.ok (if h:vs.toArray.size=1 then vs.toArray[0] else .tuple vs.toArray) w:=by
  show ((fn.results.mapM (Y' a)).bind _).run P w=_;have:=Za0 (P:=P) (w:=w) (x:=fn.results.mapM (Y' a)) (f:=fun vs=>(pure (if h:vs.size=1 then vs[0] else .tuple vs):Sem Value));rw[hm]at this;exact this
 exact⟨_,Fr,hfun,HE _ hrv,hnd,hin⟩
end
def Str(l:BL):ByteArray:=⟨l.toArray⟩
theorem kQ(l:BL):(Str l).size=l.length:=by simp[Str,ByteArray.size]
theorem LU(a b:BL):Str a++Str b=Str (a++b):=by
 apply ByteArray.ext;simp[Str]
theorem LL(l:BL)(i j:Nat):(Str l).extract i j=Str ((l.take j).drop i):=by
 apply ByteArray.ext;rw[ByteArray.data_extract];simp[Str,List.extract,List.drop_take]
theorem NN(l:BL)(i:Int):btV (Str l) i=.lit (.int .u8 (l.getD i.toNat 0).toNat):=by
 unfold btV Str;simp[Array.getD,List.getD];split <;> simp_all
def NX(P:Program)(N:Nat):List Oper->AS->Prop×AS×List Oper
 | [],A=>(True,A,[])
 | o::rest,A=>match o.guard with
   | some _=>(True,A,o::rest)
   | none=>match o.op with
     | .assign x=>match NX P N rest ((A.drop x).put o.dst (A.ev x)) with
       | (C,r)=>(dP N o.dst/\C,r)
     | op=>match Qb P A op with
       | some (C,v)=>match NX P N rest (A.put o.dst v) with
         | (C',r)=>(dP N o.dst/\C/\C',r)
       | none=>(True,A,o::rest)
theorem fS{P:Program}{f:FuncId}{fn:Func}(hf:P.funcs[f]? =some fn)(hn:(fn.name== "runtime.NumGoroutine")=false)(hb:fn.body.isNone=false):rH P f:=by
 intro args w;unfold callFunc;simp only[Za0,run_program,Zas,hf,hn,hb,Bool.false_eq_true,if_false,Za1]
def V.set(v:V):List Nat->V->V
 | [],u=>u
 | j::p,u=>match v with
   | .agg vs=>match vs[j]? with
     | some x=>.agg (vs.set j (V.set x p u))
     | none=>v
   | .own sz xs g o c=>match xs[j]? with
     | some x=>.own sz (xs.set j (V.set x p u)) g o c
     | none=>v
   | _=>v
section
variable {w w':World} {Pb Kb:Nat->Prop}
def Yd(w:World)(Pb:Nat->Prop)(vs:List V)(g o:Nat)(F:List Nat):Prop:=
 ∃ cs cells,Blk w g cells/\RL w Pb vs cs F/\∀ j u,cs[j]? =some u->cells[o+j]? =some u
theorem yS{v:V}{vs:List V}{g o:Nat}{F:List Nat}:Yd w Pb (v::vs) g o F↔∃ F1 F2,F=F1++F2/\At w Pb v g o F1/\Yd w Pb vs g (o+v.n) F2:=by
 constructor;rintro⟨cs,cells,hb,⟨c1,c2,F1,F2,rfl,rfl,h1,h2⟩,hc⟩;refine⟨F1,F2,rfl,⟨c1,cells,hb,h1,fun j u hu=>hc j u ?_⟩,⟨c2,cells,hb,h2,fun j u hu=>?_⟩⟩;rw[Za9 (Za3.1 hu).1];exact hu;have hl:=ft v h1;rw[<- hl,Zbj];refine hc _ u ?_;rw[Za4 Zac];have e:c1.length+j-c1.length=j:=Zac;rw[e];exact hu;rintro⟨F1,F2,rfl,⟨c1,cells,⟨e1,f1,hb,hf⟩,h1,R4⟩,⟨c2,x4,⟨e2,f2,Qn,_⟩,h2,V3⟩⟩;rw[hb]at Qn;simp only[Zan,Obj.cells.injEq]at Qn;obtain⟨rfl,_,_⟩:=Qn;refine⟨c1++c2,cells,⟨e1,f1,hb,hf⟩,⟨c1,c2,F1,F2,rfl,rfl,h1,h2⟩,fun j u hu=>?_⟩;have hl:=ft v h1;by_cases hj:j<c1.length;rw[Za9 hj]at hu;exact R4 j u hu;rw[Za4 Zac]at hu;have:=V3 _ u hu;rw[<- hl]at this;have e:o+c1.length+(j-c1.length)=o+j:=Zac
 rwa [e]at this
theorem Em{vs:List V}{g o:Nat}{F:List Nat}:At w Pb (.agg vs) g o F↔Yd w Pb vs g o F:=by
 constructor;rintro⟨cs,cells,hb,h,hc⟩;exact⟨cs,cells,hb,by simpa only[R] using h,hc⟩;rintro⟨cs,cells,hb,h,hc⟩;exact⟨cs,cells,hb,by simpa only[R] using h,hc⟩
theorem BD{l:List Value}{cells:Array Value}{o:Nat}(h:∀ j u,l[j]? =some u->cells[o+j]? =some u)(hl:l≠[]):o+l.length<=cells.size:=by
 have M8:0<l.length:=List.length_pos_iff.2 hl;have:=h (l.length-1) _ (Zat Zac);have:=(Zbh.1 this).1;omega
theorem ug{v:V} {g o:Nat} {F:List Nat} (h:At w Pb v g o F) (k1:∀ x,Pb x->w'.heap[x]? =w.heap[x]?) (k2:∀ x,x∈F->w'.heap[x]? =w.heap[x]?) (k3:∀ x,x∈F->¬ Pb x)
 (k4:∀ cells,Blk w g cells->∃ x4,Blk w' g x4/\∀ j,o<=j->j<o+v.n->x4[j]? =cells[j]?):At w' Pb v g o F:=by
 obtain⟨cs,cells,hb,hr,hc⟩:=h;obtain⟨x4,Qn,he⟩:=k4 cells hb;refine⟨cs,x4,Qn,jN v hr k1 k2 (fun _ h=>h) k3,fun j u hu=>?_⟩;have hl:=ft v hr;have hj:=(Za3.1 hu).1;rw[he _ Zac Zac];exact hc j u hu
theorem IB{vs:List V} {g o:Nat} {F:List Nat} (h:Yd w Pb vs g o F) (k1:∀ x,Pb x->w'.heap[x]? =w.heap[x]?) (k2:∀ x,x∈F->w'.heap[x]? =w.heap[x]?) (k3:∀ x,x∈F->¬ Pb x)
 (k4:∀ cells,Blk w g cells->∃ x4,Blk w' g x4/\∀ j,o<=j->j<o+V.ns vs->x4[j]? =cells[j]?):Yd w' Pb vs g o F:=by
 rw[<- Em]at h ⊢;exact ug h k1 k2 k3 k4
structure J7 (w w':World) (g o:Nat) (cs:List Value):Prop where
 os:w'.os=w.os
 tape:w'.tape=w.tape
 output:w'.output=w.output
 size:w'.heap.size=w.heap.size
 RU:∀ k,k≠g->w'.heap[k]? =w.heap[k]?
 shape:Shp w w'
 SE:∀ cells,Blk w g cells->∃ x4,Blk w' g x4/\x4.size=cells.size/\(∀ j,j<o\/o+cs.length<=j->x4[j]? =cells[j]?)/\(∀ j u,cs[j]? =some u->x4[o+j]? =some u)
theorem lg:∀ (p:List Nat) {v u:V} {g o g' o':Nat} {F},At w Pb v g o F->V.at g o v p=some (g',o',u)->(g'=g/\o<=o'/\o'+u.n<=o+v.n)\/g'∈F
 | [],v,u,g,o,g',o',F,h,e=>by
   simp only[V.at,Zan,Zaq]at e;obtain⟨rfl,rfl,rfl⟩:=e;exact .inl ⟨rfl,Zbc _,Zbc _⟩
 | j::p,v,u,g,o,g',o',F,h,e=>by
   simp only[V.at]at e;split at e;rename_i vs;split at e;rename_i x hx;obtain⟨cs,cells,hb,hr,hc⟩:=h;simp only[R]at hr;obtain⟨c,F',N5,hF,QC⟩:=jP vs hr hx;rcases lg p (v:=x) ⟨c,cells,hb,N5,fun i u hu=>by rw[Zbj];exact hc _ _ (QC i u hu)⟩ e with ⟨h1,h2,h3⟩ | h1;left;refine⟨h1,Zac,?_⟩;have hle:V.ns (vs.take j)+x.n<=V.ns vs:=by
    clear e hr hc N5 QC hF h3 h2;induction vs generalizing j with
    | nil=>simp at hx
    | cons v0 vs ih=>
      cases j with
      | zero=>simp at hx;subst hx;simp[V.ns]
      | succ j=>have:=ih (j:=j) (by simpa using hx);simp only[List.take_succ_cons,V.ns];omega
   simp only[V.n];omega;exact .inr (hF _ h1);simp at e;rename_i sz xs g1 o1 c1;split at e;rename_i x hx;obtain⟨cs,cells,hb,hr,hc⟩:=h;rcases hr with ⟨_,rfl,_⟩ | ⟨_,_,_,_,ha,_,flat,F',x4,rfl,hr,Qn,_,QC⟩;simp at hx;obtain⟨c,Rz,N5,hF,Sp⟩:=jP xs hr hx;have hj:j<=xs.length:=Zbr
   rw[fL xs j ha hj]at Sp;rcases lg p (v:=x) ⟨c,x4,Qn,N5,fun i u hu=>Zbs⟩ e with ⟨h1,_⟩ | h1;right;simp[h1];right;simp[hF _ h1];simp at e;simp at e
theorem qK:∀ (p:List Nat) {v u u':V} {g o g' o':Nat},V.at g o v p=some (g',o',u)->u'.n=u.n->(v.set p u').n=v.n
 | [],v,u,u',g,o,g',o',e,h=>by
   simp only[V.at,Zan,Zaq]at e;obtain⟨_,_,rfl⟩:=e;exact h
 | j::p,v,u,u',g,o,g',o',e,h=>by
   simp only[V.at]at e;simp only[V.set];split at e;rename_i vs;split at e;rename_i x hx;have ih:=qK p e h;simp only[hx,V.n];clear e;induction vs generalizing j with
   | nil=>simp at hx
   | cons v0 vs ihv=>
     cases j with
     | zero=>simp at hx;subst hx;simp[V.ns,ih]
     | succ j=>simp only[List.set_cons_succ,V.ns];rw[ihv j (by simpa using hx)]
   simp at e;split at e;rename_i x hx;(try simp only[hx]);rfl;simp at e;simp at e
def SS(w w':World)(Pb:Nat->Prop)(p:List Nat):Prop:= ∀ (v u u':V) (g o g' o':Nat) (F Rz:List Nat) (Sq:List Value),At w Pb v g o F->(g::F).Nodup->(∀ x,x∈g::F->¬ Pb x)->V.at g o v p=some (g',o',u)->
    R w' Pb u' Sq Rz->u'.n=u.n->Rz.Nodup->(∀ x,x∈Rz->x ∉ g::F)->J7 w w' g' o' Sq->(∀ x,Pb x->w'.heap[x]? =w.heap[x]?)->
    ∃ F1,At w' Pb (v.set p u') g o F1/\(g::F1).Nodup/\∀ x,x∈F1->x∈F\/x∈Rz
theorem Ba{w w':World} {Pb:Nat->Prop} {p:List Nat} (IH:SS w w' Pb p) {x u u':V} {g g' o':Nat} {Rz:List Nat} {Sq:List Value} (hr:R w' Pb u' Sq Rz) (hn:u'.n=u.n) (Sa:Rz.Nodup)
 (I2:J7 w w' g' o' Sq) (k1:∀ x,Pb x->w'.heap[x]? =w.heap[x]?):
 ∀ (vs:List V) (o:Nat) (F:List Nat) (j:Nat),Yd w Pb vs g o F->(g::F).Nodup->(∀ x,x∈g::F->¬ Pb x)->(∀ x,x∈Rz->x ∉ g::F)->vs[j]? =some x->V.at g (o+V.ns (vs.take j)) x p=some (g',o',u)->
   ∃ F1,Yd w' Pb (vs.set j (x.set p u')) g o F1/\(g::F1).Nodup/\∀ y,y∈F1->y∈F\/y∈Rz:=by
 have hcs':=ft u' hr;intro vs;induction vs with
 | nil=>intro o F j _ _ _ _ hx;simp at hx
 | cons v0 vs ih=>
   intro o F j h hnd hP C8 hx e;rw[yS]at h;obtain⟨F1,F2,rfl,h1,h2⟩:=h;have Qq:=List.nodup_cons.1 hnd;have Va:=List.nodup_append.1 Qq.2;have Wl:g ∉ F1:=fun c=>Qq.1 (by simp[c]);have hg2:g ∉ F2:=fun c=>Qq.1 (by simp[c]);cases j with
   | zero=>
     simp at hx;subst hx;simp only[List.take_zero,V.ns,Nat.add_zero]at e;have YH:(g::F1).Nodup:=List.nodup_cons.2 ⟨Wl,Va.1⟩;obtain⟨F1',hA,hN,hI⟩:=IH _ _ _ _ _ _ _ _ _ _ h1 YH (fun x hx=>hP x Zbv) e hr hn Sa (fun x hx c=>C8 x hx Zbw) I2 k1;have Z3:=lg p h1 e;have hA2:Yd w' Pb vs g (o+v0.n) F2:=by
      refine IB h2 k1 (fun x hx=>I2.RU x ?_) (fun x hx=>hP x (by simp[hx])) (fun cells hb=>?_);rintro rfl;rcases Z3 with ⟨rfl,_⟩ | h;exact hg2 hx;exact Va.2.2 _ h _ hx rfl;rcases Z3 with ⟨rfl,Um,Q9⟩ | h;obtain⟨x4,Qn,_,Sb,_⟩:=I2.SE cells hb;exact⟨x4,Qn,fun j hj1 _=>Sb j (.inr Zac)⟩;have hne:g≠g':=fun c=>Wl (by rw[c];exact h);obtain⟨e',fr,hb,hf⟩:=hb;exact⟨cells,⟨e',fr,(I2.RU g hne).trans hb,hf⟩,fun _ _ _=>rfl⟩
     refine⟨F1'++F2,?_,?_,?_⟩;simp only[List.set_cons_zero];rw[yS];refine⟨F1',F2,rfl,hA,?_⟩;rw[qK p e hn];exact hA2;have UM:=List.nodup_cons.1 hN;refine List.nodup_cons.2 ⟨fun c=>?_,List.nodup_append.2 ⟨UM.2,Va.2.1,fun x hx y hy c=>?_⟩⟩;rcases Zax.1 c with c | c;exact UM.1 c;exact hg2 c;subst c;rcases hI x hx with h | h;exact Va.2.2 _ h _ hy rfl;exact C8 x h (by simp[hy]);intro y hy;rcases Zax.1 hy with h | h;rcases hI y h with h | h;left;simp[h];right;exact h;left;simp[h]
   | succ j=>
     simp only[List.take_succ_cons,V.ns,<- Zbj]at e;have RD:vs[j]? =some x:=Zbt
     obtain⟨F2',hA,hN,hI⟩:=ih (o+v0.n) F2 j h2 (List.nodup_cons.2 ⟨hg2,Va.2.1⟩) (fun x hx=>hP x Zbv) (fun x hx c=>C8 x hx Zbw) RD e;have Z3:(g'=g/\o+v0.n<=o')\/g'∈F2:=by
      obtain⟨cs,cells,hb,Q9,V3⟩:=h2;obtain⟨c,F',N5,hF,QC⟩:=jP vs Q9 RD;rcases lg p (v:=x) ⟨c,cells,hb,N5,fun i u hu=>by rw[Zbj];exact V3 _ _ (QC i u hu)⟩ e with ⟨h1,h2,h3⟩ | h1;exact .inl ⟨h1,Zac⟩;exact .inr (hF _ h1)
     have hA1:At w' Pb v0 g o F1:=by
      refine ug h1 k1 (fun x hx=>I2.RU x ?_) (fun x hx=>hP x (by simp[hx])) (fun cells hb=>?_);rintro rfl;rcases Z3 with ⟨rfl,_⟩ | h;exact Wl hx;exact Va.2.2 _ hx _ h rfl;rcases Z3 with ⟨rfl,Um⟩ | h;obtain⟨x4,Qn,_,Sb,_⟩:=I2.SE cells hb;exact⟨x4,Qn,fun j _ hj=>Sb j (.inl Zac)⟩;have hne:g≠g':=fun c=>hg2 (by rw[c];exact h);obtain⟨e',fr,hb,hf⟩:=hb;exact⟨cells,⟨e',fr,(I2.RU g hne).trans hb,hf⟩,fun _ _ _=>rfl⟩
     refine⟨F1++F2',?_,?_,?_⟩;simp only[List.set_cons_succ];rw[yS];exact⟨F1,F2',rfl,hA1,hA⟩;have UM:=List.nodup_cons.1 hN;refine List.nodup_cons.2 ⟨fun c=>?_,List.nodup_append.2 ⟨Va.1,UM.2,fun x hx y hy c=>?_⟩⟩;rcases Zax.1 c with c | c;exact Wl c;exact UM.1 c;subst c;rcases hI x hy with h | h;exact Va.2.2 _ hx _ h rfl;exact C8 x h (by simp[hx]);intro y hy;rcases Zax.1 hy with h | h;left;simp[h];rcases hI y h with h | h;left;simp[h];right;exact h
theorem CP{w w':World}{Pb:Nat->Prop}:∀ p,SS w w' Pb p
 | []=>fun v u u' g o g' o' F Rz Sq h hnd hP e hr hn Sa C8 I2 k1=>by
   simp only[V.at,Zan,Zaq]at e;obtain⟨rfl,rfl,rfl⟩:=e;obtain⟨cs,cells,hb,_,_⟩:=h;obtain⟨x4,Qn,_,_,QC⟩:=I2.SE cells hb;exact⟨Rz,⟨Sq,x4,Qn,hr,QC⟩,List.nodup_cons.2 ⟨fun hg=>C8 g hg Zad,Sa⟩,fun x hx=>.inr hx⟩
 | j::p=>fun v u u' g o g' o' F Rz Sq h hnd hP e hr hn Sa C8 I2 k1=>by
   have IH:SS w w' Pb p:=CP p;simp only[V.at]at e;simp only[V.set];split at e;rename_i vs;split at e;rename_i x hx
   (try simp only[hx])
   rw[Em]at h;obtain⟨F1,h1,h2,h3⟩:=Ba IH hr hn Sa I2 k1 vs o F j h hnd hP C8 hx e;exact⟨F1,Em.2 h1,h2,h3⟩;simp at e;rename_i sz xs g1 o1 c1;split at e;rename_i x hx
   (try simp only[hx])
   obtain⟨cs,cells,hb,Un,hc⟩:=h;rcases Un with ⟨_,rfl,_⟩ | ⟨TQ,b9,hlc,hcs,ha,Wl,flat,F',Qt,rfl,R',l4,hsz,R4⟩;simp at hx;have Qq:=List.nodup_cons.1 hnd;have hj:j<=xs.length:=Zbr
   have e':V.at g1 (o1+V.ns (xs.take j)) x p=some (g',o',u):=by rw[fL xs j ha hj];exact e
   obtain⟨F1,⟨Rb,Ry,Us,YA,YV⟩,hN,hI⟩:=Ba IH hr hn Sa I2 k1 xs o1 F' j ⟨flat,Qt,l4,R',R4⟩ Qq.2 (fun x hx=>hP x Zbv) (fun x hx c=>C8 x hx Zbw) hx e';have TJ:g'=g1\/g'∈F':=by
    obtain⟨c,F2,N5,hF,QC⟩:=jP xs R' hx;rcases lg p (v:=x) ⟨c,Qt,l4,N5,fun i u hu=>by rw[Zbj];exact R4 _ _ (QC i u hu)⟩ e' with ⟨h1,_⟩ | h1;exact .inl h1;exact .inr (hF _ h1)
   have hne:g≠g':=by
    rintro rfl;rcases TJ with h | h;exact Qq.1 (by simp[h]);exact Qq.1 (by simp[h])
   obtain⟨e1,fr,hbg,hfr⟩:=hb;have VI:Ry.size=Qt.size:=by
    by_cases VT:g1=g';subst VT;obtain⟨c2,⟨e2,f2,l6,_⟩,QA,_⟩:=I2.SE Qt l4;obtain⟨e3,f3,n9,_⟩:=Us;rw[l6]at n9;simp only[Zan,Obj.cells.injEq]at n9;obtain⟨rfl,_,_⟩:=n9;exact QA;obtain⟨e2,f2,l6,_⟩:=l4;obtain⟨e3,f3,n9,_⟩:=Us;rw[I2.RU g1 VT,l6]at n9;simp only[Zan,Obj.cells.injEq]at n9;rw[n9.1]
   refine⟨g1::F1,⟨cs,cells,⟨e1,fr,(I2.RU g hne).trans hbg,hfr⟩,.inr ⟨TQ,b9,by simpa using hlc,by simpa using hcs,?_,Wl,Rb,F1,Ry,rfl,YA,Us,Zac,YV⟩,hc⟩,?_,?_⟩;intro y hy;rcases List.mem_or_eq_of_mem_set hy with h | h;exact ha y h;rw[h,qK p e' hn];exact ha x (Za7 hx);refine List.nodup_cons.2 ⟨fun c=>?_,hN⟩;rcases List.mem_cons.1 c with h | h;exact Qq.1 (by simp[h]);rcases hI g h with h | h;exact Qq.1 (by simp[h]);exact C8 g h Zad;intro y hy;rcases List.mem_cons.1 hy with h | h;left;simp[h];rcases hI y h with h | h;left;simp[h];right;exact h;simp at e;simp at e
end
section
variable {w w':World} {Pb Kb:Nat->Prop} {N:Nat} {A A':AS} {a:Act} {F:r5->List Nat} {P:Program}
mutual
theorem oN:∀ (v:V) {cs F},R w Pb v cs F->∀ c,c∈cs->c.oneCell'=true
 | .lit x,_,_,h=>by obtain⟨h1,rfl,_⟩:=h;simpa using h1
 | .agg vs,_,_,h=>by simp only[R]at h;exact vT vs h
 | .tup _,_,_,h=>by simp[R]at h
 | .gv _ _,_,_,h=>by simp[R]at h
 | .sl ..,_,_,h=>by obtain⟨_,A,c,rfl,_⟩:=h;simp[Value.oneCell']
 | .own ..,_,_,h=>by rcases h with ⟨_,_,_,A,rfl⟩ | ⟨_,_,_,rfl,_⟩ <;> simp[Value.oneCell']
 | .hd ..,_,_,h=>by obtain⟨_,_,A,rfl,_⟩:=h;simp[Value.oneCell']
 | .ow ..,_,_,h=>by obtain⟨g,o,c,h⟩:=h;rcases h with ⟨_,_,_,A,rfl⟩ | ⟨_,_,_,rfl,_⟩ <;> simp[Value.oneCell']
 | .om ..,_,_,h=>by obtain⟨_,rfl,_⟩:=h;simp[Value.oneCell']
 | .mp ..,_,_,h=>by obtain⟨_,g,rfl,_⟩:=h;simp[Value.oneCell']
 | .ptr ..,_,_,h=>by obtain⟨_,rfl⟩:=h;simp[Value.oneCell']
 | .ep _,_,_,h=>by obtain⟨_,b,o,flat,rfl,_⟩:=h;simp[Value.oneCell']
 | .c9,_,_,h=>by obtain⟨_,x,rfl,hx⟩:=h;simpa using hx
theorem vT:∀ (vs:List V) {cs F},RL w Pb vs cs F->∀ c,c∈cs->c.oneCell'=true
 | [],_,_,h=>by rw[h.1];simp
 | v::vs,_,_,h=>by
   obtain⟨c1,c2,F1,F2,rfl,_,h1,h2⟩:=h;intro c hc;rcases Zax.1 hc with h | h;exact oN v h1 c h;exact vT vs h2 c h
end
def V.isVal:V->Bool | .tup _=>false | .gv _ _=>false | .c9=>false | _=>true
theorem jQ{x:Value}(h:x.oneCell'=true):x.cells= #[x]:=by cases x <;> simp[Value.oneCell']at h <;> rfl
theorem Dl{v:V}{x:Value}{Fv:List Nat}(h:RV w Pb v x Fv)(hv:v.isVal=true):R w Pb v x.cells.toList Fv:=by
 cases v with
 | tup _=>simp[V.isVal]at hv
 | gv _ _=>simp[V.isVal]at hv
 | c9=>simp[V.isVal]at hv
 | agg us=>obtain⟨cs,rfl,h⟩:=h;simp only[R,Value.cells];exact h
 | own sz xs g o c=>have h:R w Pb (.own sz xs g o c) [x] Fv:=h;rw[jQ (oN _ h x Zad)];exact h
 | ow sz xs=>have h:R w Pb (.ow sz xs) [x] Fv:=h;rw[jQ (oN _ h x Zad)];exact h
 | om es g=>have h:R w Pb (.om es g) [x] Fv:=h;rw[jQ (oN _ h x Zad)];exact h
 | mp es=>have h:R w Pb (.mp es) [x] Fv:=h;rw[jQ (oN _ h x Zad)];exact h
 | lit y=>have h:R w Pb (.lit y) [x] Fv:=h;rw[jQ (oN _ h x Zad)];exact h
 | sl f xs=>have h:R w Pb (.sl f xs) [x] Fv:=h;rw[jQ (oN _ h x Zad)];exact h
 | hd r p sz g o lo n c=>have h:R w Pb (.hd r p sz g o lo n c) [x] Fv:=h;rw[jQ (oN _ h x Zad)];exact h
 | ptr r p g o=>have h:R w Pb (.ptr r p g o) [x] Fv:=h;rw[jQ (oN _ h x Zad)];exact h
 | ep v=>have h:R w Pb (.ep v) [x] Fv:=h;rw[jQ (oN _ h x Zad)];exact h
theorem J7.nil(w:World)(g o:Nat):J7 w w g o []:=
 ⟨rfl,rfl,rfl,rfl,fun _ _=>rfl,Shp.refl _,fun cells hb=>⟨cells,hb,rfl,fun _ _=>rfl,fun j u hu=>by simp at hu⟩⟩
theorem J7.cons{w1 w2:World}{g o:Nat}{v:Value}{vs:List Value}(h1:J7 w w1 g o [v])(h2:J7 w1 w2 g (o+1) vs):J7 w w2 g o (v::vs):=by
 refine⟨h2.os.trans h1.os,h2.tape.trans h1.tape,h2.output.trans h1.output,h2.size.trans h1.size,fun k hk=>(h2.RU k hk).trans (h1.RU k hk),h1.shape.trans h2.shape,fun cells hb=>?_⟩;obtain⟨c1,l4,Rj,hf1,YI⟩:=h1.SE cells hb;obtain⟨c2,l6,QA,TM,Zm⟩:=h2.SE c1 l4;refine⟨c2,l6,QA.trans Rj,fun j hj=>?_,fun j u hu=>?_⟩;simp only[Zar]at hj;rw[TM j Zac,hf1 j Zal];cases j with
 | zero=>
   simp at hu;subst hu;rw[TM _ Zac];exact YI 0 v rfl
 | succ j=>
   have:=Zm j u (by simpa using hu);rw[<- this];congr 1;omega
theorem kj{g o:Nat}:∀ (vs:List Value) (i:Nat) (w:World) (cells:Array Value),Blk w g cells->o+i+vs.length<=cells.size->(∀ v,v∈vs->v.oneCell'=true)->
 ∃ w',(storeCells ⟨g,o,none⟩ vs i).run P w=.ok () w'/\J7 w w' g (o+i) vs
 | [],i,w,cells,_,_,_=>⟨w,rfl,J7.nil w g _⟩
 | v::vs,i,w,cells,hb,hl,h1=>by
   obtain⟨e,fr,V5,hfr⟩:=hb;simp only[Zar]at hl;have hlt:o+i<cells.size:=Zac;have hc:w.cell? ⟨g,o+i,none⟩=some cells[o+i]:=by simp[World.cell?,V5,hlt]
   have hf:w.frozen? ⟨g,o+i,none⟩=false:=by
    have:=hfr (o+i) Zac;simp only[World.frozen?,V5,Bool.and_eq_false_iff,decide_eq_false_iff_not];by_cases h:fr.1<=o+i;right;exact fun c=>this ⟨h,c⟩;left;exact h
   have I2:J7 w (w.setCell ⟨g,o+i,none⟩ v) g (o+i) [v]:=by
    refine⟨rfl,rfl,rfl,by simp[World.setCell],fun k hk=>Below.heap_setCell _ _ _ _ hk,fun k c e2 fr2 hk=>?_,fun x4 Qn=>?_⟩;by_cases hkg:k=g;subst hkg;exact⟨c.setIfInBounds (o+i) v,by simp[World.setCell,Array.getElem?_modify,hk],Zad⟩;exact⟨c,(Below.heap_setCell _ _ _ _ hkg).trans hk,rfl⟩;obtain⟨e',fr',Qn,hfr'⟩:=Qn;refine⟨x4.setIfInBounds (o+i) v,⟨e',fr',?_,by simpa using hfr'⟩,Zad,fun j hj=>?_,fun j u hu=>?_⟩;simp[World.setCell,Array.getElem?_modify,Qn];rw[Array.getElem?_setIfInBounds_ne];simp at hj;omega;cases j with
    | zero=>
      simp at hu;subst hu;rw[V5]at Qn;simp only[Zan,Obj.cells.injEq]at Qn;obtain⟨rfl,_,_⟩:=Qn;simp[hlt]
    | succ j=>simp at hu
   have l4:Blk (w.setCell ⟨g,o+i,none⟩ v) g (cells.setIfInBounds (o+i) v):=
    ⟨e,fr,by simp[World.setCell,Array.getElem?_modify,V5],by simpa using hfr⟩
   obtain⟨w',hr,QP⟩:=kj (g:=g) (o:=o) vs (i+1) _ _ l4 (by rw[Array.size_setIfInBounds];omega) (fun u hu=>h1 u (by simp[hu]));refine⟨w',?_,I2.cons (by rw[Zbj];exact QP)⟩;simp only[storeCells,Za0,fF,run_store P w _ v .plain (h1 v Zad),hc,hf,Bool.false_eq_true,if_false,Zas];exact hr
theorem Ls{p:List Nat} {x u u':V} {sz j g1 o1 c1 g' o':Nat} {xs:List V} {cs Sq:List Value} {F1 Rz:List Nat} (Un:R w Pb (.own sz xs g1 o1 c1) cs F1) (hnd:F1.Nodup) (hP:∀ x,x∈F1->¬ Pb x)
 (hx:xs[j]? =some x) (e:V.at g1 (o1+j*sz) x p=some (g',o',u)) (hr:R w' Pb u' Sq Rz) (hn:u'.n=u.n) (Sa:Rz.Nodup) (C8:∀ x,x∈Rz->x ∉ F1) (I2:J7 w w' g' o' Sq)
 (k1:∀ x,Pb x->w'.heap[x]? =w.heap[x]?):∃ F2,R w' Pb (.own sz (xs.set j (x.set p u')) g1 o1 c1) cs F2/\F2.Nodup/\(∀ y,y∈F2->y∈F1\/y∈Rz)/\g'∈F1:=by
 rcases Un with ⟨_,rfl,_⟩ | ⟨TQ,b9,hlc,hcs,ha,Wl,flat,F',Qt,rfl,R',l4,hsz,R4⟩;simp at hx;have hj:j<=xs.length:=Zbr
 have e':V.at g1 (o1+V.ns (xs.take j)) x p=some (g',o',u):=by rw[fL xs j ha hj];exact e
 obtain⟨F2,⟨Rb,Ry,Us,YA,YV⟩,hN,hI⟩:=Ba (CP p) hr hn Sa I2 k1 xs o1 F' j ⟨flat,Qt,l4,R',R4⟩ hnd hP C8 hx e';have TJ:g'=g1\/g'∈F':=by
  obtain⟨c,F2,N5,hF,QC⟩:=jP xs R' hx;rcases lg p (v:=x) ⟨c,Qt,l4,N5,fun i u hu=>by rw[Zbj];exact R4 _ _ (QC i u hu)⟩ e' with ⟨h1,_⟩ | h1;exact .inl h1;exact .inr (hF _ h1)
 have VI:Ry.size=Qt.size:=by
  by_cases VT:g1=g';subst VT;obtain⟨c2,⟨e2,f2,l6,_⟩,QA,_⟩:=I2.SE Qt l4;obtain⟨e3,f3,n9,_⟩:=Us;rw[l6]at n9;simp only[Zan,Obj.cells.injEq]at n9;obtain⟨rfl,_,_⟩:=n9;exact QA;obtain⟨e2,f2,l6,_⟩:=l4;obtain⟨e3,f3,n9,_⟩:=Us;rw[I2.RU g1 VT,l6]at n9;simp only[Zan,Obj.cells.injEq]at n9;rw[n9.1]
 refine⟨g1::F2,.inr ⟨TQ,b9,by simpa using hlc,by simpa using hcs,?_,Wl,Rb,F2,Ry,rfl,YA,Us,Zac,YV⟩,hN,?_,?_⟩;intro y hy;rcases List.mem_or_eq_of_mem_set hy with h | h;exact ha y h;rw[h,qK p e' hn];exact ha x (Za7 hx);intro y hy;rcases List.mem_cons.1 hy with h | h;left;simp[h];rcases hI y h with h | h;left;simp[h];right;exact h;rcases TJ with h | h <;> simp[h]
def AS.setAt(A:AS)(r:r5)(p:List Nat)(v:V):AS:=
 match r with
 | .key k=>match lk k A.h with
   | some (g,t)=>{ A with h:=(k,(g,t.set p v))::A.h }
   | none=>A
 | .slot i=>{ A with t:=(i,(A.get i).set p v)::A.t }
theorem C3.store(hs:C3 N Pb Kb A a w F) {r:r5} {p:List Nat} {g o:Nat} {old v:V} {cs:List Value} {Fv:List Nat} (G5:A.at r p=some (g,o,old)) (hr:R w Pb v cs Fv) (hn:v.n=old.n)
 (hnd:Fv.Nodup) (C8:∀ r g,g∈Fv->g ∉ F r) (hfr:∀ g,g∈Fv->¬ Kb g/\g<w.heap.size) (I2:J7 w w' g o cs):∃ F',C3 N Pb Kb (A.setAt r p v) a w' F'/\¬ Kb g:=by
 have Zq:∀ r g,g∈F r->¬ Pb g:=fun r g hg c=>(hs.free r g hg).1 (hs.sub g c)
 have main:∃ Fr,g∈F r/\(∀ x,Pb x->w'.heap[x]? =w.heap[x]?)/\Fr.Nodup/\(∀ y,y∈Fr->y∈F r\/y∈Fv)/\
  (match r with
   | .key k=> ∀ g0 t,lk k A.h=some (g0,t)->∃ F',Fr=g0::F'/\At w' Pb (t.set p v) g0 0 F'
   | .slot i=>RV w' Pb ((A.get i).set p v) (a.tmps.getD i undef) Fr):=by
  have kk:∀ r,g∈F r->∀ x,Pb x->w'.heap[x]? =w.heap[x]? :=fun r hg x hx=>I2.RU x (by rintro rfl;exact Zq r _ hg hx);have N5:∀ r,g∈F r->R w' Pb v cs Fv:=fun r hg=>jN v hr (kk r hg) (fun x hx=>I2.RU x (by rintro rfl;exact C8 r _ hx hg)) (fun _ h=>h) (fun x hx c=>(hfr x hx).1 (hs.sub x c));cases r with
  | key k=>
    simp only[AS.at]at G5;split at G5
    case h_2=>simp at G5
    rename_i g0 t hk;obtain⟨F',e,hA⟩:=hs.root k g0 t hk;have UK:g∈F (.key k):=by
     rw[e];rcases lg p hA G5 with ⟨rfl,_⟩ | h;simp;simp[h]
    have hnd0:=hs.nodup (.key k);rw[e]at hnd0;obtain⟨F1,h1,h2,h3⟩:=CP (w:=w) (w':=w') p _ _ _ _ _ _ _ _ _ _ hA hnd0 (fun x hx=>Zq (.key k) x (by rw[e];exact hx)) G5 (N5 _ UK) hn hnd (fun x hx c=>C8 (.key k) x hx (by rw[e];exact c)) I2 (kk _ UK);refine⟨g0::F1,UK,kk _ UK,h2,fun y hy=>?_,fun g0' t' Sv=>?_⟩;rw[e];rcases List.mem_cons.1 hy with h | h;left;simp[h];rcases h3 y h with h | h;left;simp[h];exact .inr h;rw[hk]at Sv;simp only[Zan,Zaq]at Sv;obtain⟨rfl,rfl⟩:=Sv;exact⟨F1,rfl,h1⟩
  | slot i=>
    simp only[AS.at]at G5;split at G5
    case h_2=>simp at G5
    rename_i sz xs g1 o1 c1 j p hi;have hrv:=hs.slot i;rw[hi]at hrv;simp only[V.at]at G5;split at G5
    case h_2=>simp at G5
    rename_i x hx;have UK:g∈F (.slot i):=by
     rcases hrv with ⟨_,rfl,_⟩ | ⟨_,_,_,_,ha,_,flat,F',x4,hF,R',Qn,_,QC⟩;simp at hx;obtain⟨c,Rz,N5,Sy,Sp⟩:=jP xs R' hx;have hj:j<=xs.length:=Zbr
     rw[fL xs j ha hj]at Sp;rw[hF];rcases lg p (v:=x) ⟨c,x4,Qn,N5,fun i u hu=>Zbs⟩ G5 with ⟨rfl,_⟩ | h;simp;simp[Sy _ h]
    obtain⟨F2,h1,h2,h3,_⟩:=Ls (w:=w) (w':=w') hrv (hs.nodup _) (Zq _) hx G5 (N5 _ UK) hn hnd (C8 _) I2 (kk _ UK);refine⟨F2,UK,kk _ UK,h2,h3,?_⟩;simp only[hi,V.set,hx];exact h1
 obtain⟨Fr,UK,kk,hndr,YO,hm⟩:=main;have VU:∀ y,y∈Fr->¬ Kb y/\y<w.heap.size:=fun y hy=>by
  rcases YO y hy with h | h;exact hs.free r y h;exact hfr y h
 have Sb:∀ r' x,r'≠r->x∈F r'->w'.heap[x]? =w.heap[x]? :=fun r' x hne hx=>I2.RU x (by rintro rfl;exact hs.du r' r hne _ hx UK);refine⟨dr F r Fr,⟨?_,?_,fun i=>?_,fun k g0 t hk=>?_,fun r1 r2 hne y hy=>?_,fun r1=>?_,fun r1 y hy=>?_,hs.sub,fun y hy=>by rw[I2.size];exact hs.bound y hy⟩,(hs.free r g UK).1⟩;exact hs.size;exact hs.defers;by_cases Wk:r=.slot i;subst Wk;simp only[dr,if_true,AS.setAt,AS.get,lk,Option.getD_some];exact hm;simp only[dr,if_neg (Ne.symm Wk)];have:(A.setAt r p v).get i=A.get i:=by
  cases r with
  | key k=>simp only[AS.setAt];split <;> rfl
  | slot j=>simp only[AS.setAt,AS.get,lk];rw[if_neg (fun c=>Wk (by rw[c]))]
 rw[this];exact qI _ (hs.slot i) kk (fun x hx=>Sb _ x (Ne.symm Wk) hx) (fun _ h=>h) (fun x hx=>Zq _ x hx);by_cases WE:r=.key k;subst WE;simp only[AS.setAt]at hk;have UY:∃ g1 t1,lk k A.h=some (g1,t1):=by
  simp only[AS.at]at G5;split at G5;rename_i g1 t1 h;exact⟨g1,t1,h⟩;simp at G5
 obtain⟨g1,t1,UY⟩:=UY;rw[UY]at hk;simp only[lk,if_true,Zan,Zaq]at hk;obtain⟨rfl,rfl⟩:=hk;obtain⟨F',e,hA⟩:=hm _ _ UY;exact⟨F',by simp[dr,e],hA⟩;have Sv:lk k A.h=some (g0,t):=by
  cases r with
  | slot j=>exact hk
  | key k'=>
    simp only[AS.setAt]at hk;split at hk;simp only[lk]at hk;rwa [if_neg (fun c=>WE (by rw[c]))]at hk;exact hk
 obtain⟨F',e,hA⟩:=hs.root k g0 t Sv;refine⟨F',by simp only[dr,if_neg (Ne.symm WE)];exact e,ug hA kk (fun x hx=>Sb (.key k) x (Ne.symm WE) (by rw[e];simp[hx])) (fun x hx=>Zq (.key k) x (by rw[e];simp[hx])) (fun cells hb=>?_)⟩;obtain⟨e',fr,hb,hf⟩:=hb;exact⟨cells,⟨e',fr,(Sb (.key k) g0 (Ne.symm WE) (by rw[e];simp)).trans hb,hf⟩,fun _ _ _=>rfl⟩;simp only[dr]at hy ⊢;split at hy;rename_i h1;rw[if_neg (fun c=>hne (h1.trans c.symm))];subst h1;rcases YO y hy with h | h;exact hs.du _ _ hne y h;exact C8 r2 y h;rename_i h1;split;rename_i h2;subst h2;intro c;rcases YO y c with h | h;exact hs.du _ _ hne y hy h;exact C8 r1 y h hy;exact hs.du r1 r2 hne y hy;simp only[dr];split;exact hndr;exact hs.nodup r1;simp only[dr]at hy;rw[I2.size];split at hy;exact VU y hy;exact hs.free r1 y hy
end
mutual
def V.flat:V->Option (List Value)
 | .lit x=>if x.oneCell' then some [x] else none
 | .sl true []=>some [.slice none 0 0]
 | .agg vs=>V.AO vs
 | _=>none
def V.AO:List V->Option (List Value)
 | []=>some []
 | v::vs=>match v.flat,V.AO vs with
   | some a,some b=>some (a++b)
   | _,_=>none
end
def rJ(P:Program)(T:Nat)(v:V):Prop:= ∃ inf z,P.info? T=some inf/\inf.zero=some z/\v.flat=some z.cells.toList
section
variable {w w':World} {Pb Kb:Nat->Prop} {N:Nat} {A A':AS} {a:Act} {F:r5->List Nat} {P:Program}
mutual
theorem wS:∀ (v:V) {cs},v.flat=some cs->R w Pb v cs []
 | .lit x,cs,h=>by
   simp only[V.flat]at h;split at h;rename_i hx;simp at h;subst h;exact⟨hx,rfl,rfl⟩;simp at h
 | .sl true [],cs,h=>by simp[V.flat]at h;subst h;exact⟨rfl,none,0,rfl,Zbc _,fun _=>rfl,.inl rfl⟩
 | .sl true (x::xs),cs,h=>by simp[V.flat]at h
 | .sl false xs,cs,h=>by simp[V.flat]at h
 | .agg vs,cs,h=>by simp only[V.flat]at h;simp only[R];exact Gl vs h
 | .tup _,_,h=>by simp[V.flat]at h
 | .gv _ _,_,h=>by simp[V.flat]at h
 | .own ..,_,h=>by simp[V.flat]at h
 | .hd ..,_,h=>by simp[V.flat]at h
 | .ow ..,_,h=>by simp[V.flat]at h
 | .om ..,_,h=>by simp[V.flat]at h
 | .mp ..,_,h=>by simp[V.flat]at h
 | .ptr ..,_,h=>by simp[V.flat]at h
 | .ep _,_,h=>by simp[V.flat]at h
 | .c9,_,h=>by simp[V.flat]at h
theorem Gl:∀ (vs:List V) {cs},V.AO vs=some cs->RL w Pb vs cs []
 | [],cs,h=>by simp[V.AO]at h;subst h;exact⟨rfl,rfl⟩
 | v::vs,cs,h=>by
   simp only[V.AO]at h;split at h;rename_i a b h1 h2;simp at h;subst h;exact⟨a,b,[],[],rfl,rfl,wS v h1,Gl vs h2⟩;simp at h
end
theorem alloc_old(w:World)(o:Obj)(k:Nat)(h:k<w.heap.size):(w.alloc o).heap[k]? =w.heap[k]? :=Below.heap_alloc w o k h
theorem fh(w:World)(o:Obj):(w.alloc o).heap.size=w.heap.size+1:=Zad
theorem jU(w:World)(o:Obj):(w.alloc o).heap[w.heap.size]? =some o:=heap_alloc_new w o
theorem C3.sA(hs:C3 N Pb Kb A a w F)(o:Obj):C3 N Pb Kb A a (w.alloc o) F:=
 hs.grow (fun k hk=>alloc_old w o k hk) Zbx (fun _ h=>h) (fun g hg=>.inl hg) hs.sub
theorem C3.OW(hs:C3 N Pb Kb A a w F)(o:Obj):C3 N (fun g=>Pb g\/g=w.heap.size) (fun g=>Kb g\/g=w.heap.size) A a (w.alloc o) F:=
 hs.grow (fun k hk=>alloc_old w o k hk) Zbx (fun _ h=>.inl h) (fun g hg=>hg.imp id fun h=>Zbx) (fun g hg=>hg.imp (hs.sub g) id)
theorem C3.Gb(hs:C3 N Pb Kb A a w F){k g:Nat}{v:V}{Fv:List Nat}(hA:At w Pb v g 0 Fv)(hnd:(g::Fv).Nodup)(C8:∀ r x,x∈g::Fv->x ∉ F r)(hfr:∀ x,x∈g::Fv->¬ Kb x/\x<w.heap.size):
 C3 N Pb Kb { A with h:=(k,(g,v))::A.h } a w (dr F (.key k) (g::Fv)) where
 size:=hs.size
 defers:=hs.defers
 slot:=fun i=>by simp only[dr,reduceCtorEq,if_false];exact hs.slot i
 root:=fun k' g' v' hk=>by
  simp only[lk]at hk;by_cases e:k'=k;subst e;simp only[if_true,Zan,Zaq]at hk;obtain⟨rfl,rfl⟩:=hk;exact⟨Fv,by simp[dr],hA⟩;rw[if_neg e]at hk;obtain⟨F',e',hA'⟩:=hs.root k' g' v' hk;exact⟨F',by simp only[dr];rw[if_neg (fun c=>e (by injection c))];exact e',hA'⟩
 du:=fun r r' hne x hx=>by
  simp only[dr]at hx ⊢;split at hx;rename_i h1;rw[if_neg (fun c=>hne (h1.trans c.symm))];exact C8 r' x hx;split;exact fun c=>C8 r x c hx;exact hs.du r r' hne x hx
 nodup:=fun r=>by
  simp only[dr];split;exact hnd;exact hs.nodup r
 free:=fun r x hx=>by
  simp only[dr]at hx;split at hx;exact hfr x hx;exact hs.free r x hx
 sub:=hs.sub
 bound:=hs.bound
theorem F7.alloc(hK:∀ g,Kb g->g<w.heap.size)(o:Obj):F7 Kb w (w.alloc o):=
 ⟨rfl,rfl,rfl,Zbx,fun g hg=>alloc_old w o g (hK g hg),Shp.of_eq fun g hg=>alloc_old w o g hg⟩
theorem C3.Lu(hs:C3 N Pb Kb A a w F){d:Nat}(hd:d<N){v:V}{cs:Array Value}{e:TypeId}(hr:R w Pb v cs.toList []):
 ∃ F',C3 N Pb Kb ⟨(A.put (some d) (.ptr (.key d) [] w.heap.size 0)).t,(d,(w.heap.size,v))::A.h⟩ (a.put (some d) (.pointer (some ⟨w.heap.size,0,none⟩))) (w.alloc (.cells cs e)) F':=by
 have h1:=hs.sA (.cells cs e);have h2:=h1.put (d:=d) (v:=.ptr (.key d) [] w.heap.size 0) (x:=.pointer (some ⟨w.heap.size,0,none⟩)) (F':=[]) hd ⟨rfl,rfl⟩ Zad Zad Zad
 have hA:At (w.alloc (.cells cs e)) Pb v w.heap.size 0 []:=
  ⟨cs.toList,cs,⟨e,(0,0),jU w _,fun i _ h=>by omega⟩,jN v hr (fun g hg=>alloc_old w _ g (hs.bound g (hs.sub g hg))) Zad (fun _ h=>h) Zad,fun j u hu=>by simpa using hu⟩
 refine⟨_,h2.Gb (k:=d) hA Zad (fun r x hx c=>?_) (fun x hx=>?_)⟩;simp at hx;subst hx;simp only[dr]at c;split at c;simp at c;have:=(hs.free r _ c).2;omega;simp at hx;subst hx;refine⟨fun c=>?_,Zbx⟩;have:=hs.bound _ c;omega
theorem yb{o:Oper} {K:AS->Prop} {d:Nat} {v:V} (hd:o.dst=some d) (hN:d<N)
 (G8:∀ Pb Kb a w F,C3 N Pb Kb A a w F->∃ cs e,(execOp a.eval o).run P w=.ok (.value (.pointer (some ⟨w.heap.size,0,none⟩))) (w.alloc (.cells cs e))/\R w Pb v cs.toList [])
 (hK:∀ g,K ⟨(A.put (some d) (.ptr (.key d) [] g 0)).t,(d,(g,v))::A.h⟩):N' P N o A K:=by
 intro Pb Kb a w F Q hs;obtain⟨cs,e,hx,hr⟩:=G8 Pb Kb a w F hs;unfold Oper.wp;rw[hx,Oper.upon_value,hd];obtain⟨F',H4⟩:=hs.Lu hN (e:=e) hr;exact⟨_,Pb,Kb,F',hK _,H4,fun _ h=>h,fun _ h=>h,fun _ h=>.inl h,F7.alloc hs.bound _⟩
theorem mN(e:TypeId)(cs:Array Value):(newRow e cs).run P w=.ok ⟨w.heap.size,0,none⟩ (w.alloc (.cells cs e)):=rfl
theorem wB{o:Oper} {K:AS->Prop} {d T:Nat} {v:V} (ho:o.op=.alloc T) (hd:o.dst=some d) (hN:d<N) (hz:rJ P T v)
 (hK:∀ g,K ⟨(A.put (some d) (.ptr (.key d) [] g 0)).t,(d,(g,v))::A.h⟩):N' P N o A K:=by
 refine yb hd hN (fun Pb Kb a w F hs=>?_) hK;obtain⟨inf,z,h1,h2,h3⟩:=hz;refine⟨z.cells,T,?_,wS v h3⟩;simp[execOp,ho,Instr.alloc,zeroValue,typeInfo,h1,h2,newVar,mN]
theorem Mp{o:Oper} {K:AS->Prop} {d T:Nat} {x:Operand} (ho:o.op=.box T x) (hd:o.dst=some d) (hN:d<N) (hv:(A.cp x).isVal=true)
 (hK:∀ g,K ⟨(A.put (some d) (.ptr (.key d) [] g 0)).t,(d,(g,A.cp x))::A.h⟩):N' P N o A K:=by
 refine yb hd hN (fun Pb Kb a w F hs=>?_) hK;exact⟨(a.eval x).cells,T,by simp[execOp,ho,Instr.box,newVar,mN],Dl (vb hs x) hv⟩
theorem vW{o:Oper} {K:AS->Prop} {T:Nat} {x y:Operand} {r:r5} {p:List Nat} {g g':Nat} {i:TI} {old:V} (ho:o.op=.store T x y) (hd:o.dst=none) (hi:ti P T=some i)
 (hx:A.ev x=.ptr r p g g') (G5:(A.drop y).at r p=some (g,g',old)) (hv:(A.ev y).isVal=true) (hn:(A.ev y).n=old.n) (XK:(A.ev y).n=i.sz) (hK:K ((A.drop y).setAt r p (A.ev y))):N' P N o A K:=by
 intro Pb Kb a w F Q hs;obtain⟨Fx,F',hr,H4,hnd,C8,hfr,_⟩:=hs.take y;obtain⟨_,XI⟩:=fv hs x;rw[hx]at XI;have hp:a.eval x=.pointer (some ⟨g,g',none⟩):=by have:=XI.2;simpa using this
 have hR:=Dl hr hv;obtain⟨_,cs0,cells,hb,Un,TQ⟩:=ld H4 G5;have YK:=ft _ Un;have hl:=ft _ hR;have hle:g'+(a.eval y).cells.toList.length<=cells.size\/(a.eval y).cells.toList=[]:=by
  by_cases hne:cs0=[];right;exact Za5 (by rw[hl,hn,<- YK,hne];rfl);left;have:=BD TQ hne;omega
 have I2:∃ w',(storeCells ⟨g,g',none⟩ (a.eval y).cells.toList 0).run P w=.ok () w'/\J7 w w' g g' (a.eval y).cells.toList:=by
  rcases hle with h | h;obtain⟨w',h1,h2⟩:=kj (P:=P) (g:=g) (o:=g') (a.eval y).cells.toList 0 w cells hb Zac (oN _ hR);exact⟨w',h1,h2⟩;rw[h];exact⟨w,rfl,J7.nil w g g'⟩
 obtain⟨w',G8,I2⟩:=I2;have hx:(execOp a.eval o).run P w=.ok .skip w':=by
  have hsz:(a.eval y).cells.size=i.sz:=by rw[<- XK,<- hl];simp
  simp only[execOp,ho,Instr.storeAt,hp,Instr.sureAddr,Za0,Za1,Zas,storeVar,ey hi,hsz,ne_eq,not_true_eq_false,if_false,G8]
 unfold Oper.wp;rw[hx,Oper.upon_skip,hd];obtain⟨F2,QA,hg⟩:=H4.store G5 hR hn hnd C8 hfr I2;exact⟨_,Pb,Kb,F2,hK,QA,fun _ h=>h,fun _ h=>h,fun _ h=>.inl h,⟨I2.os,I2.tape,I2.output,by rw[I2.size];omega,fun k hk=>I2.RU k (fun c=>hg (c ▸ hk)),I2.shape⟩⟩
def ig(A:AS)(k:Nat):List (Nat×Operand)->Option (List V)
 | []=>some []
 | (i,x)::r=>if i=k then match ig A (k+1) r with | some vs=>some (A.cp x::vs) | none=>none else none
theorem qQ(hs:C3 N Pb Kb A a w F){s:Nat}:∀ (j8:List (Nat×Operand)) (k:Nat) {vs:List V},ig A k j8=some vs->(∀ v,v∈vs->v.isVal=true/\v.n=s)->
 ∃ xs:List Value,(j8.map fun (i,x)=>(i,a.eval x))=(xs.zipIdx k).map (fun x=>(x.2,x.1))/\(∀ x,x∈xs->x.cells.size=s)/\RL w Pb vs (xs.flatMap fun v=>v.cells.toList) []/\xs.length=vs.length
 | [],k,vs,h,_=>by simp[ig]at h;subst h;exact⟨[],rfl,Zad,⟨rfl,rfl⟩,rfl⟩
 | (i,x)::r,k,vs,h,hv=>by
   simp only[ig]at h;split at h
   case isFalse=>simp at h
   rename_i e;subst e;split at h
   case h_2=>simp at h
   rename_i vs' hr;simp at h;subst h;obtain⟨xs,h1,h2,h3,h4⟩:=qQ hs r (i+1) hr (fun v WC=>hv v (by simp[WC]));have hR:=Dl (vb hs x) (hv (A.cp x) Zad).1;have hl:=ft _ hR;refine⟨a.eval x::xs,by simp[h1],?_,⟨_,_,[],[],Zad,rfl,hR,h3⟩,by simp[h4]⟩;intro y hy;rcases List.mem_cons.1 hy with rfl | h;rw[<- (hv (A.cp x) Zad).2,<- hl];simp;exact h2 y h
theorem Be{o:Oper} {K:AS->Prop} {T e len:Nat} {j8:Array (Nat×Operand)} {i:TI} {vs:List V} (ho:o.op=.buildSlice T len j8) (hd:dP N o.dst) (hT:tD P T=some (.sl e)) (hi:ti P e=some i)
 (hz:∃ inf z,P.info? e=some inf/\inf.zero=some z) (VD:ig A 0 j8.toList=some vs) (hlen:vs.length=len) (Uh:len*i.sz<=16777216) (M8:0<i.sz) (hv:∀ v,v∈vs->v.isVal=true/\v.n=i.sz)
 (hK:K (A.put o.dst (.sl true vs))):N' P N o A K:=by
 intro Pb Kb a w F Q hs;obtain⟨inf,z,Q3,hzero⟩:=hz;obtain⟨xs,h1,h2,h3,h4⟩:=qQ hs j8.toList 0 VD hv;have hu:=lL hT;obtain⟨Wy,_,Qd,_,hsz,_,_⟩:=mH hi;rw[Q3]at Qd;obtain rfl:=Option.some.inj Qd;by_cases h0:len=0;have hvs0:vs=[]:=Za5 Zac;subst hvs0;subst h0;have hp0:j8.toList=[]:=by
  cases VQ:j8.toList with
  | nil=>rfl
  | cons p ps=>rw[VQ]at h1;rw[Za5 h4]at h1;simp at h1
 have hp:j8= #[]:=by rw[<- Array.toArray_toList (xs:=j8),hp0]
 subst hp;have hx:(execOp a.eval o).run P w=.ok (.value (.slice (some ⟨w.heap.size,0,none⟩) 0 0)) (w.alloc (.cells #[] e)):=by
  simp[execOp,ho,Instr.buildSlice,bz hu,ey hi,Instr.fill,mN];congr 2;apply Array.ext';simp
 unfold Oper.wp;rw[hx,Oper.upon_value];obtain⟨F',H4⟩:=(hs.sA (.cells #[] e)).uc (d:=o.dst) (v:=.sl true []) (x:=.slice (some ⟨w.heap.size,0,none⟩) 0 0) hd ⟨rfl,_,0,rfl,Zbc _,fun _=>rfl,.inl rfl⟩;exact⟨_,Pb,Kb,F',hK,H4,fun _ h=>h,fun _ h=>h,fun _ h=>.inl h,F7.alloc hs.bound _⟩;have hfl:=Great.fill_whole M8 xs ((Array.range (len*i.sz)).map (z.cells[· % z.cells.size]!)) h2 (by simp[h4,hlen]);have hmul: ¬ len*inf.size=0:=by rw[hsz];exact Nat.mul_ne_zero h0 Zac
 have hb:=run_buildSlice (P:=P) w T e len (j8.map fun (i,x)=>(i,a.eval x)) _ inf z hu Q3 hzero (by rw[hsz];omega) hmul (by rw[Array.toList_map,h1,hsz];exact hfl);have hx:(execOp a.eval o).run P w=.ok (.value (.slice (some ⟨w.heap.size,0,none⟩) len len)) (w.alloc (.cells (xs.flatMap fun v=>v.cells.toList).toArray e)):=by
  simp only[execOp,ho,Za0,hb,Zas,Za1]
 unfold Oper.wp;rw[hx,Oper.upon_value];have Rj:=hs.OW (.cells (xs.flatMap fun v=>v.cells.toList).toArray e);have R':=gB (w':=w.alloc (.cells (xs.flatMap fun v=>v.cells.toList).toArray e)) (Pb':=fun g=>Pb g\/g=w.heap.size) vs h3 (fun g hg=>alloc_old w _ g (hs.bound g (hs.sub g hg))) Zad (fun g hg=>.inl hg) Zad
 obtain⟨F',H4⟩:=Rj.uc (d:=o.dst) (v:=.sl true vs) (x:=.slice (some ⟨w.heap.size,0,none⟩) len len) hd ⟨rfl,some ⟨w.heap.size,0,none⟩,len,by rw[hlen],Zac,fun _=>hlen.symm,
  .inr ⟨w.heap.size,0,i.sz,_,rfl,.inr rfl,M8,fun v WC=>(hv v WC).2,R',fun j u hu=>by
   rw[fP (cells:=(xs.flatMap fun v=>v.cells.toList).toArray) ⟨e,(0,0),jU w _,fun i _ h=>by omega⟩];simpa using hu⟩⟩
 exact⟨_,_,_,F',hK,H4,fun _ h=>.inl h,fun _ h=>.inl h,fun g hg=>by
  rcases hg with h | h;exact .inl h;right;intro c;have:=hs.bound g c;omega,F7.alloc hs.bound _⟩
end
section
variable {w w':World} {Pb Kb:Nat->Prop} {N:Nat} {A A':AS} {a:Act} {F:r5->List Nat} {P:Program}
def qL(P:Program):List (Nat×Nat)->Option (List (Nat×Nat))
 | []=>some []
 | (off,T)::r=>match ti P T,qL P r with
   | some i,some ps=>some ((off,i.sz)::ps)
   | _,_=>none
def ur(places:List (Nat×Nat)):List V->List (Nat×V)->Option (Prop×List V)
 | zs,[]=>some (True,zs)
 | zs,(i,v)::r=>match places[i]?,zs[i]? with
   | some (off,sz),some z=>match ur places (zs.set i v) r with
     | some (C,zs')=>some (V.ns (zs.take i)=off/\v.n=sz/\z.n=sz/\v.isVal=true/\C,zs')
     | none=>none
   | _,_=>none
def wK(P:Program)(A:AS)(T:Nat)(zs:List V)(j8:List (Nat×Operand)):Option (Prop×V):=
 match tD P T with
 | some (.st fs)=>match qL P fs with
   | some places=>match ur places zs (j8.map fun (i,x)=>(i,A.cp x)) with
     | some (C,vs)=>some (C,.agg vs)
     | none=>none
   | none=>none
 | _=>none
theorem Cj:∀ (zs:List V) {cs:List Value} {i:Nat} {z v:V} {c:List Value},RL w Pb zs cs []->zs[i]? =some z->R w Pb v c []->c.length=z.n->
 RL w Pb (zs.set i v) (cs.take (V.ns (zs.take i))++c++cs.drop (V.ns (zs.take i)+z.n)) []
 | [],_,_,_,_,_,_,h,_,_=>by simp at h
 | z0::zs,cs,0,z,v,c,h,hi,hr,hn=>by
   obtain⟨c1,c2,F1,F2,rfl,hF,h1,h2⟩:=h;have Sy:=hF.symm;simp at Sy;obtain⟨rfl,rfl⟩:=Sy;simp at hi;subst hi;have hl:=ft _ h1;simp only[List.take_zero,V.ns,Zaw,List.nil_append,List.set_cons_zero];rw[<- hl,List.drop_left];exact⟨c,c2,[],[],rfl,rfl,hr,h2⟩
 | z0::zs,cs,i+1,z,v,c,h,hi,hr,hn=>by
   obtain⟨c1,c2,F1,F2,rfl,hF,h1,h2⟩:=h;have Sy:=hF.symm;simp at Sy;obtain⟨rfl,rfl⟩:=Sy;have hl:=ft _ h1;have ih:=Cj zs h2 Zbn hr hn;simp only[List.take_succ_cons,V.ns,List.set_cons_succ];refine⟨c1,_,[],[],?_,rfl,h1,ih⟩;rw[<- hl,List.take_append,List.drop_append];have e1:(List.take (c1.length+V.ns (zs.take i)) c1)=c1:=Zaz Zac;have e2:(List.drop (c1.length+V.ns (zs.take i)+z.n) c1)=[]:=Za8 Zac;rw[e1,e2];have e3:c1.length+V.ns (zs.take i)-c1.length=V.ns (zs.take i):=Zac;have e4:c1.length+V.ns (zs.take i)+z.n-c1.length=V.ns (zs.take i)+z.n:=Zac;rw[e3,e4];simp
theorem He(cells:Array Value) (off:Nat) (c:List Value) (h:off+c.length<=cells.size) {r:Array Value} (hs:r.size=cells.size)
 (hk:∀ k,r[k]? =if off+0<=k/\k<off+0+c.length/\k<cells.size then c[k-(off+0)]? else cells[k]?):r.toList=cells.toList.take off++c++cells.toList.drop (off+c.length):=by
 apply List.ext_getElem?;intro k;rw[Array.getElem?_toList,hk k];simp only[Nat.add_zero];by_cases h1:k<off;rw[if_neg Zac,List.append_assoc,Za9 Zal,List.getElem?_take,if_pos h1];simp;by_cases h2:k<off+c.length;rw[if_pos ⟨Zac,h2,Zac⟩,List.append_assoc,Za4 Zal,Za9 Zal];congr 1;simp;omega;rw[if_neg Zac,Za4 Zal,List.getElem?_drop];have:off+c.length+(k-(cells.toList.take off++c).length)=k:=Zal;rw[this];simp
theorem yc(hs:C3 N Pb Kb A a w F){places:List (Nat×Nat)}:∀ (j8:List (Nat×Operand)) {zs:List V} {C:Prop} {vs:List V} {cells:Array Value},ur places zs (j8.map fun (i,x)=>(i,A.cp x))=some (C,vs)->C->
 RL w Pb zs cells.toList []->∃ x4,Instr.fill (places.toArray[·]?) cells (j8.map fun (i,x)=>(i,a.eval x))=some x4/\RL w Pb vs x4.toList []
 | [],zs,C,vs,cells,h,_,hr=>by simp[ur]at h;obtain⟨_,rfl⟩:=h;exact⟨cells,rfl,hr⟩
 | (i,x)::r,zs,C,vs,cells,h,hC,hr=>by
   simp only[Zbe,ur]at h;split at h
   case h_2=>simp at h
   rename_i off sz z hp hz;split at h
   case h_2=>simp at h
   rename_i C' zs' hf;simp only[Zan,Zaq]at h;obtain⟨rfl,rfl⟩:=h;obtain⟨h1,h2,h3,h4,h5⟩:=hC;have hR:=Dl (vb hs x) h4;have hl:=ft _ hR;obtain⟨cz,F',Zj,_,hcz⟩:=jP zs hr hz;have hlz:=ft _ Zj;have hle:off+(a.eval x).cells.toList.length<=cells.size:=by
    by_cases hne:cz=[];have:sz=0:=by rw[<- h3,<- hlz,hne];rfl
    have hns:V.ns (zs.take i)<=cells.size:=by
     have YK:=mi _ hr;have:V.ns (zs.take i)<=V.ns zs:=by
      clear hf hr hcz Zj hp YK h1;induction zs generalizing i with
      | nil=>simp[V.ns]
      | cons z0 zs ih=>cases i with
        | zero=>simp[V.ns]
        | succ i=>simp only[List.take_succ_cons,V.ns];have:=ih (i:=i) (by simpa using hz);omega
     simpa[<- YK] using this
    rw[hl,h2];omega;have:=BD (cells:=cells) (o:=off) (l:=cz) (fun j u hu=>by rw[<- h1];have:=hcz j u hu;simpa using this) hne;omega
   obtain⟨g1,g2⟩:=Great.foldl_set off (a.eval x).cells.toList 0 cells;have hseg:=He cells off (a.eval x).cells.toList hle g1 g2;have Q9:=Cj zs hr hz hR (by rw[hl,h2,h3]);rw[h1,h3,<- h2,<- hl,<- hseg]at Q9;obtain⟨x4,VY,N5⟩:=yc hs r hf h5 Q9;refine⟨x4,?_,N5⟩;simp only[Zbe];unfold Instr.fill;have Z5:places.toArray[i]? =some (off,sz):=by simpa using hp
   simp only[Z5];rw[if_neg (by
    have e1:(a.eval x).cells.size=sz:=by rw[<- h2,<- hl];simp
    simp only[e1,ne_eq,not_true_eq_false,decide_false,Bool.false_or,Zbk];rw[<- e1];simpa using hle)]
   rw[<- VY];congr 1;rw[<- Array.foldl_toList,Array.toList_zipIdx]
theorem IW{fl:Array Field}{fs:List (Nat×Nat)}(h:fl.toList.map (fun f=>(f.offset,f.type))=fs){places:List (Nat×Nat)}(hp:qL P fs=some places):
 fl.toList.mapM (fun f=>(P.info? f.type).map fun i=>(f.offset,i.size))=some places:=by
 subst h;generalize fl.toList=l at hp;induction l generalizing places with
 | nil=>simp[qL]at hp;subst hp;rfl
 | cons f l ih=>
   simp only[Zbe,qL]at hp;split at hp
   case h_2=>simp at hp
   rename_i i ps hi hps;simp at hp;subst hp;obtain⟨inf,_,h1,_,h3,_,_⟩:=mH hi;simp[List.mapM_cons,h1,ih hps,h3]
theorem Hd(hs:C3 N Pb Kb A a w F){T:Nat}{j8:Array (Nat×Operand)}{zs:List V}{C:Prop}{v:V}(hz:rJ P T (.agg zs))(h:wK P A T zs j8.toList=some (C,v))(hC:C):
 ∃ y,(Instr.build T (j8.map fun (i,x)=>(i,a.eval x))).run P w=.ok y w/\RV w Pb v y []:=by
 unfold wK at h;split at h
 case h_2=>simp at h
 rename_i fs hT;split at h
 case h_2=>simp at h
 rename_i places hp;split at h
 case h_2=>simp at h
 rename_i C' vs hf;simp only[Zan,Zaq]at h;obtain⟨rfl,rfl⟩:=h;obtain⟨fl,hu,hfl⟩:=Gy hT;obtain⟨inf,z,h1,h2,h3⟩:=hz;have hr:=wS (w:=w) (Pb:=Pb) _ h3;simp only[R]at hr;obtain⟨x4,VY,N5⟩:=yc hs j8.toList hf hC hr;refine⟨.agg x4,run_build w T _ x4 ?_,x4,rfl,N5⟩;unfold Program.built;simp only[h1,hu,h2,IW hfl hp];rw[Array.toList_map];exact VY
theorem Ch{o:Oper} {K:AS->Prop} {T:Nat} {j8:Array (Nat×Operand)} {zs:List V} {C:Prop} {v:V} (ho:o.op=.build T j8) (hd:dP N o.dst) (hz:rJ P T (.agg zs))
 (h:wK P A T zs j8.toList=some (C,v)) (hC:C) (hK:K (A.put o.dst v)):N' P N o A K:=
 mn hd hK fun Pb Kb a w F hs=>by
  obtain⟨y,hy,hr⟩:=Hd hs hz h hC;exact⟨y,Zbu,hr⟩
theorem C3.freeze(hs:C3 N Pb Kb A a w F){i:Nat}(hi:(A.get i).eE=true)(hi':i<N):∃ Pb' N1 F',C3 N Pb' N1 (A.put (some i) (A.get i).er) a w F'/\(∀ g,Pb g->Pb' g)/\(∀ g,Kb g->N1 g)/\(∀ g,Pb' g->Pb g\/¬ Kb g):=by
 refine⟨fun g=>Pb g\/g∈F (.slot i),fun g=>Kb g\/g∈F (.slot i),dr F (.slot i) [],?_,fun g h=>.inl h,fun g h=>.inl h,fun g h=>h.imp id fun h=>(hs.free _ g h).1⟩;have YG:∀ r,r≠.slot i->∀ g,g∈F r->¬ (Pb g\/g∈F (.slot i))/\¬ (Kb g\/g∈F (.slot i)):=fun r hr g hg=>by
  refine⟨fun c=>?_,fun c=>?_⟩ <;> rcases c with c | c;exact(hs.free r g hg).1 (hs.sub g c);exact hs.du r _ hr g hg c;exact(hs.free r g hg).1 c;exact hs.du r _ hr g hg c
 refine⟨hs.size,hs.defers,fun j=>?_,fun k g v hk=>?_,fun r r' hne g hg=>?_,fun r=>?_,fun r g hg=>?_,fun g h=>h.imp (hs.sub g) id,fun g h=>?_⟩;rw[AS.bg];by_cases e:j=i;subst e;simp only[if_true,dr];exact Lb (hs.slot j) (fun g h=>.inl h) (fun g h=>.inr h);have hne:r5.slot j≠r5.slot i:=fun c=>e (by injection c);simp only[if_neg e,dr,if_neg hne];exact qI _ (hs.slot j) (fun _ _=>rfl) (fun _ _=>rfl) (fun g h=>.inl h) (fun g hg=>(YG _ hne g hg).1);obtain⟨F',e,hA⟩:=hs.root k g v hk;refine⟨F',by simpa[dr] using e,?_⟩;obtain⟨cs,cells,hb,hr,hc⟩:=hA;exact⟨cs,cells,hb,jN _ hr (fun _ _=>rfl) (fun _ _=>rfl) (fun g h=>.inl h) (fun x hx=>(YG (.key k) Zad x (by rw[e];simp[hx])).1),hc⟩;simp only[dr]at hg ⊢;split at hg;simp at hg;split;simp;exact hs.du r r' hne g hg;simp only[dr];split;exact Zba;exact hs.nodup r;simp only[dr]at hg;split at hg;simp at hg;rename_i hne;exact⟨(YG r hne g hg).2,(hs.free r g hg).2⟩;rcases h with h | h;exact hs.bound g h;exact(hs.free _ g h).2
theorem C3.RU(hs:C3 N Pb Kb A a w F){g:Nat}(hg:∀ r,g ∉ F r)(hK: ¬ Kb g)(hf:∀ k,k≠g->w'.heap[k]? =w.heap[k]?)(hsz:w'.heap.size=w.heap.size):C3 N Pb Kb A a w' F where
 size:=hs.size
 defers:=hs.defers
 slot:=fun i=>qI _ (hs.slot i) (fun x hx=>hf x (by rintro rfl;exact hK (hs.sub _ hx))) (fun x hx=>hf x (by rintro rfl;exact hg _ hx)) (fun _ h=>h) (fun x hx c=>(hs.free _ x hx).1 (hs.sub x c))
 root:=fun k g0 v hk=>by
  obtain⟨F',e,hA⟩:=hs.root k g0 v hk;have hg0:g0≠g:=by rintro rfl;exact hg (.key k) (by rw[e];simp)
  refine⟨F',e,ug hA (fun x hx=>hf x (by rintro rfl;exact hK (hs.sub _ hx))) (fun x hx=>hf x (by rintro rfl;exact hg (.key k) (by rw[e];simp[hx]))) (fun x hx c=>(hs.free (.key k) x (by rw[e];simp[hx])).1 (hs.sub x c)) (fun cells hb=>?_)⟩;obtain⟨e',fr,hb,hfr⟩:=hb;exact⟨cells,⟨e',fr,(hf g0 hg0).trans hb,hfr⟩,fun _ _ _=>rfl⟩
 du:=hs.du
 nodup:=hs.nodup
 free:=fun r x hx=>by rw[hsz];exact hs.free r x hx
 sub:=hs.sub
 bound:=fun x hx=>by rw[hsz];exact hs.bound x hx
theorem mq:∀ (xs ys:List V) {c1 c2:List Value} {F1 F2:List Nat},RL w Pb xs c1 F1->RL w Pb ys c2 F2->RL w Pb (xs++ys) (c1++c2) (F1++F2)
 | [],ys,c1,c2,F1,F2,h1,h2=>by obtain⟨rfl,rfl⟩:=h1;exact h2
 | x::xs,ys,c1,c2,F1,F2,h1,h2=>by
   obtain⟨d1,d2,G1,G2,rfl,rfl,k1,k2⟩:=h1;exact⟨d1,d2++c2,G1,G2++F2,Zad,Zad,k1,mq xs ys k2 h2⟩
theorem tw{sz:Nat}(xs:List V)(h:aX sz xs):V.ns xs=xs.length*sz:=by
 have:=fL xs xs.length h (Zbc _);simpa using this
theorem CY{full:Bool}{ys:List V}{x:Value}(h:R w Pb (.sl full ys) [x] []){s:Nat}(hs:aX s ys):∃ (B:Option Addr) (c:Nat) (flat:List Value),x=.slice B ys.length c/\RL w Pb ys flat []/\
 (∀ w1:World,(∀ ad,w1.cell? ad=w.cell? ad)->(Builtin.firstCells s ys.length x).run P w1=.ok flat.toArray w1)/\flat.length=ys.length*s:=by
 obtain⟨_,A,c,hx,hl,_,hz⟩:=h;have hx:x=.slice A ys.length c:=Zbt
 subst hx;rcases hz with rfl | ⟨b,o,sz,flat,rfl,hb,hsz,hN,hr,hc⟩;refine⟨A,c,[],rfl,⟨rfl,rfl⟩,fun w1 _=>?_,Zad⟩;cases A with
 | none=>rfl
 | some ad=>simp only[Builtin.firstCells,Zau,Nat.zero_mul];rfl
 have hl2:=mi _ hr;by_cases he:ys=[];subst he;obtain⟨rfl,_⟩:=hr;exact⟨_,c,[],rfl,⟨rfl,rfl⟩,fun w1 _=>by simp only[Builtin.firstCells,Zau,Nat.zero_mul];rfl,Zad⟩;rw[tw ys hs]at hl2;exact⟨_,c,flat,rfl,hr,fun w1 h1=>by simp only[Builtin.firstCells];rw[<- hl2];exact run_loadCells_list w1 _ flat (fun j v hv=>by rw[fF,h1];exact hc j v hv),hl2⟩
theorem BC{sz g o c:Nat}{xs:List V}{x:Value}{Fx:List Nat}(h:R w Pb (.own sz xs g o c) [x] Fx):∃ (B:Option Addr) (flat:List Value) (F':List Nat),x=.slice B xs.length c/\RL w Pb xs flat F'/\
 (∀ w1:World,(∀ ad,w1.cell? ad=w.cell? ad)->(Builtin.firstCells sz xs.length x).run P w1=.ok flat.toArray w1)/\(0<c->B=some ⟨g,o,none⟩/\aX sz xs/\0<sz/\Fx=g::F'/\flat.length=xs.length*sz)/\(c=0->xs=[]/\Fx=[]/\F'=[]/\flat=[])/\xs.length<=c:=by
 rcases h with ⟨rfl,rfl,rfl,A,hx⟩ | ⟨h1,h2,h3,hx,hN,_,flat,F',cells,rfl,hr,hb,hsz,hc⟩;have hx:x=.slice A 0 0:=Zbt
 subst hx;refine⟨A,[],[],rfl,⟨rfl,rfl⟩,fun w1 _=>?_,fun h=>absurd h Zac,fun _=>⟨rfl,rfl,rfl,rfl⟩,Zbc _⟩;cases A with
 | none=>rfl
 | some ad=>simp only[Builtin.firstCells,Zau,Nat.zero_mul];rfl
 have hx:x=.slice (some ⟨g,o,none⟩) xs.length c:=Zbt
 subst hx;have hl:=mi _ hr;rw[tw xs hN]at hl;refine⟨_,flat,F',rfl,hr,fun w1 h1=>?_,fun _=>⟨rfl,hN,h2,rfl,hl⟩,fun h=>absurd h Zac,h3⟩;simp only[Builtin.firstCells];rw[<- hl];exact run_loadCells_list w1 _ flat (fun j v hv=>by rw[fF,h1,fP hb];exact hc j v hv)
theorem vM{e:Nat}{inf:TypeInfo}{z:Value}(h1:P.info? e=some inf)(h2:inf.zero=some z):(zeroValue e).run P w=.ok z w:=by simp[zeroValue,typeInfo,h1,h2]
theorem xY{T T2 e e2:Nat} {t:TI} (hT:tD P T=some (.sl e)) (Ut:tD P T2=some (.sl e2)) (ht:ti P e=some t) (hz:∃ inf z,P.info? e=some inf/\inf.zero=some z/\z.cells.size=t.sz) (hsz:0<t.sz) (Wn:0<t.QD)
 (hs:C3 N Pb Kb A a w F) {xs ys:List V} {g o c:Nat} {s x:Value} {Fx:List Nat} {B2:Option Addr} {c2:Nat} {L8:List Value} (Qp:R w Pb (.own t.sz xs g o c) [s] Fx) (C8:∀ r g,g∈Fx->g ∉ F r) (hfr:∀ g,g∈Fx->¬ Kb g/\g<w.heap.size) {Fy:List Nat} (hnd:(Fx++Fy).Nodup) (hyd:∀ r g,g∈Fy->g ∉ F r) (ZP:∀ g,g∈Fy->¬ Kb g/\g<w.heap.size)
 (SR:x=.slice B2 ys.length c2) (Q9:RL w Pb ys L8 Fy) (Sf:∀ w1:World,(∀ ad,w1.cell? ad=w.cell? ad)->(Builtin.firstCells t.sz ys.length x).run P w1=.ok L8.toArray w1) (hl2:L8.length=ys.length*t.sz) (hN:aX t.sz ys) (hbig:(xs.length+ys.length)*t.QD<=140737488355328):
 ∃ v w' F2 g' o' c',(Builtin.append_ #[T,T2] T #[s,x]).run P w=.ok v w'/\C3 N Pb Kb A a w' F/\R w' Pb (.own t.sz (xs++ys) g' o' c') [v] F2/\F2.Nodup/\(∀ r g,g∈F2->g ∉ F r)/\(∀ g,g∈F2->¬ Kb g/\g<w'.heap.size)/\F7 Kb w w':=by
 have hu:=lL hT;have St:=lL Ut;obtain⟨inf,z,Q3,hzero,hzs⟩:=hz;obtain⟨Wy,_,Qd,_,VI,V4,_⟩:=mH ht;rw[Q3]at Qd;obtain rfl:=Option.some.inj Qd;obtain⟨B,flat,F',rfl,hr,S7,M8,Vv,hle⟩:=BC (P:=P) Qp;subst SR;have TH:(Builtin.lenOf (.slice B2 ys.length c2)).run P w=.ok ys.length w:=rfl;have Zq:∀ r g,g∈F r->¬ Pb g:=fun r g hg c=>(hs.free r g hg).1 (hs.sub g c);have Z':xs.length+ys.length<=140737488355328:=Nat.le_trans (Nat.le_mul_of_pos_right _ Wn) hbig;unfold Builtin.append_;simp only[List.getElem?_toArray,List.getElem?_cons_zero,List.getElem?_cons_succ,Za0,bz hu,Zas];simp only[ey ht,Zas];simp only[bz St,Zas,Za1];rw[if_neg (show ¬ (false=true) by decide)];rw[Za0,TH];simp only[Zas];by_cases TE:xs.length+ys.length<=c
 ·
  rw[if_pos TE];simp only[Za0,Bool.not_false,if_true,Sf w (fun _=>rfl),Zas];by_cases hc:c=0;obtain⟨rfl,rfl,rfl,rfl⟩:=Vv hc;have Tv:ys=[]:=Za5 Zac;subst Tv;have TM:L8=[]:=Za5 (by simpa using hl2);subst TM;refine⟨.slice B 0 c,w,[],g,o,0,?_,hs,.inl ⟨rfl,rfl,rfl,B,by rw[hc]⟩,Zba,Zad,Zad,F7.refl _ _⟩;cases B with
  | none=>simp
  | some ad=>simp[storeCells]
  obtain⟨rfl,Y0,_,rfl,hl1⟩:=M8 Zac;rcases Qp with ⟨h0,_⟩ | ⟨_,_,_,_,_,YZ,Rb,Rz,cells,Zs,N5,hb,Yw,B8⟩;exact absurd h0 hc;simp only[List.cons.injEq,true_and]at Zs;subst Zs;have hle':o+xs.length*t.sz+L8.length<=cells.size:=by
   rw[hl2];have:(xs.length+ys.length)*t.sz<=c*t.sz:=Nat.mul_le_mul_right _ TE;rw[Nat.add_mul]at this;omega
  obtain⟨w',I2,QP⟩:=kj (P:=P) (g:=g) (o:=o+xs.length*t.sz) L8 0 w cells hb Zac (vT _ Q9);have hg:=hfr g Zad;have H4:C3 N Pb Kb A a w' F:=hs.RU (fun r=>C8 r g Zad) hg.1 QP.RU QP.size;have hkP:∀ k,Pb k->w'.heap[k]? =w.heap[k]? :=fun k hk=>QP.RU k (by rintro rfl;exact YZ hk);have hgA:g ∉ F'++Fy:=(List.nodup_cons.1 hnd).1;have UK:g ∉ F':=fun c=>hgA (by simp[c]);have hgY:g ∉ Fy:=fun c=>hgA (by simp[c]);have hkF:∀ k,k∈F'->w'.heap[k]? =w.heap[k]? :=fun k hk=>QP.RU k (by rintro rfl;exact UK hk);obtain⟨x4,Qn,QA,Sb,VR⟩:=QP.SE cells hb;have VL:=gB (w':=w') (Pb':=Pb) xs hr hkP hkF (fun _ h=>h) (fun k hk c=>(hfr k (by simp[hk])).1 (hs.sub k c));have VK:=gB (w':=w') (Pb':=Pb) ys Q9 hkP (fun k hk=>QP.RU k (by rintro rfl;exact hgY hk)) (fun _ h=>h) (fun k hk c=>(ZP k hk).1 (hs.sub k c));have VW:Rb=flat\/True:=.inr trivial;have hgy:∀ k,k∈g::(F'++Fy)->(¬ Kb k/\k<w.heap.size)/\∀ r,k ∉ F r:=fun k hk=>by
   rcases Zax.1 (show k∈(g::F')++Fy from hk) with h | h;exact⟨hfr k h,fun r=>C8 r k h⟩;exact⟨ZP k h,fun r=>hyd r k h⟩
  refine⟨.slice (some ⟨g,o,none⟩) (xs.length+ys.length) c,w',g::(F'++Fy),g,o,c,?_,H4,.inr ⟨Zac,hsz,Zal,Zad,?_,YZ,flat++L8,F'++Fy,x4,rfl,mq xs ys VL VK,Qn,Zac,?_⟩,hnd,fun r k hk=>(hgy k hk).2 r,fun k hk=>by rw[QP.size];exact(hgy k hk).1,⟨QP.os,QP.tape,QP.output,by rw[QP.size];omega,fun k hk=>QP.RU k (by rintro rfl;exact hg.1 hk),QP.shape⟩⟩;have e1:(Array.toList L8.toArray)=L8:=Zad;simp only[fF,Za0];rw[I2];simp only[Zas,Za1];intro v hv;rcases Zax.1 hv with h | h;exact Y0 v h;exact hN v h;intro j u hu;by_cases hj:j<flat.length;rw[Za9 hj]at hu;rw[Sb _ Zac];have h1:(loadCells ⟨g,o,none⟩ Rb.length).run P w=.ok Rb.toArray w:=run_loadCells_list w _ Rb (fun j v hv=>by rw[fF,fP hb];exact B8 j v hv);have hl1':Rb.length=xs.length*t.sz:=by rw[mi _ N5,tw xs Y0]
  have h2:=S7 w (fun _=>rfl);simp only[Builtin.firstCells]at h2;rw[<- hl1',h1]at h2;simp only[Result.ok.injEq,and_true]at h2;have:Rb=flat:=by have:=Zbm Array.toList h2;simpa using this
  subst this;exact B8 j u hu;rw[Za4 Zac]at hu;have:=VR _ u hu;rw[<- this];congr 1;omega
 ·
  rw[if_neg TE];have hlt:c<xs.length+ys.length:=Zac;have hmx:IntKind.i64.max=9223372036854775807:=Zaf;have WO: ¬ (((xs.length+ys.length:Nat):Int)>IntKind.i64.max/\((false=true)\/inf.bytes=0)):=by
   rw[hmx];rintro⟨h1,_⟩;omega
  have hcap: ¬ Builtin.nextslicecap (xs.length+ys.length) c*inf.bytes>281474976710656:=by
   have:=growslice_fits (bytes:=t.QD) hlt hbig;rw[V4];omega
  have UG:∀ w,(typeInfo e).run P w=.ok inf w:=fun w=>by simp[typeInfo,Q3]
  obtain⟨nc,Zl,hch⟩:∃ nc,xs.length+ys.length<=nc/\(choose (.appendCap (xs.length+ys.length) c e)).run P w=.ok nc { w with drawn:=w.drawn+1 }:=by
   exact⟨(Question.appendCap (xs.length+ys.length) c e).cut (w.tape w.drawn (Question.appendCap (xs.length+ys.length) c e)),by simp only[Question.cut];exact Nat.le_add_right _ _,by rw[run_choose,if_neg (by simp[Question.forced])]⟩
  obtain⟨w1,S4⟩:∃ w1:World,w1={ w with drawn:=w.drawn+1 }:=⟨_,rfl⟩;rw[<- S4]at hch;have Ql:w1.heap=w.heap:=by rw[S4]
  have R4:∀ ad,w1.cell? ad=w.cell? ad:=fun ad=>by rw[S4];rfl
  have hf1:=S7 w1 R4;have TM:=Sf w1 R4;have hzv:=fun w=>vM (w:=w) Q3 hzero;obtain⟨cells,hcells⟩:∃ cells:Array Value,cells=flat.toArray++L8.toArray++Builtin.zeroCells z.cells (nc-(xs.length+ys.length)):=⟨_,rfl⟩;have hlf:flat.length=xs.length*t.sz:=by
   by_cases hc:c=0;obtain⟨rfl,_,_,rfl⟩:=Vv hc;simp;exact(M8 Zac).2.2.2.2
  have WU:cells.size=nc*t.sz:=by
   rw[hcells];simp only[Array.size_append,List.size_toArray,Builtin.zeroCells,Array.size_map,Array.size_range,hzs,hlf,hl2];rw[<- Nat.add_mul,<- Nat.add_mul];congr 1;omega
  have hdr:C3 N Pb Kb A a w1 F:=hs.grow (fun k _=>by rw[Ql]) (by rw[Ql];exact Zbc _) (fun _ h=>h) (fun g h=>.inl h) hs.sub;have WX:∀ k,k∈F'->k∈Fx:=fun k hk=>by
   by_cases hc:c=0;rw[(Vv hc).2.2.1]at hk;simp at hk;rw[(M8 Zac).2.2.2.1];simp[hk]
  have hFn:(F'++Fy).Nodup:=by
   by_cases hc:c=0;rw[(Vv hc).2.2.1];exact(List.nodup_append.1 hnd).2.1;have:=hnd;rw[(M8 Zac).2.2.2.1]at this;exact(List.nodup_cons.1 this).2
  have Y0:aX t.sz xs:=by
   by_cases hc:c=0;rw[(Vv hc).1];intro v hv;simp at hv;exact(M8 Zac).2.1
  have hold:∀ k,k<w.heap.size->(w1.alloc (.cells cells e)).heap[k]? =w.heap[k]? :=fun k hk=>by
   rw[alloc_old w1 _ k (by rw[Ql];exact hk),Ql]
  have VH:(w1.alloc (.cells cells e)).heap.size=w.heap.size+1:=by rw[fh,Ql]
  have S5:w.heap.size=w1.heap.size:=by rw[Ql]
  have VL:=gB (w':=w1.alloc (.cells cells e)) (Pb':=Pb) xs hr (fun k hk=>hold k (hs.bound k (hs.sub k hk))) (fun k hk=>hold k (hfr k (WX k hk)).2) (fun _ h=>h) (fun k hk cc=>(hfr k (WX k hk)).1 (hs.sub k cc));have VK:=gB (w':=w1.alloc (.cells cells e)) (Pb':=Pb) ys Q9 (fun k hk=>hold k (hs.bound k (hs.sub k hk))) (fun k hk=>hold k (ZP k hk).2) (fun _ h=>h) (fun k hk cc=>(ZP k hk).1 (hs.sub k cc));have Y2:∀ k,k∈F'++Fy->(¬ Kb k/\k<w.heap.size)/\∀ r,k ∉ F r:=fun k hk=>by
   rcases Zax.1 hk with h | h;exact⟨hfr k (WX k h),fun r=>C8 r k (WX k h)⟩;exact⟨ZP k h,fun r=>hyd r k h⟩
  have TT: ¬ Kb w.heap.size:=fun cc=>by have:=hs.bound _ cc;omega
  refine⟨.slice (some ⟨w.heap.size,0,none⟩) (xs.length+ys.length) nc,w1.alloc (.cells cells e),w.heap.size::(F'++Fy),w.heap.size,0,nc,?_,hdr.sA _,.inr ⟨Zac,hsz,by simpa using Zl,Zad,?_,fun cc=>TT (hs.sub _ cc),flat++L8,F'++Fy,cells,rfl,
   mq xs ys VL VK,⟨e,(0,0),by rw[S5];exact jU w1 _,fun i _ h=>by omega⟩,by rw[WU];omega,fun j u hu=>?_⟩,?_,?_,?_,⟨?_,?_,?_,by rw[VH];omega,fun k hk=>hold k (hs.bound k hk),Shp.of_eq hold⟩⟩
  simp only[Sem.run_ite,Za0,UG,Zas,if_neg WO,if_neg hcap,Za1,hch,hf1,TM,Bool.not_false,if_true,run_askRoom,hzv,mN];rw[hcells,S5];intro v hv;rcases Zax.1 hv with h | h;exact Y0 v h;exact hN v h;rw[hcells,Zaw];have hj:=(Za3.1 hu).1;rw[Array.getElem?_append_left Zbp];simpa using hu;refine List.nodup_cons.2 ⟨fun cc=>?_,hFn⟩;have:=(Y2 _ cc).1.2;omega;intro r k hk cc;rcases List.mem_cons.1 hk with rfl | h;have:=(hs.free r _ cc).2;omega;exact(Y2 k h).2 r cc;intro k hk;rw[VH];rcases List.mem_cons.1 hk with rfl | h;exact⟨TT,Zac⟩;have:=(Y2 k h).1;exact⟨this.1,Zac⟩;rw[S4];rfl;rw[S4];rfl;rw[S4];rfl
theorem Ez{T T2 e e2:Nat} {t:TI} (hT:tD P T=some (.sl e)) (Ut:tD P T2=some (.sl e2)) (ht:ti P e=some t) (hz:∃ inf z,P.info? e=some inf/\inf.zero=some z/\z.cells.size=t.sz) (hsz:0<t.sz) (Wn:0<t.QD)
 (hs:C3 N Pb Kb A a w F) {xs ys:List V} {s x:Value} {B2:Option Addr} {c2:Nat} {L8:List Value} (Qp:R w Pb (.sl true xs) [s] []) (Y0:aX t.sz xs) (Tv:0<ys.length)
 (SR:x=.slice B2 ys.length c2) (Q9:RL w Pb ys L8 []) (Sf:∀ w1:World,(∀ ad,w1.cell? ad=w.cell? ad)->(Builtin.firstCells t.sz ys.length x).run P w1=.ok L8.toArray w1) (hl2:L8.length=ys.length*t.sz) (hN:aX t.sz ys) (hbig:(xs.length+ys.length)*t.QD<=140737488355328):
 ∃ v w' F2 g' o' c',(Builtin.append_ #[T,T2] T #[s,x]).run P w=.ok v w'/\C3 N Pb Kb A a w' F/\R w' Pb (.own t.sz (xs++ys) g' o' c') [v] F2/\F2.Nodup/\(∀ r g,g∈F2->g ∉ F r)/\(∀ g,g∈F2->¬ Kb g/\g<w'.heap.size)/\F7 Kb w w':=by
 have hu:=lL hT;have St:=lL Ut;obtain⟨inf,z,Q3,hzero,hzs⟩:=hz;obtain⟨Wy,_,Qd,_,VI,V4,_⟩:=mH ht;rw[Q3]at Qd;obtain rfl:=Option.some.inj Qd;obtain⟨B,c,flat,rfl,hr,S7,hlf⟩:=CY (P:=P) Qp Y0;have hcx:c=xs.length:=by
  obtain⟨_,A0,c0,h1,_,h2,_⟩:=Qp;have h1:=(List.cons.inj h1).1;simp only[Value.slice.injEq]at h1;rw[h1.2.2];exact h2 rfl
 subst SR;have TH:(Builtin.lenOf (.slice B2 ys.length c2)).run P w=.ok ys.length w:=rfl;have Z':xs.length+ys.length<=140737488355328:=Nat.le_trans (Nat.le_mul_of_pos_right _ Wn) hbig;unfold Builtin.append_;simp only[List.getElem?_toArray,List.getElem?_cons_zero,List.getElem?_cons_succ,Za0,bz hu,Zas];simp only[ey ht,Zas];simp only[bz St,Zas,Za1];rw[if_neg (show ¬ (false=true) by decide)];rw[Za0,TH];simp only[Zas];have TE: ¬ (xs.length+ys.length<=c):=Zac;rw[if_neg TE];have hlt:c<xs.length+ys.length:=Zac;have hmx:IntKind.i64.max=9223372036854775807:=Zaf;have WO: ¬ (((xs.length+ys.length:Nat):Int)>IntKind.i64.max/\((false=true)\/inf.bytes=0)):=by
  rw[hmx];rintro⟨h1,_⟩;omega
 have hcap: ¬ Builtin.nextslicecap (xs.length+ys.length) c*inf.bytes>281474976710656:=by
  have:=growslice_fits (bytes:=t.QD) hlt hbig;rw[V4];omega
 have UG:∀ w,(typeInfo e).run P w=.ok inf w:=fun w=>by simp[typeInfo,Q3]
 obtain⟨nc,Zl,hch⟩:∃ nc,xs.length+ys.length<=nc/\(choose (.appendCap (xs.length+ys.length) c e)).run P w=.ok nc { w with drawn:=w.drawn+1 }:=by
  exact⟨(Question.appendCap (xs.length+ys.length) c e).cut (w.tape w.drawn (Question.appendCap (xs.length+ys.length) c e)),by simp only[Question.cut];exact Nat.le_add_right _ _,by rw[run_choose,if_neg (by simp[Question.forced])]⟩
 obtain⟨w1,S4⟩:∃ w1:World,w1={ w with drawn:=w.drawn+1 }:=⟨_,rfl⟩;rw[<- S4]at hch;have Ql:w1.heap=w.heap:=by rw[S4]
 have R4:∀ ad,w1.cell? ad=w.cell? ad:=fun ad=>by rw[S4];rfl
 have hf1:=S7 w1 R4;have TM:=Sf w1 R4;have hzv:=fun w=>vM (w:=w) Q3 hzero;obtain⟨cells,hcells⟩:∃ cells:Array Value,cells=flat.toArray++L8.toArray++Builtin.zeroCells z.cells (nc-(xs.length+ys.length)):=⟨_,rfl⟩;have WU:cells.size=nc*t.sz:=by
  rw[hcells];simp only[Array.size_append,List.size_toArray,Builtin.zeroCells,Array.size_map,Array.size_range,hzs,hlf,hl2];rw[<- Nat.add_mul,<- Nat.add_mul];congr 1;omega
 have hdr:C3 N Pb Kb A a w1 F:=hs.grow (fun k _=>by rw[Ql]) (by rw[Ql];exact Zbc _) (fun _ h=>h) (fun g h=>.inl h) hs.sub;have hold:∀ k,k<w.heap.size->(w1.alloc (.cells cells e)).heap[k]? =w.heap[k]? :=fun k hk=>by
  rw[alloc_old w1 _ k (by rw[Ql];exact hk),Ql]
 have VH:(w1.alloc (.cells cells e)).heap.size=w.heap.size+1:=by rw[fh,Ql]
 have S5:w.heap.size=w1.heap.size:=by rw[Ql]
 have VL:=gB (w':=w1.alloc (.cells cells e)) (Pb':=Pb) xs hr (fun k hk=>hold k (hs.bound k (hs.sub k hk))) Zad (fun _ h=>h) Zad;have VK:=gB (w':=w1.alloc (.cells cells e)) (Pb':=Pb) ys Q9 (fun k hk=>hold k (hs.bound k (hs.sub k hk))) Zad (fun _ h=>h) Zad;have TT: ¬ Kb w.heap.size:=fun cc=>by have:=hs.bound _ cc;omega
 refine⟨.slice (some ⟨w.heap.size,0,none⟩) (xs.length+ys.length) nc,w1.alloc (.cells cells e),[w.heap.size],w.heap.size,0,nc,?_,hdr.sA _,.inr ⟨Zac,hsz,by simpa using Zl,Zad,?_,fun cc=>TT (hs.sub _ cc),flat++L8,[],cells,rfl,
  mq xs ys VL VK,⟨e,(0,0),by rw[S5];exact jU w1 _,fun i _ h=>by omega⟩,by rw[WU];omega,fun j u hu=>?_⟩,?_,?_,?_,⟨?_,?_,?_,by rw[VH];omega,fun k hk=>hold k (hs.bound k hk),Shp.of_eq hold⟩⟩
 simp only[Sem.run_ite,Za0,UG,Zas,if_neg WO,if_neg hcap,Za1,hch,hf1,TM,Bool.not_false,if_true,run_askRoom,hzv,mN];rw[hcells,S5];intro v hv;rcases Zax.1 hv with h | h;exact Y0 v h;exact hN v h;rw[hcells,Zaw];have hj:=(Za3.1 hu).1;rw[Array.getElem?_append_left Zbp];simpa using hu;simp;intro r k hk cc;obtain rfl:=Zav.1 hk;have:=(hs.free r _ cc).2;omega;intro k hk;rw[VH];obtain rfl:=Zav.1 hk;exact⟨TT,Zac⟩;rw[S4];rfl;rw[S4];rfl;rw[S4];rfl
def jc(lo n sz g o:Nat):V->Option (Prop×List V)
 | .own RB xs g2 o2 _=>some ((sz=RB/\g=g2/\o=o2)/\lo+n<=xs.length/\V.aK xs=false/\aX RB xs,(xs.drop lo).take n)
 | _=>none
def Re(A:AS)(x:Operand):Option (Prop×List V):=
 match A.ev x with
 | .sl _ xs=>some (True,xs)
 | .own _ xs _ _ _=>some (True,xs)
 | .hd r p sz g o lo n _=>match r,p with
   | .slot i,[]=>jc lo n sz g o (A.get i)
   | .key k,p=>match A.at (.key k) p with
     | some (_,_,u)=>jc lo n sz g o u
     | none=>none
   | _,_=>none
 | _=>none
theorem uy:∀ (xs:List V) (k:Nat),V.aK xs=false->V.aK (xs.drop k)=false
 | xs,0,h=>h
 | [],k+1,h=>by simpa using h
 | v::vs,k+1,h=>by
   simp only[V.aK,Bool.or_eq_false_iff]at h;exact uy vs k h.2
theorem Kq{Fo:List Nat}{RB g2 o2 c2 lo n c:Nat}{xs:List V}{W1:List Value}(hr:R w Pb (.own RB xs g2 o2 c2) W1 Fo)(hle:n<=c){B:Option Addr}(hB:0<c->B=some ⟨g2,o2+lo*RB,none⟩)(hn:lo+n<=xs.length)(ho:V.aK xs=false){s:Nat}(hs:aX s ((xs.drop lo).take n)):
 ∃ (flat:List Value),RL w Pb ((xs.drop lo).take n) flat []/\(∀ w1:World,(∀ ad,w1.cell? ad=w.cell? ad)->(Builtin.firstCells s n (.slice B n c)).run P w1=.ok flat.toArray w1)/\flat.length=n*s:=by
 by_cases hn0:n=0;subst hn0;refine⟨[],by simp[RL],fun w1 _=>?_,Zad⟩;cases B with
 | none=>rfl
 | some ad=>simp only[Builtin.firstCells,Nat.zero_mul];rfl
 rcases hr with ⟨_,rfl,_⟩ | ⟨h1,h2,h3,hx,hN,_,flat,F',cells,_,hr,hb,hsz,hc⟩;simp at hn;omega;have hF:=jD xs ho hr;subst hF;have QA:s=RB:=by
  have hne:(xs.drop lo).take n≠[]:=by
   intro e;have:=Zbm List.length e;simp at this;omega
  obtain⟨v,hv⟩:=List.exists_mem_of_ne_nil _ hne;rw[<- hs v hv,<- hN v (List.mem_of_mem_drop (List.mem_of_mem_take hv))]
 subst QA;obtain⟨c1,Um,R4⟩:=tE xs lo hr;obtain⟨c3,Zk,hc3⟩:=tB _ n Um;have hl:c3.length=n*s:=by
  rw[mi _ Zk,tw _ (fun x hx=>hN x (List.mem_of_mem_drop (List.mem_of_mem_take hx)))];have:((xs.drop lo).take n).length=n:=Zal;rw[this]
 refine⟨c3,Zk,fun w1 S4=>?_,hl⟩;have hB':=hB Zac;subst hB';simp only[Builtin.firstCells];rw[<- hl];refine run_loadCells_list w1 _ c3 (fun j v hv=>?_);rw[fF,S4,fP hb];have:=R4 j v (hc3 j v hv);rw[fL xs lo hN Zac]at this;have:=hc _ _ this;simpa[Zbj] using this
theorem qT(hs:C3 N Pb Kb A a w F){x:Operand}{C:Prop}{ys:List V}(h:Re A x=some (C,ys))(hC:C){s:Nat}(PQ:aX s ys)(ho:V.aK ys=false):
 ∃ (B:Option Addr) (c:Nat) (flat:List Value),a.eval x=.slice B ys.length c/\RL w Pb ys flat []/\
   (∀ w1:World,(∀ ad,w1.cell? ad=w.cell? ad)->(Builtin.firstCells s ys.length (a.eval x)).run P w1=.ok flat.toArray w1)/\flat.length=ys.length*s:=by
 obtain⟨Fx,hr⟩:=fv hs x;unfold Re at h;split at h;rename_i full xs e;simp only[Zan,Zaq]at h;obtain⟨_,rfl⟩:=h;rw[e]at hr;have hr:R w Pb (.sl full xs) [a.eval x] Fx:=hr;have hF:Fx=[]:=hr.1;subst hF;obtain⟨B,c,flat,h1,h2,h3,h4⟩:=CY (P:=P) hr PQ;exact⟨B,c,flat,h1,h2,h3,h4⟩;rename_i sz xs g o c e;simp only[Zan,Zaq]at h;obtain⟨_,rfl⟩:=h;rw[e]at hr;have hr:R w Pb (.own sz xs g o c) [a.eval x] Fx:=hr;have Un:=hr;obtain⟨B,flat,F',h1,h2,h3,h4,h5,h6⟩:=BC (P:=P) hr;have hF:=jD xs ho h2;subst hF;by_cases hc:0<c;obtain⟨_,UM,_,_,hl⟩:=h4 hc;by_cases he:xs=[];subst he;exact⟨B,c,flat,h1,h2,fun w1 S4=>by
  have:=h3 w1 S4;simpa[Builtin.firstCells,h1] using this,by simpa using hl⟩
 obtain⟨v,vs,rfl⟩:=List.exists_cons_of_ne_nil he;have QA:s=sz:=by rw[<- PQ v Zad,<- UM v Zad]
 subst QA;exact⟨B,c,flat,h1,h2,h3,hl⟩;obtain⟨rfl,_,_,rfl⟩:=h5 Zac;exact⟨B,c,[],h1,h2,fun w1 S4=>by
  have:=h3 w1 S4;simpa[Builtin.firstCells,h1] using this,Zad⟩
 rename_i r p sz g o lo n c e;rw[e]at hr;obtain⟨_,hle,B,hv,hB⟩:=hr;have hv:a.eval x=.slice B n c:=(List.cons.inj hv).1
 have key:∀ u Fo W1,R w Pb u W1 Fo->jc lo n sz g o u=some (C,ys)->∃ (B:Option Addr) (c:Nat) (flat:List Value),a.eval x=.slice B ys.length c/\RL w Pb ys flat []/\
  (∀ w1:World,(∀ ad,w1.cell? ad=w.cell? ad)->(Builtin.firstCells s ys.length (a.eval x)).run P w1=.ok flat.toArray w1)/\flat.length=ys.length*s:=by
  intro u Fo W1 QQ hu;unfold jc at hu;split at hu;rename_i RB xs g2 o2 c2;simp only[Zan,Zaq]at hu;obtain⟨rfl,rfl⟩:=hu;obtain⟨⟨rfl,rfl,rfl⟩,hln,XJ,_⟩:=hC;obtain⟨flat,k1,k2,k3⟩:=Kq (P:=P) QQ hle hB hln XJ PQ;have hlen:((xs.drop lo).take n).length=n:=Zal;rw[hlen];exact⟨B,c,flat,hv,k1,by rw[hv];exact k2,k3⟩;simp at hu
 split at h;rename_i i;have Qk:=hs.slot i;unfold jc at h;split at h;rename_i RB xs g2 o2 c2 hg;rw[hg]at Qk;exact key (.own RB xs g2 o2 c2) _ _ Qk (by unfold jc;exact h);simp at h;rename_i k p';split at h;rename_i a0 b0 u G5;obtain⟨F',cs,cells,hb,QQ,B8⟩:=ld hs G5;exact key u F' cs QQ h;simp at h;simp at h;simp at h
theorem ui{t sz:Nat}{xs:List V}{g o c:Nat}(h:A.get t=.own sz xs g o c):A.drop (.tmp t)=A.put (some t) .c9:=by simp[AS.drop,h,V.eE]
end
def M1(A B:AS):Prop:=(∀ i,A.get i=B.get i)/\∀ k,lk k A.h=lk k B.h
theorem M1.le{A B:AS}(h:M1 A B):A.le B:=⟨fun i=>.inr (h.1 i),fun k=>.inr (h.2 k)⟩
theorem M1.symm{A B:AS}(h:M1 A B):M1 B A:=⟨fun i=>(h.1 i).symm,fun k=>(h.2 k).symm⟩
theorem M1.trans{A B C:AS}(h:M1 A B)(k:M1 B C):M1 A C:=⟨fun i=>(h.1 i).trans (k.1 i),fun i=>(h.2 i).trans (k.2 i)⟩
def Wb(o:Oper):List Nat:=(o.after.toList.filter (Region.binds .any)).map (·.on)
section
variable {P:Program} {N:Nat} {ops:Array Oper}
theorem IU{α:Type}(t:Nat):∀ (l1 l2:List (Nat×α)),lk t (l1++l2)=match lk t l1 with | some v=>some v | none=>lk t l2
 | [],l2=>rfl
 | (k,v)::l1,l2=>by
   simp only[List.cons_append,lk];by_cases h:t=k;rw[if_pos h,if_pos h];rw[if_neg h,if_neg h];exact IU t l1 l2
def Wi(listed:Array Bool)(n:Nat):Nat:=((List.range n).filter fun i=>!listed.getD i true).length
theorem JG{listed:Array Bool}{n:Nat}(h:Wi listed n=0):∀ j,j<n->listed.getD j true=true:=by
 intro j hj;unfold Wi at h;have:=Za5 h;rw[List.filter_eq_nil_iff]at this;simpa using this j Zbp
theorem Ly{listed:Array Bool}{n i:Nat}(hi:i<n)(hs:listed.size=n)(hu:listed.getD i true=false):Wi (listed.setIfInBounds i true) n+1=Wi listed n:=by
 unfold Wi;have h:∀ m,m<=n->((List.range m).filter fun j=>!(listed.setIfInBounds i true).getD j true).length+(if i<m then 1 else 0)=((List.range m).filter fun j=>!listed.getD j true).length:=by
  intro m;induction m with
  | zero=>simp
  | succ m ih=>
    intro hm;have ih:=ih Zac;rw[List.range_succ,List.filter_append,List.filter_append,Zap,Zap];by_cases he:m=i;subst he;have e1:(listed.setIfInBounds m true).getD m true=true:=by simp[Array.getD]
    rw[if_neg Zac]at ih;rw[List.filter_cons_of_neg (by rw[e1];decide),List.filter_cons_of_pos (by rw[hu];rfl),if_pos Zac];simp only[List.filter_nil,Zar,Zau];omega;have e1:(listed.setIfInBounds i true).getD m true=listed.getD m true:=getD_set_ne true (Ne.symm he);have e2:([m].filter fun j=>!(listed.setIfInBounds i true).getD j true).length=([m].filter fun j=>!listed.getD j true).length:=by
     cases hb:listed.getD m true with
     | true=>rw[List.filter_cons_of_neg (by rw[e1,hb];decide),List.filter_cons_of_neg (by rw[hb];decide)];rfl
     | false=>rw[List.filter_cons_of_pos (by rw[e1,hb];rfl),List.filter_cons_of_pos (by rw[hb];rfl)];rfl
    rw[e2];by_cases hlt:i<m;rw[if_pos hlt]at ih;rw[if_pos Zac];omega;rw[if_neg hlt]at ih;rw[if_neg Zac];omega
 have:=h n (Zbc _);rw[if_pos hi]at this;exact this
end
def OS(P:Program)(N:Nat)(ops:Array Oper)(El:List Nat)(U:Nat×Nat×Nat->AS->AS)(o:Oper)(A:AS):Prop:=
 ∀ A':AS,(∀ t,t∈o.looksAt ops\/t∈El->A'.get t=A.get t)->(∀ k,lk k A'.h=lk k A.h)->∀ K:AS->Prop,(∀ gh,K (U gh A'))->N' P N o A' K
def lG(ops:Array Oper):Nat->Nat->Nat->Bool
 | 0,_,_=>false
 | n+1,j,i=>match ops[j]? with
   | some o=>(Wb o).any fun k=>k==i||lG ops n k i
   | none=>false
theorem oo{ops:Array Oper}{L:Nat->Bool}(hcl:∀ k o,ops[k]? =some o->L k=true->∀ j,j∈Wb o->L j=true):∀ (n j i:Nat),lG ops n j i=true->L j=true->L i=true
 | 0,_,_,h,_=>by simp[lG]at h
 | n+1,j,i,h,hj=>by
   simp only[lG]at h;split at h;rename_i o ho;rw[List.any_eq_true]at h;obtain⟨k,hk,h⟩:=h;have Sv:=hcl j o ho hj k hk;rw[Bool.or_eq_true,Zbl]at h;rcases h with rfl | h;exact Sv;exact oo hcl n k i h Sv;simp at h
structure UOk (U:Nat×Nat×Nat->AS->AS) (Sl Hl:List Nat) (d:Nat):Prop where
 g:∀ gh B t,t ∉ Sl->(U gh B).get t=B.get t
 h:∀ gh B k,k ∉ Hl->lk k (U gh B).h=lk k B.h
 c:∀ gh B B',M1 B B'->M1 (U gh B) (U gh B')
 p:∀ gh B t v,t ∉ Sl->M1 (U gh (B.put (some t) v)) ((U gh B).put (some t) v)
 d:∀ gh B v,M1 (U gh (B.put (some d) v)) (U gh B)
 q:∀ gh B k gv,k ∉ Hl->M1 (U gh ⟨B.t,(k,gv)::B.h⟩) ⟨(U gh B).t,(k,gv)::(U gh B).h⟩
section
variable {P:Program} {N:Nat} {ops:Array Oper}
end
structure TZ where
 eff:Bool
 El:List Nat
 fr:Option (List Nat)
 Sl:List Nat
 Hl:List Nat
structure ZT (P:Program) where
 T:Nat
 v:V
 ok:rJ P T v
def Td(d:Nat)(v:V)(g:Nat)(B:AS):AS:=⟨(d,.ptr (.key d) [] g 0)::B.t,(d,(g,v))::B.h⟩
def cM(ops:Array Oper)(tb:List (Nat×TZ))(i:Nat):TZ:=match lk i tb with
 | some e=>e
 | none=>match ops[i]? with
   | some o=>⟨false,[],(match o.op with | .load _ _=>none | _=>some []),o.dst.toList,[]⟩
   | none=>⟨false,[],none,[],[]⟩
def jC(ops:Array Oper)(tb:List (Nat×TZ))(i:Nat):List Nat:=(match ops[i]? with | some o=>o.looksAt ops | none=>[])++(cM ops tb i).El
def ZC(A' A:AS)(fs:List Nat):Prop:= ∀ t,t∈fs->A'.get t=A.get t
def hM:Nat:=1000000
def V1(g o:Nat)(v:V)(p:List Nat):Option (Nat×Nat×V×Nat):=match V.at g o v p with
 | some (g',o',.own sz xs g1 o1 c)=>some (g',o',.own sz [] g1 o1 c,xs.length)
 | _=>none
def Vl(i:Nat):List Nat:=if Nat.blt i 10=true then [i] else [i / 10,i % 10]
def QR(h:List (Nat×(Nat×V)))(q:Nat):Option (Nat×Nat×V×Nat):=match lk (q / 100) h with
 | some (g,v)=>V1 g 0 v (Vl (q % 100))
 | none=>none
theorem Da{h h':List (Nat×(Nat×V))}{q:Nat}(e:lk (q / 100) h'=lk (q / 100) h):QR h' q=QR h q:=by unfold QR;rw[e]
def UP(A' A:AS)(k:Nat):Prop:=if Nat.blt k hM=true then lk k A'.h=lk k A.h else QR A'.h (k-hM)=QR A.h (k-hM)
theorem As{A' A:AS}(h:∀ k,lk k A'.h=lk k A.h)(k:Nat):UP A' A k:=by
 unfold UP;split;exact h k;exact Da (h _)
theorem UP.trans{A B C:AS}{k:Nat}(h1:UP A B k)(h2:UP B C k):UP A C k:=by
 unfold UP at *;split;rename_i c;rw[if_pos c]at h1 h2;exact Eq.trans h1 h2;rename_i c;rw[if_neg c]at h1 h2;exact Eq.trans h1 h2
def W4(A' A:AS):Option (List Nat)->Prop
 | none=> ∀ k,lk k A'.h=lk k A.h
 | some fr=> ∀ k,k∈fr->UP A' A k
def Ws(P:Program)(N:Nat)(ops:Array Oper)(o:Oper)(A:AS)(v:V)(fs:List Nat)(fr:Option (List Nat)):Prop:=
 ∀ A':AS,ZC A' A fs->W4 A' A fr->gd ops o A' (N' P N o A' (fun B=>M1 B (A'.put o.dst v))) (dP N o.dst/\∀ w Pb,RV w Pb v undef [])
def ZD(P:Program)(N:Nat)(o:Oper)(A:AS){G:Type}(U:G->AS->AS)(fs:List Nat)(fr:Option (List Nat)):Prop:=
 o.guard=none/\∀ A':AS,ZC A' A fs->W4 A' A fr->N' P N o A' (fun B=> ∃ g,M1 B (U g A'))
structure U4 {G:Type} (U:G->AS->AS) (fs Sl Hl:List Nat):Prop where
 g:∀ g B t,t ∉ Sl->(U g B).get t=B.get t
 h:∀ g B k,k ∉ Hl->lk k (U g B).h=lk k B.h
 c:∀ g B B',M1 B B'->M1 (U g B) (U g B')
 p:∀ g B t v,t ∉ Sl->t ∉ fs->M1 (U g (B.put (some t) v)) ((U g B).put (some t) v)
 q:∀ g B k gv,k ∉ Hl->M1 (U g ⟨B.t,(k,gv)::B.h⟩) ⟨(U g B).t,(k,gv)::(U g B).h⟩
structure Y7 {G:Type} (U:G->AS->AS) (fs Sl Hl:List Nat):Prop extends U4 U fs Sl Hl where
 s:∀ q,hM+q∈Hl->∀ g B,QR (U g B).h q=QR B.h q
def RA(P:Program)(N:Nat)(ops:Array Oper)(tb:List (Nat×TZ))(zs:List (Nat×ZT P)):List Nat->AS->(AS->Prop)->Prop
 | [],A,K=>K A
 | i::l,A,K=> ∃ o,ops[i]? =some o/\match lk i zs with
  | some z=> ∀ g,RA P N ops tb zs l (Td (o.dst.getD 0) z.v g A) K
  | none=>match (cM ops tb i).eff with
   | false=>(cM ops tb i).Sl=o.dst.toList/\(cM ops tb i).Hl=[]/\∃ v,Ws P N ops o A v (jC ops tb i) (cM ops tb i).fr/\RA P N ops tb zs l (A.put o.dst v) K
   | true=> ∃ (G:Type) (U:G->AS->AS),ZD P N o A U (jC ops tb i) (cM ops tb i).fr/\Y7 U (jC ops tb i) (cM ops tb i).Sl (cM ops tb i).Hl/\∀ g,RA P N ops tb zs l (U g A) K
def du(a b:List Nat):Bool:=a.all fun x=>!b.contains x
def Hi(a:List Nat):Option (List Nat)->Bool
 | none=>a.isEmpty
 | some b=>b.all fun x=>if Nat.blt x hM=true then !a.contains x else !a.contains ((x-hM) / 100)||a.contains x
def indep(ops:Array Oper)(tb:List (Nat×TZ)){P:Program}(zs:List (Nat×ZT P))(p i:Nat):Bool:=
 (lk i zs).isNone&&!(cM ops tb p).eff&&du (cM ops tb p).Sl (jC ops tb i)&&du (cM ops tb i).Sl (jC ops tb p)&&du (cM ops tb p).Sl (cM ops tb i).Sl&&Hi (cM ops tb i).Hl (cM ops tb p).fr
def tO(ops:Array Oper)(tb:List (Nat×TZ)){P:Program}(zs:List (Nat×ZT P))(p i:Nat):Bool:=
 match lk i zs,ops[i]? with
 | some _,some o=>match lk p zs,ops[p]? with
   | some _,some o'=>o'.dst.getD 0 != o.dst.getD 0
   | none,_=>!(cM ops tb p).Sl.contains (o.dst.getD 0)&&!(jC ops tb p).contains (o.dst.getD 0)&&!(cM ops tb p).Hl.contains (o.dst.getD 0)&&(match (cM ops tb p).fr with | some l=>l.all (fun x=>if Nat.blt x hM=true then x != o.dst.getD 0 else (x-hM) / 100 != o.dst.getD 0) | none=>false)
   | _,none=>false
 | _,_=>false
def vH(ops:Array Oper)(m:Nat)(tb:List (Nat×TZ)){P:Program}(zs:List (Nat×ZT P)):List Nat->Bool
 | []=>true
 | p::l=>(l.all fun i=>(match lk p zs with | none=>indep ops tb zs p i | some _=>false)||lG ops 64 i p||tO ops tb zs p i)&&vH ops m tb zs l
def Gr(N:Nat)(ops:Array Oper){P:Program}(zs:List (Nat×ZT P)):Bool:=zs.all fun x=>match ops[x.1]? with
 | some o=>(match o.op,o.dst with | .alloc T,some d=>T==x.2.T&&Nat.blt d N | _,_=>false)&&o.guard.isNone
 | none=>false
def RC(l:List Nat):Bool:=match l with
 | []=>true
 | k::r=>!r.contains k&&RC r
def GK(ops:Array Oper)(m:Nat)(pl:List Nat):Bool:=
 (pl.all fun i=>Nat.blt i m)&&RC pl&&((List.range m).all fun i=>pl.contains i)&&Nat.ble m ops.size&&
 (ops.toList.zipIdx.all fun (o,i)=>(Wb o).all (fun k=>Nat.blt k i))&&
 ((List.range (ops.size-m)).all fun q=>match ops[m+q]? with
   | some _=>(List.range (m+q)).all fun k=>lG ops 64 (m+q) k
   | none=>false)
section
variable {P:Program} {N:Nat} {ops:Array Oper} {tb:List (Nat×TZ)} {zs:List (Nat×ZT P)}
theorem AR{a b:List Nat}(h:du a b=true):∀ x,x∈a->x ∉ b:=fun x hx=>by
 unfold du at h;rw[Za2]at h;simpa using h x hx
theorem M1.mQ{A:AS}:M1 A A:=⟨fun _=>rfl,fun _=>rfl⟩
theorem MQ{A B:AS}{d:Option Nat}{v:V}(h:M1 A B):M1 (A.put d v) (B.put d v):=by
 cases d with
 | none=>exact h
 | some d'=>exact⟨fun t=>by rw[AS.bg,AS.bg];split
                            rfl;exact h.1 t,h.2⟩
theorem Ws.congr{o:Oper}{A B:AS}{v:V}{fs:List Nat}{fr:Option (List Nat)}(h:Ws P N ops o A v fs fr)(h1:ZC B A fs)(h2:W4 B A fr):Ws P N ops o B v fs fr:=fun A' k1 k2=>
 h A' (fun t ht=>(k1 t ht).trans (h1 t ht)) (by
   cases fr with
   | none=>exact fun k=>(k2 k).trans (h2 k)
   | some l=>exact fun k hk=>(k2 k hk).trans (h2 k hk))
theorem ZD.congr{G:Type}{U:G->AS->AS}{o:Oper}{A B:AS}{fs:List Nat}{fr:Option (List Nat)}(h:ZD P N o A U fs fr)(h1:ZC B A fs)(h2:W4 B A fr):ZD P N o B U fs fr:=⟨h.1,fun A' k1 k2=>
 h.2 A' (fun t ht=>(k1 t ht).trans (h1 t ht)) (by
  cases fr with
  | none=>exact fun k=>(k2 k).trans (h2 k)
  | some l=>exact fun k hk=>(k2 k hk).trans (h2 k hk))⟩
theorem zS{A B:AS}(h:A.h=B.h)(fr:Option (List Nat)):W4 A B fr:=by
 cases fr with
 | none=>exact fun k=>by rw[h]
 | some l=>exact fun k _=>As (fun k=>by rw[h]) k
theorem IF{A B:AS}(h:M1 A B)(fr:Option (List Nat)):W4 A B fr:=by
 cases fr with
 | none=>exact h.2
 | some l=>exact fun k _=>As h.2 k
theorem LM{G:Type}{U:G->AS->AS}{fs Sl Hl fr:List Nat}(hU:Y7 U fs Sl Hl)(hd:Hi Hl (some fr)=true){k:Nat}(hk:k∈fr)(g:G)(B:AS):UP (U g B) B k:=by
 have hx:=Za2.1 hd k hk;unfold UP;split;rename_i c;rw[if_pos c]at hx;exact hU.h g B k Zbt;rename_i c;rw[if_neg c,Bool.or_eq_true]at hx;have Sw:hM+(k-hM)=k:=by
  have: ¬ k<hM:=fun h=>c (by simpa[Nat.blt_eq] using h);omega
 rcases hx with hx | hx;exact Da (hU.h g B _ Zbt);exact hU.s _ (by rw[Sw];simpa using hx) g B
theorem rY{A:AS}{d:Option Nat}{v:V}:(A.put d v).h=A.h:=by cases d <;> rfl
theorem nk{A:AS}{d:Option Nat}{v:V}{t:Nat}(h:t ∉ d.toList):(A.put d v).get t=A.get t:=by
 cases d with
 | none=>rfl
 | some d'=>rw[AS.bg,if_neg (by simpa using h)]
theorem HQ{d:Nat}{v:V}{g:Nat}{A B:AS}(h:M1 A B):M1 (Td d v g A) (Td d v g B):=
 ⟨fun t=>by simp only[Td,AS.get,lk];split
            rfl
            exact h.1 t,fun k=>by simp only[Td,lk];split;rfl;exact h.2 k⟩
theorem hY{K:AS->Prop}(hK:∀ A B,M1 A B->K A->K B):∀ (l:List Nat) {A B:AS},M1 A B->RA P N ops tb zs l A K->RA P N ops tb zs l B K
 | [],A,B,h,hA=>hK A B h hA
 | i::l,A,B,h,hA=>by
   obtain⟨o,ho,hA⟩:=hA;refine⟨o,ho,?_⟩;split at hA;exact fun g=>hY hK l (HQ h) (hA g);split at hA;obtain⟨e1,e2,v,h1,h2⟩:=hA;exact⟨e1,e2,v,h1.congr (fun t _=>(h.1 t).symm) (IF h.symm _),hY hK l (MQ h) h2⟩;obtain⟨G,U,h1,h2,h3⟩:=hA;exact⟨G,U,h1.congr (fun t _=>(h.1 t).symm) (IF h.symm _),h2,fun g=>hY hK l (h2.c g _ _ h) (h3 g)⟩
theorem Ks{K:AS->Prop}(hK:∀ A B,M1 A B->K A->K B){p i:Nat}{l:List Nat}{A:AS}(hp:lk p zs=none)(hi:indep ops tb zs p i=true)(h:RA P N ops tb zs (p::i::l) A K):RA P N ops tb zs (i::p::l) A K:=by
 unfold indep at hi;simp only[Zao,Bool.not_eq_true']at hi;obtain⟨⟨⟨⟨⟨hz,h1⟩,h2⟩,h3⟩,h4⟩,h5⟩:=hi;have hz:lk i zs=none:=by simpa using hz
 have h2:=AR h2;have h3:=AR h3;have h4:=AR h4;obtain⟨op,Q2,h⟩:=h;rw[hp]at h;simp only at h;rw[h1]at h;obtain⟨e1,e2,v,k1,oi,hoi,h⟩:=h;refine⟨oi,hoi,?_⟩;rw[hz]at h ⊢;simp only at h ⊢;rw[e1]at h2 h4;have g1:ZC A (A.put op.dst v) (jC ops tb i):=fun t ht=>(nk (fun c=>h2 t c ht)).symm;split at h;rename_i he;obtain⟨f1,f2,v',k2,k3⟩:=h;rw[f1]at h3 h4;refine⟨f1,f2,v',k2.congr g1 (zS rY.symm _),op,Q2,?_⟩;rw[hp];simp only;rw[h1];refine⟨e1,e2,v,k1.congr (fun t ht=>nk (fun c=>h3 t c ht)) (zS rY _),?_⟩;refine hY hK l ⟨fun t=>?_,fun k=>by rw[rY,rY,rY,rY]⟩ k3;by_cases c1:t∈oi.dst.toList;cases hd:oi.dst with
 | none=>rw[hd]at c1;simp at c1
 | some d=>
   rw[hd]at c1;have c1:t=d:=by simpa using c1
   subst c1;have hn:t ∉ op.dst.toList:=fun c=>h4 t c (by rw[hd];simp);rw[AS.bg,if_pos rfl,nk hn,AS.bg,if_pos rfl]
 rw[nk c1];by_cases c2:t∈op.dst.toList;cases hd:op.dst with
 | none=>rw[hd]at c2;simp at c2
 | some d=>
   rw[hd]at c2;have c2:t=d:=by simpa using c2
   subst c2;rw[AS.bg,if_pos rfl,AS.bg,if_pos rfl]
 rw[nk c2,nk c2,nk c1];obtain⟨G,U,k2,k3,k4⟩:=h;refine⟨G,U,k2.congr g1 (zS rY.symm _),k3,fun g=>⟨op,Q2,?_⟩⟩;rw[hp];simp only;rw[h1];refine⟨e1,e2,v,k1.congr (fun t ht=>k3.g g A t (fun c=>h3 t c ht)) ?_,?_⟩;cases hf:(cM ops tb p).fr with
 | none=>
   rw[hf]at h5;have:(cM ops tb i).Hl=[]:=by simpa[Hi] using h5
   exact fun k=>k3.h g A k (by rw[this];simp)
 | some fr=>
   rw[hf]at h5;exact fun k hk=>LM k3 h5 hk g A
 refine hY hK l ?_ (k4 g);cases hd:op.dst with
 | none=>exact M1.mQ
 | some d=>exact k3.p g A d v (fun c=>h4 d (by rw[hd];simp) c) (fun c=>h2 d (by rw[hd];simp) c)
theorem Bc{d:Nat}{v:V}{g t:Nat}{A:AS}(h:t≠d):(Td d v g A).get t=A.get t:=by simp only[Td,AS.get,lk];rw[if_neg h]
theorem Jg{d:Nat}{v:V}{g k:Nat}{A:AS}(h:k≠d):lk k (Td d v g A).h=lk k A.h:=by simp only[Td,lk];rw[if_neg h]
theorem My{d:Nat}{v:V}{g:Nat}{A:AS}{dd:Option Nat}{u:V}(h:d ∉ dd.toList):M1 (Td d v g (A.put dd u)) ((Td d v g A).put dd u):=by
 cases dd with
 | none=>exact M1.mQ
 | some d'=>
   have hne:d≠d':=Zbq
   refine⟨fun t=>?_,fun k=>rfl⟩;rw[AS.bg];by_cases c:t=d;subst c;rw[if_neg hne];simp only[Td,AS.get,lk,if_true];rw[Bc c,Bc c,AS.bg]
theorem Ii{K:AS->Prop}(hK:∀ A B,M1 A B->K A->K B){p i:Nat}{l:List Nat}{A:AS}(hi:tO ops tb zs p i=true)(h:RA P N ops tb zs (p::i::l) A K):RA P N ops tb zs (i::p::l) A K:=by
 unfold tO at hi;split at hi
 case h_2=>simp at hi
 rename_i z o hz ho;obtain⟨op,Q2,h⟩:=h;have inner:∀ {B:AS},RA P N ops tb zs (i::l) B K->∀ g,RA P N ops tb zs l (Td (o.dst.getD 0) z.v g B) K:=fun h g=>by
  obtain⟨o',UH,h⟩:=h;rw[ho]at UH;obtain rfl:=Option.some.inj UH;rw[hz]at h;exact h g
 refine⟨o,ho,?_⟩;rw[hz];refine fun g=>⟨op,Q2,?_⟩;split at hi;rename_i z' o' hz' Z6;rw[Q2]at Z6;obtain rfl:=Option.some.inj Z6;rw[hz']at h ⊢;intro g';have hne:op.dst.getD 0≠o.dst.getD 0:=Zbn
 refine hY hK l ⟨fun t=>?_,fun k=>?_⟩ (inner (h g') g);simp only[Td,AS.get,lk];by_cases c:t=o.dst.getD 0;rw[if_pos c,if_neg (fun c2=>hne (c2.symm.trans c)),if_pos c];rw[if_neg c,if_neg c];simp only[Td,lk];by_cases c:k=o.dst.getD 0;rw[if_pos c,if_neg (fun c2=>hne (c2.symm.trans c)),if_pos c];rw[if_neg c,if_neg c];rename_i hz';simp only[Zao,Bool.not_eq_true',Zbi,decide_eq_false_iff_not]at hi;obtain⟨⟨⟨i1,i2⟩,i3⟩,i4⟩:=hi;rw[hz']at h ⊢;simp only at h ⊢;have gS:ZC (Td (o.dst.getD 0) z.v g A) A (jC ops tb p):=fun t ht=>Bc fun c=>i2 (by rw[<- c];exact ht);have gR:W4 (Td (o.dst.getD 0) z.v g A) A (cM ops tb p).fr:=by
  split at i4;rename_i l' hl;rw[hl];intro k hk;have i5:=Za2.1 i4 k hk;unfold UP;split;rename_i c;rw[if_pos c]at i5;exact Jg (by simpa using i5);rename_i c;rw[if_neg c]at i5;exact Da (Jg (by simpa using i5));simp at i4
 split at h;obtain⟨e1,e2,v,k1,h⟩:=h;refine⟨e1,e2,v,k1.congr gS gR,?_⟩;exact hY hK l (My (by rw[<- e1];exact i1)) (inner h g);obtain⟨G,U,k1,k2,h⟩:=h;refine⟨G,U,k1.congr gS gR,k2,fun x=>hY hK l ?_ (inner (h x) g)⟩;have e1:=k2.q x ⟨(o.dst.getD 0,.ptr (.key (o.dst.getD 0)) [] g 0)::A.t,A.h⟩ (o.dst.getD 0) (g,z.v) i3;have e2:=k2.p x A (o.dst.getD 0) (.ptr (.key (o.dst.getD 0)) [] g 0) i1 i2;refine M1.trans ?_ e1.symm;refine⟨fun t=>?_,fun k=>?_⟩;exact(e2.1 t).symm;simp only[Td,lk];split;rfl;exact(e2.2 k).symm;simp at hi
theorem DH{K:AS->Prop}(hK:∀ A B,M1 A B->K A->K B){i:Nat}{l2:List Nat}:∀ (l1:List Nat) {A:AS},(∀ p,p∈l1->(lk p zs=none/\indep ops tb zs p i=true)\/tO ops tb zs p i=true)->RA P N ops tb zs (l1++i::l2) A K->RA P N ops tb zs (i::(l1++l2)) A K
 | [],A,_,h=>h
 | p::l1,A,hi,h=>by
   have ih:∀ A,RA P N ops tb zs (l1++i::l2) A K->RA P N ops tb zs (i::(l1++l2)) A K:=fun A=>DH hK l1 (fun q hq=>hi q (by simp[hq]));have h2:RA P N ops tb zs (p::i::(l1++l2)) A K:=by
    obtain⟨o,ho,h⟩:=h;refine⟨o,ho,?_⟩;split at h;exact fun g=>ih _ (h g);split at h;obtain⟨e1,e2,v,h1,h2⟩:=h;exact⟨e1,e2,v,h1,ih _ h2⟩;obtain⟨G,U,h1,h2,h3⟩:=h;exact⟨G,U,h1,h2,fun g=>ih _ (h3 g)⟩
   rcases hi p Zad with h | h;exact Ks hK h.1 h.2 h2;exact Ii hK h h2
theorem FE{α:Type}:∀ {l:List (Nat×α)} {k:Nat} {v:α},lk k l=some v->(k,v)∈l
 | [],_,_,h=>by simp[lk]at h
 | (k0,v0)::l,k,v,h=>by
   simp only[lk]at h;split at h;rename_i e;subst e;cases h;simp;exact List.mem_cons_of_mem _ (FE h)
theorem Gg{m:Nat}:∀ {pl l1 l2:List Nat} {i p:Nat},vH ops m tb zs pl=true->pl=l1++i::l2->p∈l1->((lk p zs=none/\indep ops tb zs p i=true)\/tO ops tb zs p i=true)\/lG ops 64 i p=true
 | [],l1,l2,i,p,_,e,_=>by simp at e
 | q::pl,[],l2,i,p,_,_,hp=>by simp at hp
 | q::pl,x::l1,l2,i,p,h,e,hp=>by
   simp only[List.cons_append,List.cons.injEq]at e;obtain⟨rfl,rfl⟩:=e;simp only[vH,Zao,Za2]at h;rcases List.mem_cons.1 hp with rfl | hp;have:=h.1 i Zad;rw[Bool.or_eq_true,Bool.or_eq_true]at this;rcases this with (h | h) | h;split at h;exact .inl (.inl ⟨by assumption,h⟩);simp at h;exact .inr h;exact .inl (.inr h);exact Gg h.2 rfl hp
theorem sN{m:Nat}(f:Nat->Bool):∀ {pl:List Nat},vH ops m tb zs pl=true->vH ops m tb zs (pl.filter f)=true
 | [],_=>rfl
 | p::pl,h=>by
   simp only[vH,Zao,Za2]at h;simp only[List.filter_cons];split;simp only[vH,Zao,Za2];exact⟨fun i hi=>h.1 i (List.mem_filter.1 hi).1,sN f h.2⟩;exact sN f h.2
theorem CK{L:Nat->Bool}(hcl:∀ k o,ops[k]? =some o->L k=true->∀ j,j∈Wb o->L j=true){i k:Nat}{o:Oper}(ho:ops[i]? =some o)(hed:∀ j,j∈Wb o->L j=true)(h:lG ops 64 i k=true):L k=true:=by
 have h:lG ops (63+1) i k=true:=h;generalize (63:Nat)=n at h;simp only[lG,ho]at h;rw[List.any_eq_true]at h;obtain⟨q,hq,h⟩:=h;rw[Bool.or_eq_true,Zbl]at h;rcases h with rfl | h;exact hed _ hq;exact oo hcl n q k h (hed _ hq)
theorem Bk{id m:Nat} {pl:List Nat} {A:AS} {Q:Exit->AS->Prop} (hm:P.follows .mixedOrders=true) (hc:vH ops m tb zs pl=true) (hal:Gr N ops zs=true) (VQ:GK ops m pl=true)
 (h:RA P N ops tb zs pl A (fun B=> ∃ B',M1 B B'/\WL P N ops (ops.toList.drop m) B' (Q .normal))):T P N (.region id ops true) A Q:=by
 unfold GK at VQ;simp only[Zao,Za2]at VQ;obtain⟨⟨⟨⟨⟨p1,p2⟩,p3⟩,p4⟩,p5⟩,p6⟩:=VQ;have hml:=Nat.le_of_ble_eq_true p4;have YC:∀ i,i∈pl↔i<m:=fun i=>⟨fun hi=>Nat.lt_of_succ_le (Nat.le_of_ble_eq_true (p1 i hi)),fun hi=>by have:=p3 i (List.mem_range.2 hi);simpa using this⟩;have hnd:pl.Nodup:=by
  have:∀ l:List Nat,RC l=true->l.Nodup:=by
   intro l;induction l with
   | nil=>intro _;exact Zba
   | cons a l ih=>
     intro h;simp only[RC,Zao,Bool.not_eq_true',Zbi,decide_eq_false_iff_not]at h;exact List.nodup_cons.2 ⟨h.1,ih h.2⟩
  exact this pl p2
 have V0:∀ i o,ops[i]? =some o->∀ k,k∈Wb o->k<i:=fun i o ho k hk=>by
  have hmz:(o,i)∈ops.toList.zipIdx:=by rw[List.mk_mem_zipIdx_iff_getElem?];simpa using ho
  have:=p5 (o,i) hmz;simp only[Za2]at this;exact Nat.lt_of_succ_le (Nat.le_of_ble_eq_true (this k hk))
 have Ty:∀ i o,ops[i]? =some o->m<=i->∀ k,k<i->lG ops 64 i k=true:=fun i o ho hi k hk=>by
  have hin:i<ops.size:=(Zbh.1 ho).1;have:=p6 (i-m) (List.mem_range.2 Zac);rw[show m+(i-m)=i from Zac,ho]at this;simp only[Za2]at this;simpa using this k (List.mem_range.2 hk)
 let Kt:AS->Prop:=fun B=> ∃ B',M1 B B'/\WL P N ops (ops.toList.drop m) B' (Q .normal)
 have hKt:∀ A B,M1 A B->Kt A->Kt B:=fun A B hAB ⟨B',h1,h2⟩=>⟨B',hAB.symm.trans h1,h2⟩;intro Pb Kb a w F hs;refine wp_region_any hm ?_;have b9:C3 N Pb Kb A a { w with drawn:=w.drawn+1 } F:=hs.grow (fun _ _=>rfl) (Zbc _) (fun _ h=>h) (fun g h=>.inl h) hs.sub;obtain⟨w0,hw0⟩:∃ w0:World,w0={ w with drawn:=w.drawn+1 }:=⟨_,rfl⟩;have UY:F7 Kb w w0:=by rw[hw0];exact⟨rfl,rfl,rfl,Zbc _,fun _ _=>rfl,fun _ c _ _ h=>⟨c,h,rfl⟩⟩
 rw[<- hw0]at b9 ⊢
 let rem (listed:Array Bool):List Nat:=pl.filter fun j=>!listed.getD j true
 let Ph (listed:Array Bool) (A':AS):Prop:=
  (rem listed≠[]/\RA P N ops tb zs (rem listed) A' Kt)\/
  (∃ k,m<=k/\k<=ops.size/\(∀ j,j<ops.size->listed.getD j true=decide (j<k))/\WL P N ops (ops.toList.drop k) A' (Q .normal))
 have key:∀ fuel (listed:Array Bool) a w',listed.size=ops.size->Wi listed ops.size=fuel->
  (∀ k o,ops[k]? =some o->listed.getD k true=true->∀ j,j∈Wb o->listed.getD j true=true)->Nx N Pb Kb w0 (Ph listed) a w'->
  wpAny P .any ops (fun e a' w'=>Nx N Pb Kb w (Q e) a' w') fuel listed a w':=by
  intro fuel;induction fuel with
  | zero=>
    intro listed a w' hsz hu hcl hn;have PQ:=JG hu;refine⟨?_,(Nx.step (fun _ h=>h) (fun _ h=>h) (fun _ h=>.inl h) UY hn).mono fun A' hA'=>?_⟩;rw[List.eq_nil_iff_forall_not_mem];intro j hj;rw[mem_ready]at hj;obtain⟨h0,o,ho,_⟩:=hj;have:=PQ j (Zbh.1 ho).1;rw[h0]at this;cases this;rcases hA' with ⟨hne,_⟩ | ⟨k,UJ,PR,WR,hw⟩;exfalso;apply hne;rw[List.filter_eq_nil_iff];intro j hj;rw[PQ j (by have:=(YC j).1 hj;omega)];simp;have:k=ops.size:=by
     rcases Nat.lt_or_ge k ops.size with h | h;have:=WR k h;rw[PQ k h]at this;simp at this;omega
    subst this;rw[Za8 Zad]at hw;exact hw
  | succ fuel ih=>
    intro listed a w' hsz hu hcl hn;have WQ:∀ j,j<ops.size->listed.getD j false=listed.getD j true:=fun j hj=>by
     have hj':j<listed.size:=Zac;simp[Array.getD,hj']
    constructor;intro hr;exfalso;have hex:∃ j,j<ops.size/\listed.getD j true=false:=by
     refine Classical.byContradiction fun hne=>?_;have:Wi listed ops.size=0:=by
      unfold Wi;rw[List.filter_eq_nil_iff.2];rfl;intro j hj;simp only[List.mem_range]at hj;cases hb:listed.getD j true with
      | true=>simp
      | false=>exact absurd ⟨j,hj,hb⟩ hne
     omega
    have hmin:∀ n,∀ j,j<=n->j<ops.size->listed.getD j true=false->∃ j',j'<ops.size/\listed.getD j' true=false/\∀ i,i<j'->listed.getD i true=true:=by
     intro n;induction n with
     | zero=>intro j hj h1 h2;exact⟨j,h1,h2,fun i hi=>by omega⟩
     | succ n ihn=>
       intro j hj h1 h2;by_cases hsm:∃ i,i<j/\listed.getD i true=false;obtain⟨i,hi,hf⟩:=hsm;exact ihn i Zac Zac hf;exact⟨j,h1,h2,fun i hi=>by
        cases hb:listed.getD i true with
        | true=>rfl
        | false=>exact absurd ⟨i,hi,hb⟩ hsm⟩
    obtain⟨j,hj1,YN⟩:=hex;obtain⟨j',h1,h2,h3⟩:=hmin j j (Zbc _) hj1 YN;have ho:ops[j']? =some ops[j']:=by simp[h1]
    have:j'∈Region.ready .any ops listed:=by
     rw[mem_ready];refine⟨h2,_,ho,fun e he hb=>?_⟩;have hlt:=V0 j' _ ho e.on (by simp only[Wb,List.mem_map,List.mem_filter];exact⟨e,⟨by simpa using he,hb⟩,rfl⟩);rw[WQ _ Zac];exact h3 _ hlt
    rw[hr]at this;cases this;intro i hi;rw[mem_ready]at hi;obtain⟨hi0,o,ho,hed⟩:=hi;have hin:i<ops.size:=(Zbh.1 ho).1;have WS:∀ k,k∈Wb o->listed.getD k true=true:=fun k hk=>by
     have hlt:=V0 i o ho k hk;simp only[Wb,List.mem_map,List.mem_filter]at hk;obtain⟨e,⟨he,hb⟩,rfl⟩:=hk;rw[<- WQ _ Zac];exact hed e (by simpa using he) hb
    have SG:∀ k,k<ops.size->(listed.setIfInBounds i true).getD k true=(if k=i then true else listed.getD k true):=fun k hk=>by
     by_cases e:k=i;subst e;simp[Array.getD,hsz,hin];rw[if_neg e];exact getD_set_ne true (Ne.symm e)
    have hcl':∀ k o,ops[k]? =some o->(listed.setIfInBounds i true).getD k true=true->∀ j,j∈Wb o->(listed.setIfInBounds i true).getD j true=true:=fun k o' UH hk j hj=>by
     have hkn:=(Zbh.1 UH).1;have hjk:=V0 k o' UH j hj;rw[SG k hkn]at hk;rw[SG j Zac];split;rfl;split at hk;rename_i e;subst e;rw[ho]at UH;obtain rfl:=Option.some.inj UH;exact WS j hj;exact hcl k o' UH hk j hj
    have hun':Wi (listed.setIfInBounds i true) ops.size=fuel:=by have:=Ly hin hsz hi0;omega
    have U0:∀ W5 Wv,Nx N Pb Kb w0 (Ph (listed.setIfInBounds i true)) W5 Wv->wpAny P .any ops (fun e a' w'=>Nx N Pb Kb w (Q e) a' w') fuel (listed.setIfInBounds i true) W5 Wv:=
     fun W5 Wv XK=>ih _ W5 Wv (by simpa using hsz) hun' hcl' XK
    obtain⟨A',Pb',N1,F',hA',h2,h3,h4,h5,h6⟩:=hn;rcases hA' with ⟨hne,hD⟩ | ⟨k,UJ,PR,WR,hw⟩
    ·
     obtain⟨j0,hj0⟩:=List.exists_mem_of_ne_nil _ hne;obtain⟨hj1,YN⟩:=List.mem_filter.1 hj0;have hj0m:=(YC j0).1 hj1;have Zp:listed.getD j0 true=false:=by simpa using YN
     have him:i<m:=by
      rcases Nat.lt_or_ge i m with h | h;exact h;have:=CK hcl ho WS (Ty i o ho h j0 Zac);rw[Zp]at this;cases this
     have hir:i∈rem listed:=List.mem_filter.2 ⟨(YC i).2 him,by rw[hi0];rfl⟩;obtain⟨l1,l2,hl⟩:=List.append_of_mem hir;have Yz:(rem listed).Nodup:=hnd.filter _;have XH:rem (listed.setIfInBounds i true)=l1++l2:=by
      have e1:rem (listed.setIfInBounds i true)=(rem listed).filter fun j=>j != i:=by
       show pl.filter _=(pl.filter _).filter _;rw[List.filter_filter];apply List.filter_congr;intro j hj;rw[SG j (by have:=(YC j).1 hj;omega)];by_cases e:j=i;subst e;simp;simp[e]
      rw[e1,hl];rw[hl]at Yz;rw[List.nodup_append]at Yz;obtain⟨n1,n2,n3⟩:=Yz;rw[List.filter_append,List.filter_cons];simp only[bne_self_eq_false,Bool.false_eq_true,if_false];have f1:l1.filter (fun j=>j != i)=l1:=List.filter_eq_self.2 fun j hj=>by
       have:=n3 j hj i Zad;simpa using this
      have f2:l2.filter (fun j=>j != i)=l2:=List.filter_eq_self.2 fun j hj=>by
       have:=(List.nodup_cons.1 n2).1;simp only[bne_iff_ne,ne_eq];rintro rfl;exact this hj
      rw[f1,f2]
     have hind:∀ p,p∈l1->(lk p zs=none/\indep ops tb zs p i=true)\/tO ops tb zs p i=true:=fun p hp=>by
      rcases Gg (sN _ hc) hl hp with h | h;exact h;exfalso;have hpr:p∈rem listed:=by rw[hl];simp[hp]
      have hp0:listed.getD p true=false:=by have:=(List.mem_filter.1 hpr).2;simpa using this
      have hanc:∀ (n j:Nat),lG ops n i j=true->listed.getD j true=true:=by
       intro n j hj;cases n with
       | zero=>simp[lG]at hj
       | succ n=>
         simp only[lG,ho]at hj;rw[List.any_eq_true]at hj;obtain⟨q,hq,hj⟩:=hj;have hql:=WS q hq;rw[Bool.or_eq_true,Zbl]at hj;rcases hj with rfl | hj;exact hql;exact oo (L:=fun k=>listed.getD k true) hcl n q j hj hql
      have:=hanc 64 p h;rw[hp0]at this;cases this
     rw[hl]at hD;obtain⟨o',UH,hD⟩:=DH hKt l1 hind hD;rw[ho]at UH;obtain rfl:=Option.some.inj UH;have YD:∀ B Sr SA a2 w2 F2,RA P N ops tb zs (l1++l2) B Kt->C3 N Sr SA B a2 w2 F2->∃ B' F3,Ph (listed.setIfInBounds i true) B'/\C3 N Sr SA B' a2 w2 F3:=fun B Sr SA a2 w2 F2 hB K0=>by
      by_cases VS:rem (listed.setIfInBounds i true)=[];rw[<- XH,VS]at hB;obtain⟨B',e1,e2⟩:=hB;obtain⟨F3,Ri,_⟩:=K0.le e1.symm.le;refine⟨B',F3,.inr ⟨m,Zbc _,hml,fun j hj=>?_,e2⟩,Ri⟩;rcases Nat.lt_or_ge j m with h | h;have:j ∉ rem (listed.setIfInBounds i true):=by rw[VS];simp
      have: ¬ ((!(listed.setIfInBounds i true).getD j true)=true):=fun c=>this (List.mem_filter.2 ⟨(YC j).2 h,c⟩);simp only[Bool.not_eq_true',Bool.not_eq_false]at this;rw[this];simp[h];have hoj:ops[j]? =some ops[j]:=by simp[hj]
      rw[SG j hj,if_neg Zac];cases hb:listed.getD j true with
      | false=>simp;omega
      | true=>
        have:=oo hcl 64 j j0 (Ty j _ hoj h j0 Zac) hb;rw[Zp]at this;cases this
      exact⟨B,F2,.inl ⟨VS,by rw[XH];exact hB⟩,K0⟩
     unfold Go.wpOp;simp only[ho];split at hD;rename_i z hz;unfold Gr at hal;rw[Za2]at hal;have Ua:=hal _ (FE hz);simp only[ho]at Ua;rw[Zao]at Ua;obtain⟨Ua,hz3⟩:=Ua;split at Ua;rename_i T d Q2 Q4;simp only[Zao,Zbl]at Ua;have VB:Region.wanted o (yielded ops a.tmps)=true:=by unfold Region.wanted;rw[show o.guard=none from by simpa using hz3]
     rw[if_pos VB];rw[Q4]at hD;refine .inl (Oper.wp_mono ?_ (wB (K:=fun B=>RA P N ops tb zs (l1++l2) B Kt) Q2 Q4 (Nat.lt_of_succ_le (Nat.le_of_ble_eq_true Ua.2)) (by rw[Ua.1];exact z.ok) hD Pb' N1 a w' F' _ h2));rintro a2 w2 ⟨B,Sr,SA,F2,k1,k2,k3,k4,k5,k6⟩;obtain⟨B',F3,hp,Ri⟩:=YD B Sr SA a2 w2 F2 k1 k2;exact U0 a2 w2 (Nx.step h3 h4 h5 h6 ⟨B',Sr,SA,F3,hp,Ri,k3,k4,k5,k6⟩);simp at Ua;split at hD;obtain⟨_,_,v,hv,hD⟩:=hD;rcases yY (hv A' (fun _ _=>rfl) (zS rfl _)) h2 with ⟨VB,Q2⟩ | ⟨VB,hd,hvd⟩;rw[if_pos VB];refine .inl (Oper.wp_mono ?_ (Q2 Pb' N1 a w' F' _ h2));rintro a2 w2 ⟨B,Sr,SA,F2,k1,k2,k3,k4,k5,k6⟩;obtain⟨B',F3,hp,Ri⟩:=YD B Sr SA a2 w2 F2 (hY hKt _ k1.symm hD) k2;exact U0 a2 w2 (Nx.step h3 h4 h5 h6 ⟨B',Sr,SA,F3,hp,Ri,k3,k4,k5,k6⟩);rw[if_neg (by simp[VB])];obtain⟨F2,QA⟩:=h2.uc (d:=o.dst) (v:=v) (x:=undef) hd (hvd w' Pb');obtain⟨B',F3,hp,Ri⟩:=YD _ Pb' N1 _ w' F2 hD QA;exact U0 _ w' ⟨B',Pb',N1,F3,hp,Ri,h3,h4,h5,h6⟩;obtain⟨G,U,hE,_,hD⟩:=hD;have VB:Region.wanted o (yielded ops a.tmps)=true:=by unfold Region.wanted;rw[hE.1]
     rw[if_pos VB];refine .inl (Oper.wp_mono ?_ (hE.2 A' (fun _ _=>rfl) (zS rfl _) Pb' N1 a w' F' _ h2));rintro a2 w2 ⟨B,Sr,SA,F2,⟨g,k1⟩,k2,k3,k4,k5,k6⟩;obtain⟨B',F3,hp,Ri⟩:=YD B Sr SA a2 w2 F2 (hY hKt _ k1.symm (hD g)) k2;exact U0 a2 w2 (Nx.step h3 h4 h5 h6 ⟨B',Sr,SA,F3,hp,Ri,k3,k4,k5,k6⟩)
    ·
     have hik:i=k:=by
      rw[WR i hin]at hi0;simp only[decide_eq_false_iff_not]at hi0;rcases Nat.lt_or_ge k i with h | h;have:=CK hcl ho WS (Ty i o ho Zac k h);rw[WR k Zac]at this;simp at this;omega
     subst hik;have TN:ops.toList.drop i=o::ops.toList.drop (i+1):=by
      rw[List.drop_eq_getElem_cons (by simpa using hin)];have:ops[i]=o:=by have:=Zbh.1 ho;exact this.2
      simp[this]
     rw[TN]at hw;have YD:∀ B,WL P N ops (ops.toList.drop (i+1)) B (Q .normal)->Ph (listed.setIfInBounds i true) B:=fun B hB=>
      .inr ⟨i+1,Zac,Zac,fun j hj=>by
       rw[SG j hj];split;rename_i e;subst e;simp;rename_i e;rw[WR j hj];have:(j<i)↔(j<i+1):=Zac;simp[this],hB⟩
     unfold Go.wpOp;simp only[ho];rcases yY hw h2 with ⟨VB,Q2⟩ | ⟨VB,hd,u,hu,XD⟩;rw[if_pos VB];refine .inl (Oper.wp_mono ?_ (Q2 Pb' N1 a w' F' _ h2));intro a2 w2 Zm;exact U0 a2 w2 (Nx.step h3 h4 h5 h6 (Zm.mono YD));rw[if_neg (by simp[VB])];obtain⟨F2,QA⟩:=h2.uc (d:=o.dst) (v:=u) (x:=undef) hd (hu w' Pb');exact U0 _ w' ⟨_,Pb',N1,F2,YD _ XD,QA,h3,h4,h5,h6⟩
 have WG:∀ k,k<ops.size->(Array.replicate ops.size false).getD k true=false:=fun k hk=>by simp[Array.getD,hk]
 have XG:rem (Array.replicate ops.size false)=pl:=List.filter_eq_self.2 fun j hj=>by rw[WG j (by have:=(YC j).1 hj;omega)];rfl
 have I2:∃ A1 F1,Ph (Array.replicate ops.size false) A1/\C3 N Pb Kb A1 a w0 F1:=by
  by_cases hp:pl=[];subst hp;obtain⟨B',e1,e2⟩:=h;obtain⟨F3,Ri,_⟩:=b9.le e1.symm.le;have hm0:m=0:=by
   rcases Nat.eq_zero_or_pos m with h | h;exact h;have:=(YC 0).2 h;simp at this
  exact⟨B',F3,.inr ⟨m,Zbc _,hml,fun j hj=>by rw[WG j hj,hm0];simp,e2⟩,Ri⟩;exact⟨A,F,.inl ⟨by rw[XG];exact hp,by rw[XG];exact h⟩,b9⟩
 obtain⟨A1,F1,hP1,Rj⟩:=I2;exact key ops.size (Array.replicate ops.size false) a w0 Zad (by
  unfold Wi;rw[List.filter_eq_self.2];simp;intro j hj;simp only[List.mem_range]at hj;rw[WG j hj];rfl)
  (fun k o ho hk=>by rw[WG k (Zbh.1 ho).1]at hk;cases hk) ⟨A1,Pb,Kb,F1,hP1,Rj,fun _ h=>h,fun _ h=>h,fun _ h=>.inl h,F7.refl _ _⟩
end
section
variable {P:Program} {N:Nat} {ops:Array Oper} {A A':AS}
theorem Oj{w:World}{Pb:Nat->Prop}{v:V}{x:Value}{F:List Nat}(h:Ya w Pb v x F):RV w Pb v x F:=by
 cases v with
 | gv b u=>simp[Ya,R]at h
 | _=>exact h
def V.kg:V->Bool | .gv _ _=>true | _=>false
theorem Dw{w:World}{Pb:Nat->Prop}{v:V}{x:Value}{F:List Nat}(h:RV w Pb v x F)(hn:v.kg=false):Ya w Pb v x F:=by
 cases v with
 | gv b u=>simp[V.kg]at hn
 | _=>exact h
theorem vt{a:Act}{t:Nat}:a.put (some t) (a.tmps.getD t undef)=a:=by
 cases a with
 | mk tmps defers=>
   simp only[Act.put];congr 1;apply Array.ext_getElem?;intro i;by_cases e:t=i;subst e;by_cases h:t<tmps.size;simp[h,Array.getElem?_setIfInBounds_self];simp[h,Array.getElem?_setIfInBounds];rw[Array.getElem?_setIfInBounds_ne e]
def tI(G b:Bool)(v:V):Prop:=match v.eE||v.kg with
 | false=>G=true->b=true
 | true=>False
theorem Ci{G b:Bool}{v:V}(h:tI G b v)(hG:G=true):b=true/\v.eE=false/\v.kg=false:=by
 unfold tI at h;split at h;rename_i e;rw[Bool.or_eq_false_iff]at e;exact⟨h hG,e.1,e.2⟩;exact h.elim
def AS.un(G:Bool):List Operand->AS->Prop×AS
 | [],A=>(True,A)
 | .tmp t::r,A=>match A.get t with
   | .gv b v=>match AS.un G r (A.put (some t) v) with
     | (C,B)=>(tI G b v/\C,B)
   | _=>AS.un G r A
 | _::r,A=>AS.un G r A
theorem nj{w:World}{Pb Kb:Nat->Prop}{a:Act}{G:Bool}(hG:G=true):∀ (xs:List Operand) {A B:AS} {F:r5->List Nat} {C:Prop},AS.un G xs A=(C,B)->C->C3 N Pb Kb A a w F->(∀ t,Operand.tmp t∈xs->t<N)->∃ F',C3 N Pb Kb B a w F'
 | [],A,B,F,C,h,hC,hs,_=>by simp only[AS.un,Zaq]at h;obtain⟨_,rfl⟩:=h;exact⟨F,hs⟩
 | x::xs,A,B,F,C,h,hC,hs,hN=>by
   have UM:∀ t,Operand.tmp t∈xs->t<N:=fun t ht=>hN t (by simp[ht]);cases x with
   | tmp t=>
     simp only[AS.un]at h;split at h;rename_i b v hg;cases hu:AS.un G xs (A.put (some t) v) with
     | mk C1 B1=>
       rw[hu]at h;simp only[Zaq]at h;obtain⟨rfl,rfl⟩:=h;have hr:=hs.slot t;rw[hg]at hr;have H4:=hs.put (d:=t) (v:=v) (x:=a.tmps.getD t undef) (F':=[]) (hN t Zad) (Oj (hr.2.1 (Ci hC.1 hG).1)) Zad Zad Zad;rw[vt]at H4;exact nj hG xs hu hC.2 H4 UM
     exact nj hG xs h hC hs UM
   | _=>exact nj hG xs h hC hs UM
def Lg(A B:AS):Prop:=(∀ i,A.get i=B.get i\/∃ b,A.get i=.gv b (B.get i)/\b=true/\(B.get i).eE=false/\(B.get i).kg=false)/\A.h=B.h
theorem C3.wrap{w:World}{Pb Kb:Nat->Prop}{a:Act}{F:r5->List Nat}{B:AS}(hs:C3 N Pb Kb B a w F)(h:Lg A B):C3 N Pb Kb A a w F where
 size:=hs.size
 defers:=hs.defers
 slot:=fun i=>by
  rcases h.1 i with e | ⟨b,e,hb,ho,hg⟩;rw[e];exact hs.slot i;have hr:=hs.slot i;rw[e];have hF:=AY ho hr;rw[hF]at hr ⊢;exact⟨rfl,fun _=>Dw hr hg,fun c=>by rw[hb]at c;cases c⟩
 root:=fun k g v hk=>hs.root k g v (by rw[<- h.2];exact hk)
 du:=hs.du
 nodup:=hs.nodup
 free:=hs.free
 sub:=hs.sub
 bound:=hs.bound
theorem rK{G:Bool}(hG:G=true):∀ (xs:List Operand) {A B:AS} {C:Prop},AS.un G xs A=(C,B)->C->Lg A B
 | [],A,B,C,h,hC=>by simp only[AS.un,Zaq]at h;obtain⟨_,rfl⟩:=h;exact⟨fun _=>.inl rfl,rfl⟩
 | x::xs,A,B,C,h,hC=>by
   cases x with
   | tmp t=>
     simp only[AS.un]at h;split at h;rename_i b v hg;cases hu:AS.un G xs (A.put (some t) v) with
     | mk C1 B1=>
       rw[hu]at h;simp only[Zaq]at h;obtain⟨rfl,rfl⟩:=h;obtain⟨k1,k2⟩:=rK hG xs hu hC.2;obtain⟨hb,ho,hv⟩:=Ci hC.1 hG;refine⟨fun i=>?_,k2⟩;have:=k1 i;rw[AS.bg]at this;by_cases e:i=t;subst e;rw[if_pos rfl]at this;rcases this with e' | ⟨b',e',_⟩;exact .inr ⟨b,by rw[hg,<- e'],hb,by rw[<- e'];exact ho,by rw[<- e'];exact hv⟩;rw[e']at hv;simp[V.kg]at hv;rw[if_neg e]at this;exact this
     exact rK hG xs h hC
   | _=>exact rK hG xs h hC
def Sh(A:AS)(ops:Array Oper)(j:Nat)(b:Bool):Option Bool:=
 match ((ops[j]?).bind (·.dst)).map A.get with
 | some (.lit (.bool g))=>some (g==b)
 | some (.gv c (.lit (.bool g)))=>some (c&&(g==b))
 | _=>none
theorem tX{A:AS}{o:Oper}{j:Nat}{b G:Bool}{x y:Prop}(hg:o.guard=some (j,b))(h:Sh A ops j b=some G)(hx:G=true->x)(hy:G=false->y):gd ops o A x y:=by
 unfold Sh at h;unfold gd;rw[hg];simp only;split at h;rename_i g e;try rw[e]
 simp only[Zan]at h ⊢;subst h;split;rename_i e';exact hx (by simp[e']);rename_i e';exact hy (by simp[e']);rename_i c g e;try rw[e]
 simp only[Zan]at h ⊢;subst h;split;rename_i e';exact hx e';rename_i e';exact hy (by simpa using e');simp at h
def T6(N:Nat):List Operand->Bool
 | []=>true
 | .tmp t::r=>decide (t<N)&&T6 N r
 | _::r=>T6 N r
theorem tA:∀ {xs:List Operand},T6 N xs=true->∀ t,Operand.tmp t∈xs->t<N
 | [],_,t,ht=>by simp at ht
 | x::xs,h,t,ht=>by
   cases x with
   | tmp t'=>
     simp only[T6,Zao,Zbk]at h;simp only[List.mem_cons]at ht;rcases ht with e | ht;injection e with e;subst e;exact h.1;exact tA h.2 t ht
   | _=>
     simp only[List.mem_cons,reduceCtorEq,false_or]at ht;exact tA (xs:=xs) (by simpa[T6] using h) t ht
theorem KN{o:Oper} {l:List Oper} {K:AS->Prop} {j:Nat} {b G:Bool} {C C':Prop} {B:AS} {v:V} {xs:List Operand} (hg:o.guard=some (j,b)) (hG:Sh A ops j b=some G) (hu:AS.un G xs A=(C,B))
 (I2:Qb P B o.op=some (C',v)) (RM:T6 N xs=true) (hd:dP N o.dst) (hC:G=true->C/\C'/\v.kg=false)
 (hK:WL P N ops l (A.put o.dst (.gv G v)) K):WL P N ops (o::l) A K:=by
 refine tX hg hG (fun Rx=>?_) (fun XO=>?_);obtain⟨h1,h2,h3⟩:=hC Rx;refine mn (v:=.gv G v) hd hK fun Pb Kb a w F hs=>?_;obtain⟨F',H4⟩:=nj Rx _ hu h1 hs (tA RM);obtain⟨x,hx,hr⟩:=AU I2 h2 H4 rfl;exact⟨x,hx,rfl,fun _=>Dw hr h3,fun h=>by rw[Rx]at h;cases h⟩;exact⟨hd,.gv G v,fun _ _=>⟨rfl,(fun h=>by rw[XO]at h;cases h),fun _=>rfl⟩,hK⟩
theorem cw{x:Operand}(h:∀ t,x=.tmp t->A'.get t=A.get t):A'.ev x=A.ev x:=by
 cases x with
 | tmp t=>exact h t rfl
 | _=>rfl
theorem px{x:Operand}(h:∀ t,x=.tmp t->A'.get t=A.get t):A'.cp x=A.cp x:=by
 cases x with
 | tmp t=>simp only[AS.cp,h t rfl]
 | _=>rfl
theorem zW{x:Option Operand}(h:∀ t,x=some (.tmp t)->A'.get t=A.get t):x.map A'.ev=x.map A.ev:=by
 cases x with
 | none=>rfl
 | some y=>simp only[Option.map_some,cw (x:=y) fun t e=>h t (by rw[e])]
theorem nt{G:Bool}:∀ (xs:List Operand) {A A' B:AS} {C:Prop},AS.un G xs A=(C,B)->(∀ t,Operand.tmp t∈xs->A'.get t=A.get t)->
 ∃ B',AS.un G xs A'=(C,B')/\(∀ t,A'.get t=A.get t->B'.get t=B.get t)/\B'.h=A'.h/\B.h=A.h
 | [],A,A',B,C,h,_=>by
   simp only[AS.un,Zaq]at h;obtain⟨rfl,rfl⟩:=h;exact⟨A',rfl,fun _ h=>h,rfl,rfl⟩
 | x::xs,A,A',B,C,h,hx=>by
   have RD:∀ t,Operand.tmp t∈xs->A'.get t=A.get t:=fun t ht=>hx t (by simp[ht]);cases x with
   | tmp t=>
     have ht:=hx t Zad;simp only[AS.un]at h ⊢;rw[ht];split at h;rename_i b v hg;cases hu:AS.un G xs (A.put (some t) v) with
     | mk C1 B1=>
       rw[hu]at h;simp only[Zaq]at h;obtain⟨rfl,rfl⟩:=h;obtain⟨B',k1,k2,k3,k4⟩:=nt xs (A':=A'.put (some t) v) hu (fun t' ht'=>by
        rw[AS.bg,AS.bg];split;rfl;exact RD t' ht')
       refine⟨B',by simp only[k1],fun t' ht'=>k2 t' ?_,by rw[k3];rfl,by rw[k4];rfl⟩;rw[AS.bg,AS.bg];split;rfl;exact ht'
     exact nt xs h RD
   | const c=>exact nt xs h RD
   | global g=>exact nt xs h RD
   | func f=>exact nt xs h RD
theorem gO{o:Oper}{t:Nat}(h:Operand.tmp t∈o.op.operands.toList):t∈o.looksAt ops:=by
 unfold Oper.looksAt;rw[Zax];exact .inl (List.mem_filterMap.2 ⟨_,h,rfl⟩)
theorem wM{xs:List Operand}(h:∀ t,Operand.tmp t∈xs->A'.get t=A.get t):xs.map A'.cp=xs.map A.cp:=by
 apply List.map_congr_left;intro x hx;exact px fun t e=>h t (by rw[<- e];exact hx)
theorem JD{K:AS->Prop} {d:Option Nat} {f:FuncId} {xs:Array Operand} {QM:Array TypeId} {ty:TypeId} {pos:String} {after:Array Edge} {rest:List Oper}
 {j:Nat} {b G:Bool} {C:Prop} {B:AS} {L:List V} {E:V} (hd:dP N d) (hG:Sh A ops j b=some G) (hu:AS.un G xs.toList A=(C,B)) (RM:T6 N xs.toList=true)
 (hL:xs.toList.map B.cp=L) (hc:G=true->C/\PC P f L (fun r=>r.er=E)/\E.kg=false/\E.eE=false) (hK:WL P N ops rest (A.put d (.gv G E)) K):
 WL P N ops (⟨d,.call { callee:=.value (.func f),args:=xs,argTypes:=QM },ty,pos,after,some (j,b)⟩ :: rest) A K:=by
 subst hL;refine tX (j:=j) (b:=b) rfl hG (fun Rx=>?_) (fun XO=>⟨hd,.gv G E,fun _ _=>⟨rfl,(fun h=>by rw[XO]at h;cases h),fun _=>rfl⟩,hK⟩);obtain⟨h1,h2,h3,h4⟩:=hc Rx;intro Pb Kb a w F Q' hs;obtain⟨F',H4⟩:=nj Rx _ hu h1 hs (tA RM);have hw:=rK Rx _ hu h1;have QB:=sR (N:=N) (o:=⟨d,.call { callee:=.value (.func f),args:=xs,argTypes:=QM },ty,pos,after,some (j,b)⟩) (K:=fun A'=>A'=B.put d E) (A:=B) rfl hd h2 (fun _ h=>h) rfl;refine Oper.wp_mono ?_ (QB Pb Kb a w F' Q' H4);rintro a' w' ⟨A',Pb',N1,F2,rfl,QA,k3,k4,k5,k6⟩;refine⟨_,Pb',N1,F2,hK,QA.wrap ?_,k3,k4,k5,k6⟩;cases d with
 | none=>exact hw
 | some d=>
   refine⟨fun i=>?_,hw.2⟩;rw[AS.bg,AS.bg];by_cases e:i=d;rw[if_pos e,if_pos e];exact .inr ⟨G,rfl,Rx,h4,h3⟩;rw[if_neg e,if_neg e];exact hw.1 i
end
def Kp(op:BinOp)(a b:BL):Option (Prop×V):=
 match op with
 | .add=>some (a.length+b.length<=4611686018427387904,.lit (.string (Str (a++b))))
 | .eql=>some (True,.lit (.bool (a==b)))
 | .neq=>some (True,.lit (.bool (!(a==b))))
 | _=>none
def GV(op:BinOp)(d:Option D)(x y:V):Option (Prop×V):=
 match d,x,y with
 | some .str,.lit (.string a),.lit (.string b)=>Kp op a.data.toList b.data.toList
 | d,x,y=>zh op d x y
def Of:Option D->V->V->Option (Prop×V)
 | some .str,.lit (.string s),.lit (.int _ i)=>some (0<=i/\i<s.data.toList.length,.lit (.int .u8 (s.data.toList.getD i.toNat 0).toNat))
 | _,_,_=>none
def KS(s:BL)(lo hi:Option V):Option (Prop×V):=
 match Yl lo,XL s.length hi with
 | some l,some h=>some (0<=l/\l<=h/\h<=s.length,.lit (.string (Str ((s.take h.toNat).drop l.toNat))))
 | _,_=>none
def Nr(x:V)(lo hi:Option V):Option (Prop×V):=
 match x with
 | .lit (.string s)=>KS s.data.toList lo hi
 | _=>none
def JL:Option D->V->Option (Prop×V)
 | some .str,.lit (.string s)=>some (True,.lit (.int .i64 s.data.toList.length))
 | d,x=>DG d x
def Gw(P:Program)(A:AS)(c:Call):Option (Prop×V):=
 match c.callee with
 | .builtin .len=>match c.args.toList,c.argTypes.toList with
   | [x],[T]=>JL (tD P T) (A.ev x)
   | _,_=>none
 | .builtin .max=>match c.args.toList with
   | [x,y]=>Ho (A.ev x) (A.ev y)
   | _=>none
 | _=>none
def Ep(P:Program)(d:Option D)(x:V)(j:Nat):Option (Prop×V):=
 match d with
 | some (.st fs)=>match fs[j]? with
   | some (off,T)=>match ti P T with
     | some i=>match x with
       | .agg vs=>match vs[j]? with
         | some v=>if (V.ns (vs.take j)==off&&(i.sz==v.n&&i.d.agg==v.isAgg))=true then some (True,v) else none
         | none=>none
       | _=>none
     | none=>none
   | none=>none
 | _=>none
def uh(P:Program)(d:Option D)(x:V)(j:Nat):Option (Prop×V):=
 match d with
 | some (.st fs)=>match fs[j]? with
   | some (off,T)=>match ti P T with
     | some i=>match x with
       | .ptr r p g o=>if (i.sz != 0)=true then some (True,.ptr r (p++[j]) g (o+off)) else none
       | .ep (.agg vs)=>match vs[j]? with
         | some v=>if (i.sz != 0&&V.ns (vs.take j)==off)=true then some (True,.ep v) else none
         | none=>none
       | _=>none
     | none=>none
   | none=>none
 | _=>none
def Lo(A:AS)(i:Option TI)(x:V)(H3:List V):Option (Prop×V×List V):=
 match i with
 | some i=>match x with
   | .ptr r p g o=>match H3 with
     | []=>none
     | .c9::H3=>match A.at r p with
       | some (g',o',v)=>if (v.n==i.sz&&i.d.agg==v.isAgg)=true then some ((g',o')=(g,o),v.U2 r p,H3) else none
       | none=>none
     | v::H3=>if (v.n==i.sz&&i.d.agg==v.isAgg)=true then some (A.at r p=some (g,o,v),v.U2 r p,H3) else none
   | .ep v=>if (v.n==i.sz&&i.d.agg==v.isAgg)=true then some (True,v,H3) else none
   | _=>none
 | none=>none
def wO(H3:List V):Option (Prop×V)->Option (Prop×V×List V)
 | some (C,v)=>some (C,v,H3)
 | none=>none
def Ao(P:Program)(d:Option D)(x i:V)(H3:List V):Option (Prop×V×List V):=
 match d,i with
 | some (.sl e),.lit (.int _ i)=>match ti P e with
   | some t=>match x with
     | .sl _ xs=>match H3 with
       | v::H3=>if (v.n==t.sz)=true then some (0<=i/\xs[i.toNat]? =some v,.ep v,H3) else none
       | []=>none
     | .hd r p sz g o lo n _=>if (sz==t.sz)=true then some (0<=i/\i<n,.ptr r (p++[lo+i.toNat]) g (o+(lo+i.toNat)*sz),H3) else none
     | _=>none
   | none=>none
 | d,i=>wO H3 (mL P d x i)
def sY(P:Program)(A:AS)(op:Op)(H3:List V):Option (Prop×V×List V):=
 match op with
 | .binOp o T x y _=>wO H3 (GV o (tD P T) (A.ev x) (A.ev y))
 | .index T x i=>wO H3 (Of (tD P T) (A.ev x) (A.ev i))
 | .slice T x lo hi none=>match tD P T with
   | some .str=>wO H3 (Nr (A.ev x) (lo.map A.ev) (hi.map A.ev))
   | d=>wO H3 (GL P d (A.ev x) (lo.map A.ev) (hi.map A.ev))
 | .call c=>wO H3 (Gw P A c)
 | .field T x j=>wO H3 (Ep P (tD P T) (A.cp x) j)
 | .fieldAddr T x j=>wO H3 (uh P (tD P T) (A.ev x) j)
 | .load T x=>Lo A (ti P T) (A.ev x) H3
 | .indexAddr T x i=>Ao P (tD P T) (A.ev x) (A.ev i) H3
 | op=>wO H3 (Qb P A op)
section
variable {P:Program} {N:Nat} {ops:Array Oper} {A A':AS}
theorem vk(s:ByteArray):Str s.data.toList=s:=by apply ByteArray.ext;simp[Str]
theorem gY{H3 S0:List V}{x:Option (Prop×V)}{C:Prop}{v:V}(h:wO H3 x=some (C,v,S0)):x=some (C,v):=by
 cases x with
 | none=>simp[wO]at h
 | some y=>obtain⟨a,b⟩:=y;simp only[wO,Zan,Zaq]at h;obtain⟨rfl,rfl,_⟩:=h;rfl
theorem Mk{op:BinOp}{d:Option D}{x y:V}{C:Prop}{v:V}(h:GV op d x y=some (C,v))(hC:C):∃ C',zh op d x y=some (C',v)/\C':=by
 unfold GV at h;split at h;rename_i a b;simp only[zh];cases op <;> simp only[Kp,Zan,Zaq,reduceCtorEq]at h <;> obtain⟨rfl,rfl⟩:=h;refine⟨a.size+b.size<=4611686018427387904,?_,by rw[Array.length_toList,Array.length_toList]at hC;exact hC⟩;simp only[By];rw[<- LU,vk,vk];refine⟨True,?_,trivial⟩;simp only[By,Lib.toList_data];refine⟨True,?_,trivial⟩;simp only[By,Lib.toList_data];exact⟨C,h,hC⟩
theorem xi{op:Op}{H3 S0:List V}{C:Prop}{v:V}(h:sY P A op H3=some (C,v,S0))(hC:C):∃ C',Qb P A op=some (C',v)/\C':=by
 unfold sY at h;split at h;exact Mk (gY h) hC;rename_i T x i;have h:=gY h;unfold Of at h;split at h;rename_i s k i' e1 e2 e3;simp only[Zan,Zaq]at h;obtain⟨rfl,rfl⟩:=h;refine⟨0<=i'/\i'<s.size,?_,by rw[Array.length_toList]at hC;exact hC⟩;simp only[Qb,Tf,JY,e1,e2,e3];rw[<- vk s,NN];rfl;simp at h;rename_i T x lo hi;split at h;rename_i e;have h:=gY h;simp only[Qb,e];unfold Nr at h;split at h;rename_i s e';unfold KS at h;split at h;rename_i l hh e1 e2;simp only[Zan,Zaq]at h;obtain⟨rfl,rfl⟩:=h;have Zw:XL s.size (hi.map A.ev)=some hh:=by
  rw[<- e2,Array.length_toList];rfl
 refine⟨0<=l/\l<=hh/\hh<=s.size,?_,by rw[Array.length_toList]at hC;exact hC⟩;simp only[Gq,e',Kd,e1,Zw];rw[<- LL,vk];simp at h;simp at h;rename_i d hd;have h:=gY h;refine⟨C,?_,hC⟩;simp only[Qb];exact h;rename_i c;have h:=gY h;unfold Gw at h;split at h;rename_i hc;split at h;rename_i x T hx hT;simp only[Qb,Tf,Ak,hc,hx,hT];unfold JL at h;split at h;rename_i s e1 e2;simp only[Zan,Zaq]at h;obtain⟨rfl,rfl⟩:=h;exact⟨True,by simp only[DG,e1,e2,ByteArray.size,Array.length_toList],trivial⟩;exact⟨C,h,hC⟩;simp at h;rename_i hc;split at h;rename_i x y hx;simp only[Qb,Tf,Ak,hc,hx];exact⟨C,h,hC⟩;simp at h;simp at h;rename_i T x j;have h:=gY h;simp only[Qb];unfold Ep at h;split at h;rename_i fs e1;split at h;rename_i off T' e2;split at h;rename_i i e3;split at h;rename_i vs e4;split at h;rename_i u e5;split at h;rename_i hb;simp only[Zan,Zaq]at h;obtain⟨_,rfl⟩:=h;simp only[Zao,Zbl]at hb;exact⟨_,by simp only[AK,e1,e2,e3,e4,e5],hb⟩;simp at h;simp at h;simp at h;simp at h;simp at h;simp at h;rename_i T x j;have h:=gY h;simp only[Qb];unfold uh at h;split at h;rename_i fs e1;split at h;rename_i off T' e2;split at h;rename_i i e3;split at h;rename_i r p g o e4;split at h;rename_i hb;simp only[Zan,Zaq]at h;obtain⟨_,rfl⟩:=h;exact⟨i.sz≠0,by simp only[ou,e1,e2,e3,e4],Zby⟩;simp at h;rename_i vs e4;split at h;rename_i u e5;split at h;rename_i hb;simp only[Zan,Zaq]at h;obtain⟨_,rfl⟩:=h;simp only[Zao,Zbl,bne_iff_ne]at hb;exact⟨_,by simp only[ou,e1,e2,e3,e4,e5],hb⟩;simp at h;simp at h;simp at h;simp at h;simp at h;simp at h;rename_i T x;simp only[Qb];unfold Lo at h;split at h;rename_i i e1;split at h;rename_i r p g o e2;split at h;simp at h;split at h;rename_i g1 o1 u e3;split at h;rename_i hb;simp only[Zan]at h;obtain⟨h1,h2⟩:=Prod.mk.inj h;obtain⟨rfl,_⟩:=Prod.mk.inj h2;subst h1;obtain⟨rfl,rfl⟩:=Prod.mk.inj hC;simp only[Zao,Zbl]at hb;exact⟨g1=g1/\o1=o1/\u.n=i.sz/\i.d.agg=u.isAgg,by simp only[oG,e1,e2,e3],rfl,rfl,hb.1,hb.2⟩;simp at h;simp at h;rename_i u Tr _;split at h;rename_i hb;simp only[Zan,Zaq]at h;obtain⟨rfl,rfl,_⟩:=h;simp only[Zao,Zbl]at hb;exact⟨g=g/\o=o/\u.n=i.sz/\i.d.agg=u.isAgg,by simp only[oG,e1,e2,hC],rfl,rfl,hb.1,hb.2⟩;simp at h;rename_i u e2;split at h;rename_i hb;simp only[Zan,Zaq]at h;obtain⟨_,rfl,_⟩:=h;simp only[Zao,Zbl]at hb;exact⟨_,by simp only[oG,e1,e2],hb⟩;simp at h;simp at h;simp at h;rename_i T x i;simp only[Qb];unfold Ao at h;split at h;rename_i e k i' e1 e2;split at h;rename_i t e3;split at h;rename_i full xs e4;split at h;rename_i u Tr;split at h;rename_i hb;simp only[Zan,Zaq]at h;obtain⟨rfl,rfl,_⟩:=h;obtain⟨h0,hx⟩:=hC;have hlt:=(Za3.1 hx).1;have hv:xs.getD i'.toNat .c9=u:=by rw[Zam,hx];rfl
 exact⟨0<=i'/\i'<xs.length/\u.n=t.sz,by simp only[mL,e1,e2,e3,e4,hv],h0,Zac,Zby⟩;simp at h;simp at h;rename_i r p sz g o lo n c e4;split at h;rename_i hb;simp only[Zan,Zaq]at h;obtain⟨rfl,rfl,_⟩:=h;exact⟨0<=i'/\i'<n/\sz=t.sz,by simp only[mL,e1,e2,e3,e4],hC.1,hC.2,Zby⟩;simp at h;simp at h;simp at h;exact⟨C,gY h,hC⟩;exact⟨C,gY h,hC⟩
theorem KI{o:Oper}{K K':AS->Prop}(h:N' P N o A K)(hK:∀ B,K B->K' B):N' P N o A K':=
 fun Pb Kb a w F Q hs=>Oper.wp_mono (fun _ _ hn=>hn.mono hK) (h Pb Kb a w F Q hs)
def qj:Op->Bool
 | .move _ | .extract _ _ | .call _ | .field _ _ _ | .fieldAddr _ _ _=>true
 | .binOp o _ _ _ _=>match o with
   | .eql | .neq | .lss | .leq | .gtr | .geq=>true
   | _=>false
 | .unOp o _ _=>match o with
   | .not=>true
   | _=>false
 | _=>false
theorem qG{op:Op}{H3 S0:List V}{C:Prop}{v:V}(ht:qj op=true)(h:sY P A op H3=some (C,v,S0)):C:=by
 have hB:∀ {o:BinOp} {k:IntKind} {a b:Int} {C:Prop} {v:V},(o=.eql\/o=.neq\/o=.lss\/o=.leq\/o=.gtr\/o=.geq)->AX o k a b=some (C,v)->C:=by
  intro o k a b C v ho h;rcases ho with rfl | rfl | rfl | rfl | rfl | rfl <;> (simp only[AX,nv,Zan,Zaq]at h;rw[<- h.1];trivial)
 cases op with
 | move x=>have h:=gY (show wO H3 (Qb P A (.move x))=_ from h);simp only[Qb,Tf,Zan,Zaq]at h;rw[<- h.1];trivial
 | extract x i=>
   have h:=gY (show wO H3 (Qb P A (.extract x i))=_ from h);simp only[Qb,Tf]at h;unfold JI at h;repeat (split at h <;> try (solve | simp at h))
   all_goals (simp only[Zan,Zaq]at h;rw[<- h.1];trivial)
 | call c=>
   have h:=gY h;unfold Gw at h;split at h;split at h;unfold JL at h;split at h;simp only[Zan,Zaq]at h;rw[<- h.1];trivial;unfold DG at h;split at h <;> first | (solve | simp at h) | (simp only[Zan,Zaq]at h;rw[<- h.1];trivial)
   simp at h;split at h;unfold Ho at h;split at h;split at h;simp only[Zan,Zaq]at h;rw[<- h.1];trivial;simp at h;simp at h;simp at h;simp at h
 | field T x j=>
   have h:=gY h;unfold Ep at h;repeat (split at h <;> try (solve | simp at h))
   all_goals (simp only[Zan,Zaq]at h;rw[<- h.1];trivial)
 | fieldAddr T x j=>
   have h:=gY h;unfold uh at h;repeat (first | (solve | simp at h) | split at h)
   all_goals first | (solve | simp at h) | (obtain⟨rfl,_⟩:=h;trivial) | (simp only[Zan,Zaq]at h;rw[<- h.1];trivial) | (split at h <;> first | (solve | simp at h) | (split at h <;> first | (solve | simp at h) | (simp only[Zan,Zaq]at h;rw[<- h.1];trivial)))
 | binOp o T x y pos=>
   have h:=gY h;have ho:o=.eql\/o=.neq\/o=.lss\/o=.leq\/o=.gtr\/o=.geq:=by cases o <;> simp[qj]at ht ⊢
   unfold GV at h;split at h;rcases ho with rfl | rfl | rfl | rfl | rfl | rfl <;> simp only[Kp,Zan,Zaq,reduceCtorEq]at h <;> (rw[<- h.1];trivial);unfold zh at h;split at h;split at h;exact hB ho h;split at h;exact hB ho h;simp at h;rcases ho with rfl | rfl | rfl | rfl | rfl | rfl <;> simp only[By,Zan,Zaq,reduceCtorEq]at h <;> (rw[<- h.1];trivial);rcases ho with rfl | rfl | rfl | rfl | rfl | rfl <;> simp only[Gv,Zan,Zaq,reduceCtorEq]at h <;> (rw[<- h.1];trivial);simp at h
 | unOp o T x=>
   have h:=gY (show wO H3 (Qb P A (.unOp o T x))=_ from h);have ho:o=.not:=by cases o <;> simp[qj]at ht ⊢
   subst ho;simp only[Qb,Tf]at h;unfold unV at h;split at h;all_goals first | (solve | simp at h) | (simp only[Zan,Zaq]at h;rw[<- h.1];trivial) | (simp_all;done)
 | _=>simp[qj]at ht
def lJ:Op->List Operand
 | .pick c _ _=>[c]
 | op=>op.operands.toList
def rD(P:Program)(N:Nat)(ops:Array Oper):Nat->List Oper->List V->AS->Option (Prop×AS)
 | 0,_,_,A=>some (True,A)
 | _+1,[],_,A=>some (True,A)
 | n+1,o::rest,H3,A=>
   match o.dst with
   | none=>none
   | some d=>if d<N then
     match o.guard with
     | some (j,b)=>match Sh A ops j b with
       | some G=>match AS.un G (lJ o.op) A with
         | (C0,B)=>match sY P B o.op H3 with
           | some (C,v,H3)=>if (T6 N (lJ o.op)&&!v.kg)=true then match rD P N ops n rest H3 (A.put (some d) (.gv G v)) with
             | some (C',A')=>some ((G=true->C0/\C)/\C',A')
             | none=>none else none
           | none=>none
       | none=>none
     | none=>match o.op with
       | .assign x=>rD P N ops n rest H3 ((A.drop x).put (some d) (A.ev x))
       | op=>match sY P A op H3 with
         | some (C,v,H3)=>match rD P N ops n rest H3 (A.put (some d) v) with
           | some (C',A')=>if qj op=true then some (C',A') else some (C/\C',A')
           | none=>none
         | none=>none
     else none
theorem tC{K:AS->Prop}:∀ (n:Nat) {l:List Oper} {H3:List V} {A A':AS} {C:Prop},
 rD P N ops n l H3 A=some (C,A')->C->WL P N ops (l.drop n) A' K->WL P N ops l A K
 | 0,l,H3,A,A',C,h,hC,hK=>by
   simp only[rD,Zan,Zaq]at h;obtain⟨_,rfl⟩:=h;exact hK
 | n+1,[],H3,A,A',C,h,hC,hK=>by
   simp only[rD,Zan,Zaq]at h;obtain⟨_,rfl⟩:=h;exact hK
 | n+1,o::l,H3,A,A',C,h,hC,hK=>by
   have TN:(o::l).drop (n+1)=l.drop n:=rfl;rw[TN]at hK;unfold rD at h;split at h;simp at h;rename_i d hd;split at h
   case isFalse=>simp at h
   rename_i WT;have SH:dP N o.dst:=by rw[hd];exact WT
   cases hg:o.guard with
   | some jb=>
     obtain⟨j,b⟩:=jb;rw[hg]at h;simp only at h;split at h
     case h_2=>simp at h
     rename_i G hG;cases hu:AS.un G (lJ o.op) A with
     | mk C0 B=>
       rw[hu]at h;simp only at h;split at h
       case h_2=>simp at h
       rename_i C1 v Tr I2;split at h
       case isFalse=>simp at h
       rename_i RM;simp only[Zao,Bool.not_eq_true']at RM;split at h
       case h_2=>simp at h
       rename_i C2 A2 hr;simp only[Zan,Zaq]at h;obtain⟨rfl,rfl⟩:=h;by_cases Rx:G=true;obtain⟨C',h1,h2⟩:=xi I2 (hC.1 Rx).2;exact KN hg hG hu h1 RM.1 SH (fun _=>⟨(hC.1 Rx).1,h2,RM.2⟩) (by rw[hd];exact tC n hr hC.2 hK);refine tX hg hG (fun c=>absurd c Rx) (fun XO=>⟨SH,.gv G v,fun _ _=>⟨rfl,(fun h=>absurd h Rx),fun _=>rfl⟩,?_⟩);rw[hd];exact tC n hr hC.2 hK
   | none=>
     rw[hg]at h;simp only at h;show gd ops o A _ _;unfold gd;rw[hg];simp only;split at h;rename_i x Q2;exact zR Q2 SH (by rw[hd];exact tC n h hC hK)
     · split at h
       case h_2=>simp at h
       rename_i C1 v Tr I2;split at h
       case h_2=>simp at h
       rename_i C2 A2 hr;split at h;rename_i ht;simp only[Zan,Zaq]at h;obtain⟨rfl,rfl⟩:=h;obtain⟨C',h1,h2⟩:=xi I2 (qG ht I2);exact Bp h1 h2 SH (by rw[hd];exact tC n hr hC hK);simp only[Zan,Zaq]at h;obtain⟨rfl,rfl⟩:=h;obtain⟨C',h1,h2⟩:=xi I2 hC.1;exact Bp h1 h2 SH (by rw[hd];exact tC n hr hC.2 hK)
theorem HB(op:Op):∀ t,Operand.tmp t∈lJ op->Operand.tmp t∈op.operands.toList:=by
 intro t ht;cases op with
 | pick c a b=>simp only[lJ,Zav]at ht;simp[Op.operands,ht]
 | _=>exact ht
def oh(P:Program):List ResultVar->List (r5×V)->Bool
 | .cell _ T::rs,(_,v)::xs=>(match ti P T with | some i=>v.n==i.sz&&i.d.agg==v.isAgg | none=>false)&&oh P rs xs
 | .tmp _::rs,(_,v)::xs=>(match v with | .tup _=>false | .gv _ _=>false | _=>true)&&oh P rs xs
 | [],[]=>true
 | _,_=>false
theorem tR:∀ {rs:List ResultVar} {xs:List (r5×V)},oh P rs xs=true->ue P rs xs
 | [],[],_=>trivial
 | .cell t T::rs,(r,v)::xs,h=>by
   simp only[oh,Zao]at h;refine⟨?_,tR h.2⟩;have h1:=h.1;cases ht:ti P T with
   | none=>rw[ht]at h1;simp at h1
   | some i=>rw[ht]at h1;simpa using h1
 | .tmp t::rs,(r,v)::xs,h=>by
   simp only[oh,Zao]at h;refine⟨?_,tR h.2⟩;have h1:=h.1;cases v <;> first | trivial | simp at h1
 | [],_::_,h=>by simp[oh]at h
 | .cell _ _::_,[],h=>by simp[oh]at h
 | .tmp _::_,[],h=>by simp[oh]at h
def nodupB:List r5->Bool
 | []=>true
 | r::rs=>!(rs.any fun x=>decide (x=r))&&nodupB rs
theorem zj:∀ {l:List r5},nodupB l=true->l.Nodup
 | [],_=>Zba
 | r::rs,h=>by
   simp only[nodupB,Zao,Bool.not_eq_true',List.any_eq_false,Zbk]at h;exact List.nodup_cons.2 ⟨fun c=>h.1 r c rfl,zj h.2⟩
abbrev iN(n:Nat):V:=.lit (.int .i64 n)
abbrev iV(x:Int):V:=.lit (.int .i64 x)
abbrev uN(n:Nat):V:=.lit (.int .u8 n)
abbrev bV(b:Bool):V:=.lit (.bool b)
abbrev sV(l:BL):V:=.lit (.string (Str l))
theorem ah{α:Type}{f:α->V}{l:List α}{i:Nat}{d:α}(h:i<l.length):(l.map f)[i]? =some (f (l.getD i d)):=by
 rw[List.getElem?_map,Zat h,Zam,Zat h];rfl
theorem all_map{α:Type}{f:α->V}{l:List α}{n:Nat}(h:∀ x,(f x).n=n):∀ x∈l.map f,x.n=n:=by
 intro x hx;obtain⟨y,_,rfl⟩:=List.mem_map.1 hx;exact h y
end
section
variable {P:Program} {N:Nat} {ops:Array Oper} {A A' A1:AS}
def ZF(P:Program)(e sz:Nat):Bool:=match P.info? e with
 | some inf=>match inf.zero with
   | some z=>z.cells.size==sz
   | none=>false
 | none=>false
theorem lr{e sz:Nat}(h:ZF P e sz=true):∃ inf z,P.info? e=some inf/\inf.zero=some z/\z.cells.size=sz:=by
 unfold ZF at h;split at h;rename_i inf h1;split at h;rename_i z h2;exact⟨inf,z,h1,h2,Zbq⟩;simp at h;simp at h
def Lh(P:Program)(T:Nat):Option (List Value):=match P.info? T with
 | some inf=>match inf.zero with
   | some z=>some z.cells.toList
   | none=>none
 | none=>none
theorem fu{T:Nat}{v:V}{cs:List Value}(h:Lh P T=some cs)(hv:v.flat=some cs):rJ P T v:=by
 unfold Lh at h;split at h;rename_i inf h1;split at h;rename_i z h2;exact⟨inf,z,h1,h2,by rw[hv,h]⟩;simp at h;simp at h
def Gt(sz:Nat):List V->Bool
 | []=>true
 | v::vs=>v.isVal&&v.n==sz&&Gt sz vs
theorem Bj{sz:Nat}:∀ {vs:List V},Gt sz vs=true->∀ v,v∈vs->v.isVal=true/\v.n=sz
 | [],_,v,hv=>by simp at hv
 | u::us,h,v,hv=>by
   simp only[Gt,Zao,Zbl]at h;simp only[List.mem_cons]at hv;rcases hv with rfl | hv;exact h.1;exact Bj h.2 v hv
def Wr(P:Program)(T e len:Nat)(i:TI)(vs:List V):Bool:=ZF P e i.sz&&vs.length==len&&Nat.ble (len*i.sz) 16777216&&Nat.blt 0 i.sz&&Gt i.sz vs
theorem HC{o:Oper} {K:AS->Prop} {T e len:Nat} {j8:Array (Nat×Operand)} {i:TI} {vs:List V} (ho:o.op=.buildSlice T len j8) (hd:dP N o.dst) (hT:tD P T=some (.sl e)) (hi:ti P e=some i)
 (VD:ig A 0 j8.toList=some vs) (hB:Wr P T e len i vs=true) (hK:K (A.put o.dst (.sl true vs))):N' P N o A K:=by
 simp only[Wr,Zao,Zbl]at hB;obtain⟨⟨⟨⟨h1,h2⟩,h3⟩,h4⟩,h5⟩:=hB;obtain⟨inf,z,k1,k2,_⟩:=lr h1;exact Be ho hd hT hi ⟨inf,z,k1,k2⟩ VD h2 (Nat.le_of_ble_eq_true h3) (Nat.lt_of_succ_le (Nat.le_of_ble_eq_true h4)) (Bj h5) hK
theorem Co{K:AS->Prop} {d:Option Nat} {T len ty:Nat} {j8:Array (Nat×Operand)} {pos:String} {after:Array Edge} {rest:List Oper} (e:Nat) (i:TI) (vs:List V)
 (VE:tD P T=some (.sl e)/\ti P e=some i) (hd:dP N d) (VD:ig A 0 j8.toList=some vs) (hB:Wr P T e len i vs=true) (hK:WL P N ops rest (A.put d (.sl true vs)) K):
 WL P N ops (⟨d,.buildSlice T len j8,ty,pos,after,none⟩ :: rest) A K:=by
 show N' P N _ A _;exact HC rfl hd VE.1 VE.2 VD hB hK
theorem sU:∀ (ps:List (Nat×Operand)) (k:Nat),(∀ t,Operand.tmp t∈ps.map (·.2)->A'.get t=A.get t)->ig A' k ps=ig A k ps
 | [],_,_=>rfl
 | (i,x)::r,k,h=>by
   simp only[ig];rw[sU r (k+1) (fun t ht=>h t (by simp[ht])),px (x:=x) (fun t e=>h t (by simp[e]))]
def zJ(places:List (Nat×Nat)):List V->List (Nat×V)->Option (List V)
 | zs,[]=>some zs
 | zs,(i,v)::r=>match places[i]?,zs[i]? with
   | some (off,sz),some z=>if (V.ns (zs.take i)==off&&v.n==sz&&z.n==sz&&v.isVal)=true then zJ places (zs.set i v) r else none
   | _,_=>none
theorem DN{places:List (Nat×Nat)}:∀ {ps:List (Nat×V)} {zs vs:List V},zJ places zs ps=some vs->∃ C,ur places zs ps=some (C,vs)/\C
 | [],zs,vs,h=>by simp only[zJ,Zan]at h;subst h;exact⟨True,rfl,trivial⟩
 | (i,v)::r,zs,vs,h=>by
   simp only[zJ]at h;split at h;rename_i off sz z h1 h2;split at h;rename_i hb;simp only[Zao,Zbl]at hb;obtain⟨C,hf,hC⟩:=DN h;exact⟨V.ns (zs.take i)=off/\v.n=sz/\z.n=sz/\v.isVal=true/\C,by simp only[ur,h1,h2,hf],hb.1.1.1,hb.1.1.2,hb.1.2,hb.2,hC⟩;simp at h;simp at h
def pW(P:Program)(A:AS)(T:Nat)(zs:List V)(j8:List (Nat×Operand)):Option V:=
 match tD P T with
 | some (.st fs)=>match qL P fs with
   | some places=>match zJ places zs (j8.map fun (i,x)=>(i,A.cp x)) with
     | some vs=>some (.agg vs)
     | none=>none
   | none=>none
 | _=>none
theorem Cm{T:Nat}{zs:List V}{j8:List (Nat×Operand)}{v:V}(h:pW P A T zs j8=some v):∃ C,wK P A T zs j8=some (C,v)/\C:=by
 unfold pW at h;split at h;rename_i fs h1;split at h;rename_i places h2;split at h;rename_i vs h3;simp only[Zan]at h;subst h;obtain⟨C,hf,hC⟩:=DN h3;exact⟨C,by simp only[wK,h1,h2,hf],hC⟩;simp at h;simp at h;simp at h
theorem JH{K:AS->Prop} {d:Option Nat} {T ty:Nat} {j8:Array (Nat×Operand)} {pos:String} {after:Array Edge} {rest:List Oper} (zs:List V) (v:V)
 (hz:rJ P T (.agg zs)) (hd:dP N d) (hb:pW P A T zs j8.toList=some v) (hK:WL P N ops rest (A.put d v) K):
 WL P N ops (⟨d,.build T j8,ty,pos,after,none⟩ :: rest) A K:=by
 obtain⟨C,h1,h2⟩:=Cm hb;show N' P N _ A _;exact Ch rfl hd hz h1 h2 hK
end
section
variable {P:Program} {N:Nat} {ops:Array Oper} {A A' A1:AS}
variable {w:World} {Pb Kb:Nat->Prop} {a:Act} {F:r5->List Nat}
def B7(b:UInt8):V:=.lit (.int .u8 b.toNat)
theorem Lp:∀ (bs:BL) {cs:List Value} {F:List Nat},RL w Pb (bs.map B7) cs F->cs=bs.map fun b=>Value.int .u8 (b.toNat:Int)
 | [],cs,F,h=>h.1
 | b::bs,cs,F,h=>by
   obtain⟨c1,c2,F1,F2,rfl,rfl,h1,h2⟩:=h;rw[Lp bs h2,h1.2.1];rfl
theorem DZ:∀ (l:BL),RL w Pb (l.map B7) (l.map fun b=>Value.int .u8 (b.toNat:Int)) []
 | []=>⟨rfl,rfl⟩
 | b::l=>⟨[.int .u8 (b.toNat:Int)],_,[],[],rfl,rfl,⟨rfl,rfl,rfl⟩,DZ l⟩
theorem tN:∀ (bs:BL),V.aK (bs.map B7)=false
 | []=>rfl
 | b::bs=>by simp[V.aK,B7,V.eE,tN bs]
theorem wU(bs:BL):aX 1 (bs.map B7):=fun x hx=>by
 obtain⟨b,_,rfl⟩:=List.mem_map.1 hx;rfl
theorem FZ:∀ (bs l:BL),(bs.map fun b=>(b.toNat:Int)).foldl (fun (r:ByteArray) n=>r.push (UInt8.ofNat n.toNat)) (Str l)=Str (l++bs)
 | [],l=>by simp
 | b::bs,l=>by
   simp only[Zbe,List.foldl_cons];have:(Str l).push (UInt8.ofNat (b.toNat:Int).toNat)=Str (l++[b]):=by
    apply ByteArray.ext;simp[Str,ByteArray.push]
   rw[this,FZ bs];simp
theorem wX{o:Oper} {K:AS->Prop} {src dst e:Nat} {x:Operand} {C:Prop} {bs:BL} (ho:o.op=.convert src dst x) (hd:dP N o.dst) (h1:tD P src=some (.sl e)) (h2:tD P e=some (.int .u8)) (h3:tD P dst=some .str)
 (hx:Re A x=some (C,bs.map B7)) (hC:C) (hK:K (A.put o.dst (sV bs))):N' P N o A K:=by
 refine mn hd hK fun Pb Kb a w F hs=>?_;obtain⟨B,c,flat,hv,hr,hf,hl⟩:=qT (P:=P) hs hx hC (wU bs) (tN bs);obtain⟨td,hu1,QR⟩:=dY h1;obtain⟨Ww,St,U'⟩:=dY h2;obtain⟨td3,hu3,hd3⟩:=dY h3;cases td <;> simp[fa]at QR;cases Ww <;> simp[fa]at U';cases td3 <;> simp[fa]at hd3;subst QR U';refine⟨.string (Str bs),?_,eA rfl⟩;have VW:=Lp bs hr;simp only[execOp,ho,hv,Za0,run_convert_bytes_string w src dst _ B _ c hu1 St hu3];have G8:(Conv.bytesToString (.slice B (bs.map B7).length c)).run P w=.ok (.string (Str bs)) w:=by
  cases B with
  | none=>
    have:=hf w (fun _=>rfl);rw[hv]at this;simp only[Builtin.firstCells]at this;have hb:flat=[]:=by
     have h:=this;simp at h;exact h
    rw[VW]at hb;have:bs=[]:=Zby
    subst this;rfl
  | some ad=>
    have:=hf w (fun _=>rfl);rw[hv]at this;simp only[Builtin.firstCells,Nat.mul_one]at this;rw[run_bytesToString w ad _ c (bs.map fun b=>(b.toNat:Int)) (by rw[this,VW];simp[List.map_map,Function.comp_def])];have:=FZ bs [];simp only[List.nil_append]at this;rw[<- this];rfl
 rw[G8];rfl
theorem Eo{o:Oper} {K:AS->Prop} {src dst e d:Nat} {x:Operand} {l:BL} (ho:o.op=.convert src dst x) (hd:o.dst=some d) (hN:d<N) (h1:tD P src=some .str) (h2:tD P dst=some (.sl e)) (h3:tD P e=some (.int .u8))
 (hx:A.ev x=sV l) (hK:∀ g c,K (A.put (some d) (.own 1 (l.map B7) g 0 c))):N' P N o A K:=by
 intro Pb Kb a w F Q hs;obtain⟨td,hu1,QR⟩:=dY h1;obtain⟨Ww,St,U'⟩:=dY h2;obtain⟨td3,hu3,hd3⟩:=dY h3;cases td <;> simp[fa]at QR;cases Ww <;> simp[fa]at U';cases td3 <;> simp[fa]at hd3;obtain rfl:=U';subst hd3;rename_i el;have YT:=dj hs hx;have G8:=Lib.run_convert_string_bytes (P:=P) w src dst _ (Str l) hu1 St hu3;unfold Oper.wp;have RD:(execOp a.eval o).run P w=.ok (.value (.slice (some ⟨w.heap.size,0,none⟩) (Str l).size (grownCap w (Str l).size 0 el))) (Lib.bytesWorld w el (Str l)):=by
  simp only[execOp,ho,YT,Za0,G8,Zas];rfl
 rw[RD,Oper.upon_value,hd];have hold:=fun j (hj:j<w.heap.size)=>Lib.bytesWorld_at_old w el (Str l) j hj;have hsz:=Lib.bytesWorld_size w el (Str l);have S5:=Lib.bytesWorld_at_new w el (Str l);obtain⟨w',XD⟩:∃ w',w'=Lib.bytesWorld w el (Str l):=⟨_,rfl⟩;obtain⟨c,hc⟩:∃ c,c=grownCap w (Str l).size 0 el:=⟨_,rfl⟩;have hcap:l.length<=c:=by
  rw[hc,<- kQ];simp only[grownCap,Question.cut];exact Nat.le_add_right _ _
 have UI:F7 Kb w w':=by
  rw[XD];exact⟨rfl,rfl,rfl,Zac,fun g hg=>hold g (hs.bound g hg),Shp.of_eq hold⟩
 have H4:C3 N Pb Kb A a w' F:=hs.grow (by rw[XD];exact hold) (by rw[XD];omega) (fun _ h=>h) (fun g h=>.inl h) hs.sub;rw[<- XD,<- hc];have YQ:∀ r g,g∈F r->g≠w.heap.size:=fun r g hg=>by have:=(hs.free r g hg).2;omega
 have TT: ¬ Kb w.heap.size:=fun h=>by have:=hs.bound _ h;omega
 by_cases h0:c=0;have YK:l=[]:=Za5 Zac;subst YK;have hrv:RV w' Pb (.own 1 (([]:BL).map B7) 0 0 0) (.slice (some ⟨w.heap.size,0,none⟩) (Str []).size c) []:=.inl ⟨rfl,rfl,rfl,some ⟨w.heap.size,0,none⟩,by rw[h0];rfl⟩;exact⟨_,Pb,Kb,_,hK 0 0,H4.put hN (F':=[]) hrv Zad Zba Zad,fun _ h=>h,fun _ h=>h,fun _ h=>.inl h,UI⟩;have hrv:RV w' Pb (.own 1 (l.map B7) w.heap.size 0 c) (.slice (some ⟨w.heap.size,0,none⟩) (Str l).size c) [w.heap.size]:=by
  refine .inr ⟨Zac,Zac,by simpa using hcap,?_,wU l,fun h=>TT (hs.sub _ h),l.map (fun b=>Value.int .u8 (b.toNat:Int)),[],Lib.bytesCells w el (Str l),rfl,DZ l,?_,?_,?_⟩;simp[kQ];exact⟨el,((Lib.bytesCells w el (Str l)).size,(Lib.bytesCells w el (Str l)).size+1),by rw[XD];exact S5,fun i hi=>by simp;omega⟩;simp only[Lib.bytesCells,Array.size_append,Array.size_map,Array.size_replicate,<- hc];have:(Str l).data.size=l.length:=by simp[Str]
  rw[this,kQ];omega;intro j u hu;simp only[List.getElem?_map,Option.map_eq_some_iff]at hu;obtain⟨b,hb,rfl⟩:=hu;have hj:j<l.length:=(Za3.1 hb).1;simp only[Lib.bytesCells,Zaw];rw[Array.getElem?_append_left (by simp[Str];exact hj)];simp[Str,hb]
 refine⟨_,Pb,Kb,_,hK w.heap.size c,H4.put hN (F':=[w.heap.size]) hrv ?_ Zad ?_,fun _ h=>h,fun _ h=>h,fun _ h=>.inl h,UI⟩;intro r _ g hg TJ;simp only[Zav]at hg;exact YQ r g TJ hg;intro g hg;simp only[Zav]at hg;subst hg;exact⟨TT,by rw[XD];omega⟩
theorem Et{K:AS->Prop} {d:Option Nat} {src dst ty:Nat} {x:Operand} {pos:String} {after:Array Edge} {rest:List Oper} (e:Nat) (C:Prop) (bs:BL)
 (ht:tD P src=some (.sl e)/\tD P e=some (.int .u8)/\tD P dst=some .str) (hd:dP N d) (hx:Re A x=some (C,bs.map B7)) (hC:C) (hK:WL P N ops rest (A.put d (sV bs)) K):
 WL P N ops (⟨d,.convert src dst x,ty,pos,after,none⟩ :: rest) A K:=by
 show N' P N _ A _;exact wX rfl hd ht.1 ht.2.1 ht.2.2 hx hC hK
theorem EE{K:AS->Prop} {d src dst ty:Nat} {x:Operand} {pos:String} {after:Array Edge} {rest:List Oper} (e:Nat) (l:BL)
 (ht:tD P src=some .str/\tD P dst=some (.sl e)/\tD P e=some (.int .u8)) (hN:d<N) (hx:A.ev x=sV l) (hK:∀ g c,WL P N ops rest (A.put (some d) (.own 1 (l.map B7) g 0 c)) K):
 WL P N ops (⟨some d,.convert src dst x,ty,pos,after,none⟩ :: rest) A K:=by
 show N' P N _ A _;exact Eo rfl rfl hN ht.1 ht.2.1 ht.2.2 hx hK
theorem C3.DK(hs:C3 N Pb Kb A a w F){t:Nat}{v:V}(ht:t<N)(h:RV w Pb v (a.tmps.getD t undef) (F (.slot t))):C3 N Pb Kb (A.put (some t) v) a w F:=by
 have h2:=hs.put (d:=t) (v:=v) (x:=a.tmps.getD t undef) (F':=F (.slot t)) ht h (fun r hr g hg=>hs.du _ _ (Ne.symm hr) g hg) (hs.nodup _) (fun g hg=>hs.free _ g hg);rw[vt]at h2;have e:dr F (.slot t) (F (.slot t))=F:=by
  funext r;unfold dr;split;rename_i e;rw[e];rfl
 rw[e]at h2;exact h2
theorem C3.iC(hs:C3 N Pb Kb A a w F){t i sz n g o c:Nat}{xs:List V}(ht:t<N)(hi:i<N)(UG:t≠i)(h1:A.get t=.hd (.slot i) [] sz g o 0 n c)(h2:A.get i=.own sz xs g o c)(hn:n=xs.length):
 ∃ F',C3 N Pb Kb ((A.put (some i) .c9).put (some t) (.own sz xs g o c)) a w F':=by
 subst hn;obtain⟨Fx,F1,hr,Rj,hnd,C8,hfr,_⟩:=hs.take (.tmp i);rw[ui h2]at Rj;have hr:RV w Pb (A.get i) (a.tmps.getD i undef) Fx:=hr;rw[h2]at hr;have hh:=hs.slot t;rw[h1]at hh;obtain⟨_,hle,B,hv,hB⟩:=hh;have hv:a.tmps.getD t undef=.slice B xs.length c:=(List.cons.inj hv).1;have N5:RV w Pb (.own sz xs g o c) (a.tmps.getD t undef) Fx:=by
  rw[hv];rcases hr with ⟨rfl,rfl,rfl,A0,_⟩ | ⟨k1,k2,k3,k4,k5⟩;exact .inl ⟨rfl,rfl,rfl,B,rfl⟩;have:=hB k1;rw[Nat.zero_mul,Nat.add_zero]at this;subst this;exact .inr ⟨k1,k2,k3,rfl,k5⟩
 have h3:=Rj.put (d:=t) (v:=.own sz xs g o c) (x:=a.tmps.getD t undef) (F':=Fx) ht N5 (fun r _ g hg=>C8 r g hg) hnd hfr;rw[vt]at h3;exact⟨_,h3⟩
theorem bF{α:Type}{f:α->V}(hf:∀ x,(f x).eE=false):∀ (l:List α),V.aK (l.map f)=false
 | []=>rfl
 | x::l=>by simp only[Zbe,V.aK,hf x,bF hf l,Bool.or_self]
theorem cd{α:Type}{f:α->V}{n:Nat}(hf:∀ x,(f x).n=n)(l:List α):aX n (l.map f):=fun x hx=>by
 obtain⟨y,_,rfl⟩:=List.mem_map.1 hx;exact hf y
theorem aU{α:Type}{f:α->V}(hf:∀ x,(f x).er=f x):∀ (l:List α),V.G4 (l.map f)=l.map f
 | []=>rfl
 | x::l=>by simp only[Zbe,V.G4,hf x,aU hf l]
theorem Dv{o:Oper} {K:AS->Prop} {x y:Operand} {QM:Array TypeId} {k:IntKind} {p q r:Int} {b:Builtin} (ho:o.op=.call { callee:=.builtin b,args:= #[x,y],argTypes:=QM }) (hd:dP N o.dst)
 (hx:A.ev x=.lit (.int k p)) (hy:A.ev y=.lit (.int k q)) (hb:(b=.max/\r=max p q)\/(b=.min/\r=min p q)) (hK:K (A.put o.dst (.lit (.int k r)))):N' P N o A K:=by
 refine mn hd hK fun Pb Kb a w F hs=>⟨.int k r,?_,eA rfl⟩;have e:(#[x,y].map a.eval)= #[.int k p,.int k q]:=by simp[dj hs hx,dj hs hy]
 rcases hb with ⟨rfl,rfl⟩ | ⟨rfl,rfl⟩;simp only[execOp,ho,resolve,invoke,builtin,Za0,Za1,Zas,e,Lib.run_max_ints];simp only[execOp,ho,resolve,invoke,builtin,Za0,Za1,Zas,e,Lib.run_min_ints]
theorem Ns{K:AS->Prop} {d:Option Nat} {x y:Operand} {QM:Array TypeId} {ty:TypeId} {pos:String} {after:Array Edge} {rest:List Oper} (k:IntKind) (p q:Int) (hd:dP N d)
 (hx:A.ev x=.lit (.int k p)) (hy:A.ev y=.lit (.int k q)) (hK:WL P N ops rest (A.put d (.lit (.int k (max p q)))) K):
 WL P N ops (⟨d,.call { callee:=.builtin .max,args:= #[x,y],argTypes:=QM },ty,pos,after,none⟩ :: rest) A K:=by
 show N' P N _ A _;exact Dv rfl hd hx hy (.inl ⟨rfl,rfl⟩) hK
theorem NM{K:AS->Prop} {d:Option Nat} {x y:Operand} {QM:Array TypeId} {ty:TypeId} {pos:String} {after:Array Edge} {rest:List Oper} (k:IntKind) (p q:Int) (hd:dP N d)
 (hx:A.ev x=.lit (.int k p)) (hy:A.ev y=.lit (.int k q)) (hK:WL P N ops rest (A.put d (.lit (.int k (min p q)))) K):
 WL P N ops (⟨d,.call { callee:=.builtin .min,args:= #[x,y],argTypes:=QM },ty,pos,after,none⟩ :: rest) A K:=by
 show N' P N _ A _;exact Dv rfl hd hx hy (.inr ⟨rfl,rfl⟩) hK
theorem IE{sz g o c lo n c':Nat} {xs:List V} {x y:Value} {Fx:List Nat} (hr:R w Pb (.own sz xs g o c) [x] Fx) (hle:n<=c') {B:Option Addr} (hy:y=.slice B n c') (hB:0<c'->B=some ⟨g,o+lo*sz,none⟩)
 (hn:lo+n<=xs.length) (hc:lo+c'<=c) (ho:V.aK xs=false):∃ F',R w Pb (.own sz ((xs.drop lo).take n) g (o+lo*sz) c') [y] F'/\∀ z,z∈F'->z∈Fx:=by
 subst hy;by_cases h0:c'=0;subst h0;have:n=0:=Zac;subst this;exact⟨[],.inl ⟨rfl,Zad,rfl,B,rfl⟩,Zad⟩;rcases hr with ⟨rfl,_⟩ | ⟨h1,h2,h3,_,hN,hP,flat,F',cells,hF,R',hb,hsz,B8⟩;omega;have hF0:=jD xs ho R';subst hF0;obtain⟨c1,Um,R4⟩:=tE xs lo R';obtain⟨c3,Zk,hc3⟩:=tB _ n Um;have hlen:((xs.drop lo).take n).length=n:=Zal;refine⟨[g],.inr ⟨Zac,h2,Zac,?_,fun z hz=>hN z (List.mem_of_mem_drop (List.mem_of_mem_take hz)),hP,c3,[],cells,rfl,Zk,hb,?_,fun j u hu=>?_⟩,by rw[hF];simp⟩;rw[hlen,hB Zac];have:(lo+c')*sz<=c*sz:=Nat.mul_le_mul_right _ hc;rw[Nat.add_mul]at this;omega;have:=R4 j u (hc3 j u hu);rw[fL xs lo hN Zac]at this;have:=B8 _ _ this;rw[Zbj];exact this
theorem GS{K:AS->Prop} {i:Nat} {x:Operand} {ty:TypeId} {pos:String} {after:Array Edge} {rest:List Oper} (lo n c':Nat) {sz g o c:Nat} (xs:List V) (hi:i<N)
 (hx:A.ev x=.hd (.slot i) [] sz g o lo n c') (h2:A.get i=.own sz xs g o c) (hn:lo+n<=xs.length) (hc:lo+c'<=c) (ho:V.aK xs=false)
 (hK:WL P N ops rest (A.put (some i) (.own sz ((xs.drop lo).take n) g (o+lo*sz) c')) K):WL P N ops (⟨some i,.assign x,ty,pos,after,none⟩ :: rest) A K:=by
 show N' P N _ A _;intro Pb Kb a w F Q hs;obtain⟨_,hr⟩:=fv hs x;rw[hx]at hr;obtain⟨_,hle,B,hv,hB⟩:=hr;have hv:a.eval x=.slice B n c':=(List.cons.inj hv).1;have Qk:=hs.slot i;rw[h2]at Qk;obtain⟨F',N5,VJ⟩:=IE (w:=w) (Pb:=Pb) Qk hle hv hB hn hc ho;have hnd:F'.Nodup:=by
  rcases N5 with ⟨_,_,rfl,_⟩ | ⟨_,_,_,_,_,_,flat,F2,cells,hF,R',_⟩;exact Zba;have:=jD _ (by
   have:=uy xs lo ho;have h3:∀ (l:List V) (k:Nat),V.aK l=false->V.aK (l.take k)=false:=by
    intro l;induction l with
    | nil=>intro k _;simp[V.aK]
    | cons v l ih=>
      intro k h;cases k with
      | zero=>rfl
      | succ k=>simp only[List.take_succ_cons,V.aK,Bool.or_eq_false_iff]at h ⊢;exact⟨h.1,ih k h.2⟩
   exact h3 _ n this) R'
  subst this;rw[hF];simp
 unfold Oper.wp;have:(execOp a.eval ⟨some i,.assign x,ty,pos,after,none⟩).run P w=.ok (.value (a.eval x)) w:=rfl;rw[this,Oper.upon_value];exact⟨_,Pb,Kb,_,hK,hs.put hi N5 (fun r hr g hg=>fun TJ=>hs.du _ _ (Ne.symm hr) g (VJ g hg) TJ) hnd (fun g hg=>hs.free _ g (VJ g hg)),fun _ h=>h,fun _ h=>h,fun _ h=>.inl h,F7.refl _ _⟩
end
section
variable {P:Program} {N:Nat} {ops:Array Oper} {A A' A1:AS}
def Bd(A:AS):List ResultVar->Option (Prop×List (r5×V))
 | []=>some (True,[])
 | r::rs=>match Bd A rs with
   | some (C,xs)=>match r with
     | .tmp t=>some (C,(.slot t,A.get t)::xs)
     | .cell t _=>match A.get t with
       | .ptr (.key k) [] g 0=>match lk k A.h with
         | some (g',v)=>some (g'=g/\C,(.key k,v)::xs)
         | none=>none
       | _=>none
   | none=>none
theorem xK:∀ {rs:List ResultVar} {C:Prop} {xs:List (r5×V)},Bd A rs=some (C,xs)->C->vg A rs=some xs
 | [],C,xs,h,_=>by simp only[Bd,Zan,Zaq]at h;rw[<- h.2];rfl
 | r::rs,C,xs,h,hC=>by
   simp only[Bd]at h;split at h
   case h_2=>simp at h
   rename_i C1 xs1 hr;cases r with
   | tmp t=>
     simp only[Zan,Zaq]at h;obtain⟨rfl,rfl⟩:=h;simp only[vg,CM,xK hr hC]
   | cell t T=>
     simp only at h;split at h;rename_i k g hg;split at h;rename_i g' v hk;simp only[Zan,Zaq]at h;obtain⟨rfl,rfl⟩:=h;obtain⟨rfl,hC⟩:=hC;simp only[vg,CM,hg,hk,if_true,xK hr hC];simp at h;simp at h
end
mutual
def V.kill:V->V
 | .own .. =>.c9
 | .ow .. =>.c9
 | .om .. =>.c9
 | .agg vs=>.agg (V.ng vs)
 | v=>v
def V.ng:List V->List V
 | []=>[]
 | v::vs=>v.kill::V.ng vs
end
section
variable {P:Program} {N:Nat} {ops:Array Oper} {A A' A1:AS}
variable {w:World} {Pb Kb:Nat->Prop} {a:Act} {F:r5->List Nat}
mutual
theorem DA:∀ v:V,v.kill.n=v.n
 | .own .. =>rfl
 | .ow .. =>rfl
 | .om .. =>rfl
 | .mp .. =>rfl
 | .agg vs=>by simp only[V.kill,V.n];exact EY vs
 | .tup _=>rfl | .gv _ _=>rfl | .lit _=>rfl | .sl .. =>rfl | .hd .. =>rfl | .ptr .. =>rfl | .ep _=>rfl | .c9=>rfl
theorem EY:∀ vs:List V,V.ns (V.ng vs)=V.ns vs
 | []=>rfl
 | v::vs=>by simp only[V.ng,V.ns,DA v,EY vs]
end
mutual
theorem IT:∀ (v:V) {cs F},R w Pb v cs F->R w Pb v.kill cs []
 | .own sz xs g o c,cs,F,h=>by
   rcases h with ⟨_,_,_,B,rfl⟩ | ⟨_,_,_,rfl,_⟩ <;> exact⟨rfl,_,rfl,rfl⟩
 | .ow sz xs,cs,F,h=>by
   obtain⟨g,o,c,h⟩:=h;rcases h with ⟨_,_,_,B,rfl⟩ | ⟨_,_,_,rfl,_⟩ <;> exact⟨rfl,_,rfl,rfl⟩
 | .om ..,_,_,h=>⟨rfl,_,h.2.1,rfl⟩
 | .mp ..,_,_,h=>⟨rfl,h.2⟩
 | .agg vs,cs,F,h=>by simp only[R,V.kill]at h ⊢;exact EO vs h
 | .tup _,_,_,h=>by simp[R]at h
 | .gv _ _,_,_,h=>by simp[R]at h
 | .lit x,_,_,h=>⟨h.1,h.2.1,rfl⟩
 | .sl ..,_,_,h=>⟨rfl,h.2⟩
 | .hd ..,_,_,h=>⟨rfl,h.2⟩
 | .ptr ..,_,_,h=>⟨rfl,h.2⟩
 | .ep _,_,_,h=>⟨rfl,h.2⟩
 | .c9,_,_,h=>⟨rfl,h.2⟩
theorem EO:∀ (vs:List V) {cs F},RL w Pb vs cs F->RL w Pb (V.ng vs) cs []
 | [],_,_,h=>⟨h.1,rfl⟩
 | v::vs,_,_,h=>by
   obtain⟨c1,c2,F1,F2,rfl,rfl,h1,h2⟩:=h;exact⟨c1,c2,[],[],rfl,rfl,IT v h1,EO vs h2⟩
end
def nf(F F1 F2:List Nat):Prop:=(∀ y,y∈F1->y∈F)/\(∀ y,y∈F2->y∈F)/\(F.Nodup->F1.Nodup/\F2.Nodup/\∀ y,y∈F1->y ∉ F2)
theorem nf.mid{X F Y F1 F2:List Nat}(h:nf F F1 F2):nf (X++F++Y) (X++F1++Y) F2:=by
 obtain⟨h1,h2,h3⟩:=h;refine⟨fun y hy=>?_,fun y hy=>by simp[h2 y hy],fun hnd=>?_⟩;simp only[Zax]at hy ⊢;rcases hy with (hy | hy) | hy;exact .inl (.inl hy);exact .inl (.inr (h1 y hy));exact .inr hy;simp only[List.nodup_append,Zax]at hnd ⊢;obtain⟨⟨n1,n2,n3⟩,n4,n5⟩:=hnd;obtain⟨k1,k2,k3⟩:=h3 n2;refine⟨⟨⟨n1,k1,fun p hp q hq=>n3 p hp q (h1 q hq)⟩,n4,fun p hp q hq=>?_⟩,k2,fun y hy Zi=>?_⟩;rcases hp with hp | hp;exact n5 p (.inl hp) q hq;exact n5 p (.inr (h1 p hp)) q hq;rcases hy with (hy | hy) | hy;exact n3 y hy y (h2 y Zi) rfl;exact k3 y hy Zi;exact n5 y (.inr (h2 y Zi)) y hy rfl
theorem qm:∀ (vs:List V) {cs F} {j:Nat} {u u':V},RL w Pb vs cs F->vs[j]? =some u->∃ c Fa Fj Fb,F=Fa++Fj++Fb/\R w Pb u c Fj/\(∀ i x,c[i]? =some x->cs[V.ns (vs.take j)+i]? =some x)/\
 ∀ Y9,R w Pb u' c Y9->RL w Pb (vs.set j u') cs (Fa++Y9++Fb)
 | [],_,_,_,_,_,_,h=>by simp at h
 | v::vs,cs,F,0,u,u',h,hj=>by
   obtain⟨c1,c2,F1,F2,rfl,rfl,h1,h2⟩:=h;simp at hj;subst hj;refine⟨c1,[],F1,F2,Zad,h1,fun i x hx=>?_,fun Y9 hr=>⟨c1,c2,Y9,F2,rfl,Zad,hr,h2⟩⟩;simp only[List.take_zero,V.ns,Zaw];rw[Za9 (Za3.1 hx).1];exact hx
 | v::vs,cs,F,j+1,u,u',h,hj=>by
   obtain⟨c1,c2,F1,F2,rfl,rfl,h1,h2⟩:=h;obtain⟨c,Fa,Fj,Fb,rfl,k1,k2,k3⟩:=qm vs (u':=u') h2 Zbp;refine⟨c,F1++Fa,Fj,Fb,Zad,k1,fun i x hx=>?_,fun Y9 hr=>⟨c1,c2,F1,Fa++Y9++Fb,rfl,Zad,h1,k3 Y9 hr⟩⟩;have hl:=ft _ h1;simp only[List.take_succ_cons,V.ns];rw[Za4 Zac];rw[show v.n+V.ns (vs.take j)+i-c1.length=V.ns (vs.take j)+i by omega];exact k2 i x hx
theorem nf.refl(F:List Nat):nf F [] F:=⟨Zad,fun _ h=>h,fun h=>⟨Zba,h,Zad⟩⟩
theorem xb:∀ (p:List Nat) {v u:V} {g o g' o':Nat} {cs:List Value} {F:List Nat} {cells:Array Value},R w Pb v cs F->Blk w g cells->(∀ j x,cs[j]? =some x->cells[o+j]? =some x)->V.at g o v p=some (g',o',u)->
 ∃ F1 Fu,R w Pb (v.set p u.kill) cs F1/\At w Pb u g' o' Fu/\nf F F1 Fu
 | [],v,u,g,o,g',o',cs,F,cells,h,hb,hc,e=>by
   simp only[V.at,Zan,Zaq]at e;obtain⟨rfl,rfl,rfl⟩:=e;exact⟨[],F,by simpa only[V.set] using IT v h,⟨cs,cells,hb,h,hc⟩,nf.refl F⟩
 | j::p,v,u,g,o,g',o',cs,F,cells,h,hb,hc,e=>by
   cases v with
   | agg vs=>
     simp only[V.at]at e;split at e
     case h_2=>simp at e
     rename_i x hx;simp only[R]at h;obtain⟨c,Fa,Fj,Fb,rfl,k1,k2,k3⟩:=qm vs (u':=x.set p u.kill) h hx;obtain⟨F1,Fu,m1,m2,m3⟩:=xb p k1 hb (o:=o+V.ns (vs.take j)) (fun i y hy=>by rw[Zbj];exact hc _ _ (k2 i y hy)) e;exact⟨Fa++F1++Fb,Fu,by simp only[V.set,hx,R];exact k3 F1 m1,m2,m3.mid⟩
   | own sz xs g0 o0 c0=>
     simp only[V.at]at e;split at e
     case h_2=>simp at e
     rename_i x hx;rcases h with ⟨_,rfl,_⟩ | ⟨h1,h2,h3,h4,hN,h5,flat,F',Tc,rfl,hr,V5,hsz,B8⟩;simp at hx;obtain⟨c,Fa,Fj,Fb,rfl,k1,k2,k3⟩:=qm xs (u':=x.set p u.kill) hr hx;have hj:j<xs.length:=(Za3.1 hx).1;rw[fL xs j hN Zac]at k2;obtain⟨F1,Fu,m1,m2,m3⟩:=xb p k1 V5 (o:=o0+j*sz) (fun i y hy=>by rw[Zbj];exact B8 _ _ (k2 i y hy)) e;have hn:(x.set p u.kill).n=x.n:=qK p e (DA u);refine⟨g0::(Fa++F1++Fb),Fu,?_,m2,?_⟩;simp only[V.set,hx];refine .inr ⟨h1,h2,by simpa using h3,by simpa using h4,fun y hy=>?_,h5,flat,_,Tc,rfl,k3 F1 m1,V5,hsz,B8⟩;rcases List.mem_or_eq_of_mem_set hy with hy | rfl;exact hN y hy;rw[hn];exact hN x (Za7 hx);have:=nf.mid (X:=g0::Fa) (Y:=Fb) m3;simpa using this
   | _=>simp[V.at]at e
theorem IL{j:Nat}{p:List Nat}{u:V}{g o g' o' sz g0 o0 c0:Nat}{xs:List V}{cs:List Value}{F:List Nat}(h:R w Pb (.own sz xs g0 o0 c0) cs F)(e:V.at g o (.own sz xs g0 o0 c0) (j::p)=some (g',o',u)):
 ∃ F1 Fu,R w Pb ((V.own sz xs g0 o0 c0).set (j::p) u.kill) cs F1/\At w Pb u g' o' Fu/\nf F F1 Fu:=by
 simp only[V.at]at e;split at e
 case h_2=>simp at e
 rename_i x hx;rcases h with ⟨_,rfl,_⟩ | ⟨h1,h2,h3,h4,hN,h5,flat,F',Tc,rfl,hr,V5,hsz,B8⟩;simp at hx;obtain⟨c,Fa,Fj,Fb,rfl,k1,k2,k3⟩:=qm xs (u':=x.set p u.kill) hr hx;have hj:j<xs.length:=(Za3.1 hx).1;rw[fL xs j hN Zac]at k2;obtain⟨F1,Fu,m1,m2,m3⟩:=xb p k1 V5 (o:=o0+j*sz) (fun i y hy=>by rw[Zbj];exact B8 _ _ (k2 i y hy)) e;have hn:(x.set p u.kill).n=x.n:=qK p e (DA u);refine⟨g0::(Fa++F1++Fb),Fu,?_,m2,?_⟩;simp only[V.set,hx];refine .inr ⟨h1,h2,by simpa using h3,by simpa using h4,fun y hy=>?_,h5,flat,_,Tc,rfl,k3 F1 m1,V5,hsz,B8⟩;rcases List.mem_or_eq_of_mem_set hy with hy | rfl;exact hN y hy;rw[hn];exact hN x (Za7 hx);have:=nf.mid (X:=g0::Fa) (Y:=Fb) m3;simpa using this
theorem C3.split(hs:C3 N Pb Kb A a w F){r:r5}{p:List Nat}{g o:Nat}{u:V}(G5:A.at r p=some (g,o,u)):
 ∃ Fr Fu,C3 N Pb Kb (A.setAt r p u.kill) a w (dr F r Fr)/\At w Pb u g o Fu/\Fu.Nodup/\(∀ r' y,y∈Fu->y ∉ dr F r Fr r')/\(∀ y,y∈Fu->¬ Kb y/\y<w.heap.size):=by
 have main:∃ Fr Fu,At w Pb u g o Fu/\nf (F r) Fr Fu/\(match r with
      | .key k=> ∀ g0 t,lk k A.h=some (g0,t)->∃ F',Fr=g0::F'/\At w Pb (t.set p u.kill) g0 0 F'
      | .slot i=>RV w Pb ((A.get i).set p u.kill) (a.tmps.getD i undef) Fr):=by
  cases r with
  | key k=>
    simp only[AS.at]at G5;split at G5;rename_i g0 t hk;obtain⟨F0,hF,cs,cells,hb,hr,hc⟩:=hs.root k g0 t hk;obtain⟨F1,Fu,m1,m2,m3⟩:=xb p hr hb hc G5;refine⟨g0::F1,Fu,m2,?_,fun g1 t1 UJ=>?_⟩;rw[hF];have:=nf.mid (X:=[g0]) (Y:=[]) m3;simpa using this;rw[hk]at UJ;simp only[Zan,Zaq]at UJ;obtain⟨rfl,rfl⟩:=UJ;exact⟨F1,rfl,cs,cells,hb,m1,hc⟩;simp at G5
  | slot i=>
    simp only[AS.at]at G5;split at G5;rename_i sz xs g0 o0 c0 j p' hg _;have hr:=hs.slot i;rw[hg]at hr;obtain⟨F1,Fu,m1,m2,m3⟩:=IL (w:=w) (Pb:=Pb) hr G5;refine⟨F1,Fu,m2,m3,?_⟩;simp only[hg];have e:∃ ys,(V.own sz xs g0 o0 c0).set (j::p') u.kill=.own sz ys g0 o0 c0:=by
     simp only[V.set];split;exact⟨_,rfl⟩;exact⟨_,rfl⟩
    obtain⟨ys,e⟩:=e;rw[e]at m1 ⊢;exact m1;simp at G5
 obtain⟨Fr,Fu,hA,hP,hm⟩:=main;obtain⟨p1,p2,p3⟩:=hP;obtain⟨n1,n2,n3⟩:=p3 (hs.nodup r);refine⟨Fr,Fu,⟨hs.size,hs.defers,fun i=>?_,fun k g0 t hk=>?_,fun r1 r2 hne y hy=>?_,fun r1=>?_,fun r1 y hy=>?_,hs.sub,hs.bound⟩,hA,n2,fun r' y hy=>?_,fun y hy=>hs.free r y (p2 y hy)⟩;by_cases Wk:r=.slot i;subst Wk;simp only[dr,if_true,AS.setAt,AS.get,lk,Option.getD_some];exact hm;simp only[dr,if_neg (Ne.symm Wk)];have:(A.setAt r p u.kill).get i=A.get i:=by
  cases r with
  | key k=>simp only[AS.setAt];split <;> rfl
  | slot j=>simp only[AS.setAt,AS.get,lk];rw[if_neg (fun c=>Wk (by rw[c]))]
 rw[this];exact hs.slot i;by_cases WE:r=.key k;subst WE;simp only[dr,if_true];cases UY:lk k A.h with
 | none=>
   simp only[AS.setAt,UY]at hk;cases hk
 | some gt=>
   obtain⟨g1,t1⟩:=gt;simp only[AS.setAt,UY,lk,if_true,Zan,Zaq]at hk;obtain⟨rfl,rfl⟩:=hk;exact hm g1 t1 UY
 simp only[dr,if_neg (Ne.symm WE)];refine hs.root k g0 t ?_;rw[<- hk];cases r with
 | key k'=>
   have hne:k≠k':=fun c=>WE (by rw[c]);simp only[AS.setAt];split;simp only[lk];rw[if_neg hne];rfl
 | slot j=>rfl
 simp only[dr]at hy ⊢;by_cases e1:r1=r;subst e1;rw[if_pos rfl]at hy;rw[if_neg (Ne.symm hne)];exact hs.du r1 r2 hne y (p1 y hy);rw[if_neg e1]at hy;by_cases e2:r2=r;subst e2;rw[if_pos rfl];exact fun c=>hs.du r1 r2 hne y hy (p1 y c);rw[if_neg e2];exact hs.du r1 r2 hne y hy;simp only[dr];split;exact n1;exact hs.nodup r1;simp only[dr]at hy;split at hy;exact hs.free r y (p1 y hy);exact hs.free r1 y hy;simp only[dr];split;exact fun c=>n3 y c hy;rename_i hne;exact fun c=>hs.du r r' (Ne.symm hne) y (p2 y hy) c
end
mutual
def wk:V->V->V
 | .own sz xs g o c,u=>match u with | .ow _ _=>.ow sz xs | _=>.own sz xs g o c
 | .sl f xs,u=>match u with | .sl false _=>.sl false xs | .c9=>.c9 | _=>.sl f xs
 | .ptr r p g o,u=>match u with | .ptr r' p' _ _=>.ptr r' p' g o | .c9=>.c9 | _=>.ptr r p g o
 | .lit x,u=>match u with
   | .ptr r' p' _ _=>match x with
     | .pointer (some ⟨g,o,none⟩)=>.ptr r' p' g o
     | _=>.lit x
   | .c9=>if x.oneCell' then .c9 else .lit x
   | _=>.lit x
 | .hd r p sz g o lo n c,u=>match u with | .hd r' p' _ _ _ _ _ _=>.hd r' p' sz g o lo n c | .c9=>.c9 | _=>.hd r p sz g o lo n c
 | .mp es,u=>match u with | .c9=>.c9 | _=>.mp es
 | .agg vs,u=>match u with | .agg us=>.agg (R1 vs us) | _=>.agg vs
 | .tup vs,u=>match u with | .tup us=>.tup (R1 vs us) | _=>.tup vs
 | v,_=>v
def R1:List V->List V->List V
 | v::vs,u::us=>wk v u::R1 vs us
 | vs,_=>vs
end
section
variable {w w':World} {Pb Kb Pb':Nat->Prop} {N:Nat} {A A' B:AS} {a:Act} {F:r5->List Nat} {P:Program} {ops:Array Oper}
mutual
theorem uj:∀ (v u:V) {cs F},R w Pb v cs F->R w Pb (wk v u) cs F
 | .own sz xs g o c,u,cs,F,h=>by
   simp only[wk];split;exact Jx.2 ⟨_,_,_,h⟩;exact h
 | .sl f xs,u,cs,F,h=>by
   simp only[wk];split;obtain⟨hF,B,c,hc,hl,_,hx⟩:=h;exact⟨hF,B,c,hc,hl,(fun h=>by cases h),hx⟩;obtain⟨hF,B,c,rfl,_⟩:=h;exact⟨hF,_,rfl,rfl⟩;exact h
 | .ptr r p g o,u,cs,F,h=>by
   simp only[wk];split;exact h;obtain⟨hF,rfl⟩:=h;exact⟨hF,_,rfl,rfl⟩;exact h
 | .lit x,u,cs,F,h=>by
   simp only[wk];split;split;obtain⟨_,rfl,hF⟩:=h;exact⟨hF,rfl⟩;exact h;split;rename_i hx;obtain⟨_,rfl,hF⟩:=h;exact⟨hF,x,rfl,hx⟩;exact h;exact h
 | .hd r p sz g o lo n c,u,cs,F,h=>by
   simp only[wk];split;exact h;obtain⟨hF,_,B,rfl,_⟩:=h;exact⟨hF,_,rfl,rfl⟩;exact h
 | .mp es,u,cs,F,h=>by
   simp only[wk];split;obtain⟨hF,g,rfl,_⟩:=h;exact⟨hF,_,rfl,rfl⟩;exact h
 | .agg vs,u,cs,F,h=>by
   simp only[wk];split;rename_i us;simp only[R]at h ⊢;exact GM vs us h;exact h
 | .tup vs,_,_,_,h=>by simp[R]at h
 | .gv _ _,_,_,_,h=>by simp[R]at h
 | .ow ..,u,_,_,h=>by simpa[wk] using h
 | .om ..,u,_,_,h=>by simpa[wk] using h
 | .ep _,u,_,_,h=>by simpa[wk] using h
 | .c9,u,_,_,h=>by simpa[wk] using h
theorem GM:∀ (vs us:List V) {cs F},RL w Pb vs cs F->RL w Pb (R1 vs us) cs F
 | [],us,_,_,h=>by simpa[R1] using h
 | v::vs,[],_,_,h=>by simpa[R1] using h
 | v::vs,u::us,cs,F,h=>by
   obtain⟨c1,c2,F1,F2,rfl,rfl,h1,h2⟩:=h;exact⟨c1,c2,F1,F2,rfl,rfl,uj v u h1,GM vs us h2⟩
end
theorem Ie{v:V}(u:V){x:Value}{F1:List Nat}(h:Te w Pb v x F1):Te w Pb (wk v u) x F1:=by
 cases v with
 | agg us=>
   obtain⟨cs,rfl,h⟩:=h;simp only[wk];split;exact⟨cs,rfl,GM _ _ h⟩;exact⟨cs,rfl,h⟩
 | c9=>simpa[wk] using h
 | tup vs=>simp[Te,R]at h
 | gv b u=>simp[Te,R]at h
 | ow sz xs=>simpa[wk] using h
 | om es g=>simpa[wk] using h
 | ep v=>simpa[wk] using h
 | own sz xs g o c=>
   have:=uj (w:=w) (Pb:=Pb) (.own sz xs g o c) u h;simp only[wk]at this ⊢;split at this <;> simpa[Te] using this
 | lit y=>
   have h:R w Pb (.lit y) [x] F1:=h;have hh:=h;obtain⟨ho,e,hF⟩:=hh;simp only[List.cons.injEq,and_true]at e;subst e hF;cases u with
   | ptr r' p' g' o'=>
     have:=uj (w:=w) (Pb:=Pb) (.lit x) (.ptr r' p' g' o') h;simp only[wk]at this ⊢;split at this;exact this;exact this
   | c9=>simp only[wk,ho,if_true];rfl
   | _=>exact h
 | sl f xs=>
   have:=uj (w:=w) (Pb:=Pb) (.sl f xs) u h;simp only[wk]at this ⊢;split at this;all_goals first | simpa[Te] using this | (simp only[Te];exact this.1)
 | ptr r p g o=>
   have:=uj (w:=w) (Pb:=Pb) (.ptr r p g o) u h;simp only[wk]at this ⊢;split at this;all_goals first | simpa[Te] using this | (simp only[Te];exact this.1)
 | hd r p sz g o lo n c=>
   have:=uj (w:=w) (Pb:=Pb) (.hd r p sz g o lo n c) u h;simp only[wk]at this ⊢;split at this;all_goals first | simpa[Te] using this | (simp only[Te];exact this.1)
 | mp es=>
   have:=uj (w:=w) (Pb:=Pb) (.mp es) u h;simp only[wk]at this ⊢;split at this;all_goals first | simpa[Te] using this | (simp only[Te];exact this.1)
theorem zX:∀ (vs:List V) {xs:List Value} {F1:List Nat},RVs w Pb vs xs F1↔match vs with | []=>xs=[]/\F1=[] | v::vs=> ∃ x xs' Fa Fb,xs=x::xs'/\F1=Fa++Fb/\Te w Pb v x Fa/\RVs w Pb vs xs' Fb
 | [],_,_=>Iff.rfl
 | v::vs,_,_=>Iff.rfl
theorem tt:∀ (vs us:List V) {xs F1},RVs w Pb vs xs F1->RVs w Pb (R1 vs us) xs F1
 | [],us,_,_,h=>by simpa[R1] using h
 | v::vs,[],_,_,h=>by simpa[R1] using h
 | v::vs,u::us,xs,F1,h=>by
   obtain⟨x,xs',Fa,Fb,rfl,rfl,h1,h2⟩:=(zX (v::vs)).1 h;exact(zX (wk v u::R1 vs us)).2 ⟨x,xs',Fa,Fb,rfl,rfl,Ie u h1,tt vs us h2⟩
theorem CB{v:V}(u:V){x:Value}{F1:List Nat}(h:RV w Pb v x F1):RV w Pb (wk v u) x F1:=by
 by_cases ht:∃ vs,v=.tup vs;obtain⟨vs,rfl⟩:=ht;obtain⟨xs,rfl,h⟩:=h;simp only[wk];split;exact⟨xs,rfl,tt _ _ h⟩;exact⟨xs,rfl,h⟩;by_cases hg:∃ b u',v=.gv b u';obtain⟨b,u',rfl⟩:=hg;simpa[wk] using h;have h1:=ID h ⟨fun us e=>ht ⟨us,e⟩,fun b u e=>hg ⟨b,u,e⟩⟩;have h2:=Ie u h1;have back:∀ z:V,(∀ us,z≠.tup us)->(∀ b u,z≠.gv b u)->Te w Pb z x F1->RV w Pb z x F1:=by
  intro z z1 z2 hz;cases z with
  | tup us=>exact absurd rfl (z1 us)
  | gv b u=>exact absurd rfl (z2 b u)
  | _=>exact hz
 refine back _ (fun us e=>?_) (fun b u e=>?_) h2
 · cases v <;> simp only[wk]at e <;> (repeat' split at e) <;> simp_all
 · cases v <;> simp only[wk]at e <;> (repeat' split at e) <;> simp_all
theorem GZ{v:V}(u:V){g o:Nat}{F1:List Nat}(h:At w Pb v g o F1):At w Pb (wk v u) g o F1:=by
 obtain⟨cs,cells,hb,hr,hc⟩:=h;exact⟨cs,cells,hb,uj v u hr,hc⟩
def Vr(A:AS):List (Nat×V)->Prop
 | []=>True
 | (k,v)::r=>wk (A.get k) v=v/\Vr A r
def UT(A:AS):List (Nat×(Nat×V))->Prop
 | []=>True
 | (k,(g,v))::r=>(match lk k A.h with | some (g',v')=>(g',wk v' v)=(g,v) | none=>False)/\UT A r
theorem HX:∀ (l:List (Nat×V)) {i:Nat} {v:V},Vr A l->lk i l=some v->wk (A.get i) v=v
 | [],_,_,_,h=>by simp[lk]at h
 | (k,u)::r,i,v,h,e=>by
   simp only[lk]at e;split at e;rename_i e';subst e';cases e;exact h.1;exact HX r h.2 e
theorem Dm:∀ (l:List (Nat×(Nat×V))) {i g:Nat} {v:V},UT A l->lk i l=some (g,v)->∃ v',lk i A.h=some (g,v')/\wk v' v=v
 | [],_,_,_,_,h=>by simp[lk]at h
 | (k,(g0,u))::r,i,g,v,h,e=>by
   simp only[lk]at e;split at e;rename_i e';subst e';cases e;have h1:=h.1;split at h1;rename_i g' v' hk;simp only[Zaq]at h1;exact⟨v',by rw[hk,h1.1],h1.2⟩;exact h1.elim;exact Dm r h.2 e
open Classical in
theorem C3.leW(hs:C3 N Pb Kb A a w F)(h:Vr A B.t)(k:UT A B.h):∃ F',C3 N Pb Kb B a w F':=by
 refine⟨fun r=>match r with | .slot i=>if lk i B.t=none then [] else F (.slot i) | .key k=>if lk k B.h=none then [] else F (.key k),?_⟩;have key:∀ r g,g∈(match r with | .slot i=>if lk i B.t=none then [] else F (.slot i) | .key k=>if lk k B.h=none then [] else F (.key k):List Nat)->g∈F r:=by
  intro r g hg;cases r <;> simp only at hg <;> split at hg <;> simp_all
 refine⟨hs.size,hs.defers,fun i=>?_,fun k0 g v hk=>?_,fun r r' hne g hg=>?_,fun r=>?_,fun r g hg=>hs.free r g (key r g hg),hs.sub,hs.bound⟩;simp only;cases e:lk i B.t with
 | none=>simp only[if_true,AS.get,e];rfl
 | some v=>
   rw[if_neg Zad];have:=CB v (hs.slot i);rw[HX _ h e]at this;simpa[AS.get,e] using this
 simp only;rw[if_neg (by rw[hk];simp)];obtain⟨v',e1,e2⟩:=Dm _ k hk;obtain⟨F',hF,hA⟩:=hs.root k0 g v' e1;exact⟨F',hF,by have:=GZ v hA;rw[e2]at this;exact this⟩;exact fun TJ=>hs.du r r' hne g (key r g hg) (key r' g TJ);cases r <;> simp only <;> split <;> first | exact Zba | exact hs.nodup _
def Hx(N:Nat)(A:AS)(K:AS->Prop):Prop:=
 ∀ Pb Kb a w F,C3 N Pb Kb A a w F->∃ B Pb' N1 F',K B/\C3 N Pb' N1 B a w F'/\(∀ g,Pb g->Pb' g)/\(∀ g,Kb g->N1 g)/\(∀ g,Pb' g->Pb g\/¬ Kb g)
theorem Hx.of{K:AS->Prop}(h:K A):Hx N A K:=fun Pb Kb _ _ F hs=>⟨A,Pb,Kb,F,h,hs,fun _ h=>h,fun _ h=>h,fun _ h=>.inl h⟩
theorem Hx.mono{K K':AS->Prop}(h:Hx N A K)(hK:∀ B,K B->K' B):Hx N A K':=fun Pb Kb a w F hs=>by
 obtain⟨B,Pb',N1,F',h1,h2⟩:=h Pb Kb a w F hs;exact⟨B,Pb',N1,F',hK B h1,h2⟩
theorem Hx.bind{K K':AS->Prop}(h:Hx N A K)(hK:∀ B,K B->Hx N B K'):Hx N A K':=fun Pb Kb a w F hs=>by
 obtain⟨B,Pb',N1,F',h1,h2,h3,h4,h5⟩:=h Pb Kb a w F hs;obtain⟨C,Sr,SA,F2,k1,k2,k3,k4,k5⟩:=hK B h1 Pb' N1 a w F' h2;exact⟨C,Sr,SA,F2,k1,k2,fun g hg=>k3 g (h3 g hg),fun g hg=>k4 g (h4 g hg),fun g hg=>by
  rcases k5 g hg with h | h;exact h5 g h;exact .inr fun c=>h (h4 g c)⟩
theorem Hx.simple{K:AS->Prop}(hK:K B)(h:∀ Pb Kb a w F,C3 N Pb Kb A a w F->∃ F',C3 N Pb Kb B a w F'):Hx N A K:=fun Pb Kb a w F hs=>by
 obtain⟨F',H4⟩:=h Pb Kb a w F hs;exact⟨B,Pb,Kb,F',hK,H4,fun _ h=>h,fun _ h=>h,fun _ h=>.inl h⟩
theorem Nx.hint{K:AS->Prop}{a':Act}(h:Nx N Pb Kb w (fun B=>Hx N B K) a' w'):Nx N Pb Kb w K a' w':=by
 obtain⟨A',Pb',N1,F',h1,h2,h3,h4,h5,h6⟩:=h;obtain⟨B,Sr,SA,F2,k1,k2,k3,k4,k5⟩:=h1 Pb' N1 a' w' F' h2;exact⟨B,Sr,SA,F2,k1,k2,fun g hg=>k3 g (h3 g hg),fun g hg=>k4 g (h4 g hg),fun g hg=>by
  rcases k5 g hg with h | h;exact h5 g h;exact .inr fun c=>h (h4 g c),h6⟩
theorem sX{c:Code}{Q:Exit->AS->Prop}(h:Hx N A fun B=>T P N c B Q):T P N c A Q:=by
 intro Pb Kb a w F hs;obtain⟨B,Pb',N1,F',h1,h2,h3,h4,h5⟩:=h Pb Kb a w F hs;exact wp_mono (h1 Pb' N1 a w F' h2) fun e a' w' hn=>Nx.step h3 h4 h5 (F7.refl _ _) hn
theorem qx{c:Code}{Q:Exit->AS->Prop}(h:T P N c A fun e B=>Hx N B (Q e)):T P N c A Q:=
 fun Pb Kb a w F hs=>wp_mono (h Pb Kb a w F hs) fun _ _ _ hn=>hn.hint
theorem xG{o:Oper}{l:List Oper}{K:AS->Prop}(hg:o.guard=none)(h:Hx N A fun B=>WL P N ops (o::l) B K):WL P N ops (o::l) A K:=by
 simp only[WL,gd,hg]at h ⊢;intro Pb Kb a w F Q hs;obtain⟨B,Pb',N1,F',h1,h2,h3,h4,h5⟩:=h Pb Kb a w F hs;refine Oper.wp_mono (fun a' w' hn=>?_) (h1 Pb' N1 a w F' Q h2);exact Nx.step h3 h4 h5 (F7.refl _ _) hn
theorem OK{c:Code}{Q:Exit->AS->Prop}(h:Vr A B.t)(k:UT A B.h)(hT:T P N c B Q):T P N c A Q:=
 sX (Hx.simple hT fun _ _ _ _ _ hs=>hs.leW h k)
end
end Go.Proofs.YtngholilfbdfkaaGreatDoor