/-
  Words and walks for the laws of pedlar's seat: what each function of the program computes, and that it does; no conditions beyond those that each statement names.
-/
import Derived.Calls
import Derived.Below
import Derived.LoopN
import Derived.Tactics
import Derived.Laws.Sem
import Derived.IntWalk
import Derived.Lib.MinMax
import Derived.Laws.Cells
import Derived.Orders
import Derived.KernelRfl
import Derived.Lib.Strings
import Derived.Great.BuildSlice
import Derived.Laws.Append
import Derived.Laws.BytesString
import Derived.Lib.ConvBytes
set_option linter.unusedVariables false
set_option linter.unusedSimpArgs false
set_option linter.unnecessarySimpa false
set_option linter.unusedSectionVars false
namespace Go
abbrev BL:=List UInt8
theorem Zaa{p:Prop}(h:p:=by first | rfl | simp_all):p:=h
theorem Zab{p:Prop}(h:p:=by first | rfl | exact ⟨rfl, rfl⟩ | simp_all):p:=h
theorem Zac{p:Prop}(h:p:=by omega):p:=h
theorem Zad{p:Prop}(h:p:=by simp):p:=h
theorem Zae{p:Prop}(h:p:=by kernel_rfl):p:=h
theorem Zaf{p:Prop}(h:p:=by decide):p:=h
theorem Zag{p:Prop}(h:p:=by first | assumption | omega | (simp; omega)):p:=h
theorem Zah{p:Prop}(h:p:=by first | rfl | simp | (simp; omega)):p:=h
theorem Zai{p:Prop}(h:p:=by (try simp only [List.length_append, List.length_cons, List.length_nil]); omega):p:=h
theorem Zaj{p:Prop}(h:p:=by (try simp only [List.length_map] at *); omega):p:=h
theorem Zak{p:Prop}(h:p:=by first | (solve | simp) | omega | (simp; omega)):p:=h
theorem Zal{p:Prop}(h:p:=by simp; omega):p:=h
theorem Zam{α:Type _}{l:List α}{i:Nat}{a:α}:l.getD i a=l[i]?.getD a:=List.getD_eq_getElem?_getD ..
theorem Zan{α:Type _}(a b:α):(some a=some b)=(a=b):=Option.some.injEq ..
theorem Zao(a b:Bool):((a&&b)=true)=(a=true/\b=true):=Bool.and_eq_true ..
theorem Zap{α:Type _}{as bs:List α}:(as++bs).length=as.length+bs.length:=List.length_append ..
theorem Zaq{α:Type _}{β:Type _}(a:α)(b:β)(c:α)(d:β):((a,b)=(c,d))=(a=c/\b=d):=Prod.mk.injEq ..
theorem Zar{α:Type _}{a:α}{as:List α}:(a::as).length=as.length+1:=List.length_cons ..
theorem Zas{α β:Type}(a:α)(w:World)(f:α->World->Result β):(Result.ok a w).andThen f=f a w:=Result.andThen_ok ..
theorem Zat{α:Type _}{l:List α}{i:Nat}(h:i<l.length):l[i]?=some l[i]:=List.getElem?_eq_getElem h
theorem Zau{α:Type _}:([]:List α).length=0:=List.length_nil
theorem Zav{α:Type _}{a b:α}:a∈[b]↔a=b:=List.mem_singleton ..
theorem Zaw(n:Nat):0+n=n:=Nat.zero_add ..
theorem Zax{α:Type _}{a:α}{s t:List α}:a∈s++t↔a∈s\/a∈t:=List.mem_append ..
theorem Zay{α:Type _}{β:Type _}{as:List α}(f:α->β):(as.map f).length=as.length:=List.length_map ..
theorem Zaz{α:Type _}{i:Nat}{l:List α}(h:l.length<=i):l.take i=l:=List.take_of_length_le h
theorem Za0{α β:Type}(P:Program)(w:World)(x:Sem α)(f:α->Sem β):(x>>=f).run P w=(x.run P w).andThen fun a w=>(f a).run P w:=Sem.run_bind ..
theorem Za1{α:Type}(P:Program)(w:World)(a:α):(pure a:Sem α).run P w=.ok a w:=Sem.run_pure ..
theorem Za2{α:Type _}{p:α->Bool}{l:List α}:l.all p=true↔∀x,x∈l->p x=true:=List.all_eq_true ..
theorem Za3{α:Type _}{i:Nat}{a:α}{l:List α}:l[i]?=some a↔∃h:i<l.length,l[i]=a:=List.getElem?_eq_some_iff ..
theorem Za4{α:Type _}{l₁ l₂:List α}{i:Nat}:l₁.length<=i->(l₁++l₂)[i]?=l₂[i-l₁.length]?:=List.getElem?_append_right
theorem Za5{α:Type _}{l:List α}:l.length=0->l=[]:=List.eq_nil_of_length_eq_zero
theorem Za6{a b:Bool}:a=b↔(a=true↔b=true):=Bool.eq_iff_iff ..
theorem Za7{α:Type _}{l:List α}{i:Nat}{a:α}(e:l[i]?=some a):a∈l:=List.mem_of_getElem? e
theorem Za8{α:Type _}{as:List α}{i:Nat}(h:as.length<=i):as.drop i=[]:=List.drop_eq_nil_of_le h
theorem Za9{α:Type _}{l₁ l₂:List α}{i:Nat}(hn:i<l₁.length):(l₁++l₂)[i]?=l₁[i]?:=List.getElem?_append_left hn
theorem Zba{α:Type _}:([]:List α).Nodup:=List.nodup_nil
theorem Zbb{α:Type _}{β:Type _}{f:α->β}{l₁ l₂:List α}:(l₁++l₂).map f=l₁.map f++l₂.map f:=List.map_append ..
theorem Zbc(n:Nat):n<=n:=Nat.le_refl ..
theorem Zbd(n:UInt8):n.toNat<2^8:=UInt8.toNat_lt ..
theorem Zbe{α:Type _}{β:Type _}{f:α->β}{a:α}{l:List α}:(a::l).map f=f a::l.map f:=List.map_cons ..
theorem Zbf{α:Type _}{a:α}:[a].length=1:=List.length_singleton ..
theorem Zbg{α:Type _}{a:α}{l:List α}:a∈l↔∃(i:Nat)(h:i<l.length),l[i]=a:=List.mem_iff_getElem ..
theorem Zbh{α:Type _}{i:Nat}{b:α}{xs:Array α}:xs[i]?=some b↔∃h:i<xs.size,xs[i]=b:=Array.getElem?_eq_some_iff ..
theorem Zbi{α:Type _}[BEq α][LawfulBEq α](a:α)(as:List α):as.contains a=decide (a∈as):=List.contains_eq_mem ..
theorem Zbj(n m k:Nat):n+m+k=n+(m+k):=Nat.add_assoc ..
theorem Zbk{p:Prop}[Decidable p]:(decide p=true)=p:=decide_eq_true_eq ..
theorem Zbl{α:Type _}[BEq α][LawfulBEq α]{a b:α}:(a==b)=true↔a=b:=beq_iff_eq ..
theorem Zbm{α:Type _}{β:Type _}{a b:α}(f:α->β)(h:a=b):f a=f b:=congrArg f h
theorem Zbn{p:Prop}(h:p:=by simpa using hi):p:=h
theorem Zbo{p:Prop}(h:p:=by simp[execOp,resolve,invoke,builtin,Builtin.len_,hc,aV hu,goInt]):p:=h
theorem Zbp{p:Prop}(h:p:=by simpa using hj):p:=h
theorem Zbq{p:Prop}(h:p:=by simpa using h):p:=h
theorem Zbr{p:Prop}(h:p:=by have:=(Za3.1 hx).1;omega):p:=h
theorem Zbs{p:Prop}(h:p:=by rw[Zbj];exact Po _ _ (Q6 i u hu)):p:=h
theorem Zbt{p:Prop}(h:p:=by simpa using hx):p:=h
theorem Zbu{p:Prop}(h:p:=by simp only[execOp,ho,Za0,hy,Zas,Za1]):p:=h
theorem Zbv{p:Prop}(h:p:=by simp at hx ⊢;rcases hx with h | h <;> simp[h]):p:=h
theorem Zbw{p:Prop}(h:p:=by simp at c ⊢;rcases c with h | h <;> simp[h]):p:=h
theorem Zbx{p:Prop}(h:p:=by rw[eg];omega):p:=h
theorem Zby{p:Prop}(h:p:=by simpa using hb):p:=h
theorem Zbz{p:Prop}(h:p:=by simpa using h1):p:=h
theorem Zb0{p:Prop}(h:p:=by subst ht;simp[Op.operands,Call.operands]):p:=h
theorem Zb1{p:Prop}(h:p:=by simp[Op.operands,e]):p:=h
theorem Zb2{p:Prop}(h:p:=by simp[Op.operands,Call.operands,hx,e]):p:=h
theorem Zb3{p:Prop}(h:p:=by simpa using e):p:=h
theorem Zb4{p:Prop}(h:p:=by simpa using h2):p:=h
theorem Zb5{p:Prop}(h:p:=by have:=hl z hz;simp only;omega):p:=h
theorem Zb6{p:Prop}(h:p:=by have:=vY (show i<16 from hi);omega):p:=h
theorem Zb7{p:Prop}(h:p:=by rw[yD (by have:i<16:=hi;exact this) (by rw[HF.out];exact Zbl.1 HI.out)];simp):p:=h
theorem Zb8{p:Prop}(h:p:=by have:=Zbd b;omega):p:=h
theorem Zb9{p:Prop}(h:p:=by simp only[lL,decide_eq_false_iff_not];omega):p:=h
theorem Zca{p:Prop}(h:p:=by (try simp only[nb]at hG);first | assumption | omega | (simp;omega)):p:=h
theorem Zcb{p:Prop}(h:p:=by have:=Zbd (s.getD i 0);omega):p:=h
theorem Zcc{p:Prop}(h:p:=by have:=gW (s.getD (i+1) 0);have:=jn (s.getD (i+1) 0);have:=gW (s.getD (i+2) 0);have:=jn (s.getD (i+2) 0);omega):p:=h
theorem Zcd{p:Prop}(h:p:=by rw[Zap];omega):p:=h
theorem Zce{p:Prop}(h:p:=by exact Zbm (V.sl false) (aU (fun _=>rfl) _)):p:=h
theorem Zcf{p:Prop}(h:p:=by exact ak (ae (d:=[]) Zac)):p:=h
theorem Zcg{p:Prop}(h:p:=by simp <;> omega):p:=h
theorem Zch{p:Prop}(h:p:=by simpa using l5):p:=h
theorem Zci{p:Prop}(h:p:=by first | assumption | exact rh _ | simp_all):p:=h
theorem Zcj{p:Prop}(h:p:=by rw[j8];decide):p:=h
theorem Zck{p:Prop}(h:p:=by rw[Zaw];exact ae (d:=0) Zac):p:=h
theorem Zcl{p:Prop}(h:p:=by exact (bE (f:=sV) (fun _=>rfl) _)):p:=h
theorem Zcm{p:Prop}(h:p:=by exact (cw (f:=sV) (fun _=>rfl) _)):p:=h
theorem Zcn{p:Prop}(h:p:=by rw[Zaz Zac]at h3;exact h3):p:=h
theorem Zco{p:Prop}(h:p:=by first | (solve | simp) | (simp;omega)):p:=h
theorem Zcp{p:Prop}(h:p:=by rintro⟨k1,k2⟩;have k3:=Zbm List.length k2;simp only[List.length_drop,Zau]at k3;exact y9 k1 Zac):p:=h
theorem Zcq{p:Prop}(h:p:=by (try simp only[nb]at hG);omega):p:=h
theorem Zcr{p:Prop}(h:p:=by exact ak (ae (d:=(⟨false,[]⟩:s5)) Zac)):p:=h
theorem Zcs{p:Prop}(h:p:=by intro _ k hk;simpa[lk] using hk):p:=h
theorem Zct{p:Prop}(h:p:=by simp[Q];omega):p:=h
theorem Zcu{p:Prop}(h:p:=by exact bb ⟨Zad,Zad⟩):p:=h
theorem Zcv{p:Prop}(h:p:=by exact kb h2 ⟨Zad,Zad,Zad,Zad,Zad,by first | (solve | simp) | (intro x hx;rw[Zav.1 hx];exact ct rfl)⟩):p:=h
theorem Zcw{p:Prop}(h:p:=by exact (pR (dH rfl _) (by simp only;omega) (fun x hx=>(h2 x hx).1) (by first | exact cd rfl RE | simp)).1):p:=h
theorem Zcx{p:Prop}(h:p:=by simp only;omega):p:=h
theorem Zcy{p:Prop}(h:p:=by (try dsimp only);repeat (first | assumption | exact bH | exact ct rfl | exact eL rfl (by assumption) | exact r9.drop (by apply And.right;apply And.right;apply And.right;assumption) _ | (apply And.right;apply And.right;apply And.right;assumption) | apply r9.app)):p:=h
theorem Zcz{p:Prop}(h:p:=by first | omega | (simp;omega)):p:=h
theorem Zc0{p:Prop}(h:p:=by (try simp only[Zap,Zar,Zau]);(try have:=cd (n:=11) rfl D8);omega):p:=h
theorem Zc1{p:Prop}(h:p:=by simp only[Zap,Zar,Zau];omega):p:=h
theorem Zc2{p:Prop}(h:p:=by exact ak (ae (d:=s8) Zac)):p:=h
theorem Zc3{p:Prop}(h:p:=by exact ak (ae (d:=(⟨[],[],0⟩:l9)) Zac)):p:=h
theorem Zc4{p:Prop}(h:p:=by (try have:=ij (gs:=gs) hg i k);(try have:=hZ (gs:=gs) hg i k);(try simp only[Zap,Zar,Zau]);omega):p:=h
theorem Zc5{p:Prop}(h:p:=by (try dsimp only);repeat (first | assumption | exact bH | exact ct rfl | exact tZ hg _ _ | exact tc hg _ _ | exact pn _ | apply r9.app)):p:=h
theorem Zc6{p:Prop}(h:p:=by (try have:=dH (l:=bn) (n:=3) rfl i);(try simp only[Zap,Zar,Zau]);omega):p:=h
theorem Zc7{p:Prop}(h:p:=by (try dsimp only);repeat (first | assumption | exact J6.2.2.2 | exact L0.2.2.2 | exact K8.2.2.2 | exact bH | exact ct rfl | exact Pj.2 | exact K9.2.2.2 | exact fe rfl i | apply r9.app)):p:=h
theorem Zc8{p:Prop}(h:p:=by simp only[Zay];omega):p:=h
theorem Zc9{p:Prop}(h:p:=by first | exact Ws.2.2.2 | (rename_i hq;exact hq.2.2.2) | (apply And.right;apply And.right;apply And.right;assumption)):p:=h
theorem Zda{p:Prop}(h:p:=by simpa using j8):p:=h
theorem Zdb{p:Prop}(h:p:=by simpa using m8):p:=h
theorem Zdc{p:Prop}(h:p:=by exact aQ (aG) rfl):p:=h
theorem Zdd{p:Prop}(h:p:=by exact bG (aG) (bU)):p:=h
theorem Zde{p:Prop}(h:p:=by exact (Zbm iV (by rw[hz];simp))):p:=h
theorem Zdf{p:Prop}(h:p:=by exact aQ (by rw[Zaw];exact aG) rfl):p:=h
theorem Zdg{p:Prop}(h:p:=by exact bG (by rw[Zaw];exact aG) (by rw[Zaw];exact bU)):p:=h
theorem Zdh{p:Prop}(h:p:=by exact Zbm (V.own 3 · g0 o0 c0) (by rw[Zbb (f:=aM)];rfl)):p:=h
theorem Zdi{p:Prop}(h:p:=by exact (bE (f:=av) (fun _=>rfl) _)):p:=h
theorem Zdj{p:Prop}(h:p:=by exact (cw (f:=av) (fun _=>rfl) _)):p:=h
theorem Zdk{p:Prop}(h:p:=by first | (rw[Za6];simp;omega) | (rw[Za6];simp)):p:=h
theorem Zdl{p:Prop}(h:p:=by exact bh h2 (by simpa using m8)):p:=h
theorem Zdm{p:Prop}(h:p:=by first | (rw[Za6];simp_all;done) | grind):p:=h
theorem Zdn{p:Prop}(h:p:=by first | (refine Zbm iV ?_;simp;done) | (refine Zbm iV ?_;omega)):p:=h
theorem Zdo{p:Prop}(h:p:=by exact iu (by rw[Zaw];exact ae (d:=false) Zac)):p:=h
theorem Zdp{p:Prop}(h:p:=by exact oL (by rw[Zaw];exact ae (d:=false) Zac) (by rw[Zaw];exact(List.map_set ..).symm)):p:=h
theorem Zdq{p:Prop}(h:p:=by intro i h;cases h):p:=h
theorem Zdr{p:Prop}(h:p:=by exact XZ (Zbm (V.own 3 · gr fr cr) (by rw[hz,Zbb];rfl))):p:=h
theorem Zds{p:Prop}(h:p:=by unfold Q;refine Zbm iV ?_;simp):p:=h
theorem Zdt{p:Prop}(h:p:=by exact gC.trans (aQ (by rw[Zaw];exact aG) rfl)):p:=h
theorem Zdu{p:Prop}(h:p:=by exact qb (bG (by rw[Zaw];exact aG) (by rw[Zaw];exact bU))):p:=h
theorem Zdv{p:Prop}(h:p:=by exact XZ (Zbm (V.own 3 · gr fr cr) (by rw[Zbb (f:=aM)];rfl))):p:=h
theorem Zdw{p:Prop}(h:p:=by exact bh h2 (by simpa using l5)):p:=h
theorem Zdx{p:Prop}(h:p:=by first | rfl | exact Zbm iV Zac):p:=h
theorem Zdy{p:Prop}(h:p:=by unfold Q;refine Zbm (V.sl false) ?_;rw[List.map_take,show (max (((a.h9.map sV).length:Int)-1) 0).toNat=a.h9.length-1 from Zal];rfl):p:=h
theorem Zdz{p:Prop}(h:p:=by have:=List.length_pos_iff.2 m8;omega):p:=h
theorem Zd0{p:Prop}(h:p:=by simp only[List.length_take];omega):p:=h
theorem Zd1{p:Prop}(h:p:=by first | exact oh l5 m8 | exact ox l5 m8 | exact oy l5):p:=h
theorem Zd2{p:Prop}(h:p:=by (try simp only[nb]at hG);exact⟨Zac,ae (d:=[]) Zac⟩):p:=h
theorem Zd3{p:Prop}(h:p:=by rw[h2,Zay,List.length_take];omega):p:=h
theorem Zd4{p:Prop}(h:p:=by exact (aZ (f:=2) rfl).trans (aQ (by rw[Zaw];exact ae (d:=e9) Zac) rfl)):p:=h
theorem Zd5{p:Prop}(h:p:=by exact (aZ (f:=2) rfl).trans (aQ (ae (d:=e9) Zac) rfl)):p:=h
theorem Zd6{p:Prop}(h:p:=by exact F9 (Zbm (V.own 8 · g o c) (eO (d:=e9) Zac))):p:=h
theorem Zd7{p:Prop}(h:p:=by first | rfl | (exfalso;omega) | (simp only[Zaw]) | (simp;omega)):p:=h
theorem Zd8{p:Prop}(h:p:=by rw[List.take_append_drop];exact hf):p:=h
theorem Zd9{p:Prop}(h:p:=by exact (aZ (f:=2) rfl).trans (aQ (cR Zac) ((aZ (f:=5) rfl).trans (aQ (by rw[Zaw];exact ae (d:=j7) Zac) rfl)))):p:=h
theorem Zea{p:Prop}(h:p:=by exact bE (f:=aj) (fun _=>rfl) _):p:=h
theorem Zeb{p:Prop}(h:p:=by have:=hy.ta _ (aD (d:=j7) hne);omega):p:=h
theorem Zec{p:Prop}(h:p:=by exact az (ae (d:=[]) Zac)):p:=h
theorem Zed{p:Prop}(h:p:=by rw[h2];have:=Rt.h;have:=Rt.s;omega):p:=h
theorem Zee{p:Prop}(h:p:=by (try simp only[Zap,Zay,Zar,Zau]);(try have:=ZP);omega):p:=h
theorem Zef{p:Prop}(h:p:=by (try simp only[Zay]at *);try simp only[Zap,Zar,Zay,List.length_take,List.length_drop,Zau]at *;omega):p:=h
theorem Zeg{p:Prop}(h:p:=by obtain⟨a,b,c,d⟩:=h.it x hx;exact⟨a,b,List.mem_append_left _ c,d⟩):p:=h
theorem Zeh{p:Prop}(h:p:=by rw[show (x5 w (t.hs.getD (o9 t) e9) (A6 t)).kn=(t.hs.getD (o9 t) e9).kn from rfl,hk]at q;cases q):p:=h
theorem Zei{p:Prop}(h:p:=by have:=(h2.2 y hy).1;omega):p:=h
theorem Zej{p:Prop}(h:p:=by rw[(h2.2 y hy).2];simp):p:=h
theorem Zek{p:Prop}(h:p:=by rw[List.length_set];omega):p:=h
theorem Zel{p:Prop}(h:p:=by have:zs.length<=800:=h.h;omega):p:=h
theorem Zem{p:Prop}(h:p:=by exact az (ae (d:=j7) Zac)):p:=h
theorem Zen{p:Prop}(h:p:=by exact az (ae (d:=e9) Zac)):p:=h
theorem Zeo{p:Prop}(h:p:=by exact az (ae (d:=(⟨false,[]⟩:s5)) Zac)):p:=h
theorem Zep{p:Prop}(h:p:=by exact az (ae (d:=u0) Zac)):p:=h
theorem Zeq{p:Prop}(h:p:=by exact O3 (F9 (Zbm (V.own 8 · g o c) (eO (d:=e9) Zac)))):p:=h
theorem Zer{p:Prop}(h:p:=by rw[Zaw];exact cR Zac):p:=h
theorem Zes{p:Prop}(h:p:=by (try simp only[nb]at hG);exact(aZ (f:=1) rfl).trans ((aZ (f:=2) rfl).trans (aQ (by rw[Zaw];exact yO (d:=e9) Zac Zac) rfl))):p:=h
theorem Zet{p:Prop}(h:p:=by exact⟨Zac,ae (d:=(0:Int)) (by simp only[Zar,Zau];omega)⟩):p:=h
theorem Zeu{p:Prop}(h:p:=by first | omega | (have:=lb (k+1);omega)):p:=h
theorem Zev{p:Prop}(h:p:=by exact O3 (F9 (Zbm (V.own 8 · g o c) (dg (f:=ah) (x:=({ (zs.getD ix e9) with re:=b6+(max (((zs.getD ix e9).gr.wa:Nat):Int) 1) }:j9)) Zac)))):p:=h
theorem Zew{p:Prop}(h:p:=by (try simp only[nb]at hG);exact(aZ (f:=1) rfl).trans ((aZ (f:=2) rfl).trans (aQ (by rw[Zaw];exact cR Zac) ((aZ (f:=5) rfl).trans (aQ (by rw[Zaw];exact ae (d:=j7) (by simp only[Zay]at *;omega)) rfl))))):p:=h
theorem Zex{p:Prop}(h:p:=by (try simp only[Zay]);omega):p:=h
theorem Zey{p:Prop}(h:p:=by exact O3 (F9 (Zbm (V.own 8 · g o c) (dg (f:=ah) (x:=y) Zac)))):p:=h
theorem Zez{p:Prop}(h:p:=by exact (aZ (f:=1) rfl).trans ((aZ (f:=2) rfl).trans (aQ (by rw[Zaw];exact ae (d:=e9) Zac) rfl))):p:=h
theorem Ze0{p:Prop}(h:p:=by exact O3 (F9 (Zbm (V.own 8 · g2 o2 c2) (dg (f:=ah) (x:=({ (w8 w (zs.getD ix e9) b6) with tr:=(zs.getD ix e9).tr+1 }:j9)) Zac)))):p:=h
theorem Ze1{p:Prop}(h:p:=by have:=rZ (w:=w) (a:=aB (zs.getD ix e9).na) (k:=(zs.getD ix e9).tr) (m:=300) (fun i=>⟨(hz i).t,by have:=(hz i).l;omega⟩);omega):p:=h
theorem Ze2{p:Prop}(h:p:=by have:=oj (af w (aB (zs.getD ix e9).na) (zs.getD ix e9).tr).1 (af w (aB (zs.getD ix e9).na) (zs.getD ix e9).tr).2 n;omega):p:=h
theorem Ze3{p:Prop}(h:p:=by rw[h2];exact Nat.le_trans (List.length_filter_le ..) (by rw[List.length_take];omega)):p:=h
theorem Ze4{p:Prop}(h:p:=by exact (aZ (f:=1) rfl).trans ((aZ (f:=2) rfl).trans (aQ (by rw[Zaw];exact cR Zac) ((aZ (f:=5) rfl).trans (aQ (by rw[Zaw];exact ae (d:=j7) Zac) rfl))))):p:=h
theorem Ze5{p:Prop}(h:p:=by have:=(mq (af w (aB (zs.getD ix e9).na) (zs.getD ix e9).tr).1 (af w (aB (zs.getD ix e9).na) (zs.getD ix e9).tr).2 n).2 r hr;omega):p:=h
theorem Ze6{p:Prop}(h:p:=by rw[xx YM Zac m8,<- h2]):p:=h
theorem Ze7{p:Prop}(h:p:=by rw[wu Zac m8];exact h2):p:=h
theorem Ze8{p:Prop}(h:p:=by exact O3 (F9 (Zbm (V.own 8 · g2 o2 c2) (dg (f:=ah) (x:=({ (w8 w (zs.getD ix e9) b6) with kn:=true,gr:=(⟨[n],(cq (af w (aB (zs.getD ix e9).na) (zs.getD ix e9).tr).1 (af w (aB (zs.getD ix e9).na) (zs.getD ix e9).tr).2 n).ru,(cq (af w (aB (zs.getD ix e9).na) (zs.getD ix e9).tr).1 (af w (aB (zs.getD ix e9).na) (zs.getD ix e9).tr).2 n).wa⟩:l9),re:=max (w8 w (zs.getD ix e9) b6).re (b6+((cq (af w (aB (zs.getD ix e9).na) (zs.getD ix e9).tr).1 (af w (aB (zs.getD ix e9).na) (zs.getD ix e9).tr).2 n).wa:Int)),td:=e }:j9)) Zac)))):p:=h
theorem Ze9{p:Prop}(h:p:=by exact bM ⟨bE (f:=aj) (fun _=>rfl) _,cw (f:=aj) (fun _=>rfl) _,by rw[<- List.map_drop,<- List.map_take];exact bE (f:=aj) (fun _=>rfl) _,by rw[<- List.map_drop,<- List.map_take];exact cw (f:=aj) (fun _=>rfl) _,aK⟩):p:=h
theorem Zfa{p:Prop}(h:p:=by exact Zbm (V.own 2 · H6.1 H6.2.1 H6.2.2) ((show (((((zs.getD ix e9).td).map aj).drop (0+1)).take (((((zs.getD ix e9).td).map aj).length)-1):List V)=((zs.getD ix e9).td.drop 1).map aj by rw[List.map_drop,Zaz Zad]))):p:=h
theorem Zfb{p:Prop}(h:p:=by exact O3 (F9 (Zbm (V.own 8 · g o c) (dg (f:=ah) (x:=({ (zs.getD ix e9) with td:=(zs.getD ix e9).td.drop 1 }:j9)) Zac)))):p:=h
theorem Zfc{p:Prop}(h:p:=by exact O3 (F9 (Zbm (V.own 8 · g2 o2 c2) (dg (f:=ah) (x:=({ (x5 w (zs.getD ix e9) b6) with td:=(zs.getD ix e9).td.drop 1++[(⟨((zs.getD ix e9).td.getD 0 j7).ad,((zs.getD ix e9).td.getD 0 j7).tr+1⟩:r7)] }:j9)) Zac)))):p:=h
theorem Zfd{p:Prop}(h:p:=by exact O3 (F9 (Zbm (V.own 8 · g2 o2 c2) (dg (f:=ah) (x:=(x5 w (zs.getD ix e9) b6)) Zac)))):p:=h
theorem Zfe{p:Prop}(h:p:=by have:=qR Vx hz s (List.mem_of_mem_take hs);exact⟨this.1,this.2.1,this.2.2.1⟩):p:=h
theorem Zff{p:Prop}(h:p:=by rw[h2]at hy;have q:=Rt.ha y hy;have hts1:=Rt.s;exact⟨by have:=q.t;omega,q.r,q.rp⟩):p:=h
theorem Zfg{p:Prop}(h:p:=by show _=bz (((bc ((zs.getD ix e9).td.getD 0 j7).ad (af w ((zs.getD ix e9).td.getD 0 j7).ad ((zs.getD ix e9).td.getD 0 j7).tr).1 (af w ((zs.getD ix e9).td.getD 0 j7).ad ((zs.getD ix e9).td.getD 0 j7).tr).2).take i).foldl aq (⟨n,b6,zs.set ix (x5 w (zs.getD ix e9) b6),se,ls++[(⟨b6,((zs.getD ix e9).td.getD 0 j7).ad,(af w ((zs.getD ix e9).td.getD 0 j7).ad ((zs.getD ix e9).td.getD 0 j7).tr).1⟩:o4)]⟩:l4)).na (((bc ((zs.getD ix e9).td.getD 0 j7).ad (af w ((zs.getD ix e9).td.getD 0 j7).ad ((zs.getD ix e9).td.getD 0 j7).tr).1 (af w ((zs.getD ix e9).td.getD 0 j7).ad ((zs.getD ix e9).td.getD 0 j7).tr).2).take i).foldl aq (⟨n,b6,zs.set ix (x5 w (zs.getD ix e9) b6),se,ls++[(⟨b6,((zs.getD ix e9).td.getD 0 j7).ad,(af w ((zs.getD ix e9).td.getD 0 j7).ad ((zs.getD ix e9).td.getD 0 j7).tr).1⟩:o4)]⟩:l4)).hs (((bc ((zs.getD ix e9).td.getD 0 j7).ad (af w ((zs.getD ix e9).td.getD 0 j7).ad ((zs.getD ix e9).td.getD 0 j7).tr).1 (af w ((zs.getD ix e9).td.getD 0 j7).ad ((zs.getD ix e9).td.getD 0 j7).tr).2).take i).foldl aq (⟨n,b6,zs.set ix (x5 w (zs.getD ix e9) b6),se,ls++[(⟨b6,((zs.getD ix e9).td.getD 0 j7).ad,(af w ((zs.getD ix e9).td.getD 0 j7).ad ((zs.getD ix e9).td.getD 0 j7).tr).1⟩:o4)]⟩:l4)).se _;rw[hq.1]):p:=h
theorem Zfh{p:Prop}(h:p:=by (try simp only[nb]at hG);exact(aZ (f:=1) rfl).trans ((aZ (f:=2) rfl).trans (aQ (by rw[Zaw];exact ae (d:=e9) Zac) rfl))):p:=h
theorem Zfi{p:Prop}(h:p:=by exact (Zbm iV (by rw[S1.1];exact(Int.toNat_of_nonneg j8.1.1).symm))):p:=h
theorem Zfj{p:Prop}(h:p:=by exact bq ⟨TE,hz,hw,Vx,List.length_pos_iff.2 Q1.2.1,⟨ht.t0.s,ht.t0.h,ht.t0.sa,ht.t0.ha⟩,YL,Zb,hk.si⟩):p:=h
theorem Zfk{p:Prop}(h:p:=by (try simp only[nb]at hG);rw[he]):p:=h
theorem Zfl{p:Prop}(h:p:=by exact az fun i=>by have:=hz i;exact⟨by have:=this.a;omega,by have:=this.l;omega⟩):p:=h
theorem Zfm{p:Prop}(h:p:=by exact bj fun _ _ _ _ _ _ _ _ _=>by kernel_rfl):p:=h
theorem Zfn{p:Prop}(h:p:=by have:=iB j8.1.1 hz i (lY ht hh j8.1.2);rw[<- fX w i t];exact this):p:=h
theorem Zfo{p:Prop}(h:p:=by have:=(TK.of (fS (w:=w) i j8.1.2)).1;rw[<- fX w i t];exact this):p:=h
theorem Zfp{p:Prop}(h:p:=by have:=(G0.2.1 x hx).1;omega):p:=h
theorem Zfq{p:Prop}(h:p:=by rw[gG,aU (f:=sV) (fun _=>rfl),aU (f:=aE) (fun _=>rfl)]):p:=h
theorem Zfr{p:Prop}(h:p:=by exact qp Zac Zac (fun x hx=>⟨by have:=(G0.2.1 x hx).1;omega,(G0.2.1 x hx).2⟩)):p:=h
theorem Zfs{p:Prop}(h:p:=by exact F9 (Zbm (V.own 8 · g2 o2 c2) (eO (d:=e9) Zac))):p:=h
theorem Zft{p:Prop}(h:p:=by exact F9 (Zbm (V.own 8 · g2 o2 c2) (dg (f:=ah) (x:=({ (b7.1.2.hs.getD 0 e9) with re:=(([-1,5101,7]:List Int).getD I0 0) }:j9)) Zac))):p:=h
theorem Zfu{p:Prop}(h:p:=by exact F9 (Zbm (V.own 8 · g2 o2 c2) (dg (f:=ah) (x:=({ (b7.1.2.hs.getD 0 e9) with tr:=(D3:Int)-1 }:j9)) Zac))):p:=h
theorem Zfv{p:Prop}(h:p:=by exact iY (by(try simp only[Zap,Zay,Zar,Zau]);(try have Zk:=o8.2.2.1.e);(try have Zj:=o8.2.2.1.l);omega)):p:=h
theorem Zfw{p:Prop}(h:p:=by (try simp only[Zap,Zay,Zar,Zau]);(try have Zk:=o8.2.2.1.e);(try have Zj:=o8.2.2.1.l);omega):p:=h
theorem Zfx{p:Prop}(h:p:=by exact F9 (Zbm (V.own 8 · g2 o2 c2) (dg (f:=ah) (x:=({ (b7.1.2.hs.getD 0 e9) with na:=E' }:j9)) Zac))):p:=h
theorem Zfy{p:Prop}(h:p:=by have:=C3.2.2.2;omega):p:=h
theorem Zfz{p:Prop}(h:p:=by exact F9 (Zbm (V.own 8 · g2 o2 c2) (dg (f:=ah) (x:=({ (b7.1.2.hs.getD 0 e9) with td:=((b7.1.2.hs.getD 0 e9).td)++[(⟨x7.1,(D5:Int)⟩:r7)] }:j9)) Zac))):p:=h
end Go
namespace Go.Proofs.YtngholilfbdfkabGreatDoor
open Go Go.RowKit
set_option maxRecDepth 20000
inductive m7 where
 | slot (i:Nat)
 | key (k:Nat)
 deriving DecidableEq
inductive V where
 | lit (x:Value)
 | agg (vs:List V)
 | tup (vs:List V)
 | sl (full:Bool) (xs:List V)
 | own (sz:Nat) (xs:List V) (g o c:Nat)
 | ow (sz:Nat) (xs:List V)
 | om (es:List (BL×Value)) (g:Nat)
 | mp (es:List (BL×Value))
 | hd (r:m7) (p:List Nat) (sz g o lo n c:Nat)
 | ptr (r:m7) (p:List Nat) (g o:Nat)
 | ep (v:V)
 | c9
 | gv (b:Bool) (v:V)
mutual
def V.n:V->Nat
 | .agg vs=>V.ns vs
 | _=>1
def V.ns:List V->Nat
 | []=>0
 | v::vs=>v.n+V.ns vs
end
def aW(sz:Nat)(xs:List V):Prop:= ∀ x∈xs,x.n=sz
def Blk(w:World)(g:Nat)(cells:Array Value):Prop:=
 ∃ e fr,w.heap[g]? =some (.cells cells e fr)/\∀ i,i<cells.size->¬ (fr.1<=i/\i<fr.2)
def xE(w:World)(g:Nat)(es:List (BL×Value)):Prop:=
 ∃ en cl,w.heap[g]? =some (.map en cl)/\en.toList.map (fun e=>(e.key,e.val))=es.map (fun p=>(.string ⟨p.1.toArray⟩,p.2))/\(en.toList.map (·.born)).Nodup/\∀ e∈en.toList,e.born<cl
mutual
def R(w:World)(Pb:Nat->Prop):V->List Value->List Nat->Prop
 | .lit x,cs,F=>x.oneCell'=true/\cs=[x]/\F=[]
 | .agg vs,cs,F=>RL w Pb vs cs F
 | .tup _,_,_=>False
 | .gv _ _,_,_=>False
 | .sl full xs,cs,F=>F=[]/\∃ A c,cs=[.slice A xs.length c]/\xs.length<=c/\(full=true->c=xs.length)/\
  (xs=[]\/∃ b o sz flat,A=some ⟨b,o,none⟩/\Pb b/\0<sz/\aW sz xs/\RL w Pb xs flat []/\
   ∀ j u,flat[j]? =some u->w.cell? ⟨b,o+j,none⟩=some u)
 | .own sz xs g o c,cs,F=>(c=0/\xs=[]/\F=[]/\∃ A,cs=[.slice A 0 0])\/
  (0<c/\0<sz/\xs.length<=c/\cs=[.slice (some ⟨g,o,none⟩) xs.length c]/\aW sz xs/\¬ Pb g/\
   ∃ flat F' cells,F=g::F'/\RL w Pb xs flat F'/\Blk w g cells/\o+c*sz<=cells.size/\
     ∀ j u,flat[j]? =some u->cells[o+j]? =some u)
 | .ow sz xs,cs,F=> ∃ g o c,(c=0/\xs=[]/\F=[]/\∃ A,cs=[.slice A 0 0])\/
  (0<c/\0<sz/\xs.length<=c/\cs=[.slice (some ⟨g,o,none⟩) xs.length c]/\aW sz xs/\¬ Pb g/\
   ∃ flat F' cells,F=g::F'/\RL w Pb xs flat F'/\Blk w g cells/\o+c*sz<=cells.size/\
     ∀ j u,flat[j]? =some u->cells[o+j]? =some u)
 | .om es g,cs,F=>F=[g]/\cs=[.map (some g)]/\¬ Pb g/\xE w g es
 | .mp es,cs,F=>F=[]/\∃ g,cs=[.map (some g)]/\Pb g/\xE w g es
 | .hd _ _ sz g o lo n c,cs,F=>F=[]/\n<=c/\∃ A,cs=[.slice A n c]/\(0<c->A=some ⟨g,o+lo*sz,none⟩)
 | .ptr _ _ g o,cs,F=>F=[]/\cs=[.pointer (some ⟨g,o,none⟩)]
 | .ep v,cs,F=>F=[]/\∃ b o flat,cs=[.pointer (some ⟨b,o,none⟩)]/\Pb b/\R w Pb v flat []/\
  ∀ j u,flat[j]? =some u->w.cell? ⟨b,o+j,none⟩=some u
 | .c9,cs,F=>F=[]/\∃ x,cs=[x]/\x.oneCell'=true
def RL(w:World)(Pb:Nat->Prop):List V->List Value->List Nat->Prop
 | [],cs,F=>cs=[]/\F=[]
 | v::vs,cs,F=> ∃ c1 c2 F1 F2,cs=c1++c2/\F=F1++F2/\R w Pb v c1 F1/\RL w Pb vs c2 F2
end
section
variable {w w':World} {Pb Pb':Nat->Prop}
theorem Is{sz:Nat}{xs:List V}{cs:List Value}{F:List Nat}:R w Pb (.ow sz xs) cs F↔∃ g o c,R w Pb (.own sz xs g o c) cs F:=by simp only[R]
theorem xE.fC{g:Nat}{es:List (BL×Value)}(h:xE w g es)(k:w'.heap[g]? =w.heap[g]?):xE w' g es:=by
 obtain⟨en,cl,h1,h2⟩:=h;exact⟨en,cl,k.trans h1,h2⟩
mutual
theorem eX:∀ (v:V) {cs F},R w Pb v cs F->cs.length=v.n
 | .lit x,cs,F,h=>by obtain⟨_,rfl,_⟩:=h;rfl
 | .agg vs,cs,F,h=>by simp only[R]at h;simpa[V.n] using jK vs h
 | .tup _,_,_,h=>by simp[R]at h
 | .gv _ _,_,_,h=>by simp[R]at h
 | .sl _ xs,cs,F,h=>by obtain⟨_,A,c,rfl,_⟩:=h;rfl
 | .own sz xs g o c,cs,F,h=>by
  rcases h with ⟨_,_,_,A,rfl⟩ | ⟨_,_,_,rfl,_⟩ <;> rfl
 | .ow sz xs,cs,F,h=>by
  obtain⟨g,o,c,h⟩:=h;rcases h with ⟨_,_,_,A,rfl⟩ | ⟨_,_,_,rfl,_⟩ <;> rfl
 | .om ..,cs,F,h=>by obtain⟨_,rfl,_⟩:=h;rfl
 | .mp _,cs,F,h=>by obtain⟨_,g,rfl,_⟩:=h;rfl
 | .hd ..,cs,F,h=>by obtain⟨_,_,A,rfl,_⟩:=h;rfl
 | .ptr ..,cs,F,h=>by obtain⟨_,rfl⟩:=h;rfl
 | .ep v,cs,F,h=>by obtain⟨_,b,o,flat,rfl,_⟩:=h;rfl
 | .c9,cs,F,h=>by obtain⟨_,x,rfl,_⟩:=h;rfl
theorem jK:∀ (vs:List V) {cs F},RL w Pb vs cs F->cs.length=V.ns vs
 | [],cs,F,h=>by obtain⟨rfl,_⟩:=h;rfl
 | v::vs,cs,F,h=>by
     obtain⟨c1,c2,F1,F2,rfl,_,h1,h2⟩:=h;simp[V.ns,eX v h1,jK vs h2]
end
mutual
theorem hY:∀ (v:V) {cs F},R w Pb v cs F->(∀ g,Pb g->w'.heap[g]? =w.heap[g]?)->(∀ g,g∈F->w'.heap[g]? =w.heap[g]?)->
 (∀ g,Pb g->Pb' g)->(∀ g,g∈F->¬ Pb' g)->R w' Pb' v cs F
 | .lit x,cs,F,h,_,_,_,_=>h
 | .agg vs,cs,F,h,k1,k2,k3,k4=>by simp only[R]at h ⊢;exact eZ vs h k1 k2 k3 k4
 | .tup _,_,_,h,_,_,_,_=>by simp[R]at h
 | .gv _ _,_,_,h,_,_,_,_=>by simp[R]at h
 | .sl full xs,cs,F,h,k1,_,k3,_=>by
  obtain⟨hF,A,c,hc,hl,hf,hx⟩:=h;refine⟨hF,A,c,hc,hl,hf,?_⟩;rcases hx with hx | ⟨b,o,sz,flat,hA,hb,hs,hn,hr,w9⟩;exact .inl hx;exact .inr ⟨b,o,sz,flat,hA,k3 b hb,hs,hn,eZ xs hr k1 Zad k3 Zad,fun j u hu=>by
   rw[<- w9 j u hu];exact World.cell?_of_block (w:=w) (k1 b hb)⟩
 | .own sz xs g o c,cs,F,h,k1,k2,k3,k4=>by
  rcases h with h | ⟨h1,h2,h3,h4,h5,h6,flat,F',cells,hF,hr,⟨e,fr,hb,hfr⟩,hsz,w9⟩;exact .inl h;subst hF
  exact .inr ⟨h1,h2,h3,h4,h5,k4 g Zad,flat,F',cells,rfl,eZ xs hr k1 (fun g hg=>k2 g (by simp[hg])) k3 (fun g hg=>k4 g (by simp[hg])),
   ⟨e,fr,(k2 g Zad).trans hb,hfr⟩,hsz,w9⟩
 | .ow sz xs,cs,F,h,k1,k2,k3,k4=>by
  obtain⟨g,o,c,h⟩:=h;refine⟨g,o,c,?_⟩;rcases h with h | ⟨h1,h2,h3,h4,h5,h6,flat,F',cells,hF,hr,⟨e,fr,hb,hfr⟩,hsz,w9⟩;exact .inl h;subst hF
  exact .inr ⟨h1,h2,h3,h4,h5,k4 g Zad,flat,F',cells,rfl,eZ xs hr k1 (fun g hg=>k2 g (by simp[hg])) k3 (fun g hg=>k4 g (by simp[hg])),
   ⟨e,fr,(k2 g Zad).trans hb,hfr⟩,hsz,w9⟩
 | .om es g,cs,F,h,_,k2,_,k4=>by
  obtain⟨rfl,h1,h2,h3⟩:=h;exact⟨rfl,h1,k4 g Zad,h3.fC (k2 g Zad)⟩
 | .mp es,cs,F,h,k1,_,k3,_=>by
  obtain⟨h0,g,h1,h2,h3⟩:=h;exact⟨h0,g,h1,k3 g h2,h3.fC (k1 g h2)⟩
 | .hd ..,cs,F,h,_,_,_,_=>h
 | .ptr ..,cs,F,h,_,_,_,_=>h
 | .ep v,cs,F,h,k1,_,k3,_=>by
  obtain⟨hF,b,o,flat,hc,hb,hr,w9⟩:=h;exact⟨hF,b,o,flat,hc,k3 b hb,hY v hr k1 Zad k3 Zad,fun j u hu=>by
   rw[<- w9 j u hu];exact World.cell?_of_block (w:=w) (k1 b hb)⟩
 | .c9,cs,F,h,_,_,_,_=>h
theorem eZ:∀ (vs:List V) {cs F},RL w Pb vs cs F->(∀ g,Pb g->w'.heap[g]? =w.heap[g]?)->(∀ g,g∈F->w'.heap[g]? =w.heap[g]?)->
 (∀ g,Pb g->Pb' g)->(∀ g,g∈F->¬ Pb' g)->RL w' Pb' vs cs F
 | [],cs,F,h,_,_,_,_=>h
 | v::vs,cs,F,h,k1,k2,k3,k4=>by
     obtain⟨c1,c2,F1,F2,hc,rfl,h1,h2⟩:=h
     exact⟨c1,c2,F1,F2,hc,rfl,hY v h1 k1 (fun g hg=>k2 g (by simp[hg])) k3 (fun g hg=>k4 g (by simp[hg])),
      eZ vs h2 k1 (fun g hg=>k2 g (by simp[hg])) k3 (fun g hg=>k4 g (by simp[hg]))⟩
end
end
structure AS where
 t:List (Nat×V)
 h:List (Nat×(Nat×V))
def lk{α:Type}(i:Nat):List (Nat×α)->Option α
 | []=>none
 | (k,v)::r=>if i=k then some v else lk i r
def AS.get(A:AS)(i:Nat):V:=(lk i A.t).getD .c9
def AS.put(A:AS)(d:Option Nat)(v:V):AS:=match d with | some d=>{ A with t:=(d,v)::A.t } | none=>A
theorem AS.aO(A:AS)(d i:Nat)(v:V):(A.put (some d) v).get i=if i=d then v else A.get i:=by
 simp only[AS.get,AS.put,lk];split <;> rfl
def RVs(w:World)(Pb:Nat->Prop):List V->List Value->List Nat->Prop
 | [],xs,F=>xs=[]/\F=[]
 | v::vs,xs,F=> ∃ x xs' F1 F2,xs=x::xs'/\F=F1++F2/\(match v with
     | .agg us=> ∃ cs,x=.agg cs/\RL w Pb us cs.toList F1
     | .c9=>F1=[]
     | v=>R w Pb v [x] F1)/\RVs w Pb vs xs' F2
def W6(w:World)(Pb:Nat->Prop)(v:V)(x:Value)(F:List Nat):Prop:=
 match v with
 | .tup vs=> ∃ xs:Array Value,x=.tuple xs/\RVs w Pb vs xs.toList F
 | .agg us=> ∃ cs,x=.agg cs/\RL w Pb us cs.toList F
 | .c9=>F=[]
 | v=>R w Pb v [x] F
def RV(w:World)(Pb:Nat->Prop)(v:V)(x:Value)(F:List Nat):Prop:=
 match v with
 | .gv b u=>F=[]/\(b=true->W6 w Pb u x [])/\(b=false->x=undef)
 | v=>W6 w Pb v x F
theorem vS{w w':World}{Pb Pb':Nat->Prop}:∀ (vs:List V) {xs F},RVs w Pb vs xs F->(∀ g,Pb g->w'.heap[g]? =w.heap[g]?)->(∀ g,g∈F->w'.heap[g]? =w.heap[g]?)->
 (∀ g,Pb g->Pb' g)->(∀ g,g∈F->¬ Pb' g)->RVs w' Pb' vs xs F
 | [],_,_,h,_,_,_,_=>h
 | v::vs,xs,F,h,k1,k2,k3,k4=>by
   obtain⟨x,xs',F1,F2,hx,rfl,h1,h2⟩:=h;refine⟨x,xs',F1,F2,hx,rfl,?_,vS vs h2 k1 (fun g hg=>k2 g (by simp[hg])) k3 (fun g hg=>k4 g (by simp[hg]))⟩;cases v with
   | agg us=>obtain⟨cs,e,h1⟩:=h1;exact⟨cs,e,eZ us h1 k1 (fun g hg=>k2 g (by simp[hg])) k3 (fun g hg=>k4 g (by simp[hg]))⟩
   | c9=>exact h1
   | _=>exact hY _ h1 k1 (fun g hg=>k2 g (by simp[hg])) k3 (fun g hg=>k4 g (by simp[hg]))
theorem fU{w w':World} {Pb Pb':Nat->Prop} (v:V) {x F} (h:W6 w Pb v x F) (k1:∀ g,Pb g->w'.heap[g]? =w.heap[g]?) (k2:∀ g,g∈F->w'.heap[g]? =w.heap[g]?)
 (k3:∀ g,Pb g->Pb' g) (k4:∀ g,g∈F->¬ Pb' g):W6 w' Pb' v x F:=by
 cases v with
 | tup vs=>obtain⟨xs,e,h⟩:=h;exact⟨xs,e,vS vs h k1 k2 k3 k4⟩
 | agg us=>obtain⟨cs,e,h⟩:=h;exact⟨cs,e,eZ us h k1 k2 k3 k4⟩
 | c9=>exact h
 | _=>exact hY _ h k1 k2 k3 k4
theorem oo{w w':World} {Pb Pb':Nat->Prop} (v:V) {x F} (h:RV w Pb v x F) (k1:∀ g,Pb g->w'.heap[g]? =w.heap[g]?) (k2:∀ g,g∈F->w'.heap[g]? =w.heap[g]?)
 (k3:∀ g,Pb g->Pb' g) (k4:∀ g,g∈F->¬ Pb' g):RV w' Pb' v x F:=by
 cases v with
 | gv b u=>obtain⟨hF,h1,h2⟩:=h;exact⟨hF,fun hb=>fU u (h1 hb) k1 Zad k3 Zad,h2⟩
 | tup vs=>exact fU (.tup vs) h k1 k2 k3 k4
 | agg us=>exact fU (.agg us) h k1 k2 k3 k4
 | c9=>exact h
 | own sz xs g o c=>exact fU (.own sz xs g o c) h k1 k2 k3 k4
 | ow sz xs=>exact fU (.ow sz xs) h k1 k2 k3 k4
 | om es g=>exact fU (.om es g) h k1 k2 k3 k4
 | mp es=>exact fU (.mp es) h k1 k2 k3 k4
 | lit x=>exact fU (.lit x) h k1 k2 k3 k4
 | sl f xs=>exact fU (.sl f xs) h k1 k2 k3 k4
 | hd r p sz g o lo n c=>exact fU (.hd r p sz g o lo n c) h k1 k2 k3 k4
 | ptr r p g o=>exact fU (.ptr r p g o) h k1 k2 k3 k4
 | ep v=>exact fU (.ep v) h k1 k2 k3 k4
def Shp(w w':World):Prop:= ∀ (g:Nat) (c:Array Value) (e:TypeId) (fr:Nat×Nat),w.heap[g]? =some (.cells c e fr)->∃ c':Array Value,w'.heap[g]? =some (.cells c' e fr)/\c'.size=c.size
theorem Shp.refl(w:World):Shp w w:=fun _ c _ _ h=>⟨c,h,rfl⟩
theorem Shp.trans{a b c:World}(h:Shp a b)(k:Shp b c):Shp a c:=fun g x e fr hx=>by
 obtain⟨y,h1,h2⟩:=h g x e fr hx;obtain⟨z,k1,k2⟩:=k g y e fr h1;exact⟨z,k1,k2.trans h2⟩
theorem Shp.of_eq{w w':World}(h:∀ g:Nat,g<w.heap.size->w'.heap[g]? =w.heap[g]?):Shp w w':=fun g c e fr hc=>by
 have hl:g<w.heap.size:=(Zbh.1 hc).1;exact⟨c,(h g hl).trans hc,rfl⟩
structure B6 (Pb:Nat->Prop) (w w':World):Prop where
 os:w'.os=w.os
 tape:w'.tape=w.tape
 output:w'.output=w.output
 size:w.heap.size<=w'.heap.size
 block:∀ g,Pb g->w'.heap[g]? =w.heap[g]?
 shape:Shp w w'
theorem B6.refl(Pb:Nat->Prop)(w:World):B6 Pb w w:=⟨rfl,rfl,rfl,Zbc _,fun _ _=>rfl,Shp.refl _⟩
theorem B6.trans{Pb Pb':Nat->Prop}{a b c:World}(h:B6 Pb a b)(k:B6 Pb' b c)(hp:∀ g,Pb g->Pb' g):B6 Pb a c:=
 ⟨k.os.trans h.os,k.tape.trans h.tape,k.output.trans h.output,Nat.le_trans h.size k.size,fun g hg=>(k.block g (hp g hg)).trans (h.block g hg),h.shape.trans k.shape⟩
def At(w:World)(Pb:Nat->Prop)(v:V)(g o:Nat)(F:List Nat):Prop:=
 ∃ cs cells,Blk w g cells/\R w Pb v cs F/\∀ j u,cs[j]? =some u->cells[o+j]? =some u
structure x2 (N:Nat) (Pb Kb:Nat->Prop) (A:AS) (a:Act) (w:World) (F:m7->List Nat):Prop where
 size:a.tmps.size=N
 defers:a.defers=[]
 slot:∀ i,RV w Pb (A.get i) (a.tmps.getD i undef) (F (.slot i))
 root:∀ k g v,lk k A.h=some (g,v)->∃ F',F (.key k)=g::F'/\At w Pb v g 0 F'
 cM:∀ r r',r≠r'->∀ g,g∈F r->g ∉ F r'
 nodup:∀ r,(F r).Nodup
 free:∀ r g,g∈F r->¬ Kb g/\g<w.heap.size
 sub:∀ g,Pb g->Kb g
 bound:∀ g,Kb g->g<w.heap.size
def Nx(N:Nat)(Pb Kb:Nat->Prop)(w:World)(K:AS->Prop)(a':Act)(w':World):Prop:=
 ∃ A' Pb' I4 F',K A'/\x2 N Pb' I4 A' a' w' F'/\(∀ g,Pb g->Pb' g)/\(∀ g,Kb g->I4 g)/\(∀ g,Pb' g->Pb g\/¬ Kb g)/\B6 Kb w w'
def cK(F:m7->List Nat)(r:m7)(l:List Nat):m7->List Nat:=fun r'=>if r'=r then l else F r'
theorem x2.put{N:Nat} {Pb Kb:Nat->Prop} {A:AS} {a:Act} {w:World} {F:m7->List Nat} (h:x2 N Pb Kb A a w F) {d:Nat} {v:V} {x:Value} {F':List Nat}
 (hd:d<N) (hv:RV w Pb v x F') (h1:∀ r,r≠.slot d->∀ g,g∈F'->g ∉ F r) (h2:F'.Nodup) (h3:∀ g,g∈F'->¬ Kb g/\g<w.heap.size):
 x2 N Pb Kb (A.put (some d) v) (a.put (some d) x) w (cK F (.slot d) F') where
 size:=by simp[Act.put,h.size]
 defers:=by simpa[Act.put] using h.defers
 slot:=fun i=>by
  rw[AS.aO];by_cases e:i=d;subst e;simp only[if_true,cK];have hx:(a.put (some i) x).tmps.getD i undef=x:=by simp[Act.put,h.size,hd]
  rw[hx];exact hv;have hne:m7.slot i≠m7.slot d:=fun c=>e (by injection c);simp only[if_neg e,cK,if_neg hne];have hx:(a.put (some d) x).tmps.getD i undef=a.tmps.getD i undef:=by
   simp[Act.put,Array.getElem?_setIfInBounds_ne (Ne.symm e)]
  rw[hx];exact h.slot i
 root:=fun k g v hk=>by
  obtain⟨Qo,e,hr⟩:=h.root k g v hk;exact⟨Qo,by simpa[cK] using e,hr⟩
 cM:=fun r r' hne g hg=>by
  simp only[cK]at hg ⊢;by_cases e:r=.slot d;subst e;rw[if_neg (Ne.symm hne)];simp only[if_true]at hg;exact h1 r' (Ne.symm hne) g hg;rw[if_neg e]at hg;by_cases e':r'=.slot d;rw[if_pos e'];exact fun Sw=>h1 r e g Sw hg;rw[if_neg e'];exact h.cM r r' hne g hg
 nodup:=fun r=>by
  simp only[cK];split;exact h2;exact h.nodup r
 free:=fun r g hg=>by
  simp only[cK]at hg;split at hg;exact h3 g hg;exact h.free r g hg
 sub:=h.sub
 bound:=h.bound
def dh(N:Nat)(d:Option Nat):Prop:=match d with | some d=>d<N | none=>True
theorem x2.rj{N:Nat} {Pb Kb:Nat->Prop} {A:AS} {a:Act} {w:World} {F:m7->List Nat} (h:x2 N Pb Kb A a w F) {d:Option Nat} {v:V} {x:Value}
 (hd:dh N d) (hv:RV w Pb v x []):∃ F',x2 N Pb Kb (A.put d v) (a.put d x) w F':=by
 cases d with
 | none=>exact⟨F,h⟩
 | some d=>exact⟨_,h.put hd hv Zad Zad Zad⟩
def J1(P:Program)(N:Nat)(o:Oper)(A:AS)(K:AS->Prop):Prop:=
 ∀ Pb Kb a w F Q,x2 N Pb Kb A a w F->o.wp P a w (Nx N Pb Kb w K) Q
theorem jM{P:Program} {N:Nat} {o:Oper} {A:AS} {K:AS->Prop} {v:V} (hd:dh N o.dst) (hK:K (A.put o.dst v))
 (h:∀ Pb Kb a w F,x2 N Pb Kb A a w F->∃ x,(execOp a.eval o).run P w=.ok (.value x) w/\RV w Pb v x []):J1 P N o A K:=by
 intro Pb Kb a w F Q hs;obtain⟨x,hx,hr⟩:=h Pb Kb a w F hs;unfold Oper.wp;rw[hx,Oper.upon_value];obtain⟨F',C8⟩:=hs.rj hd hr;exact⟨_,Pb,Kb,F',hK,C8,fun _ h=>h,fun _ h=>h,fun _ h=>.inl h,B6.refl _ _⟩
inductive D where
 | int (k:IntKind) | bool | str | ptr (e:Nat) | sl (e:Nat) | arr (n e:Nat) | map (k e:Nat) | st (fs:List (Nat×Nat)) | other
 deriving DecidableEq
structure TI where
 sz:Nat
 Pq:Nat
 d:D
def dX:TypeDesc->D
 | .int k=>.int k | .bool=>.bool | .string=>.str | .pointer e=>.ptr e | .slice e=>.sl e | .array n e=>.arr n e | .map k e=>.map k e
 | .struct fs=>.st (fs.toList.map fun f=>(f.offset,f.type))
 | _=>.other
def ti(P:Program)(T:Nat):Option TI:=match P.info? T,P.underlying T with | some i,some d=>some ⟨i.size,i.bytes,dX d⟩ | _,_=>none
def D.agg:D->Bool | .st _ | .arr _ _=>true | _=>false
theorem ke{P:Program}{T:Nat}{i:TI}(h:ti P T=some i):∃ inf d,P.info? T=some inf/\P.underlying T=some d/\inf.size=i.sz/\inf.bytes=i.Pq/\dX d=i.d:=by
 unfold ti at h;cases h1:P.info? T with
 | none=>simp[h1]at h
 | some inf=>cases h2:P.underlying T with
   | none=>simp[h1,h2]at h
   | some d=>simp[h1,h2]at h;subst h;exact⟨inf,d,rfl,rfl,rfl,rfl,rfl⟩
def VT:Value->V
 | .slice none 0 0=>.sl true []
 | x=>.lit x
def cV:Value->V
 | .agg cs=>if cs.toList.all (·.oneCell') then .agg (cs.toList.map VT) else .c9
 | .tuple _=>.c9
 | x=>VT x
def AS.ev(A:AS):Operand->V
 | .tmp i=>A.get i
 | .const v=>cV v
 | .global g=>.ptr (.key (9000+g)) [] g 0
 | .func f=>.lit (.func (.func f) #[] #[])
mutual
def V.TT(r:m7)(p:List Nat):V->V
 | .own sz xs g o c=>.hd r p sz g o 0 xs.length c
 | .ow .. =>.c9
 | .om _ g=>.lit (.map (some g))
 | .agg vs=>.agg (V.Jq r p 0 vs)
 | v=>v
def V.Jq(r:m7)(p:List Nat)(j:Nat):List V->List V
 | []=>[]
 | v::vs=>v.TT r (p++[j])::V.Jq r p (j+1) vs
end
mutual
def V.dE:V->Bool
 | .own .. =>true
 | .ow .. =>true
 | .om .. =>true
 | .agg vs=>V.aF vs
 | .tup vs=>V.aF vs
 | _=>false
def V.aF:List V->Bool
 | []=>false
 | v::vs=>v.dE||V.aF vs
end
def V.cp(r:m7):V->V
 | .tup _=>.c9
 | .gv _ _=>.c9
 | v=>v.TT r []
def Eo(A:AS)(x:Operand)(y:V):V:=
 match A.ev x with
 | .tup vs=>if V.aF vs=true then .c9 else .tup vs
 | _=>y
def AS.cp(A:AS):Operand->V
 | .tmp i=>(A.get i).cp (.slot i)
 | x=>A.ev x
def kT(op:BinOp)(k:IntKind)(a b:Int):Option (Prop×V):=
 match op with
 | .add=>some (True,.lit (.int k (k.wrap (a+b))))
 | .sub=>some (True,.lit (.int k (k.wrap (a-b))))
 | .mul=>some (True,.lit (.int k (k.wrap (a*b))))
 | .quo=>some (b≠0,.lit (.int k (k.wrap (a.tdiv b))))
 | .rem=>some (b≠0,.lit (.int k (a.tmod b)))
 | .eql=>some (True,.lit (.bool (a==b)))
 | .neq=>some (True,.lit (.bool (a != b)))
 | .lss=>some (True,.lit (.bool (decide (a<b))))
 | .leq=>some (True,.lit (.bool (decide (a<=b))))
 | .gtr=>some (True,.lit (.bool (decide (a>b))))
 | .geq=>some (True,.lit (.bool (decide (a>=b))))
 | .and=>some (True,.lit (.int k (k.wrap ((BitVec.ofInt k.bits a &&& BitVec.ofInt k.bits b).toNat))))
 | .xor=>some (True,.lit (.int k (k.wrap ((BitVec.ofInt k.bits a ^^^ BitVec.ofInt k.bits b).toNat))))
 | .shr=>some (0<=b,.lit (.int k (a.fdiv (2 ^ min b.toNat k.bits))))
 | .shl=>some (0<=b,.lit (.int k (k.wrap (a*2 ^ min b.toNat k.bits))))
 | _=>none
def TD(k:IntKind)(n:Int):Prop:=
 match k with
 | .i64=> -9223372036854775808<=n/\n<=9223372036854775807
 | .i32=> -2147483648<=n/\n<=2147483647
 | .u8=>0<=n/\n<=255
 | k=>k.wrap n=n
def yn(op:BinOp)(k:IntKind)(a b:Int):Option (Prop×V):=
 match op with
 | .add=>some (TD k (a+b),.lit (.int k (a+b)))
 | .sub=>some (TD k (a-b),.lit (.int k (a-b)))
 | .mul=>some (TD k (a*b),.lit (.int k (a*b)))
 | .quo=>some (0<=a/\0<b/\TD k a,.lit (.int k (a / b)))
 | .rem=>some (0<=a/\0<b,.lit (.int k (a % b)))
 | .and=>some (0<=a/\0<=b/\TD k a/\TD k b,.lit (.int k ((a.toNat &&& b.toNat:Nat):Int)))
 | .xor=>some (0<=a/\0<=b/\TD k a/\TD k b,.lit (.int k ((a.toNat ^^^ b.toNat:Nat):Int)))
 | .shr=>some (0<=b/\b<k.bits,.lit (.int k (a.fdiv (2 ^ b.toNat))))
 | op=>kT op k a b
def zf(op:BinOp)(a b:ByteArray):Option (Prop×V):=
 match op with
 | .add=>some (a.size+b.size<=4611686018427387904,.lit (.string (a++b)))
 | .eql=>some (True,.lit (.bool (a.toList==b.toList)))
 | .neq=>some (True,.lit (.bool (!(a.toList==b.toList))))
 | _=>none
def Eg(op:BinOp)(a b:Bool):Option (Prop×V):=
 match op with
 | .eql=>some (True,.lit (.bool (a==b)))
 | .neq=>some (True,.lit (.bool (!(a==b))))
 | _=>none
def vX(op:BinOp)(d:Option D)(x y:V):Option (Prop×V):=
 match d,x,y with
 | some (.int _),.lit (.int k a),.lit (.int k' b)=>if op=.shr\/op=.shl then yn op k a b else if k=k' then yn op k a b else none
 | some .str,.lit (.string a),.lit (.string b)=>zf op a b
 | some .bool,.lit (.bool a),.lit (.bool b)=>Eg op a b
 | _,_,_=>none
def Z6(op:UnOp)(x:V):Option (Prop×V):=
 match op,x with
 | .not,.lit (.bool b)=>some (True,.lit (.bool (!b)))
 | .neg,.lit (.int k n)=>some (TD k (-n),.lit (.int k (-n)))
 | _,_=>none
def tD(P:Program)(T:Nat):Option D:=(ti P T).map (·.d)
def ZX:V->Bool×V
 | .gv b v=>(b,v)
 | v=>(true,v)
def EF(A:AS)(a b:Operand):V->Option (Prop×V)
 | .lit (.bool c)=>match ZX (A.ev a),ZX (A.ev b) with
   | (ga,.lit (.bool x)),(gb,.lit (.bool y))=>some ((c=true->ga=true)/\(c=false->gb=true),.lit (.bool (cond c x y)))
   | _,_=>none
 | _=>none
def Kv:Option D->Option D->V->Option (Prop×V)
 | some (.int _),some (.int k),.lit (.int _ n)=>some (TD k n,.lit (.int k n))
 | some .str,some .str,.lit (.string s)=>some (True,.lit (.string s))
 | _,_,_=>none
def btV(s:ByteArray)(i:Int):V:=.lit (.int .u8 (s.data.getD i.toNat 0).toNat)
def Jf:Option D->V->V->Option (Prop×V)
 | some .str,.lit (.string s),.lit (.int _ i)=>some (0<=i/\i<s.size,btV s i)
 | _,_,_=>none
def Xf:Option V->Option Int
 | none=>some 0
 | some (.lit (.int _ l))=>some l
 | _=>none
def WC(n:Nat):Option V->Option Int
 | none=>some n
 | some (.lit (.int _ l))=>some l
 | _=>none
def Jl(s:ByteArray)(lo hi:Option V):Option (Prop×V):=
 match Xf lo,WC s.size hi with
 | some l,some h=>some (0<=l/\l<=h/\h<=s.size,.lit (.string (s.extract l.toNat h.toNat)))
 | _,_=>none
def Ea(d:Option D)(x:V)(lo hi:Option V):Option (Prop×V):=
 match d,x with
 | some .str,.lit (.string s)=>Jl s lo hi
 | _,_=>none
def Bt:Option D->V->Option (Prop×V)
 | some .str,.lit (.string s)=>some (True,.lit (.int .i64 s.size))
 | some (.sl _),.sl _ xs=>some (True,.lit (.int .i64 xs.length))
 | some (.sl _),.own _ xs _ _ _=>some (True,.lit (.int .i64 xs.length))
 | some (.sl _),.hd _ _ _ _ _ _ n _=>some (True,.lit (.int .i64 n))
 | _,_=>none
def II:V->Nat->Option (Prop×V)
 | .tup vs,i=>match vs[i]? with
   | some v=>if v.dE then none else some (True,v)
   | none=>none
 | _,_=>none
def FY:V->V->Option (Prop×V)
 | .lit (.int k a),.lit (.int k' b)=>if k=k' then some (True,.lit (.int k (max a b))) else none
 | _,_=>none
def xl(P:Program)(A:AS)(c:Call):Option (Prop×V):=
 match c.callee with
 | .builtin .len=>match c.args.toList,c.argTypes.toList with
   | [x],[T]=>Bt (tD P T) (A.ev x)
   | _,_=>none
 | .builtin .max=>match c.args.toList with
   | [x,y]=>FY (A.ev x) (A.ev y)
   | _=>none
 | _=>none
def R6(P:Program)(A:AS):Op->Option (Prop×V)
 | .move x=>some (True,Eo A x (A.cp x))
 | .pick c a b=>EF A a b (A.ev c)
 | .binOp op T x y _=>vX op (tD P T) (A.ev x) (A.ev y)
 | .unOp op _ x=>Z6 op (A.ev x)
 | .convert s d x=>Kv (tD P s) (tD P d) (A.ev x)
 | .index T x i=>Jf (tD P T) (A.ev x) (A.ev i)
 | .slice T x lo hi none=>Ea (tD P T) (A.ev x) (lo.map A.ev) (hi.map A.ev)
 | .call c=>xl P A c
 | .extract x i=>II (A.ev x) i
 | _=>none
section
variable {w:World} {Pb:Nat->Prop}
mutual
theorem lF(r:m7):∀ (v:V) (p:List Nat) {cs F},R w Pb v cs F->R w Pb (v.TT r p) cs []
 | .own sz xs g o c,p,cs,F,h=>by
   rcases h with ⟨h1,h2,h3,A,h4⟩ | ⟨h1,h2,h3,h4,_⟩;subst h1 h2;exact⟨rfl,Zbc _,A,h4,fun h=>absurd h Zac⟩;exact⟨rfl,h3,_,h4,fun _=>by simp⟩
 | .ow ..,_,_,_,h=>by
   obtain⟨g,o,c,h⟩:=h;rcases h with ⟨h1,h2,h3,A,h4⟩ | ⟨h1,h2,h3,h4,_⟩;exact⟨rfl,_,h4,rfl⟩;exact⟨rfl,_,h4,rfl⟩
 | .om ..,_,_,_,h=>⟨rfl,h.2.1,rfl⟩
 | .mp ..,_,_,_,h=>⟨rfl,h.2⟩
 | .agg vs,p,cs,F,h=>by simp only[R,V.TT]at h ⊢;exact BJ r vs p 0 h
 | .tup _,_,_,_,h=>by simp[R]at h
 | .gv _ _,_,_,_,h=>by simp[R]at h
 | .lit x,_,_,_,h=>⟨h.1,h.2.1,rfl⟩
 | .sl ..,_,_,_,h=>⟨rfl,h.2⟩
 | .hd ..,_,_,_,h=>⟨rfl,h.2⟩
 | .ptr ..,_,_,_,h=>⟨rfl,h.2⟩
 | .ep _,_,_,_,h=>⟨rfl,h.2⟩
 | .c9,_,_,_,h=>⟨rfl,h.2⟩
theorem BJ(r:m7):∀ (vs:List V) (p:List Nat) (j:Nat) {cs F},RL w Pb vs cs F->RL w Pb (V.Jq r p j vs) cs []
 | [],_,_,_,_,h=>⟨h.1,rfl⟩
 | v::vs,p,j,cs,F,h=>by
   obtain⟨c1,c2,F1,F2,rfl,_,h1,h2⟩:=h;exact⟨c1,c2,[],[],rfl,rfl,lF r v _ h1,BJ r vs p (j+1) h2⟩
end
mutual
theorem jH:∀ (v:V) {cs F},v.dE=false->R w Pb v cs F->F=[]
 | .own ..,_,_,ho,_=>by simp[V.dE]at ho
 | .ow ..,_,_,ho,_=>by simp[V.dE]at ho
 | .om ..,_,_,ho,_=>by simp[V.dE]at ho
 | .mp ..,_,_,_,h=>h.1
 | .agg vs,_,_,ho,h=>by simp only[R]at h;exact gQ vs (by simpa[V.dE] using ho) h
 | .tup _,_,_,_,h=>by simp[R]at h
 | .gv _ _,_,_,_,h=>by simp[R]at h
 | .lit x,_,_,_,h=>h.2.2
 | .sl ..,_,_,_,h=>h.1
 | .hd ..,_,_,_,h=>h.1
 | .ptr ..,_,_,_,h=>h.1
 | .ep _,_,_,_,h=>h.1
 | .c9,_,_,_,h=>h.1
theorem gQ:∀ (vs:List V) {cs F},V.aF vs=false->RL w Pb vs cs F->F=[]
 | [],_,_,_,h=>h.2
 | v::vs,_,_,ho,h=>by
   obtain⟨c1,c2,F1,F2,_,rfl,h1,h2⟩:=h;simp only[V.aF,Bool.or_eq_false_iff]at ho;rw[jH v ho.1 h1,gQ vs ho.2 h2];rfl
end
theorem vj:∀ (vs:List V) {xs F},V.aF vs=false->RVs w Pb vs xs F->F=[]
 | [],_,_,_,h=>h.2
 | v::vs,_,_,ho,h=>by
   obtain⟨x,xs',F1,F2,_,rfl,h1,h2⟩:=h;simp only[V.aF,Bool.or_eq_false_iff]at ho;rw[vj vs ho.2 h2];cases v with
   | agg us=>obtain⟨cs,_,h1⟩:=h1;rw[gQ us (by simpa[V.dE] using ho.1) h1];rfl
   | c9=>rw[h1];rfl
   | tup _=>simp[R]at h1
   | gv _ _=>simp[R]at h1
   | _=>rw[jH _ ho.1 h1];rfl
theorem Nw{v:V}{x:Value}{F:List Nat}(r:m7)(h:RV w Pb v x F):RV w Pb (v.cp r) x []:=by
 cases v with
 | tup _=>rfl
 | gv _ _=>rfl
 | agg us=>obtain⟨cs,e,h⟩:=h;exact⟨cs,e,BJ r us [] 0 h⟩
 | c9=>rfl
 | own sz xs g o c=>exact lF (w:=w) (Pb:=Pb) r (.own sz xs g o c) [] h
 | ow sz xs=>rfl
 | om es g=>exact lF (w:=w) (Pb:=Pb) r (.om es g) [] h
 | mp es=>exact lF (w:=w) (Pb:=Pb) r (.mp es) [] h
 | lit x=>exact lF (w:=w) (Pb:=Pb) r (.lit x) [] h
 | sl f xs=>exact lF (w:=w) (Pb:=Pb) r (.sl f xs) [] h
 | hd r' p sz g o lo n c=>exact lF (w:=w) (Pb:=Pb) r (.hd r' p sz g o lo n c) [] h
 | ptr r' p g o=>exact lF (w:=w) (Pb:=Pb) r (.ptr r' p g o) [] h
 | ep v=>exact lF (w:=w) (Pb:=Pb) r (.ep v) [] h
theorem KC{x:Value}(h:x.oneCell'=true):R w Pb (VT x) [x] []:=by
 unfold VT;split;exact⟨rfl,none,0,rfl,Zbc _,fun _=>rfl,.inl rfl⟩;exact⟨h,rfl,rfl⟩
theorem Gr:∀ (l:List Value),l.all (·.oneCell')=true->RL w Pb (l.map VT) l []
 | [],_=>⟨rfl,rfl⟩
 | x::l,h=>by
   simp only[List.all_cons,Zao]at h;exact⟨[x],l,[],[],rfl,rfl,KC h.1,Gr l h.2⟩
theorem uh(x:Value):RV w Pb (cV x) x []:=by
 cases x with
 | agg cs=>
   unfold cV;by_cases h:cs.toList.all (·.oneCell')=true;simp only[h,if_true];exact⟨cs,rfl,Gr _ h⟩;simp only[h];rfl
 | tuple _=>rfl
 | slice a n c=>
   have h:=KC (w:=w) (Pb:=Pb) (x:=.slice a n c) rfl;unfold cV;simp only;revert h;unfold VT;split <;> exact fun h=>h
 | _=>exact⟨rfl,rfl,rfl⟩
variable {N:Nat} {Kb:Nat->Prop} {A:AS} {a:Act} {F:m7->List Nat}
theorem eE(h:x2 N Pb Kb A a w F)(x:Operand):∃ Fx,RV w Pb (A.ev x) (a.eval x) Fx:=by
 cases x with
 | tmp i=>exact⟨_,h.slot i⟩
 | const v=>exact⟨[],uh v⟩
 | global g=>exact⟨[],rfl,rfl⟩
 | func f=>exact⟨[],rfl,rfl,rfl⟩
theorem cy(h:x2 N Pb Kb A a w F){x:Operand}{y:Value}(e:A.ev x=.lit y):a.eval x=y:=by
 obtain⟨Fx,hr⟩:=eE h x;rw[e]at hr;have:=hr.2.1;simpa using this
theorem rT(h:x2 N Pb Kb A a w F)(x:Operand):RV w Pb (A.cp x) (a.eval x) []:=by
 cases x with
 | tmp i=>exact Nw (.slot i) (h.slot i)
 | const v=>exact uh v
 | global g=>exact⟨rfl,rfl⟩
 | func f=>exact⟨rfl,rfl,rfl⟩
variable {P:Program}
theorem aV{T:Nat}{d:TypeDesc}(h:P.underlying T=some d):(underlying T).run P w=.ok d w:=by
 simp[underlying,h]
theorem dq{T:Nat}{d:D}(h:tD P T=some d):∃ td,P.underlying T=some td/\dX td=d:=by
 unfold tD at h;cases hi:ti P T with
 | none=>simp[hi]at h
 | some i=>
   obtain⟨inf,td,_,h2,_,_,h5⟩:=ke hi;simp[hi]at h;exact⟨td,h2,h5.trans h⟩
theorem uR(op:BinOp)(T:Nat)(x y:Operand){u v:Value}(hu:∀ cs,u≠.agg cs)(hn:u≠.nilIface):(eqGuard op T x y u v).run P w=.ok () w:=by
 unfold eqGuard;cases op <;> first | rfl | (cases u <;> first | (exact absurd rfl hn) | (exact absurd rfl (hu _)) | rfl)
theorem Ju{op:BinOp}{k:IntKind}{p q:Int}{C:Prop}{v:V}(h:kT op k p q=some (C,v))(hC:C){T:Nat}(hs:op=.shr\/op=.shl->∀ yk,∃ x,(binOp op T (.int k p) (.int yk q)).run P w=.ok x w/\v=.lit x/\x.oneCell'=true):
 ∃ x,(binOp op T (.int k p) (.int k q)).run P w=.ok x w/\v=.lit x/\x.oneCell'=true:=by
 cases op <;> simp only[kT,Zan,Zaq,reduceCtorEq]at h <;> obtain⟨rfl,rfl⟩:=h
 all_goals first
  | exact hs (.inl rfl) k
  | exact hs (.inr rfl) k
  | (refine⟨_,?_,rfl,rfl⟩
     simp only[binOp,ne_eq,not_true_eq_false,if_false];first | rfl | (unfold Op.intDiv;rw[if_neg hC];rfl))
theorem Gl{op:BinOp}(ho:op=.shr\/op=.shl){k yk:IntKind}{p q:Int}{C:Prop}{v:V}(h:kT op k p q=some (C,v))(hC:C){T:Nat}:
 ∃ x,(binOp op T (.int k p) (.int yk q)).run P w=.ok x w/\v=.lit x/\x.oneCell'=true:=by
 rcases ho with rfl | rfl <;> simp only[kT,Zan,Zaq]at h <;> obtain⟨rfl,rfl⟩:=h <;>
  exact⟨_,by simp[binOp,Op.shift,Int.not_lt.2 hC],rfl,rfl⟩
theorem wq{T:Nat}(hu:P.underlying T=some .bool)(p q:Bool):(Op.equal T (.bool p) (.bool q)).run P w=.ok (p==q) w:=by
 obtain⟨n,hn⟩:∃ n,Op.maxDepth=n+1:=⟨9999,rfl⟩;unfold Op.equal;rw[hn];simp only[Op.equalIn,Za0,aV hu,Zas,Za1]
theorem mu{k:IntKind}{n:Int}(h:TD k n):k.wrap n=n:=by
 cases k <;> simp only[TD]at h <;> first | exact h | (simp only[IntKind.wrap,IntKind.bits,IntKind.signed,Bool.true_and,Bool.false_and];split <;> simp_all <;> omega)
def Yf(k:IntKind):Nat:=if k.signed then k.bits-1 else k.bits
theorem HB(k:IntKind):2 ^ Yf k<=2 ^ k.bits:=Nat.pow_le_pow_right Zaf (by unfold Yf;split <;> omega)
theorem wo{k:IntKind}{m:Nat}(h:m<2 ^ Yf k):k.wrap (m:Int)=m:=by
 unfold IntKind.wrap;cases k <;> simp[Yf,IntKind.bits,IntKind.signed]at h ⊢ <;> omega
theorem pd{k:IntKind}{n:Int}(h:TD k n)(h0:0<=n):n.toNat<2 ^ Yf k:=by
 have hw:=mu h;obtain⟨q,rfl⟩:=Int.eq_ofNat_of_zero_le h0;unfold IntKind.wrap at hw;cases k <;> simp[IntKind.bits,IntKind.signed,Yf]at hw ⊢ <;> (try split at hw) <;> omega
theorem zh{op:BinOp}{k:IntKind}{p q:Int}{C:Prop}{v:V}(h:yn op k p q=some (C,v))(hC:C):∃ C',kT op k p q=some (C',v)/\C':=by
 cases op <;> simp only[yn,Zan,Zaq]at h
 case add=>obtain⟨rfl,rfl⟩:=h;exact⟨_,by simp only[kT,mu hC],trivial⟩
 case sub=>obtain⟨rfl,rfl⟩:=h;exact⟨_,by simp only[kT,mu hC],trivial⟩
 case mul=>obtain⟨rfl,rfl⟩:=h;exact⟨_,by simp only[kT,mu hC],trivial⟩
 case quo=>
  obtain⟨rfl,rfl⟩:=h;obtain⟨h0,h1,h2⟩:=hC;refine⟨_,?_,show q≠0 by omega⟩;have e:p.tdiv q=p / q:=Int.tdiv_eq_ediv_of_nonneg h0;have hd:0<=p / q:=Int.ediv_nonneg h0 Zac;have hle:p / q<=p:=Int.ediv_le_self _ h0;have hb:=pd h2 h0;have:=wo (k:=k) (m:=(p / q).toNat) Zac;rw[Int.toNat_of_nonneg hd]at this;simp only[kT,e,this]
 case rem=>
  obtain⟨rfl,rfl⟩:=h;obtain⟨h0,h1⟩:=hC;refine⟨_,?_,show q≠0 by omega⟩;simp only[kT,Int.tmod_eq_emod_of_nonneg h0]
 case and=>
  obtain⟨rfl,rfl⟩:=h;obtain⟨h0,h1,h2,h3⟩:=hC;refine⟨_,?_,trivial⟩;obtain⟨a,rfl⟩:=Int.eq_ofNat_of_zero_le h0;obtain⟨b,rfl⟩:=Int.eq_ofNat_of_zero_le h1;have ha:=pd h2 h0;have hb:=pd h3 h1;have hk:=HB k;simp only[Int.toNat_natCast]at ha hb;have e:(BitVec.ofInt k.bits (a:Int) &&& BitVec.ofInt k.bits (b:Int)).toNat=a &&& b:=by
   simp only[BitVec.toNat_and,BitVec.toNat_ofInt];rw[Int.emod_eq_of_lt Zac (by exact_mod_cast Nat.lt_of_lt_of_le ha hk),Int.emod_eq_of_lt Zac (by exact_mod_cast Nat.lt_of_lt_of_le hb hk)];rfl
  have:=wo (k:=k) (m:=a &&& b) (Nat.lt_of_le_of_lt Nat.and_le_left ha);simp only[kT,e,this,Int.toNat_natCast]
 case xor=>
  obtain⟨rfl,rfl⟩:=h;obtain⟨h0,h1,h2,h3⟩:=hC;refine⟨_,?_,trivial⟩;obtain⟨a,rfl⟩:=Int.eq_ofNat_of_zero_le h0;obtain⟨b,rfl⟩:=Int.eq_ofNat_of_zero_le h1;have ha:=pd h2 h0;have hb:=pd h3 h1;have hk:=HB k;simp only[Int.toNat_natCast]at ha hb;have e:(BitVec.ofInt k.bits (a:Int) ^^^ BitVec.ofInt k.bits (b:Int)).toNat=a ^^^ b:=by
   simp only[BitVec.toNat_xor,BitVec.toNat_ofInt];rw[Int.emod_eq_of_lt Zac (by exact_mod_cast Nat.lt_of_lt_of_le ha hk),Int.emod_eq_of_lt Zac (by exact_mod_cast Nat.lt_of_lt_of_le hb hk)];rfl
  have:=wo (k:=k) (m:=a ^^^ b) (Nat.xor_lt_two_pow ha hb);simp only[kT,e,this,Int.toNat_natCast]
 case shr=>
  obtain⟨rfl,rfl⟩:=h;obtain⟨h1,h2⟩:=hC;refine⟨_,?_,h1⟩;have:min q.toNat k.bits=q.toNat:=Zac;simp only[kT,this]
 all_goals exact⟨_,h,hC⟩
theorem IA{op:BinOp}{x y:V}{C:Prop}{v:V}{T:Nat}(h:vX op (tD P T) x y=some (C,v))(hC:C):
 ∃ u u',x=.lit u/\y=.lit u'/\(∀ cs,u≠.agg cs)/\u≠.nilIface/\∃ z,(binOp op T u u').run P w=.ok z w/\v=.lit z/\z.oneCell'=true:=by
 unfold vX at h;split at h;rename_i k p k' q _;refine⟨_,_,rfl,rfl,Zad,Zad,?_⟩;split at h;rename_i ho;obtain⟨C',h',hC'⟩:=zh h hC;exact Gl ho h' hC';rename_i ho;split at h;rename_i hk;subst hk;obtain⟨C',h',hC'⟩:=zh h hC;exact Ju h' hC' (fun h=>absurd h ho);simp at h;rename_i p q _;refine⟨_,_,rfl,rfl,Zad,Zad,?_⟩;cases op <;> simp only[zf,Zan,Zaq,reduceCtorEq]at h <;> obtain⟨rfl,rfl⟩:=h;refine⟨_,?_,rfl,rfl⟩;have: ¬ (((p.size+q.size:Nat):Int)>IntKind.i64.max):=by
  have:IntKind.i64.max=9223372036854775807:=Zaf;omega
 simp only[binOp,Op.stringOp,if_neg this,Za1];exact⟨_,rfl,rfl,rfl⟩;exact⟨_,rfl,rfl,rfl⟩;rename_i p q hT;refine⟨_,_,rfl,rfl,Zad,Zad,?_⟩;obtain⟨td,hu,hd⟩:=dq hT;have htd:td=.bool:=by cases td <;> simp[dX]at hd ⊢
 subst htd;cases op <;> simp only[Eg,Zan,Zaq,reduceCtorEq]at h <;> obtain⟨rfl,rfl⟩:=h;exact⟨_,by simp only[binOp,Za0,wq hu,Zas,Za1],rfl,rfl⟩;exact⟨_,by simp only[binOp,Za0,wq hu,Zas,Za1],rfl,rfl⟩;simp at h
theorem dJ{x:Value}(h:x.oneCell'=true):RV w Pb (.lit x) x []:=⟨h,rfl,rfl⟩
theorem BN(h:x2 N Pb Kb A a w F){lo:Option Operand}{l:Int}(hl:Xf (lo.map A.ev)=some l):(lo=none/\l=0)\/∃ k,(lo.map a.eval)=some (.int k l):=by
 cases lo with
 | none=>simp[Xf]at hl;exact .inl ⟨rfl,hl.symm⟩
 | some x=>
   right;simp only[Option.map_some,Xf]at hl;cases hx:A.ev x with
   | lit y=>
     cases y with
     | int k l'=>rw[hx]at hl;simp at hl;subst hl;exact⟨k,by simp[cy h hx]⟩
     | _=>rw[hx]at hl;simp at hl
   | _=>rw[hx]at hl;simp at hl
theorem yX(h:x2 N Pb Kb A a w F){n:Nat}{hi:Option Operand}{l:Int}(hl:WC n (hi.map A.ev)=some l):(hi=none/\l=n)\/∃ k,(hi.map a.eval)=some (.int k l):=by
 cases hi with
 | none=>simp[WC]at hl;exact .inl ⟨rfl,hl.symm⟩
 | some x=>
   right;simp only[Option.map_some,WC]at hl;cases hx:A.ev x with
   | lit y=>
     cases y with
     | int k l'=>rw[hx]at hl;simp at hl;subst hl;exact⟨k,by simp[cy h hx]⟩
     | _=>rw[hx]at hl;simp at hl
   | _=>rw[hx]at hl;simp at hl
theorem jZ{k:IntKind}{i:Int}{y:Nat}{code:BoundsCode}(h0:0<=i)(h1:i<=y):(Instr.sliceBound (.int k i) y code).run P w=.ok i.toNat w:=by
 simp[Instr.sliceBound,asIntOf,h0,h1]
theorem ma{sl:Bool} {n c:Nat} {lo hi:Option Value} {l h:Int} (hlo:(lo=none/\l=0)\/∃ k,lo=some (.int k l)) (hhi:(hi=none/\h=n)\/∃ k,hi=some (.int k h))
 (h0:0<=l) (h1:l<=h) (h2:h<=(c:Nat)) (hn:n<=c):(Instr.sliceBounds sl n c lo hi none).run P w=.ok (l.toNat,h.toNat,c) w:=by
 have hb:(h.toNat:Int)=h:=Int.toNat_of_nonneg Zac;rcases hlo with ⟨rfl,rfl⟩ | ⟨k,rfl⟩ <;> rcases hhi with ⟨rfl,rfl⟩ | ⟨k',rfl⟩;simp[Instr.sliceBounds];simp only[Instr.sliceBounds,Za0,Za1,Zas,jZ (w:=w) (P:=P) (k:=k') (code:=if sl then .sliceAcap else .sliceAlen) (show 0<=h by omega) h2];rfl;simp only[Instr.sliceBounds,Za0,Za1,Zas,Option.isSome,Bool.false_eq_true,if_false,jZ (w:=w) (P:=P) (k:=k) (y:=n) (code:=.sliceB) h0 h1];rfl
 simp only[Instr.sliceBounds,Za0,Za1,Zas,Option.isSome,Bool.false_eq_true,if_false,jZ (w:=w) (P:=P) (k:=k') (code:=if sl then .sliceAcap else .sliceAlen) (show 0<=h by omega) h2,
  jZ (w:=w) (P:=P) (k:=k) (y:=h.toNat) (code:=.sliceB) h0 Zac]
theorem Dg:∀ (vs:List V) {xs:List Value} {F:List Nat} {i:Nat} {v:V},RVs w Pb vs xs F->vs[i]? =some v->v.dE=false->∃ x,xs[i]? =some x/\RV w Pb v x []
 | [],_,_,_,_,_,h,_=>by simp at h
 | v::vs,xs,F,0,u,h,hi,ho=>by
     obtain⟨x,xs',F1,F2,rfl,rfl,h1,h2⟩:=h;simp at hi;subst hi;refine⟨x,rfl,?_⟩;cases v with
     | agg us=>obtain⟨cs,e,h1⟩:=h1;exact⟨cs,e,by rw[gQ us (by simpa[V.dE] using ho) h1]at h1;exact h1⟩
     | c9=>rfl
     | tup us=>simp[R]at h1
     | gv _ _=>simp[R]at h1
     | own=>simp[V.dE]at ho
     | ow=>simp[V.dE]at ho
     | om=>simp[V.dE]at ho
     | mp=>exact⟨rfl,h1.2⟩
     | lit=>exact⟨h1.1,h1.2.1,rfl⟩
     | sl=>exact⟨rfl,h1.2⟩
     | hd=>exact⟨rfl,h1.2⟩
     | ptr=>exact⟨rfl,h1.2⟩
     | ep=>exact⟨rfl,h1.2⟩
 | v::vs,xs,F,i+1,u,h,hi,ho=>by
     obtain⟨x,xs',F1,F2,rfl,rfl,h1,h2⟩:=h;obtain⟨y,hy,hr⟩:=Dg vs h2 Zbn ho;exact⟨y,by simpa using hy,hr⟩
theorem Dw{op:Op}{C:Prop}{v:V}(h:R6 P A op=some (C,v))(hC:C)(hs:x2 N Pb Kb A a w F){o:Oper}(ho:o.op=op):
 ∃ x,(execOp a.eval o).run P w=.ok (.value x) w/\RV w Pb v x []:=by
 obtain⟨dst,op',ty,pos,after,guard⟩:=o;subst ho;unfold R6 at h;split at h;rename_i x PV;subst PV;simp at h;obtain⟨_,rfl⟩:=h;refine⟨_,rfl,?_⟩;unfold Eo;split;rename_i vs e;obtain⟨Fx,hr⟩:=eE hs x;rw[e]at hr;split;rfl;rename_i ho;obtain⟨xs,hx,hr⟩:=hr;have hF:=vj vs (by simpa using ho) hr;subst hF;exact⟨xs,hx,hr⟩;exact rT hs x
 · rename_i c p q PV;subst PV;unfold EF at h;split at h
   case h_2=>simp at h
   · rename_i c' e;split at h
     case h_2=>simp at h
     rename_i ga x gb y ea eb;simp only[Zan,Zaq]at h;obtain⟨rfl,rfl⟩:=h;have ex:∀ (z:Operand) (g b:Bool),ZX (A.ev z)=(g,.lit (.bool b))->g=true->a.eval z=.bool b:=fun z g b hz hg=>by
      obtain⟨Fx,hr⟩:=eE hs z;unfold ZX at hz;split at hz;rename_i b' v' e';simp only[Zaq]at hz;obtain⟨rfl,rfl⟩:=hz;rw[e']at hr;have:=(hr.2.1 hg).2.1;simpa using this;simp only[Zaq]at hz;rw[hz.2]at hr;have:=hr.2.1;simpa using this
     simp only[execOp,cy hs e,asBool,Za0,Za1,Zas];cases c';exact⟨.bool y,by simp[ex q gb y eb (hC.2 rfl)],dJ rfl⟩;exact⟨.bool x,by simp[ex p ga x ea (hC.1 rfl)],dJ rfl⟩
 rename_i op T x y _ PV;subst PV;obtain⟨u,u',hx,hy,hu,hn,z,hz,rfl,h1⟩:=IA (w:=w) (P:=P) h hC;refine⟨z,?_,dJ h1⟩;simp only[execOp,cy hs hx,cy hs hy,Za0,uR op T x y hu hn,Zas,hz,Za1];rename_i op T x PV;subst PV;unfold Z6 at h;split at h <;> simp only[Zan,Zaq,reduceCtorEq]at h;rename_i b e;obtain⟨_,rfl⟩:=h;exact⟨_,by simp only[execOp,cy hs e];rfl,dJ rfl⟩;rename_i k n e;obtain⟨rfl,rfl⟩:=h;exact⟨_,by simp only[execOp,cy hs e];rw[show -n=IntKind.wrap k (0-n) by rw[Int.zero_sub];exact(mu hC).symm];rfl,dJ rfl⟩;rename_i s d x PV;subst PV;unfold Kv at h;split at h <;> simp only[Zan,Zaq,reduceCtorEq]at h;rename_i k0 k k1 n C8 WD e;obtain⟨rfl,rfl⟩:=h;obtain⟨td,hu,hd⟩:=dq C8;obtain⟨Z9,Xq,WD⟩:=dq WD;cases td <;> simp[dX]at hd;cases Z9 <;> simp[dX]at WD;subst hd WD;exact⟨.int _ (IntKind.wrap _ n),by simp only[execOp,cy hs e,convert,Za0,aV hu,aV Xq,Zas];rfl,by rw[mu hC];exact dJ rfl⟩;rename_i s' C8 WD e;obtain⟨_,rfl⟩:=h;obtain⟨td,hu,hd⟩:=dq C8;obtain⟨Z9,Xq,WD⟩:=dq WD;cases td <;> simp[dX]at hd;cases Z9 <;> simp[dX]at WD;exact⟨_,by simp only[execOp,cy hs e,convert,Za0,aV hu,aV Xq,Zas];rfl,dJ rfl⟩;rename_i T x i PV;subst PV;unfold Jf at h;split at h <;> simp only[Zan,Zaq,reduceCtorEq]at h;rename_i s k i' C8 e e';obtain⟨rfl,rfl⟩:=h;obtain⟨td,hu,hd⟩:=dq C8;cases td <;> simp[dX]at hd;obtain⟨h0,h1⟩:=hC;have hlt:i'.toNat<s.size:=Zac;refine⟨.int .u8 (s.data.getD i'.toNat 0).toNat,?_,dJ rfl⟩;have hg:s[i'.toNat]? =some (s.data.getD i'.toNat 0):=by
  rw[getElem?_pos s i'.toNat hlt];have VG:i'.toNat<s.data.size:=hlt;simp only[Array.getD,dif_pos VG];rfl
 simp only[execOp,cy hs e,cy hs e',Instr.index,asIntOf,Za0,aV hu,Za1,Zas,if_pos h0,hg];rename_i T x lo hi PV;subst PV;unfold Ea at h;split at h;rename_i s C8 e;unfold Jl at h;obtain⟨td,hu,hd⟩:=dq C8;cases td <;> simp[dX]at hd;split at h;rename_i l h' hl hh;simp only[Zan,Zaq]at h;obtain⟨rfl,rfl⟩:=h;obtain⟨h0,h1,h2⟩:=hC;have b1:=BN hs hl;have b2:=yX hs hh;have b1':(lo.map a.eval=none/\l=0)\/∃ k,lo.map a.eval=some (.int k l):=b1.imp (fun⟨e,f⟩=>⟨by simp[e],f⟩) id;have b2':(hi.map a.eval=none/\h'=s.size)\/∃ k,hi.map a.eval=some (.int k h'):=b2.imp (fun⟨e,f⟩=>⟨by simp[e],f⟩) id;refine⟨_,?_,dJ rfl⟩
 simp only[execOp,Instr.sliceAt,cy hs e,Za0,aV hu,Zas,Instr.slice,Option.map_none,Option.isSome,Bool.false_eq_true,if_false,Za1,
  ma (w:=w) (P:=P) (sl:=false) b1' b2' h0 h1 h2 (Zbc _)]
 simp at h;simp at h
 · rename_i c PV;subst PV;unfold xl at h;split at h
   case h_3=>simp at h
   case h_2=>
    rename_i XO;split at h
    case h_2=>simp at h
    rename_i x y hargs;obtain⟨callee,args,argTypes⟩:=c;obtain rfl:callee=.builtin .max:=XO;obtain rfl:args= #[x,y]:=by rw[<- Array.toArray_toList (xs:=args)];exact Zbm _ hargs
    unfold FY at h;split at h;rename_i k p k' q e1 e2;split at h;rename_i hk;subst hk;simp only[Zan,Zaq]at h;obtain⟨hCe,rfl⟩:=h;clear hCe;have e:(#[x,y].map a.eval)= #[.int k p,.int k q]:=by simp[cy hs e1,cy hs e2]
    exact⟨_,by simp only[execOp,resolve,invoke,builtin,Za0,Za1,Zas,e,Lib.run_max_ints],dJ rfl⟩;simp at h;simp at h
   rename_i XO;split at h
   case h_2=>simp at h
   rename_i x T hargs htys;obtain⟨callee,args,argTypes⟩:=c;obtain rfl:callee=.builtin .len:=XO;obtain rfl:args= #[x]:=by rw[<- Array.toArray_toList (xs:=args)];exact Zbm _ hargs
   obtain rfl:argTypes= #[T]:=by rw[<- Array.toArray_toList (xs:=argTypes)];exact Zbm _ htys
   unfold Bt at h;split at h <;> simp only[Zan,Zaq,reduceCtorEq]at h <;> (obtain⟨hCe,rfl⟩:=h;clear hCe);rename_i s C8 e;obtain⟨td,hu,hd⟩:=dq C8;cases td <;> simp[dX]at hd;exact⟨_,by simp[execOp,resolve,invoke,builtin,Builtin.len_,cy hs e,aV hu,goInt],dJ rfl⟩
   all_goals
    rename_i C8 e;obtain⟨td,hu,hd⟩:=dq C8;cases td <;> simp[dX]at hd;obtain⟨Fx,hr⟩:=eE hs x;rw[e]at hr
   obtain⟨_,A',c,hc,_⟩:=hr;simp at hc;exact⟨_,Zbo,dJ rfl⟩
   rcases hr with ⟨_,rfl,_,A',hc⟩ | ⟨_,_,_,hc,_⟩ <;> simp at hc <;>
    exact⟨_,Zbo,dJ rfl⟩
   obtain⟨_,_,A',hc,_⟩:=hr;simp at hc;exact⟨_,Zbo,dJ rfl⟩
 rename_i x i PV;subst PV;unfold II at h;split at h;rename_i i _ _ vs e;split at h;rename_i v' hv;split at h;simp at h;rename_i ho;simp at h;obtain⟨_,rfl⟩:=h;obtain⟨Fx,hr⟩:=eE hs x;rw[e]at hr;obtain⟨xs,Vv,hr⟩:=hr;obtain⟨x',Qu,I8⟩:=Dg vs hr hv (by simpa using ho);refine⟨x',?_,I8⟩;have hx'':xs[i]? =some x':=by simpa using Qu
 simp only[execOp,Vv,Instr.extract,hx'',Za0,Za1,Zas];simp at h;simp at h;simp at h
end
def V.at(g o:Nat)(v:V):List Nat->Option (Nat×Nat×V)
 | []=>some (g,o,v)
 | j::p=>match v with
   | .agg vs=>match vs[j]? with
     | some u=>V.at g (o+V.ns (vs.take j)) u p
     | none=>none
   | .own sz xs g' o' _=>match xs[j]? with
     | some u=>V.at g' (o'+j*sz) u p
     | none=>none
   | _=>none
def V.sub(v:V):List Nat->Option V
 | []=>some v
 | j::p=>match v with
   | .agg vs=>match vs[j]? with
     | some u=>V.sub u p
     | none=>none
   | .own _ xs _ _ _=>match xs[j]? with
     | some u=>V.sub u p
     | none=>none
   | _=>none
def AS.at(A:AS)(r:m7)(p:List Nat):Option (Nat×Nat×V):=
 match r with
 | .key k=>match lk k A.h with
   | some (g,v)=>V.at g 0 v p
   | none=>none
 | .slot i=>match A.get i,p with
   | .own sz xs g o c,j::p=>V.at 0 0 (.own sz xs g o c) (j::p)
   | _,_=>none
def AS.sub(A:AS)(r:m7)(p:List Nat):Option V:=
 match r with
 | .key k=>match lk k A.h with
   | some (_,v)=>V.sub v p
   | none=>none
 | .slot i=>match A.get i with
   | .tup _=>none
   | v=>V.sub v p
def V.isAgg:V->Bool | .agg _=>true | _=>false
section
variable {w:World} {Pb Kb:Nat->Prop}
theorem ia:∀ (vs:List V) {cs F} {j:Nat} {v:V},RL w Pb vs cs F->vs[j]? =some v->
 ∃ c F',R w Pb v c F'/\(∀ g,g∈F'->g∈F)/\∀ i u,c[i]? =some u->cs[V.ns (vs.take j)+i]? =some u
 | [],_,_,_,_,_,h=>by simp at h
 | v::vs,cs,F,0,u,h,hj=>by
   obtain⟨c1,c2,F1,F2,rfl,rfl,h1,h2⟩:=h;simp at hj;subst hj;refine⟨c1,F1,h1,by simp_all,fun i u hu=>?_⟩;simp only[List.take_zero,V.ns,Zaw];rw[Za9 (Za3.1 hu).1];exact hu
 | v::vs,cs,F,j+1,u,h,hj=>by
   obtain⟨c1,c2,F1,F2,rfl,rfl,h1,h2⟩:=h;obtain⟨c,F',hr,hF,hc⟩:=ia vs h2 Zbp;refine⟨c,F',hr,fun g hg=>by simp[hF g hg],fun i u hu=>?_⟩;have hl:=eX v h1;simp only[List.take_succ_cons,V.ns];rw[<- hl,Zbj,Za4 Zac];have e:c1.length+(V.ns (vs.take j)+i)-c1.length=V.ns (vs.take j)+i:=Zac;rw[e];exact hc i u hu
theorem eM{sz:Nat}:∀ (xs:List V) (j:Nat),aW sz xs->j<=xs.length->V.ns (xs.take j)=j*sz
 | _,0,_,_=>by simp[V.ns]
 | [],j+1,_,h=>by simp at h
 | v::vs,j+1,ha,h=>by
   simp only[List.take_succ_cons,V.ns,ha v Zad];rw[eM vs j (fun x hx=>ha x (by simp[hx])) Zbq];rw[Nat.add_mul];omega
theorem su:∀ (p:List Nat) {v u:V} {g o g' o':Nat} {F},At w Pb v g o F->V.at g o v p=some (g',o',u)->∃ F',At w Pb u g' o' F'/\∀ x,x∈F'->x∈F
 | [],v,u,g,o,g',o',F,h,e=>by
   simp only[V.at,Zan,Zaq]at e;obtain⟨rfl,rfl,rfl⟩:=e;exact⟨F,h,fun _ h=>h⟩
 | j::p,v,u,g,o,g',o',F,h,e=>by
   simp only[V.at]at e;obtain⟨cs,cells,hb,hr,hc⟩:=h;split at e;rename_i vs;split at e;rename_i x hx;simp only[R]at hr;obtain⟨c,F',I8,hF,Po⟩:=ia vs hr hx;obtain⟨Qo,h2,hF2⟩:=su p (v:=x) ⟨c,cells,hb,I8,fun i u hu=>by rw[Zbj];exact hc _ _ (Po i u hu)⟩ e;exact⟨Qo,h2,fun y hy=>hF y (hF2 y hy)⟩;simp at e;rename_i sz xs g1 o1 c1;split at e;rename_i x hx;rcases hr with ⟨_,rfl,_⟩ | ⟨_,_,_,_,ha,_,flat,F',r5,rfl,hr,OZ,_,Po⟩;simp at hx;obtain⟨c,Qo,I8,hF,Q6⟩:=ia xs hr hx;have hj:j<=xs.length:=Zbr
   rw[eM xs j ha hj]at Q6;obtain⟨F3,h3,hF3⟩:=su p (v:=x) ⟨c,r5,OZ,I8,fun i u hu=>Zbs⟩ e;exact⟨F3,h3,fun y hy=>by simp[hF y (hF3 y hy)]⟩;simp at e;simp at e
theorem eP{g o:Nat}{cells:Array Value}(h:Blk w g cells):w.cell? ⟨g,o,none⟩=cells[o]? :=by
 obtain⟨e,fr,hb,_⟩:=h;simp[World.cell?,hb]
theorem eH(g o j:Nat):(⟨g,o,none⟩:Addr).add j=⟨g,o+j,none⟩:=by unfold Addr.add;split <;> simp_all
theorem zg{P:Program}{T:Nat}{i:TI}(h:ti P T=some i):(isAgg T).run P w=.ok i.d.agg w:=by
 obtain⟨inf,d,_,h2,_,_,h5⟩:=ke h;unfold isAgg;simp only[Za0,aV h2,Zas];rw[<- h5];cases d <;> rfl
theorem dA{P:Program}{T:Nat}{i:TI}(h:ti P T=some i):(sizeOf T).run P w=.ok i.sz w:=by
 obtain⟨inf,d,h1,_,h3,_,_⟩:=ke h;simp[sizeOf,typeInfo,h1,h3]
theorem ob{P:Program} {T:Nat} {i:TI} (h:ti P T=some i) {v:V} {cs:List Value} {g o:Nat} {F} (hr:R w Pb v cs F) (hn:v.n=i.sz) (ha:i.d.agg=v.isAgg)
 (hc:∀ j u,cs[j]? =some u->w.cell? ⟨g,o+j,none⟩=some u):∃ x,(loadVar T ⟨g,o,none⟩).run P w=.ok x w/\RV w Pb v x F:=by
 unfold loadVar;simp only[Za0,zg h,Zas];have hl:=eX v hr;cases v with
 | agg vs=>
   simp only[V.isAgg]at ha;rw[ha];simp only[if_true,Za0,dA h,Zas];rw[<- hn,<- hl,run_loadCells_list w _ cs (fun j v hv=>by rw[eH];exact hc j v hv)];exact⟨_,rfl,_,rfl,hr⟩
 | tup _=>simp[R]at hr
 | gv _ _=>simp[R]at hr
 | c9=>
   simp only[V.isAgg]at ha;rw[ha];obtain⟨hF,x,rfl,hx⟩:=hr;have:=hc 0 x rfl;simp only[Nat.add_zero]at this;exact⟨x,by simp[this],hF⟩
 | _=>
   simp only[V.isAgg]at ha;rw[ha];simp only[V.n]at hl;obtain⟨x,rfl⟩:=List.length_eq_one_iff.1 hl;have:=hc 0 x rfl;simp only[Nat.add_zero]at this;exact⟨x,by simp[this],hr⟩
end
def lQ(P:Program)(d:Option D)(x:V)(j:Nat):Option (Prop×V):=
 match d with
 | some (.st fs)=>match fs[j]? with
   | some (off,T)=>match ti P T with
     | some i=>match x with
       | .ptr r p g o=>some (i.sz≠0,.ptr r (p++[j]) g (o+off))
       | .ep (.agg vs)=>match vs[j]? with
         | some v=>some (i.sz≠0/\V.ns (vs.take j)=off,.ep v)
         | none=>none
       | _=>none
     | none=>none
   | none=>none
 | _=>none
def xV(P:Program)(d:Option D)(x:V)(j:Nat):Option (Prop×V):=
 match d with
 | some (.st fs)=>match fs[j]? with
   | some (off,T)=>match ti P T with
     | some i=>match x with
       | .agg vs=>match vs[j]? with
         | some v=>some (V.ns (vs.take j)=off/\i.sz=v.n/\i.d.agg=v.isAgg,v)
         | none=>none
       | _=>none
     | none=>none
   | none=>none
 | _=>none
def lZ(A:AS)(i:Option TI)(x:V):Option (Prop×V):=
 match i with
 | some i=>match x with
   | .ptr r p g o=>match A.at r p with
     | some (g',o',v)=>some (g'=g/\o'=o/\v.n=i.sz/\i.d.agg=v.isAgg,v.TT r p)
     | none=>none
   | .ep v=>some (v.n=i.sz/\i.d.agg=v.isAgg,v)
   | _=>none
 | none=>none
def kh(P:Program)(d:Option D)(x i:V):Option (Prop×V):=
 match d,i with
 | some (.sl e),.lit (.int _ i)=>match ti P e with
   | some t=>match x with
     | .sl _ xs=>some (0<=i/\i<xs.length/\(xs.getD i.toNat .c9).n=t.sz,.ep (xs.getD i.toNat .c9))
     | .hd r p sz g o lo n _=>some (0<=i/\i<n/\sz=t.sz,.ptr r (p++[lo+i.toNat]) g (o+(lo+i.toNat)*sz))
     | _=>none
   | none=>none
 | some (.arr n e),.lit (.int _ i)=>match ti P e with
   | some t=>match x with
     | .ptr r p g o=>some (0<=i/\i<n,.ptr r (p++[i.toNat]) g (o+i.toNat*t.sz))
     | _=>none
   | none=>none
 | _,_=>none
def EN(P:Program)(d:Option D)(x:V)(lo hi:Option V):Option (Prop×V):=
 match d with
 | some (.sl e)=>match ti P e with
   | some t=>match x with
     | .sl _ xs=>match Xf lo,WC xs.length hi with
       | some l,some h=>some (0<=l/\l<=h/\h<=xs.length/\∀ x∈xs,x.n=t.sz,.sl false ((xs.take h.toNat).drop l.toNat))
       | _,_=>none
     | .hd r p sz g o P' n c=>match Xf lo,WC n hi with
       | some l,some h=>some (0<=l/\l<=h/\h<=n/\sz=t.sz,.hd r p sz g o (P'+l.toNat) (h.toNat-l.toNat) (c-l.toNat))
       | _,_=>none
     | _=>none
   | none=>none
 | _=>none
def oH:V->Option Value
 | .lit x=>some x
 | .ptr _ _ g o=>some (.pointer (some ⟨g,o,none⟩))
 | _=>none
def kz:List V->Option (List Value)
 | []=>some []
 | v::vs=>match oH v,kz vs with
   | some x,some xs=>some (x::xs)
   | _,_=>none
def valOf:V->Option Value
 | .agg vs=>match kz vs with
   | some xs=>some (.agg xs.toArray)
   | none=>none
 | v=>oH v
def NJ:V->Option (Prop×V)
 | .ptr r p g o=>some (True,.ptr r p g o)
 | .ep v=>some (True,.ep v)
 | _=>none
def Gf:Option TypeDesc->Bool
 | some (.interface _)=>true
 | none=>true
 | _=>false
def Ng(P:Program)(T:Nat)(x:V):Option (Prop×V):=
 if Gf (P.underlying T)=true then none else match valOf x with
  | some y=>some (True,.lit (.iface T y))
  | none=>none
def zeroV(P:Program)(T:Nat):Option V:=match P.info? T with
 | some i=>i.zero.map cV
 | none=>none
def MH(P:Program)(T:Nat)(x:V):Option (Prop×V):=
 if Gf (P.underlying T)=true then none else match x,zeroV P T with
  | .lit (.iface t v),some z=>some (True,if t=T then .tup [cV v,.lit (.bool true)] else .tup [z,.lit (.bool false)])
  | .lit .nilIface,some z=>some (True,.tup [z,.lit (.bool false)])
  | _,_=>none
def MZ(fn:Fn)(a b:List V):Option (Prop×V):=match kz a,kz b with
 | some x,some y=>some (True,.lit (.func fn x.toArray y.toArray))
 | _,_=>none
def M6(P:Program)(A:AS)(op:Op):Option (Prop×V):=
 match op with
 | .load T x=>lZ A (ti P T) (A.ev x)
 | .fieldAddr T x j=>lQ P (tD P T) (A.ev x) j
 | .field T x j=>xV P (tD P T) (A.cp x) j
 | .indexAddr T x i=>kh P (tD P T) (A.ev x) (A.ev i)
 | .slice T x lo hi none=>match tD P T with
   | some .str=>Ea (some .str) (A.ev x) (lo.map A.ev) (hi.map A.ev)
   | d=>EN P d (A.ev x) (lo.map A.ev) (hi.map A.ev)
 | .nilCheck x=>NJ (A.ev x)
 | .makeInterface T x=>Ng P T (A.cp x)
 | .typeAssert x _ T true=>MH P T (A.ev x)
 | .makeFunc fn a b=>MZ fn (a.toList.map A.ev) (b.toList.map A.ev)
 | op=>R6 P A op
section
variable {w:World} {Pb Kb:Nat->Prop} {N:Nat} {A:AS} {a:Act} {F:m7->List Nat} {P:Program}
theorem jc(h:x2 N Pb Kb A a w F){r:m7}{p:List Nat}{g o:Nat}{v:V}(e:A.at r p=some (g,o,v)):∃ F',At w Pb v g o F':=by
 unfold AS.at at e;split at e;rename_i k;split at e;rename_i g' v' hk;obtain⟨F',_,hr⟩:=h.root k g' v' hk;obtain⟨Qo,h2,_⟩:=su p (v:=v') (g:=g') (o:=0) hr e;exact⟨Qo,h2⟩;simp at e;rename_i i;split at e;rename_i sz xs g' o' c j p hi;have hr:=h.slot i;rw[hi]at hr;simp only[V.at]at e;split at e;rename_i x hx;rcases hr with ⟨_,rfl,_⟩ | ⟨_,_,_,_,ha,_,flat,F',r5,_,hr,OZ,_,Po⟩;simp at hx;obtain⟨c,Qo,I8,hF,Q6⟩:=ia xs hr hx;have hj:j<=xs.length:=Zbr
 rw[eM xs j ha hj]at Q6;obtain⟨F3,h3,_⟩:=su p (v:=x) ⟨c,r5,OZ,I8,fun i u hu=>Zbs⟩ e;exact⟨F3,h3⟩;simp at e;simp at e
theorem Gm(hs:x2 N Pb Kb A a w F){T:Nat}{x:Operand}{C:Prop}{v:V}(h:lZ A (ti P T) (A.ev x)=some (C,v))(hC:C):
 ∃ y,(Instr.loadAt T (a.eval x)).run P w=.ok y w/\RV w Pb v y []:=by
 unfold lZ at h;split at h
 case h_2=>simp at h
 rename_i i hi;obtain⟨Fx,hr⟩:=eE hs x;split at h;rename_i r p g o e;rw[e]at hr;split at h;rename_i g' o' u C4;simp only[Zan,Zaq]at h;obtain⟨rfl,rfl⟩:=h;obtain⟨rfl,rfl,hn,ha⟩:=hC;obtain⟨F',cs,cells,hb,PD,w9⟩:=jc hs C4;have hx:a.eval x=.pointer (some ⟨g',o',none⟩):=by have:=hr.2;simpa using this
 obtain⟨y,hy,I8⟩:=ob (w:=w) hi (lF r u p PD) (g:=g') (o:=o') (by
  have:(u.TT r p).n=u.n:=by
   have h1:=eX _ (lF r u p PD);have h2:=eX _ PD;omega
  omega) (by rw[ha];cases u <;> rfl) (fun j u hu=>by rw[eP hb];exact w9 j u hu)
 exact⟨y,by simp only[Instr.loadAt,hx,Instr.sureAddr,Za0,Za1,Zas,hy],I8⟩;simp at h;rename_i u e;rw[e]at hr;simp only[Zan,Zaq]at h;obtain⟨rfl,rfl⟩:=h;obtain⟨hn,ha⟩:=hC;obtain⟨_,b,o,flat,hx,hb,PD,w9⟩:=hr;have hx:a.eval x=.pointer (some ⟨b,o,none⟩):=Zbt
 obtain⟨y,hy,I8⟩:=ob (w:=w) hi PD hn ha w9;exact⟨y,by simp only[Instr.loadAt,hx,Instr.sureAddr,Za0,Za1,Zas,hy],I8⟩;simp at h
theorem En{T:Nat}{fs:List (Nat×Nat)}(h:tD P T=some (.st fs)):∃ fl:Array Field,P.underlying T=some (.struct fl)/\fl.toList.map (fun f=>(f.offset,f.type))=fs:=by
 obtain⟨td,hu,hd⟩:=dq h;cases td <;> simp[dX]at hd;rename_i fl;exact⟨fl,hu,hd⟩
theorem Ay{fl:Array Field}{fs:List (Nat×Nat)}(h:fl.toList.map (fun f=>(f.offset,f.type))=fs){j off T:Nat}(e:fs[j]? =some (off,T)):∃ f,fl[j]? =some f/\f.offset=off/\f.type=T:=by
 subst h;simp only[List.getElem?_map]at e;cases hf:fl.toList[j]? with
 | none=>rw[hf]at e;simp at e
 | some f=>rw[hf]at e;simp at e;exact⟨f,by simpa using hf,e⟩
theorem yH(hs:x2 N Pb Kb A a w F){T:Nat}{x:Operand}{j:Nat}{C:Prop}{v:V}(h:lQ P (tD P T) (A.ev x) j=some (C,v))(hC:C):
 ∃ y,(Instr.fieldAt T (a.eval x) j).run P w=.ok y w/\RV w Pb v y []:=by
 unfold lQ at h;split at h
 case h_2=>simp at h
 rename_i fs hT;split at h
 case h_2=>simp at h
 rename_i off T' hj;split at h
 case h_2=>simp at h
 rename_i i hi;obtain⟨fl,hu,hfl⟩:=En hT;obtain⟨f,hf,ho,ht⟩:=Ay hfl hj;obtain⟨Fx,hr⟩:=eE hs x;split at h;rename_i r p g o e;rw[e]at hr;simp only[Zan,Zaq]at h;obtain⟨rfl,rfl⟩:=h;have hx:a.eval x=.pointer (some ⟨g,o,none⟩):=by have:=hr.2;simpa using this
 refine⟨.pointer (some ⟨g,o+off,none⟩),?_,rfl,rfl⟩;simp only[Instr.fieldAt,Za0,aV hu,Zas,hf,hx,Instr.sureAddr,Za1,fieldPlace,ht,dA hi,if_neg hC,ho,eH]
 · rename_i vs e;rw[e]at hr;split at h
   case h_2=>simp at h
   rename_i u Xq;simp only[Zan,Zaq]at h;obtain⟨rfl,rfl⟩:=h;obtain⟨h0,XA⟩:=hC;obtain⟨_,b,o,flat,hx,hb,PD,w9⟩:=hr;have hx:a.eval x=.pointer (some ⟨b,o,none⟩):=Zbt
   simp only[R]at PD;obtain⟨c,F',I8,hF,Po⟩:=ia vs PD Xq;have Rj:F'=[]:=List.eq_nil_iff_forall_not_mem.2 fun g hg=>by simpa using hF g hg
   subst Rj;refine⟨.pointer (some ⟨b,o+off,none⟩),?_,rfl,b,o+off,c,rfl,hb,I8,fun i u hu=>by rw[<- XA,Zbj];exact w9 _ _ (Po i u hu)⟩;simp only[Instr.fieldAt,Za0,aV hu,Zas,hf,hx,Instr.sureAddr,Za1,fieldPlace,ht,dA hi,if_neg h0,ho,eH]
 simp at h
theorem EJ(hs:x2 N Pb Kb A a w F){T:Nat}{x:Operand}{j:Nat}{C:Prop}{v:V}(h:xV P (tD P T) (A.cp x) j=some (C,v))(hC:C):
 ∃ y,(Instr.field T (a.eval x) j).run P w=.ok y w/\RV w Pb v y []:=by
 unfold xV at h;split at h
 case h_2=>simp at h
 rename_i fs hT;split at h
 case h_2=>simp at h
 rename_i off T' hj;split at h
 case h_2=>simp at h
 rename_i i hi;obtain⟨fl,hu,hfl⟩:=En hT;obtain⟨f,hf,ho,ht⟩:=Ay hfl hj;have hr:=rT hs x;split at h
 case h_2=>simp at h
 rename_i vs e;rw[e]at hr;split at h
 case h_2=>simp at h
 rename_i u Xq;simp only[Zan,Zaq]at h;obtain⟨rfl,rfl⟩:=h;obtain⟨XA,hn,ha⟩:=hC;obtain⟨cs,hx,hr⟩:=hr;obtain⟨c,F',I8,hF,Po⟩:=ia vs hr Xq;have Rj:F'=[]:=List.eq_nil_iff_forall_not_mem.2 fun g hg=>by simpa using hF g hg
 subst Rj;have hl:=eX _ I8;simp only[Instr.field,Za0,aV hu,Zas,hf,hx,asAgg,Za1,part,ht,zg hi,ho];rw[XA]at Po;cases u with
 | agg us=>
   simp only[V.isAgg]at ha;rw[ha];simp only[if_true,Za0,dA hi,Zas,Za1];refine⟨_,rfl,_,rfl,?_⟩;have hcs:(cs.extract off (off+i.sz)).toList=c:=by
    apply List.ext_getElem?;intro k;by_cases hk:k<c.length;have h1:=Po k _ (Zat hk);rw[Zat hk];simp only[Array.getElem?_toList]at h1 ⊢;rw[Array.getElem?_extract];have hlt:=(Zbh.1 h1).1;rw[if_pos Zac];exact h1;have hz:(cs.extract off (off+i.sz)).toList.length<=i.sz:=by
     rw[Array.length_toList,Array.size_extract];omega
    rw[List.getElem?_eq_none Zac,List.getElem?_eq_none Zac]
   rw[hcs];simp only[R]at I8;exact I8
 | tup _=>simp[R]at I8
 | gv _ _=>simp[R]at I8
 | c9=>
   simp only[V.isAgg]at ha;rw[ha];obtain⟨_,y,rfl,hy⟩:=I8;have h1:=Po 0 y rfl;simp only[Nat.add_zero,Array.getElem?_toList]at h1;exact⟨y,by simp[h1],rfl⟩
 | _=>
   simp only[V.isAgg]at ha;rw[ha];simp only[V.n]at hl;obtain⟨y,rfl⟩:=List.length_eq_one_iff.1 hl;have h1:=Po 0 y rfl;simp only[Nat.add_zero,Array.getElem?_toList]at h1;exact⟨y,by simp[h1],I8⟩
theorem jw{T e:Nat}(h:tD P T=some (.sl e)):P.underlying T=some (.slice e):=by
 obtain⟨td,hu,hd⟩:=dq h;cases td <;> simp[dX]at hd;subst hd;exact hu
theorem getD_some{xs:List V}{i:Nat}(h:i<xs.length):xs[i]? =some (xs.getD i .c9):=by
 simp[List.getD,Zat h]
theorem MV{T n e:Nat}(h:tD P T=some (.arr n e)):P.underlying T=some (.array n e):=by
 obtain⟨td,hu,hd⟩:=dq h;cases td <;> simp[dX]at hd;obtain⟨rfl,rfl⟩:=hd;exact hu
theorem yJ(hs:x2 N Pb Kb A a w F){T:Nat}{x ix:Operand}{C:Prop}{v:V}(h:kh P (tD P T) (A.ev x) (A.ev ix)=some (C,v))(hC:C):
 ∃ y,(Instr.indexAt T (a.eval x) (a.eval ix)).run P w=.ok y w/\RV w Pb v y []:=by
 unfold kh at h;split at h
 case h_3=>simp at h
 case h_2=>
  rename_i n e k i hT hi;have hu:=MV hT;split at h
  case h_2=>simp at h
  rename_i t ht;obtain⟨Fx,hr⟩:=eE hs x;split at h
  case h_2=>simp at h
  rename_i r p g o hx;rw[hx]at hr;simp only[Zan,Zaq]at h;obtain⟨rfl,rfl⟩:=h;have hv:a.eval x=.pointer (some ⟨g,o,none⟩):=by have:=hr.2;simpa using this
  refine⟨.pointer (some ⟨g,o+i.toNat*t.sz,none⟩),?_,rfl,rfl⟩;simp only[Instr.indexAt,cy hs hi,asIntOf,Za0,Za1,Zas,aV hu,hv,Instr.sureAddr,if_pos (⟨hC.1,hC.2⟩:0<=i/\i<(n:Int)),dA ht,eH]
 rename_i e k i hT hi;have hu:=jw hT;split at h
 case h_2=>simp at h
 rename_i t ht;obtain⟨Fx,hr⟩:=eE hs x;split at h;rename_i full xs hx;rw[hx]at hr;simp only[Zan,Zaq]at h;obtain⟨rfl,rfl⟩:=h;obtain⟨h0,h1,hn⟩:=hC;have hlt:i.toNat<xs.length:=Zac;obtain⟨_,A',c,hv,hl,_,hz⟩:=hr;have hv:a.eval x=.slice A' xs.length c:=by simpa using hv
 rcases hz with rfl | ⟨b,o,sz,flat,rfl,hb,_,hN,Q5,w9⟩;simp at hlt;obtain⟨cu,F',I8,hF,Po⟩:=ia xs Q5 (getD_some hlt);have Rj:F'=[]:=List.eq_nil_iff_forall_not_mem.2 fun g hg=>by simpa using hF g hg
 subst Rj;rw[eM xs _ hN Zac]at Po;have hsz:sz=t.sz:=by rw[<- hn];exact(hN _ (Za7 (getD_some hlt))).symm
 refine⟨.pointer (some ⟨b,o+i.toNat*t.sz,none⟩),?_,rfl,b,o+i.toNat*t.sz,cu,rfl,hb,I8,fun j u hu=>by rw[<- hsz,Zbj];exact w9 _ _ (Po j u hu)⟩;simp only[Instr.indexAt,cy hs hi,asIntOf,Za0,Za1,Zas,aV hu,hv,if_pos (⟨h0,h1⟩:0<=i/\i<(xs.length:Int)),dA ht,eH];rename_i r p sz g o lo n c hx;rw[hx]at hr;simp only[Zan,Zaq]at h;obtain⟨rfl,rfl⟩:=h;obtain⟨h0,h1,hn⟩:=hC;obtain⟨_,Yd,A',hv,hA⟩:=hr;have hv:a.eval x=.slice A' n c:=by simpa using hv
 obtain rfl:=hA Zac;refine⟨.pointer (some ⟨g,o+(lo+i.toNat)*sz,none⟩),?_,rfl,rfl⟩;simp only[Instr.indexAt,cy hs hi,asIntOf,Za0,Za1,Zas,aV hu,hv,if_pos (⟨h0,h1⟩:0<=i/\i<(n:Int)),dA ht,eH];subst hn;rw[Zbj,<- Nat.add_mul];simp at h
theorem qD:∀ (vs:List V) (k:Nat) {cs:List Value},RL w Pb vs cs []->∃ c':List Value,RL w Pb (vs.drop k) c' []/\∀ i u,c'[i]? =some u->cs[V.ns (vs.take k)+i]? =some u
 | vs,0,cs,h=>⟨cs,h,fun i u hu=>by simpa[V.ns] using hu⟩
 | [],k+1,cs,h=>⟨[],by simpa using⟨rfl,rfl⟩,fun i u hu=>by simp at hu⟩
 | v::vs,k+1,cs,h=>by
   obtain⟨c1,c2,F1,F2,rfl,hF,h1,h2⟩:=h;have hF2:F2=[]:=by have:=hF.symm;simp at this;exact this.2
   subst hF2;obtain⟨c',hr,hc⟩:=qD vs k h2;refine⟨c',by simpa using hr,fun i u hu=>?_⟩;have hl:=eX v h1;simp only[List.take_succ_cons,V.ns];rw[<- hl,Zbj,Za4 Zac];have e:c1.length+(V.ns (vs.take k)+i)-c1.length=V.ns (vs.take k)+i:=Zac;rw[e];exact hc i u hu
theorem qy:∀ (vs:List V) (k:Nat) {cs:List Value},RL w Pb vs cs []->∃ c':List Value,RL w Pb (vs.take k) c' []/\∀ (i:Nat) u,c'[i]? =some u->cs[i]? =some u
 | vs,0,cs,h=>⟨[],by simpa using⟨rfl,rfl⟩,fun i u hu=>by simp at hu⟩
 | [],k+1,cs,h=>⟨[],by simpa using⟨rfl,rfl⟩,fun i u hu=>by simp at hu⟩
 | v::vs,k+1,cs,h=>by
   obtain⟨c1,c2,F1,F2,rfl,hF,h1,h2⟩:=h;have Rj:=hF.symm;simp at Rj;obtain⟨rfl,rfl⟩:=Rj;obtain⟨c',hr,hc⟩:=qy vs k h2;refine⟨c1++c',⟨c1,c',[],[],rfl,rfl,h1,hr⟩,fun i u hu=>?_⟩;by_cases hi:i<c1.length;rw[Za9 hi]at hu ⊢;exact hu;rw[Za4 Zac]at hu ⊢;exact hc _ _ hu
theorem Ib(hs:x2 N Pb Kb A a w F){T:Nat}{x:Operand}{lo hi:Option Operand}{C:Prop}{v:V}(h:EN P (tD P T) (A.ev x) (lo.map A.ev) (hi.map A.ev)=some (C,v))(hC:C):
 ∃ y,(Instr.sliceAt T (a.eval x) (lo.map a.eval) (hi.map a.eval) none).run P w=.ok y w/\RV w Pb v y []:=by
 unfold EN at h;split at h
 case h_2=>simp at h
 rename_i e hT;have hu:=jw hT;split at h
 case h_2=>simp at h
 rename_i t ht;obtain⟨Fx,hr⟩:=eE hs x;split at h
 · rename_i full xs hx;rw[hx]at hr;split at h
   case h_2=>simp at h
   rename_i l h' hl hh;simp only[Zan,Zaq]at h;obtain⟨rfl,rfl⟩:=h;obtain⟨h0,h1,h2,hn⟩:=hC;have b1:(lo.map a.eval=none/\l=0)\/∃ k,lo.map a.eval=some (.int k l):=(BN hs hl).imp (fun⟨e,f⟩=>⟨by simp[e],f⟩) id;have b2:(hi.map a.eval=none/\h'=xs.length)\/∃ k,hi.map a.eval=some (.int k h'):=(yX hs hh).imp (fun⟨e,f⟩=>⟨by simp[e],f⟩) id;obtain⟨_,A',c,hv,Y8,_,hz⟩:=hr;have hv:a.eval x=.slice A' xs.length c:=by simpa using hv
   have hlen:((xs.take h'.toNat).drop l.toNat).length=h'.toNat-l.toNat:=Zal;refine⟨.slice (if c=l.toNat then A' else A'.map (·.add (l.toNat*t.sz))) (h'.toNat-l.toNat) (c-l.toNat),?_,?_⟩;simp only[Instr.sliceAt,Instr.slice,Za0,aV hu,Zas,hv,ma (w:=w) (P:=P) (sl:=true) b1 b2 h0 h1 (show h'<=(c:Nat) by omega) Y8,dA ht,Za1];refine⟨rfl,_,c-l.toNat,by rw[hlen],Zac,Zad,?_⟩;by_cases he:h'.toNat-l.toNat=0;left;exact Za5 Zac;right;rcases hz with rfl | ⟨b,o,sz,flat,rfl,hb,hsz0,hN,Q5,w9⟩;simp at h2;omega;have hsz:sz=t.sz:=by
    cases xs with
    | nil=>simp at h2;omega
    | cons x0 xs=>rw[<- hn x0 Zad];exact(hN x0 Zad).symm
   obtain⟨c1,S8,QE⟩:=qy xs h'.toNat Q5;obtain⟨c2,P1,UY⟩:=qD _ l.toNat S8;have Tq:aW sz (xs.take h'.toNat):=fun x hx=>hN x (List.mem_of_mem_take hx);rw[eM _ _ Tq Zal]at UY;rw[if_neg Zac];refine⟨b,o+l.toNat*t.sz,sz,c2,by simp[eH],hb,hsz0,fun x hx=>Tq x (List.mem_of_mem_drop hx),P1,fun j u hu=>?_⟩;rw[<- hsz,Zbj];exact w9 _ _ (QE _ _ (UY j u hu))
 · rename_i r p sz g o P' n c hx;rw[hx]at hr;split at h
   case h_2=>simp at h
   rename_i l h' hl hh;simp only[Zan,Zaq]at h;obtain⟨rfl,rfl⟩:=h;obtain⟨h0,h1,h2,hn⟩:=hC;have b1:(lo.map a.eval=none/\l=0)\/∃ k,lo.map a.eval=some (.int k l):=(BN hs hl).imp (fun⟨e,f⟩=>⟨by simp[e],f⟩) id;have b2:(hi.map a.eval=none/\h'=n)\/∃ k,hi.map a.eval=some (.int k h'):=(yX hs hh).imp (fun⟨e,f⟩=>⟨by simp[e],f⟩) id;obtain⟨_,Yd,A',hv,hA⟩:=hr;have hv:a.eval x=.slice A' n c:=by simpa using hv
   refine⟨.slice (if c=l.toNat then A' else A'.map (·.add (l.toNat*t.sz))) (h'.toNat-l.toNat) (c-l.toNat),?_,?_⟩;simp only[Instr.sliceAt,Instr.slice,Za0,aV hu,Zas,hv,ma (w:=w) (P:=P) (sl:=true) b1 b2 h0 h1 (show h'<=(c:Nat) by omega) Yd,dA ht,Za1];refine⟨rfl,Zac,_,rfl,fun hc=>?_⟩;rw[if_neg Zac,hA Zac];subst hn;simp only[Option.map_some,eH,Nat.add_mul,Zbj]
 simp at h
theorem vD{v:V}{y:Value}{cs:List Value}{F1:List Nat}(hy:oH v=some y)(h:R w Pb v cs F1):cs=[y]/\y.oneCell'=true:=by
 cases v <;> simp only[oH,Zan,reduceCtorEq]at hy;subst hy;exact⟨h.2.1,h.1⟩;subst hy;exact⟨h.2,rfl⟩
theorem Az:∀ {vs:List V} {xs cs:List Value} {F1:List Nat},kz vs=some xs->RL w Pb vs cs F1->cs=xs
 | [],xs,cs,F1,h,hr=>by simp only[kz,Zan]at h;rw[<- h,hr.1]
 | v::vs,xs,cs,F1,h,hr=>by
   simp only[kz]at h;split at h;rename_i y ys e1 e2;simp only[Zan]at h;subst h;obtain⟨c1,c2,Fa,Fb,rfl,_,h1,h2⟩:=hr;rw[(vD e1 h1).1,Az e2 h2];rfl;simp at h
theorem Bo{v:V}{y x:Value}{F1:List Nat}(hy:valOf v=some y)(h:RV w Pb v x F1):x=y:=by
 cases v with
 | agg vs=>
   simp only[valOf]at hy;split at hy;rename_i xs e;simp only[Zan]at hy;obtain⟨cs,rfl,hr⟩:=h;rw[<- hy,<- Az e hr];simp at hy
 | lit z=>have:=(vD (w:=w) (Pb:=Pb) (v:=.lit z) (y:=y) (cs:=[x]) hy h).1;simpa using this
 | ptr r p g o=>have:=(vD (w:=w) (Pb:=Pb) (v:=.ptr r p g o) (y:=y) (cs:=[x]) hy h).1;simpa using this
 | _=>simp[valOf,oH]at hy
theorem tx(hs:x2 N Pb Kb A a w F):∀ (l:List Operand) {xs:List Value},kz (l.map A.ev)=some xs->l.map a.eval=xs
 | [],xs,h=>by simpa[kz] using h
 | x::l,xs,h=>by
   simp only[Zbe,kz]at h;split at h;rename_i y ys e1 e2;simp only[Zan]at h;subst h;obtain⟨Fx,hr⟩:=eE hs x;have:valOf (A.ev x)=some y:=by
    cases hv:A.ev x <;> rw[hv]at e1 <;> simp only[oH,reduceCtorEq,Zan]at e1 <;> simp[valOf,oH,e1]
   rw[Zbe,Bo this hr,tx hs l e2];simp at h
theorem zJ{T:Nat}(h: ¬ Gf (P.underlying T)=true):∃ d,P.underlying T=some d/\∀ m,d≠.interface m:=by
 cases e:P.underlying T with
 | none=>rw[e]at h;exact absurd rfl h
 | some d=>exact⟨d,rfl,fun m c=>by rw[e,c]at h;exact h rfl⟩
theorem yi{op:Op}{C:Prop}{v:V}(h:M6 P A op=some (C,v))(hC:C)(hs:x2 N Pb Kb A a w F){o:Oper}(ho:o.op=op):
 ∃ x,(execOp a.eval o).run P w=.ok (.value x) w/\RV w Pb v x []:=by
 unfold M6 at h;split at h;obtain⟨y,hy,hr⟩:=Gm hs h hC;exact⟨y,Zbu,hr⟩;obtain⟨y,hy,hr⟩:=yH hs h hC;exact⟨y,Zbu,hr⟩;obtain⟨y,hy,hr⟩:=EJ hs h hC;exact⟨y,Zbu,hr⟩;obtain⟨y,hy,hr⟩:=yJ hs h hC;exact⟨y,Zbu,hr⟩;rename_i T x lo hi;split at h;rename_i hT;refine Dw (op:=.slice T x lo hi none) (C:=C) (v:=v) ?_ hC hs ho;unfold R6;simp only[hT];exact h;obtain⟨y,hy,hr⟩:=Ib hs h hC;exact⟨y,by simp only[execOp,ho,Za0,hy,Option.map_none,Zas,Za1],hr⟩;rename_i x;unfold NJ at h;obtain⟨Fx,hr⟩:=eE hs x;split at h <;> rename_i e <;> simp only[Zan,Zaq,reduceCtorEq]at h <;> obtain⟨_,rfl⟩:=h <;> rw[e]at hr;have hx:=(List.cons.inj hr.2).1;have hx:a.eval x=.pointer (some ⟨_,_,none⟩):=hx;exact⟨_,by simp only[execOp,ho,hx];rfl,⟨rfl,rfl⟩⟩;have h1:=hr.1;obtain⟨_,b,o',flat,hx,h2⟩:=hr;have hx:=(List.cons.inj hx).1;exact⟨_,by simp only[execOp,ho,hx];rfl,⟨rfl,b,o',flat,rfl,h2⟩⟩;rename_i T x;unfold Ng at h;split at h;simp at h;rename_i hi;obtain⟨d,hd,hn⟩:=zJ hi;split at h;rename_i y e;simp only[Zan,Zaq]at h;obtain⟨_,rfl⟩:=h;have hx:=Bo e (rT hs x);refine⟨.iface T y,?_,dJ rfl⟩;have:(Instr.makeInterface T (a.eval x)).run P w=.ok (.iface T y) w:=by
  rw[hx];simp only[Instr.makeInterface,Za0,aV hd,Zas];cases d <;> first | rfl | exact absurd rfl (hn _)
 simp only[execOp,ho,Za0,this,Zas,Za1];simp at h
 · rename_i x xT T;unfold MH at h;split at h;simp at h;rename_i hi;obtain⟨d,hd,hn⟩:=zJ hi;have zr:∀ z,zeroV P T=some z->∃ y,(zeroValue T).run P w=.ok y w/\RV w Pb z y []:=fun z hz=>by
    unfold zeroV at hz;split at hz;rename_i i hi;simp only[Option.map_eq_some_iff]at hz;obtain⟨y,hy,rfl⟩:=hz;exact⟨y,by simp[zeroValue,typeInfo,hi,hy],uh y⟩;simp at hz
   have tu:∀ (v1:V) (x1:Value) (b:Bool),RV w Pb v1 x1 []->((∀ us,v1≠.tup us)/\∀ b u,v1≠.gv b u)->RV w Pb (.tup [v1,.lit (.bool b)]) (.tuple #[x1,.bool b]) []:=fun v1 x1 b h1 XD=>by
    refine⟨_,rfl,x1,[.bool b],[],[],rfl,rfl,?_,.bool b,[],[],[],rfl,rfl,⟨rfl,rfl,rfl⟩,rfl,rfl⟩;cases v1 with
    | tup us=>exact absurd rfl (XD.1 us)
    | gv b u=>exact absurd rfl (XD.2 b u)
    | _=>exact h1
   have cvn:∀ y:Value,(∀ us,cV y≠.tup us)/\∀ b u,cV y≠.gv b u:=fun y=>by
    constructor <;> intros <;> unfold cV <;> repeat' split
    all_goals first | (solve | simp) | (unfold VT;split <;> simp)
   have zn:∀ z,zeroV P T=some z->(∀ us,z≠.tup us)/\∀ b u,z≠.gv b u:=fun z hz=>by
    unfold zeroV at hz;split at hz;simp only[Option.map_eq_some_iff]at hz;obtain⟨y,hy,rfl⟩:=hz;exact cvn y;simp at hz
   split at h;rename_i t v z hx hz;simp only[Zan,Zaq]at h;obtain⟨_,rfl⟩:=h;have hx:=cy hs hx;obtain⟨y,hy,YQ⟩:=zr z hz;by_cases ht:t=T;refine⟨.tuple #[v,.bool true],?_,by rw[if_pos ht];exact tu _ _ _ (uh v) (cvn v)⟩;have:(Instr.typeAssert (a.eval x) xT T true).run P w=.ok (.tuple #[v,.bool true]) w:=by
    rw[hx];simp only[Instr.typeAssert,Za0,aV hd,Zas];cases d <;> first | exact absurd rfl (hn _) | simp[ht]
   simp only[execOp,ho,Za0,this,Zas,Za1];refine⟨.tuple #[y,.bool false],?_,by rw[if_neg ht];exact tu _ _ _ YQ (zn z hz)⟩;have:(Instr.typeAssert (a.eval x) xT T true).run P w=.ok (.tuple #[y,.bool false]) w:=by
    rw[hx];simp only[Instr.typeAssert,Za0,aV hd,Zas];cases d <;> first | exact absurd rfl (hn _) | simp[ht,hy]
   simp only[execOp,ho,Za0,this,Zas,Za1];rename_i z hx hz;simp only[Zan,Zaq]at h;obtain⟨_,rfl⟩:=h;have hx:=cy hs hx;obtain⟨y,hy,YQ⟩:=zr z hz;refine⟨.tuple #[y,.bool false],?_,tu _ _ _ YQ (zn z hz)⟩;have:(Instr.typeAssert (a.eval x) xT T true).run P w=.ok (.tuple #[y,.bool false]) w:=by
    rw[hx];simp only[Instr.typeAssert,Za0,aV hd,Zas];cases d <;> first | exact absurd rfl (hn _) | simp[hy]
   simp only[execOp,ho,Za0,this,Zas,Za1];simp at h
 rename_i fn p q;unfold MZ at h;split at h;rename_i xs ys e1 e2;simp only[Zan,Zaq]at h;obtain⟨_,rfl⟩:=h;refine⟨.func fn xs.toArray ys.toArray,?_,dJ rfl⟩;have h1:p.map a.eval=xs.toArray:=by apply Array.ext';simpa using tx hs _ e1
 have h2:q.map a.eval=ys.toArray:=by apply Array.ext';simpa using tx hs _ e2
 simp only[execOp,ho,h1,h2];rfl;simp at h;exact Dw h hC hs ho
end
section
variable {w:World} {Pb Kb:Nat->Prop} {N:Nat} {A A':AS} {a:Act} {F:m7->List Nat} {P:Program}
theorem yo{v:V}{x:Value}{F:List Nat}(ho:v.dE=false)(h:RV w Pb v x F):F=[]:=by
 cases v with
 | tup vs=>obtain⟨xs,_,h⟩:=h;exact vj vs (by simpa[V.dE] using ho) h
 | gv _ _=>exact h.1
 | agg us=>obtain⟨cs,_,h⟩:=h;exact gQ us (by simpa[V.dE] using ho) h
 | c9=>exact h
 | own sz xs g o c=>exact jH (w:=w) (Pb:=Pb) _ ho h
 | ow sz xs=>exact jH (w:=w) (Pb:=Pb) _ ho h
 | om es g=>exact jH (w:=w) (Pb:=Pb) _ ho h
 | mp es=>exact jH (w:=w) (Pb:=Pb) _ ho h
 | lit x=>exact jH (w:=w) (Pb:=Pb) _ ho h
 | sl f xs=>exact jH (w:=w) (Pb:=Pb) _ ho h
 | hd r p sz g o lo n c=>exact jH (w:=w) (Pb:=Pb) _ ho h
 | ptr r p g o=>exact jH (w:=w) (Pb:=Pb) _ ho h
 | ep v=>exact jH (w:=w) (Pb:=Pb) _ ho h
def AS.drop(A:AS):Operand->AS
 | .tmp i=>if (A.get i).dE then A.put (some i) .c9 else A
 | _=>A
def AS.le(A' A:AS):Prop:=(∀ i,A'.get i=.c9\/A'.get i=A.get i)/\(∀ k,lk k A'.h=none\/lk k A'.h=lk k A.h)
open Classical in
theorem x2.le(hs:x2 N Pb Kb A a w F)(h:A'.le A):∃ F',x2 N Pb Kb A' a w F'/\∀ r g,g∈F' r->g∈F r:=by
 refine⟨fun r=>match r with | .slot i=>if A'.get i=.c9 then [] else F (.slot i) | .key k=>if lk k A'.h=none then [] else F (.key k),?_,?_⟩;have key:∀ r g,g∈(match r with | .slot i=>if A'.get i=.c9 then [] else F (.slot i) | .key k=>if lk k A'.h=none then [] else F (.key k):List Nat)->g∈F r:=by
  intro r g hg;cases r <;> simp only at hg <;> split at hg <;> simp_all
 refine⟨hs.size,hs.defers,fun i=>?_,fun k g v hk=>?_,fun r r' hne g hg=>?_,fun r=>?_,fun r g hg=>hs.free r g (key r g hg),hs.sub,hs.bound⟩;rcases h.1 i with e | e;simp only[e,if_true];rfl;simp only;split;rename_i e';rw[e'];rfl;rw[e];exact hs.slot i;simp only;rw[if_neg (by rw[hk];simp)];rcases h.2 k with e | e;rw[e]at hk;simp at hk;rw[e]at hk;exact hs.root k g v hk;exact fun Sw=>hs.cM r r' hne g (key r g hg) (key r' g Sw);cases r <;> simp only <;> split <;> first | exact Zba | exact hs.nodup _
 intro r g hg;cases r <;> simp only at hg <;> split at hg <;> simp_all
theorem x2.take(hs:x2 N Pb Kb A a w F)(x:Operand):∃ Fx F',RV w Pb (A.ev x) (a.eval x) Fx/\x2 N Pb Kb (A.drop x) a w F'/\Fx.Nodup/\
 (∀ r g,g∈Fx->g ∉ F' r)/\(∀ g,g∈Fx->¬ Kb g/\g<w.heap.size)/\(∀ r g,g∈F' r->g∈F r)/\∀ g,g∈Fx->∃ r,g∈F r:=by
 cases x with
 | tmp i=>
   by_cases ho:(A.get i).dE=true;have hn:(A.drop (.tmp i))=A.put (some i) .c9:=by simp[AS.drop,ho]
   refine⟨F (.slot i),cK F (.slot i) [],hs.slot i,?_,hs.nodup _,fun r g hg=>?_,fun g hg=>hs.free _ g hg,fun r g hg=>?_,fun g hg=>⟨_,hg⟩⟩;rw[hn];refine⟨hs.size,hs.defers,fun j=>?_,fun k g v hk=>?_,fun r r' hne g hg=>?_,fun r=>?_,fun r g hg=>?_,hs.sub,hs.bound⟩;rw[AS.aO];by_cases e:j=i;subst e;simp[cK,RV,W6];have:m7.slot j≠m7.slot i:=fun c=>e (by injection c);simp only[if_neg e,cK,if_neg this];exact hs.slot j;obtain⟨F',e,hr⟩:=hs.root k g v hk;exact⟨F',by simpa[cK] using e,hr⟩;simp only[cK]at hg ⊢;split at hg;simp at hg;split;simp;exact hs.cM r r' hne g hg;simp only[cK];split;exact Zba;exact hs.nodup r;simp only[cK]at hg;split at hg;simp at hg;exact hs.free r g hg;simp only[cK];split;simp;rename_i hne;exact hs.cM _ r (Ne.symm hne) g hg;simp only[cK]at hg;split at hg;simp at hg;exact hg;have Tk:(A.get i).dE=false:=by simpa using ho
   have hF:=yo Tk (hs.slot i);refine⟨[],F,by have:=hs.slot i;rw[hF]at this;exact this,by simp[AS.drop,Tk];exact hs,Zba,Zad,Zad,fun _ _ h=>h,Zad⟩
 | const v=>exact⟨[],F,uh v,hs,Zba,Zad,Zad,fun _ _ h=>h,Zad⟩
 | global g=>exact⟨[],F,⟨rfl,rfl⟩,hs,Zba,Zad,Zad,fun _ _ h=>h,Zad⟩
 | func f=>exact⟨[],F,⟨rfl,rfl,rfl⟩,hs,Zba,Zad,Zad,fun _ _ h=>h,Zad⟩
theorem yR{o:Oper}{K:AS->Prop}{C:Prop}{v:V}(h:M6 P A o.op=some (C,v))(hC:C)(hd:dh N o.dst)(hK:K (A.put o.dst v)):J1 P N o A K:=
 jM hd hK fun _ _ _ _ _ hs=>yi h hC hs rfl
theorem wQ{o:Oper}{K:AS->Prop}{x:Operand}(ho:o.op=.assign x)(hd:dh N o.dst)(hK:K ((A.drop x).put o.dst (A.ev x))):J1 P N o A K:=by
 intro Pb Kb a w F Q hs;obtain⟨Fx,F',hr,C8,hnd,x9,hfr,_⟩:=hs.take x;unfold Oper.wp;have:(execOp a.eval o).run P w=.ok (.value (a.eval x)) w:=by simp only[execOp,ho];rfl
 rw[this,Oper.upon_value];cases PX:o.dst with
 | none=>exact⟨_,Pb,Kb,F',hK,by rw[PX];exact C8,fun _ h=>h,fun _ h=>h,fun _ h=>.inl h,B6.refl _ _⟩
 | some d=>
   rw[PX]at hd hK;exact⟨_,Pb,Kb,_,hK,C8.put hd hr (fun r _ g hg=>x9 r g hg) hnd hfr,fun _ h=>h,fun _ h=>h,fun _ h=>.inl h,B6.refl _ _⟩
def gd(ops:Array Oper)(o:Oper)(A:AS)(x y:Prop):Prop:=
 match o.guard with
 | none=>x
 | some (j,b)=>match ((ops[j]?).bind (·.dst)).map A.get with
   | some (.lit (.bool b'))=>if b'=b then x else y
   | some (.gv c (.lit (.bool b')))=>if (c&&(b'==b))=true then x else y
   | _=>False
def WL(P:Program)(N:Nat)(ops:Array Oper):List Oper->AS->(AS->Prop)->Prop
 | [],A,K=>K A
 | o::rest,A,K=>gd ops o A (J1 P N o A fun A'=>WL P N ops rest A' K) (dh N o.dst/\∃ u,(∀ w Pb,RV w Pb u undef [])/\WL P N ops rest (A.put o.dst u) K)
theorem vR{ops:Array Oper}{o:Oper}{x y:Prop}(h:gd ops o A x y)(hs:x2 N Pb Kb A a w F):
 (Region.wanted o (yielded ops a.tmps)=true/\x)\/(Region.wanted o (yielded ops a.tmps)=false/\y):=by
 unfold gd at h;unfold Region.wanted;split at h;rename_i hg;rw[hg];exact .inl ⟨rfl,h⟩;rename_i j b hg;rw[hg];split at h;rename_i b' hd;simp only[Option.map_eq_some_iff]at hd;obtain⟨d,PE,T6⟩:=hd;have hr:=hs.slot d;rw[T6]at hr;have hx:a.tmps.getD d undef=.bool b':=by have:=hr.2.1;simpa using this
 have hy:yielded ops a.tmps j=some b':=by
  unfold yielded;rw[PE];simp only[Option.bind_some];cases ht:a.tmps[d]? with
  | none=>simp[ht,undef]at hx
  | some u=>simp[ht]at hx;subst hx;rfl
 simp only[hy];split at h;rename_i e;subst e;exact .inl ⟨Zad,h⟩;rename_i e;exact .inr ⟨by simp[e],h⟩;rename_i c b' hd;simp only[Option.map_eq_some_iff]at hd;obtain⟨d,PE,T6⟩:=hd;have hr:=hs.slot d;rw[T6]at hr;obtain⟨_,S8,P1⟩:=hr;cases c with
 | false=>
   have hx:=P1 rfl;have hy:yielded ops a.tmps j=none:=by
    unfold yielded;rw[PE];simp only[Option.bind_some];cases ht:a.tmps[d]? with
    | none=>simp
    | some u=>simp[ht]at hx;subst hx;rfl
   simp only[hy];simp only[Bool.false_and,Bool.false_eq_true,if_false]at h;exact .inr ⟨Zad,h⟩
 | true=>
   have hx:a.tmps.getD d undef=.bool b':=by have:=(S8 rfl).2.1;simpa using this
   have hy:yielded ops a.tmps j=some b':=by
    unfold yielded;rw[PE];simp only[Option.bind_some];cases ht:a.tmps[d]? with
    | none=>simp[ht,undef]at hx
    | some u=>simp[ht]at hx;subst hx;rfl
   simp only[hy];simp only[Bool.true_and,Zbl]at h;split at h;rename_i e;subst e;exact .inl ⟨Zad,h⟩;rename_i e;exact .inr ⟨by simp[e],h⟩
 exact h.elim
theorem Nx.mono{K K':AS->Prop}{a':Act}{w':World}(h:Nx N Pb Kb w K a' w')(hK:∀ A,K A->K' A):Nx N Pb Kb w K' a' w':=by
 obtain⟨A',Pb',I4,F',h1,h2⟩:=h;exact⟨A',Pb',I4,F',hK _ h1,h2⟩
theorem Nx.step{K:AS->Prop} {Pb' I4:Nat->Prop} {VV:Act} {w' Vp:World} (h3:∀ g,Pb g->Pb' g) (h4:∀ g,Kb g->I4 g) (h5:∀ g,Pb' g->Pb g\/¬ Kb g) (h6:B6 Kb w w')
 (h:Nx N Pb' I4 w' K VV Vp):Nx N Pb Kb w K VV Vp:=by
 obtain⟨A2,Rf,Rn,F2,k1,k2,k3,k4,k5,k6⟩:=h;refine⟨A2,Rf,Rn,F2,k1,k2,fun g hg=>k3 g (h3 g hg),fun g hg=>k4 g (h4 g hg),fun g hg=>?_,h6.trans k6 h4⟩;rcases k5 g hg with h | h;exact h5 g h;exact .inr fun c=>h (h4 g c)
theorem tq{ops:Array Oper}{Q:Exit->Act->World->Prop}:∀ (l:List Oper) {A:AS} {K:AS->Prop} {Pb Kb:Nat->Prop} {a:Act} {w:World} {F:m7->List Nat},
 WL P N ops l A K->x2 N Pb Kb A a w F->(∀ a' w',Nx N Pb Kb w K a' w'->Q .normal a' w')->wpList P ops Q l a w
 | [],A,K,Pb,Kb,a,w,F,h,hs,hQ=>hQ _ _ ⟨A,Pb,Kb,F,h,hs,fun _ h=>h,fun _ h=>h,fun _ h=>.inl h,B6.refl _ _⟩
 | o::rest,A,K,Pb,Kb,a,w,F,h,hs,hQ=>by
   unfold wpList;rcases vR h hs with ⟨hw,h⟩ | ⟨hw,hd,u,hu,h⟩;rw[if_pos hw];refine .inl (Oper.wp_mono (K:=Nx N Pb Kb w fun A'=>WL P N ops rest A' K) ?_ (h Pb Kb a w F Q hs));intro a' w' ⟨A',Pb',I4,F',h1,h2,h3,h4,h5,h6⟩;exact tq rest h1 h2 fun VV Vp hn=>hQ VV Vp (Nx.step h3 h4 h5 h6 hn);rw[if_neg (by simp[hw])];obtain⟨F',C8⟩:=hs.rj (d:=o.dst) (v:=u) (x:=undef) hd (hu w Pb);exact tq rest h C8 hQ
def T(P:Program)(N:Nat)(c:Code)(A:AS)(Q:Exit->AS->Prop):Prop:=
 ∀ Pb Kb a w F,x2 N Pb Kb A a w F->c.wp P (fun e a' w'=>Nx N Pb Kb w (Q e) a' w') a w
theorem nk{c:Code}{Q Q':Exit->AS->Prop}(h:T P N c A Q)(hQ:∀ e A,Q e A->Q' e A):T P N c A Q':=
 fun Pb Kb a w F hs=>wp_mono (h Pb Kb a w F hs) fun e _ _ hn=>hn.mono (hQ e)
theorem Mu{Q:Exit->AS->Prop}(h:Q .normal A):T P N .skip A Q:=
 fun Pb Kb _ _ F hs=>wp_skip ⟨A,Pb,Kb,F,h,hs,fun _ h=>h,fun _ h=>h,fun _ h=>.inl h,B6.refl _ _⟩
theorem KP{l:Nat}{Q:Exit->AS->Prop}(h:Q .normal A):T P N (.label l) A Q:=
 fun Pb Kb _ _ F hs=>wp_label ⟨A,Pb,Kb,F,h,hs,fun _ h=>h,fun _ h=>h,fun _ h=>.inl h,B6.refl _ _⟩
theorem MF{i:Nat}{Q:Exit->AS->Prop}(h:Q (.exit i) A):T P N (.exit i) A Q:=
 fun Pb Kb _ _ F hs=>wp_exit ⟨A,Pb,Kb,F,h,hs,fun _ h=>h,fun _ h=>h,fun _ h=>.inl h,B6.refl _ _⟩
theorem NN{i:Nat}{Q:Exit->AS->Prop}(h:Q (.goto i) A):T P N (.goto i) A Q:=
 fun Pb Kb _ _ F hs=>wp_goto ⟨A,Pb,Kb,F,h,hs,fun _ h=>h,fun _ h=>h,fun _ h=>.inl h,B6.refl _ _⟩
theorem Oe{Q:Exit->AS->Prop}(h:Q .ret A):T P N .ret A Q:=
 fun Pb Kb _ _ F hs=>wp_ret ⟨A,Pb,Kb,F,h,hs,fun _ h=>h,fun _ h=>h,fun _ h=>.inl h,B6.refl _ _⟩
def thn(f:AS->Prop)(Q:Exit->AS->Prop):Exit->AS->Prop
 | .normal,A=>f A
 | e,A=>Q e A
theorem NY{x y:Code}{Q:Exit->AS->Prop}(h:T P N x A (thn (fun A'=>T P N y A' Q) Q)):T P N (.seq x y) A Q:=by
 intro Pb Kb a w F hs;refine wp_seq (wp_mono (h Pb Kb a w F hs) fun e a' w' hn=>?_);cases e with
 | normal=>
   obtain⟨A',Pb',I4,F',h1,h2,h3,h4,h5,h6⟩:=hn;exact wp_mono (h1 Pb' I4 a' w' F' h2) fun e _ _ hn=>Nx.step h3 h4 h5 h6 hn
 | _=>exact hn
theorem GB{c:Operand}{x y:Code}{Q:Exit->AS->Prop}{b:Bool}(hc:A.ev c=.lit (.bool b))(ht:b=true->T P N x A Q)(hf:b=false->T P N y A Q):T P N (.cond c x y) A Q:=
 fun Pb Kb a w F hs=>wp_cond_split (cy hs hc) (fun h=>ht h Pb Kb a w F hs) (fun h=>hf h Pb Kb a w F hs)
def blk(id:Nat)(Q:Exit->AS->Prop):Exit->AS->Prop
 | .exit Xg,A=>if Xg=id then Q .normal A else Q (.exit Xg) A
 | e,A=>Q e A
theorem Lm{id:Nat}{c:Code}{Q:Exit->AS->Prop}(h:T P N c A (blk id Q)):T P N (.block id c) A Q:=by
 intro Pb Kb a w F hs;refine wp_block (wp_mono (h Pb Kb a w F hs) fun e a' w' hn=>?_);cases e with
 | exit Xg=>
   simp only[Exit.inBlock];have hb:∀ A,blk id Q (.exit Xg) A=if Xg=id then Q .normal A else Q (.exit Xg) A:=fun _=>rfl;by_cases e:Xg=id;rw[if_pos e];exact hn.mono fun A h=>by rw[hb,if_pos e]at h;exact h
   rw[if_neg e];exact hn.mono fun A h=>by rw[hb,if_neg e]at h;exact h
 | _=>exact hn
theorem MD{c:Code} {Q:Exit->AS->Prop} (I:Nat->AS->Prop) (n:Nat) (h0:I n A)
 (round:∀ n A,I n A->T P N c A (thn (fun A'=> ∃ m,m<n/\I m A') Q)):T P N (.loop c) A Q:=by
 have key:∀ n A (Pb Kb:Nat->Prop) a w F,I n A->x2 N Pb Kb A a w F->∀ (b:Frame) (k:List Item) (cs:List Frame),
  ∃ e a' w',Nx N Pb Kb w (Q e) a' w'/\Arrives P (lone (b.at a (.code c :: .inLoop c::k)) cs w) b k cs e a' w':=by
  intro n;induction n using Nat.strongRecOn with
  | _ n ih=>
    intro A Pb Kb a w F hI hs b k cs;obtain⟨e,TY,Tu,hq,SD⟩:=round n A hI Pb Kb a w F hs b (.inLoop c::k) cs;cases e with
    | normal=>
      obtain⟨A',Pb',I4,F',⟨m,hm,hI'⟩,h2,h3,h4,h5,h6⟩:=hq;obtain⟨z7,a₂,SR,YW,VL⟩:=ih m hm A' Pb' I4 TY Tu F' hI' h2 b k cs;exact⟨z7,a₂,SR,Nx.step h3 h4 h5 h6 YW,.of_steps (Steps.trans SD (.one step_inLoop)) VL⟩
    | exit id=>exact⟨_,TY,Tu,hq,.pass (x:=.inLoop c) rfl (fun _ _=>.inl Zad) SD⟩
    | goto l=>exact⟨_,TY,Tu,hq,.pass (x:=.inLoop c) rfl (fun _ _=>.inl Zad) SD⟩
    | ret=>exact⟨_,TY,Tu,hq,.pass (x:=.inLoop c) rfl (fun _ _=>.inl Zad) SD⟩
    | panic ch=>exact⟨_,TY,Tu,hq,.pass (x:=.inLoop c) rfl (fun _ _=>.inl Zad) SD⟩
    | outgrown=>exact⟨_,TY,Tu,hq,.pass (x:=.inLoop c) rfl (fun _ _=>.inl Zad) SD⟩
 intro Pb Kb a w F hs b k cs;obtain⟨e,a',w',hq,SD⟩:=key n A Pb Kb a w F h0 hs b k cs;exact⟨e,a',w',hq,.of_steps (.one step_loop) SD⟩
theorem IM{id:Nat}{ops:Array Oper}{Q:Exit->AS->Prop}(h:WL P N ops ops.toList A (Q .normal)):T P N (.region id ops false) A Q:=
 fun _ _ _ _ _ hs=>wp_region_list (tq _ h hs fun _ _ hn=>hn)
end
mutual
def V.er:V->V
 | .own _ xs _ _ _=>.sl false (V.D9 xs)
 | .ow _ xs=>.sl false (V.D9 xs)
 | .om es _=>.mp es
 | .agg vs=>.agg (V.D9 vs)
 | .tup vs=>.tup (V.D9 vs)
 | .gv _ _=>.c9
 | v=>v
def V.D9:List V->List V
 | []=>[]
 | v::vs=>v.er::V.D9 vs
end
def pe(P:Program)(f:FuncId):Prop:= ∀ args w,(callFunc f args).run P w=.ok (.enter f args) w
def PC(P:Program)(f:FuncId)(args:List V)(Q:V->Prop):Prop:=
 pe P f/\∀ (w:World) (Pb:Nat->Prop) (cargs:List Value),(∀ g,Pb g->g<w.heap.size)->RVs w Pb args cargs []->
  Calls P f cargs.toArray w fun e w'=> ∃ r x F Pb',e=.returned x/\Q r/\RV w' Pb' r x F/\F.Nodup/\(∀ g,g∈F->w.heap.size<=g/\g<w'.heap.size/\¬ Pb' g)/\
   (∀ g,Pb g->Pb' g)/\(∀ g,Pb' g->Pb g\/(w.heap.size<=g/\g<w'.heap.size))/\Below w.heap.size w w'
section
variable {w w':World} {Pb Kb Pb':Nat->Prop} {N:Nat} {A A':AS} {a:Act} {F:m7->List Nat} {P:Program}
mutual
theorem JN:∀ v:V,v.er.n=v.n
 | .own .. =>rfl | .ow .. =>rfl | .om .. =>rfl | .mp .. =>rfl | .agg vs=>by simp only[V.er,V.n];exact Kx vs
 | .tup _=>rfl | .gv _ _=>rfl | .lit _=>rfl | .sl .. =>rfl | .hd .. =>rfl | .ptr .. =>rfl | .ep _=>rfl | .c9=>rfl
theorem Kx:∀ vs:List V,V.ns (V.D9 vs)=V.ns vs
 | []=>rfl | v::vs=>by simp only[V.D9,V.ns,JN v,Kx vs]
end
theorem mG:∀ vs:List V,V.D9 vs=vs.map V.er
 | []=>rfl | v::vs=>by simp[V.D9,mG vs]
mutual
theorem iS:∀ (v:V) {cs F},R w Pb v cs F->(∀ g,Pb g->Pb' g)->(∀ g,g∈F->Pb' g)->R w Pb' v.er cs []
 | .lit x,_,_,h,_,_=>⟨h.1,h.2.1,rfl⟩
 | .agg vs,_,_,h,k1,k2=>by simp only[R,V.er]at h ⊢;exact ur vs h k1 k2
 | .tup _,_,_,h,_,_=>by simp[R]at h
 | .gv _ _,_,_,h,_,_=>by simp[R]at h
 | .sl full xs,cs,F,h,k1,k2=>by
   have hF:=h.1;subst hF;exact hY (w:=w) (.sl full xs) h (fun _ _=>rfl) Zad k1 Zad
 | .own sz xs g o c,cs,F,h,k1,k2=>by
   rcases h with ⟨rfl,rfl,rfl,A,rfl⟩ | ⟨h1,h2,h3,rfl,h5,h6,flat,F',cells,rfl,hr,hb,hsz,w9⟩;exact⟨rfl,A,0,rfl,Zbc _,fun h=>by simp at h,.inl rfl⟩;refine⟨rfl,some ⟨g,o,none⟩,c,by rw[mG];simp,by rw[mG];simpa using h3,fun h=>by simp at h,?_⟩;by_cases hx:xs=[];subst hx;exact .inl rfl;refine .inr ⟨g,o,sz,flat,rfl,k2 g Zad,h2,?_,ur xs hr k1 (fun g hg=>k2 g (by simp[hg])),fun j u hu=>by rw[eP hb];exact w9 j u hu⟩;intro v hv;rw[mG]at hv;obtain⟨u,hu,rfl⟩:=List.mem_map.1 hv;rw[JN];exact h5 u hu
 | .ow sz xs,cs,F,h,k1,k2=>by
   obtain⟨g,o,c,h⟩:=h;rcases h with ⟨rfl,rfl,rfl,A,rfl⟩ | ⟨h1,h2,h3,rfl,h5,h6,flat,F',cells,rfl,hr,hb,hsz,w9⟩;exact⟨rfl,A,0,rfl,Zbc _,fun h=>by simp at h,.inl rfl⟩;refine⟨rfl,some ⟨g,o,none⟩,c,by rw[mG];simp,by rw[mG];simpa using h3,fun h=>by simp at h,?_⟩;by_cases hx:xs=[];subst hx;exact .inl rfl;refine .inr ⟨g,o,sz,flat,rfl,k2 g Zad,h2,?_,ur xs hr k1 (fun g hg=>k2 g (by simp[hg])),fun j u hu=>by rw[eP hb];exact w9 j u hu⟩;intro v hv;rw[mG]at hv;obtain⟨u,hu,rfl⟩:=List.mem_map.1 hv;rw[JN];exact h5 u hu
 | .om es g,cs,F,h,k1,k2=>⟨rfl,g,h.2.1,k2 g (by rw[h.1];simp),h.2.2.2⟩
 | .mp es,cs,F,h,k1,_=>by obtain⟨_,g,h1,h2,h3⟩:=h;exact⟨rfl,g,h1,k1 g h2,h3⟩
 | .hd ..,_,_,h,_,_=>⟨rfl,h.2⟩
 | .ptr ..,_,_,h,_,_=>⟨rfl,h.2⟩
 | .ep v,cs,F,h,k1,k2=>by
   have hF:=h.1;subst hF;exact hY (w:=w) (.ep v) h (fun _ _=>rfl) Zad k1 Zad
 | .c9,_,_,h,_,_=>⟨rfl,h.2⟩
theorem ur:∀ (vs:List V) {cs F},RL w Pb vs cs F->(∀ g,Pb g->Pb' g)->(∀ g,g∈F->Pb' g)->RL w Pb' (V.D9 vs) cs []
 | [],_,_,h,_,_=>⟨h.1,rfl⟩
 | v::vs,_,_,h,k1,k2=>by
   obtain⟨c1,c2,F1,F2,rfl,rfl,h1,h2⟩:=h;exact⟨c1,c2,[],[],rfl,rfl,iS v h1 k1 (fun g hg=>k2 g (by simp[hg])),ur vs h2 k1 (fun g hg=>k2 g (by simp[hg]))⟩
end
theorem Gn:∀ (vs:List V) {xs F},RVs w Pb vs xs F->(∀ g,Pb g->Pb' g)->(∀ g,g∈F->Pb' g)->RVs w Pb' (V.D9 vs) xs []
 | [],_,_,h,_,_=>⟨h.1,rfl⟩
 | v::vs,_,_,h,k1,k2=>by
   obtain⟨x,xs',F1,F2,rfl,rfl,h1,h2⟩:=h;refine⟨x,xs',[],[],rfl,rfl,?_,Gn vs h2 k1 (fun g hg=>k2 g (by simp[hg]))⟩;have Vb:∀ g,g∈F1->Pb' g:=fun g hg=>k2 g (by simp[hg]);cases v with
   | agg us=>obtain⟨cs,e,h1⟩:=h1;exact⟨cs,e,ur us h1 k1 Vb⟩
   | c9=>rfl
   | tup _=>simp[R]at h1
   | gv _ _=>simp[R]at h1
   | own sz xs g o c=>exact iS (w:=w) (Pb:=Pb) (.own sz xs g o c) h1 k1 Vb
   | ow sz xs=>exact iS (w:=w) (Pb:=Pb) (.ow sz xs) h1 k1 Vb
   | om es g=>exact iS (w:=w) (Pb:=Pb) (.om es g) h1 k1 Vb
   | mp es=>exact iS (w:=w) (Pb:=Pb) (.mp es) h1 k1 Vb
   | lit x=>exact iS (w:=w) (Pb:=Pb) (.lit x) h1 k1 Vb
   | sl f xs=>exact iS (w:=w) (Pb:=Pb) (.sl f xs) h1 k1 Vb
   | hd r p sz g o lo n c=>exact iS (w:=w) (Pb:=Pb) (.hd r p sz g o lo n c) h1 k1 Vb
   | ptr r p g o=>exact iS (w:=w) (Pb:=Pb) (.ptr r p g o) h1 k1 Vb
   | ep v=>exact iS (w:=w) (Pb:=Pb) (.ep v) h1 k1 Vb
theorem KA{v:V}{x:Value}{F:List Nat}(h:RV w Pb v x F)(k1:∀ g,Pb g->Pb' g)(k2:∀ g,g∈F->Pb' g):RV w Pb' v.er x []:=by
 cases v with
 | tup vs=>obtain⟨xs,e,h⟩:=h;exact⟨xs,e,Gn vs h k1 k2⟩
 | gv _ _=>rfl
 | agg us=>obtain⟨cs,e,h⟩:=h;exact⟨cs,e,ur us h k1 k2⟩
 | c9=>rfl
 | own sz xs g o c=>exact iS (w:=w) (Pb:=Pb) (.own sz xs g o c) h k1 k2
 | ow sz xs=>exact iS (w:=w) (Pb:=Pb) (.ow sz xs) h k1 k2
 | om es g=>exact iS (w:=w) (Pb:=Pb) (.om es g) h k1 k2
 | mp es=>exact iS (w:=w) (Pb:=Pb) (.mp es) h k1 k2
 | lit x=>exact iS (w:=w) (Pb:=Pb) (.lit x) h k1 k2
 | sl f xs=>exact iS (w:=w) (Pb:=Pb) (.sl f xs) h k1 k2
 | hd r p sz g o lo n c=>exact iS (w:=w) (Pb:=Pb) (.hd r p sz g o lo n c) h k1 k2
 | ptr r p g o=>exact iS (w:=w) (Pb:=Pb) (.ptr r p g o) h k1 k2
 | ep v=>exact iS (w:=w) (Pb:=Pb) (.ep v) h k1 k2
theorem x2.grow{Rf Rn:Nat->Prop} (hs:x2 N Pb Kb A a w F) (hb:∀ k,k<w.heap.size->w'.heap[k]? =w.heap[k]?) (hsz:w.heap.size<=w'.heap.size) (h1:∀ g,Pb g->Rf g)
 (h4:∀ g,Rn g->Kb g\/(w.heap.size<=g/\g<w'.heap.size)) (h5:∀ g,Rf g->Rn g):x2 N Rf Rn A a w' F where
 size:=hs.size
 defers:=hs.defers
 slot:=fun i=>oo _ (hs.slot i) (fun g hg=>hb g (hs.bound g (hs.sub g hg))) (fun g hg=>hb g (hs.free _ g hg).2) h1 (fun g hg c=>by
  have hf:=hs.free _ g hg;rcases h4 g (h5 g c) with h | h;exact hf.1 h;omega)
 root:=fun k g v hk=>by
  obtain⟨F',e,cs,cells,⟨e',fr,OZ,hfr⟩,hr,hc⟩:=hs.root k g v hk;have hin:∀ x,x∈g::F'->x<w.heap.size/\¬ Rf x:=fun x hx=>by
   have hf:=hs.free (.key k) x (by rw[e];exact hx);refine⟨hf.2,fun c=>?_⟩;rcases h4 x (h5 x c) with h | h;exact hf.1 h;omega
  exact⟨F',e,cs,cells,⟨e',fr,(hb g (hin g Zad).1).trans OZ,hfr⟩,hY _ hr (fun g hg=>hb g (hs.bound g (hs.sub g hg))) (fun x hx=>hb x (hin x (by simp[hx])).1) h1 (fun x hx=>(hin x (by simp[hx])).2),hc⟩
 cM:=hs.cM
 nodup:=hs.nodup
 free:=fun r g hg=>by
  have hf:=hs.free r g hg;refine⟨fun c=>?_,Zac⟩;rcases h4 g c with h | h;exact hf.1 h;omega
 sub:=h5
 bound:=fun g hg=>by
  rcases h4 g hg with h | h;have:=hs.bound g h;omega;exact h.2
theorem B6.BM(h:Below w.heap.size w w')(hK:∀ g,Kb g->g<w.heap.size):B6 Kb w w':=
 ⟨h.os,h.tape,h.output,h.size,fun g hg=>h.block g (hK g hg),Shp.of_eq h.block⟩
theorem vw(hs:x2 N Pb Kb A a w F):∀ xs:List Operand,RVs w Pb (xs.map A.cp) (xs.map a.eval) []
 | []=>⟨rfl,rfl⟩
 | x::xs=>by
   refine⟨a.eval x,xs.map a.eval,[],[],rfl,rfl,?_,vw hs xs⟩;have h:=rT hs x;cases hv:A.cp x with
   | tup vs=>
     exfalso;cases x with
     | tmp i=>
       simp only[AS.cp]at hv;cases hg:A.get i <;> rw[hg]at hv <;> first | (solve | simp only[V.cp,V.TT,reduceCtorEq]at hv) | (unfold V.cp at hv;simp only[V.TT,reduceCtorEq]at hv)
     | const c=>
       simp only[AS.cp,AS.ev]at hv;cases c <;> simp[cV,VT]at hv;split at hv <;> simp at hv;split at hv <;> simp at hv
     | _=>simp[AS.cp,AS.ev]at hv
   | gv b u=>
     exfalso;cases x with
     | tmp i=>
       simp only[AS.cp]at hv;cases hg:A.get i <;> rw[hg]at hv <;> first | (solve | simp only[V.cp,V.TT,reduceCtorEq]at hv) | (unfold V.cp at hv;simp only[V.TT,reduceCtorEq]at hv)
     | const c=>
       simp only[AS.cp,AS.ev]at hv;cases c <;> simp[cV,VT]at hv;split at hv <;> simp at hv;split at hv <;> simp at hv
     | _=>simp[AS.cp,AS.ev]at hv
   | agg us=>rw[hv]at h;exact h
   | c9=>rfl
   | own sz xs g o c=>rw[hv]at h;exact h
   | ow sz xs=>rw[hv]at h;exact h
   | om es g=>rw[hv]at h;exact h
   | mp es=>rw[hv]at h;exact h
   | lit x=>rw[hv]at h;exact h
   | sl f xs=>rw[hv]at h;exact h
   | hd r p sz g o lo n c=>rw[hv]at h;exact h
   | ptr r p g o=>rw[hv]at h;exact h
   | ep v=>rw[hv]at h;exact h
theorem IS{o:Oper} {K:AS->Prop} {f:FuncId} {xs:Array Operand} {Pt:Array TypeId} {Q:V->Prop} (ho:o.op=.call { callee:=.value (.func f),args:=xs,argTypes:=Pt })
 (hd:dh N o.dst) (hc:PC P f (xs.toList.map A.cp) Q) (hK:∀ r,Q r->K (A.put o.dst r)):J1 P N o A K:=by
 intro Pb Kb a w F Q' hs;unfold Oper.wp;have C9:(execOp a.eval o).run P w=.ok (.enter f (xs.map a.eval)) w:=by
  simp only[execOp,ho,resolve,Act.eval,Deferred.ofValue,Za0,Za1,Zas,invoke];have:=hc.1 (xs.map a.eval) w;simpa using this
 rw[C9,Oper.upon_enter];have hargs:=vw hs xs.toList;have Pn:=hc.2 w Pb (xs.toList.map a.eval) (fun g hg=>hs.bound g (hs.sub g hg)) hargs;have e:(xs.toList.map a.eval).toArray=xs.map a.eval:=by rw[<- Array.toList_map,Array.toArray_toList]
 rw[e]at Pn;refine Pn.mono ?_;rintro e w' ⟨r,x,Fr,Pb',rfl,hq,hr,hnd,hfr,h1,h2,hb⟩;have C8:x2 N Pb' (fun g=>Kb g\/Pb' g) A a w' F:=hs.grow hb.block hb.size h1 (fun g hg=>by
  rcases hg with h | h;exact .inl h;rcases h2 g h with h | h;exact .inl (hs.sub g h);exact .inr h) (fun g hg=>.inr hg)
 have UP:∀ g,g∈Fr->¬ (Kb g\/Pb' g)/\g<w'.heap.size:=fun g hg=>by
  obtain⟨f1,f2,f3⟩:=hfr g hg;refine⟨fun c=>?_,f2⟩;rcases c with c | c;have:=hs.bound g c;omega;exact f3 c
 have hnx:∀ A' a' F',K A'->x2 N Pb' (fun g=>Kb g\/Pb' g) A' a' w' F'->Nx N Pb Kb w K a' w':=fun A' a' F' hk Xt=>
  ⟨A',Pb',_,F',hk,Xt,h1,fun g hg=>.inl hg,fun g hg=>by
   rcases h2 g hg with h | h;exact .inl h;exact .inr fun c=>by have:=hs.bound g c;omega,B6.BM hb hs.bound⟩
 cases PX:o.dst with
 | none=>exact hnx _ _ F (hK r hq) (by rw[PX];exact C8)
 | some d=>
   rw[PX]at hd;refine hnx _ _ (cK F (.slot d) Fr) (hK r hq) ?_;rw[PX];refine C8.put hd hr (fun rt _ g hg=>?_) hnd UP;intro Po;have:=(hs.free rt g Po).2;have:=(hfr g hg).1;omega
theorem qc{o:Oper} {K:AS->Prop} {f:FuncId} {xs:Array Operand} {Pt:Array TypeId} {Q:V->Prop} {E:V} (ho:o.op=.call { callee:=.value (.func f),args:=xs,argTypes:=Pt })
 (hd:dh N o.dst) (hc:PC P f (xs.toList.map A.cp) Q) (hE:∀ r,Q r->r.er=E) (hK:K (A.put o.dst E)):J1 P N o A K:=by
 have Po:PC P f (xs.toList.map A.cp) (fun r=>r=E):=by
  refine⟨hc.1,fun w Pb cargs h1 h2=>(hc.2 w Pb cargs h1 h2).mono ?_⟩;rintro e w' ⟨r,x,Fr,Pb',rfl,hq,hr,hnd,hfr,k1,k2,hb⟩;refine⟨E,x,[],fun g=>Pb' g\/g∈Fr,rfl,rfl,?_,Zba,Zad,fun g hg=>.inl (k1 g hg),fun g hg=>?_,hb⟩;rw[<- hE r hq];exact KA hr (fun g hg=>.inl hg) (fun g hg=>.inr hg);rcases hg with h | h;exact k2 g h;obtain⟨f1,f2,_⟩:=hfr g h;exact .inr ⟨f1,f2⟩
 exact IS ho hd Po fun r hr=>by rw[hr];exact hK
def enum(k:Nat):List V->List (Nat×V)
 | []=>[]
 | v::vs=>(k,v)::enum (k+1) vs
def As(A:AS):ResultVar->Option (m7×V)
 | .tmp t=>some (.slot t,A.get t)
 | .cell t _=>match A.get t with
   | .ptr (.key k) [] g 0=>match lk k A.h with
     | some (g',v)=>if g'=g then some (.key k,v) else none
     | none=>none
   | _=>none
def rY(A:AS):List ResultVar->Option (List (m7×V))
 | []=>some []
 | r::rs=>match As A r,rY A rs with
   | some x,some xs=>some (x::xs)
   | _,_=>none
def rm(P:Program):List ResultVar->List (m7×V)->Prop
 | .cell _ T::rs,(_,v)::xs=>(match ti P T with | some i=>v.n=i.sz/\i.d.agg=v.isAgg | none=>False)/\rm P rs xs
 | .tmp _::rs,(_,v)::xs=>(match v with | .tup _=>False | .gv _ _=>False | _=>True)/\rm P rs xs
 | [],[]=>True
 | _,_=>False
def one(vs:List V):V:=match vs with | [v]=>v | vs=>.tup vs
theorem CI:∀ (vs:List V) (k i:Nat),lk i (enum k vs)=if k<=i then vs[i-k]? else none
 | [],k,i=>by simp[enum,lk]
 | v::vs,k,i=>by
   simp only[enum,lk];by_cases h:i=k;subst h;simp;rw[if_neg h,CI vs (k+1) i];by_cases h':k+1<=i;rw[if_pos h',if_pos Zac];have:i-k=(i-(k+1))+1:=Zac;rw[this];rfl;rw[if_neg h',if_neg Zac]
theorem HJ:∀ (vs:List V) {xs:List Value} {i:Nat} {v:V},RVs w Pb vs xs []->vs[i]? =some v->∃ x,xs[i]? =some x/\RV w Pb v x []
 | [],_,_,_,_,h=>by simp at h
 | v::vs,xs,0,u,h,hi=>by
     obtain⟨x,xs',F1,F2,rfl,hF,h1,h2⟩:=h;have hF1:F1=[]:=by have:=hF.symm;simp at this;exact this.1
     subst hF1;simp at hi;subst hi;refine⟨x,rfl,?_⟩;cases v with
     | agg us=>exact h1
     | c9=>exact h1
     | tup us=>simp[R]at h1
     | gv _ _=>simp[R]at h1
     | _=>exact h1
 | v::vs,xs,i+1,u,h,hi=>by
     obtain⟨x,xs',F1,F2,rfl,hF,h1,h2⟩:=h;have hF2:F2=[]:=by have:=hF.symm;simp at this;exact this.2
     subst hF2;obtain⟨y,hy,hr⟩:=HJ vs h2 Zbn;exact⟨y,by simpa using hy,hr⟩
theorem yQ:∀ (vs:List V) {xs:List Value} {F},RVs w Pb vs xs F->xs.length=vs.length
 | [],_,_,h=>by rw[h.1];rfl
 | v::vs,_,_,h=>by
   obtain⟨x,xs',F1,F2,rfl,_,_,h2⟩:=h;simp[yQ vs h2]
def X3(a:Act):ResultVar->Sem Value
 | .tmp t=>pure (a.tmps.getD t undef)
 | .cell t T=>do loadVar T (<- asAddr (a.tmps.getD t undef))
def R5(w:World)(Pb:Nat->Prop)(v:V)(x:Value)(F:List Nat):Prop:=match v with
 | .agg us=> ∃ cs,x=.agg cs/\RL w Pb us cs.toList F
 | .c9=>F=[]
 | v=>R w Pb v [x] F
theorem Hp{v:V}{x:Value}{F1:List Nat}(h:RV w Pb v x F1)(hn:(∀ us,v≠.tup us)/\∀ b u,v≠.gv b u):R5 w Pb v x F1:=by
 cases v with
 | tup us=>exact absurd rfl (hn.1 us)
 | gv b u=>exact absurd rfl (hn.2 b u)
 | _=>exact h
theorem No{i:Option TI}{v:V}(h:match i with | some i=>v.n=i.sz/\i.d.agg=v.isAgg | none=>False):∃ j,i=some j/\v.n=j.sz/\j.d.agg=v.isAgg:=by
 cases i with
 | none=>exact h.elim
 | some j=>exact⟨j,rfl,h⟩
instance:LawfulMonad Sem:=LawfulMonad.mk' Sem (id_map:=fun x=>by
 show x.bind (fun a=>Sem.pure (id a))=x;exact Sem.bind_pure' x)
 (pure_bind:=fun _ _=>rfl) (bind_assoc:=fun x f g=>Sem.bind_assoc' x f g)
theorem zG(hs:x2 N Pb Kb A a w F):∀ (rs:List ResultVar) {xs:List (m7×V)},rY A rs=some xs->rm P rs xs->(xs.map (·.1)).Nodup->
 ∃ (vs:List Value) (Fr:List Nat),(rs.mapM (X3 a)).run P w=.ok vs w/\
   RVs w Pb (xs.map (·.2)) vs Fr/\Fr.Nodup/\(∀ g,g∈Fr->∃ r,r∈xs.map (·.1)/\g∈F r)
 | [],xs,h,_,_=>by
   simp[rY]at h;subst h;exact⟨[],[],rfl,⟨rfl,rfl⟩,Zba,Zad⟩
 | r::rs,xs,h,Qx,hnd=>by
   simp only[rY]at h;split at h
   case h_2=>simp at h
   rename_i x xs' hx Vv;simp only[Zan]at h;subst h;simp only[Zbe,List.nodup_cons]at hnd;have hok2:rm P rs xs':=by
    obtain⟨xr,xv⟩:=x;cases r <;> exact Qx.2
   obtain⟨vs,Fr,C9,hrv,QL,hin⟩:=zG hs rs Vv hok2 hnd.2;have h1:∃ (v:Value) (F1:List Nat),(X3 a r).run P w=.ok v w/\RV w Pb x.2 v F1/\((∀ us,x.2≠.tup us)/\∀ b u,x.2≠.gv b u)/\F1.Nodup/\∀ g,g∈F1->g∈F x.1:=by
    cases r with
    | tmp t=>
      simp only[As,Zan]at hx;subst hx;have Qx:=Qx.1;exact⟨_,F (.slot t),rfl,hs.slot t,⟨fun us e=>by have e':A.get t=.tup us:=e;rw[e']at Qx;exact Qx,fun b u e=>by have e':A.get t=.gv b u:=e;rw[e']at Qx;exact Qx⟩,hs.nodup _,fun _ h=>h⟩
    | cell t T=>
      simp only[As]at hx;split at hx
      case h_2=>simp at hx
      rename_i k g hg;split at hx
      case h_2=>simp at hx
      rename_i g' v hk;split at hx
      case isFalse=>simp at hx
      rename_i e;subst e;simp only[Zan]at hx;subst hx;have VB:=Qx.1;obtain⟨i,hi,VB⟩:=No VB;obtain⟨F',e,cs,cells,hb,hr,hc⟩:=hs.root k g' v hk;have hp:=hs.slot t;rw[hg]at hp;have hp:a.tmps.getD t undef=.pointer (some ⟨g',0,none⟩):=by have:=hp.2;simpa using this
      obtain⟨y,hy,YQ⟩:=ob (w:=w) hi hr VB.1 VB.2 (g:=g') (o:=0) (fun j u hu=>by rw[eP hb];exact hc j u hu);refine⟨y,F',by simp only[X3,hp,asAddr,Za0,Za1,Zas,hy],YQ,?_,?_,?_⟩;exact⟨fun us e=>by simp only at e;subst e;simp[R]at hr,fun b u e=>by simp only at e;subst e;simp[R]at hr⟩;have:=hs.nodup (.key k);rw[e]at this;exact(List.nodup_cons.1 this).2;intro g hg;rw[e];simp[hg]
   obtain⟨v,F1,hv,S8,hnt,XC,Y'⟩:=h1;refine⟨v::vs,F1++Fr,?_,?_,?_,?_⟩;rw[List.mapM_cons];simp only[Za0,Za1];rw[hv];simp only[Zas,C9];exact⟨v,vs,F1,Fr,rfl,rfl,Hp S8 hnt,hrv⟩;refine List.nodup_append.2 ⟨XC,QL,fun p hp q hq e=>?_⟩;subst e;obtain⟨r',I8,Sw⟩:=hin p hq;exact hs.cM x.1 r' (fun c=>hnd.1 (by rw[c];exact I8)) p (Y' p hp) Sw;intro g hg;rcases Zax.1 hg with h | h;exact⟨x.1,Zad,Y' g h⟩;obtain⟨r',I8,Sw⟩:=hin g h;exact⟨r',by simp only[Zbe,List.mem_cons];exact .inr I8,Sw⟩
theorem Gw:∀ (us:List V) {vs:List Value} {Fr:List Nat},RVs w Pb us vs Fr->RV w Pb (one us) (if h:vs.toArray.size=1 then vs.toArray[0] else .tuple vs.toArray) Fr
 | [],vs,Fr,h=>by obtain⟨rfl,rfl⟩:=h;exact⟨#[],rfl,rfl,rfl⟩
 | [v],vs,Fr,h=>by
   obtain⟨x,xs',F1,F2,rfl,rfl,h1,h2⟩:=h;obtain⟨rfl,rfl⟩:=h2;simp only[List.append_nil];show RV w Pb v x F1;cases v with
   | tup _=>simp[R]at h1
   | gv _ _=>simp[R]at h1
   | _=>exact h1
 | v::v'::us,vs,Fr,h=>by
   have hl:=yQ _ h;rw[dif_neg (by simp at hl ⊢;omega)];exact⟨vs.toArray,rfl,Zbq⟩
theorem Cv(hs:x2 N Pb Kb A a w F){fn:Func}{xs:List (m7×V)}(h1:rY A fn.results.toList=some xs)(h2:rm P fn.results.toList xs)(h3:(xs.map (·.1)).Nodup):
 ∃ x Fr,(results fn a.tmps).run P w=.ok x w/\RV w Pb (one (xs.map (·.2))) x Fr/\Fr.Nodup/\∀ g,g∈Fr->∃ r,r∈xs.map (·.1)/\g∈F r:=by
 obtain⟨vs,Fr,C9,hrv,hnd,hin⟩:=zG hs _ h1 h2 h3;have hm:(fn.results.mapM (X3 a)).run P w=.ok vs.toArray w:=by
  rw[<- Array.toArray_toList (xs:=fn.results),List.mapM_toArray,Sem.run_map,C9];rfl
 have hfun:(results fn a.tmps).run P w=.ok (if h:vs.toArray.size=1 then vs.toArray[0] else .tuple vs.toArray) w:=by
  show ((fn.results.mapM (X3 a)).bind _).run P w=_;have:=Za0 (P:=P) (w:=w) (x:=fn.results.mapM (X3 a)) (f:=fun vs=>(pure (if h:vs.size=1 then vs[0] else .tuple vs):Sem Value));rw[hm]at this;exact this
 exact⟨_,Fr,hfun,Gw _ hrv,hnd,hin⟩
end
def Str(l:BL):ByteArray:=⟨l.toArray⟩
theorem iJ(l:BL):(Str l).size=l.length:=by simp[Str,ByteArray.size]
theorem Lt(a b:BL):Str a++Str b=Str (a++b):=by
 apply ByteArray.ext;simp[Str]
theorem Lk(l:BL)(i j:Nat):(Str l).extract i j=Str ((l.take j).drop i):=by
 apply ByteArray.ext;rw[ByteArray.data_extract];simp[Str,List.extract,List.drop_take]
theorem Nj(l:BL)(i:Int):btV (Str l) i=.lit (.int .u8 (l.getD i.toNat 0).toNat):=by
 unfold btV Str;simp[Array.getD,List.getD];split <;> simp_all
def Nu(P:Program)(N:Nat):List Oper->AS->Prop×AS×List Oper
 | [],A=>(True,A,[])
 | o::rest,A=>match o.guard with
   | some _=>(True,A,o::rest)
   | none=>match o.op with
     | .assign x=>match Nu P N rest ((A.drop x).put o.dst (A.ev x)) with
       | (C,r)=>(dh N o.dst/\C,r)
     | op=>match M6 P A op with
       | some (C,v)=>match Nu P N rest (A.put o.dst v) with
         | (C',r)=>(dh N o.dst/\C/\C',r)
       | none=>(True,A,o::rest)
theorem eU{P:Program}{f:FuncId}{fn:Func}(hf:P.funcs[f]? =some fn)(hn:(fn.name== "runtime.NumGoroutine")=false)(hb:fn.body.isNone=false):pe P f:=by
 intro args w;unfold callFunc;simp only[Za0,run_program,Zas,hf,hn,hb,Bool.false_eq_true,if_false,Za1]
def V.set(v:V):List Nat->V->V
 | [],u=>u
 | j::p,u=>match v with
   | .agg vs=>match vs[j]? with
     | some x=>.agg (vs.set j (V.set x p u))
     | none=>v
   | .own sz xs g o c=>match xs[j]? with
     | some x=>.own sz (xs.set j (V.set x p u)) g o c
     | none=>v
   | _=>v
section
variable {w w':World} {Pb Kb:Nat->Prop}
def W8(w:World)(Pb:Nat->Prop)(vs:List V)(g o:Nat)(F:List Nat):Prop:=
 ∃ cs cells,Blk w g cells/\RL w Pb vs cs F/\∀ j u,cs[j]? =some u->cells[o+j]? =some u
theorem vN{v:V}{vs:List V}{g o:Nat}{F:List Nat}:W8 w Pb (v::vs) g o F↔∃ F1 F2,F=F1++F2/\At w Pb v g o F1/\W8 w Pb vs g (o+v.n) F2:=by
 constructor;rintro⟨cs,cells,hb,⟨c1,c2,F1,F2,rfl,rfl,h1,h2⟩,hc⟩;refine⟨F1,F2,rfl,⟨c1,cells,hb,h1,fun j u hu=>hc j u ?_⟩,⟨c2,cells,hb,h2,fun j u hu=>?_⟩⟩;rw[Za9 (Za3.1 hu).1];exact hu;have hl:=eX v h1;rw[<- hl,Zbj];refine hc _ u ?_;rw[Za4 Zac];have e:c1.length+j-c1.length=j:=Zac;rw[e];exact hu;rintro⟨F1,F2,rfl,⟨c1,cells,⟨e1,f1,hb,hf⟩,h1,QE⟩,⟨c2,r5,⟨e2,f2,OZ,_⟩,h2,UY⟩⟩;rw[hb]at OZ;simp only[Zan,Obj.cells.injEq]at OZ;obtain⟨rfl,_,_⟩:=OZ;refine⟨c1++c2,cells,⟨e1,f1,hb,hf⟩,⟨c1,c2,F1,F2,rfl,rfl,h1,h2⟩,fun j u hu=>?_⟩;have hl:=eX v h1;by_cases hj:j<c1.length;rw[Za9 hj]at hu;exact QE j u hu;rw[Za4 Zac]at hu;have:=UY _ u hu;rw[<- hl]at this;have e:o+c1.length+(j-c1.length)=o+j:=Zac
 rwa [e]at this
theorem Ch{vs:List V}{g o:Nat}{F:List Nat}:At w Pb (.agg vs) g o F↔W8 w Pb vs g o F:=by
 constructor;rintro⟨cs,cells,hb,h,hc⟩;exact⟨cs,cells,hb,by simpa only[R] using h,hc⟩;rintro⟨cs,cells,hb,h,hc⟩;exact⟨cs,cells,hb,by simpa only[R] using h,hc⟩
theorem zk{l:List Value}{cells:Array Value}{o:Nat}(h:∀ j u,l[j]? =some u->cells[o+j]? =some u)(hl:l≠[]):o+l.length<=cells.size:=by
 have L8:0<l.length:=List.length_pos_iff.2 hl;have:=h (l.length-1) _ (Zat Zac);have:=(Zbh.1 this).1;omega
theorem rq{v:V} {g o:Nat} {F:List Nat} (h:At w Pb v g o F) (k1:∀ x,Pb x->w'.heap[x]? =w.heap[x]?) (k2:∀ x,x∈F->w'.heap[x]? =w.heap[x]?) (k3:∀ x,x∈F->¬ Pb x)
 (k4:∀ cells,Blk w g cells->∃ r5,Blk w' g r5/\∀ j,o<=j->j<o+v.n->r5[j]? =cells[j]?):At w' Pb v g o F:=by
 obtain⟨cs,cells,hb,hr,hc⟩:=h;obtain⟨r5,OZ,he⟩:=k4 cells hb;refine⟨cs,r5,OZ,hY v hr k1 k2 (fun _ h=>h) k3,fun j u hu=>?_⟩;have hl:=eX v hr;have hj:=(Za3.1 hu).1;rw[he _ Zac Zac];exact hc j u hu
theorem Hn{vs:List V} {g o:Nat} {F:List Nat} (h:W8 w Pb vs g o F) (k1:∀ x,Pb x->w'.heap[x]? =w.heap[x]?) (k2:∀ x,x∈F->w'.heap[x]? =w.heap[x]?) (k3:∀ x,x∈F->¬ Pb x)
 (k4:∀ cells,Blk w g cells->∃ r5,Blk w' g r5/\∀ j,o<=j->j<o+V.ns vs->r5[j]? =cells[j]?):W8 w' Pb vs g o F:=by
 rw[<- Ch]at h ⊢;exact rq h k1 k2 k3 k4
structure E2 (w w':World) (g o:Nat) (cs:List Value):Prop where
 os:w'.os=w.os
 tape:w'.tape=w.tape
 output:w'.output=w.output
 size:w'.heap.size=w.heap.size
 Qy:∀ k,k≠g->w'.heap[k]? =w.heap[k]?
 shape:Shp w w'
 Rr:∀ cells,Blk w g cells->∃ r5,Blk w' g r5/\r5.size=cells.size/\(∀ j,j<o\/o+cs.length<=j->r5[j]? =cells[j]?)/\(∀ j u,cs[j]? =some u->r5[o+j]? =some u)
theorem jf:∀ (p:List Nat) {v u:V} {g o g' o':Nat} {F},At w Pb v g o F->V.at g o v p=some (g',o',u)->(g'=g/\o<=o'/\o'+u.n<=o+v.n)\/g'∈F
 | [],v,u,g,o,g',o',F,h,e=>by
   simp only[V.at,Zan,Zaq]at e;obtain⟨rfl,rfl,rfl⟩:=e;exact .inl ⟨rfl,Zbc _,Zbc _⟩
 | j::p,v,u,g,o,g',o',F,h,e=>by
   simp only[V.at]at e;split at e;rename_i vs;split at e;rename_i x hx;obtain⟨cs,cells,hb,hr,hc⟩:=h;simp only[R]at hr;obtain⟨c,F',I8,hF,Po⟩:=ia vs hr hx;rcases jf p (v:=x) ⟨c,cells,hb,I8,fun i u hu=>by rw[Zbj];exact hc _ _ (Po i u hu)⟩ e with ⟨h1,h2,h3⟩ | h1;left;refine⟨h1,Zac,?_⟩;have hle:V.ns (vs.take j)+x.n<=V.ns vs:=by
    clear e hr hc I8 Po hF h3 h2;induction vs generalizing j with
    | nil=>simp at hx
    | cons v0 vs ih=>
      cases j with
      | zero=>simp at hx;subst hx;simp[V.ns]
      | succ j=>have:=ih (j:=j) (by simpa using hx);simp only[List.take_succ_cons,V.ns];omega
   simp only[V.n];omega;exact .inr (hF _ h1);simp at e;rename_i sz xs g1 o1 c1;split at e;rename_i x hx;obtain⟨cs,cells,hb,hr,hc⟩:=h;rcases hr with ⟨_,rfl,_⟩ | ⟨_,_,_,_,ha,_,flat,F',r5,rfl,hr,OZ,_,Po⟩;simp at hx;obtain⟨c,Qo,I8,hF,Q6⟩:=ia xs hr hx;have hj:j<=xs.length:=Zbr
   rw[eM xs j ha hj]at Q6;rcases jf p (v:=x) ⟨c,r5,OZ,I8,fun i u hu=>Zbs⟩ e with ⟨h1,_⟩ | h1;right;simp[h1];right;simp[hF _ h1];simp at e;simp at e
theorem oq:∀ (p:List Nat) {v u u':V} {g o g' o':Nat},V.at g o v p=some (g',o',u)->u'.n=u.n->(v.set p u').n=v.n
 | [],v,u,u',g,o,g',o',e,h=>by
   simp only[V.at,Zan,Zaq]at e;obtain⟨_,_,rfl⟩:=e;exact h
 | j::p,v,u,u',g,o,g',o',e,h=>by
   simp only[V.at]at e;simp only[V.set];split at e;rename_i vs;split at e;rename_i x hx;have ih:=oq p e h;simp only[hx,V.n];clear e;induction vs generalizing j with
   | nil=>simp at hx
   | cons v0 vs ihv=>
     cases j with
     | zero=>simp at hx;subst hx;simp[V.ns,ih]
     | succ j=>simp only[List.set_cons_succ,V.ns];rw[ihv j (by simpa using hx)]
   simp at e;split at e;rename_i x hx;(try simp only[hx]);rfl;simp at e;simp at e
def SS(w w':World)(Pb:Nat->Prop)(p:List Nat):Prop:= ∀ (v u u':V) (g o g' o':Nat) (F Qo:List Nat) (SJ:List Value),At w Pb v g o F->(g::F).Nodup->(∀ x,x∈g::F->¬ Pb x)->V.at g o v p=some (g',o',u)->
    R w' Pb u' SJ Qo->u'.n=u.n->Qo.Nodup->(∀ x,x∈Qo->x ∉ g::F)->E2 w w' g' o' SJ->(∀ x,Pb x->w'.heap[x]? =w.heap[x]?)->
    ∃ F1,At w' Pb (v.set p u') g o F1/\(g::F1).Nodup/\∀ x,x∈F1->x∈F\/x∈Qo
theorem yq{w w':World} {Pb:Nat->Prop} {p:List Nat} (IH:SS w w' Pb p) {x u u':V} {g g' o':Nat} {Qo:List Nat} {SJ:List Value} (hr:R w' Pb u' SJ Qo) (hn:u'.n=u.n) (QL:Qo.Nodup)
 (D4:E2 w w' g' o' SJ) (k1:∀ x,Pb x->w'.heap[x]? =w.heap[x]?):
 ∀ (vs:List V) (o:Nat) (F:List Nat) (j:Nat),W8 w Pb vs g o F->(g::F).Nodup->(∀ x,x∈g::F->¬ Pb x)->(∀ x,x∈Qo->x ∉ g::F)->vs[j]? =some x->V.at g (o+V.ns (vs.take j)) x p=some (g',o',u)->
   ∃ F1,W8 w' Pb (vs.set j (x.set p u')) g o F1/\(g::F1).Nodup/\∀ y,y∈F1->y∈F\/y∈Qo:=by
 have hcs':=eX u' hr;intro vs;induction vs with
 | nil=>intro o F j _ _ _ _ hx;simp at hx
 | cons v0 vs ih=>
   intro o F j h hnd hP x9 hx e;rw[vN]at h;obtain⟨F1,F2,rfl,h1,h2⟩:=h;have O8:=List.nodup_cons.1 hnd;have T7:=List.nodup_append.1 O8.2;have Ve:g ∉ F1:=fun c=>O8.1 (by simp[c]);have ZQ:g ∉ F2:=fun c=>O8.1 (by simp[c]);cases j with
   | zero=>
     simp at hx;subst hx;simp only[List.take_zero,V.ns,Nat.add_zero]at e;have XC:(g::F1).Nodup:=List.nodup_cons.2 ⟨Ve,T7.1⟩;obtain⟨F1',hA,hN,hI⟩:=IH _ _ _ _ _ _ _ _ _ _ h1 XC (fun x hx=>hP x Zbv) e hr hn QL (fun x hx c=>x9 x hx Zbw) D4 k1;have YU:=jf p h1 e;have hA2:W8 w' Pb vs g (o+v0.n) F2:=by
      refine Hn h2 k1 (fun x hx=>D4.Qy x ?_) (fun x hx=>hP x (by simp[hx])) (fun cells hb=>?_);rintro rfl;rcases YU with ⟨rfl,_⟩ | h;exact ZQ hx;exact T7.2.2 _ h _ hx rfl;rcases YU with ⟨rfl,S8,P1⟩ | h;obtain⟨r5,OZ,_,QM,_⟩:=D4.Rr cells hb;exact⟨r5,OZ,fun j ZO _=>QM j (.inr Zac)⟩;have hne:g≠g':=fun c=>Ve (by rw[c];exact h);obtain⟨e',fr,hb,hf⟩:=hb;exact⟨cells,⟨e',fr,(D4.Qy g hne).trans hb,hf⟩,fun _ _ _=>rfl⟩
     refine⟨F1'++F2,?_,?_,?_⟩;simp only[List.set_cons_zero];rw[vN];refine⟨F1',F2,rfl,hA,?_⟩;rw[oq p e hn];exact hA2;have Tq:=List.nodup_cons.1 hN;refine List.nodup_cons.2 ⟨fun c=>?_,List.nodup_append.2 ⟨Tq.2,T7.2.1,fun x hx y hy c=>?_⟩⟩;rcases Zax.1 c with c | c;exact Tq.1 c;exact ZQ c;subst c;rcases hI x hx with h | h;exact T7.2.2 _ h _ hy rfl;exact x9 x h (by simp[hy]);intro y hy;rcases Zax.1 hy with h | h;rcases hI y h with h | h;left;simp[h];right;exact h;left;simp[h]
   | succ j=>
     simp only[List.take_succ_cons,V.ns,<- Zbj]at e;have Qu:vs[j]? =some x:=Zbt
     obtain⟨F2',hA,hN,hI⟩:=ih (o+v0.n) F2 j h2 (List.nodup_cons.2 ⟨ZQ,T7.2.1⟩) (fun x hx=>hP x Zbv) (fun x hx c=>x9 x hx Zbw) Qu e;have YU:(g'=g/\o+v0.n<=o')\/g'∈F2:=by
      obtain⟨cs,cells,hb,P1,UY⟩:=h2;obtain⟨c,F',I8,hF,Po⟩:=ia vs P1 Qu;rcases jf p (v:=x) ⟨c,cells,hb,I8,fun i u hu=>by rw[Zbj];exact UY _ _ (Po i u hu)⟩ e with ⟨h1,h2,h3⟩ | h1;exact .inl ⟨h1,Zac⟩;exact .inr (hF _ h1)
     have hA1:At w' Pb v0 g o F1:=by
      refine rq h1 k1 (fun x hx=>D4.Qy x ?_) (fun x hx=>hP x (by simp[hx])) (fun cells hb=>?_);rintro rfl;rcases YU with ⟨rfl,_⟩ | h;exact Ve hx;exact T7.2.2 _ hx _ h rfl;rcases YU with ⟨rfl,S8⟩ | h;obtain⟨r5,OZ,_,QM,_⟩:=D4.Rr cells hb;exact⟨r5,OZ,fun j _ hj=>QM j (.inl Zac)⟩;have hne:g≠g':=fun c=>ZQ (by rw[c];exact h);obtain⟨e',fr,hb,hf⟩:=hb;exact⟨cells,⟨e',fr,(D4.Qy g hne).trans hb,hf⟩,fun _ _ _=>rfl⟩
     refine⟨F1++F2',?_,?_,?_⟩;simp only[List.set_cons_succ];rw[vN];exact⟨F1,F2',rfl,hA1,hA⟩;have Tq:=List.nodup_cons.1 hN;refine List.nodup_cons.2 ⟨fun c=>?_,List.nodup_append.2 ⟨T7.1,Tq.2,fun x hx y hy c=>?_⟩⟩;rcases Zax.1 c with c | c;exact Ve c;exact Tq.1 c;subst c;rcases hI x hy with h | h;exact T7.2.2 _ hx _ h rfl;exact x9 x h (by simp[hx]);intro y hy;rcases Zax.1 hy with h | h;left;simp[h];rcases hI y h with h | h;left;simp[h];right;exact h
theorem Aw{w w':World}{Pb:Nat->Prop}:∀ p,SS w w' Pb p
 | []=>fun v u u' g o g' o' F Qo SJ h hnd hP e hr hn QL x9 D4 k1=>by
   simp only[V.at,Zan,Zaq]at e;obtain⟨rfl,rfl,rfl⟩:=e;obtain⟨cs,cells,hb,_,_⟩:=h;obtain⟨r5,OZ,_,_,Po⟩:=D4.Rr cells hb;exact⟨Qo,⟨SJ,r5,OZ,hr,Po⟩,List.nodup_cons.2 ⟨fun hg=>x9 g hg Zad,QL⟩,fun x hx=>.inr hx⟩
 | j::p=>fun v u u' g o g' o' F Qo SJ h hnd hP e hr hn QL x9 D4 k1=>by
   have IH:SS w w' Pb p:=Aw p;simp only[V.at]at e;simp only[V.set];split at e;rename_i vs;split at e;rename_i x hx
   (try simp only[hx])
   rw[Ch]at h;obtain⟨F1,h1,h2,h3⟩:=yq IH hr hn QL D4 k1 vs o F j h hnd hP x9 hx e;exact⟨F1,Ch.2 h1,h2,h3⟩;simp at e;rename_i sz xs g1 o1 c1;split at e;rename_i x hx
   (try simp only[hx])
   obtain⟨cs,cells,hb,UD,hc⟩:=h;rcases UD with ⟨_,rfl,_⟩ | ⟨SC,e9,Y8,hcs,ha,Ve,flat,F',Pa,rfl,Q5,j8,hsz,QE⟩;simp at hx;have O8:=List.nodup_cons.1 hnd;have hj:j<=xs.length:=Zbr
   have e':V.at g1 (o1+V.ns (xs.take j)) x p=some (g',o',u):=by rw[eM xs j ha hj];exact e
   obtain⟨F1,⟨P3,Ql,Ta,Xv,XP⟩,hN,hI⟩:=yq IH hr hn QL D4 k1 xs o1 F' j ⟨flat,Pa,j8,Q5,QE⟩ O8.2 (fun x hx=>hP x Zbv) (fun x hx c=>x9 x hx Zbw) hx e';have Sw:g'=g1\/g'∈F':=by
    obtain⟨c,F2,I8,hF,Po⟩:=ia xs Q5 hx;rcases jf p (v:=x) ⟨c,Pa,j8,I8,fun i u hu=>by rw[Zbj];exact QE _ _ (Po i u hu)⟩ e' with ⟨h1,_⟩ | h1;exact .inl h1;exact .inr (hF _ h1)
   have hne:g≠g':=by
    rintro rfl;rcases Sw with h | h;exact O8.1 (by simp[h]);exact O8.1 (by simp[h])
   obtain⟨e1,fr,hbg,hfr⟩:=hb;have Ux:Ql.size=Pa.size:=by
    by_cases UO:g1=g';subst UO;obtain⟨c2,⟨e2,f2,l5,_⟩,Pm,_⟩:=D4.Rr Pa j8;obtain⟨e3,f3,m8,_⟩:=Ta;rw[l5]at m8;simp only[Zan,Obj.cells.injEq]at m8;obtain⟨rfl,_,_⟩:=m8;exact Pm;obtain⟨e2,f2,l5,_⟩:=j8;obtain⟨e3,f3,m8,_⟩:=Ta;rw[D4.Qy g1 UO,l5]at m8;simp only[Zan,Obj.cells.injEq]at m8;rw[m8.1]
   refine⟨g1::F1,⟨cs,cells,⟨e1,fr,(D4.Qy g hne).trans hbg,hfr⟩,.inr ⟨SC,e9,by simpa using Y8,by simpa using hcs,?_,Ve,P3,F1,Ql,rfl,Xv,Ta,Zac,XP⟩,hc⟩,?_,?_⟩;intro y hy;rcases List.mem_or_eq_of_mem_set hy with h | h;exact ha y h;rw[h,oq p e' hn];exact ha x (Za7 hx);refine List.nodup_cons.2 ⟨fun c=>?_,hN⟩;rcases List.mem_cons.1 c with h | h;exact O8.1 (by simp[h]);rcases hI g h with h | h;exact O8.1 (by simp[h]);exact x9 g h Zad;intro y hy;rcases List.mem_cons.1 hy with h | h;left;simp[h];rcases hI y h with h | h;left;simp[h];right;exact h;simp at e;simp at e
end
section
variable {w w':World} {Pb Kb:Nat->Prop} {N:Nat} {A A':AS} {a:Act} {F:m7->List Nat} {P:Program}
mutual
theorem mf:∀ (v:V) {cs F},R w Pb v cs F->∀ c,c∈cs->c.oneCell'=true
 | .lit x,_,_,h=>by obtain⟨h1,rfl,_⟩:=h;simpa using h1
 | .agg vs,_,_,h=>by simp only[R]at h;exact sP vs h
 | .tup _,_,_,h=>by simp[R]at h
 | .gv _ _,_,_,h=>by simp[R]at h
 | .sl ..,_,_,h=>by obtain⟨_,A,c,rfl,_⟩:=h;simp[Value.oneCell']
 | .own ..,_,_,h=>by rcases h with ⟨_,_,_,A,rfl⟩ | ⟨_,_,_,rfl,_⟩ <;> simp[Value.oneCell']
 | .hd ..,_,_,h=>by obtain⟨_,_,A,rfl,_⟩:=h;simp[Value.oneCell']
 | .ow ..,_,_,h=>by obtain⟨g,o,c,h⟩:=h;rcases h with ⟨_,_,_,A,rfl⟩ | ⟨_,_,_,rfl,_⟩ <;> simp[Value.oneCell']
 | .om ..,_,_,h=>by obtain⟨_,rfl,_⟩:=h;simp[Value.oneCell']
 | .mp ..,_,_,h=>by obtain⟨_,g,rfl,_⟩:=h;simp[Value.oneCell']
 | .ptr ..,_,_,h=>by obtain⟨_,rfl⟩:=h;simp[Value.oneCell']
 | .ep _,_,_,h=>by obtain⟨_,b,o,flat,rfl,_⟩:=h;simp[Value.oneCell']
 | .c9,_,_,h=>by obtain⟨_,x,rfl,hx⟩:=h;simpa using hx
theorem sP:∀ (vs:List V) {cs F},RL w Pb vs cs F->∀ c,c∈cs->c.oneCell'=true
 | [],_,_,h=>by rw[h.1];simp
 | v::vs,_,_,h=>by
   obtain⟨c1,c2,F1,F2,rfl,_,h1,h2⟩:=h;intro c hc;rcases Zax.1 hc with h | h;exact mf v h1 c h;exact sP vs h2 c h
end
def V.isVal:V->Bool | .tup _=>false | .gv _ _=>false | .c9=>false | _=>true
theorem ic{x:Value}(h:x.oneCell'=true):x.cells= #[x]:=by cases x <;> simp[Value.oneCell']at h <;> rfl
theorem AV{v:V}{x:Value}{Fv:List Nat}(h:RV w Pb v x Fv)(hv:v.isVal=true):R w Pb v x.cells.toList Fv:=by
 cases v with
 | tup _=>simp[V.isVal]at hv
 | gv _ _=>simp[V.isVal]at hv
 | c9=>simp[V.isVal]at hv
 | agg us=>obtain⟨cs,rfl,h⟩:=h;simp only[R,Value.cells];exact h
 | own sz xs g o c=>have h:R w Pb (.own sz xs g o c) [x] Fv:=h;rw[ic (mf _ h x Zad)];exact h
 | ow sz xs=>have h:R w Pb (.ow sz xs) [x] Fv:=h;rw[ic (mf _ h x Zad)];exact h
 | om es g=>have h:R w Pb (.om es g) [x] Fv:=h;rw[ic (mf _ h x Zad)];exact h
 | mp es=>have h:R w Pb (.mp es) [x] Fv:=h;rw[ic (mf _ h x Zad)];exact h
 | lit y=>have h:R w Pb (.lit y) [x] Fv:=h;rw[ic (mf _ h x Zad)];exact h
 | sl f xs=>have h:R w Pb (.sl f xs) [x] Fv:=h;rw[ic (mf _ h x Zad)];exact h
 | hd r p sz g o lo n c=>have h:R w Pb (.hd r p sz g o lo n c) [x] Fv:=h;rw[ic (mf _ h x Zad)];exact h
 | ptr r p g o=>have h:R w Pb (.ptr r p g o) [x] Fv:=h;rw[ic (mf _ h x Zad)];exact h
 | ep v=>have h:R w Pb (.ep v) [x] Fv:=h;rw[ic (mf _ h x Zad)];exact h
theorem E2.nil(w:World)(g o:Nat):E2 w w g o []:=
 ⟨rfl,rfl,rfl,rfl,fun _ _=>rfl,Shp.refl _,fun cells hb=>⟨cells,hb,rfl,fun _ _=>rfl,fun j u hu=>by simp at hu⟩⟩
theorem E2.cons{w1 w2:World}{g o:Nat}{v:Value}{vs:List Value}(h1:E2 w w1 g o [v])(h2:E2 w1 w2 g (o+1) vs):E2 w w2 g o (v::vs):=by
 refine⟨h2.os.trans h1.os,h2.tape.trans h1.tape,h2.output.trans h1.output,h2.size.trans h1.size,fun k hk=>(h2.Qy k hk).trans (h1.Qy k hk),h1.shape.trans h2.shape,fun cells hb=>?_⟩;obtain⟨c1,j8,P7,Zc,XD⟩:=h1.Rr cells hb;obtain⟨c2,l5,Pm,Sz,Ye⟩:=h2.Rr c1 j8;refine⟨c2,l5,Pm.trans P7,fun j hj=>?_,fun j u hu=>?_⟩;simp only[Zar]at hj;rw[Sz j Zac,Zc j Zal];cases j with
 | zero=>
   simp at hu;subst hu;rw[Sz _ Zac];exact XD 0 v rfl
 | succ j=>
   have:=Ye j u (by simpa using hu);rw[<- this];congr 1;omega
theorem iz{g o:Nat}:∀ (vs:List Value) (i:Nat) (w:World) (cells:Array Value),Blk w g cells->o+i+vs.length<=cells.size->(∀ v,v∈vs->v.oneCell'=true)->
 ∃ w',(storeCells ⟨g,o,none⟩ vs i).run P w=.ok () w'/\E2 w w' g (o+i) vs
 | [],i,w,cells,_,_,_=>⟨w,rfl,E2.nil w g _⟩
 | v::vs,i,w,cells,hb,hl,h1=>by
   obtain⟨e,fr,U0,hfr⟩:=hb;simp only[Zar]at hl;have hlt:o+i<cells.size:=Zac;have hc:w.cell? ⟨g,o+i,none⟩=some cells[o+i]:=by simp[World.cell?,U0,hlt]
   have hf:w.frozen? ⟨g,o+i,none⟩=false:=by
    have:=hfr (o+i) Zac;simp only[World.frozen?,U0,Bool.and_eq_false_iff,decide_eq_false_iff_not];by_cases h:fr.1<=o+i;right;exact fun c=>this ⟨h,c⟩;left;exact h
   have D4:E2 w (w.setCell ⟨g,o+i,none⟩ v) g (o+i) [v]:=by
    refine⟨rfl,rfl,rfl,by simp[World.setCell],fun k hk=>Below.heap_setCell _ _ _ _ hk,fun k c e2 fr2 hk=>?_,fun r5 OZ=>?_⟩;by_cases hkg:k=g;subst hkg;exact⟨c.setIfInBounds (o+i) v,by simp[World.setCell,Array.getElem?_modify,hk],Zad⟩;exact⟨c,(Below.heap_setCell _ _ _ _ hkg).trans hk,rfl⟩;obtain⟨e',ZZ,OZ,hfr'⟩:=OZ;refine⟨r5.setIfInBounds (o+i) v,⟨e',ZZ,?_,by simpa using hfr'⟩,Zad,fun j hj=>?_,fun j u hu=>?_⟩;simp[World.setCell,Array.getElem?_modify,OZ];rw[Array.getElem?_setIfInBounds_ne];simp at hj;omega;cases j with
    | zero=>
      simp at hu;subst hu;rw[U0]at OZ;simp only[Zan,Obj.cells.injEq]at OZ;obtain⟨rfl,_,_⟩:=OZ;simp[hlt]
    | succ j=>simp at hu
   have j8:Blk (w.setCell ⟨g,o+i,none⟩ v) g (cells.setIfInBounds (o+i) v):=
    ⟨e,fr,by simp[World.setCell,Array.getElem?_modify,U0],by simpa using hfr⟩
   obtain⟨w',hr,PB⟩:=iz (g:=g) (o:=o) vs (i+1) _ _ j8 (by rw[Array.size_setIfInBounds];omega) (fun u hu=>h1 u (by simp[hu]));refine⟨w',?_,D4.cons (by rw[Zbj];exact PB)⟩;simp only[storeCells,Za0,eH,run_store P w _ v .plain (h1 v Zad),hc,hf,Bool.false_eq_true,if_false,Zas];exact hr
theorem KQ{p:List Nat} {x u u':V} {sz j g1 o1 c1 g' o':Nat} {xs:List V} {cs SJ:List Value} {F1 Qo:List Nat} (UD:R w Pb (.own sz xs g1 o1 c1) cs F1) (hnd:F1.Nodup) (hP:∀ x,x∈F1->¬ Pb x)
 (hx:xs[j]? =some x) (e:V.at g1 (o1+j*sz) x p=some (g',o',u)) (hr:R w' Pb u' SJ Qo) (hn:u'.n=u.n) (QL:Qo.Nodup) (x9:∀ x,x∈Qo->x ∉ F1) (D4:E2 w w' g' o' SJ)
 (k1:∀ x,Pb x->w'.heap[x]? =w.heap[x]?):∃ F2,R w' Pb (.own sz (xs.set j (x.set p u')) g1 o1 c1) cs F2/\F2.Nodup/\(∀ y,y∈F2->y∈F1\/y∈Qo)/\g'∈F1:=by
 rcases UD with ⟨_,rfl,_⟩ | ⟨SC,e9,Y8,hcs,ha,Ve,flat,F',Pa,rfl,Q5,j8,hsz,QE⟩;simp at hx;have hj:j<=xs.length:=Zbr
 have e':V.at g1 (o1+V.ns (xs.take j)) x p=some (g',o',u):=by rw[eM xs j ha hj];exact e
 obtain⟨F2,⟨P3,Ql,Ta,Xv,XP⟩,hN,hI⟩:=yq (Aw p) hr hn QL D4 k1 xs o1 F' j ⟨flat,Pa,j8,Q5,QE⟩ hnd hP x9 hx e';have Sw:g'=g1\/g'∈F':=by
  obtain⟨c,F2,I8,hF,Po⟩:=ia xs Q5 hx;rcases jf p (v:=x) ⟨c,Pa,j8,I8,fun i u hu=>by rw[Zbj];exact QE _ _ (Po i u hu)⟩ e' with ⟨h1,_⟩ | h1;exact .inl h1;exact .inr (hF _ h1)
 have Ux:Ql.size=Pa.size:=by
  by_cases UO:g1=g';subst UO;obtain⟨c2,⟨e2,f2,l5,_⟩,Pm,_⟩:=D4.Rr Pa j8;obtain⟨e3,f3,m8,_⟩:=Ta;rw[l5]at m8;simp only[Zan,Obj.cells.injEq]at m8;obtain⟨rfl,_,_⟩:=m8;exact Pm;obtain⟨e2,f2,l5,_⟩:=j8;obtain⟨e3,f3,m8,_⟩:=Ta;rw[D4.Qy g1 UO,l5]at m8;simp only[Zan,Obj.cells.injEq]at m8;rw[m8.1]
 refine⟨g1::F2,.inr ⟨SC,e9,by simpa using Y8,by simpa using hcs,?_,Ve,P3,F2,Ql,rfl,Xv,Ta,Zac,XP⟩,hN,?_,?_⟩;intro y hy;rcases List.mem_or_eq_of_mem_set hy with h | h;exact ha y h;rw[h,oq p e' hn];exact ha x (Za7 hx);intro y hy;rcases List.mem_cons.1 hy with h | h;left;simp[h];rcases hI y h with h | h;left;simp[h];right;exact h;rcases Sw with h | h <;> simp[h]
def AS.setAt(A:AS)(r:m7)(p:List Nat)(v:V):AS:=
 match r with
 | .key k=>match lk k A.h with
   | some (g,t)=>{ A with h:=(k,(g,t.set p v))::A.h }
   | none=>A
 | .slot i=>{ A with t:=(i,(A.get i).set p v)::A.t }
theorem x2.store(hs:x2 N Pb Kb A a w F) {r:m7} {p:List Nat} {g o:Nat} {old v:V} {cs:List Value} {Fv:List Nat} (C4:A.at r p=some (g,o,old)) (hr:R w Pb v cs Fv) (hn:v.n=old.n)
 (hnd:Fv.Nodup) (x9:∀ r g,g∈Fv->g ∉ F r) (hfr:∀ g,g∈Fv->¬ Kb g/\g<w.heap.size) (D4:E2 w w' g o cs):∃ F',x2 N Pb Kb (A.setAt r p v) a w' F'/\¬ Kb g:=by
 have Yi:∀ r g,g∈F r->¬ Pb g:=fun r g hg c=>(hs.free r g hg).1 (hs.sub g c)
 have main:∃ Fr,g∈F r/\(∀ x,Pb x->w'.heap[x]? =w.heap[x]?)/\Fr.Nodup/\(∀ y,y∈Fr->y∈F r\/y∈Fv)/\
  (match r with
   | .key k=> ∀ g0 t,lk k A.h=some (g0,t)->∃ F',Fr=g0::F'/\At w' Pb (t.set p v) g0 0 F'
   | .slot i=>RV w' Pb ((A.get i).set p v) (a.tmps.getD i undef) Fr):=by
  have kk:∀ r,g∈F r->∀ x,Pb x->w'.heap[x]? =w.heap[x]? :=fun r hg x hx=>D4.Qy x (by rintro rfl;exact Yi r _ hg hx);have I8:∀ r,g∈F r->R w' Pb v cs Fv:=fun r hg=>hY v hr (kk r hg) (fun x hx=>D4.Qy x (by rintro rfl;exact x9 r _ hx hg)) (fun _ h=>h) (fun x hx c=>(hfr x hx).1 (hs.sub x c));cases r with
  | key k=>
    simp only[AS.at]at C4;split at C4
    case h_2=>simp at C4
    rename_i g0 t hk;obtain⟨F',e,hA⟩:=hs.root k g0 t hk;have To:g∈F (.key k):=by
     rw[e];rcases jf p hA C4 with ⟨rfl,_⟩ | h;simp;simp[h]
    have Y5:=hs.nodup (.key k);rw[e]at Y5;obtain⟨F1,h1,h2,h3⟩:=Aw (w:=w) (w':=w') p _ _ _ _ _ _ _ _ _ _ hA Y5 (fun x hx=>Yi (.key k) x (by rw[e];exact hx)) C4 (I8 _ To) hn hnd (fun x hx c=>x9 (.key k) x hx (by rw[e];exact c)) D4 (kk _ To);refine⟨g0::F1,To,kk _ To,h2,fun y hy=>?_,fun g0' t' RX=>?_⟩;rw[e];rcases List.mem_cons.1 hy with h | h;left;simp[h];rcases h3 y h with h | h;left;simp[h];exact .inr h;rw[hk]at RX;simp only[Zan,Zaq]at RX;obtain⟨rfl,rfl⟩:=RX;exact⟨F1,rfl,h1⟩
  | slot i=>
    simp only[AS.at]at C4;split at C4
    case h_2=>simp at C4
    rename_i sz xs g1 o1 c1 j p hi;have hrv:=hs.slot i;rw[hi]at hrv;simp only[V.at]at C4;split at C4
    case h_2=>simp at C4
    rename_i x hx;have To:g∈F (.slot i):=by
     rcases hrv with ⟨_,rfl,_⟩ | ⟨_,_,_,_,ha,_,flat,F',r5,hF,Q5,OZ,_,Po⟩;simp at hx;obtain⟨c,Qo,I8,Rj,Q6⟩:=ia xs Q5 hx;have hj:j<=xs.length:=Zbr
     rw[eM xs j ha hj]at Q6;rw[hF];rcases jf p (v:=x) ⟨c,r5,OZ,I8,fun i u hu=>Zbs⟩ C4 with ⟨rfl,_⟩ | h;simp;simp[Rj _ h]
    obtain⟨F2,h1,h2,h3,_⟩:=KQ (w:=w) (w':=w') hrv (hs.nodup _) (Yi _) hx C4 (I8 _ To) hn hnd (x9 _) D4 (kk _ To);refine⟨F2,To,kk _ To,h2,h3,?_⟩;simp only[hi,V.set,hx];exact h1
 obtain⟨Fr,To,kk,hndr,XJ,hm⟩:=main;have UP:∀ y,y∈Fr->¬ Kb y/\y<w.heap.size:=fun y hy=>by
  rcases XJ y hy with h | h;exact hs.free r y h;exact hfr y h
 have QM:∀ r' x,r'≠r->x∈F r'->w'.heap[x]? =w.heap[x]? :=fun r' x hne hx=>D4.Qy x (by rintro rfl;exact hs.cM r' r hne _ hx To);refine⟨cK F r Fr,⟨?_,?_,fun i=>?_,fun k g0 t hk=>?_,fun r1 r2 hne y hy=>?_,fun r1=>?_,fun r1 y hy=>?_,hs.sub,fun y hy=>by rw[D4.size];exact hs.bound y hy⟩,(hs.free r g To).1⟩;exact hs.size;exact hs.defers;by_cases Vd:r=.slot i;subst Vd;simp only[cK,if_true,AS.setAt,AS.get,lk,Option.getD_some];exact hm;simp only[cK,if_neg (Ne.symm Vd)];have:(A.setAt r p v).get i=A.get i:=by
  cases r with
  | key k=>simp only[AS.setAt];split <;> rfl
  | slot j=>simp only[AS.setAt,AS.get,lk];rw[if_neg (fun c=>Vd (by rw[c]))]
 rw[this];exact oo _ (hs.slot i) kk (fun x hx=>QM _ x (Ne.symm Vd) hx) (fun _ h=>h) (fun x hx=>Yi _ x hx);by_cases Vz:r=.key k;subst Vz;simp only[AS.setAt]at hk;have TG:∃ g1 t1,lk k A.h=some (g1,t1):=by
  simp only[AS.at]at C4;split at C4;rename_i g1 t1 h;exact⟨g1,t1,h⟩;simp at C4
 obtain⟨g1,t1,TG⟩:=TG;rw[TG]at hk;simp only[lk,if_true,Zan,Zaq]at hk;obtain⟨rfl,rfl⟩:=hk;obtain⟨F',e,hA⟩:=hm _ _ TG;exact⟨F',by simp[cK,e],hA⟩;have RX:lk k A.h=some (g0,t):=by
  cases r with
  | slot j=>exact hk
  | key k'=>
    simp only[AS.setAt]at hk;split at hk;simp only[lk]at hk;rwa [if_neg (fun c=>Vz (by rw[c]))]at hk;exact hk
 obtain⟨F',e,hA⟩:=hs.root k g0 t RX;refine⟨F',by simp only[cK,if_neg (Ne.symm Vz)];exact e,rq hA kk (fun x hx=>QM (.key k) x (Ne.symm Vz) (by rw[e];simp[hx])) (fun x hx=>Yi (.key k) x (by rw[e];simp[hx])) (fun cells hb=>?_)⟩;obtain⟨e',fr,hb,hf⟩:=hb;exact⟨cells,⟨e',fr,(QM (.key k) g0 (Ne.symm Vz) (by rw[e];simp)).trans hb,hf⟩,fun _ _ _=>rfl⟩;simp only[cK]at hy ⊢;split at hy;rename_i h1;rw[if_neg (fun c=>hne (h1.trans c.symm))];subst h1;rcases XJ y hy with h | h;exact hs.cM _ _ hne y h;exact x9 r2 y h;rename_i h1;split;rename_i h2;subst h2;intro c;rcases XJ y c with h | h;exact hs.cM _ _ hne y hy h;exact x9 r1 y h hy;exact hs.cM r1 r2 hne y hy;simp only[cK];split;exact hndr;exact hs.nodup r1;simp only[cK]at hy;rw[D4.size];split at hy;exact UP y hy;exact hs.free r1 y hy
end
mutual
def V.flat:V->Option (List Value)
 | .lit x=>if x.oneCell' then some [x] else none
 | .sl true []=>some [.slice none 0 0]
 | .agg vs=>V.yb vs
 | _=>none
def V.yb:List V->Option (List Value)
 | []=>some []
 | v::vs=>match v.flat,V.yb vs with
   | some a,some b=>some (a++b)
   | _,_=>none
end
def pf(P:Program)(T:Nat)(v:V):Prop:= ∃ inf z,P.info? T=some inf/\inf.zero=some z/\v.flat=some z.cells.toList
section
variable {w w':World} {Pb Kb:Nat->Prop} {N:Nat} {A A':AS} {a:Act} {F:m7->List Nat} {P:Program}
mutual
theorem tS:∀ (v:V) {cs},v.flat=some cs->R w Pb v cs []
 | .lit x,cs,h=>by
   simp only[V.flat]at h;split at h;rename_i hx;simp at h;subst h;exact⟨hx,rfl,rfl⟩;simp at h
 | .sl true [],cs,h=>by simp[V.flat]at h;subst h;exact⟨rfl,none,0,rfl,Zbc _,fun _=>rfl,.inl rfl⟩
 | .sl true (x::xs),cs,h=>by simp[V.flat]at h
 | .sl false xs,cs,h=>by simp[V.flat]at h
 | .agg vs,cs,h=>by simp only[V.flat]at h;simp only[R];exact DR vs h
 | .tup _,_,h=>by simp[V.flat]at h
 | .gv _ _,_,h=>by simp[V.flat]at h
 | .own ..,_,h=>by simp[V.flat]at h
 | .hd ..,_,h=>by simp[V.flat]at h
 | .ow ..,_,h=>by simp[V.flat]at h
 | .om ..,_,h=>by simp[V.flat]at h
 | .mp ..,_,h=>by simp[V.flat]at h
 | .ptr ..,_,h=>by simp[V.flat]at h
 | .ep _,_,h=>by simp[V.flat]at h
 | .c9,_,h=>by simp[V.flat]at h
theorem DR:∀ (vs:List V) {cs},V.yb vs=some cs->RL w Pb vs cs []
 | [],cs,h=>by simp[V.yb]at h;subst h;exact⟨rfl,rfl⟩
 | v::vs,cs,h=>by
   simp only[V.yb]at h;split at h;rename_i a b h1 h2;simp at h;subst h;exact⟨a,b,[],[],rfl,rfl,tS v h1,DR vs h2⟩;simp at h
end
theorem alloc_old(w:World)(o:Obj)(k:Nat)(h:k<w.heap.size):(w.alloc o).heap[k]? =w.heap[k]? :=Below.heap_alloc w o k h
theorem eg(w:World)(o:Obj):(w.alloc o).heap.size=w.heap.size+1:=Zad
theorem ig(w:World)(o:Obj):(w.alloc o).heap[w.heap.size]? =some o:=heap_alloc_new w o
theorem x2.pK(hs:x2 N Pb Kb A a w F)(o:Obj):x2 N Pb Kb A a (w.alloc o) F:=
 hs.grow (fun k hk=>alloc_old w o k hk) Zbx (fun _ h=>h) (fun g hg=>.inl hg) hs.sub
theorem x2.Ou(hs:x2 N Pb Kb A a w F)(o:Obj):x2 N (fun g=>Pb g\/g=w.heap.size) (fun g=>Kb g\/g=w.heap.size) A a (w.alloc o) F:=
 hs.grow (fun k hk=>alloc_old w o k hk) Zbx (fun _ h=>.inl h) (fun g hg=>hg.imp id fun h=>Zbx) (fun g hg=>hg.imp (hs.sub g) id)
theorem x2.DH(hs:x2 N Pb Kb A a w F){k g:Nat}{v:V}{Fv:List Nat}(hA:At w Pb v g 0 Fv)(hnd:(g::Fv).Nodup)(x9:∀ r x,x∈g::Fv->x ∉ F r)(hfr:∀ x,x∈g::Fv->¬ Kb x/\x<w.heap.size):
 x2 N Pb Kb { A with h:=(k,(g,v))::A.h } a w (cK F (.key k) (g::Fv)) where
 size:=hs.size
 defers:=hs.defers
 slot:=fun i=>by simp only[cK,reduceCtorEq,if_false];exact hs.slot i
 root:=fun k' g' v' hk=>by
  simp only[lk]at hk;by_cases e:k'=k;subst e;simp only[if_true,Zan,Zaq]at hk;obtain⟨rfl,rfl⟩:=hk;exact⟨Fv,by simp[cK],hA⟩;rw[if_neg e]at hk;obtain⟨F',e',Zo⟩:=hs.root k' g' v' hk;exact⟨F',by simp only[cK];rw[if_neg (fun c=>e (by injection c))];exact e',Zo⟩
 cM:=fun r r' hne x hx=>by
  simp only[cK]at hx ⊢;split at hx;rename_i h1;rw[if_neg (fun c=>hne (h1.trans c.symm))];exact x9 r' x hx;split;exact fun c=>x9 r x c hx;exact hs.cM r r' hne x hx
 nodup:=fun r=>by
  simp only[cK];split;exact hnd;exact hs.nodup r
 free:=fun r x hx=>by
  simp only[cK]at hx;split at hx;exact hfr x hx;exact hs.free r x hx
 sub:=hs.sub
 bound:=hs.bound
theorem B6.alloc(hK:∀ g,Kb g->g<w.heap.size)(o:Obj):B6 Kb w (w.alloc o):=
 ⟨rfl,rfl,rfl,Zbx,fun g hg=>alloc_old w o g (hK g hg),Shp.of_eq fun g hg=>alloc_old w o g hg⟩
theorem x2.KS(hs:x2 N Pb Kb A a w F){d:Nat}(hd:d<N){v:V}{cs:Array Value}{e:TypeId}(hr:R w Pb v cs.toList []):
 ∃ F',x2 N Pb Kb ⟨(A.put (some d) (.ptr (.key d) [] w.heap.size 0)).t,(d,(w.heap.size,v))::A.h⟩ (a.put (some d) (.pointer (some ⟨w.heap.size,0,none⟩))) (w.alloc (.cells cs e)) F':=by
 have h1:=hs.pK (.cells cs e);have h2:=h1.put (d:=d) (v:=.ptr (.key d) [] w.heap.size 0) (x:=.pointer (some ⟨w.heap.size,0,none⟩)) (F':=[]) hd ⟨rfl,rfl⟩ Zad Zad Zad
 have hA:At (w.alloc (.cells cs e)) Pb v w.heap.size 0 []:=
  ⟨cs.toList,cs,⟨e,(0,0),ig w _,fun i _ h=>by omega⟩,hY v hr (fun g hg=>alloc_old w _ g (hs.bound g (hs.sub g hg))) Zad (fun _ h=>h) Zad,fun j u hu=>by simpa using hu⟩
 refine⟨_,h2.DH (k:=d) hA Zad (fun r x hx c=>?_) (fun x hx=>?_)⟩;simp at hx;subst hx;simp only[cK]at c;split at c;simp at c;have:=(hs.free r _ c).2;omega;simp at hx;subst hx;refine⟨fun c=>?_,Zbx⟩;have:=hs.bound _ c;omega
theorem vb{o:Oper} {K:AS->Prop} {d:Nat} {v:V} (hd:o.dst=some d) (hN:d<N)
 (C9:∀ Pb Kb a w F,x2 N Pb Kb A a w F->∃ cs e,(execOp a.eval o).run P w=.ok (.value (.pointer (some ⟨w.heap.size,0,none⟩))) (w.alloc (.cells cs e))/\R w Pb v cs.toList [])
 (hK:∀ g,K ⟨(A.put (some d) (.ptr (.key d) [] g 0)).t,(d,(g,v))::A.h⟩):J1 P N o A K:=by
 intro Pb Kb a w F Q hs;obtain⟨cs,e,hx,hr⟩:=C9 Pb Kb a w F hs;unfold Oper.wp;rw[hx,Oper.upon_value,hd];obtain⟨F',C8⟩:=hs.KS hN (e:=e) hr;exact⟨_,Pb,Kb,F',hK _,C8,fun _ h=>h,fun _ h=>h,fun _ h=>.inl h,B6.alloc hs.bound _⟩
theorem km(e:TypeId)(cs:Array Value):(newRow e cs).run P w=.ok ⟨w.heap.size,0,none⟩ (w.alloc (.cells cs e)):=rfl
theorem tw{o:Oper} {K:AS->Prop} {d T:Nat} {v:V} (ho:o.op=.alloc T) (hd:o.dst=some d) (hN:d<N) (hz:pf P T v)
 (hK:∀ g,K ⟨(A.put (some d) (.ptr (.key d) [] g 0)).t,(d,(g,v))::A.h⟩):J1 P N o A K:=by
 refine vb hd hN (fun Pb Kb a w F hs=>?_) hK;obtain⟨inf,z,h1,h2,h3⟩:=hz;refine⟨z.cells,T,?_,tS v h3⟩;simp[execOp,ho,Instr.alloc,zeroValue,typeInfo,h1,h2,newVar,km]
theorem LR{o:Oper} {K:AS->Prop} {d T:Nat} {x:Operand} (ho:o.op=.box T x) (hd:o.dst=some d) (hN:d<N) (hv:(A.cp x).isVal=true)
 (hK:∀ g,K ⟨(A.put (some d) (.ptr (.key d) [] g 0)).t,(d,(g,A.cp x))::A.h⟩):J1 P N o A K:=by
 refine vb hd hN (fun Pb Kb a w F hs=>?_) hK;exact⟨(a.eval x).cells,T,by simp[execOp,ho,Instr.box,newVar,km],AV (rT hs x) hv⟩
theorem sS{o:Oper} {K:AS->Prop} {T:Nat} {x y:Operand} {r:m7} {p:List Nat} {g g':Nat} {i:TI} {old:V} (ho:o.op=.store T x y) (hd:o.dst=none) (hi:ti P T=some i)
 (hx:A.ev x=.ptr r p g g') (C4:(A.drop y).at r p=some (g,g',old)) (hv:(A.ev y).isVal=true) (hn:(A.ev y).n=old.n) (WA:(A.ev y).n=i.sz) (hK:K ((A.drop y).setAt r p (A.ev y))):J1 P N o A K:=by
 intro Pb Kb a w F Q hs;obtain⟨Fx,F',hr,C8,hnd,x9,hfr,_⟩:=hs.take y;obtain⟨_,Wy⟩:=eE hs x;rw[hx]at Wy;have hp:a.eval x=.pointer (some ⟨g,g',none⟩):=by have:=Wy.2;simpa using this
 have hR:=AV hr hv;obtain⟨_,cs0,cells,hb,UD,SC⟩:=jc C8 C4;have XE:=eX _ UD;have hl:=eX _ hR;have hle:g'+(a.eval y).cells.toList.length<=cells.size\/(a.eval y).cells.toList=[]:=by
  by_cases hne:cs0=[];right;exact Za5 (by rw[hl,hn,<- XE,hne];rfl);left;have:=zk SC hne;omega
 have D4:∃ w',(storeCells ⟨g,g',none⟩ (a.eval y).cells.toList 0).run P w=.ok () w'/\E2 w w' g g' (a.eval y).cells.toList:=by
  rcases hle with h | h;obtain⟨w',h1,h2⟩:=iz (P:=P) (g:=g) (o:=g') (a.eval y).cells.toList 0 w cells hb Zac (mf _ hR);exact⟨w',h1,h2⟩;rw[h];exact⟨w,rfl,E2.nil w g g'⟩
 obtain⟨w',C9,D4⟩:=D4;have hx:(execOp a.eval o).run P w=.ok .skip w':=by
  have hsz:(a.eval y).cells.size=i.sz:=by rw[<- WA,<- hl];simp
  simp only[execOp,ho,Instr.storeAt,hp,Instr.sureAddr,Za0,Za1,Zas,storeVar,dA hi,hsz,ne_eq,not_true_eq_false,if_false,C9]
 unfold Oper.wp;rw[hx,Oper.upon_skip,hd];obtain⟨F2,Pm,hg⟩:=C8.store C4 hR hn hnd x9 hfr D4;exact⟨_,Pb,Kb,F2,hK,Pm,fun _ h=>h,fun _ h=>h,fun _ h=>.inl h,⟨D4.os,D4.tape,D4.output,by rw[D4.size];omega,fun k hk=>D4.Qy k (fun c=>hg (c ▸ hk)),D4.shape⟩⟩
def fw(A:AS)(k:Nat):List (Nat×Operand)->Option (List V)
 | []=>some []
 | (i,x)::r=>if i=k then match fw A (k+1) r with | some vs=>some (A.cp x::vs) | none=>none else none
theorem oz(hs:x2 N Pb Kb A a w F){s:Nat}:∀ (h9:List (Nat×Operand)) (k:Nat) {vs:List V},fw A k h9=some vs->(∀ v,v∈vs->v.isVal=true/\v.n=s)->
 ∃ xs:List Value,(h9.map fun (i,x)=>(i,a.eval x))=(xs.zipIdx k).map (fun x=>(x.2,x.1))/\(∀ x,x∈xs->x.cells.size=s)/\RL w Pb vs (xs.flatMap fun v=>v.cells.toList) []/\xs.length=vs.length
 | [],k,vs,h,_=>by simp[fw]at h;subst h;exact⟨[],rfl,Zad,⟨rfl,rfl⟩,rfl⟩
 | (i,x)::r,k,vs,h,hv=>by
   simp only[fw]at h;split at h
   case isFalse=>simp at h
   rename_i e;subst e;split at h
   case h_2=>simp at h
   rename_i Zw hr;simp at h;subst h;obtain⟨xs,h1,h2,h3,h4⟩:=oz hs r (i+1) hr (fun v Vy=>hv v (by simp[Vy]));have hR:=AV (rT hs x) (hv (A.cp x) Zad).1;have hl:=eX _ hR;refine⟨a.eval x::xs,by simp[h1],?_,⟨_,_,[],[],Zad,rfl,hR,h3⟩,by simp[h4]⟩;intro y hy;rcases List.mem_cons.1 hy with rfl | h;rw[<- (hv (A.cp x) Zad).2,<- hl];simp;exact h2 y h
theorem yB{o:Oper} {K:AS->Prop} {T e len:Nat} {h9:Array (Nat×Operand)} {i:TI} {vs:List V} (ho:o.op=.buildSlice T len h9) (hd:dh N o.dst) (hT:tD P T=some (.sl e)) (hi:ti P e=some i)
 (hz:∃ inf z,P.info? e=some inf/\inf.zero=some z) (Ut:fw A 0 h9.toList=some vs) (hlen:vs.length=len) (S4:len*i.sz<=16777216) (L8:0<i.sz) (hv:∀ v,v∈vs->v.isVal=true/\v.n=i.sz)
 (hK:K (A.put o.dst (.sl true vs))):J1 P N o A K:=by
 intro Pb Kb a w F Q hs;obtain⟨inf,z,PW,hzero⟩:=hz;obtain⟨xs,h1,h2,h3,h4⟩:=oz hs h9.toList 0 Ut hv;have hu:=jw hT;obtain⟨Vr,_,M7,_,hsz,_,_⟩:=ke hi;rw[PW]at M7;obtain rfl:=Option.some.inj M7;by_cases h0:len=0;have hvs0:vs=[]:=Za5 Zac;subst hvs0;subst h0;have ZI:h9.toList=[]:=by
  cases UI:h9.toList with
  | nil=>rfl
  | cons p ps=>rw[UI]at h1;rw[Za5 h4]at h1;simp at h1
 have hp:h9= #[]:=by rw[<- Array.toArray_toList (xs:=h9),ZI]
 subst hp;have hx:(execOp a.eval o).run P w=.ok (.value (.slice (some ⟨w.heap.size,0,none⟩) 0 0)) (w.alloc (.cells #[] e)):=by
  simp[execOp,ho,Instr.buildSlice,aV hu,dA hi,Instr.fill,km];congr 2;apply Array.ext';simp
 unfold Oper.wp;rw[hx,Oper.upon_value];obtain⟨F',C8⟩:=(hs.pK (.cells #[] e)).rj (d:=o.dst) (v:=.sl true []) (x:=.slice (some ⟨w.heap.size,0,none⟩) 0 0) hd ⟨rfl,_,0,rfl,Zbc _,fun _=>rfl,.inl rfl⟩;exact⟨_,Pb,Kb,F',hK,C8,fun _ h=>h,fun _ h=>h,fun _ h=>.inl h,B6.alloc hs.bound _⟩;have hfl:=Great.fill_whole L8 xs ((Array.range (len*i.sz)).map (z.cells[· % z.cells.size]!)) h2 (by simp[h4,hlen]);have hmul: ¬ len*inf.size=0:=by rw[hsz];exact Nat.mul_ne_zero h0 Zac
 have hb:=run_buildSlice (P:=P) w T e len (h9.map fun (i,x)=>(i,a.eval x)) _ inf z hu PW hzero (by rw[hsz];omega) hmul (by rw[Array.toList_map,h1,hsz];exact hfl);have hx:(execOp a.eval o).run P w=.ok (.value (.slice (some ⟨w.heap.size,0,none⟩) len len)) (w.alloc (.cells (xs.flatMap fun v=>v.cells.toList).toArray e)):=by
  simp only[execOp,ho,Za0,hb,Zas,Za1]
 unfold Oper.wp;rw[hx,Oper.upon_value];have P7:=hs.Ou (.cells (xs.flatMap fun v=>v.cells.toList).toArray e);have Q5:=eZ (w':=w.alloc (.cells (xs.flatMap fun v=>v.cells.toList).toArray e)) (Pb':=fun g=>Pb g\/g=w.heap.size) vs h3 (fun g hg=>alloc_old w _ g (hs.bound g (hs.sub g hg))) Zad (fun g hg=>.inl hg) Zad
 obtain⟨F',C8⟩:=P7.rj (d:=o.dst) (v:=.sl true vs) (x:=.slice (some ⟨w.heap.size,0,none⟩) len len) hd ⟨rfl,some ⟨w.heap.size,0,none⟩,len,by rw[hlen],Zac,fun _=>hlen.symm,
  .inr ⟨w.heap.size,0,i.sz,_,rfl,.inr rfl,L8,fun v Vy=>(hv v Vy).2,Q5,fun j u hu=>by
   rw[eP (cells:=(xs.flatMap fun v=>v.cells.toList).toArray) ⟨e,(0,0),ig w _,fun i _ h=>by omega⟩];simpa using hu⟩⟩
 exact⟨_,_,_,F',hK,C8,fun _ h=>.inl h,fun _ h=>.inl h,fun g hg=>by
  rcases hg with h | h;exact .inl h;right;intro c;have:=hs.bound g c;omega,B6.alloc hs.bound _⟩
end
section
variable {w w':World} {Pb Kb:Nat->Prop} {N:Nat} {A A':AS} {a:Act} {F:m7->List Nat} {P:Program}
def ou(P:Program):List (Nat×Nat)->Option (List (Nat×Nat))
 | []=>some []
 | (off,T)::r=>match ti P T,ou P r with
   | some i,some ps=>some ((off,i.sz)::ps)
   | _,_=>none
def rC(places:List (Nat×Nat)):List V->List (Nat×V)->Option (Prop×List V)
 | zs,[]=>some (True,zs)
 | zs,(i,v)::r=>match places[i]?,zs[i]? with
   | some (off,sz),some z=>match rC places (zs.set i v) r with
     | some (C,zs')=>some (V.ns (zs.take i)=off/\v.n=sz/\z.n=sz/\v.isVal=true/\C,zs')
     | none=>none
   | _,_=>none
def tK(P:Program)(A:AS)(T:Nat)(zs:List V)(h9:List (Nat×Operand)):Option (Prop×V):=
 match tD P T with
 | some (.st fs)=>match ou P fs with
   | some places=>match rC places zs (h9.map fun (i,x)=>(i,A.cp x)) with
     | some (C,vs)=>some (C,.agg vs)
     | none=>none
   | none=>none
 | _=>none
theorem zT:∀ (zs:List V) {cs:List Value} {i:Nat} {z v:V} {c:List Value},RL w Pb zs cs []->zs[i]? =some z->R w Pb v c []->c.length=z.n->
 RL w Pb (zs.set i v) (cs.take (V.ns (zs.take i))++c++cs.drop (V.ns (zs.take i)+z.n)) []
 | [],_,_,_,_,_,_,h,_,_=>by simp at h
 | z0::zs,cs,0,z,v,c,h,hi,hr,hn=>by
   obtain⟨c1,c2,F1,F2,rfl,hF,h1,h2⟩:=h;have Rj:=hF.symm;simp at Rj;obtain⟨rfl,rfl⟩:=Rj;simp at hi;subst hi;have hl:=eX _ h1;simp only[List.take_zero,V.ns,Zaw,List.nil_append,List.set_cons_zero];rw[<- hl,List.drop_left];exact⟨c,c2,[],[],rfl,rfl,hr,h2⟩
 | z0::zs,cs,i+1,z,v,c,h,hi,hr,hn=>by
   obtain⟨c1,c2,F1,F2,rfl,hF,h1,h2⟩:=h;have Rj:=hF.symm;simp at Rj;obtain⟨rfl,rfl⟩:=Rj;have hl:=eX _ h1;have ih:=zT zs h2 Zbn hr hn;simp only[List.take_succ_cons,V.ns,List.set_cons_succ];refine⟨c1,_,[],[],?_,rfl,h1,ih⟩;rw[<- hl,List.take_append,List.drop_append];have e1:(List.take (c1.length+V.ns (zs.take i)) c1)=c1:=Zaz Zac;have e2:(List.drop (c1.length+V.ns (zs.take i)+z.n) c1)=[]:=Za8 Zac;rw[e1,e2];have e3:c1.length+V.ns (zs.take i)-c1.length=V.ns (zs.take i):=Zac;have e4:c1.length+V.ns (zs.take i)+z.n-c1.length=V.ns (zs.take i)+z.n:=Zac;rw[e3,e4];simp
theorem FH(cells:Array Value) (off:Nat) (c:List Value) (h:off+c.length<=cells.size) {r:Array Value} (hs:r.size=cells.size)
 (hk:∀ k,r[k]? =if off+0<=k/\k<off+0+c.length/\k<cells.size then c[k-(off+0)]? else cells[k]?):r.toList=cells.toList.take off++c++cells.toList.drop (off+c.length):=by
 apply List.ext_getElem?;intro k;rw[Array.getElem?_toList,hk k];simp only[Nat.add_zero];by_cases h1:k<off;rw[if_neg Zac,List.append_assoc,Za9 Zal,List.getElem?_take,if_pos h1];simp;by_cases h2:k<off+c.length;rw[if_pos ⟨Zac,h2,Zac⟩,List.append_assoc,Za4 Zal,Za9 Zal];congr 1;simp;omega;rw[if_neg Zac,Za4 Zal,List.getElem?_drop];have:off+c.length+(k-(cells.toList.take off++c).length)=k:=Zal;rw[this];simp
theorem vc(hs:x2 N Pb Kb A a w F){places:List (Nat×Nat)}:∀ (h9:List (Nat×Operand)) {zs:List V} {C:Prop} {vs:List V} {cells:Array Value},rC places zs (h9.map fun (i,x)=>(i,A.cp x))=some (C,vs)->C->
 RL w Pb zs cells.toList []->∃ r5,Instr.fill (places.toArray[·]?) cells (h9.map fun (i,x)=>(i,a.eval x))=some r5/\RL w Pb vs r5.toList []
 | [],zs,C,vs,cells,h,_,hr=>by simp[rC]at h;obtain⟨_,rfl⟩:=h;exact⟨cells,rfl,hr⟩
 | (i,x)::r,zs,C,vs,cells,h,hC,hr=>by
   simp only[Zbe,rC]at h;split at h
   case h_2=>simp at h
   rename_i off sz z hp hz;split at h
   case h_2=>simp at h
   rename_i C' zs' hf;simp only[Zan,Zaq]at h;obtain⟨rfl,rfl⟩:=h;obtain⟨h1,h2,h3,h4,h5⟩:=hC;have hR:=AV (rT hs x) h4;have hl:=eX _ hR;obtain⟨cz,F',Yb,_,hcz⟩:=ia zs hr hz;have hlz:=eX _ Yb;have hle:off+(a.eval x).cells.toList.length<=cells.size:=by
    by_cases hne:cz=[];have:sz=0:=by rw[<- h3,<- hlz,hne];rfl
    have hns:V.ns (zs.take i)<=cells.size:=by
     have XE:=jK _ hr;have:V.ns (zs.take i)<=V.ns zs:=by
      clear hf hr hcz Yb hp XE h1;induction zs generalizing i with
      | nil=>simp[V.ns]
      | cons z0 zs ih=>cases i with
        | zero=>simp[V.ns]
        | succ i=>simp only[List.take_succ_cons,V.ns];have:=ih (i:=i) (by simpa using hz);omega
     simpa[<- XE] using this
    rw[hl,h2];omega;have:=zk (cells:=cells) (o:=off) (l:=cz) (fun j u hu=>by rw[<- h1];have:=hcz j u hu;simpa using this) hne;omega
   obtain⟨g1,g2⟩:=Great.foldl_set off (a.eval x).cells.toList 0 cells;have hseg:=FH cells off (a.eval x).cells.toList hle g1 g2;have P1:=zT zs hr hz hR (by rw[hl,h2,h3]);rw[h1,h3,<- h2,<- hl,<- hseg]at P1;obtain⟨r5,UT,I8⟩:=vc hs r hf h5 P1;refine⟨r5,?_,I8⟩;simp only[Zbe];unfold Instr.fill;have YY:places.toArray[i]? =some (off,sz):=by simpa using hp
   simp only[YY];rw[if_neg (by
    have e1:(a.eval x).cells.size=sz:=by rw[<- h2,<- hl];simp
    simp only[e1,ne_eq,not_true_eq_false,decide_false,Bool.false_or,Zbk];rw[<- e1];simpa using hle)]
   rw[<- UT];congr 1;rw[<- Array.foldl_toList,Array.toList_zipIdx]
theorem HH{fl:Array Field}{fs:List (Nat×Nat)}(h:fl.toList.map (fun f=>(f.offset,f.type))=fs){places:List (Nat×Nat)}(hp:ou P fs=some places):
 fl.toList.mapM (fun f=>(P.info? f.type).map fun i=>(f.offset,i.size))=some places:=by
 subst h;generalize fl.toList=l at hp;induction l generalizing places with
 | nil=>simp[ou]at hp;subst hp;rfl
 | cons f l ih=>
   simp only[Zbe,ou]at hp;split at hp
   case h_2=>simp at hp
   rename_i i ps hi hps;simp at hp;subst hp;obtain⟨inf,_,h1,_,h3,_,_⟩:=ke hi;simp[List.mapM_cons,h1,ih hps,h3]
theorem FG(hs:x2 N Pb Kb A a w F){T:Nat}{h9:Array (Nat×Operand)}{zs:List V}{C:Prop}{v:V}(hz:pf P T (.agg zs))(h:tK P A T zs h9.toList=some (C,v))(hC:C):
 ∃ y,(Instr.build T (h9.map fun (i,x)=>(i,a.eval x))).run P w=.ok y w/\RV w Pb v y []:=by
 unfold tK at h;split at h
 case h_2=>simp at h
 rename_i fs hT;split at h
 case h_2=>simp at h
 rename_i places hp;split at h
 case h_2=>simp at h
 rename_i C' vs hf;simp only[Zan,Zaq]at h;obtain⟨rfl,rfl⟩:=h;obtain⟨fl,hu,hfl⟩:=En hT;obtain⟨inf,z,h1,h2,h3⟩:=hz;have hr:=tS (w:=w) (Pb:=Pb) _ h3;simp only[R]at hr;obtain⟨r5,UT,I8⟩:=vc hs h9.toList hf hC hr;refine⟨.agg r5,run_build w T _ r5 ?_,r5,rfl,I8⟩;unfold Program.built;simp only[h1,hu,h2,HH hfl hp];rw[Array.toList_map];exact UT
theorem zR{o:Oper} {K:AS->Prop} {T:Nat} {h9:Array (Nat×Operand)} {zs:List V} {C:Prop} {v:V} (ho:o.op=.build T h9) (hd:dh N o.dst) (hz:pf P T (.agg zs))
 (h:tK P A T zs h9.toList=some (C,v)) (hC:C) (hK:K (A.put o.dst v)):J1 P N o A K:=
 jM hd hK fun Pb Kb a w F hs=>by
  obtain⟨y,hy,hr⟩:=FG hs hz h hC;exact⟨y,Zbu,hr⟩
theorem x2.freeze(hs:x2 N Pb Kb A a w F){i:Nat}(hi:(A.get i).dE=true)(hi':i<N):∃ Pb' I4 F',x2 N Pb' I4 (A.put (some i) (A.get i).er) a w F'/\(∀ g,Pb g->Pb' g)/\(∀ g,Kb g->I4 g)/\(∀ g,Pb' g->Pb g\/¬ Kb g):=by
 refine⟨fun g=>Pb g\/g∈F (.slot i),fun g=>Kb g\/g∈F (.slot i),cK F (.slot i) [],?_,fun g h=>.inl h,fun g h=>.inl h,fun g h=>h.imp id fun h=>(hs.free _ g h).1⟩;have XB:∀ r,r≠.slot i->∀ g,g∈F r->¬ (Pb g\/g∈F (.slot i))/\¬ (Kb g\/g∈F (.slot i)):=fun r hr g hg=>by
  refine⟨fun c=>?_,fun c=>?_⟩ <;> rcases c with c | c;exact(hs.free r g hg).1 (hs.sub g c);exact hs.cM r _ hr g hg c;exact(hs.free r g hg).1 c;exact hs.cM r _ hr g hg c
 refine⟨hs.size,hs.defers,fun j=>?_,fun k g v hk=>?_,fun r r' hne g hg=>?_,fun r=>?_,fun r g hg=>?_,fun g h=>h.imp (hs.sub g) id,fun g h=>?_⟩;rw[AS.aO];by_cases e:j=i;subst e;simp only[if_true,cK];exact KA (hs.slot j) (fun g h=>.inl h) (fun g h=>.inr h);have hne:m7.slot j≠m7.slot i:=fun c=>e (by injection c);simp only[if_neg e,cK,if_neg hne];exact oo _ (hs.slot j) (fun _ _=>rfl) (fun _ _=>rfl) (fun g h=>.inl h) (fun g hg=>(XB _ hne g hg).1);obtain⟨F',e,hA⟩:=hs.root k g v hk;refine⟨F',by simpa[cK] using e,?_⟩;obtain⟨cs,cells,hb,hr,hc⟩:=hA;exact⟨cs,cells,hb,hY _ hr (fun _ _=>rfl) (fun _ _=>rfl) (fun g h=>.inl h) (fun x hx=>(XB (.key k) Zad x (by rw[e];simp[hx])).1),hc⟩;simp only[cK]at hg ⊢;split at hg;simp at hg;split;simp;exact hs.cM r r' hne g hg;simp only[cK];split;exact Zba;exact hs.nodup r;simp only[cK]at hg;split at hg;simp at hg;rename_i hne;exact⟨(XB r hne g hg).2,(hs.free r g hg).2⟩;rcases h with h | h;exact hs.bound g h;exact(hs.free _ g h).2
theorem x2.Qy(hs:x2 N Pb Kb A a w F){g:Nat}(hg:∀ r,g ∉ F r)(hK: ¬ Kb g)(hf:∀ k,k≠g->w'.heap[k]? =w.heap[k]?)(hsz:w'.heap.size=w.heap.size):x2 N Pb Kb A a w' F where
 size:=hs.size
 defers:=hs.defers
 slot:=fun i=>oo _ (hs.slot i) (fun x hx=>hf x (by rintro rfl;exact hK (hs.sub _ hx))) (fun x hx=>hf x (by rintro rfl;exact hg _ hx)) (fun _ h=>h) (fun x hx c=>(hs.free _ x hx).1 (hs.sub x c))
 root:=fun k g0 v hk=>by
  obtain⟨F',e,hA⟩:=hs.root k g0 v hk;have hg0:g0≠g:=by rintro rfl;exact hg (.key k) (by rw[e];simp)
  refine⟨F',e,rq hA (fun x hx=>hf x (by rintro rfl;exact hK (hs.sub _ hx))) (fun x hx=>hf x (by rintro rfl;exact hg (.key k) (by rw[e];simp[hx]))) (fun x hx c=>(hs.free (.key k) x (by rw[e];simp[hx])).1 (hs.sub x c)) (fun cells hb=>?_)⟩;obtain⟨e',fr,hb,hfr⟩:=hb;exact⟨cells,⟨e',fr,(hf g0 hg0).trans hb,hfr⟩,fun _ _ _=>rfl⟩
 cM:=hs.cM
 nodup:=hs.nodup
 free:=fun r x hx=>by rw[hsz];exact hs.free r x hx
 sub:=hs.sub
 bound:=fun x hx=>by rw[hsz];exact hs.bound x hx
theorem jP:∀ (xs ys:List V) {c1 c2:List Value} {F1 F2:List Nat},RL w Pb xs c1 F1->RL w Pb ys c2 F2->RL w Pb (xs++ys) (c1++c2) (F1++F2)
 | [],ys,c1,c2,F1,F2,h1,h2=>by obtain⟨rfl,rfl⟩:=h1;exact h2
 | x::xs,ys,c1,c2,F1,F2,h1,h2=>by
   obtain⟨d1,d2,G1,G2,rfl,rfl,k1,k2⟩:=h1;exact⟨d1,d2++c2,G1,G2++F2,Zad,Zad,k1,jP xs ys k2 h2⟩
theorem qt{sz:Nat}(xs:List V)(h:aW sz xs):V.ns xs=xs.length*sz:=by
 have:=eM xs xs.length h (Zbc _);simpa using this
theorem AF{full:Bool}{ys:List V}{x:Value}(h:R w Pb (.sl full ys) [x] []){s:Nat}(hs:aW s ys):∃ (B:Option Addr) (c:Nat) (flat:List Value),x=.slice B ys.length c/\RL w Pb ys flat []/\
 (∀ w1:World,(∀ ad,w1.cell? ad=w.cell? ad)->(Builtin.firstCells s ys.length x).run P w1=.ok flat.toArray w1)/\flat.length=ys.length*s:=by
 obtain⟨_,A,c,hx,hl,_,hz⟩:=h;have hx:x=.slice A ys.length c:=Zbt
 subst hx;rcases hz with rfl | ⟨b,o,sz,flat,rfl,hb,hsz,hN,hr,hc⟩;refine⟨A,c,[],rfl,⟨rfl,rfl⟩,fun w1 _=>?_,Zad⟩;cases A with
 | none=>rfl
 | some ad=>simp only[Builtin.firstCells,Zau,Nat.zero_mul];rfl
 have hl2:=jK _ hr;by_cases he:ys=[];subst he;obtain⟨rfl,_⟩:=hr;exact⟨_,c,[],rfl,⟨rfl,rfl⟩,fun w1 _=>by simp only[Builtin.firstCells,Zau,Nat.zero_mul];rfl,Zad⟩;rw[qt ys hs]at hl2;exact⟨_,c,flat,rfl,hr,fun w1 h1=>by simp only[Builtin.firstCells];rw[<- hl2];exact run_loadCells_list w1 _ flat (fun j v hv=>by rw[eH,h1];exact hc j v hv),hl2⟩
theorem zj{sz g o c:Nat}{xs:List V}{x:Value}{Fx:List Nat}(h:R w Pb (.own sz xs g o c) [x] Fx):∃ (B:Option Addr) (flat:List Value) (F':List Nat),x=.slice B xs.length c/\RL w Pb xs flat F'/\
 (∀ w1:World,(∀ ad,w1.cell? ad=w.cell? ad)->(Builtin.firstCells sz xs.length x).run P w1=.ok flat.toArray w1)/\(0<c->B=some ⟨g,o,none⟩/\aW sz xs/\0<sz/\Fx=g::F'/\flat.length=xs.length*sz)/\(c=0->xs=[]/\Fx=[]/\F'=[]/\flat=[])/\xs.length<=c:=by
 rcases h with ⟨rfl,rfl,rfl,A,hx⟩ | ⟨h1,h2,h3,hx,hN,_,flat,F',cells,rfl,hr,hb,hsz,hc⟩;have hx:x=.slice A 0 0:=Zbt
 subst hx;refine⟨A,[],[],rfl,⟨rfl,rfl⟩,fun w1 _=>?_,fun h=>absurd h Zac,fun _=>⟨rfl,rfl,rfl,rfl⟩,Zbc _⟩;cases A with
 | none=>rfl
 | some ad=>simp only[Builtin.firstCells,Zau,Nat.zero_mul];rfl
 have hx:x=.slice (some ⟨g,o,none⟩) xs.length c:=Zbt
 subst hx;have hl:=jK _ hr;rw[qt xs hN]at hl;refine⟨_,flat,F',rfl,hr,fun w1 h1=>?_,fun _=>⟨rfl,hN,h2,rfl,hl⟩,fun h=>absurd h Zac,h3⟩;simp only[Builtin.firstCells];rw[<- hl];exact run_loadCells_list w1 _ flat (fun j v hv=>by rw[eH,h1,eP hb];exact hc j v hv)
theorem sF{e:Nat}{inf:TypeInfo}{z:Value}(h1:P.info? e=some inf)(h2:inf.zero=some z):(zeroValue e).run P w=.ok z w:=by simp[zeroValue,typeInfo,h1,h2]
theorem uX{T T2 e e2:Nat} {t:TI} (hT:tD P T=some (.sl e)) (VM:tD P T2=some (.sl e2)) (ht:ti P e=some t) (hz:∃ inf z,P.info? e=some inf/\inf.zero=some z/\z.cells.size=t.sz) (hsz:0<t.sz) (Vg:0<t.Pq)
 (hs:x2 N Pb Kb A a w F) {xs ys:List V} {g o c:Nat} {s x:Value} {Fx:List Nat} {B2:Option Addr} {c2:Nat} {G8:List Value} (O7:R w Pb (.own t.sz xs g o c) [s] Fx) (x9:∀ r g,g∈Fx->g ∉ F r) (hfr:∀ g,g∈Fx->¬ Kb g/\g<w.heap.size) {Fy:List Nat} (hnd:(Fx++Fy).Nodup) (hyd:∀ r g,g∈Fy->g ∉ F r) (YH:∀ g,g∈Fy->¬ Kb g/\g<w.heap.size)
 (RG:x=.slice B2 ys.length c2) (P1:RL w Pb ys G8 Fy) (QQ:∀ w1:World,(∀ ad,w1.cell? ad=w.cell? ad)->(Builtin.firstCells t.sz ys.length x).run P w1=.ok G8.toArray w1) (hl2:G8.length=ys.length*t.sz) (hN:aW t.sz ys) (hbig:(xs.length+ys.length)*t.Pq<=140737488355328):
 ∃ v w' F2 g' o' c',(Builtin.append_ #[T,T2] T #[s,x]).run P w=.ok v w'/\x2 N Pb Kb A a w' F/\R w' Pb (.own t.sz (xs++ys) g' o' c') [v] F2/\F2.Nodup/\(∀ r g,g∈F2->g ∉ F r)/\(∀ g,g∈F2->¬ Kb g/\g<w'.heap.size)/\B6 Kb w w':=by
 have hu:=jw hT;have Ri:=jw VM;obtain⟨inf,z,PW,hzero,hzs⟩:=hz;obtain⟨Vr,_,M7,_,Ux,UZ,_⟩:=ke ht;rw[PW]at M7;obtain rfl:=Option.some.inj M7;obtain⟨B,flat,F',rfl,hr,RY,L8,Up,hle⟩:=zj (P:=P) O7;subst RG;have Sv:(Builtin.lenOf (.slice B2 ys.length c2)).run P w=.ok ys.length w:=rfl;have Yi:∀ r g,g∈F r->¬ Pb g:=fun r g hg c=>(hs.free r g hg).1 (hs.sub g c);have Y4:xs.length+ys.length<=140737488355328:=Nat.le_trans (Nat.le_mul_of_pos_right _ Vg) hbig;unfold Builtin.append_;simp only[List.getElem?_toArray,List.getElem?_cons_zero,List.getElem?_cons_succ,Za0,aV hu,Zas];simp only[dA ht,Zas];simp only[aV Ri,Zas,Za1];rw[if_neg (show ¬ (false=true) by decide)];rw[Za0,Sv];simp only[Zas];by_cases St:xs.length+ys.length<=c
 ·
  rw[if_pos St];simp only[Za0,Bool.not_false,if_true,QQ w (fun _=>rfl),Zas];by_cases hc:c=0;obtain⟨rfl,rfl,rfl,rfl⟩:=Up hc;have S0:ys=[]:=Za5 Zac;subst S0;have Sz:G8=[]:=Za5 (by simpa using hl2);subst Sz;refine⟨.slice B 0 c,w,[],g,o,0,?_,hs,.inl ⟨rfl,rfl,rfl,B,by rw[hc]⟩,Zba,Zad,Zad,B6.refl _ _⟩;cases B with
  | none=>simp
  | some ad=>simp[storeCells]
  obtain⟨rfl,XU,_,rfl,hl1⟩:=L8 Zac;rcases O7 with ⟨h0,_⟩ | ⟨_,_,_,_,_,XT,P3,Qo,cells,Yj,I8,hb,Xr,w9⟩;exact absurd h0 hc;simp only[List.cons.injEq,true_and]at Yj;subst Yj;have hle':o+xs.length*t.sz+G8.length<=cells.size:=by
   rw[hl2];have:(xs.length+ys.length)*t.sz<=c*t.sz:=Nat.mul_le_mul_right _ St;rw[Nat.add_mul]at this;omega
  obtain⟨w',D4,PB⟩:=iz (P:=P) (g:=g) (o:=o+xs.length*t.sz) G8 0 w cells hb Zac (sP _ P1);have hg:=hfr g Zad;have C8:x2 N Pb Kb A a w' F:=hs.Qy (fun r=>x9 r g Zad) hg.1 PB.Qy PB.size;have ZL:∀ k,Pb k->w'.heap[k]? =w.heap[k]? :=fun k hk=>PB.Qy k (by rintro rfl;exact XT hk);have hgA:g ∉ F'++Fy:=(List.nodup_cons.1 hnd).1;have To:g ∉ F':=fun c=>hgA (by simp[c]);have hgY:g ∉ Fy:=fun c=>hgA (by simp[c]);have hkF:∀ k,k∈F'->w'.heap[k]? =w.heap[k]? :=fun k hk=>PB.Qy k (by rintro rfl;exact To hk);obtain⟨r5,OZ,Pm,QM,UJ⟩:=PB.Rr cells hb;have UC:=eZ (w':=w') (Pb':=Pb) xs hr ZL hkF (fun _ h=>h) (fun k hk c=>(hfr k (by simp[hk])).1 (hs.sub k c));have UB:=eZ (w':=w') (Pb':=Pb) ys P1 ZL (fun k hk=>PB.Qy k (by rintro rfl;exact hgY hk)) (fun _ h=>h) (fun k hk c=>(YH k hk).1 (hs.sub k c));have UR:P3=flat\/True:=.inr trivial;have hgy:∀ k,k∈g::(F'++Fy)->(¬ Kb k/\k<w.heap.size)/\∀ r,k ∉ F r:=fun k hk=>by
   rcases Zax.1 (show k∈(g::F')++Fy from hk) with h | h;exact⟨hfr k h,fun r=>x9 r k h⟩;exact⟨YH k h,fun r=>hyd r k h⟩
  refine⟨.slice (some ⟨g,o,none⟩) (xs.length+ys.length) c,w',g::(F'++Fy),g,o,c,?_,C8,.inr ⟨Zac,hsz,Zal,Zad,?_,XT,flat++G8,F'++Fy,r5,rfl,jP xs ys UC UB,OZ,Zac,?_⟩,hnd,fun r k hk=>(hgy k hk).2 r,fun k hk=>by rw[PB.size];exact(hgy k hk).1,⟨PB.os,PB.tape,PB.output,by rw[PB.size];omega,fun k hk=>PB.Qy k (by rintro rfl;exact hg.1 hk),PB.shape⟩⟩;have e1:(Array.toList G8.toArray)=G8:=Zad;simp only[eH,Za0];rw[D4];simp only[Zas,Za1];intro v hv;rcases Zax.1 hv with h | h;exact XU v h;exact hN v h;intro j u hu;by_cases hj:j<flat.length;rw[Za9 hj]at hu;rw[QM _ Zac];have h1:(loadCells ⟨g,o,none⟩ P3.length).run P w=.ok P3.toArray w:=run_loadCells_list w _ P3 (fun j v hv=>by rw[eH,eP hb];exact w9 j v hv);have hl1':P3.length=xs.length*t.sz:=by rw[jK _ I8,qt xs XU]
  have h2:=RY w (fun _=>rfl);simp only[Builtin.firstCells]at h2;rw[<- hl1',h1]at h2;simp only[Result.ok.injEq,and_true]at h2;have:P3=flat:=by have:=Zbm Array.toList h2;simpa using this
  subst this;exact w9 j u hu;rw[Za4 Zac]at hu;have:=UJ _ u hu;rw[<- this];congr 1;omega
 ·
  rw[if_neg St];have hlt:c<xs.length+ys.length:=Zac;have hmx:IntKind.i64.max=9223372036854775807:=Zaf;have VF: ¬ (((xs.length+ys.length:Nat):Int)>IntKind.i64.max/\((false=true)\/inf.bytes=0)):=by
   rw[hmx];rintro⟨h1,_⟩;omega
  have hcap: ¬ Builtin.nextslicecap (xs.length+ys.length) c*inf.bytes>281474976710656:=by
   have:=growslice_fits (bytes:=t.Pq) hlt hbig;rw[UZ];omega
  have Vc:∀ w,(typeInfo e).run P w=.ok inf w:=fun w=>by simp[typeInfo,PW]
  obtain⟨nc,Yd,Zf⟩:∃ nc,xs.length+ys.length<=nc/\(choose (.appendCap (xs.length+ys.length) c e)).run P w=.ok nc { w with drawn:=w.drawn+1 }:=by
   exact⟨(Question.appendCap (xs.length+ys.length) c e).cut (w.tape w.drawn (Question.appendCap (xs.length+ys.length) c e)),by simp only[Question.cut];exact Nat.le_add_right _ _,by rw[run_choose,if_neg (by simp[Question.forced])]⟩
  obtain⟨w1,RU⟩:∃ w1:World,w1={ w with drawn:=w.drawn+1 }:=⟨_,rfl⟩;rw[<- RU]at Zf;have N8:w1.heap=w.heap:=by rw[RU]
  have QE:∀ ad,w1.cell? ad=w.cell? ad:=fun ad=>by rw[RU];rfl
  have Zc:=RY w1 QE;have Sz:=QQ w1 QE;have hzv:=fun w=>sF (w:=w) PW hzero;obtain⟨cells,hcells⟩:∃ cells:Array Value,cells=flat.toArray++G8.toArray++Builtin.zeroCells z.cells (nc-(xs.length+ys.length)):=⟨_,rfl⟩;have hlf:flat.length=xs.length*t.sz:=by
   by_cases hc:c=0;obtain⟨rfl,_,_,rfl⟩:=Up hc;simp;exact(L8 Zac).2.2.2.2
  have VJ:cells.size=nc*t.sz:=by
   rw[hcells];simp only[Array.size_append,List.size_toArray,Builtin.zeroCells,Array.size_map,Array.size_range,hzs,hlf,hl2];rw[<- Nat.add_mul,<- Nat.add_mul];congr 1;omega
  have hdr:x2 N Pb Kb A a w1 F:=hs.grow (fun k _=>by rw[N8]) (by rw[N8];exact Zbc _) (fun _ h=>h) (fun g h=>.inl h) hs.sub;have VO:∀ k,k∈F'->k∈Fx:=fun k hk=>by
   by_cases hc:c=0;rw[(Up hc).2.2.1]at hk;simp at hk;rw[(L8 Zac).2.2.2.1];simp[hk]
  have hFn:(F'++Fy).Nodup:=by
   by_cases hc:c=0;rw[(Up hc).2.2.1];exact(List.nodup_append.1 hnd).2.1;have:=hnd;rw[(L8 Zac).2.2.2.1]at this;exact(List.nodup_cons.1 this).2
  have XU:aW t.sz xs:=by
   by_cases hc:c=0;rw[(Up hc).1];intro v hv;simp at hv;exact(L8 Zac).2.1
  have hold:∀ k,k<w.heap.size->(w1.alloc (.cells cells e)).heap[k]? =w.heap[k]? :=fun k hk=>by
   rw[alloc_old w1 _ k (by rw[N8];exact hk),N8]
  have Uw:(w1.alloc (.cells cells e)).heap.size=w.heap.size+1:=by rw[eg,N8]
  have RW:w.heap.size=w1.heap.size:=by rw[N8]
  have UC:=eZ (w':=w1.alloc (.cells cells e)) (Pb':=Pb) xs hr (fun k hk=>hold k (hs.bound k (hs.sub k hk))) (fun k hk=>hold k (hfr k (VO k hk)).2) (fun _ h=>h) (fun k hk cc=>(hfr k (VO k hk)).1 (hs.sub k cc));have UB:=eZ (w':=w1.alloc (.cells cells e)) (Pb':=Pb) ys P1 (fun k hk=>hold k (hs.bound k (hs.sub k hk))) (fun k hk=>hold k (YH k hk).2) (fun _ h=>h) (fun k hk cc=>(YH k hk).1 (hs.sub k cc));have XV:∀ k,k∈F'++Fy->(¬ Kb k/\k<w.heap.size)/\∀ r,k ∉ F r:=fun k hk=>by
   rcases Zax.1 hk with h | h;exact⟨hfr k (VO k h),fun r=>x9 r k (VO k h)⟩;exact⟨YH k h,fun r=>hyd r k h⟩
  have SE: ¬ Kb w.heap.size:=fun cc=>by have:=hs.bound _ cc;omega
  refine⟨.slice (some ⟨w.heap.size,0,none⟩) (xs.length+ys.length) nc,w1.alloc (.cells cells e),w.heap.size::(F'++Fy),w.heap.size,0,nc,?_,hdr.pK _,.inr ⟨Zac,hsz,by simpa using Yd,Zad,?_,fun cc=>SE (hs.sub _ cc),flat++G8,F'++Fy,cells,rfl,
   jP xs ys UC UB,⟨e,(0,0),by rw[RW];exact ig w1 _,fun i _ h=>by omega⟩,by rw[VJ];omega,fun j u hu=>?_⟩,?_,?_,?_,⟨?_,?_,?_,by rw[Uw];omega,fun k hk=>hold k (hs.bound k hk),Shp.of_eq hold⟩⟩
  simp only[Sem.run_ite,Za0,Vc,Zas,if_neg VF,if_neg hcap,Za1,Zf,Zc,Sz,Bool.not_false,if_true,run_askRoom,hzv,km];rw[hcells,RW];intro v hv;rcases Zax.1 hv with h | h;exact XU v h;exact hN v h;rw[hcells,Zaw];have hj:=(Za3.1 hu).1;rw[Array.getElem?_append_left Zbp];simpa using hu;refine List.nodup_cons.2 ⟨fun cc=>?_,hFn⟩;have:=(XV _ cc).1.2;omega;intro r k hk cc;rcases List.mem_cons.1 hk with rfl | h;have:=(hs.free r _ cc).2;omega;exact(XV k h).2 r cc;intro k hk;rw[Uw];rcases List.mem_cons.1 hk with rfl | h;exact⟨SE,Zac⟩;have:=(XV k h).1;exact⟨this.1,Zac⟩;rw[RU];rfl;rw[RU];rfl;rw[RU];rfl
theorem Cr{T T2 e e2:Nat} {t:TI} (hT:tD P T=some (.sl e)) (VM:tD P T2=some (.sl e2)) (ht:ti P e=some t) (hz:∃ inf z,P.info? e=some inf/\inf.zero=some z/\z.cells.size=t.sz) (hsz:0<t.sz) (Vg:0<t.Pq)
 (hs:x2 N Pb Kb A a w F) {xs ys:List V} {s x:Value} {B2:Option Addr} {c2:Nat} {G8:List Value} (O7:R w Pb (.sl true xs) [s] []) (XU:aW t.sz xs) (S0:0<ys.length)
 (RG:x=.slice B2 ys.length c2) (P1:RL w Pb ys G8 []) (QQ:∀ w1:World,(∀ ad,w1.cell? ad=w.cell? ad)->(Builtin.firstCells t.sz ys.length x).run P w1=.ok G8.toArray w1) (hl2:G8.length=ys.length*t.sz) (hN:aW t.sz ys) (hbig:(xs.length+ys.length)*t.Pq<=140737488355328):
 ∃ v w' F2 g' o' c',(Builtin.append_ #[T,T2] T #[s,x]).run P w=.ok v w'/\x2 N Pb Kb A a w' F/\R w' Pb (.own t.sz (xs++ys) g' o' c') [v] F2/\F2.Nodup/\(∀ r g,g∈F2->g ∉ F r)/\(∀ g,g∈F2->¬ Kb g/\g<w'.heap.size)/\B6 Kb w w':=by
 have hu:=jw hT;have Ri:=jw VM;obtain⟨inf,z,PW,hzero,hzs⟩:=hz;obtain⟨Vr,_,M7,_,Ux,UZ,_⟩:=ke ht;rw[PW]at M7;obtain rfl:=Option.some.inj M7;obtain⟨B,c,flat,rfl,hr,RY,hlf⟩:=AF (P:=P) O7 XU;have hcx:c=xs.length:=by
  obtain⟨_,A0,c0,h1,_,h2,_⟩:=O7;have h1:=(List.cons.inj h1).1;simp only[Value.slice.injEq]at h1;rw[h1.2.2];exact h2 rfl
 subst RG;have Sv:(Builtin.lenOf (.slice B2 ys.length c2)).run P w=.ok ys.length w:=rfl;have Y4:xs.length+ys.length<=140737488355328:=Nat.le_trans (Nat.le_mul_of_pos_right _ Vg) hbig;unfold Builtin.append_;simp only[List.getElem?_toArray,List.getElem?_cons_zero,List.getElem?_cons_succ,Za0,aV hu,Zas];simp only[dA ht,Zas];simp only[aV Ri,Zas,Za1];rw[if_neg (show ¬ (false=true) by decide)];rw[Za0,Sv];simp only[Zas];have St: ¬ (xs.length+ys.length<=c):=Zac;rw[if_neg St];have hlt:c<xs.length+ys.length:=Zac;have hmx:IntKind.i64.max=9223372036854775807:=Zaf;have VF: ¬ (((xs.length+ys.length:Nat):Int)>IntKind.i64.max/\((false=true)\/inf.bytes=0)):=by
  rw[hmx];rintro⟨h1,_⟩;omega
 have hcap: ¬ Builtin.nextslicecap (xs.length+ys.length) c*inf.bytes>281474976710656:=by
  have:=growslice_fits (bytes:=t.Pq) hlt hbig;rw[UZ];omega
 have Vc:∀ w,(typeInfo e).run P w=.ok inf w:=fun w=>by simp[typeInfo,PW]
 obtain⟨nc,Yd,Zf⟩:∃ nc,xs.length+ys.length<=nc/\(choose (.appendCap (xs.length+ys.length) c e)).run P w=.ok nc { w with drawn:=w.drawn+1 }:=by
  exact⟨(Question.appendCap (xs.length+ys.length) c e).cut (w.tape w.drawn (Question.appendCap (xs.length+ys.length) c e)),by simp only[Question.cut];exact Nat.le_add_right _ _,by rw[run_choose,if_neg (by simp[Question.forced])]⟩
 obtain⟨w1,RU⟩:∃ w1:World,w1={ w with drawn:=w.drawn+1 }:=⟨_,rfl⟩;rw[<- RU]at Zf;have N8:w1.heap=w.heap:=by rw[RU]
 have QE:∀ ad,w1.cell? ad=w.cell? ad:=fun ad=>by rw[RU];rfl
 have Zc:=RY w1 QE;have Sz:=QQ w1 QE;have hzv:=fun w=>sF (w:=w) PW hzero;obtain⟨cells,hcells⟩:∃ cells:Array Value,cells=flat.toArray++G8.toArray++Builtin.zeroCells z.cells (nc-(xs.length+ys.length)):=⟨_,rfl⟩;have VJ:cells.size=nc*t.sz:=by
  rw[hcells];simp only[Array.size_append,List.size_toArray,Builtin.zeroCells,Array.size_map,Array.size_range,hzs,hlf,hl2];rw[<- Nat.add_mul,<- Nat.add_mul];congr 1;omega
 have hdr:x2 N Pb Kb A a w1 F:=hs.grow (fun k _=>by rw[N8]) (by rw[N8];exact Zbc _) (fun _ h=>h) (fun g h=>.inl h) hs.sub;have hold:∀ k,k<w.heap.size->(w1.alloc (.cells cells e)).heap[k]? =w.heap[k]? :=fun k hk=>by
  rw[alloc_old w1 _ k (by rw[N8];exact hk),N8]
 have Uw:(w1.alloc (.cells cells e)).heap.size=w.heap.size+1:=by rw[eg,N8]
 have RW:w.heap.size=w1.heap.size:=by rw[N8]
 have UC:=eZ (w':=w1.alloc (.cells cells e)) (Pb':=Pb) xs hr (fun k hk=>hold k (hs.bound k (hs.sub k hk))) Zad (fun _ h=>h) Zad;have UB:=eZ (w':=w1.alloc (.cells cells e)) (Pb':=Pb) ys P1 (fun k hk=>hold k (hs.bound k (hs.sub k hk))) Zad (fun _ h=>h) Zad;have SE: ¬ Kb w.heap.size:=fun cc=>by have:=hs.bound _ cc;omega
 refine⟨.slice (some ⟨w.heap.size,0,none⟩) (xs.length+ys.length) nc,w1.alloc (.cells cells e),[w.heap.size],w.heap.size,0,nc,?_,hdr.pK _,.inr ⟨Zac,hsz,by simpa using Yd,Zad,?_,fun cc=>SE (hs.sub _ cc),flat++G8,[],cells,rfl,
  jP xs ys UC UB,⟨e,(0,0),by rw[RW];exact ig w1 _,fun i _ h=>by omega⟩,by rw[VJ];omega,fun j u hu=>?_⟩,?_,?_,?_,⟨?_,?_,?_,by rw[Uw];omega,fun k hk=>hold k (hs.bound k hk),Shp.of_eq hold⟩⟩
 simp only[Sem.run_ite,Za0,Vc,Zas,if_neg VF,if_neg hcap,Za1,Zf,Zc,Sz,Bool.not_false,if_true,run_askRoom,hzv,km];rw[hcells,RW];intro v hv;rcases Zax.1 hv with h | h;exact XU v h;exact hN v h;rw[hcells,Zaw];have hj:=(Za3.1 hu).1;rw[Array.getElem?_append_left Zbp];simpa using hu;simp;intro r k hk cc;obtain rfl:=Zav.1 hk;have:=(hs.free r _ cc).2;omega;intro k hk;rw[Uw];obtain rfl:=Zav.1 hk;exact⟨SE,Zac⟩;rw[RU];rfl;rw[RU];rfl;rw[RU];rfl
def je(lo n sz g o:Nat):V->Option (Prop×List V)
 | .own Qq xs g2 o2 _=>some ((sz=Qq/\g=g2/\o=o2)/\lo+n<=xs.length/\V.aF xs=false/\aW Qq xs,(xs.drop lo).take n)
 | _=>none
def QI(A:AS)(x:Operand):Option (Prop×List V):=
 match A.ev x with
 | .sl _ xs=>some (True,xs)
 | .own _ xs _ _ _=>some (True,xs)
 | .hd r p sz g o lo n _=>match r,p with
   | .slot i,[]=>je lo n sz g o (A.get i)
   | .key k,p=>match A.at (.key k) p with
     | some (_,_,u)=>je lo n sz g o u
     | none=>none
   | _,_=>none
 | _=>none
theorem rE:∀ (xs:List V) (k:Nat),V.aF xs=false->V.aF (xs.drop k)=false
 | xs,0,h=>h
 | [],k+1,h=>by simpa using h
 | v::vs,k+1,h=>by
   simp only[V.aF,Bool.or_eq_false_iff]at h;exact rE vs k h.2
theorem JE{Fo:List Nat}{Qq g2 o2 c2 lo n c:Nat}{xs:List V}{VS:List Value}(hr:R w Pb (.own Qq xs g2 o2 c2) VS Fo)(hle:n<=c){B:Option Addr}(hB:0<c->B=some ⟨g2,o2+lo*Qq,none⟩)(hn:lo+n<=xs.length)(ho:V.aF xs=false){s:Nat}(hs:aW s ((xs.drop lo).take n)):
 ∃ (flat:List Value),RL w Pb ((xs.drop lo).take n) flat []/\(∀ w1:World,(∀ ad,w1.cell? ad=w.cell? ad)->(Builtin.firstCells s n (.slice B n c)).run P w1=.ok flat.toArray w1)/\flat.length=n*s:=by
 by_cases hn0:n=0;subst hn0;refine⟨[],by simp[RL],fun w1 _=>?_,Zad⟩;cases B with
 | none=>rfl
 | some ad=>simp only[Builtin.firstCells,Nat.zero_mul];rfl
 rcases hr with ⟨_,rfl,_⟩ | ⟨h1,h2,h3,hx,hN,_,flat,F',cells,_,hr,hb,hsz,hc⟩;simp at hn;omega;have hF:=gQ xs ho hr;subst hF;have Pm:s=Qq:=by
  have hne:(xs.drop lo).take n≠[]:=by
   intro e;have:=Zbm List.length e;simp at this;omega
  obtain⟨v,hv⟩:=List.exists_mem_of_ne_nil _ hne;rw[<- hs v hv,<- hN v (List.mem_of_mem_drop (List.mem_of_mem_take hv))]
 subst Pm;obtain⟨c1,S8,QE⟩:=qD xs lo hr;obtain⟨c3,Yc,Zg⟩:=qy _ n S8;have hl:c3.length=n*s:=by
  rw[jK _ Yc,qt _ (fun x hx=>hN x (List.mem_of_mem_drop (List.mem_of_mem_take hx)))];have:((xs.drop lo).take n).length=n:=Zal;rw[this]
 refine⟨c3,Yc,fun w1 RU=>?_,hl⟩;have hB':=hB Zac;subst hB';simp only[Builtin.firstCells];rw[<- hl];refine run_loadCells_list w1 _ c3 (fun j v hv=>?_);rw[eH,RU,eP hb];have:=QE j v (Zg j v hv);rw[eM xs lo hN Zac]at this;have:=hc _ _ this;simpa[Zbj] using this
theorem oC(hs:x2 N Pb Kb A a w F){x:Operand}{C:Prop}{ys:List V}(h:QI A x=some (C,ys))(hC:C){s:Nat}(N2:aW s ys)(ho:V.aF ys=false):
 ∃ (B:Option Addr) (c:Nat) (flat:List Value),a.eval x=.slice B ys.length c/\RL w Pb ys flat []/\
   (∀ w1:World,(∀ ad,w1.cell? ad=w.cell? ad)->(Builtin.firstCells s ys.length (a.eval x)).run P w1=.ok flat.toArray w1)/\flat.length=ys.length*s:=by
 obtain⟨Fx,hr⟩:=eE hs x;unfold QI at h;split at h;rename_i full xs e;simp only[Zan,Zaq]at h;obtain⟨_,rfl⟩:=h;rw[e]at hr;have hr:R w Pb (.sl full xs) [a.eval x] Fx:=hr;have hF:Fx=[]:=hr.1;subst hF;obtain⟨B,c,flat,h1,h2,h3,h4⟩:=AF (P:=P) hr N2;exact⟨B,c,flat,h1,h2,h3,h4⟩;rename_i sz xs g o c e;simp only[Zan,Zaq]at h;obtain⟨_,rfl⟩:=h;rw[e]at hr;have hr:R w Pb (.own sz xs g o c) [a.eval x] Fx:=hr;have UD:=hr;obtain⟨B,flat,F',h1,h2,h3,h4,h5,h6⟩:=zj (P:=P) hr;have hF:=gQ xs ho h2;subst hF;by_cases hc:0<c;obtain⟨_,Tq,_,_,hl⟩:=h4 hc;by_cases he:xs=[];subst he;exact⟨B,c,flat,h1,h2,fun w1 RU=>by
  have:=h3 w1 RU;simpa[Builtin.firstCells,h1] using this,by simpa using hl⟩
 obtain⟨v,vs,rfl⟩:=List.exists_cons_of_ne_nil he;have Pm:s=sz:=by rw[<- N2 v Zad,<- Tq v Zad]
 subst Pm;exact⟨B,c,flat,h1,h2,h3,hl⟩;obtain⟨rfl,_,_,rfl⟩:=h5 Zac;exact⟨B,c,[],h1,h2,fun w1 RU=>by
  have:=h3 w1 RU;simpa[Builtin.firstCells,h1] using this,Zad⟩
 rename_i r p sz g o lo n c e;rw[e]at hr;obtain⟨_,hle,B,hv,hB⟩:=hr;have hv:a.eval x=.slice B n c:=(List.cons.inj hv).1
 have key:∀ u Fo VS,R w Pb u VS Fo->je lo n sz g o u=some (C,ys)->∃ (B:Option Addr) (c:Nat) (flat:List Value),a.eval x=.slice B ys.length c/\RL w Pb ys flat []/\
  (∀ w1:World,(∀ ad,w1.cell? ad=w.cell? ad)->(Builtin.firstCells s ys.length (a.eval x)).run P w1=.ok flat.toArray w1)/\flat.length=ys.length*s:=by
  intro u Fo VS PD hu;unfold je at hu;split at hu;rename_i Qq xs g2 o2 c2;simp only[Zan,Zaq]at hu;obtain⟨rfl,rfl⟩:=hu;obtain⟨⟨rfl,rfl,rfl⟩,hln,Wz,_⟩:=hC;obtain⟨flat,k1,k2,k3⟩:=JE (P:=P) PD hle hB hln Wz N2;have hlen:((xs.drop lo).take n).length=n:=Zal;rw[hlen];exact⟨B,c,flat,hv,k1,by rw[hv];exact k2,k3⟩;simp at hu
 split at h;rename_i i;have P5:=hs.slot i;unfold je at h;split at h;rename_i Qq xs g2 o2 c2 hg;rw[hg]at P5;exact key (.own Qq xs g2 o2 c2) _ _ P5 (by unfold je;exact h);simp at h;rename_i k p';split at h;rename_i a0 b0 u C4;obtain⟨F',cs,cells,hb,PD,w9⟩:=jc hs C4;exact key u F' cs PD h;simp at h;simp at h;simp at h
theorem rv{t sz:Nat}{xs:List V}{g o c:Nat}(h:A.get t=.own sz xs g o c):A.drop (.tmp t)=A.put (some t) .c9:=by simp[AS.drop,h,V.dE]
end
def H2(A B:AS):Prop:=(∀ i,A.get i=B.get i)/\∀ k,lk k A.h=lk k B.h
theorem H2.le{A B:AS}(h:H2 A B):A.le B:=⟨fun i=>.inr (h.1 i),fun k=>.inr (h.2 k)⟩
theorem H2.symm{A B:AS}(h:H2 A B):H2 B A:=⟨fun i=>(h.1 i).symm,fun k=>(h.2 k).symm⟩
theorem H2.trans{A B C:AS}(h:H2 A B)(k:H2 B C):H2 A C:=⟨fun i=>(h.1 i).trans (k.1 i),fun i=>(h.2 i).trans (k.2 i)⟩
def U6(o:Oper):List Nat:=(o.after.toList.filter (Region.binds .any)).map (·.on)
section
variable {P:Program} {N:Nat} {ops:Array Oper}
theorem HE{α:Type}(t:Nat):∀ (l1 l2:List (Nat×α)),lk t (l1++l2)=match lk t l1 with | some v=>some v | none=>lk t l2
 | [],l2=>rfl
 | (k,v)::l1,l2=>by
   simp only[List.cons_append,lk];by_cases h:t=k;rw[if_pos h,if_pos h];rw[if_neg h,if_neg h];exact HE t l1 l2
def Va(listed:Array Bool)(n:Nat):Nat:=((List.range n).filter fun i=>!listed.getD i true).length
theorem IF{listed:Array Bool}{n:Nat}(h:Va listed n=0):∀ j,j<n->listed.getD j true=true:=by
 intro j hj;unfold Va at h;have:=Za5 h;rw[List.filter_eq_nil_iff]at this;simpa using this j Zbp
theorem KW{listed:Array Bool}{n i:Nat}(hi:i<n)(hs:listed.size=n)(hu:listed.getD i true=false):Va (listed.setIfInBounds i true) n+1=Va listed n:=by
 unfold Va;have h:∀ m,m<=n->((List.range m).filter fun j=>!(listed.setIfInBounds i true).getD j true).length+(if i<m then 1 else 0)=((List.range m).filter fun j=>!listed.getD j true).length:=by
  intro m;induction m with
  | zero=>simp
  | succ m ih=>
    intro hm;have ih:=ih Zac;rw[List.range_succ,List.filter_append,List.filter_append,Zap,Zap];by_cases he:m=i;subst he;have e1:(listed.setIfInBounds m true).getD m true=true:=by simp[Array.getD]
    rw[if_neg Zac]at ih;rw[List.filter_cons_of_neg (by rw[e1];decide),List.filter_cons_of_pos (by rw[hu];rfl),if_pos Zac];simp only[List.filter_nil,Zar,Zau];omega;have e1:(listed.setIfInBounds i true).getD m true=listed.getD m true:=getD_set_ne true (Ne.symm he);have e2:([m].filter fun j=>!(listed.setIfInBounds i true).getD j true).length=([m].filter fun j=>!listed.getD j true).length:=by
     cases hb:listed.getD m true with
     | true=>rw[List.filter_cons_of_neg (by rw[e1,hb];decide),List.filter_cons_of_neg (by rw[hb];decide)];rfl
     | false=>rw[List.filter_cons_of_pos (by rw[e1,hb];rfl),List.filter_cons_of_pos (by rw[hb];rfl)];rfl
    rw[e2];by_cases hlt:i<m;rw[if_pos hlt]at ih;rw[if_pos Zac];omega;rw[if_neg hlt]at ih;rw[if_neg Zac];omega
 have:=h n (Zbc _);rw[if_pos hi]at this;exact this
end
def Om(P:Program)(N:Nat)(ops:Array Oper)(El:List Nat)(U:Nat×Nat×Nat->AS->AS)(o:Oper)(A:AS):Prop:=
 ∀ A':AS,(∀ t,t∈o.looksAt ops\/t∈El->A'.get t=A.get t)->(∀ k,lk k A'.h=lk k A.h)->∀ K:AS->Prop,(∀ gh,K (U gh A'))->J1 P N o A' K
def jt(ops:Array Oper):Nat->Nat->Nat->Bool
 | 0,_,_=>false
 | n+1,j,i=>match ops[j]? with
   | some o=>(U6 o).any fun k=>k==i||jt ops n k i
   | none=>false
theorem lO{ops:Array Oper}{L:Nat->Bool}(hcl:∀ k o,ops[k]? =some o->L k=true->∀ j,j∈U6 o->L j=true):∀ (n j i:Nat),jt ops n j i=true->L j=true->L i=true
 | 0,_,_,h,_=>by simp[jt]at h
 | n+1,j,i,h,hj=>by
   simp only[jt]at h;split at h;rename_i o ho;rw[List.any_eq_true]at h;obtain⟨k,hk,h⟩:=h;have RX:=hcl j o ho hj k hk;rw[Bool.or_eq_true,Zbl]at h;rcases h with rfl | h;exact RX;exact lO hcl n k i h RX;simp at h
structure UOk (U:Nat×Nat×Nat->AS->AS) (Sl Hl:List Nat) (d:Nat):Prop where
 g:∀ gh B t,t ∉ Sl->(U gh B).get t=B.get t
 h:∀ gh B k,k ∉ Hl->lk k (U gh B).h=lk k B.h
 c:∀ gh B B',H2 B B'->H2 (U gh B) (U gh B')
 p:∀ gh B t v,t ∉ Sl->H2 (U gh (B.put (some t) v)) ((U gh B).put (some t) v)
 d:∀ gh B v,H2 (U gh (B.put (some d) v)) (U gh B)
 q:∀ gh B k gv,k ∉ Hl->H2 (U gh ⟨B.t,(k,gv)::B.h⟩) ⟨(U gh B).t,(k,gv)::(U gh B).h⟩
section
variable {P:Program} {N:Nat} {ops:Array Oper}
end
structure SO where
 Zr:Bool
 El:List Nat
 fr:Option (List Nat)
 Sl:List Nat
 Hl:List Nat
structure ZT (P:Program) where
 T:Nat
 v:V
 ok:pf P T v
def R3(d:Nat)(v:V)(g:Nat)(B:AS):AS:=⟨(d,.ptr (.key d) [] g 0)::B.t,(d,(g,v))::B.h⟩
def bS(ops:Array Oper)(tb:List (Nat×SO))(i:Nat):SO:=match lk i tb with
 | some e=>e
 | none=>match ops[i]? with
   | some o=>⟨false,[],(match o.op with | .load _ _=>none | _=>some []),o.dst.toList,[]⟩
   | none=>⟨false,[],none,[],[]⟩
def gP(ops:Array Oper)(tb:List (Nat×SO))(i:Nat):List Nat:=(match ops[i]? with | some o=>o.looksAt ops | none=>[])++(bS ops tb i).El
def Yt(A' A:AS)(fs:List Nat):Prop:= ∀ t,t∈fs->A'.get t=A.get t
def hM:Nat:=1000000
def UW(g o:Nat)(v:V)(p:List Nat):Option (Nat×Nat×V×Nat):=match V.at g o v p with
 | some (g',o',.own sz xs g1 o1 c)=>some (g',o',.own sz [] g1 o1 c,xs.length)
 | _=>none
def Ui(i:Nat):List Nat:=if Nat.blt i 10=true then [i] else [i / 10,i % 10]
def PE(h:List (Nat×(Nat×V)))(q:Nat):Option (Nat×Nat×V×Nat):=match lk (q / 100) h with
 | some (g,v)=>UW g 0 v (Ui (q % 100))
 | none=>none
theorem AI{h h':List (Nat×(Nat×V))}{q:Nat}(e:lk (q / 100) h'=lk (q / 100) h):PE h' q=PE h q:=by unfold PE;rw[e]
def Ts(A' A:AS)(k:Nat):Prop:=if Nat.blt k hM=true then lk k A'.h=lk k A.h else PE A'.h (k-hM)=PE A.h (k-hM)
theorem xD{A' A:AS}(h:∀ k,lk k A'.h=lk k A.h)(k:Nat):Ts A' A k:=by
 unfold Ts;split;exact h k;exact AI (h _)
theorem Ts.trans{A B C:AS}{k:Nat}(h1:Ts A B k)(h2:Ts B C k):Ts A C k:=by
 unfold Ts at *;split;rename_i c;rw[if_pos c]at h1 h2;exact Eq.trans h1 h2;rename_i c;rw[if_neg c]at h1 h2;exact Eq.trans h1 h2
def VU(A' A:AS):Option (List Nat)->Prop
 | none=> ∀ k,lk k A'.h=lk k A.h
 | some fr=> ∀ k,k∈fr->Ts A' A k
def Vm(P:Program)(N:Nat)(ops:Array Oper)(o:Oper)(A:AS)(v:V)(fs:List Nat)(fr:Option (List Nat)):Prop:=
 ∀ A':AS,Yt A' A fs->VU A' A fr->gd ops o A' (J1 P N o A' (fun B=>H2 B (A'.put o.dst v))) (dh N o.dst/\∀ w Pb,RV w Pb v undef [])
def Yu(P:Program)(N:Nat)(o:Oper)(A:AS){G:Type}(U:G->AS->AS)(fs:List Nat)(fr:Option (List Nat)):Prop:=
 o.guard=none/\∀ A':AS,Yt A' A fs->VU A' A fr->J1 P N o A' (fun B=> ∃ g,H2 B (U g A'))
structure TZ {G:Type} (U:G->AS->AS) (fs Sl Hl:List Nat):Prop where
 g:∀ g B t,t ∉ Sl->(U g B).get t=B.get t
 h:∀ g B k,k ∉ Hl->lk k (U g B).h=lk k B.h
 c:∀ g B B',H2 B B'->H2 (U g B) (U g B')
 p:∀ g B t v,t ∉ Sl->t ∉ fs->H2 (U g (B.put (some t) v)) ((U g B).put (some t) v)
 q:∀ g B k gv,k ∉ Hl->H2 (U g ⟨B.t,(k,gv)::B.h⟩) ⟨(U g B).t,(k,gv)::(U g B).h⟩
structure X0 {G:Type} (U:G->AS->AS) (fs Sl Hl:List Nat):Prop extends TZ U fs Sl Hl where
 s:∀ q,hM+q∈Hl->∀ g B,PE (U g B).h q=PE B.h q
def Qp(P:Program)(N:Nat)(ops:Array Oper)(tb:List (Nat×SO))(zs:List (Nat×ZT P)):List Nat->AS->(AS->Prop)->Prop
 | [],A,K=>K A
 | i::l,A,K=> ∃ o,ops[i]? =some o/\match lk i zs with
  | some z=> ∀ g,Qp P N ops tb zs l (R3 (o.dst.getD 0) z.v g A) K
  | none=>match (bS ops tb i).Zr with
   | false=>(bS ops tb i).Sl=o.dst.toList/\(bS ops tb i).Hl=[]/\∃ v,Vm P N ops o A v (gP ops tb i) (bS ops tb i).fr/\Qp P N ops tb zs l (A.put o.dst v) K
   | true=> ∃ (G:Type) (U:G->AS->AS),Yu P N o A U (gP ops tb i) (bS ops tb i).fr/\X0 U (gP ops tb i) (bS ops tb i).Sl (bS ops tb i).Hl/\∀ g,Qp P N ops tb zs l (U g A) K
def cM(a b:List Nat):Bool:=a.all fun x=>!b.contains x
def FK(a:List Nat):Option (List Nat)->Bool
 | none=>a.isEmpty
 | some b=>b.all fun x=>if Nat.blt x hM=true then !a.contains x else !a.contains ((x-hM) / 100)||a.contains x
def indep(ops:Array Oper)(tb:List (Nat×SO)){P:Program}(zs:List (Nat×ZT P))(p i:Nat):Bool:=
 (lk i zs).isNone&&!(bS ops tb p).Zr&&cM (bS ops tb p).Sl (gP ops tb i)&&cM (bS ops tb i).Sl (gP ops tb p)&&cM (bS ops tb p).Sl (bS ops tb i).Sl&&FK (bS ops tb i).Hl (bS ops tb p).fr
def qS(ops:Array Oper)(tb:List (Nat×SO)){P:Program}(zs:List (Nat×ZT P))(p i:Nat):Bool:=
 match lk i zs,ops[i]? with
 | some _,some o=>match lk p zs,ops[p]? with
   | some _,some o'=>o'.dst.getD 0 != o.dst.getD 0
   | none,_=>!(bS ops tb p).Sl.contains (o.dst.getD 0)&&!(gP ops tb p).contains (o.dst.getD 0)&&!(bS ops tb p).Hl.contains (o.dst.getD 0)&&(match (bS ops tb p).fr with | some l=>l.all (fun x=>if Nat.blt x hM=true then x != o.dst.getD 0 else (x-hM) / 100 != o.dst.getD 0) | none=>false)
   | _,none=>false
 | _,_=>false
def sy(ops:Array Oper)(m:Nat)(tb:List (Nat×SO)){P:Program}(zs:List (Nat×ZT P)):List Nat->Bool
 | []=>true
 | p::l=>(l.all fun i=>(match lk p zs with | none=>indep ops tb zs p i | some _=>false)||jt ops 64 i p||qS ops tb zs p i)&&sy ops m tb zs l
def Ec(N:Nat)(ops:Array Oper){P:Program}(zs:List (Nat×ZT P)):Bool:=zs.all fun x=>match ops[x.1]? with
 | some o=>(match o.op,o.dst with | .alloc T,some d=>T==x.2.T&&Nat.blt d N | _,_=>false)&&o.guard.isNone
 | none=>false
def Qt(l:List Nat):Bool:=match l with
 | []=>true
 | k::r=>!r.contains k&&Qt r
def EM(ops:Array Oper)(m:Nat)(pl:List Nat):Bool:=
 (pl.all fun i=>Nat.blt i m)&&Qt pl&&((List.range m).all fun i=>pl.contains i)&&Nat.ble m ops.size&&
 (ops.toList.zipIdx.all fun (o,i)=>(U6 o).all (fun k=>Nat.blt k i))&&
 ((List.range (ops.size-m)).all fun q=>match ops[m+q]? with
   | some _=>(List.range (m+q)).all fun k=>jt ops 64 (m+q) k
   | none=>false)
section
variable {P:Program} {N:Nat} {ops:Array Oper} {tb:List (Nat×SO)} {zs:List (Nat×ZT P)}
theorem yc{a b:List Nat}(h:cM a b=true):∀ x,x∈a->x ∉ b:=fun x hx=>by
 unfold cM at h;rw[Za2]at h;simpa using h x hx
theorem H2.ku{A:AS}:H2 A A:=⟨fun _=>rfl,fun _=>rfl⟩
theorem Mt{A B:AS}{d:Option Nat}{v:V}(h:H2 A B):H2 (A.put d v) (B.put d v):=by
 cases d with
 | none=>exact h
 | some d'=>exact⟨fun t=>by rw[AS.aO,AS.aO];split
                            rfl;exact h.1 t,h.2⟩
theorem Vm.congr{o:Oper}{A B:AS}{v:V}{fs:List Nat}{fr:Option (List Nat)}(h:Vm P N ops o A v fs fr)(h1:Yt B A fs)(h2:VU B A fr):Vm P N ops o B v fs fr:=fun A' k1 k2=>
 h A' (fun t ht=>(k1 t ht).trans (h1 t ht)) (by
   cases fr with
   | none=>exact fun k=>(k2 k).trans (h2 k)
   | some l=>exact fun k hk=>(k2 k hk).trans (h2 k hk))
theorem Yu.congr{G:Type}{U:G->AS->AS}{o:Oper}{A B:AS}{fs:List Nat}{fr:Option (List Nat)}(h:Yu P N o A U fs fr)(h1:Yt B A fs)(h2:VU B A fr):Yu P N o B U fs fr:=⟨h.1,fun A' k1 k2=>
 h.2 A' (fun t ht=>(k1 t ht).trans (h1 t ht)) (by
  cases fr with
  | none=>exact fun k=>(k2 k).trans (h2 k)
  | some l=>exact fun k hk=>(k2 k hk).trans (h2 k hk))⟩
theorem wR{A B:AS}(h:A.h=B.h)(fr:Option (List Nat)):VU A B fr:=by
 cases fr with
 | none=>exact fun k=>by rw[h]
 | some l=>exact fun k _=>xD (fun k=>by rw[h]) k
theorem Hr{A B:AS}(h:H2 A B)(fr:Option (List Nat)):VU A B fr:=by
 cases fr with
 | none=>exact h.2
 | some l=>exact fun k _=>xD h.2 k
theorem Ll{G:Type}{U:G->AS->AS}{fs Sl Hl fr:List Nat}(hU:X0 U fs Sl Hl)(hd:FK Hl (some fr)=true){k:Nat}(hk:k∈fr)(g:G)(B:AS):Ts (U g B) B k:=by
 have hx:=Za2.1 hd k hk;unfold Ts;split;rename_i c;rw[if_pos c]at hx;exact hU.h g B k Zbt;rename_i c;rw[if_neg c,Bool.or_eq_true]at hx;have Tn:hM+(k-hM)=k:=by
  have: ¬ k<hM:=fun h=>c (by simpa[Nat.blt_eq] using h);omega
 rcases hx with hx | hx;exact AI (hU.h g B _ Zbt);exact hU.s _ (by rw[Tn];simpa using hx) g B
theorem pt{A:AS}{d:Option Nat}{v:V}:(A.put d v).h=A.h:=by cases d <;> rfl
theorem kO{A:AS}{d:Option Nat}{v:V}{t:Nat}(h:t ∉ d.toList):(A.put d v).get t=A.get t:=by
 cases d with
 | none=>rfl
 | some d'=>rw[AS.aO,if_neg (by simpa using h)]
theorem GD{d:Nat}{v:V}{g:Nat}{A B:AS}(h:H2 A B):H2 (R3 d v g A) (R3 d v g B):=
 ⟨fun t=>by simp only[R3,AS.get,lk];split
            rfl
            exact h.1 t,fun k=>by simp only[R3,lk];split;rfl;exact h.2 k⟩
theorem fm{K:AS->Prop}(hK:∀ A B,H2 A B->K A->K B):∀ (l:List Nat) {A B:AS},H2 A B->Qp P N ops tb zs l A K->Qp P N ops tb zs l B K
 | [],A,B,h,hA=>hK A B h hA
 | i::l,A,B,h,hA=>by
   obtain⟨o,ho,hA⟩:=hA;refine⟨o,ho,?_⟩;split at hA;exact fun g=>fm hK l (GD h) (hA g);split at hA;obtain⟨e1,e2,v,h1,h2⟩:=hA;exact⟨e1,e2,v,h1.congr (fun t _=>(h.1 t).symm) (Hr h.symm _),fm hK l (Mt h) h2⟩;obtain⟨G,U,h1,h2,h3⟩:=hA;exact⟨G,U,h1.congr (fun t _=>(h.1 t).symm) (Hr h.symm _),h2,fun g=>fm hK l (h2.c g _ _ h) (h3 g)⟩
theorem JH{K:AS->Prop}(hK:∀ A B,H2 A B->K A->K B){p i:Nat}{l:List Nat}{A:AS}(hp:lk p zs=none)(hi:indep ops tb zs p i=true)(h:Qp P N ops tb zs (p::i::l) A K):Qp P N ops tb zs (i::p::l) A K:=by
 unfold indep at hi;simp only[Zao,Bool.not_eq_true']at hi;obtain⟨⟨⟨⟨⟨hz,h1⟩,h2⟩,h3⟩,h4⟩,h5⟩:=hi;have hz:lk i zs=none:=by simpa using hz
 have h2:=yc h2;have h3:=yc h3;have h4:=yc h4;obtain⟨op,PV,h⟩:=h;rw[hp]at h;simp only at h;rw[h1]at h;obtain⟨e1,e2,v,k1,oi,hoi,h⟩:=h;refine⟨oi,hoi,?_⟩;rw[hz]at h ⊢;simp only at h ⊢;rw[e1]at h2 h4;have g1:Yt A (A.put op.dst v) (gP ops tb i):=fun t ht=>(kO (fun c=>h2 t c ht)).symm;split at h;rename_i he;obtain⟨f1,f2,v',k2,k3⟩:=h;rw[f1]at h3 h4;refine⟨f1,f2,v',k2.congr g1 (wR pt.symm _),op,PV,?_⟩;rw[hp];simp only;rw[h1];refine⟨e1,e2,v,k1.congr (fun t ht=>kO (fun c=>h3 t c ht)) (wR pt _),?_⟩;refine fm hK l ⟨fun t=>?_,fun k=>by rw[pt,pt,pt,pt]⟩ k3;by_cases c1:t∈oi.dst.toList;cases hd:oi.dst with
 | none=>rw[hd]at c1;simp at c1
 | some d=>
   rw[hd]at c1;have c1:t=d:=by simpa using c1
   subst c1;have hn:t ∉ op.dst.toList:=fun c=>h4 t c (by rw[hd];simp);rw[AS.aO,if_pos rfl,kO hn,AS.aO,if_pos rfl]
 rw[kO c1];by_cases c2:t∈op.dst.toList;cases hd:op.dst with
 | none=>rw[hd]at c2;simp at c2
 | some d=>
   rw[hd]at c2;have c2:t=d:=by simpa using c2
   subst c2;rw[AS.aO,if_pos rfl,AS.aO,if_pos rfl]
 rw[kO c2,kO c2,kO c1];obtain⟨G,U,k2,k3,k4⟩:=h;refine⟨G,U,k2.congr g1 (wR pt.symm _),k3,fun g=>⟨op,PV,?_⟩⟩;rw[hp];simp only;rw[h1];refine⟨e1,e2,v,k1.congr (fun t ht=>k3.g g A t (fun c=>h3 t c ht)) ?_,?_⟩;cases hf:(bS ops tb p).fr with
 | none=>
   rw[hf]at h5;have:(bS ops tb i).Hl=[]:=by simpa[FK] using h5
   exact fun k=>k3.h g A k (by rw[this];simp)
 | some fr=>
   rw[hf]at h5;exact fun k hk=>Ll k3 h5 hk g A
 refine fm hK l ?_ (k4 g);cases hd:op.dst with
 | none=>exact H2.ku
 | some d=>exact k3.p g A d v (fun c=>h4 d (by rw[hd];simp) c) (fun c=>h2 d (by rw[hd];simp) c)
theorem yw{d:Nat}{v:V}{g t:Nat}{A:AS}(h:t≠d):(R3 d v g A).get t=A.get t:=by simp only[R3,AS.get,lk];rw[if_neg h]
theorem HW{d:Nat}{v:V}{g k:Nat}{A:AS}(h:k≠d):lk k (R3 d v g A).h=lk k A.h:=by simp only[R3,lk];rw[if_neg h]
theorem Mb{d:Nat}{v:V}{g:Nat}{A:AS}{dd:Option Nat}{u:V}(h:d ∉ dd.toList):H2 (R3 d v g (A.put dd u)) ((R3 d v g A).put dd u):=by
 cases dd with
 | none=>exact H2.ku
 | some d'=>
   have hne:d≠d':=Zbq
   refine⟨fun t=>?_,fun k=>rfl⟩;rw[AS.aO];by_cases c:t=d;subst c;rw[if_neg hne];simp only[R3,AS.get,lk,if_true];rw[yw c,yw c,AS.aO]
theorem GU{K:AS->Prop}(hK:∀ A B,H2 A B->K A->K B){p i:Nat}{l:List Nat}{A:AS}(hi:qS ops tb zs p i=true)(h:Qp P N ops tb zs (p::i::l) A K):Qp P N ops tb zs (i::p::l) A K:=by
 unfold qS at hi;split at hi
 case h_2=>simp at hi
 rename_i z o hz ho;obtain⟨op,PV,h⟩:=h;have inner:∀ {B:AS},Qp P N ops tb zs (i::l) B K->∀ g,Qp P N ops tb zs l (R3 (o.dst.getD 0) z.v g B) K:=fun h g=>by
  obtain⟨o',Tk,h⟩:=h;rw[ho]at Tk;obtain rfl:=Option.some.inj Tk;rw[hz]at h;exact h g
 refine⟨o,ho,?_⟩;rw[hz];refine fun g=>⟨op,PV,?_⟩;split at hi;rename_i z' o' hz' YZ;rw[PV]at YZ;obtain rfl:=Option.some.inj YZ;rw[hz']at h ⊢;intro g';have hne:op.dst.getD 0≠o.dst.getD 0:=Zbn
 refine fm hK l ⟨fun t=>?_,fun k=>?_⟩ (inner (h g') g);simp only[R3,AS.get,lk];by_cases c:t=o.dst.getD 0;rw[if_pos c,if_neg (fun c2=>hne (c2.symm.trans c)),if_pos c];rw[if_neg c,if_neg c];simp only[R3,lk];by_cases c:k=o.dst.getD 0;rw[if_pos c,if_neg (fun c2=>hne (c2.symm.trans c)),if_pos c];rw[if_neg c,if_neg c];rename_i hz';simp only[Zao,Bool.not_eq_true',Zbi,decide_eq_false_iff_not]at hi;obtain⟨⟨⟨i1,i2⟩,i3⟩,i4⟩:=hi;rw[hz']at h ⊢;simp only at h ⊢;have gS:Yt (R3 (o.dst.getD 0) z.v g A) A (gP ops tb p):=fun t ht=>yw fun c=>i2 (by rw[<- c];exact ht);have gR:VU (R3 (o.dst.getD 0) z.v g A) A (bS ops tb p).fr:=by
  split at i4;rename_i l' hl;rw[hl];intro k hk;have i5:=Za2.1 i4 k hk;unfold Ts;split;rename_i c;rw[if_pos c]at i5;exact HW (by simpa using i5);rename_i c;rw[if_neg c]at i5;exact AI (HW (by simpa using i5));simp at i4
 split at h;obtain⟨e1,e2,v,k1,h⟩:=h;refine⟨e1,e2,v,k1.congr gS gR,?_⟩;exact fm hK l (Mb (by rw[<- e1];exact i1)) (inner h g);obtain⟨G,U,k1,k2,h⟩:=h;refine⟨G,U,k1.congr gS gR,k2,fun x=>fm hK l ?_ (inner (h x) g)⟩;have e1:=k2.q x ⟨(o.dst.getD 0,.ptr (.key (o.dst.getD 0)) [] g 0)::A.t,A.h⟩ (o.dst.getD 0) (g,z.v) i3;have e2:=k2.p x A (o.dst.getD 0) (.ptr (.key (o.dst.getD 0)) [] g 0) i1 i2;refine H2.trans ?_ e1.symm;refine⟨fun t=>?_,fun k=>?_⟩;exact(e2.1 t).symm;simp only[R3,lk];split;rfl;exact(e2.2 k).symm;simp at hi
theorem Bu{K:AS->Prop}(hK:∀ A B,H2 A B->K A->K B){i:Nat}{l2:List Nat}:∀ (l1:List Nat) {A:AS},(∀ p,p∈l1->(lk p zs=none/\indep ops tb zs p i=true)\/qS ops tb zs p i=true)->Qp P N ops tb zs (l1++i::l2) A K->Qp P N ops tb zs (i::(l1++l2)) A K
 | [],A,_,h=>h
 | p::l1,A,hi,h=>by
   have ih:∀ A,Qp P N ops tb zs (l1++i::l2) A K->Qp P N ops tb zs (i::(l1++l2)) A K:=fun A=>Bu hK l1 (fun q hq=>hi q (by simp[hq]));have h2:Qp P N ops tb zs (p::i::(l1++l2)) A K:=by
    obtain⟨o,ho,h⟩:=h;refine⟨o,ho,?_⟩;split at h;exact fun g=>ih _ (h g);split at h;obtain⟨e1,e2,v,h1,h2⟩:=h;exact⟨e1,e2,v,h1,ih _ h2⟩;obtain⟨G,U,h1,h2,h3⟩:=h;exact⟨G,U,h1,h2,fun g=>ih _ (h3 g)⟩
   rcases hi p Zad with h | h;exact JH hK h.1 h.2 h2;exact GU hK h h2
theorem Dj{α:Type}:∀ {l:List (Nat×α)} {k:Nat} {v:α},lk k l=some v->(k,v)∈l
 | [],_,_,h=>by simp[lk]at h
 | (k0,v0)::l,k,v,h=>by
   simp only[lk]at h;split at h;rename_i e;subst e;cases h;simp;exact List.mem_cons_of_mem _ (Dj h)
theorem DL{m:Nat}:∀ {pl l1 l2:List Nat} {i p:Nat},sy ops m tb zs pl=true->pl=l1++i::l2->p∈l1->((lk p zs=none/\indep ops tb zs p i=true)\/qS ops tb zs p i=true)\/jt ops 64 i p=true
 | [],l1,l2,i,p,_,e,_=>by simp at e
 | q::pl,[],l2,i,p,_,_,hp=>by simp at hp
 | q::pl,x::l1,l2,i,p,h,e,hp=>by
   simp only[List.cons_append,List.cons.injEq]at e;obtain⟨rfl,rfl⟩:=e;simp only[sy,Zao,Za2]at h;rcases List.mem_cons.1 hp with rfl | hp;have:=h.1 i Zad;rw[Bool.or_eq_true,Bool.or_eq_true]at this;rcases this with (h | h) | h;split at h;exact .inl (.inl ⟨by assumption,h⟩);simp at h;exact .inr h;exact .inl (.inr h);exact DL h.2 rfl hp
theorem pY{m:Nat}(f:Nat->Bool):∀ {pl:List Nat},sy ops m tb zs pl=true->sy ops m tb zs (pl.filter f)=true
 | [],_=>rfl
 | p::pl,h=>by
   simp only[sy,Zao,Za2]at h;simp only[List.filter_cons];split;simp only[sy,Zao,Za2];exact⟨fun i hi=>h.1 i (List.mem_filter.1 hi).1,pY f h.2⟩;exact pY f h.2
theorem Ap{L:Nat->Bool}(hcl:∀ k o,ops[k]? =some o->L k=true->∀ j,j∈U6 o->L j=true){i k:Nat}{o:Oper}(ho:ops[i]? =some o)(ZR:∀ j,j∈U6 o->L j=true)(h:jt ops 64 i k=true):L k=true:=by
 have h:jt ops (63+1) i k=true:=h;generalize (63:Nat)=n at h;simp only[jt,ho]at h;rw[List.any_eq_true]at h;obtain⟨q,hq,h⟩:=h;rw[Bool.or_eq_true,Zbl]at h;rcases h with rfl | h;exact ZR _ hq;exact lO hcl n q k h (ZR _ hq)
theorem yL{id m:Nat} {pl:List Nat} {A:AS} {Q:Exit->AS->Prop} (hm:P.follows .mixedOrders=true) (hc:sy ops m tb zs pl=true) (ZU:Ec N ops zs=true) (UI:EM ops m pl=true)
 (h:Qp P N ops tb zs pl A (fun B=> ∃ B',H2 B B'/\WL P N ops (ops.toList.drop m) B' (Q .normal))):T P N (.region id ops true) A Q:=by
 unfold EM at UI;simp only[Zao,Za2]at UI;obtain⟨⟨⟨⟨⟨p1,p2⟩,p3⟩,p4⟩,p5⟩,p6⟩:=UI;have ZJ:=Nat.le_of_ble_eq_true p4;have Xx:∀ i,i∈pl↔i<m:=fun i=>⟨fun hi=>Nat.lt_of_succ_le (Nat.le_of_ble_eq_true (p1 i hi)),fun hi=>by have:=p3 i (List.mem_range.2 hi);simpa using this⟩;have hnd:pl.Nodup:=by
  have:∀ l:List Nat,Qt l=true->l.Nodup:=by
   intro l;induction l with
   | nil=>intro _;exact Zba
   | cons a l ih=>
     intro h;simp only[Qt,Zao,Bool.not_eq_true',Zbi,decide_eq_false_iff_not]at h;exact List.nodup_cons.2 ⟨h.1,ih h.2⟩
  exact this pl p2
 have UU:∀ i o,ops[i]? =some o->∀ k,k∈U6 o->k<i:=fun i o ho k hk=>by
  have hmz:(o,i)∈ops.toList.zipIdx:=by rw[List.mk_mem_zipIdx_iff_getElem?];simpa using ho
  have:=p5 (o,i) hmz;simp only[Za2]at this;exact Nat.lt_of_succ_le (Nat.le_of_ble_eq_true (this k hk))
 have Uv:∀ i o,ops[i]? =some o->m<=i->∀ k,k<i->jt ops 64 i k=true:=fun i o ho hi k hk=>by
  have hin:i<ops.size:=(Zbh.1 ho).1;have:=p6 (i-m) (List.mem_range.2 Zac);rw[show m+(i-m)=i from Zac,ho]at this;simp only[Za2]at this;simpa using this k (List.mem_range.2 hk)
 let Kt:AS->Prop:=fun B=> ∃ B',H2 B B'/\WL P N ops (ops.toList.drop m) B' (Q .normal)
 have hKt:∀ A B,H2 A B->Kt A->Kt B:=fun A B hAB ⟨B',h1,h2⟩=>⟨B',hAB.symm.trans h1,h2⟩;intro Pb Kb a w F hs;refine wp_region_any hm ?_;have e9:x2 N Pb Kb A a { w with drawn:=w.drawn+1 } F:=hs.grow (fun _ _=>rfl) (Zbc _) (fun _ h=>h) (fun g h=>.inl h) hs.sub;obtain⟨w0,hw0⟩:∃ w0:World,w0={ w with drawn:=w.drawn+1 }:=⟨_,rfl⟩;have TG:B6 Kb w w0:=by rw[hw0];exact⟨rfl,rfl,rfl,Zbc _,fun _ _=>rfl,fun _ c _ _ h=>⟨c,h,rfl⟩⟩
 rw[<- hw0]at e9 ⊢
 let rem (listed:Array Bool):List Nat:=pl.filter fun j=>!listed.getD j true
 let Ph (listed:Array Bool) (A':AS):Prop:=
  (rem listed≠[]/\Qp P N ops tb zs (rem listed) A' Kt)\/
  (∃ k,m<=k/\k<=ops.size/\(∀ j,j<ops.size->listed.getD j true=decide (j<k))/\WL P N ops (ops.toList.drop k) A' (Q .normal))
 have key:∀ fuel (listed:Array Bool) a w',listed.size=ops.size->Va listed ops.size=fuel->
  (∀ k o,ops[k]? =some o->listed.getD k true=true->∀ j,j∈U6 o->listed.getD j true=true)->Nx N Pb Kb w0 (Ph listed) a w'->
  wpAny P .any ops (fun e a' w'=>Nx N Pb Kb w (Q e) a' w') fuel listed a w':=by
  intro fuel;induction fuel with
  | zero=>
    intro listed a w' hsz hu hcl hn;have N2:=IF hu;refine⟨?_,(Nx.step (fun _ h=>h) (fun _ h=>h) (fun _ h=>.inl h) TG hn).mono fun A' Zo=>?_⟩;rw[List.eq_nil_iff_forall_not_mem];intro j hj;rw[mem_ready]at hj;obtain⟨h0,o,ho,_⟩:=hj;have:=N2 j (Zbh.1 ho).1;rw[h0]at this;cases this;rcases Zo with ⟨hne,_⟩ | ⟨k,Tm,PR,XH,hw⟩;exfalso;apply hne;rw[List.filter_eq_nil_iff];intro j hj;rw[N2 j (by have:=(Xx j).1 hj;omega)];simp;have:k=ops.size:=by
     rcases Nat.lt_or_ge k ops.size with h | h;have:=XH k h;rw[N2 k h]at this;simp at this;omega
    subst this;rw[Za8 Zad]at hw;exact hw
  | succ fuel ih=>
    intro listed a w' hsz hu hcl hn;have VG:∀ j,j<ops.size->listed.getD j false=listed.getD j true:=fun j hj=>by
     have hj':j<listed.size:=Zac;simp[Array.getD,hj']
    constructor;intro hr;exfalso;have hex:∃ j,j<ops.size/\listed.getD j true=false:=by
     refine Classical.byContradiction fun hne=>?_;have:Va listed ops.size=0:=by
      unfold Va;rw[List.filter_eq_nil_iff.2];rfl;intro j hj;simp only[List.mem_range]at hj;cases hb:listed.getD j true with
      | true=>simp
      | false=>exact absurd ⟨j,hj,hb⟩ hne
     omega
    have hmin:∀ n,∀ j,j<=n->j<ops.size->listed.getD j true=false->∃ j',j'<ops.size/\listed.getD j' true=false/\∀ i,i<j'->listed.getD i true=true:=by
     intro n;induction n with
     | zero=>intro j hj h1 h2;exact⟨j,h1,h2,fun i hi=>by omega⟩
     | succ n ihn=>
       intro j hj h1 h2;by_cases hsm:∃ i,i<j/\listed.getD i true=false;obtain⟨i,hi,hf⟩:=hsm;exact ihn i Zac Zac hf;exact⟨j,h1,h2,fun i hi=>by
        cases hb:listed.getD i true with
        | true=>rfl
        | false=>exact absurd ⟨i,hi,hb⟩ hsm⟩
    obtain⟨j,ZO,XI⟩:=hex;obtain⟨j',h1,h2,h3⟩:=hmin j j (Zbc _) ZO XI;have ho:ops[j']? =some ops[j']:=by simp[h1]
    have:j'∈Region.ready .any ops listed:=by
     rw[mem_ready];refine⟨h2,_,ho,fun e he hb=>?_⟩;have hlt:=UU j' _ ho e.on (by simp only[U6,List.mem_map,List.mem_filter];exact⟨e,⟨by simpa using he,hb⟩,rfl⟩);rw[VG _ Zac];exact h3 _ hlt
    rw[hr]at this;cases this;intro i hi;rw[mem_ready]at hi;obtain⟨hi0,o,ho,ZR⟩:=hi;have hin:i<ops.size:=(Zbh.1 ho).1;have VH:∀ k,k∈U6 o->listed.getD k true=true:=fun k hk=>by
     have hlt:=UU i o ho k hk;simp only[U6,List.mem_map,List.mem_filter]at hk;obtain⟨e,⟨he,hb⟩,rfl⟩:=hk;rw[<- VG _ Zac];exact ZR e (by simpa using he) hb
    have Ru:∀ k,k<ops.size->(listed.setIfInBounds i true).getD k true=(if k=i then true else listed.getD k true):=fun k hk=>by
     by_cases e:k=i;subst e;simp[Array.getD,hsz,hin];rw[if_neg e];exact getD_set_ne true (Ne.symm e)
    have hcl':∀ k o,ops[k]? =some o->(listed.setIfInBounds i true).getD k true=true->∀ j,j∈U6 o->(listed.setIfInBounds i true).getD j true=true:=fun k o' Tk hk j hj=>by
     have hkn:=(Zbh.1 Tk).1;have hjk:=UU k o' Tk j hj;rw[Ru k hkn]at hk;rw[Ru j Zac];split;rfl;split at hk;rename_i e;subst e;rw[ho]at Tk;obtain rfl:=Option.some.inj Tk;exact VH j hj;exact hcl k o' Tk hk j hj
    have hun':Va (listed.setIfInBounds i true) ops.size=fuel:=by have:=KW hin hsz hi0;omega
    have TL:∀ VV Vp,Nx N Pb Kb w0 (Ph (listed.setIfInBounds i true)) VV Vp->wpAny P .any ops (fun e a' w'=>Nx N Pb Kb w (Q e) a' w') fuel (listed.setIfInBounds i true) VV Vp:=
     fun VV Vp WA=>ih _ VV Vp (by simpa using hsz) hun' hcl' WA
    obtain⟨A',Pb',I4,F',Zo,h2,h3,h4,h5,h6⟩:=hn;rcases Zo with ⟨hne,hD⟩ | ⟨k,Tm,PR,XH,hw⟩
    ·
     obtain⟨j0,hj0⟩:=List.exists_mem_of_ne_nil _ hne;obtain⟨ZO,XI⟩:=List.mem_filter.1 hj0;have hj0m:=(Xx j0).1 ZO;have Yg:listed.getD j0 true=false:=by simpa using XI
     have him:i<m:=by
      rcases Nat.lt_or_ge i m with h | h;exact h;have:=Ap hcl ho VH (Uv i o ho h j0 Zac);rw[Yg]at this;cases this
     have hir:i∈rem listed:=List.mem_filter.2 ⟨(Xx i).2 him,by rw[hi0];rfl⟩;obtain⟨l1,l2,hl⟩:=List.append_of_mem hir;have Xu:(rem listed).Nodup:=hnd.filter _;have Wx:rem (listed.setIfInBounds i true)=l1++l2:=by
      have e1:rem (listed.setIfInBounds i true)=(rem listed).filter fun j=>j != i:=by
       show pl.filter _=(pl.filter _).filter _;rw[List.filter_filter];apply List.filter_congr;intro j hj;rw[Ru j (by have:=(Xx j).1 hj;omega)];by_cases e:j=i;subst e;simp;simp[e]
      rw[e1,hl];rw[hl]at Xu;rw[List.nodup_append]at Xu;obtain⟨n1,n2,n3⟩:=Xu;rw[List.filter_append,List.filter_cons];simp only[bne_self_eq_false,Bool.false_eq_true,if_false];have f1:l1.filter (fun j=>j != i)=l1:=List.filter_eq_self.2 fun j hj=>by
       have:=n3 j hj i Zad;simpa using this
      have f2:l2.filter (fun j=>j != i)=l2:=List.filter_eq_self.2 fun j hj=>by
       have:=(List.nodup_cons.1 n2).1;simp only[bne_iff_ne,ne_eq];rintro rfl;exact this hj
      rw[f1,f2]
     have hind:∀ p,p∈l1->(lk p zs=none/\indep ops tb zs p i=true)\/qS ops tb zs p i=true:=fun p hp=>by
      rcases DL (pY _ hc) hl hp with h | h;exact h;exfalso;have hpr:p∈rem listed:=by rw[hl];simp[hp]
      have ZI:listed.getD p true=false:=by have:=(List.mem_filter.1 hpr).2;simpa using this
      have hanc:∀ (n j:Nat),jt ops n i j=true->listed.getD j true=true:=by
       intro n j hj;cases n with
       | zero=>simp[jt]at hj
       | succ n=>
         simp only[jt,ho]at hj;rw[List.any_eq_true]at hj;obtain⟨q,hq,hj⟩:=hj;have hql:=VH q hq;rw[Bool.or_eq_true,Zbl]at hj;rcases hj with rfl | hj;exact hql;exact lO (L:=fun k=>listed.getD k true) hcl n q j hj hql
      have:=hanc 64 p h;rw[ZI]at this;cases this
     rw[hl]at hD;obtain⟨o',Tk,hD⟩:=Bu hKt l1 hind hD;rw[ho]at Tk;obtain rfl:=Option.some.inj Tk;have Xy:∀ B Rf Rn a2 w2 F2,Qp P N ops tb zs (l1++l2) B Kt->x2 N Rf Rn B a2 w2 F2->∃ B' F3,Ph (listed.setIfInBounds i true) B'/\x2 N Rf Rn B' a2 w2 F3:=fun B Rf Rn a2 w2 F2 hB Pl=>by
      by_cases UM:rem (listed.setIfInBounds i true)=[];rw[<- Wx,UM]at hB;obtain⟨B',e1,e2⟩:=hB;obtain⟨F3,P6,_⟩:=Pl.le e1.symm.le;refine⟨B',F3,.inr ⟨m,Zbc _,ZJ,fun j hj=>?_,e2⟩,P6⟩;rcases Nat.lt_or_ge j m with h | h;have:j ∉ rem (listed.setIfInBounds i true):=by rw[UM];simp
      have: ¬ ((!(listed.setIfInBounds i true).getD j true)=true):=fun c=>this (List.mem_filter.2 ⟨(Xx j).2 h,c⟩);simp only[Bool.not_eq_true',Bool.not_eq_false]at this;rw[this];simp[h];have hoj:ops[j]? =some ops[j]:=by simp[hj]
      rw[Ru j hj,if_neg Zac];cases hb:listed.getD j true with
      | false=>simp;omega
      | true=>
        have:=lO hcl 64 j j0 (Uv j _ hoj h j0 Zac) hb;rw[Yg]at this;cases this
      exact⟨B,F2,.inl ⟨UM,by rw[Wx];exact hB⟩,Pl⟩
     unfold Go.wpOp;simp only[ho];split at hD;rename_i z hz;unfold Ec at ZU;rw[Za2]at ZU;have SZ:=ZU _ (Dj hz);simp only[ho]at SZ;rw[Zao]at SZ;obtain⟨SZ,hz3⟩:=SZ;split at SZ;rename_i T d PV PX;simp only[Zao,Zbl]at SZ;have Us:Region.wanted o (yielded ops a.tmps)=true:=by unfold Region.wanted;rw[show o.guard=none from by simpa using hz3]
     rw[if_pos Us];rw[PX]at hD;refine .inl (Oper.wp_mono ?_ (tw (K:=fun B=>Qp P N ops tb zs (l1++l2) B Kt) PV PX (Nat.lt_of_succ_le (Nat.le_of_ble_eq_true SZ.2)) (by rw[SZ.1];exact z.ok) hD Pb' I4 a w' F' _ h2));rintro a2 w2 ⟨B,Rf,Rn,F2,k1,k2,k3,k4,k5,k6⟩;obtain⟨B',F3,hp,P6⟩:=Xy B Rf Rn a2 w2 F2 k1 k2;exact TL a2 w2 (Nx.step h3 h4 h5 h6 ⟨B',Rf,Rn,F3,hp,P6,k3,k4,k5,k6⟩);simp at SZ;split at hD;obtain⟨_,_,v,hv,hD⟩:=hD;rcases vR (hv A' (fun _ _=>rfl) (wR rfl _)) h2 with ⟨Us,PV⟩ | ⟨Us,hd,hvd⟩;rw[if_pos Us];refine .inl (Oper.wp_mono ?_ (PV Pb' I4 a w' F' _ h2));rintro a2 w2 ⟨B,Rf,Rn,F2,k1,k2,k3,k4,k5,k6⟩;obtain⟨B',F3,hp,P6⟩:=Xy B Rf Rn a2 w2 F2 (fm hKt _ k1.symm hD) k2;exact TL a2 w2 (Nx.step h3 h4 h5 h6 ⟨B',Rf,Rn,F3,hp,P6,k3,k4,k5,k6⟩);rw[if_neg (by simp[Us])];obtain⟨F2,Pm⟩:=h2.rj (d:=o.dst) (v:=v) (x:=undef) hd (hvd w' Pb');obtain⟨B',F3,hp,P6⟩:=Xy _ Pb' I4 _ w' F2 hD Pm;exact TL _ w' ⟨B',Pb',I4,F3,hp,P6,h3,h4,h5,h6⟩;obtain⟨G,U,hE,_,hD⟩:=hD;have Us:Region.wanted o (yielded ops a.tmps)=true:=by unfold Region.wanted;rw[hE.1]
     rw[if_pos Us];refine .inl (Oper.wp_mono ?_ (hE.2 A' (fun _ _=>rfl) (wR rfl _) Pb' I4 a w' F' _ h2));rintro a2 w2 ⟨B,Rf,Rn,F2,⟨g,k1⟩,k2,k3,k4,k5,k6⟩;obtain⟨B',F3,hp,P6⟩:=Xy B Rf Rn a2 w2 F2 (fm hKt _ k1.symm (hD g)) k2;exact TL a2 w2 (Nx.step h3 h4 h5 h6 ⟨B',Rf,Rn,F3,hp,P6,k3,k4,k5,k6⟩)
    ·
     have hik:i=k:=by
      rw[XH i hin]at hi0;simp only[decide_eq_false_iff_not]at hi0;rcases Nat.lt_or_ge k i with h | h;have:=Ap hcl ho VH (Uv i o ho Zac k h);rw[XH k Zac]at this;simp at this;omega
     subst hik;have SA:ops.toList.drop i=o::ops.toList.drop (i+1):=by
      rw[List.drop_eq_getElem_cons (by simpa using hin)];have:ops[i]=o:=by have:=Zbh.1 ho;exact this.2
      simp[this]
     rw[SA]at hw;have Xy:∀ B,WL P N ops (ops.toList.drop (i+1)) B (Q .normal)->Ph (listed.setIfInBounds i true) B:=fun B hB=>
      .inr ⟨i+1,Zac,Zac,fun j hj=>by
       rw[Ru j hj];split;rename_i e;subst e;simp;rename_i e;rw[XH j hj];have:(j<i)↔(j<i+1):=Zac;simp[this],hB⟩
     unfold Go.wpOp;simp only[ho];rcases vR hw h2 with ⟨Us,PV⟩ | ⟨Us,hd,u,hu,Wt⟩;rw[if_pos Us];refine .inl (Oper.wp_mono ?_ (PV Pb' I4 a w' F' _ h2));intro a2 w2 Ye;exact TL a2 w2 (Nx.step h3 h4 h5 h6 (Ye.mono Xy));rw[if_neg (by simp[Us])];obtain⟨F2,Pm⟩:=h2.rj (d:=o.dst) (v:=u) (x:=undef) hd (hu w' Pb');exact TL _ w' ⟨_,Pb',I4,F2,Xy _ Wt,Pm,h3,h4,h5,h6⟩
 have VA:∀ k,k<ops.size->(Array.replicate ops.size false).getD k true=false:=fun k hk=>by simp[Array.getD,hk]
 have Ww:rem (Array.replicate ops.size false)=pl:=List.filter_eq_self.2 fun j hj=>by rw[VA j (by have:=(Xx j).1 hj;omega)];rfl
 have D4:∃ A1 F1,Ph (Array.replicate ops.size false) A1/\x2 N Pb Kb A1 a w0 F1:=by
  by_cases hp:pl=[];subst hp;obtain⟨B',e1,e2⟩:=h;obtain⟨F3,P6,_⟩:=e9.le e1.symm.le;have hm0:m=0:=by
   rcases Nat.eq_zero_or_pos m with h | h;exact h;have:=(Xx 0).2 h;simp at this
  exact⟨B',F3,.inr ⟨m,Zbc _,ZJ,fun j hj=>by rw[VA j hj,hm0];simp,e2⟩,P6⟩;exact⟨A,F,.inl ⟨by rw[Ww];exact hp,by rw[Ww];exact h⟩,e9⟩
 obtain⟨A1,F1,hP1,P7⟩:=D4;exact key ops.size (Array.replicate ops.size false) a w0 Zad (by
  unfold Va;rw[List.filter_eq_self.2];simp;intro j hj;simp only[List.mem_range]at hj;rw[VA j hj];rfl)
  (fun k o ho hk=>by rw[VA k (Zbh.1 ho).1]at hk;cases hk) ⟨A1,Pb,Kb,F1,hP1,P7,fun _ h=>h,fun _ h=>h,fun _ h=>.inl h,B6.refl _ _⟩
end
section
variable {P:Program} {N:Nat} {ops:Array Oper} {A A':AS}
theorem NI{w:World}{Pb:Nat->Prop}{v:V}{x:Value}{F:List Nat}(h:W6 w Pb v x F):RV w Pb v x F:=by
 cases v with
 | gv b u=>simp[W6,R]at h
 | _=>exact h
def V.iw:V->Bool | .gv _ _=>true | _=>false
theorem Bi{w:World}{Pb:Nat->Prop}{v:V}{x:Value}{F:List Nat}(h:RV w Pb v x F)(hn:v.iw=false):W6 w Pb v x F:=by
 cases v with
 | gv b u=>simp[V.iw]at hn
 | _=>exact h
theorem so{a:Act}{t:Nat}:a.put (some t) (a.tmps.getD t undef)=a:=by
 cases a with
 | mk tmps defers=>
   simp only[Act.put];congr 1;apply Array.ext_getElem?;intro i;by_cases e:t=i;subst e;by_cases h:t<tmps.size;simp[h,Array.getElem?_setIfInBounds_self];simp[h,Array.getElem?_setIfInBounds];rw[Array.getElem?_setIfInBounds_ne e]
def qH(G b:Bool)(v:V):Prop:=match v.dE||v.iw with
 | false=>G=true->b=true
 | true=>False
theorem zS{G b:Bool}{v:V}(h:qH G b v)(hG:G=true):b=true/\v.dE=false/\v.iw=false:=by
 unfold qH at h;split at h;rename_i e;rw[Bool.or_eq_false_iff]at e;exact⟨h hG,e.1,e.2⟩;exact h.elim
def AS.un(G:Bool):List Operand->AS->Prop×AS
 | [],A=>(True,A)
 | .tmp t::r,A=>match A.get t with
   | .gv b v=>match AS.un G r (A.put (some t) v) with
     | (C,B)=>(qH G b v/\C,B)
   | _=>AS.un G r A
 | _::r,A=>AS.un G r A
theorem kN{w:World}{Pb Kb:Nat->Prop}{a:Act}{G:Bool}(hG:G=true):∀ (xs:List Operand) {A B:AS} {F:m7->List Nat} {C:Prop},AS.un G xs A=(C,B)->C->x2 N Pb Kb A a w F->(∀ t,Operand.tmp t∈xs->t<N)->∃ F',x2 N Pb Kb B a w F'
 | [],A,B,F,C,h,hC,hs,_=>by simp only[AS.un,Zaq]at h;obtain⟨_,rfl⟩:=h;exact⟨F,hs⟩
 | x::xs,A,B,F,C,h,hC,hs,hN=>by
   have Tq:∀ t,Operand.tmp t∈xs->t<N:=fun t ht=>hN t (by simp[ht]);cases x with
   | tmp t=>
     simp only[AS.un]at h;split at h;rename_i b v hg;cases hu:AS.un G xs (A.put (some t) v) with
     | mk C1 B1=>
       rw[hu]at h;simp only[Zaq]at h;obtain⟨rfl,rfl⟩:=h;have hr:=hs.slot t;rw[hg]at hr;have C8:=hs.put (d:=t) (v:=v) (x:=a.tmps.getD t undef) (F':=[]) (hN t Zad) (NI (hr.2.1 (zS hC.1 hG).1)) Zad Zad Zad;rw[so]at C8;exact kN hG xs hu hC.2 C8 Tq
     exact kN hG xs h hC hs Tq
   | _=>exact kN hG xs h hC hs Tq
def KF(A B:AS):Prop:=(∀ i,A.get i=B.get i\/∃ b,A.get i=.gv b (B.get i)/\b=true/\(B.get i).dE=false/\(B.get i).iw=false)/\A.h=B.h
theorem x2.wrap{w:World}{Pb Kb:Nat->Prop}{a:Act}{F:m7->List Nat}{B:AS}(hs:x2 N Pb Kb B a w F)(h:KF A B):x2 N Pb Kb A a w F where
 size:=hs.size
 defers:=hs.defers
 slot:=fun i=>by
  rcases h.1 i with e | ⟨b,e,hb,ho,hg⟩;rw[e];exact hs.slot i;have hr:=hs.slot i;rw[e];have hF:=yo ho hr;rw[hF]at hr ⊢;exact⟨rfl,fun _=>Bi hr hg,fun c=>by rw[hb]at c;cases c⟩
 root:=fun k g v hk=>hs.root k g v (by rw[<- h.2];exact hk)
 cM:=hs.cM
 nodup:=hs.nodup
 free:=hs.free
 sub:=hs.sub
 bound:=hs.bound
theorem pg{G:Bool}(hG:G=true):∀ (xs:List Operand) {A B:AS} {C:Prop},AS.un G xs A=(C,B)->C->KF A B
 | [],A,B,C,h,hC=>by simp only[AS.un,Zaq]at h;obtain⟨_,rfl⟩:=h;exact⟨fun _=>.inl rfl,rfl⟩
 | x::xs,A,B,C,h,hC=>by
   cases x with
   | tmp t=>
     simp only[AS.un]at h;split at h;rename_i b v hg;cases hu:AS.un G xs (A.put (some t) v) with
     | mk C1 B1=>
       rw[hu]at h;simp only[Zaq]at h;obtain⟨rfl,rfl⟩:=h;obtain⟨k1,k2⟩:=pg hG xs hu hC.2;obtain⟨hb,ho,hv⟩:=zS hC.1 hG;refine⟨fun i=>?_,k2⟩;have:=k1 i;rw[AS.aO]at this;by_cases e:i=t;subst e;rw[if_pos rfl]at this;rcases this with e' | ⟨b',e',_⟩;exact .inr ⟨b,by rw[hg,<- e'],hb,by rw[<- e'];exact ho,by rw[<- e'];exact hv⟩;rw[e']at hv;simp[V.iw]at hv;rw[if_neg e]at this;exact this
     exact pg hG xs h hC
   | _=>exact pg hG xs h hC
def QR(A:AS)(ops:Array Oper)(j:Nat)(b:Bool):Option Bool:=
 match ((ops[j]?).bind (·.dst)).map A.get with
 | some (.lit (.bool g))=>some (g==b)
 | some (.gv c (.lit (.bool g)))=>some (c&&(g==b))
 | _=>none
theorem ra{A:AS}{o:Oper}{j:Nat}{b G:Bool}{x y:Prop}(hg:o.guard=some (j,b))(h:QR A ops j b=some G)(hx:G=true->x)(hy:G=false->y):gd ops o A x y:=by
 unfold QR at h;unfold gd;rw[hg];simp only;split at h;rename_i g e;try rw[e]
 simp only[Zan]at h ⊢;subst h;split;rename_i e';exact hx (by simp[e']);rename_i e';exact hy (by simp[e']);rename_i c g e;try rw[e]
 simp only[Zan]at h ⊢;subst h;split;rename_i e';exact hx e';rename_i e';exact hy (by simpa using e');simp at h
def SW(N:Nat):List Operand->Bool
 | []=>true
 | .tmp t::r=>decide (t<N)&&SW N r
 | _::r=>SW N r
theorem qx:∀ {xs:List Operand},SW N xs=true->∀ t,Operand.tmp t∈xs->t<N
 | [],_,t,ht=>by simp at ht
 | x::xs,h,t,ht=>by
   cases x with
   | tmp t'=>
     simp only[SW,Zao,Zbk]at h;simp only[List.mem_cons]at ht;rcases ht with e | ht;injection e with e;subst e;exact h.1;exact qx h.2 t ht
   | _=>
     simp only[List.mem_cons,reduceCtorEq,false_or]at ht;exact qx (xs:=xs) (by simpa[SW] using h) t ht
theorem Kk{o:Oper} {l:List Oper} {K:AS->Prop} {j:Nat} {b G:Bool} {C C':Prop} {B:AS} {v:V} {xs:List Operand} (hg:o.guard=some (j,b)) (hG:QR A ops j b=some G) (hu:AS.un G xs A=(C,B))
 (D4:M6 P B o.op=some (C',v)) (Qx:SW N xs=true) (hd:dh N o.dst) (hC:G=true->C/\C'/\v.iw=false)
 (hK:WL P N ops l (A.put o.dst (.gv G v)) K):WL P N ops (o::l) A K:=by
 refine ra hg hG (fun Qk=>?_) (fun WG=>?_);obtain⟨h1,h2,h3⟩:=hC Qk;refine jM (v:=.gv G v) hd hK fun Pb Kb a w F hs=>?_;obtain⟨F',C8⟩:=kN Qk _ hu h1 hs (qx Qx);obtain⟨x,hx,hr⟩:=yi D4 h2 C8 rfl;exact⟨x,hx,rfl,fun _=>Bi hr h3,fun h=>by rw[Qk]at h;cases h⟩;exact⟨hd,.gv G v,fun _ _=>⟨rfl,(fun h=>by rw[WG]at h;cases h),fun _=>rfl⟩,hK⟩
theorem bK{x:Operand}(h:∀ t,x=.tmp t->A'.get t=A.get t):A'.ev x=A.ev x:=by
 cases x with
 | tmp t=>exact h t rfl
 | _=>rfl
theorem mE{x:Operand}(h:∀ t,x=.tmp t->A'.get t=A.get t):A'.cp x=A.cp x:=by
 cases x with
 | tmp t=>simp only[AS.cp,h t rfl]
 | _=>rfl
theorem wX{x:Option Operand}(h:∀ t,x=some (.tmp t)->A'.get t=A.get t):x.map A'.ev=x.map A.ev:=by
 cases x with
 | none=>rfl
 | some y=>simp only[Option.map_some,bK (x:=y) fun t e=>h t (by rw[e])]
theorem kS{G:Bool}:∀ (xs:List Operand) {A A' B:AS} {C:Prop},AS.un G xs A=(C,B)->(∀ t,Operand.tmp t∈xs->A'.get t=A.get t)->
 ∃ B',AS.un G xs A'=(C,B')/\(∀ t,A'.get t=A.get t->B'.get t=B.get t)/\B'.h=A'.h/\B.h=A.h
 | [],A,A',B,C,h,_=>by
   simp only[AS.un,Zaq]at h;obtain⟨rfl,rfl⟩:=h;exact⟨A',rfl,fun _ h=>h,rfl,rfl⟩
 | x::xs,A,A',B,C,h,hx=>by
   have Qu:∀ t,Operand.tmp t∈xs->A'.get t=A.get t:=fun t ht=>hx t (by simp[ht]);cases x with
   | tmp t=>
     have ht:=hx t Zad;simp only[AS.un]at h ⊢;rw[ht];split at h;rename_i b v hg;cases hu:AS.un G xs (A.put (some t) v) with
     | mk C1 B1=>
       rw[hu]at h;simp only[Zaq]at h;obtain⟨rfl,rfl⟩:=h;obtain⟨B',k1,k2,k3,k4⟩:=kS xs (A':=A'.put (some t) v) hu (fun t' ht'=>by
        rw[AS.aO,AS.aO];split;rfl;exact Qu t' ht')
       refine⟨B',by simp only[k1],fun t' ht'=>k2 t' ?_,by rw[k3];rfl,by rw[k4];rfl⟩;rw[AS.aO,AS.aO];split;rfl;exact ht'
     exact kS xs h Qu
   | const c=>exact kS xs h Qu
   | global g=>exact kS xs h Qu
   | func f=>exact kS xs h Qu
theorem fh{o:Oper}{t:Nat}(h:Operand.tmp t∈o.op.operands.toList):t∈o.looksAt ops:=by
 unfold Oper.looksAt;rw[Zax];exact .inl (List.mem_filterMap.2 ⟨_,h,rfl⟩)
theorem tM{xs:List Operand}(h:∀ t,Operand.tmp t∈xs->A'.get t=A.get t):xs.map A'.cp=xs.map A.cp:=by
 apply List.map_congr_left;intro x hx;exact mE fun t e=>h t (by rw[<- e];exact hx)
theorem Iz{K:AS->Prop} {d:Option Nat} {f:FuncId} {xs:Array Operand} {Pt:Array TypeId} {ty:TypeId} {pos:String} {after:Array Edge} {rest:List Oper}
 {j:Nat} {b G:Bool} {C:Prop} {B:AS} {L:List V} {E:V} (hd:dh N d) (hG:QR A ops j b=some G) (hu:AS.un G xs.toList A=(C,B)) (Qx:SW N xs.toList=true)
 (hL:xs.toList.map B.cp=L) (hc:G=true->C/\PC P f L (fun r=>r.er=E)/\E.iw=false/\E.dE=false) (hK:WL P N ops rest (A.put d (.gv G E)) K):
 WL P N ops (⟨d,.call { callee:=.value (.func f),args:=xs,argTypes:=Pt },ty,pos,after,some (j,b)⟩ :: rest) A K:=by
 subst hL;refine ra (j:=j) (b:=b) rfl hG (fun Qk=>?_) (fun WG=>⟨hd,.gv G E,fun _ _=>⟨rfl,(fun h=>by rw[WG]at h;cases h),fun _=>rfl⟩,hK⟩);obtain⟨h1,h2,h3,h4⟩:=hc Qk;intro Pb Kb a w F Q' hs;obtain⟨F',C8⟩:=kN Qk _ hu h1 hs (qx Qx);have hw:=pg Qk _ hu h1;have Pn:=qc (N:=N) (o:=⟨d,.call { callee:=.value (.func f),args:=xs,argTypes:=Pt },ty,pos,after,some (j,b)⟩) (K:=fun A'=>A'=B.put d E) (A:=B) rfl hd h2 (fun _ h=>h) rfl;refine Oper.wp_mono ?_ (Pn Pb Kb a w F' Q' C8);rintro a' w' ⟨A',Pb',I4,F2,rfl,Pm,k3,k4,k5,k6⟩;refine⟨_,Pb',I4,F2,hK,Pm.wrap ?_,k3,k4,k5,k6⟩;cases d with
 | none=>exact hw
 | some d=>
   refine⟨fun i=>?_,hw.2⟩;rw[AS.aO,AS.aO];by_cases e:i=d;rw[if_pos e,if_pos e];exact .inr ⟨G,rfl,Qk,h4,h3⟩;rw[if_neg e,if_neg e];exact hw.1 i
end
def JB(op:BinOp)(a b:BL):Option (Prop×V):=
 match op with
 | .add=>some (a.length+b.length<=4611686018427387904,.lit (.string (Str (a++b))))
 | .eql=>some (True,.lit (.bool (a==b)))
 | .neq=>some (True,.lit (.bool (!(a==b))))
 | _=>none
def Fh(op:BinOp)(d:Option D)(x y:V):Option (Prop×V):=
 match d,x,y with
 | some .str,.lit (.string a),.lit (.string b)=>JB op a.data.toList b.data.toList
 | d,x,y=>vX op d x y
def ND:Option D->V->V->Option (Prop×V)
 | some .str,.lit (.string s),.lit (.int _ i)=>some (0<=i/\i<s.data.toList.length,.lit (.int .u8 (s.data.toList.getD i.toNat 0).toNat))
 | _,_,_=>none
def Kr(s:BL)(lo hi:Option V):Option (Prop×V):=
 match Xf lo,WC s.length hi with
 | some l,some h=>some (0<=l/\l<=h/\h<=s.length,.lit (.string (Str ((s.take h.toNat).drop l.toNat))))
 | _,_=>none
def MR(x:V)(lo hi:Option V):Option (Prop×V):=
 match x with
 | .lit (.string s)=>Kr s.data.toList lo hi
 | _=>none
def IL:Option D->V->Option (Prop×V)
 | some .str,.lit (.string s)=>some (True,.lit (.int .i64 s.data.toList.length))
 | d,x=>Bt d x
def Ej(P:Program)(A:AS)(c:Call):Option (Prop×V):=
 match c.callee with
 | .builtin .len=>match c.args.toList,c.argTypes.toList with
   | [x],[T]=>IL (tD P T) (A.ev x)
   | _,_=>none
 | .builtin .max=>match c.args.toList with
   | [x,y]=>FY (A.ev x) (A.ev y)
   | _=>none
 | _=>none
def Ck(P:Program)(d:Option D)(x:V)(j:Nat):Option (Prop×V):=
 match d with
 | some (.st fs)=>match fs[j]? with
   | some (off,T)=>match ti P T with
     | some i=>match x with
       | .agg vs=>match vs[j]? with
         | some v=>if (V.ns (vs.take j)==off&&(i.sz==v.n&&i.d.agg==v.isAgg))=true then some (True,v) else none
         | none=>none
       | _=>none
     | none=>none
   | none=>none
 | _=>none
def rr(P:Program)(d:Option D)(x:V)(j:Nat):Option (Prop×V):=
 match d with
 | some (.st fs)=>match fs[j]? with
   | some (off,T)=>match ti P T with
     | some i=>match x with
       | .ptr r p g o=>if (i.sz != 0)=true then some (True,.ptr r (p++[j]) g (o+off)) else none
       | .ep (.agg vs)=>match vs[j]? with
         | some v=>if (i.sz != 0&&V.ns (vs.take j)==off)=true then some (True,.ep v) else none
         | none=>none
       | _=>none
     | none=>none
   | none=>none
 | _=>none
def KL(A:AS)(i:Option TI)(x:V)(C5:List V):Option (Prop×V×List V):=
 match i with
 | some i=>match x with
   | .ptr r p g o=>match C5 with
     | []=>none
     | .c9::C5=>match A.at r p with
       | some (g',o',v)=>if (v.n==i.sz&&i.d.agg==v.isAgg)=true then some ((g',o')=(g,o),v.TT r p,C5) else none
       | none=>none
     | v::C5=>if (v.n==i.sz&&i.d.agg==v.isAgg)=true then some (A.at r p=some (g,o,v),v.TT r p,C5) else none
   | .ep v=>if (v.n==i.sz&&i.d.agg==v.isAgg)=true then some (True,v,C5) else none
   | _=>none
 | none=>none
def wO(C5:List V):Option (Prop×V)->Option (Prop×V×List V)
 | some (C,v)=>some (C,v,C5)
 | none=>none
def xz(P:Program)(d:Option D)(x i:V)(C5:List V):Option (Prop×V×List V):=
 match d,i with
 | some (.sl e),.lit (.int _ i)=>match ti P e with
   | some t=>match x with
     | .sl _ xs=>match C5 with
       | v::C5=>if (v.n==t.sz)=true then some (0<=i/\xs[i.toNat]? =some v,.ep v,C5) else none
       | []=>none
     | .hd r p sz g o lo n _=>if (sz==t.sz)=true then some (0<=i/\i<n,.ptr r (p++[lo+i.toNat]) g (o+(lo+i.toNat)*sz),C5) else none
     | _=>none
   | none=>none
 | d,i=>wO C5 (kh P d x i)
def sY(P:Program)(A:AS)(op:Op)(C5:List V):Option (Prop×V×List V):=
 match op with
 | .binOp o T x y _=>wO C5 (Fh o (tD P T) (A.ev x) (A.ev y))
 | .index T x i=>wO C5 (ND (tD P T) (A.ev x) (A.ev i))
 | .slice T x lo hi none=>match tD P T with
   | some .str=>wO C5 (MR (A.ev x) (lo.map A.ev) (hi.map A.ev))
   | d=>wO C5 (EN P d (A.ev x) (lo.map A.ev) (hi.map A.ev))
 | .call c=>wO C5 (Ej P A c)
 | .field T x j=>wO C5 (Ck P (tD P T) (A.cp x) j)
 | .fieldAddr T x j=>wO C5 (rr P (tD P T) (A.ev x) j)
 | .load T x=>KL A (ti P T) (A.ev x) C5
 | .indexAddr T x i=>xz P (tD P T) (A.ev x) (A.ev i) C5
 | op=>wO C5 (M6 P A op)
section
variable {P:Program} {N:Nat} {ops:Array Oper} {A A':AS}
theorem sd(s:ByteArray):Str s.data.toList=s:=by apply ByteArray.ext;simp[Str]
theorem fj{C5 RQ:List V}{x:Option (Prop×V)}{C:Prop}{v:V}(h:wO C5 x=some (C,v,RQ)):x=some (C,v):=by
 cases x with
 | none=>simp[wO]at h
 | some y=>obtain⟨a,b⟩:=y;simp only[wO,Zan,Zaq]at h;obtain⟨rfl,rfl,_⟩:=h;rfl
theorem LL{op:BinOp}{d:Option D}{x y:V}{C:Prop}{v:V}(h:Fh op d x y=some (C,v))(hC:C):∃ C',vX op d x y=some (C',v)/\C':=by
 unfold Fh at h;split at h;rename_i a b;simp only[vX];cases op <;> simp only[JB,Zan,Zaq,reduceCtorEq]at h <;> obtain⟨rfl,rfl⟩:=h;refine⟨a.size+b.size<=4611686018427387904,?_,by rw[Array.length_toList,Array.length_toList]at hC;exact hC⟩;simp only[zf];rw[<- Lt,sd,sd];refine⟨True,?_,trivial⟩;simp only[zf,Lib.toList_data];refine⟨True,?_,trivial⟩;simp only[zf,Lib.toList_data];exact⟨C,h,hC⟩
theorem uo{op:Op}{C5 RQ:List V}{C:Prop}{v:V}(h:sY P A op C5=some (C,v,RQ))(hC:C):∃ C',M6 P A op=some (C',v)/\C':=by
 unfold sY at h;split at h;exact LL (fj h) hC;rename_i T x i;have h:=fj h;unfold ND at h;split at h;rename_i s k i' e1 e2 e3;simp only[Zan,Zaq]at h;obtain⟨rfl,rfl⟩:=h;refine⟨0<=i'/\i'<s.size,?_,by rw[Array.length_toList]at hC;exact hC⟩;simp only[M6,R6,Jf,e1,e2,e3];rw[<- sd s,Nj];rfl;simp at h;rename_i T x lo hi;split at h;rename_i e;have h:=fj h;simp only[M6,e];unfold MR at h;split at h;rename_i s e';unfold Kr at h;split at h;rename_i l hh e1 e2;simp only[Zan,Zaq]at h;obtain⟨rfl,rfl⟩:=h;have Yn:WC s.size (hi.map A.ev)=some hh:=by
  rw[<- e2,Array.length_toList];rfl
 refine⟨0<=l/\l<=hh/\hh<=s.size,?_,by rw[Array.length_toList]at hC;exact hC⟩;simp only[Ea,e',Jl,e1,Yn];rw[<- Lk,sd];simp at h;simp at h;rename_i d hd;have h:=fj h;refine⟨C,?_,hC⟩;simp only[M6];exact h;rename_i c;have h:=fj h;unfold Ej at h;split at h;rename_i hc;split at h;rename_i x T hx hT;simp only[M6,R6,xl,hc,hx,hT];unfold IL at h;split at h;rename_i s e1 e2;simp only[Zan,Zaq]at h;obtain⟨rfl,rfl⟩:=h;exact⟨True,by simp only[Bt,e1,e2,ByteArray.size,Array.length_toList],trivial⟩;exact⟨C,h,hC⟩;simp at h;rename_i hc;split at h;rename_i x y hx;simp only[M6,R6,xl,hc,hx];exact⟨C,h,hC⟩;simp at h;simp at h;rename_i T x j;have h:=fj h;simp only[M6];unfold Ck at h;split at h;rename_i fs e1;split at h;rename_i off T' e2;split at h;rename_i i e3;split at h;rename_i vs e4;split at h;rename_i u e5;split at h;rename_i hb;simp only[Zan,Zaq]at h;obtain⟨_,rfl⟩:=h;simp only[Zao,Zbl]at hb;exact⟨_,by simp only[xV,e1,e2,e3,e4,e5],hb⟩;simp at h;simp at h;simp at h;simp at h;simp at h;simp at h;rename_i T x j;have h:=fj h;simp only[M6];unfold rr at h;split at h;rename_i fs e1;split at h;rename_i off T' e2;split at h;rename_i i e3;split at h;rename_i r p g o e4;split at h;rename_i hb;simp only[Zan,Zaq]at h;obtain⟨_,rfl⟩:=h;exact⟨i.sz≠0,by simp only[lQ,e1,e2,e3,e4],Zby⟩;simp at h;rename_i vs e4;split at h;rename_i u e5;split at h;rename_i hb;simp only[Zan,Zaq]at h;obtain⟨_,rfl⟩:=h;simp only[Zao,Zbl,bne_iff_ne]at hb;exact⟨_,by simp only[lQ,e1,e2,e3,e4,e5],hb⟩;simp at h;simp at h;simp at h;simp at h;simp at h;simp at h;rename_i T x;simp only[M6];unfold KL at h;split at h;rename_i i e1;split at h;rename_i r p g o e2;split at h;simp at h;split at h;rename_i g1 o1 u e3;split at h;rename_i hb;simp only[Zan]at h;obtain⟨h1,h2⟩:=Prod.mk.inj h;obtain⟨rfl,_⟩:=Prod.mk.inj h2;subst h1;obtain⟨rfl,rfl⟩:=Prod.mk.inj hC;simp only[Zao,Zbl]at hb;exact⟨g1=g1/\o1=o1/\u.n=i.sz/\i.d.agg=u.isAgg,by simp only[lZ,e1,e2,e3],rfl,rfl,hb.1,hb.2⟩;simp at h;simp at h;rename_i u Si _;split at h;rename_i hb;simp only[Zan,Zaq]at h;obtain⟨rfl,rfl,_⟩:=h;simp only[Zao,Zbl]at hb;exact⟨g=g/\o=o/\u.n=i.sz/\i.d.agg=u.isAgg,by simp only[lZ,e1,e2,hC],rfl,rfl,hb.1,hb.2⟩;simp at h;rename_i u e2;split at h;rename_i hb;simp only[Zan,Zaq]at h;obtain⟨_,rfl,_⟩:=h;simp only[Zao,Zbl]at hb;exact⟨_,by simp only[lZ,e1,e2],hb⟩;simp at h;simp at h;simp at h;rename_i T x i;simp only[M6];unfold xz at h;split at h;rename_i e k i' e1 e2;split at h;rename_i t e3;split at h;rename_i full xs e4;split at h;rename_i u Si;split at h;rename_i hb;simp only[Zan,Zaq]at h;obtain⟨rfl,rfl,_⟩:=h;obtain⟨h0,hx⟩:=hC;have hlt:=(Za3.1 hx).1;have hv:xs.getD i'.toNat .c9=u:=by rw[Zam,hx];rfl
 exact⟨0<=i'/\i'<xs.length/\u.n=t.sz,by simp only[kh,e1,e2,e3,e4,hv],h0,Zac,Zby⟩;simp at h;simp at h;rename_i r p sz g o lo n c e4;split at h;rename_i hb;simp only[Zan,Zaq]at h;obtain⟨rfl,rfl,_⟩:=h;exact⟨0<=i'/\i'<n/\sz=t.sz,by simp only[kh,e1,e2,e3,e4],hC.1,hC.2,Zby⟩;simp at h;simp at h;simp at h;exact⟨C,fj h,hC⟩;exact⟨C,fj h,hC⟩
theorem Kf{o:Oper}{K K':AS->Prop}(h:J1 P N o A K)(hK:∀ B,K B->K' B):J1 P N o A K':=
 fun Pb Kb a w F Q hs=>Oper.wp_mono (fun _ _ hn=>hn.mono hK) (h Pb Kb a w F Q hs)
def nD:Op->Bool
 | .move _ | .extract _ _ | .call _ | .field _ _ _ | .fieldAddr _ _ _=>true
 | .binOp o _ _ _ _=>match o with
   | .eql | .neq | .lss | .leq | .gtr | .geq=>true
   | _=>false
 | .unOp o _ _=>match o with
   | .not=>true
   | _=>false
 | _=>false
theorem og{op:Op}{C5 RQ:List V}{C:Prop}{v:V}(ht:nD op=true)(h:sY P A op C5=some (C,v,RQ)):C:=by
 have hB:∀ {o:BinOp} {k:IntKind} {a b:Int} {C:Prop} {v:V},(o=.eql\/o=.neq\/o=.lss\/o=.leq\/o=.gtr\/o=.geq)->yn o k a b=some (C,v)->C:=by
  intro o k a b C v ho h;rcases ho with rfl | rfl | rfl | rfl | rfl | rfl <;> (simp only[yn,kT,Zan,Zaq]at h;rw[<- h.1];trivial)
 cases op with
 | move x=>have h:=fj (show wO C5 (M6 P A (.move x))=_ from h);simp only[M6,R6,Zan,Zaq]at h;rw[<- h.1];trivial
 | extract x i=>
   have h:=fj (show wO C5 (M6 P A (.extract x i))=_ from h);simp only[M6,R6]at h;unfold II at h;repeat (split at h <;> try (solve | simp at h))
   all_goals (simp only[Zan,Zaq]at h;rw[<- h.1];trivial)
 | call c=>
   have h:=fj h;unfold Ej at h;split at h;split at h;unfold IL at h;split at h;simp only[Zan,Zaq]at h;rw[<- h.1];trivial;unfold Bt at h;split at h <;> first | (solve | simp at h) | (simp only[Zan,Zaq]at h;rw[<- h.1];trivial)
   simp at h;split at h;unfold FY at h;split at h;split at h;simp only[Zan,Zaq]at h;rw[<- h.1];trivial;simp at h;simp at h;simp at h;simp at h
 | field T x j=>
   have h:=fj h;unfold Ck at h;repeat (split at h <;> try (solve | simp at h))
   all_goals (simp only[Zan,Zaq]at h;rw[<- h.1];trivial)
 | fieldAddr T x j=>
   have h:=fj h;unfold rr at h;repeat (first | (solve | simp at h) | split at h)
   all_goals first | (solve | simp at h) | (obtain⟨rfl,_⟩:=h;trivial) | (simp only[Zan,Zaq]at h;rw[<- h.1];trivial) | (split at h <;> first | (solve | simp at h) | (split at h <;> first | (solve | simp at h) | (simp only[Zan,Zaq]at h;rw[<- h.1];trivial)))
 | binOp o T x y pos=>
   have h:=fj h;have ho:o=.eql\/o=.neq\/o=.lss\/o=.leq\/o=.gtr\/o=.geq:=by cases o <;> simp[nD]at ht ⊢
   unfold Fh at h;split at h;rcases ho with rfl | rfl | rfl | rfl | rfl | rfl <;> simp only[JB,Zan,Zaq,reduceCtorEq]at h <;> (rw[<- h.1];trivial);unfold vX at h;split at h;split at h;exact hB ho h;split at h;exact hB ho h;simp at h;rcases ho with rfl | rfl | rfl | rfl | rfl | rfl <;> simp only[zf,Zan,Zaq,reduceCtorEq]at h <;> (rw[<- h.1];trivial);rcases ho with rfl | rfl | rfl | rfl | rfl | rfl <;> simp only[Eg,Zan,Zaq,reduceCtorEq]at h <;> (rw[<- h.1];trivial);simp at h
 | unOp o T x=>
   have h:=fj (show wO C5 (M6 P A (.unOp o T x))=_ from h);have ho:o=.not:=by cases o <;> simp[nD]at ht ⊢
   subst ho;simp only[M6,R6]at h;unfold Z6 at h;split at h;all_goals first | (solve | simp at h) | (simp only[Zan,Zaq]at h;rw[<- h.1];trivial) | (simp_all;done)
 | _=>simp[nD]at ht
def jv:Op->List Operand
 | .pick c _ _=>[c]
 | op=>op.operands.toList
def pa(P:Program)(N:Nat)(ops:Array Oper):Nat->List Oper->List V->AS->Option (Prop×AS)
 | 0,_,_,A=>some (True,A)
 | _+1,[],_,A=>some (True,A)
 | n+1,o::rest,C5,A=>
   match o.dst with
   | none=>none
   | some d=>if d<N then
     match o.guard with
     | some (j,b)=>match QR A ops j b with
       | some G=>match AS.un G (jv o.op) A with
         | (C0,B)=>match sY P B o.op C5 with
           | some (C,v,C5)=>if (SW N (jv o.op)&&!v.iw)=true then match pa P N ops n rest C5 (A.put (some d) (.gv G v)) with
             | some (C',A')=>some ((G=true->C0/\C)/\C',A')
             | none=>none else none
           | none=>none
       | none=>none
     | none=>match o.op with
       | .assign x=>pa P N ops n rest C5 ((A.drop x).put (some d) (A.ev x))
       | op=>match sY P A op C5 with
         | some (C,v,C5)=>match pa P N ops n rest C5 (A.put (some d) v) with
           | some (C',A')=>if nD op=true then some (C',A') else some (C/\C',A')
           | none=>none
         | none=>none
     else none
theorem qC{K:AS->Prop}:∀ (n:Nat) {l:List Oper} {C5:List V} {A A':AS} {C:Prop},
 pa P N ops n l C5 A=some (C,A')->C->WL P N ops (l.drop n) A' K->WL P N ops l A K
 | 0,l,C5,A,A',C,h,hC,hK=>by
   simp only[pa,Zan,Zaq]at h;obtain⟨_,rfl⟩:=h;exact hK
 | n+1,[],C5,A,A',C,h,hC,hK=>by
   simp only[pa,Zan,Zaq]at h;obtain⟨_,rfl⟩:=h;exact hK
 | n+1,o::l,C5,A,A',C,h,hC,hK=>by
   have SA:(o::l).drop (n+1)=l.drop n:=rfl;rw[SA]at hK;unfold pa at h;split at h;simp at h;rename_i d hd;split at h
   case isFalse=>simp at h
   rename_i VI;have Rv:dh N o.dst:=by rw[hd];exact VI
   cases hg:o.guard with
   | some jb=>
     obtain⟨j,b⟩:=jb;rw[hg]at h;simp only at h;split at h
     case h_2=>simp at h
     rename_i G hG;cases hu:AS.un G (jv o.op) A with
     | mk C0 B=>
       rw[hu]at h;simp only at h;split at h
       case h_2=>simp at h
       rename_i C1 v Si D4;split at h
       case isFalse=>simp at h
       rename_i Qx;simp only[Zao,Bool.not_eq_true']at Qx;split at h
       case h_2=>simp at h
       rename_i C2 A2 hr;simp only[Zan,Zaq]at h;obtain⟨rfl,rfl⟩:=h;by_cases Qk:G=true;obtain⟨C',h1,h2⟩:=uo D4 (hC.1 Qk).2;exact Kk hg hG hu h1 Qx.1 Rv (fun _=>⟨(hC.1 Qk).1,h2,Qx.2⟩) (by rw[hd];exact qC n hr hC.2 hK);refine ra hg hG (fun c=>absurd c Qk) (fun WG=>⟨Rv,.gv G v,fun _ _=>⟨rfl,(fun h=>absurd h Qk),fun _=>rfl⟩,?_⟩);rw[hd];exact qC n hr hC.2 hK
   | none=>
     rw[hg]at h;simp only at h;show gd ops o A _ _;unfold gd;rw[hg];simp only;split at h;rename_i x PV;exact wQ PV Rv (by rw[hd];exact qC n h hC hK)
     · split at h
       case h_2=>simp at h
       rename_i C1 v Si D4;split at h
       case h_2=>simp at h
       rename_i C2 A2 hr;split at h;rename_i ht;simp only[Zan,Zaq]at h;obtain⟨rfl,rfl⟩:=h;obtain⟨C',h1,h2⟩:=uo D4 (og ht D4);exact yR h1 h2 Rv (by rw[hd];exact qC n hr hC hK);simp only[Zan,Zaq]at h;obtain⟨rfl,rfl⟩:=h;obtain⟨C',h1,h2⟩:=uo D4 hC.1;exact yR h1 h2 Rv (by rw[hd];exact qC n hr hC.2 hK)
theorem Gt(op:Op):∀ t,Operand.tmp t∈jv op->Operand.tmp t∈op.operands.toList:=by
 intro t ht;cases op with
 | pick c a b=>simp only[jv,Zav]at ht;simp[Op.operands,ht]
 | _=>exact ht
def lM(P:Program):List ResultVar->List (m7×V)->Bool
 | .cell _ T::rs,(_,v)::xs=>(match ti P T with | some i=>v.n==i.sz&&i.d.agg==v.isAgg | none=>false)&&lM P rs xs
 | .tmp _::rs,(_,v)::xs=>(match v with | .tup _=>false | .gv _ _=>false | _=>true)&&lM P rs xs
 | [],[]=>true
 | _,_=>false
theorem qW:∀ {rs:List ResultVar} {xs:List (m7×V)},lM P rs xs=true->rm P rs xs
 | [],[],_=>trivial
 | .cell t T::rs,(r,v)::xs,h=>by
   simp only[lM,Zao]at h;refine⟨?_,qW h.2⟩;have h1:=h.1;cases ht:ti P T with
   | none=>rw[ht]at h1;simp at h1
   | some i=>rw[ht]at h1;simpa using h1
 | .tmp t::rs,(r,v)::xs,h=>by
   simp only[lM,Zao]at h;refine⟨?_,qW h.2⟩;have h1:=h.1;cases v <;> first | trivial | simp at h1
 | [],_::_,h=>by simp[lM]at h
 | .cell _ _::_,[],h=>by simp[lM]at h
 | .tmp _::_,[],h=>by simp[lM]at h
def nodupB:List m7->Bool
 | []=>true
 | r::rs=>!(rs.any fun x=>decide (x=r))&&nodupB rs
theorem vZ:∀ {l:List m7},nodupB l=true->l.Nodup
 | [],_=>Zba
 | r::rs,h=>by
   simp only[nodupB,Zao,Bool.not_eq_true',List.any_eq_false,Zbk]at h;exact List.nodup_cons.2 ⟨fun c=>h.1 r c rfl,vZ h.2⟩
abbrev iN(n:Nat):V:=.lit (.int .i64 n)
abbrev iV(x:Int):V:=.lit (.int .i64 x)
abbrev uN(n:Nat):V:=.lit (.int .u8 n)
abbrev bV(b:Bool):V:=.lit (.bool b)
abbrev sV(l:BL):V:=.lit (.string (Str l))
theorem ae{α:Type}{f:α->V}{l:List α}{i:Nat}{d:α}(h:i<l.length):(l.map f)[i]? =some (f (l.getD i d)):=by
 rw[List.getElem?_map,Zat h,Zam,Zat h];rfl
theorem all_map{α:Type}{f:α->V}{l:List α}{n:Nat}(h:∀ x,(f x).n=n):∀ x∈l.map f,x.n=n:=by
 intro x hx;obtain⟨y,_,rfl⟩:=List.mem_map.1 hx;exact h y
end
section
variable {P:Program} {N:Nat} {ops:Array Oper} {A A' A1:AS}
def Yw(P:Program)(e sz:Nat):Bool:=match P.info? e with
 | some inf=>match inf.zero with
   | some z=>z.cells.size==sz
   | none=>false
 | none=>false
theorem kA{e sz:Nat}(h:Yw P e sz=true):∃ inf z,P.info? e=some inf/\inf.zero=some z/\z.cells.size=sz:=by
 unfold Yw at h;split at h;rename_i inf h1;split at h;rename_i z h2;exact⟨inf,z,h1,h2,Zbq⟩;simp at h;simp at h
def KG(P:Program)(T:Nat):Option (List Value):=match P.info? T with
 | some inf=>match inf.zero with
   | some z=>some z.cells.toList
   | none=>none
 | none=>none
theorem eD{T:Nat}{v:V}{cs:List Value}(h:KG P T=some cs)(hv:v.flat=some cs):pf P T v:=by
 unfold KG at h;split at h;rename_i inf h1;split at h;rename_i z h2;exact⟨inf,z,h1,h2,by rw[hv,h]⟩;simp at h;simp at h
def Ed(sz:Nat):List V->Bool
 | []=>true
 | v::vs=>v.isVal&&v.n==sz&&Ed sz vs
theorem yK{sz:Nat}:∀ {vs:List V},Ed sz vs=true->∀ v,v∈vs->v.isVal=true/\v.n=sz
 | [],_,v,hv=>by simp at hv
 | u::us,h,v,hv=>by
   simp only[Ed,Zao,Zbl]at h;simp only[List.mem_cons]at hv;rcases hv with rfl | hv;exact h.1;exact yK h.2 v hv
def Vk(P:Program)(T e len:Nat)(i:TI)(vs:List V):Bool:=Yw P e i.sz&&vs.length==len&&Nat.ble (len*i.sz) 16777216&&Nat.blt 0 i.sz&&Ed i.sz vs
theorem Gu{o:Oper} {K:AS->Prop} {T e len:Nat} {h9:Array (Nat×Operand)} {i:TI} {vs:List V} (ho:o.op=.buildSlice T len h9) (hd:dh N o.dst) (hT:tD P T=some (.sl e)) (hi:ti P e=some i)
 (Ut:fw A 0 h9.toList=some vs) (hB:Vk P T e len i vs=true) (hK:K (A.put o.dst (.sl true vs))):J1 P N o A K:=by
 simp only[Vk,Zao,Zbl]at hB;obtain⟨⟨⟨⟨h1,h2⟩,h3⟩,h4⟩,h5⟩:=hB;obtain⟨inf,z,k1,k2,_⟩:=kA h1;exact yB ho hd hT hi ⟨inf,z,k1,k2⟩ Ut h2 (Nat.le_of_ble_eq_true h3) (Nat.lt_of_succ_le (Nat.le_of_ble_eq_true h4)) (yK h5) hK
theorem zY{K:AS->Prop} {d:Option Nat} {T len ty:Nat} {h9:Array (Nat×Operand)} {pos:String} {after:Array Edge} {rest:List Oper} (e:Nat) (i:TI) (vs:List V)
 (Uu:tD P T=some (.sl e)/\ti P e=some i) (hd:dh N d) (Ut:fw A 0 h9.toList=some vs) (hB:Vk P T e len i vs=true) (hK:WL P N ops rest (A.put d (.sl true vs)) K):
 WL P N ops (⟨d,.buildSlice T len h9,ty,pos,after,none⟩ :: rest) A K:=by
 show J1 P N _ A _;exact Gu rfl hd Uu.1 Uu.2 Ut hB hK
theorem qg:∀ (ps:List (Nat×Operand)) (k:Nat),(∀ t,Operand.tmp t∈ps.map (·.2)->A'.get t=A.get t)->fw A' k ps=fw A k ps
 | [],_,_=>rfl
 | (i,x)::r,k,h=>by
   simp only[fw];rw[qg r (k+1) (fun t ht=>h t (by simp[ht])),mE (x:=x) (fun t e=>h t (by simp[e]))]
def wG(places:List (Nat×Nat)):List V->List (Nat×V)->Option (List V)
 | zs,[]=>some zs
 | zs,(i,v)::r=>match places[i]?,zs[i]? with
   | some (off,sz),some z=>if (V.ns (zs.take i)==off&&v.n==sz&&z.n==sz&&v.isVal)=true then wG places (zs.set i v) r else none
   | _,_=>none
theorem BC{places:List (Nat×Nat)}:∀ {ps:List (Nat×V)} {zs vs:List V},wG places zs ps=some vs->∃ C,rC places zs ps=some (C,vs)/\C
 | [],zs,vs,h=>by simp only[wG,Zan]at h;subst h;exact⟨True,rfl,trivial⟩
 | (i,v)::r,zs,vs,h=>by
   simp only[wG]at h;split at h;rename_i off sz z h1 h2;split at h;rename_i hb;simp only[Zao,Zbl]at hb;obtain⟨C,hf,hC⟩:=BC h;exact⟨V.ns (zs.take i)=off/\v.n=sz/\z.n=sz/\v.isVal=true/\C,by simp only[rC,h1,h2,hf],hb.1.1.1,hb.1.1.2,hb.1.2,hb.2,hC⟩;simp at h;simp at h
def nj(P:Program)(A:AS)(T:Nat)(zs:List V)(h9:List (Nat×Operand)):Option V:=
 match tD P T with
 | some (.st fs)=>match ou P fs with
   | some places=>match wG places zs (h9.map fun (i,x)=>(i,A.cp x)) with
     | some vs=>some (.agg vs)
     | none=>none
   | none=>none
 | _=>none
theorem zW{T:Nat}{zs:List V}{h9:List (Nat×Operand)}{v:V}(h:nj P A T zs h9=some v):∃ C,tK P A T zs h9=some (C,v)/\C:=by
 unfold nj at h;split at h;rename_i fs h1;split at h;rename_i places h2;split at h;rename_i vs h3;simp only[Zan]at h;subst h;obtain⟨C,hf,hC⟩:=BC h3;exact⟨C,by simp only[tK,h1,h2,hf],hC⟩;simp at h;simp at h;simp at h
theorem IG{K:AS->Prop} {d:Option Nat} {T ty:Nat} {h9:Array (Nat×Operand)} {pos:String} {after:Array Edge} {rest:List Oper} (zs:List V) (v:V)
 (hz:pf P T (.agg zs)) (hd:dh N d) (hb:nj P A T zs h9.toList=some v) (hK:WL P N ops rest (A.put d v) K):
 WL P N ops (⟨d,.build T h9,ty,pos,after,none⟩ :: rest) A K:=by
 obtain⟨C,h1,h2⟩:=zW hb;show J1 P N _ A _;exact zR rfl hd hz h1 h2 hK
end
section
variable {P:Program} {N:Nat} {ops:Array Oper} {A A' A1:AS}
variable {w:World} {Pb Kb:Nat->Prop} {a:Act} {F:m7->List Nat}
def w6(b:UInt8):V:=.lit (.int .u8 b.toNat)
theorem KM:∀ (bs:BL) {cs:List Value} {F:List Nat},RL w Pb (bs.map w6) cs F->cs=bs.map fun b=>Value.int .u8 (b.toNat:Int)
 | [],cs,F,h=>h.1
 | b::bs,cs,F,h=>by
   obtain⟨c1,c2,F1,F2,rfl,rfl,h1,h2⟩:=h;rw[KM bs h2,h1.2.1];rfl
theorem BT:∀ (l:BL),RL w Pb (l.map w6) (l.map fun b=>Value.int .u8 (b.toNat:Int)) []
 | []=>⟨rfl,rfl⟩
 | b::l=>⟨[.int .u8 (b.toNat:Int)],_,[],[],rfl,rfl,⟨rfl,rfl,rfl⟩,BT l⟩
theorem qQ:∀ (bs:BL),V.aF (bs.map w6)=false
 | []=>rfl
 | b::bs=>by simp[V.aF,w6,V.dE,qQ bs]
theorem tX(bs:BL):aW 1 (bs.map w6):=fun x hx=>by
 obtain⟨b,_,rfl⟩:=List.mem_map.1 hx;rfl
theorem DF:∀ (bs l:BL),(bs.map fun b=>(b.toNat:Int)).foldl (fun (r:ByteArray) n=>r.push (UInt8.ofNat n.toNat)) (Str l)=Str (l++bs)
 | [],l=>by simp
 | b::bs,l=>by
   simp only[Zbe,List.foldl_cons];have:(Str l).push (UInt8.ofNat (b.toNat:Int).toNat)=Str (l++[b]):=by
    apply ByteArray.ext;simp[Str,ByteArray.push]
   rw[this,DF bs];simp
theorem ub{o:Oper} {K:AS->Prop} {src dst e:Nat} {x:Operand} {C:Prop} {bs:BL} (ho:o.op=.convert src dst x) (hd:dh N o.dst) (h1:tD P src=some (.sl e)) (h2:tD P e=some (.int .u8)) (h3:tD P dst=some .str)
 (hx:QI A x=some (C,bs.map w6)) (hC:C) (hK:K (A.put o.dst (sV bs))):J1 P N o A K:=by
 refine jM hd hK fun Pb Kb a w F hs=>?_;obtain⟨B,c,flat,hv,hr,hf,hl⟩:=oC (P:=P) hs hx hC (tX bs) (qQ bs);obtain⟨td,hu1,PE⟩:=dq h1;obtain⟨Vq,Ri,T6⟩:=dq h2;obtain⟨Z8,hu3,ZS⟩:=dq h3;cases td <;> simp[dX]at PE;cases Vq <;> simp[dX]at T6;cases Z8 <;> simp[dX]at ZS;subst PE T6;refine⟨.string (Str bs),?_,dJ rfl⟩;have UR:=KM bs hr;simp only[execOp,ho,hv,Za0,run_convert_bytes_string w src dst _ B _ c hu1 Ri hu3];have C9:(Conv.bytesToString (.slice B (bs.map w6).length c)).run P w=.ok (.string (Str bs)) w:=by
  cases B with
  | none=>
    have:=hf w (fun _=>rfl);rw[hv]at this;simp only[Builtin.firstCells]at this;have hb:flat=[]:=by
     have h:=this;simp at h;exact h
    rw[UR]at hb;have:bs=[]:=Zby
    subst this;rfl
  | some ad=>
    have:=hf w (fun _=>rfl);rw[hv]at this;simp only[Builtin.firstCells,Nat.mul_one]at this;rw[run_bytesToString w ad _ c (bs.map fun b=>(b.toNat:Int)) (by rw[this,UR];simp[List.map_map,Function.comp_def])];have:=DF bs [];simp only[List.nil_append]at this;rw[<- this];rfl
 rw[C9];rfl
theorem Cj{o:Oper} {K:AS->Prop} {src dst e d:Nat} {x:Operand} {l:BL} (ho:o.op=.convert src dst x) (hd:o.dst=some d) (hN:d<N) (h1:tD P src=some .str) (h2:tD P dst=some (.sl e)) (h3:tD P e=some (.int .u8))
 (hx:A.ev x=sV l) (hK:∀ g c,K (A.put (some d) (.own 1 (l.map w6) g 0 c))):J1 P N o A K:=by
 intro Pb Kb a w F Q hs;obtain⟨td,hu1,PE⟩:=dq h1;obtain⟨Vq,Ri,T6⟩:=dq h2;obtain⟨Z8,hu3,ZS⟩:=dq h3;cases td <;> simp[dX]at PE;cases Vq <;> simp[dX]at T6;cases Z8 <;> simp[dX]at ZS;obtain rfl:=T6;subst ZS;rename_i el;have XN:=cy hs hx;have C9:=Lib.run_convert_string_bytes (P:=P) w src dst _ (Str l) hu1 Ri hu3;unfold Oper.wp;have Qu:(execOp a.eval o).run P w=.ok (.value (.slice (some ⟨w.heap.size,0,none⟩) (Str l).size (grownCap w (Str l).size 0 el))) (Lib.bytesWorld w el (Str l)):=by
  simp only[execOp,ho,XN,Za0,C9,Zas];rfl
 rw[Qu,Oper.upon_value,hd];have hold:=fun j (hj:j<w.heap.size)=>Lib.bytesWorld_at_old w el (Str l) j hj;have hsz:=Lib.bytesWorld_size w el (Str l);have RW:=Lib.bytesWorld_at_new w el (Str l);obtain⟨w',Wt⟩:∃ w',w'=Lib.bytesWorld w el (Str l):=⟨_,rfl⟩;obtain⟨c,hc⟩:∃ c,c=grownCap w (Str l).size 0 el:=⟨_,rfl⟩;have hcap:l.length<=c:=by
  rw[hc,<- iJ];simp only[grownCap,Question.cut];exact Nat.le_add_right _ _
 have Tl:B6 Kb w w':=by
  rw[Wt];exact⟨rfl,rfl,rfl,Zac,fun g hg=>hold g (hs.bound g hg),Shp.of_eq hold⟩
 have C8:x2 N Pb Kb A a w' F:=hs.grow (by rw[Wt];exact hold) (by rw[Wt];omega) (fun _ h=>h) (fun g h=>.inl h) hs.sub;rw[<- Wt,<- hc];have XL:∀ r g,g∈F r->g≠w.heap.size:=fun r g hg=>by have:=(hs.free r g hg).2;omega
 have SE: ¬ Kb w.heap.size:=fun h=>by have:=hs.bound _ h;omega
 by_cases h0:c=0;have XE:l=[]:=Za5 Zac;subst XE;have hrv:RV w' Pb (.own 1 (([]:BL).map w6) 0 0 0) (.slice (some ⟨w.heap.size,0,none⟩) (Str []).size c) []:=.inl ⟨rfl,rfl,rfl,some ⟨w.heap.size,0,none⟩,by rw[h0];rfl⟩;exact⟨_,Pb,Kb,_,hK 0 0,C8.put hN (F':=[]) hrv Zad Zba Zad,fun _ h=>h,fun _ h=>h,fun _ h=>.inl h,Tl⟩;have hrv:RV w' Pb (.own 1 (l.map w6) w.heap.size 0 c) (.slice (some ⟨w.heap.size,0,none⟩) (Str l).size c) [w.heap.size]:=by
  refine .inr ⟨Zac,Zac,by simpa using hcap,?_,tX l,fun h=>SE (hs.sub _ h),l.map (fun b=>Value.int .u8 (b.toNat:Int)),[],Lib.bytesCells w el (Str l),rfl,BT l,?_,?_,?_⟩;simp[iJ];exact⟨el,((Lib.bytesCells w el (Str l)).size,(Lib.bytesCells w el (Str l)).size+1),by rw[Wt];exact RW,fun i hi=>by simp;omega⟩;simp only[Lib.bytesCells,Array.size_append,Array.size_map,Array.size_replicate,<- hc];have:(Str l).data.size=l.length:=by simp[Str]
  rw[this,iJ];omega;intro j u hu;simp only[List.getElem?_map,Option.map_eq_some_iff]at hu;obtain⟨b,hb,rfl⟩:=hu;have hj:j<l.length:=(Za3.1 hb).1;simp only[Lib.bytesCells,Zaw];rw[Array.getElem?_append_left (by simp[Str];exact hj)];simp[Str,hb]
 refine⟨_,Pb,Kb,_,hK w.heap.size c,C8.put hN (F':=[w.heap.size]) hrv ?_ Zad ?_,fun _ h=>h,fun _ h=>h,fun _ h=>.inl h,Tl⟩;intro r _ g hg Sw;simp only[Zav]at hg;exact XL r g Sw hg;intro g hg;simp only[Zav]at hg;subst hg;exact⟨SE,by rw[Wt];omega⟩
theorem Cn{K:AS->Prop} {d:Option Nat} {src dst ty:Nat} {x:Operand} {pos:String} {after:Array Edge} {rest:List Oper} (e:Nat) (C:Prop) (bs:BL)
 (ht:tD P src=some (.sl e)/\tD P e=some (.int .u8)/\tD P dst=some .str) (hd:dh N d) (hx:QI A x=some (C,bs.map w6)) (hC:C) (hK:WL P N ops rest (A.put d (sV bs)) K):
 WL P N ops (⟨d,.convert src dst x,ty,pos,after,none⟩ :: rest) A K:=by
 show J1 P N _ A _;exact ub rfl hd ht.1 ht.2.1 ht.2.2 hx hC hK
theorem Cz{K:AS->Prop} {d src dst ty:Nat} {x:Operand} {pos:String} {after:Array Edge} {rest:List Oper} (e:Nat) (l:BL)
 (ht:tD P src=some .str/\tD P dst=some (.sl e)/\tD P e=some (.int .u8)) (hN:d<N) (hx:A.ev x=sV l) (hK:∀ g c,WL P N ops rest (A.put (some d) (.own 1 (l.map w6) g 0 c)) K):
 WL P N ops (⟨some d,.convert src dst x,ty,pos,after,none⟩ :: rest) A K:=by
 show J1 P N _ A _;exact Cj rfl rfl hN ht.1 ht.2.1 ht.2.2 hx hK
theorem x2.By(hs:x2 N Pb Kb A a w F){t:Nat}{v:V}(ht:t<N)(h:RV w Pb v (a.tmps.getD t undef) (F (.slot t))):x2 N Pb Kb (A.put (some t) v) a w F:=by
 have h2:=hs.put (d:=t) (v:=v) (x:=a.tmps.getD t undef) (F':=F (.slot t)) ht h (fun r hr g hg=>hs.cM _ _ (Ne.symm hr) g hg) (hs.nodup _) (fun g hg=>hs.free _ g hg);rw[so]at h2;have e:cK F (.slot t) (F (.slot t))=F:=by
  funext r;unfold cK;split;rename_i e;rw[e];rfl
 rw[e]at h2;exact h2
theorem x2.gi(hs:x2 N Pb Kb A a w F){t i sz n g o c:Nat}{xs:List V}(ht:t<N)(hi:i<N)(Vc:t≠i)(h1:A.get t=.hd (.slot i) [] sz g o 0 n c)(h2:A.get i=.own sz xs g o c)(hn:n=xs.length):
 ∃ F',x2 N Pb Kb ((A.put (some i) .c9).put (some t) (.own sz xs g o c)) a w F':=by
 subst hn;obtain⟨Fx,F1,hr,P7,hnd,x9,hfr,_⟩:=hs.take (.tmp i);rw[rv h2]at P7;have hr:RV w Pb (A.get i) (a.tmps.getD i undef) Fx:=hr;rw[h2]at hr;have hh:=hs.slot t;rw[h1]at hh;obtain⟨_,hle,B,hv,hB⟩:=hh;have hv:a.tmps.getD t undef=.slice B xs.length c:=(List.cons.inj hv).1;have I8:RV w Pb (.own sz xs g o c) (a.tmps.getD t undef) Fx:=by
  rw[hv];rcases hr with ⟨rfl,rfl,rfl,A0,_⟩ | ⟨k1,k2,k3,k4,k5⟩;exact .inl ⟨rfl,rfl,rfl,B,rfl⟩;have:=hB k1;rw[Nat.zero_mul,Nat.add_zero]at this;subst this;exact .inr ⟨k1,k2,k3,rfl,k5⟩
 have h3:=P7.put (d:=t) (v:=.own sz xs g o c) (x:=a.tmps.getD t undef) (F':=Fx) ht I8 (fun r _ g hg=>x9 r g hg) hnd hfr;rw[so]at h3;exact⟨_,h3⟩
theorem bE{α:Type}{f:α->V}(hf:∀ x,(f x).dE=false):∀ (l:List α),V.aF (l.map f)=false
 | []=>rfl
 | x::l=>by simp only[Zbe,V.aF,hf x,bE hf l,Bool.or_self]
theorem cw{α:Type}{f:α->V}{n:Nat}(hf:∀ x,(f x).n=n)(l:List α):aW n (l.map f):=fun x hx=>by
 obtain⟨y,_,rfl⟩:=List.mem_map.1 hx;exact hf y
theorem aU{α:Type}{f:α->V}(hf:∀ x,(f x).er=f x):∀ (l:List α),V.D9 (l.map f)=l.map f
 | []=>rfl
 | x::l=>by simp only[Zbe,V.D9,hf x,aU hf l]
theorem Bh{o:Oper} {K:AS->Prop} {x y:Operand} {Pt:Array TypeId} {k:IntKind} {p q r:Int} {b:Builtin} (ho:o.op=.call { callee:=.builtin b,args:= #[x,y],argTypes:=Pt }) (hd:dh N o.dst)
 (hx:A.ev x=.lit (.int k p)) (hy:A.ev y=.lit (.int k q)) (hb:(b=.max/\r=max p q)\/(b=.min/\r=min p q)) (hK:K (A.put o.dst (.lit (.int k r)))):J1 P N o A K:=by
 refine jM hd hK fun Pb Kb a w F hs=>⟨.int k r,?_,dJ rfl⟩;have e:(#[x,y].map a.eval)= #[.int k p,.int k q]:=by simp[cy hs hx,cy hs hy]
 rcases hb with ⟨rfl,rfl⟩ | ⟨rfl,rfl⟩;simp only[execOp,ho,resolve,invoke,builtin,Za0,Za1,Zas,e,Lib.run_max_ints];simp only[execOp,ho,resolve,invoke,builtin,Za0,Za1,Zas,e,Lib.run_min_ints]
theorem MS{K:AS->Prop} {d:Option Nat} {x y:Operand} {Pt:Array TypeId} {ty:TypeId} {pos:String} {after:Array Edge} {rest:List Oper} (k:IntKind) (p q:Int) (hd:dh N d)
 (hx:A.ev x=.lit (.int k p)) (hy:A.ev y=.lit (.int k q)) (hK:WL P N ops rest (A.put d (.lit (.int k (max p q)))) K):
 WL P N ops (⟨d,.call { callee:=.builtin .max,args:= #[x,y],argTypes:=Pt },ty,pos,after,none⟩ :: rest) A K:=by
 show J1 P N _ A _;exact Bh rfl hd hx hy (.inl ⟨rfl,rfl⟩) hK
theorem Ni{K:AS->Prop} {d:Option Nat} {x y:Operand} {Pt:Array TypeId} {ty:TypeId} {pos:String} {after:Array Edge} {rest:List Oper} (k:IntKind) (p q:Int) (hd:dh N d)
 (hx:A.ev x=.lit (.int k p)) (hy:A.ev y=.lit (.int k q)) (hK:WL P N ops rest (A.put d (.lit (.int k (min p q)))) K):
 WL P N ops (⟨d,.call { callee:=.builtin .min,args:= #[x,y],argTypes:=Pt },ty,pos,after,none⟩ :: rest) A K:=by
 show J1 P N _ A _;exact Bh rfl hd hx hy (.inr ⟨rfl,rfl⟩) hK
theorem Hq{sz g o c lo n c':Nat} {xs:List V} {x y:Value} {Fx:List Nat} (hr:R w Pb (.own sz xs g o c) [x] Fx) (hle:n<=c') {B:Option Addr} (hy:y=.slice B n c') (hB:0<c'->B=some ⟨g,o+lo*sz,none⟩)
 (hn:lo+n<=xs.length) (hc:lo+c'<=c) (ho:V.aF xs=false):∃ F',R w Pb (.own sz ((xs.drop lo).take n) g (o+lo*sz) c') [y] F'/\∀ z,z∈F'->z∈Fx:=by
 subst hy;by_cases h0:c'=0;subst h0;have:n=0:=Zac;subst this;exact⟨[],.inl ⟨rfl,Zad,rfl,B,rfl⟩,Zad⟩;rcases hr with ⟨rfl,_⟩ | ⟨h1,h2,h3,_,hN,hP,flat,F',cells,hF,Q5,hb,hsz,w9⟩;omega;have hF0:=gQ xs ho Q5;subst hF0;obtain⟨c1,S8,QE⟩:=qD xs lo Q5;obtain⟨c3,Yc,Zg⟩:=qy _ n S8;have hlen:((xs.drop lo).take n).length=n:=Zal;refine⟨[g],.inr ⟨Zac,h2,Zac,?_,fun z hz=>hN z (List.mem_of_mem_drop (List.mem_of_mem_take hz)),hP,c3,[],cells,rfl,Yc,hb,?_,fun j u hu=>?_⟩,by rw[hF];simp⟩;rw[hlen,hB Zac];have:(lo+c')*sz<=c*sz:=Nat.mul_le_mul_right _ hc;rw[Nat.add_mul]at this;omega;have:=QE j u (Zg j u hu);rw[eM xs lo hN Zac]at this;have:=w9 _ _ this;rw[Zbj];exact this
theorem Ff{K:AS->Prop} {i:Nat} {x:Operand} {ty:TypeId} {pos:String} {after:Array Edge} {rest:List Oper} (lo n c':Nat) {sz g o c:Nat} (xs:List V) (hi:i<N)
 (hx:A.ev x=.hd (.slot i) [] sz g o lo n c') (h2:A.get i=.own sz xs g o c) (hn:lo+n<=xs.length) (hc:lo+c'<=c) (ho:V.aF xs=false)
 (hK:WL P N ops rest (A.put (some i) (.own sz ((xs.drop lo).take n) g (o+lo*sz) c')) K):WL P N ops (⟨some i,.assign x,ty,pos,after,none⟩ :: rest) A K:=by
 show J1 P N _ A _;intro Pb Kb a w F Q hs;obtain⟨_,hr⟩:=eE hs x;rw[hx]at hr;obtain⟨_,hle,B,hv,hB⟩:=hr;have hv:a.eval x=.slice B n c':=(List.cons.inj hv).1;have P5:=hs.slot i;rw[h2]at P5;obtain⟨F',I8,Uy⟩:=Hq (w:=w) (Pb:=Pb) P5 hle hv hB hn hc ho;have hnd:F'.Nodup:=by
  rcases I8 with ⟨_,_,rfl,_⟩ | ⟨_,_,_,_,_,_,flat,F2,cells,hF,Q5,_⟩;exact Zba;have:=gQ _ (by
   have:=rE xs lo ho;have h3:∀ (l:List V) (k:Nat),V.aF l=false->V.aF (l.take k)=false:=by
    intro l;induction l with
    | nil=>intro k _;simp[V.aF]
    | cons v l ih=>
      intro k h;cases k with
      | zero=>rfl
      | succ k=>simp only[List.take_succ_cons,V.aF,Bool.or_eq_false_iff]at h ⊢;exact⟨h.1,ih k h.2⟩
   exact h3 _ n this) Q5
  subst this;rw[hF];simp
 unfold Oper.wp;have:(execOp a.eval ⟨some i,.assign x,ty,pos,after,none⟩).run P w=.ok (.value (a.eval x)) w:=rfl;rw[this,Oper.upon_value];exact⟨_,Pb,Kb,_,hK,hs.put hi I8 (fun r hr g hg=>fun Sw=>hs.cM _ _ (Ne.symm hr) g (Uy g hg) Sw) hnd (fun g hg=>hs.free _ g (Uy g hg)),fun _ h=>h,fun _ h=>h,fun _ h=>.inl h,B6.refl _ _⟩
end
section
variable {P:Program} {N:Nat} {ops:Array Oper} {A A' A1:AS}
def yy(A:AS):List ResultVar->Option (Prop×List (m7×V))
 | []=>some (True,[])
 | r::rs=>match yy A rs with
   | some (C,xs)=>match r with
     | .tmp t=>some (C,(.slot t,A.get t)::xs)
     | .cell t _=>match A.get t with
       | .ptr (.key k) [] g 0=>match lk k A.h with
         | some (g',v)=>some (g'=g/\C,(.key k,v)::xs)
         | none=>none
       | _=>none
   | none=>none
theorem uP:∀ {rs:List ResultVar} {C:Prop} {xs:List (m7×V)},yy A rs=some (C,xs)->C->rY A rs=some xs
 | [],C,xs,h,_=>by simp only[yy,Zan,Zaq]at h;rw[<- h.2];rfl
 | r::rs,C,xs,h,hC=>by
   simp only[yy]at h;split at h
   case h_2=>simp at h
   rename_i C1 xs1 hr;cases r with
   | tmp t=>
     simp only[Zan,Zaq]at h;obtain⟨rfl,rfl⟩:=h;simp only[rY,As,uP hr hC]
   | cell t T=>
     simp only at h;split at h;rename_i k g hg;split at h;rename_i g' v hk;simp only[Zan,Zaq]at h;obtain⟨rfl,rfl⟩:=h;obtain⟨rfl,hC⟩:=hC;simp only[rY,As,hg,hk,if_true,uP hr hC];simp at h;simp at h
end
mutual
def V.kill:V->V
 | .own .. =>.c9
 | .ow .. =>.c9
 | .om .. =>.c9
 | .agg vs=>.agg (V.kH vs)
 | v=>v
def V.kH:List V->List V
 | []=>[]
 | v::vs=>v.kill::V.kH vs
end
section
variable {P:Program} {N:Nat} {ops:Array Oper} {A A' A1:AS}
variable {w:World} {Pb Kb:Nat->Prop} {a:Act} {F:m7->List Nat}
mutual
theorem Bm:∀ v:V,v.kill.n=v.n
 | .own .. =>rfl
 | .ow .. =>rfl
 | .om .. =>rfl
 | .mp .. =>rfl
 | .agg vs=>by simp only[V.kill,V.n];exact CS vs
 | .tup _=>rfl | .gv _ _=>rfl | .lit _=>rfl | .sl .. =>rfl | .hd .. =>rfl | .ptr .. =>rfl | .ep _=>rfl | .c9=>rfl
theorem CS:∀ vs:List V,V.ns (V.kH vs)=V.ns vs
 | []=>rfl
 | v::vs=>by simp only[V.kH,V.ns,Bm v,CS vs]
end
mutual
theorem HD:∀ (v:V) {cs F},R w Pb v cs F->R w Pb v.kill cs []
 | .own sz xs g o c,cs,F,h=>by
   rcases h with ⟨_,_,_,B,rfl⟩ | ⟨_,_,_,rfl,_⟩ <;> exact⟨rfl,_,rfl,rfl⟩
 | .ow sz xs,cs,F,h=>by
   obtain⟨g,o,c,h⟩:=h;rcases h with ⟨_,_,_,B,rfl⟩ | ⟨_,_,_,rfl,_⟩ <;> exact⟨rfl,_,rfl,rfl⟩
 | .om ..,_,_,h=>⟨rfl,_,h.2.1,rfl⟩
 | .mp ..,_,_,h=>⟨rfl,h.2⟩
 | .agg vs,cs,F,h=>by simp only[R,V.kill]at h ⊢;exact CJ vs h
 | .tup _,_,_,h=>by simp[R]at h
 | .gv _ _,_,_,h=>by simp[R]at h
 | .lit x,_,_,h=>⟨h.1,h.2.1,rfl⟩
 | .sl ..,_,_,h=>⟨rfl,h.2⟩
 | .hd ..,_,_,h=>⟨rfl,h.2⟩
 | .ptr ..,_,_,h=>⟨rfl,h.2⟩
 | .ep _,_,_,h=>⟨rfl,h.2⟩
 | .c9,_,_,h=>⟨rfl,h.2⟩
theorem CJ:∀ (vs:List V) {cs F},RL w Pb vs cs F->RL w Pb (V.kH vs) cs []
 | [],_,_,h=>⟨h.1,rfl⟩
 | v::vs,_,_,h=>by
   obtain⟨c1,c2,F1,F2,rfl,rfl,h1,h2⟩:=h;exact⟨c1,c2,[],[],rfl,rfl,HD v h1,CJ vs h2⟩
end
def kG(F F1 F2:List Nat):Prop:=(∀ y,y∈F1->y∈F)/\(∀ y,y∈F2->y∈F)/\(F.Nodup->F1.Nodup/\F2.Nodup/\∀ y,y∈F1->y ∉ F2)
theorem kG.ZE{X F Y F1 F2:List Nat}(h:kG F F1 F2):kG (X++F++Y) (X++F1++Y) F2:=by
 obtain⟨h1,h2,h3⟩:=h;refine⟨fun y hy=>?_,fun y hy=>by simp[h2 y hy],fun hnd=>?_⟩;simp only[Zax]at hy ⊢;rcases hy with (hy | hy) | hy;exact .inl (.inl hy);exact .inl (.inr (h1 y hy));exact .inr hy;simp only[List.nodup_append,Zax]at hnd ⊢;obtain⟨⟨n1,n2,n3⟩,n4,n5⟩:=hnd;obtain⟨k1,k2,k3⟩:=h3 n2;refine⟨⟨⟨n1,k1,fun p hp q hq=>n3 p hp q (h1 q hq)⟩,n4,fun p hp q hq=>?_⟩,k2,fun y hy Ya=>?_⟩;rcases hp with hp | hp;exact n5 p (.inl hp) q hq;exact n5 p (.inr (h1 p hp)) q hq;rcases hy with (hy | hy) | hy;exact n3 y hy y (h2 y Ya) rfl;exact k3 y hy Ya;exact n5 y (.inr (h2 y Ya)) y hy rfl
theorem nH:∀ (vs:List V) {cs F} {j:Nat} {u u':V},RL w Pb vs cs F->vs[j]? =some u->∃ c Fa Fj Fb,F=Fa++Fj++Fb/\R w Pb u c Fj/\(∀ i x,c[i]? =some x->cs[V.ns (vs.take j)+i]? =some x)/\
 ∀ X2,R w Pb u' c X2->RL w Pb (vs.set j u') cs (Fa++X2++Fb)
 | [],_,_,_,_,_,_,h=>by simp at h
 | v::vs,cs,F,0,u,u',h,hj=>by
   obtain⟨c1,c2,F1,F2,rfl,rfl,h1,h2⟩:=h;simp at hj;subst hj;refine⟨c1,[],F1,F2,Zad,h1,fun i x hx=>?_,fun X2 hr=>⟨c1,c2,X2,F2,rfl,Zad,hr,h2⟩⟩;simp only[List.take_zero,V.ns,Zaw];rw[Za9 (Za3.1 hx).1];exact hx
 | v::vs,cs,F,j+1,u,u',h,hj=>by
   obtain⟨c1,c2,F1,F2,rfl,rfl,h1,h2⟩:=h;obtain⟨c,Fa,Fj,Fb,rfl,k1,k2,k3⟩:=nH vs (u':=u') h2 Zbp;refine⟨c,F1++Fa,Fj,Fb,Zad,k1,fun i x hx=>?_,fun X2 hr=>⟨c1,c2,F1,Fa++X2++Fb,rfl,Zad,h1,k3 X2 hr⟩⟩;have hl:=eX _ h1;simp only[List.take_succ_cons,V.ns];rw[Za4 Zac];rw[show v.n+V.ns (vs.take j)+i-c1.length=V.ns (vs.take j)+i by omega];exact k2 i x hx
theorem kG.refl(F:List Nat):kG F [] F:=⟨Zad,fun _ h=>h,fun h=>⟨Zba,h,Zad⟩⟩
theorem uf:∀ (p:List Nat) {v u:V} {g o g' o':Nat} {cs:List Value} {F:List Nat} {cells:Array Value},R w Pb v cs F->Blk w g cells->(∀ j x,cs[j]? =some x->cells[o+j]? =some x)->V.at g o v p=some (g',o',u)->
 ∃ F1 Fu,R w Pb (v.set p u.kill) cs F1/\At w Pb u g' o' Fu/\kG F F1 Fu
 | [],v,u,g,o,g',o',cs,F,cells,h,hb,hc,e=>by
   simp only[V.at,Zan,Zaq]at e;obtain⟨rfl,rfl,rfl⟩:=e;exact⟨[],F,by simpa only[V.set] using HD v h,⟨cs,cells,hb,h,hc⟩,kG.refl F⟩
 | j::p,v,u,g,o,g',o',cs,F,cells,h,hb,hc,e=>by
   cases v with
   | agg vs=>
     simp only[V.at]at e;split at e
     case h_2=>simp at e
     rename_i x hx;simp only[R]at h;obtain⟨c,Fa,Fj,Fb,rfl,k1,k2,k3⟩:=nH vs (u':=x.set p u.kill) h hx;obtain⟨F1,Fu,m1,m2,m3⟩:=uf p k1 hb (o:=o+V.ns (vs.take j)) (fun i y hy=>by rw[Zbj];exact hc _ _ (k2 i y hy)) e;exact⟨Fa++F1++Fb,Fu,by simp only[V.set,hx,R];exact k3 F1 m1,m2,m3.ZE⟩
   | own sz xs g0 o0 c0=>
     simp only[V.at]at e;split at e
     case h_2=>simp at e
     rename_i x hx;rcases h with ⟨_,rfl,_⟩ | ⟨h1,h2,h3,h4,hN,h5,flat,F',R2,rfl,hr,U0,hsz,w9⟩;simp at hx;obtain⟨c,Fa,Fj,Fb,rfl,k1,k2,k3⟩:=nH xs (u':=x.set p u.kill) hr hx;have hj:j<xs.length:=(Za3.1 hx).1;rw[eM xs j hN Zac]at k2;obtain⟨F1,Fu,m1,m2,m3⟩:=uf p k1 U0 (o:=o0+j*sz) (fun i y hy=>by rw[Zbj];exact w9 _ _ (k2 i y hy)) e;have hn:(x.set p u.kill).n=x.n:=oq p e (Bm u);refine⟨g0::(Fa++F1++Fb),Fu,?_,m2,?_⟩;simp only[V.set,hx];refine .inr ⟨h1,h2,by simpa using h3,by simpa using h4,fun y hy=>?_,h5,flat,_,R2,rfl,k3 F1 m1,U0,hsz,w9⟩;rcases List.mem_or_eq_of_mem_set hy with hy | rfl;exact hN y hy;rw[hn];exact hN x (Za7 hx);have:=kG.ZE (X:=g0::Fa) (Y:=Fb) m3;simpa using this
   | _=>simp[V.at]at e
theorem Hw{j:Nat}{p:List Nat}{u:V}{g o g' o' sz g0 o0 c0:Nat}{xs:List V}{cs:List Value}{F:List Nat}(h:R w Pb (.own sz xs g0 o0 c0) cs F)(e:V.at g o (.own sz xs g0 o0 c0) (j::p)=some (g',o',u)):
 ∃ F1 Fu,R w Pb ((V.own sz xs g0 o0 c0).set (j::p) u.kill) cs F1/\At w Pb u g' o' Fu/\kG F F1 Fu:=by
 simp only[V.at]at e;split at e
 case h_2=>simp at e
 rename_i x hx;rcases h with ⟨_,rfl,_⟩ | ⟨h1,h2,h3,h4,hN,h5,flat,F',R2,rfl,hr,U0,hsz,w9⟩;simp at hx;obtain⟨c,Fa,Fj,Fb,rfl,k1,k2,k3⟩:=nH xs (u':=x.set p u.kill) hr hx;have hj:j<xs.length:=(Za3.1 hx).1;rw[eM xs j hN Zac]at k2;obtain⟨F1,Fu,m1,m2,m3⟩:=uf p k1 U0 (o:=o0+j*sz) (fun i y hy=>by rw[Zbj];exact w9 _ _ (k2 i y hy)) e;have hn:(x.set p u.kill).n=x.n:=oq p e (Bm u);refine⟨g0::(Fa++F1++Fb),Fu,?_,m2,?_⟩;simp only[V.set,hx];refine .inr ⟨h1,h2,by simpa using h3,by simpa using h4,fun y hy=>?_,h5,flat,_,R2,rfl,k3 F1 m1,U0,hsz,w9⟩;rcases List.mem_or_eq_of_mem_set hy with hy | rfl;exact hN y hy;rw[hn];exact hN x (Za7 hx);have:=kG.ZE (X:=g0::Fa) (Y:=Fb) m3;simpa using this
theorem x2.split(hs:x2 N Pb Kb A a w F){r:m7}{p:List Nat}{g o:Nat}{u:V}(C4:A.at r p=some (g,o,u)):
 ∃ Fr Fu,x2 N Pb Kb (A.setAt r p u.kill) a w (cK F r Fr)/\At w Pb u g o Fu/\Fu.Nodup/\(∀ r' y,y∈Fu->y ∉ cK F r Fr r')/\(∀ y,y∈Fu->¬ Kb y/\y<w.heap.size):=by
 have main:∃ Fr Fu,At w Pb u g o Fu/\kG (F r) Fr Fu/\(match r with
      | .key k=> ∀ g0 t,lk k A.h=some (g0,t)->∃ F',Fr=g0::F'/\At w Pb (t.set p u.kill) g0 0 F'
      | .slot i=>RV w Pb ((A.get i).set p u.kill) (a.tmps.getD i undef) Fr):=by
  cases r with
  | key k=>
    simp only[AS.at]at C4;split at C4;rename_i g0 t hk;obtain⟨F0,hF,cs,cells,hb,hr,hc⟩:=hs.root k g0 t hk;obtain⟨F1,Fu,m1,m2,m3⟩:=uf p hr hb hc C4;refine⟨g0::F1,Fu,m2,?_,fun g1 t1 Tm=>?_⟩;rw[hF];have:=kG.ZE (X:=[g0]) (Y:=[]) m3;simpa using this;rw[hk]at Tm;simp only[Zan,Zaq]at Tm;obtain⟨rfl,rfl⟩:=Tm;exact⟨F1,rfl,cs,cells,hb,m1,hc⟩;simp at C4
  | slot i=>
    simp only[AS.at]at C4;split at C4;rename_i sz xs g0 o0 c0 j p' hg _;have hr:=hs.slot i;rw[hg]at hr;obtain⟨F1,Fu,m1,m2,m3⟩:=Hw (w:=w) (Pb:=Pb) hr C4;refine⟨F1,Fu,m2,m3,?_⟩;simp only[hg];have e:∃ ys,(V.own sz xs g0 o0 c0).set (j::p') u.kill=.own sz ys g0 o0 c0:=by
     simp only[V.set];split;exact⟨_,rfl⟩;exact⟨_,rfl⟩
    obtain⟨ys,e⟩:=e;rw[e]at m1 ⊢;exact m1;simp at C4
 obtain⟨Fr,Fu,hA,hP,hm⟩:=main;obtain⟨p1,p2,p3⟩:=hP;obtain⟨n1,n2,n3⟩:=p3 (hs.nodup r);refine⟨Fr,Fu,⟨hs.size,hs.defers,fun i=>?_,fun k g0 t hk=>?_,fun r1 r2 hne y hy=>?_,fun r1=>?_,fun r1 y hy=>?_,hs.sub,hs.bound⟩,hA,n2,fun r' y hy=>?_,fun y hy=>hs.free r y (p2 y hy)⟩;by_cases Vd:r=.slot i;subst Vd;simp only[cK,if_true,AS.setAt,AS.get,lk,Option.getD_some];exact hm;simp only[cK,if_neg (Ne.symm Vd)];have:(A.setAt r p u.kill).get i=A.get i:=by
  cases r with
  | key k=>simp only[AS.setAt];split <;> rfl
  | slot j=>simp only[AS.setAt,AS.get,lk];rw[if_neg (fun c=>Vd (by rw[c]))]
 rw[this];exact hs.slot i;by_cases Vz:r=.key k;subst Vz;simp only[cK,if_true];cases TG:lk k A.h with
 | none=>
   simp only[AS.setAt,TG]at hk;cases hk
 | some gt=>
   obtain⟨g1,t1⟩:=gt;simp only[AS.setAt,TG,lk,if_true,Zan,Zaq]at hk;obtain⟨rfl,rfl⟩:=hk;exact hm g1 t1 TG
 simp only[cK,if_neg (Ne.symm Vz)];refine hs.root k g0 t ?_;rw[<- hk];cases r with
 | key k'=>
   have hne:k≠k':=fun c=>Vz (by rw[c]);simp only[AS.setAt];split;simp only[lk];rw[if_neg hne];rfl
 | slot j=>rfl
 simp only[cK]at hy ⊢;by_cases e1:r1=r;subst e1;rw[if_pos rfl]at hy;rw[if_neg (Ne.symm hne)];exact hs.cM r1 r2 hne y (p1 y hy);rw[if_neg e1]at hy;by_cases e2:r2=r;subst e2;rw[if_pos rfl];exact fun c=>hs.cM r1 r2 hne y hy (p1 y c);rw[if_neg e2];exact hs.cM r1 r2 hne y hy;simp only[cK];split;exact n1;exact hs.nodup r1;simp only[cK]at hy;split at hy;exact hs.free r y (p1 y hy);exact hs.free r1 y hy;simp only[cK];split;exact fun c=>n3 y c hy;rename_i hne;exact fun c=>hs.cM r r' (Ne.symm hne) y (p2 y hy) c
end
mutual
def wk:V->V->V
 | .own sz xs g o c,u=>match u with | .ow _ _=>.ow sz xs | _=>.own sz xs g o c
 | .sl f xs,u=>match u with | .sl false _=>.sl false xs | .c9=>.c9 | _=>.sl f xs
 | .ptr r p g o,u=>match u with | .ptr r' p' _ _=>.ptr r' p' g o | .c9=>.c9 | _=>.ptr r p g o
 | .lit x,u=>match u with
   | .ptr r' p' _ _=>match x with
     | .pointer (some ⟨g,o,none⟩)=>.ptr r' p' g o
     | _=>.lit x
   | .c9=>if x.oneCell' then .c9 else .lit x
   | _=>.lit x
 | .hd r p sz g o lo n c,u=>match u with | .hd r' p' _ _ _ _ _ _=>.hd r' p' sz g o lo n c | .c9=>.c9 | _=>.hd r p sz g o lo n c
 | .mp es,u=>match u with | .c9=>.c9 | _=>.mp es
 | .agg vs,u=>match u with | .agg us=>.agg (QA vs us) | _=>.agg vs
 | .tup vs,u=>match u with | .tup us=>.tup (QA vs us) | _=>.tup vs
 | v,_=>v
def QA:List V->List V->List V
 | v::vs,u::us=>wk v u::QA vs us
 | vs,_=>vs
end
section
variable {w w':World} {Pb Kb Pb':Nat->Prop} {N:Nat} {A A' B:AS} {a:Act} {F:m7->List Nat} {P:Program} {ops:Array Oper}
mutual
theorem ry:∀ (v u:V) {cs F},R w Pb v cs F->R w Pb (wk v u) cs F
 | .own sz xs g o c,u,cs,F,h=>by
   simp only[wk];split;exact Is.2 ⟨_,_,_,h⟩;exact h
 | .sl f xs,u,cs,F,h=>by
   simp only[wk];split;obtain⟨hF,B,c,hc,hl,_,hx⟩:=h;exact⟨hF,B,c,hc,hl,(fun h=>by cases h),hx⟩;obtain⟨hF,B,c,rfl,_⟩:=h;exact⟨hF,_,rfl,rfl⟩;exact h
 | .ptr r p g o,u,cs,F,h=>by
   simp only[wk];split;exact h;obtain⟨hF,rfl⟩:=h;exact⟨hF,_,rfl,rfl⟩;exact h
 | .lit x,u,cs,F,h=>by
   simp only[wk];split;split;obtain⟨_,rfl,hF⟩:=h;exact⟨hF,rfl⟩;exact h;split;rename_i hx;obtain⟨_,rfl,hF⟩:=h;exact⟨hF,x,rfl,hx⟩;exact h;exact h
 | .hd r p sz g o lo n c,u,cs,F,h=>by
   simp only[wk];split;exact h;obtain⟨hF,_,B,rfl,_⟩:=h;exact⟨hF,_,rfl,rfl⟩;exact h
 | .mp es,u,cs,F,h=>by
   simp only[wk];split;obtain⟨hF,g,rfl,_⟩:=h;exact⟨hF,_,rfl,rfl⟩;exact h
 | .agg vs,u,cs,F,h=>by
   simp only[wk];split;rename_i us;simp only[R]at h ⊢;exact EO vs us h;exact h
 | .tup vs,_,_,_,h=>by simp[R]at h
 | .gv _ _,_,_,_,h=>by simp[R]at h
 | .ow ..,u,_,_,h=>by simpa[wk] using h
 | .om ..,u,_,_,h=>by simpa[wk] using h
 | .ep _,u,_,_,h=>by simpa[wk] using h
 | .c9,u,_,_,h=>by simpa[wk] using h
theorem EO:∀ (vs us:List V) {cs F},RL w Pb vs cs F->RL w Pb (QA vs us) cs F
 | [],us,_,_,h=>by simpa[QA] using h
 | v::vs,[],_,_,h=>by simpa[QA] using h
 | v::vs,u::us,cs,F,h=>by
   obtain⟨c1,c2,F1,F2,rfl,rfl,h1,h2⟩:=h;exact⟨c1,c2,F1,F2,rfl,rfl,ry v u h1,EO vs us h2⟩
end
theorem GQ{v:V}(u:V){x:Value}{F1:List Nat}(h:R5 w Pb v x F1):R5 w Pb (wk v u) x F1:=by
 cases v with
 | agg us=>
   obtain⟨cs,rfl,h⟩:=h;simp only[wk];split;exact⟨cs,rfl,EO _ _ h⟩;exact⟨cs,rfl,h⟩
 | c9=>simpa[wk] using h
 | tup vs=>simp[R5,R]at h
 | gv b u=>simp[R5,R]at h
 | ow sz xs=>simpa[wk] using h
 | om es g=>simpa[wk] using h
 | ep v=>simpa[wk] using h
 | own sz xs g o c=>
   have:=ry (w:=w) (Pb:=Pb) (.own sz xs g o c) u h;simp only[wk]at this ⊢;split at this <;> simpa[R5] using this
 | lit y=>
   have h:R w Pb (.lit y) [x] F1:=h;have hh:=h;obtain⟨ho,e,hF⟩:=hh;simp only[List.cons.injEq,and_true]at e;subst e hF;cases u with
   | ptr r' p' g' o'=>
     have:=ry (w:=w) (Pb:=Pb) (.lit x) (.ptr r' p' g' o') h;simp only[wk]at this ⊢;split at this;exact this;exact this
   | c9=>simp only[wk,ho,if_true];rfl
   | _=>exact h
 | sl f xs=>
   have:=ry (w:=w) (Pb:=Pb) (.sl f xs) u h;simp only[wk]at this ⊢;split at this;all_goals first | simpa[R5] using this | (simp only[R5];exact this.1)
 | ptr r p g o=>
   have:=ry (w:=w) (Pb:=Pb) (.ptr r p g o) u h;simp only[wk]at this ⊢;split at this;all_goals first | simpa[R5] using this | (simp only[R5];exact this.1)
 | hd r p sz g o lo n c=>
   have:=ry (w:=w) (Pb:=Pb) (.hd r p sz g o lo n c) u h;simp only[wk]at this ⊢;split at this;all_goals first | simpa[R5] using this | (simp only[R5];exact this.1)
 | mp es=>
   have:=ry (w:=w) (Pb:=Pb) (.mp es) u h;simp only[wk]at this ⊢;split at this;all_goals first | simpa[R5] using this | (simp only[R5];exact this.1)
theorem wY:∀ (vs:List V) {xs:List Value} {F1:List Nat},RVs w Pb vs xs F1↔match vs with | []=>xs=[]/\F1=[] | v::vs=> ∃ x xs' Fa Fb,xs=x::xs'/\F1=Fa++Fb/\R5 w Pb v x Fa/\RVs w Pb vs xs' Fb
 | [],_,_=>Iff.rfl
 | v::vs,_,_=>Iff.rfl
theorem qs:∀ (vs us:List V) {xs F1},RVs w Pb vs xs F1->RVs w Pb (QA vs us) xs F1
 | [],us,_,_,h=>by simpa[QA] using h
 | v::vs,[],_,_,h=>by simpa[QA] using h
 | v::vs,u::us,xs,F1,h=>by
   obtain⟨x,xs',Fa,Fb,rfl,rfl,h1,h2⟩:=(wY (v::vs)).1 h;exact(wY (wk v u::QA vs us)).2 ⟨x,xs',Fa,Fb,rfl,rfl,GQ u h1,qs vs us h2⟩
theorem Ad{v:V}(u:V){x:Value}{F1:List Nat}(h:RV w Pb v x F1):RV w Pb (wk v u) x F1:=by
 by_cases ht:∃ vs,v=.tup vs;obtain⟨vs,rfl⟩:=ht;obtain⟨xs,rfl,h⟩:=h;simp only[wk];split;exact⟨xs,rfl,qs _ _ h⟩;exact⟨xs,rfl,h⟩;by_cases hg:∃ b u',v=.gv b u';obtain⟨b,u',rfl⟩:=hg;simpa[wk] using h;have h1:=Hp h ⟨fun us e=>ht ⟨us,e⟩,fun b u e=>hg ⟨b,u,e⟩⟩;have h2:=GQ u h1;have back:∀ z:V,(∀ us,z≠.tup us)->(∀ b u,z≠.gv b u)->R5 w Pb z x F1->RV w Pb z x F1:=by
  intro z z1 z2 hz;cases z with
  | tup us=>exact absurd rfl (z1 us)
  | gv b u=>exact absurd rfl (z2 b u)
  | _=>exact hz
 refine back _ (fun us e=>?_) (fun b u e=>?_) h2
 · cases v <;> simp only[wk]at e <;> (repeat' split at e) <;> simp_all
 · cases v <;> simp only[wk]at e <;> (repeat' split at e) <;> simp_all
theorem Fw{v:V}(u:V){g o:Nat}{F1:List Nat}(h:At w Pb v g o F1):At w Pb (wk v u) g o F1:=by
 obtain⟨cs,cells,hb,hr,hc⟩:=h;exact⟨cs,cells,hb,ry v u hr,hc⟩
def Um(A:AS):List (Nat×V)->Prop
 | []=>True
 | (k,v)::r=>wk (A.get k) v=v/\Um A r
def TC(A:AS):List (Nat×(Nat×V))->Prop
 | []=>True
 | (k,(g,v))::r=>(match lk k A.h with | some (g',v')=>(g',wk v' v)=(g,v) | none=>False)/\TC A r
theorem GK:∀ (l:List (Nat×V)) {i:Nat} {v:V},Um A l->lk i l=some v->wk (A.get i) v=v
 | [],_,_,_,h=>by simp[lk]at h
 | (k,u)::r,i,v,h,e=>by
   simp only[lk]at e;split at e;rename_i e';subst e';cases e;exact h.1;exact GK r h.2 e
theorem AW:∀ (l:List (Nat×(Nat×V))) {i g:Nat} {v:V},TC A l->lk i l=some (g,v)->∃ v',lk i A.h=some (g,v')/\wk v' v=v
 | [],_,_,_,_,h=>by simp[lk]at h
 | (k,(g0,u))::r,i,g,v,h,e=>by
   simp only[lk]at e;split at e;rename_i e';subst e';cases e;have h1:=h.1;split at h1;rename_i g' v' hk;simp only[Zaq]at h1;exact⟨v',by rw[hk,h1.1],h1.2⟩;exact h1.elim;exact AW r h.2 e
open Classical in
theorem x2.leW(hs:x2 N Pb Kb A a w F)(h:Um A B.t)(k:TC A B.h):∃ F',x2 N Pb Kb B a w F':=by
 refine⟨fun r=>match r with | .slot i=>if lk i B.t=none then [] else F (.slot i) | .key k=>if lk k B.h=none then [] else F (.key k),?_⟩;have key:∀ r g,g∈(match r with | .slot i=>if lk i B.t=none then [] else F (.slot i) | .key k=>if lk k B.h=none then [] else F (.key k):List Nat)->g∈F r:=by
  intro r g hg;cases r <;> simp only at hg <;> split at hg <;> simp_all
 refine⟨hs.size,hs.defers,fun i=>?_,fun k0 g v hk=>?_,fun r r' hne g hg=>?_,fun r=>?_,fun r g hg=>hs.free r g (key r g hg),hs.sub,hs.bound⟩;simp only;cases e:lk i B.t with
 | none=>simp only[if_true,AS.get,e];rfl
 | some v=>
   rw[if_neg Zad];have:=Ad v (hs.slot i);rw[GK _ h e]at this;simpa[AS.get,e] using this
 simp only;rw[if_neg (by rw[hk];simp)];obtain⟨v',e1,e2⟩:=AW _ k hk;obtain⟨F',hF,hA⟩:=hs.root k0 g v' e1;exact⟨F',hF,by have:=Fw v hA;rw[e2]at this;exact this⟩;exact fun Sw=>hs.cM r r' hne g (key r g hg) (key r' g Sw);cases r <;> simp only <;> split <;> first | exact Zba | exact hs.nodup _
def Hx(N:Nat)(A:AS)(K:AS->Prop):Prop:=
 ∀ Pb Kb a w F,x2 N Pb Kb A a w F->∃ B Pb' I4 F',K B/\x2 N Pb' I4 B a w F'/\(∀ g,Pb g->Pb' g)/\(∀ g,Kb g->I4 g)/\(∀ g,Pb' g->Pb g\/¬ Kb g)
theorem Hx.of{K:AS->Prop}(h:K A):Hx N A K:=fun Pb Kb _ _ F hs=>⟨A,Pb,Kb,F,h,hs,fun _ h=>h,fun _ h=>h,fun _ h=>.inl h⟩
theorem Hx.mono{K K':AS->Prop}(h:Hx N A K)(hK:∀ B,K B->K' B):Hx N A K':=fun Pb Kb a w F hs=>by
 obtain⟨B,Pb',I4,F',h1,h2⟩:=h Pb Kb a w F hs;exact⟨B,Pb',I4,F',hK B h1,h2⟩
theorem Hx.bind{K K':AS->Prop}(h:Hx N A K)(hK:∀ B,K B->Hx N B K'):Hx N A K':=fun Pb Kb a w F hs=>by
 obtain⟨B,Pb',I4,F',h1,h2,h3,h4,h5⟩:=h Pb Kb a w F hs;obtain⟨C,Rf,Rn,F2,k1,k2,k3,k4,k5⟩:=hK B h1 Pb' I4 a w F' h2;exact⟨C,Rf,Rn,F2,k1,k2,fun g hg=>k3 g (h3 g hg),fun g hg=>k4 g (h4 g hg),fun g hg=>by
  rcases k5 g hg with h | h;exact h5 g h;exact .inr fun c=>h (h4 g c)⟩
theorem Hx.simple{K:AS->Prop}(hK:K B)(h:∀ Pb Kb a w F,x2 N Pb Kb A a w F->∃ F',x2 N Pb Kb B a w F'):Hx N A K:=fun Pb Kb a w F hs=>by
 obtain⟨F',C8⟩:=h Pb Kb a w F hs;exact⟨B,Pb,Kb,F',hK,C8,fun _ h=>h,fun _ h=>h,fun _ h=>.inl h⟩
theorem Nx.hint{K:AS->Prop}{a':Act}(h:Nx N Pb Kb w (fun B=>Hx N B K) a' w'):Nx N Pb Kb w K a' w':=by
 obtain⟨A',Pb',I4,F',h1,h2,h3,h4,h5,h6⟩:=h;obtain⟨B,Rf,Rn,F2,k1,k2,k3,k4,k5⟩:=h1 Pb' I4 a' w' F' h2;exact⟨B,Rf,Rn,F2,k1,k2,fun g hg=>k3 g (h3 g hg),fun g hg=>k4 g (h4 g hg),fun g hg=>by
  rcases k5 g hg with h | h;exact h5 g h;exact .inr fun c=>h (h4 g c),h6⟩
theorem qi{c:Code}{Q:Exit->AS->Prop}(h:Hx N A fun B=>T P N c B Q):T P N c A Q:=by
 intro Pb Kb a w F hs;obtain⟨B,Pb',I4,F',h1,h2,h3,h4,h5⟩:=h Pb Kb a w F hs;exact wp_mono (h1 Pb' I4 a w F' h2) fun e a' w' hn=>Nx.step h3 h4 h5 (B6.refl _ _) hn
theorem nS{c:Code}{Q:Exit->AS->Prop}(h:T P N c A fun e B=>Hx N B (Q e)):T P N c A Q:=
 fun Pb Kb a w F hs=>wp_mono (h Pb Kb a w F hs) fun _ _ _ hn=>hn.hint
theorem uK{o:Oper}{l:List Oper}{K:AS->Prop}(hg:o.guard=none)(h:Hx N A fun B=>WL P N ops (o::l) B K):WL P N ops (o::l) A K:=by
 simp only[WL,gd,hg]at h ⊢;intro Pb Kb a w F Q hs;obtain⟨B,Pb',I4,F',h1,h2,h3,h4,h5⟩:=h Pb Kb a w F hs;refine Oper.wp_mono (fun a' w' hn=>?_) (h1 Pb' I4 a w F' Q h2);exact Nx.step h3 h4 h5 (B6.refl _ _) hn
theorem Of{c:Code}{Q:Exit->AS->Prop}(h:Um A B.t)(k:TC A B.h)(hT:T P N c B Q):T P N c A Q:=
 qi (Hx.simple hT fun _ _ _ _ _ hs=>hs.leW h k)
end
section
variable {w w':World} {Pb Kb Pb':Nat->Prop} {N:Nat} {A A' B:AS} {a:Act} {F:m7->List Nat} {P:Program} {ops:Array Oper}
structure Z1 (w:World) (Pb Kb:Nat->Prop) (args:List V) (cargs:List Value) (H:List (Nat×(Nat×V))) (F:m7->List Nat):Prop where
 len:cargs.length=args.length
 slot:∀ i v x,args[i]? =some v->cargs[i]? =some x->RV w Pb v x (F (.slot i))
 root:∀ k g v,lk k H=some (g,v)->∃ F',F (.key k)=g::F'/\At w Pb v g 0 F'
 rest:∀ i,args.length<=i->F (.slot i)=[]
 cM:∀ r r',r≠r'->∀ g,g∈F r->g ∉ F r'
 nodup:∀ r,(F r).Nodup
 free:∀ r g,g∈F r->¬ Kb g/\g<w.heap.size
 sub:∀ g,Pb g->Kb g
 bound:∀ g,Kb g->g<w.heap.size
structure Fin (w w':World) (Pb Kb:Nat->Prop) (r:V) (x:Value) (H:List (Nat×(Nat×V))) (Pb' I4:Nat->Prop) (F:m7->List Nat):Prop where
 val:RV w' Pb' r x (F (.slot 0))
 root:∀ k g v,lk k H=some (g,v)->∃ F',F (.key k)=g::F'/\At w' Pb' v g 0 F'
 cM:∀ r r',r≠r'->∀ g,g∈F r->g ∉ F r'
 nodup:∀ r,(F r).Nodup
 free:∀ r g,g∈F r->¬ I4 g/\g<w'.heap.size
 sub:∀ g,Pb' g->I4 g
 bound:∀ g,I4 g->g<w'.heap.size
 mP:∀ g,Pb g->Pb' g
 mK:∀ g,Kb g->I4 g
 Ul:∀ g,Pb' g->Pb g\/¬ Kb g
 fC:B6 Kb w w'
def PF(P:Program)(f:FuncId)(args:List V)(H:List (Nat×(Nat×V)))(Q:V->List (Nat×(Nat×V))->Prop):Prop:=
 pe P f/\∀ (w:World) (Pb Kb:Nat->Prop) (cargs:List Value) (F:m7->List Nat),Z1 w Pb Kb args cargs H F->
  Calls P f cargs.toArray w fun e w'=> ∃ r x H' Pb' I4 F',e=.returned x/\Q r H'/\Fin w w' Pb Kb r x H' Pb' I4 F'
theorem PF.mono{f:FuncId}{args:List V}{H:List (Nat×(Nat×V))}{Q Q':V->List (Nat×(Nat×V))->Prop}(h:PF P f args H Q)(hQ:∀ r H,Q r H->Q' r H):PF P f args H Q':=
 ⟨h.1,fun w Pb Kb cargs F hi=>(h.2 w Pb Kb cargs F hi).mono fun _ _ ⟨r,x,H',Pb',I4,F',e,q,rest⟩=>⟨r,x,H',Pb',I4,F',e,hQ r H' q,rest⟩⟩
def JS(P:Program)(rs:List ResultVar)(Q:V->List (Nat×(Nat×V))->Prop):Exit->AS->Prop:=fun e A=>
 (e=.normal\/e=.ret)/\∃ xs H,rY A rs=some xs/\rm P rs xs/\(xs.map (·.1)).Nodup/\TC A H/\(∀ k,lk k H≠none->m7.key k ∉ xs.map (·.1))/\Q (one (xs.map (·.2))) H
open Classical in
theorem DQ{f:FuncId} {fn:Func} {c:Code} {args:List V} {H:List (Nat×(Nat×V))} {Q:V->List (Nat×(Nat×V))->Prop} (hf:P.funcs[f]? =some fn) (hb:fn.body=some c) (he:pe P f) (hN:args.length<=fn.ntmps)
 (h:T P fn.ntmps c ⟨enum 0 args,H⟩ (JS P fn.results.toList Q)):PF P f args H Q:=by
 refine⟨he,fun w Pb Kb cargs F hi=>?_⟩;have hlen:=hi.len;refine calls_of_wp hf hb ?_;have hs:x2 fn.ntmps Pb Kb ⟨enum 0 args,H⟩ { tmps:=cargs.toArray++Array.replicate (fn.ntmps-cargs.toArray.size) undef,defers:=[] } w F:=by
  refine⟨Zal,rfl,fun i=>?_,hi.root,hi.cM,hi.nodup,hi.free,hi.sub,hi.bound⟩;simp only[AS.get,CI,Nat.zero_le,if_true,Nat.sub_zero];cases Za:args[i]? with
  | none=>
    have:args.length<=i:=by simpa using Za
    rw[hi.rest i this];rfl
  | some v=>
    have hlt:i<args.length:=(Za3.1 Za).1;have hx:cargs[i]? =some (cargs[i]'Zac):=Zat Zac;have hr:=hi.slot i v _ Za hx;have e:(cargs.toArray++Array.replicate (fn.ntmps-cargs.toArray.size) undef).getD i undef=cargs[i]'Zac:=by
     rw[Array.getD_eq_getD_getElem?,Array.getElem?_append_left Zal];simp[hx]
    simp only[Option.getD_some];rw[e];exact hr
 refine wp_mono (h _ _ _ _ _ hs) ?_;rintro e a' w' ⟨A',Pb',I4,F',⟨he',xs,H',Vv,Qx,hnd,hH,XG,hQ⟩,C8,k1,k2,k3,k4⟩;obtain⟨x,Fr,C9,hr,QL,hin⟩:=Cv C8 Vv Qx hnd;have US:a'.defers=[]/\∃ v,(results fn a'.tmps).run P w'=.ok v w'/\(∃ r x H' Pb' I4 F',Ending.returned v=.returned x/\Q r H'/\Fin w w' Pb Kb r x H' Pb' I4 F'):=by
  refine⟨C8.defers,x,C9,_,x,H',Pb',I4,(fun r=>match r with | .slot i=>if i=0 then Fr else [] | .key k=>if lk k H'=none then [] else F' (.key k)),rfl,hQ,?_⟩;have hk:∀ k g,lk k H'≠none->g∈Fr->g ∉ F' (.key k):=fun k g hk hg c=>by
   obtain⟨r,S8,P1⟩:=hin g hg;have hne:r≠.key k:=fun c=>XG k hk (by rw[<- c];exact S8);exact C8.cM r _ hne g P1 c
  refine⟨by simpa using hr,fun k g v Y9=>?_,fun r r' hne g hg=>?_,fun r=>?_,fun r g hg=>?_,C8.sub,C8.bound,k1,k2,k3,k4⟩;obtain⟨v',e1,e2⟩:=AW _ hH Y9;obtain⟨F1,hF,hA⟩:=C8.root k g v' e1;refine⟨F1,?_,by have:=Fw v hA;rw[e2]at this;exact this⟩;simp only;rw[if_neg (by rw[Y9];simp)];exact hF;cases r with
  | slot i=>
    simp only at hg;split at hg;rename_i hi0;cases r' with
    | slot j=>simp only;rw[if_neg (fun c=>hne (by rw[hi0,c]))];simp
    | key k=>simp only;split;simp;rename_i XF;exact hk k g XF hg
    simp at hg
  | key k=>
    simp only at hg;split at hg;simp at hg;rename_i XF;cases r' with
    | slot j=>simp only;split;exact fun c=>hk k g XF c hg;simp
    | key k'=>simp only;split;simp;exact C8.cM _ _ hne g hg
  cases r <;> simp only <;> split <;> first | exact QL | exact Zba | exact C8.nodup _
  cases r with
  | slot i=>
    simp only at hg;split at hg;obtain⟨r,_,h⟩:=hin g hg;exact C8.free r g h;simp at hg
  | key k=>
    simp only at hg;split at hg;simp at hg;exact C8.free _ g hg
 rcases he' with rfl | rfl;exact US;exact US
theorem PF.FI{f:FuncId}{args:List V}{Q:V->List (Nat×(Nat×V))->Prop}(h:PF P f args [] Q):PC P f args (fun r=> ∃ H,Q r H):=by
 refine⟨h.1,fun w Pb cargs hP hargs=>?_⟩;have hi:Z1 w Pb (fun g=>g<w.heap.size) args cargs [] (fun _=>[]):=by
  refine⟨yQ _ hargs,fun i v x hv hx=>?_,fun k g v hk=>by simp[lk]at hk,fun _ _=>rfl,fun _ _ _ _ hg=>by simp at hg,fun _=>Zba,fun _ _ hg=>by simp at hg,hP,fun _ h=>h⟩;obtain⟨y,hy,hr⟩:=HJ args hargs hv;rw[hx]at hy;cases hy;exact hr
 refine(h.2 w Pb _ cargs _ hi).mono ?_;rintro e w' ⟨r,x,H',Pb',I4,F',rfl,hq,hf⟩;refine⟨r,x,F' (.slot 0),Pb',rfl,⟨H',hq⟩,hf.val,hf.nodup _,fun g hg=>?_,hf.mP,fun g hg=>?_,⟨hf.fC.os,hf.fC.tape,hf.fC.output,hf.fC.size,fun k hk=>hf.fC.block k hk⟩⟩;have:=hf.free _ g hg;refine⟨Nat.le_of_not_lt fun c=>this.1 (hf.mK g c),this.2,fun c=>this.1 (hf.sub g c)⟩;rcases hf.Ul g hg with h | h;exact .inl h;exact .inr ⟨Nat.le_of_not_lt h,hf.bound g (hf.sub g hg)⟩
end
end Go.Proofs.YtngholilfbdfkabGreatDoor