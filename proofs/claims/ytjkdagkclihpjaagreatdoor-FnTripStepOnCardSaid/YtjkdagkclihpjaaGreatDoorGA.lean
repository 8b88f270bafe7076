/-
  Words and walks for the laws of pedlar's seat: what each function of the program computes, and that it does; no conditions beyond those that each statement names.
-/
import Derived.Calls
import Derived.Below
import Derived.LoopN
import Derived.Tactics
import Derived.Laws.Sem
import Derived.IntWalk
import Derived.Lib.MinMax
import Derived.Laws.Cells
import Derived.Orders
import Derived.KernelRfl
import Derived.Lib.Strings
import Derived.Great.BuildSlice
import Derived.Laws.Append
import Derived.Laws.BytesString
import Derived.Lib.ConvBytes
set_option linter.unusedVariables false
set_option linter.unusedSimpArgs false
set_option linter.unnecessarySimpa false
set_option linter.unusedSectionVars false
namespace Go
abbrev BL:=List UInt8
theorem Zaa{p:Prop}(h:p:=by first | rfl | simp_all):p:=h
theorem Zab{p:Prop}(h:p:=by first | rfl | exact ⟨rfl, rfl⟩ | simp_all):p:=h
theorem Zac{p:Prop}(h:p:=by omega):p:=h
theorem Zad{p:Prop}(h:p:=by simp):p:=h
theorem Zae{p:Prop}(h:p:=by kernel_rfl):p:=h
theorem Zaf{p:Prop}(h:p:=by decide):p:=h
theorem Zag{p:Prop}(h:p:=by first | assumption | omega | (simp; omega)):p:=h
theorem Zah{p:Prop}(h:p:=by first | rfl | simp | (simp; omega)):p:=h
theorem Zai{p:Prop}(h:p:=by (try simp only [List.length_append, List.length_cons, List.length_nil]); omega):p:=h
theorem Zaj{p:Prop}(h:p:=by (try simp only [List.length_map] at *); omega):p:=h
theorem Zak{p:Prop}(h:p:=by first | (solve | simp) | omega | (simp; omega)):p:=h
theorem Zal{p:Prop}(h:p:=by simp; omega):p:=h
theorem Zam{α:Type _}{l:List α}{i:Nat}{a:α}:l.getD i a=l[i]?.getD a:=List.getD_eq_getElem?_getD ..
theorem Zan{α:Type _}(a b:α):(some a=some b)=(a=b):=Option.some.injEq ..
theorem Zao(a b:Bool):((a&&b)=true)=(a=true/\b=true):=Bool.and_eq_true ..
theorem Zap{α:Type _}{as bs:List α}:(as++bs).length=as.length+bs.length:=List.length_append ..
theorem Zaq{α:Type _}{β:Type _}(a:α)(b:β)(c:α)(d:β):((a,b)=(c,d))=(a=c/\b=d):=Prod.mk.injEq ..
theorem Zar{α:Type _}{a:α}{as:List α}:(a::as).length=as.length+1:=List.length_cons ..
theorem Zas{α β:Type}(a:α)(w:World)(f:α->World->Result β):(Result.ok a w).andThen f=f a w:=Result.andThen_ok ..
theorem Zat{α:Type _}{l:List α}{i:Nat}(h:i<l.length):l[i]?=some l[i]:=List.getElem?_eq_getElem h
theorem Zau{α:Type _}:([]:List α).length=0:=List.length_nil
theorem Zav{α:Type _}{a b:α}:a∈[b]↔a=b:=List.mem_singleton ..
theorem Zaw(n:Nat):0+n=n:=Nat.zero_add ..
theorem Zax{α:Type _}{a:α}{s t:List α}:a∈s++t↔a∈s\/a∈t:=List.mem_append ..
theorem Zay{α:Type _}{β:Type _}{as:List α}(f:α->β):(as.map f).length=as.length:=List.length_map ..
theorem Zaz{α:Type _}{i:Nat}{l:List α}(h:l.length<=i):l.take i=l:=List.take_of_length_le h
theorem Za0{α β:Type}(P:Program)(w:World)(x:Sem α)(f:α->Sem β):(x>>=f).run P w=(x.run P w).andThen fun a w=>(f a).run P w:=Sem.run_bind ..
theorem Za1{α:Type}(P:Program)(w:World)(a:α):(pure a:Sem α).run P w=.ok a w:=Sem.run_pure ..
theorem Za2{α:Type _}{p:α->Bool}{l:List α}:l.all p=true↔∀x,x∈l->p x=true:=List.all_eq_true ..
theorem Za3{α:Type _}{i:Nat}{a:α}{l:List α}:l[i]?=some a↔∃h:i<l.length,l[i]=a:=List.getElem?_eq_some_iff ..
theorem Za4{α:Type _}{l₁ l₂:List α}{i:Nat}:l₁.length<=i->(l₁++l₂)[i]?=l₂[i-l₁.length]?:=List.getElem?_append_right
theorem Za5{α:Type _}{l:List α}:l.length=0->l=[]:=List.eq_nil_of_length_eq_zero
theorem Za6{a b:Bool}:a=b↔(a=true↔b=true):=Bool.eq_iff_iff ..
theorem Za7{α:Type _}{l:List α}{i:Nat}{a:α}(e:l[i]?=some a):a∈l:=List.mem_of_getElem? e
theorem Za8{α:Type _}{as:List α}{i:Nat}(h:as.length<=i):as.drop i=[]:=List.drop_eq_nil_of_le h
theorem Za9{α:Type _}{l₁ l₂:List α}{i:Nat}(hn:i<l₁.length):(l₁++l₂)[i]?=l₁[i]?:=List.getElem?_append_left hn
theorem Zba{α:Type _}:([]:List α).Nodup:=List.nodup_nil
theorem Zbb{α:Type _}{β:Type _}{f:α->β}{l₁ l₂:List α}:(l₁++l₂).map f=l₁.map f++l₂.map f:=List.map_append ..
theorem Zbc(n:Nat):n<=n:=Nat.le_refl ..
theorem Zbd(n:UInt8):n.toNat<2^8:=UInt8.toNat_lt ..
theorem Zbe{α:Type _}{β:Type _}{f:α->β}{a:α}{l:List α}:(a::l).map f=f a::l.map f:=List.map_cons ..
theorem Zbf{α:Type _}{a:α}:[a].length=1:=List.length_singleton ..
theorem Zbg{α:Type _}{a:α}{l:List α}:a∈l↔∃(i:Nat)(h:i<l.length),l[i]=a:=List.mem_iff_getElem ..
theorem Zbh{α:Type _}{i:Nat}{b:α}{xs:Array α}:xs[i]?=some b↔∃h:i<xs.size,xs[i]=b:=Array.getElem?_eq_some_iff ..
theorem Zbi{α:Type _}[BEq α][LawfulBEq α](a:α)(as:List α):as.contains a=decide (a∈as):=List.contains_eq_mem ..
theorem Zbj(n m k:Nat):n+m+k=n+(m+k):=Nat.add_assoc ..
theorem Zbk{p:Prop}[Decidable p]:(decide p=true)=p:=decide_eq_true_eq ..
theorem Zbl{α:Type _}[BEq α][LawfulBEq α]{a b:α}:(a==b)=true↔a=b:=beq_iff_eq ..
theorem Zbm{α:Type _}{β:Type _}{a b:α}(f:α->β)(h:a=b):f a=f b:=congrArg f h
theorem Zbn{p:Prop}(h:p:=by simpa using hi):p:=h
theorem Zbo{p:Prop}(h:p:=by simp[execOp,resolve,invoke,builtin,Builtin.len_,hc,aK hu,goInt]):p:=h
theorem Zbp{p:Prop}(h:p:=by simpa using hj):p:=h
theorem Zbq{p:Prop}(h:p:=by simpa using h):p:=h
theorem Zbr{p:Prop}(h:p:=by have:=(Za3.1 hx).1;omega):p:=h
theorem Zbs{p:Prop}(h:p:=by rw[Zbj];exact M6 _ _ (QL i u hu)):p:=h
theorem Zbt{p:Prop}(h:p:=by simpa using hx):p:=h
theorem Zbu{p:Prop}(h:p:=by simp only[execOp,ho,Za0,hy,Zas,Za1]):p:=h
theorem Zbv{p:Prop}(h:p:=by simp at hx ⊢;rcases hx with h | h <;> simp[h]):p:=h
theorem Zbw{p:Prop}(h:p:=by simp at c ⊢;rcases c with h | h <;> simp[h]):p:=h
theorem Zbx{p:Prop}(h:p:=by rw[dJ];omega):p:=h
theorem Zby{p:Prop}(h:p:=by simpa using hb):p:=h
theorem Zbz{p:Prop}(h:p:=by simpa using h1):p:=h
theorem Zb0{p:Prop}(h:p:=by subst ht;simp[Op.operands,Call.operands]):p:=h
theorem Zb1{p:Prop}(h:p:=by simp[Op.operands,e]):p:=h
theorem Zb2{p:Prop}(h:p:=by simp[Op.operands,Call.operands,hx,e]):p:=h
theorem Zb3{p:Prop}(h:p:=by simpa using e):p:=h
theorem Zb4{p:Prop}(h:p:=by simpa using h2):p:=h
theorem Zb5{p:Prop}(h:p:=by have:=hl z hz;simp only;omega):p:=h
theorem Zb6{p:Prop}(h:p:=by have:=uo (show i<16 from hi);omega):p:=h
theorem Zb7{p:Prop}(h:p:=by rw[wN (by have:i<16:=hi;exact this) (by rw[HF.out];exact Zbl.1 HI.out)];simp):p:=h
theorem Zb8{p:Prop}(h:p:=by have:=Zbd b;omega):p:=h
theorem Zb9{p:Prop}(h:p:=by simp only[kG,decide_eq_false_iff_not];omega):p:=h
theorem Zca{p:Prop}(h:p:=by (try simp only[nb]at hG);first | assumption | omega | (simp;omega)):p:=h
theorem Zcb{p:Prop}(h:p:=by have:=Zbd (s.getD i 0);omega):p:=h
theorem Zcc{p:Prop}(h:p:=by have:=gu (s.getD (i+1) 0);have:=iH (s.getD (i+1) 0);have:=gu (s.getD (i+2) 0);have:=iH (s.getD (i+2) 0);omega):p:=h
theorem Zcd{p:Prop}(h:p:=by exact Zbm (V.sl false) (aW (fun _=>rfl) _)):p:=h
theorem Zce{p:Prop}(h:p:=by exact ah (ag (d:=[]) Zac)):p:=h
theorem Zcf{p:Prop}(h:p:=by simp <;> omega):p:=h
theorem Zcg{p:Prop}(h:p:=by simpa using l4):p:=h
theorem Zch{p:Prop}(h:p:=by first | assumption | exact rT _ | simp_all):p:=h
theorem Zci{p:Prop}(h:p:=by rw[j8];decide):p:=h
theorem Zcj{p:Prop}(h:p:=by rw[Zaw];exact ag (d:=0) Zac):p:=h
theorem Zck{p:Prop}(h:p:=by simp[Zaz]):p:=h
theorem Zcl{p:Prop}(h:p:=by exact (bq (f:=sV) (fun _=>rfl) _)):p:=h
theorem Zcm{p:Prop}(h:p:=by exact (bX (f:=sV) (fun _=>rfl) _)):p:=h
theorem Zcn{p:Prop}(h:p:=by rw[Zaz Zac]at h3;exact h3):p:=h
theorem Zco{p:Prop}(h:p:=by first | (solve | simp) | (simp;omega)):p:=h
theorem Zcp{p:Prop}(h:p:=by rintro⟨k1,k2⟩;have k3:=Zbm List.length k2;simp only[List.length_drop,Zau]at k3;exact w6 k1 Zac):p:=h
theorem Zcq{p:Prop}(h:p:=by (try simp only[nb]at hG);omega):p:=h
theorem Zcr{p:Prop}(h:p:=by exact ah (ag (d:=(⟨false,[]⟩:r9)) Zac)):p:=h
theorem Zcs{p:Prop}(h:p:=by simp[Q];omega):p:=h
theorem Zct{p:Prop}(h:p:=by exact aS ⟨Zad,Zad⟩):p:=h
theorem Zcu{p:Prop}(h:p:=by exact jw h2 ⟨Zad,Zad,Zad,Zad,Zad,by first | (solve | simp) | (intro x hx;rw[Zav.1 hx];exact bT rfl)⟩):p:=h
theorem Zcv{p:Prop}(h:p:=by exact (oq (dn rfl _) (by simp only;omega) (fun x hx=>(h2 x hx).1) (by first | exact bO rfl Rc | simp)).1):p:=h
theorem Zcw{p:Prop}(h:p:=by simp only;omega):p:=h
theorem Zcx{p:Prop}(h:p:=by (try dsimp only);repeat (first | assumption | exact bw | exact bT rfl | exact ec rfl (by assumption) | exact o8.drop (by apply And.right;apply And.right;apply And.right;assumption) _ | (apply And.right;apply And.right;apply And.right;assumption) | apply o8.app)):p:=h
theorem Zcy{p:Prop}(h:p:=by first | omega | (simp;omega)):p:=h
theorem Zcz{p:Prop}(h:p:=by (try simp only[Zap,Zar,Zau]);(try have:=bO (n:=11) rfl C4);omega):p:=h
theorem Zc0{p:Prop}(h:p:=by simp only[Zap,Zar,Zau];omega):p:=h
theorem Zc1{p:Prop}(h:p:=by exact ah (ag (d:=r8) Zac)):p:=h
theorem Zc2{p:Prop}(h:p:=by exact ah (ag (d:=(⟨[],[],0⟩:l9)) Zac)):p:=h
theorem Zc3{p:Prop}(h:p:=by (try have:=gL (gs:=gs) hg i k);(try have:=gG (gs:=gs) hg i k);(try simp only[Zap,Zar,Zau]);omega):p:=h
theorem Zc4{p:Prop}(h:p:=by (try dsimp only);repeat (first | assumption | exact bw | exact bT rfl | exact rO hg _ _ | exact qY hg _ _ | exact nF _ | apply o8.app)):p:=h
theorem Zc5{p:Prop}(h:p:=by (try have:=dn (l:=bc) (n:=3) rfl i);(try simp only[Zap,Zar,Zau]);omega):p:=h
theorem Zc6{p:Prop}(h:p:=by (try dsimp only);repeat (first | assumption | exact G5.2.2.2 | exact I2.2.2.2 | exact I0.2.2.2 | exact bw | exact bT rfl | exact M1.2 | exact I1.2.2.2 | exact eJ rfl i | apply o8.app)):p:=h
theorem Zc7{p:Prop}(h:p:=by simp only[Zay];omega):p:=h
theorem Zc8{p:Prop}(h:p:=by first | exact Yt.2.2.2 | (rename_i hq;exact hq.2.2.2) | (apply And.right;apply And.right;apply And.right;assumption)):p:=h
theorem Zc9{p:Prop}(h:p:=by simpa using j8):p:=h
theorem Zda{p:Prop}(h:p:=by simpa using m8):p:=h
theorem Zdb{p:Prop}(h:p:=by exact aU (ay) rfl):p:=h
theorem Zdc{p:Prop}(h:p:=by exact bC (ay) (bJ)):p:=h
theorem Zdd{p:Prop}(h:p:=by exact (Zbm iV (by rw[hz];simp))):p:=h
theorem Zde{p:Prop}(h:p:=by exact aU (by rw[Zaw];exact ay) rfl):p:=h
theorem Zdf{p:Prop}(h:p:=by exact bC (by rw[Zaw];exact ay) (by rw[Zaw];exact bJ)):p:=h
theorem Zdg{p:Prop}(h:p:=by exact Zbm (V.own 3 · g0 o0 c0) (by rw[Zbb (f:=aA)];rfl)):p:=h
theorem Zdh{p:Prop}(h:p:=by exact (bq (f:=av) (fun _=>rfl) _)):p:=h
theorem Zdi{p:Prop}(h:p:=by exact (bX (f:=av) (fun _=>rfl) _)):p:=h
theorem Zdj{p:Prop}(h:p:=by simp only[Zap];omega):p:=h
theorem Zdk{p:Prop}(h:p:=by first | (rw[Za6];simp;omega) | (rw[Za6];simp)):p:=h
theorem Zdl{p:Prop}(h:p:=by exact bg h2 (by simpa using m8)):p:=h
theorem Zdm{p:Prop}(h:p:=by first | (rw[Za6];simp_all;done) | grind):p:=h
theorem Zdn{p:Prop}(h:p:=by first | (refine Zbm iV ?_;simp;done) | (refine Zbm iV ?_;omega)):p:=h
theorem Zdo{p:Prop}(h:p:=by exact gP (by rw[Zaw];exact ag (d:=false) Zac)):p:=h
theorem Zdp{p:Prop}(h:p:=by exact nk (by rw[Zaw];exact ag (d:=false) Zac) (by rw[Zaw];exact(List.map_set ..).symm)):p:=h
theorem Zdq{p:Prop}(h:p:=by intro i h;cases h):p:=h
theorem Zdr{p:Prop}(h:p:=by exact Xr (Zbm (V.own 3 · gr fr cr) (by rw[hz,Zbb];rfl))):p:=h
theorem Zds{p:Prop}(h:p:=by unfold Q;refine Zbm iV ?_;simp):p:=h
theorem Zdt{p:Prop}(h:p:=by exact fR.trans (aU (by rw[Zaw];exact ay) rfl)):p:=h
theorem Zdu{p:Prop}(h:p:=by exact oG (bC (by rw[Zaw];exact ay) (by rw[Zaw];exact bJ))):p:=h
theorem Zdv{p:Prop}(h:p:=by exact Xr (Zbm (V.own 3 · gr fr cr) (by rw[Zbb (f:=aA)];rfl))):p:=h
theorem Zdw{p:Prop}(h:p:=by exact bg h2 (by simpa using l4)):p:=h
theorem Zdx{p:Prop}(h:p:=by first | rfl | exact Zbm iV Zac):p:=h
theorem Zdy{p:Prop}(h:p:=by unfold Q;refine Zbm (V.sl false) ?_;rw[List.map_take,show (max (((a.e9.map sV).length:Int)-1) 0).toNat=a.e9.length-1 from Zal];rfl):p:=h
theorem Zdz{p:Prop}(h:p:=by have:=List.length_pos_iff.2 m8;omega):p:=h
theorem Zd0{p:Prop}(h:p:=by simp only[List.length_take];omega):p:=h
theorem Zd1{p:Prop}(h:p:=by first | exact mM l4 m8 | exact mT l4 m8 | exact mV l4):p:=h
theorem Zd2{p:Prop}(h:p:=by rw[h2,Zay,List.length_take];omega):p:=h
theorem Zd3{p:Prop}(h:p:=by exact (bu (f:=2) rfl).trans (aU (by rw[Zaw];exact ag (d:=j6) Zac) rfl)):p:=h
theorem Zd4{p:Prop}(h:p:=by exact (bu (f:=2) rfl).trans (aU (ag (d:=j6) Zac) rfl)):p:=h
theorem Zd5{p:Prop}(h:p:=by exact I9 (Zbm (V.own 8 · g o c) (gQ (d:=j6) Zac))):p:=h
theorem Zd6{p:Prop}(h:p:=by first | rfl | (exfalso;omega) | (simp only[Zaw]) | (simp;omega)):p:=h
theorem Zd7{p:Prop}(h:p:=by rw[List.take_append_drop];exact hf):p:=h
theorem Zd8{p:Prop}(h:p:=by exact (bu (f:=2) rfl).trans (aU (dj Zac) ((bu (f:=5) rfl).trans (aU (by rw[Zaw];exact ag (d:=l3) Zac) rfl)))):p:=h
theorem Zd9{p:Prop}(h:p:=by exact bq (f:=an) (fun _=>rfl) _):p:=h
theorem Zea{p:Prop}(h:p:=by have:=hy.ta _ (aO (d:=l3) hne);omega):p:=h
theorem Zeb{p:Prop}(h:p:=by exact aM (ag (d:=[]) Zac)):p:=h
theorem Zec{p:Prop}(h:p:=by (try simp only[Zap,Zay,Zar,Zau]);(try have:=Zr);omega):p:=h
theorem Zed{p:Prop}(h:p:=by (try simp only[Zay]at *);try simp only[Zap,Zar,Zay,List.length_take,List.length_drop,Zau]at *;omega):p:=h
theorem Zee{p:Prop}(h:p:=by rw[List.length_set];omega):p:=h
theorem Zef{p:Prop}(h:p:=by exact aM (ag (d:=j6) Zac)):p:=h
theorem Zeg{p:Prop}(h:p:=by exact Rl (I9 (Zbm (V.own 8 · g o c) (gQ (d:=j6) Zac)))):p:=h
theorem Zeh{p:Prop}(h:p:=by rw[Zaw];exact dj Zac):p:=h
theorem Zei{p:Prop}(h:p:=by exact⟨Zac,ag (d:=(0:Int)) (by simp only[Zar,Zau];omega)⟩):p:=h
theorem Zej{p:Prop}(h:p:=by exact (bu (f:=1) rfl).trans ((bu (f:=2) rfl).trans (aU (by rw[Zaw];exact ag (d:=j6) Zac) rfl))):p:=h
theorem Zek{p:Prop}(h:p:=by exact (bu (f:=1) rfl).trans ((bu (f:=2) rfl).trans (aU (by rw[Zaw];exact dj Zac) ((bu (f:=5) rfl).trans (aU (by rw[Zaw];exact ag (d:=l3) Zac) rfl))))):p:=h
theorem Zel{p:Prop}(h:p:=by exact Rl (I9 (Zbm (V.own 8 · g2 o2 c2) (eA (f:=aq) (x:=(C5 w (zs.getD ix j6) b7)) Zac)))):p:=h
theorem Zem{p:Prop}(h:p:=by exact (Zbm iV (by rw[WO.1];exact(Int.toNat_of_nonneg j8.1.1).symm))):p:=h
theorem Zen{p:Prop}(h:p:=by (try simp only[nb]at hG);rw[he]):p:=h
theorem Zeo{p:Prop}(h:p:=by exact aM fun i=>by have:=hz i;exact⟨by have:=this.a;omega,by have:=this.l;omega⟩):p:=h
theorem Zep{p:Prop}(h:p:=by have:=(M3.2.1 x hx).1;omega):p:=h
theorem Zeq{p:Prop}(h:p:=by rw[mZ,aW (f:=sV) (fun _=>rfl),aW (f:=aT) (fun _=>rfl)]):p:=h
theorem Zer{p:Prop}(h:p:=by exact zh Zac Zac (fun x hx=>⟨by have:=(M3.2.1 x hx).1;omega,(M3.2.1 x hx).2⟩)):p:=h
theorem Zes{p:Prop}(h:p:=by exact I9 (Zbm (V.own 8 · g2 o2 c2) (gQ (d:=j6) Zac))):p:=h
theorem Zet{p:Prop}(h:p:=by (try simp only[Zap,Zay,Zar,Zau]);(try have hQ3:=x6.2.2.1.e);(try have hQ4:=x6.2.2.1.l);omega):p:=h
theorem Zeu{p:Prop}(h:p:=by first | rw[wu w6] | (rw[vn w6 D1];rfl) | (rw[vr w6 D1];rfl)):p:=h
theorem Zev{p:Prop}(h:p:=by unfold Q;refine Zbm (V.gv _) (Zbm (V.sl false) ?_);rw[List.map_take];simp):p:=h
theorem Zew{p:Prop}(h:p:=by (try simp only[nb]at hG);simp only[List.length_take];omega):p:=h
end Go
namespace Go.Proofs.YtjkdagkclihpjaaGreatDoor
open Go Go.RowKit
set_option maxRecDepth 20000
inductive m4 where
 | slot (i:Nat)
 | key (k:Nat)
 deriving DecidableEq
inductive V where
 | lit (x:Value)
 | agg (vs:List V)
 | tup (vs:List V)
 | sl (full:Bool) (xs:List V)
 | own (sz:Nat) (xs:List V) (g o c:Nat)
 | ow (sz:Nat) (xs:List V)
 | om (es:List (BL×Value)) (g:Nat)
 | mp (es:List (BL×Value))
 | hd (r:m4) (p:List Nat) (sz g o lo n c:Nat)
 | ptr (r:m4) (p:List Nat) (g o:Nat)
 | ep (v:V)
 | c9
 | gv (b:Bool) (v:V)
mutual
def V.n:V->Nat
 | .agg vs=>V.ns vs
 | _=>1
def V.ns:List V->Nat
 | []=>0
 | v::vs=>v.n+V.ns vs
end
def aR(sz:Nat)(xs:List V):Prop:= ∀ x∈xs,x.n=sz
def Blk(w:World)(g:Nat)(cells:Array Value):Prop:=
 ∃ e fr,w.heap[g]? =some (.cells cells e fr)/\∀ i,i<cells.size->¬ (fr.1<=i/\i<fr.2)
def vM(w:World)(g:Nat)(es:List (BL×Value)):Prop:=
 ∃ en cl,w.heap[g]? =some (.map en cl)/\en.toList.map (fun e=>(e.key,e.val))=es.map (fun p=>(.string ⟨p.1.toArray⟩,p.2))/\(en.toList.map (·.born)).Nodup/\∀ e∈en.toList,e.born<cl
mutual
def R(w:World)(Pb:Nat->Prop):V->List Value->List Nat->Prop
 | .lit x,cs,F=>x.oneCell'=true/\cs=[x]/\F=[]
 | .agg vs,cs,F=>RL w Pb vs cs F
 | .tup _,_,_=>False
 | .gv _ _,_,_=>False
 | .sl full xs,cs,F=>F=[]/\∃ A c,cs=[.slice A xs.length c]/\xs.length<=c/\(full=true->c=xs.length)/\
  (xs=[]\/∃ b o sz flat,A=some ⟨b,o,none⟩/\Pb b/\0<sz/\aR sz xs/\RL w Pb xs flat []/\
   ∀ j u,flat[j]? =some u->w.cell? ⟨b,o+j,none⟩=some u)
 | .own sz xs g o c,cs,F=>(c=0/\xs=[]/\F=[]/\∃ A,cs=[.slice A 0 0])\/
  (0<c/\0<sz/\xs.length<=c/\cs=[.slice (some ⟨g,o,none⟩) xs.length c]/\aR sz xs/\¬ Pb g/\
   ∃ flat F' cells,F=g::F'/\RL w Pb xs flat F'/\Blk w g cells/\o+c*sz<=cells.size/\
     ∀ j u,flat[j]? =some u->cells[o+j]? =some u)
 | .ow sz xs,cs,F=> ∃ g o c,(c=0/\xs=[]/\F=[]/\∃ A,cs=[.slice A 0 0])\/
  (0<c/\0<sz/\xs.length<=c/\cs=[.slice (some ⟨g,o,none⟩) xs.length c]/\aR sz xs/\¬ Pb g/\
   ∃ flat F' cells,F=g::F'/\RL w Pb xs flat F'/\Blk w g cells/\o+c*sz<=cells.size/\
     ∀ j u,flat[j]? =some u->cells[o+j]? =some u)
 | .om es g,cs,F=>F=[g]/\cs=[.map (some g)]/\¬ Pb g/\vM w g es
 | .mp es,cs,F=>F=[]/\∃ g,cs=[.map (some g)]/\Pb g/\vM w g es
 | .hd _ _ sz g o lo n c,cs,F=>F=[]/\n<=c/\∃ A,cs=[.slice A n c]/\(0<c->A=some ⟨g,o+lo*sz,none⟩)
 | .ptr _ _ g o,cs,F=>F=[]/\cs=[.pointer (some ⟨g,o,none⟩)]
 | .ep v,cs,F=>F=[]/\∃ b o flat,cs=[.pointer (some ⟨b,o,none⟩)]/\Pb b/\R w Pb v flat []/\
  ∀ j u,flat[j]? =some u->w.cell? ⟨b,o+j,none⟩=some u
 | .c9,cs,F=>F=[]/\∃ x,cs=[x]/\x.oneCell'=true
def RL(w:World)(Pb:Nat->Prop):List V->List Value->List Nat->Prop
 | [],cs,F=>cs=[]/\F=[]
 | v::vs,cs,F=> ∃ c1 c2 F1 F2,cs=c1++c2/\F=F1++F2/\R w Pb v c1 F1/\RL w Pb vs c2 F2
end
section
variable {w w':World} {Pb Pb':Nat->Prop}
theorem GA{sz:Nat}{xs:List V}{cs:List Value}{F:List Nat}:R w Pb (.ow sz xs) cs F↔∃ g o c,R w Pb (.own sz xs g o c) cs F:=by simp only[R]
theorem vM.fc{g:Nat}{es:List (BL×Value)}(h:vM w g es)(k:w'.heap[g]? =w.heap[g]?):vM w' g es:=by
 obtain⟨en,cl,h1,h2⟩:=h;exact⟨en,cl,k.trans h1,h2⟩
mutual
theorem eH:∀ (v:V) {cs F},R w Pb v cs F->cs.length=v.n
 | .lit x,cs,F,h=>by obtain⟨_,rfl,_⟩:=h;rfl
 | .agg vs,cs,F,h=>by simp only[R]at h;simpa[V.n] using jj vs h
 | .tup _,_,_,h=>by simp[R]at h
 | .gv _ _,_,_,h=>by simp[R]at h
 | .sl _ xs,cs,F,h=>by obtain⟨_,A,c,rfl,_⟩:=h;rfl
 | .own sz xs g o c,cs,F,h=>by
  rcases h with ⟨_,_,_,A,rfl⟩ | ⟨_,_,_,rfl,_⟩ <;> rfl
 | .ow sz xs,cs,F,h=>by
  obtain⟨g,o,c,h⟩:=h;rcases h with ⟨_,_,_,A,rfl⟩ | ⟨_,_,_,rfl,_⟩ <;> rfl
 | .om ..,cs,F,h=>by obtain⟨_,rfl,_⟩:=h;rfl
 | .mp _,cs,F,h=>by obtain⟨_,g,rfl,_⟩:=h;rfl
 | .hd ..,cs,F,h=>by obtain⟨_,_,A,rfl,_⟩:=h;rfl
 | .ptr ..,cs,F,h=>by obtain⟨_,rfl⟩:=h;rfl
 | .ep v,cs,F,h=>by obtain⟨_,b,o,flat,rfl,_⟩:=h;rfl
 | .c9,cs,F,h=>by obtain⟨_,x,rfl,_⟩:=h;rfl
theorem jj:∀ (vs:List V) {cs F},RL w Pb vs cs F->cs.length=V.ns vs
 | [],cs,F,h=>by obtain⟨rfl,_⟩:=h;rfl
 | v::vs,cs,F,h=>by
     obtain⟨c1,c2,F1,F2,rfl,_,h1,h2⟩:=h;simp[V.ns,eH v h1,jj vs h2]
end
mutual
theorem gF:∀ (v:V) {cs F},R w Pb v cs F->(∀ g,Pb g->w'.heap[g]? =w.heap[g]?)->(∀ g,g∈F->w'.heap[g]? =w.heap[g]?)->
 (∀ g,Pb g->Pb' g)->(∀ g,g∈F->¬ Pb' g)->R w' Pb' v cs F
 | .lit x,cs,F,h,_,_,_,_=>h
 | .agg vs,cs,F,h,k1,k2,k3,k4=>by simp only[R]at h ⊢;exact eF vs h k1 k2 k3 k4
 | .tup _,_,_,h,_,_,_,_=>by simp[R]at h
 | .gv _ _,_,_,h,_,_,_,_=>by simp[R]at h
 | .sl full xs,cs,F,h,k1,_,k3,_=>by
  obtain⟨hF,A,c,hc,hl,hf,hx⟩:=h;refine⟨hF,A,c,hc,hl,hf,?_⟩;rcases hx with hx | ⟨b,o,sz,flat,hA,hb,hs,hn,hr,u0⟩;exact .inl hx;exact .inr ⟨b,o,sz,flat,hA,k3 b hb,hs,hn,eF xs hr k1 Zad k3 Zad,fun j u hu=>by
   rw[<- u0 j u hu];exact World.cell?_of_block (w:=w) (k1 b hb)⟩
 | .own sz xs g o c,cs,F,h,k1,k2,k3,k4=>by
  rcases h with h | ⟨h1,h2,h3,h4,h5,h6,flat,F',cells,hF,hr,⟨e,fr,hb,hfr⟩,hsz,u0⟩;exact .inl h;subst hF
  exact .inr ⟨h1,h2,h3,h4,h5,k4 g Zad,flat,F',cells,rfl,eF xs hr k1 (fun g hg=>k2 g (by simp[hg])) k3 (fun g hg=>k4 g (by simp[hg])),
   ⟨e,fr,(k2 g Zad).trans hb,hfr⟩,hsz,u0⟩
 | .ow sz xs,cs,F,h,k1,k2,k3,k4=>by
  obtain⟨g,o,c,h⟩:=h;refine⟨g,o,c,?_⟩;rcases h with h | ⟨h1,h2,h3,h4,h5,h6,flat,F',cells,hF,hr,⟨e,fr,hb,hfr⟩,hsz,u0⟩;exact .inl h;subst hF
  exact .inr ⟨h1,h2,h3,h4,h5,k4 g Zad,flat,F',cells,rfl,eF xs hr k1 (fun g hg=>k2 g (by simp[hg])) k3 (fun g hg=>k4 g (by simp[hg])),
   ⟨e,fr,(k2 g Zad).trans hb,hfr⟩,hsz,u0⟩
 | .om es g,cs,F,h,_,k2,_,k4=>by
  obtain⟨rfl,h1,h2,h3⟩:=h;exact⟨rfl,h1,k4 g Zad,h3.fc (k2 g Zad)⟩
 | .mp es,cs,F,h,k1,_,k3,_=>by
  obtain⟨h0,g,h1,h2,h3⟩:=h;exact⟨h0,g,h1,k3 g h2,h3.fc (k1 g h2)⟩
 | .hd ..,cs,F,h,_,_,_,_=>h
 | .ptr ..,cs,F,h,_,_,_,_=>h
 | .ep v,cs,F,h,k1,_,k3,_=>by
  obtain⟨hF,b,o,flat,hc,hb,hr,u0⟩:=h;exact⟨hF,b,o,flat,hc,k3 b hb,gF v hr k1 Zad k3 Zad,fun j u hu=>by
   rw[<- u0 j u hu];exact World.cell?_of_block (w:=w) (k1 b hb)⟩
 | .c9,cs,F,h,_,_,_,_=>h
theorem eF:∀ (vs:List V) {cs F},RL w Pb vs cs F->(∀ g,Pb g->w'.heap[g]? =w.heap[g]?)->(∀ g,g∈F->w'.heap[g]? =w.heap[g]?)->
 (∀ g,Pb g->Pb' g)->(∀ g,g∈F->¬ Pb' g)->RL w' Pb' vs cs F
 | [],cs,F,h,_,_,_,_=>h
 | v::vs,cs,F,h,k1,k2,k3,k4=>by
     obtain⟨c1,c2,F1,F2,hc,rfl,h1,h2⟩:=h
     exact⟨c1,c2,F1,F2,hc,rfl,gF v h1 k1 (fun g hg=>k2 g (by simp[hg])) k3 (fun g hg=>k4 g (by simp[hg])),
      eF vs h2 k1 (fun g hg=>k2 g (by simp[hg])) k3 (fun g hg=>k4 g (by simp[hg]))⟩
end
end
structure AS where
 t:List (Nat×V)
 h:List (Nat×(Nat×V))
def lk{α:Type}(i:Nat):List (Nat×α)->Option α
 | []=>none
 | (k,v)::r=>if i=k then some v else lk i r
def AS.get(A:AS)(i:Nat):V:=(lk i A.t).getD .c9
def AS.put(A:AS)(d:Option Nat)(v:V):AS:=match d with | some d=>{ A with t:=(d,v)::A.t } | none=>A
theorem AS.aC(A:AS)(d i:Nat)(v:V):(A.put (some d) v).get i=if i=d then v else A.get i:=by
 simp only[AS.get,AS.put,lk];split <;> rfl
def RVs(w:World)(Pb:Nat->Prop):List V->List Value->List Nat->Prop
 | [],xs,F=>xs=[]/\F=[]
 | v::vs,xs,F=> ∃ x xs' F1 F2,xs=x::xs'/\F=F1++F2/\(match v with
     | .agg us=> ∃ cs,x=.agg cs/\RL w Pb us cs.toList F1
     | .c9=>F1=[]
     | v=>R w Pb v [x] F1)/\RVs w Pb vs xs' F2
def WC(w:World)(Pb:Nat->Prop)(v:V)(x:Value)(F:List Nat):Prop:=
 match v with
 | .tup vs=> ∃ xs:Array Value,x=.tuple xs/\RVs w Pb vs xs.toList F
 | .agg us=> ∃ cs,x=.agg cs/\RL w Pb us cs.toList F
 | .c9=>F=[]
 | v=>R w Pb v [x] F
def RV(w:World)(Pb:Nat->Prop)(v:V)(x:Value)(F:List Nat):Prop:=
 match v with
 | .gv b u=>F=[]/\(b=true->WC w Pb u x [])/\(b=false->x=undef)
 | v=>WC w Pb v x F
theorem uh{w w':World}{Pb Pb':Nat->Prop}:∀ (vs:List V) {xs F},RVs w Pb vs xs F->(∀ g,Pb g->w'.heap[g]? =w.heap[g]?)->(∀ g,g∈F->w'.heap[g]? =w.heap[g]?)->
 (∀ g,Pb g->Pb' g)->(∀ g,g∈F->¬ Pb' g)->RVs w' Pb' vs xs F
 | [],_,_,h,_,_,_,_=>h
 | v::vs,xs,F,h,k1,k2,k3,k4=>by
   obtain⟨x,xs',F1,F2,hx,rfl,h1,h2⟩:=h;refine⟨x,xs',F1,F2,hx,rfl,?_,uh vs h2 k1 (fun g hg=>k2 g (by simp[hg])) k3 (fun g hg=>k4 g (by simp[hg]))⟩;cases v with
   | agg us=>obtain⟨cs,e,h1⟩:=h1;exact⟨cs,e,eF us h1 k1 (fun g hg=>k2 g (by simp[hg])) k3 (fun g hg=>k4 g (by simp[hg]))⟩
   | c9=>exact h1
   | _=>exact gF _ h1 k1 (fun g hg=>k2 g (by simp[hg])) k3 (fun g hg=>k4 g (by simp[hg]))
theorem fD{w w':World} {Pb Pb':Nat->Prop} (v:V) {x F} (h:WC w Pb v x F) (k1:∀ g,Pb g->w'.heap[g]? =w.heap[g]?) (k2:∀ g,g∈F->w'.heap[g]? =w.heap[g]?)
 (k3:∀ g,Pb g->Pb' g) (k4:∀ g,g∈F->¬ Pb' g):WC w' Pb' v x F:=by
 cases v with
 | tup vs=>obtain⟨xs,e,h⟩:=h;exact⟨xs,e,uh vs h k1 k2 k3 k4⟩
 | agg us=>obtain⟨cs,e,h⟩:=h;exact⟨cs,e,eF us h k1 k2 k3 k4⟩
 | c9=>exact h
 | _=>exact gF _ h k1 k2 k3 k4
theorem mN{w w':World} {Pb Pb':Nat->Prop} (v:V) {x F} (h:RV w Pb v x F) (k1:∀ g,Pb g->w'.heap[g]? =w.heap[g]?) (k2:∀ g,g∈F->w'.heap[g]? =w.heap[g]?)
 (k3:∀ g,Pb g->Pb' g) (k4:∀ g,g∈F->¬ Pb' g):RV w' Pb' v x F:=by
 cases v with
 | gv b u=>obtain⟨hF,h1,h2⟩:=h;exact⟨hF,fun hb=>fD u (h1 hb) k1 Zad k3 Zad,h2⟩
 | tup vs=>exact fD (.tup vs) h k1 k2 k3 k4
 | agg us=>exact fD (.agg us) h k1 k2 k3 k4
 | c9=>exact h
 | own sz xs g o c=>exact fD (.own sz xs g o c) h k1 k2 k3 k4
 | ow sz xs=>exact fD (.ow sz xs) h k1 k2 k3 k4
 | om es g=>exact fD (.om es g) h k1 k2 k3 k4
 | mp es=>exact fD (.mp es) h k1 k2 k3 k4
 | lit x=>exact fD (.lit x) h k1 k2 k3 k4
 | sl f xs=>exact fD (.sl f xs) h k1 k2 k3 k4
 | hd r p sz g o lo n c=>exact fD (.hd r p sz g o lo n c) h k1 k2 k3 k4
 | ptr r p g o=>exact fD (.ptr r p g o) h k1 k2 k3 k4
 | ep v=>exact fD (.ep v) h k1 k2 k3 k4
def Shp(w w':World):Prop:= ∀ (g:Nat) (c:Array Value) (e:TypeId) (fr:Nat×Nat),w.heap[g]? =some (.cells c e fr)->∃ c':Array Value,w'.heap[g]? =some (.cells c' e fr)/\c'.size=c.size
theorem Shp.refl(w:World):Shp w w:=fun _ c _ _ h=>⟨c,h,rfl⟩
theorem Shp.trans{a b c:World}(h:Shp a b)(k:Shp b c):Shp a c:=fun g x e fr hx=>by
 obtain⟨y,h1,h2⟩:=h g x e fr hx;obtain⟨z,k1,k2⟩:=k g y e fr h1;exact⟨z,k1,k2.trans h2⟩
theorem Shp.of_eq{w w':World}(h:∀ g:Nat,g<w.heap.size->w'.heap[g]? =w.heap[g]?):Shp w w':=fun g c e fr hc=>by
 have hl:g<w.heap.size:=(Zbh.1 hc).1;exact⟨c,(h g hl).trans hc,rfl⟩
structure A4 (Pb:Nat->Prop) (w w':World):Prop where
 os:w'.os=w.os
 tape:w'.tape=w.tape
 output:w'.output=w.output
 size:w.heap.size<=w'.heap.size
 block:∀ g,Pb g->w'.heap[g]? =w.heap[g]?
 shape:Shp w w'
theorem A4.refl(Pb:Nat->Prop)(w:World):A4 Pb w w:=⟨rfl,rfl,rfl,Zbc _,fun _ _=>rfl,Shp.refl _⟩
theorem A4.trans{Pb Pb':Nat->Prop}{a b c:World}(h:A4 Pb a b)(k:A4 Pb' b c)(hp:∀ g,Pb g->Pb' g):A4 Pb a c:=
 ⟨k.os.trans h.os,k.tape.trans h.tape,k.output.trans h.output,Nat.le_trans h.size k.size,fun g hg=>(k.block g (hp g hg)).trans (h.block g hg),h.shape.trans k.shape⟩
def At(w:World)(Pb:Nat->Prop)(v:V)(g o:Nat)(F:List Nat):Prop:=
 ∃ cs cells,Blk w g cells/\R w Pb v cs F/\∀ j u,cs[j]? =some u->cells[o+j]? =some u
structure w3 (N:Nat) (Pb Kb:Nat->Prop) (A:AS) (a:Act) (w:World) (F:m4->List Nat):Prop where
 size:a.tmps.size=N
 defers:a.defers=[]
 slot:∀ i,RV w Pb (A.get i) (a.tmps.getD i undef) (F (.slot i))
 root:∀ k g v,lk k A.h=some (g,v)->∃ F',F (.key k)=g::F'/\At w Pb v g 0 F'
 cm:∀ r r',r≠r'->∀ g,g∈F r->g ∉ F r'
 nodup:∀ r,(F r).Nodup
 free:∀ r g,g∈F r->¬ Kb g/\g<w.heap.size
 sub:∀ g,Pb g->Kb g
 bound:∀ g,Kb g->g<w.heap.size
def Nx(N:Nat)(Pb Kb:Nat->Prop)(w:World)(K:AS->Prop)(a':Act)(w':World):Prop:=
 ∃ A' Pb' E7 F',K A'/\w3 N Pb' E7 A' a' w' F'/\(∀ g,Pb g->Pb' g)/\(∀ g,Kb g->E7 g)/\(∀ g,Pb' g->Pb g\/¬ Kb g)/\A4 Kb w w'
def ck(F:m4->List Nat)(r:m4)(l:List Nat):m4->List Nat:=fun r'=>if r'=r then l else F r'
theorem w3.put{N:Nat} {Pb Kb:Nat->Prop} {A:AS} {a:Act} {w:World} {F:m4->List Nat} (h:w3 N Pb Kb A a w F) {d:Nat} {v:V} {x:Value} {F':List Nat}
 (hd:d<N) (hv:RV w Pb v x F') (h1:∀ r,r≠.slot d->∀ g,g∈F'->g ∉ F r) (h2:F'.Nodup) (h3:∀ g,g∈F'->¬ Kb g/\g<w.heap.size):
 w3 N Pb Kb (A.put (some d) v) (a.put (some d) x) w (ck F (.slot d) F') where
 size:=by simp[Act.put,h.size]
 defers:=by simpa[Act.put] using h.defers
 slot:=fun i=>by
  rw[AS.aC];by_cases e:i=d;subst e;simp only[if_true,ck];have hx:(a.put (some i) x).tmps.getD i undef=x:=by simp[Act.put,h.size,hd]
  rw[hx];exact hv;have hne:m4.slot i≠m4.slot d:=fun c=>e (by injection c);simp only[if_neg e,ck,if_neg hne];have hx:(a.put (some d) x).tmps.getD i undef=a.tmps.getD i undef:=by
   simp[Act.put,Array.getElem?_setIfInBounds_ne (Ne.symm e)]
  rw[hx];exact h.slot i
 root:=fun k g v hk=>by
  obtain⟨PX,e,hr⟩:=h.root k g v hk;exact⟨PX,by simpa[ck] using e,hr⟩
 cm:=fun r r' hne g hg=>by
  simp only[ck]at hg ⊢;by_cases e:r=.slot d;subst e;rw[if_neg (Ne.symm hne)];simp only[if_true]at hg;exact h1 r' (Ne.symm hne) g hg;rw[if_neg e]at hg;by_cases e':r'=.slot d;rw[if_pos e'];exact fun R7=>h1 r e g R7 hg;rw[if_neg e'];exact h.cm r r' hne g hg
 nodup:=fun r=>by
  simp only[ck];split;exact h2;exact h.nodup r
 free:=fun r g hg=>by
  simp only[ck]at hg;split at hg;exact h3 g hg;exact h.free r g hg
 sub:=h.sub
 bound:=h.bound
def cI(N:Nat)(d:Option Nat):Prop:=match d with | some d=>d<N | none=>True
theorem w3.pF{N:Nat} {Pb Kb:Nat->Prop} {A:AS} {a:Act} {w:World} {F:m4->List Nat} (h:w3 N Pb Kb A a w F) {d:Option Nat} {v:V} {x:Value}
 (hd:cI N d) (hv:RV w Pb v x []):∃ F',w3 N Pb Kb (A.put d v) (a.put d x) w F':=by
 cases d with
 | none=>exact⟨F,h⟩
 | some d=>exact⟨_,h.put hd hv Zad Zad Zad⟩
def F9(P:Program)(N:Nat)(o:Oper)(A:AS)(K:AS->Prop):Prop:=
 ∀ Pb Kb a w F Q,w3 N Pb Kb A a w F->o.wp P a w (Nx N Pb Kb w K) Q
theorem jl{P:Program} {N:Nat} {o:Oper} {A:AS} {K:AS->Prop} {v:V} (hd:cI N o.dst) (hK:K (A.put o.dst v))
 (h:∀ Pb Kb a w F,w3 N Pb Kb A a w F->∃ x,(execOp a.eval o).run P w=.ok (.value x) w/\RV w Pb v x []):F9 P N o A K:=by
 intro Pb Kb a w F Q hs;obtain⟨x,hx,hr⟩:=h Pb Kb a w F hs;unfold Oper.wp;rw[hx,Oper.upon_value];obtain⟨F',B0⟩:=hs.pF hd hr;exact⟨_,Pb,Kb,F',hK,B0,fun _ h=>h,fun _ h=>h,fun _ h=>.inl h,A4.refl _ _⟩
inductive D where
 | int (k:IntKind) | bool | str | ptr (e:Nat) | sl (e:Nat) | arr (n e:Nat) | map (k e:Nat) | st (fs:List (Nat×Nat)) | other
 deriving DecidableEq
structure TI where
 sz:Nat
 O0:Nat
 d:D
def dG:TypeDesc->D
 | .int k=>.int k | .bool=>.bool | .string=>.str | .pointer e=>.ptr e | .slice e=>.sl e | .array n e=>.arr n e | .map k e=>.map k e
 | .struct fs=>.st (fs.toList.map fun f=>(f.offset,f.type))
 | _=>.other
def ti(P:Program)(T:Nat):Option TI:=match P.info? T,P.underlying T with | some i,some d=>some ⟨i.size,i.bytes,dG d⟩ | _,_=>none
def D.agg:D->Bool | .st _ | .arr _ _=>true | _=>false
theorem jy{P:Program}{T:Nat}{i:TI}(h:ti P T=some i):∃ inf d,P.info? T=some inf/\P.underlying T=some d/\inf.size=i.sz/\inf.bytes=i.O0/\dG d=i.d:=by
 unfold ti at h;cases h1:P.info? T with
 | none=>simp[h1]at h
 | some inf=>cases h2:P.underlying T with
   | none=>simp[h1,h2]at h
   | some d=>simp[h1,h2]at h;subst h;exact⟨inf,d,rfl,rfl,rfl,rfl,rfl⟩
def Vp:Value->V
 | .slice none 0 0=>.sl true []
 | x=>.lit x
def cV:Value->V
 | .agg cs=>if cs.toList.all (·.oneCell') then .agg (cs.toList.map Vp) else .c9
 | .tuple _=>.c9
 | x=>Vp x
def AS.ev(A:AS):Operand->V
 | .tmp i=>A.get i
 | .const v=>cV v
 | .global g=>.ptr (.key (9000+g)) [] g 0
 | .func f=>.lit (.func (.func f) #[] #[])
mutual
def V.Ti(r:m4)(p:List Nat):V->V
 | .own sz xs g o c=>.hd r p sz g o 0 xs.length c
 | .ow .. =>.c9
 | .om _ g=>.lit (.map (some g))
 | .agg vs=>.agg (V.Hm r p 0 vs)
 | v=>v
def V.Hm(r:m4)(p:List Nat)(j:Nat):List V->List V
 | []=>[]
 | v::vs=>v.Ti r (p++[j])::V.Hm r p (j+1) vs
end
mutual
def V.df:V->Bool
 | .own .. =>true
 | .ow .. =>true
 | .om .. =>true
 | .agg vs=>V.ax vs
 | .tup vs=>V.ax vs
 | _=>false
def V.ax:List V->Bool
 | []=>false
 | v::vs=>v.df||V.ax vs
end
def V.cp(r:m4):V->V
 | .tup _=>.c9
 | .gv _ _=>.c9
 | v=>v.Ti r []
def Df(A:AS)(x:Operand)(y:V):V:=
 match A.ev x with
 | .tup vs=>if V.ax vs=true then .c9 else .tup vs
 | _=>y
def AS.cp(A:AS):Operand->V
 | .tmp i=>(A.get i).cp (.slot i)
 | x=>A.ev x
def jT(op:BinOp)(k:IntKind)(a b:Int):Option (Prop×V):=
 match op with
 | .add=>some (True,.lit (.int k (k.wrap (a+b))))
 | .sub=>some (True,.lit (.int k (k.wrap (a-b))))
 | .mul=>some (True,.lit (.int k (k.wrap (a*b))))
 | .quo=>some (b≠0,.lit (.int k (k.wrap (a.tdiv b))))
 | .rem=>some (b≠0,.lit (.int k (a.tmod b)))
 | .eql=>some (True,.lit (.bool (a==b)))
 | .neq=>some (True,.lit (.bool (a != b)))
 | .lss=>some (True,.lit (.bool (decide (a<b))))
 | .leq=>some (True,.lit (.bool (decide (a<=b))))
 | .gtr=>some (True,.lit (.bool (decide (a>b))))
 | .geq=>some (True,.lit (.bool (decide (a>=b))))
 | .and=>some (True,.lit (.int k (k.wrap ((BitVec.ofInt k.bits a &&& BitVec.ofInt k.bits b).toNat))))
 | .xor=>some (True,.lit (.int k (k.wrap ((BitVec.ofInt k.bits a ^^^ BitVec.ofInt k.bits b).toNat))))
 | .shr=>some (0<=b,.lit (.int k (a.fdiv (2 ^ min b.toNat k.bits))))
 | .shl=>some (0<=b,.lit (.int k (k.wrap (a*2 ^ min b.toNat k.bits))))
 | _=>none
def Td(k:IntKind)(n:Int):Prop:=
 match k with
 | .i64=> -9223372036854775808<=n/\n<=9223372036854775807
 | .i32=> -2147483648<=n/\n<=2147483647
 | .u8=>0<=n/\n<=255
 | k=>k.wrap n=n
def wD(op:BinOp)(k:IntKind)(a b:Int):Option (Prop×V):=
 match op with
 | .add=>some (Td k (a+b),.lit (.int k (a+b)))
 | .sub=>some (Td k (a-b),.lit (.int k (a-b)))
 | .mul=>some (Td k (a*b),.lit (.int k (a*b)))
 | .quo=>some (0<=a/\0<b/\Td k a,.lit (.int k (a / b)))
 | .rem=>some (0<=a/\0<b,.lit (.int k (a % b)))
 | .and=>some (0<=a/\0<=b/\Td k a/\Td k b,.lit (.int k ((a.toNat &&& b.toNat:Nat):Int)))
 | .xor=>some (0<=a/\0<=b/\Td k a/\Td k b,.lit (.int k ((a.toNat ^^^ b.toNat:Nat):Int)))
 | .shr=>some (0<=b/\b<k.bits,.lit (.int k (a.fdiv (2 ^ b.toNat))))
 | op=>jT op k a b
def xj(op:BinOp)(a b:ByteArray):Option (Prop×V):=
 match op with
 | .add=>some (a.size+b.size<=4611686018427387904,.lit (.string (a++b)))
 | .eql=>some (True,.lit (.bool (a.toList==b.toList)))
 | .neq=>some (True,.lit (.bool (!(a.toList==b.toList))))
 | _=>none
def Da(op:BinOp)(a b:Bool):Option (Prop×V):=
 match op with
 | .eql=>some (True,.lit (.bool (a==b)))
 | .neq=>some (True,.lit (.bool (!(a==b))))
 | _=>none
def um(op:BinOp)(d:Option D)(x y:V):Option (Prop×V):=
 match d,x,y with
 | some (.int _),.lit (.int k a),.lit (.int k' b)=>if op=.shr\/op=.shl then wD op k a b else if k=k' then wD op k a b else none
 | some .str,.lit (.string a),.lit (.string b)=>xj op a b
 | some .bool,.lit (.bool a),.lit (.bool b)=>Da op a b
 | _,_,_=>none
def ZG(op:UnOp)(x:V):Option (Prop×V):=
 match op,x with
 | .not,.lit (.bool b)=>some (True,.lit (.bool (!b)))
 | .neg,.lit (.int k n)=>some (Td k (-n),.lit (.int k (-n)))
 | _,_=>none
def tD(P:Program)(T:Nat):Option D:=(ti P T).map (·.d)
def Zy:V->Bool×V
 | .gv b v=>(b,v)
 | v=>(true,v)
def Dk(A:AS)(a b:Operand):V->Option (Prop×V)
 | .lit (.bool c)=>match Zy (A.ev a),Zy (A.ev b) with
   | (ga,.lit (.bool x)),(gb,.lit (.bool y))=>some ((c=true->ga=true)/\(c=false->gb=true),.lit (.bool (cond c x y)))
   | _,_=>none
 | _=>none
def Iz:Option D->Option D->V->Option (Prop×V)
 | some (.int _),some (.int k),.lit (.int _ n)=>some (Td k n,.lit (.int k n))
 | some .str,some .str,.lit (.string s)=>some (True,.lit (.string s))
 | _,_,_=>none
def btV(s:ByteArray)(i:Int):V:=.lit (.int .u8 (s.data.getD i.toNat 0).toNat)
def Hf:Option D->V->V->Option (Prop×V)
 | some .str,.lit (.string s),.lit (.int _ i)=>some (0<=i/\i<s.size,btV s i)
 | _,_,_=>none
def WK:Option V->Option Int
 | none=>some 0
 | some (.lit (.int _ l))=>some l
 | _=>none
def Wa(n:Nat):Option V->Option Int
 | none=>some n
 | some (.lit (.int _ l))=>some l
 | _=>none
def Hj(s:ByteArray)(lo hi:Option V):Option (Prop×V):=
 match WK lo,Wa s.size hi with
 | some l,some h=>some (0<=l/\l<=h/\h<=s.size,.lit (.string (s.extract l.toNat h.toNat)))
 | _,_=>none
def CW(d:Option D)(x:V)(lo hi:Option V):Option (Prop×V):=
 match d,x with
 | some .str,.lit (.string s)=>Hj s lo hi
 | _,_=>none
def Ab:Option D->V->Option (Prop×V)
 | some .str,.lit (.string s)=>some (True,.lit (.int .i64 s.size))
 | some (.sl _),.sl _ xs=>some (True,.lit (.int .i64 xs.length))
 | some (.sl _),.own _ xs _ _ _=>some (True,.lit (.int .i64 xs.length))
 | some (.sl _),.hd _ _ _ _ _ _ n _=>some (True,.lit (.int .i64 n))
 | _,_=>none
def GN:V->Nat->Option (Prop×V)
 | .tup vs,i=>match vs[i]? with
   | some v=>if v.df then none else some (True,v)
   | none=>none
 | _,_=>none
def DW:V->V->Option (Prop×V)
 | .lit (.int k a),.lit (.int k' b)=>if k=k' then some (True,.lit (.int k (max a b))) else none
 | _,_=>none
def vp(P:Program)(A:AS)(c:Call):Option (Prop×V):=
 match c.callee with
 | .builtin .len=>match c.args.toList,c.argTypes.toList with
   | [x],[T]=>Ab (tD P T) (A.ev x)
   | _,_=>none
 | .builtin .max=>match c.args.toList with
   | [x,y]=>DW (A.ev x) (A.ev y)
   | _=>none
 | _=>none
def RE(P:Program)(A:AS):Op->Option (Prop×V)
 | .move x=>some (True,Df A x (A.cp x))
 | .pick c a b=>Dk A a b (A.ev c)
 | .binOp op T x y _=>um op (tD P T) (A.ev x) (A.ev y)
 | .unOp op _ x=>ZG op (A.ev x)
 | .convert s d x=>Iz (tD P s) (tD P d) (A.ev x)
 | .index T x i=>Hf (tD P T) (A.ev x) (A.ev i)
 | .slice T x lo hi none=>CW (tD P T) (A.ev x) (lo.map A.ev) (hi.map A.ev)
 | .call c=>vp P A c
 | .extract x i=>GN (A.ev x) i
 | _=>none
section
variable {w:World} {Pb:Nat->Prop}
mutual
theorem kC(r:m4):∀ (v:V) (p:List Nat) {cs F},R w Pb v cs F->R w Pb (v.Ti r p) cs []
 | .own sz xs g o c,p,cs,F,h=>by
   rcases h with ⟨h1,h2,h3,A,h4⟩ | ⟨h1,h2,h3,h4,_⟩;subst h1 h2;exact⟨rfl,Zbc _,A,h4,fun h=>absurd h Zac⟩;exact⟨rfl,h3,_,h4,fun _=>by simp⟩
 | .ow ..,_,_,_,h=>by
   obtain⟨g,o,c,h⟩:=h;rcases h with ⟨h1,h2,h3,A,h4⟩ | ⟨h1,h2,h3,h4,_⟩;exact⟨rfl,_,h4,rfl⟩;exact⟨rfl,_,h4,rfl⟩
 | .om ..,_,_,_,h=>⟨rfl,h.2.1,rfl⟩
 | .mp ..,_,_,_,h=>⟨rfl,h.2⟩
 | .agg vs,p,cs,F,h=>by simp only[R,V.Ti]at h ⊢;exact Ar r vs p 0 h
 | .tup _,_,_,_,h=>by simp[R]at h
 | .gv _ _,_,_,_,h=>by simp[R]at h
 | .lit x,_,_,_,h=>⟨h.1,h.2.1,rfl⟩
 | .sl ..,_,_,_,h=>⟨rfl,h.2⟩
 | .hd ..,_,_,_,h=>⟨rfl,h.2⟩
 | .ptr ..,_,_,_,h=>⟨rfl,h.2⟩
 | .ep _,_,_,_,h=>⟨rfl,h.2⟩
 | .c9,_,_,_,h=>⟨rfl,h.2⟩
theorem Ar(r:m4):∀ (vs:List V) (p:List Nat) (j:Nat) {cs F},RL w Pb vs cs F->RL w Pb (V.Hm r p j vs) cs []
 | [],_,_,_,_,h=>⟨h.1,rfl⟩
 | v::vs,p,j,cs,F,h=>by
   obtain⟨c1,c2,F1,F2,rfl,_,h1,h2⟩:=h;exact⟨c1,c2,[],[],rfl,rfl,kC r v _ h1,Ar r vs p (j+1) h2⟩
end
mutual
theorem jg:∀ (v:V) {cs F},v.df=false->R w Pb v cs F->F=[]
 | .own ..,_,_,ho,_=>by simp[V.df]at ho
 | .ow ..,_,_,ho,_=>by simp[V.df]at ho
 | .om ..,_,_,ho,_=>by simp[V.df]at ho
 | .mp ..,_,_,_,h=>h.1
 | .agg vs,_,_,ho,h=>by simp only[R]at h;exact gi vs (by simpa[V.df] using ho) h
 | .tup _,_,_,_,h=>by simp[R]at h
 | .gv _ _,_,_,_,h=>by simp[R]at h
 | .lit x,_,_,_,h=>h.2.2
 | .sl ..,_,_,_,h=>h.1
 | .hd ..,_,_,_,h=>h.1
 | .ptr ..,_,_,_,h=>h.1
 | .ep _,_,_,_,h=>h.1
 | .c9,_,_,_,h=>h.1
theorem gi:∀ (vs:List V) {cs F},V.ax vs=false->RL w Pb vs cs F->F=[]
 | [],_,_,_,h=>h.2
 | v::vs,_,_,ho,h=>by
   obtain⟨c1,c2,F1,F2,_,rfl,h1,h2⟩:=h;simp only[V.ax,Bool.or_eq_false_iff]at ho;rw[jg v ho.1 h1,gi vs ho.2 h2];rfl
end
theorem tC:∀ (vs:List V) {xs F},V.ax vs=false->RVs w Pb vs xs F->F=[]
 | [],_,_,_,h=>h.2
 | v::vs,_,_,ho,h=>by
   obtain⟨x,xs',F1,F2,_,rfl,h1,h2⟩:=h;simp only[V.ax,Bool.or_eq_false_iff]at ho;rw[tC vs ho.2 h2];cases v with
   | agg us=>obtain⟨cs,_,h1⟩:=h1;rw[gi us (by simpa[V.df] using ho.1) h1];rfl
   | c9=>rw[h1];rfl
   | tup _=>simp[R]at h1
   | gv _ _=>simp[R]at h1
   | _=>rw[jg _ ho.1 h1];rfl
theorem Mn{v:V}{x:Value}{F:List Nat}(r:m4)(h:RV w Pb v x F):RV w Pb (v.cp r) x []:=by
 cases v with
 | tup _=>rfl
 | gv _ _=>rfl
 | agg us=>obtain⟨cs,e,h⟩:=h;exact⟨cs,e,Ar r us [] 0 h⟩
 | c9=>rfl
 | own sz xs g o c=>exact kC (w:=w) (Pb:=Pb) r (.own sz xs g o c) [] h
 | ow sz xs=>rfl
 | om es g=>exact kC (w:=w) (Pb:=Pb) r (.om es g) [] h
 | mp es=>exact kC (w:=w) (Pb:=Pb) r (.mp es) [] h
 | lit x=>exact kC (w:=w) (Pb:=Pb) r (.lit x) [] h
 | sl f xs=>exact kC (w:=w) (Pb:=Pb) r (.sl f xs) [] h
 | hd r' p sz g o lo n c=>exact kC (w:=w) (Pb:=Pb) r (.hd r' p sz g o lo n c) [] h
 | ptr r' p g o=>exact kC (w:=w) (Pb:=Pb) r (.ptr r' p g o) [] h
 | ep v=>exact kC (w:=w) (Pb:=Pb) r (.ep v) [] h
theorem IK{x:Value}(h:x.oneCell'=true):R w Pb (Vp x) [x] []:=by
 unfold Vp;split;exact⟨rfl,none,0,rfl,Zbc _,fun _=>rfl,.inl rfl⟩;exact⟨h,rfl,rfl⟩
theorem Ei:∀ (l:List Value),l.all (·.oneCell')=true->RL w Pb (l.map Vp) l []
 | [],_=>⟨rfl,rfl⟩
 | x::l,h=>by
   simp only[List.all_cons,Zao]at h;exact⟨[x],l,[],[],rfl,rfl,IK h.1,Ei l h.2⟩
theorem rX(x:Value):RV w Pb (cV x) x []:=by
 cases x with
 | agg cs=>
   unfold cV;by_cases h:cs.toList.all (·.oneCell')=true;simp only[h,if_true];exact⟨cs,rfl,Ei _ h⟩;simp only[h];rfl
 | tuple _=>rfl
 | slice a n c=>
   have h:=IK (w:=w) (Pb:=Pb) (x:=.slice a n c) rfl;unfold cV;simp only;revert h;unfold Vp;split <;> exact fun h=>h
 | _=>exact⟨rfl,rfl,rfl⟩
variable {N:Nat} {Kb:Nat->Prop} {A:AS} {a:Act} {F:m4->List Nat}
theorem dS(h:w3 N Pb Kb A a w F)(x:Operand):∃ Fx,RV w Pb (A.ev x) (a.eval x) Fx:=by
 cases x with
 | tmp i=>exact⟨_,h.slot i⟩
 | const v=>exact⟨[],rX v⟩
 | global g=>exact⟨[],rfl,rfl⟩
 | func f=>exact⟨[],rfl,rfl,rfl⟩
theorem bY(h:w3 N Pb Kb A a w F){x:Operand}{y:Value}(e:A.ev x=.lit y):a.eval x=y:=by
 obtain⟨Fx,hr⟩:=dS h x;rw[e]at hr;have:=hr.2.1;simpa using this
theorem qg(h:w3 N Pb Kb A a w F)(x:Operand):RV w Pb (A.cp x) (a.eval x) []:=by
 cases x with
 | tmp i=>exact Mn (.slot i) (h.slot i)
 | const v=>exact rX v
 | global g=>exact⟨rfl,rfl⟩
 | func f=>exact⟨rfl,rfl,rfl⟩
variable {P:Program}
theorem aK{T:Nat}{d:TypeDesc}(h:P.underlying T=some d):(underlying T).run P w=.ok d w:=by
 simp[underlying,h]
theorem cP{T:Nat}{d:D}(h:tD P T=some d):∃ td,P.underlying T=some td/\dG td=d:=by
 unfold tD at h;cases hi:ti P T with
 | none=>simp[hi]at h
 | some i=>
   obtain⟨inf,td,_,h2,_,_,h5⟩:=jy hi;simp[hi]at h;exact⟨td,h2,h5.trans h⟩
theorem sR(op:BinOp)(T:Nat)(x y:Operand){u v:Value}(hu:∀ cs,u≠.agg cs)(hn:u≠.nilIface):(eqGuard op T x y u v).run P w=.ok () w:=by
 unfold eqGuard;cases op <;> first | rfl | (cases u <;> first | (exact absurd rfl hn) | (exact absurd rfl (hu _)) | rfl)
theorem Hr{op:BinOp}{k:IntKind}{p q:Int}{C:Prop}{v:V}(h:jT op k p q=some (C,v))(hC:C){T:Nat}(hs:op=.shr\/op=.shl->∀ yk,∃ x,(binOp op T (.int k p) (.int yk q)).run P w=.ok x w/\v=.lit x/\x.oneCell'=true):
 ∃ x,(binOp op T (.int k p) (.int k q)).run P w=.ok x w/\v=.lit x/\x.oneCell'=true:=by
 cases op <;> simp only[jT,Zan,Zaq,reduceCtorEq]at h <;> obtain⟨rfl,rfl⟩:=h
 all_goals first
  | exact hs (.inl rfl) k
  | exact hs (.inr rfl) k
  | (refine⟨_,?_,rfl,rfl⟩
     simp only[binOp,ne_eq,not_true_eq_false,if_false];first | rfl | (unfold Op.intDiv;rw[if_neg hC];rfl))
theorem Ed{op:BinOp}(ho:op=.shr\/op=.shl){k yk:IntKind}{p q:Int}{C:Prop}{v:V}(h:jT op k p q=some (C,v))(hC:C){T:Nat}:
 ∃ x,(binOp op T (.int k p) (.int yk q)).run P w=.ok x w/\v=.lit x/\x.oneCell'=true:=by
 rcases ho with rfl | rfl <;> simp only[jT,Zan,Zaq]at h <;> obtain⟨rfl,rfl⟩:=h <;>
  exact⟨_,by simp[binOp,Op.shift,Int.not_lt.2 hC],rfl,rfl⟩
theorem uC{T:Nat}(hu:P.underlying T=some .bool)(p q:Bool):(Op.equal T (.bool p) (.bool q)).run P w=.ok (p==q) w:=by
 obtain⟨n,hn⟩:∃ n,Op.maxDepth=n+1:=⟨9999,rfl⟩;unfold Op.equal;rw[hn];simp only[Op.equalIn,Za0,aK hu,Zas,Za1]
theorem lj{k:IntKind}{n:Int}(h:Td k n):k.wrap n=n:=by
 cases k <;> simp only[Td]at h <;> first | exact h | (simp only[IntKind.wrap,IntKind.bits,IntKind.signed,Bool.true_and,Bool.false_and];split <;> simp_all <;> omega)
def XR(k:IntKind):Nat:=if k.signed then k.bits-1 else k.bits
theorem FP(k:IntKind):2 ^ XR k<=2 ^ k.bits:=Nat.pow_le_pow_right Zaf (by unfold XR;split <;> omega)
theorem uB{k:IntKind}{m:Nat}(h:m<2 ^ XR k):k.wrap (m:Int)=m:=by
 unfold IntKind.wrap;cases k <;> simp[XR,IntKind.bits,IntKind.signed]at h ⊢ <;> omega
theorem nv{k:IntKind}{n:Int}(h:Td k n)(h0:0<=n):n.toNat<2 ^ XR k:=by
 have hw:=lj h;obtain⟨q,rfl⟩:=Int.eq_ofNat_of_zero_le h0;unfold IntKind.wrap at hw;cases k <;> simp[IntKind.bits,IntKind.signed,XR]at hw ⊢ <;> (try split at hw) <;> omega
theorem xp{op:BinOp}{k:IntKind}{p q:Int}{C:Prop}{v:V}(h:wD op k p q=some (C,v))(hC:C):∃ C',jT op k p q=some (C',v)/\C':=by
 cases op <;> simp only[wD,Zan,Zaq]at h
 case add=>obtain⟨rfl,rfl⟩:=h;exact⟨_,by simp only[jT,lj hC],trivial⟩
 case sub=>obtain⟨rfl,rfl⟩:=h;exact⟨_,by simp only[jT,lj hC],trivial⟩
 case mul=>obtain⟨rfl,rfl⟩:=h;exact⟨_,by simp only[jT,lj hC],trivial⟩
 case quo=>
  obtain⟨rfl,rfl⟩:=h;obtain⟨h0,h1,h2⟩:=hC;refine⟨_,?_,show q≠0 by omega⟩;have e:p.tdiv q=p / q:=Int.tdiv_eq_ediv_of_nonneg h0;have hd:0<=p / q:=Int.ediv_nonneg h0 Zac;have hle:p / q<=p:=Int.ediv_le_self _ h0;have hb:=nv h2 h0;have:=uB (k:=k) (m:=(p / q).toNat) Zac;rw[Int.toNat_of_nonneg hd]at this;simp only[jT,e,this]
 case rem=>
  obtain⟨rfl,rfl⟩:=h;obtain⟨h0,h1⟩:=hC;refine⟨_,?_,show q≠0 by omega⟩;simp only[jT,Int.tmod_eq_emod_of_nonneg h0]
 case and=>
  obtain⟨rfl,rfl⟩:=h;obtain⟨h0,h1,h2,h3⟩:=hC;refine⟨_,?_,trivial⟩;obtain⟨a,rfl⟩:=Int.eq_ofNat_of_zero_le h0;obtain⟨b,rfl⟩:=Int.eq_ofNat_of_zero_le h1;have ha:=nv h2 h0;have hb:=nv h3 h1;have hk:=FP k;simp only[Int.toNat_natCast]at ha hb;have e:(BitVec.ofInt k.bits (a:Int) &&& BitVec.ofInt k.bits (b:Int)).toNat=a &&& b:=by
   simp only[BitVec.toNat_and,BitVec.toNat_ofInt];rw[Int.emod_eq_of_lt Zac (by exact_mod_cast Nat.lt_of_lt_of_le ha hk),Int.emod_eq_of_lt Zac (by exact_mod_cast Nat.lt_of_lt_of_le hb hk)];rfl
  have:=uB (k:=k) (m:=a &&& b) (Nat.lt_of_le_of_lt Nat.and_le_left ha);simp only[jT,e,this,Int.toNat_natCast]
 case xor=>
  obtain⟨rfl,rfl⟩:=h;obtain⟨h0,h1,h2,h3⟩:=hC;refine⟨_,?_,trivial⟩;obtain⟨a,rfl⟩:=Int.eq_ofNat_of_zero_le h0;obtain⟨b,rfl⟩:=Int.eq_ofNat_of_zero_le h1;have ha:=nv h2 h0;have hb:=nv h3 h1;have hk:=FP k;simp only[Int.toNat_natCast]at ha hb;have e:(BitVec.ofInt k.bits (a:Int) ^^^ BitVec.ofInt k.bits (b:Int)).toNat=a ^^^ b:=by
   simp only[BitVec.toNat_xor,BitVec.toNat_ofInt];rw[Int.emod_eq_of_lt Zac (by exact_mod_cast Nat.lt_of_lt_of_le ha hk),Int.emod_eq_of_lt Zac (by exact_mod_cast Nat.lt_of_lt_of_le hb hk)];rfl
  have:=uB (k:=k) (m:=a ^^^ b) (Nat.xor_lt_two_pow ha hb);simp only[jT,e,this,Int.toNat_natCast]
 case shr=>
  obtain⟨rfl,rfl⟩:=h;obtain⟨h1,h2⟩:=hC;refine⟨_,?_,h1⟩;have:min q.toNat k.bits=q.toNat:=Zac;simp only[jT,this]
 all_goals exact⟨_,h,hC⟩
theorem GI{op:BinOp}{x y:V}{C:Prop}{v:V}{T:Nat}(h:um op (tD P T) x y=some (C,v))(hC:C):
 ∃ u u',x=.lit u/\y=.lit u'/\(∀ cs,u≠.agg cs)/\u≠.nilIface/\∃ z,(binOp op T u u').run P w=.ok z w/\v=.lit z/\z.oneCell'=true:=by
 unfold um at h;split at h;rename_i k p k' q _;refine⟨_,_,rfl,rfl,Zad,Zad,?_⟩;split at h;rename_i ho;obtain⟨C',h',hC'⟩:=xp h hC;exact Ed ho h' hC';rename_i ho;split at h;rename_i hk;subst hk;obtain⟨C',h',hC'⟩:=xp h hC;exact Hr h' hC' (fun h=>absurd h ho);simp at h;rename_i p q _;refine⟨_,_,rfl,rfl,Zad,Zad,?_⟩;cases op <;> simp only[xj,Zan,Zaq,reduceCtorEq]at h <;> obtain⟨rfl,rfl⟩:=h;refine⟨_,?_,rfl,rfl⟩;have: ¬ (((p.size+q.size:Nat):Int)>IntKind.i64.max):=by
  have:IntKind.i64.max=9223372036854775807:=Zaf;omega
 simp only[binOp,Op.stringOp,if_neg this,Za1];exact⟨_,rfl,rfl,rfl⟩;exact⟨_,rfl,rfl,rfl⟩;rename_i p q hT;refine⟨_,_,rfl,rfl,Zad,Zad,?_⟩;obtain⟨td,hu,hd⟩:=cP hT;have htd:td=.bool:=by cases td <;> simp[dG]at hd ⊢
 subst htd;cases op <;> simp only[Da,Zan,Zaq,reduceCtorEq]at h <;> obtain⟨rfl,rfl⟩:=h;exact⟨_,by simp only[binOp,Za0,uC hu,Zas,Za1],rfl,rfl⟩;exact⟨_,by simp only[binOp,Za0,uC hu,Zas,Za1],rfl,rfl⟩;simp at h
theorem du{x:Value}(h:x.oneCell'=true):RV w Pb (.lit x) x []:=⟨h,rfl,rfl⟩
theorem Aw(h:w3 N Pb Kb A a w F){lo:Option Operand}{l:Int}(hl:WK (lo.map A.ev)=some l):(lo=none/\l=0)\/∃ k,(lo.map a.eval)=some (.int k l):=by
 cases lo with
 | none=>simp[WK]at hl;exact .inl ⟨rfl,hl.symm⟩
 | some x=>
   right;simp only[Option.map_some,WK]at hl;cases hx:A.ev x with
   | lit y=>
     cases y with
     | int k l'=>rw[hx]at hl;simp at hl;subst hl;exact⟨k,by simp[bY h hx]⟩
     | _=>rw[hx]at hl;simp at hl
   | _=>rw[hx]at hl;simp at hl
theorem xd(h:w3 N Pb Kb A a w F){n:Nat}{hi:Option Operand}{l:Int}(hl:Wa n (hi.map A.ev)=some l):(hi=none/\l=n)\/∃ k,(hi.map a.eval)=some (.int k l):=by
 cases hi with
 | none=>simp[Wa]at hl;exact .inl ⟨rfl,hl.symm⟩
 | some x=>
   right;simp only[Option.map_some,Wa]at hl;cases hx:A.ev x with
   | lit y=>
     cases y with
     | int k l'=>rw[hx]at hl;simp at hl;subst hl;exact⟨k,by simp[bY h hx]⟩
     | _=>rw[hx]at hl;simp at hl
   | _=>rw[hx]at hl;simp at hl
theorem ju{k:IntKind}{i:Int}{y:Nat}{code:BoundsCode}(h0:0<=i)(h1:i<=y):(Instr.sliceBound (.int k i) y code).run P w=.ok i.toNat w:=by
 simp[Instr.sliceBound,asIntOf,h0,h1]
theorem kV{sl:Bool} {n c:Nat} {lo hi:Option Value} {l h:Int} (hlo:(lo=none/\l=0)\/∃ k,lo=some (.int k l)) (hhi:(hi=none/\h=n)\/∃ k,hi=some (.int k h))
 (h0:0<=l) (h1:l<=h) (h2:h<=(c:Nat)) (hn:n<=c):(Instr.sliceBounds sl n c lo hi none).run P w=.ok (l.toNat,h.toNat,c) w:=by
 have hb:(h.toNat:Int)=h:=Int.toNat_of_nonneg Zac;rcases hlo with ⟨rfl,rfl⟩ | ⟨k,rfl⟩ <;> rcases hhi with ⟨rfl,rfl⟩ | ⟨k',rfl⟩;simp[Instr.sliceBounds];simp only[Instr.sliceBounds,Za0,Za1,Zas,ju (w:=w) (P:=P) (k:=k') (code:=if sl then .sliceAcap else .sliceAlen) (show 0<=h by omega) h2];rfl;simp only[Instr.sliceBounds,Za0,Za1,Zas,Option.isSome,Bool.false_eq_true,if_false,ju (w:=w) (P:=P) (k:=k) (y:=n) (code:=.sliceB) h0 h1];rfl
 simp only[Instr.sliceBounds,Za0,Za1,Zas,Option.isSome,Bool.false_eq_true,if_false,ju (w:=w) (P:=P) (k:=k') (code:=if sl then .sliceAcap else .sliceAlen) (show 0<=h by omega) h2,
  ju (w:=w) (P:=P) (k:=k) (y:=h.toNat) (code:=.sliceB) h0 Zac]
theorem BW:∀ (vs:List V) {xs:List Value} {F:List Nat} {i:Nat} {v:V},RVs w Pb vs xs F->vs[i]? =some v->v.df=false->∃ x,xs[i]? =some x/\RV w Pb v x []
 | [],_,_,_,_,_,h,_=>by simp at h
 | v::vs,xs,F,0,u,h,hi,ho=>by
     obtain⟨x,xs',F1,F2,rfl,rfl,h1,h2⟩:=h;simp at hi;subst hi;refine⟨x,rfl,?_⟩;cases v with
     | agg us=>obtain⟨cs,e,h1⟩:=h1;exact⟨cs,e,by rw[gi us (by simpa[V.df] using ho) h1]at h1;exact h1⟩
     | c9=>rfl
     | tup us=>simp[R]at h1
     | gv _ _=>simp[R]at h1
     | own=>simp[V.df]at ho
     | ow=>simp[V.df]at ho
     | om=>simp[V.df]at ho
     | mp=>exact⟨rfl,h1.2⟩
     | lit=>exact⟨h1.1,h1.2.1,rfl⟩
     | sl=>exact⟨rfl,h1.2⟩
     | hd=>exact⟨rfl,h1.2⟩
     | ptr=>exact⟨rfl,h1.2⟩
     | ep=>exact⟨rfl,h1.2⟩
 | v::vs,xs,F,i+1,u,h,hi,ho=>by
     obtain⟨x,xs',F1,F2,rfl,rfl,h1,h2⟩:=h;obtain⟨y,hy,hr⟩:=BW vs h2 Zbn ho;exact⟨y,by simpa using hy,hr⟩
theorem Cp{op:Op}{C:Prop}{v:V}(h:RE P A op=some (C,v))(hC:C)(hs:w3 N Pb Kb A a w F){o:Oper}(ho:o.op=op):
 ∃ x,(execOp a.eval o).run P w=.ok (.value x) w/\RV w Pb v x []:=by
 obtain⟨dst,op',ty,pos,after,guard⟩:=o;subst ho;unfold RE at h;split at h;rename_i x O9;subst O9;simp at h;obtain⟨_,rfl⟩:=h;refine⟨_,rfl,?_⟩;unfold Df;split;rename_i vs e;obtain⟨Fx,hr⟩:=dS hs x;rw[e]at hr;split;rfl;rename_i ho;obtain⟨xs,hx,hr⟩:=hr;have hF:=tC vs (by simpa using ho) hr;subst hF;exact⟨xs,hx,hr⟩;exact qg hs x
 · rename_i c p q O9;subst O9;unfold Dk at h;split at h
   case h_2=>simp at h
   · rename_i c' e;split at h
     case h_2=>simp at h
     rename_i ga x gb y ea eb;simp only[Zan,Zaq]at h;obtain⟨rfl,rfl⟩:=h;have ex:∀ (z:Operand) (g b:Bool),Zy (A.ev z)=(g,.lit (.bool b))->g=true->a.eval z=.bool b:=fun z g b hz hg=>by
      obtain⟨Fx,hr⟩:=dS hs z;unfold Zy at hz;split at hz;rename_i b' v' e';simp only[Zaq]at hz;obtain⟨rfl,rfl⟩:=hz;rw[e']at hr;have:=(hr.2.1 hg).2.1;simpa using this;simp only[Zaq]at hz;rw[hz.2]at hr;have:=hr.2.1;simpa using this
     simp only[execOp,bY hs e,asBool,Za0,Za1,Zas];cases c';exact⟨.bool y,by simp[ex q gb y eb (hC.2 rfl)],du rfl⟩;exact⟨.bool x,by simp[ex p ga x ea (hC.1 rfl)],du rfl⟩
 rename_i op T x y _ O9;subst O9;obtain⟨u,u',hx,hy,hu,hn,z,hz,rfl,h1⟩:=GI (w:=w) (P:=P) h hC;refine⟨z,?_,du h1⟩;simp only[execOp,bY hs hx,bY hs hy,Za0,sR op T x y hu hn,Zas,hz,Za1];rename_i op T x O9;subst O9;unfold ZG at h;split at h <;> simp only[Zan,Zaq,reduceCtorEq]at h;rename_i b e;obtain⟨_,rfl⟩:=h;exact⟨_,by simp only[execOp,bY hs e];rfl,du rfl⟩;rename_i k n e;obtain⟨rfl,rfl⟩:=h;exact⟨_,by simp only[execOp,bY hs e];rw[show -n=IntKind.wrap k (0-n) by rw[Int.zero_sub];exact(lj hC).symm];rfl,du rfl⟩;rename_i s d x O9;subst O9;unfold Iz at h;split at h <;> simp only[Zan,Zaq,reduceCtorEq]at h;rename_i k0 k k1 n B0 Wb e;obtain⟨rfl,rfl⟩:=h;obtain⟨td,hu,hd⟩:=cP B0;obtain⟨ZJ,WV,Wb⟩:=cP Wb;cases td <;> simp[dG]at hd;cases ZJ <;> simp[dG]at Wb;subst hd Wb;exact⟨.int _ (IntKind.wrap _ n),by simp only[execOp,bY hs e,convert,Za0,aK hu,aK WV,Zas];rfl,by rw[lj hC];exact du rfl⟩;rename_i s' B0 Wb e;obtain⟨_,rfl⟩:=h;obtain⟨td,hu,hd⟩:=cP B0;obtain⟨ZJ,WV,Wb⟩:=cP Wb;cases td <;> simp[dG]at hd;cases ZJ <;> simp[dG]at Wb;exact⟨_,by simp only[execOp,bY hs e,convert,Za0,aK hu,aK WV,Zas];rfl,du rfl⟩;rename_i T x i O9;subst O9;unfold Hf at h;split at h <;> simp only[Zan,Zaq,reduceCtorEq]at h;rename_i s k i' B0 e e';obtain⟨rfl,rfl⟩:=h;obtain⟨td,hu,hd⟩:=cP B0;cases td <;> simp[dG]at hd;obtain⟨h0,h1⟩:=hC;have hlt:i'.toNat<s.size:=Zac;refine⟨.int .u8 (s.data.getD i'.toNat 0).toNat,?_,du rfl⟩;have hg:s[i'.toNat]? =some (s.data.getD i'.toNat 0):=by
  rw[getElem?_pos s i'.toNat hlt];have Ve:i'.toNat<s.data.size:=hlt;simp only[Array.getD,dif_pos Ve];rfl
 simp only[execOp,bY hs e,bY hs e',Instr.index,asIntOf,Za0,aK hu,Za1,Zas,if_pos h0,hg];rename_i T x lo hi O9;subst O9;unfold CW at h;split at h;rename_i s B0 e;unfold Hj at h;obtain⟨td,hu,hd⟩:=cP B0;cases td <;> simp[dG]at hd;split at h;rename_i l h' hl hh;simp only[Zan,Zaq]at h;obtain⟨rfl,rfl⟩:=h;obtain⟨h0,h1,h2⟩:=hC;have b1:=Aw hs hl;have b2:=xd hs hh;have b1':(lo.map a.eval=none/\l=0)\/∃ k,lo.map a.eval=some (.int k l):=b1.imp (fun⟨e,f⟩=>⟨by simp[e],f⟩) id;have b2':(hi.map a.eval=none/\h'=s.size)\/∃ k,hi.map a.eval=some (.int k h'):=b2.imp (fun⟨e,f⟩=>⟨by simp[e],f⟩) id;refine⟨_,?_,du rfl⟩
 simp only[execOp,Instr.sliceAt,bY hs e,Za0,aK hu,Zas,Instr.slice,Option.map_none,Option.isSome,Bool.false_eq_true,if_false,Za1,
  kV (w:=w) (P:=P) (sl:=false) b1' b2' h0 h1 h2 (Zbc _)]
 simp at h;simp at h
 · rename_i c O9;subst O9;unfold vp at h;split at h
   case h_3=>simp at h
   case h_2=>
    rename_i Xi;split at h
    case h_2=>simp at h
    rename_i x y hargs;obtain⟨callee,args,argTypes⟩:=c;obtain rfl:callee=.builtin .max:=Xi;obtain rfl:args= #[x,y]:=by rw[<- Array.toArray_toList (xs:=args)];exact Zbm _ hargs
    unfold DW at h;split at h;rename_i k p k' q e1 e2;split at h;rename_i hk;subst hk;simp only[Zan,Zaq]at h;obtain⟨hCe,rfl⟩:=h;clear hCe;have e:(#[x,y].map a.eval)= #[.int k p,.int k q]:=by simp[bY hs e1,bY hs e2]
    exact⟨_,by simp only[execOp,resolve,invoke,builtin,Za0,Za1,Zas,e,Lib.run_max_ints],du rfl⟩;simp at h;simp at h
   rename_i Xi;split at h
   case h_2=>simp at h
   rename_i x T hargs htys;obtain⟨callee,args,argTypes⟩:=c;obtain rfl:callee=.builtin .len:=Xi;obtain rfl:args= #[x]:=by rw[<- Array.toArray_toList (xs:=args)];exact Zbm _ hargs
   obtain rfl:argTypes= #[T]:=by rw[<- Array.toArray_toList (xs:=argTypes)];exact Zbm _ htys
   unfold Ab at h;split at h <;> simp only[Zan,Zaq,reduceCtorEq]at h <;> (obtain⟨hCe,rfl⟩:=h;clear hCe);rename_i s B0 e;obtain⟨td,hu,hd⟩:=cP B0;cases td <;> simp[dG]at hd;exact⟨_,by simp[execOp,resolve,invoke,builtin,Builtin.len_,bY hs e,aK hu,goInt],du rfl⟩
   all_goals
    rename_i B0 e;obtain⟨td,hu,hd⟩:=cP B0;cases td <;> simp[dG]at hd;obtain⟨Fx,hr⟩:=dS hs x;rw[e]at hr
   obtain⟨_,A',c,hc,_⟩:=hr;simp at hc;exact⟨_,Zbo,du rfl⟩
   rcases hr with ⟨_,rfl,_,A',hc⟩ | ⟨_,_,_,hc,_⟩ <;> simp at hc <;>
    exact⟨_,Zbo,du rfl⟩
   obtain⟨_,_,A',hc,_⟩:=hr;simp at hc;exact⟨_,Zbo,du rfl⟩
 rename_i x i O9;subst O9;unfold GN at h;split at h;rename_i i _ _ vs e;split at h;rename_i v' hv;split at h;simp at h;rename_i ho;simp at h;obtain⟨_,rfl⟩:=h;obtain⟨Fx,hr⟩:=dS hs x;rw[e]at hr;obtain⟨xs,UL,hr⟩:=hr;obtain⟨x',P1,F7⟩:=BW vs hr hv (by simpa using ho);refine⟨x',?_,F7⟩;have Z':xs[i]? =some x':=by simpa using P1
 simp only[execOp,UL,Instr.extract,Z',Za0,Za1,Zas];simp at h;simp at h;simp at h
end
def V.at(g o:Nat)(v:V):List Nat->Option (Nat×Nat×V)
 | []=>some (g,o,v)
 | j::p=>match v with
   | .agg vs=>match vs[j]? with
     | some u=>V.at g (o+V.ns (vs.take j)) u p
     | none=>none
   | .own sz xs g' o' _=>match xs[j]? with
     | some u=>V.at g' (o'+j*sz) u p
     | none=>none
   | _=>none
def V.sub(v:V):List Nat->Option V
 | []=>some v
 | j::p=>match v with
   | .agg vs=>match vs[j]? with
     | some u=>V.sub u p
     | none=>none
   | .own _ xs _ _ _=>match xs[j]? with
     | some u=>V.sub u p
     | none=>none
   | _=>none
def AS.at(A:AS)(r:m4)(p:List Nat):Option (Nat×Nat×V):=
 match r with
 | .key k=>match lk k A.h with
   | some (g,v)=>V.at g 0 v p
   | none=>none
 | .slot i=>match A.get i,p with
   | .own sz xs g o c,j::p=>V.at 0 0 (.own sz xs g o c) (j::p)
   | _,_=>none
def AS.sub(A:AS)(r:m4)(p:List Nat):Option V:=
 match r with
 | .key k=>match lk k A.h with
   | some (_,v)=>V.sub v p
   | none=>none
 | .slot i=>match A.get i with
   | .tup _=>none
   | v=>V.sub v p
def V.isAgg:V->Bool | .agg _=>true | _=>false
section
variable {w:World} {Pb Kb:Nat->Prop}
theorem gH:∀ (vs:List V) {cs F} {j:Nat} {v:V},RL w Pb vs cs F->vs[j]? =some v->
 ∃ c F',R w Pb v c F'/\(∀ g,g∈F'->g∈F)/\∀ i u,c[i]? =some u->cs[V.ns (vs.take j)+i]? =some u
 | [],_,_,_,_,_,h=>by simp at h
 | v::vs,cs,F,0,u,h,hj=>by
   obtain⟨c1,c2,F1,F2,rfl,rfl,h1,h2⟩:=h;simp at hj;subst hj;refine⟨c1,F1,h1,by simp_all,fun i u hu=>?_⟩;simp only[List.take_zero,V.ns,Zaw];rw[Za9 (Za3.1 hu).1];exact hu
 | v::vs,cs,F,j+1,u,h,hj=>by
   obtain⟨c1,c2,F1,F2,rfl,rfl,h1,h2⟩:=h;obtain⟨c,F',hr,hF,hc⟩:=gH vs h2 Zbp;refine⟨c,F',hr,fun g hg=>by simp[hF g hg],fun i u hu=>?_⟩;have hl:=eH v h1;simp only[List.take_succ_cons,V.ns];rw[<- hl,Zbj,Za4 Zac];have e:c1.length+(V.ns (vs.take j)+i)-c1.length=V.ns (vs.take j)+i:=Zac;rw[e];exact hc i u hu
theorem ef{sz:Nat}:∀ (xs:List V) (j:Nat),aR sz xs->j<=xs.length->V.ns (xs.take j)=j*sz
 | _,0,_,_=>by simp[V.ns]
 | [],j+1,_,h=>by simp at h
 | v::vs,j+1,ha,h=>by
   simp only[List.take_succ_cons,V.ns,ha v Zad];rw[ef vs j (fun x hx=>ha x (by simp[hx])) Zbq];rw[Nat.add_mul];omega
theorem qv:∀ (p:List Nat) {v u:V} {g o g' o':Nat} {F},At w Pb v g o F->V.at g o v p=some (g',o',u)->∃ F',At w Pb u g' o' F'/\∀ x,x∈F'->x∈F
 | [],v,u,g,o,g',o',F,h,e=>by
   simp only[V.at,Zan,Zaq]at e;obtain⟨rfl,rfl,rfl⟩:=e;exact⟨F,h,fun _ h=>h⟩
 | j::p,v,u,g,o,g',o',F,h,e=>by
   simp only[V.at]at e;obtain⟨cs,cells,hb,hr,hc⟩:=h;split at e;rename_i vs;split at e;rename_i x hx;simp only[R]at hr;obtain⟨c,F',F7,hF,M6⟩:=gH vs hr hx;obtain⟨PX,h2,hF2⟩:=qv p (v:=x) ⟨c,cells,hb,F7,fun i u hu=>by rw[Zbj];exact hc _ _ (M6 i u hu)⟩ e;exact⟨PX,h2,fun y hy=>hF y (hF2 y hy)⟩;simp at e;rename_i sz xs g1 o1 c1;split at e;rename_i x hx;rcases hr with ⟨_,rfl,_⟩ | ⟨_,_,_,_,ha,_,flat,F',o4,rfl,hr,L2,_,M6⟩;simp at hx;obtain⟨c,PX,F7,hF,QL⟩:=gH xs hr hx;have hj:j<=xs.length:=Zbr
   rw[ef xs j ha hj]at QL;obtain⟨F3,h3,hF3⟩:=qv p (v:=x) ⟨c,o4,L2,F7,fun i u hu=>Zbs⟩ e;exact⟨F3,h3,fun y hy=>by simp[hF y (hF3 y hy)]⟩;simp at e;simp at e
theorem eg{g o:Nat}{cells:Array Value}(h:Blk w g cells):w.cell? ⟨g,o,none⟩=cells[o]? :=by
 obtain⟨e,fr,hb,_⟩:=h;simp[World.cell?,hb]
theorem dW(g o j:Nat):(⟨g,o,none⟩:Addr).add j=⟨g,o+j,none⟩:=by unfold Addr.add;split <;> simp_all
theorem xm{P:Program}{T:Nat}{i:TI}(h:ti P T=some i):(isAgg T).run P w=.ok i.d.agg w:=by
 obtain⟨inf,d,_,h2,_,_,h5⟩:=jy h;unfold isAgg;simp only[Za0,aK h2,Zas];rw[<- h5];cases d <;> rfl
theorem dc{P:Program}{T:Nat}{i:TI}(h:ti P T=some i):(sizeOf T).run P w=.ok i.sz w:=by
 obtain⟨inf,d,h1,_,h3,_,_⟩:=jy h;simp[sizeOf,typeInfo,h1,h3]
theorem mH{P:Program} {T:Nat} {i:TI} (h:ti P T=some i) {v:V} {cs:List Value} {g o:Nat} {F} (hr:R w Pb v cs F) (hn:v.n=i.sz) (ha:i.d.agg=v.isAgg)
 (hc:∀ j u,cs[j]? =some u->w.cell? ⟨g,o+j,none⟩=some u):∃ x,(loadVar T ⟨g,o,none⟩).run P w=.ok x w/\RV w Pb v x F:=by
 unfold loadVar;simp only[Za0,xm h,Zas];have hl:=eH v hr;cases v with
 | agg vs=>
   simp only[V.isAgg]at ha;rw[ha];simp only[if_true,Za0,dc h,Zas];rw[<- hn,<- hl,run_loadCells_list w _ cs (fun j v hv=>by rw[dW];exact hc j v hv)];exact⟨_,rfl,_,rfl,hr⟩
 | tup _=>simp[R]at hr
 | gv _ _=>simp[R]at hr
 | c9=>
   simp only[V.isAgg]at ha;rw[ha];obtain⟨hF,x,rfl,hx⟩:=hr;have:=hc 0 x rfl;simp only[Nat.add_zero]at this;exact⟨x,by simp[this],hF⟩
 | _=>
   simp only[V.isAgg]at ha;rw[ha];simp only[V.n]at hl;obtain⟨x,rfl⟩:=List.length_eq_one_iff.1 hl;have:=hc 0 x rfl;simp only[Nat.add_zero]at this;exact⟨x,by simp[this],hr⟩
end
def kM(P:Program)(d:Option D)(x:V)(j:Nat):Option (Prop×V):=
 match d with
 | some (.st fs)=>match fs[j]? with
   | some (off,T)=>match ti P T with
     | some i=>match x with
       | .ptr r p g o=>some (i.sz≠0,.ptr r (p++[j]) g (o+off))
       | .ep (.agg vs)=>match vs[j]? with
         | some v=>some (i.sz≠0/\V.ns (vs.take j)=off,.ep v)
         | none=>none
       | _=>none
     | none=>none
   | none=>none
 | _=>none
def wc(P:Program)(d:Option D)(x:V)(j:Nat):Option (Prop×V):=
 match d with
 | some (.st fs)=>match fs[j]? with
   | some (off,T)=>match ti P T with
     | some i=>match x with
       | .agg vs=>match vs[j]? with
         | some v=>some (V.ns (vs.take j)=off/\i.sz=v.n/\i.d.agg=v.isAgg,v)
         | none=>none
       | _=>none
     | none=>none
   | none=>none
 | _=>none
def kS(A:AS)(i:Option TI)(x:V):Option (Prop×V):=
 match i with
 | some i=>match x with
   | .ptr r p g o=>match A.at r p with
     | some (g',o',v)=>some (g'=g/\o'=o/\v.n=i.sz/\i.d.agg=v.isAgg,v.Ti r p)
     | none=>none
   | .ep v=>some (v.n=i.sz/\i.d.agg=v.isAgg,v)
   | _=>none
 | none=>none
def jC(P:Program)(d:Option D)(x i:V):Option (Prop×V):=
 match d,i with
 | some (.sl e),.lit (.int _ i)=>match ti P e with
   | some t=>match x with
     | .sl _ xs=>some (0<=i/\i<xs.length/\(xs.getD i.toNat .c9).n=t.sz,.ep (xs.getD i.toNat .c9))
     | .hd r p sz g o lo n _=>some (0<=i/\i<n/\sz=t.sz,.ptr r (p++[lo+i.toNat]) g (o+(lo+i.toNat)*sz))
     | _=>none
   | none=>none
 | some (.arr n e),.lit (.int _ i)=>match ti P e with
   | some t=>match x with
     | .ptr r p g o=>some (0<=i/\i<n,.ptr r (p++[i.toNat]) g (o+i.toNat*t.sz))
     | _=>none
   | none=>none
 | _,_=>none
def Dr(P:Program)(d:Option D)(x:V)(lo hi:Option V):Option (Prop×V):=
 match d with
 | some (.sl e)=>match ti P e with
   | some t=>match x with
     | .sl _ xs=>match WK lo,Wa xs.length hi with
       | some l,some h=>some (0<=l/\l<=h/\h<=xs.length/\∀ x∈xs,x.n=t.sz,.sl false ((xs.take h.toNat).drop l.toNat))
       | _,_=>none
     | .hd r p sz g o PH n c=>match WK lo,Wa n hi with
       | some l,some h=>some (0<=l/\l<=h/\h<=n/\sz=t.sz,.hd r p sz g o (PH+l.toNat) (h.toNat-l.toNat) (c-l.toNat))
       | _,_=>none
     | _=>none
   | none=>none
 | _=>none
def ni:V->Option Value
 | .lit x=>some x
 | .ptr _ _ g o=>some (.pointer (some ⟨g,o,none⟩))
 | _=>none
def jK:List V->Option (List Value)
 | []=>some []
 | v::vs=>match ni v,jK vs with
   | some x,some xs=>some (x::xs)
   | _,_=>none
def valOf:V->Option Value
 | .agg vs=>match jK vs with
   | some xs=>some (.agg xs.toArray)
   | none=>none
 | v=>ni v
def MB:V->Option (Prop×V)
 | .ptr r p g o=>some (True,.ptr r p g o)
 | .ep v=>some (True,.ep v)
 | _=>none
def DZ:Option TypeDesc->Bool
 | some (.interface _)=>true
 | none=>true
 | _=>false
def LS(P:Program)(T:Nat)(x:V):Option (Prop×V):=
 if DZ (P.underlying T)=true then none else match valOf x with
  | some y=>some (True,.lit (.iface T y))
  | none=>none
def zeroV(P:Program)(T:Nat):Option V:=match P.info? T with
 | some i=>i.zero.map cV
 | none=>none
def Lr(P:Program)(T:Nat)(x:V):Option (Prop×V):=
 if DZ (P.underlying T)=true then none else match x,zeroV P T with
  | .lit (.iface t v),some z=>some (True,if t=T then .tup [cV v,.lit (.bool true)] else .tup [z,.lit (.bool false)])
  | .lit .nilIface,some z=>some (True,.tup [z,.lit (.bool false)])
  | _,_=>none
def LM(fn:Fn)(a b:List V):Option (Prop×V):=match jK a,jK b with
 | some x,some y=>some (True,.lit (.func fn x.toArray y.toArray))
 | _,_=>none
def J1(P:Program)(A:AS)(op:Op):Option (Prop×V):=
 match op with
 | .load T x=>kS A (ti P T) (A.ev x)
 | .fieldAddr T x j=>kM P (tD P T) (A.ev x) j
 | .field T x j=>wc P (tD P T) (A.cp x) j
 | .indexAddr T x i=>jC P (tD P T) (A.ev x) (A.ev i)
 | .slice T x lo hi none=>match tD P T with
   | some .str=>CW (some .str) (A.ev x) (lo.map A.ev) (hi.map A.ev)
   | d=>Dr P d (A.ev x) (lo.map A.ev) (hi.map A.ev)
 | .nilCheck x=>MB (A.ev x)
 | .makeInterface T x=>LS P T (A.cp x)
 | .typeAssert x _ T true=>Lr P T (A.ev x)
 | .makeFunc fn a b=>LM fn (a.toList.map A.ev) (b.toList.map A.ev)
 | op=>RE P A op
section
variable {w:World} {Pb Kb:Nat->Prop} {N:Nat} {A:AS} {a:Act} {F:m4->List Nat} {P:Program}
theorem iz(h:w3 N Pb Kb A a w F){r:m4}{p:List Nat}{g o:Nat}{v:V}(e:A.at r p=some (g,o,v)):∃ F',At w Pb v g o F':=by
 unfold AS.at at e;split at e;rename_i k;split at e;rename_i g' v' hk;obtain⟨F',_,hr⟩:=h.root k g' v' hk;obtain⟨PX,h2,_⟩:=qv p (v:=v') (g:=g') (o:=0) hr e;exact⟨PX,h2⟩;simp at e;rename_i i;split at e;rename_i sz xs g' o' c j p hi;have hr:=h.slot i;rw[hi]at hr;simp only[V.at]at e;split at e;rename_i x hx;rcases hr with ⟨_,rfl,_⟩ | ⟨_,_,_,_,ha,_,flat,F',o4,_,hr,L2,_,M6⟩;simp at hx;obtain⟨c,PX,F7,hF,QL⟩:=gH xs hr hx;have hj:j<=xs.length:=Zbr
 rw[ef xs j ha hj]at QL;obtain⟨F3,h3,_⟩:=qv p (v:=x) ⟨c,o4,L2,F7,fun i u hu=>Zbs⟩ e;exact⟨F3,h3⟩;simp at e;simp at e
theorem Ee(hs:w3 N Pb Kb A a w F){T:Nat}{x:Operand}{C:Prop}{v:V}(h:kS A (ti P T) (A.ev x)=some (C,v))(hC:C):
 ∃ y,(Instr.loadAt T (a.eval x)).run P w=.ok y w/\RV w Pb v y []:=by
 unfold kS at h;split at h
 case h_2=>simp at h
 rename_i i hi;obtain⟨Fx,hr⟩:=dS hs x;split at h;rename_i r p g o e;rw[e]at hr;split at h;rename_i g' o' u A8;simp only[Zan,Zaq]at h;obtain⟨rfl,rfl⟩:=h;obtain⟨rfl,rfl,hn,ha⟩:=hC;obtain⟨F',cs,cells,hb,N7,u0⟩:=iz hs A8;have hx:a.eval x=.pointer (some ⟨g',o',none⟩):=by have:=hr.2;simpa using this
 obtain⟨y,hy,F7⟩:=mH (w:=w) hi (kC r u p N7) (g:=g') (o:=o') (by
  have:(u.Ti r p).n=u.n:=by
   have h1:=eH _ (kC r u p N7);have h2:=eH _ N7;omega
  omega) (by rw[ha];cases u <;> rfl) (fun j u hu=>by rw[eg hb];exact u0 j u hu)
 exact⟨y,by simp only[Instr.loadAt,hx,Instr.sureAddr,Za0,Za1,Zas,hy],F7⟩;simp at h;rename_i u e;rw[e]at hr;simp only[Zan,Zaq]at h;obtain⟨rfl,rfl⟩:=h;obtain⟨hn,ha⟩:=hC;obtain⟨_,b,o,flat,hx,hb,N7,u0⟩:=hr;have hx:a.eval x=.pointer (some ⟨b,o,none⟩):=Zbt
 obtain⟨y,hy,F7⟩:=mH (w:=w) hi N7 hn ha u0;exact⟨y,by simp only[Instr.loadAt,hx,Instr.sureAddr,Za0,Za1,Zas,hy],F7⟩;simp at h
theorem De{T:Nat}{fs:List (Nat×Nat)}(h:tD P T=some (.st fs)):∃ fl:Array Field,P.underlying T=some (.struct fl)/\fl.toList.map (fun f=>(f.offset,f.type))=fs:=by
 obtain⟨td,hu,hd⟩:=cP h;cases td <;> simp[dG]at hd;rename_i fl;exact⟨fl,hu,hd⟩
theorem yV{fl:Array Field}{fs:List (Nat×Nat)}(h:fl.toList.map (fun f=>(f.offset,f.type))=fs){j off T:Nat}(e:fs[j]? =some (off,T)):∃ f,fl[j]? =some f/\f.offset=off/\f.type=T:=by
 subst h;simp only[List.getElem?_map]at e;cases hf:fl.toList[j]? with
 | none=>rw[hf]at e;simp at e
 | some f=>rw[hf]at e;simp at e;exact⟨f,by simpa using hf,e⟩
theorem wQ(hs:w3 N Pb Kb A a w F){T:Nat}{x:Operand}{j:Nat}{C:Prop}{v:V}(h:kM P (tD P T) (A.ev x) j=some (C,v))(hC:C):
 ∃ y,(Instr.fieldAt T (a.eval x) j).run P w=.ok y w/\RV w Pb v y []:=by
 unfold kM at h;split at h
 case h_2=>simp at h
 rename_i fs hT;split at h
 case h_2=>simp at h
 rename_i off T' hj;split at h
 case h_2=>simp at h
 rename_i i hi;obtain⟨fl,hu,hfl⟩:=De hT;obtain⟨f,hf,ho,ht⟩:=yV hfl hj;obtain⟨Fx,hr⟩:=dS hs x;split at h;rename_i r p g o e;rw[e]at hr;simp only[Zan,Zaq]at h;obtain⟨rfl,rfl⟩:=h;have hx:a.eval x=.pointer (some ⟨g,o,none⟩):=by have:=hr.2;simpa using this
 refine⟨.pointer (some ⟨g,o+off,none⟩),?_,rfl,rfl⟩;simp only[Instr.fieldAt,Za0,aK hu,Zas,hf,hx,Instr.sureAddr,Za1,fieldPlace,ht,dc hi,if_neg hC,ho,dW]
 · rename_i vs e;rw[e]at hr;split at h
   case h_2=>simp at h
   rename_i u WV;simp only[Zan,Zaq]at h;obtain⟨rfl,rfl⟩:=h;obtain⟨h0,W4⟩:=hC;obtain⟨_,b,o,flat,hx,hb,N7,u0⟩:=hr;have hx:a.eval x=.pointer (some ⟨b,o,none⟩):=Zbt
   simp only[R]at N7;obtain⟨c,F',F7,hF,M6⟩:=gH vs N7 WV;have QT:F'=[]:=List.eq_nil_iff_forall_not_mem.2 fun g hg=>by simpa using hF g hg
   subst QT;refine⟨.pointer (some ⟨b,o+off,none⟩),?_,rfl,b,o+off,c,rfl,hb,F7,fun i u hu=>by rw[<- W4,Zbj];exact u0 _ _ (M6 i u hu)⟩;simp only[Instr.fieldAt,Za0,aK hu,Zas,hf,hx,Instr.sureAddr,Za1,fieldPlace,ht,dc hi,if_neg h0,ho,dW]
 simp at h
theorem Dm(hs:w3 N Pb Kb A a w F){T:Nat}{x:Operand}{j:Nat}{C:Prop}{v:V}(h:wc P (tD P T) (A.cp x) j=some (C,v))(hC:C):
 ∃ y,(Instr.field T (a.eval x) j).run P w=.ok y w/\RV w Pb v y []:=by
 unfold wc at h;split at h
 case h_2=>simp at h
 rename_i fs hT;split at h
 case h_2=>simp at h
 rename_i off T' hj;split at h
 case h_2=>simp at h
 rename_i i hi;obtain⟨fl,hu,hfl⟩:=De hT;obtain⟨f,hf,ho,ht⟩:=yV hfl hj;have hr:=qg hs x;split at h
 case h_2=>simp at h
 rename_i vs e;rw[e]at hr;split at h
 case h_2=>simp at h
 rename_i u WV;simp only[Zan,Zaq]at h;obtain⟨rfl,rfl⟩:=h;obtain⟨W4,hn,ha⟩:=hC;obtain⟨cs,hx,hr⟩:=hr;obtain⟨c,F',F7,hF,M6⟩:=gH vs hr WV;have QT:F'=[]:=List.eq_nil_iff_forall_not_mem.2 fun g hg=>by simpa using hF g hg
 subst QT;have hl:=eH _ F7;simp only[Instr.field,Za0,aK hu,Zas,hf,hx,asAgg,Za1,part,ht,xm hi,ho];rw[W4]at M6;cases u with
 | agg us=>
   simp only[V.isAgg]at ha;rw[ha];simp only[if_true,Za0,dc hi,Zas,Za1];refine⟨_,rfl,_,rfl,?_⟩;have hcs:(cs.extract off (off+i.sz)).toList=c:=by
    apply List.ext_getElem?;intro k;by_cases hk:k<c.length;have h1:=M6 k _ (Zat hk);rw[Zat hk];simp only[Array.getElem?_toList]at h1 ⊢;rw[Array.getElem?_extract];have hlt:=(Zbh.1 h1).1;rw[if_pos Zac];exact h1;have hz:(cs.extract off (off+i.sz)).toList.length<=i.sz:=by
     rw[Array.length_toList,Array.size_extract];omega
    rw[List.getElem?_eq_none Zac,List.getElem?_eq_none Zac]
   rw[hcs];simp only[R]at F7;exact F7
 | tup _=>simp[R]at F7
 | gv _ _=>simp[R]at F7
 | c9=>
   simp only[V.isAgg]at ha;rw[ha];obtain⟨_,y,rfl,hy⟩:=F7;have h1:=M6 0 y rfl;simp only[Nat.add_zero,Array.getElem?_toList]at h1;exact⟨y,by simp[h1],rfl⟩
 | _=>
   simp only[V.isAgg]at ha;rw[ha];simp only[V.n]at hl;obtain⟨y,rfl⟩:=List.length_eq_one_iff.1 hl;have h1:=M6 0 y rfl;simp only[Nat.add_zero,Array.getElem?_toList]at h1;exact⟨y,by simp[h1],F7⟩
theorem iW{T e:Nat}(h:tD P T=some (.sl e)):P.underlying T=some (.slice e):=by
 obtain⟨td,hu,hd⟩:=cP h;cases td <;> simp[dG]at hd;subst hd;exact hu
theorem getD_some{xs:List V}{i:Nat}(h:i<xs.length):xs[i]? =some (xs.getD i .c9):=by
 simp[List.getD,Zat h]
theorem LI{T n e:Nat}(h:tD P T=some (.arr n e)):P.underlying T=some (.array n e):=by
 obtain⟨td,hu,hd⟩:=cP h;cases td <;> simp[dG]at hd;obtain⟨rfl,rfl⟩:=hd;exact hu
theorem wR(hs:w3 N Pb Kb A a w F){T:Nat}{x ix:Operand}{C:Prop}{v:V}(h:jC P (tD P T) (A.ev x) (A.ev ix)=some (C,v))(hC:C):
 ∃ y,(Instr.indexAt T (a.eval x) (a.eval ix)).run P w=.ok y w/\RV w Pb v y []:=by
 unfold jC at h;split at h
 case h_3=>simp at h
 case h_2=>
  rename_i n e k i hT hi;have hu:=LI hT;split at h
  case h_2=>simp at h
  rename_i t ht;obtain⟨Fx,hr⟩:=dS hs x;split at h
  case h_2=>simp at h
  rename_i r p g o hx;rw[hx]at hr;simp only[Zan,Zaq]at h;obtain⟨rfl,rfl⟩:=h;have hv:a.eval x=.pointer (some ⟨g,o,none⟩):=by have:=hr.2;simpa using this
  refine⟨.pointer (some ⟨g,o+i.toNat*t.sz,none⟩),?_,rfl,rfl⟩;simp only[Instr.indexAt,bY hs hi,asIntOf,Za0,Za1,Zas,aK hu,hv,Instr.sureAddr,if_pos (⟨hC.1,hC.2⟩:0<=i/\i<(n:Int)),dc ht,dW]
 rename_i e k i hT hi;have hu:=iW hT;split at h
 case h_2=>simp at h
 rename_i t ht;obtain⟨Fx,hr⟩:=dS hs x;split at h;rename_i full xs hx;rw[hx]at hr;simp only[Zan,Zaq]at h;obtain⟨rfl,rfl⟩:=h;obtain⟨h0,h1,hn⟩:=hC;have hlt:i.toNat<xs.length:=Zac;obtain⟨_,A',c,hv,hl,_,hz⟩:=hr;have hv:a.eval x=.slice A' xs.length c:=by simpa using hv
 rcases hz with rfl | ⟨b,o,sz,flat,rfl,hb,_,hN,QS,u0⟩;simp at hlt;obtain⟨cu,F',F7,hF,M6⟩:=gH xs QS (getD_some hlt);have QT:F'=[]:=List.eq_nil_iff_forall_not_mem.2 fun g hg=>by simpa using hF g hg
 subst QT;rw[ef xs _ hN Zac]at M6;have hsz:sz=t.sz:=by rw[<- hn];exact(hN _ (Za7 (getD_some hlt))).symm
 refine⟨.pointer (some ⟨b,o+i.toNat*t.sz,none⟩),?_,rfl,b,o+i.toNat*t.sz,cu,rfl,hb,F7,fun j u hu=>by rw[<- hsz,Zbj];exact u0 _ _ (M6 j u hu)⟩;simp only[Instr.indexAt,bY hs hi,asIntOf,Za0,Za1,Zas,aK hu,hv,if_pos (⟨h0,h1⟩:0<=i/\i<(xs.length:Int)),dc ht,dW];rename_i r p sz g o lo n c hx;rw[hx]at hr;simp only[Zan,Zaq]at h;obtain⟨rfl,rfl⟩:=h;obtain⟨h0,h1,hn⟩:=hC;obtain⟨_,XN,A',hv,hA⟩:=hr;have hv:a.eval x=.slice A' n c:=by simpa using hv
 obtain rfl:=hA Zac;refine⟨.pointer (some ⟨g,o+(lo+i.toNat)*sz,none⟩),?_,rfl,rfl⟩;simp only[Instr.indexAt,bY hs hi,asIntOf,Za0,Za1,Zas,aK hu,hv,if_pos (⟨h0,h1⟩:0<=i/\i<(n:Int)),dc ht,dW];subst hn;rw[Zbj,<- Nat.add_mul];simp at h
theorem pf:∀ (vs:List V) (k:Nat) {cs:List Value},RL w Pb vs cs []->∃ c':List Value,RL w Pb (vs.drop k) c' []/\∀ i u,c'[i]? =some u->cs[V.ns (vs.take k)+i]? =some u
 | vs,0,cs,h=>⟨cs,h,fun i u hu=>by simpa[V.ns] using hu⟩
 | [],k+1,cs,h=>⟨[],by simpa using⟨rfl,rfl⟩,fun i u hu=>by simp at hu⟩
 | v::vs,k+1,cs,h=>by
   obtain⟨c1,c2,F1,F2,rfl,hF,h1,h2⟩:=h;have hF2:F2=[]:=by have:=hF.symm;simp at this;exact this.2
   subst hF2;obtain⟨c',hr,hc⟩:=pf vs k h2;refine⟨c',by simpa using hr,fun i u hu=>?_⟩;have hl:=eH v h1;simp only[List.take_succ_cons,V.ns];rw[<- hl,Zbj,Za4 Zac];have e:c1.length+(V.ns (vs.take k)+i)-c1.length=V.ns (vs.take k)+i:=Zac;rw[e];exact hc i u hu
theorem pd:∀ (vs:List V) (k:Nat) {cs:List Value},RL w Pb vs cs []->∃ c':List Value,RL w Pb (vs.take k) c' []/\∀ (i:Nat) u,c'[i]? =some u->cs[i]? =some u
 | vs,0,cs,h=>⟨[],by simpa using⟨rfl,rfl⟩,fun i u hu=>by simp at hu⟩
 | [],k+1,cs,h=>⟨[],by simpa using⟨rfl,rfl⟩,fun i u hu=>by simp at hu⟩
 | v::vs,k+1,cs,h=>by
   obtain⟨c1,c2,F1,F2,rfl,hF,h1,h2⟩:=h;have QT:=hF.symm;simp at QT;obtain⟨rfl,rfl⟩:=QT;obtain⟨c',hr,hc⟩:=pd vs k h2;refine⟨c1++c',⟨c1,c',[],[],rfl,rfl,h1,hr⟩,fun i u hu=>?_⟩;by_cases hi:i<c1.length;rw[Za9 hi]at hu ⊢;exact hu;rw[Za4 Zac]at hu ⊢;exact hc _ _ hu
theorem Gn(hs:w3 N Pb Kb A a w F){T:Nat}{x:Operand}{lo hi:Option Operand}{C:Prop}{v:V}(h:Dr P (tD P T) (A.ev x) (lo.map A.ev) (hi.map A.ev)=some (C,v))(hC:C):
 ∃ y,(Instr.sliceAt T (a.eval x) (lo.map a.eval) (hi.map a.eval) none).run P w=.ok y w/\RV w Pb v y []:=by
 unfold Dr at h;split at h
 case h_2=>simp at h
 rename_i e hT;have hu:=iW hT;split at h
 case h_2=>simp at h
 rename_i t ht;obtain⟨Fx,hr⟩:=dS hs x;split at h
 · rename_i full xs hx;rw[hx]at hr;split at h
   case h_2=>simp at h
   rename_i l h' hl hh;simp only[Zan,Zaq]at h;obtain⟨rfl,rfl⟩:=h;obtain⟨h0,h1,h2,hn⟩:=hC;have b1:(lo.map a.eval=none/\l=0)\/∃ k,lo.map a.eval=some (.int k l):=(Aw hs hl).imp (fun⟨e,f⟩=>⟨by simp[e],f⟩) id;have b2:(hi.map a.eval=none/\h'=xs.length)\/∃ k,hi.map a.eval=some (.int k h'):=(xd hs hh).imp (fun⟨e,f⟩=>⟨by simp[e],f⟩) id;obtain⟨_,A',c,hv,YN,_,hz⟩:=hr;have hv:a.eval x=.slice A' xs.length c:=by simpa using hv
   have hlen:((xs.take h'.toNat).drop l.toNat).length=h'.toNat-l.toNat:=Zal;refine⟨.slice (if c=l.toNat then A' else A'.map (·.add (l.toNat*t.sz))) (h'.toNat-l.toNat) (c-l.toNat),?_,?_⟩;simp only[Instr.sliceAt,Instr.slice,Za0,aK hu,Zas,hv,kV (w:=w) (P:=P) (sl:=true) b1 b2 h0 h1 (show h'<=(c:Nat) by omega) YN,dc ht,Za1];refine⟨rfl,_,c-l.toNat,by rw[hlen],Zac,Zad,?_⟩;by_cases he:h'.toNat-l.toNat=0;left;exact Za5 Zac;right;rcases hz with rfl | ⟨b,o,sz,flat,rfl,hb,hsz0,hN,QS,u0⟩;simp at h2;omega;have hsz:sz=t.sz:=by
    cases xs with
    | nil=>simp at h2;omega
    | cons x0 xs=>rw[<- hn x0 Zad];exact(hN x0 Zad).symm
   obtain⟨c1,SD,Ql⟩:=pd xs h'.toNat QS;obtain⟨c2,Ps,Un⟩:=pf _ l.toNat SD;have S3:aR sz (xs.take h'.toNat):=fun x hx=>hN x (List.mem_of_mem_take hx);rw[ef _ _ S3 Zal]at Un;rw[if_neg Zac];refine⟨b,o+l.toNat*t.sz,sz,c2,by simp[dW],hb,hsz0,fun x hx=>S3 x (List.mem_of_mem_drop hx),Ps,fun j u hu=>?_⟩;rw[<- hsz,Zbj];exact u0 _ _ (Ql _ _ (Un j u hu))
 · rename_i r p sz g o PH n c hx;rw[hx]at hr;split at h
   case h_2=>simp at h
   rename_i l h' hl hh;simp only[Zan,Zaq]at h;obtain⟨rfl,rfl⟩:=h;obtain⟨h0,h1,h2,hn⟩:=hC;have b1:(lo.map a.eval=none/\l=0)\/∃ k,lo.map a.eval=some (.int k l):=(Aw hs hl).imp (fun⟨e,f⟩=>⟨by simp[e],f⟩) id;have b2:(hi.map a.eval=none/\h'=n)\/∃ k,hi.map a.eval=some (.int k h'):=(xd hs hh).imp (fun⟨e,f⟩=>⟨by simp[e],f⟩) id;obtain⟨_,XN,A',hv,hA⟩:=hr;have hv:a.eval x=.slice A' n c:=by simpa using hv
   refine⟨.slice (if c=l.toNat then A' else A'.map (·.add (l.toNat*t.sz))) (h'.toNat-l.toNat) (c-l.toNat),?_,?_⟩;simp only[Instr.sliceAt,Instr.slice,Za0,aK hu,Zas,hv,kV (w:=w) (P:=P) (sl:=true) b1 b2 h0 h1 (show h'<=(c:Nat) by omega) XN,dc ht,Za1];refine⟨rfl,Zac,_,rfl,fun hc=>?_⟩;rw[if_neg Zac,hA Zac];subst hn;simp only[Option.map_some,dW,Nat.add_mul,Zbj]
 simp at h
theorem tR{v:V}{y:Value}{cs:List Value}{F1:List Nat}(hy:ni v=some y)(h:R w Pb v cs F1):cs=[y]/\y.oneCell'=true:=by
 cases v <;> simp only[ni,Zan,reduceCtorEq]at hy;subst hy;exact⟨h.2.1,h.1⟩;subst hy;exact⟨h.2,rfl⟩
theorem yW:∀ {vs:List V} {xs cs:List Value} {F1:List Nat},jK vs=some xs->RL w Pb vs cs F1->cs=xs
 | [],xs,cs,F1,h,hr=>by simp only[jK,Zan]at h;rw[<- h,hr.1]
 | v::vs,xs,cs,F1,h,hr=>by
   simp only[jK]at h;split at h;rename_i y ys e1 e2;simp only[Zan]at h;subst h;obtain⟨c1,c2,Fa,Fb,rfl,_,h1,h2⟩:=hr;rw[(tR e1 h1).1,yW e2 h2];rfl;simp at h
theorem zX{v:V}{y x:Value}{F1:List Nat}(hy:valOf v=some y)(h:RV w Pb v x F1):x=y:=by
 cases v with
 | agg vs=>
   simp only[valOf]at hy;split at hy;rename_i xs e;simp only[Zan]at hy;obtain⟨cs,rfl,hr⟩:=h;rw[<- hy,<- yW e hr];simp at hy
 | lit z=>have:=(tR (w:=w) (Pb:=Pb) (v:=.lit z) (y:=y) (cs:=[x]) hy h).1;simpa using this
 | ptr r p g o=>have:=(tR (w:=w) (Pb:=Pb) (v:=.ptr r p g o) (y:=y) (cs:=[x]) hy h).1;simpa using this
 | _=>simp[valOf,ni]at hy
theorem rr(hs:w3 N Pb Kb A a w F):∀ (l:List Operand) {xs:List Value},jK (l.map A.ev)=some xs->l.map a.eval=xs
 | [],xs,h=>by simpa[jK] using h
 | x::l,xs,h=>by
   simp only[Zbe,jK]at h;split at h;rename_i y ys e1 e2;simp only[Zan]at h;subst h;obtain⟨Fx,hr⟩:=dS hs x;have:valOf (A.ev x)=some y:=by
    cases hv:A.ev x <;> rw[hv]at e1 <;> simp only[ni,reduceCtorEq,Zan]at e1 <;> simp[valOf,ni,e1]
   rw[Zbe,zX this hr,rr hs l e2];simp at h
theorem xZ{T:Nat}(h: ¬ DZ (P.underlying T)=true):∃ d,P.underlying T=some d/\∀ m,d≠.interface m:=by
 cases e:P.underlying T with
 | none=>rw[e]at h;exact absurd rfl h
 | some d=>exact⟨d,rfl,fun m c=>by rw[e,c]at h;exact h rfl⟩
theorem wA{op:Op}{C:Prop}{v:V}(h:J1 P A op=some (C,v))(hC:C)(hs:w3 N Pb Kb A a w F){o:Oper}(ho:o.op=op):
 ∃ x,(execOp a.eval o).run P w=.ok (.value x) w/\RV w Pb v x []:=by
 unfold J1 at h;split at h;obtain⟨y,hy,hr⟩:=Ee hs h hC;exact⟨y,Zbu,hr⟩;obtain⟨y,hy,hr⟩:=wQ hs h hC;exact⟨y,Zbu,hr⟩;obtain⟨y,hy,hr⟩:=Dm hs h hC;exact⟨y,Zbu,hr⟩;obtain⟨y,hy,hr⟩:=wR hs h hC;exact⟨y,Zbu,hr⟩;rename_i T x lo hi;split at h;rename_i hT;refine Cp (op:=.slice T x lo hi none) (C:=C) (v:=v) ?_ hC hs ho;unfold RE;simp only[hT];exact h;obtain⟨y,hy,hr⟩:=Gn hs h hC;exact⟨y,by simp only[execOp,ho,Za0,hy,Option.map_none,Zas,Za1],hr⟩;rename_i x;unfold MB at h;obtain⟨Fx,hr⟩:=dS hs x;split at h <;> rename_i e <;> simp only[Zan,Zaq,reduceCtorEq]at h <;> obtain⟨_,rfl⟩:=h <;> rw[e]at hr;have hx:=(List.cons.inj hr.2).1;have hx:a.eval x=.pointer (some ⟨_,_,none⟩):=hx;exact⟨_,by simp only[execOp,ho,hx];rfl,⟨rfl,rfl⟩⟩;have h1:=hr.1;obtain⟨_,b,o',flat,hx,h2⟩:=hr;have hx:=(List.cons.inj hx).1;exact⟨_,by simp only[execOp,ho,hx];rfl,⟨rfl,b,o',flat,rfl,h2⟩⟩;rename_i T x;unfold LS at h;split at h;simp at h;rename_i hi;obtain⟨d,hd,hn⟩:=xZ hi;split at h;rename_i y e;simp only[Zan,Zaq]at h;obtain⟨_,rfl⟩:=h;have hx:=zX e (qg hs x);refine⟨.iface T y,?_,du rfl⟩;have:(Instr.makeInterface T (a.eval x)).run P w=.ok (.iface T y) w:=by
  rw[hx];simp only[Instr.makeInterface,Za0,aK hd,Zas];cases d <;> first | rfl | exact absurd rfl (hn _)
 simp only[execOp,ho,Za0,this,Zas,Za1];simp at h
 · rename_i x xT T;unfold Lr at h;split at h;simp at h;rename_i hi;obtain⟨d,hd,hn⟩:=xZ hi;have zr:∀ z,zeroV P T=some z->∃ y,(zeroValue T).run P w=.ok y w/\RV w Pb z y []:=fun z hz=>by
    unfold zeroV at hz;split at hz;rename_i i hi;simp only[Option.map_eq_some_iff]at hz;obtain⟨y,hy,rfl⟩:=hz;exact⟨y,by simp[zeroValue,typeInfo,hi,hy],rX y⟩;simp at hz
   have tu:∀ (v1:V) (x1:Value) (b:Bool),RV w Pb v1 x1 []->((∀ us,v1≠.tup us)/\∀ b u,v1≠.gv b u)->RV w Pb (.tup [v1,.lit (.bool b)]) (.tuple #[x1,.bool b]) []:=fun v1 x1 b h1 W8=>by
    refine⟨_,rfl,x1,[.bool b],[],[],rfl,rfl,?_,.bool b,[],[],[],rfl,rfl,⟨rfl,rfl,rfl⟩,rfl,rfl⟩;cases v1 with
    | tup us=>exact absurd rfl (W8.1 us)
    | gv b u=>exact absurd rfl (W8.2 b u)
    | _=>exact h1
   have cvn:∀ y:Value,(∀ us,cV y≠.tup us)/\∀ b u,cV y≠.gv b u:=fun y=>by
    constructor <;> intros <;> unfold cV <;> repeat' split
    all_goals first | (solve | simp) | (unfold Vp;split <;> simp)
   have zn:∀ z,zeroV P T=some z->(∀ us,z≠.tup us)/\∀ b u,z≠.gv b u:=fun z hz=>by
    unfold zeroV at hz;split at hz;simp only[Option.map_eq_some_iff]at hz;obtain⟨y,hy,rfl⟩:=hz;exact cvn y;simp at hz
   split at h;rename_i t v z hx hz;simp only[Zan,Zaq]at h;obtain⟨_,rfl⟩:=h;have hx:=bY hs hx;obtain⟨y,hy,Yy⟩:=zr z hz;by_cases ht:t=T;refine⟨.tuple #[v,.bool true],?_,by rw[if_pos ht];exact tu _ _ _ (rX v) (cvn v)⟩;have:(Instr.typeAssert (a.eval x) xT T true).run P w=.ok (.tuple #[v,.bool true]) w:=by
    rw[hx];simp only[Instr.typeAssert,Za0,aK hd,Zas];cases d <;> first | exact absurd rfl (hn _) | simp[ht]
   simp only[execOp,ho,Za0,this,Zas,Za1];refine⟨.tuple #[y,.bool false],?_,by rw[if_neg ht];exact tu _ _ _ Yy (zn z hz)⟩;have:(Instr.typeAssert (a.eval x) xT T true).run P w=.ok (.tuple #[y,.bool false]) w:=by
    rw[hx];simp only[Instr.typeAssert,Za0,aK hd,Zas];cases d <;> first | exact absurd rfl (hn _) | simp[ht,hy]
   simp only[execOp,ho,Za0,this,Zas,Za1];rename_i z hx hz;simp only[Zan,Zaq]at h;obtain⟨_,rfl⟩:=h;have hx:=bY hs hx;obtain⟨y,hy,Yy⟩:=zr z hz;refine⟨.tuple #[y,.bool false],?_,tu _ _ _ Yy (zn z hz)⟩;have:(Instr.typeAssert (a.eval x) xT T true).run P w=.ok (.tuple #[y,.bool false]) w:=by
    rw[hx];simp only[Instr.typeAssert,Za0,aK hd,Zas];cases d <;> first | exact absurd rfl (hn _) | simp[hy]
   simp only[execOp,ho,Za0,this,Zas,Za1];simp at h
 rename_i fn p q;unfold LM at h;split at h;rename_i xs ys e1 e2;simp only[Zan,Zaq]at h;obtain⟨_,rfl⟩:=h;refine⟨.func fn xs.toArray ys.toArray,?_,du rfl⟩;have h1:p.map a.eval=xs.toArray:=by apply Array.ext';simpa using rr hs _ e1
 have h2:q.map a.eval=ys.toArray:=by apply Array.ext';simpa using rr hs _ e2
 simp only[execOp,ho,h1,h2];rfl;simp at h;exact Cp h hC hs ho
end
section
variable {w:World} {Pb Kb:Nat->Prop} {N:Nat} {A A':AS} {a:Act} {F:m4->List Nat} {P:Program}
theorem wF{v:V}{x:Value}{F:List Nat}(ho:v.df=false)(h:RV w Pb v x F):F=[]:=by
 cases v with
 | tup vs=>obtain⟨xs,_,h⟩:=h;exact tC vs (by simpa[V.df] using ho) h
 | gv _ _=>exact h.1
 | agg us=>obtain⟨cs,_,h⟩:=h;exact gi us (by simpa[V.df] using ho) h
 | c9=>exact h
 | own sz xs g o c=>exact jg (w:=w) (Pb:=Pb) _ ho h
 | ow sz xs=>exact jg (w:=w) (Pb:=Pb) _ ho h
 | om es g=>exact jg (w:=w) (Pb:=Pb) _ ho h
 | mp es=>exact jg (w:=w) (Pb:=Pb) _ ho h
 | lit x=>exact jg (w:=w) (Pb:=Pb) _ ho h
 | sl f xs=>exact jg (w:=w) (Pb:=Pb) _ ho h
 | hd r p sz g o lo n c=>exact jg (w:=w) (Pb:=Pb) _ ho h
 | ptr r p g o=>exact jg (w:=w) (Pb:=Pb) _ ho h
 | ep v=>exact jg (w:=w) (Pb:=Pb) _ ho h
def AS.drop(A:AS):Operand->AS
 | .tmp i=>if (A.get i).df then A.put (some i) .c9 else A
 | _=>A
def AS.le(A' A:AS):Prop:=(∀ i,A'.get i=.c9\/A'.get i=A.get i)/\(∀ k,lk k A'.h=none\/lk k A'.h=lk k A.h)
open Classical in
theorem w3.le(hs:w3 N Pb Kb A a w F)(h:A'.le A):∃ F',w3 N Pb Kb A' a w F'/\∀ r g,g∈F' r->g∈F r:=by
 refine⟨fun r=>match r with | .slot i=>if A'.get i=.c9 then [] else F (.slot i) | .key k=>if lk k A'.h=none then [] else F (.key k),?_,?_⟩;have key:∀ r g,g∈(match r with | .slot i=>if A'.get i=.c9 then [] else F (.slot i) | .key k=>if lk k A'.h=none then [] else F (.key k):List Nat)->g∈F r:=by
  intro r g hg;cases r <;> simp only at hg <;> split at hg <;> simp_all
 refine⟨hs.size,hs.defers,fun i=>?_,fun k g v hk=>?_,fun r r' hne g hg=>?_,fun r=>?_,fun r g hg=>hs.free r g (key r g hg),hs.sub,hs.bound⟩;rcases h.1 i with e | e;simp only[e,if_true];rfl;simp only;split;rename_i e';rw[e'];rfl;rw[e];exact hs.slot i;simp only;rw[if_neg (by rw[hk];simp)];rcases h.2 k with e | e;rw[e]at hk;simp at hk;rw[e]at hk;exact hs.root k g v hk;exact fun R7=>hs.cm r r' hne g (key r g hg) (key r' g R7);cases r <;> simp only <;> split <;> first | exact Zba | exact hs.nodup _
 intro r g hg;cases r <;> simp only at hg <;> split at hg <;> simp_all
theorem w3.take(hs:w3 N Pb Kb A a w F)(x:Operand):∃ Fx F',RV w Pb (A.ev x) (a.eval x) Fx/\w3 N Pb Kb (A.drop x) a w F'/\Fx.Nodup/\
 (∀ r g,g∈Fx->g ∉ F' r)/\(∀ g,g∈Fx->¬ Kb g/\g<w.heap.size)/\(∀ r g,g∈F' r->g∈F r)/\∀ g,g∈Fx->∃ r,g∈F r:=by
 cases x with
 | tmp i=>
   by_cases ho:(A.get i).df=true;have hn:(A.drop (.tmp i))=A.put (some i) .c9:=by simp[AS.drop,ho]
   refine⟨F (.slot i),ck F (.slot i) [],hs.slot i,?_,hs.nodup _,fun r g hg=>?_,fun g hg=>hs.free _ g hg,fun r g hg=>?_,fun g hg=>⟨_,hg⟩⟩;rw[hn];refine⟨hs.size,hs.defers,fun j=>?_,fun k g v hk=>?_,fun r r' hne g hg=>?_,fun r=>?_,fun r g hg=>?_,hs.sub,hs.bound⟩;rw[AS.aC];by_cases e:j=i;subst e;simp[ck,RV,WC];have:m4.slot j≠m4.slot i:=fun c=>e (by injection c);simp only[if_neg e,ck,if_neg this];exact hs.slot j;obtain⟨F',e,hr⟩:=hs.root k g v hk;exact⟨F',by simpa[ck] using e,hr⟩;simp only[ck]at hg ⊢;split at hg;simp at hg;split;simp;exact hs.cm r r' hne g hg;simp only[ck];split;exact Zba;exact hs.nodup r;simp only[ck]at hg;split at hg;simp at hg;exact hs.free r g hg;simp only[ck];split;simp;rename_i hne;exact hs.cm _ r (Ne.symm hne) g hg;simp only[ck]at hg;split at hg;simp at hg;exact hg;have SZ:(A.get i).df=false:=by simpa using ho
   have hF:=wF SZ (hs.slot i);refine⟨[],F,by have:=hs.slot i;rw[hF]at this;exact this,by simp[AS.drop,SZ];exact hs,Zba,Zad,Zad,fun _ _ h=>h,Zad⟩
 | const v=>exact⟨[],F,rX v,hs,Zba,Zad,Zad,fun _ _ h=>h,Zad⟩
 | global g=>exact⟨[],F,⟨rfl,rfl⟩,hs,Zba,Zad,Zad,fun _ _ h=>h,Zad⟩
 | func f=>exact⟨[],F,⟨rfl,rfl,rfl⟩,hs,Zba,Zad,Zad,fun _ _ h=>h,Zad⟩
theorem wZ{o:Oper}{K:AS->Prop}{C:Prop}{v:V}(h:J1 P A o.op=some (C,v))(hC:C)(hd:cI N o.dst)(hK:K (A.put o.dst v)):F9 P N o A K:=
 jl hd hK fun _ _ _ _ _ hs=>wA h hC hs rfl
theorem uW{o:Oper}{K:AS->Prop}{x:Operand}(ho:o.op=.assign x)(hd:cI N o.dst)(hK:K ((A.drop x).put o.dst (A.ev x))):F9 P N o A K:=by
 intro Pb Kb a w F Q hs;obtain⟨Fx,F',hr,B0,hnd,w8,hfr,_⟩:=hs.take x;unfold Oper.wp;have:(execOp a.eval o).run P w=.ok (.value (a.eval x)) w:=by simp only[execOp,ho];rfl
 rw[this,Oper.upon_value];cases Pf:o.dst with
 | none=>exact⟨_,Pb,Kb,F',hK,by rw[Pf];exact B0,fun _ h=>h,fun _ h=>h,fun _ h=>.inl h,A4.refl _ _⟩
 | some d=>
   rw[Pf]at hd hK;exact⟨_,Pb,Kb,_,hK,B0.put hd hr (fun r _ g hg=>w8 r g hg) hnd hfr,fun _ h=>h,fun _ h=>h,fun _ h=>.inl h,A4.refl _ _⟩
def gd(ops:Array Oper)(o:Oper)(A:AS)(x y:Prop):Prop:=
 match o.guard with
 | none=>x
 | some (j,b)=>match ((ops[j]?).bind (·.dst)).map A.get with
   | some (.lit (.bool b'))=>if b'=b then x else y
   | some (.gv c (.lit (.bool b')))=>if (c&&(b'==b))=true then x else y
   | _=>False
def WL(P:Program)(N:Nat)(ops:Array Oper):List Oper->AS->(AS->Prop)->Prop
 | [],A,K=>K A
 | o::rest,A,K=>gd ops o A (F9 P N o A fun A'=>WL P N ops rest A' K) (cI N o.dst/\∃ u,(∀ w Pb,RV w Pb u undef [])/\WL P N ops rest (A.put o.dst u) K)
theorem uf{ops:Array Oper}{o:Oper}{x y:Prop}(h:gd ops o A x y)(hs:w3 N Pb Kb A a w F):
 (Region.wanted o (yielded ops a.tmps)=true/\x)\/(Region.wanted o (yielded ops a.tmps)=false/\y):=by
 unfold gd at h;unfold Region.wanted;split at h;rename_i hg;rw[hg];exact .inl ⟨rfl,h⟩;rename_i j b hg;rw[hg];split at h;rename_i b' hd;simp only[Option.map_eq_some_iff]at hd;obtain⟨d,N8,Tr⟩:=hd;have hr:=hs.slot d;rw[Tr]at hr;have hx:a.tmps.getD d undef=.bool b':=by have:=hr.2.1;simpa using this
 have hy:yielded ops a.tmps j=some b':=by
  unfold yielded;rw[N8];simp only[Option.bind_some];cases ht:a.tmps[d]? with
  | none=>simp[ht,undef]at hx
  | some u=>simp[ht]at hx;subst hx;rfl
 simp only[hy];split at h;rename_i e;subst e;exact .inl ⟨Zad,h⟩;rename_i e;exact .inr ⟨by simp[e],h⟩;rename_i c b' hd;simp only[Option.map_eq_some_iff]at hd;obtain⟨d,N8,Tr⟩:=hd;have hr:=hs.slot d;rw[Tr]at hr;obtain⟨_,SD,Ps⟩:=hr;cases c with
 | false=>
   have hx:=Ps rfl;have hy:yielded ops a.tmps j=none:=by
    unfold yielded;rw[N8];simp only[Option.bind_some];cases ht:a.tmps[d]? with
    | none=>simp
    | some u=>simp[ht]at hx;subst hx;rfl
   simp only[hy];simp only[Bool.false_and,Bool.false_eq_true,if_false]at h;exact .inr ⟨Zad,h⟩
 | true=>
   have hx:a.tmps.getD d undef=.bool b':=by have:=(SD rfl).2.1;simpa using this
   have hy:yielded ops a.tmps j=some b':=by
    unfold yielded;rw[N8];simp only[Option.bind_some];cases ht:a.tmps[d]? with
    | none=>simp[ht,undef]at hx
    | some u=>simp[ht]at hx;subst hx;rfl
   simp only[hy];simp only[Bool.true_and,Zbl]at h;split at h;rename_i e;subst e;exact .inl ⟨Zad,h⟩;rename_i e;exact .inr ⟨by simp[e],h⟩
 exact h.elim
theorem Nx.mono{K K':AS->Prop}{a':Act}{w':World}(h:Nx N Pb Kb w K a' w')(hK:∀ A,K A->K' A):Nx N Pb Kb w K' a' w':=by
 obtain⟨A',Pb',E7,F',h1,h2⟩:=h;exact⟨A',Pb',E7,F',hK _ h1,h2⟩
theorem Nx.step{K:AS->Prop} {Pb' E7:Nat->Prop} {Vr:Act} {w' U2:World} (h3:∀ g,Pb g->Pb' g) (h4:∀ g,Kb g->E7 g) (h5:∀ g,Pb' g->Pb g\/¬ Kb g) (h6:A4 Kb w w')
 (h:Nx N Pb' E7 w' K Vr U2):Nx N Pb Kb w K Vr U2:=by
 obtain⟨A2,QN,QW,F2,k1,k2,k3,k4,k5,k6⟩:=h;refine⟨A2,QN,QW,F2,k1,k2,fun g hg=>k3 g (h3 g hg),fun g hg=>k4 g (h4 g hg),fun g hg=>?_,h6.trans k6 h4⟩;rcases k5 g hg with h | h;exact h5 g h;exact .inr fun c=>h (h4 g c)
theorem rj{ops:Array Oper}{Q:Exit->Act->World->Prop}:∀ (l:List Oper) {A:AS} {K:AS->Prop} {Pb Kb:Nat->Prop} {a:Act} {w:World} {F:m4->List Nat},
 WL P N ops l A K->w3 N Pb Kb A a w F->(∀ a' w',Nx N Pb Kb w K a' w'->Q .normal a' w')->wpList P ops Q l a w
 | [],A,K,Pb,Kb,a,w,F,h,hs,hQ=>hQ _ _ ⟨A,Pb,Kb,F,h,hs,fun _ h=>h,fun _ h=>h,fun _ h=>.inl h,A4.refl _ _⟩
 | o::rest,A,K,Pb,Kb,a,w,F,h,hs,hQ=>by
   unfold wpList;rcases uf h hs with ⟨hw,h⟩ | ⟨hw,hd,u,hu,h⟩;rw[if_pos hw];refine .inl (Oper.wp_mono (K:=Nx N Pb Kb w fun A'=>WL P N ops rest A' K) ?_ (h Pb Kb a w F Q hs));intro a' w' ⟨A',Pb',E7,F',h1,h2,h3,h4,h5,h6⟩;exact rj rest h1 h2 fun Vr U2 hn=>hQ Vr U2 (Nx.step h3 h4 h5 h6 hn);rw[if_neg (by simp[hw])];obtain⟨F',B0⟩:=hs.pF (d:=o.dst) (v:=u) (x:=undef) hd (hu w Pb);exact rj rest h B0 hQ
def T(P:Program)(N:Nat)(c:Code)(A:AS)(Q:Exit->AS->Prop):Prop:=
 ∀ Pb Kb a w F,w3 N Pb Kb A a w F->c.wp P (fun e a' w'=>Nx N Pb Kb w (Q e) a' w') a w
theorem lV{c:Code}{Q Q':Exit->AS->Prop}(h:T P N c A Q)(hQ:∀ e A,Q e A->Q' e A):T P N c A Q':=
 fun Pb Kb a w F hs=>wp_mono (h Pb Kb a w F hs) fun e _ _ hn=>hn.mono (hQ e)
theorem Lc{Q:Exit->AS->Prop}(h:Q .normal A):T P N .skip A Q:=
 fun Pb Kb _ _ F hs=>wp_skip ⟨A,Pb,Kb,F,h,hs,fun _ h=>h,fun _ h=>h,fun _ h=>.inl h,A4.refl _ _⟩
theorem Jj{l:Nat}{Q:Exit->AS->Prop}(h:Q .normal A):T P N (.label l) A Q:=
 fun Pb Kb _ _ F hs=>wp_label ⟨A,Pb,Kb,F,h,hs,fun _ h=>h,fun _ h=>h,fun _ h=>.inl h,A4.refl _ _⟩
theorem Lp{i:Nat}{Q:Exit->AS->Prop}(h:Q (.exit i) A):T P N (.exit i) A Q:=
 fun Pb Kb _ _ F hs=>wp_exit ⟨A,Pb,Kb,F,h,hs,fun _ h=>h,fun _ h=>h,fun _ h=>.inl h,A4.refl _ _⟩
theorem MG{i:Nat}{Q:Exit->AS->Prop}(h:Q (.goto i) A):T P N (.goto i) A Q:=
 fun Pb Kb _ _ F hs=>wp_goto ⟨A,Pb,Kb,F,h,hs,fun _ h=>h,fun _ h=>h,fun _ h=>.inl h,A4.refl _ _⟩
theorem Ni{Q:Exit->AS->Prop}(h:Q .ret A):T P N .ret A Q:=
 fun Pb Kb _ _ F hs=>wp_ret ⟨A,Pb,Kb,F,h,hs,fun _ h=>h,fun _ h=>h,fun _ h=>.inl h,A4.refl _ _⟩
def thn(f:AS->Prop)(Q:Exit->AS->Prop):Exit->AS->Prop
 | .normal,A=>f A
 | e,A=>Q e A
theorem MZ{x y:Code}{Q:Exit->AS->Prop}(h:T P N x A (thn (fun A'=>T P N y A' Q) Q)):T P N (.seq x y) A Q:=by
 intro Pb Kb a w F hs;refine wp_seq (wp_mono (h Pb Kb a w F hs) fun e a' w' hn=>?_);cases e with
 | normal=>
   obtain⟨A',Pb',E7,F',h1,h2,h3,h4,h5,h6⟩:=hn;exact wp_mono (h1 Pb' E7 a' w' F' h2) fun e _ _ hn=>Nx.step h3 h4 h5 h6 hn
 | _=>exact hn
theorem Ev{c:Operand}{x y:Code}{Q:Exit->AS->Prop}{b:Bool}(hc:A.ev c=.lit (.bool b))(ht:b=true->T P N x A Q)(hf:b=false->T P N y A Q):T P N (.cond c x y) A Q:=
 fun Pb Kb a w F hs=>wp_cond_split (bY hs hc) (fun h=>ht h Pb Kb a w F hs) (fun h=>hf h Pb Kb a w F hs)
def blk(id:Nat)(Q:Exit->AS->Prop):Exit->AS->Prop
 | .exit WM,A=>if WM=id then Q .normal A else Q (.exit WM) A
 | e,A=>Q e A
theorem JH{id:Nat}{c:Code}{Q:Exit->AS->Prop}(h:T P N c A (blk id Q)):T P N (.block id c) A Q:=by
 intro Pb Kb a w F hs;refine wp_block (wp_mono (h Pb Kb a w F hs) fun e a' w' hn=>?_);cases e with
 | exit WM=>
   simp only[Exit.inBlock];have hb:∀ A,blk id Q (.exit WM) A=if WM=id then Q .normal A else Q (.exit WM) A:=fun _=>rfl;by_cases e:WM=id;rw[if_pos e];exact hn.mono fun A h=>by rw[hb,if_pos e]at h;exact h
   rw[if_neg e];exact hn.mono fun A h=>by rw[hb,if_neg e]at h;exact h
 | _=>exact hn
theorem Lm{c:Code} {Q:Exit->AS->Prop} (I:Nat->AS->Prop) (n:Nat) (h0:I n A)
 (round:∀ n A,I n A->T P N c A (thn (fun A'=> ∃ m,m<n/\I m A') Q)):T P N (.loop c) A Q:=by
 have key:∀ n A (Pb Kb:Nat->Prop) a w F,I n A->w3 N Pb Kb A a w F->∀ (b:Frame) (k:List Item) (cs:List Frame),
  ∃ e a' w',Nx N Pb Kb w (Q e) a' w'/\Arrives P (lone (b.at a (.code c :: .inLoop c::k)) cs w) b k cs e a' w':=by
  intro n;induction n using Nat.strongRecOn with
  | _ n ih=>
    intro A Pb Kb a w F hI hs b k cs;obtain⟨e,Tk,S',hq,Sd⟩:=round n A hI Pb Kb a w F hs b (.inLoop c::k) cs;cases e with
    | normal=>
      obtain⟨A',Pb',E7,F',⟨m,hm,hI'⟩,h2,h3,h4,h5,h6⟩:=hq;obtain⟨x8,a₂,Sr,YD,Vj⟩:=ih m hm A' Pb' E7 Tk S' F' hI' h2 b k cs;exact⟨x8,a₂,Sr,Nx.step h3 h4 h5 h6 YD,.of_steps (Steps.trans Sd (.one step_inLoop)) Vj⟩
    | exit id=>exact⟨_,Tk,S',hq,.pass (x:=.inLoop c) rfl (fun _ _=>.inl Zad) Sd⟩
    | goto l=>exact⟨_,Tk,S',hq,.pass (x:=.inLoop c) rfl (fun _ _=>.inl Zad) Sd⟩
    | ret=>exact⟨_,Tk,S',hq,.pass (x:=.inLoop c) rfl (fun _ _=>.inl Zad) Sd⟩
    | panic ch=>exact⟨_,Tk,S',hq,.pass (x:=.inLoop c) rfl (fun _ _=>.inl Zad) Sd⟩
    | outgrown=>exact⟨_,Tk,S',hq,.pass (x:=.inLoop c) rfl (fun _ _=>.inl Zad) Sd⟩
 intro Pb Kb a w F hs b k cs;obtain⟨e,a',w',hq,Sd⟩:=key n A Pb Kb a w F h0 hs b k cs;exact⟨e,a',w',hq,.of_steps (.one step_loop) Sd⟩
theorem GR{id:Nat}{ops:Array Oper}{Q:Exit->AS->Prop}(h:WL P N ops ops.toList A (Q .normal)):T P N (.region id ops false) A Q:=
 fun _ _ _ _ _ hs=>wp_region_list (rj _ h hs fun _ _ hn=>hn)
end
mutual
def V.er:V->V
 | .own _ xs _ _ _=>.sl false (V.E6 xs)
 | .ow _ xs=>.sl false (V.E6 xs)
 | .om es _=>.mp es
 | .agg vs=>.agg (V.E6 vs)
 | .tup vs=>.tup (V.E6 vs)
 | .gv _ _=>.c9
 | v=>v
def V.E6:List V->List V
 | []=>[]
 | v::vs=>v.er::V.E6 vs
end
def ny(P:Program)(f:FuncId):Prop:= ∀ args w,(callFunc f args).run P w=.ok (.enter f args) w
def PC(P:Program)(f:FuncId)(args:List V)(Q:V->Prop):Prop:=
 ny P f/\∀ (w:World) (Pb:Nat->Prop) (cargs:List Value),(∀ g,Pb g->g<w.heap.size)->RVs w Pb args cargs []->
  Calls P f cargs.toArray w fun e w'=> ∃ r x F Pb',e=.returned x/\Q r/\RV w' Pb' r x F/\F.Nodup/\(∀ g,g∈F->w.heap.size<=g/\g<w'.heap.size/\¬ Pb' g)/\
   (∀ g,Pb g->Pb' g)/\(∀ g,Pb' g->Pb g\/(w.heap.size<=g/\g<w'.heap.size))/\Below w.heap.size w w'
section
variable {w w':World} {Pb Kb Pb':Nat->Prop} {N:Nat} {A A':AS} {a:Act} {F:m4->List Nat} {P:Program}
mutual
theorem HP:∀ v:V,v.er.n=v.n
 | .own .. =>rfl | .ow .. =>rfl | .om .. =>rfl | .mp .. =>rfl | .agg vs=>by simp only[V.er,V.n];exact IB vs
 | .tup _=>rfl | .gv _ _=>rfl | .lit _=>rfl | .sl .. =>rfl | .hd .. =>rfl | .ptr .. =>rfl | .ep _=>rfl | .c9=>rfl
theorem IB:∀ vs:List V,V.ns (V.E6 vs)=V.ns vs
 | []=>rfl | v::vs=>by simp only[V.E6,V.ns,HP v,IB vs]
end
theorem lC:∀ vs:List V,V.E6 vs=vs.map V.er
 | []=>rfl | v::vs=>by simp[V.E6,lC vs]
mutual
theorem ir:∀ (v:V) {cs F},R w Pb v cs F->(∀ g,Pb g->Pb' g)->(∀ g,g∈F->Pb' g)->R w Pb' v.er cs []
 | .lit x,_,_,h,_,_=>⟨h.1,h.2.1,rfl⟩
 | .agg vs,_,_,h,k1,k2=>by simp only[R,V.er]at h ⊢;exact sj vs h k1 k2
 | .tup _,_,_,h,_,_=>by simp[R]at h
 | .gv _ _,_,_,h,_,_=>by simp[R]at h
 | .sl full xs,cs,F,h,k1,k2=>by
   have hF:=h.1;subst hF;exact gF (w:=w) (.sl full xs) h (fun _ _=>rfl) Zad k1 Zad
 | .own sz xs g o c,cs,F,h,k1,k2=>by
   rcases h with ⟨rfl,rfl,rfl,A,rfl⟩ | ⟨h1,h2,h3,rfl,h5,h6,flat,F',cells,rfl,hr,hb,hsz,u0⟩;exact⟨rfl,A,0,rfl,Zbc _,fun h=>by simp at h,.inl rfl⟩;refine⟨rfl,some ⟨g,o,none⟩,c,by rw[lC];simp,by rw[lC];simpa using h3,fun h=>by simp at h,?_⟩;by_cases hx:xs=[];subst hx;exact .inl rfl;refine .inr ⟨g,o,sz,flat,rfl,k2 g Zad,h2,?_,sj xs hr k1 (fun g hg=>k2 g (by simp[hg])),fun j u hu=>by rw[eg hb];exact u0 j u hu⟩;intro v hv;rw[lC]at hv;obtain⟨u,hu,rfl⟩:=List.mem_map.1 hv;rw[HP];exact h5 u hu
 | .ow sz xs,cs,F,h,k1,k2=>by
   obtain⟨g,o,c,h⟩:=h;rcases h with ⟨rfl,rfl,rfl,A,rfl⟩ | ⟨h1,h2,h3,rfl,h5,h6,flat,F',cells,rfl,hr,hb,hsz,u0⟩;exact⟨rfl,A,0,rfl,Zbc _,fun h=>by simp at h,.inl rfl⟩;refine⟨rfl,some ⟨g,o,none⟩,c,by rw[lC];simp,by rw[lC];simpa using h3,fun h=>by simp at h,?_⟩;by_cases hx:xs=[];subst hx;exact .inl rfl;refine .inr ⟨g,o,sz,flat,rfl,k2 g Zad,h2,?_,sj xs hr k1 (fun g hg=>k2 g (by simp[hg])),fun j u hu=>by rw[eg hb];exact u0 j u hu⟩;intro v hv;rw[lC]at hv;obtain⟨u,hu,rfl⟩:=List.mem_map.1 hv;rw[HP];exact h5 u hu
 | .om es g,cs,F,h,k1,k2=>⟨rfl,g,h.2.1,k2 g (by rw[h.1];simp),h.2.2.2⟩
 | .mp es,cs,F,h,k1,_=>by obtain⟨_,g,h1,h2,h3⟩:=h;exact⟨rfl,g,h1,k1 g h2,h3⟩
 | .hd ..,_,_,h,_,_=>⟨rfl,h.2⟩
 | .ptr ..,_,_,h,_,_=>⟨rfl,h.2⟩
 | .ep v,cs,F,h,k1,k2=>by
   have hF:=h.1;subst hF;exact gF (w:=w) (.ep v) h (fun _ _=>rfl) Zad k1 Zad
 | .c9,_,_,h,_,_=>⟨rfl,h.2⟩
theorem sj:∀ (vs:List V) {cs F},RL w Pb vs cs F->(∀ g,Pb g->Pb' g)->(∀ g,g∈F->Pb' g)->RL w Pb' (V.E6 vs) cs []
 | [],_,_,h,_,_=>⟨h.1,rfl⟩
 | v::vs,_,_,h,k1,k2=>by
   obtain⟨c1,c2,F1,F2,rfl,rfl,h1,h2⟩:=h;exact⟨c1,c2,[],[],rfl,rfl,ir v h1 k1 (fun g hg=>k2 g (by simp[hg])),sj vs h2 k1 (fun g hg=>k2 g (by simp[hg]))⟩
end
theorem Ef:∀ (vs:List V) {xs F},RVs w Pb vs xs F->(∀ g,Pb g->Pb' g)->(∀ g,g∈F->Pb' g)->RVs w Pb' (V.E6 vs) xs []
 | [],_,_,h,_,_=>⟨h.1,rfl⟩
 | v::vs,_,_,h,k1,k2=>by
   obtain⟨x,xs',F1,F2,rfl,rfl,h1,h2⟩:=h;refine⟨x,xs',[],[],rfl,rfl,?_,Ef vs h2 k1 (fun g hg=>k2 g (by simp[hg]))⟩;have UJ:∀ g,g∈F1->Pb' g:=fun g hg=>k2 g (by simp[hg]);cases v with
   | agg us=>obtain⟨cs,e,h1⟩:=h1;exact⟨cs,e,sj us h1 k1 UJ⟩
   | c9=>rfl
   | tup _=>simp[R]at h1
   | gv _ _=>simp[R]at h1
   | own sz xs g o c=>exact ir (w:=w) (Pb:=Pb) (.own sz xs g o c) h1 k1 UJ
   | ow sz xs=>exact ir (w:=w) (Pb:=Pb) (.ow sz xs) h1 k1 UJ
   | om es g=>exact ir (w:=w) (Pb:=Pb) (.om es g) h1 k1 UJ
   | mp es=>exact ir (w:=w) (Pb:=Pb) (.mp es) h1 k1 UJ
   | lit x=>exact ir (w:=w) (Pb:=Pb) (.lit x) h1 k1 UJ
   | sl f xs=>exact ir (w:=w) (Pb:=Pb) (.sl f xs) h1 k1 UJ
   | hd r p sz g o lo n c=>exact ir (w:=w) (Pb:=Pb) (.hd r p sz g o lo n c) h1 k1 UJ
   | ptr r p g o=>exact ir (w:=w) (Pb:=Pb) (.ptr r p g o) h1 k1 UJ
   | ep v=>exact ir (w:=w) (Pb:=Pb) (.ep v) h1 k1 UJ
theorem IG{v:V}{x:Value}{F:List Nat}(h:RV w Pb v x F)(k1:∀ g,Pb g->Pb' g)(k2:∀ g,g∈F->Pb' g):RV w Pb' v.er x []:=by
 cases v with
 | tup vs=>obtain⟨xs,e,h⟩:=h;exact⟨xs,e,Ef vs h k1 k2⟩
 | gv _ _=>rfl
 | agg us=>obtain⟨cs,e,h⟩:=h;exact⟨cs,e,sj us h k1 k2⟩
 | c9=>rfl
 | own sz xs g o c=>exact ir (w:=w) (Pb:=Pb) (.own sz xs g o c) h k1 k2
 | ow sz xs=>exact ir (w:=w) (Pb:=Pb) (.ow sz xs) h k1 k2
 | om es g=>exact ir (w:=w) (Pb:=Pb) (.om es g) h k1 k2
 | mp es=>exact ir (w:=w) (Pb:=Pb) (.mp es) h k1 k2
 | lit x=>exact ir (w:=w) (Pb:=Pb) (.lit x) h k1 k2
 | sl f xs=>exact ir (w:=w) (Pb:=Pb) (.sl f xs) h k1 k2
 | hd r p sz g o lo n c=>exact ir (w:=w) (Pb:=Pb) (.hd r p sz g o lo n c) h k1 k2
 | ptr r p g o=>exact ir (w:=w) (Pb:=Pb) (.ptr r p g o) h k1 k2
 | ep v=>exact ir (w:=w) (Pb:=Pb) (.ep v) h k1 k2
theorem w3.grow{QN QW:Nat->Prop} (hs:w3 N Pb Kb A a w F) (hb:∀ k,k<w.heap.size->w'.heap[k]? =w.heap[k]?) (hsz:w.heap.size<=w'.heap.size) (h1:∀ g,Pb g->QN g)
 (h4:∀ g,QW g->Kb g\/(w.heap.size<=g/\g<w'.heap.size)) (h5:∀ g,QN g->QW g):w3 N QN QW A a w' F where
 size:=hs.size
 defers:=hs.defers
 slot:=fun i=>mN _ (hs.slot i) (fun g hg=>hb g (hs.bound g (hs.sub g hg))) (fun g hg=>hb g (hs.free _ g hg).2) h1 (fun g hg c=>by
  have hf:=hs.free _ g hg;rcases h4 g (h5 g c) with h | h;exact hf.1 h;omega)
 root:=fun k g v hk=>by
  obtain⟨F',e,cs,cells,⟨e',fr,L2,hfr⟩,hr,hc⟩:=hs.root k g v hk;have hin:∀ x,x∈g::F'->x<w.heap.size/\¬ QN x:=fun x hx=>by
   have hf:=hs.free (.key k) x (by rw[e];exact hx);refine⟨hf.2,fun c=>?_⟩;rcases h4 x (h5 x c) with h | h;exact hf.1 h;omega
  exact⟨F',e,cs,cells,⟨e',fr,(hb g (hin g Zad).1).trans L2,hfr⟩,gF _ hr (fun g hg=>hb g (hs.bound g (hs.sub g hg))) (fun x hx=>hb x (hin x (by simp[hx])).1) h1 (fun x hx=>(hin x (by simp[hx])).2),hc⟩
 cm:=hs.cm
 nodup:=hs.nodup
 free:=fun r g hg=>by
  have hf:=hs.free r g hg;refine⟨fun c=>?_,Zac⟩;rcases h4 g c with h | h;exact hf.1 h;omega
 sub:=h5
 bound:=fun g hg=>by
  rcases h4 g hg with h | h;have:=hs.bound g h;omega;exact h.2
theorem A4.Av(h:Below w.heap.size w w')(hK:∀ g,Kb g->g<w.heap.size):A4 Kb w w':=
 ⟨h.os,h.tape,h.output,h.size,fun g hg=>h.block g (hK g hg),Shp.of_eq h.block⟩
theorem tN(hs:w3 N Pb Kb A a w F):∀ xs:List Operand,RVs w Pb (xs.map A.cp) (xs.map a.eval) []
 | []=>⟨rfl,rfl⟩
 | x::xs=>by
   refine⟨a.eval x,xs.map a.eval,[],[],rfl,rfl,?_,tN hs xs⟩;have h:=qg hs x;cases hv:A.cp x with
   | tup vs=>
     exfalso;cases x with
     | tmp i=>
       simp only[AS.cp]at hv;cases hg:A.get i <;> rw[hg]at hv <;> first | (solve | simp only[V.cp,V.Ti,reduceCtorEq]at hv) | (unfold V.cp at hv;simp only[V.Ti,reduceCtorEq]at hv)
     | const c=>
       simp only[AS.cp,AS.ev]at hv;cases c <;> simp[cV,Vp]at hv;split at hv <;> simp at hv;split at hv <;> simp at hv
     | _=>simp[AS.cp,AS.ev]at hv
   | gv b u=>
     exfalso;cases x with
     | tmp i=>
       simp only[AS.cp]at hv;cases hg:A.get i <;> rw[hg]at hv <;> first | (solve | simp only[V.cp,V.Ti,reduceCtorEq]at hv) | (unfold V.cp at hv;simp only[V.Ti,reduceCtorEq]at hv)
     | const c=>
       simp only[AS.cp,AS.ev]at hv;cases c <;> simp[cV,Vp]at hv;split at hv <;> simp at hv;split at hv <;> simp at hv
     | _=>simp[AS.cp,AS.ev]at hv
   | agg us=>rw[hv]at h;exact h
   | c9=>rfl
   | own sz xs g o c=>rw[hv]at h;exact h
   | ow sz xs=>rw[hv]at h;exact h
   | om es g=>rw[hv]at h;exact h
   | mp es=>rw[hv]at h;exact h
   | lit x=>rw[hv]at h;exact h
   | sl f xs=>rw[hv]at h;exact h
   | hd r p sz g o lo n c=>rw[hv]at h;exact h
   | ptr r p g o=>rw[hv]at h;exact h
   | ep v=>rw[hv]at h;exact h
theorem GV{o:Oper} {K:AS->Prop} {f:FuncId} {xs:Array Operand} {N2:Array TypeId} {Q:V->Prop} (ho:o.op=.call { callee:=.value (.func f),args:=xs,argTypes:=N2 })
 (hd:cI N o.dst) (hc:PC P f (xs.toList.map A.cp) Q) (hK:∀ r,Q r->K (A.put o.dst r)):F9 P N o A K:=by
 intro Pb Kb a w F Q' hs;unfold Oper.wp;have B6:(execOp a.eval o).run P w=.ok (.enter f (xs.map a.eval)) w:=by
  simp only[execOp,ho,resolve,Act.eval,Deferred.ofValue,Za0,Za1,Zas,invoke];have:=hc.1 (xs.map a.eval) w;simpa using this
 rw[B6,Oper.upon_enter];have hargs:=tN hs xs.toList;have M5:=hc.2 w Pb (xs.toList.map a.eval) (fun g hg=>hs.bound g (hs.sub g hg)) hargs;have e:(xs.toList.map a.eval).toArray=xs.map a.eval:=by rw[<- Array.toList_map,Array.toArray_toList]
 rw[e]at M5;refine M5.mono ?_;rintro e w' ⟨r,x,Fr,Pb',rfl,hq,hr,hnd,hfr,h1,h2,hb⟩;have B0:w3 N Pb' (fun g=>Kb g\/Pb' g) A a w' F:=hs.grow hb.block hb.size h1 (fun g hg=>by
  rcases hg with h | h;exact .inl h;rcases h2 g h with h | h;exact .inl (hs.sub g h);exact .inr h) (fun g hg=>.inr hg)
 have Uf:∀ g,g∈Fr->¬ (Kb g\/Pb' g)/\g<w'.heap.size:=fun g hg=>by
  obtain⟨f1,f2,f3⟩:=hfr g hg;refine⟨fun c=>?_,f2⟩;rcases c with c | c;have:=hs.bound g c;omega;exact f3 c
 have hnx:∀ A' a' F',K A'->w3 N Pb' (fun g=>Kb g\/Pb' g) A' a' w' F'->Nx N Pb Kb w K a' w':=fun A' a' F' hk WX=>
  ⟨A',Pb',_,F',hk,WX,h1,fun g hg=>.inl hg,fun g hg=>by
   rcases h2 g hg with h | h;exact .inl h;exact .inr fun c=>by have:=hs.bound g c;omega,A4.Av hb hs.bound⟩
 cases Pf:o.dst with
 | none=>exact hnx _ _ F (hK r hq) (by rw[Pf];exact B0)
 | some d=>
   rw[Pf]at hd;refine hnx _ _ (ck F (.slot d) Fr) (hK r hq) ?_;rw[Pf];refine B0.put hd hr (fun rt _ g hg=>?_) hnd Uf;intro M6;have:=(hs.free rt g M6).2;have:=(hfr g hg).1;omega
theorem oH{o:Oper} {K:AS->Prop} {f:FuncId} {xs:Array Operand} {N2:Array TypeId} {Q:V->Prop} {E:V} (ho:o.op=.call { callee:=.value (.func f),args:=xs,argTypes:=N2 })
 (hd:cI N o.dst) (hc:PC P f (xs.toList.map A.cp) Q) (hE:∀ r,Q r->r.er=E) (hK:K (A.put o.dst E)):F9 P N o A K:=by
 have M6:PC P f (xs.toList.map A.cp) (fun r=>r=E):=by
  refine⟨hc.1,fun w Pb cargs h1 h2=>(hc.2 w Pb cargs h1 h2).mono ?_⟩;rintro e w' ⟨r,x,Fr,Pb',rfl,hq,hr,hnd,hfr,k1,k2,hb⟩;refine⟨E,x,[],fun g=>Pb' g\/g∈Fr,rfl,rfl,?_,Zba,Zad,fun g hg=>.inl (k1 g hg),fun g hg=>?_,hb⟩;rw[<- hE r hq];exact IG hr (fun g hg=>.inl hg) (fun g hg=>.inr hg);rcases hg with h | h;exact k2 g h;obtain⟨f1,f2,_⟩:=hfr g h;exact .inr ⟨f1,f2⟩
 exact GV ho hd M6 fun r hr=>by rw[hr];exact hK
def enum(k:Nat):List V->List (Nat×V)
 | []=>[]
 | v::vs=>(k,v)::enum (k+1) vs
def yP(A:AS):ResultVar->Option (m4×V)
 | .tmp t=>some (.slot t,A.get t)
 | .cell t _=>match A.get t with
   | .ptr (.key k) [] g 0=>match lk k A.h with
     | some (g',v)=>if g'=g then some (.key k,v) else none
     | none=>none
   | _=>none
def qm(A:AS):List ResultVar->Option (List (m4×V))
 | []=>some []
 | r::rs=>match yP A r,qm A rs with
   | some x,some xs=>some (x::xs)
   | _,_=>none
def pG(P:Program):List ResultVar->List (m4×V)->Prop
 | .cell _ T::rs,(_,v)::xs=>(match ti P T with | some i=>v.n=i.sz/\i.d.agg=v.isAgg | none=>False)/\pG P rs xs
 | .tmp _::rs,(_,v)::xs=>(match v with | .tup _=>False | .gv _ _=>False | _=>True)/\pG P rs xs
 | [],[]=>True
 | _,_=>False
def one(vs:List V):V:=match vs with | [v]=>v | vs=>.tup vs
theorem Bo:∀ (vs:List V) (k i:Nat),lk i (enum k vs)=if k<=i then vs[i-k]? else none
 | [],k,i=>by simp[enum,lk]
 | v::vs,k,i=>by
   simp only[enum,lk];by_cases h:i=k;subst h;simp;rw[if_neg h,Bo vs (k+1) i];by_cases h':k+1<=i;rw[if_pos h',if_pos Zac];have:i-k=(i-(k+1))+1:=Zac;rw[this];rfl;rw[if_neg h',if_neg Zac]
theorem FY:∀ (vs:List V) {xs:List Value} {i:Nat} {v:V},RVs w Pb vs xs []->vs[i]? =some v->∃ x,xs[i]? =some x/\RV w Pb v x []
 | [],_,_,_,_,h=>by simp at h
 | v::vs,xs,0,u,h,hi=>by
     obtain⟨x,xs',F1,F2,rfl,hF,h1,h2⟩:=h;have hF1:F1=[]:=by have:=hF.symm;simp at this;exact this.1
     subst hF1;simp at hi;subst hi;refine⟨x,rfl,?_⟩;cases v with
     | agg us=>exact h1
     | c9=>exact h1
     | tup us=>simp[R]at h1
     | gv _ _=>simp[R]at h1
     | _=>exact h1
 | v::vs,xs,i+1,u,h,hi=>by
     obtain⟨x,xs',F1,F2,rfl,hF,h1,h2⟩:=h;have hF2:F2=[]:=by have:=hF.symm;simp at this;exact this.2
     subst hF2;obtain⟨y,hy,hr⟩:=FY vs h2 Zbn;exact⟨y,by simpa using hy,hr⟩
theorem wY:∀ (vs:List V) {xs:List Value} {F},RVs w Pb vs xs F->xs.length=vs.length
 | [],_,_,h=>by rw[h.1];rfl
 | v::vs,_,_,h=>by
   obtain⟨x,xs',F1,F2,rfl,_,_,h2⟩:=h;simp[wY vs h2]
def Xw(a:Act):ResultVar->Sem Value
 | .tmp t=>pure (a.tmps.getD t undef)
 | .cell t T=>do loadVar T (<- asAddr (a.tmps.getD t undef))
def RD(w:World)(Pb:Nat->Prop)(v:V)(x:Value)(F:List Nat):Prop:=match v with
 | .agg us=> ∃ cs,x=.agg cs/\RL w Pb us cs.toList F
 | .c9=>F=[]
 | v=>R w Pb v [x] F
theorem FB{v:V}{x:Value}{F1:List Nat}(h:RV w Pb v x F1)(hn:(∀ us,v≠.tup us)/\∀ b u,v≠.gv b u):RD w Pb v x F1:=by
 cases v with
 | tup us=>exact absurd rfl (hn.1 us)
 | gv b u=>exact absurd rfl (hn.2 b u)
 | _=>exact h
theorem Md{i:Option TI}{v:V}(h:match i with | some i=>v.n=i.sz/\i.d.agg=v.isAgg | none=>False):∃ j,i=some j/\v.n=j.sz/\j.d.agg=v.isAgg:=by
 cases i with
 | none=>exact h.elim
 | some j=>exact⟨j,rfl,h⟩
instance:LawfulMonad Sem:=LawfulMonad.mk' Sem (id_map:=fun x=>by
 show x.bind (fun a=>Sem.pure (id a))=x;exact Sem.bind_pure' x)
 (pure_bind:=fun _ _=>rfl) (bind_assoc:=fun x f g=>Sem.bind_assoc' x f g)
theorem xW(hs:w3 N Pb Kb A a w F):∀ (rs:List ResultVar) {xs:List (m4×V)},qm A rs=some xs->pG P rs xs->(xs.map (·.1)).Nodup->
 ∃ (vs:List Value) (Fr:List Nat),(rs.mapM (Xw a)).run P w=.ok vs w/\
   RVs w Pb (xs.map (·.2)) vs Fr/\Fr.Nodup/\(∀ g,g∈Fr->∃ r,r∈xs.map (·.1)/\g∈F r)
 | [],xs,h,_,_=>by
   simp[qm]at h;subst h;exact⟨[],[],rfl,⟨rfl,rfl⟩,Zba,Zad⟩
 | r::rs,xs,h,P5,hnd=>by
   simp only[qm]at h;split at h
   case h_2=>simp at h
   rename_i x xs' hx UL;simp only[Zan]at h;subst h;simp only[Zbe,List.nodup_cons]at hnd;have hok2:pG P rs xs':=by
    obtain⟨xr,xv⟩:=x;cases r <;> exact P5.2
   obtain⟨vs,Fr,B6,hrv,Qw,hin⟩:=xW hs rs UL hok2 hnd.2;have h1:∃ (v:Value) (F1:List Nat),(Xw a r).run P w=.ok v w/\RV w Pb x.2 v F1/\((∀ us,x.2≠.tup us)/\∀ b u,x.2≠.gv b u)/\F1.Nodup/\∀ g,g∈F1->g∈F x.1:=by
    cases r with
    | tmp t=>
      simp only[yP,Zan]at hx;subst hx;have P5:=P5.1;exact⟨_,F (.slot t),rfl,hs.slot t,⟨fun us e=>by have e':A.get t=.tup us:=e;rw[e']at P5;exact P5,fun b u e=>by have e':A.get t=.gv b u:=e;rw[e']at P5;exact P5⟩,hs.nodup _,fun _ h=>h⟩
    | cell t T=>
      simp only[yP]at hx;split at hx
      case h_2=>simp at hx
      rename_i k g hg;split at hx
      case h_2=>simp at hx
      rename_i g' v hk;split at hx
      case isFalse=>simp at hx
      rename_i e;subst e;simp only[Zan]at hx;subst hx;have Va:=P5.1;obtain⟨i,hi,Va⟩:=Md Va;obtain⟨F',e,cs,cells,hb,hr,hc⟩:=hs.root k g' v hk;have hp:=hs.slot t;rw[hg]at hp;have hp:a.tmps.getD t undef=.pointer (some ⟨g',0,none⟩):=by have:=hp.2;simpa using this
      obtain⟨y,hy,Yy⟩:=mH (w:=w) hi hr Va.1 Va.2 (g:=g') (o:=0) (fun j u hu=>by rw[eg hb];exact hc j u hu);refine⟨y,F',by simp only[Xw,hp,asAddr,Za0,Za1,Zas,hy],Yy,?_,?_,?_⟩;exact⟨fun us e=>by simp only at e;subst e;simp[R]at hr,fun b u e=>by simp only at e;subst e;simp[R]at hr⟩;have:=hs.nodup (.key k);rw[e]at this;exact(List.nodup_cons.1 this).2;intro g hg;rw[e];simp[hg]
   obtain⟨v,F1,hv,SD,hnt,W6,YP⟩:=h1;refine⟨v::vs,F1++Fr,?_,?_,?_,?_⟩;rw[List.mapM_cons];simp only[Za0,Za1];rw[hv];simp only[Zas,B6];exact⟨v,vs,F1,Fr,rfl,rfl,FB SD hnt,hrv⟩;refine List.nodup_append.2 ⟨W6,Qw,fun p hp q hq e=>?_⟩;subst e;obtain⟨r',F7,R7⟩:=hin p hq;exact hs.cm x.1 r' (fun c=>hnd.1 (by rw[c];exact F7)) p (YP p hp) R7;intro g hg;rcases Zax.1 hg with h | h;exact⟨x.1,Zad,YP g h⟩;obtain⟨r',F7,R7⟩:=hin g h;exact⟨r',by simp only[Zbe,List.mem_cons];exact .inr F7,R7⟩
theorem En:∀ (us:List V) {vs:List Value} {Fr:List Nat},RVs w Pb us vs Fr->RV w Pb (one us) (if h:vs.toArray.size=1 then vs.toArray[0] else .tuple vs.toArray) Fr
 | [],vs,Fr,h=>by obtain⟨rfl,rfl⟩:=h;exact⟨#[],rfl,rfl,rfl⟩
 | [v],vs,Fr,h=>by
   obtain⟨x,xs',F1,F2,rfl,rfl,h1,h2⟩:=h;obtain⟨rfl,rfl⟩:=h2;simp only[List.append_nil];show RV w Pb v x F1;cases v with
   | tup _=>simp[R]at h1
   | gv _ _=>simp[R]at h1
   | _=>exact h1
 | v::v'::us,vs,Fr,h=>by
   have hl:=wY _ h;rw[dif_neg (by simp at hl ⊢;omega)];exact⟨vs.toArray,rfl,Zbq⟩
theorem Bd(hs:w3 N Pb Kb A a w F){fn:Func}{xs:List (m4×V)}(h1:qm A fn.results.toList=some xs)(h2:pG P fn.results.toList xs)(h3:(xs.map (·.1)).Nodup):
 ∃ x Fr,(results fn a.tmps).run P w=.ok x w/\RV w Pb (one (xs.map (·.2))) x Fr/\Fr.Nodup/\∀ g,g∈Fr->∃ r,r∈xs.map (·.1)/\g∈F r:=by
 obtain⟨vs,Fr,B6,hrv,hnd,hin⟩:=xW hs _ h1 h2 h3;have hm:(fn.results.mapM (Xw a)).run P w=.ok vs.toArray w:=by
  rw[<- Array.toArray_toList (xs:=fn.results),List.mapM_toArray,Sem.run_map,B6];rfl
 have hfun:(results fn a.tmps).run P w=.ok (if h:vs.toArray.size=1 then vs.toArray[0] else .tuple vs.toArray) w:=by
  show ((fn.results.mapM (Xw a)).bind _).run P w=_;have:=Za0 (P:=P) (w:=w) (x:=fn.results.mapM (Xw a)) (f:=fun vs=>(pure (if h:vs.size=1 then vs[0] else .tuple vs):Sem Value));rw[hm]at this;exact this
 exact⟨_,Fr,hfun,En _ hrv,hnd,hin⟩
end
def Str(l:BL):ByteArray:=⟨l.toArray⟩
theorem ie(l:BL):(Str l).size=l.length:=by simp[Str,ByteArray.size]
theorem JP(a b:BL):Str a++Str b=Str (a++b):=by
 apply ByteArray.ext;simp[Str]
theorem JF(l:BL)(i j:Nat):(Str l).extract i j=Str ((l.take j).drop i):=by
 apply ByteArray.ext;rw[ByteArray.data_extract];simp[Str,List.extract,List.drop_take]
theorem LX(l:BL)(i:Int):btV (Str l) i=.lit (.int .u8 (l.getD i.toNat 0).toNat):=by
 unfold btV Str;simp[Array.getD,List.getD];split <;> simp_all
def Ml(P:Program)(N:Nat):List Oper->AS->Prop×AS×List Oper
 | [],A=>(True,A,[])
 | o::rest,A=>match o.guard with
   | some _=>(True,A,o::rest)
   | none=>match o.op with
     | .assign x=>match Ml P N rest ((A.drop x).put o.dst (A.ev x)) with
       | (C,r)=>(cI N o.dst/\C,r)
     | op=>match J1 P A op with
       | some (C,v)=>match Ml P N rest (A.put o.dst v) with
         | (C',r)=>(cI N o.dst/\C/\C',r)
       | none=>(True,A,o::rest)
theorem ew{P:Program}{f:FuncId}{fn:Func}(hf:P.funcs[f]? =some fn)(hn:(fn.name== "runtime.NumGoroutine")=false)(hb:fn.body.isNone=false):ny P f:=by
 intro args w;unfold callFunc;simp only[Za0,run_program,Zas,hf,hn,hb,Bool.false_eq_true,if_false,Za1]
def V.set(v:V):List Nat->V->V
 | [],u=>u
 | j::p,u=>match v with
   | .agg vs=>match vs[j]? with
     | some x=>.agg (vs.set j (V.set x p u))
     | none=>v
   | .own sz xs g o c=>match xs[j]? with
     | some x=>.own sz (xs.set j (V.set x p u)) g o c
     | none=>v
   | _=>v
section
variable {w w':World} {Pb Kb:Nat->Prop}
def WE(w:World)(Pb:Nat->Prop)(vs:List V)(g o:Nat)(F:List Nat):Prop:=
 ∃ cs cells,Blk w g cells/\RL w Pb vs cs F/\∀ j u,cs[j]? =some u->cells[o+j]? =some u
theorem ub{v:V}{vs:List V}{g o:Nat}{F:List Nat}:WE w Pb (v::vs) g o F↔∃ F1 F2,F=F1++F2/\At w Pb v g o F1/\WE w Pb vs g (o+v.n) F2:=by
 constructor;rintro⟨cs,cells,hb,⟨c1,c2,F1,F2,rfl,rfl,h1,h2⟩,hc⟩;refine⟨F1,F2,rfl,⟨c1,cells,hb,h1,fun j u hu=>hc j u ?_⟩,⟨c2,cells,hb,h2,fun j u hu=>?_⟩⟩;rw[Za9 (Za3.1 hu).1];exact hu;have hl:=eH v h1;rw[<- hl,Zbj];refine hc _ u ?_;rw[Za4 Zac];have e:c1.length+j-c1.length=j:=Zac;rw[e];exact hu;rintro⟨F1,F2,rfl,⟨c1,cells,⟨e1,f1,hb,hf⟩,h1,Ql⟩,⟨c2,o4,⟨e2,f2,L2,_⟩,h2,Un⟩⟩;rw[hb]at L2;simp only[Zan,Obj.cells.injEq]at L2;obtain⟨rfl,_,_⟩:=L2;refine⟨c1++c2,cells,⟨e1,f1,hb,hf⟩,⟨c1,c2,F1,F2,rfl,rfl,h1,h2⟩,fun j u hu=>?_⟩;have hl:=eH v h1;by_cases hj:j<c1.length;rw[Za9 hj]at hu;exact Ql j u hu;rw[Za4 Zac]at hu;have:=Un _ u hu;rw[<- hl]at this;have e:o+c1.length+(j-c1.length)=o+j:=Zac
 rwa [e]at this
theorem AO{vs:List V}{g o:Nat}{F:List Nat}:At w Pb (.agg vs) g o F↔WE w Pb vs g o F:=by
 constructor;rintro⟨cs,cells,hb,h,hc⟩;exact⟨cs,cells,hb,by simpa only[R] using h,hc⟩;rintro⟨cs,cells,hb,h,hc⟩;exact⟨cs,cells,hb,by simpa only[R] using h,hc⟩
theorem xx{l:List Value}{cells:Array Value}{o:Nat}(h:∀ j u,l[j]? =some u->cells[o+j]? =some u)(hl:l≠[]):o+l.length<=cells.size:=by
 have K4:0<l.length:=List.length_pos_iff.2 hl;have:=h (l.length-1) _ (Zat Zac);have:=(Zbh.1 this).1;omega
theorem pI{v:V} {g o:Nat} {F:List Nat} (h:At w Pb v g o F) (k1:∀ x,Pb x->w'.heap[x]? =w.heap[x]?) (k2:∀ x,x∈F->w'.heap[x]? =w.heap[x]?) (k3:∀ x,x∈F->¬ Pb x)
 (k4:∀ cells,Blk w g cells->∃ o4,Blk w' g o4/\∀ j,o<=j->j<o+v.n->o4[j]? =cells[j]?):At w' Pb v g o F:=by
 obtain⟨cs,cells,hb,hr,hc⟩:=h;obtain⟨o4,L2,he⟩:=k4 cells hb;refine⟨cs,o4,L2,gF v hr k1 k2 (fun _ h=>h) k3,fun j u hu=>?_⟩;have hl:=eH v hr;have hj:=(Za3.1 hu).1;rw[he _ Zac Zac];exact hc j u hu
theorem Fz{vs:List V} {g o:Nat} {F:List Nat} (h:WE w Pb vs g o F) (k1:∀ x,Pb x->w'.heap[x]? =w.heap[x]?) (k2:∀ x,x∈F->w'.heap[x]? =w.heap[x]?) (k3:∀ x,x∈F->¬ Pb x)
 (k4:∀ cells,Blk w g cells->∃ o4,Blk w' g o4/\∀ j,o<=j->j<o+V.ns vs->o4[j]? =cells[j]?):WE w' Pb vs g o F:=by
 rw[<- AO]at h ⊢;exact pI h k1 k2 k3 k4
structure C9 (w w':World) (g o:Nat) (cs:List Value):Prop where
 os:w'.os=w.os
 tape:w'.tape=w.tape
 output:w'.output=w.output
 size:w'.heap.size=w.heap.size
 P7:∀ k,k≠g->w'.heap[k]? =w.heap[k]?
 shape:Shp w w'
 Q0:∀ cells,Blk w g cells->∃ o4,Blk w' g o4/\o4.size=cells.size/\(∀ j,j<o\/o+cs.length<=j->o4[j]? =cells[j]?)/\(∀ j u,cs[j]? =some u->o4[o+j]? =some u)
theorem iA:∀ (p:List Nat) {v u:V} {g o g' o':Nat} {F},At w Pb v g o F->V.at g o v p=some (g',o',u)->(g'=g/\o<=o'/\o'+u.n<=o+v.n)\/g'∈F
 | [],v,u,g,o,g',o',F,h,e=>by
   simp only[V.at,Zan,Zaq]at e;obtain⟨rfl,rfl,rfl⟩:=e;exact .inl ⟨rfl,Zbc _,Zbc _⟩
 | j::p,v,u,g,o,g',o',F,h,e=>by
   simp only[V.at]at e;split at e;rename_i vs;split at e;rename_i x hx;obtain⟨cs,cells,hb,hr,hc⟩:=h;simp only[R]at hr;obtain⟨c,F',F7,hF,M6⟩:=gH vs hr hx;rcases iA p (v:=x) ⟨c,cells,hb,F7,fun i u hu=>by rw[Zbj];exact hc _ _ (M6 i u hu)⟩ e with ⟨h1,h2,h3⟩ | h1;left;refine⟨h1,Zac,?_⟩;have hle:V.ns (vs.take j)+x.n<=V.ns vs:=by
    clear e hr hc F7 M6 hF h3 h2;induction vs generalizing j with
    | nil=>simp at hx
    | cons v0 vs ih=>
      cases j with
      | zero=>simp at hx;subst hx;simp[V.ns]
      | succ j=>have:=ih (j:=j) (by simpa using hx);simp only[List.take_succ_cons,V.ns];omega
   simp only[V.n];omega;exact .inr (hF _ h1);simp at e;rename_i sz xs g1 o1 c1;split at e;rename_i x hx;obtain⟨cs,cells,hb,hr,hc⟩:=h;rcases hr with ⟨_,rfl,_⟩ | ⟨_,_,_,_,ha,_,flat,F',o4,rfl,hr,L2,_,M6⟩;simp at hx;obtain⟨c,PX,F7,hF,QL⟩:=gH xs hr hx;have hj:j<=xs.length:=Zbr
   rw[ef xs j ha hj]at QL;rcases iA p (v:=x) ⟨c,o4,L2,F7,fun i u hu=>Zbs⟩ e with ⟨h1,_⟩ | h1;right;simp[h1];right;simp[hF _ h1];simp at e;simp at e
theorem mO:∀ (p:List Nat) {v u u':V} {g o g' o':Nat},V.at g o v p=some (g',o',u)->u'.n=u.n->(v.set p u').n=v.n
 | [],v,u,u',g,o,g',o',e,h=>by
   simp only[V.at,Zan,Zaq]at e;obtain⟨_,_,rfl⟩:=e;exact h
 | j::p,v,u,u',g,o,g',o',e,h=>by
   simp only[V.at]at e;simp only[V.set];split at e;rename_i vs;split at e;rename_i x hx;have ih:=mO p e h;simp only[hx,V.n];clear e;induction vs generalizing j with
   | nil=>simp at hx
   | cons v0 vs ihv=>
     cases j with
     | zero=>simp at hx;subst hx;simp[V.ns,ih]
     | succ j=>simp only[List.set_cons_succ,V.ns];rw[ihv j (by simpa using hx)]
   simp at e;split at e;rename_i x hx;(try simp only[hx]);rfl;simp at e;simp at e
def SS(w w':World)(Pb:Nat->Prop)(p:List Nat):Prop:= ∀ (v u u':V) (g o g' o':Nat) (F PX:List Nat) (S5:List Value),At w Pb v g o F->(g::F).Nodup->(∀ x,x∈g::F->¬ Pb x)->V.at g o v p=some (g',o',u)->
    R w' Pb u' S5 PX->u'.n=u.n->PX.Nodup->(∀ x,x∈PX->x ∉ g::F)->C9 w w' g' o' S5->(∀ x,Pb x->w'.heap[x]? =w.heap[x]?)->
    ∃ F1,At w' Pb (v.set p u') g o F1/\(g::F1).Nodup/\∀ x,x∈F1->x∈F\/x∈PX
theorem wH{w w':World} {Pb:Nat->Prop} {p:List Nat} (IH:SS w w' Pb p) {x u u':V} {g g' o':Nat} {PX:List Nat} {S5:List Value} (hr:R w' Pb u' S5 PX) (hn:u'.n=u.n) (Qw:PX.Nodup)
 (B5:C9 w w' g' o' S5) (k1:∀ x,Pb x->w'.heap[x]? =w.heap[x]?):
 ∀ (vs:List V) (o:Nat) (F:List Nat) (j:Nat),WE w Pb vs g o F->(g::F).Nodup->(∀ x,x∈g::F->¬ Pb x)->(∀ x,x∈PX->x ∉ g::F)->vs[j]? =some x->V.at g (o+V.ns (vs.take j)) x p=some (g',o',u)->
   ∃ F1,WE w' Pb (vs.set j (x.set p u')) g o F1/\(g::F1).Nodup/\∀ y,y∈F1->y∈F\/y∈PX:=by
 have hcs':=eH u' hr;intro vs;induction vs with
 | nil=>intro o F j _ _ _ _ hx;simp at hx
 | cons v0 vs ih=>
   intro o F j h hnd hP w8 hx e;rw[ub]at h;obtain⟨F1,F2,rfl,h1,h2⟩:=h;have L6:=List.nodup_cons.1 hnd;have Ts:=List.nodup_append.1 L6.2;have UQ:g ∉ F1:=fun c=>L6.1 (by simp[c]);have Zs:g ∉ F2:=fun c=>L6.1 (by simp[c]);cases j with
   | zero=>
     simp at hx;subst hx;simp only[List.take_zero,V.ns,Nat.add_zero]at e;have W6:(g::F1).Nodup:=List.nodup_cons.2 ⟨UQ,Ts.1⟩;obtain⟨F1',hA,hN,hI⟩:=IH _ _ _ _ _ _ _ _ _ _ h1 W6 (fun x hx=>hP x Zbv) e hr hn Qw (fun x hx c=>w8 x hx Zbw) B5 k1;have YC:=iA p h1 e;have hA2:WE w' Pb vs g (o+v0.n) F2:=by
      refine Fz h2 k1 (fun x hx=>B5.P7 x ?_) (fun x hx=>hP x (by simp[hx])) (fun cells hb=>?_);rintro rfl;rcases YC with ⟨rfl,_⟩ | h;exact Zs hx;exact Ts.2.2 _ h _ hx rfl;rcases YC with ⟨rfl,SD,Ps⟩ | h;obtain⟨o4,L2,_,Qx,_⟩:=B5.Q0 cells hb;exact⟨o4,L2,fun j Zp _=>Qx j (.inr Zac)⟩;have hne:g≠g':=fun c=>UQ (by rw[c];exact h);obtain⟨e',fr,hb,hf⟩:=hb;exact⟨cells,⟨e',fr,(B5.P7 g hne).trans hb,hf⟩,fun _ _ _=>rfl⟩
     refine⟨F1'++F2,?_,?_,?_⟩;simp only[List.set_cons_zero];rw[ub];refine⟨F1',F2,rfl,hA,?_⟩;rw[mO p e hn];exact hA2;have S3:=List.nodup_cons.1 hN;refine List.nodup_cons.2 ⟨fun c=>?_,List.nodup_append.2 ⟨S3.2,Ts.2.1,fun x hx y hy c=>?_⟩⟩;rcases Zax.1 c with c | c;exact S3.1 c;exact Zs c;subst c;rcases hI x hx with h | h;exact Ts.2.2 _ h _ hy rfl;exact w8 x h (by simp[hy]);intro y hy;rcases Zax.1 hy with h | h;rcases hI y h with h | h;left;simp[h];right;exact h;left;simp[h]
   | succ j=>
     simp only[List.take_succ_cons,V.ns,<- Zbj]at e;have P1:vs[j]? =some x:=Zbt
     obtain⟨F2',hA,hN,hI⟩:=ih (o+v0.n) F2 j h2 (List.nodup_cons.2 ⟨Zs,Ts.2.1⟩) (fun x hx=>hP x Zbv) (fun x hx c=>w8 x hx Zbw) P1 e;have YC:(g'=g/\o+v0.n<=o')\/g'∈F2:=by
      obtain⟨cs,cells,hb,Ps,Un⟩:=h2;obtain⟨c,F',F7,hF,M6⟩:=gH vs Ps P1;rcases iA p (v:=x) ⟨c,cells,hb,F7,fun i u hu=>by rw[Zbj];exact Un _ _ (M6 i u hu)⟩ e with ⟨h1,h2,h3⟩ | h1;exact .inl ⟨h1,Zac⟩;exact .inr (hF _ h1)
     have hA1:At w' Pb v0 g o F1:=by
      refine pI h1 k1 (fun x hx=>B5.P7 x ?_) (fun x hx=>hP x (by simp[hx])) (fun cells hb=>?_);rintro rfl;rcases YC with ⟨rfl,_⟩ | h;exact UQ hx;exact Ts.2.2 _ hx _ h rfl;rcases YC with ⟨rfl,SD⟩ | h;obtain⟨o4,L2,_,Qx,_⟩:=B5.Q0 cells hb;exact⟨o4,L2,fun j _ hj=>Qx j (.inl Zac)⟩;have hne:g≠g':=fun c=>Zs (by rw[c];exact h);obtain⟨e',fr,hb,hf⟩:=hb;exact⟨cells,⟨e',fr,(B5.P7 g hne).trans hb,hf⟩,fun _ _ _=>rfl⟩
     refine⟨F1++F2',?_,?_,?_⟩;simp only[List.set_cons_succ];rw[ub];exact⟨F1,F2',rfl,hA1,hA⟩;have S3:=List.nodup_cons.1 hN;refine List.nodup_cons.2 ⟨fun c=>?_,List.nodup_append.2 ⟨Ts.1,S3.2,fun x hx y hy c=>?_⟩⟩;rcases Zax.1 c with c | c;exact UQ c;exact S3.1 c;subst c;rcases hI x hy with h | h;exact Ts.2.2 _ hx _ h rfl;exact w8 x h (by simp[hx]);intro y hy;rcases Zax.1 hy with h | h;left;simp[h];rcases hI y h with h | h;left;simp[h];right;exact h
theorem yS{w w':World}{Pb:Nat->Prop}:∀ p,SS w w' Pb p
 | []=>fun v u u' g o g' o' F PX S5 h hnd hP e hr hn Qw w8 B5 k1=>by
   simp only[V.at,Zan,Zaq]at e;obtain⟨rfl,rfl,rfl⟩:=e;obtain⟨cs,cells,hb,_,_⟩:=h;obtain⟨o4,L2,_,_,M6⟩:=B5.Q0 cells hb;exact⟨PX,⟨S5,o4,L2,hr,M6⟩,List.nodup_cons.2 ⟨fun hg=>w8 g hg Zad,Qw⟩,fun x hx=>.inr hx⟩
 | j::p=>fun v u u' g o g' o' F PX S5 h hnd hP e hr hn Qw w8 B5 k1=>by
   have IH:SS w w' Pb p:=yS p;simp only[V.at]at e;simp only[V.set];split at e;rename_i vs;split at e;rename_i x hx
   (try simp only[hx])
   rw[AO]at h;obtain⟨F1,h1,h2,h3⟩:=wH IH hr hn Qw B5 k1 vs o F j h hnd hP w8 hx e;exact⟨F1,AO.2 h1,h2,h3⟩;simp at e;rename_i sz xs g1 o1 c1;split at e;rename_i x hx
   (try simp only[hx])
   obtain⟨cs,cells,hb,U',hc⟩:=h;rcases U' with ⟨_,rfl,_⟩ | ⟨Sb,j6,YN,hcs,ha,UQ,flat,F',L9,rfl,QS,j8,hsz,Ql⟩;simp at hx;have L6:=List.nodup_cons.1 hnd;have hj:j<=xs.length:=Zbr
   have e':V.at g1 (o1+V.ns (xs.take j)) x p=some (g',o',u):=by rw[ef xs j ha hj];exact e
   obtain⟨F1,⟨Pu,PW,SG,WZ,Xj⟩,hN,hI⟩:=wH IH hr hn Qw B5 k1 xs o1 F' j ⟨flat,L9,j8,QS,Ql⟩ L6.2 (fun x hx=>hP x Zbv) (fun x hx c=>w8 x hx Zbw) hx e';have R7:g'=g1\/g'∈F':=by
    obtain⟨c,F2,F7,hF,M6⟩:=gH xs QS hx;rcases iA p (v:=x) ⟨c,L9,j8,F7,fun i u hu=>by rw[Zbj];exact Ql _ _ (M6 i u hu)⟩ e' with ⟨h1,_⟩ | h1;exact .inl h1;exact .inr (hF _ h1)
   have hne:g≠g':=by
    rintro rfl;rcases R7 with h | h;exact L6.1 (by simp[h]);exact L6.1 (by simp[h])
   obtain⟨e1,fr,hbg,hfr⟩:=hb;have T3:PW.size=L9.size:=by
    by_cases Ue:g1=g';subst Ue;obtain⟨c2,⟨e2,f2,l4,_⟩,M4,_⟩:=B5.Q0 L9 j8;obtain⟨e3,f3,m8,_⟩:=SG;rw[l4]at m8;simp only[Zan,Obj.cells.injEq]at m8;obtain⟨rfl,_,_⟩:=m8;exact M4;obtain⟨e2,f2,l4,_⟩:=j8;obtain⟨e3,f3,m8,_⟩:=SG;rw[B5.P7 g1 Ue,l4]at m8;simp only[Zan,Obj.cells.injEq]at m8;rw[m8.1]
   refine⟨g1::F1,⟨cs,cells,⟨e1,fr,(B5.P7 g hne).trans hbg,hfr⟩,.inr ⟨Sb,j6,by simpa using YN,by simpa using hcs,?_,UQ,Pu,F1,PW,rfl,WZ,SG,Zac,Xj⟩,hc⟩,?_,?_⟩;intro y hy;rcases List.mem_or_eq_of_mem_set hy with h | h;exact ha y h;rw[h,mO p e' hn];exact ha x (Za7 hx);refine List.nodup_cons.2 ⟨fun c=>?_,hN⟩;rcases List.mem_cons.1 c with h | h;exact L6.1 (by simp[h]);rcases hI g h with h | h;exact L6.1 (by simp[h]);exact w8 g h Zad;intro y hy;rcases List.mem_cons.1 hy with h | h;left;simp[h];rcases hI y h with h | h;left;simp[h];right;exact h;simp at e;simp at e
end
section
variable {w w':World} {Pb Kb:Nat->Prop} {N:Nat} {A A':AS} {a:Act} {F:m4->List Nat} {P:Program}
mutual
theorem kW:∀ (v:V) {cs F},R w Pb v cs F->∀ c,c∈cs->c.oneCell'=true
 | .lit x,_,_,h=>by obtain⟨h1,rfl,_⟩:=h;simpa using h1
 | .agg vs,_,_,h=>by simp only[R]at h;exact qP vs h
 | .tup _,_,_,h=>by simp[R]at h
 | .gv _ _,_,_,h=>by simp[R]at h
 | .sl ..,_,_,h=>by obtain⟨_,A,c,rfl,_⟩:=h;simp[Value.oneCell']
 | .own ..,_,_,h=>by rcases h with ⟨_,_,_,A,rfl⟩ | ⟨_,_,_,rfl,_⟩ <;> simp[Value.oneCell']
 | .hd ..,_,_,h=>by obtain⟨_,_,A,rfl,_⟩:=h;simp[Value.oneCell']
 | .ow ..,_,_,h=>by obtain⟨g,o,c,h⟩:=h;rcases h with ⟨_,_,_,A,rfl⟩ | ⟨_,_,_,rfl,_⟩ <;> simp[Value.oneCell']
 | .om ..,_,_,h=>by obtain⟨_,rfl,_⟩:=h;simp[Value.oneCell']
 | .mp ..,_,_,h=>by obtain⟨_,g,rfl,_⟩:=h;simp[Value.oneCell']
 | .ptr ..,_,_,h=>by obtain⟨_,rfl⟩:=h;simp[Value.oneCell']
 | .ep _,_,_,h=>by obtain⟨_,b,o,flat,rfl,_⟩:=h;simp[Value.oneCell']
 | .c9,_,_,h=>by obtain⟨_,x,rfl,hx⟩:=h;simpa using hx
theorem qP:∀ (vs:List V) {cs F},RL w Pb vs cs F->∀ c,c∈cs->c.oneCell'=true
 | [],_,_,h=>by rw[h.1];simp
 | v::vs,_,_,h=>by
   obtain⟨c1,c2,F1,F2,rfl,_,h1,h2⟩:=h;intro c hc;rcases Zax.1 hc with h | h;exact kW v h1 c h;exact qP vs h2 c h
end
def V.isVal:V->Bool | .tup _=>false | .gv _ _=>false | .c9=>false | _=>true
theorem gI{x:Value}(h:x.oneCell'=true):x.cells= #[x]:=by cases x <;> simp[Value.oneCell']at h <;> rfl
theorem zB{v:V}{x:Value}{Fv:List Nat}(h:RV w Pb v x Fv)(hv:v.isVal=true):R w Pb v x.cells.toList Fv:=by
 cases v with
 | tup _=>simp[V.isVal]at hv
 | gv _ _=>simp[V.isVal]at hv
 | c9=>simp[V.isVal]at hv
 | agg us=>obtain⟨cs,rfl,h⟩:=h;simp only[R,Value.cells];exact h
 | own sz xs g o c=>have h:R w Pb (.own sz xs g o c) [x] Fv:=h;rw[gI (kW _ h x Zad)];exact h
 | ow sz xs=>have h:R w Pb (.ow sz xs) [x] Fv:=h;rw[gI (kW _ h x Zad)];exact h
 | om es g=>have h:R w Pb (.om es g) [x] Fv:=h;rw[gI (kW _ h x Zad)];exact h
 | mp es=>have h:R w Pb (.mp es) [x] Fv:=h;rw[gI (kW _ h x Zad)];exact h
 | lit y=>have h:R w Pb (.lit y) [x] Fv:=h;rw[gI (kW _ h x Zad)];exact h
 | sl f xs=>have h:R w Pb (.sl f xs) [x] Fv:=h;rw[gI (kW _ h x Zad)];exact h
 | hd r p sz g o lo n c=>have h:R w Pb (.hd r p sz g o lo n c) [x] Fv:=h;rw[gI (kW _ h x Zad)];exact h
 | ptr r p g o=>have h:R w Pb (.ptr r p g o) [x] Fv:=h;rw[gI (kW _ h x Zad)];exact h
 | ep v=>have h:R w Pb (.ep v) [x] Fv:=h;rw[gI (kW _ h x Zad)];exact h
theorem C9.nil(w:World)(g o:Nat):C9 w w g o []:=
 ⟨rfl,rfl,rfl,rfl,fun _ _=>rfl,Shp.refl _,fun cells hb=>⟨cells,hb,rfl,fun _ _=>rfl,fun j u hu=>by simp at hu⟩⟩
theorem C9.cons{w1 w2:World}{g o:Nat}{v:Value}{vs:List Value}(h1:C9 w w1 g o [v])(h2:C9 w1 w2 g (o+1) vs):C9 w w2 g o (v::vs):=by
 refine⟨h2.os.trans h1.os,h2.tape.trans h1.tape,h2.output.trans h1.output,h2.size.trans h1.size,fun k hk=>(h2.P7 k hk).trans (h1.P7 k hk),h1.shape.trans h2.shape,fun cells hb=>?_⟩;obtain⟨c1,j8,PA,YQ,W8⟩:=h1.Q0 cells hb;obtain⟨c2,l4,M4,R9,W7⟩:=h2.Q0 c1 j8;refine⟨c2,l4,M4.trans PA,fun j hj=>?_,fun j u hu=>?_⟩;simp only[Zar]at hj;rw[R9 j Zac,YQ j Zal];cases j with
 | zero=>
   simp at hu;subst hu;rw[R9 _ Zac];exact W8 0 v rfl
 | succ j=>
   have:=W7 j u (by simpa using hu);rw[<- this];congr 1;omega
theorem gV{g o:Nat}:∀ (vs:List Value) (i:Nat) (w:World) (cells:Array Value),Blk w g cells->o+i+vs.length<=cells.size->(∀ v,v∈vs->v.oneCell'=true)->
 ∃ w',(storeCells ⟨g,o,none⟩ vs i).run P w=.ok () w'/\C9 w w' g (o+i) vs
 | [],i,w,cells,_,_,_=>⟨w,rfl,C9.nil w g _⟩
 | v::vs,i,w,cells,hb,hl,h1=>by
   obtain⟨e,fr,Up,hfr⟩:=hb;simp only[Zar]at hl;have hlt:o+i<cells.size:=Zac;have hc:w.cell? ⟨g,o+i,none⟩=some cells[o+i]:=by simp[World.cell?,Up,hlt]
   have hf:w.frozen? ⟨g,o+i,none⟩=false:=by
    have:=hfr (o+i) Zac;simp only[World.frozen?,Up,Bool.and_eq_false_iff,decide_eq_false_iff_not];by_cases h:fr.1<=o+i;right;exact fun c=>this ⟨h,c⟩;left;exact h
   have B5:C9 w (w.setCell ⟨g,o+i,none⟩ v) g (o+i) [v]:=by
    refine⟨rfl,rfl,rfl,by simp[World.setCell],fun k hk=>Below.heap_setCell _ _ _ _ hk,fun k c e2 fr2 hk=>?_,fun o4 L2=>?_⟩;by_cases hkg:k=g;subst hkg;exact⟨c.setIfInBounds (o+i) v,by simp[World.setCell,Array.getElem?_modify,hk],Zad⟩;exact⟨c,(Below.heap_setCell _ _ _ _ hkg).trans hk,rfl⟩;obtain⟨e',ZA,L2,hfr'⟩:=L2;refine⟨o4.setIfInBounds (o+i) v,⟨e',ZA,?_,by simpa using hfr'⟩,Zad,fun j hj=>?_,fun j u hu=>?_⟩;simp[World.setCell,Array.getElem?_modify,L2];rw[Array.getElem?_setIfInBounds_ne];simp at hj;omega;cases j with
    | zero=>
      simp at hu;subst hu;rw[Up]at L2;simp only[Zan,Obj.cells.injEq]at L2;obtain⟨rfl,_,_⟩:=L2;simp[hlt]
    | succ j=>simp at hu
   have j8:Blk (w.setCell ⟨g,o+i,none⟩ v) g (cells.setIfInBounds (o+i) v):=
    ⟨e,fr,by simp[World.setCell,Array.getElem?_modify,Up],by simpa using hfr⟩
   obtain⟨w',hr,N6⟩:=gV (g:=g) (o:=o) vs (i+1) _ _ j8 (by rw[Array.size_setIfInBounds];omega) (fun u hu=>h1 u (by simp[hu]));refine⟨w',?_,B5.cons (by rw[Zbj];exact N6)⟩;simp only[storeCells,Za0,dW,run_store P w _ v .plain (h1 v Zad),hc,hf,Bool.false_eq_true,if_false,Zas];exact hr
theorem Jk{p:List Nat} {x u u':V} {sz j g1 o1 c1 g' o':Nat} {xs:List V} {cs S5:List Value} {F1 PX:List Nat} (U':R w Pb (.own sz xs g1 o1 c1) cs F1) (hnd:F1.Nodup) (hP:∀ x,x∈F1->¬ Pb x)
 (hx:xs[j]? =some x) (e:V.at g1 (o1+j*sz) x p=some (g',o',u)) (hr:R w' Pb u' S5 PX) (hn:u'.n=u.n) (Qw:PX.Nodup) (w8:∀ x,x∈PX->x ∉ F1) (B5:C9 w w' g' o' S5)
 (k1:∀ x,Pb x->w'.heap[x]? =w.heap[x]?):∃ F2,R w' Pb (.own sz (xs.set j (x.set p u')) g1 o1 c1) cs F2/\F2.Nodup/\(∀ y,y∈F2->y∈F1\/y∈PX)/\g'∈F1:=by
 rcases U' with ⟨_,rfl,_⟩ | ⟨Sb,j6,YN,hcs,ha,UQ,flat,F',L9,rfl,QS,j8,hsz,Ql⟩;simp at hx;have hj:j<=xs.length:=Zbr
 have e':V.at g1 (o1+V.ns (xs.take j)) x p=some (g',o',u):=by rw[ef xs j ha hj];exact e
 obtain⟨F2,⟨Pu,PW,SG,WZ,Xj⟩,hN,hI⟩:=wH (yS p) hr hn Qw B5 k1 xs o1 F' j ⟨flat,L9,j8,QS,Ql⟩ hnd hP w8 hx e';have R7:g'=g1\/g'∈F':=by
  obtain⟨c,F2,F7,hF,M6⟩:=gH xs QS hx;rcases iA p (v:=x) ⟨c,L9,j8,F7,fun i u hu=>by rw[Zbj];exact Ql _ _ (M6 i u hu)⟩ e' with ⟨h1,_⟩ | h1;exact .inl h1;exact .inr (hF _ h1)
 have T3:PW.size=L9.size:=by
  by_cases Ue:g1=g';subst Ue;obtain⟨c2,⟨e2,f2,l4,_⟩,M4,_⟩:=B5.Q0 L9 j8;obtain⟨e3,f3,m8,_⟩:=SG;rw[l4]at m8;simp only[Zan,Obj.cells.injEq]at m8;obtain⟨rfl,_,_⟩:=m8;exact M4;obtain⟨e2,f2,l4,_⟩:=j8;obtain⟨e3,f3,m8,_⟩:=SG;rw[B5.P7 g1 Ue,l4]at m8;simp only[Zan,Obj.cells.injEq]at m8;rw[m8.1]
 refine⟨g1::F2,.inr ⟨Sb,j6,by simpa using YN,by simpa using hcs,?_,UQ,Pu,F2,PW,rfl,WZ,SG,Zac,Xj⟩,hN,?_,?_⟩;intro y hy;rcases List.mem_or_eq_of_mem_set hy with h | h;exact ha y h;rw[h,mO p e' hn];exact ha x (Za7 hx);intro y hy;rcases List.mem_cons.1 hy with h | h;left;simp[h];rcases hI y h with h | h;left;simp[h];right;exact h;rcases R7 with h | h <;> simp[h]
def AS.setAt(A:AS)(r:m4)(p:List Nat)(v:V):AS:=
 match r with
 | .key k=>match lk k A.h with
   | some (g,t)=>{ A with h:=(k,(g,t.set p v))::A.h }
   | none=>A
 | .slot i=>{ A with t:=(i,(A.get i).set p v)::A.t }
theorem w3.store(hs:w3 N Pb Kb A a w F) {r:m4} {p:List Nat} {g o:Nat} {old v:V} {cs:List Value} {Fv:List Nat} (A8:A.at r p=some (g,o,old)) (hr:R w Pb v cs Fv) (hn:v.n=old.n)
 (hnd:Fv.Nodup) (w8:∀ r g,g∈Fv->g ∉ F r) (hfr:∀ g,g∈Fv->¬ Kb g/\g<w.heap.size) (B5:C9 w w' g o cs):∃ F',w3 N Pb Kb (A.setAt r p v) a w' F'/\¬ Kb g:=by
 have XV:∀ r g,g∈F r->¬ Pb g:=fun r g hg c=>(hs.free r g hg).1 (hs.sub g c)
 have main:∃ Fr,g∈F r/\(∀ x,Pb x->w'.heap[x]? =w.heap[x]?)/\Fr.Nodup/\(∀ y,y∈Fr->y∈F r\/y∈Fv)/\
  (match r with
   | .key k=> ∀ g0 t,lk k A.h=some (g0,t)->∃ F',Fr=g0::F'/\At w' Pb (t.set p v) g0 0 F'
   | .slot i=>RV w' Pb ((A.get i).set p v) (a.tmps.getD i undef) Fr):=by
  have kk:∀ r,g∈F r->∀ x,Pb x->w'.heap[x]? =w.heap[x]? :=fun r hg x hx=>B5.P7 x (by rintro rfl;exact XV r _ hg hx);have F7:∀ r,g∈F r->R w' Pb v cs Fv:=fun r hg=>gF v hr (kk r hg) (fun x hx=>B5.P7 x (by rintro rfl;exact w8 r _ hx hg)) (fun _ h=>h) (fun x hx c=>(hfr x hx).1 (hs.sub x c));cases r with
  | key k=>
    simp only[AS.at]at A8;split at A8
    case h_2=>simp at A8
    rename_i g0 t hk;obtain⟨F',e,hA⟩:=hs.root k g0 t hk;have S2:g∈F (.key k):=by
     rw[e];rcases iA p hA A8 with ⟨rfl,_⟩ | h;simp;simp[h]
    have YK:=hs.nodup (.key k);rw[e]at YK;obtain⟨F1,h1,h2,h3⟩:=yS (w:=w) (w':=w') p _ _ _ _ _ _ _ _ _ _ hA YK (fun x hx=>XV (.key k) x (by rw[e];exact hx)) A8 (F7 _ S2) hn hnd (fun x hx c=>w8 (.key k) x hx (by rw[e];exact c)) B5 (kk _ S2);refine⟨g0::F1,S2,kk _ S2,h2,fun y hy=>?_,fun g0' t' Rv=>?_⟩;rw[e];rcases List.mem_cons.1 hy with h | h;left;simp[h];rcases h3 y h with h | h;left;simp[h];exact .inr h;rw[hk]at Rv;simp only[Zan,Zaq]at Rv;obtain⟨rfl,rfl⟩:=Rv;exact⟨F1,rfl,h1⟩
  | slot i=>
    simp only[AS.at]at A8;split at A8
    case h_2=>simp at A8
    rename_i sz xs g1 o1 c1 j p hi;have hrv:=hs.slot i;rw[hi]at hrv;simp only[V.at]at A8;split at A8
    case h_2=>simp at A8
    rename_i x hx;have S2:g∈F (.slot i):=by
     rcases hrv with ⟨_,rfl,_⟩ | ⟨_,_,_,_,ha,_,flat,F',o4,hF,QS,L2,_,M6⟩;simp at hx;obtain⟨c,PX,F7,QT,QL⟩:=gH xs QS hx;have hj:j<=xs.length:=Zbr
     rw[ef xs j ha hj]at QL;rw[hF];rcases iA p (v:=x) ⟨c,o4,L2,F7,fun i u hu=>Zbs⟩ A8 with ⟨rfl,_⟩ | h;simp;simp[QT _ h]
    obtain⟨F2,h1,h2,h3,_⟩:=Jk (w:=w) (w':=w') hrv (hs.nodup _) (XV _) hx A8 (F7 _ S2) hn hnd (w8 _) B5 (kk _ S2);refine⟨F2,S2,kk _ S2,h2,h3,?_⟩;simp only[hi,V.set,hx];exact h1
 obtain⟨Fr,S2,kk,hndr,Xd,hm⟩:=main;have Uf:∀ y,y∈Fr->¬ Kb y/\y<w.heap.size:=fun y hy=>by
  rcases Xd y hy with h | h;exact hs.free r y h;exact hfr y h
 have Qx:∀ r' x,r'≠r->x∈F r'->w'.heap[x]? =w.heap[x]? :=fun r' x hne hx=>B5.P7 x (by rintro rfl;exact hs.cm r' r hne _ hx S2);refine⟨ck F r Fr,⟨?_,?_,fun i=>?_,fun k g0 t hk=>?_,fun r1 r2 hne y hy=>?_,fun r1=>?_,fun r1 y hy=>?_,hs.sub,fun y hy=>by rw[B5.size];exact hs.bound y hy⟩,(hs.free r g S2).1⟩;exact hs.size;exact hs.defers;by_cases UN:r=.slot i;subst UN;simp only[ck,if_true,AS.setAt,AS.get,lk,Option.getD_some];exact hm;simp only[ck,if_neg (Ne.symm UN)];have:(A.setAt r p v).get i=A.get i:=by
  cases r with
  | key k=>simp only[AS.setAt];split <;> rfl
  | slot j=>simp only[AS.setAt,AS.get,lk];rw[if_neg (fun c=>UN (by rw[c]))]
 rw[this];exact mN _ (hs.slot i) kk (fun x hx=>Qx _ x (Ne.symm UN) hx) (fun _ h=>h) (fun x hx=>XV _ x hx);by_cases U8:r=.key k;subst U8;simp only[AS.setAt]at hk;have Tf:∃ g1 t1,lk k A.h=some (g1,t1):=by
  simp only[AS.at]at A8;split at A8;rename_i g1 t1 h;exact⟨g1,t1,h⟩;simp at A8
 obtain⟨g1,t1,Tf⟩:=Tf;rw[Tf]at hk;simp only[lk,if_true,Zan,Zaq]at hk;obtain⟨rfl,rfl⟩:=hk;obtain⟨F',e,hA⟩:=hm _ _ Tf;exact⟨F',by simp[ck,e],hA⟩;have Rv:lk k A.h=some (g0,t):=by
  cases r with
  | slot j=>exact hk
  | key k'=>
    simp only[AS.setAt]at hk;split at hk;simp only[lk]at hk;rwa [if_neg (fun c=>U8 (by rw[c]))]at hk;exact hk
 obtain⟨F',e,hA⟩:=hs.root k g0 t Rv;refine⟨F',by simp only[ck,if_neg (Ne.symm U8)];exact e,pI hA kk (fun x hx=>Qx (.key k) x (Ne.symm U8) (by rw[e];simp[hx])) (fun x hx=>XV (.key k) x (by rw[e];simp[hx])) (fun cells hb=>?_)⟩;obtain⟨e',fr,hb,hf⟩:=hb;exact⟨cells,⟨e',fr,(Qx (.key k) g0 (Ne.symm U8) (by rw[e];simp)).trans hb,hf⟩,fun _ _ _=>rfl⟩;simp only[ck]at hy ⊢;split at hy;rename_i h1;rw[if_neg (fun c=>hne (h1.trans c.symm))];subst h1;rcases Xd y hy with h | h;exact hs.cm _ _ hne y h;exact w8 r2 y h;rename_i h1;split;rename_i h2;subst h2;intro c;rcases Xd y c with h | h;exact hs.cm _ _ hne y hy h;exact w8 r1 y h hy;exact hs.cm r1 r2 hne y hy;simp only[ck];split;exact hndr;exact hs.nodup r1;simp only[ck]at hy;rw[B5.size];split at hy;exact Uf y hy;exact hs.free r1 y hy
end
mutual
def V.flat:V->Option (List Value)
 | .lit x=>if x.oneCell' then some [x] else none
 | .sl true []=>some [.slice none 0 0]
 | .agg vs=>V.wo vs
 | _=>none
def V.wo:List V->Option (List Value)
 | []=>some []
 | v::vs=>match v.flat,V.wo vs with
   | some a,some b=>some (a++b)
   | _,_=>none
end
def nz(P:Program)(T:Nat)(v:V):Prop:= ∃ inf z,P.info? T=some inf/\inf.zero=some z/\v.flat=some z.cells.toList
section
variable {w w':World} {Pb Kb:Nat->Prop} {N:Nat} {A A':AS} {a:Act} {F:m4->List Nat} {P:Program}
mutual
theorem rK:∀ (v:V) {cs},v.flat=some cs->R w Pb v cs []
 | .lit x,cs,h=>by
   simp only[V.flat]at h;split at h;rename_i hx;simp at h;subst h;exact⟨hx,rfl,rfl⟩;simp at h
 | .sl true [],cs,h=>by simp[V.flat]at h;subst h;exact⟨rfl,none,0,rfl,Zbc _,fun _=>rfl,.inl rfl⟩
 | .sl true (x::xs),cs,h=>by simp[V.flat]at h
 | .sl false xs,cs,h=>by simp[V.flat]at h
 | .agg vs,cs,h=>by simp only[V.flat]at h;simp only[R];exact CP vs h
 | .tup _,_,h=>by simp[V.flat]at h
 | .gv _ _,_,h=>by simp[V.flat]at h
 | .own ..,_,h=>by simp[V.flat]at h
 | .hd ..,_,h=>by simp[V.flat]at h
 | .ow ..,_,h=>by simp[V.flat]at h
 | .om ..,_,h=>by simp[V.flat]at h
 | .mp ..,_,h=>by simp[V.flat]at h
 | .ptr ..,_,h=>by simp[V.flat]at h
 | .ep _,_,h=>by simp[V.flat]at h
 | .c9,_,h=>by simp[V.flat]at h
theorem CP:∀ (vs:List V) {cs},V.wo vs=some cs->RL w Pb vs cs []
 | [],cs,h=>by simp[V.wo]at h;subst h;exact⟨rfl,rfl⟩
 | v::vs,cs,h=>by
   simp only[V.wo]at h;split at h;rename_i a b h1 h2;simp at h;subst h;exact⟨a,b,[],[],rfl,rfl,rK v h1,CP vs h2⟩;simp at h
end
theorem alloc_old(w:World)(o:Obj)(k:Nat)(h:k<w.heap.size):(w.alloc o).heap[k]? =w.heap[k]? :=Below.heap_alloc w o k h
theorem dJ(w:World)(o:Obj):(w.alloc o).heap.size=w.heap.size+1:=Zad
theorem gK(w:World)(o:Obj):(w.alloc o).heap[w.heap.size]? =some o:=heap_alloc_new w o
theorem w3.ob(hs:w3 N Pb Kb A a w F)(o:Obj):w3 N Pb Kb A a (w.alloc o) F:=
 hs.grow (fun k hk=>alloc_old w o k hk) Zbx (fun _ h=>h) (fun g hg=>.inl hg) hs.sub
theorem w3.NM(hs:w3 N Pb Kb A a w F)(o:Obj):w3 N (fun g=>Pb g\/g=w.heap.size) (fun g=>Kb g\/g=w.heap.size) A a (w.alloc o) F:=
 hs.grow (fun k hk=>alloc_old w o k hk) Zbx (fun _ h=>.inl h) (fun g hg=>hg.imp id fun h=>Zbx) (fun g hg=>hg.imp (hs.sub g) id)
theorem w3.CD(hs:w3 N Pb Kb A a w F){k g:Nat}{v:V}{Fv:List Nat}(hA:At w Pb v g 0 Fv)(hnd:(g::Fv).Nodup)(w8:∀ r x,x∈g::Fv->x ∉ F r)(hfr:∀ x,x∈g::Fv->¬ Kb x/\x<w.heap.size):
 w3 N Pb Kb { A with h:=(k,(g,v))::A.h } a w (ck F (.key k) (g::Fv)) where
 size:=hs.size
 defers:=hs.defers
 slot:=fun i=>by simp only[ck,reduceCtorEq,if_false];exact hs.slot i
 root:=fun k' g' v' hk=>by
  simp only[lk]at hk;by_cases e:k'=k;subst e;simp only[if_true,Zan,Zaq]at hk;obtain⟨rfl,rfl⟩:=hk;exact⟨Fv,by simp[ck],hA⟩;rw[if_neg e]at hk;obtain⟨F',e',YY⟩:=hs.root k' g' v' hk;exact⟨F',by simp only[ck];rw[if_neg (fun c=>e (by injection c))];exact e',YY⟩
 cm:=fun r r' hne x hx=>by
  simp only[ck]at hx ⊢;split at hx;rename_i h1;rw[if_neg (fun c=>hne (h1.trans c.symm))];exact w8 r' x hx;split;exact fun c=>w8 r x c hx;exact hs.cm r r' hne x hx
 nodup:=fun r=>by
  simp only[ck];split;exact hnd;exact hs.nodup r
 free:=fun r x hx=>by
  simp only[ck]at hx;split at hx;exact hfr x hx;exact hs.free r x hx
 sub:=hs.sub
 bound:=hs.bound
theorem A4.alloc(hK:∀ g,Kb g->g<w.heap.size)(o:Obj):A4 Kb w (w.alloc o):=
 ⟨rfl,rfl,rfl,Zbx,fun g hg=>alloc_old w o g (hK g hg),Shp.of_eq fun g hg=>alloc_old w o g hg⟩
theorem w3.Jm(hs:w3 N Pb Kb A a w F){d:Nat}(hd:d<N){v:V}{cs:Array Value}{e:TypeId}(hr:R w Pb v cs.toList []):
 ∃ F',w3 N Pb Kb ⟨(A.put (some d) (.ptr (.key d) [] w.heap.size 0)).t,(d,(w.heap.size,v))::A.h⟩ (a.put (some d) (.pointer (some ⟨w.heap.size,0,none⟩))) (w.alloc (.cells cs e)) F':=by
 have h1:=hs.ob (.cells cs e);have h2:=h1.put (d:=d) (v:=.ptr (.key d) [] w.heap.size 0) (x:=.pointer (some ⟨w.heap.size,0,none⟩)) (F':=[]) hd ⟨rfl,rfl⟩ Zad Zad Zad
 have hA:At (w.alloc (.cells cs e)) Pb v w.heap.size 0 []:=
  ⟨cs.toList,cs,⟨e,(0,0),gK w _,fun i _ h=>by omega⟩,gF v hr (fun g hg=>alloc_old w _ g (hs.bound g (hs.sub g hg))) Zad (fun _ h=>h) Zad,fun j u hu=>by simpa using hu⟩
 refine⟨_,h2.CD (k:=d) hA Zad (fun r x hx c=>?_) (fun x hx=>?_)⟩;simp at hx;subst hx;simp only[ck]at c;split at c;simp at c;have:=(hs.free r _ c).2;omega;simp at hx;subst hx;refine⟨fun c=>?_,Zbx⟩;have:=hs.bound _ c;omega
theorem tl{o:Oper} {K:AS->Prop} {d:Nat} {v:V} (hd:o.dst=some d) (hN:d<N)
 (B6:∀ Pb Kb a w F,w3 N Pb Kb A a w F->∃ cs e,(execOp a.eval o).run P w=.ok (.value (.pointer (some ⟨w.heap.size,0,none⟩))) (w.alloc (.cells cs e))/\R w Pb v cs.toList [])
 (hK:∀ g,K ⟨(A.put (some d) (.ptr (.key d) [] g 0)).t,(d,(g,v))::A.h⟩):F9 P N o A K:=by
 intro Pb Kb a w F Q hs;obtain⟨cs,e,hx,hr⟩:=B6 Pb Kb a w F hs;unfold Oper.wp;rw[hx,Oper.upon_value,hd];obtain⟨F',B0⟩:=hs.Jm hN (e:=e) hr;exact⟨_,Pb,Kb,F',hK _,B0,fun _ h=>h,fun _ h=>h,fun _ h=>.inl h,A4.alloc hs.bound _⟩
theorem jE(e:TypeId)(cs:Array Value):(newRow e cs).run P w=.ok ⟨w.heap.size,0,none⟩ (w.alloc (.cells cs e)):=rfl
theorem rn{o:Oper} {K:AS->Prop} {d T:Nat} {v:V} (ho:o.op=.alloc T) (hd:o.dst=some d) (hN:d<N) (hz:nz P T v)
 (hK:∀ g,K ⟨(A.put (some d) (.ptr (.key d) [] g 0)).t,(d,(g,v))::A.h⟩):F9 P N o A K:=by
 refine tl hd hN (fun Pb Kb a w F hs=>?_) hK;obtain⟨inf,z,h1,h2,h3⟩:=hz;refine⟨z.cells,T,?_,rK v h3⟩;simp[execOp,ho,Instr.alloc,zeroValue,typeInfo,h1,h2,newVar,jE]
theorem Kq{o:Oper} {K:AS->Prop} {d T:Nat} {x:Operand} (ho:o.op=.box T x) (hd:o.dst=some d) (hN:d<N) (hv:(A.cp x).isVal=true)
 (hK:∀ g,K ⟨(A.put (some d) (.ptr (.key d) [] g 0)).t,(d,(g,A.cp x))::A.h⟩):F9 P N o A K:=by
 refine tl hd hN (fun Pb Kb a w F hs=>?_) hK;exact⟨(a.eval x).cells,T,by simp[execOp,ho,Instr.box,newVar,jE],zB (qg hs x) hv⟩
theorem qT{o:Oper} {K:AS->Prop} {T:Nat} {x y:Operand} {r:m4} {p:List Nat} {g g':Nat} {i:TI} {old:V} (ho:o.op=.store T x y) (hd:o.dst=none) (hi:ti P T=some i)
 (hx:A.ev x=.ptr r p g g') (A8:(A.drop y).at r p=some (g,g',old)) (hv:(A.ev y).isVal=true) (hn:(A.ev y).n=old.n) (V':(A.ev y).n=i.sz) (hK:K ((A.drop y).setAt r p (A.ev y))):F9 P N o A K:=by
 intro Pb Kb a w F Q hs;obtain⟨Fx,F',hr,B0,hnd,w8,hfr,_⟩:=hs.take y;obtain⟨_,V8⟩:=dS hs x;rw[hx]at V8;have hp:a.eval x=.pointer (some ⟨g,g',none⟩):=by have:=V8.2;simpa using this
 have hR:=zB hr hv;obtain⟨_,cs0,cells,hb,U',Sb⟩:=iz B0 A8;have W9:=eH _ U';have hl:=eH _ hR;have hle:g'+(a.eval y).cells.toList.length<=cells.size\/(a.eval y).cells.toList=[]:=by
  by_cases hne:cs0=[];right;exact Za5 (by rw[hl,hn,<- W9,hne];rfl);left;have:=xx Sb hne;omega
 have B5:∃ w',(storeCells ⟨g,g',none⟩ (a.eval y).cells.toList 0).run P w=.ok () w'/\C9 w w' g g' (a.eval y).cells.toList:=by
  rcases hle with h | h;obtain⟨w',h1,h2⟩:=gV (P:=P) (g:=g) (o:=g') (a.eval y).cells.toList 0 w cells hb Zac (kW _ hR);exact⟨w',h1,h2⟩;rw[h];exact⟨w,rfl,C9.nil w g g'⟩
 obtain⟨w',B6,B5⟩:=B5;have hx:(execOp a.eval o).run P w=.ok .skip w':=by
  have hsz:(a.eval y).cells.size=i.sz:=by rw[<- V',<- hl];simp
  simp only[execOp,ho,Instr.storeAt,hp,Instr.sureAddr,Za0,Za1,Zas,storeVar,dc hi,hsz,ne_eq,not_true_eq_false,if_false,B6]
 unfold Oper.wp;rw[hx,Oper.upon_skip,hd];obtain⟨F2,M4,hg⟩:=B0.store A8 hR hn hnd w8 hfr B5;exact⟨_,Pb,Kb,F2,hK,M4,fun _ h=>h,fun _ h=>h,fun _ h=>.inl h,⟨B5.os,B5.tape,B5.output,by rw[B5.size];omega,fun k hk=>B5.P7 k (fun c=>hg (c ▸ hk)),B5.shape⟩⟩
def eY(A:AS)(k:Nat):List (Nat×Operand)->Option (List V)
 | []=>some []
 | (i,x)::r=>if i=k then match eY A (k+1) r with | some vs=>some (A.cp x::vs) | none=>none else none
theorem mW(hs:w3 N Pb Kb A a w F){s:Nat}:∀ (e9:List (Nat×Operand)) (k:Nat) {vs:List V},eY A k e9=some vs->(∀ v,v∈vs->v.isVal=true/\v.n=s)->
 ∃ xs:List Value,(e9.map fun (i,x)=>(i,a.eval x))=(xs.zipIdx k).map (fun x=>(x.2,x.1))/\(∀ x,x∈xs->x.cells.size=s)/\RL w Pb vs (xs.flatMap fun v=>v.cells.toList) []/\xs.length=vs.length
 | [],k,vs,h,_=>by simp[eY]at h;subst h;exact⟨[],rfl,Zad,⟨rfl,rfl⟩,rfl⟩
 | (i,x)::r,k,vs,h,hv=>by
   simp only[eY]at h;split at h
   case isFalse=>simp at h
   rename_i e;subst e;split at h
   case h_2=>simp at h
   rename_i Y3 hr;simp at h;subst h;obtain⟨xs,h1,h2,h3,h4⟩:=mW hs r (i+1) hr (fun v U7=>hv v (by simp[U7]));have hR:=zB (qg hs x) (hv (A.cp x) Zad).1;have hl:=eH _ hR;refine⟨a.eval x::xs,by simp[h1],?_,⟨_,_,[],[],Zad,rfl,hR,h3⟩,by simp[h4]⟩;intro y hy;rcases List.mem_cons.1 hy with rfl | h;rw[<- (hv (A.cp x) Zad).2,<- hl];simp;exact h2 y h
theorem wM{o:Oper} {K:AS->Prop} {T e len:Nat} {e9:Array (Nat×Operand)} {i:TI} {vs:List V} (ho:o.op=.buildSlice T len e9) (hd:cI N o.dst) (hT:tD P T=some (.sl e)) (hi:ti P e=some i)
 (hz:∃ inf z,P.info? e=some inf/\inf.zero=some z) (TY:eY A 0 e9.toList=some vs) (hlen:vs.length=len) (Sz:len*i.sz<=16777216) (K4:0<i.sz) (hv:∀ v,v∈vs->v.isVal=true/\v.n=i.sz)
 (hK:K (A.put o.dst (.sl true vs))):F9 P N o A K:=by
 intro Pb Kb a w F Q hs;obtain⟨inf,z,O',hzero⟩:=hz;obtain⟨xs,h1,h2,h3,h4⟩:=mW hs e9.toList 0 TY hv;have hu:=iW hT;obtain⟨U5,_,J4,_,hsz,_,_⟩:=jy hi;rw[O']at J4;obtain rfl:=Option.some.inj J4;by_cases h0:len=0;have hvs0:vs=[]:=Za5 Zac;subst hvs0;subst h0;have Zi:e9.toList=[]:=by
  cases Ua:e9.toList with
  | nil=>rfl
  | cons p ps=>rw[Ua]at h1;rw[Za5 h4]at h1;simp at h1
 have hp:e9= #[]:=by rw[<- Array.toArray_toList (xs:=e9),Zi]
 subst hp;have hx:(execOp a.eval o).run P w=.ok (.value (.slice (some ⟨w.heap.size,0,none⟩) 0 0)) (w.alloc (.cells #[] e)):=by
  simp[execOp,ho,Instr.buildSlice,aK hu,dc hi,Instr.fill,jE];congr 2;apply Array.ext';simp
 unfold Oper.wp;rw[hx,Oper.upon_value];obtain⟨F',B0⟩:=(hs.ob (.cells #[] e)).pF (d:=o.dst) (v:=.sl true []) (x:=.slice (some ⟨w.heap.size,0,none⟩) 0 0) hd ⟨rfl,_,0,rfl,Zbc _,fun _=>rfl,.inl rfl⟩;exact⟨_,Pb,Kb,F',hK,B0,fun _ h=>h,fun _ h=>h,fun _ h=>.inl h,A4.alloc hs.bound _⟩;have hfl:=Great.fill_whole K4 xs ((Array.range (len*i.sz)).map (z.cells[· % z.cells.size]!)) h2 (by simp[h4,hlen]);have hmul: ¬ len*inf.size=0:=by rw[hsz];exact Nat.mul_ne_zero h0 Zac
 have hb:=run_buildSlice (P:=P) w T e len (e9.map fun (i,x)=>(i,a.eval x)) _ inf z hu O' hzero (by rw[hsz];omega) hmul (by rw[Array.toList_map,h1,hsz];exact hfl);have hx:(execOp a.eval o).run P w=.ok (.value (.slice (some ⟨w.heap.size,0,none⟩) len len)) (w.alloc (.cells (xs.flatMap fun v=>v.cells.toList).toArray e)):=by
  simp only[execOp,ho,Za0,hb,Zas,Za1]
 unfold Oper.wp;rw[hx,Oper.upon_value];have PA:=hs.NM (.cells (xs.flatMap fun v=>v.cells.toList).toArray e);have QS:=eF (w':=w.alloc (.cells (xs.flatMap fun v=>v.cells.toList).toArray e)) (Pb':=fun g=>Pb g\/g=w.heap.size) vs h3 (fun g hg=>alloc_old w _ g (hs.bound g (hs.sub g hg))) Zad (fun g hg=>.inl hg) Zad
 obtain⟨F',B0⟩:=PA.pF (d:=o.dst) (v:=.sl true vs) (x:=.slice (some ⟨w.heap.size,0,none⟩) len len) hd ⟨rfl,some ⟨w.heap.size,0,none⟩,len,by rw[hlen],Zac,fun _=>hlen.symm,
  .inr ⟨w.heap.size,0,i.sz,_,rfl,.inr rfl,K4,fun v U7=>(hv v U7).2,QS,fun j u hu=>by
   rw[eg (cells:=(xs.flatMap fun v=>v.cells.toList).toArray) ⟨e,(0,0),gK w _,fun i _ h=>by omega⟩];simpa using hu⟩⟩
 exact⟨_,_,_,F',hK,B0,fun _ h=>.inl h,fun _ h=>.inl h,fun g hg=>by
  rcases hg with h | h;exact .inl h;right;intro c;have:=hs.bound g c;omega,A4.alloc hs.bound _⟩
end
section
variable {w w':World} {Pb Kb:Nat->Prop} {N:Nat} {A A':AS} {a:Act} {F:m4->List Nat} {P:Program}
def mQ(P:Program):List (Nat×Nat)->Option (List (Nat×Nat))
 | []=>some []
 | (off,T)::r=>match ti P T,mQ P r with
   | some i,some ps=>some ((off,i.sz)::ps)
   | _,_=>none
def pP(places:List (Nat×Nat)):List V->List (Nat×V)->Option (Prop×List V)
 | zs,[]=>some (True,zs)
 | zs,(i,v)::r=>match places[i]?,zs[i]? with
   | some (off,sz),some z=>match pP places (zs.set i v) r with
     | some (C,zs')=>some (V.ns (zs.take i)=off/\v.n=sz/\z.n=sz/\v.isVal=true/\C,zs')
     | none=>none
   | _,_=>none
def rD(P:Program)(A:AS)(T:Nat)(zs:List V)(e9:List (Nat×Operand)):Option (Prop×V):=
 match tD P T with
 | some (.st fs)=>match mQ P fs with
   | some places=>match pP places zs (e9.map fun (i,x)=>(i,A.cp x)) with
     | some (C,vs)=>some (C,.agg vs)
     | none=>none
   | none=>none
 | _=>none
theorem yn:∀ (zs:List V) {cs:List Value} {i:Nat} {z v:V} {c:List Value},RL w Pb zs cs []->zs[i]? =some z->R w Pb v c []->c.length=z.n->
 RL w Pb (zs.set i v) (cs.take (V.ns (zs.take i))++c++cs.drop (V.ns (zs.take i)+z.n)) []
 | [],_,_,_,_,_,_,h,_,_=>by simp at h
 | z0::zs,cs,0,z,v,c,h,hi,hr,hn=>by
   obtain⟨c1,c2,F1,F2,rfl,hF,h1,h2⟩:=h;have QT:=hF.symm;simp at QT;obtain⟨rfl,rfl⟩:=QT;simp at hi;subst hi;have hl:=eH _ h1;simp only[List.take_zero,V.ns,Zaw,List.nil_append,List.set_cons_zero];rw[<- hl,List.drop_left];exact⟨c,c2,[],[],rfl,rfl,hr,h2⟩
 | z0::zs,cs,i+1,z,v,c,h,hi,hr,hn=>by
   obtain⟨c1,c2,F1,F2,rfl,hF,h1,h2⟩:=h;have QT:=hF.symm;simp at QT;obtain⟨rfl,rfl⟩:=QT;have hl:=eH _ h1;have ih:=yn zs h2 Zbn hr hn;simp only[List.take_succ_cons,V.ns,List.set_cons_succ];refine⟨c1,_,[],[],?_,rfl,h1,ih⟩;rw[<- hl,List.take_append,List.drop_append];have e1:(List.take (c1.length+V.ns (zs.take i)) c1)=c1:=Zaz Zac;have e2:(List.drop (c1.length+V.ns (zs.take i)+z.n) c1)=[]:=Za8 Zac;rw[e1,e2];have e3:c1.length+V.ns (zs.take i)-c1.length=V.ns (zs.take i):=Zac;have e4:c1.length+V.ns (zs.take i)+z.n-c1.length=V.ns (zs.take i)+z.n:=Zac;rw[e3,e4];simp
theorem DN(cells:Array Value) (off:Nat) (c:List Value) (h:off+c.length<=cells.size) {r:Array Value} (hs:r.size=cells.size)
 (hk:∀ k,r[k]? =if off+0<=k/\k<off+0+c.length/\k<cells.size then c[k-(off+0)]? else cells[k]?):r.toList=cells.toList.take off++c++cells.toList.drop (off+c.length):=by
 apply List.ext_getElem?;intro k;rw[Array.getElem?_toList,hk k];simp only[Nat.add_zero];by_cases h1:k<off;rw[if_neg Zac,List.append_assoc,Za9 Zal,List.getElem?_take,if_pos h1];simp;by_cases h2:k<off+c.length;rw[if_pos ⟨Zac,h2,Zac⟩,List.append_assoc,Za4 Zal,Za9 Zal];congr 1;simp;omega;rw[if_neg Zac,Za4 Zal,List.getElem?_drop];have:off+c.length+(k-(cells.toList.take off++c).length)=k:=Zal;rw[this];simp
theorem tm(hs:w3 N Pb Kb A a w F){places:List (Nat×Nat)}:∀ (e9:List (Nat×Operand)) {zs:List V} {C:Prop} {vs:List V} {cells:Array Value},pP places zs (e9.map fun (i,x)=>(i,A.cp x))=some (C,vs)->C->
 RL w Pb zs cells.toList []->∃ o4,Instr.fill (places.toArray[·]?) cells (e9.map fun (i,x)=>(i,a.eval x))=some o4/\RL w Pb vs o4.toList []
 | [],zs,C,vs,cells,h,_,hr=>by simp[pP]at h;obtain⟨_,rfl⟩:=h;exact⟨cells,rfl,hr⟩
 | (i,x)::r,zs,C,vs,cells,h,hC,hr=>by
   simp only[Zbe,pP]at h;split at h
   case h_2=>simp at h
   rename_i off sz z hp hz;split at h
   case h_2=>simp at h
   rename_i C' zs' hf;simp only[Zan,Zaq]at h;obtain⟨rfl,rfl⟩:=h;obtain⟨h1,h2,h3,h4,h5⟩:=hC;have hR:=zB (qg hs x) h4;have hl:=eH _ hR;obtain⟨cz,F',XL,_,hcz⟩:=gH zs hr hz;have hlz:=eH _ XL;have hle:off+(a.eval x).cells.toList.length<=cells.size:=by
    by_cases hne:cz=[];have:sz=0:=by rw[<- h3,<- hlz,hne];rfl
    have hns:V.ns (zs.take i)<=cells.size:=by
     have W9:=jj _ hr;have:V.ns (zs.take i)<=V.ns zs:=by
      clear hf hr hcz XL hp W9 h1;induction zs generalizing i with
      | nil=>simp[V.ns]
      | cons z0 zs ih=>cases i with
        | zero=>simp[V.ns]
        | succ i=>simp only[List.take_succ_cons,V.ns];have:=ih (i:=i) (by simpa using hz);omega
     simpa[<- W9] using this
    rw[hl,h2];omega;have:=xx (cells:=cells) (o:=off) (l:=cz) (fun j u hu=>by rw[<- h1];have:=hcz j u hu;simpa using this) hne;omega
   obtain⟨g1,g2⟩:=Great.foldl_set off (a.eval x).cells.toList 0 cells;have hseg:=DN cells off (a.eval x).cells.toList hle g1 g2;have Ps:=yn zs hr hz hR (by rw[hl,h2,h3]);rw[h1,h3,<- h2,<- hl,<- hseg]at Ps;obtain⟨o4,Uj,F7⟩:=tm hs r hf h5 Ps;refine⟨o4,?_,F7⟩;simp only[Zbe];unfold Instr.fill;have YF:places.toArray[i]? =some (off,sz):=by simpa using hp
   simp only[YF];rw[if_neg (by
    have e1:(a.eval x).cells.size=sz:=by rw[<- h2,<- hl];simp
    simp only[e1,ne_eq,not_true_eq_false,decide_false,Bool.false_or,Zbk];rw[<- e1];simpa using hle)]
   rw[<- Uj];congr 1;rw[<- Array.foldl_toList,Array.toList_zipIdx]
theorem FW{fl:Array Field}{fs:List (Nat×Nat)}(h:fl.toList.map (fun f=>(f.offset,f.type))=fs){places:List (Nat×Nat)}(hp:mQ P fs=some places):
 fl.toList.mapM (fun f=>(P.info? f.type).map fun i=>(f.offset,i.size))=some places:=by
 subst h;generalize fl.toList=l at hp;induction l generalizing places with
 | nil=>simp[mQ]at hp;subst hp;rfl
 | cons f l ih=>
   simp only[Zbe,mQ]at hp;split at hp
   case h_2=>simp at hp
   rename_i i ps hi hps;simp at hp;subst hp;obtain⟨inf,_,h1,_,h3,_,_⟩:=jy hi;simp[List.mapM_cons,h1,ih hps,h3]
theorem DM(hs:w3 N Pb Kb A a w F){T:Nat}{e9:Array (Nat×Operand)}{zs:List V}{C:Prop}{v:V}(hz:nz P T (.agg zs))(h:rD P A T zs e9.toList=some (C,v))(hC:C):
 ∃ y,(Instr.build T (e9.map fun (i,x)=>(i,a.eval x))).run P w=.ok y w/\RV w Pb v y []:=by
 unfold rD at h;split at h
 case h_2=>simp at h
 rename_i fs hT;split at h
 case h_2=>simp at h
 rename_i places hp;split at h
 case h_2=>simp at h
 rename_i C' vs hf;simp only[Zan,Zaq]at h;obtain⟨rfl,rfl⟩:=h;obtain⟨fl,hu,hfl⟩:=De hT;obtain⟨inf,z,h1,h2,h3⟩:=hz;have hr:=rK (w:=w) (Pb:=Pb) _ h3;simp only[R]at hr;obtain⟨o4,Uj,F7⟩:=tm hs e9.toList hf hC hr;refine⟨.agg o4,run_build w T _ o4 ?_,o4,rfl,F7⟩;unfold Program.built;simp only[h1,hu,h2,FW hfl hp];rw[Array.toList_map];exact Uj
theorem yj{o:Oper} {K:AS->Prop} {T:Nat} {e9:Array (Nat×Operand)} {zs:List V} {C:Prop} {v:V} (ho:o.op=.build T e9) (hd:cI N o.dst) (hz:nz P T (.agg zs))
 (h:rD P A T zs e9.toList=some (C,v)) (hC:C) (hK:K (A.put o.dst v)):F9 P N o A K:=
 jl hd hK fun Pb Kb a w F hs=>by
  obtain⟨y,hy,hr⟩:=DM hs hz h hC;exact⟨y,Zbu,hr⟩
theorem w3.freeze(hs:w3 N Pb Kb A a w F){i:Nat}(hi:(A.get i).df=true)(hi':i<N):∃ Pb' E7 F',w3 N Pb' E7 (A.put (some i) (A.get i).er) a w F'/\(∀ g,Pb g->Pb' g)/\(∀ g,Kb g->E7 g)/\(∀ g,Pb' g->Pb g\/¬ Kb g):=by
 refine⟨fun g=>Pb g\/g∈F (.slot i),fun g=>Kb g\/g∈F (.slot i),ck F (.slot i) [],?_,fun g h=>.inl h,fun g h=>.inl h,fun g h=>h.imp id fun h=>(hs.free _ g h).1⟩;have W5:∀ r,r≠.slot i->∀ g,g∈F r->¬ (Pb g\/g∈F (.slot i))/\¬ (Kb g\/g∈F (.slot i)):=fun r hr g hg=>by
  refine⟨fun c=>?_,fun c=>?_⟩ <;> rcases c with c | c;exact(hs.free r g hg).1 (hs.sub g c);exact hs.cm r _ hr g hg c;exact(hs.free r g hg).1 c;exact hs.cm r _ hr g hg c
 refine⟨hs.size,hs.defers,fun j=>?_,fun k g v hk=>?_,fun r r' hne g hg=>?_,fun r=>?_,fun r g hg=>?_,fun g h=>h.imp (hs.sub g) id,fun g h=>?_⟩;rw[AS.aC];by_cases e:j=i;subst e;simp only[if_true,ck];exact IG (hs.slot j) (fun g h=>.inl h) (fun g h=>.inr h);have hne:m4.slot j≠m4.slot i:=fun c=>e (by injection c);simp only[if_neg e,ck,if_neg hne];exact mN _ (hs.slot j) (fun _ _=>rfl) (fun _ _=>rfl) (fun g h=>.inl h) (fun g hg=>(W5 _ hne g hg).1);obtain⟨F',e,hA⟩:=hs.root k g v hk;refine⟨F',by simpa[ck] using e,?_⟩;obtain⟨cs,cells,hb,hr,hc⟩:=hA;exact⟨cs,cells,hb,gF _ hr (fun _ _=>rfl) (fun _ _=>rfl) (fun g h=>.inl h) (fun x hx=>(W5 (.key k) Zad x (by rw[e];simp[hx])).1),hc⟩;simp only[ck]at hg ⊢;split at hg;simp at hg;split;simp;exact hs.cm r r' hne g hg;simp only[ck];split;exact Zba;exact hs.nodup r;simp only[ck]at hg;split at hg;simp at hg;rename_i hne;exact⟨(W5 r hne g hg).2,(hs.free r g hg).2⟩;rcases h with h | h;exact hs.bound g h;exact(hs.free _ g h).2
theorem w3.P7(hs:w3 N Pb Kb A a w F){g:Nat}(hg:∀ r,g ∉ F r)(hK: ¬ Kb g)(hf:∀ k,k≠g->w'.heap[k]? =w.heap[k]?)(hsz:w'.heap.size=w.heap.size):w3 N Pb Kb A a w' F where
 size:=hs.size
 defers:=hs.defers
 slot:=fun i=>mN _ (hs.slot i) (fun x hx=>hf x (by rintro rfl;exact hK (hs.sub _ hx))) (fun x hx=>hf x (by rintro rfl;exact hg _ hx)) (fun _ h=>h) (fun x hx c=>(hs.free _ x hx).1 (hs.sub x c))
 root:=fun k g0 v hk=>by
  obtain⟨F',e,hA⟩:=hs.root k g0 v hk;have hg0:g0≠g:=by rintro rfl;exact hg (.key k) (by rw[e];simp)
  refine⟨F',e,pI hA (fun x hx=>hf x (by rintro rfl;exact hK (hs.sub _ hx))) (fun x hx=>hf x (by rintro rfl;exact hg (.key k) (by rw[e];simp[hx]))) (fun x hx c=>(hs.free (.key k) x (by rw[e];simp[hx])).1 (hs.sub x c)) (fun cells hb=>?_)⟩;obtain⟨e',fr,hb,hfr⟩:=hb;exact⟨cells,⟨e',fr,(hf g0 hg0).trans hb,hfr⟩,fun _ _ _=>rfl⟩
 cm:=hs.cm
 nodup:=hs.nodup
 free:=fun r x hx=>by rw[hsz];exact hs.free r x hx
 sub:=hs.sub
 bound:=fun x hx=>by rw[hsz];exact hs.bound x hx
theorem jm:∀ (xs ys:List V) {c1 c2:List Value} {F1 F2:List Nat},RL w Pb xs c1 F1->RL w Pb ys c2 F2->RL w Pb (xs++ys) (c1++c2) (F1++F2)
 | [],ys,c1,c2,F1,F2,h1,h2=>by obtain⟨rfl,rfl⟩:=h1;exact h2
 | x::xs,ys,c1,c2,F1,F2,h1,h2=>by
   obtain⟨d1,d2,G1,G2,rfl,rfl,k1,k2⟩:=h1;exact⟨d1,d2++c2,G1,G2++F2,Zad,Zad,k1,jm xs ys k2 h2⟩
theorem pa{sz:Nat}(xs:List V)(h:aR sz xs):V.ns xs=xs.length*sz:=by
 have:=ef xs xs.length h (Zbc _);simpa using this
theorem zd{full:Bool}{ys:List V}{x:Value}(h:R w Pb (.sl full ys) [x] []){s:Nat}(hs:aR s ys):∃ (B:Option Addr) (c:Nat) (flat:List Value),x=.slice B ys.length c/\RL w Pb ys flat []/\
 (∀ w1:World,(∀ ad,w1.cell? ad=w.cell? ad)->(Builtin.firstCells s ys.length x).run P w1=.ok flat.toArray w1)/\flat.length=ys.length*s:=by
 obtain⟨_,A,c,hx,hl,_,hz⟩:=h;have hx:x=.slice A ys.length c:=Zbt
 subst hx;rcases hz with rfl | ⟨b,o,sz,flat,rfl,hb,hsz,hN,hr,hc⟩;refine⟨A,c,[],rfl,⟨rfl,rfl⟩,fun w1 _=>?_,Zad⟩;cases A with
 | none=>rfl
 | some ad=>simp only[Builtin.firstCells,Zau,Nat.zero_mul];rfl
 have hl2:=jj _ hr;by_cases he:ys=[];subst he;obtain⟨rfl,_⟩:=hr;exact⟨_,c,[],rfl,⟨rfl,rfl⟩,fun w1 _=>by simp only[Builtin.firstCells,Zau,Nat.zero_mul];rfl,Zad⟩;rw[pa ys hs]at hl2;exact⟨_,c,flat,rfl,hr,fun w1 h1=>by simp only[Builtin.firstCells];rw[<- hl2];exact run_loadCells_list w1 _ flat (fun j v hv=>by rw[dW,h1];exact hc j v hv),hl2⟩
theorem xt{sz g o c:Nat}{xs:List V}{x:Value}{Fx:List Nat}(h:R w Pb (.own sz xs g o c) [x] Fx):∃ (B:Option Addr) (flat:List Value) (F':List Nat),x=.slice B xs.length c/\RL w Pb xs flat F'/\
 (∀ w1:World,(∀ ad,w1.cell? ad=w.cell? ad)->(Builtin.firstCells sz xs.length x).run P w1=.ok flat.toArray w1)/\(0<c->B=some ⟨g,o,none⟩/\aR sz xs/\0<sz/\Fx=g::F'/\flat.length=xs.length*sz)/\(c=0->xs=[]/\Fx=[]/\F'=[]/\flat=[])/\xs.length<=c:=by
 rcases h with ⟨rfl,rfl,rfl,A,hx⟩ | ⟨h1,h2,h3,hx,hN,_,flat,F',cells,rfl,hr,hb,hsz,hc⟩;have hx:x=.slice A 0 0:=Zbt
 subst hx;refine⟨A,[],[],rfl,⟨rfl,rfl⟩,fun w1 _=>?_,fun h=>absurd h Zac,fun _=>⟨rfl,rfl,rfl,rfl⟩,Zbc _⟩;cases A with
 | none=>rfl
 | some ad=>simp only[Builtin.firstCells,Zau,Nat.zero_mul];rfl
 have hx:x=.slice (some ⟨g,o,none⟩) xs.length c:=Zbt
 subst hx;have hl:=jj _ hr;rw[pa xs hN]at hl;refine⟨_,flat,F',rfl,hr,fun w1 h1=>?_,fun _=>⟨rfl,hN,h2,rfl,hl⟩,fun h=>absurd h Zac,h3⟩;simp only[Builtin.firstCells];rw[<- hl];exact run_loadCells_list w1 _ flat (fun j v hv=>by rw[dW,h1,eg hb];exact hc j v hv)
theorem qG{e:Nat}{inf:TypeInfo}{z:Value}(h1:P.info? e=some inf)(h2:inf.zero=some z):(zeroValue e).run P w=.ok z w:=by simp[zeroValue,typeInfo,h1,h2]
theorem sZ{T T2 e e2:Nat} {t:TI} (hT:tD P T=some (.sl e)) (Uq:tD P T2=some (.sl e2)) (ht:ti P e=some t) (hz:∃ inf z,P.info? e=some inf/\inf.zero=some z/\z.cells.size=t.sz) (hsz:0<t.sz) (US:0<t.O0)
 (hs:w3 N Pb Kb A a w F) {xs ys:List V} {g o c:Nat} {s x:Value} {Fx:List Nat} {B2:Option Addr} {c2:Nat} {D9:List Value} (L5:R w Pb (.own t.sz xs g o c) [s] Fx) (w8:∀ r g,g∈Fx->g ∉ F r) (hfr:∀ g,g∈Fx->¬ Kb g/\g<w.heap.size) {Fy:List Nat} (hnd:(Fx++Fy).Nodup) (hyd:∀ r g,g∈Fy->g ∉ F r) (Yq:∀ g,g∈Fy->¬ Kb g/\g<w.heap.size)
 (Rf:x=.slice B2 ys.length c2) (Ps:RL w Pb ys D9 Fy) (QB:∀ w1:World,(∀ ad,w1.cell? ad=w.cell? ad)->(Builtin.firstCells t.sz ys.length x).run P w1=.ok D9.toArray w1) (hl2:D9.length=ys.length*t.sz) (hN:aR t.sz ys) (hbig:(xs.length+ys.length)*t.O0<=140737488355328):
 ∃ v w' F2 g' o' c',(Builtin.append_ #[T,T2] T #[s,x]).run P w=.ok v w'/\w3 N Pb Kb A a w' F/\R w' Pb (.own t.sz (xs++ys) g' o' c') [v] F2/\F2.Nodup/\(∀ r g,g∈F2->g ∉ F r)/\(∀ g,g∈F2->¬ Kb g/\g<w'.heap.size)/\A4 Kb w w':=by
 have hu:=iW hT;have QR:=iW Uq;obtain⟨inf,z,O',hzero,ZU⟩:=hz;obtain⟨U5,_,J4,_,T3,Uo,_⟩:=jy ht;rw[O']at J4;obtain rfl:=Option.some.inj J4;obtain⟨B,flat,F',rfl,hr,Rw,K4,TT,hle⟩:=xt (P:=P) L5;subst Rf;have R6:(Builtin.lenOf (.slice B2 ys.length c2)).run P w=.ok ys.length w:=rfl;have XV:∀ r g,g∈F r->¬ Pb g:=fun r g hg c=>(hs.free r g hg).1 (hs.sub g c);have YJ:xs.length+ys.length<=140737488355328:=Nat.le_trans (Nat.le_mul_of_pos_right _ US) hbig;unfold Builtin.append_;simp only[List.getElem?_toArray,List.getElem?_cons_zero,List.getElem?_cons_succ,Za0,aK hu,Zas];simp only[dc ht,Zas];simp only[aK QR,Zas,Za1];rw[if_neg (show ¬ (false=true) by decide)];rw[Za0,R6];simp only[Zas];by_cases R4:xs.length+ys.length<=c
 ·
  rw[if_pos R4];simp only[Za0,Bool.not_false,if_true,QB w (fun _=>rfl),Zas];by_cases hc:c=0;obtain⟨rfl,rfl,rfl,rfl⟩:=TT hc;have SU:ys=[]:=Za5 Zac;subst SU;have R9:D9=[]:=Za5 (by simpa using hl2);subst R9;refine⟨.slice B 0 c,w,[],g,o,0,?_,hs,.inl ⟨rfl,rfl,rfl,B,by rw[hc]⟩,Zba,Zad,Zad,A4.refl _ _⟩;cases B with
  | none=>simp
  | some ad=>simp[storeCells]
  obtain⟨rfl,Xn,_,rfl,hl1⟩:=K4 Zac;rcases L5 with ⟨h0,_⟩ | ⟨_,_,_,_,_,Xm,Pu,PX,cells,XW,F7,hb,WW,u0⟩;exact absurd h0 hc;simp only[List.cons.injEq,true_and]at XW;subst XW;have hle':o+xs.length*t.sz+D9.length<=cells.size:=by
   rw[hl2];have:(xs.length+ys.length)*t.sz<=c*t.sz:=Nat.mul_le_mul_right _ R4;rw[Nat.add_mul]at this;omega
  obtain⟨w',B5,N6⟩:=gV (P:=P) (g:=g) (o:=o+xs.length*t.sz) D9 0 w cells hb Zac (qP _ Ps);have hg:=hfr g Zad;have B0:w3 N Pb Kb A a w' F:=hs.P7 (fun r=>w8 r g Zad) hg.1 N6.P7 N6.size;have Zm:∀ k,Pb k->w'.heap[k]? =w.heap[k]? :=fun k hk=>N6.P7 k (by rintro rfl;exact Xm hk);have hgA:g ∉ F'++Fy:=(List.nodup_cons.1 hnd).1;have S2:g ∉ F':=fun c=>hgA (by simp[c]);have hgY:g ∉ Fy:=fun c=>hgA (by simp[c]);have hkF:∀ k,k∈F'->w'.heap[k]? =w.heap[k]? :=fun k hk=>N6.P7 k (by rintro rfl;exact S2 hk);obtain⟨o4,L2,M4,Qx,Ub⟩:=N6.Q0 cells hb;have T6:=eF (w':=w') (Pb':=Pb) xs hr Zm hkF (fun _ h=>h) (fun k hk c=>(hfr k (by simp[hk])).1 (hs.sub k c));have T5:=eF (w':=w') (Pb':=Pb) ys Ps Zm (fun k hk=>N6.P7 k (by rintro rfl;exact hgY hk)) (fun _ h=>h) (fun k hk c=>(Yq k hk).1 (hs.sub k c));have Uh:Pu=flat\/True:=.inr trivial;have hgy:∀ k,k∈g::(F'++Fy)->(¬ Kb k/\k<w.heap.size)/\∀ r,k ∉ F r:=fun k hk=>by
   rcases Zax.1 (show k∈(g::F')++Fy from hk) with h | h;exact⟨hfr k h,fun r=>w8 r k h⟩;exact⟨Yq k h,fun r=>hyd r k h⟩
  refine⟨.slice (some ⟨g,o,none⟩) (xs.length+ys.length) c,w',g::(F'++Fy),g,o,c,?_,B0,.inr ⟨Zac,hsz,Zal,Zad,?_,Xm,flat++D9,F'++Fy,o4,rfl,jm xs ys T6 T5,L2,Zac,?_⟩,hnd,fun r k hk=>(hgy k hk).2 r,fun k hk=>by rw[N6.size];exact(hgy k hk).1,⟨N6.os,N6.tape,N6.output,by rw[N6.size];omega,fun k hk=>N6.P7 k (by rintro rfl;exact hg.1 hk),N6.shape⟩⟩;have e1:(Array.toList D9.toArray)=D9:=Zad;simp only[dW,Za0];rw[B5];simp only[Zas,Za1];intro v hv;rcases Zax.1 hv with h | h;exact Xn v h;exact hN v h;intro j u hu;by_cases hj:j<flat.length;rw[Za9 hj]at hu;rw[Qx _ Zac];have h1:(loadCells ⟨g,o,none⟩ Pu.length).run P w=.ok Pu.toArray w:=run_loadCells_list w _ Pu (fun j v hv=>by rw[dW,eg hb];exact u0 j v hv);have hl1':Pu.length=xs.length*t.sz:=by rw[jj _ F7,pa xs Xn]
  have h2:=Rw w (fun _=>rfl);simp only[Builtin.firstCells]at h2;rw[<- hl1',h1]at h2;simp only[Result.ok.injEq,and_true]at h2;have:Pu=flat:=by have:=Zbm Array.toList h2;simpa using this
  subst this;exact u0 j u hu;rw[Za4 Zac]at hu;have:=Ub _ u hu;rw[<- this];congr 1;omega
 ·
  rw[if_neg R4];have hlt:c<xs.length+ys.length:=Zac;have hmx:IntKind.i64.max=9223372036854775807:=Zaf;have Vd: ¬ (((xs.length+ys.length:Nat):Int)>IntKind.i64.max/\((false=true)\/inf.bytes=0)):=by
   rw[hmx];rintro⟨h1,_⟩;omega
  have hcap: ¬ Builtin.nextslicecap (xs.length+ys.length) c*inf.bytes>281474976710656:=by
   have:=growslice_fits (bytes:=t.O0) hlt hbig;rw[Uo];omega
  have V2:∀ w,(typeInfo e).run P w=.ok inf w:=fun w=>by simp[typeInfo,O']
  obtain⟨nc,XN,YS⟩:∃ nc,xs.length+ys.length<=nc/\(choose (.appendCap (xs.length+ys.length) c e)).run P w=.ok nc { w with drawn:=w.drawn+1 }:=by
   exact⟨(Question.appendCap (xs.length+ys.length) c e).cut (w.tape w.drawn (Question.appendCap (xs.length+ys.length) c e)),by simp only[Question.cut];exact Nat.le_add_right _ _,by rw[run_choose,if_neg (by simp[Question.forced])]⟩
  obtain⟨w1,Rt⟩:∃ w1:World,w1={ w with drawn:=w.drawn+1 }:=⟨_,rfl⟩;rw[<- Rt]at YS;have K5:w1.heap=w.heap:=by rw[Rt]
  have Ql:∀ ad,w1.cell? ad=w.cell? ad:=fun ad=>by rw[Rt];rfl
  have YQ:=Rw w1 Ql;have R9:=QB w1 Ql;have ZS:=fun w=>qG (w:=w) O' hzero;obtain⟨cells,hcells⟩:∃ cells:Array Value,cells=flat.toArray++D9.toArray++Builtin.zeroCells z.cells (nc-(xs.length+ys.length)):=⟨_,rfl⟩;have hlf:flat.length=xs.length*t.sz:=by
   by_cases hc:c=0;obtain⟨rfl,_,_,rfl⟩:=TT hc;simp;exact(K4 Zac).2.2.2.2
  have Vh:cells.size=nc*t.sz:=by
   rw[hcells];simp only[Array.size_append,List.size_toArray,Builtin.zeroCells,Array.size_map,Array.size_range,ZU,hlf,hl2];rw[<- Nat.add_mul,<- Nat.add_mul];congr 1;omega
  have hdr:w3 N Pb Kb A a w1 F:=hs.grow (fun k _=>by rw[K5]) (by rw[K5];exact Zbc _) (fun _ h=>h) (fun g h=>.inl h) hs.sub;have Vk:∀ k,k∈F'->k∈Fx:=fun k hk=>by
   by_cases hc:c=0;rw[(TT hc).2.2.1]at hk;simp at hk;rw[(K4 Zac).2.2.2.1];simp[hk]
  have hFn:(F'++Fy).Nodup:=by
   by_cases hc:c=0;rw[(TT hc).2.2.1];exact(List.nodup_append.1 hnd).2.1;have:=hnd;rw[(K4 Zac).2.2.2.1]at this;exact(List.nodup_cons.1 this).2
  have Xn:aR t.sz xs:=by
   by_cases hc:c=0;rw[(TT hc).1];intro v hv;simp at hv;exact(K4 Zac).2.1
  have hold:∀ k,k<w.heap.size->(w1.alloc (.cells cells e)).heap[k]? =w.heap[k]? :=fun k hk=>by
   rw[alloc_old w1 _ k (by rw[K5];exact hk),K5]
  have T0:(w1.alloc (.cells cells e)).heap.size=w.heap.size+1:=by rw[dJ,K5]
  have Ru:w.heap.size=w1.heap.size:=by rw[K5]
  have T6:=eF (w':=w1.alloc (.cells cells e)) (Pb':=Pb) xs hr (fun k hk=>hold k (hs.bound k (hs.sub k hk))) (fun k hk=>hold k (hfr k (Vk k hk)).2) (fun _ h=>h) (fun k hk cc=>(hfr k (Vk k hk)).1 (hs.sub k cc));have T5:=eF (w':=w1.alloc (.cells cells e)) (Pb':=Pb) ys Ps (fun k hk=>hold k (hs.bound k (hs.sub k hk))) (fun k hk=>hold k (Yq k hk).2) (fun _ h=>h) (fun k hk cc=>(Yq k hk).1 (hs.sub k cc));have Xp:∀ k,k∈F'++Fy->(¬ Kb k/\k<w.heap.size)/\∀ r,k ∉ F r:=fun k hk=>by
   rcases Zax.1 hk with h | h;exact⟨hfr k (Vk k h),fun r=>w8 r k (Vk k h)⟩;exact⟨Yq k h,fun r=>hyd r k h⟩
  have Se: ¬ Kb w.heap.size:=fun cc=>by have:=hs.bound _ cc;omega
  refine⟨.slice (some ⟨w.heap.size,0,none⟩) (xs.length+ys.length) nc,w1.alloc (.cells cells e),w.heap.size::(F'++Fy),w.heap.size,0,nc,?_,hdr.ob _,.inr ⟨Zac,hsz,by simpa using XN,Zad,?_,fun cc=>Se (hs.sub _ cc),flat++D9,F'++Fy,cells,rfl,
   jm xs ys T6 T5,⟨e,(0,0),by rw[Ru];exact gK w1 _,fun i _ h=>by omega⟩,by rw[Vh];omega,fun j u hu=>?_⟩,?_,?_,?_,⟨?_,?_,?_,by rw[T0];omega,fun k hk=>hold k (hs.bound k hk),Shp.of_eq hold⟩⟩
  simp only[Sem.run_ite,Za0,V2,Zas,if_neg Vd,if_neg hcap,Za1,YS,YQ,R9,Bool.not_false,if_true,run_askRoom,ZS,jE];rw[hcells,Ru];intro v hv;rcases Zax.1 hv with h | h;exact Xn v h;exact hN v h;rw[hcells,Zaw];have hj:=(Za3.1 hu).1;rw[Array.getElem?_append_left Zbp];simpa using hu;refine List.nodup_cons.2 ⟨fun cc=>?_,hFn⟩;have:=(Xp _ cc).1.2;omega;intro r k hk cc;rcases List.mem_cons.1 hk with rfl | h;have:=(hs.free r _ cc).2;omega;exact(Xp k h).2 r cc;intro k hk;rw[T0];rcases List.mem_cons.1 hk with rfl | h;exact⟨Se,Zac⟩;have:=(Xp k h).1;exact⟨this.1,Zac⟩;rw[Rt];rfl;rw[Rt];rfl;rw[Rt];rfl
theorem Ba{T T2 e e2:Nat} {t:TI} (hT:tD P T=some (.sl e)) (Uq:tD P T2=some (.sl e2)) (ht:ti P e=some t) (hz:∃ inf z,P.info? e=some inf/\inf.zero=some z/\z.cells.size=t.sz) (hsz:0<t.sz) (US:0<t.O0)
 (hs:w3 N Pb Kb A a w F) {xs ys:List V} {s x:Value} {B2:Option Addr} {c2:Nat} {D9:List Value} (L5:R w Pb (.sl true xs) [s] []) (Xn:aR t.sz xs) (SU:0<ys.length)
 (Rf:x=.slice B2 ys.length c2) (Ps:RL w Pb ys D9 []) (QB:∀ w1:World,(∀ ad,w1.cell? ad=w.cell? ad)->(Builtin.firstCells t.sz ys.length x).run P w1=.ok D9.toArray w1) (hl2:D9.length=ys.length*t.sz) (hN:aR t.sz ys) (hbig:(xs.length+ys.length)*t.O0<=140737488355328):
 ∃ v w' F2 g' o' c',(Builtin.append_ #[T,T2] T #[s,x]).run P w=.ok v w'/\w3 N Pb Kb A a w' F/\R w' Pb (.own t.sz (xs++ys) g' o' c') [v] F2/\F2.Nodup/\(∀ r g,g∈F2->g ∉ F r)/\(∀ g,g∈F2->¬ Kb g/\g<w'.heap.size)/\A4 Kb w w':=by
 have hu:=iW hT;have QR:=iW Uq;obtain⟨inf,z,O',hzero,ZU⟩:=hz;obtain⟨U5,_,J4,_,T3,Uo,_⟩:=jy ht;rw[O']at J4;obtain rfl:=Option.some.inj J4;obtain⟨B,c,flat,rfl,hr,Rw,hlf⟩:=zd (P:=P) L5 Xn;have hcx:c=xs.length:=by
  obtain⟨_,A0,c0,h1,_,h2,_⟩:=L5;have h1:=(List.cons.inj h1).1;simp only[Value.slice.injEq]at h1;rw[h1.2.2];exact h2 rfl
 subst Rf;have R6:(Builtin.lenOf (.slice B2 ys.length c2)).run P w=.ok ys.length w:=rfl;have YJ:xs.length+ys.length<=140737488355328:=Nat.le_trans (Nat.le_mul_of_pos_right _ US) hbig;unfold Builtin.append_;simp only[List.getElem?_toArray,List.getElem?_cons_zero,List.getElem?_cons_succ,Za0,aK hu,Zas];simp only[dc ht,Zas];simp only[aK QR,Zas,Za1];rw[if_neg (show ¬ (false=true) by decide)];rw[Za0,R6];simp only[Zas];have R4: ¬ (xs.length+ys.length<=c):=Zac;rw[if_neg R4];have hlt:c<xs.length+ys.length:=Zac;have hmx:IntKind.i64.max=9223372036854775807:=Zaf;have Vd: ¬ (((xs.length+ys.length:Nat):Int)>IntKind.i64.max/\((false=true)\/inf.bytes=0)):=by
  rw[hmx];rintro⟨h1,_⟩;omega
 have hcap: ¬ Builtin.nextslicecap (xs.length+ys.length) c*inf.bytes>281474976710656:=by
  have:=growslice_fits (bytes:=t.O0) hlt hbig;rw[Uo];omega
 have V2:∀ w,(typeInfo e).run P w=.ok inf w:=fun w=>by simp[typeInfo,O']
 obtain⟨nc,XN,YS⟩:∃ nc,xs.length+ys.length<=nc/\(choose (.appendCap (xs.length+ys.length) c e)).run P w=.ok nc { w with drawn:=w.drawn+1 }:=by
  exact⟨(Question.appendCap (xs.length+ys.length) c e).cut (w.tape w.drawn (Question.appendCap (xs.length+ys.length) c e)),by simp only[Question.cut];exact Nat.le_add_right _ _,by rw[run_choose,if_neg (by simp[Question.forced])]⟩
 obtain⟨w1,Rt⟩:∃ w1:World,w1={ w with drawn:=w.drawn+1 }:=⟨_,rfl⟩;rw[<- Rt]at YS;have K5:w1.heap=w.heap:=by rw[Rt]
 have Ql:∀ ad,w1.cell? ad=w.cell? ad:=fun ad=>by rw[Rt];rfl
 have YQ:=Rw w1 Ql;have R9:=QB w1 Ql;have ZS:=fun w=>qG (w:=w) O' hzero;obtain⟨cells,hcells⟩:∃ cells:Array Value,cells=flat.toArray++D9.toArray++Builtin.zeroCells z.cells (nc-(xs.length+ys.length)):=⟨_,rfl⟩;have Vh:cells.size=nc*t.sz:=by
  rw[hcells];simp only[Array.size_append,List.size_toArray,Builtin.zeroCells,Array.size_map,Array.size_range,ZU,hlf,hl2];rw[<- Nat.add_mul,<- Nat.add_mul];congr 1;omega
 have hdr:w3 N Pb Kb A a w1 F:=hs.grow (fun k _=>by rw[K5]) (by rw[K5];exact Zbc _) (fun _ h=>h) (fun g h=>.inl h) hs.sub;have hold:∀ k,k<w.heap.size->(w1.alloc (.cells cells e)).heap[k]? =w.heap[k]? :=fun k hk=>by
  rw[alloc_old w1 _ k (by rw[K5];exact hk),K5]
 have T0:(w1.alloc (.cells cells e)).heap.size=w.heap.size+1:=by rw[dJ,K5]
 have Ru:w.heap.size=w1.heap.size:=by rw[K5]
 have T6:=eF (w':=w1.alloc (.cells cells e)) (Pb':=Pb) xs hr (fun k hk=>hold k (hs.bound k (hs.sub k hk))) Zad (fun _ h=>h) Zad;have T5:=eF (w':=w1.alloc (.cells cells e)) (Pb':=Pb) ys Ps (fun k hk=>hold k (hs.bound k (hs.sub k hk))) Zad (fun _ h=>h) Zad;have Se: ¬ Kb w.heap.size:=fun cc=>by have:=hs.bound _ cc;omega
 refine⟨.slice (some ⟨w.heap.size,0,none⟩) (xs.length+ys.length) nc,w1.alloc (.cells cells e),[w.heap.size],w.heap.size,0,nc,?_,hdr.ob _,.inr ⟨Zac,hsz,by simpa using XN,Zad,?_,fun cc=>Se (hs.sub _ cc),flat++D9,[],cells,rfl,
  jm xs ys T6 T5,⟨e,(0,0),by rw[Ru];exact gK w1 _,fun i _ h=>by omega⟩,by rw[Vh];omega,fun j u hu=>?_⟩,?_,?_,?_,⟨?_,?_,?_,by rw[T0];omega,fun k hk=>hold k (hs.bound k hk),Shp.of_eq hold⟩⟩
 simp only[Sem.run_ite,Za0,V2,Zas,if_neg Vd,if_neg hcap,Za1,YS,YQ,R9,Bool.not_false,if_true,run_askRoom,ZS,jE];rw[hcells,Ru];intro v hv;rcases Zax.1 hv with h | h;exact Xn v h;exact hN v h;rw[hcells,Zaw];have hj:=(Za3.1 hu).1;rw[Array.getElem?_append_left Zbp];simpa using hu;simp;intro r k hk cc;obtain rfl:=Zav.1 hk;have:=(hs.free r _ cc).2;omega;intro k hk;rw[T0];obtain rfl:=Zav.1 hk;exact⟨Se,Zac⟩;rw[Rt];rfl;rw[Rt];rfl;rw[Rt];rfl
def jF(lo n sz g o:Nat):V->Option (Prop×List V)
 | .own PZ xs g2 o2 _=>some ((sz=PZ/\g=g2/\o=o2)/\lo+n<=xs.length/\V.ax xs=false/\aR PZ xs,(xs.drop lo).take n)
 | _=>none
def QP(A:AS)(x:Operand):Option (Prop×List V):=
 match A.ev x with
 | .sl _ xs=>some (True,xs)
 | .own _ xs _ _ _=>some (True,xs)
 | .hd r p sz g o lo n _=>match r,p with
   | .slot i,[]=>jF lo n sz g o (A.get i)
   | .key k,p=>match A.at (.key k) p with
     | some (_,_,u)=>jF lo n sz g o u
     | none=>none
   | _,_=>none
 | _=>none
theorem pS:∀ (xs:List V) (k:Nat),V.ax xs=false->V.ax (xs.drop k)=false
 | xs,0,h=>h
 | [],k+1,h=>by simpa using h
 | v::vs,k+1,h=>by
   simp only[V.ax,Bool.or_eq_false_iff]at h;exact pS vs k h.2
theorem HC{Fo:List Nat}{PZ g2 o2 c2 lo n c:Nat}{xs:List V}{Vo:List Value}(hr:R w Pb (.own PZ xs g2 o2 c2) Vo Fo)(hle:n<=c){B:Option Addr}(hB:0<c->B=some ⟨g2,o2+lo*PZ,none⟩)(hn:lo+n<=xs.length)(ho:V.ax xs=false){s:Nat}(hs:aR s ((xs.drop lo).take n)):
 ∃ (flat:List Value),RL w Pb ((xs.drop lo).take n) flat []/\(∀ w1:World,(∀ ad,w1.cell? ad=w.cell? ad)->(Builtin.firstCells s n (.slice B n c)).run P w1=.ok flat.toArray w1)/\flat.length=n*s:=by
 by_cases hn0:n=0;subst hn0;refine⟨[],by simp[RL],fun w1 _=>?_,Zad⟩;cases B with
 | none=>rfl
 | some ad=>simp only[Builtin.firstCells,Nat.zero_mul];rfl
 rcases hr with ⟨_,rfl,_⟩ | ⟨h1,h2,h3,hx,hN,_,flat,F',cells,_,hr,hb,hsz,hc⟩;simp at hn;omega;have hF:=gi xs ho hr;subst hF;have M4:s=PZ:=by
  have hne:(xs.drop lo).take n≠[]:=by
   intro e;have:=Zbm List.length e;simp at this;omega
  obtain⟨v,hv⟩:=List.exists_mem_of_ne_nil _ hne;rw[<- hs v hv,<- hN v (List.mem_of_mem_drop (List.mem_of_mem_take hv))]
 subst M4;obtain⟨c1,SD,Ql⟩:=pf xs lo hr;obtain⟨c3,XM,YT⟩:=pd _ n SD;have hl:c3.length=n*s:=by
  rw[jj _ XM,pa _ (fun x hx=>hN x (List.mem_of_mem_drop (List.mem_of_mem_take hx)))];have:((xs.drop lo).take n).length=n:=Zal;rw[this]
 refine⟨c3,XM,fun w1 Rt=>?_,hl⟩;have hB':=hB Zac;subst hB';simp only[Builtin.firstCells];rw[<- hl];refine run_loadCells_list w1 _ c3 (fun j v hv=>?_);rw[dW,Rt,eg hb];have:=Ql j v (YT j v hv);rw[ef xs lo hN Zac]at this;have:=hc _ _ this;simpa[Zbj] using this
theorem mY(hs:w3 N Pb Kb A a w F){x:Operand}{C:Prop}{ys:List V}(h:QP A x=some (C,ys))(hC:C){s:Nat}(L8:aR s ys)(ho:V.ax ys=false):
 ∃ (B:Option Addr) (c:Nat) (flat:List Value),a.eval x=.slice B ys.length c/\RL w Pb ys flat []/\
   (∀ w1:World,(∀ ad,w1.cell? ad=w.cell? ad)->(Builtin.firstCells s ys.length (a.eval x)).run P w1=.ok flat.toArray w1)/\flat.length=ys.length*s:=by
 obtain⟨Fx,hr⟩:=dS hs x;unfold QP at h;split at h;rename_i full xs e;simp only[Zan,Zaq]at h;obtain⟨_,rfl⟩:=h;rw[e]at hr;have hr:R w Pb (.sl full xs) [a.eval x] Fx:=hr;have hF:Fx=[]:=hr.1;subst hF;obtain⟨B,c,flat,h1,h2,h3,h4⟩:=zd (P:=P) hr L8;exact⟨B,c,flat,h1,h2,h3,h4⟩;rename_i sz xs g o c e;simp only[Zan,Zaq]at h;obtain⟨_,rfl⟩:=h;rw[e]at hr;have hr:R w Pb (.own sz xs g o c) [a.eval x] Fx:=hr;have U':=hr;obtain⟨B,flat,F',h1,h2,h3,h4,h5,h6⟩:=xt (P:=P) hr;have hF:=gi xs ho h2;subst hF;by_cases hc:0<c;obtain⟨_,S3,_,_,hl⟩:=h4 hc;by_cases he:xs=[];subst he;exact⟨B,c,flat,h1,h2,fun w1 Rt=>by
  have:=h3 w1 Rt;simpa[Builtin.firstCells,h1] using this,by simpa using hl⟩
 obtain⟨v,vs,rfl⟩:=List.exists_cons_of_ne_nil he;have M4:s=sz:=by rw[<- L8 v Zad,<- S3 v Zad]
 subst M4;exact⟨B,c,flat,h1,h2,h3,hl⟩;obtain⟨rfl,_,_,rfl⟩:=h5 Zac;exact⟨B,c,[],h1,h2,fun w1 Rt=>by
  have:=h3 w1 Rt;simpa[Builtin.firstCells,h1] using this,Zad⟩
 rename_i r p sz g o lo n c e;rw[e]at hr;obtain⟨_,hle,B,hv,hB⟩:=hr;have hv:a.eval x=.slice B n c:=(List.cons.inj hv).1
 have key:∀ u Fo Vo,R w Pb u Vo Fo->jF lo n sz g o u=some (C,ys)->∃ (B:Option Addr) (c:Nat) (flat:List Value),a.eval x=.slice B ys.length c/\RL w Pb ys flat []/\
  (∀ w1:World,(∀ ad,w1.cell? ad=w.cell? ad)->(Builtin.firstCells s ys.length (a.eval x)).run P w1=.ok flat.toArray w1)/\flat.length=ys.length*s:=by
  intro u Fo Vo N7 hu;unfold jF at hu;split at hu;rename_i PZ xs g2 o2 c2;simp only[Zan,Zaq]at hu;obtain⟨rfl,rfl⟩:=hu;obtain⟨⟨rfl,rfl,rfl⟩,hln,V9,_⟩:=hC;obtain⟨flat,k1,k2,k3⟩:=HC (P:=P) N7 hle hB hln V9 L8;have hlen:((xs.drop lo).take n).length=n:=Zal;rw[hlen];exact⟨B,c,flat,hv,k1,by rw[hv];exact k2,k3⟩;simp at hu
 split at h;rename_i i;have Qi:=hs.slot i;unfold jF at h;split at h;rename_i PZ xs g2 o2 c2 hg;rw[hg]at Qi;exact key (.own PZ xs g2 o2 c2) _ _ Qi (by unfold jF;exact h);simp at h;rename_i k p';split at h;rename_i a0 b0 u A8;obtain⟨F',cs,cells,hb,N7,u0⟩:=iz hs A8;exact key u F' cs N7 h;simp at h;simp at h;simp at h
theorem pK{t sz:Nat}{xs:List V}{g o c:Nat}(h:A.get t=.own sz xs g o c):A.drop (.tmp t)=A.put (some t) .c9:=by simp[AS.drop,h,V.df]
end
def E1(A B:AS):Prop:=(∀ i,A.get i=B.get i)/\∀ k,lk k A.h=lk k B.h
theorem E1.le{A B:AS}(h:E1 A B):A.le B:=⟨fun i=>.inr (h.1 i),fun k=>.inr (h.2 k)⟩
theorem E1.symm{A B:AS}(h:E1 A B):E1 B A:=⟨fun i=>(h.1 i).symm,fun k=>(h.2 k).symm⟩
theorem E1.trans{A B C:AS}(h:E1 A B)(k:E1 B C):E1 A C:=⟨fun i=>(h.1 i).trans (k.1 i),fun i=>(h.2 i).trans (k.2 i)⟩
def Uy(o:Oper):List Nat:=(o.after.toList.filter (Region.binds .any)).map (·.on)
section
variable {P:Program} {N:Nat} {ops:Array Oper}
theorem FT{α:Type}(t:Nat):∀ (l1 l2:List (Nat×α)),lk t (l1++l2)=match lk t l1 with | some v=>some v | none=>lk t l2
 | [],l2=>rfl
 | (k,v)::l1,l2=>by
   simp only[List.cons_append,lk];by_cases h:t=k;rw[if_pos h,if_pos h];rw[if_neg h,if_neg h];exact FT t l1 l2
def UI(listed:Array Bool)(n:Nat):Nat:=((List.range n).filter fun i=>!listed.getD i true).length
theorem GK{listed:Array Bool}{n:Nat}(h:UI listed n=0):∀ j,j<n->listed.getD j true=true:=by
 intro j hj;unfold UI at h;have:=Za5 h;rw[List.filter_eq_nil_iff]at this;simpa using this j Zbp
theorem Jr{listed:Array Bool}{n i:Nat}(hi:i<n)(hs:listed.size=n)(hu:listed.getD i true=false):UI (listed.setIfInBounds i true) n+1=UI listed n:=by
 unfold UI;have h:∀ m,m<=n->((List.range m).filter fun j=>!(listed.setIfInBounds i true).getD j true).length+(if i<m then 1 else 0)=((List.range m).filter fun j=>!listed.getD j true).length:=by
  intro m;induction m with
  | zero=>simp
  | succ m ih=>
    intro hm;have ih:=ih Zac;rw[List.range_succ,List.filter_append,List.filter_append,Zap,Zap];by_cases he:m=i;subst he;have e1:(listed.setIfInBounds m true).getD m true=true:=by simp[Array.getD]
    rw[if_neg Zac]at ih;rw[List.filter_cons_of_neg (by rw[e1];decide),List.filter_cons_of_pos (by rw[hu];rfl),if_pos Zac];simp only[List.filter_nil,Zar,Zau];omega;have e1:(listed.setIfInBounds i true).getD m true=listed.getD m true:=getD_set_ne true (Ne.symm he);have e2:([m].filter fun j=>!(listed.setIfInBounds i true).getD j true).length=([m].filter fun j=>!listed.getD j true).length:=by
     cases hb:listed.getD m true with
     | true=>rw[List.filter_cons_of_neg (by rw[e1,hb];decide),List.filter_cons_of_neg (by rw[hb];decide)];rfl
     | false=>rw[List.filter_cons_of_pos (by rw[e1,hb];rfl),List.filter_cons_of_pos (by rw[hb];rfl)];rfl
    rw[e2];by_cases hlt:i<m;rw[if_pos hlt]at ih;rw[if_pos Zac];omega;rw[if_neg hlt]at ih;rw[if_neg Zac];omega
 have:=h n (Zbc _);rw[if_pos hi]at this;exact this
end
def NC(P:Program)(N:Nat)(ops:Array Oper)(El:List Nat)(U:Nat×Nat×Nat->AS->AS)(o:Oper)(A:AS):Prop:=
 ∀ A':AS,(∀ t,t∈o.looksAt ops\/t∈El->A'.get t=A.get t)->(∀ k,lk k A'.h=lk k A.h)->∀ K:AS->Prop,(∀ gh,K (U gh A'))->F9 P N o A' K
def iR(ops:Array Oper):Nat->Nat->Nat->Bool
 | 0,_,_=>false
 | n+1,j,i=>match ops[j]? with
   | some o=>(Uy o).any fun k=>k==i||iR ops n k i
   | none=>false
theorem kJ{ops:Array Oper}{L:Nat->Bool}(hcl:∀ k o,ops[k]? =some o->L k=true->∀ j,j∈Uy o->L j=true):∀ (n j i:Nat),iR ops n j i=true->L j=true->L i=true
 | 0,_,_,h,_=>by simp[iR]at h
 | n+1,j,i,h,hj=>by
   simp only[iR]at h;split at h;rename_i o ho;rw[List.any_eq_true]at h;obtain⟨k,hk,h⟩:=h;have Rv:=hcl j o ho hj k hk;rw[Bool.or_eq_true,Zbl]at h;rcases h with rfl | h;exact Rv;exact kJ hcl n k i h Rv;simp at h
structure UOk (U:Nat×Nat×Nat->AS->AS) (Sl Hl:List Nat) (d:Nat):Prop where
 g:∀ gh B t,t ∉ Sl->(U gh B).get t=B.get t
 h:∀ gh B k,k ∉ Hl->lk k (U gh B).h=lk k B.h
 c:∀ gh B B',E1 B B'->E1 (U gh B) (U gh B')
 p:∀ gh B t v,t ∉ Sl->E1 (U gh (B.put (some t) v)) ((U gh B).put (some t) v)
 d:∀ gh B v,E1 (U gh (B.put (some d) v)) (U gh B)
 q:∀ gh B k gv,k ∉ Hl->E1 (U gh ⟨B.t,(k,gv)::B.h⟩) ⟨(U gh B).t,(k,gv)::(U gh B).h⟩
section
variable {P:Program} {N:Nat} {ops:Array Oper}
end
structure Sq where
 Y1:Bool
 El:List Nat
 fr:Option (List Nat)
 Sl:List Nat
 Hl:List Nat
structure ZT (P:Program) where
 T:Nat
 v:V
 ok:nz P T v
def RC(d:Nat)(v:V)(g:Nat)(B:AS):AS:=⟨(d,.ptr (.key d) [] g 0)::B.t,(d,(g,v))::B.h⟩
def bD(ops:Array Oper)(tb:List (Nat×Sq))(i:Nat):Sq:=match lk i tb with
 | some e=>e
 | none=>match ops[i]? with
   | some o=>⟨false,[],(match o.op with | .load _ _=>none | _=>some []),o.dst.toList,[]⟩
   | none=>⟨false,[],none,[],[]⟩
def gg(ops:Array Oper)(tb:List (Nat×Sq))(i:Nat):List Nat:=(match ops[i]? with | some o=>o.looksAt ops | none=>[])++(bD ops tb i).El
def Ye(A' A:AS)(fs:List Nat):Prop:= ∀ t,t∈fs->A'.get t=A.get t
def hM:Nat:=1000000
def Ul(g o:Nat)(v:V)(p:List Nat):Option (Nat×Nat×V×Nat):=match V.at g o v p with
 | some (g',o',.own sz xs g1 o1 c)=>some (g',o',.own sz [] g1 o1 c,xs.length)
 | _=>none
def TC(i:Nat):List Nat:=if Nat.blt i 10=true then [i] else [i / 10,i % 10]
def N8(h:List (Nat×(Nat×V)))(q:Nat):Option (Nat×Nat×V×Nat):=match lk (q / 100) h with
 | some (g,v)=>Ul g 0 v (TC (q % 100))
 | none=>none
theorem zi{h h':List (Nat×(Nat×V))}{q:Nat}(e:lk (q / 100) h'=lk (q / 100) h):N8 h' q=N8 h q:=by unfold N8;rw[e]
def S8(A' A:AS)(k:Nat):Prop:=if Nat.blt k hM=true then lk k A'.h=lk k A.h else N8 A'.h (k-hM)=N8 A.h (k-hM)
theorem vJ{A' A:AS}(h:∀ k,lk k A'.h=lk k A.h)(k:Nat):S8 A' A k:=by
 unfold S8;split;exact h k;exact zi (h _)
theorem S8.trans{A B C:AS}{k:Nat}(h1:S8 A B k)(h2:S8 B C k):S8 A C k:=by
 unfold S8 at *;split;rename_i c;rw[if_pos c]at h1 h2;exact Eq.trans h1 h2;rename_i c;rw[if_neg c]at h1 h2;exact Eq.trans h1 h2
def Vq(A' A:AS):Option (List Nat)->Prop
 | none=> ∀ k,lk k A'.h=lk k A.h
 | some fr=> ∀ k,k∈fr->S8 A' A k
def UZ(P:Program)(N:Nat)(ops:Array Oper)(o:Oper)(A:AS)(v:V)(fs:List Nat)(fr:Option (List Nat)):Prop:=
 ∀ A':AS,Ye A' A fs->Vq A' A fr->gd ops o A' (F9 P N o A' (fun B=>E1 B (A'.put o.dst v))) (cI N o.dst/\∀ w Pb,RV w Pb v undef [])
def Yf(P:Program)(N:Nat)(o:Oper)(A:AS){G:Type}(U:G->AS->AS)(fs:List Nat)(fr:Option (List Nat)):Prop:=
 o.guard=none/\∀ A':AS,Ye A' A fs->Vq A' A fr->F9 P N o A' (fun B=> ∃ g,E1 B (U g A'))
structure Tl {G:Type} (U:G->AS->AS) (fs Sl Hl:List Nat):Prop where
 g:∀ g B t,t ∉ Sl->(U g B).get t=B.get t
 h:∀ g B k,k ∉ Hl->lk k (U g B).h=lk k B.h
 c:∀ g B B',E1 B B'->E1 (U g B) (U g B')
 p:∀ g B t v,t ∉ Sl->t ∉ fs->E1 (U g (B.put (some t) v)) ((U g B).put (some t) v)
 q:∀ g B k gv,k ∉ Hl->E1 (U g ⟨B.t,(k,gv)::B.h⟩) ⟨(U g B).t,(k,gv)::(U g B).h⟩
structure Xs {G:Type} (U:G->AS->AS) (fs Sl Hl:List Nat):Prop extends Tl U fs Sl Hl where
 s:∀ q,hM+q∈Hl->∀ g B,N8 (U g B).h q=N8 B.h q
def PY(P:Program)(N:Nat)(ops:Array Oper)(tb:List (Nat×Sq))(zs:List (Nat×ZT P)):List Nat->AS->(AS->Prop)->Prop
 | [],A,K=>K A
 | i::l,A,K=> ∃ o,ops[i]? =some o/\match lk i zs with
  | some z=> ∀ g,PY P N ops tb zs l (RC (o.dst.getD 0) z.v g A) K
  | none=>match (bD ops tb i).Y1 with
   | false=>(bD ops tb i).Sl=o.dst.toList/\(bD ops tb i).Hl=[]/\∃ v,UZ P N ops o A v (gg ops tb i) (bD ops tb i).fr/\PY P N ops tb zs l (A.put o.dst v) K
   | true=> ∃ (G:Type) (U:G->AS->AS),Yf P N o A U (gg ops tb i) (bD ops tb i).fr/\Xs U (gg ops tb i) (bD ops tb i).Sl (bD ops tb i).Hl/\∀ g,PY P N ops tb zs l (U g A) K
def cm(a b:List Nat):Bool:=a.all fun x=>!b.contains x
def DQ(a:List Nat):Option (List Nat)->Bool
 | none=>a.isEmpty
 | some b=>b.all fun x=>if Nat.blt x hM=true then !a.contains x else !a.contains ((x-hM) / 100)||a.contains x
def indep(ops:Array Oper)(tb:List (Nat×Sq)){P:Program}(zs:List (Nat×ZT P))(p i:Nat):Bool:=
 (lk i zs).isNone&&!(bD ops tb p).Y1&&cm (bD ops tb p).Sl (gg ops tb i)&&cm (bD ops tb i).Sl (gg ops tb p)&&cm (bD ops tb p).Sl (bD ops tb i).Sl&&DQ (bD ops tb i).Hl (bD ops tb p).fr
def pw(ops:Array Oper)(tb:List (Nat×Sq)){P:Program}(zs:List (Nat×ZT P))(p i:Nat):Bool:=
 match lk i zs,ops[i]? with
 | some _,some o=>match lk p zs,ops[p]? with
   | some _,some o'=>o'.dst.getD 0 != o.dst.getD 0
   | none,_=>!(bD ops tb p).Sl.contains (o.dst.getD 0)&&!(gg ops tb p).contains (o.dst.getD 0)&&!(bD ops tb p).Hl.contains (o.dst.getD 0)&&(match (bD ops tb p).fr with | some l=>l.all (fun x=>if Nat.blt x hM=true then x != o.dst.getD 0 else (x-hM) / 100 != o.dst.getD 0) | none=>false)
   | _,none=>false
 | _,_=>false
def qA(ops:Array Oper)(m:Nat)(tb:List (Nat×Sq)){P:Program}(zs:List (Nat×ZT P)):List Nat->Bool
 | []=>true
 | p::l=>(l.all fun i=>(match lk p zs with | none=>indep ops tb zs p i | some _=>false)||iR ops 64 i p||pw ops tb zs p i)&&qA ops m tb zs l
def CX(N:Nat)(ops:Array Oper){P:Program}(zs:List (Nat×ZT P)):Bool:=zs.all fun x=>match ops[x.1]? with
 | some o=>(match o.op,o.dst with | .alloc T,some d=>T==x.2.T&&Nat.blt d N | _,_=>false)&&o.guard.isNone
 | none=>false
def P0(l:List Nat):Bool:=match l with
 | []=>true
 | k::r=>!r.contains k&&P0 r
def Dq(ops:Array Oper)(m:Nat)(pl:List Nat):Bool:=
 (pl.all fun i=>Nat.blt i m)&&P0 pl&&((List.range m).all fun i=>pl.contains i)&&Nat.ble m ops.size&&
 (ops.toList.zipIdx.all fun (o,i)=>(Uy o).all (fun k=>Nat.blt k i))&&
 ((List.range (ops.size-m)).all fun q=>match ops[m+q]? with
   | some _=>(List.range (m+q)).all fun k=>iR ops 64 (m+q) k
   | none=>false)
section
variable {P:Program} {N:Nat} {ops:Array Oper} {tb:List (Nat×Sq)} {zs:List (Nat×ZT P)}
theorem wv{a b:List Nat}(h:cm a b=true):∀ x,x∈a->x ∉ b:=fun x hx=>by
 unfold cm at h;rw[Za2]at h;simpa using h x hx
theorem E1.jH{A:AS}:E1 A A:=⟨fun _=>rfl,fun _=>rfl⟩
theorem KY{A B:AS}{d:Option Nat}{v:V}(h:E1 A B):E1 (A.put d v) (B.put d v):=by
 cases d with
 | none=>exact h
 | some d'=>exact⟨fun t=>by rw[AS.aC,AS.aC];split
                            rfl;exact h.1 t,h.2⟩
theorem UZ.congr{o:Oper}{A B:AS}{v:V}{fs:List Nat}{fr:Option (List Nat)}(h:UZ P N ops o A v fs fr)(h1:Ye B A fs)(h2:Vq B A fr):UZ P N ops o B v fs fr:=fun A' k1 k2=>
 h A' (fun t ht=>(k1 t ht).trans (h1 t ht)) (by
   cases fr with
   | none=>exact fun k=>(k2 k).trans (h2 k)
   | some l=>exact fun k hk=>(k2 k hk).trans (h2 k hk))
theorem Yf.congr{G:Type}{U:G->AS->AS}{o:Oper}{A B:AS}{fs:List Nat}{fr:Option (List Nat)}(h:Yf P N o A U fs fr)(h1:Ye B A fs)(h2:Vq B A fr):Yf P N o B U fs fr:=⟨h.1,fun A' k1 k2=>
 h.2 A' (fun t ht=>(k1 t ht).trans (h1 t ht)) (by
  cases fr with
  | none=>exact fun k=>(k2 k).trans (h2 k)
  | some l=>exact fun k hk=>(k2 k hk).trans (h2 k hk))⟩
theorem uX{A B:AS}(h:A.h=B.h)(fr:Option (List Nat)):Vq A B fr:=by
 cases fr with
 | none=>exact fun k=>by rw[h]
 | some l=>exact fun k _=>vJ (fun k=>by rw[h]) k
theorem FE{A B:AS}(h:E1 A B)(fr:Option (List Nat)):Vq A B fr:=by
 cases fr with
 | none=>exact h.2
 | some l=>exact fun k _=>vJ h.2 k
theorem JG{G:Type}{U:G->AS->AS}{fs Sl Hl fr:List Nat}(hU:Xs U fs Sl Hl)(hd:DQ Hl (some fr)=true){k:Nat}(hk:k∈fr)(g:G)(B:AS):S8 (U g B) B k:=by
 have hx:=Za2.1 hd k hk;unfold S8;split;rename_i c;rw[if_pos c]at hx;exact hU.h g B k Zbt;rename_i c;rw[if_neg c,Bool.or_eq_true]at hx;have UP:hM+(k-hM)=k:=by
  have: ¬ k<hM:=fun h=>c (by simpa[Nat.blt_eq] using h);omega
 rcases hx with hx | hx;exact zi (hU.h g B _ Zbt);exact hU.s _ (by rw[UP];simpa using hx) g B
theorem nM{A:AS}{d:Option Nat}{v:V}:(A.put d v).h=A.h:=by cases d <;> rfl
theorem jR{A:AS}{d:Option Nat}{v:V}{t:Nat}(h:t ∉ d.toList):(A.put d v).get t=A.get t:=by
 cases d with
 | none=>rfl
 | some d'=>rw[AS.aC,if_neg (by simpa using h)]
theorem Ez{d:Nat}{v:V}{g:Nat}{A B:AS}(h:E1 A B):E1 (RC d v g A) (RC d v g B):=
 ⟨fun t=>by simp only[RC,AS.get,lk];split
            rfl
            exact h.1 t,fun k=>by simp only[RC,lk];split;rfl;exact h.2 k⟩
theorem eP{K:AS->Prop}(hK:∀ A B,E1 A B->K A->K B):∀ (l:List Nat) {A B:AS},E1 A B->PY P N ops tb zs l A K->PY P N ops tb zs l B K
 | [],A,B,h,hA=>hK A B h hA
 | i::l,A,B,h,hA=>by
   obtain⟨o,ho,hA⟩:=hA;refine⟨o,ho,?_⟩;split at hA;exact fun g=>eP hK l (Ez h) (hA g);split at hA;obtain⟨e1,e2,v,h1,h2⟩:=hA;exact⟨e1,e2,v,h1.congr (fun t _=>(h.1 t).symm) (FE h.symm _),eP hK l (KY h) h2⟩;obtain⟨G,U,h1,h2,h3⟩:=hA;exact⟨G,U,h1.congr (fun t _=>(h.1 t).symm) (FE h.symm _),h2,fun g=>eP hK l (h2.c g _ _ h) (h3 g)⟩
theorem HE{K:AS->Prop}(hK:∀ A B,E1 A B->K A->K B){p i:Nat}{l:List Nat}{A:AS}(hp:lk p zs=none)(hi:indep ops tb zs p i=true)(h:PY P N ops tb zs (p::i::l) A K):PY P N ops tb zs (i::p::l) A K:=by
 unfold indep at hi;simp only[Zao,Bool.not_eq_true']at hi;obtain⟨⟨⟨⟨⟨hz,h1⟩,h2⟩,h3⟩,h4⟩,h5⟩:=hi;have hz:lk i zs=none:=by simpa using hz
 have h2:=wv h2;have h3:=wv h3;have h4:=wv h4;obtain⟨op,O9,h⟩:=h;rw[hp]at h;simp only at h;rw[h1]at h;obtain⟨e1,e2,v,k1,oi,hoi,h⟩:=h;refine⟨oi,hoi,?_⟩;rw[hz]at h ⊢;simp only at h ⊢;rw[e1]at h2 h4;have g1:Ye A (A.put op.dst v) (gg ops tb i):=fun t ht=>(jR (fun c=>h2 t c ht)).symm;split at h;rename_i he;obtain⟨f1,f2,v',k2,k3⟩:=h;rw[f1]at h3 h4;refine⟨f1,f2,v',k2.congr g1 (uX nM.symm _),op,O9,?_⟩;rw[hp];simp only;rw[h1];refine⟨e1,e2,v,k1.congr (fun t ht=>jR (fun c=>h3 t c ht)) (uX nM _),?_⟩;refine eP hK l ⟨fun t=>?_,fun k=>by rw[nM,nM,nM,nM]⟩ k3;by_cases c1:t∈oi.dst.toList;cases hd:oi.dst with
 | none=>rw[hd]at c1;simp at c1
 | some d=>
   rw[hd]at c1;have c1:t=d:=by simpa using c1
   subst c1;have hn:t ∉ op.dst.toList:=fun c=>h4 t c (by rw[hd];simp);rw[AS.aC,if_pos rfl,jR hn,AS.aC,if_pos rfl]
 rw[jR c1];by_cases c2:t∈op.dst.toList;cases hd:op.dst with
 | none=>rw[hd]at c2;simp at c2
 | some d=>
   rw[hd]at c2;have c2:t=d:=by simpa using c2
   subst c2;rw[AS.aC,if_pos rfl,AS.aC,if_pos rfl]
 rw[jR c2,jR c2,jR c1];obtain⟨G,U,k2,k3,k4⟩:=h;refine⟨G,U,k2.congr g1 (uX nM.symm _),k3,fun g=>⟨op,O9,?_⟩⟩;rw[hp];simp only;rw[h1];refine⟨e1,e2,v,k1.congr (fun t ht=>k3.g g A t (fun c=>h3 t c ht)) ?_,?_⟩;cases hf:(bD ops tb p).fr with
 | none=>
   rw[hf]at h5;have:(bD ops tb i).Hl=[]:=by simpa[DQ] using h5
   exact fun k=>k3.h g A k (by rw[this];simp)
 | some fr=>
   rw[hf]at h5;exact fun k hk=>JG k3 h5 hk g A
 refine eP hK l ?_ (k4 g);cases hd:op.dst with
 | none=>exact E1.jH
 | some d=>exact k3.p g A d v (fun c=>h4 d (by rw[hd];simp) c) (fun c=>h2 d (by rw[hd];simp) c)
theorem wJ{d:Nat}{v:V}{g t:Nat}{A:AS}(h:t≠d):(RC d v g A).get t=A.get t:=by simp only[RC,AS.get,lk];rw[if_neg h]
theorem Gi{d:Nat}{v:V}{g k:Nat}{A:AS}(h:k≠d):lk k (RC d v g A).h=lk k A.h:=by simp only[RC,lk];rw[if_neg h]
theorem KD{d:Nat}{v:V}{g:Nat}{A:AS}{dd:Option Nat}{u:V}(h:d ∉ dd.toList):E1 (RC d v g (A.put dd u)) ((RC d v g A).put dd u):=by
 cases dd with
 | none=>exact E1.jH
 | some d'=>
   have hne:d≠d':=Zbq
   refine⟨fun t=>?_,fun k=>rfl⟩;rw[AS.aC];by_cases c:t=d;subst c;rw[if_neg hne];simp only[RC,AS.get,lk,if_true];rw[wJ c,wJ c,AS.aC]
theorem EO{K:AS->Prop}(hK:∀ A B,E1 A B->K A->K B){p i:Nat}{l:List Nat}{A:AS}(hi:pw ops tb zs p i=true)(h:PY P N ops tb zs (p::i::l) A K):PY P N ops tb zs (i::p::l) A K:=by
 unfold pw at hi;split at hi
 case h_2=>simp at hi
 rename_i z o hz ho;obtain⟨op,O9,h⟩:=h;have inner:∀ {B:AS},PY P N ops tb zs (i::l) B K->∀ g,PY P N ops tb zs l (RC (o.dst.getD 0) z.v g B) K:=fun h g=>by
  obtain⟨o',SZ,h⟩:=h;rw[ho]at SZ;obtain rfl:=Option.some.inj SZ;rw[hz]at h;exact h g
 refine⟨o,ho,?_⟩;rw[hz];refine fun g=>⟨op,O9,?_⟩;split at hi;rename_i z' o' ZV YG;rw[O9]at YG;obtain rfl:=Option.some.inj YG;rw[ZV]at h ⊢;intro g';have hne:op.dst.getD 0≠o.dst.getD 0:=Zbn
 refine eP hK l ⟨fun t=>?_,fun k=>?_⟩ (inner (h g') g);simp only[RC,AS.get,lk];by_cases c:t=o.dst.getD 0;rw[if_pos c,if_neg (fun c2=>hne (c2.symm.trans c)),if_pos c];rw[if_neg c,if_neg c];simp only[RC,lk];by_cases c:k=o.dst.getD 0;rw[if_pos c,if_neg (fun c2=>hne (c2.symm.trans c)),if_pos c];rw[if_neg c,if_neg c];rename_i ZV;simp only[Zao,Bool.not_eq_true',Zbi,decide_eq_false_iff_not]at hi;obtain⟨⟨⟨i1,i2⟩,i3⟩,i4⟩:=hi;rw[ZV]at h ⊢;simp only at h ⊢;have gS:Ye (RC (o.dst.getD 0) z.v g A) A (gg ops tb p):=fun t ht=>wJ fun c=>i2 (by rw[<- c];exact ht);have gR:Vq (RC (o.dst.getD 0) z.v g A) A (bD ops tb p).fr:=by
  split at i4;rename_i l' hl;rw[hl];intro k hk;have i5:=Za2.1 i4 k hk;unfold S8;split;rename_i c;rw[if_pos c]at i5;exact Gi (by simpa using i5);rename_i c;rw[if_neg c]at i5;exact zi (Gi (by simpa using i5));simp at i4
 split at h;obtain⟨e1,e2,v,k1,h⟩:=h;refine⟨e1,e2,v,k1.congr gS gR,?_⟩;exact eP hK l (KD (by rw[<- e1];exact i1)) (inner h g);obtain⟨G,U,k1,k2,h⟩:=h;refine⟨G,U,k1.congr gS gR,k2,fun x=>eP hK l ?_ (inner (h x) g)⟩;have e1:=k2.q x ⟨(o.dst.getD 0,.ptr (.key (o.dst.getD 0)) [] g 0)::A.t,A.h⟩ (o.dst.getD 0) (g,z.v) i3;have e2:=k2.p x A (o.dst.getD 0) (.ptr (.key (o.dst.getD 0)) [] g 0) i1 i2;refine E1.trans ?_ e1.symm;refine⟨fun t=>?_,fun k=>?_⟩;exact(e2.1 t).symm;simp only[RC,lk];split;rfl;exact(e2.2 k).symm;simp at hi
theorem Ad{K:AS->Prop}(hK:∀ A B,E1 A B->K A->K B){i:Nat}{l2:List Nat}:∀ (l1:List Nat) {A:AS},(∀ p,p∈l1->(lk p zs=none/\indep ops tb zs p i=true)\/pw ops tb zs p i=true)->PY P N ops tb zs (l1++i::l2) A K->PY P N ops tb zs (i::(l1++l2)) A K
 | [],A,_,h=>h
 | p::l1,A,hi,h=>by
   have ih:∀ A,PY P N ops tb zs (l1++i::l2) A K->PY P N ops tb zs (i::(l1++l2)) A K:=fun A=>Ad hK l1 (fun q hq=>hi q (by simp[hq]));have h2:PY P N ops tb zs (p::i::(l1++l2)) A K:=by
    obtain⟨o,ho,h⟩:=h;refine⟨o,ho,?_⟩;split at h;exact fun g=>ih _ (h g);split at h;obtain⟨e1,e2,v,h1,h2⟩:=h;exact⟨e1,e2,v,h1,ih _ h2⟩;obtain⟨G,U,h1,h2,h3⟩:=h;exact⟨G,U,h1,h2,fun g=>ih _ (h3 g)⟩
   rcases hi p Zad with h | h;exact HE hK h.1 h.2 h2;exact EO hK h h2
theorem BZ{α:Type}:∀ {l:List (Nat×α)} {k:Nat} {v:α},lk k l=some v->(k,v)∈l
 | [],_,_,h=>by simp[lk]at h
 | (k0,v0)::l,k,v,h=>by
   simp only[lk]at h;split at h;rename_i e;subst e;cases h;simp;exact List.mem_cons_of_mem _ (BZ h)
theorem CJ{m:Nat}:∀ {pl l1 l2:List Nat} {i p:Nat},qA ops m tb zs pl=true->pl=l1++i::l2->p∈l1->((lk p zs=none/\indep ops tb zs p i=true)\/pw ops tb zs p i=true)\/iR ops 64 i p=true
 | [],l1,l2,i,p,_,e,_=>by simp at e
 | q::pl,[],l2,i,p,_,_,hp=>by simp at hp
 | q::pl,x::l1,l2,i,p,h,e,hp=>by
   simp only[List.cons_append,List.cons.injEq]at e;obtain⟨rfl,rfl⟩:=e;simp only[qA,Zao,Za2]at h;rcases List.mem_cons.1 hp with rfl | hp;have:=h.1 i Zad;rw[Bool.or_eq_true,Bool.or_eq_true]at this;rcases this with (h | h) | h;split at h;exact .inl (.inl ⟨by assumption,h⟩);simp at h;exact .inr h;exact .inl (.inr h);exact CJ h.2 rfl hp
theorem oC{m:Nat}(f:Nat->Bool):∀ {pl:List Nat},qA ops m tb zs pl=true->qA ops m tb zs (pl.filter f)=true
 | [],_=>rfl
 | p::pl,h=>by
   simp only[qA,Zao,Za2]at h;simp only[List.filter_cons];split;simp only[qA,Zao,Za2];exact⟨fun i hi=>h.1 i (List.mem_filter.1 hi).1,oC f h.2⟩;exact oC f h.2
theorem yM{L:Nat->Bool}(hcl:∀ k o,ops[k]? =some o->L k=true->∀ j,j∈Uy o->L j=true){i k:Nat}{o:Oper}(ho:ops[i]? =some o)(Zt:∀ j,j∈Uy o->L j=true)(h:iR ops 64 i k=true):L k=true:=by
 have h:iR ops (63+1) i k=true:=h;generalize (63:Nat)=n at h;simp only[iR,ho]at h;rw[List.any_eq_true]at h;obtain⟨q,hq,h⟩:=h;rw[Bool.or_eq_true,Zbl]at h;rcases h with rfl | h;exact Zt _ hq;exact kJ hcl n q k h (Zt _ hq)
theorem wU{id m:Nat} {pl:List Nat} {A:AS} {Q:Exit->AS->Prop} (hm:P.follows .mixedOrders=true) (hc:qA ops m tb zs pl=true) (Zv:CX N ops zs=true) (Ua:Dq ops m pl=true)
 (h:PY P N ops tb zs pl A (fun B=> ∃ B',E1 B B'/\WL P N ops (ops.toList.drop m) B' (Q .normal))):T P N (.region id ops true) A Q:=by
 unfold Dq at Ua;simp only[Zao,Za2]at Ua;obtain⟨⟨⟨⟨⟨p1,p2⟩,p3⟩,p4⟩,p5⟩,p6⟩:=Ua;have hml:=Nat.le_of_ble_eq_true p4;have W1:∀ i,i∈pl↔i<m:=fun i=>⟨fun hi=>Nat.lt_of_succ_le (Nat.le_of_ble_eq_true (p1 i hi)),fun hi=>by have:=p3 i (List.mem_range.2 hi);simpa using this⟩;have hnd:pl.Nodup:=by
  have:∀ l:List Nat,P0 l=true->l.Nodup:=by
   intro l;induction l with
   | nil=>intro _;exact Zba
   | cons a l ih=>
     intro h;simp only[P0,Zao,Bool.not_eq_true',Zbi,decide_eq_false_iff_not]at h;exact List.nodup_cons.2 ⟨h.1,ih h.2⟩
  exact this pl p2
 have Uk:∀ i o,ops[i]? =some o->∀ k,k∈Uy o->k<i:=fun i o ho k hk=>by
  have hmz:(o,i)∈ops.toList.zipIdx:=by rw[List.mk_mem_zipIdx_iff_getElem?];simpa using ho
  have:=p5 (o,i) hmz;simp only[Za2]at this;exact Nat.lt_of_succ_le (Nat.le_of_ble_eq_true (this k hk))
 have V1:∀ i o,ops[i]? =some o->m<=i->∀ k,k<i->iR ops 64 i k=true:=fun i o ho hi k hk=>by
  have hin:i<ops.size:=(Zbh.1 ho).1;have:=p6 (i-m) (List.mem_range.2 Zac);rw[show m+(i-m)=i from Zac,ho]at this;simp only[Za2]at this;simpa using this k (List.mem_range.2 hk)
 let Kt:AS->Prop:=fun B=> ∃ B',E1 B B'/\WL P N ops (ops.toList.drop m) B' (Q .normal)
 have hKt:∀ A B,E1 A B->Kt A->Kt B:=fun A B hAB ⟨B',h1,h2⟩=>⟨B',hAB.symm.trans h1,h2⟩;intro Pb Kb a w F hs;refine wp_region_any hm ?_;have j6:w3 N Pb Kb A a { w with drawn:=w.drawn+1 } F:=hs.grow (fun _ _=>rfl) (Zbc _) (fun _ h=>h) (fun g h=>.inl h) hs.sub;obtain⟨w0,hw0⟩:∃ w0:World,w0={ w with drawn:=w.drawn+1 }:=⟨_,rfl⟩;have Tf:A4 Kb w w0:=by rw[hw0];exact⟨rfl,rfl,rfl,Zbc _,fun _ _=>rfl,fun _ c _ _ h=>⟨c,h,rfl⟩⟩
 rw[<- hw0]at j6 ⊢
 let rem (listed:Array Bool):List Nat:=pl.filter fun j=>!listed.getD j true
 let Ph (listed:Array Bool) (A':AS):Prop:=
  (rem listed≠[]/\PY P N ops tb zs (rem listed) A' Kt)\/
  (∃ k,m<=k/\k<=ops.size/\(∀ j,j<ops.size->listed.getD j true=decide (j<k))/\WL P N ops (ops.toList.drop k) A' (Q .normal))
 have key:∀ fuel (listed:Array Bool) a w',listed.size=ops.size->UI listed ops.size=fuel->
  (∀ k o,ops[k]? =some o->listed.getD k true=true->∀ j,j∈Uy o->listed.getD j true=true)->Nx N Pb Kb w0 (Ph listed) a w'->
  wpAny P .any ops (fun e a' w'=>Nx N Pb Kb w (Q e) a' w') fuel listed a w':=by
  intro fuel;induction fuel with
  | zero=>
    intro listed a w' hsz hu hcl hn;have L8:=GK hu;refine⟨?_,(Nx.step (fun _ h=>h) (fun _ h=>h) (fun _ h=>.inl h) Tf hn).mono fun A' YY=>?_⟩;rw[List.eq_nil_iff_forall_not_mem];intro j hj;rw[mem_ready]at hj;obtain⟨h0,o,ho,_⟩:=hj;have:=L8 j (Zbh.1 ho).1;rw[h0]at this;cases this;rcases YY with ⟨hne,_⟩ | ⟨k,S1,Qk,XP,hw⟩;exfalso;apply hne;rw[List.filter_eq_nil_iff];intro j hj;rw[L8 j (by have:=(W1 j).1 hj;omega)];simp;have:k=ops.size:=by
     rcases Nat.lt_or_ge k ops.size with h | h;have:=XP k h;rw[L8 k h]at this;simp at this;omega
    subst this;rw[Za8 Zad]at hw;exact hw
  | succ fuel ih=>
    intro listed a w' hsz hu hcl hn;have Ve:∀ j,j<ops.size->listed.getD j false=listed.getD j true:=fun j hj=>by
     have hj':j<listed.size:=Zac;simp[Array.getD,hj']
    constructor;intro hr;exfalso;have hex:∃ j,j<ops.size/\listed.getD j true=false:=by
     refine Classical.byContradiction fun hne=>?_;have:UI listed ops.size=0:=by
      unfold UI;rw[List.filter_eq_nil_iff.2];rfl;intro j hj;simp only[List.mem_range]at hj;cases hb:listed.getD j true with
      | true=>simp
      | false=>exact absurd ⟨j,hj,hb⟩ hne
     omega
    have hmin:∀ n,∀ j,j<=n->j<ops.size->listed.getD j true=false->∃ j',j'<ops.size/\listed.getD j' true=false/\∀ i,i<j'->listed.getD i true=true:=by
     intro n;induction n with
     | zero=>intro j hj h1 h2;exact⟨j,h1,h2,fun i hi=>by omega⟩
     | succ n ihn=>
       intro j hj h1 h2;by_cases hsm:∃ i,i<j/\listed.getD i true=false;obtain⟨i,hi,hf⟩:=hsm;exact ihn i Zac Zac hf;exact⟨j,h1,h2,fun i hi=>by
        cases hb:listed.getD i true with
        | true=>rfl
        | false=>exact absurd ⟨i,hi,hb⟩ hsm⟩
    obtain⟨j,Zp,Xc⟩:=hex;obtain⟨j',h1,h2,h3⟩:=hmin j j (Zbc _) Zp Xc;have ho:ops[j']? =some ops[j']:=by simp[h1]
    have:j'∈Region.ready .any ops listed:=by
     rw[mem_ready];refine⟨h2,_,ho,fun e he hb=>?_⟩;have hlt:=Uk j' _ ho e.on (by simp only[Uy,List.mem_map,List.mem_filter];exact⟨e,⟨by simpa using he,hb⟩,rfl⟩);rw[Ve _ Zac];exact h3 _ hlt
    rw[hr]at this;cases this;intro i hi;rw[mem_ready]at hi;obtain⟨hi0,o,ho,Zt⟩:=hi;have hin:i<ops.size:=(Zbh.1 ho).1;have Vf:∀ k,k∈Uy o->listed.getD k true=true:=fun k hk=>by
     have hlt:=Uk i o ho k hk;simp only[Uy,List.mem_map,List.mem_filter]at hk;obtain⟨e,⟨he,hb⟩,rfl⟩:=hk;rw[<- Ve _ Zac];exact Zt e (by simpa using he) hb
    have Q1:∀ k,k<ops.size->(listed.setIfInBounds i true).getD k true=(if k=i then true else listed.getD k true):=fun k hk=>by
     by_cases e:k=i;subst e;simp[Array.getD,hsz,hin];rw[if_neg e];exact getD_set_ne true (Ne.symm e)
    have hcl':∀ k o,ops[k]? =some o->(listed.setIfInBounds i true).getD k true=true->∀ j,j∈Uy o->(listed.setIfInBounds i true).getD j true=true:=fun k o' SZ hk j hj=>by
     have hkn:=(Zbh.1 SZ).1;have hjk:=Uk k o' SZ j hj;rw[Q1 k hkn]at hk;rw[Q1 j Zac];split;rfl;split at hk;rename_i e;subst e;rw[ho]at SZ;obtain rfl:=Option.some.inj SZ;exact Vf j hj;exact hcl k o' SZ hk j hj
    have hun':UI (listed.setIfInBounds i true) ops.size=fuel:=by have:=Jr hin hsz hi0;omega
    have Tg:∀ Vr U2,Nx N Pb Kb w0 (Ph (listed.setIfInBounds i true)) Vr U2->wpAny P .any ops (fun e a' w'=>Nx N Pb Kb w (Q e) a' w') fuel (listed.setIfInBounds i true) Vr U2:=
     fun Vr U2 V'=>ih _ Vr U2 (by simpa using hsz) hun' hcl' V'
    obtain⟨A',Pb',E7,F',YY,h2,h3,h4,h5,h6⟩:=hn;rcases YY with ⟨hne,hD⟩ | ⟨k,S1,Qk,XP,hw⟩
    ·
     obtain⟨j0,hj0⟩:=List.exists_mem_of_ne_nil _ hne;obtain⟨Zp,Xc⟩:=List.mem_filter.1 hj0;have hj0m:=(W1 j0).1 Zp;have XT:listed.getD j0 true=false:=by simpa using Xc
     have him:i<m:=by
      rcases Nat.lt_or_ge i m with h | h;exact h;have:=yM hcl ho Vf (V1 i o ho h j0 Zac);rw[XT]at this;cases this
     have hir:i∈rem listed:=List.mem_filter.2 ⟨(W1 i).2 him,by rw[hi0];rfl⟩;obtain⟨l1,l2,hl⟩:=List.append_of_mem hir;have WY:(rem listed).Nodup:=hnd.filter _;have V6:rem (listed.setIfInBounds i true)=l1++l2:=by
      have e1:rem (listed.setIfInBounds i true)=(rem listed).filter fun j=>j != i:=by
       show pl.filter _=(pl.filter _).filter _;rw[List.filter_filter];apply List.filter_congr;intro j hj;rw[Q1 j (by have:=(W1 j).1 hj;omega)];by_cases e:j=i;subst e;simp;simp[e]
      rw[e1,hl];rw[hl]at WY;rw[List.nodup_append]at WY;obtain⟨n1,n2,n3⟩:=WY;rw[List.filter_append,List.filter_cons];simp only[bne_self_eq_false,Bool.false_eq_true,if_false];have f1:l1.filter (fun j=>j != i)=l1:=List.filter_eq_self.2 fun j hj=>by
       have:=n3 j hj i Zad;simpa using this
      have f2:l2.filter (fun j=>j != i)=l2:=List.filter_eq_self.2 fun j hj=>by
       have:=(List.nodup_cons.1 n2).1;simp only[bne_iff_ne,ne_eq];rintro rfl;exact this hj
      rw[f1,f2]
     have hind:∀ p,p∈l1->(lk p zs=none/\indep ops tb zs p i=true)\/pw ops tb zs p i=true:=fun p hp=>by
      rcases CJ (oC _ hc) hl hp with h | h;exact h;exfalso;have hpr:p∈rem listed:=by rw[hl];simp[hp]
      have Zi:listed.getD p true=false:=by have:=(List.mem_filter.1 hpr).2;simpa using this
      have hanc:∀ (n j:Nat),iR ops n i j=true->listed.getD j true=true:=by
       intro n j hj;cases n with
       | zero=>simp[iR]at hj
       | succ n=>
         simp only[iR,ho]at hj;rw[List.any_eq_true]at hj;obtain⟨q,hq,hj⟩:=hj;have hql:=Vf q hq;rw[Bool.or_eq_true,Zbl]at hj;rcases hj with rfl | hj;exact hql;exact kJ (L:=fun k=>listed.getD k true) hcl n q j hj hql
      have:=hanc 64 p h;rw[Zi]at this;cases this
     rw[hl]at hD;obtain⟨o',SZ,hD⟩:=Ad hKt l1 hind hD;rw[ho]at SZ;obtain rfl:=Option.some.inj SZ;have W2:∀ B QN QW a2 w2 F2,PY P N ops tb zs (l1++l2) B Kt->w3 N QN QW B a2 w2 F2->∃ B' F3,Ph (listed.setIfInBounds i true) B'/\w3 N QN QW B' a2 w2 F3:=fun B QN QW a2 w2 F2 hB Rg=>by
      by_cases Ud:rem (listed.setIfInBounds i true)=[];rw[<- V6,Ud]at hB;obtain⟨B',e1,e2⟩:=hB;obtain⟨F3,Pz,_⟩:=Rg.le e1.symm.le;refine⟨B',F3,.inr ⟨m,Zbc _,hml,fun j hj=>?_,e2⟩,Pz⟩;rcases Nat.lt_or_ge j m with h | h;have:j ∉ rem (listed.setIfInBounds i true):=by rw[Ud];simp
      have: ¬ ((!(listed.setIfInBounds i true).getD j true)=true):=fun c=>this (List.mem_filter.2 ⟨(W1 j).2 h,c⟩);simp only[Bool.not_eq_true',Bool.not_eq_false]at this;rw[this];simp[h];have hoj:ops[j]? =some ops[j]:=by simp[hj]
      rw[Q1 j hj,if_neg Zac];cases hb:listed.getD j true with
      | false=>simp;omega
      | true=>
        have:=kJ hcl 64 j j0 (V1 j _ hoj h j0 Zac) hb;rw[XT]at this;cases this
      exact⟨B,F2,.inl ⟨Ud,by rw[V6];exact hB⟩,Rg⟩
     unfold Go.wpOp;simp only[ho];split at hD;rename_i z hz;unfold CX at Zv;rw[Za2]at Zv;have Sy:=Zv _ (BZ hz);simp only[ho]at Sy;rw[Zao]at Sy;obtain⟨Sy,hz3⟩:=Sy;split at Sy;rename_i T d O9 Pf;simp only[Zao,Zbl]at Sy;have TX:Region.wanted o (yielded ops a.tmps)=true:=by unfold Region.wanted;rw[show o.guard=none from by simpa using hz3]
     rw[if_pos TX];rw[Pf]at hD;refine .inl (Oper.wp_mono ?_ (rn (K:=fun B=>PY P N ops tb zs (l1++l2) B Kt) O9 Pf (Nat.lt_of_succ_le (Nat.le_of_ble_eq_true Sy.2)) (by rw[Sy.1];exact z.ok) hD Pb' E7 a w' F' _ h2));rintro a2 w2 ⟨B,QN,QW,F2,k1,k2,k3,k4,k5,k6⟩;obtain⟨B',F3,hp,Pz⟩:=W2 B QN QW a2 w2 F2 k1 k2;exact Tg a2 w2 (Nx.step h3 h4 h5 h6 ⟨B',QN,QW,F3,hp,Pz,k3,k4,k5,k6⟩);simp at Sy;split at hD;obtain⟨_,_,v,hv,hD⟩:=hD;rcases uf (hv A' (fun _ _=>rfl) (uX rfl _)) h2 with ⟨TX,O9⟩ | ⟨TX,hd,hvd⟩;rw[if_pos TX];refine .inl (Oper.wp_mono ?_ (O9 Pb' E7 a w' F' _ h2));rintro a2 w2 ⟨B,QN,QW,F2,k1,k2,k3,k4,k5,k6⟩;obtain⟨B',F3,hp,Pz⟩:=W2 B QN QW a2 w2 F2 (eP hKt _ k1.symm hD) k2;exact Tg a2 w2 (Nx.step h3 h4 h5 h6 ⟨B',QN,QW,F3,hp,Pz,k3,k4,k5,k6⟩);rw[if_neg (by simp[TX])];obtain⟨F2,M4⟩:=h2.pF (d:=o.dst) (v:=v) (x:=undef) hd (hvd w' Pb');obtain⟨B',F3,hp,Pz⟩:=W2 _ Pb' E7 _ w' F2 hD M4;exact Tg _ w' ⟨B',Pb',E7,F3,hp,Pz,h3,h4,h5,h6⟩;obtain⟨G,U,hE,_,hD⟩:=hD;have TX:Region.wanted o (yielded ops a.tmps)=true:=by unfold Region.wanted;rw[hE.1]
     rw[if_pos TX];refine .inl (Oper.wp_mono ?_ (hE.2 A' (fun _ _=>rfl) (uX rfl _) Pb' E7 a w' F' _ h2));rintro a2 w2 ⟨B,QN,QW,F2,⟨g,k1⟩,k2,k3,k4,k5,k6⟩;obtain⟨B',F3,hp,Pz⟩:=W2 B QN QW a2 w2 F2 (eP hKt _ k1.symm (hD g)) k2;exact Tg a2 w2 (Nx.step h3 h4 h5 h6 ⟨B',QN,QW,F3,hp,Pz,k3,k4,k5,k6⟩)
    ·
     have hik:i=k:=by
      rw[XP i hin]at hi0;simp only[decide_eq_false_iff_not]at hi0;rcases Nat.lt_or_ge k i with h | h;have:=yM hcl ho Vf (V1 i o ho Zac k h);rw[XP k Zac]at this;simp at this;omega
     subst hik;have R':ops.toList.drop i=o::ops.toList.drop (i+1):=by
      rw[List.drop_eq_getElem_cons (by simpa using hin)];have:ops[i]=o:=by have:=Zbh.1 ho;exact this.2
      simp[this]
     rw[R']at hw;have W2:∀ B,WL P N ops (ops.toList.drop (i+1)) B (Q .normal)->Ph (listed.setIfInBounds i true) B:=fun B hB=>
      .inr ⟨i+1,Zac,Zac,fun j hj=>by
       rw[Q1 j hj];split;rename_i e;subst e;simp;rename_i e;rw[XP j hj];have:(j<i)↔(j<i+1):=Zac;simp[this],hB⟩
     unfold Go.wpOp;simp only[ho];rcases uf hw h2 with ⟨TX,O9⟩ | ⟨TX,hd,u,hu,VZ⟩;rw[if_pos TX];refine .inl (Oper.wp_mono ?_ (O9 Pb' E7 a w' F' _ h2));intro a2 w2 W7;exact Tg a2 w2 (Nx.step h3 h4 h5 h6 (W7.mono W2));rw[if_neg (by simp[TX])];obtain⟨F2,M4⟩:=h2.pF (d:=o.dst) (v:=u) (x:=undef) hd (hu w' Pb');exact Tg _ w' ⟨_,Pb',E7,F2,W2 _ VZ,M4,h3,h4,h5,h6⟩
 have U9:∀ k,k<ops.size->(Array.replicate ops.size false).getD k true=false:=fun k hk=>by simp[Array.getD,hk]
 have V5:rem (Array.replicate ops.size false)=pl:=List.filter_eq_self.2 fun j hj=>by rw[U9 j (by have:=(W1 j).1 hj;omega)];rfl
 have B5:∃ A1 F1,Ph (Array.replicate ops.size false) A1/\w3 N Pb Kb A1 a w0 F1:=by
  by_cases hp:pl=[];subst hp;obtain⟨B',e1,e2⟩:=h;obtain⟨F3,Pz,_⟩:=j6.le e1.symm.le;have hm0:m=0:=by
   rcases Nat.eq_zero_or_pos m with h | h;exact h;have:=(W1 0).2 h;simp at this
  exact⟨B',F3,.inr ⟨m,Zbc _,hml,fun j hj=>by rw[U9 j hj,hm0];simp,e2⟩,Pz⟩;exact⟨A,F,.inl ⟨by rw[V5];exact hp,by rw[V5];exact h⟩,j6⟩
 obtain⟨A1,F1,hP1,PA⟩:=B5;exact key ops.size (Array.replicate ops.size false) a w0 Zad (by
  unfold UI;rw[List.filter_eq_self.2];simp;intro j hj;simp only[List.mem_range]at hj;rw[U9 j hj];rfl)
  (fun k o ho hk=>by rw[U9 k (Zbh.1 ho).1]at hk;cases hk) ⟨A1,Pb,Kb,F1,hP1,PA,fun _ h=>h,fun _ h=>h,fun _ h=>.inl h,A4.refl _ _⟩
end
section
variable {P:Program} {N:Nat} {ops:Array Oper} {A A':AS}
theorem MA{w:World}{Pb:Nat->Prop}{v:V}{x:Value}{F:List Nat}(h:WC w Pb v x F):RV w Pb v x F:=by
 cases v with
 | gv b u=>simp[WC,R]at h
 | _=>exact h
def V.gT:V->Bool | .gv _ _=>true | _=>false
theorem zR{w:World}{Pb:Nat->Prop}{v:V}{x:Value}{F:List Nat}(h:RV w Pb v x F)(hn:v.gT=false):WC w Pb v x F:=by
 cases v with
 | gv b u=>simp[V.gT]at hn
 | _=>exact h
theorem qt{a:Act}{t:Nat}:a.put (some t) (a.tmps.getD t undef)=a:=by
 cases a with
 | mk tmps defers=>
   simp only[Act.put];congr 1;apply Array.ext_getElem?;intro i;by_cases e:t=i;subst e;by_cases h:t<tmps.size;simp[h,Array.getElem?_setIfInBounds_self];simp[h,Array.getElem?_setIfInBounds];rw[Array.getElem?_setIfInBounds_ne e]
def pj(G b:Bool)(v:V):Prop:=match v.df||v.gT with
 | false=>G=true->b=true
 | true=>False
theorem ym{G b:Bool}{v:V}(h:pj G b v)(hG:G=true):b=true/\v.df=false/\v.gT=false:=by
 unfold pj at h;split at h;rename_i e;rw[Bool.or_eq_false_iff]at e;exact⟨h hG,e.1,e.2⟩;exact h.elim
def AS.un(G:Bool):List Operand->AS->Prop×AS
 | [],A=>(True,A)
 | .tmp t::r,A=>match A.get t with
   | .gv b v=>match AS.un G r (A.put (some t) v) with
     | (C,B)=>(pj G b v/\C,B)
   | _=>AS.un G r A
 | _::r,A=>AS.un G r A
theorem jQ{w:World}{Pb Kb:Nat->Prop}{a:Act}{G:Bool}(hG:G=true):∀ (xs:List Operand) {A B:AS} {F:m4->List Nat} {C:Prop},AS.un G xs A=(C,B)->C->w3 N Pb Kb A a w F->(∀ t,Operand.tmp t∈xs->t<N)->∃ F',w3 N Pb Kb B a w F'
 | [],A,B,F,C,h,hC,hs,_=>by simp only[AS.un,Zaq]at h;obtain⟨_,rfl⟩:=h;exact⟨F,hs⟩
 | x::xs,A,B,F,C,h,hC,hs,hN=>by
   have S3:∀ t,Operand.tmp t∈xs->t<N:=fun t ht=>hN t (by simp[ht]);cases x with
   | tmp t=>
     simp only[AS.un]at h;split at h;rename_i b v hg;cases hu:AS.un G xs (A.put (some t) v) with
     | mk C1 B1=>
       rw[hu]at h;simp only[Zaq]at h;obtain⟨rfl,rfl⟩:=h;have hr:=hs.slot t;rw[hg]at hr;have B0:=hs.put (d:=t) (v:=v) (x:=a.tmps.getD t undef) (F':=[]) (hN t Zad) (MA (hr.2.1 (ym hC.1 hG).1)) Zad Zad Zad;rw[qt]at B0;exact jQ hG xs hu hC.2 B0 S3
     exact jQ hG xs h hC hs S3
   | _=>exact jQ hG xs h hC hs S3
def IT(A B:AS):Prop:=(∀ i,A.get i=B.get i\/∃ b,A.get i=.gv b (B.get i)/\b=true/\(B.get i).df=false/\(B.get i).gT=false)/\A.h=B.h
theorem w3.wrap{w:World}{Pb Kb:Nat->Prop}{a:Act}{F:m4->List Nat}{B:AS}(hs:w3 N Pb Kb B a w F)(h:IT A B):w3 N Pb Kb A a w F where
 size:=hs.size
 defers:=hs.defers
 slot:=fun i=>by
  rcases h.1 i with e | ⟨b,e,hb,ho,hg⟩;rw[e];exact hs.slot i;have hr:=hs.slot i;rw[e];have hF:=wF ho hr;rw[hF]at hr ⊢;exact⟨rfl,fun _=>zR hr hg,fun c=>by rw[hb]at c;cases c⟩
 root:=fun k g v hk=>hs.root k g v (by rw[<- h.2];exact hk)
 cm:=hs.cm
 nodup:=hs.nodup
 free:=hs.free
 sub:=hs.sub
 bound:=hs.bound
theorem nA{G:Bool}(hG:G=true):∀ (xs:List Operand) {A B:AS} {C:Prop},AS.un G xs A=(C,B)->C->IT A B
 | [],A,B,C,h,hC=>by simp only[AS.un,Zaq]at h;obtain⟨_,rfl⟩:=h;exact⟨fun _=>.inl rfl,rfl⟩
 | x::xs,A,B,C,h,hC=>by
   cases x with
   | tmp t=>
     simp only[AS.un]at h;split at h;rename_i b v hg;cases hu:AS.un G xs (A.put (some t) v) with
     | mk C1 B1=>
       rw[hu]at h;simp only[Zaq]at h;obtain⟨rfl,rfl⟩:=h;obtain⟨k1,k2⟩:=nA hG xs hu hC.2;obtain⟨hb,ho,hv⟩:=ym hC.1 hG;refine⟨fun i=>?_,k2⟩;have:=k1 i;rw[AS.aC]at this;by_cases e:i=t;subst e;rw[if_pos rfl]at this;rcases this with e' | ⟨b',e',_⟩;exact .inr ⟨b,by rw[hg,<- e'],hb,by rw[<- e'];exact ho,by rw[<- e'];exact hv⟩;rw[e']at hv;simp[V.gT]at hv;rw[if_neg e]at this;exact this
     exact nA hG xs h hC
   | _=>exact nA hG xs h hC
def QC(A:AS)(ops:Array Oper)(j:Nat)(b:Bool):Option Bool:=
 match ((ops[j]?).bind (·.dst)).map A.get with
 | some (.lit (.bool g))=>some (g==b)
 | some (.gv c (.lit (.bool g)))=>some (c&&(g==b))
 | _=>none
theorem pC{A:AS}{o:Oper}{j:Nat}{b G:Bool}{x y:Prop}(hg:o.guard=some (j,b))(h:QC A ops j b=some G)(hx:G=true->x)(hy:G=false->y):gd ops o A x y:=by
 unfold QC at h;unfold gd;rw[hg];simp only;split at h;rename_i g e;try rw[e]
 simp only[Zan]at h ⊢;subst h;split;rename_i e';exact hx (by simp[e']);rename_i e';exact hy (by simp[e']);rename_i c g e;try rw[e]
 simp only[Zan]at h ⊢;subst h;split;rename_i e';exact hx e';rename_i e';exact hy (by simpa using e');simp at h
def St(N:Nat):List Operand->Bool
 | []=>true
 | .tmp t::r=>decide (t<N)&&St N r
 | _::r=>St N r
theorem pc:∀ {xs:List Operand},St N xs=true->∀ t,Operand.tmp t∈xs->t<N
 | [],_,t,ht=>by simp at ht
 | x::xs,h,t,ht=>by
   cases x with
   | tmp t'=>
     simp only[St,Zao,Zbk]at h;simp only[List.mem_cons]at ht;rcases ht with e | ht;injection e with e;subst e;exact h.1;exact pc h.2 t ht
   | _=>
     simp only[List.mem_cons,reduceCtorEq,false_or]at ht;exact pc (xs:=xs) (by simpa[St] using h) t ht
theorem Ih{o:Oper} {l:List Oper} {K:AS->Prop} {j:Nat} {b G:Bool} {C C':Prop} {B:AS} {v:V} {xs:List Operand} (hg:o.guard=some (j,b)) (hG:QC A ops j b=some G) (hu:AS.un G xs A=(C,B))
 (B5:J1 P B o.op=some (C',v)) (P5:St N xs=true) (hd:cI N o.dst) (hC:G=true->C/\C'/\v.gT=false)
 (hK:WL P N ops l (A.put o.dst (.gv G v)) K):WL P N ops (o::l) A K:=by
 refine pC hg hG (fun PV=>?_) (fun We=>?_);obtain⟨h1,h2,h3⟩:=hC PV;refine jl (v:=.gv G v) hd hK fun Pb Kb a w F hs=>?_;obtain⟨F',B0⟩:=jQ PV _ hu h1 hs (pc P5);obtain⟨x,hx,hr⟩:=wA B5 h2 B0 rfl;exact⟨x,hx,rfl,fun _=>zR hr h3,fun h=>by rw[PV]at h;cases h⟩;exact⟨hd,.gv G v,fun _ _=>⟨rfl,(fun h=>by rw[We]at h;cases h),fun _=>rfl⟩,hK⟩
theorem bB{x:Operand}(h:∀ t,x=.tmp t->A'.get t=A.get t):A'.ev x=A.ev x:=by
 cases x with
 | tmp t=>exact h t rfl
 | _=>rfl
theorem ly{x:Operand}(h:∀ t,x=.tmp t->A'.get t=A.get t):A'.cp x=A.cp x:=by
 cases x with
 | tmp t=>simp only[AS.cp,h t rfl]
 | _=>rfl
theorem va{x:Option Operand}(h:∀ t,x=some (.tmp t)->A'.get t=A.get t):x.map A'.ev=x.map A.ev:=by
 cases x with
 | none=>rfl
 | some y=>simp only[Option.map_some,bB (x:=y) fun t e=>h t (by rw[e])]
theorem jS{G:Bool}:∀ (xs:List Operand) {A A' B:AS} {C:Prop},AS.un G xs A=(C,B)->(∀ t,Operand.tmp t∈xs->A'.get t=A.get t)->
 ∃ B',AS.un G xs A'=(C,B')/\(∀ t,A'.get t=A.get t->B'.get t=B.get t)/\B'.h=A'.h/\B.h=A.h
 | [],A,A',B,C,h,_=>by
   simp only[AS.un,Zaq]at h;obtain⟨rfl,rfl⟩:=h;exact⟨A',rfl,fun _ h=>h,rfl,rfl⟩
 | x::xs,A,A',B,C,h,hx=>by
   have P1:∀ t,Operand.tmp t∈xs->A'.get t=A.get t:=fun t ht=>hx t (by simp[ht]);cases x with
   | tmp t=>
     have ht:=hx t Zad;simp only[AS.un]at h ⊢;rw[ht];split at h;rename_i b v hg;cases hu:AS.un G xs (A.put (some t) v) with
     | mk C1 B1=>
       rw[hu]at h;simp only[Zaq]at h;obtain⟨rfl,rfl⟩:=h;obtain⟨B',k1,k2,k3,k4⟩:=jS xs (A':=A'.put (some t) v) hu (fun t' ht'=>by
        rw[AS.aC,AS.aC];split;rfl;exact P1 t' ht')
       refine⟨B',by simp only[k1],fun t' ht'=>k2 t' ?_,by rw[k3];rfl,by rw[k4];rfl⟩;rw[AS.aC,AS.aC];split;rfl;exact ht'
     exact jS xs h P1
   | const c=>exact jS xs h P1
   | global g=>exact jS xs h P1
   | func f=>exact jS xs h P1
theorem eL{o:Oper}{t:Nat}(h:Operand.tmp t∈o.op.operands.toList):t∈o.looksAt ops:=by
 unfold Oper.looksAt;rw[Zax];exact .inl (List.mem_filterMap.2 ⟨_,h,rfl⟩)
theorem rF{xs:List Operand}(h:∀ t,Operand.tmp t∈xs->A'.get t=A.get t):xs.map A'.cp=xs.map A.cp:=by
 apply List.map_congr_left;intro x hx;exact ly fun t e=>h t (by rw[<- e];exact hx)
theorem GH{K:AS->Prop} {d:Option Nat} {f:FuncId} {xs:Array Operand} {N2:Array TypeId} {ty:TypeId} {pos:String} {after:Array Edge} {rest:List Oper}
 {j:Nat} {b G:Bool} {C:Prop} {B:AS} {L:List V} {E:V} (hd:cI N d) (hG:QC A ops j b=some G) (hu:AS.un G xs.toList A=(C,B)) (P5:St N xs.toList=true)
 (hL:xs.toList.map B.cp=L) (hc:G=true->C/\PC P f L (fun r=>r.er=E)/\E.gT=false/\E.df=false) (hK:WL P N ops rest (A.put d (.gv G E)) K):
 WL P N ops (⟨d,.call { callee:=.value (.func f),args:=xs,argTypes:=N2 },ty,pos,after,some (j,b)⟩ :: rest) A K:=by
 subst hL;refine pC (j:=j) (b:=b) rfl hG (fun PV=>?_) (fun We=>⟨hd,.gv G E,fun _ _=>⟨rfl,(fun h=>by rw[We]at h;cases h),fun _=>rfl⟩,hK⟩);obtain⟨h1,h2,h3,h4⟩:=hc PV;intro Pb Kb a w F Q' hs;obtain⟨F',B0⟩:=jQ PV _ hu h1 hs (pc P5);have hw:=nA PV _ hu h1;have M5:=oH (N:=N) (o:=⟨d,.call { callee:=.value (.func f),args:=xs,argTypes:=N2 },ty,pos,after,some (j,b)⟩) (K:=fun A'=>A'=B.put d E) (A:=B) rfl hd h2 (fun _ h=>h) rfl;refine Oper.wp_mono ?_ (M5 Pb Kb a w F' Q' B0);rintro a' w' ⟨A',Pb',E7,F2,rfl,M4,k3,k4,k5,k6⟩;refine⟨_,Pb',E7,F2,hK,M4.wrap ?_,k3,k4,k5,k6⟩;cases d with
 | none=>exact hw
 | some d=>
   refine⟨fun i=>?_,hw.2⟩;rw[AS.aC,AS.aC];by_cases e:i=d;rw[if_pos e,if_pos e];exact .inr ⟨G,rfl,PV,h4,h3⟩;rw[if_neg e,if_neg e];exact hw.1 i
end
def HB(op:BinOp)(a b:BL):Option (Prop×V):=
 match op with
 | .add=>some (a.length+b.length<=4611686018427387904,.lit (.string (Str (a++b))))
 | .eql=>some (True,.lit (.bool (a==b)))
 | .neq=>some (True,.lit (.bool (!(a==b))))
 | _=>none
def DD(op:BinOp)(d:Option D)(x y:V):Option (Prop×V):=
 match d,x,y with
 | some .str,.lit (.string a),.lit (.string b)=>HB op a.data.toList b.data.toList
 | d,x,y=>um op d x y
def Mw:Option D->V->V->Option (Prop×V)
 | some .str,.lit (.string s),.lit (.int _ i)=>some (0<=i/\i<s.data.toList.length,.lit (.int .u8 (s.data.toList.getD i.toNat 0).toNat))
 | _,_,_=>none
def Iq(s:BL)(lo hi:Option V):Option (Prop×V):=
 match WK lo,Wa s.length hi with
 | some l,some h=>some (0<=l/\l<=h/\h<=s.length,.lit (.string (Str ((s.take h.toNat).drop l.toNat))))
 | _,_=>none
def LD(x:V)(lo hi:Option V):Option (Prop×V):=
 match x with
 | .lit (.string s)=>Iq s.data.toList lo hi
 | _=>none
def GQ:Option D->V->Option (Prop×V)
 | some .str,.lit (.string s)=>some (True,.lit (.int .i64 s.data.toList.length))
 | d,x=>Ab d x
def Dc(P:Program)(A:AS)(c:Call):Option (Prop×V):=
 match c.callee with
 | .builtin .len=>match c.args.toList,c.argTypes.toList with
   | [x],[T]=>GQ (tD P T) (A.ev x)
   | _,_=>none
 | .builtin .max=>match c.args.toList with
   | [x,y]=>DW (A.ev x) (A.ev y)
   | _=>none
 | _=>none
def AR(P:Program)(d:Option D)(x:V)(j:Nat):Option (Prop×V):=
 match d with
 | some (.st fs)=>match fs[j]? with
   | some (off,T)=>match ti P T with
     | some i=>match x with
       | .agg vs=>match vs[j]? with
         | some v=>if (V.ns (vs.take j)==off&&(i.sz==v.n&&i.d.agg==v.isAgg))=true then some (True,v) else none
         | none=>none
       | _=>none
     | none=>none
   | none=>none
 | _=>none
def pJ(P:Program)(d:Option D)(x:V)(j:Nat):Option (Prop×V):=
 match d with
 | some (.st fs)=>match fs[j]? with
   | some (off,T)=>match ti P T with
     | some i=>match x with
       | .ptr r p g o=>if (i.sz != 0)=true then some (True,.ptr r (p++[j]) g (o+off)) else none
       | .ep (.agg vs)=>match vs[j]? with
         | some v=>if (i.sz != 0&&V.ns (vs.take j)==off)=true then some (True,.ep v) else none
         | none=>none
       | _=>none
     | none=>none
   | none=>none
 | _=>none
def Jf(A:AS)(i:Option TI)(x:V)(A5:List V):Option (Prop×V×List V):=
 match i with
 | some i=>match x with
   | .ptr r p g o=>match A5 with
     | []=>none
     | .c9::A5=>match A.at r p with
       | some (g',o',v)=>if (v.n==i.sz&&i.d.agg==v.isAgg)=true then some ((g',o')=(g,o),v.Ti r p,A5) else none
       | none=>none
     | v::A5=>if (v.n==i.sz&&i.d.agg==v.isAgg)=true then some (A.at r p=some (g,o,v),v.Ti r p,A5) else none
   | .ep v=>if (v.n==i.sz&&i.d.agg==v.isAgg)=true then some (True,v,A5) else none
   | _=>none
 | none=>none
def wO(A5:List V):Option (Prop×V)->Option (Prop×V×List V)
 | some (C,v)=>some (C,v,A5)
 | none=>none
def vF(P:Program)(d:Option D)(x i:V)(A5:List V):Option (Prop×V×List V):=
 match d,i with
 | some (.sl e),.lit (.int _ i)=>match ti P e with
   | some t=>match x with
     | .sl _ xs=>match A5 with
       | v::A5=>if (v.n==t.sz)=true then some (0<=i/\xs[i.toNat]? =some v,.ep v,A5) else none
       | []=>none
     | .hd r p sz g o lo n _=>if (sz==t.sz)=true then some (0<=i/\i<n,.ptr r (p++[lo+i.toNat]) g (o+(lo+i.toNat)*sz),A5) else none
     | _=>none
   | none=>none
 | d,i=>wO A5 (jC P d x i)
def sY(P:Program)(A:AS)(op:Op)(A5:List V):Option (Prop×V×List V):=
 match op with
 | .binOp o T x y _=>wO A5 (DD o (tD P T) (A.ev x) (A.ev y))
 | .index T x i=>wO A5 (Mw (tD P T) (A.ev x) (A.ev i))
 | .slice T x lo hi none=>match tD P T with
   | some .str=>wO A5 (LD (A.ev x) (lo.map A.ev) (hi.map A.ev))
   | d=>wO A5 (Dr P d (A.ev x) (lo.map A.ev) (hi.map A.ev))
 | .call c=>wO A5 (Dc P A c)
 | .field T x j=>wO A5 (AR P (tD P T) (A.cp x) j)
 | .fieldAddr T x j=>wO A5 (pJ P (tD P T) (A.ev x) j)
 | .load T x=>Jf A (ti P T) (A.ev x) A5
 | .indexAddr T x i=>vF P (tD P T) (A.ev x) (A.ev i) A5
 | op=>wO A5 (J1 P A op)
section
variable {P:Program} {N:Nat} {ops:Array Oper} {A A':AS}
theorem qn(s:ByteArray):Str s.data.toList=s:=by apply ByteArray.ext;simp[Str]
theorem eM{A5 Rr:List V}{x:Option (Prop×V)}{C:Prop}{v:V}(h:wO A5 x=some (C,v,Rr)):x=some (C,v):=by
 cases x with
 | none=>simp[wO]at h
 | some y=>obtain⟨a,b⟩:=y;simp only[wO,Zan,Zaq]at h;obtain⟨rfl,rfl,_⟩:=h;rfl
theorem Kl{op:BinOp}{d:Option D}{x y:V}{C:Prop}{v:V}(h:DD op d x y=some (C,v))(hC:C):∃ C',um op d x y=some (C',v)/\C':=by
 unfold DD at h;split at h;rename_i a b;simp only[um];cases op <;> simp only[HB,Zan,Zaq,reduceCtorEq]at h <;> obtain⟨rfl,rfl⟩:=h;refine⟨a.size+b.size<=4611686018427387904,?_,by rw[Array.length_toList,Array.length_toList]at hC;exact hC⟩;simp only[xj];rw[<- JP,qn,qn];refine⟨True,?_,trivial⟩;simp only[xj,Lib.toList_data];refine⟨True,?_,trivial⟩;simp only[xj,Lib.toList_data];exact⟨C,h,hC⟩
theorem sh{op:Op}{A5 Rr:List V}{C:Prop}{v:V}(h:sY P A op A5=some (C,v,Rr))(hC:C):∃ C',J1 P A op=some (C',v)/\C':=by
 unfold sY at h;split at h;exact Kl (eM h) hC;rename_i T x i;have h:=eM h;unfold Mw at h;split at h;rename_i s k i' e1 e2 e3;simp only[Zan,Zaq]at h;obtain⟨rfl,rfl⟩:=h;refine⟨0<=i'/\i'<s.size,?_,by rw[Array.length_toList]at hC;exact hC⟩;simp only[J1,RE,Hf,e1,e2,e3];rw[<- qn s,LX];rfl;simp at h;rename_i T x lo hi;split at h;rename_i e;have h:=eM h;simp only[J1,e];unfold LD at h;split at h;rename_i s e';unfold Iq at h;split at h;rename_i l hh e1 e2;simp only[Zan,Zaq]at h;obtain⟨rfl,rfl⟩:=h;have X4:Wa s.size (hi.map A.ev)=some hh:=by
  rw[<- e2,Array.length_toList];rfl
 refine⟨0<=l/\l<=hh/\hh<=s.size,?_,by rw[Array.length_toList]at hC;exact hC⟩;simp only[CW,e',Hj,e1,X4];rw[<- JF,qn];simp at h;simp at h;rename_i d hd;have h:=eM h;refine⟨C,?_,hC⟩;simp only[J1];exact h;rename_i c;have h:=eM h;unfold Dc at h;split at h;rename_i hc;split at h;rename_i x T hx hT;simp only[J1,RE,vp,hc,hx,hT];unfold GQ at h;split at h;rename_i s e1 e2;simp only[Zan,Zaq]at h;obtain⟨rfl,rfl⟩:=h;exact⟨True,by simp only[Ab,e1,e2,ByteArray.size,Array.length_toList],trivial⟩;exact⟨C,h,hC⟩;simp at h;rename_i hc;split at h;rename_i x y hx;simp only[J1,RE,vp,hc,hx];exact⟨C,h,hC⟩;simp at h;simp at h;rename_i T x j;have h:=eM h;simp only[J1];unfold AR at h;split at h;rename_i fs e1;split at h;rename_i off T' e2;split at h;rename_i i e3;split at h;rename_i vs e4;split at h;rename_i u e5;split at h;rename_i hb;simp only[Zan,Zaq]at h;obtain⟨_,rfl⟩:=h;simp only[Zao,Zbl]at hb;exact⟨_,by simp only[wc,e1,e2,e3,e4,e5],hb⟩;simp at h;simp at h;simp at h;simp at h;simp at h;simp at h;rename_i T x j;have h:=eM h;simp only[J1];unfold pJ at h;split at h;rename_i fs e1;split at h;rename_i off T' e2;split at h;rename_i i e3;split at h;rename_i r p g o e4;split at h;rename_i hb;simp only[Zan,Zaq]at h;obtain⟨_,rfl⟩:=h;exact⟨i.sz≠0,by simp only[kM,e1,e2,e3,e4],Zby⟩;simp at h;rename_i vs e4;split at h;rename_i u e5;split at h;rename_i hb;simp only[Zan,Zaq]at h;obtain⟨_,rfl⟩:=h;simp only[Zao,Zbl,bne_iff_ne]at hb;exact⟨_,by simp only[kM,e1,e2,e3,e4,e5],hb⟩;simp at h;simp at h;simp at h;simp at h;simp at h;simp at h;rename_i T x;simp only[J1];unfold Jf at h;split at h;rename_i i e1;split at h;rename_i r p g o e2;split at h;simp at h;split at h;rename_i g1 o1 u e3;split at h;rename_i hb;simp only[Zan]at h;obtain⟨h1,h2⟩:=Prod.mk.inj h;obtain⟨rfl,_⟩:=Prod.mk.inj h2;subst h1;obtain⟨rfl,rfl⟩:=Prod.mk.inj hC;simp only[Zao,Zbl]at hb;exact⟨g1=g1/\o1=o1/\u.n=i.sz/\i.d.agg=u.isAgg,by simp only[kS,e1,e2,e3],rfl,rfl,hb.1,hb.2⟩;simp at h;simp at h;rename_i u RT _;split at h;rename_i hb;simp only[Zan,Zaq]at h;obtain⟨rfl,rfl,_⟩:=h;simp only[Zao,Zbl]at hb;exact⟨g=g/\o=o/\u.n=i.sz/\i.d.agg=u.isAgg,by simp only[kS,e1,e2,hC],rfl,rfl,hb.1,hb.2⟩;simp at h;rename_i u e2;split at h;rename_i hb;simp only[Zan,Zaq]at h;obtain⟨_,rfl,_⟩:=h;simp only[Zao,Zbl]at hb;exact⟨_,by simp only[kS,e1,e2],hb⟩;simp at h;simp at h;simp at h;rename_i T x i;simp only[J1];unfold vF at h;split at h;rename_i e k i' e1 e2;split at h;rename_i t e3;split at h;rename_i full xs e4;split at h;rename_i u RT;split at h;rename_i hb;simp only[Zan,Zaq]at h;obtain⟨rfl,rfl,_⟩:=h;obtain⟨h0,hx⟩:=hC;have hlt:=(Za3.1 hx).1;have hv:xs.getD i'.toNat .c9=u:=by rw[Zam,hx];rfl
 exact⟨0<=i'/\i'<xs.length/\u.n=t.sz,by simp only[jC,e1,e2,e3,e4,hv],h0,Zac,Zby⟩;simp at h;simp at h;rename_i r p sz g o lo n c e4;split at h;rename_i hb;simp only[Zan,Zaq]at h;obtain⟨rfl,rfl,_⟩:=h;exact⟨0<=i'/\i'<n/\sz=t.sz,by simp only[jC,e1,e2,e3,e4],hC.1,hC.2,Zby⟩;simp at h;simp at h;simp at h;exact⟨C,eM h,hC⟩;exact⟨C,eM h,hC⟩
theorem Ia{o:Oper}{K K':AS->Prop}(h:F9 P N o A K)(hK:∀ B,K B->K' B):F9 P N o A K':=
 fun Pb Kb a w F Q hs=>Oper.wp_mono (fun _ _ hn=>hn.mono hK) (h Pb Kb a w F Q hs)
def mg:Op->Bool
 | .move _ | .extract _ _ | .call _ | .field _ _ _ | .fieldAddr _ _ _=>true
 | .binOp o _ _ _ _=>match o with
   | .eql | .neq | .lss | .leq | .gtr | .geq=>true
   | _=>false
 | .unOp o _ _=>match o with
   | .not=>true
   | _=>false
 | _=>false
theorem mL{op:Op}{A5 Rr:List V}{C:Prop}{v:V}(ht:mg op=true)(h:sY P A op A5=some (C,v,Rr)):C:=by
 have hB:∀ {o:BinOp} {k:IntKind} {a b:Int} {C:Prop} {v:V},(o=.eql\/o=.neq\/o=.lss\/o=.leq\/o=.gtr\/o=.geq)->wD o k a b=some (C,v)->C:=by
  intro o k a b C v ho h;rcases ho with rfl | rfl | rfl | rfl | rfl | rfl <;> (simp only[wD,jT,Zan,Zaq]at h;rw[<- h.1];trivial)
 cases op with
 | move x=>have h:=eM (show wO A5 (J1 P A (.move x))=_ from h);simp only[J1,RE,Zan,Zaq]at h;rw[<- h.1];trivial
 | extract x i=>
   have h:=eM (show wO A5 (J1 P A (.extract x i))=_ from h);simp only[J1,RE]at h;unfold GN at h;repeat (split at h <;> try (solve | simp at h))
   all_goals (simp only[Zan,Zaq]at h;rw[<- h.1];trivial)
 | call c=>
   have h:=eM h;unfold Dc at h;split at h;split at h;unfold GQ at h;split at h;simp only[Zan,Zaq]at h;rw[<- h.1];trivial;unfold Ab at h;split at h <;> first | (solve | simp at h) | (simp only[Zan,Zaq]at h;rw[<- h.1];trivial)
   simp at h;split at h;unfold DW at h;split at h;split at h;simp only[Zan,Zaq]at h;rw[<- h.1];trivial;simp at h;simp at h;simp at h;simp at h
 | field T x j=>
   have h:=eM h;unfold AR at h;repeat (split at h <;> try (solve | simp at h))
   all_goals (simp only[Zan,Zaq]at h;rw[<- h.1];trivial)
 | fieldAddr T x j=>
   have h:=eM h;unfold pJ at h;repeat (first | (solve | simp at h) | split at h)
   all_goals first | (solve | simp at h) | (obtain⟨rfl,_⟩:=h;trivial) | (simp only[Zan,Zaq]at h;rw[<- h.1];trivial) | (split at h <;> first | (solve | simp at h) | (split at h <;> first | (solve | simp at h) | (simp only[Zan,Zaq]at h;rw[<- h.1];trivial)))
 | binOp o T x y pos=>
   have h:=eM h;have ho:o=.eql\/o=.neq\/o=.lss\/o=.leq\/o=.gtr\/o=.geq:=by cases o <;> simp[mg]at ht ⊢
   unfold DD at h;split at h;rcases ho with rfl | rfl | rfl | rfl | rfl | rfl <;> simp only[HB,Zan,Zaq,reduceCtorEq]at h <;> (rw[<- h.1];trivial);unfold um at h;split at h;split at h;exact hB ho h;split at h;exact hB ho h;simp at h;rcases ho with rfl | rfl | rfl | rfl | rfl | rfl <;> simp only[xj,Zan,Zaq,reduceCtorEq]at h <;> (rw[<- h.1];trivial);rcases ho with rfl | rfl | rfl | rfl | rfl | rfl <;> simp only[Da,Zan,Zaq,reduceCtorEq]at h <;> (rw[<- h.1];trivial);simp at h
 | unOp o T x=>
   have h:=eM (show wO A5 (J1 P A (.unOp o T x))=_ from h);have ho:o=.not:=by cases o <;> simp[mg]at ht ⊢
   subst ho;simp only[J1,RE]at h;unfold ZG at h;split at h;all_goals first | (solve | simp at h) | (simp only[Zan,Zaq]at h;rw[<- h.1];trivial) | (simp_all;done)
 | _=>simp[mg]at ht
def iT:Op->List Operand
 | .pick c _ _=>[c]
 | op=>op.operands.toList
def nt(P:Program)(N:Nat)(ops:Array Oper):Nat->List Oper->List V->AS->Option (Prop×AS)
 | 0,_,_,A=>some (True,A)
 | _+1,[],_,A=>some (True,A)
 | n+1,o::rest,A5,A=>
   match o.dst with
   | none=>none
   | some d=>if d<N then
     match o.guard with
     | some (j,b)=>match QC A ops j b with
       | some G=>match AS.un G (iT o.op) A with
         | (C0,B)=>match sY P B o.op A5 with
           | some (C,v,A5)=>if (St N (iT o.op)&&!v.gT)=true then match nt P N ops n rest A5 (A.put (some d) (.gv G v)) with
             | some (C',A')=>some ((G=true->C0/\C)/\C',A')
             | none=>none else none
           | none=>none
       | none=>none
     | none=>match o.op with
       | .assign x=>nt P N ops n rest A5 ((A.drop x).put (some d) (A.ev x))
       | op=>match sY P A op A5 with
         | some (C,v,A5)=>match nt P N ops n rest A5 (A.put (some d) v) with
           | some (C',A')=>if mg op=true then some (C',A') else some (C/\C',A')
           | none=>none
         | none=>none
     else none
theorem pe{K:AS->Prop}:∀ (n:Nat) {l:List Oper} {A5:List V} {A A':AS} {C:Prop},
 nt P N ops n l A5 A=some (C,A')->C->WL P N ops (l.drop n) A' K->WL P N ops l A K
 | 0,l,A5,A,A',C,h,hC,hK=>by
   simp only[nt,Zan,Zaq]at h;obtain⟨_,rfl⟩:=h;exact hK
 | n+1,[],A5,A,A',C,h,hC,hK=>by
   simp only[nt,Zan,Zaq]at h;obtain⟨_,rfl⟩:=h;exact hK
 | n+1,o::l,A5,A,A',C,h,hC,hK=>by
   have R':(o::l).drop (n+1)=l.drop n:=rfl;rw[R']at hK;unfold nt at h;split at h;simp at h;rename_i d hd;split at h
   case isFalse=>simp at h
   rename_i Vg;have Q2:cI N o.dst:=by rw[hd];exact Vg
   cases hg:o.guard with
   | some jb=>
     obtain⟨j,b⟩:=jb;rw[hg]at h;simp only at h;split at h
     case h_2=>simp at h
     rename_i G hG;cases hu:AS.un G (iT o.op) A with
     | mk C0 B=>
       rw[hu]at h;simp only at h;split at h
       case h_2=>simp at h
       rename_i C1 v RT B5;split at h
       case isFalse=>simp at h
       rename_i P5;simp only[Zao,Bool.not_eq_true']at P5;split at h
       case h_2=>simp at h
       rename_i C2 A2 hr;simp only[Zan,Zaq]at h;obtain⟨rfl,rfl⟩:=h;by_cases PV:G=true;obtain⟨C',h1,h2⟩:=sh B5 (hC.1 PV).2;exact Ih hg hG hu h1 P5.1 Q2 (fun _=>⟨(hC.1 PV).1,h2,P5.2⟩) (by rw[hd];exact pe n hr hC.2 hK);refine pC hg hG (fun c=>absurd c PV) (fun We=>⟨Q2,.gv G v,fun _ _=>⟨rfl,(fun h=>absurd h PV),fun _=>rfl⟩,?_⟩);rw[hd];exact pe n hr hC.2 hK
   | none=>
     rw[hg]at h;simp only at h;show gd ops o A _ _;unfold gd;rw[hg];simp only;split at h;rename_i x O9;exact uW O9 Q2 (by rw[hd];exact pe n h hC hK)
     · split at h
       case h_2=>simp at h
       rename_i C1 v RT B5;split at h
       case h_2=>simp at h
       rename_i C2 A2 hr;split at h;rename_i ht;simp only[Zan,Zaq]at h;obtain⟨rfl,rfl⟩:=h;obtain⟨C',h1,h2⟩:=sh B5 (mL ht B5);exact wZ h1 h2 Q2 (by rw[hd];exact pe n hr hC hK);simp only[Zan,Zaq]at h;obtain⟨rfl,rfl⟩:=h;obtain⟨C',h1,h2⟩:=sh B5 hC.1;exact wZ h1 h2 Q2 (by rw[hd];exact pe n hr hC.2 hK)
theorem Ej(op:Op):∀ t,Operand.tmp t∈iT op->Operand.tmp t∈op.operands.toList:=by
 intro t ht;cases op with
 | pick c a b=>simp only[iT,Zav]at ht;simp[Op.operands,ht]
 | _=>exact ht
def kH(P:Program):List ResultVar->List (m4×V)->Bool
 | .cell _ T::rs,(_,v)::xs=>(match ti P T with | some i=>v.n==i.sz&&i.d.agg==v.isAgg | none=>false)&&kH P rs xs
 | .tmp _::rs,(_,v)::xs=>(match v with | .tup _=>false | .gv _ _=>false | _=>true)&&kH P rs xs
 | [],[]=>true
 | _,_=>false
theorem pz:∀ {rs:List ResultVar} {xs:List (m4×V)},kH P rs xs=true->pG P rs xs
 | [],[],_=>trivial
 | .cell t T::rs,(r,v)::xs,h=>by
   simp only[kH,Zao]at h;refine⟨?_,pz h.2⟩;have h1:=h.1;cases ht:ti P T with
   | none=>rw[ht]at h1;simp at h1
   | some i=>rw[ht]at h1;simpa using h1
 | .tmp t::rs,(r,v)::xs,h=>by
   simp only[kH,Zao]at h;refine⟨?_,pz h.2⟩;have h1:=h.1;cases v <;> first | trivial | simp at h1
 | [],_::_,h=>by simp[kH]at h
 | .cell _ _::_,[],h=>by simp[kH]at h
 | .tmp _::_,[],h=>by simp[kH]at h
def nodupB:List m4->Bool
 | []=>true
 | r::rs=>!(rs.any fun x=>decide (x=r))&&nodupB rs
theorem uq:∀ {l:List m4},nodupB l=true->l.Nodup
 | [],_=>Zba
 | r::rs,h=>by
   simp only[nodupB,Zao,Bool.not_eq_true',List.any_eq_false,Zbk]at h;exact List.nodup_cons.2 ⟨fun c=>h.1 r c rfl,uq h.2⟩
abbrev iN(n:Nat):V:=.lit (.int .i64 n)
abbrev iV(x:Int):V:=.lit (.int .i64 x)
abbrev uN(n:Nat):V:=.lit (.int .u8 n)
abbrev bV(b:Bool):V:=.lit (.bool b)
abbrev sV(l:BL):V:=.lit (.string (Str l))
theorem ag{α:Type}{f:α->V}{l:List α}{i:Nat}{d:α}(h:i<l.length):(l.map f)[i]? =some (f (l.getD i d)):=by
 rw[List.getElem?_map,Zat h,Zam,Zat h];rfl
theorem all_map{α:Type}{f:α->V}{l:List α}{n:Nat}(h:∀ x,(f x).n=n):∀ x∈l.map f,x.n=n:=by
 intro x hx;obtain⟨y,_,rfl⟩:=List.mem_map.1 hx;exact h y
end
section
variable {P:Program} {N:Nat} {ops:Array Oper} {A A' A1:AS}
def Yh(P:Program)(e sz:Nat):Bool:=match P.info? e with
 | some inf=>match inf.zero with
   | some z=>z.cells.size==sz
   | none=>false
 | none=>false
theorem kT{e sz:Nat}(h:Yh P e sz=true):∃ inf z,P.info? e=some inf/\inf.zero=some z/\z.cells.size=sz:=by
 unfold Yh at h;split at h;rename_i inf h1;split at h;rename_i z h2;exact⟨inf,z,h1,h2,Zbq⟩;simp at h;simp at h
def IU(P:Program)(T:Nat):Option (List Value):=match P.info? T with
 | some inf=>match inf.zero with
   | some z=>some z.cells.toList
   | none=>none
 | none=>none
theorem dR{T:Nat}{v:V}{cs:List Value}(h:IU P T=some cs)(hv:v.flat=some cs):nz P T v:=by
 unfold IU at h;split at h;rename_i inf h1;split at h;rename_i z h2;exact⟨inf,z,h1,h2,by rw[hv,h]⟩;simp at h;simp at h
def CY(sz:Nat):List V->Bool
 | []=>true
 | v::vs=>v.isVal&&v.n==sz&&CY sz vs
theorem wS{sz:Nat}:∀ {vs:List V},CY sz vs=true->∀ v,v∈vs->v.isVal=true/\v.n=sz
 | [],_,v,hv=>by simp at hv
 | u::us,h,v,hv=>by
   simp only[CY,Zao,Zbl]at h;simp only[List.mem_cons]at hv;rcases hv with rfl | hv;exact h.1;exact wS h.2 v hv
def UX(P:Program)(T e len:Nat)(i:TI)(vs:List V):Bool:=Yh P e i.sz&&vs.length==len&&Nat.ble (len*i.sz) 16777216&&Nat.blt 0 i.sz&&CY i.sz vs
theorem Ek{o:Oper} {K:AS->Prop} {T e len:Nat} {e9:Array (Nat×Operand)} {i:TI} {vs:List V} (ho:o.op=.buildSlice T len e9) (hd:cI N o.dst) (hT:tD P T=some (.sl e)) (hi:ti P e=some i)
 (TY:eY A 0 e9.toList=some vs) (hB:UX P T e len i vs=true) (hK:K (A.put o.dst (.sl true vs))):F9 P N o A K:=by
 simp only[UX,Zao,Zbl]at hB;obtain⟨⟨⟨⟨h1,h2⟩,h3⟩,h4⟩,h5⟩:=hB;obtain⟨inf,z,k1,k2,_⟩:=kT h1;exact wM ho hd hT hi ⟨inf,z,k1,k2⟩ TY h2 (Nat.le_of_ble_eq_true h3) (Nat.lt_of_succ_le (Nat.le_of_ble_eq_true h4)) (wS h5) hK
theorem yv{K:AS->Prop} {d:Option Nat} {T len ty:Nat} {e9:Array (Nat×Operand)} {pos:String} {after:Array Edge} {rest:List Oper} (e:Nat) (i:TI) (vs:List V)
 (TZ:tD P T=some (.sl e)/\ti P e=some i) (hd:cI N d) (TY:eY A 0 e9.toList=some vs) (hB:UX P T e len i vs=true) (hK:WL P N ops rest (A.put d (.sl true vs)) K):
 WL P N ops (⟨d,.buildSlice T len e9,ty,pos,after,none⟩ :: rest) A K:=by
 show F9 P N _ A _;exact Ek rfl hd TZ.1 TZ.2 TY hB hK
theorem oK:∀ (ps:List (Nat×Operand)) (k:Nat),(∀ t,Operand.tmp t∈ps.map (·.2)->A'.get t=A.get t)->eY A' k ps=eY A k ps
 | [],_,_=>rfl
 | (i,x)::r,k,h=>by
   simp only[eY];rw[oK r (k+1) (fun t ht=>h t (by simp[ht])),ly (x:=x) (fun t e=>h t (by simp[e]))]
def uJ(places:List (Nat×Nat)):List V->List (Nat×V)->Option (List V)
 | zs,[]=>some zs
 | zs,(i,v)::r=>match places[i]?,zs[i]? with
   | some (off,sz),some z=>if (V.ns (zs.take i)==off&&v.n==sz&&z.n==sz&&v.isVal)=true then uJ places (zs.set i v) r else none
   | _,_=>none
theorem Ak{places:List (Nat×Nat)}:∀ {ps:List (Nat×V)} {zs vs:List V},uJ places zs ps=some vs->∃ C,pP places zs ps=some (C,vs)/\C
 | [],zs,vs,h=>by simp only[uJ,Zan]at h;subst h;exact⟨True,rfl,trivial⟩
 | (i,v)::r,zs,vs,h=>by
   simp only[uJ]at h;split at h;rename_i off sz z h1 h2;split at h;rename_i hb;simp only[Zao,Zbl]at hb;obtain⟨C,hf,hC⟩:=Ak h;exact⟨V.ns (zs.take i)=off/\v.n=sz/\z.n=sz/\v.isVal=true/\C,by simp only[pP,h1,h2,hf],hb.1.1.1,hb.1.1.2,hb.1.2,hb.2,hC⟩;simp at h;simp at h
def lU(P:Program)(A:AS)(T:Nat)(zs:List V)(e9:List (Nat×Operand)):Option V:=
 match tD P T with
 | some (.st fs)=>match mQ P fs with
   | some places=>match uJ places zs (e9.map fun (i,x)=>(i,A.cp x)) with
     | some vs=>some (.agg vs)
     | none=>none
   | none=>none
 | _=>none
theorem yr{T:Nat}{zs:List V}{e9:List (Nat×Operand)}{v:V}(h:lU P A T zs e9=some v):∃ C,rD P A T zs e9=some (C,v)/\C:=by
 unfold lU at h;split at h;rename_i fs h1;split at h;rename_i places h2;split at h;rename_i vs h3;simp only[Zan]at h;subst h;obtain⟨C,hf,hC⟩:=Ak h3;exact⟨C,by simp only[rD,h1,h2,hf],hC⟩;simp at h;simp at h;simp at h
theorem GL{K:AS->Prop} {d:Option Nat} {T ty:Nat} {e9:Array (Nat×Operand)} {pos:String} {after:Array Edge} {rest:List Oper} (zs:List V) (v:V)
 (hz:nz P T (.agg zs)) (hd:cI N d) (hb:lU P A T zs e9.toList=some v) (hK:WL P N ops rest (A.put d v) K):
 WL P N ops (⟨d,.build T e9,ty,pos,after,none⟩ :: rest) A K:=by
 obtain⟨C,h1,h2⟩:=yr hb;show F9 P N _ A _;exact yj rfl hd hz h1 h2 hK
end
section
variable {P:Program} {N:Nat} {ops:Array Oper} {A A' A1:AS}
variable {w:World} {Pb Kb:Nat->Prop} {a:Act} {F:m4->List Nat}
def u7(b:UInt8):V:=.lit (.int .u8 b.toNat)
theorem Jg:∀ (bs:BL) {cs:List Value} {F:List Nat},RL w Pb (bs.map u7) cs F->cs=bs.map fun b=>Value.int .u8 (b.toNat:Int)
 | [],cs,F,h=>h.1
 | b::bs,cs,F,h=>by
   obtain⟨c1,c2,F1,F2,rfl,rfl,h1,h2⟩:=h;rw[Jg bs h2,h1.2.1];rfl
theorem AB:∀ (l:BL),RL w Pb (l.map u7) (l.map fun b=>Value.int .u8 (b.toNat:Int)) []
 | []=>⟨rfl,rfl⟩
 | b::l=>⟨[.int .u8 (b.toNat:Int)],_,[],[],rfl,rfl,⟨rfl,rfl,rfl⟩,AB l⟩
theorem pv:∀ (bs:BL),V.ax (bs.map u7)=false
 | []=>rfl
 | b::bs=>by simp[V.ax,u7,V.df,pv bs]
theorem rN(bs:BL):aR 1 (bs.map u7):=fun x hx=>by
 obtain⟨b,_,rfl⟩:=List.mem_map.1 hx;rfl
theorem CB:∀ (bs l:BL),(bs.map fun b=>(b.toNat:Int)).foldl (fun (r:ByteArray) n=>r.push (UInt8.ofNat n.toNat)) (Str l)=Str (l++bs)
 | [],l=>by simp
 | b::bs,l=>by
   simp only[Zbe,List.foldl_cons];have:(Str l).push (UInt8.ofNat (b.toNat:Int).toNat)=Str (l++[b]):=by
    apply ByteArray.ext;simp[Str,ByteArray.push]
   rw[this,CB bs];simp
theorem rP{o:Oper} {K:AS->Prop} {src dst e:Nat} {x:Operand} {C:Prop} {bs:BL} (ho:o.op=.convert src dst x) (hd:cI N o.dst) (h1:tD P src=some (.sl e)) (h2:tD P e=some (.int .u8)) (h3:tD P dst=some .str)
 (hx:QP A x=some (C,bs.map u7)) (hC:C) (hK:K (A.put o.dst (sV bs))):F9 P N o A K:=by
 refine jl hd hK fun Pb Kb a w F hs=>?_;obtain⟨B,c,flat,hv,hr,hf,hl⟩:=mY (P:=P) hs hx hC (rN bs) (pv bs);obtain⟨td,hu1,N8⟩:=cP h1;obtain⟨U3,QR,Tr⟩:=cP h2;obtain⟨ZI,hu3,Zu⟩:=cP h3;cases td <;> simp[dG]at N8;cases U3 <;> simp[dG]at Tr;cases ZI <;> simp[dG]at Zu;subst N8 Tr;refine⟨.string (Str bs),?_,du rfl⟩;have Uh:=Jg bs hr;simp only[execOp,ho,hv,Za0,run_convert_bytes_string w src dst _ B _ c hu1 QR hu3];have B6:(Conv.bytesToString (.slice B (bs.map u7).length c)).run P w=.ok (.string (Str bs)) w:=by
  cases B with
  | none=>
    have:=hf w (fun _=>rfl);rw[hv]at this;simp only[Builtin.firstCells]at this;have hb:flat=[]:=by
     have h:=this;simp at h;exact h
    rw[Uh]at hb;have:bs=[]:=Zby
    subst this;rfl
  | some ad=>
    have:=hf w (fun _=>rfl);rw[hv]at this;simp only[Builtin.firstCells,Nat.mul_one]at this;rw[run_bytesToString w ad _ c (bs.map fun b=>(b.toNat:Int)) (by rw[this,Uh];simp[List.map_map,Function.comp_def])];have:=CB bs [];simp only[List.nil_append]at this;rw[<- this];rfl
 rw[B6];rfl
theorem AQ{o:Oper} {K:AS->Prop} {src dst e d:Nat} {x:Operand} {l:BL} (ho:o.op=.convert src dst x) (hd:o.dst=some d) (hN:d<N) (h1:tD P src=some .str) (h2:tD P dst=some (.sl e)) (h3:tD P e=some (.int .u8))
 (hx:A.ev x=sV l) (hK:∀ g c,K (A.put (some d) (.own 1 (l.map u7) g 0 c))):F9 P N o A K:=by
 intro Pb Kb a w F Q hs;obtain⟨td,hu1,N8⟩:=cP h1;obtain⟨U3,QR,Tr⟩:=cP h2;obtain⟨ZI,hu3,Zu⟩:=cP h3;cases td <;> simp[dG]at N8;cases U3 <;> simp[dG]at Tr;cases ZI <;> simp[dG]at Zu;obtain rfl:=Tr;subst Zu;rename_i el;have Xh:=bY hs hx;have B6:=Lib.run_convert_string_bytes (P:=P) w src dst _ (Str l) hu1 QR hu3;unfold Oper.wp;have P1:(execOp a.eval o).run P w=.ok (.value (.slice (some ⟨w.heap.size,0,none⟩) (Str l).size (grownCap w (Str l).size 0 el))) (Lib.bytesWorld w el (Str l)):=by
  simp only[execOp,ho,Xh,Za0,B6,Zas];rfl
 rw[P1,Oper.upon_value,hd];have hold:=fun j (hj:j<w.heap.size)=>Lib.bytesWorld_at_old w el (Str l) j hj;have hsz:=Lib.bytesWorld_size w el (Str l);have Ru:=Lib.bytesWorld_at_new w el (Str l);obtain⟨w',VZ⟩:∃ w',w'=Lib.bytesWorld w el (Str l):=⟨_,rfl⟩;obtain⟨c,hc⟩:∃ c,c=grownCap w (Str l).size 0 el:=⟨_,rfl⟩;have hcap:l.length<=c:=by
  rw[hc,<- ie];simp only[grownCap,Question.cut];exact Nat.le_add_right _ _
 have S0:A4 Kb w w':=by
  rw[VZ];exact⟨rfl,rfl,rfl,Zac,fun g hg=>hold g (hs.bound g hg),Shp.of_eq hold⟩
 have B0:w3 N Pb Kb A a w' F:=hs.grow (by rw[VZ];exact hold) (by rw[VZ];omega) (fun _ h=>h) (fun g h=>.inl h) hs.sub;rw[<- VZ,<- hc];have Xf:∀ r g,g∈F r->g≠w.heap.size:=fun r g hg=>by have:=(hs.free r g hg).2;omega
 have Se: ¬ Kb w.heap.size:=fun h=>by have:=hs.bound _ h;omega
 by_cases h0:c=0;have W9:l=[]:=Za5 Zac;subst W9;have hrv:RV w' Pb (.own 1 (([]:BL).map u7) 0 0 0) (.slice (some ⟨w.heap.size,0,none⟩) (Str []).size c) []:=.inl ⟨rfl,rfl,rfl,some ⟨w.heap.size,0,none⟩,by rw[h0];rfl⟩;exact⟨_,Pb,Kb,_,hK 0 0,B0.put hN (F':=[]) hrv Zad Zba Zad,fun _ h=>h,fun _ h=>h,fun _ h=>.inl h,S0⟩;have hrv:RV w' Pb (.own 1 (l.map u7) w.heap.size 0 c) (.slice (some ⟨w.heap.size,0,none⟩) (Str l).size c) [w.heap.size]:=by
  refine .inr ⟨Zac,Zac,by simpa using hcap,?_,rN l,fun h=>Se (hs.sub _ h),l.map (fun b=>Value.int .u8 (b.toNat:Int)),[],Lib.bytesCells w el (Str l),rfl,AB l,?_,?_,?_⟩;simp[ie];exact⟨el,((Lib.bytesCells w el (Str l)).size,(Lib.bytesCells w el (Str l)).size+1),by rw[VZ];exact Ru,fun i hi=>by simp;omega⟩;simp only[Lib.bytesCells,Array.size_append,Array.size_map,Array.size_replicate,<- hc];have:(Str l).data.size=l.length:=by simp[Str]
  rw[this,ie];omega;intro j u hu;simp only[List.getElem?_map,Option.map_eq_some_iff]at hu;obtain⟨b,hb,rfl⟩:=hu;have hj:j<l.length:=(Za3.1 hb).1;simp only[Lib.bytesCells,Zaw];rw[Array.getElem?_append_left (by simp[Str];exact hj)];simp[Str,hb]
 refine⟨_,Pb,Kb,_,hK w.heap.size c,B0.put hN (F':=[w.heap.size]) hrv ?_ Zad ?_,fun _ h=>h,fun _ h=>h,fun _ h=>.inl h,S0⟩;intro r _ g hg R7;simp only[Zav]at hg;exact Xf r g R7 hg;intro g hg;simp only[Zav]at hg;subst hg;exact⟨Se,by rw[VZ];omega⟩
theorem AW{K:AS->Prop} {d:Option Nat} {src dst ty:Nat} {x:Operand} {pos:String} {after:Array Edge} {rest:List Oper} (e:Nat) (C:Prop) (bs:BL)
 (ht:tD P src=some (.sl e)/\tD P e=some (.int .u8)/\tD P dst=some .str) (hd:cI N d) (hx:QP A x=some (C,bs.map u7)) (hC:C) (hK:WL P N ops rest (A.put d (sV bs)) K):
 WL P N ops (⟨d,.convert src dst x,ty,pos,after,none⟩ :: rest) A K:=by
 show F9 P N _ A _;exact rP rfl hd ht.1 ht.2.1 ht.2.2 hx hC hK
theorem Bf{K:AS->Prop} {d src dst ty:Nat} {x:Operand} {pos:String} {after:Array Edge} {rest:List Oper} (e:Nat) (l:BL)
 (ht:tD P src=some .str/\tD P dst=some (.sl e)/\tD P e=some (.int .u8)) (hN:d<N) (hx:A.ev x=sV l) (hK:∀ g c,WL P N ops rest (A.put (some d) (.own 1 (l.map u7) g 0 c)) K):
 WL P N ops (⟨some d,.convert src dst x,ty,pos,after,none⟩ :: rest) A K:=by
 show F9 P N _ A _;exact AQ rfl rfl hN ht.1 ht.2.1 ht.2.2 hx hK
theorem w3.Ag(hs:w3 N Pb Kb A a w F){t:Nat}{v:V}(ht:t<N)(h:RV w Pb v (a.tmps.getD t undef) (F (.slot t))):w3 N Pb Kb (A.put (some t) v) a w F:=by
 have h2:=hs.put (d:=t) (v:=v) (x:=a.tmps.getD t undef) (F':=F (.slot t)) ht h (fun r hr g hg=>hs.cm _ _ (Ne.symm hr) g hg) (hs.nodup _) (fun g hg=>hs.free _ g hg);rw[qt]at h2;have e:ck F (.slot t) (F (.slot t))=F:=by
  funext r;unfold ck;split;rename_i e;rw[e];rfl
 rw[e]at h2;exact h2
theorem w3.fX(hs:w3 N Pb Kb A a w F){t i sz n g o c:Nat}{xs:List V}(ht:t<N)(hi:i<N)(V2:t≠i)(h1:A.get t=.hd (.slot i) [] sz g o 0 n c)(h2:A.get i=.own sz xs g o c)(hn:n=xs.length):
 ∃ F',w3 N Pb Kb ((A.put (some i) .c9).put (some t) (.own sz xs g o c)) a w F':=by
 subst hn;obtain⟨Fx,F1,hr,PA,hnd,w8,hfr,_⟩:=hs.take (.tmp i);rw[pK h2]at PA;have hr:RV w Pb (A.get i) (a.tmps.getD i undef) Fx:=hr;rw[h2]at hr;have hh:=hs.slot t;rw[h1]at hh;obtain⟨_,hle,B,hv,hB⟩:=hh;have hv:a.tmps.getD t undef=.slice B xs.length c:=(List.cons.inj hv).1;have F7:RV w Pb (.own sz xs g o c) (a.tmps.getD t undef) Fx:=by
  rw[hv];rcases hr with ⟨rfl,rfl,rfl,A0,_⟩ | ⟨k1,k2,k3,k4,k5⟩;exact .inl ⟨rfl,rfl,rfl,B,rfl⟩;have:=hB k1;rw[Nat.zero_mul,Nat.add_zero]at this;subst this;exact .inr ⟨k1,k2,k3,rfl,k5⟩
 have h3:=PA.put (d:=t) (v:=.own sz xs g o c) (x:=a.tmps.getD t undef) (F':=Fx) ht F7 (fun r _ g hg=>w8 r g hg) hnd hfr;rw[qt]at h3;exact⟨_,h3⟩
theorem bq{α:Type}{f:α->V}(hf:∀ x,(f x).df=false):∀ (l:List α),V.ax (l.map f)=false
 | []=>rfl
 | x::l=>by simp only[Zbe,V.ax,hf x,bq hf l,Bool.or_self]
theorem bX{α:Type}{f:α->V}{n:Nat}(hf:∀ x,(f x).n=n)(l:List α):aR n (l.map f):=fun x hx=>by
 obtain⟨y,_,rfl⟩:=List.mem_map.1 hx;exact hf y
theorem aW{α:Type}{f:α->V}(hf:∀ x,(f x).er=f x):∀ (l:List α),V.E6 (l.map f)=l.map f
 | []=>rfl
 | x::l=>by simp only[Zbe,V.E6,hf x,aW hf l]
theorem zQ{o:Oper} {K:AS->Prop} {x y:Operand} {N2:Array TypeId} {k:IntKind} {p q r:Int} {b:Builtin} (ho:o.op=.call { callee:=.builtin b,args:= #[x,y],argTypes:=N2 }) (hd:cI N o.dst)
 (hx:A.ev x=.lit (.int k p)) (hy:A.ev y=.lit (.int k q)) (hb:(b=.max/\r=max p q)\/(b=.min/\r=min p q)) (hK:K (A.put o.dst (.lit (.int k r)))):F9 P N o A K:=by
 refine jl hd hK fun Pb Kb a w F hs=>⟨.int k r,?_,du rfl⟩;have e:(#[x,y].map a.eval)= #[.int k p,.int k q]:=by simp[bY hs hx,bY hs hy]
 rcases hb with ⟨rfl,rfl⟩ | ⟨rfl,rfl⟩;simp only[execOp,ho,resolve,invoke,builtin,Za0,Za1,Zas,e,Lib.run_max_ints];simp only[execOp,ho,resolve,invoke,builtin,Za0,Za1,Zas,e,Lib.run_min_ints]
theorem LF{K:AS->Prop} {d:Option Nat} {x y:Operand} {N2:Array TypeId} {ty:TypeId} {pos:String} {after:Array Edge} {rest:List Oper} (k:IntKind) (p q:Int) (hd:cI N d)
 (hx:A.ev x=.lit (.int k p)) (hy:A.ev y=.lit (.int k q)) (hK:WL P N ops rest (A.put d (.lit (.int k (max p q)))) K):
 WL P N ops (⟨d,.call { callee:=.builtin .max,args:= #[x,y],argTypes:=N2 },ty,pos,after,none⟩ :: rest) A K:=by
 show F9 P N _ A _;exact zQ rfl hd hx hy (.inl ⟨rfl,rfl⟩) hK
theorem LW{K:AS->Prop} {d:Option Nat} {x y:Operand} {N2:Array TypeId} {ty:TypeId} {pos:String} {after:Array Edge} {rest:List Oper} (k:IntKind) (p q:Int) (hd:cI N d)
 (hx:A.ev x=.lit (.int k p)) (hy:A.ev y=.lit (.int k q)) (hK:WL P N ops rest (A.put d (.lit (.int k (min p q)))) K):
 WL P N ops (⟨d,.call { callee:=.builtin .min,args:= #[x,y],argTypes:=N2 },ty,pos,after,none⟩ :: rest) A K:=by
 show F9 P N _ A _;exact zQ rfl hd hx hy (.inr ⟨rfl,rfl⟩) hK
theorem FD{sz g o c lo n c':Nat} {xs:List V} {x y:Value} {Fx:List Nat} (hr:R w Pb (.own sz xs g o c) [x] Fx) (hle:n<=c') {B:Option Addr} (hy:y=.slice B n c') (hB:0<c'->B=some ⟨g,o+lo*sz,none⟩)
 (hn:lo+n<=xs.length) (hc:lo+c'<=c) (ho:V.ax xs=false):∃ F',R w Pb (.own sz ((xs.drop lo).take n) g (o+lo*sz) c') [y] F'/\∀ z,z∈F'->z∈Fx:=by
 subst hy;by_cases h0:c'=0;subst h0;have:n=0:=Zac;subst this;exact⟨[],.inl ⟨rfl,Zad,rfl,B,rfl⟩,Zad⟩;rcases hr with ⟨rfl,_⟩ | ⟨h1,h2,h3,_,hN,hP,flat,F',cells,hF,QS,hb,hsz,u0⟩;omega;have hF0:=gi xs ho QS;subst hF0;obtain⟨c1,SD,Ql⟩:=pf xs lo QS;obtain⟨c3,XM,YT⟩:=pd _ n SD;have hlen:((xs.drop lo).take n).length=n:=Zal;refine⟨[g],.inr ⟨Zac,h2,Zac,?_,fun z hz=>hN z (List.mem_of_mem_drop (List.mem_of_mem_take hz)),hP,c3,[],cells,rfl,XM,hb,?_,fun j u hu=>?_⟩,by rw[hF];simp⟩;rw[hlen,hB Zac];have:(lo+c')*sz<=c*sz:=Nat.mul_le_mul_right _ hc;rw[Nat.add_mul]at this;omega;have:=Ql j u (YT j u hu);rw[ef xs lo hN Zac]at this;have:=u0 _ _ this;rw[Zbj];exact this
theorem DB{K:AS->Prop} {i:Nat} {x:Operand} {ty:TypeId} {pos:String} {after:Array Edge} {rest:List Oper} (lo n c':Nat) {sz g o c:Nat} (xs:List V) (hi:i<N)
 (hx:A.ev x=.hd (.slot i) [] sz g o lo n c') (h2:A.get i=.own sz xs g o c) (hn:lo+n<=xs.length) (hc:lo+c'<=c) (ho:V.ax xs=false)
 (hK:WL P N ops rest (A.put (some i) (.own sz ((xs.drop lo).take n) g (o+lo*sz) c')) K):WL P N ops (⟨some i,.assign x,ty,pos,after,none⟩ :: rest) A K:=by
 show F9 P N _ A _;intro Pb Kb a w F Q hs;obtain⟨_,hr⟩:=dS hs x;rw[hx]at hr;obtain⟨_,hle,B,hv,hB⟩:=hr;have hv:a.eval x=.slice B n c':=(List.cons.inj hv).1;have Qi:=hs.slot i;rw[h2]at Qi;obtain⟨F',F7,T4⟩:=FD (w:=w) (Pb:=Pb) Qi hle hv hB hn hc ho;have hnd:F'.Nodup:=by
  rcases F7 with ⟨_,_,rfl,_⟩ | ⟨_,_,_,_,_,_,flat,F2,cells,hF,QS,_⟩;exact Zba;have:=gi _ (by
   have:=pS xs lo ho;have h3:∀ (l:List V) (k:Nat),V.ax l=false->V.ax (l.take k)=false:=by
    intro l;induction l with
    | nil=>intro k _;simp[V.ax]
    | cons v l ih=>
      intro k h;cases k with
      | zero=>rfl
      | succ k=>simp only[List.take_succ_cons,V.ax,Bool.or_eq_false_iff]at h ⊢;exact⟨h.1,ih k h.2⟩
   exact h3 _ n this) QS
  subst this;rw[hF];simp
 unfold Oper.wp;have:(execOp a.eval ⟨some i,.assign x,ty,pos,after,none⟩).run P w=.ok (.value (a.eval x)) w:=rfl;rw[this,Oper.upon_value];exact⟨_,Pb,Kb,_,hK,hs.put hi F7 (fun r hr g hg=>fun R7=>hs.cm _ _ (Ne.symm hr) g (T4 g hg) R7) hnd (fun g hg=>hs.free _ g (T4 g hg)),fun _ h=>h,fun _ h=>h,fun _ h=>.inl h,A4.refl _ _⟩
end
section
variable {P:Program} {N:Nat} {ops:Array Oper} {A A' A1:AS}
def wK(A:AS):List ResultVar->Option (Prop×List (m4×V))
 | []=>some (True,[])
 | r::rs=>match wK A rs with
   | some (C,xs)=>match r with
     | .tmp t=>some (C,(.slot t,A.get t)::xs)
     | .cell t _=>match A.get t with
       | .ptr (.key k) [] g 0=>match lk k A.h with
         | some (g',v)=>some (g'=g/\C,(.key k,v)::xs)
         | none=>none
       | _=>none
   | none=>none
theorem sP:∀ {rs:List ResultVar} {C:Prop} {xs:List (m4×V)},wK A rs=some (C,xs)->C->qm A rs=some xs
 | [],C,xs,h,_=>by simp only[wK,Zan,Zaq]at h;rw[<- h.2];rfl
 | r::rs,C,xs,h,hC=>by
   simp only[wK]at h;split at h
   case h_2=>simp at h
   rename_i C1 xs1 hr;cases r with
   | tmp t=>
     simp only[Zan,Zaq]at h;obtain⟨rfl,rfl⟩:=h;simp only[qm,yP,sP hr hC]
   | cell t T=>
     simp only at h;split at h;rename_i k g hg;split at h;rename_i g' v hk;simp only[Zan,Zaq]at h;obtain⟨rfl,rfl⟩:=h;obtain⟨rfl,hC⟩:=hC;simp only[qm,yP,hg,hk,if_true,sP hr hC];simp at h;simp at h
end
mutual
def V.kill:V->V
 | .own .. =>.c9
 | .ow .. =>.c9
 | .om .. =>.c9
 | .agg vs=>.agg (V.jN vs)
 | v=>v
def V.jN:List V->List V
 | []=>[]
 | v::vs=>v.kill::V.jN vs
end
section
variable {P:Program} {N:Nat} {ops:Array Oper} {A A' A1:AS}
variable {w:World} {Pb Kb:Nat->Prop} {a:Act} {F:m4->List Nat}
mutual
theorem zV:∀ v:V,v.kill.n=v.n
 | .own .. =>rfl
 | .ow .. =>rfl
 | .om .. =>rfl
 | .mp .. =>rfl
 | .agg vs=>by simp only[V.kill,V.n];exact BE vs
 | .tup _=>rfl | .gv _ _=>rfl | .lit _=>rfl | .sl .. =>rfl | .hd .. =>rfl | .ptr .. =>rfl | .ep _=>rfl | .c9=>rfl
theorem BE:∀ vs:List V,V.ns (V.jN vs)=V.ns vs
 | []=>rfl
 | v::vs=>by simp only[V.jN,V.ns,zV v,BE vs]
end
mutual
theorem FR:∀ (v:V) {cs F},R w Pb v cs F->R w Pb v.kill cs []
 | .own sz xs g o c,cs,F,h=>by
   rcases h with ⟨_,_,_,B,rfl⟩ | ⟨_,_,_,rfl,_⟩ <;> exact⟨rfl,_,rfl,rfl⟩
 | .ow sz xs,cs,F,h=>by
   obtain⟨g,o,c,h⟩:=h;rcases h with ⟨_,_,_,B,rfl⟩ | ⟨_,_,_,rfl,_⟩ <;> exact⟨rfl,_,rfl,rfl⟩
 | .om ..,_,_,h=>⟨rfl,_,h.2.1,rfl⟩
 | .mp ..,_,_,h=>⟨rfl,h.2⟩
 | .agg vs,cs,F,h=>by simp only[R,V.kill]at h ⊢;exact Bp vs h
 | .tup _,_,_,h=>by simp[R]at h
 | .gv _ _,_,_,h=>by simp[R]at h
 | .lit x,_,_,h=>⟨h.1,h.2.1,rfl⟩
 | .sl ..,_,_,h=>⟨rfl,h.2⟩
 | .hd ..,_,_,h=>⟨rfl,h.2⟩
 | .ptr ..,_,_,h=>⟨rfl,h.2⟩
 | .ep _,_,_,h=>⟨rfl,h.2⟩
 | .c9,_,_,h=>⟨rfl,h.2⟩
theorem Bp:∀ (vs:List V) {cs F},RL w Pb vs cs F->RL w Pb (V.jN vs) cs []
 | [],_,_,h=>⟨h.1,rfl⟩
 | v::vs,_,_,h=>by
   obtain⟨c1,c2,F1,F2,rfl,rfl,h1,h2⟩:=h;exact⟨c1,c2,[],[],rfl,rfl,FR v h1,Bp vs h2⟩
end
def jM(F F1 F2:List Nat):Prop:=(∀ y,y∈F1->y∈F)/\(∀ y,y∈F2->y∈F)/\(F.Nodup->F1.Nodup/\F2.Nodup/\∀ y,y∈F1->y ∉ F2)
theorem jM.Y'{X F Y F1 F2:List Nat}(h:jM F F1 F2):jM (X++F++Y) (X++F1++Y) F2:=by
 obtain⟨h1,h2,h3⟩:=h;refine⟨fun y hy=>?_,fun y hy=>by simp[h2 y hy],fun hnd=>?_⟩;simp only[Zax]at hy ⊢;rcases hy with (hy | hy) | hy;exact .inl (.inl hy);exact .inl (.inr (h1 y hy));exact .inr hy;simp only[List.nodup_append,Zax]at hnd ⊢;obtain⟨⟨n1,n2,n3⟩,n4,n5⟩:=hnd;obtain⟨k1,k2,k3⟩:=h3 n2;refine⟨⟨⟨n1,k1,fun p hp q hq=>n3 p hp q (h1 q hq)⟩,n4,fun p hp q hq=>?_⟩,k2,fun y hy XK=>?_⟩;rcases hp with hp | hp;exact n5 p (.inl hp) q hq;exact n5 p (.inr (h1 p hp)) q hq;rcases hy with (hy | hy) | hy;exact n3 y hy y (h2 y XK) rfl;exact k3 y hy XK;exact n5 y (.inr (h2 y XK)) y hy rfl
theorem mj:∀ (vs:List V) {cs F} {j:Nat} {u u':V},RL w Pb vs cs F->vs[j]? =some u->∃ c Fa Fj Fb,F=Fa++Fj++Fb/\R w Pb u c Fj/\(∀ i x,c[i]? =some x->cs[V.ns (vs.take j)+i]? =some x)/\
 ∀ Xu,R w Pb u' c Xu->RL w Pb (vs.set j u') cs (Fa++Xu++Fb)
 | [],_,_,_,_,_,_,h=>by simp at h
 | v::vs,cs,F,0,u,u',h,hj=>by
   obtain⟨c1,c2,F1,F2,rfl,rfl,h1,h2⟩:=h;simp at hj;subst hj;refine⟨c1,[],F1,F2,Zad,h1,fun i x hx=>?_,fun Xu hr=>⟨c1,c2,Xu,F2,rfl,Zad,hr,h2⟩⟩;simp only[List.take_zero,V.ns,Zaw];rw[Za9 (Za3.1 hx).1];exact hx
 | v::vs,cs,F,j+1,u,u',h,hj=>by
   obtain⟨c1,c2,F1,F2,rfl,rfl,h1,h2⟩:=h;obtain⟨c,Fa,Fj,Fb,rfl,k1,k2,k3⟩:=mj vs (u':=u') h2 Zbp;refine⟨c,F1++Fa,Fj,Fb,Zad,k1,fun i x hx=>?_,fun Xu hr=>⟨c1,c2,F1,Fa++Xu++Fb,rfl,Zad,h1,k3 Xu hr⟩⟩;have hl:=eH _ h1;simp only[List.take_succ_cons,V.ns];rw[Za4 Zac];rw[show v.n+V.ns (vs.take j)+i-c1.length=V.ns (vs.take j)+i by omega];exact k2 i x hx
theorem jM.refl(F:List Nat):jM F [] F:=⟨Zad,fun _ h=>h,fun h=>⟨Zba,h,Zad⟩⟩
theorem rW:∀ (p:List Nat) {v u:V} {g o g' o':Nat} {cs:List Value} {F:List Nat} {cells:Array Value},R w Pb v cs F->Blk w g cells->(∀ j x,cs[j]? =some x->cells[o+j]? =some x)->V.at g o v p=some (g',o',u)->
 ∃ F1 Fu,R w Pb (v.set p u.kill) cs F1/\At w Pb u g' o' Fu/\jM F F1 Fu
 | [],v,u,g,o,g',o',cs,F,cells,h,hb,hc,e=>by
   simp only[V.at,Zan,Zaq]at e;obtain⟨rfl,rfl,rfl⟩:=e;exact⟨[],F,by simpa only[V.set] using FR v h,⟨cs,cells,hb,h,hc⟩,jM.refl F⟩
 | j::p,v,u,g,o,g',o',cs,F,cells,h,hb,hc,e=>by
   cases v with
   | agg vs=>
     simp only[V.at]at e;split at e
     case h_2=>simp at e
     rename_i x hx;simp only[R]at h;obtain⟨c,Fa,Fj,Fb,rfl,k1,k2,k3⟩:=mj vs (u':=x.set p u.kill) h hx;obtain⟨F1,Fu,m1,m2,m3⟩:=rW p k1 hb (o:=o+V.ns (vs.take j)) (fun i y hy=>by rw[Zbj];exact hc _ _ (k2 i y hy)) e;exact⟨Fa++F1++Fb,Fu,by simp only[V.set,hx,R];exact k3 F1 m1,m2,m3.Y'⟩
   | own sz xs g0 o0 c0=>
     simp only[V.at]at e;split at e
     case h_2=>simp at e
     rename_i x hx;rcases h with ⟨_,rfl,_⟩ | ⟨h1,h2,h3,h4,hN,h5,flat,F',RB,rfl,hr,Up,hsz,u0⟩;simp at hx;obtain⟨c,Fa,Fj,Fb,rfl,k1,k2,k3⟩:=mj xs (u':=x.set p u.kill) hr hx;have hj:j<xs.length:=(Za3.1 hx).1;rw[ef xs j hN Zac]at k2;obtain⟨F1,Fu,m1,m2,m3⟩:=rW p k1 Up (o:=o0+j*sz) (fun i y hy=>by rw[Zbj];exact u0 _ _ (k2 i y hy)) e;have hn:(x.set p u.kill).n=x.n:=mO p e (zV u);refine⟨g0::(Fa++F1++Fb),Fu,?_,m2,?_⟩;simp only[V.set,hx];refine .inr ⟨h1,h2,by simpa using h3,by simpa using h4,fun y hy=>?_,h5,flat,_,RB,rfl,k3 F1 m1,Up,hsz,u0⟩;rcases List.mem_or_eq_of_mem_set hy with hy | rfl;exact hN y hy;rw[hn];exact hN x (Za7 hx);have:=jM.Y' (X:=g0::Fa) (Y:=Fb) m3;simpa using this
   | _=>simp[V.at]at e
theorem FK{j:Nat}{p:List Nat}{u:V}{g o g' o' sz g0 o0 c0:Nat}{xs:List V}{cs:List Value}{F:List Nat}(h:R w Pb (.own sz xs g0 o0 c0) cs F)(e:V.at g o (.own sz xs g0 o0 c0) (j::p)=some (g',o',u)):
 ∃ F1 Fu,R w Pb ((V.own sz xs g0 o0 c0).set (j::p) u.kill) cs F1/\At w Pb u g' o' Fu/\jM F F1 Fu:=by
 simp only[V.at]at e;split at e
 case h_2=>simp at e
 rename_i x hx;rcases h with ⟨_,rfl,_⟩ | ⟨h1,h2,h3,h4,hN,h5,flat,F',RB,rfl,hr,Up,hsz,u0⟩;simp at hx;obtain⟨c,Fa,Fj,Fb,rfl,k1,k2,k3⟩:=mj xs (u':=x.set p u.kill) hr hx;have hj:j<xs.length:=(Za3.1 hx).1;rw[ef xs j hN Zac]at k2;obtain⟨F1,Fu,m1,m2,m3⟩:=rW p k1 Up (o:=o0+j*sz) (fun i y hy=>by rw[Zbj];exact u0 _ _ (k2 i y hy)) e;have hn:(x.set p u.kill).n=x.n:=mO p e (zV u);refine⟨g0::(Fa++F1++Fb),Fu,?_,m2,?_⟩;simp only[V.set,hx];refine .inr ⟨h1,h2,by simpa using h3,by simpa using h4,fun y hy=>?_,h5,flat,_,RB,rfl,k3 F1 m1,Up,hsz,u0⟩;rcases List.mem_or_eq_of_mem_set hy with hy | rfl;exact hN y hy;rw[hn];exact hN x (Za7 hx);have:=jM.Y' (X:=g0::Fa) (Y:=Fb) m3;simpa using this
theorem w3.split(hs:w3 N Pb Kb A a w F){r:m4}{p:List Nat}{g o:Nat}{u:V}(A8:A.at r p=some (g,o,u)):
 ∃ Fr Fu,w3 N Pb Kb (A.setAt r p u.kill) a w (ck F r Fr)/\At w Pb u g o Fu/\Fu.Nodup/\(∀ r' y,y∈Fu->y ∉ ck F r Fr r')/\(∀ y,y∈Fu->¬ Kb y/\y<w.heap.size):=by
 have main:∃ Fr Fu,At w Pb u g o Fu/\jM (F r) Fr Fu/\(match r with
      | .key k=> ∀ g0 t,lk k A.h=some (g0,t)->∃ F',Fr=g0::F'/\At w Pb (t.set p u.kill) g0 0 F'
      | .slot i=>RV w Pb ((A.get i).set p u.kill) (a.tmps.getD i undef) Fr):=by
  cases r with
  | key k=>
    simp only[AS.at]at A8;split at A8;rename_i g0 t hk;obtain⟨F0,hF,cs,cells,hb,hr,hc⟩:=hs.root k g0 t hk;obtain⟨F1,Fu,m1,m2,m3⟩:=rW p hr hb hc A8;refine⟨g0::F1,Fu,m2,?_,fun g1 t1 S1=>?_⟩;rw[hF];have:=jM.Y' (X:=[g0]) (Y:=[]) m3;simpa using this;rw[hk]at S1;simp only[Zan,Zaq]at S1;obtain⟨rfl,rfl⟩:=S1;exact⟨F1,rfl,cs,cells,hb,m1,hc⟩;simp at A8
  | slot i=>
    simp only[AS.at]at A8;split at A8;rename_i sz xs g0 o0 c0 j p' hg _;have hr:=hs.slot i;rw[hg]at hr;obtain⟨F1,Fu,m1,m2,m3⟩:=FK (w:=w) (Pb:=Pb) hr A8;refine⟨F1,Fu,m2,m3,?_⟩;simp only[hg];have e:∃ ys,(V.own sz xs g0 o0 c0).set (j::p') u.kill=.own sz ys g0 o0 c0:=by
     simp only[V.set];split;exact⟨_,rfl⟩;exact⟨_,rfl⟩
    obtain⟨ys,e⟩:=e;rw[e]at m1 ⊢;exact m1;simp at A8
 obtain⟨Fr,Fu,hA,hP,hm⟩:=main;obtain⟨p1,p2,p3⟩:=hP;obtain⟨n1,n2,n3⟩:=p3 (hs.nodup r);refine⟨Fr,Fu,⟨hs.size,hs.defers,fun i=>?_,fun k g0 t hk=>?_,fun r1 r2 hne y hy=>?_,fun r1=>?_,fun r1 y hy=>?_,hs.sub,hs.bound⟩,hA,n2,fun r' y hy=>?_,fun y hy=>hs.free r y (p2 y hy)⟩;by_cases UN:r=.slot i;subst UN;simp only[ck,if_true,AS.setAt,AS.get,lk,Option.getD_some];exact hm;simp only[ck,if_neg (Ne.symm UN)];have:(A.setAt r p u.kill).get i=A.get i:=by
  cases r with
  | key k=>simp only[AS.setAt];split <;> rfl
  | slot j=>simp only[AS.setAt,AS.get,lk];rw[if_neg (fun c=>UN (by rw[c]))]
 rw[this];exact hs.slot i;by_cases U8:r=.key k;subst U8;simp only[ck,if_true];cases Tf:lk k A.h with
 | none=>
   simp only[AS.setAt,Tf]at hk;cases hk
 | some gt=>
   obtain⟨g1,t1⟩:=gt;simp only[AS.setAt,Tf,lk,if_true,Zan,Zaq]at hk;obtain⟨rfl,rfl⟩:=hk;exact hm g1 t1 Tf
 simp only[ck,if_neg (Ne.symm U8)];refine hs.root k g0 t ?_;rw[<- hk];cases r with
 | key k'=>
   have hne:k≠k':=fun c=>U8 (by rw[c]);simp only[AS.setAt];split;simp only[lk];rw[if_neg hne];rfl
 | slot j=>rfl
 simp only[ck]at hy ⊢;by_cases e1:r1=r;subst e1;rw[if_pos rfl]at hy;rw[if_neg (Ne.symm hne)];exact hs.cm r1 r2 hne y (p1 y hy);rw[if_neg e1]at hy;by_cases e2:r2=r;subst e2;rw[if_pos rfl];exact fun c=>hs.cm r1 r2 hne y hy (p1 y c);rw[if_neg e2];exact hs.cm r1 r2 hne y hy;simp only[ck];split;exact n1;exact hs.nodup r1;simp only[ck]at hy;split at hy;exact hs.free r y (p1 y hy);exact hs.free r1 y hy;simp only[ck];split;exact fun c=>n3 y c hy;rename_i hne;exact fun c=>hs.cm r r' (Ne.symm hne) y (p2 y hy) c
end
mutual
def wk:V->V->V
 | .own sz xs g o c,u=>match u with | .ow _ _=>.ow sz xs | _=>.own sz xs g o c
 | .sl f xs,u=>match u with | .sl false _=>.sl false xs | .c9=>.c9 | _=>.sl f xs
 | .ptr r p g o,u=>match u with | .ptr r' p' _ _=>.ptr r' p' g o | .c9=>.c9 | _=>.ptr r p g o
 | .lit x,u=>match u with
   | .ptr r' p' _ _=>match x with
     | .pointer (some ⟨g,o,none⟩)=>.ptr r' p' g o
     | _=>.lit x
   | .c9=>if x.oneCell' then .c9 else .lit x
   | _=>.lit x
 | .hd r p sz g o lo n c,u=>match u with | .hd r' p' _ _ _ _ _ _=>.hd r' p' sz g o lo n c | .c9=>.c9 | _=>.hd r p sz g o lo n c
 | .mp es,u=>match u with | .c9=>.c9 | _=>.mp es
 | .agg vs,u=>match u with | .agg us=>.agg (Qa vs us) | _=>.agg vs
 | .tup vs,u=>match u with | .tup us=>.tup (Qa vs us) | _=>.tup vs
 | v,_=>v
def Qa:List V->List V->List V
 | v::vs,u::us=>wk v u::Qa vs us
 | vs,_=>vs
end
section
variable {w w':World} {Pb Kb Pb':Nat->Prop} {N:Nat} {A A' B:AS} {a:Act} {F:m4->List Nat} {P:Program} {ops:Array Oper}
mutual
theorem pL:∀ (v u:V) {cs F},R w Pb v cs F->R w Pb (wk v u) cs F
 | .own sz xs g o c,u,cs,F,h=>by
   simp only[wk];split;exact GA.2 ⟨_,_,_,h⟩;exact h
 | .sl f xs,u,cs,F,h=>by
   simp only[wk];split;obtain⟨hF,B,c,hc,hl,_,hx⟩:=h;exact⟨hF,B,c,hc,hl,(fun h=>by cases h),hx⟩;obtain⟨hF,B,c,rfl,_⟩:=h;exact⟨hF,_,rfl,rfl⟩;exact h
 | .ptr r p g o,u,cs,F,h=>by
   simp only[wk];split;exact h;obtain⟨hF,rfl⟩:=h;exact⟨hF,_,rfl,rfl⟩;exact h
 | .lit x,u,cs,F,h=>by
   simp only[wk];split;split;obtain⟨_,rfl,hF⟩:=h;exact⟨hF,rfl⟩;exact h;split;rename_i hx;obtain⟨_,rfl,hF⟩:=h;exact⟨hF,x,rfl,hx⟩;exact h;exact h
 | .hd r p sz g o lo n c,u,cs,F,h=>by
   simp only[wk];split;exact h;obtain⟨hF,_,B,rfl,_⟩:=h;exact⟨hF,_,rfl,rfl⟩;exact h
 | .mp es,u,cs,F,h=>by
   simp only[wk];split;obtain⟨hF,g,rfl,_⟩:=h;exact⟨hF,_,rfl,rfl⟩;exact h
 | .agg vs,u,cs,F,h=>by
   simp only[wk];split;rename_i us;simp only[R]at h ⊢;exact Ds vs us h;exact h
 | .tup vs,_,_,_,h=>by simp[R]at h
 | .gv _ _,_,_,_,h=>by simp[R]at h
 | .ow ..,u,_,_,h=>by simpa[wk] using h
 | .om ..,u,_,_,h=>by simpa[wk] using h
 | .ep _,u,_,_,h=>by simpa[wk] using h
 | .c9,u,_,_,h=>by simpa[wk] using h
theorem Ds:∀ (vs us:List V) {cs F},RL w Pb vs cs F->RL w Pb (Qa vs us) cs F
 | [],us,_,_,h=>by simpa[Qa] using h
 | v::vs,[],_,_,h=>by simpa[Qa] using h
 | v::vs,u::us,cs,F,h=>by
   obtain⟨c1,c2,F1,F2,rfl,rfl,h1,h2⟩:=h;exact⟨c1,c2,F1,F2,rfl,rfl,pL v u h1,Ds vs us h2⟩
end
theorem EL{v:V}(u:V){x:Value}{F1:List Nat}(h:RD w Pb v x F1):RD w Pb (wk v u) x F1:=by
 cases v with
 | agg us=>
   obtain⟨cs,rfl,h⟩:=h;simp only[wk];split;exact⟨cs,rfl,Ds _ _ h⟩;exact⟨cs,rfl,h⟩
 | c9=>simpa[wk] using h
 | tup vs=>simp[RD,R]at h
 | gv b u=>simp[RD,R]at h
 | ow sz xs=>simpa[wk] using h
 | om es g=>simpa[wk] using h
 | ep v=>simpa[wk] using h
 | own sz xs g o c=>
   have:=pL (w:=w) (Pb:=Pb) (.own sz xs g o c) u h;simp only[wk]at this ⊢;split at this <;> simpa[RD] using this
 | lit y=>
   have h:R w Pb (.lit y) [x] F1:=h;have hh:=h;obtain⟨ho,e,hF⟩:=hh;simp only[List.cons.injEq,and_true]at e;subst e hF;cases u with
   | ptr r' p' g' o'=>
     have:=pL (w:=w) (Pb:=Pb) (.lit x) (.ptr r' p' g' o') h;simp only[wk]at this ⊢;split at this;exact this;exact this
   | c9=>simp only[wk,ho,if_true];rfl
   | _=>exact h
 | sl f xs=>
   have:=pL (w:=w) (Pb:=Pb) (.sl f xs) u h;simp only[wk]at this ⊢;split at this;all_goals first | simpa[RD] using this | (simp only[RD];exact this.1)
 | ptr r p g o=>
   have:=pL (w:=w) (Pb:=Pb) (.ptr r p g o) u h;simp only[wk]at this ⊢;split at this;all_goals first | simpa[RD] using this | (simp only[RD];exact this.1)
 | hd r p sz g o lo n c=>
   have:=pL (w:=w) (Pb:=Pb) (.hd r p sz g o lo n c) u h;simp only[wk]at this ⊢;split at this;all_goals first | simpa[RD] using this | (simp only[RD];exact this.1)
 | mp es=>
   have:=pL (w:=w) (Pb:=Pb) (.mp es) u h;simp only[wk]at this ⊢;split at this;all_goals first | simpa[RD] using this | (simp only[RD];exact this.1)
theorem vb:∀ (vs:List V) {xs:List Value} {F1:List Nat},RVs w Pb vs xs F1↔match vs with | []=>xs=[]/\F1=[] | v::vs=> ∃ x xs' Fa Fb,xs=x::xs'/\F1=Fa++Fb/\RD w Pb v x Fa/\RVs w Pb vs xs' Fb
 | [],_,_=>Iff.rfl
 | v::vs,_,_=>Iff.rfl
theorem oZ:∀ (vs us:List V) {xs F1},RVs w Pb vs xs F1->RVs w Pb (Qa vs us) xs F1
 | [],us,_,_,h=>by simpa[Qa] using h
 | v::vs,[],_,_,h=>by simpa[Qa] using h
 | v::vs,u::us,xs,F1,h=>by
   obtain⟨x,xs',Fa,Fb,rfl,rfl,h1,h2⟩:=(vb (v::vs)).1 h;exact(vb (wk v u::Qa vs us)).2 ⟨x,xs',Fa,Fb,rfl,rfl,EL u h1,oZ vs us h2⟩
theorem yC{v:V}(u:V){x:Value}{F1:List Nat}(h:RV w Pb v x F1):RV w Pb (wk v u) x F1:=by
 by_cases ht:∃ vs,v=.tup vs;obtain⟨vs,rfl⟩:=ht;obtain⟨xs,rfl,h⟩:=h;simp only[wk];split;exact⟨xs,rfl,oZ _ _ h⟩;exact⟨xs,rfl,h⟩;by_cases hg:∃ b u',v=.gv b u';obtain⟨b,u',rfl⟩:=hg;simpa[wk] using h;have h1:=FB h ⟨fun us e=>ht ⟨us,e⟩,fun b u e=>hg ⟨b,u,e⟩⟩;have h2:=EL u h1;have back:∀ z:V,(∀ us,z≠.tup us)->(∀ b u,z≠.gv b u)->RD w Pb z x F1->RV w Pb z x F1:=by
  intro z z1 z2 hz;cases z with
  | tup us=>exact absurd rfl (z1 us)
  | gv b u=>exact absurd rfl (z2 b u)
  | _=>exact hz
 refine back _ (fun us e=>?_) (fun b u e=>?_) h2
 · cases v <;> simp only[wk]at e <;> (repeat' split at e) <;> simp_all
 · cases v <;> simp only[wk]at e <;> (repeat' split at e) <;> simp_all
theorem DH{v:V}(u:V){g o:Nat}{F1:List Nat}(h:At w Pb v g o F1):At w Pb (wk v u) g o F1:=by
 obtain⟨cs,cells,hb,hr,hc⟩:=h;exact⟨cs,cells,hb,pL v u hr,hc⟩
def TO(A:AS):List (Nat×V)->Prop
 | []=>True
 | (k,v)::r=>wk (A.get k) v=v/\TO A r
def Tc(A:AS):List (Nat×(Nat×V))->Prop
 | []=>True
 | (k,(g,v))::r=>(match lk k A.h with | some (g',v')=>(g',wk v' v)=(g,v) | none=>False)/\Tc A r
theorem EF:∀ (l:List (Nat×V)) {i:Nat} {v:V},TO A l->lk i l=some v->wk (A.get i) v=v
 | [],_,_,_,h=>by simp[lk]at h
 | (k,u)::r,i,v,h,e=>by
   simp only[lk]at e;split at e;rename_i e';subst e';cases e;exact h.1;exact EF r h.2 e
theorem zC:∀ (l:List (Nat×(Nat×V))) {i g:Nat} {v:V},Tc A l->lk i l=some (g,v)->∃ v',lk i A.h=some (g,v')/\wk v' v=v
 | [],_,_,_,_,h=>by simp[lk]at h
 | (k,(g0,u))::r,i,g,v,h,e=>by
   simp only[lk]at e;split at e;rename_i e';subst e';cases e;have h1:=h.1;split at h1;rename_i g' v' hk;simp only[Zaq]at h1;exact⟨v',by rw[hk,h1.1],h1.2⟩;exact h1.elim;exact zC r h.2 e
open Classical in
theorem w3.leW(hs:w3 N Pb Kb A a w F)(h:TO A B.t)(k:Tc A B.h):∃ F',w3 N Pb Kb B a w F':=by
 refine⟨fun r=>match r with | .slot i=>if lk i B.t=none then [] else F (.slot i) | .key k=>if lk k B.h=none then [] else F (.key k),?_⟩;have key:∀ r g,g∈(match r with | .slot i=>if lk i B.t=none then [] else F (.slot i) | .key k=>if lk k B.h=none then [] else F (.key k):List Nat)->g∈F r:=by
  intro r g hg;cases r <;> simp only at hg <;> split at hg <;> simp_all
 refine⟨hs.size,hs.defers,fun i=>?_,fun k0 g v hk=>?_,fun r r' hne g hg=>?_,fun r=>?_,fun r g hg=>hs.free r g (key r g hg),hs.sub,hs.bound⟩;simp only;cases e:lk i B.t with
 | none=>simp only[if_true,AS.get,e];rfl
 | some v=>
   rw[if_neg Zad];have:=yC v (hs.slot i);rw[EF _ h e]at this;simpa[AS.get,e] using this
 simp only;rw[if_neg (by rw[hk];simp)];obtain⟨v',e1,e2⟩:=zC _ k hk;obtain⟨F',hF,hA⟩:=hs.root k0 g v' e1;exact⟨F',hF,by have:=DH v hA;rw[e2]at this;exact this⟩;exact fun R7=>hs.cm r r' hne g (key r g hg) (key r' g R7);cases r <;> simp only <;> split <;> first | exact Zba | exact hs.nodup _
def Hx(N:Nat)(A:AS)(K:AS->Prop):Prop:=
 ∀ Pb Kb a w F,w3 N Pb Kb A a w F->∃ B Pb' E7 F',K B/\w3 N Pb' E7 B a w F'/\(∀ g,Pb g->Pb' g)/\(∀ g,Kb g->E7 g)/\(∀ g,Pb' g->Pb g\/¬ Kb g)
theorem Hx.of{K:AS->Prop}(h:K A):Hx N A K:=fun Pb Kb _ _ F hs=>⟨A,Pb,Kb,F,h,hs,fun _ h=>h,fun _ h=>h,fun _ h=>.inl h⟩
theorem Hx.mono{K K':AS->Prop}(h:Hx N A K)(hK:∀ B,K B->K' B):Hx N A K':=fun Pb Kb a w F hs=>by
 obtain⟨B,Pb',E7,F',h1,h2⟩:=h Pb Kb a w F hs;exact⟨B,Pb',E7,F',hK B h1,h2⟩
theorem Hx.bind{K K':AS->Prop}(h:Hx N A K)(hK:∀ B,K B->Hx N B K'):Hx N A K':=fun Pb Kb a w F hs=>by
 obtain⟨B,Pb',E7,F',h1,h2,h3,h4,h5⟩:=h Pb Kb a w F hs;obtain⟨C,QN,QW,F2,k1,k2,k3,k4,k5⟩:=hK B h1 Pb' E7 a w F' h2;exact⟨C,QN,QW,F2,k1,k2,fun g hg=>k3 g (h3 g hg),fun g hg=>k4 g (h4 g hg),fun g hg=>by
  rcases k5 g hg with h | h;exact h5 g h;exact .inr fun c=>h (h4 g c)⟩
theorem Hx.simple{K:AS->Prop}(hK:K B)(h:∀ Pb Kb a w F,w3 N Pb Kb A a w F->∃ F',w3 N Pb Kb B a w F'):Hx N A K:=fun Pb Kb a w F hs=>by
 obtain⟨F',B0⟩:=h Pb Kb a w F hs;exact⟨B,Pb,Kb,F',hK,B0,fun _ h=>h,fun _ h=>h,fun _ h=>.inl h⟩
theorem Nx.hint{K:AS->Prop}{a':Act}(h:Nx N Pb Kb w (fun B=>Hx N B K) a' w'):Nx N Pb Kb w K a' w':=by
 obtain⟨A',Pb',E7,F',h1,h2,h3,h4,h5,h6⟩:=h;obtain⟨B,QN,QW,F2,k1,k2,k3,k4,k5⟩:=h1 Pb' E7 a' w' F' h2;exact⟨B,QN,QW,F2,k1,k2,fun g hg=>k3 g (h3 g hg),fun g hg=>k4 g (h4 g hg),fun g hg=>by
  rcases k5 g hg with h | h;exact h5 g h;exact .inr fun c=>h (h4 g c),h6⟩
theorem oO{c:Code}{Q:Exit->AS->Prop}(h:Hx N A fun B=>T P N c B Q):T P N c A Q:=by
 intro Pb Kb a w F hs;obtain⟨B,Pb',E7,F',h1,h2,h3,h4,h5⟩:=h Pb Kb a w F hs;exact wp_mono (h1 Pb' E7 a w F' h2) fun e a' w' hn=>Nx.step h3 h4 h5 (A4.refl _ _) hn
theorem mz{c:Code}{Q:Exit->AS->Prop}(h:T P N c A fun e B=>Hx N B (Q e)):T P N c A Q:=
 fun Pb Kb a w F hs=>wp_mono (h Pb Kb a w F hs) fun _ _ _ hn=>hn.hint
theorem sK{o:Oper}{l:List Oper}{K:AS->Prop}(hg:o.guard=none)(h:Hx N A fun B=>WL P N ops (o::l) B K):WL P N ops (o::l) A K:=by
 simp only[WL,gd,hg]at h ⊢;intro Pb Kb a w F Q hs;obtain⟨B,Pb',E7,F',h1,h2,h3,h4,h5⟩:=h Pb Kb a w F hs;refine Oper.wp_mono (fun a' w' hn=>?_) (h1 Pb' E7 a w F' Q h2);exact Nx.step h3 h4 h5 (A4.refl _ _) hn
theorem Nj{c:Code}{Q:Exit->AS->Prop}(h:TO A B.t)(k:Tc A B.h)(hT:T P N c B Q):T P N c A Q:=
 oO (Hx.simple hT fun _ _ _ _ _ hs=>hs.leW h k)
end
section
variable {w w':World} {Pb Kb Pb':Nat->Prop} {N:Nat} {A A' B:AS} {a:Act} {F:m4->List Nat} {P:Program} {ops:Array Oper}
structure ZC (w:World) (Pb Kb:Nat->Prop) (args:List V) (cargs:List Value) (H:List (Nat×(Nat×V))) (F:m4->List Nat):Prop where
 len:cargs.length=args.length
 slot:∀ i v x,args[i]? =some v->cargs[i]? =some x->RV w Pb v x (F (.slot i))
 root:∀ k g v,lk k H=some (g,v)->∃ F',F (.key k)=g::F'/\At w Pb v g 0 F'
 rest:∀ i,args.length<=i->F (.slot i)=[]
 cm:∀ r r',r≠r'->∀ g,g∈F r->g ∉ F r'
 nodup:∀ r,(F r).Nodup
 free:∀ r g,g∈F r->¬ Kb g/\g<w.heap.size
 sub:∀ g,Pb g->Kb g
 bound:∀ g,Kb g->g<w.heap.size
structure Fin (w w':World) (Pb Kb:Nat->Prop) (r:V) (x:Value) (H:List (Nat×(Nat×V))) (Pb' E7:Nat->Prop) (F:m4->List Nat):Prop where
 val:RV w' Pb' r x (F (.slot 0))
 root:∀ k g v,lk k H=some (g,v)->∃ F',F (.key k)=g::F'/\At w' Pb' v g 0 F'
 cm:∀ r r',r≠r'->∀ g,g∈F r->g ∉ F r'
 nodup:∀ r,(F r).Nodup
 free:∀ r g,g∈F r->¬ E7 g/\g<w'.heap.size
 sub:∀ g,Pb' g->E7 g
 bound:∀ g,E7 g->g<w'.heap.size
 mP:∀ g,Pb g->Pb' g
 mK:∀ g,Kb g->E7 g
 TM:∀ g,Pb' g->Pb g\/¬ Kb g
 fc:A4 Kb w w'
def PF(P:Program)(f:FuncId)(args:List V)(H:List (Nat×(Nat×V)))(Q:V->List (Nat×(Nat×V))->Prop):Prop:=
 ny P f/\∀ (w:World) (Pb Kb:Nat->Prop) (cargs:List Value) (F:m4->List Nat),ZC w Pb Kb args cargs H F->
  Calls P f cargs.toArray w fun e w'=> ∃ r x H' Pb' E7 F',e=.returned x/\Q r H'/\Fin w w' Pb Kb r x H' Pb' E7 F'
theorem PF.mono{f:FuncId}{args:List V}{H:List (Nat×(Nat×V))}{Q Q':V->List (Nat×(Nat×V))->Prop}(h:PF P f args H Q)(hQ:∀ r H,Q r H->Q' r H):PF P f args H Q':=
 ⟨h.1,fun w Pb Kb cargs F hi=>(h.2 w Pb Kb cargs F hi).mono fun _ _ ⟨r,x,H',Pb',E7,F',e,q,rest⟩=>⟨r,x,H',Pb',E7,F',e,hQ r H' q,rest⟩⟩
def HU(P:Program)(rs:List ResultVar)(Q:V->List (Nat×(Nat×V))->Prop):Exit->AS->Prop:=fun e A=>
 (e=.normal\/e=.ret)/\∃ xs H,qm A rs=some xs/\pG P rs xs/\(xs.map (·.1)).Nodup/\Tc A H/\(∀ k,lk k H≠none->m4.key k ∉ xs.map (·.1))/\Q (one (xs.map (·.2))) H
open Classical in
theorem CO{f:FuncId} {fn:Func} {c:Code} {args:List V} {H:List (Nat×(Nat×V))} {Q:V->List (Nat×(Nat×V))->Prop} (hf:P.funcs[f]? =some fn) (hb:fn.body=some c) (he:ny P f) (hN:args.length<=fn.ntmps)
 (h:T P fn.ntmps c ⟨enum 0 args,H⟩ (HU P fn.results.toList Q)):PF P f args H Q:=by
 refine⟨he,fun w Pb Kb cargs F hi=>?_⟩;have hlen:=hi.len;refine calls_of_wp hf hb ?_;have hs:w3 fn.ntmps Pb Kb ⟨enum 0 args,H⟩ { tmps:=cargs.toArray++Array.replicate (fn.ntmps-cargs.toArray.size) undef,defers:=[] } w F:=by
  refine⟨Zal,rfl,fun i=>?_,hi.root,hi.cm,hi.nodup,hi.free,hi.sub,hi.bound⟩;simp only[AS.get,Bo,Nat.zero_le,if_true,Nat.sub_zero];cases XQ:args[i]? with
  | none=>
    have:args.length<=i:=by simpa using XQ
    rw[hi.rest i this];rfl
  | some v=>
    have hlt:i<args.length:=(Za3.1 XQ).1;have hx:cargs[i]? =some (cargs[i]'Zac):=Zat Zac;have hr:=hi.slot i v _ XQ hx;have e:(cargs.toArray++Array.replicate (fn.ntmps-cargs.toArray.size) undef).getD i undef=cargs[i]'Zac:=by
     rw[Array.getD_eq_getD_getElem?,Array.getElem?_append_left Zal];simp[hx]
    simp only[Option.getD_some];rw[e];exact hr
 refine wp_mono (h _ _ _ _ _ hs) ?_;rintro e a' w' ⟨A',Pb',E7,F',⟨he',xs,H',UL,P5,hnd,hH,Xb,hQ⟩,B0,k1,k2,k3,k4⟩;obtain⟨x,Fr,B6,hr,Qw,hin⟩:=Bd B0 UL P5 hnd;have Ui:a'.defers=[]/\∃ v,(results fn a'.tmps).run P w'=.ok v w'/\(∃ r x H' Pb' E7 F',Ending.returned v=.returned x/\Q r H'/\Fin w w' Pb Kb r x H' Pb' E7 F'):=by
  refine⟨B0.defers,x,B6,_,x,H',Pb',E7,(fun r=>match r with | .slot i=>if i=0 then Fr else [] | .key k=>if lk k H'=none then [] else F' (.key k)),rfl,hQ,?_⟩;have hk:∀ k g,lk k H'≠none->g∈Fr->g ∉ F' (.key k):=fun k g hk hg c=>by
   obtain⟨r,SD,Ps⟩:=hin g hg;have hne:r≠.key k:=fun c=>Xb k hk (by rw[<- c];exact SD);exact B0.cm r _ hne g Ps c
  refine⟨by simpa using hr,fun k g v YO=>?_,fun r r' hne g hg=>?_,fun r=>?_,fun r g hg=>?_,B0.sub,B0.bound,k1,k2,k3,k4⟩;obtain⟨v',e1,e2⟩:=zC _ hH YO;obtain⟨F1,hF,hA⟩:=B0.root k g v' e1;refine⟨F1,?_,by have:=DH v hA;rw[e2]at this;exact this⟩;simp only;rw[if_neg (by rw[YO];simp)];exact hF;cases r with
  | slot i=>
    simp only at hg;split at hg;rename_i hi0;cases r' with
    | slot j=>simp only;rw[if_neg (fun c=>hne (by rw[hi0,c]))];simp
    | key k=>simp only;split;simp;rename_i Xa;exact hk k g Xa hg
    simp at hg
  | key k=>
    simp only at hg;split at hg;simp at hg;rename_i Xa;cases r' with
    | slot j=>simp only;split;exact fun c=>hk k g Xa c hg;simp
    | key k'=>simp only;split;simp;exact B0.cm _ _ hne g hg
  cases r <;> simp only <;> split <;> first | exact Qw | exact Zba | exact B0.nodup _
  cases r with
  | slot i=>
    simp only at hg;split at hg;obtain⟨r,_,h⟩:=hin g hg;exact B0.free r g h;simp at hg
  | key k=>
    simp only at hg;split at hg;simp at hg;exact B0.free _ g hg
 rcases he' with rfl | rfl;exact Ui;exact Ui
theorem PF.DO{f:FuncId}{args:List V}{Q:V->List (Nat×(Nat×V))->Prop}(h:PF P f args [] Q):PC P f args (fun r=> ∃ H,Q r H):=by
 refine⟨h.1,fun w Pb cargs hP hargs=>?_⟩;have hi:ZC w Pb (fun g=>g<w.heap.size) args cargs [] (fun _=>[]):=by
  refine⟨wY _ hargs,fun i v x hv hx=>?_,fun k g v hk=>by simp[lk]at hk,fun _ _=>rfl,fun _ _ _ _ hg=>by simp at hg,fun _=>Zba,fun _ _ hg=>by simp at hg,hP,fun _ h=>h⟩;obtain⟨y,hy,hr⟩:=FY args hargs hv;rw[hx]at hy;cases hy;exact hr
 refine(h.2 w Pb _ cargs _ hi).mono ?_;rintro e w' ⟨r,x,H',Pb',E7,F',rfl,hq,hf⟩;refine⟨r,x,F' (.slot 0),Pb',rfl,⟨H',hq⟩,hf.val,hf.nodup _,fun g hg=>?_,hf.mP,fun g hg=>?_,⟨hf.fc.os,hf.fc.tape,hf.fc.output,hf.fc.size,fun k hk=>hf.fc.block k hk⟩⟩;have:=hf.free _ g hg;refine⟨Nat.le_of_not_lt fun c=>this.1 (hf.mK g c),this.2,fun c=>this.1 (hf.sub g c)⟩;rcases hf.TM g hg with h | h;exact .inl h;exact .inr ⟨Nat.le_of_not_lt h,hf.bound g (hf.sub g hg)⟩
end
end Go.Proofs.YtjkdagkclihpjaaGreatDoor