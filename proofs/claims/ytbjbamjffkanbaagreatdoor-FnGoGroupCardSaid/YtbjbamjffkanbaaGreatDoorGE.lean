/-
  Words and walks for the laws of pedlar's seat: what each function of the program computes, and that it does; no conditions beyond those that each statement names.
-/
import Derived.Test.YtbjbamjffkanbaaGreatDoorGD
import Derived.Test.YtbjbamjffkanbaaGreatDoorGB
import Derived.WalkKit
import Derived.LaidEql
import Derived.Stop.Asserts
import Derived.RowKitTokens
import Derived.ProofKit
import Derived.OpenShut
import Derived.ChangeOld
import Derived.Below
import Derived.LaidMore
import Derived.Lay
import Derived.SevenTiedAt
import Derived.Stop.Joined
import Derived.Stop.LaidErr
set_option linter.unusedVariables false
set_option linter.unusedSimpArgs false
set_option linter.unnecessarySimpa false
set_option linter.unusedSectionVars false
namespace Go.Abs
open Go Go.RowKit
section
variable {P:Program} {w w':World} {Pb Kb:Nat->Prop} {N:Nat} {A:AS} {a:Act} {F:l7->List Nat}
theorem HD{zc:Array Value}(h:0<zc.size)(n:Nat):(Builtin.zeroCells zc (n+1)).toList=zc.toList++(Builtin.zeroCells zc n).toList:=by
 apply List.ext_getElem
 simp[Builtin.zeroCells,Nat.add_mul];omega
 intro i h1 h2
 by_cases hi:i<zc.size
 rw[List.getElem_append_left (by simpa using hi)]
 simp[Builtin.zeroCells,Nat.mod_eq_of_lt hi,hi]
 rw[List.getElem_append_right (by simpa using hi)]
 simp only[Builtin.zeroCells,Array.getElem_toList,Array.getElem_map,Array.getElem_range,Array.length_toList]
 rw[Nat.mod_eq_sub_mod Z9]
theorem BD{v:V}{zc:Array Value}(h:0<zc.size)(hr:R w Pb v zc.toList []):∀ n,RL w Pb (List.replicate n v) (Builtin.zeroCells zc n).toList []
 | 0=>⟨by simp[Builtin.zeroCells],rfl⟩
 | n+1=>by
   rw[HD h,List.replicate_succ]
   exact⟨_,_,[],[],rfl,rfl,hr,BD h hr n⟩
theorem DU{zc:Array Value}(n:Nat):(Builtin.zeroCells zc n).toList.length=n*zc.size:=by simp[Builtin.zeroCells]
theorem Kw{v:V}{zc:Array Value}(h:0<zc.size)(hr:R w Pb v zc.toList [])(n:Nat):∀ x,x∈(Builtin.zeroCells zc n).toList->x.oneCell'=true:=qD _ (BD h hr n)
theorem uZ:∀ (xs:List V) (k:Nat),V.aG xs=false->V.aG (xs.take k)=false
 | xs,0,h=>by simp[V.aG]
 | [],k+1,h=>by simpa using h
 | v::vs,k+1,h=>by
   simp only[V.aG,Bool.or_eq_false_iff]at h
   simp only[List.take_succ_cons,V.aG,Bool.or_eq_false_iff]
   exact⟨h.1,uZ vs k h.2⟩
def XY(k:Nat)(p:List Nat)(lo n sz:Nat)(xs:List V)(g q c g1 o1:Nat)(z:ZT P):Cu P where
 X:=Unit
 pre _ o A:=match o.op,o.dst with
  | .call ⟨.builtin .clear,⟨[x]⟩,⟨[T]⟩⟩,none=>match tD P T,A.ev x with
    | some (.sl e),.hd r p' I5 g' o' LY n' _=>((e,r,p',I5,g',o',LY,n')=(z.T,l7.key k,p,sz,g,q,lo,n))/\A.at (.key k) p=some (g1,o1,.own sz xs g q c)/\lo+n<=xs.length/\V.aG xs=false/\aL sz xs/\z.v.n=sz
    | _,_=>False
  | _,_=>False
 post _ _ A:=A.setAt (.key k) p (.own sz (xs.take lo++List.replicate n z.v++xs.drop (lo+n)) g q c)
 ok:=by
  rintro N ⟨dst,op,ty,pos,after,C7⟩ A K-hp hK
  replace hK:=hK ()
  simp only at hp
  split at hp
  rename_i x T
  split at hp
  rename_i e r p' I5 g' o' LY n' c' e1 e2
  obtain⟨h1,x6,hlo,H9,hN,Ue⟩:=hp
  simp only[Prod.mk.injEq]at h1
  obtain⟨rfl,rfl,rfl,rfl,rfl,rfl,rfl,rfl⟩:=h1
  intro Pb Kb a w F Q hs
  obtain⟨_,hx⟩:=dy hs x
  rw[e2]at hx
  obtain⟨_,hle,B,hv,hB⟩:=hx
  have hv:a.eval x=.slice B n' c':=(List.cons.inj hv).1
  have hu:=iA e1
  unfold Oper.wp
  by_cases hn:n'=0
  subst hn
  have y9:(execOp a.eval ⟨none,.call ⟨.builtin .clear,⟨[x]⟩,⟨[T]⟩⟩,ty,pos,after,C7⟩).run P w=.ok (.value (.tuple #[])) w:=by
   cases B <;> simp[execOp,resolve,Deferred.ofValue,invoke,builtin,Builtin.clear_,hv,aF hu]
  rw[y9,Oper.upon_value]
  obtain⟨cu,Fu,q1,q2⟩:=hs.rQ x6
  have:=q2 _ rfl q1
  have t2:s3 N Pb Kb (A.setAt (.key k) p' (.own I5 (xs.take LY++List.replicate 0 z.v++xs.drop (LY+0)) g' o' c)) a w F:=by simpa using this
  exact⟨_,Pb,Kb,F,hK,t2,fun _ h=>h,fun _ h=>h,fun _ h=>.inl h,x4.refl _ _⟩
  obtain rfl:=hB Z9
  obtain⟨inf,zv,z1,z2,z3⟩:=z.ok
  have Tv:R w Pb z.v zv.cells.toList []:=rj z.v z3
  have Uf:zv.cells.size=z.v.n:=by have:=eg _ Tv;simpa using this
  obtain⟨Fr,Fu,_,⟨cs,cells,_,J6,_⟩,_⟩:=hs.split x6
  have hc:0<c/\0<z.v.n:=by
   rcases J6 with ⟨_,rfl,_⟩ | ⟨h,h2,_⟩
   simp at hlo;omega
   exact⟨h,by rw[Ue];exact h2⟩
  have b7:0<zv.cells.size:=by rw[Uf];exact hc.2
  have Qh:n'*zv.cells.size=n'*I5:=by rw[Uf,Ue]
  have WG:LY*I5+n'*I5<=xs.length*I5:=by rw[<- Nat.add_mul];exact Nat.mul_le_mul_right _ hlo
  obtain⟨w',F',y9,x8,hk⟩:=hs.AO (P:=P) (lo:=LY*I5) (xs':=xs.take LY++List.replicate n' z.v++xs.drop (LY+n')) (new:=(Builtin.zeroCells zv.cells n').toList) x6 hc.1 H9 (by rw[DU,Qh];exact WG)
   Z0 (fun v hv=>by
    rcases List.mem_append.1 hv with h | h
    rcases List.mem_append.1 h with h | h
    exact hN v (List.mem_of_mem_take h)
    rw[(List.mem_replicate.1 h).2,Ue]
    exact hN v (List.mem_of_mem_drop h)) (Kw b7 Tv n') (fun flat hf=>by
    have k1:=(ni (xs.take LY) (xs.drop LY) (cs:=flat) (by rw[List.take_append_drop];exact hf)).1
    have k2:=(ni (xs.take (LY+n')) (xs.drop (LY+n')) (cs:=flat) (by rw[List.take_append_drop];exact hf)).2
    rw[dL xs LY hN Z9]at k1
    rw[dL xs _ hN hlo,Nat.add_mul]at k2
    rw[DU,Qh]
    exact iL _ _ (iL _ _ k1 (BD b7 Tv n')) k2)
  have N8:(execOp a.eval ⟨none,.call ⟨.builtin .clear,⟨[x]⟩,⟨[T]⟩⟩,ty,pos,after,C7⟩).run P w=.ok (.value (.tuple #[])) w':=by
   have hcl:(Builtin.clear_ #[T] ty #[a.eval x]).run P w=.ok (.tuple #[]) w':=by
    rw[hv]
    unfold Builtin.clear_
    simp only[List.getElem?_toArray,List.getElem?_cons_zero,Sem.run_bind,aF hu,Result.andThen_ok]
    obtain⟨m,rfl⟩:∃ m,n'=m+1:=⟨n'-1,Z9⟩
    simp only[Sem.run_bind,zeroValue,typeInfo,Result.andThen_ok]
    simp[z1,z2,y9]
   simp[execOp,resolve,Deferred.ofValue,invoke,builtin,hcl]
  rw[N8,Oper.upon_value]
  exact⟨_,Pb,Kb,F',hK,x8,fun _ h=>h,fun _ h=>h,fun _ h=>.inl h,hk⟩
  exact hp.elim
  exact hp.elim
def saC(k:Nat)(p:List Nat)(lo n sz:Nat)(xs:List V)(g q c g1 o1:Nat):Cu P where
 X:=Unit
 pre N o A:=match o.op,o.dst with
  | .call ⟨.builtin .append,⟨[s,x]⟩,⟨[T,T2]⟩⟩,some d=>match o.type==T&&Nat.blt d N,mS P T T2 with
    | true,some t=>match A.ev x with
      | .hd r p' I5 g' q' LY n' c'=>((r,p',I5,g',q',LY,n')=(l7.key k,p,sz,g,q,lo,n))/\A.ev s=.hd (.key k) p sz g q 0 0 c/\A.at (.key k) p=some (g1,o1,.own sz xs g q c)/\sz=t.sz/\0<xs.length/\lo+n<=xs.length/\V.aG xs=false/\aL sz xs/\c'=c'
      | _=>False
    | _,_=>False
  | _,_=>False
 post _ o A:=(A.setAt (.key k) p (.own sz ((xs.drop lo).take n++xs.drop n) g q c)).put o.dst (.hd (.key k) p sz g q 0 n c)
 ok:=by
  rintro N ⟨dst,op,ty,pos,after,C7⟩ A K-hp hK
  replace hK:=hK ()
  simp only at hp
  split at hp
  rename_i s x T T2 d
  split at hp
  rename_i t e1 e2
  split at hp
  rename_i r p' I5 g' q' LY n' c' e3
  obtain⟨h1,es,x6,hsz,h0,hlo,H9,hN,_⟩:=hp
  simp only[Prod.mk.injEq]at h1
  obtain⟨rfl,rfl,rfl,rfl,rfl,rfl,rfl⟩:=h1
  simp only[Bool.and_eq_true,beq_iff_eq]at e1
  obtain⟨e,e',q1,q2,q3,q4,q5,q6⟩:=iH e2
  subst hsz
  intro Pb Kb a w F Q hs
  obtain⟨_,hx⟩:=dy hs s
  rw[es]at hx
  obtain⟨_,hle,B,hv,hB⟩:=hx
  have hv:a.eval s=.slice B 0 c:=(List.cons.inj hv).1
  have hrd:Nt A x=some (((t.sz=t.sz/\g'=g'/\q'=q')/\LY+n'<=xs.length/\V.aG xs=false/\aL t.sz xs),(xs.drop LY).take n'):=by
   unfold Nt
   rw[e3]
   show (match A.at (.key k) p' with | some (_,_,u)=>kF LY n' t.sz g' q' u | none=>none)=_
   rw[x6]
   rfl
  have Qw:aL t.sz ((xs.drop LY).take n'):=fun v hv=>hN v (List.mem_of_mem_drop (List.mem_of_mem_take hv))
  have SV:V.aG ((xs.drop LY).take n')=false:=uZ _ _ (qf _ _ H9)
  obtain⟨B2,c2,B5,H2,LP,Of,hl2⟩:=nj (P:=P) hs hrd ⟨⟨rfl,rfl,rfl⟩,hlo,H9,hN⟩ Qw SV
  have hyl:((xs.drop LY).take n').length=n':=Z0
  rw[hyl]at hl2 H2 Of
  obtain⟨Fr,Fu,_,⟨cs,cells,_,J6,_⟩,_⟩:=hs.split x6
  have hc:0<c/\xs.length<=c:=by
   rcases J6 with ⟨_,rfl,_⟩ | ⟨h,_,h2,_⟩
   simp at h0
   exact⟨h,h2⟩
  obtain rfl:=hB hc.1
  have WG:n'*t.sz<=xs.length*t.sz:=Nat.mul_le_mul_right _ Z9
  obtain⟨w',F',y9,x8,hk⟩:=hs.AO (P:=P) (lo:=0) (xs':=(xs.drop LY).take n'++xs.drop n') (new:=B5) x6 hc.1 H9 (by rw[hl2];omega)
   Z0 (fun v hv=>by
    rcases List.mem_append.1 hv with h | h
    exact Qw v h
    exact hN v (List.mem_of_mem_drop h)) (qD _ LP) (fun flat hf=>by
    have k2:=(ni (xs.take n') (xs.drop n') (cs:=flat) (by rw[List.take_append_drop];exact hf)).2
    rw[dL xs _ hN Z9]at k2
    rw[hl2,List.take_zero,List.nil_append,Nat.zero_add]
    exact iL _ _ LP k2)
  have N8:(execOp a.eval ⟨some d,.call ⟨.builtin .append,⟨[s,x]⟩,⟨[T,T2]⟩⟩,ty,pos,after,C7⟩).run P w=.ok (.value (.slice (some ⟨g',q'+0*t.sz,none⟩) n' c)) w':=by
   have PB:(Builtin.append_ #[T,T2] ty #[a.eval s,a.eval x]).run P w=.ok (.slice (some ⟨g',q'+0*t.sz,none⟩) n' c) w':=by
    have Oc:(Builtin.lenOf (a.eval x)).run P w=.ok n' w:=by rw[H2];rfl
    rw[hv]
    unfold Builtin.append_
    simp only[List.getElem?_toArray,List.getElem?_cons_zero,List.getElem?_cons_succ,Sem.run_bind,aF (iA q1),Result.andThen_ok]
    simp only[cJ q3,Result.andThen_ok]
    simp only[aF (iA q2),Result.andThen_ok,Sem.run_pure]
    rw[if_neg (show ¬ (false=true) by decide)]
    rw[Sem.run_bind,Oc]
    simp only[Result.andThen_ok]
    rw[if_pos Z9]
    simp only[Sem.run_bind,Bool.not_false,if_true,Of w (fun _=>rfl),Result.andThen_ok]
    simp only[dG,Nat.zero_mul,Nat.add_zero]at y9 ⊢
    rw[y9]
    simp
   have e:((⟨[s,x]⟩:Array Operand).map a.eval)= #[a.eval s,a.eval x]:=Z8
   simp only[execOp,resolve,invoke,builtin,Sem.run_bind,Sem.run_pure,Result.andThen_ok,e,PB]
  obtain⟨F2,J5⟩:=x8.pS (d:=some d) (v:=.hd (.key k) p' t.sz g' q' 0 n' c) (x:=.slice (some ⟨g',q'+0*t.sz,none⟩) n' c) (bD e1.2) ⟨rfl,Z9,_,rfl,fun _=>rfl⟩
  unfold Oper.wp
  rw[N8,Oper.upon_value]
  exact⟨_,Pb,Kb,F2,hK,J5,fun _ h=>h,fun _ h=>h,fun _ h=>.inl h,hk⟩
  exact hp.elim
  exact hp.elim
  exact hp.elim
def W9(k:Nat)(p:List Nat)(n sz:Nat)(xs:List V)(g q c g1 o1:Nat):Cu P where
 X:=Unit
 pre _ o A:=match o.op,o.dst with
  | .store T x y,none=>match ti P T,A.ev y with
    | some i,.hd r p' I5 g' q' LY n' c'=>((r,p',I5,g',q',LY,n',c')=(l7.key k,p,sz,g,q,0,n,c))/\A.ev x=.ptr (.key k) p g1 o1/\A.at (.key k) p=some (g1,o1,.own sz xs g q c)/\i.sz=1/\n<=xs.length/\V.aG xs=false
    | _,_=>False
  | _,_=>False
 post _ _ A:=A.setAt (.key k) p (.own sz (xs.take n) g q c)
 ok:=by
  rintro N ⟨dst,op,ty,pos,after,C7⟩ A K-hp hK
  replace hK:=hK ()
  simp only at hp
  split at hp
  rename_i T x y
  split at hp
  rename_i i r p' I5 g' q' LY n' c' e1 e2
  obtain⟨h1,ex,x6,hi,hn,H9⟩:=hp
  simp only[Prod.mk.injEq]at h1
  obtain⟨rfl,rfl,rfl,rfl,rfl,rfl,rfl,rfl⟩:=h1
  intro Pb Kb a w F Q hs
  obtain⟨_,hx⟩:=dy hs y
  rw[e2]at hx
  obtain⟨_,hle,B,hv,hB⟩:=hx
  have hv:a.eval y=.slice B n' c':=(List.cons.inj hv).1
  obtain⟨_,RY⟩:=dy hs x
  rw[ex]at RY
  have hp:a.eval x=.pointer (some ⟨g1,o1,none⟩):=by have:=RY.2;simpa using this
  obtain⟨Fr,Fu,MA,⟨cs,cells,hb,J6,r8⟩,hnd,u0,hfr⟩:=hs.split x6
  have hR:R w Pb (.own I5 (xs.take n') g' q' c') [a.eval y] Fu:=by
   rw[hv]
   rcases J6 with ⟨rfl,rfl,rfl,A0,_⟩ | ⟨QO,hsz,hlx,hcs,WK,Tb,flat,F',NB,TF,hr,l6,SK,Qu⟩
   have:n'=0:=by simpa using hn
   subst this
   exact .inl ⟨rfl,rfl,rfl,B,rfl⟩
   have hF0:=fG xs H9 hr
   subst hF0
   obtain rfl:=hB QO
   have hl:(xs.take n').length=n':=by rw[List.length_take];omega
   refine .inr ⟨QO,hsz,Z9,by rw[hl,Nat.zero_mul,Nat.add_zero],fun v hv=>WK v (List.mem_of_mem_take hv),Tb,flat.take (V.ns (xs.take n')),[],NB,TF,?_,l6,SK,fun j u hu=>Qu j u ?_⟩
   exact(ni (xs.take n') (xs.drop n') (cs:=flat) (by rw[List.take_append_drop];exact hr)).1
   rw[List.getElem?_take]at hu
   split at hu
   exact hu
   simp at hu
  have Q9:(A.setAt (.key k) p' .c9).at (.key k) p'=some (g1,o1,.c9):=by
   simp only[AS.at]at x6
   split at x6
   rename_i g0 t hk
   simp only[AS.setAt,hk,AS.at,lk,if_true]
   exact uH p' x6
   simp at x6
  have hcs:cs.length=1:=eg _ J6
  obtain⟨w',y9,x7⟩:=gy (P:=P) (g:=g1) (o:=o1) [a.eval y] 0 w cells hb (by
   have:cs[0]? =some (cs[0]'Z9):=List.getElem?_eq_getElem Z9
   have:=(Array.getElem?_eq_some_iff.1 (r8 0 _ this)).1
   simp only[List.length_cons,List.length_nil];omega) (fun v h=>by rw[List.mem_singleton.1 h,hv];rfl)
  rw[Nat.add_zero]at x7
  have N8:(execOp a.eval ⟨none,.store T x y,ty,pos,after,C7⟩).run P w=.ok .skip w':=by
   have MC:(a.eval y).cells= #[a.eval y]:=by rw[hv];rfl
   have hsz:(a.eval y).cells.size=i.sz:=by rw[MC,hi];rfl
   have Uq:(storeCells ⟨g1,o1,none⟩ (a.eval y).cells.toList 0).run P w=.ok () w':=by rw[MC];exact y9
   simp only[execOp,Instr.storeAt,hp,Instr.sureAddr,Sem.run_bind,Sem.run_pure,Result.andThen_ok,storeVar,cJ e1,hsz,ne_eq,not_true_eq_false,if_false,Uq]
  obtain⟨F2,J5,hg⟩:=MA.store Q9 hR (by rfl) hnd u0 hfr x7
  have LV:s3 N Pb Kb (A.setAt (.key k) p' (.own I5 (xs.take n') g' q' c')) a w' F2:=by
   simp only[AS.at]at x6
   split at x6
   rename_i g0 t hk
   refine J5.eqv ⟨fun i=>?_,fun q=>?_⟩
   simp only[AS.setAt,hk,lk,if_true];rfl
   simp only[AS.setAt,hk,lk,if_true,set_set]
   split <;> rfl
   simp at x6
  unfold Oper.wp
  rw[N8,Oper.upon_skip]
  exact⟨_,Pb,Kb,F2,hK,LV,fun _ h=>h,fun _ h=>h,fun _ h=>.inl h,⟨x7.os,x7.tape,x7.output,by rw[x7.size];omega,fun x hx=>x7.Mr x (fun c=>hg (c ▸ hx)),x7.shape⟩⟩
  exact hp.elim
  exact hp.elim
end
end Go.Abs
namespace Go.Abs
open Go Go.RowKit
theorem Ht{xs ys:List V}{j sz g o c:Nat}{x x' v:V}{p:List Nat}(h:xs[j]? =some x)(hx:V.set x p v=x')(e:xs.set j x'=ys):V.set (.own sz xs g o c) (j::p) v=.own sz ys g o c:=by simp only[V.set,h,hx,e]
section
variable {P:Program}
def sdC(n:Nat)(l h m:Int):Cu P where
 X:=Unit
 pre N o A:=match o.op,o.dst with
  | .slice T x (some lo) (some hi) (some mx),some d=>match tD P T,Nat.blt d N with
    | some (.sl e),true=>match ti P e,A.ev x with
      | some _,.hd _ _ _ _ _ _ n' _=>A.ev lo=.lit (.int .i64 l)/\A.ev hi=.lit (.int .i64 h)/\A.ev mx=.lit (.int .i64 m)/\n'=n/\0<=l/\l<=h/\h<=m/\m<=n
      | _,_=>False
    | _,_=>False
  | _,_=>False
 post _ o A:=A.put o.dst .c9
 ok:=by
  rintro N ⟨dst,op,ty,pos,after,C7⟩ A K-hp hK
  replace hK:=hK ()
  simp only at hp hK
  split at hp
  rename_i T x lo hi mx d
  split at hp
  rename_i e e1 e2
  split at hp
  rename_i t r p sz g q LY n' c e3 e4
  obtain⟨h1,h2,h3,rfl,k1,k2,k3,k4⟩:=hp
  refine fD (v:=.c9) rfl (bD e2) hK fun Pb Kb a w F hs=>?_
  obtain⟨_,hx⟩:=dy hs x
  rw[e4]at hx
  obtain⟨_,hle,B,hv,hB⟩:=hx
  have hv:a.eval x=.slice B n' c:=(List.cons.inj hv).1
  have b1:=bT hs h1
  have b2:=bT hs h2
  have b3:=bT hs h3
  refine⟨.slice (if m.toNat=l.toNat then B else B.map (·.add (l.toNat*t.sz))) (h.toNat-l.toNat) (m.toNat-l.toNat),?_,rfl⟩
  have q1:(Instr.sliceBounds true n' c (some (.int .i64 l)) (some (.int .i64 h)) (some (.int .i64 m))).run P w=.ok (l.toNat,h.toNat,m.toNat) w:=by
   simp only[Instr.sliceBounds,Instr.sliceBound,asIntOf,Sem.run_bind,Sem.run_pure,Result.andThen_ok]
   rw[if_pos Z9]
   simp only[Sem.run_pure,Result.andThen_ok]
   rw[if_pos Z9]
   simp only[Sem.run_pure,Result.andThen_ok]
   rw[if_pos Z9]
   simp only[Sem.run_pure,Result.andThen_ok]
  simp only[execOp,Option.map_some,Instr.sliceAt,Instr.slice,Sem.run_bind,aF (iA e1),Result.andThen_ok,hv,b1,b2,b3,q1,cJ e3,Sem.run_pure]
  exact hp.elim
  exact hp.elim
  exact hp.elim
def sbC(k:Nat)(p:List Nat)(sz:Nat)(xs:List V)(g q c n g1 o1:Nat)(l h:Nat):Cu P where
 X:=Unit
 pre N o A:=match o.op,o.dst with
  | .slice T x (some lo) (some hi) none,some d=>match tD P T,Nat.blt d N with
    | some (.sl e),true=>match ti P e with
      | some t=>A.ev x=.hd (.key k) p sz g q 0 n c/\A.at (.key k) p=some (g1,o1,.own sz xs g q c)/\A.ev lo=.lit (.int .i64 (l:Int))/\A.ev hi=.lit (.int .i64 (h:Int))/\sz=t.sz/\l<=h/\h<=xs.length
      | none=>False
    | _,_=>False
  | _,_=>False
 post _ o A:=A.put o.dst (.hd (.key k) p sz g q l (h-l) (c-l))
 ok:=by
  rintro N ⟨dst,op,ty,pos,after,C7⟩ A K-hp hK
  replace hK:=hK ()
  simp only at hp hK
  split at hp
  rename_i T x lo hi d
  split at hp
  rename_i e e1 e2
  split at hp
  rename_i t e3
  obtain⟨ex,x6,h1,h2,hsz,k1,k2⟩:=hp
  subst hsz
  refine fD (v:=.hd (.key k) p t.sz g q l (h-l) (c-l)) rfl (bD e2) hK fun Pb Kb a w F hs=>?_
  obtain⟨_,hx⟩:=dy hs x
  rw[ex]at hx
  obtain⟨_,hle,B,hv,hB⟩:=hx
  have hv:a.eval x=.slice B n c:=(List.cons.inj hv).1
  have b1:=bT hs h1
  have b2:=bT hs h2
  obtain⟨_,cs,cells,_,J6,_⟩:=jt hs x6
  have hc:xs.length<=c:=by
   rcases J6 with ⟨_,rfl,_⟩ | ⟨_,_,h,_⟩
   simp
   exact h
  refine⟨.slice (if c=l then B else B.map (·.add (l*t.sz))) (h-l) (c-l),?_,rfl,Z9,_,rfl,fun h0=>?_⟩
  have q1:(Instr.sliceBounds true n c (some (.int .i64 (l:Int))) (some (.int .i64 (h:Int))) none).run P w=.ok (l,h,c) w:=by
   simp only[Instr.sliceBounds,Instr.sliceBound,asIntOf,Sem.run_bind,Sem.run_pure,Result.andThen_ok]
   rw[if_pos Z9]
   simp only[Sem.run_pure,Result.andThen_ok]
   rw[if_pos Z9]
   simp only[Sem.run_pure,Result.andThen_ok,Int.toNat_natCast]
  simp only[execOp,Option.map_some,Option.map_none,Instr.sliceAt,Instr.slice,Sem.run_bind,aF (iA e1),Result.andThen_ok,hv,b1,b2,q1,cJ e3,Sem.run_pure]
  rw[if_neg Z9,hB Z9]
  simp[dG]
  exact hp.elim
  exact hp.elim
  exact hp.elim
def mfE:Eu P where
 X:=Unit
 pre N o A Sl _:=match o.op,o.dst with
  | .makeFunc fn first w9,some d=>match Nat.blt d N&&Sl.contains d,jd (first.toList.map A.ev),jd (w9.toList.map A.ev) with
    | true,some l1,some l2=>(Value.func fn l1.toArray l2.toArray).oneCell'=true
    | _,_,_=>False
  | _,_=>False
 U o A _ B:=match o.op,o.dst with
   | .makeFunc fn first w9,some d=>match jd (first.toList.map A.ev),jd (w9.toList.map A.ev) with
     | some l1,some l2=>B.put (some d) (.lit (.func fn l1.toArray l2.toArray))
     | _,_=>B
   | _,_=>B
 T5:=by
  rintro N ⟨dst,op,ty,pos,after,C7⟩ A Sl Hl hp fs
  simp only at hp
  split at hp
  rename_i fn first w9 d
  split at hp
  rename_i l1 l2 e1 e2 e3
  simp only[Bool.and_eq_true,List.contains_eq_mem,decide_eq_true_eq]at e1
  simp only[e2,e3]
  exact AJ (v:=fun _:Unit=>.lit (.func fn l1.toArray l2.toArray)) e1.2 fs
  exact hp.elim
  exact hp.elim
 ok:=by
  rintro N ⟨dst,op,ty,pos,after,C7⟩ A A' Sl Hl hg hp hA hR
  simp only at hp
  split at hp
  rename_i fn first w9 d
  split at hp
  rename_i l1 l2 e1 e2 e3
  simp only[Bool.and_eq_true]at e1
  have q1:first.toList.map A'.ev=first.toList.map A.ev:=List.map_congr_left fun x hx=>bw fun t ht=>hA t (by subst ht;simp[Op.operands];left;simpa using hx)
  have q2:w9.toList.map A'.ev=w9.toList.map A.ev:=List.map_congr_left fun x hx=>bw fun t ht=>hA t (by subst ht;simp[Op.operands];right;simpa using hx)
  refine(RG (P:=P)).ok hg ?_ fun _=>⟨(),?_⟩
  simp only[RG,q1,q2,e1.1,e2,e3];exact hp
  simp only[RG,q1,q2,e2,e3]
  exact hp.elim
  exact hp.elim
end
end Go.Abs
namespace Go.Pd
open Go.Abs
theorem IE(s:BL):iK s 20<=20:=by
 have key:∀ (l:BL) (n:Int),n<=20->l.foldl (jq 20) n<=20:=fun l=>by
  induction l with
  | nil=>exact fun n h=>h
  | cons c l ih=>exact fun n _=>ih _ (by unfold jq;omega)
 unfold iK
 split
 exact key s 0 Z9
 omega
def nf(gs:List l3):Prop:= ∀ y,y∈gs->y.wa<=20
theorem nf.set{gs:List l3}{f:l3->l3}(h:nf gs)(hf:∀ z,gs.getLast? =some z->(f z).wa<=20):nf (cS gs f):=by
 by_cases hn:gs=[]
 subst hn;simp[cS,nf]
 obtain⟨⟨l,z⟩,rfl⟩:=jL hn
 rw[dQ]
 intro y hy
 rcases List.mem_append.1 hy with hy | hy
 exact h y (by simp[hy])
 rw[List.mem_singleton.1 hy];exact hf z Z8
theorem HT{gs:List l3}{w d:BL}{b:Bool}(h:nf gs):nf (eZ gs w d b).1:=by
 have hl:∀ z,gs.getLast? =some z->z.wa<=20:=fun z hz=>h z (List.mem_of_getLast? hz)
 unfold eZ
 split
 split
 intro y hy
 rcases List.mem_append.1 hy with hy | hy
 exact h y hy
 rw[List.mem_singleton.1 hy];simp
 exact h.set fun z hz=>hl z hz
 split
 exact h
 split
 exact h.set fun z hz=>hl z hz
 split
 exact h.set fun z hz=>by have:=IE d;simp only;omega
 exact h
theorem Cz(t:BL):nf (cd t):=by
 have:∀ (l:List BL) (x:List l3×Bool),nf x.1->nf (l.foldl cD x).1:=by
  intro l
  induction l with
  | nil=>exact fun x h=>h
  | cons a l ih=>exact fun x h=>ih _ (HT h)
 exact this _ _ (by intro y hy;simp at hy)
theorem GD(n:BL):∀ (gs:List l3) {x:(List o9×Nat)×Bool},x.1.2<=20->nf gs->(gs.foldl (cb n) x).1.2<=20
 | [],x,h,_=>h
 | g::gs,x,h,h2=>by
   refine GD n gs ?_ (fun y hy=>h2 y (by simp[hy]))
   unfold cb
   split
   have:=h2 g Z8;simp only;omega
   exact h
theorem Ad{gs:List l3}(n:BL)(h:nf gs):(eU gs n).wa<=20:=by
 have key:∀ q,(NG gs q).1.wa<=20:=fun q=>GD q gs Z8 h
 unfold eU
 split <;> exact key _
theorem jY(k:Int)(t n:BL):(ah k t n).wa<=20:=by
 unfold ah
 split
 exact Ad n (Cz t)
 split
 simp
 exact Ad n (fun y hy=>by simp at hy)
def MP(ru:List o9)(x:w4):Bool:=aD x.ad&&aH ru (pathOf x.ad)
def Mw(y:k9)(s:BL):Bool:=aD s&&aH y.gr.ru (pathOf s)
def Mg(y:k9)(x:w4):Bool:=Mw y x.ad
def J7(y:k9)(l:List w4):Int:=if (l.findIdx fun x=>!(Mw y x.ad))<l.length then ((l.findIdx fun x=>!(Mw y x.ad):Nat):Int) else -1
def bg(w:List Pg)(n d:BL):l3:=⟨[n],(ah (ab w (ae d) 2).1 (ab w (ae d) 2).2 n).ru,(ah (ab w (ae d) 2).1 (ab w (ae d) 2).2 n).wa⟩
def n9(w:List Pg)(y:k9)(a8:Int):k9:=cL y a8 (ab w (ae y.na) y.tr).1 y.tr
def Ml(w:List Pg)(n:BL)(y:k9)(a8:Int):k9:=
 if (ab w (ae y.na) y.tr).1=3/\y.tr+1<3 then { n9 w y a8 with tr:=y.tr+1 }
 else { n9 w y a8 with kn:=true,gr:=bg w n y.na,re:=max (n9 w y a8).re (a8+((bg w n y.na).wa:Int)),td:=y.td.filter (MP (bg w n y.na).ru) }
def A8(w:List Pg)(y:k9)(a8:Int):k9:=cL { y with td:=y.td.drop 1 } a8 (ab w (y.td.getD 0 j6).ad (y.td.getD 0 j6).tr).1 (y.td.getD 0 j6).tr
def OR(w:List Pg)(t:l4)(i:Nat):l4:=
 { t with hs:=t.hs.set i (Ml w t.na (t.hs.getD i b7) t.a8),lk:=t.lk++[⟨t.a8,ae (t.hs.getD i b7).na,(ab w (ae (t.hs.getD i b7).na) (t.hs.getD i b7).tr).1⟩] }
def LQ(w:List Pg)(t:l4)(i:Nat):l4:=
 let y:=t.hs.getD i b7
 let it:=y.td.getD 0 j6
 let g:=ab w it.ad it.tr
 let t1:l4:={ t with hs:=t.hs.set i (A8 w y t.a8),lk:=t.lk++[⟨t.a8,it.ad,g.1⟩] }
 if g.1=3/\it.tr+1<3 then { t1 with hs:=t.hs.set i { A8 w y t.a8 with td:=y.td.drop 1++[⟨it.ad,it.tr+1⟩] } }
 else if aD it.ad=true then (DE it.ad g.1 g.2).foldl ao t1 else t1
theorem oM(l:List BL):∀ t:l4,(l.foldl ao t).na=t.na/\(l.foldl ao t).a8=t.a8/\(l.foldl ao t).lk=t.lk:=by
 induction l with
 | nil=>exact fun t=>⟨rfl,rfl,rfl⟩
 | cons a l ih=>exact fun t=>ih (ao t a)
structure HS (m:Nat) (y:k9):Prop where
 n:y.na.length<=1000
 r:y.gr.ru.length<=1000
 rp:∀ i,(y.gr.ru.getD i ⟨false,[]⟩).path.length<=1000
 w:y.gr.wa<=1000
 t:y.td.length+60<=1000+m
 ta:∀ x,x∈y.td->x.ad.length<=1000/\m4 x.ad/\0<=x.tr/\x.tr<=1000
 k:0<=y.tr/\y.tr<=1000
theorem HS.mono{m k:Nat}{y:k9}(h:HS m y)(hm:m<=k):HS k y:=⟨h.n,h.r,h.rp,h.w,by have:=h.t;omega,h.ta,h.k⟩
structure TS (t:l4):Prop where
 s:t.se.length<=60
 h:t.hs.length+60<=1000+t.se.length
 sa:∀ x,x∈t.se->x.length<=1000/\m4 x
 ha:∀ y,y∈t.hs->HS t.se.length y
theorem Hw{t:l4}{s:BL}(h:TS t)(hn:t.na.length<=1000)(hs:s.length<=1000)(hc:m4 s)(hd:(af s).length<=1000):TS (ao t s):=by
 have e1:(ao t s).se=cf t.se s:=rfl
 have e2:(ao t s).hs=aQ t.na t.hs t.se s:=rfl
 by_cases hr:dh t.se s
 have e3:cf t.se s=t.se++[s]:=if_pos hr
 have e4:aQ t.na t.hs t.se s=(aA t.hs (af s) t.na).set (r7 t.hs (af s)) (bc ((aA t.hs (af s) t.na).getD (r7 t.hs (af s)) b7) s):=if_pos hr
 have hl:(aA t.hs (af s) t.na).length<=t.hs.length+1:=tF _ _ _
 have hin:∀ y,y∈aA t.hs (af s) t.na->HS t.se.length y:=fun y hy=>by
  unfold aA at hy
  split at hy
  exact h.ha y hy
  rcases List.mem_append.1 hy with hy | hy
  exact h.ha y hy
  rw[List.mem_singleton.1 hy]
  exact⟨hd,by simp[bK],by simp[bK],by simp[bK],by show 0+60<=1000+t.se.length;omega,by simp[bK],by simp[bK]⟩
 have h2:=hr.2.1
 refine⟨by rw[e1,e3];simp;omega,?_,fun x hx=>?_,fun y hy=>?_⟩
 rw[e1,e2,e3,e4,List.length_set];have:=h.h;simp;omega
 rw[e1,e3]at hx
 rcases List.mem_append.1 hx with hx | hx
 exact h.sa x hx
 rw[List.mem_singleton.1 hx];exact⟨hs,hc⟩
 rw[e1,e3]
 rw[e2,e4]at hy
 have hm:(t.se++[s]).length=t.se.length+1:=Z8
 rw[hm]
 rcases bN hy with e | hy
 have hm:(aA t.hs (af s) t.na).getD (r7 t.hs (af s)) b7∈aA t.hs (af s) t.na:=by
  rw[List.getD_eq_getElem?_getD,List.getElem?_eq_getElem (cF ..)];exact List.getElem_mem _
 have x9:=hin _ hm
 rw[e]
 unfold bc
 split
 exact x9.mono Z9
 refine⟨x9.n,x9.r,x9.rp,x9.w,?_,fun x hx=>?_,x9.k⟩
 show (_++[_]).length+60<=_
 have:=x9.t
 rw[List.length_append,List.length_singleton];omega
 rcases List.mem_append.1 hx with hx | hx
 exact x9.ta x hx
 rw[List.mem_singleton.1 hx];exact⟨hs,hc,Z8,Z8⟩
 exact(hin y hy).mono Z9
 have e3:cf t.se s=t.se:=if_neg hr
 have e4:aQ t.na t.hs t.se s=t.hs:=if_neg hr
 exact⟨by rw[e1,e3];exact h.s,by rw[e1,e2,e3,e4];exact h.h,by rw[e1,e3];exact h.sa,by rw[e1,e2,e3,e4];exact h.ha⟩
theorem rU:∀ (l:List BL) {t:l4},TS t->t.na.length<=1000->(∀ s,s∈l->s.length<=1000/\m4 s/\(af s).length<=1000)->TS (l.foldl ao t)
 | [],t,h,_,_=>h
 | a::l,t,h,hn,hl=>by
   have:=hl a Z8
   exact rU l (Hw h hn this.1 this.2.1 this.2.2) hn (fun s hs=>hl s (by simp[hs]))
end Go.Pd
namespace Go.Pd
def fW(y:k9)(l:List w4):List w4:=l.filter (Mg y)++List.replicate (l.length-(l.filter (Mg y)).length) j6
end Go.Pd
namespace Go.Proofs.YtbjbamjffkanbaaGreatDoor
open Go Go.Abs Go.RowKit Go.Pd
set_option maxRecDepth 20000
theorem Km{y:k9}{s:BL}:(!((aB s).isSome)||!(aH y.gr.ru (if aI (oA (aB s))=true then bm (oA (aB s)) else [])))=!(Mw y s):=by
 unfold Mw
 rw[gH]
 by_cases h:aD s=true
 have e:aB s=ar s:=if_pos h
 have hs:(ar s).isSome=true:=by have:=h;unfold aD at this;rw[Bool.and_eq_true]at this;exact this.1
 rw[h,e,if_pos (gW hs)];rfl
 rw[Bool.not_eq_true]at h
 rw[h];rfl
section
variable {y:k9} {l u:List w4} {i w:Nat}
theorem BV{p:w4->Bool}(hi:i<l.length)(e:p (l.getD i j6)=true)(h:∀ j,j<i->p (l.getD j j6)=false):l.findIdx p=i:=by
 rw[List.findIdx_eq hi]
 simp only[List.getD_eq_getElem?_getD,List.getElem?_eq_getElem hi]at e
 refine⟨by simpa using e,fun j hj=>?_⟩
 have:=h j hj
 simp only[List.getD_eq_getElem?_getD,List.getElem?_eq_getElem (show j<l.length by omega)]at this
 simpa using this
theorem JT(hi:i<l.length)(e:Mw y (l.getD i j6).ad=false)(h:∀ j,j<i->Mw y (l.getD j j6).ad=true):J7 y l=i:=by
 unfold J7
 rw[BV (p:=fun x=>!(Mw y x.ad)) hi (by simp only[e];rfl) (fun j hj=>by simp only[h j hj];rfl),if_pos hi]
theorem ID{p:w4->Bool}(h:∀ j,j<l.length->p (l.getD j j6)=false):l.findIdx p=l.length:=by
 rw[List.findIdx_eq_length]
 intro x hx
 obtain⟨j,hj,rfl⟩:=List.mem_iff_getElem.1 hx
 have:=h j hj
 simp only[List.getD_eq_getElem?_getD,List.getElem?_eq_getElem hj]at this
 simpa using this
theorem Jk(h:∀ j,j<l.length->Mw y (l.getD j j6).ad=true):J7 y l= -1:=by
 unfold J7
 rw[ID (p:=fun x=>!(Mw y x.ad)) (fun j hj=>by simp only[h j hj];rfl),if_neg Z9]
theorem xI(y:k9)(l:List w4): -1<=J7 y l/\J7 y l<=l.length/\(J7 y l≠ -1->0<=J7 y l/\J7 y l<l.length):=by
 unfold J7;split <;> omega
theorem qW(h:u.drop i=l.drop i):u.getD i j6=l.getD i j6:=by
 have:=congrArg (fun r=>r[0]?) h
 simp only[List.getElem?_drop,Nat.add_zero]at this
 rw[List.getD_eq_getElem?_getD,List.getD_eq_getElem?_getD,this]
theorem Dh(h:J7 y l= -1):l.filter (Mg y)=l:=by
 unfold J7 at h
 split at h
 omega
 rename_i hn
 have he:(l.findIdx fun x=>!(Mw y x.ad))=l.length:=by
  have:(l.findIdx fun x=>!(Mw y x.ad))<=l.length:=List.findIdx_le_length
  omega
 rw[List.findIdx_eq_length]at he
 rw[List.filter_eq_self]
 intro x hx
 simpa[Mg] using he x hx
theorem Lj(h: ¬ J7 y l= -1):(J7 y l).toNat<(J7 y l).toNat+1/\(J7 y l).toNat+1<=l.length/\l.length=l.length/\l.take (J7 y l).toNat=(l.take ((J7 y l).toNat+1)).filter (Mg y)/\l.drop ((J7 y l).toNat+1)=l.drop ((J7 y l).toNat+1):=by
 obtain⟨b1,b2⟩:=(xI y l).2.2 h
 have hk:(J7 y l).toNat=l.findIdx fun x=>!(Mw y x.ad):=by
  unfold J7 at b1 b2 ⊢
  split
  exact Int.toNat_natCast _
  rename_i hn
  rw[if_neg hn]at b1;omega
 have hlt:(J7 y l).toNat<l.length:=Z9
 refine⟨Z9,Z9,rfl,?_,rfl⟩
 rw[List.take_succ_eq_append_getElem hlt,List.filter_append]
 have e1:(l.take (J7 y l).toNat).filter (Mg y)=l.take (J7 y l).toNat:=by
  rw[List.filter_eq_self]
  intro x hx
  obtain⟨j,hj,rfl⟩:=List.mem_iff_getElem.1 hx
  rw[List.length_take]at hj
  rw[List.getElem_take]
  have:=List.not_of_lt_findIdx (p:=fun x=>!(Mw y x.ad)) (xs:=l) (i:=j) Z9
  simpa[Mg] using this
 have e2:Mg y l[(J7 y l).toNat]=false:=by
  have:=List.findIdx_getElem (p:=fun x=>!(Mw y x.ad)) (xs:=l) (w:=by rw[<- hk];exact hlt)
  simp only[<- hk]at this
  simpa[Mg] using this
 rw[e1]
 simp[e2]
theorem Ke(hi:i<l.length)(h1:w<i)(h3:u.length=l.length)(h4:u.take w=(l.take i).filter (Mg y))(h5:u.drop i=l.drop i)(hk:Mw y (u.getD i j6).ad=true):
 w+1<i+1/\i+1<=l.length/\(u.set w (⟨(u.getD i j6).ad,(u.getD i j6).tr⟩:w4)).length=l.length/\(u.set w (⟨(u.getD i j6).ad,(u.getD i j6).tr⟩:w4)).take (w+1)=(l.take (i+1)).filter (Mg y)/\
  (u.set w (⟨(u.getD i j6).ad,(u.getD i j6).tr⟩:w4)).drop (i+1)=l.drop (i+1):=by
 have e:=qW h5
 have hw:w<u.length:=Z9
 refine⟨Z9,Z9,by simpa using h3,?_,?_⟩
 rw[List.take_succ_eq_append_getElem (by simpa using hw),List.getElem_set_self,List.take_set_of_le (Nat.le_refl _),h4,List.take_succ_eq_append_getElem hi,List.filter_append]
 have e2:(⟨(u.getD i j6).ad,(u.getD i j6).tr⟩:w4)=l[i]:=by
  show u.getD i j6=l[i]
  rw[e,List.getD_eq_getElem?_getD,List.getElem?_eq_getElem hi];rfl
 have e3:Mg y l[i]=true:=by rw[<- e2];exact hk
 rw[e2]
 simp[e3]
 rw[List.drop_set_of_lt Z9]
 have:=congrArg (List.drop 1) h5
 simpa[List.drop_drop] using this
theorem JE(hi:i<l.length)(h1:w<i)(h3:u.length=l.length)(h4:u.take w=(l.take i).filter (Mg y))(h5:u.drop i=l.drop i)(hk:Mw y (u.getD i j6).ad=false):
 w<i+1/\i+1<=l.length/\u.length=l.length/\u.take w=(l.take (i+1)).filter (Mg y)/\u.drop (i+1)=l.drop (i+1):=by
 refine⟨Z9,Z9,h3,?_,?_⟩
 rw[h4,List.take_succ_eq_append_getElem hi,List.filter_append]
 have e3:Mg y l[i]=false:=by
  have:=qW h5
  rw[List.getD_eq_getElem?_getD (l:=l),List.getElem?_eq_getElem hi]at this
  show Mw y l[i].ad=false
  rw[<- hk,this];rfl
 simp[e3]
 have:=congrArg (List.drop 1) h5
 simpa[List.drop_drop] using this
theorem Ki(hi:l.length<=i)(h1:w<i)(h2:i<=l.length)(h3:u.length=l.length)(h4:u.take w=(l.take i).filter (Mg y)):w=(l.filter (Mg y)).length:=by
 have:=congrArg List.length h4
 rw[List.length_take,List.take_of_length_le hi]at this
 omega
theorem JX(h:J7 y l= -1):fW y l=l:=by unfold fW;rw[Dh h];simp
theorem JV(hi:l.length<=i)(h1:w<i)(h2:i<=l.length)(h3:u.length=l.length)(h4:u.take w=(l.take i).filter (Mg y)):fW y l=u.take w++List.replicate (l.length-w) j6:=by
 unfold fW
 rw[<- Ki hi h1 h2 h3 h4,h4,List.take_of_length_le hi]
theorem Jb(h3:u.length=l.length):(u.map ak).take w++List.replicate (l.length-w) (.agg [sV [],iN 0]:V)++(u.map ak).drop (w+(l.length-w))=(u.take w++List.replicate (l.length-w) j6).map ak:=by
 rw[List.drop_eq_nil_of_le Z0,List.append_nil,List.map_append,List.map_take,List.map_replicate];rfl
theorem Lh:((l.map ak).drop 1).take (l.length-1)++(l.map ak).drop (l.length-1)=(l.drop 1++l.drop (l.length-1)).map ak:=by
 rw[List.map_append,List.map_drop,List.map_drop,List.take_of_length_le Z8]
theorem Kj(h:0<l.length):((l.drop 1++l.drop (l.length-1)).map ak).take (l.length-1)++List.replicate 1 (.agg [sV [],iN 0]:V)++((l.drop 1++l.drop (l.length-1)).map ak).drop (l.length-1+1)=(l.drop 1++[j6]).map ak:=by
 rw[show ((l.drop 1++l.drop (l.length-1)).map ak).drop (l.length-1+1)=[] from List.drop_eq_nil_of_le Z0,List.append_nil,<- List.map_take,List.take_append_of_le_length Z8,List.take_of_length_le Z8,List.map_append];rfl
end
def rR(n:BL)(a8:Int)(zs:List k9)(se:List BL)(ls:List l8)(gt:Nat)(g:Nat)(o:Nat)(c:Nat)(ix:Nat)(y:k9)(ga:Nat)(oa:Nat)(ca:Nat)(l:List w4)(gb:Nat)(s:BL)(v:Int):o8 Tryz.prog:=.mk 143 [.agg [sV s,iV v],.ptr (.key 1002) [] gb 0] [(1002,(gb,.ptr (.key 1000) [2,ix] g (o+ix*8))),(1000,(gt,bz n a8 zs ix y.na y.re y.kn y.gr.na y.gr.ru y.gr.wa y.tr l ga oa ca g o c se ls))] ((ix<zs.length)/\(s.length<=1000)/\(m4 s)/\(y.gr.ru.length<=1000)/\(∀ i,(y.gr.ru.getD i ⟨false,[]⟩).path.length<=1000)) (bV (!(Mw y s))) [(1002,(gb,.ptr (.key 1000) [2,ix] g (o+ix*8))),(1000,(gt,bz n a8 zs ix y.na y.re y.kn y.gr.na y.gr.ru y.gr.wa y.tr l ga oa ca g o c se ls))] (by
 rintro⟨hi,hs,hc,hr,Tw⟩
 refine az (N:=25) (rs:=[.tmp 3]) Tryz.func143
  (.bx (fun g2=>.q 1<|.r 2 [.c9]<|.c (cH s) []<|.q 3<|.al dc (fun g4=>.st none<|.q 1<|.dx 13 [0,1,2,3,4,5,6,7,8,9,10,11,12] [(3,⟨false,[],some [1002],[15],[]⟩),(7,⟨false,[],some [1000],[19],[]⟩),(8,⟨false,[],some [4],[20],[]⟩)] []<|.q 1<|.q 1<|.q 1<|.r 1 [.c9]<|.q 1<|.q 1<|.q 1<|.r 1 [dk y.gr.ru]<|.r 1 [.c9]<|.cg (jg (oA (aB s)))<|.cg (iq y.gr.ru (if aI (oA (aB s))=true then bm (oA (aB s)) else []))<|.q 1<|.q 1<|.q 1<|.nil)))
  ((fun v1:Bool=>(fun v2:V=>(∀ g2:Nat,Z g2 0/\(cH s).sm/\((s.length<=1000000)/\(m4 s))/\∀ g4:Nat,Z g4 0/\Gd v1 (Z gb 0)/\Gd v1 (v1=true)/\Gd v1 True/\Gd v1 (v1=true)/\Gd v1 (v1=true)/\Gd v1 (v1=true)/\Gd v1 (V.at gt 0 v2 [2,ix,3,1]=some (g,(o+ix*8+3+1),dk y.gr.ru))/\Gd v1 (Z g4 0)/\Gd v1 (v1=true)/\Gd v1 (((cI (oA (aB s))))/\(jg (oA (aB s))).sm)/\Gd v1 (v1=true)/\Gd v1 (v1=true)/\Gd v1 (((y.gr.ru.length<=1000000)/\(∀ i,(y.gr.ru.getD i ⟨false,[]⟩).path.length<=1000000)/\((if aI (oA (aB s))=true then bm (oA (aB s)) else []).length<=1000000))/\(iq y.gr.ru (if aI (oA (aB s))=true then bm (oA (aB s)) else [])).sm)/\Gd v1 (v1=true)/\Pk (!((aB s).isSome)) true v1/\Q (bV ((!((aB s).isSome))||(!(aH y.gr.ru (if aI (oA (aB s))=true then bm (oA (aB s)) else []))))) (bV (!(Mw y s)))/\Er gb (.ptr (.key 1000) [2,ix] g (o+ix*8))/\Er gt v2)) (bz n a8 zs ix y.na y.re y.kn y.gr.na y.gr.ru y.gr.wa y.tr l ga oa ca g o c se ls)) ((!((aB s).isSome))==false)) ?_
 intro g2
 refine⟨rfl,rfl,⟨Z9,hc⟩,?_⟩
 intro g4
 refine⟨rfl,fun hG=>rfl,fun h=>h,fun hG=>trivial,fun h=>h,fun h=>h,fun h=>h,fun hG=>(aT (f:=2) rfl).trans (aJ (aK Z9) rfl),fun hG=>rfl,fun h=>h,fun hG=>⟨by(try simp only[nb]at hG);exact rn _,rfl⟩,fun h=>h,fun h=>h,fun hG=>⟨⟨by(try simp only[nb]at hG);omega,fun i=>by have:=Tw i;omega,by(try simp only[nb]at hG);have:=(rn s).path;split <;> simp <;> omega⟩,rfl⟩,fun h=>h,⟨fun _=>rfl,fun h=>by rw[h] <;> rfl⟩,?_⟩
 refine⟨?_,rfl,rfl⟩
 unfold Q
 rw[Km])
def Di(n:BL)(a8:Int)(zs:List k9)(se:List BL)(ls:List l8)(gt:Nat)(g:Nat)(o:Nat)(c:Nat)(ix:Nat)(y:k9)(ga:Nat)(oa:Nat)(ca:Nat)(l:List w4)(gb:Nat):o8 Tryz.prog:=.mk 174 [.hd (.key 1000) [2,ix,5] 2 ga oa 0 ((l.map ak).length) ca,.lit (.func (.func 143) #[] #[.pointer (some ⟨gb,0,none⟩)])] [(1002,(gb,.ptr (.key 1000) [2,ix] g (o+ix*8))),(1000,(gt,bz n a8 zs ix y.na y.re y.kn y.gr.na y.gr.ru y.gr.wa y.tr l ga oa ca g o c se ls))] ((ix<zs.length)/\(l.length<=1000)/\(∀ x,x∈l->x.ad.length<=1000/\m4 x.ad)/\(y.gr.ru.length<=1000)/\(∀ i,(y.gr.ru.getD i ⟨false,[]⟩).path.length<=1000)) (iV (J7 y l)) [(1002,(gb,.ptr (.key 1000) [2,ix] g (o+ix*8))),(1000,(gt,bz n a8 zs ix y.na y.re y.kn y.gr.na y.gr.ru y.gr.wa y.tr l ga oa ca g o c se ls))] (by
 rintro⟨hi,hl,hx,hr,Tw⟩
 refine az (N:=19) (rs:=[.tmp 4]) Tryz.func174
  (.q 1<|.q 3<|.loop (Nat) (fun (i:Nat)=>⟨[(0,.hd (.key 1000) [2,ix,5] 2 ga oa 0 ((l.map ak).length) ca),(1,.lit (.func (.func 143) #[] #[.pointer (some ⟨gb,0,none⟩)])),(7,iN l.length),(8,iN i)],[(1002,(gb,.ptr (.key 1000) [2,ix] g (o+ix*8))),(1000,(gt,bz n a8 zs ix y.na y.re y.kn y.gr.na y.gr.ru y.gr.wa y.tr l ga oa ca g o c se ls))]⟩) (fun (i:Nat)=>i<=l.length/\∀ j,j<i->Mw y (l.getD j j6).ad=true) (fun (i:Nat)=>l.length-i) (fun (i:Nat)=>.q 1<|.br (.q 2<|.r 5 [.agg [sV ((l.getD i j6).ad),iV ((l.getD i j6).tr)]]<|.c (rR n a8 zs se ls gt g o c ix y ga oa ca l gb ((l.getD i j6).ad) ((l.getD i j6).tr)) [(1002,1002),(1000,1000)]<|.br (.q 2<|.nil) (.q 2<|.nil)) (.q 1<|.nil)))
  ((fun v1:V=>(fun v2:V=>(fun v3:V=>((∃ j7:Nat,(j7<=l.length/\∀ j,j<j7->Mw y (l.getD j j6).ad=true)/\E (.hd (.key 1000) [2,ix,5] 2 ga oa 0 ((l.map ak).length) ca)/\E v3/\Q (iN ((l.map ak).length)) (iN l.length)/\Q (iN 0) (iN j7)/\Er gb v2/\Er gt v1/\True)/\∀ i:Nat,(i<=l.length/\∀ j,j<i->Mw y (l.getD j j6).ad=true)->Br (s8 (i:Int) (l.length:Int)) (In (i:Int) ((l.map ak).length)/\(V.at gt 0 v1 [2,ix,5,0+i]=some (ga,(oa+(0+i)*2),.agg [sV ((l.getD i j6).ad),iV ((l.getD i j6).tr)]))/\(rR n a8 zs se ls gt g o c ix y ga oa ca l gb ((l.getD i j6).ad) ((l.getD i j6).tr)).sm/\Er gb v2/\Er gt v1/\((ix<zs.length)/\(((l.getD i j6).ad).length<=1000)/\(m4 ((l.getD i j6).ad))/\(y.gr.ru.length<=1000)/\(∀ i,(y.gr.ru.getD i ⟨false,[]⟩).path.length<=1000))/\Br (!(Mw y ((l.getD i j6).ad))) (Q (iN i) (iV (J7 y l))/\Er gb v2/\Er gt v1) (m9 ((i:Int)+1)/\∃ c5:Nat,(c5<=l.length/\∀ j,j<c5->Mw y (l.getD j j6).ad=true)/\(l.length-c5<l.length-i)/\E (.hd (.key 1000) [2,ix,5] 2 ga oa 0 ((l.map ak).length) ca)/\E v3/\E (iN l.length)/\Q (iN (i+1)) (iN c5)/\Er gb v2/\Er gt v1/\True)) (Q (iV (-1)) (iV (J7 y l))/\Er gb v2/\Er gt v1))) (.lit (.func (.func 143) #[] #[.pointer (some ⟨gb,0,none⟩)]))) (.ptr (.key 1000) [2,ix] g (o+ix*8))) (bz n a8 zs ix y.na y.re y.kn y.gr.na y.gr.ru y.gr.wa y.tr l ga oa ca g o c se ls)) ?_
 refine⟨⟨0,?_,rfl,rfl,Z4,rfl,rfl,rfl,trivial⟩,?_⟩
 simp
 rintro i ⟨h1,h2⟩
 refine bI (fun j9=>?_) fun j9=>?_
 have M4:=hx _ (aw (d:=j6) (show i<l.length by omega))
 refine⟨Z2,(aT (f:=2) rfl).trans (aJ (aK Z9) ((aT (f:=5) rfl).trans (aJ (by rw[Nat.zero_add];exact an (d:=j6) Z9) rfl))),rfl,rfl,rfl,⟨hi,M4.1,M4.2,hr,Tw⟩,?_⟩
 refine bI (fun l6=>?_) fun l6=>?_
 refine⟨?_,rfl,rfl⟩
 unfold Q
 rw[JT (i:=i) Z9 (by simpa using l6) h2]
 refine⟨Z9,?_⟩
 refine⟨i+1,?_,?_,rfl,rfl,rfl,rfl,rfl,rfl,trivial⟩
 exact⟨Z9,bP h2 (by simpa using l6)⟩
 exact Z1
 refine⟨?_,rfl,rfl⟩
 unfold Q
 rw[Jk (fun j hj=>h2 j Z9)])
abbrev qt(n:BL)(a8:Int)(zs:List k9)(se:List BL)(ls:List l8)(gt:Nat)(g:Nat)(o:Nat)(c:Nat)(ix:Nat)(y:k9)(ga:Nat)(oa:Nat)(ca:Nat)(l:List w4)(gb:Nat):V:=.hd (.key 1000) [2,ix,5] 2 ga oa 0 ((l.filter (Mg y)).length) ca
abbrev jT(n:BL)(a8:Int)(zs:List k9)(se:List BL)(ls:List l8)(gt:Nat)(g:Nat)(o:Nat)(c:Nat)(ix:Nat)(y:k9)(ga:Nat)(oa:Nat)(ca:Nat)(l:List w4)(gb:Nat)(w:Nat)(i:Nat)(u:List w4):Prop:=w<i/\i<=l.length/\u.length=l.length/\u.take w=(l.take i).filter (Mg y)/\u.drop i=l.drop i
def Df(n:BL)(a8:Int)(zs:List k9)(se:List BL)(ls:List l8)(gt:Nat)(g:Nat)(o:Nat)(c:Nat)(ix:Nat)(y:k9)(ga:Nat)(oa:Nat)(ca:Nat)(l:List w4)(gb:Nat):o8 Tryz.prog:=.mk 142 [.hd (.key 1000) [2,ix,5] 2 ga oa 0 ((l.map ak).length) ca,.lit (.func (.func 143) #[] #[.pointer (some ⟨gb,0,none⟩)])] [(1002,(gb,.ptr (.key 1000) [2,ix] g (o+ix*8))),(1000,(gt,bz n a8 zs ix y.na y.re y.kn y.gr.na y.gr.ru y.gr.wa y.tr l ga oa ca g o c se ls))] ((ix<zs.length)/\(l.length<=1000)/\(∀ x,x∈l->x.ad.length<=1000/\m4 x.ad)/\(y.gr.ru.length<=1000)/\(∀ i,(y.gr.ru.getD i ⟨false,[]⟩).path.length<=1000)) (qt n a8 zs se ls gt g o c ix y ga oa ca l gb) [(1002,(gb,.ptr (.key 1000) [2,ix] g (o+ix*8))),(1000,(gt,bz n a8 zs ix y.na y.re y.kn y.gr.na y.gr.ru y.gr.wa y.tr (fW y l) ga oa ca g o c se ls))] (by
 rintro⟨hi,hl,hx,hr,Tw⟩
 refine az (N:=42) (rs:=[.tmp 4]) Tryz.func142
  (.q 1<|.q 2<|.c (Di n a8 zs se ls gt g o c ix y ga oa ca l gb) [(1002,1002),(1000,1000)]<|.q 1<|.q 2<|.br (.q 2<|.nil) (.q 3<|.loop (Nat×Nat×(List w4)) (fun (w,i,u)=>⟨[(0,.hd (.key 1000) [2,ix,5] 2 ga oa 0 ((l.map ak).length) ca),(1,.lit (.func (.func 143) #[] #[.pointer (some ⟨gb,0,none⟩)])),(5,iN w),(6,iN i)],[(1002,(gb,.ptr (.key 1000) [2,ix] g (o+ix*8))),(1000,(gt,bz n a8 zs ix y.na y.re y.kn y.gr.na y.gr.ru y.gr.wa y.tr u ga oa ca g o c se ls))]⟩) (fun (w,i,u)=>jT n a8 zs se ls gt g o c ix y ga oa ca l gb w i u) (fun (w,i,u)=>l.length-i) (fun (w,i,u)=>.q 4<|.br (.r 4 [.agg [sV ((u.getD i j6).ad),iV ((u.getD i j6).tr)]]<|.al sL (fun g7=>.st none<|.r 2 [.c9]<|.c (rR n a8 zs se ls gt g o c ix y ga oa ca u gb ((u.getD i j6).ad) ((u.getD i j6).tr)) [(1002,1002),(1000,1000)]<|.q 1<|.br (.r 4 [.c9]<|.st (some (.agg [sV ((u.getD w j6).ad),iV ((u.getD w j6).tr)]))<|.h (.A6 1000 (bz n a8 zs ix y.na y.re y.kn y.gr.na y.gr.ru y.gr.wa y.tr (u.set w (⟨(u.getD i j6).ad,(u.getD i j6).tr⟩:w4)) ga oa ca g o c se ls))<|.q 3<|.q 3<|.nil) (.q 3<|.nil))) (.q 3<|.cu (XY 1000 [2,ix,5] w (l.length-w) 2 (u.map ak) ga oa ca g (o+(ix)*8+7) sL) (fun _=>.h (.A6 1000 (bz n a8 zs ix y.na y.re y.kn y.gr.na y.gr.ru y.gr.wa y.tr (u.take w++List.replicate (l.length-w) j6) ga oa ca g o c se ls))<|.q 4<|.nil)))))
  ((fun v1:V=>(fun v2:V=>(fun v3:V=>(fun v4:V=>((Di n a8 zs se ls gt g o c ix y ga oa ca l gb).sm/\Er gb v1/\Er gt v2/\((ix<zs.length)/\(l.length<=1000)/\(∀ x,x∈l->x.ad.length<=1000/\m4 x.ad)/\(y.gr.ru.length<=1000)/\(∀ i,(y.gr.ru.getD i ⟨false,[]⟩).path.length<=1000))/\Br (o6 (J7 y l) (-1)) (Q (.hd (.key 1000) [2,ix,5] 2 ga oa 0 ((l.map ak).length) ca) (qt n a8 zs se ls gt g o c ix y ga oa ca l gb)/\Er gb v1/\Qr gt v2 gt v4) (m9 ((J7 y l)+1)/\(∃ x:Nat×Nat×(List w4),match x with | (T3,j7,H3)=>(jT n a8 zs se ls gt g o c ix y ga oa ca l gb T3 j7 H3)/\E (.hd (.key 1000) [2,ix,5] 2 ga oa 0 ((l.map ak).length) ca)/\E v3/\Q (iV (J7 y l)) (iN T3)/\Q (iV ((J7 y l)+1)) (iN j7)/\Er gb v1/\Qr gt v2 gt (bz n a8 zs ix y.na y.re y.kn y.gr.na y.gr.ru y.gr.wa y.tr H3 ga oa ca g o c se ls)/\True)/\∀ x:Nat×Nat×(List w4),match x with | (w,i,u)=>(jT n a8 zs se ls gt g o c ix y ga oa ca l gb w i u)->(fun v5:V=>Br (s8 (i:Int) (((l.map ak).length:Nat):Int)) (In (i:Int) ((l.map ak).length)/\(V.at gt 0 v5 [2,ix,5,0+i]=some (ga,(oa+(0+i)*2),.agg [sV ((u.getD i j6).ad),iV ((u.getD i j6).tr)]))/\∀ g7:Nat,Z g7 0/\Z g7 0/\(rR n a8 zs se ls gt g o c ix y ga oa ca u gb ((u.getD i j6).ad) ((u.getD i j6).tr)).sm/\Er gb v1/\Er gt v5/\((ix<zs.length)/\(((u.getD i j6).ad).length<=1000)/\(m4 ((u.getD i j6).ad))/\(y.gr.ru.length<=1000)/\(∀ i,(y.gr.ru.getD i ⟨false,[]⟩).path.length<=1000))/\Br (!(!(Mw y ((u.getD i j6).ad)))) (Z g7 0/\In (w:Int) ((l.map ak).length)/\(V.at gt 0 v5 [2,ix,5,0+w]=some (ga,(oa+(0+w)*2),.agg [sV ((u.getD w j6).ad),iV ((u.getD w j6).tr)]))/\(V.set v5 [2,ix,5,0+w] (.agg [sV ((u.getD i j6).ad),iV ((u.getD i j6).tr)])=bz n a8 zs ix y.na y.re y.kn y.gr.na y.gr.ru y.gr.wa y.tr (u.set w (⟨(u.getD i j6).ad,(u.getD i j6).tr⟩:w4)) ga oa ca g o c se ls)/\m9 ((w:Int)+1)/\m9 ((i:Int)+1)/\∃ x:Nat×Nat×(List w4),match x with | (Ow,c5,B4)=>(jT n a8 zs se ls gt g o c ix y ga oa ca l gb Ow c5 B4)/\(l.length-c5<l.length-i)/\E (.hd (.key 1000) [2,ix,5] 2 ga oa 0 ((l.map ak).length) ca)/\E v3/\Q (iN (w+1)) (iN Ow)/\Q (iN (i+1)) (iN c5)/\Er gb v1/\Qr gt (bz n a8 zs ix y.na y.re y.kn y.gr.na y.gr.ru y.gr.wa y.tr (u.set w (⟨(u.getD i j6).ad,(u.getD i j6).tr⟩:w4)) ga oa ca g o c se ls) gt (bz n a8 zs ix y.na y.re y.kn y.gr.na y.gr.ru y.gr.wa y.tr B4 ga oa ca g o c se ls)/\True) (m9 ((i:Int)+1)/\∃ x:Nat×Nat×(List w4),match x with | (Ow,c5,B4)=>(jT n a8 zs se ls gt g o c ix y ga oa ca l gb Ow c5 B4)/\(l.length-c5<l.length-i)/\E (.hd (.key 1000) [2,ix,5] 2 ga oa 0 ((l.map ak).length) ca)/\E v3/\Q (iN w) (iN Ow)/\Q (iN (i+1)) (iN c5)/\Er gb v1/\Qr gt v5 gt (bz n a8 zs ix y.na y.re y.kn y.gr.na y.gr.ru y.gr.wa y.tr B4 ga oa ca g o c se ls)/\True)) (((0:Int)<=(w:Int)/\(w:Int)<=((l.map ak).length:Int)/\((l.map ak).length:Int)<=((l.map ak).length)/\2=2)/\((((63:Nat),(.key 1000:l7),([2,ix,5]:List Nat),2,ga,oa,(0+w),(((l.map ak).length)-w))=((63:Nat),(.key 1000:l7),([2,ix,5]:List Nat),2,ga,oa,w,(l.length-w)))/\(V.at gt 0 v5 [2,ix,5]=some (g,o+(ix)*8+7,.own 2 (u.map ak) ga oa ca))/\(w+(l.length-w)<=(u.map ak).length)/\(V.aG (u.map ak)=false)/\(aL 2 (u.map ak))/\((.agg [sV [],iN 0]:V).n=2))/\∀ _:Unit,(V.set v5 [2,ix,5] (.own 2 ((u.map ak).take w++List.replicate (l.length-w) (.agg [sV [],iN 0]:V)++(u.map ak).drop (w+(l.length-w))) ga oa ca)=bz n a8 zs ix y.na y.re y.kn y.gr.na y.gr.ru y.gr.wa y.tr (u.take w++List.replicate (l.length-w) j6) ga oa ca g o c se ls)/\((0:Int)<=(0:Int)/\(0:Int)<=(w:Int)/\(w:Int)<=((l.map ak).length)/\2=2)/\Q (.hd (.key 1000) [2,ix,5] 2 ga oa (0+((0:Int).toNat)) (w-((0:Int).toNat)) (ca-((0:Int).toNat))) (qt n a8 zs se ls gt g o c ix y ga oa ca l gb)/\Er gb v1/\Qr gt (bz n a8 zs ix y.na y.re y.kn y.gr.na y.gr.ru y.gr.wa y.tr (u.take w++List.replicate (l.length-w) j6) ga oa ca g o c se ls) gt v4)) (bz n a8 zs ix y.na y.re y.kn y.gr.na y.gr.ru y.gr.wa y.tr u ga oa ca g o c se ls)))) (bz n a8 zs ix y.na y.re y.kn y.gr.na y.gr.ru y.gr.wa y.tr (fW y l) ga oa ca g o c se ls)) (.lit (.func (.func 143) #[] #[.pointer (some ⟨gb,0,none⟩)]))) (bz n a8 zs ix y.na y.re y.kn y.gr.na y.gr.ru y.gr.wa y.tr l ga oa ca g o c se ls)) (.ptr (.key 1000) [2,ix] g (o+ix*8))) ?_
 refine⟨rfl,rfl,rfl,⟨hi,hl,hx,hr,Tw⟩,?_⟩
 refine bI (fun j9=>?_) fun j9=>?_
 refine⟨?_,rfl,by rw[JX j9]⟩
 unfold Q qt
 rw[Dh j9,List.length_map]
 refine⟨by have:=xI y l;omega,?_⟩
 refine⟨⟨((J7 y l).toNat,(J7 y l).toNat+1,l),?_,rfl,rfl,by refine congrArg iV ?_;have:=xI y l;omega,by refine congrArg iV ?_;have:=xI y l;omega,rfl,rfl,trivial⟩,?_⟩
 unfold jT
 exact Lj j9
 rintro⟨w,i,u⟩ ⟨h1,h2,h3,h4,h5⟩
 refine bI (fun l6=>?_) fun l6=>?_
 have M4:=hx _ (aw (d:=j6) (show i<l.length by omega))
 have hu:u.getD i j6=l.getD i j6:=qW h5
 refine⟨Z2,(aT (f:=2) rfl).trans (aJ (aK Z9) ((aT (f:=5) rfl).trans (aJ (by rw[Nat.zero_add];exact an (d:=j6) Z9) rfl))),?_⟩
 intro g7
 refine⟨rfl,rfl,rfl,rfl,rfl,⟨hi,by rw[hu];exact M4.1,by rw[hu];exact M4.2,hr,Tw⟩,?_⟩
 refine bI (fun n0=>?_) fun n0=>?_
 refine⟨rfl,Z2,(aT (f:=2) rfl).trans (aJ (aK Z9) ((aT (f:=5) rfl).trans (aJ (by rw[Nat.zero_add];exact an (d:=j6) Z9) rfl))),dH (Ht (aK Z9) (LC (aX (x:=.agg [sV ((u.getD w j6).ad),iV ((u.getD w j6).tr)]) (by rw[Nat.zero_add];exact an (d:=j6) Z9) (by rw[Nat.zero_add];exact(List.map_set (f:=ak) (l:=u) (i:=w) (a:=(⟨(u.getD i j6).ad,(u.getD i j6).tr⟩:w4))).symm))) (cY Z9)),Z9,Z9,?_⟩
 refine⟨(w+1,i+1,u.set w (⟨(u.getD i j6).ad,(u.getD i j6).tr⟩:w4)),?_,?_,rfl,rfl,rfl,rfl,rfl,rfl,trivial⟩
 unfold jT
 first | exact Ke (by simpa using l6) h1 h3 h4 h5 (by simpa using n0) | exact JE (by simpa using l6) h1 h3 h4 h5 (by simpa using n0)
 exact Z1
 refine⟨Z9,?_⟩
 refine⟨(w,i+1,u),?_,?_,rfl,rfl,rfl,rfl,rfl,rfl,trivial⟩
 unfold jT
 first | exact Ke (by simpa using l6) h1 h3 h4 h5 (by simpa using n0) | exact JE (by simpa using l6) h1 h3 h4 h5 (by simpa using n0)
 exact Z1
 refine⟨⟨Z9,by simp only[List.length_map];omega,Z9,rfl⟩,⟨Z8,(aT (f:=2) rfl).trans (aJ (aK Z9) rfl),by simp only[List.length_map];omega,cM (f:=ak) (fun _=>rfl) _,ee (f:=ak) (fun _=>rfl) _,rfl⟩,?_⟩
 intro _
 refine⟨(congrArg (fun r:V=>V.set (.agg [sV n,iV a8,.own 8 ((zs.take ix).map aE++(.agg [sV y.na,iV y.re,bV y.kn,.agg [.sl false (y.gr.na.map sV),.sl false (y.gr.ru.map au),iN y.gr.wa],iV y.tr,.own 2 (u.map ak) ga oa ca]:V)::(zs.drop (ix+1)).map aE) g o c,.ow 1 (se.map sV),.ow 3 (ls.map ba)]) [2,ix,5] r) (congrArg (V.own 2 · ga oa ca) (Jb h3))).trans (dH (aX (aK Z9) (cY Z9))),⟨Z9,Z9,by simp only[List.length_map];omega,rfl⟩,?_⟩
 refine⟨?_,rfl,by rw[JV (by simpa using l6) h1 h2 h3 h4]⟩
 unfold Q qt
 rw[Ki (by simpa using l6) h1 h2 h3 h4];rfl)
def CO(n:BL)(a8:Int)(zs:List k9)(se:List BL)(ls:List l8)(gt:Nat)(g:Nat)(o:Nat)(c:Nat)(ix:Nat)(y:k9)(ga:Nat)(oa:Nat)(ca:Nat)(l:List w4):o8 Tryz.prog:=.mk 144 [.hd (.key 1000) [2,ix,5] 2 ga oa 0 ((l.map ak).length) ca,iV 0,iV 1] [(1000,(gt,bz n a8 zs ix y.na y.re y.kn y.gr.na y.gr.ru y.gr.wa y.tr l ga oa ca g o c se ls))] ((ix<zs.length)/\(0<l.length/\l.length<=1000)) (.hd (.key 1000) [2,ix,5] 2 ga oa 0 (l.length-1) ca) [(1000,(gt,bz n a8 zs ix y.na y.re y.kn y.gr.na y.gr.ru y.gr.wa y.tr (l.drop 1++[j6]) ga oa ca g o c se ls))] (by
 rintro⟨hi,hl⟩
 refine az (N:=33) (rs:=[.tmp 6]) Tryz.func144
  (.q 1<|.q 5<|.cu (sdC ((l.map ak).length) (0:Int) (1:Int) (((l.map ak).length:Nat):Int)) (fun _=>.q 3<|.br (.nil) (.q 3<|.dx 6 [0,1,2,3,4,5] [] []<|.q 1<|.q 1<|.q 1<|.q 1<|.q 1<|.q 1<|.cu (saC 1000 [2,ix,5] 1 (l.length-1) 2 (l.map ak) ga oa ca g (o+(ix)*8+7)) (fun _=>.h (.A6 1000 (bz n a8 zs ix y.na y.re y.kn y.gr.na y.gr.ru y.gr.wa y.tr (l.drop 1++l.drop (l.length-1)) ga oa ca g o c se ls))<|.q 1<|.q 4<|.cu (sbC 1000 [2,ix,5] 2 ((l.drop 1++l.drop (l.length-1)).map ak) ga oa ca (l.length-1) g (o+(ix)*8+7) (l.length-1) ((l.map ak).length)) (fun _=>.cu (XY 1000 [2,ix,5] (l.length-1) 1 2 ((l.drop 1++l.drop (l.length-1)).map ak) ga oa ca g (o+(ix)*8+7) sL) (fun _=>.h (.A6 1000 (bz n a8 zs ix y.na y.re y.kn y.gr.na y.gr.ru y.gr.wa y.tr (l.drop 1++[j6]) ga oa ca g o c se ls))<|.q 2<|.nil))))))
  ((fun v1:V=>(fun v2:V=>(fun v3:Int=>((((iV 0):V)=.lit (.int .i64 (0:Int))/\((iV 1):V)=.lit (.int .i64 (1:Int))/\((iN ((l.map ak).length)):V)=.lit (.int .i64 v3)/\((l.map ak).length)=((l.map ak).length)/\(0:Int)<=(0:Int)/\(0:Int)<=(1:Int)/\(1:Int)<=v3/\v3<=((l.map ak).length))/\∀ _:Unit,Br (o6 0 1) (False) (((0:Int)<=(0:Int)/\(0:Int)<=(0:Int)/\(0:Int)<=((l.map ak).length)/\2=2)/\((0:Int)<=(1:Int)/\(1:Int)<=((l.map ak).length:Int)/\((l.map ak).length:Int)<=((l.map ak).length)/\2=2)/\((((.key 1000:l7),([2,ix,5]:List Nat),2,ga,oa,(0+(Int.toNat 1)),(((l.map ak).length)-(Int.toNat 1)))=((.key 1000:l7),([2,ix,5]:List Nat),2,ga,oa,1,(l.length-1)))/\((.hd (.key 1000) [2,ix,5] 2 ga oa (0+((0:Int).toNat)) ((Int.toNat 0)-((0:Int).toNat)) (ca-((0:Int).toNat)):V)=.hd (.key 1000) [2,ix,5] 2 ga oa 0 0 ca)/\(V.at gt 0 v2 [2,ix,5]=some (g,o+(ix)*8+7,.own 2 (l.map ak) ga oa ca))/\((2:Nat)=2)/\(0<(l.map ak).length)/\(1+(l.length-1)<=(l.map ak).length)/\(V.aG (l.map ak)=false)/\(aL 2 (l.map ak))/\(ca-(Int.toNat 1))=(ca-(Int.toNat 1)))/\∀ _:Unit,(V.set v2 [2,ix,5] (.own 2 (((l.map ak).drop 1).take (l.length-1)++(l.map ak).drop (l.length-1)) ga oa ca)=bz n a8 zs ix y.na y.re y.kn y.gr.na y.gr.ru y.gr.wa y.tr (l.drop 1++l.drop (l.length-1)) ga oa ca g o c se ls)/\(((.hd (.key 1000) [2,ix,5] 2 ga oa 0 (l.length-1) ca):V)=.hd (.key 1000) [2,ix,5] 2 ga oa 0 (l.length-1) ca/\(V.at gt 0 v1 [2,ix,5]=some (g,o+(ix)*8+7,.own 2 ((l.drop 1++l.drop (l.length-1)).map ak) ga oa ca))/\((iN (l.length-1)):V)=.lit (.int .i64 (((l.length-1):Nat):Int))/\((iN ((l.map ak).length)):V)=.lit (.int .i64 ((((l.map ak).length):Nat):Int))/\((2:Nat)=2)/\(l.length-1)<=((l.map ak).length)/\((l.map ak).length)<=((l.drop 1++l.drop (l.length-1)).map ak).length)/\∀ _:Unit,((((63:Nat),(.key 1000:l7),([2,ix,5]:List Nat),2,ga,oa,(l.length-1),(((l.map ak).length)-(l.length-1)))=((63:Nat),(.key 1000:l7),([2,ix,5]:List Nat),2,ga,oa,(l.length-1),1))/\(V.at gt 0 v1 [2,ix,5]=some (g,o+(ix)*8+7,.own 2 ((l.drop 1++l.drop (l.length-1)).map ak) ga oa ca))/\((l.length-1)+1<=((l.drop 1++l.drop (l.length-1)).map ak).length)/\(V.aG ((l.drop 1++l.drop (l.length-1)).map ak)=false)/\(aL 2 ((l.drop 1++l.drop (l.length-1)).map ak))/\((.agg [sV [],iN 0]:V).n=2))/\∀ _:Unit,(V.set v1 [2,ix,5] (.own 2 (((l.drop 1++l.drop (l.length-1)).map ak).take (l.length-1)++List.replicate 1 (.agg [sV [],iN 0]:V)++((l.drop 1++l.drop (l.length-1)).map ak).drop ((l.length-1)+1)) ga oa ca)=bz n a8 zs ix y.na y.re y.kn y.gr.na y.gr.ru y.gr.wa y.tr (l.drop 1++[j6]) ga oa ca g o c se ls)/\Q (.hd (.key 1000) [2,ix,5] 2 ga oa 0 (l.length-1) ca) (.hd (.key 1000) [2,ix,5] 2 ga oa 0 (l.length-1) ca)/\Er gt (bz n a8 zs ix y.na y.re y.kn y.gr.na y.gr.ru y.gr.wa y.tr (l.drop 1++[j6]) ga oa ca g o c se ls)))) (((l.map ak).length:Nat):Int)) (bz n a8 zs ix y.na y.re y.kn y.gr.na y.gr.ru y.gr.wa y.tr l ga oa ca g o c se ls)) (bz n a8 zs ix y.na y.re y.kn y.gr.na y.gr.ru y.gr.wa y.tr (l.drop 1++l.drop (l.length-1)) ga oa ca g o c se ls)) ?_
 refine⟨⟨rfl,rfl,rfl,rfl,Z9,Z9,by(try simp only[List.length_map]);omega,by(try simp only[List.length_map]);omega⟩,?_⟩
 intro _
 refine bI (fun j9=>?_) fun j9=>?_
 exact absurd j9 Z6
 refine⟨⟨Z9,Z9,Z9,rfl⟩,⟨Z9,by simp only[List.length_map];omega,Z9,rfl⟩,⟨Z8,rfl,(aT (f:=2) rfl).trans (aJ (aK Z9) rfl),rfl,Z0,Z0,cM (f:=ak) (fun _=>rfl) _,ee (f:=ak) (fun _=>rfl) _,rfl⟩,?_⟩
 intro _
 refine⟨(congrArg (fun r:V=>V.set (.agg [sV n,iV a8,.own 8 ((zs.take ix).map aE++(.agg [sV y.na,iV y.re,bV y.kn,.agg [.sl false (y.gr.na.map sV),.sl false (y.gr.ru.map au),iN y.gr.wa],iV y.tr,.own 2 (l.map ak) ga oa ca]:V)::(zs.drop (ix+1)).map aE) g o c,.ow 1 (se.map sV),.ow 3 (ls.map ba)]) [2,ix,5] r) (congrArg (V.own 2 · ga oa ca) (Lh))).trans (dH (aX (aK Z9) (cY Z9))),⟨rfl,(aT (f:=2) rfl).trans (aJ (aK Z9) rfl),rfl,Z8,rfl,Z8,by simp <;> omega⟩,?_⟩
 intro _
 refine⟨⟨Z0,(aT (f:=2) rfl).trans (aJ (aK Z9) rfl),Z0,cM (f:=ak) (fun _=>rfl) _,ee (f:=ak) (fun _=>rfl) _,rfl⟩,?_⟩
 intro _
 refine⟨(congrArg (fun r:V=>V.set (.agg [sV n,iV a8,.own 8 ((zs.take ix).map aE++(.agg [sV y.na,iV y.re,bV y.kn,.agg [.sl false (y.gr.na.map sV),.sl false (y.gr.ru.map au),iN y.gr.wa],iV y.tr,.own 2 ((l.drop 1++l.drop (l.length-1)).map ak) ga oa ca]:V)::(zs.drop (ix+1)).map aE) g o c,.ow 1 (se.map sV),.ow 3 (ls.map ba)]) [2,ix,5] r) (congrArg (V.own 2 · ga oa ca) (Kj Z9))).trans (dH (aX (aK Z9) (cY Z9))),?_⟩
 refine⟨?_,rfl⟩
 unfold Q
 rfl)
end Go.Proofs.YtbjbamjffkanbaaGreatDoor
namespace Go.Abs
open Go Go.RowKit
section
variable {P:Program} {N:Nat} {A A' B:AS}
theorem Ie{o:Oper}{K K':AS->Prop}(h:D' P N o A K)(hK:∀ B,K B->∃ B',C6 B B'/\K' B'):D' P N o A K':=
 fun Pb Kb a w F Q hs=>Oper.wp_mono (fun a' w' ⟨B,Pb',C9,F',hk,x8,h1⟩=>by
  obtain⟨B',e,E2⟩:=hK B hk
  exact⟨B',Pb',C9,F',E2,x8.eqv e,h1⟩) (h Pb Kb a w F Q hs)
def vm(A:AS)(ρ:l7->l7)(H:List (Nat×(Nat×V)))(q gq:Nat)(vq:V):List (Nat×Nat)->Prop
 | []=>True
 | (k,q')::r=>(match lk k H with
    | some (g,v)=>(match q'==q with
      | true=>(g,v.Ns ρ)=(gq,vq)
      | false=>(match lk q' A.h with
        | some (g2,v2)=>(g,v.Ns ρ)=(g2,v2)
        | none=>False))
    | none=>False)/\vm A ρ H q gq vq r
theorem wZ{ρ:l7->l7}{H:List (Nat×(Nat×V))}{q gq:Nat}{vq:V}:∀ {ks:List (Nat×Nat)} {k q':Nat},vm A ρ H q gq vq ks->(k,q')∈ks->(lk k H).map (fun gv=>(gv.1,gv.2.Ns ρ))=if q'=q then some (gq,vq) else lk q' A.h
 | [],_,_,_,h=>by simp at h
 | (k0,q0)::ks,k,q',h,hm=>by
   rcases List.mem_cons.1 hm with e | hm
   cases e
   have h1:=h.1
   split at h1
   rename_i g v hk
   rw[hk]
   split at h1
   rename_i e
   rw[if_pos (by simpa using e)]
   simp only[Option.map_some,Option.some.injEq]
   exact h1
   rename_i e
   rw[if_neg (by simpa using e)]
   split at h1
   rename_i g2 v2 e2
   rw[e2]
   simp only[Option.map_some,Option.some.injEq]
   exact h1
   exact h1.elim
   exact h1.elim
   exact wZ h.2 hm
theorem FO{H:List (Nat×(Nat×V))}{q gq:Nat}{vq:V}{ks:List (Nat×Nat)}(h1:Mf (ks.map (·.1))=true)(hn:Mf (ks.map (·.2))=true)(h:vm A (kA ks) H q gq vq ks)(hq:q∈ks.map (·.2))(k:Nat):
 lk k (A.back ks H).h=if k=q then some (gq,vq) else lk k A.h:=by
 by_cases hk:k∈ks.map (·.2)
 obtain⟨⟨k0,q0⟩,hm,rfl⟩:=List.mem_map.1 hk
 have hs:lk q0 (Nr ks)=some k0:=(ox h1 hn).1 (nD h1 hm)
 have:=wZ h hm
 simp only[AS.back]
 rw[kY,oS hn,hs]
 simp only[Option.bind_some]
 rw[this]
 split
 rename_i v e;rw[<- e]
 rename_i e
 split at e
 cases e
 rename_i hne
 rw[il,hs,if_neg hne,e];rfl
 rw[Ap hn hk,if_neg (by rintro rfl;exact hk hq)]
def WU(c:o8 P)(ks:List (Nat×Nat))(q gq:Nat)(vq:V):Eu P where
 X:=Unit
 pre N o A Sl Hl:=match o.op,o.dst with
  | .call ⟨.value fx,xs,_⟩,some d=>match A.ev fx,A.tk xs.toList with
    | .lit (.func (.func f) first w9),(vs,_)=>match f==c.f&&Nat.blt d N&&Mf (ks.map (·.1))&&Mf (ks.map (·.2))&&c.args.length==(first.toList.map cV++vs++w9.toList.map cV).length&&(eQ A xs.toList).isEmpty&&Sl.contains d&&Hl.contains q&&(ks.map (·.2)).contains q with
      | true=>Mt (first.toList.map cV++vs++w9.toList.map cV) c.args=c.args/\mM A ks c.H (c.pre/\vm A (kA ks) c.H' q gq vq ks)
      | false=>False
    | _,_=>False
  | _,_=>False
 U o _ _ B:=⟨(B.put o.dst (c.res.Ns (kA ks))).t,(q,(gq,vq))::B.h⟩
 T5:=by
  rintro N ⟨dst,op,ty,pos,after,C7⟩ A Sl Hl hp fs
  simp only at hp
  split at hp
  rename_i fx xs J9 d
  split at hp
  rename_i f first w9 vs A2 e1 e2
  split at hp
  rename_i e3
  simp only[Bool.and_eq_true,List.contains_eq_mem,decide_eq_true_eq]at e3
  have hd:d∈Sl:=e3.1.1.2
  have hq:q∈Hl:=e3.1.2
  refine⟨fun g B t ht=>?_,fun g B k hk=>?_,fun g B B' hB=>?_,fun g B q2 v' hq2 _=>?_,fun g B k gv hk=>?_⟩
  show (B.put (some d) _).get t=_
  rw[AS.aC,if_neg (fun c=>ht (by rw[c];exact hd))]
  simp only[lk]
  rw[if_neg (fun c=>hk (by rw[c];exact hq))]
  refine⟨fun t=>?_,fun k=>?_⟩
  show (B.put (some d) _).get t=(B'.put (some d) _).get t
  rw[AS.aC,AS.aC,hB.1 t]
  simp only[lk,hB.2 k]
  refine⟨fun t=>?_,fun k=>rfl⟩
  show ((B.put (some q2) v').put (some d) _).get t=((B.put (some d) _).put (some q2) v').get t
  rw[AS.aC,AS.aC,AS.aC,AS.aC]
  by_cases c:t=d
  subst c;rw[if_pos rfl,if_neg (fun c=>hq2 (by rw[<- c];exact hd)),if_pos rfl]
  rw[if_neg c,if_neg c]
  refine⟨fun _=>rfl,fun k2=>?_⟩
  simp only[lk]
  by_cases c:k2=q
  subst c;rw[if_pos rfl,if_neg (fun c=>hk (by rw[<- c];exact hq)),if_pos rfl]
  rw[if_neg c,if_neg c]
  exact hp.elim
  exact hp.elim
  exact hp.elim
 ok:=by
  rintro N ⟨dst,op,ty,pos,after,C7⟩ A A' Sl Hl hg hp hA hR
  simp only at hg
  subst hg
  simp only at hp
  split at hp
  rename_i fx xs J9 d
  split at hp
  rename_i f first w9 vs A2 e1 e2
  split at hp
  rename_i e3
  simp only[Bool.and_eq_true,List.contains_eq_mem,decide_eq_true_eq,beq_iff_eq,List.isEmpty_iff]at e3
  obtain⟨⟨⟨⟨⟨⟨⟨⟨rfl,Q7⟩,k1⟩,k2⟩,hlen⟩,H9⟩,hd⟩,hq⟩,hqk⟩:=e3
  obtain⟨hargs,hrj⟩:=hp
  obtain⟨OD,Qg,UN⟩:=iZ hrj
  have S9:A'.ev fx=A.ev fx:=bw fun t ht=>hA t (by subst ht;simp[Op.operands,Call.operands])
  obtain⟨t1,t2⟩:=tc xs.toList (A:=A) (A':=A') fun t ht=>hA t (by simp only[Op.operands,Call.operands];simp;right;simpa using ht)
  have RT:=tB xs.toList (A:=A')
  rw[t2,H9]at RT
  have TN:(A.tk xs.toList).1=vs:=by rw[e2]
  refine Ie (nB (A:=A') (K:=fun B=>B=((A'.tk xs.toList).2.back ks c.H').put (some d) (c.res.Ns (kA ks))) ks rfl (by rw[S9];exact e1) (bD Q7) k1 k2 (c.ok Qg) (by rw[t1,TN];exact hargs) (by rw[t1,TN];exact hlen)
   (lX (fun k _=>(RT.2 k).trans (hR k)) OD) ?_) ?_
  rintro r H0 ⟨rfl,rfl⟩;rfl
  rintro B rfl
  refine⟨_,⟨fun t=>?_,fun k=>?_⟩,(),rfl⟩
  show (AS.put _ (some d) _).get t=(A'.put (some d) _).get t
  rw[AS.aC,AS.aC]
  split
  rfl
  exact RT.1 t
  show lk k ((A'.tk xs.toList).2.back ks c.H').h=lk k ((q,(gq,vq))::A'.h)
  rw[ph (B:=A) (fun k=>(RT.2 k).trans (hR k)),FO k1 k2 UN hqk]
  simp only[lk,hR k]
  exact hp.elim
  exact hp.elim
  exact hp.elim
end
end Go.Abs
namespace Go.Proofs.YtbjbamjffkanbaaGreatDoor
open Go Go.Abs Go.RowKit Go.Pd
set_option maxRecDepth 20000
abbrev rM(p0:BL)(p1:Int)(p2:List k9)(p3:Nat)(p4:BL)(p5:Int)(p6:V)(p7:List o9)(p8:Nat)(p9:Int)(Pa:List w4)(PV:Nat)(PU:Nat)(PT:Nat)(PS:List BL)(PR:List l8):V:=.agg [sV p0,iV p1,.own 8 ((p2.take p3).map aE++(.agg [sV p4,iV p5,bV true,.agg [ p6,.sl false (p7.map au),iN p8],iV p9,.ow 2 (Pa.map ak)]:V)::(p2.drop (p3+1)).map aE) PV PU PT,.ow 1 (PS.map sV),.ow 3 (PR.map ba)]
abbrev Cd(p0:BL)(p1:Int)(p2:List k9)(p3:Nat)(p4:BL)(p5:Int)(p6:List BL)(p7:List o9)(p8:Nat)(p9:Int)(Pa:List w4)(PV:Nat)(PU:Nat)(PT:Nat)(PS:List BL)(PR:List l8):V:=.agg [sV p0,iV p1,.own 8 ((p2.take p3).map aE++(.agg [sV p4,iV p5,bV true,.agg [.sl false (p6.map sV),.sl false (p7.map au),iN p8],iV p9,.ow 2 (Pa.map ak)]:V)::(p2.drop (p3+1)).map aE) PV PU PT,.ow 1 (PS.map sV),.ow 3 (PR.map ba)]
theorem Eh{y:k9}{l:List w4}:((fW y l).map ak).take (l.filter (Mg y)).length=(l.filter (Mg y)).map ak:=by
 unfold fW;rw[<- List.map_take,List.take_left'];rfl
theorem FP{y:k9}{l:List w4}:(fW y l).length=l.length:=by
 have:=List.length_filter_le (Mg y) l
 unfold fW;simp;omega
theorem Dy{α:Type}{l:List α}{f:α->V}{a:α}{i:Nat}(h:i<l.length):(l.set i a).map f=(l.take i).map f++f a::(l.drop (i+1)).map f:=(lE (f:=f) (x:=a) h).symm
theorem KT{w:List Pg}{n:BL}{y:k9}{a8:Int}(h:(ab w (ae y.na) y.tr).1=3/\y.tr+1<3):Ml w n y a8={ n9 w y a8 with tr:=y.tr+1 }:=if_pos h
theorem KO{w:List Pg}{n:BL}{y:k9}{a8:Int}(h:(ab w (ae y.na) y.tr).1=3->3<=y.tr+1):Ml w n y a8={ n9 w y a8 with kn:=true,gr:=bg w n y.na,re:=max (n9 w y a8).re (a8+((bg w n y.na).wa:Int)),td:=y.td.filter (MP (bg w n y.na).ru) }:=if_neg fun c=>by have:=h c.1;omega
def yE(n:BL)(a8:Int)(zs:List k9)(se:List BL)(ls:List l8)(gt:Nat)(g:Nat)(o:Nat)(c:Nat)(gw:Nat)(ix:Nat)(w:List Pg):o8 Tryz.prog:=.mk 112 [.ptr (.key 1001) [] gw 0,.ptr (.key 1000) [2,ix] g (o+ix*8)] [(1001,(gw,.agg [.mp (w.map E7),.ptr (.key 1000) [] gt 0])),(1000,(gt,bH n a8 zs g o c se ls))] ((ix<zs.length)/\(ls.length<=1000)/\(0<=a8/\a8<=100000)/\(HS 60 (zs.getD ix b7))/\(∀ i,m8 (w.getD i l5))) (.tup []) [(1001,(gw,.agg [.mp (w.map E7),.ptr (.key 1000) [] gt 0])),(1000,(gt,bH n a8 (zs.set ix (Ml w n (zs.getD ix b7) a8)) g o c se (ls++[(⟨a8,ae (zs.getD ix b7).na,(ab w (ae (zs.getD ix b7).na) (zs.getD ix b7).tr).1⟩:l8)])))] (by
 rintro⟨hi,hl,hn,hy,hz⟩
 generalize WI:zs.getD ix b7=y
 refine az (N:=89) (rs:=[]) Tryz.func112
  (.bx (fun g3=>.r 5 [.c9]<|.dx 16 [0,1,2,3,4,5,6,7,8,9,10,11,12,13,14,15] [(1,⟨false,[],some [3],[13],[]⟩),(2,⟨false,[],some [3],[14],[]⟩),(5,⟨false,[],some [1000],[17],[]⟩),(7,⟨false,[],some [3],[19],[]⟩),(10,⟨false,[],some [1000],[22],[]⟩),(11,⟨true,[],some [1000,1001],[23],[1000,1001]⟩)] []<|.q 1<|.r 1 [.c9]<|.r 1 [.c9]<|.q 1<|.q 1<|.r 1 [sV (y.na)]<|.c (ky (y.na)) []<|.r 1 [.c9]<|.q 1<|.q 1<|.r 1 [iV (y.tr)]<|.c (yD n a8 zs se ls gt g o c gw ix w (ae (y.na)) (y.tr) y) [(1001,1001),(1000,1000)]<|.q 1<|.q 1<|.q 1<|.q 1<|.q 1<|.h (.A6 1000 (cU n a8 zs ix (y.na) ((n9 w y a8).re) (y.kn) (y.gr.na) (y.gr.ru) (y.gr.wa) (y.tr) (y.td) g o c se (ls++[(⟨a8,(ae (y.na)),(ab w (ae (y.na)) (y.tr)).1⟩:l8)])))<|.r 10 [.c9,iV (y.tr)]<|.br (.r 7 [.c9,iV (y.tr)]<|.st (some (iV (y.tr)))<|.h (.A6 1000 (cU n a8 zs ix (y.na) ((n9 w y a8).re) (y.kn) (y.gr.na) (y.gr.ru) (y.gr.wa) ((y.tr)+1) (y.td) g o c se (ls++[(⟨a8,(ae (y.na)),(ab w (ae (y.na)) (y.tr)).1⟩:l8)])))<|.h (.A6 1000 (bH n a8 (zs.set ix ({ n9 w y a8 with tr:=y.tr+1 }:k9)) g o c se (ls++[(⟨a8,(ae (y.na)),(ab w (ae (y.na)) (y.tr)).1⟩:l8)])))<|.nil) (.r 3 [.c9]<|.st (some (bV (y.kn)))<|.h (.A6 1000 (Cd n a8 zs ix (y.na) ((n9 w y a8).re) (y.gr.na) (y.gr.ru) (y.gr.wa) (y.tr) (y.td) g o c se (ls++[(⟨a8,(ae (y.na)),(ab w (ae (y.na)) (y.tr)).1⟩:l8)])))<|.dx 14 [0,1,2,3,4,5,6,7,8,9,10,11,12,13] [(0,⟨false,[],some [3],[46],[]⟩),(4,⟨false,[],some [1001],[50],[]⟩),(5,⟨false,[],some [3],[51],[]⟩),(8,⟨false,[],some [1000],[54],[]⟩),(12,⟨false,[],some [1000],[58],[]⟩)] []<|.r 1 [.c9]<|.q 1<|.q 1<|.q 1<|.r 1 [.c9]<|.r 1 [.c9]<|.q 1<|.q 1<|.r 1 [sV (y.na)]<|.q 1<|.q 1<|.q 1<|.r 1 [.c9]<|.c (ka w (y.na) n) []<|.q 2<|.st (some (dP (y.gr.na) (y.gr.ru) (y.gr.wa)))<|.h (.A6 1000 (rM n a8 zs ix (y.na) ((n9 w y a8).re) (.sl false ([n].map sV)) ((ah (ab w (ae (y.na)) 2).1 (ab w (ae (y.na)) 2).2 n).ru) ((ah (ab w (ae (y.na)) 2).1 (ab w (ae (y.na)) 2).2 n).wa) (y.tr) (y.td) g o c se (ls++[(⟨a8,(ae (y.na)),(ab w (ae (y.na)) (y.tr)).1⟩:l8)])))<|.dx 16 [0,1,2,3,4,5,6,7,8,9,10,11,12,13,14,15] [(0,⟨false,[],some [3],[62],[]⟩),(1,⟨false,[],some [3],[63],[]⟩),(4,⟨false,[],some [1000],[66],[]⟩),(8,⟨false,[],some [1000],[70],[]⟩),(9,⟨false,[],some [3],[71],[]⟩),(13,⟨false,[],some [1000],[75],[]⟩)] []<|.r 1 [.c9]<|.r 1 [.c9]<|.q 1<|.q 1<|.r 1 [iV ((n9 w y a8).re)]<|.q 1<|.q 1<|.q 1<|.r 1 [.c9]<|.r 1 [.c9]<|.q 1<|.q 1<|.q 1<|.r 1 [iN ((ah (ab w (ae (y.na)) 2).1 (ab w (ae (y.na)) 2).2 n).wa)]<|.q 1<|.mm<|.q 2<|.st (some (iV ((n9 w y a8).re)))<|.h (.A6 1000 (rM n a8 zs ix (y.na) (max ((n9 w y a8).re) (a8+(((ah (ab w (ae (y.na)) 2).1 (ab w (ae (y.na)) 2).2 n).wa:Nat):Int))) (.sl false ([n].map sV)) ((ah (ab w (ae (y.na)) 2).1 (ab w (ae (y.na)) 2).2 n).ru) ((ah (ab w (ae (y.na)) 2).1 (ab w (ae (y.na)) 2).2 n).wa) (y.tr) (y.td) g o c se (ls++[(⟨a8,(ae (y.na)),(ab w (ae (y.na)) (y.tr)).1⟩:l8)])))<|.Pv (.key 1000) [2,ix,5] g (o+(ix)*8+7) 2 ((y.td).map ak) (fun ga oa ca=>.h (.A6 1000 (.agg [sV n,iV a8,.own 8 ((zs.take ix).map aE++(.agg [sV (y.na),iV (max ((n9 w y a8).re) (a8+(((ah (ab w (ae (y.na)) 2).1 (ab w (ae (y.na)) 2).2 n).wa:Nat):Int))),bV true,iX (.sl false ([n].map sV)) ((ah (ab w (ae (y.na)) 2).1 (ab w (ae (y.na)) 2).2 n).ru) ((ah (ab w (ae (y.na)) 2).1 (ab w (ae (y.na)) 2).2 n).wa),iV (y.tr),.own 2 ((y.td).map ak) ga oa ca]:V)::(zs.drop (ix+1)).map aE) g o c,.ow 1 (se.map sV),.ow 3 ((ls++[(⟨a8,(ae (y.na)),(ab w (ae (y.na)) (y.tr)).1⟩:l8)]).map ba)]))<|.dx 7 [0,1,2,3,4,5,6] [(0,⟨false,[],some [3],[80],[]⟩),(1,⟨false,[],some [3],[81],[]⟩),(4,⟨false,[],some [1000],[84],[]⟩),(5,⟨true,[],none,[85],[]⟩),(6,⟨true,[],none,[86],[1000]⟩)] []<|.r 1 [.c9]<|.r 1 [.c9]<|.q 1<|.q 1<|.r 1 [.own 2 ((y.td).map ak) ga oa ca]<|.eu mfE (fun _=>.eu (WU (Df n a8 zs se (ls++[(⟨a8,(ae (y.na)),(ab w (ae (y.na)) (y.tr)).1⟩:l8)]) gt g o c ix (⟨y.na,max ((n9 w y a8).re) (a8+(((ah (ab w (ae (y.na)) 2).1 (ab w (ae (y.na)) 2).2 n).wa:Nat):Int)),true,⟨[n],(ah (ab w (ae (y.na)) 2).1 (ab w (ae (y.na)) 2).2 n).ru,(ah (ab w (ae (y.na)) 2).1 (ab w (ae (y.na)) 2).2 n).wa⟩,y.tr,[]⟩:k9) ga oa ca (y.td) g3) [(1002,3),(1000,1000)] 1000 gt (bz n a8 zs ix ((⟨y.na,max ((n9 w y a8).re) (a8+(((ah (ab w (ae (y.na)) 2).1 (ab w (ae (y.na)) 2).2 n).wa:Nat):Int)),true,⟨[n],(ah (ab w (ae (y.na)) 2).1 (ab w (ae (y.na)) 2).2 n).ru,(ah (ab w (ae (y.na)) 2).1 (ab w (ae (y.na)) 2).2 n).wa⟩,y.tr,[]⟩:k9).na) ((⟨y.na,max ((n9 w y a8).re) (a8+(((ah (ab w (ae (y.na)) 2).1 (ab w (ae (y.na)) 2).2 n).wa:Nat):Int)),true,⟨[n],(ah (ab w (ae (y.na)) 2).1 (ab w (ae (y.na)) 2).2 n).ru,(ah (ab w (ae (y.na)) 2).1 (ab w (ae (y.na)) 2).2 n).wa⟩,y.tr,[]⟩:k9).re) ((⟨y.na,max ((n9 w y a8).re) (a8+(((ah (ab w (ae (y.na)) 2).1 (ab w (ae (y.na)) 2).2 n).wa:Nat):Int)),true,⟨[n],(ah (ab w (ae (y.na)) 2).1 (ab w (ae (y.na)) 2).2 n).ru,(ah (ab w (ae (y.na)) 2).1 (ab w (ae (y.na)) 2).2 n).wa⟩,y.tr,[]⟩:k9).kn) ((⟨y.na,max ((n9 w y a8).re) (a8+(((ah (ab w (ae (y.na)) 2).1 (ab w (ae (y.na)) 2).2 n).wa:Nat):Int)),true,⟨[n],(ah (ab w (ae (y.na)) 2).1 (ab w (ae (y.na)) 2).2 n).ru,(ah (ab w (ae (y.na)) 2).1 (ab w (ae (y.na)) 2).2 n).wa⟩,y.tr,[]⟩:k9).gr.na) ((⟨y.na,max ((n9 w y a8).re) (a8+(((ah (ab w (ae (y.na)) 2).1 (ab w (ae (y.na)) 2).2 n).wa:Nat):Int)),true,⟨[n],(ah (ab w (ae (y.na)) 2).1 (ab w (ae (y.na)) 2).2 n).ru,(ah (ab w (ae (y.na)) 2).1 (ab w (ae (y.na)) 2).2 n).wa⟩,y.tr,[]⟩:k9).gr.ru) ((⟨y.na,max ((n9 w y a8).re) (a8+(((ah (ab w (ae (y.na)) 2).1 (ab w (ae (y.na)) 2).2 n).wa:Nat):Int)),true,⟨[n],(ah (ab w (ae (y.na)) 2).1 (ab w (ae (y.na)) 2).2 n).ru,(ah (ab w (ae (y.na)) 2).1 (ab w (ae (y.na)) 2).2 n).wa⟩,y.tr,[]⟩:k9).gr.wa) ((⟨y.na,max ((n9 w y a8).re) (a8+(((ah (ab w (ae (y.na)) 2).1 (ab w (ae (y.na)) 2).2 n).wa:Nat):Int)),true,⟨[n],(ah (ab w (ae (y.na)) 2).1 (ab w (ae (y.na)) 2).2 n).ru,(ah (ab w (ae (y.na)) 2).1 (ab w (ae (y.na)) 2).2 n).wa⟩,y.tr,[]⟩:k9).tr) (fW (⟨y.na,max ((n9 w y a8).re) (a8+(((ah (ab w (ae (y.na)) 2).1 (ab w (ae (y.na)) 2).2 n).wa:Nat):Int)),true,⟨[n],(ah (ab w (ae (y.na)) 2).1 (ab w (ae (y.na)) 2).2 n).ru,(ah (ab w (ae (y.na)) 2).1 (ab w (ae (y.na)) 2).2 n).wa⟩,y.tr,[]⟩:k9) (y.td)) ga oa ca g o c se (ls++[(⟨a8,(ae (y.na)),(ab w (ae (y.na)) (y.tr)).1⟩:l8)]))) (fun _=>.q 2<|.cu (W9 1000 [2,ix,5] (((y.td).filter (Mg (⟨y.na,max ((n9 w y a8).re) (a8+(((ah (ab w (ae (y.na)) 2).1 (ab w (ae (y.na)) 2).2 n).wa:Nat):Int)),true,⟨[n],(ah (ab w (ae (y.na)) 2).1 (ab w (ae (y.na)) 2).2 n).ru,(ah (ab w (ae (y.na)) 2).1 (ab w (ae (y.na)) 2).2 n).wa⟩,y.tr,[]⟩:k9))).length) 2 ((fW (⟨y.na,max ((n9 w y a8).re) (a8+(((ah (ab w (ae (y.na)) 2).1 (ab w (ae (y.na)) 2).2 n).wa:Nat):Int)),true,⟨[n],(ah (ab w (ae (y.na)) 2).1 (ab w (ae (y.na)) 2).2 n).ru,(ah (ab w (ae (y.na)) 2).1 (ab w (ae (y.na)) 2).2 n).wa⟩,y.tr,[]⟩:k9) (y.td)).map ak) ga oa ca g (o+(ix)*8+7)) (fun _=>.h (.A6 1000 (bz n a8 zs ix ((⟨y.na,max ((n9 w y a8).re) (a8+(((ah (ab w (ae (y.na)) 2).1 (ab w (ae (y.na)) 2).2 n).wa:Nat):Int)),true,⟨[n],(ah (ab w (ae (y.na)) 2).1 (ab w (ae (y.na)) 2).2 n).ru,(ah (ab w (ae (y.na)) 2).1 (ab w (ae (y.na)) 2).2 n).wa⟩,y.tr,[]⟩:k9).na) ((⟨y.na,max ((n9 w y a8).re) (a8+(((ah (ab w (ae (y.na)) 2).1 (ab w (ae (y.na)) 2).2 n).wa:Nat):Int)),true,⟨[n],(ah (ab w (ae (y.na)) 2).1 (ab w (ae (y.na)) 2).2 n).ru,(ah (ab w (ae (y.na)) 2).1 (ab w (ae (y.na)) 2).2 n).wa⟩,y.tr,[]⟩:k9).re) ((⟨y.na,max ((n9 w y a8).re) (a8+(((ah (ab w (ae (y.na)) 2).1 (ab w (ae (y.na)) 2).2 n).wa:Nat):Int)),true,⟨[n],(ah (ab w (ae (y.na)) 2).1 (ab w (ae (y.na)) 2).2 n).ru,(ah (ab w (ae (y.na)) 2).1 (ab w (ae (y.na)) 2).2 n).wa⟩,y.tr,[]⟩:k9).kn) ((⟨y.na,max ((n9 w y a8).re) (a8+(((ah (ab w (ae (y.na)) 2).1 (ab w (ae (y.na)) 2).2 n).wa:Nat):Int)),true,⟨[n],(ah (ab w (ae (y.na)) 2).1 (ab w (ae (y.na)) 2).2 n).ru,(ah (ab w (ae (y.na)) 2).1 (ab w (ae (y.na)) 2).2 n).wa⟩,y.tr,[]⟩:k9).gr.na) ((⟨y.na,max ((n9 w y a8).re) (a8+(((ah (ab w (ae (y.na)) 2).1 (ab w (ae (y.na)) 2).2 n).wa:Nat):Int)),true,⟨[n],(ah (ab w (ae (y.na)) 2).1 (ab w (ae (y.na)) 2).2 n).ru,(ah (ab w (ae (y.na)) 2).1 (ab w (ae (y.na)) 2).2 n).wa⟩,y.tr,[]⟩:k9).gr.ru) ((⟨y.na,max ((n9 w y a8).re) (a8+(((ah (ab w (ae (y.na)) 2).1 (ab w (ae (y.na)) 2).2 n).wa:Nat):Int)),true,⟨[n],(ah (ab w (ae (y.na)) 2).1 (ab w (ae (y.na)) 2).2 n).ru,(ah (ab w (ae (y.na)) 2).1 (ab w (ae (y.na)) 2).2 n).wa⟩,y.tr,[]⟩:k9).gr.wa) ((⟨y.na,max ((n9 w y a8).re) (a8+(((ah (ab w (ae (y.na)) 2).1 (ab w (ae (y.na)) 2).2 n).wa:Nat):Int)),true,⟨[n],(ah (ab w (ae (y.na)) 2).1 (ab w (ae (y.na)) 2).2 n).ru,(ah (ab w (ae (y.na)) 2).1 (ab w (ae (y.na)) 2).2 n).wa⟩,y.tr,[]⟩:k9).tr) (y.td.filter (MP (bg w n y.na).ru)) ga oa ca g o c se (ls++[(⟨a8,(ae (y.na)),(ab w (ae (y.na)) (y.tr)).1⟩:l8)])))<|.h (.ON (.key 1000) [2,ix,5] g (o+(ix)*8+7) (.own 2 ((y.td.filter (MP (bg w n y.na).ru)).map ak) ga oa ca) (.ow 2 ((y.td.filter (MP (bg w n y.na).ru)).map ak)))<|.h (.A6 1000 (cU n a8 zs ix ((⟨y.na,max ((n9 w y a8).re) (a8+(((ah (ab w (ae (y.na)) 2).1 (ab w (ae (y.na)) 2).2 n).wa:Nat):Int)),true,⟨[n],(ah (ab w (ae (y.na)) 2).1 (ab w (ae (y.na)) 2).2 n).ru,(ah (ab w (ae (y.na)) 2).1 (ab w (ae (y.na)) 2).2 n).wa⟩,y.tr,[]⟩:k9).na) ((⟨y.na,max ((n9 w y a8).re) (a8+(((ah (ab w (ae (y.na)) 2).1 (ab w (ae (y.na)) 2).2 n).wa:Nat):Int)),true,⟨[n],(ah (ab w (ae (y.na)) 2).1 (ab w (ae (y.na)) 2).2 n).ru,(ah (ab w (ae (y.na)) 2).1 (ab w (ae (y.na)) 2).2 n).wa⟩,y.tr,[]⟩:k9).re) ((⟨y.na,max ((n9 w y a8).re) (a8+(((ah (ab w (ae (y.na)) 2).1 (ab w (ae (y.na)) 2).2 n).wa:Nat):Int)),true,⟨[n],(ah (ab w (ae (y.na)) 2).1 (ab w (ae (y.na)) 2).2 n).ru,(ah (ab w (ae (y.na)) 2).1 (ab w (ae (y.na)) 2).2 n).wa⟩,y.tr,[]⟩:k9).kn) ((⟨y.na,max ((n9 w y a8).re) (a8+(((ah (ab w (ae (y.na)) 2).1 (ab w (ae (y.na)) 2).2 n).wa:Nat):Int)),true,⟨[n],(ah (ab w (ae (y.na)) 2).1 (ab w (ae (y.na)) 2).2 n).ru,(ah (ab w (ae (y.na)) 2).1 (ab w (ae (y.na)) 2).2 n).wa⟩,y.tr,[]⟩:k9).gr.na) ((⟨y.na,max ((n9 w y a8).re) (a8+(((ah (ab w (ae (y.na)) 2).1 (ab w (ae (y.na)) 2).2 n).wa:Nat):Int)),true,⟨[n],(ah (ab w (ae (y.na)) 2).1 (ab w (ae (y.na)) 2).2 n).ru,(ah (ab w (ae (y.na)) 2).1 (ab w (ae (y.na)) 2).2 n).wa⟩,y.tr,[]⟩:k9).gr.ru) ((⟨y.na,max ((n9 w y a8).re) (a8+(((ah (ab w (ae (y.na)) 2).1 (ab w (ae (y.na)) 2).2 n).wa:Nat):Int)),true,⟨[n],(ah (ab w (ae (y.na)) 2).1 (ab w (ae (y.na)) 2).2 n).ru,(ah (ab w (ae (y.na)) 2).1 (ab w (ae (y.na)) 2).2 n).wa⟩,y.tr,[]⟩:k9).gr.wa) ((⟨y.na,max ((n9 w y a8).re) (a8+(((ah (ab w (ae (y.na)) 2).1 (ab w (ae (y.na)) 2).2 n).wa:Nat):Int)),true,⟨[n],(ah (ab w (ae (y.na)) 2).1 (ab w (ae (y.na)) 2).2 n).ru,(ah (ab w (ae (y.na)) 2).1 (ab w (ae (y.na)) 2).2 n).wa⟩,y.tr,[]⟩:k9).tr) (y.td.filter (MP (bg w n y.na).ru)) g o c se (ls++[(⟨a8,(ae (y.na)),(ab w (ae (y.na)) (y.tr)).1⟩:l8)])))<|.h (.A6 1000 (bH n a8 (zs.set ix ({ n9 w y a8 with kn:=true,gr:=(bg w n y.na),re:=max (n9 w y a8).re (a8+((bg w n y.na).wa:Int)),td:=y.td.filter (MP (bg w n y.na).ru) }:k9)) g o c se (ls++[(⟨a8,(ae (y.na)),(ab w (ae (y.na)) (y.tr)).1⟩:l8)])))<|.nil)))))))
  ((fun v1:Int=>(fun v9:V=>(fun v2:V=>(fun v3:V=>(fun v4:V=>(fun v5:V=>(fun v6:Bool=>(fun v7:V=>(fun v8:V=>(fun v10:V=>(∀ g3:Nat,True/\Z gw 1/\Z g3 0/\Z g3 0/\True/\(V.at gt 0 v10 [2,ix,0]=some (g,(o+ix*8+0),sV (y.na)))/\(ky (y.na)).sm/\(((y.na).length<=4000000000000000000))/\Z g3 0/\True/\(V.at gt 0 v10 [2,ix,4]=some (g,(o+ix*8+6),iV (y.tr)))/\(([.ptr (.key 1001) [] gw 0,.ptr (.key 1000) [2,ix] g (o+ix*8),sV (ae (y.na)),iV (y.tr)]:List V)=[.ptr (.key 1001) [] gw 0,.ptr (.key 1000) [2,ix] g (o+ix*8),sV (ae (y.na)),iV (y.tr)])/\Er gw v8/\Er gt v10/\((ix<zs.length)/\(ls.length<=1000)/\(0<=(y.tr)/\(y.tr)<=1000)/\(0<=a8/\a8<=100000)/\(y=y)/\(y.gr.wa<=1000))/\((bH n a8 (zs.set ix (cL y a8 (ab w (ae (y.na)) (y.tr)).1 (y.tr))) g o c se (ls++[(⟨a8,(ae (y.na)),(ab w (ae (y.na)) (y.tr)).1⟩:l8)]):V)=cU n a8 zs ix (y.na) ((n9 w y a8).re) (y.kn) (y.gr.na) (y.gr.ru) (y.gr.wa) (y.tr) (y.td) g o c se (ls++[(⟨a8,(ae (y.na)),(ab w (ae (y.na)) (y.tr)).1⟩:l8)]))/\Gd (v6==true) (Z g3 0)/\Gd (v6==true) True/\Gd (v6==true) (V.at gt 0 v3 [2,ix,4]=some (g,(o+ix*8+6),iV (y.tr)))/\Gd (v6==true) (m9 ((y.tr)+1))/\Pk v6 (v6==true) true/\Br (v6&&(s8 ((y.tr)+1) 3)) (Z g3 0/\True/\(V.at gt 0 v3 [2,ix,4]=some (g,(o+ix*8+6),iV (y.tr)))/\m9 ((y.tr)+1)/\True/\(V.at gt 0 v3 [2,ix,4]=some (g,(o+ix*8+6),iV (y.tr)))/\(V.set v3 [2,ix,4] (iV ((y.tr)+1))=cU n a8 zs ix (y.na) ((n9 w y a8).re) (y.kn) (y.gr.na) (y.gr.ru) (y.gr.wa) ((y.tr)+1) (y.td) g o c se (ls++[(⟨a8,(ae (y.na)),(ab w (ae (y.na)) (y.tr)).1⟩:l8)]))/\((cU n a8 zs ix (y.na) ((n9 w y a8).re) (y.kn) (y.gr.na) (y.gr.ru) (y.gr.wa) ((y.tr)+1) (y.td) g o c se (ls++[(⟨a8,(ae (y.na)),(ab w (ae (y.na)) (y.tr)).1⟩:l8)]):V)=bH n a8 (zs.set ix ({ n9 w y a8 with tr:=y.tr+1 }:k9)) g o c se (ls++[(⟨a8,(ae (y.na)),(ab w (ae (y.na)) (y.tr)).1⟩:l8)]))/\Q (.tup []) (.tup [])/\Er gw v8/\Qr gt (bH n a8 (zs.set ix ({ n9 w y a8 with tr:=y.tr+1 }:k9)) g o c se (ls++[(⟨a8,(ae (y.na)),(ab w (ae (y.na)) (y.tr)).1⟩:l8)])) gt v7) (Z g3 0/\True/\(V.at gt 0 v3 [2,ix,2]=some (g,(o+ix*8+2),bV (y.kn)))/\(V.set v3 [2,ix,2] (bV true)=Cd n a8 zs ix (y.na) ((n9 w y a8).re) (y.gr.na) (y.gr.ru) (y.gr.wa) (y.tr) (y.td) g o c se (ls++[(⟨a8,(ae (y.na)),(ab w (ae (y.na)) (y.tr)).1⟩:l8)]))/\Z g3 0/\True/\Z gw 0/\Z g3 0/\True/\(V.at gt 0 v4 [2,ix,0]=some (g,(o+ix*8+0),sV (y.na)))/\True/\Z gt 0/\(ka w (y.na) n).sm/\(((y.na).length<=1000)/\((ab w (ae (y.na)) 2).2.length<=1000000))/\True/\(V.at gt 0 v4 [2,ix,3]=some (g,(o+ix*8+3),dP (y.gr.na) (y.gr.ru) (y.gr.wa)))/\(V.set v4 [2,ix,3] (iX v9 ((ah (ab w (ae (y.na)) 2).1 (ab w (ae (y.na)) 2).2 n).ru) ((ah (ab w (ae (y.na)) 2).1 (ab w (ae (y.na)) 2).2 n).wa))=rM n a8 zs ix (y.na) ((n9 w y a8).re) v9 ((ah (ab w (ae (y.na)) 2).1 (ab w (ae (y.na)) 2).2 n).ru) ((ah (ab w (ae (y.na)) 2).1 (ab w (ae (y.na)) 2).2 n).wa) (y.tr) (y.td) g o c se (ls++[(⟨a8,(ae (y.na)),(ab w (ae (y.na)) (y.tr)).1⟩:l8)]))/\Z g3 0/\Z g3 0/\True/\(V.at gt 0 v2 [2,ix,1]=some (g,(o+ix*8+1),iV ((n9 w y a8).re)))/\True/\Z gt 1/\Z g3 0/\True/\(V.at gt 0 v2 [2,ix,3,2]=some (g,(o+ix*8+3+2),iN ((ah (ab w (ae (y.na)) 2).1 (ab w (ae (y.na)) 2).2 n).wa)))/\m9 (a8+v1)/\(IntKind.i64=IntKind.i64)/\True/\(V.at gt 0 v2 [2,ix,1]=some (g,(o+ix*8+1),iV ((n9 w y a8).re)))/\(V.set v2 [2,ix,1] (iV (max ((n9 w y a8).re) (a8+v1)))=rM n a8 zs ix (y.na) (max ((n9 w y a8).re) (a8+v1)) v9 ((ah (ab w (ae (y.na)) 2).1 (ab w (ae (y.na)) 2).2 n).ru) ((ah (ab w (ae (y.na)) 2).1 (ab w (ae (y.na)) 2).2 n).wa) (y.tr) (y.td) g o c se (ls++[(⟨a8,(ae (y.na)),(ab w (ae (y.na)) (y.tr)).1⟩:l8)]))/\(V.at gt 0 v5 [2,ix,5]=some (g,o+(ix)*8+7,.ow 2 ((y.td).map ak)))/\∀ ga oa ca:Nat,(fun v11:V=>(V.set v5 [2,ix,5] (.own 2 ((y.td).map ak) ga oa ca)=.agg [sV n,iV a8,.own 8 ((zs.take ix).map aE++v11::(zs.drop (ix+1)).map aE) g o c,.ow 1 (se.map sV),.ow 3 ((ls++[(⟨a8,(ae (y.na)),(ab w (ae (y.na)) (y.tr)).1⟩:l8)]).map ba)])/\Z g3 0/\Z g3 0/\True/\(V.at gt 0 (.agg [sV n,iV a8,.own 8 ((zs.take ix).map aE++v11::(zs.drop (ix+1)).map aE) g o c,.ow 1 (se.map sV),.ow 3 ((ls++[(⟨a8,(ae (y.na)),(ab w (ae (y.na)) (y.tr)).1⟩:l8)]).map ba)]) [2,ix,5]=some (g,(o+ix*8+7),.own 2 ((y.td).map ak) ga oa ca))/\((Value.func (.func 143) #[] #[.pointer (some ⟨g3,0,none⟩)]).oneCell'=true)/\∀ _:Unit,((Df n a8 zs se (ls++[(⟨a8,(ae (y.na)),(ab w (ae (y.na)) (y.tr)).1⟩:l8)]) gt g o c ix (⟨y.na,max ((n9 w y a8).re) (a8+v1),true,⟨[n],(ah (ab w (ae (y.na)) 2).1 (ab w (ae (y.na)) 2).2 n).ru,(ah (ab w (ae (y.na)) 2).1 (ab w (ae (y.na)) 2).2 n).wa⟩,y.tr,[]⟩:k9) ga oa ca (y.td) g3).sm/\Er g3 (.ptr (.key 1000) [2,ix] g (o+ix*8))/\Er gt (bz n a8 zs ix ((⟨y.na,max ((n9 w y a8).re) (a8+v1),true,⟨[n],(ah (ab w (ae (y.na)) 2).1 (ab w (ae (y.na)) 2).2 n).ru,(ah (ab w (ae (y.na)) 2).1 (ab w (ae (y.na)) 2).2 n).wa⟩,y.tr,[]⟩:k9).na) ((⟨y.na,max ((n9 w y a8).re) (a8+v1),true,⟨[n],(ah (ab w (ae (y.na)) 2).1 (ab w (ae (y.na)) 2).2 n).ru,(ah (ab w (ae (y.na)) 2).1 (ab w (ae (y.na)) 2).2 n).wa⟩,y.tr,[]⟩:k9).re) ((⟨y.na,max ((n9 w y a8).re) (a8+v1),true,⟨[n],(ah (ab w (ae (y.na)) 2).1 (ab w (ae (y.na)) 2).2 n).ru,(ah (ab w (ae (y.na)) 2).1 (ab w (ae (y.na)) 2).2 n).wa⟩,y.tr,[]⟩:k9).kn) ((⟨y.na,max ((n9 w y a8).re) (a8+v1),true,⟨[n],(ah (ab w (ae (y.na)) 2).1 (ab w (ae (y.na)) 2).2 n).ru,(ah (ab w (ae (y.na)) 2).1 (ab w (ae (y.na)) 2).2 n).wa⟩,y.tr,[]⟩:k9).gr.na) ((⟨y.na,max ((n9 w y a8).re) (a8+v1),true,⟨[n],(ah (ab w (ae (y.na)) 2).1 (ab w (ae (y.na)) 2).2 n).ru,(ah (ab w (ae (y.na)) 2).1 (ab w (ae (y.na)) 2).2 n).wa⟩,y.tr,[]⟩:k9).gr.ru) ((⟨y.na,max ((n9 w y a8).re) (a8+v1),true,⟨[n],(ah (ab w (ae (y.na)) 2).1 (ab w (ae (y.na)) 2).2 n).ru,(ah (ab w (ae (y.na)) 2).1 (ab w (ae (y.na)) 2).2 n).wa⟩,y.tr,[]⟩:k9).gr.wa) ((⟨y.na,max ((n9 w y a8).re) (a8+v1),true,⟨[n],(ah (ab w (ae (y.na)) 2).1 (ab w (ae (y.na)) 2).2 n).ru,(ah (ab w (ae (y.na)) 2).1 (ab w (ae (y.na)) 2).2 n).wa⟩,y.tr,[]⟩:k9).tr) (y.td) ga oa ca g o c se (ls++[(⟨a8,(ae (y.na)),(ab w (ae (y.na)) (y.tr)).1⟩:l8)]))/\(((ix<zs.length)/\((y.td).length<=1000)/\(∀ x,x∈(y.td)->x.ad.length<=1000/\m4 x.ad)/\((⟨y.na,max ((n9 w y a8).re) (a8+v1),true,⟨[n],(ah (ab w (ae (y.na)) 2).1 (ab w (ae (y.na)) 2).2 n).ru,(ah (ab w (ae (y.na)) 2).1 (ab w (ae (y.na)) 2).2 n).wa⟩,y.tr,[]⟩:k9).gr.ru.length<=1000)/\(∀ i,((⟨y.na,max ((n9 w y a8).re) (a8+v1),true,⟨[n],(ah (ab w (ae (y.na)) 2).1 (ab w (ae (y.na)) 2).2 n).ru,(ah (ab w (ae (y.na)) 2).1 (ab w (ae (y.na)) 2).2 n).wa⟩,y.tr,[]⟩:k9).gr.ru.getD i ⟨false,[]⟩).path.length<=1000))/\(((g3,.ptr (.key 1000) [2,ix] g (o+ix*8)):Nat×V)=(g3,.ptr (.key 1000) [2,ix] g (o+ix*8)))/\(((gt,bz n a8 zs ix ((⟨y.na,max ((n9 w y a8).re) (a8+v1),true,⟨[n],(ah (ab w (ae (y.na)) 2).1 (ab w (ae (y.na)) 2).2 n).ru,(ah (ab w (ae (y.na)) 2).1 (ab w (ae (y.na)) 2).2 n).wa⟩,y.tr,[]⟩:k9).na) ((⟨y.na,max ((n9 w y a8).re) (a8+v1),true,⟨[n],(ah (ab w (ae (y.na)) 2).1 (ab w (ae (y.na)) 2).2 n).ru,(ah (ab w (ae (y.na)) 2).1 (ab w (ae (y.na)) 2).2 n).wa⟩,y.tr,[]⟩:k9).re) ((⟨y.na,max ((n9 w y a8).re) (a8+v1),true,⟨[n],(ah (ab w (ae (y.na)) 2).1 (ab w (ae (y.na)) 2).2 n).ru,(ah (ab w (ae (y.na)) 2).1 (ab w (ae (y.na)) 2).2 n).wa⟩,y.tr,[]⟩:k9).kn) ((⟨y.na,max ((n9 w y a8).re) (a8+v1),true,⟨[n],(ah (ab w (ae (y.na)) 2).1 (ab w (ae (y.na)) 2).2 n).ru,(ah (ab w (ae (y.na)) 2).1 (ab w (ae (y.na)) 2).2 n).wa⟩,y.tr,[]⟩:k9).gr.na) ((⟨y.na,max ((n9 w y a8).re) (a8+v1),true,⟨[n],(ah (ab w (ae (y.na)) 2).1 (ab w (ae (y.na)) 2).2 n).ru,(ah (ab w (ae (y.na)) 2).1 (ab w (ae (y.na)) 2).2 n).wa⟩,y.tr,[]⟩:k9).gr.ru) ((⟨y.na,max ((n9 w y a8).re) (a8+v1),true,⟨[n],(ah (ab w (ae (y.na)) 2).1 (ab w (ae (y.na)) 2).2 n).ru,(ah (ab w (ae (y.na)) 2).1 (ab w (ae (y.na)) 2).2 n).wa⟩,y.tr,[]⟩:k9).gr.wa) ((⟨y.na,max ((n9 w y a8).re) (a8+v1),true,⟨[n],(ah (ab w (ae (y.na)) 2).1 (ab w (ae (y.na)) 2).2 n).ru,(ah (ab w (ae (y.na)) 2).1 (ab w (ae (y.na)) 2).2 n).wa⟩,y.tr,[]⟩:k9).tr) (fW (⟨y.na,max ((n9 w y a8).re) (a8+v1),true,⟨[n],(ah (ab w (ae (y.na)) 2).1 (ab w (ae (y.na)) 2).2 n).ru,(ah (ab w (ae (y.na)) 2).1 (ab w (ae (y.na)) 2).2 n).wa⟩,y.tr,[]⟩:k9) (y.td)) ga oa ca g o c se (ls++[(⟨a8,(ae (y.na)),(ab w (ae (y.na)) (y.tr)).1⟩:l8)])):Nat×V)=(gt,bz n a8 zs ix ((⟨y.na,max ((n9 w y a8).re) (a8+v1),true,⟨[n],(ah (ab w (ae (y.na)) 2).1 (ab w (ae (y.na)) 2).2 n).ru,(ah (ab w (ae (y.na)) 2).1 (ab w (ae (y.na)) 2).2 n).wa⟩,y.tr,[]⟩:k9).na) ((⟨y.na,max ((n9 w y a8).re) (a8+v1),true,⟨[n],(ah (ab w (ae (y.na)) 2).1 (ab w (ae (y.na)) 2).2 n).ru,(ah (ab w (ae (y.na)) 2).1 (ab w (ae (y.na)) 2).2 n).wa⟩,y.tr,[]⟩:k9).re) ((⟨y.na,max ((n9 w y a8).re) (a8+v1),true,⟨[n],(ah (ab w (ae (y.na)) 2).1 (ab w (ae (y.na)) 2).2 n).ru,(ah (ab w (ae (y.na)) 2).1 (ab w (ae (y.na)) 2).2 n).wa⟩,y.tr,[]⟩:k9).kn) ((⟨y.na,max ((n9 w y a8).re) (a8+v1),true,⟨[n],(ah (ab w (ae (y.na)) 2).1 (ab w (ae (y.na)) 2).2 n).ru,(ah (ab w (ae (y.na)) 2).1 (ab w (ae (y.na)) 2).2 n).wa⟩,y.tr,[]⟩:k9).gr.na) ((⟨y.na,max ((n9 w y a8).re) (a8+v1),true,⟨[n],(ah (ab w (ae (y.na)) 2).1 (ab w (ae (y.na)) 2).2 n).ru,(ah (ab w (ae (y.na)) 2).1 (ab w (ae (y.na)) 2).2 n).wa⟩,y.tr,[]⟩:k9).gr.ru) ((⟨y.na,max ((n9 w y a8).re) (a8+v1),true,⟨[n],(ah (ab w (ae (y.na)) 2).1 (ab w (ae (y.na)) 2).2 n).ru,(ah (ab w (ae (y.na)) 2).1 (ab w (ae (y.na)) 2).2 n).wa⟩,y.tr,[]⟩:k9).gr.wa) ((⟨y.na,max ((n9 w y a8).re) (a8+v1),true,⟨[n],(ah (ab w (ae (y.na)) 2).1 (ab w (ae (y.na)) 2).2 n).ru,(ah (ab w (ae (y.na)) 2).1 (ab w (ae (y.na)) 2).2 n).wa⟩,y.tr,[]⟩:k9).tr) (fW (⟨y.na,max ((n9 w y a8).re) (a8+v1),true,⟨[n],(ah (ab w (ae (y.na)) 2).1 (ab w (ae (y.na)) 2).2 n).ru,(ah (ab w (ae (y.na)) 2).1 (ab w (ae (y.na)) 2).2 n).wa⟩,y.tr,[]⟩:k9) (y.td)) ga oa ca g o c se (ls++[(⟨a8,(ae (y.na)),(ab w (ae (y.na)) (y.tr)).1⟩:l8)])))/\True))/\∀ _:Unit,True/\((((.key 1000:l7),([2,ix,5]:List Nat),2,ga,oa,(0:Nat),(((y.td).filter (Mg (⟨y.na,max ((n9 w y a8).re) (a8+v1),true,⟨[n],(ah (ab w (ae (y.na)) 2).1 (ab w (ae (y.na)) 2).2 n).ru,(ah (ab w (ae (y.na)) 2).1 (ab w (ae (y.na)) 2).2 n).wa⟩,y.tr,[]⟩:k9))).length),ca)=((.key 1000:l7),([2,ix,5]:List Nat),2,ga,oa,(0:Nat),(((y.td).filter (Mg (⟨y.na,max ((n9 w y a8).re) (a8+v1),true,⟨[n],(ah (ab w (ae (y.na)) 2).1 (ab w (ae (y.na)) 2).2 n).ru,(ah (ab w (ae (y.na)) 2).1 (ab w (ae (y.na)) 2).2 n).wa⟩,y.tr,[]⟩:k9))).length),ca))/\((.ptr (.key 1000) [2,ix,5] g (o+ix*8+7):V)=.ptr (.key 1000) [2,ix,5] g (o+(ix)*8+7))/\(V.at gt 0 (bz n a8 zs ix ((⟨y.na,max ((n9 w y a8).re) (a8+v1),true,⟨[n],(ah (ab w (ae (y.na)) 2).1 (ab w (ae (y.na)) 2).2 n).ru,(ah (ab w (ae (y.na)) 2).1 (ab w (ae (y.na)) 2).2 n).wa⟩,y.tr,[]⟩:k9).na) ((⟨y.na,max ((n9 w y a8).re) (a8+v1),true,⟨[n],(ah (ab w (ae (y.na)) 2).1 (ab w (ae (y.na)) 2).2 n).ru,(ah (ab w (ae (y.na)) 2).1 (ab w (ae (y.na)) 2).2 n).wa⟩,y.tr,[]⟩:k9).re) ((⟨y.na,max ((n9 w y a8).re) (a8+v1),true,⟨[n],(ah (ab w (ae (y.na)) 2).1 (ab w (ae (y.na)) 2).2 n).ru,(ah (ab w (ae (y.na)) 2).1 (ab w (ae (y.na)) 2).2 n).wa⟩,y.tr,[]⟩:k9).kn) ((⟨y.na,max ((n9 w y a8).re) (a8+v1),true,⟨[n],(ah (ab w (ae (y.na)) 2).1 (ab w (ae (y.na)) 2).2 n).ru,(ah (ab w (ae (y.na)) 2).1 (ab w (ae (y.na)) 2).2 n).wa⟩,y.tr,[]⟩:k9).gr.na) ((⟨y.na,max ((n9 w y a8).re) (a8+v1),true,⟨[n],(ah (ab w (ae (y.na)) 2).1 (ab w (ae (y.na)) 2).2 n).ru,(ah (ab w (ae (y.na)) 2).1 (ab w (ae (y.na)) 2).2 n).wa⟩,y.tr,[]⟩:k9).gr.ru) ((⟨y.na,max ((n9 w y a8).re) (a8+v1),true,⟨[n],(ah (ab w (ae (y.na)) 2).1 (ab w (ae (y.na)) 2).2 n).ru,(ah (ab w (ae (y.na)) 2).1 (ab w (ae (y.na)) 2).2 n).wa⟩,y.tr,[]⟩:k9).gr.wa) ((⟨y.na,max ((n9 w y a8).re) (a8+v1),true,⟨[n],(ah (ab w (ae (y.na)) 2).1 (ab w (ae (y.na)) 2).2 n).ru,(ah (ab w (ae (y.na)) 2).1 (ab w (ae (y.na)) 2).2 n).wa⟩,y.tr,[]⟩:k9).tr) (fW (⟨y.na,max ((n9 w y a8).re) (a8+v1),true,⟨[n],(ah (ab w (ae (y.na)) 2).1 (ab w (ae (y.na)) 2).2 n).ru,(ah (ab w (ae (y.na)) 2).1 (ab w (ae (y.na)) 2).2 n).wa⟩,y.tr,[]⟩:k9) (y.td)) ga oa ca g o c se (ls++[(⟨a8,(ae (y.na)),(ab w (ae (y.na)) (y.tr)).1⟩:l8)])) [2,ix,5]=some (g,o+(ix)*8+7,.own 2 ((fW (⟨y.na,max ((n9 w y a8).re) (a8+v1),true,⟨[n],(ah (ab w (ae (y.na)) 2).1 (ab w (ae (y.na)) 2).2 n).ru,(ah (ab w (ae (y.na)) 2).1 (ab w (ae (y.na)) 2).2 n).wa⟩,y.tr,[]⟩:k9) (y.td)).map ak) ga oa ca))/\((1:Nat)=1)/\((((y.td).filter (Mg (⟨y.na,max ((n9 w y a8).re) (a8+v1),true,⟨[n],(ah (ab w (ae (y.na)) 2).1 (ab w (ae (y.na)) 2).2 n).ru,(ah (ab w (ae (y.na)) 2).1 (ab w (ae (y.na)) 2).2 n).wa⟩,y.tr,[]⟩:k9))).length)<=((fW (⟨y.na,max ((n9 w y a8).re) (a8+v1),true,⟨[n],(ah (ab w (ae (y.na)) 2).1 (ab w (ae (y.na)) 2).2 n).ru,(ah (ab w (ae (y.na)) 2).1 (ab w (ae (y.na)) 2).2 n).wa⟩,y.tr,[]⟩:k9) (y.td)).map ak).length)/\(V.aG ((fW (⟨y.na,max ((n9 w y a8).re) (a8+v1),true,⟨[n],(ah (ab w (ae (y.na)) 2).1 (ab w (ae (y.na)) 2).2 n).ru,(ah (ab w (ae (y.na)) 2).1 (ab w (ae (y.na)) 2).2 n).wa⟩,y.tr,[]⟩:k9) (y.td)).map ak)=false))/\∀ _:Unit,(V.set (bz n a8 zs ix ((⟨y.na,max ((n9 w y a8).re) (a8+v1),true,⟨[n],(ah (ab w (ae (y.na)) 2).1 (ab w (ae (y.na)) 2).2 n).ru,(ah (ab w (ae (y.na)) 2).1 (ab w (ae (y.na)) 2).2 n).wa⟩,y.tr,[]⟩:k9).na) ((⟨y.na,max ((n9 w y a8).re) (a8+v1),true,⟨[n],(ah (ab w (ae (y.na)) 2).1 (ab w (ae (y.na)) 2).2 n).ru,(ah (ab w (ae (y.na)) 2).1 (ab w (ae (y.na)) 2).2 n).wa⟩,y.tr,[]⟩:k9).re) ((⟨y.na,max ((n9 w y a8).re) (a8+v1),true,⟨[n],(ah (ab w (ae (y.na)) 2).1 (ab w (ae (y.na)) 2).2 n).ru,(ah (ab w (ae (y.na)) 2).1 (ab w (ae (y.na)) 2).2 n).wa⟩,y.tr,[]⟩:k9).kn) ((⟨y.na,max ((n9 w y a8).re) (a8+v1),true,⟨[n],(ah (ab w (ae (y.na)) 2).1 (ab w (ae (y.na)) 2).2 n).ru,(ah (ab w (ae (y.na)) 2).1 (ab w (ae (y.na)) 2).2 n).wa⟩,y.tr,[]⟩:k9).gr.na) ((⟨y.na,max ((n9 w y a8).re) (a8+v1),true,⟨[n],(ah (ab w (ae (y.na)) 2).1 (ab w (ae (y.na)) 2).2 n).ru,(ah (ab w (ae (y.na)) 2).1 (ab w (ae (y.na)) 2).2 n).wa⟩,y.tr,[]⟩:k9).gr.ru) ((⟨y.na,max ((n9 w y a8).re) (a8+v1),true,⟨[n],(ah (ab w (ae (y.na)) 2).1 (ab w (ae (y.na)) 2).2 n).ru,(ah (ab w (ae (y.na)) 2).1 (ab w (ae (y.na)) 2).2 n).wa⟩,y.tr,[]⟩:k9).gr.wa) ((⟨y.na,max ((n9 w y a8).re) (a8+v1),true,⟨[n],(ah (ab w (ae (y.na)) 2).1 (ab w (ae (y.na)) 2).2 n).ru,(ah (ab w (ae (y.na)) 2).1 (ab w (ae (y.na)) 2).2 n).wa⟩,y.tr,[]⟩:k9).tr) (fW (⟨y.na,max ((n9 w y a8).re) (a8+v1),true,⟨[n],(ah (ab w (ae (y.na)) 2).1 (ab w (ae (y.na)) 2).2 n).ru,(ah (ab w (ae (y.na)) 2).1 (ab w (ae (y.na)) 2).2 n).wa⟩,y.tr,[]⟩:k9) (y.td)) ga oa ca g o c se (ls++[(⟨a8,(ae (y.na)),(ab w (ae (y.na)) (y.tr)).1⟩:l8)])) [2,ix,5] (.own 2 (((fW (⟨y.na,max ((n9 w y a8).re) (a8+v1),true,⟨[n],(ah (ab w (ae (y.na)) 2).1 (ab w (ae (y.na)) 2).2 n).ru,(ah (ab w (ae (y.na)) 2).1 (ab w (ae (y.na)) 2).2 n).wa⟩,y.tr,[]⟩:k9) (y.td)).map ak).take (((y.td).filter (Mg (⟨y.na,max ((n9 w y a8).re) (a8+v1),true,⟨[n],(ah (ab w (ae (y.na)) 2).1 (ab w (ae (y.na)) 2).2 n).ru,(ah (ab w (ae (y.na)) 2).1 (ab w (ae (y.na)) 2).2 n).wa⟩,y.tr,[]⟩:k9))).length)) ga oa ca)=bz n a8 zs ix ((⟨y.na,max ((n9 w y a8).re) (a8+v1),true,⟨[n],(ah (ab w (ae (y.na)) 2).1 (ab w (ae (y.na)) 2).2 n).ru,(ah (ab w (ae (y.na)) 2).1 (ab w (ae (y.na)) 2).2 n).wa⟩,y.tr,[]⟩:k9).na) ((⟨y.na,max ((n9 w y a8).re) (a8+v1),true,⟨[n],(ah (ab w (ae (y.na)) 2).1 (ab w (ae (y.na)) 2).2 n).ru,(ah (ab w (ae (y.na)) 2).1 (ab w (ae (y.na)) 2).2 n).wa⟩,y.tr,[]⟩:k9).re) ((⟨y.na,max ((n9 w y a8).re) (a8+v1),true,⟨[n],(ah (ab w (ae (y.na)) 2).1 (ab w (ae (y.na)) 2).2 n).ru,(ah (ab w (ae (y.na)) 2).1 (ab w (ae (y.na)) 2).2 n).wa⟩,y.tr,[]⟩:k9).kn) ((⟨y.na,max ((n9 w y a8).re) (a8+v1),true,⟨[n],(ah (ab w (ae (y.na)) 2).1 (ab w (ae (y.na)) 2).2 n).ru,(ah (ab w (ae (y.na)) 2).1 (ab w (ae (y.na)) 2).2 n).wa⟩,y.tr,[]⟩:k9).gr.na) ((⟨y.na,max ((n9 w y a8).re) (a8+v1),true,⟨[n],(ah (ab w (ae (y.na)) 2).1 (ab w (ae (y.na)) 2).2 n).ru,(ah (ab w (ae (y.na)) 2).1 (ab w (ae (y.na)) 2).2 n).wa⟩,y.tr,[]⟩:k9).gr.ru) ((⟨y.na,max ((n9 w y a8).re) (a8+v1),true,⟨[n],(ah (ab w (ae (y.na)) 2).1 (ab w (ae (y.na)) 2).2 n).ru,(ah (ab w (ae (y.na)) 2).1 (ab w (ae (y.na)) 2).2 n).wa⟩,y.tr,[]⟩:k9).gr.wa) ((⟨y.na,max ((n9 w y a8).re) (a8+v1),true,⟨[n],(ah (ab w (ae (y.na)) 2).1 (ab w (ae (y.na)) 2).2 n).ru,(ah (ab w (ae (y.na)) 2).1 (ab w (ae (y.na)) 2).2 n).wa⟩,y.tr,[]⟩:k9).tr) (y.td.filter (MP (bg w n y.na).ru)) ga oa ca g o c se (ls++[(⟨a8,(ae (y.na)),(ab w (ae (y.na)) (y.tr)).1⟩:l8)]))/\(V.at gt 0 (bz n a8 zs ix ((⟨y.na,max ((n9 w y a8).re) (a8+v1),true,⟨[n],(ah (ab w (ae (y.na)) 2).1 (ab w (ae (y.na)) 2).2 n).ru,(ah (ab w (ae (y.na)) 2).1 (ab w (ae (y.na)) 2).2 n).wa⟩,y.tr,[]⟩:k9).na) ((⟨y.na,max ((n9 w y a8).re) (a8+v1),true,⟨[n],(ah (ab w (ae (y.na)) 2).1 (ab w (ae (y.na)) 2).2 n).ru,(ah (ab w (ae (y.na)) 2).1 (ab w (ae (y.na)) 2).2 n).wa⟩,y.tr,[]⟩:k9).re) ((⟨y.na,max ((n9 w y a8).re) (a8+v1),true,⟨[n],(ah (ab w (ae (y.na)) 2).1 (ab w (ae (y.na)) 2).2 n).ru,(ah (ab w (ae (y.na)) 2).1 (ab w (ae (y.na)) 2).2 n).wa⟩,y.tr,[]⟩:k9).kn) ((⟨y.na,max ((n9 w y a8).re) (a8+v1),true,⟨[n],(ah (ab w (ae (y.na)) 2).1 (ab w (ae (y.na)) 2).2 n).ru,(ah (ab w (ae (y.na)) 2).1 (ab w (ae (y.na)) 2).2 n).wa⟩,y.tr,[]⟩:k9).gr.na) ((⟨y.na,max ((n9 w y a8).re) (a8+v1),true,⟨[n],(ah (ab w (ae (y.na)) 2).1 (ab w (ae (y.na)) 2).2 n).ru,(ah (ab w (ae (y.na)) 2).1 (ab w (ae (y.na)) 2).2 n).wa⟩,y.tr,[]⟩:k9).gr.ru) ((⟨y.na,max ((n9 w y a8).re) (a8+v1),true,⟨[n],(ah (ab w (ae (y.na)) 2).1 (ab w (ae (y.na)) 2).2 n).ru,(ah (ab w (ae (y.na)) 2).1 (ab w (ae (y.na)) 2).2 n).wa⟩,y.tr,[]⟩:k9).gr.wa) ((⟨y.na,max ((n9 w y a8).re) (a8+v1),true,⟨[n],(ah (ab w (ae (y.na)) 2).1 (ab w (ae (y.na)) 2).2 n).ru,(ah (ab w (ae (y.na)) 2).1 (ab w (ae (y.na)) 2).2 n).wa⟩,y.tr,[]⟩:k9).tr) (y.td.filter (MP (bg w n y.na).ru)) ga oa ca g o c se (ls++[(⟨a8,(ae (y.na)),(ab w (ae (y.na)) (y.tr)).1⟩:l8)])) [2,ix,5]=some (g,o+(ix)*8+7,.own 2 ((y.td.filter (MP (bg w n y.na).ru)).map ak) ga oa ca))/\(V.set (bz n a8 zs ix ((⟨y.na,max ((n9 w y a8).re) (a8+v1),true,⟨[n],(ah (ab w (ae (y.na)) 2).1 (ab w (ae (y.na)) 2).2 n).ru,(ah (ab w (ae (y.na)) 2).1 (ab w (ae (y.na)) 2).2 n).wa⟩,y.tr,[]⟩:k9).na) ((⟨y.na,max ((n9 w y a8).re) (a8+v1),true,⟨[n],(ah (ab w (ae (y.na)) 2).1 (ab w (ae (y.na)) 2).2 n).ru,(ah (ab w (ae (y.na)) 2).1 (ab w (ae (y.na)) 2).2 n).wa⟩,y.tr,[]⟩:k9).re) ((⟨y.na,max ((n9 w y a8).re) (a8+v1),true,⟨[n],(ah (ab w (ae (y.na)) 2).1 (ab w (ae (y.na)) 2).2 n).ru,(ah (ab w (ae (y.na)) 2).1 (ab w (ae (y.na)) 2).2 n).wa⟩,y.tr,[]⟩:k9).kn) ((⟨y.na,max ((n9 w y a8).re) (a8+v1),true,⟨[n],(ah (ab w (ae (y.na)) 2).1 (ab w (ae (y.na)) 2).2 n).ru,(ah (ab w (ae (y.na)) 2).1 (ab w (ae (y.na)) 2).2 n).wa⟩,y.tr,[]⟩:k9).gr.na) ((⟨y.na,max ((n9 w y a8).re) (a8+v1),true,⟨[n],(ah (ab w (ae (y.na)) 2).1 (ab w (ae (y.na)) 2).2 n).ru,(ah (ab w (ae (y.na)) 2).1 (ab w (ae (y.na)) 2).2 n).wa⟩,y.tr,[]⟩:k9).gr.ru) ((⟨y.na,max ((n9 w y a8).re) (a8+v1),true,⟨[n],(ah (ab w (ae (y.na)) 2).1 (ab w (ae (y.na)) 2).2 n).ru,(ah (ab w (ae (y.na)) 2).1 (ab w (ae (y.na)) 2).2 n).wa⟩,y.tr,[]⟩:k9).gr.wa) ((⟨y.na,max ((n9 w y a8).re) (a8+v1),true,⟨[n],(ah (ab w (ae (y.na)) 2).1 (ab w (ae (y.na)) 2).2 n).ru,(ah (ab w (ae (y.na)) 2).1 (ab w (ae (y.na)) 2).2 n).wa⟩,y.tr,[]⟩:k9).tr) (y.td.filter (MP (bg w n y.na).ru)) ga oa ca g o c se (ls++[(⟨a8,(ae (y.na)),(ab w (ae (y.na)) (y.tr)).1⟩:l8)])) [2,ix,5] (.ow 2 ((y.td.filter (MP (bg w n y.na).ru)).map ak))=cU n a8 zs ix ((⟨y.na,max ((n9 w y a8).re) (a8+v1),true,⟨[n],(ah (ab w (ae (y.na)) 2).1 (ab w (ae (y.na)) 2).2 n).ru,(ah (ab w (ae (y.na)) 2).1 (ab w (ae (y.na)) 2).2 n).wa⟩,y.tr,[]⟩:k9).na) ((⟨y.na,max ((n9 w y a8).re) (a8+v1),true,⟨[n],(ah (ab w (ae (y.na)) 2).1 (ab w (ae (y.na)) 2).2 n).ru,(ah (ab w (ae (y.na)) 2).1 (ab w (ae (y.na)) 2).2 n).wa⟩,y.tr,[]⟩:k9).re) ((⟨y.na,max ((n9 w y a8).re) (a8+v1),true,⟨[n],(ah (ab w (ae (y.na)) 2).1 (ab w (ae (y.na)) 2).2 n).ru,(ah (ab w (ae (y.na)) 2).1 (ab w (ae (y.na)) 2).2 n).wa⟩,y.tr,[]⟩:k9).kn) ((⟨y.na,max ((n9 w y a8).re) (a8+v1),true,⟨[n],(ah (ab w (ae (y.na)) 2).1 (ab w (ae (y.na)) 2).2 n).ru,(ah (ab w (ae (y.na)) 2).1 (ab w (ae (y.na)) 2).2 n).wa⟩,y.tr,[]⟩:k9).gr.na) ((⟨y.na,max ((n9 w y a8).re) (a8+v1),true,⟨[n],(ah (ab w (ae (y.na)) 2).1 (ab w (ae (y.na)) 2).2 n).ru,(ah (ab w (ae (y.na)) 2).1 (ab w (ae (y.na)) 2).2 n).wa⟩,y.tr,[]⟩:k9).gr.ru) ((⟨y.na,max ((n9 w y a8).re) (a8+v1),true,⟨[n],(ah (ab w (ae (y.na)) 2).1 (ab w (ae (y.na)) 2).2 n).ru,(ah (ab w (ae (y.na)) 2).1 (ab w (ae (y.na)) 2).2 n).wa⟩,y.tr,[]⟩:k9).gr.wa) ((⟨y.na,max ((n9 w y a8).re) (a8+v1),true,⟨[n],(ah (ab w (ae (y.na)) 2).1 (ab w (ae (y.na)) 2).2 n).ru,(ah (ab w (ae (y.na)) 2).1 (ab w (ae (y.na)) 2).2 n).wa⟩,y.tr,[]⟩:k9).tr) (y.td.filter (MP (bg w n y.na).ru)) g o c se (ls++[(⟨a8,(ae (y.na)),(ab w (ae (y.na)) (y.tr)).1⟩:l8)]))/\((cU n a8 zs ix ((⟨y.na,max ((n9 w y a8).re) (a8+v1),true,⟨[n],(ah (ab w (ae (y.na)) 2).1 (ab w (ae (y.na)) 2).2 n).ru,(ah (ab w (ae (y.na)) 2).1 (ab w (ae (y.na)) 2).2 n).wa⟩,y.tr,[]⟩:k9).na) ((⟨y.na,max ((n9 w y a8).re) (a8+v1),true,⟨[n],(ah (ab w (ae (y.na)) 2).1 (ab w (ae (y.na)) 2).2 n).ru,(ah (ab w (ae (y.na)) 2).1 (ab w (ae (y.na)) 2).2 n).wa⟩,y.tr,[]⟩:k9).re) ((⟨y.na,max ((n9 w y a8).re) (a8+v1),true,⟨[n],(ah (ab w (ae (y.na)) 2).1 (ab w (ae (y.na)) 2).2 n).ru,(ah (ab w (ae (y.na)) 2).1 (ab w (ae (y.na)) 2).2 n).wa⟩,y.tr,[]⟩:k9).kn) ((⟨y.na,max ((n9 w y a8).re) (a8+v1),true,⟨[n],(ah (ab w (ae (y.na)) 2).1 (ab w (ae (y.na)) 2).2 n).ru,(ah (ab w (ae (y.na)) 2).1 (ab w (ae (y.na)) 2).2 n).wa⟩,y.tr,[]⟩:k9).gr.na) ((⟨y.na,max ((n9 w y a8).re) (a8+v1),true,⟨[n],(ah (ab w (ae (y.na)) 2).1 (ab w (ae (y.na)) 2).2 n).ru,(ah (ab w (ae (y.na)) 2).1 (ab w (ae (y.na)) 2).2 n).wa⟩,y.tr,[]⟩:k9).gr.ru) ((⟨y.na,max ((n9 w y a8).re) (a8+v1),true,⟨[n],(ah (ab w (ae (y.na)) 2).1 (ab w (ae (y.na)) 2).2 n).ru,(ah (ab w (ae (y.na)) 2).1 (ab w (ae (y.na)) 2).2 n).wa⟩,y.tr,[]⟩:k9).gr.wa) ((⟨y.na,max ((n9 w y a8).re) (a8+v1),true,⟨[n],(ah (ab w (ae (y.na)) 2).1 (ab w (ae (y.na)) 2).2 n).ru,(ah (ab w (ae (y.na)) 2).1 (ab w (ae (y.na)) 2).2 n).wa⟩,y.tr,[]⟩:k9).tr) (y.td.filter (MP (bg w n y.na).ru)) g o c se (ls++[(⟨a8,(ae (y.na)),(ab w (ae (y.na)) (y.tr)).1⟩:l8)]):V)=bH n a8 (zs.set ix ({ n9 w y a8 with kn:=true,gr:=(bg w n y.na),re:=max (n9 w y a8).re (a8+((bg w n y.na).wa:Int)),td:=y.td.filter (MP (bg w n y.na).ru) }:k9)) g o c se (ls++[(⟨a8,(ae (y.na)),(ab w (ae (y.na)) (y.tr)).1⟩:l8)]))/\Q (.tup []) (.tup [])/\Er gw v8/\Qr gt (bH n a8 (zs.set ix ({ n9 w y a8 with kn:=true,gr:=(bg w n y.na),re:=max (n9 w y a8).re (a8+((bg w n y.na).wa:Int)),td:=y.td.filter (MP (bg w n y.na).ru) }:k9)) g o c se (ls++[(⟨a8,(ae (y.na)),(ab w (ae (y.na)) (y.tr)).1⟩:l8)])) gt v7) (.agg [sV (y.na),iV (max ((n9 w y a8).re) (a8+v1)),bV true,iX v9 ((ah (ab w (ae (y.na)) 2).1 (ab w (ae (y.na)) 2).2 n).ru) ((ah (ab w (ae (y.na)) 2).1 (ab w (ae (y.na)) 2).2 n).wa),iV (y.tr),.own 2 ((y.td).map ak) ga oa ca]:V)))) (bH n a8 zs g o c se ls)) (.agg [.mp (w.map E7),.ptr (.key 1000) [] gt 0])) (bH n a8 (zs.set ix (Ml w n y a8)) g o c se (ls++[(⟨a8,ae y.na,(ab w (ae y.na) y.tr).1⟩:l8)]))) (o6 ((ab w (ae (y.na)) (y.tr)).1) 3)) (rM n a8 zs ix (y.na) (max ((n9 w y a8).re) (a8+v1)) v9 ((ah (ab w (ae (y.na)) 2).1 (ab w (ae (y.na)) 2).2 n).ru) ((ah (ab w (ae (y.na)) 2).1 (ab w (ae (y.na)) 2).2 n).wa) (y.tr) (y.td) g o c se (ls++[(⟨a8,(ae (y.na)),(ab w (ae (y.na)) (y.tr)).1⟩:l8)]))) (Cd n a8 zs ix (y.na) ((n9 w y a8).re) (y.gr.na) (y.gr.ru) (y.gr.wa) (y.tr) (y.td) g o c se (ls++[(⟨a8,(ae (y.na)),(ab w (ae (y.na)) (y.tr)).1⟩:l8)]))) (cU n a8 zs ix (y.na) ((n9 w y a8).re) (y.kn) (y.gr.na) (y.gr.ru) (y.gr.wa) (y.tr) (y.td) g o c se (ls++[(⟨a8,(ae (y.na)),(ab w (ae (y.na)) (y.tr)).1⟩:l8)]))) (rM n a8 zs ix (y.na) ((n9 w y a8).re) v9 ((ah (ab w (ae (y.na)) 2).1 (ab w (ae (y.na)) 2).2 n).ru) ((ah (ab w (ae (y.na)) 2).1 (ab w (ae (y.na)) 2).2 n).wa) (y.tr) (y.td) g o c se (ls++[(⟨a8,(ae (y.na)),(ab w (ae (y.na)) (y.tr)).1⟩:l8)]))) (.sl false ([n].map sV))) (((ah (ab w (ae (y.na)) 2).1 (ab w (ae (y.na)) 2).2 n).wa:Nat):Int)) ?_
 subst WI
 intro g3
 refine⟨trivial,rfl,rfl,rfl,trivial,(aT (f:=2) rfl).trans (aJ (an (d:=b7) Z9) rfl),rfl,by have:=hy.n;omega,rfl,trivial,(aT (f:=2) rfl).trans (aJ (an (d:=b7) Z9) rfl),by first | rfl | (exfalso;omega) | (simp only[Nat.zero_add]) | (simp;omega),rfl,rfl,⟨hi,hl,by have:=hy.k;omega,hn,rfl,hy.w⟩,Ni (congrArg (V.own 8 · g o c) (Dy (f:=aE) (a:=n9 w (zs.getD ix b7) a8) hi)),fun hG=>rfl,fun hG=>trivial,fun hG=>(aT (f:=2) rfl).trans (aJ (aK Z9) rfl),fun hG=>by(try simp only[nb]at hG);have:=hy.k;omega,⟨fun h=>by rw[h] <;> rfl,fun _=>rfl⟩,?_⟩
 refine bI (fun j9=>?_) fun j9=>?_
 refine⟨rfl,trivial,(aT (f:=2) rfl).trans (aJ (aK Z9) rfl),by have:=hy.k;omega,trivial,(aT (f:=2) rfl).trans (aJ (aK Z9) rfl),dH (aX (aK Z9) (cY Z9)),Ni (congrArg (V.own 8 · g o c) (lE (f:=aE) (x:=({ n9 w (zs.getD ix b7) a8 with tr:=(zs.getD ix b7).tr+1 }:k9)) Z9)),?_⟩
 refine⟨?_,rfl,by rw[KT j9]⟩
 unfold Q
 rfl
 refine⟨rfl,trivial,(aT (f:=2) rfl).trans (aJ (aK Z9) rfl),dH (aX (aK Z9) (cY Z9)),rfl,trivial,rfl,rfl,trivial,(aT (f:=2) rfl).trans (aJ (aK Z9) rfl),trivial,rfl,rfl,⟨by have:=hy.n;omega,by have:=pL (w:=w) (a:=ae (zs.getD ix b7).na) (k:=2) (m:=300) (fun i=>⟨(hz i).t,by have:=(hz i).l;omega⟩);omega⟩,trivial,(aT (f:=2) rfl).trans (aJ (aK Z9) rfl),dH (aX (aK Z9) (cY Z9)),rfl,rfl,trivial,(aT (f:=2) rfl).trans (aJ (aK Z9) rfl),trivial,rfl,rfl,trivial,(aT (f:=2) rfl).trans (aJ (aK Z9) rfl),by have:=jY (ab w (ae (zs.getD ix b7).na) 2).1 (ab w (ae (zs.getD ix b7).na) 2).2 n;omega,rfl,trivial,(aT (f:=2) rfl).trans (aJ (aK Z9) rfl),dH (aX (aK Z9) (cY Z9)),(aT (f:=2) rfl).trans (aJ (aK Z9) rfl),?_⟩
 intro ga oa ca
 refine⟨dH (aX (aK Z9) (cY Z9)),rfl,rfl,trivial,(aT (f:=2) rfl).trans (aJ (aK Z9) rfl),rfl,?_⟩
 intro _
 refine⟨⟨rfl,rfl,rfl,⟨⟨hi,by have:=hy.t;omega,fun x hx=>⟨(hy.ta x hx).1,(hy.ta x hx).2.1⟩,Nat.le_trans (oY _ _ _).1 Z9,fun i=>tI (p:=fun r:o9=>r.path.length<=1000) (fun r hr=>by have:=(oY (ab w (ae (zs.getD ix b7).na) 2).1 (ab w (ae (zs.getD ix b7).na) 2).2 n).2 r hr;omega) Z8 i⟩,rfl,rfl,trivial⟩⟩,?_⟩
 intro _
 refine⟨trivial,⟨rfl,rfl,(aT (f:=2) rfl).trans (aJ (aK Z9) rfl),rfl,by rw[List.length_map,FP];exact List.length_filter_le ..,cM (f:=ak) (fun _=>rfl) _⟩,?_⟩
 intro _
 refine⟨(congrArg (fun r:V=>V.set (.agg [sV n,iV a8,.own 8 ((zs.take ix).map aE++(.agg [sV ((⟨(zs.getD ix b7).na,max ((n9 w (zs.getD ix b7) a8).re) (a8+(((ah (ab w (ae ((zs.getD ix b7).na)) 2).1 (ab w (ae ((zs.getD ix b7).na)) 2).2 n).wa:Nat):Int)),true,⟨[n],(ah (ab w (ae ((zs.getD ix b7).na)) 2).1 (ab w (ae ((zs.getD ix b7).na)) 2).2 n).ru,(ah (ab w (ae ((zs.getD ix b7).na)) 2).1 (ab w (ae ((zs.getD ix b7).na)) 2).2 n).wa⟩,(zs.getD ix b7).tr,[]⟩:k9).na),iV ((⟨(zs.getD ix b7).na,max ((n9 w (zs.getD ix b7) a8).re) (a8+(((ah (ab w (ae ((zs.getD ix b7).na)) 2).1 (ab w (ae ((zs.getD ix b7).na)) 2).2 n).wa:Nat):Int)),true,⟨[n],(ah (ab w (ae ((zs.getD ix b7).na)) 2).1 (ab w (ae ((zs.getD ix b7).na)) 2).2 n).ru,(ah (ab w (ae ((zs.getD ix b7).na)) 2).1 (ab w (ae ((zs.getD ix b7).na)) 2).2 n).wa⟩,(zs.getD ix b7).tr,[]⟩:k9).re),bV ((⟨(zs.getD ix b7).na,max ((n9 w (zs.getD ix b7) a8).re) (a8+(((ah (ab w (ae ((zs.getD ix b7).na)) 2).1 (ab w (ae ((zs.getD ix b7).na)) 2).2 n).wa:Nat):Int)),true,⟨[n],(ah (ab w (ae ((zs.getD ix b7).na)) 2).1 (ab w (ae ((zs.getD ix b7).na)) 2).2 n).ru,(ah (ab w (ae ((zs.getD ix b7).na)) 2).1 (ab w (ae ((zs.getD ix b7).na)) 2).2 n).wa⟩,(zs.getD ix b7).tr,[]⟩:k9).kn),.agg [.sl false (((⟨(zs.getD ix b7).na,max ((n9 w (zs.getD ix b7) a8).re) (a8+(((ah (ab w (ae ((zs.getD ix b7).na)) 2).1 (ab w (ae ((zs.getD ix b7).na)) 2).2 n).wa:Nat):Int)),true,⟨[n],(ah (ab w (ae ((zs.getD ix b7).na)) 2).1 (ab w (ae ((zs.getD ix b7).na)) 2).2 n).ru,(ah (ab w (ae ((zs.getD ix b7).na)) 2).1 (ab w (ae ((zs.getD ix b7).na)) 2).2 n).wa⟩,(zs.getD ix b7).tr,[]⟩:k9).gr.na).map sV),.sl false (((⟨(zs.getD ix b7).na,max ((n9 w (zs.getD ix b7) a8).re) (a8+(((ah (ab w (ae ((zs.getD ix b7).na)) 2).1 (ab w (ae ((zs.getD ix b7).na)) 2).2 n).wa:Nat):Int)),true,⟨[n],(ah (ab w (ae ((zs.getD ix b7).na)) 2).1 (ab w (ae ((zs.getD ix b7).na)) 2).2 n).ru,(ah (ab w (ae ((zs.getD ix b7).na)) 2).1 (ab w (ae ((zs.getD ix b7).na)) 2).2 n).wa⟩,(zs.getD ix b7).tr,[]⟩:k9).gr.ru).map au),iN ((⟨(zs.getD ix b7).na,max ((n9 w (zs.getD ix b7) a8).re) (a8+(((ah (ab w (ae ((zs.getD ix b7).na)) 2).1 (ab w (ae ((zs.getD ix b7).na)) 2).2 n).wa:Nat):Int)),true,⟨[n],(ah (ab w (ae ((zs.getD ix b7).na)) 2).1 (ab w (ae ((zs.getD ix b7).na)) 2).2 n).ru,(ah (ab w (ae ((zs.getD ix b7).na)) 2).1 (ab w (ae ((zs.getD ix b7).na)) 2).2 n).wa⟩,(zs.getD ix b7).tr,[]⟩:k9).gr.wa)],iV ((⟨(zs.getD ix b7).na,max ((n9 w (zs.getD ix b7) a8).re) (a8+(((ah (ab w (ae ((zs.getD ix b7).na)) 2).1 (ab w (ae ((zs.getD ix b7).na)) 2).2 n).wa:Nat):Int)),true,⟨[n],(ah (ab w (ae ((zs.getD ix b7).na)) 2).1 (ab w (ae ((zs.getD ix b7).na)) 2).2 n).ru,(ah (ab w (ae ((zs.getD ix b7).na)) 2).1 (ab w (ae ((zs.getD ix b7).na)) 2).2 n).wa⟩,(zs.getD ix b7).tr,[]⟩:k9).tr),.own 2 ((fW (⟨(zs.getD ix b7).na,max ((n9 w (zs.getD ix b7) a8).re) (a8+(((ah (ab w (ae ((zs.getD ix b7).na)) 2).1 (ab w (ae ((zs.getD ix b7).na)) 2).2 n).wa:Nat):Int)),true,⟨[n],(ah (ab w (ae ((zs.getD ix b7).na)) 2).1 (ab w (ae ((zs.getD ix b7).na)) 2).2 n).ru,(ah (ab w (ae ((zs.getD ix b7).na)) 2).1 (ab w (ae ((zs.getD ix b7).na)) 2).2 n).wa⟩,(zs.getD ix b7).tr,[]⟩:k9) ((zs.getD ix b7).td)).map ak) ga oa ca]:V)::(zs.drop (ix+1)).map aE) g o c,.ow 1 (se.map sV),.ow 3 ((ls++[(⟨a8,(ae ((zs.getD ix b7).na)),(ab w (ae ((zs.getD ix b7).na)) ((zs.getD ix b7).tr)).1⟩:l8)]).map ba)]) [2,ix,5] r) (congrArg (V.own 2 · ga oa ca) (Eh.trans rfl))).trans (dH (aX (aK Z9) (cY Z9))),(aT (f:=2) rfl).trans (aJ (aK Z9) rfl),dH (aX (aK Z9) (cY Z9)),Ni (congrArg (V.own 8 · g o c) (lE (f:=aE) (x:=({ n9 w (zs.getD ix b7) a8 with kn:=true,gr:=(bg w n (zs.getD ix b7).na),re:=max (n9 w (zs.getD ix b7) a8).re (a8+((bg w n (zs.getD ix b7).na).wa:Int)),td:=(zs.getD ix b7).td.filter (MP (bg w n (zs.getD ix b7).na).ru) }:k9)) Z9)),?_⟩
 refine⟨?_,rfl,by rw[KO j9]⟩
 unfold Q
 rfl)
end Go.Proofs.YtbjbamjffkanbaaGreatDoor
namespace Go.Proofs.YtbjbamjffkanbaaGreatDoor
open Go Go.Abs Go.RowKit Go.Pd
set_option maxRecDepth 20000
theorem EL{α:Type}{l:List α}{i:Nat}{a d:α}(h:i<l.length):(l.set i a).getD i d=a:=by
 rw[List.getD_eq_getElem?_getD,List.getElem?_set_self h];rfl
theorem IQ{α:Type}{l:List α}{f:α->V}{a b:α}{i:Nat}(hi:i<l.length):((l.set i a).set i b).map f=(l.take i).map f++f b::(l.drop (i+1)).map f:=by
 rw[List.set_set];exact Dy hi
theorem Lv{l:List w4}(h:0<l.length):((l.drop 1++[j6]).map ak).take (l.length-1)=(l.drop 1).map ak:=by
 rw[<- List.map_take,List.take_left' Z8]
theorem Kh{w:List Pg}{a:BL}{k:Int}(hz:∀ i,m8 (w.getD i l5)):(ab w a k).2.length<=4611686018427387904:=by
 have:=pL (w:=w) (a:=a) (k:=k) (m:=300) (fun i=>⟨(hz i).t,by have:=(hz i).l;omega⟩);omega
theorem FW{w:List Pg}{a:BL}{k:Int}(hz:∀ i,m8 (w.getD i l5)):m4 (ab w a k).2:=by
 unfold ab
 split
 exact bb
 rename_i h1
 obtain⟨i,hi⟩:=sj w a (by simpa using h1)
 rw[hi]
 split
 exact bb
 split
 exact(hz i).ta
 exact(hz i).la
theorem Gk{w:List Pg}{a:BL}{k:Int}(hw:aq w=true)(hz:∀ i,m8 (w.getD i l5))(h:(ab w a k).1=2):aD (ab w a k).2=true/\m4 (ab w a k).2:=by
 unfold ab at h ⊢
 split at h
 cases h
 rename_i h1
 rw[if_neg h1]
 split at h
 cases h
 rename_i h2
 rw[if_neg h2]
 split at h
 cases h
 rename_i h3
 rw[if_neg h3]
 obtain⟨i,hi⟩:=sj w a (by simpa using h1)
 simp only
 rw[hi]at h3 ⊢
 have hl:i<w.length:=by
  rcases Nat.lt_or_ge i w.length with c | c
  exact c
  exact absurd (by rw[List.getD_eq_getElem?_getD,List.getElem?_eq_none c];rfl) h3
 unfold aq at hw
 simp only[Bool.and_eq_true,decide_eq_true_eq]at hw
 have hp:=(hw.1 i hl).1
 unfold dK at hp
 simp only[Bool.and_eq_true,Bool.or_eq_true,beq_iff_eq]at hp
 rcases hp.2 with c | c
 exact absurd c h3
 exact⟨c.2,(hz i).la⟩
theorem JW{s:BL}(h:aD s=true):s.length<=1000:=by
 unfold aD at h
 rw[Bool.and_eq_true]at h
 have:=Ff h.1;omega
theorem rm{w:List Pg}{a:BL}{k:Int}{b:s4}(hw:aq w=true)(hz:∀ i,m8 (w.getD i l5)):∀ m,m∈(if (ab w a k).1=1 then bA b (ab w a k).2 else if (ab w a k).1=2 then [(ab w a k).2] else [])->m.length<=1000/\m4 m/\(af m).length<=1000:=by
 intro m hm
 have key:aD m=true/\m4 m:=by
  split at hm
  exact Ei m hm
  split at hm
  rename_i h2
  rw[List.mem_singleton.1 hm]
  exact Gk hw hz h2
  simp at hm
 exact⟨JW key.1,key.2,(mZ m).1⟩
theorem Eg{k:Int}{b:s4}{t:BL}:(if k=1 then bA b t else if k=2 then [t] else []).length<=300:=by
 split
 exact(Ah b t).1
 split <;> simp
theorem Lg{n:BL}{a8:Int}{zs:List k9}{se:List BL}{ls0 ls:List l8}{ix:Nat}{w:List Pg}(hi:ix<zs.length)(hy:HS 60 (zs.getD ix b7))(ht:TS ⟨n,a8,zs,se,ls0⟩):TS ⟨n,a8,zs.set ix (A8 w (zs.getD ix b7) a8),se,ls⟩:=by
 refine⟨ht.s,by rw[List.length_set];exact ht.h,ht.sa,fun y h=>?_⟩
 rcases bN h with e | h
 have q:HS se.length (zs.getD ix b7):=ht.ha _ (aw (d:=b7) hi)
 rw[e]
 refine⟨q.n,q.r,q.rp,q.w,?_,fun x hx=>?_,q.k⟩
 show ((zs.getD ix b7).td.drop 1).length+60<=1000+se.length
 have:=q.t
 rw[List.length_drop];omega
 exact q.ta x (List.mem_of_mem_drop hx)
 exact ht.ha y h
section
variable {w:List Pg} {n:BL} {a8:Int} {zs:List k9} {se:List BL} {ls:List l8} {ix:Nat}
theorem LB(h:(ab w ((zs.getD ix b7).td.getD 0 j6).ad ((zs.getD ix b7).td.getD 0 j6).tr).1=3/\((zs.getD ix b7).td.getD 0 j6).tr+1<3):LQ w ⟨n,a8,zs,se,ls⟩ ix=⟨n,a8,zs.set ix { A8 w (zs.getD ix b7) a8 with td:=(zs.getD ix b7).td.drop 1++[⟨((zs.getD ix b7).td.getD 0 j6).ad,((zs.getD ix b7).td.getD 0 j6).tr+1⟩] },se,ls++[⟨a8,((zs.getD ix b7).td.getD 0 j6).ad,(ab w ((zs.getD ix b7).td.getD 0 j6).ad ((zs.getD ix b7).td.getD 0 j6).tr).1⟩]⟩:=if_pos h
theorem LD(h:(ab w ((zs.getD ix b7).td.getD 0 j6).ad ((zs.getD ix b7).td.getD 0 j6).tr).1=3->3<=((zs.getD ix b7).td.getD 0 j6).tr+1)(h2:(aB ((zs.getD ix b7).td.getD 0 j6).ad).isSome=false):LQ w ⟨n,a8,zs,se,ls⟩ ix=⟨n,a8,zs.set ix (A8 w (zs.getD ix b7) a8),se,ls++[⟨a8,((zs.getD ix b7).td.getD 0 j6).ad,(ab w ((zs.getD ix b7).td.getD 0 j6).ad ((zs.getD ix b7).td.getD 0 j6).tr).1⟩]⟩:=by
 unfold LQ
 simp only
 rw[if_neg (fun c=>by have:=h c.1;omega),if_neg (by rw[<- gH,h2];decide)]
theorem Ly(h:(ab w ((zs.getD ix b7).td.getD 0 j6).ad ((zs.getD ix b7).td.getD 0 j6).tr).1=3->3<=((zs.getD ix b7).td.getD 0 j6).tr+1)(h2:(aB ((zs.getD ix b7).td.getD 0 j6).ad).isSome=true):LQ w ⟨n,a8,zs,se,ls⟩ ix=(if (ab w ((zs.getD ix b7).td.getD 0 j6).ad ((zs.getD ix b7).td.getD 0 j6).tr).1=1 then bA (oA (aB ((zs.getD ix b7).td.getD 0 j6).ad)) (ab w ((zs.getD ix b7).td.getD 0 j6).ad ((zs.getD ix b7).td.getD 0 j6).tr).2 else if (ab w ((zs.getD ix b7).td.getD 0 j6).ad ((zs.getD ix b7).td.getD 0 j6).tr).1=2 then [(ab w ((zs.getD ix b7).td.getD 0 j6).ad ((zs.getD ix b7).td.getD 0 j6).tr).2] else []).foldl ao ⟨n,a8,zs.set ix (A8 w (zs.getD ix b7) a8),se,ls++[⟨a8,((zs.getD ix b7).td.getD 0 j6).ad,(ab w ((zs.getD ix b7).td.getD 0 j6).ad ((zs.getD ix b7).td.getD 0 j6).tr).1⟩]⟩:=by
 rw[gH]at h2
 have e:aB ((zs.getD ix b7).td.getD 0 j6).ad=ar ((zs.getD ix b7).td.getD 0 j6).ad:=if_pos h2
 unfold LQ
 simp only
 rw[if_neg (fun c=>by have:=h c.1;omega),if_pos h2,e];rfl
end
def zO(n:BL)(a8:Int)(zs:List k9)(se:List BL)(ls:List l8)(gt:Nat)(g:Nat)(o:Nat)(c:Nat)(gw:Nat)(ix:Nat)(w:List Pg):o8 Tryz.prog:=.mk 113 [.ptr (.key 1001) [] gw 0,.ptr (.key 1000) [2,ix] g (o+ix*8)] [(1001,(gw,.agg [.mp (w.map E7),.ptr (.key 1000) [] gt 0])),(1000,(gt,bH n a8 zs g o c se ls))] ((ix<zs.length)/\(ls.length<=1000)/\(0<=a8/\a8<=100000)/\(HS 60 (zs.getD ix b7))/\(aq w=true)/\(∀ i,m8 (w.getD i l5))/\(0<(zs.getD ix b7).td.length)/\(TS ⟨n,a8,zs,se,ls⟩)/\(n.length<=1000)) (.tup []) [(1001,(gw,.agg [.mp (w.map E7),.ptr (.key 1000) [] gt 0])),(1000,(gt,bG n a8 ((LQ w (⟨n,a8,zs,se,ls⟩:l4) ix).hs) ((LQ w (⟨n,a8,zs,se,ls⟩:l4) ix).se) ((LQ w (⟨n,a8,zs,se,ls⟩:l4) ix).lk)))] (by
 rintro⟨hi,hl,hn,hy,hw,hz,hne,ht,hnn⟩
 have hit:=hy.ta _ (aw (d:=j6) hne)
 have Xe:=hy.t
 generalize WJ:(zs.getD ix b7).td.getD 0 j6=x0
 generalize WI:zs.getD ix b7=y
 refine az (N:=81) (rs:=[]) Tryz.func113
  (.h (.A6 1000 (cU n a8 zs ix (y.na) (y.re) (y.kn) (y.gr.na) (y.gr.ru) (y.gr.wa) (y.tr) (y.td) g o c se ls))<|.Pv (.key 1000) [2,ix,5] g (o+(ix)*8+7) 2 ((y.td).map ak) (fun ga oa ca=>.h (.A6 1000 (bz n a8 zs ix (y.na) (y.re) (y.kn) (y.gr.na) (y.gr.ru) (y.gr.wa) (y.tr) (y.td) ga oa ca g o c se ls))<|.r 6 [.own 2 ((y.td).map ak) ga oa ca,.agg [sV (((y.td).getD 0 j6).ad),iV (((y.td).getD 0 j6).tr)]]<|.al sL (fun g4=>.st none<|.r 5 [.own 2 ((y.td).map ak) ga oa ca]<|.c (CO n a8 zs se ls gt g o c ix y ga oa ca (y.td)) [(1000,1000)]<|.q 2<|.cu (W9 1000 [2,ix,5] ((y.td).length-1) 2 (((y.td).drop 1++[j6]).map ak) ga oa ca g (o+(ix)*8+7)) (fun _=>.h (.A6 1000 (bz n a8 zs ix (y.na) (y.re) (y.kn) (y.gr.na) (y.gr.ru) (y.gr.wa) (y.tr) (y.td.drop 1) ga oa ca g o c se ls))<|.h (.ON (.key 1000) [2,ix,5] g (o+(ix)*8+7) (.own 2 ((y.td.drop 1).map ak) ga oa ca) (.ow 2 ((y.td.drop 1).map ak)))<|.h (.A6 1000 (cU n a8 zs ix (y.na) (y.re) (y.kn) (y.gr.na) (y.gr.ru) (y.gr.wa) (y.tr) (y.td.drop 1) g o c se ls))<|.h (.A6 1000 (bH n a8 (zs.set ix ({ y with td:=y.td.drop 1 }:k9)) g o c se ls))<|.r 6 [.c9,.c9]<|.c (yD n a8 (zs.set ix ({ y with td:=y.td.drop 1 }:k9)) se ls gt g o c gw ix w (((y.td).getD 0 j6).ad) (((y.td).getD 0 j6).tr) ({ y with td:=y.td.drop 1 }:k9)) [(1001,1001),(1000,1000)]<|.q 5<|.h (.A6 1000 (cU n a8 zs ix (y.na) ((A8 w y a8).re) (y.kn) (y.gr.na) (y.gr.ru) (y.gr.wa) (y.tr) (y.td.drop 1) g o c se (ls++[(⟨a8,(((y.td).getD 0 j6).ad),(ab w (((y.td).getD 0 j6).ad) (((y.td).getD 0 j6).tr)).1⟩:l8)])))<|.r 8 [.c9]<|.br (.r 4 [.c9]<|.st none<|.Pv (.key 1000) [2,ix,5] g (o+(ix)*8+7) 2 ((y.td.drop 1).map ak) (fun PD Pu PI=>.h (.A6 1000 (bz n a8 zs ix (y.na) ((A8 w y a8).re) (y.kn) (y.gr.na) (y.gr.ru) (y.gr.wa) (y.tr) (y.td.drop 1) PD Pu PI g o c se (ls++[(⟨a8,(((y.td).getD 0 j6).ad),(ab w (((y.td).getD 0 j6).ad) (((y.td).getD 0 j6).tr)).1⟩:l8)])))<|.dx 8 [0,1,2,3,4,5,6,7] [(4,⟨false,[],some [1000],[51],[]⟩),(5,⟨false,[],some [4],[52],[]⟩),(7,⟨true,[],none,[54],[1000]⟩)] []<|.q 1<|.q 1<|.q 1<|.q 1<|.r 1 [.own 2 ((y.td.drop 1).map ak) PD Pu PI]<|.r 1 [.c9]<|.bs<|.eu (VA 1000 [2,ix,5] ((y.td.drop 1).map ak) ([.agg [sV (((y.td).getD 0 j6).ad),iV ((((y.td).getD 0 j6).tr)+1)]]:List V) g (o+(ix)*8+7) 2 PD Pu PI) (fun LN=>.h (.A6 1000 (ma n a8 zs ix (y.na) ((A8 w y a8).re) (y.kn) (y.gr.na) (y.gr.ru) (y.gr.wa) (y.tr) g o c se (ls++[(⟨a8,(((y.td).getD 0 j6).ad),(ab w (((y.td).getD 0 j6).ad) (((y.td).getD 0 j6).tr)).1⟩:l8)])))<|.h (.o5 54 (.own 2 (((y.td.drop 1)++[(⟨((y.td).getD 0 j6).ad,(((y.td).getD 0 j6).tr)+1⟩:w4)]).map ak) LN.1 LN.2.1 LN.2.2))<|.q 2<|.st (some (.c9))<|.h (.A6 1000 (bz n a8 zs ix (y.na) ((A8 w y a8).re) (y.kn) (y.gr.na) (y.gr.ru) (y.gr.wa) (y.tr) ((y.td.drop 1)++[(⟨((y.td).getD 0 j6).ad,(((y.td).getD 0 j6).tr)+1⟩:w4)]) LN.1 LN.2.1 LN.2.2 g o c se (ls++[(⟨a8,(((y.td).getD 0 j6).ad),(ab w (((y.td).getD 0 j6).ad) (((y.td).getD 0 j6).tr)).1⟩:l8)])))<|.h (.ON (.key 1000) [2,ix,5] g (o+(ix)*8+7) (.own 2 (((y.td.drop 1)++[(⟨((y.td).getD 0 j6).ad,(((y.td).getD 0 j6).tr)+1⟩:w4)]).map ak) LN.1 LN.2.1 LN.2.2) (.ow 2 (((y.td.drop 1)++[(⟨((y.td).getD 0 j6).ad,(((y.td).getD 0 j6).tr)+1⟩:w4)]).map ak)))<|.h (.A6 1000 (cU n a8 zs ix (y.na) ((A8 w y a8).re) (y.kn) (y.gr.na) (y.gr.ru) (y.gr.wa) (y.tr) ((y.td.drop 1)++[(⟨((y.td).getD 0 j6).ad,(((y.td).getD 0 j6).tr)+1⟩:w4)]) g o c se (ls++[(⟨a8,(((y.td).getD 0 j6).ad),(ab w (((y.td).getD 0 j6).ad) (((y.td).getD 0 j6).tr)).1⟩:l8)])))<|.h (.A6 1000 (bH n a8 (zs.set ix ({ (A8 w y a8) with td:=y.td.drop 1++[(⟨x0.ad,x0.tr+1⟩:w4)] }:k9)) g o c se (ls++[(⟨a8,(((y.td).getD 0 j6).ad),(ab w (((y.td).getD 0 j6).ad) (((y.td).getD 0 j6).tr)).1⟩:l8)])))<|.nil))) (.r 2 [.c9]<|.c (cH (((y.td).getD 0 j6).ad)) []<|.q 3<|.al dc (fun g7=>.st none<|.q 1<|.h (.A6 1000 (bH n a8 (zs.set ix (A8 w y a8)) g o c se (ls++[(⟨a8,(((y.td).getD 0 j6).ad),(ab w (((y.td).getD 0 j6).ad) (((y.td).getD 0 j6).tr)).1⟩:l8)])))<|.q 2<|.br (.nil) (.r 3 [.c9]<|.c (Ba (oA (aB (((y.td).getD 0 j6).ad))) ((ab w (((y.td).getD 0 j6).ad) (((y.td).getD 0 j6).tr)).1) ((ab w (((y.td).getD 0 j6).ad) (((y.td).getD 0 j6).tr)).2)) []<|.q 2<|.loop (Nat×(List k9)×(List BL)) (fun (i,zz,ss)=>⟨[(0,.ptr (.key 1001) [] gw 0),(68,ay (if (ab w x0.ad x0.tr).1=1 then bA (oA (aB x0.ad)) (ab w x0.ad x0.tr).2 else if (ab w x0.ad x0.tr).1=2 then [(ab w x0.ad x0.tr).2] else [])),(69,iN (((if (ab w x0.ad x0.tr).1=1 then bA (oA (aB x0.ad)) (ab w x0.ad x0.tr).2 else if (ab w x0.ad x0.tr).1=2 then [(ab w x0.ad x0.tr).2] else [])).length)),(70,iN i)],[(1001,(gw,.agg [.mp (w.map E7),.ptr (.key 1000) [] gt 0])),(1000,(gt,bG n a8 zz ss (ls++[(⟨a8,x0.ad,(ab w x0.ad x0.tr).1⟩:l8)])))]⟩) (fun (i,zz,ss)=>i<=((if (ab w x0.ad x0.tr).1=1 then bA (oA (aB x0.ad)) (ab w x0.ad x0.tr).2 else if (ab w x0.ad x0.tr).1=2 then [(ab w x0.ad x0.tr).2] else [])).length/\zz=((((if (ab w x0.ad x0.tr).1=1 then bA (oA (aB x0.ad)) (ab w x0.ad x0.tr).2 else if (ab w x0.ad x0.tr).1=2 then [(ab w x0.ad x0.tr).2] else [])).take i).foldl ao (⟨n,a8,zs.set ix (A8 w y a8),se,ls++[(⟨a8,x0.ad,(ab w x0.ad x0.tr).1⟩:l8)]⟩:l4)).hs/\ss=((((if (ab w x0.ad x0.tr).1=1 then bA (oA (aB x0.ad)) (ab w x0.ad x0.tr).2 else if (ab w x0.ad x0.tr).1=2 then [(ab w x0.ad x0.tr).2] else [])).take i).foldl ao (⟨n,a8,zs.set ix (A8 w y a8),se,ls++[(⟨a8,x0.ad,(ab w x0.ad x0.tr).1⟩:l8)]⟩:l4)).se) (fun (i,zz,ss)=>((if (ab w x0.ad x0.tr).1=1 then bA (oA (aB x0.ad)) (ab w x0.ad x0.tr).2 else if (ab w x0.ad x0.tr).1=2 then [(ab w x0.ad x0.tr).2] else [])).length-i) (fun (i,zz,ss)=>.q 1<|.br (.r 3 [sV ((if (ab w x0.ad x0.tr).1=1 then bA (oA (aB x0.ad)) (ab w x0.ad x0.tr).2 else if (ab w x0.ad x0.tr).1=2 then [(ab w x0.ad x0.tr).2] else []).getD i [])]<|.r 5 [.c9]<|.c (uW n a8 zz ss (ls++[(⟨a8,x0.ad,(ab w x0.ad x0.tr).1⟩:l8)]) gt ((if (ab w x0.ad x0.tr).1=1 then bA (oA (aB x0.ad)) (ab w x0.ad x0.tr).2 else if (ab w x0.ad x0.tr).1=2 then [(ab w x0.ad x0.tr).2] else []).getD i [])) [(1000,1000)]<|.q 2<|.nil) (.nil)))))))))
  ((fun v1:V=>(fun v2:V=>(fun v3:V=>(((bH n a8 zs g o c se ls:V)=cU n a8 zs ix (y.na) (y.re) (y.kn) (y.gr.na) (y.gr.ru) (y.gr.wa) (y.tr) (y.td) g o c se ls)/\(V.at gt 0 (cU n a8 zs ix (y.na) (y.re) (y.kn) (y.gr.na) (y.gr.ru) (y.gr.wa) (y.tr) (y.td) g o c se ls) [2,ix,5]=some (g,o+(ix)*8+7,.ow 2 ((y.td).map ak)))/\∀ ga oa ca:Nat,(V.set (cU n a8 zs ix (y.na) (y.re) (y.kn) (y.gr.na) (y.gr.ru) (y.gr.wa) (y.tr) (y.td) g o c se ls) [2,ix,5] (.own 2 ((y.td).map ak) ga oa ca)=bz n a8 zs ix (y.na) (y.re) (y.kn) (y.gr.na) (y.gr.ru) (y.gr.wa) (y.tr) (y.td) ga oa ca g o c se ls)/\True/\(V.at gt 0 (bz n a8 zs ix (y.na) (y.re) (y.kn) (y.gr.na) (y.gr.ru) (y.gr.wa) (y.tr) (y.td) ga oa ca g o c se ls) [2,ix,5]=some (g,(o+ix*8+7),.own 2 ((y.td).map ak) ga oa ca))/\In 0 (((y.td).map ak).length)/\(V.at gt 0 (bz n a8 zs ix (y.na) (y.re) (y.kn) (y.gr.na) (y.gr.ru) (y.gr.wa) (y.tr) (y.td) ga oa ca g o c se ls) [2,ix,5,0+0]=some (ga,(oa+(0+0)*2),.agg [sV (((y.td).getD 0 j6).ad),iV (((y.td).getD 0 j6).tr)]))/\∀ g4:Nat,Z g4 0/\True/\(V.at gt 0 (bz n a8 zs ix (y.na) (y.re) (y.kn) (y.gr.na) (y.gr.ru) (y.gr.wa) (y.tr) (y.td) ga oa ca g o c se ls) [2,ix,5]=some (g,(o+ix*8+7),.own 2 ((y.td).map ak) ga oa ca))/\(CO n a8 zs se ls gt g o c ix y ga oa ca (y.td)).sm/\Er gt (bz n a8 zs ix (y.na) (y.re) (y.kn) (y.gr.na) (y.gr.ru) (y.gr.wa) (y.tr) (y.td) ga oa ca g o c se ls)/\((ix<zs.length)/\(0<(y.td).length/\(y.td).length<=1000))/\True/\((((.key 1000:l7),([2,ix,5]:List Nat),2,ga,oa,(0:Nat),((y.td).length-1),ca)=((.key 1000:l7),([2,ix,5]:List Nat),2,ga,oa,(0:Nat),((y.td).length-1),ca))/\((.ptr (.key 1000) [2,ix,5] g (o+ix*8+7):V)=.ptr (.key 1000) [2,ix,5] g (o+(ix)*8+7))/\(V.at gt 0 (bz n a8 zs ix (y.na) (y.re) (y.kn) (y.gr.na) (y.gr.ru) (y.gr.wa) (y.tr) ((y.td).drop 1++[j6]) ga oa ca g o c se ls) [2,ix,5]=some (g,o+(ix)*8+7,.own 2 (((y.td).drop 1++[j6]).map ak) ga oa ca))/\((1:Nat)=1)/\(((y.td).length-1)<=(((y.td).drop 1++[j6]).map ak).length)/\(V.aG (((y.td).drop 1++[j6]).map ak)=false))/\∀ _:Unit,(V.set (bz n a8 zs ix (y.na) (y.re) (y.kn) (y.gr.na) (y.gr.ru) (y.gr.wa) (y.tr) ((y.td).drop 1++[j6]) ga oa ca g o c se ls) [2,ix,5] (.own 2 ((((y.td).drop 1++[j6]).map ak).take ((y.td).length-1)) ga oa ca)=bz n a8 zs ix (y.na) (y.re) (y.kn) (y.gr.na) (y.gr.ru) (y.gr.wa) (y.tr) (y.td.drop 1) ga oa ca g o c se ls)/\(V.at gt 0 (bz n a8 zs ix (y.na) (y.re) (y.kn) (y.gr.na) (y.gr.ru) (y.gr.wa) (y.tr) (y.td.drop 1) ga oa ca g o c se ls) [2,ix,5]=some (g,o+(ix)*8+7,.own 2 ((y.td.drop 1).map ak) ga oa ca))/\(V.set (bz n a8 zs ix (y.na) (y.re) (y.kn) (y.gr.na) (y.gr.ru) (y.gr.wa) (y.tr) (y.td.drop 1) ga oa ca g o c se ls) [2,ix,5] (.ow 2 ((y.td.drop 1).map ak))=cU n a8 zs ix (y.na) (y.re) (y.kn) (y.gr.na) (y.gr.ru) (y.gr.wa) (y.tr) (y.td.drop 1) g o c se ls)/\((cU n a8 zs ix (y.na) (y.re) (y.kn) (y.gr.na) (y.gr.ru) (y.gr.wa) (y.tr) (y.td.drop 1) g o c se ls:V)=bH n a8 (zs.set ix ({ y with td:=y.td.drop 1 }:k9)) g o c se ls)/\Z g4 0/\Z g4 1/\(([.ptr (.key 1001) [] gw 0,.ptr (.key 1000) [2,ix] g (o+ix*8),sV (((y.td).getD 0 j6).ad),iV (((y.td).getD 0 j6).tr)]:List V)=[.ptr (.key 1001) [] gw 0,.ptr (.key 1000) [2,ix] g (o+ix*8),sV (((y.td).getD 0 j6).ad),iV (((y.td).getD 0 j6).tr)])/\Er gw v2/\Er gt (bH n a8 (zs.set ix ({ y with td:=y.td.drop 1 }:k9)) g o c se ls)/\((ix<(zs.set ix ({ y with td:=y.td.drop 1 }:k9)).length)/\(ls.length<=1000)/\(0<=(((y.td).getD 0 j6).tr)/\(((y.td).getD 0 j6).tr)<=1000)/\(0<=a8/\a8<=100000)/\((zs.set ix ({ y with td:=y.td.drop 1 }:k9)).getD ix b7=({ y with td:=y.td.drop 1 }:k9))/\(({ y with td:=y.td.drop 1 }:k9).gr.wa<=1000))/\((bH n a8 ((zs.set ix ({ y with td:=y.td.drop 1 }:k9)).set ix (cL ({ y with td:=y.td.drop 1 }:k9) a8 (ab w (((y.td).getD 0 j6).ad) (((y.td).getD 0 j6).tr)).1 (((y.td).getD 0 j6).tr))) g o c se (ls++[(⟨a8,(((y.td).getD 0 j6).ad),(ab w (((y.td).getD 0 j6).ad) (((y.td).getD 0 j6).tr)).1⟩:l8)]):V)=cU n a8 zs ix (y.na) ((A8 w y a8).re) (y.kn) (y.gr.na) (y.gr.ru) (y.gr.wa) (y.tr) (y.td.drop 1) g o c se (ls++[(⟨a8,(((y.td).getD 0 j6).ad),(ab w (((y.td).getD 0 j6).ad) (((y.td).getD 0 j6).tr)).1⟩:l8)]))/\Gd ((o6 ((ab w (((y.td).getD 0 j6).ad) (((y.td).getD 0 j6).tr)).1) 3)==true) (Z g4 1)/\Gd ((o6 ((ab w (((y.td).getD 0 j6).ad) (((y.td).getD 0 j6).tr)).1) 3)==true) (m9 ((((y.td).getD 0 j6).tr)+1))/\Pk (o6 ((ab w (((y.td).getD 0 j6).ad) (((y.td).getD 0 j6).tr)).1) 3) ((o6 ((ab w (((y.td).getD 0 j6).ad) (((y.td).getD 0 j6).tr)).1) 3)==true) true/\Br ((o6 ((ab w (((y.td).getD 0 j6).ad) (((y.td).getD 0 j6).tr)).1) 3)&&(s8 ((((y.td).getD 0 j6).tr)+1) 3)) (Z g4 1/\m9 ((((y.td).getD 0 j6).tr)+1)/\Z g4 1/\(V.at gt 0 (cU n a8 zs ix (y.na) ((A8 w y a8).re) (y.kn) (y.gr.na) (y.gr.ru) (y.gr.wa) (y.tr) (y.td.drop 1) g o c se (ls++[(⟨a8,(((y.td).getD 0 j6).ad),(ab w (((y.td).getD 0 j6).ad) (((y.td).getD 0 j6).tr)).1⟩:l8)])) [2,ix,5]=some (g,o+(ix)*8+7,.ow 2 ((y.td.drop 1).map ak)))/\∀ PD Pu PI:Nat,(fun v4:V=>(fun v5:List V=>(fun v6:V=>(V.set (cU n a8 zs ix (y.na) ((A8 w y a8).re) (y.kn) (y.gr.na) (y.gr.ru) (y.gr.wa) (y.tr) (y.td.drop 1) g o c se (ls++[(⟨a8,(((y.td).getD 0 j6).ad),(ab w (((y.td).getD 0 j6).ad) (((y.td).getD 0 j6).tr)).1⟩:l8)])) [2,ix,5] (.own 2 ((y.td.drop 1).map ak) PD Pu PI)=bz n a8 zs ix (y.na) ((A8 w y a8).re) (y.kn) (y.gr.na) (y.gr.ru) (y.gr.wa) (y.tr) (y.td.drop 1) PD Pu PI g o c se (ls++[(⟨a8,(((y.td).getD 0 j6).ad),(ab w (((y.td).getD 0 j6).ad) (((y.td).getD 0 j6).tr)).1⟩:l8)]))/\True/\(V.at gt 0 v4 [2,ix,5]=some (g,(o+ix*8+7),.own 2 ((y.td.drop 1).map ak) PD Pu PI))/\Z g4 0/\(v5=v5/\((.hd (.key 1000) [2,ix,5] 2 PD Pu 0 (((y.td.drop 1).map ak).length) PI:V)=.hd (.key 1000) [2,ix,5] 2 PD Pu 0 (((y.td.drop 1).map ak).length) PI)/\(V.at gt 0 v4 [2,ix,5]=some (g,o+(ix)*8+7,.own 2 ((y.td.drop 1).map ak) PD Pu PI))/\((2:Nat)=2)/\(V.aG v5=false)/\(aL 2 v5)/\((((y.td.drop 1).map ak).length+v5.length)*24<=140737488355328))/\∀ LN:Nat×Nat×Nat,(fun v7:V=>(V.set v4 [2,ix,5] (.c9)=ma n a8 zs ix (y.na) ((A8 w y a8).re) (y.kn) (y.gr.na) (y.gr.ru) (y.gr.wa) (y.tr) g o c se (ls++[(⟨a8,(((y.td).getD 0 j6).ad),(ab w (((y.td).getD 0 j6).ad) (((y.td).getD 0 j6).tr)).1⟩:l8)]))/\((.own 2 (((y.td.drop 1).map ak)++v5) LN.1 LN.2.1 LN.2.2:V)=.own 2 (((y.td.drop 1)++[(⟨((y.td).getD 0 j6).ad,(((y.td).getD 0 j6).tr)+1⟩:w4)]).map ak) LN.1 LN.2.1 LN.2.2)/\True/\(V.at gt 0 v6 [2,ix,5]=some (g,(o+ix*8+7),.c9))/\(V.set v6 [2,ix,5] (.own 2 (((y.td.drop 1)++[(⟨((y.td).getD 0 j6).ad,(((y.td).getD 0 j6).tr)+1⟩:w4)]).map ak) LN.1 LN.2.1 LN.2.2)=bz n a8 zs ix (y.na) ((A8 w y a8).re) (y.kn) (y.gr.na) (y.gr.ru) (y.gr.wa) (y.tr) ((y.td.drop 1)++[(⟨((y.td).getD 0 j6).ad,(((y.td).getD 0 j6).tr)+1⟩:w4)]) LN.1 LN.2.1 LN.2.2 g o c se (ls++[(⟨a8,(((y.td).getD 0 j6).ad),(ab w (((y.td).getD 0 j6).ad) (((y.td).getD 0 j6).tr)).1⟩:l8)]))/\(V.at gt 0 v7 [2,ix,5]=some (g,o+(ix)*8+7,.own 2 (((y.td.drop 1)++[(⟨((y.td).getD 0 j6).ad,(((y.td).getD 0 j6).tr)+1⟩:w4)]).map ak) LN.1 LN.2.1 LN.2.2))/\(V.set v7 [2,ix,5] (.ow 2 (((y.td.drop 1)++[(⟨((y.td).getD 0 j6).ad,(((y.td).getD 0 j6).tr)+1⟩:w4)]).map ak))=cU n a8 zs ix (y.na) ((A8 w y a8).re) (y.kn) (y.gr.na) (y.gr.ru) (y.gr.wa) (y.tr) ((y.td.drop 1)++[(⟨((y.td).getD 0 j6).ad,(((y.td).getD 0 j6).tr)+1⟩:w4)]) g o c se (ls++[(⟨a8,(((y.td).getD 0 j6).ad),(ab w (((y.td).getD 0 j6).ad) (((y.td).getD 0 j6).tr)).1⟩:l8)]))/\((cU n a8 zs ix (y.na) ((A8 w y a8).re) (y.kn) (y.gr.na) (y.gr.ru) (y.gr.wa) (y.tr) ((y.td.drop 1)++[(⟨((y.td).getD 0 j6).ad,(((y.td).getD 0 j6).tr)+1⟩:w4)]) g o c se (ls++[(⟨a8,(((y.td).getD 0 j6).ad),(ab w (((y.td).getD 0 j6).ad) (((y.td).getD 0 j6).tr)).1⟩:l8)]):V)=bH n a8 (zs.set ix ({ (A8 w y a8) with td:=y.td.drop 1++[(⟨x0.ad,x0.tr+1⟩:w4)] }:k9)) g o c se (ls++[(⟨a8,(((y.td).getD 0 j6).ad),(ab w (((y.td).getD 0 j6).ad) (((y.td).getD 0 j6).tr)).1⟩:l8)]))/\Q (.tup []) (.tup [])/\Er gw v2/\Qr gt (bG n a8 (zs.set ix ({ (A8 w y a8) with td:=y.td.drop 1++[(⟨x0.ad,x0.tr+1⟩:w4)] }:k9)) se (ls++[(⟨a8,(((y.td).getD 0 j6).ad),(ab w (((y.td).getD 0 j6).ad) (((y.td).getD 0 j6).tr)).1⟩:l8)])) gt v1) (bz n a8 zs ix (y.na) ((A8 w y a8).re) (y.kn) (y.gr.na) (y.gr.ru) (y.gr.wa) (y.tr) ((y.td.drop 1)++[(⟨((y.td).getD 0 j6).ad,(((y.td).getD 0 j6).tr)+1⟩:w4)]) LN.1 LN.2.1 LN.2.2 g o c se (ls++[(⟨a8,(((y.td).getD 0 j6).ad),(ab w (((y.td).getD 0 j6).ad) (((y.td).getD 0 j6).tr)).1⟩:l8)]))) (ma n a8 zs ix (y.na) ((A8 w y a8).re) (y.kn) (y.gr.na) (y.gr.ru) (y.gr.wa) (y.tr) g o c se (ls++[(⟨a8,(((y.td).getD 0 j6).ad),(ab w (((y.td).getD 0 j6).ad) (((y.td).getD 0 j6).tr)).1⟩:l8)]))) ([.agg [sV (((y.td).getD 0 j6).ad),iV ((((y.td).getD 0 j6).tr)+1)]]:List V)) (bz n a8 zs ix (y.na) ((A8 w y a8).re) (y.kn) (y.gr.na) (y.gr.ru) (y.gr.wa) (y.tr) (y.td.drop 1) PD Pu PI g o c se (ls++[(⟨a8,(((y.td).getD 0 j6).ad),(ab w (((y.td).getD 0 j6).ad) (((y.td).getD 0 j6).tr)).1⟩:l8)]))) (Z g4 0/\(cH (((y.td).getD 0 j6).ad)).sm/\(((((y.td).getD 0 j6).ad).length<=1000000)/\(m4 (((y.td).getD 0 j6).ad)))/\∀ g7:Nat,Z g7 0/\((cU n a8 zs ix (y.na) ((A8 w y a8).re) (y.kn) (y.gr.na) (y.gr.ru) (y.gr.wa) (y.tr) (y.td.drop 1) g o c se (ls++[(⟨a8,(((y.td).getD 0 j6).ad),(ab w (((y.td).getD 0 j6).ad) (((y.td).getD 0 j6).tr)).1⟩:l8)]):V)=bH n a8 (zs.set ix (A8 w y a8)) g o c se (ls++[(⟨a8,(((y.td).getD 0 j6).ad),(ab w (((y.td).getD 0 j6).ad) (((y.td).getD 0 j6).tr)).1⟩:l8)]))/\Br (!((aB (((y.td).getD 0 j6).ad)).isSome)) (Q (.tup []) (.tup [])/\Er gw v2/\Qr gt (bG n a8 (zs.set ix (A8 w y a8)) se (ls++[(⟨a8,(((y.td).getD 0 j6).ad),(ab w (((y.td).getD 0 j6).ad) (((y.td).getD 0 j6).tr)).1⟩:l8)])) gt v1) (Z g7 0/\(Ba (oA (aB (((y.td).getD 0 j6).ad))) ((ab w (((y.td).getD 0 j6).ad) (((y.td).getD 0 j6).tr)).1) ((ab w (((y.td).getD 0 j6).ad) (((y.td).getD 0 j6).tr)).2)).sm/\((cI (oA (aB (((y.td).getD 0 j6).ad))))/\(((ab w (((y.td).getD 0 j6).ad) (((y.td).getD 0 j6).tr)).2).length<=4611686018427387904)/\(m4 ((ab w (((y.td).getD 0 j6).ad) (((y.td).getD 0 j6).tr)).2)))/\(∃ x:Nat×(List k9)×(List BL),match x with | (j7,MU,MY)=>(j7<=((if (ab w x0.ad x0.tr).1=1 then bA (oA (aB x0.ad)) (ab w x0.ad x0.tr).2 else if (ab w x0.ad x0.tr).1=2 then [(ab w x0.ad x0.tr).2] else [])).length/\MU=((((if (ab w x0.ad x0.tr).1=1 then bA (oA (aB x0.ad)) (ab w x0.ad x0.tr).2 else if (ab w x0.ad x0.tr).1=2 then [(ab w x0.ad x0.tr).2] else [])).take j7).foldl ao (⟨n,a8,zs.set ix (A8 w y a8),se,ls++[(⟨a8,x0.ad,(ab w x0.ad x0.tr).1⟩:l8)]⟩:l4)).hs/\MY=((((if (ab w x0.ad x0.tr).1=1 then bA (oA (aB x0.ad)) (ab w x0.ad x0.tr).2 else if (ab w x0.ad x0.tr).1=2 then [(ab w x0.ad x0.tr).2] else [])).take j7).foldl ao (⟨n,a8,zs.set ix (A8 w y a8),se,ls++[(⟨a8,x0.ad,(ab w x0.ad x0.tr).1⟩:l8)]⟩:l4)).se)/\E (.ptr (.key 1001) [] gw 0)/\Q (ay (if ((ab w (((y.td).getD 0 j6).ad) (((y.td).getD 0 j6).tr)).1)=1 then bA (oA (aB (((y.td).getD 0 j6).ad))) ((ab w (((y.td).getD 0 j6).ad) (((y.td).getD 0 j6).tr)).2) else if ((ab w (((y.td).getD 0 j6).ad) (((y.td).getD 0 j6).tr)).1)=2 then [((ab w (((y.td).getD 0 j6).ad) (((y.td).getD 0 j6).tr)).2)] else [])) v3/\Q (iN (((if ((ab w (((y.td).getD 0 j6).ad) (((y.td).getD 0 j6).tr)).1)=1 then bA (oA (aB (((y.td).getD 0 j6).ad))) ((ab w (((y.td).getD 0 j6).ad) (((y.td).getD 0 j6).tr)).2) else if ((ab w (((y.td).getD 0 j6).ad) (((y.td).getD 0 j6).tr)).1)=2 then [((ab w (((y.td).getD 0 j6).ad) (((y.td).getD 0 j6).tr)).2)] else []).map sV).length)) (iN (((if (ab w x0.ad x0.tr).1=1 then bA (oA (aB x0.ad)) (ab w x0.ad x0.tr).2 else if (ab w x0.ad x0.tr).1=2 then [(ab w x0.ad x0.tr).2] else [])).length))/\Q (iN 0) (iN j7)/\Er gw v2/\Qr gt (bG n a8 (zs.set ix (A8 w y a8)) se (ls++[(⟨a8,(((y.td).getD 0 j6).ad),(ab w (((y.td).getD 0 j6).ad) (((y.td).getD 0 j6).tr)).1⟩:l8)])) gt (bG n a8 MU MY (ls++[(⟨a8,x0.ad,(ab w x0.ad x0.tr).1⟩:l8)]))/\True)/\∀ x:Nat×(List k9)×(List BL),match x with | (i,zz,ss)=>(i<=((if (ab w x0.ad x0.tr).1=1 then bA (oA (aB x0.ad)) (ab w x0.ad x0.tr).2 else if (ab w x0.ad x0.tr).1=2 then [(ab w x0.ad x0.tr).2] else [])).length/\zz=((((if (ab w x0.ad x0.tr).1=1 then bA (oA (aB x0.ad)) (ab w x0.ad x0.tr).2 else if (ab w x0.ad x0.tr).1=2 then [(ab w x0.ad x0.tr).2] else [])).take i).foldl ao (⟨n,a8,zs.set ix (A8 w y a8),se,ls++[(⟨a8,x0.ad,(ab w x0.ad x0.tr).1⟩:l8)]⟩:l4)).hs/\ss=((((if (ab w x0.ad x0.tr).1=1 then bA (oA (aB x0.ad)) (ab w x0.ad x0.tr).2 else if (ab w x0.ad x0.tr).1=2 then [(ab w x0.ad x0.tr).2] else [])).take i).foldl ao (⟨n,a8,zs.set ix (A8 w y a8),se,ls++[(⟨a8,x0.ad,(ab w x0.ad x0.tr).1⟩:l8)]⟩:l4)).se)->(fun v8:V=>Br (s8 (i:Int) ((((if (ab w x0.ad x0.tr).1=1 then bA (oA (aB x0.ad)) (ab w x0.ad x0.tr).2 else if (ab w x0.ad x0.tr).1=2 then [(ab w x0.ad x0.tr).2] else [])).length:Nat):Int)) (Ex (i:Int) ((if (ab w x0.ad x0.tr).1=1 then bA (oA (aB x0.ad)) (ab w x0.ad x0.tr).2 else if (ab w x0.ad x0.tr).1=2 then [(ab w x0.ad x0.tr).2] else []).map sV) (sV ((if (ab w x0.ad x0.tr).1=1 then bA (oA (aB x0.ad)) (ab w x0.ad x0.tr).2 else if (ab w x0.ad x0.tr).1=2 then [(ab w x0.ad x0.tr).2] else []).getD i []))/\True/\True/\Z gw 1/\(uW n a8 zz ss (ls++[(⟨a8,x0.ad,(ab w x0.ad x0.tr).1⟩:l8)]) gt ((if (ab w x0.ad x0.tr).1=1 then bA (oA (aB x0.ad)) (ab w x0.ad x0.tr).2 else if (ab w x0.ad x0.tr).1=2 then [(ab w x0.ad x0.tr).2] else []).getD i [])).sm/\Er gt v8/\((zz.length<=1000)/\(ss.length<=1000)/\(((if (ab w x0.ad x0.tr).1=1 then bA (oA (aB x0.ad)) (ab w x0.ad x0.tr).2 else if (ab w x0.ad x0.tr).1=2 then [(ab w x0.ad x0.tr).2] else []).getD i []).length<=1000000)/\(m4 ((if (ab w x0.ad x0.tr).1=1 then bA (oA (aB x0.ad)) (ab w x0.ad x0.tr).2 else if (ab w x0.ad x0.tr).1=2 then [(ab w x0.ad x0.tr).2] else []).getD i []))/\(∀ y,y∈zz->y.td.length<=1000/\y.gr.ru.length<=1000/\∀ i,(y.gr.ru.getD i ⟨false,[]⟩).path.length<=1000))/\m9 ((i:Int)+1)/\∃ x:Nat×(List k9)×(List BL),match x with | (c5,MT,MX)=>(c5<=((if (ab w x0.ad x0.tr).1=1 then bA (oA (aB x0.ad)) (ab w x0.ad x0.tr).2 else if (ab w x0.ad x0.tr).1=2 then [(ab w x0.ad x0.tr).2] else [])).length/\MT=((((if (ab w x0.ad x0.tr).1=1 then bA (oA (aB x0.ad)) (ab w x0.ad x0.tr).2 else if (ab w x0.ad x0.tr).1=2 then [(ab w x0.ad x0.tr).2] else [])).take c5).foldl ao (⟨n,a8,zs.set ix (A8 w y a8),se,ls++[(⟨a8,x0.ad,(ab w x0.ad x0.tr).1⟩:l8)]⟩:l4)).hs/\MX=((((if (ab w x0.ad x0.tr).1=1 then bA (oA (aB x0.ad)) (ab w x0.ad x0.tr).2 else if (ab w x0.ad x0.tr).1=2 then [(ab w x0.ad x0.tr).2] else [])).take c5).foldl ao (⟨n,a8,zs.set ix (A8 w y a8),se,ls++[(⟨a8,x0.ad,(ab w x0.ad x0.tr).1⟩:l8)]⟩:l4)).se)/\(((if (ab w x0.ad x0.tr).1=1 then bA (oA (aB x0.ad)) (ab w x0.ad x0.tr).2 else if (ab w x0.ad x0.tr).1=2 then [(ab w x0.ad x0.tr).2] else [])).length-c5<((if (ab w x0.ad x0.tr).1=1 then bA (oA (aB x0.ad)) (ab w x0.ad x0.tr).2 else if (ab w x0.ad x0.tr).1=2 then [(ab w x0.ad x0.tr).2] else [])).length-i)/\E (.ptr (.key 1001) [] gw 0)/\E v3/\E (iN (((if (ab w x0.ad x0.tr).1=1 then bA (oA (aB x0.ad)) (ab w x0.ad x0.tr).2 else if (ab w x0.ad x0.tr).1=2 then [(ab w x0.ad x0.tr).2] else [])).length))/\Q (iN (i+1)) (iN c5)/\Er gw v2/\Qr gt (bG n a8 (aQ n zz ss ((if (ab w x0.ad x0.tr).1=1 then bA (oA (aB x0.ad)) (ab w x0.ad x0.tr).2 else if (ab w x0.ad x0.tr).1=2 then [(ab w x0.ad x0.tr).2] else []).getD i [])) (cf ss ((if (ab w x0.ad x0.tr).1=1 then bA (oA (aB x0.ad)) (ab w x0.ad x0.tr).2 else if (ab w x0.ad x0.tr).1=2 then [(ab w x0.ad x0.tr).2] else []).getD i [])) (ls++[(⟨a8,x0.ad,(ab w x0.ad x0.tr).1⟩:l8)])) gt (bG n a8 MT MX (ls++[(⟨a8,x0.ad,(ab w x0.ad x0.tr).1⟩:l8)]))/\True) (Q (.tup []) (.tup [])/\Er gw v2/\Qr gt v8 gt v1)) (bG n a8 zz ss (ls++[(⟨a8,x0.ad,(ab w x0.ad x0.tr).1⟩:l8)])))))) (ay (if (ab w x0.ad x0.tr).1=1 then bA (oA (aB x0.ad)) (ab w x0.ad x0.tr).2 else if (ab w x0.ad x0.tr).1=2 then [(ab w x0.ad x0.tr).2] else []))) (.agg [.mp (w.map E7),.ptr (.key 1000) [] gt 0])) (bG n a8 ((LQ w (⟨n,a8,zs,se,ls⟩:l4) ix).hs) ((LQ w (⟨n,a8,zs,se,ls⟩:l4) ix).se) ((LQ w (⟨n,a8,zs,se,ls⟩:l4) ix).lk))) ?_
 subst WI
 subst WJ
 refine⟨Ni (congrArg (V.own 8 · g o c) (qH (d:=b7) Z9)),(aT (f:=2) rfl).trans (aJ (aK Z9) rfl),?_⟩
 intro ga oa ca
 refine⟨dH (aX (aK Z9) (cY Z9)),trivial,(aT (f:=2) rfl).trans (aJ (aK Z9) rfl),Z2,(aT (f:=2) rfl).trans (aJ (aK Z9) ((aT (f:=5) rfl).trans (aJ (by rw[Nat.zero_add];exact an (d:=j6) Z9) rfl))),?_⟩
 intro g4
 refine⟨rfl,trivial,(aT (f:=2) rfl).trans (aJ (aK Z9) rfl),rfl,rfl,⟨hi,by have:=hy.t;omega⟩,trivial,⟨rfl,rfl,(aT (f:=2) rfl).trans (aJ (aK Z9) rfl),rfl,Z8,cM (f:=ak) (fun _=>rfl) _⟩,?_⟩
 intro _
 refine⟨(congrArg (fun r:V=>V.set (.agg [sV n,iV a8,.own 8 ((zs.take ix).map aE++(.agg [sV ((zs.getD ix b7).na),iV ((zs.getD ix b7).re),bV ((zs.getD ix b7).kn),.agg [.sl false (((zs.getD ix b7).gr.na).map sV),.sl false (((zs.getD ix b7).gr.ru).map au),iN ((zs.getD ix b7).gr.wa)],iV ((zs.getD ix b7).tr),.own 2 ((((zs.getD ix b7).td).drop 1++[j6]).map ak) ga oa ca]:V)::(zs.drop (ix+1)).map aE) g o c,.ow 1 (se.map sV),.ow 3 (ls.map ba)]) [2,ix,5] r) (congrArg (V.own 2 · ga oa ca) (Lv Z9))).trans (dH (aX (aK Z9) (cY Z9))),(aT (f:=2) rfl).trans (aJ (aK Z9) rfl),dH (aX (aK Z9) (cY Z9)),Ni (congrArg (V.own 8 · g o c) (lE (f:=aE) (x:=({ (zs.getD ix b7) with td:=(zs.getD ix b7).td.drop 1 }:k9)) Z9)),rfl,rfl,by first | rfl | (exfalso;omega) | (simp only[Nat.zero_add]) | (simp;omega),rfl,rfl,⟨by rw[List.length_set];exact hi,hl,by have:=hy.ta _ (aw (d:=j6) hne);omega,hn,EL hi,hy.w⟩,Ni (congrArg (V.own 8 · g o c) (IQ hi)),fun hG=>rfl,fun hG=>by(try simp only[nb]at hG);omega,⟨fun h=>by rw[h] <;> rfl,fun _=>rfl⟩,?_⟩
 refine bI (fun j9=>?_) fun j9=>?_
 refine⟨rfl,Z9,rfl,(aT (f:=2) rfl).trans (aJ (aK Z9) rfl),?_⟩
 intro PD Pu PI
 refine⟨dH (aX (aK Z9) (cY Z9)),trivial,(aT (f:=2) rfl).trans (aJ (aK Z9) rfl),rfl,⟨rfl,rfl,(aT (f:=2) rfl).trans (aJ (aK Z9) rfl),rfl,rfl,by simp[aL,V.n,V.ns],by(try simp only[List.length_append,List.length_map,List.length_cons,List.length_nil,List.length_drop]);omega⟩,?_⟩
 intro LN
 refine⟨dH (aX (aK Z9) (cY Z9)),congrArg (V.own 2 · LN.1 LN.2.1 LN.2.2) Z8,trivial,(aT (f:=2) rfl).trans (aJ (aK Z9) rfl),dH (aX (aK Z9) (cY Z9)),(aT (f:=2) rfl).trans (aJ (aK Z9) rfl),dH (aX (aK Z9) (cY Z9)),Ni (congrArg (V.own 8 · g o c) (lE (f:=aE) (x:=({ (A8 w (zs.getD ix b7) a8) with td:=(zs.getD ix b7).td.drop 1++[(⟨((zs.getD ix b7).td.getD 0 j6).ad,((zs.getD ix b7).td.getD 0 j6).tr+1⟩:w4)] }:k9)) Z9)),?_⟩
 refine⟨?_,rfl,by rw[LB j9]⟩
 unfold Q
 rfl
 refine⟨rfl,rfl,⟨by have:=hy.ta _ (aw (d:=j6) hne);omega,(hy.ta _ (aw (d:=j6) hne)).2.1⟩,?_⟩
 intro g7
 refine⟨rfl,Ni (congrArg (V.own 8 · g o c) (lE (f:=aE) (x:=(A8 w (zs.getD ix b7) a8)) Z9)),?_⟩
 refine bI (fun l6=>?_) fun l6=>?_
 refine⟨?_,rfl,by rw[LD j9 (by simpa using l6)]⟩
 unfold Q
 rfl
 refine⟨rfl,rfl,⟨by exact rn _,Kh hz,FW hz⟩,?_⟩
 refine⟨⟨(0,zs.set ix (A8 w (zs.getD ix b7) a8),se),?_,rfl,Z4,Z4,rfl,rfl,Z4,trivial⟩,?_⟩
 exact⟨Z8,rfl,rfl⟩
 rintro⟨i,zz,ss⟩ ⟨h1,h2,h3⟩
 have XE:=Eg (k:=(ab w ((zs.getD ix b7).td.getD 0 j6).ad ((zs.getD ix b7).td.getD 0 j6).tr).1) (b:=oA (aB ((zs.getD ix b7).td.getD 0 j6).ad)) (t:=(ab w ((zs.getD ix b7).td.getD 0 j6).ad ((zs.getD ix b7).td.getD 0 j6).tr).2)
 have Um:=rU (((if (ab w ((zs.getD ix b7).td.getD 0 j6).ad ((zs.getD ix b7).td.getD 0 j6).tr).1=1 then bA (oA (aB ((zs.getD ix b7).td.getD 0 j6).ad)) (ab w ((zs.getD ix b7).td.getD 0 j6).ad ((zs.getD ix b7).td.getD 0 j6).tr).2 else if (ab w ((zs.getD ix b7).td.getD 0 j6).ad ((zs.getD ix b7).td.getD 0 j6).tr).1=2 then [(ab w ((zs.getD ix b7).td.getD 0 j6).ad ((zs.getD ix b7).td.getD 0 j6).tr).2] else [])).take i) (Lg (w:=w) (ls:=ls++[(⟨a8,((zs.getD ix b7).td.getD 0 j6).ad,(ab w ((zs.getD ix b7).td.getD 0 j6).ad ((zs.getD ix b7).td.getD 0 j6).tr).1⟩:l8)]) hi hy ht) hnn (fun s hs=>rm hw hz s (List.mem_of_mem_take hs))
 have hx:=oM (((if (ab w ((zs.getD ix b7).td.getD 0 j6).ad ((zs.getD ix b7).td.getD 0 j6).tr).1=1 then bA (oA (aB ((zs.getD ix b7).td.getD 0 j6).ad)) (ab w ((zs.getD ix b7).td.getD 0 j6).ad ((zs.getD ix b7).td.getD 0 j6).tr).2 else if (ab w ((zs.getD ix b7).td.getD 0 j6).ad ((zs.getD ix b7).td.getD 0 j6).tr).1=2 then [(ab w ((zs.getD ix b7).td.getD 0 j6).ad ((zs.getD ix b7).td.getD 0 j6).tr).2] else [])).take i) (⟨n,a8,zs.set ix (A8 w (zs.getD ix b7) a8),se,ls++[(⟨a8,((zs.getD ix b7).td.getD 0 j6).ad,(ab w ((zs.getD ix b7).td.getD 0 j6).ad ((zs.getD ix b7).td.getD 0 j6).tr).1⟩:l8)]⟩:l4)
 refine bI (fun n0=>?_) fun n0=>?_
 have M4:=rm (b:=oA (aB ((zs.getD ix b7).td.getD 0 j6).ad)) hw hz _ (ld (l:=(if (ab w ((zs.getD ix b7).td.getD 0 j6).ad ((zs.getD ix b7).td.getD 0 j6).tr).1=1 then bA (oA (aB ((zs.getD ix b7).td.getD 0 j6).ad)) (ab w ((zs.getD ix b7).td.getD 0 j6).ad ((zs.getD ix b7).td.getD 0 j6).tr).2 else if (ab w ((zs.getD ix b7).td.getD 0 j6).ad ((zs.getD ix b7).td.getD 0 j6).tr).1=2 then [(ab w ((zs.getD ix b7).td.getD 0 j6).ad ((zs.getD ix b7).td.getD 0 j6).tr).2] else [])) (i:=i) Z9)
 refine⟨⟨Z9,an (d:=[]) Z9⟩,trivial,trivial,rfl,rfl,rfl,⟨by rw[h2];have:=Um.h;have:=Um.s;omega,by rw[h3];have:=Um.s;omega,by have:=M4.1;omega,M4.2.1,fun y hy=>by rw[h2]at hy;have q:=Um.ha y hy;have:=Um.s;exact⟨by have:=q.t;omega,q.r,q.rp⟩⟩,Z9,?_⟩
 refine⟨(i+1,aQ n zz ss ((if (ab w ((zs.getD ix b7).td.getD 0 j6).ad ((zs.getD ix b7).td.getD 0 j6).tr).1=1 then bA (oA (aB ((zs.getD ix b7).td.getD 0 j6).ad)) (ab w ((zs.getD ix b7).td.getD 0 j6).ad ((zs.getD ix b7).td.getD 0 j6).tr).2 else if (ab w ((zs.getD ix b7).td.getD 0 j6).ad ((zs.getD ix b7).td.getD 0 j6).tr).1=2 then [(ab w ((zs.getD ix b7).td.getD 0 j6).ad ((zs.getD ix b7).td.getD 0 j6).tr).2] else []).getD i []),cf ss ((if (ab w ((zs.getD ix b7).td.getD 0 j6).ad ((zs.getD ix b7).td.getD 0 j6).tr).1=1 then bA (oA (aB ((zs.getD ix b7).td.getD 0 j6).ad)) (ab w ((zs.getD ix b7).td.getD 0 j6).ad ((zs.getD ix b7).td.getD 0 j6).tr).2 else if (ab w ((zs.getD ix b7).td.getD 0 j6).ad ((zs.getD ix b7).td.getD 0 j6).tr).1=2 then [(ab w ((zs.getD ix b7).td.getD 0 j6).ad ((zs.getD ix b7).td.getD 0 j6).tr).2] else []).getD i [])),?_,?_,rfl,rfl,rfl,rfl,rfl,rfl,trivial⟩
 rw[foldl_succ (d:=[]) Z9,h2,h3]
 have hq:=oM (((if (ab w ((zs.getD ix b7).td.getD 0 j6).ad ((zs.getD ix b7).td.getD 0 j6).tr).1=1 then bA (oA (aB ((zs.getD ix b7).td.getD 0 j6).ad)) (ab w ((zs.getD ix b7).td.getD 0 j6).ad ((zs.getD ix b7).td.getD 0 j6).tr).2 else if (ab w ((zs.getD ix b7).td.getD 0 j6).ad ((zs.getD ix b7).td.getD 0 j6).tr).1=2 then [(ab w ((zs.getD ix b7).td.getD 0 j6).ad ((zs.getD ix b7).td.getD 0 j6).tr).2] else [])).take i) (⟨n,a8,zs.set ix (A8 w (zs.getD ix b7) a8),se,ls++[(⟨a8,((zs.getD ix b7).td.getD 0 j6).ad,(ab w ((zs.getD ix b7).td.getD 0 j6).ad ((zs.getD ix b7).td.getD 0 j6).tr).1⟩:l8)]⟩:l4)
 exact⟨Z9,by show _=aQ ((((if (ab w ((zs.getD ix b7).td.getD 0 j6).ad ((zs.getD ix b7).td.getD 0 j6).tr).1=1 then bA (oA (aB ((zs.getD ix b7).td.getD 0 j6).ad)) (ab w ((zs.getD ix b7).td.getD 0 j6).ad ((zs.getD ix b7).td.getD 0 j6).tr).2 else if (ab w ((zs.getD ix b7).td.getD 0 j6).ad ((zs.getD ix b7).td.getD 0 j6).tr).1=2 then [(ab w ((zs.getD ix b7).td.getD 0 j6).ad ((zs.getD ix b7).td.getD 0 j6).tr).2] else [])).take i).foldl ao (⟨n,a8,zs.set ix (A8 w (zs.getD ix b7) a8),se,ls++[(⟨a8,((zs.getD ix b7).td.getD 0 j6).ad,(ab w ((zs.getD ix b7).td.getD 0 j6).ad ((zs.getD ix b7).td.getD 0 j6).tr).1⟩:l8)]⟩:l4)).na ((((if (ab w ((zs.getD ix b7).td.getD 0 j6).ad ((zs.getD ix b7).td.getD 0 j6).tr).1=1 then bA (oA (aB ((zs.getD ix b7).td.getD 0 j6).ad)) (ab w ((zs.getD ix b7).td.getD 0 j6).ad ((zs.getD ix b7).td.getD 0 j6).tr).2 else if (ab w ((zs.getD ix b7).td.getD 0 j6).ad ((zs.getD ix b7).td.getD 0 j6).tr).1=2 then [(ab w ((zs.getD ix b7).td.getD 0 j6).ad ((zs.getD ix b7).td.getD 0 j6).tr).2] else [])).take i).foldl ao (⟨n,a8,zs.set ix (A8 w (zs.getD ix b7) a8),se,ls++[(⟨a8,((zs.getD ix b7).td.getD 0 j6).ad,(ab w ((zs.getD ix b7).td.getD 0 j6).ad ((zs.getD ix b7).td.getD 0 j6).tr).1⟩:l8)]⟩:l4)).hs ((((if (ab w ((zs.getD ix b7).td.getD 0 j6).ad ((zs.getD ix b7).td.getD 0 j6).tr).1=1 then bA (oA (aB ((zs.getD ix b7).td.getD 0 j6).ad)) (ab w ((zs.getD ix b7).td.getD 0 j6).ad ((zs.getD ix b7).td.getD 0 j6).tr).2 else if (ab w ((zs.getD ix b7).td.getD 0 j6).ad ((zs.getD ix b7).td.getD 0 j6).tr).1=2 then [(ab w ((zs.getD ix b7).td.getD 0 j6).ad ((zs.getD ix b7).td.getD 0 j6).tr).2] else [])).take i).foldl ao (⟨n,a8,zs.set ix (A8 w (zs.getD ix b7) a8),se,ls++[(⟨a8,((zs.getD ix b7).td.getD 0 j6).ad,(ab w ((zs.getD ix b7).td.getD 0 j6).ad ((zs.getD ix b7).td.getD 0 j6).tr).1⟩:l8)]⟩:l4)).se _;rw[hq.1],rfl⟩
 exact Z1
 refine⟨?_,rfl,by rw[Ly j9 (by simpa using l6),h2,h3,List.take_of_length_le Z9,(oM _ _).2.2]⟩
 unfold Q
 rfl)
end Go.Proofs.YtbjbamjffkanbaaGreatDoor
namespace Go.Proofs.YtbjbamjffkanbaaGreatDoor
open Go.RowKit Go.Extern.Stop Go.Stop Go.Extern
theorem Fz(v:Value)(w:World):(Extern.ReflectliteType.typeOf #[.iface 252 v]).run Tryz.prog w=.ok (.iface 187 (.agg #[.pointer (some ⟨4,252,none⟩)])) w:=Z7
theorem yG(w:World):((Extern.ReflectliteType.method fun t=>do Rtype.noPackHeld "Comparable" t;(fun a=>Value.bool a.comparable) <$> typeInfo t) #[.agg #[.pointer (some ⟨4,252,none⟩)]]).run Tryz.prog w=.ok (.bool true) w:=Z7
theorem Fg(v:Value)(w:World):(Go.method 386 187 v "Comparable").run Tryz.prog w=.ok (226,v) w:=Z7
theorem Kz:(Tryz.prog.info? 252).map (·.comparable)=some true:=Z7
theorem JB:(Tryz.prog.info? 275).map (·.size)=some 1:=Z7
theorem Bo(a:Addr)(w:World):
 Calls Tryz.prog 75 #[.iface 252 (.pointer (some a)),.iface 252 (.pointer (some a))] w fun e w'=>e=.returned (.bool true)/\w'=w:=by
 obtain⟨i,hi,hcmp⟩:=Option.map_eq_some_iff.1 Kz
 obtain⟨j,hj,hjs⟩:=Option.map_eq_some_iff.1 JB
 have h8:= @run_callFunc_extern Tryz.prog 110 _ Extern.ReflectliteType.typeOf Tryz.func110 Z7 Z7 Z7 Z7
 have h32:= @run_callFunc_extern Tryz.prog 226 _ (Extern.ReflectliteType.method fun t=>do Rtype.noPackHeld "Comparable" t;pure (.bool (<- typeInfo t).comparable)) Tryz.func226 Z7 Z7 Z7 Z7
 have tT:=Fz
 have cT:=yG
 have mR:=Fg
 have heq:=run_eql_iface_ptr_same (P:=Tryz.prog) w a Tryz.underlying116 Tryz.underlying252 hi hcmp hj
 go_enter Tryz.func75,Tryz.ntmps75
 go_wp2
 refine wp_loop_rounds 1 ?_
 rw[rounds_succ]
 go_wp2
 go_ret
 exact⟨rfl,rfl⟩
theorem Ec(b:Addr)(w:World):
 Calls Tryz.prog 75 #[.nilIface,.iface 252 (.pointer (some b))] w fun e w'=>e=.returned (.bool false)/\w'=w:=by
 have hn:=run_eql_iface_nil_left (P:=Tryz.prog) w 252 (.pointer (some b)) Tryz.underlying116
 go_enter Tryz.func75,Tryz.ntmps75
 go_wp2
 go_ret
 exact⟨rfl,rfl⟩
open Go.Abs
theorem Gt(a:Addr):PC Tryz.prog 75 [.lit (.iface 252 (.pointer (some a))),.lit (.iface 252 (.pointer (some a)))] (fun r=>r=bV true):=by
 refine⟨dO Tryz.func75 Z7 Z7,fun w Pb cargs hP hargs=>?_⟩
 obtain⟨x,xs,F1,F2,rfl,hF,h1,h2⟩:=hargs
 obtain⟨y,ys,F3,F4,rfl,hF2,h3,h4⟩:=h2
 obtain⟨rfl,_⟩:=h4
 have e1:x=.iface 252 (.pointer (some a)):=by have:=h1.2.1;simpa using this
 have e2:y=.iface 252 (.pointer (some a)):=by have:=h3.2.1;simpa using this
 subst e1;subst e2
 refine(Bo a w).mono ?_
 rintro e w' ⟨rfl,rfl⟩
 exact⟨_,_,[],Pb,rfl,rfl,de rfl,List.nodup_nil,Z8,fun _ h=>h,fun _ h=>.inl h,Below.refl _ _⟩
theorem EC(a:Addr):PF Tryz.prog 75 [.lit (.iface 252 (.pointer (some a))),.lit (.iface 252 (.pointer (some a)))] [] (fun r h=>r=bV true/\h=[]):=gQ rfl rfl (Gt a)
theorem Dj(a:Addr):PC Tryz.prog 75 [.lit .nilIface,.lit (.iface 252 (.pointer (some a)))] (fun r=>r=bV false):=by
 refine⟨dO Tryz.func75 Z7 Z7,fun w Pb cargs hP hargs=>?_⟩
 obtain⟨x,xs,F1,F2,rfl,hF,h1,h2⟩:=hargs
 obtain⟨y,ys,F3,F4,rfl,hF2,h3,h4⟩:=h2
 obtain⟨rfl,_⟩:=h4
 have e1:x=.nilIface:=by have:=h1.2.1;simpa using this
 have e2:y=.iface 252 (.pointer (some a)):=by have:=h3.2.1;simpa using this
 subst e1;subst e2
 refine(Ec a w).mono ?_
 rintro e w' ⟨rfl,rfl⟩
 exact⟨_,_,[],Pb,rfl,rfl,de rfl,List.nodup_nil,Z8,fun _ h=>h,fun _ h=>.inl h,Below.refl _ _⟩
theorem DL(a:Addr):PF Tryz.prog 75 [.lit .nilIface,.lit (.iface 252 (.pointer (some a)))] [] (fun r h=>r=bV false/\h=[]):=gQ rfl rfl (Dj a)
end Go.Proofs.YtbjbamjffkanbaaGreatDoor
namespace Go.Abs
open Go Go.RowKit
section
variable {P:Program}
def baC(v:V):Cu P where
 X:=Unit
 pre N o A:=match o.op,o.dst with
  | .build T b9,some d=>match Nat.blt d N,jd ((b9.toList.map (·.2)).map A.ev) with
    | true,some l=> ∃ y,v.val? =some y/\∀ w,(Instr.build T ((b9.toList.map (·.1)).zip l).toArray).run P w=.ok y w
    | _,_=>False
  | _,_=>False
 post _ o A:=A.put o.dst v
 ok:=by
  rintro N ⟨dst,op,ty,pos,after,C7⟩ A K-hp hK
  replace hK:=hK ()
  simp only at hp hK
  split at hp
  rename_i T b9 d
  split at hp
  rename_i l e1 e2
  obtain⟨y,hv,hr⟩:=hp
  refine fD rfl (bD e1) hK fun Pb Kb a w F hs=>⟨y,?_,vb hv⟩
  have h1:=mw hs _ e2
  have key:∀ q:List (Nat×Operand),q.map (fun p=>(p.1,a.eval p.2))=(q.map (·.1)).zip ((q.map (·.2)).map a.eval):=fun q=>by
   induction q with
   | nil=>rfl
   | cons p q ih=>simp only[List.map_cons,List.zip_cons_cons,ih]
  have h2:(b9.map fun p=>(p.1,a.eval p.2))=((b9.toList.map (·.1)).zip l).toArray:=by
   rw[<- h1,<- key];apply Array.ext';simp
  have h3:=hr w
  rw[<- h2]at h3
  simp only[execOp,Sem.run_bind,h3,Result.andThen_ok,Sem.run_pure]
  exact hp.elim
  exact hp.elim
end
end Go.Abs
namespace Go.Abs
open Go Go.RowKit
section
variable {P:Program}
def bmC:Cu P where
 X:=Nat
 pre N o A:=match o.op,o.dst with
  | .box _ x,some d=>Nat.blt d N=true/\(A.ev x).isVal=true
  | _,_=>False
 post g o A:=match o.op,o.dst with
  | .box _ x,some d=>⟨((A.drop x).put (some d) (.ptr (.key d) [] g 0)).t,(d,(g,A.ev x))::(A.drop x).h⟩
  | _,_=>A
 ok:=by
  rintro N ⟨dst,op,ty,pos,after,C7⟩ A K-hp hK
  simp only at hp hK
  split at hp
  rename_i T x d
  obtain⟨e1,hv⟩:=hp
  intro Pb Kb a w F Q hs
  obtain⟨Fx,F',hr,x8,hnd,u0,hfr,_⟩:=hs.take x
  have hR:=zH hr hv
  have h1:=x8.nN (.cells (a.eval x).cells T)
  have h2:=h1.put (d:=d) (v:=.ptr (.key d) [] w.heap.size 0) (x:=.pointer (some ⟨w.heap.size,0,none⟩)) (F':=[]) (bD e1) ⟨rfl,rfl⟩ Z8 Z8 Z8
  have hA:At (w.alloc (.cells (a.eval x).cells T)) Pb (A.ev x) w.heap.size 0 Fx:=
   ⟨(a.eval x).cells.toList,(a.eval x).cells,⟨T,(0,0),fI w _,fun i _ h=>by omega⟩,fP (A.ev x) hR (fun g hg=>alloc_old w _ g (hs.bound g (hs.sub g hg))) (fun g hg=>alloc_old w _ g (hfr g hg).2) (fun _ h=>h) (fun g hg c=>(hfr g hg).1 (hs.sub g c)),fun j u hu=>by simpa using hu⟩
  have h3:=h2.Ay (k:=d) hA (List.nodup_cons.2 ⟨fun c=>by have:=(hfr _ c).2;omega,hnd⟩) (fun r y hy c=>by
   simp only[bY]at c
   rcases List.mem_cons.1 hy with rfl | hy
   split at c
   simp at c
   have:=(x8.free r _ c).2;omega
   split at c
   simp at c
   exact u0 r y hy c) (fun y hy=>by
   rcases List.mem_cons.1 hy with rfl | hy
   exact⟨fun c=>by have:=hs.bound _ c;omega,by rw[dt];omega⟩
   exact⟨(hfr y hy).1,by rw[dt];have:=(hfr y hy).2;omega⟩)
  have y9:(execOp a.eval ⟨some d,.box T x,ty,pos,after,C7⟩).run P w=.ok (.value (.pointer (some ⟨w.heap.size,0,none⟩))) (w.alloc (.cells (a.eval x).cells T)):=by
   simp[execOp,Instr.box,newVar,jo]
  unfold Oper.wp
  rw[y9,Oper.upon_value]
  exact⟨_,Pb,Kb,_,hK w.heap.size,h3,fun _ h=>h,fun _ h=>h,fun _ h=>.inl h,x4.alloc hs.bound _⟩
  exact hp.elim
end
end Go.Abs
namespace Go.Pd
open Go.Abs
def K3(t:l4):Bool:=(jB t).isSome&&decide (t.lk.length<400)
def A7(w:List Pg)(t:l4):l4:=if (t.hs.getD (m6 t) b7).kn=true then LQ w { t with a8:=s6 t } (m6 t) else OR w { t with a8:=s6 t } (m6 t)
structure Mi (t:l4):Prop where
 t0:TS t
 n:t.na.length<=1000
 l:t.lk.length<=400
 w:0<=t.a8/\t.a8<=5000
theorem zD(w:List Pg)(t:l4)(i:Nat):(LQ w t i).na=t.na/\(LQ w t i).a8=t.a8:=by
 unfold LQ
 simp only
 split
 exact⟨rfl,rfl⟩
 split
 have:=oM (DE ((t.hs.getD i b7).td.getD 0 j6).ad (ab w ((t.hs.getD i b7).td.getD 0 j6).ad ((t.hs.getD i b7).td.getD 0 j6).tr).1 (ab w ((t.hs.getD i b7).td.getD 0 j6).ad ((t.hs.getD i b7).td.getD 0 j6).tr).2) { t with hs:=t.hs.set i (A8 w (t.hs.getD i b7) t.a8),lk:=t.lk++[⟨t.a8,((t.hs.getD i b7).td.getD 0 j6).ad,(ab w ((t.hs.getD i b7).td.getD 0 j6).ad ((t.hs.getD i b7).td.getD 0 j6).tr).1⟩] }
 exact⟨this.1,this.2.1⟩
 exact⟨rfl,rfl⟩
theorem Jt(t:l4):∀ i,i<=t.hs.length->(J2 t i=(-1,0))\/∃ j:Nat,(J2 t i).1=(j:Int)/\j<i/\(t.hs.getD j b7).td≠[]/\t.a8<=(J2 t i).2
 | 0,_=>.inl rfl
 | i+1,hi=>by
   rw[pH Z9]
   unfold ou
   split
   rename_i c
   exact .inr ⟨i,rfl,Z9,c.1,by simp only;omega⟩
   rcases Jt t i Z9 with h | ⟨j,h1,h2,h3,h4⟩
   exact .inl h
   exact .inr ⟨j,h1,Z9,h3,h4⟩
theorem jA{t:l4}(h:K3 t=true):m6 t<t.hs.length/\(t.hs.getD (m6 t) b7).td≠[]/\t.a8<=s6 t/\s6 t<=5000:=by
 unfold K3 at h
 rw[Bool.and_eq_true]at h
 have h1:=h.1
 unfold m6 s6
 unfold jB at h1 ⊢
 split at h1
 cases h1
 rename_i c
 rw[if_neg c]
 rcases Jt t _ (Nat.le_refl _) with e | ⟨j,e1,e2,e3,e4⟩
 rw[e]at c;exact absurd (.inl Z6) c
 simp only[Option.map_some,Option.getD_some,e1,Int.toNat_natCast]
 exact⟨e2,e3,e4,Z9⟩
end Go.Pd
namespace Go.Proofs.YtbjbamjffkanbaaGreatDoor
open Go Go.Abs Go.RowKit Go.Pd
set_option maxRecDepth 20000
theorem KJ{t:l4}(h:(jB t).isSome=false\/(400:Int)<=(t.lk.length:Int)): ¬ K3 t=true:=fun c=>by
 unfold K3 at c
 rw[Bool.and_eq_true,decide_eq_true_eq]at c
 rcases h with h | h
 rw[h]at c;exact absurd c.1 Z6
 omega
theorem KS{t:l4}(h:(jB t).isSome=true/\(t.lk.length:Int)<400): ¬ K3 t=false:=fun c=>by
 unfold K3 at c
 rw[h.1,decide_eq_true Z9]at c;cases c
theorem KF{t:l4}(h:Mi t){i:Nat}(hi:i<t.hs.length):HS 60 (t.hs.getD i b7):=(h.t0.ha _ (aw (d:=b7) hi)).mono h.t0.s
theorem Li{w:List Pg}{n:BL}{a8:Int}{zs:List k9}{se:List BL}{ls:List l8}(h:(zs.getD (m6 ⟨n,a8,zs,se,ls⟩) b7).kn=true):A7 w ⟨n,a8,zs,se,ls⟩=LQ w ⟨n,s6 ⟨n,a8,zs,se,ls⟩,zs,se,ls⟩ (m6 ⟨n,a8,zs,se,ls⟩):=if_pos h
theorem Lx{w:List Pg}{n:BL}{a8:Int}{zs:List k9}{se:List BL}{ls:List l8}(h:(zs.getD (m6 ⟨n,a8,zs,se,ls⟩) b7).kn=false):A7 w ⟨n,a8,zs,se,ls⟩=OR w ⟨n,s6 ⟨n,a8,zs,se,ls⟩,zs,se,ls⟩ (m6 ⟨n,a8,zs,se,ls⟩):=if_neg (by rw[h];decide)
def AU(ea:Addr):o8 Tryz.prog:={ f:=75,args:=[.lit (.iface 252 (.pointer (some ea))),.lit (.iface 252 (.pointer (some ea)))],H:=[],pre:=True,res:=bV true,H':=[],ok:=fun _=>EC ea }
def yu(ea:Addr):o8 Tryz.prog:={ f:=75,args:=[.lit .nilIface,.lit (.iface 252 (.pointer (some ea)))],H:=[],pre:=True,res:=bV false,H':=[],ok:=fun _=>DL ea }
def Dm(n:BL)(a8:Int)(zs:List k9)(se:List BL)(ls:List l8)(gt:Nat)(gw:Nat)(ea:Addr)(w:List Pg):o8 Tryz.prog:=.mk 76 [.ptr (.key 1001) [] gw 0] [(1001,(gw,.agg [.mp (w.map E7),.ptr (.key 1000) [] gt 0])),(1000,(gt,bG n a8 zs se ls)),(9000,(0,.lit (.iface 252 (.pointer (some ea)))))] ((aq w=true)/\(∀ i,m8 (w.getD i l5))/\(Mi (⟨n,a8,zs,se,ls⟩:l4))/\(K3 (⟨n,a8,zs,se,ls⟩:l4)=true)) (.lit .nilIface) [(1001,(gw,.agg [.mp (w.map E7),.ptr (.key 1000) [] gt 0])),(1000,(gt,bG n ((A7 w (⟨n,a8,zs,se,ls⟩:l4)).a8) ((A7 w (⟨n,a8,zs,se,ls⟩:l4)).hs) ((A7 w (⟨n,a8,zs,se,ls⟩:l4)).se) ((A7 w (⟨n,a8,zs,se,ls⟩:l4)).lk))),(9000,(0,.lit (.iface 252 (.pointer (some ea)))))] (by
 rintro⟨hw,hz,ht,hg⟩
 have Ui:=jA hg
 have Uh:=KF ht Ui.1
 simp only at Ui Uh
 refine az (N:=52) (rs:=[.tmp 2]) Tryz.func76
  (.q 1<|.r 5 [.c9]<|.q 1<|.c (vf n a8 zs se ls gt) [(1000,1000)]<|.q 7<|.oR (.key 1000) [4] (fun gl PW cl=>.r 10 [.c9]<|.br (.nil) (.q 4<|.st none<|.oR (.key 1000) [2] (fun g o c=>.r 7 [.c9]<|.cu (baC (.agg [.lit (.func (.func 112) #[] #[]),.lit (.func (.func 113) #[] #[])])) (fun _=>.al Lf (fun g8=>.st none<|.q 1<|.r 4 [bV ((zs.getD (m6 (⟨n,a8,zs,se,ls⟩:l4)) b7).kn)]<|.br (.q 1<|.r 5 [.c9]<|.c (zO n (s6 (⟨n,a8,zs,se,ls⟩:l4)) zs se ls gt g o c gw (m6 (⟨n,a8,zs,se,ls⟩:l4)) w) [(1001,1001),(1000,1000)]<|.q 1<|.nil) (.r 5 [.c9]<|.c (yE n (s6 (⟨n,a8,zs,se,ls⟩:l4)) zs se ls gt g o c gw (m6 (⟨n,a8,zs,se,ls⟩:l4)) w) [(1001,1001),(1000,1000)]<|.q 1<|.nil)))))))
  ((fun v1:Bool=>(True/\Z gw 1/\(vf n a8 zs se ls gt).sm/\Er gt (bG n a8 zs se ls)/\((zs.length<=1000))/\∀ gl PW cl:Nat,Gd (v1==false) True/\Gd (v1==false) (Z gt 4)/\Pk v1 true (v1==false)/\Br (v1||(z6 (((ls.map ba).length:Nat):Int) 400)) (False) (True/\Z gt 1/\∀ g o c:Nat,(fun v2:List V=>(fun v3:V=>True/\Z gt 2/\In (((m6 (⟨n,a8,zs,se,ls⟩:l4)):Nat):Int) ((zs.map aE).length)/\(∃ y,(.agg [.lit (.func (.func 112) #[] #[]),.lit (.func (.func 113) #[] #[])]:V).val? =some y/\∀ w,(Instr.build 158 ([(0,.func (.func 112) #[] #[]),(1,.func (.func 113) #[] #[])]:List (Nat×Value)).toArray).run Tryz.prog w=.ok y w)/\∀ _:Unit,(fun v4:V=>(fun v5:V=> ∀ g8:Nat,Z g8 0/\True/\(V.at gt 0 (.agg [sV n,iV (s6 (⟨n,a8,zs,se,ls⟩:l4)),.own 8 (zs.map aE) g o c,.ow 1 (se.map sV),.own 3 (ls.map ba) gl PW cl]) [2,0+(m6 (⟨n,a8,zs,se,ls⟩:l4)),2]=some (g,(o+(0+(m6 (⟨n,a8,zs,se,ls⟩:l4)))*8+2),bV ((zs.getD (m6 (⟨n,a8,zs,se,ls⟩:l4)) b7).kn)))/\Br ((zs.getD (m6 (⟨n,a8,zs,se,ls⟩:l4)) b7).kn) (((0:Int)<=1/\(1:Int)<2)/\Z g8 1/\(v2=[.ptr (.key 1001) [] gw 0,.ptr (.key 1000) [2,(m6 (⟨n,a8,zs,se,ls⟩:l4))] g (o+(m6 (⟨n,a8,zs,se,ls⟩:l4))*8)])/\Er gw v5/\Er gt v3/\(((m6 (⟨n,a8,zs,se,ls⟩:l4))<zs.length)/\(ls.length<=1000)/\(0<=(s6 (⟨n,a8,zs,se,ls⟩:l4))/\(s6 (⟨n,a8,zs,se,ls⟩:l4))<=100000)/\(HS 60 (zs.getD (m6 (⟨n,a8,zs,se,ls⟩:l4)) b7))/\(aq w=true)/\(∀ i,m8 (w.getD i l5))/\(0<(zs.getD (m6 (⟨n,a8,zs,se,ls⟩:l4)) b7).td.length)/\(TS ⟨n,(s6 (⟨n,a8,zs,se,ls⟩:l4)),zs,se,ls⟩)/\(n.length<=1000))/\Q (.lit .nilIface) (.lit .nilIface)/\Er gw v5/\Qr gt (bG n (s6 (⟨n,a8,zs,se,ls⟩:l4)) ((LQ w (⟨n,(s6 (⟨n,a8,zs,se,ls⟩:l4)),zs,se,ls⟩:l4) (m6 (⟨n,a8,zs,se,ls⟩:l4))).hs) ((LQ w (⟨n,(s6 (⟨n,a8,zs,se,ls⟩:l4)),zs,se,ls⟩:l4) (m6 (⟨n,a8,zs,se,ls⟩:l4))).se) ((LQ w (⟨n,(s6 (⟨n,a8,zs,se,ls⟩:l4)),zs,se,ls⟩:l4) (m6 (⟨n,a8,zs,se,ls⟩:l4))).lk)) gt v4/\Er 0 (.lit (.iface 252 (.pointer (some ea))))) (((0:Int)<=0/\(0:Int)<2)/\Z g8 0/\(v2=[.ptr (.key 1001) [] gw 0,.ptr (.key 1000) [2,(m6 (⟨n,a8,zs,se,ls⟩:l4))] g (o+(m6 (⟨n,a8,zs,se,ls⟩:l4))*8)])/\Er gw v5/\Er gt v3/\(((m6 (⟨n,a8,zs,se,ls⟩:l4))<zs.length)/\(ls.length<=1000)/\(0<=(s6 (⟨n,a8,zs,se,ls⟩:l4))/\(s6 (⟨n,a8,zs,se,ls⟩:l4))<=100000)/\(HS 60 (zs.getD (m6 (⟨n,a8,zs,se,ls⟩:l4)) b7))/\(∀ i,m8 (w.getD i l5)))/\Q (.lit .nilIface) (.lit .nilIface)/\Er gw v5/\Qr gt (bG n (s6 (⟨n,a8,zs,se,ls⟩:l4)) (zs.set (m6 (⟨n,a8,zs,se,ls⟩:l4)) (Ml w n (zs.getD (m6 (⟨n,a8,zs,se,ls⟩:l4)) b7) (s6 (⟨n,a8,zs,se,ls⟩:l4)))) se (ls++[(⟨(s6 (⟨n,a8,zs,se,ls⟩:l4)),ae (zs.getD (m6 (⟨n,a8,zs,se,ls⟩:l4)) b7).na,(ab w (ae (zs.getD (m6 (⟨n,a8,zs,se,ls⟩:l4)) b7).na) (zs.getD (m6 (⟨n,a8,zs,se,ls⟩:l4)) b7).tr).1⟩:l8)])) gt v4/\Er 0 (.lit (.iface 252 (.pointer (some ea)))))) (.agg [.mp (w.map E7),.ptr (.key 1000) [] gt 0])) (bG n ((A7 w (⟨n,a8,zs,se,ls⟩:l4)).a8) ((A7 w (⟨n,a8,zs,se,ls⟩:l4)).hs) ((A7 w (⟨n,a8,zs,se,ls⟩:l4)).se) ((A7 w (⟨n,a8,zs,se,ls⟩:l4)).lk))) (bH n (s6 (⟨n,a8,zs,se,ls⟩:l4)) zs g o c se ls)) ([.ptr (.key 1001) [] gw 0,.ptr (.key 1000) [2,(m6 (⟨n,a8,zs,se,ls⟩:l4))] g (o+(0+(m6 (⟨n,a8,zs,se,ls⟩:l4)))*8)]:List V)))) (!((jB (⟨n,a8,zs,se,ls⟩:l4)).isSome))) ?_
 refine⟨trivial,rfl,rfl,rfl,by have:=ht.t0.h;have:=ht.t0.s;simp only at *;omega,?_⟩
 intro gl PW cl
 refine⟨fun hG=>trivial,fun hG=>rfl,⟨fun _=>rfl,fun h=>by rw[h] <;> rfl⟩,?_⟩
 refine bI (fun j9=>?_) fun j9=>?_
 · all_goals exact absurd hg (KJ j9)
 refine⟨trivial,rfl,?_⟩
 intro g o c
 refine⟨trivial,rfl,Z2,⟨_,rfl,fun _=>by kernel_rfl⟩,?_⟩
 intro _
 intro g8
 refine⟨rfl,trivial,(aT (f:=2) rfl).trans (aJ (by rw[Nat.zero_add];exact an (d:=b7) Z9) rfl),?_⟩
 refine bI (fun l6=>?_) fun l6=>?_
 refine⟨Z9,rfl,by first | rfl | (exfalso;omega) | (simp only[Nat.zero_add]) | (simp;omega),rfl,rfl,⟨Ui.1,by have:=ht.l;simp only at *;omega,by have:=ht.w;simp only at *;omega,Uh,hw,hz,List.length_pos_iff.2 Ui.2.1,⟨ht.t0.s,ht.t0.h,ht.t0.sa,ht.t0.ha⟩,ht.n⟩,?_⟩
 refine⟨?_,rfl,by rw[Li l6,(zD w _ _).2],rfl⟩
 unfold Q
 rfl
 refine⟨Z9,rfl,by first | rfl | (exfalso;omega) | (simp only[Nat.zero_add]) | (simp;omega),rfl,rfl,⟨Ui.1,by have:=ht.l;simp only at *;omega,by have:=ht.w;simp only at *;omega,Uh,hz⟩,?_⟩
 refine⟨?_,rfl,by rw[Lx l6];rfl,rfl⟩
 unfold Q
 rfl)
def AE(n:BL)(a8:Int)(zs:List k9)(se:List BL)(ls:List l8)(gt:Nat)(gw:Nat)(ea:Addr)(w:List Pg):o8 Tryz.prog:=.mk 76 [.ptr (.key 1001) [] gw 0] [(1001,(gw,.agg [.mp (w.map E7),.ptr (.key 1000) [] gt 0])),(1000,(gt,bG n a8 zs se ls)),(9000,(0,.lit (.iface 252 (.pointer (some ea)))))] ((aq w=true)/\(∀ i,m8 (w.getD i l5))/\(Mi (⟨n,a8,zs,se,ls⟩:l4))/\(K3 (⟨n,a8,zs,se,ls⟩:l4)=false)) (.lit (.iface 252 (.pointer (some ea)))) [(1001,(gw,.agg [.mp (w.map E7),.ptr (.key 1000) [] gt 0])),(1000,(gt,bG n a8 zs se ls)),(9000,(0,.lit (.iface 252 (.pointer (some ea)))))] (by
 rintro⟨hw,hz,ht,hg⟩
 refine az (N:=52) (rs:=[.tmp 2]) Tryz.func76
  (.q 1<|.r 5 [.c9]<|.q 1<|.c (vf n a8 zs se ls gt) [(1000,1000)]<|.q 7<|.oR (.key 1000) [4] (fun gl PW cl=>.r 10 [.c9]<|.br (.r 2 [.c9]<|.nil) (.nil)))
  ((fun v1:Bool=>(fun v2:V=>(True/\Z gw 1/\(vf n a8 zs se ls gt).sm/\Er gt (bG n a8 zs se ls)/\((zs.length<=1000))/\∀ gl PW cl:Nat,Gd (v1==false) True/\Gd (v1==false) (Z gt 4)/\Pk v1 true (v1==false)/\Br (v1||(z6 (((ls.map ba).length:Nat):Int) 400)) (Z 0 0/\Q v2 v2/\Er gw (.agg [.mp (w.map E7),.ptr (.key 1000) [] gt 0])/\Er gt (bG n a8 zs se ls)/\Er 0 v2) (False))) (.lit (.iface 252 (.pointer (some ea))))) (!((jB (⟨n,a8,zs,se,ls⟩:l4)).isSome))) ?_
 refine⟨trivial,rfl,rfl,rfl,by have:=ht.t0.h;have:=ht.t0.s;simp only at *;omega,?_⟩
 intro gl PW cl
 refine⟨fun hG=>trivial,fun hG=>rfl,⟨fun _=>rfl,fun h=>by rw[h] <;> rfl⟩,?_⟩
 refine bI (fun j9=>?_) fun j9=>?_
 refine⟨rfl,?_⟩
 refine⟨?_,rfl,rfl,rfl⟩
 unfold Q
 rfl
 · all_goals exact absurd hg (KS j9))
end Go.Proofs.YtbjbamjffkanbaaGreatDoor
namespace Go.Pd
open Go.Abs
def D1(w:List Pg):Nat->l4->l4
 | 0,t=>t
 | n+1,t=>if K3 t=true then D1 w n (A7 w t) else t
def MO(w:List Pg):Nat->l4->Nat
 | 0,_=>0
 | n+1,t=>if K3 t=true then MO w n (A7 w t)+1 else 0
end Go.Pd
namespace Go.Proofs.YtbjbamjffkanbaaGreatDoor
open Go Go.Abs Go.RowKit Go.Pd
set_option maxRecDepth 20000
theorem jK{w:List Pg}{t:l4}(hw:aq w=true)(hz:∀ i,m8 (w.getD i l5))(h:Mi t)(hg:K3 t=true):Mi (A7 w t):=by
 have hx:=jA hg
 have Uh:=h.t0.ha _ (aw (d:=b7) hx.1)
 have hl:t.lk.length<400:=by
  unfold K3 at hg
  rw[Bool.and_eq_true,decide_eq_true_eq]at hg
  exact hg.2
 have Vd:=h.t0
 have Ng:∀ y:k9,HS t.se.length y->∀ ls,TS ⟨t.na,s6 t,t.hs.set (m6 t) y,t.se,ls⟩:=fun y hy ls=>by
  refine⟨Vd.s,by rw[List.length_set];exact Vd.h,Vd.sa,fun z hz=>?_⟩
  rcases bN hz with e | hz
  rw[e];exact hy
  exact Vd.ha z hz
 obtain⟨q1,q2,q3,q4,q5,q6,q7⟩:=Uh
 unfold A7
 split
 ·
  have G6:=List.length_pos_iff.2 hx.2.1
  have hit:=q6 _ (aw (d:=j6) G6)
  have hF:HS t.se.length (A8 w (t.hs.getD (m6 t) b7) (s6 t)):=by
   refine⟨q1,q2,q3,q4,?_,fun x hx=>q6 x (List.mem_of_mem_drop hx),q7⟩
   show ((t.hs.getD (m6 t) b7).td.drop 1).length+60<=_
   rw[List.length_drop];omega
  have e:=zD w { t with a8:=s6 t } (m6 t)
  refine⟨?_,by rw[e.1];exact h.n,?_,by rw[e.2];have:=h.w;exact⟨by simp only;omega,hx.2.2.2⟩⟩
  unfold LQ
  simp only
  split
  rename_i hc
  refine Ng { A8 w (t.hs.getD (m6 t) b7) (s6 t) with td:=(t.hs.getD (m6 t) b7).td.drop 1++[⟨((t.hs.getD (m6 t) b7).td.getD 0 j6).ad,((t.hs.getD (m6 t) b7).td.getD 0 j6).tr+1⟩] } ⟨q1,q2,q3,q4,?_,fun x hx=>?_,q7⟩ _
  show (_++[_]).length+60<=_
  rw[List.length_append,List.length_drop,List.length_singleton];omega
  rcases List.mem_append.1 hx with hx | hx
  exact q6 x (List.mem_of_mem_drop hx)
  rw[List.mem_singleton.1 hx];exact⟨hit.1,hit.2.1,by simp only;omega,by simp only;omega⟩
  split
  rename_i ha
  have ei:aB ((t.hs.getD (m6 t) b7).td.getD 0 j6).ad=ar ((t.hs.getD (m6 t) b7).td.getD 0 j6).ad:=if_pos ha
  exact rU _ (Ng _ hF _) h.n (fun s hs=>rm (b:=oA (ar ((t.hs.getD (m6 t) b7).td.getD 0 j6).ad)) hw hz s hs)
  exact Ng _ hF _
  unfold LQ
  simp only
  split
  simp;omega
  split
  rw[(oM _ _).2.2];simp;omega
  simp;omega
 refine⟨Ng _ ?_ _,h.n,by simp[OR];omega,by have:=h.w;exact⟨by show 0<=s6 t;omega,hx.2.2.2⟩⟩
 show HS t.se.length (Ml w t.na (t.hs.getD (m6 t) b7) (s6 t))
 unfold Ml
 split
 rename_i hc
 exact⟨q1,q2,q3,q4,q5,q6,⟨by simp only;omega,by simp only;omega⟩⟩
 have s1:=oY (ab w (ae (t.hs.getD (m6 t) b7).na) 2).1 (ab w (ae (t.hs.getD (m6 t) b7).na) 2).2 t.na
 have s2:=jY (ab w (ae (t.hs.getD (m6 t) b7).na) 2).1 (ab w (ae (t.hs.getD (m6 t) b7).na) 2).2 t.na
 refine⟨q1,Nat.le_trans s1.1 Z9,fun i=>tI (p:=fun r:o9=>r.path.length<=1000) (fun r hr=>by have:=s1.2 r hr;omega) Z8 i,Nat.le_trans s2 Z9,?_,fun x hx=>q6 x (List.mem_filter.1 hx).1,q7⟩
 show ((t.hs.getD (m6 t) b7).td.filter _).length+60<=_
 have:=List.length_filter_le (MP (bg w t.na (t.hs.getD (m6 t) b7).na).ru) (t.hs.getD (m6 t) b7).td
 omega
theorem DT(w:List Pg)(t:l4):(A7 w t).na=t.na:=by
 unfold A7
 split
 exact(zD w _ _).1
 rfl
theorem Ib{w:List Pg} {n:BL} {no:Int} {zz:List k9} {ss:List BL} {ll:List l8} {m:Int} {i:Nat} {t0:l4} (hw:aq w=true) (hz:∀ i,m8 (w.getD i l5)) (hg:K3 ⟨n,no,zz,ss,ll⟩=true) (hi:(i:Int)<m) (h2:Mi ⟨n,no,zz,ss,ll⟩)
 (h3:D1 w m.toNat t0=D1 w (m.toNat-i) ⟨n,no,zz,ss,ll⟩) (h4:MO w m.toNat t0=i+MO w (m.toNat-i) ⟨n,no,zz,ss,ll⟩):
 ((i+1:Nat):Int)<=m/\Mi ⟨n,(A7 w ⟨n,no,zz,ss,ll⟩).a8,(A7 w ⟨n,no,zz,ss,ll⟩).hs,(A7 w ⟨n,no,zz,ss,ll⟩).se,(A7 w ⟨n,no,zz,ss,ll⟩).lk⟩/\
   D1 w m.toNat t0=D1 w (m.toNat-(i+1)) ⟨n,(A7 w ⟨n,no,zz,ss,ll⟩).a8,(A7 w ⟨n,no,zz,ss,ll⟩).hs,(A7 w ⟨n,no,zz,ss,ll⟩).se,(A7 w ⟨n,no,zz,ss,ll⟩).lk⟩/\
   MO w m.toNat t0=i+1+MO w (m.toNat-(i+1)) ⟨n,(A7 w ⟨n,no,zz,ss,ll⟩).a8,(A7 w ⟨n,no,zz,ss,ll⟩).hs,(A7 w ⟨n,no,zz,ss,ll⟩).se,(A7 w ⟨n,no,zz,ss,ll⟩).lk⟩:=by
 have e:(⟨n,(A7 w ⟨n,no,zz,ss,ll⟩).a8,(A7 w ⟨n,no,zz,ss,ll⟩).hs,(A7 w ⟨n,no,zz,ss,ll⟩).se,(A7 w ⟨n,no,zz,ss,ll⟩).lk⟩:l4)=A7 w ⟨n,no,zz,ss,ll⟩:=by
  have:=DT w ⟨n,no,zz,ss,ll⟩
  generalize A7 w ⟨n,no,zz,ss,ll⟩=q at this ⊢
  cases q;simp only at this;rw[this]
 rw[e]
 have ek:m.toNat-i=(m.toNat-(i+1))+1:=Z9
 rw[ek]at h3 h4
 simp only[D1,MO,hg,if_true]at h3 h4
 exact⟨Z9,jK hw hz h2 hg,h3,Z9⟩
theorem yR{w:List Pg}{m i:Nat}{t t0:l4}(hi:m-i=0)(h3:D1 w m t0=D1 w (m-i) t)(h4:MO w m t0=i+MO w (m-i) t):D1 w m t0=t/\MO w m t0=i:=by
 rw[hi]at h3 h4;exact⟨h3,h4⟩
theorem GG{w:List Pg}{m i:Nat}{t t0:l4}(hg:K3 t=false)(h3:D1 w m t0=D1 w (m-i) t)(h4:MO w m t0=i+MO w (m-i) t):D1 w m t0=t/\MO w m t0=i:=by
 cases hk:m-i with
 | zero=>exact yR hk h3 h4
 | succ k=>
   rw[hk]at h3 h4
   simp only[D1,MO,hg,Bool.false_eq_true,if_false]at h3 h4
   exact⟨h3,h4⟩
def AI(n:BL)(a8:Int)(zs:List k9)(se:List BL)(ls:List l8)(gt:Nat)(gw:Nat)(ea:Addr)(w:List Pg)(m:Int):o8 Tryz.prog:=.mk 42 [.ptr (.key 1001) [] gw 0,iV m] [(1001,(gw,.agg [.mp (w.map E7),.ptr (.key 1000) [] gt 0])),(1000,(gt,bG n a8 zs se ls)),(9000,(0,.lit (.iface 252 (.pointer (some ea)))))] ((aq w=true)/\(∀ i,m8 (w.getD i l5))/\(Mi (⟨n,a8,zs,se,ls⟩:l4))/\(0<=m/\m<=1000)) (iN (MO w m.toNat (⟨n,a8,zs,se,ls⟩:l4))) [(1001,(gw,.agg [.mp (w.map E7),.ptr (.key 1000) [] gt 0])),(1000,(gt,bG n ((D1 w m.toNat (⟨n,a8,zs,se,ls⟩:l4)).a8) ((D1 w m.toNat (⟨n,a8,zs,se,ls⟩:l4)).hs) ((D1 w m.toNat (⟨n,a8,zs,se,ls⟩:l4)).se) ((D1 w m.toNat (⟨n,a8,zs,se,ls⟩:l4)).lk))),(9000,(0,.lit (.iface 252 (.pointer (some ea)))))] (by
 rintro⟨hw,hz,ht,hm⟩
 refine az (N:=17) (rs:=[.tmp 4]) Tryz.func42
  (.q 1<|.q 2<|.loop (Nat×Int×(List k9)×(List BL)×(List l8)) (fun (i,no,zz,ss,ll)=>⟨[(0,.ptr (.key 1001) [] gw 0),(1,iV m),(6,iV m),(7,iN i)],[(1001,(gw,.agg [.mp (w.map E7),.ptr (.key 1000) [] gt 0])),(1000,(gt,bG n no zz ss ll)),(9000,(0,.lit (.iface 252 (.pointer (some ea)))))]⟩) (fun (i,no,zz,ss,ll)=>(i:Int)<=m/\Mi (⟨n,no,zz,ss,ll⟩:l4)/\D1 w m.toNat (⟨n,a8,zs,se,ls⟩:l4)=D1 w (m.toNat-i) (⟨n,no,zz,ss,ll⟩:l4)/\MO w m.toNat (⟨n,a8,zs,se,ls⟩:l4)=i+MO w (m.toNat-i) (⟨n,no,zz,ss,ll⟩:l4)) (fun (i,no,zz,ss,ll)=>m.toNat-i) (fun (i,no,zz,ss,ll)=>.q 1<|.br (.sp (K3 (⟨n,no,zz,ss,ll⟩:l4)) (.q 2<|.dx 3 [0,2,1] [(2,⟨false,[],some [9000],[12],[]⟩),(1,⟨true,[],none,[11],[1000]⟩)] []<|.q 1<|.r 1 [.c9]<|.eu (WU (Dm n no zz ss ll gt gw ea w) [(1001,1001),(1000,1000),(9000,9000)] 1000 gt (bG n ((A7 w (⟨n,no,zz,ss,ll⟩:l4)).a8) ((A7 w (⟨n,no,zz,ss,ll⟩:l4)).hs) ((A7 w (⟨n,no,zz,ss,ll⟩:l4)).se) ((A7 w (⟨n,no,zz,ss,ll⟩:l4)).lk))) (fun _=>.c (yu ea) []<|.br (.nil) (.q 2<|.nil))) (.q 2<|.dx 3 [0,2,1] [(2,⟨false,[],some [9000],[12],[]⟩),(1,⟨true,[],none,[11],[1000]⟩)] []<|.q 1<|.r 1 [.c9]<|.eu (WU (AE n no zz ss ll gt gw ea w) [(1001,1001),(1000,1000),(9000,9000)] 1000 gt (bG n no zz ss ll)) (fun _=>.c (AU ea) []<|.br (.q 2<|.nil) (.nil)))) (.q 2<|.nil)))
  ((fun v1:V=>(fun v2:V=>(fun v3:V=>((∃ x:Nat×Int×(List k9)×(List BL)×(List l8),match x with | (j7,OT,MU,MY,OV)=>((j7:Int)<=m/\Mi (⟨n,OT,MU,MY,OV⟩:l4)/\D1 w m.toNat (⟨n,a8,zs,se,ls⟩:l4)=D1 w (m.toNat-j7) (⟨n,OT,MU,MY,OV⟩:l4)/\MO w m.toNat (⟨n,a8,zs,se,ls⟩:l4)=j7+MO w (m.toNat-j7) (⟨n,OT,MU,MY,OV⟩:l4))/\E (.ptr (.key 1001) [] gw 0)/\E (iV m)/\E (iV m)/\Q (iN 0) (iN j7)/\Er gw v1/\Qr gt (bG n a8 zs se ls) gt (bG n OT MU MY OV)/\Er 0 v3/\True)/\∀ x:Nat×Int×(List k9)×(List BL)×(List l8),match x with | (i,no,zz,ss,ll)=>((i:Int)<=m/\Mi (⟨n,no,zz,ss,ll⟩:l4)/\D1 w m.toNat (⟨n,a8,zs,se,ls⟩:l4)=D1 w (m.toNat-i) (⟨n,no,zz,ss,ll⟩:l4)/\MO w m.toNat (⟨n,a8,zs,se,ls⟩:l4)=i+MO w (m.toNat-i) (⟨n,no,zz,ss,ll⟩:l4))->(fun v4:V=>Br (s8 (i:Int) m) (((K3 (⟨n,no,zz,ss,ll⟩:l4))=true->Z 0 0/\((Dm n no zz ss ll gt gw ea w).sm/\Er gw v1/\Er gt v4/\Er 0 v3/\(((aq w=true)/\(∀ i,m8 (w.getD i l5))/\(Mi (⟨n,no,zz,ss,ll⟩:l4))/\(K3 (⟨n,no,zz,ss,ll⟩:l4)=true))/\(((gw,.agg [.mp (w.map E7),.ptr (.key 1000) [] gt 0]):Nat×V)=(gw,.agg [.mp (w.map E7),.ptr (.key 1000) [] gt 0]))/\(((gt,bG n ((A7 w (⟨n,no,zz,ss,ll⟩:l4)).a8) ((A7 w (⟨n,no,zz,ss,ll⟩:l4)).hs) ((A7 w (⟨n,no,zz,ss,ll⟩:l4)).se) ((A7 w (⟨n,no,zz,ss,ll⟩:l4)).lk)):Nat×V)=(gt,bG n ((A7 w (⟨n,no,zz,ss,ll⟩:l4)).a8) ((A7 w (⟨n,no,zz,ss,ll⟩:l4)).hs) ((A7 w (⟨n,no,zz,ss,ll⟩:l4)).se) ((A7 w (⟨n,no,zz,ss,ll⟩:l4)).lk)))/\(((0,.lit (.iface 252 (.pointer (some ea)))):Nat×V)=(0,.lit (.iface 252 (.pointer (some ea)))))/\True))/\∀ _:Unit,(yu ea).sm/\(True)/\Br false (False) (m9 ((i:Int)+1)/\∃ x:Nat×Int×(List k9)×(List BL)×(List l8),match x with | (c5,OS,MT,MX,OU)=>((c5:Int)<=m/\Mi (⟨n,OS,MT,MX,OU⟩:l4)/\D1 w m.toNat (⟨n,a8,zs,se,ls⟩:l4)=D1 w (m.toNat-c5) (⟨n,OS,MT,MX,OU⟩:l4)/\MO w m.toNat (⟨n,a8,zs,se,ls⟩:l4)=c5+MO w (m.toNat-c5) (⟨n,OS,MT,MX,OU⟩:l4))/\(m.toNat-c5<m.toNat-i)/\E (.ptr (.key 1001) [] gw 0)/\E (iV m)/\E (iV m)/\Q (iN (i+1)) (iN c5)/\Er gw v1/\Qr gt (bG n ((A7 w (⟨n,no,zz,ss,ll⟩:l4)).a8) ((A7 w (⟨n,no,zz,ss,ll⟩:l4)).hs) ((A7 w (⟨n,no,zz,ss,ll⟩:l4)).se) ((A7 w (⟨n,no,zz,ss,ll⟩:l4)).lk)) gt (bG n OS MT MX OU)/\Er 0 v3/\True))/\((K3 (⟨n,no,zz,ss,ll⟩:l4))=false->Z 0 0/\((AE n no zz ss ll gt gw ea w).sm/\Er gw v1/\Er gt v4/\Er 0 v3/\(((aq w=true)/\(∀ i,m8 (w.getD i l5))/\(Mi (⟨n,no,zz,ss,ll⟩:l4))/\(K3 (⟨n,no,zz,ss,ll⟩:l4)=false))/\(((gw,.agg [.mp (w.map E7),.ptr (.key 1000) [] gt 0]):Nat×V)=(gw,.agg [.mp (w.map E7),.ptr (.key 1000) [] gt 0]))/\(((gt,bG n no zz ss ll):Nat×V)=(gt,bG n no zz ss ll))/\(((0,.lit (.iface 252 (.pointer (some ea)))):Nat×V)=(0,.lit (.iface 252 (.pointer (some ea)))))/\True))/\∀ _:Unit,(AU ea).sm/\(True)/\Br true (Q (iN i) (iN (MO w m.toNat (⟨n,a8,zs,se,ls⟩:l4)))/\Er gw v1/\Qr gt v4 gt v2/\Er 0 v3) (False))) (Q (iV m) (iN (MO w m.toNat (⟨n,a8,zs,se,ls⟩:l4)))/\Er gw v1/\Qr gt v4 gt v2/\Er 0 v3)) (bG n no zz ss ll))) (.lit (.iface 252 (.pointer (some ea))))) (bG n ((D1 w m.toNat (⟨n,a8,zs,se,ls⟩:l4)).a8) ((D1 w m.toNat (⟨n,a8,zs,se,ls⟩:l4)).hs) ((D1 w m.toNat (⟨n,a8,zs,se,ls⟩:l4)).se) ((D1 w m.toNat (⟨n,a8,zs,se,ls⟩:l4)).lk))) (.agg [.mp (w.map E7),.ptr (.key 1000) [] gt 0])) ?_
 refine⟨⟨(0,a8,zs,se,ls),?_,rfl,rfl,rfl,rfl,rfl,rfl,rfl,trivial⟩,?_⟩
 exact⟨Z9,ht,rfl,Z8⟩
 rintro⟨i,no,zz,ss,ll⟩ ⟨h1,h2,h3,h4⟩
 refine bI (fun j9=>?_) fun j9=>?_
 · refine⟨fun Mz=>?_,fun Mz=>?_⟩
   · have Qe:=Mz
     try simp only[nb]at Qe
     refine⟨rfl,⟨rfl,rfl,rfl,rfl,⟨⟨hw,hz,h2,Mz⟩,rfl,rfl,rfl,trivial⟩⟩,?_⟩
     intro _
     refine⟨rfl,trivial,?_⟩
     refine bI (fun l6=>?_) fun l6=>?_
     · all_goals (first | exact absurd l6 Z6 | simp_all)
     refine⟨Z9,?_⟩
     refine⟨(i+1,(A7 w (⟨n,no,zz,ss,ll⟩:l4)).a8,(A7 w (⟨n,no,zz,ss,ll⟩:l4)).hs,(A7 w (⟨n,no,zz,ss,ll⟩:l4)).se,(A7 w (⟨n,no,zz,ss,ll⟩:l4)).lk),?_,?_,rfl,rfl,rfl,rfl,rfl,rfl,rfl,trivial⟩
     exact Ib hw hz Mz Z9 h2 h3 h4
     exact Z1
   · have Qe:=Mz
     try simp only[nb]at Qe
     refine⟨rfl,⟨rfl,rfl,rfl,rfl,⟨⟨hw,hz,h2,Mz⟩,rfl,rfl,rfl,trivial⟩⟩,?_⟩
     intro _
     refine⟨rfl,trivial,?_⟩
     refine bI (fun n0=>?_) fun n0=>?_
     refine⟨?_,rfl,by rw[(GG Mz h3 h4).1],rfl⟩
     unfold Q
     rw[(GG Mz h3 h4).2]
     · all_goals (first | exact absurd n0 Z6 | simp_all)
 refine⟨?_,rfl,by rw[(yR Z9 h3 h4).1],rfl⟩
 unfold Q
 rw[(yR Z9 h3 h4).2]
 refine congrArg iV ?_;omega)
end Go.Proofs.YtbjbamjffkanbaaGreatDoor
namespace Go.Pd
open Go.Abs
def aU(w:List Pg)(t:l4)(m:Int):Option l4:=if y8 m 0 400=true/\(aq w&&aZ t)=true then some (D1 w m.toNat t) else none
end Go.Pd
namespace Go.Proofs.YtbjbamjffkanbaaGreatDoor
open Go Go.Abs Go.RowKit Go.Pd
set_option maxRecDepth 20000
theorem mE{t:l4}(ht:C5 t)(hh:t.hs.length<=900)(hk:aZ t=true):Mi t:=by
 unfold aZ at hk
 simp only[Bool.and_eq_true,List.all_eq_true,decide_eq_true_eq]at hk
 obtain⟨⟨⟨⟨⟨k1,k2⟩,k3⟩,k4⟩,k5⟩,k6⟩:=hk
 have ks:t.se.length<=60:=by
  unfold cQ at k3
  simp only[Bool.and_eq_true,decide_eq_true_eq]at k3
  exact k3.1.1
 have kl:t.lk.length<=400:=by
  unfold cN at k4
  simp only[Bool.and_eq_true,decide_eq_true_eq]at k4
  exact k4.1
 refine⟨⟨ks,Z9,ht.sa,fun y hy=>?_⟩,ht.n,kl,of_decide_eq_true k2⟩
 have hz:=ht.ha y hy
 obtain⟨a1,a2⟩:=k5 y hy
 unfold dg at a1
 unfold cP at a2
 simp only[Bool.and_eq_true,List.all_eq_true,decide_eq_true_eq]at a1 a2
 obtain⟨⟨⟨⟨b1,b2⟩,b3⟩,b4⟩,b5⟩:=a1
 obtain⟨⟨c1,c2⟩,c3⟩:=a2
 have b3:=of_decide_eq_true b3
 refine⟨hz.n,hz.r,hz.rp,?_,Z9,fun x hx=>?_,Z9⟩
 split at b5
 simp only[Bool.and_eq_true,decide_eq_true_eq]at b5
 have:=of_decide_eq_true b5.2
 omega
 rw[decide_eq_true_eq]at b5
 rw[b5.2];omega
 have d1:=hz.ta x hx
 have d2:=of_decide_eq_true (c2 x hx).2
 exact⟨d1.1,d1.2,Z9,Z9⟩
theorem DI(w:List Pg):∀ (k:Nat) (t:l4),(D1 w k t).na=t.na
 | 0,_=>rfl
 | k+1,t=>by
   unfold D1
   split
   rw[DI w k,DT]
   rfl
theorem LG{m:Int}(h:y8 m 0 400=true):0<=m/\m<=400:=of_decide_eq_true h
theorem Jw{w:List Pg}{t:l4}{m:Int}(h:y8 m 0 400=false):aU w t m=none:=if_neg fun c=>by rw[h]at c;exact absurd c.1 Z6
theorem tR{w:List Pg}{t:l4}{m:Int}(h:y8 m 0 400=true)(h1:aq w=true)(h2:aZ t=true):aU w t m=some (D1 w m.toNat t):=if_pos ⟨h,by rw[h1,h2];rfl⟩
theorem IW{w:List Pg}{t:l4}{m:Int}(h:(aq w&&aZ t)=false):aU w t m=none:=if_neg fun c=>by rw[h]at c;exact absurd c.2 Z6
abbrev iC(w:List Pg)(t:l4)(m:Int)(ea:Addr):V:=.tup [bG ((oT (aU w t m)).na) ((oT (aU w t m)).a8) ((oT (aU w t m)).hs) ((oT (aU w t m)).se) ((oT (aU w t m)).lk),bV ((aU w t m).isSome)]
def xc(w:List Pg)(t:l4)(m:Int)(ea:Addr):o8 Tryz.prog:=.mk 15 [bS w,dX t.na t.a8 t.hs t.se t.lk,iV m] [(9000,(0,.lit (.iface 252 (.pointer (some ea)))))] ((w.length<=30)/\(∀ i,m8 (w.getD i l5))/\(C5 t)/\(t.hs.length<=900)) (iC w t m ea) [(9000,(0,.lit (.iface 252 (.pointer (some ea)))))] (by
 rintro⟨hw,hz,ht,hh⟩
 refine az (N:=32) (rs:=[.cell 6 30,.tmp 7]) Tryz.func15
  (.bx (fun g4=>.al fV (fun g6=>.q 1<|.q 1<|.c (dp (0:Int) m (400:Int)) []<|.q 1<|.br (.bd fV<|.st none<|.q 1<|.h (.A9 (.key 6) [2] 8)<|.h (.A9 (.key 6) [3] 1)<|.h (.A9 (.key 6) [4] 3)<|.nil) (.r 2 [.c9]<|.sp (aq w&&aZ t) (.cx (sD w t) [(1001,17),(1000,3017)] (fun (J0:Nat×Nat)=>.q 5<|.q 2<|.br (.nil) (.q 2<|.c (AI t.na t.a8 t.hs t.se t.lk J0.2 J0.1 ea w m) [(1001,17),(1000,3017),(9000,9000)]<|.r 5 [.c9]<|.mv<|.st none<|.q 1<|.nil))) (.c (rr w t) []<|.q 5<|.q 2<|.br (.bd fV<|.st none<|.q 1<|.h (.A9 (.key 6) [2] 8)<|.h (.A9 (.key 6) [3] 1)<|.h (.A9 (.key 6) [4] 3)<|.nil) (.nil))))))
  ((fun v1:V=>(fun v2:V=>(∀ g4:Nat,∀ g6:Nat,(dp (0:Int) m (400:Int)).sm/\(True)/\Br (!(y8 m (0:Int) (400:Int))) (Z g6 0/\(g6=g6)/\Q v2 (iC w t m ea)/\Er 0 v1) (Z g4 0/\((aq w&&aZ t)=true->(sD w t).sm/\((w.length<=30)/\(∀ i,m8 (w.getD i l5))/\(C5 t)/\(aq w=true)/\(aZ t=true))/\∀ J0:Nat×Nat,(True)->Br (!true) (False) ((AI t.na t.a8 t.hs t.se t.lk J0.2 J0.1 ea w m).sm/\Er J0.1 (.agg [.mp (w.map E7),.ptr (.key 1000) [] J0.2 0])/\Er J0.2 (bG t.na t.a8 t.hs t.se t.lk)/\Er 0 v1/\((aq w=true)/\(∀ i,m8 (w.getD i l5))/\(Mi (⟨t.na,t.a8,t.hs,t.se,t.lk⟩:l4))/\(0<=m/\m<=1000))/\True/\Z J0.1 1/\True/\Z J0.2 0/\Z g6 0/\(g6=g6)/\Q (.tup [bG t.na ((D1 w m.toNat (⟨t.na,t.a8,t.hs,t.se,t.lk⟩:l4)).a8) ((D1 w m.toNat (⟨t.na,t.a8,t.hs,t.se,t.lk⟩:l4)).hs) ((D1 w m.toNat (⟨t.na,t.a8,t.hs,t.se,t.lk⟩:l4)).se) ((D1 w m.toNat (⟨t.na,t.a8,t.hs,t.se,t.lk⟩:l4)).lk),bV true]) (iC w t m ea)/\Er 0 v1))/\((aq w&&aZ t)=false->(rr w t).sm/\((w.length<=30)/\(∀ i,m8 (w.getD i l5))/\(C5 t)/\((aq w&&aZ t)=false))/\Br (!false) (Z g6 0/\(g6=g6)/\Q v2 (iC w t m ea)/\Er 0 v1) (False))))) (.tup [.agg [sV [],iN 0,.ow 8 ([].map aE),.ow 1 ([].map sV),.ow 3 ([].map ba)],bV false])) (.lit (.iface 252 (.pointer (some ea))))) ?_
 intro g4
 intro g6
 refine⟨rfl,trivial,?_⟩
 refine bI (fun j9=>?_) fun j9=>?_
 refine⟨rfl,?_⟩
 refine⟨rfl,?_,rfl⟩
 unfold Q iC
 rw[Jw j9];rfl
 · refine⟨rfl,?_⟩
   refine⟨fun N6=>?_,fun N6=>?_⟩
   · have L':=N6
     try simp only[nb]at L'
     refine⟨rfl,⟨hw,hz,ht,L'.1,L'.2⟩,?_⟩
     intro J0 OY
     refine bI (fun l6=>?_) fun l6=>?_
     · all_goals (first | exact absurd l6 Z6 | simp_all)
     refine⟨rfl,rfl,rfl,rfl,⟨L'.1,hz,mE ht hh L'.2,by have:=LG j9;omega⟩,trivial,rfl,trivial,rfl,rfl,?_⟩
     refine⟨rfl,?_,rfl⟩
     unfold Q iC
     rw[tR (by simpa using j9) L'.1 L'.2]
     exact congrArg (fun s:BL=>V.tup [V.agg [sV s,iV (D1 w m.toNat t).a8,V.ow 8 ((D1 w m.toNat t).hs.map aE),V.ow 1 ((D1 w m.toNat t).se.map sV),V.ow 3 ((D1 w m.toNat t).lk.map ba)],bV true]) (DI w m.toNat t).symm
   · have L':=N6
     try simp only[nb]at L'
     refine⟨rfl,⟨hw,hz,ht,N6⟩,?_⟩
     refine bI (fun n0=>?_) fun n0=>?_
     refine⟨rfl,?_⟩
     refine⟨rfl,?_,rfl⟩
     unfold Q iC
     rw[IW N6];rfl
     · all_goals (first | exact absurd n0 Z6 | simp_all))
theorem ny:∀ l:List k9,V.D5 (l.map aE)=l.map ck
 | []=>rfl
 | y::l=>by
   simp only[List.map_cons,V.D5,ny l]
   rw[show (aE y).er=ck y from by
    show V.agg (V.D5 [sV y.na,iV y.re,bV y.kn,bM y.gr,iV y.tr,.ow 2 (y.td.map ak)])=_
    simp only[V.D5,V.er]
    rw[aR (f:=ak) (fun _=>rfl)]]
theorem uP{n:BL}{e9:List BL}(hl:e9.length<=400):(oT (ax n e9)).hs.length<=900:=by
 unfold ax
 split
 have:=(kT n e9 (lN n)).hl
 show (e9.foldl ao (aV n)).hs.length<=900
 omega
 simp[oT]
theorem tN{n:BL}{e9:List BL}(hn:n.length<=1000)(hl:e9.length<=400)(ha:∀ x,x∈e9->x.length<=1000/\m4 x):C5 (oT (ax n e9)):=by
 unfold ax
 split
 have h1:=kT n e9 (lN n)
 have h2:TS (e9.foldl ao (aV n)):=rU e9 ⟨by simp[aV],by simp[aV],by simp[aV],by simp[aV]⟩ hn (fun s hs=>⟨(ha s hs).1,(ha s hs).2,(mZ s).1⟩)
 show C5 (e9.foldl ao (aV n))
 refine⟨by rw[h1.na];exact hn,by have:=h2.h;have:=h2.s;omega,by have:=h2.s;omega,by rw[h1.lk];simp,h2.sa,by rw[h1.lk];simp,fun y hy=>?_⟩
 have q:=h2.ha y hy
 have e:=(h1.hs y hy).2.1
 have:=h2.s
 exact⟨q.n,q.r,q.rp,by rw[e];simp,by have:=q.t;omega,fun x hx=>⟨(q.ta x hx).1,(q.ta x hx).2.1⟩⟩
 exact⟨by simp[oT],by simp[oT],by simp[oT],by simp[oT],by simp[oT],by simp[oT],by simp[oT]⟩
abbrev tn(w:List Pg)(n:BL)(e9:List BL)(m:Int)(ea:Addr):V:=.tup [bG ((oT (aU w (oT (ax n e9)) m)).na) ((oT (aU w (oT (ax n e9)) m)).a8) ((oT (aU w (oT (ax n e9)) m)).hs) ((oT (aU w (oT (ax n e9)) m)).se) ((oT (aU w (oT (ax n e9)) m)).lk),bV ((ax n e9).isSome&&(aU w (oT (ax n e9)) m).isSome)]
def kX(w:List Pg)(n:BL)(e9:List BL)(m:Int)(ea:Addr):o8 Tryz.prog:=.mk 10 [bS w,sV n,ay e9,iV m] [(9000,(0,.lit (.iface 252 (.pointer (some ea)))))] ((w.length<=30)/\(∀ i,m8 (w.getD i l5))/\(n.length<=1000)/\(e9.length<=400)/\(∀ x,x∈e9->x.length<=1000/\m4 x)) (tn w n e9 m ea) [(9000,(0,.lit (.iface 252 (.pointer (some ea)))))] (by
 rintro⟨hw,hz,hn,hl,ha⟩
 refine az (N:=32) (rs:=[.cell 8 30,.tmp 9]) Tryz.func10
  (.al fV (fun g8=>.q 1<|.q 2<|.c (wM n e9) []<|.mv<|.mv<|.q 1<|.al fV (fun g10=>.st none<|.q 1<|.q 1<|.mv<|.h (.fz 22)<|.h (.o5 22 (dX ((oT (ax n e9)).na) ((oT (ax n e9)).a8) ((oT (ax n e9)).hs) ((oT (ax n e9)).se) ((oT (ax n e9)).lk)))<|.q 1<|.c (xc w (oT (ax n e9)) m ea) [(9000,9000)]<|.mv<|.mv<|.q 1<|.al fV (fun g12=>.st none<|.q 1<|.mv<|.q 4<|.st none<|.q 1<|.nil))))
  (∀ g8:Nat,(wM n e9).sm/\((n.length<=1000)/\(e9.length<=1000)/\(∀ x,x∈e9->x.length<=1000/\m4 x))/\∀ g10:Nat,Z g10 0/\Z g10 0/\((.agg [sV ((oT (ax n e9)).na),iV ((oT (ax n e9)).a8),.sl false (V.D5 (((oT (ax n e9)).hs).map aE)),.sl false (V.D5 (((oT (ax n e9)).se).map sV)),.sl false (V.D5 (((oT (ax n e9)).lk).map ba))]:V)=dX ((oT (ax n e9)).na) ((oT (ax n e9)).a8) ((oT (ax n e9)).hs) ((oT (ax n e9)).se) ((oT (ax n e9)).lk))/\(xc w (oT (ax n e9)) m ea).sm/\Er 0 (.lit (.iface 252 (.pointer (some ea))))/\((w.length<=30)/\(∀ i,m8 (w.getD i l5))/\(C5 (oT (ax n e9)))/\((oT (ax n e9)).hs.length<=900))/\∀ g12:Nat,Z g12 0/\Z g12 0/\Pk ((ax n e9).isSome) (((ax n e9).isSome)==true) true/\Z g8 0/\(g8=g8)/\Q (.tup [bG ((oT (aU w (oT (ax n e9)) m)).na) ((oT (aU w (oT (ax n e9)) m)).a8) ((oT (aU w (oT (ax n e9)) m)).hs) ((oT (aU w (oT (ax n e9)) m)).se) ((oT (aU w (oT (ax n e9)) m)).lk),bV (((ax n e9).isSome)&&((aU w (oT (ax n e9)) m).isSome))]) (tn w n e9 m ea)/\Er 0 (.lit (.iface 252 (.pointer (some ea))))) ?_
 intro g8
 refine⟨rfl,⟨hn,Z9,ha⟩,?_⟩
 intro g10
 refine⟨rfl,rfl,by rw[ny,aR (f:=sV) (fun _=>rfl),aR (f:=ba) (fun _=>rfl)],rfl,rfl,⟨hw,hz,tN hn hl ha,uP hl⟩,?_⟩
 intro g12
 refine⟨rfl,rfl,⟨fun h=>by rw[h] <;> rfl,fun _=>rfl⟩,rfl,?_⟩
 refine⟨rfl,?_,rfl⟩
 unfold Q tn
 rfl)
end Go.Proofs.YtbjbamjffkanbaaGreatDoor
namespace Go.Pd
open Go.Abs
def gP(zs:List k9)(d:BL):Int:=if r7 zs d<zs.length then ((r7 zs d:Nat):Int) else -1
end Go.Pd
namespace Go.Proofs.YtbjbamjffkanbaaGreatDoor
open Go Go.Abs Go.RowKit Go.Pd
set_option maxRecDepth 20000
theorem IJ{zs:List k9}{d:BL}{i:Nat}(hi:i<zs.length)(e:(zs.getD i b7).na=d)(h:∀ j,j<i->((zs.getD j b7).na==d)=false):gP zs d=i:=by
 unfold gP;rw[uv hi e h,if_pos hi]
theorem HZ{zs:List k9}{d:BL}(h:∀ j,j<zs.length->((zs.getD j b7).na==d)=false):gP zs d= -1:=by
 unfold gP;rw[uS h,if_neg Z9]
def uk(n:BL)(a8:Int)(zs:List k9)(se:List BL)(ls:List l8)(gt:Nat)(g:Nat)(o:Nat)(c:Nat)(d:BL):o8 Tryz.prog:=.mk 98 [.agg [sV n,iV a8,.hd (.key 1000) [2] 8 g o 0 ((zs.map aE).length) c,.c9,.c9],sV d] [(1000,(gt,bH n a8 zs g o c se ls))] (zs.length<=1000) (iV (gP zs d)) [(1000,(gt,bH n a8 zs g o c se ls))] (by
 intro hl
 refine az (N:=22) (rs:=[.tmp 4]) Tryz.func98
  (.bx (fun g2=>.q 1<|.q 1<|.loop (Nat) (fun (i:Nat)=>⟨[(1,sV d),(2,.ptr (.key 2) [] g2 0),(5,iN i)],[(2,(g2,.agg [sV n,iV a8,.hd (.key 1000) [2] 8 g o 0 ((zs.map aE).length) c,.c9,.c9])),(1000,(gt,bH n a8 zs g o c se ls))]⟩) (fun (i:Nat)=>i<=zs.length/\∀ j,j<i->((zs.getD j b7).na==d)=false) (fun (i:Nat)=>zs.length-i) (fun (i:Nat)=>.r 5 [.c9]<|.br (.r 8 [.c9,sV ((zs.getD i b7).na)]<|.br (.q 2<|.nil) (.q 3<|.nil)) (.q 1<|.nil))))
  ((fun v1:V=>(fun v2:V=>(∀ g2:Nat,(∃ j7:Nat,(j7<=zs.length/\∀ j,j<j7->((zs.getD j b7).na==d)=false)/\E (sV d)/\E (.ptr (.key 2) [] g2 0)/\Q (iN 0) (iN j7)/\Er g2 v2/\Er gt v1/\True)/\∀ i:Nat,(i<=zs.length/\∀ j,j<i->((zs.getD j b7).na==d)=false)->Z g2 2/\Br (s8 (i:Int) (((zs.map aE).length:Nat):Int)) (Z g2 2/\In (i:Int) ((zs.map aE).length)/\(V.at gt 0 v1 [2,0+i,0]=some (g,(o+(0+i)*8+0),sV ((zs.getD i b7).na)))/\Br (((zs.getD i b7).na)==d) (Q (iN i) (iV (gP zs d))/\Er gt v1) (m9 ((i:Int)+1)/\∃ c5:Nat,(c5<=zs.length/\∀ j,j<c5->((zs.getD j b7).na==d)=false)/\(zs.length-c5<zs.length-i)/\E (sV d)/\E (.ptr (.key 2) [] g2 0)/\Q (iN (i+1)) (iN c5)/\Er g2 v2/\Er gt v1/\True)) (Q (iV (-1)) (iV (gP zs d))/\Er gt v1))) (.agg [sV n,iV a8,.hd (.key 1000) [2] 8 g o 0 ((zs.map aE).length) c,.c9,.c9])) (bH n a8 zs g o c se ls)) ?_
 intro g2
 refine⟨⟨0,?_,rfl,rfl,rfl,rfl,rfl,trivial⟩,?_⟩
 simp
 rintro i ⟨h1,h2⟩
 refine⟨rfl,?_⟩
 refine bI (fun j9=>?_) fun j9=>?_
 refine⟨rfl,Z2,(aT (f:=2) rfl).trans (aJ (by rw[Nat.zero_add];exact an (d:=b7) Z9) rfl),?_⟩
 refine bI (fun l6=>?_) fun l6=>?_
 refine⟨?_,rfl⟩
 unfold Q
 rw[IJ Z9 l6 h2]
 refine⟨Z9,?_⟩
 refine⟨i+1,?_,?_,rfl,rfl,rfl,rfl,rfl,trivial⟩
 exact⟨Z9,bP h2 (by simpa using l6)⟩
 exact Z1
 refine⟨?_,rfl⟩
 unfold Q
 rw[HZ (fun j hj=>h2 j Z9)])
abbrev LF(p0:BL)(p1:Int)(p2:Bool)(p3:List BL)(p4:List o9)(p5:Nat)(p6:Int)(p7:List w4)(p8:Nat)(p9:Nat)(Pa:Nat):V:=.agg [sV p0,iV p1,bV p2,.agg [.sl false (p3.map sV),.sl false (p4.map au),iN p5],iV p6,.own 2 (p7.map ak) p8 p9 Pa]
theorem xM{zs:List k9}{d:BL}(h:0<=gP zs d):r7 zs d<zs.length:=by
 unfold gP at h
 split at h
 assumption
 omega
theorem KH{se:List BL}{a:BL}(h:(ar a).isSome=false\/60<=(se.length:Int)): ¬ dh se a:=fun c=>by
 rcases h with e | e
 have:=c.1;unfold aD at this;rw[e]at this;cases this
 have:=c.2.1;omega
theorem KA{se:List BL}{a:BL}{i:Nat}(h:∀ j,j<i->((se.getD j [])==a)=false)(hi:se.length<=i):a ∉ se:=fun hm=>by
 obtain⟨j,hj,e⟩:=List.mem_iff_getElem.1 hm
 have:=h j Z9
 rw[List.getD_eq_getElem?_getD,List.getElem?_eq_getElem hj]at this
 simp[e]at this
theorem Ky{zs:List k9}{n a:BL}{se:List BL}(hr:dh se a)(h:((aA zs (af a) n).getD (r7 zs (af a)) b7).kn=false):aQ n zs se a=(aA zs (af a) n).set (r7 zs (af a)) { (aA zs (af a) n).getD (r7 zs (af a)) b7 with td:=((aA zs (af a) n).getD (r7 zs (af a)) b7).td++[⟨a,0⟩] }:=by
 unfold aQ
 rw[if_pos hr]
 unfold bc
 rw[if_neg (fun c=>by rw[h]at c;cases c.1)]
theorem lh3{zs:List k9}{n a:BL}{se:List BL}(hr:dh se a)(h:gP zs (oA (ar a)).h9<0):aQ n zs se a=(zs++[(bK (oA (ar a)).h9 n)]).set zs.length { (zs++[(bK (oA (ar a)).h9 n)]).getD zs.length b7 with td:=((zs++[(bK (oA (ar a)).h9 n)]).getD zs.length b7).td++[⟨a,0⟩] }:=by
 have e1:aA zs (af a) n=zs++[bK (oA (ar a)).h9 n]:=by
  unfold aA gP at *
  split at h
  omega
  rw[if_neg (by assumption)];rfl
 have e2:r7 zs (af a)=zs.length:=by
  have:=List.findIdx_le_length (p:=fun h:k9=>h.na==(oA (ar a)).h9) (xs:=zs)
  unfold gP at h
  split at h
  omega
  rename_i c;show r7 zs (oA (ar a)).h9=_;unfold r7 at *;omega
 rw[Ky hr (by rw[e1,e2];simp[bK]),e1,e2]
theorem lh4{zs:List k9}{n a:BL}{se:List BL}(hr:dh se a)(h:0<=gP zs (oA (ar a)).h9)(hk:(zs.getD (r7 zs (oA (ar a)).h9) b7).kn=false):aQ n zs se a=zs.set (r7 zs (oA (ar a)).h9) { zs.getD (r7 zs (oA (ar a)).h9) b7 with td:=(zs.getD (r7 zs (oA (ar a)).h9) b7).td++[⟨a,0⟩] }:=by
 have hl:r7 zs (af a)<zs.length:=xM h
 have e1:aA zs (af a) n=zs:=by unfold aA;rw[if_pos hl]
 rw[Ky hr (by rw[e1];exact hk),e1]
 rfl
theorem Cl{zs:List k9}{d:BL}(h:0<=gP zs d):iV (gP zs d)=iV ((r7 zs d:Nat):Int):=by
 unfold gP at h ⊢
 split at h
 rename_i c;rw[if_pos c]
 omega
abbrev iF(n:BL)(a8:Int)(zs:List k9)(se:List BL)(ls:List l8)(a:BL):V:=bG n a8 (aQ n zs se a) (cf se a) ls
def wF(n:BL)(a8:Int)(zs:List k9)(se:List BL)(ls:List l8)(a:BL):o8 Tryz.prog:=.mk 60 [bG n a8 zs se ls,sV a] [] ((zs.length<=1000)/\(se.length<=1000)/\(a.length<=1000)/\(aD a=true)/\(∀ y,y∈zs->y.td.length<=1000/\y.kn=false)) (iF n a8 zs se ls a) [] (by
 rintro⟨hl,M',ha,hk,hg⟩
 refine az (N:=83) (rs:=[.cell 4 30]) Tryz.func60
  (.cu bmC (fun g2=>.al fV (fun g4=>.oR (.key 2) [3] (fun gs os cs=>.oR (.key 2) [2] (fun g o c=>.q 1<|.loop (Nat) (fun (i:Nat)=>⟨[(1,sV a),(2,.ptr (.key 2) [] g2 0),(4,.ptr (.key 4) [] g4 0),(5,iN i)],[(2,(g2,.agg [sV n,iV a8,.own 8 (zs.map aE) g o c,.own 1 (se.map sV) gs os cs,.ow 3 (ls.map ba)])),(4,(g4,.agg [sV [],iN 0,.sl true [],.sl true [],.sl true []]))]⟩) (fun (i:Nat)=>i<=se.length/\∀ j,j<i->((se.getD j [])==a)=false) (fun (i:Nat)=>se.length-i) (fun (i:Nat)=>.r 5 [.c9]<|.br (.r 7 [.c9,sV (se.getD i [])]<|.br (.mv<|.st none<|.nil) (.q 3<|.nil)) (.q 1<|.c (mf a) []<|.q 3<|.al dc (fun g6=>.st none<|.q 1<|.r 8 [.c9]<|.br (.mv<|.st none<|.nil) (.r 3 [.c9]<|.bs<|.ap (fun TH Tk TO=>.h (.o5 42 (.own 1 ((se++[a]).map sV) TH Tk TO))<|.q 1<|.st none<|.r 3 [.c9,.c9]<|.c (uk n a8 zs (se++[a]) ls g2 g o c ((oA (ar a)).h9)) [(1000,2)]<|.q 1<|.q 2<|.join ((List k9×Nat)×Nat×Nat×Nat) (fun x=>⟨[(1,sV a),(2,.ptr (.key 2) [] g2 0),(4,.ptr (.key 4) [] g4 0),(8,iN x.1.2)],[(2,(g2,bH n a8 x.1.1 x.2.1 x.2.2.1 x.2.2.2 (se++[a]) ls)),(4,(g4,.agg [sV [],iN 0,.sl true [],.sl true [],.sl true []]))]⟩) (fun x=>x.1.2<x.1.1.length/\(x.1.1.getD x.1.2 b7).td.length<=1000/\aQ n zs se a=x.1.1.set x.1.2 { x.1.1.getD x.1.2 b7 with td:=(x.1.1.getD x.1.2 b7).td++[⟨a,0⟩] }) (.r 6 [.c9,.c9,.c9]<|.bs<|.bs<|.bd gO<|.bd zi<|.bs<|.ap (fun MD Mv Nn=>.h (.o5 61 (.own 8 (zs.map aE++[(.agg [sV ((oA (ar a)).h9),iN 0,bV false,.agg [.sl true [sV n],.sl true [],iN 0],iN 0,.sl true []]:V)]) MD Mv Nn))<|.h (.OP (.slot 61) [zs.length,5] MD (Mv+(zs.length)*8+7) 2)<|.h (.o5 61 (.own 8 (zs.map aE++[(.agg [sV ((oA (ar a)).h9),iN 0,bV false,.agg [.sl true [sV n],.sl true [],iN 0],iN 0,.own 2 ([].map ak) 0 0 0]:V)]) MD Mv Nn))<|.h (.ON (.slot 61) [zs.length] MD (Mv+(zs.length)*8) (.agg [sV ((oA (ar a)).h9),iN 0,bV false,.agg [.sl true [sV n],.sl true [],iN 0],iN 0,.own 2 ([].map ak) 0 0 0]) (.agg [sV ((oA (ar a)).h9),iV 0,bV false,.agg [.sl false ([n].map sV),.sl false ([].map au),iN 0],iV 0,.ow 2 ([].map ak)]))<|.h (.o5 61 (.own 8 (zs.map aE++[(.agg [sV ((oA (ar a)).h9),iV 0,bV false,.agg [.sl false ([n].map sV),.sl false ([].map au),iN 0],iV 0,.ow 2 ([].map ak)]:V)]) MD Mv Nn))<|.h (.o5 61 (.own 8 ((zs++[(bK (oA (ar a)).h9 n)]).map aE) MD Mv Nn))<|.q 1<|.st none<|.r 4 [.c9]<|.h (.o5 66 (iN zs.length))<|.q 1<|.nil)) (.h (.o5 47 (iN (r7 zs (oA (ar a)).h9)))<|.h (.o5 8 (iN (r7 zs (oA (ar a)).h9)))<|.h (.o5 48 (iN (r7 zs (oA (ar a)).h9)))<|.nil) (fun x=>.ex (k9) (fun y=>(x.1.1.getD x.1.2 b7)=y) (fun (y:k9)=>.h (.A6 2 (cU n a8 x.1.1 x.1.2 y.na y.re y.kn y.gr.na y.gr.ru y.gr.wa y.tr y.td x.2.1 x.2.2.1 x.2.2.2 (se++[a]) ls))<|.Pv (.key 2) [2,x.1.2,5] x.2.1 (x.2.2.1+(x.1.2)*8+7) 2 (y.td.map ak) (fun ga Pc ca=>.h (.A6 2 (bz n a8 x.1.1 x.1.2 y.na y.re y.kn y.gr.na y.gr.ru y.gr.wa y.tr y.td ga Pc ca x.2.1 x.2.2.1 x.2.2.2 (se++[a]) ls))<|.dx 13 [0,1,2,3,4,5,6,7,8,9,10,11,12] [(1,⟨false,[],some [1000202],[68],[]⟩),(4,⟨false,[],some [2],[71],[]⟩),(8,⟨false,[],some [2],[75],[]⟩),(12,⟨true,[],none,[79],[2,1000202]⟩)] []<|.q 1<|.r 1 [.c9]<|.q 1<|.q 1<|.r 1 [.c9]<|.q 1<|.q 1<|.q 1<|.r 1 [.own 2 (y.td.map ak) ga Pc ca]<|.q 1<|.bd sL<|.bs<|.eu (VA 2 [2,0+x.1.2,5] (y.td.map ak) ([.agg [sV a,iN 0]]:List V) x.2.1 (x.2.2.1+(0+x.1.2)*8+7) 2 ga Pc ca) (fun LM=>.h (.A6 2 (ma n a8 x.1.1 x.1.2 y.na y.re y.kn y.gr.na y.gr.ru y.gr.wa y.tr x.2.1 x.2.2.1 x.2.2.2 (se++[a]) ls))<|.h (.o5 79 (.own 2 ((y.td++[(⟨a,0⟩:w4)]).map ak) LM.1 LM.2.1 LM.2.2))<|.q 2<|.st (some (.c9))<|.h (.A6 2 (bz n a8 x.1.1 x.1.2 y.na y.re y.kn y.gr.na y.gr.ru y.gr.wa y.tr (y.td++[(⟨a,0⟩:w4)]) LM.1 LM.2.1 LM.2.2 x.2.1 x.2.2.1 x.2.2.2 (se++[a]) ls))<|.h (.ON (.key 2) [2,x.1.2,5] x.2.1 (x.2.2.1+(x.1.2)*8+7) (.own 2 ((y.td++[(⟨a,0⟩:w4)]).map ak) LM.1 LM.2.1 LM.2.2) (.ow 2 ((y.td++[(⟨a,0⟩:w4)]).map ak)))<|.h (.A6 2 (cU n a8 x.1.1 x.1.2 y.na y.re y.kn y.gr.na y.gr.ru y.gr.wa y.tr (y.td++[(⟨a,0⟩:w4)]) x.2.1 x.2.2.1 x.2.2.2 (se++[a]) ls))<|.h (.A6 2 (bH n a8 (x.1.1.set x.1.2 ({ y with td:=y.td++[⟨a,0⟩] }:k9)) x.2.1 x.2.2.1 x.2.2.2 (se++[a]) ls))<|.mv<|.st none<|.nil))))))))))))))
  ((fun v1:List V=>(fun v2:V=>(fun v3:V=>(fun v4:V=>(fun v5:V=>(fun v6:List V=>(fun v7:V=>(fun v8:Int=>(fun v9:Bool=>(((true=true)/\((bG n a8 zs se ls):V).isVal=true)/\∀ g2:Nat,(fun v10:V=> ∀ g4:Nat,(fun v11:V=> ∀ gs os cs:Nat,∀ g o c:Nat,(fun v12:V=>(∃ j7:Nat,(j7<=se.length/\∀ j,j<j7->((se.getD j [])==a)=false)/\E (sV a)/\E v10/\E v11/\Q (iN 0) (iN j7)/\Er g2 v12/\Er g4 v4/\True)/\∀ i:Nat,(i<=se.length/\∀ j,j<i->((se.getD j [])==a)=false)->Z g2 3/\Br (s8 (i:Int) (((se.map sV).length:Nat):Int)) (Z g2 3/\In (i:Int) ((se.map sV).length)/\(V.at g2 0 v12 [3,0+i]=some (gs,(os+(0+i)*1),sV (se.getD i [])))/\Br ((se.getD i [])==a) (Z g2 0/\Z g4 0/\(g4=g4)/\Q (bG n a8 zs se ls) (iF n a8 zs se ls a)) (m9 ((i:Int)+1)/\∃ c5:Nat,(c5<=se.length/\∀ j,j<c5->((se.getD j [])==a)=false)/\(se.length-c5<se.length-i)/\E (sV a)/\E v10/\E v11/\Q (iN (i+1)) (iN c5)/\Er g2 v12/\Er g4 v4/\True)) ((mf a).sm/\((a.length<=4611686018427387904))/\∀ g6:Nat,Z g6 0/\Gd (v9==false) (Z g2 3)/\Pk v9 true (v9==false)/\Br (v9||(z6 (((se.map sV).length:Nat):Int) 60)) (Z g2 0/\Z g4 0/\(g4=g4)/\Q (bG n a8 zs se ls) (iF n a8 zs se ls a)) (Z g2 3/\((1,1,gs,os,cs,(se.map sV).length)=(1,1,gs,os,cs,(se.map sV).length))/\(True)/\(V.aG ([sV a]:List V)=false)/\(aL 1 ([sV a]:List V))/\(((se.map sV).length+([sV a]:List V).length)*16<=140737488355328)/\∀ TH Tk TO:Nat,((.own 1 ((se.map sV)++([sV a]:List V)) TH Tk TO:V)=.own 1 ((se++[a]).map sV) TH Tk TO)/\Z g2 3/\Z g2 0/\Z g6 0/\(uk n a8 zs (se++[a]) ls g2 g o c ((oA (ar a)).h9)).sm/\Er g2 (bH n a8 zs g o c (se++[a]) ls)/\((zs.length<=1000))/\((s8 (gP zs ((oA (ar a)).h9)) 0)=true->Z g2 2/\Z g6 0/\Z g2 0/\((8,8,g,o,c,(zs.map aE).length)=(8,8,g,o,c,(zs.map aE).length))/\(True)/\(V.aG v1=false)/\(aL 8 v1)/\(((zs.map aE).length+v1.length)*120<=140737488355328)/\∀ MD Mv Nn:Nat,((.own 8 ((zs.map aE)++v1) MD Mv Nn:V)=.own 8 (zs.map aE++[v3]) MD Mv Nn)/\(V.at MD Mv (.own 8 (zs.map aE++[v3]) MD Mv Nn) [zs.length,5]=some (MD,Mv+(zs.length)*8+7,.sl true []))/\(V.set (.own 8 (zs.map aE++[v3]) MD Mv Nn) [zs.length,5] (.own 2 ([].map ak) 0 0 0)=.own 8 (zs.map aE++[v2]) MD Mv Nn)/\(V.at MD Mv (.own 8 (zs.map aE++[v2]) MD Mv Nn) [zs.length]=some (MD,Mv+(zs.length)*8,.agg [sV ((oA (ar a)).h9),iN 0,bV false,.agg [.sl true [sV n],.sl true [],iN 0],iN 0,.own 2 ([].map ak) 0 0 0]))/\(V.set (.own 8 (zs.map aE++[v2]) MD Mv Nn) [zs.length] (.agg [sV ((oA (ar a)).h9),iV 0,bV false,.agg [.sl false ([n].map sV),.sl false ([].map au),iN 0],iV 0,.ow 2 ([].map ak)])=.own 8 (zs.map aE++[v5]) MD Mv Nn)/\((.own 8 (zs.map aE++[v5]) MD Mv Nn:V)=.own 8 ((zs++[(bK (oA (ar a)).h9 n)]).map aE) MD Mv Nn)/\Z g2 2/\Z g2 2/\m9 (v8-1)/\Q (iV (v8-1)) (iN zs.length)/\∃ x:(List k9×Nat)×Nat×Nat×Nat,(x.1.2<x.1.1.length/\(x.1.1.getD x.1.2 b7).td.length<=1000/\aQ n zs se a=x.1.1.set x.1.2 { x.1.1.getD x.1.2 b7 with td:=(x.1.1.getD x.1.2 b7).td++[⟨a,0⟩] })/\E (sV a)/\E v10/\E v11/\Q (iN zs.length) (iN x.1.2)/\Qr g2 (bH n a8 (zs++[(bK (oA (ar a)).h9 n)]) MD Mv Nn (se++[a]) ls) g2 (bH n a8 x.1.1 x.2.1 x.2.2.1 x.2.2.2 (se++[a]) ls)/\Er g4 v4/\True)/\((s8 (gP zs ((oA (ar a)).h9)) 0)=false->(v7=iN (r7 zs (oA (ar a)).h9))/\(v7=iN (r7 zs (oA (ar a)).h9))/\(v7=iN (r7 zs (oA (ar a)).h9))/\∃ x:(List k9×Nat)×Nat×Nat×Nat,(x.1.2<x.1.1.length/\(x.1.1.getD x.1.2 b7).td.length<=1000/\aQ n zs se a=x.1.1.set x.1.2 { x.1.1.getD x.1.2 b7 with td:=(x.1.1.getD x.1.2 b7).td++[⟨a,0⟩] })/\E (sV a)/\E v10/\E v11/\Q (iN (r7 zs (oA (ar a)).h9)) (iN x.1.2)/\Qr g2 (bH n a8 zs g o c (se++[a]) ls) g2 (bH n a8 x.1.1 x.2.1 x.2.2.1 x.2.2.2 (se++[a]) ls)/\Er g4 v4/\True)/\(∀ x:(List k9×Nat)×Nat×Nat×Nat,(x.1.2<x.1.1.length/\(x.1.1.getD x.1.2 b7).td.length<=1000/\aQ n zs se a=x.1.1.set x.1.2 { x.1.1.getD x.1.2 b7 with td:=(x.1.1.getD x.1.2 b7).td++[⟨a,0⟩] })->(∃ y:k9,(x.1.1.getD x.1.2 b7)=y)/\∀ y:k9,((x.1.1.getD x.1.2 b7)=y)->(fun MM:V=>(fun Ou:V=>((bH n a8 x.1.1 x.2.1 x.2.2.1 x.2.2.2 (se++[a]) ls:V)=cU n a8 x.1.1 x.1.2 y.na y.re y.kn y.gr.na y.gr.ru y.gr.wa y.tr y.td x.2.1 x.2.2.1 x.2.2.2 (se++[a]) ls)/\(V.at g2 0 MM [2,x.1.2,5]=some (x.2.1,x.2.2.1+(x.1.2)*8+7,.ow 2 (y.td.map ak)))/\∀ ga Pc ca:Nat,(fun PQ:V=>(fun QG:V=>(V.set MM [2,x.1.2,5] (.own 2 (y.td.map ak) ga Pc ca)=bz n a8 x.1.1 x.1.2 y.na y.re y.kn y.gr.na y.gr.ru y.gr.wa y.tr y.td ga Pc ca x.2.1 x.2.2.1 x.2.2.2 (se++[a]) ls)/\Z g2 2/\Z g2 2/\In (x.1.2:Int) (((x.1.1.take x.1.2).map aE++QG::(x.1.1.drop (x.1.2+1)).map aE).length)/\(V.at g2 0 PQ [2,0+x.1.2,5]=some (x.2.1,(x.2.2.1+(0+x.1.2)*8+7),.own 2 (y.td.map ak) ga Pc ca))/\(v6=v6/\((.hd (.key 2) [2,0+x.1.2,5] 2 ga Pc 0 ((y.td.map ak).length) ca:V)=.hd (.key 2) [2,0+x.1.2,5] 2 ga Pc 0 ((y.td.map ak).length) ca)/\(V.at g2 0 PQ [2,0+x.1.2,5]=some (x.2.1,x.2.2.1+(0+x.1.2)*8+7,.own 2 (y.td.map ak) ga Pc ca))/\((2:Nat)=2)/\(V.aG v6=false)/\(aL 2 v6)/\(((y.td.map ak).length+v6.length)*24<=140737488355328))/\∀ LM:Nat×Nat×Nat,(fun Rn:V=>(V.set PQ [2,0+x.1.2,5] (.c9)=ma n a8 x.1.1 x.1.2 y.na y.re y.kn y.gr.na y.gr.ru y.gr.wa y.tr x.2.1 x.2.2.1 x.2.2.2 (se++[a]) ls)/\((.own 2 ((y.td.map ak)++v6) LM.1 LM.2.1 LM.2.2:V)=.own 2 ((y.td++[(⟨a,0⟩:w4)]).map ak) LM.1 LM.2.1 LM.2.2)/\In (x.1.2:Int) (((x.1.1.take x.1.2).map aE++QG::(x.1.1.drop (x.1.2+1)).map aE).length)/\(V.at g2 0 Ou [2,0+x.1.2,5]=some (x.2.1,(x.2.2.1+(0+x.1.2)*8+7),.c9))/\(V.set Ou [2,0+x.1.2,5] (.own 2 ((y.td++[(⟨a,0⟩:w4)]).map ak) LM.1 LM.2.1 LM.2.2)=bz n a8 x.1.1 x.1.2 y.na y.re y.kn y.gr.na y.gr.ru y.gr.wa y.tr (y.td++[(⟨a,0⟩:w4)]) LM.1 LM.2.1 LM.2.2 x.2.1 x.2.2.1 x.2.2.2 (se++[a]) ls)/\(V.at g2 0 Rn [2,x.1.2,5]=some (x.2.1,x.2.2.1+(x.1.2)*8+7,.own 2 ((y.td++[(⟨a,0⟩:w4)]).map ak) LM.1 LM.2.1 LM.2.2))/\(V.set Rn [2,x.1.2,5] (.ow 2 ((y.td++[(⟨a,0⟩:w4)]).map ak))=cU n a8 x.1.1 x.1.2 y.na y.re y.kn y.gr.na y.gr.ru y.gr.wa y.tr (y.td++[(⟨a,0⟩:w4)]) x.2.1 x.2.2.1 x.2.2.2 (se++[a]) ls)/\((cU n a8 x.1.1 x.1.2 y.na y.re y.kn y.gr.na y.gr.ru y.gr.wa y.tr (y.td++[(⟨a,0⟩:w4)]) x.2.1 x.2.2.1 x.2.2.2 (se++[a]) ls:V)=bH n a8 (x.1.1.set x.1.2 ({ y with td:=y.td++[⟨a,0⟩] }:k9)) x.2.1 x.2.2.1 x.2.2.2 (se++[a]) ls)/\Z g2 0/\Z g4 0/\(g4=g4)/\Q (bG n a8 (x.1.1.set x.1.2 ({ y with td:=y.td++[⟨a,0⟩] }:k9)) (se++[a]) ls) (iF n a8 zs se ls a)) (bz n a8 x.1.1 x.1.2 y.na y.re y.kn y.gr.na y.gr.ru y.gr.wa y.tr (y.td++[(⟨a,0⟩:w4)]) LM.1 LM.2.1 LM.2.2 x.2.1 x.2.2.1 x.2.2.2 (se++[a]) ls)) (LF y.na y.re y.kn y.gr.na y.gr.ru y.gr.wa y.tr y.td ga Pc ca:V)) (bz n a8 x.1.1 x.1.2 y.na y.re y.kn y.gr.na y.gr.ru y.gr.wa y.tr y.td ga Pc ca x.2.1 x.2.2.1 x.2.2.2 (se++[a]) ls)) (ma n a8 x.1.1 x.1.2 y.na y.re y.kn y.gr.na y.gr.ru y.gr.wa y.tr x.2.1 x.2.2.1 x.2.2.2 (se++[a]) ls)) (cU n a8 x.1.1 x.1.2 y.na y.re y.kn y.gr.na y.gr.ru y.gr.wa y.tr y.td x.2.1 x.2.2.1 x.2.2.2 (se++[a]) ls))))) (.agg [sV n,iV a8,.own 8 (zs.map aE) g o c,.own 1 (se.map sV) gs os cs,.ow 3 (ls.map ba)])) (.ptr (.key 4) [] g4 0)) (.ptr (.key 2) [] g2 0))) (!((ar a).isSome))) ((((zs++[(bK (oA (ar a)).h9 n)]).map aE).length:Nat):Int)) (iV (gP zs ((oA (ar a)).h9)):V)) ([.agg [sV a,iN 0]]:List V)) (.agg [sV ((oA (ar a)).h9),iV 0,bV false,.agg [.sl false ([n].map sV),.sl false ([].map au),iN 0],iV 0,.ow 2 ([].map ak)]:V)) (.agg [sV [],iN 0,.sl true [],.sl true [],.sl true []])) (.agg [sV ((oA (ar a)).h9),iN 0,bV false,.agg [.sl true [sV n],.sl true [],iN 0],iN 0,.sl true []]:V)) (.agg [sV ((oA (ar a)).h9),iN 0,bV false,.agg [.sl true [sV n],.sl true [],iN 0],iN 0,.own 2 ([].map ak) 0 0 0]:V)) ([.agg [sV ((oA (ar a)).h9),iN 0,bV false,.agg [.sl true [sV n],.sl true [],iN 0],iN 0,.sl true []]]:List V)) ?_
 refine⟨⟨rfl,rfl⟩,?_⟩
 intro g2
 intro g4
 intro gs os cs
 intro g o c
 refine⟨⟨0,?_,rfl,rfl,rfl,rfl,rfl,rfl,trivial⟩,?_⟩
 simp
 rintro i ⟨h1,h2⟩
 refine⟨rfl,?_⟩
 refine bI (fun j9=>?_) fun j9=>?_
 refine⟨rfl,Z2,(aT (f:=3) rfl).trans (aJ (by rw[Nat.zero_add];exact an (d:=[]) Z9) rfl),?_⟩
 refine bI (fun l6=>?_) fun l6=>?_
 refine⟨rfl,rfl,?_⟩
 refine⟨rfl,?_⟩
 unfold Q iF
 have hr: ¬ dh se a:=fun c=>c.2.2 (by rw[<- l6];exact aw Z9)
 rw[oL hr,oO hr]
 refine⟨Z9,?_⟩
 refine⟨i+1,?_,?_,rfl,rfl,rfl,rfl,rfl,rfl,trivial⟩
 exact⟨Z9,bP h2 (by simpa using l6)⟩
 exact Z1
 refine⟨rfl,Z9,?_⟩
 intro g6
 refine⟨rfl,fun hG=>rfl,⟨fun _=>rfl,fun h=>by rw[h] <;> rfl⟩,?_⟩
 refine bI (fun n0=>?_) fun n0=>?_
 refine⟨rfl,rfl,?_⟩
 refine⟨rfl,?_⟩
 unfold Q iF
 have hr: ¬ dh se a:=KH n0
 rw[oL hr,oO hr]
 refine⟨rfl,rfl,trivial,rfl,by simp[aL,V.n,V.ns],by(try simp only[List.length_append,List.length_map,List.length_cons,List.length_nil]);(try have:=Vm);omega,?_⟩
 intro TH Tk TO
 refine⟨congrArg (V.own 1 · TH Tk TO) Z8,rfl,?_⟩
 have hr:dh se a:=⟨hk,by have:=n0.2;omega,KA h2 Z9⟩
 refine⟨rfl,rfl,rfl,rfl,hl,?_⟩
 refine⟨fun w5=>?_,fun w5=>?_,fun x hx=>?_⟩
 try simp only[nb]at w5
 refine⟨rfl,rfl,rfl,rfl,trivial,rfl,by simp[aL,V.n,V.ns],by(try simp only[List.length_append,List.length_map,List.length_cons,List.length_nil]);(try have:=Vm);omega,?_⟩
 intro MD Mv Nn
 refine⟨congrArg (V.own 8 · MD Mv Nn) (rfl),aJ (aY) rfl,aX (aY) (dq),gg aY,mH (aY) (dq),congrArg (V.own 8 · MD Mv Nn) (by rw[List.map_append (f:=aE)];rfl),rfl,?_⟩
 have XD:(zs++[(bK (oA (ar a)).h9 n)]).length=zs.length+1:=Z8
 refine⟨rfl,Z2,by unfold Q;refine congrArg iV ?_;simp,?_⟩
 exact⟨((zs++[(bK (oA (ar a)).h9 n)],zs.length),MD,Mv,Nn),⟨Z8,by simp[bK],lh3 hr w5⟩,rfl,rfl,rfl,Z4,Z4,rfl,trivial⟩
 try simp only[nb]at w5
 refine⟨(Cl w5),(Cl w5),(Cl w5),?_⟩
 exact⟨((zs,(r7 zs (oA (ar a)).h9)),g,o,c),⟨xM w5,(hg _ (aw (d:=b7) (xM w5))).1,lh4 hr w5 (hg _ (aw (d:=b7) (xM w5))).2⟩,rfl,rfl,rfl,Z4,Z4,rfl,trivial⟩
 have hlt:=hx.1
 have Vm:=hx.2.1
 refine⟨⟨_,rfl⟩,?_⟩
 intro y hy
 rw[hy]at Vm
 refine⟨Ni (congrArg (V.own 8 · x.2.1 x.2.2.1 x.2.2.2) (splitN hy Z9)),(aT (f:=2) rfl).trans (aJ (aK Z9) rfl),?_⟩
 intro ga Pc ca
 refine⟨dH (aX (aK Z9) (cY Z9)),rfl,rfl,by(try simp only[List.length_map]at *);try simp only[List.length_append,List.length_cons,List.length_map,List.length_take,List.length_drop,List.length_nil]at *;omega,(aT (f:=2) rfl).trans (aJ (by rw[Nat.zero_add];exact aK Z9) rfl),⟨rfl,rfl,(aT (f:=2) rfl).trans (aJ (by rw[Nat.zero_add];exact aK Z9) rfl),rfl,rfl,by simp[aL,V.n,V.ns],by(try simp only[List.length_append,List.length_map,List.length_cons,List.length_nil]);(try have:=Vm);omega⟩,?_⟩
 intro LM
 refine⟨dH (aX (by rw[Nat.zero_add];exact aK Z9) (by rw[Nat.zero_add];exact cY Z9)),congrArg (V.own 2 · LM.1 LM.2.1 LM.2.2) Z8,by(try simp only[List.length_map]at *);try simp only[List.length_append,List.length_cons,List.length_map,List.length_take,List.length_drop,List.length_nil]at *;omega,(aT (f:=2) rfl).trans (aJ (by rw[Nat.zero_add];exact aK Z9) rfl),dH (aX (by rw[Nat.zero_add];exact aK Z9) (by rw[Nat.zero_add];exact cY Z9)),(aT (f:=2) rfl).trans (aJ (aK Z9) rfl),dH (aX (aK Z9) (cY Z9)),Ni (congrArg (V.own 8 · x.2.1 x.2.2.1 x.2.2.2) (lE (f:=aE) (x:=({ y with td:=y.td++[⟨a,0⟩] }:k9)) Z9)),rfl,rfl,?_⟩
 refine⟨rfl,?_⟩
 unfold Q iF
 rw[vG hr,hx.2.2,hy])
theorem yw{t:l4}{s:BL}(h:aD s=false):ao t s=t:=by
 have hr: ¬ dh t.se s:=fun c=>by have:=c.1;rw[h]at this;cases this
 unfold ao
 rw[oL hr,oO hr]
abbrev kr(n:BL)(e9:List BL):V:=.tup [bG ((oT (ax n e9)).na) ((oT (ax n e9)).a8) ((oT (ax n e9)).hs) ((oT (ax n e9)).se) ((oT (ax n e9)).lk),bV ((ax n e9).isSome)]
def ub(n:BL)(e9:List BL):o8 Tryz.prog:=.mk 32 [sV n,ay e9] [] ((n.length<=1000)/\(e9.length<=1000)/\(∀ x,x∈e9->x.length<=1000/\m4 x)) (kr n e9) [] (by
 rintro⟨hn,hl,ha⟩
 refine az (N:=40) (rs:=[.cell 4 30,.tmp 5]) Tryz.func32
  (.al fV (fun g4=>.q 1<|.q 1<|.c (pk n) []<|.q 6<|.br (.bd fV<|.st none<|.q 1<|.h (.A9 (.key 4) [2] 8)<|.h (.A9 (.key 4) [3] 1)<|.h (.A9 (.key 4) [4] 3)<|.nil) (.q 1<|.bs<|.bs<|.bs<|.bd fV<|.al fV (fun g6=>.st none<|.h (.A9 (.key 6) [2] 8)<|.h (.A9 (.key 6) [3] 1)<|.h (.A9 (.key 6) [4] 3)<|.q 1<|.loop (Nat×(List k9)×(List BL)) (fun (i,zs,se)=>⟨[(1,ay e9),(4,.ptr (.key 4) [] g4 0),(6,.ptr (.key 6) [] g6 0),(7,iN i)],[(4,(g4,.agg [sV [],iN 0,.sl true [],.sl true [],.sl true []])),(6,(g6,ly n zs se (.ow 3 ([].map ba))))]⟩) (fun (i,zs,se)=>i<=e9.length/\zs=((e9.take i).foldl ao (aV n)).hs/\se=((e9.take i).foldl ao (aV n)).se) (fun (i,zs,se)=>e9.length-i) (fun (i,zs,se)=>.q 4<|.br (.r 4 [sV (e9.getD i [])]<|.c (jW (e9.getD i [])) []<|.br (.dx 5 [1,2,3,4,0] [(4,⟨false,[],some [],[37],[]⟩),(0,⟨true,[],none,[33],[6]⟩)] []<|.q 1<|.q 1<|.r 1 [sV (e9.getD i [])]<|.q 1<|.ux none (fun _ _ _=>.c (wF n (0:Int) zs se ([]:List l8) (e9.getD i [])) []<|.st none<|.q 3<|.nil)) (.q 3<|.nil)) (.mv<|.st none<|.q 1<|.nil))))))
  ((fun v1:V=>(fun v2:V=>(∀ g4:Nat,(pk n).sm/\((n.length<=4611686018427387904))/\Pk (!(bh n)) true ((!(bh n))==false)/\Br ((!(bh n))||(s9 (((e9.map sV).length:Nat):Int) 12)) (Z g4 0/\(g4=g4)/\Q (.tup [.agg [sV [],iN 0,.ow 8 ([].map aE),.ow 1 ([].map sV),.ow 3 ([].map ba)],bV false]) (kr n e9)) (∀ g6:Nat,Z g6 0/\(∃ x:Nat×(List k9)×(List BL),match x with | (j7,NK,NW)=>(j7<=e9.length/\NK=((e9.take j7).foldl ao (aV n)).hs/\NW=((e9.take j7).foldl ao (aV n)).se)/\E (ay e9)/\E (.ptr (.key 4) [] g4 0)/\E (.ptr (.key 6) [] g6 0)/\Q (iN 0) (iN j7)/\Er g4 v1/\Qr g6 (.agg [sV n,iN 0,.ow 8 ([].map aE),.ow 1 ([].map sV),.ow 3 ([].map ba)]) g6 (ly n NK NW v2)/\True)/\∀ x:Nat×(List k9)×(List BL),match x with | (i,zs,se)=>(i<=e9.length/\zs=((e9.take i).foldl ao (aV n)).hs/\se=((e9.take i).foldl ao (aV n)).se)->Br (s8 (i:Int) (((e9.map sV).length:Nat):Int)) (Ex (i:Int) (e9.map sV) (sV (e9.getD i []))/\True/\(jW (e9.getD i [])).sm/\(((e9.getD i []).length<=4611686018427387904))/\Br (aD (e9.getD i [])) (Ex (i:Int) (e9.map sV) (sV (e9.getD i []))/\True/\(((g6:Nat),(0:Nat))=(g6,0))/\∀ _ _ _:Nat,(wF n (0:Int) zs se ([]:List l8) (e9.getD i [])).sm/\((zs.length<=1000)/\(se.length<=1000)/\((e9.getD i []).length<=1000)/\(aD (e9.getD i [])=true)/\(∀ y,y∈zs->y.td.length<=1000/\y.kn=false))/\Z g6 0/\m9 ((i:Int)+1)/\∃ x:Nat×(List k9)×(List BL),match x with | (c5,Ms,Mu)=>(c5<=e9.length/\Ms=((e9.take c5).foldl ao (aV n)).hs/\Mu=((e9.take c5).foldl ao (aV n)).se)/\(e9.length-c5<e9.length-i)/\E (ay e9)/\E (.ptr (.key 4) [] g4 0)/\E (.ptr (.key 6) [] g6 0)/\Q (iN (i+1)) (iN c5)/\Er g4 v1/\Qr g6 (bG n (0:Int) (aQ n zs se (e9.getD i [])) (cf se (e9.getD i [])) ([]:List l8)) g6 (ly n Ms Mu v2)/\True) (m9 ((i:Int)+1)/\∃ x:Nat×(List k9)×(List BL),match x with | (c5,Ms,Mu)=>(c5<=e9.length/\Ms=((e9.take c5).foldl ao (aV n)).hs/\Mu=((e9.take c5).foldl ao (aV n)).se)/\(e9.length-c5<e9.length-i)/\E (ay e9)/\E (.ptr (.key 4) [] g4 0)/\E (.ptr (.key 6) [] g6 0)/\Q (iN (i+1)) (iN c5)/\Er g4 v1/\Qr g6 (ly n zs se v2) g6 (ly n Ms Mu v2)/\True)) (Z g6 0/\Z g4 0/\(g4=g4)/\Q (.tup [ly n zs se v2,bV true]) (kr n e9))))) (.ow 3 ([].map ba))) (.agg [sV [],iN 0,.sl true [],.sl true [],.sl true []])) ?_
 intro g4
 refine⟨rfl,Z9,⟨fun _=>rfl,fun h=>by rw[h] <;> rfl⟩,?_⟩
 refine bI (fun j9=>?_) fun j9=>?_
 refine⟨rfl,?_⟩
 refine⟨rfl,?_⟩
 unfold Q kr
 rw[Dp j9];rfl
 intro g6
 refine⟨rfl,?_⟩
 refine⟨⟨(0,[],[]),?_,rfl,rfl,rfl,rfl,rfl,Z4,trivial⟩,?_⟩
 exact⟨Z8,rfl,rfl⟩
 rintro⟨i,zs,se⟩ ⟨h1,h2,h3⟩
 have K9:=kT n (e9.take i) (lN n)
 rw[List.length_take]at K9
 refine bI (fun l6=>?_) fun l6=>?_
 have hm:=ha _ (ld (show i<e9.length by omega))
 refine⟨⟨Z9,an (d:=[]) Z9⟩,trivial,rfl,Z5,?_⟩
 refine bI (fun n0=>?_) fun n0=>?_
 refine⟨⟨Z9,an (d:=[]) Z9⟩,trivial,rfl,?_⟩
 intro _ _ _
 refine⟨rfl,⟨by rw[h2];have:=K9.hl;omega,by rw[h3];have:=K9.sl;omega,hm.1,n0,fun y hy=>by rw[h2]at hy;obtain⟨a1,a2,a3,_⟩:=K9.hs y hy;exact⟨Z9,a1⟩⟩,rfl,Z9,?_⟩
 refine⟨(i+1,(aQ n zs se (e9.getD i [])),(cf se (e9.getD i []))),?_,?_,rfl,rfl,rfl,rfl,rfl,Z4,trivial⟩
 rw[foldl_succ (d:=[]) Z9]
 first
 | (rw[h2,h3];exact⟨Z9,by show _=aQ ((e9.take i).foldl ao (aV n)).na ((e9.take i).foldl ao (aV n)).hs ((e9.take i).foldl ao (aV n)).se _;rw[K9.na],rfl⟩)
 | (rw[yw n0];exact⟨Z9,h2,h3⟩)
 exact Z1
 refine⟨Z9,?_⟩
 refine⟨(i+1,zs,se),?_,?_,rfl,rfl,rfl,rfl,rfl,rfl,trivial⟩
 rw[foldl_succ (d:=[]) Z9]
 first
 | (rw[h2,h3];exact⟨Z9,by show _=aQ ((e9.take i).foldl ao (aV n)).na ((e9.take i).foldl ao (aV n)).hs ((e9.take i).foldl ao (aV n)).se _;rw[K9.na],rfl⟩)
 | (rw[yw n0];exact⟨Z9,h2,h3⟩)
 exact Z1
 refine⟨rfl,rfl,?_⟩
 refine⟨rfl,?_⟩
 unfold Q kr
 rw[List.take_of_length_le Z9]at h2 h3 K9
 rw[DD j9,h2,h3]
 refine congrArg (fun r:V=>V.tup [r,bV true]) ?_
 show V.agg _=xR (e9.foldl ao (aV n))
 rw[xR,K9.na,K9.a8,K9.lk])
end Go.Proofs.YtbjbamjffkanbaaGreatDoor
namespace Go.Pd
open Go.Abs Go.Proofs.YtbjbamjffkanbaaGreatDoor
def fF:BL:=[47,110,111,116,105,99,101]
theorem nI{d:BL}(h:bU d=true):ar (ae d)=some ⟨d,[[110,111,116,105,99,101]],false,[]⟩:=by
 have hl:d.length<=5:=by
  unfold bU y8 at h
  rw[Bool.and_eq_true]at h
  have:=of_decide_eq_true h.2
  omega
 have e:aI ⟨d,[[110,111,116,105,99,101]],false,[]⟩=true:=by
  unfold aI
  simp only[h,Bool.and_eq_true,decide_eq_true_eq]
  refine⟨⟨⟨⟨⟨trivial,Z8⟩,Z6⟩,Z6⟩,Z6⟩,?_⟩
  simp[cC,bm,bZ];omega
 have:=qz e
 rw[<- this]
 congr 1
theorem tA{d:BL}(h:bU d=true):aD (ae d)=true:=vR (by rw[nI h];rfl) (by rw[nI h];rfl)
theorem mi{d:BL}(h:bU d=true):af (ae d)=d:=by unfold af;rw[nI h];rfl
theorem DM{d:BL}(h:bU d=true):pathOf (ae d)=fF:=by unfold pathOf;rw[nI h];rfl
theorem fg{s:BL}(h:aD s=true):(ar s).isSome=true:=by unfold aD at h;rw[Bool.and_eq_true]at h;exact h.1
theorem xf{s:BL}(h:aD s=true):bU (af s)=true:=(eR (gW (fg h))).1
def cls(L:List l8)(d:BL):List Int:=(L.filter fun l=>af l.ad==d).map (·.ti)
def OL(L:List l8)(a:BL):List l8:=L.filter fun l=>l.ad==a
structure QL (w:List Pg) (L:List l8) (l:l8):Prop where
 once:pathOf l.ad≠fF->(∀ q,q∈L->q.ad=l.ad->q.ki=3)/\(OL L l.ad).length<3
 door:(∀ q,q∈L->af q.ad≠af l.ad)->pathOf l.ad=fF
 fail:∀ q,q∈L->af q.ad=af l.ad->q.ki=3->q.ti+3<=l.ti
 kind:∃ m,l.ki=(ab w l.ad m).1
 rd:aD l.ad=true
 tm:0<=l.ti/\l.ti<=5000
def BW(w:List Pg)(L:List l8):Prop:= ∀ k,k<L.length->QL w (L.take k) (L.getD k m7)
theorem BW.snoc{w:List Pg}{L:List l8}{l:l8}(h:BW w L)(q:QL w L l):BW w (L++[l]):=fun k hk=>by
 rw[List.length_append,List.length_singleton]at hk
 rcases Nat.lt_or_ge k L.length with c | c
 have:=h k c
 rw[List.take_append_of_le_length Z9,List.getD_eq_getElem?_getD,List.getElem?_append_left c,<- List.getD_eq_getElem?_getD]
 exact this
 have e:k=L.length:=Z9
 subst e
 rw[List.take_left,List.getD_eq_getElem?_getD,List.getElem?_append_right (Nat.le_refl _)]
 simpa using q
structure HI (L:List l8) (se:List BL) (y:k9):Prop where
 hn:bU y.na=true
 it:∀ x,x∈y.td->aD x.ad=true/\af x.ad=y.na/\x.ad∈se/\0<=x.tr/\x.tr<=2/\(pathOf x.ad≠fF->(∀ q,q∈L->q.ad=x.ad->q.ki=3)/\((OL L x.ad).length:Int)=x.tr)
 nd:(y.td.map (·.ad)).Nodup
 gl:y.gr.na.length<=1
 un:y.kn=false->0<=y.tr/\y.tr<=2/\y.gr.wa=0/\y.gr.ru=[]/\((cls L y.na).length:Int)=y.tr
 kn:y.kn=true->cls L y.na≠[]
 re:∀ q,q∈L->af q.ad=y.na->q.ti+1<=y.re/\(q.ki=3->q.ti+3<=y.re)/\q.ti+(y.gr.wa:Int)<=y.re
 wt:∀ k,k+1<(cls L y.na).length->(cls L y.na).getD k 0+1<=(cls L y.na).getD (k+1) 0/\(3<=k->(cls L y.na).getD k 0+(y.gr.wa:Int)<=(cls L y.na).getD (k+1) 0)
def Mm(l:List w4):Int:=(l.map fun x=>3-x.tr).sum
def hp(y:k9):Int:=(if y.kn=true then 0 else 3-y.tr)+Mm y.td
structure GI (w:List Pg) (n:BL) (t:l4):Prop where
 na:t.na=n
 al:BW w t.lk
 se:∀ s,s∈t.se->aD s=true
 sn:t.se.Nodup/\t.se.length<=60
 nd:(t.hs.map (·.na)).Nodup
 hi:∀ y,y∈t.hs->HI t.lk t.se y
 lh:∀ q,q∈t.lk->(∃ y,y∈t.hs/\y.na=af q.ad)/\(pathOf q.ad=fF\/q.ad∈t.se)
 po:(t.lk.length:Int)+(t.hs.map hp).sum<=3*((t.se.length:Int)+t.hs.length)
 hl:t.hs.length<=t.se.length
 no:0<=t.a8
theorem zh{l:List w4}(h:∀ x,x∈l->x.tr<=2):0<=Mm l:=by
 induction l with
 | nil=>simp[Mm]
 | cons a l ih=>
   have h1:=ih fun x hx=>h x (List.mem_cons_of_mem _ hx)
   have h2:=h a Z8
   simp only[Mm,List.map_cons,List.sum_cons]at h1 ⊢
   omega
theorem BC{l:List w4}(p:w4->Bool)(h:∀ x,x∈l->x.tr<=2):Mm (l.filter p)<=Mm l:=by
 induction l with
 | nil=>simp[Mm]
 | cons a l ih=>
   have h1:=ih fun x hx=>h x (List.mem_cons_of_mem _ hx)
   have h2:=h a Z8
   rw[List.filter_cons]
   split
   simp only[Mm,List.map_cons,List.sum_cons]at h1 ⊢;omega
   simp only[Mm,List.map_cons,List.sum_cons]at h1 ⊢;omega
theorem AY(l r:List w4):Mm (l++r)=Mm l+Mm r:=by
 unfold Mm
 rw[List.map_append,List.sum_append]
theorem qC{l:List w4}(h:l≠[]):Mm l=(3-(l.getD 0 j6).tr)+Mm (l.drop 1):=by
 cases l with
 | nil=>exact absurd rfl h
 | cons a l=>simp[Mm]
theorem vW{f:k9->Int}{a:k9}:∀ {l:List k9} {i:Nat},i<l.length->((l.set i a).map f).sum=(l.map f).sum-f (l.getD i b7)+f a
 | [],i,h=>by simp at h
 | b::l,0,h=>by simp;omega
 | b::l,i+1,h=>by
   have:=vW (f:=f) (a:=a) (l:=l) (i:=i) (by simpa using h)
   simp only[List.set_cons_succ,List.map_cons,List.sum_cons,List.getD_cons_succ,this];omega
theorem uy{f:k9->Int}:∀ {l:List k9},(∀ y,y∈l->0<=f y)->0<=(l.map f).sum
 | [],_=>by simp
 | a::l,h=>by
   have h1:=uy (f:=f) (l:=l) fun y hy=>h y (List.mem_cons_of_mem _ hy)
   have h2:=h a Z8
   simp only[List.map_cons,List.sum_cons];omega
theorem iJ{l:List k9}{i:Nat}{a y:k9}(hn:(l.map (·.na)).Nodup)(hi:i<l.length)(h:y∈l.set i a):y=a\/(y∈l/\y.na≠(l.getD i b7).na):=by
 obtain⟨j,hj,e⟩:=List.mem_iff_getElem.1 h
 rw[List.getElem_set]at e
 split at e
 exact .inl e.symm
 rename_i hne
 rw[List.length_set]at hj
 refine .inr ⟨by rw[<- e];exact List.getElem_mem _,fun c=>hne ?_⟩
 rw[List.getD_eq_getElem?_getD,List.getElem?_eq_getElem hi]at c
 have:=(List.getElem_inj (h₀:=by simpa using hi) (h₁:=by simpa using hj) hn).1
 exact this (by rw[List.getElem_map,List.getElem_map,e];exact c.symm)
theorem ja{l:List k9}{i:Nat}{a:k9}(hi:i<l.length)(h:a.na=(l.getD i b7).na):(l.set i a).map (·.na)=l.map (·.na):=by
 rw[List.map_set,h]
 apply List.ext_getElem Z8
 intro j h1 h2
 rw[List.getElem_set]
 split
 rename_i e;subst e;rw[List.getElem_map,List.getD_eq_getElem?_getD,List.getElem?_eq_getElem hi];rfl
 rfl
theorem dS{L:List l8}{l:l8}{d:BL}:cls (L++[l]) d=cls L d++(if af l.ad=d then [l.ti] else []):=by
 unfold cls
 rw[List.filter_append,List.map_append,List.filter_cons]
 by_cases h:af l.ad=d
 rw[if_pos (by simpa using h),if_pos h];rfl
 rw[if_neg (by simpa using h),if_neg h];rfl
theorem kW{L:List l8}{l:l8}{a:BL}:OL (L++[l]) a=OL L a++(if l.ad=a then [l] else []):=by
 unfold OL
 rw[List.filter_append,List.filter_cons]
 by_cases h:l.ad=a
 rw[if_pos (by simpa using h),if_pos h];rfl
 rw[if_neg (by simpa using h),if_neg h];rfl
theorem rL{L:List l8}{d:BL}{x:Int}(h:x∈cls L d):∃ q,q∈L/\af q.ad=d/\q.ti=x:=by
 unfold cls at h
 obtain⟨q,h1,h2⟩:=List.mem_map.1 h
 obtain⟨h3,h4⟩:=List.mem_filter.1 h1
 exact⟨q,h3,by simpa using h4,h2⟩
theorem HI.other{L:List l8}{se:List BL}{y:k9}{l:l8}(h:HI L se y)(hne:y.na≠af l.ad):HI (L++[l]) se y:=by
 have ec:cls (L++[l]) y.na=cls L y.na:=by rw[dS,if_neg (Ne.symm hne),List.append_nil]
 refine⟨h.hn,fun x hx=>?_,h.nd,h.gl,fun hk=>by rw[ec];exact h.un hk,fun hk=>by rw[ec];exact h.kn hk,fun q hq he=>?_,by rw[ec];exact h.wt⟩
 obtain⟨a1,a2,a3,a4,a5,a6⟩:=h.it x hx
 have hx:l.ad≠x.ad:=fun c=>hne (by rw[c,a2])
 refine⟨a1,a2,a3,a4,a5,fun hp=>⟨fun q hq he=>?_,?_⟩⟩
 rcases List.mem_append.1 hq with hq | hq
 exact(a6 hp).1 q hq he
 rw[List.mem_singleton.1 hq]at he;exact absurd he hx
 rw[kW,if_neg hx,List.append_nil];exact(a6 hp).2
 rcases List.mem_append.1 hq with hq | hq
 exact h.re q hq he
 rw[List.mem_singleton.1 hq]at he;exact absurd he.symm hne
theorem HI.more{L:List l8}{se W7:List BL}{y:k9}(h:HI L se y)(hs:∀ s,s∈se->s∈W7):HI L W7 y:=
 ⟨h.hn,fun x hx=>by obtain⟨a1,a2,a3,a4⟩:=h.it x hx;exact⟨a1,a2,hs _ a3,a4⟩,h.nd,h.gl,h.un,h.kn,h.re,h.wt⟩
theorem HI.core{L:List l8} {se:List BL} {y y':k9} {l:l8} (h:HI L se y) (hl:af l.ad=y.na) (MB:y'.na=y.na) (hr:y.re<=l.ti) (r1:l.ti+1<=y'.re) (r3:l.ki=3->l.ti+3<=y'.re)
 (rw_:l.ti+(y'.gr.wa:Int)<=y'.re) (hw:y.kn=true->y'.gr.wa=y.gr.wa):
 (∀ q,q∈L++[l]->af q.ad=y'.na->q.ti+1<=y'.re/\(q.ki=3->q.ti+3<=y'.re)/\q.ti+(y'.gr.wa:Int)<=y'.re)/\
 (∀ k,k+1<(cls (L++[l]) y'.na).length->(cls (L++[l]) y'.na).getD k 0+1<=(cls (L++[l]) y'.na).getD (k+1) 0/\(3<=k->(cls (L++[l]) y'.na).getD k 0+(y'.gr.wa:Int)<=(cls (L++[l]) y'.na).getD (k+1) 0)):=by
 constructor
 intro q hq he
 rcases List.mem_append.1 hq with hq | hq
 have:=h.re q hq (by rw[he,MB])
 exact⟨Z9,fun hk=>by have:=this.2.1 hk;omega,Z9⟩
 rw[List.mem_singleton.1 hq]
 exact⟨r1,r3,rw_⟩
 intro k hk
 have ec:cls (L++[l]) y'.na=cls L y.na++[l.ti]:=by rw[dS,if_pos (by rw[hl,MB]),MB]
 rw[ec]at hk ⊢
 rw[List.length_append,List.length_singleton]at hk
 have M8:y.kn=false->(cls L y.na).length<=2:=fun hk=>by have:=h.un hk;omega
 have e1:∀ j,j<(cls L y.na).length->(cls L y.na++[l.ti]).getD j 0=(cls L y.na).getD j 0:=fun j hj=>by
  rw[List.getD_eq_getElem?_getD,List.getElem?_append_left hj,<- List.getD_eq_getElem?_getD]
 rcases Nat.lt_or_ge (k+1) (cls L y.na).length with c | c
 rw[e1 k Z9,e1 _ c]
 have:=h.wt k c
 refine⟨this.1,fun h3=>?_⟩
 cases hk:y.kn with
 | false=>have:=M8 hk;omega
 | true=>rw[hw hk];exact this.2 h3
 have ek:k+1=(cls L y.na).length:=Z9
 have e2:(cls L y.na++[l.ti]).getD (k+1) 0=l.ti:=by
  rw[List.getD_eq_getElem?_getD,List.getElem?_append_right Z9,ek,Nat.sub_self];rfl
 rw[e2,e1 k Z9]
 have hm:(cls L y.na).getD k 0∈cls L y.na:=by
  rw[List.getD_eq_getElem?_getD,List.getElem?_eq_getElem Z9];exact List.getElem_mem _
 obtain⟨q,q1,q2,q3⟩:=rL hm
 have:=h.re q q1 q2
 rw[<- q3]
 refine⟨Z9,fun h3=>?_⟩
 cases hk:y.kn with
 | false=>have:=M8 hk;omega
 | true=>rw[hw hk];omega
end Go.Pd
namespace Go.Pd
open Go.Abs Go.Proofs.YtbjbamjffkanbaaGreatDoor
variable {w:List Pg} {n:BL}
theorem lq(hs:List k9)(d n:BL):((aA hs d n).getD (r7 hs d) b7).na=d:=by
 unfold aA
 split
 rename_i h
 rw[List.getD_eq_getElem?_getD,List.getElem?_eq_getElem h]
 unfold r7 at h ⊢
 have:=List.findIdx_getElem (w:=h)
 simpa using this
 rename_i h
 have e:r7 hs d=hs.length:=by
  have:r7 hs d<=hs.length:=List.findIdx_le_length
  omega
 rw[e,List.getD_eq_getElem?_getD,List.getElem?_append_right (Nat.le_refl _),Nat.sub_self]
 rfl
theorem Hd{hs:List k9}{d n:BL}(h:(hs.map (·.na)).Nodup):((aA hs d n).map (·.na)).Nodup:=by
 unfold aA
 split
 exact h
 rename_i hc
 rw[List.map_append,List.nodup_append]
 refine⟨h,Z8,fun a ha b hb e=>hc ?_⟩
 subst e
 have hb:a=d:=by simpa[bK] using hb
 subst hb
 obtain⟨y,hy,e⟩:=List.mem_map.1 ha
 exact List.findIdx_lt_length_of_exists ⟨y,hy,by simpa using e⟩
theorem Fc(y:k9)(s:BL):hp (bc y s)<=hp y+3:=by
 unfold bc
 split
 omega
 unfold hp
 simp only[AY]
 have:Mm [⟨s,0⟩]=3:=by simp[Mm]
 omega
theorem fw(y:k9)(s:BL):(bc y s).na=y.na:=by unfold bc;split <;> rfl
theorem GI.cO{t:l4}{s:BL}(h:GI w n t):GI w n (ao t s):=by
 by_cases hr:dh t.se s
 case neg=>
  have e3:cf t.se s=t.se:=if_neg hr
  have e4:aQ t.na t.hs t.se s=t.hs:=if_neg hr
  have:ao t s=t:=by unfold ao;rw[e3,e4]
  rw[this];exact h
 have e3:(ao t s).se=t.se++[s]:=if_pos hr
 have e4:(ao t s).hs=(aA t.hs (af s) t.na).set (r7 t.hs (af s)) (bc ((aA t.hs (af s) t.na).getD (r7 t.hs (af s)) b7) s):=if_pos hr
 have hlt:=cF t.hs (af s) t.na
 have MB:=lq t.hs (af s) t.na
 have hnd:=Hd (d:=af s) (n:=t.na) h.nd
 have hno:∀ q,q∈t.lk->pathOf s≠fF->q.ad≠s:=fun q hq hp c=>by
  rcases (h.lh q hq).2 with e | e
  rw[c]at e;exact hp e
  rw[c]at e;exact hr.2.2 e
 have hin:∀ y,y∈aA t.hs (af s) t.na->HI t.lk t.se y:=fun y hy=>by
  unfold aA at hy
  split at hy
  exact h.hi y hy
  rename_i hc
  rcases List.mem_append.1 hy with hy | hy
  exact h.hi y hy
  rw[List.mem_singleton.1 hy]
  have hz:∀ q,q∈t.lk->af q.ad≠af s:=fun q hq c=>by
   obtain⟨z,z1,z2⟩:=(h.lh q hq).1
   exact hc (List.findIdx_lt_length_of_exists ⟨z,z1,by simp[z2,c]⟩)
  have ec:cls t.lk (af s)=[]:=by
   unfold cls
   rw[List.filter_eq_nil_iff.2 (fun q hq=>by simpa using hz q hq)];rfl
  refine⟨xf hr.1,fun x hx=>by simp[bK]at hx,by simp[bK],by simp[bK],fun _=>⟨by simp[bK],by simp[bK],rfl,rfl,?_⟩,fun c=>by simp[bK]at c,fun q hq c=>absurd c (hz q hq),fun k hk=>?_⟩
  show ((cls t.lk (af s)).length:Int)=0
  rw[ec];rfl
  exfalso
  have hk:k+1<(cls t.lk (af s)).length:=hk
  rw[ec]at hk;simp at hk
 have Nf:∀ q,q∈t.se->q∈t.se++[s]:=fun q hq=>List.mem_append_left _ hq
 have x9:=hin _ (aw (d:=b7) hlt)
 generalize hy:(aA t.hs (af s) t.na).getD (r7 t.hs (af s)) b7=y at *
 have hH:HI t.lk (t.se++[s]) (bc y s):=by
  unfold bc
  split
  exact x9.more Nf
  have QW:=x9.more Nf
  refine⟨QW.hn,fun x hx=>?_,?_,QW.gl,QW.un,QW.kn,QW.re,QW.wt⟩
  rcases List.mem_append.1 hx with hx | hx
  exact QW.it x hx
  rw[List.mem_singleton.1 hx]
  refine⟨hr.1,MB.symm,Z8,Z8,Z8,fun hp=>⟨fun q hq c=>absurd c (hno q hq hp),?_⟩⟩
  show ((OL t.lk s).length:Int)=0
  unfold OL
  rw[List.filter_eq_nil_iff.2 (fun q hq=>by simpa using hno q hq hp)];rfl
  show ((y.td++[(⟨s,0⟩:w4)]).map (·.ad)).Nodup
  rw[List.map_append,List.nodup_append]
  refine⟨x9.nd,Z8,fun a ha b hb e=>?_⟩
  subst e
  have hb:a=s:=by simpa using hb
  subst hb
  obtain⟨x,hx,e⟩:=List.mem_map.1 ha
  exact hr.2.2 (by rw[<- e];exact(x9.it x hx).2.2.1)
 have M':((aA t.hs (af s) t.na).map hp).sum<=(t.hs.map hp).sum+3*(((aA t.hs (af s) t.na).length:Int)-t.hs.length)/\(aA t.hs (af s) t.na).length<=t.hs.length+1:=by
  unfold aA
  split
  omega
  simp only[List.map_append,List.map_cons,List.map_nil,List.sum_append,List.sum_cons,List.sum_nil,List.length_append,List.length_singleton]
  have:hp (bK (af s) t.na)=3:=by simp[hp,bK,Mm]
  omega
 refine⟨h.na,h.al,fun q hq=>?_,⟨?_,?_⟩,?_,fun z hz=>?_,fun q hq=>?_,?_,?_,h.no⟩
 rw[e3]at hq
 rcases List.mem_append.1 hq with hq | hq
 exact h.se q hq
 rw[List.mem_singleton.1 hq];exact hr.1
 rw[e3,List.nodup_append]
 refine⟨h.sn.1,Z8,fun a ha b hb e=>?_⟩
 subst e
 have hb:a=s:=by simpa using hb
 subst hb
 exact hr.2.2 ha
 rw[e3,List.length_append,List.length_singleton];have:=hr.2.1;omega
 rw[e4,ja hlt (by rw[fw,hy])]
 exact hnd
 rw[e4]at hz
 rw[e3]
 rcases iJ hnd hlt hz with e | ⟨e,_⟩
 rw[e];exact hH
 exact(hin z e).more Nf
 obtain⟨⟨z,z1,z2⟩,z3⟩:=h.lh q hq
 refine⟨?_,by rw[e3];exact z3.imp_right (Nf _)⟩
 rw[e4]
 have hz:z∈aA t.hs (af s) t.na:=by
  unfold aA
  split
  exact z1
  exact List.mem_append_left _ z1
 by_cases c:z.na=y.na
 exact⟨bc y s,List.mem_set hlt _,by rw[fw,<- c];exact z2⟩
 obtain⟨j,hj,e⟩:=List.mem_iff_getElem.1 hz
 refine⟨z,?_,z2⟩
 have hne:r7 t.hs (af s)≠j:=by
  rintro rfl
  rw[List.getD_eq_getElem?_getD,List.getElem?_eq_getElem hj]at hy
  exact c (by rw[<- e,<- hy];rfl)
 refine List.mem_iff_getElem.2 ⟨j,by simpa using hj,?_⟩
 rw[List.getElem_set,if_neg hne];exact e
 rw[e3,e4,vW hlt,hy,List.length_set,List.length_append,List.length_singleton]
 have:=Fc y s
 have:=h.po
 show (t.lk.length:Int)+_<=_
 omega
 rw[e3,e4,List.length_set,List.length_append,List.length_singleton]
 have:=h.hl
 omega
theorem GI.bL{l:List BL}:∀ {t:l4},GI w n t->GI w n (l.foldl ao t):=by
 induction l with
 | nil=>exact fun h=>h
 | cons a l ih=>exact fun h=>ih h.cO
theorem GI.zero:GI w n (aV n):=⟨rfl,fun k hk=>by simp[aV]at hk,fun s hs=>by simp[aV]at hs,by simp[aV],by simp[aV],fun y hy=>by simp[aV]at hy,fun q hq=>by simp[aV]at hq,by simp[aV],by simp[aV],by simp[aV]⟩
theorem GI.call{t:l4} {i:Nat} {y':k9} {l:l8} {a8:Int} (h:GI w n t) (hi:i<t.hs.length) (hl:af l.ad=(t.hs.getD i b7).na) (q:QL w t.lk l) (MB:y'.na=(t.hs.getD i b7).na) (hH:HI (t.lk++[l]) t.se y')
 (ho:pathOf l.ad=fF\/l.ad∈t.se) (hp1:hp y'+1<=hp (t.hs.getD i b7)) (Wi:0<=a8):GI w n ⟨t.na,a8,t.hs.set i y',t.se,t.lk++[l]⟩:=by
 refine⟨h.na,h.al.snoc q,h.se,h.sn,?_,fun z hz=>?_,fun z hz=>?_,?_,by simpa using h.hl,Wi⟩
 show ((t.hs.set i y').map (·.na)).Nodup
 rw[ja hi MB];exact h.nd
 rcases iJ h.nd hi hz with e | ⟨e,e2⟩
 rw[e];exact hH
 exact(h.hi z e).other (by rw[hl];exact e2)
 show (∃ y,y∈t.hs.set i y'/\y.na=af z.ad)/\_
 have key:∀ d,(∃ y,y∈t.hs/\y.na=d)->∃ y,y∈t.hs.set i y'/\y.na=d:=fun d ⟨y,y1,y2⟩=>by
  have:d∈(t.hs.set i y').map (·.na):=by
   rw[ja hi MB];exact List.mem_map.2 ⟨y,y1,y2⟩
  obtain⟨y,y1,y2⟩:=List.mem_map.1 this
  exact⟨y,y1,y2⟩
 rcases List.mem_append.1 hz with hz | hz
 exact⟨key _ (h.lh z hz).1,(h.lh z hz).2⟩
 rw[List.mem_singleton.1 hz]
 exact⟨key _ ⟨_,aw (d:=b7) hi,hl.symm⟩,ho⟩
 show ((t.lk++[l]).length:Int)+((t.hs.set i y').map hp).sum<=3*((t.se.length:Int)+(t.hs.set i y').length)
 rw[vW hi,List.length_set,List.length_append,List.length_singleton]
 have:=h.po
 omega
theorem Gu{k:Int}(h:0<=k/\k<=2):2<=cR (k+1):=by
 unfold cR
 split
 omega
 split
 omega
 split <;> omega
theorem pD{y:k9}{a8 k m:Int}(hm:0<=m/\m<=2):a8+1<=(cL y a8 k m).re/\(k=3->a8+3<=(cL y a8 k m).re)/\a8+(y.gr.wa:Int)<=(cL y a8 k m).re:=by
 have:=Gu hm
 unfold cL
 simp only
 split
 exact⟨Z9,fun _=>by omega,Z9⟩
 rename_i c;exact⟨Z9,fun h=>absurd h c,Z9⟩
theorem JN{t:l4}{i:Nat}(h:GI w n t)(hi:i<t.hs.length)(hk:(t.hs.getD i b7).kn=false)(hr:(t.hs.getD i b7).re<=t.a8)(K9:0<=t.a8/\t.a8<=5000):GI w n (OR w t i):=by
 have hy:=h.hi _ (aw (d:=b7) hi)
 unfold OR
 generalize x9:t.hs.getD i b7=y at *
 have Pz:=mi hy.hn
 have Vp:=DM hy.hn
 obtain⟨u1,u2,u3,u4,u5⟩:=hy.un hk
 have Nl:=pD (y:=y) (a8:=t.a8) (k:=(ab w (ae y.na) y.tr).1) (m:=y.tr) ⟨u1,u2⟩
 have hq:QL w t.lk ⟨t.a8,ae y.na,(ab w (ae y.na) y.tr).1⟩:=by
  refine⟨fun c=>absurd Vp c,fun _=>Vp,fun q hq he h3=>?_,⟨_,rfl⟩,tA hy.hn,K9⟩
  have:=(hy.re q hq (by rw[he];exact Pz)).2.1 h3
  show q.ti+3<=t.a8
  omega
 have hit:∀ x,x∈y.td->pathOf x.ad≠fF->ae y.na≠x.ad:=fun x _ hp c=>hp (by rw[<- c];exact Vp)
 have Rc:∀ x,x∈y.td->aD x.ad=true/\af x.ad=y.na/\x.ad∈t.se/\0<=x.tr/\x.tr<=2/\(pathOf x.ad≠fF->(∀ q,q∈t.lk++[⟨t.a8,ae y.na,(ab w (ae y.na) y.tr).1⟩]->q.ad=x.ad->q.ki=3)/\((OL (t.lk++[⟨t.a8,ae y.na,(ab w (ae y.na) y.tr).1⟩]) x.ad).length:Int)=x.tr):=fun x hx=>by
  obtain⟨a1,a2,a3,a4,a5,a6⟩:=hy.it x hx
  refine⟨a1,a2,a3,a4,a5,fun hp=>⟨fun q hq he=>?_,?_⟩⟩
  rcases List.mem_append.1 hq with hq | hq
  exact(a6 hp).1 q hq he
  rw[List.mem_singleton.1 hq]at he;exact absurd he (hit x hx hp)
  rw[kW,if_neg (hit x hx hp),List.append_nil];exact(a6 hp).2
 have hcl:cls (t.lk++[⟨t.a8,ae y.na,(ab w (ae y.na) y.tr).1⟩]) y.na=cls t.lk y.na++[t.a8]:=by rw[dS,if_pos Pz]
 refine h.call hi (by rw[x9];exact Pz) hq ?_ ?_ (.inl Vp) ?_ K9.1
 rw[x9];unfold Ml;split <;> rfl
 unfold Ml
 split
 rename_i hc
 obtain⟨k1,k2⟩:=hy.core (y':={ n9 w y t.a8 with tr:=y.tr+1 }) (l:=⟨t.a8,ae y.na,(ab w (ae y.na) y.tr).1⟩) Pz rfl hr Nl.1 Nl.2.1 Nl.2.2 (fun c=>by rw[hk]at c;cases c)
 refine⟨hy.hn,Rc,hy.nd,hy.gl,fun _=>⟨by show 0<=y.tr+1;omega,by show y.tr+1<=2;omega,u3,u4,?_⟩,fun c=>?_,k1,k2⟩
 show ((cls _ y.na).length:Int)=y.tr+1
 rw[hcl,List.length_append,List.length_singleton];omega
 have c:y.kn=true:=c
 rw[hk]at c;cases c
 have Xy:(n9 w y t.a8).re=(cL y t.a8 (ab w (ae y.na) y.tr).1 y.tr).re:=rfl
 obtain⟨k1,k2⟩:=hy.core (y':={ n9 w y t.a8 with kn:=true,gr:=bg w t.na y.na,re:=max (n9 w y t.a8).re (t.a8+((bg w t.na y.na).wa:Int)),td:=y.td.filter (MP (bg w t.na y.na).ru) }) (l:=⟨t.a8,ae y.na,(ab w (ae y.na) y.tr).1⟩) Pz rfl hr
  (by show t.a8+1<=max (n9 w y t.a8).re (t.a8+((bg w t.na y.na).wa:Int));rw[Xy];have:=Nl.1;omega)
  (fun h3=>by show t.a8+3<=max (n9 w y t.a8).re (t.a8+((bg w t.na y.na).wa:Int));rw[Xy];have:=Nl.2.1 h3;omega)
  (by show t.a8+((bg w t.na y.na).wa:Int)<=max (n9 w y t.a8).re (t.a8+((bg w t.na y.na).wa:Int));omega) (fun c=>by rw[hk]at c;cases c)
 refine⟨hy.hn,fun x hx=>Rc x (List.mem_filter.1 hx).1,List.Nodup.sublist (List.filter_sublist.map _) hy.nd,Nat.le_refl 1,(fun c=>by cases c),fun _=>?_,k1,k2⟩
 show cls _ y.na≠[]
 rw[hcl];simp
 rw[x9]
 unfold Ml
 split
 show (if y.kn=true then 0 else 3-(y.tr+1))+Mm y.td+1<=hp y
 unfold hp
 rw[hk]
 simp only[Bool.false_eq_true,if_false];omega
 show (if true=true then 0 else _)+Mm (y.td.filter _)+1<=hp y
 have:=BC (MP (bg w t.na y.na).ru) (l:=y.td) fun x hx=>(hy.it x hx).2.2.2.2.1
 unfold hp
 rw[hk]
 simp only[Bool.false_eq_true,if_false,if_true];omega
theorem Jg{t:l4}{i:Nat}(h:GI w n t)(hi:i<t.hs.length)(hk:(t.hs.getD i b7).kn=true)(hne:(t.hs.getD i b7).td≠[])(hr:(t.hs.getD i b7).re<=t.a8)(K9:0<=t.a8/\t.a8<=5000):GI w n (LQ w t i):=by
 have hy:=h.hi _ (aw (d:=b7) hi)
 unfold LQ
 simp only
 generalize x9:t.hs.getD i b7=y at *
 have G6:=List.length_pos_iff.2 hne
 have hit:=hy.it _ (aw (d:=j6) G6)
 have Ve:=qC hne
 have MJ:(y.td.getD 0 j6).ad ∉ (y.td.drop 1).map (·.ad)/\((y.td.drop 1).map (·.ad)).Nodup:=by
  have:=hy.nd
  cases P':y.td with
  | nil=>exact absurd P' hne
  | cons a r=>rw[P']at this;simpa using List.nodup_cons.1 this
 generalize Py:y.td.getD 0 j6=x0 at *
 obtain⟨a1,a2,a3,a4,a5,a6⟩:=hit
 have Nl:=pD (y:={ y with td:=y.td.drop 1 }) (a8:=t.a8) (k:=(ab w x0.ad x0.tr).1) (m:=x0.tr) ⟨a4,a5⟩
 have hq:QL w t.lk ⟨t.a8,x0.ad,(ab w x0.ad x0.tr).1⟩:=by
  refine⟨fun c=>⟨(a6 c).1,by have:=(a6 c).2;show (OL t.lk x0.ad).length<3;omega⟩,fun hc=>?_,fun q hq he h3=>?_,⟨_,rfl⟩,a1,K9⟩
  exfalso
  have:=hy.kn hk
  obtain⟨z,hz⟩:=List.exists_mem_of_ne_nil _ this
  obtain⟨q,q1,q2,_⟩:=rL hz
  exact hc q q1 (by rw[q2];exact a2.symm)
  have:=(hy.re q hq (by rw[he];exact a2)).2.1 h3
  show q.ti+3<=t.a8
  omega
 have hcl:cls (t.lk++[⟨t.a8,x0.ad,(ab w x0.ad x0.tr).1⟩]) y.na=cls t.lk y.na++[t.a8]:=by rw[dS,if_pos a2]
 have Rc:∀ x,x∈y.td.drop 1->aD x.ad=true/\af x.ad=y.na/\x.ad∈t.se/\0<=x.tr/\x.tr<=2/\(pathOf x.ad≠fF->(∀ q,q∈t.lk++[⟨t.a8,x0.ad,(ab w x0.ad x0.tr).1⟩]->q.ad=x.ad->q.ki=3)/\((OL (t.lk++[⟨t.a8,x0.ad,(ab w x0.ad x0.tr).1⟩]) x.ad).length:Int)=x.tr):=fun x hx=>by
  have N4:x0.ad≠x.ad:=fun c=>MJ.1 (by rw[c];exact List.mem_map.2 ⟨x,hx,rfl⟩)
  obtain⟨b1,b2,b3,b4,b5,b6⟩:=hy.it x (List.mem_of_mem_drop hx)
  refine⟨b1,b2,b3,b4,b5,fun hp=>⟨fun q hq he=>?_,?_⟩⟩
  rcases List.mem_append.1 hq with hq | hq
  exact(b6 hp).1 q hq he
  rw[List.mem_singleton.1 hq]at he;exact absurd he N4
  rw[kW,if_neg N4,List.append_nil];exact(b6 hp).2
 have M8:∀ {P:Prop},(y.kn=false->P):=fun c=>by rw[hk]at c;cases c
 have O1:cls (t.lk++[⟨t.a8,x0.ad,(ab w x0.ad x0.tr).1⟩]) y.na≠[]:=by rw[hcl];simp
 have c1:GI w n ⟨t.na,t.a8,t.hs.set i (A8 w y t.a8),t.se,t.lk++[⟨t.a8,x0.ad,(ab w x0.ad x0.tr).1⟩]⟩:=by
  have S7:A8 w y t.a8=cL { y with td:=y.td.drop 1 } t.a8 (ab w x0.ad x0.tr).1 x0.tr:=by unfold A8;rw[Py]
  rw[S7]
  obtain⟨k1,k2⟩:=hy.core (y':=cL { y with td:=y.td.drop 1 } t.a8 (ab w x0.ad x0.tr).1 x0.tr) (l:=⟨t.a8,x0.ad,(ab w x0.ad x0.tr).1⟩) a2 rfl hr Nl.1 Nl.2.1 Nl.2.2 (fun _=>rfl)
  refine h.call hi (by rw[x9];exact a2) hq (by rw[x9];rfl) ⟨hy.hn,Rc,MJ.2,hy.gl,M8,fun _=>O1,k1,k2⟩ (.inr a3) ?_ K9.1
  rw[x9]
  show (if y.kn=true then 0 else 3-y.tr)+Mm (y.td.drop 1)+1<=hp y
  unfold hp
  omega
 split
 rename_i hc
 have S7:({ A8 w y t.a8 with td:=y.td.drop 1++[⟨x0.ad,x0.tr+1⟩] }:k9)={ cL { y with td:=y.td.drop 1 } t.a8 (ab w x0.ad x0.tr).1 x0.tr with td:=y.td.drop 1++[⟨x0.ad,x0.tr+1⟩] }:=by unfold A8;rw[Py]
 rw[S7]
 obtain⟨k1,k2⟩:=hy.core (y':={ cL { y with td:=y.td.drop 1 } t.a8 (ab w x0.ad x0.tr).1 x0.tr with td:=y.td.drop 1++[⟨x0.ad,x0.tr+1⟩] }) (l:=⟨t.a8,x0.ad,(ab w x0.ad x0.tr).1⟩) a2 rfl hr Nl.1 Nl.2.1 Nl.2.2 (fun _=>rfl)
 refine h.call hi (by rw[x9];exact a2) hq (by rw[x9];rfl) ⟨hy.hn,fun x hx=>?_,?_,hy.gl,M8,fun _=>O1,k1,k2⟩ (.inr a3) ?_ K9.1
 rcases List.mem_append.1 hx with hx | hx
 exact Rc x hx
 rw[List.mem_singleton.1 hx]
 refine⟨a1,a2,a3,by show 0<=x0.tr+1;omega,by show x0.tr+1<=2;omega,fun hp=>⟨fun q hq he=>?_,?_⟩⟩
 rcases List.mem_append.1 hq with hq | hq
 exact(a6 hp).1 q hq he
 rw[List.mem_singleton.1 hq];exact hc.1
 show ((OL _ x0.ad).length:Int)=x0.tr+1
 rw[kW,if_pos rfl,List.length_append,List.length_singleton]
 have:=(a6 hp).2
 omega
 show ((y.td.drop 1++[(⟨x0.ad,x0.tr+1⟩:w4)]).map (·.ad)).Nodup
 rw[List.map_append,List.nodup_append]
 refine⟨MJ.2,Z8,fun a ha b hb e=>?_⟩
 subst e
 have hb:a=x0.ad:=by simpa using hb
 subst hb
 exact MJ.1 ha
 rw[x9]
 show (if y.kn=true then 0 else 3-y.tr)+Mm (y.td.drop 1++[⟨x0.ad,x0.tr+1⟩])+1<=hp y
 have:Mm [⟨x0.ad,x0.tr+1⟩]=3-(x0.tr+1):=by simp[Mm]
 unfold hp
 rw[AY]
 omega
 exact c1.bL
theorem GK(t:l4):∀ i,i<=t.hs.length->(J2 t i=(-1,0))\/∃ j:Nat,(J2 t i).1=(j:Int)/\(J2 t i).2=max (t.hs.getD j b7).re t.a8
 | 0,_=>.inl rfl
 | i+1,hi=>by
   rw[pH Z9]
   unfold ou
   split
   exact .inr ⟨i,rfl,rfl⟩
   exact GK t i Z9
theorem xQ{t:l4}(h:K3 t=true):s6 t=max (t.hs.getD (m6 t) b7).re t.a8:=by
 unfold K3 at h
 rw[Bool.and_eq_true]at h
 have h1:=h.1
 unfold m6 s6
 unfold jB at h1 ⊢
 split at h1
 cases h1
 rename_i c
 rw[if_neg c]
 rcases GK t _ (Nat.le_refl _) with e | ⟨j,e1,e2⟩
 rw[e]at c;exact absurd (.inl Z6) c
 simp only[Option.map_some,Option.getD_some,e1,e2,Int.toNat_natCast]
theorem Ch{t:l4}(h:K3 t=true):(t.hs.getD (m6 t) b7).re<=s6 t:=by have:=xQ h;omega
theorem GI.at_{t:l4}{a8:Int}(h:GI w n t)(hn:0<=a8):GI w n { t with a8:=a8 }:=⟨h.na,h.al,h.se,h.sn,h.nd,h.hi,h.lh,h.po,h.hl,hn⟩
theorem iP{t:l4}(h:GI w n t)(hg:K3 t=true):GI w n (A7 w t):=by
 have hx:=jA hg
 have hr:=Ch hg
 have hno:=h.no
 have hw:0<=s6 t/\s6 t<=5000:=⟨Z9,hx.2.2.2⟩
 unfold A7
 split
 rename_i hk
 exact Jg (h.at_ hw.1) hx.1 hk hx.2.1 hr hw
 rename_i hk
 exact JN (h.at_ hw.1) hx.1 (by simpa using hk) hr hw
theorem ud:∀ (k:Nat) {t:l4},GI w n t->GI w n (D1 w k t)
 | 0,_,h=>h
 | k+1,t,h=>by
   unfold D1
   split
   rename_i hg;exact ud k (iP h hg)
   exact h
theorem ia{e9:List BL}{t:l4}(h:ax n e9=some t):GI w n t:=by
 unfold ax at h
 split at h
 cases h;exact GI.zero.bL
 cases h
theorem hX{e9:List BL}{t:l4}(h:ax n e9=some t):aZ t=true:=by
 have hg:=ia (w:=[]) h
 unfold ax at h
 split at h
 case isFalse=>cases h
 rename_i hc
 have hn:=kT n e9 (lN n)
 rw[Option.some.inj h]at hn
 have hI:∀ {a b c:Int},a<=b->b<=c->y8 b a c=true:=fun h1 h2=>decide_eq_true ⟨h1,h2⟩
 unfold aZ
 simp only[Bool.and_eq_true,List.all_eq_true,decide_eq_true_eq]
 refine⟨⟨⟨⟨⟨by rw[hn.na];exact hc.1,by rw[hn.a8];decide⟩,?_⟩,by rw[hn.lk];rfl⟩,fun y hy=>⟨?_,?_⟩⟩,hg.nd⟩
 unfold cQ
 simp only[Bool.and_eq_true,List.all_eq_true,decide_eq_true_eq]
 exact⟨⟨hg.sn.2,hg.sn.1⟩,hg.se⟩
 obtain⟨b1,b2,_,b4,b5⟩:=hn.hs y hy
 unfold dg
 rw[b1,b2,b4,b5,hn.na]
 simp only[Bool.and_eq_true,Bool.false_eq_true,if_false,decide_eq_true_eq]
 exact⟨⟨⟨⟨(hg.hi y hy).hn,Z6⟩,Z6⟩,Z8⟩,Z8⟩
 have hI:=hg.hi y hy
 unfold cP
 simp only[Bool.and_eq_true,List.all_eq_true,decide_eq_true_eq]
 refine⟨⟨?_,fun x hx=>?_⟩,hI.nd⟩
 have:=jO (u:=t.se) hI.nd fun a ha=>by
  obtain⟨x,hx,e⟩:=List.mem_map.1 ha
  rw[<- e];exact(hI.it x hx).2.2.1
 simpa using this
 obtain⟨a1,a2,a3,a4,a5,_⟩:=hI.it x hx
 exact⟨⟨⟨a1,by simpa using a2⟩,by simpa using a3⟩,decide_eq_true ⟨a4,a5⟩⟩
end Go.Pd
namespace Go.Proofs.YtbjbamjffkanbaaGreatDoor
open Go Go.Abs Go.RowKit Go.Pd
set_option maxRecDepth 20000
def fe(w:List Pg)(n:BL)(e9:List BL):o8 Tryz.prog:=.mk 11 [bS w,sV n,ay e9] [] ((w.length<=30)/\(∀ i,m8 (w.getD i l5))/\(n.length<=1000)/\(e9.length<=400)/\(∀ x,x∈e9->x.length<=1000/\m4 x)) (bV ((ax n e9).isSome&&aq w)) [] (by
 rintro⟨hw,hz,hn,hl,ha⟩
 refine az (N:=20) (rs:=[.tmp 6]) Tryz.func11
  (.q 1<|.q 2<|.c (ub n e9) []<|.mv<|.mv<|.q 1<|.al fV (fun g7=>.st none<|.q 1<|.q 3<|.cg (xg w)<|.q 2<|.nil))
  ((ub n e9).sm/\((n.length<=1000)/\(e9.length<=1000)/\(∀ x,x∈e9->x.length<=1000/\m4 x))/\∀ g7:Nat,Z g7 0/\Gd (((ax n e9).isSome)==true) (((w.length<=1000)/\(∀ i,(w.getD i l5).addr.length<=1000000/\(w.getD i l5).lead.length<=1000000))/\(xg w).sm)/\Pk ((ax n e9).isSome) (((ax n e9).isSome)==true) true/\Q (bV (((ax n e9).isSome)&&(aq w))) (bV ((ax n e9).isSome&&aq w))) ?_
 refine⟨rfl,⟨hn,Z9,ha⟩,?_⟩
 intro g7
 refine⟨rfl,fun hG=>⟨⟨by(try simp only[nb]at hG);omega,fun i=>⟨by have:=(hz i).a;omega,by have:=(hz i).l;omega⟩⟩,rfl⟩,⟨fun h=>by rw[h] <;> rfl,fun _=>rfl⟩,?_⟩
 unfold Q
 rfl)
end Go.Proofs.YtbjbamjffkanbaaGreatDoor
namespace Go.Abs
open Go Go.ChangeShapes Go.RowKit
theorem mT{H:Type} {enc:TypeId×Value->H} {P:Program} {t e:TypeId} (ht:P.underlying t=some (.slice e)) (he:P.underlying e=some (.int .u8)) (hc:P.cellsOf e=1) {W:World} {a0:Option Addr} {len cap:Nat} {d0:DataW H} {p:List MemPlace}
 (h0:DataW.Trod enc P W 0 (fun _=>true) true t (.slice a0 len cap) d0 p):∃ b:BL,b.length=len/\len<=9223372036854775807/\RVs W (· < W.heap.size) [.sl false (b.map n6)] [.slice a0 len cap] []:=by
 have mk:∀ (b:BL),b.length=len->len<=cap->(b=[]\/∃ g o,a0=some ⟨g,o,none⟩/\g<W.heap.size/\∀ j u,(b.map fun c=>Value.int .u8 c.toNat)[j]? =some u->W.cell? ⟨g,o+j,none⟩=some u)->RVs W (· < W.heap.size) [.sl false (b.map n6)] [.slice a0 len cap] []:=by
  intro b hb hl hx
  refine⟨_,[],[],[],rfl,rfl,?_,rfl,rfl⟩
  refine⟨rfl,a0,cap,by rw[List.length_map,hb],by rw[List.length_map,hb];exact hl,(fun h=>by cases h),?_⟩
  rcases hx with rfl | ⟨g,o,rfl,hg,r8⟩
  exact .inl rfl
  refine .inr ⟨g,o,1,b.map (fun c=>Value.int .u8 c.toNat),rfl,hg,Z9,?_,?_,r8⟩
  intro x hx
  obtain⟨c,_,rfl⟩:=List.mem_map.1 hx
  rfl
  clear r8 hb
  induction b with
  | nil=>exact⟨rfl,rfl⟩
  | cons c r ih=>exact⟨[.int .u8 c.toNat],r.map (fun c=>Value.int .u8 c.toNat),[],[],rfl,rfl,⟨rfl,rfl,rfl⟩,ih⟩
 obtain⟨fuel,hf⟩:=h0
 rcases open_ints ht he hc hf with ⟨hcs,hx⟩ | ⟨a,len',cap',zs,hcs,_,hl,hm,hz,hx,r8,hwz⟩
 simp[Value.cells]at hcs
 obtain⟨rfl,rfl,rfl⟩:=hcs
 exact⟨[],rfl,Z9,mk [] rfl (Nat.le_refl _) (.inl rfl)⟩
 simp[Value.cells]at hcs
 obtain⟨rfl,rfl,rfl⟩:=hcs
 simp only[if_true]at hz
 have Q4:maxLen=9223372036854775807:=rfl
 have hb:((zs.take len).map fun z=>UInt8.ofNat z.toNat).length=len:=Z0
 refine⟨(zs.take len).map fun z=>UInt8.ofNat z.toNat,hb,Z9,mk _ hb hl ?_⟩
 by_cases h0:len=0
 left;exact List.eq_nil_of_length_eq_zero Z9
 right
 obtain⟨g,o,s⟩:=a
 have Ov:=r8 0 Z9
 obtain rfl:s=none:=by simpa[Addr.add] using World.cell?_spot Ov
 refine⟨g,o,rfl,by have:=World.block_lt_of_cell? _ _ Ov;simpa[Addr.add] using this,fun j u hu=>?_⟩
 rw[List.getElem?_map,List.getElem?_map,List.getElem?_take]at hu
 split at hu
 rename_i hj
 have Vk:j<zs.length:=Z9
 rw[List.getElem?_eq_getElem Vk]at hu
 simp only[Option.map_some,Option.some.injEq]at hu
 have hw:=hwz zs[j] (List.getElem_mem Vk)
 have WG:0<=zs[j]/\zs[j]<256:=by
  have h1:IntKind.u8.min=0:=rfl
  have h2:IntKind.u8.max=255:=rfl
  simp only[Lit.wf,Bool.and_eq_true,decide_eq_true_eq]at hw
  omega
 have XM:=r8 j Vk
 have ea:(⟨g,o,none⟩:Addr).add j=⟨g,o+j,none⟩:=by unfold Addr.add;by_cases h0:j=0 <;> simp[h0]
 rw[ea]at XM
 rw[XM,<- hu]
 simp only[List.getD_eq_getElem?_getD,List.getElem?_eq_getElem Vk,Option.getD_some,Option.some.injEq,Value.int.injEq,true_and]
 rw[UInt8.toNat_ofNat_of_lt' (by show zs[j].toNat<256;omega)]
 omega
 simp at hu
theorem qe{P:Program}{n:String}{d:DataW Unit}{r:List (String×DataW Unit)}{W:World}{g:Nat}{x:Value}(h:laidMet P ((n,d)::r) W)(hg:P.globalNamed n=some g)(hv:W.var? P n=some #[x]):∃ t,W.heap[g]? =some (.cells #[x] t (0,0)):=by
 obtain⟨ps,⟨g0,t0,XX,f0,p0,q0,S6,_,hv0,_,_,e0⟩,_,Ur⟩:=h
 obtain rfl:=Option.some.inj (hg.symm.trans S6)
 obtain rfl:=Option.some.inj (hv.symm.trans hv0)
 subst e0
 obtain⟨c,t,hc⟩:=(Ur g 0 (by simp[MemPlace.row])).1
 refine⟨t,?_⟩
 unfold World.var? at hv
 rw[hg,Option.bind_some,hc]at hv
 rw[hc]
 simpa using hv
theorem wN{w:World}{Pb Pb':Nat->Prop}:∀ {b:BL} {cs:List Value},RL w Pb (b.map n6) cs []->RL w Pb' (b.map n6) cs []/\∀ c r,b=c::r->∃ k,cs[0]? =some (.int .u8 k)
 | [],cs,h=>⟨h,fun c r e=>by cases e⟩
 | c::b,cs,h=>by
   obtain⟨c1,c2,F1,F2,rfl,e,h1,h2⟩:=h
   obtain⟨rfl,rfl⟩:=List.append_eq_nil_iff.1 e.symm
   obtain⟨k1,k2,_⟩:=h1
   subst k2
   exact⟨⟨_,c2,[],[],rfl,rfl,⟨k1,rfl,rfl⟩,(wN h2).1⟩,fun c r e=>⟨_,rfl⟩⟩
theorem u8_in{W:World}{b:BL}{v x:Value}{t:TypeId}(hv:RVs W (· < W.heap.size) [.sl false (b.map n6)] [v] [])(h0:W.heap[0]? =some (.cells #[x] t (0,0)))(hx:∀ k,x≠.int .u8 k):
 R W (fun g=>g<W.heap.size/\g≠0) (.sl false (b.map n6)) [v] []:=by
 obtain⟨x,xs,Fa,Fb,e1,e2,k1,k2⟩:=(tP _).1 hv
 simp only[List.cons.injEq]at e1
 obtain⟨rfl,rfl⟩:=e1
 have e3:Fa=[]:=(List.append_eq_nil_iff.1 e2.symm).1
 subst e3
 have k1:R W (· < W.heap.size) (.sl false (b.map n6)) [v] []:=k1
 obtain⟨_,A,c,hA,hl,hf,Mh⟩:=k1
 refine⟨rfl,A,c,hA,hl,hf,?_⟩
 rcases Mh with Mh | ⟨bl,o,sz,flat,q1,q2,q3,q4,q5,q6⟩
 exact .inl Mh
 obtain⟨r1,r2⟩:=wN (Pb':=fun g=>g<W.heap.size/\g≠0) q5
 cases UM:b with
 | nil=>exact .inl rfl
 | cons c0 b0=>
   obtain⟨k,hk⟩:=r2 c0 b0 UM
   refine .inr ⟨bl,o,sz,flat,q1,⟨q2,?_⟩,q3,by rw[<- UM];exact q4,by rw[<- UM];exact r1,q6⟩
   rintro rfl
   have:=q6 0 _ hk
   rw[Nat.add_zero]at this
   simp only[World.cell?,h0]at this
   cases o with
   | zero=>
     exact hx k (by simpa using this)
   | succ o=>simp at this
theorem GF{P:Program} {f:FuncId} {T:TypeId} {vs:List V} {ea:Addr} {W:World} {t:TypeId}
 (h:PF P f vs [(9000,(0,.lit (.iface T (.pointer (some ea)))))] (fun r h=>r=bV true/\h=[(9000,(0,.lit (.iface T (.pointer (some ea)))))])) {xs:List Value} (hl:xs.length=vs.length)
 (hv:∀ (i:Nat) (w:V) (x:Value),vs[i]? =some w->xs[i]? =some x->RV W (fun g=>g<W.heap.size/\g≠0) w x []) (h0:W.heap[0]? =some (.cells #[.iface T (.pointer (some ea))] t (0,0))):
 Calls P f xs.toArray W fun e W'=>e=.returned (.bool true)/\Below W.heap.size W W':=by
 have b7:0<W.heap.size:=(Array.getElem?_eq_some_iff.1 h0).1
 let F:l7->List Nat:=fun r=>match r with
  | .key k=>if k=9000 then [0] else []
  | .slot _=>[]
 have hi:VB W (fun g=>g<W.heap.size/\g≠0) (fun g=>g<W.heap.size/\g≠0) vs xs [(9000,(0,.lit (.iface T (.pointer (some ea)))))] F:=by
  have hF:∀ r g,g∈F r->r=.key 9000/\g=0:=fun r g hg=>by
   cases r with
   | slot i=>simp[F]at hg
   | key k=>
     simp only[F]at hg
     split at hg
     rename_i e;exact⟨by rw[e],by simpa using hg⟩
     simp at hg
  refine⟨hl,fun i w x hx hy=>hv i w x hx hy,fun k g w hk=>?_,fun i hi=>rfl,fun r r' hne g h1 h2=>?_,fun r=>?_,fun r g hg=>?_,fun _ h=>h,fun _ h=>h.1⟩
  simp only[lk]at hk
  split at hk
  rename_i e
  subst e
  simp only[Option.some.injEq,Prod.mk.injEq]at hk
  obtain⟨rfl,rfl⟩:=hk
  refine⟨[],by simp[F],[.iface T (.pointer (some ea))],#[.iface T (.pointer (some ea))],⟨t,(0,0),h0,fun i _ h=>by omega⟩,⟨rfl,rfl,rfl⟩,fun j u hu=>?_⟩
  cases j with
  | zero=>simpa using hu
  | succ j=>simp at hu
  cases hk
  exact hne ((hF r g h1).1.trans (hF r' g h2).1.symm)
  cases r with
  | slot i=>exact List.nodup_nil
  | key k=>simp only[F];split <;> simp
  obtain⟨_,rfl⟩:=hF r g hg
  exact⟨fun c=>c.2 rfl,b7⟩
 refine(h.2 W _ _ xs F hi).mono ?_
 rintro e W' ⟨r,x,H',Pb',C9,F',rfl,⟨rfl,rfl⟩,hf⟩
 have G':=hf.val
 obtain⟨_,e1,_⟩:=G'
 simp only[List.cons.injEq,and_true]at e1
 refine⟨by rw[e1],hf.eF.os,hf.eF.tape,hf.eF.output,hf.eF.size,fun k hk=>?_⟩
 by_cases Pj:k=0
 subst Pj
 obtain⟨c',k1,k2⟩:=hf.eF.shape 0 _ _ _ h0
 obtain⟨F1,_,cs,cells,⟨e',Vy,k3,_⟩,⟨_,k4,_⟩,k5⟩:=hf.root 9000 0 (.lit (.iface T (.pointer (some ea)))) rfl
 subst k4
 rw[k1]at k3
 simp only[Option.some.injEq,Obj.cells.injEq]at k3
 obtain⟨rfl,_,_⟩:=k3
 have k6:=k5 0 _ rfl
 rw[h0,k1]
 congr 1
 congr 1
 apply Array.ext
 simpa using k2
 intro i h1 h2
 have hi:i=0:=by simp at h2;exact h2
 subst hi
 have:c'[0]? =some (Value.iface T (.pointer (some ea))):=by simpa using k6
 rw[Array.getElem?_eq_getElem h1]at this
 simpa using this
 exact hf.eF.block k ⟨hk,Pj⟩
theorem BY{P:Program} {f:FuncId} {T:TypeId}
 (h:∀ (b:BL) (ea:Addr),b.length<=9223372036854775807->PF P f [.sl false (b.map n6)] [(9000,(0,.lit (.iface T (.pointer (some ea)))))] (fun r h=>r=bV true/\h=[(9000,(0,.lit (.iface T (.pointer (some ea)))))]))
 {W:World} {v:Value} {b:BL} {ea:Addr} {t:TypeId} (hb:b.length<=9223372036854775807) (hv:RVs W (· < W.heap.size) [.sl false (b.map n6)] [v] []) (h0:W.heap[0]? =some (.cells #[.iface T (.pointer (some ea))] t (0,0))):
 Calls P f #[v] W fun e W'=>e=.returned (.bool true)/\Below W.heap.size W W':=
 GF (h b ea hb) (xs:=[v]) rfl (fun i w x hx hy=>by
  cases i with
  | succ i=>simp at hx
  | zero=>
    simp only[List.getElem?_cons_zero,Option.some.injEq]at hx hy
    subst hx hy
    exact u8_in hv h0 fun k e=>by cases e) h0
theorem sq{P:Program} {f:FuncId} {T:TypeId}
 (h:∀ (b c:BL) (ea:Addr),b.length<=9223372036854775807->c.length<=9223372036854775807->PF P f [.sl false (b.map n6),.sl false (c.map n6)] [(9000,(0,.lit (.iface T (.pointer (some ea)))))] (fun r h=>r=bV true/\h=[(9000,(0,.lit (.iface T (.pointer (some ea)))))]))
 {W:World} {v u:Value} {b c:BL} {ea:Addr} {t:TypeId} (hb:b.length<=9223372036854775807) (hc:c.length<=9223372036854775807) (hv:RVs W (· < W.heap.size) [.sl false (b.map n6)] [v] []) (hu:RVs W (· < W.heap.size) [.sl false (c.map n6)] [u] []) (h0:W.heap[0]? =some (.cells #[.iface T (.pointer (some ea))] t (0,0))):
 Calls P f #[v,u] W fun e W'=>e=.returned (.bool true)/\Below W.heap.size W W':=
 GF (h b c ea hb hc) (xs:=[v,u]) rfl (fun i w x hx hy=>by
  match i with
  | i+2=>simp at hx
  | 0=>
    simp only[List.getElem?_cons_zero,Option.some.injEq]at hx hy
    subst hx hy
    exact u8_in hv h0 fun k e=>by cases e
  | 1=>
    simp only[List.getElem?_cons_succ,List.getElem?_cons_zero,Option.some.injEq]at hx hy
    subst hx hy
    exact u8_in hu h0 fun k e=>by cases e) h0
end Go.Abs
